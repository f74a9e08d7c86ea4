/-
  A part of the proof of FnUsedFromUptoSaid (see the last file): no condition.
-/
import Derived.Test.YthllacimcjakdaaGreatUfrB
set_option linter.all false
set_option linter.unusedVariables false
set_option linter.unusedSimpArgs false
set_option linter.unusedSectionVars false
set_option maxRecDepth 10000
set_option maxHeartbeats 4000000
namespace Go.Abs
open Go.Proofs
theorem PN (code:LI) (hl:code.length<=1048576:=by exact ob) (hc:∀z∈code,0<=z/\z<=255):Zi 48 [WW code] [] (fun r h=>∃(rd:Nat) (bs:LI),r=.p rd 0/\h=[.obj rd [WW bs,.i 0]]/\∀z∈bs,0<=z/\z<=255):=by
 refine ZB 11 Tryz.func48 (ar (Z0 1 (ie (aq (ar (Z0 1 (iw (TR code) (Z0 1 (ie (Xo (fun fz gz F h=>F=sF [] fz [(0,WW (if (code.length:Int)>2000 then (code.take 2000) else code))]/\h=gz) ?_ ?_))))))))))
 ·refine ZH ((code.length:Int)>2000) (fun Za=>?_) (fun Za=>?_)
  ·exact az (Z0 1 (Zn (Kw (es:=Uf code) (hv:=none) (l:=0) (m:=2000) (sz:=1) (es':=Uf (code.take 2000)) kr om (by simp<;>omega) (by simp<;>omega) (On _) (by first|(simp only [U0,V9,Ef,Ee];done)|(simp only [U0,V9,Ef,Ee];rfl)|(simp [Ef,Ee];done))) (Z0 1 (ie (ZF ⟨rfl,rfl⟩ (wk [] (fc (x:=WW (code.take 2000)) (Zf.sl _ (Yg Uf (by first|rfl|(rw [Zw Za])|(rw [Zs Za])|(simp [Za];done)|(rw [Xi];simp [Za];done)|omega))) fl)))))))
  exact ak (ZF ⟨rfl,rfl⟩ (wk [] (fc (x:=WW code) (Zf.sl _ (Yg Uf (by first|rfl|(rw [Zw Za])|(rw [Zs Za])|(simp [Za];done)|(rw [Xi];simp [Za];done)|omega))) fl)))
 rintro F h ⟨rfl,rfl⟩
 exact ar (Z0 2 (iA [WW (if (code.length:Int)>2000 then (code.take 2000) else code),.i 0] fun b1=>Z0 1 (ie (Z9 (r1 [0] ⟨b1,(if (code.length:Int)>2000 then (code.take 2000) else code),rfl,rfl,(by first|exact hc|exact fun z hz=>hc z (Tl hz)|(split<;>first|exact hc|exact fun z hz=>hc z (Tl hz)))⟩)))))
theorem Xs (rd:Nat) (bs:LI) (p:Nat) (mx:Int) (Zq:∀z∈bs,0<=z/\z<=255) (hp:p+1<=1000000000:=by exact ob):Zi 50 [.p rd 0,.i mx] [Y4 rd bs p] (fun r h=>∃(k:Int),r=.i k/\h=[.obj rd [WW bs,.i (p+1:Nat)]]/\Pk mx k):=by
 refine ZB 99 Tryz.func50 (ar (Z0 1 (ie (ar (Z6 5 [0] (ZE p (Z0 2 (Zy 0 rd [WW bs,.i (p+1:Nat)] (ie (aq (ar (Xr [0,1] [(24,.b ((decide (mx<1))||((bs.length:Int)==0)))] (fun gz=>gz) ?_ ?_))))))))))))
 ·refine Z0 3 (ib (b:=(decide (mx<1))) 17 (fun Zb=>?_) (fun Zb=>?_))
  ·exact Z0 7 (ie (wk [0] (ZJ true Zb fl)))
  exact Z6 4 [0] (iw (TR bs) (Z0 2 (ie (wk [0] (ZJ ((bs.length:Int)==0) Zb fl)))))
 refine ac ((decide (mx<1))||((bs.length:Int)==0)) (p:=(mx<1)∨((bs.length:Int)=0)) (X3 dq Zz) (fun Za=>?_) (fun Za=>?_)
 ·exact ar (Z0 1 (ie (Z9 (r1 [0] ⟨0,rfl,rfl,Pk.zero⟩))))
 refine ak (ar (Z6 4 [0] (ia ((p:Int)) ((((p+1:Nat):Int))-(1)) (Z0 1 (ie (aq (ar (Z6 5 [0] (iw (TR bs) (Z0 1 (ie (ZH ((p:Int)<(bs.length:Int)) (fun Zg=>?_) (fun Zg=>?_)))))))))))))
 ·refine ar (Z6 5 [0] ?_)
  obtain ⟨x1,Z2⟩:=Zp bs p om
  have hz:=Zq _ (ZU Z2)
  exact Zn (Zh none (p:Int) 1 (Ai Z2)) (Z0 1 (Zn (Av x1 om) (Z0 1 (Zn (Bs x1 mx om om) (Z0 1 (ie (Z9 (r1 [0] ⟨(x1 % mx),rfl,rfl,(Pk.rem om om)⟩))))))))
 have hq1:p / bs.length<=p:=Nat.div_le_self _ _
 have hq0:(0:Int)<=((p / bs.length:Nat):Int):=Int.natCast_nonneg _
 refine ak (aD 46 (ZD 37 46 [0,1,2,3,4,5,6,7,8] [0,0] (dw 9 (TR bs) (dx 10 (CJ p bs.length om om) ?_))))
 obtain ⟨x2,Zt⟩:=Zp bs (p % bs.length) (Nat.mod_lt _ om)
 have hz:=Zq _ (ZU Zt)
 refine dx 11 (Zh none ((p % bs.length:Nat):Int) 1 (Ai Zt)) (Zj 33 34 [12] (dx 13 (Av x2 om) (da 14 ((x2*131)) ((x2)*(131)) (ZD 26 31 [15,16,17,18,19] [0] (da 20 (((p*7:Nat):Int)) (((p:Int))*(7)) (da 21 (((p*7+3:Nat):Int)) ((((p*7:Nat):Int))+(3)) (ZD 20 24 [22,23,24,25] [0] (dw 26 (TR bs) (dx 27 (CJ (p*7+3) bs.length om om) ?_)))))))))
 obtain ⟨x3,YQ⟩:=Zp bs ((p*7+3) % bs.length) (Nat.mod_lt _ om)
 have hz3:=Zq _ (ZU YQ)
 exact dx 28 (Zh none (((p*7+3) % bs.length:Nat):Int) 1 (Ai YQ)) (Zj 16 17 [29] (dx 30 (Av x3 om) (da 31 ((x3*1117)) ((x3)*(1117)) (da 32 (((x2*131)+(x3*1117))) (((x2*131))+((x3*1117))) (Zj 12 13 [33] (da 34 (((p*29:Nat):Int)) (((p:Int))*(29)) (da 35 ((((x2*131)+(x3*1117))+((p*29:Nat):Int))) ((((x2*131)+(x3*1117)))+(((p*29:Nat):Int))) (ZD 5 10 [36,37,38,39,40] [0] (dw 41 (TR bs) (dx 42 (JM p bs.length om om) (da 43 ((((p / bs.length:Nat):Int)*53)) ((((p / bs.length:Nat):Int))*(53)) (da 44 (((((x2*131)+(x3*1117))+((p*29:Nat):Int))+(((p / bs.length:Nat):Int)*53))) (((((x2*131)+(x3*1117))+((p*29:Nat):Int)))+((((p / bs.length:Nat):Int)*53))) (Zj 0 1 [45] (de (ar (Z0 2 (Zn (EU ((((x2*131)+(x3*1117))+((p*29:Nat):Int))+(((p / bs.length:Nat):Int)*53)) 64 om om) (Zn (HZ ((((x2*131)+(x3*1117))+((p*29:Nat):Int))+(((p / bs.length:Nat):Int)*53)) (((((x2*131)+(x3*1117))+((p*29:Nat):Int))+(((p / bs.length:Nat):Int)*53)) / 64)) (Z0 1 (ie (ar (Z0 2 (Zn (Bs (Kz ((((x2*131)+(x3*1117))+((p*29:Nat):Int))+(((p / bs.length:Nat):Int)*53)) (((((x2*131)+(x3*1117))+((p*29:Nat):Int))+(((p / bs.length:Nat):Int)*53)) / 64)) mx om (Dz ⟨by omega,by omega⟩ ⟨by omega,by omega⟩).1) (Z0 1 (ie (Z9 (r1 [0] ⟨((Kz ((((x2*131)+(x3*1117))+((p*29:Nat):Int))+(((p / bs.length:Nat):Int)*53)) (((((x2*131)+(x3*1117))+((p*29:Nat):Int))+(((p / bs.length:Nat):Int)*53)) / 64)) % mx),rfl,rfl,(Pk.rem (Dz ⟨by omega,by omega⟩ ⟨by omega,by omega⟩).1 om)⟩)))))))))))))))))))))))))))
theorem WA (rd:Nat) (bs:LI) (p:Nat) (xs:LI) (Zq:∀z∈bs,0<=z/\z<=255) (hp:p+1<=1000000000:=by exact ob) (hx:0<xs.length/\xs.length<=1000000:=by exact ob):Zi 72 [.p rd 0,Z5 xs] [Y4 rd bs p] (fun r h=>∃(z:Int),r=.i z/\h=[.obj rd [WW bs,.i (p+1:Nat)]]/\z∈xs):=by
 refine ZB 12 Tryz.func72 (ar (Z0 1 (ie (ar (Z0 3 (iw (Y2 xs) (ic [0] (Xs rd bs p (xs.length:Int) (Zq:=ob)) ?_)))))))
 rintro _ _ ⟨k1,rfl,rfl,ZT⟩
 have hk:=ZT.lt om
 obtain ⟨x1,Z2⟩:=Zp xs k1.toNat om
 exact Zn (Zh none k1 1 (ZQ Z2)) (Z0 2 (ie (Z9 (r1 [0] ⟨x1,rfl,rfl,(ZU Z2)⟩))))
theorem Uw (fs:LI) :Zi 144 [Z5 fs] [] (Ym (C4 (Y0.mk fs))):=by
 exact ZB 5 Tryz.func144 (ar (iA [nl] fun b1=>ie (ar (Z0 2 (Zy 0 b1 [Z5 fs] (ie (Z9 (r3 [] [.agg [Z5 fs]] [0] [(b1,b1)] ⟨rfl,rfl⟩ (Zf.agg (.cons (Zf.sl _ (Yg Z7 ob)) .nil))))))))))
theorem Hu (rd:Nat) (bs:LI) (p:Nat) (Zq:∀z∈bs,0<=z/\z<=255) (hp:p+1<=1000000000:=by exact ob):Zi 143 [.p rd 0] [Y4 rd bs p] (fun r h=>∃(ds:List Zd) (v:Hd),r=.h v/\h=[rK v 3 (Zc (YM ds)),.obj rd [WW bs,.i (p+1:Nat)]]/\GD ds):=by
 refine ZB 51 Tryz.func143 (ar (Z0 1 (ie (ar (iL (Z7 []) 0 1 fun v1=>ZA 0 [(8,Z5 [])] (Zr [] (Uw []) (iL (Z7 [0,1]) 2 1 fun v2=>ZA 0 [(10,Z5 [0,1])] (Zr [] (Uw [0,1]) (iL (W6 [Y0.mk [],Y0.mk [0,1]]) 2 1 fun v3=>Z0 1 (iA [.i 0,.i 0,nl] fun b1=>Zy 0 b1 [.i 0,.i 0,CY [Y0.mk [],Y0.mk [0,1]] v3] (ie (ar (iL (Z7 []) 0 1 fun v4=>ZA 0 [(14,Z5 [])] (Zr [] (Uw []) (iL (Z7 [3,0,3]) 3 1 fun v5=>ZA 0 [(16,Z5 [3,0,3])] (Zr [] (Uw [3,0,3]) (iL (W6 [Y0.mk [],Y0.mk [3,0,3]]) 2 1 fun v6=>Z0 1 (iA [.i 0,.i 0,nl] fun b2=>Zy 0 b2 [.i 0,.i 0,CY [Y0.mk [],Y0.mk [3,0,3]] v6] (ie (ar (iL (Z7 [1,3]) 2 1 fun v7=>ZA 0 [(20,Z5 [1,3])] (Zr [] (Uw [1,3]) (iL (W6 [Y0.mk [1,3]]) 1 1 fun v8=>Z0 2 (iL (Z7 [1,1,0]) 3 1 fun v9=>ZA 0 [(25,Z5 [1,1,0])] (Zr [] (Uw [1,1,0]) (iL (Z7 [0]) 1 1 fun v10=>ZA 0 [(27,Z5 [0])] (Zr [] (Uw [0]) (iL (Z7 [3]) 1 1 fun v11=>ZA 0 [(29,Z5 [3])] (Zr [] (Uw [3]) (iL (W6 [Y0.mk [1,1,0],Y0.mk [0],Y0.mk [3]]) 3 1 fun v12=>ZA 2 [(23,.agg [.i 0,.i 0,TZ [Y0.mk [1,3]]]),(24,.agg [.i 1,.i 0,.sl [] none]),(32,.agg [.i 0,.i 0,TZ [Y0.mk [1,1,0],Y0.mk [0],Y0.mk [3]]]),(33,.agg [.i 0,.i 1,.sl [] none])] (iL (YM [Zd.mk 0 0 [Y0.mk [1,3]],Zd.mk 1 0 [],Zd.mk 0 0 [Y0.mk [1,1,0],Y0.mk [0],Y0.mk [3]],Zd.mk 0 1 []]) 4 3 fun v13=>Z0 1 (ie (ar (Tz 3 [(35,.agg [.i 0,.i 0,TZ [Y0.mk [],Y0.mk [0,1]]]),(36,.agg [.i 0,.i 0,.sl [] none]),(37,.agg [.i 0,.i 0,TZ [Y0.mk [],Y0.mk [3,0,3]]])] [11,7] (Rl (Zc (YM [Zd.mk 0 0 [Y0.mk [],Y0.mk [0,1]],Zd.mk 0 0 [],Zd.mk 0 0 [Y0.mk [],Y0.mk [3,0,3]]])) 3 3 fun g1=>Z0 1 (ie (ar (Z0 1 (ic [16] (Xs rd bs p 5 (Zq:=ob)) ?_)))))))))))))))))))))))))))))))))))))))
 rintro _ _ ⟨k1,rfl,rfl,ZT⟩
 have hk:=ZT.lt om
 refine Z0 1 (ie (aq (ar (Z0 2 (ie (ZH (k1<4) (fun Za=>?_) (fun Za=>?_)))))))
 ·refine az (Z0 3 ?_)
  obtain ⟨x1,Z2⟩:=Zp [Zd.mk 0 0 [Y0.mk [1,3]],Zd.mk 1 0 [],Zd.mk 0 0 [Y0.mk [1,1,0],Y0.mk [0],Y0.mk [3]],Zd.mk 0 1 []] k1.toNat (by show k1.toNat<4;omega)
  exact Zn (Zh (some v13) k1 3 (VE Z2)) (Z0 1 (iL (YM [x1]) 1 3 fun v14=>ZA 0 [(48,YB [x1])] (CE 2 3 (⟨some ⟨g1,0,none⟩,3,3⟩:Hd) 3 (Zc (YM [Zd.mk 0 0 [Y0.mk [],Y0.mk [0,1]],Zd.mk 0 0 [],Zd.mk 0 0 [Y0.mk [],Y0.mk [3,0,3]]])) (YM [x1]) none rfl (Ka _) (Ch _) (by simp [YM]) (by simp<;>omega) fun v15=>Z0 1 (ie (ar (Z0 2 (ie (Z9 (r1 [0,1] ⟨([K6,Zd.mk 0 0 [],K7]++[x1]),v15,rfl,rfl,(GD.four Z2)⟩ (eq:=(rr (ls:=Zc (YM [Zd.mk 0 0 [Y0.mk [],Y0.mk [0,1]],Zd.mk 0 0 [],Zd.mk 0 0 [Y0.mk [],Y0.mk [3,0,3]]])++Zc (YM [x1])) (Eu _ _) (rc rz))))))))))))
 exact ak (ar (Z0 2 (ie (Z9 (r1 [1,0] ⟨[K6,Zd.mk 0 0 [],K7],(⟨some ⟨g1,0,none⟩,3,3⟩:Hd),rfl,rfl,GD.three⟩ (eq:=(rr (ls:=Zc (YM [Zd.mk 0 0 [Y0.mk [],Y0.mk [0,1]],Zd.mk 0 0 [],Zd.mk 0 0 [Y0.mk [],Y0.mk [3,0,3]]])) rfl (rc rz))))))))
theorem Pu (rd:Nat) (bs:LI) (p:Nat) (Zq:∀z∈bs,0<=z/\z<=255) (hp:p+1<=1000000000:=by exact ob):Zi 143 [.p rd 0] [Y4 rd bs p] (fun r h=>∃(ds:List Zd) (v:Value),r=QK ds v/\h=[.tail v 3,.obj rd [WW bs,.i (p+1:Nat)]]/\GD ds):=(Hu rd bs p Zq hp).frz (es:=YM) (hs:=fun _=>[.obj rd [WW bs,.i (p+1:Nat)]]) Ka om
theorem P3 (rd:Nat) (bs:LI) (p:Nat) (Zq:∀z∈bs,0<=z/\z<=255) (hp:p+5<=1000000000:=by exact ob):Zi 101 [.p rd 0] [Y4 rd bs p] (fun r h=>∃(dz:List Zd) (p2:Nat),r=YB dz/\h=[Y4 rd bs p2]/\AD dz/\p<=p2/\p2<=p+5):=by
 refine ZB 89 Tryz.func101 (ar (Z0 1 (ie (ar (Z0 1 (ic [0] (Hu rd bs p (Zq:=ob)) ?_))))))
 rintro _ _ ⟨ds1,v1,rfl,rfl,ZT⟩
 have hgl:=ZT.len
 have hga:=ZT.ad
 refine CD 0 ds1.length (v:=v1) (JE _) om (fun g1 c1 he1=>?_)
 subst he1
 refine Z0 1 (ie (ar (Z0 2 (io (.i ds1.length) (.i ds1.length) (lr _) (ic [1] (Xs rd bs (p+1) (ds1.length:Int) (Zq:=ob)) ?_)))))
 rintro _ _ ⟨k1,rfl,rfl,Y6⟩
 have qhp2:=Y6.lt om
 refine Z0 1 (ie (aq (ar (Z0 1 (ic [0] (Xs rd bs ((p+1)+1) 14 (Zq:=ob)) ?_)))))
 rintro _ _ ⟨k2,rfl,rfl,YA⟩
 have qhp3:=YA.lt om
 refine ie (ab 0 (ar (Z0 2 (ie (KS (fun fz gz F h=>∃(dq:List Zd) (vq:Hd) (pq:Nat),(AD dq)/\(p<=pq/\pq<=p+5)/\F=sF [] fz [(3,.h vq)]/\h=[Y4 rd bs pq,rK vq 3 (Zc (YM dq))]) (fun _ _=>rfl) ?_ ?_)))))
 ·refine ac (k2==0) Zz (fun Za=>?_) (fun Za=>?_)
  ·refine az (Z0 3 (iL (Z7 [-1,5,0,2]) 4 1 fun v2=>ZA 0 [(18,Z5 [-1,5,0,2])] (ic [1] (WA rd bs (((p+1)+1)+1) [-1,5,0,2] (Zq:=ob)) ?_)))
   rintro _ _ ⟨z1,rfl,rfl,YJ⟩
   refine Z0 1 (iL (Z7 [0,1,5]) 3 1 fun v3=>ZA 0 [(21,Z5 [0,1,5])] (ic [1] (WA rd bs ((((p+1)+1)+1)+1) [0,1,5] (Zq:=ob)) ?_))
   rintro _ _ ⟨z2,rfl,rfl,YU⟩
   exact Z0 1 (Zn (XB g1 ds1.length c1 k1.toNat 3 k1) (ZA 0 [(23,.agg [.i z1,.i z2,.sl [] none])] (Bo 3 g1 ds1.length c1 3 (k1.toNat * 3) [.i z1,.i z2,.sl [] none] (Zc (YM ds1)) (Zc (YM (ds1.set k1.toNat (Zd.mk z1 z2 [])))) (by rw [JE];simp only [Yw,YV];omega) (Cq (Zd.mk z1 z2 []) om) (ie (ZF ⟨(ds1.set k1.toNat (Zd.mk z1 z2 [])),(⟨some ⟨g1,0,none⟩,ds1.length,c1⟩:Hd),((((p+1)+1)+1)+1)+1,(hga.set _ (by simp)),ob,rfl,rfl⟩ (wk [1,0] fl))))))
  refine ar (Z0 2 (ie (ac (k2==1) Zz (fun Zg=>?_) (fun Zg=>?_))))
  ·refine az (Z0 3 (iL (Z7 [-1,0,4,5]) 4 1 fun v4=>ZA 0 [(30,Z5 [-1,0,4,5])] (ic [1] (WA rd bs (((p+1)+1)+1) [-1,0,4,5] (Zq:=ob)) ?_)))
   rintro _ _ ⟨z3,rfl,rfl,XI⟩
   exact iL (Z7 [z3]) 1 1 fun v5=>ZA 0 [(32,Z5 [z3])] (Zr [] (Uw [z3]) (iL (Z7 [0,0,0,0]) 4 1 fun v6=>ZA 0 [(34,Z5 [0,0,0,0])] (Zr [] (Uw [0,0,0,0]) (iL (Z7 []) 0 1 fun v7=>ZA 0 [(36,Z5 [])] (Zr [] (Uw []) (iL (W6 [Y0.mk [z3],Y0.mk [0,0,0,0],Y0.mk []]) 3 1 fun v8=>Z0 1 (Zn (XB g1 ds1.length c1 k1.toNat 3 k1) (ZA 0 [(39,.agg [.i 0,.i 0,TZ [Y0.mk [z3],Y0.mk [0,0,0,0],Y0.mk []]])] (Bo 6 g1 ds1.length c1 3 (k1.toNat * 3) [.i 0,.i 0,TZ [Y0.mk [z3],Y0.mk [0,0,0,0],Y0.mk []]] (Zc (YM ds1)) (Zc (YM (ds1.set k1.toNat (Zd.mk 0 0 [Y0.mk [z3],Y0.mk [0,0,0,0],Y0.mk []])))) (by rw [JE];simp only [Yw,YV];omega) (Cq (Zd.mk 0 0 [Y0.mk [z3],Y0.mk [0,0,0,0],Y0.mk []]) om) (ie (ZF ⟨(ds1.set k1.toNat (Zd.mk 0 0 [Y0.mk [z3],Y0.mk [0,0,0,0],Y0.mk []])),(⟨some ⟨g1,0,none⟩,ds1.length,c1⟩:Hd),(((p+1)+1)+1)+1,(hga.set _ (by simp)),ob,rfl,rfl⟩ (wk [5,0] fl))))))))))))
  refine ar (Z0 2 (ie (ac (k2==2) Zz (fun ZK=>?_) (fun ZK=>?_))))
  ·exact az (Z0 3 (ia ((k1+1)) ((k1)+(1)) (iL (Z7 [k1+1]) 1 1 fun v9=>ZA 0 [(47,Z5 [k1+1])] (Zr [] (Uw [k1+1]) (iL (W6 [Y0.mk [k1+1]]) 1 1 fun v10=>Z0 1 (Zn (XB g1 ds1.length c1 k1.toNat 3 k1) (ZA 0 [(50,.agg [.i 0,.i 0,TZ [Y0.mk [k1+1]]])] (Bo 3 g1 ds1.length c1 3 (k1.toNat * 3) [.i 0,.i 0,TZ [Y0.mk [k1+1]]] (Zc (YM ds1)) (Zc (YM (ds1.set k1.toNat (Zd.mk 0 0 [Y0.mk [(k1+1)]])))) (by rw [JE];simp only [Yw,YV];omega) (Cq (Zd.mk 0 0 [Y0.mk [(k1+1)]]) om) (ie (ZF ⟨(ds1.set k1.toNat (Zd.mk 0 0 [Y0.mk [(k1+1)]])),(⟨some ⟨g1,0,none⟩,ds1.length,c1⟩:Hd),((p+1)+1)+1,(hga.set _ (by simp)),ob,rfl,rfl⟩ (wk [3,0] fl)))))))))))
  refine ar (Z0 2 (ie (ac (k2==3) Zz (fun Yi=>?_) (fun Yi=>?_))))
  ·refine az (Z0 2 (iL (Z7 [0,2,1]) 3 1 fun v11=>ZA 0 [(56,Z5 [0,2,1])] (ic [1] (WA rd bs (((p+1)+1)+1) [0,2,1] (Zq:=ob)) ?_)))
   rintro _ _ ⟨z4,rfl,rfl,Wd⟩
   exact ZA 1 [(58,.agg [.i 2,.i z4,.sl [] none])] (iL (YM [Zd.mk 2 z4 []]) 1 3 fun v12=>ZA 0 [(59,YB [Zd.mk 2 z4 []])] (CE 3 ds1.length (⟨some ⟨g1,0,none⟩,ds1.length,c1⟩:Hd) 3 (Zc (YM ds1)) (YM [Zd.mk 2 z4 []]) none (JE _) (Ka _) (Ch _) (by simp [YM]) (by simp<;>omega) fun v13=>Z0 1 (ie (ZF ⟨(ds1++[Zd.mk 2 z4 []]),v13,(((p+1)+1)+1)+1,(hga.app (by simp;omega) (by simp)),ob,rfl,rfl⟩ (wk [2,0] fl (e:=(rc (rr (ls:=Zc (YM ds1)++Zc (YM [Zd.mk 2 z4 []])) (Eu _ _) rz))))))))
  refine ar (Z0 2 (ie (ac (k2==4) Zz (fun Xt=>?_) (fun Xt=>?_))))
  ·refine az (Z0 3 (ic [0] (Xs rd bs (((p+1)+1)+1) 2 (Zq:=ob)) ?_))
   rintro _ _ ⟨k3,rfl,rfl,WM⟩
   have qhp8:=WM.lt om
   refine iL (Z7 []) 0 1 fun v14=>ZA 0 [(67,Z5 [])] (Zr [] (Uw []) (iL (Z7 [2]) 1 1 fun v15=>ZA 0 [(69,Z5 [2])] (Zr [] (Uw [2]) (iL (Z7 []) 0 1 fun v16=>ZA 0 [(71,Z5 [])] (Zr [] (Uw []) (iL (Z7 []) 0 1 fun v17=>ZA 0 [(73,Z5 [])] (Zr [] (Uw []) (iL (W6 [Y0.mk [],Y0.mk [2],Y0.mk [],Y0.mk []]) 4 1 fun v18=>Z0 1 (ic [5] (Xs rd bs ((((p+1)+1)+1)+1) 3 (Zq:=ob)) ?_)))))))))
   rintro _ _ ⟨k4,rfl,rfl,V1⟩
   have qhp9:=V1.lt om
   exact Zn (Kw (es:=W6 [Y0.mk [],Y0.mk [2],Y0.mk [],Y0.mk []]) (hv:=some v18) (l:=k4) (m:=(((W6 [Y0.mk [],Y0.mk [2],Y0.mk [],Y0.mk []]).length:Nat):Int)) (sz:=1) (es':=W6 ([Y0.mk [],Y0.mk [2],Y0.mk [],Y0.mk []].drop k4.toNat)) kr om (by simp<;>omega) (by simp<;>omega) (Eh _) (by first|(simp only [U0,V9,Ei,Eg];done)|(simp only [U0,V9,Ei,Eg];rfl)|(simp [Ei,Eg];done))) (Z0 1 (Zn (XB g1 ds1.length c1 k1.toNat 3 k1) (Bo 6 g1 ds1.length c1 3 (k1.toNat * 3) [.i k3,.i 0,TZ ([Y0.mk [],Y0.mk [2],Y0.mk [],Y0.mk []].drop k4.toNat)] (Zc (YM ds1)) (Zc (YM (ds1.set k1.toNat (Zd.mk k3 0 ([Y0.mk [],Y0.mk [2],Y0.mk [],Y0.mk []].drop k4.toNat))))) (by rw [JE];simp only [Yw,YV];omega) (Cq (Zd.mk k3 0 ([Y0.mk [],Y0.mk [2],Y0.mk [],Y0.mk []].drop k4.toNat)) om) (ie (ZF ⟨(ds1.set k1.toNat (Zd.mk k3 0 ([Y0.mk [],Y0.mk [2],Y0.mk [],Y0.mk []].drop k4.toNat))),(⟨some ⟨g1,0,none⟩,ds1.length,c1⟩:Hd),((((p+1)+1)+1)+1)+1,(hga.set _ ⟨by simp,fun c hc=>(by decide:∀c∈[Y0.mk [],Y0.mk [2],Y0.mk [],Y0.mk []],c.fields.length<=4) c (List.mem_of_mem_drop hc)⟩),ob,rfl,rfl⟩ (wk [1,0] fl))))))
  refine ar (Z0 2 (ie (ac (k2==5) Zz (fun Xu=>?_) (fun Xu=>?_))))
  ·exact az (ZA 3 [(84,.agg [.i 0,.i 0,.sl [] none]),(85,.agg [.i 3,.i 0,.sl [] none])] (iL (YM [Zd.mk 0 0 [],Zd.mk 3 0 []]) 2 3 fun v19=>ZA 0 [(86,YB [Zd.mk 0 0 [],Zd.mk 3 0 []])] (CE 2 ds1.length (⟨some ⟨g1,0,none⟩,ds1.length,c1⟩:Hd) 3 (Zc (YM ds1)) (YM [Zd.mk 0 0 [],Zd.mk 3 0 []]) none (JE _) (Ka _) (Ch _) (by simp [YM]) (by simp<;>omega) fun v20=>Z0 1 (ie (ZF ⟨(ds1++[Zd.mk 0 0 [],Zd.mk 3 0 []]),v20,((p+1)+1)+1,(hga.app (by simp;omega) (by simp)),ob,rfl,rfl⟩ (wk [2,0] fl (e:=(rc (rr (ls:=Zc (YM ds1)++Zc (YM [Zd.mk 0 0 [],Zd.mk 3 0 []])) (Eu _ _) rz)))))))))
  exact ak (ZF ⟨ds1,(⟨some ⟨g1,0,none⟩,ds1.length,c1⟩:Hd),((p+1)+1)+1,hga,ob,rfl,rfl⟩ (wk [0,0] fl))
 rintro F h ⟨dq,vq,pq,TW,ER,rfl,rfl⟩
 exact ar (Z0 2 (ie (RX 2 1 (v:=vq) (YM dq) (Ka _) (Z9 (r2 [1] [QK dq vq.v] ⟨dq,pq,rfl,rfl,⟨TW,ER⟩⟩ (Zf.forget _ _))))))
theorem Z2m (ds:List Zd) (n:Nat) (hz:Jo ds:=by exact ob) (hn:n<ds.length:=by exact ob):Zi 172 [YB ds,.i n] [] (Ym (.b (Jw ds n))):=by
 have hl_ds:ds.length<=4294967296:=by have:=hz.len;omega
 refine ZB 100 Tryz.func172 (ar (Z0 1 (ie (ar (Z0 2 ?_)))))
 obtain ⟨x1,Z2⟩:=Zp ds n om
 have hdo:=GO Z2
 have hz1:=hz.cons_at Z2
 refine Zn (Zh none (n:Int) 3 (VE Z2)) (Z0 1 (iA [.i 0,.i 0,nl] fun b1=>Zy 0 b1 (EZ x1) (ie (aq (ar (Z6 2 [0] (iw (QA x1.cons) (Z0 1 (ie (ZH ((x1.cons.length:Int)>0) (fun Za=>?_) (fun Za=>?_)))))))))))
 ·refine aq (ar (Z6 2 [0] (iw (QA x1.cons) (WO 9 [0,5] [(24,.b ((decide ((x1.cons.length:Int)>3))||(x1.frm != 0)))] (fun gz=>gz) ?_ (fun hj1=>?_)))))
  ·refine Xr [0,5] [(29,.b (((decide ((x1.cons.length:Int)>3))||(x1.frm != 0))||(x1.to_ != 0)))] (fun gz=>gz) ?_ ?_
   ·refine Z0 1 (ib (b:=((decide ((x1.cons.length:Int)>3))||(x1.frm != 0))) 25 (fun Zb=>?_) (fun Zb=>?_))
    ·have ZT:((x1.cons.length:Int)>3)∨(x1.frm≠0):=((X3 dq X4)).1 Zb
     exact Z0 4 (ie (wk [0] (ZJ true Zb fl)))
    have Y6:¬(((x1.cons.length:Int)>3)∨(x1.frm≠0)):=YH (X3 dq X4) Zb
    exact Z6 4 [0] (ie (wk [0] (ZJ (x1.to_ != 0) Zb fl)))
   refine ac (((decide ((x1.cons.length:Int)>3))||(x1.frm != 0))||(x1.to_ != 0)) (p:=(((x1.cons.length:Int)>3)∨(x1.frm≠0))∨(x1.to_≠0)) (X3 (X3 dq X4) X4) (fun Zg=>?_) (fun Zg=>?_)
   ·exact ar (Z0 1 (ie (Z9 (ZZ (.b false) (lb (by clear Z2;first|rfl|omega|grind [K8]))))))
   refine ak (aq (ar (Z0 1 (ie (ab 0 (ZX (fun fz gz m F h=>∃(k:Nat),(k<=x1.cons.length)/\(Q8 ds.length (x1.cons.drop k)=Q8 ds.length x1.cons)/\F=sF [0,5] fz [(6,.i k)]/\h=gz/\m=x1.cons.length-k) _ _ _ ⟨0,ob,ob,rfl,rfl,rfl⟩ (wk [0] (Y7 fl)) ?_))))))
   rintro m F h ⟨k,Y8,Zm,rfl,rfl,rfl⟩
   refine aq (ar (Z6 3 [0] (iw (QA x1.cons) (Z0 1 (ie (ZH ((k:Int)<(x1.cons.length:Int)) (fun ZK=>?_) (fun ZK=>?_)))))))
   ·refine ak (aq (ab 1 (ar (Z6 3 [0] ?_))))
    obtain ⟨x2,Zt⟩:=Zp x1.cons k om
    refine Zn (Zh none (k:Int) 1 (Cg Zt)) (Z0 2 (iw (Y2 x2.fields) (Xr [0,5,6] [(55,.b ((decide ((x2.fields.length:Int)>3))||(!VC ds.length x2.fields)))] (fun gz=>gz) ?_ ?_)))
    ·refine Z0 2 (ib (b:=(decide ((x2.fields.length:Int)>3))) 45 (fun ZM=>?_) (fun ZM=>?_))
     ·have YA:(x2.fields.length:Int)>3:=(dq).1 ZM
      exact Z0 10 (ie (wk [0] (ZJ true ZM fl)))
     have YJ:¬((x2.fields.length:Int)>3):=YH dq ZM
     exact Z6 4 [0] (Zn (Zh none (k:Int) 1 (Cg Zt)) (Z0 2 (Zr [] (LH ds x2.fields) (Z0 2 (ie (wk [0] (ZJ (!VC ds.length x2.fields) ZM fl)))))))
    refine ac ((decide ((x2.fields.length:Int)>3))||(!VC ds.length x2.fields)) (p:=((x2.fields.length:Int)>3)∨(¬(VC ds.length x2.fields=true))) (X3 dq (YR Iff.rfl)) (fun Yi=>?_) (fun Yi=>?_)
    ·refine ar (Z0 1 (ie ?_))
     rw [Ye Zt] at Zm
     exact Z9 (ZZ (.b false) (lb (by clear Z2 Zt;first|rfl|omega|grind [Q8,Ad,K8])))
    refine ak (az (Z0 1 (ZE k (Z0 1 (ie ?_)))))
    have hdr:=Ye Zt
    exact ZG ⟨k+1,ob,(by rw [hdr] at Zm;clear hdr Z2 Zt;grind [Q8,Ad]),rfl,rfl,rfl⟩ (wk [0] (ZI k fl))
   refine ax 0 (ar (Z0 1 (ie ?_)))
   try rw [Xf (xs:=x1.cons) (k:=k) om] at Zm
   exact Z9 (ZZ (.b true) (lb (by clear Z2;first|rfl|omega|grind [Q8,Ad,K8])))
  refine Z0 2 (ib (b:=(decide ((x1.cons.length:Int)>3))) 20 (fun YT=>?_) (fun YT=>?_))
  ·have YU:(x1.cons.length:Int)>3:=(dq).1 YT
   exact Z0 4 (Xe (wk [0] (ZJ true YT fl)) hj1)
  have XI:¬((x1.cons.length:Int)>3):=YH dq YT
  exact Z6 4 [0] (Xe (wk [0] (ZJ (x1.frm != 0) YT fl)) hj1)
 refine ak (aq (ar (Z0 1 (ie (ab 2 (ZX (fun fz gz m F h=>∃(j:Nat),(j<=n)/\(Jy x1 ((ds.take n).drop j)=Jy x1 (ds.take n))/\F=sF [0,1,5] fz [(7,.i j)]/\h=gz/\m=n-j) _ _ _ ⟨0,ob,ob,rfl,rfl,rfl⟩ (wk [0] (Y7 fl)) ?_))))))
 rintro m F h ⟨j,U3,Ww,rfl,rfl,rfl⟩
 refine aq (ar (Z0 3 (ie (ZH ((j:Int)<(n:Int)) (fun Xt=>?_) (fun Xt=>?_)))))
 ·refine ak (aq (ab 3 (aD 27 (Zj 25 27 [0,1] ?_))))
  obtain ⟨x3,YQ⟩:=Zp ds j om
  refine dx 2 (Zh none (j:Int) 3 (VE YQ)) (Zj 22 24 [3,4] (dw 5 (QA x3.cons) (Ah [0,1,5,7] [(87,.b (((x3.cons.length:Int)==0)&&((x3.frm==x1.frm)&&(x3.to_==x1.to_))))] (fun gz=>gz) ?_ ?_)))
  ·refine Zj 19 21 [6,7] (db (b:=((x3.cons.length:Int)==0)) 68 (fun XY=>?_) (fun XY=>?_))
   ·have Wd:(x3.cons.length:Int)=0:=(Zz).1 XY
    refine Zj 17 19 [8,9] (dx 10 (Zh none (j:Int) 3 (VE YQ)) (ZD 9 16 [11,12,13,14,15,16,17] [0] (db (b:=(x3.frm==x1.frm)) 78 (fun VV=>?_) (fun VV=>?_))))
    ·have WM:x3.frm=x1.frm:=(Zz).1 VV
     exact Zj 7 9 [18,19] (dx 20 (Zh none (j:Int) 3 (VE YQ)) (ZD 0 6 [21,22,23,24,25,26] [0] (de (wk [0] (ZJ (x3.to_==x1.to_) (And.intro XY VV) fl)))))
    have V1:¬(x3.frm=x1.frm):=YH Zz VV
    exact Zj 0 9 [18,19,20,21,22,23,24,25,26] (de (wk [0] (ZJ false (And.intro XY VV) fl)))
   have UA:¬((x3.cons.length:Int)=0):=YH Zz XY
   exact Zj 0 19 [8,9,10,11,12,13,14,15,16,17,18,19,20,21,22,23,24,25,26] (de (wk [0] (ZJ false XY fl)))
  refine ac (((x3.cons.length:Int)==0)&&((x3.frm==x1.frm)&&(x3.to_==x1.to_))) (p:=((x3.cons.length:Int)=0)/\((x3.frm=x1.frm)/\(x3.to_=x1.to_))) (Xb Zz (Xb Zz Zz)) (fun Xu=>?_) (fun Xu=>?_)
  ·refine ar (Z0 1 (ie ?_))
   rw [Ye (show (ds.take n)[j]? = some x3 by rw [UI,Zw om];exact YQ),Jy,Zw om] at Ww
   exact Z9 (ZZ (.b false) (lb (by clear Z2 YQ;first|rfl|omega|grind [K8])))
  refine ak (az (Z0 1 (ZE j (hb:=(by have:=hz.len;omega)) (Z0 1 (ie ?_)))))
  have hdr:=Ye YQ
  exact ZG ⟨j+1,ob,(by rw [Ye (show (ds.take n)[j]? = some x3 by rw [UI,Zw om];exact YQ),Jy,Zs om] at Ww;exact Ww),rfl,rfl,rfl⟩ (wk [0] (ZI j fl))
 refine ax 2 (ar (Z6 3 [0] (iw (T3 ds) (Zr [] (Vz x1.frm 0 (ds.length:Int)) (WO 12 [] [(99,.b ((decide (0<=x1.frm/\x1.frm<=(ds.length:Int)))&&(decide (0<=x1.to_/\x1.to_<=(ds.length:Int)))))] (fun gz=>gz) ?_ (fun hj2=>?_))))))
 ·refine Z0 1 (ie ?_)
  rw [Xf (show (ds.take n).length<=j by rw [W8];omega),Jy] at Ww
  exact Z9 (ZZ (.b ((decide (0<=x1.frm/\x1.frm<=(ds.length:Int)))&&(decide (0<=x1.to_/\x1.to_<=(ds.length:Int))))) (lb (by clear Z2;first|rfl|omega|grind [K8])))
 refine Z0 1 (ib (b:=(decide (0<=x1.frm/\x1.frm<=(ds.length:Int)))) 93 (fun Tu=>?_) (fun Tu=>?_))
 ·have UN:0<=x1.frm/\x1.frm<=(ds.length:Int):=(dq).1 Tu
  exact Z6 3 [0] (iw (T3 ds) (Zr [] (Vz x1.to_ 0 (ds.length:Int)) (Z0 1 (Xe (wk [0] (ZJ (decide (0<=x1.to_/\x1.to_<=(ds.length:Int))) Tu fl)) hj2))))
 have UB:¬(0<=x1.frm/\x1.frm<=(ds.length:Int)):=YH dq Tu
 exact Z0 6 (Xe (wk [0] (ZJ false Tu fl)) hj2)
theorem Z2s (ds:List Zd) (hz:Jo ds:=by exact ob):Zi 133 [YB ds] [] (Ym (.b (TF ds))):=by
 have hzl:=hz.len
 refine ZB 17 Tryz.func133 (ar (Z0 1 (ie (aq (ar (Z0 1 (iw (T3 ds) (Z0 1 (ie (ZH ((ds.length:Int)>4) (fun Za=>?_) (fun Za=>?_)))))))))))
 ·exact ar (Z0 1 (ie (Z9 (ZZ (.b false) (lb (by first|rfl|omega|grind [TF]))))))
 refine ak (aq (ar (Z0 1 (ie (ab 0 (ZX (fun fz gz m F h=>∃(k:Nat),(k<=ds.length)/\(Qz ds (ds.drop k) k=Qz ds ds 0)/\F=sF [0] fz [(3,.i k)]/\h=gz/\m=ds.length-k) _ _ _ ⟨0,ob,ob,rfl,rfl,rfl⟩ (wk [] (Y7 fl)) ?_))))))
 rintro m F h ⟨k,Y8,Zm,rfl,rfl,rfl⟩
 refine aq (ar (Z0 2 (iw (T3 ds) (Z0 1 (ie (ZH ((k:Int)<(ds.length:Int)) (fun Zg=>?_) (fun Zg=>?_)))))))
 ·refine ak (aq (ab 1 (ar (Z0 2 (Zr [] (Z2m ds k) (Z0 1 (ie (ac (!Jw ds k) (p:=¬(Jw ds k=true)) (YR Iff.rfl) (fun ZK=>?_) (fun ZK=>?_)))))))))
  ·refine ar (Z0 1 (ie ?_))
   try rw [Xf (xs:=ds) (k:=k) om] at Zm
   obtain ⟨x1,Z2⟩:=Zp ds k om
   rw [Ye Z2] at Zm
   exact Z9 (ZZ (.b false) (lb (by first|rfl|omega|grind [Qz,TF])))
  refine ak (az (Z0 1 (ZE k (Z0 1 (ie ?_)))))
  obtain ⟨x1,Z2⟩:=Zp ds k om
  have hdr:=Ye Z2
  exact ZG ⟨k+1,ob,(by rw [hdr] at Zm;clear hdr ;grind [Qz]),rfl,rfl,rfl⟩ (wk [] (ZI k fl))
 refine ax 0 (ar (Z0 1 (ie ?_)))
 try rw [Xf (xs:=ds) (k:=k) om] at Zm
 exact Z9 (ZZ (.b true) (lb (by first|rfl|omega|grind [Qz,TF])))
theorem Z2f (n:Zu) (hz:n.routines.length<=4194304:=by exact ob):Zi 95 [Yc n] [] (Ym (.agg [YB n.decls,.sl (V0 (n.routines.map Uo)) none])):=by
 refine ZB 35 Tryz.func95 (ar (iA (YC n) fun b1=>iA [nl,nl] fun b2=>ie (ar (Z6 2 [1] (iL (V0 []) 0 5 fun v1=>Z0 1 (iA [nl,nl] fun b3=>?_))))))
 refine Zy 0 b3 [YB n.decls,.sl (V0 []) (some v1)] (ie (aq (ar (Z0 1 (ie (ab 0 (ZX (fun fz gz m F h=>∃(k:Nat) (v:Value),(k<=n.routines.length)/\F=sF [1,2,3] fz [(4,.i k)]/\h=[.obj b3 [YB n.decls,.sl (V0 ((n.routines.take k).map Uo)) (some v)],Ze gz 2,Ze gz 3,.tail v 5]/\m=n.routines.length-k) _ _ _ ⟨0,v1,ob,rfl,rfl,rfl⟩ (wk [0,1,1,0] (Y7 fl)) ?_)))))))
 rintro m F h ⟨k,v,Y8,rfl,rfl,rfl⟩
 refine aq (ar (Z6 3 [2] (iw (U4 n.routines) (Z0 1 (ie (ZH ((k:Int)<(n.routines.length:Int)) (fun Za=>?_) (fun Za=>?_)))))))
 ·refine ak (aq (ab 1 (aE 19 (ZD 14 19 [0,1,2,3,4] [0,2] ?_))))
  obtain ⟨x1,Z2⟩:=Zp n.routines k om
  refine dx 5 (Zh none (k:Int) 5 (Wk Z2)) (ZD 8 13 [6,7,8,9,10] [2] (dx 11 (Zh none (k:Int) 5 (Wk Z2)) (Y9 4 7 [12,13,14] [(30,.agg [Z5 x1.params,.i x1.result,.i 0,.i 0,.sl [] none])] (Z8 15 (dL 15 [0] [b3] (V0 [Sg.mk x1.params x1.result]) 1 5 fun v2=>Y9 3 3 [] [(31,.sl (V0 [Sg.mk x1.params x1.result]) none)] (Z8 16 (dp 16 4 [] [] (V0 ((n.routines.take (k+1)).map Uo)) (V0 ((n.routines.take k).map Uo)) (V0 [Sg.mk x1.params x1.result]) v none 5 (GU _) (GU _) (Oy _) (by simp<;>omega) (by rw [Ve Z2];simp [V0,Uo]) fun v3=>Zj 1 2 [17] (Z8 18 (Yo 18 2 [] [] b3 [YB n.decls,.sl (V0 ((n.routines.take (k+1)).map Uo)) (some v3)] (de (az (Z0 1 (ZE k (Z0 1 (ie ?_)))))))))))))))
  have hdr:=Ye Z2
  exact ZG ⟨k+1,v3,ob,rfl,rfl,rfl⟩ (wk [0,2,2,0] (ZI k fl))
 exact ax 0 (ar (Z6 1 [0] (Zy 1 b2 [YB n.decls,.sl (V0 ((n.routines.take k).map Uo)) (some v)] (ie (Z9 (r3 [] [.agg [YB n.decls,.sl (V0 ((n.routines.take k).map Uo)) (some v)]] [0] [(b2,b2)] ⟨rfl,rfl⟩ (Zf.agg (.cons (lr _) (.cons (Zf.sl _ (Yg V0 (by rw [show k=n.routines.length by omega,V9]))) .nil)))))))))
theorem Z2r (ds:List Zd) (fs:List Sg) (hz:Jo ds:=by exact ob) (hf:∀f∈fs,f.params.length<=4194304):Zi 94 [.agg [YB ds,.sl (V0 fs) none]] [] (Ym (.b (Ql ds fs))):=by
 have hzl:=hz.len
 refine ZB 64 Tryz.func94 (ar (iA [YB ds,.sl (V0 fs) none] fun b1=>Z0 1 (ie (aq (ar (Z6 2 [0] (Zr [] (Z2s ds) (Xr [1] [(15,.b ((!TF ds)||(!(decide (1<=(fs.length:Int)/\(fs.length:Int)<=4)))))] (fun gz=>gz) ?_ ?_))))))))
 ·refine Z0 2 (ib (b:=(!TF ds)) 9 (fun Zb=>?_) (fun Zb=>?_))
  ·have ZT:¬(TF ds=true):=((YR Iff.rfl)).1 Zb
   exact Z0 6 (ie (wk [0] (ZJ true Zb fl)))
  have Y6:¬(¬(TF ds=true)):=YH (YR Iff.rfl) Zb
  exact Z6 2 [0] (iw (GV fs) (Zr [] (Vz (fs.length:Int) 1 4) (Z0 2 (ie (wk [0] (ZJ (!(decide (1<=(fs.length:Int)/\(fs.length:Int)<=4))) Zb fl))))))
 refine ac ((!TF ds)||(!(decide (1<=(fs.length:Int)/\(fs.length:Int)<=4)))) (p:=(¬(TF ds=true))∨(¬(1<=(fs.length:Int)/\(fs.length:Int)<=4))) (X3 (YR Iff.rfl) (YR dq)) (fun Za=>?_) (fun Za=>?_)
 ·exact ar (Z0 1 (ie (Z9 (ZZ (.b false) (lb (by first|rfl|omega|grind [Ql]))))))
 refine ak (aq (ar (Z0 1 (ie (ab 0 (ZX (fun fz gz m F h=>∃(k:Nat),(k<=fs.length)/\(Kv ds.length (fs.drop k)=Kv ds.length fs)/\F=sF [1] fz [(3,.i k)]/\h=gz/\m=fs.length-k) _ _ _ ⟨0,ob,ob,rfl,rfl,rfl⟩ (wk [0] (Y7 fl)) ?_))))))
 rintro m F h ⟨k,Y8,Zm,rfl,rfl,rfl⟩
 refine aq (ar (Z6 3 [0] (iw (GV fs) (Z0 1 (ie (ZH ((k:Int)<(fs.length:Int)) (fun Zg=>?_) (fun Zg=>?_)))))))
 ·refine ak (aq (ab 1 (ar (Z6 3 [0] ?_))))
  obtain ⟨x1,Z2⟩:=Zp fs k om
  refine Zn (Zh none (k:Int) 5 (En Z2)) (Z0 1 (iA [nl,.i 0,.i 0,.i 0,nl] fun b2=>Zy 0 b2 [Z5 x1.params,.i x1.result,.i 0,.i 0,.sl [] none] (ie (ar (Z6 2 [0] (iw (Y2 x1.params) (WO 12 [1,3,4] [(39,.b ((decide ((x1.params.length:Int)>3))||(!VC ds.length x1.params)))] (fun gz=>gz) ?_ (fun hj1=>?_))))))))
  ·refine Xr [1,3] [(48,.b (((decide ((x1.params.length:Int)>3))||(!VC ds.length x1.params))||(!(decide (0<=x1.result/\x1.result<=(ds.length:Int))))))] (fun gz=>gz) ?_ ?_
   ·refine Z0 1 (ib (b:=((decide ((x1.params.length:Int)>3))||(!VC ds.length x1.params))) 40 (fun ZM=>?_) (fun ZM=>?_))
    ·have YA:((x1.params.length:Int)>3)∨(¬(VC ds.length x1.params=true)):=((X3 dq (YR Iff.rfl))).1 ZM
     exact Z0 8 (ie (wk [0,0] (ZJ true ZM fl)))
    have YJ:¬(((x1.params.length:Int)>3)∨(¬(VC ds.length x1.params=true))):=YH (X3 dq (YR Iff.rfl)) ZM
    exact Z6 4 [0,1] (iw (T3 ds) (Zr [] (Vz x1.result 0 (ds.length:Int)) (Z0 2 (ie (wk [0,0] (ZJ (!(decide (0<=x1.result/\x1.result<=(ds.length:Int)))) ZM fl))))))
   refine ac (((decide ((x1.params.length:Int)>3))||(!VC ds.length x1.params))||(!(decide (0<=x1.result/\x1.result<=(ds.length:Int))))) (p:=(((x1.params.length:Int)>3)∨(¬(VC ds.length x1.params=true)))∨(¬(0<=x1.result/\x1.result<=(ds.length:Int)))) (X3 (X3 dq (YR Iff.rfl)) (YR dq)) (fun ZK=>?_) (fun ZK=>?_)
   ·refine ar (Z0 1 (ie ?_))
    rw [Ye Z2] at Zm
    exact Z9 (ZZ (.b false) (lb (by clear Z2;first|rfl|omega|grind [Kv,JV,Ql])))
   refine ak (az (Z0 1 (ZE k (Z0 1 (ie ?_)))))
   have hdr:=Ye Z2
   exact ZG ⟨k+1,ob,(by rw [hdr] at Zm;clear hdr Z2;grind [Kv,JV]),rfl,rfl,rfl⟩ (wk [1] (ZI k fl))
  refine Z0 2 (ib (b:=(decide ((x1.params.length:Int)>3))) 32 (fun YT=>?_) (fun YT=>?_))
  ·have YU:(x1.params.length:Int)>3:=(dq).1 YT
   exact Z0 7 (Xe (wk [0,0] (ZJ true YT fl)) hj1)
  have XI:¬((x1.params.length:Int)>3):=YH dq YT
  exact Z6 4 [1,0] (Zr [] (LH ds x1.params) (Z0 2 (Xe (wk [0,0] (ZJ (!VC ds.length x1.params) YT fl)) hj1)))
 refine ax 0 (ar (Z6 2 [0] ?_))
 obtain ⟨x2,Zt⟩:=Zp fs 0 om
 have hfo:=OM Zt
 refine Zn (Zh none 0 5 (En Zt)) (Z0 2 (iw (Y2 x2.params) (WO 15 [] [(63,.b (((x2.params.length:Int)==0)&&(x2.result==0)))] (fun gz=>gz) ?_ (fun hj2=>?_))))
 ·refine Z0 1 (ie ?_)
  try rw [Xf (xs:=fs) (k:=k) om] at Zm
  exact Z9 (ZZ (.b (((x2.params.length:Int)==0)&&(x2.result==0))) (lb (by clear Zt;first|rfl|omega|grind [Kv,JV,Ql])))
 refine Z0 2 (ib (b:=((x2.params.length:Int)==0)) 56 (fun XY=>?_) (fun XY=>?_))
 ·have Wd:(x2.params.length:Int)=0:=(Zz).1 XY
  exact Z6 2 [0] (Zn (Zh none 0 5 (En Zt)) (Z0 4 (Xe (wk [0] (ZJ (x2.result==0) XY fl)) hj2)))
 have WM:¬((x2.params.length:Int)=0):=YH Zz XY
 exact Z0 7 (Xe (wk [0] (ZJ false XY fl)) hj2)
theorem Z2o (ps:LI) (ls:LI) (hl_ps:ps.length<=4294967296:=by exact ob) (hl_ls:ls.length<=4294967296:=by exact ob):Zi 96 [Z5 ps,Z5 ls] [] (Ym (.b (BS ps ls))):=by
 refine ZB 47 Tryz.func96 (ar (Z0 1 (ie (aq (ar (Z0 1 (ie (ab 0 (ZX (fun fz gz m F h=>∃(k:Nat),(k<=ls.length)/\(Kn ps (ls.drop k) (if k=0 then none else ls[k-1]?)=BS ps ls)/\F=sF [0,1] fz [(5,.i k)]/\h=gz/\m=ls.length-k) _ _ _ ⟨0,ob,ob,rfl,rfl,rfl⟩ (wk [] (Y7 fl)) ?_)))))))))
 rintro m F h ⟨k,Y8,Zm,rfl,rfl,rfl⟩
 refine aq (ar (Z0 2 (iw (Y2 ls) (Z0 1 (ie (ZH ((k:Int)<(ls.length:Int)) (fun Za=>?_) (fun Za=>?_)))))))
 ·refine ak (aq (ab 1 (aD 35 (Zj 33 35 [0,1] ?_))))
  obtain ⟨x1,Z2⟩:=Zp ls k om
  refine dx 2 (Zh none (k:Int) 1 (ZQ Z2)) (Zj 30 32 [3,4] (dw 5 (Y2 ps) (da 6 (((ps.length:Int)-1)) (((ps.length:Int))-(1)) (Z8 7 (Yf 7 [] [] [] (Vz x1 0 ((ps.length:Int)-1)) (Zj 25 27 [8,9] (db (b:=(!(decide (0<=x1/\x1<=((ps.length:Int)-1))))) 21 (fun Zb=>?_) (fun Zb=>?_))))))))
  ·have ZT:¬(0<=x1/\x1<=((ps.length:Int)-1)):=((YR dq)).1 Zb
   refine Zj 0 25 [10,11,12,13,14,15,16,17,18,19,20,21,22,23,24,25,26,27,28,29,30,31,32,33,34] (de (WZ (ar (Z0 1 (ie ?_)))))
   rw [Ye Z2] at Zm
   exact Z9 (ZZ (.b false) (lb (by have hq:=F8 (ps:=ps) (v:=x1) (r:=ls.drop (k+1)) (prev:=if k=0 then none else ls[k-1]?);rw [<-Zm,hq];rintro ⟨q1,q2,q3⟩;first|omega|(rw [hps] at q2;exact q2 (Yg some om))|(have:=q3 _ (by rw [Zs om,hls]);omega))))
  have Y6:¬(¬(0<=x1/\x1<=((ps.length:Int)-1))):=YH (YR dq) Zb
  refine Zj 22 25 [10,11,12] (dx 13 (Zh none (k:Int) 1 (ZQ Z2)) (Zj 20 21 [14] ?_))
  obtain ⟨x2,Zt⟩:=Zp ps x1.toNat om
  have hps:=Zt
  refine dx 15 (Zh none x1 1 (ZQ Zt)) (Zj 15 19 [16,17,18,19] (db (b:=(x2==0)) 31 (fun ZM=>?_) (fun ZM=>?_)))
  ·have YA:x2=0:=(Zz).1 ZM
   refine Zj 0 15 [20,21,22,23,24,25,26,27,28,29,30,31,32,33,34] (de (WZ (ar (Z0 1 (ie ?_)))))
   rw [Ye Z2] at Zm
   exact Z9 (ZZ (.b false) (lb (by have hq:=F8 (ps:=ps) (v:=x1) (r:=ls.drop (k+1)) (prev:=if k=0 then none else ls[k-1]?);rw [<-Zm,hq];rintro ⟨q1,q2,q3⟩;first|omega|(rw [hps] at q2;exact q2 (Yg some om))|(have:=q3 _ (by rw [Zs om,hls]);omega))))
  have YJ:¬(x2=0):=YH Zz ZM
  refine Zj 12 15 [20,21,22] (db (b:=(decide ((k:Int)>0))) 34 (fun YT=>?_) (fun YT=>?_))
  ·have YU:(k:Int)>0:=(dq).1 YT
   refine Zj 10 12 [23,24] (dx 25 (Zh none (k:Int) 1 (ZQ Z2)) (Zj 6 9 [26,27,28] (da 29 (((k-1:Nat):Int)) (((k:Int))-(1)) ?_)))
   obtain ⟨x3,YQ⟩:=Zp ls (k-1) om
   have hls:=YQ
   refine dx 30 (Zh none ((k-1:Nat):Int) 1 (ZQ YQ)) (Zj 0 4 [31,32,33,34] (de (ZH (x1<=x3) (fun Zg=>?_) (fun Zg=>?_))))
   ·refine ar (Z0 1 (ie ?_))
    rw [Ye Z2] at Zm
    exact Z9 (ZZ (.b false) (lb (by have hq:=F8 (ps:=ps) (v:=x1) (r:=ls.drop (k+1)) (prev:=if k=0 then none else ls[k-1]?);rw [<-Zm,hq];rintro ⟨q1,q2,q3⟩;first|omega|(rw [hps] at q2;exact q2 (Yg some om))|(have:=q3 _ (by rw [Zs om,hls]);omega))))
   refine ak (az (Z0 1 (ZE k (Z0 1 (ie ?_)))))
   have hl1:ls[k+1-1]? = some x1:=Z2
   have hlc:(0<=x1/\x1<=(ps.length:Int)-1)/\ps[x1.toNat]?≠some 0/\(∀p,(if k=0 then none else ls[k-1]?)=some p->p<x1):=⟨by omega,by rw [hps];intro q;cases q;omega,fun p hp=>by first|(rw [Zs om,hls] at hp;cases hp;omega)|(rw [Zw om] at hp;cases hp)⟩
   have hdr:=Ye Z2
   exact ZG ⟨k+1,ob,(by have hq:=Ii (r:=ls.drop (k+1)) hlc;rw [hdr,hq] at Zm;rw [Zs om,hl1];exact Zm),rfl,rfl,rfl⟩ (wk [] (ZI k fl))
  have XI:¬((k:Int)>0):=YH dq YT
  refine Zj 0 12 [23,24,25,26,27,28,29,30,31,32,33,34] (de (Wi (ak (az (Z0 1 (ZE k (Z0 1 (ie ?_))))))))
  have hl1:ls[k+1-1]? = some x1:=Z2
  have hlc:(0<=x1/\x1<=(ps.length:Int)-1)/\ps[x1.toNat]?≠some 0/\(∀p,(if k=0 then none else ls[k-1]?)=some p->p<x1):=⟨by omega,by rw [hps];intro q;cases q;omega,fun p hp=>by first|(rw [Zs om,hls] at hp;cases hp;omega)|(rw [Zw om] at hp;cases hp)⟩
  have hdr:=Ye Z2
  exact ZG ⟨k+1,ob,(by have hq:=Ii (r:=ls.drop (k+1)) hlc;rw [hdr,hq] at Zm;rw [Zs om,hl1];exact Zm),rfl,rfl,rfl⟩ (wk [] (ZI k fl))
 refine ax 0 (ar (Z0 1 (ie ?_)))
 try rw [Xf (xs:=ls) (k:=k) om] at Zm
 exact Z9 (ZZ (.b true) (lb (by first|rfl|omega|grind [Kn])))
theorem Z2p (n:Zu) (hz:Jo n.decls:=by exact ob) (hr:∀r∈n.routines,r.params.length<=4194304/\r.lent.length<=4194304):Zi 57 [Yc n] [] (Ym (.b (QJ n))):=by
 have hzl:=hz.len
 refine ZB 35 Tryz.func57 (ar (iA (YC n) fun b1=>Z0 1 (ie (aq (ar (Z6 2 [0] (iw (U4 n.routines) (Xr [1] [(13,.b ((decide ((n.routines.length:Int)>4))||(!Ql n.decls (n.routines.map Uo))))] (fun gz=>gz) ?_ ?_))))))))
 ·refine Z0 2 (ib (b:=(decide ((n.routines.length:Int)>4))) 8 (fun Zb=>?_) (fun Zb=>?_))
  ·have ZT:(n.routines.length:Int)>4:=(dq).1 Zb
   exact Z0 5 (ie (wk [0] (ZJ true Zb fl)))
  have Y6:¬((n.routines.length:Int)>4):=YH dq Zb
  exact Z6 1 [0] (Zr [] (Z2f n) (Zr [] (Z2r n.decls (n.routines.map Uo) (hf:=(by intro f hf;obtain ⟨r,h1,rfl⟩:=W5.1 hf;exact (hr r h1).1))) (Z0 2 (ie (wk [0] (ZJ (!Ql n.decls (n.routines.map Uo)) Zb fl))))))
 refine ac ((decide ((n.routines.length:Int)>4))||(!Ql n.decls (n.routines.map Uo))) (p:=((n.routines.length:Int)>4)∨(¬(Ql n.decls (n.routines.map Uo)=true))) (X3 dq (YR Iff.rfl)) (fun Za=>?_) (fun Za=>?_)
 ·exact ar (Z0 1 (ie (Z9 (ZZ (.b false) (lb (by first|rfl|omega|grind [QJ]))))))
 refine ak (aq (ar (Z0 1 (ie (ab 0 (ZX (fun fz gz m F h=>∃(k:Nat),(k<=n.routines.length)/\(JO (n.routines.drop k)=JO n.routines)/\F=sF [1] fz [(3,.i k)]/\h=gz/\m=n.routines.length-k) _ _ _ ⟨0,ob,ob,rfl,rfl,rfl⟩ (wk [0] (Y7 fl)) ?_))))))
 rintro m F h ⟨k,Y8,Zm,rfl,rfl,rfl⟩
 refine aq (ar (Z6 3 [0] (iw (U4 n.routines) (Z0 1 (ie (ZH ((k:Int)<(n.routines.length:Int)) (fun Zg=>?_) (fun Zg=>?_)))))))
 ·refine ak (aq (ab 1 (aD 14 (ZD 11 14 [0,1,2] [0] ?_))))
  obtain ⟨x1,Z2⟩:=Zp n.routines k om
  refine dx 3 (Zh none (k:Int) 5 (Wk Z2)) (ZD 5 10 [4,5,6,7,8] [0] (dx 9 (Zh none (k:Int) 5 (Wk Z2)) (Zj 2 4 [10,11] (Z8 12 (Yf 12 [] [] [] (Z2o x1.params x1.lent (hl_ps:=(by have:=hr _ (ZU Z2);omega)) (hl_ls:=(by have:=hr _ (ZU Z2);omega))) (Zj 0 1 [13] (de (ac (!BS x1.params x1.lent) (p:=¬(BS x1.params x1.lent=true)) (YR Iff.rfl) (fun ZK=>?_) (fun ZK=>?_)))))))))
  ·refine ar (Z0 1 (ie ?_))
   rw [Ye Z2] at Zm
   exact Z9 (ZZ (.b false) (lb (by clear Z2;first|rfl|omega|grind [JO,QJ])))
  refine ak (az (Z0 1 (ZE k (Z0 1 (ie ?_)))))
  have hdr:=Ye Z2
  exact ZG ⟨k+1,ob,(by rw [hdr] at Zm;clear hdr Z2;grind [JO]),rfl,rfl,rfl⟩ (wk [0] (ZI k fl))
 refine ax 0 (ar (Z0 1 (ie ?_)))
 try rw [Xf (xs:=n.routines) (k:=k) om] at Zm
 exact Z9 (ZZ (.b true) (lb (by first|rfl|omega|grind [JO,QJ])))
theorem Q2 (op:Int) :Zi 99 [.i op] [] (Ym (.b (Xp op))):=by
 exact ZB 5 Tryz.func99 (ar (Z0 1 (ie (ar (Z0 1 (Zr [] (Vz op 0 11) (Z0 1 (ie (Z9 (ZZ (.b (decide (0<=op/\op<=11))) (lb (by first|rfl|omega|grind [Xp]))))))))))))
theorem Z24 (op:Int) :Zi 134 [.i op] [] (Ym (.b (Uz op))):=by
 refine ZB 21 Tryz.func134 (ar (Z0 1 (ie (ar (WO 6 [0] [(8,.b ((op==0)||(op==6)))] (fun gz=>gz) ?_ (fun hj1=>?_))))))
 ·refine WO 10 [0] [(12,.b (((op==0)||(op==6))||(op==8)))] (fun gz=>gz) ?_ (fun hj2=>?_)
  ·refine WO 14 [0] [(16,.b ((((op==0)||(op==6))||(op==8))||(op==9)))] (fun gz=>gz) ?_ (fun hj3=>?_)
   ·refine WO 18 [] [(20,.b (((((op==0)||(op==6))||(op==8))||(op==9))||(op==10)))] (fun gz=>gz) ?_ (fun hj4=>?_)
    ·exact Z0 1 (ie (Z9 (ZZ (.b (((((op==0)||(op==6))||(op==8))||(op==9))||(op==10))) (lb (by rw [Uz];simp only [Bool.or_assoc])))))
    refine Z0 1 (ib (b:=((((op==0)||(op==6))||(op==8))||(op==9))) 17 (fun Zb=>?_) (fun Zb=>?_))
    ·exact Z0 3 (Xe (wk [] (ZJ true Zb fl)) hj4)
    exact Z0 3 (Xe (wk [] (ZJ (op==10) Zb fl)) hj4)
   refine Z0 1 (ib (b:=(((op==0)||(op==6))||(op==8))) 13 (fun ZM=>?_) (fun ZM=>?_))
   ·exact Z0 3 (Xe (wk [] (ZJ true ZM fl)) hj3)
   exact Z0 3 (Xe (wk [] (ZJ (op==9) ZM fl)) hj3)
  refine Z0 1 (ib (b:=((op==0)||(op==6))) 9 (fun YT=>?_) (fun YT=>?_))
  ·exact Z0 3 (Xe (wk [] (ZJ true YT fl)) hj2)
  exact Z0 3 (Xe (wk [] (ZJ (op==8) YT fl)) hj2)
 refine Z0 3 (ib (b:=(op==0)) 5 (fun XY=>?_) (fun XY=>?_))
 ·exact Z0 3 (Xe (wk [] (ZJ true XY fl)) hj1)
 exact Z0 3 (Xe (wk [] (ZJ (op==6) XY fl)) hj1)
theorem Jh (us:LI) (args:LI) (tys:LI) (hl_us:us.length<=4294967296:=by exact ob) (hl_args:args.length<=4294967296:=by exact ob) (hl_tys:tys.length<=4294967296:=by exact ob):Zi 136 [Z5 us,Z5 args,Z5 tys] [] (Ym (.b (W3 us args tys))):=by
 refine ZB 42 Tryz.func136 (ar (Z0 1 (ie (aq (ar (Z0 1 (iw (Y2 args) (Z0 1 (iw (Y2 tys) (Z0 1 (ie (ac ((args.length:Int) != (tys.length:Int)) X4 (fun Za=>?_) (fun Za=>?_)))))))))))))
 ·exact ar (Z0 1 (ie (Z9 (ZZ (.b false) (lb (Mg om).symm)))))
 refine ak (aq (ar (Z0 1 (ie (ab 0 (ZX (fun fz gz m F h=>∃(k:Nat),(k<=args.length)/\(TD us (args.drop k) (tys.drop k)=W3 us args tys)/\F=sF [0,1,2] fz [(7,.i k)]/\h=gz/\m=args.length-k) _ _ _ ⟨0,ob,ob,rfl,rfl,rfl⟩ (wk [] (Y7 fl)) ?_))))))
 rintro m F h ⟨k,Y8,Zm,rfl,rfl,rfl⟩
 refine aq (ar (Z0 2 (iw (Y2 args) (Z0 1 (ie (ZH ((k:Int)<(args.length:Int)) (fun Zg=>?_) (fun Zg=>?_)))))))
 ·refine ak (aq (ab 1 (aD 23 (Zj 21 23 [0,1] ?_))))
  obtain ⟨x1,Z2⟩:=Zp args k om
  refine dx 2 (Zh none (k:Int) 1 (ZQ Z2)) (Zj 18 20 [3,4] (dw 5 (Y2 us) (da 6 (((us.length:Int)-1)) (((us.length:Int))-(1)) (Z8 7 (Yf 7 [] [] [] (Vz x1 0 ((us.length:Int)-1)) (Zj 13 15 [8,9] (db (b:=(!(decide (0<=x1/\x1<=((us.length:Int)-1))))) 28 (fun Zb=>?_) (fun Zb=>?_))))))))
  ·have ZT:¬(0<=x1/\x1<=((us.length:Int)-1)):=((YR dq)).1 Zb
   refine Zj 0 13 [10,11,12,13,14,15,16,17,18,19,20,21,22] (de (WZ (ar (Z0 1 (ie ?_)))))
   obtain ⟨y,hy⟩:=Zp tys k om
   exact Z9 (ZZ (.b false) (lb (by rw [<-Zm];exact (Mf Z2 hy (by rw [K1 ZT];simp)).symm)))
  have Y6:¬(¬(0<=x1/\x1<=((us.length:Int)-1))):=YH (YR dq) Zb
  refine Zj 10 13 [10,11,12] (dx 13 (Zh none (k:Int) 1 (ZQ Z2)) (Zj 8 9 [14] ?_))
  obtain ⟨x2,Zt⟩:=Zp us x1.toNat om
  refine dx 15 (Zh none x1 1 (ZQ Zt)) (Zj 4 7 [16,17,18] ?_)
  obtain ⟨x3,YQ⟩:=Zp tys k om
  refine dx 19 (Zh none (k:Int) 1 (ZQ YQ)) (Zj 0 3 [20,21,22] (de (ac (x2 != x3) X4 (fun ZK=>?_) (fun ZK=>?_))))
  ·exact ar (Z0 1 (ie (Z9 (ZZ (.b false) (lb (by rw [<-Zm];exact (Mf Z2 YQ (by rw [KO om Zt];simpa using ZK)).symm))))))
  refine ak (az (Z0 1 (ZE k (Z0 1 (ie ?_)))))
  have hdr:=Ye Z2
  exact ZG ⟨k+1,ob,(by rw [<-Zm];exact (Z3g Z2 YQ (by rw [KO om Zt];congr 1;omega)).symm),rfl,rfl,rfl⟩ (wk [] (ZI k fl))
 exact ax 0 (ar (Z0 1 (ie (Z9 (ZZ (.b true) (lb (by rw [<-Zm];exact (Z3f om om).symm)))))))
theorem Z2n (us:LI) (s:Z3) (hl_us:us.length<=4294967296:=by exact ob):Zi 135 [Z5 us,Yk s] [] (Ym (.b (Ur us s.op s.into))):=by
 refine ZB 27 Tryz.func135 (ar (iA (X6 s) fun b1=>Z0 1 (ie (aq (ar (Z6 3 [0] (ie (ac (s.into==0) Zz (fun Za=>?_) (fun Za=>?_)))))))))
 ·exact ar (Z0 1 (ie (Z9 (ZZ (.b true) (lb (by rw [Ur,Zw Za]))))))
 refine ak (ar (WO 10 [0,3] [(17,.b ((s.op==6)&&(decide (1<=s.into/\s.into<=(us.length:Int)))))] (fun gz=>gz) ?_ (fun hj1=>?_)))
 ·refine Z0 1 (ib (b:=((s.op==6)&&(decide (1<=s.into/\s.into<=(us.length:Int))))) 18 (fun Zb=>?_) (fun Zb=>?_))
  ·have ZT:(s.op=6)/\(1<=s.into/\s.into<=(us.length:Int)):=((Xb Zz dq)).1 Zb
   refine Z6 3 [0] (ia ((s.into-1)) ((s.into)-(1)) ?_)
   obtain ⟨x1,Z2⟩:=Zp us ((s.into-1).toNat) om
   exact Zn (Zh none (s.into-1) 1 (ZQ Z2)) (Z0 4 (ie (Z9 (ZZ (.b (decide (x1>0))) (lb (by rw [Ur,Zs Za];first|(rw [Zw om,KO om Z2];rfl)|(rw [Zw om,K1 om];rfl)|(rw [Zs om])|(by_cases q:s.op=6;rw [Zw q,K1 om];rfl;rw [Zs q])))))))
  have Y6:¬((s.op=6)/\(1<=s.into/\s.into<=(us.length:Int))):=YH (Xb Zz dq) Zb
  exact Z0 9 (ie (Z9 (ZZ (.b false) (lb (by rw [Ur,Zs Za];first|(rw [Zw om,KO om Z2];rfl)|(rw [Zw om,K1 om];rfl)|(rw [Zs om])|(by_cases q:s.op=6;rw [Zw q,K1 om];rfl;rw [Zs q]))))))
 refine Z6 4 [0] (ib (b:=(s.op==6)) 11 (fun ZM=>?_) (fun ZM=>?_))
 ·have YA:s.op=6:=(Zz).1 ZM
  exact Z6 3 [0] (iw (Y2 us) (Zr [] (Vz s.into 1 (us.length:Int)) (Z0 1 (Xe (wk [0] (ZJ (decide (1<=s.into/\s.into<=(us.length:Int))) ZM fl)) hj1))))
 have YJ:¬(s.op=6):=YH Zz ZM
 exact Z0 6 (Xe (wk [0] (ZJ false ZM fl)) hj1)
theorem Z2d (n:Zu) (us:LI) (s:Z3) (hn:X2 n:=by exact ob) (hl_us:us.length<=4294967296:=by exact ob) (ha:s.args.length<=1000000000:=by exact ob):Zi 140 [Yc n,Z5 us,Yk s] [] (Ym (.i (QN n us s.op s.num s.args))):=by
 have hrl:=hn.len
 have hdl:=hn.decls.len
 refine ZB 69 Tryz.func140 (ar (iA (YC n) fun b1=>iA (X6 s) fun b2=>Z0 1 (ie (aq (ar (Z6 4 [0,1] (iw (U4 n.routines) (ia (((n.routines.length:Int)-1)) (((n.routines.length:Int))-(1)) (Zr [] (Vz s.num 0 ((n.routines.length:Int)-1)) (Z0 1 (ie (ac (!(decide (0<=s.num/\s.num<=((n.routines.length:Int)-1)))) (p:=¬(0<=s.num/\s.num<=((n.routines.length:Int)-1))) (YR dq) (fun Za=>?_) (fun Za=>?_)))))))))))))
 ·exact ar (Z0 1 (ie (Z9 (ZZ (.i (-1)) (li (Z0r om).symm)))))
 refine ak (ar (Z6 4 [1,0] ?_))
 obtain ⟨x1,Z2⟩:=Zp n.routines s.num.toNat om
 have hrp:=hn.params_at Z2
 have hrt:=hn.lent_at Z2
 have hre:QN n us s.op s.num s.args=Jb n.decls us s.op s.args x1:=Z0q om Z2
 refine Zn (Zh none s.num 5 (Wk Z2)) (Z0 1 (iA [nl,nl,.i 0,nl,.i 0] fun b3=>Zy 0 b3 (QH x1) (ie (ar (Z6 2 [0] (iw (Y2 x1.params) (Z0 1 (ie (aq (ar (Z6 3 [1] (ie (ac (s.op==9) Zz (fun Zg=>?_) (fun Zg=>?_))))))))))))))
 ·refine aq (ar (Z6 5 [1,0] (Zr [] (Jh us s.args x1.params) (Z0 1 (ie (ac (!W3 us s.args x1.params) (p:=¬(W3 us s.args x1.params=true)) (YR Iff.rfl) (fun ZK=>?_) (fun ZK=>?_)))))))
  ·exact ar (Z0 1 (ie (Z9 (ZZ (.i (-1)) (li (by clear Z2;first|rfl|omega|grind [Jb,B1]))))))
  exact ak (ar (Z6 3 [0] (ie (Z9 (ZZ (.i x1.result) (li (by clear Z2;first|rfl|omega|grind [Jb,B1])))))))
 refine ak (aq (aD 20 (Ah [3,7,8] [(57,.b (((x1.params.length:Int)==0)||((decide ((x1.lent.length:Int)>0))||(!W3 us s.args (x1.params.take (x1.params.length-1))))))] (fun gz=>gz) ?_ ?_)))
 ·refine Zj 17 20 [0,1,2] (db (b:=((x1.params.length:Int)==0)) 40 (fun Zb=>?_) (fun Zb=>?_))
  ·have ZT:(x1.params.length:Int)=0:=(Zz).1 Zb
   exact Zj 0 17 [3,4,5,6,7,8,9,10,11,12,13,14,15,16,17,18,19] (de (ZP 3 (ZJ true Zb fl)))
  have Y6:¬((x1.params.length:Int)=0):=YH Zz Zb
  refine ZD 15 17 [3,4] [0] (dw 5 (Y2 x1.lent) (Zj 11 14 [6,7,8] (db (b:=(decide ((x1.lent.length:Int)>0))) 46 (fun ZM=>?_) (fun ZM=>?_))))
  ·have YA:(x1.lent.length:Int)>0:=(dq).1 ZM
   exact Zj 0 11 [9,10,11,12,13,14,15,16,17,18,19] (de (ZP 3 (ZJ true (And.intro Zb ZM) fl)))
  have YJ:¬((x1.lent.length:Int)>0):=YH dq ZM
  exact ZD 5 11 [9,10,11,12,13,14] [1,0] (da 15 (((x1.params.length-1:Nat):Int)) (((x1.params.length:Int))-(1)) (dx 16 (Kw (es:=Z7 x1.params) (hv:=none) (l:=0) (m:=((x1.params.length-1:Nat):Int)) (sz:=1) (es':=Z7 (x1.params.take (x1.params.length-1))) kr om (by simp<;>omega) (by simp<;>omega) (Yl _) (by first|(simp only [U0,V9,JA,Al];done)|(simp only [U0,V9,JA,Al];rfl)|(simp [JA,Al];done))) (Z8 17 (Yf 17 [] [] [] (Jh us s.args (x1.params.take (x1.params.length-1))) (Zj 0 2 [18,19] (de (ZP 3 (ZJ (!W3 us s.args (x1.params.take (x1.params.length-1))) (And.intro Zb ZM) fl))))))))
 refine ac (((x1.params.length:Int)==0)||((decide ((x1.lent.length:Int)>0))||(!W3 us s.args (x1.params.take (x1.params.length-1))))) (p:=((x1.params.length:Int)=0)∨(((x1.lent.length:Int)>0)∨(¬(W3 us s.args (x1.params.take (x1.params.length-1))=true)))) (X3 Zz (X3 dq (YR Iff.rfl))) (fun Yi=>?_) (fun Yi=>?_)
 ·exact ar (Z0 1 (ie (Z9 (ZZ (.i (-1)) (li (by clear Z2;first|rfl|omega|grind [Jb,B1]))))))
 refine ak (aD 12 (ZD 7 12 [0,1,2,3,4] [2,0] (da 5 (((x1.params.length-1:Nat):Int)) (((x1.params.length:Int))-(1)) ?_)))
 obtain ⟨x2,Zt⟩:=Zp x1.params (x1.params.length-1) om
 have hgl:=Rb Zt
 exact dx 6 (Zh none ((x1.params.length-1:Nat):Int) 1 (ZQ Zt)) (ZD 2 5 [7,8,9] [0] (Z8 10 (Yf 10 [] [] [] (LK n.decls x2 x1.result) (Zj 0 1 [11] (de (Z9 (ZZ (.i (Qs n.decls x2 x1.result)) (li (by clear Z2 Zt;first|rfl|omega|grind [Jb,B1])))))))))
theorem Z23 (n:Zu) (us:LI) (s:Z3) (hn:X2 n:=by exact ob) (hl_us:us.length<=4294967296:=by exact ob) (ha:s.args.length<=1000000000:=by exact ob):Zi 142 [Yc n,Z5 us,Yk s] [] (Ym (.i (TP n.decls us s.op s.args))):=by
 have Xl:=hn.decls
 refine ZB 52 Tryz.func142 (ar (iA (YC n) fun b1=>iA (X6 s) fun b2=>Z0 1 (ie (aq (ar (Z6 2 [0] (iw (Y2 s.args) (Z0 2 (ib (b:=((s.args.length:Int) != 1)) 11 (fun Zb=>?_) (fun Zb=>?_))))))))))
 ·have ZT:(s.args.length:Int)≠1:=(X4).1 Zb
  exact Z0 20 (ie (WZ (ar (Z0 1 (ie (Z9 (ZZ (.i (-1)) (li (by first|assumption|omega|rfl|(rw [Af om])|(rw [Ag (TM om Z2) om])|(rw [Ae (TM om Z2) om Zt];clear Z2 Zt;grind))))))))))
 have Y6:¬((s.args.length:Int)≠1):=YH X4 Zb
 refine Z6 2 [0] ?_
 obtain ⟨x1,Z2⟩:=Zp s.args 0 om
 refine Zn (Zh none 0 1 (ZQ Z2)) (Z0 2 (iw (Y2 us) (ia (((us.length:Int)-1)) (((us.length:Int))-(1)) (Zr [] (Vz x1 0 ((us.length:Int)-1)) (Z0 3 (ib (b:=(!(decide (0<=x1/\x1<=((us.length:Int)-1))))) 22 (fun ZM=>?_) (fun ZM=>?_)))))))
 ·have YA:¬(0<=x1/\x1<=((us.length:Int)-1)):=((YR dq)).1 ZM
  exact Z0 9 (ie (WZ (ar (Z0 1 (ie (Z9 (ZZ (.i (-1)) (li (by first|assumption|omega|rfl|(rw [Af om])|(rw [Ag (TM om Z2) om])|(rw [Ae (TM om Z2) om Zt];clear Z2 Zt;grind))))))))))
 have YJ:¬(¬(0<=x1/\x1<=((us.length:Int)-1))):=YH (YR dq) ZM
 refine Z6 3 [0] (Zn (Zh none 0 1 (ZQ Z2)) (Z0 1 ?_))
 obtain ⟨x2,Zt⟩:=Zp us x1.toNat om
 refine Zn (Zh none x1 1 (ZQ Zt)) (Z0 3 (ie (ac (x2==0) Zz (fun Za=>?_) (fun Za=>?_))))
 ·exact ar (Z0 1 (ie (Z9 (ZZ (.i (-1)) (li (by first|assumption|omega|rfl|(rw [Af om])|(rw [Ag (TM om Z2) om])|(rw [Ae (TM om Z2) om Zt];clear Z2 Zt;grind)))))))
 refine ak (aq (aD 20 (Ah [] [(51,.b ((s.op != 14)&&((s.op != 15)&&WE n.decls x2)))] (fun gz=>gz) ?_ ?_)))
 ·refine ZD 16 20 [0,1,2,3] [0] (db (b:=(s.op != 14)) 35 (fun YT=>?_) (fun YT=>?_))
  ·have YU:s.op≠14:=(X4).1 YT
   refine ZD 11 16 [4,5,6,7,8] [0] (db (b:=(s.op != 15)) 40 (fun XY=>?_) (fun XY=>?_))
   ·have XI:s.op≠15:=(X4).1 XY
    exact ZD 6 11 [9,10,11,12,13] [1,0] (dx 14 (Zh none 0 1 (ZQ Z2)) (Zj 4 5 [15] (dx 16 (Zh none x1 1 (ZQ Zt)) (Zj 2 3 [17] (Z8 18 (Yf 18 [] [] [] (BM n.decls x2 (hd:=(by first|assumption|omega|rfl|(rw [Af om])|(rw [Ag (TM om Z2) om])|(rw [Ae (TM om Z2) om Zt];clear Z2 Zt;grind)))) (Zj 0 1 [19] (de (wk [0,0] (ZJ (WE n.decls x2) (And.intro YT XY) fl))))))))))
   have Wd:¬(s.op≠15):=YH X4 XY
   exact Zj 0 11 [9,10,11,12,13,14,15,16,17,18,19] (de (wk [0,0] (ZJ false (And.intro YT XY) fl)))
  have WM:¬(s.op≠14):=YH X4 YT
  exact Zj 0 16 [4,5,6,7,8,9,10,11,12,13,14,15,16,17,18,19] (de (wk [0,0] (ZJ false YT fl)))
 refine ac ((s.op != 14)&&((s.op != 15)&&WE n.decls x2)) (p:=(s.op≠14)/\((s.op≠15)/\(WE n.decls x2=true))) (Xb X4 (Xb X4 Iff.rfl)) (fun Zg=>?_) (fun Zg=>?_)
 ·exact ar (Z0 1 (ie (Z9 (ZZ (.i (-1)) (li (by first|assumption|omega|rfl|(rw [Af om])|(rw [Ag (TM om Z2) om])|(rw [Ae (TM om Z2) om Zt];clear Z2 Zt;grind)))))))
 exact ak (ar (Z0 1 (ie (Z9 (ZZ (.i 0) (li (by first|assumption|omega|rfl|(rw [Af om])|(rw [Ag (TM om Z2) om])|(rw [Ae (TM om Z2) om Zt];clear Z2 Zt;grind))))))))
theorem LR (n:Zu) (us:LI) (s:Z3) (hn:X2 n:=by exact ob) (hop:s.op=7∨s.op=8:=by exact ob) (hb:us.length+4*s.sz<=1000000000:=by exact ob) (ih:∀(b:Z4) (us:LI),(b.sz<s.sz)->(us.length+4*b.sz<=1000000000)->Zi 60 [Yc n,Z5 us,ZC b] [] (Ym (.i (Xx n us b)))):Zi 139 [Yc n,Z5 us,Yk s] [] (Ym (.i (Qf n us s.op s.num s.kids))):=by
 have Xl:=hn.decls
 have hkz:=U8 s
 refine ZB 71 Tryz.func139 (ar (iA (YC n) fun b1=>iA (X6 s) fun b2=>Z0 1 (ie (ar (Z6 4 [1,0] (ic [] (QO n.decls s.num) ?_))))))
 rintro _ _ ⟨v1,rfl,rfl⟩
 refine Z0 1 (ie (ar (Z0 1 (io (.i (((ZW n.decls s.num).length:Nat):Int)) (.i (((Z7 (ZW n.decls s.num)).length:Nat):Int)) (li (by rw [Y2])) (Z0 1 (ie (aq (ar (Z6 3 [1] (ie (Xo (fun fz gz F h=>F=sF [1,3,5] fz [(7,Z5 (ZW n.decls s.num)),(8,.i (((Xm n.decls s.op s.num).length:Nat):Int))]/\h=[Ze gz 1,Ze gz 2]) ?_ ?_)))))))))))
 ·refine ac (s.op==7) Zz (fun Za=>?_) (fun Za=>?_)
  ·exact az (Z0 1 (ie (ZF ⟨rfl,rfl⟩ (wk [1,1] (fc (x:=ZO (ZW n.decls s.num) v1) (Zf.forget _ _) (fc (x:=.i 2) (li (by rw [Xm,Zw Za];rfl)) fl))))))
  exact ak (ZF ⟨rfl,rfl⟩ (wk [1,1] (fc (x:=ZO (ZW n.decls s.num) v1) (Zf.forget _ _) (fc (x:=.i (((ZW n.decls s.num).length:Nat):Int)) (li (by rw [Xm,Zs Za,BX])) fl))))
 rintro F h ⟨rfl,rfl⟩
 refine aq (ar (Xr [1,3,5,7,8] [(31,.b (((((Xm n.decls s.op s.num).length:Nat):Int)==0)||((s.kids.length:Int) != (((Xm n.decls s.op s.num).length:Nat):Int))))] (fun gz=>gz) ?_ ?_))
 ·refine Z0 3 (ib (b:=((((Xm n.decls s.op s.num).length:Nat):Int)==0)) 25 (fun Zb=>?_) (fun Zb=>?_))
  ·exact Z0 6 (ie (wk [0,0] (ZJ true Zb fl)))
  exact Z6 2 [0] (iw (Vh s.kids) (Z0 3 (ie (wk [0,0] (ZJ ((s.kids.length:Int) != (((Xm n.decls s.op s.num).length:Nat):Int)) Zb fl)))))
 refine ac (((((Xm n.decls s.op s.num).length:Nat):Int)==0)||((s.kids.length:Int) != (((Xm n.decls s.op s.num).length:Nat):Int))) (p:=((((Xm n.decls s.op s.num).length:Nat):Int)=0)∨((s.kids.length:Int)≠(((Xm n.decls s.op s.num).length:Nat):Int))) (X3 Zz X4) (fun Zg=>?_) (fun Zg=>?_)
 ·exact ar (Z0 1 (ie (Z9 (ZZ (.i (-1)) (li (by rw [Qf,Zw om]))))))
 refine ak (ar (Z0 1 (ie (aq (ar (Z0 1 (ie (ab 0 (ZX (fun fz gz m F h=>∃(k:Nat) (t:Int),(k<=s.kids.length)/\(UP n us (s.kids.drop k) ((Xm n.decls s.op s.num).drop k) (decide (k=0)) t=UP n us s.kids (Xm n.decls s.op s.num) true 0)/\F=sF [1,3,5,7,8] fz [(9,.i t),(10,.i k)]/\h=gz/\m=s.kids.length-k) _ _ _ ⟨0,0,ob,(by rfl),rfl,rfl,rfl⟩ (wk [0,0] (fr (Y7 fl))) ?_)))))))))
 rintro m F h ⟨k,t,Y8,Zm,rfl,rfl,rfl⟩
 refine aq (ar (Z0 3 (ie (ZH ((k:Int)<(((Xm n.decls s.op s.num).length:Nat):Int)) (fun ZK=>?_) (fun ZK=>?_)))))
 ·refine ak (aq (ab 1 (ar (Z0 2 (ie (aq (ar (Z6 3 [0] (ie (Xo (fun fz gz F h=>∃(m:LI),((Xm n.decls s.op s.num)[k]? = some m)/\F=sF [1,3,5,7,8,9,10] fz [(11,Z5 (us++m))]/\h=gz) ?_ ?_))))))))))
  ·refine ac (s.op==8) Zz (fun Yi=>?_) (fun Yi=>?_)
   ·refine aE 10 (ZD 5 10 [0,1,2,3,4] [1] ?_)
    obtain ⟨x1,Z2⟩:=Zp (ZW n.decls s.num) k (by rw [Xm,Zs om,BX] at ZK;omega)
    refine dx 5 (Zh none (k:Int) 1 (ZQ Z2)) (Zj 3 4 [6] (Z8 7 (Yf 7 [] [] [] (TA n.decls x1) (Z8 8 (dc 8 [] [] [] (Ti us (ZY n.decls x1) (hl:=(by have:=Vr Xl x1;omega))) ?_)))))
    rintro _ _ ⟨v2,rfl,rfl⟩
    exact Zj 0 1 [9] (de (ZF ⟨(ZY n.decls x1),(by rw [show s.op=8 from Yi];exact Nb Z2),rfl,rfl⟩ (wk [1,1] fl)))
   exact ak (ZF ⟨[],(by rw [Xm,Zw om];have:k=0∨k=1:=(by rw [Xm,Zw om] at ZK;simp at ZK;omega);rcases this with rfl|rfl<;>rfl),rfl,rfl⟩ (wk [0,0] (fc (x:=Z5 us) (Zf.sl _ (Yg Z7 (by simp))) fl)))
  rintro F h ⟨m,Tb,rfl,rfl⟩
  refine aD 9 (ZD 4 9 [0,1,2,3,4] [1,0] ?_)
  obtain ⟨x2,Zt⟩:=Zp s.kids k om
  have hks:=VW Zt
  have hm3:=Gh Xl Tb
  refine dx 5 (Zh none (k:Int) 2 (Vs Zt)) (Zj 2 3 [6] (Z8 7 (Yf 7 [] [] [] (ih x2 (us++m) ob (by simp only [Yb];omega)) (Zj 0 1 [8] (de (aq (ar (Xr [1,3,5,7,8,10,12] [(68,.b ((decide ((Xx n (us++m) x2)<0))||((decide ((k:Int)>0))&&((Xx n (us++m) x2) != t))))] (fun gz=>gz) ?_ ?_))))))))
  ·refine Z0 3 (ib (b:=(decide ((Xx n (us++m) x2)<0))) 60 (fun ZM=>?_) (fun ZM=>?_))
   ·exact Z0 8 (ie (wk [0,0] (ZJ true ZM fl)))
   refine Z0 3 (ib (b:=(decide ((k:Int)>0))) 63 (fun YT=>?_) (fun YT=>?_))
   ·exact Z0 5 (ie (wk [0,0] (ZJ ((Xx n (us++m) x2) != t) (And.intro ZM YT) fl)))
   exact Z0 5 (ie (wk [0,0] (ZJ false (And.intro ZM YT) fl)))
  refine ac ((decide ((Xx n (us++m) x2)<0))||((decide ((k:Int)>0))&&((Xx n (us++m) x2) != t))) (p:=((Xx n (us++m) x2)<0)∨(((k:Int)>0)/\((Xx n (us++m) x2)≠t))) (X3 dq (Xb dq X4)) (fun Xt=>?_) (fun Xt=>?_)
  ·exact ar (Z0 1 (ie (Z9 (ZZ (.i (-1)) (li (by rw [Qf,Zs om,<-Zm];exact (S7 Zt Tb Xt).symm))))))
  exact ak (az (Z0 2 (ie (az (Z0 1 (ZE k (Z0 1 (ie (ZG ⟨k+1,Xx n (us++m) x2,ob,(by rw [<-Zm];exact (S9 Zt Tb Xt).symm),rfl,rfl,rfl⟩ (wk [0,0] (fr (ZI k fl))))))))))))
 exact ax 0 (ar (Z0 2 (ie (Z9 (ZZ (.i t) (li (by rw [Qf,Zs om,<-Zm];exact (S8 om).symm)))))))
theorem LU (n:Zu) (us:LI) (s:Z3) (hn:X2 n:=by exact ob) (hb:us.length+4*s.sz<=1000000000:=by exact ob) (ih:∀(b:Z4) (us:LI),(b.sz<s.sz)->(us.length+4*b.sz<=1000000000)->Zi 60 [Yc n,Z5 us,ZC b] [] (Ym (.i (Xx n us b)))):Zi 98 [Yc n,Z5 us,Yk s] [] (Ym (.i (Yv n us s))):=by
 have Xl:=hn.decls
 have hkz:=U8 s
 have haz:=Tp s
 have hdl:=Xl.len
 have hst:=FJ n us s
 refine ZB 183 Tryz.func98 (ar (iA (YC n) fun b1=>iA (X6 s) fun b2=>Z0 1 (ie (aq (ar (WO 9 [1,3,5] [(16,.b ((s.num != 0)&&(!Uz s.op)))] (fun gz=>gz) ?_ (fun hj1=>?_)))))))
 ·refine WO 15 [1,3,5] [(22,.b (((s.num != 0)&&(!Uz s.op))||(!Ur us s.op s.into)))] (fun gz=>gz) ?_ (fun hj2=>?_)
  ·refine Xr [1,3,5] [(38,.b ((((s.num != 0)&&(!Uz s.op))||(!Ur us s.op s.into))||((decide ((s.kids.length:Int)>0))&&((s.op != 7)&&(s.op != 8)))))] (fun gz=>gz) ?_ ?_
   ·refine Z0 1 (ib (b:=(((s.num != 0)&&(!Uz s.op))||(!Ur us s.op s.into))) 23 (fun Zb=>?_) (fun Zb=>?_))
    ·have ZT:((s.num≠0)/\(¬(Uz s.op=true)))∨(¬(Ur us s.op s.into=true)):=((X3 (Xb X4 (YR Iff.rfl)) (YR Iff.rfl))).1 Zb
     exact Z0 15 (ie (wk [0,0] (ZJ true Zb fl)))
    have Y6:¬(((s.num≠0)/\(¬(Uz s.op=true)))∨(¬(Ur us s.op s.into=true))):=YH (X3 (Xb X4 (YR Iff.rfl)) (YR Iff.rfl)) Zb
    refine Z6 2 [0] (iw (Vh s.kids) (Z0 2 (ib (b:=(decide ((s.kids.length:Int)>0))) 28 (fun ZM=>?_) (fun ZM=>?_))))
    ·have YA:(s.kids.length:Int)>0:=(dq).1 ZM
     refine Z6 5 [0] (ib (b:=(s.op != 7)) 33 (fun YT=>?_) (fun YT=>?_))
     ·have YJ:s.op≠7:=(X4).1 YT
      exact Z6 5 [0] (ie (wk [0,0] (ZJ (s.op != 8) (And.intro Zb (And.intro ZM YT)) fl)))
     have YU:¬(s.op≠7):=YH X4 YT
     exact Z0 5 (ie (wk [0,0] (ZJ false (And.intro Zb (And.intro ZM YT)) fl)))
    have XI:¬((s.kids.length:Int)>0):=YH dq ZM
    exact Z0 10 (ie (wk [0,0] (ZJ false (And.intro Zb ZM) fl)))
   refine ac ((((s.num != 0)&&(!Uz s.op))||(!Ur us s.op s.into))||((decide ((s.kids.length:Int)>0))&&((s.op != 7)&&(s.op != 8)))) (p:=(((s.num≠0)/\(¬(Uz s.op=true)))∨(¬(Ur us s.op s.into=true)))∨(((s.kids.length:Int)>0)/\((s.op≠7)/\(s.op≠8)))) (X3 (X3 (Xb X4 (YR Iff.rfl)) (YR Iff.rfl)) (Xb dq (Xb X4 X4))) (fun Za=>?_) (fun Za=>?_)
   ·exact ar (Z0 1 (ie (Z9 (ZZ (.i (-1)) (li (by first|rfl|( grind)|(have q:=Vp (ds:=n.decls) (us:=us) (args:=s.args) om; grind)|(have q:=Vq (ds:=n.decls) (us:=us) (args:=s.args) om ‹s.args[0]? = some _› om; grind)|(have q:=Vg (ds:=n.decls) (us:=us) (args:=s.args) om ‹s.args[0]? = some _› om ‹us[_]? = some _›; grind)))))))
   refine ak (aq (ar (Z6 2 [0] (ie (ab 0 (ar (Z0 2 (ie (ac (s.op==0) Zz (fun Zg=>?_) (fun Zg=>?_))))))))))
   ·refine ar (Z6 2 [0] (iw (Y2 s.args) (Xr [] [(51,.b (((s.args.length:Int)==0)&&(decide ((-999)<=s.num/\s.num<=999))))] (fun gz=>gz) ?_ ?_)))
    ·refine Z0 2 (ib (b:=((s.args.length:Int)==0)) 47 (fun XY=>?_) (fun XY=>?_))
     ·have Wd:(s.args.length:Int)=0:=(Zz).1 XY
      exact Z6 2 [0] (Zr [] (Vz s.num (-999) 999) (Z0 1 (ie (wk [0,0] (ZJ (decide ((-999)<=s.num/\s.num<=999)) XY fl)))))
     have WM:¬((s.args.length:Int)=0):=YH Zz XY
     exact Z0 4 (ie (wk [0,0] (ZJ false XY fl)))
    refine ac (((s.args.length:Int)==0)&&(decide ((-999)<=s.num/\s.num<=999))) (p:=((s.args.length:Int)=0)/\((-999)<=s.num/\s.num<=999)) (Xb Zz dq) (fun ZK=>?_) (fun ZK=>?_)
    ·exact ar (Z0 1 (ie (Z9 (ZZ (.i 0) (li (by first|rfl|( grind)|(have q:=Vp (ds:=n.decls) (us:=us) (args:=s.args) om; grind)|(have q:=Vq (ds:=n.decls) (us:=us) (args:=s.args) om ‹s.args[0]? = some _› om; grind)|(have q:=Vg (ds:=n.decls) (us:=us) (args:=s.args) om ‹s.args[0]? = some _› om ‹us[_]? = some _›; grind)))))))
    exact ak (ar (Z0 1 (ie (Z9 (ZZ (.i (-1)) (li (by first|rfl|( grind)|(have q:=Vp (ds:=n.decls) (us:=us) (args:=s.args) om; grind)|(have q:=Vq (ds:=n.decls) (us:=us) (args:=s.args) om ‹s.args[0]? = some _› om; grind)|(have q:=Vg (ds:=n.decls) (us:=us) (args:=s.args) om ‹s.args[0]? = some _› om ‹us[_]? = some _›; grind))))))))
   refine aq (ar (Z0 2 (ie (Xo (fun fz gz F h=>F=sF [1,3,5,40] fz [(52,.b ((s.op==1)||((s.op==2)||((s.op==3)||(s.op==4)))))]/\h=gz) ?_ ?_))))
   ·refine ac (s.op==1) Zz (fun Yi=>?_) (fun Yi=>?_)
    ·exact ak (ZF ⟨rfl,rfl⟩ (wk [0,0] (fc (x:=.b (s.op==1)) (lb (by first|rfl|(rw [Zw Yi])|(rw [Zs Yi])|(simp [Yi];done)|(rw [Xi];simp [Yi];done)|omega)) fl)))
    refine ar (Z0 2 (ie (ac (s.op==2) Zz (fun Xt=>?_) (fun Xt=>?_))))
    ·exact ak (ZF ⟨rfl,rfl⟩ (wk [0,0] (fc (x:=.b (s.op==2)) (lb (by first|rfl|(rw [Zw Yi])|(rw [Zs Yi])|(simp [Yi,Xt];done)|(rw [Xi];simp [Yi,Xt];done)|omega)) fl)))
    refine ar (Z0 2 (ie (ac (s.op==3) Zz (fun Xu=>?_) (fun Xu=>?_))))
    ·exact ak (ZF ⟨rfl,rfl⟩ (wk [0,0] (fc (x:=.b (s.op==3)) (lb (by first|rfl|(rw [Zw Yi])|(rw [Zs Yi])|(simp [Yi,Xt,Xu];done)|(rw [Xi];simp [Yi,Xt,Xu];done)|omega)) fl)))
    exact az (Z0 2 (ie (ZF ⟨rfl,rfl⟩ (wk [0,0] (fc (x:=.b (s.op==4)) (lb (by first|rfl|(rw [Zw Yi])|(rw [Zs Yi])|(simp [Yi,Xt,Xu];done)|(rw [Xi];simp [Yi,Xt,Xu];done)|omega)) fl)))))
   rintro F h ⟨rfl,rfl⟩
   refine ac ((s.op==1)||((s.op==2)||((s.op==3)||(s.op==4)))) (p:=(s.op=1)∨((s.op=2)∨((s.op=3)∨(s.op=4)))) (X3 Zz (X3 Zz (X3 Zz Zz))) (fun Tv=>?_) (fun Tv=>?_)
   ·refine ar (Z6 3 [0] (iL (Z7 [0,0]) 2 1 fun v1=>ZA 0 [(60,Z5 [0,0])] (Zr [] (Jh us s.args [0,0] (hl_tys:=(by first|(simp;done)|(have:=Vr Xl s.num;omega)))) (ie (ac (W3 us s.args [0,0]) Iff.rfl (fun UM=>?_) (fun UM=>?_))))))
    ·exact ar (Z0 1 (ie (Z9 (ZZ (.i 0) (li (by first|rfl|( grind)|(have q:=Vp (ds:=n.decls) (us:=us) (args:=s.args) om; grind)|(have q:=Vq (ds:=n.decls) (us:=us) (args:=s.args) om ‹s.args[0]? = some _› om; grind)|(have q:=Vg (ds:=n.decls) (us:=us) (args:=s.args) om ‹s.args[0]? = some _› om ‹us[_]? = some _›; grind)))))))
    exact ak (ar (Z0 1 (ie (Z9 (ZZ (.i (-1)) (li (by first|rfl|( grind)|(have q:=Vp (ds:=n.decls) (us:=us) (args:=s.args) om; grind)|(have q:=Vq (ds:=n.decls) (us:=us) (args:=s.args) om ‹s.args[0]? = some _› om; grind)|(have q:=Vg (ds:=n.decls) (us:=us) (args:=s.args) om ‹s.args[0]? = some _› om ‹us[_]? = some _›; grind))))))))
   refine ar (Z0 2 (ie (ac (s.op==5) Zz (fun Ui=>?_) (fun Ui=>?_))))
   ·refine ar (Z6 3 [0] (iL (Z7 [0]) 1 1 fun v2=>ZA 0 [(67,Z5 [0])] (Zr [] (Jh us s.args [0] (hl_tys:=(by first|(simp;done)|(have:=Vr Xl s.num;omega)))) (ie (ac (W3 us s.args [0]) Iff.rfl (fun Bk=>?_) (fun Bk=>?_))))))
    ·exact ar (Z0 1 (ie (Z9 (ZZ (.i 0) (li (by first|rfl|( grind)|(have q:=Vp (ds:=n.decls) (us:=us) (args:=s.args) om; grind)|(have q:=Vq (ds:=n.decls) (us:=us) (args:=s.args) om ‹s.args[0]? = some _› om; grind)|(have q:=Vg (ds:=n.decls) (us:=us) (args:=s.args) om ‹s.args[0]? = some _› om ‹us[_]? = some _›; grind)))))))
    exact ak (ar (Z0 1 (ie (Z9 (ZZ (.i (-1)) (li (by first|rfl|( grind)|(have q:=Vp (ds:=n.decls) (us:=us) (args:=s.args) om; grind)|(have q:=Vq (ds:=n.decls) (us:=us) (args:=s.args) om ‹s.args[0]? = some _› om; grind)|(have q:=Vg (ds:=n.decls) (us:=us) (args:=s.args) om ‹s.args[0]? = some _› om ‹us[_]? = some _›; grind))))))))
   refine ar (Z0 2 (ie (ac (s.op==6) Zz (fun Bl=>?_) (fun Bl=>?_))))
   ·refine aD 17 (ZD 13 17 [0,1,2,3] [1,0] (Z8 4 (Yf 4 [] [] [] (FB n.decls s.num) (Ah [3,5] [(87,.b ((decide ((WV n.decls s.num)>0))&&W3 us s.args (ZY n.decls s.num)))] (fun gz=>gz) ?_ ?_))))
    ·refine Zj 10 12 [5,6] (db (b:=(decide ((WV n.decls s.num)>0))) 77 (fun VV=>?_) (fun VV=>?_))
     ·have V1:(WV n.decls s.num)>0:=(dq).1 VV
      exact ZD 3 10 [7,8,9,10,11,12,13] [0,1,0] (Z8 14 (Yf 14 [] [0] [b2] (TA n.decls s.num (hd:=Xl)) (Z8 15 (Yf 15 [] [] [] (Jh us s.args (ZY n.decls s.num) (hl_tys:=(by first|(simp;done)|(have:=Vr Xl s.num;omega)))) (Zj 0 1 [16] (de (wk [0,0] (ZJ (W3 us s.args (ZY n.decls s.num)) VV fl))))))))
     have UA:¬((WV n.decls s.num)>0):=YH dq VV
     exact Zj 0 10 [7,8,9,10,11,12,13,14,15,16] (de (wk [0,0] (ZJ false VV fl)))
    refine ac ((decide ((WV n.decls s.num)>0))&&W3 us s.args (ZY n.decls s.num)) (p:=((WV n.decls s.num)>0)/\(W3 us s.args (ZY n.decls s.num)=true)) (Xb dq Iff.rfl) (fun Qb=>?_) (fun Qb=>?_)
    ·exact ar (Z6 4 [1,0] (Zr [] (FB n.decls s.num) (Z0 1 (ie (Z9 (ZZ (.i (WV n.decls s.num)) (li (by first|rfl|( grind)|(have q:=Vp (ds:=n.decls) (us:=us) (args:=s.args) om; grind)|(have q:=Vq (ds:=n.decls) (us:=us) (args:=s.args) om ‹s.args[0]? = some _› om; grind)|(have q:=Vg (ds:=n.decls) (us:=us) (args:=s.args) om ‹s.args[0]? = some _› om ‹us[_]? = some _›; grind)))))))))
    exact ak (ar (Z0 1 (ie (Z9 (ZZ (.i (-1)) (li (by first|rfl|( grind)|(have q:=Vp (ds:=n.decls) (us:=us) (args:=s.args) om; grind)|(have q:=Vq (ds:=n.decls) (us:=us) (args:=s.args) om ‹s.args[0]? = some _› om; grind)|(have q:=Vg (ds:=n.decls) (us:=us) (args:=s.args) om ‹s.args[0]? = some _› om ‹us[_]? = some _›; grind))))))))
   refine ar (Z0 2 (ie (ac (s.op==7) Zz (fun JJ=>?_) (fun JJ=>?_))))
   ·refine ar (Z6 3 [0] (iL (Z7 [0]) 1 1 fun v3=>ZA 0 [(98,Z5 [0])] (Zr [] (Jh us s.args [0] (hl_tys:=(by first|(simp;done)|(have:=Vr Xl s.num;omega)))) (ie (ac (W3 us s.args [0]) Iff.rfl (fun EL=>?_) (fun EL=>?_))))))
    ·exact ar (Z6 3 [2,1] (Zr [] (LR n us s (ih:=ob)) (Z0 1 (ie (Z9 (ZZ (.i (Qf n us s.op s.num s.kids)) (li (by first|rfl|( grind)|(have q:=Vp (ds:=n.decls) (us:=us) (args:=s.args) om; grind)|(have q:=Vq (ds:=n.decls) (us:=us) (args:=s.args) om ‹s.args[0]? = some _› om; grind)|(have q:=Vg (ds:=n.decls) (us:=us) (args:=s.args) om ‹s.args[0]? = some _› om ‹us[_]? = some _›; grind)))))))))
    exact ak (ar (Z0 1 (ie (Z9 (ZZ (.i (-1)) (li (by first|rfl|( grind)|(have q:=Vp (ds:=n.decls) (us:=us) (args:=s.args) om; grind)|(have q:=Vq (ds:=n.decls) (us:=us) (args:=s.args) om ‹s.args[0]? = some _› om; grind)|(have q:=Vg (ds:=n.decls) (us:=us) (args:=s.args) om ‹s.args[0]? = some _› om ‹us[_]? = some _›; grind))))))))
   refine ar (Z0 2 (ie (ac (s.op==8) Zz (fun EM=>?_) (fun EM=>?_))))
   ·refine ar (Z6 5 [0,0] (iL (Z7 [s.num]) 1 1 fun v4=>ZA 0 [(111,Z5 [s.num])] (Zr [] (Jh us s.args [s.num] (hl_tys:=(by first|(simp;done)|(have:=Vr Xl s.num;omega)))) (ie (ac (W3 us s.args [s.num]) Iff.rfl (fun EN=>?_) (fun EN=>?_))))))
    ·exact ar (Z6 3 [2,1] (Zr [] (LR n us s (ih:=ob)) (Z0 1 (ie (Z9 (ZZ (.i (Qf n us s.op s.num s.kids)) (li (by first|rfl|( grind)|(have q:=Vp (ds:=n.decls) (us:=us) (args:=s.args) om; grind)|(have q:=Vq (ds:=n.decls) (us:=us) (args:=s.args) om ‹s.args[0]? = some _› om; grind)|(have q:=Vg (ds:=n.decls) (us:=us) (args:=s.args) om ‹s.args[0]? = some _› om ‹us[_]? = some _›; grind)))))))))
    exact ak (ar (Z0 1 (ie (Z9 (ZZ (.i (-1)) (li (by first|rfl|( grind)|(have q:=Vp (ds:=n.decls) (us:=us) (args:=s.args) om; grind)|(have q:=Vq (ds:=n.decls) (us:=us) (args:=s.args) om ‹s.args[0]? = some _› om; grind)|(have q:=Vg (ds:=n.decls) (us:=us) (args:=s.args) om ‹s.args[0]? = some _› om ‹us[_]? = some _›; grind))))))))
   refine aq (ar (Z0 2 (ie (Xo (fun fz gz F h=>F=sF [1,3,5,40] fz [(117,.b ((s.op==9)||(s.op==10)))]/\h=gz) ?_ ?_))))
   ·refine ac (s.op==9) Zz (fun Qc=>?_) (fun Qc=>?_)
    ·exact ak (ZF ⟨rfl,rfl⟩ (wk [0,0] (fc (x:=.b (s.op==9)) (lb (by first|rfl|(rw [Zw Qc])|(rw [Zs Qc])|(simp [Qc];done)|(rw [Xi];simp [Qc];done)|omega)) fl)))
    exact az (Z0 2 (ie (ZF ⟨rfl,rfl⟩ (wk [0,0] (fc (x:=.b (s.op==10)) (lb (by first|rfl|(rw [Zw Qc])|(rw [Zs Qc])|(simp [Qc];done)|(rw [Xi];simp [Qc];done)|omega)) fl)))))
   rintro F h ⟨rfl,rfl⟩
   refine ac ((s.op==9)||(s.op==10)) (p:=(s.op=9)∨(s.op=10)) (X3 Zz Zz) (fun Rd=>?_) (fun Rd=>?_)
   ·exact ar (Z6 3 [1,0] (Zr [] (Z2d n us s) (Z0 1 (ie (Z9 (ZZ (.i (QN n us s.op s.num s.args)) (li (by first|rfl|( grind)|(have q:=Vp (ds:=n.decls) (us:=us) (args:=s.args) om; grind)|(have q:=Vq (ds:=n.decls) (us:=us) (args:=s.args) om ‹s.args[0]? = some _› om; grind)|(have q:=Vg (ds:=n.decls) (us:=us) (args:=s.args) om ‹s.args[0]? = some _› om ‹us[_]? = some _›; grind)))))))))
   refine ar (Z0 2 (ie (ac (s.op==11) Zz (fun Re=>?_) (fun Re=>?_))))
   ·refine aD 26 (ZD 24 26 [0,1] [0] (dw 2 (Y2 s.args) (Zj 21 23 [3,4] (db (b:=((s.args.length:Int)==2)) 130 (fun Tu=>?_) (fun Tu=>?_)))))
    ·have UN:(s.args.length:Int)=2:=(Zz).1 Tu
     refine ZD 19 21 [5,6] [0] ?_
     obtain ⟨x1,Z2⟩:=Zp s.args 0 om
     refine dx 7 (Zh none 0 1 (ZQ Z2)) (Zj 16 18 [8,9] (dw 10 (Y2 us) (da 11 (((us.length:Int)-1)) (((us.length:Int))-(1)) (Z8 12 (Yf 12 [] [] [] (Vz x1 0 ((us.length:Int)-1)) (Zj 11 13 [13,14] (db (b:=(decide (0<=x1/\x1<=((us.length:Int)-1)))) 140 (fun JI=>?_) (fun JI=>?_))))))))
     ·have UB:0<=x1/\x1<=((us.length:Int)-1):=(dq).1 JI
      refine ZD 6 11 [15,16,17,18,19] [1,0] (dx 20 (Zh none 0 1 (ZQ Z2)) (Zj 4 5 [21] ?_))
      obtain ⟨x2,Zt⟩:=Zp us x1.toNat om
      refine dx 22 (Zh none x1 1 (ZQ Zt)) (Zj 2 3 [23] (Z8 24 (Yf 24 [] [] [] (BM n.decls x2) (Zj 0 1 [25] (de (ac (WE n.decls x2) Iff.rfl (fun Rf=>?_) (fun Rf=>?_)))))))
      ·refine aD 14 (ZD 9 14 [0,1,2,3,4] [1,0] (dx 5 (Zh none 0 1 (ZQ Z2)) (Zj 7 8 [6] (dx 7 (Zh none x1 1 (ZQ Zt)) (Zj 5 6 [8] (da 9 ((x2-1)) ((x2)-(1)) (hb:=(by have:=EP ‹WE n.decls _=true›;omega)) ?_))))))
       obtain ⟨x3,YQ⟩:=Zp n.decls ((x2-1).toNat) (by have:=EP ‹WE n.decls _=true›;omega)
       have had:=N5 (us:=us) (args:=s.args) om ‹s.args[0]? = some _› om ‹us[_]? = some _› ‹WE n.decls _=true› YQ
       refine dx 10 (M1 (es:=YM n.decls) (hv:=none) (j:=(x2-1)) (sz:=3) (y:=AZ x3) kr (by have:=EP ‹WE n.decls _=true›;omega) (VE YQ) rfl) (Zj 2 3 [11] (Z8 12 (dA 12 [0,1] [b2,b1] [.i 0,.i 0,nl] fun b3=>Z8 13 (Yo 13 0 [] [] b3 (EZ x3) (de (aD 8 (ZD 5 8 [0,1,2] [1] (dx 3 (Kw (es:=Z7 s.args) (hv:=none) (l:=1) (m:=(((Z7 s.args).length:Nat):Int)) (sz:=1) (es':=Z7 (s.args.drop 1)) kr om (by simp<;>omega) (by simp<;>omega) (Yl _) (by first|(simp only [U0,V9,JA,Al];done)|(simp only [U0,V9,JA,Al];rfl)|(simp [JA,Al];done))) (ZD 2 4 [4,5] [0] (Z8 6 (dL 6 [1] [b2] (Z7 [x3.frm]) 1 1 fun v5=>Y9 1 1 [] [(170,Z5 [x3.frm])] (Z8 7 (Yf 7 [] [] [] (Jh us (s.args.drop 1) [x3.frm] (hl_tys:=(by first|(simp;done)|(have:=Vr Xl s.num;omega)))) (de (ac (W3 us (s.args.drop 1) [x3.frm]) Iff.rfl (fun HJ=>?_) (fun HJ=>?_))))))))))))))))
       ·exact ar (Z6 3 [1] (ie (Z9 (ZZ (.i x3.to_) (li (by first|rfl|(clear Z2 Zt YQ;grind)|(have q:=Vp (ds:=n.decls) (us:=us) (args:=s.args) om;clear Z2 Zt YQ;grind)|(have q:=Vq (ds:=n.decls) (us:=us) (args:=s.args) om ‹s.args[0]? = some _› om;clear Z2 Zt YQ;grind)|(have q:=Vg (ds:=n.decls) (us:=us) (args:=s.args) om ‹s.args[0]? = some _› om ‹us[_]? = some _›;clear Z2 Zt YQ;grind)))))))
       exact ak (ar (Z0 1 (ie (Z9 (ZZ (.i (-1)) (li (by first|rfl|(clear Z2 Zt YQ;grind)|(have q:=Vp (ds:=n.decls) (us:=us) (args:=s.args) om;clear Z2 Zt YQ;grind)|(have q:=Vq (ds:=n.decls) (us:=us) (args:=s.args) om ‹s.args[0]? = some _› om;clear Z2 Zt YQ;grind)|(have q:=Vg (ds:=n.decls) (us:=us) (args:=s.args) om ‹s.args[0]? = some _› om ‹us[_]? = some _›;clear Z2 Zt YQ;grind))))))))
      exact ak (ar (Z0 1 (ie (Z9 (ZZ (.i (-1)) (li (by first|rfl|(clear Z2 Zt;grind)|(have q:=Vp (ds:=n.decls) (us:=us) (args:=s.args) om;clear Z2 Zt;grind)|(have q:=Vq (ds:=n.decls) (us:=us) (args:=s.args) om ‹s.args[0]? = some _› om;clear Z2 Zt;grind)|(have q:=Vg (ds:=n.decls) (us:=us) (args:=s.args) om ‹s.args[0]? = some _› om ‹us[_]? = some _›;clear Z2 Zt;grind))))))))
     have Qd:¬(0<=x1/\x1<=((us.length:Int)-1)):=YH dq JI
     exact Zj 0 11 [15,16,17,18,19,20,21,22,23,24,25] (de (Wi (ak (ar (Z0 1 (ie (Z9 (ZZ (.i (-1)) (li (by first|rfl|(clear Z2;grind)|(have q:=Vp (ds:=n.decls) (us:=us) (args:=s.args) om;clear Z2;grind)|(have q:=Vq (ds:=n.decls) (us:=us) (args:=s.args) om ‹s.args[0]? = some _› om;clear Z2;grind)|(have q:=Vg (ds:=n.decls) (us:=us) (args:=s.args) om ‹s.args[0]? = some _› om ‹us[_]? = some _›;clear Z2;grind)))))))))))
    have TV:¬((s.args.length:Int)=2):=YH Zz Tu
    exact Zj 0 21 [5,6,7,8,9,10,11,12,13,14,15,16,17,18,19,20,21,22,23,24,25] (de (Wi (ak (ar (Z0 1 (ie (Z9 (ZZ (.i (-1)) (li (by first|rfl|( grind)|(have q:=Vp (ds:=n.decls) (us:=us) (args:=s.args) om; grind)|(have q:=Vq (ds:=n.decls) (us:=us) (args:=s.args) om ‹s.args[0]? = some _› om; grind)|(have q:=Vg (ds:=n.decls) (us:=us) (args:=s.args) om ‹s.args[0]? = some _› om ‹us[_]? = some _›; grind)))))))))))
   refine aq (ar (Z0 2 (ie (Xo (fun fz gz F h=>F=sF [1,3,5] fz [(174,.b ((s.op==14)||((s.op==15)||((s.op==16)||(s.op==17)))))]/\h=gz) ?_ ?_))))
   ·refine ac (s.op==14) Zz (fun U6=>?_) (fun U6=>?_)
    ·exact ak (ZF ⟨rfl,rfl⟩ (wk [0,0] (fc (x:=.b (s.op==14)) (lb (by first|rfl|(rw [Zw U6])|(rw [Zs U6])|(simp [U6];done)|(rw [Xi];simp [U6];done)|omega)) fl)))
    refine ar (Z0 2 (ie (ac (s.op==15) Zz (fun Kl=>?_) (fun Kl=>?_))))
    ·exact ak (ZF ⟨rfl,rfl⟩ (wk [0,0] (fc (x:=.b (s.op==15)) (lb (by first|rfl|(rw [Zw U6])|(rw [Zs U6])|(simp [U6,Kl];done)|(rw [Xi];simp [U6,Kl];done)|omega)) fl)))
    refine ar (Z0 2 (ie (ac (s.op==16) Zz (fun Bm=>?_) (fun Bm=>?_))))
    ·exact ak (ZF ⟨rfl,rfl⟩ (wk [0,0] (fc (x:=.b (s.op==16)) (lb (by first|rfl|(rw [Zw U6])|(rw [Zs U6])|(simp [U6,Kl,Bm];done)|(rw [Xi];simp [U6,Kl,Bm];done)|omega)) fl)))
    exact az (Z0 2 (ie (ZF ⟨rfl,rfl⟩ (wk [0,0] (fc (x:=.b (s.op==17)) (lb (by first|rfl|(rw [Zw U6])|(rw [Zs U6])|(simp [U6,Kl,Bm];done)|(rw [Xi];simp [U6,Kl,Bm];done)|omega)) fl)))))
   rintro F h ⟨rfl,rfl⟩
   refine ac ((s.op==14)||((s.op==15)||((s.op==16)||(s.op==17)))) (p:=(s.op=14)∨((s.op=15)∨((s.op=16)∨(s.op=17)))) (X3 Zz (X3 Zz (X3 Zz Zz))) (fun Rg=>?_) (fun Rg=>?_)
   ·exact ar (Z6 3 [1,0] (Zr [] (Z23 n us s) (Z0 1 (ie (Z9 (ZZ (.i (TP n.decls us s.op s.args)) (li (by first|rfl|( grind)|(have q:=Vp (ds:=n.decls) (us:=us) (args:=s.args) om; grind)|(have q:=Vq (ds:=n.decls) (us:=us) (args:=s.args) om ‹s.args[0]? = some _› om; grind)|(have q:=Vg (ds:=n.decls) (us:=us) (args:=s.args) om ‹s.args[0]? = some _› om ‹us[_]? = some _›; grind)))))))))
   exact ak (ar (Z0 1 (ie (Z9 (ZZ (.i (-1)) (li (by first|rfl|( grind)|(have q:=Vp (ds:=n.decls) (us:=us) (args:=s.args) om; grind)|(have q:=Vq (ds:=n.decls) (us:=us) (args:=s.args) om ‹s.args[0]? = some _› om; grind)|(have q:=Vg (ds:=n.decls) (us:=us) (args:=s.args) om ‹s.args[0]? = some _› om ‹us[_]? = some _›; grind))))))))
  refine Z0 1 (ib (b:=((s.num != 0)&&(!Uz s.op))) 17 (fun Kj=>?_) (fun Kj=>?_))
  ·have J1:(s.num≠0)/\(¬(Uz s.op=true)):=((Xb X4 (YR Iff.rfl))).1 Kj
   exact Z0 5 (Xe (wk [0,0] (ZJ true Kj fl)) hj2)
  have J2:¬((s.num≠0)/\(¬(Uz s.op=true))):=YH (Xb X4 (YR Iff.rfl)) Kj
  exact Z6 2 [0] (Zr [] (Z2n us s) (Z0 2 (Xe (wk [0,0] (ZJ (!Ur us s.op s.into) Kj fl)) hj2)))
 refine Z6 4 [0] (ib (b:=(s.num != 0)) 11 (fun Kk=>?_) (fun Kk=>?_))
 ·have CA:s.num≠0:=(X4).1 Kk
  exact Z6 2 [0] (Zr [] (Z24 s.op) (Z0 2 (Xe (wk [0,0] (ZJ (!Uz s.op) Kk fl)) hj1)))
 have JK:¬(s.num≠0):=YH X4 Kk
 exact Z0 5 (Xe (wk [0,0] (ZJ false Kk fl)) hj1)
theorem Z1z (n:Zu) (us:LI) (b:Z4) (hn:X2 n:=by exact ob) (hb:us.length+4*b.sz<=1000000000:=by exact ob) (ih:∀(s:Z3) (us:LI),(s.sz<b.sz)->(us.length+4*s.sz<=1000000000)->Zi 98 [Yc n,Z5 us,Yk s] [] (Ym (.i (Yv n us s)))):Zi 60 [Yc n,Z5 us,ZC b] [] (Ym (.i (Xx n us b))):=by
 have hbz:=WQ b
 have hbe:=DX n us b
 refine ZB 52 Tryz.func60 (ar (iA (YC n) fun b1=>iA (YE b) fun b2=>Z0 1 (ie (ar (Z0 1 (ic [] (V7 us) ?_))))))
 rintro _ _ ⟨v1,rfl,rfl⟩
 refine Z0 1 (ie (aq (ar (Z0 1 (ie (ab 0 (ZX (fun fz gz m F h=>∃(k:Nat) (vs:LI) (v:Value),(k<=b.steps.length)/\(vs.length<=us.length+k)/\(Vd n (b.steps.drop k) vs=Vd n b.steps us)/\F=sF [3,5] fz [(7,ZO vs v),(8,.i k)]/\h=[Ze gz 1,Ze gz 2,.tail v 1]/\m=b.steps.length-k) _ _ _ ⟨0,us,v1,ob,ob,ob,rfl,rfl,rfl⟩ (wk [1,1,0] (fr (Y7 fl))) ?_)))))))
 rintro m F h ⟨k,vs,v,Y8,Zm,Zo,rfl,rfl,rfl⟩
 refine aq (ar (Z6 3 [0] (iw (W1 b.steps) (Z0 1 (ie (ZH ((k:Int)<(b.steps.length:Int)) (fun Za=>?_) (fun Za=>?_)))))))
 ·refine ak (aq (ab 1 (aD 9 (ZD 4 9 [0,1,2,3,4] [1,0] ?_))))
  obtain ⟨x1,Z2⟩:=Zp b.steps k om
  have hss:=AN Z2
  refine dx 5 (Zh none (k:Int) 5 (XG Z2)) (Y9 2 3 [6] [(20,Z5 vs)] (Z8 7 (Yf 7 [] [] [] (ih x1 vs ob ob) (Zj 0 1 [8] (de (aq (ar (Z0 2 (ie (ZH ((Yv n vs x1)<0) (fun Zg=>?_) (fun Zg=>?_)))))))))))
  ·refine ar (Z0 1 (ie ?_))
   rw [Ye Z2] at Zo
   exact Z9 (ZZ (.i (-1)) (li (by clear Z2;first|rfl|omega|grind [Vd])))
  refine ak (ar (Z6 3 [0] (Zn (Zh none (k:Int) 5 (XG Z2)) (Z0 2 (Zr [] (Q2 x1.op) (ie (KS (fun fz gz F h=>∃(w:Value),F=sF [3,5,8] fz [(7,ZO (if Xp x1.op=true then vs++[Yv n vs x1] else vs) w)]/\h=[Ze gz 0,Ze gz 1,.tail w 1]) (fun _ _=>rfl) ?_ ?_)))))))
  ·refine ac (Xp x1.op) Iff.rfl (fun ZK=>?_) (fun ZK=>?_)
   ·exact az (Z0 2 (iL (Z7 [Yv n vs x1]) 1 1 fun v2=>ZA 0 [(38,Z5 [Yv n vs x1])] (ip 3 (Z7 (vs++[Yv n vs x1])) (Z7 vs) (Z7 [Yv n vs x1]) v none 1 (Yl _) (Yl _) (XD _) (by simp<;>omega) (by simp [XA,Z7]) fun v3=>Z0 1 (ie (ZF ⟨v3,rfl,rfl⟩ (wk [2,2,0] (fc (x:=ZO (vs++[Yv n vs x1]) v3) (Zf.slh _ (Yg Z7 (by first|rfl|(rw [Zw ZK])|(rw [Zs ZK])|(simp [ZK];done)|(rw [Xi];simp [ZK];done)|omega))) fl)))))))
   exact ak (ZF ⟨v,rfl,rfl⟩ (ZP 3 (fc (x:=ZO vs v) (Zf.slh _ (Yg Z7 (by first|rfl|(rw [Zw ZK])|(rw [Zs ZK])|(simp [ZK];done)|(rw [Xi];simp [ZK];done)|omega))) fl)))
  rintro F h ⟨w,rfl,rfl⟩
  refine az (Z0 1 (ZE k (Z0 1 (ie ?_))))
  have hdr:=Ye Z2
  exact ZG ⟨k+1,(if Xp x1.op=true then vs++[Yv n vs x1] else vs),w,ob,(by split<;>(try simp)<;>omega),(by rw [hdr] at Zo;clear hdr Z2;grind [Vd]),rfl,rfl,rfl⟩ (ZP 3 (fr (ZI k fl)))
 refine ax 0 (aq (ar (Z6 3 [0] (iw (Y2 vs) (ia (((vs.length:Int)-1)) (((vs.length:Int))-(1)) (Zr [] (Vz b.result 0 ((vs.length:Int)-1)) (Z0 1 (ie (ac (!(decide (0<=b.result/\b.result<=((vs.length:Int)-1)))) (p:=¬(0<=b.result/\b.result<=((vs.length:Int)-1))) (YR dq) (fun Yi=>?_) (fun Yi=>?_))))))))))
 ·refine ar (Z0 1 (ie ?_))
  try rw [Xf (xs:=b.steps) (k:=k) om] at Zo
  exact Z9 (ZZ (.i (-1)) (li (by rw [hbe,<-Zo];show _=(Va vs b.result).getD (-1);rw [K1 Yi];rfl)))
 refine ak (ar (Z6 3 [0] ?_))
 obtain ⟨x2,Zt⟩:=Zp vs b.result.toNat om
 refine Zn (Zh (some v) b.result 1 (ZQ Zt)) (Z0 2 (ie ?_))
 try rw [Xf (xs:=b.steps) (k:=k) om] at Zo
 exact Z9 (ZZ (.i x2) (li (by rw [hbe,<-Zo];show _=(Va vs b.result).getD (-1);rw [KO om Zt];rfl)))
theorem Z2k (b:Z4) (l:Int) (hb:b.sz<=1000000000) (hl:0<=l/\l<=600) (ih:∀(b2:Z4) (l:Int),(b2.sz<b.sz)->(0<=l/\l<=600)->Zi 97 [ZC b2,.i l] [] (Ym (.i (XS b2 l)))):Zi 97 [ZC b,.i l] [] (Ym (.i (XS b l))):=by
 have hbz:=WQ b
 have hbe:=Ig b l
 refine ZB 43 Tryz.func97 (ar (iA (YE b) fun b1=>?_))
 refine Z0 1 (ie (aq (ar (Z0 1 (ie (ab 0 (ZX (fun fz gz m F h=>∃(k:Nat) (q:Int),(k<=b.steps.length)/\(0<=q/\q<=600)/\(Uj (b.steps.drop k) q=Uj b.steps l)/\F=sF [2] fz [(1,.i q),(5,.i k)]/\h=gz/\m=b.steps.length-k) _ _ _ ⟨0,l,ob,ob,ob,rfl,rfl,rfl⟩ (wk [0] (fr (Y7 fl))) ?_)))))))
 rintro m F h ⟨k,q,Y8,Zm,Zo,rfl,rfl,rfl⟩
 refine aq (ar (Z6 3 [0] (iw (W1 b.steps) (Z0 1 (ie (ZH ((k:Int)<(b.steps.length:Int)) (fun Za=>?_) (fun Za=>?_)))))))
 ·refine ak (aq (ab 1 (aq (ar (Z0 2 (ie (ZH (q<1) (fun Zg=>?_) (fun Zg=>?_))))))))
  ·refine ar (Z0 1 (ie ?_))
   try rw [Xf (xs:=b.steps) (k:=k) om] at Zo
   obtain ⟨x1,Z2⟩:=Zp b.steps k om
   rw [Ye Z2] at Zo
   clear Z2
   exact Z9 (ZZ (.i (-1)) (li (by first|rfl|omega|grind [Uj])))
  obtain ⟨s1,hxs1⟩:=Zp b.steps k om
  have hss:=Q3 hxs1
  have hkz:=U8 s1
  refine ak (ar (Z0 1 (ia ((q-1)) ((q)-(1)) (Z0 1 (ie (ar (Z0 1 (ie (ab 2 (ZX (fun fz gz m F h=>∃(j:Nat) (j2:Int),(j<=s1.kids.length)/\(0<=j2/\j2<=600)/\(UE (s1.kids.drop j) j2=UE s1.kids (q-1))/\F=sF [2,5] fz [(1,.i j2),(6,.i j)]/\h=gz/\m=s1.kids.length-j) _ _ _ ⟨0,(q-1),ob,ob,ob,rfl,rfl,rfl⟩ (wk [0] (fr (Y7 fl))) ?_))))))))))
  rintro m F h ⟨j,j2,U3,Ww,Xc,rfl,rfl,rfl⟩
  refine aq (ar (Z6 4 [0] (Zn (Zh none (k:Int) 5 (XG hxs1)) (Z0 2 (iw (Vh s1.kids) (Z0 1 (ie (ZH ((j:Int)<(s1.kids.length:Int)) (fun ZK=>?_) (fun ZK=>?_)))))))))
  ·refine ak (aq (ab 3 (ar (Z6 3 [0] (Zn (Zh none (k:Int) 5 (XG hxs1)) (Z0 3 ?_))))))
   obtain ⟨x1,Z2⟩:=Zp s1.kids j om
   have hks:=VW Z2
   have hle:=F7.2 x1 j2 om
   refine Zn (Zh none (j:Int) 2 (Vs Z2)) (Z0 2 (Zr [] (ih x1 j2 ob ob) (Z0 1 (ie (ar (Z0 2 (ie (ZH ((XS x1 j2)<0) (fun Yi=>?_) (fun Yi=>?_)))))))))
   ·refine ar (Z0 1 (ie ?_))
    rw [Ye hxs1] at Zo
    rw [Ye Z2] at Xc
    have hls:=CR s1 (q-1)
    exact Z9 (ZZ (.i (-1)) (li (by clear Z2 hxs1;first|rfl|omega|grind [Uj,UE])))
   refine ak (az (Z0 1 (ZE j (Z0 1 (ie ?_)))))
   have hdr:=Ye Z2
   exact ZG ⟨j+1,(XS x1 j2),ob,ob,(by rw [hdr] at Xc;clear hdr Z2 hxs1;grind [UE]),rfl,rfl,rfl⟩ (wk [0] (fr (ZI j fl)))
  refine ax 2 (az (Z0 1 (ZE k (Z0 1 (ie ?_)))))
  rw [Xf om] at Xc
  have hls:=CR s1 (q-1)
  rw [UE] at Xc
  have hdr:=Ye hxs1
  exact ZG ⟨k+1,j2,ob,ob,(by rw [hdr] at Zo;clear hdr hxs1;grind [Uj]),rfl,rfl,rfl⟩ (wk [0] (fr (ZI k fl)))
 refine ax 0 (ar (Z0 2 (ie ?_)))
 try rw [Xf (xs:=b.steps) (k:=k) om] at Zo
 exact Z9 (ZZ (.i q) (li (by first|rfl|omega|grind [Uj])))
theorem Z2j (b:Z4) (l:Int) (hb:b.sz<=1000000000) (hl:0<=l/\l<=600):Zi 97 [.agg [.sl (Zk b.steps) none,.i b.result],.i l] [] (Ym (.i (XS b l))):=by
 have key:∀m:Nat,∀(b:Z4) (l:Int),b.sz<=m->b.sz<=1000000000->(0<=l/\l<=600)->Zi 97 [.agg [.sl (Zk b.steps) none,.i b.result],.i l] [] (Ym (.i (XS b l))):=by
  intro m
  induction m with
  | zero=>intro b l h;have:=b.sz_pos;omega
  | succ m ih=>intro b l h1 h2 h3;exact Z2k b l h2 h3 fun b2 l2 k1 k2=>ih b2 l2 om om k2
 exact key b.sz b l (YI _) hb hl
theorem Z1y (n:Zu) (hn:X2 n) (m:Nat):∀(b:Z4) (us:LI),(b.sz<=m)->(us.length+4*b.sz<=1000000000)->Zi 60 [Yc n,Z5 us,ZC b] [] (Ym (.i (Xx n us b))):=by
 induction m with
 | zero=>intro b us h;have:=b.sz_pos;omega
 | succ m ih=>intro b us h1 h2;exact Z1z n us b hn h2 fun s us2 k1 k2=>LU n us2 s hn k2 fun b2 us3 q1 q2=>ih b2 us3 om q2
theorem LL (n:Zu) (us:LI) (b:Z4) (hn:X2 n) (hb:us.length+4*b.sz<=1000000000):Zi 60 [Yc n,Z5 us,ZC b] [] (Ym (.i (Xx n us b))):=
 Z1y n hn b.sz b us (YI _) hb
theorem FE (n:Zu) (us:LI) (s:Z3) (hn:X2 n) (hb:us.length+4*s.sz<=1000000000):Zi 98 [Yc n,Z5 us,Yk s] [] (Ym (.i (Yv n us s))):=
 LU n us s hn hb fun b2 us3 _ q2=>LL n us3 b2 hn q2
theorem LV (b:Z4) (hb:b.sz<=1000000000:=by exact ob):Zi 59 [ZC b] [] (Ym (.i (Wy b))):=by
 have hle:=F7.2 b 600 om
 refine ZB 10 Tryz.func59 (ar (iA (YE b) fun b1=>Z0 1 (ie (ar (Z6 1 [0] (Zr [] (Z2j b 600 ob ob) (Z0 1 (ie (aq (ar (Z0 2 (ie (ZH ((XS b 600)<0) (fun Za=>?_) (fun Za=>?_))))))))))))))
 ·exact ar (Z0 1 (ie (Z9 (ZZ (.i (-1)) (li (by first|rfl|omega|grind [Wy]))))))
 exact ak (ar (Z0 1 (ia ((600-(XS b 600))) ((600)-(XS b 600)) (Z0 1 (ie (Z9 (ZZ (.i (600-(XS b 600))) (li (by first|rfl|omega|grind [Wy])))))))))
theorem Kg (z:Int) :Zi 190 [.i z] [] (Ym (ZL (Z1.mk 0 z []))):=by
 exact ZB 6 Tryz.func190 (ar (iA [.i 0,.i 0,nl] fun b1=>ie (ar (Z0 1 (iL (Y3 []) 0 3 fun v1=>Z0 1 (Zy 1 b1 [.i 0,.i z,UR [] v1] (ie (Z9 (r3 [] [.agg [.i 0,.i z,UR [] v1]] [0] [(b1,b1)] ⟨rfl,rfl⟩ (Zf.agg (.cons li (.cons li (.cons (Zf.sl _ (Yg Y3 rfl)) .nil)))))))))))))
theorem Uy (z:Int) :Zi 222 [.i z] [] (Ym (ZL (Z1.mk 12 z []))):=by
 exact ZB 6 Tryz.func222 (ar (iA [.i 0,.i 0,nl] fun b1=>ie (ar (Z0 1 (iL (Y3 []) 0 3 fun v1=>Z0 1 (Zy 1 b1 [.i 12,.i z,UR [] v1] (ie (Z9 (r3 [] [.agg [.i 12,.i z,UR [] v1]] [0] [(b1,b1)] ⟨rfl,rfl⟩ (Zf.agg (.cons li (.cons li (.cons (Zf.sl _ (Yg Y3 rfl)) .nil)))))))))))))
theorem Xd (op:Int) (nm:Int) (ks:List Z1) :Zi 220 [.i op,.i nm,YY ks] [] (Ym (ZL (Z1.mk op nm ks))):=by
 exact ZB 11 Tryz.func220 (ar (iA [.i 0,.i 0,nl] fun b1=>ie (ar (Z0 4 (Zy 0 b1 [.i op,.i nm,YY ks] (ie (Z9 (r3 [] [.agg [.i op,.i nm,YY ks]] [0] [(b1,b1)] ⟨rfl,rfl⟩ (Zf.agg (.cons li (.cons li (.cons (Zf.sl _ (Yg Y3 rfl)) .nil))))))))))))
theorem HC (rd:Nat) (bs:LI) (p:Nat) (Zq:∀z∈bs,0<=z/\z<=255) (hp:p+4<=1000000000:=by exact ob):Zi 251 [.p rd 0] [Y4 rd bs p] (fun r h=>∃(z:Int),r=.i z/\h=[.obj rd [WW bs,.i (p+4:Nat)]]/\-2000<=z/\z<=2000):=by
 refine ZB 12 Tryz.func251 (ar (Z0 1 (ie (ar (Z0 2 (ic [0] (Xs rd bs p 6 (Zq:=ob)) ?_))))))
 rintro _ _ ⟨k1,rfl,rfl,ZT⟩
 have qhp1:=ZT.lt om
 refine Z0 1 (ic [0] (Xs rd bs (p+1) 6 (Zq:=ob)) ?_)
 rintro _ _ ⟨k2,rfl,rfl,Y6⟩
 have qhp2:=Y6.lt om
 refine Z0 1 (ic [0] (Xs rd bs ((p+1)+1) 40 (Zq:=ob)) ?_)
 rintro _ _ ⟨k3,rfl,rfl,YA⟩
 have qhp3:=YA.lt om
 refine iL (Z7 [k1,k2,0,1,2,-1,3,k3,999,-998]) 10 1 fun v1=>ZA 0 [(10,Z5 [k1,k2,0,1,2,-1,3,k3,999,-998])] (ic [1] (WA rd bs (((p+1)+1)+1) [k1,k2,0,1,2,-1,3,k3,999,-998] (Zq:=ob)) ?_)
 rintro _ _ ⟨z1,rfl,rfl,YJ⟩
 exact Z0 1 (ie (Z9 (r1 [0] ⟨z1,rfl,rfl,(by simp at YJ;omega)⟩)))
theorem Hq (g:Xv) (gb:Nat) (rs:List Func) (t:Int) (hg:GP g:=by exact ob) (XF:g.funcs <+: rs:=by exact ob):Zi 265 [.agg (XH g gb),.i t] [Xa gb rs] (fun r h=>∃(xs:LI),r=Z5 xs/\h=[Xa gb rs]/\xs.length<=4/\∀i∈xs,QW g t i):=by
 have hgl:=hg.len
 have hdl:=hg.decls.len
 refine ZB 53 Tryz.func265 (ar (iA (XH g gb) fun b1=>Z0 1 (ie (ar (iL (Z7 []) 0 1 fun v1=>?_)))))
 refine Z0 1 (ie (aq (ar (Z0 1 (ie (ab 0 (ZX (fun fz gz m F h=>∃(k:Nat) (ys:LI) (u:Value),(k<=g.funcs.length)/\(ys.length<=k)/\(∀i∈ys,QW g t i)/\F=sF [1,2] fz [(5,ZO ys u),(6,.i k)]/\h=[Ze gz 1,Ze gz 2,.tail u 1]/\m=g.funcs.length-k) _ _ _ ⟨0,[],v1,ob,ob,(fun i hi=>by cases hi),rfl,rfl,rfl⟩ (wk [1,1,0] (fr (Y7 fl))) ?_)))))))
 rintro m F h ⟨k,ys,u,Y8,Zm,Zo,rfl,rfl,rfl⟩
 refine aq (ar (Z6 3 [0] (io (.i g.funcs.length) (.i g.funcs.length) (lr _) (Z0 1 (ie (ZH ((k:Int)<(g.funcs.length:Int)) (fun Za=>?_) (fun Za=>?_)))))))
 ·refine ak (aq (ab 1 (ar (Z6 3 [0] ?_))))
  obtain ⟨x1,Z2⟩:=Zp g.funcs k om
  have hso:=(hg.sigs _ (ZU Z2)).bd
  refine Zn (XB gb g.funcs.length 4 k 5 (k:Int)) (Z0 1 (V2 (Wn 1 gb 4 4 5 (k*5+0) (Zc (YS rs)) [Z5 x1.params] 27 (Z5 x1.params) (Vi XF Z2 0 rfl (Wf rfl))) (iw (Y2 x1.params) (Z0 1 (ie (aD 25 (Zj 22 25 [0,1,2] (db (b:=(decide ((x1.params.length:Int)>0))) 25 (fun Zb=>?_) (fun Zb=>?_)))))))))
  ·have ZT:(x1.params.length:Int)>0:=(dq).1 Zb
   refine ZD 17 22 [3,4,5,6,7] [0,0] (dx 8 (XB gb g.funcs.length 4 k 5 (k:Int)) (Zj 15 16 [9] (Vb 10 (Wn 1 gb 4 4 5 (k*5+0) (Zc (YS rs)) [Z5 x1.params] 27 (Z5 x1.params) (Vi XF Z2 0 rfl (Wf rfl))) (Zj 13 14 [11] (da 12 ((((x1.params.length-1):Nat):Int)) (((x1.params.length:Int))-(1)) ?_)))))
   obtain ⟨x2,Zt⟩:=Zp x1.params (x1.params.length-1) om
   refine dx 13 (Zh none (((x1.params.length-1):Nat):Int) 1 (ZQ Zt)) (ZD 7 11 [14,15,16,17] [0] (dx 18 (XB gb g.funcs.length 4 k 5 (k:Int)) (Zj 5 6 [19] (Vb 20 (Wn 1 gb 4 4 5 (k*5+1) (Zc (YS rs)) [.i x1.result] 3 (.i x1.result) (Vi XF Z2 1 rfl (Wf rfl))) (Zj 3 4 [22] (Z8 21 (Yf 21 [] [] [] (LK g.decls x2 x1.result) (Zj 0 2 [23,24] (de (ac ((Qs g.decls x2 x1.result)==t) Zz (fun Zg=>?_) (fun Zg=>?_)))))))))))
   ·exact az (Z0 2 (iL (Z7 [(k:Int)]) 1 1 fun v2=>ZA 0 [(50,Z5 [(k:Int)])] (ip 3 (Z7 (ys++[(k:Int)])) (Z7 ys) (Z7 [(k:Int)]) u none 1 (Yl _) (Yl _) (XD _) (by simp<;>omega) (by simp [XA,Z7]) fun v3=>Z0 1 (ie (az (Z0 1 (ZE k (Z0 1 (ie (ZG ⟨k+1,(ys++[(k:Int)]),v3,ob,ob,(YZ Zo (QW.mk Z2 om Zt Zg)),rfl,rfl,rfl⟩ (wk [2,2,0] (fr (ZI k fl)))))))))))))
   exact ak (az (Z0 1 (ZE k (Z0 1 (ie (ZG ⟨k+1,ys,u,ob,ob,ob,rfl,rfl,rfl⟩ (ZP 3 (fr (ZI k fl)))))))))
  have Y6:¬((x1.params.length:Int)>0):=YH dq Zb
  exact Zj 0 22 [3,4,5,6,7,8,9,10,11,12,13,14,15,16,17,18,19,20,21,22,23,24] (de (Wi (ak (az (Z0 1 (ZE k (Z0 1 (ie (ZG ⟨k+1,ys,u,ob,ob,ob,rfl,rfl,rfl⟩ (ZP 3 (fr (ZI k fl))))))))))))
 exact ax 0 (ar (Z0 2 (ie (Z9 (r2 [1] [ZO ys u] ⟨ys,rfl,rfl,⟨by omega,Zo⟩⟩ (Zf.forget _ _))))))
theorem Ra (vs:LI) (t:Int) (hv:vs.length<=2000:=by exact ob):Zi 252 [Z5 vs,.i t] [] (fun r h=>∃(xs:LI),r=Z5 xs/\h=[]/\xs.length<=vs.length/\∀i∈xs,0<=i/\i<vs.length):=by
 refine ZB 25 Tryz.func252 (ar (Z0 1 (ie (ar (iL (Z7 []) 0 1 fun v1=>?_)))))
 refine Z0 1 (ie (aq (ar (Z0 1 (ie (ab 0 (ZX (fun fz gz m F h=>∃(k:Nat) (ys:LI) (u:Value),(k<=vs.length)/\(ys.length<=k)/\(∀i∈ys,0<=i/\i<vs.length)/\F=sF [0,1] fz [(5,ZO ys u),(6,.i k)]/\h=[.tail u 1]/\m=vs.length-k) _ _ _ ⟨0,[],v1,ob,ob,(fun i hi=>by cases hi),rfl,rfl,rfl⟩ (wk [0] (fr (Y7 fl))) ?_)))))))
 rintro m F h ⟨k,ys,u,Y8,Zm,Zo,rfl,rfl,rfl⟩
 refine aq (ar (Z0 2 (iw (Y2 vs) (Z0 1 (ie (ZH ((k:Int)<(vs.length:Int)) (fun Za=>?_) (fun Za=>?_)))))))
 ·refine ak (aq (ab 1 (ar (Z0 2 ?_))))
  obtain ⟨x1,Z2⟩:=Zp vs k om
  refine Zn (Zh none (k:Int) 1 (ZQ Z2)) (Z0 3 (ie (ac (x1==t) Zz (fun Zg=>?_) (fun Zg=>?_))))
  ·exact az (Z0 2 (iL (Z7 [(k:Int)]) 1 1 fun v2=>ZA 0 [(22,Z5 [(k:Int)])] (ip 1 (Z7 (ys++[(k:Int)])) (Z7 ys) (Z7 [(k:Int)]) u none 1 (Yl _) (Yl _) (XD _) (by simp<;>omega) (by simp [XA,Z7]) fun v3=>Z0 1 (ie (az (Z0 1 (ZE k (Z0 1 (ie (ZG ⟨k+1,(ys++[(k:Int)]),v3,ob,ob,(YZ Zo om),rfl,rfl,rfl⟩ (wk [0] (fr (ZI k fl)))))))))))))
  exact ak (az (Z0 1 (ZE k (Z0 1 (ie (ZG ⟨k+1,ys,u,ob,ob,ob,rfl,rfl,rfl⟩ (wk [0] (fr (ZI k fl)))))))))
 exact ax 0 (ar (Z0 2 (ie (Z9 (r2 [] [ZO ys u] ⟨ys,rfl,rfl,⟨by omega,Zo⟩⟩ (Zf.forget _ _))))))
theorem Cw (g:Xv) (gb:Nat) (rs:List Func) (vs:LI) (t:Int) (hg:GP g:=by exact ob) (XF:g.funcs <+: rs:=by exact ob) (hv:vs.length<=2000:=by exact ob):Zi 253 [.agg (XH g gb),Z5 vs,.i t] [Xa gb rs] (fun r h=>∃(w:Bool),r=.b w/\h=[Xa gb rs]):=by
 have Xl:=hg.decls.ok
 refine ZB 24 Tryz.func253 (ar (iA (XH g gb) fun b1=>Z0 1 (ie (ar (Z6 3 [0] (Zr [] (BM g.decls t) (Z0 2 (ib (b:=(!WE g.decls t)) 12 (fun Zb=>?_) (fun Zb=>?_)))))))))
 ·exact Z0 12 (ie (Z9 (r1 [1] ⟨true,rfl,rfl⟩)))
 refine Z6 2 [0] (ic [1] (Hq g gb rs t) ?_)
 rintro _ _ ⟨xs1,rfl,rfl,YA⟩
 have qhp3:=YA.1
 refine iw (Y2 xs1) (Z0 3 (ib (b:=(decide ((xs1.length:Int)>0))) 19 (fun ZM=>?_) (fun ZM=>?_)))
 ·exact Z0 5 (ie (Z9 (r1 [0] ⟨true,rfl,rfl⟩)))
 exact Z0 2 (Zr [] (Vm vs t) (Z0 2 (ie (Z9 (r1 [0] ⟨(decide (t∈vs)),rfl,rfl⟩)))))
theorem R0 (rd:Nat) (bs:LI) (p:Nat) (g:Xv) (gb:Nat) (rs:List Func) (t:Int) (Zq:∀z∈bs,0<=z/\z<=255) (hp:p+5+15*rk t<=1000000000) (hg:GP g) (XF:g.funcs <+: rs) (ih:∀(rd:Nat) (bs:LI) (p:Nat) (t2:Int),(∀z∈bs,0<=z/\z<=255)->(p+5+15*rk t2<=1000000000)->(rk t2<rk t)->Zi 254 [.p rd 0,.agg (XH g gb),.i t2] [Y4 rd bs p,Xa gb rs] (fun r h=>∃(e:Z1) (p2:Nat),r=ZL e/\h=[Y4 rd bs p2,Xa gb rs]/\SE g (1+3*rk t2) e/\p<=p2/\p2<=p+5+15*rk t2)):Zi 254 [.p rd 0,.agg (XH g gb),.i t] [Y4 rd bs p,Xa gb rs] (fun r h=>∃(e:Z1) (p2:Nat),r=ZL e/\h=[Y4 rd bs p2,Xa gb rs]/\SE g (1+3*rk t) e/\p<=p2/\p2<=p+5+15*rk t):=by
 have Xl:=hg.decls.ok
 have hgl:=hg.len
 have hrk:=Fj t
 refine ZB 118 Tryz.func254 (ar (iA (XH g gb) fun b1=>iA [.i 0,.i 0,nl] fun b2=>ie (ar (Z6 3 [1] (ic [] (QO g.decls t) ?_)))))
 rintro _ _ ⟨v1,rfl,rfl⟩
 refine Z0 1 (ie (aq (ar (Z0 1 (io (.i (((ZW g.decls t).length:Nat):Int)) (.i (((Z7 (ZW g.decls t)).length:Nat):Int)) (li (by rw [Y2])) (Z0 1 (ie (ZH ((((ZW g.decls t).length:Nat):Int)>0) (fun Za=>?_) (fun Za=>?_)))))))))
 ·refine ar (Z0 1 ?_)
  obtain ⟨x1,Z2⟩:=Zp (ZW g.decls t) 0 om
  refine Zn (Zh (some v1) 0 1 (ZQ Z2)) (Z0 2 (ie (aq (aq (Xo (fun fz gz F h=>∃(w1:Bool) (p5:Nat),(w1=true->1<(ZW g.decls t).length)/\(p<=p5/\p5<=p+1)/\F=sF [0,2,4,6,8] fz [(7,Z5 (ZW g.decls t)),(34,.b w1)]/\h=[Ze gz 1,Ze gz 2,Y4 rd bs p5,Ze gz 4]) ?_ ?_)))))
  ·refine az (Z0 1 (io (.i (((ZW g.decls t).length:Nat):Int)) (.i (((Z7 (ZW g.decls t)).length:Nat):Int)) (li (by rw [Y2])) (Z0 2 (ib (b:=(decide ((((ZW g.decls t).length:Nat):Int)>1))) 30 (fun Zb=>?_) (fun Zb=>?_)))))
   ·have ZT:(((ZW g.decls t).length:Nat):Int)>1:=(dq).1 Zb
    refine Z0 1 (ic [3] (Xs rd bs p 4 (Zq:=ob)) ?_)
    rintro _ _ ⟨k1,rfl,rfl,Y6⟩
    have qhp2:=Y6.lt om
    exact Z0 2 (ie (ZF ⟨(k1==0),p+1,(by first|exact (fun h=>by cases h)|exact fun _=>by omega),ob,rfl,rfl⟩ (wk [2,2,0,1] fl)))
   have YA:¬((((ZW g.decls t).length:Nat):Int)>1):=YH dq Zb
   exact Z0 4 (ie (ZF ⟨false,p,(by first|exact (fun h=>by cases h)|exact fun _=>by omega),ob,rfl,rfl⟩ (wk [1,1,1,1] fl)))
  rintro F h ⟨w1,p5,kR4_0,kR4_1,rfl,rfl⟩
  refine Xo (fun fz gz F h=>∃(c1:Int),(c1∈ZW g.decls t)/\F=sF [0,2,4,6,7] fz [(8,.i c1)]/\h=gz) ?_ ?_
  ·refine ac w1 Iff.rfl (fun Zg=>?_) (fun Zg=>?_)
   ·refine az (Z0 1 ?_)
    obtain ⟨x2,Zt⟩:=Zp (ZW g.decls t) 1 (kR4_0 (by assumption))
    exact Zn (Zh none 1 1 (ZQ Zt)) (Z0 2 (ie (ZF ⟨x2,(ZU Zt),rfl,rfl⟩ (ZP 4 fl))))
   exact ak (ZF ⟨x1,(ZU Z2),rfl,rfl⟩ (ZP 4 fl))
  rintro F h ⟨c1,WP,rfl,rfl⟩
  have hcf:=Vr Xl c1
  refine aq (ar (Z6 3 [1] (Zr [] (TA g.decls c1) (Z0 1 (Zr [] (Vm (ZY g.decls c1) t) (ie (Xo (fun fz gz F h=>∃(c2:Int),(KJ g.decls t c2)/\F=sF [0,4,6] fz [(8,.i c2)]/\h=gz) ?_ ?_)))))))
  ·refine ZH (t∈(ZY g.decls c1)) (fun ZK=>?_) (fun ZK=>?_)
   ·exact az (Z0 1 (Zn (Zh none 0 1 (ZQ Z2)) (Z0 2 (ie (ZF ⟨x1,(Z1g hg.decls WP (by assumption) Z2),rfl,rfl⟩ (ZP 4 fl))))))
   exact ak (ZF ⟨c1,(Z1f hg.decls WP (by assumption)),rfl,rfl⟩ (ZP 4 fl))
  rintro F h ⟨c2,Bq,rfl,rfl⟩
  obtain ⟨HJ,U6,Kl⟩:=Bq
  refine ar (iL (Y3 []) 0 3 fun v2=>?_)
  refine Z0 1 (ie (ar (Z6 3 [2] (Zr [] (TA g.decls c2) (Z0 1 (ie (aq (ar (Z0 1 (ie (ab 0 (ZX (fun fz gz m F h=>∃(k:Nat) (ys:List Z1) (u:Value) (pq:Nat),(k<=(ZY g.decls c2).length)/\(ys.length=k)/\(∀e∈ys,SE g 1 e)/\(p<=pq/\pq<=p+1+5*k)/\F=sF [0,4,6,8,10] fz [(9,UR ys u),(11,.i k)]/\h=[Ze gz 1,Ze gz 2,Y4 rd bs pq,Ze gz 4,.tail u 3]/\m=(ZY g.decls c2).length-k) _ _ _ ⟨0,[],v2,p5,ob,ob,(fun e he=>by cases he),ob,rfl,rfl,rfl⟩ (wk [1,1,1,1,0] (fr (Y7 fl))) ?_))))))))))))
  rintro m F h ⟨k,ys,u,pq,Y8,Zm,Zo,Yq,rfl,rfl,rfl⟩
  refine aq (ar (Z0 2 (io (.i (((ZY g.decls c2).length:Nat):Int)) (.i (((Z7 (ZY g.decls c2)).length:Nat):Int)) (li (by rw [Y2])) (Z0 1 (ie (ZH ((k:Int)<(((ZY g.decls c2).length:Nat):Int)) (fun Yi=>?_) (fun Yi=>?_)))))))
  ·refine ak (aq (ab 1 (aE 11 (ZD 6 11 [0,1,2,3,4] [1] ?_))))
   obtain ⟨x3,YQ⟩:=Zp (ZY g.decls c2) k om
   have hz3:=L5 (Kl _ (ZU YQ))
   refine dx 5 (Zh none (k:Int) 1 (ZQ YQ)) (Zj 4 5 [6] (Z8 7 (dc 7 [2,2] [] [] (ih rd bs pq x3 ob ob om) ?_)))
   rintro _ _ ⟨e1,p21,rfl,rfl,YJ⟩
   have hse:=YJ.1
   rw [hz3] at hse
   exact Z8 8 (XP 8 [] [] [ZL e1] (Y3 [e1]) (X9 [e1]).symm 1 3 fun v3=>Y9 2 2 [] [(66,YY [e1])] (Z8 9 (dp 9 5 [] [] (Y3 (ys++[e1])) (Y3 ys) (Y3 [e1]) u none 3 (VF _) (VF _) (QC _) (by simp<;>omega) (by simp [QB,Y3]) fun v4=>Zj 0 1 [10] (de (az (Z0 1 (ZE k (Z0 1 (ie (ZG ⟨k+1,(ys++[e1]),v4,p21,ob,ob,(YZ Zo hse),ob,rfl,rfl,rfl⟩ (wk [4,4,2,2,0] (fr (ZI k fl)))))))))))))
  exact ax 0 (ar (ZA 2 [(69,YY ys)] (Zr [] (Xd 6 c2 ys) (Zy 0 b2 (Yt (Z1.mk 6 c2 ys)) (ie (Z9 (r3 [2,2] [ZL (Z1.mk 6 c2 ys)] [0] [(b2,b2)] ⟨(Z1.mk 6 c2 ys),pq,rfl,rfl,⟨SE.node (k:=3*rk t) (.inl rfl) om Zo om om om,by omega⟩⟩ (lr _))))))))
 refine ak (ar (Z6 2 [2] (ic [4] (Hq g gb rs t) ?_)))
 rintro _ _ ⟨xs1,rfl,rfl,YU⟩
 have hcl:=YU.2
 have hcn:=YU.1
 refine Z0 1 (ie (aq (ar (Xr [0,4,6,12] [(80,.b ((decide (t>0))&&(decide ((xs1.length:Int)>0))))] (fun gz=>gz) ?_ ?_))))
 ·refine Z0 3 (ib (b:=(decide (t>0))) 76 (fun ZM=>?_) (fun ZM=>?_))
  ·have XI:t>0:=(dq).1 ZM
   exact Z0 1 (iw (Y2 xs1) (Z0 2 (ie (ZP 5 (ZJ (decide ((xs1.length:Int)>0)) ZM fl)))))
  have Wd:¬(t>0):=YH dq ZM
  exact Z0 4 (ie (ZP 5 (ZJ false ZM fl)))
 refine ac ((decide (t>0))&&(decide ((xs1.length:Int)>0))) (p:=(t>0)/\((xs1.length:Int)>0)) (Xb dq dq) (fun Xt=>?_) (fun Xt=>?_)
 ·refine ar (Z0 3 (iw (Y2 xs1) (ic [4] (Xs rd bs p (xs1.length:Int) (Zq:=ob)) ?_)))
  rintro _ _ ⟨k2,rfl,rfl,WM⟩
  have qhp8:=WM.lt om
  obtain ⟨x4,T9⟩:=Zp xs1 k2.toNat om
  have hclo:=hcl _ (ZU T9)
  have hcb:=hclo.lt
  refine Zn (Zh none k2 1 (ZQ T9)) (Z0 2 (ie (ar (Z6 3 [4] ?_))))
  obtain ⟨x5,UC⟩:=Zp g.funcs x4.toNat om
  have hso:=(hg.sigs _ (ZU UC)).bd
  have hr1:=Z0l (t:=t) hg.decls om om
  have hfu:=UC
  refine Zn (XB gb g.funcs.length 4 x4.toNat 5 x4) (Z0 1 (V2 (Wn 1 gb 4 4 5 (x4.toNat * 5+0) (Zc (YS rs)) [Z5 x5.params] 27 (Z5 x5.params) (Vi XF UC 0 rfl (Wf rfl))) (Z0 1 (ie (ar (iL (Y3 []) 0 3 fun v5=>?_))))))
  refine Z0 1 (ie (aq (ar (Z0 1 (ie (ab 2 (ZX (fun fz gz m F h=>∃(k:Nat) (ys:List Z1) (u:Value) (pq:Nat),(k<=x5.params.length)/\(ys.length=k)/\(∀e∈ys,SE g 1 e)/\(p<=pq/\pq<=p+1+5*k)/\F=sF [0,4,6,13,14] fz [(15,UR ys u),(16,.i k)]/\h=[Y4 rd bs pq,Ze gz 2,Ze gz 4,Ze gz 5,.tail u 3]/\m=x5.params.length-k) _ _ _ ⟨0,[],v5,p+1,ob,ob,(fun e he=>by cases he),ob,rfl,rfl,rfl⟩ (wk [1,1,2,2,0] (fr (Y7 fl))) ?_)))))))
  rintro m F h ⟨k,ys,u,pq,U3,Ww,Xc,E0,rfl,rfl,rfl⟩
  refine aq (ar (Z0 1 (ZE k (Z0 1 (iw (Y2 x5.params) (Z0 1 (ie (ZH (((k+1:Nat):Int)<(x5.params.length:Int)) (fun Xu=>?_) (fun Xu=>?_)))))))))
  ·refine ak (aq (ab 3 (aE 11 (ZD 6 11 [0,1,2,3,4] [3] ?_))))
   obtain ⟨x6,QF⟩:=Zp x5.params k om
   have hz3:=hclo.low hg om hfu om QF
   refine dx 5 (Zh none (k:Int) 1 (ZQ QF)) (Zj 4 5 [6] (Z8 7 (dc 7 [0,0] [] [] (ih rd bs pq x6 ob ob om) ?_)))
   rintro _ _ ⟨e2,p22,rfl,rfl,V1⟩
   have hse:=V1.1
   rw [hz3] at hse
   exact Z8 8 (XP 8 [] [] [ZL e2] (Y3 [e2]) (X9 [e2]).symm 1 3 fun v6=>Y9 2 2 [] [(110,YY [e2])] (Z8 9 (dp 9 5 [] [] (Y3 (ys++[e2])) (Y3 ys) (Y3 [e2]) u none 3 (VF _) (VF _) (QC _) (by simp<;>omega) (by simp [QB,Y3]) fun v7=>Zj 0 1 [10] (de (az (Z0 1 (ZE k (Z0 1 (ie (ZG ⟨k+1,(ys++[e2]),v7,p22,ob,ob,(YZ Xc hse),ob,rfl,rfl,rfl⟩ (wk [2,2,2,2,0] (fr (ZI k fl)))))))))))))
  exact ax 2 (ar (ZA 2 [(113,YY ys)] (Zr [] (Xd 10 x4 ys) (Zy 2 b2 (Yt (Z1.mk 10 x4 ys)) (ie (Z9 (r3 [1,1] [ZL (Z1.mk 10 x4 ys)] [0] [(b2,b2)] ⟨(Z1.mk 10 x4 ys),pq,rfl,rfl,⟨SE.node (k:=3) (.inr rfl) om Xc om om om,by omega⟩⟩ (lr _))))))))
 refine ak (ar (Z0 1 (ic [4] (HC rd bs p (Zq:=ob)) ?_)))
 rintro _ _ ⟨z1,rfl,rfl,UA⟩
 exact Zr [] (Kg z1) (Zy 3 b2 (Yt (Z1.mk 0 z1 [])) (ie (Z9 (r3 [1,1] [ZL (Z1.mk 0 z1 [])] [0] [(b2,b2)] ⟨(Z1.mk 0 z1 []),p+4,rfl,rfl,⟨SE.int om om,by omega⟩⟩ (lr _)))))
theorem PZ (rd:Nat) (bs:LI) (p:Nat) (g:Xv) (gb:Nat) (rs:List Func) (t:Int) (Zq:∀z∈bs,0<=z/\z<=255) (hp:p+5+15*rk t<=1000000000:=by exact ob) (hg:GP g:=by exact ob) (XF:g.funcs <+: rs:=by exact ob):Zi 254 [.p rd 0,.agg (XH g gb),.i t] [Y4 rd bs p,Xa gb rs] (fun r h=>∃(e:Z1) (p2:Nat),r=ZL e/\h=[Y4 rd bs p2,Xa gb rs]/\SE g (1+3*rk t) e/\p<=p2/\p2<=p+5+15*rk t):=by
 have key:∀k:Nat,∀(rd:Nat) (bs:LI) (p:Nat) (t2:Int),(∀z∈bs,0<=z/\z<=255)->(p+5+15*rk t2<=1000000000)->(rk t2<k)->Zi 254 [.p rd 0,.agg (XH g gb),.i t2] [Y4 rd bs p,Xa gb rs] (fun r h=>∃(e:Z1) (p2:Nat),r=ZL e/\h=[Y4 rd bs p2,Xa gb rs]/\SE g (1+3*rk t2) e/\p<=p2/\p2<=p+5+15*rk t2):=by
  intro k
  induction k with
  | zero=>intro rd bs p t2 h1 h2 h3;omega
  | succ k ih=>intro rd bs p t2 h1 h2 h3;exact R0 rd bs p g gb rs t2 h1 h2 hg XF fun rd bs p t3 q1 q2 q3=>ih rd bs p t3 q1 q2 om
 exact key 2 rd bs p t Zq hp (by have:=Fj t;omega)
theorem Ar (rd:Nat) (bs:LI) (p:Nat) (g:Xv) (gb:Nat) (rs:List Func) (vs:LI) (t:Int) (Zq:∀z∈bs,0<=z/\z<=255) (hp:p+30<=1000000000:=by exact ob) (hg:GP g:=by exact ob) (XF:g.funcs <+: rs:=by exact ob) (hv:vs.length<=2000:=by exact ob):Zi 223 [.p rd 0,.agg (XH g gb),Z5 vs,.i t] [Y4 rd bs p,Xa gb rs] (fun r h=>∃(e:Z1) (p2:Nat),r=ZL e/\h=[Y4 rd bs p2,Xa gb rs]/\GE g vs.length 4 e/\p<=p2/\p2<=p+30):=by
 have hrk:=Fj t
 refine ZB 40 Tryz.func223 (ar (iA (XH g gb) fun b1=>iA [.i 0,.i 0,nl] fun b2=>ie (ar (Z0 2 (ic [] (Ra vs t) ?_)))))
 rintro _ _ ⟨xs1,rfl,rfl,ZT⟩
 have hxs:=ZT
 refine Z0 1 (ie (aq (aq (Xo (fun fz gz F h=>∃(wb:Bool) (p5:Nat),(wb=true->0<xs1.length)/\(p<=p5/\p5<=p+1)/\F=sF [0,3,5,8,9] fz [(27,.b wb)]/\h=[Ze gz 0,Ze gz 1,Y4 rd bs p5,Ze gz 3]) ?_ ?_))))
 ·refine az (Z0 1 (iw (Y2 xs1) (Z0 2 (ib (b:=(decide ((xs1.length:Int)>0))) 16 (fun Zb=>?_) (fun Zb=>?_)))))
  ·have Y6:(xs1.length:Int)>0:=(dq).1 Zb
   refine Z0 1 (ic [2] (Xs rd bs p 6 (Zq:=ob)) ?_)
   rintro _ _ ⟨k1,rfl,rfl,YA⟩
   have qhp3:=YA.lt om
   refine Z0 2 (ib (b:=(decide (k1>0))) 20 (fun ZM=>?_) (fun ZM=>?_))
   ·have YJ:k1>0:=(dq).1 ZM
    exact Z0 7 (ie (ZF ⟨true,p+1,(by first|exact (fun h=>Bool.noConfusion h)|exact fun _=>by omega),ob,rfl,rfl⟩ (wk [1,1,0,0] fl)))
   have YU:¬(k1>0):=YH dq ZM
   refine Z6 1 [2] (iL (Z7 []) 0 1 fun v1=>ZA 1 [(22,Z5 [])] (ic [4] (Cw g gb rs [] t) ?_))
   rintro _ _ ⟨w1,rfl,rfl⟩
   exact Z0 3 (ie (ZF ⟨(!w1),p+1,(by first|exact (fun h=>Bool.noConfusion h)|exact fun _=>by omega),ob,rfl,rfl⟩ (wk [3,3,2,0] fl)))
  have XI:¬((xs1.length:Int)>0):=YH dq Zb
  exact Z0 11 (ie (ZF ⟨false,p,(by first|exact (fun h=>Bool.noConfusion h)|exact fun _=>by omega),ob,rfl,rfl⟩ (ZP 4 fl)))
 rintro F h ⟨wb,p5,kR2_0,kR2_1,rfl,rfl⟩
 refine ac wb Iff.rfl (fun Za=>?_) (fun Za=>?_)
 ·have hk0:=kR2_0 Za
  refine ar (Z0 3 (iw (Y2 xs1) (ic [2] (Xs rd bs p5 (xs1.length:Int) (Zq:=ob)) ?_)))
  rintro _ _ ⟨k2,rfl,rfl,Wd⟩
  have qhp7:=Wd.lt om
  obtain ⟨x1,Z2⟩:=Zp xs1 k2.toNat om
  have hxv:=hxs.2 _ (ZU Z2)
  exact Zn (Zh none k2 1 (ZQ Z2)) (Z0 1 (Zr [] (Uy x1) (Zy 1 b2 (Yt (Z1.mk 12 x1 [])) (ie (Z9 (r3 [1,2] [ZL (Z1.mk 12 x1 [])] [0] [(b2,b2)] ⟨(Z1.mk 12 x1 []),p5+1,rfl,rfl,⟨GE.var hxv om om,by omega⟩⟩ (lr _)))))))
 refine ak (ar (Z6 3 [1] (ic [2,2] (PZ rd bs p5 g gb rs t (Zq:=ob)) ?_)))
 rintro _ _ ⟨e1,p21,rfl,rfl,WM⟩
 have hse:=WM.1
 exact Zy 2 b2 (Yt e1) (ie (Z9 (r3 [1,1] [ZL e1] [0] [(b2,b2)] ⟨e1,p21,rfl,rfl,⟨hse.ge om,by omega⟩⟩ (lr _))))
theorem P5 (rd:Nat) (bs:LI) (p:Nat) (g:Xv) (gb:Nat) (rs:List Func) (vs:LI) (Zq:∀z∈bs,0<=z/\z<=255) (hp:p+1<=1000000000:=by exact ob) (hg:GP g:=by exact ob) (XF:g.funcs <+: rs:=by exact ob) (hv:vs.length<=2000:=by exact ob):Zi 246 [.p rd 0,.agg (XH g gb),Z5 vs] [Y4 rd bs p,Xa gb rs] (fun r h=>∃(z:Int),r=.i z/\h=[.obj rd [WW bs,.i (p+1:Nat)],Xa gb rs]/\0<=z/\z<=4):=by
 have Xl:=hg.decls.ok
 have hgl:=hg.len
 have hdl:=hg.decls.len
 refine ZB 24 Tryz.func246 (ar (iA (XH g gb) fun b1=>Z0 1 (ie (ar (Z0 1 (iL (Z7 [1,1,3,0,2,4,3]) 7 1 fun v1=>ZA 0 [(9,Z5 [1,1,3,0,2,4,3])] (ic [2] (WA rd bs p [1,1,3,0,2,4,3] (Zq:=ob)) ?_)))))))
 rintro _ _ ⟨z1,rfl,rfl,ZT⟩
 have hz:=J9 (a:=0) (b:=4) ZT (by decide)
 refine Z0 1 (ie (aq (aq (Xo (fun fz gz F h=>∃(wb:Bool),(True)/\F=sF [7] fz [(22,.b wb)]/\h=[Ze gz 0,Ze gz 3]) ?_ ?_))))
 ·refine az (Z6 3 [2] (iw (T3 g.decls) (Z0 2 (ib (b:=(decide (z1>(g.decls.length:Int)))) 16 (fun Zb=>?_) (fun Zb=>?_)))))
  ·exact Z0 6 (ie (ZF ⟨true,True.intro,rfl,rfl⟩ (wk [0,2] fl)))
  refine Z6 3 [2] (ic [3] (Cw g gb rs vs z1) ?_)
  rintro _ _ ⟨w1,rfl,rfl⟩
  exact Z0 2 (ie (ZF ⟨(!w1),True.intro,rfl,rfl⟩ (wk [1,0] fl)))
 rintro F h ⟨wb,kR2_0,rfl,rfl⟩
 refine ac wb Iff.rfl (fun Za=>?_) (fun Za=>?_)
 ·exact ar (Z0 1 (ie (Z9 (r1 [0,0] ⟨1,rfl,rfl,om⟩))))
 exact ak (ar (Z0 2 (ie (Z9 (r1 [0,0] ⟨z1,rfl,rfl,om⟩)))))
theorem P9 (g:Xv) (gb:Nat) (rs:List Func) (t:Int) (hg:GP g:=by exact ob) (XF:g.funcs <+: rs:=by exact ob):Zi 249 [.agg (XH g gb),.i t] [Xa gb rs] (fun r h=>∃(xs:LI),r=Z5 xs/\h=[Xa gb rs]/\xs.length<=4/\∀i∈xs,1<=i/\i<g.funcs.length):=by
 have Xl:=hg.decls.ok
 have hgl:=hg.len
 have hdl:=hg.decls.len
 refine ZB 57 Tryz.func249 (ar (iA (XH g gb) fun b1=>Z0 1 (ie (ar (iL (Z7 []) 0 1 fun v1=>?_)))))
 refine Z0 1 (ie (aq (ar (Z0 1 (ie (ab 0 (ZX (fun fz gz m F h=>∃(k:Nat) (ys:LI) (u:Value),(1<=k/\k<=g.funcs.length)/\(ys.length<=k)/\(∀i∈ys,1<=i/\i<g.funcs.length)/\F=sF [1,2] fz [(5,ZO ys u),(6,.i k)]/\h=[Ze gz 1,Ze gz 2,.tail u 1]/\m=g.funcs.length-k) _ _ _ ⟨1,[],v1,ob,ob,(fun i hi=>by cases hi),rfl,rfl,rfl⟩ (wk [1,1,0] (fr (fc (x:=.i 1) li fl))) ?_)))))))
 rintro m F h ⟨k,ys,u,Y8,Zm,Zo,rfl,rfl,rfl⟩
 refine aq (ar (Z6 3 [0] (io (.i g.funcs.length) (.i g.funcs.length) (lr _) (Z0 1 (ie (ZH ((k:Int)<(g.funcs.length:Int)) (fun Za=>?_) (fun Za=>?_)))))))
 ·refine ak (aq (ab 1 (ar (Z6 3 [0] ?_))))
  obtain ⟨x1,Z2⟩:=Zp g.funcs k om
  have hso:=(hg.sigs _ (ZU Z2)).bd
  refine Zn (XB gb g.funcs.length 4 k 5 (k:Int)) (Z0 1 (V2 (Wn 1 gb 4 4 5 (k*5+1) (Zc (YS rs)) [.i x1.result] 3 (.i x1.result) (Vi XF Z2 1 rfl (Wf rfl))) (Z0 3 (ie (aq (ar (Z0 1 (ie (ab 2 (ZX (fun fz gz m F h=>∃(j:Nat) (wo:Bool),(True)/\F=sF [1,2,5,6] fz [(7,.b wo),(8,.i j)]/\h=gz/\m=x1.params.length-j) _ _ _ ⟨0,(x1.result==t),True.intro,rfl,rfl,rfl⟩ (ZP 3 (fr (Y7 fl))) ?_))))))))))
  rintro m F h ⟨j,wo,U3,rfl,rfl,rfl⟩
  refine aq (ar (Z6 4 [0] (Zn (XB gb g.funcs.length 4 k 5 (k:Int)) (Z0 1 (V2 (Wn 1 gb 4 4 5 (k*5+0) (Zc (YS rs)) [Z5 x1.params] 27 (Z5 x1.params) (Vi XF Z2 0 rfl (Wf rfl))) (iw (Y2 x1.params) (Z0 1 (ie (ZH ((j:Int)<(x1.params.length:Int)) (fun Zg=>?_) (fun Zg=>?_))))))))))
  ·refine ak (aq (ab 3 (aE 16 (Zj 14 16 [0,1] (db (b:=wo) 37 (fun Zb=>?_) (fun Zb=>?_))))))
   ·refine ZD 10 14 [2,4,5,6] [0,0] (dx 7 (XB gb g.funcs.length 4 k 5 (k:Int)) (Zj 8 9 [8] (Vb 9 (Wn 1 gb 4 4 5 (k*5+0) (Zc (YS rs)) [Z5 x1.params] 27 (Z5 x1.params) (Vi XF Z2 0 rfl (Wf rfl))) (Zj 6 7 [10] ?_))))
    obtain ⟨x2,Zt⟩:=Zp x1.params j om
    refine dx 11 (Zh none (j:Int) 1 (ZQ Zt)) (Zj 4 5 [12] (Z8 3 (dL 3 [1,0,0] [gb,b1,b1] (Z7 []) 0 1 fun v2=>Y9 3 3 [] [(39,Z5 [])] (Z8 13 (dc 13 [2] [] [] (Cw g gb rs [] x2) ?_)))))
    rintro _ _ ⟨w1,rfl,rfl⟩
    exact Zj 0 2 [14,15] (de (az (Z0 1 (ZE j (Z0 1 (ie (ZG ⟨j+1,w1,True.intro,rfl,rfl,rfl⟩ (wk [2,0,1] (fr (ZI j fl))))))))))
   exact Zj 0 14 [2,3,4,5,6,7,8,9,10,11,12,13,14,15] (de (az (Z0 1 (ZE j (Z0 1 (ie (ZG ⟨j+1,false,ob,rfl,rfl,rfl⟩ (ZP 3 (fr (ZI j fl))))))))))
  refine ax 2 (ar (Z0 1 (ie (ac wo Iff.rfl (fun ZK=>?_) (fun ZK=>?_)))))
  ·exact az (Z0 2 (iL (Z7 [(k:Int)]) 1 1 fun v3=>ZA 0 [(54,Z5 [(k:Int)])] (ip 3 (Z7 (ys++[(k:Int)])) (Z7 ys) (Z7 [(k:Int)]) u none 1 (Yl _) (Yl _) (XD _) (by simp<;>omega) (by simp [XA,Z7]) fun v4=>Z0 1 (ie (az (Z0 1 (ZE k (Z0 1 (ie (ZG ⟨k+1,(ys++[(k:Int)]),v4,ob,ob,(YZ Zo om),rfl,rfl,rfl⟩ (wk [2,2,0] (fr (ZI k fl)))))))))))))
  exact ak (az (Z0 1 (ZE k (Z0 1 (ie (ZG ⟨k+1,ys,u,ob,ob,ob,rfl,rfl,rfl⟩ (ZP 3 (fr (ZI k fl)))))))))
 exact ax 0 (ar (Z0 2 (ie (Z9 (r2 [1] [ZO ys u] ⟨ys,rfl,rfl,⟨by omega,Zo⟩⟩ (Zf.forget _ _))))))
theorem PP (e:Z1) (left:Int) (hz:e.sz<=1000000:=by exact ob) (hl:0<=left/\left<=1000:=by exact ob) (ih:∀(e2:Z1) (left:Int),(e2.sz<e.sz)->(0<=left/\left<=1000)->Zi 224 [ZL e2,.i left] [] (fun r h=>∃(w:Int),r=.i w/\h=[]/\NL e2.sz left w)):Zi 224 [ZL e,.i left] [] (fun r h=>∃(w:Int),r=.i w/\h=[]/\NL e.sz left w):=by
 have hes:=e.sz_eq
 have hel:=H2 (xs:=e.kids)
 refine ZB 27 Tryz.func224 (ar (iA (Yt e) fun b1=>Z0 1 (ie (aq (ar (Z0 2 (ie (ZH (left<1) (fun Za=>?_) (fun Za=>?_)))))))))
 ·exact ar (Z0 1 (ie (Z9 (r1 [] ⟨(-1),rfl,rfl,(.inr ⟨by omega,rfl⟩)⟩))))
 refine ak (ar (Z0 1 (ia ((left-1)) ((left)-(1)) (Z0 1 (ie (aq (ar (Z0 1 (ie (ab 0 (ZX (fun fz gz m F h=>∃(k:Nat) (q:Int),(k<=e.kids.length)/\(0<=q/\q+1+YX (e.kids.take k)=left)/\F=sF [2] fz [(1,.i q),(5,.i k)]/\h=gz/\m=e.kids.length-k) _ _ _ ⟨0,(left-1),ob,(by simp [YX];omega),rfl,rfl,rfl⟩ (wk [0] (fr (Y7 fl))) ?_)))))))))))
 rintro m F h ⟨k,q,Y8,Zm,rfl,rfl,rfl⟩
 refine aq (ar (Z6 3 [0] (iw (Ek e.kids) (Z0 1 (ie (ZH ((k:Int)<(e.kids.length:Int)) (fun Zg=>?_) (fun Zg=>?_)))))))
 ·refine ak (aq (ab 1 (ar (Z6 3 [0] ?_))))
  obtain ⟨x1,Z2⟩:=Zp e.kids k om
  have hks:=JD Z2
  have htk:YX (e.kids.take (k+1))=YX (e.kids.take k)+(x1).sz:=by rw [Ve Z2,B9,YX,YX];rfl
  have htl:YX (e.kids.take (k+1))<=YX e.kids:=by have h:=Yg YX (U1 (k+1) e.kids);rw [B9] at h;omega
  refine Zn (Zh none (k:Int) 3 (Aj Z2)) (Z0 2 (ic [] (ih x1 q ob ob) ?_))
  rintro _ _ ⟨w1,rfl,rfl,ZT⟩
  have hnl:=ZT
  unfold NL at hnl
  refine Z0 1 (ie (ar (Z0 2 (ie (ZH (w1<0) (fun ZK=>?_) (fun ZK=>?_))))))
  ·exact ar (Z0 1 (ie (Z9 (r1 [] ⟨(-1),rfl,rfl,(.inr ⟨by omega,rfl⟩)⟩))))
  exact ak (az (Z0 1 (ZE k (Z0 1 (ie (ZG ⟨k+1,w1,ob,ob,rfl,rfl,rfl⟩ (wk [0] (fr (ZI k fl)))))))))
 refine ax 0 (ar (Z0 2 (ie ?_)))
 have htk:YX (e.kids.take k)=YX e.kids:=by rw [Vo om]
 exact Z9 (r1 [] ⟨q,rfl,rfl,(.inl ⟨by omega,by omega⟩)⟩)
theorem PO (e:Z1) (left:Int) (hz:e.sz<=1000000:=by exact ob) (hl:0<=left/\left<=1000:=by exact ob):Zi 224 [ZL e,.i left] [] (fun r h=>∃(w:Int),r=.i w/\h=[]/\NL e.sz left w):=by
 have key:∀k:Nat,∀(e2:Z1) (left:Int),(e2.sz<k)->(e2.sz<=1000000)->(0<=left/\left<=1000)->Zi 224 [ZL e2,.i left] [] (fun r h=>∃(w:Int),r=.i w/\h=[]/\NL e2.sz left w):=by
  intro k
  induction k with
  | zero=>intro e2 left h;omega
  | succ k ih=>intro e2 left h1 h2 h3;exact PP e2 left h2 h3 fun e3 l3 q1 q2=>ih e3 l3 om om q2
 exact key (e.sz+1) e left om hz hl
theorem Hz (e:Z1) (hz:e.sz<=1000000:=by exact ob):Zi 196 [ZL e] [] (fun r h=>∃(w:Int),r=.i w/\h=[]/\((w=e.sz/\e.sz<=30)∨(w=-1/\30<e.sz))):=by
 refine ZB 10 Tryz.func196 (ar (iA (Yt e) fun b1=>Z0 1 (ie (ar (Z6 1 [0] (ic [] (PO e 30) ?_))))))
 rintro _ _ ⟨w1,rfl,rfl,ZT⟩
 have hnl:=ZT
 unfold NL at hnl
 refine Z0 1 (ie (aq (ar (Z0 2 (ie (ZH (w1<0) (fun Za=>?_) (fun Za=>?_)))))))
 ·exact ar (Z0 1 (ie (Z9 (r1 [] ⟨(-1),rfl,rfl,ob⟩))))
 exact ak (ar (Z0 1 (ia ((30-w1)) ((30)-(w1)) (Z0 1 (ie (Z9 (r1 [] ⟨(30-w1),rfl,rfl,ob⟩)))))))
theorem JG (rd:Nat) (bs:LI) (p:Nat) (g:Xv) (gb:Nat) (rs:List Func) (vs:LI) (ts:LI) (b:Nat) (bb:Nat) (Zq:∀z∈bs,0<=z/\z<=255) (hp:p+ts.length*bC (b / ts.length)<=1000000000:=by exact ob) (hg:GP g:=by exact ob) (XF:g.funcs <+: rs:=by exact ob) (hv:vs.length+3*bb<=900:=by exact ob) (ht:ts.length<=3:=by exact ob) (hb:b<bb/\bb<=1000:=by exact ob) (ih:∀(rd:Nat) (bs:LI) (p:Nat) (vs2:LI) (t2:Int) (b2:Nat),(∀z∈bs,0<=z/\z<=255)->(p+bC b2<=1000000000)->(vs2.length+3*b2<=900)->(b2<bb)->Zi 219 [.p rd 0,.agg (XH g gb),Z5 vs2,.i t2,.i b2] [Y4 rd bs p,Xa gb rs] (fun r h=>∃(e:Z1) (p2:Nat),r=ZL e/\h=[Y4 rd bs p2,Xa gb rs]/\GE g vs2.length (bS b2) e/\p<=p2/\p2<=p+bC b2)):Zi 247 [.p rd 0,.agg (XH g gb),Z5 vs,Z5 ts,.i b] [Y4 rd bs p,Xa gb rs] (fun r h=>∃(ys:List Z1) (p2:Nat),r=YY ys/\h=[Y4 rd bs p2,Xa gb rs]/\ys.length=ts.length/\(∀e∈ys,GE g vs.length (bS (b / ts.length)) e)/\p<=p2/\p2<=p+ts.length*bC (b / ts.length)):=by
 have hqb:=Nat.div_le_self b ts.length
 refine ZB 36 Tryz.func247 (ar (iA (XH g gb) fun b1=>Z0 1 (ie (ar (iL (Y3 []) 0 3 fun v1=>?_)))))
 refine Z0 1 (ie (aq (ar (Z0 1 (ie (ab 0 (ZX (fun fz gz m F h=>∃(k:Nat) (ys:List Z1) (u:Value) (pq:Nat),(k<=ts.length)/\(ys.length=k)/\(∀e∈ys,GE g vs.length (bS (b / ts.length)) e)/\(p<=pq/\pq<=p+k*bC (b / ts.length))/\F=sF [0,2,3,4,6] fz [(11,UR ys u),(12,.i k)]/\h=[Ze gz 1,Y4 rd bs pq,Ze gz 3,.tail u 3]/\m=ts.length-k) _ _ _ ⟨0,[],v1,p,ob,ob,(fun e he=>by cases he),(by simp),rfl,rfl,rfl⟩ (wk [1,1,1,0] (fr (Y7 fl))) ?_)))))))
 rintro m F h ⟨k,ys,u,pq,Y8,Zm,Zo,Yq,rfl,rfl,rfl⟩
 refine aq (ar (Z0 2 (iw (Y2 ts) (Z0 1 (ie (ZH ((k:Int)<(ts.length:Int)) (fun Za=>?_) (fun Za=>?_)))))))
 ·obtain ⟨hm1,hm2⟩:=Ip (k:=k) (L:=ts.length) (C:=bC (b / ts.length)) om
  refine ak (aq (ab 1 (aE 16 (ZD 10 16 [0,1,2,3,4,5] [0] ?_))))
  obtain ⟨x1,Z2⟩:=Zp ts k om
  refine dx 6 (Zh none (k:Int) 1 (ZQ Z2)) (Zj 6 9 [7,8,9] (dw 10 (Y2 ts) (dx 11 (JM b ts.length om om) (Z8 12 (dc 12 [1,1] [] [] (ih rd bs pq vs x1 (b / ts.length) ob ob ob ob) ?_)))))
  rintro _ _ ⟨e1,p21,rfl,rfl,ZT⟩
  have YN:=ZT.1
  exact Z8 13 (XP 13 [] [] [ZL e1] (Y3 [e1]) (X9 [e1]).symm 1 3 fun v2=>Y9 2 2 [] [(33,YY [e1])] (Z8 14 (dp 14 4 [] [] (Y3 (ys++[e1])) (Y3 ys) (Y3 [e1]) u none 3 (VF _) (VF _) (QC _) (by simp<;>omega) (by simp [QB,Y3]) fun v3=>Zj 0 1 [15] (de (az (Z0 1 (ZE k (Z0 1 (ie (ZG ⟨k+1,(ys++[e1]),v3,p21,ob,ob,(YZ Zo (by assumption)),om,rfl,rfl,rfl⟩ (wk [4,2,2,0] (fr (ZI k fl)))))))))))))
 have hke:k=ts.length:=by omega
 subst hke
 exact ax 0 (ar (Z0 2 (ie (Z9 (r2 [1,1] [UR ys u] ⟨ys,pq,rfl,rfl,⟨by omega,Zo,by omega⟩⟩ (Zf.forget _ _))))))
theorem Ps (rd:Nat) (bs:LI) (p:Nat) (g:Xv) (gb:Nat) (rs:List Func) (vs:LI) (t:Int) (b:Nat) (Zq:∀z∈bs,0<=z/\z<=255) (hp:p+(bC b-1)<=1000000000:=by exact ob) (hg:GP g:=by exact ob) (XF:g.funcs <+: rs:=by exact ob) (hv:vs.length+3*b<=900:=by exact ob) (hb:3<=b:=by exact ob) (ih:∀(rd:Nat) (bs:LI) (p:Nat) (vs2:LI) (t2:Int) (b2:Nat),(∀z∈bs,0<=z/\z<=255)->(p+bC b2<=1000000000)->(vs2.length+3*b2<=900)->(b2<b)->Zi 219 [.p rd 0,.agg (XH g gb),Z5 vs2,.i t2,.i b2] [Y4 rd bs p,Xa gb rs] (fun r h=>∃(e:Z1) (p2:Nat),r=ZL e/\h=[Y4 rd bs p2,Xa gb rs]/\GE g vs2.length (bS b2) e/\p<=p2/\p2<=p+bC b2)):Zi 248 [.p rd 0,.agg (XH g gb),Z5 vs,.i t,.i b] [Y4 rd bs p,Xa gb rs] (fun r h=>∃(e:Z1) (p2:Nat),r=ZL e/\h=[Y4 rd bs p2,Xa gb rs]/\GE g vs.length (bS b) e/\p<=p2/\p2<=p+(bC b-1)):=by
 have Xl:=hg.decls.ok
 have hgl:=hg.len
 have hdl:=hg.decls.len
 have hcm:=Gp b
 refine ZB 69 Tryz.func248 (ar (iA (XH g gb) fun b1=>iA [.i 0,.i 0,nl] fun b2=>ie (ar (Z0 1 (iL (Z7 [1,1,3,4]) 4 1 fun v1=>ZA 0 [(16,Z5 [1,1,3,4])] (ic [3] (WA rd bs p [1,1,3,4] (Zq:=ob)) ?_))))))
 rintro _ _ ⟨z1,rfl,rfl,ZT⟩
 have hz:=J9 (a:=1) (b:=4) ZT (by decide)
 refine Z0 1 (ie (aq (ar (Z6 3 [3] (iw (T3 g.decls) (Xr [0,2,3,4,6,10,11] [(28,.b ((decide (z1>(g.decls.length:Int)))||WE g.decls z1))] (fun gz=>gz) ?_ ?_))))))
 ·refine Z0 2 (ib (b:=(decide (z1>(g.decls.length:Int)))) 23 (fun Zb=>?_) (fun Zb=>?_))
  ·exact Z0 5 (ie (ZP 5 (ZJ true Zb fl)))
  exact Z6 3 [3] (Zr [] (BM g.decls z1) (Z0 1 (ie (ZP 5 (ZJ (WE g.decls z1) Zb fl)))))
 refine Xo (fun fz gz F h=>∃(d:Int),(1<=d/\d<=4)/\F=sF [0,2,3,4,6,10] fz [(11,.i d)]/\h=[Ze gz 0,Ze gz 2,Ze gz 3,Ze gz 4]) ?_ ?_
 ·refine ac ((decide (z1>(g.decls.length:Int)))||WE g.decls z1) (p:=(z1>(g.decls.length:Int))∨(WE g.decls z1=true)) (X3 dq Iff.rfl) (fun Za=>?_) (fun Za=>?_)
  ·exact az (Z0 1 (ie (ZF ⟨1,om,rfl,rfl⟩ (wk [0,1,1,1] fl))))
  exact ak (ZF ⟨z1,om,rfl,rfl⟩ (wk [0,1,1,1] fl))
 rintro F h ⟨d,TW,rfl,rfl⟩
 have hcl:=Iv Xl d
 have hmc:=Sw (L:=(ZW g.decls d).length) (q:=((b-2) / (ZW g.decls d).length)) (b:=b) om hb (Uu _ _)
 have hqb:=Nat.div_le_self (b-2) (ZW g.decls d).length
 refine ar (Z6 3 [2] (ic [] (QO g.decls d) ?_))
 rintro _ _ ⟨v2,rfl,rfl⟩
 refine Z0 1 (ie (ar (Z6 4 [3] (ic [1,3] (Ar rd bs (p+1) g gb rs vs d (Zq:=ob)) ?_))))
 rintro _ _ ⟨e1,p21,rfl,rfl,YJ⟩
 have hle:=YJ.1
 refine Vj [ZL e1] (Y3 [e1]) (X9 [e1]).symm 1 3 fun v3=>?_
 refine Z0 1 (ie (aq (ar (Z0 1 (ie (ab 0 (ZX (fun fz gz m F h=>∃(k:Nat) (ys:List Z1) (u:Value) (pq:Nat),(k<=(ZW g.decls d).length)/\(ys.length=k)/\(T4 g.decls g.funcs.length (Un g.decls 8 d vs.length) 1 ys)/\(∀e∈ys,e.sz<=bS ((b-2) / (ZW g.decls d).length))/\(p<=pq/\pq<=p+31+k*bC ((b-2) / (ZW g.decls d).length))/\F=sF [0,2,3,4,6,10,11] fz [(12,Z5 (ZW g.decls d)),(13,UR (e1::ys) u),(14,.i k)]/\h=[Y4 rd bs pq,Ze gz 2,Ze gz 4,Ze gz 5,.tail u 3]/\m=(ZW g.decls d).length-k) _ _ _ ⟨0,[],v3,p21,ob,rfl,True.intro,(fun e he=>by cases he),(by simp only [Nat.zero_mul];omega),rfl,rfl,rfl⟩ (wk [1,1,2,2,0] (fc (x:=ZO (ZW g.decls d) v2) (Zf.forget _ _) (fc (x:=UR [e1] v3) (Zf.slh _ (Yg Y3 rfl)) (Y7 fl)))) ?_)))))))
 rintro m F h ⟨k,ys,u,pq,Y8,Zm,Zo,Yq,XK,rfl,rfl,rfl⟩
 refine aq (ar (Z0 2 (io (.i (((ZW g.decls d).length:Nat):Int)) (.i (((Z7 (ZW g.decls d)).length:Nat):Int)) (li (by rw [Y2])) (Z0 1 (ie (ZH ((k:Int)<(((ZW g.decls d).length:Nat):Int)) (fun Zg=>?_) (fun Zg=>?_)))))))
 ·refine ak (aq (ab 1 (aE 22 (ZD 14 22 [0,1,2,3,4,5,6,7] [3,3] ?_))))
  obtain ⟨x1,Z2⟩:=Zp (ZW g.decls d) k om
  have hcf:=Vr Xl x1
  have harm:=AI (m:=vs.length) Z2
  obtain ⟨hm1,hm2⟩:=Ip (k:=k) (L:=(ZW g.decls d).length) (C:=bC ((b-2) / (ZW g.decls d).length)) om
  refine dx 8 (Zh none (k:Int) 1 (ZQ Z2)) (Zj 10 13 [9,12,13] (da 14 (((b-2:Nat):Int)) (((b:Int))-(2)) (Zj 8 9 [15] (dn 16 (.i (((ZW g.decls d).length:Nat):Int)) (.i (((Z7 (ZW g.decls d)).length:Nat):Int)) (li (by rw [Y2])) (dx 17 (JM (b-2) ((ZW g.decls d).length) om om) (Z8 10 (Yf 10 [] [3] [b1] (TA g.decls x1) (Z8 11 (dc 11 [] [3] [b1] (Ti vs (ZY g.decls x1)) ?_)))))))))
  rintro _ _ ⟨v4,rfl,rfl⟩
  refine Y9 4 4 [] [(56,Z5 (vs++(ZY g.decls x1)))] (Z8 18 (dc 18 [1,1] [] [] (ih rd bs pq (vs++(ZY g.decls x1)) t ((b-2) / ((ZW g.decls d).length)) ob ob (by simp only [Yb];omega) ob) ?_))
  rintro _ _ ⟨e2,p22,rfl,rfl,YU⟩
  have YN:=YU.1
  exact Z8 19 (XP 19 [] [] [ZL e2] (Y3 [e2]) (X9 [e2]).symm 1 3 fun v5=>Y9 2 2 [] [(64,YY [e2])] (Z8 20 (dp 20 6 [] [] (Y3 ((e1::ys)++[e2])) (Y3 (e1::ys)) (Y3 [e2]) u none 3 (VF _) (VF _) (QC _) (by simp<;>omega) (by simp [QB,Y3]) fun v6=>Zj 0 1 [21] (de (az (Z0 1 (ZE k (Z0 1 (ie (ZG ⟨k+1,(ys++[e2]),v6,p22,ob,ob,(GY.2 ⟨Zo,by rw [Zm,harm,<-Yb];exact YN.1,True.intro⟩),(YZ Yq YN.2),om,rfl,rfl,rfl⟩ (wk [2,2,3,3,0] (fr (fc (x:=UR ((e1::ys)++[e2]) v6) (Zf.slh _ (Yg Y3 rfl)) (ZI k fl))))))))))))))
 refine ax 0 (ar (ZA 2 [(67,YY (e1::ys))] (Zr [] (Xd 8 d (e1::ys)) (Zy 2 b2 (Yt (Z1.mk 8 d (e1::ys))) (ie ?_)))))
 have hke:k=(ZW g.decls d).length:=by omega
 subst hke
 exact Z9 (r3 [1,1] [ZL (Z1.mk 8 d (e1::ys))] [0] [(b2,b2)] ⟨(Z1.mk 8 d (e1::ys)),pq,rfl,rfl,⟨GE.match_ om hle Zo Yq Zm rfl om (Sx om hb (Uu _ _)),by omega⟩⟩ (lr _))
theorem Ht (rd:Nat) (bs:LI) (p:Nat) (g:Xv) (gb:Nat) (rs:List Func) (vs:LI) (t:Int) (b:Nat) (Zq:∀z∈bs,0<=z/\z<=255) (hp:p+(bC b-1)<=1000000000:=by exact ob) (hg:GP g:=by exact ob) (XF:g.funcs <+: rs:=by exact ob) (hv:vs.length+3*b<=900:=by exact ob) (hb:3<=b:=by exact ob) (ih:∀(rd:Nat) (bs:LI) (p:Nat) (vs2:LI) (t2:Int) (b2:Nat),(∀z∈bs,0<=z/\z<=255)->(p+bC b2<=1000000000)->(vs2.length+3*b2<=900)->(b2<b)->Zi 219 [.p rd 0,.agg (XH g gb),Z5 vs2,.i t2,.i b2] [Y4 rd bs p,Xa gb rs] (fun r h=>∃(e:Z1) (p2:Nat),r=ZL e/\h=[Y4 rd bs p2,Xa gb rs]/\GE g vs2.length (bS b2) e/\p<=p2/\p2<=p+bC b2)):Zi 250 [.p rd 0,.agg (XH g gb),Z5 vs,.i t,.i b] [Y4 rd bs p,Xa gb rs] (fun r h=>∃(e:Z1) (p2:Nat),r=ZL e/\h=[Y4 rd bs p2,Xa gb rs]/\GE g vs.length (bS b) e/\p<=p2/\p2<=p+(bC b-1)):=by
 have Xl:=hg.decls.ok
 have hgl:=hg.len
 have hdl:=hg.decls.len
 have hac:=N0 hb
 have has:=N1 hb
 refine ZB 120 Tryz.func250 (ar (iA (XH g gb) fun b1=>iA [.i 0,.i 0,nl] fun b2=>ie (aq (ar (Z0 1 (ic [2] (Xs rd bs p 4 (Zq:=ob)) ?_))))))
 rintro _ _ ⟨k1,rfl,rfl,ZT⟩
 have qhp1:=ZT.lt om
 refine Z0 1 (ie (Xo (fun fz gz F h=>∃(p5:Nat),(p<=p5/\p5<=p+1)/\F=sF [0,2,3,4,6,10] fz []/\h=[Y4 rd bs p5,Ze gz 1,Ze gz 2,Ze gz 3]) ?_ ?_))
 ·refine ac (k1==0) Zz (fun Za=>?_) (fun Za=>?_)
  ·refine ar (Z0 1 (ie (ab 0 (ZX (fun fz gz m F h=>∃(a:Nat),(1<=a/\a<=g.decls.length+1)/\F=sF [0,2,3,4,6,10] fz [(11,.i a)]/\h=gz/\m=g.decls.length+1-a) _ _ _ ⟨1,ob,rfl,rfl,rfl⟩ (ZP 4 (fc (x:=.i 1) li fl)) ?_))))
   rintro m F h ⟨a,Y8,rfl,rfl,rfl⟩
   refine aq (ar (Z6 3 [2] (iw (T3 g.decls) (Z0 1 (ie (ZH ((a:Int)<=(g.decls.length:Int)) (fun Zg=>?_) (fun Zg=>?_)))))))
   ·refine ak (aq (ab 1 (aq (Xo (fun fz gz F h=>∃(wb:Bool),(True)/\F=sF [0,2,3,4,6,10,11] fz [(44,.b wb)]/\h=gz) ?_ ?_))))
    ·refine az (Z6 3 [2] (Zr [] (BM g.decls (a:Int)) (Z0 1 (ib (b:=WE g.decls (a:Int)) 28 (fun Zb=>?_) (fun Zb=>?_)))))
     ·refine Z6 3 [2] (ia (((a-1:Nat):Int)) (((a:Int))-(1)) ?_)
      obtain ⟨x1,Z2⟩:=Zp g.decls (a-1) om
      refine Zn (Zh none ((a-1:Nat):Int) 3 (VE Z2)) (Z0 6 (ib (b:=(x1.to_==t)) 39 (fun ZM=>?_) (fun ZM=>?_)))
      ·refine Z6 3 [2] (ic [3] (Cw g gb rs vs (a:Int)) ?_)
       rintro _ _ ⟨w1,rfl,rfl⟩
       exact Z0 1 (ie (ZF ⟨w1,True.intro,rfl,rfl⟩ (wk [1,1,1,0] fl)))
      exact Z0 5 (ie (ZF ⟨false,True.intro,rfl,rfl⟩ (ZP 4 fl)))
     exact Z0 16 (ie (ZF ⟨false,True.intro,rfl,rfl⟩ (ZP 4 fl)))
    rintro F h ⟨wb,kR5_0,rfl,rfl⟩
    refine ac wb Iff.rfl (fun ZK=>?_) (fun ZK=>?_)
    ·refine aD 21 (ZD 11 21 [0,1,2,3,5,6,7,8,9,10] [2,2,2] (da 11 (((a-1:Nat):Int)) (((a:Int))-(1)) ?_))
     obtain ⟨x2,Zt⟩:=Zp g.decls (a-1) om
     refine dx 12 (Zh none ((a-1:Nat):Int) 3 (VE Zt)) (Zj 6 9 [13,14,15] (da 16 (((b-2:Nat):Int)) (((b:Int))-(2)) (Z8 4 (dc 4 [0,2] [1,1] [b1,b1] (Ar rd bs (p+1) g gb rs vs (a:Int) (Zq:=ob)) ?_))))
     rintro _ _ ⟨e1,p21,rfl,rfl,XI⟩
     have hle:=XI.1
     refine Z8 17 (dc 17 [0,0] [] [] (ih rd bs p21 vs x2.frm (b-2) ob ob ob ob) ?_)
     rintro _ _ ⟨e2,p22,rfl,rfl,Wd⟩
     have YN:=Wd.1
     exact Z8 18 (XP 18 [] [] [ZL e1,ZL e2] (Y3 [e1,e2]) (X9 [e1,e2]).symm 2 3 fun v1=>Y9 2 2 [] [(63,YY [e1,e2])] (Z8 19 (Yf 19 [] [] [] (Xd 11 0 [e1,e2]) (Z8 20 (Yo 20 3 [] [] b2 (Yt (Z1.mk 11 0 [e1,e2])) (de (Z9 (r3 [2,2] [ZL (Z1.mk 11 0 [e1,e2])] [0] [(b2,b2)] ⟨(Z1.mk 11 0 [e1,e2]),p22,rfl,rfl,⟨GE.two om om hle YN om,by omega⟩⟩ (lr _)))))))))
    exact ak (az (Z0 1 (ZE a (Z0 1 (ie (ZG ⟨a+1,ob,rfl,rfl,rfl⟩ (ZP 4 (ZI a fl))))))))
   exact ax 0 (ZF ⟨p+1,ob,rfl,rfl⟩ (ZP 4 fl))
  exact ak (ZF ⟨p+1,ob,rfl,rfl⟩ (ZP 4 fl))
 rintro F h ⟨p5,TW,rfl,rfl⟩
 refine ar (Z6 3 [2] (ic [] (QO g.decls t) ?_))
 rintro _ _ ⟨v2,rfl,rfl⟩
 refine Z0 1 (ie (aq (ar (Z0 1 (io (.i (((ZW g.decls t).length:Nat):Int)) (.i (((Z7 (ZW g.decls t)).length:Nat):Int)) (li (by rw [Y2])) (Z0 1 (ie (ZH ((((ZW g.decls t).length:Nat):Int)>0) (fun Yi=>?_) (fun Yi=>?_)))))))))
 ·refine ar (Z0 3 (io (.i (((ZW g.decls t).length:Nat):Int)) (.i (((Z7 (ZW g.decls t)).length:Nat):Int)) (li (by rw [Y2])) (ic [1] (Xs rd bs p5 (((ZW g.decls t).length:Nat):Int) (Zq:=ob)) ?_)))
  rintro _ _ ⟨k2,rfl,rfl,WM⟩
  have qhp8:=WM.lt om
  obtain ⟨x3,YQ⟩:=Zp (ZW g.decls t) k2.toNat om
  have hcc:=hg.decls.cons_cases (ZU YQ)
  refine Zn (Zh (some v2) k2 1 (ZQ YQ)) (Z0 2 (ie (aD 13 (ZD 5 13 [0,1,2,3,4,5,6,8] [3,3] (da 9 (((b-1:Nat):Int)) (((b:Int))-(1)) (Z8 7 (Yf 7 [] [2] [b1] (TA g.decls x3) (Z8 10 (dc 10 [0,3] [] [] (JG rd bs (p5+1) g gb rs vs (ZY g.decls x3) (b-1) b (Zq:=ob) (hp:=(JQ (p:=p) (by first|omega|simp) hb om om)) (ht:=(by first|omega|simp)) (hb:=om) (ih:=ih)) ?_)))))))))
  rintro _ _ ⟨ys1,p23,rfl,rfl,V1⟩
  have hga1:=V1.1
  have hga2:=V1.2.1
  have hga3:=V1.2.2
  have hnc:=Kp (b:=b) (show (ys1).length<=3 by rw [hga1];first|omega|simp) hb (Uu _ (b-1))
  rw [hga1] at hnc
  exact Z8 11 (Yf 11 [] [] [] (Xd 6 x3 ys1) (Z8 12 (Yo 12 3 [] [] b2 (Yt (Z1.mk 6 x3 ys1)) (de (Z9 (r3 [1,1] [ZL (Z1.mk 6 x3 ys1)] [0] [(b2,b2)] ⟨(Z1.mk 6 x3 ys1),p23,rfl,rfl,⟨GE.node om (fun h=>by omega) om hga2 hga1 (by first|omega|simp) (Bx (by first|omega|simp) hb (Uu _ _)),by omega⟩⟩ (lr _)))))))
 refine ak (aq (ar (Z0 2 (ie (ZH (t>0) (fun Xt=>?_) (fun Xt=>?_))))))
 ·refine ar (Z6 4 [3] (ic [1,3] (Ar rd bs p5 g gb rs vs t (Zq:=ob)) ?_))
  rintro _ _ ⟨e3,p24,rfl,rfl,UA⟩
  have hle:=UA.1
  exact Zy 3 b2 (Yt e3) (ie (Z9 (r3 [1,1] [ZL e3] [0] [(b2,b2)] ⟨e3,p24,rfl,rfl,⟨hle.le (Gq b),by omega⟩⟩ (lr _))))
 refine ak (aq (ar (Z0 1 (ic [1] (Xs rd bs p5 3 (Zq:=ob)) ?_))))
 rintro _ _ ⟨k3,rfl,rfl,UN⟩
 have qhp11:=UN.lt om
 refine Z0 1 (ie (ac (k3==0) Zz (fun Xu=>?_) (fun Xu=>?_)))
 ·refine ar (Z6 3 [3] (iL (Z7 [0]) 1 1 fun v3=>Z0 1 (ia (((b-1:Nat):Int)) (((b:Int))-(1)) (ZA 0 [(104,Z5 [0])] (ic [1,4] (JG rd bs (p5+1) g gb rs vs [0] (b-1) b (Zq:=ob) (hp:=(JQ (p:=p) (by first|omega|simp) hb om om)) (ht:=(by first|omega|simp)) (hb:=om) (ih:=ih)) ?_)))))
  rintro _ _ ⟨ys2,p25,rfl,rfl,UB⟩
  have hga1:=UB.1
  have hga2:=UB.2.1
  have hga3:=UB.2.2
  have hnc:=Kp (b:=b) (show (ys2).length<=3 by rw [hga1];first|omega|simp) hb (Uu _ (b-1))
  rw [hga1] at hnc
  exact Zr [] (Xd 5 0 ys2) (Zy 4 b2 (Yt (Z1.mk 5 0 ys2)) (ie (Z9 (r3 [1,1] [ZL (Z1.mk 5 0 ys2)] [0] [(b2,b2)] ⟨(Z1.mk 5 0 ys2),p25,rfl,rfl,⟨GE.node om (fun h=>by omega) om hga2 hga1 (by first|omega|simp) (Bx (by first|omega|simp) hb (Uu _ _)),by omega⟩⟩ (lr _)))))
 refine ak (aD 12 (ZD 7 12 [0,3,4,5,7] [3] (da 8 (((b-1:Nat):Int)) (((b:Int))-(1)) (K5 (fun fz gz F h=>∃(z1:Int) (ys3:List Z1) (p26:Nat),(z1∈[1,2,3,4])/\(ys3.length=[0,0].length/\(∀e∈ys3,GE g vs.length (bS ((b-1) / [0,0].length)) e)/\((p5+1)+1)<=p26/\p26<=((p5+1)+1)+[0,0].length*bC ((b-1) / [0,0].length))/\F=sF [10] fz []/\h=[.obj b2 (Yt (Z1.mk z1 0 ys3)),Y4 rd bs p26,Ze gz 4,Ze gz 1,Ze gz 3]) ?_ ?_))))
 ·refine WC 1 6 ?_ ?_
  ·refine dL 1 [2] [b1] (Z7 [1,2,3,4]) 4 1 fun v4=>Y9 5 5 [] [(110,Z5 [1,2,3,4])] (WC 2 6 ?_ ?_)
   ·refine dc 2 [1] [1] [b1] (WA rd bs (p5+1) [1,2,3,4] (Zq:=ob)) ?_
    rintro _ _ ⟨z1,rfl,rfl,Qd⟩
    have hz:=J9 (a:=1) (b:=4) Qd (by decide)
    refine Z8 6 (dL 6 [2] [b1] (Z7 [0,0]) 2 1 fun v5=>Y9 3 3 [] [(115,Z5 [0,0])] (Z8 9 (dc 9 [1,5] [] [] (JG rd bs ((p5+1)+1) g gb rs vs [0,0] (b-1) b (Zq:=ob) (hp:=(JQ (p:=p) (by first|omega|simp) hb om om)) (ht:=(by first|omega|simp)) (hb:=om) (ih:=ih)) ?_)))
    rintro _ _ ⟨ys3,p26,rfl,rfl,TV⟩
    have hga1:=TV.1
    have hga2:=TV.2.1
    have hga3:=TV.2.2
    have hnc:=Kp (b:=b) (show (ys3).length<=3 by rw [hga1];first|omega|simp) hb (Uu _ (b-1))
    rw [hga1] at hnc
    exact Z8 10 (Yf 10 [] [] [] (Xd z1 0 ys3) (Z8 11 (Yo 11 5 [] [] b2 (Yt (Z1.mk z1 0 ys3)) (de (ZF ⟨z1,ys3,p26,(by assumption),(by assumption),rfl,rfl⟩ (wk [0,0,0,2,2] fl))))))
   refine dL 6 [2] [b1] (Z7 [0,0]) 2 1 fun v6=>Z8 2 (dc 2 [2] [1] [b1] (WA rd bs (p5+1) [1,2,3,4] (Zq:=ob)) ?_)
   rintro _ _ ⟨z2,rfl,rfl,J1⟩
   have hz:=J9 (a:=1) (b:=4) J1 (by decide)
   refine Y9 3 3 [] [(115,Z5 [0,0])] (Z8 9 (dc 9 [0,5] [] [] (JG rd bs ((p5+1)+1) g gb rs vs [0,0] (b-1) b (Zq:=ob) (hp:=(JQ (p:=p) (by first|omega|simp) hb om om)) (ht:=(by first|omega|simp)) (hb:=om) (ih:=ih)) ?_))
   rintro _ _ ⟨ys4,p27,rfl,rfl,J2⟩
   have hga1:=J2.1
   have hga2:=J2.2.1
   have hga3:=J2.2.2
   have hnc:=Kp (b:=b) (show (ys4).length<=3 by rw [hga1];first|omega|simp) hb (Uu _ (b-1))
   rw [hga1] at hnc
   exact Z8 10 (Yf 10 [] [] [] (Xd z2 0 ys4) (Z8 11 (Yo 11 5 [] [] b2 (Yt (Z1.mk z2 0 ys4)) (de (ZF ⟨z2,ys4,p27,(by assumption),(by assumption),rfl,rfl⟩ (wk [0,0,0,2,2] fl))))))
  refine dL 6 [2] [b1] (Z7 [0,0]) 2 1 fun v7=>Z8 1 (dL 1 [2] [b1] (Z7 [1,2,3,4]) 4 1 fun v8=>Y9 4 4 [] [(110,Z5 [1,2,3,4])] (Z8 2 (dc 2 [2] [1] [b1] (WA rd bs (p5+1) [1,2,3,4] (Zq:=ob)) ?_)))
  rintro _ _ ⟨z3,rfl,rfl,CA⟩
  have hz:=J9 (a:=1) (b:=4) CA (by decide)
  refine Y9 3 3 [] [(115,Z5 [0,0])] (Z8 9 (dc 9 [0,5] [] [] (JG rd bs ((p5+1)+1) g gb rs vs [0,0] (b-1) b (Zq:=ob) (hp:=(JQ (p:=p) (by first|omega|simp) hb om om)) (ht:=(by first|omega|simp)) (hb:=om) (ih:=ih)) ?_))
  rintro _ _ ⟨ys5,p28,rfl,rfl,JK⟩
  have hga1:=JK.1
  have hga2:=JK.2.1
  have hga3:=JK.2.2
  have hnc:=Kp (b:=b) (show (ys5).length<=3 by rw [hga1];first|omega|simp) hb (Uu _ (b-1))
  rw [hga1] at hnc
  exact Z8 10 (Yf 10 [] [] [] (Xd z3 0 ys5) (Z8 11 (Yo 11 5 [] [] b2 (Yt (Z1.mk z3 0 ys5)) (de (ZF ⟨z3,ys5,p28,(by assumption),(by assumption),rfl,rfl⟩ (wk [0,0,0,2,2] fl))))))
 rintro F h ⟨z1,ys3,p26,Qd,TV,rfl,rfl⟩
 have hz:=J9 (a:=1) (b:=4) Qd (by decide)
 have hga1:=TV.1
 have hga2:=TV.2.1
 have hga3:=TV.2.2
 have hnc:=Kp (b:=b) (show (ys3).length<=3 by rw [hga1];first|omega|simp) hb (Uu _ (b-1))
 rw [hga1] at hnc
 exact Z9 (r3 [1,1] [ZL (Z1.mk z1 0 ys3)] [0] [(b2,b2)] ⟨(Z1.mk z1 0 ys3),p26,rfl,rfl,⟨GE.node om (fun h=>by omega) om hga2 hga1 (by first|omega|simp) (Bx (by first|omega|simp) hb (Uu _ _)),by omega⟩⟩ (lr _))
theorem Pt (rd:Nat) (bs:LI) (p:Nat) (g:Xv) (gb:Nat) (rs:List Func) (vs:LI) (t:Int) (b:Nat) (Zq:∀z∈bs,0<=z/\z<=255) (hp:p+bC b<=1000000000) (hg:GP g) (XF:g.funcs <+: rs) (hv:vs.length+3*b<=900) (ih:∀(rd:Nat) (bs:LI) (p:Nat) (vs2:LI) (t2:Int) (b2:Nat),(∀z∈bs,0<=z/\z<=255)->(p+bC b2<=1000000000)->(vs2.length+3*b2<=900)->(b2<b)->Zi 219 [.p rd 0,.agg (XH g gb),Z5 vs2,.i t2,.i b2] [Y4 rd bs p,Xa gb rs] (fun r h=>∃(e:Z1) (p2:Nat),r=ZL e/\h=[Y4 rd bs p2,Xa gb rs]/\GE g vs2.length (bS b2) e/\p<=p2/\p2<=p+bC b2)):Zi 219 [.p rd 0,.agg (XH g gb),Z5 vs,.i t,.i b] [Y4 rd bs p,Xa gb rs] (fun r h=>∃(e:Z1) (p2:Nat),r=ZL e/\h=[Y4 rd bs p2,Xa gb rs]/\GE g vs.length (bS b) e/\p<=p2/\p2<=p+bC b):=by
 have Xl:=hg.decls.ok
 have hgl:=hg.len
 have hdl:=hg.decls.len
 have hbm:=Gq b
 have hcm:=Gp b
 refine ZB 114 Tryz.func219 (ar (iA (XH g gb) fun b1=>iA [.i 0,.i 0,nl] fun b2=>ie (aq (ar (Z0 2 (ie (ZH ((b:Int)<3) (fun Za=>?_) (fun Za=>?_))))))))
 ·refine ar (Z6 4 [1] (ic [2,2] (Ar rd bs p g gb rs vs t (Zq:=ob)) ?_))
  rintro _ _ ⟨e1,p21,rfl,rfl,ZT⟩
  have hle:=ZT.1
  exact Zy 2 b2 (Yt e1) (ie (Z9 (r3 [1,1] [ZL e1] [0] [(b2,b2)] ⟨e1,p21,rfl,rfl,⟨hle.le hbm,by omega⟩⟩ (lr _))))
 have hb:3<=b:=by omega
 have hlc:=Ss hb
 have hls:=St hb
 refine ak (aq (ar (Z0 1 (ic [2] (Xs rd bs p 12 (Zq:=ob)) ?_))))
 rintro _ _ ⟨k1,rfl,rfl,Y6⟩
 have qhp2:=Y6.lt om
 refine ie (ab 0 (ar (Z0 2 (ie (ac (k1==0) Zz (fun Zg=>?_) (fun Zg=>?_))))))
 ·refine ar (Z6 4 [2] (ic [0,2] (Ar rd bs (p+1) g gb rs vs t (Zq:=ob)) ?_))
  rintro _ _ ⟨e2,p22,rfl,rfl,YA⟩
  have hle:=YA.1
  exact Zy 2 b2 (Yt e2) (ie (Z9 (r3 [1,1] [ZL e2] [0] [(b2,b2)] ⟨e2,p22,rfl,rfl,⟨hle.le hbm,by omega⟩⟩ (lr _))))
 refine aq (ar (Z0 2 (ie (Xo (fun fz gz F h=>F=sF [0,2,3,4,6,10,22] fz [(30,.b ((k1==1)||(k1==2)))]/\h=gz) ?_ ?_))))
 ·refine ac (k1==1) Zz (fun ZK=>?_) (fun ZK=>?_)
  ·exact ak (ZF ⟨rfl,rfl⟩ (ZP 4 (fc (x:=.b (k1==1)) (lb (by first|rfl|(rw [Zw ZK])|(rw [Zs ZK])|(simp [ZK];done)|(rw [Xi];simp [ZK];done)|omega)) fl)))
  exact az (Z0 2 (ie (ZF ⟨rfl,rfl⟩ (ZP 4 (fc (x:=.b (k1==2)) (lb (by first|rfl|(rw [Zw ZK])|(rw [Zs ZK])|(simp [ZK];done)|(rw [Xi];simp [ZK];done)|omega)) fl)))))
 rintro F h ⟨rfl,rfl⟩
 refine ac ((k1==1)||(k1==2)) (p:=(k1=1)∨(k1=2)) (X3 Zz Zz) (fun Yi=>?_) (fun Yi=>?_)
 ·refine ar (Z6 3 [2] (ic [0,2] (P5 rd bs (p+1) g gb rs vs (Zq:=ob)) ?_))
  rintro _ _ ⟨z1,rfl,rfl,YJ⟩
  refine Z0 1 (ie (aD 20 (ZD 15 20 [0,1,2,3,4] [3] (dx 5 (JM b 2 om om) (ZD 8 14 [7,8,9,10,13,14] [3] (dx 15 (JM b 2 om om) (K5 (fun fz gz F h=>∃(e3:Z1) (e4:Z1) (p24:Nat) (p23:Nat),(GE g vs.length (bS (b / 2)) e3/\((p+1)+1)<=p23/\p23<=((p+1)+1)+bC (b / 2))/\(GE g (vs++[z1]).length (bS (b / 2)) e4/\p23<=p24/\p24<=p23+bC (b / 2))/\F=sF [10] fz []/\h=[.obj b2 (Yt (Z1.mk 13 0 [e3,e4])),Y4 rd bs p24,Ze gz 1,Ze gz 3]) ?_ ?_)))))))
  ·refine WC 6 11 ?_ ?_
   ·refine dc 6 [0,0] [1] [b1] (ih rd bs ((p+1)+1) vs z1 (b / 2) ob ob (by first|omega|(simp only [Yb,Yw,YV];omega)) ob) ?_
    rintro _ _ ⟨e3,p23,rfl,rfl,YU⟩
    have hgehp5:=YU.1
    refine Z8 11 (dL 11 [3] [b1] (Z7 [z1]) 1 1 fun v1=>Y9 5 5 [] [(48,Z5 [z1])] (Z8 12 (dc 12 [] [3] [b1] (Ti vs [z1]) ?_)))
    rintro _ _ ⟨v2,rfl,rfl⟩
    refine Y9 4 4 [] [(49,Z5 (vs++[z1]))] (Z8 16 (dc 16 [2,2] [] [] (ih rd bs p23 (vs++[z1]) t (b / 2) ob ob (by first|omega|(simp only [Yb,Yw,YV];omega)) ob) ?_))
    rintro _ _ ⟨e4,p24,rfl,rfl,XI⟩
    have hgehp6:=XI.1
    exact Z8 17 (XP 17 [] [] [ZL e3,ZL e4] (Y3 [e3,e4]) (X9 [e3,e4]).symm 2 3 fun v3=>Y9 2 2 [] [(54,YY [e3,e4])] (Z8 18 (Yf 18 [] [] [] (Xd 13 0 [e3,e4]) (Z8 19 (Yo 19 5 [] [] b2 (Yt (Z1.mk 13 0 [e3,e4])) (de (ZF ⟨e3,e4,p24,_,(by assumption),(by assumption),rfl,rfl⟩ (wk [0,1,1,3] fl))))))))
   refine dL 11 [3,3] [b1,b1] (Z7 [z1]) 1 1 fun v4=>Z8 6 (dc 6 [1,1] [1] [b1] (ih rd bs ((p+1)+1) vs z1 (b / 2) ob ob (by first|omega|(simp only [Yb,Yw,YV];omega)) ob) ?_)
   rintro _ _ ⟨e5,p25,rfl,rfl,Wd⟩
   have hgehp7:=Wd.1
   refine Y9 5 5 [] [(48,Z5 [z1])] (Z8 12 (dc 12 [] [3] [b1] (Ti vs [z1]) ?_))
   rintro _ _ ⟨v5,rfl,rfl⟩
   refine Y9 4 4 [] [(49,Z5 (vs++[z1]))] (Z8 16 (dc 16 [1,1] [] [] (ih rd bs p25 (vs++[z1]) t (b / 2) ob ob (by first|omega|(simp only [Yb,Yw,YV];omega)) ob) ?_))
   rintro _ _ ⟨e6,p26,rfl,rfl,WM⟩
   have hgehp8:=WM.1
   exact Z8 17 (XP 17 [] [] [ZL e5,ZL e6] (Y3 [e5,e6]) (X9 [e5,e6]).symm 2 3 fun v6=>Y9 2 2 [] [(54,YY [e5,e6])] (Z8 18 (Yf 18 [] [] [] (Xd 13 0 [e5,e6]) (Z8 19 (Yo 19 5 [] [] b2 (Yt (Z1.mk 13 0 [e5,e6])) (de (ZF ⟨e5,e6,p26,_,(by assumption),(by assumption),rfl,rfl⟩ (wk [0,1,1,3] fl))))))))
  rintro F h ⟨e3,e4,p24,p23,YU,XI,rfl,rfl⟩
  have hgehp5:=YU.1
  have hgehp6:=XI.1
  exact Z9 (r3 [1,1] [ZL (Z1.mk 13 0 [e3,e4])] [0] [(b2,b2)] ⟨(Z1.mk 13 0 [e3,e4]),p24,rfl,rfl,⟨GE.let_ (by assumption) (by have h:=‹GE g (vs++[_]).length (bS (b / 2)) _›;rw [Yb] at h;exact h) hls,by omega⟩⟩ (lr _))
 refine ar (Z0 2 (ie (ac (k1==3) Zz (fun Xt=>?_) (fun Xt=>?_))))
 ·refine ar (Z6 5 [2] (iL (Z7 [0,t,t]) 3 1 fun v7=>Z0 1 (ia (((b-1:Nat):Int)) (((b:Int))-(1)) (ZA 0 [(63,Z5 [0,t,t])] (ic [1,3] (JG rd bs (p+1) g gb rs vs [0,t,t] (b-1) b (Zq:=ob) (hp:=(JQ (p:=p) (by first|omega|simp) hb om om)) (ht:=(by first|omega|simp)) (hb:=om) (ih:=ih)) ?_)))))
  rintro _ _ ⟨ys1,p27,rfl,rfl,V1⟩
  have hga1:=V1.1
  have hga2:=V1.2.1
  have hga3:=V1.2.2
  have hnc:=Kp (b:=b) (show (ys1).length<=3 by rw [hga1];first|omega|simp) hb (Uu _ (b-1))
  rw [hga1] at hnc
  exact Zr [] (Xd 7 0 ys1) (Zy 3 b2 (Yt (Z1.mk 7 0 ys1)) (ie (Z9 (r3 [1,1] [ZL (Z1.mk 7 0 ys1)] [0] [(b2,b2)] ⟨(Z1.mk 7 0 ys1),p27,rfl,rfl,⟨GE.if_ om hga2 hga1 (Bx (by simp) hb (Uu 3 _)),by omega⟩⟩ (lr _)))))
 refine aq (ar (Z0 2 (ie (Xo (fun fz gz F h=>F=sF [0,2,3,4,6,10,22] fz [(68,.b ((k1==4)||((k1==5)||(k1==6))))]/\h=gz) ?_ ?_))))
 ·refine ac (k1==4) Zz (fun Xu=>?_) (fun Xu=>?_)
  ·exact ak (ZF ⟨rfl,rfl⟩ (ZP 4 (fc (x:=.b (k1==4)) (lb (by first|rfl|(rw [Zw Xu])|(rw [Zs Xu])|(simp [Xu];done)|(rw [Xi];simp [Xu];done)|omega)) fl)))
  refine ar (Z0 2 (ie (ac (k1==5) Zz (fun Tv=>?_) (fun Tv=>?_))))
  ·exact ak (ZF ⟨rfl,rfl⟩ (ZP 4 (fc (x:=.b (k1==5)) (lb (by first|rfl|(rw [Zw Xu])|(rw [Zs Xu])|(simp [Xu,Tv];done)|(rw [Xi];simp [Xu,Tv];done)|omega)) fl)))
  exact az (Z0 2 (ie (ZF ⟨rfl,rfl⟩ (ZP 4 (fc (x:=.b (k1==6)) (lb (by first|rfl|(rw [Zw Xu])|(rw [Zs Xu])|(simp [Xu,Tv];done)|(rw [Xi];simp [Xu,Tv];done)|omega)) fl)))))
 rintro F h ⟨rfl,rfl⟩
 refine ac ((k1==4)||((k1==5)||(k1==6))) (p:=(k1=4)∨((k1=5)∨(k1=6))) (X3 Zz (X3 Zz Zz)) (fun UM=>?_) (fun UM=>?_)
 ·refine ar (Z6 5 [2] (ic [0,2] (Ps rd bs (p+1) g gb rs vs t b (Zq:=ob) (ih:=ih)) ?_))
  rintro _ _ ⟨e7,p28,rfl,rfl,UA⟩
  have hgm:=UA.1
  exact Zy 2 b2 (Yt e7) (ie (Z9 (r3 [1,1] [ZL e7] [0] [(b2,b2)] ⟨e7,p28,rfl,rfl,⟨hgm,by omega⟩⟩ (lr _))))
 refine aq (ar (Z0 2 (ie (Xo (fun fz gz F h=>F=sF [0,2,3,4,6,10] fz [(78,.b ((k1==7)||(k1==8)))]/\h=gz) ?_ ?_))))
 ·refine ac (k1==7) Zz (fun Ui=>?_) (fun Ui=>?_)
  ·exact ak (ZF ⟨rfl,rfl⟩ (ZP 4 (fc (x:=.b (k1==7)) (lb (by first|rfl|(rw [Zw Ui])|(rw [Zs Ui])|(simp [Ui];done)|(rw [Xi];simp [Ui];done)|omega)) fl)))
  exact az (Z0 2 (ie (ZF ⟨rfl,rfl⟩ (ZP 4 (fc (x:=.b (k1==8)) (lb (by first|rfl|(rw [Zw Ui])|(rw [Zs Ui])|(simp [Ui];done)|(rw [Xi];simp [Ui];done)|omega)) fl)))))
 rintro F h ⟨rfl,rfl⟩
 refine ac ((k1==7)||(k1==8)) (p:=(k1=7)∨(k1=8)) (X3 Zz Zz) (fun Bk=>?_) (fun Bk=>?_)
 ·refine ar (Z6 2 [2] (ic [3] (P9 g gb rs t) ?_))
  rintro _ _ ⟨xs1,rfl,rfl,UN⟩
  have hcal:=UN
  refine Z0 1 (ie (ar (Z0 1 (iw (Y2 xs1) (Z0 1 (ie (ZH ((xs1.length:Int)>0) (fun Bl=>?_) (fun Bl=>?_))))))))
  ·refine ar (Z0 3 (iw (Y2 xs1) (ic [1] (Xs rd bs (p+1) (xs1.length:Int) (Zq:=ob)) ?_)))
   rintro _ _ ⟨k2,rfl,rfl,UB⟩
   have qhp12:=UB.lt om
   obtain ⟨x1,Z2⟩:=Zp xs1 k2.toNat om
   have hcv:=hcal.2 _ (ZU Z2)
   refine Zn (Zh none k2 1 (ZQ Z2)) (Z0 2 (ie (aD 15 (ZD 8 15 [0,1,2,3,4,5,6] [3,3] ?_))))
   obtain ⟨x2,Zt⟩:=Zp g.funcs x1.toNat om
   have hso:=(hg.sigs _ (ZU Zt)).bd
   refine dx 7 (XB gb g.funcs.length 4 x1.toNat 5 x1) (Zj 6 7 [8] (Vb 9 (Wn 1 gb 4 4 5 (x1.toNat * 5+0) (Zc (YS rs)) [Z5 x2.params] 27 (Z5 x2.params) (Vi XF Zt 0 rfl (Wf rfl))) (Zj 4 5 [10] (da 11 (((b-1:Nat):Int)) (((b:Int))-(1)) (Z8 12 (dc 12 [0,0] [] [] (JG rd bs ((p+1)+1) g gb rs vs x2.params (b-1) b (Zq:=ob) (hp:=(JQ (p:=p) (by first|omega|simp) hb om om)) (ht:=(by first|omega|simp)) (hb:=om) (ih:=ih)) ?_))))))
   rintro _ _ ⟨ys2,p29,rfl,rfl,Qd⟩
   have hga1:=Qd.1
   have hga2:=Qd.2.1
   have hga3:=Qd.2.2
   have hnc:=Kp (b:=b) (show (ys2).length<=3 by rw [hga1];first|omega|simp) hb (Uu _ (b-1))
   rw [hga1] at hnc
   exact Z8 13 (Yf 13 [] [] [] (Xd 9 x1 ys2) (Z8 14 (Yo 14 2 [] [] b2 (Yt (Z1.mk 9 x1 ys2)) (de (Z9 (r3 [1,1] [ZL (Z1.mk 9 x1 ys2)] [0] [(b2,b2)] ⟨(Z1.mk 9 x1 ys2),p29,rfl,rfl,⟨GE.node om (fun _=>by omega) om hga2 hga1 (by first|omega|simp) (Bx (by first|omega|simp) hb (Uu _ _)),by omega⟩⟩ (lr _)))))))
  refine ak (ar (Z6 5 [3] (ic [1,0] (Ht rd bs (p+1) g gb rs vs t b (Zq:=ob) (ih:=ih)) ?_)))
  rintro _ _ ⟨e8,p210,rfl,rfl,TV⟩
  have hgm:=TV.1
  exact Zy 2 b2 (Yt e8) (ie (Z9 (r3 [1,1] [ZL e8] [0] [(b2,b2)] ⟨e8,p210,rfl,rfl,⟨hgm,by omega⟩⟩ (lr _))))
 refine ak (ar (Z6 5 [2] (ic [0,2] (Ht rd bs (p+1) g gb rs vs t b (Zq:=ob) (ih:=ih)) ?_)))
 rintro _ _ ⟨e9,p211,rfl,rfl,J1⟩
 have hgm:=J1.1
 exact Zy 2 b2 (Yt e9) (ie (Z9 (r3 [1,1] [ZL e9] [0] [(b2,b2)] ⟨e9,p211,rfl,rfl,⟨hgm,by omega⟩⟩ (lr _))))
theorem T7 (rd:Nat) (bs:LI) (p:Nat) (g:Xv) (gb:Nat) (rs:List Func) (vs:LI) (t:Int) (b:Nat) (Zq:∀z∈bs,0<=z/\z<=255) (hp:p+bC b<=1000000000:=by exact ob) (hg:GP g:=by exact ob) (XF:g.funcs <+: rs:=by exact ob) (hv:vs.length+3*b<=900:=by exact ob):Zi 219 [.p rd 0,.agg (XH g gb),Z5 vs,.i t,.i b] [Y4 rd bs p,Xa gb rs] (fun r h=>∃(e:Z1) (p2:Nat),r=ZL e/\h=[Y4 rd bs p2,Xa gb rs]/\GE g vs.length (bS b) e/\p<=p2/\p2<=p+bC b):=by
 have key:∀k:Nat,∀(rd:Nat) (bs:LI) (p:Nat) (vs:LI) (t:Int) (b2:Nat),(∀z∈bs,0<=z/\z<=255)->(p+bC b2<=1000000000)->(vs.length+3*b2<=900)->(b2<k)->Zi 219 [.p rd 0,.agg (XH g gb),Z5 vs,.i t,.i b2] [Y4 rd bs p,Xa gb rs] (fun r h=>∃(e:Z1) (p2:Nat),r=ZL e/\h=[Y4 rd bs p2,Xa gb rs]/\GE g vs.length (bS b2) e/\p<=p2/\p2<=p+bC b2):=by
  intro k
  induction k with
  | zero=>intro rd bs p vs t b2 h1 h2 h3 h4;omega
  | succ k ih=>intro rd bs p vs t b2 h1 h2 h3 h4;exact Pt rd bs p g gb rs vs t b2 h1 h2 hg XF h3 fun rd bs p vs t b3 q1 q2 q3 q4=>ih rd bs p vs t b3 q1 q2 q3 om
 exact key (b+1) rd bs p vs t b Zq hp hv om
theorem Hs (rd:Nat) (bs:LI) (p:Nat) (g:Xv) (gb:Nat) (rs:List Func) (vs:LI) (t:Int) (b:Nat) (Zq:∀z∈bs,0<=z/\z<=255) (hp:p+40000<=1000000000:=by exact ob) (hg:GP g:=by exact ob) (XF:g.funcs <+: rs:=by exact ob) (hv:vs.length+3*b<=900:=by exact ob) (hb:b<=20:=by exact ob):Zi 195 [.p rd 0,.agg (XH g gb),Z5 vs,.i t,.i b] [Y4 rd bs p,Xa gb rs] (fun r h=>∃(e:Z1) (p2:Nat),r=ZL e/\h=[Y4 rd bs p2,Xa gb rs]/\GE g vs.length 30 e/\p<=p2/\p2<=p+40000):=by
 have Z4o:=C5 hb
 refine ZB 34 Tryz.func195 (ar (iA (XH g gb) fun b1=>iA [.i 0,.i 0,nl] fun b2=>ie (ar (Z6 5 [1] (ic [2,2] (T7 rd bs p g gb rs vs t b (Zq:=ob)) ?_)))))
 rintro _ _ ⟨e1,p21,rfl,rfl,ZT⟩
 have YN:=ZT.1
 refine iA [.i 0,.i 0,nl] fun b3=>?_
 refine Zy 0 b3 (Yt e1) (ie (aq (ab 0 (ZX (fun fz gz m F h=>∃(bq:Nat) (eQ:Z1) (pq:Nat),(GE g vs.length (bS bq) eQ)/\(bq<=b)/\(p<=pq/\pq+1900*bq<=p+1900*(b+1))/\F=sF [0,2,3,6,10,11] fz [(4,.i bq)]/\h=[.obj b3 (Yt eQ),Y4 rd bs pq,Ze gz 2,Ze gz 3,Ze gz 4]/\m=bq+1) _ _ _ ⟨b,e1,p21,YN,ob,ob,rfl,rfl,rfl⟩ (ZP 5 fl) ?_))))
 rintro m F h ⟨bq,eQ,pq,Y8,Zm,Zo,rfl,rfl,rfl⟩
 refine aq (ar (Z6 1 [0] (ic [] (Hz eQ (hz:=(by have h1:=Y8.2;have h2:=(C5 (b:=bq) om).1;omega))) ?_)))
 rintro _ _ ⟨w1,rfl,rfl,Y6⟩
 have EO:=Y6
 have hq20:=C5 (b:=bq) om
 have hq21:=C5 (b:=bq / 2) om
 have YW:=Y8.2
 refine Xr [0,2,3,4,6,10,11] [(24,.b ((decide (w1<0))&&(decide ((bq:Int)>2))))] (fun gz=>gz) ?_ ?_
 ·refine Z0 2 (ib (b:=(decide (w1<0))) 21 (fun Zb=>?_) (fun Zb=>?_))
  ·exact Z0 3 (ie (ZP 5 (ZJ (decide ((bq:Int)>2)) Zb fl)))
  exact Z0 3 (ie (ZP 5 (ZJ false Zb fl)))
 refine ac ((decide (w1<0))&&(decide ((bq:Int)>2))) (p:=(w1<0)/\((bq:Int)>2)) (Xb dq dq) (fun Za=>?_) (fun Za=>?_)
 ·refine ak (ab 1 (ar (Z0 1 (Zn (JM bq 2 om om) (Z0 1 (ie (az (Z6 5 [4] (ic [1,1] (T7 rd bs pq g gb rs vs t (bq / 2) (Zq:=ob)) ?_)))))))))
  rintro _ _ ⟨e2,p22,rfl,rfl,YU⟩
  have YN:=YU.1
  exact Zy 2 b3 (Yt e2) (ie (ZG ⟨(bq / 2),e2,p22,YN,ob,ob,rfl,rfl,rfl⟩ (ZP 5 (fc (x:=.i (bq / 2:Nat)) li fl))))
 exact ax 0 (ar (Z6 1 [0] (Zy 3 b2 (Yt eQ) (ie (Z9 (r3 [2,2] [ZL eQ] [0] [(b2,b2)] ⟨eQ,pq,rfl,rfl,⟨⟨Y8.1,by omega⟩,by omega⟩⟩ (lr _)))))))
theorem PH (rd:Nat) (bs:LI) (p:Nat) (t:Int) (Zq:∀z∈bs,0<=z/\z<=255) (hp:p+14<=1000000000:=by exact ob):Zi 221 [.p rd 0,.i t] [Y4 rd bs p] (fun r h=>∃(e:Z1) (p2:Nat),r=ZL e/\h=[Y4 rd bs p2]/\(∀g:Xv,SE g 9 e)/\p<=p2/\p2<=p+14):=by
 refine ZB 45 Tryz.func221 (ar (iA [.i 0,.i 0,nl] fun b1=>ie (ar (iL (Y3 []) 0 3 fun v1=>ZA 0 [(10,YY [])] (Zr [] (Xd 6 0 []) (iA [.i 0,.i 0,nl] fun b2=>Zy 0 b2 (Yt (Z1.mk 6 0 [])) (ie (aq (ar (Z0 2 (ie (ac (t==3) Zz (fun Za=>?_) (fun Za=>?_)))))))))))))
 ·refine ar (iL (Y3 []) 0 3 fun v2=>ZA 0 [(14,YY [])] (Zr [] (Xd 6 2 []) (iA [.i 0,.i 0,nl] fun b3=>?_)))
  refine Zy 0 b3 (Yt (Z1.mk 6 2 [])) (ie (aD 9 (ZD 6 9 [0,1,4] [0,0] (K5 (fun fz gz F h=>∃(k1:Int) (b4:Nat),(Pk 9 k1)/\F=sF [0,4,6] fz [(7,.p b4 0)]/\h=[.obj b4 (Yt (Z1.mk 6 3 [Z1.mk 6 2 [],Z1.mk 0 k1 [],Z1.mk 6 2 []])),.obj rd [WW bs,.i (p+1:Nat)],Ze gz 0,Ze gz 1,Ze gz 2,Ze gz 3,Ze gz 4]) ?_ ?_))))
  ·refine WC 2 7 ?_ ?_
   ·refine dc 2 [5] [0,0] [b3,b3] (Xs rd bs p 9 (Zq:=ob)) ?_
    rintro _ _ ⟨k1,rfl,rfl,ZT⟩
    have qhp1:=ZT.lt om
    refine WC 3 7 ?_ ?_
    ·refine Yf 3 [] [1,1] [b3,b3] (Kg k1) (WC 5 7 ?_ ?_)
     ·refine XP 5 [] [] [ZL (Z1.mk 6 2 []),ZL (Z1.mk 0 k1 []),ZL (Z1.mk 6 2 [])] (Y3 [Z1.mk 6 2 [],Z1.mk 0 k1 [],Z1.mk 6 2 []]) (X9 [Z1.mk 6 2 [],Z1.mk 0 k1 [],Z1.mk 6 2 []]).symm 3 3 fun v3=>Y9 3 3 [] [(21,YY [Z1.mk 6 2 [],Z1.mk 0 k1 [],Z1.mk 6 2 []])] (WC 6 7 ?_ ?_)
      ·exact Yf 6 [] [] [] (Xd 6 3 [Z1.mk 6 2 [],Z1.mk 0 k1 [],Z1.mk 6 2 []]) (Z8 7 (dA 7 [] [] [.i 0,.i 0,nl] fun b4=>Z8 8 (Yo 8 0 [] [] b4 (Yt (Z1.mk 6 3 [Z1.mk 6 2 [],Z1.mk 0 k1 [],Z1.mk 6 2 []])) (de (ZF ⟨k1,b4,(by assumption),rfl,rfl⟩ (wk [0,1,1,1,1,1,1] fl))))))
      exact dA 7 [] [] [.i 0,.i 0,nl] fun b5=>Z8 6 (Yf 6 [] [] [] (Xd 6 3 [Z1.mk 6 2 [],Z1.mk 0 k1 [],Z1.mk 6 2 []]) (Z8 8 (Yo 8 0 [] [] b5 (Yt (Z1.mk 6 3 [Z1.mk 6 2 [],Z1.mk 0 k1 [],Z1.mk 6 2 []])) (de (ZF ⟨k1,b5,(by assumption),rfl,rfl⟩ (wk [0,1,1,1,1,1,1] fl))))))
     exact dA 7 [1,1] [b3,b3] [.i 0,.i 0,nl] fun b6=>Z8 5 (XP 5 [] [] [ZL (Z1.mk 6 2 []),ZL (Z1.mk 0 k1 []),ZL (Z1.mk 6 2 [])] (Y3 [Z1.mk 6 2 [],Z1.mk 0 k1 [],Z1.mk 6 2 []]) (X9 [Z1.mk 6 2 [],Z1.mk 0 k1 [],Z1.mk 6 2 []]).symm 3 3 fun v4=>Y9 2 2 [] [(21,YY [Z1.mk 6 2 [],Z1.mk 0 k1 [],Z1.mk 6 2 []])] (Z8 6 (Yf 6 [] [] [] (Xd 6 3 [Z1.mk 6 2 [],Z1.mk 0 k1 [],Z1.mk 6 2 []]) (Z8 8 (Yo 8 1 [] [] b6 (Yt (Z1.mk 6 3 [Z1.mk 6 2 [],Z1.mk 0 k1 [],Z1.mk 6 2 []])) (de (ZF ⟨k1,b6,(by assumption),rfl,rfl⟩ (wk [0,1,1,1,1,1,1] fl))))))))
    exact dA 7 [1,1] [b3,b3] [.i 0,.i 0,nl] fun b7=>Z8 3 (Yf 3 [] [2,2] [b3,b3] (Kg k1) (Z8 5 (XP 5 [] [] [ZL (Z1.mk 6 2 []),ZL (Z1.mk 0 k1 []),ZL (Z1.mk 6 2 [])] (Y3 [Z1.mk 6 2 [],Z1.mk 0 k1 [],Z1.mk 6 2 []]) (X9 [Z1.mk 6 2 [],Z1.mk 0 k1 [],Z1.mk 6 2 []]).symm 3 3 fun v5=>Y9 2 2 [] [(21,YY [Z1.mk 6 2 [],Z1.mk 0 k1 [],Z1.mk 6 2 []])] (Z8 6 (Yf 6 [] [] [] (Xd 6 3 [Z1.mk 6 2 [],Z1.mk 0 k1 [],Z1.mk 6 2 []]) (Z8 8 (Yo 8 1 [] [] b7 (Yt (Z1.mk 6 3 [Z1.mk 6 2 [],Z1.mk 0 k1 [],Z1.mk 6 2 []])) (de (ZF ⟨k1,b7,(by assumption),rfl,rfl⟩ (wk [0,1,1,1,1,1,1] fl))))))))))
   refine dA 7 [0,0] [b3,b3] [.i 0,.i 0,nl] fun b8=>Z8 2 (dc 2 [6] [1,1] [b3,b3] (Xs rd bs p 9 (Zq:=ob)) ?_)
   rintro _ _ ⟨k2,rfl,rfl,Y6⟩
   have qhp2:=Y6.lt om
   exact Z8 3 (Yf 3 [] [2,2] [b3,b3] (Kg k2) (Z8 5 (XP 5 [] [] [ZL (Z1.mk 6 2 []),ZL (Z1.mk 0 k2 []),ZL (Z1.mk 6 2 [])] (Y3 [Z1.mk 6 2 [],Z1.mk 0 k2 [],Z1.mk 6 2 []]) (X9 [Z1.mk 6 2 [],Z1.mk 0 k2 [],Z1.mk 6 2 []]).symm 3 3 fun v6=>Y9 2 2 [] [(21,YY [Z1.mk 6 2 [],Z1.mk 0 k2 [],Z1.mk 6 2 []])] (Z8 6 (Yf 6 [] [] [] (Xd 6 3 [Z1.mk 6 2 [],Z1.mk 0 k2 [],Z1.mk 6 2 []]) (Z8 8 (Yo 8 2 [] [] b8 (Yt (Z1.mk 6 3 [Z1.mk 6 2 [],Z1.mk 0 k2 [],Z1.mk 6 2 []])) (de (ZF ⟨k2,b8,(by assumption),rfl,rfl⟩ (wk [0,1,1,1,1,1,1] fl))))))))))
  rintro F h ⟨k1,b4,ZT,rfl,rfl⟩
  have qhp1:=ZT.lt om
  refine aD 8 (ZD 5 8 [0,1,4] [0,2] (Z8 2 (dc 2 [1] [1,0] [b3,b4] (Xs rd bs (p+1) 9 (Zq:=ob)) ?_)))
  rintro _ _ ⟨k3,rfl,rfl,YA⟩
  have qhp3:=YA.lt om
  exact Z8 3 (Yf 3 [] [2,1] [b3,b4] (Kg k3) (Z8 5 (XP 5 [] [] [ZL (Z1.mk 6 3 [Z1.mk 6 2 [],Z1.mk 0 k1 [],Z1.mk 6 2 []]),ZL (Z1.mk 0 k3 []),ZL (Z1.mk 6 2 [])] (Y3 [Z1.mk 6 3 [Z1.mk 6 2 [],Z1.mk 0 k1 [],Z1.mk 6 2 []],Z1.mk 0 k3 [],Z1.mk 6 2 []]) (X9 [Z1.mk 6 3 [Z1.mk 6 2 [],Z1.mk 0 k1 [],Z1.mk 6 2 []],Z1.mk 0 k3 [],Z1.mk 6 2 []]).symm 3 3 fun v7=>Y9 2 2 [] [(28,YY [Z1.mk 6 3 [Z1.mk 6 2 [],Z1.mk 0 k1 [],Z1.mk 6 2 []],Z1.mk 0 k3 [],Z1.mk 6 2 []])] (Z8 6 (Yf 6 [] [] [] (Xd 6 3 [Z1.mk 6 3 [Z1.mk 6 2 [],Z1.mk 0 k1 [],Z1.mk 6 2 []],Z1.mk 0 k3 [],Z1.mk 6 2 []]) (Z8 7 (Yo 7 7 [] [] b1 (Yt (Z1.mk 6 3 [Z1.mk 6 3 [Z1.mk 6 2 [],Z1.mk 0 k1 [],Z1.mk 6 2 []],Z1.mk 0 k3 [],Z1.mk 6 2 []])) (de (Z9 (r3 [2] [ZL (Z1.mk 6 3 [Z1.mk 6 3 [Z1.mk 6 2 [],Z1.mk 0 k1 [],Z1.mk 6 2 []],Z1.mk 0 k3 [],Z1.mk 6 2 []])] [0] [(b1,b1)] ⟨(Z1.mk 6 3 [Z1.mk 6 3 [Z1.mk 6 2 [],Z1.mk 0 k1 [],Z1.mk 6 2 []],Z1.mk 0 k3 [],Z1.mk 6 2 []]),(p+1)+1,rfl,rfl,⟨fun g=>SE.three (s1:=4) (s2:=1) (s3:=1) om om (SE.three (s1:=1) (s2:=1) (s3:=1) om om (SE.nil om om om) (SE.int om om) (SE.nil om om om) om) (SE.int om om) (SE.nil om om om) om,by omega⟩⟩ (lr _)))))))))))
 refine ak (ar (Z6 1 [0] (iA [.i 0,.i 0,nl] fun b9=>Zy 0 b9 (Yt (Z1.mk 6 0 [])) (ie (aq (ar (Z0 1 (ic [4] (Xs rd bs p 3 (Zq:=ob)) ?_))))))))
 rintro _ _ ⟨k4,rfl,rfl,YJ⟩
 have qhp4:=YJ.lt om
 refine ia ((1+k4)) ((1)+(k4)) (Z0 1 (ie (ab 0 (ZX (fun fz gz m F h=>∃(j:Int) (eQ:Z1) (pq:Nat),(0<=j/\j<=3)/\(∀g:Xv,SE g (7-2*j.toNat) eQ)/\(p+1<=pq/\pq+4*j.toNat<=p+13)/\F=sF [0,4,8] fz [(9,.i j)]/\h=[Y4 rd bs pq,.obj b9 (Yt eQ),Ze gz 4]/\m=j.toNat) _ _ _ ⟨(1+k4),(Z1.mk 6 0 []),p+1,ob,(fun g=>SE.nil om om om),ob,rfl,rfl,rfl⟩ (wk [0,0,2] fl) ?_))))
 rintro m F h ⟨j,eQ,pq,Y8,Zm,Zo,rfl,rfl,rfl⟩
 refine aq (ar (Z0 2 (ie (ZH (j>0) (fun Zg=>?_) (fun Zg=>?_)))))
 ·refine ak (aq (ab 1 (aE 7 (ZD 5 7 [0,3] [1] (Z8 1 (dc 1 [0] [0] [b9] (HC rd bs pq (Zq:=ob)) ?_))))))
  rintro _ _ ⟨z1,rfl,rfl,YU⟩
  have hz:=YU
  exact Z8 2 (Yf 2 [] [1] [b9] (Kg z1) (Z8 4 (XP 4 [] [] [ZL (Z1.mk 0 z1 []),ZL eQ] (Y3 [Z1.mk 0 z1 [],eQ]) (X9 [Z1.mk 0 z1 [],eQ]).symm 2 3 fun v8=>Y9 2 2 [] [(42,YY [Z1.mk 0 z1 [],eQ])] (Z8 5 (Yf 5 [] [] [] (Xd 6 1 [Z1.mk 0 z1 [],eQ]) (Z8 6 (Yo 6 2 [] [] b9 (Yt (Z1.mk 6 1 [Z1.mk 0 z1 [],eQ])) (de (az (Z0 1 (ia ((j-1)) ((j)-(1)) (Z0 1 (ie (ZG ⟨(j-1),(Z1.mk 6 1 [Z1.mk 0 z1 [],eQ]),pq+4,ob,(fun g=>SE.two om om (SE.int (q:=1) om om) (Zm g) om),ob,rfl,rfl,rfl⟩ (wk [2,0,1] fl)))))))))))))))
 exact ax 0 (ar (Z6 1 [1] (Zy 2 b1 (Yt eQ) (ie (Z9 (r3 [1] [ZL eQ] [0] [(b1,b1)] ⟨eQ,pq,rfl,rfl,⟨fun g=>(⟨(Zm g).1,by have:=(Zm g).2;omega⟩:SE g 9 _),by omega⟩⟩ (lr _)))))))
theorem PK (rd:Nat) (bs:LI) (p:Nat) (g:Xv) (gb:Nat) (rs:List Func) (Zq:∀z∈bs,0<=z/\z<=255) (hp:p+1600<=1000000000:=by exact ob) (hg:GP g:=by exact ob) (XF:g.funcs <+: rs:=by exact ob):Zi 191 [.p rd 0,.agg (XH g gb)] [Y4 rd bs p,Xa gb rs] (fun r h=>∃(e:Z1) (p2:Nat),r=ZL e/\h=[Y4 rd bs p2,Xa gb rs]/\GE g 0 200 e/\p<=p2/\p2<=p+1600):=by
 have hbv:=B3
 refine ZB 27 Tryz.func191 (ar (iA (XH g gb) fun b1=>iA [.i 0,.i 0,nl] fun b2=>ie (ar (Z0 1 (iL (Z7 [1,1,3]) 3 1 fun v1=>ZA 0 [(8,Z5 [1,1,3])] (ic [3] (WA rd bs p [1,1,3] (Zq:=ob)) ?_))))))
 rintro _ _ ⟨z1,rfl,rfl,ZT⟩
 have hz:=J9 (a:=1) (b:=3) ZT (by decide)
 refine Z0 1 (ie (ar (Z6 3 [3] (iL (Z7 [z1]) 1 1 fun v2=>ZA 0 [(13,Z5 [z1])] (ic [1,4] (T7 rd bs (p+1) g gb rs [z1] 0 16 (Zq:=ob) (hv:=(by simp))) ?_)))))
 rintro _ _ ⟨e1,p21,rfl,rfl,Y6⟩
 have YN:=Y6.1
 have T8:=Y6.2
 rw [hbv.2.2.2.1] at YN
 refine iA [.i 0,.i 0,nl] fun b3=>Zy 0 b3 (Yt e1) (ie (aq (ar (Z0 1 (ic [1] (Xs rd bs p21 3 (Zq:=ob)) ?_)))))
 rintro _ _ ⟨k1,rfl,rfl,YA⟩
 have qhp3:=YA.lt om
 refine Z0 1 (ie (Xo (fun fz gz F h=>∃(eQ:Z1),(GE g 1 151 eQ)/\F=sF [0,4,5,6] fz []/\h=[Ze gz 0,.obj b3 (Yt eQ),Ze gz 2,Ze gz 5]) ?_ ?_))
 ·refine ac (k1==0) Zz (fun Za=>?_) (fun Za=>?_)
  ·exact az (Z6 1 [1] (Vj [ZL e1] (Y3 [e1]) (X9 [e1]).symm 1 3 fun v3=>ZA 0 [(19,YY [e1])] (Zr [] (Xd 5 0 [e1]) (Zy 2 b3 (Yt (Z1.mk 5 0 [e1])) (ie (ZF ⟨(Z1.mk 5 0 [e1]),(GE.one om om YN om),rfl,rfl⟩ (wk [2,0,1,3] fl)))))))
  exact ak (ZF ⟨e1,(GE.le YN om),rfl,rfl⟩ (wk [0,0,0,2] fl))
 rintro F h ⟨eQ,TW,rfl,rfl⟩
 refine aD 7 (ZD 4 7 [0,1,3] [1] (Z8 2 (dc 2 [0] [0] [b3] (PH rd bs (p21+1) z1 (Zq:=ob)) ?_)))
 rintro _ _ ⟨e2,p22,rfl,rfl,YJ⟩
 have hli:=YJ.1
 exact Z8 4 (XP 4 [] [] [ZL e2,ZL eQ] (Y3 [e2,eQ]) (X9 [e2,eQ]).symm 2 3 fun v4=>Y9 2 2 [] [(25,YY [e2,eQ])] (Z8 5 (Yf 5 [] [] [] (Xd 13 0 [e2,eQ]) (Z8 6 (Yo 6 4 [] [] b2 (Yt (Z1.mk 13 0 [e2,eQ])) (de (Z9 (r3 [2,3] [ZL (Z1.mk 13 0 [e2,eQ])] [0] [(b2,b2)] ⟨(Z1.mk 13 0 [e2,eQ]),p22,rfl,rfl,⟨GE.letS ((hli g).ge (YI _)) TW om,by omega⟩⟩ (lr _)))))))))
theorem PS (rd:Nat) (bs:LI) (p:Nat) (g:Xv) (gb:Nat) (rs:List Func) (f:Func) (i:Int) (w:Int) (Zq:∀z∈bs,0<=z/\z<=255) (hp:p+1000<=1000000000:=by exact ob) (hg:GP g:=by exact ob) (XF:g.funcs <+: rs:=by exact ob) (hi:0<=i:=by exact ob) (hf:g.funcs[i.toNat]? = some f:=by exact ob) (hw:0<=w/\w<f.params.length:=by exact ob):Zi 192 [.p rd 0,.agg (XH g gb),.i i,.i w] [Y4 rd bs p,Xa gb rs] (fun r h=>∃(e:Z1) (p2:Nat),r=ZL e/\h=[Y4 rd bs p2,Xa gb rs]/\GE g f.params.length 200 e/\p<=p2/\p2<=p+1000):=by
 obtain ⟨hil,_⟩:=Xj.1 hf
 have hgl:=hg.len
 have hso:=(hg.sigs f (ZU hf)).bd
 have hbv:=B3
 refine ZB 136 Tryz.func192 (ar (iA (XH g gb) fun b1=>iA [.i 0,.i 0,nl] fun b2=>ie (ar (Z6 3 [1] (Zn (XB gb g.funcs.length 4 i.toNat 5 i) (Z0 1 (V2 (Wn 3 gb 4 4 5 (i.toNat * 5+0) (Zc (YS rs)) [Z5 f.params] 27 (Z5 f.params) (Vi XF hf 0 rfl (Wf rfl))) (Z0 1 (ie (ar (Z0 1 (iw (Y2 f.params) (Z0 1 (ie (ar (Z0 1 (iL (Z7 [0,1]) 2 1 fun v1=>ZA 0 [(26,Z5 [0,1])] (ic [] (Ti f.params [0,1]) ?_))))))))))))))))))
 rintro _ _ ⟨v2,rfl,rfl⟩
 refine Z0 1 (ie (ar (iL (Y3 []) 0 3 fun v3=>?_)))
 refine Z0 1 (ie (aq (ar (Z0 1 (ie (ab 0 (ZX (fun fz gz m F h=>∃(k:Nat) (ys:List Z1) (u:Value) (pq:Nat),(k<=f.params.length)/\(ys.length=k)/\(∀e∈ys,GE g (f.params.length+2) 3 e)/\(p<=pq/\pq<=p+k)/\F=sF [0,2,3,5,8,9,10] fz [(11,Z5 (f.params++[0,1])),(12,UR ys u),(13,.i k)]/\h=[Ze gz 3,Ze gz 4,Y4 rd bs pq,Ze gz 6,.tail u 3]/\m=f.params.length-k) _ _ _ ⟨0,[],v3,p,ob,ob,(fun e he=>by cases he),ob,rfl,rfl,rfl⟩ (wk [3,3,3,3,0] (fc (x:=ZO (f.params++[0,1]) v2) (Zf.forget _ _) (fr (Y7 fl)))) ?_)))))))
 rintro m F h ⟨k,ys,u,pq,Y8,Zm,Zo,Yq,rfl,rfl,rfl⟩
 refine aq (ar (Z0 3 (ie (ZH ((k:Int)<(f.params.length:Int)) (fun Za=>?_) (fun Za=>?_)))))
 ·refine ak (aq (ab 1 (ar (Z0 3 (ie (ac ((k:Int)==w) Zz (fun Zg=>?_) (fun Zg=>?_)))))))
  ·exact az (Z0 2 (ia (((f.params.length+1:Nat):Int)) (((f.params.length:Int))+(1)) (Zr [] (Uy ((f.params.length+1:Nat):Int)) (Vj [ZL (Z1.mk 12 ((f.params.length+1:Nat):Int) [])] (Y3 [(Z1.mk 12 ((f.params.length+1:Nat):Int) [])]) (X9 [(Z1.mk 12 ((f.params.length+1:Nat):Int) [])]).symm 1 3 fun v4=>ZA 0 [(41,YY [(Z1.mk 12 ((f.params.length+1:Nat):Int) [])])] (ip 5 (Y3 (ys++[(Z1.mk 12 ((f.params.length+1:Nat):Int) [])])) (Y3 ys) (Y3 [(Z1.mk 12 ((f.params.length+1:Nat):Int) [])]) u none 3 (VF _) (VF _) (QC _) (by simp<;>omega) (by simp [QB,Y3]) fun v5=>Z0 1 (ie (az (Z0 1 (ZE k (Z0 1 (ie (ZG ⟨k+1,(ys++[(Z1.mk 12 ((f.params.length+1:Nat):Int) [])]),v5,pq,ob,ob,(YZ Zo (GE.var om om om)),ob,rfl,rfl,rfl⟩ (wk [2,2,2,2,0] (fw (ZI k fl)))))))))))))))
  refine aq (Xo (fun fz gz F h=>∃(wb:Bool) (p5:Nat),(pq<=p5/\p5<=pq+1)/\F=sF [0,2,3,5,8,9,10,11,12,13] fz [(52,.b wb)]/\h=[Ze gz 0,Ze gz 1,Y4 rd bs p5,Ze gz 3,Ze gz 4]) ?_ ?_)
  ·refine az (Z0 2 ?_)
   obtain ⟨x1,Z2⟩:=Zp f.params k om
   refine Zn (Zh none (k:Int) 1 (ZQ Z2)) (Z0 3 (ib (b:=(x1==0)) 48 (fun Zb=>?_) (fun Zb=>?_)))
   ·refine Z0 1 (ic [2] (Xs rd bs pq 2 (Zq:=ob)) ?_)
    rintro _ _ ⟨k1,rfl,rfl,Y6⟩
    have qhp2:=Y6.lt om
    exact Z0 2 (ie (ZF ⟨(k1==0),pq+1,om,rfl,rfl⟩ (wk [1,1,0,0,0] fl)))
   exact Z0 4 (ie (ZF ⟨false,pq,ob,rfl,rfl⟩ (ZP 5 fl)))
  rintro F h ⟨wb,p5,kR10_0,rfl,rfl⟩
  refine ac wb Iff.rfl (fun ZK=>?_) (fun ZK=>?_)
  ·exact az (Z0 2 (Zr [] (Uy (k:Int)) (Z0 1 (Zr [] (Uy (f.params.length:Int)) (Vj [ZL (Z1.mk 12 (k:Int) []),ZL (Z1.mk 12 (f.params.length:Int) [])] (Y3 [(Z1.mk 12 (k:Int) []),(Z1.mk 12 (f.params.length:Int) [])]) (X9 [(Z1.mk 12 (k:Int) []),(Z1.mk 12 (f.params.length:Int) [])]).symm 2 3 fun v6=>ZA 0 [(58,YY [(Z1.mk 12 (k:Int) []),(Z1.mk 12 (f.params.length:Int) [])])] (Zr [] (Xd 1 0 [(Z1.mk 12 (k:Int) []),(Z1.mk 12 (f.params.length:Int) [])]) (Vj [ZL (Z1.mk 1 0 [(Z1.mk 12 (k:Int) []),(Z1.mk 12 (f.params.length:Int) [])])] (Y3 [(Z1.mk 1 0 [(Z1.mk 12 (k:Int) []),(Z1.mk 12 (f.params.length:Int) [])])]) (X9 [(Z1.mk 1 0 [(Z1.mk 12 (k:Int) []),(Z1.mk 12 (f.params.length:Int) [])])]).symm 1 3 fun v7=>ZA 0 [(60,YY [(Z1.mk 1 0 [(Z1.mk 12 (k:Int) []),(Z1.mk 12 (f.params.length:Int) [])])])] (ip 6 (Y3 (ys++[(Z1.mk 1 0 [(Z1.mk 12 (k:Int) []),(Z1.mk 12 (f.params.length:Int) [])])])) (Y3 ys) (Y3 [(Z1.mk 1 0 [(Z1.mk 12 (k:Int) []),(Z1.mk 12 (f.params.length:Int) [])])]) u none 3 (VF _) (VF _) (QC _) (by simp<;>omega) (by simp [QB,Y3]) fun v8=>Z0 1 (ie (az (Z0 1 (ZE k (Z0 1 (ie (ZG ⟨k+1,(ys++[(Z1.mk 1 0 [(Z1.mk 12 (k:Int) []),(Z1.mk 12 (f.params.length:Int) [])])]),v8,p5,ob,ob,(YZ Zo (GE.two (s1:=1) (s2:=1) om om (GE.var om om om) (GE.var om om om) om)),ob,rfl,rfl,rfl⟩ (wk [3,3,3,3,0] (fw (ZI k fl))))))))))))))))))
  exact az (Z0 2 (Zr [] (Uy (k:Int)) (Vj [ZL (Z1.mk 12 (k:Int) [])] (Y3 [(Z1.mk 12 (k:Int) [])]) (X9 [(Z1.mk 12 (k:Int) [])]).symm 1 3 fun v9=>ZA 0 [(65,YY [(Z1.mk 12 (k:Int) [])])] (ip 5 (Y3 (ys++[(Z1.mk 12 (k:Int) [])])) (Y3 ys) (Y3 [(Z1.mk 12 (k:Int) [])]) u none 3 (VF _) (VF _) (QC _) (by simp<;>omega) (by simp [QB,Y3]) fun v10=>Z0 1 (ie (az (Z0 1 (ZE k (Z0 1 (ie (ZG ⟨k+1,(ys++[(Z1.mk 12 (k:Int) [])]),v10,p5,ob,ob,(YZ Zo (GE.var om om om)),ob,rfl,rfl,rfl⟩ (wk [2,2,2,2,0] (fw (ZI k fl))))))))))))))
 refine ax 0 (ar (ZA 2 [(68,YY ys)] (Zr [] (Xd 9 i ys) (iA [.i 0,.i 0,nl] fun b3=>Zy 0 b3 (Yt (Z1.mk 9 i ys)) (ie (ar (Z6 1 [0] (iA [.i 0,.i 0,nl] fun b4=>?_))))))))
 refine Zy 0 b4 (Yt (Z1.mk 9 i ys)) (ie (aq (aq (Xo (fun fz gz F h=>∃(wb:Bool) (p5:Nat),(pq<=p5/\p5<=pq+1)/\F=sF [0,2,3,5,8,9,10,11,14,15] fz [(82,.b wb)]/\h=[Ze gz 0,Ze gz 1,Ze gz 2,Ze gz 3,Y4 rd bs p5,Ze gz 5]) ?_ ?_))))
 ·refine az (Z6 3 [3] (Zn (XB gb g.funcs.length 4 i.toNat 5 i) (Z0 1 (V2 (Wn 5 gb 4 4 5 (i.toNat * 5+1) (Zc (YS rs)) [.i f.result] 3 (.i f.result) (Vi XF hf 1 rfl (Wf rfl))) (Z0 2 (ib (b:=(f.result==1)) 78 (fun ZM=>?_) (fun ZM=>?_)))))))
  ·refine Z0 1 (ic [4] (Xs rd bs pq 5 (Zq:=ob)) ?_)
   rintro _ _ ⟨k2,rfl,rfl,YU⟩
   have qhp5:=YU.lt om
   exact Z0 2 (ie (ZF ⟨(decide (k2>0)),pq+1,ob,rfl,rfl⟩ (wk [1,1,1,1,0,0] fl)))
  exact Z0 4 (ie (ZF ⟨false,pq,ob,rfl,rfl⟩ (ZP 6 fl)))
 rintro F h ⟨wb,p5,kR15_0,rfl,rfl⟩
 refine Xo (fun fz gz F h=>∃(eQ:Z1) (p6:Nat),(GE g (f.params.length+2) 41 eQ)/\(p5<=p6/\p6<=p5+302)/\F=sF [0,2,3,5,8,9,15] fz []/\h=[.obj b4 (Yt eQ),Ze gz 2,Ze gz 3,Y4 rd bs p6,Ze gz 5]) ?_ ?_
 ·refine ac wb Iff.rfl (fun Yi=>?_) (fun Yi=>?_)
  ·refine ar (Z6 3 [3] (ic [4,4] (T7 rd bs p5 g gb rs (f.params++[0,1]) 0 4 (Zq:=ob) (hv:=(by first|omega|(simp only [Yb,Yw,YV];omega)))) ?_))
   rintro _ _ ⟨e1,p21,rfl,rfl,Wd⟩
   have YN:=Wd.1
   have T8:=Wd.2
   try rw [Yb] at YN
   rw [hbv.2.1] at YN
   refine iA [.i 0,.i 0,nl] fun b5=>?_
   refine Zy 0 b5 (Yt e1) (ie (aq (aq (Xo (fun fz gz F h=>∃(wc:Bool),(True)/\F=sF [0,2,3,5,8,9,10,14,15,16] fz [(94,.b wc)]/\h=gz) ?_ ?_))))
   ·refine az (Z0 3 (ib (b:=(decide ((f.params.length:Int)>1))) 89 (fun YT=>?_) (fun YT=>?_)))
    ·refine Z0 1 ?_
     obtain ⟨x2,Zt⟩:=Zp f.params 0 om
     exact Zn (Zh none 0 1 (ZQ Zt)) (Z0 3 (ie (ZF ⟨(x2==2),ob,rfl,rfl⟩ (ZP 7 fl))))
    exact Z0 5 (ie (ZF ⟨false,ob,rfl,rfl⟩ (ZP 7 fl)))
   rintro F h ⟨wc,kR17_0,rfl,rfl⟩
   refine Xo (fun fz gz F h=>∃(eA:Z1),(GE g (f.params.length+2) 30 eA)/\F=sF [0,2,3,5,8,9,14,15,16] fz []/\h=[.obj b5 (Yt eA),Ze gz 1,Ze gz 2,Ze gz 3,Ze gz 4,Ze gz 5,Ze gz 6]) ?_ ?_
   ·refine ac wc Iff.rfl (fun Xt=>?_) (fun Xt=>?_)
    ·exact az (Zr [] (Uy 0) (Z0 1 (Zr [] (Uy (f.params.length:Int)) (Vj [ZL (Z1.mk 12 0 []),ZL (Z1.mk 12 (f.params.length:Int) [])] (Y3 [Z1.mk 12 0 [],(Z1.mk 12 (f.params.length:Int) [])]) (X9 [Z1.mk 12 0 [],(Z1.mk 12 (f.params.length:Int) [])]).symm 2 3 fun v11=>ZA 0 [(98,YY [Z1.mk 12 0 [],(Z1.mk 12 (f.params.length:Int) [])])] (Zr [] (Xd 11 0 [Z1.mk 12 0 [],(Z1.mk 12 (f.params.length:Int) [])]) (Zy 1 b5 (Yt (Z1.mk 11 0 [Z1.mk 12 0 [],(Z1.mk 12 (f.params.length:Int) [])])) (ie (ZF ⟨(Z1.mk 11 0 [Z1.mk 12 0 [],(Z1.mk 12 (f.params.length:Int) [])]),(GE.two (s1:=1) (s2:=1) om om (GE.var om om om) (GE.var om om om) om),rfl,rfl⟩ (wk [0,1,1,1,1,1,1] fl)))))))))
    exact ak (ZF ⟨e1,YN,rfl,rfl⟩ (ZP 7 fl))
   rintro F h ⟨eA,RS,rfl,rfl⟩
   exact az (Z6 2 [0,4] (Vj [ZL eA,ZL (Z1.mk 9 i ys)] (Y3 [eA,Z1.mk 9 i ys]) (X9 [eA,Z1.mk 9 i ys]).symm 2 3 fun v12=>ZA 0 [(102,YY [eA,Z1.mk 9 i ys])] (Zr [] (Xd 6 1 [eA,Z1.mk 9 i ys]) (Zy 4 b4 (Yt (Z1.mk 6 1 [eA,Z1.mk 9 i ys])) (ie (ZF ⟨(Z1.mk 6 1 [eA,Z1.mk 9 i ys]),p21,(GE.two (s1:=30) (s2:=10) om om RS (GE.node (L:=f.params.length) (s:=3) (q:=10) om (fun _=>by omega) om Zo om om om) om),ob,rfl,rfl⟩ (wk [0,5,5,2,2] fl)))))))
  refine ar (Z6 3 [3] (Zn (XB gb g.funcs.length 4 i.toNat 5 i) (Z0 1 (V2 (Wn 5 gb 4 4 5 (i.toNat * 5+1) (Zc (YS rs)) [.i f.result] 3 (.i f.result) (Vi XF hf 1 rfl (Wf rfl))) (Z0 1 (ie (ac (f.result==0) Zz (fun Xu=>?_) (fun Xu=>?_))))))))
  ·refine aE 11 (ZD 6 11 [0,3,4,5,7] [3,1] (Z8 1 (dL 1 [1,3] [b3,b1] (Z7 [1,2]) 2 1 fun v13=>Y9 5 5 [] [(112,Z5 [1,2])] (Z8 2 (dc 2 [5] [1,3] [b3,b1] (WA rd bs p5 [1,2] (Zq:=ob)) ?_)))))
   rintro _ _ ⟨z1,rfl,rfl,UA⟩
   have hz:=J9 (a:=1) (b:=2) UA (by decide)
   refine Z8 6 (dc 6 [0,5] [1] [b3] (T7 rd bs (p5+1) g gb rs (f.params++[0,1]) 0 4 (Zq:=ob) (hv:=(by first|omega|(simp only [Yb,Yw,YV];omega)))) ?_)
   rintro _ _ ⟨e2,p22,rfl,rfl,UN⟩
   have YN:=UN.1
   have T8:=UN.2
   try rw [Yb] at YN
   rw [hbv.2.1] at YN
   exact Z8 8 (XP 8 [] [] [ZL e2,ZL (Z1.mk 9 i ys)] (Y3 [e2,Z1.mk 9 i ys]) (X9 [e2,Z1.mk 9 i ys]).symm 2 3 fun v14=>Y9 2 2 [] [(119,YY [e2,Z1.mk 9 i ys])] (Z8 9 (Yf 9 [] [] [] (Xd z1 0 [e2,Z1.mk 9 i ys]) (Z8 10 (Yo 10 4 [] [] b4 (Yt (Z1.mk z1 0 [e2,Z1.mk 9 i ys])) (de (ZF ⟨(Z1.mk z1 0 [e2,Z1.mk 9 i ys]),p22,(GE.two (s1:=30) (s2:=10) om om YN (GE.node (L:=f.params.length) (s:=3) (q:=10) om (fun _=>by omega) om Zo om om om) om),ob,rfl,rfl⟩ (wk [0,5,5,1,1] fl))))))))
  exact ak (ZF ⟨(Z1.mk 9 i ys),p5,(GE.le (GE.node (L:=f.params.length) (s:=3) (q:=10) om (fun _=>by omega) om Zo om om om) om),ob,rfl,rfl⟩ (wk [0,1,1,1,1] fl))
 rintro F h ⟨eQ,p6,Tb,RR,rfl,rfl⟩
 refine aD 16 (ZD 9 16 [0,2,3,4,5,6,7] [2,2] (dx 8 (XB gb g.funcs.length 4 i.toNat 5 i) (Zj 7 8 [9] (Vb 10 (Wn 4 gb 4 4 5 (i.toNat * 5+1) (Zc (YS rs)) [.i f.result] 3 (.i f.result) (Vi XF hf 1 rfl (Wf rfl))) (ZD 5 6 [12] [0] (Z8 1 (Yf 1 [] [0,4,2,2] [b4,gb,b1,b1] (Uy w) (Z8 11 (dc 11 [3,3] [0] [b4] (T7 rd bs p6 g gb rs f.params f.result 4 (Zq:=ob) (hv:=(by first|omega|(simp only [Yb,Yw,YV];omega)))) ?_)))))))))
 rintro _ _ ⟨e3,p23,rfl,rfl,UB⟩
 have YN:=UB.1
 have T8:=UB.2
 try rw [Yb] at YN
 rw [hbv.2.1] at YN
 exact Z8 13 (XP 13 [] [] [ZL (Z1.mk 12 w []),ZL e3,ZL eQ] (Y3 [Z1.mk 12 w [],e3,eQ]) (X9 [Z1.mk 12 w [],e3,eQ]).symm 3 3 fun v15=>Y9 2 2 [] [(134,YY [Z1.mk 12 w [],e3,eQ])] (Z8 14 (Yf 14 [] [] [] (Xd 8 1 [Z1.mk 12 w [],e3,eQ]) (Z8 15 (Yo 15 4 [] [] b2 (Yt (Z1.mk 8 1 [Z1.mk 12 w [],e3,eQ])) (de (Z9 (r3 [2,2] [ZL (Z1.mk 8 1 [Z1.mk 12 w [],e3,eQ])] [0] [(b2,b2)] ⟨(Z1.mk 8 1 [Z1.mk 12 w [],e3,eQ]),p23,rfl,rfl,⟨GE.matchL hg (s1:=1) (s2:=30) (s3:=41) (GE.var om om om) YN Tb om,by omega⟩⟩ (lr _)))))))))
theorem PT (rd:Nat) (bs:LI) (p:Nat) (g:Xv) (gb:Nat) (rs:List Func) (f:Func) (i:Int) (Zq:∀z∈bs,0<=z/\z<=255) (hp:p+1000<=1000000000:=by exact ob) (hg:GP g:=by exact ob) (XF:g.funcs <+: rs:=by exact ob) (hi:0<=i:=by exact ob) (hf:g.funcs[i.toNat]? = some f:=by exact ob) (h0:0<f.params.length:=by exact ob):Zi 193 [.p rd 0,.agg (XH g gb),.i i] [Y4 rd bs p,Xa gb rs] (fun r h=>∃(e:Z1) (p2:Nat),r=ZL e/\h=[Y4 rd bs p2,Xa gb rs]/\GE g f.params.length 200 e/\p<=p2/\p2<=p+1000):=by
 obtain ⟨hil,_⟩:=Xj.1 hf
 have hgl:=hg.len
 have hso:=(hg.sigs f (ZU hf)).bd
 have hbv:=B3
 refine ZB 96 Tryz.func193 (ar (iA (XH g gb) fun b1=>iA [.i 0,.i 0,nl] fun b2=>ie (ar (Z6 3 [1] (Zn (XB gb g.funcs.length 4 i.toNat 5 i) (Z0 1 (V2 (Wn 3 gb 4 4 5 (i.toNat * 5+0) (Zc (YS rs)) [Z5 f.params] 27 (Z5 f.params) (Vi XF hf 0 rfl (Wf rfl))) (Z0 1 (ie (ar (Z0 1 (iw (Y2 f.params) (Z0 1 (ie (ar (Z0 1 (Zr [] (Uy (f.params.length:Int)) (Vj [ZL (Z1.mk 12 (f.params.length:Int) [])] (Y3 [(Z1.mk 12 (f.params.length:Int) [])]) (X9 [(Z1.mk 12 (f.params.length:Int) [])]).symm 1 3 fun v1=>Z0 1 (ie (ar (Z0 1 (ia (((f.params.length+2:Nat):Int)) (((f.params.length:Int))+(2)) (Zr [] (Uy ((f.params.length+2:Nat):Int)) (Vj [ZL (Z1.mk 12 ((f.params.length+2:Nat):Int) [])] (Y3 [(Z1.mk 12 ((f.params.length+2:Nat):Int) [])]) (X9 [(Z1.mk 12 ((f.params.length+2:Nat):Int) [])]).symm 1 3 fun v2=>?_))))))))))))))))))))))))
 refine Z0 1 (ie (aq (ar (Z0 1 (ie (ab 0 (ZX (fun fz gz m F h=>∃(k:Nat) (ys:List Z1) (u:Value) (zs:List Z1) (w:Value),(1<=k/\k<=f.params.length)/\(ys.length=k)/\(zs.length=k)/\(∀e∈ys,GE g (f.params.length+3) 1 e)/\(∀e∈zs,GE g (f.params.length+3) 1 e)/\F=sF [0,2,4,6,7,8] fz [(9,UR ys u),(10,UR zs w),(11,.i k)]/\h=[Ze gz 2,Ze gz 3,Ze gz 4,Ze gz 5,.tail u 3,.tail w 3]/\m=f.params.length-k) _ _ _ ⟨1,[(Z1.mk 12 (f.params.length:Int) [])],v1,[(Z1.mk 12 ((f.params.length+2:Nat):Int) [])],v2,ob,ob,ob,(DT (GE.var om om om)),(DT (GE.var om om om)),rfl,rfl,rfl⟩ (wk [2,2,2,2,1,0] (fw (fc (x:=.i 1) li fl))) ?_)))))))
 rintro m F h ⟨k,ys,u,zs,w,Y8,Zm,Zo,Yq,XK,rfl,rfl,rfl⟩
 refine aq (ar (Z0 3 (ie (ZH ((k:Int)<(f.params.length:Int)) (fun Za=>?_) (fun Za=>?_)))))
 ·exact ak (aq (ab 1 (ar (Z0 2 (Zr [] (Uy (k:Int)) (Vj [ZL (Z1.mk 12 (k:Int) [])] (Y3 [(Z1.mk 12 (k:Int) [])]) (X9 [(Z1.mk 12 (k:Int) [])]).symm 1 3 fun v3=>ZA 0 [(38,YY [(Z1.mk 12 (k:Int) [])])] (ip 5 (Y3 (ys++[(Z1.mk 12 (k:Int) [])])) (Y3 ys) (Y3 [(Z1.mk 12 (k:Int) [])]) u none 3 (VF _) (VF _) (QC _) (by simp<;>omega) (by simp [QB,Y3]) fun v4=>Z0 1 (ie (az (Z0 2 (Zr [] (Uy (k:Int)) (Vj [ZL (Z1.mk 12 (k:Int) [])] (Y3 [(Z1.mk 12 (k:Int) [])]) (X9 [(Z1.mk 12 (k:Int) [])]).symm 1 3 fun v5=>ZA 0 [(43,YY [(Z1.mk 12 (k:Int) [])])] (ip 7 (Y3 (zs++[(Z1.mk 12 (k:Int) [])])) (Y3 zs) (Y3 [(Z1.mk 12 (k:Int) [])]) w none 3 (VF _) (VF _) (QC _) (by simp<;>omega) (by simp [QB,Y3]) fun v6=>Z0 1 (ie (az (Z0 1 (ZE k (Z0 1 (ie (ZG ⟨k+1,(ys++[(Z1.mk 12 (k:Int) [])]),v4,(zs++[(Z1.mk 12 (k:Int) [])]),v6,ob,ob,ob,(YZ Yq (GE.var om om om)),(YZ XK (GE.var om om om)),rfl,rfl,rfl⟩ (wk [4,4,4,4,2,0] (fw (ZI k fl)))))))))))))))))))))))
 refine ax 0 (ar (ZA 2 [(46,YY ys)] (Zr [] (Xd 9 i ys) (iA [.i 0,.i 0,nl] fun b3=>Zy 0 b3 (Yt (Z1.mk 9 i ys)) (ie (ar (ZA 2 [(49,YY zs)] (Zr [] (Xd 9 i zs) (iA [.i 0,.i 0,nl] fun b4=>?_)))))))))
 refine Zy 0 b4 (Yt (Z1.mk 9 i zs)) (ie (aD 14 (ZD 9 14 [0,1,2,3,7] [1,3,0] (K5 (fun fz gz F h=>∃(e1:Z1) (p21:Nat) (b5:Nat),(GE g (f.params++[3,0,3]).length (bS 4) e1/\p<=p21/\p21<=p+bC 4)/\F=sF [0,2,4,6,7,8,12] fz [(14,.p b5 0)]/\h=[.obj b5 (Yt (Z1.mk 1 0 [Z1.mk 9 i ys,Z1.mk 1 0 [e1,Z1.mk 9 i zs]])),Y4 rd bs p21,Ze gz 5,Ze gz 0,Ze gz 1,Ze gz 2,Ze gz 3,Ze gz 6,Ze gz 7]) ?_ ?_))))
 ·refine WC 4 12 ?_ ?_
  ·refine dL 4 [0,3,1] [b4,b1,b3] (Z7 [3,0,3]) 3 1 fun v7=>Y9 8 8 [] [(55,Z5 [3,0,3])] (WC 5 12 ?_ ?_)
   ·refine dc 5 [] [0,3,1] [b4,b1,b3] (Ti f.params [3,0,3]) ?_
    rintro _ _ ⟨v8,rfl,rfl⟩
    refine Y9 7 7 [] [(56,Z5 (f.params++[3,0,3]))] (WC 6 12 ?_ ?_)
    ·refine dc 6 [6,6] [0,1] [b4,b3] (T7 rd bs p g gb rs (f.params++[3,0,3]) 0 4 (Zq:=ob) (hv:=(by first|omega|(simp only [Yb,Yw,YV];omega)))) ?_
     rintro _ _ ⟨e1,p21,rfl,rfl,ZT⟩
     have YN:=ZT.1
     have T8:=ZT.2
     try rw [Yb] at YN
     rw [hbv.2.1] at YN
     refine WC 8 12 ?_ ?_
     ·refine XP 8 [3] [b3] [ZL e1,ZL (Z1.mk 9 i zs)] (Y3 [e1,Z1.mk 9 i zs]) (X9 [e1,Z1.mk 9 i zs]).symm 2 3 fun v9=>Y9 5 5 [] [(59,YY [e1,Z1.mk 9 i zs])] (WC 9 12 ?_ ?_)
      ·refine Yf 9 [] [3] [b3] (Xd 1 0 [e1,Z1.mk 9 i zs]) (WC 10 12 ?_ ?_)
       ·refine XP 10 [] [] [ZL (Z1.mk 9 i ys),ZL (Z1.mk 1 0 [e1,Z1.mk 9 i zs])] (Y3 [Z1.mk 9 i ys,Z1.mk 1 0 [e1,Z1.mk 9 i zs]]) (X9 [Z1.mk 9 i ys,Z1.mk 1 0 [e1,Z1.mk 9 i zs]]).symm 2 3 fun v10=>Y9 3 3 [] [(61,YY [Z1.mk 9 i ys,Z1.mk 1 0 [e1,Z1.mk 9 i zs]])] (WC 11 12 ?_ ?_)
        ·exact Yf 11 [] [] [] (Xd 1 0 [Z1.mk 9 i ys,Z1.mk 1 0 [e1,Z1.mk 9 i zs]]) (Z8 12 (dA 12 [] [] [.i 0,.i 0,nl] fun b5=>Z8 13 (Yo 13 0 [] [] b5 (Yt (Z1.mk 1 0 [Z1.mk 9 i ys,Z1.mk 1 0 [e1,Z1.mk 9 i zs]])) (de (ZF ⟨e1,p21,b5,(by assumption),rfl,rfl⟩ (wk [0,2,2,4,4,4,4,4,4] fl))))))
        exact dA 12 [] [] [.i 0,.i 0,nl] fun b6=>Z8 11 (Yf 11 [] [] [] (Xd 1 0 [Z1.mk 9 i ys,Z1.mk 1 0 [e1,Z1.mk 9 i zs]]) (Z8 13 (Yo 13 0 [] [] b6 (Yt (Z1.mk 1 0 [Z1.mk 9 i ys,Z1.mk 1 0 [e1,Z1.mk 9 i zs]])) (de (ZF ⟨e1,p21,b6,(by assumption),rfl,rfl⟩ (wk [0,2,2,4,4,4,4,4,4] fl))))))
       exact dA 12 [3] [b3] [.i 0,.i 0,nl] fun b7=>Z8 10 (XP 10 [] [] [ZL (Z1.mk 9 i ys),ZL (Z1.mk 1 0 [e1,Z1.mk 9 i zs])] (Y3 [Z1.mk 9 i ys,Z1.mk 1 0 [e1,Z1.mk 9 i zs]]) (X9 [Z1.mk 9 i ys,Z1.mk 1 0 [e1,Z1.mk 9 i zs]]).symm 2 3 fun v11=>Y9 2 2 [] [(61,YY [Z1.mk 9 i ys,Z1.mk 1 0 [e1,Z1.mk 9 i zs]])] (Z8 11 (Yf 11 [] [] [] (Xd 1 0 [Z1.mk 9 i ys,Z1.mk 1 0 [e1,Z1.mk 9 i zs]]) (Z8 13 (Yo 13 1 [] [] b7 (Yt (Z1.mk 1 0 [Z1.mk 9 i ys,Z1.mk 1 0 [e1,Z1.mk 9 i zs]])) (de (ZF ⟨e1,p21,b7,(by assumption),rfl,rfl⟩ (wk [0,2,2,4,4,4,4,4,4] fl))))))))
      exact dA 12 [3] [b3] [.i 0,.i 0,nl] fun b8=>Z8 9 (Yf 9 [] [4] [b3] (Xd 1 0 [e1,Z1.mk 9 i zs]) (Z8 10 (XP 10 [] [] [ZL (Z1.mk 9 i ys),ZL (Z1.mk 1 0 [e1,Z1.mk 9 i zs])] (Y3 [Z1.mk 9 i ys,Z1.mk 1 0 [e1,Z1.mk 9 i zs]]) (X9 [Z1.mk 9 i ys,Z1.mk 1 0 [e1,Z1.mk 9 i zs]]).symm 2 3 fun v12=>Y9 2 2 [] [(61,YY [Z1.mk 9 i ys,Z1.mk 1 0 [e1,Z1.mk 9 i zs]])] (Z8 11 (Yf 11 [] [] [] (Xd 1 0 [Z1.mk 9 i ys,Z1.mk 1 0 [e1,Z1.mk 9 i zs]]) (Z8 13 (Yo 13 1 [] [] b8 (Yt (Z1.mk 1 0 [Z1.mk 9 i ys,Z1.mk 1 0 [e1,Z1.mk 9 i zs]])) (de (ZF ⟨e1,p21,b8,(by assumption),rfl,rfl⟩ (wk [0,2,2,4,4,4,4,4,4] fl))))))))))
     exact dA 12 [2,3] [b4,b3] [.i 0,.i 0,nl] fun b9=>Z8 8 (XP 8 [4] [b3] [ZL e1,ZL (Z1.mk 9 i zs)] (Y3 [e1,Z1.mk 9 i zs]) (X9 [e1,Z1.mk 9 i zs]).symm 2 3 fun v13=>Y9 4 4 [] [(59,YY [e1,Z1.mk 9 i zs])] (Z8 9 (Yf 9 [] [4] [b3] (Xd 1 0 [e1,Z1.mk 9 i zs]) (Z8 10 (XP 10 [] [] [ZL (Z1.mk 9 i ys),ZL (Z1.mk 1 0 [e1,Z1.mk 9 i zs])] (Y3 [Z1.mk 9 i ys,Z1.mk 1 0 [e1,Z1.mk 9 i zs]]) (X9 [Z1.mk 9 i ys,Z1.mk 1 0 [e1,Z1.mk 9 i zs]]).symm 2 3 fun v14=>Y9 2 2 [] [(61,YY [Z1.mk 9 i ys,Z1.mk 1 0 [e1,Z1.mk 9 i zs]])] (Z8 11 (Yf 11 [] [] [] (Xd 1 0 [Z1.mk 9 i ys,Z1.mk 1 0 [e1,Z1.mk 9 i zs]]) (Z8 13 (Yo 13 2 [] [] b9 (Yt (Z1.mk 1 0 [Z1.mk 9 i ys,Z1.mk 1 0 [e1,Z1.mk 9 i zs]])) (de (ZF ⟨e1,p21,b9,(by assumption),rfl,rfl⟩ (wk [0,2,2,4,4,4,4,4,4] fl))))))))))))
    refine dA 12 [0,3,1] [b4,b1,b3] [.i 0,.i 0,nl] fun b10=>Z8 6 (dc 6 [7,7] [1,2] [b4,b3] (T7 rd bs p g gb rs (f.params++[3,0,3]) 0 4 (Zq:=ob) (hv:=(by first|omega|(simp only [Yb,Yw,YV];omega)))) ?_)
    rintro _ _ ⟨e2,p22,rfl,rfl,Y6⟩
    have YN:=Y6.1
    have T8:=Y6.2
    try rw [Yb] at YN
    rw [hbv.2.1] at YN
    exact Z8 8 (XP 8 [4] [b3] [ZL e2,ZL (Z1.mk 9 i zs)] (Y3 [e2,Z1.mk 9 i zs]) (X9 [e2,Z1.mk 9 i zs]).symm 2 3 fun v15=>Y9 4 4 [] [(59,YY [e2,Z1.mk 9 i zs])] (Z8 9 (Yf 9 [] [4] [b3] (Xd 1 0 [e2,Z1.mk 9 i zs]) (Z8 10 (XP 10 [] [] [ZL (Z1.mk 9 i ys),ZL (Z1.mk 1 0 [e2,Z1.mk 9 i zs])] (Y3 [Z1.mk 9 i ys,Z1.mk 1 0 [e2,Z1.mk 9 i zs]]) (X9 [Z1.mk 9 i ys,Z1.mk 1 0 [e2,Z1.mk 9 i zs]]).symm 2 3 fun v16=>Y9 2 2 [] [(61,YY [Z1.mk 9 i ys,Z1.mk 1 0 [e2,Z1.mk 9 i zs]])] (Z8 11 (Yf 11 [] [] [] (Xd 1 0 [Z1.mk 9 i ys,Z1.mk 1 0 [e2,Z1.mk 9 i zs]]) (Z8 13 (Yo 13 4 [] [] b10 (Yt (Z1.mk 1 0 [Z1.mk 9 i ys,Z1.mk 1 0 [e2,Z1.mk 9 i zs]])) (de (ZF ⟨e2,p22,b10,(by assumption),rfl,rfl⟩ (wk [0,2,2,4,4,4,4,4,4] fl))))))))))))
   refine dA 12 [0,3,1] [b4,b1,b3] [.i 0,.i 0,nl] fun b11=>Z8 5 (dc 5 [] [1,4,2] [b4,b1,b3] (Ti f.params [3,0,3]) ?_)
   rintro _ _ ⟨v17,rfl,rfl⟩
   refine Y9 6 6 [] [(56,Z5 (f.params++[3,0,3]))] (Z8 6 (dc 6 [7,7] [1,2] [b4,b3] (T7 rd bs p g gb rs (f.params++[3,0,3]) 0 4 (Zq:=ob) (hv:=(by first|omega|(simp only [Yb,Yw,YV];omega)))) ?_))
   rintro _ _ ⟨e3,p23,rfl,rfl,YA⟩
   have YN:=YA.1
   have T8:=YA.2
   try rw [Yb] at YN
   rw [hbv.2.1] at YN
   exact Z8 8 (XP 8 [4] [b3] [ZL e3,ZL (Z1.mk 9 i zs)] (Y3 [e3,Z1.mk 9 i zs]) (X9 [e3,Z1.mk 9 i zs]).symm 2 3 fun v18=>Y9 4 4 [] [(59,YY [e3,Z1.mk 9 i zs])] (Z8 9 (Yf 9 [] [4] [b3] (Xd 1 0 [e3,Z1.mk 9 i zs]) (Z8 10 (XP 10 [] [] [ZL (Z1.mk 9 i ys),ZL (Z1.mk 1 0 [e3,Z1.mk 9 i zs])] (Y3 [Z1.mk 9 i ys,Z1.mk 1 0 [e3,Z1.mk 9 i zs]]) (X9 [Z1.mk 9 i ys,Z1.mk 1 0 [e3,Z1.mk 9 i zs]]).symm 2 3 fun v19=>Y9 2 2 [] [(61,YY [Z1.mk 9 i ys,Z1.mk 1 0 [e3,Z1.mk 9 i zs]])] (Z8 11 (Yf 11 [] [] [] (Xd 1 0 [Z1.mk 9 i ys,Z1.mk 1 0 [e3,Z1.mk 9 i zs]]) (Z8 13 (Yo 13 5 [] [] b11 (Yt (Z1.mk 1 0 [Z1.mk 9 i ys,Z1.mk 1 0 [e3,Z1.mk 9 i zs]])) (de (ZF ⟨e3,p23,b11,(by assumption),rfl,rfl⟩ (wk [0,2,2,4,4,4,4,4,4] fl))))))))))))
  refine dA 12 [0,3,1] [b4,b1,b3] [.i 0,.i 0,nl] fun b12=>Z8 4 (dL 4 [1,4,2] [b4,b1,b3] (Z7 [3,0,3]) 3 1 fun v20=>Y9 7 7 [] [(55,Z5 [3,0,3])] (Z8 5 (dc 5 [] [1,4,2] [b4,b1,b3] (Ti f.params [3,0,3]) ?_)))
  rintro _ _ ⟨v21,rfl,rfl⟩
  refine Y9 6 6 [] [(56,Z5 (f.params++[3,0,3]))] (Z8 6 (dc 6 [7,7] [1,2] [b4,b3] (T7 rd bs p g gb rs (f.params++[3,0,3]) 0 4 (Zq:=ob) (hv:=(by first|omega|(simp only [Yb,Yw,YV];omega)))) ?_))
  rintro _ _ ⟨e4,p24,rfl,rfl,YJ⟩
  have YN:=YJ.1
  have T8:=YJ.2
  try rw [Yb] at YN
  rw [hbv.2.1] at YN
  exact Z8 8 (XP 8 [4] [b3] [ZL e4,ZL (Z1.mk 9 i zs)] (Y3 [e4,Z1.mk 9 i zs]) (X9 [e4,Z1.mk 9 i zs]).symm 2 3 fun v22=>Y9 4 4 [] [(59,YY [e4,Z1.mk 9 i zs])] (Z8 9 (Yf 9 [] [4] [b3] (Xd 1 0 [e4,Z1.mk 9 i zs]) (Z8 10 (XP 10 [] [] [ZL (Z1.mk 9 i ys),ZL (Z1.mk 1 0 [e4,Z1.mk 9 i zs])] (Y3 [Z1.mk 9 i ys,Z1.mk 1 0 [e4,Z1.mk 9 i zs]]) (X9 [Z1.mk 9 i ys,Z1.mk 1 0 [e4,Z1.mk 9 i zs]]).symm 2 3 fun v23=>Y9 2 2 [] [(61,YY [Z1.mk 9 i ys,Z1.mk 1 0 [e4,Z1.mk 9 i zs]])] (Z8 11 (Yf 11 [] [] [] (Xd 1 0 [Z1.mk 9 i ys,Z1.mk 1 0 [e4,Z1.mk 9 i zs]]) (Z8 13 (Yo 13 6 [] [] b12 (Yt (Z1.mk 1 0 [Z1.mk 9 i ys,Z1.mk 1 0 [e4,Z1.mk 9 i zs]])) (de (ZF ⟨e4,p24,b12,(by assumption),rfl,rfl⟩ (wk [0,2,2,4,4,4,4,4,4] fl))))))))))))
 rintro F h ⟨e1,p21,b5,ZT,rfl,rfl⟩
 have YN:=ZT.1
 have T8:=ZT.2
 try rw [Yb] at YN
 rw [hbv.2.1] at YN
 refine aq (ar (Z6 3 [6] (Zn (XB gb g.funcs.length 4 i.toNat 5 i) (Z0 1 (V2 (Wn 2 gb 4 4 5 (i.toNat * 5+1) (Zc (YS rs)) [.i f.result] 3 (.i f.result) (Vi XF hf 1 rfl (Wf rfl))) (Z0 1 (ie (Xo (fun fz gz F h=>∃(eQ:Z1) (p6:Nat),(GE g (f.params.length+3) 52 eQ)/\(p<=p6/\p6<=p+650)/\F=sF [0,2,4,6,7,14] fz []/\h=[.obj b5 (Yt eQ),Y4 rd bs p6,Ze gz 2,Ze gz 5,Ze gz 6]) ?_ ?_))))))))
 ·refine ac (f.result==3) Zz (fun Zg=>?_) (fun Zg=>?_)
  ·refine aE 13 (ZD 8 13 [0,1,2,3,7] [4,6] (da 8 (((f.params.length+2:Nat):Int)) (((f.params.length:Int))+(2)) (Z8 4 (dL 4 [6,4] [b1,b3] (Z7 [3,0,3]) 3 1 fun v24=>Y9 6 6 [] [(74,Z5 [3,0,3])] (Z8 5 (dc 5 [] [6,4] [b1,b3] (Ti f.params [3,0,3]) ?_))))))
   rintro _ _ ⟨v25,rfl,rfl⟩
   refine Y9 5 5 [] [(75,Z5 (f.params++[3,0,3]))] (Z8 6 (dc 6 [3,3] [2] [b3] (T7 rd bs p21 g gb rs (f.params++[3,0,3]) 0 4 (Zq:=ob) (hv:=(by first|omega|(simp only [Yb,Yw,YV];omega)))) ?_))
   rintro _ _ ⟨e5,p25,rfl,rfl,YU⟩
   have YN:=YU.1
   have T8:=YU.2
   try rw [Yb] at YN
   rw [hbv.2.1] at YN
   exact Z8 9 (Yf 9 [] [4] [b3] (Uy ((f.params.length+2:Nat):Int)) (Z8 10 (XP 10 [] [] [ZL (Z1.mk 9 i ys),ZL e5,ZL (Z1.mk 12 ((f.params.length+2:Nat):Int) [])] (Y3 [Z1.mk 9 i ys,e5,(Z1.mk 12 ((f.params.length+2:Nat):Int) [])]) (X9 [Z1.mk 9 i ys,e5,(Z1.mk 12 ((f.params.length+2:Nat):Int) [])]).symm 3 3 fun v26=>Y9 2 2 [] [(80,YY [Z1.mk 9 i ys,e5,(Z1.mk 12 ((f.params.length+2:Nat):Int) [])])] (Z8 11 (Yf 11 [] [] [] (Xd 6 3 [Z1.mk 9 i ys,e5,(Z1.mk 12 ((f.params.length+2:Nat):Int) [])]) (Z8 12 (Yo 12 5 [] [] b5 (Yt (Z1.mk 6 3 [Z1.mk 9 i ys,e5,(Z1.mk 12 ((f.params.length+2:Nat):Int) [])])) (de (ZF ⟨(Z1.mk 6 3 [Z1.mk 9 i ys,e5,(Z1.mk 12 ((f.params.length+2:Nat):Int) [])]),p25,(GE.three (s1:=10) (s2:=30) (s3:=1) om om (GE.node (L:=f.params.length) (s:=1) (q:=10) om (fun _=>by omega) om Yq om om om) YN (GE.var om om om) om),ob,rfl,rfl⟩ (wk [0,1,1,5,5] fl))))))))))
  exact ak (ZF ⟨(Z1.mk 1 0 [Z1.mk 9 i ys,Z1.mk 1 0 [e1,Z1.mk 9 i zs]]),p21,(GE.two (s1:=10) (s2:=41) om om (GE.node (L:=f.params.length) (s:=1) (q:=10) om (fun _=>by omega) om Yq om om om) (GE.two (s1:=30) (s2:=10) om om YN (GE.node (L:=f.params.length) (s:=1) (q:=10) om (fun _=>by omega) om XK om om om) om) om),ob,rfl,rfl⟩ (wk [0,0,0,2,2] fl))
 rintro F h ⟨eQ,p6,WP,Km,rfl,rfl⟩
 refine aD 15 (ZD 9 15 [1,2,3,4,5,6] [4,4] (dx 7 (XB gb g.funcs.length 4 i.toNat 5 i) (Zj 7 8 [8] (Vb 9 (Wn 2 gb 4 4 5 (i.toNat * 5+1) (Zc (YS rs)) [.i f.result] 3 (.i f.result) (Vi XF hf 1 rfl (Wf rfl))) (ZD 5 6 [11] [0] (Z8 0 (Yf 0 [] [0,2,4,4] [b5,gb,b1,b1] (Uy 0) (Z8 10 (dc 10 [1,1] [0] [b5] (T7 rd bs p6 g gb rs f.params f.result 4 (Zq:=ob) (hv:=(by first|omega|(simp only [Yb,Yw,YV];omega)))) ?_)))))))))
 rintro _ _ ⟨e6,p26,rfl,rfl,XI⟩
 have YN:=XI.1
 have T8:=XI.2
 try rw [Yb] at YN
 rw [hbv.2.1] at YN
 exact Z8 12 (XP 12 [] [] [ZL (Z1.mk 12 0 []),ZL e6,ZL eQ] (Y3 [Z1.mk 12 0 [],e6,eQ]) (X9 [Z1.mk 12 0 [],e6,eQ]).symm 3 3 fun v27=>Y9 2 2 [] [(94,YY [Z1.mk 12 0 [],e6,eQ])] (Z8 13 (Yf 13 [] [] [] (Xd 8 3 [Z1.mk 12 0 [],e6,eQ]) (Z8 14 (Yo 14 4 [] [] b2 (Yt (Z1.mk 8 3 [Z1.mk 12 0 [],e6,eQ])) (de (Z9 (r3 [2,2] [ZL (Z1.mk 8 3 [Z1.mk 12 0 [],e6,eQ])] [0] [(b2,b2)] ⟨(Z1.mk 8 3 [Z1.mk 12 0 [],e6,eQ]),p26,rfl,rfl,⟨GE.matchT hg (s1:=1) (s2:=30) (s3:=52) (GE.var om om om) YN WP om,by omega⟩⟩ (lr _)))))))))
theorem Pq (rd:Nat) (bs:LI) (p:Nat) (g:Xv) (gb:Nat) (rs:List Func) (f:Func) (i:Int) (Zq:∀z∈bs,0<=z/\z<=255) (hp:p+1000<=1000000000:=by exact ob) (hg:GP g:=by exact ob) (XF:g.funcs <+: rs:=by exact ob) (hi:0<=i:=by exact ob) (hf:g.funcs[i.toNat]? = some f:=by exact ob) (h0:0<f.params.length:=by exact ob):Zi 194 [.p rd 0,.agg (XH g gb),.i i] [Y4 rd bs p,Xa gb rs] (fun r h=>∃(e:Z1) (p2:Nat),r=ZL e/\h=[Y4 rd bs p2,Xa gb rs]/\GE g f.params.length 200 e/\p<=p2/\p2<=p+1000):=by
 obtain ⟨hil,_⟩:=Xj.1 hf
 have hgl:=hg.len
 have hso:=(hg.sigs f (ZU hf)).bd
 have hbv:=B3
 refine ZB 75 Tryz.func194 (ar (iA (XH g gb) fun b1=>iA [.i 0,.i 0,nl] fun b2=>ie (ar (Z6 3 [1] (Zn (XB gb g.funcs.length 4 i.toNat 5 i) (Z0 1 (V2 (Wn 3 gb 4 4 5 (i.toNat * 5+0) (Zc (YS rs)) [Z5 f.params] 27 (Z5 f.params) (Vi XF hf 0 rfl (Wf rfl))) (Z0 1 (ie (ar (Zr [] (Uy 0) (Zr [] (Kg 1) (Vj [ZL (Z1.mk 12 0 []),ZL (Z1.mk 0 1 [])] (Y3 [Z1.mk 12 0 [],Z1.mk 0 1 []]) (X9 [Z1.mk 12 0 [],Z1.mk 0 1 []]).symm 2 3 fun v1=>ZA 0 [(20,YY [Z1.mk 12 0 [],Z1.mk 0 1 []])] (Zr [] (Xd 2 0 [Z1.mk 12 0 [],Z1.mk 0 1 []]) (Vj [ZL (Z1.mk 2 0 [Z1.mk 12 0 [],Z1.mk 0 1 []])] (Y3 [Z1.mk 2 0 [Z1.mk 12 0 [],Z1.mk 0 1 []]]) (X9 [Z1.mk 2 0 [Z1.mk 12 0 [],Z1.mk 0 1 []]]).symm 1 3 fun v2=>?_)))))))))))))))
 refine Z0 1 (ie (aq (ar (Z0 1 (ie (ab 0 (ZX (fun fz gz m F h=>∃(k:Nat) (ys:List Z1) (u:Value) (pq:Nat),(1<=k/\k<=f.params.length)/\(ys.length=k)/\(∀e∈ys,GE g f.params.length 4 e)/\(p<=pq/\pq<=p+30*k)/\F=sF [0,2,4,6,7] fz [(8,UR ys u),(9,.i k)]/\h=[Ze gz 2,Ze gz 3,Y4 rd bs pq,Ze gz 5,.tail u 3]/\m=f.params.length-k) _ _ _ ⟨1,[Z1.mk 2 0 [Z1.mk 12 0 [],Z1.mk 0 1 []]],v2,p,ob,ob,(DT (GE.two (s1:=1) (s2:=1) om om (GE.var om om om) (GE.int om om) om)),ob,rfl,rfl,rfl⟩ (wk [2,2,2,2,0] (fr (fc (x:=.i 1) li fl))) ?_)))))))
 rintro m F h ⟨k,ys,u,pq,Y8,Zm,Zo,Yq,rfl,rfl,rfl⟩
 refine aq (ar (Z0 2 (iw (Y2 f.params) (Z0 1 (ie (ZH ((k:Int)<(f.params.length:Int)) (fun Za=>?_) (fun Za=>?_)))))))
 ·refine ak (aq (ab 1 (aE 12 (ZD 6 12 [0,1,2,3,4,5] [1] ?_))))
  obtain ⟨x1,Z2⟩:=Zp f.params k om
  refine dx 6 (Zh none (k:Int) 1 (ZQ Z2)) (Zj 4 5 [7] (Z8 8 (dc 8 [2,2] [] [] (Ar rd bs pq g gb rs f.params x1 (Zq:=ob)) ?_)))
  rintro _ _ ⟨e1,p21,rfl,rfl,ZT⟩
  have hle:=ZT.1
  exact Z8 9 (XP 9 [] [] [ZL e1] (Y3 [e1]) (X9 [e1]).symm 1 3 fun v3=>Y9 2 2 [] [(38,YY [e1])] (Z8 10 (dp 10 5 [] [] (Y3 (ys++[e1])) (Y3 ys) (Y3 [e1]) u none 3 (VF _) (VF _) (QC _) (by simp<;>omega) (by simp [QB,Y3]) fun v4=>Zj 0 1 [11] (de (az (Z0 1 (ZE k (Z0 1 (ie (ZG ⟨k+1,(ys++[e1]),v4,p21,ob,ob,(YZ Zo hle),ob,rfl,rfl,rfl⟩ (wk [4,4,2,2,0] (fr (ZI k fl)))))))))))))
 refine ax 0 (ar (ZA 2 [(41,YY ys)] (Zr [] (Xd 9 i ys) (iA [.i 0,.i 0,nl] fun b3=>?_))))
 refine Zy 0 b3 (Yt (Z1.mk 9 i ys)) (ie (aq (ar (Z6 3 [2] (Zn (XB gb g.funcs.length 4 i.toNat 5 i) (Z0 1 (V2 (Wn 4 gb 4 4 5 (i.toNat * 5+1) (Zc (YS rs)) [.i f.result] 3 (.i f.result) (Vi XF hf 1 rfl (Wf rfl))) (Z0 1 (ie (Xo (fun fz gz F h=>∃(eQ:Z1) (p6:Nat),(GE g f.params.length 34 eQ)/\(p<=p6/\p6<=p+350)/\F=sF [0,2,4,6,7,10] fz []/\h=[.obj b3 (Yt eQ),Ze gz 1,Ze gz 2,Y4 rd bs p6,Ze gz 4]) ?_ ?_))))))))))
 ·refine ac (f.result==1) Zz (fun Zg=>?_) (fun Zg=>?_)
  ·refine aE 8 (ZD 4 8 [0,1,2,4] [2,0] (Z8 3 (dc 3 [3,3] [0] [b3] (T7 rd bs pq g gb rs f.params 0 3 (Zq:=ob)) ?_)))
   rintro _ _ ⟨e2,p22,rfl,rfl,Y6⟩
   have YN:=Y6.1
   have T8:=Y6.2
   try rw [Yb] at YN
   first|rw [hbv.2.1] at YN|rw [hbv.1] at YN
   exact Z8 5 (XP 5 [] [] [ZL e2,ZL (Z1.mk 9 i ys)] (Y3 [e2,Z1.mk 9 i ys]) (X9 [e2,Z1.mk 9 i ys]).symm 2 3 fun v5=>Y9 2 2 [] [(55,YY [e2,Z1.mk 9 i ys])] (Z8 6 (Yf 6 [] [] [] (Xd 6 1 [e2,Z1.mk 9 i ys]) (Z8 7 (Yo 7 3 [] [] b3 (Yt (Z1.mk 6 1 [e2,Z1.mk 9 i ys])) (de (ZF ⟨(Z1.mk 6 1 [e2,Z1.mk 9 i ys]),p22,(GE.two (s1:=20) (s2:=13) om om YN (GE.node (L:=f.params.length) (s:=4) (q:=13) om (fun _=>by omega) om Zo om om om) om),ob,rfl,rfl⟩ (wk [0,3,3,1,1] fl))))))))
  exact ak (ZF ⟨(Z1.mk 9 i ys),pq,(GE.le (GE.node (L:=f.params.length) (s:=4) (q:=13) om (fun _=>by omega) om Zo om om om) om),ob,rfl,rfl⟩ (ZP 5 fl))
 rintro F h ⟨eQ,p6,WP,Km,rfl,rfl⟩
 refine ar (Zr [] (Kg 0) (Zr [] (Uy 0) (Vj [ZL (Z1.mk 0 0 []),ZL (Z1.mk 12 0 [])] (Y3 [Z1.mk 0 0 [],Z1.mk 12 0 []]) (X9 [Z1.mk 0 0 [],Z1.mk 12 0 []]).symm 2 3 fun v6=>ZA 0 [(59,YY [Z1.mk 0 0 [],Z1.mk 12 0 []])] (Zr [] (Xd 4 0 [Z1.mk 0 0 [],Z1.mk 12 0 []]) (iA [.i 0,.i 0,nl] fun b4=>Zy 0 b4 (Yt (Z1.mk 4 0 [Z1.mk 0 0 [],Z1.mk 12 0 []])) (ie (aD 15 (ZD 7 15 [0,1,2,3,4,5,6,7] [0,2,4,4] (dx 8 (XB gb g.funcs.length 4 i.toNat 5 i) (Zj 5 6 [9] (Vb 10 (Wn 6 gb 4 4 5 (i.toNat * 5+1) (Zc (YS rs)) [.i f.result] 3 (.i f.result) (Vi XF hf 1 rfl (Wf rfl))) (Z8 11 (dc 11 [5,5] [1,0] [b3,b4] (T7 rd bs p6 g gb rs f.params f.result 4 (Zq:=ob)) ?_)))))))))))))
 rintro _ _ ⟨e3,p23,rfl,rfl,YA⟩
 have YN:=YA.1
 have T8:=YA.2
 try rw [Yb] at YN
 first|rw [hbv.2.1] at YN|rw [hbv.1] at YN
 exact Z8 12 (XP 12 [] [] [ZL (Z1.mk 4 0 [Z1.mk 0 0 [],Z1.mk 12 0 []]),ZL eQ,ZL e3] (Y3 [Z1.mk 4 0 [Z1.mk 0 0 [],Z1.mk 12 0 []],eQ,e3]) (X9 [Z1.mk 4 0 [Z1.mk 0 0 [],Z1.mk 12 0 []],eQ,e3]).symm 3 3 fun v7=>Y9 2 2 [] [(73,YY [Z1.mk 4 0 [Z1.mk 0 0 [],Z1.mk 12 0 []],eQ,e3])] (Z8 13 (Yf 13 [] [] [] (Xd 7 0 [Z1.mk 4 0 [Z1.mk 0 0 [],Z1.mk 12 0 []],eQ,e3]) (Z8 14 (Yo 14 6 [] [] b2 (Yt (Z1.mk 7 0 [Z1.mk 4 0 [Z1.mk 0 0 [],Z1.mk 12 0 []],eQ,e3])) (de (Z9 (r3 [2,2] [ZL (Z1.mk 7 0 [Z1.mk 4 0 [Z1.mk 0 0 [],Z1.mk 12 0 []],eQ,e3])] [0] [(b2,b2)] ⟨(Z1.mk 7 0 [Z1.mk 4 0 [Z1.mk 0 0 [],Z1.mk 12 0 []],eQ,e3]),p23,rfl,rfl,⟨GE.three (s1:=3) (s2:=34) (s3:=30) om om (GE.two (s1:=1) (s2:=1) om om (GE.int om om) (GE.var om om om) om) WP YN om,by omega⟩⟩ (lr _)))))))))
theorem PX (xs:LI) (t:Int) (hl:xs.length<=1000:=by exact ob):Zi 189 [Z5 xs,.i t] [] (fun r h=>∃(w:Int),r=.i w/\h=[]/\-1<=w/\w<xs.length):=by
 refine ZB 19 Tryz.func189 (ar (Z0 1 (ie (aq (ar (Z0 1 (ie (ab 0 (ZX (fun fz gz m F h=>∃(k:Nat),(k<=xs.length)/\F=sF [0,1] fz [(5,.i k)]/\h=gz/\m=xs.length-k) _ _ _ ⟨0,ob,rfl,rfl,rfl⟩ (wk [] (Y7 fl)) ?_)))))))))
 rintro m F h ⟨k,Y8,rfl,rfl,rfl⟩
 refine aq (ar (Z0 2 (iw (Y2 xs) (Z0 1 (ie (ZH ((k:Int)<(xs.length:Int)) (fun Za=>?_) (fun Za=>?_)))))))
 ·refine ak (aq (ab 1 (ar (Z0 2 ?_))))
  obtain ⟨x1,Z2⟩:=Zp xs k om
  refine Zn (Zh none (k:Int) 1 (ZQ Z2)) (Z0 3 (ie (ac (x1==t) Zz (fun Zg=>?_) (fun Zg=>?_))))
  ·exact ar (Z0 2 (ie (Z9 (r1 [] ⟨(k:Int),rfl,rfl,ob⟩))))
  exact ak (az (Z0 1 (ZE k (Z0 1 (ie (ZG ⟨k+1,ob,rfl,rfl,rfl⟩ (wk [] (ZI k fl))))))))
 exact ax 0 (ar (Z0 1 (ie (Z9 (r1 [] ⟨(-1),rfl,rfl,ob⟩)))))
theorem P7 (rd:Nat) (bs:LI) (p:Nat) (g:Xv) (gb:Nat) (rs:List Func) (f:Func) (i:Int) (Zq:∀z∈bs,0<=z/\z<=255) (hp:p+90000<=1000000000) (hg:GP g) (XF:g.funcs <+: rs) (hi:0<=i) (hf:g.funcs[i.toNat]? = some f) (h0:i=0->f.params.length=0):Zi 155 [.p rd 0,.agg (XH g gb),.i i] [Y4 rd bs p,Xa gb rs] (fun r h=>∃(e:Z1) (p2:Nat),r=ZL e/\h=[Y4 rd bs p2,Xa gb rs]/\GE g f.params.length 30 e/\p<=p2/\p2<=p+90000):=by
 obtain ⟨hil,_⟩:=Xj.1 hf
 have hgl:=hg.len
 have hso:=(hg.sigs f (ZU hf)).bd
 have hbv:=B3
 refine ZB 121 Tryz.func155 (ar (iA (XH g gb) fun b1=>iA [.i 0,.i 0,nl] fun b2=>ie (ar (Z6 3 [1] (Zn (XB gb g.funcs.length 4 i.toNat 5 i) (Z0 1 (V2 (Wn 3 gb 4 4 5 (i.toNat * 5+0) (Zc (YS rs)) [Z5 f.params] 27 (Z5 f.params) (Vi XF hf 0 rfl (Wf rfl))) (Z0 1 (ie (ar (Z6 3 [1] (Zn (XB gb g.funcs.length 4 i.toNat 5 i) (Z0 1 (V2 (Wn 3 gb 4 4 5 (i.toNat * 5+1) (Zc (YS rs)) [.i f.result] 3 (.i f.result) (Vi XF hf 1 rfl (Wf rfl))) (Z0 1 (ie (ar (Z0 1 (ic [] (PX f.params 1) ?_)))))))))))))))))))
 rintro _ _ ⟨w1,rfl,rfl,ZT⟩
 have hpl:=ZT
 refine Z0 1 (ie (ar (Zr [] (Kg 0) (iA [.i 0,.i 0,nl] fun b3=>Zy 0 b3 (Yt (Z1.mk 0 0 [])) (ie (ar (Z0 1 (ic [3] (Xs rd bs p 4 (Zq:=ob)) ?_))))))))
 rintro _ _ ⟨k1,rfl,rfl,Y6⟩
 have qhp2:=Y6.lt om
 refine Z0 1 (ie (aq (aq (Xo (fun fz gz F h=>∃(wb:Bool),(wb=true->i=0)/\F=sF [0,2,4,6,7,8,9,10,11] fz [(34,.b wb)]/\h=gz) ?_ ?_))))
 ·refine az (Z0 3 (ib (b:=(decide (k1<3))) 31 (fun Zb=>?_) (fun Zb=>?_)))
  ·have YA:k1<3:=(dq).1 Zb
   exact Z0 3 (ie (ZF ⟨(i==0),(by first|exact (fun h=>Bool.noConfusion h)|(intro h;omega)|(intro h;simp at h;omega)),rfl,rfl⟩ (ZP 5 fl)))
  have YJ:¬(k1<3):=YH dq Zb
  exact Z0 3 (ie (ZF ⟨false,(by first|exact (fun h=>Bool.noConfusion h)|(intro h;omega)|(intro h;simp at h;omega)),rfl,rfl⟩ (ZP 5 fl)))
 rintro F h ⟨wb,kR6_0,rfl,rfl⟩
 refine Xo (fun fz gz F h=>∃(eQ:Z1) (p6:Nat),(GE g f.params.length 200 eQ)/\(p<=p6/\p6<=p+42000)/\F=sF [0,4,6,7,8,10] fz []/\h=[Y4 rd bs p6,.obj b3 (Yt eQ),Ze gz 2,Ze gz 3,Ze gz 4]) ?_ ?_
 ·refine ac wb Iff.rfl (fun Za=>?_) (fun Za=>?_)
  ·refine az (Z6 2 [3] (ic [0,3] (PK rd bs (p+1) g gb rs (Zq:=ob)) ?_))
   rintro _ _ ⟨e1,p21,rfl,rfl,YU⟩
   have hbd:=YU.1
   have hbp:=YU.2
   exact Zy 2 b3 (Yt e1) (ie (ZF ⟨e1,p21,(by rw [h0 (kR6_0 (by assumption))];exact hbd),ob,rfl,rfl⟩ (wk [1,0,1,1,0] fl)))
  refine aq (Xo (fun fz gz F h=>∃(wb:Bool),(wb=true->0<=w1)/\F=sF [0,2,4,6,7,8,9,10,11] fz [(51,.b wb)]/\h=gz) ?_ ?_)
  ·refine az (Z0 3 (ib (b:=(decide (k1<3))) 40 (fun ZM=>?_) (fun ZM=>?_)))
   ·have XI:k1<3:=(dq).1 ZM
    refine Z0 4 (ib (b:=(decide (w1>=0))) 44 (fun YT=>?_) (fun YT=>?_))
    ·have Wd:w1>=0:=(dq).1 YT
     refine Z0 3 (ib (b:=(f.result==0)) 47 (fun XY=>?_) (fun XY=>?_))
     ·have WM:f.result=0:=(Zz).1 XY
      exact Z0 4 (ie (ZF ⟨true,(by first|exact (fun h=>Bool.noConfusion h)|(intro h;omega)|(intro h;simp at h;omega)),rfl,rfl⟩ (ZP 5 fl)))
     have V1:¬(f.result=0):=YH Zz XY
     exact Z0 4 (ie (ZF ⟨(f.result==1),(by first|exact (fun h=>Bool.noConfusion h)|(intro h;omega)|(intro h;simp at h;omega)),rfl,rfl⟩ (ZP 5 fl)))
    have UA:¬(w1>=0):=YH dq YT
    exact Z0 7 (ie (ZF ⟨false,(by first|exact (fun h=>Bool.noConfusion h)|(intro h;omega)|(intro h;simp at h;omega)),rfl,rfl⟩ (ZP 5 fl)))
   have UN:¬(k1<3):=YH dq ZM
   exact Z0 11 (ie (ZF ⟨false,(by first|exact (fun h=>Bool.noConfusion h)|(intro h;omega)|(intro h;simp at h;omega)),rfl,rfl⟩ (ZP 5 fl)))
  rintro F h ⟨wb,kR8_0,rfl,rfl⟩
  refine ac wb Iff.rfl (fun Zg=>?_) (fun Zg=>?_)
  ·refine az (Z6 4 [3] (ic [0,3] (PS rd bs (p+1) g gb rs _ i w1 (Zq:=ob) (hw:=(by have:=kR8_0 (by assumption);omega))) ?_))
   rintro _ _ ⟨e2,p22,rfl,rfl,UB⟩
   have hbd:=UB.1
   have hbp:=UB.2
   exact Zy 2 b3 (Yt e2) (ie (ZF ⟨e2,p22,(GE.le hbd om),ob,rfl,rfl⟩ (wk [1,0,1,1,0] fl)))
  refine aq (Xo (fun fz gz F h=>∃(wb:Bool),(wb=true->0<f.params.length)/\F=sF [0,2,4,6,7,8,10,11] fz [(77,.b wb)]/\h=gz) ?_ ?_)
  ·refine az (Z0 3 (ib (b:=(decide (k1<3))) 59 (fun VV=>?_) (fun VV=>?_)))
   ·have Qd:k1<3:=(dq).1 VV
    refine Z0 1 (iw (Y2 f.params) (Z0 3 (ib (b:=(decide ((f.params.length:Int)>0))) 64 (fun Tu=>?_) (fun Tu=>?_))))
    ·have TV:(f.params.length:Int)>0:=(dq).1 Tu
     refine Z0 1 ?_
     obtain ⟨x1,Z2⟩:=Zp f.params 0 om
     refine Zn (Zh none 0 1 (ZQ Z2)) (Z0 4 (ib (b:=(x1==3)) 70 (fun JI=>?_) (fun JI=>?_)))
     ·have J1:x1=3:=(Zz).1 JI
      refine Z0 3 (ib (b:=(f.result==0)) 73 (fun Kj=>?_) (fun Kj=>?_))
      ·have J2:f.result=0:=(Zz).1 Kj
       exact Z0 4 (ie (ZF ⟨true,(by first|exact (fun h=>Bool.noConfusion h)|(intro h;omega)|(intro h;simp at h;omega)),rfl,rfl⟩ (ZP 5 fl)))
      have CA:¬(f.result=0):=YH Zz Kj
      exact Z0 4 (ie (ZF ⟨(f.result==3),(by first|exact (fun h=>Bool.noConfusion h)|(intro h;omega)|(intro h;simp at h;omega)),rfl,rfl⟩ (ZP 5 fl)))
     have JK:¬(x1=3):=YH Zz JI
     exact Z0 7 (ie (ZF ⟨false,(by first|exact (fun h=>Bool.noConfusion h)|(intro h;omega)|(intro h;simp at h;omega)),rfl,rfl⟩ (ZP 5 fl)))
    have Z4p:¬((f.params.length:Int)>0):=YH dq Tu
    exact Z0 13 (ie (ZF ⟨false,(by first|exact (fun h=>Bool.noConfusion h)|(intro h;omega)|(intro h;simp at h;omega)),rfl,rfl⟩ (ZP 5 fl)))
   have Z4q:¬(k1<3):=YH dq VV
   exact Z0 18 (ie (ZF ⟨false,(by first|exact (fun h=>Bool.noConfusion h)|(intro h;omega)|(intro h;simp at h;omega)),rfl,rfl⟩ (ZP 5 fl)))
  rintro F h ⟨wb,kR10_0,rfl,rfl⟩
  refine ac wb Iff.rfl (fun ZK=>?_) (fun ZK=>?_)
  ·refine az (Z6 3 [3] (ic [0,3] (PT rd bs (p+1) g gb rs _ i (Zq:=ob) (h0:=(kR10_0 (by assumption)))) ?_))
   rintro _ _ ⟨e3,p23,rfl,rfl,HL⟩
   have hbd:=HL.1
   have hbp:=HL.2
   exact Zy 2 b3 (Yt e3) (ie (ZF ⟨e3,p23,(GE.le hbd om),ob,rfl,rfl⟩ (wk [1,0,1,1,0] fl)))
  refine aq (Xo (fun fz gz F h=>∃(wb:Bool),(wb=true->0<f.params.length)/\F=sF [0,2,4,6,7,8,10] fz [(102,.b wb)]/\h=gz) ?_ ?_)
  ·refine az (Z0 3 (ib (b:=(decide (k1<3))) 84 (fun Kk=>?_) (fun Kk=>?_)))
   ·have Z4r:k1<3:=(dq).1 Kk
    refine Z0 1 (iw (Y2 f.params) (Z0 3 (ib (b:=(decide ((f.params.length:Int)>0))) 89 (fun EI=>?_) (fun EI=>?_))))
    ·have Z4s:(f.params.length:Int)>0:=(dq).1 EI
     refine Z0 1 ?_
     obtain ⟨x2,Zt⟩:=Zp f.params 0 om
     refine Zn (Zh none 0 1 (ZQ Zt)) (Z0 4 (ib (b:=(x2==0)) 95 (fun EJ=>?_) (fun EJ=>?_)))
     ·have Z4t:x2=0:=(Zz).1 EJ
      refine Z0 3 (ib (b:=(f.result==0)) 98 (fun EK=>?_) (fun EK=>?_))
      ·have Z4u:f.result=0:=(Zz).1 EK
       exact Z0 4 (ie (ZF ⟨true,(by first|exact (fun h=>Bool.noConfusion h)|(intro h;omega)|(intro h;simp at h;omega)),rfl,rfl⟩ (ZP 5 fl)))
      have Z4v:¬(f.result=0):=YH Zz EK
      exact Z0 4 (ie (ZF ⟨(f.result==1),(by first|exact (fun h=>Bool.noConfusion h)|(intro h;omega)|(intro h;simp at h;omega)),rfl,rfl⟩ (ZP 5 fl)))
     have Z4w:¬(x2=0):=YH Zz EJ
     exact Z0 7 (ie (ZF ⟨false,(by first|exact (fun h=>Bool.noConfusion h)|(intro h;omega)|(intro h;simp at h;omega)),rfl,rfl⟩ (ZP 5 fl)))
    have Z4x:¬((f.params.length:Int)>0):=YH dq EI
    exact Z0 13 (ie (ZF ⟨false,(by first|exact (fun h=>Bool.noConfusion h)|(intro h;omega)|(intro h;simp at h;omega)),rfl,rfl⟩ (ZP 5 fl)))
   have Z4y:¬(k1<3):=YH dq Kk
   exact Z0 18 (ie (ZF ⟨false,(by first|exact (fun h=>Bool.noConfusion h)|(intro h;omega)|(intro h;simp at h;omega)),rfl,rfl⟩ (ZP 5 fl)))
  rintro F h ⟨wb,kR12_0,rfl,rfl⟩
  refine ac wb Iff.rfl (fun Yi=>?_) (fun Yi=>?_)
  ·refine az (Z6 3 [3] (ic [0,3] (Pq rd bs (p+1) g gb rs _ i (Zq:=ob) (h0:=(kR12_0 (by assumption)))) ?_))
   rintro _ _ ⟨e4,p24,rfl,rfl,HM⟩
   have hbd:=HM.1
   have hbp:=HM.2
   exact Zy 2 b3 (Yt e4) (ie (ZF ⟨e4,p24,(GE.le hbd om),ob,rfl,rfl⟩ (wk [1,0,1,1,0] fl)))
  refine az (Z6 4 [3] (ic [0,3] (Hs rd bs (p+1) g gb rs f.params f.result 18 (Zq:=ob)) ?_))
  rintro _ _ ⟨e5,p25,rfl,rfl,HN⟩
  have hbd:=HN.1
  have hbp:=HN.2
  exact Zy 2 b3 (Yt e5) (ie (ZF ⟨e5,p25,(GE.le hbd om),ob,rfl,rfl⟩ (wk [1,0,1,1,0] fl)))
 rintro F h ⟨eQ,p6,TW,ER,rfl,rfl⟩
 refine aq (ar (Z6 1 [1] (ic [] (Hz eQ (hz:=(by have:=TW.2;omega))) ?_)))
 rintro _ _ ⟨w2,rfl,rfl,Ri⟩
 have EO:=Ri
 have YW:=TW.2
 refine Z0 1 (ie (ZH (w2<0) (fun Xt=>?_) (fun Xt=>?_)))
 ·refine ar (Z6 4 [3] (ic [0,3] (Hs rd bs p6 g gb rs f.params f.result 12 (Zq:=ob)) ?_))
  rintro _ _ ⟨e6,p26,rfl,rfl,HO⟩
  have hbd:=HO.1
  have hbp:=HO.2
  exact Zy 3 b2 (Yt e6) (ie (Z9 (r3 [1,1] [ZL e6] [0] [(b2,b2)] ⟨e6,p26,rfl,rfl,⟨hbd,by omega⟩⟩ (lr _))))
 exact ak (ar (Z6 1 [1] (Zy 2 b2 (Yt eQ) (ie (Z9 (r3 [1,3] [ZL eQ] [0] [(b2,b2)] ⟨eQ,p6,rfl,rfl,⟨⟨TW.1,by omega⟩,by omega⟩⟩ (lr _)))))))
theorem Uh (ps:LI) (rt:Int) :Zi 154 [Z5 ps,.i rt] [] (Ym (B0 (Func.mk ps rt (Z1.mk 0 0 [])))):=by
 exact ZB 8 Tryz.func154 (ar (iA [nl,.i 0,.i 0,.i 0,nl] fun b1=>ie (ar (Z0 3 (Zy 0 b1 [Z5 ps,.i rt,.i 0,.i 0,nl] (ie (Z9 (r3 [] [.agg [Z5 ps,.i rt,.i 0,.i 0,nl]] [0] [(b1,b1)] ⟨rfl,rfl⟩ (Zf.agg (.cons (Zf.sl _ (Yg Z7 ob)) (.cons li (.cons li (.cons li (.cons (Zf.sl _ rfl) .nil))))))))))))))
theorem PR (rd:Nat) (bs:LI) (p:Nat) (xs:LI) (Zq:∀z∈bs,0<=z/\z<=255) (hp:p+1<=1000000000:=by exact ob) (hx:0<xs.length/\xs.length<=1000000:=by exact ob) (hy:xs.all (fun x=>decide (0<=x))=true:=by exact ob):Zi 72 [.p rd 0,Z5 xs] [Y4 rd bs p] (fun r h=>∃(nn:Nat),r=.i nn/\h=[.obj rd [WW bs,.i (p+1:Nat)]]/\(nn:Int)∈xs):=(WA rd bs p xs Zq hp hx).mono fun r h ⟨z,hr,hh,hz⟩=>by
  have h0:0<=z:=of_decide_eq_true (QT.1 hy z hz)
  exact ⟨z.toNat,by rw [hr,Int.toNat_of_nonneg h0],hh,by rw [Int.toNat_of_nonneg h0];exact hz⟩
theorem P8 (rd:Nat) (bs:LI) (p:Nat) (g:Xv) (gb:Nat) (rs:List Func) (f:Func) (i:Int) (nl:Nat) (Zq:∀z∈bs,0<=z/\z<=255) (hp:p+90000<=1000000000:=by exact ob) (hg:GP g:=by exact ob) (XF:g.funcs <+: rs:=by exact ob) (hi:0<=i:=by exact ob) (hf:g.funcs[i.toNat]? = some f:=by exact ob) (h0:i=0->f.params.length=0:=by exact ob) (hn:g.funcs.length=nl:=by exact ob):Zi 155 [.p rd 0,.agg [YB g.decls,.ms gb 0 nl 4],.i i] [Y4 rd bs p,Xa gb rs] (fun r h=>∃(e:Z1) (p2:Nat),r=ZL e/\h=[Y4 rd bs p2,Xa gb rs]/\GE g f.params.length 30 e/\p<=p2/\p2<=p+90000):=(by subst hn;exact P7 rd bs p g gb rs f i Zq hp hg XF hi hf h0)
theorem Pw (rd:Nat) (bs:LI) (p:Nat) (Zq:∀z∈bs,0<=z/\z<=255) (hp:p+400000<=1000000000):Zi 120 [.p rd 0] [Y4 rd bs p] (fun r h=>∃(rs:List Func) (ds:List Zd) (m:Nat) (gb:Nat) (p2:Nat),r=.agg [YB ds,.ms gb 0 m 4]/\h=[Xa gb rs,Y4 rd bs p2]/\(GL ds m 0 rs/\GD ds/\1<=m/\m<=4)/\p<=p2/\p2<=p+400000):=by
 refine ZB 110 Tryz.func120 (ar (iA [nl,nl] fun b1=>ie (ar (Z0 1 (ic [1] (Pu rd bs p (Zq:=ob)) ?_)))))
 rintro _ _ ⟨ds1,v1,rfl,rfl,ZT⟩
 have hgd:=ZT
 refine Z0 1 (iA [nl,nl] fun b2=>Zy 0 b2 [QK ds1 v1,nl] (ie (ar (iL (Z7 [1]) 1 1 fun v2=>ZA 0 [(13,Z5 [1])] (Zr [] (Uh [1] 0) (iL (Z7 [1,1]) 2 1 fun v3=>ZA 0 [(15,Z5 [1,1])] (Zr [] (Uh [1,1] 1) (iL (Z7 [1]) 1 1 fun v4=>ZA 0 [(17,Z5 [1])] (Zr [] (Uh [1] 1) (iL (Z7 [1,0]) 2 1 fun v5=>ZA 0 [(19,Z5 [1,0])] (Zr [] (Uh [1,0] 1) (iL (Z7 [2,1]) 2 1 fun v6=>ZA 0 [(21,Z5 [2,1])] (Zr [] (Uh [2,1] 1) (iL (Z7 [1,1]) 2 1 fun v7=>ZA 0 [(23,Z5 [1,1])] (Zr [] (Uh [1,1] 0) (iL (YS [Func.mk [1] 0 (Z1.mk 0 0 []),Func.mk [1,1] 1 (Z1.mk 0 0 []),Func.mk [1] 1 (Z1.mk 0 0 []),Func.mk [1,0] 1 (Z1.mk 0 0 []),Func.mk [2,1] 1 (Z1.mk 0 0 []),Func.mk [1,1] 0 (Z1.mk 0 0 [])]) 6 5 fun v8=>Z0 1 (ie (ar (iL (Z7 [3]) 1 1 fun v9=>ZA 0 [(26,Z5 [3])] (Zr [] (Uh [3] 0) (iL (Z7 [0]) 1 1 fun v10=>ZA 0 [(28,Z5 [0])] (Zr [] (Uh [0] 1) (iL (Z7 [0,1]) 2 1 fun v11=>ZA 0 [(30,Z5 [0,1])] (Zr [] (Uh [0,1] 1) (iL (Z7 [3,0]) 2 1 fun v12=>ZA 0 [(32,Z5 [3,0])] (Zr [] (Uh [3,0] 3) (iL (Z7 [3]) 1 1 fun v13=>ZA 0 [(34,Z5 [3])] (Zr [] (Uh [3] 1) (iL (Z7 [1,3,0]) 3 1 fun v14=>ZA 0 [(36,Z5 [1,3,0])] (Zr [] (Uh [1,3,0] 0) (iL (YS [Func.mk [3] 0 (Z1.mk 0 0 []),Func.mk [0] 1 (Z1.mk 0 0 []),Func.mk [0,1] 1 (Z1.mk 0 0 []),Func.mk [3,0] 3 (Z1.mk 0 0 []),Func.mk [3] 1 (Z1.mk 0 0 []),Func.mk [1,3,0] 0 (Z1.mk 0 0 [])]) 6 5 fun v15=>Z0 1 (ie (ar (iL (Z7 [0]) 1 1 fun v16=>ZA 0 [(39,Z5 [0])] (Zr [] (Uh [0] 0) (iL (Z7 [0,0]) 2 1 fun v17=>ZA 0 [(41,Z5 [0,0])] (Zr [] (Uh [0,0] 0) (iL (Z7 [1,0]) 2 1 fun v18=>ZA 0 [(43,Z5 [1,0])] (Zr [] (Uh [1,0] 0) (iL (Z7 [0]) 1 1 fun v19=>ZA 0 [(45,Z5 [0])] (Zr [] (Uh [0] 1) (iL (YS [Func.mk [0] 0 (Z1.mk 0 0 []),Func.mk [0,0] 0 (Z1.mk 0 0 []),Func.mk [1,0] 0 (Z1.mk 0 0 []),Func.mk [0] 1 (Z1.mk 0 0 [])]) 4 5 fun v20=>Z0 1 (ie (aD 26 (Zj 23 26 [2,3,4] (dn 5 (.i (([Func.mk [1] 0 (Z1.mk 0 0 []),Func.mk [1,1] 1 (Z1.mk 0 0 []),Func.mk [1] 1 (Z1.mk 0 0 []),Func.mk [1,0] 1 (Z1.mk 0 0 []),Func.mk [2,1] 1 (Z1.mk 0 0 []),Func.mk [1,1] 0 (Z1.mk 0 0 [])].length:Nat):Int)) (.i (((YS [Func.mk [1] 0 (Z1.mk 0 0 []),Func.mk [1,1] 1 (Z1.mk 0 0 []),Func.mk [1] 1 (Z1.mk 0 0 []),Func.mk [1,0] 1 (Z1.mk 0 0 []),Func.mk [2,1] 1 (Z1.mk 0 0 []),Func.mk [1,1] 0 (Z1.mk 0 0 [])]).length:Nat):Int)) (li (by rw [Ak])) (Zj 19 22 [9,10,11] (dn 12 (.i (([Func.mk [3] 0 (Z1.mk 0 0 []),Func.mk [0] 1 (Z1.mk 0 0 []),Func.mk [0,1] 1 (Z1.mk 0 0 []),Func.mk [3,0] 3 (Z1.mk 0 0 []),Func.mk [3] 1 (Z1.mk 0 0 []),Func.mk [1,3,0] 0 (Z1.mk 0 0 [])].length:Nat):Int)) (.i (((YS [Func.mk [3] 0 (Z1.mk 0 0 []),Func.mk [0] 1 (Z1.mk 0 0 []),Func.mk [0,1] 1 (Z1.mk 0 0 []),Func.mk [3,0] 3 (Z1.mk 0 0 []),Func.mk [3] 1 (Z1.mk 0 0 []),Func.mk [1,3,0] 0 (Z1.mk 0 0 [])]).length:Nat):Int)) (li (by rw [Ak])) (Zj 15 18 [16,17,18] (dn 19 (.i (([Func.mk [0] 0 (Z1.mk 0 0 []),Func.mk [0,0] 0 (Z1.mk 0 0 []),Func.mk [1,0] 0 (Z1.mk 0 0 []),Func.mk [0] 1 (Z1.mk 0 0 [])].length:Nat):Int)) (.i (((YS [Func.mk [0] 0 (Z1.mk 0 0 []),Func.mk [0,0] 0 (Z1.mk 0 0 []),Func.mk [1,0] 0 (Z1.mk 0 0 []),Func.mk [0] 1 (Z1.mk 0 0 [])]).length:Nat):Int)) (li (by rw [Ak])) (Z8 0 (dL 0 [] [] (Z7 []) 0 1 fun v21=>Y9 13 13 [] [(48,Z5 [])] (Z8 1 (Yf 1 [] [] [] (Uh [] 0) (Z8 6 (dc 6 [22] [] [] (Xs rd bs (p+1) (([Func.mk [1] 0 (Z1.mk 0 0 []),Func.mk [1,1] 1 (Z1.mk 0 0 []),Func.mk [1] 1 (Z1.mk 0 0 []),Func.mk [1,0] 1 (Z1.mk 0 0 []),Func.mk [2,1] 1 (Z1.mk 0 0 []),Func.mk [1,1] 0 (Z1.mk 0 0 [])].length:Nat):Int) (Zq:=ob)) ?_))))))))))))))))))))))))))))))))))))))))))))))))))))))))
 rintro _ _ ⟨k1,rfl,rfl,Y6⟩
 have qhp2:=Y6.lt (by simp)
 simp only [Yw,YV] at qhp2
 obtain ⟨x1,Z2⟩:=Zp [Func.mk [1] 0 (Z1.mk 0 0 []),Func.mk [1,1] 1 (Z1.mk 0 0 []),Func.mk [1] 1 (Z1.mk 0 0 []),Func.mk [1,0] 1 (Z1.mk 0 0 []),Func.mk [2,1] 1 (Z1.mk 0 0 []),Func.mk [1,1] 0 (Z1.mk 0 0 [])] k1.toNat (by simp only [Yw,YV];omega)
 refine dx 7 (Zh (some v8) k1 5 (Ci Z2)) (Zj 9 10 [8] (Z8 13 (dc 13 [0] [] [] (Xs rd bs ((p+1)+1) (([Func.mk [3] 0 (Z1.mk 0 0 []),Func.mk [0] 1 (Z1.mk 0 0 []),Func.mk [0,1] 1 (Z1.mk 0 0 []),Func.mk [3,0] 3 (Z1.mk 0 0 []),Func.mk [3] 1 (Z1.mk 0 0 []),Func.mk [1,3,0] 0 (Z1.mk 0 0 [])].length:Nat):Int) (Zq:=ob)) ?_)))
 rintro _ _ ⟨k2,rfl,rfl,YA⟩
 have qhp3:=YA.lt (by simp)
 simp only [Yw,YV] at qhp3
 obtain ⟨x2,Zt⟩:=Zp [Func.mk [3] 0 (Z1.mk 0 0 []),Func.mk [0] 1 (Z1.mk 0 0 []),Func.mk [0,1] 1 (Z1.mk 0 0 []),Func.mk [3,0] 3 (Z1.mk 0 0 []),Func.mk [3] 1 (Z1.mk 0 0 []),Func.mk [1,3,0] 0 (Z1.mk 0 0 [])] k2.toNat (by simp only [Yw,YV];omega)
 refine dx 14 (Zh (some v15) k2 5 (Ci Zt)) (Zj 6 7 [15] (Z8 20 (dc 20 [0] [] [] (Xs rd bs (((p+1)+1)+1) (([Func.mk [0] 0 (Z1.mk 0 0 []),Func.mk [0,0] 0 (Z1.mk 0 0 []),Func.mk [1,0] 0 (Z1.mk 0 0 []),Func.mk [0] 1 (Z1.mk 0 0 [])].length:Nat):Int) (Zq:=ob)) ?_)))
 rintro _ _ ⟨k3,rfl,rfl,YJ⟩
 have qhp4:=YJ.lt (by simp)
 simp only [Yw,YV] at qhp4
 obtain ⟨x3,YQ⟩:=Zp [Func.mk [0] 0 (Z1.mk 0 0 []),Func.mk [0,0] 0 (Z1.mk 0 0 []),Func.mk [1,0] 0 (Z1.mk 0 0 []),Func.mk [0] 1 (Z1.mk 0 0 [])] k3.toNat (by simp only [Yw,YV];omega)
 refine dx 21 (Zh (some v20) k3 5 (Ci YQ)) (Zj 3 4 [22] (Z8 23 (O1 23 [] [] (Zc (YS [Func.mk [] 0 (Z1.mk 0 0 []),x1,x2,x3])) 4 5 fun g1=>Zj 1 2 [24] (Z8 25 (Yo 25 22 [] [] b2 [QK ds1 v1,.ms g1 0 4 4] (de (ar (Z0 1 (iL (Z7 [4,4,3,2,4]) 5 1 fun v22=>ZA 0 [(74,Z5 [4,4,3,2,4])] (ic [3] (PR rd bs ((((p+1)+1)+1)+1) [4,4,3,2,4] (Zq:=ob) (hy:=(by decide))) ?_))))))))))
 rintro _ _ ⟨nn1,rfl,rfl,YU⟩
 have hnn:=SP (a:=2) (b:=4) YU (by decide)
 refine Z0 1 (ie (ar (Z6 3 [2] (Zn (ET 3 g1 4 4 nn1 5 (Zc (YS [Func.mk [] 0 (Z1.mk 0 0 []),x1,x2,x3]))) (Z0 1 (Zy 2 b2 [QK ds1 v1,.ms g1 0 nn1 4] (ie (aq (ar (Z0 1 (ia (((nn1:Int)-1)) (((nn1:Int))-(1)) (Z0 1 (ie (ab 0 (ZX (fun fz gz m F h=>∃(j:Nat) (rq:List Func) (pq:Nat),(j<=nn1)/\(GL ds1 nn1 j rq)/\(p<=pq/\pq+90000*j<=p+10+90000*nn1)/\F=sF [0,2,3] fz [(8,.i ((j:Int)-1))]/\h=[Ze gz 0,Y4 rd bs pq,Ze gz 25,Ze gz 24,Xa g1 rq]/\m=j+1) _ _ _ ⟨nn1,[Func.mk [] 0 (Z1.mk 0 0 []),x1,x2,x3],((((p+1)+1)+1)+1)+1,ob,(GL.start (Fw Z2 (by decide)) (Fw Zt (by decide)) (Fw YQ (by decide))),ob,rfl,rfl,rfl⟩ (wk [0,0,23,22,1] fl) ?_)))))))))))))))
 rintro m F h ⟨j,rq,pq,Y8,Zm,Zo,rfl,rfl,rfl⟩
 refine aq (ar (Z0 2 (ie (ZH (((j:Int)-1)>=0) (fun Za=>?_) (fun Za=>?_)))))
 ·obtain ⟨f1,hf1⟩:=Zp (rq.take nn1) (((j:Int)-1).toNat) (by rw [Zm.len_take om];omega)
  have hfq:rq[j-1]? = some f1:=by have h:=hf1;rw [show ((j:Int)-1).toNat=j-1 by omega,List.getElem?_take_of_lt om] at h;exact h
  refine ak (aq (ab 1 (ar (Tz 3 [(88,.agg [YB ds1,.ms g1 0 nn1 4])] [0] (ic [1,3] (P8 rd bs pq (Xv.mk ds1 (rq.take nn1)) g1 rq f1 ((j:Int)-1) nn1 (Zq:=ob) (hg:=(Zm.gp hgd om)) (XF:=(List.take_prefix nn1 rq)) (hf:=hf1) (h0:=(fun h=>Zm.zero f1 (by rw [<-hfq,show j-1=0 by omega]))) (hn:=(Zm.len_take om))) ?_)))))
  rintro _ _ ⟨e1,p21,rfl,rfl,XI⟩
  have hbw:eW ds1 nn1 f1.params.length e1/\(e1).sz<=30:=by have h:=XI.1;unfold GE at h;rw [show (Xv.mk ds1 (rq.take nn1)).funcs.length=nn1 from Zm.len_take om] at h;exact h
  exact iA [.i 0,.i 0,nl] fun b3=>Zy 0 b3 (Yt e1) (ie (aE 19 (ZD 13 19 [0,1,2,3,4,5] [3,3] (dx 6 (XB g1 nn1 4 (((j:Int)-1).toNat) 5 ((j:Int)-1)) (Zj 11 12 [7] (Vb 8 (Wn 2 g1 4 4 5 ((((j:Int)-1).toNat)*5+0) (Zc (YS rq)) [Z5 f1.params] 27 (Z5 f1.params) (Vi (List.take_prefix nn1 rq) hf1 0 rfl (Wf rfl))) (ZD 7 10 [9,10,11] [3] (dx 12 (XB g1 nn1 4 (((j:Int)-1).toNat) 5 ((j:Int)-1)) (Zj 5 6 [13] (Vb 14 (Wn 2 g1 4 4 5 ((((j:Int)-1).toNat)*5+1) (Zc (YS rq)) [.i f1.result] 3 (.i f1.result) (Vi (List.take_prefix nn1 rq) hf1 1 rfl (Wf rfl))) (ZD 2 4 [15,16] [0] (dx 17 (XB g1 nn1 4 (((j:Int)-1).toNat) 5 ((j:Int)-1)) (Z8 18 (Jv 18 2 [] [] g1 4 4 5 ((((j:Int)-1).toNat)*5) [Z5 f1.params,.i f1.result,.i e1.op,.i e1.num,YY e1.kids] (Zc (YS rq)) (Zc (YS (rq.set ((j:Int)-1).toNat ⟨f1.params,f1.result,e1⟩))) (by rw [Ev,Zm.len];simp only [Yw,YV];omega) (OQ ⟨f1.params,f1.result,e1⟩ (by rw [Zm.len];omega)) (de (az (Z0 1 (ia ((((j:Int)-1)-1)) (((j:Int)-1)-(1)) (Z0 1 (ie (ZG ⟨(j-1),(rq.set ((j:Int)-1).toNat ⟨f1.params,f1.result,e1⟩),p21,ob,(by rw [show ((j:Int)-1).toNat=j-1 by omega];exact Zm.set om hfq hbw),ob,rfl,rfl,rfl⟩ (wk [3,2,2,2,0] (fc (x:=.i (((j:Int)-1)-1)) li fl)))))))))))))))))))))))
 exact ax 0 (ar (Z6 1 [0] (Zy 2 b1 [QK ds1 v1,.ms g1 0 nn1 4] (ie (Z9 (r3 [4,2] [.agg [QK ds1 v1,.ms g1 0 nn1 4]] [0] [(b1,b1)] ⟨rq,ds1,nn1,g1,pq,rfl,rfl,⟨⟨by rw [show j=0 by omega] at Zm;exact Zm,hgd,by omega,by omega⟩,by omega⟩⟩ (Zf.agg (.cons (Zf.forget _ _) (.cons (lr _) .nil)))))))))
theorem Pv (rd:Nat) (bs:LI) (p:Nat) (Zq:∀z∈bs,0<=z/\z<=255) (hp:p+400000<=1000000000:=by exact ob):Zi 120 [.p rd 0] [Y4 rd bs p] (fun r h=>∃(g:Xv) (p2:Nat),r=QZ g/\h=[Y4 rd bs p2]/\DI g/\p<=p2/\p2<=p+400000):=(XN.frzP (E:=List Func × List Zd × Nat × Nat) (ds:=fun e=>e.2.1) (rs:=fun e=>e.1) (m:=fun e=>e.2.2.1) (hs:=fun e=>[.obj rd [WW bs,.i (e.2.2.2:Nat)]]) (Q:=fun e=>(GL e.2.1 e.2.2.1 0 e.1/\GD e.2.1/\1<=e.2.2.1/\e.2.2.1<=4)/\p<=e.2.2.2/\e.2.2.2<=p+400000)
  ((Pw rd bs p Zq hp).mono fun r h ⟨rs,ds,m,gb,p2,hr,hh,hq⟩=>⟨(rs,ds,m,p2),gb,hr,hh,hq⟩) fun e hq=>⟨hq.1.2.2.2,hq.1.1.len⟩).mono
  fun r h ⟨e,hr,hh,hq⟩=>⟨⟨e.2.1,e.1.take e.2.2.1⟩,e.2.2.2,hr,hh,hq.1.1.done hq.1.2.1 hq.1.2.2,hq.2⟩
theorem EE (a:Nat) (n:Nat) (ha:a<=1000000:=by exact ob) (hn:n<=1000000:=by exact ob):Zi 153 [.i a,.i n] [] (fun r h=>∃(xs:LI),r=Z5 xs/\h=[]/\xs.length=n/\∀i∈xs,(a:Int)<=i/\i<(a:Int)+n):=by
 refine ZB 20 Tryz.func153 (ar (Z0 1 (ie (ar (iL (Z7 []) 0 1 fun v1=>?_)))))
 refine Z0 1 (ie (aq (ar (Z0 1 (ie (ab 0 (ZX (fun fz gz m F h=>∃(k:Nat) (ys:LI) (u:Value),(k<=n)/\(ys.length=k)/\(∀i∈ys,(a:Int)<=i/\i<(a:Int)+n)/\F=sF [0,1] fz [(5,ZO ys u),(6,.i k)]/\h=[.tail u 1]/\m=n-k) _ _ _ ⟨0,[],v1,ob,ob,(fun i hi=>by cases hi),rfl,rfl,rfl⟩ (wk [0] (fr (Y7 fl))) ?_)))))))
 rintro m F h ⟨k,ys,u,Y8,Zm,Zo,rfl,rfl,rfl⟩
 refine aq (ar (Z0 3 (ie (ZH ((k:Int)<(n:Int)) (fun Za=>?_) (fun Za=>?_)))))
 ·exact ak (aq (ab 1 (az (Z0 3 (ia (((a+k:Nat):Int)) (((a:Int))+((k:Int))) (iL (Z7 [((a+k:Nat):Int)]) 1 1 fun v2=>ZA 0 [(17,Z5 [((a+k:Nat):Int)])] (ip 1 (Z7 (ys++[((a+k:Nat):Int)])) (Z7 ys) (Z7 [((a+k:Nat):Int)]) u none 1 (Yl _) (Yl _) (XD _) (by simp<;>omega) (by simp [XA,Z7]) fun v3=>Z0 1 (ie (az (Z0 1 (ZE k (Z0 1 (ie (ZG ⟨k+1,(ys++[((a+k:Nat):Int)]),v3,ob,ob,(YZ Zo om),rfl,rfl,rfl⟩ (wk [0] (fr (ZI k fl)))))))))))))))))
 exact ax 0 (ar (Z0 2 (ie (Z9 (r2 [] [ZO ys u] ⟨ys,rfl,rfl,⟨by omega,Zo⟩⟩ (Zf.forget _ _))))))
theorem Ho (l:Nat) (xs:List Z3) (w:Value) (q:Nat) (s:Z3) (hl:xs.length<=4000000000:=by exact ob) (hq:q<=1000000:=by exact ob):Zi 218 [.p l 0,Yk s] [.obj l [Yx xs w,.i q],.tail w 5] (fun r h=>∃(w2:Value),r=.i q/\h=[.obj l [Yx (xs++[s]) w2,.i (((q+1):Nat):Int)],.tail w2 5]):=by
 exact ZB 28 Tryz.func218 (ar (iA (X6 s) fun b1=>Z0 1 (ie (aD 11 (ZD 5 11 [0,1,2,3,4,5] [1,0] (Z8 6 (XP 6 [1] [l] [Yk s] (Zk [s]) (Wx [s]).symm 1 5 fun v1=>Y9 4 4 [] [(11,W7 [s])] (Z8 7 (dp 7 3 [] [] (Zk (xs++[s])) (Zk xs) (Zk [s]) w none 5 (YP _) (YP _) (WL _) (by simp<;>omega) (by simp [W0,Zk]) fun v2=>Zj 1 3 [8,9] (Z8 10 (Yo 10 3 [] [] l [Yx (xs++[s]) v2,.i q] (de (ar (Z6 5 [0] (ZE q (Z0 2 (Zy 0 l [Yx (xs++[s]) v2,.i (q+1:Nat)] (ie (ar (Z6 4 [0] (ia ((((q+1:Nat):Int)-1)) ((((q+1:Nat):Int))-(1)) (Z0 1 (ie (Z9 (r2 [0,0] [.i (((q+1:Nat):Int)-1)] ⟨v2,rfl,rfl⟩ li)))))))))))))))))))))))))
theorem Hy (g:Xv) (e:Z1) (us:LI) (q:Nat) (bb:Nat) (he:eW g.decls g.funcs.length us.length e:=by exact ob) (hu:∀a∈us,0<=a/\a<(q:Int)) (hul:us.length+4*e.sz<=100000:=by exact ob) (hql:q+6*e.sz<=100000:=by exact ob) (hb:e.sz<bb:=by exact ob) (ih:∀(l:Nat) (e2:Z1) (us2:LI) (xs2:List Z3) (w2:Value) (q2:Nat),(eW g.decls g.funcs.length us2.length e2)->(∀a∈us2,0<=a/\a<(q2:Int))->(us2.length+4*e2.sz<=100000)->(xs2.length+6*e2.sz<=100000)->(q2+6*e2.sz<=100000)->(e2.sz<bb)->Zi 188 [.p l 0,QZ g,ZL e2,Z5 us2] [.obj l [Yx xs2 w2,.i q2],.tail w2 5] (fun r h=>∃(ys:List Z3) (v:Int) (w2:Value),r=.i v/\h=[.obj l [Yx (xs2++ys) w2,.i (((q2+Yy ys):Nat):Int)],.tail w2 5]/\LW g.decls g.funcs.length q2 e2 ys v)):Zi 152 [QZ g,ZL e,Z5 us,.i q] [] (fun r h=>∃(b:Z4),r=ZC b/\h=[]/\LB g.decls g.funcs.length q e b):=by
 refine ZB 26 Tryz.func152 (ar (iA (F3 g) fun b1=>iA (Yt e) fun b2=>iA [nl,.i 0] fun b3=>ie (ar (iL (Zk []) 0 5 fun v1=>Z0 2 (iA [Yx [] v1,.i q] fun b4=>Z0 1 (ie (ar (Z6 4 [4,3] (ic [0,0] (ih b4 e us [] v1 q he hu ob ob ob ob) ?_)))))))))
 rintro _ _ ⟨ys1,v2,w21,rfl,rfl,ZT⟩
 have hlw:=ZT
 exact Z0 1 (ie (ar (Z6 6 [0] (Zy 2 b3 [Yx ([]++ys1) w21,.i v2] (ie (Z9 (r3 [] [.agg [Yx ([]++ys1) w21,.i v2]] [0] [(b3,b3)] ⟨(Z4.mk ([]++ys1) v2),rfl,rfl,(by rw [A1];exact hlw.block)⟩ (Zf.agg (.cons (Zf.forget _ _) (.cons (lr _) .nil))))))))))
theorem PJ (l:Nat) (g:Xv) (e:Z1) (us:LI) (xs:List Z3) (w:Value) (q:Nat) (hd:GD g.decls) (he:eW g.decls g.funcs.length us.length e) (hu:∀a∈us,0<=a/\a<(q:Int)) (hul:us.length+4*e.sz<=100000) (hxl:xs.length+6*e.sz<=100000) (hql:q+6*e.sz<=100000) (ih:∀(l:Nat) (e2:Z1) (us2:LI) (xs2:List Z3) (w2:Value) (q2:Nat),(eW g.decls g.funcs.length us2.length e2)->(∀a∈us2,0<=a/\a<(q2:Int))->(us2.length+4*e2.sz<=100000)->(xs2.length+6*e2.sz<=100000)->(q2+6*e2.sz<=100000)->(e2.sz<e.sz)->Zi 188 [.p l 0,QZ g,ZL e2,Z5 us2] [.obj l [Yx xs2 w2,.i q2],.tail w2 5] (fun r h=>∃(ys:List Z3) (v:Int) (w2:Value),r=.i v/\h=[.obj l [Yx (xs2++ys) w2,.i (((q2+Yy ys):Nat):Int)],.tail w2 5]/\LW g.decls g.funcs.length q2 e2 ys v)):Zi 188 [.p l 0,QZ g,ZL e,Z5 us] [.obj l [Yx xs w,.i q],.tail w 5] (fun r h=>∃(ys:List Z3) (v:Int) (w2:Value),r=.i v/\h=[.obj l [Yx (xs++ys) w2,.i (((q+Yy ys):Nat):Int)],.tail w2 5]/\LW g.decls g.funcs.length q e ys v):=by
 have Xl:=hd.ok
 obtain ⟨ho,h12,h13,h7,h8,h9,hnum,hkl,hks⟩:=(OA e).1 he
 have hez:=e.sz_eq
 refine ZB 148 Tryz.func188 (ar (iA (F3 g) fun b1=>iA (Yt e) fun b2=>Z0 1 (ie (aq (ar (Z6 2 [0] (ie (ab 0 (ar (Z0 2 (ie (ac (e.op==12) Zz (fun Za=>?_) (fun Za=>?_)))))))))))))
 ·refine ar (Z6 3 [0] ?_)
  obtain ⟨x1,Z2⟩:=Zp us e.num.toNat (by have:=h12 om;omega)
  have huv:=hu _ (ZU Z2)
  exact Zn (Zh none e.num 1 (ZQ Z2)) (Z0 2 (ie (Z9 (r1 [2,2] ⟨[],x1,w,rfl,rfl,(LW.var huv)⟩ (eq:=(ro (ls:=[Yx xs w,.i q]) (by simp [Yy]) (rc rz)))))))
 refine ar (Z0 2 (ie (ac (e.op==13) Zz (fun Zg=>?_) (fun Zg=>?_))))
 ·refine aD 9 (ZD 5 9 [0,1,2,3] [1,0] ?_)
  obtain ⟨x2,Zt⟩:=Zp e.kids 0 (by have:=h13 om;omega)
  have hekx2:=An hks Zt
  have hszx2:=JD Zt
  have htzx2:=KW Zt
  rw [Wc] at hekx2
  rw [Lo om] at hekx2
  refine dx 4 (Zh none 0 3 (Aj Zt)) (Zj 2 4 [5,6] (Z8 7 (dc 7 [2,2] [] [] (ih l x2 us xs w q (by first|assumption|(rw [Yb];assumption)) (by first|assumption|exact BR hu hlwhp1.v|exact Dv hu) (by first|omega|(simp only [Yb,Yw,YV];omega)) (by first|omega|(simp only [Yb,Yw,YV];omega)) ob ob) ?_)))
  rintro _ _ ⟨ys1,v1,w21,rfl,rfl,ZT⟩
  have hlwhp1:=ZT
  have hldhp1:=ZT.dn
  refine Zj 0 1 [8] (de (aD 12 (ZD 8 12 [0,1,2,3] [3,2] ?_)))
  obtain ⟨x3,YQ⟩:=Zp e.kids 1 (by have:=h13 om;omega)
  have hz2:=H3 Zt YQ
  have hz3:=x2.sz_eq
  have hekx3:=An hks YQ
  have hszx3:=JD YQ
  have htzx3:=KW YQ
  rw [Wc] at hekx3
  rw [Lo om] at hekx3
  refine dx 4 (Zh none 1 3 (Aj YQ)) (Zj 4 7 [5,6,7] (Z8 8 (dL 8 [1,2] [b2,b1] (Z7 [v1]) 1 1 fun v2=>Y9 3 3 [] [(45,Z5 [v1])] (Z8 9 (dc 9 [] [1,2] [b2,b1] (Ti us [v1]) ?_)))))
  rintro _ _ ⟨v3,rfl,rfl⟩
  refine Y9 2 2 [] [(46,Z5 (us++[v1]))] (Z8 10 (dc 10 [2,2] [] [] (ih l x3 (us++[v1]) (xs++ys1) w21 (q+Yy ys1) (by first|assumption|(rw [Yb];assumption)) (by first|assumption|exact BR hu hlwhp1.v|exact Dv hu) (by first|omega|(simp only [Yb,Yw,YV];omega)) (by first|omega|(simp only [Yb,Yw,YV];omega)) ob ob) ?_))
  rintro _ _ ⟨ys2,v4,w22,rfl,rfl,Y6⟩
  have hlwhp2:=Y6
  have hldhp2:=Y6.dn
  exact Zj 0 1 [11] (de (Z9 (r1 [0,0] ⟨(ys1++ys2),v4,w22,rfl,rfl,(LW.let_ hlwhp1 hlwhp2 (by have:=H3 Zt YQ;omega))⟩ (eq:=(ro (ls:=[Yx ((xs++ys1)++ys2) w22,.i ((((q+Yy ys1)+Yy ys2):Nat):Int)]) (by rw [Q9,<-KC,U9]) (rc rz))))))
 refine aq (ar (Z0 2 (ie (Xo (fun fz gz F h=>F=sF [0,3,5,6] fz [(48,.b ((e.op==7)||(e.op==8)))]/\h=gz) ?_ ?_))))
 ·refine ac (e.op==7) Zz (fun ZK=>?_) (fun ZK=>?_)
  ·exact ak (ZF ⟨rfl,rfl⟩ (ZP 4 (fc (x:=.b (e.op==7)) (lb (by first|rfl|(rw [Zw ZK])|(rw [Zs ZK])|(simp [ZK];done)|(rw [Xi];simp [ZK];done)|omega)) fl)))
  exact az (Z0 2 (ie (ZF ⟨rfl,rfl⟩ (ZP 4 (fc (x:=.b (e.op==8)) (lb (by first|rfl|(rw [Zw ZK])|(rw [Zs ZK])|(simp [ZK];done)|(rw [Xi];simp [ZK];done)|omega)) fl)))))
 rintro F h ⟨rfl,rfl⟩
 refine ac ((e.op==7)||(e.op==8)) (p:=(e.op=7)∨(e.op=8)) (X3 Zz Zz) (fun Yi=>?_) (fun Yi=>?_)
 ·refine aD 9 (ZD 5 9 [0,1,2,3] [1,0] ?_)
  obtain ⟨x4,T9⟩:=Zp e.kids 0 om
  have hekx4:=An hks T9
  have hszx4:=JD T9
  have htzx4:=KW T9
  rw [Wc] at hekx4
  rw [Z1d om] at hekx4
  refine dx 4 (Zh none 0 3 (Aj T9)) (Zj 2 4 [5,6] (Z8 7 (dc 7 [2,2] [] [] (ih l x4 us xs w q (by first|assumption|(rw [Yb];assumption)) (by first|assumption|exact BR hu hlwhp1.v|exact Dv hu) (by first|omega|(simp only [Yb,Yw,YV];omega)) (by first|omega|(simp only [Yb,Yw,YV];omega)) ob ob) ?_)))
  rintro _ _ ⟨ys3,v5,w23,rfl,rfl,YA⟩
  have hlwhp3:=YA
  have hldhp3:=YA.dn
  refine Zj 0 1 [8] (de (ar (iL (Yh []) 0 2 fun v6=>Z0 1 (ie (ar (Z6 4 [4,3] (ic [] (QO g.decls e.num) ?_)))))))
  rintro _ _ ⟨v7,rfl,rfl⟩
  refine Z0 1 (ie (aq (ar (Z0 1 (ie (ab 1 (ZX (fun fz gz m F h=>∃(k:Nat) (cs:List Z4) (u:Value),(1<=k/\k<=e.kids.length)/\(cs.length+1=k)/\(Ug g.decls g.funcs.length (VL g.decls e.op e.num (q+Yy ys3)) 0 cs)/\(YF cs+6*x4.sz<=cs.length+6*YX (e.kids.take k))/\(Td XX cs)/\F=sF [0,3,5,6,10] fz [(11,VK cs u),(12,Z5 (ZW g.decls e.num)),(13,.i k)]/\h=[Ze gz 2,Ze gz 4,Ze gz 5,.tail u 2,Ze gz 3]/\m=e.kids.length-k) _ _ _ ⟨1,[],v6,ob,ob,True.intro,(by have h:YX (e.kids.take 1)=YX (e.kids.take 0)+x4.sz:=KW T9;simp only [YF,YV];omega),True.intro,rfl,rfl,rfl⟩ (wk [2,3,3,1,1] (fr (fc (x:=ZO (ZW g.decls e.num) v7) (Zf.forget _ _) (fc (x:=.i 1) li fl)))) ?_)))))))
  rintro m F h ⟨k,cs,u,Y8,Zm,Zo,Yq,XK,rfl,rfl,rfl⟩
  refine aq (ar (Z6 3 [1] (iw (Ek e.kids) (Z0 1 (ie (ZH ((k:Int)<(e.kids.length:Int)) (fun Xt=>?_) (fun Xt=>?_)))))))
  ·refine ak (aq (ab 2 (ar (Z0 1 (ie (aq (ar (Z6 3 [1] (ie (Xo (fun fz gz F h=>∃(mf:Nat),(VL g.decls e.op e.num (q+Yy ys3) cs.length=(q+Yy ys3)+mf)/\(mf<=3)/\(Un g.decls e.op e.num us.length k=us.length+mf)/\F=sF [0,3,5,6,10,11,12,13] fz [(14,.i mf)]/\h=gz) ?_ ?_))))))))))
   ·refine ac (e.op==8) Zz (fun Xu=>?_) (fun Xu=>?_)
    ·refine aE 10 (ZD 6 10 [0,1,2,3] [2] (da 4 (((k-1:Nat):Int)) (((k:Int))-(1)) ?_))
     obtain ⟨x5,UC⟩:=Zp (ZW g.decls e.num) (k-1) (by have:=h8 om;omega)
     exact dx 5 (Zh none ((k-1:Nat):Int) 1 (ZQ UC)) (Zj 3 4 [6] (Z8 7 (Yf 7 [] [] [] (TA g.decls x5) (dn 8 (.i (((ZY g.decls x5).length:Nat):Int)) (.i (((Z7 (ZY g.decls x5)).length:Nat):Int)) (li (by rw [Y2])) (Zj 0 1 [9] (de (ZF ⟨(ZY g.decls x5).length,(Fu om (by rw [show cs.length=k-1 by omega];exact UC)),(by have:=Vr Xl x5;omega),(Z1e om (show k=(k-1)+1 by omega) UC),rfl,rfl⟩ (ZP 5 (fc (x:=.i (((ZY g.decls x5).length:Nat):Int)) (li (by first|rfl|(rw [Zw Xu])|(rw [Zs Xu])|(simp [Xu];done)|(rw [Xi];simp [Xu];done)|omega)) fl)))))))))
    exact ak (ZF ⟨0,(Fv om),om,(Lp om),rfl,rfl⟩ (ZP 5 (fc (x:=.i 0) (li (by first|rfl|(rw [Zw Xu])|(rw [Zs Xu])|(simp [Xu];done)|(rw [Xi];simp [Xu];done)|omega)) fl)))
   rintro F h ⟨mf,RT,Z51,RU,rfl,rfl⟩
   refine aE 25 (ZD 20 25 [0,1,2,3,4] [2,1] ?_)
   obtain ⟨x6,QF⟩:=Zp e.kids k om
   have hekx6:=An hks QF
   have hszx6:=JD QF
   have htzx6:=KW QF
   rw [Wc] at hekx6
   rw [RU] at hekx6
   have htk:=Kc (xs:=e.kids) (k+1)
   have hbl:=C7 cs
   refine dx 5 (Zh none (k:Int) 3 (Aj QF)) (ZD 7 19 [6,7,8,9,10,11,12,15,16,17,18,19] [0,0] (da 20 ((((q+Yy ys3)+mf:Nat):Int)) (((((q+Yy ys3):Nat):Int))+((mf:Int))) (Z8 13 (dc 13 [] [0,1,2] [l,b2,b1] (EE (q+Yy ys3) mf) ?_))))
   rintro _ _ ⟨xs1,rfl,rfl,YJ⟩
   have hnx:=YJ
   refine Z8 14 (dc 14 [] [0,1,2] [l,b2,b1] (Ti us xs1) ?_)
   rintro _ _ ⟨v8,rfl,rfl⟩
   refine Y9 4 4 [] [(98,Z5 (us++xs1))] (Z8 21 (dc 21 [] [] [] (Hy g x6 (us++xs1) ((q+Yy ys3)+mf) e.sz (he:=(by rw [Yb,hnx.1];exact hekx6)) (hu:=(Z3t hu hnx.2)) (hul:=(by rw [Yb,hnx.1];omega)) (hql:=om) (ih:=ih)) ?_))
   rintro _ _ ⟨b3,rfl,rfl,YU⟩
   have hlb:=YU
   exact Z8 22 (XP 22 [] [] [ZC b3] (Yh [b3]) (VD [b3]).symm 1 2 fun v9=>Y9 2 2 [] [(106,Xq [b3])] (Z8 23 (dp 23 5 [] [] (Yh (cs++[b3])) (Yh cs) (Yh [b3]) u none 2 (Ue _) (Ue _) (Cf _) (by simp<;>omega) (by simp [K9,Yh]) fun v10=>Zj 0 1 [24] (de (az (Z0 1 (ZE k (Z0 1 (ie (ZG ⟨k+1,(cs++[b3]),v10,ob,ob,(H5 Zo (by rw [RT];exact hlb.1)),(by have:=hlb.2;rw [B4,Yb];simp only [YF,Yw,YV];omega),(IA XK hlb.op),rfl,rfl,rfl⟩ (wk [3,3,3,0,2] (fw (ZI k fl)))))))))))))
  refine ax 1 (ar (Z6 6 [1,1] (iL (Z7 [v5]) 1 1 fun v11=>ZA 2 [(116,.agg [.i e.op,.i e.num,.i 0,Z5 [v5],Xq cs])] (ic [1,4] (Ho l (xs++ys3) w23 (q+Yy ys3) (Z3.mk e.op e.num 0 [v5] cs) (hl:=(by first|(have h1:=Qi zs;have h2:=Kc (xs:=e.kids) k;have h3:=Jx zs;(try simp only [Yb]);omega)|((try simp only [Yb]);omega))) (hq:=(by first|(have h1:=Qi zs;have h2:=Kc (xs:=e.kids) k;have h3:=Jx zs;(try simp only [Yb]);omega)|((try simp only [Yb]);omega)))) ?_))))
  rintro _ _ ⟨w24,rfl,rfl⟩
  refine Z0 1 (ie ?_)
  have hcb:YG e.op=false:=by simp [YG];omega
  exact Z9 (r1 [0,0] ⟨(ys3++[Z3.mk e.op e.num 0 [v5] cs]),(((q+Yy ys3):Nat):Int),w24,rfl,rfl,(LW.branch (s0:=x4.sz) (sr:=YX (e.kids.take k)-x4.sz) om (fun h=>by have:=h7 h;omega) (fun h=>by have:=h8 h;omega) hnum hlwhp3.fs hlwhp3.v Zo om hlwhp3.sz (by have:=C7 cs;omega) (by have:=Kc (xs:=e.kids) k;omega) hlwhp3.op XK)⟩ (eq:=(ro (ls:=[Yx ((xs++ys3)++[(Z3.mk e.op e.num 0 [v5] cs)]) w24,.i ((((q+Yy ys3)+1):Nat):Int)]) (by rw [B7 (s:=Z3.mk e.op e.num 0 [v5] cs) hcb,<-KC,U9]) (rc rz))))
 refine ak (ar (iL (Z7 []) 0 1 fun v12=>?_))
 refine Z0 1 (ie (aq (ar (Z0 1 (ie (ab 3 (ZX (fun fz gz m F h=>∃(k:Nat) (asl:LI) (u:Value) (zs:List Z3) (w3:Value),(k<=e.kids.length)/\(asl.length=k)/\(VU g.decls g.funcs.length q zs)/\(∀a∈asl,0<=a/\a<((q+Yy zs:Nat):Int))/\(Y5 zs<=6*YX (e.kids.take k))/\(Uk XX zs)/\F=sF [0,3,5,6] fz [(15,ZO asl u),(16,.i k)]/\h=[Ze gz 1,Ze gz 2,.obj l [Yx (xs++zs) w3,.i (((q+Yy zs):Nat):Int)],.tail u 1,.tail w3 5]/\m=e.kids.length-k) _ _ _ ⟨0,[],v12,[],w,ob,ob,True.intro,(fun a ha=>by cases ha),(by simp [Y5]),True.intro,rfl,rfl,rfl⟩ (wk [1,1,1,0,0] (fr (Y7 fl)) (e:=(rc (rc (ro (ls:=[Yx xs w,.i q]) (by simp [Yy]) (rc (rc rz))))))) ?_)))))))
 rintro m F h ⟨k,asl,u,zs,w3,U3,Ww,Xc,E0,Z4l,Gv,rfl,rfl,rfl⟩
 refine aq (ar (Z6 3 [0] (iw (Ek e.kids) (Z0 1 (ie (ZH ((k:Int)<(e.kids.length:Int)) (fun Tv=>?_) (fun Tv=>?_)))))))
 ·refine ak (aq (ab 4 (aD 10 (ZD 5 10 [0,1,2,3,4] [1,0] ?_))))
  obtain ⟨x7,CC⟩:=Zp e.kids k om
  have hzl:=Qi zs
  have hzd:=Jx zs
  have htk:=Kc (xs:=e.kids) (k+1)
  have hekx7:=An hks CC
  have hszx7:=JD CC
  have htzx7:=KW CC
  rw [Wc] at hekx7
  rw [Lp om] at hekx7
  refine dx 5 (Zh none (k:Int) 3 (Aj CC)) (Zj 2 4 [6,7] (Z8 8 (dc 8 [2,3] [] [] (ih l x7 us (xs++zs) w3 (q+Yy zs) (by first|assumption|(rw [Yb];assumption)) (by first|assumption|exact BR hu hlwhp1.v|exact Dv hu) (by first|omega|(simp only [Yb,Yw,YV];omega)) (by first|omega|(simp only [Yb,Yw,YV];omega)) ob ob) ?_)))
  rintro _ _ ⟨ys4,v13,w25,rfl,rfl,XI⟩
  have hlwhp6:=XI
  have hldhp6:=XI.dn
  exact Zj 0 1 [9] (de (az (Z0 2 (iL (Z7 [v13]) 1 1 fun v14=>ZA 0 [(137,Z5 [v13])] (ip 5 (Z7 (asl++[v13])) (Z7 asl) (Z7 [v13]) u none 1 (Yl _) (Yl _) (XD _) (by simp<;>omega) (by simp [XA,Z7]) fun v15=>Z0 1 (ie (az (Z0 1 (ZE k (Z0 1 (ie (ZG ⟨k+1,(asl++[v13]),v15,(zs++ys4),w25,ob,ob,(Ao.2 ⟨Xc,hlwhp6.fs⟩),(by rw [Q9,<-KC];exact BR E0 hlwhp6.v),(by have:=hlwhp6.sz;rw [VZ];omega),(D0.2 ⟨Gv,hlwhp6.op⟩),rfl,rfl,rfl⟩ (wk [4,4,2,0,1] (fr (ZI k fl)) (e:=(rc (rc (ro (ls:=[Yx ((xs++zs)++ys4) w25,.i ((((q+Yy zs)+Yy ys4):Nat):Int)]) (by rw [Q9,<-KC,U9]) (rc (rc rz)))))))))))))))))))
 refine ax 3 (ar (Z6 6 [0,0] (iL (Yh []) 0 2 fun v16=>ZA 1 [(146,.agg [.i e.op,.i e.num,.i 0,Z5 asl,Xq []])] (ic [3,4] (Ho l (xs++zs) w3 (q+Yy zs) (Z3.mk e.op e.num 0 asl []) (hl:=(by first|(have h1:=Qi zs;have h2:=Kc (xs:=e.kids) k;have h3:=Jx zs;(try simp only [Yb]);omega)|((try simp only [Yb]);omega))) (hq:=(by first|(have h1:=Qi zs;have h2:=Kc (xs:=e.kids) k;have h3:=Jx zs;(try simp only [Yb]);omega)|((try simp only [Yb]);omega)))) ?_))))
 rintro _ _ ⟨w26,rfl,rfl⟩
 refine Z0 1 (ie ?_)
 have hcb:YG e.op=false:=by simp [YG];omega
 exact Z9 (r1 [0,0] ⟨(zs++[Z3.mk e.op e.num 0 asl []]),(((q+Yy zs):Nat):Int),w26,rfl,rfl,(LW.node om h9 hnum Xc E0 om (by have:=Kc (xs:=e.kids) k;omega) Gv)⟩ (eq:=(ro (ls:=[Yx ((xs++zs)++[(Z3.mk e.op e.num 0 asl [])]) w26,.i ((((q+Yy zs)+1):Nat):Int)]) (by rw [B7 (s:=Z3.mk e.op e.num 0 asl []) hcb,<-KC,<-U9]) (rc rz))))
theorem PI (l:Nat) (g:Xv) (e:Z1) (us:LI) (xs:List Z3) (w:Value) (q:Nat) (hd:GD g.decls) (he:eW g.decls g.funcs.length us.length e) (hu:∀a∈us,0<=a/\a<(q:Int)) (hul:us.length+4*e.sz<=100000) (hxl:xs.length+6*e.sz<=100000) (hql:q+6*e.sz<=100000):Zi 188 [.p l 0,QZ g,ZL e,Z5 us] [.obj l [Yx xs w,.i q],.tail w 5] (fun r h=>∃(ys:List Z3) (v:Int) (w2:Value),r=.i v/\h=[.obj l [Yx (xs++ys) w2,.i (((q+Yy ys):Nat):Int)],.tail w2 5]/\LW g.decls g.funcs.length q e ys v):=by
 have key:∀k:Nat,∀(l:Nat) (e2:Z1) (us2:LI) (xs2:List Z3) (w2:Value) (q2:Nat),(eW g.decls g.funcs.length us2.length e2)->(∀a∈us2,0<=a/\a<(q2:Int))->(us2.length+4*e2.sz<=100000)->(xs2.length+6*e2.sz<=100000)->(q2+6*e2.sz<=100000)->(e2.sz<k)->Zi 188 [.p l 0,QZ g,ZL e2,Z5 us2] [.obj l [Yx xs2 w2,.i q2],.tail w2 5] (fun r h=>∃(ys:List Z3) (v:Int) (w2:Value),r=.i v/\h=[.obj l [Yx (xs2++ys) w2,.i (((q2+Yy ys):Nat):Int)],.tail w2 5]/\LW g.decls g.funcs.length q2 e2 ys v):=by
  intro k
  induction k with
  | zero=>intro l e2 us2 xs2 w2 q2 h1 h2 h3 h4 h5 h6;omega
  | succ k ih=>intro l e2 us2 xs2 w2 q2 h1 h2 h3 h4 h5 h6;exact PJ l g e2 us2 xs2 w2 q2 hd h1 h2 h3 h4 h5 fun l e3 us3 xs3 w3 q3 a1 a2 a3 a4 a5 a6=>ih l e3 us3 xs3 w3 q3 a1 a2 a3 a4 a5 om
 exact key (e.sz+1) l e us xs w q he hu hul hxl hql om
theorem ED (g:Xv) (e:Z1) (us:LI) (q:Nat) (hd:GD g.decls:=by exact ob) (he:eW g.decls g.funcs.length us.length e:=by exact ob) (hu:∀a∈us,0<=a/\a<(q:Int)) (hul:us.length+4*e.sz<=100000:=by exact ob) (hql:q+6*e.sz<=100000:=by exact ob):Zi 152 [QZ g,ZL e,Z5 us,.i q] [] (fun r h=>∃(b:Z4),r=ZC b/\h=[]/\LB g.decls g.funcs.length q e b):=(Hy g e us q (e.sz+1) he hu hul hql om (fun l e2 us2 xs2 w2 q2 h1 h2 h3 h4 h5 _=>PI l g e2 us2 xs2 w2 q2 hd h1 h2 h3 h4 h5))
theorem JX (ds:List Zd) (hd:Wg ds:=by exact ob):Zi 113 [YB ds] [] (Ym (YB ds)):=by
 have hdl:=hd.len
 refine ZB 55 Tryz.func113 (ar (Z0 1 (ie (ar (iL (YM []) 0 3 fun v1=>?_)))))
 refine Z0 1 (ie (aq (ar (Z0 1 (ie (ab 0 (ZX (fun fz gz m F h=>∃(k:Nat) (v:Value),(k<=ds.length)/\F=sF [0] fz [(3,QK (ds.take k) v),(4,.i k)]/\h=[.tail v 3]/\m=ds.length-k) _ _ _ ⟨0,v1,ob,rfl,rfl,rfl⟩ (wk [0] (fc (x:=QK [] v1) (Zf.slh _ (Yg YM rfl)) (Y7 fl))) ?_)))))))
 rintro m F h ⟨k,v,Y8,rfl,rfl,rfl⟩
 refine aq (ar (Z0 2 (iw (T3 ds) (Z0 1 (ie (ZH ((k:Int)<(ds.length:Int)) (fun Za=>?_) (fun Za=>?_)))))))
 ·obtain ⟨xd,hxd⟩:=Zp ds k om
  have hcl:=hd.cons_at hxd
  refine ak (aq (ab 1 (ar (iL (W6 []) 0 1 fun v2=>?_))))
  refine Z0 1 (ie (aq (ar (Z0 1 (ie (ab 2 (ZX (fun fz gz m F h=>∃(j:Nat) (u:Value),(j<=xd.cons.length)/\F=sF [0,3,4] fz [(5,CY (xd.cons.take j) u),(6,.i j)]/\h=[.tail u 1,Ze gz 1]/\m=xd.cons.length-j) _ _ _ ⟨0,v2,ob,rfl,rfl,rfl⟩ (wk [0,0] (fc (x:=CY [] v2) (Zf.slh _ (Yg W6 rfl)) (Y7 fl))) ?_)))))))
  rintro m F h ⟨j,u,U3,rfl,rfl,rfl⟩
  refine aq (ar (Z0 3 (Zn (Zh none (k:Int) 3 (VE hxd)) (Z0 2 (iw (QA xd.cons) (Z0 1 (ie (ZH ((j:Int)<(xd.cons.length:Int)) (fun Zg=>?_) (fun Zg=>?_)))))))))
  ·refine ak (aq (ab 3 (az (Z0 3 (Zn (Zh none (k:Int) 3 (VE hxd)) (Z0 3 ?_))))))
   obtain ⟨x1,Z2⟩:=Zp xd.cons j om
   have hfl:=hd.fields_at hxd Z2
   refine Zn (Zh none (j:Int) 1 (Cg Z2)) (Z0 2 (ic [] (V7 x1.fields) ?_))
   rintro _ _ ⟨v3,rfl,rfl⟩
   exact ZA 1 [(36,C4 x1)] (iL (W6 [x1]) 1 1 fun v4=>ZA 0 [(37,TZ [x1])] (ip 2 (W6 (xd.cons.take (j+1))) (W6 (xd.cons.take j)) (W6 [x1]) u none 1 (Eh _) (Eh _) (Oo _) (by simp<;>omega) (by rw [Ve Z2];simp [W6]) fun v5=>Z0 1 (ie (az (Z0 1 (ZE j (Z0 1 (ie (ZG ⟨j+1,v5,ob,rfl,rfl,rfl⟩ (wk [0,2] (fr (ZI j fl))))))))))))
  exact ax 2 (aE 16 (Zj 13 16 [0,1,2] (dx 3 (Zh none (k:Int) 3 (VE hxd)) (Zj 8 12 [4,5,6,7] (dx 8 (Zh none (k:Int) 3 (VE hxd)) (Y9 3 7 [9,10,11,12] [(51,.agg [.i xd.frm,.i xd.to_,TZ (xd.cons.take j)])] (Z8 13 (dL 13 [] [] (YM [Zd.mk xd.frm xd.to_ (xd.cons.take j)]) 1 3 fun v6=>Y9 2 2 [] [(52,YB [Zd.mk xd.frm xd.to_ (xd.cons.take j)])] (Z8 14 (dp 14 2 [] [] (YM (ds.take (k+1))) (YM (ds.take k)) (YM [Zd.mk xd.frm xd.to_ (xd.cons.take j)]) v none 3 (Ka _) (Ka _) (Ch _) (by simp<;>omega) (by rw [Ve hxd];simp [YM,Vo (show xd.cons.length<=j by omega)]) fun v7=>Zj 0 1 [15] (de (az (Z0 1 (ZE k (Z0 1 (ie (ZG ⟨k+1,v7,ob,rfl,rfl,rfl⟩ (wk [0] (fr (ZI k fl))))))))))))))))))))
 exact ax 0 (ar (Z0 2 (ie (Z9 (ZZ (QK (ds.take k) v) (Zf.sl _ (Yg YM (by rw [Vo om]))))))))
theorem PQ (g:Xv) (hg:DI g:=by exact ob):Zi 119 [QZ g] [] (fun r h=>∃(n:Zu),r=Yc n/\h=[]/\FO n 181 XX):=by
 have hgl:=hg.gp.len
 have Xl:=hg.gp.decls.ok
 refine ZB 49 Tryz.func119 (ar (iA (F3 g) fun b1=>iA [nl,nl] fun b2=>ie (ar (Z6 2 [1] (Zr [] (JX g.decls) (iL (Yn []) 0 5 fun v1=>Z0 1 (iA [nl,nl] fun b3=>?_)))))))
 refine Zy 0 b3 [YB g.decls,XQ [] v1] (ie (aq (ar (Z0 1 (ie (ab 0 (ZX (fun fz gz m F h=>∃(k:Nat) (rs:List Y1) (u:Value),(k<=g.funcs.length)/\(rs.length=k)/\(∀r∈rs,RN g.decls g.funcs.length r)/\F=sF [1,2,3] fz [(4,.i k)]/\h=[.obj b3 [YB g.decls,XQ rs u],Ze gz 2,Ze gz 3,.tail u 5]/\m=g.funcs.length-k) _ _ _ ⟨0,[],v1,ob,ob,(fun r hr=>by cases hr),rfl,rfl,rfl⟩ (wk [0,1,1,0] (Y7 fl)) ?_)))))))
 rintro m F h ⟨k,rs,u,Y8,Zm,Zo,rfl,rfl,rfl⟩
 refine aq (ar (Z6 3 [2] (iw (Ak g.funcs) (Z0 1 (ie (ZH ((k:Int)<(g.funcs.length:Int)) (fun Za=>?_) (fun Za=>?_)))))))
 ·refine ak (aq (ab 1 (ar (Z6 3 [2] ?_))))
  obtain ⟨x1,Z2⟩:=Zp g.funcs k om
  have hso:=(hg.gp.sigs _ (ZU Z2)).bd
  have hsi:=hg.gp.sigs _ (ZU Z2)
  have hbo:=hg.body _ (ZU Z2)
  refine Zn (Zh none (k:Int) 5 (Ci Z2)) (Z0 1 (iA [nl,.i 0,.i 0,.i 0,nl] fun b4=>?_))
  refine Zy 0 b4 (CO x1) (ie (ar (Z6 2 [0] (iw (Y2 x1.params) (Z0 1 (ie (aD 9 (ZD 4 9 [0,1,2,3,5] [3,0] (K5 (fun fz gz F h=>∃(b5:Z4) (b6:Nat) (xs1:LI),(xs1.length=x1.params.length/\∀i∈xs1,(0:Int)<=i/\i<(0:Int)+x1.params.length)/\(LB g.decls g.funcs.length x1.params.length x1.body b5)/\F=sF [1,2,3,4,5] fz [(7,.p b6 0)]/\h=[.obj b6 (YE b5),Ze gz 0,Ze gz 1,Ze gz 2,Ze gz 3,Ze gz 4]) ?_ ?_)))))))))
  ·refine WC 4 7 ?_ ?_
   ·refine dc 4 [] [0,3] [b4,b1] (EE 0 x1.params.length) ?_
    rintro _ _ ⟨xs1,rfl,rfl,ZT⟩
    have hnx:=ZT
    refine WC 6 7 ?_ ?_
    ·refine dc 6 [] [] [] (ED g x1.body xs1 x1.params.length (hd:=hg.gp.decls) (he:=(by rw [hnx.1];exact hbo.1)) (hu:=(fun a ha=>by have:=hnx.2 a ha;omega))) ?_
     rintro _ _ ⟨b5,rfl,rfl,Y6⟩
     have hlb:=Y6
     exact Z8 7 (dA 7 [] [] [nl,.i 0] fun b6=>Z8 8 (Yo 8 0 [] [] b6 (YE b5) (de (ZF ⟨_,b6,_,(by assumption),(by assumption),rfl,rfl⟩ (ZP 6 fl)))))
    refine dA 7 [0,3] [b4,b1] [nl,.i 0] fun b7=>Z8 6 (dc 6 [] [] [] (ED g x1.body xs1 x1.params.length (hd:=hg.gp.decls) (he:=(by rw [hnx.1];exact hbo.1)) (hu:=(fun a ha=>by have:=hnx.2 a ha;omega))) ?_)
    rintro _ _ ⟨b8,rfl,rfl,YA⟩
    have hlb:=YA
    exact Z8 8 (Yo 8 0 [] [] b7 (YE b8) (de (ZF ⟨_,b7,_,(by assumption),(by assumption),rfl,rfl⟩ (ZP 6 fl))))
   refine dA 7 [0,3] [b4,b1] [nl,.i 0] fun b9=>Z8 4 (dc 4 [] [1,4] [b4,b1] (EE 0 x1.params.length) ?_)
   rintro _ _ ⟨xs2,rfl,rfl,YJ⟩
   have hnx:=YJ
   refine Z8 6 (dc 6 [] [] [] (ED g x1.body xs2 x1.params.length (hd:=hg.gp.decls) (he:=(by rw [hnx.1];exact hbo.1)) (hu:=(fun a ha=>by have:=hnx.2 a ha;omega))) ?_)
   rintro _ _ ⟨b10,rfl,rfl,YU⟩
   have hlb:=YU
   exact Z8 8 (Yo 8 0 [] [] b9 (YE b10) (de (ZF ⟨_,b9,_,(by assumption),(by assumption),rfl,rfl⟩ (ZP 6 fl))))
  rintro F h ⟨b5,b6,xs1,ZT,Y6,rfl,rfl⟩
  have hnx:=ZT
  have hlb:=Y6
  refine aE 14 (ZD 7 14 [0,1,2,3,6,7,8] [2,1,1,0] (WC 4 5 ?_ ?_))
  ·refine dc 4 [] [0,1,2] [b6,b4,b3] (V7 x1.params) ?_
   rintro _ _ ⟨v2,rfl,rfl⟩
   exact Z8 5 (dL 5 [0,1,2] [b6,b4,b3] (Z7 []) 0 1 fun v3=>Y9 4 5 [9] [(44,.agg [Z5 x1.params,Z5 [],.i x1.result,W7 b5.steps,.i b5.result])] (Z8 10 (dL 10 [2] [b3] (Yn [Y1.mk x1.params [] x1.result (Z4.mk b5.steps b5.result)]) 1 5 fun v4=>Y9 3 3 [] [(45,Ty [Y1.mk x1.params [] x1.result (Z4.mk b5.steps b5.result)])] (Z8 11 (dp 11 8 [] [] (Yn (rs++[Y1.mk x1.params [] x1.result (Z4.mk b5.steps b5.result)])) (Yn rs) (Yn [Y1.mk x1.params [] x1.result (Z4.mk b5.steps b5.result)]) u none 5 (Vt _) (Vt _) (KV _) (by simp<;>omega) (by simp [JB,Yn]) fun v5=>Zj 1 2 [12] (Z8 13 (Yo 13 6 [] [] b3 [YB g.decls,XQ (rs++[Y1.mk x1.params [] x1.result (Z4.mk b5.steps b5.result)]) v5] (de (az (Z0 1 (ZE k (Z0 1 (ie (ZG ⟨k+1,(rs++[Y1.mk x1.params [] x1.result (Z4.mk b5.steps b5.result)]),v5,ob,ob,(YZ Zo (RN.of hsi hlb hbo.2)),rfl,rfl,rfl⟩ (wk [0,6,6,0] (ZI k fl))))))))))))))))
  refine dL 5 [0,1,1,2] [b6,b4,b4,b3] (Z7 []) 0 1 fun v6=>Z8 4 (dc 4 [] [0,1,2] [b6,b4,b3] (V7 x1.params) ?_)
  rintro _ _ ⟨v7,rfl,rfl⟩
  exact Y9 4 5 [9] [(44,.agg [Z5 x1.params,Z5 [],.i x1.result,W7 b5.steps,.i b5.result])] (Z8 10 (dL 10 [2] [b3] (Yn [Y1.mk x1.params [] x1.result (Z4.mk b5.steps b5.result)]) 1 5 fun v8=>Y9 3 3 [] [(45,Ty [Y1.mk x1.params [] x1.result (Z4.mk b5.steps b5.result)])] (Z8 11 (dp 11 8 [] [] (Yn (rs++[Y1.mk x1.params [] x1.result (Z4.mk b5.steps b5.result)])) (Yn rs) (Yn [Y1.mk x1.params [] x1.result (Z4.mk b5.steps b5.result)]) u none 5 (Vt _) (Vt _) (KV _) (by simp<;>omega) (by simp [JB,Yn]) fun v9=>Zj 1 2 [12] (Z8 13 (Yo 13 6 [] [] b3 [YB g.decls,XQ (rs++[Y1.mk x1.params [] x1.result (Z4.mk b5.steps b5.result)]) v9] (de (az (Z0 1 (ZE k (Z0 1 (ie (ZG ⟨k+1,(rs++[Y1.mk x1.params [] x1.result (Z4.mk b5.steps b5.result)]),v9,ob,ob,(YZ Zo (RN.of hsi hlb hbo.2)),rfl,rfl,rfl⟩ (wk [0,6,6,0] (ZI k fl)))))))))))))))
 exact ax 0 (ar (Z6 1 [0] (Zy 1 b2 [YB g.decls,XQ rs u] (ie (Z9 (r3 [] [.agg [YB g.decls,XQ rs u]] [0] [(b2,b2)] ⟨(Zu.mk g.decls rs),rfl,rfl,(RN.all hg.gp.decls (by show 1<=rs.length/\rs.length<=4;omega) (by show ∀r∈rs,RN g.decls rs.length r;rw [show rs.length=g.funcs.length by omega];exact Zo) om)⟩ (Zf.agg (.cons (lr _) (.cons (Zf.forget _ _) .nil)))))))))
theorem Z2q (n:Zu) (hz:KH n:=by exact ob):Zi 62 [Yc n] [] (Ym (.b (TE n))):=by
 have hzl:=hz.len
 refine ZB 35 Tryz.func62 (ar (iA (YC n) fun b1=>Z0 1 (ie (aq (ar (Z6 1 [0] (Zr [] (Z2p n (hz:=hz.decls) (hr:=(fun r hr=>⟨hz.params r hr,hz.lent r hr⟩))) (Z0 1 (ie (ac (!QJ n) (p:=¬(QJ n=true)) (YR Iff.rfl) (fun Za=>?_) (fun Za=>?_)))))))))))
 ·exact ar (Z0 1 (ie (Z9 (ZZ (.b false) (lb (by first|rfl|omega|grind [TE]))))))
 have hok:=Iq hz (by simpa using Za)
 refine ak (aq (ar (Z0 1 (ie (ab 0 (ZX (fun fz gz m F h=>∃(k:Nat),(k<=n.routines.length)/\(Ku n (n.routines.drop k)=Ku n n.routines)/\F=sF [1] fz [(3,.i k)]/\h=gz/\m=n.routines.length-k) _ _ _ ⟨0,ob,ob,rfl,rfl,rfl⟩ (wk [0] (Y7 fl)) ?_))))))
 rintro m F h ⟨k,Y8,Zm,rfl,rfl,rfl⟩
 refine aq (ar (Z6 3 [0] (iw (U4 n.routines) (Z0 1 (ie (ZH ((k:Int)<(n.routines.length:Int)) (fun Zg=>?_) (fun Zg=>?_)))))))
 ·refine ak (aq (ab 1 (ar (Z6 3 [0] ?_))))
  obtain ⟨x1,Z2⟩:=Zp n.routines k om
  have Zq:=hz.body _ (ZU Z2)
  have hps:=hok.params_at Z2
  refine Zn (Zh none (k:Int) 5 (Wk Z2)) (Z0 1 (iA [nl,nl,.i 0,nl,.i 0] fun b2=>Zy 0 b2 (QH x1) (ie (aD 15 (ZD 13 15 [0,1] [0] (Z8 2 (Yf 2 [] [] [] (LV x1.body) (Ah [1,3] [(34,.b ((decide ((Wy x1.body)<0))||((Xx n x1.params x1.body) != x1.result)))] (fun gz=>gz) ?_ ?_))))))))
  ·refine Zj 10 12 [3,4] (db (b:=(decide ((Wy x1.body)<0))) 24 (fun Zb=>?_) (fun Zb=>?_))
   ·exact Zj 0 10 [5,6,7,8,9,10,11,12,13,14] (de (wk [0,0] (ZJ true Zb fl)))
   exact ZD 3 10 [5,6,7,8,9,11,12] [1,0,0,0] (Z8 10 (Yf 10 [] [0] [b2] (LL n x1.params x1.body ob ob) (Zj 0 2 [13,14] (de (wk [0,0] (ZJ ((Xx n x1.params x1.body) != x1.result) Zb fl))))))
  refine ac ((decide ((Wy x1.body)<0))||((Xx n x1.params x1.body) != x1.result)) (p:=((Wy x1.body)<0)∨((Xx n x1.params x1.body)≠x1.result)) (X3 dq X4) (fun ZK=>?_) (fun ZK=>?_)
  ·refine ar (Z0 1 (ie ?_))
   rw [Ye Z2] at Zm
   exact Z9 (ZZ (.b false) (lb (by clear Z2;first|rfl|omega|grind [Ku,TE])))
  refine ak (az (Z0 1 (ZE k (Z0 1 (ie ?_)))))
  have hdr:=Ye Z2
  exact ZG ⟨k+1,ob,(by rw [hdr] at Zm;clear hdr Z2;grind [Ku]),rfl,rfl,rfl⟩ (wk [1] (ZI k fl))
 refine ax 0 (ar (Z0 1 (ie ?_)))
 try rw [Xf (xs:=n.routines) (k:=k) om] at Zm
 exact Z9 (ZZ (.b true) (lb (by first|rfl|omega|grind [Ku,TE])))
theorem LP (op:Int) :Zi 145 [.i op] [] (Ym (.b (YG op))):=by
 exact ZB 5 Tryz.func145 (ar (Z0 1 (ie (ar (Z0 1 (Zr [] (Vz op 14 17) (Z0 1 (ie (Z9 (ZZ (.b (decide (14<=op/\op<=17))) (lb (by first|rfl|omega|grind [YG]))))))))))))
theorem LM (op:Int) :Zi 226 [.i op] [] (Ym (.b (Qw op))):=by
 refine ZB 17 Tryz.func226 (ar (Z0 1 (ie (ar (WO 6 [0] [(8,.b ((op==6)||(op==9)))] (fun gz=>gz) ?_ (fun hj1=>?_))))))
 ·refine WO 10 [0] [(12,.b (((op==6)||(op==9))||(op==10)))] (fun gz=>gz) ?_ (fun hj2=>?_)
  ·refine WO 14 [] [(16,.b ((((op==6)||(op==9))||(op==10))||(op==11)))] (fun gz=>gz) ?_ (fun hj3=>?_)
   ·exact Z0 1 (ie (Z9 (ZZ (.b ((((op==6)||(op==9))||(op==10))||(op==11))) (lb (by first|rfl|omega|grind [Qw])))))
   refine Z0 1 (ib (b:=(((op==6)||(op==9))||(op==10))) 13 (fun Zb=>?_) (fun Zb=>?_))
   ·exact Z0 3 (Xe (wk [] (ZJ true Zb fl)) hj3)
   exact Z0 3 (Xe (wk [] (ZJ (op==11) Zb fl)) hj3)
  refine Z0 1 (ib (b:=((op==6)||(op==9))) 9 (fun ZM=>?_) (fun ZM=>?_))
  ·exact Z0 3 (Xe (wk [] (ZJ true ZM fl)) hj2)
  exact Z0 3 (Xe (wk [] (ZJ (op==10) ZM fl)) hj2)
 refine Z0 3 (ib (b:=(op==6)) 5 (fun YT=>?_) (fun YT=>?_))
 ·exact Z0 3 (Xe (wk [] (ZJ true YT fl)) hj1)
 exact Z0 3 (Xe (wk [] (ZJ (op==9) YT fl)) hj1)
theorem BN (n:Zu) (s:Z3) (i:Nat) (hn:X2 n:=by exact ob) (hnum:s.op=9->0<=s.num/\s.num<n.routines.length:=by exact ob):Zi 227 [Yc n,Yk s,.i i] [] (Ym (.b (Vv n s.op s.num i))):=by
 refine ZB 21 Tryz.func227 (ar (iA (YC n) fun b1=>iA (X6 s) fun b2=>Z0 1 (ie (ar (Z6 4 [0] (ib (b:=(s.op==9)) 10 (fun Zb=>?_) (fun Zb=>?_)))))))
 ·have ZT:s.op=9:=(Zz).1 Zb
  refine Z6 4 [1,0] ?_
  obtain ⟨x1,Z2⟩:=Zp n.routines s.num.toNat om
  have hlt:=hn.lent_at Z2
  have hlr:=Sr (n:=n) ZT Z2
  exact Zn (Zh none s.num 5 (Wk Z2)) (Z0 3 (Zr [] (Vm x1.lent (i:Int)) (Z0 2 (ie (Z9 (ZZ (.b (decide ((i:Int)∈x1.lent))) (lb (by rw [Vv,hlr]))))))))
 have Y6:¬(s.op=9):=YH Zz Zb
 exact Z0 11 (ie (Z9 (ZZ (.b false) (lb (by rw [Vv,CT,Zs Y6];simp)))))
theorem Do (n:Zu) (us:LI) (s:Z3) (i:Nat) (a:Int) (hn:X2 n:=by exact ob) (hnum:s.op=9->0<=s.num/\s.num<n.routines.length:=by exact ob) (ha:s.args[i]? = some a:=by exact ob) (hi:0<=a/\a<us.length:=by exact ob):Zi 261 [Yc n,Z5 us,Yk s,.i i] [] (Ym (.b (Q7 n us s.op s.num a i))):=by
 have hal:=(Xj.1 ha).1
 refine ZB 30 Tryz.func261 (ar (iA (YC n) fun b1=>iA (X6 s) fun b2=>Z0 1 (ie (ar (Z6 2 [0] (Zr [] (LM s.op) (Z0 1 (ib (b:=Qw s.op) 12 (fun Zb=>?_) (fun Zb=>?_)))))))))
 ·refine Z6 4 [0] ?_
  obtain ⟨x1,Z2⟩:=Zp s.args i om
  have hxa:x1=a:=by rw [ha] at Z2;exact (A5 Z2).symm
  subst hxa
  refine Zn (Zh none (i:Int) 1 (ZQ Z2)) (Z0 1 ?_)
  obtain ⟨x2,Zt⟩:=Zp us x1.toNat om
  have hga:=Uv Zt
  refine Zn (Zh none x1 1 (ZQ Zt)) (Z0 4 (ib (b:=(x2 != 0)) 23 (fun ZM=>?_) (fun ZM=>?_)))
  ·exact Z6 3 [1,0] (Zr [] (BN n s i) (Z0 3 (ie (Z9 (ZZ (.b (!Vv n s.op s.num i)) (lb (by clear Z2 Zt;first|rfl|(rw [Q7];grind))))))))
  exact Z0 7 (ie (Z9 (ZZ (.b false) (lb (by clear Z2 Zt;first|rfl|(rw [Q7];grind))))))
 exact Z0 18 (ie (Z9 (ZZ (.b false) (lb (by  first|rfl|(rw [Q7];grind))))))
theorem LS (xs:LI) (ys:LI) (hl_xs:xs.length<=4294967296:=by exact ob) (hl_ys:ys.length<=4294967296:=by exact ob):Zi 263 [Z5 xs,Z5 ys] [] (Ym (.b (decide (xs=ys)))):=by
 refine ZB 26 Tryz.func263 (ar (Z0 1 (ie (aq (ar (Z0 1 (iw (Y2 xs) (Z0 1 (iw (Y2 ys) (Z0 1 (ie (ac ((xs.length:Int) != (ys.length:Int)) X4 (fun Za=>?_) (fun Za=>?_)))))))))))))
 ·exact ar (Z0 1 (ie (Z9 (ZZ (.b false) (lb (eq_comm.1 (decide_eq_false (fun q=>by rw [q] at Za;exact Za rfl))))))))
 refine ak (aq (ar (Z0 1 (ie (ab 0 (ZX (fun fz gz m F h=>∃(k:Nat),(k<=xs.length)/\(xs.take k=ys.take k)/\F=sF [0,1] fz [(5,.i k)]/\h=gz/\m=xs.length-k) _ _ _ ⟨0,ob,ob,rfl,rfl,rfl⟩ (wk [] (Y7 fl)) ?_))))))
 rintro m F h ⟨k,Y8,Zm,rfl,rfl,rfl⟩
 refine aq (ar (Z0 2 (iw (Y2 xs) (Z0 1 (ie (ZH ((k:Int)<(xs.length:Int)) (fun Zg=>?_) (fun Zg=>?_)))))))
 ·refine ak (aq (ab 1 (aD 9 (Zj 7 9 [0,1] ?_))))
  obtain ⟨x1,Z2⟩:=Zp xs k om
  refine dx 2 (Zh none (k:Int) 1 (ZQ Z2)) (Zj 3 6 [3,4,5] ?_)
  obtain ⟨x2,Zt⟩:=Zp ys k om
  refine dx 6 (Zh none (k:Int) 1 (ZQ Zt)) (Zj 0 2 [7,8] (de (ac (x1 != x2) X4 (fun ZK=>?_) (fun ZK=>?_))))
  ·exact ar (Z0 1 (ie (Z9 (ZZ (.b false) (lb (eq_comm.1 (decide_eq_false (fun q=>by subst q;rw [Z2] at Zt;cases Zt;exact ZK rfl))))))))
  refine ak (az (Z0 1 (ZE k (Z0 1 (ie ?_)))))
  have hdr:=Ye Z2
  exact ZG ⟨k+1,ob,(by rw [Ve Z2,Ve Zt,Zm];have hxx:x1=x2:=om;rw [hxx]),rfl,rfl,rfl⟩ (wk [] (ZI k fl))
 exact ax 0 (ar (Z0 1 (ie (Z9 (ZZ (.b true) (lb (eq_comm.1 (decide_eq_true (by rw [Vo om,Vo om] at Zm;exact Zm)))))))))
theorem Jg (xs:LI) (hlen:xs.length<=4294967296:=by exact ob):Zi 51 [Z5 xs] [] (fun r h=>∃(v:Hd),r=.h v/\h=[rV v xs]):=by
 exact ZB 6 Tryz.func51 (ar (Z0 1 (ie (ar (Rm [] 0 fun v1=>Z0 1 (QG 0 v1 [] xs none fun v2=>Z0 1 (ie (Z9 (r1 [0] ⟨v2,rfl,rfl⟩ (eq:=(rv (xs:=([]++xs)) ob rz)))))))))))
theorem Tw (b:Nat) (ga:Hd) (gb:Hd) (gc:Hd) (gd:Hd) (ge:Hd) (gf:Hd) (L:Zv) (ln:LI) (t:Int) (o:Int) (p:Int) (hlb:L.vars.length<=1000000000:=by exact ob) (hlk:VS L:=by exact ob):Zi 232 [.p b 0,.i t,.i o,.i p] [.obj b [.h ga,.h gb,.h gc,.h gd,.h ge,.h gf,Z5 ln],rV ga L.vars,rV gb L.own,rV gc L.par,rV gd L.con,rV ge L.fst,rV gf L.tok] (fun r h=>∃(wa:Hd) (wb:Hd) (wc:Hd) (wd:Hd) (we:Hd) (wf:Hd),h=[.obj b [.h wa,.h wb,.h wc,.h wd,.h we,.h wf,Z5 ln],rV wa ((L.grow t o p).vars),rV wb ((L.grow t o p).own),rV wc ((L.grow t o p).par),rV wd ((L.grow t o p).con),rV we ((L.grow t o p).fst),rV wf ((L.grow t o p).tok)]):=by
 obtain ⟨e1,e2,e3,e4,e5⟩:=hlk
 exact ZB 65 Tryz.func232 (ar (Z6 6 [0] (iL (Z7 [t]) 1 1 fun v1=>ZA 0 [(14,Z5 [t])] (QG 2 ga L.vars [t] none fun v2=>Z0 2 (Zy 2 b [.h v2,.h gb,.h gc,.h gd,.h ge,.h gf,Z5 ln] (ie (ar (Z6 6 [0] (iL (Z7 [o]) 1 1 fun v3=>ZA 0 [(24,Z5 [o])] (QG 4 gb L.own [o] none fun v4=>Z0 2 (Zy 2 b [.h v2,.h v4,.h gc,.h gd,.h ge,.h gf,Z5 ln] (ie (ar (Z6 6 [0] (iL (Z7 [p]) 1 1 fun v5=>ZA 0 [(34,Z5 [p])] (QG 6 gc L.par [p] none fun v6=>Z0 2 (Zy 2 b [.h v2,.h v4,.h v6,.h gd,.h ge,.h gf,Z5 ln] (ie (ar (Z6 5 [0] (iL (Z7 [-1]) 1 1 fun v7=>ZA 0 [(43,Z5 [-1])] (QG 8 gd L.con [-1] none fun v8=>Z0 2 (Zy 2 b [.h v2,.h v4,.h v6,.h v8,.h ge,.h gf,Z5 ln] (ie (ar (Z6 5 [0] (iL (Z7 [-1]) 1 1 fun v9=>ZA 0 [(52,Z5 [-1])] (QG 10 ge L.fst [-1] none fun v10=>Z0 2 (Zy 2 b [.h v2,.h v4,.h v6,.h v8,.h v10,.h gf,Z5 ln] (ie (az (Z6 5 [0] (iL (Z7 [-1]) 1 1 fun v11=>ZA 0 [(61,Z5 [-1])] (QG 12 gf L.tok [-1] none fun v12=>Z0 2 (Zy 2 b [.h v2,.h v4,.h v6,.h v8,.h v10,.h v12,Z5 ln] (ie (r2 [0,10,8,6,4,2,0] [] ⟨v2,v4,v6,v8,v10,v12,rfl⟩ (lr _) (eq:=(rc (rv (xs:=(L.vars++[t])) ob (rv (xs:=(L.own++[o])) ob (rv (xs:=(L.par++[p])) ob (rv (xs:=(L.con++[-1])) ob (rv (xs:=(L.fst++[-1])) ob (rv (xs:=(L.tok++[-1])) ob rz)))))))))))))))))))))))))))))))))))))))))))))
theorem Sm (b:Nat) (ga:Hd) (gb:Hd) (gc:Hd) (gd:Hd) (ge:Hd) (gf:Hd) (L:Zv) (ln:LI) (hlb:L.vars.length<=1000000000:=by exact ob) (hlk:VS L:=by exact ob) (hln:ln.length<=4294967296:=by exact ob):Zi 269 [.p b 0] [.obj b [.h ga,.h gb,.h gc,.h gd,.h ge,.h gf,Z5 ln],rV ga L.vars,rV gb L.own,rV gc L.par,rV gd L.con,rV ge L.fst,rV gf L.tok] (fun r h=>∃(c:Nat) (wa:Hd) (wb:Hd) (wc:Hd) (wd:Hd) (we:Hd) (wf:Hd),r=.p c 0/\h=[.obj c [.h wa,.h wb,.h wc,.h wd,.h we,.h wf,Z5 ln],rV wa L.vars,rV wb L.own,rV wc L.par,rV wd L.con,rV we L.fst,rV wf L.tok,.obj b [.h ga,.h gb,.h gc,.h gd,.h ge,.h gf,Z5 ln],rV ga L.vars,rV gb L.own,rV gc L.par,rV gd L.con,rV ge L.fst,rV gf L.tok]):=by
 obtain ⟨e1,e2,e3,e4,e5⟩:=hlk
 refine ZB 40 Tryz.func269 (ar (Z0 1 (ie (aD 38 (ZD 10 38 [0,1,2,3,5,6,7,8,10,11,12,13,15,16,17,18,20,21,22,23,25,26,27,28,30,31,32,33] [0,0,0,0,0,0,0] (Z8 4 (Qy 4 [1] [0,0,0,0,0,0] [b,b,b,b,b,b] [rV ga L.vars] (Jg L.vars) Ac (gL (v:=ga) 0 gN) (Tx Qg) ?_)))))))
 rintro _ _ ⟨v1,rfl,rfl⟩
 refine Z8 9 (Qy 9 [3] [0,0,0,0,0] [b,b,b,b,b] [rV gb L.own] (Jg L.own) Ac (gL (v:=gb) 0 gN) (Tx Qg) ?_)
 rintro _ _ ⟨v2,rfl,rfl⟩
 refine Z8 14 (Qy 14 [5] [0,0,0,0] [b,b,b,b] [rV gc L.par] (Jg L.par) Ac (gL (v:=gc) 0 gN) (Tx Qg) ?_)
 rintro _ _ ⟨v3,rfl,rfl⟩
 refine Z8 19 (Qy 19 [7] [0,0,0] [b,b,b] [rV gd L.con] (Jg L.con) Ac (gL (v:=gd) 0 gN) (Tx Qg) ?_)
 rintro _ _ ⟨v4,rfl,rfl⟩
 refine Z8 24 (Qy 24 [9] [0,0] [b,b] [rV ge L.fst] (Jg L.fst) Ac (gL (v:=ge) 0 gN) (Tx Qg) ?_)
 rintro _ _ ⟨v5,rfl,rfl⟩
 refine Z8 29 (Qy 29 [11] [0] [b] [rV gf L.tok] (Jg L.tok) Ac (gL (v:=gf) 0 gN) (Tx Qg) ?_)
 rintro _ _ ⟨v6,rfl,rfl⟩
 refine Z8 34 (dc 34 [] [] [] (V7 ln) ?_)
 rintro _ _ ⟨v7,rfl,rfl⟩
 exact Y9 2 3 [35] [(38,.agg [.h v1,.h v2,.h v3,.h v4,.h v5,.h v6,Z5 ln])] (Z8 36 (dA 36 [] [] [.h v1,.h v2,.h v3,.h v4,.h v5,.h v6,Z5 ln] fun b1=>Zj 0 1 [37] (de (Z9 (r1 [0,11,9,7,5,3,1,7,6,5,4,3,2,1] ⟨b1,v1,v2,v3,v4,v5,v6,rfl,rfl⟩)))))
theorem CQ (b:Nat) (ga:Hd) (gb:Hd) (gc:Hd) (gd:Hd) (ge:Hd) (gf:Hd) (L:Zv) (ln:LI) (i:Int) (hlk:VS L:=by exact ob) (hi:0<=i/\i<L.vars.length:=by exact ob) (hq:∀x∈L.own,0<=x/\x<=1000000000):Zi 233 [.p b 0,.i i] [.obj b [.h ga,.h gb,.h gc,.h gd,.h ge,.h gf,Z5 ln],rV ga L.vars,rV gb L.own,rV gc L.par,rV gd L.con,rV ge L.fst,rV gf L.tok] (fun r h=>(∃(wa:Hd) (wb:Hd) (wc:Hd) (wd:Hd) (we:Hd) (wf:Hd) (L':Zv),r=.b true/\h=[.obj b [.h wa,.h wb,.h wc,.h wd,.h we,.h wf,Z5 ln],rV wa L'.vars,rV wb L'.own,rV wc L'.par,rV wd L'.con,rV we L'.fst,rV wf L'.tok]/\Uq L i=some L')∨(r=.b false/\h=[]/\Uq L i=none)):=by
 obtain ⟨e1,e2,e3,e4,e5⟩:=hlk
 refine ZB 27 Tryz.func233 (ar (Z0 1 (ie (aq (ar (Z6 5 [0] (Zn (WR 2 gb L.own i i.toNat (hq:=rfl)) ?_)))))))
 obtain ⟨x1,Z2⟩:=Zp L.own i.toNat om
 have hxq:=hq _ (ZU Z2)
 have hgi:=Uv Z2
 refine V2 (UG 2 gb L.own i.toNat x1 Z2) (Z0 1 (ie (ZH (x1<1) (fun Za=>?_) (fun Za=>?_))))
 ·exact ar (Z0 1 (ie (Z9 (r1 [] (.inr ⟨rfl,rfl,(by rw [Uq,hgi,Zw Za])⟩)))))
 exact ak (aD 15 (ZD 5 15 [0,1,2,3,4,5,6,7,8,9] [0,0] (dx 10 (WR 2 gb L.own i i.toNat (hq:=rfl)) (Vb 11 (UG 2 gb L.own i.toNat x1 Z2) (da 12 ((x1-1)) ((x1)-(1)) (dx 13 (WR 2 gb L.own i i.toNat (hq:=rfl)) (Z8 14 (KU 14 2 [] [] gb L.own i.toNat (x1-1) (de (ar (Z0 1 (ie (Z9 (r1 [1,1,0,0,0,0,0] (.inl ⟨ga,gb,gc,gd,ge,gf,(Zv.mk L.vars (L.own.set i.toNat (x1-1)) L.par L.con L.fst L.tok),rfl,rfl,(by rw [Uq,hgi,Zs Za])⟩) (eq:=(rc (rv (xs:=L.vars) ob (rv (xs:=(L.own.set i.toNat (x1-1))) ob (rv (xs:=L.par) ob (rv (xs:=L.con) ob (rv (xs:=L.fst) ob (rv (xs:=L.tok) ob rz))))))))))))))))))))))
theorem CP (b:Nat) (ga:Hd) (gb:Hd) (gc:Hd) (gd:Hd) (ge:Hd) (gf:Hd) (L:Zv) (ln:LI) (i:Int) (hlk:VS L:=by exact ob) (hln:ln.length<=4294967296:=by exact ob) (hi:0<=i/\i<L.vars.length:=by exact ob) (hd:∀j:Int,0<=j->j<L.vars.length->gI L.par j<j):Zi 162 [.p b 0,.i i] [.obj b [.h ga,.h gb,.h gc,.h gd,.h ge,.h gf,Z5 ln],rV ga L.vars,rV gb L.own,rV gc L.par,rV gd L.con,rV ge L.fst,rV gf L.tok] (fun r h=>r=.b (VB L ln i)/\h=[.obj b [.h ga,.h gb,.h gc,.h gd,.h ge,.h gf,Z5 ln],rV ga L.vars,rV gb L.own,rV gc L.par,rV gd L.con,rV ge L.fst,rV gf L.tok]):=by
 obtain ⟨e1,e2,e3,e4,e5⟩:=hlk
 refine ZB 31 Tryz.func162 (ar (Z0 1 (ie (aq (ab 0 (ZX (fun fz gz m F h=>∃(j:Int),(0<=j/\j<L.vars.length)/\(T2 L.own L.par ln (j.toNat+1) j=VB L ln i)/\F=sF [0] fz [(1,.i j)]/\h=gz/\m=j.toNat) _ _ _ ⟨i,ob,ob,rfl,rfl,rfl⟩ (ZP 7 fl) ?_))))))
 rintro m F h ⟨j,Y8,Zm,rfl,rfl,rfl⟩
 refine aq (ar (Z6 5 [0] (Zn (WR 2 gb L.own j j.toNat (hq:=rfl)) ?_)))
 obtain ⟨x1,Z2⟩:=Zp L.own j.toNat om
 have hg1:=Uv Z2
 refine V2 (UG 2 gb L.own j.toNat x1 Z2) (Xr [0,1] [(21,.b ((decide (x1<1))&&(!(decide (j∈ln)))))] (fun gz=>gz) ?_ ?_)
 ·refine Z0 2 (ib (b:=(decide (x1<1))) 13 (fun Zb=>?_) (fun Zb=>?_))
  ·exact Z6 5 [0] (Zr [] (Vm ln j) (Z0 2 (ie (ZP 7 (ZJ (!(decide (j∈ln))) Zb fl)))))
  exact Z0 8 (ie (ZP 7 (ZJ false Zb fl)))
 refine ac ((decide (x1<1))&&(!(decide (j∈ln)))) (p:=(x1<1)/\(¬(j∈ln))) (Xb dq (YR dq)) (fun Za=>?_) (fun Za=>?_)
 ·refine ak (ab 1 (ar (Z6 5 [0] (Zn (WR 3 gc L.par j j.toNat (hq:=rfl)) ?_))))
  obtain ⟨x2,Zt⟩:=Zp L.par j.toNat om
  have hg2:=Uv Zt
  have hdj:=hd j om om
  rw [hg2] at hdj
  refine V2 (UG 3 gc L.par j.toNat x2 Zt) (Z0 1 (ie (ar (Z0 2 (ie (ZH (x2<0) (fun Zg=>?_) (fun Zg=>?_)))))))
  ·exact ar (Z0 1 (ie (Z9 (r2 [0,0,0,0,0,0,0] [.b false] ⟨rfl,rfl⟩ (lb (MS hg1 hg2 Za Zg Zm))))))
  exact ak (ZG ⟨x2,om,(MT hg1 hg2 Y8 Za Zg hd Zm),rfl,rfl,rfl⟩ (ZP 7 fl))
 exact ax 0 (ar (Z0 1 (ie (Z9 (r2 [0,0,0,0,0,0,0] [.b true] ⟨rfl,rfl⟩ (lb (MU hg1 Za Zm)))))))
theorem Ib (b:Nat) (ga:Hd) (gb:Hd) (gc:Hd) (gd:Hd) (ge:Hd) (gf:Hd) (L:Zv) (ln:LI) (mm:Nat) (hlk:VS L:=by exact ob) (hlb:L.vars.length<=1000000000:=by exact ob) (hm:mm<=L.vars.length:=by exact ob):Zi 273 [.p b 0,.i mm] [.obj b [.h ga,.h gb,.h gc,.h gd,.h ge,.h gf,Z5 ln],rV ga L.vars,rV gb L.own,rV gc L.par,rV gd L.con,rV ge L.fst,rV gf L.tok] (fun r h=>(∃(wa:Hd) (wb:Hd) (wc:Hd) (wd:Hd) (we:Hd) (wf:Hd) (L':Zv),r=.b true/\h=[.obj b [.h wa,.h wb,.h wc,.h wd,.h we,.h wf,Z5 ln],rV wa L'.vars,rV wb L'.own,rV wc L'.par,rV wd L'.con,rV we L'.fst,rV wf L'.tok]/\Qx L mm=some L')∨(r=.b false/\h=[]/\Qx L mm=none)):=by
 obtain ⟨e1,e2,e3,e4,e5⟩:=hlk
 refine ZB 88 Tryz.func273 (ar (Z0 1 (ie (aq (ar (Z0 2 (ie (ab 0 (ZX (fun fz gz m F h=>∃(k:Nat),(mm<=k/\k<=L.vars.length)/\(Ji (L.own.drop k) (L.tok.drop k)=Ji (L.own.drop mm) (L.tok.drop mm))/\F=sF [0,1] fz [(5,.i k)]/\h=gz/\m=L.vars.length-k) _ _ _ ⟨mm,ob,ob,rfl,rfl,rfl⟩ (ZP 7 fl) ?_)))))))))
 rintro m F h ⟨k,Y8,Zm,rfl,rfl,rfl⟩
 refine aq (ar (Z6 5 [0] (Zn (JZ 1 ga L.vars) (Z0 1 (ie (ZH ((k:Int)<(L.vars.length:Int)) (fun Za=>?_) (fun Za=>?_)))))))
 ·refine ak (aq (ab 1 (ar (Z6 5 [0] (Zn (WR 2 gb L.own (k:Int) k) ?_)))))
  obtain ⟨x1,Z2⟩:=Zp L.own k om
  refine V2 (UG 2 gb L.own k x1 Z2) (Z0 2 (ib (b:=(x1 != 0)) 24 (fun Zb=>?_) (fun Zb=>?_)))
  ·have ZT:x1≠0:=(X4).1 Zb
   refine Z0 9 (ie (WZ (ar (Z0 1 (ie ?_)))))
   obtain ⟨y2,hy2⟩:=Zp L.tok k om
   exact Z9 (r1 [] (.inr ⟨rfl,rfl,(by rw [Qx,<-Zm,Ye Z2,Ye hy2,Ji,Zw (show x1≠0∨0<=y2 by omega)];rfl)⟩))
  have Y6:¬(x1≠0):=YH X4 Zb
  refine Z6 5 [0] (Zn (WR 6 gf L.tok (k:Int) k) ?_)
  obtain ⟨x2,Zt⟩:=Zp L.tok k om
  refine V2 (UG 6 gf L.tok k x2 Zt) (Z0 2 (ie (ZH (x2>=0) (fun Zg=>?_) (fun Zg=>?_))))
  ·exact ar (Z0 1 (ie (Z9 (r1 [] (.inr ⟨rfl,rfl,(by rw [Qx,<-Zm,Ye Z2,Ye Zt,Ji,Zw (show x1≠0∨0<=x2 by omega)];rfl)⟩)))))
  exact ak (az (Z0 1 (ZE k (Z0 1 (ie (ZG ⟨k+1,ob,(by rw [Ye Z2,Ye Zt,Ji,Zs om] at Zm;exact Zm),rfl,rfl,rfl⟩ (ZP 7 (ZI k fl))))))))
 exact ax 0 (ar (Z6 6 [0] (Zn (AP 1 ga L.vars mm) (Z0 2 (Xg (AO 1 mm ga L.vars) (Zy 1 b [.h (ga.cut mm),.h gb,.h gc,.h gd,.h ge,.h gf,Z5 ln] (ie (ar (Z6 6 [0] (Zn (AP 2 gb L.own mm) (Z0 2 (Xg (AO 2 mm gb L.own) (Zy 1 b [.h (ga.cut mm),.h (gb.cut mm),.h gc,.h gd,.h ge,.h gf,Z5 ln] (ie (ar (Z6 6 [0] (Zn (AP 3 gc L.par mm) (Z0 2 (Xg (AO 3 mm gc L.par) (Zy 1 b [.h (ga.cut mm),.h (gb.cut mm),.h (gc.cut mm),.h gd,.h ge,.h gf,Z5 ln] (ie (ar (Z6 6 [0] (Zn (AP 4 gd L.con mm) (Z0 2 (Xg (AO 4 mm gd L.con) (Zy 1 b [.h (ga.cut mm),.h (gb.cut mm),.h (gc.cut mm),.h (gd.cut mm),.h ge,.h gf,Z5 ln] (ie (ar (Z6 6 [0] (Zn (AP 5 ge L.fst mm) (Z0 2 (Xg (AO 5 mm ge L.fst) (Zy 1 b [.h (ga.cut mm),.h (gb.cut mm),.h (gc.cut mm),.h (gd.cut mm),.h (ge.cut mm),.h gf,Z5 ln] (ie (ar (Z6 6 [0] (Zn (AP 6 gf L.tok mm) (Z0 2 (Xg (AO 6 mm gf L.tok) (Zy 1 b [.h (ga.cut mm),.h (gb.cut mm),.h (gc.cut mm),.h (gd.cut mm),.h (ge.cut mm),.h (gf.cut mm),Z5 ln] (ie (ar (Z0 1 (ie (Z9 (r1 [0,5,4,3,2,1,0] (.inl ⟨(ga.cut mm),(gb.cut mm),(gc.cut mm),(gd.cut mm),(ge.cut mm),(gf.cut mm),(Zv.mk (L.vars.take mm) (L.own.take mm) (L.par.take mm) (L.con.take mm) (L.fst.take mm) (L.tok.take mm)),rfl,rfl,(by rw [Qx,Zw (by rw [<-Zm,Xf om];rfl)];rfl)⟩) (eq:=(rc (rv (xs:=(L.vars.take mm)) ob (rv (xs:=(L.own.take mm)) ob (rv (xs:=(L.par.take mm)) ob (rv (xs:=(L.con.take mm)) ob (rv (xs:=(L.fst.take mm)) ob (rv (xs:=(L.tok.take mm)) ob rz)))))))))))))))))))))))))))))))))))))))))))))))))))))))
theorem So (b:Nat) (ga:Hd) (gb:Hd) (gc:Hd) (gd:Hd) (ge:Hd) (gf:Hd) (n:Zu) (s:Z3) (L:Zv) (ln:LI) (q:Int) (x:Int) (hn:X2 n:=by exact ob) (hk:X5 n.decls L q:=by exact ob) (hlb:L.vars.length<=1000000000:=by exact ob) (ha:s.args[0]? = some x:=by exact ob) (hx:0<=x/\x<L.vars.length:=by exact ob) (hq:0<=q/\q<=999999990:=by exact ob):Zi 234 [.p b 0,Yc n,Yk s] [.obj b [.h ga,.h gb,.h gc,.h gd,.h ge,.h gf,Z5 ln],rV ga L.vars,rV gb L.own,rV gc L.par,rV gd L.con,rV ge L.fst,rV gf L.tok] (fun r h=>(∃(wa:Hd) (wb:Hd) (wc:Hd) (wd:Hd) (we:Hd) (wf:Hd) (L':Zv),r=.b true/\h=[.obj b [.h wa,.h wb,.h wc,.h wd,.h we,.h wf,Z5 ln],rV wa L'.vars,rV wb L'.own,rV wc L'.par,rV wd L'.con,rV we L'.fst,rV wf L'.tok]/\QL n.decls L s.op x=some L')∨(r=.b false/\h=[]/\QL n.decls L s.op x=none)):=by
 obtain ⟨e1,e2,e3,e4,e5⟩:=hk.len
 have Xl:=hn.decls
 have hal:=(Xj.1 ha).1
 obtain ⟨xcon,hxcon⟩:=Zp L.con ((x).toNat) om
 have hgcon:=Uv hxcon
 obtain ⟨xtok,hxtok⟩:=Zp L.tok ((x).toNat) om
 have hgtok:=Uv hxtok
 obtain ⟨xfst,hxfst⟩:=Zp L.fst ((x).toNat) om
 have hgfst:=Uv hxfst
 have hfl:=Vr Xl xcon
 have har:=hk.arm x om om
 rw [hgcon,hgfst] at har
 refine ZB 105 Tryz.func234 (ar (iA (YC n) fun b1=>iA (X6 s) fun b2=>Z0 1 (ie (ar (Z6 2 [0] (Zn (Zh none 0 1 (ZQ ha)) (Z0 2 (ie (aq (ar (Z6 5 [2] (Zn (WR 6 gd L.con x x.toNat (hq:=rfl)) (V2 (UG 6 gd L.con x.toNat xcon hxcon) (WO 23 [0,4,5,7] [(36,.b ((decide (xcon<0))||((s.op==17)&&(decide (xtok>=0)))))] (fun gz=>gz) ?_ (fun hj1=>?_)))))))))))))))
 ·refine Z0 1 (ib (b:=((decide (xcon<0))||((s.op==17)&&(decide (xtok>=0))))) 37 (fun Zb=>?_) (fun Zb=>?_))
  ·have ZT:(xcon<0)∨((s.op=17)/\(xtok>=0)):=((X3 dq (Xb Zz dq))).1 Zb
   exact Z0 5 (ie (WZ (ar (Z0 1 (ie (Z9 (r1 [] (.inr ⟨rfl,rfl,(by rw [QL,hgcon,hgtok,Zw om])⟩))))))))
  have Y6:¬((xcon<0)∨((s.op=17)/\(xtok>=0))):=YH (X3 dq (Xb Zz dq)) Zb
  refine Z0 2 (ic [2,2,2,2,2,2,2] (CQ b ga gb gc gd ge gf L ln x (hlk:=hk.len) (hq:=(fun y hy=>⟨hk.nn y hy,by have:=hk.bd y hy;omega⟩))) ?_)
  rintro _ _ (⟨wa1,wb1,wc1,wd1,we1,wf1,L'1,rfl,rfl,YA⟩|⟨rfl,rfl,YJ⟩)
  ·obtain ⟨t1,t2,t3,t4,t5,t6,t7⟩:=Qk YA
   have hk1:=hk.take YA
   obtain ⟨f1,f2,f3,f4,f5⟩:=hk1.len
   have hxcon1:L'1.con[x.toNat]? = some xcon:=by rw [t4];exact hxcon
   have hvl:L'1.vars.length=L.vars.length:=by rw [t2]
   have har2:=har om
   have hxfst1:L'1.fst[x.toNat]? = some xfst:=by rw [t5];exact hxfst
   refine Z0 2 (ie (Wi (ak (aD 11 (ZD 4 11 [0,1,2,3,4,5,6] [8,0] (dx 7 (WR 4 wd1 L'1.con x x.toNat (hq:=rfl)) (Vb 8 (UG 4 wd1 L'1.con x.toNat xcon hxcon1) (Z8 9 (Yf 9 [] [] [] (TA n.decls xcon) (Zj 0 1 [10] (de (aq (ar (Z0 1 (ie (ab 0 (ZX (fun fz gz m F h=>∃(k:Nat) (o:LI),(k<=(ZY n.decls xcon).length)/\(o.length=L.vars.length)/\(∀y∈o,0<=y/\y<=q+k)/\(UK o (xfst+k) ((ZY n.decls xcon).drop k)=UK L'1.own xfst (ZY n.decls xcon))/\F=sF [0,5,7,8] fz [(9,.i k)]/\h=[Ze gz 0,Ze gz 1,rV wb1 o,Ze gz 3,Ze gz 4,Ze gz 5,Ze gz 6,Ze gz 7]/\m=(ZY n.decls xcon).length-k) _ _ _ ⟨0,L'1.own,ob,om,(by intro y hy;have h1:=hk1.nn y hy;have h2:=hk1.bd y hy;omega),(by rw [show xfst+((0:Nat):Int)=xfst by omega,Jj]),rfl,rfl,rfl⟩ (ZP 8 (Y7 fl)) ?_)))))))))))))))))
   rintro m F h ⟨k,o,Y8,Zm,Zo,Yq,rfl,rfl,rfl⟩
   refine aq (ar (Z0 2 (io (.i (((ZY n.decls xcon).length:Nat):Int)) (.i (((Z7 (ZY n.decls xcon)).length:Nat):Int)) (li (by rw [Y2])) (Z0 1 (ie (ZH ((k:Int)<(((ZY n.decls xcon).length:Nat):Int)) (fun Za=>?_) (fun Za=>?_)))))))
   ·refine ak (aq (ab 1 (ar (Z0 2 ?_))))
    obtain ⟨x1,Z2⟩:=Zp (ZY n.decls xcon) k om
    refine Zn (Zh none (k:Int) 1 (ZQ Z2)) (Z0 2 (ie (ac (x1 != 0) X4 (fun Zg=>?_) (fun Zg=>?_))))
    ·refine aE 31 (ZD 22 31 [0,1,2,3,4,5,6,7,8] [0,0] (dx 9 (WR 5 we1 L'1.fst x x.toNat (hq:=rfl)) (Vb 10 (UG 5 we1 L'1.fst x.toNat xfst hxfst1) (Zj 19 20 [11] (da 12 ((xfst+(k:Int))) ((xfst)+((k:Int))) (ZD 9 18 [13,14,15,16,17,18,19,20,21] [0,0] (dx 22 (WR 5 we1 L'1.fst x x.toNat (hq:=rfl)) (Vb 23 (UG 5 we1 L'1.fst x.toNat xfst hxfst1) (Zj 6 7 [24] (da 25 ((xfst+(k:Int))) ((xfst)+((k:Int))) (dx 26 (WR 2 wb1 o (xfst+(k:Int)) ((xfst+(k:Int)).toNat) (hq:=rfl)) ?_)))))))))))
     obtain ⟨x2,Zt⟩:=Zp o ((xfst+(k:Int)).toNat) om
     have hy2:=Zo _ (ZU Zt)
     exact Vb 27 (UG 2 wb1 o ((xfst+(k:Int)).toNat) x2 Zt) (da 28 ((x2+1)) ((x2)+(1)) (dx 29 (WR 2 wb1 o (xfst+(k:Int)) ((xfst+(k:Int)).toNat) (hq:=rfl)) (Z8 30 (KU 30 2 [] [] wb1 o ((xfst+(k:Int)).toNat) (x2+1) (de (az (Z0 1 (ZE k (Z0 1 (ie (ZG ⟨k+1,(o.set (xfst+(k:Nat)).toNat (x2+1)),ob,ob,(by intro y hy;first|(rcases QI hy with hy|rfl<;>first|(have:=Zo y hy;omega)|omega)|(have:=Zo y hy;omega)),(by rw [Ye Z2,UK] at Yq;first|(rw [Zw Zg,Uv Zt] at Yq;rw [show xfst+((k+1:Nat):Int)=xfst+k+1 by omega];exact Yq)|(rw [Zs Zg] at Yq;rw [show xfst+((k+1:Nat):Int)=xfst+k+1 by omega];exact Yq)),rfl,rfl,rfl⟩ (wk [1,1,0,0,0,0,0,0] (ZI k fl) (e:=(rc (rc (rv (xs:=(o.set ((xfst+(k:Int)).toNat) (x2+1))) ob (rc (rc (rc (rc (rc rz)))))))))))))))))))))
    exact ak (az (Z0 1 (ZE k (Z0 1 (ie (ZG ⟨k+1,o,ob,ob,(by intro y hy;first|(rcases QI hy with hy|rfl<;>first|(have:=Zo y hy;omega)|omega)|(have:=Zo y hy;omega)),(by rw [Ye Z2,UK] at Yq;first|(rw [Zw Zg,Uv Zt] at Yq;rw [show xfst+((k+1:Nat):Int)=xfst+k+1 by omega];exact Yq)|(rw [Zs Zg] at Yq;rw [show xfst+((k+1:Nat):Int)=xfst+k+1 by omega];exact Yq)),rfl,rfl,rfl⟩ (ZP 8 (ZI k fl))))))))
   refine ax 0 (aq (ar (Z6 3 [7] (ie (ac (s.op==17) Zz (fun ZK=>?_) (fun ZK=>?_))))))
   ·refine az (Z6 6 [0] (io (.i (((ZY n.decls xcon).length:Nat):Int)) (.i (((Z7 (ZY n.decls xcon)).length:Nat):Int)) (li (by rw [Y2])) (Zn (WR 6 wf1 L'1.tok x x.toNat (hq:=rfl)) (HP 6 wf1 L'1.tok x.toNat (((ZY n.decls xcon).length:Nat):Int) (ie (ar (Z0 1 (ie ?_))))))))
    have hof:o=UK L'1.own xfst (ZY n.decls xcon):=by rw [<-Yq,Xf om];rfl
    exact Z9 (r1 [1,1,1,1,1,1,0] (.inl ⟨wa1,wb1,wc1,wd1,we1,wf1,(Zv.mk L'1.vars o L'1.par L'1.con L'1.fst (L'1.tok.set x.toNat (((ZY n.decls xcon).length:Nat):Int))),rfl,rfl,(by rw [QL,hgcon,hgfst,hgtok,Zs om,YA,hof,t6];simp [ZK,t2,t3,t4,t5])⟩) (eq:=(rc (rv (xs:=L'1.vars) ob (rv (xs:=o) ob (rv (xs:=L'1.par) ob (rv (xs:=L'1.con) ob (rv (xs:=L'1.fst) ob (rv (xs:=(L'1.tok.set x.toNat (((ZY n.decls xcon).length:Nat):Int))) ob rz)))))))))
   refine ak (ar (Z0 1 (ie ?_)))
   have hof:o=UK L'1.own xfst (ZY n.decls xcon):=by rw [<-Yq,Xf om];rfl
   exact Z9 (r1 [0,0,0,0,0,0,0] (.inl ⟨wa1,wb1,wc1,wd1,we1,wf1,(Zv.mk L'1.vars o L'1.par L'1.con L'1.fst L'1.tok),rfl,rfl,(by rw [QL,hgcon,hgfst,hgtok,Zs om,YA,hof,t6];simp [ZK,t2,t3,t4,t5])⟩) (eq:=(rc (rv (xs:=L'1.vars) ob (rv (xs:=o) ob (rv (xs:=L'1.par) ob (rv (xs:=L'1.con) ob (rv (xs:=L'1.fst) ob (rv (xs:=L'1.tok) ob rz)))))))))
  exact Z0 2 (ie (WZ (ar (Z0 1 (ie (Z9 (r1 [] (.inr ⟨rfl,rfl,(by rw [QL,hgcon,hgtok,Zs om,YJ])⟩))))))))
 refine Z0 2 (ib (b:=(decide (xcon<0))) 22 (fun ZM=>?_) (fun ZM=>?_))
 ·have YU:xcon<0:=(dq).1 ZM
  exact Z0 14 (Xe (ZP 9 (ZJ true ZM fl)) hj1)
 have XI:¬(xcon<0):=YH dq ZM
 refine Z6 4 [0] (ib (b:=(s.op==17)) 26 (fun YT=>?_) (fun YT=>?_))
 ·have Wd:s.op=17:=(Zz).1 YT
  exact Z6 5 [2] (Zn (WR 8 gf L.tok x x.toNat (hq:=rfl)) (V2 (UG 8 gf L.tok x.toNat xtok hxtok) (Z0 3 (Xe (ZP 9 (ZJ (decide (xtok>=0)) (And.intro ZM YT) fl)) hj1))))
 have WM:¬(s.op=17):=YH Zz YT
 exact Z0 10 (Xe (ZP 9 (ZJ false (And.intro ZM YT) fl)) hj1)
theorem Sn (b:Nat) (ga:Hd) (gb:Hd) (gc:Hd) (gd:Hd) (ge:Hd) (gf:Hd) (n:Zu) (s:Z3) (L:Zv) (ln:LI) (q:Int) (hn:X2 n:=by exact ob) (hnum:s.op=9->0<=s.num/\s.num<n.routines.length:=by exact ob) (hk:X5 n.decls L q:=by exact ob) (hlb:L.vars.length<=1000000000:=by exact ob) (hargs:∀a∈s.args,0<=a/\a<L.vars.length) (hinto:0<s.into->s.into<=L.vars.length:=by exact ob) (hal:s.args.length<=1000000000:=by exact ob) (hln:ln.length<=4294967296:=by exact ob) (hq:0<=q/\q<=999999990:=by exact ob):Zi 236 [.p b 0,Yc n,Yk s] [.obj b [.h ga,.h gb,.h gc,.h gd,.h ge,.h gf,Z5 ln],rV ga L.vars,rV gb L.own,rV gc L.par,rV gd L.con,rV ge L.fst,rV gf L.tok] (fun r h=>(∃(wa:Hd) (wb:Hd) (wc:Hd) (wd:Hd) (we:Hd) (wf:Hd) (L':Zv),r=.b true/\h=[.obj b [.h wa,.h wb,.h wc,.h wd,.h we,.h wf,Z5 ln],rV wa L'.vars,rV wb L'.own,rV wc L'.par,rV wd L'.con,rV we L'.fst,rV wf L'.tok]/\Qa n ln L s.op s.num s.into s.args=some L')∨(r=.b false/\h=[]/\Qa n ln L s.op s.num s.into s.args=none)):=by
 obtain ⟨e1,e2,e3,e4,e5⟩:=hk.len
 refine ZB 79 Tryz.func236 (ar (iA (YC n) fun b1=>iA (X6 s) fun b2=>?_))
 refine Z0 1 (ie (aq (ar (Z0 1 (ie (ab 0 (ZX (fun fz gz m F h=>∃(k:Nat) (L2:Zv) (ka:Hd) (kb:Hd) (kc:Hd) (kd:Hd) (ke:Hd) (kf:Hd),(k<=s.args.length)/\(X5 n.decls L2 q)/\(L2.vars=L.vars)/\(Tt n s.op s.num (s.args.drop k) k L2=Tt n s.op s.num s.args 0 L)/\F=sF [0,4,5] fz [(7,.i k)]/\h=[Ze gz 0,Ze gz 1,.obj b [.h ka,.h kb,.h kc,.h kd,.h ke,.h kf,Z5 ln],rV ka L2.vars,rV kb L2.own,rV kc L2.par,rV kd L2.con,rV ke L2.fst,rV kf L2.tok]/\m=s.args.length-k) _ _ _ ⟨0,L,ga,gb,gc,gd,ge,gf,ob,hk,ob,ob,rfl,rfl,rfl⟩ (ZP 9 (Y7 fl)) ?_)))))))
 rintro m F h ⟨k,L2,ka,kb,kc,kd,ke,kf,Y8,Zm,Zo,Yq,rfl,rfl,rfl⟩
 refine aq (ar (Z6 3 [0] (iw (Y2 s.args) (Z0 1 (ie (ZH ((k:Int)<(s.args.length:Int)) (fun Za=>?_) (fun Za=>?_)))))))
 ·obtain ⟨a1,ha1⟩:=Zp s.args k om
  obtain ⟨e6,e7,e8,e9,e10⟩:=Zm.len
  have hav:=hargs a1 (ZU ha1)
  have hvl:L2.vars.length=L.vars.length:=by rw [Zo]
  refine ak (aq (ab 1 (aD 18 (ZD 11 18 [0,1,2,3,4,5,6] [1,2,0] (Z8 7 (Qy 7 [3] [] [] [rV ka L2.vars] (Do n L2.vars s k a1 (ha:=ha1)) Cb (gS (gL (v:=ka) 0 (gS (gS gN)))) (Tx Qg) ?_))))))
  rintro _ _ ⟨rfl,rfl⟩
  refine Zj 9 10 [8] (db (b:=Q7 n L2.vars s.op s.num a1 k) 24 (fun Zb=>?_) (fun Zb=>?_))
  ·have ZT:Q7 n L2.vars s.op s.num a1 k=true:=(Iff.rfl).1 Zb
   refine ZD 5 9 [9,10,11,12] [1] (dx 13 (Zh none (k:Int) 1 (ZQ ha1)) (Zj 3 4 [14] (Z8 15 (dc 15 [3,0,2,2,2,2,2] [] [] (CQ b ka kb kc kd ke kf L2 ln a1 (hlk:=Zm.len) (hq:=(fun y hy=>⟨Zm.nn y hy,by have:=Zm.bd y hy;omega⟩))) ?_))))
   rintro _ _ (⟨wa1,wb1,wc1,wd1,we1,wf1,L'1,rfl,rfl,Y6⟩|⟨rfl,rfl,YA⟩)
   ·obtain ⟨t1,t2,t3,t4,t5,t6,t7⟩:=Qk Y6
    have hk2:=Zm.take Y6
    exact Zj 0 2 [16,17] (de (Wi (ak (az (Z0 1 (ZE k (Z0 1 (ie (ZG ⟨k+1,L'1,wa1,wb1,wc1,wd1,we1,wf1,ob,hk2,(t2.trans Zo),(by rw [Ye ha1,Tt,Zw ZT] at Yq;simp only [Y6] at Yq;exact Yq),rfl,rfl,rfl⟩ (wk [7,7,0,0,0,0,0,0,0] (ZI k fl)))))))))))
   exact Zj 0 2 [16,17] (de (WZ (ar (Z0 1 (ie (Z9 (r1 [] (.inr ⟨rfl,rfl,(by rw [Qa,<-Yq,Ye ha1,Tt,Zw ZT,YA])⟩))))))))
  have YJ:¬(Q7 n L2.vars s.op s.num a1 k=true):=YH Iff.rfl Zb
  exact Zj 0 9 [9,10,11,12,13,14,15,16,17] (de (Wi (ak (az (Z0 1 (ZE k (Z0 1 (ie (ZG ⟨k+1,L2,ka,kb,kc,kd,ke,kf,ob,Zm,Zo,(by rw [Ye ha1,Tt,Zs YJ] at Yq;exact Yq),rfl,rfl,rfl⟩ (wk [1,1,1,0,0,0,0,0,0] (ZI k fl)))))))))))
 have hT:Tt n s.op s.num s.args 0 L=some L2:=by rw [<-Yq,Xf om];rfl
 obtain ⟨e6,e7,e8,e9,e10⟩:=Zm.len
 have hvl:L2.vars.length=L.vars.length:=by rw [Zo]
 refine ax 0 (aq (ar (Z0 1 (ie (ab 2 (ZX (fun fz gz m F h=>∃(j:Nat),(j<=s.args.length)/\(KZ n s.op s.num ln L2 (s.args.drop j) j=KZ n s.op s.num ln L2 s.args 0)/\F=sF [0,4,5] fz [(8,.i j)]/\h=gz/\m=s.args.length-j) _ _ _ ⟨0,ob,ob,rfl,rfl,rfl⟩ (ZP 9 (Y7 fl)) ?_))))))
 rintro m F h ⟨j,U3,Ww,rfl,rfl,rfl⟩
 refine aq (ar (Z6 3 [0] (iw (Y2 s.args) (Z0 1 (ie (ZH ((j:Int)<(s.args.length:Int)) (fun Zg=>?_) (fun Zg=>?_)))))))
 ·obtain ⟨a2,ha2⟩:=Zp s.args j om
  have hav:=hargs a2 (ZU ha2)
  refine ak (aq (ab 3 (ar (Z6 3 [1,0] (Zr [] (BN n s j) (Xr [0,4,5,8] [(54,.b (Vv n s.op s.num j&&(!VB L2 ln a2)))] (fun gz=>[Ze gz 2,Ze gz 3,Ze gz 4,Ze gz 5,Ze gz 6,Ze gz 7,Ze gz 8,Ze gz 0,Ze gz 1]) ?_ ?_))))))
  ·refine Z0 1 (ib (b:=Vv n s.op s.num j) 45 (fun ZM=>?_) (fun ZM=>?_))
   ·exact Z6 4 [0] (Zn (Zh none (j:Int) 1 (ZQ ha2)) (Z0 1 (Zr [2,2,2,2,2,2,2] (CP b ka kb kc kd ke kf L2 ln a2 (hlk:=Zm.len) (hd:=Zm.down)) (Z0 2 (ie (ZP 9 (ZJ (!VB L2 ln a2) ZM fl)))))))
   exact Z0 9 (ie (wk [2,2,2,2,2,2,2,0,0] (ZJ false ZM fl)))
  refine ac (Vv n s.op s.num j&&(!VB L2 ln a2)) (p:=(Vv n s.op s.num j=true)/\(¬(VB L2 ln a2=true))) (Xb Iff.rfl (YR Iff.rfl)) (fun ZK=>?_) (fun ZK=>?_)
  ·refine ar (Z0 1 (ie ?_))
   have hA:KZ n s.op s.num ln L2 s.args 0=false:=by rw [<-Ww,Ye ha2,KZ,Zw ZK]
   exact Z9 (r1 [] (.inr ⟨rfl,rfl,(by rw [Qa,hT];simp only [hA];rfl)⟩))
  exact ak (az (Z0 1 (ZE j (Z0 1 (ie (ZG ⟨j+1,ob,(by rw [Ye ha2,KZ,Zs ZK] at Ww;exact Ww),rfl,rfl,rfl⟩ (wk [7,7,0,0,0,0,0,0,0] (ZI j fl))))))))
 have hA:KZ n s.op s.num ln L2 s.args 0=true:=by rw [<-Ww,Xf om];rfl
 refine ax 2 (aq (ar (Z6 3 [0] (ie (ZH (s.into>0) (fun Yi=>?_) (fun Yi=>?_))))))
 ·obtain ⟨xt,hxt⟩:=Zp L2.tok ((s.into-1).toNat) (by have:=hinto Yi;omega)
  have hgt:=Uv hxt
  refine aq (aD 13 (ZD 7 13 [0,1,2,3,4,5] [2,0] (da 6 ((s.into-1)) ((s.into)-(1)) (dx 7 (WR 8 kf L2.tok (s.into-1) ((s.into-1).toNat) (hq:=rfl)) (Vb 8 (UG 8 kf L2.tok ((s.into-1).toNat) xt hxt) (ZD 2 4 [9,10] [0] (dw 11 (Y2 s.args) (Zj 0 1 [12] (de (ac (xt != (s.args.length:Int)) X4 (fun Xt=>?_) (fun Xt=>?_)))))))))))
  ·exact ar (Z0 1 (ie (Z9 (r1 [] (.inr ⟨rfl,rfl,(by rw [Qa,hT];simp only [hA,↓reduceIte];rw [Bj,Zw Yi,hgt,Zw Xt])⟩)))))
  exact ak (aE 9 (ZD 3 9 [0,1,2,3,4,5] [2,0] (da 6 ((s.into-1)) ((s.into)-(1)) (dx 7 (WR 8 kf L2.tok (s.into-1) ((s.into-1).toNat) (hq:=rfl)) (Z8 8 (KU 8 8 [] [] kf L2.tok ((s.into-1).toNat) (-1) (de (ar (Z0 1 (ie (Z9 (r1 [3,3,3,3,3,3,0] (.inl ⟨ka,kb,kc,kd,ke,kf,(Zv.mk L2.vars L2.own L2.par L2.con L2.fst (L2.tok.set ((s.into-1).toNat) (-1))),rfl,rfl,(by rw [Qa,hT];simp only [hA,↓reduceIte];rw [Bj,Zw Yi,hgt,Zs Xt])⟩) (eq:=(rc (rv (xs:=L2.vars) ob (rv (xs:=L2.own) ob (rv (xs:=L2.par) ob (rv (xs:=L2.con) ob (rv (xs:=L2.fst) ob (rv (xs:=(L2.tok.set ((s.into-1).toNat) (-1))) ob rz))))))))))))))))))))
 exact ak (ar (Z0 1 (ie (Z9 (r1 [2,2,2,2,2,2,2] (.inl ⟨ka,kb,kc,kd,ke,kf,L2,rfl,rfl,(by rw [Qa,hT];simp only [hA,↓reduceIte];rw [Bj,Zs Yi])⟩))))))
theorem Pe (b:Z4) (t:Int) (hz:b.sz<=1000000) (ih:∀(b2:Z4) (t:Int),(b2.sz<=1000000)->(b2.sz<b.sz)->Zi 225 [ZC b2,.i t] [] (fun r h=>∃(wr:Bool),r=.b wr/\h=[])):Zi 225 [ZC b,.i t] [] (fun r h=>∃(wr:Bool),r=.b wr/\h=[]):=by
 have Zq:=WQ b
 have hbl:=Qi b.steps
 have hbe:=b.sz_eq
 refine ZB 53 Tryz.func225 (ar (iA (YE b) fun b1=>?_))
 refine Z0 1 (ie (aq (ar (Z0 1 (ie (ab 0 (ZX (fun fz gz m F h=>∃(k:Nat),(k<=b.steps.length)/\F=sF [1,2] fz [(5,.i k)]/\h=gz/\m=b.steps.length-k) _ _ _ ⟨0,ob,rfl,rfl,rfl⟩ (wk [0] (Y7 fl)) ?_)))))))
 rintro m F h ⟨k,Y8,rfl,rfl,rfl⟩
 refine aq (ar (Z6 3 [0] (iw (W1 b.steps) (Z0 1 (ie (ZH ((k:Int)<(b.steps.length:Int)) (fun Za=>?_) (fun Za=>?_)))))))
 ·refine ak (aq (ab 1 (aq (ar (Z6 3 [0] ?_)))))
  obtain ⟨x1,Z2⟩:=Zp b.steps k om
  have hxs:=FH (ZU Z2)
  have hxe:=(x1).sz_eq
  have hxk:=U8 x1
  refine Zn (Zh none (k:Int) 5 (XG Z2)) (Xr [1,2,5] [(30,.b ((x1.op==10)&&(x1.num==t)))] (fun gz=>gz) ?_ ?_)
  ·refine Z0 4 (ib (b:=(x1.op==10)) 21 (fun Zb=>?_) (fun Zb=>?_))
   ·exact Z6 3 [0] (Zn (Zh none (k:Int) 5 (XG Z2)) (Z0 5 (ie (wk [0] (ZJ (x1.num==t) Zb fl)))))
   exact Z0 9 (ie (wk [0] (ZJ false Zb fl)))
  refine ac ((x1.op==10)&&(x1.num==t)) (p:=(x1.op=10)/\(x1.num=t)) (Xb Zz Zz) (fun Zg=>?_) (fun Zg=>?_)
  ·exact ar (Z0 1 (ie (Z9 (r1 [] ⟨true,rfl,rfl⟩))))
  refine ak (ar (Z0 1 (ie (ab 2 (ZX (fun fz gz m F h=>∃(j:Nat),(j<=x1.kids.length)/\F=sF [1,2,5] fz [(6,.i j)]/\h=gz/\m=x1.kids.length-j) _ _ _ ⟨0,ob,rfl,rfl,rfl⟩ (wk [0] (Y7 fl)) ?_)))))
  rintro m F h ⟨j,U3,rfl,rfl,rfl⟩
  refine aq (ar (Z6 4 [0] (Zn (Zh none (k:Int) 5 (XG Z2)) (Z0 2 (iw (Vh x1.kids) (Z0 1 (ie (ZH ((j:Int)<(x1.kids.length:Int)) (fun ZK=>?_) (fun ZK=>?_)))))))))
  ·refine ak (aq (ab 3 (ar (Z6 3 [0] (Zn (Zh none (k:Int) 5 (XG Z2)) (Z0 3 ?_))))))
   obtain ⟨x2,Zt⟩:=Zp x1.kids j om
   have hkx:=DY (ZU Zt)
   refine Zn (Zh none (j:Int) 2 (Vs Zt)) (Z0 2 (ic [] (ih x2 t ob ob) ?_))
   rintro _ _ ⟨wr1,rfl,rfl⟩
   refine ie (ac wr1 Iff.rfl (fun Yi=>?_) (fun Yi=>?_))
   ·exact ar (Z0 1 (ie (Z9 (r1 [] ⟨true,rfl,rfl⟩))))
   exact ak (az (Z0 1 (ZE j (Z0 1 (ie (ZG ⟨j+1,ob,rfl,rfl,rfl⟩ (wk [0] (ZI j fl))))))))
  exact ax 2 (az (Z0 1 (ZE k (Z0 1 (ie (ZG ⟨k+1,ob,rfl,rfl,rfl⟩ (wk [0] (ZI k fl))))))))
 exact ax 0 (ar (Z0 1 (ie (Z9 (r1 [] ⟨false,rfl,rfl⟩)))))
theorem Pd (b:Z4) (t:Int) (hz:b.sz<=1000000:=by exact ob):Zi 225 [ZC b,.i t] [] (fun r h=>∃(wr:Bool),r=.b wr/\h=[]):=by
 have key:∀k:Nat,∀(b2:Z4) (t:Int),(b2.sz<=1000000)->(b2.sz<k)->Zi 225 [ZC b2,.i t] [] (fun r h=>∃(wr:Bool),r=.b wr/\h=[]):=by
  intro k
  induction k with
  | zero=>intro b2 t h1 h2;omega
  | succ k ih=>intro b2 t h1 h2;exact Pe b2 t h1 fun b3 t3 q1 q2=>ih b3 t3 q1 om
 exact key (b.sz+1) b t hz om
theorem Px (n:Zu) (t:Int) (qz:Nat) (hn:FN n qz:=by exact ob) (hqz:qz<=100000:=by exact ob):Zi 197 [Yc n,.i t] [] (fun r h=>∃(wr:Bool),r=.b wr/\h=[]):=by
 have hnl:=hn.len
 refine ZB 21 Tryz.func197 (ar (iA (YC n) fun b1=>?_))
 refine Z0 1 (ie (aq (ar (Z0 1 (ie (ab 0 (ZX (fun fz gz m F h=>∃(k:Nat),(k<=n.routines.length)/\F=sF [1,2] fz [(5,.i k)]/\h=gz/\m=n.routines.length-k) _ _ _ ⟨0,ob,rfl,rfl,rfl⟩ (wk [0] (Y7 fl)) ?_)))))))
 rintro m F h ⟨k,Y8,rfl,rfl,rfl⟩
 refine aq (ar (Z6 3 [0] (iw (U4 n.routines) (Z0 1 (ie (ZH ((k:Int)<(n.routines.length:Int)) (fun Za=>?_) (fun Za=>?_)))))))
 ·refine ak (aq (ab 1 (ar (Z6 3 [0] ?_))))
  obtain ⟨x1,Z2⟩:=Zp n.routines k om
  have hbz:=(hn.body _ (ZU Z2)).2
  refine Zn (Zh none (k:Int) 5 (Wk Z2)) (Z0 3 (ic [] (Pd x1.body t) ?_))
  rintro _ _ ⟨wr1,rfl,rfl⟩
  refine ie (ac wr1 Iff.rfl (fun Zg=>?_) (fun Zg=>?_))
  ·exact ar (Z0 1 (ie (Z9 (r1 [] ⟨true,rfl,rfl⟩))))
  exact ak (az (Z0 1 (ZE k (Z0 1 (ie (ZG ⟨k+1,ob,rfl,rfl,rfl⟩ (wk [0] (ZI k fl))))))))
 exact ax 0 (ar (Z0 1 (ie (Z9 (r1 [] ⟨false,rfl,rfl⟩)))))
theorem Hv (fs:LI) (q:Nat) (hl:fs.length<=1000000:=by exact ob) (hq:q<=1000000:=by exact ob):Zi 198 [Z5 fs,.i q] [] (fun r h=>∃(xs:LI),r=Z5 xs/\h=[]/\xs.length<=fs.length/\∀i∈xs,(q:Int)<=i/\i<(q:Int)+fs.length):=by
 refine ZB 26 Tryz.func198 (ar (Z0 1 (ie (ar (iL (Z7 []) 0 1 fun v1=>?_)))))
 refine Z0 1 (ie (aq (ar (Z0 1 (ie (ab 0 (ZX (fun fz gz m F h=>∃(k:Nat) (ys:LI) (u:Value),(k<=fs.length)/\(ys.length<=k)/\(∀i∈ys,(q:Int)<=i/\i<(q:Int)+fs.length)/\F=sF [0,1] fz [(5,ZO ys u),(6,.i k)]/\h=[.tail u 1]/\m=fs.length-k) _ _ _ ⟨0,[],v1,ob,ob,(fun i hi=>by cases hi),rfl,rfl,rfl⟩ (wk [0] (fr (Y7 fl))) ?_)))))))
 rintro m F h ⟨k,ys,u,Y8,Zm,Zo,rfl,rfl,rfl⟩
 refine aq (ar (Z0 2 (iw (Y2 fs) (Z0 1 (ie (ZH ((k:Int)<(fs.length:Int)) (fun Za=>?_) (fun Za=>?_)))))))
 ·refine ak (aq (ab 1 (ar (Z0 2 ?_))))
  obtain ⟨x1,Z2⟩:=Zp fs k om
  refine Zn (Zh none (k:Int) 1 (ZQ Z2)) (Z0 2 (ie (ac (x1 != 0) X4 (fun Zg=>?_) (fun Zg=>?_))))
  ·exact az (Z0 3 (ia (((q+k:Nat):Int)) (((q:Int))+((k:Int))) (iL (Z7 [((q+k:Nat):Int)]) 1 1 fun v2=>ZA 0 [(23,Z5 [((q+k:Nat):Int)])] (ip 1 (Z7 (ys++[((q+k:Nat):Int)])) (Z7 ys) (Z7 [((q+k:Nat):Int)]) u none 1 (Yl _) (Yl _) (XD _) (by simp<;>omega) (by simp [XA,Z7]) fun v3=>Z0 1 (ie (az (Z0 1 (ZE k (Z0 1 (ie (ZG ⟨k+1,(ys++[((q+k:Nat):Int)]),v3,ob,ob,(YZ Zo om),rfl,rfl,rfl⟩ (wk [0] (fr (ZI k fl))))))))))))))
  exact ak (az (Z0 1 (ZE k (Z0 1 (ie (ZG ⟨k+1,ys,u,ob,ob,ob,rfl,rfl,rfl⟩ (wk [0] (fr (ZI k fl)))))))))
 exact ax 0 (ar (Z0 2 (ie (Z9 (r2 [] [ZO ys u] ⟨ys,rfl,rfl,⟨by omega,Zo⟩⟩ (Zf.forget _ _))))))
theorem Hp (n:Zu) (qz:Nat) (hn:FN n qz:=by exact ob) (hqz:qz<=100000:=by exact ob):Zi 157 [Yc n] [] (fun r h=>∃(xs:List LI),r=Ay xs/\h=[]/\LC n n.routines.length xs):=by
 have hnl:=hn.len
 refine ZB 31 Tryz.func157 (ar (iA (YC n) fun b1=>Z0 1 (ie (ar (iL (Wj []) 0 1 fun v1=>?_)))))
 refine Z0 1 (ie (aq (ar (Z0 1 (ie (ab 0 (ZX (fun fz gz m F h=>∃(k:Nat) (ys:List LI) (u:Value),(k<=n.routines.length)/\(ys.length=k)/\(LC n k ys)/\F=sF [1] fz [(3,Fe ys u),(4,.i k)]/\h=[Ze gz 1,.tail u 1]/\m=n.routines.length-k) _ _ _ ⟨0,[],v1,ob,ob,LC.nil,rfl,rfl,rfl⟩ (wk [1,0] (fr (Y7 fl))) ?_)))))))
 rintro m F h ⟨k,ys,u,Y8,Zm,Zo,rfl,rfl,rfl⟩
 refine aq (ar (Z6 3 [0] (iw (U4 n.routines) (Z0 1 (ie (ZH ((k:Int)<(n.routines.length:Int)) (fun Za=>?_) (fun Za=>?_)))))))
 ·refine ak (aq (ab 1 (ar (Z6 2 [0] (ic [] (Px n (k:Int) qz) ?_)))))
  rintro _ _ ⟨wr1,rfl,rfl⟩
  refine ie (ac wr1 Iff.rfl (fun Zg=>?_) (fun Zg=>?_))
  ·exact az (Z0 1 (iL (Z7 []) 0 1 fun v2=>ZA 0 [(17,Z5 [])] (iL (Wj [[]]) 1 1 fun v3=>ZA 0 [(18,Ay [[]])] (ip 3 (Wj (ys++[[]])) (Wj ys) (Wj [[]]) u none 1 (Am _) (Am _) (Em _) (by simp<;>omega) (by simp [El,Wj]) fun v4=>Z0 1 (ie (az (Z0 1 (ZE k (Z0 1 (ie (ZG ⟨k+1,(ys++[[]]),v4,ob,ob,(Zo.snoc (by simp) (fun r hr v hv=>by cases hv)),rfl,rfl,rfl⟩ (wk [3,0] (fr (ZI k fl))))))))))))))
  refine az (Z6 4 [0] ?_)
  obtain ⟨x1,Z2⟩:=Zp n.routines k om
  have hrp:=(FN.ok hn).params_at Z2
  have hss:=(U2.bd (f:=⟨(x1).params,(x1).result,default⟩) (hn.sigs _ (ZU Z2))).1
  refine Zn (Zh none (k:Int) 5 (Wk Z2)) (Z0 2 (ic [] (Hv x1.params 0) ?_))
  rintro _ _ ⟨xs1,rfl,rfl,ZT⟩
  have hhf:=ZT
  exact iL (Wj [xs1]) 1 1 fun v5=>ZA 0 [(28,Ay [xs1])] (ip 2 (Wj (ys++[xs1])) (Wj ys) (Wj [xs1]) u none 1 (Am _) (Am _) (Em _) (by simp<;>omega) (by simp [El,Wj]) fun v6=>Z0 1 (ie (az (Z0 1 (ZE k (Z0 1 (ie (ZG ⟨k+1,(ys++[xs1]),v6,ob,ob,(Zo.snoc om (fun r hr v hv=>by rw [Z2] at hr;cases hr;have:=hhf.2 v hv;omega)),rfl,rfl,rfl⟩ (wk [2,0] (fr (ZI k fl)))))))))))
 exact ax 0 (ar (Z0 2 (ie (Z9 (r2 [] [Fe ys u] ⟨ys,rfl,rfl,(by rw [show n.routines.length=k by omega];exact Zo)⟩ (Zf.forget _ _))))))
theorem Ph (n:Zu) (b:Z4) (t:Int) (mq:Nat) (hn:X2 n) (hf:fB n.decls n.routines.length mq b) (hz:b.sz<=1000000) (ih:∀(b2:Z4) (t:Int) (m2:Nat),(fB n.decls n.routines.length m2 b2)->(b2.sz<=1000000)->(b2.sz<b.sz)->Zi 199 [Yc n,ZC b2,.i t] [] (fun r h=>∃(wr:Bool),r=.b wr/\h=[])):Zi 199 [Yc n,ZC b,.i t] [] (fun r h=>∃(wr:Bool),r=.b wr/\h=[]):=by
 have hbl:=Qi b.steps
 have hbe:=b.sz_eq
 refine ZB 68 Tryz.func199 (ar (iA (YC n) fun b1=>iA (YE b) fun b2=>Z0 1 (ie (aq (ar (Z6 4 [0] (ie (ac (b.result==t) Zz (fun Za=>?_) (fun Za=>?_)))))))))
 ·exact ar (Z0 1 (ie (Z9 (r1 [] ⟨true,rfl,rfl⟩))))
 refine ak (aq (ar (Z0 1 (ie (ab 0 (ZX (fun fz gz m F h=>∃(k:Nat),(k<=b.steps.length)/\F=sF [2,3,4] fz [(7,.i k)]/\h=gz/\m=b.steps.length-k) _ _ _ ⟨0,ob,rfl,rfl,rfl⟩ (wk [0,0] (Y7 fl)) ?_))))))
 rintro m F h ⟨k,Y8,rfl,rfl,rfl⟩
 refine aq (ar (Z6 3 [0] (iw (W1 b.steps) (Z0 1 (ie (ZH ((k:Int)<(b.steps.length:Int)) (fun Zg=>?_) (fun Zg=>?_)))))))
 ·refine ak (aq (ab 1 (ar (Z6 3 [0] ?_))))
  obtain ⟨x1,Z2⟩:=Zp b.steps k om
  have hfs:=(Co x1).1 (Bd ((Bb b).1 hf).1 Z2)
  have hxs:=FH (ZU Z2)
  have hxe:=(x1).sz_eq
  have hxk:=U8 x1
  refine Zn (Zh none (k:Int) 5 (XG Z2)) (Z0 1 (iA [.i 0,.i 0,.i 0,nl,nl] fun b3=>?_))
  refine Zy 0 b3 (X6 x1) (ie (aq (ar (Z0 1 (ie (ab 2 (ZX (fun fz gz m F h=>∃(j:Nat),(j<=x1.args.length)/\F=sF [2,3,4,7,8] fz [(9,.i j)]/\h=gz/\m=x1.args.length-j) _ _ _ ⟨0,ob,rfl,rfl,rfl⟩ (ZP 3 (Y7 fl)) ?_)))))))
  rintro m F h ⟨j,U3,rfl,rfl,rfl⟩
  refine aq (ar (Z6 3 [0] (iw (Y2 x1.args) (Z0 1 (ie (ZH ((j:Int)<(x1.args.length:Int)) (fun ZK=>?_) (fun ZK=>?_)))))))
  ·refine ak (aq (ab 3 (ar (Z6 3 [0] ?_))))
   obtain ⟨x2,Zt⟩:=Zp x1.args j om
   refine Zn (Zh none (j:Int) 1 (ZQ Zt)) (WO 12 [2,3,4,7,8,9] [(45,.b ((x2==t)&&Qw x1.op))] (fun gz=>gz) ?_ (fun hj1=>?_))
   ·refine Xr [2,3,4,7,8,9] [(52,.b (((x2==t)&&Qw x1.op)&&(!Vv n x1.op x1.num j)))] (fun gz=>gz) ?_ ?_
    ·refine Z0 1 (ib (b:=((x2==t)&&Qw x1.op)) 46 (fun Zb=>?_) (fun Zb=>?_))
     ·exact Z6 3 [2,0] (Zr [] (BN n x1 j (hnum:=hfs.call)) (Z0 2 (ie (ZP 3 (ZJ (!Vv n x1.op x1.num j) Zb fl)))))
     exact Z0 6 (ie (ZP 3 (ZJ false Zb fl)))
    refine ac (((x2==t)&&Qw x1.op)&&(!Vv n x1.op x1.num j)) (p:=((x2=t)/\(Qw x1.op=true))/\(¬(Vv n x1.op x1.num j=true))) (Xb (Xb Zz Iff.rfl) (YR Iff.rfl)) (fun Yi=>?_) (fun Yi=>?_)
    ·exact ar (Z0 1 (ie (Z9 (r1 [] ⟨true,rfl,rfl⟩))))
    exact ak (az (Z0 1 (ZE j (Z0 1 (ie (ZG ⟨j+1,ob,rfl,rfl,rfl⟩ (ZP 3 (ZI j fl))))))))
   refine Z0 4 (ib (b:=(x2==t)) 41 (fun ZM=>?_) (fun ZM=>?_))
   ·exact Z6 2 [0] (Zr [] (LM x1.op) (Z0 1 (Xe (ZP 3 (ZJ (Qw x1.op) ZM fl)) hj1)))
   exact Z0 4 (Xe (ZP 3 (ZJ false ZM fl)) hj1)
  refine ax 2 (ar (Z0 1 (ie (ab 4 (ZX (fun fz gz m F h=>∃(j:Nat),(j<=x1.kids.length)/\F=sF [2,3,4,7,8] fz [(10,.i j)]/\h=gz/\m=x1.kids.length-j) _ _ _ ⟨0,ob,rfl,rfl,rfl⟩ (ZP 3 (Y7 fl)) ?_)))))
  rintro m F h ⟨j,Nr,rfl,rfl,rfl⟩
  refine aq (ar (Z6 3 [0] (iw (Vh x1.kids) (Z0 1 (ie (ZH ((j:Int)<(x1.kids.length:Int)) (fun Xt=>?_) (fun Xt=>?_)))))))
  ·refine ak (aq (ab 5 (aD 8 (ZD 4 8 [0,1,2,3] [2,0] ?_))))
   obtain ⟨x3,YQ⟩:=Zp x1.kids j om
   have hkx:=DY (ZU YQ)
   have hfk:=Bc hfs.kids YQ
   refine dx 4 (Zh none (j:Int) 2 (Vs YQ)) (Zj 1 3 [5,6] (Z8 7 (dc 7 [] [] [] (ih x3 t (VL n.decls x1.op x1.num (mq+Yy (b.steps.take k)) (0+j)) hfk ob ob) ?_)))
   rintro _ _ ⟨wr1,rfl,rfl⟩
   refine de (ac wr1 Iff.rfl (fun Xu=>?_) (fun Xu=>?_))
   ·exact ar (Z0 1 (ie (Z9 (r1 [] ⟨true,rfl,rfl⟩))))
   exact ak (az (Z0 1 (ZE j (Z0 1 (ie (ZG ⟨j+1,ob,rfl,rfl,rfl⟩ (ZP 3 (ZI j fl))))))))
  exact ax 4 (az (Z0 1 (ZE k (Z0 1 (ie (ZG ⟨k+1,ob,rfl,rfl,rfl⟩ (wk [1,1] (ZI k fl))))))))
 exact ax 0 (ar (Z0 1 (ie (Z9 (r1 [] ⟨false,rfl,rfl⟩)))))
theorem Pg (n:Zu) (b:Z4) (t:Int) (mq:Nat) (hn:X2 n:=by exact ob) (hf:fB n.decls n.routines.length mq b:=by exact ob) (hz:b.sz<=1000000:=by exact ob):Zi 199 [Yc n,ZC b,.i t] [] (fun r h=>∃(wr:Bool),r=.b wr/\h=[]):=by
 have key:∀k:Nat,∀(b2:Z4) (t:Int) (m2:Nat),(fB n.decls n.routines.length m2 b2)->(b2.sz<=1000000)->(b2.sz<k)->Zi 199 [Yc n,ZC b2,.i t] [] (fun r h=>∃(wr:Bool),r=.b wr/\h=[]):=by
  intro k
  induction k with
  | zero=>intro b2 t m2 h1 h2 h3;omega
  | succ k ih=>intro b2 t m2 h1 h2 h3;exact Ph n b2 t m2 hn h1 h2 fun b3 t3 m3 q1 q2 q3=>ih b3 t3 m3 q1 q2 om
 exact key (b.sz+1) b t mq hf hz om
theorem Py (n:Zu) (rt:Y1) (i:Nat) (qz:Nat) (hn:FN n qz:=by exact ob) (hqz:qz<=100000:=by exact ob) (hr:n.routines[i]? = some rt:=by exact ob):Zi 158 [Yc n,.i i] [] (fun r h=>∃(xs:LI),r=Z5 xs/\h=[]/\xs.length<=rt.lent.length/\∀v∈xs,v∈rt.lent):=by
 have hok:=FN.ok hn
 have hrl:=hn.lent rt (ZU hr)
 have hrb:=hn.body rt (ZU hr)
 obtain ⟨hil,_⟩:=Xj.1 hr
 have hnl:=hn.len
 refine ZB 50 Tryz.func158 (ar (iA (YC n) fun b1=>Z0 1 (ie (ar (iL (Z7 []) 0 1 fun v1=>?_)))))
 refine Z0 1 (ie (aq (ar (Z0 1 (ie (ab 0 (ZX (fun fz gz m F h=>∃(k:Nat) (ys:LI) (u:Value),(k<=rt.lent.length)/\(ys.length<=k)/\(∀v∈ys,v∈rt.lent)/\F=sF [1,2] fz [(5,ZO ys u),(6,.i k)]/\h=[Ze gz 1,.tail u 1]/\m=rt.lent.length-k) _ _ _ ⟨0,[],v1,ob,ob,(fun v hv=>by cases hv),rfl,rfl,rfl⟩ (wk [1,0] (fr (Y7 fl))) ?_)))))))
 rintro m F h ⟨k,ys,u,Y8,Zm,Zo,rfl,rfl,rfl⟩
 refine aq (ar (Z6 4 [0] (Zn (Zh none (i:Int) 5 (Wk hr)) (Z0 2 (iw (Y2 rt.lent) (Z0 1 (ie (ZH ((k:Int)<(rt.lent.length:Int)) (fun Za=>?_) (fun Za=>?_)))))))))
 ·refine ak (aq (ab 1 (aD 18 (ZD 14 18 [0,1,2,3] [0,0] (dx 4 (Zh none (i:Int) 5 (Wk hr)) (ZD 8 13 [5,6,7,8,9] [0] (dx 10 (Zh none (i:Int) 5 (Wk hr)) (Zj 4 7 [11,12,13] ?_))))))))
  obtain ⟨x1,Z2⟩:=Zp rt.lent k om
  refine dx 14 (Zh none (k:Int) 1 (ZQ Z2)) (Zj 2 3 [15] (Z8 16 (dc 16 [] [] [] (Pg n rt.body x1 rt.params.length (hn:=hok) (hf:=hrb.1)) ?_)))
  rintro _ _ ⟨wr1,rfl,rfl⟩
  refine Zj 0 1 [17] (de (ac (!wr1) (p:=¬(wr1=true)) (YR Iff.rfl) (fun Zg=>?_) (fun Zg=>?_)))
  ·exact az (Z6 4 [0] (Zn (Zh none (i:Int) 5 (Wk hr)) (Z0 3 (Zn (Zh none (k:Int) 1 (ZQ Z2)) (Z0 1 (iL (Z7 [x1]) 1 1 fun v2=>ZA 0 [(47,Z5 [x1])] (ip 2 (Z7 (ys++[x1])) (Z7 ys) (Z7 [x1]) u none 1 (Yl _) (Yl _) (XD _) (by simp<;>omega) (by simp [XA,Z7]) fun v3=>Z0 1 (ie (az (Z0 1 (ZE k (Z0 1 (ie (ZG ⟨k+1,(ys++[x1]),v3,ob,ob,(YZ Zo (ZU Z2)),rfl,rfl,rfl⟩ (wk [2,0] (fr (ZI k fl)))))))))))))))))
  exact ak (az (Z0 1 (ZE k (Z0 1 (ie (ZG ⟨k+1,ys,u,ob,ob,ob,rfl,rfl,rfl⟩ (wk [0,0] (fr (ZI k fl)))))))))
 exact ax 0 (ar (Z0 2 (ie (Z9 (r2 [] [ZO ys u] ⟨ys,rfl,rfl,⟨by omega,Zo⟩⟩ (Zf.forget _ _))))))
theorem Z22 (s:Z3) (ih:∀(b2:Z4),(b2.sz<s.sz)->(b2.sz<=1000000000)->Zi 86 [ZC b2] [] (Ym (ZC b2))) (hz:s.sz<=1000000000):Zi 127 [Yk s] [] (Ym (Yk s)):=by
 have hkz:=U8 s
 have haz:=Tp s
 refine ZB 33 Tryz.func127 (ar (iA (X6 s) fun b1=>iA [.i 0,.i 0,.i 0,nl,nl] fun b2=>ie (ar (iL (Yh []) 0 2 fun v1=>?_))))
 refine Z0 1 (ie (aq (ar (Z0 1 (ie (ab 0 (ZX (fun fz gz m F h=>∃(k:Nat) (v:Value),(k<=s.kids.length)/\F=sF [1,2] fz [(3,VK (s.kids.take k) v),(4,.i k)]/\h=[Ze gz 1,Ze gz 2,.tail v 2]/\m=s.kids.length-k) _ _ _ ⟨0,v1,ob,rfl,rfl,rfl⟩ (wk [1,1,0] (fc (x:=VK [] v1) (Zf.slh _ (Yg Yh rfl)) (Y7 fl))) ?_)))))))
 rintro m F h ⟨k,v,Y8,rfl,rfl,rfl⟩
 refine aq (ar (Z6 3 [1] (iw (Vh s.kids) (Z0 1 (ie (ZH ((k:Int)<(s.kids.length:Int)) (fun Za=>?_) (fun Za=>?_)))))))
 ·refine ak (aq (ab 1 (az (Z6 4 [1] ?_))))
  obtain ⟨x1,Z2⟩:=Zp s.kids k om
  have hks:=VW Z2
  exact Zn (Zh none (k:Int) 2 (Vs Z2)) (Z0 1 (Zr [] (ih x1 ob ob) (iL [ZC x1] 1 2 fun v2=>ZA 0 [(20,.sl [ZC x1] none)] (ip 3 (Yh (s.kids.take (k+1))) (Yh (s.kids.take k)) [ZC x1] v none 2 (Ue _) (UQ rfl) rfl (by simp<;>omega) (by rw [Ve Z2];simp [VD]) fun v3=>Z0 1 (ie (az (Z0 1 (ZE k (Z0 1 (ie (ZG ⟨k+1,v3,ob,rfl,rfl,rfl⟩ (wk [2,2,0] (fr (ZI k fl))))))))))))))
 refine ax 0 (aD 12 (ZD 3 12 [0,1,2,3,4,5,6,7,9] [1,1,1,1] (Z8 8 (dc 8 [] [1,1,1] [b1,b1,b1] (V7 s.args) ?_))))
 rintro _ _ ⟨v4,rfl,rfl⟩
 exact Zj 1 2 [10] (Z8 11 (Yo 11 1 [] [] b2 [.i s.op,.i s.num,.i s.into,ZO s.args v4,VK (s.kids.take k) v] (de (Z9 (r3 [] [.agg [.i s.op,.i s.num,.i s.into,ZO s.args v4,VK (s.kids.take k) v]] [0] [(b2,b2)] ⟨rfl,rfl⟩ (Zf.agg (.cons (lr _) (.cons (lr _) (.cons (lr _) (.cons (Zf.forget _ _) (.cons (Zf.sl _ (Yg Yh (by rw [Vo om]))) .nil)))))))))))
theorem Z21 (b:Z4) (ih:∀(s2:Z3),(s2.sz<b.sz)->(s2.sz<=1000000000)->Zi 127 [Yk s2] [] (Ym (Yk s2))) (hz:b.sz<=1000000000):Zi 86 [ZC b] [] (Ym (ZC b)):=by
 have hbz:=WQ b
 refine ZB 28 Tryz.func86 (ar (iA (YE b) fun b1=>iA [nl,.i 0] fun b2=>ie (ar (iL (Zk []) 0 5 fun v1=>Z6 3 [2] (iA [nl,.i 0] fun b3=>?_)))))
 refine Zy 0 b3 [Yx [] v1,.i b.result] (ie (aq (ar (Z0 1 (ie (ab 0 (ZX (fun fz gz m F h=>∃(k:Nat) (v:Value),(k<=b.steps.length)/\F=sF [1,2,3] fz [(4,.i k)]/\h=[.obj b3 [Yx (b.steps.take k) v,.i b.result],Ze gz 2,Ze gz 3,.tail v 5]/\m=b.steps.length-k) _ _ _ ⟨0,v1,ob,rfl,rfl,rfl⟩ (wk [0,1,1,0] (Y7 fl)) ?_)))))))
 rintro m F h ⟨k,v,Y8,rfl,rfl,rfl⟩
 refine aq (ar (Z6 3 [2] (iw (W1 b.steps) (Z0 1 (ie (ZH ((k:Int)<(b.steps.length:Int)) (fun Za=>?_) (fun Za=>?_)))))))
 ·refine ak (aq (ab 1 (aE 12 (ZD 7 12 [0,1,2,3,4] [0,2] ?_))))
  obtain ⟨x1,Z2⟩:=Zp b.steps k om
  have hss:=Q3 Z2
  exact dx 5 (Zh none (k:Int) 5 (XG Z2)) (Zj 5 6 [6] (Z8 7 (Yf 7 [] [0] [b3] (ih x1 ob ob) (Z8 8 (dL 8 [0] [b3] [Yk x1] 1 5 fun v2=>Y9 3 3 [] [(24,.sl [Yk x1] none)] (Z8 9 (dp 9 4 [] [] (Zk (b.steps.take (k+1))) (Zk (b.steps.take k)) [Yk x1] v none 5 (YP _) (UQ rfl) rfl (by simp<;>omega) (by rw [Ve Z2];simp [Wx]) fun v3=>Zj 1 2 [10] (Z8 11 (Yo 11 2 [] [] b3 [Yx (b.steps.take (k+1)) v3,.i b.result] (de (az (Z0 1 (ZE k (Z0 1 (ie (ZG ⟨k+1,v3,ob,rfl,rfl,rfl⟩ (wk [0,2,2,0] (ZI k fl))))))))))))))))))
 exact ax 0 (ar (Z6 1 [0] (Zy 1 b2 [Yx (b.steps.take k) v,.i b.result] (ie (Z9 (r3 [] [.agg [Yx (b.steps.take k) v,.i b.result]] [0] [(b2,b2)] ⟨rfl,rfl⟩ (Zf.agg (.cons (Zf.sl _ (Yg Zk (by rw [Vo om]))) (.cons (lr _) .nil)))))))))
theorem LO (k:Nat):(∀(s:Z3),(s.sz<=k)->(s.sz<=1000000000)->Zi 127 [Yk s] [] (Ym (Yk s)))/\(∀(b:Z4),(b.sz<=k)->(b.sz<=1000000000)->Zi 86 [ZC b] [] (Ym (ZC b))):=by
 induction k with
 | zero=>exact ⟨fun s h=>by have:=s.sz_pos;omega,fun s h=>by have:=s.sz_pos;omega⟩
 | succ k ih=>exact ⟨fun s h hz=>Z22 s (fun b2 h2 h3=>ih.2 b2 om h3) hz,fun b h hz=>Z21 b (fun s2 h2 h3=>ih.1 s2 om h3) hz⟩
theorem LN (s:Z3) (hz:s.sz<=1000000000:=by exact ob):Zi 127 [Yk s] [] (Ym (Yk s)):=(LO s.sz).1 s (YI _) hz
theorem Dn (b:Z4) (hz:b.sz<=1000000000:=by exact ob):Zi 86 [ZC b] [] (Ym (ZC b)):=(LO b.sz).2 b (YI _) hz
theorem Cy (n:Zu) (ls:List LI) (qz:Nat) (hn:FO n qz XX:=by exact ob) (hqz:qz<=100000:=by exact ob) (hls:LC n n.routines.length ls:=by exact ob):Zi 156 [Yc n,Ay ls] [] (fun r h=>∃(n2:Zu),r=Yc n2/\h=[]/\FO n2 qz XX/\n2.routines.length=n.routines.length):=by
 have hnl:=hn.fn.len
 have Xl:=hn.fn.decls.ok
 have hll:=hls.len
 refine ZB 45 Tryz.func156 (ar (iA (YC n) fun b1=>iA [nl,nl] fun b2=>ie (ar (Z6 2 [1] (Zr [] (JX n.decls) (iL (Yn []) 0 5 fun v1=>Z0 1 (iA [nl,nl] fun b3=>?_)))))))
 refine Zy 0 b3 [YB n.decls,XQ [] v1] (ie (aq (ar (Z0 1 (ie (ab 0 (ZX (fun fz gz m F h=>∃(k:Nat) (rs:List Y1) (u:Value),(k<=n.routines.length)/\(rs.length=k)/\(∀r∈rs,RF n.decls n.routines.length qz XX r)/\F=sF [1,2,4,5] fz [(6,.i k)]/\h=[.obj b3 [YB n.decls,XQ rs u],Ze gz 2,Ze gz 3,.tail u 5]/\m=n.routines.length-k) _ _ _ ⟨0,[],v1,ob,ob,(fun r hr=>by cases hr),rfl,rfl,rfl⟩ (wk [0,1,1,0] (Y7 fl)) ?_)))))))
 rintro m F h ⟨k,rs,u,Y8,Zm,Zo,rfl,rfl,rfl⟩
 refine aq (ar (Z6 3 [2] (iw (U4 n.routines) (Z0 1 (ie (ZH ((k:Int)<(n.routines.length:Int)) (fun Za=>?_) (fun Za=>?_)))))))
 ·refine ak (aq (ab 1 (ar (Z6 3 [2] ?_))))
  obtain ⟨x1,Z2⟩:=Zp n.routines k om
  have hrf:=hn.rf (ZU Z2)
  have hrp:=hn.fn.ok.params_at Z2
  have hrz:=hrf.body.2
  refine Zn (Zh none (k:Int) 5 (Wk Z2)) (Z0 1 (iA [nl,nl,.i 0,nl,.i 0] fun b4=>Zy 0 b4 (QH x1) (ie (aE 20 (ZD 14 20 [0,1,2,3,5,6] [1,0] ?_)))))
  obtain ⟨x2,Zt⟩:=Zp ls k om
  have hlc:=hls.at Zt Z2
  refine dx 7 (Zh none (k:Int) 1 (Ow Zt)) (ZD 8 13 [8,10,11,12,13] [0,0] (Z8 4 (dc 4 [] [0,0,1] [b4,b4,b3] (V7 x1.params) ?_)))
  rintro _ _ ⟨v2,rfl,rfl⟩
  refine Z8 9 (dc 9 [] [0,0,1] [b4,b4,b3] (V7 x2) ?_)
  rintro _ _ ⟨v3,rfl,rfl⟩
  exact Z8 14 (Yf 14 [] [0,1] [b4,b3] (Dn x1.body) (Y9 4 5 [15] [(40,.agg [Z5 x1.params,Z5 x2,.i x1.result,W7 x1.body.steps,.i x1.body.result])] (Z8 16 (dL 16 [1] [b3] (Yn [Y1.mk x1.params x2 x1.result (Z4.mk x1.body.steps x1.body.result)]) 1 5 fun v4=>Y9 3 3 [] [(41,Ty [Y1.mk x1.params x2 x1.result (Z4.mk x1.body.steps x1.body.result)])] (Z8 17 (dp 17 7 [] [] (Yn (rs++[Y1.mk x1.params x2 x1.result (Z4.mk x1.body.steps x1.body.result)])) (Yn rs) (Yn [Y1.mk x1.params x2 x1.result (Z4.mk x1.body.steps x1.body.result)]) u none 5 (Vt _) (Vt _) (KV _) (by simp<;>omega) (by simp [JB,Yn]) fun v5=>Zj 1 2 [18] (Z8 19 (Yo 19 5 [] [] b3 [YB n.decls,XQ (rs++[Y1.mk x1.params x2 x1.result (Z4.mk x1.body.steps x1.body.result)]) v5] (de (az (Z0 1 (ZE k (Z0 1 (ie (ZG ⟨k+1,(rs++[Y1.mk x1.params x2 x1.result (Z4.mk x1.body.steps x1.body.result)]),v5,ob,ob,(YZ Zo (by rw [Z4.eta];exact hrf.lend hlc.1 hlc.2)),rfl,rfl,rfl⟩ (wk [0,5,5,0] (ZI k fl)))))))))))))))))
 exact ax 0 (ar (Z6 1 [0] (Zy 1 b2 [YB n.decls,XQ rs u] (ie (Z9 (r3 [] [.agg [YB n.decls,XQ rs u]] [0] [(b2,b2)] ⟨(Zu.mk n.decls rs),rfl,rfl,(FO.fin hn.fn om Zo)⟩ (Zf.agg (.cons (lr _) (.cons (Zf.forget _ _) .nil)))))))))
theorem PG (n:Zu) (qz:Nat) (hn:FO n qz XX:=by exact ob) (hqz:qz<=100000:=by exact ob):Zi 121 [Yc n] [] (fun r h=>∃(n2:Zu),r=Yc n2/\h=[]/\FO n2 qz XX):=by
 refine ZB 33 Tryz.func121 (ar (iA (YC n) fun b1=>iA [nl,nl] fun b2=>?_))
 refine ie (aD 6 (ZD 4 6 [0,1] [1,1] (K5 (fun fz gz F h=>∃(n21:Zu) (b3:Nat) (xs1:List LI),(LC n n.routines.length xs1)/\(FO n21 qz XX/\n21.routines.length=n.routines.length)/\F=sF [2] fz [(3,.p b3 0)]/\h=[.obj b3 (YC n21),Ze gz 0,Ze gz 1]) ?_ ?_)))
 ·refine WC 2 4 ?_ ?_
  ·refine dc 2 [] [1] [b1] (Hp n qz (hn:=hn.fn)) ?_
   rintro _ _ ⟨xs1,rfl,rfl,ZT⟩
   refine WC 3 4 ?_ ?_
   ·refine dc 3 [] [] [] (Cy n xs1 qz (hls:=(by first|assumption|(rw [<-hjl];exact Ww)))) ?_
    rintro _ _ ⟨n21,rfl,rfl,Y6⟩
    have hwl:=Y6
    exact Z8 4 (dA 4 [] [] [nl,nl] fun b3=>Z8 5 (Yo 5 0 [] [] b3 (YC n21) (de (ZF ⟨_,b3,_,(by assumption),(by assumption),rfl,rfl⟩ (ZP 3 fl)))))
   refine dA 4 [1] [b1] [nl,nl] fun b4=>Z8 3 (dc 3 [] [] [] (Cy n xs1 qz (hls:=(by first|assumption|(rw [<-hjl];exact Ww)))) ?_)
   rintro _ _ ⟨n22,rfl,rfl,YA⟩
   have hwl:=YA
   exact Z8 5 (Yo 5 0 [] [] b4 (YC n22) (de (ZF ⟨_,b4,_,(by assumption),(by assumption),rfl,rfl⟩ (ZP 3 fl))))
  refine dA 4 [1,1] [b1,b1] [nl,nl] fun b5=>Z8 2 (dc 2 [] [2] [b1] (Hp n qz (hn:=hn.fn)) ?_)
  rintro _ _ ⟨xs2,rfl,rfl,YJ⟩
  refine Z8 3 (dc 3 [] [] [] (Cy n xs2 qz (hls:=(by first|assumption|(rw [<-hjl];exact Ww)))) ?_)
  rintro _ _ ⟨n23,rfl,rfl,YU⟩
  have hwl:=YU
  exact Z8 5 (Yo 5 0 [] [] b5 (YC n23) (de (ZF ⟨_,b5,_,(by assumption),(by assumption),rfl,rfl⟩ (ZP 3 fl))))
 rintro F h ⟨n21,b3,xs1,ZT,Y6,rfl,rfl⟩
 have hwl:=Y6
 refine aq (ar (Z0 1 (ie (ab 0 (ZX (fun fz gz m F h=>∃(k:Nat) (nn:Zu),(k<=13)/\(FO nn qz XX)/\F=sF [2,3] fz [(4,.i k)]/\h=[.obj b3 (YC nn),Ze gz 1]/\m=13-k) _ _ _ ⟨0,n21,ob,hwl.1,rfl,rfl,rfl⟩ (wk [0,0] (Y7 fl)) ?_)))))
 rintro m F h ⟨k,nn,Y8,Zm,rfl,rfl,rfl⟩
 refine aq (ar (Z0 2 (ie (ZH ((k:Int)<=12) (fun Za=>?_) (fun Za=>?_)))))
 ·refine ak (aq (ab 1 (ar (iL (Wj []) 0 1 fun v1=>?_))))
  refine Z0 1 (ie (aq (ar (Z0 1 (ie (ab 2 (ZX (fun fz gz m F h=>∃(j:Nat) (ls:List LI) (u:Value),(j<=nn.routines.length)/\(LC nn j ls)/\(ls.length=j)/\F=sF [2,3,4] fz [(5,Fe ls u),(6,.i j)]/\h=[Ze gz 1,Ze gz 2,.tail u 1]/\m=nn.routines.length-j) _ _ _ ⟨0,[],v1,ob,LC.nil,ob,rfl,rfl,rfl⟩ (wk [1,1,0] (fr (Y7 fl))) ?_)))))))
  rintro m F h ⟨j,ls,u,U3,Ww,Xc,rfl,rfl,rfl⟩
  refine aq (ar (Z6 3 [0] (iw (U4 nn.routines) (Z0 1 (ie (ZH ((j:Int)<(nn.routines.length:Int)) (fun Zg=>?_) (fun Zg=>?_)))))))
  ·obtain ⟨rt,hrt⟩:=Zp nn.routines j om
   have hrl:=(Zm.rf (ZU hrt)).lent
   have hnl4:=Zm.fn.len
   refine ak (aq (ab 3 (az (Z6 3 [0] (ic [] (Py nn rt j qz (hn:=Zm.fn) (hr:=hrt)) ?_)))))
   rintro _ _ ⟨xs3,rfl,rfl,XI⟩
   have hkl:=XI
   exact iL (Wj [xs3]) 1 1 fun v2=>ZA 0 [(27,Ay [xs3])] (ip 3 (Wj (ls++[xs3])) (Wj ls) (Wj [xs3]) u none 1 (Am _) (Am _) (Em _) (by simp<;>omega) (by simp [El,Wj]) fun v3=>Z0 1 (ie (az (Z0 1 (ZE j (Z0 1 (ie (ZG ⟨j+1,(ls++[xs3]),v3,ob,(Ww.snoc om (fun r hr v hv=>by rw [hrt] at hr;cases hr;exact hrl.2 v (hkl.2 v hv))),ob,rfl,rfl,rfl⟩ (wk [2,2,0] (fr (ZI j fl)))))))))))
  have hjl:j=nn.routines.length:=by omega
  refine ax 2 (az (Tz 2 [(30,Ay ls)] [0] (ic [] (Cy nn ls qz (hls:=(by first|assumption|(rw [<-hjl];exact Ww)))) ?_)))
  rintro _ _ ⟨n24,rfl,rfl,Wd⟩
  have hwl:=Wd
  exact Zy 0 b3 (YC n24) (ie (az (Z0 1 (ZE k (Z0 1 (ie (ZG ⟨k+1,n24,ob,hwl.1,rfl,rfl,rfl⟩ (wk [0,0] (ZI k fl)))))))))
 exact ax 0 (ar (Z6 1 [0] (Zy 1 b2 (YC nn) (ie (Z9 (r3 [] [Yc nn] [0] [(b2,b2)] ⟨nn,rfl,rfl,(by first|exact Zm|exact hwl.1)⟩ (lr _)))))))
end Go.Abs
