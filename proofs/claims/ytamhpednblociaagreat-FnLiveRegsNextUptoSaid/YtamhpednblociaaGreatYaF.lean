/-
  A part of the proofs of several laws (see the last file): no condition.
-/
import Derived.Test.YtamhpednblociaaGreatYaE
set_option linter.all false
set_option linter.unusedVariables false
set_option linter.unusedSimpArgs false
set_option linter.unusedSectionVars false
set_option maxRecDepth 10000
set_option maxHeartbeats 4000000
namespace Go.Abs
open Go.Proofs
theorem Zag (x:Instr) (k:Nat) (hk:k<=200000000:=by exact ob):Zp 83 [Ty x,.i k] [] (Yu (Z4 (Xk k x))):=by
 refine ZG 29 Tryz.func83 (ar (iA (V9 x) fun b1=>Z1 (Xe (WJ [0] (ab 0 (ar (Yy (x.op==22) Zg (fun Za=>?_) (fun Za=>?_))))))))
 ·exact Zq 2 [0] (iL (Z7 [x.num]) 1 1 fun v1=>Zl (ZJ (ZP [x.num] v1) (Ze.sl _ (Yj Z7 (by first|(rw [Xk,Zb om];rfl)|(rw [Xk,Z5 om,Zb om];rfl)|(rw [Xk,Z5 om,Z5 om,Zb om];rfl)|(rw [Xk,Z5 om,Z5 om,Z5 om,Zb om];rfl)|(rw [Xk,Z5 om,Z5 om,Z5 om,Z5 om];rfl)|(rw [Xk,Zb om])|(rw [Xk,Z5 om,Zb om])|(rw [Xk,Z5 om,Z5 om,Zb om])|(rw [Xk,Z5 om,Z5 om,Z5 om,Zb om])|(rw [Xk,Z5 om,Z5 om,Z5 om,Z5 om]))))))
 refine ar (Yy (x.op==20) Zg (fun Zh=>?_) (fun Zh=>?_))
 ·exact Ye 1 (ZE k (Zy 2 [0] (iL (Z7 [((k+1:Nat):Int),x.num]) 2 1 fun v2=>Zl (ZJ (ZP [((k+1:Nat):Int),x.num] v2) (Ze.sl _ (Yj Z7 (by first|(rw [Xk,Zb om];rfl)|(rw [Xk,Z5 om,Zb om];rfl)|(rw [Xk,Z5 om,Z5 om,Zb om];rfl)|(rw [Xk,Z5 om,Z5 om,Z5 om,Zb om];rfl)|(rw [Xk,Z5 om,Z5 om,Z5 om,Z5 om];rfl)|(rw [Xk,Zb om])|(rw [Xk,Z5 om,Zb om])|(rw [Xk,Z5 om,Z5 om,Zb om])|(rw [Xk,Z5 om,Z5 om,Z5 om,Zb om])|(rw [Xk,Z5 om,Z5 om,Z5 om,Z5 om]))))))))
 refine ar (Yy (x.op==21) Zg (fun ZC=>?_) (fun ZC=>?_))
 ·exact QB [0] (ZU (ZJ (Z4 x.jumps) (Ze.sl _ (Yj Z7 (by first|(rw [Xk,Zb om];rfl)|(rw [Xk,Z5 om,Zb om];rfl)|(rw [Xk,Z5 om,Z5 om,Zb om];rfl)|(rw [Xk,Z5 om,Z5 om,Z5 om,Zb om];rfl)|(rw [Xk,Z5 om,Z5 om,Z5 om,Z5 om];rfl)|(rw [Xk,Zb om])|(rw [Xk,Z5 om,Zb om])|(rw [Xk,Z5 om,Z5 om,Zb om])|(rw [Xk,Z5 om,Z5 om,Z5 om,Zb om])|(rw [Xk,Z5 om,Z5 om,Z5 om,Z5 om]))))))
 refine Y4 (Xv (fun fz gz F h=>F=sF [1] fz [(23,.b ((x.op==23)||(x.op==24)))]/\h=gz) ?_ ?_)
 ·refine ac (x.op==23) Zg (fun Yc=>?_) (fun Yc=>?_)
  ·exact ak (ZI ⟨rfl,rfl⟩ (wk [0] (fc (x:=.b (x.op==23)) (lb (by first|rfl|(rw [Zb Yc])|(rw [Z5 Yc])|(simp [Yc];done)|(rw [Yd];simp [Yc];done)|omega)) fl)))
  exact Vl (ZI ⟨rfl,rfl⟩ (wk [0] (fc (x:=.b (x.op==24)) (lb (by first|rfl|(rw [Zb Yc])|(rw [Z5 Yc])|(simp [Yc];done)|(rw [Yd];simp [Yc];done)|omega)) fl)))
 rintro F h ⟨rfl,rfl⟩
 refine ac ((x.op==23)||(x.op==24)) (p:=(x.op=23)∨(x.op=24)) (Zz Zg Zg) (fun YB=>?_) (fun YB=>?_)
 ·exact ar (Zl (ZJ (nl) (Ze.sl _ (by first|(rw [Xk,Zb om];rfl)|(rw [Xk,Z5 om,Zb om];rfl)|(rw [Xk,Z5 om,Z5 om,Zb om];rfl)|(rw [Xk,Z5 om,Z5 om,Z5 om,Zb om];rfl)|(rw [Xk,Z5 om,Z5 om,Z5 om,Z5 om];rfl)|(rw [Xk,Zb om])|(rw [Xk,Z5 om,Zb om])|(rw [Xk,Z5 om,Z5 om,Zb om])|(rw [Xk,Z5 om,Z5 om,Z5 om,Zb om])|(rw [Xk,Z5 om,Z5 om,Z5 om,Z5 om])))))
 exact ak (Ye 1 (ZE k (iL (Z7 [((k+1:Nat):Int)]) 1 1 fun v3=>Zl (ZJ (ZP [((k+1:Nat):Int)] v3) (Ze.sl _ (Yj Z7 (by first|(rw [Xk,Zb om];rfl)|(rw [Xk,Z5 om,Zb om];rfl)|(rw [Xk,Z5 om,Z5 om,Zb om];rfl)|(rw [Xk,Z5 om,Z5 om,Z5 om,Zb om];rfl)|(rw [Xk,Z5 om,Z5 om,Z5 om,Z5 om];rfl)|(rw [Xk,Zb om])|(rw [Xk,Z5 om,Zb om])|(rw [Xk,Z5 om,Z5 om,Zb om])|(rw [Xk,Z5 om,Z5 om,Z5 om,Zb om])|(rw [Xk,Z5 om,Z5 om,Z5 om,Z5 om]))))))))
theorem Zfw (c:List Instr) (k:Nat) (x:Instr) (hx:c[k]? = some x:=by exact ob) (hl:c.length<=200000000:=by exact ob) (hj:x.jumps.length<=1000000:=by exact ob):Zp 85 [K6 c,.i k] [] (Yu (Z4 (Xs k x))):=by
 have hkl:=(X9.1 hx).1
 refine ZG 52 Tryz.func85 (Y8 (Ye 2 ?_))
 obtain ⟨x1,Z3⟩:=Zu c k om
 obtain rfl:x1=x:=Ax (Z3.symm.trans hx)
 refine Zm (Zi none (k:Int) 6 (TA Z3)) (Z0 1 (iA [.i 0,.i 0,.i 0,.i 0,nl,nl] fun b1=>?_))
 refine ZB 0 b1 (V9 x1) (ie (Xe (WJ [0] (ab 0 (Y4 (Xv (fun fz gz F h=>F=sF [1,5,13] fz [(14,.b ((x1.op==23)||(x1.op==24)))]/\h=gz) ?_ ?_))))))
 ·refine ac (x1.op==23) Zg (fun Za=>?_) (fun Za=>?_)
  ·exact ak (ZI ⟨rfl,rfl⟩ (wk [0] (fc (x:=.b (x1.op==23)) (lb (by first|rfl|(rw [Zb Za])|(rw [Z5 Za])|(simp [Za];done)|(rw [Yd];simp [Za];done)|omega)) fl)))
  exact Vl (ZI ⟨rfl,rfl⟩ (wk [0] (fc (x:=.b (x1.op==24)) (lb (by first|rfl|(rw [Zb Za])|(rw [Z5 Za])|(simp [Za];done)|(rw [Yd];simp [Za];done)|omega)) fl)))
 rintro F h ⟨rfl,rfl⟩
 refine ac ((x1.op==23)||(x1.op==24)) (p:=(x1.op=23)∨(x1.op=24)) (Zz Zg Zg) (fun Zh=>?_) (fun Zh=>?_)
 ·exact ar (iL (Z7 []) 0 1 fun v1=>Zl (ZJ (ZP [] v1) (Ze.sl _ (Yj Z7 (by first|(rw [Xs,Zb om];rfl)|(rw [Xs,Z5 om,Zb om];rfl)|(rw [Xs,Z5 om,Z5 om,Zb om];rfl)|(rw [Xs,Z5 om,Z5 om,Z5 om,Zb om];rfl)|(rw [Xs,Z5 om,Z5 om,Z5 om,Z5 om];rfl)|(rw [Xs,Zb om])|(rw [Xs,Z5 om,Zb om])|(rw [Xs,Z5 om,Z5 om,Zb om])|(rw [Xs,Z5 om,Z5 om,Z5 om,Zb om];exact CI om ZA)|(rw [Xs,Z5 om,Z5 om,Z5 om,Z5 om]))))))
 refine ar (Yy (x1.op==22) Zg (fun ZC=>?_) (fun ZC=>?_))
 ·exact Zq 2 [0] (iL (Z7 [x1.num]) 1 1 fun v2=>Zl (ZJ (ZP [x1.num] v2) (Ze.sl _ (Yj Z7 (by first|(rw [Xs,Zb om];rfl)|(rw [Xs,Z5 om,Zb om];rfl)|(rw [Xs,Z5 om,Z5 om,Zb om];rfl)|(rw [Xs,Z5 om,Z5 om,Z5 om,Zb om];rfl)|(rw [Xs,Z5 om,Z5 om,Z5 om,Z5 om];rfl)|(rw [Xs,Zb om])|(rw [Xs,Z5 om,Zb om])|(rw [Xs,Z5 om,Z5 om,Zb om])|(rw [Xs,Z5 om,Z5 om,Z5 om,Zb om];exact CI om ZA)|(rw [Xs,Z5 om,Z5 om,Z5 om,Z5 om]))))))
 refine ar (Yy (x1.op==20) Zg (fun Yc=>?_) (fun Yc=>?_))
 ·refine Ye 1 (ZE k (iL (Z7 [((k+1:Nat):Int)]) 1 1 fun v3=>Kd 2 [(27,Z4 [((k+1:Nat):Int)])] [1] (ic [] (AT [((k+1:Nat):Int)] x1.num (hl:=(by first|omega|(simp;done)|(simp only [Yp,YZ];omega)))) ?_)))
  rintro _ _ ⟨v4,rfl,rfl⟩
  exact Zl (ZJ (ZP (Wz [((k+1:Nat):Int)] x1.num) v4) (Ze.sl _ (Yj Z7 (by first|(rw [Xs,Zb om];rfl)|(rw [Xs,Z5 om,Zb om];rfl)|(rw [Xs,Z5 om,Z5 om,Zb om];rfl)|(rw [Xs,Z5 om,Z5 om,Z5 om,Zb om];rfl)|(rw [Xs,Z5 om,Z5 om,Z5 om,Z5 om];rfl)|(rw [Xs,Zb om])|(rw [Xs,Z5 om,Zb om])|(rw [Xs,Z5 om,Z5 om,Zb om])|(rw [Xs,Z5 om,Z5 om,Z5 om,Zb om];exact CI om ZA)|(rw [Xs,Z5 om,Z5 om,Z5 om,Z5 om])))))
 refine ar (Yy (x1.op==21) Zg (fun YB=>?_) (fun YB=>?_))
 ·refine ar (iL (Z7 []) 0 1 fun v5=>?_)
  refine Z1 (Y4 (ab 1 (Y5 (fun fz gz m F h=>∃(j:Nat) (acc:LI),(j<=x1.jumps.length)/\(acc.length<=j)/\(VU acc (x1.jumps.drop j)=VU [] x1.jumps)/\F=sF [5] fz [(6,Z4 acc),(7,.i j)]/\h=[Zj gz 1]/\m=x1.jumps.length-j) _ _ _ ⟨0,[],ob,ob,rfl,rfl,rfl,rfl⟩ (wk [1] (fc (x:=ZP [] v5) (Ze.forget _ _) (Yg fl))) ?_)))
  rintro m F h ⟨j,acc,Yi,Zk,ZA,rfl,rfl,rfl⟩
  refine Yt 3 [0] (iw (Yb x1.jumps) (Y0 ((j:Int)<(x1.jumps.length:Int)) (fun YY=>?_) (fun YY=>?_)))
  ·refine ak (aq (ab 2 (az (Zy 4 [0] ?_))))
   obtain ⟨x2,Zv⟩:=Zu x1.jumps j om
   refine Zm (Zi none (j:Int) 1 (Y6 Zv)) (Z0 1 (ic [] (AT acc x2 (hl:=(by first|omega|(simp;done)|(simp only [Yp,YZ];omega)))) ?_))
   rintro _ _ ⟨v6,rfl,rfl⟩
   exact Z1 (az (Z0 1 (ZE j (Z1 (ZH ⟨j+1,(Wz acc x2),ob,(by have:=Jy acc x2;omega),(Lx Zv ZA),rfl,rfl,rfl⟩ (wk [1] (fc (x:=ZP (Wz acc x2) v6) (Ze.forget _ _) (ZL j fl))))))))
  exact ax 1 (ar (Zl (ZJ (Z4 acc) (Ze.sl _ (Yj Z7 (by first|(rw [Xs,Zb om];rfl)|(rw [Xs,Z5 om,Zb om];rfl)|(rw [Xs,Z5 om,Z5 om,Zb om];rfl)|(rw [Xs,Z5 om,Z5 om,Z5 om,Zb om];rfl)|(rw [Xs,Z5 om,Z5 om,Z5 om,Z5 om];rfl)|(rw [Xs,Zb om])|(rw [Xs,Z5 om,Zb om])|(rw [Xs,Z5 om,Z5 om,Zb om])|(rw [Xs,Z5 om,Z5 om,Z5 om,Zb om];exact CI om ZA)|(rw [Xs,Z5 om,Z5 om,Z5 om,Z5 om])))))))
 exact ak (Ye 1 (ZE k (iL (Z7 [((k+1:Nat):Int)]) 1 1 fun v7=>Zl (ZJ (ZP [((k+1:Nat):Int)] v7) (Ze.sl _ (Yj Z7 (by first|(rw [Xs,Zb om];rfl)|(rw [Xs,Z5 om,Zb om];rfl)|(rw [Xs,Z5 om,Z5 om,Zb om];rfl)|(rw [Xs,Z5 om,Z5 om,Z5 om,Zb om];rfl)|(rw [Xs,Z5 om,Z5 om,Z5 om,Z5 om];rfl)|(rw [Xs,Zb om])|(rw [Xs,Z5 om,Zb om])|(rw [Xs,Z5 om,Z5 om,Zb om])|(rw [Xs,Z5 om,Z5 om,Z5 om,Zb om];exact CI om ZA)|(rw [Xs,Z5 om,Z5 om,Z5 om,Z5 om]))))))))
theorem MI (xs:LI) (ys:LI) (hz:xs.length+ys.length<=100000000:=by exact ob):Zp 86 [Z4 xs,Z4 ys] [] (Yu (Z4 (VU xs ys))):=by
 refine ZG 22 Tryz.func86 (Y8 (Ye 1 (ic [] (WQ xs) ?_)))
 rintro _ _ ⟨v1,rfl,rfl⟩
 refine Z1 (Y4 (ab 0 (Y5 (fun fz gz m F h=>∃(j:Nat) (acc:LI),(j<=ys.length)/\(acc.length<=xs.length+j)/\(VU acc (ys.drop j)=VU xs ys)/\F=sF [1] fz [(5,Z4 acc),(6,.i j)]/\h=[]/\m=ys.length-j) _ _ _ ⟨0,xs,ob,ob,rfl,rfl,rfl,rfl⟩ (wk [] (fc (x:=ZP xs v1) (Ze.forget _ _) (Yg fl))) ?_)))
 rintro m F h ⟨j,acc,Yi,Zk,ZA,rfl,rfl,rfl⟩
 refine YP 2 (iw (Yb ys) (Y0 ((j:Int)<(ys.length:Int)) (fun Za=>?_) (fun Za=>?_)))
 ·refine ak (aq (ab 1 (az (Z0 3 ?_))))
  obtain ⟨x1,Z3⟩:=Zu ys j om
  refine Zm (Zi none (j:Int) 1 (Y6 Z3)) (Z0 1 (ic [] (AT acc x1) ?_))
  rintro _ _ ⟨v2,rfl,rfl⟩
  exact Z1 (az (Z0 1 (ZE j (Z1 (ZH ⟨j+1,(Wz acc x1),ob,(by have:=Jy acc x1;omega),(Lx Z3 ZA),rfl,rfl,rfl⟩ (wk [] (fc (x:=ZP (Wz acc x1) v2) (Ze.forget _ _) (ZL j fl))))))))
 exact ax 0 (ar (Zl (ZJ (Z4 acc) (Ze.sl _ (Yj Z7 (CI om ZA))))))
theorem Z11 (x:Instr) (hl:x.args.length<=1000000:=by exact ob):Zp 89 [Ty x] [] (Yu (Z4 (QL x))):=by
 refine ZG 29 Tryz.func89 (ar (iA (V9 x) fun b1=>Z1 (ar (iL (Z7 []) 0 1 fun v1=>Z1 (Xe (XC [1,3] [(13,.b ((x.op != 14)&&(x.op != 15)))] (fun gz=>gz) ?_ ?_))))))
 ·refine Zy 4 [1] (ib (b:=(x.op != 14)) 9 (fun Zd=>?_) (fun Zd=>?_))
  ·have Y7:x.op≠14:=(Ys).1 Zd
   exact WJ [1] (wk [0,0] (Zo (x.op != 15) Zd fl))
  have Ym:¬(x.op≠14):=Y2 Ys Zd
  exact Z1 (wk [0,0] (Zo false Zd fl))
 refine ac ((x.op != 14)&&(x.op != 15)) (p:=(x.op≠14)/\(x.op≠15)) (YG Ys Ys) (fun Za=>?_) (fun Za=>?_)
 ·refine Y8 (ab 0 (Y5 (fun fz gz m F h=>∃(j:Nat) (acc:LI),(j<=x.args.length)/\(acc.length<=j)/\(VU acc (x.args.drop j)=VU [] x.args)/\F=sF [1] fz [(3,Z4 acc),(4,.i j)]/\h=[Zj gz 1]/\m=x.args.length-j) _ _ _ ⟨0,[],ob,ob,rfl,rfl,rfl,rfl⟩ (wk [1] (fc (x:=ZP [] v1) (Ze.forget _ _) (Yg fl))) ?_))
  rintro m F h ⟨j,acc,Yi,Zk,ZA,rfl,rfl,rfl⟩
  refine Yt 3 [0] (iw (Yb x.args) (Y0 ((j:Int)<(x.args.length:Int)) (fun Zh=>?_) (fun Zh=>?_)))
  ·refine ak (aq (ab 1 (az (Zy 4 [0] ?_))))
   obtain ⟨x1,Z3⟩:=Zu x.args j om
   refine Zm (Zi none (j:Int) 1 (Y6 Z3)) (Z0 1 (ic [] (AT acc x1) ?_))
   rintro _ _ ⟨v2,rfl,rfl⟩
   exact Z1 (az (Z0 1 (ZE j (Z1 (ZH ⟨j+1,(Wz acc x1),ob,(by have:=Jy acc x1;omega),(Lx Z3 ZA),rfl,rfl,rfl⟩ (wk [1] (fc (x:=ZP (Wz acc x1) v2) (Ze.forget _ _) (ZL j fl))))))))
  exact ax 0 (ar (Zl (ZJ (Z4 acc) (Ze.sl _ (Yj Z7 (by rw [QL,Zb Za];exact CI om ZA))))))
 exact ak (ar (Zl (ZJ (ZP [] v1) (Ze.sl _ (Yj Z7 (by rw [QL,Z5 Za]))))))
theorem Zfu (c:List Instr) (a:Int) (n:Nat) (hr:HY n c:=by exact ob) (ha:0<=a/\a<c.length:=by exact ob):Zp 49 [K6 c,.i a] [] (fun r h=>∃(g:Nat),r=.ms g 0 c.length c.length/\h=[.row (.slice (some ⟨g,0,none⟩) c.length c.length) 1 (Zc (W2 (Uk (X8 c n (c.length-a.toNat)))))]):=by
 have hcl:=hr.len
 have hn2:=hr.n2
 refine ZG 64 Tryz.func49 (Y8 (Ye 1 (iw (UG c) (Pl c.length [nl] 1 fun g1=>?_))))
 refine Xm (Z1k 0 (.slice (some ⟨g1,0,none⟩) c.length c.length) 1 ((List.replicate c.length [nl]).flatten) (Zc (W2 (Uk (X8 c n 0)))) (by rw [X8,Zbz];exact OJ _)) (Z1 (YP 1 (iw (UG c) (ia (((c.length:Int)-1)) (((c.length:Int))-(1)) (Z1 (ab 0 (Y5 (fun fz gz m F h=>∃(z:Int) (d:Nat),((d:Int)+z+1=c.length)/\(a<=z+1)/\F=sF [0,1,5] fz [(6,.i z)]/\h=[.row (.slice (some ⟨g1,0,none⟩) c.length c.length) 1 (Zc (W2 (Uk (X8 c n d))))]/\m=c.length-d) _ _ _ ⟨((c.length:Int)-1),0,ob,ob,rfl,rfl,rfl⟩ (wk [0] fl) ?_)))))))
 rintro m F h ⟨z,d,Yi,Zk,rfl,rfl,rfl⟩
 refine Xe (Y0 (z>=a) (fun Za=>?_) (fun Za=>?_))
 ·refine ak (aq (ab 1 (ar ?_)))
  obtain ⟨k,rfl⟩:∃k:Nat,z=(k:Int):=⟨z.toNat,by omega⟩
  obtain ⟨xi,hxi⟩:=Zu c k om
  have hri:=hr.d k xi hxi
  have hli:=hr.l xi (Y3 hxi)
  have hnl:=Zcp k xi
  have hTl:=T3 c n d
  refine iL (Z7 []) 0 1 fun v1=>?_
  refine Z1 (Ye 2 (Zt [] (Zfw c k xi (hx:=hxi)) (Z1 (Y4 (ab 2 (Y5 (fun fz gz m F h=>∃(j:Nat) (Q:List Bool),(j<=(Xs k xi).length)/\(Q.length=n)/\(Um (X8 c n d) Q ((Xs k xi).drop j)=Um (X8 c n d) (List.replicate n false) (Xs k xi))/\F=sF [0,1,5,6,8] fz [(7,Z4 (Xj Q)),(9,.i j)]/\h=[Zj gz 1]/\m=(Xs k xi).length-j) _ _ _ ⟨0,(List.replicate n false),ob,(List.length_replicate ..),rfl,rfl,rfl,rfl⟩ (wk [1] (fc (x:=ZP [] v1) (Ze.sl _ (Yj Z7 (by rw [Za0]))) (Yg fl))) ?_))))))
  rintro m F h ⟨j,Q,Ui,W4,XV,rfl,rfl,rfl⟩
  refine YP 2 (io (.i (((Xs k xi).length:Nat):Int)) (.i (((Z7 (Xs k xi)).length:Nat):Int)) (li (by rw [Yb])) (Y0 ((j:Int)<(((Xs k xi).length:Nat):Int)) (fun Zh=>?_) (fun Zh=>?_)))
  ·refine ak (aq (ab 3 (az (Z0 4 ?_))))
   obtain ⟨x1,Z3⟩:=Zu (Xs k xi) j om
   have hnx:=hr.nb k xi hxi _ ((Ry _).1 (Y3 Z3))
   have Wi:=BL (c:=c) (n:=n) (m:=d) (j:=x1.toNat) om om
   have hil:=BG (W7 (X8 c n d) x1.toNat)
   have hiq:=BG Q
   exact Zm (Zi none (j:Int) 1 (Y6 Z3)) (Z0 1 (Zm (XD g1 c.length c.length x1.toNat 1 x1) (Vz (WE 0 g1 c.length c.length 1 (x1.toNat * 1) (Zc (W2 (Uk (X8 c n d)))) [Z4 (Xj (W7 (X8 c n d) x1.toNat))] 28 (Z4 (Xj (W7 (X8 c n d) x1.toNat))) (Rh om)) (Zt [] (MI (Xj Q) (Xj (W7 (X8 c n d) x1.toNat)) (hz:=(by first|omega|(have h1:=MX x2;have h2:=BR (Xj Q) x2.dst;have h3:=BG Q;omega)))) (Z1 (az (Z0 1 (ZE j (Z1 (ZH ⟨j+1,(Wt Q (Xj (W7 (X8 c n d) x1.toNat))),ob,(by rw [QE];exact W4),(RU Z3 XV),rfl,rfl,rfl⟩ (wk [0] (fc (x:=Z4 (VU (Xj Q) (Xj (W7 (X8 c n d) x1.toNat)))) (Ze.sl _ (Yj Z7 (GF (by intro z hz;have:=Pr hz;omega)))) (ZL j fl)))))))))))))
  refine ax 2 (YP 2 ?_)
  obtain ⟨x2,Zv⟩:=Zu c k om
  have hri2:=hr.d k x2 Zv
  have hli2:=hr.l x2 (Y3 Zv)
  have hiq:=BG Q
  have hqe:Q=Um (X8 c n d) (List.replicate n false) (Xs k x2):=(RT om XV).trans (by rw [Ax (hxi.symm.trans Zv)])
  refine Zm (Zi none (k:Int) 6 (TA Zv)) (Z0 2 (Zt [] (MG x2.op) (ie (ac (VZ x2.op) Iff.rfl (fun ZC=>?_) (fun ZC=>?_)))))
  ·refine az (Z0 3 (Zm (Zi none (k:Int) 6 (TA Zv)) (Z0 2 (ic [] (Le (Xj Q) x2.dst) ?_))))
   rintro _ _ ⟨v2,rfl,rfl⟩
   exact Z1 (az (Z0 5 (Zm (Zi none (k:Int) 6 (TA Zv)) (Z0 1 (Zt [] (Z11 x2) (ZT 0 [(55,Z4 (VA (Xj Q) x2.dst))] (Zt [] (MI (VA (Xj Q) x2.dst) (QL x2) (hz:=(by first|omega|(have h1:=MX x2;have h2:=BR (Xj Q) x2.dst;have h3:=BG Q;omega)))) (Zm (XD g1 c.length c.length k 1 (k:Int)) (B0 1 g1 c.length c.length 1 (k*1) [Z4 (VU (VA (Xj Q) x2.dst) (QL x2))] (Zc (W2 (Uk (X8 c n d)))) (Zc (W2 (Uk (X8 c n (d+1))))) (by rw [OI,M3,T3];simp only [Yp,YZ];omega) (Ri om Zv (by first|exact Re hqe hri2.2.1 hri2.2.2 ZC|exact Rf hqe hri2.2.2 ZC)) (ie (az (Z0 1 (ia (((k:Int)-1)) (((k:Int))-(1)) (Z1 (ZH ⟨((k:Int)-1),d+1,ob,ob,rfl,rfl,rfl⟩ (wk [0] fl))))))))))))))))
  exact ak (az (Z0 5 (Zm (Zi none (k:Int) 6 (TA Zv)) (Z0 1 (Zt [] (Z11 x2) (Zt [] (MI (Xj Q) (QL x2) (hz:=(by first|omega|(have h1:=MX x2;have h2:=BR (Xj Q) x2.dst;have h3:=BG Q;omega)))) (Zm (XD g1 c.length c.length k 1 (k:Int)) (B0 0 g1 c.length c.length 1 (k*1) [Z4 (VU (Xj Q) (QL x2))] (Zc (W2 (Uk (X8 c n d)))) (Zc (W2 (Uk (X8 c n (d+1))))) (by rw [OI,M3,T3];simp only [Yp,YZ];omega) (Ri om Zv (by first|exact Re hqe hri2.2.1 hri2.2.2 ZC|exact Rf hqe hri2.2.2 ZC)) (ie (az (Z0 1 (ia (((k:Int)-1)) (((k:Int))-(1)) (Z1 (ZH ⟨((k:Int)-1),d+1,ob,ob,rfl,rfl,rfl⟩ (wk [0] fl)))))))))))))))
 exact ax 0 (ar (Zl (r1 [0] ⟨g1,rfl,rfl⟩ (eq:=(rr (ls:=Zc (W2 (Uk (X8 c n d)))) (by rw [show c.length-a.toNat=d by omega]) rz)))))
theorem E5 (im:YM) (f:Int) (a:Int) (lz:Nat) (hz:IZ im lz:=by exact ob) (hlz:lz<=100:=by exact ob):Zp 21 [VE im,.i f,.i a] [] (Yu (Z4 (Yq im f a))):=by
 have hil:=hz.len
 refine ZG 44 Tryz.func21 (ar (iA (VJ im) fun b1=>Z1 (Yt 1 [0] (Zt [] (Zgj im lz (hz:=hz)) (YV 12 [1,2,3] [(18,.b ((!(X4 im))||(!(decide (0<=f/\f<=((im.procs.length:Int)-1))))))] (fun gz=>gz) ?_ (fun hj1=>?_))))))
 ·refine Z0 1 (ib (b:=((!(X4 im))||(!(decide (0<=f/\f<=((im.procs.length:Int)-1)))))) 19 (fun Zd=>?_) (fun Zd=>?_))
  ·have Y7:(¬((X4 im)=true))∨(¬(0<=f/\f<=((im.procs.length:Int)-1))):=((Zz (Y1 Iff.rfl) (Y1 dq))).1 Zd
   exact Z1 (Vo (ar (Zl (ZJ (nl) (Ze.sl _ (by rw [GY (fun z=>by rcases Y7 with q|q;exact q z.1;exact q ⟨z.2.1,by omega⟩)];rfl))))))
  have Ym:¬((¬((X4 im)=true))∨(¬(0<=f/\f<=((im.procs.length:Int)-1)))):=Y2 (Zz (Y1 Iff.rfl) (Y1 dq)) Zd
  refine Zy 4 [0] ?_
  obtain ⟨x1,Z3⟩:=Zu im.procs f.toNat (by have h:=fun q=>Ym (.inr q);omega)
  have hpz:=(hz.procs _ (Y3 Z3)).len
  refine Zm (Zi none f 5 (TM Z3)) (Z0 2 (iw (UG x1.code) (ia (((x1.code.length:Int)-1)) (((x1.code.length:Int))-(1)) (Zt [] (Vb a 0 ((x1.code.length:Int)-1)) (Yy (!(decide (0<=a/\a<=((x1.code.length:Int)-1)))) (p:=¬(0<=a/\a<=((x1.code.length:Int)-1))) (Y1 dq) (fun Za=>?_) (fun Za=>?_))))))
  ·exact ar (Zl (ZJ (nl) (Ze.sl _ (by rw [GZ Z3 (fun z=>Za ⟨z.1,by omega⟩)];rfl))))
  have hV:X4 im=true/\0<=f/\f<im.procs.length:=⟨As fun z=>Ym (.inl z),by omega,by omega⟩
  have hpm:=Y3 Z3
  have hrg:=Ps hV.1 hz hlz hpm
  have ha2:0<=a/\a<x1.code.length:=by omega
  have Wi:=BL (c:=x1.code) (n:=x1.regs.toNat) (m:=x1.code.length-a.toNat) (j:=a.toNat) om om
  have hil2:=BG (W7 (X8 x1.code x1.regs.toNat (x1.code.length-a.toNat)) a.toNat)
  have hn2:=hrg.n2
  refine ak (Zq 3 [0] (Zm (Zi none f 5 (TM Z3)) (Z0 3 (ic [] (Zfu x1.code a x1.regs.toNat (hr:=hrg) (ha:=ha2)) ?_))))
  rintro _ _ ⟨g1,rfl,rfl⟩
  refine Z0 1 (Zm (XD g1 x1.code.length x1.code.length a.toNat 1 a) (Vz (WE 0 g1 x1.code.length x1.code.length 1 (a.toNat * 1) (Zc (W2 (Uk (X8 x1.code x1.regs.toNat (x1.code.length-a.toNat))))) [Z4 (Xj (W7 (X8 x1.code x1.regs.toNat (x1.code.length-a.toNat)) a.toNat))] 28 (Z4 (Xj (W7 (X8 x1.code x1.regs.toNat (x1.code.length-a.toNat)) a.toNat))) (Rh (by rw [T3];omega))) (ic [] (WQ (Xj (W7 (X8 x1.code x1.regs.toNat (x1.code.length-a.toNat)) a.toNat))) ?_)))
  rintro _ _ ⟨v1,rfl,rfl⟩
  exact Zl (ZJ (ZP (Xj (W7 (X8 x1.code x1.regs.toNat (x1.code.length-a.toNat)) a.toNat)) v1) (Ze.sl _ (Yj Z7 (by rw [BK hV Z3 ha2];rfl))))
 refine Z0 2 (ib (b:=(!(X4 im))) 10 (fun ZD=>?_) (fun ZD=>?_))
 ·have YL:¬((X4 im)=true):=((Y1 Iff.rfl)).1 ZD
  exact Z0 8 (ZX (wk [0] (Zo true ZD fl)) hj1)
 have X3:¬(¬((X4 im)=true)):=Y2 (Y1 Iff.rfl) ZD
 exact Zy 3 [0] (iw (QW im.procs) (ia (((im.procs.length:Int)-1)) (((im.procs.length:Int))-(1)) (Zt [] (Vb f 0 ((im.procs.length:Int)-1)) (Z0 2 (ZX (wk [0] (Zo (!(decide (0<=f/\f<=((im.procs.length:Int)-1)))) ZD fl)) hj1)))))
theorem Zad (R:List Bool) (hl:R.length<=200000000:=by exact ob):Zp 84 [JG R] [] (Yu (Z4 (Xj R))):=by
 refine ZG 20 Tryz.func84 (Y8 (Y8 (YP 1 (iw (O4 R) (Z1 (ab 0 (I4 1 (Y5 (fun fz gz m F h=>∃(k:Nat) (acc:LI) (v:Value),(k<=R.length)/\(acc.length<=k)/\(acc++Wj (R.drop k) k=Xj R)/\F=sF [6,7] fz [(3,ZP acc v),(8,.i k)]/\h=[.tail v 1]/\m=R.length-k) _ _ _ ⟨0,[],(.slice none 0 0),ob,ob,rfl,rfl,rfl,rfl⟩ (wk [0] (fc (x:=nl) (Ze.slh _ (by first|rfl|(subst_vars;rfl))) (Yg fl))) ?_))))))))
 rintro m F h ⟨k,acc,v,Yi,Zk,ZA,rfl,rfl,rfl⟩
 refine Y8 (aq (Vh ((k:Int)<(R.length:Int)) (fun Za=>?_) (fun Za=>?_)))
 ·refine ak (aq (ab 1 (Ye 1 ?_)))
  obtain ⟨x1,Z3⟩:=Zu R k om
  refine Zm (Zi none (k:Int) 1 (O3 Z3)) (Z1 (ar (Yy x1 Iff.rfl (fun Zh=>?_) (fun Zh=>?_))))
  ·exact az (Z0 2 (iL (Z7 [(k:Int)]) 1 1 fun v1=>ZT 0 [(16,Z4 [(k:Int)])] (ip 1 (Z7 (acc++[(k:Int)])) (Z7 acc) (Z7 [(k:Int)]) v none 1 (YH _) (YH _) (Wb _) (by simp<;>omega) (by simp [Wa,Z7]) fun v2=>Z1 (az (ZE k (Z1 (ZH ⟨k+1,(acc++[(k:Int)]),v2,ob,(by (try simp only [Yr,Yp,YZ])<;>omega),(by have h:=Pp Z3 ZA;rwa [Zb Zh] at h),rfl,rfl,rfl⟩ (wk [0] (fr (ZL k fl))))))))))
  exact ak (az (ZE k (Z1 (ZH ⟨k+1,acc,v,ob,(by (try simp only [Yr,Yp,YZ])<;>omega),(by have h:=Pp Z3 ZA;rwa [Z5 Zh] at h),rfl,rfl,rfl⟩ (wk [0] (fr (ZL k fl)))))))
 exact ax 0 (ar (Zl (ZJ (ZP acc v) (Ze.sl _ (Yj Z7 (Z9y om ZA))))))
theorem Zaf (im:YM) (f:Int) (a:Int) (p:ZZ) (hf:0<=f/\f<im.procs.length:=by exact ob) (hp:im.procs[f.toNat]? = some p:=by exact ob) (hr:HY p.regs.toNat p.code:=by exact ob) (hg:1<=p.regs:=by exact ob) (ha:0<=a/\a<p.code.length:=by exact ob):Zp 46 [VE im,.i f,.i a] [] (Yu (Z4 (Xj (Ah p.code p.regs.toNat a.toNat)))):=by
 refine ZG 119 Tryz.func46 (ar (iA (VJ im) fun b1=>Z1 (Zq 3 [0] ?_)))
 obtain ⟨x1,Z3⟩:=Zu im.procs f.toNat om
 obtain rfl:x1=p:=Ax (Z3.symm.trans hp)
 have hcl:=hr.len
 have hn2:=hr.n2
 refine Zm (Zi none f 5 (TM Z3)) (Z0 1 (iA [nl,nl,.i 0,.i 0,nl] fun b2=>ZB 0 b2 (T1 x1) (ie (Zq 2 [0] (iw (UG x1.code) (Pl x1.code.length [nl] 1 fun g1=>?_))))))
 refine Xm (Z1k 0 (.slice (some ⟨g1,0,none⟩) x1.code.length x1.code.length) 1 ((List.replicate x1.code.length [nl]).flatten) (Zc (UY (X8 x1.code x1.regs.toNat 0))) (by rw [X8];exact OH _)) (Z1 (Yt 2 [1] (iw (UG x1.code) (ia (((x1.code.length:Int)-1)) (((x1.code.length:Int))-(1)) (Z1 (ab 0 (Y5 (fun fz gz m F h=>∃(z:Int) (d:Nat),((d:Int)+z+1=x1.code.length)/\(a<=z+1)/\F=sF [2,7,8] fz [(9,.i z)]/\h=[Zj gz 1,.row (.slice (some ⟨g1,0,none⟩) x1.code.length x1.code.length) 1 (Zc (UY (X8 x1.code x1.regs.toNat d)))]/\m=x1.code.length-d) _ _ _ ⟨((x1.code.length:Int)-1),0,ob,ob,rfl,rfl,rfl⟩ (wk [1,0] fl) ?_)))))))
 rintro m F h ⟨z,d,Yi,Zk,rfl,rfl,rfl⟩
 refine Xe (Y0 (z>=a) (fun Za=>?_) (fun Za=>?_))
 ·refine ak (aq (ab 1 (ar ?_)))
  obtain ⟨k,rfl⟩:∃k:Nat,z=(k:Int):=⟨z.toNat,by omega⟩
  have hTl:=T3 x1.code x1.regs.toNat d
  refine Zy 3 [0] ?_
  obtain ⟨x2,Zv⟩:=Zu x1.code k om
  have hnl:=Zco k x2
  have hli:=hr.l x2 (Y3 Zv)
  have hri:=hr.d k x2 Zv
  refine Zm (Zi none (k:Int) 6 (TA Zv)) (Z0 1 (iA [.i 0,.i 0,.i 0,.i 0,nl,nl] fun b3=>ZB 0 b3 (V9 x2) (ie (Zq 4 [1] (Z9k x1.regs x1.regs.toNat [AV.b false] 1 om fun g2=>?_)))))
  refine Zm (XD g1 x1.code.length x1.code.length k 1 (k:Int)) (B0 3 g1 x1.code.length x1.code.length 1 (k*1) [.ms g2 0 x1.regs.toNat x1.regs.toNat] (Zc (UY (X8 x1.code x1.regs.toNat d))) (Qz (X8 x1.code x1.regs.toNat d) k (.slice (some ⟨g2,0,none⟩) x1.regs.toNat x1.regs.toNat)) (by rw [Gh,T3];simp only [Yp,YZ];omega) Z3p (ie (Yt 2 [2] (Zt [] (Zag x2 k (hk:=om)) (io (.i (((Xk k x2).length:Nat):Int)) (.i (((Z7 (Xk k x2)).length:Nat):Int)) (li (by rw [Yb])) (Z1 (ab 2 (Y5 (fun fz gz m F h=>∃(j:Nat) (Q:List Bool),(j<=(Xk k x2).length)/\(Q.length=x1.regs.toNat)/\(Um (X8 x1.code x1.regs.toNat d) Q ((Xk k x2).drop j)=Um (X8 x1.code x1.regs.toNat d) (List.replicate x1.regs.toNat false) (Xk k x2))/\F=sF [2,7,8,9,10,48,49] fz [(50,.i j)]/\h=[Zj gz 2,Zj gz 3,Zj gz 0,.row (.slice (some ⟨g2,0,none⟩) x1.regs.toNat x1.regs.toNat) 1 (Zc (WY Q))]/\m=(Xk k x2).length-j) _ _ _ ⟨0,(List.replicate x1.regs.toNat false),ob,(List.length_replicate ..),rfl,rfl,rfl,rfl⟩ (wk [2,2,0,0] (Yg fl) (e:=(rc (rc (rc (rr (ls:=(List.replicate x1.regs.toNat [AV.b false]).flatten) (Z74 _) rz)))))) ?_))))))))
  rintro m F h ⟨j,Q,Ui,W4,XV,rfl,rfl,rfl⟩
  refine Y8 (aq (Vh ((j:Int)<(((Xk k x2).length:Nat):Int)) (fun Zh=>?_) (fun Zh=>?_)))
  ·refine ak (aq (ab 3 (ar ?_)))
   obtain ⟨x3,YU⟩:=Zu (Xk k x2) j om
   have hnx:=hr.nb k x2 Zv _ (Y3 YU)
   have Wi:=BL (c:=x1.code) (n:=x1.regs.toNat) (m:=d) (j:=x3.toNat) om om
   refine Zm (Zi none (j:Int) 1 (Y6 YU)) (Z1 (Ye 2 (Zm (XD g1 x1.code.length x1.code.length x3.toNat 1 x3) (Vz (WE 2 g1 x1.code.length x1.code.length 1 (x3.toNat * 1) (Qz (X8 x1.code x1.regs.toNat d) k (.slice (some ⟨g2,0,none⟩) x1.regs.toNat x1.regs.toNat)) [JG (W7 (X8 x1.code x1.regs.toNat d) x3.toNat)] 133 (JG (W7 (X8 x1.code x1.regs.toNat d) x3.toNat)) (Z3o (by rw [T3];omega) (by rw [T3];omega) om)) (io (.i (((W7 (X8 x1.code x1.regs.toNat d) x3.toNat).length:Nat):Int)) (.i (((WY (W7 (X8 x1.code x1.regs.toNat d) x3.toNat)).length:Nat):Int)) (li (by rw [O4])) (Z1 (ab 4 (Y5 (fun fz gz m F h=>∃(i:Nat),(i<=(W7 (X8 x1.code x1.regs.toNat d) x3.toNat).length)/\F=sF [2,7,8,9,10,48,49,50,57,58] fz [(59,.i i)]/\h=[Zj gz 0,Zj gz 1,Zj gz 2,.row (.slice (some ⟨g2,0,none⟩) x1.regs.toNat x1.regs.toNat) 1 (Zc (WY (Wt Q (Xj ((W7 (X8 x1.code x1.regs.toNat d) x3.toNat).take i)))))]/\m=(W7 (X8 x1.code x1.regs.toNat d) x3.toNat).length-i) _ _ _ ⟨0,ob,rfl,rfl,rfl⟩ (Zx 4 (Yg fl) (e:=(rc (rc (rc (rr (ls:=Zc (WY Q)) (by rw [List.take_zero];rfl) rz)))))) ?_))))))))
   rintro m F h ⟨i,FT,rfl,rfl,rfl⟩
   refine Y8 (aq (Vh ((i:Int)<(((W7 (X8 x1.code x1.regs.toNat d) x3.toNat).length:Nat):Int)) (fun ZC=>?_) (fun ZC=>?_)))
   ·obtain ⟨qb,hqb⟩:=Zu (Wt Q (Xj ((W7 (X8 x1.code x1.regs.toNat d) x3.toNat).take i))) i (by rw [QE];omega)
    refine ak (aq (ab 5 (Ye 1 ?_)))
    obtain ⟨x4,Ue⟩:=Zu (W7 (X8 x1.code x1.regs.toNat d) x3.toNat) i om
    refine Zm (Zi none (i:Int) 1 (O3 Ue)) (Z1 (aE 17 (Zs 15 17 [0,1] (dx 2 (XD g1 x1.code.length x1.code.length k 1 (k:Int)) (Ua 3 (WE 2 g1 x1.code.length x1.code.length 1 (k*1) (Qz (X8 x1.code x1.regs.toNat d) k (.slice (some ⟨g2,0,none⟩) x1.regs.toNat x1.regs.toNat)) [.ms g2 0 x1.regs.toNat x1.regs.toNat] 133 (.ms g2 0 x1.regs.toNat x1.regs.toNat) (FJ (by rw [T3];omega))) (Zs 10 13 [4,5,6] (dx 7 (XD g1 x1.code.length x1.code.length k 1 (k:Int)) (Ua 8 (WE 2 g1 x1.code.length x1.code.length 1 (k*1) (Qz (X8 x1.code x1.regs.toNat d) k (.slice (some ⟨g2,0,none⟩) x1.regs.toNat x1.regs.toNat)) [.ms g2 0 x1.regs.toNat x1.regs.toNat] 133 (.ms g2 0 x1.regs.toNat x1.regs.toNat) (FJ (by rw [T3];omega))) (Zs 7 8 [9] (dx 10 (XD g2 x1.regs.toNat x1.regs.toNat i 1 (i:Int)) (Ua 11 (WE 3 g2 x1.regs.toNat x1.regs.toNat 1 (i*1) (Zc (WY (Wt Q (Xj ((W7 (X8 x1.code x1.regs.toNat d) x3.toNat).take i))))) [.b qb] 4 (.b qb) (Z75 hqb)) (Zs 4 5 [12] (db (b:=qb) 76 (fun Zd=>?_) (fun Zd=>?_))))))))))))))
    ·have Y7:qb=true:=(Iff.rfl).1 Zd
     exact Zs 2 4 [13,14] (dx 15 (XD g2 x1.regs.toNat x1.regs.toNat i 1 (i:Int)) (Z9 16 (Ko 16 3 [] [] g2 x1.regs.toNat x1.regs.toNat 1 (i*1) [.b true] (Zc (WY (Wt Q (Xj ((W7 (X8 x1.code x1.regs.toNat d) x3.toNat).take i))))) (Zc (WY (Wt Q (Xj ((W7 (X8 x1.code x1.regs.toNat d) x3.toNat).take (i+1)))))) (by rw [Gi,QE];simp only [Yp,YZ];omega) (by rw [<-Rp Ue hqb];first|(rw [Y7,Bool.true_or];exact Dy (by rw [QE];omega) true)|(rw [TU.2 Ym,Bool.false_or];exact Dy (by rw [QE];omega) x4)) (de (az (ZE i (Z1 (ZH ⟨i+1,ob,rfl,rfl,rfl⟩ (wk [1,1,1,0] (ZL i fl))))))))))
    have Ym:¬(qb=true):=Y2 Iff.rfl Zd
    exact Zs 2 4 [13,14] (dx 15 (XD g2 x1.regs.toNat x1.regs.toNat i 1 (i:Int)) (Z9 16 (Ko 16 3 [] [] g2 x1.regs.toNat x1.regs.toNat 1 (i*1) [.b x4] (Zc (WY (Wt Q (Xj ((W7 (X8 x1.code x1.regs.toNat d) x3.toNat).take i))))) (Zc (WY (Wt Q (Xj ((W7 (X8 x1.code x1.regs.toNat d) x3.toNat).take (i+1)))))) (by rw [Gi,QE];simp only [Yp,YZ];omega) (by rw [<-Rp Ue hqb];first|(rw [Y7,Bool.true_or];exact Dy (by rw [QE];omega) true)|(rw [TU.2 Ym,Bool.false_or];exact Dy (by rw [QE];omega) x4)) (de (az (ZE i (Z1 (ZH ⟨i+1,ob,rfl,rfl,rfl⟩ (wk [1,1,1,0] (ZL i fl))))))))))
   exact ax 4 (az (ZE j (Z1 (ZH ⟨j+1,(Wt Q (Xj (W7 (X8 x1.code x1.regs.toNat d) x3.toNat))),ob,(by rw [QE];exact W4),(RU YU XV),rfl,rfl,rfl⟩ (Zx 4 (ZL j fl) (e:=(rc (rc (rc (rr (ls:=Zc (WY (Wt Q (Xj ((W7 (X8 x1.code x1.regs.toNat d) x3.toNat).take i))))) (by rw [WR om]) rz))))))))))
  have hQ:=RT om XV
  refine ax 2 (Yt 2 [0] (Zt [] (Px x2.op) (ie (Xv (fun fz gz F h=>F=sF [2,7,8,9,10] fz []/\h=[Zj gz 0,Zj gz 1,Zj gz 2,.row (.slice (some ⟨g2,0,none⟩) x1.regs.toNat x1.regs.toNat) 1 (Zc (WY (K4 Q x2)))]) ?_ ?_))))
  ·refine Vh (((0<=x2.op/\x2.op<=11)∨x2.op=18)∨x2.op=19) (fun Yc=>?_) (fun Yc=>?_)
   ·exact aE 8 (Zs 6 8 [0,1] (dx 2 (XD g1 x1.code.length x1.code.length k 1 (k:Int)) (Ua 3 (WE 2 g1 x1.code.length x1.code.length 1 (k*1) (Qz (X8 x1.code x1.regs.toNat d) k (.slice (some ⟨g2,0,none⟩) x1.regs.toNat x1.regs.toNat)) [.ms g2 0 x1.regs.toNat x1.regs.toNat] 133 (.ms g2 0 x1.regs.toNat x1.regs.toNat) (FJ (by rw [T3];omega))) (ZY 2 4 [4,5] [0] (dx 6 (XD g2 x1.regs.toNat x1.regs.toNat x2.dst.toNat 1 x2.dst) (Z9 7 (Ko 7 3 [] [] g2 x1.regs.toNat x1.regs.toNat 1 (x2.dst.toNat * 1) [.b false] (Zc (WY Q)) (Zc (WY (Q.set x2.dst.toNat false))) (by rw [Gi];simp only [Yp,YZ];omega) (Dy om false) (de (ZI ⟨rfl,rfl⟩ (wk [1,1,1,0] fl (e:=(rc (rc (rc (rr (ls:=(Zc (WY (Q.set x2.dst.toNat false)))) (by rw [K4,Zb ((Mx hri.1).2 Yc)]) rz)))))))))))))))
   exact ak (ZI ⟨rfl,rfl⟩ (Zx 4 fl (e:=(rc (rc (rc (rr (ls:=Zc (WY Q)) (by rw [K4,Z5 (fun z=>Yc ((Mx hri.1).1 z))]) rz)))))))
  rintro F h ⟨rfl,rfl⟩
  refine ar (XC [2,7,8,9,10] [(99,.b ((x2.op != 14)&&(x2.op != 15)))] (fun gz=>gz) ?_ ?_)
  ·refine Zy 4 [0] (ib (b:=(x2.op != 14)) 95 (fun ZD=>?_) (fun ZD=>?_))
   ·have YL:x2.op≠14:=(Ys).1 ZD
    exact WJ [0] (Zx 4 (Zo (x2.op != 15) ZD fl))
   have X3:¬(x2.op≠14):=Y2 Ys ZD
   exact Z1 (Zx 4 (Zo false ZD fl))
  refine ac ((x2.op != 14)&&(x2.op != 15)) (p:=(x2.op≠14)/\(x2.op≠15)) (YG Ys Ys) (fun YB=>?_) (fun YB=>?_)
  ·refine Zq 2 [0] (iw (Yb x2.args) (Z1 (ab 6 (Y5 (fun fz gz m F h=>∃(i2:Nat) (W:List Bool),(i2<=x2.args.length)/\(W.length=x1.regs.toNat)/\(Wt W (x2.args.drop i2)=Wt (K4 Q x2) x2.args)/\F=sF [2,7,8,9,101,102] fz [(103,.i i2)]/\h=[Zj gz 1,Zj gz 2,.row (.slice (some ⟨g2,0,none⟩) x1.regs.toNat x1.regs.toNat) 1 (Zc (WY W))]/\m=x2.args.length-i2) _ _ _ ⟨0,(K4 Q x2),ob,(by rw [M2];exact W4),rfl,rfl,rfl,rfl⟩ (wk [1,1,1] (Yg fl)) ?_))))
   rintro m F h ⟨i2,W,Zih,Z3r,NJ,rfl,rfl,rfl⟩
   refine Y8 (aq (Vh ((i2:Int)<(x2.args.length:Int)) (fun YY=>?_) (fun YY=>?_)))
   ·refine ak (aq (ab 7 (ar ?_)))
    obtain ⟨x5,Uy⟩:=Zu x2.args i2 om
    have hra:=hri.2.2 _ (Y3 Uy)
    exact Zm (Zi none (i2:Int) 1 (Y6 Uy)) (Z1 (az (Z0 2 (Zm (XD g1 x1.code.length x1.code.length k 1 (k:Int)) (Vz (WE 1 g1 x1.code.length x1.code.length 1 (k*1) (Qz (X8 x1.code x1.regs.toNat d) k (.slice (some ⟨g2,0,none⟩) x1.regs.toNat x1.regs.toNat)) [.ms g2 0 x1.regs.toNat x1.regs.toNat] 133 (.ms g2 0 x1.regs.toNat x1.regs.toNat) (FJ (by rw [T3];omega))) (Z0 1 (Zm (XD g2 x1.regs.toNat x1.regs.toNat x5.toNat 1 x5) (B0 2 g2 x1.regs.toNat x1.regs.toNat 1 (x5.toNat * 1) [.b true] (Zc (WY W)) (Zc (WY (W.set x5.toNat true))) (by rw [Gi];simp only [Yp,YZ];omega) (Dy om true) (ie (az (ZE i2 (Z1 (ZH ⟨i2+1,(W.set x5.toNat true),ob,(by rw [V6];exact Z3r),(Zca Uy NJ),rfl,rfl,rfl⟩ (wk [1,1,0] (ZL i2 fl)))))))))))))))
   exact ax 6 (az (Xm (tBB 2 1 (X8 x1.code x1.regs.toNat d) k W (.slice (some ⟨g2,0,none⟩) x1.regs.toNat x1.regs.toNat) (.slice (some ⟨g1,0,none⟩) x1.code.length x1.code.length) (by rw [T3];omega)) (Z0 1 (ia (((k:Int)-1)) (((k:Int))-(1)) (Z1 (ZH ⟨((k:Int)-1),d+1,ob,ob,rfl,rfl,rfl⟩ (wk [1,0] fl (e:=(rc (rr (ls:=Zc (UY ((X8 x1.code x1.regs.toNat d).set k W))) (by rw [ET om Zv,TS,<-hQ,B6,Zb YB,<-Zc9 om NJ]) rz))))))))))
  exact ak (az (Xm (tBB 3 2 (X8 x1.code x1.regs.toNat d) k (K4 Q x2) (.slice (some ⟨g2,0,none⟩) x1.regs.toNat x1.regs.toNat) (.slice (some ⟨g1,0,none⟩) x1.code.length x1.code.length) (by rw [T3];omega)) (Z0 1 (ia (((k:Int)-1)) (((k:Int))-(1)) (Z1 (ZH ⟨((k:Int)-1),d+1,ob,ob,rfl,rfl,rfl⟩ (wk [2,0] fl (e:=(rc (rr (ls:=Zc (UY ((X8 x1.code x1.regs.toNat d).set k (K4 Q x2)))) (by rw [ET om Zv,TS,<-hQ,B6,Z5 YB]) rz))))))))))
 have Wi:=BL (c:=x1.code) (n:=x1.regs.toNat) (m:=d) (j:=a.toNat) om om
 exact ax 0 (Ye 2 (Zm (XD g1 x1.code.length x1.code.length a.toNat 1 a) (Vz (WE 1 g1 x1.code.length x1.code.length 1 (a.toNat * 1) (Zc (UY (X8 x1.code x1.regs.toNat d))) [JG (W7 (X8 x1.code x1.regs.toNat d) a.toNat)] 133 (JG (W7 (X8 x1.code x1.regs.toNat d) a.toNat)) (Z73 (by rw [T3];omega))) (Zt [] (Zad (W7 (X8 x1.code x1.regs.toNat d) a.toNat) (hl:=om)) (Zl (ZJ (Z4 (Xj (W7 (X8 x1.code x1.regs.toNat d) a.toNat))) (Ze.sl _ (Yj Z7 (by rw [Ah,show x1.code.length-a.toNat=d by omega])))))))))
theorem Lv (im:YM) (f:Int) (a:Int) (lz:Nat) (hz:IZ im lz:=by exact ob) (hlz:lz<=100:=by exact ob):Zp 20 [VE im,.i f,.i a] [] (Yu (Z4 (Yq im f a))):=by
 have hil:=hz.len
 refine ZG 40 Tryz.func20 (ar (iA (VJ im) fun b1=>Z1 (Yt 1 [0] (Zt [] (Lw im lz (hz:=hz)) (YV 7 [1,2,3] [(13,.b ((!(X4 im))||(decide (f<0))))] (fun gz=>gz) ?_ (fun hj1=>?_))))))
 ·refine YV 14 [1,2,3] [(20,.b (((!(X4 im))||(decide (f<0)))||(decide (f>=(im.procs.length:Int)))))] (fun gz=>gz) ?_ (fun hj2=>?_)
  ·refine YV 18 [1,2,3] [(24,.b ((((!(X4 im))||(decide (f<0)))||(decide (f>=(im.procs.length:Int))))||(decide (a<0))))] (fun gz=>gz) ?_ (fun hj3=>?_)
   ·refine Z0 1 (ib (b:=((((!(X4 im))||(decide (f<0)))||(decide (f>=(im.procs.length:Int))))||(decide (a<0)))) 25 (fun Zd=>?_) (fun Zd=>?_))
    ·have Y7:(((¬((X4 im)=true))∨(f<0))∨(f>=(im.procs.length:Int)))∨(a<0):=((Zz (Zz (Zz (Y1 Iff.rfl) dq) dq) dq)).1 Zd
     exact Z1 (Vo (ar (Zl (ZJ (nl) (Ze.sl _ (by rcases Y7 with q|q;(rw [GY (fun z=>by rcases q with (q|q)|q;exact q z.1;all_goals omega)];rfl);(rw [Zbu q];rfl)))))))
    have Ym:¬((((¬((X4 im)=true))∨(f<0))∨(f>=(im.procs.length:Int)))∨(a<0)):=Y2 (Zz (Zz (Zz (Y1 Iff.rfl) dq) dq) dq) Zd
    refine Zy 4 [0] ?_
    obtain ⟨x1,Z3⟩:=Zu im.procs f.toNat (by have h:=fun q=>Ym (.inl (.inr q));have h2:=fun q=>Ym (.inl (.inl (.inr q)));omega)
    have hf2:0<=f/\f<im.procs.length:=(by have h:=fun q=>Ym (.inl (.inr q));have h2:=fun q=>Ym (.inl (.inl (.inr q)));omega)
    have hpz:=(hz.procs _ (Y3 Z3)).len
    refine Zm (Zi none f 5 (TM Z3)) (Z0 2 (iw (UG x1.code) (Y0 (a>=(x1.code.length:Int)) (fun Za=>?_) (fun Za=>?_))))
    ·exact ar (Zl (ZJ (nl) (Ze.sl _ (by rw [GZ Z3 (fun z=>by omega)];rfl))))
    have hV:X4 im=true/\0<=f/\f<im.procs.length:=⟨As fun z=>Ym (.inl (.inl (.inl z))),hf2⟩
    have ha0:¬a<0:=fun q=>Ym (.inr q)
    have hpm:=Y3 Z3
    have hrg:=Ps hV.1 hz hlz hpm
    have hre:=(DH hV.1 hpm).1
    have ha2:0<=a/\a<x1.code.length:=by omega
    exact ak (Zq 3 [0] (Zt [] (Zaf im f a x1 (hf:=hf2) (hp:=Z3) (hr:=hrg) (hg:=hre.1) (ha:=ha2)) (Zl (ZJ (Z4 (Xj (Ah x1.code x1.regs.toNat a.toNat))) (Ze.sl _ (Yj Z7 (by rw [BK hV Z3 ha2])))))))
   refine Z0 1 (ib (b:=(((!(X4 im))||(decide (f<0)))||(decide (f>=(im.procs.length:Int))))) 21 (fun ZD=>?_) (fun ZD=>?_))
   ·have YL:((¬((X4 im)=true))∨(f<0))∨(f>=(im.procs.length:Int)):=((Zz (Zz (Y1 Iff.rfl) dq) dq)).1 ZD
    exact Z0 3 (ZX (wk [0] (Zo true ZD fl)) hj3)
   have X3:¬(((¬((X4 im)=true))∨(f<0))∨(f>=(im.procs.length:Int))):=Y2 (Zz (Zz (Y1 Iff.rfl) dq) dq) ZD
   exact Z0 3 (ZX (wk [0] (Zo (decide (a<0)) ZD fl)) hj3)
  refine Z0 1 (ib (b:=((!(X4 im))||(decide (f<0)))) 14 (fun Yk=>?_) (fun Yk=>?_))
  ·have Xf:(¬((X4 im)=true))∨(f<0):=((Zz (Y1 Iff.rfl) dq)).1 Yk
   exact Z0 6 (ZX (wk [0] (Zo true Yk fl)) hj2)
  have XS:¬((¬((X4 im)=true))∨(f<0)):=Y2 (Zz (Y1 Iff.rfl) dq) Yk
  exact Zy 3 [0] (iw (QW im.procs) (Z0 2 (ZX (wk [0] (Zo (decide (f>=(im.procs.length:Int))) Yk fl)) hj2)))
 refine Z0 2 (ib (b:=(!(X4 im))) 10 (fun YT=>?_) (fun YT=>?_))
 ·have Wh:¬((X4 im)=true):=((Y1 Iff.rfl)).1 YT
  exact Z0 3 (ZX (wk [0] (Zo true YT fl)) hj1)
 have WZ:¬(¬((X4 im)=true)):=Y2 (Y1 Iff.rfl) YT
 exact Z0 3 (ZX (wk [0] (Zo (decide (f<0)) YT fl)) hj1)
theorem PV (xs:LI) (n:Int) (hl:xs.length<=1000000000:=by exact ob):Zp 24 [Z4 xs,.i n] [] (Yu (.b (decide (n∈xs)))):=by
 refine ZG 18 Tryz.func24 (Y8 (Y4 (ab 0 (Y5 (fun fz gz m F h=>∃(k:Nat),(k<=xs.length)/\(n∉xs.take k)/\F=sF [0,1] fz [(5,.i k)]/\h=gz/\m=xs.length-k) _ _ _ ⟨0,ob,(by simp),rfl,rfl,rfl⟩ (wk [] (Yg fl)) ?_))))
 rintro m F h ⟨k,Yi,Zk,rfl,rfl,rfl⟩
 refine YP 2 (iw (Yb xs) (Y0 ((k:Int)<(xs.length:Int)) (fun Za=>?_) (fun Za=>?_)))
 ·refine ak (aq (ab 1 (Ye 2 ?_)))
  obtain ⟨x1,Z3⟩:=Zu xs k om
  refine Zm (Zi none (k:Int) 1 (Y6 Z3)) (Yy (x1==n) Zg (fun Zh=>?_) (fun Zh=>?_))
  ·exact ar (Zl (ZJ (.b true) (lb (by rw [eq_comm,dq];have:=Zh;subst this;exact Y3 Z3))))
  exact ak (az (Z0 1 (ZE k (Z1 (ZH ⟨k+1,ob,(Zci Z3 Zk Zh),rfl,rfl,rfl⟩ (wk [] (ZL k fl)))))))
 exact ax 0 (ar (Zl (ZJ (.b false) (lb (by rw [eq_comm,decide_eq_false_iff_not];rwa [WR om] at Zk)))))
theorem Zba (xs:LI) (hxl:xs.length<=1000000000:=by exact ob) (hasc:∀(k:Nat) (x y:Int),xs[k]? = some x->xs[k+1]? = some y->x<y):Zp 22 [Z4 xs] [] (Yu (.b true)):=by
 refine ZG 20 Tryz.func22 (Y8 (Y4 (ab 0 (Y5 (fun fz gz m F h=>∃(k:Nat),(1<=k)/\F=sF [0] fz [(3,.i k)]/\h=gz/\m=xs.length-k) _ _ _ ⟨1,ob,rfl,rfl,rfl⟩ (wk [] (fc (x:=.i 1) li fl)) ?_))))
 rintro m F h ⟨k,Yi,rfl,rfl,rfl⟩
 refine YP 2 (iw (Yb xs) (Y0 ((k:Int)<(xs.length:Int)) (fun Za=>?_) (fun Za=>?_)))
 ·refine ak (aq (ab 1 (aD 10 (Zs 8 10 [0,1] ?_))))
  obtain ⟨x1,Z3⟩:=Zu xs k om
  refine dx 2 (Zi none (k:Int) 1 (Y6 Z3)) (Zs 4 7 [3,4,5] (da 6 (((k:Int)-1)) (((k:Int))-(1)) ?_))
  obtain ⟨x2,Zv⟩:=Zu xs (((k:Int)-1).toNat) om
  refine dx 7 (Zi none ((k:Int)-1) 1 (Y6 Zv)) (Zs 0 2 [8,9] (de (Vh (x1<=x2) (fun Zh=>?_) (fun Zh=>?_))))
  ·exact ar (Zl (ZJ (.b false) (lb (absurd (hasc (k-1) x2 x1 (by have h:=Zv;rwa [show ((k:Int)-1).toNat=k-1 by omega] at h) (by rw [show k-1+1=k by omega];exact Z3)) om))))
  exact ak (az (Z0 1 (ZE k (Z1 (ZH ⟨k+1,ob,rfl,rfl,rfl⟩ (wk [] (ZL k fl)))))))
 exact ax 0 (ar (Zl (Bf)))
theorem PW (xs:LI) (ys:LI) (hxl:xs.length<=1000000000:=by exact ob) (hyl:ys.length<=1000000000:=by exact ob) (hin:∀z∈xs,z∈ys):Zp 23 [Z4 xs,Z4 ys] [] (Yu (.b true)):=by
 refine ZG 19 Tryz.func23 (Y8 (Y4 (ab 0 (Y5 (fun fz gz m F h=>∃(k:Nat),(k<=xs.length)/\F=sF [0,1] fz [(5,.i k)]/\h=gz/\m=xs.length-k) _ _ _ ⟨0,ob,rfl,rfl,rfl⟩ (wk [] (Yg fl)) ?_))))
 rintro m F h ⟨k,Yi,rfl,rfl,rfl⟩
 refine YP 2 (iw (Yb xs) (Y0 ((k:Int)<(xs.length:Int)) (fun Za=>?_) (fun Za=>?_)))
 ·refine ak (aq (ab 1 (Ye 3 ?_)))
  obtain ⟨x1,Z3⟩:=Zu xs k om
  refine Zm (Zi none (k:Int) 1 (Y6 Z3)) (Z0 1 (Zt [] (PV ys x1) (Yy (!(decide (x1∈ys))) (p:=¬(x1∈ys)) (Y1 dq) (fun Zh=>?_) (fun Zh=>?_))))
  ·exact ar (Zl (ZJ (.b false) (lb (absurd (hin _ (Y3 Z3)) Zh))))
  exact ak (az (Z0 1 (ZE k (Z1 (ZH ⟨k+1,ob,rfl,rfl,rfl⟩ (wk [] (ZL k fl)))))))
 exact ax 0 (ar (Zl (Bf)))
theorem Zb8 (code:LI) (hcb:∀z∈code,0<=z/\z<=255):Zp 6 [Ul code] [] (Yu (.b true)):=by
 refine ZG 103 Tryz.func6 (Y8 (YP 1 (iw (Bw code) (Y0 ((code.length:Int)>1048576) (fun Za=>?_) (fun Za=>?_)))))
 ·exact ar (Zl (Bf))
 have hcl:code.length<=1048576:=by omega
 refine ak (Ye 1 (ic [] (OU code (hcl:=hcl) (hcb:=hcb)) ?_))
 rintro _ _ ⟨y1,fz1,az1,rfl,rfl,Y7⟩
 have hdz:=Y7.1
 have haz:=Y7.2
 have hdl:=hdz.len
 have hrl:=GX (im:=y1) fz1 az1
 have hrl2:=GX (im:=y1) fz1 (az1+1)
 refine Z0 4 (iA [nl,nl] fun b1=>ZB 0 b1 (VJ y1) (Z1 (Zq 3 [0] (Zt [] (Lv y1 fz1 az1 1 (hz:=hdz) (hlz:=om)) (Z1 (Yt 4 [0] (Zt [] (E5 y1 fz1 az1 1 (hz:=hdz) (hlz:=om)) (Zt [] (DL (Yq y1 fz1 az1) (Yq y1 fz1 az1)) (YV 12 [3,4,5,6] [(32,.b ((!(decide ((Yq y1 fz1 az1)=(Yq y1 fz1 az1))))||(!(X4 y1))))] (fun gz=>gz) ?_ (fun hj1=>?_))))))))))
 ·refine YV 16 [3,4,5,6] [(36,.b (((!(decide ((Yq y1 fz1 az1)=(Yq y1 fz1 az1))))||(!(X4 y1)))||(decide (fz1<0))))] (fun gz=>gz) ?_ (fun hj2=>?_)
  ·refine YV 23 [3,4,5,6] [(43,.b ((((!(decide ((Yq y1 fz1 az1)=(Yq y1 fz1 az1))))||(!(X4 y1)))||(decide (fz1<0)))||(decide (fz1>=(y1.procs.length:Int)))))] (fun gz=>gz) ?_ (fun hj3=>?_)
   ·refine YV 27 [3,4,5,6] [(47,.b (((((!(decide ((Yq y1 fz1 az1)=(Yq y1 fz1 az1))))||(!(X4 y1)))||(decide (fz1<0)))||(decide (fz1>=(y1.procs.length:Int))))||(decide (az1<0))))] (fun gz=>gz) ?_ (fun hj4=>?_)
    ·refine Z0 1 (ib (b:=(((((!(decide ((Yq y1 fz1 az1)=(Yq y1 fz1 az1))))||(!(X4 y1)))||(decide (fz1<0)))||(decide (fz1>=(y1.procs.length:Int))))||(decide (az1<0)))) 48 (fun Zd=>?_) (fun Zd=>?_))
     ·have Ym:((((¬((Yq y1 fz1 az1)=(Yq y1 fz1 az1)))∨(¬((X4 y1)=true)))∨(fz1<0))∨(fz1>=(y1.procs.length:Int)))∨(az1<0):=((Zz (Zz (Zz (Zz (Y1 dq) (Y1 Iff.rfl)) dq) dq) dq)).1 Zd
      exact Z1 (Vo (Zq 4 [0] (Zt [] (E5 y1 fz1 az1 1 (hz:=hdz) (hlz:=om)) (Zt [] (DL (Yq y1 fz1 az1) (Yq y1 fz1 az1)) (Zl (ZJ (.b (decide ((Yq y1 fz1 az1)=(Yq y1 fz1 az1)))) (lb (by first|rfl|(simp;done)))))))))
     have YL:¬(((((¬((Yq y1 fz1 az1)=(Yq y1 fz1 az1)))∨(¬((X4 y1)=true)))∨(fz1<0))∨(fz1>=(y1.procs.length:Int)))∨(az1<0)):=Y2 (Zz (Zz (Zz (Zz (Y1 dq) (Y1 Iff.rfl)) dq) dq) dq) Zd
     refine Zy 4 [0] ?_
     obtain ⟨x1,Z3⟩:=Zu y1.procs fz1.toNat (by have h:=fun q=>YL (.inl (.inr q));have h2:=fun q=>YL (.inl (.inl (.inr q)));omega)
     have hf2:0<=fz1/\fz1<y1.procs.length:=(by have h:=fun q=>YL (.inl (.inr q));have h2:=fun q=>YL (.inl (.inl (.inr q)));omega)
     have ha0:¬az1<0:=fun q=>YL (.inr q)
     have hV:X4 y1=true/\0<=fz1/\fz1<y1.procs.length:=⟨As fun z=>YL (.inl (.inl (.inl (.inr z)))),hf2⟩
     have hpm:=Y3 Z3
     have hpz:=(hdz.procs _ hpm).len
     have hlx:=fun (q:Instr) (w:q∈(x1).code)=>((hdz.procs _ hpm).code q w).l
     refine Zm (Zi none fz1 5 (TM Z3)) (Z0 2 (iw (UG x1.code) (Y0 (az1>=(x1.code.length:Int)) (fun Zh=>?_) (fun Zh=>?_))))
     ·exact Zq 4 [0] (Zt [] (E5 y1 fz1 az1 1 (hz:=hdz) (hlz:=om)) (Zt [] (DL (Yq y1 fz1 az1) (Yq y1 fz1 az1)) (Zl (ZJ (.b (decide ((Yq y1 fz1 az1)=(Yq y1 fz1 az1)))) (lb (by first|rfl|(simp;done)))))))
     have ha2:0<=az1/\az1<x1.code.length:=by omega
     refine ak (Zq 3 [0] (Zm (Zi none fz1 5 (TM Z3)) (Z0 3 ?_)))
     obtain ⟨x2,Zv⟩:=Zu x1.code az1.toNat om
     have hli:=hlx _ (Y3 Zv)
     refine Zm (Zi none az1 6 (TA Zv)) (Z0 1 (iA [.i 0,.i 0,.i 0,.i 0,nl,nl] fun b2=>ZB 0 b2 (V9 x2) (ie (YP 1 (Zt [] (Zba (Yq y1 fz1 az1) (hasc:=Zbs)) (YV 12 [6,7] [(77,.b false),(85,.b ((x2.op != 14)&&(x2.op != 15)))] (fun gz=>gz) ?_ (fun hj5=>?_)))))))
     ·refine YV 19 [6,7,77] [(92,.b false)] (fun gz=>gz) ?_ (fun hj6=>?_)
      ·refine Z1 (VF (ak (ar (YV 9 [] [(102,.b true)] (fun gz=>gz) ?_ (fun hj7=>?_)))))
       ·exact Zl (Bf)
       refine Zy 4 [0] (ib (b:=(x2.op != 23)) 97 (fun ZD=>?_) (fun ZD=>?_))
       ·have X3:x2.op≠23:=(Ys).1 ZD
        exact Z0 5 (ZX (wk [0,0] fl) hj7)
       have Xf:¬(x2.op≠23):=Y2 Ys ZD
       exact Zy 3 [0] (Zt [] (PW (Yq y1 fz1 az1) x2.args (hin:=(by first|exact Rb hV Z3 ha2 Zv (by assumption)|exact Rc hV Z3 ha2 Zv (UD.1 (by assumption))))) (Z0 1 (ZX (wk [0,0] fl) hj7)))
      refine Z0 1 (ib (b:=((x2.op != 14)&&(x2.op != 15))) 86 (fun Yk=>?_) (fun Yk=>?_))
      ·have XS:(x2.op≠14)/\(x2.op≠15):=((YG Ys Ys)).1 Yk
       exact Zy 3 [0] (Zt [] (PW x2.args (Yq y1 fz1 az1) (hin:=(by first|exact Rb hV Z3 ha2 Zv (by assumption)|exact Rc hV Z3 ha2 Zv (UD.1 (by assumption))))) (Z0 2 (ZX (wk [0,0] fl) hj6)))
      have Wh:¬((x2.op≠14)/\(x2.op≠15)):=Y2 (YG Ys Ys) Yk
      exact Z0 6 (ZX (wk [0,0] fl) hj6)
     refine Zy 6 [0] (ib (b:=(x2.op != 14)) 81 (fun YT=>?_) (fun YT=>?_))
     ·have WZ:x2.op≠14:=(Ys).1 YT
      exact Zy 4 [0] (ZX (wk [0,0] (fr (fc (x:=.b (x2.op != 15)) (lb (by rw [YT];rfl)) fl))) hj5)
     have Vs:¬(x2.op≠14):=Y2 Ys YT
     exact Z0 4 (ZX (wk [0,0] (fr (fc (x:=.b false) (lb (by rw [YT];rfl)) fl))) hj5)
    refine Z0 1 (ib (b:=((((!(decide ((Yq y1 fz1 az1)=(Yq y1 fz1 az1))))||(!(X4 y1)))||(decide (fz1<0)))||(decide (fz1>=(y1.procs.length:Int))))) 44 (fun XK=>?_) (fun XK=>?_))
    ·have UL:(((¬((Yq y1 fz1 az1)=(Yq y1 fz1 az1)))∨(¬((X4 y1)=true)))∨(fz1<0))∨(fz1>=(y1.procs.length:Int)):=((Zz (Zz (Zz (Y1 dq) (Y1 Iff.rfl)) dq) dq)).1 XK
     exact Z0 3 (ZX (wk [0] (fc (x:=.b true) (lb (by rw [XK];rfl)) fl)) hj4)
    have Tl:¬((((¬((Yq y1 fz1 az1)=(Yq y1 fz1 az1)))∨(¬((X4 y1)=true)))∨(fz1<0))∨(fz1>=(y1.procs.length:Int))):=Y2 (Zz (Zz (Zz (Y1 dq) (Y1 Iff.rfl)) dq) dq) XK
    exact Z0 3 (ZX (wk [0] (fc (x:=.b (decide (az1<0))) (lb (by rw [XK];rfl)) fl)) hj4)
   refine Z0 1 (ib (b:=(((!(decide ((Yq y1 fz1 az1)=(Yq y1 fz1 az1))))||(!(X4 y1)))||(decide (fz1<0)))) 37 (fun W0=>?_) (fun W0=>?_))
   ·have UM:((¬((Yq y1 fz1 az1)=(Yq y1 fz1 az1)))∨(¬((X4 y1)=true)))∨(fz1<0):=((Zz (Zz (Y1 dq) (Y1 Iff.rfl)) dq)).1 W0
    exact Z0 6 (ZX (wk [0] (fc (x:=.b true) (lb (by rw [W0];rfl)) fl)) hj3)
   have Qn:¬(((¬((Yq y1 fz1 az1)=(Yq y1 fz1 az1)))∨(¬((X4 y1)=true)))∨(fz1<0)):=Y2 (Zz (Zz (Y1 dq) (Y1 Iff.rfl)) dq) W0
   exact Zy 3 [0] (iw (QW y1.procs) (Z0 2 (ZX (wk [0] (fc (x:=.b (decide (fz1>=(y1.procs.length:Int)))) (lb (by rw [W0];rfl)) fl)) hj3)))
  refine Z0 1 (ib (b:=((!(decide ((Yq y1 fz1 az1)=(Yq y1 fz1 az1))))||(!(X4 y1)))) 33 (fun W5=>?_) (fun W5=>?_))
  ·have TQ:(¬((Yq y1 fz1 az1)=(Yq y1 fz1 az1)))∨(¬((X4 y1)=true)):=((Zz (Y1 dq) (Y1 Iff.rfl))).1 W5
   exact Z0 3 (ZX (wk [0] (fc (x:=.b true) (lb (by rw [W5];rfl)) fl)) hj2)
  have Kw:¬((¬((Yq y1 fz1 az1)=(Yq y1 fz1 az1)))∨(¬((X4 y1)=true))):=Y2 (Zz (Y1 dq) (Y1 Iff.rfl)) W5
  exact Z0 3 (ZX (wk [0] (fc (x:=.b (decide (fz1<0))) (lb (by rw [W5];rfl)) fl)) hj2)
 refine Z0 2 (ib (b:=(!(decide ((Yq y1 fz1 az1)=(Yq y1 fz1 az1))))) 28 (fun Wq=>?_) (fun Wq=>?_))
 ·have Kx:¬((Yq y1 fz1 az1)=(Yq y1 fz1 az1)):=((Y1 dq)).1 Wq
  exact Z0 4 (ZX (wk [0] (fc (x:=.b true) (lb (by rw [Wq];rfl)) fl)) hj1)
 have AZ:¬(¬((Yq y1 fz1 az1)=(Yq y1 fz1 az1))):=Y2 (Y1 dq) Wq
 exact Zy 1 [0] (Zt [] (Lw y1 1 (hz:=hdz) (hlz:=om)) (Z0 2 (ZX (wk [0] (fc (x:=.b (!(X4 y1))) (lb (by rw [Wq];rfl)) fl)) hj1)))
theorem Zb9 (code:LI) (hcb:∀z∈code,0<=z/\z<=255):Zp 7 [Ul code] [] (Yu (.b true)):=by
 refine ZG 140 Tryz.func7 (Y8 (YP 1 (iw (Bw code) (Y0 ((code.length:Int)>1048576) (fun Za=>?_) (fun Za=>?_)))))
 ·exact ar (Zl (Bf))
 have hcl:code.length<=1048576:=by omega
 refine ak (Ye 1 (ic [] (OU code (hcl:=hcl) (hcb:=hcb)) ?_))
 rintro _ _ ⟨y1,fz1,az1,rfl,rfl,Y7⟩
 have hdz:=Y7.1
 have haz:=Y7.2
 have hdl:=hdz.len
 have hrl:=GX (im:=y1) fz1 az1
 have hrl2:=GX (im:=y1) fz1 (az1+1)
 refine Z0 4 (iA [nl,nl] fun b1=>ZB 0 b1 (VJ y1) (Z1 (Zq 3 [0] (Zt [] (Lv y1 fz1 az1 1 (hz:=hdz) (hlz:=om)) (Z1 (Yt 4 [0] (Zt [] (E5 y1 fz1 az1 1 (hz:=hdz) (hlz:=om)) (Zt [] (DL (Yq y1 fz1 az1) (Yq y1 fz1 az1)) (YV 12 [3,4,5,6] [(35,.b ((!(decide ((Yq y1 fz1 az1)=(Yq y1 fz1 az1))))||(!(X4 y1))))] (fun gz=>gz) ?_ (fun hj1=>?_))))))))))
 ·refine YV 16 [3,4,5,6] [(39,.b (((!(decide ((Yq y1 fz1 az1)=(Yq y1 fz1 az1))))||(!(X4 y1)))||(decide (fz1<0))))] (fun gz=>gz) ?_ (fun hj2=>?_)
  ·refine YV 23 [3,4,5,6] [(46,.b ((((!(decide ((Yq y1 fz1 az1)=(Yq y1 fz1 az1))))||(!(X4 y1)))||(decide (fz1<0)))||(decide (fz1>=(y1.procs.length:Int)))))] (fun gz=>gz) ?_ (fun hj3=>?_)
   ·refine YV 27 [3,4,5,6] [(50,.b (((((!(decide ((Yq y1 fz1 az1)=(Yq y1 fz1 az1))))||(!(X4 y1)))||(decide (fz1<0)))||(decide (fz1>=(y1.procs.length:Int))))||(decide (az1<0))))] (fun gz=>gz) ?_ (fun hj4=>?_)
    ·refine Z0 1 (ib (b:=(((((!(decide ((Yq y1 fz1 az1)=(Yq y1 fz1 az1))))||(!(X4 y1)))||(decide (fz1<0)))||(decide (fz1>=(y1.procs.length:Int))))||(decide (az1<0)))) 51 (fun Zd=>?_) (fun Zd=>?_))
     ·have Ym:((((¬((Yq y1 fz1 az1)=(Yq y1 fz1 az1)))∨(¬((X4 y1)=true)))∨(fz1<0))∨(fz1>=(y1.procs.length:Int)))∨(az1<0):=((Zz (Zz (Zz (Zz (Y1 dq) (Y1 Iff.rfl)) dq) dq) dq)).1 Zd
      exact Z1 (Vo (Zq 4 [0] (Zt [] (E5 y1 fz1 az1 1 (hz:=hdz) (hlz:=om)) (Zt [] (DL (Yq y1 fz1 az1) (Yq y1 fz1 az1)) (Zl (ZJ (.b (decide ((Yq y1 fz1 az1)=(Yq y1 fz1 az1)))) (lb (by first|rfl|(simp;done)))))))))
     have YL:¬(((((¬((Yq y1 fz1 az1)=(Yq y1 fz1 az1)))∨(¬((X4 y1)=true)))∨(fz1<0))∨(fz1>=(y1.procs.length:Int)))∨(az1<0)):=Y2 (Zz (Zz (Zz (Zz (Y1 dq) (Y1 Iff.rfl)) dq) dq) dq) Zd
     refine Z0 1 (ia ((az1+1)) ((az1)+(1)) (Zy 3 [0] ?_))
     obtain ⟨x1,Z3⟩:=Zu y1.procs fz1.toNat (by have h:=fun q=>YL (.inl (.inr q));have h2:=fun q=>YL (.inl (.inl (.inr q)));omega)
     have hf2:0<=fz1/\fz1<y1.procs.length:=(by have h:=fun q=>YL (.inl (.inr q));have h2:=fun q=>YL (.inl (.inl (.inr q)));omega)
     have ha0:¬az1<0:=fun q=>YL (.inr q)
     have hV:X4 y1=true/\0<=fz1/\fz1<y1.procs.length:=⟨As fun z=>YL (.inl (.inl (.inl (.inr z)))),hf2⟩
     have hpm:=Y3 Z3
     have hpz:=(hdz.procs _ hpm).len
     have hlx:=fun (q:Instr) (w:q∈(x1).code)=>((hdz.procs _ hpm).code q w).l
     refine Zm (Zi none fz1 5 (TM Z3)) (Z0 2 (iw (UG x1.code) (Y0 ((az1+1)>=(x1.code.length:Int)) (fun Zh=>?_) (fun Zh=>?_))))
     ·exact Zq 4 [0] (Zt [] (E5 y1 fz1 az1 1 (hz:=hdz) (hlz:=om)) (Zt [] (DL (Yq y1 fz1 az1) (Yq y1 fz1 az1)) (Zl (ZJ (.b (decide ((Yq y1 fz1 az1)=(Yq y1 fz1 az1)))) (lb (by first|rfl|(simp;done)))))))
     have ha2:0<=az1/\az1+1<x1.code.length:=by omega
     refine ak (Zq 3 [0] (Zm (Zi none fz1 5 (TM Z3)) (Z0 3 ?_)))
     obtain ⟨x2,Zv⟩:=Zu x1.code az1.toNat om
     refine Zm (Zi none az1 6 (TA Zv)) (Z0 1 (iA [.i 0,.i 0,.i 0,.i 0,nl,nl] fun b2=>ZB 0 b2 (V9 x2) (ie (Xe (YV 8 [3,4,5,6,7] [(85,.b ((x2.op==23)||(x2.op==24)))] (fun gz=>gz) ?_ (fun hj5=>?_))))))
     ·refine YV 13 [3,4,5,6,7] [(90,.b (((x2.op==23)||(x2.op==24))||(x2.op==22)))] (fun gz=>gz) ?_ (fun hj6=>?_)
      ·refine XC [3,4,5,6,7] [(95,.b ((((x2.op==23)||(x2.op==24))||(x2.op==22))||(x2.op==21)))] (fun gz=>gz) ?_ ?_
       ·refine Z0 1 (ib (b:=(((x2.op==23)||(x2.op==24))||(x2.op==22))) 91 (fun ZD=>?_) (fun ZD=>?_))
        ·have X3:((x2.op=23)∨(x2.op=24))∨(x2.op=22):=((Zz (Zz Zg Zg) Zg)).1 ZD
         exact Z1 (wk [0,0] (fc (x:=.b true) (lb (by rw [ZD];rfl)) fl))
        have Xf:¬(((x2.op=23)∨(x2.op=24))∨(x2.op=22)):=Y2 (Zz (Zz Zg Zg) Zg) ZD
        exact WJ [0] (wk [0,0] (fc (x:=.b (x2.op==21)) (lb (by rw [ZD];rfl)) fl))
       refine ac ((((x2.op==23)||(x2.op==24))||(x2.op==22))||(x2.op==21)) (p:=(((x2.op=23)∨(x2.op=24))∨(x2.op=22))∨(x2.op=21)) (Zz (Zz (Zz Zg Zg) Zg) Zg) (fun ZC=>?_) (fun ZC=>?_)
       ·exact ar (Zl (Bf))
       refine ak (Zq 3 [1] (ia ((az1+1)) ((az1)+(1)) (Zt [] (Lv y1 fz1 (az1+1) 1 (hz:=hdz) (hlz:=om)) (Z1 (ar (YV 8 [6,7,8] [(108,.b ((decide (x2.op<=11))||(x2.op==18)))] (fun gz=>gz) ?_ (fun hj7=>?_)))))))
       ·refine YV 13 [6,7,8] [(113,.b (((decide (x2.op<=11))||(x2.op==18))||(x2.op==19)))] (fun gz=>gz) ?_ (fun hj8=>?_)
        ·refine Z1 (Y4 (ab 0 (Y5 (fun fz gz m F h=>∃(k:Nat),(k<=(Yq y1 fz1 (az1+1)).length)/\F=sF [6,7,8,9] fz [(10,.i k)]/\h=[Zj gz 0]/\m=(Yq y1 fz1 (az1+1)).length-k) _ _ _ ⟨0,ob,rfl,rfl,rfl⟩ (wk [0] (Yg fl)) ?_)))
         rintro m F h ⟨k,Yi,rfl,rfl,rfl⟩
         refine YP 2 (io (.i (((Yq y1 fz1 (az1+1)).length:Nat):Int)) (.i (((Z7 (Yq y1 fz1 (az1+1))).length:Nat):Int)) (li (by rw [Yb])) (Y0 ((k:Int)<(((Yq y1 fz1 (az1+1)).length:Nat):Int)) (fun Yc=>?_) (fun Yc=>?_)))
         ·refine ak (aq (ab 1 (aD 20 (Zs 17 20 [0,1,2] ?_))))
          obtain ⟨x3,YU⟩:=Zu (Yq y1 fz1 (az1+1)) k om
          refine dx 3 (Zi none (k:Int) 1 (Y6 YU)) (Zs 15 16 [4] (Z9 5 (YI 5 [] [] [] (PV (Yq y1 fz1 az1) x3) (Bt [6,7,8,9,10] [(139,.b ((!(decide (x3∈(Yq y1 fz1 az1))))&&(!(((decide (x2.op<=11))||(x2.op==18))||(x2.op==19))||(!(x3==x2.dst)))))] (fun gz=>gz) ?_ ?_))))
          ·refine Zs 12 14 [6,7] (db (b:=(!(decide (x3∈(Yq y1 fz1 az1))))) 127 (fun Yk=>?_) (fun Yk=>?_))
           ·have XS:¬(x3∈(Yq y1 fz1 az1)):=((Y1 dq)).1 Yk
            refine Zs 10 12 [8,9] (db (b:=(((decide (x2.op<=11))||(x2.op==18))||(x2.op==19))) 129 (fun YT=>?_) (fun YT=>?_))
            ·have Wh:((x2.op<=11)∨(x2.op=18))∨(x2.op=19):=((Zz (Zz dq Zg) Zg)).1 YT
             exact Zs 8 10 [10,11] (dx 12 (Zi none (k:Int) 1 (Y6 YU)) (ZY 0 7 [13,14,15,16,17,18,19] [0] (de (wk [0] (Zo (!(x3==x2.dst)) (And.intro Yk YT) fl)))))
            have WZ:¬(((x2.op<=11)∨(x2.op=18))∨(x2.op=19)):=Y2 (Zz (Zz dq Zg) Zg) YT
            exact Zs 0 10 [10,11,12,13,14,15,16,17,18,19] (de (wk [0] (Zo true (And.intro Yk YT) fl)))
           have Vs:¬(¬(x3∈(Yq y1 fz1 az1))):=Y2 (Y1 dq) Yk
           exact Zs 0 12 [8,9,10,11,12,13,14,15,16,17,18,19] (de (wk [0] (fc (x:=.b false) (lb (by rw [Yk];rfl)) fl)))
          refine ac ((!(decide (x3∈(Yq y1 fz1 az1))))&&(!(((decide (x2.op<=11))||(x2.op==18))||(x2.op==19))||(!(x3==x2.dst)))) (p:=(¬(x3∈(Yq y1 fz1 az1)))/\(¬(((x2.op<=11)∨(x2.op=18))∨(x2.op=19))∨(¬(x3=x2.dst)))) (YG (Y1 dq) (Zz (Y1 (Zz (Zz dq Zg) Zg)) (Y1 Zg))) (fun YB=>?_) (fun YB=>?_)
          ·exact ar (Zl (ZJ (.b false) (lb (absurd (Zbt hV Z3 ha2 Zv om om om om (Y3 YU)) (fun q=>by rcases q with q|q;exact YB.1 q;exact YB.2.elim (fun w=>w om) (fun w=>w q.2))))))
          exact ak (az (Z0 1 (ZE k (Z1 (ZH ⟨k+1,ob,rfl,rfl,rfl⟩ (wk [0] (ZL k fl)))))))
         exact ax 0 (ar (Zl (Bf)))
        refine Z0 1 (ib (b:=((decide (x2.op<=11))||(x2.op==18))) 109 (fun XK=>?_) (fun XK=>?_))
        ·have UL:(x2.op<=11)∨(x2.op=18):=((Zz dq Zg)).1 XK
         exact Z0 4 (ZX (wk [0,0] (fc (x:=.b true) (lb (by rw [XK];rfl)) fl)) hj8)
        have Tl:¬((x2.op<=11)∨(x2.op=18)):=Y2 (Zz dq Zg) XK
        exact Zy 4 [0] (ZX (wk [0,0] (fc (x:=.b (x2.op==19)) (lb (by rw [XK];rfl)) fl)) hj8)
       refine Zy 4 [0] (ib (b:=(decide (x2.op<=11))) 104 (fun W0=>?_) (fun W0=>?_))
       ·have UM:x2.op<=11:=(dq).1 W0
        exact Z0 4 (ZX (wk [0,0] (fc (x:=.b true) (lb (by rw [W0];rfl)) fl)) hj7)
       have Qn:¬(x2.op<=11):=Y2 dq W0
       exact Zy 4 [0] (ZX (wk [0,0] (fc (x:=.b (x2.op==18)) (lb (by rw [W0];rfl)) fl)) hj7)
      refine Z0 1 (ib (b:=((x2.op==23)||(x2.op==24))) 86 (fun W5=>?_) (fun W5=>?_))
      ·have TQ:(x2.op=23)∨(x2.op=24):=((Zz Zg Zg)).1 W5
       exact Z0 4 (ZX (wk [0,0] (fc (x:=.b true) (lb (by rw [W5];rfl)) fl)) hj6)
      have Kw:¬((x2.op=23)∨(x2.op=24)):=Y2 (Zz Zg Zg) W5
      exact Zy 4 [0] (ZX (wk [0,0] (fc (x:=.b (x2.op==22)) (lb (by rw [W5];rfl)) fl)) hj6)
     refine Zy 4 [0] (ib (b:=(x2.op==23)) 81 (fun Wq=>?_) (fun Wq=>?_))
     ·have Kx:x2.op=23:=(Zg).1 Wq
      exact Z0 4 (ZX (wk [0,0] (fc (x:=.b true) (lb (by rw [Wq];rfl)) fl)) hj5)
     have AZ:¬(x2.op=23):=Y2 Zg Wq
     exact Zy 4 [0] (ZX (wk [0,0] (fc (x:=.b (x2.op==24)) (lb (by rw [Wq];rfl)) fl)) hj5)
    refine Z0 1 (ib (b:=((((!(decide ((Yq y1 fz1 az1)=(Yq y1 fz1 az1))))||(!(X4 y1)))||(decide (fz1<0)))||(decide (fz1>=(y1.procs.length:Int))))) 47 (fun WH=>?_) (fun WH=>?_))
    ·have Ad:(((¬((Yq y1 fz1 az1)=(Yq y1 fz1 az1)))∨(¬((X4 y1)=true)))∨(fz1<0))∨(fz1>=(y1.procs.length:Int)):=((Zz (Zz (Zz (Y1 dq) (Y1 Iff.rfl)) dq) dq)).1 WH
     exact Z0 3 (ZX (wk [0] (fc (x:=.b true) (lb (by rw [WH];rfl)) fl)) hj4)
    have Gs:¬((((¬((Yq y1 fz1 az1)=(Yq y1 fz1 az1)))∨(¬((X4 y1)=true)))∨(fz1<0))∨(fz1>=(y1.procs.length:Int))):=Y2 (Zz (Zz (Zz (Y1 dq) (Y1 Iff.rfl)) dq) dq) WH
    exact Z0 3 (ZX (wk [0] (fc (x:=.b (decide (az1<0))) (lb (by rw [WH];rfl)) fl)) hj4)
   refine Z0 1 (ib (b:=(((!(decide ((Yq y1 fz1 az1)=(Yq y1 fz1 az1))))||(!(X4 y1)))||(decide (fz1<0)))) 40 (fun VO=>?_) (fun VO=>?_))
   ·have Gt:((¬((Yq y1 fz1 az1)=(Yq y1 fz1 az1)))∨(¬((X4 y1)=true)))∨(fz1<0):=((Zz (Zz (Y1 dq) (Y1 Iff.rfl)) dq)).1 VO
    exact Z0 6 (ZX (wk [0] (fc (x:=.b true) (lb (by rw [VO];rfl)) fl)) hj3)
   have EJ:¬(((¬((Yq y1 fz1 az1)=(Yq y1 fz1 az1)))∨(¬((X4 y1)=true)))∨(fz1<0)):=Y2 (Zz (Zz (Y1 dq) (Y1 Iff.rfl)) dq) VO
   exact Zy 3 [0] (iw (QW y1.procs) (Z0 2 (ZX (wk [0] (fc (x:=.b (decide (fz1>=(y1.procs.length:Int)))) (lb (by rw [VO];rfl)) fl)) hj3)))
  refine Z0 1 (ib (b:=((!(decide ((Yq y1 fz1 az1)=(Yq y1 fz1 az1))))||(!(X4 y1)))) 36 (fun UZ=>?_) (fun UZ=>?_))
  ·have Ll:(¬((Yq y1 fz1 az1)=(Yq y1 fz1 az1)))∨(¬((X4 y1)=true)):=((Zz (Y1 dq) (Y1 Iff.rfl))).1 UZ
   exact Z0 3 (ZX (wk [0] (fc (x:=.b true) (lb (by rw [UZ];rfl)) fl)) hj2)
  have Lm:¬((¬((Yq y1 fz1 az1)=(Yq y1 fz1 az1)))∨(¬((X4 y1)=true))):=Y2 (Zz (Y1 dq) (Y1 Iff.rfl)) UZ
  exact Z0 3 (ZX (wk [0] (fc (x:=.b (decide (fz1<0))) (lb (by rw [UZ];rfl)) fl)) hj2)
 refine Z0 2 (ib (b:=(!(decide ((Yq y1 fz1 az1)=(Yq y1 fz1 az1))))) 31 (fun T0=>?_) (fun T0=>?_))
 ·have Ln:¬((Yq y1 fz1 az1)=(Yq y1 fz1 az1)):=((Y1 dq)).1 T0
  exact Z0 4 (ZX (wk [0] (fc (x:=.b true) (lb (by rw [T0];rfl)) fl)) hj1)
 have Lo:¬(¬((Yq y1 fz1 az1)=(Yq y1 fz1 az1))):=Y2 (Y1 dq) T0
 exact Zy 1 [0] (Zt [] (Lw y1 1 (hz:=hdz) (hlz:=om)) (Z0 2 (ZX (wk [0] (fc (x:=.b (!(X4 y1))) (lb (by rw [T0];rfl)) fl)) hj1)))
end Go.Abs
