/-
  A part of the proofs of several laws (see the last file): no condition.
-/
import Derived.Test.YtamhpednblociaaGreatYbD
set_option linter.all false
set_option linter.unusedVariables false
set_option linter.unusedSimpArgs false
set_option linter.unusedSectionVars false
set_option maxRecDepth 10000
set_option maxHeartbeats 4000000
namespace Go.Abs
open Go.Proofs
theorem Zge (b:Z8) (hz:b.sz<=1000000000:=by exact ob):Zo 201 [Yq b] [] (Yx (.i (((XM b.steps):Nat):Int))):=by
 have hbz:=Ux b
 refine ZE 20 Tryz.func201 (ar (iA (XV b) fun b1=>?_))
 refine Z1 (Y1 (aq (ab 0 (Y0 (fun fz gz m F h=>∃(k:Nat),(k<=b.steps.length)/\(k+XM (b.steps.drop k)=XM b.steps)/\F=sF [1] fz [(3,.i k)]/\h=gz/\m=b.steps.length-k) _ _ _ ⟨0,ob,(by simp),rfl,rfl,rfl⟩ (wk [0] (Ya fl)) ?_))))
 rintro m F h ⟨k,Yj,Zf,rfl,rfl,rfl⟩
 refine Ys 3 [0] (iw (UB b.steps) (Z0 2 (ib (b:=(decide ((k:Int)<(b.steps.length:Int)))) 9 (fun Zc=>?_) (fun Zc=>?_))))
 ·have Y4:(k:Int)<(b.steps.length:Int):=(dq).1 Zc
  refine Zz 3 [0] ?_
  obtain ⟨x1,Z3⟩:=Zt b.steps k om
  refine Zs (Zh none (k:Int) 5 (V8 Z3)) (Z0 1 (Zw [] (Z0q x1) (YB ((x1.op==14)||(x1.op==15)) (p:=(x1.op=14)∨(x1.op=15)) (ZO Ze Ze) (fun Z9=>?_) (fun Z9=>?_))))
  ·exact ak (ab 1 (az (Z0 1 (ZD k (Z1 (ZF ⟨k+1,ob,(Zet Z3 Z9 Zf),rfl,rfl,rfl⟩ (wk [0] (ZI k fl))))))))
  exact ax 0 (ar (Zm (ZM (.i k) (li (by have:=Zeu Z3 Z9 Zf;omega)))))
 have Yr:¬((k:Int)<(b.steps.length:Int)):=Y7 dq Zc
 exact Z1 (VG (ax 0 (ar (Zm (ZM (.i k) (li (by have:=Zes om Zf;omega)))))))
theorem Z0k (b:Z8) (mm:Nat) (op:Int) (hm:mm<=b.steps.length:=by exact ob) (ha:∀s∈b.steps.take mm,s.op=op->∃a,s.args=[a]) (hz:b.sz<=1000000000:=by exact ob):Zo 202 [Yq b,.i mm,.i op] [] (fun r h=>∃(v:Value),r=ZH (Wq op (b.steps.take mm)) v/\h=[.tail v 1]):=by
 have hbz:=Ux b
 refine ZE 35 Tryz.func202 (ar (iA (XV b) fun b1=>Z1 (ar (iL (Z6 []) 0 1 fun v1=>?_))))
 refine Z1 (Y6 (ab 0 (Y0 (fun fz gz m F h=>∃(k:Nat) (acc:LI) (v:Value),(k<=mm)/\(acc.length<=k)/\(acc++Wq op ((b.steps.take mm).drop k)=Wq op (b.steps.take mm))/\F=sF [1,2,3] fz [(7,ZH acc v),(8,.i k)]/\h=[Zi gz 1,.tail v 1]/\m=mm-k) _ _ _ ⟨0,[],v1,ob,ob,(by simp),rfl,rfl,rfl⟩ (wk [1,0] (fr (Ya fl))) ?_)))
 rintro m F h ⟨k,acc,v,Yj,Zf,ZB,rfl,rfl,rfl⟩
 refine Xd (Y2 ((k:Int)<(mm:Int)) (fun Z9=>?_) (fun Z9=>?_))
 ·refine ak (aq (ab 1 (Zq 3 [0] ?_)))
  obtain ⟨x1,Z3⟩:=Zt b.steps k om
  have hxt:(b.steps.take mm)[k]? = some x1:=by rw [List.getElem?_take_of_lt om];exact Z3
  have hxm:=Y3 hxt
  refine Zs (Zh none (k:Int) 5 (V8 Z3)) (YB (x1.op==op) Ze (fun Zj=>?_) (fun Zj=>?_))
  ·refine az (Zz 4 [0] (Zs (Zh none (k:Int) 5 (V8 Z3)) (Z0 2 ?_)))
   obtain ⟨x2,Zu⟩:=Zt x1.args 0 (by obtain ⟨a,ha2⟩:=ha x1 hxm Zj;rw [ha2];simp)
   have hg0:=Kz Zu
   exact Zs (Zh none 0 1 (Y8 Zu)) (Z0 1 (iL (Z6 [x2]) 1 1 fun v2=>ZQ 0 [(32,Z4 [x2])] (ip 2 (Z6 (acc++[x2])) (Z6 acc) (Z6 [x2]) v none 1 (YD _) (YD _) (W2 _) (by simp<;>omega) (by simp [W1,Z6]) fun v3=>Z1 (az (Z0 1 (ZD k (Z1 (ZF ⟨k+1,(acc++[x2]),v3,ob,(by simp;omega),(by have h:=Z37 hxt Zj ZB;rw [hg0] at h;exact h),rfl,rfl,rfl⟩ (wk [2,0] (fr (ZI k fl)))))))))))
  exact ak (az (Z0 1 (ZD k (Z1 (ZF ⟨k+1,acc,v,ob,ob,(Z36 hxt Zj ZB),rfl,rfl,rfl⟩ (wk [0,0] (fr (ZI k fl))))))))
 exact ax 0 (ar (Zm (r2 [1] [ZH acc v] ⟨v,rfl,rfl⟩ (Zd.slh _ (Yl Z6 (Z35 (by rw [Wi];omega) ZB))))))
theorem Z12 (xs:LI) (y:Int) (hl:xs.length<=1000000000:=by exact ob):Zo 203 [Z4 xs,.i y] [] (fun r h=>∃(v:Value),r=ZH (xs.erase y) v/\h=[.tail v 1]):=by
 refine ZE 33 Tryz.func203 (Y1 (ar (iL (Z6 []) 0 1 fun v1=>?_)))
 refine Z1 (Y1 (Y6 (ab 0 (Y0 (fun fz gz m F h=>∃(k:Nat) (acc:LI) (d:Bool) (v:Value),(k<=xs.length)/\(acc.length<=k)/\(acc++(if d=true then xs.drop k else (xs.drop k).erase y)=xs.erase y)/\F=sF [0,1] fz [(5,ZH acc v),(6,.b d),(7,.i k)]/\h=[.tail v 1]/\m=xs.length-k) _ _ _ ⟨0,[],false,v1,ob,ob,(by simp),rfl,rfl,rfl⟩ (wk [0] (fw (Ya fl))) ?_))))
 rintro m F h ⟨k,acc,d,v,Yj,Zf,ZB,rfl,rfl,rfl⟩
 refine YM 2 (iw (Yc xs) (Y2 ((k:Int)<(xs.length:Int)) (fun Z9=>?_) (fun Z9=>?_)))
 ·refine ak (aq (ab 1 (Yf 2 ?_)))
  obtain ⟨x1,Z3⟩:=Zt xs k om
  refine Zs (Zh none (k:Int) 1 (Y8 Z3)) (Xp [0,1,5,6,7] [(24,.b ((x1==y)&&(!d)))] (fun gz=>gz) ?_ ?_)
  ·refine Z0 4 (ib (b:=(x1==y)) 21 (fun Zc=>?_) (fun Zc=>?_))
   ·exact Z1 (wk [0] (Zl (!d) Zc fl))
   exact Z1 (wk [0] (Zl false Zc fl))
  refine AO (fun fz gz F h=>∃(w:Value),F=sF [0,1,7] fz [(5,ZH (if (x1=y)/\(¬(d=true)) then acc else (acc++[x1])) w),(6,.b (((x1==y)&&(!d))||d))]/\h=[.tail w 1]) (fun _ _=>rfl) ?_ ?_
  ·refine ac ((x1==y)&&(!d)) (p:=(x1=y)/\(¬(d=true))) (Yu Ze (Yh Iff.rfl)) (fun Zj=>?_) (fun Zj=>?_)
   ·exact Vv (ZJ ⟨v,rfl,rfl⟩ (wk [0] (fc (x:=ZH acc v) (Zd.slh _ (Yl Z6 (by first|rfl|(rw [Zk Zj])|(rw [Za Zj])|(simp [Zj];done)|(rw [Yg];simp [Zj];done)|omega))) (fc (x:=.b true) (lb (by first|rfl|(rw [Zk Zj])|(rw [Za Zj])|(simp [Zj];done)|(rw [Yg];simp [Zj];done)|omega)) fl))))
   exact az (Z0 3 (Zs (Zh none (k:Int) 1 (Y8 Z3)) (Z0 1 (iL (Z6 [x1]) 1 1 fun v2=>ZQ 0 [(30,Z4 [x1])] (ip 1 (Z6 (acc++[x1])) (Z6 acc) (Z6 [x1]) v none 1 (YD _) (YD _) (W2 _) (by simp<;>omega) (by simp [W1,Z6]) fun v3=>Z1 (ZJ ⟨v3,rfl,rfl⟩ (wk [0] (fc (x:=ZH (acc++[x1]) v3) (Zd.slh _ (Yl Z6 (by first|rfl|(rw [Zk Zj])|(rw [Za Zj])|(simp [Zj];done)|(rw [Yg];simp [Zj];done)|omega))) (fc (x:=.b d) (lb (by cases d<;>simp_all)) fl)))))))))
  rintro F h ⟨w,rfl,rfl⟩
  exact az (Z0 1 (ZD k (Z1 (ZF ⟨k+1,(if (x1=y)/\(¬(d=true)) then acc else (acc++[x1])),(((x1==y)&&(!d))||d),w,ob,(by split<;>(try simp)<;>omega),(Z5y Z3 ZB),rfl,rfl,rfl⟩ (wk [0] (fw (ZI k fl)))))))
 exact ax 0 (ar (Zm (r2 [0] [ZH acc v] ⟨v,rfl,rfl⟩ (Zd.slh _ (Yl Z6 (Z5x om ZB))))))
theorem Zg3 (b:Z8) (x:Int) (fs:LI) (q:Nat) (ha:∀s∈b.steps,YO s.op=true->∃a,s.args=[a]) (hf:fs.length<=3:=by exact ob) (hq:q<=1000000000:=by exact ob) (hz:b.sz<=900000000:=by exact ob):Zo 177 [Yq b,.i x,Z4 fs,.i q] [] (Yx (Yq (Ko b x fs q))):=by
 have hbz:=Ux b
 have hrl:=HC b.steps
 have hal:=Is (b.steps.take (XM b.steps))
 rw [Wi] at hal
 have her:=List.length_erase_le (a:=x) (l:=Wq 15 (b.steps.take (XM b.steps)))
 have har:∀op:Int,YO op=true->∀s∈b.steps.take (XM b.steps),s.op=op->∃a,s.args=[a]:=fun op ho s hs e=>ha s (QP hs) (by rw [e];exact ho)
 refine ZE 88 Tryz.func177 (ar (iA (XV b) fun b1=>iA [nl,.i 0] fun b2=>ie (Zq 1 [1] (Zw [] (Zge b) (Z1 (Zq 2 [1] (ic [] (Z0k b (XM b.steps) 14 (ha:=(har _ rfl))) ?_)))))))
 rintro _ _ ⟨v1,rfl,rfl⟩
 refine Z1 (Zq 2 [2] (ic [] (Z0k b (XM b.steps) 15 (ha:=(har _ rfl))) ?_))
 rintro _ _ ⟨v2,rfl,rfl⟩
 refine Z1 (Xd (ZQ 2 [(22,Z4 (Wq 15 (b.steps.take (XM b.steps))))] (Zw [] (UM (Wq 15 (b.steps.take (XM b.steps))) x) (Xp [1,2,3,4,8,9,10,11] [(30,.b ((!(decide (x∈(Wq 15 (b.steps.take (XM b.steps))))))||((fs.length:Int)==0)))] (fun gz=>gz) ?_ ?_))))
 ·refine Z0 2 (ib (b:=(!(decide (x∈(Wq 15 (b.steps.take (XM b.steps))))))) 26 (fun Zc=>?_) (fun Zc=>?_))
  ·exact Z1 (Zv 4 (Zl true Zc fl))
  exact Z0 1 (iw (Yc fs) (Z1 (Zv 4 (Zl ((fs.length:Int)==0) Zc fl))))
 refine ac ((!(decide (x∈(Wq 15 (b.steps.take (XM b.steps))))))||((fs.length:Int)==0)) (p:=(¬(x∈(Wq 15 (b.steps.take (XM b.steps)))))∨((fs.length:Int)=0)) (ZO (Yh dq) Ze) (fun Z9=>?_) (fun Z9=>?_)
 ·exact Zq 1 [3] (Zy 2 b2 (XV b) (ie (ZY (r3 [] [Yq b] [0] [(b2,b2)] ⟨rfl,rfl⟩ (Zd.agg (.cons (Zd.sl _ (Yl ZU (Z2w (fun z=>Z9.elim (fun e=>e z.1) (fun e=>z.2 om))).symm)) (.cons li .nil)))))))
 refine ak (ar (ZQ 2 [(32,Z4 (Wq 15 (b.steps.take (XM b.steps))))] (ic [] (Z12 (Wq 15 (b.steps.take (XM b.steps))) x) ?_)))
 rintro _ _ ⟨v3,rfl,rfl⟩
 refine Z1 (Y6 (ab 0 (Y0 (fun fz gz m F h=>∃(k:Nat) (D:LI) (R:LI) (v:Value),(k<=fs.length)/\(D.length<=b.steps.length)/\(R.length<=b.steps.length+k)/\(Un (fs.drop k) (q+k) D R=J9 b.steps x fs q)/\F=sF [1,2,3,4,8,9] fz [(10,Z4 D),(11,ZH R v),(12,.i k)]/\h=[Zi gz 3,Zi gz 4,.tail v 1]/\m=fs.length-k) _ _ _ ⟨0,(Wq 14 (b.steps.take (XM b.steps))),((Wq 15 (b.steps.take (XM b.steps))).erase x),v3,ob,om,om,(by simp [J9]),rfl,rfl,rfl⟩ (wk [3,3,0] (fc (x:=ZH (Wq 14 (b.steps.take (XM b.steps))) v1) (Zd.forget _ _) (fr (Ya fl)))) ?_)))
 rintro m F h ⟨k,D,R,v,Yj,Zf,ZB,YL,rfl,rfl,rfl⟩
 refine YM 2 (iw (Yc fs) (Y2 ((k:Int)<(fs.length:Int)) (fun Zj=>?_) (fun Zj=>?_)))
 ·refine ak (aq (ab 1 (Yf 2 ?_)))
  obtain ⟨x1,Z3⟩:=Zt fs k om
  refine Zs (Zh none (k:Int) 1 (Y8 Z3)) (Xp [1,2,3,4,8,9,10,11,12] [(52,.b ((x1 != 0)&&(decide (((q+k:Nat):Int)∈D))))] (fun gz=>gz) ?_ ?_)
  ·refine Z0 3 (ib (b:=(x1 != 0)) 46 (fun ZC=>?_) (fun ZC=>?_))
   ·exact Z0 3 (ia (((q+k:Nat):Int)) (((q:Int))+((k:Int))) (Zw [] (UM D ((q+k:Nat):Int)) (Z1 (Zv 3 (Zl (decide (((q+k:Nat):Int)∈D)) ZC fl)))))
   exact Z1 (Zv 3 (Zl false ZC fl))
  refine AO (fun fz gz F h=>∃(D2:LI) (R2:LI) (w:Value),(Un (fs.drop (k+1)) (q+((k+1:Nat):Int)) D2 R2=J9 b.steps x fs q)/\(D2.length<=b.steps.length)/\(R2.length<=b.steps.length+(k+1))/\F=sF [1,2,3,4,8,9,12] fz [(10,Z4 D2),(11,ZH R2 w)]/\h=[Zi gz 0,Zi gz 1,.tail w 1]) (fun _ _=>rfl) ?_ ?_
  ·refine ac ((x1 != 0)&&(decide (((q+k:Nat):Int)∈D))) (p:=(x1≠0)/\(((q+k:Nat):Int)∈D)) (Yu Yp dq) (fun ZA=>?_) (fun ZA=>?_)
   ·refine az (Z0 3 (ia (((q+k:Nat):Int)) (((q:Int))+((k:Int))) (ic [] (Z12 D ((q+k:Nat):Int)) ?_)))
    rintro _ _ ⟨v4,rfl,rfl⟩
    exact Z1 (ZJ ⟨(D.erase ((q+k:Nat):Int)),R,v,(Zcw Z3 ZA.1 ZA.2 YL),(V6 List.length_erase_le Zf),ob,rfl,rfl⟩ (wk [1,1,1] fl))
   refine Yf 2 (Zs (Zh none (k:Int) 1 (Y8 Z3)) (YB (x1 != 0) Yp (fun Yi=>?_) (fun Yi=>?_)))
   ·exact az (Z0 3 (ia (((q+k:Nat):Int)) (((q:Int))+((k:Int))) (iL (Z6 [((q+k:Nat):Int)]) 1 1 fun v5=>ZQ 0 [(67,Z4 [((q+k:Nat):Int)])] (ip 3 (Z6 (R++[((q+k:Nat):Int)])) (Z6 R) (Z6 [((q+k:Nat):Int)]) v none 1 (YD _) (YD _) (W2 _) (by simp<;>omega) (by simp [W1,Z6]) fun v6=>Z1 (ZJ ⟨D,(R++[((q+k:Nat):Int)]),v6,(Zcx Z3 Yi (fun z=>ZA ⟨Yi,z⟩) YL),ob,(by simp;omega),rfl,rfl⟩ (wk [2,2,0] fl))))))
   exact ak (ZJ ⟨D,R,v,(Zcy Z3 Yi YL),ob,ob,rfl,rfl⟩ (Zv 3 fl))
  rintro F h ⟨D2,R2,w,EY,LP,DI,rfl,rfl⟩
  exact az (Z0 1 (ZD k (Z1 (ZF ⟨k+1,D2,R2,w,ob,ob,ob,ob,rfl,rfl,rfl⟩ (Zv 3 (fw (ZI k fl)))))))
 refine ax 0 (Yf 1 (ic [] (KL 14 D) ?_))
 rintro _ _ ⟨v7,rfl,rfl⟩
 refine Z0 1 (Zw [] (C3 16 x) (iL [X4 (Zx 16 x)] 1 5 fun v8=>ZQ 0 [(73,.sl [X4 (Zx 16 x)] none)] (ip 1 (ZU ((D.map (Zx 14))++[Zx 16 x])) (ZU (D.map (Zx 14))) [X4 (Zx 16 x)] v7 none 5 (XE _) (J6 rfl) rfl (by simp<;>omega) (by simp [Vt,U5]) fun v9=>Z1 (ar (ZQ 2 [(76,Z4 R)] (ic [] (KL 15 R) ?_))))))
 rintro _ _ ⟨v10,rfl,rfl⟩
 refine ZQ 0 [(77,Vp (R.map (Zx 15)))] (ip 1 (ZU (((D.map (Zx 14))++[Zx 16 x])++(R.map (Zx 15)))) (ZU ((D.map (Zx 14))++[Zx 16 x])) (ZU (R.map (Zx 15))) v9 none 5 (XE _) (XE _) (Uk _) (by simp<;>omega) (by simp [Vt,ZU]) fun v11=>Z1 (aD 10 (ZW 6 10 [0,1,2,3] [4] (dx 4 (Ax (es:=ZU b.steps) (hv:=none) (l:=(((XM b.steps):Nat):Int)) (m:=(((ZU b.steps).length:Nat):Int)) (sz:=5) (es':=ZU (b.steps.drop (XM b.steps))) kr om (by simp<;>omega) (by simp<;>omega) (XE _) (by first|(simp only [UZ,Ub,AU,AT];done)|(simp only [UZ,Ub,AU,AT];rfl)|(simp [AU,AT];done))) (ZW 3 5 [6,7] [4] (Z7 5 (dp 5 0 [1] [b1] (ZU ((((D.map (Zx 14))++[Zx 16 x])++(R.map (Zx 15)))++(b.steps.drop (XM b.steps)))) (ZU (((D.map (Zx 14))++[Zx 16 x])++(R.map (Zx 15)))) (ZU (b.steps.drop (XM b.steps))) v11 none 5 (XE _) (XE _) (Uk _) (by simp<;>omega) (by simp [Vt,ZU]) fun v12=>Zp 1 2 [8] (Z7 9 (X3 9 3 [] [] b2 [Xg ((((D.map (Zx 14))++[Zx 16 x])++(R.map (Zx 15)))++(b.steps.drop (XM b.steps))) v12,.i b.result] (de ?_))))))))))
 have hE:=Z2y (VP.1 fun z=>Z9 (.inl z)) (fun z=>Z9 (.inr om)) (Zcv om YL)
 exact ZY (r3 [] [.agg [Xg ((((D.map (Zx 14))++[Zx 16 x])++(R.map (Zx 15)))++(b.steps.drop (XM b.steps))) v12,.i b.result]] [0] [(b2,b2)] ⟨rfl,rfl⟩ (Zd.agg (.cons (Zd.sl _ (Yl ZU hE)) (.cons li .nil))))
theorem Zgj (n:ZG) (b:Z8) (mm:Nat) (hn:Xu n) (hw:wB n.decls b) (hb:mm+9*b.sz<=900000000) (ih:∀(b2:Z8) (m2:Nat),(wB n.decls b2)->(m2+9*b2.sz<=900000000)->(b2.sz<b.sz)->Zo 157 [YF n,Yq b2,.i m2] [] (Yx (Yq (WU n.decls m2 b2)))):Zo 157 [YF n,Yq b,.i mm] [] (Yx (Yq (WU n.decls mm b))):=by
 have Xq:=hn.decls
 have hbz:=Ux b
 have ZL:=(Jj b).1 hw
 refine ZE 107 Tryz.func157 (ar (iA (X8 n) fun b1=>iA (XV b) fun b2=>iA [nl,.i 0] fun b3=>ie (ar (iL (ZU []) 0 5 fun v1=>Zz 3 [2] (iA [nl,.i 0] fun b4=>?_)))))
 refine Zy 0 b4 [Xg [] v1,.i b.result] (ie (Y6 (ab 0 (Y0 (fun fz gz m F h=>∃(k:Nat) (q:Nat) (xs:List Z5) (v:Value),(k<=b.steps.length)/\(q<=mm+k)/\(xs.length=k)/\(xs++VX n.decls q (b.steps.drop k)=VX n.decls mm b.steps)/\F=sF [3,4,6,7] fz [(2,.i q),(8,.i k)]/\h=[.obj b4 [Xg xs v,.i b.result],Zi gz 2,Zi gz 3,Zi gz 4,.tail v 5]/\m=b.steps.length-k) _ _ _ ⟨0,mm,[],v1,ob,ob,ob,rfl,rfl,rfl,rfl⟩ (wk [0,1,1,1,0] (fr (Ya fl))) ?_))))
 rintro m F h ⟨k,q,xs,v,Yj,Zf,ZB,YL,rfl,rfl,rfl⟩
 refine Ys 3 [2] (iw (UB b.steps) (Y2 ((k:Int)<(b.steps.length:Int)) (fun Z9=>?_) (fun Z9=>?_)))
 ·refine ak (aq (ab 1 (Zq 3 [2] ?_)))
  obtain ⟨x1,Z3⟩:=Zt b.steps k om
  have XO:=D3 Z3
  have hws:=Z1v hw Z3
  have hkz:=K6 x1
  have haz:=Jr x1
  have hdf:=Zif hws
  refine Zs (Zh none (k:Int) 5 (V8 Z3)) (Z0 1 (iA [.i 0,.i 0,.i 0,nl,nl] fun b5=>Zy 0 b5 (Wd x1) (ie (ar (iL (XP []) 0 2 fun v2=>Z1 (Zq 4 [5,1] (ic [] (Jd n.decls x1.num) ?_)))))))
  rintro _ _ ⟨v3,rfl,rfl⟩
  refine Z1 (Y6 (ab 2 (Y0 (fun fz gz m F h=>∃(j:Nat) (u:Value) (ks:List Z8),(j<=x1.kids.length)/\(ks.length=j)/\(ks++UL n.decls q x1.op x1.num x1.args (x1.kids.drop j) j=UL n.decls q x1.op x1.num x1.args x1.kids 0)/\F=sF [2,3,4,6,7,8,9,11] fz [(10,Qp ks u),(12,.i j)]/\h=[Zi gz 2,Zi gz 3,Zi gz 4,Zi gz 5,Zi gz 6,.tail u 2,Zi gz 7,Zi gz 0]/\m=x1.kids.length-j) _ _ _ ⟨0,v2,[],ob,ob,(by simp),rfl,rfl,rfl⟩ (wk [2,2,2,2,2,1,1,0] (fr (Ya fl))) ?_)))
  rintro m F h ⟨j,u,ks,VA,Xs,XT,rfl,rfl,rfl⟩
  refine Ys 3 [0] (iw (Kt x1.kids) (Y2 ((j:Int)<(x1.kids.length:Int)) (fun Zj=>?_) (fun Zj=>?_)))
  ·refine ak (aq (ab 3 (Qz [0] (ac (x1.op==8) Ze (fun ZA=>?_) (fun ZA=>?_)))))
   ·refine aD 8 (ZW 4 8 [0,1,2,3] [4] ?_)
    obtain ⟨x2,Zu⟩:=Zt (ZZ n.decls x1.num) j (by have h:=(FK hws (by assumption)).2;omega)
    have hfk:Wy n.decls x1.num j=ZP n.decls x2:=Lf (by rw [Jl,Zu];rfl)
    have hcf:=Vj Xq x2
    refine dx 4 (Zh (some v3) (j:Int) 1 (Y8 Zu)) (Zp 2 3 [5] (Z7 6 (YH 6 [] [] [] (Qr n.decls x2) (Zp 0 1 [7] (de (aE 22 (ZW 17 22 [0,1,2,3,4] [4,0] ?_)))))))
    obtain ⟨x3,YP⟩:=Zt x1.kids j om
    have hkb:=YP
    have hks:=Qm YP
    have hwk:=MV hws YP
    have hpk:=Z8.pz_le x3
    refine dx 5 (Zh none (j:Int) 2 (US YP)) (Zp 13 16 [6,7,8] (dn 9 (.i (((ZP n.decls x2).length:Nat):Int)) (.i (((Z6 (ZP n.decls x2)).length:Nat):Int)) (li (by rw [Yc])) (da 10 (((q+((ZP n.decls x2).length):Nat):Int)) (((q:Int))+((((ZP n.decls x2).length:Nat):Int))) (ZW 9 11 [12,13] [0] ?_))))
    obtain ⟨x4,WR⟩:=Zt x1.args 0 (by obtain ⟨⟨a,ha2,_⟩,_⟩:=FK hws (by assumption);rw [ha2];simp)
    have hg1:=Kz WR
    exact dx 14 (Zh none 0 1 (Y8 WR)) (Zp 5 8 [15,16,17] (Z7 11 (YH 11 [] [0] [b5] (ih x3 (q+((ZP n.decls x2).length)) hwk ob ob) (Z7 18 (YH 18 [] [] [] (Zg3 (WU n.decls (q+((ZP n.decls x2).length)) x3) x4 (ZP n.decls x2) q (ha:=(by rw [HJ];exact Zff ((Jj _).1 hwk))) (hz:=(V6 (HK Xq _ hwk) om))) (Z7 19 (dL 19 [] [] [Yq (Ko (WU n.decls (q+((ZP n.decls x2).length)) x3) x4 (ZP n.decls x2) q)] 1 2 fun v4=>Yt 2 2 [] [(72,.sl [Yq (Ko (WU n.decls (q+((ZP n.decls x2).length)) x3) x4 (ZP n.decls x2) q)] none)] (Z7 20 (dp 20 6 [] [] (XP (ks++[Ko (WU n.decls (q+((ZP n.decls x2).length)) x3) x4 (ZP n.decls x2) q])) (XP ks) [Yq (Ko (WU n.decls (q+((ZP n.decls x2).length)) x3) x4 (ZP n.decls x2) q)] u none 2 (KX _) (J6 rfl) rfl (by simp<;>omega) (by simp [Cs,QW]) fun v5=>Zp 0 1 [21] (de (az (Z0 1 (ZD j (Z1 (ZF ⟨j+1,v5,(ks++[Ko (WU n.decls (q+((ZP n.decls x2).length)) x3) x4 (ZP n.decls x2) q]),ob,(by simp;omega),(by have h:=Z0d hkb XT;rw [HL,Zk (by assumption),hfk,hg1] at h;exact h),rfl,rfl,rfl⟩ (wk [2,2,2,2,2,0,1,1] (fr (ZI j fl))))))))))))))))))
   refine aE 12 (ZW 7 12 [0,1,2,3,4] [4,0] ?_)
   obtain ⟨x5,Uu⟩:=Zt x1.kids j om
   have hkb:=Uu
   have hks:=Qm Uu
   have hwk:=MV hws Uu
   have hpk:=Z8.pz_le x5
   exact dx 5 (Zh none (j:Int) 2 (US Uu)) (Zp 4 6 [6,7] (Z7 8 (YH 8 [] [] [] (ih x5 q hwk ob ob) (Z7 9 (dL 9 [] [] [Yq (WU n.decls q x5)] 1 2 fun v6=>Yt 2 2 [] [(83,.sl [Yq (WU n.decls q x5)] none)] (Z7 10 (dp 10 6 [] [] (XP (ks++[WU n.decls q x5])) (XP ks) [Yq (WU n.decls q x5)] u none 2 (KX _) (J6 rfl) rfl (by simp<;>omega) (by simp [Cs,QW]) fun v7=>Zp 0 1 [11] (de (az (Z0 1 (ZD j (Z1 (ZF ⟨j+1,v7,(ks++[WU n.decls q x5]),ob,(by simp;omega),(by have h:=Z0d hkb XT;rw [HL,Za (by assumption)] at h;exact h),rfl,rfl,rfl⟩ (wk [2,2,2,2,2,0,1,1] (fr (ZI j fl))))))))))))))))
  have hK:=Zfc om XT
  refine ax 2 (aD 17 (ZW 6 17 [0,1,2,3,4,5,6,7,8,9,11] [1,0,0,0,0] (Z7 10 (dc 10 [] [0,0,0,1] [b5,b5,b5,b4] (WV x1.args) ?_))))
  rintro _ _ ⟨v8,rfl,rfl⟩
  refine Yt 4 5 [12] [(97,.agg [.i x1.op,.i x1.num,.i x1.into,Z4 x1.args,JL ks])] (Z7 13 (dL 13 [1] [b4] [X4 (Z5.mk x1.op x1.num x1.into x1.args ks)] 1 5 fun v9=>Yt 3 3 [] [(98,.sl [X4 (Z5.mk x1.op x1.num x1.into x1.args ks)] none)] (Z7 14 (dp 14 8 [] [] (ZU (xs++[Z5.mk x1.op x1.num x1.into x1.args ks])) (ZU xs) [X4 (Z5.mk x1.op x1.num x1.into x1.args ks)] v none 5 (XE _) (J6 rfl) rfl (by simp<;>omega) (by simp [Vt,U5]) fun v10=>?_))))
  refine Zp 1 2 [15] (Z7 16 (X3 16 4 [] [] b4 [Xg (xs++[Z5.mk x1.op x1.num x1.into x1.args ks]) v10,.i b.result] (de (Zq 2 [4] (Zw [] (Kg x1.op) (ie (AO (fun fz gz F h=>F=sF [3,4,6,7,8] fz [(2,.i (((if YO x1.op=true then q else q+1):Nat):Int))]/\h=[Zi gz 0,Zi gz 5,Zi gz 6,Zi gz 7,Zi gz 1]) (fun _ _=>rfl) ?_ ?_)))))))
  ·refine ac (Xf x1.op) Iff.rfl (fun Yi=>?_) (fun Yi=>?_)
   ·exact az (Z0 1 (ZD q (Z1 (ZJ ⟨rfl,rfl⟩ (wk [0,4,4,4,0] (fc (x:=.i (q+1:Nat)) (li (by rw [Za (fun z=>by rw [hdf,z] at Yi;cases Yi)])) fl))))))
   exact ak (ZJ ⟨rfl,rfl⟩ (wk [0,4,4,4,0] (fc (x:=.i q) (li (by rw [Zk (C7 fun z=>Yi (by rw [hdf,Q8.2 z];rfl))])) fl)))
  rintro F h ⟨rfl,rfl⟩
  exact az (Z0 1 (ZD k (Z1 (ZF ⟨k+1,(if YO x1.op=true then q else q+1),(xs++[Z5.mk x1.op x1.num x1.into x1.args ks]),v10,ob,(by split<;>omega),(by simp;omega),(by have h:=Zfh Z3 YL;rw [<-hK] at h;exact h),rfl,rfl,rfl⟩ (Zv 5 (fr (ZI k fl)))))))
 exact ax 0 (Zq 1 [0] (Zy 1 b3 [Xg xs v,.i b.result] (ie (ZY (r3 [] [.agg [Xg xs v,.i b.result]] [0] [(b3,b3)] ⟨rfl,rfl⟩ (Zd.agg (.cons (Zd.sl _ (Yl ZU (by rw [HJ];exact Zfg om YL))) (.cons (li (by rw [HJ];rfl)) .nil))))))))
theorem Zgh (n:ZG) (hn:Xu n) (k:Nat):∀(b2:Z8) (m2:Nat),(wB n.decls b2)->(m2+9*b2.sz<=900000000)->(b2.sz<k)->Zo 157 [YF n,Yq b2,.i m2] [] (Yx (Yq (WU n.decls m2 b2))):=by
 induction k with
 | zero=>intro b mm _ _ h;omega
 | succ k ih=>intro b mm h1 h2 h3;exact Zgj n b mm hn h1 h2 fun b2 m2 k1 k2 k3=>ih b2 m2 k1 k2 om
theorem Zgi (n:ZG) (b:Z8) (mm:Nat) (hn:Xu n:=by exact ob) (hw:wB n.decls b:=by exact ob) (hb:mm+9*b.sz<=900000000:=by exact ob):Zo 157 [YF n,Yq b,.i mm] [] (Yx (Yq (WU n.decls mm b))):=Zgh n hn (b.sz+1) b mm hw hb om
theorem MD (b:Z8) (hz:b.sz<=1000000000:=by exact ob):Zo 205 [Yq b] [] (Yx (.i (((YX b.steps):Nat):Int))):=by
 have hbz:=Ux b
 refine ZE 21 Tryz.func205 (ar (iA (XV b) fun b1=>?_))
 refine Z1 (Y1 (aq (ab 0 (Y0 (fun fz gz m F h=>∃(k:Nat),(k<=b.steps.length)/\(k+YX (b.steps.drop k)=YX b.steps)/\F=sF [1] fz [(3,.i k)]/\h=gz/\m=b.steps.length-k) _ _ _ ⟨0,ob,(by simp),rfl,rfl,rfl⟩ (wk [0] (Ya fl)) ?_))))
 rintro m F h ⟨k,Yj,Zf,rfl,rfl,rfl⟩
 refine Ys 3 [0] (iw (UB b.steps) (Z0 2 (ib (b:=(decide ((k:Int)<(b.steps.length:Int)))) 9 (fun Zc=>?_) (fun Zc=>?_))))
 ·have Y4:(k:Int)<(b.steps.length:Int):=(dq).1 Zc
  refine Zz 3 [0] ?_
  obtain ⟨x1,Z3⟩:=Zt b.steps k om
  refine Zs (Zh none (k:Int) 5 (V8 Z3)) (Z0 2 (Zw [] (Z0p x1.op) (YB (YO x1.op) Iff.rfl (fun Z9=>?_) (fun Z9=>?_))))
  ·exact ak (ab 1 (az (Z0 1 (ZD k (Z1 (ZF ⟨k+1,ob,(Zbd Z3 Z9 Zf),rfl,rfl,rfl⟩ (wk [0] (ZI k fl))))))))
  exact ax 0 (ar (Zm (ZM (.i k) (li (by have:=Zbe Z3 Z9 Zf;omega)))))
 have Yr:¬((k:Int)<(b.steps.length:Int)):=Y7 dq Zc
 exact Z1 (VG (ax 0 (ar (Zm (ZM (.i k) (li (by have:=Zbc om Zf;omega)))))))
theorem Z0w (b:Z8) (mm:Nat) (op:Int) (x:Int) (hm:mm<=b.steps.length:=by exact ob) (ha:∀s∈b.steps.take mm,s.op=op->∃a,s.args=[a]) (hz:b.sz<=1000000000:=by exact ob):Zo 206 [Yq b,.i mm,.i op,.i x] [] (Yx (.i (W9 op x (b.steps.take mm) 0))):=by
 have hbz:=Ux b
 refine ZE 36 Tryz.func206 (ar (iA (XV b) fun b1=>?_))
 refine Z1 (Y6 (ab 0 (Y0 (fun fz gz m F h=>∃(k:Nat),(k<=mm)/\(W9 op x ((b.steps.take mm).drop k) k=W9 op x (b.steps.take mm) 0)/\F=sF [1,2,3,4] fz [(9,.i k)]/\h=gz/\m=mm-k) _ _ _ ⟨0,ob,(by simp),rfl,rfl,rfl⟩ (wk [0] (Ya fl)) ?_)))
 rintro m F h ⟨k,Yj,Zf,rfl,rfl,rfl⟩
 refine Xd (Y2 ((k:Int)<(mm:Int)) (fun Z9=>?_) (fun Z9=>?_))
 ·refine ak (aq (ab 1 (Zq 3 [0] ?_)))
  obtain ⟨x1,Z3⟩:=Zt b.steps k om
  have hxt:(b.steps.take mm)[k]? = some x1:=by rw [List.getElem?_take_of_lt om];exact Z3
  have hxm:=Y3 hxt
  refine Zs (Zh none (k:Int) 5 (V8 Z3)) (Z0 5 (ib (b:=(x1.op==op)) 23 (fun Zc=>?_) (fun Zc=>?_)))
  ·have Y4:x1.op=op:=(Ze).1 Zc
   refine Zz 3 [0] (Zs (Zh none (k:Int) 5 (V8 Z3)) (Z0 2 ?_))
   obtain ⟨x2,Zu⟩:=Zt x1.args 0 (by obtain ⟨a,ha2⟩:=ha x1 hxm (by assumption);rw [ha2];simp)
   have hg0:=Kz Zu
   refine Zs (Zh none 0 1 (Y8 Zu)) (YB (x2==x) Ze (fun Zj=>?_) (fun Zj=>?_))
   ·exact ar (Zm (ZM (.i k) (li (by have h:=Z3f hxt ⟨by assumption,by rw [hg0];assumption⟩ Zf;omega))))
   exact ak (az (Z0 1 (ZD k (Z1 (ZF ⟨k+1,ob,(Nm hxt (fun z=>Zj (by rw [<-hg0];exact z.2)) Zf),rfl,rfl,rfl⟩ (wk [0] (ZI k fl)))))))
  have Yr:¬(x1.op=op):=Y7 Ze Zc
  exact Z1 (VG (ak (az (Z0 1 (ZD k (Z1 (ZF ⟨k+1,ob,(Nm hxt (fun z=>absurd z.1 (by assumption)) Zf),rfl,rfl,rfl⟩ (wk [0] (ZI k fl)))))))))
 exact ax 0 (ar (Zm (ZM (.i (-1)) (li (by have h:=Z3e (by rw [Wi];omega) Zf;omega)))))
theorem Zfo (b:Z8) (frm0:Nat) (many:Nat) (hm:frm0<=b.steps.length:=by exact ob) (hz:b.sz<=1000000000:=by exact ob):Zo 237 [Yq b,.i frm0,.i many] [] (Yx (.i (Ww many (b.steps.drop frm0) frm0))):=by
 have hbz:=Ux b
 refine ZE 44 Tryz.func237 (ar (iA (XV b) fun b1=>?_))
 refine Z1 (Y6 (ab 0 (Y0 (fun fz gz m F h=>∃(k:Nat),(k<=b.steps.length)/\(Ww many (b.steps.drop k) k=Ww many (b.steps.drop frm0) frm0)/\F=sF [2,3] fz [(7,.i k)]/\h=gz/\m=b.steps.length-k) _ _ _ ⟨frm0,ob,rfl,rfl,rfl,rfl⟩ (wk [0] fl) ?_)))
 rintro m F h ⟨k,Yj,Zf,rfl,rfl,rfl⟩
 refine Ys 3 [0] (iw (UB b.steps) (Y2 ((k:Int)<(b.steps.length:Int)) (fun Z9=>?_) (fun Z9=>?_)))
 ·refine ak (aq (ab 1 (Zq 3 [0] ?_)))
  obtain ⟨x1,Z3⟩:=Zt b.steps k om
  refine Zs (Zh none (k:Int) 5 (V8 Z3)) (X6 16 [2,3,7] [(31,.b ((x1.op==6)&&(x1.into==0)))] (fun gz=>gz) ?_ (fun hj1=>?_))
  ·refine Xp [2,3,7] [(42,.b (((x1.op==6)&&(x1.into==0))&&((x1.args.length:Int)==(many:Int))))] (fun gz=>gz) ?_ ?_
   ·refine Z0 1 (ib (b:=((x1.op==6)&&(x1.into==0))) 32 (fun Zc=>?_) (fun Zc=>?_))
    ·exact Zz 3 [0] (Zs (Zh none (k:Int) 5 (V8 Z3)) (Z0 2 (iw (Yc x1.args) (Z1 (wk [0] (Zl ((x1.args.length:Int)==(many:Int)) Zc fl))))))
    exact Z1 (wk [0] (Zl false Zc fl))
   refine ac (((x1.op==6)&&(x1.into==0))&&((x1.args.length:Int)==(many:Int))) (p:=((x1.op=6)/\(x1.into=0))/\((x1.args.length:Int)=(many:Int))) (Yu (Yu Ze Ze) Ze) (fun Zj=>?_) (fun Zj=>?_)
   ·exact ar (Zm (ZM (.i k) (li (by have h:=Z49 Z3 (show Ks many x1 from ⟨Zj.1,by omega⟩) Zf;omega))))
   exact ak (az (Z0 1 (ZD k (Z1 (ZF ⟨k+1,ob,(Z48 Z3 (fun z=>Zj ⟨z.1,by have:=z.2;omega⟩) Zf),rfl,rfl,rfl⟩ (wk [0] (ZI k fl)))))))
  refine Z0 4 (ib (b:=(x1.op==6)) 23 (fun ZC=>?_) (fun ZC=>?_))
  ·exact Zz 3 [0] (Zs (Zh none (k:Int) 5 (V8 Z3)) (Z0 4 (Y5 (wk [0] (Zl (x1.into==0) ZC fl)) hj1)))
  exact Z0 8 (Y5 (wk [0] (Zl false ZC fl)) hj1)
 exact ax 0 (ar (Zm (ZM (.i (-1)) (li (by have h:=Z47 om Zf;omega)))))
theorem Z4k (b:Z8) (hz:b.sz<=1000000000):Zo 216 [Yq b] [] (fun r h=>∃(v:Hd),r=.agg [.h v,.i b.result]/\h=[rK v 5 (Zg (ZU b.steps))]):=by
 have hbz:=Ux b
 refine ZE 28 Tryz.func216 (ar (iA (XV b) fun b1=>iA [nl,.i 0] fun b2=>ie (ar (ES 5 fun g1=>Zz 3 [2] (iA [nl,.i 0] fun b3=>?_)))))
 refine Zy 0 b3 [.ms g1 0 0 0,.i b.result] (ie (Y6 (ab 0 (Y0 (fun fz gz m F h=>∃(k:Nat) (v:Hd),(k<=b.steps.length)/\F=sF [1,2,3] fz [(4,.i k)]/\h=[.obj b3 [.h v,.i b.result],Zi gz 2,Zi gz 3,rK v 5 (Zg (ZU (b.steps.take k)))]/\m=b.steps.length-k) _ _ _ ⟨0,(⟨some ⟨g1,0,none⟩,0,0⟩:Hd),ob,rfl,rfl,rfl⟩ (wk [0,1,1,0] (Ya fl) (e:=(rc (rc (rc (rr (ls:=[]) ob rz)))))) ?_))))
 rintro m F h ⟨k,v,Yj,rfl,rfl,rfl⟩
 refine Ys 3 [2] (iw (UB b.steps) (Y2 ((k:Int)<(b.steps.length:Int)) (fun Z9=>?_) (fun Z9=>?_)))
 ·refine ak (aq (ab 1 (aE 12 (ZW 7 12 [0,1,2,3,4] [0,2] ?_))))
  obtain ⟨x1,Z3⟩:=Zt b.steps k om
  have hss:=Eb Z3
  exact dx 5 (Zh none (k:Int) 5 (V8 Z3)) (Zp 5 6 [6] (Z7 7 (YH 7 [] [0] [b3] (Zfs x1) (Z7 8 (dL 8 [0] [b3] [X4 x1] 1 5 fun v1=>Yt 3 3 [] [(24,.sl [X4 x1] none)] (Z7 9 (ID 9 4 k [] [] v 5 (Zg (ZU (b.steps.take k))) [X4 x1] none (by rw [Dy,Wi,Uc om]) (J6 rfl) rfl (List.cons_ne_nil _ _) (by simp<;>omega) fun v2=>Zp 1 2 [10] (Z7 11 (X3 11 2 [] [] b3 [.h v2,.i b.result] (de (az (Z0 1 (ZD k (Z1 (ZF ⟨k+1,v2,ob,rfl,rfl,rfl⟩ (wk [0,2,2,0] (ZI k fl) (e:=(rc (rc (rc (rr (ls:=Zg (ZU (b.steps.take k))++Zg [X4 x1]) (Z7d Z3) rz)))))))))))))))))))))
 exact ax 0 (Zq 1 [0] (Zy 1 b2 [.h v,.i b.result] (ie (ZY (r3 [3] [.agg [.h v,.i b.result]] [0] [(b2,b2)] ⟨v,rfl,rfl⟩ (lr _) (eq:=(rr (ls:=Zg (ZU (b.steps.take k))) (by rw [WI om]) rz)))))))
theorem Z4j (b:Z8) (hz:b.sz<=1000000000:=by exact ob) (h0:0<b.steps.length:=by exact ob):Zo 216 [Yq b] [] (fun r h=>∃(g:Nat) (c:Nat),r=.agg [.ms g 0 b.steps.length c,.i b.result]/\h=[.row (.slice (some ⟨g,0,none⟩) b.steps.length c) 5 (Zg (ZU b.steps))]):=(Z4k b hz).form (T:=fun v=>.agg [.h v,.i b.result]) (m:=b.steps.length) (Dy _) om h0
theorem Zg8 (ds:List Zb) (b:Z8) (x:Int) (many:Nat) (hw:wB ds b:=by exact ob) (hx:0<=x/\x<=900000000:=by exact ob) (hz:b.sz<=1000000000:=by exact ob):Zo 204 [Yq b,.i x,.i many] [] (Yx (Yq (VN b x many))):=by
 have hbz:=Ux b
 have ZL:=(Jj b).1 hw
 have hrl:=F4 b.steps
 refine ZE 57 Tryz.func204 (ar (iA (XV b) fun b1=>iA [nl,.i 0] fun b2=>ie (aD 6 (ZW 3 6 [0,1,3] [1,1] (Z7 2 (YH 2 [] [1] [b1] (MD b) (Z7 4 (YH 4 [] [] [] (Z0w b (YX b.steps) 16 x (ha:=(fun s hs h16=>N1 (Ic ZL s (QP hs) (by rw [h16];rfl))))) (Zp 0 1 [5] (de (aD 6 (ZW 3 6 [0,1,3] [1,1] (Z7 2 (YH 2 [] [1] [b1] (MD b) (Z7 4 (YH 4 [] [] [] (Zfo b (YX b.steps) many) (Zp 0 1 [5] (de (Xd (Xp [1,3,6,7,8] [(26,.b ((decide ((W9 16 x (b.steps.take (YX b.steps)) 0)<0))||(decide ((Ww many (b.steps.drop (YX b.steps)) (YX b.steps))<0))))] (fun gz=>gz) ?_ ?_))))))))))))))))))))
 ·refine Z0 3 (ib (b:=(decide ((W9 16 x (b.steps.take (YX b.steps)) 0)<0))) 23 (fun Zc=>?_) (fun Zc=>?_))
  ·exact Z1 (wk [0,0] (Zl true Zc fl))
  exact Z1 (wk [0,0] (Zl (decide ((Ww many (b.steps.drop (YX b.steps)) (YX b.steps))<0)) Zc fl))
 refine ac ((decide ((W9 16 x (b.steps.take (YX b.steps)) 0)<0))||(decide ((Ww many (b.steps.drop (YX b.steps)) (YX b.steps))<0))) (p:=((W9 16 x (b.steps.take (YX b.steps)) 0)<0)∨((Ww many (b.steps.drop (YX b.steps)) (YX b.steps))<0)) (ZO dq dq) (fun Z9=>?_) (fun Z9=>?_)
 ·exact Zq 1 [1] (Zy 0 b2 (XV b) (ie (ZY (r3 [] [Yq b] [0] [(b2,b2)] ⟨rfl,rfl⟩ (Zd.agg (.cons (Zd.sl _ (Yl ZU (Ze7 Z9).symm)) (.cons li .nil)))))))
 obtain ⟨o1,o2,so,o3,o4⟩:=DQ (xs:=b.steps) (x:=x) (fun z=>Z9 (.inl z))
 obtain ⟨p1,p2,sc,p3,p4,p5⟩:=A9 (xs:=b.steps) (many:=many) (fun z=>Z9 (.inr z))
 rw [show Vr b.steps x=(W9 16 x (b.steps.take (YX b.steps)) 0) from rfl] at o1 o2
 rw [show WB b.steps many=(Ww many (b.steps.drop (YX b.steps)) (YX b.steps)) from rfl] at p1 p2
 refine ak (Zq 1 [1] (ic [] (Z4j b) ?_))
 rintro _ _ ⟨g1,c1,rfl,rfl⟩
 exact iA [nl,.i 0] fun b3=>Zy 0 b3 [.ms g1 0 b.steps.length c1,.i b.result] (ie (aD 7 (ZW 3 7 [0,1,2,3] [0] (Z7 4 (YH 4 [] [0] [b3] (C3 17 x) (dx 5 (W6 g1 b.steps.length c1 ((W9 16 x (b.steps.take (YX b.steps)) 0).toNat) 5 (W9 16 x (b.steps.take (YX b.steps)) 0)) (Z7 6 (Ac 6 1 [] [] g1 b.steps.length c1 5 (((W9 16 x (b.steps.take (YX b.steps)) 0).toNat)*5) (Wd (Zx 17 x)) (Zg (ZU b.steps)) (Zg (ZU (b.steps.set (W9 16 x (b.steps.take (YX b.steps)) 0).toNat (Zx 17 x)))) (by have:(Wd (Zx 17 x)).length=5:=rfl;rw [Dy];omega) (OW o3) (de (Zq 3 [1] (Zs (W6 g1 b.steps.length c1 ((Ww many (b.steps.drop (YX b.steps)) (YX b.steps)).toNat) 5 (Ww many (b.steps.drop (YX b.steps)) (YX b.steps))) (Uh (Vo 0 g1 b.steps.length c1 5 (((Ww many (b.steps.drop (YX b.steps)) (YX b.steps)).toNat)*5) (Zg (ZU (b.steps.set (W9 16 x (b.steps.take (YX b.steps)) 0).toNat (Zx 17 x)))) (Wd sc) 189 (X4 sc) (Z7c (Fv Z9 p3))) (iA [.i 0,.i 0,.i 0,nl,nl] fun b4=>Zy 0 b4 (Wd sc) (ie (Zq 8 [2,0,0] (ia ((1+x)) ((1)+(x)) (Zz 5 [0,0] (Zs (W6 g1 b.steps.length c1 ((Ww many (b.steps.drop (YX b.steps)) (YX b.steps)).toNat) 5 (Ww many (b.steps.drop (YX b.steps)) (YX b.steps))) (DF 1 g1 b.steps.length c1 5 (((Ww many (b.steps.drop (YX b.steps)) (YX b.steps)).toNat)*5) [.i sc.op,.i sc.num,.i (1+x),Z4 sc.args,JL sc.kids] (Zg (ZU (b.steps.set (W9 16 x (b.steps.take (YX b.steps)) 0).toNat (Zx 17 x)))) (Zg (ZU ((b.steps.set (W9 16 x (b.steps.take (YX b.steps)) 0).toNat (Zx 17 x)).set (Ww many (b.steps.drop (YX b.steps)) (YX b.steps)).toNat (Ql (1+x) sc)))) (by rw [Dy,VQ];simp only [Yo,YC];omega) (OW (t:=Ql (1+x) sc) (Fv Z9 p3)) (Xn (Uy 0 1 0 (.slice (some ⟨g1,0,none⟩) b.steps.length c1) 5 b3 (ZU ((b.steps.set (W9 16 x (b.steps.take (YX b.steps)) 0).toNat (Zx 17 x)).set (Ww many (b.steps.drop (YX b.steps)) (YX b.steps)).toNat (Ql (1+x) sc))) [.ms g1 0 b.steps.length c1,.i b.result] (XE _) rfl) (ie (Zq 1 [0] (Zy 3 b2 [Xg ((b.steps.set (W9 16 x (b.steps.take (YX b.steps)) 0).toNat (Zx 17 x)).set (Ww many (b.steps.drop (YX b.steps)) (YX b.steps)).toNat (Ql (1+x) sc)) (.slice (some ⟨g1,0,none⟩) b.steps.length c1),.i b.result] (ie (ZY (r3 [] [.agg [Xg ((b.steps.set (W9 16 x (b.steps.take (YX b.steps)) 0).toNat (Zx 17 x)).set (Ww many (b.steps.drop (YX b.steps)) (YX b.steps)).toNat (Ql (1+x) sc)) (.slice (some ⟨g1,0,none⟩) b.steps.length c1),.i b.result]] [0] [(b2,b2)] ⟨rfl,rfl⟩ (Zd.agg (.cons (Zd.sl _ (Yl ZU (Ze8 Z9 p5))) (.cons li .nil)))))))))))))))))))))))))))))
theorem Zg1 (xs:LI) (y:Int) (hl:xs.length<=1000000000:=by exact ob):Zo 129 [Z4 xs,.i y] [] (fun r h=>∃(ys:LI),r=Z4 ys/\h=[]/\(ys.length<=xs.length+1/\∀z,z∈ys↔z∈xs∨z=y)):=by
 refine ZE 49 Tryz.func129 (Y1 (ar (iL (Z6 []) 0 1 fun v1=>?_)))
 refine Z1 (Y1 (Y6 (ab 0 (Y0 (fun fz gz m F h=>∃(k:Nat) (acc:LI) (d:Bool) (v:Value),(k<=xs.length)/\(KR xs y k acc d)/\F=sF [0,1] fz [(5,ZH acc v),(6,.b d),(7,.i k)]/\h=[.tail v 1]/\m=xs.length-k) _ _ _ ⟨0,[],false,v1,ob,(KR.zero xs y),rfl,rfl,rfl⟩ (wk [0] (fw (Ya fl))) ?_))))
 rintro m F h ⟨k,acc,d,v,Yj,Zf,rfl,rfl,rfl⟩
 refine YM 2 (iw (Yc xs) (Y2 ((k:Int)<(xs.length:Int)) (fun Z9=>?_) (fun Z9=>?_)))
 ·obtain ⟨x1,Z3⟩:=Zt xs k om
  have hil:acc.length<=k+1:=V6 Zf.len (by split<;>omega)
  refine ak (aq (ab 1 (Xd (Xp [0,1,5,6,7] [(24,.b ((!d)&&(decide (x1>=y))))] (fun gz=>gz) ?_ ?_))))
  ·refine Z0 3 (ib (b:=(!d)) 17 (fun Zc=>?_) (fun Zc=>?_))
   ·exact Z0 2 (Zs (Zh none (k:Int) 1 (Y8 Z3)) (Z1 (wk [0] (Zl (decide (x1>=y)) Zc fl))))
   exact Z1 (wk [0] (Zl false Zc fl))
  refine Xv (fun fz gz F h=>∃(acc2:LI) (d2:Bool) (w:Value),((acc2=acc/\d2=d)∨(acc2=acc++[y]/\d2=true/\¬d=true)∨(acc2=acc/\d2=true/\x1=y))/\(acc2.length<=acc.length+1)/\F=sF [0,1,7] fz [(5,ZH acc2 w),(6,.b d2)]/\h=[.tail w 1]) ?_ ?_
  ·refine ac ((!d)&&(decide (x1>=y))) (p:=(¬(d=true))/\(x1>=y)) (Yu (Yh Iff.rfl) dq) (fun Zj=>?_) (fun Zj=>?_)
   ·refine YM 2 (Zs (Zh none (k:Int) 1 (Y8 Z3)) (Z1 (Xv (fun fz gz F h=>∃(w3:Value),F=sF [0,1,7] fz [(5,ZH (if x1>y then (acc++[y]) else acc) w3)]/\h=[.tail w3 1]) ?_ ?_)))
    ·refine WA (x1>y) (fun ZA=>?_) (fun ZA=>?_)
     ·exact az (Z0 2 (iL (Z6 [y]) 1 1 fun v2=>ZQ 0 [(33,Z4 [y])] (ip 1 (Z6 (acc++[y])) (Z6 acc) (Z6 [y]) v none 1 (YD _) (YD _) (W2 _) (by simp<;>omega) (by simp [W1,Z6]) fun v3=>Z1 (ZJ ⟨v3,rfl,rfl⟩ (wk [0] (fc (x:=ZH (acc++[y]) v3) (Zd.slh _ (Yl Z6 (by first|rfl|(rw [Zk ZA])|(rw [Za ZA])|(simp [ZA];done)|(rw [Yg];simp [ZA];done)|omega))) fl))))))
     exact ak (ZJ ⟨v,rfl,rfl⟩ (wk [0] (fc (x:=ZH acc v) (Zd.slh _ (Yl Z6 (by first|rfl|(rw [Zk ZA])|(rw [Za ZA])|(simp [ZA];done)|(rw [Yg];simp [ZA];done)|omega))) fl)))
    rintro F h ⟨w3,rfl,rfl⟩
    exact Vv (ZJ ⟨(if x1>y then (acc++[y]) else acc),true,w3,(if h:x1>y then (by rw [Zk h];exact .inr (.inl ⟨rfl,rfl,Zj.1⟩)) else (by rw [Za h];exact .inr (.inr ⟨rfl,rfl,by have:=Zj.2;omega⟩))),(by split<;>simp),rfl,rfl⟩ (wk [0] fl))
   exact ak (ZJ ⟨acc,d,v,(.inl ⟨rfl,rfl⟩),ob,rfl,rfl⟩ (wk [0] fl))
  rintro F h ⟨acc2,d2,w,VD,B8,rfl,rfl⟩
  exact az (Z0 3 (Zs (Zh none (k:Int) 1 (Y8 Z3)) (Z0 1 (iL (Z6 [x1]) 1 1 fun v4=>ZQ 0 [(40,Z4 [x1])] (ip 1 (Z6 (acc2++[x1])) (Z6 acc2) (Z6 [x1]) w none 1 (YD _) (YD _) (W2 _) (by simp<;>omega) (by simp [W1,Z6]) fun v5=>Z1 (az (Z0 1 (ZD k (Z1 (ZF ⟨k+1,(acc2++[x1]),d2,v5,ob,(Zf.go Z3 VD),rfl,rfl,rfl⟩ (wk [0] (fw (ZI k fl)))))))))))))
 have hil:acc.length<=k+1:=V6 Zf.len (by split<;>omega)
 refine ax 0 (Y6 (Xv (fun fz gz F h=>∃(w4:Value),F=sF [] fz [(5,ZH (if d=true then acc else (acc++[y])) w4)]/\h=[.tail w4 1]) ?_ ?_))
 ·refine ac (!d) (p:=¬(d=true)) (Yh Iff.rfl) (fun Yi=>?_) (fun Yi=>?_)
  ·exact az (Z0 2 (iL (Z6 [y]) 1 1 fun v6=>ZQ 0 [(46,Z4 [y])] (ip 1 (Z6 (acc++[y])) (Z6 acc) (Z6 [y]) v none 1 (YD _) (YD _) (W2 _) (by simp<;>omega) (by simp [W1,Z6]) fun v7=>Z1 (ZJ ⟨v7,rfl,rfl⟩ (wk [0] (fc (x:=ZH (acc++[y]) v7) (Zd.slh _ (Yl Z6 (by first|rfl|(rw [Zk Yi])|(rw [Za Yi])|(simp [Yi];done)|(rw [Yg];simp [Yi];done)|omega))) fl))))))
  exact ak (ZJ ⟨v,rfl,rfl⟩ (wk [0] (fc (x:=ZH acc v) (Zd.slh _ (Yl Z6 (by first|rfl|(rw [Zk Yi])|(rw [Za Yi])|(simp [Yi];done)|(rw [Yg];simp [Yi];done)|omega))) fl)))
 rintro F h ⟨w4,rfl,rfl⟩
 exact ar (Zm (r2 [] [ZH (if d=true then acc else (acc++[y])) w4] ⟨(if d=true then acc else (acc++[y])),rfl,rfl,(if hd:d=true then (by rw [Zk hd];exact (Zf.fin om).1 hd) else (by rw [Za hd];exact (Zf.fin om).2 hd))⟩ (Zd.forget _ _)))
theorem Zgb (n:ZG) (s:Z5) (j:Nat) (kept:LI) (kd:Z8) (hn:Xu n) (hws:wS n.decls s) (hkd:s.kids[j]? = some kd) (hnk:K9 kd) (hK:kept.length+s.sz<=900000000) (ih:∀(b2:Z8) (K2:LI),(wB n.decls b2)->(BP b2)->(K2.length+b2.sz<=900000000)->(b2.sz<s.sz)->Zo 158 [YF n,Yq b2,Z4 K2] [] (Yx (Yq (Wu n.decls K2 b2)))):Zo 178 [YF n,X4 s,.i j,Z4 kept] [] (Yx (Yq (Q1 n.decls kept s.op s.num s.args j kd))):=by
 have Xq:=hn.decls
 have hks:=Qm hkd
 have hwk:=MV hws hkd
 have haz:=Jr s
 have hjl:=(Xh.1 hkd).1
 refine ZE 65 Tryz.func178 (ar (iA (X8 n) fun b1=>iA (Wd s) fun b2=>iA [nl,.i 0] fun b3=>ie (Xd (V4 [1] (ac (s.op != 8) Yp (fun Z9=>?_) (fun Z9=>?_))))))
 ·refine aD 9 (ZW 5 9 [0,1,2,3] [2,1] (dx 4 (Zh none (j:Int) 2 (US hkd)) (Zp 2 4 [5,6] (Z7 7 (YH 7 [] [] [] (ih kd kept (by first|exact hwk|exact B8) (by first|exact CP hnk|exact LO) ob ob) (Z7 8 (X3 8 0 [] [] b3 (XV (Wu n.decls kept kd)) (de ?_))))))))
  have hE:=SM (ds:=n.decls) (kept:=kept) (op:=s.op) (num:=s.num) (args:=s.args) (j:=j) (kd:=kd) (fun z=>Z9 z.1)
  exact ZY (r3 [] [Yq (Wu n.decls kept kd)] [0] [(b3,b3)] ⟨rfl,rfl⟩ (Zd.agg (.cons (Zd.sl _ (Yl ZU (by rw [hE]))) (.cons (li (by rw [hE])) .nil))))
 refine ak (Zq 2 [1] ?_)
 obtain ⟨x1,Z3⟩:=Zt s.args 0 (by obtain ⟨⟨a,ha2,_⟩,_⟩:=FK hws om;rw [ha2];simp)
 have hg1:=Kz Z3
 have hxb:0<=x1/\x1<=900000000:=by obtain ⟨⟨a,ha2,ha3⟩,_⟩:=FK hws om;rw [ha2] at hg1;have:a=x1:=hg1;omega
 refine Zs (Zh none 0 1 (Y8 Z3)) (Z1 (Zq 3 [1] (Zs (Zh none (j:Int) 2 (US hkd)) (Z0 1 (iA [nl,.i 0] fun b4=>?_)))))
 refine Zy 0 b4 (XV kd) (ie (YM 2 (Zw [] (UM kept x1) (Z1 (Xv (fun fz gz F h=>∃(B2:Z8) (K2:LI),(Wu n.decls K2 B2=Q1 n.decls kept s.op s.num s.args j kd)/\(wB n.decls B2)/\(BP B2)/\(B2.sz<=kd.sz)/\(K2.length<=kept.length+1)/\F=sF [4,8,10] fz [(3,Z4 K2)]/\h=[.obj b4 (XV B2),Zi gz 1,Zi gz 3]) ?_ ?_)))))
 ·refine ac (!(decide (x1∈kept))) (p:=¬(x1∈kept)) (Yh dq) (fun Zj=>?_) (fun Zj=>?_)
  ·refine aD 16 (ZW 7 16 [0,1,2,3,4,5,6,7,9] [0,3,3,2] (Z7 8 (dc 8 [] [3,0] [b1,b4] (Jd n.decls s.num) ?_)))
   rintro _ _ ⟨v1,rfl,rfl⟩
   obtain ⟨x2,Zu⟩:=Zt (ZZ n.decls s.num) j (by have h:=(FK hws om).2;omega)
   have hfl:(Wy n.decls s.num j).length=(ZP n.decls x2).length:=by rw [Lf (by rw [Jl,Zu];rfl)]
   have hcf:=Vj Xq x2
   refine dx 10 (Zh (some v1) (j:Int) 1 (Y8 Zu)) (Zp 4 5 [11] (Z7 12 (YH 12 [] [0] [b4] (Qr n.decls x2) (dn 13 (.i (((ZP n.decls x2).length:Nat):Int)) (.i (((Z6 (ZP n.decls x2)).length:Nat):Int)) (li (by rw [Yc])) (Z7 14 (YH 14 [] [] [] (Zg8 n.decls kd x1 ((ZP n.decls x2).length) (hw:=hwk) (hx:=hxb)) ?_))))))
   have hwr:=Zib (x:=x1) (many:=(ZP n.decls x2).length) hwk
   have hsr:=Ze5 (x:=x1) (many:=(ZP n.decls x2).length) hwk
   refine Z7 15 (X3 15 1 [] [] b4 (XV (VN kd x1 ((ZP n.decls x2).length))) (de (Zq 1 [0] (Zw [] (MD (VN kd x1 ((ZP n.decls x2).length))) (Z1 (Zq 3 [0] (Zw [] (Z0w (VN kd x1 ((ZP n.decls x2).length)) (YX (VN kd x1 ((ZP n.decls x2).length)).steps) 17 x1 (hm:=(F4 _)) (ha:=(fun s2 hs2 h17=>N1 (Ic ((Jj _).1 hwr) s2 (QP hs2) (by rw [h17];rfl))))) (Y2 ((W9 17 x1 ((VN kd x1 ((ZP n.decls x2).length)).steps.take (YX (VN kd x1 ((ZP n.decls x2).length)).steps)) 0)>=0) (fun ZA=>?_) (fun ZA=>?_)))))))))
   ·refine az (Z0 2 (ic [] (Zg1 kept x1) ?_))
    rintro _ _ ⟨ys1,rfl,rfl,Y4⟩
    have hin:=Y4
    exact Z1 (ZJ ⟨_,_,(Zem om hg1 Zj hfl ((Z1k ((F7 kd).1 hnk)).1 ZA) hin.2),hwr,(Rt hnk),ob,hin.1,rfl,rfl⟩ (wk [0,1,2] (fc (x:=Z4 ys1) (Zd.sl _ (Yl Z6 (by first|rfl|(rw [Zk Zj])|(rw [Za Zj])|(simp [Zj,ZA,Y4];done)|(rw [Yg];simp [Zj,ZA,Y4];done)|omega))) fl)))
   exact ak (ZJ ⟨_,_,(Zen om hg1 Zj hfl (C7 fun z=>ZA ((Z1k ((F7 kd).1 hnk)).2 z))),hwr,(Rt hnk),ob,ob,rfl,rfl⟩ (wk [0,1,2] (fc (x:=Z4 kept) (Zd.sl _ (Yl Z6 (by first|rfl|(rw [Zk Zj])|(rw [Za Zj])|(simp [Zj,ZA];done)|(rw [Yg];simp [Zj,ZA];done)|omega))) fl)))
  exact ak (ZJ ⟨_,_,(SM (fun z=>Zj (hg1▸z.2))),hwk,(CP hnk),ob,ob,rfl,rfl⟩ (wk [0,0,1] (fc (x:=Z4 kept) (Zd.sl _ (Yl Z6 (by first|rfl|(rw [Zk Zj])|(rw [Za Zj])|(simp [Zj];done)|(rw [Yg];simp [Zj];done)|omega))) fl)))
 rintro F h ⟨B2,K2,VD,B8,LO,Ziw,Zix,rfl,rfl⟩
 exact Zq 3 [2,0] (Zw [] (ih B2 K2 (by first|exact hwk|exact B8) (by first|exact CP hnk|exact LO) ob ob) (Zy 1 b3 (XV (Wu n.decls K2 B2)) (ie (ZY (r3 [] [Yq (Wu n.decls K2 B2)] [0] [(b3,b3)] ⟨rfl,rfl⟩ (Zd.agg (.cons (Zd.sl _ (Yl ZU (by rw [VD]))) (.cons (li (by rw [VD])) .nil))))))))
theorem Zga (n:ZG) (b:Z8) (kept:LI) (hn:Xu n) (hw:wB n.decls b) (hn2:BP b) (hK:kept.length+b.sz<=900000000) (ih:∀(s:Z5) (j:Nat) (kept:LI) (kd:Z8),(wS n.decls s)->(s.kids[j]? = some kd)->(K9 kd)->(kept.length+s.sz<=900000000)->(s.sz<b.sz)->Zo 178 [YF n,X4 s,.i j,Z4 kept] [] (Yx (Yq (Q1 n.decls kept s.op s.num s.args j kd)))):Zo 158 [YF n,Yq b,Z4 kept] [] (Yx (Yq (Wu n.decls kept b))):=by
 have Xq:=hn.decls
 have hbz:=Ux b
 refine ZE 61 Tryz.func158 (ar (iA (X8 n) fun b1=>iA (XV b) fun b2=>iA [nl,.i 0] fun b3=>ie (ar (iL (ZU []) 0 5 fun v1=>Zz 3 [2] (iA [nl,.i 0] fun b4=>?_)))))
 refine Zy 0 b4 [Xg [] v1,.i b.result] (ie (Y6 (ab 0 (Y0 (fun fz gz m F h=>∃(k:Nat) (xs:List Z5) (v:Value),(k<=b.steps.length)/\(xs.length=k)/\(xs++U8 n.decls kept (b.steps.drop k)=U8 n.decls kept b.steps)/\F=sF [2,3,4,6,7] fz [(8,.i k)]/\h=[.obj b4 [Xg xs v,.i b.result],Zi gz 2,Zi gz 3,Zi gz 4,.tail v 5]/\m=b.steps.length-k) _ _ _ ⟨0,[],v1,ob,ob,rfl,rfl,rfl,rfl⟩ (wk [0,1,1,1,0] (Ya fl)) ?_))))
 rintro m F h ⟨k,xs,v,Yj,Zf,ZB,rfl,rfl,rfl⟩
 refine Ys 3 [2] (iw (UB b.steps) (Y2 ((k:Int)<(b.steps.length:Int)) (fun Z9=>?_) (fun Z9=>?_)))
 ·refine ak (aq (ab 1 (Zq 3 [2] ?_)))
  obtain ⟨x1,Z3⟩:=Zt b.steps k om
  have XO:=D3 Z3
  have hws:=Z1v hw Z3
  have hkz:=K6 x1
  have haz:=Jr x1
  refine Zs (Zh none (k:Int) 5 (V8 Z3)) (Z0 1 (iA [.i 0,.i 0,.i 0,nl,nl] fun b5=>Zy 0 b5 (Wd x1) (ie (ar (iL (XP []) 0 2 fun v2=>?_)))))
  refine Z1 (Y6 (ab 2 (Y0 (fun fz gz m F h=>∃(j:Nat) (u:Value) (ks:List Z8),(j<=x1.kids.length)/\(ks.length=j)/\(ks++VW n.decls kept x1.op x1.num x1.args (x1.kids.drop j) j=VW n.decls kept x1.op x1.num x1.args x1.kids 0)/\F=sF [2,3,4,6,7,8,9] fz [(10,Qp ks u),(11,.i j)]/\h=[Zi gz 1,Zi gz 2,Zi gz 3,Zi gz 4,Zi gz 5,.tail u 2,Zi gz 6]/\m=x1.kids.length-j) _ _ _ ⟨0,v2,[],ob,ob,(by simp),rfl,rfl,rfl⟩ (wk [1,1,1,1,1,0,0] (fr (Ya fl))) ?_)))
  rintro m F h ⟨j,u,ks,VA,Xs,XT,rfl,rfl,rfl⟩
  refine Ys 3 [0] (iw (Kt x1.kids) (Y2 ((j:Int)<(x1.kids.length:Int)) (fun Zj=>?_) (fun Zj=>?_)))
  ·obtain ⟨kd,hkd⟩:=Zt x1.kids j om
   exact ak (aq (ab 3 (az (Zz 5 [4,0] (Zw [] (ih x1 j kept kd hws hkd (Zc6 hn2 Z3 hkd) ob ob) (iL [Yq (Q1 n.decls kept x1.op x1.num x1.args j kd)] 1 2 fun v3=>ZQ 0 [(42,.sl [Yq (Q1 n.decls kept x1.op x1.num x1.args j kd)] none)] (ip 6 (XP (ks++[Q1 n.decls kept x1.op x1.num x1.args j kd])) (XP ks) [Yq (Q1 n.decls kept x1.op x1.num x1.args j kd)] u none 2 (KX _) (J6 rfl) rfl (by simp<;>omega) (by simp [Cs,QW]) fun v4=>Z1 (az (Z0 1 (ZD j (Z1 (ZF ⟨j+1,v4,(ks++[Q1 n.decls kept x1.op x1.num x1.args j kd]),ob,(by simp;omega),(Zel hkd XT),rfl,rfl,rfl⟩ (wk [2,2,2,2,2,0,1] (fr (ZI j fl)))))))))))))))
  have hK:=Zek om XT
  refine ax 2 (aE 17 (ZW 6 17 [0,1,2,3,4,5,6,7,8,9,11] [1,0,0,0,0] (Z7 10 (dc 10 [] [0,0,0,1] [b5,b5,b5,b4] (WV x1.args) ?_))))
  rintro _ _ ⟨v5,rfl,rfl⟩
  exact Yt 4 5 [12] [(56,.agg [.i x1.op,.i x1.num,.i x1.into,Z4 x1.args,JL ks])] (Z7 13 (dL 13 [1] [b4] [X4 (Z5.mk x1.op x1.num x1.into x1.args ks)] 1 5 fun v6=>Yt 3 3 [] [(57,.sl [X4 (Z5.mk x1.op x1.num x1.into x1.args ks)] none)] (Z7 14 (dp 14 8 [] [] (ZU (xs++[Z5.mk x1.op x1.num x1.into x1.args ks])) (ZU xs) [X4 (Z5.mk x1.op x1.num x1.into x1.args ks)] v none 5 (XE _) (J6 rfl) rfl (by simp<;>omega) (by simp [Vt,U5]) fun v7=>Zp 1 2 [15] (Z7 16 (X3 16 4 [] [] b4 [Xg (xs++[Z5.mk x1.op x1.num x1.into x1.args ks]) v7,.i b.result] (de (az (Z0 1 (ZD k (Z1 (ZF ⟨k+1,(xs++[Z5.mk x1.op x1.num x1.into x1.args ks]),v7,ob,(by simp;omega),(by have h:=Zer Z3 ZB;rw [<-hK] at h;exact h),rfl,rfl,rfl⟩ (wk [0,4,4,4,0] (ZI k fl))))))))))))))
 exact ax 0 (Zq 1 [0] (Zy 1 b3 [Xg xs v,.i b.result] (ie (ZY (r3 [] [.agg [Xg xs v,.i b.result]] [0] [(b3,b3)] ⟨rfl,rfl⟩ (Zd.agg (.cons (Zd.sl _ (Yl ZU (by rw [HA];exact Zeq om ZB))) (.cons (li (by rw [HA];rfl)) .nil))))))))
theorem Zgc (n:ZG) (hn:Xu n) (k:Nat):(∀(s:Z5) (j:Nat) (kept:LI) (kd:Z8),(wS n.decls s)->(s.kids[j]? = some kd)->(K9 kd)->(kept.length+s.sz<=900000000)->(s.sz<=k)->Zo 178 [YF n,X4 s,.i j,Z4 kept] [] (Yx (Yq (Q1 n.decls kept s.op s.num s.args j kd))))/\(∀(b:Z8) (kept:LI),(wB n.decls b)->(BP b)->(kept.length+b.sz<=900000000)->(b.sz<=k)->Zo 158 [YF n,Yq b,Z4 kept] [] (Yx (Yq (Wu n.decls kept b)))):=by
 induction k with
 | zero=>exact ⟨fun s j K kd h1 h2 h3 h4 h5=>by have:=s.sz_pos;omega,fun b K h1 h2 h3 h4=>by have:=b.sz_eq;omega⟩
 | succ k ih=>exact ⟨fun s j K kd h1 h2 h3 h4 h5=>Zgb n s j K kd hn h1 h2 h3 h4 fun b2 K2 q1 q2 q3 q4=>ih.2 b2 K2 q1 q2 q3 om,fun b K h1 h2 h3 h4=>Zga n b K hn h1 h2 h3 fun s j K2 kd q1 q2 q3 q4 q5=>ih.1 s j K2 kd q1 q2 q3 q4 om⟩
theorem Zg9 (n:ZG) (b:Z8) (kept:LI) (hn:Xu n:=by exact ob) (hw:wB n.decls b:=by exact ob) (hn2:BP b:=by exact ob) (hK:kept.length+b.sz<=900000000:=by exact ob):Zo 158 [YF n,Yq b,Z4 kept] [] (Yx (Yq (Wu n.decls kept b))):=(Zgc n hn b.sz).2 b kept hw hn2 hK (X0 _)
theorem Z9a (n:ZG) (hn:Xu n:=by exact ob) (hz:JW n:=by exact ob) (hwb:∀r∈n.routines,wB n.decls r.body):Zo 116 [YF n] [] (Yx (YF (D0 n))):=by
 have hzl:=hn.len
 refine ZE 38 Tryz.func116 (ar (iA (X8 n) fun b1=>iA [nl,nl] fun b2=>ie (Zq 2 [1] (Zw [] (Bf n.decls (hd:=hn.decls)) (iL (X9 []) 0 5 fun v1=>Z0 1 (iA [nl,nl] fun b3=>?_))))))
 refine Zy 0 b3 [Ye n.decls,WT [] v1] (ie (Y6 (ab 0 (Y0 (fun fz gz m F h=>∃(k:Nat) (v:Value),(k<=n.routines.length)/\F=sF [1,2,3] fz [(4,.i k)]/\h=[.obj b3 [Ye n.decls,WT ((n.routines.take k).map (C2 n.decls)) v],Zi gz 2,Zi gz 3,.tail v 5]/\m=n.routines.length-k) _ _ _ ⟨0,v1,ob,rfl,rfl,rfl⟩ (wk [0,1,1,0] (Ya fl)) ?_))))
 rintro m F h ⟨k,v,Yj,rfl,rfl,rfl⟩
 refine Ys 3 [2] (iw (TS n.routines) (Y2 ((k:Int)<(n.routines.length:Int)) (fun Z9=>?_) (fun Z9=>?_)))
 ·refine ak (aq (ab 1 (Zq 3 [2] ?_)))
  obtain ⟨x1,Z3⟩:=Zt n.routines k om
  have hrm:=Y3 Z3
  have hbz:=hz.body _ hrm
  have hpl:=hn.params_at Z3
  have hll:=hn.lent_at Z3
  have hww:=hwb _ hrm
  exact Zs (Zh none (k:Int) 5 (VJ Z3)) (Z0 1 (iA [nl,nl,.i 0,nl,.i 0] fun b4=>Zy 0 b4 (JH x1) (ie (aE 15 (ZW 7 15 [0,1,2,3,4,5,6,7] [1,0,3,0,0] (dw 8 (Yc x1.params) (Z7 9 (YH 9 [] [0,1] [b4,b3] (Zgi n x1.body x1.params.length (hw:=hww)) (Z7 10 (YH 10 [] [1] [b3] (E7 x1 (WU n.decls x1.params.length x1.body)) (Z7 11 (dL 11 [1] [b3] (X9 [YE.mk x1.params x1.lent x1.result (WU n.decls x1.params.length x1.body)]) 1 5 fun v2=>Yt 3 3 [] [(34,JM [YE.mk x1.params x1.lent x1.result (WU n.decls x1.params.length x1.body)])] (Z7 12 (dp 12 5 [] [] (X9 ((n.routines.take (k+1)).map (C2 n.decls))) (X9 ((n.routines.take k).map (C2 n.decls))) (X9 [YE.mk x1.params x1.lent x1.result (WU n.decls x1.params.length x1.body)]) v none 5 (T9 _) (T9 _) (BA _) (by simp<;>omega) (by rw [V5 Z3];simp [X9,C2]) fun v3=>Zp 1 2 [13] (Z7 14 (X3 14 3 [] [] b3 [Ye n.decls,WT ((n.routines.take (k+1)).map (C2 n.decls)) v3] (de (az (Z0 1 (ZD k (Z1 (ZF ⟨k+1,v3,ob,rfl,rfl,rfl⟩ (wk [0,3,3,0] (ZI k fl))))))))))))))))))))))))
 exact ax 0 (Zq 1 [0] (Zy 1 b2 [Ye n.decls,WT ((n.routines.take k).map (C2 n.decls)) v] (ie (ZY (r3 [] [.agg [Ye n.decls,WT ((n.routines.take k).map (C2 n.decls)) v]] [0] [(b2,b2)] ⟨rfl,rfl⟩ (Zd.agg (.cons (Zd.sl _ (Yl YS ob)) (.cons (Zd.sl _ (Yl X9 (by rw [WI om];rfl))) .nil))))))))
theorem Z97 (n:ZG) (hn:Xu n:=by exact ob) (hz:JW n:=by exact ob) (hwb:∀r∈n.routines,wB n.decls r.body) (hnr:∀r∈n.routines,K9 r.body):Zo 117 [YF n] [] (Yx (YF (CZ n))):=by
 have hzl:=hn.len
 refine ZE 38 Tryz.func117 (ar (iA (X8 n) fun b1=>iA [nl,nl] fun b2=>ie (Zq 2 [1] (Zw [] (Bf n.decls (hd:=hn.decls)) (iL (X9 []) 0 5 fun v1=>Z0 1 (iA [nl,nl] fun b3=>?_))))))
 refine Zy 0 b3 [Ye n.decls,WT [] v1] (ie (Y6 (ab 0 (Y0 (fun fz gz m F h=>∃(k:Nat) (v:Value),(k<=n.routines.length)/\F=sF [1,2,3] fz [(4,.i k)]/\h=[.obj b3 [Ye n.decls,WT ((n.routines.take k).map (C0 n.decls)) v],Zi gz 2,Zi gz 3,.tail v 5]/\m=n.routines.length-k) _ _ _ ⟨0,v1,ob,rfl,rfl,rfl⟩ (wk [0,1,1,0] (Ya fl)) ?_))))
 rintro m F h ⟨k,v,Yj,rfl,rfl,rfl⟩
 refine Ys 3 [2] (iw (TS n.routines) (Y2 ((k:Int)<(n.routines.length:Int)) (fun Z9=>?_) (fun Z9=>?_)))
 ·refine ak (aq (ab 1 (aE 21 (ZW 16 21 [0,1,2,3,4] [0,2] ?_))))
  obtain ⟨x1,Z3⟩:=Zt n.routines k om
  have hrm:=Y3 Z3
  have hbz:=hz.body _ hrm
  have hpl:=hn.params_at Z3
  have hll:=hn.lent_at Z3
  have hww:=hwb _ hrm
  exact dx 5 (Zh none (k:Int) 5 (VJ Z3)) (ZW 10 15 [6,7,8,9,10] [2,2] (dx 11 (Zh none (k:Int) 5 (VJ Z3)) (Zp 7 9 [12,13] (Z7 14 (dL 14 [2,2,2,0] [b1,b1,b1,b3] (Z6 []) 0 1 fun v2=>Yt 6 6 [] [(31,Z4 [])] (Z7 15 (YH 15 [] [2,0] [b1,b3] (Zg9 n x1.body [] (hw:=hww) (hn2:=(CP (hnr _ hrm)))) (Z7 16 (YH 16 [] [0] [b3] (E7 x1 (Wu n.decls [] x1.body)) (Z7 17 (dL 17 [0] [b3] (X9 [YE.mk x1.params x1.lent x1.result (Wu n.decls [] x1.body)]) 1 5 fun v3=>Yt 3 3 [] [(34,JM [YE.mk x1.params x1.lent x1.result (Wu n.decls [] x1.body)])] (Z7 18 (dp 18 5 [] [] (X9 ((n.routines.take (k+1)).map (C0 n.decls))) (X9 ((n.routines.take k).map (C0 n.decls))) (X9 [YE.mk x1.params x1.lent x1.result (Wu n.decls [] x1.body)]) v none 5 (T9 _) (T9 _) (BA _) (by simp<;>omega) (by rw [V5 Z3];simp [X9,C0]) fun v4=>Zp 1 2 [19] (Z7 20 (X3 20 3 [] [] b3 [Ye n.decls,WT ((n.routines.take (k+1)).map (C0 n.decls)) v4] (de (az (Z0 1 (ZD k (Z1 (ZF ⟨k+1,v4,ob,rfl,rfl,rfl⟩ (wk [0,3,3,0] (ZI k fl)))))))))))))))))))))))
 exact ax 0 (Zq 1 [0] (Zy 1 b2 [Ye n.decls,WT ((n.routines.take k).map (C0 n.decls)) v] (ie (ZY (r3 [] [.agg [Ye n.decls,WT ((n.routines.take k).map (C0 n.decls)) v]] [0] [(b2,b2)] ⟨rfl,rfl⟩ (Zd.agg (.cons (Zd.sl _ (Yl YS ob)) (.cons (Zd.sl _ (Yl X9 (by rw [WI om];rfl))) .nil))))))))
theorem Z96 (rd:Nat) (bs:LI) (p:Nat) (ZL:∀z∈bs,0<=z/\z<=255) (hp:p+400001<=1000000000:=by exact ob):Zo 147 [.p rd 0] [YI rd bs p] (fun r h=>∃(n:ZG) (p2:Nat),r=YF n/\h=[YI rd bs p2]/\FO n 181 WP/\p<=p2/\p2<=p+400001):=by
 refine ZE 13 Tryz.func147 (ar (iA [nl,nl] fun b1=>ie (Yf 1 (ic [1] (Z8f rd bs p (ZL:=ob)) ?_))))
 rintro _ _ ⟨g1,p21,rfl,rfl,Y4⟩
 have K3:=Y4
 refine ic [] (Z90 g1 (hg:=K3.1)) ?_
 rintro _ _ ⟨n1,rfl,rfl,Yr⟩
 have hnm:=Yr
 refine iA [nl,nl] fun b2=>Zy 0 b2 (X8 n1) (ie (YM 1 (ic [1] (XX rd bs p21 3 (ZL:=ob)) ?_)))
 rintro _ _ ⟨k1,rfl,rfl,YR⟩
 refine YB (k1==0) Ze (fun Z9=>?_) (fun Z9=>?_)
 ·refine Zq 1 [1] (ic [] (Z8q n1 181 (hn:=hnm)) ?_)
  rintro _ _ ⟨n21,rfl,rfl,YV⟩
  have hlm:=YV
  exact Zy 2 b1 (X8 n21) (ie (ZY (r3 [1] [YF n21] [0] [(b1,b1)] ⟨n21,p21+1,rfl,rfl,(by first|exact ⟨hlm,by omega,by omega⟩|exact ⟨hnm,by omega,by omega⟩)⟩ (lr _))))
 exact ak (Zq 1 [1] (Zy 2 b1 (X8 n1) (ie (ZY (r3 [1] [YF n1] [0] [(b1,b1)] ⟨n1,p21+1,rfl,rfl,(by first|exact ⟨hlm,by omega,by omega⟩|exact ⟨hnm,by omega,by omega⟩)⟩ (lr _))))))
theorem Z87 (rd:Nat) (bs:LI) (p:Nat) (ZL:∀z∈bs,0<=z/\z<=255) (hp:p+400002<=1000000000:=by exact ob):Zo 113 [.p rd 0] [YI rd bs p] (fun r h=>∃(n:ZG) (p2:Nat),r=YF n/\h=[YI rd bs p2]/\FO n 814510 Vy/\p<=p2/\p2<=p+400002):=by
 refine ZE 15 Tryz.func113 (ar (iA [nl,nl] fun b1=>ie (Yf 1 (ic [1] (Z96 rd bs p (ZL:=ob)) ?_))))
 rintro _ _ ⟨n1,p21,rfl,rfl,Y4⟩
 have hpf:=Y4
 refine iA [nl,nl] fun b2=>Zy 0 b2 (X8 n1) (ie (Zq 1 [0] (ic [] (Z86 n1 181 (hn:=hpf.1)) ?_)))
 rintro _ _ ⟨n21,rfl,rfl,Yr⟩
 have hcf:=FO.le Yr (show 4500*181+10<=814510 by omega)
 refine iA [nl,nl] fun b3=>Zy 0 b3 (X8 n21) (ie (YM 1 (ic [2] (XX rd bs p21 4 (ZL:=ob)) ?_)))
 rintro _ _ ⟨k1,rfl,rfl,YR⟩
 refine YB (k1==0) Ze (fun Z9=>?_) (fun Z9=>?_)
 ·refine az (Zz 1 [2] (ic [] (Z8j n1 181 (hn:=hpf.1)) ?_))
  rintro _ _ ⟨n22,rfl,rfl,YV⟩
  have hlf:=FO.le YV (show 60*181<=814510 by omega)
  exact Zy 1 b3 (X8 n22) (ie (Zq 1 [0] (Zy 3 b1 (X8 n22) (ie (ZY (r3 [2] [YF n22] [0] [(b1,b1)] ⟨n22,p21+1,rfl,rfl,(by first|exact ⟨hlf,by omega,by omega⟩|exact ⟨hcf,by omega,by omega⟩)⟩ (lr _)))))))
 exact ak (Zq 1 [1] (Zy 3 b1 (X8 n21) (ie (ZY (r3 [1] [YF n21] [0] [(b1,b1)] ⟨n21,p21+1,rfl,rfl,(by first|exact ⟨hlf,by omega,by omega⟩|exact ⟨hcf,by omega,by omega⟩)⟩ (lr _))))))
theorem Lu (rd:Nat) (bs:LI) (p:Nat) (xs:LI) (ZL:∀z∈bs,0<=z/\z<=255) (hp:p+3<=1000000000:=by exact ob) (hl:xs.length<=1000000:=by exact ob):Zo 101 [.p rd 0,Z4 xs] [YI rd bs p] (fun r h=>∃(zs:LI) (p2:Nat),r=Z4 zs/\h=[YI rd bs p2]/\zs.length<=xs.length+1/\p<=p2/\p2<=p+3):=by
 refine ZE 32 Tryz.func101 (Y1 (Yf 1 (ic [] (Bg xs) ?_)))
 rintro _ _ ⟨v1,rfl,rfl⟩
 refine Z1 (YM 1 (Zs (D5 0 v1 xs) (Z0 2 (ib (b:=(decide ((xs.length:Int)>0))) 11 (fun Zc=>?_) (fun Zc=>?_)))))
 ·have Y4:(xs.length:Int)>0:=(dq).1 Zc
  refine Z0 1 (ic [1] (XX rd bs p 2 (ZL:=ob)) ?_)
  rintro _ _ ⟨k1,rfl,rfl,Yr⟩
  refine YB (k1==0) Ze (fun Z9=>?_) (fun Z9=>?_)
  ·refine Yf 3 (Zs (D5 1 v1 xs) (ic [0] (Jx rd bs (p+1) xs.length (ZL:=ob)) ?_))
   rintro _ _ ⟨YU,rfl,rfl,YR⟩
   refine Z0 1 (iL (Z6 [0,1,-1,7,1000,1001]) 6 1 fun v2=>ZQ 0 [(22,Z4 [0,1,-1,7,1000,1001])] (ic [1] (UT rd bs ((p+1)+1) [0,1,-1,7,1000,1001] (ZL:=ob)) ?_))
   rintro _ _ ⟨z1,rfl,rfl,YV⟩
   exact Zs (Ua 2 v1 xs (YU:Int) YU) (LH 2 v1 xs YU z1 (ie (Y1 (G4 4 0 (v:=v1) (xs:=(xs.set YU z1)) (ZY (r2 [1] [ZH (xs.set YU z1) v1.v] ⟨(xs.set YU z1),((p+1)+1)+1,rfl,rfl,⟨by simp,by omega,by omega⟩⟩ (Zd.forget _ _)))))))
  refine ak (Yf 2 (iL (Z6 [0,1,2,-1,1000]) 5 1 fun v3=>ZQ 0 [(28,Z4 [0,1,2,-1,1000])] (ic [1] (UT rd bs (p+1) [0,1,2,-1,1000] (ZL:=ob)) ?_)))
  rintro _ _ ⟨z2,rfl,rfl,Xc⟩
  exact iL (Z6 [z2]) 1 1 fun v4=>ZQ 0 [(30,Z4 [z2])] (B7 3 v1 xs [z2] none fun v5=>Z1 (G4 4 0 (v:=v5) (xs:=(xs++[z2])) (ZY (r2 [2] [ZH (xs++[z2]) v5.v] ⟨(xs++[z2]),(p+1)+1,rfl,rfl,⟨by simp,by omega,by omega⟩⟩ (Zd.forget _ _)))))
 have XK:¬((xs.length:Int)>0):=Y7 dq Zc
 refine Z1 (VG (ak (Yf 2 (iL (Z6 [0,1,2,-1,1000]) 5 1 fun v6=>ZQ 0 [(28,Z4 [0,1,2,-1,1000])] (ic [2] (UT rd bs p [0,1,2,-1,1000] (ZL:=ob)) ?_)))))
 rintro _ _ ⟨z3,rfl,rfl,Wc⟩
 exact iL (Z6 [z3]) 1 1 fun v7=>ZQ 0 [(30,Z4 [z3])] (B7 3 v1 xs [z3] none fun v8=>Z1 (G4 4 0 (v:=v8) (xs:=(xs++[z3])) (ZY (r2 [2] [ZH (xs++[z3]) v8.v] ⟨(xs++[z3]),p+1,rfl,rfl,⟨by simp,by omega,by omega⟩⟩ (Zd.forget _ _)))))
open Go.Proofs
open Go.Proofs
open Go.Proofs
theorem Zg0 (fs:LI) (q:Int) (hl:fs.length<=1000000:=by exact ob) (hq:0<=q/\q<=1000000000:=by exact ob):Zo 146 [Z4 fs,.i q] [] (Yx (Z4 (UF fs q))):=by
 refine ZE 26 Tryz.func146 (Y1 (ar (iL (Z6 []) 0 1 fun v1=>?_)))
 refine Z1 (Y6 (ab 0 (Y0 (fun fz gz m F h=>∃(k:Nat) (acc:LI) (v:Value),(k<=fs.length)/\(acc.length<=k)/\(acc++UF (fs.drop k) (q+k)=UF fs q)/\F=sF [0,1] fz [(5,ZH acc v),(6,.i k)]/\h=[.tail v 1]/\m=fs.length-k) _ _ _ ⟨0,[],v1,ob,ob,(by simp),rfl,rfl,rfl⟩ (wk [0] (fr (Ya fl))) ?_)))
 rintro m F h ⟨k,acc,v,Yj,Zf,ZB,rfl,rfl,rfl⟩
 refine YM 2 (iw (Yc fs) (Y2 ((k:Int)<(fs.length:Int)) (fun Z9=>?_) (fun Z9=>?_)))
 ·refine ak (aq (ab 1 (Yf 2 ?_)))
  obtain ⟨x1,Z3⟩:=Zt fs k om
  refine Zs (Zh none (k:Int) 1 (Y8 Z3)) (Z1 (AO (fun fz gz F h=>∃(w:Value),F=sF [0,1,6] fz [(5,ZH (if x1≠0 then acc++[q+k] else acc) w)]/\h=[.tail w 1]) (fun _ _=>rfl) ?_ ?_))
  ·refine ac (x1 != 0) Yp (fun Zj=>?_) (fun Zj=>?_)
   ·exact az (Z0 3 (ia ((q+(k:Int))) ((q)+((k:Int))) (iL (Z6 [(q+(k:Int))]) 1 1 fun v2=>ZQ 0 [(23,Z4 [(q+(k:Int))])] (ip 1 (Z6 (acc++[(q+(k:Int))])) (Z6 acc) (Z6 [(q+(k:Int))]) v none 1 (YD _) (YD _) (W2 _) (by simp<;>omega) (by simp [W1,Z6]) fun v3=>Z1 (ZJ ⟨v3,rfl,rfl⟩ (wk [0] (fc (x:=ZH (acc++[(q+(k:Int))]) v3) (Zd.slh _ (Yl Z6 (by first|rfl|(rw [Zk Zj])|(rw [Za Zj])|(simp [Zj];done)|(rw [Yg];simp [Zj];done)|omega))) fl)))))))
   exact ak (ZJ ⟨v,rfl,rfl⟩ (wk [0] (fc (x:=ZH acc v) (Zd.slh _ (Yl Z6 (by first|rfl|(rw [Zk Zj])|(rw [Za Zj])|(simp [Zj];done)|(rw [Yg];simp [Zj];done)|omega))) fl)))
  rintro F h ⟨w,rfl,rfl⟩
  exact az (Z0 1 (ZD k (Z1 (ZF ⟨k+1,(if x1≠0 then acc++[q+k] else acc),w,ob,(by split<;>(try simp)<;>omega),(Z9k Z3 ZB),rfl,rfl,rfl⟩ (wk [0] (fr (ZI k fl)))))))
 exact ax 0 (ar (Zm (ZM (ZH acc v) (Zd.sl _ (Yl Z6 (Z9j om ZB))))))
theorem Z0s (mm:Nat) (hl:mm<=4294967296:=by exact ob):Zo 109 [.i 0,.i mm] [] (Yx (Z4 (XG mm))):=by
 refine ZE 20 Tryz.func109 (Y1 (ar (iL (Z6 []) 0 1 fun v1=>?_)))
 refine Z1 (Y6 (ab 0 (Y0 (fun fz gz m F h=>∃(k:Nat) (v:Value),(k<=mm)/\F=sF [0,1] fz [(5,ZH (XG k) v),(6,.i k)]/\h=[.tail v 1]/\m=mm-k) _ _ _ ⟨0,v1,ob,rfl,rfl,rfl⟩ (wk [0] (fc (x:=ZH [] v1) (Zd.slh _ (Yl Z6 rfl)) (Ya fl))) ?_)))
 rintro m F h ⟨k,v,Yj,rfl,rfl,rfl⟩
 refine Xd (Y2 ((k:Int)<(mm:Int)) (fun Z9=>?_) (fun Z9=>?_))
 ·exact ak (aq (ab 1 (az (Z0 3 (ia ((k:Int)) ((0)+((k:Int))) (iL (Z6 [(k:Int)]) 1 1 fun v2=>ZQ 0 [(17,Z4 [(k:Int)])] (ip 1 (Z6 (XG (k+1))) (Z6 (XG k)) (Z6 [(k:Int)]) v none 1 (YD _) (YD _) (W2 _) (by rw [Yc,DO];simp<;>omega) (by rw [Zca,W1]) fun v3=>Z1 (az (Z0 1 (ZD k (Z1 (ZF ⟨k+1,v3,ob,rfl,rfl,rfl⟩ (wk [0] (fr (ZI k fl)))))))))))))))
 exact ax 0 (ar (Zm (ZM (ZH (XG k) v) (Zd.sl _ (Yl Z6 (by rw [show k=mm by omega]))))))
theorem Z11 (xs:LI) (i:Int) (y:Int) (hl_xs:xs.length<=4294967296:=by exact ob) (hi:0<=i/\i<xs.length:=by exact ob):Zo 164 [Z4 xs,.i i,.i y] [] (fun r h=>∃(v:Value),r=ZH (xs.set i.toNat y) v/\h=[.tail v 1]):=by
 refine ZE 15 Tryz.func164 (Y1 (Yf 1 (ic [] (Bg xs) ?_)))
 rintro _ _ ⟨v1,rfl,rfl⟩
 exact Z1 (Yf 3 (Zs (Ua 0 v1 xs i i.toNat (hq:=rfl)) (LH 0 v1 xs i.toNat y (ie (Y1 (G4 6 0 (v:=v1) (xs:=(xs.set i.toNat y)) (ZY (r1 [0] ⟨v1.v,rfl,rfl⟩))))))))
theorem Je (e:Nat) (v:Hd) (c:List Instr) (x:Instr) (hl:c.length<=4200000000:=by exact ob):Zo 111 [.p e 0,T2 x] [.obj e [.h v],rK v 6 (Zg (Y9 c))] (fun r h=>∃(v2:Hd),r=.i c.length/\h=[.obj e [.h v2],rK v2 6 (Zg (Y9 (c++[x])))]):=by
 exact ZE 21 Tryz.func111 (ar (iA (Ve x) fun b1=>Z1 (aD 11 (ZW 5 11 [0,1,2,3,4,5] [1,0] (Z7 6 (dL 6 [1] [e] (Y9 [x]) 1 6 fun v1=>Yt 4 4 [] [(11,K8 [x])] (Z7 7 (ID 7 3 c.length [] [] v 6 (Zg (Y9 c)) (Y9 [x]) none (TD c) (Jw _) (EB _) (by simp [Y9]) (by simp<;>omega) fun v2=>Zp 1 3 [8,9] (Z7 10 (X3 10 3 [] [] e [.h v2] (de (Zq 4 [0] (Zs (LR 1 (c.length+1) v2 6 (Zg (Y9 c)++Zg (Y9 [x])) (by rw [ZX,TD,TD];simp only [Yo,YC];omega)) (ia ((((c.length+1:Nat):Int)-1)) ((((c.length+1:Nat):Int))-(1)) (Zm (r2 [0,0] [.i (((c.length+1:Nat):Int)-1)] ⟨v2,rfl,rfl⟩ li (eq:=(rc (rr (ls:=Zg (Y9 c)++Zg (Y9 [x])) (Z79 c x) rz)))))))))))))))))))
theorem MA (e:Nat) (v:Hd) (c:List Instr) (i:Nat) (hz:Zr c i:=by exact ob) (hl:c.length<=4200000000:=by exact ob):Zo 163 [.p e 0,.i i] [.obj e [.h v],rK v 6 (Zg (Y9 c))] (fun r h=>∃(v2:Hd),h=[.obj e [.h v2],rK v2 6 (Zg (Y9 (VH c i)))]):=by
 have hzl:=hz.lt
 obtain ⟨x,hx,Z3,Zu⟩:=hz
 refine ZE 30 Tryz.func163 (LQ 1 c.length (v:=v) (TD c) om (fun g1 c1 he1=>?_))
 subst he1
 exact Zq 5 [0] (Zs (W6 g1 c.length c1 i 6 (i:Int)) (Uh (Vo 1 g1 c.length c1 6 (i*6) (Zg (Y9 c)) (Ve x) 45 (T2 x) (Lk hx)) (iA [.i 0,.i 0,.i 0,.i 0,nl,nl] fun b1=>Zy 0 b1 (Ve x) (ie (aE 19 (ZW 8 19 [0,1,2,3,4,5,6,7,8,9,10] [1,0,1] (dn 11 (.i c.length) (.i c.length) (lr _) (ZW 2 7 [12,13,14,15,16] [0,0] (dx 17 (W6 g1 c.length c1 i 6 (i:Int)) (Z7 18 (Ac 18 2 [] [] g1 c.length c1 6 (i*6) [.i x.op,.i 0,.i c.length,.i 0,Z4 x.args,Z4 x.jumps] (Zg (Y9 c)) (Zg (Y9 (c.set i ⟨x.op,0,c.length,0,x.args,x.jumps⟩))) (by rw [TD];simp only [Yo,YC];omega) (GG (t:=⟨x.op,0,c.length,0,x.args,x.jumps⟩) hx) (de (r2 [2,0] [] ⟨⟨some ⟨g1,0,none⟩,c.length,c1⟩,rfl⟩ (lr _) (eq:=(rc (rr (ls:=(Zg (Y9 (c.set i ⟨x.op,0,c.length,0,x.args,x.jumps⟩)))) (by rw [Z2n hx Z3 Zu]) rz))))))))))))))))
theorem Zfn (n:ZG) (s:Z5) (mw:Nat) (cons:LI) (first:LI) (e:Nat) (v:Hd) (c:List Instr) (hn:Xu n) (ht:fS n.decls n.routines.length mw s) (hop:s.op=7∨s.op=8) (hcl:cons.length=mw) (hfl:first.length=mw) (hfs:TB first) (hb:mw+4*s.sz<=900000000) (hcn:c.length+16*s.sz<=4000000000) (ih:∀(b2:Z8) (m2:Nat) (cons2:LI) (first2:LI) (e:Nat) (v5:Hd) (c2:List Instr),(fB n.decls n.routines.length m2 b2)->(cons2.length=m2)->(first2.length=m2)->(TB first2)->(m2+4*b2.sz<=900000000)->(c2.length+16*b2.sz<=4000000000)->(b2.sz<s.sz)->Zo 110 [.p e 0,YF n,Yq b2,Z4 cons2,Z4 first2] [.obj e [.h v5],rK v5 6 (Zg (Y9 c2))] (fun r h=>∃(v2:Hd),h=[.obj e [.h v2],rK v2 6 (Zg (Y9 (flB (XN n.decls) n.decls (cons2,first2) b2 c2)))])):Zo 144 [.p e 0,YF n,X4 s,Z4 cons,Z4 first] [.obj e [.h v],rK v 6 (Zg (Y9 c))] (fun r h=>∃(v2:Hd),h=[.obj e [.h v2],rK v2 6 (Zg (Y9 (U7 (XN n.decls) n.decls (cons,first) s c)))]):=by
 have Xq:=hn.decls
 have hf:=(AY s).1 ht
 have hse:=s.sz_eq
 have haz:=Jr s
 have hkz:=K6 s
 have hcp:cons.length<=900000000:=by omega
 refine ZE 208 Tryz.func144 (ar (iA (X8 n) fun b1=>iA (Wd s) fun b2=>ie (Yf 1 (iw (Yc cons) (Z1 (Xd (V4 [0] (ac (s.op==7) Ze (fun Z9=>?_) (fun Z9=>?_)))))))))
 ·obtain ⟨k0,k1,hkk,ht0,ht1⟩:=Z6b hf Z9
  have hbe:YW s.kids=k0.sz+k1.sz:=by rw [hkk];simp [YW]
  have hk0:s.kids[0]? = some k0:=by rw [hkk];rfl
  have hk1:s.kids[1]? = some k1:=by rw [hkk];rfl
  have hs0:=Qm hk0
  have hs1:=Qm hk1
  refine Zq 3 [0] (ic [] (WV s.args) ?_)
  rintro _ _ ⟨v1,rfl,rfl⟩
  refine ZQ 1 [(33,.agg [.i 20,.i 0,.i 0,.i 0,Z4 s.args,.sl [] none])] (ic [3,3] (Je e v c (Instr.mk 20 0 0 0 s.args []) (hl:=WH)) ?_)
  rintro _ _ ⟨v21,rfl,rfl⟩
  refine Z1 (aD 9 (ZW 5 9 [0,1,2,3] [4,3] (dx 4 (Zh none 0 2 (US hk0)) (Zp 1 4 [5,6,7] (Z7 8 (dc 8 [0,0] [] [] (ih k0 _ cons first e v21 (c++[(Instr.mk 20 0 0 0 s.args [])]) (by first|exact ht0|exact ht1|exact hbt) WH WH (by first|exact hfs|exact TB.x hfs om om) WH WH ob) ?_))))))
  rintro _ _ ⟨v22,rfl⟩
  have q1:(flB (XN n.decls) n.decls (cons,first) k0 (c++[(Instr.mk 20 0 0 0 s.args [])])).length+16<=_:=BE (XN n.decls) Xq _ _ _
  simp only [Bs,Cx,Ha,ZX,Yo,YC] at q1
  refine de (Zq 4 [3] (Zs (Zh none 0 2 (US hk0)) (Z0 2 (iL (Z6 [k0.result]) 1 1 fun v2=>ZQ 1 [(52,.agg [.i 18,.i cons.length,.i 0,.i 0,Z4 [k0.result],.sl [] none])] (ic [1,1] (Je e v22 (flB (XN n.decls) n.decls (cons,first) k0 (c++[(Instr.mk 20 0 0 0 s.args [])])) (Instr.mk 18 (cons.length:Int) 0 0 [k0.result] []) (hl:=WH)) ?_)))))
  rintro _ _ ⟨v23,rfl,rfl⟩
  refine ie (ar (ZQ 2 [(55,.agg [.i 22,.i 0,.i 0,.i 0,.sl [] none,.sl [] none])] (ic [0,0] (Je e v23 ((flB (XN n.decls) n.decls (cons,first) k0 (c++[(Instr.mk 20 0 0 0 s.args [])]))++[(Instr.mk 18 (cons.length:Int) 0 0 [k0.result] [])]) (Instr.mk 22 0 0 0 [] []) (hl:=WH)) ?_)))
  rintro _ _ ⟨v24,rfl,rfl⟩
  refine Z1 (Yf 2 (ic [0,0] (MA e v24 (((flB (XN n.decls) n.decls (cons,first) k0 (c++[(Instr.mk 20 0 0 0 s.args [])]))++[(Instr.mk 18 (cons.length:Int) 0 0 [k0.result] [])])++[(Instr.mk 22 0 0 0 [] [])]) c.length (hz:=(by first|exact A7 ei (Y3 hei)|(repeat (first|exact Zr.new rfl rfl|refine Zr.app ?_|refine Zr.flB ?_|refine Zr.aim ?_)))) (hl:=WH)) ?_))
  rintro _ _ ⟨v25,rfl⟩
  refine ie (aD 9 (ZW 5 9 [0,1,2,3] [5,4] (dx 4 (Zh none 1 2 (US hk1)) (Zp 1 4 [5,6,7] (Z7 8 (dc 8 [0,0] [] [] (ih k1 _ cons first e v25 (VH (((flB (XN n.decls) n.decls (cons,first) k0 (c++[(Instr.mk 20 0 0 0 s.args [])]))++[(Instr.mk 18 (cons.length:Int) 0 0 [k0.result] [])])++[(Instr.mk 22 0 0 0 [] [])]) c.length) (by first|exact ht0|exact ht1|exact hbt) WH WH (by first|exact hfs|exact TB.x hfs om om) WH WH ob) ?_))))))
  rintro _ _ ⟨v26,rfl⟩
  have q2:((flB (XN n.decls) n.decls (cons,first) k1 (VH (((flB (XN n.decls) n.decls (cons,first) k0 (c++[(Instr.mk 20 0 0 0 s.args [])]))++[(Instr.mk 18 (cons.length:Int) 0 0 [k0.result] [])])++[(Instr.mk 22 0 0 0 [] [])]) c.length))).length+16<=_:=BE (XN n.decls) Xq _ _ _
  simp only [Bs,Cx,Ha,ZX,Yo,YC] at q2
  refine de (Zq 4 [4] (Zs (Zh none 1 2 (US hk1)) (Z0 2 (iL (Z6 [k1.result]) 1 1 fun v3=>ZQ 1 [(77,.agg [.i 18,.i cons.length,.i 0,.i 0,Z4 [k1.result],.sl [] none])] (ic [1,1] (Je e v26 (flB (XN n.decls) n.decls (cons,first) k1 (VH (((flB (XN n.decls) n.decls (cons,first) k0 (c++[(Instr.mk 20 0 0 0 s.args [])]))++[(Instr.mk 18 (cons.length:Int) 0 0 [k0.result] [])])++[(Instr.mk 22 0 0 0 [] [])]) c.length)) (Instr.mk 18 (cons.length:Int) 0 0 [k1.result] []) (hl:=WH)) ?_)))))
  rintro _ _ ⟨v27,rfl,rfl⟩
  refine ie (Yf 2 (ic [0,0] (MA e v27 ((flB (XN n.decls) n.decls (cons,first) k1 (VH (((flB (XN n.decls) n.decls (cons,first) k0 (c++[(Instr.mk 20 0 0 0 s.args [])]))++[(Instr.mk 18 (cons.length:Int) 0 0 [k0.result] [])])++[(Instr.mk 22 0 0 0 [] [])]) c.length))++[(Instr.mk 18 (cons.length:Int) 0 0 [k1.result] [])]) (((flB (XN n.decls) n.decls (cons,first) k0 (c++[(Instr.mk 20 0 0 0 s.args [])]))++[(Instr.mk 18 (cons.length:Int) 0 0 [k0.result] [])]).length) (hz:=(by first|exact A7 ei (Y3 hei)|(repeat (first|exact Zr.new rfl rfl|refine Zr.app ?_|refine Zr.flB ?_|refine Zr.aim ?_)))) (hl:=WH)) ?_))
  rintro _ _ ⟨v28,rfl⟩
  exact ie (ZY (r2 [0,0] [] ⟨v28,rfl⟩ (lr _) (eq:=(rc (rr (ls:=Zg (Y9 (VH ((flB (XN n.decls) n.decls (cons,first) k1 (VH (((flB (XN n.decls) n.decls (cons,first) k0 (c++[(Instr.mk 20 0 0 0 s.args [])]))++[(Instr.mk 18 (cons.length:Int) 0 0 [k0.result] [])])++[(Instr.mk 22 0 0 0 [] [])]) c.length))++[(Instr.mk 18 (cons.length:Int) 0 0 [k1.result] [])]) (((flB (XN n.decls) n.decls (cons,first) k0 (c++[(Instr.mk 20 0 0 0 s.args [])]))++[(Instr.mk 18 (cons.length:Int) 0 0 [k0.result] [])]).length)))) (by rw [Z6y Z9 hkk];rfl) rz)))))
 have h8:s.op=8:=by omega
 obtain ⟨hkl,hkm⟩:=Z6c hf h8
 obtain ⟨x0,hxl⟩:=OG hf (.inr (.inl h8))
 have Py:s.args[0]? = some x0:=by rw [hxl];rfl
 have hg0:=Kz Py
 have hxb:=hf.args x0 (by rw [hxl];exact Xy.2 rfl)
 have hk3:=DN Xq s.num
 refine ak (Zq 2 [0] (Zs (Zh none 0 1 (Y8 Py)) (Z1 (Zq 4 [1,0] (ic [] (Jd n.decls s.num) ?_)))))
 rintro _ _ ⟨v4,rfl,rfl⟩
 refine Z1 (Zq 4 [1] (iL (Z6 [x0]) 1 1 fun v5=>ZQ 1 [(96,.agg [.i 21,.i 0,.i s.num,.i 0,Z4 [x0],.sl [] none])] (ic [4,4] (Je e v c (Instr.mk 21 0 s.num 0 [x0] []) (hl:=WH)) ?_)))
 rintro _ _ ⟨v29,rfl,rfl⟩
 refine Z1 (ar (iL (Z6 []) 0 1 fun v6=>Z1 (ar (iL (Z6 []) 0 1 fun v7=>?_))))
 refine Z1 (Y6 (ab 0 (Y0 (fun fz gz m F h=>∃(k:Nat) (ts:LI) (u1:Value) (es:List Nat) (u2:Value) (cc:List Instr) (r3:Hd),(k<=s.kids.length)/\(Ud (XN n.decls) n.decls (cons,first) s.num x0 c.length (s.kids.drop k) k cc ts es=U7 (XN n.decls) n.decls (cons,first) s c)/\(∀i∈es,Zr cc i)/\(cc[c.length]? = some (XL 21 0 s.num 0 s.args))/\(cc.length<=c.length+1+16*YW (s.kids.take k))/\(es.length<=k)/\(ts.length=k)/\F=sF [0,3,4,6,7,10,13,14,15] fz [(16,ZH ts u1),(17,ZH (QH es) u2),(18,.i k)]/\h=[.obj e [.h r3],Zi gz 6,Zi gz 7,.tail u1 1,.tail u2 1,Zi gz 5,rK r3 6 (Zg (Y9 cc))]/\m=s.kids.length-k) _ _ _ ⟨0,[],v6,[],v7,(c++[Instr.mk 21 0 s.num 0 [x0] []]),v29,ob,(by rw [Kk,Z6z h8,hg0,hxl];rfl),(fun i hi=>by cases hi),(by rw [hxl];simp [XL]),(by simp [YW]),ob,ob,rfl,rfl,rfl⟩ (wk [2,5,5,1,0,2,0] (fr (fc (x:=ZH [] v7) (Zd.slh _ (Yl Z6 ob)) (Ya fl))) (e:=(rc (rc (rc (rc (rc (rc (rr (ls:=Zg (Y9 (c++[(Instr.mk 21 0 s.num 0 [x0] [])]))) rfl rz))))))))) ?_)))
 rintro m F h ⟨k,ts,u1,es,u2,cc,r3,Yj,Zf,ZB,YL,Wh,QT,NA,rfl,rfl,rfl⟩
 refine YM 2 (io (.i (((ZZ n.decls s.num).length:Nat):Int)) (.i (((Z6 (ZZ n.decls s.num)).length:Nat):Int)) (li (by rw [Yc])) (Y2 ((k:Int)<(((ZZ n.decls s.num).length:Nat):Int)) (fun Zj=>?_) (fun Zj=>?_)))
 ·obtain ⟨xk,hxk⟩:=Zt (ZZ n.decls s.num) k om
  obtain ⟨kb,hkb⟩:=Zt s.kids k om
  obtain ⟨hbt,hgc,hfk⟩:=hkm k kb xk hkb hxk
  have hks:=Qm hkb
  obtain ⟨hkt1,hkt2⟩:=Ny hkb
  have hcf:=Vj Xq xk
  have hfl3:(Wy n.decls s.num k).length=(ZP n.decls xk).length:=by rw [hfk]
  refine ak (aq (ab 1 (Zq 5 [0] (Zs (LR 6 cc.length r3 6 (Zg (Y9 cc)) (TD cc)) (iL (Z6 [(cc.length:Int)]) 1 1 fun v8=>ZQ 0 [(112,Z4 [(cc.length:Int)])] (ip 4 (Z6 (ts++[(cc.length:Int)])) (Z6 ts) (Z6 [(cc.length:Int)]) u1 none 1 (YD _) (YD _) (W2 _) (by simp<;>omega) (by simp [W1,Z6]) fun v9=>?_))))))
  refine Z1 (aD 9 (ZW 5 9 [0,1,2,3] [4] (dx 4 (Zh (some v4) (k:Int) 1 (Y8 hxk)) (Zp 3 4 [5] (Z7 6 (YH 6 [] [] [] (Qr n.decls xk) (dn 7 (.i (((ZP n.decls xk).length:Nat):Int)) (.i (((Z6 (ZP n.decls xk)).length:Nat):Int)) (li (by rw [Yc])) (Zp 0 1 [8] (de (Y6 (ab 2 (Y0 (fun fz gz m F h=>∃(i:Nat) (r4:Hd),(i<=(ZP n.decls xk).length)/\F=sF [0,3,4,6,7,10,13,14,15,16,17,18,19] fz [(20,.i i)]/\h=[.obj e [.h r4],Zi gz 3,Zi gz 4,Zi gz 5,Zi gz 6,Zi gz 0,rK r4 6 (Zg (Y9 (cc++WG cons.length i x0)))]/\m=(ZP n.decls xk).length-i) _ _ _ ⟨0,r3,ob,rfl,rfl,rfl⟩ (wk [2,2,2,2,2,0,1] (Ya fl) (e:=(rc (rc (rc (rc (rc (rc (rr (ls:=Zg (Y9 cc)) (by simp [WG]) rz))))))))) ?_))))))))))))
  rintro m F h ⟨i,r4,VA,rfl,rfl,rfl⟩
  refine Xd (Y2 ((i:Int)<(((ZP n.decls xk).length:Nat):Int)) (fun ZA=>?_) (fun ZA=>?_))
  ·refine ak (aq (ab 3 (az (Z0 3 (ia (((cons.length+i:Nat):Int)) (((cons.length:Int))+((i:Int))) (Z0 2 (iL (Z6 [x0]) 1 1 fun v10=>ZQ 1 [(134,.agg [.i 19,.i (cons.length+i:Nat),.i i,.i 0,Z4 [x0],.sl [] none])] (ic [1,6] (Je e r4 (cc++WG cons.length i x0) (Instr.mk 19 ((cons.length+i:Nat):Int) (i:Int) 0 [x0] []) (hl:=WH)) ?_))))))))
   rintro _ _ ⟨v210,rfl,rfl⟩
   exact ie (az (Z0 1 (ZD i (Z1 (ZF ⟨i+1,v210,ob,rfl,rfl,rfl⟩ (wk [0,2,2,2,2,2,0] (ZI i fl) (e:=(rc (rc (rc (rc (rc (rc (rr (ls:=Zg (Y9 ((cc++WG cons.length i x0)++[(Instr.mk 19 ((cons.length+i:Nat):Int) (i:Int) 0 [x0] [])]))) (by rw [Re,<-XW];rfl) rz))))))))))))))
  have hie:(ZP n.decls xk).length=i:=by omega
  have hA:(XN n.decls).arm (cons,first) x0 s.num k=(cons.set x0.toNat xk++XG (ZP n.decls xk).length,first.set x0.toNat (cons.length:Int)++XG (ZP n.decls xk).length):=by rw [<-hgc];rfl
  refine ax 2 (Yf 1 (Zw [] (Z0s ((ZP n.decls xk).length)) (Z1 (aD 23 (ZW 18 23 [0,1,2,3,4] [2,1] (dx 5 (Zh none (k:Int) 2 (US hkb)) (Zp 12 17 [6,7,8,9,10] (dx 11 (Zh (some v4) (k:Int) 1 (Y8 hxk)) (Zp 5 11 [12,14,16,17,18,20] (Z7 13 (dc 13 [] [1,2] [b2,b1] (Z11 cons x0 xk) ?_)))))))))))
  rintro _ _ ⟨v11,rfl,rfl⟩
  refine Yt 4 4 [] [(151,Z4 (cons.set x0.toNat xk))] (Z7 15 (dc 15 [] [1,2] [b2,b1] (Tz (cons.set x0.toNat xk) (XG ((ZP n.decls xk).length)) (hl:=WH)) ?_))
  rintro _ _ ⟨v12,rfl,rfl⟩
  refine Z7 19 (dc 19 [] [1,2] [b2,b1] (Z11 first x0 (cons.length:Int)) ?_)
  rintro _ _ ⟨v13,rfl,rfl⟩
  refine Yt 2 2 [] [(157,Z4 (first.set x0.toNat (cons.length:Int)))] (Z7 21 (dc 21 [] [1,2] [b2,b1] (Tz (first.set x0.toNat (cons.length:Int)) (XG ((ZP n.decls xk).length)) (hl:=WH)) ?_))
  rintro _ _ ⟨v14,rfl,rfl⟩
  refine Yt 1 1 [] [(153,Z4 ((cons.set x0.toNat xk)++(XG ((ZP n.decls xk).length)))),(159,Z4 ((first.set x0.toNat (cons.length:Int))++(XG ((ZP n.decls xk).length))))] (Z7 22 (dc 22 [4,9] [] [] (ih kb _ ((cons.set x0.toNat xk)++(XG ((ZP n.decls xk).length))) ((first.set x0.toNat (cons.length:Int))++(XG ((ZP n.decls xk).length))) e r4 (cc++WG cons.length i x0) (by first|exact ht0|exact ht1|exact hbt) WH WH (by first|exact hfs|exact TB.x hfs om om) WH WH ob) ?_))
  rintro _ _ ⟨v211,rfl⟩
  have q3:((flB (XN n.decls) n.decls (((cons.set x0.toNat xk)++(XG ((ZP n.decls xk).length))),((first.set x0.toNat (cons.length:Int))++(XG ((ZP n.decls xk).length)))) kb (cc++WG cons.length i x0))).length+16<=_:=BE (XN n.decls) Xq _ _ _
  simp only [Bs,Cx,Ha,ZX,Yo,YC] at q3
  refine de (Zq 5 [6] (Zs (Zh none (k:Int) 2 (US hkb)) (Z0 2 (iL (Z6 [kb.result]) 1 1 fun v15=>ZQ 1 [(170,.agg [.i 18,.i cons.length,.i 0,.i 0,Z4 [kb.result],.sl [] none])] (ic [1,1] (Je e v211 (flB (XN n.decls) n.decls (((cons.set x0.toNat xk)++(XG ((ZP n.decls xk).length))),((first.set x0.toNat (cons.length:Int))++(XG ((ZP n.decls xk).length)))) kb (cc++WG cons.length i x0)) (Instr.mk 18 (cons.length:Int) 0 0 [kb.result] []) (hl:=WH)) ?_)))))
  rintro _ _ ⟨v212,rfl,rfl⟩
  refine ie (Yf 2 (io (.i (((ZZ n.decls s.num).length:Nat):Int)) (.i (((Z6 (ZZ n.decls s.num)).length:Nat):Int)) (li (by rw [Yc])) (ia (((((ZZ n.decls s.num).length:Nat):Int)-1)) (((((ZZ n.decls s.num).length:Nat):Int))-(1)) (Y2 ((k:Int)<((((ZZ n.decls s.num).length:Nat):Int)-1)) (fun Yi=>?_) (fun Yi=>?_)))))
  ·refine ar (ZQ 2 [(178,.agg [.i 22,.i 0,.i 0,.i 0,.sl [] none,.sl [] none])] (ic [0,0] (Je e v212 ((flB (XN n.decls) n.decls (((cons.set x0.toNat xk)++(XG ((ZP n.decls xk).length))),((first.set x0.toNat (cons.length:Int))++(XG ((ZP n.decls xk).length)))) kb (cc++WG cons.length i x0))++[(Instr.mk 18 (cons.length:Int) 0 0 [kb.result] [])]) (Instr.mk 22 0 0 0 [] []) (hl:=WH)) ?_))
   rintro _ _ ⟨v213,rfl,rfl⟩
   exact Z1 (az (Z0 2 (iL (Z6 [((((flB (XN n.decls) n.decls (((cons.set x0.toNat xk)++(XG ((ZP n.decls xk).length))),((first.set x0.toNat (cons.length:Int))++(XG ((ZP n.decls xk).length)))) kb (cc++WG cons.length i x0))++[(Instr.mk 18 (cons.length:Int) 0 0 [kb.result] [])]).length:Nat):Int)]) 1 1 fun v16=>ZQ 0 [(182,Z4 [((((flB (XN n.decls) n.decls (((cons.set x0.toNat xk)++(XG ((ZP n.decls xk).length))),((first.set x0.toNat (cons.length:Int))++(XG ((ZP n.decls xk).length)))) kb (cc++WG cons.length i x0))++[(Instr.mk 18 (cons.length:Int) 0 0 [kb.result] [])]).length:Nat):Int)])] (ip 10 (Z6 ((QH es)++[((((flB (XN n.decls) n.decls (((cons.set x0.toNat xk)++(XG ((ZP n.decls xk).length))),((first.set x0.toNat (cons.length:Int))++(XG ((ZP n.decls xk).length)))) kb (cc++WG cons.length i x0))++[(Instr.mk 18 (cons.length:Int) 0 0 [kb.result] [])]).length:Nat):Int)])) (Z6 (QH es)) (Z6 [((((flB (XN n.decls) n.decls (((cons.set x0.toNat xk)++(XG ((ZP n.decls xk).length))),((first.set x0.toNat (cons.length:Int))++(XG ((ZP n.decls xk).length)))) kb (cc++WG cons.length i x0))++[(Instr.mk 18 (cons.length:Int) 0 0 [kb.result] [])]).length:Nat):Int)]) u2 none 1 (YD _) (YD _) (W2 _) (by simp [Hk]<;>omega) (by simp [W1,Z6]) fun v17=>Z1 (az (Z0 1 (ZD k (Z1 (ZF ⟨k+1,(ts++[(cc.length:Int)]),v9,(es++[((flB (XN n.decls) n.decls (((cons.set x0.toNat xk)++(XG ((ZP n.decls xk).length))),((first.set x0.toNat (cons.length:Int))++(XG ((ZP n.decls xk).length)))) kb (cc++WG cons.length i x0))++[(Instr.mk 18 (cons.length:Int) 0 0 [kb.result] [])]).length]),v17,(((flB (XN n.decls) n.decls (((cons.set x0.toNat xk)++(XG ((ZP n.decls xk).length))),((first.set x0.toNat (cons.length:Int))++(XG ((ZP n.decls xk).length)))) kb (cc++WG cons.length i x0))++[(Instr.mk 18 (cons.length:Int) 0 0 [kb.result] [])])++[(Instr.mk 22 0 0 0 [] [])]),v213,ob,(by have h:=Z6j (X:=XN n.decls) hkb om Zf;rw [hfl3,hie,hA] at h;exact h),(fun j hj=>(Xl.1 hj).elim (fun hj=>(ZB j hj).app.flB.app.app) fun hj=>by rw [Xy.1 hj];exact Zr.new rfl rfl),(EN (EN (Pm (EN YL)))),WH,WH,WH,rfl,rfl,rfl⟩ (wk [2,8,8,9,0,7,1] (fr (fc (x:=ZH ((QH es)++[((((flB (XN n.decls) n.decls (((cons.set x0.toNat xk)++(XG ((ZP n.decls xk).length))),((first.set x0.toNat (cons.length:Int))++(XG ((ZP n.decls xk).length)))) kb (cc++WG cons.length i x0))++[(Instr.mk 18 (cons.length:Int) 0 0 [kb.result] [])]).length:Nat):Int)]) v17) (Zd.slh _ (Yl Z6 (Zce _ _))) (ZI k fl)))))))))))))
  exact ak (az (Z0 1 (ZD k (Z1 (ZF ⟨k+1,(ts++[(cc.length:Int)]),v9,es,u2,((flB (XN n.decls) n.decls (((cons.set x0.toNat xk)++(XG ((ZP n.decls xk).length))),((first.set x0.toNat (cons.length:Int))++(XG ((ZP n.decls xk).length)))) kb (cc++WG cons.length i x0))++[(Instr.mk 18 (cons.length:Int) 0 0 [kb.result] [])]),v212,ob,(by have h:=Z6k (X:=XN n.decls) hkb om Zf;rw [hfl3,hie,hA] at h;exact h),(fun j hj=>(ZB j hj).app.flB.app),(EN (Pm (EN YL))),WH,WH,WH,rfl,rfl,rfl⟩ (wk [0,6,6,8,6,6,0] (fw (ZI k fl))))))))
 have hAe:=Z6i om Zf
 have hbt:YW (s.kids.take k)=YW s.kids:=by rw [WI om]
 have hat:=(Xh.1 YL).1
 rw [hxl] at YL
 refine LQ 6 cc.length (v:=r3) (TD cc) om (fun g1 c1 he1=>?_)
 subst he1
 refine ax 0 (aD 13 (ZW 4 13 [0,1,2,3,4,5,6,7,9] [0,1] (Z7 8 (dL 8 [1,0] [b2,e] (Z6 [x0]) 1 1 fun v18=>?_))))
 refine Zp 2 3 [10] (dx 11 (W6 g1 cc.length c1 c.length 6 (c.length:Int)) (Yt 1 1 [] [(194,.agg [.i 21,.i 0,.i s.num,.i 0,Z4 [x0],Z4 ts])] (Z7 12 (Ac 12 7 [] [] g1 cc.length c1 6 (c.length*6) [.i 21,.i 0,.i s.num,.i 0,Z4 [x0],Z4 ts] (Zg (Y9 cc)) (Zg (Y9 (cc.set c.length ⟨21,0,s.num,0,[x0],ts⟩))) (by rw [TD];simp only [Yo,YC];omega) (GG (t:=⟨21,0,s.num,0,[x0],ts⟩) YL) (de (Y1 (ab 4 (Y0 (fun fz gz m F h=>∃(i2:Nat) (cc2:List Instr) (r5:Hd),(i2<=es.length)/\(TN cc2 (es.drop i2)=U7 (XN n.decls) n.decls (cons,first) s c)/\(∀j∈es,Zr cc2 j)/\(cc2.length=cc.length)/\F=sF [0,17] fz [(23,.i i2)]/\h=[.obj e [.h r5],Zi gz 6,rK r5 6 (Zg (Y9 cc2))]/\m=es.length-i2) _ _ _ ⟨0,(Qg cc c.length ts),(⟨some ⟨g1,0,none⟩,cc.length,c1⟩:Hd),ob,hAe,(fun j hj=>(ZB j hj).fan),(Cx _ _ _),rfl,rfl,rfl⟩ (wk [2,5,0] (Ya fl) (e:=(rc (rc (rr (ls:=(Zg (Y9 (cc.set c.length ⟨21,0,s.num,0,[x0],ts⟩)))) (by rw [Z6f YL]) rz))))) ?_))))))))
 rintro m F h ⟨i2,cc2,r5,Eu,QU,A7,Z3j,rfl,rfl,rfl⟩
 refine YM 2 (io (.i (((QH es).length:Nat):Int)) (.i (((Z6 (QH es)).length:Nat):Int)) (li (by rw [Yc])) (Y2 ((i2:Int)<(((QH es).length:Nat):Int)) (fun YG=>?_) (fun YG=>?_)))
 ·rw [Hk] at YG
  obtain ⟨ei,hei⟩:=Zt es i2 om
  refine ak (aq (ab 5 (az (Z0 3 (Zs (Ea (es:=Z6 (QH es)) (hv:=some u2) (j:=(i2:Int)) (sz:=1) (y:=.i ei) kr om (Y8 (Zcd hei)) rfl) (Z0 1 (ic [0,1] (MA e r5 cc2 ei (hz:=(by first|exact A7 ei (Y3 hei)|(repeat (first|exact Zr.new rfl rfl|refine Zr.app ?_|refine Zr.flB ?_|refine Zr.aim ?_)))) (hl:=WH)) ?_)))))))
  rintro _ _ ⟨v214,rfl⟩
  exact ie (az (Z0 1 (ZD i2 (Z1 (ZF ⟨i2+1,(VH cc2 ei),v214,ob,(Z2p hei QU),(fun j hj=>(A7 j hj).aim),WH,rfl,rfl,rfl⟩ (wk [0,1,0] (ZI i2 fl)))))))
 rw [Hk] at YG
 exact ax 4 (r2 [0,1] [] ⟨r5,rfl⟩ (lr _) (eq:=(rc (rr (ls:=Zg (Y9 cc2)) (by rw [Z2o om QU]) rz))))
theorem Zfw (n:ZG) (b:Z8) (mw:Nat) (cons:LI) (first:LI) (e:Nat) (v:Hd) (c:List Instr) (hn:Xu n) (ht:fB n.decls n.routines.length mw b) (hcl:cons.length=mw) (hfl:first.length=mw) (hfs:TB first) (hb:mw+4*b.sz<=900000000) (hcn:c.length+16*b.sz<=4000000000) (ih:∀(s2:Z5) (m2:Nat) (cons2:LI) (first2:LI) (e:Nat) (v5:Hd) (c2:List Instr),(fS n.decls n.routines.length m2 s2)->(s2.op=7∨s2.op=8)->(cons2.length=m2)->(first2.length=m2)->(TB first2)->(m2+4*s2.sz<=900000000)->(c2.length+16*s2.sz<=4000000000)->(s2.sz<b.sz)->Zo 144 [.p e 0,YF n,X4 s2,Z4 cons2,Z4 first2] [.obj e [.h v5],rK v5 6 (Zg (Y9 c2))] (fun r h=>∃(v2:Hd),h=[.obj e [.h v2],rK v2 6 (Zg (Y9 (U7 (XN n.decls) n.decls (cons2,first2) s2 c2)))])):Zo 110 [.p e 0,YF n,Yq b,Z4 cons,Z4 first] [.obj e [.h v],rK v 6 (Zg (Y9 c))] (fun r h=>∃(v2:Hd),h=[.obj e [.h v2],rK v2 6 (Zg (Y9 (flB (XN n.decls) n.decls (cons,first) b c)))]):=by
 have Xq:=hn.decls
 have hvs:=((KY b).1 ht).1
 have hbz:=Ux b
 have hbe:=b.sz_eq
 refine ZE 97 Tryz.func110 (ar (iA (X8 n) fun b1=>iA (XV b) fun b2=>?_))
 refine ie (Y1 (ab 0 (Y0 (fun fz gz m F h=>∃(k:Nat) (cs:LI) (fs:LI) (cc:List Instr) (r3:Hd),(k<=b.steps.length)/\(mw<=cs.length/\cs.length<=mw+Yw (b.steps.take k))/\(Wa n.decls n.routines.length cs.length (b.steps.drop k))/\(UC (XN n.decls) n.decls (cs,fs) (b.steps.drop k) cc=UC (XN n.decls) n.decls (cons,first) b.steps c)/\(fs.length=cs.length)/\(TB fs)/\(cc.length<=c.length+16*Yw (b.steps.take k))/\F=sF [0,6,7] fz [(3,Z4 cs),(4,Z4 fs),(10,.i k)]/\h=[Zi gz 0,Zi gz 1,.obj e [.h r3],rK r3 6 (Zg (Y9 cc))]/\m=b.steps.length-k) _ _ _ ⟨0,cons,first,c,v,ob,om,(by rw [Kk,hcl];exact hvs),rfl,om,hfs,(by simp),rfl,rfl,rfl⟩ (Zv 4 (fw (Ya fl))) ?_)))
 rintro m F h ⟨k,cs,fs,cc,r3,Yj,Zf,ZB,YL,Wh,QT,NA,rfl,rfl,rfl⟩
 refine Ys 3 [0] (iw (UB b.steps) (Y2 ((k:Int)<(b.steps.length:Int)) (fun Z9=>?_) (fun Z9=>?_)))
 ·refine ak (aq (ab 1 (Zq 3 [0] ?_)))
  obtain ⟨x1,Z3⟩:=Zt b.steps k om
  have XO:=D3 Z3
  have hdr:=Yk Z3
  have c0_2s:=ZB
  rw [hdr] at c0_2s
  obtain ⟨g1,g2⟩:=c0_2s
  have hf:=(AY x1).1 g1
  have hkz:=K6 x1
  have haz:=Jr x1
  have htk:=HP Z3
  have htl:=KN b.steps (k+1)
  have hsp:=x1.sz_pos
  have hdc:=Z6a hf
  have hfl:=OO (XN n.decls) Xq x1 (cs,fs) cc
  refine Zs (Zh none (k:Int) 5 (V8 Z3)) (Z0 1 (iA [.i 0,.i 0,.i 0,nl,nl] fun b3=>?_))
  refine Zy 0 b3 (Wd x1) (ie (Xd (V4 [0] (ab 2 (Y6 (Xv (fun fz gz F h=>F=sF [0,3,4,6,7,10,11,26] fz [(41,.b ((x1.op==7)||(x1.op==8)))]/\h=gz) ?_ ?_))))))
  ·refine ac (x1.op==7) Ze (fun Zj=>?_) (fun Zj=>?_)
   ·exact ak (ZJ ⟨rfl,rfl⟩ (Zv 5 (fc (x:=.b (x1.op==7)) (lb (by first|rfl|(rw [Zk Zj])|(rw [Za Zj])|(simp [Zj];done)|(rw [Yg];simp [Zj];done)|omega)) fl)))
   exact Vv (ZJ ⟨rfl,rfl⟩ (Zv 5 (fc (x:=.b (x1.op==8)) (lb (by first|rfl|(rw [Zk Zj])|(rw [Za Zj])|(simp [Zj];done)|(rw [Yg];simp [Zj];done)|omega)) fl)))
  rintro F h ⟨rfl,rfl⟩
  refine AO (fun fz gz F h=>∃(r4:Hd),F=sF [0,3,4,6,7,10,11] fz []/\h=[Zi gz 0,Zi gz 1,Zi gz 2,.obj e [.h r4],rK r4 6 (Zg (Y9 (U7 (XN n.decls) n.decls (cs,fs) x1 cc)))]) (fun _ _=>rfl) ?_ ?_
  ·refine ac ((x1.op==7)||(x1.op==8)) (p:=(x1.op=7)∨(x1.op=8)) (ZO Ze Ze) (fun ZA=>?_) (fun ZA=>?_)
   ·refine az (Zz 5 [2,0] (ic [3,3] (ih x1 cs.length cs fs e r3 cc g1 ob ob ob QT ob ob ob) ?_))
    rintro _ _ ⟨v21,rfl⟩
    exact ie (ZJ ⟨v21,rfl,rfl⟩ (wk [2,2,2,0,0] fl))
   refine Y6 (Xv (fun fz gz F h=>F=sF [0,3,4,6,7,10,11,26] fz [(50,.b ((x1.op==14)||(x1.op==15)))]/\h=gz) ?_ ?_)
   ·refine ac (x1.op==14) Ze (fun Yi=>?_) (fun Yi=>?_)
    ·exact ak (ZJ ⟨rfl,rfl⟩ (Zv 5 (fc (x:=.b (x1.op==14)) (lb (by first|rfl|(rw [Zk Yi])|(rw [Za Yi])|(simp [Yi];done)|(rw [Yg];simp [Yi];done)|omega)) fl)))
    exact Vv (ZJ ⟨rfl,rfl⟩ (Zv 5 (fc (x:=.b (x1.op==15)) (lb (by first|rfl|(rw [Zk Yi])|(rw [Za Yi])|(simp [Yi];done)|(rw [Yg];simp [Yi];done)|omega)) fl)))
   rintro F h ⟨rfl,rfl⟩
   refine ac ((x1.op==14)||(x1.op==15)) (p:=(x1.op=14)∨(x1.op=15)) (ZO Ze Ze) (fun YG=>?_) (fun YG=>?_)
   ·refine aE 8 (ZW 3 8 [0,1,2,3,4] [0,0] (Z7 5 (dc 5 [] [0] [b3] (WV x1.args) ?_)))
    rintro _ _ ⟨v1,rfl,rfl⟩
    refine Yt 1 2 [6] [(59,.agg [.i x1.op,.i 0,.i 0,.i 0,Z4 x1.args,.sl [] none])] (Z7 7 (dc 7 [4,4] [] [] (Je e r3 cc (Instr.mk x1.op 0 0 0 x1.args []) (hl:=WH)) ?_))
    rintro _ _ ⟨v22,rfl,rfl⟩
    exact de (ZJ ⟨v22,rfl,rfl⟩ (wk [3,3,3,0,0] fl (e:=(rc (rc (rc (rc (rr (ls:=Zg (Y9 (cc++[(Instr.mk x1.op 0 0 0 x1.args [])]))) (by rw [Z6v YG];rfl) rz))))))))
   refine Y6 (Xv (fun fz gz F h=>F=sF [0,3,4,6,7,10,11] fz [(61,.b ((x1.op==16)||(x1.op==17)))]/\h=gz) ?_ ?_)
   ·refine ac (x1.op==16) Ze (fun X2=>?_) (fun X2=>?_)
    ·exact ak (ZJ ⟨rfl,rfl⟩ (Zv 5 (fc (x:=.b (x1.op==16)) (lb (by first|rfl|(rw [Zk X2])|(rw [Za X2])|(simp [X2];done)|(rw [Yg];simp [X2];done)|omega)) fl)))
    exact Vv (ZJ ⟨rfl,rfl⟩ (Zv 5 (fc (x:=.b (x1.op==17)) (lb (by first|rfl|(rw [Zk X2])|(rw [Za X2])|(simp [X2];done)|(rw [Yg];simp [X2];done)|omega)) fl)))
   rintro F h ⟨rfl,rfl⟩
   refine ac ((x1.op==16)||(x1.op==17)) (p:=(x1.op=16)∨(x1.op=17)) (ZO Ze Ze) (fun Wz=>?_) (fun Wz=>?_)
   ·refine Zq 2 [0] ?_
    obtain ⟨x2,Zu⟩:=Zt x1.args 0 (by obtain ⟨a,ha⟩:=OG hf om;rw [ha];simp)
    have hg0:=Kz Zu
    have hra:=hf.args x2 (Y3 Zu)
    refine Zs (Zh none 0 1 (Y8 Zu)) (Z1 (aE 20 (ZW 11 20 [0,1,2,3,4,5,6,7,8] [0,0,2] ?_)))
    obtain ⟨x3,YP⟩:=Zt cs x2.toNat om
    have hg1:=Te YP
    have hcf:=Vj Xq x3
    refine dx 9 (Zh none x2 1 (Y8 YP)) (Zp 7 10 [10,12,13] ?_)
    obtain ⟨x4,WR⟩:=Zt fs x2.toNat om
    have hg2:=Te WR
    have hgf:=QT _ (Y3 WR)
    have hhl:=GM (ZP n.decls x3) x4
    refine dx 14 (Zh none x2 1 (Y8 WR)) (Zp 5 6 [15] (Z7 11 (YH 11 [] [0,0] [b3,b3] (Qr n.decls x3) (Z7 16 (YH 16 [] [0,0] [b3,b3] (Zg0 (ZP n.decls x3) x4) (Z7 17 (dc 17 [] [0] [b3] (Tz x1.args (UF (ZP n.decls x3) x4) (hl:=WH)) ?_)))))))
    rintro _ _ ⟨v2,rfl,rfl⟩
    refine Yt 1 2 [18] [(86,.agg [.i x1.op,.i 0,.i 0,.i 0,Z4 (x1.args++(UF (ZP n.decls x3) x4)),.sl [] none])] (Z7 19 (dc 19 [4,4] [] [] (Je e r3 cc (Instr.mk x1.op 0 0 0 (x1.args++(UF (ZP n.decls x3) x4)) []) (hl:=WH)) ?_))
    rintro _ _ ⟨v23,rfl,rfl⟩
    exact de (ZJ ⟨v23,rfl,rfl⟩ (wk [3,3,3,0,0] fl (e:=(rc (rc (rc (rc (rr (ls:=Zg (Y9 (cc++[(Instr.mk x1.op 0 0 0 (x1.args++(UF (ZP n.decls x3) x4)) [])]))) (by rw [Z70 Wz];show _=Zg (Y9 (cc++[XL _ 0 0 0 (x1.args++UF (ZP n.decls (gI cs (gI x1.args 0))) (gI fs (gI x1.args 0)))]));rw [hg0,hg1,hg2];rfl) rz))))))))
   refine aE 14 (ZW 10 14 [0,1,2,3] [0] (dw 4 (Yc cs) (ZW 3 9 [5,6,7,8,9,10] [0,0,0] (Z7 11 (dc 11 [] [0,0,0] [b3,b3,b3] (WV x1.args) ?_)))))
   rintro _ _ ⟨v3,rfl,rfl⟩
   refine Yt 1 2 [12] [(39,.agg [.i x1.op,.i cs.length,.i x1.num,.i x1.into,Z4 x1.args,.sl [] none])] (Z7 13 (dc 13 [4,4] [] [] (Je e r3 cc (Instr.mk x1.op (cs.length:Int) x1.num x1.into x1.args []) (hl:=WH)) ?_))
   rintro _ _ ⟨v24,rfl,rfl⟩
   exact de (ZJ ⟨v24,rfl,rfl⟩ (wk [3,3,3,0,0] fl (e:=(rc (rc (rc (rc (rr (ls:=Zg (Y9 (cc++[(Instr.mk x1.op (cs.length:Int) x1.num x1.into x1.args [])]))) (by rw [Z6w om om YG Wz];rfl) rz))))))))
  rintro F h ⟨r4,rfl,rfl⟩
  refine Zq 2 [0] (Zw [] (Kg x1.op) (ie (ac (Xf x1.op) Iff.rfl (fun VC=>?_) (fun VC=>?_))))
  ·refine Yf 1 (iL (Z6 [0]) 1 1 fun v4=>ZQ 0 [(92,Z4 [0])] (ic [] (Tz cs [0] (hl:=WH)) ?_))
   rintro _ _ ⟨v5,rfl,rfl⟩
   refine Z1 (az (Z0 1 (iL (Z6 [0]) 1 1 fun v6=>ZQ 0 [(95,Z4 [0])] (ic [] (Tz fs [0] (hl:=WH)) ?_))))
   rintro _ _ ⟨v7,rfl,rfl⟩
   refine Z1 (az (Z0 1 (ZD k (Z1 ?_))))
   have hnc:¬YO x1.op=true:=fun q=>by rw [q,VC] at hdc;cases hdc
   rw [Za hnc] at g2
   exact ZF ⟨k+1,(cs++[0]),(fs++[0]),(U7 (XN n.decls) n.decls (cs,fs) x1 cc),r4,ob,(by rw [ZX,Bk];omega),(by rw [ZX,Bk];exact g2),(by have h:=OT (X:=XN n.decls) Z3 YL;rw [Za hnc] at h;exact h),(by simp [Wh]),QT.snoc,om,rfl,rfl,rfl⟩ (wk [5,5,5,5] (fc (x:=ZH (cs++[0]) v5) (Zd.sl _ (Yl Z6 ob)) (fc (x:=ZH (fs++[0]) v7) (Zd.sl _ (Yl Z6 ob)) (ZI k fl))))
  refine ak (az (Z0 1 (ZD k (Z1 ?_))))
  have hyc:YO x1.op=true:=by cases q:YO x1.op with
   | true=>rfl
   | false=>rw [q] at hdc;exact absurd hdc VC
  rw [Zk hyc] at g2
  exact ZF ⟨k+1,cs,fs,(U7 (XN n.decls) n.decls (cs,fs) x1 cc),r4,ob,om,g2,(by have h:=OT (X:=XN n.decls) Z3 YL;rw [Zk hyc] at h;exact h),ob,ob,om,rfl,rfl,rfl⟩ (wk [1,1,1,1] (fw (ZI k fl)))
 exact ax 0 (r2 [2,2] [] ⟨r3,rfl⟩ (lr _) (eq:=(rc (rr (ls:=Zg (Y9 cc)) (by rw [Z73 om YL,Z6m]) rz))))
theorem Zfx (n:ZG) (hn:Xu n) (k:Nat):(∀(s:Z5) (mw:Nat) (cons:LI) (first:LI) (e:Nat) (v:Hd) (c:List Instr),(fS n.decls n.routines.length mw s)->(s.op=7∨s.op=8)->(cons.length=mw)->(first.length=mw)->(TB first)->(mw+4*s.sz<=900000000)->(c.length+16*s.sz<=4000000000)->(s.sz<=k)->Zo 144 [.p e 0,YF n,X4 s,Z4 cons,Z4 first] [.obj e [.h v],rK v 6 (Zg (Y9 c))] (fun r h=>∃(v2:Hd),h=[.obj e [.h v2],rK v2 6 (Zg (Y9 (U7 (XN n.decls) n.decls (cons,first) s c)))]))/\(∀(b:Z8) (mw:Nat) (cons:LI) (first:LI) (e:Nat) (v:Hd) (c:List Instr),(fB n.decls n.routines.length mw b)->(cons.length=mw)->(first.length=mw)->(TB first)->(mw+4*b.sz<=900000000)->(c.length+16*b.sz<=4000000000)->(b.sz<=k)->Zo 110 [.p e 0,YF n,Yq b,Z4 cons,Z4 first] [.obj e [.h v],rK v 6 (Zg (Y9 c))] (fun r h=>∃(v2:Hd),h=[.obj e [.h v2],rK v2 6 (Zg (Y9 (flB (XN n.decls) n.decls (cons,first) b c)))])):=by
 induction k with
 | zero=>exact ⟨fun s m cons first e v c h1 h2 h3 h4 h5 h6 h7 h8=>by have:=s.sz_pos;omega,fun b m cons first e v c h1 h2 h3 h4 h5 h6 h7=>by have:=b.sz_eq;omega⟩
 | succ k ih=>exact ⟨fun s m cons first e v c h1 h2 h3 h4 h5 h6 h7 h8=>Zfn n s m cons first e v c hn h1 h2 h3 h4 h5 h6 h7 fun b2 m2 c2 f2 e2 v2 i2 q1 q2 q3 q4 q5 q6 q7=>ih.2 b2 m2 c2 f2 e2 v2 i2 q1 q2 q3 q4 q5 q6 om,fun b m cons first e v c h1 h2 h3 h4 h5 h6 h7=>Zfw n b m cons first e v c hn h1 h2 h3 h4 h5 h6 fun s2 m2 c2 f2 e2 v2 i2 q1 q2 q3 q4 q5 q6 q7 q8=>ih.1 s2 m2 c2 f2 e2 v2 i2 q1 q2 q3 q4 q5 q6 q7 om⟩
theorem Zfv (n:ZG) (b:Z8) (mw:Nat) (cons:LI) (first:LI) (e:Nat) (v:Hd) (c:List Instr) (hn:Xu n:=by exact ob) (ht:fB n.decls n.routines.length mw b:=by exact ob) (hcl:cons.length=mw:=by exact ob) (hfl:first.length=mw:=by exact ob) (hfs:TB first:=by exact ob) (hb:mw+4*b.sz<=900000000:=by exact ob) (hcn:c.length+16*b.sz<=4000000000:=by exact ob):Zo 110 [.p e 0,YF n,Yq b,Z4 cons,Z4 first] [.obj e [.h v],rK v 6 (Zg (Y9 c))] (fun r h=>∃(v2:Hd),h=[.obj e [.h v2],rK v2 6 (Zg (Y9 (flB (XN n.decls) n.decls (cons,first) b c)))]):=(Zfx n hn b.sz).2 b mw cons first e v c ht hcl hfl hfs hb hcn (X0 _)
theorem Zg6 (c:List Instr) (p:Nat) (hrg:Rg c:=by exact ob) (hlc:c.length<=1000000000:=by exact ob) (hp:p<=1000000000:=by exact ob):Zo 112 [K8 c,.i p] [] (Yx (.i (max (Up 0 c) (p:Int)))):=by
 refine ZE 45 Tryz.func112 (Y1 (Y1 (Y6 (ab 0 (Y0 (fun fz gz m F h=>∃(k:Nat) (mx:Int),(k<=c.length)/\(0<=mx/\mx<=1000000001)/\(Up mx (c.drop k)=Up (p:Int) c)/\F=sF [0] fz [(5,.i mx),(6,.i k)]/\h=gz/\m=c.length-k) _ _ _ ⟨0,(p:Int),ob,ob,rfl,rfl,rfl,rfl⟩ (wk [] (fr (Ya fl))) ?_)))))
 rintro m F h ⟨k,mx,Yj,Zf,ZB,rfl,rfl,rfl⟩
 refine YM 2 (iw (T8 c) (Y2 ((k:Int)<(c.length:Int)) (fun Z9=>?_) (fun Z9=>?_)))
 ·refine ak (aq (ab 1 (Yf 3 ?_)))
  obtain ⟨x1,Z3⟩:=Zt c k om
  have hrx:=hrg _ (Y3 Z3)
  have hdx:=hrx.dst
  have hlx:=hrx.len
  refine Zs (Zh none (k:Int) 6 (Qw Z3)) (Z0 2 (ia ((x1.dst+1)) ((x1.dst)+(1)) (Zs (GZ mx (x1.dst+1)) (Z1 (Y1 (ab 2 (Y0 (fun fz gz m F h=>∃(j:Nat) (mm:Int),(j<=x1.args.length)/\(0<=mm/\mm<=1000000001)/\((x1.args.drop j).foldl (fun m a=>max m (a+1)) mm=Kc mx x1)/\F=sF [0,6] fz [(5,.i mm),(7,.i j)]/\h=gz/\m=x1.args.length-j) _ _ _ ⟨0,(max mx (x1.dst+1)),ob,ob,rfl,rfl,rfl,rfl⟩ (wk [] (fr (Ya fl))) ?_)))))))
  rintro m F h ⟨j,mm,VA,Xs,XT,rfl,rfl,rfl⟩
  refine YM 3 (Zs (Zh none (k:Int) 6 (Qw Z3)) (Z0 2 (iw (Yc x1.args) (Y2 ((j:Int)<(x1.args.length:Int)) (fun Zj=>?_) (fun Zj=>?_)))))
  ·refine ak (aq (ab 3 (az (Z0 3 (Zs (Zh none (k:Int) 6 (Qw Z3)) (Z0 3 ?_))))))
   obtain ⟨x2,Zu⟩:=Zt x1.args j om
   have hax:=hrx.args x2 (Y3 Zu)
   exact Zs (Zh none (j:Int) 1 (Y8 Zu)) (Z0 1 (ia ((x2+1)) ((x2)+(1)) (Zs (GZ mm (x2+1)) (Z1 (az (Z0 1 (ZD j (Z1 (ZF ⟨j+1,(max mm (x2+1)),ob,ob,(Zbx Zu XT),rfl,rfl,rfl⟩ (wk [] (fr (ZI j fl))))))))))))
  exact ax 2 (az (Z0 1 (ZD k (Z1 (ZF ⟨k+1,mm,ob,ob,(Ze2 Z3 (Zbw om XT) ZB),rfl,rfl,rfl⟩ (wk [] (fr (ZI k fl))))))))
 exact ax 0 (ar (Zm (ZM (.i mx) (li (by rw [<-Ze0];exact Ze1 om ZB)))))
theorem Z8a (n:ZG) (q:Nat) (hF:FN n q:=by exact ob) (hq:q<=10000000:=by exact ob):Zo 70 [YF n] [] (Yx (V7 (Al n))):=by
 have hn:=hF.ok
 have hzl:=hF.len
 have Xq:=hn.decls
 refine ZE 73 Tryz.func70 (ar (iA (X8 n) fun b1=>iA [nl,nl] fun b2=>ie (Zq 2 [1] (Zw [] (Bf n.decls (hd:=hn.decls)) (iL (W5 []) 0 5 fun v1=>Z0 1 (iA [nl,nl] fun b3=>?_))))))
 refine Zy 0 b3 [Ye n.decls,VL [] v1] (ie (Y6 (ab 0 (Y0 (fun fz gz m F h=>∃(k:Nat) (v:Value),(k<=n.routines.length)/\F=sF [1,2,3] fz [(4,.i k)]/\h=[.obj b3 [Ye n.decls,VL ((n.routines.take k).map (BW n.decls)) v],Zi gz 2,Zi gz 3,.tail v 5]/\m=n.routines.length-k) _ _ _ ⟨0,v1,ob,rfl,rfl,rfl⟩ (wk [0,1,1,0] (Ya fl)) ?_))))
 rintro m F h ⟨k,v,Yj,rfl,rfl,rfl⟩
 refine Ys 3 [2] (iw (TS n.routines) (Y2 ((k:Int)<(n.routines.length:Int)) (fun Z9=>?_) (fun Z9=>?_)))
 ·refine ak (aq (ab 1 (Zq 3 [2] ?_)))
  obtain ⟨x1,Z3⟩:=Zt n.routines k om
  have hrm:=Y3 Z3
  have hbz:=hF.body _ hrm
  have hpl:=hn.params_at Z3
  have hll:=hn.lent_at Z3
  have hcg:=NE hF hq _ hrm
  have hfl:=BE (XN n.decls) Xq (x1).body (XG (x1).params.length,XG (x1).params.length) []
  simp only [YC] at hfl
  refine Zs (Zh none (k:Int) 5 (VJ Z3)) (Z0 1 (iA [nl,nl,.i 0,nl,.i 0] fun b4=>Zy 0 b4 (JH x1) (ie (ar (ES 6 fun g1=>Z0 1 (iA [.ms g1 0 0 0] fun b5=>Z1 (Zq 2 [2] (iw (Yc x1.params) (Zw [] (Z0s x1.params.length) (Z1 (Zq 6 [5,2] (ic [0,0] (Zfv n x1.body x1.params.length (XG x1.params.length) (XG x1.params.length) b5 (⟨some ⟨g1,0,none⟩,0,0⟩:Hd) [] (ht:=hbz.1) (hcl:=(DO _)) (hfl:=(DO _)) (hfs:=(Z21 _ om)) (hcn:=(by simp only [YC];omega))) ?_))))))))))))
  rintro _ _ ⟨v21,rfl⟩
  refine ie (Zq 4 [2] (iL (Z6 [x1.body.result]) 1 1 fun v2=>ZQ 1 [(44,.agg [.i 23,.i 0,.i 0,.i 0,Z4 [x1.body.result],.sl [] none])] (ic [1,1] (Je b5 v21 (flB (XN n.decls) n.decls ((XG x1.params.length),(XG x1.params.length)) x1.body []) (Instr.mk 23 0 0 0 [x1.body.result] []) (hl:=om)) ?_)))
  rintro _ _ ⟨v22,rfl,rfl⟩
  refine Xn (HS 1 v22.v 6 (Zg (Y9 ((flB (XN n.decls) n.decls ((XG x1.params.length),(XG x1.params.length)) x1.body [])++[(Instr.mk 23 0 0 0 [x1.body.result] [])]))) (Zg (Y9 (Ui n.decls x1))) (by rfl)) (Xn (Uy 0 0 0 v22.v 6 b5 (Y9 (Ui n.decls x1)) [.h v22] (Jw _) rfl) (ie (aE 27 (ZW 13 27 [0,1,2,3,5,6,8,9,10,11,12,13,14,15] [4,3,3,3,0,3] (dw 16 (Yc x1.params) (ZW 8 12 [18,19,20,21] [0] (Z7 4 (dc 4 [] [0,1,0,1,1,2] [b5,b4,b5,b4,b4,b3] (WV x1.params) ?_))))))))
  rintro _ _ ⟨v3,rfl,rfl⟩
  refine Z7 7 (dc 7 [] [0,1,0,1,2] [b5,b4,b5,b4,b3] (WV x1.lent) ?_)
  rintro _ _ ⟨v4,rfl,rfl⟩
  exact Yt 6 6 [] [(59,K8 (Ui n.decls x1))] (Z7 17 (YH 17 [] [0,1,2] [b5,b4,b3] (Zg6 (Ui n.decls x1) x1.params.length (hrg:=hcg.1)) (Yt 4 5 [22] [(68,.agg [Z4 x1.params,Z4 x1.lent,.i x1.result,.i (max (Up 0 (Ui n.decls x1)) (x1.params.length:Int)),K8 (Ui n.decls x1)])] (Z7 23 (dL 23 [2] [b3] (W5 [(ZT.mk x1.params x1.lent x1.result (max (Up 0 (Ui n.decls x1)) (x1.params.length:Int)) (Ui n.decls x1))]) 1 5 fun v5=>Yt 3 3 [] [(69,He [(ZT.mk x1.params x1.lent x1.result (max (Up 0 (Ui n.decls x1)) (x1.params.length:Int)) (Ui n.decls x1))])] (Z7 24 (dp 24 10 [] [] (W5 ((n.routines.take (k+1)).map (BW n.decls))) (W5 ((n.routines.take k).map (BW n.decls))) (W5 [(ZT.mk x1.params x1.lent x1.result (max (Up 0 (Ui n.decls x1)) (x1.params.length:Int)) (Ui n.decls x1))]) v none 5 (Kv _) (Kv _) (IX _) (by simp<;>omega) (by rw [V5 Z3];simp [W5,BW]) fun v6=>Zp 1 2 [25] (Z7 26 (X3 26 8 [] [] b3 [Ye n.decls,VL ((n.routines.take (k+1)).map (BW n.decls)) v6] (de (az (Z0 1 (ZD k (Z1 (ZF ⟨k+1,v6,ob,rfl,rfl,rfl⟩ (wk [0,8,8,0] (ZI k fl)))))))))))))))))
 exact ax 0 (Zq 1 [0] (Zy 1 b2 [Ye n.decls,VL ((n.routines.take k).map (BW n.decls)) v] (ie (ZY (r3 [] [.agg [Ye n.decls,VL ((n.routines.take k).map (BW n.decls)) v]] [0] [(b2,b2)] ⟨rfl,rfl⟩ (Zd.agg (.cons (Zd.sl _ (Yl YS rfl)) (.cons (Zd.sl _ (Yl W5 (by rw [WI om];rfl))) .nil))))))))
theorem Z7n (rd:Nat) (bs:LI) (p:Nat) (ZL:∀z∈bs,0<=z/\z<=255) (hp:p+400030<=1000000000:=by exact ob):Zo 71 [.p rd 0] [YI rd bs p] (fun r h=>∃(n:ZG) (p2:Nat),r=YF n/\h=[YI rd bs p2]/\FN n 7330630/\p<=p2/\p2<=p+400030):=by
 refine ZE 35 Tryz.func71 (ar (iA [nl,nl] fun b1=>ie (Yf 1 (ic [1] (Z87 rd bs p (ZL:=ob)) ?_))))
 rintro _ _ ⟨n1,p21,rfl,rfl,Y4⟩
 have hcf:=FO.le Y4.1 (show 814510<=814514 by omega)
 have hcp:=Y4
 refine iA [nl,nl] fun b2=>Zy 0 b2 (X8 n1) (ie (YM 1 (ic [1] (XX rd bs p21 4 (ZL:=ob)) ?_)))
 rintro _ _ ⟨k1,rfl,rfl,Yr⟩
 refine Z1 (Xv (fun fz gz F h=>∃(na:ZG) (pa:Nat),(FO na 814514 Vy)/\(p<=pa/\pa<=p+400010)/\F=sF [0,2,3] fz []/\h=[YI rd bs pa,.obj b2 (X8 na),Zi gz 2]) ?_ ?_)
 ·refine ac (k1==0) Ze (fun Z9=>?_) (fun Z9=>?_)
  ·refine az (Zz 2 [1] (ic [0] (Pc rd bs (p21+1) n1 (ZL:=ob) (hz:=(by first|exact (FO.zn hcp.1).sz om|exact J4.sz om)) (hl1:=(by first|(have:=hcp.1.fn.len;omega)|(have:=J4.len;omega)))) ?_))
   rintro _ _ ⟨n21,p22,rfl,rfl,YR⟩
   have hho:=YR
   exact Zy 1 b2 (X8 n21) (ie (ZJ ⟨n21,p22,(FO.held hcp.1 hho.1),ob,rfl,rfl⟩ (wk [1,0,0] fl)))
  exact ak (ZJ ⟨n1,p21+1,hcf,ob,rfl,rfl⟩ (Zv 3 fl))
 rintro F h ⟨na,pa,J3,LN,rfl,rfl⟩
 refine YM 1 (ic [0] (XX rd bs pa 4 (ZL:=ob)) ?_)
 rintro _ _ ⟨k2,rfl,rfl,YV⟩
 refine Z1 (Xv (fun fz gz F h=>∃(nb:ZG) (pb:Nat),(FO nb 814514 Vy)/\(p<=pb/\pb<=p+400012)/\F=sF [0,2,3] fz []/\h=[YI rd bs pb,.obj b2 (X8 nb),Zi gz 2]) ?_ ?_)
 ·refine ac (k2==0) Ze (fun Zj=>?_) (fun Zj=>?_)
  ·refine az (Zz 1 [1] (ic [] (Z7v na 814514 (hn:=J3)) ?_))
   rintro _ _ ⟨n22,rfl,rfl,Xc⟩
   have hca:=Xc
   exact Zy 1 b2 (X8 n22) (ie (ZJ ⟨n22,pa+1,hca,ob,rfl,rfl⟩ (wk [1,0,0] fl)))
  exact ak (ZJ ⟨na,pa+1,J3,ob,rfl,rfl⟩ (Zv 3 fl))
 rintro F h ⟨nb,pb,VD,B8,rfl,rfl⟩
 refine Yf 1 (ic [0] (XX rd bs pb 3 (ZL:=ob)) ?_)
 rintro _ _ ⟨k3,rfl,rfl,XK⟩
 refine Z1 (Y6 (Xv (fun fz gz F h=>∃(nc:ZG) (pc:Nat),(ZN nc 7330626)/\(FN nc 7330626)/\(k3>1->WN nc 7330626)/\(p<=pc/\pc<=p+400014)/\F=sF [0,2,3,4] fz []/\h=[YI rd bs pc,.obj b2 (X8 nc),Zi gz 2]) ?_ ?_))
 ·refine WA (k3>0) (fun ZA=>?_) (fun ZA=>?_)
  ·exact az (Zz 1 [1] (Zw [] (Z9a nb (hn:=VD.fn.ok) (hz:=(VD.zn.sz om)) (hwb:=(fun r hr=>(VD.wl om r hr).w))) (Zy 1 b2 (X8 (D0 nb)) (ie (ZJ ⟨(D0 nb),pb+1,((VD.wn om).sp.zn),(VD.fn.sp ((VD.wn om).sp.zn)),(fun _=>(VD.wn om).sp),ob,rfl,rfl⟩ (wk [1,0,0] fl))))))
  exact ak (ZJ ⟨nb,pb+1,(VD.zn.le om),(VD.fn.le om),(fun h=>by omega),ob,rfl,rfl⟩ (Zv 3 fl))
 rintro F h ⟨nc,pc,EY,LP,DI,Ziy,rfl,rfl⟩
 refine Y6 (Xv (fun fz gz F h=>∃(nd:ZG) (pd:Nat),(ZN nd 7330626)/\(FN nd 7330626)/\(p<=pd/\pd<=p+400014)/\F=sF [0,2,3] fz []/\h=[YI rd bs pd,.obj b2 (X8 nd),Zi gz 2]) ?_ ?_)
 ·refine WA (k3>1) (fun Yi=>?_) (fun Yi=>?_)
  ·exact az (Zz 1 [1] (Zw [] (Z97 nc (hn:=(DI (by assumption)).ok) (hz:=(EY.sz om)) (hwb:=(fun r hr=>((DI (by assumption)).wl r hr).w)) (hnr:=(fun r hr=>((DI (by assumption)).wl r hr).nr))) (Zy 1 b2 (X8 (CZ nc)) (ie (ZJ ⟨(CZ nc),pc,(DI (by assumption)).ru,(LP.ru (DI (by assumption)).ru),ob,rfl,rfl⟩ (wk [1,0,0] fl))))))
  exact ak (ZJ ⟨nc,pc,EY,LP,ob,rfl,rfl⟩ (Zv 3 fl))
 rintro F h ⟨nd,pd,J4,EZ,Ziz,rfl,rfl⟩
 refine YM 1 (ic [0] (XX rd bs pd 6 (ZL:=ob)) ?_)
 rintro _ _ ⟨k4,rfl,rfl,Wc⟩
 refine YB (k4==0) Ze (fun YG=>?_) (fun YG=>?_)
 ·refine az (Zz 2 [1] (ic [0] (Pc rd bs (pd+1) nd (ZL:=ob) (hz:=(by first|exact (FO.zn hcp.1).sz om|exact J4.sz om)) (hl1:=(by first|(have:=hcp.1.fn.len;omega)|(have:=J4.len;omega)))) ?_))
  rintro _ _ ⟨n23,p23,rfl,rfl,WF⟩
  have hho:=WF
  exact Zy 1 b2 (X8 n23) (ie (Zq 1 [0] (Zy 2 b1 (X8 n23) (ie (ZY (r3 [2] [YF n23] [0] [(b1,b1)] ⟨n23,p23,rfl,rfl,(by first|exact ⟨EZ.held hho.1 (J4.held hho.1),by omega,by omega⟩|exact ⟨EZ.le om,by omega,by omega⟩)⟩ (lr _)))))))
 exact ak (Zq 1 [1] (Zy 2 b1 (X8 nd) (ie (ZY (r3 [1] [YF nd] [0] [(b1,b1)] ⟨nd,pd+1,rfl,rfl,(by first|exact ⟨EZ.held hho.1 (J4.held hho.1),by omega,by omega⟩|exact ⟨EZ.le om,by omega,by omega⟩)⟩ (lr _))))))
theorem Zg7 (c:List Instr) (k:Nat) (reg:Int) (hf:fwd c:=by exact ob) (ha:∀x∈c,x.op=18∨x.op=23->x.args≠[]) (hn:∀x∈c,x.num<=200000000) (hl:c.length<=200000000:=by exact ob) (hk:k<=1000000000:=by exact ob):Zo 159 [K8 c,.i k,.i reg] [] (Yx (.b (Th c k reg))):=by
 refine ZE 47 Tryz.func159 (Y1 (aq (ab 0 (Y0 (fun fz gz m F h=>∃(j:Nat) (rg:Int),(j<=1000000000)/\(Th c j rg=Th c k reg)/\F=sF [0] fz [(1,.i j),(2,.i rg)]/\h=gz/\m=c.length-j) _ _ _ ⟨k,reg,ob,rfl,rfl,rfl,rfl⟩ (wk [] fl) ?_))))
 rintro m F h ⟨j,rg,Yj,Zf,rfl,rfl,rfl⟩
 refine YM 2 (iw (T8 c) (Y2 ((j:Int)<(c.length:Int)) (fun Z9=>?_) (fun Z9=>?_)))
 ·refine ak (ab 1 (Yf 2 ?_))
  obtain ⟨x1,Z3⟩:=Zt c j om
  have hxm:=Y3 Z3
  have hja:=fun z=>hf j _ Z3 z
  have hnx:=hn _ hxm
  refine Zs (Zh none (j:Int) 6 (Qw Z3)) (Z0 1 (iA [.i 0,.i 0,.i 0,.i 0,nl,nl] fun b1=>Zy 0 b1 (Ve x1) (ie (Zq 4 [0] (ib (b:=(x1.op==18)) 19 (fun Zc=>?_) (fun Zc=>?_))))))
  ·have Y4:x1.op=18:=(Ze).1 Zc
   refine Zz 2 [0] ?_
   obtain ⟨x2,Zu⟩:=Zt x1.args 0 (C9.2 (ha _ hxm (.inl (by assumption))))
   have hg:=Kz Zu
   refine Zs (Zh none 0 1 (Y8 Zu)) (YB (x2==rg) Ze (fun Zj=>?_) (fun Zj=>?_))
   ·exact Qz [0] (az (Z0 1 (ZD j (Z1 (ZF ⟨j+1,x1.dst,om,((Zej hf Z3 ⟨Y4,by rw [hg];assumption⟩).trans Zf),rfl,rfl,rfl⟩ (wk [] (ZI j fl)))))))
   refine Qz [0] (ac (x1.op==22) Ze (fun ZA=>?_) (fun ZA=>?_))
   ·exact az (V4 [0] (⟨_,_,_,(by have:=hja (by assumption);omega),⟨x1.num.toNat,rg,(by first|omega|(have:=hja (by assumption);omega)),((SJ hf Z3 (by assumption)).trans Zf),rfl,rfl,rfl⟩,(wk [] (fc (x:=.i x1.num) (li (by have:=hja (by assumption);omega)) fl))⟩))
   refine ar (X6 11 [] [(46,.b ((x1.op==23)&&(x2==rg)))] (fun gz=>gz) ?_ (fun hj1=>?_))
   ·exact Zm (ZM (.b ((x1.op==23)&&(x2==rg))) (lb (by first|exact (Zf▸Hy om)|(rw [<-Zf,<-BZ Z3 (fun z=>by simp_all) (by assumption)];simp_all;done)|(rw [<-Zf,<-BZ Z3 (fun z=>by simp_all) (by assumption)];simp_all;rw [Yg];simp))))
   refine Zz 4 [0] (ib (b:=(x1.op==23)) 39 (fun ZC=>?_) (fun ZC=>?_))
   ·have Yr:x1.op=23:=(Ze).1 ZC
    exact Zz 2 [0] (Zs (Zh none 0 1 (Y8 Zu)) (Z0 4 (Y5 (wk [0] (Zl (x2==rg) ZC fl)) hj1)))
   have YR:¬(x1.op=23):=Y7 Ze ZC
   exact Z0 7 (Y5 (wk [0] (Zl false ZC fl)) hj1)
  have YV:¬(x1.op=18):=Y7 Ze Zc
  refine Z1 (VG (Qz [0] (ac (x1.op==22) Ze (fun Yi=>?_) (fun Yi=>?_))))
  ·exact az (V4 [0] (⟨_,_,_,(by have:=hja (by assumption);omega),⟨x1.num.toNat,rg,(by first|omega|(have:=hja (by assumption);omega)),((SJ hf Z3 (by assumption)).trans Zf),rfl,rfl,rfl⟩,(wk [] (fc (x:=.i x1.num) (li (by have:=hja (by assumption);omega)) fl))⟩))
  refine Zq 4 [0] (ib (b:=(x1.op==23)) 39 (fun Yn=>?_) (fun Yn=>?_))
  ·have Xc:x1.op=23:=(Ze).1 Yn
   refine Zz 2 [0] ?_
   obtain ⟨x3,YP⟩:=Zt x1.args 0 (C9.2 (ha _ hxm (.inr (by assumption))))
   have hg:=Kz YP
   exact Zs (Zh none 0 1 (Y8 YP)) (Zm (ZM (.b (x3==rg)) (lb (by first|exact (Zf▸Hy om)|(rw [<-Zf,<-BZ Z3 (fun z=>by simp_all) (by assumption)];simp_all;done)|(rw [<-Zf,<-BZ Z3 (fun z=>by simp_all) (by assumption)];simp_all;rw [Yg];simp)))))
  have XK:¬(x1.op=23):=Y7 Ze Yn
  exact Zm (ZM (.b false) (lb (by first|exact (Zf▸Hy om)|(rw [<-Zf,<-BZ Z3 (fun z=>by simp_all) (by assumption)];simp_all;done)|(rw [<-Zf,<-BZ Z3 (fun z=>by simp_all) (by assumption)];simp_all;rw [Yg];simp))))
 exact ax 0 (ar (Zm (ZM (.b false) (lb (by first|exact (Zf▸Hy om)|(rw [<-Zf,<-BZ Z3 (fun z=>by simp_all) (by assumption)];simp_all;done)|(rw [<-Zf,<-BZ Z3 (fun z=>by simp_all) (by assumption)];simp_all;rw [Yg];simp))))))
theorem MB (x:Instr) (h1:x.args.length<=1000000:=by exact ob) (h2:x.jumps.length<=1000000:=by exact ob):Zo 135 [T2 x] [] (Yx (T2 x)):=by
 refine ZE 18 Tryz.func135 (ar (iA (Ve x) fun b1=>iA [.i 0,.i 0,.i 0,.i 0,nl,nl] fun b2=>ie (aD 16 (ZW 4 16 [0,1,2,3,4,5,6,7,8,9,11,12] [1,1,1,1,1,1] (Z7 10 (dc 10 [] [1,1,1,1,1] [b1,b1,b1,b1,b1] (WV x.args) ?_))))))
 rintro _ _ ⟨v1,rfl,rfl⟩
 refine Z7 13 (dc 13 [] [1,1,1,1] [b1,b1,b1,b1] (WV x.jumps) ?_)
 rintro _ _ ⟨v2,rfl,rfl⟩
 exact Zp 1 2 [14] (Z7 15 (X3 15 2 [] [] b2 [.i x.op,.i x.dst,.i x.num,.i x.into,ZH x.args v1,ZH x.jumps v2] (de (ZY (r3 [] [.agg [.i x.op,.i x.dst,.i x.num,.i x.into,ZH x.args v1,ZH x.jumps v2]] [0] [(b2,b2)] ⟨rfl,rfl⟩ (Zd.agg (.cons (lr _) (.cons (lr _) (.cons (lr _) (.cons (lr _) (.cons (Zd.forget _ _) (.cons (Zd.forget _ _) .nil))))))))))))
theorem Zgo (c:List Instr) (hf:fwd c:=by exact ob) (ha:∀x∈c,x.op=18∨x.op=23->x.args≠[]) (hn:∀x∈c,x.num<=200000000) (hs:∀x∈c,x.args.length<=1000/\x.jumps.length<=1000) (hl:c.length<=200000000:=by exact ob):Zo 118 [K8 c] [] (Yx (K8 (QL c))):=by
 refine ZE 44 Tryz.func118 (Y1 (ar (iL (Y9 []) 0 6 fun v1=>?_)))
 refine Z1 (Y6 (ab 0 (Y0 (fun fz gz m F h=>∃(k:Nat) (xs:List Instr) (v:Value),(k<=c.length)/\(xs=Jg c (c.take k) 0)/\(xs.length=k)/\F=sF [0] fz [(3,F9 xs v),(4,.i k)]/\h=[.tail v 6]/\m=c.length-k) _ _ _ ⟨0,[],v1,ob,rfl,rfl,rfl,rfl,rfl⟩ (wk [0] (fr (Ya fl))) ?_)))
 rintro m F h ⟨k,xs,v,Yj,Zf,ZB,rfl,rfl,rfl⟩
 refine YM 2 (iw (T8 c) (Y2 ((k:Int)<(c.length:Int)) (fun Z9=>?_) (fun Z9=>?_)))
 ·refine ak (aq (ab 1 (Yf 2 ?_)))
  obtain ⟨x1,Z3⟩:=Zt c k om
  have hxa:=hs _ (Y3 Z3)
  refine Zs (Zh none (k:Int) 6 (Qw Z3)) (Z0 1 (Zw [] (MB x1) (iA [.i 0,.i 0,.i 0,.i 0,nl,nl] fun b1=>Zy 0 b1 (Ve x1) (ie (ar (Xp [0,3,4,5] [(28,.b ((x1.op==9)&&(Th c (k+1) x1.dst)))] (fun gz=>gz) ?_ ?_))))))
  ·refine Zz 4 [0] (ib (b:=(x1.op==9)) 21 (fun Zc=>?_) (fun Zc=>?_))
   ·have Y4:x1.op=9:=(Ze).1 Zc
    exact Z0 2 (ZD k (Zz 2 [0] (Zw [] (Zg7 c (k+1) x1.dst (hf:=hf) (ha:=ha) (hn:=hn)) (Z1 (wk [0,0] (Zl (Th c (k+1) x1.dst) Zc fl))))))
   have Yr:¬(x1.op=9):=Y7 Ze Zc
   exact Z1 (wk [0,0] (Zl false Zc fl))
  refine ac ((x1.op==9)&&(Th c (k+1) x1.dst)) (p:=(x1.op=9)/\((Th c (k+1) x1.dst)=true)) (Yu Ze Iff.rfl) (fun Zj=>?_) (fun Zj=>?_)
  ·exact az (Zz 8 [0,0,0] (iL (Y9 [Instr.mk 24 0 x1.num 0 x1.args x1.jumps]) 1 6 fun v2=>ZQ 0 [(37,K8 [Instr.mk 24 0 x1.num 0 x1.args x1.jumps])] (ip 2 (Y9 (xs++[Instr.mk 24 0 x1.num 0 x1.args x1.jumps])) (Y9 xs) (Y9 [Instr.mk 24 0 x1.num 0 x1.args x1.jumps]) v none 6 (Jw _) (Jw _) (EB _) (by simp<;>omega) (by simp [Bz,Y9]) fun v3=>Z1 (az (Z0 1 (ZD k (Z1 (ZF ⟨k+1,(xs++[Instr.mk 24 0 x1.num 0 x1.args x1.jumps]),v3,ob,(by rw [Zf,<-Z1i Z3,Ay,Zk (by first|assumption|(constructor<;>assumption))]),(by rw [ZX,ZB];rfl),rfl,rfl,rfl⟩ (wk [0] (fr (ZI k fl)))))))))))
  exact az (Zz 2 [0] (iL (Y9 [x1]) 1 6 fun v4=>ZQ 0 [(41,K8 [x1])] (ip 2 (Y9 (xs++[x1])) (Y9 xs) (Y9 [x1]) v none 6 (Jw _) (Jw _) (EB _) (by simp<;>omega) (by simp [Bz,Y9]) fun v5=>Z1 (az (Z0 1 (ZD k (Z1 (ZF ⟨k+1,(xs++[x1]),v5,ob,(by rw [Zf,<-Z1i Z3,Ay,Za (by assumption)]),(by rw [ZX,ZB];rfl),rfl,rfl,rfl⟩ (wk [0] (fr (ZI k fl)))))))))))
 exact ax 0 (ar (Zm (ZM (F9 xs v) (Zd.sl _ (Yl Y9 (by rw [Zf,WI om];rfl))))))
theorem Zgn (im:YA) (hg:TG im:=by exact ob):Zo 72 [V7 im] [] (Yx (V7 (FG im))):=by
 have hil:=hg.len
 have Xq:=hg.decls
 refine ZE 43 Tryz.func72 (ar (iA (Vd im) fun b1=>iA [nl,nl] fun b2=>ie (Zq 2 [1] (Zw [] (Bf im.decls (hd:=Xq)) (iL (W5 []) 0 5 fun v1=>Z0 1 (iA [nl,nl] fun b3=>?_))))))
 refine Zy 0 b3 [Ye im.decls,VL [] v1] (ie (Y6 (ab 0 (Y0 (fun fz gz m F h=>∃(k:Nat) (xs:List ZT) (v:Value),(k<=im.procs.length)/\(xs=(im.procs.take k).map Ef)/\(xs.length=k)/\F=sF [1,2,3] fz [(4,.i k)]/\h=[.obj b3 [Ye im.decls,VL xs v],Zi gz 2,Zi gz 3,.tail v 5]/\m=im.procs.length-k) _ _ _ ⟨0,[],v1,ob,rfl,rfl,rfl,rfl,rfl⟩ (wk [0,1,1,0] (Ya fl)) ?_))))
 rintro m F h ⟨k,xs,v,Yj,Zf,ZB,rfl,rfl,rfl⟩
 refine Ys 3 [2] (iw (Qb im.procs) (Y2 ((k:Int)<(im.procs.length:Int)) (fun Z9=>?_) (fun Z9=>?_)))
 ·refine ak (aq (ab 1 (Zq 3 [2] ?_)))
  obtain ⟨x1,Z3⟩:=Zt im.procs k om
  have hpg:=hg.procs _ (Y3 Z3)
  have hpl:=hpg.params
  have hll:=hpg.lent
  have hcl:=hpg.len
  refine Zs (Zh none (k:Int) 5 (Ku Z3)) (Z0 1 (iA [nl,nl,.i 0,.i 0,nl] fun b4=>Zy 0 b4 (Ul x1) (ie (aE 20 (ZW 8 20 [0,1,2,3,5,6,8,9,10,11,12,13] [1,0,0,0,0,0] (Z7 4 (dc 4 [] [0,0,0,0,1] [b4,b4,b4,b4,b3] (WV x1.params) ?_)))))))
  rintro _ _ ⟨v2,rfl,rfl⟩
  refine Z7 7 (dc 7 [] [0,0,0,1] [b4,b4,b4,b3] (WV x1.lent) ?_)
  rintro _ _ ⟨v3,rfl,rfl⟩
  exact Z7 14 (YH 14 [] [0,0,1] [b4,b4,b3] (Zgo x1.code (hf:=hpg.fwd) (ha:=hpg.args) (hn:=hpg.num) (hs:=hpg.sz)) (Yt 4 5 [15] [(38,.agg [Z4 x1.params,Z4 x1.lent,.i x1.result,.i x1.regs,K8 (QL x1.code)])] (Z7 16 (dL 16 [1] [b3] (W5 [ZT.mk x1.params x1.lent x1.result x1.regs (QL x1.code)]) 1 5 fun v4=>Yt 3 3 [] [(39,He [ZT.mk x1.params x1.lent x1.result x1.regs (QL x1.code)])] (Z7 17 (dp 17 7 [] [] (W5 (xs++[ZT.mk x1.params x1.lent x1.result x1.regs (QL x1.code)])) (W5 xs) (W5 [ZT.mk x1.params x1.lent x1.result x1.regs (QL x1.code)]) v none 5 (Kv _) (Kv _) (IX _) (by simp<;>omega) (by simp [NY,W5]) fun v5=>Zp 1 2 [18] (Z7 19 (X3 19 5 [] [] b3 [Ye im.decls,VL (xs++[ZT.mk x1.params x1.lent x1.result x1.regs (QL x1.code)]) v5] (de (az (Z0 1 (ZD k (Z1 (ZF ⟨k+1,(xs++[ZT.mk x1.params x1.lent x1.result x1.regs (QL x1.code)]),v5,ob,(by rw [Zf,V5 Z3,List.map_append];rfl),(by rw [ZX,ZB];rfl),rfl,rfl,rfl⟩ (wk [0,5,5,0] (ZI k fl))))))))))))))))
 exact ax 0 (Zq 1 [0] (Zy 1 b2 [Ye im.decls,VL xs v] (ie (ZY (r3 [] [.agg [Ye im.decls,VL xs v]] [0] [(b2,b2)] ⟨rfl,rfl⟩ (Zd.agg (.cons (Zd.sl _ (Yl YS rfl)) (.cons (Zd.sl _ (Yl W5 (by rw [Zf,WI om];rfl))) .nil))))))))
theorem Z8e (rd:Nat) (bs:LI) (p:Nat) (ZL:∀z∈bs,0<=z/\z<=255) (hp:p+400031<=1000000000:=by exact ob):Zo 39 [.p rd 0] [YI rd bs p] (fun r h=>∃(im:YA) (p2:Nat),r=V7 im/\h=[YI rd bs p2]/\IG im/\p<=p2/\p2<=p+400031):=by
 refine ZE 13 Tryz.func39 (ar (iA [nl,nl] fun b1=>ie (Yf 1 (ic [1] (Z7n rd bs p (ZL:=ob)) ?_))))
 rintro _ _ ⟨n1,p21,rfl,rfl,Y4⟩
 have hbf:=Y4.1
 refine Zw [] (Z8a n1 7330630 (hF:=hbf)) (iA [nl,nl] fun b2=>Zy 0 b2 (Vd (Al n1)) (ie (YM 1 (ic [1] (XX rd bs p21 3 (ZL:=ob)) ?_))))
 rintro _ _ ⟨k1,rfl,rfl,Yr⟩
 refine YB (k1==0) Ze (fun Z9=>?_) (fun Z9=>?_)
 ·exact Zq 1 [1] (Zw [] (Zgn (Al n1) (hg:=(LJ hbf om).tg)) (Zy 2 b1 (Vd (FG (Al n1))) (ie (ZY (r3 [1] [V7 (FG (Al n1))] [0] [(b1,b1)] ⟨(FG (Al n1)),p21+1,rfl,rfl,⟨(LJ hbf om).tc,by omega,by omega⟩⟩ (lr _))))))
 exact ak (Zq 1 [1] (Zy 2 b1 (Vd (Al n1)) (ie (ZY (r3 [1] [V7 (Al n1)] [0] [(b1,b1)] ⟨(Al n1),p21+1,rfl,rfl,⟨LJ hbf om,by omega,by omega⟩⟩ (lr _))))))
theorem Z0v (op:Int) :Zo 87 [.i op] [] (Yx (.b (Ty op))):=by
 refine ZE 21 Tryz.func87 (Y1 (Yf 1 (Zw [] (Kg op) (X6 6 [0] [(8,.b (Xf op&&(op != 7)))] (fun gz=>gz) ?_ (fun hj1=>?_)))))
 ·refine X6 10 [0] [(12,.b ((Xf op&&(op != 7))&&(op != 8)))] (fun gz=>gz) ?_ (fun hj2=>?_)
  ·refine X6 14 [0] [(16,.b (((Xf op&&(op != 7))&&(op != 8))||(op==18)))] (fun gz=>gz) ?_ (fun hj3=>?_)
   ·refine X6 18 [] [(20,.b ((((Xf op&&(op != 7))&&(op != 8))||(op==18))||(op==19)))] (fun gz=>gz) ?_ (fun hj4=>?_)
    ·exact Zm (ZM (.b ((((Xf op&&(op != 7))&&(op != 8))||(op==18))||(op==19))) (lb (by rw [Ty,Yg];simp [Xf, *];omega)))
    refine Z0 1 (ib (b:=(((Xf op&&(op != 7))&&(op != 8))||(op==18))) 17 (fun Zc=>?_) (fun Zc=>?_))
    ·have Y4:(((Xf op=true)/\(op≠7))/\(op≠8))∨(op=18):=((ZO (Yu (Yu Iff.rfl Yp) Yp) Ze)).1 Zc
     exact Z0 3 (Y5 (wk [] (Zl true Zc fl)) hj4)
    have Yr:¬((((Xf op=true)/\(op≠7))/\(op≠8))∨(op=18)):=Y7 (ZO (Yu (Yu Iff.rfl Yp) Yp) Ze) Zc
    exact Z0 3 (Y5 (wk [] (Zl (op==19) Zc fl)) hj4)
   refine Z0 1 (ib (b:=((Xf op&&(op != 7))&&(op != 8))) 13 (fun ZC=>?_) (fun ZC=>?_))
   ·have YR:((Xf op=true)/\(op≠7))/\(op≠8):=((Yu (Yu Iff.rfl Yp) Yp)).1 ZC
    exact Z0 3 (Y5 (wk [] (Zl true ZC fl)) hj3)
   have YV:¬(((Xf op=true)/\(op≠7))/\(op≠8)):=Y7 (Yu (Yu Iff.rfl Yp) Yp) ZC
   exact Z0 3 (Y5 (wk [] (Zl (op==18) ZC fl)) hj3)
  refine Z0 1 (ib (b:=(Xf op&&(op != 7))) 9 (fun Yn=>?_) (fun Yn=>?_))
  ·have Xc:(Xf op=true)/\(op≠7):=((Yu Iff.rfl Yp)).1 Yn
   exact Z0 3 (Y5 (wk [] (Zl (op != 8) Yn fl)) hj2)
  have XK:¬((Xf op=true)/\(op≠7)):=Y7 (Yu Iff.rfl Yp) Yn
  exact Z0 3 (Y5 (wk [] (Zl false Yn fl)) hj2)
 refine Z0 1 (ib (b:=Xf op) 5 (fun X1=>?_) (fun X1=>?_))
 ·have Wc:Xf op=true:=(Iff.rfl).1 X1
  exact Z0 3 (Y5 (wk [] (Zl (op != 7) X1 fl)) hj1)
 have WF:¬(Xf op=true):=Y7 Iff.rfl X1
 exact Z0 3 (Y5 (wk [] (Zl false X1 fl)) hj1)
theorem Z4l (x:Instr) (h1:x.args.length<=1000000:=by exact ob) (h2:x.jumps.length<=1000000:=by exact ob):Zo 135 [T2 x] [] (fun r h=>∃(v:Hd),r=.agg [.i x.op,.i x.dst,.i x.num,.i x.into,.h v,Z4 x.jumps]/\h=[rV v x.args]):=by
 refine ZE 18 Tryz.func135 (ar (iA (Ve x) fun b1=>iA [.i 0,.i 0,.i 0,.i 0,nl,nl] fun b2=>ie (aD 16 (ZW 4 16 [0,1,2,3,4,5,6,7,8,9,11,12] [1,1,1,1,1,1] (Z7 10 (dc 10 [] [1,1,1,1,1] [b1,b1,b1,b1,b1] (Bg x.args) ?_))))))
 rintro _ _ ⟨v1,rfl,rfl⟩
 refine Z7 13 (dc 13 [] [1,1,1,1] [b1,b1,b1,b1] (WV x.jumps) ?_)
 rintro _ _ ⟨v2,rfl,rfl⟩
 exact Zp 1 2 [14] (Z7 15 (X3 15 2 [] [] b2 [.i x.op,.i x.dst,.i x.num,.i x.into,.h v1,ZH x.jumps v2] (de (ZY (r3 [2] [.agg [.i x.op,.i x.dst,.i x.num,.i x.into,.h v1,ZH x.jumps v2]] [0] [(b2,b2)] ⟨v1,rfl,rfl⟩ (Zd.agg (.cons (lr _) (.cons (lr _) (.cons (lr _) (.cons (lr _) (.cons (lr _) (.cons (Zd.forget _ _) .nil))))))))))))
theorem Z7o (rd:Nat) (bs:LI) (p:Nat) (x:Instr) (ZL:∀z∈bs,0<=z/\z<=255) (hp:p+3<=1000000000:=by exact ob) (hx:XB x:=by exact ob):Zo 100 [.p rd 0,T2 x] [YI rd bs p] (fun r h=>∃(y:Instr) (p2:Nat),r=T2 y/\h=[YI rd bs p2]/\XB y/\p<=p2/\p2<=p+3):=by
 have hxl:=hx.l
 have hxn:=hx.n
 refine ZE 85 Tryz.func100 (ar (iA (Ve x) fun b1=>iA [.i 0,.i 0,.i 0,.i 0,nl,nl] fun b2=>ie (Zq 1 [1] (ic [] (Z4l x) ?_))))
 rintro _ _ ⟨v1,rfl,rfl⟩
 refine iA [.i 0,.i 0,.i 0,.i 0,nl,nl] fun b3=>Zy 0 b3 [.i x.op,.i x.dst,.i x.num,.i x.into,.h v1,Z4 x.jumps] (ie (YM 1 (ic [4] (XX rd bs p 5 (ZL:=ob)) ?_)))
 rintro _ _ ⟨k1,rfl,rfl,Y4⟩
 have hkhp1:=Y4.lt om
 refine ie (ab 0 (ar (YB (k1==0) Ze (fun Z9=>?_) (fun Z9=>?_))))
 ·refine Qz [4] (ac (x.op==14) Ze (fun Zj=>?_) (fun Zj=>?_))
  ·exact az (Z0 1 (Zy 1 b3 [.i 15,.i x.dst,.i x.num,.i x.into,.h v1,Z4 x.jumps] (ie (ar (Xn (Ki 2 v1 x.args) (Xn (Uy 0 0 4 v1.v 1 b3 (Z6 x.args) [.i 15,.i x.dst,.i x.num,.i x.into,.h v1,Z4 x.jumps] (YD _) rfl) (Zz 1 [0] (Zy 3 b2 [.i 15,.i x.dst,.i x.num,.i x.into,ZH x.args v1.v,Z4 x.jumps] (ie (ZY (r3 [3] [.agg [.i 15,.i x.dst,.i x.num,.i x.into,ZH x.args v1.v,Z4 x.jumps]] [0] [(b2,b2)] ⟨(Instr.mk 15 x.dst x.num x.into x.args x.jumps),p+1,rfl,rfl,(by first|exact ⟨hx,by omega,by omega⟩|exact ⟨hx.of rfl rfl (by intro e;first|exact e|(simp at e;done)|omega) (by first|exact hx.n|(simp;omega)|omega),by omega,by omega⟩|exact ⟨hx.of (by simp) rfl (fun e=>e) hx.n,by omega,by omega⟩|exact ⟨.one (by simp) om,by omega,by omega⟩)⟩ (Zd.agg (.cons (lr _) (.cons (lr _) (.cons (lr _) (.cons (lr _) (.cons (Zd.forget _ _) (.cons (lr _) .nil))))))))))))))))))
  refine Qz [4] (ac (x.op==15) Ze (fun ZA=>?_) (fun ZA=>?_))
  ·exact az (Z0 1 (Zy 1 b3 [.i 14,.i x.dst,.i x.num,.i x.into,.h v1,Z4 x.jumps] (ie (ar (Xn (Ki 2 v1 x.args) (Xn (Uy 0 0 4 v1.v 1 b3 (Z6 x.args) [.i 14,.i x.dst,.i x.num,.i x.into,.h v1,Z4 x.jumps] (YD _) rfl) (Zz 1 [0] (Zy 3 b2 [.i 14,.i x.dst,.i x.num,.i x.into,ZH x.args v1.v,Z4 x.jumps] (ie (ZY (r3 [3] [.agg [.i 14,.i x.dst,.i x.num,.i x.into,ZH x.args v1.v,Z4 x.jumps]] [0] [(b2,b2)] ⟨(Instr.mk 14 x.dst x.num x.into x.args x.jumps),p+1,rfl,rfl,(by first|exact ⟨hx,by omega,by omega⟩|exact ⟨hx.of rfl rfl (by intro e;first|exact e|(simp at e;done)|omega) (by first|exact hx.n|(simp;omega)|omega),by omega,by omega⟩|exact ⟨hx.of (by simp) rfl (fun e=>e) hx.n,by omega,by omega⟩|exact ⟨.one (by simp) om,by omega,by omega⟩)⟩ (Zd.agg (.cons (lr _) (.cons (lr _) (.cons (lr _) (.cons (lr _) (.cons (Zd.forget _ _) (.cons (lr _) .nil))))))))))))))))))
  refine Qz [4] (ac (x.op==17) Ze (fun Yi=>?_) (fun Yi=>?_))
  ·exact az (Z0 1 (Zy 1 b3 [.i 16,.i x.dst,.i x.num,.i x.into,.h v1,Z4 x.jumps] (ie (ar (Xn (Ki 2 v1 x.args) (Xn (Uy 0 0 4 v1.v 1 b3 (Z6 x.args) [.i 16,.i x.dst,.i x.num,.i x.into,.h v1,Z4 x.jumps] (YD _) rfl) (Zz 1 [0] (Zy 3 b2 [.i 16,.i x.dst,.i x.num,.i x.into,ZH x.args v1.v,Z4 x.jumps] (ie (ZY (r3 [3] [.agg [.i 16,.i x.dst,.i x.num,.i x.into,ZH x.args v1.v,Z4 x.jumps]] [0] [(b2,b2)] ⟨(Instr.mk 16 x.dst x.num x.into x.args x.jumps),p+1,rfl,rfl,(by first|exact ⟨hx,by omega,by omega⟩|exact ⟨hx.of rfl rfl (by intro e;first|exact e|(simp at e;done)|omega) (by first|exact hx.n|(simp;omega)|omega),by omega,by omega⟩|exact ⟨hx.of (by simp) rfl (fun e=>e) hx.n,by omega,by omega⟩|exact ⟨.one (by simp) om,by omega,by omega⟩)⟩ (Zd.agg (.cons (lr _) (.cons (lr _) (.cons (lr _) (.cons (lr _) (.cons (Zd.forget _ _) (.cons (lr _) .nil))))))))))))))))))
  exact ak (ar (Xn (Ki 2 v1 x.args) (Xn (Uy 0 1 4 v1.v 1 b3 (Z6 x.args) [.i x.op,.i x.dst,.i x.num,.i x.into,.h v1,Z4 x.jumps] (YD _) rfl) (Zz 1 [0] (Zy 3 b2 [.i x.op,.i x.dst,.i x.num,.i x.into,ZH x.args v1.v,Z4 x.jumps] (ie (ZY (r3 [3] [.agg [.i x.op,.i x.dst,.i x.num,.i x.into,ZH x.args v1.v,Z4 x.jumps]] [0] [(b2,b2)] ⟨x,p+1,rfl,rfl,(by first|exact ⟨hx,by omega,by omega⟩|exact ⟨hx.of rfl rfl (by intro e;first|exact e|(simp at e;done)|omega) (by first|exact hx.n|(simp;omega)|omega),by omega,by omega⟩|exact ⟨hx.of (by simp) rfl (fun e=>e) hx.n,by omega,by omega⟩|exact ⟨.one (by simp) om,by omega,by omega⟩)⟩ (Zd.agg (.cons (lr _) (.cons (lr _) (.cons (lr _) (.cons (lr _) (.cons (Zd.forget _ _) (.cons (lr _) .nil)))))))))))))))
 refine ar (YB (k1==1) Ze (fun YG=>?_) (fun YG=>?_))
 ·refine Zq 2 [1] (Zs (D5 2 v1 x.args) (Y2 ((x.args.length:Int)>0) (fun X2=>?_) (fun X2=>?_)))
  ·refine aE 11 (ZW 6 11 [0,1,2,3,4] [1,1] (dx 5 (D5 2 v1 x.args) (Zp 4 5 [7] (Z7 6 (dc 6 [0] [0] [b3] (Jx rd bs (p+1) x.args.length (ZL:=ob)) ?_)))))
   rintro _ _ ⟨YU,rfl,rfl,Yr⟩
   refine Z7 8 (dc 8 [0] [0] [b3] (XX rd bs ((p+1)+1) 4 (ZL:=ob)) ?_)
   rintro _ _ ⟨k2,rfl,rfl,YR⟩
   have hkhp3:=YR.lt om
   exact dx 9 (Ua 2 v1 x.args (YU:Int) YU) (Z7 10 (Co 10 2 [] [] v1 x.args YU k2 (de (ar (Xn (Ki 0 v1 (x.args.set YU k2)) (Xn (Uy 0 1 4 v1.v 1 b3 (Z6 (x.args.set YU k2)) [.i x.op,.i x.dst,.i x.num,.i x.into,.h v1,Z4 x.jumps] (YD _) rfl) (Zz 1 [0] (Zy 3 b2 [.i x.op,.i x.dst,.i x.num,.i x.into,ZH (x.args.set YU k2) v1.v,Z4 x.jumps] (ie (ZY (r3 [3] [.agg [.i x.op,.i x.dst,.i x.num,.i x.into,ZH (x.args.set YU k2) v1.v,Z4 x.jumps]] [0] [(b2,b2)] ⟨(Instr.mk x.op x.dst x.num x.into (x.args.set YU k2) x.jumps),((p+1)+1)+1,rfl,rfl,(by first|exact ⟨hx,by omega,by omega⟩|exact ⟨hx.of rfl rfl (by intro e;first|exact e|(simp at e;done)|omega) (by first|exact hx.n|(simp;omega)|omega),by omega,by omega⟩|exact ⟨hx.of (by simp) rfl (fun e=>e) hx.n,by omega,by omega⟩|exact ⟨.one (by simp) om,by omega,by omega⟩)⟩ (Zd.agg (.cons (lr _) (.cons (lr _) (.cons (lr _) (.cons (lr _) (.cons (Zd.forget _ _) (.cons (lr _) .nil))))))))))))))))))
  exact ak (ar (Xn (Ki 2 v1 x.args) (Xn (Uy 0 1 4 v1.v 1 b3 (Z6 x.args) [.i x.op,.i x.dst,.i x.num,.i x.into,.h v1,Z4 x.jumps] (YD _) rfl) (Zz 1 [0] (Zy 3 b2 [.i x.op,.i x.dst,.i x.num,.i x.into,ZH x.args v1.v,Z4 x.jumps] (ie (ZY (r3 [3] [.agg [.i x.op,.i x.dst,.i x.num,.i x.into,ZH x.args v1.v,Z4 x.jumps]] [0] [(b2,b2)] ⟨x,p+1,rfl,rfl,(by first|exact ⟨hx,by omega,by omega⟩|exact ⟨hx.of rfl rfl (by intro e;first|exact e|(simp at e;done)|omega) (by first|exact hx.n|(simp;omega)|omega),by omega,by omega⟩|exact ⟨hx.of (by simp) rfl (fun e=>e) hx.n,by omega,by omega⟩|exact ⟨.one (by simp) om,by omega,by omega⟩)⟩ (Zd.agg (.cons (lr _) (.cons (lr _) (.cons (lr _) (.cons (lr _) (.cons (Zd.forget _ _) (.cons (lr _) .nil)))))))))))))))
 refine ar (YB (k1==2) Ze (fun Wz=>?_) (fun Wz=>?_))
 ·refine Zq 2 [4] (Zw [] (Z0v x.op) (ie (ac (Ty x.op) Iff.rfl (fun VC=>?_) (fun VC=>?_))))
  ·refine az (Z0 1 (ic [0] (XX rd bs (p+1) 4 (ZL:=ob)) ?_))
   rintro _ _ ⟨k3,rfl,rfl,YV⟩
   have hkhp4:=YV.lt om
   exact Z0 1 (Zy 1 b3 [.i x.op,.i k3,.i x.num,.i x.into,.h v1,Z4 x.jumps] (ie (ar (Xn (Ki 2 v1 x.args) (Xn (Uy 0 0 4 v1.v 1 b3 (Z6 x.args) [.i x.op,.i k3,.i x.num,.i x.into,.h v1,Z4 x.jumps] (YD _) rfl) (Zz 1 [0] (Zy 3 b2 [.i x.op,.i k3,.i x.num,.i x.into,ZH x.args v1.v,Z4 x.jumps] (ie (ZY (r3 [3] [.agg [.i x.op,.i k3,.i x.num,.i x.into,ZH x.args v1.v,Z4 x.jumps]] [0] [(b2,b2)] ⟨(Instr.mk x.op k3 x.num x.into x.args x.jumps),(p+1)+1,rfl,rfl,(by first|exact ⟨hx,by omega,by omega⟩|exact ⟨hx.of rfl rfl (by intro e;first|exact e|(simp at e;done)|omega) (by first|exact hx.n|(simp;omega)|omega),by omega,by omega⟩|exact ⟨hx.of (by simp) rfl (fun e=>e) hx.n,by omega,by omega⟩|exact ⟨.one (by simp) om,by omega,by omega⟩)⟩ (Zd.agg (.cons (lr _) (.cons (lr _) (.cons (lr _) (.cons (lr _) (.cons (Zd.forget _ _) (.cons (lr _) .nil)))))))))))))))))
  exact ak (ar (Xn (Ki 2 v1 x.args) (Xn (Uy 0 1 4 v1.v 1 b3 (Z6 x.args) [.i x.op,.i x.dst,.i x.num,.i x.into,.h v1,Z4 x.jumps] (YD _) rfl) (Zz 1 [0] (Zy 3 b2 [.i x.op,.i x.dst,.i x.num,.i x.into,ZH x.args v1.v,Z4 x.jumps] (ie (ZY (r3 [3] [.agg [.i x.op,.i x.dst,.i x.num,.i x.into,ZH x.args v1.v,Z4 x.jumps]] [0] [(b2,b2)] ⟨x,p+1,rfl,rfl,(by first|exact ⟨hx,by omega,by omega⟩|exact ⟨hx.of rfl rfl (by intro e;first|exact e|(simp at e;done)|omega) (by first|exact hx.n|(simp;omega)|omega),by omega,by omega⟩|exact ⟨hx.of (by simp) rfl (fun e=>e) hx.n,by omega,by omega⟩|exact ⟨.one (by simp) om,by omega,by omega⟩)⟩ (Zd.agg (.cons (lr _) (.cons (lr _) (.cons (lr _) (.cons (lr _) (.cons (Zd.forget _ _) (.cons (lr _) .nil)))))))))))))))
 refine ar (YB (k1==3) Ze (fun Va=>?_) (fun Va=>?_))
 ·refine Ys 4 [4] (ib (b:=(x.op==16)) 53 (fun Zc=>?_) (fun Zc=>?_))
  ·have Xc:x.op=16:=(Ze).1 Zc
   refine Z1 (VR (Zq 2 [4] ?_))
   obtain ⟨x1,Z3⟩:=Zt x.args 0 (C9.2 (hx.a om))
   exact Zs (Zh none 0 1 (Y8 Z3)) (Z0 1 (iL (Z6 [x1]) 1 1 fun v2=>Z0 1 (Zy 4 b2 [.i 15,.i 0,.i 0,.i 0,ZH [x1] v2,nl] (ie (ZY (r3 [2] [.agg [.i 15,.i 0,.i 0,.i 0,ZH [x1] v2,nl]] [0] [(b2,b2)] ⟨(Instr.mk 15 0 0 0 [x1] []),p+1,rfl,rfl,(by first|exact ⟨hx,by omega,by omega⟩|exact ⟨hx.of rfl rfl (by intro e;first|exact e|(simp at e;done)|omega) (by first|exact hx.n|(simp;omega)|omega),by omega,by omega⟩|exact ⟨hx.of (by simp) rfl (fun e=>e) hx.n,by omega,by omega⟩|exact ⟨.one (by simp) om,by omega,by omega⟩)⟩ (Zd.agg (.cons (lr _) (.cons (lr _) (.cons (lr _) (.cons (lr _) (.cons (Zd.forget _ _) (.cons (Zd.forget _ _) .nil)))))))))))))
  have XK:¬(x.op=16):=Y7 Ze Zc
  refine V4 [4] (ac (x.op==17) Ze (fun Vm=>?_) (fun Vm=>?_))
  ·refine Zq 2 [4] ?_
   obtain ⟨x2,Zu⟩:=Zt x.args 0 (C9.2 (hx.a om))
   exact Zs (Zh none 0 1 (Y8 Zu)) (Z0 1 (iL (Z6 [x2]) 1 1 fun v3=>Z0 1 (Zy 4 b2 [.i 15,.i 0,.i 0,.i 0,ZH [x2] v3,nl] (ie (ZY (r3 [2] [.agg [.i 15,.i 0,.i 0,.i 0,ZH [x2] v3,nl]] [0] [(b2,b2)] ⟨(Instr.mk 15 0 0 0 [x2] []),p+1,rfl,rfl,(by first|exact ⟨hx,by omega,by omega⟩|exact ⟨hx.of rfl rfl (by intro e;first|exact e|(simp at e;done)|omega) (by first|exact hx.n|(simp;omega)|omega),by omega,by omega⟩|exact ⟨hx.of (by simp) rfl (fun e=>e) hx.n,by omega,by omega⟩|exact ⟨.one (by simp) om,by omega,by omega⟩)⟩ (Zd.agg (.cons (lr _) (.cons (lr _) (.cons (lr _) (.cons (lr _) (.cons (Zd.forget _ _) (.cons (Zd.forget _ _) .nil)))))))))))))
  refine ak (Qz [4] (ac (x.op==6) Ze (fun Tp=>?_) (fun Tp=>?_)))
  ·refine az (Z0 1 (ic [0] (XX rd bs (p+1) 4 (ZL:=ob)) ?_))
   rintro _ _ ⟨k4,rfl,rfl,Wc⟩
   have hkhp7:=Wc.lt om
   exact Z0 1 (Zy 1 b3 [.i x.op,.i x.dst,.i x.num,.i k4,.h v1,Z4 x.jumps] (ie (ar (Xn (Ki 2 v1 x.args) (Xn (Uy 0 0 4 v1.v 1 b3 (Z6 x.args) [.i x.op,.i x.dst,.i x.num,.i k4,.h v1,Z4 x.jumps] (YD _) rfl) (Zz 1 [0] (Zy 3 b2 [.i x.op,.i x.dst,.i x.num,.i k4,ZH x.args v1.v,Z4 x.jumps] (ie (ZY (r3 [3] [.agg [.i x.op,.i x.dst,.i x.num,.i k4,ZH x.args v1.v,Z4 x.jumps]] [0] [(b2,b2)] ⟨(Instr.mk x.op x.dst x.num k4 x.args x.jumps),(p+1)+1,rfl,rfl,(by first|exact ⟨hx,by omega,by omega⟩|exact ⟨hx.of rfl rfl (by intro e;first|exact e|(simp at e;done)|omega) (by first|exact hx.n|(simp;omega)|omega),by omega,by omega⟩|exact ⟨hx.of (by simp) rfl (fun e=>e) hx.n,by omega,by omega⟩|exact ⟨.one (by simp) om,by omega,by omega⟩)⟩ (Zd.agg (.cons (lr _) (.cons (lr _) (.cons (lr _) (.cons (lr _) (.cons (Zd.forget _ _) (.cons (lr _) .nil)))))))))))))))))
  exact ak (ar (Xn (Ki 2 v1 x.args) (Xn (Uy 0 1 4 v1.v 1 b3 (Z6 x.args) [.i x.op,.i x.dst,.i x.num,.i x.into,.h v1,Z4 x.jumps] (YD _) rfl) (Zz 1 [0] (Zy 3 b2 [.i x.op,.i x.dst,.i x.num,.i x.into,ZH x.args v1.v,Z4 x.jumps] (ie (ZY (r3 [3] [.agg [.i x.op,.i x.dst,.i x.num,.i x.into,ZH x.args v1.v,Z4 x.jumps]] [0] [(b2,b2)] ⟨x,p+1,rfl,rfl,(by first|exact ⟨hx,by omega,by omega⟩|exact ⟨hx.of rfl rfl (by intro e;first|exact e|(simp at e;done)|omega) (by first|exact hx.n|(simp;omega)|omega),by omega,by omega⟩|exact ⟨hx.of (by simp) rfl (fun e=>e) hx.n,by omega,by omega⟩|exact ⟨.one (by simp) om,by omega,by omega⟩)⟩ (Zd.agg (.cons (lr _) (.cons (lr _) (.cons (lr _) (.cons (lr _) (.cons (Zd.forget _ _) (.cons (lr _) .nil)))))))))))))))
 refine ar (YB (k1==4) Ze (fun Vn=>?_) (fun Vn=>?_))
 ·refine Qz [4] (ac (x.op==0) Ze (fun TV=>?_) (fun TV=>?_))
  ·refine az (Z0 1 (ic [0] (XX rd bs (p+1) 9 (ZL:=ob)) ?_))
   rintro _ _ ⟨k5,rfl,rfl,WF⟩
   have hkhp8:=WF.lt om
   exact Z0 1 (Zy 1 b3 [.i x.op,.i x.dst,.i k5,.i x.into,.h v1,Z4 x.jumps] (ie (ar (Xn (Ki 2 v1 x.args) (Xn (Uy 0 0 4 v1.v 1 b3 (Z6 x.args) [.i x.op,.i x.dst,.i k5,.i x.into,.h v1,Z4 x.jumps] (YD _) rfl) (Zz 1 [0] (Zy 3 b2 [.i x.op,.i x.dst,.i k5,.i x.into,ZH x.args v1.v,Z4 x.jumps] (ie (ZY (r3 [3] [.agg [.i x.op,.i x.dst,.i k5,.i x.into,ZH x.args v1.v,Z4 x.jumps]] [0] [(b2,b2)] ⟨(Instr.mk x.op x.dst k5 x.into x.args x.jumps),(p+1)+1,rfl,rfl,(by first|exact ⟨hx,by omega,by omega⟩|exact ⟨hx.of rfl rfl (by intro e;first|exact e|(simp at e;done)|omega) (by first|exact hx.n|(simp;omega)|omega),by omega,by omega⟩|exact ⟨hx.of (by simp) rfl (fun e=>e) hx.n,by omega,by omega⟩|exact ⟨.one (by simp) om,by omega,by omega⟩)⟩ (Zd.agg (.cons (lr _) (.cons (lr _) (.cons (lr _) (.cons (lr _) (.cons (Zd.forget _ _) (.cons (lr _) .nil)))))))))))))))))
  refine Qz [4] (ac (x.op==19) Ze (fun CD=>?_) (fun CD=>?_))
  ·refine az (Z0 1 (ic [0] (XX rd bs (p+1) 3 (ZL:=ob)) ?_))
   rintro _ _ ⟨k6,rfl,rfl,V1⟩
   have hkhp9:=V1.lt om
   exact Z0 1 (Zy 1 b3 [.i x.op,.i x.dst,.i k6,.i x.into,.h v1,Z4 x.jumps] (ie (ar (Xn (Ki 2 v1 x.args) (Xn (Uy 0 0 4 v1.v 1 b3 (Z6 x.args) [.i x.op,.i x.dst,.i k6,.i x.into,.h v1,Z4 x.jumps] (YD _) rfl) (Zz 1 [0] (Zy 3 b2 [.i x.op,.i x.dst,.i k6,.i x.into,ZH x.args v1.v,Z4 x.jumps] (ie (ZY (r3 [3] [.agg [.i x.op,.i x.dst,.i k6,.i x.into,ZH x.args v1.v,Z4 x.jumps]] [0] [(b2,b2)] ⟨(Instr.mk x.op x.dst k6 x.into x.args x.jumps),(p+1)+1,rfl,rfl,(by first|exact ⟨hx,by omega,by omega⟩|exact ⟨hx.of rfl rfl (by intro e;first|exact e|(simp at e;done)|omega) (by first|exact hx.n|(simp;omega)|omega),by omega,by omega⟩|exact ⟨hx.of (by simp) rfl (fun e=>e) hx.n,by omega,by omega⟩|exact ⟨.one (by simp) om,by omega,by omega⟩)⟩ (Zd.agg (.cons (lr _) (.cons (lr _) (.cons (lr _) (.cons (lr _) (.cons (Zd.forget _ _) (.cons (lr _) .nil)))))))))))))))))
  exact ak (ar (Xn (Ki 2 v1 x.args) (Xn (Uy 0 1 4 v1.v 1 b3 (Z6 x.args) [.i x.op,.i x.dst,.i x.num,.i x.into,.h v1,Z4 x.jumps] (YD _) rfl) (Zz 1 [0] (Zy 3 b2 [.i x.op,.i x.dst,.i x.num,.i x.into,ZH x.args v1.v,Z4 x.jumps] (ie (ZY (r3 [3] [.agg [.i x.op,.i x.dst,.i x.num,.i x.into,ZH x.args v1.v,Z4 x.jumps]] [0] [(b2,b2)] ⟨x,p+1,rfl,rfl,(by first|exact ⟨hx,by omega,by omega⟩|exact ⟨hx.of rfl rfl (by intro e;first|exact e|(simp at e;done)|omega) (by first|exact hx.n|(simp;omega)|omega),by omega,by omega⟩|exact ⟨hx.of (by simp) rfl (fun e=>e) hx.n,by omega,by omega⟩|exact ⟨.one (by simp) om,by omega,by omega⟩)⟩ (Zd.agg (.cons (lr _) (.cons (lr _) (.cons (lr _) (.cons (lr _) (.cons (Zd.forget _ _) (.cons (lr _) .nil)))))))))))))))
 exact ak (ar (Xn (Ki 2 v1 x.args) (Xn (Uy 0 1 4 v1.v 1 b3 (Z6 x.args) [.i x.op,.i x.dst,.i x.num,.i x.into,.h v1,Z4 x.jumps] (YD _) rfl) (Zz 1 [0] (Zy 3 b2 [.i x.op,.i x.dst,.i x.num,.i x.into,ZH x.args v1.v,Z4 x.jumps] (ie (ZY (r3 [3] [.agg [.i x.op,.i x.dst,.i x.num,.i x.into,ZH x.args v1.v,Z4 x.jumps]] [0] [(b2,b2)] ⟨x,p+1,rfl,rfl,(by first|exact ⟨hx,by omega,by omega⟩|exact ⟨hx.of rfl rfl (by intro e;first|exact e|(simp at e;done)|omega) (by first|exact hx.n|(simp;omega)|omega),by omega,by omega⟩|exact ⟨hx.of (by simp) rfl (fun e=>e) hx.n,by omega,by omega⟩|exact ⟨.one (by simp) om,by omega,by omega⟩)⟩ (Zd.agg (.cons (lr _) (.cons (lr _) (.cons (lr _) (.cons (lr _) (.cons (Zd.forget _ _) (.cons (lr _) .nil)))))))))))))))
theorem Z9b (rd:Nat) (bs:LI) (p:Nat) (x:Instr) (lz:Nat) (ZL:∀z∈bs,0<=z/\z<=255) (hp:p+4<=1000000000:=by exact ob) (hx:XZ lz x:=by exact ob) (hl:lz<=100:=by exact ob):Zo 103 [.p rd 0,T2 x] [YI rd bs p] (fun r h=>∃(y:Instr) (p2:Nat),r=T2 y/\h=[YI rd bs p2]/\XZ (lz+1) y/\p<=p2/\p2<=p+4):=by
 have hxl:=hx.l
 have hxn:=hx.n
 refine ZE 48 Tryz.func103 (ar (iA (Ve x) fun b1=>iA [.i 0,.i 0,.i 0,.i 0,nl,nl] fun b2=>ie (Zq 1 [1] (Zw [] (MB x) (iA [.i 0,.i 0,.i 0,.i 0,nl,nl] fun b3=>Zy 0 b3 (Ve x) (ie (YM 1 (ic [3] (XX rd bs p 6 (ZL:=ob)) ?_))))))))
 rintro _ _ ⟨k1,rfl,rfl,Y4⟩
 refine ie (ab 0 (ar (YB (k1==0) Ze (fun Z9=>?_) (fun Z9=>?_))))
 ·refine az (Z0 1 (ic [0] (XX rd bs (p+1) 26 (ZL:=ob)) ?_))
  rintro _ _ ⟨k2,rfl,rfl,Yr⟩
  exact Z0 1 (Zy 1 b3 [.i k2,.i x.dst,.i x.num,.i x.into,Z4 x.args,Z4 x.jumps] (ie (Zq 1 [0] (Zy 2 b2 [.i k2,.i x.dst,.i x.num,.i x.into,Z4 x.args,Z4 x.jumps] (ie (ZY (r3 [2] [.agg [.i k2,.i x.dst,.i x.num,.i x.into,Z4 x.args,Z4 x.jumps]] [0] [(b2,b2)] ⟨(Instr.mk k2 x.dst x.num x.into x.args x.jumps),(p+1)+1,rfl,rfl,(by exact ⟨hx.of (by first|(dsimp only;omega)|omega) (by first|(dsimp only;omega)|omega) (by (try dsimp only);first|omega|(rcases hon with e|e|e|e|e|e<;>omega)),by omega,by omega⟩)⟩ (lr _))))))))
 refine ar (YB (k1==1) Ze (fun Zj=>?_) (fun Zj=>?_))
 ·refine az (Z0 1 (iL (Z6 [0,1,-1,99]) 4 1 fun v1=>ZQ 0 [(18,Z4 [0,1,-1,99])] (ic [1] (UT rd bs (p+1) [0,1,-1,99] (ZL:=ob)) ?_)))
  rintro _ _ ⟨z1,rfl,rfl,YR⟩
  have hon:=YR
  simp only [YN,List.not_mem_nil,or_false] at hon
  exact Z0 1 (Zy 2 b3 [.i x.op,.i z1,.i x.num,.i x.into,Z4 x.args,Z4 x.jumps] (ie (Zq 1 [0] (Zy 3 b2 [.i x.op,.i z1,.i x.num,.i x.into,Z4 x.args,Z4 x.jumps] (ie (ZY (r3 [2] [.agg [.i x.op,.i z1,.i x.num,.i x.into,Z4 x.args,Z4 x.jumps]] [0] [(b2,b2)] ⟨(Instr.mk x.op z1 x.num x.into x.args x.jumps),(p+1)+1,rfl,rfl,(by exact ⟨hx.of (by first|(dsimp only;omega)|omega) (by first|(dsimp only;omega)|omega) (by (try dsimp only);first|omega|(rcases hon with e|e|e|e|e|e<;>omega)),by omega,by omega⟩)⟩ (lr _))))))))
 refine ar (YB (k1==2) Ze (fun ZA=>?_) (fun ZA=>?_))
 ·refine az (Z0 1 (iL (Z6 [0,1,5,-1,1000,2000]) 6 1 fun v2=>ZQ 0 [(24,Z4 [0,1,5,-1,1000,2000])] (ic [1] (UT rd bs (p+1) [0,1,5,-1,1000,2000] (ZL:=ob)) ?_)))
  rintro _ _ ⟨z2,rfl,rfl,YV⟩
  have hon:=YV
  simp only [YN,List.not_mem_nil,or_false] at hon
  exact Z0 1 (Zy 2 b3 [.i x.op,.i x.dst,.i z2,.i x.into,Z4 x.args,Z4 x.jumps] (ie (Zq 1 [0] (Zy 3 b2 [.i x.op,.i x.dst,.i z2,.i x.into,Z4 x.args,Z4 x.jumps] (ie (ZY (r3 [2] [.agg [.i x.op,.i x.dst,.i z2,.i x.into,Z4 x.args,Z4 x.jumps]] [0] [(b2,b2)] ⟨(Instr.mk x.op x.dst z2 x.into x.args x.jumps),(p+1)+1,rfl,rfl,(by exact ⟨hx.of (by first|(dsimp only;omega)|omega) (by first|(dsimp only;omega)|omega) (by (try dsimp only);first|omega|(rcases hon with e|e|e|e|e|e<;>omega)),by omega,by omega⟩)⟩ (lr _))))))))
 refine ar (YB (k1==3) Ze (fun Yi=>?_) (fun Yi=>?_))
 ·refine az (Z0 1 (iL (Z6 [0,1,-1,99]) 4 1 fun v3=>ZQ 0 [(30,Z4 [0,1,-1,99])] (ic [1] (UT rd bs (p+1) [0,1,-1,99] (ZL:=ob)) ?_)))
  rintro _ _ ⟨z3,rfl,rfl,Xc⟩
  have hon:=Xc
  simp only [YN,List.not_mem_nil,or_false] at hon
  exact Z0 1 (Zy 2 b3 [.i x.op,.i x.dst,.i x.num,.i z3,Z4 x.args,Z4 x.jumps] (ie (Zq 1 [0] (Zy 3 b2 [.i x.op,.i x.dst,.i x.num,.i z3,Z4 x.args,Z4 x.jumps] (ie (ZY (r3 [2] [.agg [.i x.op,.i x.dst,.i x.num,.i z3,Z4 x.args,Z4 x.jumps]] [0] [(b2,b2)] ⟨(Instr.mk x.op x.dst x.num z3 x.args x.jumps),(p+1)+1,rfl,rfl,(by exact ⟨hx.of (by first|(dsimp only;omega)|omega) (by first|(dsimp only;omega)|omega) (by (try dsimp only);first|omega|(rcases hon with e|e|e|e|e|e<;>omega)),by omega,by omega⟩)⟩ (lr _))))))))
 refine ar (YB (k1==4) Ze (fun YG=>?_) (fun YG=>?_))
 ·refine az (Zz 3 [1] (ic [0] (Lu rd bs (p+1) x.args (ZL:=ob)) ?_))
  rintro _ _ ⟨zs1,p21,rfl,rfl,XK⟩
  have hsi:=XK
  exact Z0 1 (Zy 1 b3 [.i x.op,.i x.dst,.i x.num,.i x.into,Z4 zs1,Z4 x.jumps] (ie (Zq 1 [0] (Zy 2 b2 [.i x.op,.i x.dst,.i x.num,.i x.into,Z4 zs1,Z4 x.jumps] (ie (ZY (r3 [2] [.agg [.i x.op,.i x.dst,.i x.num,.i x.into,Z4 zs1,Z4 x.jumps]] [0] [(b2,b2)] ⟨(Instr.mk x.op x.dst x.num x.into zs1 x.jumps),p21,rfl,rfl,(by exact ⟨hx.of (by first|(dsimp only;omega)|omega) (by first|(dsimp only;omega)|omega) (by (try dsimp only);first|omega|(rcases hon with e|e|e|e|e|e<;>omega)),by omega,by omega⟩)⟩ (lr _))))))))
 refine ar (YB (k1==5) Ze (fun X2=>?_) (fun X2=>?_))
 ·refine az (Zz 3 [1] (ic [0] (Lu rd bs (p+1) x.jumps (ZL:=ob)) ?_))
  rintro _ _ ⟨zs2,p22,rfl,rfl,Wc⟩
  have hsi:=Wc
  exact Z0 1 (Zy 1 b3 [.i x.op,.i x.dst,.i x.num,.i x.into,Z4 x.args,Z4 zs2] (ie (Zq 1 [0] (Zy 2 b2 [.i x.op,.i x.dst,.i x.num,.i x.into,Z4 x.args,Z4 zs2] (ie (ZY (r3 [2] [.agg [.i x.op,.i x.dst,.i x.num,.i x.into,Z4 x.args,Z4 zs2]] [0] [(b2,b2)] ⟨(Instr.mk x.op x.dst x.num x.into x.args zs2),p22,rfl,rfl,(by exact ⟨hx.of (by first|(dsimp only;omega)|omega) (by first|(dsimp only;omega)|omega) (by (try dsimp only);first|omega|(rcases hon with e|e|e|e|e|e<;>omega)),by omega,by omega⟩)⟩ (lr _))))))))
 exact ak (Zq 1 [1] (Zy 2 b2 (Ve x) (ie (ZY (r3 [1] [T2 x] [0] [(b2,b2)] ⟨x,p+1,rfl,rfl,(by exact ⟨hx.of (by first|(dsimp only;omega)|omega) (by first|(dsimp only;omega)|omega) (by (try dsimp only);first|omega|(rcases hon with e|e|e|e|e|e<;>omega)),by omega,by omega⟩)⟩ (lr _))))))
theorem Zfr (ds:List Zb) (hd:TL ds:=by exact ob):Zo 108 [Ye ds] [] (Yx (Ye ds)):=by
 have hdl:=hd.len
 refine ZE 55 Tryz.func108 (Y1 (ar (iL (YS []) 0 3 fun v1=>?_)))
 refine Z1 (Y6 (ab 0 (Y0 (fun fz gz m F h=>∃(k:Nat) (v:Value),(k<=ds.length)/\F=sF [0] fz [(3,Tt (ds.take k) v),(4,.i k)]/\h=[.tail v 3]/\m=ds.length-k) _ _ _ ⟨0,v1,ob,rfl,rfl,rfl⟩ (wk [0] (fc (x:=Tt [] v1) (Zd.slh _ (Yl YS rfl)) (Ya fl))) ?_)))
 rintro m F h ⟨k,v,Yj,rfl,rfl,rfl⟩
 refine YM 2 (iw (VB ds) (Y2 ((k:Int)<(ds.length:Int)) (fun Z9=>?_) (fun Z9=>?_)))
 ·obtain ⟨xd,hxd⟩:=Zt ds k om
  have hcl:=hd.cons_at hxd
  refine ak (aq (ab 1 (ar (iL (XU []) 0 1 fun v2=>?_))))
  refine Z1 (Y6 (ab 2 (Y0 (fun fz gz m F h=>∃(j:Nat) (u:Value),(j<=xd.cons.length)/\F=sF [0,3,4] fz [(5,BQ (xd.cons.take j) u),(6,.i j)]/\h=[.tail u 1,Zi gz 1]/\m=xd.cons.length-j) _ _ _ ⟨0,v2,ob,rfl,rfl,rfl⟩ (wk [0,0] (fc (x:=BQ [] v2) (Zd.slh _ (Yl XU rfl)) (Ya fl))) ?_)))
  rintro m F h ⟨j,u,VA,rfl,rfl,rfl⟩
  refine YM 3 (Zs (Zh none (k:Int) 3 (Wg hxd)) (Z0 2 (iw (VT xd.cons) (Y2 ((j:Int)<(xd.cons.length:Int)) (fun Zj=>?_) (fun Zj=>?_)))))
  ·refine ak (aq (ab 3 (az (Z0 3 (Zs (Zh none (k:Int) 3 (Wg hxd)) (Z0 3 ?_))))))
   obtain ⟨x1,Z3⟩:=Zt xd.cons j om
   have hfl:=hd.fields_at hxd Z3
   refine Zs (Zh none (j:Int) 1 (Jv Z3)) (Z0 2 (ic [] (WV x1.fields) ?_))
   rintro _ _ ⟨v3,rfl,rfl⟩
   exact ZQ 1 [(36,Db x1)] (iL (XU [x1]) 1 1 fun v4=>ZQ 0 [(37,Qo [x1])] (ip 2 (XU (xd.cons.take (j+1))) (XU (xd.cons.take j)) (XU [x1]) u none 1 (Cu _) (Cu _) (IR _) (by simp<;>omega) (by rw [V5 Z3];simp [XU]) fun v5=>Z1 (az (Z0 1 (ZD j (Z1 (ZF ⟨j+1,v5,ob,rfl,rfl,rfl⟩ (wk [0,2] (fr (ZI j fl))))))))))
  exact ax 2 (aE 16 (Zp 13 16 [0,1,2] (dx 3 (Zh none (k:Int) 3 (Wg hxd)) (Zp 8 12 [4,5,6,7] (dx 8 (Zh none (k:Int) 3 (Wg hxd)) (Yt 3 7 [9,10,11,12] [(51,.agg [.i xd.frm,.i xd.to_,Qo (xd.cons.take j)])] (Z7 13 (dL 13 [] [] (YS [Zb.mk xd.frm xd.to_ (xd.cons.take j)]) 1 3 fun v6=>Yt 2 2 [] [(52,Ye [Zb.mk xd.frm xd.to_ (xd.cons.take j)])] (Z7 14 (dp 14 2 [] [] (YS (ds.take (k+1))) (YS (ds.take k)) (YS [Zb.mk xd.frm xd.to_ (xd.cons.take j)]) v none 3 (Qv _) (Qv _) (Do _) (by simp<;>omega) (by rw [V5 hxd];simp [YS,WI (show xd.cons.length<=j by omega)]) fun v7=>Zp 0 1 [15] (de (az (Z0 1 (ZD k (Z1 (ZF ⟨k+1,v7,ob,rfl,rfl,rfl⟩ (wk [0] (fr (ZI k fl)))))))))))))))))))
 exact ax 0 (ar (Zm (ZM (Tt (ds.take k) v) (Zd.sl _ (Yl YS (by rw [WI om]))))))
theorem NO (im:YA) (lz:Nat) (hz:IZ im lz:=by exact ob) (hlz:lz<=100:=by exact ob):Zo 99 [V7 im] [] (fun r h=>∃(v:Hd) (U:Nat->Hd),r=.agg [Ye im.decls,.h v]/\h=[rK v 5 (pD (Xw U) im.procs 0),rK (U 0) 6 (Zg (Y9 (cL im.procs 0))),rK (U 1) 6 (Zg (Y9 (cL im.procs 1))),rK (U 2) 6 (Zg (Y9 (cL im.procs 2))),rK (U 3) 6 (Zg (Y9 (cL im.procs 3)))]):=by
 have hil:=hz.len
 refine ZE 60 Tryz.func99 (ar (iA (Vd im) fun b1=>iA [nl,nl] fun b2=>ie (Zq 2 [1] (Zw [] (Zfr im.decls (hd:=hz.decls.sz)) (ES 5 fun g1=>Z0 1 (iA [nl,nl] fun b3=>?_))))))
 refine Zy 0 b3 [Ye im.decls,.ms g1 0 0 0] (ie (Xd (Xn (tU0 (im.procs.take 0) rfl) (Z1 (ab 0 (Y0 (fun fz gz m F h=>∃(k:Nat) (v:Hd) (U:Nat->Hd),(k<=im.procs.length)/\F=sF [1,2,3] fz [(4,.i k)]/\h=[.obj b3 [Ye im.decls,.h v],Zi gz 6,Zi gz 7,rK v 5 (pD (Xw U) (im.procs.take k) 0),rK (U 0) 6 (Zg (Y9 (cL (im.procs.take k) 0))),rK (U 1) 6 (Zg (Y9 (cL (im.procs.take k) 1))),rK (U 2) 6 (Zg (Y9 (cL (im.procs.take k) 2))),rK (U 3) 6 (Zg (Y9 (cL (im.procs.take k) 3)))]/\m=im.procs.length-k) _ _ _ ⟨0,(⟨some ⟨g1,0,none⟩,0,0⟩:Hd),U0,ob,rfl,rfl,rfl⟩ (wk [4,5,5,4,0,0,0,0] (Ya fl) (e:=(rc (rc (rc (rr (ls:=[]) (by first|rfl|exact pAll_zero.symm) (rc (rc (rc (rc rz)))))))))) ?_))))))
 rintro m F h ⟨k,v,U,Yj,rfl,rfl,rfl⟩
 refine Ys 3 [2] (iw (Qb im.procs) (Y2 ((k:Int)<(im.procs.length:Int)) (fun Z9=>?_) (fun Z9=>?_)))
 ·refine ak (aq (ab 1 (Zq 3 [2] ?_)))
  obtain ⟨x1,Z3⟩:=Zt im.procs k om
  have hpz:=hz.procs _ (Y3 Z3)
  have Y4:=hpz.params
  have Yr:=hpz.lent
  have YR:=hpz.len
  refine Zs (Zh none (k:Int) 5 (Ku Z3)) (Z0 1 (iA [nl,nl,.i 0,.i 0,nl] fun b4=>Zy 0 b4 (Ul x1) (ie (ar (ES 6 fun g2=>?_)))))
  refine Z1 (Y6 (ab 2 (Y0 (fun fz gz m F h=>∃(j:Nat) (r:Hd),(j<=x1.code.length)/\F=sF [1,2,3,4,5] fz [(6,.h r),(7,.i j)]/\h=[Zi gz 1,Zi gz 2,Zi gz 3,Zi gz 4,Zi gz 5,Zi gz 6,Zi gz 7,Zi gz 8,Zi gz 9,rK r 6 (Zg (Y9 (x1.code.take j)))]/\m=x1.code.length-j) _ _ _ ⟨0,(⟨some ⟨g2,0,none⟩,0,0⟩:Hd),ob,rfl,rfl,rfl⟩ (wk [1,1,1,1,1,1,1,1,1,0] (fr (Ya fl)) (e:=(rc (rc (rc (rc (rc (rc (rc (rc (rc (rr (ls:=[]) (by first|rfl|(rw [List.take_zero];rfl)) rz)))))))))))) ?_)))
  rintro m F h ⟨j,r,VA,rfl,rfl,rfl⟩
  refine Ys 3 [0] (iw (T8 x1.code) (Y2 ((j:Int)<(x1.code.length:Int)) (fun Zj=>?_) (fun Zj=>?_)))
  ·refine ak (aq (ab 3 (az (Zz 4 [0] ?_))))
   obtain ⟨x2,Zu⟩:=Zt x1.code j om
   have hxz:=(hpz.code _ (Y3 Zu)).l
   exact Zs (Zh none (j:Int) 6 (Qw Zu)) (Z0 1 (Zw [] (MB x2) (iL (Y9 [x2]) 1 6 fun v1=>ZQ 0 [(40,K8 [x2])] (GU 10 j r 6 (Zg (Y9 (x1.code.take j))) (Y9 [x2]) none (by rw [TD,Wi,Uc om]) (Jw _) (EB _) (List.cons_ne_nil _ _) (by simp<;>omega) fun v2=>Z1 (az (Z0 1 (ZD j (Z1 (ZF ⟨j+1,v2,ob,rfl,rfl,rfl⟩ (wk [2,2,2,2,2,2,2,2,2,0] (fr (ZI j fl)) (e:=(rc (rc (rc (rc (rc (rc (rc (rc (rc (rr (ls:=Zg (Y9 (x1.code.take j))++Zg (Y9 [x2])) (Z78 Zu) rz)))))))))))))))))))))
  refine ax 2 (aE 18 (ZW 7 18 [0,1,2,3,5,6,8,9,10,11,12] [1,0,0,0,0] (Z7 4 (dc 4 [] [0,0,0,1] [b4,b4,b4,b3] (WV x1.params) ?_))))
  rintro _ _ ⟨v3,rfl,rfl⟩
  refine Z7 7 (dc 7 [] [0,0,1] [b4,b4,b3] (WV x1.lent) ?_)
  rintro _ _ ⟨v4,rfl,rfl⟩
  exact Yt 4 5 [13] [(55,.agg [Z4 x1.params,Z4 x1.lent,.i x1.result,.i x1.regs,.h r])] (Z7 14 (dL 14 [1] [b3] [.agg [Z4 x1.params,Z4 x1.lent,.i x1.result,.i x1.regs,.h r]] 1 5 fun v5=>Yt 3 3 [] [(56,.sl [.agg [Z4 x1.params,Z4 x1.lent,.i x1.result,.i x1.regs,.h r]] none)] (Z7 15 (ID 15 7 k [] [] v 5 (pD (Xw U) (im.procs.take k) 0) [.agg [Z4 x1.params,Z4 x1.lent,.i x1.result,.i x1.regs,.h r]] none (by rw [JN,Wi,Uc om]) (J6 rfl) rfl (List.cons_ne_nil _ _) (by simp<;>omega) fun v6=>Zp 1 2 [16] (Z7 17 (X3 17 5 [] [] b3 [Ye im.decls,.h v6] (Cp (HS 12 r.v 6 (Zg (Y9 (x1.code.take j))) (Zg (Y9 x1.code)) (by rw [WI om])) (Cp (Zhh 0 8 8 8 8 U im.procs k x1 r Z3 om) (de (az (Z0 1 (ZD k (Z1 (ZF ⟨k+1,v6,(U9 U k r),ob,rfl,rfl,rfl⟩ (wk [4,9,9,4,0,0,0,0] (ZI k fl) (e:=(rc (rc (rc (rr (ls:=pD (Xw U) (im.procs.take k) 0++Zg [.agg [Z4 x1.params,Z4 x1.lent,.i x1.result,.i x1.regs,.h r]]) (by first|rfl|exact Zd2 Z3) (rc (rc (rc (rc rz))))))))))))))))))))))))
 exact ax 0 (Zq 1 [0] (Zy 1 b2 [Ye im.decls,.h v] (ie (ZY (r3 [3,3,3,3,3] [.agg [Ye im.decls,.h v]] [0] [(b2,b2)] ⟨v,U,rfl,rfl⟩ (lr _) (eq:=(rr (ls:=pD (Xw U) (im.procs.take k) 0) (by rw [WI om]) (rr (ls:=Zg (Y9 (cL (im.procs.take k) 0))) (by rw [WI om]) (rr (ls:=Zg (Y9 (cL (im.procs.take k) 1))) (by rw [WI om]) (rr (ls:=Zg (Y9 (cL (im.procs.take k) 2))) (by rw [WI om]) (rr (ls:=Zg (Y9 (cL (im.procs.take k) 3))) (by rw [WI om]) rz)))))))))))
theorem Z7p (rd:Nat) (bs:LI) (p:Nat) (im:YA) (ZL:∀z∈bs,0<=z/\z<=255) (hp:p+11<=1000000000:=by exact ob) (hb:IB im:=by exact ob):Zo 56 [.p rd 0,V7 im] [YI rd bs p] (fun r h=>∃(y:YA) (p2:Nat),r=V7 y/\h=[YI rd bs p2]/\IB y/\p<=p2/\p2<=p+11):=by
 have hil:=hb.len
 refine ZE 52 Tryz.func56 (ar (iA (Vd im) fun b1=>iA [nl,nl] fun b2=>ie (Zq 1 [1] (ic [] (NO im 0 (hz:=hb.z)) ?_))))
 rintro _ _ ⟨v1,U1,rfl,rfl⟩
 refine ER 0 im.procs.length (v:=v1) (JN (Xw U1) im.procs 0) om (fun g1 c1 he1=>?_)
 subst he1
 refine iA [nl,nl] fun b3=>Zy 0 b3 [Ye im.decls,.ms g1 0 im.procs.length c1] (ie (YM 1 (ic [8] (Jx rd bs p 2 (ZL:=ob)) ?_)))
 rintro _ _ ⟨YU,rfl,rfl,Y4⟩
 refine ia ((((YU+1):Nat):Int)) ((1)+((YU:Int))) (Z1 (ab 0 (Y0 (fun fz gz m F h=>∃(mm:Nat) (X:List ZT) (U:Nat->Hd) (pq:Nat),(mm<=2)/\(X.length=im.procs.length)/\(IB ⟨im.decls,X⟩)/\(p<=pq/\pq+5*mm<=p+11)/\F=sF [0,4,5] fz [(6,.i mm)]/\h=[YI rd bs pq,Zi gz 1,Zi gz 7,.row (.slice (some ⟨g1,0,none⟩) im.procs.length c1) 5 (pD (Xw U) X 0),rK (U 0) 6 (Zg (Y9 (cL X 0))),rK (U 1) 6 (Zg (Y9 (cL X 1))),rK (U 2) 6 (Zg (Y9 (cL X 2))),rK (U 3) 6 (Zg (Y9 (cL X 3)))]/\m=mm+1) _ _ _ ⟨(YU+1),im.procs,U1,(p+1),ob,rfl,hb,ob,rfl,rfl,rfl⟩ (wk [0,0,5,0,0,0,0,0] fl) ?_)))
 rintro m F h ⟨mm,X,U,pq,Yj,Zf,ZB,YL,rfl,rfl,rfl⟩
 refine Xd (Y2 ((mm:Int)>0) (fun Z9=>?_) (fun Z9=>?_))
 ·refine ak (aq (ab 1 (Zq 3 [1] (io (.i im.procs.length) (.i im.procs.length) (lr _) (ic [0] (Jx rd bs pq im.procs.length (ZL:=ob)) ?_)))))
  rintro _ _ ⟨Xi,rfl,rfl,Yr⟩
  obtain ⟨xp,hxp⟩:=Zt X Xi om
  have hpb:=ZB.procs xp (Y3 hxp)
  have hpl:=hpb.len
  obtain ⟨uf1,huf1⟩:∃u:Hd,u=U Xi:=⟨_,rfl⟩
  refine Xn (Z1g 4 4 4 4 U X Xi uf1 xp.code om huf1 (Ck hxp)) (ER 0 xp.code.length (v:=uf1) (TD _) om (fun g2 c2 he2=>?_))
  subst he2
  refine Xn (Z1l [0,3,3,3,3,0,0,0] (h':=[.row (.slice (some ⟨g2,0,none⟩) xp.code.length c2) 6 (Zg (Y9 xp.code)),.obj rd [Um bs,.i (pq+1:Nat)],.obj b3 [Ye im.decls,.ms g1 0 im.procs.length c1],.obj b2 [nl,nl],.row (.slice (some ⟨g1,0,none⟩) im.procs.length c1) 5 (pD (Xw U) X 0),rK (U ((Xi+1) % 4)) 6 (Zg (Y9 (cL X ((Xi+1) % 4)))),rK (U ((Xi+2) % 4)) 6 (Zg (Y9 (cL X ((Xi+2) % 4)))),rK (U ((Xi+3) % 4)) 6 (Zg (Y9 (cL X ((Xi+3) % 4))))]) (d:=[]) kr) (Z1 (Zq 4 [2] (Zs (W6 g1 im.procs.length c1 Xi 5 (Xi:Int)) (Z0 1 (Uh (Vo 4 g1 im.procs.length c1 5 (Xi*5+4) (pD (Xw U) X 0) [.ms g2 0 xp.code.length c2] 41 (.ms g2 0 xp.code.length c2) (by have h:=Hq (D:=Xw U) hxp rfl;rw [<-huf1] at h;exact h)) (io (.i xp.code.length) (.i xp.code.length) (lr _) (ic [1] (Jx rd bs (pq+1) xp.code.length (ZL:=ob)) ?_)))))))
  rintro _ _ ⟨K7,rfl,rfl,YR⟩
  obtain ⟨xi,hxi⟩:=Zt xp.code K7 om
  have hxb:=hpb.code xi (Y3 hxi)
  refine Z1 (aE 20 (ZW 17 20 [0,1,2] [2] (dx 3 (W6 g1 im.procs.length c1 Xi 5 (Xi:Int)) (Zp 15 16 [4] (UA 5 (Vo 4 g1 im.procs.length c1 5 (Xi*5+4) (pD (Xw U) X 0) [.ms g2 0 xp.code.length c2] 41 (.ms g2 0 xp.code.length c2) (by have h:=Hq (D:=Xw U) hxp rfl;rw [<-huf1] at h;exact h)) (ZW 9 14 [6,7,8,9,10] [2] (dx 11 (W6 g1 im.procs.length c1 Xi 5 (Xi:Int)) (Zp 7 8 [12] (UA 13 (Vo 4 g1 im.procs.length c1 5 (Xi*5+4) (pD (Xw U) X 0) [.ms g2 0 xp.code.length c2] 41 (.ms g2 0 xp.code.length c2) (by have h:=Hq (D:=Xw U) hxp rfl;rw [<-huf1] at h;exact h)) (Zp 5 6 [14] (dx 15 (W6 g2 xp.code.length c2 K7 6 (K7:Int)) (UA 16 (Vo 1 g2 xp.code.length c2 6 (K7*6) (Zg (Y9 xp.code)) (Ve xi) 45 (T2 xi) (Lk hxi)) (Z7 17 (dc 17 [0] [3,1] [g1,b3] (Z7o rd bs ((pq+1)+1) xi (ZL:=ob) (hx:=hxb)) ?_))))))))))))))
  rintro _ _ ⟨y1,p21,rfl,rfl,YV⟩
  have hby:=YV
  exact dx 18 (W6 g2 xp.code.length c2 K7 6 (K7:Int)) (Z7 19 (Ac 19 1 [] [] g2 xp.code.length c2 6 (K7*6) (Ve y1) (Zg (Y9 xp.code)) (Zg (Y9 (xp.code.set K7 y1))) (by rw [TD];simp only [Yo,YC];omega) (GG (t:=y1) hxi) (Cp (Ec 0 4 4 4 U X (X.set Xi (ZT.mk xp.params xp.lent xp.result xp.regs (xp.code.set K7 y1))) Xi (⟨some ⟨g2,0,none⟩,xp.code.length,c2⟩:Hd) (xp.code.set K7 y1) om huf1 (Ex hxp) (fun i hi=>Ew hi)) (de (az (Z0 1 (ia ((((mm-1):Nat):Int)) (((mm:Int))-(1)) (Z1 (ZF ⟨(mm-1),(X.set Xi (ZT.mk xp.params xp.lent xp.result xp.regs (xp.code.set K7 y1))),U,p21,ob,(by rw [VQ];exact Zf),(ZB.len_put hxp hby.1),ob,rfl,rfl,rfl⟩ (wk [4,4,4,4,0,0,0,0] fl (e:=(rc (rc (rc (rr (ls:=pD (Xw U) X 0) (by first|rfl|exact (RO hxp).symm) (rc (rc (rc (rc rz)))))))))))))))))))
 exact ax 0 (ar (Xn (D4 3 3 3 3 3 U X (.slice (some ⟨g1,0,none⟩) im.procs.length c1) om) (Xn (Uy 0 1 1 (.slice (some ⟨g1,0,none⟩) im.procs.length c1) 5 b3 (W5 X) [Ye im.decls,.ms g1 0 im.procs.length c1] (Kv _) rfl) (Zz 1 [0] (Zy 3 b2 [Ye im.decls,VL X (.slice (some ⟨g1,0,none⟩) im.procs.length c1)] (ie (ZY (r3 [3] [.agg [Ye im.decls,VL X (.slice (some ⟨g1,0,none⟩) im.procs.length c1)]] [0] [(b2,b2)] ⟨(YA.mk im.decls X),pq,rfl,rfl,⟨ZB,by omega,by omega⟩⟩ (Zd.agg (.cons (lr _) (.cons (Zd.forget _ _) .nil)))))))))))
theorem Pj (rd:Nat) (bs:LI) (p:Nat) (im:YA) (often:Nat) (lz:Nat) (ZL:∀z∈bs,0<=z/\z<=255) (hp:p+8<=1000000000:=by exact ob) (hz:IZ im lz:=by exact ob) (hlz:lz<=50:=by exact ob):Zo 57 [.p rd 0,V7 im,.i often] [YI rd bs p] (fun r h=>∃(y:YA) (p2:Nat),r=V7 y/\h=[YI rd bs p2]/\IZ y (lz+1)/\p<=p2/\p2<=p+8):=by
 have hil:=hz.len
 refine ZE 126 Tryz.func57 (ar (iA (Vd im) fun b1=>iA [nl,nl] fun b2=>ie (YM 2 (ic [2] (XX rd bs p (often:Int) (ZL:=ob)) ?_))))
 rintro _ _ ⟨k1,rfl,rfl,Y4⟩
 refine Y2 (k1>0) (fun Z9=>?_) (fun Z9=>?_)
 ·exact Zq 1 [2] (Zy 1 b2 (Vd im) (ie (ZY (r3 [1] [V7 im] [0] [(b2,b2)] ⟨im,p+1,rfl,rfl,(by first|exact ⟨hz.le (Nat.le_succ lz),by omega,by omega⟩|exact ⟨hz.ds had.1,by omega,by omega⟩|exact ⟨hz.put (Nat.le_succ lz) hz.decls (hpz.nl om),by omega,by omega⟩|exact ⟨hz.put (Nat.le_succ lz) hz.decls (hpz.nr (by rcases hon with e|e|e|e|e<;>omega)),by omega,by omega⟩|exact ⟨hz.put (Nat.le_succ lz) hz.decls (hpz.cut _ _),by omega,by omega⟩|exact ⟨hz.put (Nat.le_succ lz) hz.decls (hpz.set (Nat.le_succ lz) hsi.1),by omega,by omega⟩)⟩ (lr _)))))
 refine ak (Zq 1 [2] (ic [] (NO im lz (hz:=hz)) ?_))
 rintro _ _ ⟨v1,U1,rfl,rfl⟩
 refine ER 0 im.procs.length (v:=v1) (JN (Xw U1) im.procs 0) om (fun g1 c1 he1=>?_)
 subst he1
 refine iA [nl,nl] fun b3=>Zy 0 b3 [Ye im.decls,.ms g1 0 im.procs.length c1] (ie (Zq 3 [0] (io (.i im.procs.length) (.i im.procs.length) (lr _) (ic [6] (Jx rd bs (p+1) im.procs.length (ZL:=ob)) ?_))))
 rintro _ _ ⟨YU,rfl,rfl,Yr⟩
 obtain ⟨xp,hxp⟩:=Zt im.procs YU om
 have hpz:=hz.procs xp (Y3 hxp)
 have hpl:=hpz.len
 have Y4:=hpz.lent
 have Yr:=hpz.regs
 obtain ⟨uf1,huf1⟩:∃u:Hd,u=U1 YU:=⟨_,rfl⟩
 refine Xn (Z1g 3 3 3 3 U1 im.procs YU uf1 xp.code om huf1 (Ck hxp)) (Xn (Z1l [4,4,4,4,4,0,0,0,0] (h':=[.obj rd [Um bs,.i (((p+1)+1:Nat):Int)],.obj b3 [Ye im.decls,.ms g1 0 im.procs.length c1],.row (.slice (some ⟨g1,0,none⟩) im.procs.length c1) 5 (pD (Xw U1) im.procs 0),.obj b2 [nl,nl],.obj b1 (Vd im),rK uf1 6 (Zg (Y9 xp.code)),rK (U1 ((YU+1) % 4)) 6 (Zg (Y9 (cL im.procs ((YU+1) % 4)))),rK (U1 ((YU+2) % 4)) 6 (Zg (Y9 (cL im.procs ((YU+2) % 4)))),rK (U1 ((YU+3) % 4)) 6 (Zg (Y9 (cL im.procs ((YU+3) % 4))))]) (d:=[]) kr) (Z1 (Zq 3 [1] (Zs (W6 g1 im.procs.length c1 YU 5 (YU:Int)) (Uh (Vo 2 g1 im.procs.length c1 5 (YU*5) (pD (Xw U1) im.procs 0) [Z4 xp.params,Z4 xp.lent,.i xp.result,.i xp.regs,.h uf1] 43 (.agg [Z4 xp.params,Z4 xp.lent,.i xp.result,.i xp.regs,.h uf1]) (by have h:=RQ (D:=Xw U1) hxp;rw [show B9 (Xw U1 YU) xp=CJ xp (U1 YU).v from rfl,<-huf1] at h;exact h)) (iA [nl,nl,.i 0,.i 0,nl] fun b4=>Zy 0 b4 [Z4 xp.params,Z4 xp.lent,.i xp.result,.i xp.regs,.h uf1] (ie (Ys 2 [0] (Zs (LR 6 xp.code.length uf1 6 (Zg (Y9 xp.code)) (TD xp.code)) (YB ((xp.code.length:Int)==0) Ze (fun Zj=>?_) (fun Zj=>?_)))))))))))
 ·exact ar (Xn (Ec 6 6 6 6 U1 im.procs im.procs YU uf1 xp.code om huf1 (Ck hxp) (fun i hi=>rfl)) (Xn (D4 7 0 0 0 0 U1 im.procs (.slice (some ⟨g1,0,none⟩) im.procs.length c1) om) (Xn (Uy 0 2 1 (.slice (some ⟨g1,0,none⟩) im.procs.length c1) 5 b3 (W5 im.procs) [Ye im.decls,.ms g1 0 im.procs.length c1] (Kv _) rfl) (Zz 1 [0] (Zy 4 b2 [Ye im.decls,VL im.procs (.slice (some ⟨g1,0,none⟩) im.procs.length c1)] (ie (ZY (r3 [4] [.agg [Ye im.decls,VL im.procs (.slice (some ⟨g1,0,none⟩) im.procs.length c1)]] [0] [(b2,b2)] ⟨im,(p+1)+1,rfl,rfl,(by first|exact ⟨hz.le (Nat.le_succ lz),by omega,by omega⟩|exact ⟨hz.ds had.1,by omega,by omega⟩|exact ⟨hz.put (Nat.le_succ lz) hz.decls (hpz.nl om),by omega,by omega⟩|exact ⟨hz.put (Nat.le_succ lz) hz.decls (hpz.nr (by rcases hon with e|e|e|e|e<;>omega)),by omega,by omega⟩|exact ⟨hz.put (Nat.le_succ lz) hz.decls (hpz.cut _ _),by omega,by omega⟩|exact ⟨hz.put (Nat.le_succ lz) hz.decls (hpz.set (Nat.le_succ lz) hsi.1),by omega,by omega⟩)⟩ (Zd.agg (.cons (lr _) (.cons (Zd.forget _ _) .nil)))))))))))
 refine LQ 6 xp.code.length (v:=uf1) (TD _) om (fun g2 c2 he2=>?_)
 subst he2
 refine ak (YM 1 (ic [1] (XX rd bs ((p+1)+1) 8 (ZL:=ob)) ?_))
 rintro _ _ ⟨k2,rfl,rfl,YR⟩
 refine ie (ab 0 (ar (YB (k2==0) Ze (fun ZA=>?_) (fun ZA=>?_))))
 ·refine aE 18 (ZW 4 18 [0,1,2,3,4,5,6,7,9,10,11,12,13,14] [2,1,1,1,1,1] (Z7 8 (dc 8 [0] [0,0,0,0,1] [b4,b4,b4,b4,b3] (Lu rd bs (((p+1)+1)+1) xp.lent (ZL:=ob)) ?_)))
  rintro _ _ ⟨zs1,p21,rfl,rfl,YV⟩
  have hsn:=YV
  exact Zp 2 3 [15] (dx 16 (W6 g1 im.procs.length c1 YU 5 (YU:Int)) (Z7 17 (Ac 17 3 [] [] g1 im.procs.length c1 5 (YU*5) [Z4 xp.params,Z4 zs1,.i xp.result,.i xp.regs,.ms g2 0 xp.code.length c2] (pD (Xw U1) im.procs 0) (pD (Xw U1) (im.procs.set YU (ZT.mk xp.params zs1 xp.result xp.regs xp.code)) 0) (by rw [JN];simp only [Yo,YC];omega) (by have h:=Mb (U:=U1) (q:=(ZT.mk xp.params zs1 xp.result xp.regs xp.code)) (u:=(⟨some ⟨g2,0,none⟩,xp.code.length,c2⟩:Hd)) hxp;rw [MQ huf1] at h;exact h) (de (ar (Xn (Ec 6 6 6 6 U1 im.procs (im.procs.set YU (ZT.mk xp.params zs1 xp.result xp.regs xp.code)) YU (⟨some ⟨g2,0,none⟩,xp.code.length,c2⟩:Hd) xp.code om huf1 (Ex hxp) (fun i hi=>Ew hi)) (Xn (D4 4 0 0 0 0 U1 (im.procs.set YU (ZT.mk xp.params zs1 xp.result xp.regs xp.code)) (.slice (some ⟨g1,0,none⟩) im.procs.length c1) (by rw [VQ];omega)) (Xn (Uy 0 2 1 (.slice (some ⟨g1,0,none⟩) im.procs.length c1) 5 b3 (W5 (im.procs.set YU (ZT.mk xp.params zs1 xp.result xp.regs xp.code))) [Ye im.decls,.ms g1 0 im.procs.length c1] (Kv _) rfl) (Zz 1 [0] (Zy 4 b2 [Ye im.decls,VL (im.procs.set YU (ZT.mk xp.params zs1 xp.result xp.regs xp.code)) (.slice (some ⟨g1,0,none⟩) im.procs.length c1)] (ie (ZY (r3 [3] [.agg [Ye im.decls,VL (im.procs.set YU (ZT.mk xp.params zs1 xp.result xp.regs xp.code)) (.slice (some ⟨g1,0,none⟩) im.procs.length c1)]] [0] [(b2,b2)] ⟨(YA.mk im.decls (im.procs.set YU (ZT.mk xp.params zs1 xp.result xp.regs xp.code))),p21,rfl,rfl,(by first|exact ⟨hz.le (Nat.le_succ lz),by omega,by omega⟩|exact ⟨hz.ds had.1,by omega,by omega⟩|exact ⟨hz.put (Nat.le_succ lz) hz.decls (hpz.nl om),by omega,by omega⟩|exact ⟨hz.put (Nat.le_succ lz) hz.decls (hpz.nr (by rcases hon with e|e|e|e|e<;>omega)),by omega,by omega⟩|exact ⟨hz.put (Nat.le_succ lz) hz.decls (hpz.cut _ _),by omega,by omega⟩|exact ⟨hz.put (Nat.le_succ lz) hz.decls (hpz.set (Nat.le_succ lz) hsi.1),by omega,by omega⟩)⟩ (Zd.agg (.cons (lr _) (.cons (Zd.forget _ _) .nil))))))))))))))))
 refine ar (YB (k2==1) Ze (fun Yi=>?_) (fun Yi=>?_))
 ·refine aE 20 (ZW 8 20 [0,1,2,3,4,5,6,7,8,9,10,11] [2,1,1,1,1] (da 12 ((xp.regs+1)) ((xp.regs)+(1)) (ZW 5 7 [15,16] [1] (Z7 13 (dL 13 [1,1,1,1,2] [b4,b4,b4,b4,b3] (Z6 [0,1,xp.regs+1,2001,-1]) 5 1 fun v2=>Yt 4 4 [] [(89,Z4 [0,1,xp.regs+1,2001,-1])] (Z7 14 (dc 14 [1] [0,0,0,0,1] [b4,b4,b4,b4,b3] (UT rd bs (((p+1)+1)+1) [0,1,xp.regs+1,2001,-1] (ZL:=ob)) ?_)))))))
  rintro _ _ ⟨z1,rfl,rfl,Xc⟩
  have hon:=Xc
  simp only [YN,List.not_mem_nil,or_false] at hon
  exact Zp 2 3 [17] (dx 18 (W6 g1 im.procs.length c1 YU 5 (YU:Int)) (Z7 19 (Ac 19 4 [] [] g1 im.procs.length c1 5 (YU*5) [Z4 xp.params,Z4 xp.lent,.i xp.result,.i z1,.ms g2 0 xp.code.length c2] (pD (Xw U1) im.procs 0) (pD (Xw U1) (im.procs.set YU (ZT.mk xp.params xp.lent xp.result z1 xp.code)) 0) (by rw [JN];simp only [Yo,YC];omega) (by have h:=Mb (U:=U1) (q:=(ZT.mk xp.params xp.lent xp.result z1 xp.code)) (u:=(⟨some ⟨g2,0,none⟩,xp.code.length,c2⟩:Hd)) hxp;rw [MQ huf1] at h;exact h) (de (ar (Xn (Ec 7 7 7 7 U1 im.procs (im.procs.set YU (ZT.mk xp.params xp.lent xp.result z1 xp.code)) YU (⟨some ⟨g2,0,none⟩,xp.code.length,c2⟩:Hd) xp.code om huf1 (Ex hxp) (fun i hi=>Ew hi)) (Xn (D4 4 0 0 0 0 U1 (im.procs.set YU (ZT.mk xp.params xp.lent xp.result z1 xp.code)) (.slice (some ⟨g1,0,none⟩) im.procs.length c1) (by rw [VQ];omega)) (Xn (Uy 0 3 1 (.slice (some ⟨g1,0,none⟩) im.procs.length c1) 5 b3 (W5 (im.procs.set YU (ZT.mk xp.params xp.lent xp.result z1 xp.code))) [Ye im.decls,.ms g1 0 im.procs.length c1] (Kv _) rfl) (Zz 1 [0] (Zy 5 b2 [Ye im.decls,VL (im.procs.set YU (ZT.mk xp.params xp.lent xp.result z1 xp.code)) (.slice (some ⟨g1,0,none⟩) im.procs.length c1)] (ie (ZY (r3 [3] [.agg [Ye im.decls,VL (im.procs.set YU (ZT.mk xp.params xp.lent xp.result z1 xp.code)) (.slice (some ⟨g1,0,none⟩) im.procs.length c1)]] [0] [(b2,b2)] ⟨(YA.mk im.decls (im.procs.set YU (ZT.mk xp.params xp.lent xp.result z1 xp.code))),(((p+1)+1)+1)+1,rfl,rfl,(by first|exact ⟨hz.le (Nat.le_succ lz),by omega,by omega⟩|exact ⟨hz.ds had.1,by omega,by omega⟩|exact ⟨hz.put (Nat.le_succ lz) hz.decls (hpz.nl om),by omega,by omega⟩|exact ⟨hz.put (Nat.le_succ lz) hz.decls (hpz.nr (by rcases hon with e|e|e|e|e<;>omega)),by omega,by omega⟩|exact ⟨hz.put (Nat.le_succ lz) hz.decls (hpz.cut _ _),by omega,by omega⟩|exact ⟨hz.put (Nat.le_succ lz) hz.decls (hpz.set (Nat.le_succ lz) hsi.1),by omega,by omega⟩)⟩ (Zd.agg (.cons (lr _) (.cons (Zd.forget _ _) .nil))))))))))))))))
 refine ar (YB (k2==2) Ze (fun YG=>?_) (fun YG=>?_))
 ·refine aE 22 (ZW 8 22 [0,1,2,3,4,5,6,7,10,11,12,13,14,15] [2,1,1,1,1,1] (dn 16 (.i xp.code.length) (.i xp.code.length) (lr _) (da 17 ((((xp.code.length-1):Nat):Int)) (((xp.code.length:Int))-(1)) (dx 18 (PS 6 g2 xp.code.length c2 (xp.code.length-1) 6 (Zg (Y9 xp.code))) (Z7 8 (dL 8 [1,1,1,1,1,2] [b4,b4,b4,b4,b4,b3] (Z6 [0,1,9]) 3 1 fun v3=>Yt 4 4 [] [(105,Z4 [0,1,9])] (Z7 9 (dc 9 [1] [0,0,0,0,0,1] [b4,b4,b4,b4,b4,b3] (UT rd bs (((p+1)+1)+1) [0,1,9] (ZL:=ob)) ?_))))))))
  rintro _ _ ⟨z2,rfl,rfl,XK⟩
  have hon:=XK
  simp only [YN,List.not_mem_nil,or_false] at hon
  exact Zp 2 3 [19] (dx 20 (W6 g1 im.procs.length c1 YU 5 (YU:Int)) (Z7 21 (Ac 21 4 [] [] g1 im.procs.length c1 5 (YU*5) [Z4 xp.params,Z4 xp.lent,.i z2,.i xp.regs,.ms g2 0 (xp.code.length-1) c2] (pD (Xw U1) im.procs 0) (pD (Xw (U9 U1 YU (⟨some ⟨g2,0,none⟩,(xp.code.length-1),c2⟩:Hd))) (im.procs.set YU (ZT.mk xp.params xp.lent z2 xp.regs (xp.code.take (xp.code.length-1)))) 0) (by rw [JN];simp only [Yo,YC];omega) (by have h:=Mb (U:=U1) (q:=(ZT.mk xp.params xp.lent z2 xp.regs (xp.code.take (xp.code.length-1)))) (u:=(⟨some ⟨g2,0,none⟩,(xp.code.length-1),c2⟩:Hd)) hxp;exact h) (Cp (Zhi 7 g2 xp.code.length c2 (xp.code.length-1) 6 (Zg (Y9 xp.code)) (Zg (Y9 (xp.code.take (xp.code.length-1)))) om (Z7a _ _)) (de (ar (Xn (Z1f 0 7 7 7 U1 im.procs (im.procs.set YU (ZT.mk xp.params xp.lent z2 xp.regs (xp.code.take (xp.code.length-1)))) YU (⟨some ⟨g2,0,none⟩,(xp.code.length-1),c2⟩:Hd) (xp.code.take (xp.code.length-1)) om (Ex hxp) (fun i hi=>Ew hi)) (Xn (D4 4 0 0 0 0 (U9 U1 YU (⟨some ⟨g2,0,none⟩,(xp.code.length-1),c2⟩:Hd)) (im.procs.set YU (ZT.mk xp.params xp.lent z2 xp.regs (xp.code.take (xp.code.length-1)))) (.slice (some ⟨g1,0,none⟩) im.procs.length c1) (by rw [VQ];omega)) (Xn (Uy 0 3 1 (.slice (some ⟨g1,0,none⟩) im.procs.length c1) 5 b3 (W5 (im.procs.set YU (ZT.mk xp.params xp.lent z2 xp.regs (xp.code.take (xp.code.length-1))))) [Ye im.decls,.ms g1 0 im.procs.length c1] (Kv _) rfl) (Zz 1 [0] (Zy 5 b2 [Ye im.decls,VL (im.procs.set YU (ZT.mk xp.params xp.lent z2 xp.regs (xp.code.take (xp.code.length-1)))) (.slice (some ⟨g1,0,none⟩) im.procs.length c1)] (ie (ZY (r3 [3] [.agg [Ye im.decls,VL (im.procs.set YU (ZT.mk xp.params xp.lent z2 xp.regs (xp.code.take (xp.code.length-1)))) (.slice (some ⟨g1,0,none⟩) im.procs.length c1)]] [0] [(b2,b2)] ⟨(YA.mk im.decls (im.procs.set YU (ZT.mk xp.params xp.lent z2 xp.regs (xp.code.take (xp.code.length-1))))),(((p+1)+1)+1)+1,rfl,rfl,(by first|exact ⟨hz.le (Nat.le_succ lz),by omega,by omega⟩|exact ⟨hz.ds had.1,by omega,by omega⟩|exact ⟨hz.put (Nat.le_succ lz) hz.decls (hpz.nl om),by omega,by omega⟩|exact ⟨hz.put (Nat.le_succ lz) hz.decls (hpz.nr (by rcases hon with e|e|e|e|e<;>omega)),by omega,by omega⟩|exact ⟨hz.put (Nat.le_succ lz) hz.decls (hpz.cut _ _),by omega,by omega⟩|exact ⟨hz.put (Nat.le_succ lz) hz.decls (hpz.set (Nat.le_succ lz) hsi.1),by omega,by omega⟩)⟩ (Zd.agg (.cons (lr _) (.cons (Zd.forget _ _) .nil)))))))))))))))))
 refine ar (YB (k2==3) Ze (fun X2=>?_) (fun X2=>?_))
 ·refine aD 6 (Zp 4 6 [0,2] (Cp (Ec 6 6 6 6 U1 im.procs im.procs YU (⟨some ⟨g2,0,none⟩,xp.code.length,c2⟩:Hd) xp.code om huf1 (Ck hxp) (fun i hi=>rfl)) (Cp (D4 7 0 0 0 0 U1 im.procs (.slice (some ⟨g1,0,none⟩) im.procs.length c1) om) (Cp (Uy 0 2 1 (.slice (some ⟨g1,0,none⟩) im.procs.length c1) 5 b3 (W5 im.procs) [Ye im.decls,.ms g1 0 im.procs.length c1] (Kv _) rfl) (ZW 3 4 [3] [0] (Z7 1 (dc 1 [2] [0] [b3] (Z7k rd bs (((p+1)+1)+1) (ZL:=ob)) ?_)))))))
  rintro _ _ ⟨dz1,p22,rfl,rfl,Wc⟩
  have had:=Wc
  exact Zp 1 2 [4] (Z7 5 (X3 5 4 [] [] b2 [Ye dz1,VL im.procs (.slice (some ⟨g1,0,none⟩) im.procs.length c1)] (de (ZY (r3 [1] [.agg [Ye dz1,VL im.procs (.slice (some ⟨g1,0,none⟩) im.procs.length c1)]] [0] [(b2,b2)] ⟨(YA.mk dz1 im.procs),p22,rfl,rfl,(by first|exact ⟨hz.le (Nat.le_succ lz),by omega,by omega⟩|exact ⟨hz.ds had.1,by omega,by omega⟩|exact ⟨hz.put (Nat.le_succ lz) hz.decls (hpz.nl om),by omega,by omega⟩|exact ⟨hz.put (Nat.le_succ lz) hz.decls (hpz.nr (by rcases hon with e|e|e|e|e<;>omega)),by omega,by omega⟩|exact ⟨hz.put (Nat.le_succ lz) hz.decls (hpz.cut _ _),by omega,by omega⟩|exact ⟨hz.put (Nat.le_succ lz) hz.decls (hpz.set (Nat.le_succ lz) hsi.1),by omega,by omega⟩)⟩ (Zd.agg (.cons (lr _) (.cons (Zd.forget _ _) .nil))))))))
 refine Zq 3 [1] (io (.i xp.code.length) (.i xp.code.length) (lr _) (ic [0] (Jx rd bs (((p+1)+1)+1) xp.code.length (ZL:=ob)) ?_))
 rintro _ _ ⟨Xi,rfl,rfl,WF⟩
 obtain ⟨xi,hxi⟩:=Zt xp.code Xi om
 have hxz:=hpz.code xi (Y3 hxi)
 refine Z1 (aE 16 (ZW 13 16 [0,1,2] [2] (dx 3 (W6 g1 im.procs.length c1 YU 5 (YU:Int)) (Zp 11 12 [4] (UA 5 (Vo 3 g1 im.procs.length c1 5 (YU*5+4) (pD (Xw U1) im.procs 0) [.ms g2 0 xp.code.length c2] 41 (.ms g2 0 xp.code.length c2) (by have h:=Hq (D:=Xw U1) hxp rfl;rw [<-huf1] at h;exact h)) (ZW 5 10 [6,7,8,9,10] [1] (dx 11 (W6 g2 xp.code.length c2 Xi 6 (Xi:Int)) (UA 12 (Vo 6 g2 xp.code.length c2 6 (Xi*6) (Zg (Y9 xp.code)) (Ve xi) 45 (T2 xi) (Lk hxi)) (Z7 13 (dc 13 [0] [2,1] [g1,b3] (Z9b rd bs ((((p+1)+1)+1)+1) xi lz (ZL:=ob) (hx:=hxz)) ?_))))))))))
 rintro _ _ ⟨y1,p23,rfl,rfl,V1⟩
 have hsi:=V1
 exact dx 14 (W6 g2 xp.code.length c2 Xi 6 (Xi:Int)) (Z7 15 (Ac 15 6 [] [] g2 xp.code.length c2 6 (Xi*6) (Ve y1) (Zg (Y9 xp.code)) (Zg (Y9 (xp.code.set Xi y1))) (by rw [TD];simp only [Yo,YC];omega) (GG (t:=y1) hxi) (de (ar (Xn (HS 4 (.slice (some ⟨g1,0,none⟩) im.procs.length c1) 5 (pD (Xw U1) im.procs 0) (pD (Xw U1) (im.procs.set YU (ZT.mk xp.params xp.lent xp.result xp.regs (xp.code.set Xi y1))) 0) (RO hxp).symm) (Xn (Ec 1 6 6 6 U1 im.procs (im.procs.set YU (ZT.mk xp.params xp.lent xp.result xp.regs (xp.code.set Xi y1))) YU (⟨some ⟨g2,0,none⟩,xp.code.length,c2⟩:Hd) (xp.code.set Xi y1) om huf1 (Ex hxp) (fun i hi=>Ew hi)) (Xn (D4 4 0 0 0 0 U1 (im.procs.set YU (ZT.mk xp.params xp.lent xp.result xp.regs (xp.code.set Xi y1))) (.slice (some ⟨g1,0,none⟩) im.procs.length c1) (by rw [VQ];omega)) (Xn (Uy 0 2 1 (.slice (some ⟨g1,0,none⟩) im.procs.length c1) 5 b3 (W5 (im.procs.set YU (ZT.mk xp.params xp.lent xp.result xp.regs (xp.code.set Xi y1)))) [Ye im.decls,.ms g1 0 im.procs.length c1] (Kv _) rfl) (Zz 1 [0] (Zy 4 b2 [Ye im.decls,VL (im.procs.set YU (ZT.mk xp.params xp.lent xp.result xp.regs (xp.code.set Xi y1))) (.slice (some ⟨g1,0,none⟩) im.procs.length c1)] (ie (ZY (r3 [3] [.agg [Ye im.decls,VL (im.procs.set YU (ZT.mk xp.params xp.lent xp.result xp.regs (xp.code.set Xi y1))) (.slice (some ⟨g1,0,none⟩) im.procs.length c1)]] [0] [(b2,b2)] ⟨(YA.mk im.decls (im.procs.set YU (ZT.mk xp.params xp.lent xp.result xp.regs (xp.code.set Xi y1)))),p23,rfl,rfl,(by first|exact ⟨hz.le (Nat.le_succ lz),by omega,by omega⟩|exact ⟨hz.ds had.1,by omega,by omega⟩|exact ⟨hz.put (Nat.le_succ lz) hz.decls (hpz.nl om),by omega,by omega⟩|exact ⟨hz.put (Nat.le_succ lz) hz.decls (hpz.nr (by rcases hon with e|e|e|e|e<;>omega)),by omega,by omega⟩|exact ⟨hz.put (Nat.le_succ lz) hz.decls (hpz.cut _ _),by omega,by omega⟩|exact ⟨hz.put (Nat.le_succ lz) hz.decls (hpz.set (Nat.le_succ lz) hsi.1),by omega,by omega⟩)⟩ (Zd.agg (.cons (lr _) (.cons (Zd.forget _ _) .nil))))))))))))))))
theorem Z7l (rd:Nat) (bs:LI) (p:Nat) (ZL:∀z∈bs,0<=z/\z<=255) (hp:p+400060<=1000000000:=by exact ob):Zo 30 [.p rd 0] [YI rd bs p] (fun r h=>∃(y:YA) (p2:Nat),r=V7 y/\h=[YI rd bs p2]/\IZ y 1/\p<=p2/\p2<=p+400060):=by
 refine ZE 15 Tryz.func30 (ar (iA [nl,nl] fun b1=>ie (Yf 1 (ic [1] (Z8e rd bs p (ZL:=ob)) ?_))))
 rintro _ _ ⟨im1,p21,rfl,rfl,Y4⟩
 have hgi:=Y4.1
 refine iA [nl,nl] fun b2=>Zy 0 b2 (Vd im1) (ie (YM 1 (ic [1] (XX rd bs p21 4 (ZL:=ob)) ?_)))
 rintro _ _ ⟨k1,rfl,rfl,Yr⟩
 refine YB (k1==0) Ze (fun Z9=>?_) (fun Z9=>?_)
 ·refine az (Zz 2 [1] (ic [0] (Z7p rd bs (p21+1) im1 (ZL:=ob) (hb:=hgi.ib)) ?_))
  rintro _ _ ⟨y1,p22,rfl,rfl,YR⟩
  have hbi:=YR.1
  refine Zy 1 b2 (Vd y1) (ie (Zq 2 [0] (ic [1] (Pj rd bs p22 y1 14 0 (ZL:=ob) (hz:=(by first|exact hbi.z|exact hgi.ib.z))) ?_)))
  rintro _ _ ⟨y2,p23,rfl,rfl,YV⟩
  have hsi:=YV.1
  exact Zy 2 b1 (Vd y2) (ie (ZY (r3 [1] [V7 y2] [0] [(b1,b1)] ⟨y2,p23,rfl,rfl,⟨hsi,by omega,by omega⟩⟩ (lr _))))
 refine ak (Zq 2 [1] (ic [0] (Pj rd bs (p21+1) im1 14 0 (ZL:=ob) (hz:=(by first|exact hbi.z|exact hgi.ib.z))) ?_))
 rintro _ _ ⟨y3,p24,rfl,rfl,Xc⟩
 have hsi:=Xc.1
 exact Zy 2 b1 (Vd y3) (ie (ZY (r3 [1] [V7 y3] [0] [(b1,b1)] ⟨y3,p24,rfl,rfl,⟨hsi,by omega,by omega⟩⟩ (lr _))))
theorem Z7j (code:LI) (hcl:code.length<=1048576:=by exact ob) (hcb:∀z∈code,0<=z/\z<=255):Zo 9 [Um code] [] (fun r h=>∃(y:YA),r=V7 y/\h=[]/\IZ y 1):=by
 refine ZE 6 Tryz.func9 (ar (iA [nl,nl] fun b1=>ie (Yf 1 (ic [] (Z8x code (hc:=hcb)) ?_))))
 rintro _ _ ⟨rd1,bs1,rfl,rfl,Y4⟩
 have hnr:=Y4
 refine ic [0] (Z7l rd1 bs1 0 (ZL:=hnr)) ?_
 rintro _ _ ⟨y1,p21,rfl,rfl,Yr⟩
 have hai:=Yr.1
 exact Zy 1 b1 (Vd y1) (ie (ZY (r3 [] [V7 y1] [0] [(b1,b1)] ⟨y1,rfl,rfl,hai⟩ (lr _))))
theorem Z0t (im:YA) (num:Int) (na:Nat) (more:Nat) (hd:Xr im.decls:=by exact ob) (hpl:im.procs.length<=4:=by exact ob) (hps:∀p∈im.procs,p.params.length<=3) (hna:na<=1000000000:=by exact ob) (hmo:more<=10:=by exact ob):Zo 141 [V7 im,.i num,.i na,.i more] [] (Yx (.b (UV im num na more))):=by
 refine ZE 28 Tryz.func141 (ar (iA (Vd im) fun b1=>Z1 (Zq 3 [0] (iw (Qb im.procs) (ia (((im.procs.length:Int)-1)) (((im.procs.length:Int))-(1)) (Zw [] (Vf num 0 ((im.procs.length:Int)-1)) (Z0 1 (ib (b:=(decide (0<=num/\num<=((im.procs.length:Int)-1)))) 15 (fun Zc=>?_) (fun Zc=>?_)))))))))
 ·have Y4:0<=num/\num<=((im.procs.length:Int)-1):=(dq).1 Zc
  refine Zz 3 [0] ?_
  obtain ⟨x1,Z3⟩:=Zt im.procs num.toNat om
  have hpx:=hps _ (Y3 Z3)
  exact Zs (Zh none num 5 (Ku Z3)) (Z0 2 (iw (Yc x1.params) (Z0 2 (ia (((na+more:Nat):Int)) (((na:Int))+((more:Int))) (Zm (ZM (.b ((x1.params.length:Int)==((na+more:Nat):Int))) (lb (by first|(rw [(Hr Z3 om).1,Yg];simp;omega)|(rw [(Mf om).1])))))))))
 have Yr:¬(0<=num/\num<=((im.procs.length:Int)-1)):=Y7 dq Zc
 exact Zm (ZM (.b false) (lb (by first|(rw [(Hr Z3 om).1,Yg];simp;omega)|(rw [(Mf om).1]))))
theorem Zgu (ls:LI) (many:Nat) (k:Nat) (len:Nat) (hl:ls.length<=1000000000:=by exact ob) (hm:many<=1000000000:=by exact ob) (hk:k<=1000000000:=by exact ob) (hn:len<=1000000000:=by exact ob):Zo 143 [Z4 ls,.i many,.i k,.i len] [] (Yx (.b (decide (ls.length=many)&&Wf k len ls))):=by
 refine ZE 29 Tryz.func143 (Y1 (YM 1 (iw (Yc ls) (YB ((ls.length:Int) != (many:Int)) Yp (fun Z9=>?_) (fun Z9=>?_)))))
 ·exact ar (Zm (ZM (.b false) (lb (by rw [decide_eq_false om];rfl))))
 refine ak (Y6 (ab 0 (Y0 (fun fz gz m F h=>∃(j:Nat),(j<=many)/\(Wf k len (ls.drop j)=Wf k len ls)/\F=sF [0,1,2,3] fz [(9,.i j)]/\h=gz/\m=many-j) _ _ _ ⟨0,ob,rfl,rfl,rfl,rfl⟩ (wk [] (Ya fl)) ?_)))
 rintro m F h ⟨j,Yj,Zf,rfl,rfl,rfl⟩
 refine Xd (Y2 ((j:Int)<(many:Int)) (fun Zj=>?_) (fun Zj=>?_))
 ·refine ak (aq (ab 1 (Yf 2 ?_)))
  obtain ⟨x1,Z3⟩:=Zt ls j om
  refine Zs (Zh none (j:Int) 1 (Y8 Z3)) (Z0 2 (ZD k (Z0 1 (ia (((len:Int)-1)) (((len:Int))-(1)) (Zw [] (Vf x1 ((k+1:Nat):Int) ((len:Int)-1)) (YB (!(decide (((k+1:Nat):Int)<=x1/\x1<=((len:Int)-1)))) (p:=¬(((k+1:Nat):Int)<=x1/\x1<=((len:Int)-1))) (Yh dq) (fun ZA=>?_) (fun ZA=>?_)))))))
  ·exact ar (Zm (ZM (.b false) (lb (by rw [<-LX Z3 om Zf];simp))))
  exact ak (az (Z0 1 (ZD j (Z1 (ZF ⟨j+1,ob,(R0 Z3 om Zf),rfl,rfl,rfl⟩ (wk [] (ZI j fl)))))))
 exact ax 0 (ar (Zm (ZM (.b true) (lb (by rw [<-LY om Zf,decide_eq_true om];rfl)))))
theorem Zgs (im:YA) (p:ZT) (k:Nat) (x:Instr) (hd:Xr im.decls:=by exact ob) (hpl:im.procs.length<=4:=by exact ob) (hps:∀p∈im.procs,p.params.length<=3) (hx:p.code[k]? = some x:=by exact ob) (hcl:p.code.length<=200000000:=by exact ob) (hxl:x.args.length<=1000/\x.jumps.length<=1000:=by exact ob) (hrg:-1<=p.regs/\p.regs<=2000000000:=by exact ob):Zo 107 [V7 im,Cg p,.i k] [] (Yx (.b (Ug im p k x))):=by
 have hkl:=(Xh.1 hx).1
 have hk3:=DN hd x.num
 have hcf:=Vj hd x.num
 refine ZE 234 Tryz.func107 (ar (iA (Vd im) fun b1=>iA (Ul p) fun b2=>Z1 (Zq 3 [0] (Zs (Zh none (k:Int) 6 (Qw hx)) (Z0 1 (iA [.i 0,.i 0,.i 0,.i 0,nl,nl] fun b3=>?_))))))
 refine Zy 0 b3 (Ve x) (ie (Zq 2 [0] (iw (Yc x.args) (Z1 (Y6 (ab 0 (Y0 (fun fz gz m F h=>∃(j:Nat),(j<=x.args.length)/\(TH p.regs (x.args.drop j)=TH p.regs x.args)/\F=sF [2,3,4,7,8] fz [(9,.i j)]/\h=gz/\m=x.args.length-j) _ _ _ ⟨0,ob,rfl,rfl,rfl,rfl⟩ (Zv 3 (Ya fl)) ?_)))))))
 rintro m F h ⟨j,Yj,Zf,rfl,rfl,rfl⟩
 refine Xd (Y2 ((j:Int)<(x.args.length:Int)) (fun Z9=>?_) (fun Z9=>?_))
 ·refine ak (aq (ab 1 (aD 10 (ZW 7 10 [0,1,2] [0] ?_))))
  obtain ⟨x1,Z3⟩:=Zt x.args j om
  refine dx 3 (Zh none (j:Int) 1 (Y8 Z3)) (ZW 3 6 [4,5,6] [1] (da 7 ((p.regs-1)) ((p.regs)-(1)) (Z7 8 (YH 8 [] [] [] (Vf x1 0 (p.regs-1)) (Zp 0 1 [9] (de (ac (!(decide (0<=x1/\x1<=(p.regs-1)))) (p:=¬(0<=x1/\x1<=(p.regs-1))) (Yh dq) (fun Zj=>?_) (fun Zj=>?_))))))))
  ·exact ar (Zm (ZM (.b false) (lb (by rw [Ug,<-Sm Z3 om Zf];rfl))))
  exact ak (az (Z0 1 (ZD j (Z1 (ZF ⟨j+1,ob,(So Z3 om Zf),rfl,rfl,rfl⟩ (Zv 3 (ZI j fl)))))))
 refine ax 0 (Ys 4 [0,1] (ia ((p.regs-1)) ((p.regs)-(1)) (Zw [] (Vf x.dst 0 (p.regs-1)) (X6 18 [2,3,4,7,8] [(51,.b ((!(decide (0<=x.dst/\x.dst<=(p.regs-1))))||((x.dst != 0)&&(!(Ty x.op)))))] (fun gz=>gz) ?_ (fun hj1=>?_)))))
 ·refine X6 28 [2,3,4,7,8] [(61,.b (((!(decide (0<=x.dst/\x.dst<=(p.regs-1))))||((x.dst != 0)&&(!(Ty x.op))))||((x.into != 0)&&(x.op != 6))))] (fun gz=>gz) ?_ (fun hj2=>?_)
  ·refine Xp [2,3,4,7,8] [(72,.b ((((!(decide (0<=x.dst/\x.dst<=(p.regs-1))))||((x.dst != 0)&&(!(Ty x.op))))||((x.into != 0)&&(x.op != 6)))||((x.op != 21)&&(decide ((x.jumps.length:Int)>0)))))] (fun gz=>gz) ?_ ?_
   ·refine Z0 1 (ib (b:=(((!(decide (0<=x.dst/\x.dst<=(p.regs-1))))||((x.dst != 0)&&(!(Ty x.op))))||((x.into != 0)&&(x.op != 6)))) 62 (fun Zc=>?_) (fun Zc=>?_))
    ·have Y4:((¬(0<=x.dst/\x.dst<=(p.regs-1)))∨((x.dst≠0)/\(¬((Ty x.op)=true))))∨((x.into≠0)/\(x.op≠6)):=((ZO (ZO (Yh dq) (Yu Yp (Yh Iff.rfl))) (Yu Yp Yp))).1 Zc
     exact Z1 (Zv 3 (Zl true Zc fl))
    have Yr:¬(((¬(0<=x.dst/\x.dst<=(p.regs-1)))∨((x.dst≠0)/\(¬((Ty x.op)=true))))∨((x.into≠0)/\(x.op≠6))):=Y7 (ZO (ZO (Yh dq) (Yu Yp (Yh Iff.rfl))) (Yu Yp Yp)) Zc
    refine Zz 4 [0] (ib (b:=(x.op != 21)) 66 (fun ZC=>?_) (fun ZC=>?_))
    ·have YR:x.op≠21:=(Yp).1 ZC
     exact Zz 2 [0] (iw (Yc x.jumps) (Z1 (Zv 3 (Zl (decide ((x.jumps.length:Int)>0)) (And.intro Zc ZC) fl))))
    have YV:¬(x.op≠21):=Y7 Yp ZC
    exact Z1 (Zv 3 (Zl false (And.intro Zc ZC) fl))
   refine ac ((((!(decide (0<=x.dst/\x.dst<=(p.regs-1))))||((x.dst != 0)&&(!(Ty x.op))))||((x.into != 0)&&(x.op != 6)))||((x.op != 21)&&(decide ((x.jumps.length:Int)>0)))) (p:=(((¬(0<=x.dst/\x.dst<=(p.regs-1)))∨((x.dst≠0)/\(¬((Ty x.op)=true))))∨((x.into≠0)/\(x.op≠6)))∨((x.op≠21)/\((x.jumps.length:Int)>0))) (ZO (ZO (ZO (Yh dq) (Yu Yp (Yh Iff.rfl))) (Yu Yp Yp)) (Yu Yp dq)) (fun ZA=>?_) (fun ZA=>?_)
   ·exact ar (Zm (ZM (.b false) (lb (by rw [Ug,decide_eq_false (fun z=>by obtain ⟨z1,z2,z3,z4⟩:=z;rcases ZA with ((q|q)|q)|q<;>first|omega|exact q z1|exact z2.elim q.1 q.2)];simp))))
   simp only [not_or] at ZA
   obtain ⟨⟨⟨hA,hB⟩,hC⟩,hD⟩:=ZA
   have hA:=VP.1 hA
   have hB:x.dst=0∨Ty x.op=true:=C7 fun z=>hB ⟨fun w=>z (.inl w),fun w=>z (.inr w)⟩
   have hC:x.into=0∨x.op=6:=by omega
   have hD:x.op=21∨x.jumps.length=0:=by omega
   have hR:=(Sn om Zf).symm
   have hI:Ug im p k x=We im p k x:=by rw [Ug,hR,decide_eq_true ⟨hA,hB,hC,hD⟩];rfl
   refine ak (Xd (V4 [0] (ab 2 (ar (YB (x.op==0) Ze (fun Yi=>?_) (fun Yi=>?_))))))
   ·refine ar (X6 7 [] [(83,.b (((x.args.length:Int)==0)&&(decide ((-999)<=x.num/\x.num<=999))))] (fun gz=>gz) ?_ (fun hj3=>?_))
    ·exact Zm (ZM (.b (((x.args.length:Int)==0)&&(decide ((-999)<=x.num/\x.num<=999)))) (lb (by rw [hI];unfold We;(repeat (first|rw [Zk om]|rw [Za om]));all_goals (first|rfl|(rw [Yg];simp;done)|(rw [Yg];simp;omega)|(cases Wf (k:Int) p.code.length x.jumps<;>(rw [Yg];simp<;>omega))))))
    refine Z0 3 (ib (b:=((x.args.length:Int)==0)) 79 (fun Yn=>?_) (fun Yn=>?_))
    ·have Xc:(x.args.length:Int)=0:=(Ze).1 Yn
     exact Zz 2 [0] (Zw [] (Vf x.num (-999) 999) (Z0 1 (Y5 (Zv 3 (Zl (decide ((-999)<=x.num/\x.num<=999)) Yn fl)) hj3)))
    have XK:¬((x.args.length:Int)=0):=Y7 Ze Yn
    exact Z0 4 (Y5 (Zv 3 (Zl false Yn fl)) hj3)
   refine Y6 (Xv (fun fz gz F h=>F=sF [2,3,4,7,8,74] fz [(84,.b ((x.op==1)||((x.op==2)||((x.op==3)||((x.op==4)||(x.op==11))))))]/\h=gz) ?_ ?_)
   ·refine ac (x.op==1) Ze (fun YG=>?_) (fun YG=>?_)
    ·exact ak (ZJ ⟨rfl,rfl⟩ (Zv 3 (fc (x:=.b (x.op==1)) (lb (by first|rfl|(rw [Zk YG])|(rw [Za YG])|(simp [YG];done)|(rw [Yg];simp [YG];done)|omega)) fl)))
    refine ar (YB (x.op==2) Ze (fun X2=>?_) (fun X2=>?_))
    ·exact ak (ZJ ⟨rfl,rfl⟩ (Zv 3 (fc (x:=.b (x.op==2)) (lb (by first|rfl|(rw [Zk YG])|(rw [Za YG])|(simp [YG,X2];done)|(rw [Yg];simp [YG,X2];done)|omega)) fl)))
    refine ar (YB (x.op==3) Ze (fun Wz=>?_) (fun Wz=>?_))
    ·exact ak (ZJ ⟨rfl,rfl⟩ (Zv 3 (fc (x:=.b (x.op==3)) (lb (by first|rfl|(rw [Zk YG])|(rw [Za YG])|(simp [YG,X2,Wz];done)|(rw [Yg];simp [YG,X2,Wz];done)|omega)) fl)))
    refine ar (YB (x.op==4) Ze (fun VC=>?_) (fun VC=>?_))
    ·exact ak (ZJ ⟨rfl,rfl⟩ (Zv 3 (fc (x:=.b (x.op==4)) (lb (by first|rfl|(rw [Zk YG])|(rw [Za YG])|(simp [YG,X2,Wz,VC];done)|(rw [Yg];simp [YG,X2,Wz,VC];done)|omega)) fl)))
    exact Vv (ZJ ⟨rfl,rfl⟩ (Zv 3 (fc (x:=.b (x.op==11)) (lb (by first|rfl|(rw [Zk YG])|(rw [Za YG])|(simp [YG,X2,Wz,VC];done)|(rw [Yg];simp [YG,X2,Wz,VC];done)|omega)) fl)))
   rintro F h ⟨rfl,rfl⟩
   refine ac ((x.op==1)||((x.op==2)||((x.op==3)||((x.op==4)||(x.op==11))))) (p:=(x.op=1)∨((x.op=2)∨((x.op=3)∨((x.op=4)∨(x.op=11))))) (ZO Ze (ZO Ze (ZO Ze (ZO Ze Ze)))) (fun Va=>?_) (fun Va=>?_)
   ·refine ar (X6 7 [] [(96,.b (((x.args.length:Int)==2)&&(x.num==0)))] (fun gz=>gz) ?_ (fun hj4=>?_))
    ·exact Zm (ZM (.b (((x.args.length:Int)==2)&&(x.num==0))) (lb (by rw [hI];unfold We;(repeat (first|rw [Zk om]|rw [Za om]));all_goals (first|rfl|(rw [Yg];simp;done)|(rw [Yg];simp;omega)|(cases Wf (k:Int) p.code.length x.jumps<;>(rw [Yg];simp<;>omega))))))
    refine Z0 3 (ib (b:=((x.args.length:Int)==2)) 92 (fun X1=>?_) (fun X1=>?_))
    ·have Wc:(x.args.length:Int)=2:=(Ze).1 X1
     exact Zz 4 [0] (Y5 (Zv 3 (Zl (x.num==0) X1 fl)) hj4)
    have WF:¬((x.args.length:Int)=2):=Y7 Ze X1
    exact Z0 4 (Y5 (Zv 3 (Zl false X1 fl)) hj4)
   refine Y6 (Xv (fun fz gz F h=>F=sF [2,3,4,7,8,74] fz [(97,.b ((x.op==5)||((x.op==14)||((x.op==15)||((x.op==18)||(x.op==23))))))]/\h=gz) ?_ ?_)
   ·refine ac (x.op==5) Ze (fun Vm=>?_) (fun Vm=>?_)
    ·exact ak (ZJ ⟨rfl,rfl⟩ (Zv 3 (fc (x:=.b (x.op==5)) (lb (by first|rfl|(rw [Zk Vm])|(rw [Za Vm])|(simp [Vm];done)|(rw [Yg];simp [Vm];done)|omega)) fl)))
    refine ar (YB (x.op==14) Ze (fun Tp=>?_) (fun Tp=>?_))
    ·exact ak (ZJ ⟨rfl,rfl⟩ (Zv 3 (fc (x:=.b (x.op==14)) (lb (by first|rfl|(rw [Zk Vm])|(rw [Za Vm])|(simp [Vm,Tp];done)|(rw [Yg];simp [Vm,Tp];done)|omega)) fl)))
    refine ar (YB (x.op==15) Ze (fun Vn=>?_) (fun Vn=>?_))
    ·exact ak (ZJ ⟨rfl,rfl⟩ (Zv 3 (fc (x:=.b (x.op==15)) (lb (by first|rfl|(rw [Zk Vm])|(rw [Za Vm])|(simp [Vm,Tp,Vn];done)|(rw [Yg];simp [Vm,Tp,Vn];done)|omega)) fl)))
    refine ar (YB (x.op==18) Ze (fun TV=>?_) (fun TV=>?_))
    ·exact ak (ZJ ⟨rfl,rfl⟩ (Zv 3 (fc (x:=.b (x.op==18)) (lb (by first|rfl|(rw [Zk Vm])|(rw [Za Vm])|(simp [Vm,Tp,Vn,TV];done)|(rw [Yg];simp [Vm,Tp,Vn,TV];done)|omega)) fl)))
    exact Vv (ZJ ⟨rfl,rfl⟩ (Zv 3 (fc (x:=.b (x.op==23)) (lb (by first|rfl|(rw [Zk Vm])|(rw [Za Vm])|(simp [Vm,Tp,Vn,TV];done)|(rw [Yg];simp [Vm,Tp,Vn,TV];done)|omega)) fl)))
   rintro F h ⟨rfl,rfl⟩
   refine ac ((x.op==5)||((x.op==14)||((x.op==15)||((x.op==18)||(x.op==23))))) (p:=(x.op=5)∨((x.op=14)∨((x.op=15)∨((x.op=18)∨(x.op=23))))) (ZO Ze (ZO Ze (ZO Ze (ZO Ze Ze)))) (fun CD=>?_) (fun CD=>?_)
   ·refine ar (X6 7 [] [(109,.b (((x.args.length:Int)==1)&&(x.num==0)))] (fun gz=>gz) ?_ (fun hj5=>?_))
    ·exact Zm (ZM (.b (((x.args.length:Int)==1)&&(x.num==0))) (lb (by rw [hI];unfold We;(repeat (first|rw [Zk om]|rw [Za om]));all_goals (first|rfl|(rw [Yg];simp;done)|(rw [Yg];simp;omega)|(cases Wf (k:Int) p.code.length x.jumps<;>(rw [Yg];simp<;>omega))))))
    refine Z0 3 (ib (b:=((x.args.length:Int)==1)) 105 (fun XF=>?_) (fun XF=>?_))
    ·have V1:(x.args.length:Int)=1:=(Ze).1 XF
     exact Zz 4 [0] (Y5 (Zv 3 (Zl (x.num==0) XF fl)) hj5)
    have Ue:¬((x.args.length:Int)=1):=Y7 Ze XF
    exact Z0 4 (Y5 (Zv 3 (Zl false XF fl)) hj5)
   refine ar (YB (x.op==6) Ze (fun EQ=>?_) (fun EQ=>?_))
   ·refine Zq 4 [2,0] (Zw [] (HN im.decls x.num) (X6 16 [4,7] [(127,.b ((decide ((Wm im.decls x.num)>0))&&((x.args.length:Int)==(((ZP im.decls x.num).length:Nat):Int))))] (fun gz=>gz) ?_ (fun hj6=>?_)))
    ·refine X6 23 [] [(134,.b (((decide ((Wm im.decls x.num)>0))&&((x.args.length:Int)==(((ZP im.decls x.num).length:Nat):Int)))&&(decide (0<=x.into/\x.into<=p.regs))))] (fun gz=>gz) ?_ (fun hj7=>?_)
     ·exact Zm (ZM (.b (((decide ((Wm im.decls x.num)>0))&&((x.args.length:Int)==(((ZP im.decls x.num).length:Nat):Int)))&&(decide (0<=x.into/\x.into<=p.regs)))) (lb (by rw [hI];unfold We;(repeat (first|rw [Zk om]|rw [Za om]));all_goals (first|rfl|(rw [Yg];simp;done)|(rw [Yg];simp;omega)|(cases Wf (k:Int) p.code.length x.jumps<;>(rw [Yg];simp<;>omega))))))
     refine Z0 1 (ib (b:=((decide ((Wm im.decls x.num)>0))&&((x.args.length:Int)==(((ZP im.decls x.num).length:Nat):Int)))) 128 (fun Ws=>?_) (fun Ws=>?_))
     ·have UG:((Wm im.decls x.num)>0)/\((x.args.length:Int)=(((ZP im.decls x.num).length:Nat):Int)):=((Yu dq Ze)).1 Ws
      exact Zz 4 [0,1] (Zw [] (Vf x.into 0 p.regs) (Z0 1 (Y5 (Zv 3 (Zl (decide (0<=x.into/\x.into<=p.regs)) Ws fl)) hj7)))
     have Ut:¬(((Wm im.decls x.num)>0)/\((x.args.length:Int)=(((ZP im.decls x.num).length:Nat):Int))):=Y7 (Yu dq Ze) Ws
     exact Z0 6 (Y5 (Zv 3 (Zl false Ws fl)) hj7)
    refine Z0 2 (ib (b:=(decide ((Wm im.decls x.num)>0))) 118 (fun WK=>?_) (fun WK=>?_))
    ·have TW:(Wm im.decls x.num)>0:=(dq).1 WK
     exact Zz 5 [2,0] (Zw [] (Qr im.decls x.num) (io (.i (((ZP im.decls x.num).length:Nat):Int)) (.i (((Z6 (ZP im.decls x.num)).length:Nat):Int)) (li (by rw [Yc])) (Z0 2 (Y5 (Zv 3 (Zl ((x.args.length:Int)==(((ZP im.decls x.num).length:Nat):Int)) WK fl)) hj6))))
    have Tq:¬((Wm im.decls x.num)>0):=Y7 dq WK
    exact Z0 9 (Y5 (Zv 3 (Zl false WK fl)) hj6)
   refine Y6 (Xv (fun fz gz F h=>F=sF [2,3,4,7,8,74] fz [(135,.b ((x.op==9)||(x.op==24)))]/\h=gz) ?_ ?_)
   ·refine ac (x.op==9) Ze (fun KC=>?_) (fun KC=>?_)
    ·exact ak (ZJ ⟨rfl,rfl⟩ (Zv 3 (fc (x:=.b (x.op==9)) (lb (by first|rfl|(rw [Zk KC])|(rw [Za KC])|(simp [KC];done)|(rw [Yg];simp [KC];done)|omega)) fl)))
    exact Vv (ZJ ⟨rfl,rfl⟩ (Zv 3 (fc (x:=.b (x.op==24)) (lb (by first|rfl|(rw [Zk KC])|(rw [Za KC])|(simp [KC];done)|(rw [Yg];simp [KC];done)|omega)) fl)))
   rintro F h ⟨rfl,rfl⟩
   refine ac ((x.op==9)||(x.op==24)) (p:=(x.op=9)∨(x.op=24)) (ZO Ze Ze) (fun KD=>?_) (fun KD=>?_)
   ·exact Zq 4 [2,0] (Zw [] (Z0t im x.num x.args.length 0 (hps:=ob)) (Zm (ZM (.b (UV im x.num x.args.length 0)) (lb (by rw [hI];unfold We;(repeat (first|rw [Zk om]|rw [Za om]));all_goals (first|rfl|(rw [Yg];simp;done)|(rw [Yg];simp;omega)|(cases Wf (k:Int) p.code.length x.jumps<;>(rw [Yg];simp<;>omega))))))))
   refine ar (YB (x.op==10) Ze (fun Lx=>?_) (fun Lx=>?_))
   ·refine Zq 4 [2,0] (Zw [] (Z0t im x.num x.args.length 1 (hps:=ob)) (Z0 1 (ib (b:=(UV im x.num x.args.length 1)) 150 (fun Vl=>?_) (fun Vl=>?_))))
    ·have K4:(UV im x.num x.args.length 1)=true:=(Iff.rfl).1 Vl
     refine Zz 4 [2,0] ?_
     obtain ⟨x2,Zu⟩:=Zt im.procs x.num.toNat (by have h:=(Fh.1 (show UV im x.num x.args.length 1=true by assumption)).1;omega)
     have hw:=Hr (n:=x.args.length) (more:=1) Zu (by have h:=(Fh.1 (show UV im x.num x.args.length 1=true by assumption)).1;omega)
     exact Zs (Ea (es:=W5 im.procs) (hv:=none) (j:=x.num) (sz:=5) (y:=Cg x2) kr (by have h:=(Fh.1 (show UV im x.num x.args.length 1=true by assumption)).1;omega) (Ku Zu) rfl) (Z0 2 (iw (Yc x2.lent) (Zm (ZM (.b ((x2.lent.length:Int)==0)) (lb (by rw [hI];unfold We;(repeat (first|rw [Zk om]|rw [Za om]));rw [hw.2,show UV im x.num x.args.length 1=true by assumption,Yg];simp))))))
    have K5:¬((UV im x.num x.args.length 1)=true):=Y7 Iff.rfl Vl
    exact Zm (ZM (.b false) (lb (by rw [hI];unfold We;(repeat (first|rw [Zk om]|rw [Za om]));rw [Q8.2 (show ¬UV im x.num x.args.length 1=true by assumption)];rfl)))
   refine Y6 (Xv (fun fz gz F h=>F=sF [2,3,4,7,8,74] fz [(161,.b ((x.op==16)||(x.op==17)))]/\h=gz) ?_ ?_)
   ·refine ac (x.op==16) Ze (fun JC=>?_) (fun JC=>?_)
    ·exact ak (ZJ ⟨rfl,rfl⟩ (Zv 3 (fc (x:=.b (x.op==16)) (lb (by first|rfl|(rw [Zk JC])|(rw [Za JC])|(simp [JC];done)|(rw [Yg];simp [JC];done)|omega)) fl)))
    exact Vv (ZJ ⟨rfl,rfl⟩ (Zv 3 (fc (x:=.b (x.op==17)) (lb (by first|rfl|(rw [Zk JC])|(rw [Za JC])|(simp [JC];done)|(rw [Yg];simp [JC];done)|omega)) fl)))
   rintro F h ⟨rfl,rfl⟩
   refine ac ((x.op==16)||(x.op==17)) (p:=(x.op=16)∨(x.op=17)) (ZO Ze Ze) (fun Ly=>?_) (fun Ly=>?_)
   ·refine Yf 1 (Zw [] (Vf (x.args.length:Int) 1 4) (X6 7 [] [(170,.b ((decide (1<=(x.args.length:Int)/\(x.args.length:Int)<=4))&&(x.num==0)))] (fun gz=>gz) ?_ (fun hj8=>?_)))
    ·exact Zm (ZM (.b ((decide (1<=(x.args.length:Int)/\(x.args.length:Int)<=4))&&(x.num==0))) (lb (by rw [hI];unfold We;(repeat (first|rw [Zk om]|rw [Za om]));all_goals (first|rfl|(rw [Yg];simp;done)|(rw [Yg];simp;omega)|(cases Wf (k:Int) p.code.length x.jumps<;>(rw [Yg];simp<;>omega))))))
    refine Z0 1 (ib (b:=(decide (1<=(x.args.length:Int)/\(x.args.length:Int)<=4))) 166 (fun V9=>?_) (fun V9=>?_))
    ·have Ak:1<=(x.args.length:Int)/\(x.args.length:Int)<=4:=(dq).1 V9
     exact Zz 4 [0] (Y5 (Zv 3 (Zl (x.num==0) V9 fl)) hj8)
    have B6:¬(1<=(x.args.length:Int)/\(x.args.length:Int)<=4):=Y7 dq V9
    exact Z0 4 (Y5 (Zv 3 (Zl false V9 fl)) hj8)
   refine ar (YB (x.op==19) Ze (fun GK=>?_) (fun GK=>?_))
   ·refine ar (X6 7 [] [(179,.b (((x.args.length:Int)==1)&&(decide (0<=x.num/\x.num<=2))))] (fun gz=>gz) ?_ (fun hj9=>?_))
    ·exact Zm (ZM (.b (((x.args.length:Int)==1)&&(decide (0<=x.num/\x.num<=2)))) (lb (by rw [hI];unfold We;(repeat (first|rw [Zk om]|rw [Za om]));all_goals (first|rfl|(rw [Yg];simp;done)|(rw [Yg];simp;omega)|(cases Wf (k:Int) p.code.length x.jumps<;>(rw [Yg];simp<;>omega))))))
    refine Z0 3 (ib (b:=((x.args.length:Int)==1)) 175 (fun UE=>?_) (fun UE=>?_))
    ·have LD:(x.args.length:Int)=1:=(Ze).1 UE
     exact Zz 2 [0] (Zw [] (Vf x.num 0 2) (Z0 1 (Y5 (Zv 3 (Zl (decide (0<=x.num/\x.num<=2)) UE fl)) hj9)))
    have LE:¬((x.args.length:Int)=1):=Y7 Ze UE
    exact Z0 4 (Y5 (Zv 3 (Zl false UE fl)) hj9)
   refine ar (YB (x.op==20) Ze (fun Tf=>?_) (fun Tf=>?_))
   ·refine ar (X6 13 [] [(194,.b (((x.args.length:Int)==1)&&(decide (((k+1:Nat):Int)<=x.num/\x.num<=((p.code.length:Int)-1)))))] (fun gz=>gz) ?_ (fun hj10=>?_))
    ·exact Zm (ZM (.b (((x.args.length:Int)==1)&&(decide (((k+1:Nat):Int)<=x.num/\x.num<=((p.code.length:Int)-1))))) (lb (by rw [hI];unfold We;(repeat (first|rw [Zk om]|rw [Za om]));all_goals (first|rfl|(rw [Yg];simp;done)|(rw [Yg];simp;omega)|(cases Wf (k:Int) p.code.length x.jumps<;>(rw [Yg];simp<;>omega))))))
    refine Z0 3 (ib (b:=((x.args.length:Int)==1)) 184 (fun QA=>?_) (fun QA=>?_))
    ·have GQ:(x.args.length:Int)=1:=(Ze).1 QA
     exact Zz 3 [0] (ZD k (Zz 2 [1] (iw (T8 p.code) (ia (((p.code.length:Int)-1)) (((p.code.length:Int))-(1)) (Zw [] (Vf x.num ((k+1:Nat):Int) ((p.code.length:Int)-1)) (Z0 1 (Y5 (Zv 3 (Zl (decide (((k+1:Nat):Int)<=x.num/\x.num<=((p.code.length:Int)-1))) QA fl)) hj10)))))))
    have Pq:¬((x.args.length:Int)=1):=Y7 Ze QA
    exact Z0 10 (Y5 (Zv 3 (Zl false QA fl)) hj10)
   refine ar (YB (x.op==22) Ze (fun JD=>?_) (fun JD=>?_))
   ·refine ar (X6 13 [] [(209,.b (((x.args.length:Int)==0)&&(decide (((k+1:Nat):Int)<=x.num/\x.num<=((p.code.length:Int)-1)))))] (fun gz=>gz) ?_ (fun hj11=>?_))
    ·exact Zm (ZM (.b (((x.args.length:Int)==0)&&(decide (((k+1:Nat):Int)<=x.num/\x.num<=((p.code.length:Int)-1))))) (lb (by rw [hI];unfold We;(repeat (first|rw [Zk om]|rw [Za om]));all_goals (first|rfl|(rw [Yg];simp;done)|(rw [Yg];simp;omega)|(cases Wf (k:Int) p.code.length x.jumps<;>(rw [Yg];simp<;>omega))))))
    refine Z0 3 (ib (b:=((x.args.length:Int)==0)) 199 (fun QB=>?_) (fun QB=>?_))
    ·have Pr:(x.args.length:Int)=0:=(Ze).1 QB
     exact Zz 3 [0] (ZD k (Zz 2 [1] (iw (T8 p.code) (ia (((p.code.length:Int)-1)) (((p.code.length:Int))-(1)) (Zw [] (Vf x.num ((k+1:Nat):Int) ((p.code.length:Int)-1)) (Z0 1 (Y5 (Zv 3 (Zl (decide (((k+1:Nat):Int)<=x.num/\x.num<=((p.code.length:Int)-1))) QB fl)) hj11)))))))
    have Ps:¬((x.args.length:Int)=0):=Y7 Ze QB
    exact Z0 10 (Y5 (Zv 3 (Zl false QB fl)) hj11)
   refine ar (YB (x.op==21) Ze (fun CE=>?_) (fun CE=>?_))
   ·refine Zq 4 [2,0] (ic [] (Jd im.decls x.num) ?_)
    rintro _ _ ⟨v1,rfl,rfl⟩
    refine io (.i (((ZZ im.decls x.num).length:Nat):Int)) (.i (((Z6 (ZZ im.decls x.num)).length:Nat):Int)) (li (by rw [Yc])) (Z1 (ar (X6 6 [2,4,7,10] [(223,.b (((x.args.length:Int)==1)&&(decide ((((ZZ im.decls x.num).length:Nat):Int)>0))))] (fun gz=>gz) ?_ (fun hj12=>?_))))
    ·refine X6 16 [] [(233,.b ((((x.args.length:Int)==1)&&(decide ((((ZZ im.decls x.num).length:Nat):Int)>0)))&&(decide (x.jumps.length=((ZZ im.decls x.num).length))&&Wf k p.code.length x.jumps)))] (fun gz=>gz) ?_ (fun hj13=>?_)
     ·exact Zm (ZM (.b ((((x.args.length:Int)==1)&&(decide ((((ZZ im.decls x.num).length:Nat):Int)>0)))&&(decide (x.jumps.length=((ZZ im.decls x.num).length))&&Wf k p.code.length x.jumps))) (lb (by rw [hI];unfold We;(repeat (first|rw [Zk om]|rw [Za om]));all_goals (first|rfl|(rw [Yg];simp;done)|(rw [Yg];simp;omega)|(cases Wf (k:Int) p.code.length x.jumps<;>(rw [Yg];simp<;>omega))))))
     refine Z0 1 (ib (b:=(((x.args.length:Int)==1)&&(decide ((((ZZ im.decls x.num).length:Nat):Int)>0)))) 224 (fun Jz=>?_) (fun Jz=>?_))
     ·have Pt:((x.args.length:Int)=1)/\((((ZZ im.decls x.num).length:Nat):Int)>0):=((Yu Ze dq)).1 Jz
      exact Zz 6 [1,2] (iw (T8 p.code) (Zw [] (Zgu x.jumps ((ZZ im.decls x.num).length) k p.code.length) (Z0 1 (Y5 (Zv 4 (Zl (decide (x.jumps.length=((ZZ im.decls x.num).length))&&Wf k p.code.length x.jumps) Jz fl)) hj13))))
     have Pu:¬(((x.args.length:Int)=1)/\((((ZZ im.decls x.num).length:Nat):Int)>0)):=Y7 (Yu Ze dq) Jz
     exact Z0 9 (Y5 (Zv 4 (Zl false Jz fl)) hj13)
    refine Z0 3 (ib (b:=((x.args.length:Int)==1)) 220 (fun JA=>?_) (fun JA=>?_))
    ·have Pv:(x.args.length:Int)=1:=(Ze).1 JA
     exact Z0 3 (Y5 (Zv 4 (Zl (decide ((((ZZ im.decls x.num).length:Nat):Int)>0)) JA fl)) hj12)
    have Pw:¬((x.args.length:Int)=1):=Y7 Ze JA
    exact Z0 3 (Y5 (Zv 4 (Zl false JA fl)) hj12)
   exact ak (ar (Zm (ZM (.b false) (lb (by rw [hI];unfold We;(repeat (first|rw [Zk om]|rw [Za om]));all_goals (first|rfl|(rw [Yg];simp;done)|(rw [Yg];simp;omega)|(cases Wf (k:Int) p.code.length x.jumps<;>(rw [Yg];simp<;>omega))))))))
  refine Z0 1 (ib (b:=((!(decide (0<=x.dst/\x.dst<=(p.regs-1))))||((x.dst != 0)&&(!(Ty x.op))))) 52 (fun J2=>?_) (fun J2=>?_))
  ·have Px:(¬(0<=x.dst/\x.dst<=(p.regs-1)))∨((x.dst≠0)/\(¬((Ty x.op)=true))):=((ZO (Yh dq) (Yu Yp (Yh Iff.rfl)))).1 J2
   exact Z0 9 (Y5 (Zv 3 (Zl true J2 fl)) hj2)
  have GR:¬((¬(0<=x.dst/\x.dst<=(p.regs-1)))∨((x.dst≠0)/\(¬((Ty x.op)=true)))):=Y7 (ZO (Yh dq) (Yu Yp (Yh Iff.rfl))) J2
  refine Zz 4 [0] (ib (b:=(x.into != 0)) 56 (fun JB=>?_) (fun JB=>?_))
  ·have GS:x.into≠0:=(Yp).1 JB
   exact Zz 5 [0] (Y5 (Zv 3 (Zl (x.op != 6) (And.intro J2 JB) fl)) hj2)
  have LF:¬(x.into≠0):=Y7 Yp JB
  exact Z0 5 (Y5 (Zv 3 (Zl false (And.intro J2 JB) fl)) hj2)
 refine Z0 2 (ib (b:=(!(decide (0<=x.dst/\x.dst<=(p.regs-1))))) 41 (fun DD=>?_) (fun DD=>?_))
 ·have LG:¬(0<=x.dst/\x.dst<=(p.regs-1)):=((Yh dq)).1 DD
  exact Z0 10 (Y5 (Zv 3 (Zl true DD fl)) hj1)
 have Zit:¬(¬(0<=x.dst/\x.dst<=(p.regs-1))):=Y7 (Yh dq) DD
 refine Zz 4 [0] (ib (b:=(x.dst != 0)) 45 (fun EP=>?_) (fun EP=>?_))
 ·have Ziu:x.dst≠0:=(Yp).1 EP
  exact Zz 2 [0] (Zw [] (Z0v x.op) (Z0 3 (Y5 (Zv 3 (Zl (!(Ty x.op)) (And.intro DD EP) fl)) hj1)))
 have Ziv:¬(x.dst≠0):=Y7 Yp EP
 exact Z0 6 (Y5 (Zv 3 (Zl false (And.intro DD EP) fl)) hj1)
theorem Zgx (im:YA) (p:ZT) (lz:Nat) (hd:Xr im.decls:=by exact ob) (hpl:im.procs.length<=4:=by exact ob) (hps:∀p∈im.procs,p.params.length<=3) (hz:PZ lz p:=by exact ob) (hlz:lz<=100:=by exact ob):Zo 62 [V7 im,Cg p] [] (Yx (.b (Tu im p))):=by
 have hz1:=hz.params
 have hz2:=hz.lent
 have hz3:=hz.regs
 have hz4:=hz.len
 refine ZE 59 Tryz.func62 (ar (iA (Vd im) fun b1=>iA (Ul p) fun b2=>Z1 (Zq 2 [0] (iw (T8 p.code) (Z1 (Ys 4 [0,0] (Zw [] (Z0z p.params p.lent) (X6 16 [2,3,5] [(25,.b ((!Ur p.params p.lent)||(!(decide ((max 1 (p.params.length:Int))<=p.regs/\p.regs<=2000)))))] (fun gz=>gz) ?_ (fun hj1=>?_)))))))))
 ·refine Xp [2,3,5] [(30,.b (((!Ur p.params p.lent)||(!(decide ((max 1 (p.params.length:Int))<=p.regs/\p.regs<=2000))))||(!(decide (1<=(p.code.length:Int)/\(p.code.length:Int)<=2000)))))] (fun gz=>gz) ?_ ?_
  ·refine Z0 1 (ib (b:=((!Ur p.params p.lent)||(!(decide ((max 1 (p.params.length:Int))<=p.regs/\p.regs<=2000))))) 26 (fun Zc=>?_) (fun Zc=>?_))
   ·have Y4:(¬(Ur p.params p.lent=true))∨(¬((max 1 (p.params.length:Int))<=p.regs/\p.regs<=2000)):=((ZO (Yh Iff.rfl) (Yh dq))).1 Zc
    exact Z1 (wk [0,0] (Zl true Zc fl))
   have Yr:¬((¬(Ur p.params p.lent=true))∨(¬((max 1 (p.params.length:Int))<=p.regs/\p.regs<=2000))):=Y7 (ZO (Yh Iff.rfl) (Yh dq)) Zc
   exact Z0 1 (Zw [] (Vf (p.code.length:Int) 1 2000) (Z1 (wk [0,0] (Zl (!(decide (1<=(p.code.length:Int)/\(p.code.length:Int)<=2000))) Zc fl))))
  refine ac (((!Ur p.params p.lent)||(!(decide ((max 1 (p.params.length:Int))<=p.regs/\p.regs<=2000))))||(!(decide (1<=(p.code.length:Int)/\(p.code.length:Int)<=2000)))) (p:=((¬(Ur p.params p.lent=true))∨(¬((max 1 (p.params.length:Int))<=p.regs/\p.regs<=2000)))∨(¬(1<=(p.code.length:Int)/\(p.code.length:Int)<=2000))) (ZO (ZO (Yh Iff.rfl) (Yh dq)) (Yh dq)) (fun Z9=>?_) (fun Z9=>?_)
  ·exact ar (Zm (ZM (.b false) (lb (by rw [Tu];rcases Z9 with (q|q)|q<;>first|(rw [Q8.2 q];rfl)|(rw [decide_eq_false (fun z=>by omega)];simp)))))
  simp only [not_or,VP] at Z9
  obtain ⟨⟨hV,hR1⟩,hC1⟩:=Z9
  have hRC:(1<=p.regs/\(p.params.length:Int)<=p.regs/\p.regs<=2000)/\1<=p.code.length/\p.code.length<=2000:=by omega
  refine ak (Y6 (ab 0 (Y0 (fun fz gz m F h=>∃(j:Nat),(j<=p.code.length)/\(QD im p (p.code.drop j) j=QD im p p.code 0)/\F=sF [2,3,5] fz [(6,.i j)]/\h=gz/\m=p.code.length-j) _ _ _ ⟨0,ob,rfl,rfl,rfl,rfl⟩ (wk [0,0] (Ya fl)) ?_)))
  rintro m F h ⟨j,Yj,Zf,rfl,rfl,rfl⟩
  refine Xd (Y2 ((j:Int)<(p.code.length:Int)) (fun Zj=>?_) (fun Zj=>?_))
  ·obtain ⟨x1,Z3⟩:=Zt p.code j om
   have hxz:=hz.code _ (Y3 Z3)
   have hxl:=hxz.l
   refine ak (aq (ab 1 (Zq 3 [1,0] (Zw [] (Zgs im p j x1 (hps:=hps) (hx:=Z3) (hxl:=om) (hrg:=om)) (YB (!(Ug im p j x1)) (p:=¬((Ug im p j x1)=true)) (Yh Iff.rfl) (fun ZA=>?_) (fun ZA=>?_))))))
   ·exact ar (Zm (ZM (.b false) (lb (by rw [Tu,<-PL Z3 (Q8.2 (by assumption)) Zf];simp))))
   exact ak (az (Z0 1 (ZD j (Z1 (ZF ⟨j+1,ob,(PN Z3 (VP.1 ZA) Zf),rfl,rfl,rfl⟩ (wk [0,0] (ZI j fl)))))))
  have hIs:=PM om Zf
  refine ax 0 (Zq 3 [0] (ia ((((p.code.length-1):Nat):Int)) (((p.code.length:Int))-(1)) ?_))
  obtain ⟨x1,Z3⟩:=Zt p.code (p.code.length-1) om
  refine Zs (Zh none (((p.code.length-1):Nat):Int) 6 (Qw Z3)) (X6 18 [] [(58,.b ((x1.op==23)||(x1.op==24)))] (fun gz=>gz) ?_ (fun hj2=>?_))
  ·exact Zm (ZM (.b ((x1.op==23)||(x1.op==24))) (lb (by rw [Tu,<-hIs,hV,decide_eq_true hRC,H5 Z3,Yg];simp)))
  refine Z0 4 (ib (b:=(x1.op==23)) 49 (fun ZC=>?_) (fun ZC=>?_))
  ·have YR:x1.op=23:=(Ze).1 ZC
   exact Z0 9 (Y5 (wk [0,0] (Zl true ZC fl)) hj2)
  have YV:¬(x1.op=23):=Y7 Ze ZC
  exact Zz 3 [0] (ia ((((p.code.length-1):Nat):Int)) (((p.code.length:Int))-(1)) (Zs (Zh none (((p.code.length-1):Nat):Int) 6 (Qw Z3)) (Z0 4 (Y5 (wk [0,0] (Zl (x1.op==24) ZC fl)) hj2))))
 refine Z0 2 (ib (b:=(!Ur p.params p.lent)) 16 (fun Yn=>?_) (fun Yn=>?_))
 ·have Xc:¬(Ur p.params p.lent=true):=((Yh Iff.rfl)).1 Yn
  exact Z0 9 (Y5 (wk [0,0] (Zl true Yn fl)) hj1)
 have XK:¬(¬(Ur p.params p.lent=true)):=Y7 (Yh Iff.rfl) Yn
 exact Zz 4 [0,0] (iw (Yc p.params) (Zs (GZ 1 (p.params.length:Int)) (Zw [] (Vf p.regs (max 1 (p.params.length:Int)) 2000) (Z0 2 (Y5 (wk [0,0] (Zl (!(decide ((max 1 (p.params.length:Int))<=p.regs/\p.regs<=2000))) Yn fl)) hj1)))))
theorem Zgf (im:YA) (hz:im.procs.length<=4194304:=by exact ob):Zo 61 [V7 im] [] (Yx (.agg [Ye im.decls,.sl (WD (im.procs.map Uv)) none])):=by
 refine ZE 35 Tryz.func61 (ar (iA (Vd im) fun b1=>iA [nl,nl] fun b2=>ie (Zq 2 [1] (iL (WD []) 0 5 fun v1=>Z0 1 (iA [nl,nl] fun b3=>?_)))))
 refine Zy 0 b3 [Ye im.decls,.sl (WD []) (some v1)] (ie (Y6 (ab 0 (Y0 (fun fz gz m F h=>∃(k:Nat) (v:Value),(k<=im.procs.length)/\F=sF [1,2,3] fz [(4,.i k)]/\h=[.obj b3 [Ye im.decls,.sl (WD ((im.procs.take k).map Uv)) (some v)],Zi gz 2,Zi gz 3,.tail v 5]/\m=im.procs.length-k) _ _ _ ⟨0,v1,ob,rfl,rfl,rfl⟩ (wk [0,1,1,0] (Ya fl)) ?_))))
 rintro m F h ⟨k,v,Yj,rfl,rfl,rfl⟩
 refine Ys 3 [2] (iw (Qb im.procs) (Y2 ((k:Int)<(im.procs.length:Int)) (fun Z9=>?_) (fun Z9=>?_)))
 ·refine ak (aq (ab 1 (aE 19 (ZW 14 19 [0,1,2,3,4] [0,2] ?_))))
  obtain ⟨x1,Z3⟩:=Zt im.procs k om
  exact dx 5 (Zh none (k:Int) 5 (Ku Z3)) (ZW 8 13 [6,7,8,9,10] [2] (dx 11 (Zh none (k:Int) 5 (Ku Z3)) (Yt 4 7 [12,13,14] [(30,.agg [Z4 x1.params,.i x1.result,.i 0,.i 0,.sl [] none])] (Z7 15 (dL 15 [0] [b3] (WD [Sg.mk x1.params x1.result]) 1 5 fun v2=>Yt 3 3 [] [(31,.sl (WD [Sg.mk x1.params x1.result]) none)] (Z7 16 (dp 16 4 [] [] (WD ((im.procs.take (k+1)).map Uv)) (WD ((im.procs.take k).map Uv)) (WD [Sg.mk x1.params x1.result]) v none 5 (Gn _) (Gn _) (O1 _) (by simp<;>omega) (by rw [V5 Z3];simp [WD,Uv]) fun v3=>Zp 1 2 [17] (Z7 18 (X3 18 2 [] [] b3 [Ye im.decls,.sl (WD ((im.procs.take (k+1)).map Uv)) (some v3)] (de (az (Z0 1 (ZD k (Z1 (ZF ⟨k+1,v3,ob,rfl,rfl,rfl⟩ (wk [0,2,2,0] (ZI k fl)))))))))))))))))
 exact ax 0 (Zq 1 [0] (Zy 1 b2 [Ye im.decls,.sl (WD ((im.procs.take k).map Uv)) (some v)] (ie (ZY (r3 [] [.agg [Ye im.decls,.sl (WD ((im.procs.take k).map Uv)) (some v)]] [0] [(b2,b2)] ⟨rfl,rfl⟩ (Zd.agg (.cons (lr _) (.cons (Zd.sl _ (Yl WD (by rw [show k=im.procs.length by omega,Ub]))) .nil))))))))
theorem Zgr (im:YA) (lz:Nat) (hz:IZ im lz:=by exact ob) (hlz:lz<=100:=by exact ob):Zo 33 [V7 im] [] (Yx (.b (VK im))):=by
 have hil:=hz.len
 have hds:=hz.decls.sz
 refine ZE 29 Tryz.func33 (ar (iA (Vd im) fun b1=>Z1 (Ys 2 [0] (iw (Qb im.procs) (Xp [1] [(13,.b ((decide ((im.procs.length:Int)>4))||(!UO im.decls (im.procs.map Uv))))] (fun gz=>gz) ?_ ?_)))))
 ·refine Z0 2 (ib (b:=(decide ((im.procs.length:Int)>4))) 8 (fun Zc=>?_) (fun Zc=>?_))
  ·have Y4:(im.procs.length:Int)>4:=(dq).1 Zc
   exact Z1 (wk [0] (Zl true Zc fl))
  have Yr:¬((im.procs.length:Int)>4):=Y7 dq Zc
  exact Zz 1 [0] (Zw [] (Zgf im) (Zw [] (Z10 im.decls (im.procs.map Uv) (hz:=hds) (hf:=(by intro f hf;obtain ⟨r,h1,rfl⟩:=XH.1 hf;have:=(hz.procs r h1).params;show r.params.length<=_;omega))) (Z1 (wk [0] (Zl (!UO im.decls (im.procs.map Uv)) Zc fl)))))
 refine ac ((decide ((im.procs.length:Int)>4))||(!UO im.decls (im.procs.map Uv))) (p:=((im.procs.length:Int)>4)∨(¬(UO im.decls (im.procs.map Uv)=true))) (ZO dq (Yh Iff.rfl)) (fun Z9=>?_) (fun Z9=>?_)
 ·exact ar (Zm (ZM (.b false) (lb (by rw [VK];rcases Z9 with q|q<;>first|(rw [decide_eq_false om];rfl)|(rw [Q8.2 q];simp)))))
 simp only [not_or,VP] at Z9
 obtain ⟨hL,hV⟩:=Z9
 have hil4:im.procs.length<=4:=by omega
 have Xq:Xr im.decls:=I3 (by simp only [UO,Xb] at hV;exact hV.1)
 have hps:∀p∈im.procs,p.params.length<=3:=fun p hp=>(hz.procs p hp).params
 refine ak (Y6 (ab 0 (Y0 (fun fz gz m F h=>∃(k:Nat),(k<=im.procs.length)/\(Tv im (im.procs.drop k)=Tv im im.procs)/\F=sF [1] fz [(3,.i k)]/\h=gz/\m=im.procs.length-k) _ _ _ ⟨0,ob,rfl,rfl,rfl,rfl⟩ (wk [0] (Ya fl)) ?_)))
 rintro m F h ⟨k,Yj,Zf,rfl,rfl,rfl⟩
 refine Ys 3 [0] (iw (Qb im.procs) (Y2 ((k:Int)<(im.procs.length:Int)) (fun Zj=>?_) (fun Zj=>?_)))
 ·refine ak (aq (ab 1 (aD 8 (ZW 4 8 [0,1,2,3] [0,0] ?_))))
  obtain ⟨x1,Z3⟩:=Zt im.procs k om
  refine dx 4 (Zh none (k:Int) 5 (Ku Z3)) (Zp 2 3 [5] (Z7 6 (YH 6 [] [] [] (Zgx im x1 lz (hps:=hps) (hz:=(hz.procs _ (Y3 Z3)))) (Zp 0 1 [7] (de (ac (!(Tu im x1)) (p:=¬((Tu im x1)=true)) (Yh Iff.rfl) (fun ZA=>?_) (fun ZA=>?_)))))))
  ·exact ar (Zm (ZM (.b false) (lb (by rw [VK,<-Ht Z3 (Q8.2 (by assumption)) Zf];simp))))
  exact ak (az (Z0 1 (ZD k (Z1 (ZF ⟨k+1,ob,(S2 Z3 (VP.1 ZA) Zf),rfl,rfl,rfl⟩ (wk [0] (ZI k fl)))))))
 exact ax 0 (ar (Zm (ZM (.b true) (lb (by rw [VK,decide_eq_true hil4,hV,<-S1 om Zf];rfl)))))
theorem Zfb (xs:LI) (ys:LI) (hl_xs:xs.length<=4294967296:=by exact ob) (hl_ys:ys.length<=4294967296:=by exact ob):Zo 36 [Z4 xs,Z4 ys] [] (Yx (.b (decide (xs=ys)))):=by
 refine ZE 26 Tryz.func36 (Y1 (YM 1 (iw (Yc xs) (Z0 1 (iw (Yc ys) (YB ((xs.length:Int) != (ys.length:Int)) Yp (fun Z9=>?_) (fun Z9=>?_)))))))
 ·exact ar (Zm (ZM (.b false) (lb (eq_comm.1 (decide_eq_false (fun q=>by rw [q] at Z9;exact Z9 rfl))))))
 refine ak (YM 1 (iw (Yc xs) (Z1 (ab 0 (Y0 (fun fz gz m F h=>∃(k:Nat),(k<=xs.length)/\(xs.take k=ys.take k)/\F=sF [0,1,12] fz [(13,.i k)]/\h=gz/\m=xs.length-k) _ _ _ ⟨0,ob,ob,rfl,rfl,rfl⟩ (wk [] (Ya fl)) ?_)))))
 rintro m F h ⟨k,Yj,Zf,rfl,rfl,rfl⟩
 refine Y1 (aq (WA ((k:Int)<(xs.length:Int)) (fun Zj=>?_) (fun Zj=>?_)))
 ·refine ak (aq (ab 1 (Y1 (aD 9 (Zp 7 9 [0,1] ?_)))))
  obtain ⟨x1,Z3⟩:=Zt xs k om
  refine dx 2 (Zh none (k:Int) 1 (Y8 Z3)) (Zp 3 6 [3,4,5] ?_)
  obtain ⟨x2,Zu⟩:=Zt ys k om
  refine dx 6 (Zh none (k:Int) 1 (Y8 Zu)) (Zp 0 2 [7,8] (de (ac (x1 != x2) Yp (fun ZA=>?_) (fun ZA=>?_))))
  ·exact ar (Zm (ZM (.b false) (lb (eq_comm.1 (decide_eq_false (fun q=>by subst q;rw [Z3] at Zu;cases Zu;exact ZA rfl))))))
  refine ak (az (ZD k (Z1 ?_)))
  have hdr:=Yk Z3
  exact ZF ⟨k+1,ob,(by rw [V5 Z3,V5 Zu,Zf];have hxx:x1=x2:=om;rw [hxx]),rfl,rfl,rfl⟩ (wk [] (ZI k fl))
 exact ax 0 (ar (Zm (ZM (.b true) (lb (eq_comm.1 (decide_eq_true (by rw [WI om,WI om] at Zf;exact Zf)))))))
theorem GW (ds:List Zb) (t:Int) (hl_ds:ds.length<=4294967296:=by exact ob):Zo 124 [Ye ds,.i t] [] (fun r h=>r=.b (decide (0<=t/\t<=ds.length))/\h=[]):=by
 refine ZE 13 Tryz.func124 (Y1 (ar (X6 8 [] [(12,.b ((decide (t>=0))&&(decide (t<=(ds.length:Int)))))] (fun gz=>gz) ?_ (fun hj1=>?_))))
 ·exact Zm (ZM (.b ((decide (t>=0))&&(decide (t<=(ds.length:Int))))) (lb (by rw [Yg];simp)))
 refine Z0 3 (ib (b:=(decide (t>=0))) 7 (fun Zc=>?_) (fun Zc=>?_))
 ·exact Z0 2 (iw (VB ds) (Z0 2 (Y5 (wk [] (Zl (decide (t<=(ds.length:Int))) Zc fl)) hj1)))
 exact Z0 5 (Y5 (wk [] (Zl false Zc fl)) hj1)
theorem PE (ds:List Zb) (xs:LI) (hl_ds:ds.length<=4294967296:=by exact ob) (hl_xs:xs.length<=4294967296:=by exact ob):Zo 123 [Ye ds,Z4 xs] [] (Yx (.b (Wk ds.length xs))):=by
 refine ZE 18 Tryz.func123 (Y1 (YM 1 (iw (Yc xs) (Z1 (ab 0 (Y0 (fun fz gz m F h=>∃(k:Nat),(k<=xs.length)/\(Wk ds.length (xs.drop k)=Wk ds.length xs)/\F=sF [0,7,8] fz [(9,.i k)]/\h=gz/\m=xs.length-k) _ _ _ ⟨0,ob,ob,rfl,rfl,rfl⟩ (wk [] (Ya fl)) ?_))))))
 rintro m F h ⟨k,Yj,Zf,rfl,rfl,rfl⟩
 refine Y1 (aq (WA ((k:Int)<(xs.length:Int)) (fun Z9=>?_) (fun Z9=>?_)))
 ·refine ak (aq (ab 1 (ar ?_)))
  obtain ⟨x1,Z3⟩:=Zt xs k om
  refine Zs (Zh none (k:Int) 1 (Y8 Z3)) (Z1 (Yf 2 (Zw [] (GW ds x1) (YB (!(decide (0<=x1/\x1<=ds.length))) (p:=¬(0<=x1/\x1<=ds.length)) (Yh dq) (fun Zj=>?_) (fun Zj=>?_)))))
  ·refine Y1 ?_
   rw [Yk Z3] at Zf
   exact ZY (ZM (.b false) (lb (by clear Z3;first|rfl|omega|grind [Wk])))
  refine ak (az (ZD k (Z1 ?_)))
  have hdr:=Yk Z3
  exact ZF ⟨k+1,ob,(by rw [hdr] at Zf;clear hdr Z3;grind [Wk]),rfl,rfl,rfl⟩ (wk [] (ZI k fl))
 refine ax 0 (Y1 ?_)
 try rw [Xm (xs:=xs) (k:=k) om] at Zf
 exact ZY (ZM (.b true) (lb (by first|rfl|omega|grind [Wk])))
theorem PF (ds:List Zb) (hd:Xr ds:=by exact ob):Zo 126 [Ye ds] [] (Yx (.i (YJ ds:Nat))):=by
 have hdl:=hd.len
 refine ZE 19 Tryz.func126 (Y1 (Y1 (YM 1 (iw (VB ds) (Z1 (ab 0 (Y0 (fun fz gz m F h=>∃(k:Nat),(k<=ds.length)/\F=sF [6,7] fz [(3,.i ((YJ (ds.take k):Nat):Int)),(8,.i k)]/\h=gz/\m=ds.length-k) _ _ _ ⟨0,ob,rfl,rfl,rfl⟩ (wk [] (Ya (Ya fl))) ?_)))))))
 rintro m F h ⟨k,Yj,rfl,rfl,rfl⟩
 refine Y1 (aq (WA ((k:Int)<(ds.length:Int)) (fun Z9=>?_) (fun Z9=>?_)))
 ·refine ak (aq (ab 1 (ar ?_)))
  obtain ⟨x1,Z3⟩:=Zt ds k om
  refine Zs (Zh none (k:Int) 3 (Wg Z3)) (Z0 1 (iA [.i 0,.i 0,nl] fun b1=>Zy 0 b1 (BK x1) (ie (az (Zz 3 [0] (iw (VT x1.cons) (ia (((YJ (ds.take k)+x1.cons.length:Nat):Int)) ((((YJ (ds.take k):Nat):Int))+((x1.cons.length:Int))) (hb:=(by have h1:=hd.cons_at Z3;have h2:=(hd.take k).sum;omega)) (Z1 (az (ZD k (Z1 ?_)))))))))))
  have hdr:=Yk Z3
  exact ZF ⟨k+1,ob,rfl,rfl,rfl⟩ (wk [] (fc (x:=.i ((YJ (ds.take k)+x1.cons.length:Nat):Int)) (li (by rw [V5 Z3,Di];simp [YJ])) (ZI k fl)))
 exact ax 0 (ar (Zm (ZM (.i ((YJ (ds.take k):Nat):Int)) (li (by rw [WI om])))))
theorem Za8 (ds:List Zb) (c:Int) (hd:Xr ds:=by exact ob) (hc:-9223372036854775808<=c/\c<=9223372036854775807:=by exact ob):Zo 160 [Ye ds,.i c] [] (Yx (.tup [.i (Wm ds c),.agg [Z4 (ZP ds c)]])):=by
 have hdl:=hd.len
 refine ZE 38 Tryz.func160 (Yf 1 (iA [nl] fun b1=>?_))
 refine ie (YM 1 (iw (VB ds) (Z1 (ab 0 (Y0 (fun fz gz m F h=>∃(k:Nat) (cv:Int),(k<=ds.length)/\(Bm c (YJ (ds.take k)) cv)/\(Us c (ds.drop k) k (YJ (ds.take k))=Us c ds 0 0)/\F=sF [5,8,9] fz [(1,.i cv),(10,.i k)]/\h=gz/\m=ds.length-k) _ _ _ ⟨0,c,ob,(.inl (by simp [YJ])),rfl,rfl,rfl,rfl⟩ (wk [0] (fr (Ya fl))) ?_)))))
 rintro m F h ⟨k,cv,Yj,Zf,ZB,rfl,rfl,rfl⟩
 refine Y1 (aq (WA ((k:Int)<(ds.length:Int)) (fun Z9=>?_) (fun Z9=>?_)))
 ·refine ak (aq (ab 1 (Yf 1 ?_)))
  obtain ⟨x1,Z3⟩:=Zt ds k om
  refine Zs (Zh none (k:Int) 3 (Wg Z3)) (Z0 1 (iA [.i 0,.i 0,nl] fun b2=>Z0 1 (Zy 0 b2 (BK x1) (ie (Xd (Xp [1,5,6,7,8,9,10] [(23,.b ((decide (cv>=0))&&(decide (cv<(x1.cons.length:Int)))))] (fun gz=>gz) ?_ ?_))))))
  ·refine Z0 3 (ib (b:=(decide (cv>=0))) 17 (fun Zc=>?_) (fun Zc=>?_))
   ·exact Zz 3 [0] (iw (VT x1.cons) (Z1 (wk [0,0] (Zl (decide (cv<(x1.cons.length:Int))) Zc fl))))
   exact Z1 (wk [0,0] (Zl false Zc fl))
  refine ac ((decide (cv>=0))&&(decide (cv<(x1.cons.length:Int)))) (p:=(cv>=0)/\(cv<(x1.cons.length:Int))) (Yu dq dq) (fun Zj=>?_) (fun Zj=>?_)
  ·refine aD 9 (Zp 8 9 [0] (da 1 (((k+1:Nat):Int)) (((k:Int))+(1)) (ZW 4 7 [2,3,4] [0] ?_)))
   obtain ⟨x2,Zu⟩:=Zt x1.cons cv.toNat om
   refine dx 5 (Zh none cv 1 (Jv Zu)) (Zp 1 3 [6,7] (Z7 8 (X3 8 1 [] [] b1 (LT x2) (de ?_))))
   have hz:=(hd.take k).sum
   have h3:=hd.cons_at Z3
   have hH:=ZB.symm.trans (Z4d Z3 Zf om h3 hc.1 Zj Zu)
   exact ZY (r3 [] [.i (k+1:Nat),Db x2] [0] [(b1,b1)] ⟨rfl,rfl⟩ (Zd.tup (.cons (li (by rw [Wm,hH];omega)) (.cons (Zd.agg (.cons (Zd.sl _ (Yl Z6 (by rw [ZP,hH]))) .nil)) .nil))))
  refine ak (az (Zz 3 [0] (iw (VT x1.cons) (iW ((cv)-((x1.cons.length:Int))) (Z1 (az (ZD k (Z1 ?_))))))))
  have hdr:=Yk Z3
  exact ZF ⟨k+1,(D7 ((cv)-((x1.cons.length:Int)))),ob,(by have hz:=(hd.take k).sum;have h3:=hd.cons_at Z3;rw [V5 Z3,Di];simpa [YJ] using Z3d Zf om h3 hc),(Z4b Z3 Zf Zj ZB),rfl,rfl,rfl⟩ (wk [1] (fr (ZI k fl)))
 refine ax 0 (Yf 2 (Zy 0 b1 [nl] (ie ?_)))
 have hH:Us c ds 0 0=(-1,[]):=by rw [<-ZB,Xm om];rfl
 exact ZY (r3 [] [.i (-1),.agg [nl]] [0] [(b1,b1)] ⟨rfl,rfl⟩ (Zd.tup (.cons (li (by rw [Wm,hH])) (.cons (Zd.agg (.cons (Zd.sl _ (by rw [ZP,hH];rfl)) .nil)) .nil))))
theorem Zab (ds:List Zb) (c:Int) (hd:Xr ds:=by exact ob) (hc:-9223372036854775808<=c/\c<=9223372036854775807:=by exact ob):Zo 128 [Ye ds,.i c] [] (Yx (Z4 (ZP ds c))):=by
 exact ZE 15 Tryz.func128 (Y1 (Yf 2 (Zw [] (Za8 ds c) (Z0 3 (iA [nl] fun b1=>Z0 1 (Zy 0 b1 [Z4 (ZP ds c)] (ie (Qz [0] (ZY (MO))))))))))
theorem Za9 (ds:List Zb) (t:Int) (hd:Xr ds:=by exact ob):Zo 127 [Ye ds,.i t] [] (Yx (Z4 (ZZ ds t))):=by
 have hdl:=hd.len
 refine ZE 39 Tryz.func127 (Y1 (Xd (Xp [0,1] [(15,.b ((decide (t<1))||(decide (t>(ds.length:Int)))))] (fun gz=>gz) ?_ ?_)))
 ·refine Z0 3 (ib (b:=(decide (t<1))) 10 (fun Zc=>?_) (fun Zc=>?_))
  ·exact Z1 (wk [] (Zl true Zc fl))
  exact Z0 2 (iw (VB ds) (Z1 (wk [] (Zl (decide (t>(ds.length:Int))) Zc fl))))
 refine ac ((decide (t<1))||(decide (t>(ds.length:Int)))) (p:=(t<1)∨(t>(ds.length:Int))) (ZO dq dq) (fun Z9=>?_) (fun Z9=>?_)
 ·exact ar (Zm (ZM (nl) (Zd.sl _ (by rw [ZZ,Za om];rfl))))
 have hti:1<=t/\t<=ds.length:=by omega
 obtain ⟨d,hd1⟩:=Zt ds ((t-1).toNat) om
 have hdc:=hd.cons_at hd1
 have hsm:=(hd.take (t-1).toNat).sum
 refine ak (Yf 2 (ia ((((t-1).toNat:Nat):Int)) ((t)-(1)) (Zs (Ax (es:=YS ds) (hv:=none) (l:=0) (m:=(((t-1).toNat:Nat):Int)) (sz:=3) (es':=YS (ds.take ((t-1).toNat))) kr om (by simp<;>omega) (by simp<;>omega) (Qv _) (by first|(simp only [UZ,Ub,Dp,Dn];done)|(simp only [UZ,Ub,Dp,Dn];rfl)|(simp [Dp,Dn];done))) (Zw [] (PF (ds.take ((t-1).toNat)) (hd:=(hd.take _))) (Z1 (Y1 (YM 2 (ia ((((t-1).toNat:Nat):Int)) ((t)-(1)) (Zs (Zh none (((t-1).toNat:Nat):Int) 3 (Wg hd1)) (Z0 2 (iw (VT d.cons) (Z1 (ab 0 (Dc 1 (Y0 (fun fz gz m F h=>∃(k:Nat) (v:Value),(k<=d.cons.length)/\F=sF [5,27] fz [(6,ZH (VV (YJ (ds.take (t-1).toNat)) k) v),(28,.i k)]/\h=[.tail v 1]/\m=d.cons.length-k) _ _ _ ⟨0,(.slice none 0 0),ob,rfl,rfl,rfl⟩ (wk [0] (fc (x:=nl) (Zd.slh _ rfl) (Ya fl))) ?_)))))))))))))))
 rintro m F h ⟨k,v,Yj,rfl,rfl,rfl⟩
 refine Y1 (aq (WA ((k:Int)<(d.cons.length:Int)) (fun Zj=>?_) (fun Zj=>?_)))
 ·exact ak (aq (ab 1 (Y1 (az (Z0 3 (ia ((((YJ (ds.take ((t-1).toNat)))+k:Nat):Int)) ((((YJ (ds.take ((t-1).toNat)):Nat):Int))+((k:Int))) (iL (Z6 [(((YJ (ds.take ((t-1).toNat)))+k:Nat):Int)]) 1 1 fun v1=>ZQ 0 [(35,Z4 [(((YJ (ds.take ((t-1).toNat)))+k:Nat):Int)])] (ip 1 (Z6 (VV (YJ (ds.take (t-1).toNat)) k++[(((YJ (ds.take ((t-1).toNat)))+k:Nat):Int)])) (Z6 (VV (YJ (ds.take (t-1).toNat)) k)) (Z6 [(((YJ (ds.take ((t-1).toNat)))+k:Nat):Int)]) v none 1 (YD _) (YD _) (W2 _) (by simp;omega) (by simp [W1,Z6]) fun v2=>Z1 (az (ZD k (Z1 (ZF ⟨k+1,v2,ob,rfl,rfl,rfl⟩ (wk [0] (fc (x:=ZH (VV (YJ (ds.take (t-1).toNat)) k++[(((YJ (ds.take ((t-1).toNat)))+k:Nat):Int)]) v2) (Zd.slh _ (Yl Z6 (Ru _ _).symm)) (ZI k fl)))))))))))))))
 exact ax 0 (ar (Zm (ZM (ZH (VV (YJ (ds.take (t-1).toNat)) k) v) (Zd.sl _ (Yl Z6 (by rw [ZZ,Zk hti,hd1,show k=d.cons.length by omega];rfl))))))
theorem Za6 (ds:List Zb) (hz:TL ds:=by exact ob):Zo 122 [Ye ds] [] (Yx (.b (WM ds))):=by
 have hzl:=hz.len
 refine ZE 106 Tryz.func122 (Y1 (YM 1 (iw (VB ds) (Y2 ((ds.length:Int)>4) (fun Z9=>?_) (fun Z9=>?_)))))
 ·exact ar (Zm (ZM (.b false) (lb (by rw [WM,decide_eq_false om];rfl))))
 refine ak (YM 1 (iw (VB ds) (Z1 (ab 0 (Y0 (fun fz gz m F h=>∃(k:Nat),(k<=ds.length)/\(T5 ds (ds.drop k) k=T5 ds ds 0)/\F=sF [0,12,13] fz [(14,.i k)]/\h=gz/\m=ds.length-k) _ _ _ ⟨0,ob,rfl,rfl,rfl,rfl⟩ (wk [] (Ya fl)) ?_)))))
 rintro m F h ⟨k,Yj,Zf,rfl,rfl,rfl⟩
 refine Y1 (aq (WA ((k:Int)<(ds.length:Int)) (fun Zj=>?_) (fun Zj=>?_)))
 ·refine ak (aq (ab 1 (Yf 1 ?_)))
  obtain ⟨x1,Z3⟩:=Zt ds k om
  have hz1:=hz.cons_at Z3
  refine Zs (Zh none (k:Int) 3 (Wg Z3)) (Z0 1 (iA [.i 0,.i 0,nl] fun b1=>Z0 1 (Zy 0 b1 (BK x1) (ie (Ys 3 [0] (Zw [] (GW ds x1.frm) (X6 12 [0,3,4,12,13,14] [(30,.b ((!(decide (0<=x1.frm/\x1.frm<=ds.length)))||(!(decide (0<=x1.to_/\x1.to_<=ds.length)))))] (fun gz=>gz) ?_ (fun hj1=>?_))))))))
  ·refine X6 18 [0,3,4,12,13,14] [(36,.b (((!(decide (0<=x1.frm/\x1.frm<=ds.length)))||(!(decide (0<=x1.to_/\x1.to_<=ds.length))))||(decide ((x1.cons.length:Int)>3))))] (fun gz=>gz) ?_ (fun hj2=>?_)
   ·refine Xp [0,3,4,12,13,14] [(52,.b ((((!(decide (0<=x1.frm/\x1.frm<=ds.length)))||(!(decide (0<=x1.to_/\x1.to_<=ds.length))))||(decide ((x1.cons.length:Int)>3)))||((decide ((x1.cons.length:Int)>0))&&((x1.frm != 0)||(x1.to_ != 0)))))] (fun gz=>gz) ?_ ?_
    ·refine Z0 1 (ib (b:=(((!(decide (0<=x1.frm/\x1.frm<=ds.length)))||(!(decide (0<=x1.to_/\x1.to_<=ds.length))))||(decide ((x1.cons.length:Int)>3)))) 37 (fun Zc=>?_) (fun Zc=>?_))
     ·have Y4:((¬(0<=x1.frm/\x1.frm<=ds.length))∨(¬(0<=x1.to_/\x1.to_<=ds.length)))∨((x1.cons.length:Int)>3):=((ZO (ZO (Yh dq) (Yh dq)) dq)).1 Zc
      exact Z1 (wk [0] (Zl true Zc fl))
     have Yr:¬(((¬(0<=x1.frm/\x1.frm<=ds.length))∨(¬(0<=x1.to_/\x1.to_<=ds.length)))∨((x1.cons.length:Int)>3)):=Y7 (ZO (ZO (Yh dq) (Yh dq)) dq) Zc
     refine Zz 2 [0] (iw (VT x1.cons) (Z0 2 (ib (b:=(decide ((x1.cons.length:Int)>0))) 42 (fun ZC=>?_) (fun ZC=>?_))))
     ·have YR:(x1.cons.length:Int)>0:=(dq).1 ZC
      refine Zz 4 [0] (ib (b:=(x1.frm != 0)) 46 (fun Yn=>?_) (fun Yn=>?_))
      ·have YV:x1.frm≠0:=(Yp).1 Yn
       exact Z1 (wk [0] (Zl true (And.intro Zc (And.intro ZC Yn)) fl))
      have Xc:¬(x1.frm≠0):=Y7 Yp Yn
      exact V4 [0] (wk [0] (Zl (x1.to_ != 0) (And.intro Zc (And.intro ZC Yn)) fl))
     have XK:¬((x1.cons.length:Int)>0):=Y7 dq ZC
     exact Z1 (wk [0] (Zl false (And.intro Zc ZC) fl))
    refine ac ((((!(decide (0<=x1.frm/\x1.frm<=ds.length)))||(!(decide (0<=x1.to_/\x1.to_<=ds.length))))||(decide ((x1.cons.length:Int)>3)))||((decide ((x1.cons.length:Int)>0))&&((x1.frm != 0)||(x1.to_ != 0)))) (p:=(((¬(0<=x1.frm/\x1.frm<=ds.length))∨(¬(0<=x1.to_/\x1.to_<=ds.length)))∨((x1.cons.length:Int)>3))∨(((x1.cons.length:Int)>0)/\((x1.frm≠0)∨(x1.to_≠0)))) (ZO (ZO (ZO (Yh dq) (Yh dq)) dq) (Yu dq (ZO Yp Yp))) (fun ZA=>?_) (fun ZA=>?_)
    ·exact ar (Zm (ZM (.b false) (lb (MS Z3 (Z51 ZA) Zf))))
    refine ak (Ys 2 [0] (iw (VT x1.cons) (Z1 (ab 2 (Y0 (fun fz gz m F h=>∃(q:Nat),(q<=x1.cons.length)/\(TC ds.length (x1.cons.drop q)=TC ds.length x1.cons)/\F=sF [0,3,4,12,13,14,54,55] fz [(56,.i q)]/\h=gz/\m=x1.cons.length-q) _ _ _ ⟨0,ob,rfl,rfl,rfl,rfl⟩ (wk [0] (Ya fl)) ?_)))))
    rintro m F h ⟨q,VA,Xs,rfl,rfl,rfl⟩
    refine Y1 (aq (WA ((q:Int)<(x1.cons.length:Int)) (fun Yi=>?_) (fun Yi=>?_)))
    ·refine ak (aq (ab 3 (ar ?_)))
     obtain ⟨x2,Zu⟩:=Zt x1.cons q om
     refine Zs (Zh none (q:Int) 1 (Jv Zu)) (Z0 1 (iA [nl] fun b2=>Zy 0 b2 (LT x2) (ie (Zq 2 [0] (iw (Yc x2.fields) (Xp [0,3,4,12,13,14,54,55,56] [(70,.b ((decide ((x2.fields.length:Int)>3))||(!Wk ds.length x2.fields)))] (fun gz=>gz) ?_ ?_))))))
     ·refine Z0 2 (ib (b:=(decide ((x2.fields.length:Int)>3))) 64 (fun X1=>?_) (fun X1=>?_))
      ·have Wc:(x2.fields.length:Int)>3:=(dq).1 X1
       exact Z1 (wk [0,0] (Zl true X1 fl))
      have WF:¬((x2.fields.length:Int)>3):=Y7 dq X1
      exact Zz 3 [0] (Zw [] (PE ds x2.fields) (Z1 (wk [0,0] (Zl (!Wk ds.length x2.fields) X1 fl))))
     refine ac ((decide ((x2.fields.length:Int)>3))||(!Wk ds.length x2.fields)) (p:=((x2.fields.length:Int)>3)∨(¬(Wk ds.length x2.fields=true))) (ZO dq (Yh Iff.rfl)) (fun YG=>?_) (fun YG=>?_)
     ·exact ar (Zm (ZM (.b false) (lb (MS Z3 (Z52 om (by rw [<-Xs,Yk Zu,TC,Za (by rw [Z4e YG];simp)])) Zf))))
     refine ak (az (ZD q (Z1 ?_)))
     have hdr:=Yk Zu
     exact ZF ⟨q+1,ob,(by rw [Yk Zu,TC,Zk (Z4f YG)] at Xs;exact Xs),rfl,rfl,rfl⟩ (wk [1] (ZI q fl))
    have hC:TC ds.length x1.cons=true:=by rw [<-Xs,Xm om];rfl
    refine ax 2 (Yf 2 (Zs (Ax (es:=YS ds) (hv:=none) (l:=0) (m:=(k:Int)) (sz:=3) (es':=YS (ds.take k)) kr om (by simp<;>omega) (by simp<;>omega) (Qv _) (by first|(simp only [UZ,Ub,Dp,Dn];done)|(simp only [UZ,Ub,Dp,Dn];rfl)|(simp [Dp,Dn];done))) (io (.i (((ds.take k).length:Nat):Int)) (.i (((YS (ds.take k)).length:Nat):Int)) (li (by rw [VB])) (Z1 (ab 4 (Y0 (fun fz gz m F h=>∃(j:Nat),(j<=k)/\(x1.cons.length=0->QV x1 ((ds.take k).drop j)=QV x1 (ds.take k))/\F=sF [0,4,12,13,14,74,75] fz [(76,.i j)]/\h=gz/\m=k-j) _ _ _ ⟨0,ob,ob,rfl,rfl,rfl⟩ (wk [0] (Ya fl)) ?_))))))
    rintro m F h ⟨j,Eu,QU,rfl,rfl,rfl⟩
    refine Y1 (aq (WA ((j:Int)<(((ds.take k).length:Nat):Int)) (fun X2=>?_) (fun X2=>?_)))
    ·have htl:(ds.take k).length<=k:=by rw [Wi];omega
     refine ak (aq (ab 5 (ar ?_)))
     obtain ⟨x3,YP⟩:=Zt (ds.take k) j om
     refine Zs (Zh none (j:Int) 3 (Wg YP)) (Z0 1 (iA [.i 0,.i 0,nl] fun b3=>Zy 0 b3 (BK x3) (ie (Zq 2 [1] (iw (VT x1.cons) (X6 10 [0,4,8,12,13,14,74,75,76] [(89,.b (((x1.cons.length:Int)==0)&&((x3.cons.length:Int)==0)))] (fun gz=>gz) ?_ (fun hj3=>?_)))))))
     ·refine X6 17 [0,4,8,12,13,14,74,75,76] [(96,.b ((((x1.cons.length:Int)==0)&&((x3.cons.length:Int)==0))&&(x3.frm==x1.frm)))] (fun gz=>gz) ?_ (fun hj4=>?_)
      ·refine Xp [0,4,12,13,14,74,75,76] [(103,.b (((((x1.cons.length:Int)==0)&&((x3.cons.length:Int)==0))&&(x3.frm==x1.frm))&&(x3.to_==x1.to_)))] (fun gz=>gz) ?_ ?_
       ·refine Z0 1 (ib (b:=((((x1.cons.length:Int)==0)&&((x3.cons.length:Int)==0))&&(x3.frm==x1.frm))) 97 (fun XF=>?_) (fun XF=>?_))
        ·have V1:(((x1.cons.length:Int)=0)/\((x3.cons.length:Int)=0))/\(x3.frm=x1.frm):=((Yu (Yu Ze Ze) Ze)).1 XF
         exact V4 [0,1] (wk [0,0] (Zl (x3.to_==x1.to_) XF fl))
        have Ue:¬((((x1.cons.length:Int)=0)/\((x3.cons.length:Int)=0))/\(x3.frm=x1.frm)):=Y7 (Yu (Yu Ze Ze) Ze) XF
        exact Z1 (wk [0,0] (Zl false XF fl))
       refine ac (((((x1.cons.length:Int)==0)&&((x3.cons.length:Int)==0))&&(x3.frm==x1.frm))&&(x3.to_==x1.to_)) (p:=((((x1.cons.length:Int)=0)/\((x3.cons.length:Int)=0))/\(x3.frm=x1.frm))/\(x3.to_=x1.to_)) (Yu (Yu (Yu Ze Ze) Ze) Ze) (fun Wz=>?_) (fun Wz=>?_)
       ·exact ar (Zm (ZM (.b false) (lb (MS Z3 (Z53 om (by rw [<-QU om,Yk YP,QV,Zk om])) Zf))))
       exact ak (az (ZD j (Z1 (ZF ⟨j+1,ob,(fun q=>by have hq:=QU q;rw [Yk YP,QV,Za om] at hq;exact hq),rfl,rfl,rfl⟩ (wk [1] (ZI j fl))))))
      refine Z0 1 (ib (b:=(((x1.cons.length:Int)==0)&&((x3.cons.length:Int)==0))) 90 (fun Ws=>?_) (fun Ws=>?_))
      ·have UG:((x1.cons.length:Int)=0)/\((x3.cons.length:Int)=0):=((Yu Ze Ze)).1 Ws
       exact Zz 6 [0,1] (Y5 (wk [0,0] (Zl (x3.frm==x1.frm) Ws fl)) hj4)
      have Ut:¬(((x1.cons.length:Int)=0)/\((x3.cons.length:Int)=0)):=Y7 (Yu Ze Ze) Ws
      exact Z0 6 (Y5 (wk [0,0] (Zl false Ws fl)) hj4)
     refine Z0 2 (ib (b:=((x1.cons.length:Int)==0)) 84 (fun WK=>?_) (fun WK=>?_))
     ·have TW:(x1.cons.length:Int)=0:=(Ze).1 WK
      exact Zz 2 [0] (iw (VT x3.cons) (Z0 2 (Y5 (wk [0,0] (Zl ((x3.cons.length:Int)==0) WK fl)) hj3)))
     have Tq:¬((x1.cons.length:Int)=0):=Y7 Ze WK
     exact Z0 5 (Y5 (wk [0,0] (Zl false WK fl)) hj3)
    have htl:(ds.take k).length=k:=by rw [Wi];omega
    have hD:x1.cons.length=0->QV x1 (ds.take k)=false:=fun q=>by rw [<-QU q,Xm om];rfl
    refine ax 4 (az (ZD k (Z1 ?_)))
    have hdr:=Yk Z3
    exact ZF ⟨k+1,ob,(Zi4 Z3 (Z54 ZA hC hD) Zf),rfl,rfl,rfl⟩ (wk [] (ZI k fl))
   refine Z0 1 (ib (b:=((!(decide (0<=x1.frm/\x1.frm<=ds.length)))||(!(decide (0<=x1.to_/\x1.to_<=ds.length))))) 31 (fun Vl=>?_) (fun Vl=>?_))
   ·have K4:(¬(0<=x1.frm/\x1.frm<=ds.length))∨(¬(0<=x1.to_/\x1.to_<=ds.length)):=((ZO (Yh dq) (Yh dq))).1 Vl
    exact Z0 5 (Y5 (wk [0] (Zl true Vl fl)) hj2)
   have K5:¬((¬(0<=x1.frm/\x1.frm<=ds.length))∨(¬(0<=x1.to_/\x1.to_<=ds.length))):=Y7 (ZO (Yh dq) (Yh dq)) Vl
   exact Zz 2 [0] (iw (VT x1.cons) (Z0 2 (Y5 (wk [0] (Zl (decide ((x1.cons.length:Int)>3)) Vl fl)) hj2)))
  refine Z0 2 (ib (b:=(!(decide (0<=x1.frm/\x1.frm<=ds.length)))) 24 (fun V9=>?_) (fun V9=>?_))
  ·have Ak:¬(0<=x1.frm/\x1.frm<=ds.length):=((Yh dq)).1 V9
   exact Z0 6 (Y5 (wk [0] (Zl true V9 fl)) hj1)
  have B6:¬(¬(0<=x1.frm/\x1.frm<=ds.length)):=Y7 (Yh dq) V9
  exact Zz 3 [0] (Zw [] (GW ds x1.to_) (Z0 2 (Y5 (wk [0] (Zl (!(decide (0<=x1.to_/\x1.to_<=ds.length))) V9 fl)) hj1)))
 exact ax 0 (ar (Zm (ZM (.b true) (lb (Zi3 om om Zf)))))
theorem Zaj (ds:List Zb) (fs:List Vz) (hz:TL ds:=by exact ob) (hf:∀f∈fs,f.pms.length<=4194304/\f.lnt.length<=4194304) (hfl:fs.length<=4194304:=by exact ob):Zo 76 [Ye ds,KF fs] [] (Yx (.b (Q7 ds fs))):=by
 have hzl:=hz.len
 refine ZE 102 Tryz.func76 (Y1 (YM 1 (Zw [] (Za6 ds) (X6 8 [0,1] [(16,.b ((!WM ds)||(decide ((fs.length:Int)<1))))] (fun gz=>gz) ?_ (fun hj1=>?_)))))
 ·refine X6 13 [0,1] [(21,.b (((!WM ds)||(decide ((fs.length:Int)<1)))||(decide ((fs.length:Int)>4))))] (fun gz=>gz) ?_ (fun hj2=>?_)
  ·refine Z0 1 (ib (b:=(((!WM ds)||(decide ((fs.length:Int)<1)))||(decide ((fs.length:Int)>4)))) 22 (fun Zc=>?_) (fun Zc=>?_))
   ·have Y4:((¬(WM ds=true))∨((fs.length:Int)<1))∨((fs.length:Int)>4):=((ZO (ZO (Yh Iff.rfl) dq) dq)).1 Zc
    exact Z1 (VR (ar (Zm (ZM (.b false) (lb (Zi9 (by assumption)))))))
   have Yr:¬(((¬(WM ds=true))∨((fs.length:Int)<1))∨((fs.length:Int)>4)):=Y7 (ZO (ZO (Yh Iff.rfl) dq) dq) Zc
   refine Z0 1 ?_
   obtain ⟨x1,Z3⟩:=Zt fs 0 om
   refine Zs (Zh none 0 3 (Du Z3)) (Z0 2 (iw (Yc x1.pms) (Z0 3 (ib (b:=(decide ((x1.pms.length:Int)>0))) 30 (fun ZC=>?_) (fun ZC=>?_)))))
   ·have YR:(x1.pms.length:Int)>0:=(dq).1 ZC
    exact Z1 (VR (ar (Zm (ZM (.b false) (lb (Z1u Z3 (.inl (by assumption))))))))
   have YV:¬((x1.pms.length:Int)>0):=Y7 dq ZC
   refine Z0 1 (Zs (Zh none 0 3 (Du Z3)) (YB (x1.res != 0) Yp (fun Z9=>?_) (fun Z9=>?_)))
   ·exact ar (Zm (ZM (.b false) (lb (Z1u Z3 (.inr Z9)))))
   refine ak (YM 1 (iw (EC fs) (Z1 (ab 0 (Y0 (fun fz gz m F h=>∃(k:Nat),(k<=fs.length)/\(KI ds.length (fs.drop k)=KI ds.length fs)/\F=sF [0,37,38] fz [(39,.i k)]/\h=gz/\m=fs.length-k) _ _ _ ⟨0,ob,ob,rfl,rfl,rfl⟩ (wk [] (Ya fl)) ?_)))))
   rintro m F h ⟨k,Yj,Zf,rfl,rfl,rfl⟩
   refine Y1 (aq (WA ((k:Int)<(fs.length:Int)) (fun Zj=>?_) (fun Zj=>?_)))
   ·refine ak (aq (ab 1 (ar ?_)))
    obtain ⟨x2,Zu⟩:=Zt fs k om
    have hf2:=hf _ (Y3 Zu)
    refine Zs (Zh none (k:Int) 3 (Du Zu)) (Z0 1 (iA [nl,nl,.i 0] fun b1=>Zy 0 b1 (PX x2) (ie (Ys 2 [0] (iw (Yc x2.pms) (X6 11 [0,6,37,38,39] [(53,.b ((decide ((x2.pms.length:Int)>3))||(!Wk ds.length x2.pms)))] (fun gz=>gz) ?_ (fun hj3=>?_)))))))
    ·refine Xp [0,6,37,38,39] [(60,.b (((decide ((x2.pms.length:Int)>3))||(!Wk ds.length x2.pms))||(!(decide (0<=x2.res/\x2.res<=ds.length)))))] (fun gz=>gz) ?_ ?_
     ·refine Z0 1 (ib (b:=((decide ((x2.pms.length:Int)>3))||(!Wk ds.length x2.pms))) 54 (fun Yn=>?_) (fun Yn=>?_))
      ·have Xc:((x2.pms.length:Int)>3)∨(¬(Wk ds.length x2.pms=true)):=((ZO dq (Yh Iff.rfl))).1 Yn
       exact Z1 (wk [0] (Zl true Yn fl))
      have XK:¬(((x2.pms.length:Int)>3)∨(¬(Wk ds.length x2.pms=true))):=Y7 (ZO dq (Yh Iff.rfl)) Yn
      exact Zz 3 [0] (Zw [] (GW ds x2.res) (Z1 (wk [0] (Zl (!(decide (0<=x2.res/\x2.res<=ds.length))) Yn fl))))
     refine ac (((decide ((x2.pms.length:Int)>3))||(!Wk ds.length x2.pms))||(!(decide (0<=x2.res/\x2.res<=ds.length)))) (p:=(((x2.pms.length:Int)>3)∨(¬(Wk ds.length x2.pms=true)))∨(¬(0<=x2.res/\x2.res<=ds.length))) (ZO (ZO dq (Yh Iff.rfl)) (Yh dq)) (fun ZA=>?_) (fun ZA=>?_)
     ·exact ar (Zm (ZM (.b false) (lb (I4 (HH Zu (Zew ZA) Zf)))))
     refine ak (Zq 2 [0] (iw (Yc x2.lnt) (Z1 (ab 2 (Y0 (fun fz gz m F h=>∃(j:Nat),(j<=x2.lnt.length)/\(QF x2.pms (x2.lnt.drop j) (if j=0 then none else x2.lnt[j-1]?)=Ur x2.pms x2.lnt)/\F=sF [0,6,37,38,39,62,63] fz [(64,.i j)]/\h=gz/\m=x2.lnt.length-j) _ _ _ ⟨0,ob,(by rfl),rfl,rfl,rfl⟩ (wk [0] (Ya fl)) ?_)))))
     rintro m F h ⟨j,VA,Xs,rfl,rfl,rfl⟩
     refine Y1 (aq (WA ((j:Int)<(x2.lnt.length:Int)) (fun Yi=>?_) (fun Yi=>?_)))
     ·refine ak (aq (ab 3 (Yf 1 ?_)))
      obtain ⟨x3,YP⟩:=Zt x2.lnt j om
      refine Zs (Zh none (j:Int) 1 (Y8 YP)) (Z1 (ar (X6 9 [0,6,7,8,37,38,39,62,63,64] [(77,.b ((decide (x3<0))||(decide (x3>=(x2.pms.length:Int)))))] (fun gz=>gz) ?_ (fun hj4=>?_))))
      ·refine Z0 1 (ib (b:=((decide (x3<0))||(decide (x3>=(x2.pms.length:Int))))) 78 (fun X1=>?_) (fun X1=>?_))
       ·have Wc:(x3<0)∨(x3>=(x2.pms.length:Int)):=((ZO dq dq)).1 X1
        exact Z1 (VR (ar (Zm (ZM (.b false) (lb (I4 (HH Zu (Mt (M3 YP (by rintro ⟨q1,q2,q3⟩;first|omega|(rw [WR] at q2;exact q2 (Yl some om))|(have:=q3 _ (by rw [Za om];exact Uu);omega)) Xs)) Zf)))))))
       have WF:¬((x3<0)∨(x3>=(x2.pms.length:Int))):=Y7 (ZO dq dq) X1
       refine Zz 3 [0] ?_
       obtain ⟨x4,WR⟩:=Zt x2.pms x3.toNat om
       refine Zs (Zh none x3 1 (Y8 WR)) (Z0 4 (ib (b:=(x4==0)) 86 (fun XF=>?_) (fun XF=>?_)))
       ·have V1:x4=0:=(Ze).1 XF
        exact Z1 (VR (ar (Zm (ZM (.b false) (lb (I4 (HH Zu (Mt (M3 YP (by rintro ⟨q1,q2,q3⟩;first|omega|(rw [WR] at q2;exact q2 (Yl some om))|(have:=q3 _ (by rw [Za om];exact Uu);omega)) Xs)) Zf)))))))
       have Ue:¬(x4=0):=Y7 Ze XF
       refine Z0 3 (ib (b:=(decide ((j:Int)>0))) 89 (fun Ws=>?_) (fun Ws=>?_))
       ·have UG:(j:Int)>0:=(dq).1 Ws
        refine Zz 4 [0] (ia (((j-1:Nat):Int)) (((j:Int))-(1)) ?_)
        obtain ⟨x5,Uu⟩:=Zt x2.lnt (j-1) om
        refine Zs (Zh none ((j-1:Nat):Int) 1 (Y8 Uu)) (Y2 (x3<=x5) (fun YG=>?_) (fun YG=>?_))
        ·exact ar (Zm (ZM (.b false) (lb (I4 (HH Zu (Mt (M3 YP (by rintro ⟨q1,q2,q3⟩;first|omega|(rw [WR] at q2;exact q2 (Yl some om))|(have:=q3 _ (by rw [Za om];exact Uu);omega)) Xs)) Zf)))))
        refine ak (az (ZD j (Z1 ?_)))
        have hdr:=Yk YP
        exact ZF ⟨j+1,ob,(Rb YP ⟨by omega,(by rw [WR];intro q;cases q;omega),fun p hp=>by first|(rw [Zk om] at hp;cases hp;done)|(rw [Za om,Uu] at hp;cases hp;omega)⟩ Xs),rfl,rfl,rfl⟩ (wk [0] (ZI j fl))
       have Ut:¬((j:Int)>0):=Y7 dq Ws
       refine Z1 (VG (ak (az (ZD j (Z1 ?_)))))
       have hdr:=Yk YP
       exact ZF ⟨j+1,ob,(Rb YP ⟨by omega,(by rw [WR];intro q;cases q;omega),fun p hp=>by first|(rw [Zk om] at hp;cases hp;done)|(rw [Za om,Uu] at hp;cases hp;omega)⟩ Xs),rfl,rfl,rfl⟩ (wk [0] (ZI j fl))
      refine Z0 3 (ib (b:=(decide (x3<0))) 71 (fun WK=>?_) (fun WK=>?_))
      ·have TW:x3<0:=(dq).1 WK
       exact Z0 6 (Y5 (wk [0] (Zl true WK fl)) hj4)
      have Tq:¬(x3<0):=Y7 dq WK
      exact Zz 3 [0] (iw (Yc x2.pms) (Z0 2 (Y5 (wk [0] (Zl (decide (x3>=(x2.pms.length:Int))) WK fl)) hj4)))
     have hL:Ur x2.pms x2.lnt=true:=by rw [<-Xs,Xm om];rfl
     have hS:=Zex ZA hL
     refine ax 2 (az (ZD k (Z1 ?_)))
     have hdr:=Yk Zu
     exact ZF ⟨k+1,ob,(Zfa Zu hS Zf),rfl,rfl,rfl⟩ (wk [] (ZI k fl))
    refine Z0 2 (ib (b:=(decide ((x2.pms.length:Int)>3))) 47 (fun Vl=>?_) (fun Vl=>?_))
    ·have K4:(x2.pms.length:Int)>3:=(dq).1 Vl
     exact Z0 6 (Y5 (wk [0] (Zl true Vl fl)) hj3)
    have K5:¬((x2.pms.length:Int)>3):=Y7 dq Vl
    exact Zz 3 [0] (Zw [] (PE ds x2.pms) (Z0 2 (Y5 (wk [0] (Zl (!Wk ds.length x2.pms) Vl fl)) hj3)))
   exact ax 0 (ar (Zm (ZM (.b true) (lb (Zia (by assumption) Z3 (by assumption) Z9 (by rw [<-Zf,Xm om];rfl))))))
  refine Z0 1 (ib (b:=((!WM ds)||(decide ((fs.length:Int)<1)))) 17 (fun V9=>?_) (fun V9=>?_))
  ·have Ak:(¬(WM ds=true))∨((fs.length:Int)<1):=((ZO (Yh Iff.rfl) dq)).1 V9
   exact Z0 4 (Y5 (wk [] (Zl true V9 fl)) hj2)
  have B6:¬((¬(WM ds=true))∨((fs.length:Int)<1)):=Y7 (ZO (Yh Iff.rfl) dq) V9
  exact Z0 1 (iw (EC fs) (Z0 2 (Y5 (wk [] (Zl (decide ((fs.length:Int)>4)) V9 fl)) hj2)))
 refine Z0 2 (ib (b:=(!WM ds)) 12 (fun UE=>?_) (fun UE=>?_))
 ·have LD:¬(WM ds=true):=((Yh Iff.rfl)).1 UE
  exact Z0 4 (Y5 (wk [] (Zl true UE fl)) hj1)
 have LE:¬(¬(WM ds=true)):=Y7 (Yh Iff.rfl) UE
 exact Z0 1 (iw (EC fs) (Z0 2 (Y5 (wk [] (Zl (decide ((fs.length:Int)<1)) UE fl)) hj1)))
theorem Zad (im:YA) (lz:Nat) (hz:IZ im lz:=by exact ob) (hlz:lz<=100:=by exact ob):Zo 43 [V7 im] [] (fun r h=>(r=.tup [.agg [Ye im.decls,KF (im.procs.map W7)],.b (Q7 im.decls (im.procs.map W7))]/\h=[]/\im.procs.length<=4)∨(r=.tup [.agg [Ye [],KF []],.b false]/\h=[]/\¬im.procs.length<=4)):=by
 have hzl:=hz.len
 have hds:=hz.decls.sz
 refine ZE 41 Tryz.func43 (ar (iA (Vd im) fun b1=>iA [nl,nl] fun b2=>Z1 (Ys 2 [1] (iw (Qb im.procs) (Y2 ((im.procs.length:Int)>4) (fun Z9=>?_) (fun Z9=>?_))))))
 ·exact Yf 1 (Zy 0 b2 [nl,nl] (Zm (r3 [] [.agg [nl,nl],.b false] [0] [(b2,b2)] (.inr ⟨rfl,rfl,ob⟩) (Zd.tup (.cons (Zd.agg (.cons (Zd.sl _ rfl) (.cons (Zd.sl _ rfl) .nil))) (.cons (lr _) .nil))))))
 refine ak (Zq 3 [1] (iA [nl,nl] fun b3=>?_))
 refine Zy 0 b3 [Ye im.decls,nl] (ie (Ys 2 [2] (iw (Qb im.procs) (Z1 (ab 0 (Dc 3 (Y0 (fun fz gz m F h=>∃(k:Nat) (v:Value),(k<=im.procs.length)/\F=sF [1,2,4,16,17] fz [(18,.i k)]/\h=[.obj b3 [Ye im.decls,Hh ((im.procs.take k).map W7) v],Zi gz 2,Zi gz 3,.tail v 3]/\m=im.procs.length-k) _ _ _ ⟨0,(.slice none 0 0),ob,rfl,rfl,rfl⟩ (wk [1,1,1,0] (Ya fl)) ?_)))))))
 rintro m F h ⟨k,v,Yj,rfl,rfl,rfl⟩
 refine Y1 (aq (WA ((k:Int)<(im.procs.length:Int)) (fun Zj=>?_) (fun Zj=>?_)))
 ·refine ak (aq (ab 1 (ar ?_)))
  obtain ⟨x1,Z3⟩:=Zt im.procs k om
  exact Zs (Zh none (k:Int) 5 (Ku Z3)) (Z0 1 (iA [nl,nl,.i 0,.i 0,nl] fun b4=>Zy 0 b4 (Ul x1) (ie (az (Zz 9 [1,0,0,0] (iL (Ta [Vz.mk x1.params x1.lent x1.result]) 1 3 fun v1=>ZQ 0 [(31,KF [Vz.mk x1.params x1.lent x1.result])] (ip 5 (Ta ((im.procs.take (k+1)).map W7)) (Ta ((im.procs.take k).map W7)) (Ta [Vz.mk x1.params x1.lent x1.result]) v none 3 (NZ _) (NZ _) (Z5h _) (by simp<;>omega) (by rw [V5 Z3];simp [Ta,W7]) fun v2=>Z0 1 (Zy 3 b3 [Ye im.decls,Hh ((im.procs.take (k+1)).map W7) v2] (ie (az (ZD k (Z1 (ZF ⟨k+1,v2,ob,rfl,rfl,rfl⟩ (wk [0,3,3,0] (ZI k fl)))))))))))))))
 refine ax 0 (aD 8 (Dm 3 8 [0,1,2,3,4] [(39,KF ((im.procs.take k).map W7))] [0,2,0] (Z7 5 (YH 5 [] [0] [b3] (Zaj im.decls ((im.procs.take k).map W7) (hz:=hds) (hf:=(by intro f hf;obtain ⟨r,h1,rfl⟩:=XH.1 hf;have q:=hz.procs r (QP h1);have:=q.params;have:=q.lent;exact ⟨by show r.params.length<=_;omega,by show r.lent.length<=_;omega⟩)) (hfl:=(by rw [Km,Wi];omega))) (Z7 6 (X3 6 1 [] [] b2 [Ye im.decls,Hh ((im.procs.take k).map W7) v] (Zp 0 1 [7] (de ?_))))))))
 have htk:im.procs.take k=im.procs:=WI om
 exact ZY (r3 [] [.agg [Ye im.decls,Hh ((im.procs.take k).map W7) v],.b (Q7 im.decls ((im.procs.take k).map W7))] [0] [(b2,b2)] (.inl ⟨rfl,rfl,ob⟩) (Zd.tup (.cons (Zd.agg (.cons (lr _) (.cons (Zd.sl _ (Yl Ta (by rw [htk]))) .nil))) (.cons (lb (by rw [htk])) .nil))))
theorem Zai (op:Int) :Zo 77 [.i op] [] (fun r h=>r=.b (decide (((0<=op/\op<=11)∨op=18)∨op=19))/\h=[]):=by
 refine ZE 17 Tryz.func77 (Y1 (ar (X6 6 [0] [(8,.b ((decide (op>=0))&&(decide (op<=11))))] (fun gz=>gz) ?_ (fun hj1=>?_))))
 ·refine X6 10 [0] [(12,.b (((decide (op>=0))&&(decide (op<=11)))||(op==18)))] (fun gz=>gz) ?_ (fun hj2=>?_)
  ·refine X6 14 [] [(16,.b ((((decide (op>=0))&&(decide (op<=11)))||(op==18))||(op==19)))] (fun gz=>gz) ?_ (fun hj3=>?_)
   ·exact Zm (ZM (.b ((((decide (op>=0))&&(decide (op<=11)))||(op==18))||(op==19))) (lb (by rw [Yg];simp)))
   refine Z0 1 (ib (b:=(((decide (op>=0))&&(decide (op<=11)))||(op==18))) 13 (fun Zc=>?_) (fun Zc=>?_))
   ·have Y4:((op>=0)/\(op<=11))∨(op=18):=((ZO (Yu dq dq) Ze)).1 Zc
    exact Z0 3 (Y5 (wk [] (Zl true Zc fl)) hj3)
   have Yr:¬(((op>=0)/\(op<=11))∨(op=18)):=Y7 (ZO (Yu dq dq) Ze) Zc
   exact Z0 3 (Y5 (wk [] (Zl (op==19) Zc fl)) hj3)
  refine Z0 1 (ib (b:=((decide (op>=0))&&(decide (op<=11)))) 9 (fun ZC=>?_) (fun ZC=>?_))
  ·have YR:(op>=0)/\(op<=11):=((Yu dq dq)).1 ZC
   exact Z0 3 (Y5 (wk [] (Zl true ZC fl)) hj2)
  have YV:¬((op>=0)/\(op<=11)):=Y7 (Yu dq dq) ZC
  exact Z0 3 (Y5 (wk [] (Zl (op==18) ZC fl)) hj2)
 refine Z0 3 (ib (b:=(decide (op>=0))) 5 (fun Yn=>?_) (fun Yn=>?_))
 ·have Xc:op>=0:=(dq).1 Yn
  exact Z0 3 (Y5 (wk [] (Zl (decide (op<=11)) Yn fl)) hj1)
 have XK:¬(op>=0):=Y7 dq Yn
 exact Z0 3 (Y5 (wk [] (Zl false Yn fl)) hj1)
theorem PH (p:ZT) (k:Nat) (a:Int) (kb:Nat) (pb:Nat) (hcl:p.code.length<=200000000:=by exact ob):Zo 78 [.i a,.p kb 0,.p pb 0] [.obj kb [.i k],.obj pb (Ul p)] (fun r h=>r=.b (decide ((k:Int)<a/\a<p.code.length))/\h=[.obj kb [.i k],.obj pb (Ul p)]):=by
 refine ZE 15 Tryz.func78 (Y1 (ar (X6 10 [] [(14,.b ((decide (a>(k:Int)))&&(decide (a<(p.code.length:Int)))))] (fun gz=>gz) ?_ (fun hj1=>?_))))
 ·exact Zm (r2 [0,0] [.b ((decide (a>(k:Int)))&&(decide (a<(p.code.length:Int))))] ⟨rfl,rfl⟩ (lb (by rw [Yg];simp)))
 refine Zz 4 [0] (ib (b:=(decide (a>(k:Int)))) 8 (fun Zc=>?_) (fun Zc=>?_))
 ·have Y4:a>(k:Int):=(dq).1 Zc
  exact Zz 3 [1] (iw (T8 p.code) (Z0 2 (Y5 (wk [0,0] (Zl (decide (a<(p.code.length:Int))) Zc fl)) hj1)))
 have Yr:¬(a>(k:Int)):=Y7 dq Zc
 exact Z0 6 (Y5 (wk [0,0] (Zl false Zc fl)) hj1)
theorem Zag (p:ZT) (k:Nat) (a:Int) (kb:Nat) (pb:Nat) (fb:Nat) (hcl:p.code.length<=200000000:=by exact ob):Zo 80 [.i a,.p fb 0] [.obj fb [.val (.func (.func 78) #[] #[.pointer (some ⟨kb,0,none⟩),.pointer (some ⟨pb,0,none⟩)])],.obj kb [.i k],.obj pb (Ul p)] (fun r h=>r=.b (decide (¬((k:Int)<a/\a<p.code.length)))/\h=[.obj fb [.val (.func (.func 78) #[] #[.pointer (some ⟨kb,0,none⟩),.pointer (some ⟨pb,0,none⟩)])],.obj kb [.i k],.obj pb (Ul p)]):=by
 exact ZE 8 Tryz.func80 (Y1 (Zq 2 [0] (Zw [1,1] (PH _ k a kb pb) (Zm (r2 [2,0,0] [.b (!(decide ((k:Int)<a/\a<p.code.length)))] ⟨rfl,rfl⟩ (lb (by rw [Yg];simp)))))))
theorem Zae (p:ZT) (k:Nat) (xs:LI) (kb:Nat) (pb:Nat) (fb:Nat) (hcl:p.code.length<=200000000:=by exact ob) (hl:xs.length<=1000000:=by exact ob):Zo 125 [Z4 xs,.val (.func (.func 80) #[] #[.pointer (some ⟨fb,0,none⟩)])] [.obj fb [.val (.func (.func 78) #[] #[.pointer (some ⟨kb,0,none⟩),.pointer (some ⟨pb,0,none⟩)])],.obj kb [.i k],.obj pb (Ul p)] (fun r h=>∃(z:Int),r=.i z/\h=[.obj fb [.val (.func (.func 78) #[] #[.pointer (some ⟨kb,0,none⟩),.pointer (some ⟨pb,0,none⟩)])],.obj kb [.i k],.obj pb (Ul p)]/\(decide (z>=0)=!Wf k p.code.length xs)):=by
 refine ZE 19 Tryz.func125 (Y1 (YM 1 (iw (Yc xs) (Z1 (ab 0 (Y0 (fun fz gz m F h=>∃(j:Nat),(j<=xs.length)/\(Wf k p.code.length (xs.drop j)=Wf k p.code.length xs)/\F=sF [0,1,7] fz [(8,.i j)]/\h=gz/\m=xs.length-j) _ _ _ ⟨0,ob,rfl,rfl,rfl,rfl⟩ (Zv 3 (Ya fl)) ?_))))))
 rintro m F h ⟨j,Yj,Zf,rfl,rfl,rfl⟩
 refine Y1 (aq (WA ((j:Int)<(xs.length:Int)) (fun Z9=>?_) (fun Z9=>?_)))
 ·refine ak (aq (ab 1 (Y1 (Yf 3 ?_))))
  obtain ⟨x1,Z3⟩:=Zt xs j om
  refine Zs (Zh none (j:Int) 1 (Y8 Z3)) (Z0 1 (Zw [0,0,0] (Zag _ k x1 kb pb fb) (ie (WA (¬((k:Int)<x1/\x1<p.code.length)) (fun Zj=>?_) (fun Zj=>?_)))))
  ·exact ar (Zm (r1 [0,0,0] ⟨(j:Int),rfl,rfl,(by first|(rw [<-LX Z3 om Zf,decide_eq_true om];rfl)|(rw [<-LY om Zf];rfl))⟩))
  exact ak (az (ZD j (Z1 (ZF ⟨j+1,ob,(R0 Z3 om Zf),rfl,rfl,rfl⟩ (Zv 3 (ZI j fl))))))
 exact ax 0 (ar (Zm (r1 [0,0,0] ⟨(-1),rfl,rfl,(by first|(rw [<-LX Z3 om Zf,decide_eq_true om];rfl)|(rw [<-LY om Zf];rfl))⟩)))
theorem Zaa (p:ZT) (k:Nat) (xs:LI) (kb:Nat) (pb:Nat) (fb:Nat) (hcl:p.code.length<=200000000:=by exact ob) (hl:xs.length<=1000000:=by exact ob):Zo 79 [Z4 xs,.val (.func (.func 80) #[] #[.pointer (some ⟨fb,0,none⟩)])] [.obj fb [.val (.func (.func 78) #[] #[.pointer (some ⟨kb,0,none⟩),.pointer (some ⟨pb,0,none⟩)])],.obj kb [.i k],.obj pb (Ul p)] (fun r h=>r=.b (!Wf k p.code.length xs)/\h=[.obj fb [.val (.func (.func 78) #[] #[.pointer (some ⟨kb,0,none⟩),.pointer (some ⟨pb,0,none⟩)])],.obj kb [.i k],.obj pb (Ul p)]):=by
 refine ZE 9 Tryz.func79 (Y1 (Yf 2 (ic [0,0,0] (Zae _ k xs kb pb fb) ?_)))
 rintro _ _ ⟨z1,rfl,rfl,Y4⟩
 have hix:=Y4
 exact Zm (r2 [0,0,0] [.b (decide (z1>=0))] ⟨rfl,rfl⟩ (lb hix))
theorem Zah (im:YA) (p:ZT) (k:Nat) (x:Instr) (kb:Nat) (pb:Nat) (hd:Xr im.decls:=by exact ob) (hpl:im.procs.length<=4:=by exact ob) (hps:∀p∈im.procs,p.params.length<=3) (hcl:p.code.length<=200000000:=by exact ob) (hxl:x.jumps.length<=1000:=by exact ob):Zo 81 [.agg [Ye im.decls,KF (im.procs.map W7)],T2 x,.val (.func (.func 78) #[] #[.pointer (some ⟨kb,0,none⟩),.pointer (some ⟨pb,0,none⟩)])] [.obj kb [.i k],.obj pb (Ul p)] (fun r h=>r=.b (Wt im k p.code.length x)/\h=[.obj kb [.i k],.obj pb (Ul p)]):=by
 have hk3:=DN hd x.num
 have hsl:=Z08 im
 have hss:=hd.sum
 refine ZE 109 Tryz.func81 (ar (iA [Ye im.decls,KF (im.procs.map W7)] fun b1=>iA (Ve x) fun b2=>Z1 (Xd (V4 [0] (ab 0 (ar (YB (x.op==0) Ze (fun Z9=>?_) (fun Z9=>?_))))))))
 ·refine ar (X6 8 [] [(19,.b ((decide (x.num>=(-999)))&&(decide (x.num<=999))))] (fun gz=>gz) ?_ (fun hj1=>?_))
  ·exact Zm (r2 [2,2] [.b ((decide (x.num>=(-999)))&&(decide (x.num<=999)))] ⟨rfl,rfl⟩ (lb (by unfold Wt;(repeat (first|rw [Zk om]|rw [Za om]));all_goals (first|rfl|(rw [Yg];simp;done)|(rw [Yg];simp;omega)))))
  refine Zz 4 [0] (ib (b:=(decide (x.num>=(-999)))) 15 (fun Zc=>?_) (fun Zc=>?_))
  ·have Y4:x.num>=(-999):=(dq).1 Zc
   exact Zz 4 [0] (Y5 (Zv 4 (Zl (decide (x.num<=999)) Zc fl)) hj1)
  have Yr:¬(x.num>=(-999)):=Y7 dq Zc
  exact Z0 4 (Y5 (Zv 4 (Zl false Zc fl)) hj1)
 refine ar (YB (x.op==6) Ze (fun Zj=>?_) (fun Zj=>?_))
 ·refine aD 12 (Bv [] [(6,.b ((decide (x.num>=0))&&(decide (x.num<((YJ im.decls:Nat):Int)))))] (fun gz=>gz) ?_ ?_)
  ·refine ZW 8 12 [0,1,2,3] [0] (db (b:=(decide (x.num>=0))) 25 (fun ZC=>?_) (fun ZC=>?_))
   ·have YR:x.num>=0:=(dq).1 ZC
    exact ZW 4 8 [4,5,6,7] [0,1] (Z7 8 (YH 8 [] [0] [b2] (PF im.decls) (Zp 0 3 [9,10,11] (de (Zv 4 (Zl (decide (x.num<((YJ im.decls:Nat):Int))) ZC fl))))))
   have YV:¬(x.num>=0):=Y7 dq ZC
   exact Zp 0 8 [4,5,6,7,8,9,10,11] (de (Zv 4 (Zl false ZC fl)))
  exact ZY (r2 [2,2] [.b ((decide (x.num>=0))&&(decide (x.num<((YJ im.decls:Nat):Int))))] ⟨rfl,rfl⟩ (lb (by unfold Wt;(repeat (first|rw [Zk om]|rw [Za om]));all_goals (first|rfl|(rw [Yg];simp;done)|(rw [Yg];simp;omega)))))
 refine Y6 (Xv (fun fz gz F h=>F=sF [2,3,4,9] fz [(33,.b ((x.op==9)||(x.op==24)))]/\h=gz) ?_ ?_)
 ·refine ac (x.op==9) Ze (fun ZA=>?_) (fun ZA=>?_)
  ·exact ak (ZJ ⟨rfl,rfl⟩ (Zv 4 (fc (x:=.b (x.op==9)) (lb (by first|rfl|(rw [Zk ZA])|(rw [Za ZA])|(simp [ZA];done)|(rw [Yg];simp [ZA];done)|omega)) fl)))
  exact Vv (ZJ ⟨rfl,rfl⟩ (Zv 4 (fc (x:=.b (x.op==24)) (lb (by first|rfl|(rw [Zk ZA])|(rw [Za ZA])|(simp [ZA];done)|(rw [Yg];simp [ZA];done)|omega)) fl)))
 rintro F h ⟨rfl,rfl⟩
 refine ac ((x.op==9)||(x.op==24)) (p:=(x.op=9)∨(x.op=24)) (ZO Ze Ze) (fun Yi=>?_) (fun Yi=>?_)
 ·refine ar (X6 11 [] [(46,.b ((decide (x.num>=0))&&(decide (x.num<(((im.procs.map W7).length:Nat):Int)))))] (fun gz=>gz) ?_ (fun hj2=>?_))
  ·exact Zm (r2 [2,2] [.b ((decide (x.num>=0))&&(decide (x.num<(((im.procs.map W7).length:Nat):Int))))] ⟨rfl,rfl⟩ (lb (by unfold Wt;(repeat (first|rw [Zk om]|rw [Za om]));all_goals (first|rfl|(rw [Yg];simp;done)|(rw [Yg];simp;omega)))))
  refine Zz 4 [0] (ib (b:=(decide (x.num>=0))) 39 (fun Yn=>?_) (fun Yn=>?_))
  ·have Xc:x.num>=0:=(dq).1 Yn
   exact Zz 4 [0,1] (io (.i (((im.procs.map W7).length:Nat):Int)) (.i (((Ta (im.procs.map W7)).length:Nat):Int)) (li (by rw [EC])) (Z0 2 (Y5 (Zv 4 (Zl (decide (x.num<(((im.procs.map W7).length:Nat):Int))) Yn fl)) hj2)))
  have XK:¬(x.num>=0):=Y7 dq Yn
  exact Z0 7 (Y5 (Zv 4 (Zl false Yn fl)) hj2)
 refine ar (YB (x.op==10) Ze (fun YG=>?_) (fun YG=>?_))
 ·refine ar (X6 11 [3,4] [(59,.b ((decide (x.num>=0))&&(decide (x.num<(((im.procs.map W7).length:Nat):Int)))))] (fun gz=>gz) ?_ (fun hj3=>?_))
  ·refine Z0 1 (ib (b:=((decide (x.num>=0))&&(decide (x.num<(((im.procs.map W7).length:Nat):Int))))) 60 (fun X1=>?_) (fun X1=>?_))
   ·have Wc:(x.num>=0)/\(x.num<(((im.procs.map W7).length:Nat):Int)):=((Yu dq dq)).1 X1
    refine Zz 4 [1,0] ?_
    obtain ⟨x1,Z3⟩:=Zt (im.procs.map W7) x.num.toNat om
    have hsg:=Mx Z3 om
    exact Zs (Zh none x.num 3 (Du Z3)) (Z0 2 (iw (Yc x1.lnt) (Zm (r2 [2,2] [.b ((x1.lnt.length:Int)==0)] ⟨rfl,rfl⟩ (lb (by unfold Wt;(repeat (first|rw [Zk om]|rw [Za om]));rw [hsg.2,decide_eq_true (p:=0<=x.num/\x.num<im.procs.length) om,Yg];simp))))))
   have WF:¬((x.num>=0)/\(x.num<(((im.procs.map W7).length:Nat):Int))):=Y7 (Yu dq dq) X1
   exact Zm (r2 [2,2] [.b false] ⟨rfl,rfl⟩ (lb (by unfold Wt;(repeat (first|rw [Zk om]|rw [Za om]));rw [decide_eq_false (p:=0<=x.num/\x.num<im.procs.length) om];rfl)))
  refine Zz 4 [0] (ib (b:=(decide (x.num>=0))) 52 (fun XF=>?_) (fun XF=>?_))
  ·have V1:x.num>=0:=(dq).1 XF
   exact Zz 4 [0,1] (io (.i (((im.procs.map W7).length:Nat):Int)) (.i (((Ta (im.procs.map W7)).length:Nat):Int)) (li (by rw [EC])) (Z0 2 (Y5 (Zv 4 (Zl (decide (x.num<(((im.procs.map W7).length:Nat):Int))) XF fl)) hj3)))
  have Ue:¬(x.num>=0):=Y7 dq XF
  exact Z0 7 (Y5 (Zv 4 (Zl false XF fl)) hj3)
 refine ar (YB (x.op==19) Ze (fun X2=>?_) (fun X2=>?_))
 ·refine ar (X6 8 [] [(80,.b ((decide (x.num>=0))&&(decide (x.num<3))))] (fun gz=>gz) ?_ (fun hj4=>?_))
  ·exact Zm (r2 [2,2] [.b ((decide (x.num>=0))&&(decide (x.num<3)))] ⟨rfl,rfl⟩ (lb (by unfold Wt;(repeat (first|rw [Zk om]|rw [Za om]));all_goals (first|rfl|(rw [Yg];simp;done)|(rw [Yg];simp;omega)))))
  refine Zz 4 [0] (ib (b:=(decide (x.num>=0))) 76 (fun Ws=>?_) (fun Ws=>?_))
  ·have UG:x.num>=0:=(dq).1 Ws
   exact Zz 4 [0] (Y5 (Zv 4 (Zl (decide (x.num<3)) Ws fl)) hj4)
  have Ut:¬(x.num>=0):=Y7 dq Ws
  exact Z0 4 (Y5 (Zv 4 (Zl false Ws fl)) hj4)
 refine Y6 (Xv (fun fz gz F h=>F=sF [2,3,4,9] fz [(81,.b ((x.op==20)||(x.op==22)))]/\h=gz) ?_ ?_)
 ·refine ac (x.op==20) Ze (fun Wz=>?_) (fun Wz=>?_)
  ·exact ak (ZJ ⟨rfl,rfl⟩ (Zv 4 (fc (x:=.b (x.op==20)) (lb (by first|rfl|(rw [Zk Wz])|(rw [Za Wz])|(simp [Wz];done)|(rw [Yg];simp [Wz];done)|omega)) fl)))
  exact Vv (ZJ ⟨rfl,rfl⟩ (Zv 4 (fc (x:=.b (x.op==22)) (lb (by first|rfl|(rw [Zk Wz])|(rw [Za Wz])|(simp [Wz];done)|(rw [Yg];simp [Wz];done)|omega)) fl)))
 rintro F h ⟨rfl,rfl⟩
 refine ac ((x.op==20)||(x.op==22)) (p:=(x.op=20)∨(x.op=22)) (ZO Ze Ze) (fun VC=>?_) (fun VC=>?_)
 ·exact Zq 3 [0] (Zw [2,2] (PH _ k x.num kb pb) (Zm (r2 [0,0] [.b (decide ((k:Int)<x.num/\x.num<p.code.length))] ⟨rfl,rfl⟩ (lb (by unfold Wt;(repeat (first|rw [Zk om]|rw [Za om]));all_goals (first|rfl|(rw [Yg];simp;done)|(rw [Yg];simp;omega)))))))
 refine ar (YB (x.op==21) Ze (fun Va=>?_) (fun Va=>?_))
 ·refine Zq 4 [1,0] (Zw [] (Za9 im.decls x.num) (Z1 (Yf 1 (io (.i (((ZZ im.decls x.num).length:Nat):Int)) (.i (((Z6 (ZZ im.decls x.num)).length:Nat):Int)) (li (by rw [Yc])) (X6 11 [] [(105,.b ((decide ((((ZZ im.decls x.num).length:Nat):Int)>0))&&((x.jumps.length:Int)==(((ZZ im.decls x.num).length:Nat):Int))))] (fun gz=>gz) ?_ (fun hj5=>?_))))))
  ·exact Zm (r2 [2,2] [.b ((decide ((((ZZ im.decls x.num).length:Nat):Int)>0))&&((x.jumps.length:Int)==(((ZZ im.decls x.num).length:Nat):Int)))] ⟨rfl,rfl⟩ (lb (by unfold Wt;(repeat (first|rw [Zk om]|rw [Za om]));all_goals (first|rfl|(rw [Yg];simp;done)|(rw [Yg];simp;omega)))))
  refine Z0 2 (ib (b:=(decide ((((ZZ im.decls x.num).length:Nat):Int)>0))) 98 (fun WK=>?_) (fun WK=>?_))
  ·have TW:(((ZZ im.decls x.num).length:Nat):Int)>0:=(dq).1 WK
   exact Zz 2 [0] (iw (Yc x.jumps) (Z0 1 (io (.i (((ZZ im.decls x.num).length:Nat):Int)) (.i (((Z6 (ZZ im.decls x.num)).length:Nat):Int)) (li (by rw [Yc])) (Z0 2 (Y5 (Zv 4 (Zl ((x.jumps.length:Int)==(((ZZ im.decls x.num).length:Nat):Int)) WK fl)) hj5)))))
  have Tq:¬((((ZZ im.decls x.num).length:Nat):Int)>0):=Y7 dq WK
  exact Z0 7 (Y5 (Zv 4 (Zl false WK fl)) hj5)
 exact ak (Qz [0] (ZY (r2 [2,2] [.b (x.num==0)] ⟨rfl,rfl⟩ (lb (by unfold Wt;(repeat (first|rw [Zk om]|rw [Za om]));all_goals (first|rfl|(rw [Yg];simp;done)|(rw [Yg];simp;omega)))))))
theorem Za7 (im:YA) (k:Int) (len:Int) (x:Instr) (hd:Xr im.decls:=by exact ob) (hpl:im.procs.length<=4:=by exact ob) (hps:∀p∈im.procs,p.params.length<=3) (hnv:Wt im k len x=true:=by exact ob):Zo 82 [.agg [Ye im.decls,KF (im.procs.map W7)],T2 x] [] (Yx (.tup [.i (WQ im x),.i (Vc im x)])):=by
 have hsl:=Z08 im
 have hcf:=Vj hd x.num
 have hnn:=Zcb hnv
 have hn6:x.op=6->0<=x.num/\x.num<YJ im.decls:=fun z=>by unfold Wt at hnv;rw [Za om,Zk z] at hnv;exact of_decide_eq_true hnv
 refine ZE 53 Tryz.func82 (ar (iA [Ye im.decls,KF (im.procs.map W7)] fun b1=>iA (Ve x) fun b2=>?_))
 refine Z1 (Y1 (Xd (V4 [0] (ab 0 (Y6 (Xv (fun fz gz F h=>F=sF [2,3,6,8] fz [(9,.b ((x.op==0)||(x.op==22)))]/\h=gz) ?_ ?_))))))
 ·refine ac (x.op==0) Ze (fun Z9=>?_) (fun Z9=>?_)
  ·exact ak (ZJ ⟨rfl,rfl⟩ (wk [0,0] (fc (x:=.b (x.op==0)) (lb (by first|rfl|(rw [Zk Z9])|(rw [Za Z9])|(simp [Z9];done)|(rw [Yg];simp [Z9];done)|omega)) fl)))
  exact Vv (ZJ ⟨rfl,rfl⟩ (wk [0,0] (fc (x:=.b (x.op==22)) (lb (by first|rfl|(rw [Zk Z9])|(rw [Za Z9])|(simp [Z9];done)|(rw [Yg];simp [Z9];done)|omega)) fl)))
 rintro F h ⟨rfl,rfl⟩
 refine ac ((x.op==0)||(x.op==22)) (p:=(x.op=0)∨(x.op=22)) (ZO Ze Ze) (fun Zj=>?_) (fun Zj=>?_)
 ·exact Vv (ar (Zm (r2 [] [.i 0,.i 0] ⟨rfl,rfl⟩ (Zd.tup (.cons (li (by (try unfold WQ);(try unfold Vc);(try unfold WJ);(repeat (first|rw [Zk om]|rw [Za om]));all_goals (first|rfl|omega|rw [hsg.1]))) (.cons (li (by (try unfold WQ);(try unfold Vc);(try unfold WJ);(repeat (first|rw [Zk om]|rw [Za om]));all_goals (first|rfl|omega|rw [hsg.1]))) .nil))))))
 refine Y6 (Xv (fun fz gz F h=>F=sF [2,3,6,8] fz [(12,.b ((x.op==1)||((x.op==2)||((x.op==3)||((x.op==4)||(x.op==11))))))]/\h=gz) ?_ ?_)
 ·refine ac (x.op==1) Ze (fun ZA=>?_) (fun ZA=>?_)
  ·exact ak (ZJ ⟨rfl,rfl⟩ (wk [0,0] (fc (x:=.b (x.op==1)) (lb (by first|rfl|(rw [Zk ZA])|(rw [Za ZA])|(simp [ZA];done)|(rw [Yg];simp [ZA];done)|omega)) fl)))
  refine ar (YB (x.op==2) Ze (fun Yi=>?_) (fun Yi=>?_))
  ·exact ak (ZJ ⟨rfl,rfl⟩ (wk [0,0] (fc (x:=.b (x.op==2)) (lb (by first|rfl|(rw [Zk ZA])|(rw [Za ZA])|(simp [ZA,Yi];done)|(rw [Yg];simp [ZA,Yi];done)|omega)) fl)))
  refine ar (YB (x.op==3) Ze (fun YG=>?_) (fun YG=>?_))
  ·exact ak (ZJ ⟨rfl,rfl⟩ (wk [0,0] (fc (x:=.b (x.op==3)) (lb (by first|rfl|(rw [Zk ZA])|(rw [Za ZA])|(simp [ZA,Yi,YG];done)|(rw [Yg];simp [ZA,Yi,YG];done)|omega)) fl)))
  refine ar (YB (x.op==4) Ze (fun X2=>?_) (fun X2=>?_))
  ·exact ak (ZJ ⟨rfl,rfl⟩ (wk [0,0] (fc (x:=.b (x.op==4)) (lb (by first|rfl|(rw [Zk ZA])|(rw [Za ZA])|(simp [ZA,Yi,YG,X2];done)|(rw [Yg];simp [ZA,Yi,YG,X2];done)|omega)) fl)))
  exact Vv (ZJ ⟨rfl,rfl⟩ (wk [0,0] (fc (x:=.b (x.op==11)) (lb (by first|rfl|(rw [Zk ZA])|(rw [Za ZA])|(simp [ZA,Yi,YG,X2];done)|(rw [Yg];simp [ZA,Yi,YG,X2];done)|omega)) fl)))
 rintro F h ⟨rfl,rfl⟩
 refine ac ((x.op==1)||((x.op==2)||((x.op==3)||((x.op==4)||(x.op==11))))) (p:=(x.op=1)∨((x.op=2)∨((x.op=3)∨((x.op=4)∨(x.op=11))))) (ZO Ze (ZO Ze (ZO Ze (ZO Ze Ze)))) (fun Wz=>?_) (fun Wz=>?_)
 ·exact Vv (ar (Zm (r2 [] [.i 2,.i 2] ⟨rfl,rfl⟩ (Zd.tup (.cons (li (by (try unfold WQ);(try unfold Vc);(try unfold WJ);(repeat (first|rw [Zk om]|rw [Za om]));all_goals (first|rfl|omega|rw [hsg.1]))) (.cons (li (by (try unfold WQ);(try unfold Vc);(try unfold WJ);(repeat (first|rw [Zk om]|rw [Za om]));all_goals (first|rfl|omega|rw [hsg.1]))) .nil))))))
 refine ar (YB (x.op==6) Ze (fun VC=>?_) (fun VC=>?_))
 ·exact az (Zz 4 [1,0] (Zw [] (Zab im.decls x.num (hc:=(by have:=hn6 om;have:=hd.sum;omega))) (io (.i (((ZP im.decls x.num).length:Nat):Int)) (.i (((Z6 (ZP im.decls x.num)).length:Nat):Int)) (li (by rw [Yc])) (Z1 (ar (Zm (r2 [] [.i (((ZP im.decls x.num).length:Nat):Int),.i (((ZP im.decls x.num).length:Nat):Int)] ⟨rfl,rfl⟩ (Zd.tup (.cons (li (by (try unfold WQ);(try unfold Vc);(try unfold WJ);(repeat (first|rw [Zk om]|rw [Za om]));all_goals (first|rfl|omega|rw [hsg.1]))) (.cons (li (by (try unfold WQ);(try unfold Vc);(try unfold WJ);(repeat (first|rw [Zk om]|rw [Za om]));all_goals (first|rfl|omega|rw [hsg.1]))) .nil))))))))))
 refine Y6 (Xv (fun fz gz F h=>F=sF [2,3,6,8] fz [(26,.b ((x.op==9)||(x.op==24)))]/\h=gz) ?_ ?_)
 ·refine ac (x.op==9) Ze (fun Va=>?_) (fun Va=>?_)
  ·exact ak (ZJ ⟨rfl,rfl⟩ (wk [0,0] (fc (x:=.b (x.op==9)) (lb (by first|rfl|(rw [Zk Va])|(rw [Za Va])|(simp [Va];done)|(rw [Yg];simp [Va];done)|omega)) fl)))
  exact Vv (ZJ ⟨rfl,rfl⟩ (wk [0,0] (fc (x:=.b (x.op==24)) (lb (by first|rfl|(rw [Zk Va])|(rw [Za Va])|(simp [Va];done)|(rw [Yg];simp [Va];done)|omega)) fl)))
 rintro F h ⟨rfl,rfl⟩
 refine ac ((x.op==9)||(x.op==24)) (p:=(x.op=9)∨(x.op=24)) (ZO Ze Ze) (fun Vm=>?_) (fun Vm=>?_)
 ·refine az (Zz 4 [1,0] ?_)
  obtain ⟨x1,Z3⟩:=Zt (im.procs.map W7) x.num.toNat (by have:=hnn om;omega)
  have hsg:=Mx Z3 (by have:=hnn om;omega)
  have hpm:(x1).pms.length<=3:=by obtain ⟨q,hq,hq2⟩:=XH.1 (Y3 Z3);rw [<-hq2];exact hps q hq
  exact Zs (Ea (es:=Ta (im.procs.map W7)) (hv:=none) (j:=x.num) (sz:=3) (y:=G3 x1) kr (by have:=hnn om;omega) (Du Z3) rfl) (Z0 2 (iw (Yc x1.pms) (Z1 (ar (Zm (r2 [] [.i x1.pms.length,.i x1.pms.length] ⟨rfl,rfl⟩ (Zd.tup (.cons (li (by (try unfold WQ);(try unfold Vc);(try unfold WJ);(repeat (first|rw [Zk om]|rw [Za om]));all_goals (first|rfl|omega|rw [hsg.1]))) (.cons (li (by (try unfold WQ);(try unfold Vc);(try unfold WJ);(repeat (first|rw [Zk om]|rw [Za om]));all_goals (first|rfl|omega|rw [hsg.1]))) .nil)))))))))
 refine ar (YB (x.op==10) Ze (fun Tp=>?_) (fun Tp=>?_))
 ·refine az (Zz 4 [1,0] ?_)
  obtain ⟨x2,Zu⟩:=Zt (im.procs.map W7) x.num.toNat (by have:=hnn om;omega)
  have hsg:=Mx Zu (by have:=hnn om;omega)
  have hpm:(x2).pms.length<=3:=by obtain ⟨q,hq,hq2⟩:=XH.1 (Y3 Zu);rw [<-hq2];exact hps q hq
  exact Zs (Ea (es:=Ta (im.procs.map W7)) (hv:=none) (j:=x.num) (sz:=3) (y:=G3 x2) kr (by have:=hnn om;omega) (Du Zu) rfl) (Z0 2 (iw (Yc x2.pms) (ia (((x2.pms.length:Int)-1)) (((x2.pms.length:Int))-(1)) (Z1 (ar (Zm (r2 [] [.i ((x2.pms.length:Int)-1),.i ((x2.pms.length:Int)-1)] ⟨rfl,rfl⟩ (Zd.tup (.cons (li (by (try unfold WQ);(try unfold Vc);(try unfold WJ);(repeat (first|rw [Zk om]|rw [Za om]));all_goals (first|rfl|omega|rw [hsg.1]))) (.cons (li (by (try unfold WQ);(try unfold Vc);(try unfold WJ);(repeat (first|rw [Zk om]|rw [Za om]));all_goals (first|rfl|omega|rw [hsg.1]))) .nil))))))))))
 refine Y6 (Xv (fun fz gz F h=>F=sF [6] fz [(48,.b ((x.op==16)||(x.op==17)))]/\h=gz) ?_ ?_)
 ·refine ac (x.op==16) Ze (fun Vn=>?_) (fun Vn=>?_)
  ·exact ak (ZJ ⟨rfl,rfl⟩ (wk [0,0] (fc (x:=.b (x.op==16)) (lb (by first|rfl|(rw [Zk Vn])|(rw [Za Vn])|(simp [Vn];done)|(rw [Yg];simp [Vn];done)|omega)) fl)))
  exact Vv (ZJ ⟨rfl,rfl⟩ (wk [0,0] (fc (x:=.b (x.op==17)) (lb (by first|rfl|(rw [Zk Vn])|(rw [Za Vn])|(simp [Vn];done)|(rw [Yg];simp [Vn];done)|omega)) fl)))
 rintro F h ⟨rfl,rfl⟩
 refine ac ((x.op==16)||(x.op==17)) (p:=(x.op=16)∨(x.op=17)) (ZO Ze Ze) (fun TV=>?_) (fun TV=>?_)
 ·exact ar (Zm (r2 [] [.i 1,.i 4] ⟨rfl,rfl⟩ (Zd.tup (.cons (li (by (try unfold WQ);(try unfold Vc);(try unfold WJ);(repeat (first|rw [Zk om]|rw [Za om]));all_goals (first|rfl|omega|rw [hsg.1]))) (.cons (li (by (try unfold WQ);(try unfold Vc);(try unfold WJ);(repeat (first|rw [Zk om]|rw [Za om]));all_goals (first|rfl|omega|rw [hsg.1]))) .nil)))))
 exact ak (ar (Zm (r2 [] [.i 1,.i 1] ⟨rfl,rfl⟩ (Zd.tup (.cons (li (by (try unfold WQ);(try unfold Vc);(try unfold WJ);(repeat (first|rw [Zk om]|rw [Za om]));all_goals (first|rfl|omega|rw [hsg.1]))) (.cons (li (by (try unfold WQ);(try unfold Vc);(try unfold WJ);(repeat (first|rw [Zk om]|rw [Za om]));all_goals (first|rfl|omega|rw [hsg.1]))) .nil))))))
theorem Zaf (im:YA) (p:ZT) (k:Nat) (x:Instr) (hd:Xr im.decls:=by exact ob) (hpl:im.procs.length<=4:=by exact ob) (hps:∀p∈im.procs,p.params.length<=3) (hcl:p.code.length<=200000000:=by exact ob) (hxl:x.args.length<=1000/\x.jumps.length<=1000:=by exact ob) (hkl:k<p.code.length:=by exact ob):Zo 44 [.agg [Ye im.decls,KF (im.procs.map W7)],Cg p,.i k,T2 x] [] (Yx (.b (Ug im p k x))):=by
 refine ZE 140 Tryz.func44 (ar (iA [Ye im.decls,KF (im.procs.map W7)] fun b1=>iA (Ul p) fun b2=>iA [.i k] fun b3=>iA (Ve x) fun b4=>Z1 (Xd (X6 8 [4,5,6,7] [(21,.b ((decide (x.op<0))||(decide (x.op>24))))] (fun gz=>gz) ?_ (fun hj1=>?_)))))
 ·refine X6 13 [4,5,6,7] [(26,.b (((decide (x.op<0))||(decide (x.op>24)))||(x.op==7)))] (fun gz=>gz) ?_ (fun hj2=>?_)
  ·refine X6 18 [4,5,6,7] [(31,.b ((((decide (x.op<0))||(decide (x.op>24)))||(x.op==7))||(x.op==8)))] (fun gz=>gz) ?_ (fun hj3=>?_)
   ·refine X6 23 [4,5,6,7] [(36,.b (((((decide (x.op<0))||(decide (x.op>24)))||(x.op==7))||(x.op==8))||(x.op==12)))] (fun gz=>gz) ?_ (fun hj4=>?_)
    ·refine Xp [4,5,6,7] [(41,.b ((((((decide (x.op<0))||(decide (x.op>24)))||(x.op==7))||(x.op==8))||(x.op==12))||(x.op==13)))] (fun gz=>gz) ?_ ?_
     ·refine Z0 1 (ib (b:=(((((decide (x.op<0))||(decide (x.op>24)))||(x.op==7))||(x.op==8))||(x.op==12))) 37 (fun Zc=>?_) (fun Zc=>?_))
      ·have Y4:((((x.op<0)∨(x.op>24))∨(x.op=7))∨(x.op=8))∨(x.op=12):=((ZO (ZO (ZO (ZO dq dq) Ze) Ze) Ze)).1 Zc
       exact Z1 (Zv 4 (Zl true Zc fl))
      have Yr:¬(((((x.op<0)∨(x.op>24))∨(x.op=7))∨(x.op=8))∨(x.op=12)):=Y7 (ZO (ZO (ZO (ZO dq dq) Ze) Ze) Ze) Zc
      exact V4 [0] (Zv 4 (Zl (x.op==13) Zc fl))
     refine ac ((((((decide (x.op<0))||(decide (x.op>24)))||(x.op==7))||(x.op==8))||(x.op==12))||(x.op==13)) (p:=(((((x.op<0)∨(x.op>24))∨(x.op=7))∨(x.op=8))∨(x.op=12))∨(x.op=13)) (ZO (ZO (ZO (ZO (ZO dq dq) Ze) Ze) Ze) Ze) (fun Z9=>?_) (fun Z9=>?_)
     ·exact ar (Zm (ZM (.b false) (lb (EX (fun z=>z.1 (by unfold Kq;omega))).symm)))
     have hb:¬Kq x:=fun z=>Z9 (by unfold Kq at z;omega)
     refine ak (Xd (X6 10 [4,5,6,7] [(51,.b ((decide (x.dst<0))||(decide (x.dst>=p.regs))))] (fun gz=>gz) ?_ (fun hj5=>?_)))
     ·refine X6 21 [4,5,6,7] [(62,.b (((decide (x.dst<0))||(decide (x.dst>=p.regs)))||((x.dst != 0)&&(!(decide (((0<=x.op/\x.op<=11)∨x.op=18)∨x.op=19))))))] (fun gz=>gz) ?_ (fun hj6=>?_)
      ·refine X6 26 [4,5,6,7] [(67,.b ((((decide (x.dst<0))||(decide (x.dst>=p.regs)))||((x.dst != 0)&&(!(decide (((0<=x.op/\x.op<=11)∨x.op=18)∨x.op=19)))))||(decide (x.into<0))))] (fun gz=>gz) ?_ (fun hj7=>?_)
       ·refine X6 33 [4,5,6,7] [(74,.b (((((decide (x.dst<0))||(decide (x.dst>=p.regs)))||((x.dst != 0)&&(!(decide (((0<=x.op/\x.op<=11)∨x.op=18)∨x.op=19)))))||(decide (x.into<0)))||(decide (x.into>p.regs))))] (fun gz=>gz) ?_ (fun hj8=>?_)
        ·refine Xp [4,5,6,7] [(84,.b ((((((decide (x.dst<0))||(decide (x.dst>=p.regs)))||((x.dst != 0)&&(!(decide (((0<=x.op/\x.op<=11)∨x.op=18)∨x.op=19)))))||(decide (x.into<0)))||(decide (x.into>p.regs)))||((x.into != 0)&&(x.op != 6))))] (fun gz=>gz) ?_ ?_
         ·refine Z0 1 (ib (b:=(((((decide (x.dst<0))||(decide (x.dst>=p.regs)))||((x.dst != 0)&&(!(decide (((0<=x.op/\x.op<=11)∨x.op=18)∨x.op=19)))))||(decide (x.into<0)))||(decide (x.into>p.regs)))) 75 (fun ZC=>?_) (fun ZC=>?_))
          ·have YR:((((x.dst<0)∨(x.dst>=p.regs))∨((x.dst≠0)/\(¬(((0<=x.op/\x.op<=11)∨x.op=18)∨x.op=19))))∨(x.into<0))∨(x.into>p.regs):=((ZO (ZO (ZO (ZO dq dq) (Yu Yp (Yh dq))) dq) dq)).1 ZC
           exact Z1 (Zv 4 (Zl true ZC fl))
          have YV:¬(((((x.dst<0)∨(x.dst>=p.regs))∨((x.dst≠0)/\(¬(((0<=x.op/\x.op<=11)∨x.op=18)∨x.op=19))))∨(x.into<0))∨(x.into>p.regs)):=Y7 (ZO (ZO (ZO (ZO dq dq) (Yu Yp (Yh dq))) dq) dq) ZC
          refine Zz 4 [0] (ib (b:=(x.into != 0)) 79 (fun Yn=>?_) (fun Yn=>?_))
          ·have Xc:x.into≠0:=(Yp).1 Yn
           exact V4 [0] (Zv 4 (Zl (x.op != 6) (And.intro ZC Yn) fl))
          have XK:¬(x.into≠0):=Y7 Yp Yn
          exact Z1 (Zv 4 (Zl false (And.intro ZC Yn) fl))
         refine ac ((((((decide (x.dst<0))||(decide (x.dst>=p.regs)))||((x.dst != 0)&&(!(decide (((0<=x.op/\x.op<=11)∨x.op=18)∨x.op=19)))))||(decide (x.into<0)))||(decide (x.into>p.regs)))||((x.into != 0)&&(x.op != 6))) (p:=(((((x.dst<0)∨(x.dst>=p.regs))∨((x.dst≠0)/\(¬(((0<=x.op/\x.op<=11)∨x.op=18)∨x.op=19))))∨(x.into<0))∨(x.into>p.regs))∨((x.into≠0)/\(x.op≠6))) (ZO (ZO (ZO (ZO (ZO dq dq) (Yu Yp (Yh dq))) dq) dq) (Yu Yp Yp)) (fun Zj=>?_) (fun Zj=>?_)
         ·exact ar (Zm (ZM (.b false) (lb (EX (fun z=>by have h:=z.2.1;unfold Bx at h;omega)).symm)))
         have hds:Bx p x:=by unfold Bx;omega
         refine ak (Ys 2 [0] (iw (Yc x.args) (Z1 (ab 0 (Y0 (fun fz gz m F h=>∃(j:Nat),(j<=x.args.length)/\(TH p.regs (x.args.drop j)=TH p.regs x.args)/\F=sF [4,5,6,7,86,87] fz [(88,.i j)]/\h=gz/\m=x.args.length-j) _ _ _ ⟨0,ob,rfl,rfl,rfl,rfl⟩ (Zv 4 (Ya fl)) ?_)))))
         rintro m F h ⟨j,Yj,Zf,rfl,rfl,rfl⟩
         refine Y1 (aq (WA ((j:Int)<(x.args.length:Int)) (fun ZA=>?_) (fun ZA=>?_)))
         ·refine ak (aq (ab 1 (ar ?_)))
          obtain ⟨x1,Z3⟩:=Zt x.args j om
          refine Zs (Zh none (j:Int) 1 (Y8 Z3)) (Z1 (ar (Xp [4,5,6,7,86,87,88] [(99,.b ((decide (x1<0))||(decide (x1>=p.regs))))] (fun gz=>gz) ?_ ?_)))
          ·refine Z0 3 (ib (b:=(decide (x1<0))) 94 (fun X1=>?_) (fun X1=>?_))
           ·have Wc:x1<0:=(dq).1 X1
            exact Z1 (Zv 4 (Zl true X1 fl))
           have WF:¬(x1<0):=Y7 dq X1
           exact V4 [2] (Zv 4 (Zl (decide (x1>=p.regs)) X1 fl))
          refine ac ((decide (x1<0))||(decide (x1>=p.regs))) (p:=(x1<0)∨(x1>=p.regs)) (ZO dq dq) (fun Yi=>?_) (fun Yi=>?_)
          ·exact ar (Zm (ZM (.b false) (lb (EX (fun z=>by have h:=z.2.2.1;rw [<-Sm Z3 om Zf] at h;cases h)).symm)))
          exact ak (az (ZD j (Z1 (ZF ⟨j+1,ob,(So Z3 om Zf),rfl,rfl,rfl⟩ (Zv 4 (ZI j fl))))))
         have hR:=(Sn om Zf).symm
         refine ax 0 (Yf 1 (iA [.val .nilFunc] fun b5=>Zy 0 b5 [.val (.func (.func 78) #[] #[.pointer (some ⟨b3,0,none⟩),.pointer (some ⟨b2,0,none⟩)])] (ie (Ys 2 [1] (iw (Yc x.jumps) (X6 9 [4,7,11] [(110,.b ((decide ((x.jumps.length:Int)>0))&&(x.op != 21)))] (fun gz=>gz) ?_ (fun hj9=>?_)))))))
         ·refine Xp [4,7,11] [(116,.b (((decide ((x.jumps.length:Int)>0))&&(x.op != 21))||(!Wf k p.code.length x.jumps)))] (fun gz=>gz) ?_ ?_
          ·refine Z0 1 (ib (b:=((decide ((x.jumps.length:Int)>0))&&(x.op != 21))) 111 (fun XF=>?_) (fun XF=>?_))
           ·have V1:((x.jumps.length:Int)>0)/\(x.op≠21):=((Yu dq Yp)).1 XF
            exact Z1 (Zv 5 (Zl true XF fl))
           have Ue:¬(((x.jumps.length:Int)>0)/\(x.op≠21)):=Y7 (Yu dq Yp) XF
           exact Zz 3 [1] (Zw [0,1,1] (Zaa _ k x.jumps b3 b2 b5) (Z1 (wk [0,2,0,0,0] (Zl (!Wf k p.code.length x.jumps) XF fl))))
          refine ac (((decide ((x.jumps.length:Int)>0))&&(x.op != 21))||(!Wf k p.code.length x.jumps)) (p:=(((x.jumps.length:Int)>0)/\(x.op≠21))∨(¬(Wf k p.code.length x.jumps=true))) (ZO (Yu dq Yp) (Yh Iff.rfl)) (fun YG=>?_) (fun YG=>?_)
          ·exact ar (Zm (ZM (.b false) (lb (EX (fun z=>by have h:=z.2.2.2.1;rcases YG with q|q<;>first|omega|exact q h.2)).symm)))
          have hJ2:Wf k p.code.length x.jumps=true:=C7 fun z=>YG (.inr z)
          have hJ1:x.jumps.length=0∨x.op=21:=C7 fun z=>YG (.inl ⟨by omega,by omega⟩)
          refine ak (Ys 3 [4,1,0] (Zw [2,2] (Zah _ _ k x b3 b2 (hps:=hps)) (YB (!(Wt im k p.code.length x)) (p:=¬((Wt im k p.code.length x)=true)) (Yh Iff.rfl) (fun X2=>?_) (fun X2=>?_))))
          ·exact ar (Zm (ZM (.b false) (lb (EX (fun z=>X2 z.2.2.2.2.1)).symm)))
          have hnv:=VP.1 X2
          refine ak (Zq 2 [4,3] (Zw [] (Za7 _ (k:Int) (p.code.length:Int) x (hps:=hps)) (Z1 (Zq 2 [3] (iw (Yc x.args) (X6 12 [] [(139,.b ((decide ((x.args.length:Int)>=(WQ im x)))&&(decide ((x.args.length:Int)<=(Vc im x)))))] (fun gz=>gz) ?_ (fun hj10=>?_)))))))
          ·exact Zm (ZM (.b ((decide ((x.args.length:Int)>=(WQ im x)))&&(decide ((x.args.length:Int)<=(Vc im x))))) (lb (by rw [Yg,LM,Xb,decide_eq_true_eq,decide_eq_true_eq];exact ⟨fun z=>⟨hb,hds,hR,⟨hJ1,hJ2⟩,hnv,z.1,z.2⟩,fun z=>z.2.2.2.2.2⟩)))
          refine Z0 3 (ib (b:=(decide ((x.args.length:Int)>=(WQ im x)))) 133 (fun Ws=>?_) (fun Ws=>?_))
          ·have UG:(x.args.length:Int)>=(WQ im x):=(dq).1 Ws
           exact Zz 2 [3] (iw (Yc x.args) (Z0 3 (Y5 (Zv 5 (Zl (decide ((x.args.length:Int)<=(Vc im x))) Ws fl)) hj10)))
          have Ut:¬((x.args.length:Int)>=(WQ im x)):=Y7 dq Ws
          exact Z0 6 (Y5 (Zv 5 (Zl false Ws fl)) hj10)
         refine Z0 2 (ib (b:=(decide ((x.jumps.length:Int)>0))) 106 (fun WK=>?_) (fun WK=>?_))
         ·have TW:(x.jumps.length:Int)>0:=(dq).1 WK
          exact Zz 4 [1] (Y5 (Zv 5 (Zl (x.op != 21) WK fl)) hj9)
         have Tq:¬((x.jumps.length:Int)>0):=Y7 dq WK
         exact Z0 4 (Y5 (Zv 5 (Zl false WK fl)) hj9)
        refine Z0 1 (ib (b:=((((decide (x.dst<0))||(decide (x.dst>=p.regs)))||((x.dst != 0)&&(!(decide (((0<=x.op/\x.op<=11)∨x.op=18)∨x.op=19)))))||(decide (x.into<0)))) 68 (fun Vl=>?_) (fun Vl=>?_))
        ·have K4:(((x.dst<0)∨(x.dst>=p.regs))∨((x.dst≠0)/\(¬(((0<=x.op/\x.op<=11)∨x.op=18)∨x.op=19))))∨(x.into<0):=((ZO (ZO (ZO dq dq) (Yu Yp (Yh dq))) dq)).1 Vl
         exact Z0 6 (Y5 (Zv 4 (Zl true Vl fl)) hj8)
        have K5:¬((((x.dst<0)∨(x.dst>=p.regs))∨((x.dst≠0)/\(¬(((0<=x.op/\x.op<=11)∨x.op=18)∨x.op=19))))∨(x.into<0)):=Y7 (ZO (ZO (ZO dq dq) (Yu Yp (Yh dq))) dq) Vl
        exact Zz 6 [0,2] (Y5 (Zv 4 (Zl (decide (x.into>p.regs)) Vl fl)) hj8)
       refine Z0 1 (ib (b:=(((decide (x.dst<0))||(decide (x.dst>=p.regs)))||((x.dst != 0)&&(!(decide (((0<=x.op/\x.op<=11)∨x.op=18)∨x.op=19)))))) 63 (fun V9=>?_) (fun V9=>?_))
       ·have Ak:((x.dst<0)∨(x.dst>=p.regs))∨((x.dst≠0)/\(¬(((0<=x.op/\x.op<=11)∨x.op=18)∨x.op=19))):=((ZO (ZO dq dq) (Yu Yp (Yh dq)))).1 V9
        exact Z0 4 (Y5 (Zv 4 (Zl true V9 fl)) hj7)
       have B6:¬(((x.dst<0)∨(x.dst>=p.regs))∨((x.dst≠0)/\(¬(((0<=x.op/\x.op<=11)∨x.op=18)∨x.op=19)))):=Y7 (ZO (ZO dq dq) (Yu Yp (Yh dq))) V9
       exact Zz 4 [0] (Y5 (Zv 4 (Zl (decide (x.into<0)) V9 fl)) hj7)
      refine Z0 1 (ib (b:=((decide (x.dst<0))||(decide (x.dst>=p.regs)))) 52 (fun UE=>?_) (fun UE=>?_))
      ·have LD:(x.dst<0)∨(x.dst>=p.regs):=((ZO dq dq)).1 UE
       exact Z0 10 (Y5 (Zv 4 (Zl true UE fl)) hj6)
      have LE:¬((x.dst<0)∨(x.dst>=p.regs)):=Y7 (ZO dq dq) UE
      refine Zz 4 [0] (ib (b:=(x.dst != 0)) 56 (fun QA=>?_) (fun QA=>?_))
      ·have GQ:x.dst≠0:=(Yp).1 QA
       exact Zz 2 [0] (Zw [] (Zai x.op) (Z0 3 (Y5 (Zv 4 (Zl (!(decide (((0<=x.op/\x.op<=11)∨x.op=18)∨x.op=19))) (And.intro UE QA) fl)) hj6)))
      have Pq:¬(x.dst≠0):=Y7 Yp QA
      exact Z0 6 (Y5 (Zv 4 (Zl false (And.intro UE QA) fl)) hj6)
     refine Zz 4 [0] (ib (b:=(decide (x.dst<0))) 45 (fun QB=>?_) (fun QB=>?_))
     ·have Pr:x.dst<0:=(dq).1 QB
      exact Z0 6 (Y5 (Zv 4 (Zl true QB fl)) hj5)
     have Ps:¬(x.dst<0):=Y7 dq QB
     exact Zz 6 [0,2] (Y5 (Zv 4 (Zl (decide (x.dst>=p.regs)) QB fl)) hj5)
    refine Z0 1 (ib (b:=((((decide (x.op<0))||(decide (x.op>24)))||(x.op==7))||(x.op==8))) 32 (fun Jz=>?_) (fun Jz=>?_))
    ·have Pt:(((x.op<0)∨(x.op>24))∨(x.op=7))∨(x.op=8):=((ZO (ZO (ZO dq dq) Ze) Ze)).1 Jz
     exact Z0 4 (Y5 (Zv 4 (Zl true Jz fl)) hj4)
    have Pu:¬((((x.op<0)∨(x.op>24))∨(x.op=7))∨(x.op=8)):=Y7 (ZO (ZO (ZO dq dq) Ze) Ze) Jz
    exact Zz 4 [0] (Y5 (Zv 4 (Zl (x.op==12) Jz fl)) hj4)
   refine Z0 1 (ib (b:=(((decide (x.op<0))||(decide (x.op>24)))||(x.op==7))) 27 (fun JA=>?_) (fun JA=>?_))
   ·have Pv:((x.op<0)∨(x.op>24))∨(x.op=7):=((ZO (ZO dq dq) Ze)).1 JA
    exact Z0 4 (Y5 (Zv 4 (Zl true JA fl)) hj3)
   have Pw:¬(((x.op<0)∨(x.op>24))∨(x.op=7)):=Y7 (ZO (ZO dq dq) Ze) JA
   exact Zz 4 [0] (Y5 (Zv 4 (Zl (x.op==8) JA fl)) hj3)
  refine Z0 1 (ib (b:=((decide (x.op<0))||(decide (x.op>24)))) 22 (fun J2=>?_) (fun J2=>?_))
  ·have Px:(x.op<0)∨(x.op>24):=((ZO dq dq)).1 J2
   exact Z0 4 (Y5 (Zv 4 (Zl true J2 fl)) hj2)
  have GR:¬((x.op<0)∨(x.op>24)):=Y7 (ZO dq dq) J2
  exact Zz 4 [0] (Y5 (Zv 4 (Zl (x.op==7) J2 fl)) hj2)
 refine Zz 4 [0] (ib (b:=(decide (x.op<0))) 17 (fun JB=>?_) (fun JB=>?_))
 ·have GS:x.op<0:=(dq).1 JB
  exact Z0 4 (Y5 (Zv 4 (Zl true JB fl)) hj1)
 have LF:¬(x.op<0):=Y7 dq JB
 exact Zz 4 [0] (Y5 (Zv 4 (Zl (decide (x.op>24)) JB fl)) hj1)
theorem Za5 (im:YA) (lz:Nat) (hz:IZ im lz:=by exact ob) (hlz:lz<=100:=by exact ob):Zo 17 [V7 im] [] (Yx (.b (VK im))):=by
 have hil:=hz.len
 refine ZE 79 Tryz.func17 (ar (iA (Vd im) fun b1=>Z1 (Zq 1 [0] (ic [] (Zad im lz (hz:=hz)) ?_))))
 rintro _ _ (⟨rfl,rfl,Y4⟩|⟨rfl,rfl,Yr⟩)
 ·have hL:=Y4
  refine Z0 3 (iA [nl,nl] fun b2=>Zy 0 b2 [Ye im.decls,KF (im.procs.map W7)] (Z1 (Xd (YB (!(Q7 im.decls (im.procs.map W7))) (p:=¬((Q7 im.decls (im.procs.map W7))=true)) (Yh Iff.rfl) (fun Z9=>?_) (fun Z9=>?_)))))
  ·exact ar (Zm (ZM (.b false) (lb (by rw [CG,C1,show Q7 im.decls (im.procs.map W7)=false from Q8.2 Z9];simp))))
  have hV:=VP.1 Z9
  have hS:C1 im=true:=by rw [C1,decide_eq_true hL,hV];rfl
  obtain ⟨Xq,hlp,_,hps⟩:=Z0b hS
  refine ak (Ys 2 [1] (iw (Qb im.procs) (Z1 (ab 0 (Y0 (fun fz gz m F h=>∃(k:Nat),(k<=im.procs.length)/\(Tv im (im.procs.drop k)=Tv im im.procs)/\F=sF [3,18,19] fz [(20,.i k)]/\h=[Zi gz 0]/\m=im.procs.length-k) _ _ _ ⟨0,ob,rfl,rfl,rfl,rfl⟩ (wk [0] (Ya fl)) ?_)))))
  rintro m F h ⟨k,Yj,Zf,rfl,rfl,rfl⟩
  refine Y1 (aq (WA ((k:Int)<(im.procs.length:Int)) (fun Zj=>?_) (fun Zj=>?_)))
  ·refine ak (aq (ab 1 (ar ?_)))
   obtain ⟨x1,Z3⟩:=Zt im.procs k om
   have hpz:=hz.procs _ (Y3 Z3)
   have hpl:=hpz.len
   refine Zs (Zh none (k:Int) 5 (Ku Z3)) (Z0 1 (iA [nl,nl,.i 0,.i 0,nl] fun b3=>Zy 0 b3 (Ul x1) (ie (Ys 4 [0,0] (iw (Yc x1.params) (Zs (GZ 1 (x1.params.length:Int)) (X6 12 [3,6,18,19,20] [(35,.b ((decide (x1.regs<(max 1 (x1.params.length:Int))))||(decide (x1.regs>2000))))] (fun gz=>gz) ?_ (fun hj1=>?_))))))))
   ·refine X6 18 [3,6,18,19,20] [(41,.b (((decide (x1.regs<(max 1 (x1.params.length:Int))))||(decide (x1.regs>2000)))||(decide ((x1.code.length:Int)<1))))] (fun gz=>gz) ?_ (fun hj2=>?_)
    ·refine Xp [3,6,18,19,20] [(47,.b ((((decide (x1.regs<(max 1 (x1.params.length:Int))))||(decide (x1.regs>2000)))||(decide ((x1.code.length:Int)<1)))||(decide ((x1.code.length:Int)>2000))))] (fun gz=>gz) ?_ ?_
     ·refine Z0 1 (ib (b:=(((decide (x1.regs<(max 1 (x1.params.length:Int))))||(decide (x1.regs>2000)))||(decide ((x1.code.length:Int)<1)))) 42 (fun Zc=>?_) (fun Zc=>?_))
      ·have YR:((x1.regs<(max 1 (x1.params.length:Int)))∨(x1.regs>2000))∨((x1.code.length:Int)<1):=((ZO (ZO dq dq) dq)).1 Zc
       exact Z1 (wk [0,0] (Zl true Zc fl))
      have YV:¬(((x1.regs<(max 1 (x1.params.length:Int)))∨(x1.regs>2000))∨((x1.code.length:Int)<1)):=Y7 (ZO (ZO dq dq) dq) Zc
      exact Zz 2 [0] (iw (T8 x1.code) (Z1 (wk [0,0] (Zl (decide ((x1.code.length:Int)>2000)) Zc fl))))
     refine ac ((((decide (x1.regs<(max 1 (x1.params.length:Int))))||(decide (x1.regs>2000)))||(decide ((x1.code.length:Int)<1)))||(decide ((x1.code.length:Int)>2000))) (p:=(((x1.regs<(max 1 (x1.params.length:Int)))∨(x1.regs>2000))∨((x1.code.length:Int)<1))∨((x1.code.length:Int)>2000)) (ZO (ZO (ZO dq dq) dq) dq) (fun ZA=>?_) (fun ZA=>?_)
     ·exact ar (Zm (ZM (.b false) (lb (by rw [CG,hS,Bool.true_and];exact Ht Z3 (by rw [Tu,decide_eq_false (p:=(1<=x1.regs/\(x1.params.length:Int)<=x1.regs/\x1.regs<=2000)/\1<=x1.code.length/\x1.code.length<=2000) om];simp) Zf))))
     refine ak (Ys 4 [0,0] (iw (T8 x1.code) (ia ((((x1.code.length-1):Nat):Int)) (((x1.code.length:Int))-(1)) ?_)))
     obtain ⟨x2,Zu⟩:=Zt x1.code (x1.code.length-1) om
     refine Zs (Zh none (((x1.code.length-1):Nat):Int) 6 (Qw Zu)) (Z1 (ar (Xp [3,6,18,19,20] [(62,.b ((x2.op != 23)&&(x2.op != 24)))] (fun gz=>gz) ?_ ?_)))
     ·refine Z0 3 (ib (b:=(x2.op != 23)) 59 (fun ZC=>?_) (fun ZC=>?_))
      ·have Xc:x2.op≠23:=(Yp).1 ZC
       exact Z1 (wk [0,0] (Zl (x2.op != 24) ZC fl))
      have XK:¬(x2.op≠23):=Y7 Yp ZC
      exact Z1 (wk [0,0] (Zl false ZC fl))
     refine ac ((x2.op != 23)&&(x2.op != 24)) (p:=(x2.op≠23)/\(x2.op≠24)) (Yu Yp Yp) (fun Yi=>?_) (fun Yi=>?_)
     ·exact ar (Zm (ZM (.b false) (lb (by rw [CG,hS,Bool.true_and];exact Ht Z3 (by rw [Tu,H5 Zu,decide_eq_false (p:=x2.op=23∨x2.op=24) om];simp) Zf))))
     refine ak (Zq 2 [0] (iw (T8 x1.code) (Z1 (ab 2 (Y0 (fun fz gz m F h=>∃(j:Nat),(j<=x1.code.length)/\(QD im x1 (x1.code.drop j) j=QD im x1 x1.code 0)/\F=sF [3,6,18,19,20,64,65] fz [(66,.i j)]/\h=gz/\m=x1.code.length-j) _ _ _ ⟨0,ob,rfl,rfl,rfl,rfl⟩ (wk [0,0] (Ya fl)) ?_)))))
     rintro m F h ⟨j,VA,Xs,rfl,rfl,rfl⟩
     refine Y1 (aq (WA ((j:Int)<(x1.code.length:Int)) (fun YG=>?_) (fun YG=>?_)))
     ·refine ak (aq (ab 3 (Yf 1 ?_)))
      obtain ⟨x3,YP⟩:=Zt x1.code j om
      have hxz:=(hpz.code _ (Y3 YP)).l
      refine Zs (Zh none (j:Int) 6 (Qw YP)) (Z0 1 (iA [.i 0,.i 0,.i 0,.i 0,nl,nl] fun b4=>Z0 1 (Zy 0 b4 (Ve x3) (ie (Zq 4 [2,1,0] (Zw [] (Zaf _ x1 j x3 (hd:=Xq) (hps:=hps) (hxl:=om)) (YB (!(Ug im x1 j x3)) (p:=¬((Ug im x1 j x3)=true)) (Yh Iff.rfl) (fun X2=>?_) (fun X2=>?_))))))))
      ·exact ar (Zm (ZM (.b false) (lb (by rw [CG,hS,Bool.true_and];exact Ht Z3 (by rw [Tu,<-PL YP (Q8.2 (by assumption)) Xs];simp) Zf))))
      exact ak (az (ZD j (Z1 (ZF ⟨j+1,ob,(PN YP (VP.1 (by assumption)) Xs),rfl,rfl,rfl⟩ (wk [1,1] (ZI j fl))))))
     exact ax 2 (az (ZD k (Z1 (ZF ⟨k+1,ob,(S2 Z3 (by rw [Tu,M2.1 hlp x1 (Y3 Z3),decide_eq_true (p:=(1<=x1.regs/\(x1.params.length:Int)<=x1.regs/\x1.regs<=2000)/\1<=x1.code.length/\x1.code.length<=2000) om,<-PM om Xs,H5 Zu,decide_eq_true (p:=x2.op=23∨x2.op=24) om];rfl) Zf),rfl,rfl,rfl⟩ (wk [1] (ZI k fl))))))
    refine Z0 1 (ib (b:=((decide (x1.regs<(max 1 (x1.params.length:Int))))||(decide (x1.regs>2000)))) 36 (fun Yn=>?_) (fun Yn=>?_))
    ·have Wc:(x1.regs<(max 1 (x1.params.length:Int)))∨(x1.regs>2000):=((ZO dq dq)).1 Yn
     exact Z0 5 (Y5 (wk [0,0] (Zl true Yn fl)) hj2)
    have WF:¬((x1.regs<(max 1 (x1.params.length:Int)))∨(x1.regs>2000)):=Y7 (ZO dq dq) Yn
    exact Zz 2 [0] (iw (T8 x1.code) (Z0 2 (Y5 (wk [0,0] (Zl (decide ((x1.code.length:Int)<1)) Yn fl)) hj2)))
   refine Z0 2 (ib (b:=(decide (x1.regs<(max 1 (x1.params.length:Int))))) 31 (fun X1=>?_) (fun X1=>?_))
   ·have V1:x1.regs<(max 1 (x1.params.length:Int)):=(dq).1 X1
    exact Z0 4 (Y5 (wk [0,0] (Zl true X1 fl)) hj1)
   have Ue:¬(x1.regs<(max 1 (x1.params.length:Int))):=Y7 dq X1
   exact Zz 4 [0] (Y5 (wk [0,0] (Zl (decide (x1.regs>2000)) X1 fl)) hj1)
  exact ax 0 (ar (Zm (ZM (.b true) (lb (by rw [CG,hS,<-S1 om Zf];rfl)))))
 have hL:=Yr
 exact Z0 3 (iA [nl,nl] fun b5=>Zy 0 b5 [Ye [],KF []] (Z1 (Y6 (VR (ar (Zm (ZM (.b false) (lb (by rw [CG,C1,decide_eq_false hL];rfl)))))))))
end Go.Abs
section
namespace Go.Abs
section
variable {P:Program} {n:Nat} {ops:Array Oper} {B:Fr->List Res->Prop} {k:Nat} {F:Fr} {h:List Res}
end
end Go.Abs
namespace Go.Abs
end Go.Abs
namespace Go.Abs
end Go.Abs
end
namespace Go.Abs
open Go.Proofs
open Go.Proofs
open Go.Proofs
open Go.Proofs
theorem CK (xs:LI) (ys:LI) (hxl:xs.length<=1000000000:=by exact ob) (hyl:ys.length<=1000000000:=by exact ob):Zo 11 [Z4 xs,Z4 ys] [] (Yx (.b (decide (xs=ys)))):=by
 refine ZE 26 Tryz.func11 (Y1 (YM 1 (iw (Yc xs) (Z0 1 (iw (Yc ys) (YB ((xs.length:Int) != (ys.length:Int)) Yp (fun Z9=>?_) (fun Z9=>?_)))))))
 ·exact ar (Zm (ZM (.b false) (lb (decide_eq_false (fun z=>Z9 (by rw [z]))).symm)))
 refine ak (Y6 (ab 0 (Y0 (fun fz gz m F h=>∃(k:Nat),(k<=xs.length)/\(∀i,i<k->xs[i]? = ys[i]?)/\F=sF [0,1] fz [(5,.i k)]/\h=gz/\m=xs.length-k) _ _ _ ⟨0,ob,(fun i h=>absurd h om),rfl,rfl,rfl⟩ (wk [] (Ya fl)) ?_)))
 rintro m F h ⟨k,Yj,Zf,rfl,rfl,rfl⟩
 refine YM 2 (iw (Yc xs) (Y2 ((k:Int)<(xs.length:Int)) (fun Zj=>?_) (fun Zj=>?_)))
 ·refine ak (aq (ab 1 (aD 9 (Zp 7 9 [0,1] ?_))))
  obtain ⟨x1,Z3⟩:=Zt xs k om
  refine dx 2 (Zh none (k:Int) 1 (Y8 Z3)) (Zp 3 6 [3,4,5] ?_)
  obtain ⟨x2,Zu⟩:=Zt ys k om
  refine dx 6 (Zh none (k:Int) 1 (Y8 Zu)) (Zp 0 2 [7,8] (de (ac (x1 != x2) Yp (fun ZA=>?_) (fun ZA=>?_))))
  ·exact ar (Zm (ZM (.b false) (lb (decide_eq_false (fun z=>ZA (by rw [z,Zu] at Z3;cases Z3;rfl))).symm)))
  exact ak (az (Z0 1 (ZD k (Z1 (ZF ⟨k+1,ob,(fun i h=>(Nat.lt_succ_iff_lt_or_eq.1 h).elim (Zf i) (fun z=>by rw [z,Z3,Zu,VP.1 ZA])),rfl,rfl,rfl⟩ (wk [] (ZI k fl)))))))
 exact ax 0 (ar (Zm (ZM (.b true) (lb (decide_eq_true (Z5w om (fun i hi=>Zf i om))).symm))))
theorem Zb9 (ds:List Zb) (es:List Zb) (hd:TL ds:=by exact ob) (he:TL es:=by exact ob):Zo 37 [Ye ds,Ye es] [] (Yx (.b (decide (ds=es)))):=by
 have hdl:=hd.len
 have hel:=he.len
 refine ZE 87 Tryz.func37 (Y1 (YM 1 (iw (VB ds) (Z0 1 (iw (VB es) (YB ((ds.length:Int) != (es.length:Int)) Yp (fun Z9=>?_) (fun Z9=>?_)))))))
 ·exact ar (Zm (ZM (.b false) (lb (decide_eq_false (fun z=>Z9 (by rw [z]))).symm)))
 refine ak (Y6 (ab 0 (Y0 (fun fz gz m F h=>∃(k:Nat),(k<=ds.length)/\(∀i,i<k->ds[i]? = es[i]?)/\F=sF [0,1] fz [(5,.i k)]/\h=gz/\m=ds.length-k) _ _ _ ⟨0,ob,HY,rfl,rfl,rfl⟩ (wk [] (Ya fl)) ?_)))
 rintro m F h ⟨k,Yj,Zf,rfl,rfl,rfl⟩
 refine YM 2 (iw (VB ds) (Y2 ((k:Int)<(ds.length:Int)) (fun Zj=>?_) (fun Zj=>?_)))
 ·refine ak (aq (ab 1 (aq (aD 39 (Zp 37 39 [0,1] ?_)))))
  obtain ⟨x1,Z3⟩:=Zt ds k om
  have hcl:=hd.cons_at Z3
  refine dx 2 (Zh none (k:Int) 3 (Wg Z3)) (Zp 32 36 [3,4,5,6] ?_)
  obtain ⟨x2,Zu⟩:=Zt es k om
  refine dx 7 (Zh none (k:Int) 3 (Wg Zu)) (Bv [0,1,5] [(56,.b ((x1.frm != x2.frm)||((x1.to_ != x2.to_)||((x1.cons.length:Int) != (x2.cons.length:Int)))))] (fun gz=>gz) ?_ ?_)
  ·refine Zp 27 31 [8,9,10,11] (db (b:=(x1.frm != x2.frm)) 29 (fun Zc=>?_) (fun Zc=>?_))
   ·have Y4:x1.frm≠x2.frm:=(Yp).1 Zc
    exact Zp 0 27 [12,13,14,15,16,17,18,19,20,21,22,23,24,25,26,27,28,29,30,31,32,33,34,35,36,37,38] (de (wk [] (Zl true Zc fl)))
   have Yr:¬(x1.frm≠x2.frm):=Y7 Yp Zc
   refine Zp 25 27 [12,13] (dx 14 (Zh none (k:Int) 3 (Wg Z3)) (Zp 20 24 [15,16,17,18] (dx 19 (Zh none (k:Int) 3 (Wg Zu)) (Zp 14 19 [20,21,22,23,24] (db (b:=(x1.to_ != x2.to_)) 42 (fun ZC=>?_) (fun ZC=>?_))))))
   ·have YR:x1.to_≠x2.to_:=(Yp).1 ZC
    exact Zp 0 14 [25,26,27,28,29,30,31,32,33,34,35,36,37,38] (de (wk [] (Zl true (And.intro Zc ZC) fl)))
   have YV:¬(x1.to_≠x2.to_):=Y7 Yp ZC
   exact Zp 12 14 [25,26] (dx 27 (Zh none (k:Int) 3 (Wg Z3)) (Zp 9 11 [28,29] (dw 30 (VT x1.cons) (Zp 6 8 [31,32] (dx 33 (Zh none (k:Int) 3 (Wg Zu)) (Zp 3 5 [34,35] (dw 36 (VT x2.cons) (Zp 0 2 [37,38] (de (wk [] (Zl ((x1.cons.length:Int) != (x2.cons.length:Int)) (And.intro Zc ZC) fl)))))))))))
  refine ac ((x1.frm != x2.frm)||((x1.to_ != x2.to_)||((x1.cons.length:Int) != (x2.cons.length:Int)))) (p:=(x1.frm≠x2.frm)∨((x1.to_≠x2.to_)∨((x1.cons.length:Int)≠(x2.cons.length:Int)))) (ZO Yp (ZO Yp Yp)) (fun ZA=>?_) (fun ZA=>?_)
  ·exact ar (Zm (ZM (.b false) (lb (decide_eq_false (Dg Z3 Zu (fun z=>by rw [z] at ZA;simp at ZA))).symm)))
  simp only [not_or,ne_eq,VP,decide_eq_true_eq] at ZA
  obtain ⟨hq1,hq2,hq3⟩:=ZA
  refine ak (Y1 (ab 2 (Y0 (fun fz gz m F h=>∃(j:Nat),(j<=x1.cons.length)/\(∀i,i<j->x1.cons[i]? = x2.cons[i]?)/\F=sF [0,1,5] fz [(6,.i j)]/\h=gz/\m=x1.cons.length-j) _ _ _ ⟨0,ob,HY,rfl,rfl,rfl⟩ (wk [] (Ya fl)) ?_)))
  rintro m F h ⟨j,VA,Xs,rfl,rfl,rfl⟩
  refine YM 3 (Zs (Zh none (k:Int) 3 (Wg Z3)) (Z0 2 (iw (VT x1.cons) (Y2 ((j:Int)<(x1.cons.length:Int)) (fun Yi=>?_) (fun Yi=>?_)))))
  ·refine ak (aq (ab 3 (aD 20 (Zp 18 20 [0,1] (dx 2 (Zh none (k:Int) 3 (Wg Z3)) (Zp 14 17 [3,4,5] ?_))))))
   obtain ⟨x3,YP⟩:=Zt x1.cons j om
   refine dx 6 (Zh none (j:Int) 1 (Jv YP)) (Zp 9 13 [7,8,9,10] (dx 11 (Zh none (k:Int) 3 (Wg Zu)) (Zp 5 8 [12,13,14] ?_)))
   obtain ⟨x4,WR⟩:=Zt x2.cons j om
   refine dx 15 (Zh none (j:Int) 1 (Jv WR)) (Zp 2 4 [16,17] (Z7 18 (YH 18 [] [] [] (CK x3.fields x4.fields (hxl:=(V6 (hd.fields_at Z3 YP) (by decide))) (hyl:=(V6 (he.fields_at Zu WR) (by decide)))) (Zp 0 1 [19] (de (ac (!(decide (x3.fields=x4.fields))) (p:=¬(x3.fields=x4.fields)) (Yh dq) (fun YG=>?_) (fun YG=>?_)))))))
   ·exact ar (Zm (ZM (.b false) (lb (decide_eq_false (Dg Z3 Zu (fun z=>Dg YP WR (fun w=>YG (Yl Yd.fields w)) (Yl Zb.cons z)))).symm)))
   exact ak (az (Z0 1 (ZD j (Z1 (ZF ⟨j+1,ob,(HZ Xs YP WR (Yd.ext1 (VP.1 YG))),rfl,rfl,rfl⟩ (wk [] (ZI j fl)))))))
  have hE:=Gs (xs:=x1.cons) (ys:=x2.cons) om (fun i hi=>Xs i om)
  exact ax 2 (az (Z0 1 (ZD k (Z1 (ZF ⟨k+1,ob,(HZ Zf Z3 Zu (Zb.ext3 hq1 hq2 hE)),rfl,rfl,rfl⟩ (wk [] (ZI k fl)))))))
 exact ax 0 (ar (Zm (ZM (.b true) (lb (decide_eq_true (Gs om (fun i hi=>Zf i om))).symm))))
theorem Zbb (x:Instr) (y:Instr) (h1:x.args.length<=1000000000:=by exact ob) (h2:x.jumps.length<=1000000000:=by exact ob) (h3:y.args.length<=1000000000:=by exact ob) (h4:y.jumps.length<=1000000000:=by exact ob):Zo 38 [T2 x,T2 y] [] (Yx (.b (decide (x=y)))):=by
 refine ZE 45 Tryz.func38 (ar (iA (Ve x) fun b1=>iA (Ve y) fun b2=>Z1 (ar (X6 12 [2,3] [(16,.b ((x.op==y.op)&&(x.dst==y.dst)))] (fun gz=>gz) ?_ (fun hj1=>?_)))))
 ·refine X6 19 [2,3] [(23,.b (((x.op==y.op)&&(x.dst==y.dst))&&(x.num==y.num)))] (fun gz=>gz) ?_ (fun hj2=>?_)
  ·refine X6 26 [2,3] [(30,.b ((((x.op==y.op)&&(x.dst==y.dst))&&(x.num==y.num))&&(x.into==y.into)))] (fun gz=>gz) ?_ (fun hj3=>?_)
   ·refine X6 33 [2,3] [(37,.b (((((x.op==y.op)&&(x.dst==y.dst))&&(x.num==y.num))&&(x.into==y.into))&&(decide (x.args=y.args))))] (fun gz=>gz) ?_ (fun hj4=>?_)
    ·refine X6 40 [] [(44,.b ((((((x.op==y.op)&&(x.dst==y.dst))&&(x.num==y.num))&&(x.into==y.into))&&(decide (x.args=y.args)))&&(decide (x.jumps=y.jumps))))] (fun gz=>gz) ?_ (fun hj5=>?_)
     ·exact Zm (ZM (.b ((((((x.op==y.op)&&(x.dst==y.dst))&&(x.num==y.num))&&(x.into==y.into))&&(decide (x.args=y.args)))&&(decide (x.jumps=y.jumps)))) (lb (by rw [Yg];simp only [Xb,decide_eq_true_eq,Ze,Instr.eq_iff,and_assoc])))
     refine Z0 1 (ib (b:=(((((x.op==y.op)&&(x.dst==y.dst))&&(x.num==y.num))&&(x.into==y.into))&&(decide (x.args=y.args)))) 38 (fun Zc=>?_) (fun Zc=>?_))
     ·have Y4:((((x.op=y.op)/\(x.dst=y.dst))/\(x.num=y.num))/\(x.into=y.into))/\(x.args=y.args):=((Yu (Yu (Yu (Yu Ze Ze) Ze) Ze) dq)).1 Zc
      exact Zz 4 [1,0] (Zw [] (CK x.jumps y.jumps) (Z0 1 (Y5 (wk [0,0] (Zl (decide (x.jumps=y.jumps)) Zc fl)) hj5)))
     have Yr:¬(((((x.op=y.op)/\(x.dst=y.dst))/\(x.num=y.num))/\(x.into=y.into))/\(x.args=y.args)):=Y7 (Yu (Yu (Yu (Yu Ze Ze) Ze) Ze) dq) Zc
     exact Z0 6 (Y5 (wk [0,0] (Zl false Zc fl)) hj5)
    refine Z0 1 (ib (b:=((((x.op==y.op)&&(x.dst==y.dst))&&(x.num==y.num))&&(x.into==y.into))) 31 (fun ZC=>?_) (fun ZC=>?_))
    ·have YR:(((x.op=y.op)/\(x.dst=y.dst))/\(x.num=y.num))/\(x.into=y.into):=((Yu (Yu (Yu Ze Ze) Ze) Ze)).1 ZC
     exact Zz 4 [1,0] (Zw [] (CK x.args y.args) (Z0 1 (Y5 (wk [0,0] (Zl (decide (x.args=y.args)) ZC fl)) hj4)))
    have YV:¬((((x.op=y.op)/\(x.dst=y.dst))/\(x.num=y.num))/\(x.into=y.into)):=Y7 (Yu (Yu (Yu Ze Ze) Ze) Ze) ZC
    exact Z0 6 (Y5 (wk [0,0] (Zl false ZC fl)) hj4)
   refine Z0 1 (ib (b:=(((x.op==y.op)&&(x.dst==y.dst))&&(x.num==y.num))) 24 (fun Yn=>?_) (fun Yn=>?_))
   ·have Xc:((x.op=y.op)/\(x.dst=y.dst))/\(x.num=y.num):=((Yu (Yu Ze Ze) Ze)).1 Yn
    exact Zz 6 [1,0] (Y5 (wk [0,0] (Zl (x.into==y.into) Yn fl)) hj3)
   have XK:¬(((x.op=y.op)/\(x.dst=y.dst))/\(x.num=y.num)):=Y7 (Yu (Yu Ze Ze) Ze) Yn
   exact Z0 6 (Y5 (wk [0,0] (Zl false Yn fl)) hj3)
  refine Z0 1 (ib (b:=((x.op==y.op)&&(x.dst==y.dst))) 17 (fun X1=>?_) (fun X1=>?_))
  ·have Wc:(x.op=y.op)/\(x.dst=y.dst):=((Yu Ze Ze)).1 X1
   exact Zz 6 [1,0] (Y5 (wk [0,0] (Zl (x.num==y.num) X1 fl)) hj2)
  have WF:¬((x.op=y.op)/\(x.dst=y.dst)):=Y7 (Yu Ze Ze) X1
  exact Z0 6 (Y5 (wk [0,0] (Zl false X1 fl)) hj2)
 refine Zz 6 [1,0] (ib (b:=(x.op==y.op)) 10 (fun XF=>?_) (fun XF=>?_))
 ·have V1:x.op=y.op:=(Ze).1 XF
  exact Zz 6 [1,0] (Y5 (wk [0,0] (Zl (x.dst==y.dst) XF fl)) hj1)
 have Ue:¬(x.op=y.op):=Y7 Ze XF
 exact Z0 6 (Y5 (wk [0,0] (Zl false XF fl)) hj1)
theorem Zba (a:YA) (b:YA) (ha:Ih a:=by exact ob) (hb:Ih b:=by exact ob):Zo 14 [V7 a,V7 b] [] (Yx (.b (decide (a=b)))):=by
 have hal:=ha.len
 have hbl:=hb.len
 refine ZE 97 Tryz.func14 (ar (iA (Vd a) fun b1=>iA (Vd b) fun b2=>Z1 (Ys 4 [1,0] (Zw [] (Zb9 a.decls b.decls (hd:=ha.decls) (he:=hb.decls)) (Xp [2,3] [(23,.b ((!(decide (a.decls=b.decls)))||((a.procs.length:Int) != (b.procs.length:Int))))] (fun gz=>gz) ?_ ?_)))))
 ·refine Z0 2 (ib (b:=(!(decide (a.decls=b.decls)))) 15 (fun Zc=>?_) (fun Zc=>?_))
  ·have Y4:¬(a.decls=b.decls):=((Yh dq)).1 Zc
   exact Z1 (wk [0,0] (Zl true Zc fl))
  have Yr:¬(¬(a.decls=b.decls)):=Y7 (Yh dq) Zc
  exact Zz 2 [1] (iw (Qb a.procs) (Zz 2 [0] (iw (Qb b.procs) (Z1 (wk [0,0] (Zl ((a.procs.length:Int) != (b.procs.length:Int)) Zc fl))))))
 refine ac ((!(decide (a.decls=b.decls)))||((a.procs.length:Int) != (b.procs.length:Int))) (p:=(¬(a.decls=b.decls))∨((a.procs.length:Int)≠(b.procs.length:Int))) (ZO (Yh dq) Yp) (fun Z9=>?_) (fun Z9=>?_)
 ·exact ar (Zm (ZM (.b false) (lb (decide_eq_false (fun z=>by rw [z] at Z9;simp at Z9)).symm)))
 simp only [not_or,ne_eq,VP,decide_eq_true_eq] at Z9
 obtain ⟨hq1,hq2⟩:=Z9
 refine ak (Y6 (ab 0 (Y0 (fun fz gz m F h=>∃(k:Nat),(k<=a.procs.length)/\(∀i,i<k->a.procs[i]? = b.procs[i]?)/\F=sF [2,3] fz [(5,.i k)]/\h=gz/\m=a.procs.length-k) _ _ _ ⟨0,ob,HY,rfl,rfl,rfl⟩ (wk [0,0] (Ya fl)) ?_)))
 rintro m F h ⟨k,Yj,Zf,rfl,rfl,rfl⟩
 refine Ys 3 [1] (iw (Qb a.procs) (Y2 ((k:Int)<(a.procs.length:Int)) (fun Zj=>?_) (fun Zj=>?_)))
 ·refine ak (aq (ab 1 (Zq 3 [1] ?_)))
  obtain ⟨x1,Z3⟩:=Zt a.procs k om
  have hm1:=ha.procs _ (Y3 Z3)
  have ha1:=hm1.params
  have ha2:=hm1.lent
  have ha3:=hm1.len
  refine Zs (Zh none (k:Int) 5 (Ku Z3)) (Z0 1 (iA [nl,nl,.i 0,.i 0,nl] fun b3=>Zy 0 b3 (Ul x1) (ie (Zq 3 [1] ?_))))
  obtain ⟨x2,Zu⟩:=Zt b.procs k om
  have hm2:=hb.procs _ (Y3 Zu)
  have Zc:=hm2.params
  have ZC:=hm2.lent
  have Yn:=hm2.len
  refine Zs (Zh none (k:Int) 5 (Ku Zu)) (Z0 1 (iA [nl,nl,.i 0,.i 0,nl] fun b4=>Zy 0 b4 (Ul x2) (ie (Ys 4 [1,0] (Zw [] (CK x1.params x2.params) (X6 14 [2,3,5,6,7] [(54,.b ((!(decide (x1.params=x2.params)))||(!(decide (x1.lent=x2.lent)))))] (fun gz=>gz) ?_ (fun hj1=>?_)))))))
  ·refine X6 21 [2,3,5,6,7] [(61,.b (((!(decide (x1.params=x2.params)))||(!(decide (x1.lent=x2.lent))))||(x1.result != x2.result)))] (fun gz=>gz) ?_ (fun hj2=>?_)
   ·refine X6 28 [2,3,5,6,7] [(68,.b ((((!(decide (x1.params=x2.params)))||(!(decide (x1.lent=x2.lent))))||(x1.result != x2.result))||(x1.regs != x2.regs)))] (fun gz=>gz) ?_ (fun hj3=>?_)
    ·refine Xp [2,3,5,6,7] [(77,.b (((((!(decide (x1.params=x2.params)))||(!(decide (x1.lent=x2.lent))))||(x1.result != x2.result))||(x1.regs != x2.regs))||((x1.code.length:Int) != (x2.code.length:Int))))] (fun gz=>gz) ?_ ?_
     ·refine Z0 1 (ib (b:=((((!(decide (x1.params=x2.params)))||(!(decide (x1.lent=x2.lent))))||(x1.result != x2.result))||(x1.regs != x2.regs))) 69 (fun ZC=>?_) (fun ZC=>?_))
      ·have YR:(((¬(x1.params=x2.params))∨(¬(x1.lent=x2.lent)))∨(x1.result≠x2.result))∨(x1.regs≠x2.regs):=((ZO (ZO (ZO (Yh dq) (Yh dq)) Yp) Yp)).1 ZC
       exact Z1 (Zv 4 (Zl true ZC fl))
      have YV:¬((((¬(x1.params=x2.params))∨(¬(x1.lent=x2.lent)))∨(x1.result≠x2.result))∨(x1.regs≠x2.regs)):=Y7 (ZO (ZO (ZO (Yh dq) (Yh dq)) Yp) Yp) ZC
      exact Zz 2 [1] (iw (T8 x1.code) (Zz 2 [0] (iw (T8 x2.code) (Z1 (Zv 4 (Zl ((x1.code.length:Int) != (x2.code.length:Int)) ZC fl))))))
     refine ac (((((!(decide (x1.params=x2.params)))||(!(decide (x1.lent=x2.lent))))||(x1.result != x2.result))||(x1.regs != x2.regs))||((x1.code.length:Int) != (x2.code.length:Int))) (p:=((((¬(x1.params=x2.params))∨(¬(x1.lent=x2.lent)))∨(x1.result≠x2.result))∨(x1.regs≠x2.regs))∨((x1.code.length:Int)≠(x2.code.length:Int))) (ZO (ZO (ZO (ZO (Yh dq) (Yh dq)) Yp) Yp) Yp) (fun ZA=>?_) (fun ZA=>?_)
     ·exact ar (Zm (ZM (.b false) (lb (decide_eq_false (fun z=>Dg Z3 Zu (fun w=>by rw [w] at ZA;simp at ZA) (Yl YA.procs z))).symm)))
     simp only [not_or,ne_eq,VP,decide_eq_true_eq] at ZA
     obtain ⟨⟨⟨⟨hw1,hw2⟩,hw3⟩,hw4⟩,hw5⟩:=ZA
     refine ak (Y1 (ab 2 (Y0 (fun fz gz m F h=>∃(j:Nat),(j<=x1.code.length)/\(∀i,i<j->x1.code[i]? = x2.code[i]?)/\F=sF [2,3,5,6,7] fz [(8,.i j)]/\h=gz/\m=x1.code.length-j) _ _ _ ⟨0,ob,HY,rfl,rfl,rfl⟩ (Zv 4 (Ya fl)) ?_)))
     rintro m F h ⟨j,VA,Xs,rfl,rfl,rfl⟩
     refine Ys 3 [1] (iw (T8 x1.code) (Y2 ((j:Int)<(x1.code.length:Int)) (fun Yi=>?_) (fun Yi=>?_)))
     ·refine ak (aq (ab 3 (aD 12 (ZW 9 12 [0,1,2] [1] ?_))))
      obtain ⟨x3,YP⟩:=Zt x1.code j om
      have hs1:=hm1.sz _ (Y3 YP)
      refine dx 3 (Zh none (j:Int) 6 (Qw YP)) (ZW 4 8 [4,5,6,7] [0] ?_)
      obtain ⟨x4,WR⟩:=Zt x2.code j om
      have hs2:=hm2.sz _ (Y3 WR)
      refine dx 8 (Zh none (j:Int) 6 (Qw WR)) (Zp 2 3 [9] (Z7 10 (YH 10 [] [] [] (Zbb x3 x4) (Zp 0 1 [11] (de (ac (!(decide (x3=x4))) (p:=¬(x3=x4)) (Yh dq) (fun YG=>?_) (fun YG=>?_)))))))
      ·exact ar (Zm (ZM (.b false) (lb (decide_eq_false (fun z=>Dg Z3 Zu (fun w=>Dg YP WR (by assumption) (Yl ZT.code w)) (Yl YA.procs z))).symm)))
      exact ak (az (Z0 1 (ZD j (Z1 (ZF ⟨j+1,ob,(HZ Xs YP WR (VP.1 (by assumption))),rfl,rfl,rfl⟩ (Zv 4 (ZI j fl)))))))
     have hCE:=Gs (xs:=x1.code) (ys:=x2.code) om (fun i hi=>Xs i om)
     exact ax 2 (az (Z0 1 (ZD k (Z1 (ZF ⟨k+1,ob,(HZ Zf Z3 Zu (ZT.ext5 hw1 hw2 hw3 hw4 hCE)),rfl,rfl,rfl⟩ (wk [2,2] (ZI k fl)))))))
    refine Z0 1 (ib (b:=(((!(decide (x1.params=x2.params)))||(!(decide (x1.lent=x2.lent))))||(x1.result != x2.result))) 62 (fun Yn=>?_) (fun Yn=>?_))
    ·have Xc:((¬(x1.params=x2.params))∨(¬(x1.lent=x2.lent)))∨(x1.result≠x2.result):=((ZO (ZO (Yh dq) (Yh dq)) Yp)).1 Yn
     exact Z0 6 (Y5 (Zv 4 (Zl true Yn fl)) hj3)
    have XK:¬(((¬(x1.params=x2.params))∨(¬(x1.lent=x2.lent)))∨(x1.result≠x2.result)):=Y7 (ZO (ZO (Yh dq) (Yh dq)) Yp) Yn
    exact Zz 6 [1,0] (Y5 (Zv 4 (Zl (x1.regs != x2.regs) Yn fl)) hj3)
   refine Z0 1 (ib (b:=((!(decide (x1.params=x2.params)))||(!(decide (x1.lent=x2.lent))))) 55 (fun X1=>?_) (fun X1=>?_))
   ·have Wc:(¬(x1.params=x2.params))∨(¬(x1.lent=x2.lent)):=((ZO (Yh dq) (Yh dq))).1 X1
    exact Z0 6 (Y5 (Zv 4 (Zl true X1 fl)) hj2)
   have WF:¬((¬(x1.params=x2.params))∨(¬(x1.lent=x2.lent))):=Y7 (ZO (Yh dq) (Yh dq)) X1
   exact Zz 6 [1,0] (Y5 (Zv 4 (Zl (x1.result != x2.result) X1 fl)) hj2)
  refine Z0 2 (ib (b:=(!(decide (x1.params=x2.params)))) 47 (fun XF=>?_) (fun XF=>?_))
  ·have V1:¬(x1.params=x2.params):=((Yh dq)).1 XF
   exact Z0 7 (Y5 (Zv 4 (Zl true XF fl)) hj1)
  have Ue:¬(¬(x1.params=x2.params)):=Y7 (Yh dq) XF
  exact Zz 4 [1,0] (Zw [] (CK x1.lent x2.lent) (Z0 2 (Y5 (Zv 4 (Zl (!(decide (x1.lent=x2.lent))) XF fl)) hj1)))
 exact ax 0 (ar (Zm (ZM (.b true) (lb (decide_eq_true (YA.ext2 hq1 (Gs om (fun i hi=>Zf i om)))).symm))))
open Go.Proofs
open Go.Proofs
open Go.Proofs
end Go.Abs
