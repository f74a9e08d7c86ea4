/-
  A part of the proofs of several laws (see the last file): no condition.
-/
import Derived.Test.YtabmbhgiodcppaaGreatXaD
set_option linter.all false
set_option linter.unusedVariables false
set_option linter.unusedSimpArgs false
set_option linter.unusedSectionVars false
set_option maxRecDepth 10000
set_option maxHeartbeats 4000000
namespace Go.Abs
open Go.Proofs
theorem Zc9 (b:Z7) (hz:b.sz<=1000000000:=by exact ob):Zo 171 [Yh b] [] (Yy (.i (((XJ b.steps):Nat):Int))):=by
 have hbz:=Uk b
 refine ZG 20 Tryz.func171 (ar (iA (XR b) fun b1=>?_))
 refine Z2 (Y7 (aq (ab 0 (Y3 (fun fz gz m F h=>∃(k:Nat),(k<=b.steps.length)/\(k+XJ (b.steps.drop k)=XJ b.steps)/\F=sF [1] fz [(3,.i k)]/\h=gz/\m=b.steps.length-k) _ _ _ ⟨0,ob,(by simp),rfl,rfl,rfl⟩ (wk [0] (Yd fl)) ?_))))
 rintro m F h ⟨k,Yk,Zh,rfl,rfl,rfl⟩
 refine Yr 3 [0] (iw (Up b.steps) (Z0 2 (ib (b:=(decide ((k:Int)<(b.steps.length:Int)))) 9 (fun Zc=>?_) (fun Zc=>?_))))
 ·have Y6:(k:Int)<(b.steps.length:Int):=(dq).1 Zc
  refine ZA 3 [0] ?_
  obtain ⟨x1,Z4⟩:=Zv b.steps k om
  refine Zp (Zj none (k:Int) 5 (WV Z4)) (Z0 1 (Zu [] (RI x1) (YC ((x1.op==14)||(x1.op==15)) (p:=(x1.op=14)∨(x1.op=15)) (ZY Zf Zf) (fun Z9=>?_) (fun Z9=>?_))))
  ·exact ak (ab 1 (az (Z0 1 (ZE k (Z2 (ZJ ⟨k+1,ob,(Zar Z4 Z9 Zh),rfl,rfl,rfl⟩ (wk [0] (ZO k fl))))))))
  exact ax 0 (ar (Zm (ZW (.i k) (li (by have:=Zas Z4 Z9 Zh;omega)))))
 have Yt:¬((k:Int)<(b.steps.length:Int)):=Y8 dq Zc
 exact Z2 (Vt (ax 0 (ar (Zm (ZW (.i k) (li (by have:=Zaq om Zh;omega)))))))
theorem RB (b:Z7) (mm:Nat) (op:Int) (hm:mm<=b.steps.length:=by exact ob) (ha:∀s∈b.steps.take mm,s.op=op->∃a,s.args=[a]) (hz:b.sz<=1000000000:=by exact ob):Zo 172 [Yh b,.i mm,.i op] [] (fun r h=>∃(v:Value),r=ZV (Wj op (b.steps.take mm)) v/\h=[.tail v 1]):=by
 have hbz:=Uk b
 refine ZG 35 Tryz.func172 (ar (iA (XR b) fun b1=>Z2 (ar (iL (Z6 []) 0 1 fun v1=>?_))))
 refine Z2 (Y0 (ab 0 (Y3 (fun fz gz m F h=>∃(k:Nat) (acc:LI) (v:Value),(k<=mm)/\(acc.length<=k)/\(acc++Wj op ((b.steps.take mm).drop k)=Wj op (b.steps.take mm))/\F=sF [1,2,3] fz [(7,ZV acc v),(8,.i k)]/\h=[Zg gz 1,.tail v 1]/\m=mm-k) _ _ _ ⟨0,[],v1,ob,ob,(by simp),rfl,rfl,rfl⟩ (wk [1,0] (fr (Yd fl))) ?_)))
 rintro m F h ⟨k,acc,v,Yk,Zh,Zy,rfl,rfl,rfl⟩
 refine Xd (ZZ ((k:Int)<(mm:Int)) (fun Z9=>?_) (fun Z9=>?_))
 ·refine ak (aq (ab 1 (Zq 3 [0] ?_)))
  obtain ⟨x1,Z4⟩:=Zv b.steps k om
  have hxt:(b.steps.take mm)[k]? = some x1:=by rw [List.getElem?_take_of_lt om];exact Z4
  have hxm:=Y2 hxt
  refine Zp (Zj none (k:Int) 5 (WV Z4)) (YC (x1.op==op) Zf (fun Zi=>?_) (fun Zi=>?_))
  ·refine az (ZA 4 [0] (Zp (Zj none (k:Int) 5 (WV Z4)) (Z0 2 ?_)))
   obtain ⟨x2,Zx⟩:=Zv x1.args 0 (by obtain ⟨a,ha2⟩:=ha x1 hxm Zi;rw [ha2];simp)
   have hg0:=K3 Zx
   exact Zp (Zj none 0 1 (Y5 Zx)) (Z0 1 (iL (Z6 [x2]) 1 1 fun v2=>ZM 0 [(32,Z3 [x2])] (ip 2 (Z6 (acc++[x2])) (Z6 acc) (Z6 [x2]) v none 1 (YG _) (YG _) (W4 _) (by simp<;>omega) (by simp [W3,Z6]) fun v3=>Z2 (az (Z0 1 (ZE k (Z2 (ZJ ⟨k+1,(acc++[x2]),v3,ob,(by simp;omega),(by have h:=Z0i hxt Zi Zy;rw [hg0] at h;exact h),rfl,rfl,rfl⟩ (wk [2,0] (fr (ZO k fl)))))))))))
  exact ak (az (Z0 1 (ZE k (Z2 (ZJ ⟨k+1,acc,v,ob,ob,(Z0h hxt Zi Zy),rfl,rfl,rfl⟩ (wk [0,0] (fr (ZO k fl))))))))
 exact ax 0 (ar (Zm (r2 [1] [ZV acc v] ⟨v,rfl,rfl⟩ (Zd.slh _ (Yp Z6 (Z0g (by rw [Wd];omega) Zy))))))
theorem RW (xs:LI) (y:Int) (hl:xs.length<=1000000000:=by exact ob):Zo 173 [Z3 xs,.i y] [] (fun r h=>∃(v:Value),r=ZV (xs.erase y) v/\h=[.tail v 1]):=by
 refine ZG 33 Tryz.func173 (Y7 (ar (iL (Z6 []) 0 1 fun v1=>?_)))
 refine Z2 (Y7 (Y0 (ab 0 (Y3 (fun fz gz m F h=>∃(k:Nat) (acc:LI) (d:Bool) (v:Value),(k<=xs.length)/\(acc.length<=k)/\(acc++(if d=true then xs.drop k else (xs.drop k).erase y)=xs.erase y)/\F=sF [0,1] fz [(5,ZV acc v),(6,.b d),(7,.i k)]/\h=[.tail v 1]/\m=xs.length-k) _ _ _ ⟨0,[],false,v1,ob,ob,(by simp),rfl,rfl,rfl⟩ (wk [0] (fw (Yd fl))) ?_))))
 rintro m F h ⟨k,acc,d,v,Yk,Zh,Zy,rfl,rfl,rfl⟩
 refine YQ 2 (iw (Yc xs) (ZZ ((k:Int)<(xs.length:Int)) (fun Z9=>?_) (fun Z9=>?_)))
 ·refine ak (aq (ab 1 (Yf 2 ?_)))
  obtain ⟨x1,Z4⟩:=Zv xs k om
  refine Zp (Zj none (k:Int) 1 (Y5 Z4)) (Xp [0,1,5,6,7] [(24,.b ((x1==y)&&(!d)))] (fun gz=>gz) ?_ ?_)
  ·refine Z0 4 (ib (b:=(x1==y)) 21 (fun Zc=>?_) (fun Zc=>?_))
   ·exact Z2 (wk [0] (Zl (!d) Zc fl))
   exact Z2 (wk [0] (Zl false Zc fl))
  refine Ae (fun fz gz F h=>∃(w:Value),F=sF [0,1,7] fz [(5,ZV (if (x1=y)/\(¬(d=true)) then acc else (acc++[x1])) w),(6,.b (((x1==y)&&(!d))||d))]/\h=[.tail w 1]) (fun _ _=>rfl) ?_ ?_
  ·refine ac ((x1==y)&&(!d)) (p:=(x1=y)/\(¬(d=true))) (YI Zf (Ys Iff.rfl)) (fun Zi=>?_) (fun Zi=>?_)
   ·exact Vi (ZD ⟨v,rfl,rfl⟩ (wk [0] (fc (x:=ZV acc v) (Zd.slh _ (Yp Z6 (by first|rfl|(rw [Zk Zi])|(rw [Za Zi])|(simp [Zi];done)|(rw [Y9];simp [Zi];done)|omega))) (fc (x:=.b true) (lb (by first|rfl|(rw [Zk Zi])|(rw [Za Zi])|(simp [Zi];done)|(rw [Y9];simp [Zi];done)|omega)) fl))))
   exact az (Z0 3 (Zp (Zj none (k:Int) 1 (Y5 Z4)) (Z0 1 (iL (Z6 [x1]) 1 1 fun v2=>ZM 0 [(30,Z3 [x1])] (ip 1 (Z6 (acc++[x1])) (Z6 acc) (Z6 [x1]) v none 1 (YG _) (YG _) (W4 _) (by simp<;>omega) (by simp [W3,Z6]) fun v3=>Z2 (ZD ⟨v3,rfl,rfl⟩ (wk [0] (fc (x:=ZV (acc++[x1]) v3) (Zd.slh _ (Yp Z6 (by first|rfl|(rw [Zk Zi])|(rw [Za Zi])|(simp [Zi];done)|(rw [Y9];simp [Zi];done)|omega))) (fc (x:=.b d) (lb (by cases d<;>simp_all)) fl)))))))))
  rintro F h ⟨w,rfl,rfl⟩
  exact az (Z0 1 (ZE k (Z2 (ZJ ⟨k+1,(if (x1=y)/\(¬(d=true)) then acc else (acc++[x1])),(((x1==y)&&(!d))||d),w,ob,(by split<;>(try simp)<;>omega),(Z2w Z4 Zy),rfl,rfl,rfl⟩ (wk [0] (fw (ZO k fl)))))))
 exact ax 0 (ar (Zm (r2 [0] [ZV acc v] ⟨v,rfl,rfl⟩ (Zd.slh _ (Yp Z6 (Z2v om Zy))))))
theorem Zc0 (b:Z7) (x:Int) (fs:LI) (q:Nat) (ha:∀s∈b.steps,YK s.op=true->∃a,s.args=[a]) (hf:fs.length<=3:=by exact ob) (hq:q<=1000000000:=by exact ob) (hz:b.sz<=900000000:=by exact ob):Zo 147 [Yh b,.i x,Z3 fs,.i q] [] (Yy (Yh (QV b x fs q))):=by
 have hbz:=Uk b
 have hrl:=Gp b.steps
 have hal:=Hh (b.steps.take (XJ b.steps))
 rw [Wd] at hal
 have her:=List.length_erase_le (a:=x) (l:=Wj 15 (b.steps.take (XJ b.steps)))
 have har:∀op:Int,YK op=true->∀s∈b.steps.take (XJ b.steps),s.op=op->∃a,s.args=[a]:=fun op ho s hs e=>ha s (Qo hs) (by rw [e];exact ho)
 refine ZG 88 Tryz.func147 (ar (iA (XR b) fun b1=>iA [nl,.i 0] fun b2=>ie (Zq 1 [1] (Zu [] (Zc9 b) (Z2 (Zq 2 [1] (ic [] (RB b (XJ b.steps) 14 (ha:=(har _ rfl))) ?_)))))))
 rintro _ _ ⟨v1,rfl,rfl⟩
 refine Z2 (Zq 2 [2] (ic [] (RB b (XJ b.steps) 15 (ha:=(har _ rfl))) ?_))
 rintro _ _ ⟨v2,rfl,rfl⟩
 refine Z2 (Xd (ZM 2 [(22,Z3 (Wj 15 (b.steps.take (XJ b.steps))))] (Zu [] (Uz (Wj 15 (b.steps.take (XJ b.steps))) x) (Xp [1,2,3,4,8,9,10,11] [(30,.b ((!(decide (x∈(Wj 15 (b.steps.take (XJ b.steps))))))||((fs.length:Int)==0)))] (fun gz=>gz) ?_ ?_))))
 ·refine Z0 2 (ib (b:=(!(decide (x∈(Wj 15 (b.steps.take (XJ b.steps))))))) 26 (fun Zc=>?_) (fun Zc=>?_))
  ·exact Z2 (Zw 4 (Zl true Zc fl))
  exact Z0 1 (iw (Yc fs) (Z2 (Zw 4 (Zl ((fs.length:Int)==0) Zc fl))))
 refine ac ((!(decide (x∈(Wj 15 (b.steps.take (XJ b.steps))))))||((fs.length:Int)==0)) (p:=(¬(x∈(Wj 15 (b.steps.take (XJ b.steps)))))∨((fs.length:Int)=0)) (ZY (Ys dq) Zf) (fun Z9=>?_) (fun Z9=>?_)
 ·exact Zq 1 [3] (Zz 2 b2 (XR b) (ie (ZT (r3 [] [Yh b] [0] [(b2,b2)] ⟨rfl,rfl⟩ (Zd.agg (.cons (Zd.sl _ (Yp ZL (Z07 (fun z=>Z9.elim (fun e=>e z.1) (fun e=>z.2 om))).symm)) (.cons li .nil)))))))
 refine ak (ar (ZM 2 [(32,Z3 (Wj 15 (b.steps.take (XJ b.steps))))] (ic [] (RW (Wj 15 (b.steps.take (XJ b.steps))) x) ?_)))
 rintro _ _ ⟨v3,rfl,rfl⟩
 refine Z2 (Y0 (ab 0 (Y3 (fun fz gz m F h=>∃(k:Nat) (D:LI) (R:LI) (v:Value),(k<=fs.length)/\(D.length<=b.steps.length)/\(R.length<=b.steps.length+k)/\(Ub (fs.drop k) (q+k) D R=KG b.steps x fs q)/\F=sF [1,2,3,4,8,9] fz [(10,Z3 D),(11,ZV R v),(12,.i k)]/\h=[Zg gz 3,Zg gz 4,.tail v 1]/\m=fs.length-k) _ _ _ ⟨0,(Wj 14 (b.steps.take (XJ b.steps))),((Wj 15 (b.steps.take (XJ b.steps))).erase x),v3,ob,om,om,(by simp [KG]),rfl,rfl,rfl⟩ (wk [3,3,0] (fc (x:=ZV (Wj 14 (b.steps.take (XJ b.steps))) v1) (Zd.forget _ _) (fr (Yd fl)))) ?_)))
 rintro m F h ⟨k,D,R,v,Yk,Zh,Zy,YJ,rfl,rfl,rfl⟩
 refine YQ 2 (iw (Yc fs) (ZZ ((k:Int)<(fs.length:Int)) (fun Zi=>?_) (fun Zi=>?_)))
 ·refine ak (aq (ab 1 (Yf 2 ?_)))
  obtain ⟨x1,Z4⟩:=Zv fs k om
  refine Zp (Zj none (k:Int) 1 (Y5 Z4)) (Xp [1,2,3,4,8,9,10,11,12] [(52,.b ((x1 != 0)&&(decide (((q+k:Nat):Int)∈D))))] (fun gz=>gz) ?_ ?_)
  ·refine Z0 3 (ib (b:=(x1 != 0)) 46 (fun ZF=>?_) (fun ZF=>?_))
   ·exact Z0 3 (ia (((q+k:Nat):Int)) (((q:Int))+((k:Int))) (Zu [] (Uz D ((q+k:Nat):Int)) (Z2 (Zw 3 (Zl (decide (((q+k:Nat):Int)∈D)) ZF fl)))))
   exact Z2 (Zw 3 (Zl false ZF fl))
  refine Ae (fun fz gz F h=>∃(D2:LI) (R2:LI) (w:Value),(Ub (fs.drop (k+1)) (q+((k+1:Nat):Int)) D2 R2=KG b.steps x fs q)/\(D2.length<=b.steps.length)/\(R2.length<=b.steps.length+(k+1))/\F=sF [1,2,3,4,8,9,12] fz [(10,Z3 D2),(11,ZV R2 w)]/\h=[Zg gz 0,Zg gz 1,.tail w 1]) (fun _ _=>rfl) ?_ ?_
  ·refine ac ((x1 != 0)&&(decide (((q+k:Nat):Int)∈D))) (p:=(x1≠0)/\(((q+k:Nat):Int)∈D)) (YI Yv dq) (fun ZB=>?_) (fun ZB=>?_)
   ·refine az (Z0 3 (ia (((q+k:Nat):Int)) (((q:Int))+((k:Int))) (ic [] (RW D ((q+k:Nat):Int)) ?_)))
    rintro _ _ ⟨v4,rfl,rfl⟩
    exact Z2 (ZD ⟨(D.erase ((q+k:Nat):Int)),R,v,(Z9e Z4 ZB.1 ZB.2 YJ),(V3 List.length_erase_le Zh),ob,rfl,rfl⟩ (wk [1,1,1] fl))
   refine Yf 2 (Zp (Zj none (k:Int) 1 (Y5 Z4)) (YC (x1 != 0) Yv (fun Ye=>?_) (fun Ye=>?_)))
   ·exact az (Z0 3 (ia (((q+k:Nat):Int)) (((q:Int))+((k:Int))) (iL (Z6 [((q+k:Nat):Int)]) 1 1 fun v5=>ZM 0 [(67,Z3 [((q+k:Nat):Int)])] (ip 3 (Z6 (R++[((q+k:Nat):Int)])) (Z6 R) (Z6 [((q+k:Nat):Int)]) v none 1 (YG _) (YG _) (W4 _) (by simp<;>omega) (by simp [W3,Z6]) fun v6=>Z2 (ZD ⟨D,(R++[((q+k:Nat):Int)]),v6,(Z9f Z4 Ye (fun z=>ZB ⟨Ye,z⟩) YJ),ob,(by simp;omega),rfl,rfl⟩ (wk [2,2,0] fl))))))
   exact ak (ZD ⟨D,R,v,(Z9g Z4 Ye YJ),ob,ob,rfl,rfl⟩ (Zw 3 fl))
  rintro F h ⟨D2,R2,w,Eb,Iy,D7,rfl,rfl⟩
  exact az (Z0 1 (ZE k (Z2 (ZJ ⟨k+1,D2,R2,w,ob,ob,ob,ob,rfl,rfl,rfl⟩ (Zw 3 (fw (ZO k fl)))))))
 refine ax 0 (Yf 1 (ic [] (Kf 14 D) ?_))
 rintro _ _ ⟨v7,rfl,rfl⟩
 refine Z0 1 (Zu [] (Br 16 x) (iL [X0 (Zt 16 x)] 1 5 fun v8=>ZM 0 [(73,.sl [X0 (Zt 16 x)] none)] (ip 1 (ZL ((D.map (Zt 14))++[Zt 16 x])) (ZL (D.map (Zt 14))) [X0 (Zt 16 x)] v7 none 5 (XC _) (KC rfl) rfl (by simp<;>omega) (by simp [Vg,VQ]) fun v9=>Z2 (ar (ZM 2 [(76,Z3 R)] (ic [] (Kf 15 R) ?_))))))
 rintro _ _ ⟨v10,rfl,rfl⟩
 refine ZM 0 [(77,Vb (R.map (Zt 15)))] (ip 1 (ZL (((D.map (Zt 14))++[Zt 16 x])++(R.map (Zt 15)))) (ZL ((D.map (Zt 14))++[Zt 16 x])) (ZL (R.map (Zt 15))) v9 none 5 (XC _) (XC _) (Ua _) (by simp<;>omega) (by simp [Vg,ZL]) fun v11=>Z2 (aD 10 (ZU 6 10 [0,1,2,3] [4] (dx 4 (AH (es:=ZL b.steps) (hv:=none) (l:=(((XJ b.steps):Nat):Int)) (m:=(((ZL b.steps).length:Nat):Int)) (sz:=5) (es':=ZL (b.steps.drop (XJ b.steps))) kr om (by simp<;>omega) (by simp<;>omega) (XC _) (by first|(simp only [Tj,Uf,Ak,Aj];done)|(simp only [Tj,Uf,Ak,Aj];rfl)|(simp [Ak,Aj];done))) (ZU 3 5 [6,7] [4] (Z8 5 (dp 5 0 [1] [b1] (ZL ((((D.map (Zt 14))++[Zt 16 x])++(R.map (Zt 15)))++(b.steps.drop (XJ b.steps)))) (ZL (((D.map (Zt 14))++[Zt 16 x])++(R.map (Zt 15)))) (ZL (b.steps.drop (XJ b.steps))) v11 none 5 (XC _) (XC _) (Ua _) (by simp<;>omega) (by simp [Vg,ZL]) fun v12=>Zs 1 2 [8] (Z8 9 (YZ 9 3 [] [] b2 [Xc ((((D.map (Zt 14))++[Zt 16 x])++(R.map (Zt 15)))++(b.steps.drop (XJ b.steps))) v12,.i b.result] (de ?_))))))))))
 have hE:=Z09 (T5.1 fun z=>Z9 (.inl z)) (fun z=>Z9 (.inr om)) (Z9d om YJ)
 exact ZT (r3 [] [.agg [Xc ((((D.map (Zt 14))++[Zt 16 x])++(R.map (Zt 15)))++(b.steps.drop (XJ b.steps))) v12,.i b.result]] [0] [(b2,b2)] ⟨rfl,rfl⟩ (Zd.agg (.cons (Zd.sl _ (Yp ZL hE)) (.cons li .nil))))
theorem Zce (n:ZC) (b:Z7) (mm:Nat) (hn:Xr n) (hw:wB n.decls b) (hb:mm+9*b.sz<=900000000) (ih:∀(b2:Z7) (m2:Nat),(wB n.decls b2)->(m2+9*b2.sz<=900000000)->(b2.sz<b.sz)->Zo 121 [YB n,Yh b2,.i m2] [] (Yy (Yh (WH n.decls m2 b2)))):Zo 121 [YB n,Yh b,.i mm] [] (Yy (Yh (WH n.decls mm b))):=by
 have Xl:=hn.decls
 have hbz:=Uk b
 have ZI:=(KR b).1 hw
 refine ZG 107 Tryz.func121 (ar (iA (X4 n) fun b1=>iA (XR b) fun b2=>iA [nl,.i 0] fun b3=>ie (ar (iL (ZL []) 0 5 fun v1=>ZA 3 [2] (iA [nl,.i 0] fun b4=>?_)))))
 refine Zz 0 b4 [Xc [] v1,.i b.result] (ie (Y0 (ab 0 (Y3 (fun fz gz m F h=>∃(k:Nat) (q:Nat) (xs:List Z5) (v:Value),(k<=b.steps.length)/\(q<=mm+k)/\(xs.length=k)/\(xs++VH n.decls q (b.steps.drop k)=VH n.decls mm b.steps)/\F=sF [3,4,6,7] fz [(2,.i q),(8,.i k)]/\h=[.obj b4 [Xc xs v,.i b.result],Zg gz 2,Zg gz 3,Zg gz 4,.tail v 5]/\m=b.steps.length-k) _ _ _ ⟨0,mm,[],v1,ob,ob,ob,rfl,rfl,rfl,rfl⟩ (wk [0,1,1,1,0] (fr (Yd fl))) ?_))))
 rintro m F h ⟨k,q,xs,v,Yk,Zh,Zy,YJ,rfl,rfl,rfl⟩
 refine Yr 3 [2] (iw (Up b.steps) (ZZ ((k:Int)<(b.steps.length:Int)) (fun Z9=>?_) (fun Z9=>?_)))
 ·refine ak (aq (ab 1 (Zq 3 [2] ?_)))
  obtain ⟨x1,Z4⟩:=Zv b.steps k om
  have XL:=Cm Z4
  have hws:=Sq hw Z4
  have hkz:=QC x1
  have haz:=KX x1
  have hdf:=Ze9 hws
  refine Zp (Zj none (k:Int) 5 (WV Z4)) (Z0 1 (iA [.i 0,.i 0,.i 0,nl,nl] fun b5=>Zz 0 b5 (W8 x1) (ie (ar (iL (XM []) 0 2 fun v2=>Z2 (Zq 4 [5,1] (ic [] (KL n.decls x1.num) ?_)))))))
  rintro _ _ ⟨v3,rfl,rfl⟩
  refine Z2 (Y0 (ab 2 (Y3 (fun fz gz m F h=>∃(j:Nat) (u:Value) (ks:List Z7),(j<=x1.kids.length)/\(ks.length=j)/\(ks++Uy n.decls q x1.op x1.num x1.args (x1.kids.drop j) j=Uy n.decls q x1.op x1.num x1.args x1.kids 0)/\F=sF [2,3,4,6,7,8,9,11] fz [(10,Q2 ks u),(12,.i j)]/\h=[Zg gz 2,Zg gz 3,Zg gz 4,Zg gz 5,Zg gz 6,.tail u 2,Zg gz 7,Zg gz 0]/\m=x1.kids.length-j) _ _ _ ⟨0,v2,[],ob,ob,(by simp),rfl,rfl,rfl⟩ (wk [2,2,2,2,2,1,1,0] (fr (Yd fl))) ?_)))
  rintro m F h ⟨j,u,ks,U7,Wb,XV,rfl,rfl,rfl⟩
  refine Yr 3 [0] (iw (QZ x1.kids) (ZZ ((j:Int)<(x1.kids.length:Int)) (fun Zi=>?_) (fun Zi=>?_)))
  ·refine ak (aq (ab 3 (Qb [0] (ac (x1.op==8) Zf (fun ZB=>?_) (fun ZB=>?_)))))
   ·refine aD 8 (ZU 4 8 [0,1,2,3] [4] ?_)
    obtain ⟨x2,Zx⟩:=Zv (ZQ n.decls x1.num) j (by have h:=(EI hws (by assumption)).2;omega)
    have hfk:Wu n.decls x1.num j=ZK n.decls x2:=HY (by rw [Kj,Zx];rfl)
    have hcf:=V5 Xl x2
    refine dx 4 (Zj (some v3) (j:Int) 1 (Y5 Zx)) (Zs 2 3 [5] (Z8 6 (YH 6 [] [] [] (Q3 n.decls x2) (Zs 0 1 [7] (de (aE 22 (ZU 17 22 [0,1,2,3,4] [4,0] ?_)))))))
    obtain ⟨x3,YU⟩:=Zv x1.kids j om
    have hkb:=YU
    have hks:=Q0 YU
    have hwk:=LU hws YU
    have hpk:=Z7.pz_le x3
    refine dx 5 (Zj none (j:Int) 2 (UE YU)) (Zs 13 16 [6,7,8] (dn 9 (.i (((ZK n.decls x2).length:Nat):Int)) (.i (((Z6 (ZK n.decls x2)).length:Nat):Int)) (li (by rw [Yc])) (da 10 (((q+((ZK n.decls x2).length):Nat):Int)) (((q:Int))+((((ZK n.decls x2).length:Nat):Int))) (ZU 9 11 [12,13] [0] ?_))))
    obtain ⟨x4,Uu⟩:=Zv x1.args 0 (by obtain ⟨⟨a,ha2,_⟩,_⟩:=EI hws (by assumption);rw [ha2];simp)
    have hg1:=K3 Uu
    exact dx 14 (Zj none 0 1 (Y5 Uu)) (Zs 5 8 [15,16,17] (Z8 11 (YH 11 [] [0] [b5] (ih x3 (q+((ZK n.decls x2).length)) hwk ob ob) (Z8 18 (YH 18 [] [] [] (Zc0 (WH n.decls (q+((ZK n.decls x2).length)) x3) x4 (ZK n.decls x2) q (ha:=(by rw [Gw];exact Zbd ((KR _).1 hwk))) (hz:=(V3 (Gx Xl _ hwk) om))) (Z8 19 (dL 19 [] [] [Yh (QV (WH n.decls (q+((ZK n.decls x2).length)) x3) x4 (ZK n.decls x2) q)] 1 2 fun v4=>Yq 2 2 [] [(72,.sl [Yh (QV (WH n.decls (q+((ZK n.decls x2).length)) x3) x4 (ZK n.decls x2) q)] none)] (Z8 20 (dp 20 6 [] [] (XM (ks++[QV (WH n.decls (q+((ZK n.decls x2).length)) x3) x4 (ZK n.decls x2) q])) (XM ks) [Yh (QV (WH n.decls (q+((ZK n.decls x2).length)) x3) x4 (ZK n.decls x2) q)] u none 2 (Ks _) (KC rfl) rfl (by simp<;>omega) (by simp [BT,Qv]) fun v5=>Zs 0 1 [21] (de (az (Z0 1 (ZE j (Z2 (ZJ ⟨j+1,v5,(ks++[QV (WH n.decls (q+((ZK n.decls x2).length)) x3) x4 (ZK n.decls x2) q]),ob,(by simp;omega),(by have h:=Rv hkb XV;rw [Gy,Zk (by assumption),hfk,hg1] at h;exact h),rfl,rfl,rfl⟩ (wk [2,2,2,2,2,0,1,1] (fr (ZO j fl))))))))))))))))))
   refine aE 12 (ZU 7 12 [0,1,2,3,4] [4,0] ?_)
   obtain ⟨x5,Td⟩:=Zv x1.kids j om
   have hkb:=Td
   have hks:=Q0 Td
   have hwk:=LU hws Td
   have hpk:=Z7.pz_le x5
   exact dx 5 (Zj none (j:Int) 2 (UE Td)) (Zs 4 6 [6,7] (Z8 8 (YH 8 [] [] [] (ih x5 q hwk ob ob) (Z8 9 (dL 9 [] [] [Yh (WH n.decls q x5)] 1 2 fun v6=>Yq 2 2 [] [(83,.sl [Yh (WH n.decls q x5)] none)] (Z8 10 (dp 10 6 [] [] (XM (ks++[WH n.decls q x5])) (XM ks) [Yh (WH n.decls q x5)] u none 2 (Ks _) (KC rfl) rfl (by simp<;>omega) (by simp [BT,Qv]) fun v7=>Zs 0 1 [11] (de (az (Z0 1 (ZE j (Z2 (ZJ ⟨j+1,v7,(ks++[WH n.decls q x5]),ob,(by simp;omega),(by have h:=Rv hkb XV;rw [Gy,Za (by assumption)] at h;exact h),rfl,rfl,rfl⟩ (wk [2,2,2,2,2,0,1,1] (fr (ZO j fl))))))))))))))))
  have hK:=Zba om XV
  refine ax 2 (aD 17 (ZU 6 17 [0,1,2,3,4,5,6,7,8,9,11] [1,0,0,0,0] (Z8 10 (dc 10 [] [0,0,0,1] [b5,b5,b5,b4] (WI x1.args) ?_))))
  rintro _ _ ⟨v8,rfl,rfl⟩
  refine Yq 4 5 [12] [(97,.agg [.i x1.op,.i x1.num,.i x1.into,Z3 x1.args,Jh ks])] (Z8 13 (dL 13 [1] [b4] [X0 (Z5.mk x1.op x1.num x1.into x1.args ks)] 1 5 fun v9=>Yq 3 3 [] [(98,.sl [X0 (Z5.mk x1.op x1.num x1.into x1.args ks)] none)] (Z8 14 (dp 14 8 [] [] (ZL (xs++[Z5.mk x1.op x1.num x1.into x1.args ks])) (ZL xs) [X0 (Z5.mk x1.op x1.num x1.into x1.args ks)] v none 5 (XC _) (KC rfl) rfl (by simp<;>omega) (by simp [Vg,VQ]) fun v10=>?_))))
  refine Zs 1 2 [15] (Z8 16 (YZ 16 4 [] [] b4 [Xc (xs++[Z5.mk x1.op x1.num x1.into x1.args ks]) v10,.i b.result] (de (Zq 2 [4] (Zu [] (QP x1.op) (ie (Ae (fun fz gz F h=>F=sF [3,4,6,7,8] fz [(2,.i (((if YK x1.op=true then q else q+1):Nat):Int))]/\h=[Zg gz 0,Zg gz 5,Zg gz 6,Zg gz 7,Zg gz 1]) (fun _ _=>rfl) ?_ ?_)))))))
  ·refine ac (Xa x1.op) Iff.rfl (fun Ye=>?_) (fun Ye=>?_)
   ·exact az (Z0 1 (ZE q (Z2 (ZD ⟨rfl,rfl⟩ (wk [0,4,4,4,0] (fc (x:=.i (q+1:Nat)) (li (by rw [Za (fun z=>by rw [hdf,z] at Ye;cases Ye)])) fl))))))
   exact ak (ZD ⟨rfl,rfl⟩ (wk [0,4,4,4,0] (fc (x:=.i q) (li (by rw [Zk (Bv fun z=>Ye (by rw [hdf,Q5.2 z];rfl))])) fl)))
  rintro F h ⟨rfl,rfl⟩
  exact az (Z0 1 (ZE k (Z2 (ZJ ⟨k+1,(if YK x1.op=true then q else q+1),(xs++[Z5.mk x1.op x1.num x1.into x1.args ks]),v10,ob,(by split<;>omega),(by simp;omega),(by have h:=Zbf Z4 YJ;rw [<-hK] at h;exact h),rfl,rfl,rfl⟩ (Zw 5 (fr (ZO k fl)))))))
 exact ax 0 (Zq 1 [0] (Zz 1 b3 [Xc xs v,.i b.result] (ie (ZT (r3 [] [.agg [Xc xs v,.i b.result]] [0] [(b3,b3)] ⟨rfl,rfl⟩ (Zd.agg (.cons (Zd.sl _ (Yp ZL (by rw [Gw];exact Zbe om YJ))) (.cons (li (by rw [Gw];rfl)) .nil))))))))
theorem Zcc (n:ZC) (hn:Xr n) (k:Nat):∀(b2:Z7) (m2:Nat),(wB n.decls b2)->(m2+9*b2.sz<=900000000)->(b2.sz<k)->Zo 121 [YB n,Yh b2,.i m2] [] (Yy (Yh (WH n.decls m2 b2))):=by
 induction k with
 | zero=>intro b mm _ _ h;omega
 | succ k ih=>intro b mm h1 h2 h3;exact Zce n b mm hn h1 h2 fun b2 m2 k1 k2 k3=>ih b2 m2 k1 k2 om
theorem Zcd (n:ZC) (b:Z7) (mm:Nat) (hn:Xr n:=by exact ob) (hw:wB n.decls b:=by exact ob) (hb:mm+9*b.sz<=900000000:=by exact ob):Zo 121 [YB n,Yh b,.i mm] [] (Yy (Yh (WH n.decls mm b))):=Zcc n hn (b.sz+1) b mm hw hb om
theorem Lx (b:Z7) (hz:b.sz<=1000000000:=by exact ob):Zo 175 [Yh b] [] (Yy (.i (((YV b.steps):Nat):Int))):=by
 have hbz:=Uk b
 refine ZG 21 Tryz.func175 (ar (iA (XR b) fun b1=>?_))
 refine Z2 (Y7 (aq (ab 0 (Y3 (fun fz gz m F h=>∃(k:Nat),(k<=b.steps.length)/\(k+YV (b.steps.drop k)=YV b.steps)/\F=sF [1] fz [(3,.i k)]/\h=gz/\m=b.steps.length-k) _ _ _ ⟨0,ob,(by simp),rfl,rfl,rfl⟩ (wk [0] (Yd fl)) ?_))))
 rintro m F h ⟨k,Yk,Zh,rfl,rfl,rfl⟩
 refine Yr 3 [0] (iw (Up b.steps) (Z0 2 (ib (b:=(decide ((k:Int)<(b.steps.length:Int)))) 9 (fun Zc=>?_) (fun Zc=>?_))))
 ·have Y6:(k:Int)<(b.steps.length:Int):=(dq).1 Zc
  refine ZA 3 [0] ?_
  obtain ⟨x1,Z4⟩:=Zv b.steps k om
  refine Zp (Zj none (k:Int) 5 (WV Z4)) (Z0 2 (Zu [] (RH x1.op) (YC (YK x1.op) Iff.rfl (fun Z9=>?_) (fun Z9=>?_))))
  ·exact ak (ab 1 (az (Z0 1 (ZE k (Z2 (ZJ ⟨k+1,ob,(Z80 Z4 Z9 Zh),rfl,rfl,rfl⟩ (wk [0] (ZO k fl))))))))
  exact ax 0 (ar (Zm (ZW (.i k) (li (by have:=Z81 Z4 Z9 Zh;omega)))))
 have Yt:¬((k:Int)<(b.steps.length:Int)):=Y8 dq Zc
 exact Z2 (Vt (ax 0 (ar (Zm (ZW (.i k) (li (by have:=Z7z om Zh;omega)))))))
theorem RP (b:Z7) (mm:Nat) (op:Int) (x:Int) (hm:mm<=b.steps.length:=by exact ob) (ha:∀s∈b.steps.take mm,s.op=op->∃a,s.args=[a]) (hz:b.sz<=1000000000:=by exact ob):Zo 176 [Yh b,.i mm,.i op,.i x] [] (Yy (.i (W2 op x (b.steps.take mm) 0))):=by
 have hbz:=Uk b
 refine ZG 36 Tryz.func176 (ar (iA (XR b) fun b1=>?_))
 refine Z2 (Y0 (ab 0 (Y3 (fun fz gz m F h=>∃(k:Nat),(k<=mm)/\(W2 op x ((b.steps.take mm).drop k) k=W2 op x (b.steps.take mm) 0)/\F=sF [1,2,3,4] fz [(9,.i k)]/\h=gz/\m=mm-k) _ _ _ ⟨0,ob,(by simp),rfl,rfl,rfl⟩ (wk [0] (Yd fl)) ?_)))
 rintro m F h ⟨k,Yk,Zh,rfl,rfl,rfl⟩
 refine Xd (ZZ ((k:Int)<(mm:Int)) (fun Z9=>?_) (fun Z9=>?_))
 ·refine ak (aq (ab 1 (Zq 3 [0] ?_)))
  obtain ⟨x1,Z4⟩:=Zv b.steps k om
  have hxt:(b.steps.take mm)[k]? = some x1:=by rw [List.getElem?_take_of_lt om];exact Z4
  have hxm:=Y2 hxt
  refine Zp (Zj none (k:Int) 5 (WV Z4)) (Z0 5 (ib (b:=(x1.op==op)) 23 (fun Zc=>?_) (fun Zc=>?_)))
  ·have Y6:x1.op=op:=(Zf).1 Zc
   refine ZA 3 [0] (Zp (Zj none (k:Int) 5 (WV Z4)) (Z0 2 ?_))
   obtain ⟨x2,Zx⟩:=Zv x1.args 0 (by obtain ⟨a,ha2⟩:=ha x1 hxm (by assumption);rw [ha2];simp)
   have hg0:=K3 Zx
   refine Zp (Zj none 0 1 (Y5 Zx)) (YC (x2==x) Zf (fun Zi=>?_) (fun Zi=>?_))
   ·exact ar (Zm (ZW (.i k) (li (by have h:=Z0q hxt ⟨by assumption,by rw [hg0];assumption⟩ Zh;omega))))
   exact ak (az (Z0 1 (ZE k (Z2 (ZJ ⟨k+1,ob,(Mj hxt (fun z=>Zi (by rw [<-hg0];exact z.2)) Zh),rfl,rfl,rfl⟩ (wk [0] (ZO k fl)))))))
  have Yt:¬(x1.op=op):=Y8 Zf Zc
  exact Z2 (Vt (ak (az (Z0 1 (ZE k (Z2 (ZJ ⟨k+1,ob,(Mj hxt (fun z=>absurd z.1 (by assumption)) Zh),rfl,rfl,rfl⟩ (wk [0] (ZO k fl)))))))))
 exact ax 0 (ar (Zm (ZW (.i (-1)) (li (by have h:=Z0p (by rw [Wd];omega) Zh;omega)))))
theorem Zbm (b:Z7) (frm0:Nat) (many:Nat) (hm:frm0<=b.steps.length:=by exact ob) (hz:b.sz<=1000000000:=by exact ob):Zo 209 [Yh b,.i frm0,.i many] [] (Yy (.i (Ws many (b.steps.drop frm0) frm0))):=by
 have hbz:=Uk b
 refine ZG 44 Tryz.func209 (ar (iA (XR b) fun b1=>?_))
 refine Z2 (Y0 (ab 0 (Y3 (fun fz gz m F h=>∃(k:Nat),(k<=b.steps.length)/\(Ws many (b.steps.drop k) k=Ws many (b.steps.drop frm0) frm0)/\F=sF [2,3] fz [(7,.i k)]/\h=gz/\m=b.steps.length-k) _ _ _ ⟨frm0,ob,rfl,rfl,rfl,rfl⟩ (wk [0] fl) ?_)))
 rintro m F h ⟨k,Yk,Zh,rfl,rfl,rfl⟩
 refine Yr 3 [0] (iw (Up b.steps) (ZZ ((k:Int)<(b.steps.length:Int)) (fun Z9=>?_) (fun Z9=>?_)))
 ·refine ak (aq (ab 1 (Zq 3 [0] ?_)))
  obtain ⟨x1,Z4⟩:=Zv b.steps k om
  refine Zp (Zj none (k:Int) 5 (WV Z4)) (Xb 16 [2,3,7] [(31,.b ((x1.op==6)&&(x1.into==0)))] (fun gz=>gz) ?_ (fun hj1=>?_))
  ·refine Xp [2,3,7] [(42,.b (((x1.op==6)&&(x1.into==0))&&((x1.args.length:Int)==(many:Int))))] (fun gz=>gz) ?_ ?_
   ·refine Z0 1 (ib (b:=((x1.op==6)&&(x1.into==0))) 32 (fun Zc=>?_) (fun Zc=>?_))
    ·exact ZA 3 [0] (Zp (Zj none (k:Int) 5 (WV Z4)) (Z0 2 (iw (Yc x1.args) (Z2 (wk [0] (Zl ((x1.args.length:Int)==(many:Int)) Zc fl))))))
    exact Z2 (wk [0] (Zl false Zc fl))
   refine ac (((x1.op==6)&&(x1.into==0))&&((x1.args.length:Int)==(many:Int))) (p:=((x1.op=6)/\(x1.into=0))/\((x1.args.length:Int)=(many:Int))) (YI (YI Zf Zf) Zf) (fun Zi=>?_) (fun Zi=>?_)
   ·exact ar (Zm (ZW (.i k) (li (by have h:=Z1f Z4 (show QY many x1 from ⟨Zi.1,by omega⟩) Zh;omega))))
   exact ak (az (Z0 1 (ZE k (Z2 (ZJ ⟨k+1,ob,(Z1e Z4 (fun z=>Zi ⟨z.1,by have:=z.2;omega⟩) Zh),rfl,rfl,rfl⟩ (wk [0] (ZO k fl)))))))
  refine Z0 4 (ib (b:=(x1.op==6)) 23 (fun ZF=>?_) (fun ZF=>?_))
  ·exact ZA 3 [0] (Zp (Zj none (k:Int) 5 (WV Z4)) (Z0 4 (Yb (wk [0] (Zl (x1.into==0) ZF fl)) hj1)))
  exact Z0 8 (Yb (wk [0] (Zl false ZF fl)) hj1)
 exact ax 0 (ar (Zm (ZW (.i (-1)) (li (by have h:=Z1d om Zh;omega)))))
theorem Z1r (b:Z7) (hz:b.sz<=1000000000):Zo 186 [Yh b] [] (fun r h=>∃(v:Hd),r=.agg [.h v,.i b.result]/\h=[rK v 5 (Ze (ZL b.steps))]):=by
 have hbz:=Uk b
 refine ZG 28 Tryz.func186 (ar (iA (XR b) fun b1=>iA [nl,.i 0] fun b2=>ie (ar (E6 5 fun g1=>ZA 3 [2] (iA [nl,.i 0] fun b3=>?_)))))
 refine Zz 0 b3 [.ms g1 0 0 0,.i b.result] (ie (Y0 (ab 0 (Y3 (fun fz gz m F h=>∃(k:Nat) (v:Hd),(k<=b.steps.length)/\F=sF [1,2,3] fz [(4,.i k)]/\h=[.obj b3 [.h v,.i b.result],Zg gz 2,Zg gz 3,rK v 5 (Ze (ZL (b.steps.take k)))]/\m=b.steps.length-k) _ _ _ ⟨0,(⟨some ⟨g1,0,none⟩,0,0⟩:Hd),ob,rfl,rfl,rfl⟩ (wk [0,1,1,0] (Yd fl) (e:=(rc (rc (rc (rr (ls:=[]) ob rz)))))) ?_))))
 rintro m F h ⟨k,v,Yk,rfl,rfl,rfl⟩
 refine Yr 3 [2] (iw (Up b.steps) (ZZ ((k:Int)<(b.steps.length:Int)) (fun Z9=>?_) (fun Z9=>?_)))
 ·refine ak (aq (ab 1 (aE 12 (ZU 7 12 [0,1,2,3,4] [0,2] ?_))))
  obtain ⟨x1,Z4⟩:=Zv b.steps k om
  have hss:=Dw Z4
  exact dx 5 (Zj none (k:Int) 5 (WV Z4)) (Zs 5 6 [6] (Z8 7 (YH 7 [] [0] [b3] (Zbq x1) (Z8 8 (dL 8 [0] [b3] [X0 x1] 1 5 fun v1=>Yq 3 3 [] [(24,.sl [X0 x1] none)] (Z8 9 (Hx 9 4 k [] [] v 5 (Ze (ZL (b.steps.take k))) [X0 x1] none (by rw [CV,Wd,VW om]) (KC rfl) rfl (List.cons_ne_nil _ _) (by simp<;>omega) fun v2=>Zs 1 2 [10] (Z8 11 (YZ 11 2 [] [] b3 [.h v2,.i b.result] (de (az (Z0 1 (ZE k (Z2 (ZJ ⟨k+1,v2,ob,rfl,rfl,rfl⟩ (wk [0,2,2,0] (ZO k fl) (e:=(rc (rc (rc (rr (ls:=Ze (ZL (b.steps.take k))++Ze [X0 x1]) (Z48 Z4) rz)))))))))))))))))))))
 exact ax 0 (Zq 1 [0] (Zz 1 b2 [.h v,.i b.result] (ie (ZT (r3 [3] [.agg [.h v,.i b.result]] [0] [(b2,b2)] ⟨v,rfl,rfl⟩ (lr _) (eq:=(rr (ls:=Ze (ZL (b.steps.take k))) (by rw [WJ om]) rz)))))))
theorem Z1q (b:Z7) (hz:b.sz<=1000000000:=by exact ob) (h0:0<b.steps.length:=by exact ob):Zo 186 [Yh b] [] (fun r h=>∃(g:Nat) (c:Nat),r=.agg [.ms g 0 b.steps.length c,.i b.result]/\h=[.row (.slice (some ⟨g,0,none⟩) b.steps.length c) 5 (Ze (ZL b.steps))]):=(Z1r b hz).form (T:=fun v=>.agg [.h v,.i b.result]) (m:=b.steps.length) (CV _) om h0
theorem Zc3 (ds:List Zb) (b:Z7) (x:Int) (many:Nat) (hw:wB ds b:=by exact ob) (hx:0<=x/\x<=900000000:=by exact ob) (hz:b.sz<=1000000000:=by exact ob):Zo 174 [Yh b,.i x,.i many] [] (Yy (Yh (Vz b x many))):=by
 have hbz:=Uk b
 have ZI:=(KR b).1 hw
 have hrl:=Ed b.steps
 refine ZG 57 Tryz.func174 (ar (iA (XR b) fun b1=>iA [nl,.i 0] fun b2=>ie (aD 6 (ZU 3 6 [0,1,3] [1,1] (Z8 2 (YH 2 [] [1] [b1] (Lx b) (Z8 4 (YH 4 [] [] [] (RP b (YV b.steps) 16 x (ha:=(fun s hs h16=>M1 (H1 ZI s (Qo hs) (by rw [h16];rfl))))) (Zs 0 1 [5] (de (aD 6 (ZU 3 6 [0,1,3] [1,1] (Z8 2 (YH 2 [] [1] [b1] (Lx b) (Z8 4 (YH 4 [] [] [] (Zbm b (YV b.steps) many) (Zs 0 1 [5] (de (Xd (Xp [1,3,6,7,8] [(26,.b ((decide ((W2 16 x (b.steps.take (YV b.steps)) 0)<0))||(decide ((Ws many (b.steps.drop (YV b.steps)) (YV b.steps))<0))))] (fun gz=>gz) ?_ ?_))))))))))))))))))))
 ·refine Z0 3 (ib (b:=(decide ((W2 16 x (b.steps.take (YV b.steps)) 0)<0))) 23 (fun Zc=>?_) (fun Zc=>?_))
  ·exact Z2 (wk [0,0] (Zl true Zc fl))
  exact Z2 (wk [0,0] (Zl (decide ((Ws many (b.steps.drop (YV b.steps)) (YV b.steps))<0)) Zc fl))
 refine ac ((decide ((W2 16 x (b.steps.take (YV b.steps)) 0)<0))||(decide ((Ws many (b.steps.drop (YV b.steps)) (YV b.steps))<0))) (p:=((W2 16 x (b.steps.take (YV b.steps)) 0)<0)∨((Ws many (b.steps.drop (YV b.steps)) (YV b.steps))<0)) (ZY dq dq) (fun Z9=>?_) (fun Z9=>?_)
 ·exact Zq 1 [1] (Zz 0 b2 (XR b) (ie (ZT (r3 [] [Yh b] [0] [(b2,b2)] ⟨rfl,rfl⟩ (Zd.agg (.cons (Zd.sl _ (Yp ZL (Za5 Z9).symm)) (.cons li .nil)))))))
 obtain ⟨o1,o2,so,o3,o4⟩:=Dh (xs:=b.steps) (x:=x) (fun z=>Z9 (.inl z))
 obtain ⟨p1,p2,sc,p3,p4,p5⟩:=JE (xs:=b.steps) (many:=many) (fun z=>Z9 (.inr z))
 rw [show Vd b.steps x=(W2 16 x (b.steps.take (YV b.steps)) 0) from rfl] at o1 o2
 rw [show Ww b.steps many=(Ws many (b.steps.drop (YV b.steps)) (YV b.steps)) from rfl] at p1 p2
 refine ak (Zq 1 [1] (ic [] (Z1q b) ?_))
 rintro _ _ ⟨g1,c1,rfl,rfl⟩
 exact iA [nl,.i 0] fun b3=>Zz 0 b3 [.ms g1 0 b.steps.length c1,.i b.result] (ie (aD 7 (ZU 3 7 [0,1,2,3] [0] (Z8 4 (YH 4 [] [0] [b3] (Br 17 x) (dx 5 (W7 g1 b.steps.length c1 ((W2 16 x (b.steps.take (YV b.steps)) 0).toNat) 5 (W2 16 x (b.steps.take (YV b.steps)) 0)) (Z8 6 (JH 6 1 [] [] g1 b.steps.length c1 5 (((W2 16 x (b.steps.take (YV b.steps)) 0).toNat)*5) (W8 (Zt 17 x)) (Ze (ZL b.steps)) (Ze (ZL (b.steps.set (W2 16 x (b.steps.take (YV b.steps)) 0).toNat (Zt 17 x)))) (by have:(W8 (Zt 17 x)).length=5:=rfl;rw [CV];omega) (Nv o3) (de (Zq 3 [1] (Zp (W7 g1 b.steps.length c1 ((Ws many (b.steps.drop (YV b.steps)) (YV b.steps)).toNat) 5 (Ws many (b.steps.drop (YV b.steps)) (YV b.steps))) (U2 (Va 0 g1 b.steps.length c1 5 (((Ws many (b.steps.drop (YV b.steps)) (YV b.steps)).toNat)*5) (Ze (ZL (b.steps.set (W2 16 x (b.steps.take (YV b.steps)) 0).toNat (Zt 17 x)))) (W8 sc) 145 (X0 sc) (Z47 (Ev Z9 p3))) (iA [.i 0,.i 0,.i 0,nl,nl] fun b4=>Zz 0 b4 (W8 sc) (ie (Zq 8 [2,0,0] (ia ((1+x)) ((1)+(x)) (ZA 5 [0,0] (Zp (W7 g1 b.steps.length c1 ((Ws many (b.steps.drop (YV b.steps)) (YV b.steps)).toNat) 5 (Ws many (b.steps.drop (YV b.steps)) (YV b.steps))) (E7 1 g1 b.steps.length c1 5 (((Ws many (b.steps.drop (YV b.steps)) (YV b.steps)).toNat)*5) [.i sc.op,.i sc.num,.i (1+x),Z3 sc.args,Jh sc.kids] (Ze (ZL (b.steps.set (W2 16 x (b.steps.take (YV b.steps)) 0).toNat (Zt 17 x)))) (Ze (ZL ((b.steps.set (W2 16 x (b.steps.take (YV b.steps)) 0).toNat (Zt 17 x)).set (Ws many (b.steps.drop (YV b.steps)) (YV b.steps)).toNat (TZ (1+x) sc)))) (by rw [CV,VC];simp only [Yw,X5];omega) (Nv (t:=TZ (1+x) sc) (Ev Z9 p3)) (Xi (Ul 0 1 0 (.slice (some ⟨g1,0,none⟩) b.steps.length c1) 5 b3 (ZL ((b.steps.set (W2 16 x (b.steps.take (YV b.steps)) 0).toNat (Zt 17 x)).set (Ws many (b.steps.drop (YV b.steps)) (YV b.steps)).toNat (TZ (1+x) sc))) [.ms g1 0 b.steps.length c1,.i b.result] (XC _) rfl) (ie (Zq 1 [0] (Zz 3 b2 [Xc ((b.steps.set (W2 16 x (b.steps.take (YV b.steps)) 0).toNat (Zt 17 x)).set (Ws many (b.steps.drop (YV b.steps)) (YV b.steps)).toNat (TZ (1+x) sc)) (.slice (some ⟨g1,0,none⟩) b.steps.length c1),.i b.result] (ie (ZT (r3 [] [.agg [Xc ((b.steps.set (W2 16 x (b.steps.take (YV b.steps)) 0).toNat (Zt 17 x)).set (Ws many (b.steps.drop (YV b.steps)) (YV b.steps)).toNat (TZ (1+x) sc)) (.slice (some ⟨g1,0,none⟩) b.steps.length c1),.i b.result]] [0] [(b2,b2)] ⟨rfl,rfl⟩ (Zd.agg (.cons (Zd.sl _ (Yp ZL (Za6 Z9 p5))) (.cons li .nil)))))))))))))))))))))))))))))
theorem Zby (xs:LI) (y:Int) (hl:xs.length<=1000000000:=by exact ob):Zo 50 [Z3 xs,.i y] [] (fun r h=>∃(ys:LI),r=Z3 ys/\h=[]/\(ys.length<=xs.length+1/\∀z,z∈ys↔z∈xs∨z=y)):=by
 refine ZG 49 Tryz.func50 (Y7 (ar (iL (Z6 []) 0 1 fun v1=>?_)))
 refine Z2 (Y7 (Y0 (ab 0 (Y3 (fun fz gz m F h=>∃(k:Nat) (acc:LI) (d:Bool) (v:Value),(k<=xs.length)/\(Km xs y k acc d)/\F=sF [0,1] fz [(5,ZV acc v),(6,.b d),(7,.i k)]/\h=[.tail v 1]/\m=xs.length-k) _ _ _ ⟨0,[],false,v1,ob,(Km.zero xs y),rfl,rfl,rfl⟩ (wk [0] (fw (Yd fl))) ?_))))
 rintro m F h ⟨k,acc,d,v,Yk,Zh,rfl,rfl,rfl⟩
 refine YQ 2 (iw (Yc xs) (ZZ ((k:Int)<(xs.length:Int)) (fun Z9=>?_) (fun Z9=>?_)))
 ·obtain ⟨x1,Z4⟩:=Zv xs k om
  have hil:acc.length<=k+1:=V3 Zh.len (by split<;>omega)
  refine ak (aq (ab 1 (Xd (Xp [0,1,5,6,7] [(24,.b ((!d)&&(decide (x1>=y))))] (fun gz=>gz) ?_ ?_))))
  ·refine Z0 3 (ib (b:=(!d)) 17 (fun Zc=>?_) (fun Zc=>?_))
   ·exact Z0 2 (Zp (Zj none (k:Int) 1 (Y5 Z4)) (Z2 (wk [0] (Zl (decide (x1>=y)) Zc fl))))
   exact Z2 (wk [0] (Zl false Zc fl))
  refine Xs (fun fz gz F h=>∃(acc2:LI) (d2:Bool) (w:Value),((acc2=acc/\d2=d)∨(acc2=acc++[y]/\d2=true/\¬d=true)∨(acc2=acc/\d2=true/\x1=y))/\(acc2.length<=acc.length+1)/\F=sF [0,1,7] fz [(5,ZV acc2 w),(6,.b d2)]/\h=[.tail w 1]) ?_ ?_
  ·refine ac ((!d)&&(decide (x1>=y))) (p:=(¬(d=true))/\(x1>=y)) (YI (Ys Iff.rfl) dq) (fun Zi=>?_) (fun Zi=>?_)
   ·refine YQ 2 (Zp (Zj none (k:Int) 1 (Y5 Z4)) (Z2 (Xs (fun fz gz F h=>∃(w3:Value),F=sF [0,1,7] fz [(5,ZV (if x1>y then (acc++[y]) else acc) w3)]/\h=[.tail w3 1]) ?_ ?_)))
    ·refine VI (x1>y) (fun ZB=>?_) (fun ZB=>?_)
     ·exact az (Z0 2 (iL (Z6 [y]) 1 1 fun v2=>ZM 0 [(33,Z3 [y])] (ip 1 (Z6 (acc++[y])) (Z6 acc) (Z6 [y]) v none 1 (YG _) (YG _) (W4 _) (by simp<;>omega) (by simp [W3,Z6]) fun v3=>Z2 (ZD ⟨v3,rfl,rfl⟩ (wk [0] (fc (x:=ZV (acc++[y]) v3) (Zd.slh _ (Yp Z6 (by first|rfl|(rw [Zk ZB])|(rw [Za ZB])|(simp [ZB];done)|(rw [Y9];simp [ZB];done)|omega))) fl))))))
     exact ak (ZD ⟨v,rfl,rfl⟩ (wk [0] (fc (x:=ZV acc v) (Zd.slh _ (Yp Z6 (by first|rfl|(rw [Zk ZB])|(rw [Za ZB])|(simp [ZB];done)|(rw [Y9];simp [ZB];done)|omega))) fl)))
    rintro F h ⟨w3,rfl,rfl⟩
    exact Vi (ZD ⟨(if x1>y then (acc++[y]) else acc),true,w3,(if h:x1>y then (by rw [Zk h];exact .inr (.inl ⟨rfl,rfl,Zi.1⟩)) else (by rw [Za h];exact .inr (.inr ⟨rfl,rfl,by have:=Zi.2;omega⟩))),(by split<;>simp),rfl,rfl⟩ (wk [0] fl))
   exact ak (ZD ⟨acc,d,v,(.inl ⟨rfl,rfl⟩),ob,rfl,rfl⟩ (wk [0] fl))
  rintro F h ⟨acc2,d2,w,Vr,Aw,rfl,rfl⟩
  exact az (Z0 3 (Zp (Zj none (k:Int) 1 (Y5 Z4)) (Z0 1 (iL (Z6 [x1]) 1 1 fun v4=>ZM 0 [(40,Z3 [x1])] (ip 1 (Z6 (acc2++[x1])) (Z6 acc2) (Z6 [x1]) w none 1 (YG _) (YG _) (W4 _) (by simp<;>omega) (by simp [W3,Z6]) fun v5=>Z2 (az (Z0 1 (ZE k (Z2 (ZJ ⟨k+1,(acc2++[x1]),d2,v5,ob,(Zh.go Z4 Vr),rfl,rfl,rfl⟩ (wk [0] (fw (ZO k fl)))))))))))))
 have hil:acc.length<=k+1:=V3 Zh.len (by split<;>omega)
 refine ax 0 (Y0 (Xs (fun fz gz F h=>∃(w4:Value),F=sF [] fz [(5,ZV (if d=true then acc else (acc++[y])) w4)]/\h=[.tail w4 1]) ?_ ?_))
 ·refine ac (!d) (p:=¬(d=true)) (Ys Iff.rfl) (fun Ye=>?_) (fun Ye=>?_)
  ·exact az (Z0 2 (iL (Z6 [y]) 1 1 fun v6=>ZM 0 [(46,Z3 [y])] (ip 1 (Z6 (acc++[y])) (Z6 acc) (Z6 [y]) v none 1 (YG _) (YG _) (W4 _) (by simp<;>omega) (by simp [W3,Z6]) fun v7=>Z2 (ZD ⟨v7,rfl,rfl⟩ (wk [0] (fc (x:=ZV (acc++[y]) v7) (Zd.slh _ (Yp Z6 (by first|rfl|(rw [Zk Ye])|(rw [Za Ye])|(simp [Ye];done)|(rw [Y9];simp [Ye];done)|omega))) fl))))))
  exact ak (ZD ⟨v,rfl,rfl⟩ (wk [0] (fc (x:=ZV acc v) (Zd.slh _ (Yp Z6 (by first|rfl|(rw [Zk Ye])|(rw [Za Ye])|(simp [Ye];done)|(rw [Y9];simp [Ye];done)|omega))) fl)))
 rintro F h ⟨w4,rfl,rfl⟩
 exact ar (Zm (r2 [] [ZV (if d=true then acc else (acc++[y])) w4] ⟨(if d=true then acc else (acc++[y])),rfl,rfl,(if hd:d=true then (by rw [Zk hd];exact (Zh.fin om).1 hd) else (by rw [Za hd];exact (Zh.fin om).2 hd))⟩ (Zd.forget _ _)))
theorem Zc6 (n:ZC) (s:Z5) (j:Nat) (kept:LI) (kd:Z7) (hn:Xr n) (hws:wS n.decls s) (hkd:s.kids[j]? = some kd) (hnk:QF kd) (hK:kept.length+s.sz<=900000000) (ih:∀(b2:Z7) (K2:LI),(wB n.decls b2)->(Bf b2)->(K2.length+b2.sz<=900000000)->(b2.sz<s.sz)->Zo 122 [YB n,Yh b2,Z3 K2] [] (Yy (Yh (Wq n.decls K2 b2)))):Zo 148 [YB n,X0 s,.i j,Z3 kept] [] (Yy (Yh (TI n.decls kept s.op s.num s.args j kd))):=by
 have Xl:=hn.decls
 have hks:=Q0 hkd
 have hwk:=LU hws hkd
 have haz:=KX s
 have hjl:=(Xh.1 hkd).1
 refine ZG 65 Tryz.func148 (ar (iA (X4 n) fun b1=>iA (W8 s) fun b2=>iA [nl,.i 0] fun b3=>ie (Xd (WT [1] (ac (s.op != 8) Yv (fun Z9=>?_) (fun Z9=>?_))))))
 ·refine aD 9 (ZU 5 9 [0,1,2,3] [2,1] (dx 4 (Zj none (j:Int) 2 (UE hkd)) (Zs 2 4 [5,6] (Z8 7 (YH 7 [] [] [] (ih kd kept (by first|exact hwk|exact Aw) (by first|exact Cf hnk|exact Ix) ob ob) (Z8 8 (YZ 8 0 [] [] b3 (XR (Wq n.decls kept kd)) (de ?_))))))))
  have hE:=R7 (ds:=n.decls) (kept:=kept) (op:=s.op) (num:=s.num) (args:=s.args) (j:=j) (kd:=kd) (fun z=>Z9 z.1)
  exact ZT (r3 [] [Yh (Wq n.decls kept kd)] [0] [(b3,b3)] ⟨rfl,rfl⟩ (Zd.agg (.cons (Zd.sl _ (Yp ZL (by rw [hE]))) (.cons (li (by rw [hE])) .nil))))
 refine ak (Zq 2 [1] ?_)
 obtain ⟨x1,Z4⟩:=Zv s.args 0 (by obtain ⟨⟨a,ha2,_⟩,_⟩:=EI hws om;rw [ha2];simp)
 have hg1:=K3 Z4
 have hxb:0<=x1/\x1<=900000000:=by obtain ⟨⟨a,ha2,ha3⟩,_⟩:=EI hws om;rw [ha2] at hg1;have:a=x1:=hg1;omega
 refine Zp (Zj none 0 1 (Y5 Z4)) (Z2 (Zq 3 [1] (Zp (Zj none (j:Int) 2 (UE hkd)) (Z0 1 (iA [nl,.i 0] fun b4=>?_)))))
 refine Zz 0 b4 (XR kd) (ie (YQ 2 (Zu [] (Uz kept x1) (Z2 (Xs (fun fz gz F h=>∃(B2:Z7) (K2:LI),(Wq n.decls K2 B2=TI n.decls kept s.op s.num s.args j kd)/\(wB n.decls B2)/\(Bf B2)/\(B2.sz<=kd.sz)/\(K2.length<=kept.length+1)/\F=sF [4,8,10] fz [(3,Z3 K2)]/\h=[.obj b4 (XR B2),Zg gz 1,Zg gz 3]) ?_ ?_)))))
 ·refine ac (!(decide (x1∈kept))) (p:=¬(x1∈kept)) (Ys dq) (fun Zi=>?_) (fun Zi=>?_)
  ·refine aD 16 (ZU 7 16 [0,1,2,3,4,5,6,7,9] [0,3,3,2] (Z8 8 (dc 8 [] [3,0] [b1,b4] (KL n.decls s.num) ?_)))
   rintro _ _ ⟨v1,rfl,rfl⟩
   obtain ⟨x2,Zx⟩:=Zv (ZQ n.decls s.num) j (by have h:=(EI hws om).2;omega)
   have hfl:(Wu n.decls s.num j).length=(ZK n.decls x2).length:=by rw [HY (by rw [Kj,Zx];rfl)]
   have hcf:=V5 Xl x2
   refine dx 10 (Zj (some v1) (j:Int) 1 (Y5 Zx)) (Zs 4 5 [11] (Z8 12 (YH 12 [] [0] [b4] (Q3 n.decls x2) (dn 13 (.i (((ZK n.decls x2).length:Nat):Int)) (.i (((Z6 (ZK n.decls x2)).length:Nat):Int)) (li (by rw [Yc])) (Z8 14 (YH 14 [] [] [] (Zc3 n.decls kd x1 ((ZK n.decls x2).length) (hw:=hwk) (hx:=hxb)) ?_))))))
   have hwr:=Ze5 (x:=x1) (many:=(ZK n.decls x2).length) hwk
   have hsr:=Za3 (x:=x1) (many:=(ZK n.decls x2).length) hwk
   refine Z8 15 (YZ 15 1 [] [] b4 (XR (Vz kd x1 ((ZK n.decls x2).length))) (de (Zq 1 [0] (Zu [] (Lx (Vz kd x1 ((ZK n.decls x2).length))) (Z2 (Zq 3 [0] (Zu [] (RP (Vz kd x1 ((ZK n.decls x2).length)) (YV (Vz kd x1 ((ZK n.decls x2).length)).steps) 17 x1 (hm:=(Ed _)) (ha:=(fun s2 hs2 h17=>M1 (H1 ((KR _).1 hwr) s2 (Qo hs2) (by rw [h17];rfl))))) (ZZ ((W2 17 x1 ((Vz kd x1 ((ZK n.decls x2).length)).steps.take (YV (Vz kd x1 ((ZK n.decls x2).length)).steps)) 0)>=0) (fun ZB=>?_) (fun ZB=>?_)))))))))
   ·refine az (Z0 2 (ic [] (Zby kept x1) ?_))
    rintro _ _ ⟨ys1,rfl,rfl,Y6⟩
    have hin:=Y6
    exact Z2 (ZD ⟨_,_,(Zak om hg1 Zi hfl ((Se ((Eh kd).1 hnk)).1 ZB) hin.2),hwr,(OZ hnk),ob,hin.1,rfl,rfl⟩ (wk [0,1,2] (fc (x:=Z3 ys1) (Zd.sl _ (Yp Z6 (by first|rfl|(rw [Zk Zi])|(rw [Za Zi])|(simp [Zi,ZB,Y6];done)|(rw [Y9];simp [Zi,ZB,Y6];done)|omega))) fl)))
   exact ak (ZD ⟨_,_,(Zal om hg1 Zi hfl (Bv fun z=>ZB ((Se ((Eh kd).1 hnk)).2 z))),hwr,(OZ hnk),ob,ob,rfl,rfl⟩ (wk [0,1,2] (fc (x:=Z3 kept) (Zd.sl _ (Yp Z6 (by first|rfl|(rw [Zk Zi])|(rw [Za Zi])|(simp [Zi,ZB];done)|(rw [Y9];simp [Zi,ZB];done)|omega))) fl)))
  exact ak (ZD ⟨_,_,(R7 (fun z=>Zi (hg1▸z.2))),hwk,(Cf hnk),ob,ob,rfl,rfl⟩ (wk [0,0,1] (fc (x:=Z3 kept) (Zd.sl _ (Yp Z6 (by first|rfl|(rw [Zk Zi])|(rw [Za Zi])|(simp [Zi];done)|(rw [Y9];simp [Zi];done)|omega))) fl)))
 rintro F h ⟨B2,K2,Vr,Aw,Ix,Zeq,Zer,rfl,rfl⟩
 exact Zq 3 [2,0] (Zu [] (ih B2 K2 (by first|exact hwk|exact Aw) (by first|exact Cf hnk|exact Ix) ob ob) (Zz 1 b3 (XR (Wq n.decls K2 B2)) (ie (ZT (r3 [] [Yh (Wq n.decls K2 B2)] [0] [(b3,b3)] ⟨rfl,rfl⟩ (Zd.agg (.cons (Zd.sl _ (Yp ZL (by rw [Vr]))) (.cons (li (by rw [Vr])) .nil))))))))
theorem Zc5 (n:ZC) (b:Z7) (kept:LI) (hn:Xr n) (hw:wB n.decls b) (hn2:Bf b) (hK:kept.length+b.sz<=900000000) (ih:∀(s:Z5) (j:Nat) (kept:LI) (kd:Z7),(wS n.decls s)->(s.kids[j]? = some kd)->(QF kd)->(kept.length+s.sz<=900000000)->(s.sz<b.sz)->Zo 148 [YB n,X0 s,.i j,Z3 kept] [] (Yy (Yh (TI n.decls kept s.op s.num s.args j kd)))):Zo 122 [YB n,Yh b,Z3 kept] [] (Yy (Yh (Wq n.decls kept b))):=by
 have Xl:=hn.decls
 have hbz:=Uk b
 refine ZG 61 Tryz.func122 (ar (iA (X4 n) fun b1=>iA (XR b) fun b2=>iA [nl,.i 0] fun b3=>ie (ar (iL (ZL []) 0 5 fun v1=>ZA 3 [2] (iA [nl,.i 0] fun b4=>?_)))))
 refine Zz 0 b4 [Xc [] v1,.i b.result] (ie (Y0 (ab 0 (Y3 (fun fz gz m F h=>∃(k:Nat) (xs:List Z5) (v:Value),(k<=b.steps.length)/\(xs.length=k)/\(xs++VT n.decls kept (b.steps.drop k)=VT n.decls kept b.steps)/\F=sF [2,3,4,6,7] fz [(8,.i k)]/\h=[.obj b4 [Xc xs v,.i b.result],Zg gz 2,Zg gz 3,Zg gz 4,.tail v 5]/\m=b.steps.length-k) _ _ _ ⟨0,[],v1,ob,ob,rfl,rfl,rfl,rfl⟩ (wk [0,1,1,1,0] (Yd fl)) ?_))))
 rintro m F h ⟨k,xs,v,Yk,Zh,Zy,rfl,rfl,rfl⟩
 refine Yr 3 [2] (iw (Up b.steps) (ZZ ((k:Int)<(b.steps.length:Int)) (fun Z9=>?_) (fun Z9=>?_)))
 ·refine ak (aq (ab 1 (Zq 3 [2] ?_)))
  obtain ⟨x1,Z4⟩:=Zv b.steps k om
  have XL:=Cm Z4
  have hws:=Sq hw Z4
  have hkz:=QC x1
  have haz:=KX x1
  refine Zp (Zj none (k:Int) 5 (WV Z4)) (Z0 1 (iA [.i 0,.i 0,.i 0,nl,nl] fun b5=>Zz 0 b5 (W8 x1) (ie (ar (iL (XM []) 0 2 fun v2=>?_)))))
  refine Z2 (Y0 (ab 2 (Y3 (fun fz gz m F h=>∃(j:Nat) (u:Value) (ks:List Z7),(j<=x1.kids.length)/\(ks.length=j)/\(ks++VG n.decls kept x1.op x1.num x1.args (x1.kids.drop j) j=VG n.decls kept x1.op x1.num x1.args x1.kids 0)/\F=sF [2,3,4,6,7,8,9] fz [(10,Q2 ks u),(11,.i j)]/\h=[Zg gz 1,Zg gz 2,Zg gz 3,Zg gz 4,Zg gz 5,.tail u 2,Zg gz 6]/\m=x1.kids.length-j) _ _ _ ⟨0,v2,[],ob,ob,(by simp),rfl,rfl,rfl⟩ (wk [1,1,1,1,1,0,0] (fr (Yd fl))) ?_)))
  rintro m F h ⟨j,u,ks,U7,Wb,XV,rfl,rfl,rfl⟩
  refine Yr 3 [0] (iw (QZ x1.kids) (ZZ ((j:Int)<(x1.kids.length:Int)) (fun Zi=>?_) (fun Zi=>?_)))
  ·obtain ⟨kd,hkd⟩:=Zv x1.kids j om
   exact ak (aq (ab 3 (az (ZA 5 [4,0] (Zu [] (ih x1 j kept kd hws hkd (Z8r hn2 Z4 hkd) ob ob) (iL [Yh (TI n.decls kept x1.op x1.num x1.args j kd)] 1 2 fun v3=>ZM 0 [(42,.sl [Yh (TI n.decls kept x1.op x1.num x1.args j kd)] none)] (ip 6 (XM (ks++[TI n.decls kept x1.op x1.num x1.args j kd])) (XM ks) [Yh (TI n.decls kept x1.op x1.num x1.args j kd)] u none 2 (Ks _) (KC rfl) rfl (by simp<;>omega) (by simp [BT,Qv]) fun v4=>Z2 (az (Z0 1 (ZE j (Z2 (ZJ ⟨j+1,v4,(ks++[TI n.decls kept x1.op x1.num x1.args j kd]),ob,(by simp;omega),(Zaj hkd XV),rfl,rfl,rfl⟩ (wk [2,2,2,2,2,0,1] (fr (ZO j fl)))))))))))))))
  have hK:=Zai om XV
  refine ax 2 (aE 17 (ZU 6 17 [0,1,2,3,4,5,6,7,8,9,11] [1,0,0,0,0] (Z8 10 (dc 10 [] [0,0,0,1] [b5,b5,b5,b4] (WI x1.args) ?_))))
  rintro _ _ ⟨v5,rfl,rfl⟩
  exact Yq 4 5 [12] [(56,.agg [.i x1.op,.i x1.num,.i x1.into,Z3 x1.args,Jh ks])] (Z8 13 (dL 13 [1] [b4] [X0 (Z5.mk x1.op x1.num x1.into x1.args ks)] 1 5 fun v6=>Yq 3 3 [] [(57,.sl [X0 (Z5.mk x1.op x1.num x1.into x1.args ks)] none)] (Z8 14 (dp 14 8 [] [] (ZL (xs++[Z5.mk x1.op x1.num x1.into x1.args ks])) (ZL xs) [X0 (Z5.mk x1.op x1.num x1.into x1.args ks)] v none 5 (XC _) (KC rfl) rfl (by simp<;>omega) (by simp [Vg,VQ]) fun v7=>Zs 1 2 [15] (Z8 16 (YZ 16 4 [] [] b4 [Xc (xs++[Z5.mk x1.op x1.num x1.into x1.args ks]) v7,.i b.result] (de (az (Z0 1 (ZE k (Z2 (ZJ ⟨k+1,(xs++[Z5.mk x1.op x1.num x1.into x1.args ks]),v7,ob,(by simp;omega),(by have h:=Zap Z4 Zy;rw [<-hK] at h;exact h),rfl,rfl,rfl⟩ (wk [0,4,4,4,0] (ZO k fl))))))))))))))
 exact ax 0 (Zq 1 [0] (Zz 1 b3 [Xc xs v,.i b.result] (ie (ZT (r3 [] [.agg [Xc xs v,.i b.result]] [0] [(b3,b3)] ⟨rfl,rfl⟩ (Zd.agg (.cons (Zd.sl _ (Yp ZL (by rw [Gm];exact Zao om Zy))) (.cons (li (by rw [Gm];rfl)) .nil))))))))
theorem Zc7 (n:ZC) (hn:Xr n) (k:Nat):(∀(s:Z5) (j:Nat) (kept:LI) (kd:Z7),(wS n.decls s)->(s.kids[j]? = some kd)->(QF kd)->(kept.length+s.sz<=900000000)->(s.sz<=k)->Zo 148 [YB n,X0 s,.i j,Z3 kept] [] (Yy (Yh (TI n.decls kept s.op s.num s.args j kd))))/\(∀(b:Z7) (kept:LI),(wB n.decls b)->(Bf b)->(kept.length+b.sz<=900000000)->(b.sz<=k)->Zo 122 [YB n,Yh b,Z3 kept] [] (Yy (Yh (Wq n.decls kept b)))):=by
 induction k with
 | zero=>exact ⟨fun s j K kd h1 h2 h3 h4 h5=>by have:=s.sz_pos;omega,fun b K h1 h2 h3 h4=>by have:=b.sz_eq;omega⟩
 | succ k ih=>exact ⟨fun s j K kd h1 h2 h3 h4 h5=>Zc6 n s j K kd hn h1 h2 h3 h4 fun b2 K2 q1 q2 q3 q4=>ih.2 b2 K2 q1 q2 q3 om,fun b K h1 h2 h3 h4=>Zc5 n b K hn h1 h2 h3 fun s j K2 kd q1 q2 q3 q4 q5=>ih.1 s j K2 kd q1 q2 q3 q4 om⟩
theorem Zc4 (n:ZC) (b:Z7) (kept:LI) (hn:Xr n:=by exact ob) (hw:wB n.decls b:=by exact ob) (hn2:Bf b:=by exact ob) (hK:kept.length+b.sz<=900000000:=by exact ob):Zo 122 [YB n,Yh b,Z3 kept] [] (Yy (Yh (Wq n.decls kept b))):=(Zc7 n hn b.sz).2 b kept hw hn2 hK (X7 _)
theorem Z63 (n:ZC) (hn:Xr n:=by exact ob) (hz:Js n:=by exact ob) (hwb:∀r∈n.routines,wB n.decls r.body):Zo 79 [YB n] [] (Yy (YB (Cl n))):=by
 have hzl:=hn.len
 refine ZG 38 Tryz.func79 (ar (iA (X4 n) fun b1=>iA [nl,nl] fun b2=>ie (Zq 2 [1] (Zu [] (AF n.decls (hd:=hn.decls)) (iL (X6 []) 0 5 fun v1=>Z0 1 (iA [nl,nl] fun b3=>?_))))))
 refine Zz 0 b3 [Ya n.decls,WG [] v1] (ie (Y0 (ab 0 (Y3 (fun fz gz m F h=>∃(k:Nat) (v:Value),(k<=n.routines.length)/\F=sF [1,2,3] fz [(4,.i k)]/\h=[.obj b3 [Ya n.decls,WG ((n.routines.take k).map (Bq n.decls)) v],Zg gz 2,Zg gz 3,.tail v 5]/\m=n.routines.length-k) _ _ _ ⟨0,v1,ob,rfl,rfl,rfl⟩ (wk [0,1,1,0] (Yd fl)) ?_))))
 rintro m F h ⟨k,v,Yk,rfl,rfl,rfl⟩
 refine Yr 3 [2] (iw (TB n.routines) (ZZ ((k:Int)<(n.routines.length:Int)) (fun Z9=>?_) (fun Z9=>?_)))
 ·refine ak (aq (ab 1 (Zq 3 [2] ?_)))
  obtain ⟨x1,Z4⟩:=Zv n.routines k om
  have hrm:=Y2 Z4
  have hbz:=hz.body _ hrm
  have hpl:=hn.params_at Z4
  have hll:=hn.lent_at Z4
  have hww:=hwb _ hrm
  exact Zp (Zj none (k:Int) 5 (Vw Z4)) (Z0 1 (iA [nl,nl,.i 0,nl,.i 0] fun b4=>Zz 0 b4 (Jd x1) (ie (aE 15 (ZU 7 15 [0,1,2,3,4,5,6,7] [1,0,3,0,0] (dw 8 (Yc x1.params) (Z8 9 (YH 9 [] [0,1] [b4,b3] (Zcd n x1.body x1.params.length (hw:=hww)) (Z8 10 (YH 10 [] [1] [b3] (Ds x1 (WH n.decls x1.params.length x1.body)) (Z8 11 (dL 11 [1] [b3] (X6 [Yz.mk x1.params x1.lent x1.result (WH n.decls x1.params.length x1.body)]) 1 5 fun v2=>Yq 3 3 [] [(34,Ji [Yz.mk x1.params x1.lent x1.result (WH n.decls x1.params.length x1.body)])] (Z8 12 (dp 12 5 [] [] (X6 ((n.routines.take (k+1)).map (Bq n.decls))) (X6 ((n.routines.take k).map (Bq n.decls))) (X6 [Yz.mk x1.params x1.lent x1.result (WH n.decls x1.params.length x1.body)]) v none 5 (UR _) (UR _) (B1 _) (by simp<;>omega) (by rw [WU Z4];simp [X6,Bq]) fun v3=>Zs 1 2 [13] (Z8 14 (YZ 14 3 [] [] b3 [Ya n.decls,WG ((n.routines.take (k+1)).map (Bq n.decls)) v3] (de (az (Z0 1 (ZE k (Z2 (ZJ ⟨k+1,v3,ob,rfl,rfl,rfl⟩ (wk [0,3,3,0] (ZO k fl))))))))))))))))))))))))
 exact ax 0 (Zq 1 [0] (Zz 1 b2 [Ya n.decls,WG ((n.routines.take k).map (Bq n.decls)) v] (ie (ZT (r3 [] [.agg [Ya n.decls,WG ((n.routines.take k).map (Bq n.decls)) v]] [0] [(b2,b2)] ⟨rfl,rfl⟩ (Zd.agg (.cons (Zd.sl _ (Yp YR ob)) (.cons (Zd.sl _ (Yp X6 (by rw [WJ om];rfl))) .nil))))))))
theorem Z60 (n:ZC) (hn:Xr n:=by exact ob) (hz:Js n:=by exact ob) (hwb:∀r∈n.routines,wB n.decls r.body) (hnr:∀r∈n.routines,QF r.body):Zo 80 [YB n] [] (Yy (YB (Ck n))):=by
 have hzl:=hn.len
 refine ZG 38 Tryz.func80 (ar (iA (X4 n) fun b1=>iA [nl,nl] fun b2=>ie (Zq 2 [1] (Zu [] (AF n.decls (hd:=hn.decls)) (iL (X6 []) 0 5 fun v1=>Z0 1 (iA [nl,nl] fun b3=>?_))))))
 refine Zz 0 b3 [Ya n.decls,WG [] v1] (ie (Y0 (ab 0 (Y3 (fun fz gz m F h=>∃(k:Nat) (v:Value),(k<=n.routines.length)/\F=sF [1,2,3] fz [(4,.i k)]/\h=[.obj b3 [Ya n.decls,WG ((n.routines.take k).map (Bo n.decls)) v],Zg gz 2,Zg gz 3,.tail v 5]/\m=n.routines.length-k) _ _ _ ⟨0,v1,ob,rfl,rfl,rfl⟩ (wk [0,1,1,0] (Yd fl)) ?_))))
 rintro m F h ⟨k,v,Yk,rfl,rfl,rfl⟩
 refine Yr 3 [2] (iw (TB n.routines) (ZZ ((k:Int)<(n.routines.length:Int)) (fun Z9=>?_) (fun Z9=>?_)))
 ·refine ak (aq (ab 1 (aE 21 (ZU 16 21 [0,1,2,3,4] [0,2] ?_))))
  obtain ⟨x1,Z4⟩:=Zv n.routines k om
  have hrm:=Y2 Z4
  have hbz:=hz.body _ hrm
  have hpl:=hn.params_at Z4
  have hll:=hn.lent_at Z4
  have hww:=hwb _ hrm
  exact dx 5 (Zj none (k:Int) 5 (Vw Z4)) (ZU 10 15 [6,7,8,9,10] [2,2] (dx 11 (Zj none (k:Int) 5 (Vw Z4)) (Zs 7 9 [12,13] (Z8 14 (dL 14 [2,2,2,0] [b1,b1,b1,b3] (Z6 []) 0 1 fun v2=>Yq 6 6 [] [(31,Z3 [])] (Z8 15 (YH 15 [] [2,0] [b1,b3] (Zc4 n x1.body [] (hw:=hww) (hn2:=(Cf (hnr _ hrm)))) (Z8 16 (YH 16 [] [0] [b3] (Ds x1 (Wq n.decls [] x1.body)) (Z8 17 (dL 17 [0] [b3] (X6 [Yz.mk x1.params x1.lent x1.result (Wq n.decls [] x1.body)]) 1 5 fun v3=>Yq 3 3 [] [(34,Ji [Yz.mk x1.params x1.lent x1.result (Wq n.decls [] x1.body)])] (Z8 18 (dp 18 5 [] [] (X6 ((n.routines.take (k+1)).map (Bo n.decls))) (X6 ((n.routines.take k).map (Bo n.decls))) (X6 [Yz.mk x1.params x1.lent x1.result (Wq n.decls [] x1.body)]) v none 5 (UR _) (UR _) (B1 _) (by simp<;>omega) (by rw [WU Z4];simp [X6,Bo]) fun v4=>Zs 1 2 [19] (Z8 20 (YZ 20 3 [] [] b3 [Ya n.decls,WG ((n.routines.take (k+1)).map (Bo n.decls)) v4] (de (az (Z0 1 (ZE k (Z2 (ZJ ⟨k+1,v4,ob,rfl,rfl,rfl⟩ (wk [0,3,3,0] (ZO k fl)))))))))))))))))))))))
 exact ax 0 (Zq 1 [0] (Zz 1 b2 [Ya n.decls,WG ((n.routines.take k).map (Bo n.decls)) v] (ie (ZT (r3 [] [.agg [Ya n.decls,WG ((n.routines.take k).map (Bo n.decls)) v]] [0] [(b2,b2)] ⟨rfl,rfl⟩ (Zd.agg (.cons (Zd.sl _ (Yp YR ob)) (.cons (Zd.sl _ (Yp X6 (by rw [WJ om];rfl))) .nil))))))))
theorem Z5z (rd:Nat) (bs:LI) (p:Nat) (ZI:∀z∈bs,0<=z/\z<=255) (hp:p+400001<=1000000000:=by exact ob):Zo 111 [.p rd 0] [YD rd bs p] (fun r h=>∃(n:ZC) (p2:Nat),r=YB n/\h=[YD rd bs p2]/\FO n 181 WD/\p<=p2/\p2<=p+400001):=by
 refine ZG 13 Tryz.func111 (ar (iA [nl,nl] fun b1=>ie (Yf 1 (ic [1] (Z58 rd bs p (ZI:=ob)) ?_))))
 rintro _ _ ⟨g1,p21,rfl,rfl,Y6⟩
 have Qz:=Y6
 refine ic [] (Z5t g1 (hg:=Qz.1)) ?_
 rintro _ _ ⟨n1,rfl,rfl,Yt⟩
 have hnm:=Yt
 refine iA [nl,nl] fun b2=>Zz 0 b2 (X4 n1) (ie (YQ 1 (ic [1] (XS rd bs p21 3 (ZI:=ob)) ?_)))
 rintro _ _ ⟨k1,rfl,rfl,YP⟩
 refine YC (k1==0) Zf (fun Z9=>?_) (fun Z9=>?_)
 ·refine Zq 1 [1] (ic [] (Z5j n1 181 (hn:=hnm)) ?_)
  rintro _ _ ⟨n21,rfl,rfl,X2⟩
  have hlm:=X2
  exact Zz 2 b1 (X4 n21) (ie (ZT (r3 [1] [YB n21] [0] [(b1,b1)] ⟨n21,p21+1,rfl,rfl,(by first|exact ⟨hlm,by omega,by omega⟩|exact ⟨hnm,by omega,by omega⟩)⟩ (lr _))))
 exact ak (Zq 1 [1] (Zz 2 b1 (X4 n1) (ie (ZT (r3 [1] [YB n1] [0] [(b1,b1)] ⟨n1,p21+1,rfl,rfl,(by first|exact ⟨hlm,by omega,by omega⟩|exact ⟨hnm,by omega,by omega⟩)⟩ (lr _))))))
theorem Z50 (rd:Nat) (bs:LI) (p:Nat) (ZI:∀z∈bs,0<=z/\z<=255) (hp:p+400002<=1000000000:=by exact ob):Zo 76 [.p rd 0] [YD rd bs p] (fun r h=>∃(n:ZC) (p2:Nat),r=YB n/\h=[YD rd bs p2]/\FO n 814510 Vl/\p<=p2/\p2<=p+400002):=by
 refine ZG 15 Tryz.func76 (ar (iA [nl,nl] fun b1=>ie (Yf 1 (ic [1] (Z5z rd bs p (ZI:=ob)) ?_))))
 rintro _ _ ⟨n1,p21,rfl,rfl,Y6⟩
 have hpf:=Y6
 refine iA [nl,nl] fun b2=>Zz 0 b2 (X4 n1) (ie (Zq 1 [0] (ic [] (Z4z n1 181 (hn:=hpf.1)) ?_)))
 rintro _ _ ⟨n21,rfl,rfl,Yt⟩
 have hcf:=FO.le Yt (show 4500*181+10<=814510 by omega)
 refine iA [nl,nl] fun b3=>Zz 0 b3 (X4 n21) (ie (YQ 1 (ic [2] (XS rd bs p21 4 (ZI:=ob)) ?_)))
 rintro _ _ ⟨k1,rfl,rfl,YP⟩
 refine YC (k1==0) Zf (fun Z9=>?_) (fun Z9=>?_)
 ·refine az (ZA 1 [2] (ic [] (Z5c n1 181 (hn:=hpf.1)) ?_))
  rintro _ _ ⟨n22,rfl,rfl,X2⟩
  have hlf:=FO.le X2 (show 60*181<=814510 by omega)
  exact Zz 1 b3 (X4 n22) (ie (Zq 1 [0] (Zz 3 b1 (X4 n22) (ie (ZT (r3 [2] [YB n22] [0] [(b1,b1)] ⟨n22,p21+1,rfl,rfl,(by first|exact ⟨hlf,by omega,by omega⟩|exact ⟨hcf,by omega,by omega⟩)⟩ (lr _)))))))
 exact ak (Zq 1 [1] (Zz 3 b1 (X4 n21) (ie (ZT (r3 [1] [YB n21] [0] [(b1,b1)] ⟨n21,p21+1,rfl,rfl,(by first|exact ⟨hlf,by omega,by omega⟩|exact ⟨hcf,by omega,by omega⟩)⟩ (lr _))))))
theorem If (rd:Nat) (bs:LI) (p:Nat) (xs:LI) (ZI:∀z∈bs,0<=z/\z<=255) (hp:p+3<=1000000000:=by exact ob) (hl:xs.length<=1000000:=by exact ob):Zo 54 [.p rd 0,Z3 xs] [YD rd bs p] (fun r h=>∃(zs:LI) (p2:Nat),r=Z3 zs/\h=[YD rd bs p2]/\zs.length<=xs.length+1/\p<=p2/\p2<=p+3):=by
 refine ZG 32 Tryz.func54 (Y7 (Yf 1 (ic [] (AG xs) ?_)))
 rintro _ _ ⟨v1,rfl,rfl⟩
 refine Z2 (YQ 1 (Zp (Cq 0 v1 xs) (Z0 2 (ib (b:=(decide ((xs.length:Int)>0))) 11 (fun Zc=>?_) (fun Zc=>?_)))))
 ·have Y6:(xs.length:Int)>0:=(dq).1 Zc
  refine Z0 1 (ic [1] (XS rd bs p 2 (ZI:=ob)) ?_)
  rintro _ _ ⟨k1,rfl,rfl,Yt⟩
  refine YC (k1==0) Zf (fun Z9=>?_) (fun Z9=>?_)
  ·refine Yf 3 (Zp (Cq 1 v1 xs) (ic [0] (J2 rd bs (p+1) xs.length (ZI:=ob)) ?_))
   rintro _ _ ⟨YO,rfl,rfl,YP⟩
   refine Z0 1 (iL (Z6 [0,1,-1,7,1000,1001]) 6 1 fun v2=>ZM 0 [(22,Z3 [0,1,-1,7,1000,1001])] (ic [1] (UF rd bs ((p+1)+1) [0,1,-1,7,1000,1001] (ZI:=ob)) ?_))
   rintro _ _ ⟨z1,rfl,rfl,X2⟩
   exact Zp (VV 2 v1 xs (YO:Int) YO) (Iq 2 v1 xs YO z1 (ie (Y7 (EV 4 0 (v:=v1) (xs:=(xs.set YO z1)) (ZT (r2 [1] [ZV (xs.set YO z1) v1.v] ⟨(xs.set YO z1),((p+1)+1)+1,rfl,rfl,⟨by simp,by omega,by omega⟩⟩ (Zd.forget _ _)))))))
  refine ak (Yf 2 (iL (Z6 [0,1,2,-1,1000]) 5 1 fun v3=>ZM 0 [(28,Z3 [0,1,2,-1,1000])] (ic [1] (UF rd bs (p+1) [0,1,2,-1,1000] (ZI:=ob)) ?_)))
  rintro _ _ ⟨z2,rfl,rfl,Xg⟩
  exact iL (Z6 [z2]) 1 1 fun v4=>ZM 0 [(30,Z3 [z2])] (Av 3 v1 xs [z2] none fun v5=>Z2 (EV 4 0 (v:=v5) (xs:=(xs++[z2])) (ZT (r2 [2] [ZV (xs++[z2]) v5.v] ⟨(xs++[z2]),(p+1)+1,rfl,rfl,⟨by simp,by omega,by omega⟩⟩ (Zd.forget _ _)))))
 have XQ:¬((xs.length:Int)>0):=Y8 dq Zc
 refine Z2 (Vt (ak (Yf 2 (iL (Z6 [0,1,2,-1,1000]) 5 1 fun v6=>ZM 0 [(28,Z3 [0,1,2,-1,1000])] (ic [2] (UF rd bs p [0,1,2,-1,1000] (ZI:=ob)) ?_)))))
 rintro _ _ ⟨z3,rfl,rfl,Wf⟩
 exact iL (Z6 [z3]) 1 1 fun v7=>ZM 0 [(30,Z3 [z3])] (Av 3 v1 xs [z3] none fun v8=>Z2 (EV 4 0 (v:=v8) (xs:=(xs++[z3])) (ZT (r2 [2] [ZV (xs++[z3]) v8.v] ⟨(xs++[z3]),p+1,rfl,rfl,⟨by simp,by omega,by omega⟩⟩ (Zd.forget _ _)))))
open Go.Proofs
open Go.Proofs
open Go.Proofs
theorem Zbx (fs:LI) (q:Int) (hl:fs.length<=1000000:=by exact ob) (hq:0<=q/\q<=1000000000:=by exact ob):Zo 108 [Z3 fs,.i q] [] (Yy (Z3 (Ut fs q))):=by
 refine ZG 26 Tryz.func108 (Y7 (ar (iL (Z6 []) 0 1 fun v1=>?_)))
 refine Z2 (Y0 (ab 0 (Y3 (fun fz gz m F h=>∃(k:Nat) (acc:LI) (v:Value),(k<=fs.length)/\(acc.length<=k)/\(acc++Ut (fs.drop k) (q+k)=Ut fs q)/\F=sF [0,1] fz [(5,ZV acc v),(6,.i k)]/\h=[.tail v 1]/\m=fs.length-k) _ _ _ ⟨0,[],v1,ob,ob,(by simp),rfl,rfl,rfl⟩ (wk [0] (fr (Yd fl))) ?_)))
 rintro m F h ⟨k,acc,v,Yk,Zh,Zy,rfl,rfl,rfl⟩
 refine YQ 2 (iw (Yc fs) (ZZ ((k:Int)<(fs.length:Int)) (fun Z9=>?_) (fun Z9=>?_)))
 ·refine ak (aq (ab 1 (Yf 2 ?_)))
  obtain ⟨x1,Z4⟩:=Zv fs k om
  refine Zp (Zj none (k:Int) 1 (Y5 Z4)) (Z2 (Ae (fun fz gz F h=>∃(w:Value),F=sF [0,1,6] fz [(5,ZV (if x1≠0 then acc++[q+k] else acc) w)]/\h=[.tail w 1]) (fun _ _=>rfl) ?_ ?_))
  ·refine ac (x1 != 0) Yv (fun Zi=>?_) (fun Zi=>?_)
   ·exact az (Z0 3 (ia ((q+(k:Int))) ((q)+((k:Int))) (iL (Z6 [(q+(k:Int))]) 1 1 fun v2=>ZM 0 [(23,Z3 [(q+(k:Int))])] (ip 1 (Z6 (acc++[(q+(k:Int))])) (Z6 acc) (Z6 [(q+(k:Int))]) v none 1 (YG _) (YG _) (W4 _) (by simp<;>omega) (by simp [W3,Z6]) fun v3=>Z2 (ZD ⟨v3,rfl,rfl⟩ (wk [0] (fc (x:=ZV (acc++[(q+(k:Int))]) v3) (Zd.slh _ (Yp Z6 (by first|rfl|(rw [Zk Zi])|(rw [Za Zi])|(simp [Zi];done)|(rw [Y9];simp [Zi];done)|omega))) fl)))))))
   exact ak (ZD ⟨v,rfl,rfl⟩ (wk [0] (fc (x:=ZV acc v) (Zd.slh _ (Yp Z6 (by first|rfl|(rw [Zk Zi])|(rw [Za Zi])|(simp [Zi];done)|(rw [Y9];simp [Zi];done)|omega))) fl)))
  rintro F h ⟨w,rfl,rfl⟩
  exact az (Z0 1 (ZE k (Z2 (ZJ ⟨k+1,(if x1≠0 then acc++[q+k] else acc),w,ob,(by split<;>(try simp)<;>omega),(Z6d Z4 Zy),rfl,rfl,rfl⟩ (wk [0] (fr (ZO k fl)))))))
 exact ax 0 (ar (Zm (ZW (ZV acc v) (Zd.sl _ (Yp Z6 (Z6c om Zy))))))
theorem RK (mm:Nat) (hl:mm<=4294967296:=by exact ob):Zo 71 [.i 0,.i mm] [] (Yy (Z3 (XD mm))):=by
 refine ZG 20 Tryz.func71 (Y7 (ar (iL (Z6 []) 0 1 fun v1=>?_)))
 refine Z2 (Y0 (ab 0 (Y3 (fun fz gz m F h=>∃(k:Nat) (v:Value),(k<=mm)/\F=sF [0,1] fz [(5,ZV (XD k) v),(6,.i k)]/\h=[.tail v 1]/\m=mm-k) _ _ _ ⟨0,v1,ob,rfl,rfl,rfl⟩ (wk [0] (fc (x:=ZV [] v1) (Zd.slh _ (Yp Z6 rfl)) (Yd fl))) ?_)))
 rintro m F h ⟨k,v,Yk,rfl,rfl,rfl⟩
 refine Xd (ZZ ((k:Int)<(mm:Int)) (fun Z9=>?_) (fun Z9=>?_))
 ·exact ak (aq (ab 1 (az (Z0 3 (ia ((k:Int)) ((0)+((k:Int))) (iL (Z6 [(k:Int)]) 1 1 fun v2=>ZM 0 [(17,Z3 [(k:Int)])] (ip 1 (Z6 (XD (k+1))) (Z6 (XD k)) (Z6 [(k:Int)]) v none 1 (YG _) (YG _) (W4 _) (by rw [Yc,De];simp<;>omega) (by rw [Z8t,W3]) fun v3=>Z2 (az (Z0 1 (ZE k (Z2 (ZJ ⟨k+1,v3,ob,rfl,rfl,rfl⟩ (wk [0] (fr (ZO k fl)))))))))))))))
 exact ax 0 (ar (Zm (ZW (ZV (XD k) v) (Zd.sl _ (Yp Z6 (by rw [show k=mm by omega]))))))
theorem RU (xs:LI) (i:Int) (y:Int) (hl_xs:xs.length<=4294967296:=by exact ob) (hi:0<=i/\i<xs.length:=by exact ob):Zo 134 [Z3 xs,.i i,.i y] [] (fun r h=>∃(v:Value),r=ZV (xs.set i.toNat y) v/\h=[.tail v 1]):=by
 refine ZG 15 Tryz.func134 (Y7 (Yf 1 (ic [] (AG xs) ?_)))
 rintro _ _ ⟨v1,rfl,rfl⟩
 exact Z2 (Yf 3 (Zp (VV 0 v1 xs i i.toNat (hq:=rfl)) (Iq 0 v1 xs i.toNat y (ie (Y7 (EV 6 0 (v:=v1) (xs:=(xs.set i.toNat y)) (ZT (r1 [0] ⟨v1.v,rfl,rfl⟩))))))))
theorem KM (e:Nat) (v:Hd) (c:List Instr) (x:Instr) (hl:c.length<=4200000000:=by exact ob):Zo 73 [.p e 0,Tx x] [.obj e [.h v],rK v 6 (Ze (Y4 c))] (fun r h=>∃(v2:Hd),r=.i c.length/\h=[.obj e [.h v2],rK v2 6 (Ze (Y4 (c++[x])))]):=by
 exact ZG 21 Tryz.func73 (ar (iA (Vx x) fun b1=>Z2 (aD 11 (ZU 5 11 [0,1,2,3,4,5] [1,0] (Z8 6 (dL 6 [1] [e] (Y4 [x]) 1 6 fun v1=>Yq 4 4 [] [(11,KF [x])] (Z8 7 (Hx 7 3 c.length [] [] v 6 (Ze (Y4 c)) (Y4 [x]) none (Tn c) (Ai _) (Fh _) (by simp [Y4]) (by simp<;>omega) fun v2=>Zs 1 3 [8,9] (Z8 10 (YZ 10 3 [] [] e [.h v2] (de (Zq 4 [0] (Zp (IA 1 (c.length+1) v2 6 (Ze (Y4 c)++Ze (Y4 [x])) (by rw [Yl,Tn,Tn];simp only [Yw,X5];omega)) (ia ((((c.length+1:Nat):Int)-1)) ((((c.length+1:Nat):Int))-(1)) (Zm (r2 [0,0] [.i (((c.length+1:Nat):Int)-1)] ⟨v2,rfl,rfl⟩ li (eq:=(rc (rr (ls:=Ze (Y4 c)++Ze (Y4 [x])) (Z44 c x) rz)))))))))))))))))))
theorem Lu (e:Nat) (v:Hd) (c:List Instr) (i:Nat) (hz:Zr c i:=by exact ob) (hl:c.length<=4200000000:=by exact ob):Zo 133 [.p e 0,.i i] [.obj e [.h v],rK v 6 (Ze (Y4 c))] (fun r h=>∃(v2:Hd),h=[.obj e [.h v2],rK v2 6 (Ze (Y4 (Vu c i)))]):=by
 have hzl:=hz.lt
 obtain ⟨x,hx,Z4,Zx⟩:=hz
 refine ZG 30 Tryz.func133 (Iz 1 c.length (v:=v) (Tn c) om (fun g1 c1 he1=>?_))
 subst he1
 exact Zq 5 [0] (Zp (W7 g1 c.length c1 i 6 (i:Int)) (U2 (Va 1 g1 c.length c1 6 (i*6) (Ze (Y4 c)) (Vx x) 35 (Tx x) (I3 hx)) (iA [.i 0,.i 0,.i 0,.i 0,nl,nl] fun b1=>Zz 0 b1 (Vx x) (ie (aE 19 (ZU 8 19 [0,1,2,3,4,5,6,7,8,9,10] [1,0,1] (dn 11 (.i c.length) (.i c.length) (lr _) (ZU 2 7 [12,13,14,15,16] [0,0] (dx 17 (W7 g1 c.length c1 i 6 (i:Int)) (Z8 18 (JH 18 2 [] [] g1 c.length c1 6 (i*6) [.i x.op,.i 0,.i c.length,.i 0,Z3 x.args,Z3 x.jumps] (Ze (Y4 c)) (Ze (Y4 (c.set i ⟨x.op,0,c.length,0,x.args,x.jumps⟩))) (by rw [Tn];simp only [Yw,X5];omega) (Fv (t:=⟨x.op,0,c.length,0,x.args,x.jumps⟩) hx) (de (r2 [2,0] [] ⟨⟨some ⟨g1,0,none⟩,c.length,c1⟩,rfl⟩ (lr _) (eq:=(rc (rr (ls:=(Ze (Y4 (c.set i ⟨x.op,0,c.length,0,x.args,x.jumps⟩)))) (by rw [SZ hx Z4 Zx]) rz))))))))))))))))
theorem Zbl (n:ZC) (s:Z5) (mw:Nat) (cons:LI) (first:LI) (e:Nat) (v:Hd) (c:List Instr) (hn:Xr n) (ht:fS n.decls n.routines.length mw s) (hop:s.op=7∨s.op=8) (hcl:cons.length=mw) (hfl:first.length=mw) (hfs:Tl first) (hb:mw+4*s.sz<=900000000) (hcn:c.length+16*s.sz<=4000000000) (ih:∀(b2:Z7) (m2:Nat) (cons2:LI) (first2:LI) (e:Nat) (v5:Hd) (c2:List Instr),(fB n.decls n.routines.length m2 b2)->(cons2.length=m2)->(first2.length=m2)->(Tl first2)->(m2+4*b2.sz<=900000000)->(c2.length+16*b2.sz<=4000000000)->(b2.sz<s.sz)->Zo 72 [.p e 0,YB n,Yh b2,Z3 cons2,Z3 first2] [.obj e [.h v5],rK v5 6 (Ze (Y4 c2))] (fun r h=>∃(v2:Hd),h=[.obj e [.h v2],rK v2 6 (Ze (Y4 (flB (XK n.decls) n.decls (cons2,first2) b2 c2)))])):Zo 106 [.p e 0,YB n,X0 s,Z3 cons,Z3 first] [.obj e [.h v],rK v 6 (Ze (Y4 c))] (fun r h=>∃(v2:Hd),h=[.obj e [.h v2],rK v2 6 (Ze (Y4 (VS (XK n.decls) n.decls (cons,first) s c)))]):=by
 have Xl:=hn.decls
 have hf:=(An s).1 ht
 have hse:=s.sz_eq
 have haz:=KX s
 have hkz:=QC s
 have hcp:cons.length<=900000000:=by omega
 refine ZG 208 Tryz.func106 (ar (iA (X4 n) fun b1=>iA (W8 s) fun b2=>ie (Yf 1 (iw (Yc cons) (Z2 (Xd (WT [0] (ac (s.op==7) Zf (fun Z9=>?_) (fun Z9=>?_)))))))))
 ·obtain ⟨k0,k1,hkk,ht0,ht1⟩:=Z39 hf Z9
  have hbe:YS s.kids=k0.sz+k1.sz:=by rw [hkk];simp [YS]
  have hk0:s.kids[0]? = some k0:=by rw [hkk];rfl
  have hk1:s.kids[1]? = some k1:=by rw [hkk];rfl
  have hs0:=Q0 hk0
  have hs1:=Q0 hk1
  refine Zq 3 [0] (ic [] (WI s.args) ?_)
  rintro _ _ ⟨v1,rfl,rfl⟩
  refine ZM 1 [(33,.agg [.i 20,.i 0,.i 0,.i 0,Z3 s.args,.sl [] none])] (ic [3,3] (KM e v c (Instr.mk 20 0 0 0 s.args []) (hl:=WA)) ?_)
  rintro _ _ ⟨v21,rfl,rfl⟩
  refine Z2 (aD 9 (ZU 5 9 [0,1,2,3] [4,3] (dx 4 (Zj none 0 2 (UE hk0)) (Zs 1 4 [5,6,7] (Z8 8 (dc 8 [0,0] [] [] (ih k0 _ cons first e v21 (c++[(Instr.mk 20 0 0 0 s.args [])]) (by first|exact ht0|exact ht1|exact hbt) WA WA (by first|exact hfs|exact Tl.x hfs om om) WA WA ob) ?_))))))
  rintro _ _ ⟨v22,rfl⟩
  have q1:(flB (XK n.decls) n.decls (cons,first) k0 (c++[(Instr.mk 20 0 0 0 s.args [])])).length+16<=_:=B5 (XK n.decls) Xl _ _ _
  simp only [AU,BZ,FY,Yl,Yw,X5] at q1
  refine de (Zq 4 [3] (Zp (Zj none 0 2 (UE hk0)) (Z0 2 (iL (Z6 [k0.result]) 1 1 fun v2=>ZM 1 [(52,.agg [.i 18,.i cons.length,.i 0,.i 0,Z3 [k0.result],.sl [] none])] (ic [1,1] (KM e v22 (flB (XK n.decls) n.decls (cons,first) k0 (c++[(Instr.mk 20 0 0 0 s.args [])])) (Instr.mk 18 (cons.length:Int) 0 0 [k0.result] []) (hl:=WA)) ?_)))))
  rintro _ _ ⟨v23,rfl,rfl⟩
  refine ie (ar (ZM 2 [(55,.agg [.i 22,.i 0,.i 0,.i 0,.sl [] none,.sl [] none])] (ic [0,0] (KM e v23 ((flB (XK n.decls) n.decls (cons,first) k0 (c++[(Instr.mk 20 0 0 0 s.args [])]))++[(Instr.mk 18 (cons.length:Int) 0 0 [k0.result] [])]) (Instr.mk 22 0 0 0 [] []) (hl:=WA)) ?_)))
  rintro _ _ ⟨v24,rfl,rfl⟩
  refine Z2 (Yf 2 (ic [0,0] (Lu e v24 (((flB (XK n.decls) n.decls (cons,first) k0 (c++[(Instr.mk 20 0 0 0 s.args [])]))++[(Instr.mk 18 (cons.length:Int) 0 0 [k0.result] [])])++[(Instr.mk 22 0 0 0 [] [])]) c.length (hz:=(by first|exact BK ei (Y2 hei)|(repeat (first|exact Zr.new rfl rfl|refine Zr.app ?_|refine Zr.flB ?_|refine Zr.aim ?_)))) (hl:=WA)) ?_))
  rintro _ _ ⟨v25,rfl⟩
  refine ie (aD 9 (ZU 5 9 [0,1,2,3] [5,4] (dx 4 (Zj none 1 2 (UE hk1)) (Zs 1 4 [5,6,7] (Z8 8 (dc 8 [0,0] [] [] (ih k1 _ cons first e v25 (Vu (((flB (XK n.decls) n.decls (cons,first) k0 (c++[(Instr.mk 20 0 0 0 s.args [])]))++[(Instr.mk 18 (cons.length:Int) 0 0 [k0.result] [])])++[(Instr.mk 22 0 0 0 [] [])]) c.length) (by first|exact ht0|exact ht1|exact hbt) WA WA (by first|exact hfs|exact Tl.x hfs om om) WA WA ob) ?_))))))
  rintro _ _ ⟨v26,rfl⟩
  have q2:((flB (XK n.decls) n.decls (cons,first) k1 (Vu (((flB (XK n.decls) n.decls (cons,first) k0 (c++[(Instr.mk 20 0 0 0 s.args [])]))++[(Instr.mk 18 (cons.length:Int) 0 0 [k0.result] [])])++[(Instr.mk 22 0 0 0 [] [])]) c.length))).length+16<=_:=B5 (XK n.decls) Xl _ _ _
  simp only [AU,BZ,FY,Yl,Yw,X5] at q2
  refine de (Zq 4 [4] (Zp (Zj none 1 2 (UE hk1)) (Z0 2 (iL (Z6 [k1.result]) 1 1 fun v3=>ZM 1 [(77,.agg [.i 18,.i cons.length,.i 0,.i 0,Z3 [k1.result],.sl [] none])] (ic [1,1] (KM e v26 (flB (XK n.decls) n.decls (cons,first) k1 (Vu (((flB (XK n.decls) n.decls (cons,first) k0 (c++[(Instr.mk 20 0 0 0 s.args [])]))++[(Instr.mk 18 (cons.length:Int) 0 0 [k0.result] [])])++[(Instr.mk 22 0 0 0 [] [])]) c.length)) (Instr.mk 18 (cons.length:Int) 0 0 [k1.result] []) (hl:=WA)) ?_)))))
  rintro _ _ ⟨v27,rfl,rfl⟩
  refine ie (Yf 2 (ic [0,0] (Lu e v27 ((flB (XK n.decls) n.decls (cons,first) k1 (Vu (((flB (XK n.decls) n.decls (cons,first) k0 (c++[(Instr.mk 20 0 0 0 s.args [])]))++[(Instr.mk 18 (cons.length:Int) 0 0 [k0.result] [])])++[(Instr.mk 22 0 0 0 [] [])]) c.length))++[(Instr.mk 18 (cons.length:Int) 0 0 [k1.result] [])]) (((flB (XK n.decls) n.decls (cons,first) k0 (c++[(Instr.mk 20 0 0 0 s.args [])]))++[(Instr.mk 18 (cons.length:Int) 0 0 [k0.result] [])]).length) (hz:=(by first|exact BK ei (Y2 hei)|(repeat (first|exact Zr.new rfl rfl|refine Zr.app ?_|refine Zr.flB ?_|refine Zr.aim ?_)))) (hl:=WA)) ?_))
  rintro _ _ ⟨v28,rfl⟩
  exact ie (ZT (r2 [0,0] [] ⟨v28,rfl⟩ (lr _) (eq:=(rc (rr (ls:=Ze (Y4 (Vu ((flB (XK n.decls) n.decls (cons,first) k1 (Vu (((flB (XK n.decls) n.decls (cons,first) k0 (c++[(Instr.mk 20 0 0 0 s.args [])]))++[(Instr.mk 18 (cons.length:Int) 0 0 [k0.result] [])])++[(Instr.mk 22 0 0 0 [] [])]) c.length))++[(Instr.mk 18 (cons.length:Int) 0 0 [k1.result] [])]) (((flB (XK n.decls) n.decls (cons,first) k0 (c++[(Instr.mk 20 0 0 0 s.args [])]))++[(Instr.mk 18 (cons.length:Int) 0 0 [k0.result] [])]).length)))) (by rw [Z3w Z9 hkk];rfl) rz)))))
 have h8:s.op=8:=by omega
 obtain ⟨hkl,hkm⟩:=Z3a hf h8
 obtain ⟨x0,hxl⟩:=Nc hf (.inr (.inl h8))
 have O7:s.args[0]? = some x0:=by rw [hxl];rfl
 have hg0:=K3 O7
 have hxb:=hf.args x0 (by rw [hxl];exact Xv.2 rfl)
 have hk3:=Dd Xl s.num
 refine ak (Zq 2 [0] (Zp (Zj none 0 1 (Y5 O7)) (Z2 (Zq 4 [1,0] (ic [] (KL n.decls s.num) ?_)))))
 rintro _ _ ⟨v4,rfl,rfl⟩
 refine Z2 (Zq 4 [1] (iL (Z6 [x0]) 1 1 fun v5=>ZM 1 [(96,.agg [.i 21,.i 0,.i s.num,.i 0,Z3 [x0],.sl [] none])] (ic [4,4] (KM e v c (Instr.mk 21 0 s.num 0 [x0] []) (hl:=WA)) ?_)))
 rintro _ _ ⟨v29,rfl,rfl⟩
 refine Z2 (ar (iL (Z6 []) 0 1 fun v6=>Z2 (ar (iL (Z6 []) 0 1 fun v7=>?_))))
 refine Z2 (Y0 (ab 0 (Y3 (fun fz gz m F h=>∃(k:Nat) (ts:LI) (u1:Value) (es:List Nat) (u2:Value) (cc:List Instr) (r3:Hd),(k<=s.kids.length)/\(VY (XK n.decls) n.decls (cons,first) s.num x0 c.length (s.kids.drop k) k cc ts es=VS (XK n.decls) n.decls (cons,first) s c)/\(∀i∈es,Zr cc i)/\(cc[c.length]? = some (XI 21 0 s.num 0 s.args))/\(cc.length<=c.length+1+16*YS (s.kids.take k))/\(es.length<=k)/\(ts.length=k)/\F=sF [0,3,4,6,7,10,13,14,15] fz [(16,ZV ts u1),(17,ZV (Qg es) u2),(18,.i k)]/\h=[.obj e [.h r3],Zg gz 6,Zg gz 7,.tail u1 1,.tail u2 1,Zg gz 5,rK r3 6 (Ze (Y4 cc))]/\m=s.kids.length-k) _ _ _ ⟨0,[],v6,[],v7,(c++[Instr.mk 21 0 s.num 0 [x0] []]),v29,ob,(by rw [Bw,Z3x h8,hg0,hxl];rfl),(fun i hi=>by cases hi),(by rw [hxl];simp [XI]),(by simp [YS]),ob,ob,rfl,rfl,rfl⟩ (wk [2,5,5,1,0,2,0] (fr (fc (x:=ZV [] v7) (Zd.slh _ (Yp Z6 ob)) (Yd fl))) (e:=(rc (rc (rc (rc (rc (rc (rr (ls:=Ze (Y4 (c++[(Instr.mk 21 0 s.num 0 [x0] [])]))) rfl rz))))))))) ?_)))
 rintro m F h ⟨k,ts,u1,es,u2,cc,r3,Yk,Zh,Zy,YJ,Wc,Qt,Mx,rfl,rfl,rfl⟩
 refine YQ 2 (io (.i (((ZQ n.decls s.num).length:Nat):Int)) (.i (((Z6 (ZQ n.decls s.num)).length:Nat):Int)) (li (by rw [Yc])) (ZZ ((k:Int)<(((ZQ n.decls s.num).length:Nat):Int)) (fun Zi=>?_) (fun Zi=>?_)))
 ·obtain ⟨xk,hxk⟩:=Zv (ZQ n.decls s.num) k om
  obtain ⟨kb,hkb⟩:=Zv s.kids k om
  obtain ⟨hbt,hgc,hfk⟩:=hkm k kb xk hkb hxk
  have hks:=Q0 hkb
  obtain ⟨hkt1,hkt2⟩:=Mv hkb
  have hcf:=V5 Xl xk
  have hfl3:(Wu n.decls s.num k).length=(ZK n.decls xk).length:=by rw [hfk]
  refine ak (aq (ab 1 (Zq 5 [0] (Zp (IA 6 cc.length r3 6 (Ze (Y4 cc)) (Tn cc)) (iL (Z6 [(cc.length:Int)]) 1 1 fun v8=>ZM 0 [(112,Z3 [(cc.length:Int)])] (ip 4 (Z6 (ts++[(cc.length:Int)])) (Z6 ts) (Z6 [(cc.length:Int)]) u1 none 1 (YG _) (YG _) (W4 _) (by simp<;>omega) (by simp [W3,Z6]) fun v9=>?_))))))
  refine Z2 (aD 9 (ZU 5 9 [0,1,2,3] [4] (dx 4 (Zj (some v4) (k:Int) 1 (Y5 hxk)) (Zs 3 4 [5] (Z8 6 (YH 6 [] [] [] (Q3 n.decls xk) (dn 7 (.i (((ZK n.decls xk).length:Nat):Int)) (.i (((Z6 (ZK n.decls xk)).length:Nat):Int)) (li (by rw [Yc])) (Zs 0 1 [8] (de (Y0 (ab 2 (Y3 (fun fz gz m F h=>∃(i:Nat) (r4:Hd),(i<=(ZK n.decls xk).length)/\F=sF [0,3,4,6,7,10,13,14,15,16,17,18,19] fz [(20,.i i)]/\h=[.obj e [.h r4],Zg gz 3,Zg gz 4,Zg gz 5,Zg gz 6,Zg gz 0,rK r4 6 (Ze (Y4 (cc++Wz cons.length i x0)))]/\m=(ZK n.decls xk).length-i) _ _ _ ⟨0,r3,ob,rfl,rfl,rfl⟩ (wk [2,2,2,2,2,0,1] (Yd fl) (e:=(rc (rc (rc (rc (rc (rc (rr (ls:=Ze (Y4 cc)) (by simp [Wz]) rz))))))))) ?_))))))))))))
  rintro m F h ⟨i,r4,U7,rfl,rfl,rfl⟩
  refine Xd (ZZ ((i:Int)<(((ZK n.decls xk).length:Nat):Int)) (fun ZB=>?_) (fun ZB=>?_))
  ·refine ak (aq (ab 3 (az (Z0 3 (ia (((cons.length+i:Nat):Int)) (((cons.length:Int))+((i:Int))) (Z0 2 (iL (Z6 [x0]) 1 1 fun v10=>ZM 1 [(134,.agg [.i 19,.i (cons.length+i:Nat),.i i,.i 0,Z3 [x0],.sl [] none])] (ic [1,6] (KM e r4 (cc++Wz cons.length i x0) (Instr.mk 19 ((cons.length+i:Nat):Int) (i:Int) 0 [x0] []) (hl:=WA)) ?_))))))))
   rintro _ _ ⟨v210,rfl,rfl⟩
   exact ie (az (Z0 1 (ZE i (Z2 (ZJ ⟨i+1,v210,ob,rfl,rfl,rfl⟩ (wk [0,2,2,2,2,2,0] (ZO i fl) (e:=(rc (rc (rc (rc (rc (rc (rr (ls:=Ze (Y4 ((cc++Wz cons.length i x0)++[(Instr.mk 19 ((cons.length+i:Nat):Int) (i:Int) 0 [x0] [])]))) (by rw [OM,<-VJ];rfl) rz))))))))))))))
  have hie:(ZK n.decls xk).length=i:=by omega
  have hA:(XK n.decls).arm (cons,first) x0 s.num k=(cons.set x0.toNat xk++XD (ZK n.decls xk).length,first.set x0.toNat (cons.length:Int)++XD (ZK n.decls xk).length):=by rw [<-hgc];rfl
  refine ax 2 (Yf 1 (Zu [] (RK ((ZK n.decls xk).length)) (Z2 (aD 23 (ZU 18 23 [0,1,2,3,4] [2,1] (dx 5 (Zj none (k:Int) 2 (UE hkb)) (Zs 12 17 [6,7,8,9,10] (dx 11 (Zj (some v4) (k:Int) 1 (Y5 hxk)) (Zs 5 11 [12,14,16,17,18,20] (Z8 13 (dc 13 [] [1,2] [b2,b1] (RU cons x0 xk) ?_)))))))))))
  rintro _ _ ⟨v11,rfl,rfl⟩
  refine Yq 4 4 [] [(151,Z3 (cons.set x0.toNat xk))] (Z8 15 (dc 15 [] [1,2] [b2,b1] (Th (cons.set x0.toNat xk) (XD ((ZK n.decls xk).length)) (hl:=WA)) ?_))
  rintro _ _ ⟨v12,rfl,rfl⟩
  refine Z8 19 (dc 19 [] [1,2] [b2,b1] (RU first x0 (cons.length:Int)) ?_)
  rintro _ _ ⟨v13,rfl,rfl⟩
  refine Yq 2 2 [] [(157,Z3 (first.set x0.toNat (cons.length:Int)))] (Z8 21 (dc 21 [] [1,2] [b2,b1] (Th (first.set x0.toNat (cons.length:Int)) (XD ((ZK n.decls xk).length)) (hl:=WA)) ?_))
  rintro _ _ ⟨v14,rfl,rfl⟩
  refine Yq 1 1 [] [(153,Z3 ((cons.set x0.toNat xk)++(XD ((ZK n.decls xk).length)))),(159,Z3 ((first.set x0.toNat (cons.length:Int))++(XD ((ZK n.decls xk).length))))] (Z8 22 (dc 22 [4,9] [] [] (ih kb _ ((cons.set x0.toNat xk)++(XD ((ZK n.decls xk).length))) ((first.set x0.toNat (cons.length:Int))++(XD ((ZK n.decls xk).length))) e r4 (cc++Wz cons.length i x0) (by first|exact ht0|exact ht1|exact hbt) WA WA (by first|exact hfs|exact Tl.x hfs om om) WA WA ob) ?_))
  rintro _ _ ⟨v211,rfl⟩
  have q3:((flB (XK n.decls) n.decls (((cons.set x0.toNat xk)++(XD ((ZK n.decls xk).length))),((first.set x0.toNat (cons.length:Int))++(XD ((ZK n.decls xk).length)))) kb (cc++Wz cons.length i x0))).length+16<=_:=B5 (XK n.decls) Xl _ _ _
  simp only [AU,BZ,FY,Yl,Yw,X5] at q3
  refine de (Zq 5 [6] (Zp (Zj none (k:Int) 2 (UE hkb)) (Z0 2 (iL (Z6 [kb.result]) 1 1 fun v15=>ZM 1 [(170,.agg [.i 18,.i cons.length,.i 0,.i 0,Z3 [kb.result],.sl [] none])] (ic [1,1] (KM e v211 (flB (XK n.decls) n.decls (((cons.set x0.toNat xk)++(XD ((ZK n.decls xk).length))),((first.set x0.toNat (cons.length:Int))++(XD ((ZK n.decls xk).length)))) kb (cc++Wz cons.length i x0)) (Instr.mk 18 (cons.length:Int) 0 0 [kb.result] []) (hl:=WA)) ?_)))))
  rintro _ _ ⟨v212,rfl,rfl⟩
  refine ie (Yf 2 (io (.i (((ZQ n.decls s.num).length:Nat):Int)) (.i (((Z6 (ZQ n.decls s.num)).length:Nat):Int)) (li (by rw [Yc])) (ia (((((ZQ n.decls s.num).length:Nat):Int)-1)) (((((ZQ n.decls s.num).length:Nat):Int))-(1)) (ZZ ((k:Int)<((((ZQ n.decls s.num).length:Nat):Int)-1)) (fun Ye=>?_) (fun Ye=>?_)))))
  ·refine ar (ZM 2 [(178,.agg [.i 22,.i 0,.i 0,.i 0,.sl [] none,.sl [] none])] (ic [0,0] (KM e v212 ((flB (XK n.decls) n.decls (((cons.set x0.toNat xk)++(XD ((ZK n.decls xk).length))),((first.set x0.toNat (cons.length:Int))++(XD ((ZK n.decls xk).length)))) kb (cc++Wz cons.length i x0))++[(Instr.mk 18 (cons.length:Int) 0 0 [kb.result] [])]) (Instr.mk 22 0 0 0 [] []) (hl:=WA)) ?_))
   rintro _ _ ⟨v213,rfl,rfl⟩
   exact Z2 (az (Z0 2 (iL (Z6 [((((flB (XK n.decls) n.decls (((cons.set x0.toNat xk)++(XD ((ZK n.decls xk).length))),((first.set x0.toNat (cons.length:Int))++(XD ((ZK n.decls xk).length)))) kb (cc++Wz cons.length i x0))++[(Instr.mk 18 (cons.length:Int) 0 0 [kb.result] [])]).length:Nat):Int)]) 1 1 fun v16=>ZM 0 [(182,Z3 [((((flB (XK n.decls) n.decls (((cons.set x0.toNat xk)++(XD ((ZK n.decls xk).length))),((first.set x0.toNat (cons.length:Int))++(XD ((ZK n.decls xk).length)))) kb (cc++Wz cons.length i x0))++[(Instr.mk 18 (cons.length:Int) 0 0 [kb.result] [])]).length:Nat):Int)])] (ip 10 (Z6 ((Qg es)++[((((flB (XK n.decls) n.decls (((cons.set x0.toNat xk)++(XD ((ZK n.decls xk).length))),((first.set x0.toNat (cons.length:Int))++(XD ((ZK n.decls xk).length)))) kb (cc++Wz cons.length i x0))++[(Instr.mk 18 (cons.length:Int) 0 0 [kb.result] [])]).length:Nat):Int)])) (Z6 (Qg es)) (Z6 [((((flB (XK n.decls) n.decls (((cons.set x0.toNat xk)++(XD ((ZK n.decls xk).length))),((first.set x0.toNat (cons.length:Int))++(XD ((ZK n.decls xk).length)))) kb (cc++Wz cons.length i x0))++[(Instr.mk 18 (cons.length:Int) 0 0 [kb.result] [])]).length:Nat):Int)]) u2 none 1 (YG _) (YG _) (W4 _) (by simp [G6]<;>omega) (by simp [W3,Z6]) fun v17=>Z2 (az (Z0 1 (ZE k (Z2 (ZJ ⟨k+1,(ts++[(cc.length:Int)]),v9,(es++[((flB (XK n.decls) n.decls (((cons.set x0.toNat xk)++(XD ((ZK n.decls xk).length))),((first.set x0.toNat (cons.length:Int))++(XD ((ZK n.decls xk).length)))) kb (cc++Wz cons.length i x0))++[(Instr.mk 18 (cons.length:Int) 0 0 [kb.result] [])]).length]),v17,(((flB (XK n.decls) n.decls (((cons.set x0.toNat xk)++(XD ((ZK n.decls xk).length))),((first.set x0.toNat (cons.length:Int))++(XD ((ZK n.decls xk).length)))) kb (cc++Wz cons.length i x0))++[(Instr.mk 18 (cons.length:Int) 0 0 [kb.result] [])])++[(Instr.mk 22 0 0 0 [] [])]),v213,ob,(by have h:=Z3h (X:=XK n.decls) hkb om Zh;rw [hfl3,hie,hA] at h;exact h),(fun j hj=>(Xj.1 hj).elim (fun hj=>(Zy j hj).app.flB.app.app) fun hj=>by rw [Xv.1 hj];exact Zr.new rfl rfl),(E1 (E1 (NV (E1 YJ)))),WA,WA,WA,rfl,rfl,rfl⟩ (wk [2,8,8,9,0,7,1] (fr (fc (x:=ZV ((Qg es)++[((((flB (XK n.decls) n.decls (((cons.set x0.toNat xk)++(XD ((ZK n.decls xk).length))),((first.set x0.toNat (cons.length:Int))++(XD ((ZK n.decls xk).length)))) kb (cc++Wz cons.length i x0))++[(Instr.mk 18 (cons.length:Int) 0 0 [kb.result] [])]).length:Nat):Int)]) v17) (Zd.slh _ (Yp Z6 (Z8x _ _))) (ZO k fl)))))))))))))
  exact ak (az (Z0 1 (ZE k (Z2 (ZJ ⟨k+1,(ts++[(cc.length:Int)]),v9,es,u2,((flB (XK n.decls) n.decls (((cons.set x0.toNat xk)++(XD ((ZK n.decls xk).length))),((first.set x0.toNat (cons.length:Int))++(XD ((ZK n.decls xk).length)))) kb (cc++Wz cons.length i x0))++[(Instr.mk 18 (cons.length:Int) 0 0 [kb.result] [])]),v212,ob,(by have h:=Z3i (X:=XK n.decls) hkb om Zh;rw [hfl3,hie,hA] at h;exact h),(fun j hj=>(Zy j hj).app.flB.app),(E1 (NV (E1 YJ))),WA,WA,WA,rfl,rfl,rfl⟩ (wk [0,6,6,8,6,6,0] (fw (ZO k fl))))))))
 have hAe:=Z3g om Zh
 have hbt:YS (s.kids.take k)=YS s.kids:=by rw [WJ om]
 have hat:=(Xh.1 YJ).1
 rw [hxl] at YJ
 refine Iz 6 cc.length (v:=r3) (Tn cc) om (fun g1 c1 he1=>?_)
 subst he1
 refine ax 0 (aD 13 (ZU 4 13 [0,1,2,3,4,5,6,7,9] [0,1] (Z8 8 (dL 8 [1,0] [b2,e] (Z6 [x0]) 1 1 fun v18=>?_))))
 refine Zs 2 3 [10] (dx 11 (W7 g1 cc.length c1 c.length 6 (c.length:Int)) (Yq 1 1 [] [(194,.agg [.i 21,.i 0,.i s.num,.i 0,Z3 [x0],Z3 ts])] (Z8 12 (JH 12 7 [] [] g1 cc.length c1 6 (c.length*6) [.i 21,.i 0,.i s.num,.i 0,Z3 [x0],Z3 ts] (Ze (Y4 cc)) (Ze (Y4 (cc.set c.length ⟨21,0,s.num,0,[x0],ts⟩))) (by rw [Tn];simp only [Yw,X5];omega) (Fv (t:=⟨21,0,s.num,0,[x0],ts⟩) YJ) (de (Y7 (ab 4 (Y3 (fun fz gz m F h=>∃(i2:Nat) (cc2:List Instr) (r5:Hd),(i2<=es.length)/\(Ty cc2 (es.drop i2)=VS (XK n.decls) n.decls (cons,first) s c)/\(∀j∈es,Zr cc2 j)/\(cc2.length=cc.length)/\F=sF [0,17] fz [(23,.i i2)]/\h=[.obj e [.h r5],Zg gz 6,rK r5 6 (Ze (Y4 cc2))]/\m=es.length-i2) _ _ _ ⟨0,(TT cc c.length ts),(⟨some ⟨g1,0,none⟩,cc.length,c1⟩:Hd),ob,hAe,(fun j hj=>(Zy j hj).fan),(BZ _ _ _),rfl,rfl,rfl⟩ (wk [2,5,0] (Yd fl) (e:=(rc (rc (rr (ls:=(Ze (Y4 (cc.set c.length ⟨21,0,s.num,0,[x0],ts⟩)))) (by rw [Z3d YJ]) rz))))) ?_))))))))
 rintro m F h ⟨i2,cc2,r5,F6,BJ,BK,Zek,rfl,rfl,rfl⟩
 refine YQ 2 (io (.i (((Qg es).length:Nat):Int)) (.i (((Z6 (Qg es)).length:Nat):Int)) (li (by rw [Yc])) (ZZ ((i2:Int)<(((Qg es).length:Nat):Int)) (fun YA=>?_) (fun YA=>?_)))
 ·rw [G6] at YA
  obtain ⟨ei,hei⟩:=Zv es i2 om
  refine ak (aq (ab 5 (az (Z0 3 (Zp (Dv (es:=Z6 (Qg es)) (hv:=some u2) (j:=(i2:Int)) (sz:=1) (y:=.i ei) kr om (Y5 (Z8w hei)) rfl) (Z0 1 (ic [0,1] (Lu e r5 cc2 ei (hz:=(by first|exact BK ei (Y2 hei)|(repeat (first|exact Zr.new rfl rfl|refine Zr.app ?_|refine Zr.flB ?_|refine Zr.aim ?_)))) (hl:=WA)) ?_)))))))
  rintro _ _ ⟨v214,rfl⟩
  exact ie (az (Z0 1 (ZE i2 (Z2 (ZJ ⟨i2+1,(Vu cc2 ei),v214,ob,(Z01 hei BJ),(fun j hj=>(BK j hj).aim),WA,rfl,rfl,rfl⟩ (wk [0,1,0] (ZO i2 fl)))))))
 rw [G6] at YA
 exact ax 4 (r2 [0,1] [] ⟨r5,rfl⟩ (lr _) (eq:=(rc (rr (ls:=Ze (Y4 cc2)) (by rw [Z00 om BJ]) rz))))
theorem Zbu (n:ZC) (b:Z7) (mw:Nat) (cons:LI) (first:LI) (e:Nat) (v:Hd) (c:List Instr) (hn:Xr n) (ht:fB n.decls n.routines.length mw b) (hcl:cons.length=mw) (hfl:first.length=mw) (hfs:Tl first) (hb:mw+4*b.sz<=900000000) (hcn:c.length+16*b.sz<=4000000000) (ih:∀(s2:Z5) (m2:Nat) (cons2:LI) (first2:LI) (e:Nat) (v5:Hd) (c2:List Instr),(fS n.decls n.routines.length m2 s2)->(s2.op=7∨s2.op=8)->(cons2.length=m2)->(first2.length=m2)->(Tl first2)->(m2+4*s2.sz<=900000000)->(c2.length+16*s2.sz<=4000000000)->(s2.sz<b.sz)->Zo 106 [.p e 0,YB n,X0 s2,Z3 cons2,Z3 first2] [.obj e [.h v5],rK v5 6 (Ze (Y4 c2))] (fun r h=>∃(v2:Hd),h=[.obj e [.h v2],rK v2 6 (Ze (Y4 (VS (XK n.decls) n.decls (cons2,first2) s2 c2)))])):Zo 72 [.p e 0,YB n,Yh b,Z3 cons,Z3 first] [.obj e [.h v],rK v 6 (Ze (Y4 c))] (fun r h=>∃(v2:Hd),h=[.obj e [.h v2],rK v2 6 (Ze (Y4 (flB (XK n.decls) n.decls (cons,first) b c)))]):=by
 have Xl:=hn.decls
 have hvs:=((Kt b).1 ht).1
 have hbz:=Uk b
 have hbe:=b.sz_eq
 refine ZG 97 Tryz.func72 (ar (iA (X4 n) fun b1=>iA (XR b) fun b2=>?_))
 refine ie (Y7 (ab 0 (Y3 (fun fz gz m F h=>∃(k:Nat) (cs:LI) (fs:LI) (cc:List Instr) (r3:Hd),(k<=b.steps.length)/\(mw<=cs.length/\cs.length<=mw+Yo (b.steps.take k))/\(W5 n.decls n.routines.length cs.length (b.steps.drop k))/\(Uq (XK n.decls) n.decls (cs,fs) (b.steps.drop k) cc=Uq (XK n.decls) n.decls (cons,first) b.steps c)/\(fs.length=cs.length)/\(Tl fs)/\(cc.length<=c.length+16*Yo (b.steps.take k))/\F=sF [0,6,7] fz [(3,Z3 cs),(4,Z3 fs),(10,.i k)]/\h=[Zg gz 0,Zg gz 1,.obj e [.h r3],rK r3 6 (Ze (Y4 cc))]/\m=b.steps.length-k) _ _ _ ⟨0,cons,first,c,v,ob,om,(by rw [Bw,hcl];exact hvs),rfl,om,hfs,(by simp),rfl,rfl,rfl⟩ (Zw 4 (fw (Yd fl))) ?_)))
 rintro m F h ⟨k,cs,fs,cc,r3,Yk,Zh,Zy,YJ,Wc,Qt,Mx,rfl,rfl,rfl⟩
 refine Yr 3 [0] (iw (Up b.steps) (ZZ ((k:Int)<(b.steps.length:Int)) (fun Z9=>?_) (fun Z9=>?_)))
 ·refine ak (aq (ab 1 (Zq 3 [0] ?_)))
  obtain ⟨x1,Z4⟩:=Zv b.steps k om
  have XL:=Cm Z4
  have hdr:=Yi Z4
  have c0_2s:=Zy
  rw [hdr] at c0_2s
  obtain ⟨g1,g2⟩:=c0_2s
  have hf:=(An x1).1 g1
  have hkz:=QC x1
  have haz:=KX x1
  have htk:=GH Z4
  have htl:=Kh b.steps (k+1)
  have hsp:=x1.sz_pos
  have hdc:=Z38 hf
  have hfl:=Nm (XK n.decls) Xl x1 (cs,fs) cc
  refine Zp (Zj none (k:Int) 5 (WV Z4)) (Z0 1 (iA [.i 0,.i 0,.i 0,nl,nl] fun b3=>?_))
  refine Zz 0 b3 (W8 x1) (ie (Xd (WT [0] (ab 2 (Y0 (Xs (fun fz gz F h=>F=sF [0,3,4,6,7,10,11,26] fz [(41,.b ((x1.op==7)||(x1.op==8)))]/\h=gz) ?_ ?_))))))
  ·refine ac (x1.op==7) Zf (fun Zi=>?_) (fun Zi=>?_)
   ·exact ak (ZD ⟨rfl,rfl⟩ (Zw 5 (fc (x:=.b (x1.op==7)) (lb (by first|rfl|(rw [Zk Zi])|(rw [Za Zi])|(simp [Zi];done)|(rw [Y9];simp [Zi];done)|omega)) fl)))
   exact Vi (ZD ⟨rfl,rfl⟩ (Zw 5 (fc (x:=.b (x1.op==8)) (lb (by first|rfl|(rw [Zk Zi])|(rw [Za Zi])|(simp [Zi];done)|(rw [Y9];simp [Zi];done)|omega)) fl)))
  rintro F h ⟨rfl,rfl⟩
  refine Ae (fun fz gz F h=>∃(r4:Hd),F=sF [0,3,4,6,7,10,11] fz []/\h=[Zg gz 0,Zg gz 1,Zg gz 2,.obj e [.h r4],rK r4 6 (Ze (Y4 (VS (XK n.decls) n.decls (cs,fs) x1 cc)))]) (fun _ _=>rfl) ?_ ?_
  ·refine ac ((x1.op==7)||(x1.op==8)) (p:=(x1.op=7)∨(x1.op=8)) (ZY Zf Zf) (fun ZB=>?_) (fun ZB=>?_)
   ·refine az (ZA 5 [2,0] (ic [3,3] (ih x1 cs.length cs fs e r3 cc g1 ob ob ob Qt ob ob ob) ?_))
    rintro _ _ ⟨v21,rfl⟩
    exact ie (ZD ⟨v21,rfl,rfl⟩ (wk [2,2,2,0,0] fl))
   refine Y0 (Xs (fun fz gz F h=>F=sF [0,3,4,6,7,10,11,26] fz [(50,.b ((x1.op==14)||(x1.op==15)))]/\h=gz) ?_ ?_)
   ·refine ac (x1.op==14) Zf (fun Ye=>?_) (fun Ye=>?_)
    ·exact ak (ZD ⟨rfl,rfl⟩ (Zw 5 (fc (x:=.b (x1.op==14)) (lb (by first|rfl|(rw [Zk Ye])|(rw [Za Ye])|(simp [Ye];done)|(rw [Y9];simp [Ye];done)|omega)) fl)))
    exact Vi (ZD ⟨rfl,rfl⟩ (Zw 5 (fc (x:=.b (x1.op==15)) (lb (by first|rfl|(rw [Zk Ye])|(rw [Za Ye])|(simp [Ye];done)|(rw [Y9];simp [Ye];done)|omega)) fl)))
   rintro F h ⟨rfl,rfl⟩
   refine ac ((x1.op==14)||(x1.op==15)) (p:=(x1.op=14)∨(x1.op=15)) (ZY Zf Zf) (fun YA=>?_) (fun YA=>?_)
   ·refine aE 8 (ZU 3 8 [0,1,2,3,4] [0,0] (Z8 5 (dc 5 [] [0] [b3] (WI x1.args) ?_)))
    rintro _ _ ⟨v1,rfl,rfl⟩
    refine Yq 1 2 [6] [(59,.agg [.i x1.op,.i 0,.i 0,.i 0,Z3 x1.args,.sl [] none])] (Z8 7 (dc 7 [4,4] [] [] (KM e r3 cc (Instr.mk x1.op 0 0 0 x1.args []) (hl:=WA)) ?_))
    rintro _ _ ⟨v22,rfl,rfl⟩
    exact de (ZD ⟨v22,rfl,rfl⟩ (wk [3,3,3,0,0] fl (e:=(rc (rc (rc (rc (rr (ls:=Ze (Y4 (cc++[(Instr.mk x1.op 0 0 0 x1.args [])]))) (by rw [Z3t YA];rfl) rz))))))))
   refine Y0 (Xs (fun fz gz F h=>F=sF [0,3,4,6,7,10,11] fz [(61,.b ((x1.op==16)||(x1.op==17)))]/\h=gz) ?_ ?_)
   ·refine ac (x1.op==16) Zf (fun YW=>?_) (fun YW=>?_)
    ·exact ak (ZD ⟨rfl,rfl⟩ (Zw 5 (fc (x:=.b (x1.op==16)) (lb (by first|rfl|(rw [Zk YW])|(rw [Za YW])|(simp [YW];done)|(rw [Y9];simp [YW];done)|omega)) fl)))
    exact Vi (ZD ⟨rfl,rfl⟩ (Zw 5 (fc (x:=.b (x1.op==17)) (lb (by first|rfl|(rw [Zk YW])|(rw [Za YW])|(simp [YW];done)|(rw [Y9];simp [YW];done)|omega)) fl)))
   rintro F h ⟨rfl,rfl⟩
   refine ac ((x1.op==16)||(x1.op==17)) (p:=(x1.op=16)∨(x1.op=17)) (ZY Zf Zf) (fun Wo=>?_) (fun Wo=>?_)
   ·refine Zq 2 [0] ?_
    obtain ⟨x2,Zx⟩:=Zv x1.args 0 (by obtain ⟨a,ha⟩:=Nc hf om;rw [ha];simp)
    have hg0:=K3 Zx
    have hra:=hf.args x2 (Y2 Zx)
    refine Zp (Zj none 0 1 (Y5 Zx)) (Z2 (aE 20 (ZU 11 20 [0,1,2,3,4,5,6,7,8] [0,0,2] ?_)))
    obtain ⟨x3,YU⟩:=Zv cs x2.toNat om
    have hg1:=UW YU
    have hcf:=V5 Xl x3
    refine dx 9 (Zj none x2 1 (Y5 YU)) (Zs 7 10 [10,12,13] ?_)
    obtain ⟨x4,Uu⟩:=Zv fs x2.toNat om
    have hg2:=UW Uu
    have hgf:=Qt _ (Y2 Uu)
    have hhl:=FB (ZK n.decls x3) x4
    refine dx 14 (Zj none x2 1 (Y5 Uu)) (Zs 5 6 [15] (Z8 11 (YH 11 [] [0,0] [b3,b3] (Q3 n.decls x3) (Z8 16 (YH 16 [] [0,0] [b3,b3] (Zbx (ZK n.decls x3) x4) (Z8 17 (dc 17 [] [0] [b3] (Th x1.args (Ut (ZK n.decls x3) x4) (hl:=WA)) ?_)))))))
    rintro _ _ ⟨v2,rfl,rfl⟩
    refine Yq 1 2 [18] [(86,.agg [.i x1.op,.i 0,.i 0,.i 0,Z3 (x1.args++(Ut (ZK n.decls x3) x4)),.sl [] none])] (Z8 19 (dc 19 [4,4] [] [] (KM e r3 cc (Instr.mk x1.op 0 0 0 (x1.args++(Ut (ZK n.decls x3) x4)) []) (hl:=WA)) ?_))
    rintro _ _ ⟨v23,rfl,rfl⟩
    exact de (ZD ⟨v23,rfl,rfl⟩ (wk [3,3,3,0,0] fl (e:=(rc (rc (rc (rc (rr (ls:=Ze (Y4 (cc++[(Instr.mk x1.op 0 0 0 (x1.args++(Ut (ZK n.decls x3) x4)) [])]))) (by rw [Z3y Wo];show _=Ze (Y4 (cc++[XI _ 0 0 0 (x1.args++Ut (ZK n.decls (gI cs (gI x1.args 0))) (gI fs (gI x1.args 0)))]));rw [hg0,hg1,hg2];rfl) rz))))))))
   refine aE 14 (ZU 10 14 [0,1,2,3] [0] (dw 4 (Yc cs) (ZU 3 9 [5,6,7,8,9,10] [0,0,0] (Z8 11 (dc 11 [] [0,0,0] [b3,b3,b3] (WI x1.args) ?_)))))
   rintro _ _ ⟨v3,rfl,rfl⟩
   refine Yq 1 2 [12] [(39,.agg [.i x1.op,.i cs.length,.i x1.num,.i x1.into,Z3 x1.args,.sl [] none])] (Z8 13 (dc 13 [4,4] [] [] (KM e r3 cc (Instr.mk x1.op (cs.length:Int) x1.num x1.into x1.args []) (hl:=WA)) ?_))
   rintro _ _ ⟨v24,rfl,rfl⟩
   exact de (ZD ⟨v24,rfl,rfl⟩ (wk [3,3,3,0,0] fl (e:=(rc (rc (rc (rc (rr (ls:=Ze (Y4 (cc++[(Instr.mk x1.op (cs.length:Int) x1.num x1.into x1.args [])]))) (by rw [Z3u om om YA Wo];rfl) rz))))))))
  rintro F h ⟨r4,rfl,rfl⟩
  refine Zq 2 [0] (Zu [] (QP x1.op) (ie (ac (Xa x1.op) Iff.rfl (fun Vo=>?_) (fun Vo=>?_))))
  ·refine Yf 1 (iL (Z6 [0]) 1 1 fun v4=>ZM 0 [(92,Z3 [0])] (ic [] (Th cs [0] (hl:=WA)) ?_))
   rintro _ _ ⟨v5,rfl,rfl⟩
   refine Z2 (az (Z0 1 (iL (Z6 [0]) 1 1 fun v6=>ZM 0 [(95,Z3 [0])] (ic [] (Th fs [0] (hl:=WA)) ?_))))
   rintro _ _ ⟨v7,rfl,rfl⟩
   refine Z2 (az (Z0 1 (ZE k (Z2 ?_))))
   have hnc:¬YK x1.op=true:=fun q=>by rw [q,Vo] at hdc;cases hdc
   rw [Za hnc] at g2
   exact ZJ ⟨k+1,(cs++[0]),(fs++[0]),(VS (XK n.decls) n.decls (cs,fs) x1 cc),r4,ob,(by rw [Yl,AL];omega),(by rw [Yl,AL];exact g2),(by have h:=Ns (X:=XK n.decls) Z4 YJ;rw [Za hnc] at h;exact h),(by simp [Wc]),Qt.snoc,om,rfl,rfl,rfl⟩ (wk [5,5,5,5] (fc (x:=ZV (cs++[0]) v5) (Zd.sl _ (Yp Z6 ob)) (fc (x:=ZV (fs++[0]) v7) (Zd.sl _ (Yp Z6 ob)) (ZO k fl))))
  refine ak (az (Z0 1 (ZE k (Z2 ?_))))
  have hyc:YK x1.op=true:=by cases q:YK x1.op with
   | true=>rfl
   | false=>rw [q] at hdc;exact absurd hdc Vo
  rw [Zk hyc] at g2
  exact ZJ ⟨k+1,cs,fs,(VS (XK n.decls) n.decls (cs,fs) x1 cc),r4,ob,om,g2,(by have h:=Ns (X:=XK n.decls) Z4 YJ;rw [Zk hyc] at h;exact h),ob,ob,om,rfl,rfl,rfl⟩ (wk [1,1,1,1] (fw (ZO k fl)))
 exact ax 0 (r2 [2,2] [] ⟨r3,rfl⟩ (lr _) (eq:=(rc (rr (ls:=Ze (Y4 cc)) (by rw [Z41 om YJ,Z3k]) rz))))
theorem Zbv (n:ZC) (hn:Xr n) (k:Nat):(∀(s:Z5) (mw:Nat) (cons:LI) (first:LI) (e:Nat) (v:Hd) (c:List Instr),(fS n.decls n.routines.length mw s)->(s.op=7∨s.op=8)->(cons.length=mw)->(first.length=mw)->(Tl first)->(mw+4*s.sz<=900000000)->(c.length+16*s.sz<=4000000000)->(s.sz<=k)->Zo 106 [.p e 0,YB n,X0 s,Z3 cons,Z3 first] [.obj e [.h v],rK v 6 (Ze (Y4 c))] (fun r h=>∃(v2:Hd),h=[.obj e [.h v2],rK v2 6 (Ze (Y4 (VS (XK n.decls) n.decls (cons,first) s c)))]))/\(∀(b:Z7) (mw:Nat) (cons:LI) (first:LI) (e:Nat) (v:Hd) (c:List Instr),(fB n.decls n.routines.length mw b)->(cons.length=mw)->(first.length=mw)->(Tl first)->(mw+4*b.sz<=900000000)->(c.length+16*b.sz<=4000000000)->(b.sz<=k)->Zo 72 [.p e 0,YB n,Yh b,Z3 cons,Z3 first] [.obj e [.h v],rK v 6 (Ze (Y4 c))] (fun r h=>∃(v2:Hd),h=[.obj e [.h v2],rK v2 6 (Ze (Y4 (flB (XK n.decls) n.decls (cons,first) b c)))])):=by
 induction k with
 | zero=>exact ⟨fun s m cons first e v c h1 h2 h3 h4 h5 h6 h7 h8=>by have:=s.sz_pos;omega,fun b m cons first e v c h1 h2 h3 h4 h5 h6 h7=>by have:=b.sz_eq;omega⟩
 | succ k ih=>exact ⟨fun s m cons first e v c h1 h2 h3 h4 h5 h6 h7 h8=>Zbl n s m cons first e v c hn h1 h2 h3 h4 h5 h6 h7 fun b2 m2 c2 f2 e2 v2 i2 q1 q2 q3 q4 q5 q6 q7=>ih.2 b2 m2 c2 f2 e2 v2 i2 q1 q2 q3 q4 q5 q6 om,fun b m cons first e v c h1 h2 h3 h4 h5 h6 h7=>Zbu n b m cons first e v c hn h1 h2 h3 h4 h5 h6 fun s2 m2 c2 f2 e2 v2 i2 q1 q2 q3 q4 q5 q6 q7 q8=>ih.1 s2 m2 c2 f2 e2 v2 i2 q1 q2 q3 q4 q5 q6 q7 om⟩
theorem Zbt (n:ZC) (b:Z7) (mw:Nat) (cons:LI) (first:LI) (e:Nat) (v:Hd) (c:List Instr) (hn:Xr n:=by exact ob) (ht:fB n.decls n.routines.length mw b:=by exact ob) (hcl:cons.length=mw:=by exact ob) (hfl:first.length=mw:=by exact ob) (hfs:Tl first:=by exact ob) (hb:mw+4*b.sz<=900000000:=by exact ob) (hcn:c.length+16*b.sz<=4000000000:=by exact ob):Zo 72 [.p e 0,YB n,Yh b,Z3 cons,Z3 first] [.obj e [.h v],rK v 6 (Ze (Y4 c))] (fun r h=>∃(v2:Hd),h=[.obj e [.h v2],rK v2 6 (Ze (Y4 (flB (XK n.decls) n.decls (cons,first) b c)))]):=(Zbv n hn b.sz).2 b mw cons first e v c ht hcl hfl hfs hb hcn (X7 _)
theorem Zc1 (c:List Instr) (p:Nat) (hrg:Rg c:=by exact ob) (hlc:c.length<=1000000000:=by exact ob) (hp:p<=1000000000:=by exact ob):Zo 75 [KF c,.i p] [] (Yy (.i (max (Ud 0 c) (p:Int)))):=by
 refine ZG 45 Tryz.func75 (Y7 (Y7 (Y0 (ab 0 (Y3 (fun fz gz m F h=>∃(k:Nat) (mx:Int),(k<=c.length)/\(0<=mx/\mx<=1000000001)/\(Ud mx (c.drop k)=Ud (p:Int) c)/\F=sF [0] fz [(5,.i mx),(6,.i k)]/\h=gz/\m=c.length-k) _ _ _ ⟨0,(p:Int),ob,ob,rfl,rfl,rfl,rfl⟩ (wk [] (fr (Yd fl))) ?_)))))
 rintro m F h ⟨k,mx,Yk,Zh,Zy,rfl,rfl,rfl⟩
 refine YQ 2 (iw (Q9 c) (ZZ ((k:Int)<(c.length:Int)) (fun Z9=>?_) (fun Z9=>?_)))
 ·refine ak (aq (ab 1 (Yf 3 ?_)))
  obtain ⟨x1,Z4⟩:=Zv c k om
  have hrx:=hrg _ (Y2 Z4)
  have hdx:=hrx.dst
  have hlx:=hrx.len
  refine Zp (Zj none (k:Int) 6 (Q8 Z4)) (Z0 2 (ia ((x1.dst+1)) ((x1.dst)+(1)) (Zp (FL mx (x1.dst+1)) (Z2 (Y7 (ab 2 (Y3 (fun fz gz m F h=>∃(j:Nat) (mm:Int),(j<=x1.args.length)/\(0<=mm/\mm<=1000000001)/\((x1.args.drop j).foldl (fun m a=>max m (a+1)) mm=QJ mx x1)/\F=sF [0,6] fz [(5,.i mm),(7,.i j)]/\h=gz/\m=x1.args.length-j) _ _ _ ⟨0,(max mx (x1.dst+1)),ob,ob,rfl,rfl,rfl,rfl⟩ (wk [] (fr (Yd fl))) ?_)))))))
  rintro m F h ⟨j,mm,U7,Wb,XV,rfl,rfl,rfl⟩
  refine YQ 3 (Zp (Zj none (k:Int) 6 (Q8 Z4)) (Z0 2 (iw (Yc x1.args) (ZZ ((j:Int)<(x1.args.length:Int)) (fun Zi=>?_) (fun Zi=>?_)))))
  ·refine ak (aq (ab 3 (az (Z0 3 (Zp (Zj none (k:Int) 6 (Q8 Z4)) (Z0 3 ?_))))))
   obtain ⟨x2,Zx⟩:=Zv x1.args j om
   have hax:=hrx.args x2 (Y2 Zx)
   exact Zp (Zj none (j:Int) 1 (Y5 Zx)) (Z0 1 (ia ((x2+1)) ((x2)+(1)) (Zp (FL mm (x2+1)) (Z2 (az (Z0 1 (ZE j (Z2 (ZJ ⟨j+1,(max mm (x2+1)),ob,ob,(Z8i Zx XV),rfl,rfl,rfl⟩ (wk [] (fr (ZO j fl))))))))))))
  exact ax 2 (az (Z0 1 (ZE k (Z2 (ZJ ⟨k+1,mm,ob,ob,(Za0 Z4 (Z8h om XV) Zy),rfl,rfl,rfl⟩ (wk [] (fr (ZO k fl))))))))
 exact ax 0 (ar (Zm (ZW (.i mx) (li (by rw [<-Z9y];exact Z9z om Zy)))))
theorem Z53 (n:ZC) (q:Nat) (hF:FN n q:=by exact ob) (hq:q<=10000000:=by exact ob):Zo 36 [YB n] [] (Yy (VX (JO n))):=by
 have hn:=hF.ok
 have hzl:=hF.len
 have Xl:=hn.decls
 refine ZG 73 Tryz.func36 (ar (iA (X4 n) fun b1=>iA [nl,nl] fun b2=>ie (Zq 2 [1] (Zu [] (AF n.decls (hd:=hn.decls)) (iL (XX []) 0 5 fun v1=>Z0 1 (iA [nl,nl] fun b3=>?_))))))
 refine Zz 0 b3 [Ya n.decls,U5 [] v1] (ie (Y0 (ab 0 (Y3 (fun fz gz m F h=>∃(k:Nat) (v:Value),(k<=n.routines.length)/\F=sF [1,2,3] fz [(4,.i k)]/\h=[.obj b3 [Ya n.decls,U5 ((n.routines.take k).map (Bl n.decls)) v],Zg gz 2,Zg gz 3,.tail v 5]/\m=n.routines.length-k) _ _ _ ⟨0,v1,ob,rfl,rfl,rfl⟩ (wk [0,1,1,0] (Yd fl)) ?_))))
 rintro m F h ⟨k,v,Yk,rfl,rfl,rfl⟩
 refine Yr 3 [2] (iw (TB n.routines) (ZZ ((k:Int)<(n.routines.length:Int)) (fun Z9=>?_) (fun Z9=>?_)))
 ·refine ak (aq (ab 1 (Zq 3 [2] ?_)))
  obtain ⟨x1,Z4⟩:=Zv n.routines k om
  have hrm:=Y2 Z4
  have hbz:=hF.body _ hrm
  have hpl:=hn.params_at Z4
  have hll:=hn.lent_at Z4
  have hcg:=MA hF hq _ hrm
  have hfl:=B5 (XK n.decls) Xl (x1).body (XD (x1).params.length,XD (x1).params.length) []
  simp only [X5] at hfl
  refine Zp (Zj none (k:Int) 5 (Vw Z4)) (Z0 1 (iA [nl,nl,.i 0,nl,.i 0] fun b4=>Zz 0 b4 (Jd x1) (ie (ar (E6 6 fun g1=>Z0 1 (iA [.ms g1 0 0 0] fun b5=>Z2 (Zq 2 [2] (iw (Yc x1.params) (Zu [] (RK x1.params.length) (Z2 (Zq 6 [5,2] (ic [0,0] (Zbt n x1.body x1.params.length (XD x1.params.length) (XD x1.params.length) b5 (⟨some ⟨g1,0,none⟩,0,0⟩:Hd) [] (ht:=hbz.1) (hcl:=(De _)) (hfl:=(De _)) (hfs:=(Sy _ om)) (hcn:=(by simp only [X5];omega))) ?_))))))))))))
  rintro _ _ ⟨v21,rfl⟩
  refine ie (Zq 4 [2] (iL (Z6 [x1.body.result]) 1 1 fun v2=>ZM 1 [(44,.agg [.i 23,.i 0,.i 0,.i 0,Z3 [x1.body.result],.sl [] none])] (ic [1,1] (KM b5 v21 (flB (XK n.decls) n.decls ((XD x1.params.length),(XD x1.params.length)) x1.body []) (Instr.mk 23 0 0 0 [x1.body.result] []) (hl:=om)) ?_)))
  rintro _ _ ⟨v22,rfl,rfl⟩
  refine Xi (LH 1 v22.v 6 (Ze (Y4 ((flB (XK n.decls) n.decls ((XD x1.params.length),(XD x1.params.length)) x1.body [])++[(Instr.mk 23 0 0 0 [x1.body.result] [])]))) (Ze (Y4 (U8 n.decls x1))) (by rfl)) (Xi (Ul 0 0 0 v22.v 6 b5 (Y4 (U8 n.decls x1)) [.h v22] (Ai _) rfl) (ie (aE 27 (ZU 13 27 [0,1,2,3,5,6,8,9,10,11,12,13,14,15] [4,3,3,3,0,3] (dw 16 (Yc x1.params) (ZU 8 12 [18,19,20,21] [0] (Z8 4 (dc 4 [] [0,1,0,1,1,2] [b5,b4,b5,b4,b4,b3] (WI x1.params) ?_))))))))
  rintro _ _ ⟨v3,rfl,rfl⟩
  refine Z8 7 (dc 7 [] [0,1,0,1,2] [b5,b4,b5,b4,b3] (WI x1.lent) ?_)
  rintro _ _ ⟨v4,rfl,rfl⟩
  exact Yq 6 6 [] [(59,KF (U8 n.decls x1))] (Z8 17 (YH 17 [] [0,1,2] [b5,b4,b3] (Zc1 (U8 n.decls x1) x1.params.length (hrg:=hcg.1)) (Yq 4 5 [22] [(68,.agg [Z3 x1.params,Z3 x1.lent,.i x1.result,.i (max (Ud 0 (U8 n.decls x1)) (x1.params.length:Int)),KF (U8 n.decls x1)])] (Z8 23 (dL 23 [2] [b3] (XX [(ZX.mk x1.params x1.lent x1.result (max (Ud 0 (U8 n.decls x1)) (x1.params.length:Int)) (U8 n.decls x1))]) 1 5 fun v5=>Yq 3 3 [] [(69,Ef [(ZX.mk x1.params x1.lent x1.result (max (Ud 0 (U8 n.decls x1)) (x1.params.length:Int)) (U8 n.decls x1))])] (Z8 24 (dp 24 10 [] [] (XX ((n.routines.take (k+1)).map (Bl n.decls))) (XX ((n.routines.take k).map (Bl n.decls))) (XX [(ZX.mk x1.params x1.lent x1.result (max (Ud 0 (U8 n.decls x1)) (x1.params.length:Int)) (U8 n.decls x1))]) v none 5 (K1 _) (K1 _) (HN _) (by simp<;>omega) (by rw [WU Z4];simp [XX,Bl]) fun v6=>Zs 1 2 [25] (Z8 26 (YZ 26 8 [] [] b3 [Ya n.decls,U5 ((n.routines.take (k+1)).map (Bl n.decls)) v6] (de (az (Z0 1 (ZE k (Z2 (ZJ ⟨k+1,v6,ob,rfl,rfl,rfl⟩ (wk [0,8,8,0] (ZO k fl)))))))))))))))))
 exact ax 0 (Zq 1 [0] (Zz 1 b2 [Ya n.decls,U5 ((n.routines.take k).map (Bl n.decls)) v] (ie (ZT (r3 [] [.agg [Ya n.decls,U5 ((n.routines.take k).map (Bl n.decls)) v]] [0] [(b2,b2)] ⟨rfl,rfl⟩ (Zd.agg (.cons (Zd.sl _ (Yp YR rfl)) (.cons (Zd.sl _ (Yp XX (by rw [WJ om];rfl))) .nil))))))))
theorem Z4g (rd:Nat) (bs:LI) (p:Nat) (ZI:∀z∈bs,0<=z/\z<=255) (hp:p+400030<=1000000000:=by exact ob):Zo 37 [.p rd 0] [YD rd bs p] (fun r h=>∃(n:ZC) (p2:Nat),r=YB n/\h=[YD rd bs p2]/\FN n 7330630/\p<=p2/\p2<=p+400030):=by
 refine ZG 35 Tryz.func37 (ar (iA [nl,nl] fun b1=>ie (Yf 1 (ic [1] (Z50 rd bs p (ZI:=ob)) ?_))))
 rintro _ _ ⟨n1,p21,rfl,rfl,Y6⟩
 have hcf:=FO.le Y6.1 (show 814510<=814514 by omega)
 have hcp:=Y6
 refine iA [nl,nl] fun b2=>Zz 0 b2 (X4 n1) (ie (YQ 1 (ic [1] (XS rd bs p21 4 (ZI:=ob)) ?_)))
 rintro _ _ ⟨k1,rfl,rfl,Yt⟩
 refine Z2 (Xs (fun fz gz F h=>∃(na:ZC) (pa:Nat),(FO na 814514 Vl)/\(p<=pa/\pa<=p+400010)/\F=sF [0,2,3] fz []/\h=[YD rd bs pa,.obj b2 (X4 na),Zg gz 2]) ?_ ?_)
 ·refine ac (k1==0) Zf (fun Z9=>?_) (fun Z9=>?_)
  ·refine az (ZA 2 [1] (ic [0] (NN rd bs (p21+1) n1 (ZI:=ob) (hz:=(by first|exact (FO.zn hcp.1).sz om|exact Kz.sz om)) (hl1:=(by first|(have:=hcp.1.fn.len;omega)|(have:=Kz.len;omega)))) ?_))
   rintro _ _ ⟨n21,p22,rfl,rfl,YP⟩
   have hho:=YP
   exact Zz 1 b2 (X4 n21) (ie (ZD ⟨n21,p22,(FO.held hcp.1 hho.1),ob,rfl,rfl⟩ (wk [1,0,0] fl)))
  exact ak (ZD ⟨n1,p21+1,hcf,ob,rfl,rfl⟩ (Zw 3 fl))
 rintro F h ⟨na,pa,Ky,Iw,rfl,rfl⟩
 refine YQ 1 (ic [0] (XS rd bs pa 4 (ZI:=ob)) ?_)
 rintro _ _ ⟨k2,rfl,rfl,X2⟩
 refine Z2 (Xs (fun fz gz F h=>∃(nb:ZC) (pb:Nat),(FO nb 814514 Vl)/\(p<=pb/\pb<=p+400012)/\F=sF [0,2,3] fz []/\h=[YD rd bs pb,.obj b2 (X4 nb),Zg gz 2]) ?_ ?_)
 ·refine ac (k2==0) Zf (fun Zi=>?_) (fun Zi=>?_)
  ·refine az (ZA 1 [1] (ic [] (Z4o na 814514 (hn:=Ky)) ?_))
   rintro _ _ ⟨n22,rfl,rfl,Xg⟩
   have hca:=Xg
   exact Zz 1 b2 (X4 n22) (ie (ZD ⟨n22,pa+1,hca,ob,rfl,rfl⟩ (wk [1,0,0] fl)))
  exact ak (ZD ⟨na,pa+1,Ky,ob,rfl,rfl⟩ (Zw 3 fl))
 rintro F h ⟨nb,pb,Vr,Aw,rfl,rfl⟩
 refine Yf 1 (ic [0] (XS rd bs pb 3 (ZI:=ob)) ?_)
 rintro _ _ ⟨k3,rfl,rfl,XQ⟩
 refine Z2 (Y0 (Xs (fun fz gz F h=>∃(nc:ZC) (pc:Nat),(ZN nc 7330626)/\(FN nc 7330626)/\(k3>1->WN nc 7330626)/\(p<=pc/\pc<=p+400014)/\F=sF [0,2,3,4] fz []/\h=[YD rd bs pc,.obj b2 (X4 nc),Zg gz 2]) ?_ ?_))
 ·refine VI (k3>0) (fun ZB=>?_) (fun ZB=>?_)
  ·exact az (ZA 1 [1] (Zu [] (Z63 nb (hn:=Vr.fn.ok) (hz:=(Vr.zn.sz om)) (hwb:=(fun r hr=>(Vr.wl om r hr).w))) (Zz 1 b2 (X4 (Cl nb)) (ie (ZD ⟨(Cl nb),pb+1,((Vr.wn om).sp.zn),(Vr.fn.sp ((Vr.wn om).sp.zn)),(fun _=>(Vr.wn om).sp),ob,rfl,rfl⟩ (wk [1,0,0] fl))))))
  exact ak (ZD ⟨nb,pb+1,(Vr.zn.le om),(Vr.fn.le om),(fun h=>by omega),ob,rfl,rfl⟩ (Zw 3 fl))
 rintro F h ⟨nc,pc,Eb,Iy,D7,Zes,rfl,rfl⟩
 refine Y0 (Xs (fun fz gz F h=>∃(nd:ZC) (pd:Nat),(ZN nd 7330626)/\(FN nd 7330626)/\(p<=pd/\pd<=p+400014)/\F=sF [0,2,3] fz []/\h=[YD rd bs pd,.obj b2 (X4 nd),Zg gz 2]) ?_ ?_)
 ·refine VI (k3>1) (fun Ye=>?_) (fun Ye=>?_)
  ·exact az (ZA 1 [1] (Zu [] (Z60 nc (hn:=(D7 (by assumption)).ok) (hz:=(Eb.sz om)) (hwb:=(fun r hr=>((D7 (by assumption)).wl r hr).w)) (hnr:=(fun r hr=>((D7 (by assumption)).wl r hr).nr))) (Zz 1 b2 (X4 (Ck nc)) (ie (ZD ⟨(Ck nc),pc,(D7 (by assumption)).ru,(Iy.ru (D7 (by assumption)).ru),ob,rfl,rfl⟩ (wk [1,0,0] fl))))))
  exact ak (ZD ⟨nc,pc,Eb,Iy,ob,rfl,rfl⟩ (Zw 3 fl))
 rintro F h ⟨nd,pd,Kz,Ec,Zet,rfl,rfl⟩
 refine YQ 1 (ic [0] (XS rd bs pd 6 (ZI:=ob)) ?_)
 rintro _ _ ⟨k4,rfl,rfl,Wf⟩
 refine YC (k4==0) Zf (fun YA=>?_) (fun YA=>?_)
 ·refine az (ZA 2 [1] (ic [0] (NN rd bs (pd+1) nd (ZI:=ob) (hz:=(by first|exact (FO.zn hcp.1).sz om|exact Kz.sz om)) (hl1:=(by first|(have:=hcp.1.fn.len;omega)|(have:=Kz.len;omega)))) ?_))
  rintro _ _ ⟨n23,p23,rfl,rfl,WY⟩
  have hho:=WY
  exact Zz 1 b2 (X4 n23) (ie (Zq 1 [0] (Zz 2 b1 (X4 n23) (ie (ZT (r3 [2] [YB n23] [0] [(b1,b1)] ⟨n23,p23,rfl,rfl,(by first|exact ⟨Ec.held hho.1 (Kz.held hho.1),by omega,by omega⟩|exact ⟨Ec.le om,by omega,by omega⟩)⟩ (lr _)))))))
 exact ak (Zq 1 [1] (Zz 2 b1 (X4 nd) (ie (ZT (r3 [1] [YB nd] [0] [(b1,b1)] ⟨nd,pd+1,rfl,rfl,(by first|exact ⟨Ec.held hho.1 (Kz.held hho.1),by omega,by omega⟩|exact ⟨Ec.le om,by omega,by omega⟩)⟩ (lr _))))))
theorem Zc2 (c:List Instr) (k:Nat) (reg:Int) (hf:fwd c:=by exact ob) (ha:∀x∈c,x.op=18∨x.op=23->x.args≠[]) (hn:∀x∈c,x.num<=200000000) (hl:c.length<=200000000:=by exact ob) (hk:k<=1000000000:=by exact ob):Zo 125 [KF c,.i k,.i reg] [] (Yy (.b (T2 c k reg))):=by
 refine ZG 47 Tryz.func125 (Y7 (aq (ab 0 (Y3 (fun fz gz m F h=>∃(j:Nat) (rg:Int),(j<=1000000000)/\(T2 c j rg=T2 c k reg)/\F=sF [0] fz [(1,.i j),(2,.i rg)]/\h=gz/\m=c.length-j) _ _ _ ⟨k,reg,ob,rfl,rfl,rfl,rfl⟩ (wk [] fl) ?_))))
 rintro m F h ⟨j,rg,Yk,Zh,rfl,rfl,rfl⟩
 refine YQ 2 (iw (Q9 c) (ZZ ((j:Int)<(c.length:Int)) (fun Z9=>?_) (fun Z9=>?_)))
 ·refine ak (ab 1 (Yf 2 ?_))
  obtain ⟨x1,Z4⟩:=Zv c j om
  have hxm:=Y2 Z4
  have hja:=fun z=>hf j _ Z4 z
  have hnx:=hn _ hxm
  refine Zp (Zj none (j:Int) 6 (Q8 Z4)) (Z0 1 (iA [.i 0,.i 0,.i 0,.i 0,nl,nl] fun b1=>Zz 0 b1 (Vx x1) (ie (Zq 4 [0] (ib (b:=(x1.op==18)) 19 (fun Zc=>?_) (fun Zc=>?_))))))
  ·have Y6:x1.op=18:=(Zf).1 Zc
   refine ZA 2 [0] ?_
   obtain ⟨x2,Zx⟩:=Zv x1.args 0 (Bz.2 (ha _ hxm (.inl (by assumption))))
   have hg:=K3 Zx
   refine Zp (Zj none 0 1 (Y5 Zx)) (YC (x2==rg) Zf (fun Zi=>?_) (fun Zi=>?_))
   ·exact Qb [0] (az (Z0 1 (ZE j (Z2 (ZJ ⟨j+1,x1.dst,om,((Zah hf Z4 ⟨Y6,by rw [hg];assumption⟩).trans Zh),rfl,rfl,rfl⟩ (wk [] (ZO j fl)))))))
   refine Qb [0] (ac (x1.op==22) Zf (fun ZB=>?_) (fun ZB=>?_))
   ·exact az (WT [0] (⟨_,_,_,(by have:=hja (by assumption);omega),⟨x1.num.toNat,rg,(by first|omega|(have:=hja (by assumption);omega)),((R5 hf Z4 (by assumption)).trans Zh),rfl,rfl,rfl⟩,(wk [] (fc (x:=.i x1.num) (li (by have:=hja (by assumption);omega)) fl))⟩))
   refine ar (Xb 11 [] [(46,.b ((x1.op==23)&&(x2==rg)))] (fun gz=>gz) ?_ (fun hj1=>?_))
   ·exact Zm (ZW (.b ((x1.op==23)&&(x2==rg))) (lb (by first|exact (Zh▸Gk om)|(rw [<-Zh,<-Bn Z4 (fun z=>by simp_all) (by assumption)];simp_all;done)|(rw [<-Zh,<-Bn Z4 (fun z=>by simp_all) (by assumption)];simp_all;rw [Y9];simp))))
   refine ZA 4 [0] (ib (b:=(x1.op==23)) 39 (fun ZF=>?_) (fun ZF=>?_))
   ·have Yt:x1.op=23:=(Zf).1 ZF
    exact ZA 2 [0] (Zp (Zj none 0 1 (Y5 Zx)) (Z0 4 (Yb (wk [0] (Zl (x2==rg) ZF fl)) hj1)))
   have YP:¬(x1.op=23):=Y8 Zf ZF
   exact Z0 7 (Yb (wk [0] (Zl false ZF fl)) hj1)
  have X2:¬(x1.op=18):=Y8 Zf Zc
  refine Z2 (Vt (Qb [0] (ac (x1.op==22) Zf (fun Ye=>?_) (fun Ye=>?_))))
  ·exact az (WT [0] (⟨_,_,_,(by have:=hja (by assumption);omega),⟨x1.num.toNat,rg,(by first|omega|(have:=hja (by assumption);omega)),((R5 hf Z4 (by assumption)).trans Zh),rfl,rfl,rfl⟩,(wk [] (fc (x:=.i x1.num) (li (by have:=hja (by assumption);omega)) fl))⟩))
  refine Zq 4 [0] (ib (b:=(x1.op==23)) 39 (fun Ym=>?_) (fun Ym=>?_))
  ·have Xg:x1.op=23:=(Zf).1 Ym
   refine ZA 2 [0] ?_
   obtain ⟨x3,YU⟩:=Zv x1.args 0 (Bz.2 (ha _ hxm (.inr (by assumption))))
   have hg:=K3 YU
   exact Zp (Zj none 0 1 (Y5 YU)) (Zm (ZW (.b (x3==rg)) (lb (by first|exact (Zh▸Gk om)|(rw [<-Zh,<-Bn Z4 (fun z=>by simp_all) (by assumption)];simp_all;done)|(rw [<-Zh,<-Bn Z4 (fun z=>by simp_all) (by assumption)];simp_all;rw [Y9];simp)))))
  have XQ:¬(x1.op=23):=Y8 Zf Ym
  exact Zm (ZW (.b false) (lb (by first|exact (Zh▸Gk om)|(rw [<-Zh,<-Bn Z4 (fun z=>by simp_all) (by assumption)];simp_all;done)|(rw [<-Zh,<-Bn Z4 (fun z=>by simp_all) (by assumption)];simp_all;rw [Y9];simp))))
 exact ax 0 (ar (Zm (ZW (.b false) (lb (by first|exact (Zh▸Gk om)|(rw [<-Zh,<-Bn Z4 (fun z=>by simp_all) (by assumption)];simp_all;done)|(rw [<-Zh,<-Bn Z4 (fun z=>by simp_all) (by assumption)];simp_all;rw [Y9];simp))))))
theorem Lv (x:Instr) (h1:x.args.length<=1000000:=by exact ob) (h2:x.jumps.length<=1000000:=by exact ob):Zo 91 [Tx x] [] (Yy (Tx x)):=by
 refine ZG 18 Tryz.func91 (ar (iA (Vx x) fun b1=>iA [.i 0,.i 0,.i 0,.i 0,nl,nl] fun b2=>ie (aD 16 (ZU 4 16 [0,1,2,3,4,5,6,7,8,9,11,12] [1,1,1,1,1,1] (Z8 10 (dc 10 [] [1,1,1,1,1] [b1,b1,b1,b1,b1] (WI x.args) ?_))))))
 rintro _ _ ⟨v1,rfl,rfl⟩
 refine Z8 13 (dc 13 [] [1,1,1,1] [b1,b1,b1,b1] (WI x.jumps) ?_)
 rintro _ _ ⟨v2,rfl,rfl⟩
 exact Zs 1 2 [14] (Z8 15 (YZ 15 2 [] [] b2 [.i x.op,.i x.dst,.i x.num,.i x.into,ZV x.args v1,ZV x.jumps v2] (de (ZT (r3 [] [.agg [.i x.op,.i x.dst,.i x.num,.i x.into,ZV x.args v1,ZV x.jumps v2]] [0] [(b2,b2)] ⟨rfl,rfl⟩ (Zd.agg (.cons (lr _) (.cons (lr _) (.cons (lr _) (.cons (lr _) (.cons (Zd.forget _ _) (.cons (Zd.forget _ _) .nil))))))))))))
theorem Zcj (c:List Instr) (hf:fwd c:=by exact ob) (ha:∀x∈c,x.op=18∨x.op=23->x.args≠[]) (hn:∀x∈c,x.num<=200000000) (hs:∀x∈c,x.args.length<=1000/\x.jumps.length<=1000) (hl:c.length<=200000000:=by exact ob):Zo 84 [KF c] [] (Yy (KF (Qj c))):=by
 refine ZG 44 Tryz.func84 (Y7 (ar (iL (Y4 []) 0 6 fun v1=>?_)))
 refine Z2 (Y0 (ab 0 (Y3 (fun fz gz m F h=>∃(k:Nat) (xs:List Instr) (v:Value),(k<=c.length)/\(xs=KO c (c.take k) 0)/\(xs.length=k)/\F=sF [0] fz [(3,IW xs v),(4,.i k)]/\h=[.tail v 6]/\m=c.length-k) _ _ _ ⟨0,[],v1,ob,rfl,rfl,rfl,rfl,rfl⟩ (wk [0] (fr (Yd fl))) ?_)))
 rintro m F h ⟨k,xs,v,Yk,Zh,Zy,rfl,rfl,rfl⟩
 refine YQ 2 (iw (Q9 c) (ZZ ((k:Int)<(c.length:Int)) (fun Z9=>?_) (fun Z9=>?_)))
 ·refine ak (aq (ab 1 (Yf 2 ?_)))
  obtain ⟨x1,Z4⟩:=Zv c k om
  have hxa:=hs _ (Y2 Z4)
  refine Zp (Zj none (k:Int) 6 (Q8 Z4)) (Z0 1 (Zu [] (Lv x1) (iA [.i 0,.i 0,.i 0,.i 0,nl,nl] fun b1=>Zz 0 b1 (Vx x1) (ie (ar (Xp [0,3,4,5] [(28,.b ((x1.op==9)&&(T2 c (k+1) x1.dst)))] (fun gz=>gz) ?_ ?_))))))
  ·refine ZA 4 [0] (ib (b:=(x1.op==9)) 21 (fun Zc=>?_) (fun Zc=>?_))
   ·have Y6:x1.op=9:=(Zf).1 Zc
    exact Z0 2 (ZE k (ZA 2 [0] (Zu [] (Zc2 c (k+1) x1.dst (hf:=hf) (ha:=ha) (hn:=hn)) (Z2 (wk [0,0] (Zl (T2 c (k+1) x1.dst) Zc fl))))))
   have Yt:¬(x1.op=9):=Y8 Zf Zc
   exact Z2 (wk [0,0] (Zl false Zc fl))
  refine ac ((x1.op==9)&&(T2 c (k+1) x1.dst)) (p:=(x1.op=9)/\((T2 c (k+1) x1.dst)=true)) (YI Zf Iff.rfl) (fun Zi=>?_) (fun Zi=>?_)
  ·exact az (ZA 8 [0,0,0] (iL (Y4 [Instr.mk 24 0 x1.num 0 x1.args x1.jumps]) 1 6 fun v2=>ZM 0 [(37,KF [Instr.mk 24 0 x1.num 0 x1.args x1.jumps])] (ip 2 (Y4 (xs++[Instr.mk 24 0 x1.num 0 x1.args x1.jumps])) (Y4 xs) (Y4 [Instr.mk 24 0 x1.num 0 x1.args x1.jumps]) v none 6 (Ai _) (Ai _) (Fh _) (by simp<;>omega) (by simp [BV,Y4]) fun v3=>Z2 (az (Z0 1 (ZE k (Z2 (ZJ ⟨k+1,(xs++[Instr.mk 24 0 x1.num 0 x1.args x1.jumps]),v3,ob,(by rw [Zh,<-Sc Z4,JX,Zk (by first|assumption|(constructor<;>assumption))]),(by rw [Yl,Zy];rfl),rfl,rfl,rfl⟩ (wk [0] (fr (ZO k fl)))))))))))
  exact az (ZA 2 [0] (iL (Y4 [x1]) 1 6 fun v4=>ZM 0 [(41,KF [x1])] (ip 2 (Y4 (xs++[x1])) (Y4 xs) (Y4 [x1]) v none 6 (Ai _) (Ai _) (Fh _) (by simp<;>omega) (by simp [BV,Y4]) fun v5=>Z2 (az (Z0 1 (ZE k (Z2 (ZJ ⟨k+1,(xs++[x1]),v5,ob,(by rw [Zh,<-Sc Z4,JX,Za (by assumption)]),(by rw [Yl,Zy];rfl),rfl,rfl,rfl⟩ (wk [0] (fr (ZO k fl)))))))))))
 exact ax 0 (ar (Zm (ZW (IW xs v) (Zd.sl _ (Yp Y4 (by rw [Zh,WJ om];rfl))))))
theorem Zci (im:YN) (hg:TG im:=by exact ob):Zo 41 [VX im] [] (Yy (VX (EE im))):=by
 have hil:=hg.len
 have Xl:=hg.decls
 refine ZG 43 Tryz.func41 (ar (iA (U3 im) fun b1=>iA [nl,nl] fun b2=>ie (Zq 2 [1] (Zu [] (AF im.decls (hd:=Xl)) (iL (XX []) 0 5 fun v1=>Z0 1 (iA [nl,nl] fun b3=>?_))))))
 refine Zz 0 b3 [Ya im.decls,U5 [] v1] (ie (Y0 (ab 0 (Y3 (fun fz gz m F h=>∃(k:Nat) (xs:List ZX) (v:Value),(k<=im.procs.length)/\(xs=(im.procs.take k).map DA)/\(xs.length=k)/\F=sF [1,2,3] fz [(4,.i k)]/\h=[.obj b3 [Ya im.decls,U5 xs v],Zg gz 2,Zg gz 3,.tail v 5]/\m=im.procs.length-k) _ _ _ ⟨0,[],v1,ob,rfl,rfl,rfl,rfl,rfl⟩ (wk [0,1,1,0] (Yd fl)) ?_))))
 rintro m F h ⟨k,xs,v,Yk,Zh,Zy,rfl,rfl,rfl⟩
 refine Yr 3 [2] (iw (J1 im.procs) (ZZ ((k:Int)<(im.procs.length:Int)) (fun Z9=>?_) (fun Z9=>?_)))
 ·refine ak (aq (ab 1 (Zq 3 [2] ?_)))
  obtain ⟨x1,Z4⟩:=Zv im.procs k om
  have hpg:=hg.procs _ (Y2 Z4)
  have hpl:=hpg.params
  have hll:=hpg.lent
  have hcl:=hpg.len
  refine Zp (Zj none (k:Int) 5 (J0 Z4)) (Z0 1 (iA [nl,nl,.i 0,.i 0,nl] fun b4=>Zz 0 b4 (UG x1) (ie (aE 20 (ZU 8 20 [0,1,2,3,5,6,8,9,10,11,12,13] [1,0,0,0,0,0] (Z8 4 (dc 4 [] [0,0,0,0,1] [b4,b4,b4,b4,b3] (WI x1.params) ?_)))))))
  rintro _ _ ⟨v2,rfl,rfl⟩
  refine Z8 7 (dc 7 [] [0,0,0,1] [b4,b4,b4,b3] (WI x1.lent) ?_)
  rintro _ _ ⟨v3,rfl,rfl⟩
  exact Z8 14 (YH 14 [] [0,0,1] [b4,b4,b3] (Zcj x1.code (hf:=hpg.fwd) (ha:=hpg.args) (hn:=hpg.num) (hs:=hpg.sz)) (Yq 4 5 [15] [(38,.agg [Z3 x1.params,Z3 x1.lent,.i x1.result,.i x1.regs,KF (Qj x1.code)])] (Z8 16 (dL 16 [1] [b3] (XX [ZX.mk x1.params x1.lent x1.result x1.regs (Qj x1.code)]) 1 5 fun v4=>Yq 3 3 [] [(39,Ef [ZX.mk x1.params x1.lent x1.result x1.regs (Qj x1.code)])] (Z8 17 (dp 17 7 [] [] (XX (xs++[ZX.mk x1.params x1.lent x1.result x1.regs (Qj x1.code)])) (XX xs) (XX [ZX.mk x1.params x1.lent x1.result x1.regs (Qj x1.code)]) v none 5 (K1 _) (K1 _) (HN _) (by simp<;>omega) (by simp [MS,XX]) fun v5=>Zs 1 2 [18] (Z8 19 (YZ 19 5 [] [] b3 [Ya im.decls,U5 (xs++[ZX.mk x1.params x1.lent x1.result x1.regs (Qj x1.code)]) v5] (de (az (Z0 1 (ZE k (Z2 (ZJ ⟨k+1,(xs++[ZX.mk x1.params x1.lent x1.result x1.regs (Qj x1.code)]),v5,ob,(by rw [Zh,WU Z4,List.map_append];rfl),(by rw [Yl,Zy];rfl),rfl,rfl,rfl⟩ (wk [0,5,5,0] (ZO k fl))))))))))))))))
 exact ax 0 (Zq 1 [0] (Zz 1 b2 [Ya im.decls,U5 xs v] (ie (ZT (r3 [] [.agg [Ya im.decls,U5 xs v]] [0] [(b2,b2)] ⟨rfl,rfl⟩ (Zd.agg (.cons (Zd.sl _ (Yp YR rfl)) (.cons (Zd.sl _ (Yp XX (by rw [Zh,WJ om];rfl))) .nil))))))))
theorem Z57 (rd:Nat) (bs:LI) (p:Nat) (ZI:∀z∈bs,0<=z/\z<=255) (hp:p+400031<=1000000000:=by exact ob):Zo 58 [.p rd 0] [YD rd bs p] (fun r h=>∃(im:YN) (p2:Nat),r=VX im/\h=[YD rd bs p2]/\IG im/\p<=p2/\p2<=p+400031):=by
 refine ZG 13 Tryz.func58 (ar (iA [nl,nl] fun b1=>ie (Yf 1 (ic [1] (Z4g rd bs p (ZI:=ob)) ?_))))
 rintro _ _ ⟨n1,p21,rfl,rfl,Y6⟩
 have hbf:=Y6.1
 refine Zu [] (Z53 n1 7330630 (hF:=hbf)) (iA [nl,nl] fun b2=>Zz 0 b2 (U3 (JO n1)) (ie (YQ 1 (ic [1] (XS rd bs p21 3 (ZI:=ob)) ?_))))
 rintro _ _ ⟨k1,rfl,rfl,Yt⟩
 refine YC (k1==0) Zf (fun Z9=>?_) (fun Z9=>?_)
 ·exact Zq 1 [1] (Zu [] (Zci (JO n1) (hg:=(Ir hbf om).tg)) (Zz 2 b1 (U3 (EE (JO n1))) (ie (ZT (r3 [1] [VX (EE (JO n1))] [0] [(b1,b1)] ⟨(EE (JO n1)),p21+1,rfl,rfl,⟨(Ir hbf om).tc,by omega,by omega⟩⟩ (lr _))))))
 exact ak (Zq 1 [1] (Zz 2 b1 (U3 (JO n1)) (ie (ZT (r3 [1] [VX (JO n1)] [0] [(b1,b1)] ⟨(JO n1),p21+1,rfl,rfl,⟨Ir hbf om,by omega,by omega⟩⟩ (lr _))))))
theorem RO (op:Int) :Zo 126 [.i op] [] (Yy (.b (Tg op))):=by
 refine ZG 21 Tryz.func126 (Y7 (Yf 1 (Zu [] (QP op) (Xb 6 [0] [(8,.b (Xa op&&(op != 7)))] (fun gz=>gz) ?_ (fun hj1=>?_)))))
 ·refine Xb 10 [0] [(12,.b ((Xa op&&(op != 7))&&(op != 8)))] (fun gz=>gz) ?_ (fun hj2=>?_)
  ·refine Xb 14 [0] [(16,.b (((Xa op&&(op != 7))&&(op != 8))||(op==18)))] (fun gz=>gz) ?_ (fun hj3=>?_)
   ·refine Xb 18 [] [(20,.b ((((Xa op&&(op != 7))&&(op != 8))||(op==18))||(op==19)))] (fun gz=>gz) ?_ (fun hj4=>?_)
    ·exact Zm (ZW (.b ((((Xa op&&(op != 7))&&(op != 8))||(op==18))||(op==19))) (lb (by rw [Tg,Y9];simp [Xa, *];omega)))
    refine Z0 1 (ib (b:=(((Xa op&&(op != 7))&&(op != 8))||(op==18))) 17 (fun Zc=>?_) (fun Zc=>?_))
    ·have Y6:(((Xa op=true)/\(op≠7))/\(op≠8))∨(op=18):=((ZY (YI (YI Iff.rfl Yv) Yv) Zf)).1 Zc
     exact Z0 3 (Yb (wk [] (Zl true Zc fl)) hj4)
    have Yt:¬((((Xa op=true)/\(op≠7))/\(op≠8))∨(op=18)):=Y8 (ZY (YI (YI Iff.rfl Yv) Yv) Zf) Zc
    exact Z0 3 (Yb (wk [] (Zl (op==19) Zc fl)) hj4)
   refine Z0 1 (ib (b:=((Xa op&&(op != 7))&&(op != 8))) 13 (fun ZF=>?_) (fun ZF=>?_))
   ·have YP:((Xa op=true)/\(op≠7))/\(op≠8):=((YI (YI Iff.rfl Yv) Yv)).1 ZF
    exact Z0 3 (Yb (wk [] (Zl true ZF fl)) hj3)
   have X2:¬(((Xa op=true)/\(op≠7))/\(op≠8)):=Y8 (YI (YI Iff.rfl Yv) Yv) ZF
   exact Z0 3 (Yb (wk [] (Zl (op==18) ZF fl)) hj3)
  refine Z0 1 (ib (b:=(Xa op&&(op != 7))) 9 (fun Ym=>?_) (fun Ym=>?_))
  ·have Xg:(Xa op=true)/\(op≠7):=((YI Iff.rfl Yv)).1 Ym
   exact Z0 3 (Yb (wk [] (Zl (op != 8) Ym fl)) hj2)
  have XQ:¬((Xa op=true)/\(op≠7)):=Y8 (YI Iff.rfl Yv) Ym
  exact Z0 3 (Yb (wk [] (Zl false Ym fl)) hj2)
 refine Z0 1 (ib (b:=Xa op) 5 (fun X8=>?_) (fun X8=>?_))
 ·have Wf:Xa op=true:=(Iff.rfl).1 X8
  exact Z0 3 (Yb (wk [] (Zl (op != 7) X8 fl)) hj1)
 have WY:¬(Xa op=true):=Y8 Iff.rfl X8
 exact Z0 3 (Yb (wk [] (Zl false X8 fl)) hj1)
theorem Z1s (x:Instr) (h1:x.args.length<=1000000:=by exact ob) (h2:x.jumps.length<=1000000:=by exact ob):Zo 91 [Tx x] [] (fun r h=>∃(v:Hd),r=.agg [.i x.op,.i x.dst,.i x.num,.i x.into,.h v,Z3 x.jumps]/\h=[rV v x.args]):=by
 refine ZG 18 Tryz.func91 (ar (iA (Vx x) fun b1=>iA [.i 0,.i 0,.i 0,.i 0,nl,nl] fun b2=>ie (aD 16 (ZU 4 16 [0,1,2,3,4,5,6,7,8,9,11,12] [1,1,1,1,1,1] (Z8 10 (dc 10 [] [1,1,1,1,1] [b1,b1,b1,b1,b1] (AG x.args) ?_))))))
 rintro _ _ ⟨v1,rfl,rfl⟩
 refine Z8 13 (dc 13 [] [1,1,1,1] [b1,b1,b1,b1] (WI x.jumps) ?_)
 rintro _ _ ⟨v2,rfl,rfl⟩
 exact Zs 1 2 [14] (Z8 15 (YZ 15 2 [] [] b2 [.i x.op,.i x.dst,.i x.num,.i x.into,.h v1,ZV x.jumps v2] (de (ZT (r3 [2] [.agg [.i x.op,.i x.dst,.i x.num,.i x.into,.h v1,ZV x.jumps v2]] [0] [(b2,b2)] ⟨v1,rfl,rfl⟩ (Zd.agg (.cons (lr _) (.cons (lr _) (.cons (lr _) (.cons (lr _) (.cons (lr _) (.cons (Zd.forget _ _) .nil))))))))))))
theorem Z4h (rd:Nat) (bs:LI) (p:Nat) (x:Instr) (ZI:∀z∈bs,0<=z/\z<=255) (hp:p+3<=1000000000:=by exact ob) (hx:XB x:=by exact ob):Zo 94 [.p rd 0,Tx x] [YD rd bs p] (fun r h=>∃(y:Instr) (p2:Nat),r=Tx y/\h=[YD rd bs p2]/\XB y/\p<=p2/\p2<=p+3):=by
 have hxl:=hx.l
 have hxn:=hx.n
 refine ZG 85 Tryz.func94 (ar (iA (Vx x) fun b1=>iA [.i 0,.i 0,.i 0,.i 0,nl,nl] fun b2=>ie (Zq 1 [1] (ic [] (Z1s x) ?_))))
 rintro _ _ ⟨v1,rfl,rfl⟩
 refine iA [.i 0,.i 0,.i 0,.i 0,nl,nl] fun b3=>Zz 0 b3 [.i x.op,.i x.dst,.i x.num,.i x.into,.h v1,Z3 x.jumps] (ie (YQ 1 (ic [4] (XS rd bs p 5 (ZI:=ob)) ?_)))
 rintro _ _ ⟨k1,rfl,rfl,Y6⟩
 have hkhp1:=Y6.lt om
 refine ie (ab 0 (ar (YC (k1==0) Zf (fun Z9=>?_) (fun Z9=>?_))))
 ·refine Qb [4] (ac (x.op==14) Zf (fun Zi=>?_) (fun Zi=>?_))
  ·exact az (Z0 1 (Zz 1 b3 [.i 15,.i x.dst,.i x.num,.i x.into,.h v1,Z3 x.jumps] (ie (ar (Xi (QQ 2 v1 x.args) (Xi (Ul 0 0 4 v1.v 1 b3 (Z6 x.args) [.i 15,.i x.dst,.i x.num,.i x.into,.h v1,Z3 x.jumps] (YG _) rfl) (ZA 1 [0] (Zz 3 b2 [.i 15,.i x.dst,.i x.num,.i x.into,ZV x.args v1.v,Z3 x.jumps] (ie (ZT (r3 [3] [.agg [.i 15,.i x.dst,.i x.num,.i x.into,ZV x.args v1.v,Z3 x.jumps]] [0] [(b2,b2)] ⟨(Instr.mk 15 x.dst x.num x.into x.args x.jumps),p+1,rfl,rfl,(by first|exact ⟨hx,by omega,by omega⟩|exact ⟨hx.of rfl rfl (by intro e;first|exact e|(simp at e;done)|omega) (by first|exact hx.n|(simp;omega)|omega),by omega,by omega⟩|exact ⟨hx.of (by simp) rfl (fun e=>e) hx.n,by omega,by omega⟩|exact ⟨.one (by simp) om,by omega,by omega⟩)⟩ (Zd.agg (.cons (lr _) (.cons (lr _) (.cons (lr _) (.cons (lr _) (.cons (Zd.forget _ _) (.cons (lr _) .nil))))))))))))))))))
  refine Qb [4] (ac (x.op==15) Zf (fun ZB=>?_) (fun ZB=>?_))
  ·exact az (Z0 1 (Zz 1 b3 [.i 14,.i x.dst,.i x.num,.i x.into,.h v1,Z3 x.jumps] (ie (ar (Xi (QQ 2 v1 x.args) (Xi (Ul 0 0 4 v1.v 1 b3 (Z6 x.args) [.i 14,.i x.dst,.i x.num,.i x.into,.h v1,Z3 x.jumps] (YG _) rfl) (ZA 1 [0] (Zz 3 b2 [.i 14,.i x.dst,.i x.num,.i x.into,ZV x.args v1.v,Z3 x.jumps] (ie (ZT (r3 [3] [.agg [.i 14,.i x.dst,.i x.num,.i x.into,ZV x.args v1.v,Z3 x.jumps]] [0] [(b2,b2)] ⟨(Instr.mk 14 x.dst x.num x.into x.args x.jumps),p+1,rfl,rfl,(by first|exact ⟨hx,by omega,by omega⟩|exact ⟨hx.of rfl rfl (by intro e;first|exact e|(simp at e;done)|omega) (by first|exact hx.n|(simp;omega)|omega),by omega,by omega⟩|exact ⟨hx.of (by simp) rfl (fun e=>e) hx.n,by omega,by omega⟩|exact ⟨.one (by simp) om,by omega,by omega⟩)⟩ (Zd.agg (.cons (lr _) (.cons (lr _) (.cons (lr _) (.cons (lr _) (.cons (Zd.forget _ _) (.cons (lr _) .nil))))))))))))))))))
  refine Qb [4] (ac (x.op==17) Zf (fun Ye=>?_) (fun Ye=>?_))
  ·exact az (Z0 1 (Zz 1 b3 [.i 16,.i x.dst,.i x.num,.i x.into,.h v1,Z3 x.jumps] (ie (ar (Xi (QQ 2 v1 x.args) (Xi (Ul 0 0 4 v1.v 1 b3 (Z6 x.args) [.i 16,.i x.dst,.i x.num,.i x.into,.h v1,Z3 x.jumps] (YG _) rfl) (ZA 1 [0] (Zz 3 b2 [.i 16,.i x.dst,.i x.num,.i x.into,ZV x.args v1.v,Z3 x.jumps] (ie (ZT (r3 [3] [.agg [.i 16,.i x.dst,.i x.num,.i x.into,ZV x.args v1.v,Z3 x.jumps]] [0] [(b2,b2)] ⟨(Instr.mk 16 x.dst x.num x.into x.args x.jumps),p+1,rfl,rfl,(by first|exact ⟨hx,by omega,by omega⟩|exact ⟨hx.of rfl rfl (by intro e;first|exact e|(simp at e;done)|omega) (by first|exact hx.n|(simp;omega)|omega),by omega,by omega⟩|exact ⟨hx.of (by simp) rfl (fun e=>e) hx.n,by omega,by omega⟩|exact ⟨.one (by simp) om,by omega,by omega⟩)⟩ (Zd.agg (.cons (lr _) (.cons (lr _) (.cons (lr _) (.cons (lr _) (.cons (Zd.forget _ _) (.cons (lr _) .nil))))))))))))))))))
  exact ak (ar (Xi (QQ 2 v1 x.args) (Xi (Ul 0 1 4 v1.v 1 b3 (Z6 x.args) [.i x.op,.i x.dst,.i x.num,.i x.into,.h v1,Z3 x.jumps] (YG _) rfl) (ZA 1 [0] (Zz 3 b2 [.i x.op,.i x.dst,.i x.num,.i x.into,ZV x.args v1.v,Z3 x.jumps] (ie (ZT (r3 [3] [.agg [.i x.op,.i x.dst,.i x.num,.i x.into,ZV x.args v1.v,Z3 x.jumps]] [0] [(b2,b2)] ⟨x,p+1,rfl,rfl,(by first|exact ⟨hx,by omega,by omega⟩|exact ⟨hx.of rfl rfl (by intro e;first|exact e|(simp at e;done)|omega) (by first|exact hx.n|(simp;omega)|omega),by omega,by omega⟩|exact ⟨hx.of (by simp) rfl (fun e=>e) hx.n,by omega,by omega⟩|exact ⟨.one (by simp) om,by omega,by omega⟩)⟩ (Zd.agg (.cons (lr _) (.cons (lr _) (.cons (lr _) (.cons (lr _) (.cons (Zd.forget _ _) (.cons (lr _) .nil)))))))))))))))
 refine ar (YC (k1==1) Zf (fun YA=>?_) (fun YA=>?_))
 ·refine Zq 2 [1] (Zp (Cq 2 v1 x.args) (ZZ ((x.args.length:Int)>0) (fun YW=>?_) (fun YW=>?_)))
  ·refine aE 11 (ZU 6 11 [0,1,2,3,4] [1,1] (dx 5 (Cq 2 v1 x.args) (Zs 4 5 [7] (Z8 6 (dc 6 [0] [0] [b3] (J2 rd bs (p+1) x.args.length (ZI:=ob)) ?_)))))
   rintro _ _ ⟨YO,rfl,rfl,Yt⟩
   refine Z8 8 (dc 8 [0] [0] [b3] (XS rd bs ((p+1)+1) 4 (ZI:=ob)) ?_)
   rintro _ _ ⟨k2,rfl,rfl,YP⟩
   have hkhp3:=YP.lt om
   exact dx 9 (VV 2 v1 x.args (YO:Int) YO) (Z8 10 (BP 10 2 [] [] v1 x.args YO k2 (de (ar (Xi (QQ 0 v1 (x.args.set YO k2)) (Xi (Ul 0 1 4 v1.v 1 b3 (Z6 (x.args.set YO k2)) [.i x.op,.i x.dst,.i x.num,.i x.into,.h v1,Z3 x.jumps] (YG _) rfl) (ZA 1 [0] (Zz 3 b2 [.i x.op,.i x.dst,.i x.num,.i x.into,ZV (x.args.set YO k2) v1.v,Z3 x.jumps] (ie (ZT (r3 [3] [.agg [.i x.op,.i x.dst,.i x.num,.i x.into,ZV (x.args.set YO k2) v1.v,Z3 x.jumps]] [0] [(b2,b2)] ⟨(Instr.mk x.op x.dst x.num x.into (x.args.set YO k2) x.jumps),((p+1)+1)+1,rfl,rfl,(by first|exact ⟨hx,by omega,by omega⟩|exact ⟨hx.of rfl rfl (by intro e;first|exact e|(simp at e;done)|omega) (by first|exact hx.n|(simp;omega)|omega),by omega,by omega⟩|exact ⟨hx.of (by simp) rfl (fun e=>e) hx.n,by omega,by omega⟩|exact ⟨.one (by simp) om,by omega,by omega⟩)⟩ (Zd.agg (.cons (lr _) (.cons (lr _) (.cons (lr _) (.cons (lr _) (.cons (Zd.forget _ _) (.cons (lr _) .nil))))))))))))))))))
  exact ak (ar (Xi (QQ 2 v1 x.args) (Xi (Ul 0 1 4 v1.v 1 b3 (Z6 x.args) [.i x.op,.i x.dst,.i x.num,.i x.into,.h v1,Z3 x.jumps] (YG _) rfl) (ZA 1 [0] (Zz 3 b2 [.i x.op,.i x.dst,.i x.num,.i x.into,ZV x.args v1.v,Z3 x.jumps] (ie (ZT (r3 [3] [.agg [.i x.op,.i x.dst,.i x.num,.i x.into,ZV x.args v1.v,Z3 x.jumps]] [0] [(b2,b2)] ⟨x,p+1,rfl,rfl,(by first|exact ⟨hx,by omega,by omega⟩|exact ⟨hx.of rfl rfl (by intro e;first|exact e|(simp at e;done)|omega) (by first|exact hx.n|(simp;omega)|omega),by omega,by omega⟩|exact ⟨hx.of (by simp) rfl (fun e=>e) hx.n,by omega,by omega⟩|exact ⟨.one (by simp) om,by omega,by omega⟩)⟩ (Zd.agg (.cons (lr _) (.cons (lr _) (.cons (lr _) (.cons (lr _) (.cons (Zd.forget _ _) (.cons (lr _) .nil)))))))))))))))
 refine ar (YC (k1==2) Zf (fun Wo=>?_) (fun Wo=>?_))
 ·refine Zq 2 [4] (Zu [] (RO x.op) (ie (ac (Tg x.op) Iff.rfl (fun Vo=>?_) (fun Vo=>?_))))
  ·refine az (Z0 1 (ic [0] (XS rd bs (p+1) 4 (ZI:=ob)) ?_))
   rintro _ _ ⟨k3,rfl,rfl,X2⟩
   have hkhp4:=X2.lt om
   exact Z0 1 (Zz 1 b3 [.i x.op,.i k3,.i x.num,.i x.into,.h v1,Z3 x.jumps] (ie (ar (Xi (QQ 2 v1 x.args) (Xi (Ul 0 0 4 v1.v 1 b3 (Z6 x.args) [.i x.op,.i k3,.i x.num,.i x.into,.h v1,Z3 x.jumps] (YG _) rfl) (ZA 1 [0] (Zz 3 b2 [.i x.op,.i k3,.i x.num,.i x.into,ZV x.args v1.v,Z3 x.jumps] (ie (ZT (r3 [3] [.agg [.i x.op,.i k3,.i x.num,.i x.into,ZV x.args v1.v,Z3 x.jumps]] [0] [(b2,b2)] ⟨(Instr.mk x.op k3 x.num x.into x.args x.jumps),(p+1)+1,rfl,rfl,(by first|exact ⟨hx,by omega,by omega⟩|exact ⟨hx.of rfl rfl (by intro e;first|exact e|(simp at e;done)|omega) (by first|exact hx.n|(simp;omega)|omega),by omega,by omega⟩|exact ⟨hx.of (by simp) rfl (fun e=>e) hx.n,by omega,by omega⟩|exact ⟨.one (by simp) om,by omega,by omega⟩)⟩ (Zd.agg (.cons (lr _) (.cons (lr _) (.cons (lr _) (.cons (lr _) (.cons (Zd.forget _ _) (.cons (lr _) .nil)))))))))))))))))
  exact ak (ar (Xi (QQ 2 v1 x.args) (Xi (Ul 0 1 4 v1.v 1 b3 (Z6 x.args) [.i x.op,.i x.dst,.i x.num,.i x.into,.h v1,Z3 x.jumps] (YG _) rfl) (ZA 1 [0] (Zz 3 b2 [.i x.op,.i x.dst,.i x.num,.i x.into,ZV x.args v1.v,Z3 x.jumps] (ie (ZT (r3 [3] [.agg [.i x.op,.i x.dst,.i x.num,.i x.into,ZV x.args v1.v,Z3 x.jumps]] [0] [(b2,b2)] ⟨x,p+1,rfl,rfl,(by first|exact ⟨hx,by omega,by omega⟩|exact ⟨hx.of rfl rfl (by intro e;first|exact e|(simp at e;done)|omega) (by first|exact hx.n|(simp;omega)|omega),by omega,by omega⟩|exact ⟨hx.of (by simp) rfl (fun e=>e) hx.n,by omega,by omega⟩|exact ⟨.one (by simp) om,by omega,by omega⟩)⟩ (Zd.agg (.cons (lr _) (.cons (lr _) (.cons (lr _) (.cons (lr _) (.cons (Zd.forget _ _) (.cons (lr _) .nil)))))))))))))))
 refine ar (YC (k1==3) Zf (fun WX=>?_) (fun WX=>?_))
 ·refine Yr 4 [4] (ib (b:=(x.op==16)) 53 (fun Zc=>?_) (fun Zc=>?_))
  ·have Xg:x.op=16:=(Zf).1 Zc
   refine Z2 (VD (Zq 2 [4] ?_))
   obtain ⟨x1,Z4⟩:=Zv x.args 0 (Bz.2 (hx.a om))
   exact Zp (Zj none 0 1 (Y5 Z4)) (Z0 1 (iL (Z6 [x1]) 1 1 fun v2=>Z0 1 (Zz 4 b2 [.i 15,.i 0,.i 0,.i 0,ZV [x1] v2,nl] (ie (ZT (r3 [2] [.agg [.i 15,.i 0,.i 0,.i 0,ZV [x1] v2,nl]] [0] [(b2,b2)] ⟨(Instr.mk 15 0 0 0 [x1] []),p+1,rfl,rfl,(by first|exact ⟨hx,by omega,by omega⟩|exact ⟨hx.of rfl rfl (by intro e;first|exact e|(simp at e;done)|omega) (by first|exact hx.n|(simp;omega)|omega),by omega,by omega⟩|exact ⟨hx.of (by simp) rfl (fun e=>e) hx.n,by omega,by omega⟩|exact ⟨.one (by simp) om,by omega,by omega⟩)⟩ (Zd.agg (.cons (lr _) (.cons (lr _) (.cons (lr _) (.cons (lr _) (.cons (Zd.forget _ _) (.cons (Zd.forget _ _) .nil)))))))))))))
  have XQ:¬(x.op=16):=Y8 Zf Zc
  refine WT [4] (ac (x.op==17) Zf (fun V8=>?_) (fun V8=>?_))
  ·refine Zq 2 [4] ?_
   obtain ⟨x2,Zx⟩:=Zv x.args 0 (Bz.2 (hx.a om))
   exact Zp (Zj none 0 1 (Y5 Zx)) (Z0 1 (iL (Z6 [x2]) 1 1 fun v3=>Z0 1 (Zz 4 b2 [.i 15,.i 0,.i 0,.i 0,ZV [x2] v3,nl] (ie (ZT (r3 [2] [.agg [.i 15,.i 0,.i 0,.i 0,ZV [x2] v3,nl]] [0] [(b2,b2)] ⟨(Instr.mk 15 0 0 0 [x2] []),p+1,rfl,rfl,(by first|exact ⟨hx,by omega,by omega⟩|exact ⟨hx.of rfl rfl (by intro e;first|exact e|(simp at e;done)|omega) (by first|exact hx.n|(simp;omega)|omega),by omega,by omega⟩|exact ⟨hx.of (by simp) rfl (fun e=>e) hx.n,by omega,by omega⟩|exact ⟨.one (by simp) om,by omega,by omega⟩)⟩ (Zd.agg (.cons (lr _) (.cons (lr _) (.cons (lr _) (.cons (lr _) (.cons (Zd.forget _ _) (.cons (Zd.forget _ _) .nil)))))))))))))
  refine ak (Qb [4] (ac (x.op==6) Zf (fun Tc=>?_) (fun Tc=>?_)))
  ·refine az (Z0 1 (ic [0] (XS rd bs (p+1) 4 (ZI:=ob)) ?_))
   rintro _ _ ⟨k4,rfl,rfl,Wf⟩
   have hkhp7:=Wf.lt om
   exact Z0 1 (Zz 1 b3 [.i x.op,.i x.dst,.i x.num,.i k4,.h v1,Z3 x.jumps] (ie (ar (Xi (QQ 2 v1 x.args) (Xi (Ul 0 0 4 v1.v 1 b3 (Z6 x.args) [.i x.op,.i x.dst,.i x.num,.i k4,.h v1,Z3 x.jumps] (YG _) rfl) (ZA 1 [0] (Zz 3 b2 [.i x.op,.i x.dst,.i x.num,.i k4,ZV x.args v1.v,Z3 x.jumps] (ie (ZT (r3 [3] [.agg [.i x.op,.i x.dst,.i x.num,.i k4,ZV x.args v1.v,Z3 x.jumps]] [0] [(b2,b2)] ⟨(Instr.mk x.op x.dst x.num k4 x.args x.jumps),(p+1)+1,rfl,rfl,(by first|exact ⟨hx,by omega,by omega⟩|exact ⟨hx.of rfl rfl (by intro e;first|exact e|(simp at e;done)|omega) (by first|exact hx.n|(simp;omega)|omega),by omega,by omega⟩|exact ⟨hx.of (by simp) rfl (fun e=>e) hx.n,by omega,by omega⟩|exact ⟨.one (by simp) om,by omega,by omega⟩)⟩ (Zd.agg (.cons (lr _) (.cons (lr _) (.cons (lr _) (.cons (lr _) (.cons (Zd.forget _ _) (.cons (lr _) .nil)))))))))))))))))
  exact ak (ar (Xi (QQ 2 v1 x.args) (Xi (Ul 0 1 4 v1.v 1 b3 (Z6 x.args) [.i x.op,.i x.dst,.i x.num,.i x.into,.h v1,Z3 x.jumps] (YG _) rfl) (ZA 1 [0] (Zz 3 b2 [.i x.op,.i x.dst,.i x.num,.i x.into,ZV x.args v1.v,Z3 x.jumps] (ie (ZT (r3 [3] [.agg [.i x.op,.i x.dst,.i x.num,.i x.into,ZV x.args v1.v,Z3 x.jumps]] [0] [(b2,b2)] ⟨x,p+1,rfl,rfl,(by first|exact ⟨hx,by omega,by omega⟩|exact ⟨hx.of rfl rfl (by intro e;first|exact e|(simp at e;done)|omega) (by first|exact hx.n|(simp;omega)|omega),by omega,by omega⟩|exact ⟨hx.of (by simp) rfl (fun e=>e) hx.n,by omega,by omega⟩|exact ⟨.one (by simp) om,by omega,by omega⟩)⟩ (Zd.agg (.cons (lr _) (.cons (lr _) (.cons (lr _) (.cons (lr _) (.cons (Zd.forget _ _) (.cons (lr _) .nil)))))))))))))))
 refine ar (YC (k1==4) Zf (fun V9=>?_) (fun V9=>?_))
 ·refine Qb [4] (ac (x.op==0) Zf (fun TD=>?_) (fun TD=>?_))
  ·refine az (Z0 1 (ic [0] (XS rd bs (p+1) 9 (ZI:=ob)) ?_))
   rintro _ _ ⟨k5,rfl,rfl,WY⟩
   have hkhp8:=WY.lt om
   exact Z0 1 (Zz 1 b3 [.i x.op,.i x.dst,.i k5,.i x.into,.h v1,Z3 x.jumps] (ie (ar (Xi (QQ 2 v1 x.args) (Xi (Ul 0 0 4 v1.v 1 b3 (Z6 x.args) [.i x.op,.i x.dst,.i k5,.i x.into,.h v1,Z3 x.jumps] (YG _) rfl) (ZA 1 [0] (Zz 3 b2 [.i x.op,.i x.dst,.i k5,.i x.into,ZV x.args v1.v,Z3 x.jumps] (ie (ZT (r3 [3] [.agg [.i x.op,.i x.dst,.i k5,.i x.into,ZV x.args v1.v,Z3 x.jumps]] [0] [(b2,b2)] ⟨(Instr.mk x.op x.dst k5 x.into x.args x.jumps),(p+1)+1,rfl,rfl,(by first|exact ⟨hx,by omega,by omega⟩|exact ⟨hx.of rfl rfl (by intro e;first|exact e|(simp at e;done)|omega) (by first|exact hx.n|(simp;omega)|omega),by omega,by omega⟩|exact ⟨hx.of (by simp) rfl (fun e=>e) hx.n,by omega,by omega⟩|exact ⟨.one (by simp) om,by omega,by omega⟩)⟩ (Zd.agg (.cons (lr _) (.cons (lr _) (.cons (lr _) (.cons (lr _) (.cons (Zd.forget _ _) (.cons (lr _) .nil)))))))))))))))))
  refine Qb [4] (ac (x.op==19) Zf (fun C4=>?_) (fun C4=>?_))
  ·refine az (Z0 1 (ic [0] (XS rd bs (p+1) 3 (ZI:=ob)) ?_))
   rintro _ _ ⟨k6,rfl,rfl,Vp⟩
   have hkhp9:=Vp.lt om
   exact Z0 1 (Zz 1 b3 [.i x.op,.i x.dst,.i k6,.i x.into,.h v1,Z3 x.jumps] (ie (ar (Xi (QQ 2 v1 x.args) (Xi (Ul 0 0 4 v1.v 1 b3 (Z6 x.args) [.i x.op,.i x.dst,.i k6,.i x.into,.h v1,Z3 x.jumps] (YG _) rfl) (ZA 1 [0] (Zz 3 b2 [.i x.op,.i x.dst,.i k6,.i x.into,ZV x.args v1.v,Z3 x.jumps] (ie (ZT (r3 [3] [.agg [.i x.op,.i x.dst,.i k6,.i x.into,ZV x.args v1.v,Z3 x.jumps]] [0] [(b2,b2)] ⟨(Instr.mk x.op x.dst k6 x.into x.args x.jumps),(p+1)+1,rfl,rfl,(by first|exact ⟨hx,by omega,by omega⟩|exact ⟨hx.of rfl rfl (by intro e;first|exact e|(simp at e;done)|omega) (by first|exact hx.n|(simp;omega)|omega),by omega,by omega⟩|exact ⟨hx.of (by simp) rfl (fun e=>e) hx.n,by omega,by omega⟩|exact ⟨.one (by simp) om,by omega,by omega⟩)⟩ (Zd.agg (.cons (lr _) (.cons (lr _) (.cons (lr _) (.cons (lr _) (.cons (Zd.forget _ _) (.cons (lr _) .nil)))))))))))))))))
  exact ak (ar (Xi (QQ 2 v1 x.args) (Xi (Ul 0 1 4 v1.v 1 b3 (Z6 x.args) [.i x.op,.i x.dst,.i x.num,.i x.into,.h v1,Z3 x.jumps] (YG _) rfl) (ZA 1 [0] (Zz 3 b2 [.i x.op,.i x.dst,.i x.num,.i x.into,ZV x.args v1.v,Z3 x.jumps] (ie (ZT (r3 [3] [.agg [.i x.op,.i x.dst,.i x.num,.i x.into,ZV x.args v1.v,Z3 x.jumps]] [0] [(b2,b2)] ⟨x,p+1,rfl,rfl,(by first|exact ⟨hx,by omega,by omega⟩|exact ⟨hx.of rfl rfl (by intro e;first|exact e|(simp at e;done)|omega) (by first|exact hx.n|(simp;omega)|omega),by omega,by omega⟩|exact ⟨hx.of (by simp) rfl (fun e=>e) hx.n,by omega,by omega⟩|exact ⟨.one (by simp) om,by omega,by omega⟩)⟩ (Zd.agg (.cons (lr _) (.cons (lr _) (.cons (lr _) (.cons (lr _) (.cons (Zd.forget _ _) (.cons (lr _) .nil)))))))))))))))
 exact ak (ar (Xi (QQ 2 v1 x.args) (Xi (Ul 0 1 4 v1.v 1 b3 (Z6 x.args) [.i x.op,.i x.dst,.i x.num,.i x.into,.h v1,Z3 x.jumps] (YG _) rfl) (ZA 1 [0] (Zz 3 b2 [.i x.op,.i x.dst,.i x.num,.i x.into,ZV x.args v1.v,Z3 x.jumps] (ie (ZT (r3 [3] [.agg [.i x.op,.i x.dst,.i x.num,.i x.into,ZV x.args v1.v,Z3 x.jumps]] [0] [(b2,b2)] ⟨x,p+1,rfl,rfl,(by first|exact ⟨hx,by omega,by omega⟩|exact ⟨hx.of rfl rfl (by intro e;first|exact e|(simp at e;done)|omega) (by first|exact hx.n|(simp;omega)|omega),by omega,by omega⟩|exact ⟨hx.of (by simp) rfl (fun e=>e) hx.n,by omega,by omega⟩|exact ⟨.one (by simp) om,by omega,by omega⟩)⟩ (Zd.agg (.cons (lr _) (.cons (lr _) (.cons (lr _) (.cons (lr _) (.cons (Zd.forget _ _) (.cons (lr _) .nil)))))))))))))))
theorem Z64 (rd:Nat) (bs:LI) (p:Nat) (x:Instr) (lz:Nat) (ZI:∀z∈bs,0<=z/\z<=255) (hp:p+4<=1000000000:=by exact ob) (hx:XZ lz x:=by exact ob) (hl:lz<=100:=by exact ob):Zo 57 [.p rd 0,Tx x] [YD rd bs p] (fun r h=>∃(y:Instr) (p2:Nat),r=Tx y/\h=[YD rd bs p2]/\XZ (lz+1) y/\p<=p2/\p2<=p+4):=by
 have hxl:=hx.l
 have hxn:=hx.n
 refine ZG 48 Tryz.func57 (ar (iA (Vx x) fun b1=>iA [.i 0,.i 0,.i 0,.i 0,nl,nl] fun b2=>ie (Zq 1 [1] (Zu [] (Lv x) (iA [.i 0,.i 0,.i 0,.i 0,nl,nl] fun b3=>Zz 0 b3 (Vx x) (ie (YQ 1 (ic [3] (XS rd bs p 6 (ZI:=ob)) ?_))))))))
 rintro _ _ ⟨k1,rfl,rfl,Y6⟩
 refine ie (ab 0 (ar (YC (k1==0) Zf (fun Z9=>?_) (fun Z9=>?_))))
 ·refine az (Z0 1 (ic [0] (XS rd bs (p+1) 26 (ZI:=ob)) ?_))
  rintro _ _ ⟨k2,rfl,rfl,Yt⟩
  exact Z0 1 (Zz 1 b3 [.i k2,.i x.dst,.i x.num,.i x.into,Z3 x.args,Z3 x.jumps] (ie (Zq 1 [0] (Zz 2 b2 [.i k2,.i x.dst,.i x.num,.i x.into,Z3 x.args,Z3 x.jumps] (ie (ZT (r3 [2] [.agg [.i k2,.i x.dst,.i x.num,.i x.into,Z3 x.args,Z3 x.jumps]] [0] [(b2,b2)] ⟨(Instr.mk k2 x.dst x.num x.into x.args x.jumps),(p+1)+1,rfl,rfl,(by exact ⟨hx.of (by first|(dsimp only;omega)|omega) (by first|(dsimp only;omega)|omega) (by (try dsimp only);first|omega|(rcases hon with e|e|e|e|e|e<;>omega)),by omega,by omega⟩)⟩ (lr _))))))))
 refine ar (YC (k1==1) Zf (fun Zi=>?_) (fun Zi=>?_))
 ·refine az (Z0 1 (iL (Z6 [0,1,-1,99]) 4 1 fun v1=>ZM 0 [(18,Z3 [0,1,-1,99])] (ic [1] (UF rd bs (p+1) [0,1,-1,99] (ZI:=ob)) ?_)))
  rintro _ _ ⟨z1,rfl,rfl,YP⟩
  have hon:=YP
  simp only [YM,List.not_mem_nil,or_false] at hon
  exact Z0 1 (Zz 2 b3 [.i x.op,.i z1,.i x.num,.i x.into,Z3 x.args,Z3 x.jumps] (ie (Zq 1 [0] (Zz 3 b2 [.i x.op,.i z1,.i x.num,.i x.into,Z3 x.args,Z3 x.jumps] (ie (ZT (r3 [2] [.agg [.i x.op,.i z1,.i x.num,.i x.into,Z3 x.args,Z3 x.jumps]] [0] [(b2,b2)] ⟨(Instr.mk x.op z1 x.num x.into x.args x.jumps),(p+1)+1,rfl,rfl,(by exact ⟨hx.of (by first|(dsimp only;omega)|omega) (by first|(dsimp only;omega)|omega) (by (try dsimp only);first|omega|(rcases hon with e|e|e|e|e|e<;>omega)),by omega,by omega⟩)⟩ (lr _))))))))
 refine ar (YC (k1==2) Zf (fun ZB=>?_) (fun ZB=>?_))
 ·refine az (Z0 1 (iL (Z6 [0,1,5,-1,1000,2000]) 6 1 fun v2=>ZM 0 [(24,Z3 [0,1,5,-1,1000,2000])] (ic [1] (UF rd bs (p+1) [0,1,5,-1,1000,2000] (ZI:=ob)) ?_)))
  rintro _ _ ⟨z2,rfl,rfl,X2⟩
  have hon:=X2
  simp only [YM,List.not_mem_nil,or_false] at hon
  exact Z0 1 (Zz 2 b3 [.i x.op,.i x.dst,.i z2,.i x.into,Z3 x.args,Z3 x.jumps] (ie (Zq 1 [0] (Zz 3 b2 [.i x.op,.i x.dst,.i z2,.i x.into,Z3 x.args,Z3 x.jumps] (ie (ZT (r3 [2] [.agg [.i x.op,.i x.dst,.i z2,.i x.into,Z3 x.args,Z3 x.jumps]] [0] [(b2,b2)] ⟨(Instr.mk x.op x.dst z2 x.into x.args x.jumps),(p+1)+1,rfl,rfl,(by exact ⟨hx.of (by first|(dsimp only;omega)|omega) (by first|(dsimp only;omega)|omega) (by (try dsimp only);first|omega|(rcases hon with e|e|e|e|e|e<;>omega)),by omega,by omega⟩)⟩ (lr _))))))))
 refine ar (YC (k1==3) Zf (fun Ye=>?_) (fun Ye=>?_))
 ·refine az (Z0 1 (iL (Z6 [0,1,-1,99]) 4 1 fun v3=>ZM 0 [(30,Z3 [0,1,-1,99])] (ic [1] (UF rd bs (p+1) [0,1,-1,99] (ZI:=ob)) ?_)))
  rintro _ _ ⟨z3,rfl,rfl,Xg⟩
  have hon:=Xg
  simp only [YM,List.not_mem_nil,or_false] at hon
  exact Z0 1 (Zz 2 b3 [.i x.op,.i x.dst,.i x.num,.i z3,Z3 x.args,Z3 x.jumps] (ie (Zq 1 [0] (Zz 3 b2 [.i x.op,.i x.dst,.i x.num,.i z3,Z3 x.args,Z3 x.jumps] (ie (ZT (r3 [2] [.agg [.i x.op,.i x.dst,.i x.num,.i z3,Z3 x.args,Z3 x.jumps]] [0] [(b2,b2)] ⟨(Instr.mk x.op x.dst x.num z3 x.args x.jumps),(p+1)+1,rfl,rfl,(by exact ⟨hx.of (by first|(dsimp only;omega)|omega) (by first|(dsimp only;omega)|omega) (by (try dsimp only);first|omega|(rcases hon with e|e|e|e|e|e<;>omega)),by omega,by omega⟩)⟩ (lr _))))))))
 refine ar (YC (k1==4) Zf (fun YA=>?_) (fun YA=>?_))
 ·refine az (ZA 3 [1] (ic [0] (If rd bs (p+1) x.args (ZI:=ob)) ?_))
  rintro _ _ ⟨zs1,p21,rfl,rfl,XQ⟩
  have hsi:=XQ
  exact Z0 1 (Zz 1 b3 [.i x.op,.i x.dst,.i x.num,.i x.into,Z3 zs1,Z3 x.jumps] (ie (Zq 1 [0] (Zz 2 b2 [.i x.op,.i x.dst,.i x.num,.i x.into,Z3 zs1,Z3 x.jumps] (ie (ZT (r3 [2] [.agg [.i x.op,.i x.dst,.i x.num,.i x.into,Z3 zs1,Z3 x.jumps]] [0] [(b2,b2)] ⟨(Instr.mk x.op x.dst x.num x.into zs1 x.jumps),p21,rfl,rfl,(by exact ⟨hx.of (by first|(dsimp only;omega)|omega) (by first|(dsimp only;omega)|omega) (by (try dsimp only);first|omega|(rcases hon with e|e|e|e|e|e<;>omega)),by omega,by omega⟩)⟩ (lr _))))))))
 refine ar (YC (k1==5) Zf (fun YW=>?_) (fun YW=>?_))
 ·refine az (ZA 3 [1] (ic [0] (If rd bs (p+1) x.jumps (ZI:=ob)) ?_))
  rintro _ _ ⟨zs2,p22,rfl,rfl,Wf⟩
  have hsi:=Wf
  exact Z0 1 (Zz 1 b3 [.i x.op,.i x.dst,.i x.num,.i x.into,Z3 x.args,Z3 zs2] (ie (Zq 1 [0] (Zz 2 b2 [.i x.op,.i x.dst,.i x.num,.i x.into,Z3 x.args,Z3 zs2] (ie (ZT (r3 [2] [.agg [.i x.op,.i x.dst,.i x.num,.i x.into,Z3 x.args,Z3 zs2]] [0] [(b2,b2)] ⟨(Instr.mk x.op x.dst x.num x.into x.args zs2),p22,rfl,rfl,(by exact ⟨hx.of (by first|(dsimp only;omega)|omega) (by first|(dsimp only;omega)|omega) (by (try dsimp only);first|omega|(rcases hon with e|e|e|e|e|e<;>omega)),by omega,by omega⟩)⟩ (lr _))))))))
 exact ak (Zq 1 [1] (Zz 2 b2 (Vx x) (ie (ZT (r3 [1] [Tx x] [0] [(b2,b2)] ⟨x,p+1,rfl,rfl,(by exact ⟨hx.of (by first|(dsimp only;omega)|omega) (by first|(dsimp only;omega)|omega) (by (try dsimp only);first|omega|(rcases hon with e|e|e|e|e|e<;>omega)),by omega,by omega⟩)⟩ (lr _))))))
theorem Zbp (ds:List Zb) (hd:QT ds:=by exact ob):Zo 70 [Ya ds] [] (Yy (Ya ds)):=by
 have hdl:=hd.len
 refine ZG 55 Tryz.func70 (Y7 (ar (iL (YR []) 0 3 fun v1=>?_)))
 refine Z2 (Y0 (ab 0 (Y3 (fun fz gz m F h=>∃(k:Nat) (v:Value),(k<=ds.length)/\F=sF [0] fz [(3,Kc (ds.take k) v),(4,.i k)]/\h=[.tail v 3]/\m=ds.length-k) _ _ _ ⟨0,v1,ob,rfl,rfl,rfl⟩ (wk [0] (fc (x:=Kc [] v1) (Zd.slh _ (Yp YR rfl)) (Yd fl))) ?_)))
 rintro m F h ⟨k,v,Yk,rfl,rfl,rfl⟩
 refine YQ 2 (iw (Uo ds) (ZZ ((k:Int)<(ds.length:Int)) (fun Z9=>?_) (fun Z9=>?_)))
 ·obtain ⟨xd,hxd⟩:=Zv ds k om
  have hcl:=hd.cons_at hxd
  refine ak (aq (ab 1 (ar (iL (Wk []) 0 1 fun v2=>?_))))
  refine Z2 (Y0 (ab 2 (Y3 (fun fz gz m F h=>∃(j:Nat) (u:Value),(j<=xd.cons.length)/\F=sF [0,3,4] fz [(5,Df (xd.cons.take j) u),(6,.i j)]/\h=[.tail u 1,Zg gz 1]/\m=xd.cons.length-j) _ _ _ ⟨0,v2,ob,rfl,rfl,rfl⟩ (wk [0,0] (fc (x:=Df [] v2) (Zd.slh _ (Yp Wk rfl)) (Yd fl))) ?_)))
  rintro m F h ⟨j,u,U7,rfl,rfl,rfl⟩
  refine YQ 3 (Zp (Zj none (k:Int) 3 (Vn hxd)) (Z0 2 (iw (UP xd.cons) (ZZ ((j:Int)<(xd.cons.length:Int)) (fun Zi=>?_) (fun Zi=>?_)))))
  ·refine ak (aq (ab 3 (az (Z0 3 (Zp (Zj none (k:Int) 3 (Vn hxd)) (Z0 3 ?_))))))
   obtain ⟨x1,Z4⟩:=Zv xd.cons j om
   have hfl:=hd.fields_at hxd Z4
   refine Zp (Zj none (j:Int) 1 (BU Z4)) (Z0 2 (ic [] (WI x1.fields) ?_))
   rintro _ _ ⟨v3,rfl,rfl⟩
   exact ZM 1 [(36,Cw x1)] (iL (Wk [x1]) 1 1 fun v4=>ZM 0 [(37,QE [x1])] (ip 2 (Wk (xd.cons.take (j+1))) (Wk (xd.cons.take j)) (Wk [x1]) u none 1 (DR _) (DR _) (MR _) (by simp<;>omega) (by rw [WU Z4];simp [Wk]) fun v5=>Z2 (az (Z0 1 (ZE j (Z2 (ZJ ⟨j+1,v5,ob,rfl,rfl,rfl⟩ (wk [0,2] (fr (ZO j fl))))))))))
  exact ax 2 (aE 16 (Zs 13 16 [0,1,2] (dx 3 (Zj none (k:Int) 3 (Vn hxd)) (Zs 8 12 [4,5,6,7] (dx 8 (Zj none (k:Int) 3 (Vn hxd)) (Yq 3 7 [9,10,11,12] [(51,.agg [.i xd.frm,.i xd.to_,QE (xd.cons.take j)])] (Z8 13 (dL 13 [] [] (YR [Zb.mk xd.frm xd.to_ (xd.cons.take j)]) 1 3 fun v6=>Yq 2 2 [] [(52,Ya [Zb.mk xd.frm xd.to_ (xd.cons.take j)])] (Z8 14 (dp 14 2 [] [] (YR (ds.take (k+1))) (YR (ds.take k)) (YR [Zb.mk xd.frm xd.to_ (xd.cons.take j)]) v none 3 (K0 _) (K0 _) (DS _) (by simp<;>omega) (by rw [WU hxd];simp [YR,WJ (show xd.cons.length<=j by omega)]) fun v7=>Zs 0 1 [15] (de (az (Z0 1 (ZE k (Z2 (ZJ ⟨k+1,v7,ob,rfl,rfl,rfl⟩ (wk [0] (fr (ZO k fl)))))))))))))))))))
 exact ax 0 (ar (Zm (ZW (Kc (ds.take k) v) (Zd.sl _ (Yp YR (by rw [WJ om]))))))
theorem MH (im:YN) (lz:Nat) (hz:IZ im lz:=by exact ob) (hlz:lz<=100:=by exact ob):Zo 53 [VX im] [] (fun r h=>∃(v:Hd) (U:Nat->Hd),r=.agg [Ya im.decls,.h v]/\h=[rK v 5 (pD (Xu U) im.procs 0),rK (U 0) 6 (Ze (Y4 (cL im.procs 0))),rK (U 1) 6 (Ze (Y4 (cL im.procs 1))),rK (U 2) 6 (Ze (Y4 (cL im.procs 2))),rK (U 3) 6 (Ze (Y4 (cL im.procs 3)))]):=by
 have hil:=hz.len
 refine ZG 60 Tryz.func53 (ar (iA (U3 im) fun b1=>iA [nl,nl] fun b2=>ie (Zq 2 [1] (Zu [] (Zbp im.decls (hd:=hz.decls.sz)) (E6 5 fun g1=>Z0 1 (iA [nl,nl] fun b3=>?_))))))
 refine Zz 0 b3 [Ya im.decls,.ms g1 0 0 0] (ie (Xd (Xi (tU0 (im.procs.take 0) rfl) (Z2 (ab 0 (Y3 (fun fz gz m F h=>∃(k:Nat) (v:Hd) (U:Nat->Hd),(k<=im.procs.length)/\F=sF [1,2,3] fz [(4,.i k)]/\h=[.obj b3 [Ya im.decls,.h v],Zg gz 6,Zg gz 7,rK v 5 (pD (Xu U) (im.procs.take k) 0),rK (U 0) 6 (Ze (Y4 (cL (im.procs.take k) 0))),rK (U 1) 6 (Ze (Y4 (cL (im.procs.take k) 1))),rK (U 2) 6 (Ze (Y4 (cL (im.procs.take k) 2))),rK (U 3) 6 (Ze (Y4 (cL (im.procs.take k) 3)))]/\m=im.procs.length-k) _ _ _ ⟨0,(⟨some ⟨g1,0,none⟩,0,0⟩:Hd),U0,ob,rfl,rfl,rfl⟩ (wk [4,5,5,4,0,0,0,0] (Yd fl) (e:=(rc (rc (rc (rr (ls:=[]) (by first|rfl|exact pAll_zero.symm) (rc (rc (rc (rc rz)))))))))) ?_))))))
 rintro m F h ⟨k,v,U,Yk,rfl,rfl,rfl⟩
 refine Yr 3 [2] (iw (J1 im.procs) (ZZ ((k:Int)<(im.procs.length:Int)) (fun Z9=>?_) (fun Z9=>?_)))
 ·refine ak (aq (ab 1 (Zq 3 [2] ?_)))
  obtain ⟨x1,Z4⟩:=Zv im.procs k om
  have hpz:=hz.procs _ (Y2 Z4)
  have Y6:=hpz.params
  have Yt:=hpz.lent
  have YP:=hpz.len
  refine Zp (Zj none (k:Int) 5 (J0 Z4)) (Z0 1 (iA [nl,nl,.i 0,.i 0,nl] fun b4=>Zz 0 b4 (UG x1) (ie (ar (E6 6 fun g2=>?_)))))
  refine Z2 (Y0 (ab 2 (Y3 (fun fz gz m F h=>∃(j:Nat) (r:Hd),(j<=x1.code.length)/\F=sF [1,2,3,4,5] fz [(6,.h r),(7,.i j)]/\h=[Zg gz 1,Zg gz 2,Zg gz 3,Zg gz 4,Zg gz 5,Zg gz 6,Zg gz 7,Zg gz 8,Zg gz 9,rK r 6 (Ze (Y4 (x1.code.take j)))]/\m=x1.code.length-j) _ _ _ ⟨0,(⟨some ⟨g2,0,none⟩,0,0⟩:Hd),ob,rfl,rfl,rfl⟩ (wk [1,1,1,1,1,1,1,1,1,0] (fr (Yd fl)) (e:=(rc (rc (rc (rc (rc (rc (rc (rc (rc (rr (ls:=[]) (by first|rfl|(rw [List.take_zero];rfl)) rz)))))))))))) ?_)))
  rintro m F h ⟨j,r,U7,rfl,rfl,rfl⟩
  refine Yr 3 [0] (iw (Q9 x1.code) (ZZ ((j:Int)<(x1.code.length:Int)) (fun Zi=>?_) (fun Zi=>?_)))
  ·refine ak (aq (ab 3 (az (ZA 4 [0] ?_))))
   obtain ⟨x2,Zx⟩:=Zv x1.code j om
   have hxz:=(hpz.code _ (Y2 Zx)).l
   exact Zp (Zj none (j:Int) 6 (Q8 Zx)) (Z0 1 (Zu [] (Lv x2) (iL (Y4 [x2]) 1 6 fun v1=>ZM 0 [(40,KF [x2])] (FH 10 j r 6 (Ze (Y4 (x1.code.take j))) (Y4 [x2]) none (by rw [Tn,Wd,VW om]) (Ai _) (Fh _) (List.cons_ne_nil _ _) (by simp<;>omega) fun v2=>Z2 (az (Z0 1 (ZE j (Z2 (ZJ ⟨j+1,v2,ob,rfl,rfl,rfl⟩ (wk [2,2,2,2,2,2,2,2,2,0] (fr (ZO j fl)) (e:=(rc (rc (rc (rc (rc (rc (rc (rc (rc (rr (ls:=Ze (Y4 (x1.code.take j))++Ze (Y4 [x2])) (Z43 Zx) rz)))))))))))))))))))))
  refine ax 2 (aE 18 (ZU 7 18 [0,1,2,3,5,6,8,9,10,11,12] [1,0,0,0,0] (Z8 4 (dc 4 [] [0,0,0,1] [b4,b4,b4,b3] (WI x1.params) ?_))))
  rintro _ _ ⟨v3,rfl,rfl⟩
  refine Z8 7 (dc 7 [] [0,0,1] [b4,b4,b3] (WI x1.lent) ?_)
  rintro _ _ ⟨v4,rfl,rfl⟩
  exact Yq 4 5 [13] [(55,.agg [Z3 x1.params,Z3 x1.lent,.i x1.result,.i x1.regs,.h r])] (Z8 14 (dL 14 [1] [b3] [.agg [Z3 x1.params,Z3 x1.lent,.i x1.result,.i x1.regs,.h r]] 1 5 fun v5=>Yq 3 3 [] [(56,.sl [.agg [Z3 x1.params,Z3 x1.lent,.i x1.result,.i x1.regs,.h r]] none)] (Z8 15 (Hx 15 7 k [] [] v 5 (pD (Xu U) (im.procs.take k) 0) [.agg [Z3 x1.params,Z3 x1.lent,.i x1.result,.i x1.regs,.h r]] none (by rw [Jj,Wd,VW om]) (KC rfl) rfl (List.cons_ne_nil _ _) (by simp<;>omega) fun v6=>Zs 1 2 [16] (Z8 17 (YZ 17 5 [] [] b3 [Ya im.decls,.h v6] (BQ (LH 12 r.v 6 (Ze (Y4 (x1.code.take j))) (Ze (Y4 x1.code)) (by rw [WJ om])) (BQ (Zdc 0 8 8 8 8 U im.procs k x1 r Z4 om) (de (az (Z0 1 (ZE k (Z2 (ZJ ⟨k+1,v6,(VU U k r),ob,rfl,rfl,rfl⟩ (wk [4,9,9,4,0,0,0,0] (ZO k fl) (e:=(rc (rc (rc (rr (ls:=pD (Xu U) (im.procs.take k) 0++Ze [.agg [Z3 x1.params,Z3 x1.lent,.i x1.result,.i x1.regs,.h r]]) (by first|rfl|exact Z9j Z4) (rc (rc (rc (rc rz))))))))))))))))))))))))
 exact ax 0 (Zq 1 [0] (Zz 1 b2 [Ya im.decls,.h v] (ie (ZT (r3 [3,3,3,3,3] [.agg [Ya im.decls,.h v]] [0] [(b2,b2)] ⟨v,U,rfl,rfl⟩ (lr _) (eq:=(rr (ls:=pD (Xu U) (im.procs.take k) 0) (by rw [WJ om]) (rr (ls:=Ze (Y4 (cL (im.procs.take k) 0))) (by rw [WJ om]) (rr (ls:=Ze (Y4 (cL (im.procs.take k) 1))) (by rw [WJ om]) (rr (ls:=Ze (Y4 (cL (im.procs.take k) 2))) (by rw [WJ om]) (rr (ls:=Ze (Y4 (cL (im.procs.take k) 3))) (by rw [WJ om]) rz)))))))))))
theorem Z4i (rd:Nat) (bs:LI) (p:Nat) (im:YN) (ZI:∀z∈bs,0<=z/\z<=255) (hp:p+11<=1000000000:=by exact ob) (hb:IB im:=by exact ob):Zo 59 [.p rd 0,VX im] [YD rd bs p] (fun r h=>∃(y:YN) (p2:Nat),r=VX y/\h=[YD rd bs p2]/\IB y/\p<=p2/\p2<=p+11):=by
 have hil:=hb.len
 refine ZG 52 Tryz.func59 (ar (iA (U3 im) fun b1=>iA [nl,nl] fun b2=>ie (Zq 1 [1] (ic [] (MH im 0 (hz:=hb.z)) ?_))))
 rintro _ _ ⟨v1,U1,rfl,rfl⟩
 refine E5 0 im.procs.length (v:=v1) (Jj (Xu U1) im.procs 0) om (fun g1 c1 he1=>?_)
 subst he1
 refine iA [nl,nl] fun b3=>Zz 0 b3 [Ya im.decls,.ms g1 0 im.procs.length c1] (ie (YQ 1 (ic [8] (J2 rd bs p 2 (ZI:=ob)) ?_)))
 rintro _ _ ⟨YO,rfl,rfl,Y6⟩
 refine ia ((((YO+1):Nat):Int)) ((1)+((YO:Int))) (Z2 (ab 0 (Y3 (fun fz gz m F h=>∃(mm:Nat) (X:List ZX) (U:Nat->Hd) (pq:Nat),(mm<=2)/\(X.length=im.procs.length)/\(IB ⟨im.decls,X⟩)/\(p<=pq/\pq+5*mm<=p+11)/\F=sF [0,4,5] fz [(6,.i mm)]/\h=[YD rd bs pq,Zg gz 1,Zg gz 7,.row (.slice (some ⟨g1,0,none⟩) im.procs.length c1) 5 (pD (Xu U) X 0),rK (U 0) 6 (Ze (Y4 (cL X 0))),rK (U 1) 6 (Ze (Y4 (cL X 1))),rK (U 2) 6 (Ze (Y4 (cL X 2))),rK (U 3) 6 (Ze (Y4 (cL X 3)))]/\m=mm+1) _ _ _ ⟨(YO+1),im.procs,U1,(p+1),ob,rfl,hb,ob,rfl,rfl,rfl⟩ (wk [0,0,5,0,0,0,0,0] fl) ?_)))
 rintro m F h ⟨mm,X,U,pq,Yk,Zh,Zy,YJ,rfl,rfl,rfl⟩
 refine Xd (ZZ ((mm:Int)>0) (fun Z9=>?_) (fun Z9=>?_))
 ·refine ak (aq (ab 1 (Zq 3 [1] (io (.i im.procs.length) (.i im.procs.length) (lr _) (ic [0] (J2 rd bs pq im.procs.length (ZI:=ob)) ?_)))))
  rintro _ _ ⟨Xe,rfl,rfl,Yt⟩
  obtain ⟨xp,hxp⟩:=Zv X Xe om
  have hpb:=Zy.procs xp (Y2 hxp)
  have hpl:=hpb.len
  obtain ⟨uf1,huf1⟩:∃u:Hd,u=U Xe:=⟨_,rfl⟩
  refine Xi (Sa 4 4 4 4 U X Xe uf1 xp.code om huf1 (BL hxp)) (E5 0 xp.code.length (v:=uf1) (Tn _) om (fun g2 c2 he2=>?_))
  subst he2
  refine Xi (Sf [0,3,3,3,3,0,0,0] (h':=[.row (.slice (some ⟨g2,0,none⟩) xp.code.length c2) 6 (Ze (Y4 xp.code)),.obj rd [U4 bs,.i (pq+1:Nat)],.obj b3 [Ya im.decls,.ms g1 0 im.procs.length c1],.obj b2 [nl,nl],.row (.slice (some ⟨g1,0,none⟩) im.procs.length c1) 5 (pD (Xu U) X 0),rK (U ((Xe+1) % 4)) 6 (Ze (Y4 (cL X ((Xe+1) % 4)))),rK (U ((Xe+2) % 4)) 6 (Ze (Y4 (cL X ((Xe+2) % 4)))),rK (U ((Xe+3) % 4)) 6 (Ze (Y4 (cL X ((Xe+3) % 4))))]) (d:=[]) kr) (Z2 (Zq 4 [2] (Zp (W7 g1 im.procs.length c1 Xe 5 (Xe:Int)) (Z0 1 (U2 (Va 4 g1 im.procs.length c1 5 (Xe*5+4) (pD (Xu U) X 0) [.ms g2 0 xp.code.length c2] 30 (.ms g2 0 xp.code.length c2) (by have h:=Gd (D:=Xu U) hxp rfl;rw [<-huf1] at h;exact h)) (io (.i xp.code.length) (.i xp.code.length) (lr _) (ic [1] (J2 rd bs (pq+1) xp.code.length (ZI:=ob)) ?_)))))))
  rintro _ _ ⟨QD,rfl,rfl,YP⟩
  obtain ⟨xi,hxi⟩:=Zv xp.code QD om
  have hxb:=hpb.code xi (Y2 hxi)
  refine Z2 (aE 20 (ZU 17 20 [0,1,2] [2] (dx 3 (W7 g1 im.procs.length c1 Xe 5 (Xe:Int)) (Zs 15 16 [4] (Un 5 (Va 4 g1 im.procs.length c1 5 (Xe*5+4) (pD (Xu U) X 0) [.ms g2 0 xp.code.length c2] 30 (.ms g2 0 xp.code.length c2) (by have h:=Gd (D:=Xu U) hxp rfl;rw [<-huf1] at h;exact h)) (ZU 9 14 [6,7,8,9,10] [2] (dx 11 (W7 g1 im.procs.length c1 Xe 5 (Xe:Int)) (Zs 7 8 [12] (Un 13 (Va 4 g1 im.procs.length c1 5 (Xe*5+4) (pD (Xu U) X 0) [.ms g2 0 xp.code.length c2] 30 (.ms g2 0 xp.code.length c2) (by have h:=Gd (D:=Xu U) hxp rfl;rw [<-huf1] at h;exact h)) (Zs 5 6 [14] (dx 15 (W7 g2 xp.code.length c2 QD 6 (QD:Int)) (Un 16 (Va 1 g2 xp.code.length c2 6 (QD*6) (Ze (Y4 xp.code)) (Vx xi) 35 (Tx xi) (I3 hxi)) (Z8 17 (dc 17 [0] [3,1] [g1,b3] (Z4h rd bs ((pq+1)+1) xi (ZI:=ob) (hx:=hxb)) ?_))))))))))))))
  rintro _ _ ⟨y1,p21,rfl,rfl,X2⟩
  have hby:=X2
  exact dx 18 (W7 g2 xp.code.length c2 QD 6 (QD:Int)) (Z8 19 (JH 19 1 [] [] g2 xp.code.length c2 6 (QD*6) (Vx y1) (Ze (Y4 xp.code)) (Ze (Y4 (xp.code.set QD y1))) (by rw [Tn];simp only [Yw,X5];omega) (Fv (t:=y1) hxi) (BQ (Dx 0 4 4 4 U X (X.set Xe (ZX.mk xp.params xp.lent xp.result xp.regs (xp.code.set QD y1))) Xe (⟨some ⟨g2,0,none⟩,xp.code.length,c2⟩:Hd) (xp.code.set QD y1) om huf1 (DO hxp) (fun i hi=>DN hi)) (de (az (Z0 1 (ia ((((mm-1):Nat):Int)) (((mm:Int))-(1)) (Z2 (ZJ ⟨(mm-1),(X.set Xe (ZX.mk xp.params xp.lent xp.result xp.regs (xp.code.set QD y1))),U,p21,ob,(by rw [VC];exact Zh),(Zy.len_put hxp hby.1),ob,rfl,rfl,rfl⟩ (wk [4,4,4,4,0,0,0,0] fl (e:=(rc (rc (rc (rr (ls:=pD (Xu U) X 0) (by first|rfl|exact (Pe hxp).symm) (rc (rc (rc (rc rz)))))))))))))))))))
 exact ax 0 (ar (Xi (Co 3 3 3 3 3 U X (.slice (some ⟨g1,0,none⟩) im.procs.length c1) om) (Xi (Ul 0 1 1 (.slice (some ⟨g1,0,none⟩) im.procs.length c1) 5 b3 (XX X) [Ya im.decls,.ms g1 0 im.procs.length c1] (K1 _) rfl) (ZA 1 [0] (Zz 3 b2 [Ya im.decls,U5 X (.slice (some ⟨g1,0,none⟩) im.procs.length c1)] (ie (ZT (r3 [3] [.agg [Ya im.decls,U5 X (.slice (some ⟨g1,0,none⟩) im.procs.length c1)]] [0] [(b2,b2)] ⟨(YN.mk im.decls X),pq,rfl,rfl,⟨Zy,by omega,by omega⟩⟩ (Zd.agg (.cons (lr _) (.cons (Zd.forget _ _) .nil)))))))))))
theorem Ie (rd:Nat) (bs:LI) (p:Nat) (im:YN) (often:Nat) (lz:Nat) (ZI:∀z∈bs,0<=z/\z<=255) (hp:p+8<=1000000000:=by exact ob) (hz:IZ im lz:=by exact ob) (hlz:lz<=50:=by exact ob):Zo 31 [.p rd 0,VX im,.i often] [YD rd bs p] (fun r h=>∃(y:YN) (p2:Nat),r=VX y/\h=[YD rd bs p2]/\IZ y (lz+1)/\p<=p2/\p2<=p+8):=by
 have hil:=hz.len
 refine ZG 126 Tryz.func31 (ar (iA (U3 im) fun b1=>iA [nl,nl] fun b2=>ie (YQ 2 (ic [2] (XS rd bs p (often:Int) (ZI:=ob)) ?_))))
 rintro _ _ ⟨k1,rfl,rfl,Y6⟩
 refine ZZ (k1>0) (fun Z9=>?_) (fun Z9=>?_)
 ·exact Zq 1 [2] (Zz 1 b2 (U3 im) (ie (ZT (r3 [1] [VX im] [0] [(b2,b2)] ⟨im,p+1,rfl,rfl,(by first|exact ⟨hz.le (Nat.le_succ lz),by omega,by omega⟩|exact ⟨hz.ds had.1,by omega,by omega⟩|exact ⟨hz.put (Nat.le_succ lz) hz.decls (hpz.nl om),by omega,by omega⟩|exact ⟨hz.put (Nat.le_succ lz) hz.decls (hpz.nr (by rcases hon with e|e|e|e|e<;>omega)),by omega,by omega⟩|exact ⟨hz.put (Nat.le_succ lz) hz.decls (hpz.cut _ _),by omega,by omega⟩|exact ⟨hz.put (Nat.le_succ lz) hz.decls (hpz.set (Nat.le_succ lz) hsi.1),by omega,by omega⟩)⟩ (lr _)))))
 refine ak (Zq 1 [2] (ic [] (MH im lz (hz:=hz)) ?_))
 rintro _ _ ⟨v1,U1,rfl,rfl⟩
 refine E5 0 im.procs.length (v:=v1) (Jj (Xu U1) im.procs 0) om (fun g1 c1 he1=>?_)
 subst he1
 refine iA [nl,nl] fun b3=>Zz 0 b3 [Ya im.decls,.ms g1 0 im.procs.length c1] (ie (Zq 3 [0] (io (.i im.procs.length) (.i im.procs.length) (lr _) (ic [6] (J2 rd bs (p+1) im.procs.length (ZI:=ob)) ?_))))
 rintro _ _ ⟨YO,rfl,rfl,Yt⟩
 obtain ⟨xp,hxp⟩:=Zv im.procs YO om
 have hpz:=hz.procs xp (Y2 hxp)
 have hpl:=hpz.len
 have Y6:=hpz.lent
 have Yt:=hpz.regs
 obtain ⟨uf1,huf1⟩:∃u:Hd,u=U1 YO:=⟨_,rfl⟩
 refine Xi (Sa 3 3 3 3 U1 im.procs YO uf1 xp.code om huf1 (BL hxp)) (Xi (Sf [4,4,4,4,4,0,0,0,0] (h':=[.obj rd [U4 bs,.i (((p+1)+1:Nat):Int)],.obj b3 [Ya im.decls,.ms g1 0 im.procs.length c1],.row (.slice (some ⟨g1,0,none⟩) im.procs.length c1) 5 (pD (Xu U1) im.procs 0),.obj b2 [nl,nl],.obj b1 (U3 im),rK uf1 6 (Ze (Y4 xp.code)),rK (U1 ((YO+1) % 4)) 6 (Ze (Y4 (cL im.procs ((YO+1) % 4)))),rK (U1 ((YO+2) % 4)) 6 (Ze (Y4 (cL im.procs ((YO+2) % 4)))),rK (U1 ((YO+3) % 4)) 6 (Ze (Y4 (cL im.procs ((YO+3) % 4))))]) (d:=[]) kr) (Z2 (Zq 3 [1] (Zp (W7 g1 im.procs.length c1 YO 5 (YO:Int)) (U2 (Va 2 g1 im.procs.length c1 5 (YO*5) (pD (Xu U1) im.procs 0) [Z3 xp.params,Z3 xp.lent,.i xp.result,.i xp.regs,.h uf1] 32 (.agg [Z3 xp.params,Z3 xp.lent,.i xp.result,.i xp.regs,.h uf1]) (by have h:=Pf (D:=Xu U1) hxp;rw [show Ax (Xu U1 YO) xp=Cb xp (U1 YO).v from rfl,<-huf1] at h;exact h)) (iA [nl,nl,.i 0,.i 0,nl] fun b4=>Zz 0 b4 [Z3 xp.params,Z3 xp.lent,.i xp.result,.i xp.regs,.h uf1] (ie (Yr 2 [0] (Zp (IA 6 xp.code.length uf1 6 (Ze (Y4 xp.code)) (Tn xp.code)) (YC ((xp.code.length:Int)==0) Zf (fun Zi=>?_) (fun Zi=>?_)))))))))))
 ·exact ar (Xi (Dx 6 6 6 6 U1 im.procs im.procs YO uf1 xp.code om huf1 (BL hxp) (fun i hi=>rfl)) (Xi (Co 7 0 0 0 0 U1 im.procs (.slice (some ⟨g1,0,none⟩) im.procs.length c1) om) (Xi (Ul 0 2 1 (.slice (some ⟨g1,0,none⟩) im.procs.length c1) 5 b3 (XX im.procs) [Ya im.decls,.ms g1 0 im.procs.length c1] (K1 _) rfl) (ZA 1 [0] (Zz 4 b2 [Ya im.decls,U5 im.procs (.slice (some ⟨g1,0,none⟩) im.procs.length c1)] (ie (ZT (r3 [4] [.agg [Ya im.decls,U5 im.procs (.slice (some ⟨g1,0,none⟩) im.procs.length c1)]] [0] [(b2,b2)] ⟨im,(p+1)+1,rfl,rfl,(by first|exact ⟨hz.le (Nat.le_succ lz),by omega,by omega⟩|exact ⟨hz.ds had.1,by omega,by omega⟩|exact ⟨hz.put (Nat.le_succ lz) hz.decls (hpz.nl om),by omega,by omega⟩|exact ⟨hz.put (Nat.le_succ lz) hz.decls (hpz.nr (by rcases hon with e|e|e|e|e<;>omega)),by omega,by omega⟩|exact ⟨hz.put (Nat.le_succ lz) hz.decls (hpz.cut _ _),by omega,by omega⟩|exact ⟨hz.put (Nat.le_succ lz) hz.decls (hpz.set (Nat.le_succ lz) hsi.1),by omega,by omega⟩)⟩ (Zd.agg (.cons (lr _) (.cons (Zd.forget _ _) .nil)))))))))))
 refine Iz 6 xp.code.length (v:=uf1) (Tn _) om (fun g2 c2 he2=>?_)
 subst he2
 refine ak (YQ 1 (ic [1] (XS rd bs ((p+1)+1) 8 (ZI:=ob)) ?_))
 rintro _ _ ⟨k2,rfl,rfl,YP⟩
 refine ie (ab 0 (ar (YC (k2==0) Zf (fun ZB=>?_) (fun ZB=>?_))))
 ·refine aE 18 (ZU 4 18 [0,1,2,3,4,5,6,7,9,10,11,12,13,14] [2,1,1,1,1,1] (Z8 8 (dc 8 [0] [0,0,0,0,1] [b4,b4,b4,b4,b3] (If rd bs (((p+1)+1)+1) xp.lent (ZI:=ob)) ?_)))
  rintro _ _ ⟨zs1,p21,rfl,rfl,X2⟩
  have hsn:=X2
  exact Zs 2 3 [15] (dx 16 (W7 g1 im.procs.length c1 YO 5 (YO:Int)) (Z8 17 (JH 17 3 [] [] g1 im.procs.length c1 5 (YO*5) [Z3 xp.params,Z3 zs1,.i xp.result,.i xp.regs,.ms g2 0 xp.code.length c2] (pD (Xu U1) im.procs 0) (pD (Xu U1) (im.procs.set YO (ZX.mk xp.params zs1 xp.result xp.regs xp.code)) 0) (by rw [Jj];simp only [Yw,X5];omega) (by have h:=L4 (U:=U1) (q:=(ZX.mk xp.params zs1 xp.result xp.regs xp.code)) (u:=(⟨some ⟨g2,0,none⟩,xp.code.length,c2⟩:Hd)) hxp;rw [LO huf1] at h;exact h) (de (ar (Xi (Dx 6 6 6 6 U1 im.procs (im.procs.set YO (ZX.mk xp.params zs1 xp.result xp.regs xp.code)) YO (⟨some ⟨g2,0,none⟩,xp.code.length,c2⟩:Hd) xp.code om huf1 (DO hxp) (fun i hi=>DN hi)) (Xi (Co 4 0 0 0 0 U1 (im.procs.set YO (ZX.mk xp.params zs1 xp.result xp.regs xp.code)) (.slice (some ⟨g1,0,none⟩) im.procs.length c1) (by rw [VC];omega)) (Xi (Ul 0 2 1 (.slice (some ⟨g1,0,none⟩) im.procs.length c1) 5 b3 (XX (im.procs.set YO (ZX.mk xp.params zs1 xp.result xp.regs xp.code))) [Ya im.decls,.ms g1 0 im.procs.length c1] (K1 _) rfl) (ZA 1 [0] (Zz 4 b2 [Ya im.decls,U5 (im.procs.set YO (ZX.mk xp.params zs1 xp.result xp.regs xp.code)) (.slice (some ⟨g1,0,none⟩) im.procs.length c1)] (ie (ZT (r3 [3] [.agg [Ya im.decls,U5 (im.procs.set YO (ZX.mk xp.params zs1 xp.result xp.regs xp.code)) (.slice (some ⟨g1,0,none⟩) im.procs.length c1)]] [0] [(b2,b2)] ⟨(YN.mk im.decls (im.procs.set YO (ZX.mk xp.params zs1 xp.result xp.regs xp.code))),p21,rfl,rfl,(by first|exact ⟨hz.le (Nat.le_succ lz),by omega,by omega⟩|exact ⟨hz.ds had.1,by omega,by omega⟩|exact ⟨hz.put (Nat.le_succ lz) hz.decls (hpz.nl om),by omega,by omega⟩|exact ⟨hz.put (Nat.le_succ lz) hz.decls (hpz.nr (by rcases hon with e|e|e|e|e<;>omega)),by omega,by omega⟩|exact ⟨hz.put (Nat.le_succ lz) hz.decls (hpz.cut _ _),by omega,by omega⟩|exact ⟨hz.put (Nat.le_succ lz) hz.decls (hpz.set (Nat.le_succ lz) hsi.1),by omega,by omega⟩)⟩ (Zd.agg (.cons (lr _) (.cons (Zd.forget _ _) .nil))))))))))))))))
 refine ar (YC (k2==1) Zf (fun Ye=>?_) (fun Ye=>?_))
 ·refine aE 20 (ZU 8 20 [0,1,2,3,4,5,6,7,8,9,10,11] [2,1,1,1,1] (da 12 ((xp.regs+1)) ((xp.regs)+(1)) (ZU 5 7 [15,16] [1] (Z8 13 (dL 13 [1,1,1,1,2] [b4,b4,b4,b4,b3] (Z6 [0,1,xp.regs+1,2001,-1]) 5 1 fun v2=>Yq 4 4 [] [(89,Z3 [0,1,xp.regs+1,2001,-1])] (Z8 14 (dc 14 [1] [0,0,0,0,1] [b4,b4,b4,b4,b3] (UF rd bs (((p+1)+1)+1) [0,1,xp.regs+1,2001,-1] (ZI:=ob)) ?_)))))))
  rintro _ _ ⟨z1,rfl,rfl,Xg⟩
  have hon:=Xg
  simp only [YM,List.not_mem_nil,or_false] at hon
  exact Zs 2 3 [17] (dx 18 (W7 g1 im.procs.length c1 YO 5 (YO:Int)) (Z8 19 (JH 19 4 [] [] g1 im.procs.length c1 5 (YO*5) [Z3 xp.params,Z3 xp.lent,.i xp.result,.i z1,.ms g2 0 xp.code.length c2] (pD (Xu U1) im.procs 0) (pD (Xu U1) (im.procs.set YO (ZX.mk xp.params xp.lent xp.result z1 xp.code)) 0) (by rw [Jj];simp only [Yw,X5];omega) (by have h:=L4 (U:=U1) (q:=(ZX.mk xp.params xp.lent xp.result z1 xp.code)) (u:=(⟨some ⟨g2,0,none⟩,xp.code.length,c2⟩:Hd)) hxp;rw [LO huf1] at h;exact h) (de (ar (Xi (Dx 7 7 7 7 U1 im.procs (im.procs.set YO (ZX.mk xp.params xp.lent xp.result z1 xp.code)) YO (⟨some ⟨g2,0,none⟩,xp.code.length,c2⟩:Hd) xp.code om huf1 (DO hxp) (fun i hi=>DN hi)) (Xi (Co 4 0 0 0 0 U1 (im.procs.set YO (ZX.mk xp.params xp.lent xp.result z1 xp.code)) (.slice (some ⟨g1,0,none⟩) im.procs.length c1) (by rw [VC];omega)) (Xi (Ul 0 3 1 (.slice (some ⟨g1,0,none⟩) im.procs.length c1) 5 b3 (XX (im.procs.set YO (ZX.mk xp.params xp.lent xp.result z1 xp.code))) [Ya im.decls,.ms g1 0 im.procs.length c1] (K1 _) rfl) (ZA 1 [0] (Zz 5 b2 [Ya im.decls,U5 (im.procs.set YO (ZX.mk xp.params xp.lent xp.result z1 xp.code)) (.slice (some ⟨g1,0,none⟩) im.procs.length c1)] (ie (ZT (r3 [3] [.agg [Ya im.decls,U5 (im.procs.set YO (ZX.mk xp.params xp.lent xp.result z1 xp.code)) (.slice (some ⟨g1,0,none⟩) im.procs.length c1)]] [0] [(b2,b2)] ⟨(YN.mk im.decls (im.procs.set YO (ZX.mk xp.params xp.lent xp.result z1 xp.code))),(((p+1)+1)+1)+1,rfl,rfl,(by first|exact ⟨hz.le (Nat.le_succ lz),by omega,by omega⟩|exact ⟨hz.ds had.1,by omega,by omega⟩|exact ⟨hz.put (Nat.le_succ lz) hz.decls (hpz.nl om),by omega,by omega⟩|exact ⟨hz.put (Nat.le_succ lz) hz.decls (hpz.nr (by rcases hon with e|e|e|e|e<;>omega)),by omega,by omega⟩|exact ⟨hz.put (Nat.le_succ lz) hz.decls (hpz.cut _ _),by omega,by omega⟩|exact ⟨hz.put (Nat.le_succ lz) hz.decls (hpz.set (Nat.le_succ lz) hsi.1),by omega,by omega⟩)⟩ (Zd.agg (.cons (lr _) (.cons (Zd.forget _ _) .nil))))))))))))))))
 refine ar (YC (k2==2) Zf (fun YA=>?_) (fun YA=>?_))
 ·refine aE 22 (ZU 8 22 [0,1,2,3,4,5,6,7,10,11,12,13,14,15] [2,1,1,1,1,1] (dn 16 (.i xp.code.length) (.i xp.code.length) (lr _) (da 17 ((((xp.code.length-1):Nat):Int)) (((xp.code.length:Int))-(1)) (dx 18 (Ou 6 g2 xp.code.length c2 (xp.code.length-1) 6 (Ze (Y4 xp.code))) (Z8 8 (dL 8 [1,1,1,1,1,2] [b4,b4,b4,b4,b4,b3] (Z6 [0,1,9]) 3 1 fun v3=>Yq 4 4 [] [(105,Z3 [0,1,9])] (Z8 9 (dc 9 [1] [0,0,0,0,0,1] [b4,b4,b4,b4,b4,b3] (UF rd bs (((p+1)+1)+1) [0,1,9] (ZI:=ob)) ?_))))))))
  rintro _ _ ⟨z2,rfl,rfl,XQ⟩
  have hon:=XQ
  simp only [YM,List.not_mem_nil,or_false] at hon
  exact Zs 2 3 [19] (dx 20 (W7 g1 im.procs.length c1 YO 5 (YO:Int)) (Z8 21 (JH 21 4 [] [] g1 im.procs.length c1 5 (YO*5) [Z3 xp.params,Z3 xp.lent,.i z2,.i xp.regs,.ms g2 0 (xp.code.length-1) c2] (pD (Xu U1) im.procs 0) (pD (Xu (VU U1 YO (⟨some ⟨g2,0,none⟩,(xp.code.length-1),c2⟩:Hd))) (im.procs.set YO (ZX.mk xp.params xp.lent z2 xp.regs (xp.code.take (xp.code.length-1)))) 0) (by rw [Jj];simp only [Yw,X5];omega) (by have h:=L4 (U:=U1) (q:=(ZX.mk xp.params xp.lent z2 xp.regs (xp.code.take (xp.code.length-1)))) (u:=(⟨some ⟨g2,0,none⟩,(xp.code.length-1),c2⟩:Hd)) hxp;exact h) (BQ (Zdd 7 g2 xp.code.length c2 (xp.code.length-1) 6 (Ze (Y4 xp.code)) (Ze (Y4 (xp.code.take (xp.code.length-1)))) om (Z45 _ _)) (de (ar (Xi (S9 0 7 7 7 U1 im.procs (im.procs.set YO (ZX.mk xp.params xp.lent z2 xp.regs (xp.code.take (xp.code.length-1)))) YO (⟨some ⟨g2,0,none⟩,(xp.code.length-1),c2⟩:Hd) (xp.code.take (xp.code.length-1)) om (DO hxp) (fun i hi=>DN hi)) (Xi (Co 4 0 0 0 0 (VU U1 YO (⟨some ⟨g2,0,none⟩,(xp.code.length-1),c2⟩:Hd)) (im.procs.set YO (ZX.mk xp.params xp.lent z2 xp.regs (xp.code.take (xp.code.length-1)))) (.slice (some ⟨g1,0,none⟩) im.procs.length c1) (by rw [VC];omega)) (Xi (Ul 0 3 1 (.slice (some ⟨g1,0,none⟩) im.procs.length c1) 5 b3 (XX (im.procs.set YO (ZX.mk xp.params xp.lent z2 xp.regs (xp.code.take (xp.code.length-1))))) [Ya im.decls,.ms g1 0 im.procs.length c1] (K1 _) rfl) (ZA 1 [0] (Zz 5 b2 [Ya im.decls,U5 (im.procs.set YO (ZX.mk xp.params xp.lent z2 xp.regs (xp.code.take (xp.code.length-1)))) (.slice (some ⟨g1,0,none⟩) im.procs.length c1)] (ie (ZT (r3 [3] [.agg [Ya im.decls,U5 (im.procs.set YO (ZX.mk xp.params xp.lent z2 xp.regs (xp.code.take (xp.code.length-1)))) (.slice (some ⟨g1,0,none⟩) im.procs.length c1)]] [0] [(b2,b2)] ⟨(YN.mk im.decls (im.procs.set YO (ZX.mk xp.params xp.lent z2 xp.regs (xp.code.take (xp.code.length-1))))),(((p+1)+1)+1)+1,rfl,rfl,(by first|exact ⟨hz.le (Nat.le_succ lz),by omega,by omega⟩|exact ⟨hz.ds had.1,by omega,by omega⟩|exact ⟨hz.put (Nat.le_succ lz) hz.decls (hpz.nl om),by omega,by omega⟩|exact ⟨hz.put (Nat.le_succ lz) hz.decls (hpz.nr (by rcases hon with e|e|e|e|e<;>omega)),by omega,by omega⟩|exact ⟨hz.put (Nat.le_succ lz) hz.decls (hpz.cut _ _),by omega,by omega⟩|exact ⟨hz.put (Nat.le_succ lz) hz.decls (hpz.set (Nat.le_succ lz) hsi.1),by omega,by omega⟩)⟩ (Zd.agg (.cons (lr _) (.cons (Zd.forget _ _) .nil)))))))))))))))))
 refine ar (YC (k2==3) Zf (fun YW=>?_) (fun YW=>?_))
 ·refine aD 6 (Zs 4 6 [0,2] (BQ (Dx 6 6 6 6 U1 im.procs im.procs YO (⟨some ⟨g2,0,none⟩,xp.code.length,c2⟩:Hd) xp.code om huf1 (BL hxp) (fun i hi=>rfl)) (BQ (Co 7 0 0 0 0 U1 im.procs (.slice (some ⟨g1,0,none⟩) im.procs.length c1) om) (BQ (Ul 0 2 1 (.slice (some ⟨g1,0,none⟩) im.procs.length c1) 5 b3 (XX im.procs) [Ya im.decls,.ms g1 0 im.procs.length c1] (K1 _) rfl) (ZU 3 4 [3] [0] (Z8 1 (dc 1 [2] [0] [b3] (Z4d rd bs (((p+1)+1)+1) (ZI:=ob)) ?_)))))))
  rintro _ _ ⟨dz1,p22,rfl,rfl,Wf⟩
  have had:=Wf
  exact Zs 1 2 [4] (Z8 5 (YZ 5 4 [] [] b2 [Ya dz1,U5 im.procs (.slice (some ⟨g1,0,none⟩) im.procs.length c1)] (de (ZT (r3 [1] [.agg [Ya dz1,U5 im.procs (.slice (some ⟨g1,0,none⟩) im.procs.length c1)]] [0] [(b2,b2)] ⟨(YN.mk dz1 im.procs),p22,rfl,rfl,(by first|exact ⟨hz.le (Nat.le_succ lz),by omega,by omega⟩|exact ⟨hz.ds had.1,by omega,by omega⟩|exact ⟨hz.put (Nat.le_succ lz) hz.decls (hpz.nl om),by omega,by omega⟩|exact ⟨hz.put (Nat.le_succ lz) hz.decls (hpz.nr (by rcases hon with e|e|e|e|e<;>omega)),by omega,by omega⟩|exact ⟨hz.put (Nat.le_succ lz) hz.decls (hpz.cut _ _),by omega,by omega⟩|exact ⟨hz.put (Nat.le_succ lz) hz.decls (hpz.set (Nat.le_succ lz) hsi.1),by omega,by omega⟩)⟩ (Zd.agg (.cons (lr _) (.cons (Zd.forget _ _) .nil))))))))
 refine Zq 3 [1] (io (.i xp.code.length) (.i xp.code.length) (lr _) (ic [0] (J2 rd bs (((p+1)+1)+1) xp.code.length (ZI:=ob)) ?_))
 rintro _ _ ⟨Xe,rfl,rfl,WY⟩
 obtain ⟨xi,hxi⟩:=Zv xp.code Xe om
 have hxz:=hpz.code xi (Y2 hxi)
 refine Z2 (aE 16 (ZU 13 16 [0,1,2] [2] (dx 3 (W7 g1 im.procs.length c1 YO 5 (YO:Int)) (Zs 11 12 [4] (Un 5 (Va 3 g1 im.procs.length c1 5 (YO*5+4) (pD (Xu U1) im.procs 0) [.ms g2 0 xp.code.length c2] 30 (.ms g2 0 xp.code.length c2) (by have h:=Gd (D:=Xu U1) hxp rfl;rw [<-huf1] at h;exact h)) (ZU 5 10 [6,7,8,9,10] [1] (dx 11 (W7 g2 xp.code.length c2 Xe 6 (Xe:Int)) (Un 12 (Va 6 g2 xp.code.length c2 6 (Xe*6) (Ze (Y4 xp.code)) (Vx xi) 35 (Tx xi) (I3 hxi)) (Z8 13 (dc 13 [0] [2,1] [g1,b3] (Z64 rd bs ((((p+1)+1)+1)+1) xi lz (ZI:=ob) (hx:=hxz)) ?_))))))))))
 rintro _ _ ⟨y1,p23,rfl,rfl,Vp⟩
 have hsi:=Vp
 exact dx 14 (W7 g2 xp.code.length c2 Xe 6 (Xe:Int)) (Z8 15 (JH 15 6 [] [] g2 xp.code.length c2 6 (Xe*6) (Vx y1) (Ze (Y4 xp.code)) (Ze (Y4 (xp.code.set Xe y1))) (by rw [Tn];simp only [Yw,X5];omega) (Fv (t:=y1) hxi) (de (ar (Xi (LH 4 (.slice (some ⟨g1,0,none⟩) im.procs.length c1) 5 (pD (Xu U1) im.procs 0) (pD (Xu U1) (im.procs.set YO (ZX.mk xp.params xp.lent xp.result xp.regs (xp.code.set Xe y1))) 0) (Pe hxp).symm) (Xi (Dx 1 6 6 6 U1 im.procs (im.procs.set YO (ZX.mk xp.params xp.lent xp.result xp.regs (xp.code.set Xe y1))) YO (⟨some ⟨g2,0,none⟩,xp.code.length,c2⟩:Hd) (xp.code.set Xe y1) om huf1 (DO hxp) (fun i hi=>DN hi)) (Xi (Co 4 0 0 0 0 U1 (im.procs.set YO (ZX.mk xp.params xp.lent xp.result xp.regs (xp.code.set Xe y1))) (.slice (some ⟨g1,0,none⟩) im.procs.length c1) (by rw [VC];omega)) (Xi (Ul 0 2 1 (.slice (some ⟨g1,0,none⟩) im.procs.length c1) 5 b3 (XX (im.procs.set YO (ZX.mk xp.params xp.lent xp.result xp.regs (xp.code.set Xe y1)))) [Ya im.decls,.ms g1 0 im.procs.length c1] (K1 _) rfl) (ZA 1 [0] (Zz 4 b2 [Ya im.decls,U5 (im.procs.set YO (ZX.mk xp.params xp.lent xp.result xp.regs (xp.code.set Xe y1))) (.slice (some ⟨g1,0,none⟩) im.procs.length c1)] (ie (ZT (r3 [3] [.agg [Ya im.decls,U5 (im.procs.set YO (ZX.mk xp.params xp.lent xp.result xp.regs (xp.code.set Xe y1))) (.slice (some ⟨g1,0,none⟩) im.procs.length c1)]] [0] [(b2,b2)] ⟨(YN.mk im.decls (im.procs.set YO (ZX.mk xp.params xp.lent xp.result xp.regs (xp.code.set Xe y1)))),p23,rfl,rfl,(by first|exact ⟨hz.le (Nat.le_succ lz),by omega,by omega⟩|exact ⟨hz.ds had.1,by omega,by omega⟩|exact ⟨hz.put (Nat.le_succ lz) hz.decls (hpz.nl om),by omega,by omega⟩|exact ⟨hz.put (Nat.le_succ lz) hz.decls (hpz.nr (by rcases hon with e|e|e|e|e<;>omega)),by omega,by omega⟩|exact ⟨hz.put (Nat.le_succ lz) hz.decls (hpz.cut _ _),by omega,by omega⟩|exact ⟨hz.put (Nat.le_succ lz) hz.decls (hpz.set (Nat.le_succ lz) hsi.1),by omega,by omega⟩)⟩ (Zd.agg (.cons (lr _) (.cons (Zd.forget _ _) .nil))))))))))))))))
theorem Z4e (rd:Nat) (bs:LI) (p:Nat) (ZI:∀z∈bs,0<=z/\z<=255) (hp:p+400060<=1000000000:=by exact ob):Zo 32 [.p rd 0] [YD rd bs p] (fun r h=>∃(y:YN) (p2:Nat),r=VX y/\h=[YD rd bs p2]/\IZ y 1/\p<=p2/\p2<=p+400060):=by
 refine ZG 15 Tryz.func32 (ar (iA [nl,nl] fun b1=>ie (Yf 1 (ic [1] (Z57 rd bs p (ZI:=ob)) ?_))))
 rintro _ _ ⟨im1,p21,rfl,rfl,Y6⟩
 have hgi:=Y6.1
 refine iA [nl,nl] fun b2=>Zz 0 b2 (U3 im1) (ie (YQ 1 (ic [1] (XS rd bs p21 4 (ZI:=ob)) ?_)))
 rintro _ _ ⟨k1,rfl,rfl,Yt⟩
 refine YC (k1==0) Zf (fun Z9=>?_) (fun Z9=>?_)
 ·refine az (ZA 2 [1] (ic [0] (Z4i rd bs (p21+1) im1 (ZI:=ob) (hb:=hgi.ib)) ?_))
  rintro _ _ ⟨y1,p22,rfl,rfl,YP⟩
  have hbi:=YP.1
  refine Zz 1 b2 (U3 y1) (ie (Zq 2 [0] (ic [1] (Ie rd bs p22 y1 14 0 (ZI:=ob) (hz:=(by first|exact hbi.z|exact hgi.ib.z))) ?_)))
  rintro _ _ ⟨y2,p23,rfl,rfl,X2⟩
  have hsi:=X2.1
  exact Zz 2 b1 (U3 y2) (ie (ZT (r3 [1] [VX y2] [0] [(b1,b1)] ⟨y2,p23,rfl,rfl,⟨hsi,by omega,by omega⟩⟩ (lr _))))
 refine ak (Zq 2 [1] (ic [0] (Ie rd bs (p21+1) im1 14 0 (ZI:=ob) (hz:=(by first|exact hbi.z|exact hgi.ib.z))) ?_))
 rintro _ _ ⟨y3,p24,rfl,rfl,Xg⟩
 have hsi:=Xg.1
 exact Zz 2 b1 (U3 y3) (ie (ZT (r3 [1] [VX y3] [0] [(b1,b1)] ⟨y3,p24,rfl,rfl,⟨hsi,by omega,by omega⟩⟩ (lr _))))
theorem ND (code:LI) (hcl:code.length<=1048576:=by exact ob) (hcb:∀z∈code,0<=z/\z<=255):Zo 11 [U4 code] [] (fun r h=>∃(y:YN),r=VX y/\h=[]/\IZ y 2):=by
 refine ZG 10 Tryz.func11 (ar (iA [nl,nl] fun b1=>ie (Yf 1 (ic [] (Z5q code (hc:=hcb)) ?_))))
 rintro _ _ ⟨rd1,bs1,rfl,rfl,Y6⟩
 have hnr:=Y6
 refine Z2 (Yf 2 (ic [0] (Z4e rd1 bs1 0 (ZI:=hnr)) ?_))
 rintro _ _ ⟨y1,p21,rfl,rfl,Yt⟩
 have hai:=Yt.1
 refine ic [0] (Ie rd1 bs1 p21 y1 3 1 (ZI:=hnr) (hz:=hai)) ?_
 rintro _ _ ⟨y2,p22,rfl,rfl,YP⟩
 have hsi:=YP.1
 exact Zz 1 b1 (U3 y2) (ie (ZT (r3 [] [VX y2] [0] [(b1,b1)] ⟨y2,rfl,rfl,hsi⟩ (lr _))))
theorem RL (im:YN) (num:Int) (na:Nat) (more:Nat) (hd:Xw im.decls:=by exact ob) (hpl:im.procs.length<=4:=by exact ob) (hps:∀p∈im.procs,p.params.length<=3) (hna:na<=1000000000:=by exact ob) (hmo:more<=10:=by exact ob):Zo 130 [VX im,.i num,.i na,.i more] [] (Yy (.b (Uh im num na more))):=by
 refine ZG 28 Tryz.func130 (ar (iA (U3 im) fun b1=>Z2 (Zq 3 [0] (iw (J1 im.procs) (ia (((im.procs.length:Int)-1)) (((im.procs.length:Int))-(1)) (Zu [] (V0 num 0 ((im.procs.length:Int)-1)) (Z0 1 (ib (b:=(decide (0<=num/\num<=((im.procs.length:Int)-1)))) 15 (fun Zc=>?_) (fun Zc=>?_)))))))))
 ·have Y6:0<=num/\num<=((im.procs.length:Int)-1):=(dq).1 Zc
  refine ZA 3 [0] ?_
  obtain ⟨x1,Z4⟩:=Zv im.procs num.toNat om
  have hpx:=hps _ (Y2 Z4)
  exact Zp (Zj none num 5 (J0 Z4)) (Z0 2 (iw (Yc x1.params) (Z0 2 (ia (((na+more:Nat):Int)) (((na:Int))+((more:Int))) (Zm (ZW (.b ((x1.params.length:Int)==((na+more:Nat):Int))) (lb (by first|(rw [(Ge Z4 om).1,Y9];simp;omega)|(rw [(L8 om).1])))))))))
 have Yt:¬(0<=num/\num<=((im.procs.length:Int)-1)):=Y8 dq Zc
 exact Zm (ZW (.b false) (lb (by first|(rw [(Ge Z4 om).1,Y9];simp;omega)|(rw [(L8 om).1]))))
theorem Zcp (ls:LI) (many:Nat) (k:Nat) (len:Nat) (hl:ls.length<=1000000000:=by exact ob) (hm:many<=1000000000:=by exact ob) (hk:k<=1000000000:=by exact ob) (hn:len<=1000000000:=by exact ob):Zo 132 [Z3 ls,.i many,.i k,.i len] [] (Yy (.b (decide (ls.length=many)&&W9 k len ls))):=by
 refine ZG 29 Tryz.func132 (Y7 (YQ 1 (iw (Yc ls) (YC ((ls.length:Int) != (many:Int)) Yv (fun Z9=>?_) (fun Z9=>?_)))))
 ·exact ar (Zm (ZW (.b false) (lb (by rw [decide_eq_false om];rfl))))
 refine ak (Y0 (ab 0 (Y3 (fun fz gz m F h=>∃(j:Nat),(j<=many)/\(W9 k len (ls.drop j)=W9 k len ls)/\F=sF [0,1,2,3] fz [(9,.i j)]/\h=gz/\m=many-j) _ _ _ ⟨0,ob,rfl,rfl,rfl,rfl⟩ (wk [] (Yd fl)) ?_)))
 rintro m F h ⟨j,Yk,Zh,rfl,rfl,rfl⟩
 refine Xd (ZZ ((j:Int)<(many:Int)) (fun Zi=>?_) (fun Zi=>?_))
 ·refine ak (aq (ab 1 (Yf 2 ?_)))
  obtain ⟨x1,Z4⟩:=Zv ls j om
  refine Zp (Zj none (j:Int) 1 (Y5 Z4)) (Z0 2 (ZE k (Z0 1 (ia (((len:Int)-1)) (((len:Int))-(1)) (Zu [] (V0 x1 ((k+1:Nat):Int) ((len:Int)-1)) (YC (!(decide (((k+1:Nat):Int)<=x1/\x1<=((len:Int)-1)))) (p:=¬(((k+1:Nat):Int)<=x1/\x1<=((len:Int)-1))) (Ys dq) (fun ZB=>?_) (fun ZB=>?_)))))))
  ·exact ar (Zm (ZW (.b false) (lb (by rw [<-II Z4 om Zh];simp))))
  exact ak (az (Z0 1 (ZE j (Z2 (ZJ ⟨j+1,ob,(OC Z4 om Zh),rfl,rfl,rfl⟩ (wk [] (ZO j fl)))))))
 exact ax 0 (ar (Zm (ZW (.b true) (lb (by rw [<-IJ om Zh,decide_eq_true om];rfl)))))
theorem Zcn (im:YN) (p:ZX) (k:Nat) (x:Instr) (hd:Xw im.decls:=by exact ob) (hpl:im.procs.length<=4:=by exact ob) (hps:∀p∈im.procs,p.params.length<=3) (hx:p.code[k]? = some x:=by exact ob) (hcl:p.code.length<=200000000:=by exact ob) (hxl:x.args.length<=1000/\x.jumps.length<=1000:=by exact ob) (hrg:-1<=p.regs/\p.regs<=2000000000:=by exact ob):Zo 105 [VX im,BG p,.i k] [] (Yy (.b (Vq im p k x))):=by
 have hkl:=(Xh.1 hx).1
 have hk3:=Dd hd x.num
 have hcf:=V5 hd x.num
 refine ZG 234 Tryz.func105 (ar (iA (U3 im) fun b1=>iA (UG p) fun b2=>Z2 (Zq 3 [0] (Zp (Zj none (k:Int) 6 (Q8 hx)) (Z0 1 (iA [.i 0,.i 0,.i 0,.i 0,nl,nl] fun b3=>?_))))))
 refine Zz 0 b3 (Vx x) (ie (Zq 2 [0] (iw (Yc x.args) (Z2 (Y0 (ab 0 (Y3 (fun fz gz m F h=>∃(j:Nat),(j<=x.args.length)/\(T1 p.regs (x.args.drop j)=T1 p.regs x.args)/\F=sF [2,3,4,7,8] fz [(9,.i j)]/\h=gz/\m=x.args.length-j) _ _ _ ⟨0,ob,rfl,rfl,rfl,rfl⟩ (Zw 3 (Yd fl)) ?_)))))))
 rintro m F h ⟨j,Yk,Zh,rfl,rfl,rfl⟩
 refine Xd (ZZ ((j:Int)<(x.args.length:Int)) (fun Z9=>?_) (fun Z9=>?_))
 ·refine ak (aq (ab 1 (aD 10 (ZU 7 10 [0,1,2] [0] ?_))))
  obtain ⟨x1,Z4⟩:=Zv x.args j om
  refine dx 3 (Zj none (j:Int) 1 (Y5 Z4)) (ZU 3 6 [4,5,6] [1] (da 7 ((p.regs-1)) ((p.regs)-(1)) (Z8 8 (YH 8 [] [] [] (V0 x1 0 (p.regs-1)) (Zs 0 1 [9] (de (ac (!(decide (0<=x1/\x1<=(p.regs-1)))) (p:=¬(0<=x1/\x1<=(p.regs-1))) (Ys dq) (fun Zi=>?_) (fun Zi=>?_))))))))
  ·exact ar (Zm (ZW (.b false) (lb (by rw [Vq,<-PK Z4 om Zh];rfl))))
  exact ak (az (Z0 1 (ZE j (Z2 (ZJ ⟨j+1,ob,(PM Z4 om Zh),rfl,rfl,rfl⟩ (Zw 3 (ZO j fl)))))))
 refine ax 0 (Yr 4 [0,1] (ia ((p.regs-1)) ((p.regs)-(1)) (Zu [] (V0 x.dst 0 (p.regs-1)) (Xb 18 [2,3,4,7,8] [(51,.b ((!(decide (0<=x.dst/\x.dst<=(p.regs-1))))||((x.dst != 0)&&(!(Tg x.op)))))] (fun gz=>gz) ?_ (fun hj1=>?_)))))
 ·refine Xb 28 [2,3,4,7,8] [(61,.b (((!(decide (0<=x.dst/\x.dst<=(p.regs-1))))||((x.dst != 0)&&(!(Tg x.op))))||((x.into != 0)&&(x.op != 6))))] (fun gz=>gz) ?_ (fun hj2=>?_)
  ·refine Xp [2,3,4,7,8] [(72,.b ((((!(decide (0<=x.dst/\x.dst<=(p.regs-1))))||((x.dst != 0)&&(!(Tg x.op))))||((x.into != 0)&&(x.op != 6)))||((x.op != 21)&&(decide ((x.jumps.length:Int)>0)))))] (fun gz=>gz) ?_ ?_
   ·refine Z0 1 (ib (b:=(((!(decide (0<=x.dst/\x.dst<=(p.regs-1))))||((x.dst != 0)&&(!(Tg x.op))))||((x.into != 0)&&(x.op != 6)))) 62 (fun Zc=>?_) (fun Zc=>?_))
    ·have Y6:((¬(0<=x.dst/\x.dst<=(p.regs-1)))∨((x.dst≠0)/\(¬((Tg x.op)=true))))∨((x.into≠0)/\(x.op≠6)):=((ZY (ZY (Ys dq) (YI Yv (Ys Iff.rfl))) (YI Yv Yv))).1 Zc
     exact Z2 (Zw 3 (Zl true Zc fl))
    have Yt:¬(((¬(0<=x.dst/\x.dst<=(p.regs-1)))∨((x.dst≠0)/\(¬((Tg x.op)=true))))∨((x.into≠0)/\(x.op≠6))):=Y8 (ZY (ZY (Ys dq) (YI Yv (Ys Iff.rfl))) (YI Yv Yv)) Zc
    refine ZA 4 [0] (ib (b:=(x.op != 21)) 66 (fun ZF=>?_) (fun ZF=>?_))
    ·have YP:x.op≠21:=(Yv).1 ZF
     exact ZA 2 [0] (iw (Yc x.jumps) (Z2 (Zw 3 (Zl (decide ((x.jumps.length:Int)>0)) (And.intro Zc ZF) fl))))
    have X2:¬(x.op≠21):=Y8 Yv ZF
    exact Z2 (Zw 3 (Zl false (And.intro Zc ZF) fl))
   refine ac ((((!(decide (0<=x.dst/\x.dst<=(p.regs-1))))||((x.dst != 0)&&(!(Tg x.op))))||((x.into != 0)&&(x.op != 6)))||((x.op != 21)&&(decide ((x.jumps.length:Int)>0)))) (p:=(((¬(0<=x.dst/\x.dst<=(p.regs-1)))∨((x.dst≠0)/\(¬((Tg x.op)=true))))∨((x.into≠0)/\(x.op≠6)))∨((x.op≠21)/\((x.jumps.length:Int)>0))) (ZY (ZY (ZY (Ys dq) (YI Yv (Ys Iff.rfl))) (YI Yv Yv)) (YI Yv dq)) (fun ZB=>?_) (fun ZB=>?_)
   ·exact ar (Zm (ZW (.b false) (lb (by rw [Vq,decide_eq_false (fun z=>by obtain ⟨z1,z2,z3,z4⟩:=z;rcases ZB with ((q|q)|q)|q<;>first|omega|exact q z1|exact z2.elim q.1 q.2)];simp))))
   simp only [not_or] at ZB
   obtain ⟨⟨⟨hA,hB⟩,hC⟩,hD⟩:=ZB
   have hA:=T5.1 hA
   have hB:x.dst=0∨Tg x.op=true:=Bv fun z=>hB ⟨fun w=>z (.inl w),fun w=>z (.inr w)⟩
   have hC:x.into=0∨x.op=6:=by omega
   have hD:x.op=21∨x.jumps.length=0:=by omega
   have hR:=(PL om Zh).symm
   have hI:Vq im p k x=Wa im p k x:=by rw [Vq,hR,decide_eq_true ⟨hA,hB,hC,hD⟩];rfl
   refine ak (Xd (WT [0] (ab 2 (ar (YC (x.op==0) Zf (fun Ye=>?_) (fun Ye=>?_))))))
   ·refine ar (Xb 7 [] [(83,.b (((x.args.length:Int)==0)&&(decide ((-999)<=x.num/\x.num<=999))))] (fun gz=>gz) ?_ (fun hj3=>?_))
    ·exact Zm (ZW (.b (((x.args.length:Int)==0)&&(decide ((-999)<=x.num/\x.num<=999)))) (lb (by rw [hI];unfold Wa;(repeat (first|rw [Zk om]|rw [Za om]));all_goals (first|rfl|(rw [Y9];simp;done)|(rw [Y9];simp;omega)|(cases W9 (k:Int) p.code.length x.jumps<;>(rw [Y9];simp<;>omega))))))
    refine Z0 3 (ib (b:=((x.args.length:Int)==0)) 79 (fun Ym=>?_) (fun Ym=>?_))
    ·have Xg:(x.args.length:Int)=0:=(Zf).1 Ym
     exact ZA 2 [0] (Zu [] (V0 x.num (-999) 999) (Z0 1 (Yb (Zw 3 (Zl (decide ((-999)<=x.num/\x.num<=999)) Ym fl)) hj3)))
    have XQ:¬((x.args.length:Int)=0):=Y8 Zf Ym
    exact Z0 4 (Yb (Zw 3 (Zl false Ym fl)) hj3)
   refine Y0 (Xs (fun fz gz F h=>F=sF [2,3,4,7,8,74] fz [(84,.b ((x.op==1)||((x.op==2)||((x.op==3)||((x.op==4)||(x.op==11))))))]/\h=gz) ?_ ?_)
   ·refine ac (x.op==1) Zf (fun YA=>?_) (fun YA=>?_)
    ·exact ak (ZD ⟨rfl,rfl⟩ (Zw 3 (fc (x:=.b (x.op==1)) (lb (by first|rfl|(rw [Zk YA])|(rw [Za YA])|(simp [YA];done)|(rw [Y9];simp [YA];done)|omega)) fl)))
    refine ar (YC (x.op==2) Zf (fun YW=>?_) (fun YW=>?_))
    ·exact ak (ZD ⟨rfl,rfl⟩ (Zw 3 (fc (x:=.b (x.op==2)) (lb (by first|rfl|(rw [Zk YA])|(rw [Za YA])|(simp [YA,YW];done)|(rw [Y9];simp [YA,YW];done)|omega)) fl)))
    refine ar (YC (x.op==3) Zf (fun Wo=>?_) (fun Wo=>?_))
    ·exact ak (ZD ⟨rfl,rfl⟩ (Zw 3 (fc (x:=.b (x.op==3)) (lb (by first|rfl|(rw [Zk YA])|(rw [Za YA])|(simp [YA,YW,Wo];done)|(rw [Y9];simp [YA,YW,Wo];done)|omega)) fl)))
    refine ar (YC (x.op==4) Zf (fun Vo=>?_) (fun Vo=>?_))
    ·exact ak (ZD ⟨rfl,rfl⟩ (Zw 3 (fc (x:=.b (x.op==4)) (lb (by first|rfl|(rw [Zk YA])|(rw [Za YA])|(simp [YA,YW,Wo,Vo];done)|(rw [Y9];simp [YA,YW,Wo,Vo];done)|omega)) fl)))
    exact Vi (ZD ⟨rfl,rfl⟩ (Zw 3 (fc (x:=.b (x.op==11)) (lb (by first|rfl|(rw [Zk YA])|(rw [Za YA])|(simp [YA,YW,Wo,Vo];done)|(rw [Y9];simp [YA,YW,Wo,Vo];done)|omega)) fl)))
   rintro F h ⟨rfl,rfl⟩
   refine ac ((x.op==1)||((x.op==2)||((x.op==3)||((x.op==4)||(x.op==11))))) (p:=(x.op=1)∨((x.op=2)∨((x.op=3)∨((x.op=4)∨(x.op=11))))) (ZY Zf (ZY Zf (ZY Zf (ZY Zf Zf)))) (fun WX=>?_) (fun WX=>?_)
   ·refine ar (Xb 7 [] [(96,.b (((x.args.length:Int)==2)&&(x.num==0)))] (fun gz=>gz) ?_ (fun hj4=>?_))
    ·exact Zm (ZW (.b (((x.args.length:Int)==2)&&(x.num==0))) (lb (by rw [hI];unfold Wa;(repeat (first|rw [Zk om]|rw [Za om]));all_goals (first|rfl|(rw [Y9];simp;done)|(rw [Y9];simp;omega)|(cases W9 (k:Int) p.code.length x.jumps<;>(rw [Y9];simp<;>omega))))))
    refine Z0 3 (ib (b:=((x.args.length:Int)==2)) 92 (fun X8=>?_) (fun X8=>?_))
    ·have Wf:(x.args.length:Int)=2:=(Zf).1 X8
     exact ZA 4 [0] (Yb (Zw 3 (Zl (x.num==0) X8 fl)) hj4)
    have WY:¬((x.args.length:Int)=2):=Y8 Zf X8
    exact Z0 4 (Yb (Zw 3 (Zl false X8 fl)) hj4)
   refine Y0 (Xs (fun fz gz F h=>F=sF [2,3,4,7,8,74] fz [(97,.b ((x.op==5)||((x.op==14)||((x.op==15)||((x.op==18)||(x.op==23))))))]/\h=gz) ?_ ?_)
   ·refine ac (x.op==5) Zf (fun V8=>?_) (fun V8=>?_)
    ·exact ak (ZD ⟨rfl,rfl⟩ (Zw 3 (fc (x:=.b (x.op==5)) (lb (by first|rfl|(rw [Zk V8])|(rw [Za V8])|(simp [V8];done)|(rw [Y9];simp [V8];done)|omega)) fl)))
    refine ar (YC (x.op==14) Zf (fun Tc=>?_) (fun Tc=>?_))
    ·exact ak (ZD ⟨rfl,rfl⟩ (Zw 3 (fc (x:=.b (x.op==14)) (lb (by first|rfl|(rw [Zk V8])|(rw [Za V8])|(simp [V8,Tc];done)|(rw [Y9];simp [V8,Tc];done)|omega)) fl)))
    refine ar (YC (x.op==15) Zf (fun V9=>?_) (fun V9=>?_))
    ·exact ak (ZD ⟨rfl,rfl⟩ (Zw 3 (fc (x:=.b (x.op==15)) (lb (by first|rfl|(rw [Zk V8])|(rw [Za V8])|(simp [V8,Tc,V9];done)|(rw [Y9];simp [V8,Tc,V9];done)|omega)) fl)))
    refine ar (YC (x.op==18) Zf (fun TD=>?_) (fun TD=>?_))
    ·exact ak (ZD ⟨rfl,rfl⟩ (Zw 3 (fc (x:=.b (x.op==18)) (lb (by first|rfl|(rw [Zk V8])|(rw [Za V8])|(simp [V8,Tc,V9,TD];done)|(rw [Y9];simp [V8,Tc,V9,TD];done)|omega)) fl)))
    exact Vi (ZD ⟨rfl,rfl⟩ (Zw 3 (fc (x:=.b (x.op==23)) (lb (by first|rfl|(rw [Zk V8])|(rw [Za V8])|(simp [V8,Tc,V9,TD];done)|(rw [Y9];simp [V8,Tc,V9,TD];done)|omega)) fl)))
   rintro F h ⟨rfl,rfl⟩
   refine ac ((x.op==5)||((x.op==14)||((x.op==15)||((x.op==18)||(x.op==23))))) (p:=(x.op=5)∨((x.op=14)∨((x.op=15)∨((x.op=18)∨(x.op=23))))) (ZY Zf (ZY Zf (ZY Zf (ZY Zf Zf)))) (fun C4=>?_) (fun C4=>?_)
   ·refine ar (Xb 7 [] [(109,.b (((x.args.length:Int)==1)&&(x.num==0)))] (fun gz=>gz) ?_ (fun hj5=>?_))
    ·exact Zm (ZW (.b (((x.args.length:Int)==1)&&(x.num==0))) (lb (by rw [hI];unfold Wa;(repeat (first|rw [Zk om]|rw [Za om]));all_goals (first|rfl|(rw [Y9];simp;done)|(rw [Y9];simp;omega)|(cases W9 (k:Int) p.code.length x.jumps<;>(rw [Y9];simp<;>omega))))))
    refine Z0 3 (ib (b:=((x.args.length:Int)==1)) 105 (fun XY=>?_) (fun XY=>?_))
    ·have Vp:(x.args.length:Int)=1:=(Zf).1 XY
     exact ZA 4 [0] (Yb (Zw 3 (Zl (x.num==0) XY fl)) hj5)
    have UY:¬((x.args.length:Int)=1):=Y8 Zf XY
    exact Z0 4 (Yb (Zw 3 (Zl false XY fl)) hj5)
   refine ar (YC (x.op==6) Zf (fun E4=>?_) (fun E4=>?_))
   ·refine Zq 4 [2,0] (Zu [] (GF im.decls x.num) (Xb 16 [4,7] [(127,.b ((decide ((We im.decls x.num)>0))&&((x.args.length:Int)==(((ZK im.decls x.num).length:Nat):Int))))] (fun gz=>gz) ?_ (fun hj6=>?_)))
    ·refine Xb 23 [] [(134,.b (((decide ((We im.decls x.num)>0))&&((x.args.length:Int)==(((ZK im.decls x.num).length:Nat):Int)))&&(decide (0<=x.into/\x.into<=p.regs))))] (fun gz=>gz) ?_ (fun hj7=>?_)
     ·exact Zm (ZW (.b (((decide ((We im.decls x.num)>0))&&((x.args.length:Int)==(((ZK im.decls x.num).length:Nat):Int)))&&(decide (0<=x.into/\x.into<=p.regs)))) (lb (by rw [hI];unfold Wa;(repeat (first|rw [Zk om]|rw [Za om]));all_goals (first|rfl|(rw [Y9];simp;done)|(rw [Y9];simp;omega)|(cases W9 (k:Int) p.code.length x.jumps<;>(rw [Y9];simp<;>omega))))))
     refine Z0 1 (ib (b:=((decide ((We im.decls x.num)>0))&&((x.args.length:Int)==(((ZK im.decls x.num).length:Nat):Int)))) 128 (fun Wn=>?_) (fun Wn=>?_))
     ·have Tp:((We im.decls x.num)>0)/\((x.args.length:Int)=(((ZK im.decls x.num).length:Nat):Int)):=((YI dq Zf)).1 Wn
      exact ZA 4 [0,1] (Zu [] (V0 x.into 0 p.regs) (Z0 1 (Yb (Zw 3 (Zl (decide (0<=x.into/\x.into<=p.regs)) Wn fl)) hj7)))
     have UZ:¬(((We im.decls x.num)>0)/\((x.args.length:Int)=(((ZK im.decls x.num).length:Nat):Int))):=Y8 (YI dq Zf) Wn
     exact Z0 6 (Yb (Zw 3 (Zl false Wn fl)) hj7)
    refine Z0 2 (ib (b:=(decide ((We im.decls x.num)>0))) 118 (fun WB=>?_) (fun WB=>?_))
    ·have QA:(We im.decls x.num)>0:=(dq).1 WB
     exact ZA 5 [2,0] (Zu [] (Q3 im.decls x.num) (io (.i (((ZK im.decls x.num).length:Nat):Int)) (.i (((Z6 (ZK im.decls x.num)).length:Nat):Int)) (li (by rw [Yc])) (Z0 2 (Yb (Zw 3 (Zl ((x.args.length:Int)==(((ZK im.decls x.num).length:Nat):Int)) WB fl)) hj6))))
    have TX:¬((We im.decls x.num)>0):=Y8 dq WB
    exact Z0 9 (Yb (Zw 3 (Zl false WB fl)) hj6)
   refine Y0 (Xs (fun fz gz F h=>F=sF [2,3,4,7,8,74] fz [(135,.b ((x.op==9)||(x.op==24)))]/\h=gz) ?_ ?_)
   ·refine ac (x.op==9) Zf (fun K5=>?_) (fun K5=>?_)
    ·exact ak (ZD ⟨rfl,rfl⟩ (Zw 3 (fc (x:=.b (x.op==9)) (lb (by first|rfl|(rw [Zk K5])|(rw [Za K5])|(simp [K5];done)|(rw [Y9];simp [K5];done)|omega)) fl)))
    exact Vi (ZD ⟨rfl,rfl⟩ (Zw 3 (fc (x:=.b (x.op==24)) (lb (by first|rfl|(rw [Zk K5])|(rw [Za K5])|(simp [K5];done)|(rw [Y9];simp [K5];done)|omega)) fl)))
   rintro F h ⟨rfl,rfl⟩
   refine ac ((x.op==9)||(x.op==24)) (p:=(x.op=9)∨(x.op=24)) (ZY Zf Zf) (fun K6=>?_) (fun K6=>?_)
   ·exact Zq 4 [2,0] (Zu [] (RL im x.num x.args.length 0 (hps:=ob)) (Zm (ZW (.b (Uh im x.num x.args.length 0)) (lb (by rw [hI];unfold Wa;(repeat (first|rw [Zk om]|rw [Za om]));all_goals (first|rfl|(rw [Y9];simp;done)|(rw [Y9];simp;omega)|(cases W9 (k:Int) p.code.length x.jumps<;>(rw [Y9];simp<;>omega))))))))
   refine ar (YC (x.op==10) Zf (fun Ii=>?_) (fun Ii=>?_))
   ·refine Zq 4 [2,0] (Zu [] (RL im x.num x.args.length 1 (hps:=ob)) (Z0 1 (ib (b:=(Uh im x.num x.args.length 1)) 150 (fun V7=>?_) (fun V7=>?_))))
    ·have J9:(Uh im x.num x.args.length 1)=true:=(Iff.rfl).1 V7
     refine ZA 4 [2,0] ?_
     obtain ⟨x2,Zx⟩:=Zv im.procs x.num.toNat (by have h:=(Er.1 (show Uh im x.num x.args.length 1=true by assumption)).1;omega)
     have hw:=Ge (n:=x.args.length) (more:=1) Zx (by have h:=(Er.1 (show Uh im x.num x.args.length 1=true by assumption)).1;omega)
     exact Zp (Dv (es:=XX im.procs) (hv:=none) (j:=x.num) (sz:=5) (y:=BG x2) kr (by have h:=(Er.1 (show Uh im x.num x.args.length 1=true by assumption)).1;omega) (J0 Zx) rfl) (Z0 2 (iw (Yc x2.lent) (Zm (ZW (.b ((x2.lent.length:Int)==0)) (lb (by rw [hI];unfold Wa;(repeat (first|rw [Zk om]|rw [Za om]));rw [hw.2,show Uh im x.num x.args.length 1=true by assumption,Y9];simp))))))
    have Ja:¬((Uh im x.num x.args.length 1)=true):=Y8 Iff.rfl V7
    exact Zm (ZW (.b false) (lb (by rw [hI];unfold Wa;(repeat (first|rw [Zk om]|rw [Za om]));rw [Q5.2 (show ¬Uh im x.num x.args.length 1=true by assumption)];rfl)))
   refine Y0 (Xs (fun fz gz F h=>F=sF [2,3,4,7,8,74] fz [(161,.b ((x.op==16)||(x.op==17)))]/\h=gz) ?_ ?_)
   ·refine ac (x.op==16) Zf (fun J7=>?_) (fun J7=>?_)
    ·exact ak (ZD ⟨rfl,rfl⟩ (Zw 3 (fc (x:=.b (x.op==16)) (lb (by first|rfl|(rw [Zk J7])|(rw [Za J7])|(simp [J7];done)|(rw [Y9];simp [J7];done)|omega)) fl)))
    exact Vi (ZD ⟨rfl,rfl⟩ (Zw 3 (fc (x:=.b (x.op==17)) (lb (by first|rfl|(rw [Zk J7])|(rw [Za J7])|(simp [J7];done)|(rw [Y9];simp [J7];done)|omega)) fl)))
   rintro F h ⟨rfl,rfl⟩
   refine ac ((x.op==16)||(x.op==17)) (p:=(x.op=16)∨(x.op=17)) (ZY Zf Zf) (fun Ij=>?_) (fun Ij=>?_)
   ·refine Yf 1 (Zu [] (V0 (x.args.length:Int) 1 4) (Xb 7 [] [(170,.b ((decide (1<=(x.args.length:Int)/\(x.args.length:Int)<=4))&&(x.num==0)))] (fun gz=>gz) ?_ (fun hj8=>?_)))
    ·exact Zm (ZW (.b ((decide (1<=(x.args.length:Int)/\(x.args.length:Int)<=4))&&(x.num==0))) (lb (by rw [hI];unfold Wa;(repeat (first|rw [Zk om]|rw [Za om]));all_goals (first|rfl|(rw [Y9];simp;done)|(rw [Y9];simp;omega)|(cases W9 (k:Int) p.code.length x.jumps<;>(rw [Y9];simp<;>omega))))))
    refine Z0 1 (ib (b:=(decide (1<=(x.args.length:Int)/\(x.args.length:Int)<=4))) 166 (fun WW=>?_) (fun WW=>?_))
    ·have C7:1<=(x.args.length:Int)/\(x.args.length:Int)<=4:=(dq).1 WW
     exact ZA 4 [0] (Yb (Zw 3 (Zl (x.num==0) WW fl)) hj8)
    have Au:¬(1<=(x.args.length:Int)/\(x.args.length:Int)<=4):=Y8 dq WW
    exact Z0 4 (Yb (Zw 3 (Zl false WW fl)) hj8)
   refine ar (YC (x.op==19) Zf (fun FA=>?_) (fun FA=>?_))
   ·refine ar (Xb 7 [] [(179,.b (((x.args.length:Int)==1)&&(decide (0<=x.num/\x.num<=2))))] (fun gz=>gz) ?_ (fun hj9=>?_))
    ·exact Zm (ZW (.b (((x.args.length:Int)==1)&&(decide (0<=x.num/\x.num<=2)))) (lb (by rw [hI];unfold Wa;(repeat (first|rw [Zk om]|rw [Za om]));all_goals (first|rfl|(rw [Y9];simp;done)|(rw [Y9];simp;omega)|(cases W9 (k:Int) p.code.length x.jumps<;>(rw [Y9];simp<;>omega))))))
    refine Z0 3 (ib (b:=((x.args.length:Int)==1)) 175 (fun Us=>?_) (fun Us=>?_))
    ·have Im:(x.args.length:Int)=1:=(Zf).1 Us
     exact ZA 2 [0] (Zu [] (V0 x.num 0 2) (Z0 1 (Yb (Zw 3 (Zl (decide (0<=x.num/\x.num<=2)) Us fl)) hj9)))
    have In:¬((x.args.length:Int)=1):=Y8 Zf Us
    exact Z0 4 (Yb (Zw 3 (Zl false Us fl)) hj9)
   refine ar (YC (x.op==20) Zf (fun UX=>?_) (fun UX=>?_))
   ·refine ar (Xb 13 [] [(194,.b (((x.args.length:Int)==1)&&(decide (((k+1:Nat):Int)<=x.num/\x.num<=((p.code.length:Int)-1)))))] (fun gz=>gz) ?_ (fun hj10=>?_))
    ·exact Zm (ZW (.b (((x.args.length:Int)==1)&&(decide (((k+1:Nat):Int)<=x.num/\x.num<=((p.code.length:Int)-1))))) (lb (by rw [hI];unfold Wa;(repeat (first|rw [Zk om]|rw [Za om]));all_goals (first|rfl|(rw [Y9];simp;done)|(rw [Y9];simp;omega)|(cases W9 (k:Int) p.code.length x.jumps<;>(rw [Y9];simp<;>omega))))))
    refine Z0 3 (ib (b:=((x.args.length:Int)==1)) 184 (fun Qc=>?_) (fun Qc=>?_))
    ·have FD:(x.args.length:Int)=1:=(Zf).1 Qc
     exact ZA 3 [0] (ZE k (ZA 2 [1] (iw (Q9 p.code) (ia (((p.code.length:Int)-1)) (((p.code.length:Int))-(1)) (Zu [] (V0 x.num ((k+1:Nat):Int) ((p.code.length:Int)-1)) (Z0 1 (Yb (Zw 3 (Zl (decide (((k+1:Nat):Int)<=x.num/\x.num<=((p.code.length:Int)-1))) Qc fl)) hj10)))))))
    have NZ:¬((x.args.length:Int)=1):=Y8 Zf Qc
    exact Z0 10 (Yb (Zw 3 (Zl false Qc fl)) hj10)
   refine ar (YC (x.op==22) Zf (fun J8=>?_) (fun J8=>?_))
   ·refine ar (Xb 13 [] [(209,.b (((x.args.length:Int)==0)&&(decide (((k+1:Nat):Int)<=x.num/\x.num<=((p.code.length:Int)-1)))))] (fun gz=>gz) ?_ (fun hj11=>?_))
    ·exact Zm (ZW (.b (((x.args.length:Int)==0)&&(decide (((k+1:Nat):Int)<=x.num/\x.num<=((p.code.length:Int)-1))))) (lb (by rw [hI];unfold Wa;(repeat (first|rw [Zk om]|rw [Za om]));all_goals (first|rfl|(rw [Y9];simp;done)|(rw [Y9];simp;omega)|(cases W9 (k:Int) p.code.length x.jumps<;>(rw [Y9];simp<;>omega))))))
    refine Z0 3 (ib (b:=((x.args.length:Int)==0)) 199 (fun Qd=>?_) (fun Qd=>?_))
    ·have O0:(x.args.length:Int)=0:=(Zf).1 Qd
     exact ZA 3 [0] (ZE k (ZA 2 [1] (iw (Q9 p.code) (ia (((p.code.length:Int)-1)) (((p.code.length:Int))-(1)) (Zu [] (V0 x.num ((k+1:Nat):Int) ((p.code.length:Int)-1)) (Z0 1 (Yb (Zw 3 (Zl (decide (((k+1:Nat):Int)<=x.num/\x.num<=((p.code.length:Int)-1))) Qd fl)) hj11)))))))
    have O1:¬((x.args.length:Int)=0):=Y8 Zf Qd
    exact Z0 10 (Yb (Zw 3 (Zl false Qd fl)) hj11)
   refine ar (YC (x.op==21) Zf (fun C5=>?_) (fun C5=>?_))
   ·refine Zq 4 [2,0] (ic [] (KL im.decls x.num) ?_)
    rintro _ _ ⟨v1,rfl,rfl⟩
    refine io (.i (((ZQ im.decls x.num).length:Nat):Int)) (.i (((Z6 (ZQ im.decls x.num)).length:Nat):Int)) (li (by rw [Yc])) (Z2 (ar (Xb 6 [2,4,7,10] [(223,.b (((x.args.length:Int)==1)&&(decide ((((ZQ im.decls x.num).length:Nat):Int)>0))))] (fun gz=>gz) ?_ (fun hj12=>?_))))
    ·refine Xb 16 [] [(233,.b ((((x.args.length:Int)==1)&&(decide ((((ZQ im.decls x.num).length:Nat):Int)>0)))&&(decide (x.jumps.length=((ZQ im.decls x.num).length))&&W9 k p.code.length x.jumps)))] (fun gz=>gz) ?_ (fun hj13=>?_)
     ·exact Zm (ZW (.b ((((x.args.length:Int)==1)&&(decide ((((ZQ im.decls x.num).length:Nat):Int)>0)))&&(decide (x.jumps.length=((ZQ im.decls x.num).length))&&W9 k p.code.length x.jumps))) (lb (by rw [hI];unfold Wa;(repeat (first|rw [Zk om]|rw [Za om]));all_goals (first|rfl|(rw [Y9];simp;done)|(rw [Y9];simp;omega)|(cases W9 (k:Int) p.code.length x.jumps<;>(rw [Y9];simp<;>omega))))))
     refine Z0 1 (ib (b:=(((x.args.length:Int)==1)&&(decide ((((ZQ im.decls x.num).length:Nat):Int)>0)))) 224 (fun J4=>?_) (fun J4=>?_))
     ·have O2:((x.args.length:Int)=1)/\((((ZQ im.decls x.num).length:Nat):Int)>0):=((YI Zf dq)).1 J4
      exact ZA 6 [1,2] (iw (Q9 p.code) (Zu [] (Zcp x.jumps ((ZQ im.decls x.num).length) k p.code.length) (Z0 1 (Yb (Zw 4 (Zl (decide (x.jumps.length=((ZQ im.decls x.num).length))&&W9 k p.code.length x.jumps) J4 fl)) hj13))))
     have O3:¬(((x.args.length:Int)=1)/\((((ZQ im.decls x.num).length:Nat):Int)>0)):=Y8 (YI Zf dq) J4
     exact Z0 9 (Yb (Zw 4 (Zl false J4 fl)) hj13)
    refine Z0 3 (ib (b:=((x.args.length:Int)==1)) 220 (fun J5=>?_) (fun J5=>?_))
    ·have O4:(x.args.length:Int)=1:=(Zf).1 J5
     exact Z0 3 (Yb (Zw 4 (Zl (decide ((((ZQ im.decls x.num).length:Nat):Int)>0)) J5 fl)) hj12)
    have O5:¬((x.args.length:Int)=1):=Y8 Zf J5
    exact Z0 3 (Yb (Zw 4 (Zl false J5 fl)) hj12)
   exact ak (ar (Zm (ZW (.b false) (lb (by rw [hI];unfold Wa;(repeat (first|rw [Zk om]|rw [Za om]));all_goals (first|rfl|(rw [Y9];simp;done)|(rw [Y9];simp;omega)|(cases W9 (k:Int) p.code.length x.jumps<;>(rw [Y9];simp<;>omega))))))))
  refine Z0 1 (ib (b:=((!(decide (0<=x.dst/\x.dst<=(p.regs-1))))||((x.dst != 0)&&(!(Tg x.op))))) 52 (fun Kx=>?_) (fun Kx=>?_))
  ·have O6:(¬(0<=x.dst/\x.dst<=(p.regs-1)))∨((x.dst≠0)/\(¬((Tg x.op)=true))):=((ZY (Ys dq) (YI Yv (Ys Iff.rfl)))).1 Kx
   exact Z0 9 (Yb (Zw 3 (Zl true Kx fl)) hj2)
  have FE:¬((¬(0<=x.dst/\x.dst<=(p.regs-1)))∨((x.dst≠0)/\(¬((Tg x.op)=true)))):=Y8 (ZY (Ys dq) (YI Yv (Ys Iff.rfl))) Kx
  refine ZA 4 [0] (ib (b:=(x.into != 0)) 56 (fun J6=>?_) (fun J6=>?_))
  ·have FF:x.into≠0:=(Yv).1 J6
   exact ZA 5 [0] (Yb (Zw 3 (Zl (x.op != 6) (And.intro Kx J6) fl)) hj2)
  have Io:¬(x.into≠0):=Y8 Yv J6
  exact Z0 5 (Yb (Zw 3 (Zl false (And.intro Kx J6) fl)) hj2)
 refine Z0 2 (ib (b:=(!(decide (0<=x.dst/\x.dst<=(p.regs-1))))) 41 (fun D0=>?_) (fun D0=>?_))
 ·have Ip:¬(0<=x.dst/\x.dst<=(p.regs-1)):=((Ys dq)).1 D0
  exact Z0 10 (Yb (Zw 3 (Zl true D0 fl)) hj1)
 have Zen:¬(¬(0<=x.dst/\x.dst<=(p.regs-1))):=Y8 (Ys dq) D0
 refine ZA 4 [0] (ib (b:=(x.dst != 0)) 45 (fun E3=>?_) (fun E3=>?_))
 ·have Zeo:x.dst≠0:=(Yv).1 E3
  exact ZA 2 [0] (Zu [] (RO x.op) (Z0 3 (Yb (Zw 3 (Zl (!(Tg x.op)) (And.intro D0 E3) fl)) hj1)))
 have Zep:¬(x.dst≠0):=Y8 Yv E3
 exact Z0 6 (Yb (Zw 3 (Zl false (And.intro D0 E3) fl)) hj1)
theorem Zcs (im:YN) (p:ZX) (lz:Nat) (hd:Xw im.decls:=by exact ob) (hpl:im.procs.length<=4:=by exact ob) (hps:∀p∈im.procs,p.params.length<=3) (hz:PZ lz p:=by exact ob) (hlz:lz<=100:=by exact ob):Zo 69 [VX im,BG p] [] (Yy (.b (Tt im p))):=by
 have hz1:=hz.params
 have hz2:=hz.lent
 have hz3:=hz.regs
 have hz4:=hz.len
 refine ZG 59 Tryz.func69 (ar (iA (U3 im) fun b1=>iA (UG p) fun b2=>Z2 (Zq 2 [0] (iw (Q9 p.code) (Z2 (Yr 4 [0,0] (Zu [] (RS p.params p.lent) (Xb 16 [2,3,5] [(25,.b ((!Ue p.params p.lent)||(!(decide ((max 1 (p.params.length:Int))<=p.regs/\p.regs<=2000)))))] (fun gz=>gz) ?_ (fun hj1=>?_)))))))))
 ·refine Xp [2,3,5] [(30,.b (((!Ue p.params p.lent)||(!(decide ((max 1 (p.params.length:Int))<=p.regs/\p.regs<=2000))))||(!(decide (1<=(p.code.length:Int)/\(p.code.length:Int)<=2000)))))] (fun gz=>gz) ?_ ?_
  ·refine Z0 1 (ib (b:=((!Ue p.params p.lent)||(!(decide ((max 1 (p.params.length:Int))<=p.regs/\p.regs<=2000))))) 26 (fun Zc=>?_) (fun Zc=>?_))
   ·have Y6:(¬(Ue p.params p.lent=true))∨(¬((max 1 (p.params.length:Int))<=p.regs/\p.regs<=2000)):=((ZY (Ys Iff.rfl) (Ys dq))).1 Zc
    exact Z2 (wk [0,0] (Zl true Zc fl))
   have Yt:¬((¬(Ue p.params p.lent=true))∨(¬((max 1 (p.params.length:Int))<=p.regs/\p.regs<=2000))):=Y8 (ZY (Ys Iff.rfl) (Ys dq)) Zc
   exact Z0 1 (Zu [] (V0 (p.code.length:Int) 1 2000) (Z2 (wk [0,0] (Zl (!(decide (1<=(p.code.length:Int)/\(p.code.length:Int)<=2000))) Zc fl))))
  refine ac (((!Ue p.params p.lent)||(!(decide ((max 1 (p.params.length:Int))<=p.regs/\p.regs<=2000))))||(!(decide (1<=(p.code.length:Int)/\(p.code.length:Int)<=2000)))) (p:=((¬(Ue p.params p.lent=true))∨(¬((max 1 (p.params.length:Int))<=p.regs/\p.regs<=2000)))∨(¬(1<=(p.code.length:Int)/\(p.code.length:Int)<=2000))) (ZY (ZY (Ys Iff.rfl) (Ys dq)) (Ys dq)) (fun Z9=>?_) (fun Z9=>?_)
  ·exact ar (Zm (ZW (.b false) (lb (by rw [Tt];rcases Z9 with (q|q)|q<;>first|(rw [Q5.2 q];rfl)|(rw [decide_eq_false (fun z=>by omega)];simp)))))
  simp only [not_or,T5] at Z9
  obtain ⟨⟨hV,hR1⟩,hC1⟩:=Z9
  have hRC:(1<=p.regs/\(p.params.length:Int)<=p.regs/\p.regs<=2000)/\1<=p.code.length/\p.code.length<=2000:=by omega
  refine ak (Y0 (ab 0 (Y3 (fun fz gz m F h=>∃(j:Nat),(j<=p.code.length)/\(Tq im p (p.code.drop j) j=Tq im p p.code 0)/\F=sF [2,3,5] fz [(6,.i j)]/\h=gz/\m=p.code.length-j) _ _ _ ⟨0,ob,rfl,rfl,rfl,rfl⟩ (wk [0,0] (Yd fl)) ?_)))
  rintro m F h ⟨j,Yk,Zh,rfl,rfl,rfl⟩
  refine Xd (ZZ ((j:Int)<(p.code.length:Int)) (fun Zi=>?_) (fun Zi=>?_))
  ·obtain ⟨x1,Z4⟩:=Zv p.code j om
   have hxz:=hz.code _ (Y2 Z4)
   have hxl:=hxz.l
   refine ak (aq (ab 1 (Zq 3 [1,0] (Zu [] (Zcn im p j x1 (hps:=hps) (hx:=Z4) (hxl:=om) (hrg:=om)) (YC (!(Vq im p j x1)) (p:=¬((Vq im p j x1)=true)) (Ys Iff.rfl) (fun ZB=>?_) (fun ZB=>?_))))))
   ·exact ar (Zm (ZW (.b false) (lb (by rw [Tt,<-Oh Z4 (Q5.2 (by assumption)) Zh];simp))))
   exact ak (az (Z0 1 (ZE j (Z2 (ZJ ⟨j+1,ob,(Oj Z4 (T5.1 ZB) Zh),rfl,rfl,rfl⟩ (wk [0,0] (ZO j fl)))))))
  have hIs:=Oi om Zh
  refine ax 0 (Zq 3 [0] (ia ((((p.code.length-1):Nat):Int)) (((p.code.length:Int))-(1)) ?_))
  obtain ⟨x1,Z4⟩:=Zv p.code (p.code.length-1) om
  refine Zp (Zj none (((p.code.length-1):Nat):Int) 6 (Q8 Z4)) (Xb 18 [] [(58,.b ((x1.op==23)||(x1.op==24)))] (fun gz=>gz) ?_ (fun hj2=>?_))
  ·exact Zm (ZW (.b ((x1.op==23)||(x1.op==24))) (lb (by rw [Tt,<-hIs,hV,decide_eq_true hRC,IH Z4,Y9];simp)))
  refine Z0 4 (ib (b:=(x1.op==23)) 49 (fun ZF=>?_) (fun ZF=>?_))
  ·have YP:x1.op=23:=(Zf).1 ZF
   exact Z0 9 (Yb (wk [0,0] (Zl true ZF fl)) hj2)
  have X2:¬(x1.op=23):=Y8 Zf ZF
  exact ZA 3 [0] (ia ((((p.code.length-1):Nat):Int)) (((p.code.length:Int))-(1)) (Zp (Zj none (((p.code.length-1):Nat):Int) 6 (Q8 Z4)) (Z0 4 (Yb (wk [0,0] (Zl (x1.op==24) ZF fl)) hj2))))
 refine Z0 2 (ib (b:=(!Ue p.params p.lent)) 16 (fun Ym=>?_) (fun Ym=>?_))
 ·have Xg:¬(Ue p.params p.lent=true):=((Ys Iff.rfl)).1 Ym
  exact Z0 9 (Yb (wk [0,0] (Zl true Ym fl)) hj1)
 have XQ:¬(¬(Ue p.params p.lent=true)):=Y8 (Ys Iff.rfl) Ym
 exact ZA 4 [0,0] (iw (Yc p.params) (Zp (FL 1 (p.params.length:Int)) (Zu [] (V0 p.regs (max 1 (p.params.length:Int)) 2000) (Z0 2 (Yb (wk [0,0] (Zl (!(decide ((max 1 (p.params.length:Int))<=p.regs/\p.regs<=2000))) Ym fl)) hj1)))))
theorem Zca (im:YN) (hz:im.procs.length<=4194304:=by exact ob):Zo 68 [VX im] [] (Yy (.agg [Ya im.decls,.sl (Wy (im.procs.map U6)) none])):=by
 refine ZG 35 Tryz.func68 (ar (iA (U3 im) fun b1=>iA [nl,nl] fun b2=>ie (Zq 2 [1] (iL (Wy []) 0 5 fun v1=>Z0 1 (iA [nl,nl] fun b3=>?_)))))
 refine Zz 0 b3 [Ya im.decls,.sl (Wy []) (some v1)] (ie (Y0 (ab 0 (Y3 (fun fz gz m F h=>∃(k:Nat) (v:Value),(k<=im.procs.length)/\F=sF [1,2,3] fz [(4,.i k)]/\h=[.obj b3 [Ya im.decls,.sl (Wy ((im.procs.take k).map U6)) (some v)],Zg gz 2,Zg gz 3,.tail v 5]/\m=im.procs.length-k) _ _ _ ⟨0,v1,ob,rfl,rfl,rfl⟩ (wk [0,1,1,0] (Yd fl)) ?_))))
 rintro m F h ⟨k,v,Yk,rfl,rfl,rfl⟩
 refine Yr 3 [2] (iw (J1 im.procs) (ZZ ((k:Int)<(im.procs.length:Int)) (fun Z9=>?_) (fun Z9=>?_)))
 ·refine ak (aq (ab 1 (aE 19 (ZU 14 19 [0,1,2,3,4] [0,2] ?_))))
  obtain ⟨x1,Z4⟩:=Zv im.procs k om
  exact dx 5 (Zj none (k:Int) 5 (J0 Z4)) (ZU 8 13 [6,7,8,9,10] [2] (dx 11 (Zj none (k:Int) 5 (J0 Z4)) (Yq 4 7 [12,13,14] [(30,.agg [Z3 x1.params,.i x1.result,.i 0,.i 0,.sl [] none])] (Z8 15 (dL 15 [0] [b3] (Wy [Sg.mk x1.params x1.result]) 1 5 fun v2=>Yq 3 3 [] [(31,.sl (Wy [Sg.mk x1.params x1.result]) none)] (Z8 16 (dp 16 4 [] [] (Wy ((im.procs.take (k+1)).map U6)) (Wy ((im.procs.take k).map U6)) (Wy [Sg.mk x1.params x1.result]) v none 5 (Fj _) (Fj _) (MV _) (by simp<;>omega) (by rw [WU Z4];simp [Wy,U6]) fun v3=>Zs 1 2 [17] (Z8 18 (YZ 18 2 [] [] b3 [Ya im.decls,.sl (Wy ((im.procs.take (k+1)).map U6)) (some v3)] (de (az (Z0 1 (ZE k (Z2 (ZJ ⟨k+1,v3,ob,rfl,rfl,rfl⟩ (wk [0,2,2,0] (ZO k fl)))))))))))))))))
 exact ax 0 (Zq 1 [0] (Zz 1 b2 [Ya im.decls,.sl (Wy ((im.procs.take k).map U6)) (some v)] (ie (ZT (r3 [] [.agg [Ya im.decls,.sl (Wy ((im.procs.take k).map U6)) (some v)]] [0] [(b2,b2)] ⟨rfl,rfl⟩ (Zd.agg (.cons (lr _) (.cons (Zd.sl _ (Yp Wy (by rw [show k=im.procs.length by omega,Uf]))) .nil))))))))
theorem Zcm (im:YN) (lz:Nat) (hz:IZ im lz:=by exact ob) (hlz:lz<=100:=by exact ob):Zo 35 [VX im] [] (Yy (.b (Xq im))):=by
 have hil:=hz.len
 have hds:=hz.decls.sz
 refine ZG 29 Tryz.func35 (ar (iA (U3 im) fun b1=>Z2 (Yr 2 [0] (iw (J1 im.procs) (Xp [1] [(13,.b ((decide ((im.procs.length:Int)>4))||(!UL im.decls (im.procs.map U6))))] (fun gz=>gz) ?_ ?_)))))
 ·refine Z0 2 (ib (b:=(decide ((im.procs.length:Int)>4))) 8 (fun Zc=>?_) (fun Zc=>?_))
  ·have Y6:(im.procs.length:Int)>4:=(dq).1 Zc
   exact Z2 (wk [0] (Zl true Zc fl))
  have Yt:¬((im.procs.length:Int)>4):=Y8 dq Zc
  exact ZA 1 [0] (Zu [] (Zca im) (Zu [] (RT im.decls (im.procs.map U6) (hz:=hds) (hf:=(by intro f hf;obtain ⟨r,h1,rfl⟩:=XF.1 hf;have:=(hz.procs r h1).params;show r.params.length<=_;omega))) (Z2 (wk [0] (Zl (!UL im.decls (im.procs.map U6)) Zc fl)))))
 refine ac ((decide ((im.procs.length:Int)>4))||(!UL im.decls (im.procs.map U6))) (p:=((im.procs.length:Int)>4)∨(¬(UL im.decls (im.procs.map U6)=true))) (ZY dq (Ys Iff.rfl)) (fun Z9=>?_) (fun Z9=>?_)
 ·exact ar (Zm (ZW (.b false) (lb (by rw [Xq];rcases Z9 with q|q<;>first|(rw [decide_eq_false om];rfl)|(rw [Q5.2 q];simp)))))
 simp only [not_or,T5] at Z9
 obtain ⟨hL,hV⟩:=Z9
 have hil4:im.procs.length<=4:=by omega
 have Xl:Xw im.decls:=LQ (by simp only [UL,Xo] at hV;exact hV.1)
 have hps:∀p∈im.procs,p.params.length<=3:=fun p hp=>(hz.procs p hp).params
 refine ak (Y0 (ab 0 (Y3 (fun fz gz m F h=>∃(k:Nat),(k<=im.procs.length)/\(Tf im (im.procs.drop k)=Tf im im.procs)/\F=sF [1] fz [(3,.i k)]/\h=gz/\m=im.procs.length-k) _ _ _ ⟨0,ob,rfl,rfl,rfl,rfl⟩ (wk [0] (Yd fl)) ?_)))
 rintro m F h ⟨k,Yk,Zh,rfl,rfl,rfl⟩
 refine Yr 3 [0] (iw (J1 im.procs) (ZZ ((k:Int)<(im.procs.length:Int)) (fun Zi=>?_) (fun Zi=>?_)))
 ·refine ak (aq (ab 1 (aD 8 (ZU 4 8 [0,1,2,3] [0,0] ?_))))
  obtain ⟨x1,Z4⟩:=Zv im.procs k om
  refine dx 4 (Zj none (k:Int) 5 (J0 Z4)) (Zs 2 3 [5] (Z8 6 (YH 6 [] [] [] (Zcs im x1 lz (hps:=hps) (hz:=(hz.procs _ (Y2 Z4)))) (Zs 0 1 [7] (de (ac (!(Tt im x1)) (p:=¬((Tt im x1)=true)) (Ys Iff.rfl) (fun ZB=>?_) (fun ZB=>?_)))))))
  ·exact ar (Zm (ZW (.b false) (lb (by rw [Xq,<-Gf Z4 (Q5.2 (by assumption)) Zh];simp))))
  exact ak (az (Z0 1 (ZE k (Z2 (ZJ ⟨k+1,ob,(Pq Z4 (T5.1 ZB) Zh),rfl,rfl,rfl⟩ (wk [0] (ZO k fl)))))))
 exact ax 0 (ar (Zm (ZW (.b true) (lb (by rw [Xq,decide_eq_true hil4,hV,<-Pp om Zh];rfl)))))
theorem GC (im:YN) (lz:Nat) (hz:IZ im lz:=by exact ob) (hlz:lz<=100:=by exact ob):Zo 13 [VX im] [] (Yy (.b (Xq im))):=by
 exact ZG 5 Tryz.func13 (ar (iA (U3 im) fun b1=>Z2 (Zq 1 [0] (Zu [] (Zcm im lz (hz:=hz)) (Zm (Cp))))))
open Go.Proofs
theorem FI (ds:List Zb) (t:Int) (hl_ds:ds.length<=4294967296:=by exact ob):Zo 97 [Ya ds,.i t] [] (fun r h=>r=.b (decide (0<=t/\t<=ds.length))/\h=[]):=by
 refine ZG 13 Tryz.func97 (Y7 (ar (Xb 8 [] [(12,.b ((decide (t>=0))&&(decide (t<=(ds.length:Int)))))] (fun gz=>gz) ?_ (fun hj1=>?_))))
 ·exact Zm (ZW (.b ((decide (t>=0))&&(decide (t<=(ds.length:Int))))) (lb (by rw [Y9];simp)))
 refine Z0 3 (ib (b:=(decide (t>=0))) 7 (fun Zc=>?_) (fun Zc=>?_))
 ·exact Z0 2 (iw (Uo ds) (Z0 2 (Yb (wk [] (Zl (decide (t<=(ds.length:Int))) Zc fl)) hj1)))
 exact Z0 5 (Yb (wk [] (Zl false Zc fl)) hj1)
theorem Ob (ds:List Zb) (xs:LI) (hl_ds:ds.length<=4294967296:=by exact ob) (hl_xs:xs.length<=4294967296:=by exact ob):Zo 96 [Ya ds,Z3 xs] [] (Yy (.b (Wi ds.length xs))):=by
 refine ZG 18 Tryz.func96 (Y7 (YQ 1 (iw (Yc xs) (Z2 (ab 0 (Y3 (fun fz gz m F h=>∃(k:Nat),(k<=xs.length)/\(Wi ds.length (xs.drop k)=Wi ds.length xs)/\F=sF [0,7,8] fz [(9,.i k)]/\h=gz/\m=xs.length-k) _ _ _ ⟨0,ob,ob,rfl,rfl,rfl⟩ (wk [] (Yd fl)) ?_))))))
 rintro m F h ⟨k,Yk,Zh,rfl,rfl,rfl⟩
 refine Y7 (aq (VI ((k:Int)<(xs.length:Int)) (fun Z9=>?_) (fun Z9=>?_)))
 ·refine ak (aq (ab 1 (ar ?_)))
  obtain ⟨x1,Z4⟩:=Zv xs k om
  refine Zp (Zj none (k:Int) 1 (Y5 Z4)) (Z2 (Yf 2 (Zu [] (FI ds x1) (YC (!(decide (0<=x1/\x1<=ds.length))) (p:=¬(0<=x1/\x1<=ds.length)) (Ys dq) (fun Zi=>?_) (fun Zi=>?_)))))
  ·refine Y7 ?_
   rw [Yi Z4] at Zh
   exact ZT (ZW (.b false) (lb (by clear Z4;first|rfl|omega|grind [Wi])))
  refine ak (az (ZE k (Z2 ?_)))
  have hdr:=Yi Z4
  exact ZJ ⟨k+1,ob,(by rw [hdr] at Zh;clear hdr Z4;grind [Wi]),rfl,rfl,rfl⟩ (wk [] (ZO k fl))
 refine ax 0 (Y7 ?_)
 try rw [Xt (xs:=xs) (k:=k) om] at Zh
 exact ZT (ZW (.b true) (lb (by first|rfl|omega|grind [Wi])))
theorem Oc (ds:List Zb) (hd:Xw ds:=by exact ob):Zo 99 [Ya ds] [] (Yy (.i (YF ds:Nat))):=by
 have hdl:=hd.len
 refine ZG 19 Tryz.func99 (Y7 (Y7 (YQ 1 (iw (Uo ds) (Z2 (ab 0 (Y3 (fun fz gz m F h=>∃(k:Nat),(k<=ds.length)/\F=sF [6,7] fz [(3,.i ((YF (ds.take k):Nat):Int)),(8,.i k)]/\h=gz/\m=ds.length-k) _ _ _ ⟨0,ob,rfl,rfl,rfl⟩ (wk [] (Yd (Yd fl))) ?_)))))))
 rintro m F h ⟨k,Yk,rfl,rfl,rfl⟩
 refine Y7 (aq (VI ((k:Int)<(ds.length:Int)) (fun Z9=>?_) (fun Z9=>?_)))
 ·refine ak (aq (ab 1 (ar ?_)))
  obtain ⟨x1,Z4⟩:=Zv ds k om
  refine Zp (Zj none (k:Int) 3 (Vn Z4)) (Z0 1 (iA [.i 0,.i 0,nl] fun b1=>Zz 0 b1 (Ca x1) (ie (az (ZA 3 [0] (iw (UP x1.cons) (ia (((YF (ds.take k)+x1.cons.length:Nat):Int)) ((((YF (ds.take k):Nat):Int))+((x1.cons.length:Int))) (hb:=(by have h1:=hd.cons_at Z4;have h2:=(hd.take k).sum;omega)) (Z2 (az (ZE k (Z2 ?_)))))))))))
  have hdr:=Yi Z4
  exact ZJ ⟨k+1,ob,rfl,rfl,rfl⟩ (wk [] (fc (x:=.i ((YF (ds.take k)+x1.cons.length:Nat):Int)) (li (by rw [WU Z4,CD];simp [YF])) (ZO k fl)))
 exact ax 0 (ar (Zm (ZW (.i ((YF (ds.take k):Nat):Int)) (li (by rw [WJ om])))))
theorem Z6x (ds:List Zb) (c:Int) (hd:Xw ds:=by exact ob) (hc:-9223372036854775808<=c/\c<=9223372036854775807:=by exact ob):Zo 127 [Ya ds,.i c] [] (Yy (.tup [.i (We ds c),.agg [Z3 (ZK ds c)]])):=by
 have hdl:=hd.len
 refine ZG 38 Tryz.func127 (Yf 1 (iA [nl] fun b1=>?_))
 refine ie (YQ 1 (iw (Uo ds) (Z2 (ab 0 (Y3 (fun fz gz m F h=>∃(k:Nat) (cv:Int),(k<=ds.length)/\(AO c (YF (ds.take k)) cv)/\(Ug c (ds.drop k) k (YF (ds.take k))=Ug c ds 0 0)/\F=sF [5,8,9] fz [(1,.i cv),(10,.i k)]/\h=gz/\m=ds.length-k) _ _ _ ⟨0,c,ob,(.inl (by simp [YF])),rfl,rfl,rfl,rfl⟩ (wk [0] (fr (Yd fl))) ?_)))))
 rintro m F h ⟨k,cv,Yk,Zh,Zy,rfl,rfl,rfl⟩
 refine Y7 (aq (VI ((k:Int)<(ds.length:Int)) (fun Z9=>?_) (fun Z9=>?_)))
 ·refine ak (aq (ab 1 (Yf 1 ?_)))
  obtain ⟨x1,Z4⟩:=Zv ds k om
  refine Zp (Zj none (k:Int) 3 (Vn Z4)) (Z0 1 (iA [.i 0,.i 0,nl] fun b2=>Z0 1 (Zz 0 b2 (Ca x1) (ie (Xd (Xp [1,5,6,7,8,9,10] [(23,.b ((decide (cv>=0))&&(decide (cv<(x1.cons.length:Int)))))] (fun gz=>gz) ?_ ?_))))))
  ·refine Z0 3 (ib (b:=(decide (cv>=0))) 17 (fun Zc=>?_) (fun Zc=>?_))
   ·exact ZA 3 [0] (iw (UP x1.cons) (Z2 (wk [0,0] (Zl (decide (cv<(x1.cons.length:Int))) Zc fl))))
   exact Z2 (wk [0,0] (Zl false Zc fl))
  refine ac ((decide (cv>=0))&&(decide (cv<(x1.cons.length:Int)))) (p:=(cv>=0)/\(cv<(x1.cons.length:Int))) (YI dq dq) (fun Zi=>?_) (fun Zi=>?_)
  ·refine aD 9 (Zs 8 9 [0] (da 1 (((k+1:Nat):Int)) (((k:Int))+(1)) (ZU 4 7 [2,3,4] [0] ?_)))
   obtain ⟨x2,Zx⟩:=Zv x1.cons cv.toNat om
   refine dx 5 (Zj none cv 1 (BU Zx)) (Zs 1 3 [6,7] (Z8 8 (YZ 8 1 [] [] b1 (Oz x2) (de ?_))))
   have hz:=(hd.take k).sum
   have h3:=hd.cons_at Z4
   have hH:=Zy.symm.trans (Z1j Z4 Zh om h3 hc.1 Zi Zx)
   exact ZT (r3 [] [.i (k+1:Nat),Cw x2] [0] [(b1,b1)] ⟨rfl,rfl⟩ (Zd.tup (.cons (li (by rw [We,hH];omega)) (.cons (Zd.agg (.cons (Zd.sl _ (Yp Z6 (by rw [ZK,hH]))) .nil)) .nil))))
  refine ak (az (ZA 3 [0] (iw (UP x1.cons) (iW ((cv)-((x1.cons.length:Int))) (Z2 (az (ZE k (Z2 ?_))))))))
  have hdr:=Yi Z4
  exact ZJ ⟨k+1,(Cs ((cv)-((x1.cons.length:Int)))),ob,(by have hz:=(hd.take k).sum;have h3:=hd.cons_at Z4;rw [WU Z4,CD];simpa [YF] using Z0o Zh om h3 hc),(Z1h Z4 Zh Zi Zy),rfl,rfl,rfl⟩ (wk [1] (fr (ZO k fl)))
 refine ax 0 (Yf 2 (Zz 0 b1 [nl] (ie ?_)))
 have hH:Ug c ds 0 0=(-1,[]):=by rw [<-Zy,Xt om];rfl
 exact ZT (r3 [] [.i (-1),.agg [nl]] [0] [(b1,b1)] ⟨rfl,rfl⟩ (Zd.tup (.cons (li (by rw [We,hH])) (.cons (Zd.agg (.cons (Zd.sl _ (by rw [ZK,hH];rfl)) .nil)) .nil))))
theorem Z70 (ds:List Zb) (c:Int) (hd:Xw ds:=by exact ob) (hc:-9223372036854775808<=c/\c<=9223372036854775807:=by exact ob):Zo 101 [Ya ds,.i c] [] (Yy (Z3 (ZK ds c))):=by
 exact ZG 15 Tryz.func101 (Y7 (Yf 2 (Zu [] (Z6x ds c) (Z0 3 (iA [nl] fun b1=>Z0 1 (Zz 0 b1 [Z3 (ZK ds c)] (ie (Qb [0] (ZT (Cp))))))))))
theorem Z6y (ds:List Zb) (t:Int) (hd:Xw ds:=by exact ob):Zo 100 [Ya ds,.i t] [] (Yy (Z3 (ZQ ds t))):=by
 have hdl:=hd.len
 refine ZG 39 Tryz.func100 (Y7 (Xd (Xp [0,1] [(15,.b ((decide (t<1))||(decide (t>(ds.length:Int)))))] (fun gz=>gz) ?_ ?_)))
 ·refine Z0 3 (ib (b:=(decide (t<1))) 10 (fun Zc=>?_) (fun Zc=>?_))
  ·exact Z2 (wk [] (Zl true Zc fl))
  exact Z0 2 (iw (Uo ds) (Z2 (wk [] (Zl (decide (t>(ds.length:Int))) Zc fl))))
 refine ac ((decide (t<1))||(decide (t>(ds.length:Int)))) (p:=(t<1)∨(t>(ds.length:Int))) (ZY dq dq) (fun Z9=>?_) (fun Z9=>?_)
 ·exact ar (Zm (ZW (nl) (Zd.sl _ (by rw [ZQ,Za om];rfl))))
 have hti:1<=t/\t<=ds.length:=by omega
 obtain ⟨d,hd1⟩:=Zv ds ((t-1).toNat) om
 have hdc:=hd.cons_at hd1
 have hsm:=(hd.take (t-1).toNat).sum
 refine ak (Yf 2 (ia ((((t-1).toNat:Nat):Int)) ((t)-(1)) (Zp (AH (es:=YR ds) (hv:=none) (l:=0) (m:=(((t-1).toNat:Nat):Int)) (sz:=3) (es':=YR (ds.take ((t-1).toNat))) kr om (by simp<;>omega) (by simp<;>omega) (K0 _) (by first|(simp only [Tj,Uf,CJ,CI];done)|(simp only [Tj,Uf,CJ,CI];rfl)|(simp [CJ,CI];done))) (Zu [] (Oc (ds.take ((t-1).toNat)) (hd:=(hd.take _))) (Z2 (Y7 (YQ 2 (ia ((((t-1).toNat:Nat):Int)) ((t)-(1)) (Zp (Zj none (((t-1).toNat:Nat):Int) 3 (Vn hd1)) (Z0 2 (iw (UP d.cons) (Z2 (ab 0 (Ma 1 (Y3 (fun fz gz m F h=>∃(k:Nat) (v:Value),(k<=d.cons.length)/\F=sF [5,27] fz [(6,ZV (VF (YF (ds.take (t-1).toNat)) k) v),(28,.i k)]/\h=[.tail v 1]/\m=d.cons.length-k) _ _ _ ⟨0,(.slice none 0 0),ob,rfl,rfl,rfl⟩ (wk [0] (fc (x:=nl) (Zd.slh _ rfl) (Yd fl))) ?_)))))))))))))))
 rintro m F h ⟨k,v,Yk,rfl,rfl,rfl⟩
 refine Y7 (aq (VI ((k:Int)<(d.cons.length:Int)) (fun Zi=>?_) (fun Zi=>?_)))
 ·exact ak (aq (ab 1 (Y7 (az (Z0 3 (ia ((((YF (ds.take ((t-1).toNat)))+k:Nat):Int)) ((((YF (ds.take ((t-1).toNat)):Nat):Int))+((k:Int))) (iL (Z6 [(((YF (ds.take ((t-1).toNat)))+k:Nat):Int)]) 1 1 fun v1=>ZM 0 [(35,Z3 [(((YF (ds.take ((t-1).toNat)))+k:Nat):Int)])] (ip 1 (Z6 (VF (YF (ds.take (t-1).toNat)) k++[(((YF (ds.take ((t-1).toNat)))+k:Nat):Int)])) (Z6 (VF (YF (ds.take (t-1).toNat)) k)) (Z6 [(((YF (ds.take ((t-1).toNat)))+k:Nat):Int)]) v none 1 (YG _) (YG _) (W4 _) (by simp;omega) (by simp [W3,Z6]) fun v2=>Z2 (az (ZE k (Z2 (ZJ ⟨k+1,v2,ob,rfl,rfl,rfl⟩ (wk [0] (fc (x:=ZV (VF (YF (ds.take (t-1).toNat)) k++[(((YF (ds.take ((t-1).toNat)))+k:Nat):Int)]) v2) (Zd.slh _ (Yp Z6 (P0 _ _).symm)) (ZO k fl)))))))))))))))
 exact ax 0 (ar (Zm (ZW (ZV (VF (YF (ds.take (t-1).toNat)) k) v) (Zd.sl _ (Yp Z6 (by rw [ZQ,Zk hti,hd1,show k=d.cons.length by omega];rfl))))))
theorem Z6v (ds:List Zb) (hz:QT ds:=by exact ob):Zo 95 [Ya ds] [] (Yy (.b (WO ds))):=by
 have hzl:=hz.len
 refine ZG 106 Tryz.func95 (Y7 (YQ 1 (iw (Uo ds) (ZZ ((ds.length:Int)>4) (fun Z9=>?_) (fun Z9=>?_)))))
 ·exact ar (Zm (ZW (.b false) (lb (by rw [WO,decide_eq_false om];rfl))))
 refine ak (YQ 1 (iw (Uo ds) (Z2 (ab 0 (Y3 (fun fz gz m F h=>∃(k:Nat),(k<=ds.length)/\(UN ds (ds.drop k) k=UN ds ds 0)/\F=sF [0,12,13] fz [(14,.i k)]/\h=gz/\m=ds.length-k) _ _ _ ⟨0,ob,rfl,rfl,rfl,rfl⟩ (wk [] (Yd fl)) ?_)))))
 rintro m F h ⟨k,Yk,Zh,rfl,rfl,rfl⟩
 refine Y7 (aq (VI ((k:Int)<(ds.length:Int)) (fun Zi=>?_) (fun Zi=>?_)))
 ·refine ak (aq (ab 1 (Yf 1 ?_)))
  obtain ⟨x1,Z4⟩:=Zv ds k om
  have hz1:=hz.cons_at Z4
  refine Zp (Zj none (k:Int) 3 (Vn Z4)) (Z0 1 (iA [.i 0,.i 0,nl] fun b1=>Z0 1 (Zz 0 b1 (Ca x1) (ie (Yr 3 [0] (Zu [] (FI ds x1.frm) (Xb 12 [0,3,4,12,13,14] [(30,.b ((!(decide (0<=x1.frm/\x1.frm<=ds.length)))||(!(decide (0<=x1.to_/\x1.to_<=ds.length)))))] (fun gz=>gz) ?_ (fun hj1=>?_))))))))
  ·refine Xb 18 [0,3,4,12,13,14] [(36,.b (((!(decide (0<=x1.frm/\x1.frm<=ds.length)))||(!(decide (0<=x1.to_/\x1.to_<=ds.length))))||(decide ((x1.cons.length:Int)>3))))] (fun gz=>gz) ?_ (fun hj2=>?_)
   ·refine Xp [0,3,4,12,13,14] [(52,.b ((((!(decide (0<=x1.frm/\x1.frm<=ds.length)))||(!(decide (0<=x1.to_/\x1.to_<=ds.length))))||(decide ((x1.cons.length:Int)>3)))||((decide ((x1.cons.length:Int)>0))&&((x1.frm != 0)||(x1.to_ != 0)))))] (fun gz=>gz) ?_ ?_
    ·refine Z0 1 (ib (b:=(((!(decide (0<=x1.frm/\x1.frm<=ds.length)))||(!(decide (0<=x1.to_/\x1.to_<=ds.length))))||(decide ((x1.cons.length:Int)>3)))) 37 (fun Zc=>?_) (fun Zc=>?_))
     ·have Y6:((¬(0<=x1.frm/\x1.frm<=ds.length))∨(¬(0<=x1.to_/\x1.to_<=ds.length)))∨((x1.cons.length:Int)>3):=((ZY (ZY (Ys dq) (Ys dq)) dq)).1 Zc
      exact Z2 (wk [0] (Zl true Zc fl))
     have Yt:¬(((¬(0<=x1.frm/\x1.frm<=ds.length))∨(¬(0<=x1.to_/\x1.to_<=ds.length)))∨((x1.cons.length:Int)>3)):=Y8 (ZY (ZY (Ys dq) (Ys dq)) dq) Zc
     refine ZA 2 [0] (iw (UP x1.cons) (Z0 2 (ib (b:=(decide ((x1.cons.length:Int)>0))) 42 (fun ZF=>?_) (fun ZF=>?_))))
     ·have YP:(x1.cons.length:Int)>0:=(dq).1 ZF
      refine ZA 4 [0] (ib (b:=(x1.frm != 0)) 46 (fun Ym=>?_) (fun Ym=>?_))
      ·have X2:x1.frm≠0:=(Yv).1 Ym
       exact Z2 (wk [0] (Zl true (And.intro Zc (And.intro ZF Ym)) fl))
      have Xg:¬(x1.frm≠0):=Y8 Yv Ym
      exact WT [0] (wk [0] (Zl (x1.to_ != 0) (And.intro Zc (And.intro ZF Ym)) fl))
     have XQ:¬((x1.cons.length:Int)>0):=Y8 dq ZF
     exact Z2 (wk [0] (Zl false (And.intro Zc ZF) fl))
    refine ac ((((!(decide (0<=x1.frm/\x1.frm<=ds.length)))||(!(decide (0<=x1.to_/\x1.to_<=ds.length))))||(decide ((x1.cons.length:Int)>3)))||((decide ((x1.cons.length:Int)>0))&&((x1.frm != 0)||(x1.to_ != 0)))) (p:=(((¬(0<=x1.frm/\x1.frm<=ds.length))∨(¬(0<=x1.to_/\x1.to_<=ds.length)))∨((x1.cons.length:Int)>3))∨(((x1.cons.length:Int)>0)/\((x1.frm≠0)∨(x1.to_≠0)))) (ZY (ZY (ZY (Ys dq) (Ys dq)) dq) (YI dq (ZY Yv Yv))) (fun ZB=>?_) (fun ZB=>?_)
    ·exact ar (Zm (ZW (.b false) (lb (LR Z4 (Z28 ZB) Zh))))
    refine ak (Yr 2 [0] (iw (UP x1.cons) (Z2 (ab 2 (Y3 (fun fz gz m F h=>∃(q:Nat),(q<=x1.cons.length)/\(Tm ds.length (x1.cons.drop q)=Tm ds.length x1.cons)/\F=sF [0,3,4,12,13,14,54,55] fz [(56,.i q)]/\h=gz/\m=x1.cons.length-q) _ _ _ ⟨0,ob,rfl,rfl,rfl,rfl⟩ (wk [0] (Yd fl)) ?_)))))
    rintro m F h ⟨q,U7,Wb,rfl,rfl,rfl⟩
    refine Y7 (aq (VI ((q:Int)<(x1.cons.length:Int)) (fun Ye=>?_) (fun Ye=>?_)))
    ·refine ak (aq (ab 3 (ar ?_)))
     obtain ⟨x2,Zx⟩:=Zv x1.cons q om
     refine Zp (Zj none (q:Int) 1 (BU Zx)) (Z0 1 (iA [nl] fun b2=>Zz 0 b2 (Oz x2) (ie (Zq 2 [0] (iw (Yc x2.fields) (Xp [0,3,4,12,13,14,54,55,56] [(70,.b ((decide ((x2.fields.length:Int)>3))||(!Wi ds.length x2.fields)))] (fun gz=>gz) ?_ ?_))))))
     ·refine Z0 2 (ib (b:=(decide ((x2.fields.length:Int)>3))) 64 (fun X8=>?_) (fun X8=>?_))
      ·have Wf:(x2.fields.length:Int)>3:=(dq).1 X8
       exact Z2 (wk [0,0] (Zl true X8 fl))
      have WY:¬((x2.fields.length:Int)>3):=Y8 dq X8
      exact ZA 3 [0] (Zu [] (Ob ds x2.fields) (Z2 (wk [0,0] (Zl (!Wi ds.length x2.fields) X8 fl))))
     refine ac ((decide ((x2.fields.length:Int)>3))||(!Wi ds.length x2.fields)) (p:=((x2.fields.length:Int)>3)∨(¬(Wi ds.length x2.fields=true))) (ZY dq (Ys Iff.rfl)) (fun YA=>?_) (fun YA=>?_)
     ·exact ar (Zm (ZW (.b false) (lb (LR Z4 (Z29 om (by rw [<-Wb,Yi Zx,Tm,Za (by rw [Z1k YA];simp)])) Zh))))
     refine ak (az (ZE q (Z2 ?_)))
     have hdr:=Yi Zx
     exact ZJ ⟨q+1,ob,(by rw [Yi Zx,Tm,Zk (Z1l YA)] at Wb;exact Wb),rfl,rfl,rfl⟩ (wk [1] (ZO q fl))
    have hC:Tm ds.length x1.cons=true:=by rw [<-Wb,Xt om];rfl
    refine ax 2 (Yf 2 (Zp (AH (es:=YR ds) (hv:=none) (l:=0) (m:=(k:Int)) (sz:=3) (es':=YR (ds.take k)) kr om (by simp<;>omega) (by simp<;>omega) (K0 _) (by first|(simp only [Tj,Uf,CJ,CI];done)|(simp only [Tj,Uf,CJ,CI];rfl)|(simp [CJ,CI];done))) (io (.i (((ds.take k).length:Nat):Int)) (.i (((YR (ds.take k)).length:Nat):Int)) (li (by rw [Uo])) (Z2 (ab 4 (Y3 (fun fz gz m F h=>∃(j:Nat),(j<=k)/\(x1.cons.length=0->Qu x1 ((ds.take k).drop j)=Qu x1 (ds.take k))/\F=sF [0,4,12,13,14,74,75] fz [(76,.i j)]/\h=gz/\m=k-j) _ _ _ ⟨0,ob,ob,rfl,rfl,rfl⟩ (wk [0] (Yd fl)) ?_))))))
    rintro m F h ⟨j,F6,BJ,rfl,rfl,rfl⟩
    refine Y7 (aq (VI ((j:Int)<(((ds.take k).length:Nat):Int)) (fun YW=>?_) (fun YW=>?_)))
    ·have htl:(ds.take k).length<=k:=by rw [Wd];omega
     refine ak (aq (ab 5 (ar ?_)))
     obtain ⟨x3,YU⟩:=Zv (ds.take k) j om
     refine Zp (Zj none (j:Int) 3 (Vn YU)) (Z0 1 (iA [.i 0,.i 0,nl] fun b3=>Zz 0 b3 (Ca x3) (ie (Zq 2 [1] (iw (UP x1.cons) (Xb 10 [0,4,8,12,13,14,74,75,76] [(89,.b (((x1.cons.length:Int)==0)&&((x3.cons.length:Int)==0)))] (fun gz=>gz) ?_ (fun hj3=>?_)))))))
     ·refine Xb 17 [0,4,8,12,13,14,74,75,76] [(96,.b ((((x1.cons.length:Int)==0)&&((x3.cons.length:Int)==0))&&(x3.frm==x1.frm)))] (fun gz=>gz) ?_ (fun hj4=>?_)
      ·refine Xp [0,4,12,13,14,74,75,76] [(103,.b (((((x1.cons.length:Int)==0)&&((x3.cons.length:Int)==0))&&(x3.frm==x1.frm))&&(x3.to_==x1.to_)))] (fun gz=>gz) ?_ ?_
       ·refine Z0 1 (ib (b:=((((x1.cons.length:Int)==0)&&((x3.cons.length:Int)==0))&&(x3.frm==x1.frm))) 97 (fun XY=>?_) (fun XY=>?_))
        ·have Vp:(((x1.cons.length:Int)=0)/\((x3.cons.length:Int)=0))/\(x3.frm=x1.frm):=((YI (YI Zf Zf) Zf)).1 XY
         exact WT [0,1] (wk [0,0] (Zl (x3.to_==x1.to_) XY fl))
        have UY:¬((((x1.cons.length:Int)=0)/\((x3.cons.length:Int)=0))/\(x3.frm=x1.frm)):=Y8 (YI (YI Zf Zf) Zf) XY
        exact Z2 (wk [0,0] (Zl false XY fl))
       refine ac (((((x1.cons.length:Int)==0)&&((x3.cons.length:Int)==0))&&(x3.frm==x1.frm))&&(x3.to_==x1.to_)) (p:=((((x1.cons.length:Int)=0)/\((x3.cons.length:Int)=0))/\(x3.frm=x1.frm))/\(x3.to_=x1.to_)) (YI (YI (YI Zf Zf) Zf) Zf) (fun Wo=>?_) (fun Wo=>?_)
       ·exact ar (Zm (ZW (.b false) (lb (LR Z4 (Z2a om (by rw [<-BJ om,Yi YU,Qu,Zk om])) Zh))))
       exact ak (az (ZE j (Z2 (ZJ ⟨j+1,ob,(fun q=>by have hq:=BJ q;rw [Yi YU,Qu,Za om] at hq;exact hq),rfl,rfl,rfl⟩ (wk [1] (ZO j fl))))))
      refine Z0 1 (ib (b:=(((x1.cons.length:Int)==0)&&((x3.cons.length:Int)==0))) 90 (fun Wn=>?_) (fun Wn=>?_))
      ·have Tp:((x1.cons.length:Int)=0)/\((x3.cons.length:Int)=0):=((YI Zf Zf)).1 Wn
       exact ZA 6 [0,1] (Yb (wk [0,0] (Zl (x3.frm==x1.frm) Wn fl)) hj4)
      have UZ:¬(((x1.cons.length:Int)=0)/\((x3.cons.length:Int)=0)):=Y8 (YI Zf Zf) Wn
      exact Z0 6 (Yb (wk [0,0] (Zl false Wn fl)) hj4)
     refine Z0 2 (ib (b:=((x1.cons.length:Int)==0)) 84 (fun WB=>?_) (fun WB=>?_))
     ·have QA:(x1.cons.length:Int)=0:=(Zf).1 WB
      exact ZA 2 [0] (iw (UP x3.cons) (Z0 2 (Yb (wk [0,0] (Zl ((x3.cons.length:Int)==0) WB fl)) hj3)))
     have TX:¬((x1.cons.length:Int)=0):=Y8 Zf WB
     exact Z0 5 (Yb (wk [0,0] (Zl false WB fl)) hj3)
    have htl:(ds.take k).length=k:=by rw [Wd];omega
    have hD:x1.cons.length=0->Qu x1 (ds.take k)=false:=fun q=>by rw [<-BJ q,Xt om];rfl
    refine ax 4 (az (ZE k (Z2 ?_)))
    have hdr:=Yi Z4
    exact ZJ ⟨k+1,ob,(Zdy Z4 (Z2b ZB hC hD) Zh),rfl,rfl,rfl⟩ (wk [] (ZO k fl))
   refine Z0 1 (ib (b:=((!(decide (0<=x1.frm/\x1.frm<=ds.length)))||(!(decide (0<=x1.to_/\x1.to_<=ds.length))))) 31 (fun V7=>?_) (fun V7=>?_))
   ·have J9:(¬(0<=x1.frm/\x1.frm<=ds.length))∨(¬(0<=x1.to_/\x1.to_<=ds.length)):=((ZY (Ys dq) (Ys dq))).1 V7
    exact Z0 5 (Yb (wk [0] (Zl true V7 fl)) hj2)
   have Ja:¬((¬(0<=x1.frm/\x1.frm<=ds.length))∨(¬(0<=x1.to_/\x1.to_<=ds.length))):=Y8 (ZY (Ys dq) (Ys dq)) V7
   exact ZA 2 [0] (iw (UP x1.cons) (Z0 2 (Yb (wk [0] (Zl (decide ((x1.cons.length:Int)>3)) V7 fl)) hj2)))
  refine Z0 2 (ib (b:=(!(decide (0<=x1.frm/\x1.frm<=ds.length)))) 24 (fun WW=>?_) (fun WW=>?_))
  ·have C7:¬(0<=x1.frm/\x1.frm<=ds.length):=((Ys dq)).1 WW
   exact Z0 6 (Yb (wk [0] (Zl true WW fl)) hj1)
  have Au:¬(¬(0<=x1.frm/\x1.frm<=ds.length)):=Y8 (Ys dq) WW
  exact ZA 3 [0] (Zu [] (FI ds x1.to_) (Z0 2 (Yb (wk [0] (Zl (!(decide (0<=x1.to_/\x1.to_<=ds.length))) WW fl)) hj1)))
 exact ax 0 (ar (Zm (ZW (.b true) (lb (Zdx om om Zh)))))
theorem Z77 (ds:List Zb) (fs:List Vm) (hz:QT ds:=by exact ob) (hf:∀f∈fs,f.pms.length<=4194304/\f.lnt.length<=4194304) (hfl:fs.length<=4194304:=by exact ob):Zo 60 [Ya ds,Ka fs] [] (Yy (.b (TO ds fs))):=by
 have hzl:=hz.len
 refine ZG 102 Tryz.func60 (Y7 (YQ 1 (Zu [] (Z6v ds) (Xb 8 [0,1] [(16,.b ((!WO ds)||(decide ((fs.length:Int)<1))))] (fun gz=>gz) ?_ (fun hj1=>?_)))))
 ·refine Xb 13 [0,1] [(21,.b (((!WO ds)||(decide ((fs.length:Int)<1)))||(decide ((fs.length:Int)>4))))] (fun gz=>gz) ?_ (fun hj2=>?_)
  ·refine Z0 1 (ib (b:=(((!WO ds)||(decide ((fs.length:Int)<1)))||(decide ((fs.length:Int)>4)))) 22 (fun Zc=>?_) (fun Zc=>?_))
   ·have Y6:((¬(WO ds=true))∨((fs.length:Int)<1))∨((fs.length:Int)>4):=((ZY (ZY (Ys Iff.rfl) dq) dq)).1 Zc
    exact Z2 (VD (ar (Zm (ZW (.b false) (lb (Ze3 (by assumption)))))))
   have Yt:¬(((¬(WO ds=true))∨((fs.length:Int)<1))∨((fs.length:Int)>4)):=Y8 (ZY (ZY (Ys Iff.rfl) dq) dq) Zc
   refine Z0 1 ?_
   obtain ⟨x1,Z4⟩:=Zv fs 0 om
   refine Zp (Zj none 0 3 (CQ Z4)) (Z0 2 (iw (Yc x1.pms) (Z0 3 (ib (b:=(decide ((x1.pms.length:Int)>0))) 30 (fun ZF=>?_) (fun ZF=>?_)))))
   ·have YP:(x1.pms.length:Int)>0:=(dq).1 ZF
    exact Z2 (VD (ar (Zm (ZW (.b false) (lb (Sp Z4 (.inl (by assumption))))))))
   have X2:¬((x1.pms.length:Int)>0):=Y8 dq ZF
   refine Z0 1 (Zp (Zj none 0 3 (CQ Z4)) (YC (x1.res != 0) Yv (fun Z9=>?_) (fun Z9=>?_)))
   ·exact ar (Zm (ZW (.b false) (lb (Sp Z4 (.inr Z9)))))
   refine ak (YQ 1 (iw (DT fs) (Z2 (ab 0 (Y3 (fun fz gz m F h=>∃(k:Nat),(k<=fs.length)/\(Kd ds.length (fs.drop k)=Kd ds.length fs)/\F=sF [0,37,38] fz [(39,.i k)]/\h=gz/\m=fs.length-k) _ _ _ ⟨0,ob,ob,rfl,rfl,rfl⟩ (wk [] (Yd fl)) ?_)))))
   rintro m F h ⟨k,Yk,Zh,rfl,rfl,rfl⟩
   refine Y7 (aq (VI ((k:Int)<(fs.length:Int)) (fun Zi=>?_) (fun Zi=>?_)))
   ·refine ak (aq (ab 1 (ar ?_)))
    obtain ⟨x2,Zx⟩:=Zv fs k om
    have hf2:=hf _ (Y2 Zx)
    refine Zp (Zj none (k:Int) 3 (CQ Zx)) (Z0 1 (iA [nl,nl,.i 0] fun b1=>Zz 0 b1 (OA x2) (ie (Yr 2 [0] (iw (Yc x2.pms) (Xb 11 [0,6,37,38,39] [(53,.b ((decide ((x2.pms.length:Int)>3))||(!Wi ds.length x2.pms)))] (fun gz=>gz) ?_ (fun hj3=>?_)))))))
    ·refine Xp [0,6,37,38,39] [(60,.b (((decide ((x2.pms.length:Int)>3))||(!Wi ds.length x2.pms))||(!(decide (0<=x2.res/\x2.res<=ds.length)))))] (fun gz=>gz) ?_ ?_
     ·refine Z0 1 (ib (b:=((decide ((x2.pms.length:Int)>3))||(!Wi ds.length x2.pms))) 54 (fun Ym=>?_) (fun Ym=>?_))
      ·have Xg:((x2.pms.length:Int)>3)∨(¬(Wi ds.length x2.pms=true)):=((ZY dq (Ys Iff.rfl))).1 Ym
       exact Z2 (wk [0] (Zl true Ym fl))
      have XQ:¬(((x2.pms.length:Int)>3)∨(¬(Wi ds.length x2.pms=true))):=Y8 (ZY dq (Ys Iff.rfl)) Ym
      exact ZA 3 [0] (Zu [] (FI ds x2.res) (Z2 (wk [0] (Zl (!(decide (0<=x2.res/\x2.res<=ds.length))) Ym fl))))
     refine ac (((decide ((x2.pms.length:Int)>3))||(!Wi ds.length x2.pms))||(!(decide (0<=x2.res/\x2.res<=ds.length)))) (p:=(((x2.pms.length:Int)>3)∨(¬(Wi ds.length x2.pms=true)))∨(¬(0<=x2.res/\x2.res<=ds.length))) (ZY (ZY dq (Ys Iff.rfl)) (Ys dq)) (fun ZB=>?_) (fun ZB=>?_)
     ·exact ar (Zm (ZW (.b false) (lb (GS (Gv Zx (Zau ZB) Zh)))))
     refine ak (Zq 2 [0] (iw (Yc x2.lnt) (Z2 (ab 2 (Y3 (fun fz gz m F h=>∃(j:Nat),(j<=x2.lnt.length)/\(K8 x2.pms (x2.lnt.drop j) (if j=0 then none else x2.lnt[j-1]?)=Ue x2.pms x2.lnt)/\F=sF [0,6,37,38,39,62,63] fz [(64,.i j)]/\h=gz/\m=x2.lnt.length-j) _ _ _ ⟨0,ob,(by rfl),rfl,rfl,rfl⟩ (wk [0] (Yd fl)) ?_)))))
     rintro m F h ⟨j,U7,Wb,rfl,rfl,rfl⟩
     refine Y7 (aq (VI ((j:Int)<(x2.lnt.length:Int)) (fun Ye=>?_) (fun Ye=>?_)))
     ·refine ak (aq (ab 3 (Yf 1 ?_)))
      obtain ⟨x3,YU⟩:=Zv x2.lnt j om
      refine Zp (Zj none (j:Int) 1 (Y5 YU)) (Z2 (ar (Xb 9 [0,6,7,8,37,38,39,62,63,64] [(77,.b ((decide (x3<0))||(decide (x3>=(x2.pms.length:Int)))))] (fun gz=>gz) ?_ (fun hj4=>?_))))
      ·refine Z0 1 (ib (b:=((decide (x3<0))||(decide (x3>=(x2.pms.length:Int))))) 78 (fun X8=>?_) (fun X8=>?_))
       ·have Wf:(x3<0)∨(x3>=(x2.pms.length:Int)):=((ZY dq dq)).1 X8
        exact Z2 (VD (ar (Zm (ZW (.b false) (lb (GS (Gv Zx (Ll (IP YU (by rintro ⟨q1,q2,q3⟩;first|omega|(rw [Uu] at q2;exact q2 (Yp some om))|(have:=q3 _ (by rw [Za om];exact Td);omega)) Wb)) Zh)))))))
       have WY:¬((x3<0)∨(x3>=(x2.pms.length:Int))):=Y8 (ZY dq dq) X8
       refine ZA 3 [0] ?_
       obtain ⟨x4,Uu⟩:=Zv x2.pms x3.toNat om
       refine Zp (Zj none x3 1 (Y5 Uu)) (Z0 4 (ib (b:=(x4==0)) 86 (fun XY=>?_) (fun XY=>?_)))
       ·have Vp:x4=0:=(Zf).1 XY
        exact Z2 (VD (ar (Zm (ZW (.b false) (lb (GS (Gv Zx (Ll (IP YU (by rintro ⟨q1,q2,q3⟩;first|omega|(rw [Uu] at q2;exact q2 (Yp some om))|(have:=q3 _ (by rw [Za om];exact Td);omega)) Wb)) Zh)))))))
       have UY:¬(x4=0):=Y8 Zf XY
       refine Z0 3 (ib (b:=(decide ((j:Int)>0))) 89 (fun Wn=>?_) (fun Wn=>?_))
       ·have Tp:(j:Int)>0:=(dq).1 Wn
        refine ZA 4 [0] (ia (((j-1:Nat):Int)) (((j:Int))-(1)) ?_)
        obtain ⟨x5,Td⟩:=Zv x2.lnt (j-1) om
        refine Zp (Zj none ((j-1:Nat):Int) 1 (Y5 Td)) (ZZ (x3<=x5) (fun YA=>?_) (fun YA=>?_))
        ·exact ar (Zm (ZW (.b false) (lb (GS (Gv Zx (Ll (IP YU (by rintro ⟨q1,q2,q3⟩;first|omega|(rw [Uu] at q2;exact q2 (Yp some om))|(have:=q3 _ (by rw [Za om];exact Td);omega)) Wb)) Zh)))))
        refine ak (az (ZE j (Z2 ?_)))
        have hdr:=Yi YU
        exact ZJ ⟨j+1,ob,(OK YU ⟨by omega,(by rw [Uu];intro q;cases q;omega),fun p hp=>by first|(rw [Zk om] at hp;cases hp;done)|(rw [Za om,Td] at hp;cases hp;omega)⟩ Wb),rfl,rfl,rfl⟩ (wk [0] (ZO j fl))
       have UZ:¬((j:Int)>0):=Y8 dq Wn
       refine Z2 (Vt (ak (az (ZE j (Z2 ?_)))))
       have hdr:=Yi YU
       exact ZJ ⟨j+1,ob,(OK YU ⟨by omega,(by rw [Uu];intro q;cases q;omega),fun p hp=>by first|(rw [Zk om] at hp;cases hp;done)|(rw [Za om,Td] at hp;cases hp;omega)⟩ Wb),rfl,rfl,rfl⟩ (wk [0] (ZO j fl))
      refine Z0 3 (ib (b:=(decide (x3<0))) 71 (fun WB=>?_) (fun WB=>?_))
      ·have QA:x3<0:=(dq).1 WB
       exact Z0 6 (Yb (wk [0] (Zl true WB fl)) hj4)
      have TX:¬(x3<0):=Y8 dq WB
      exact ZA 3 [0] (iw (Yc x2.pms) (Z0 2 (Yb (wk [0] (Zl (decide (x3>=(x2.pms.length:Int))) WB fl)) hj4)))
     have hL:Ue x2.pms x2.lnt=true:=by rw [<-Wb,Xt om];rfl
     have hS:=Zav ZB hL
     refine ax 2 (az (ZE k (Z2 ?_)))
     have hdr:=Yi Zx
     exact ZJ ⟨k+1,ob,(Zb8 Zx hS Zh),rfl,rfl,rfl⟩ (wk [] (ZO k fl))
    refine Z0 2 (ib (b:=(decide ((x2.pms.length:Int)>3))) 47 (fun V7=>?_) (fun V7=>?_))
    ·have J9:(x2.pms.length:Int)>3:=(dq).1 V7
     exact Z0 6 (Yb (wk [0] (Zl true V7 fl)) hj3)
    have Ja:¬((x2.pms.length:Int)>3):=Y8 dq V7
    exact ZA 3 [0] (Zu [] (Ob ds x2.pms) (Z0 2 (Yb (wk [0] (Zl (!Wi ds.length x2.pms) V7 fl)) hj3)))
   exact ax 0 (ar (Zm (ZW (.b true) (lb (Ze4 (by assumption) Z4 (by assumption) Z9 (by rw [<-Zh,Xt om];rfl))))))
  refine Z0 1 (ib (b:=((!WO ds)||(decide ((fs.length:Int)<1)))) 17 (fun WW=>?_) (fun WW=>?_))
  ·have C7:(¬(WO ds=true))∨((fs.length:Int)<1):=((ZY (Ys Iff.rfl) dq)).1 WW
   exact Z0 4 (Yb (wk [] (Zl true WW fl)) hj2)
  have Au:¬((¬(WO ds=true))∨((fs.length:Int)<1)):=Y8 (ZY (Ys Iff.rfl) dq) WW
  exact Z0 1 (iw (DT fs) (Z0 2 (Yb (wk [] (Zl (decide ((fs.length:Int)>4)) WW fl)) hj2)))
 refine Z0 2 (ib (b:=(!WO ds)) 12 (fun Us=>?_) (fun Us=>?_))
 ·have Im:¬(WO ds=true):=((Ys Iff.rfl)).1 Us
  exact Z0 4 (Yb (wk [] (Zl true Us fl)) hj1)
 have In:¬(¬(WO ds=true)):=Y8 (Ys Iff.rfl) Us
 exact Z0 1 (iw (DT fs) (Z0 2 (Yb (wk [] (Zl (decide ((fs.length:Int)<1)) Us fl)) hj1)))
theorem Z71 (im:YN) (lz:Nat) (hz:IZ im lz:=by exact ob) (hlz:lz<=100:=by exact ob):Zo 33 [VX im] [] (fun r h=>(r=.tup [.agg [Ya im.decls,Ka (im.procs.map W0)],.b (TO im.decls (im.procs.map W0))]/\h=[]/\im.procs.length<=4)∨(r=.tup [.agg [Ya [],Ka []],.b false]/\h=[]/\¬im.procs.length<=4)):=by
 have hzl:=hz.len
 have hds:=hz.decls.sz
 refine ZG 41 Tryz.func33 (ar (iA (U3 im) fun b1=>iA [nl,nl] fun b2=>Z2 (Yr 2 [1] (iw (J1 im.procs) (ZZ ((im.procs.length:Int)>4) (fun Z9=>?_) (fun Z9=>?_))))))
 ·exact Yf 1 (Zz 0 b2 [nl,nl] (Zm (r3 [] [.agg [nl,nl],.b false] [0] [(b2,b2)] (.inr ⟨rfl,rfl,ob⟩) (Zd.tup (.cons (Zd.agg (.cons (Zd.sl _ rfl) (.cons (Zd.sl _ rfl) .nil))) (.cons (lr _) .nil))))))
 refine ak (Zq 3 [1] (iA [nl,nl] fun b3=>?_))
 refine Zz 0 b3 [Ya im.decls,nl] (ie (Yr 2 [2] (iw (J1 im.procs) (Z2 (ab 0 (Ma 3 (Y3 (fun fz gz m F h=>∃(k:Nat) (v:Value),(k<=im.procs.length)/\F=sF [1,2,4,16,17] fz [(18,.i k)]/\h=[.obj b3 [Ya im.decls,G5 ((im.procs.take k).map W0) v],Zg gz 2,Zg gz 3,.tail v 3]/\m=im.procs.length-k) _ _ _ ⟨0,(.slice none 0 0),ob,rfl,rfl,rfl⟩ (wk [1,1,1,0] (Yd fl)) ?_)))))))
 rintro m F h ⟨k,v,Yk,rfl,rfl,rfl⟩
 refine Y7 (aq (VI ((k:Int)<(im.procs.length:Int)) (fun Zi=>?_) (fun Zi=>?_)))
 ·refine ak (aq (ab 1 (ar ?_)))
  obtain ⟨x1,Z4⟩:=Zv im.procs k om
  exact Zp (Zj none (k:Int) 5 (J0 Z4)) (Z0 1 (iA [nl,nl,.i 0,.i 0,nl] fun b4=>Zz 0 b4 (UG x1) (ie (az (ZA 9 [1,0,0,0] (iL (US [Vm.mk x1.params x1.lent x1.result]) 1 3 fun v1=>ZM 0 [(31,Ka [Vm.mk x1.params x1.lent x1.result])] (ip 5 (US ((im.procs.take (k+1)).map W0)) (US ((im.procs.take k).map W0)) (US [Vm.mk x1.params x1.lent x1.result]) v none 3 (MT _) (MT _) (Z2o _) (by simp<;>omega) (by rw [WU Z4];simp [US,W0]) fun v2=>Z0 1 (Zz 3 b3 [Ya im.decls,G5 ((im.procs.take (k+1)).map W0) v2] (ie (az (ZE k (Z2 (ZJ ⟨k+1,v2,ob,rfl,rfl,rfl⟩ (wk [0,3,3,0] (ZO k fl)))))))))))))))
 refine ax 0 (aD 8 (CH 3 8 [0,1,2,3,4] [(39,Ka ((im.procs.take k).map W0))] [0,2,0] (Z8 5 (YH 5 [] [0] [b3] (Z77 im.decls ((im.procs.take k).map W0) (hz:=hds) (hf:=(by intro f hf;obtain ⟨r,h1,rfl⟩:=XF.1 hf;have q:=hz.procs r (Qo h1);have:=q.params;have:=q.lent;exact ⟨by show r.params.length<=_;omega,by show r.lent.length<=_;omega⟩)) (hfl:=(by rw [Qn,Wd];omega))) (Z8 6 (YZ 6 1 [] [] b2 [Ya im.decls,G5 ((im.procs.take k).map W0) v] (Zs 0 1 [7] (de ?_))))))))
 have htk:im.procs.take k=im.procs:=WJ om
 exact ZT (r3 [] [.agg [Ya im.decls,G5 ((im.procs.take k).map W0) v],.b (TO im.decls ((im.procs.take k).map W0))] [0] [(b2,b2)] (.inl ⟨rfl,rfl,ob⟩) (Zd.tup (.cons (Zd.agg (.cons (lr _) (.cons (Zd.sl _ (Yp US (by rw [htk]))) .nil))) (.cons (lb (by rw [htk])) .nil))))
theorem Z76 (op:Int) :Zo 61 [.i op] [] (fun r h=>r=.b (decide (((0<=op/\op<=11)∨op=18)∨op=19))/\h=[]):=by
 refine ZG 17 Tryz.func61 (Y7 (ar (Xb 6 [0] [(8,.b ((decide (op>=0))&&(decide (op<=11))))] (fun gz=>gz) ?_ (fun hj1=>?_))))
 ·refine Xb 10 [0] [(12,.b (((decide (op>=0))&&(decide (op<=11)))||(op==18)))] (fun gz=>gz) ?_ (fun hj2=>?_)
  ·refine Xb 14 [] [(16,.b ((((decide (op>=0))&&(decide (op<=11)))||(op==18))||(op==19)))] (fun gz=>gz) ?_ (fun hj3=>?_)
   ·exact Zm (ZW (.b ((((decide (op>=0))&&(decide (op<=11)))||(op==18))||(op==19))) (lb (by rw [Y9];simp)))
   refine Z0 1 (ib (b:=(((decide (op>=0))&&(decide (op<=11)))||(op==18))) 13 (fun Zc=>?_) (fun Zc=>?_))
   ·have Y6:((op>=0)/\(op<=11))∨(op=18):=((ZY (YI dq dq) Zf)).1 Zc
    exact Z0 3 (Yb (wk [] (Zl true Zc fl)) hj3)
   have Yt:¬(((op>=0)/\(op<=11))∨(op=18)):=Y8 (ZY (YI dq dq) Zf) Zc
   exact Z0 3 (Yb (wk [] (Zl (op==19) Zc fl)) hj3)
  refine Z0 1 (ib (b:=((decide (op>=0))&&(decide (op<=11)))) 9 (fun ZF=>?_) (fun ZF=>?_))
  ·have YP:(op>=0)/\(op<=11):=((YI dq dq)).1 ZF
   exact Z0 3 (Yb (wk [] (Zl true ZF fl)) hj2)
  have X2:¬((op>=0)/\(op<=11)):=Y8 (YI dq dq) ZF
  exact Z0 3 (Yb (wk [] (Zl (op==18) ZF fl)) hj2)
 refine Z0 3 (ib (b:=(decide (op>=0))) 5 (fun Ym=>?_) (fun Ym=>?_))
 ·have Xg:op>=0:=(dq).1 Ym
  exact Z0 3 (Yb (wk [] (Zl (decide (op<=11)) Ym fl)) hj1)
 have XQ:¬(op>=0):=Y8 dq Ym
 exact Z0 3 (Yb (wk [] (Zl false Ym fl)) hj1)
theorem Od (p:ZX) (k:Nat) (a:Int) (kb:Nat) (pb:Nat) (hcl:p.code.length<=200000000:=by exact ob):Zo 62 [.i a,.p kb 0,.p pb 0] [.obj kb [.i k],.obj pb (UG p)] (fun r h=>r=.b (decide ((k:Int)<a/\a<p.code.length))/\h=[.obj kb [.i k],.obj pb (UG p)]):=by
 refine ZG 15 Tryz.func62 (Y7 (ar (Xb 10 [] [(14,.b ((decide (a>(k:Int)))&&(decide (a<(p.code.length:Int)))))] (fun gz=>gz) ?_ (fun hj1=>?_))))
 ·exact Zm (r2 [0,0] [.b ((decide (a>(k:Int)))&&(decide (a<(p.code.length:Int))))] ⟨rfl,rfl⟩ (lb (by rw [Y9];simp)))
 refine ZA 4 [0] (ib (b:=(decide (a>(k:Int)))) 8 (fun Zc=>?_) (fun Zc=>?_))
 ·have Y6:a>(k:Int):=(dq).1 Zc
  exact ZA 3 [1] (iw (Q9 p.code) (Z0 2 (Yb (wk [0,0] (Zl (decide (a<(p.code.length:Int))) Zc fl)) hj1)))
 have Yt:¬(a>(k:Int)):=Y8 dq Zc
 exact Z0 6 (Yb (wk [0,0] (Zl false Zc fl)) hj1)
theorem Z74 (p:ZX) (k:Nat) (a:Int) (kb:Nat) (pb:Nat) (fb:Nat) (hcl:p.code.length<=200000000:=by exact ob):Zo 64 [.i a,.p fb 0] [.obj fb [.val (.func (.func 62) #[] #[.pointer (some ⟨kb,0,none⟩),.pointer (some ⟨pb,0,none⟩)])],.obj kb [.i k],.obj pb (UG p)] (fun r h=>r=.b (decide (¬((k:Int)<a/\a<p.code.length)))/\h=[.obj fb [.val (.func (.func 62) #[] #[.pointer (some ⟨kb,0,none⟩),.pointer (some ⟨pb,0,none⟩)])],.obj kb [.i k],.obj pb (UG p)]):=by
 exact ZG 8 Tryz.func64 (Y7 (Zq 2 [0] (Zu [1,1] (Od _ k a kb pb) (Zm (r2 [2,0,0] [.b (!(decide ((k:Int)<a/\a<p.code.length)))] ⟨rfl,rfl⟩ (lb (by rw [Y9];simp)))))))
theorem Z72 (p:ZX) (k:Nat) (xs:LI) (kb:Nat) (pb:Nat) (fb:Nat) (hcl:p.code.length<=200000000:=by exact ob) (hl:xs.length<=1000000:=by exact ob):Zo 98 [Z3 xs,.val (.func (.func 64) #[] #[.pointer (some ⟨fb,0,none⟩)])] [.obj fb [.val (.func (.func 62) #[] #[.pointer (some ⟨kb,0,none⟩),.pointer (some ⟨pb,0,none⟩)])],.obj kb [.i k],.obj pb (UG p)] (fun r h=>∃(z:Int),r=.i z/\h=[.obj fb [.val (.func (.func 62) #[] #[.pointer (some ⟨kb,0,none⟩),.pointer (some ⟨pb,0,none⟩)])],.obj kb [.i k],.obj pb (UG p)]/\(decide (z>=0)=!W9 k p.code.length xs)):=by
 refine ZG 19 Tryz.func98 (Y7 (YQ 1 (iw (Yc xs) (Z2 (ab 0 (Y3 (fun fz gz m F h=>∃(j:Nat),(j<=xs.length)/\(W9 k p.code.length (xs.drop j)=W9 k p.code.length xs)/\F=sF [0,1,7] fz [(8,.i j)]/\h=gz/\m=xs.length-j) _ _ _ ⟨0,ob,rfl,rfl,rfl,rfl⟩ (Zw 3 (Yd fl)) ?_))))))
 rintro m F h ⟨j,Yk,Zh,rfl,rfl,rfl⟩
 refine Y7 (aq (VI ((j:Int)<(xs.length:Int)) (fun Z9=>?_) (fun Z9=>?_)))
 ·refine ak (aq (ab 1 (Y7 (Yf 3 ?_))))
  obtain ⟨x1,Z4⟩:=Zv xs j om
  refine Zp (Zj none (j:Int) 1 (Y5 Z4)) (Z0 1 (Zu [0,0,0] (Z74 _ k x1 kb pb fb) (ie (VI (¬((k:Int)<x1/\x1<p.code.length)) (fun Zi=>?_) (fun Zi=>?_)))))
  ·exact ar (Zm (r1 [0,0,0] ⟨(j:Int),rfl,rfl,(by first|(rw [<-II Z4 om Zh,decide_eq_true om];rfl)|(rw [<-IJ om Zh];rfl))⟩))
  exact ak (az (ZE j (Z2 (ZJ ⟨j+1,ob,(OC Z4 om Zh),rfl,rfl,rfl⟩ (Zw 3 (ZO j fl))))))
 exact ax 0 (ar (Zm (r1 [0,0,0] ⟨(-1),rfl,rfl,(by first|(rw [<-II Z4 om Zh,decide_eq_true om];rfl)|(rw [<-IJ om Zh];rfl))⟩)))
theorem Z6z (p:ZX) (k:Nat) (xs:LI) (kb:Nat) (pb:Nat) (fb:Nat) (hcl:p.code.length<=200000000:=by exact ob) (hl:xs.length<=1000000:=by exact ob):Zo 63 [Z3 xs,.val (.func (.func 64) #[] #[.pointer (some ⟨fb,0,none⟩)])] [.obj fb [.val (.func (.func 62) #[] #[.pointer (some ⟨kb,0,none⟩),.pointer (some ⟨pb,0,none⟩)])],.obj kb [.i k],.obj pb (UG p)] (fun r h=>r=.b (!W9 k p.code.length xs)/\h=[.obj fb [.val (.func (.func 62) #[] #[.pointer (some ⟨kb,0,none⟩),.pointer (some ⟨pb,0,none⟩)])],.obj kb [.i k],.obj pb (UG p)]):=by
 refine ZG 9 Tryz.func63 (Y7 (Yf 2 (ic [0,0,0] (Z72 _ k xs kb pb fb) ?_)))
 rintro _ _ ⟨z1,rfl,rfl,Y6⟩
 have hix:=Y6
 exact Zm (r2 [0,0,0] [.b (decide (z1>=0))] ⟨rfl,rfl⟩ (lb hix))
theorem Z75 (im:YN) (p:ZX) (k:Nat) (x:Instr) (kb:Nat) (pb:Nat) (hd:Xw im.decls:=by exact ob) (hpl:im.procs.length<=4:=by exact ob) (hps:∀p∈im.procs,p.params.length<=3) (hcl:p.code.length<=200000000:=by exact ob) (hxl:x.jumps.length<=1000:=by exact ob):Zo 65 [.agg [Ya im.decls,Ka (im.procs.map W0)],Tx x,.val (.func (.func 62) #[] #[.pointer (some ⟨kb,0,none⟩),.pointer (some ⟨pb,0,none⟩)])] [.obj kb [.i k],.obj pb (UG p)] (fun r h=>r=.b (Wp im k p.code.length x)/\h=[.obj kb [.i k],.obj pb (UG p)]):=by
 have hk3:=Dd hd x.num
 have hsl:=Rs im
 have hss:=hd.sum
 refine ZG 109 Tryz.func65 (ar (iA [Ya im.decls,Ka (im.procs.map W0)] fun b1=>iA (Vx x) fun b2=>Z2 (Xd (WT [0] (ab 0 (ar (YC (x.op==0) Zf (fun Z9=>?_) (fun Z9=>?_))))))))
 ·refine ar (Xb 8 [] [(19,.b ((decide (x.num>=(-999)))&&(decide (x.num<=999))))] (fun gz=>gz) ?_ (fun hj1=>?_))
  ·exact Zm (r2 [2,2] [.b ((decide (x.num>=(-999)))&&(decide (x.num<=999)))] ⟨rfl,rfl⟩ (lb (by unfold Wp;(repeat (first|rw [Zk om]|rw [Za om]));all_goals (first|rfl|(rw [Y9];simp;done)|(rw [Y9];simp;omega)))))
  refine ZA 4 [0] (ib (b:=(decide (x.num>=(-999)))) 15 (fun Zc=>?_) (fun Zc=>?_))
  ·have Y6:x.num>=(-999):=(dq).1 Zc
   exact ZA 4 [0] (Yb (Zw 4 (Zl (decide (x.num<=999)) Zc fl)) hj1)
  have Yt:¬(x.num>=(-999)):=Y8 dq Zc
  exact Z0 4 (Yb (Zw 4 (Zl false Zc fl)) hj1)
 refine ar (YC (x.op==6) Zf (fun Zi=>?_) (fun Zi=>?_))
 ·refine aD 12 (BO [] [(6,.b ((decide (x.num>=0))&&(decide (x.num<((YF im.decls:Nat):Int)))))] (fun gz=>gz) ?_ ?_)
  ·refine ZU 8 12 [0,1,2,3] [0] (db (b:=(decide (x.num>=0))) 25 (fun ZF=>?_) (fun ZF=>?_))
   ·have YP:x.num>=0:=(dq).1 ZF
    exact ZU 4 8 [4,5,6,7] [0,1] (Z8 8 (YH 8 [] [0] [b2] (Oc im.decls) (Zs 0 3 [9,10,11] (de (Zw 4 (Zl (decide (x.num<((YF im.decls:Nat):Int))) ZF fl))))))
   have X2:¬(x.num>=0):=Y8 dq ZF
   exact Zs 0 8 [4,5,6,7,8,9,10,11] (de (Zw 4 (Zl false ZF fl)))
  exact ZT (r2 [2,2] [.b ((decide (x.num>=0))&&(decide (x.num<((YF im.decls:Nat):Int))))] ⟨rfl,rfl⟩ (lb (by unfold Wp;(repeat (first|rw [Zk om]|rw [Za om]));all_goals (first|rfl|(rw [Y9];simp;done)|(rw [Y9];simp;omega)))))
 refine Y0 (Xs (fun fz gz F h=>F=sF [2,3,4,9] fz [(33,.b ((x.op==9)||(x.op==24)))]/\h=gz) ?_ ?_)
 ·refine ac (x.op==9) Zf (fun ZB=>?_) (fun ZB=>?_)
  ·exact ak (ZD ⟨rfl,rfl⟩ (Zw 4 (fc (x:=.b (x.op==9)) (lb (by first|rfl|(rw [Zk ZB])|(rw [Za ZB])|(simp [ZB];done)|(rw [Y9];simp [ZB];done)|omega)) fl)))
  exact Vi (ZD ⟨rfl,rfl⟩ (Zw 4 (fc (x:=.b (x.op==24)) (lb (by first|rfl|(rw [Zk ZB])|(rw [Za ZB])|(simp [ZB];done)|(rw [Y9];simp [ZB];done)|omega)) fl)))
 rintro F h ⟨rfl,rfl⟩
 refine ac ((x.op==9)||(x.op==24)) (p:=(x.op=9)∨(x.op=24)) (ZY Zf Zf) (fun Ye=>?_) (fun Ye=>?_)
 ·refine ar (Xb 11 [] [(46,.b ((decide (x.num>=0))&&(decide (x.num<(((im.procs.map W0).length:Nat):Int)))))] (fun gz=>gz) ?_ (fun hj2=>?_))
  ·exact Zm (r2 [2,2] [.b ((decide (x.num>=0))&&(decide (x.num<(((im.procs.map W0).length:Nat):Int))))] ⟨rfl,rfl⟩ (lb (by unfold Wp;(repeat (first|rw [Zk om]|rw [Za om]));all_goals (first|rfl|(rw [Y9];simp;done)|(rw [Y9];simp;omega)))))
  refine ZA 4 [0] (ib (b:=(decide (x.num>=0))) 39 (fun Ym=>?_) (fun Ym=>?_))
  ·have Xg:x.num>=0:=(dq).1 Ym
   exact ZA 4 [0,1] (io (.i (((im.procs.map W0).length:Nat):Int)) (.i (((US (im.procs.map W0)).length:Nat):Int)) (li (by rw [DT])) (Z0 2 (Yb (Zw 4 (Zl (decide (x.num<(((im.procs.map W0).length:Nat):Int))) Ym fl)) hj2)))
  have XQ:¬(x.num>=0):=Y8 dq Ym
  exact Z0 7 (Yb (Zw 4 (Zl false Ym fl)) hj2)
 refine ar (YC (x.op==10) Zf (fun YA=>?_) (fun YA=>?_))
 ·refine ar (Xb 11 [3,4] [(59,.b ((decide (x.num>=0))&&(decide (x.num<(((im.procs.map W0).length:Nat):Int)))))] (fun gz=>gz) ?_ (fun hj3=>?_))
  ·refine Z0 1 (ib (b:=((decide (x.num>=0))&&(decide (x.num<(((im.procs.map W0).length:Nat):Int))))) 60 (fun X8=>?_) (fun X8=>?_))
   ·have Wf:(x.num>=0)/\(x.num<(((im.procs.map W0).length:Nat):Int)):=((YI dq dq)).1 X8
    refine ZA 4 [1,0] ?_
    obtain ⟨x1,Z4⟩:=Zv (im.procs.map W0) x.num.toNat om
    have hsg:=Lp Z4 om
    exact Zp (Zj none x.num 3 (CQ Z4)) (Z0 2 (iw (Yc x1.lnt) (Zm (r2 [2,2] [.b ((x1.lnt.length:Int)==0)] ⟨rfl,rfl⟩ (lb (by unfold Wp;(repeat (first|rw [Zk om]|rw [Za om]));rw [hsg.2,decide_eq_true (p:=0<=x.num/\x.num<im.procs.length) om,Y9];simp))))))
   have WY:¬((x.num>=0)/\(x.num<(((im.procs.map W0).length:Nat):Int))):=Y8 (YI dq dq) X8
   exact Zm (r2 [2,2] [.b false] ⟨rfl,rfl⟩ (lb (by unfold Wp;(repeat (first|rw [Zk om]|rw [Za om]));rw [decide_eq_false (p:=0<=x.num/\x.num<im.procs.length) om];rfl)))
  refine ZA 4 [0] (ib (b:=(decide (x.num>=0))) 52 (fun XY=>?_) (fun XY=>?_))
  ·have Vp:x.num>=0:=(dq).1 XY
   exact ZA 4 [0,1] (io (.i (((im.procs.map W0).length:Nat):Int)) (.i (((US (im.procs.map W0)).length:Nat):Int)) (li (by rw [DT])) (Z0 2 (Yb (Zw 4 (Zl (decide (x.num<(((im.procs.map W0).length:Nat):Int))) XY fl)) hj3)))
  have UY:¬(x.num>=0):=Y8 dq XY
  exact Z0 7 (Yb (Zw 4 (Zl false XY fl)) hj3)
 refine ar (YC (x.op==19) Zf (fun YW=>?_) (fun YW=>?_))
 ·refine ar (Xb 8 [] [(80,.b ((decide (x.num>=0))&&(decide (x.num<3))))] (fun gz=>gz) ?_ (fun hj4=>?_))
  ·exact Zm (r2 [2,2] [.b ((decide (x.num>=0))&&(decide (x.num<3)))] ⟨rfl,rfl⟩ (lb (by unfold Wp;(repeat (first|rw [Zk om]|rw [Za om]));all_goals (first|rfl|(rw [Y9];simp;done)|(rw [Y9];simp;omega)))))
  refine ZA 4 [0] (ib (b:=(decide (x.num>=0))) 76 (fun Wn=>?_) (fun Wn=>?_))
  ·have Tp:x.num>=0:=(dq).1 Wn
   exact ZA 4 [0] (Yb (Zw 4 (Zl (decide (x.num<3)) Wn fl)) hj4)
  have UZ:¬(x.num>=0):=Y8 dq Wn
  exact Z0 4 (Yb (Zw 4 (Zl false Wn fl)) hj4)
 refine Y0 (Xs (fun fz gz F h=>F=sF [2,3,4,9] fz [(81,.b ((x.op==20)||(x.op==22)))]/\h=gz) ?_ ?_)
 ·refine ac (x.op==20) Zf (fun Wo=>?_) (fun Wo=>?_)
  ·exact ak (ZD ⟨rfl,rfl⟩ (Zw 4 (fc (x:=.b (x.op==20)) (lb (by first|rfl|(rw [Zk Wo])|(rw [Za Wo])|(simp [Wo];done)|(rw [Y9];simp [Wo];done)|omega)) fl)))
  exact Vi (ZD ⟨rfl,rfl⟩ (Zw 4 (fc (x:=.b (x.op==22)) (lb (by first|rfl|(rw [Zk Wo])|(rw [Za Wo])|(simp [Wo];done)|(rw [Y9];simp [Wo];done)|omega)) fl)))
 rintro F h ⟨rfl,rfl⟩
 refine ac ((x.op==20)||(x.op==22)) (p:=(x.op=20)∨(x.op=22)) (ZY Zf Zf) (fun Vo=>?_) (fun Vo=>?_)
 ·exact Zq 3 [0] (Zu [2,2] (Od _ k x.num kb pb) (Zm (r2 [0,0] [.b (decide ((k:Int)<x.num/\x.num<p.code.length))] ⟨rfl,rfl⟩ (lb (by unfold Wp;(repeat (first|rw [Zk om]|rw [Za om]));all_goals (first|rfl|(rw [Y9];simp;done)|(rw [Y9];simp;omega)))))))
 refine ar (YC (x.op==21) Zf (fun WX=>?_) (fun WX=>?_))
 ·refine Zq 4 [1,0] (Zu [] (Z6y im.decls x.num) (Z2 (Yf 1 (io (.i (((ZQ im.decls x.num).length:Nat):Int)) (.i (((Z6 (ZQ im.decls x.num)).length:Nat):Int)) (li (by rw [Yc])) (Xb 11 [] [(105,.b ((decide ((((ZQ im.decls x.num).length:Nat):Int)>0))&&((x.jumps.length:Int)==(((ZQ im.decls x.num).length:Nat):Int))))] (fun gz=>gz) ?_ (fun hj5=>?_))))))
  ·exact Zm (r2 [2,2] [.b ((decide ((((ZQ im.decls x.num).length:Nat):Int)>0))&&((x.jumps.length:Int)==(((ZQ im.decls x.num).length:Nat):Int)))] ⟨rfl,rfl⟩ (lb (by unfold Wp;(repeat (first|rw [Zk om]|rw [Za om]));all_goals (first|rfl|(rw [Y9];simp;done)|(rw [Y9];simp;omega)))))
  refine Z0 2 (ib (b:=(decide ((((ZQ im.decls x.num).length:Nat):Int)>0))) 98 (fun WB=>?_) (fun WB=>?_))
  ·have QA:(((ZQ im.decls x.num).length:Nat):Int)>0:=(dq).1 WB
   exact ZA 2 [0] (iw (Yc x.jumps) (Z0 1 (io (.i (((ZQ im.decls x.num).length:Nat):Int)) (.i (((Z6 (ZQ im.decls x.num)).length:Nat):Int)) (li (by rw [Yc])) (Z0 2 (Yb (Zw 4 (Zl ((x.jumps.length:Int)==(((ZQ im.decls x.num).length:Nat):Int)) WB fl)) hj5)))))
  have TX:¬((((ZQ im.decls x.num).length:Nat):Int)>0):=Y8 dq WB
  exact Z0 7 (Yb (Zw 4 (Zl false WB fl)) hj5)
 exact ak (Qb [0] (ZT (r2 [2,2] [.b (x.num==0)] ⟨rfl,rfl⟩ (lb (by unfold Wp;(repeat (first|rw [Zk om]|rw [Za om]));all_goals (first|rfl|(rw [Y9];simp;done)|(rw [Y9];simp;omega)))))))
theorem Z6w (im:YN) (k:Int) (len:Int) (x:Instr) (hd:Xw im.decls:=by exact ob) (hpl:im.procs.length<=4:=by exact ob) (hps:∀p∈im.procs,p.params.length<=3) (hnv:Wp im k len x=true:=by exact ob):Zo 66 [.agg [Ya im.decls,Ka (im.procs.map W0)],Tx x] [] (Yy (.tup [.i (WR im x),.i (WZ im x)])):=by
 have hsl:=Rs im
 have hcf:=V5 hd x.num
 have hnn:=Z8u hnv
 have hn6:x.op=6->0<=x.num/\x.num<YF im.decls:=fun z=>by unfold Wp at hnv;rw [Za om,Zk z] at hnv;exact of_decide_eq_true hnv
 refine ZG 53 Tryz.func66 (ar (iA [Ya im.decls,Ka (im.procs.map W0)] fun b1=>iA (Vx x) fun b2=>?_))
 refine Z2 (Y7 (Xd (WT [0] (ab 0 (Y0 (Xs (fun fz gz F h=>F=sF [2,3,6,8] fz [(9,.b ((x.op==0)||(x.op==22)))]/\h=gz) ?_ ?_))))))
 ·refine ac (x.op==0) Zf (fun Z9=>?_) (fun Z9=>?_)
  ·exact ak (ZD ⟨rfl,rfl⟩ (wk [0,0] (fc (x:=.b (x.op==0)) (lb (by first|rfl|(rw [Zk Z9])|(rw [Za Z9])|(simp [Z9];done)|(rw [Y9];simp [Z9];done)|omega)) fl)))
  exact Vi (ZD ⟨rfl,rfl⟩ (wk [0,0] (fc (x:=.b (x.op==22)) (lb (by first|rfl|(rw [Zk Z9])|(rw [Za Z9])|(simp [Z9];done)|(rw [Y9];simp [Z9];done)|omega)) fl)))
 rintro F h ⟨rfl,rfl⟩
 refine ac ((x.op==0)||(x.op==22)) (p:=(x.op=0)∨(x.op=22)) (ZY Zf Zf) (fun Zi=>?_) (fun Zi=>?_)
 ·exact Vi (ar (Zm (r2 [] [.i 0,.i 0] ⟨rfl,rfl⟩ (Zd.tup (.cons (li (by (try unfold WR);(try unfold WZ);(try unfold WE);(repeat (first|rw [Zk om]|rw [Za om]));all_goals (first|rfl|omega|rw [hsg.1]))) (.cons (li (by (try unfold WR);(try unfold WZ);(try unfold WE);(repeat (first|rw [Zk om]|rw [Za om]));all_goals (first|rfl|omega|rw [hsg.1]))) .nil))))))
 refine Y0 (Xs (fun fz gz F h=>F=sF [2,3,6,8] fz [(12,.b ((x.op==1)||((x.op==2)||((x.op==3)||((x.op==4)||(x.op==11))))))]/\h=gz) ?_ ?_)
 ·refine ac (x.op==1) Zf (fun ZB=>?_) (fun ZB=>?_)
  ·exact ak (ZD ⟨rfl,rfl⟩ (wk [0,0] (fc (x:=.b (x.op==1)) (lb (by first|rfl|(rw [Zk ZB])|(rw [Za ZB])|(simp [ZB];done)|(rw [Y9];simp [ZB];done)|omega)) fl)))
  refine ar (YC (x.op==2) Zf (fun Ye=>?_) (fun Ye=>?_))
  ·exact ak (ZD ⟨rfl,rfl⟩ (wk [0,0] (fc (x:=.b (x.op==2)) (lb (by first|rfl|(rw [Zk ZB])|(rw [Za ZB])|(simp [ZB,Ye];done)|(rw [Y9];simp [ZB,Ye];done)|omega)) fl)))
  refine ar (YC (x.op==3) Zf (fun YA=>?_) (fun YA=>?_))
  ·exact ak (ZD ⟨rfl,rfl⟩ (wk [0,0] (fc (x:=.b (x.op==3)) (lb (by first|rfl|(rw [Zk ZB])|(rw [Za ZB])|(simp [ZB,Ye,YA];done)|(rw [Y9];simp [ZB,Ye,YA];done)|omega)) fl)))
  refine ar (YC (x.op==4) Zf (fun YW=>?_) (fun YW=>?_))
  ·exact ak (ZD ⟨rfl,rfl⟩ (wk [0,0] (fc (x:=.b (x.op==4)) (lb (by first|rfl|(rw [Zk ZB])|(rw [Za ZB])|(simp [ZB,Ye,YA,YW];done)|(rw [Y9];simp [ZB,Ye,YA,YW];done)|omega)) fl)))
  exact Vi (ZD ⟨rfl,rfl⟩ (wk [0,0] (fc (x:=.b (x.op==11)) (lb (by first|rfl|(rw [Zk ZB])|(rw [Za ZB])|(simp [ZB,Ye,YA,YW];done)|(rw [Y9];simp [ZB,Ye,YA,YW];done)|omega)) fl)))
 rintro F h ⟨rfl,rfl⟩
 refine ac ((x.op==1)||((x.op==2)||((x.op==3)||((x.op==4)||(x.op==11))))) (p:=(x.op=1)∨((x.op=2)∨((x.op=3)∨((x.op=4)∨(x.op=11))))) (ZY Zf (ZY Zf (ZY Zf (ZY Zf Zf)))) (fun Wo=>?_) (fun Wo=>?_)
 ·exact Vi (ar (Zm (r2 [] [.i 2,.i 2] ⟨rfl,rfl⟩ (Zd.tup (.cons (li (by (try unfold WR);(try unfold WZ);(try unfold WE);(repeat (first|rw [Zk om]|rw [Za om]));all_goals (first|rfl|omega|rw [hsg.1]))) (.cons (li (by (try unfold WR);(try unfold WZ);(try unfold WE);(repeat (first|rw [Zk om]|rw [Za om]));all_goals (first|rfl|omega|rw [hsg.1]))) .nil))))))
 refine ar (YC (x.op==6) Zf (fun Vo=>?_) (fun Vo=>?_))
 ·exact az (ZA 4 [1,0] (Zu [] (Z70 im.decls x.num (hc:=(by have:=hn6 om;have:=hd.sum;omega))) (io (.i (((ZK im.decls x.num).length:Nat):Int)) (.i (((Z6 (ZK im.decls x.num)).length:Nat):Int)) (li (by rw [Yc])) (Z2 (ar (Zm (r2 [] [.i (((ZK im.decls x.num).length:Nat):Int),.i (((ZK im.decls x.num).length:Nat):Int)] ⟨rfl,rfl⟩ (Zd.tup (.cons (li (by (try unfold WR);(try unfold WZ);(try unfold WE);(repeat (first|rw [Zk om]|rw [Za om]));all_goals (first|rfl|omega|rw [hsg.1]))) (.cons (li (by (try unfold WR);(try unfold WZ);(try unfold WE);(repeat (first|rw [Zk om]|rw [Za om]));all_goals (first|rfl|omega|rw [hsg.1]))) .nil))))))))))
 refine Y0 (Xs (fun fz gz F h=>F=sF [2,3,6,8] fz [(26,.b ((x.op==9)||(x.op==24)))]/\h=gz) ?_ ?_)
 ·refine ac (x.op==9) Zf (fun WX=>?_) (fun WX=>?_)
  ·exact ak (ZD ⟨rfl,rfl⟩ (wk [0,0] (fc (x:=.b (x.op==9)) (lb (by first|rfl|(rw [Zk WX])|(rw [Za WX])|(simp [WX];done)|(rw [Y9];simp [WX];done)|omega)) fl)))
  exact Vi (ZD ⟨rfl,rfl⟩ (wk [0,0] (fc (x:=.b (x.op==24)) (lb (by first|rfl|(rw [Zk WX])|(rw [Za WX])|(simp [WX];done)|(rw [Y9];simp [WX];done)|omega)) fl)))
 rintro F h ⟨rfl,rfl⟩
 refine ac ((x.op==9)||(x.op==24)) (p:=(x.op=9)∨(x.op=24)) (ZY Zf Zf) (fun V8=>?_) (fun V8=>?_)
 ·refine az (ZA 4 [1,0] ?_)
  obtain ⟨x1,Z4⟩:=Zv (im.procs.map W0) x.num.toNat (by have:=hnn om;omega)
  have hsg:=Lp Z4 (by have:=hnn om;omega)
  have hpm:(x1).pms.length<=3:=by obtain ⟨q,hq,hq2⟩:=XF.1 (Y2 Z4);rw [<-hq2];exact hps q hq
  exact Zp (Dv (es:=US (im.procs.map W0)) (hv:=none) (j:=x.num) (sz:=3) (y:=EU x1) kr (by have:=hnn om;omega) (CQ Z4) rfl) (Z0 2 (iw (Yc x1.pms) (Z2 (ar (Zm (r2 [] [.i x1.pms.length,.i x1.pms.length] ⟨rfl,rfl⟩ (Zd.tup (.cons (li (by (try unfold WR);(try unfold WZ);(try unfold WE);(repeat (first|rw [Zk om]|rw [Za om]));all_goals (first|rfl|omega|rw [hsg.1]))) (.cons (li (by (try unfold WR);(try unfold WZ);(try unfold WE);(repeat (first|rw [Zk om]|rw [Za om]));all_goals (first|rfl|omega|rw [hsg.1]))) .nil)))))))))
 refine ar (YC (x.op==10) Zf (fun Tc=>?_) (fun Tc=>?_))
 ·refine az (ZA 4 [1,0] ?_)
  obtain ⟨x2,Zx⟩:=Zv (im.procs.map W0) x.num.toNat (by have:=hnn om;omega)
  have hsg:=Lp Zx (by have:=hnn om;omega)
  have hpm:(x2).pms.length<=3:=by obtain ⟨q,hq,hq2⟩:=XF.1 (Y2 Zx);rw [<-hq2];exact hps q hq
  exact Zp (Dv (es:=US (im.procs.map W0)) (hv:=none) (j:=x.num) (sz:=3) (y:=EU x2) kr (by have:=hnn om;omega) (CQ Zx) rfl) (Z0 2 (iw (Yc x2.pms) (ia (((x2.pms.length:Int)-1)) (((x2.pms.length:Int))-(1)) (Z2 (ar (Zm (r2 [] [.i ((x2.pms.length:Int)-1),.i ((x2.pms.length:Int)-1)] ⟨rfl,rfl⟩ (Zd.tup (.cons (li (by (try unfold WR);(try unfold WZ);(try unfold WE);(repeat (first|rw [Zk om]|rw [Za om]));all_goals (first|rfl|omega|rw [hsg.1]))) (.cons (li (by (try unfold WR);(try unfold WZ);(try unfold WE);(repeat (first|rw [Zk om]|rw [Za om]));all_goals (first|rfl|omega|rw [hsg.1]))) .nil))))))))))
 refine Y0 (Xs (fun fz gz F h=>F=sF [6] fz [(48,.b ((x.op==16)||(x.op==17)))]/\h=gz) ?_ ?_)
 ·refine ac (x.op==16) Zf (fun V9=>?_) (fun V9=>?_)
  ·exact ak (ZD ⟨rfl,rfl⟩ (wk [0,0] (fc (x:=.b (x.op==16)) (lb (by first|rfl|(rw [Zk V9])|(rw [Za V9])|(simp [V9];done)|(rw [Y9];simp [V9];done)|omega)) fl)))
  exact Vi (ZD ⟨rfl,rfl⟩ (wk [0,0] (fc (x:=.b (x.op==17)) (lb (by first|rfl|(rw [Zk V9])|(rw [Za V9])|(simp [V9];done)|(rw [Y9];simp [V9];done)|omega)) fl)))
 rintro F h ⟨rfl,rfl⟩
 refine ac ((x.op==16)||(x.op==17)) (p:=(x.op=16)∨(x.op=17)) (ZY Zf Zf) (fun TD=>?_) (fun TD=>?_)
 ·exact ar (Zm (r2 [] [.i 1,.i 4] ⟨rfl,rfl⟩ (Zd.tup (.cons (li (by (try unfold WR);(try unfold WZ);(try unfold WE);(repeat (first|rw [Zk om]|rw [Za om]));all_goals (first|rfl|omega|rw [hsg.1]))) (.cons (li (by (try unfold WR);(try unfold WZ);(try unfold WE);(repeat (first|rw [Zk om]|rw [Za om]));all_goals (first|rfl|omega|rw [hsg.1]))) .nil)))))
 exact ak (ar (Zm (r2 [] [.i 1,.i 1] ⟨rfl,rfl⟩ (Zd.tup (.cons (li (by (try unfold WR);(try unfold WZ);(try unfold WE);(repeat (first|rw [Zk om]|rw [Za om]));all_goals (first|rfl|omega|rw [hsg.1]))) (.cons (li (by (try unfold WR);(try unfold WZ);(try unfold WE);(repeat (first|rw [Zk om]|rw [Za om]));all_goals (first|rfl|omega|rw [hsg.1]))) .nil))))))
theorem Z73 (im:YN) (p:ZX) (k:Nat) (x:Instr) (hd:Xw im.decls:=by exact ob) (hpl:im.procs.length<=4:=by exact ob) (hps:∀p∈im.procs,p.params.length<=3) (hcl:p.code.length<=200000000:=by exact ob) (hxl:x.args.length<=1000/\x.jumps.length<=1000:=by exact ob) (hkl:k<p.code.length:=by exact ob):Zo 34 [.agg [Ya im.decls,Ka (im.procs.map W0)],BG p,.i k,Tx x] [] (Yy (.b (Vq im p k x))):=by
 refine ZG 140 Tryz.func34 (ar (iA [Ya im.decls,Ka (im.procs.map W0)] fun b1=>iA (UG p) fun b2=>iA [.i k] fun b3=>iA (Vx x) fun b4=>Z2 (Xd (Xb 8 [4,5,6,7] [(21,.b ((decide (x.op<0))||(decide (x.op>24))))] (fun gz=>gz) ?_ (fun hj1=>?_)))))
 ·refine Xb 13 [4,5,6,7] [(26,.b (((decide (x.op<0))||(decide (x.op>24)))||(x.op==7)))] (fun gz=>gz) ?_ (fun hj2=>?_)
  ·refine Xb 18 [4,5,6,7] [(31,.b ((((decide (x.op<0))||(decide (x.op>24)))||(x.op==7))||(x.op==8)))] (fun gz=>gz) ?_ (fun hj3=>?_)
   ·refine Xb 23 [4,5,6,7] [(36,.b (((((decide (x.op<0))||(decide (x.op>24)))||(x.op==7))||(x.op==8))||(x.op==12)))] (fun gz=>gz) ?_ (fun hj4=>?_)
    ·refine Xp [4,5,6,7] [(41,.b ((((((decide (x.op<0))||(decide (x.op>24)))||(x.op==7))||(x.op==8))||(x.op==12))||(x.op==13)))] (fun gz=>gz) ?_ ?_
     ·refine Z0 1 (ib (b:=(((((decide (x.op<0))||(decide (x.op>24)))||(x.op==7))||(x.op==8))||(x.op==12))) 37 (fun Zc=>?_) (fun Zc=>?_))
      ·have Y6:((((x.op<0)∨(x.op>24))∨(x.op=7))∨(x.op=8))∨(x.op=12):=((ZY (ZY (ZY (ZY dq dq) Zf) Zf) Zf)).1 Zc
       exact Z2 (Zw 4 (Zl true Zc fl))
      have Yt:¬(((((x.op<0)∨(x.op>24))∨(x.op=7))∨(x.op=8))∨(x.op=12)):=Y8 (ZY (ZY (ZY (ZY dq dq) Zf) Zf) Zf) Zc
      exact WT [0] (Zw 4 (Zl (x.op==13) Zc fl))
     refine ac ((((((decide (x.op<0))||(decide (x.op>24)))||(x.op==7))||(x.op==8))||(x.op==12))||(x.op==13)) (p:=(((((x.op<0)∨(x.op>24))∨(x.op=7))∨(x.op=8))∨(x.op=12))∨(x.op=13)) (ZY (ZY (ZY (ZY (ZY dq dq) Zf) Zf) Zf) Zf) (fun Z9=>?_) (fun Z9=>?_)
     ·exact ar (Zm (ZW (.b false) (lb (Ea (fun z=>z.1 (by unfold QW;omega))).symm)))
     have hb:¬QW x:=fun z=>Z9 (by unfold QW at z;omega)
     refine ak (Xd (Xb 10 [4,5,6,7] [(51,.b ((decide (x.dst<0))||(decide (x.dst>=p.regs))))] (fun gz=>gz) ?_ (fun hj5=>?_)))
     ·refine Xb 21 [4,5,6,7] [(62,.b (((decide (x.dst<0))||(decide (x.dst>=p.regs)))||((x.dst != 0)&&(!(decide (((0<=x.op/\x.op<=11)∨x.op=18)∨x.op=19))))))] (fun gz=>gz) ?_ (fun hj6=>?_)
      ·refine Xb 26 [4,5,6,7] [(67,.b ((((decide (x.dst<0))||(decide (x.dst>=p.regs)))||((x.dst != 0)&&(!(decide (((0<=x.op/\x.op<=11)∨x.op=18)∨x.op=19)))))||(decide (x.into<0))))] (fun gz=>gz) ?_ (fun hj7=>?_)
       ·refine Xb 33 [4,5,6,7] [(74,.b (((((decide (x.dst<0))||(decide (x.dst>=p.regs)))||((x.dst != 0)&&(!(decide (((0<=x.op/\x.op<=11)∨x.op=18)∨x.op=19)))))||(decide (x.into<0)))||(decide (x.into>p.regs))))] (fun gz=>gz) ?_ (fun hj8=>?_)
        ·refine Xp [4,5,6,7] [(84,.b ((((((decide (x.dst<0))||(decide (x.dst>=p.regs)))||((x.dst != 0)&&(!(decide (((0<=x.op/\x.op<=11)∨x.op=18)∨x.op=19)))))||(decide (x.into<0)))||(decide (x.into>p.regs)))||((x.into != 0)&&(x.op != 6))))] (fun gz=>gz) ?_ ?_
         ·refine Z0 1 (ib (b:=(((((decide (x.dst<0))||(decide (x.dst>=p.regs)))||((x.dst != 0)&&(!(decide (((0<=x.op/\x.op<=11)∨x.op=18)∨x.op=19)))))||(decide (x.into<0)))||(decide (x.into>p.regs)))) 75 (fun ZF=>?_) (fun ZF=>?_))
          ·have YP:((((x.dst<0)∨(x.dst>=p.regs))∨((x.dst≠0)/\(¬(((0<=x.op/\x.op<=11)∨x.op=18)∨x.op=19))))∨(x.into<0))∨(x.into>p.regs):=((ZY (ZY (ZY (ZY dq dq) (YI Yv (Ys dq))) dq) dq)).1 ZF
           exact Z2 (Zw 4 (Zl true ZF fl))
          have X2:¬(((((x.dst<0)∨(x.dst>=p.regs))∨((x.dst≠0)/\(¬(((0<=x.op/\x.op<=11)∨x.op=18)∨x.op=19))))∨(x.into<0))∨(x.into>p.regs)):=Y8 (ZY (ZY (ZY (ZY dq dq) (YI Yv (Ys dq))) dq) dq) ZF
          refine ZA 4 [0] (ib (b:=(x.into != 0)) 79 (fun Ym=>?_) (fun Ym=>?_))
          ·have Xg:x.into≠0:=(Yv).1 Ym
           exact WT [0] (Zw 4 (Zl (x.op != 6) (And.intro ZF Ym) fl))
          have XQ:¬(x.into≠0):=Y8 Yv Ym
          exact Z2 (Zw 4 (Zl false (And.intro ZF Ym) fl))
         refine ac ((((((decide (x.dst<0))||(decide (x.dst>=p.regs)))||((x.dst != 0)&&(!(decide (((0<=x.op/\x.op<=11)∨x.op=18)∨x.op=19)))))||(decide (x.into<0)))||(decide (x.into>p.regs)))||((x.into != 0)&&(x.op != 6))) (p:=(((((x.dst<0)∨(x.dst>=p.regs))∨((x.dst≠0)/\(¬(((0<=x.op/\x.op<=11)∨x.op=18)∨x.op=19))))∨(x.into<0))∨(x.into>p.regs))∨((x.into≠0)/\(x.op≠6))) (ZY (ZY (ZY (ZY (ZY dq dq) (YI Yv (Ys dq))) dq) dq) (YI Yv Yv)) (fun Zi=>?_) (fun Zi=>?_)
         ·exact ar (Zm (ZW (.b false) (lb (Ea (fun z=>by have h:=z.2.1;unfold AZ at h;omega)).symm)))
         have hds:AZ p x:=by unfold AZ;omega
         refine ak (Yr 2 [0] (iw (Yc x.args) (Z2 (ab 0 (Y3 (fun fz gz m F h=>∃(j:Nat),(j<=x.args.length)/\(T1 p.regs (x.args.drop j)=T1 p.regs x.args)/\F=sF [4,5,6,7,86,87] fz [(88,.i j)]/\h=gz/\m=x.args.length-j) _ _ _ ⟨0,ob,rfl,rfl,rfl,rfl⟩ (Zw 4 (Yd fl)) ?_)))))
         rintro m F h ⟨j,Yk,Zh,rfl,rfl,rfl⟩
         refine Y7 (aq (VI ((j:Int)<(x.args.length:Int)) (fun ZB=>?_) (fun ZB=>?_)))
         ·refine ak (aq (ab 1 (ar ?_)))
          obtain ⟨x1,Z4⟩:=Zv x.args j om
          refine Zp (Zj none (j:Int) 1 (Y5 Z4)) (Z2 (ar (Xp [4,5,6,7,86,87,88] [(99,.b ((decide (x1<0))||(decide (x1>=p.regs))))] (fun gz=>gz) ?_ ?_)))
          ·refine Z0 3 (ib (b:=(decide (x1<0))) 94 (fun X8=>?_) (fun X8=>?_))
           ·have Wf:x1<0:=(dq).1 X8
            exact Z2 (Zw 4 (Zl true X8 fl))
           have WY:¬(x1<0):=Y8 dq X8
           exact WT [2] (Zw 4 (Zl (decide (x1>=p.regs)) X8 fl))
          refine ac ((decide (x1<0))||(decide (x1>=p.regs))) (p:=(x1<0)∨(x1>=p.regs)) (ZY dq dq) (fun Ye=>?_) (fun Ye=>?_)
          ·exact ar (Zm (ZW (.b false) (lb (Ea (fun z=>by have h:=z.2.2.1;rw [<-PK Z4 om Zh] at h;cases h)).symm)))
          exact ak (az (ZE j (Z2 (ZJ ⟨j+1,ob,(PM Z4 om Zh),rfl,rfl,rfl⟩ (Zw 4 (ZO j fl))))))
         have hR:=(PL om Zh).symm
         refine ax 0 (Yf 1 (iA [.val .nilFunc] fun b5=>Zz 0 b5 [.val (.func (.func 62) #[] #[.pointer (some ⟨b3,0,none⟩),.pointer (some ⟨b2,0,none⟩)])] (ie (Yr 2 [1] (iw (Yc x.jumps) (Xb 9 [4,7,11] [(110,.b ((decide ((x.jumps.length:Int)>0))&&(x.op != 21)))] (fun gz=>gz) ?_ (fun hj9=>?_)))))))
         ·refine Xp [4,7,11] [(116,.b (((decide ((x.jumps.length:Int)>0))&&(x.op != 21))||(!W9 k p.code.length x.jumps)))] (fun gz=>gz) ?_ ?_
          ·refine Z0 1 (ib (b:=((decide ((x.jumps.length:Int)>0))&&(x.op != 21))) 111 (fun XY=>?_) (fun XY=>?_))
           ·have Vp:((x.jumps.length:Int)>0)/\(x.op≠21):=((YI dq Yv)).1 XY
            exact Z2 (Zw 5 (Zl true XY fl))
           have UY:¬(((x.jumps.length:Int)>0)/\(x.op≠21)):=Y8 (YI dq Yv) XY
           exact ZA 3 [1] (Zu [0,1,1] (Z6z _ k x.jumps b3 b2 b5) (Z2 (wk [0,2,0,0,0] (Zl (!W9 k p.code.length x.jumps) XY fl))))
          refine ac (((decide ((x.jumps.length:Int)>0))&&(x.op != 21))||(!W9 k p.code.length x.jumps)) (p:=(((x.jumps.length:Int)>0)/\(x.op≠21))∨(¬(W9 k p.code.length x.jumps=true))) (ZY (YI dq Yv) (Ys Iff.rfl)) (fun YA=>?_) (fun YA=>?_)
          ·exact ar (Zm (ZW (.b false) (lb (Ea (fun z=>by have h:=z.2.2.2.1;rcases YA with q|q<;>first|omega|exact q h.2)).symm)))
          have hJ2:W9 k p.code.length x.jumps=true:=Bv fun z=>YA (.inr z)
          have hJ1:x.jumps.length=0∨x.op=21:=Bv fun z=>YA (.inl ⟨by omega,by omega⟩)
          refine ak (Yr 3 [4,1,0] (Zu [2,2] (Z75 _ _ k x b3 b2 (hps:=hps)) (YC (!(Wp im k p.code.length x)) (p:=¬((Wp im k p.code.length x)=true)) (Ys Iff.rfl) (fun YW=>?_) (fun YW=>?_))))
          ·exact ar (Zm (ZW (.b false) (lb (Ea (fun z=>YW z.2.2.2.2.1)).symm)))
          have hnv:=T5.1 YW
          refine ak (Zq 2 [4,3] (Zu [] (Z6w _ (k:Int) (p.code.length:Int) x (hps:=hps)) (Z2 (Zq 2 [3] (iw (Yc x.args) (Xb 12 [] [(139,.b ((decide ((x.args.length:Int)>=(WR im x)))&&(decide ((x.args.length:Int)<=(WZ im x)))))] (fun gz=>gz) ?_ (fun hj10=>?_)))))))
          ·exact Zm (ZW (.b ((decide ((x.args.length:Int)>=(WR im x)))&&(decide ((x.args.length:Int)<=(WZ im x))))) (lb (by rw [Y9,On,Xo,decide_eq_true_eq,decide_eq_true_eq];exact ⟨fun z=>⟨hb,hds,hR,⟨hJ1,hJ2⟩,hnv,z.1,z.2⟩,fun z=>z.2.2.2.2.2⟩)))
          refine Z0 3 (ib (b:=(decide ((x.args.length:Int)>=(WR im x)))) 133 (fun Wn=>?_) (fun Wn=>?_))
          ·have Tp:(x.args.length:Int)>=(WR im x):=(dq).1 Wn
           exact ZA 2 [3] (iw (Yc x.args) (Z0 3 (Yb (Zw 5 (Zl (decide ((x.args.length:Int)<=(WZ im x))) Wn fl)) hj10)))
          have UZ:¬((x.args.length:Int)>=(WR im x)):=Y8 dq Wn
          exact Z0 6 (Yb (Zw 5 (Zl false Wn fl)) hj10)
         refine Z0 2 (ib (b:=(decide ((x.jumps.length:Int)>0))) 106 (fun WB=>?_) (fun WB=>?_))
         ·have QA:(x.jumps.length:Int)>0:=(dq).1 WB
          exact ZA 4 [1] (Yb (Zw 5 (Zl (x.op != 21) WB fl)) hj9)
         have TX:¬((x.jumps.length:Int)>0):=Y8 dq WB
         exact Z0 4 (Yb (Zw 5 (Zl false WB fl)) hj9)
        refine Z0 1 (ib (b:=((((decide (x.dst<0))||(decide (x.dst>=p.regs)))||((x.dst != 0)&&(!(decide (((0<=x.op/\x.op<=11)∨x.op=18)∨x.op=19)))))||(decide (x.into<0)))) 68 (fun V7=>?_) (fun V7=>?_))
        ·have J9:(((x.dst<0)∨(x.dst>=p.regs))∨((x.dst≠0)/\(¬(((0<=x.op/\x.op<=11)∨x.op=18)∨x.op=19))))∨(x.into<0):=((ZY (ZY (ZY dq dq) (YI Yv (Ys dq))) dq)).1 V7
         exact Z0 6 (Yb (Zw 4 (Zl true V7 fl)) hj8)
        have Ja:¬((((x.dst<0)∨(x.dst>=p.regs))∨((x.dst≠0)/\(¬(((0<=x.op/\x.op<=11)∨x.op=18)∨x.op=19))))∨(x.into<0)):=Y8 (ZY (ZY (ZY dq dq) (YI Yv (Ys dq))) dq) V7
        exact ZA 6 [0,2] (Yb (Zw 4 (Zl (decide (x.into>p.regs)) V7 fl)) hj8)
       refine Z0 1 (ib (b:=(((decide (x.dst<0))||(decide (x.dst>=p.regs)))||((x.dst != 0)&&(!(decide (((0<=x.op/\x.op<=11)∨x.op=18)∨x.op=19)))))) 63 (fun WW=>?_) (fun WW=>?_))
       ·have C7:((x.dst<0)∨(x.dst>=p.regs))∨((x.dst≠0)/\(¬(((0<=x.op/\x.op<=11)∨x.op=18)∨x.op=19))):=((ZY (ZY dq dq) (YI Yv (Ys dq)))).1 WW
        exact Z0 4 (Yb (Zw 4 (Zl true WW fl)) hj7)
       have Au:¬(((x.dst<0)∨(x.dst>=p.regs))∨((x.dst≠0)/\(¬(((0<=x.op/\x.op<=11)∨x.op=18)∨x.op=19)))):=Y8 (ZY (ZY dq dq) (YI Yv (Ys dq))) WW
       exact ZA 4 [0] (Yb (Zw 4 (Zl (decide (x.into<0)) WW fl)) hj7)
      refine Z0 1 (ib (b:=((decide (x.dst<0))||(decide (x.dst>=p.regs)))) 52 (fun Us=>?_) (fun Us=>?_))
      ·have Im:(x.dst<0)∨(x.dst>=p.regs):=((ZY dq dq)).1 Us
       exact Z0 10 (Yb (Zw 4 (Zl true Us fl)) hj6)
      have In:¬((x.dst<0)∨(x.dst>=p.regs)):=Y8 (ZY dq dq) Us
      refine ZA 4 [0] (ib (b:=(x.dst != 0)) 56 (fun Qc=>?_) (fun Qc=>?_))
      ·have FD:x.dst≠0:=(Yv).1 Qc
       exact ZA 2 [0] (Zu [] (Z76 x.op) (Z0 3 (Yb (Zw 4 (Zl (!(decide (((0<=x.op/\x.op<=11)∨x.op=18)∨x.op=19))) (And.intro Us Qc) fl)) hj6)))
      have NZ:¬(x.dst≠0):=Y8 Yv Qc
      exact Z0 6 (Yb (Zw 4 (Zl false (And.intro Us Qc) fl)) hj6)
     refine ZA 4 [0] (ib (b:=(decide (x.dst<0))) 45 (fun Qd=>?_) (fun Qd=>?_))
     ·have O0:x.dst<0:=(dq).1 Qd
      exact Z0 6 (Yb (Zw 4 (Zl true Qd fl)) hj5)
     have O1:¬(x.dst<0):=Y8 dq Qd
     exact ZA 6 [0,2] (Yb (Zw 4 (Zl (decide (x.dst>=p.regs)) Qd fl)) hj5)
    refine Z0 1 (ib (b:=((((decide (x.op<0))||(decide (x.op>24)))||(x.op==7))||(x.op==8))) 32 (fun J4=>?_) (fun J4=>?_))
    ·have O2:(((x.op<0)∨(x.op>24))∨(x.op=7))∨(x.op=8):=((ZY (ZY (ZY dq dq) Zf) Zf)).1 J4
     exact Z0 4 (Yb (Zw 4 (Zl true J4 fl)) hj4)
    have O3:¬((((x.op<0)∨(x.op>24))∨(x.op=7))∨(x.op=8)):=Y8 (ZY (ZY (ZY dq dq) Zf) Zf) J4
    exact ZA 4 [0] (Yb (Zw 4 (Zl (x.op==12) J4 fl)) hj4)
   refine Z0 1 (ib (b:=(((decide (x.op<0))||(decide (x.op>24)))||(x.op==7))) 27 (fun J5=>?_) (fun J5=>?_))
   ·have O4:((x.op<0)∨(x.op>24))∨(x.op=7):=((ZY (ZY dq dq) Zf)).1 J5
    exact Z0 4 (Yb (Zw 4 (Zl true J5 fl)) hj3)
   have O5:¬(((x.op<0)∨(x.op>24))∨(x.op=7)):=Y8 (ZY (ZY dq dq) Zf) J5
   exact ZA 4 [0] (Yb (Zw 4 (Zl (x.op==8) J5 fl)) hj3)
  refine Z0 1 (ib (b:=((decide (x.op<0))||(decide (x.op>24)))) 22 (fun Kx=>?_) (fun Kx=>?_))
  ·have O6:(x.op<0)∨(x.op>24):=((ZY dq dq)).1 Kx
   exact Z0 4 (Yb (Zw 4 (Zl true Kx fl)) hj2)
  have FE:¬((x.op<0)∨(x.op>24)):=Y8 (ZY dq dq) Kx
  exact ZA 4 [0] (Yb (Zw 4 (Zl (x.op==7) Kx fl)) hj2)
 refine ZA 4 [0] (ib (b:=(decide (x.op<0))) 17 (fun J6=>?_) (fun J6=>?_))
 ·have FF:x.op<0:=(dq).1 J6
  exact Z0 4 (Yb (Zw 4 (Zl true J6 fl)) hj1)
 have Io:¬(x.op<0):=Y8 dq J6
 exact ZA 4 [0] (Yb (Zw 4 (Zl (decide (x.op>24)) J6 fl)) hj1)
theorem Is (im:YN) (lz:Nat) (hz:IZ im lz:=by exact ob) (hlz:lz<=100:=by exact ob):Zo 12 [VX im] [] (Yy (.b (Xq im))):=by
 have hil:=hz.len
 refine ZG 79 Tryz.func12 (ar (iA (U3 im) fun b1=>Z2 (Zq 1 [0] (ic [] (Z71 im lz (hz:=hz)) ?_))))
 rintro _ _ (⟨rfl,rfl,Y6⟩|⟨rfl,rfl,Yt⟩)
 ·have hL:=Y6
  refine Z0 3 (iA [nl,nl] fun b2=>Zz 0 b2 [Ya im.decls,Ka (im.procs.map W0)] (Z2 (Xd (YC (!(TO im.decls (im.procs.map W0))) (p:=¬((TO im.decls (im.procs.map W0))=true)) (Ys Iff.rfl) (fun Z9=>?_) (fun Z9=>?_)))))
  ·exact ar (Zm (ZW (.b false) (lb (by rw [D4,Bp,show TO im.decls (im.procs.map W0)=false from Q5.2 Z9];simp))))
  have hV:=T5.1 Z9
  have hS:Bp im=true:=by rw [Bp,decide_eq_true hL,hV];rfl
  obtain ⟨Xl,hlp,_,hps⟩:=Zb9 hS
  refine ak (Yr 2 [1] (iw (J1 im.procs) (Z2 (ab 0 (Y3 (fun fz gz m F h=>∃(k:Nat),(k<=im.procs.length)/\(Tf im (im.procs.drop k)=Tf im im.procs)/\F=sF [3,18,19] fz [(20,.i k)]/\h=[Zg gz 0]/\m=im.procs.length-k) _ _ _ ⟨0,ob,rfl,rfl,rfl,rfl⟩ (wk [0] (Yd fl)) ?_)))))
  rintro m F h ⟨k,Yk,Zh,rfl,rfl,rfl⟩
  refine Y7 (aq (VI ((k:Int)<(im.procs.length:Int)) (fun Zi=>?_) (fun Zi=>?_)))
  ·refine ak (aq (ab 1 (ar ?_)))
   obtain ⟨x1,Z4⟩:=Zv im.procs k om
   have hpz:=hz.procs _ (Y2 Z4)
   have hpl:=hpz.len
   refine Zp (Zj none (k:Int) 5 (J0 Z4)) (Z0 1 (iA [nl,nl,.i 0,.i 0,nl] fun b3=>Zz 0 b3 (UG x1) (ie (Yr 4 [0,0] (iw (Yc x1.params) (Zp (FL 1 (x1.params.length:Int)) (Xb 12 [3,6,18,19,20] [(35,.b ((decide (x1.regs<(max 1 (x1.params.length:Int))))||(decide (x1.regs>2000))))] (fun gz=>gz) ?_ (fun hj1=>?_))))))))
   ·refine Xb 18 [3,6,18,19,20] [(41,.b (((decide (x1.regs<(max 1 (x1.params.length:Int))))||(decide (x1.regs>2000)))||(decide ((x1.code.length:Int)<1))))] (fun gz=>gz) ?_ (fun hj2=>?_)
    ·refine Xp [3,6,18,19,20] [(47,.b ((((decide (x1.regs<(max 1 (x1.params.length:Int))))||(decide (x1.regs>2000)))||(decide ((x1.code.length:Int)<1)))||(decide ((x1.code.length:Int)>2000))))] (fun gz=>gz) ?_ ?_
     ·refine Z0 1 (ib (b:=(((decide (x1.regs<(max 1 (x1.params.length:Int))))||(decide (x1.regs>2000)))||(decide ((x1.code.length:Int)<1)))) 42 (fun Zc=>?_) (fun Zc=>?_))
      ·have YP:((x1.regs<(max 1 (x1.params.length:Int)))∨(x1.regs>2000))∨((x1.code.length:Int)<1):=((ZY (ZY dq dq) dq)).1 Zc
       exact Z2 (wk [0,0] (Zl true Zc fl))
      have X2:¬(((x1.regs<(max 1 (x1.params.length:Int)))∨(x1.regs>2000))∨((x1.code.length:Int)<1)):=Y8 (ZY (ZY dq dq) dq) Zc
      exact ZA 2 [0] (iw (Q9 x1.code) (Z2 (wk [0,0] (Zl (decide ((x1.code.length:Int)>2000)) Zc fl))))
     refine ac ((((decide (x1.regs<(max 1 (x1.params.length:Int))))||(decide (x1.regs>2000)))||(decide ((x1.code.length:Int)<1)))||(decide ((x1.code.length:Int)>2000))) (p:=(((x1.regs<(max 1 (x1.params.length:Int)))∨(x1.regs>2000))∨((x1.code.length:Int)<1))∨((x1.code.length:Int)>2000)) (ZY (ZY (ZY dq dq) dq) dq) (fun ZB=>?_) (fun ZB=>?_)
     ·exact ar (Zm (ZW (.b false) (lb (by rw [D4,hS,Bool.true_and];exact Gf Z4 (by rw [Tt,decide_eq_false (p:=(1<=x1.regs/\(x1.params.length:Int)<=x1.regs/\x1.regs<=2000)/\1<=x1.code.length/\x1.code.length<=2000) om];simp) Zh))))
     refine ak (Yr 4 [0,0] (iw (Q9 x1.code) (ia ((((x1.code.length-1):Nat):Int)) (((x1.code.length:Int))-(1)) ?_)))
     obtain ⟨x2,Zx⟩:=Zv x1.code (x1.code.length-1) om
     refine Zp (Zj none (((x1.code.length-1):Nat):Int) 6 (Q8 Zx)) (Z2 (ar (Xp [3,6,18,19,20] [(62,.b ((x2.op != 23)&&(x2.op != 24)))] (fun gz=>gz) ?_ ?_)))
     ·refine Z0 3 (ib (b:=(x2.op != 23)) 59 (fun ZF=>?_) (fun ZF=>?_))
      ·have Xg:x2.op≠23:=(Yv).1 ZF
       exact Z2 (wk [0,0] (Zl (x2.op != 24) ZF fl))
      have XQ:¬(x2.op≠23):=Y8 Yv ZF
      exact Z2 (wk [0,0] (Zl false ZF fl))
     refine ac ((x2.op != 23)&&(x2.op != 24)) (p:=(x2.op≠23)/\(x2.op≠24)) (YI Yv Yv) (fun Ye=>?_) (fun Ye=>?_)
     ·exact ar (Zm (ZW (.b false) (lb (by rw [D4,hS,Bool.true_and];exact Gf Z4 (by rw [Tt,IH Zx,decide_eq_false (p:=x2.op=23∨x2.op=24) om];simp) Zh))))
     refine ak (Zq 2 [0] (iw (Q9 x1.code) (Z2 (ab 2 (Y3 (fun fz gz m F h=>∃(j:Nat),(j<=x1.code.length)/\(Tq im x1 (x1.code.drop j) j=Tq im x1 x1.code 0)/\F=sF [3,6,18,19,20,64,65] fz [(66,.i j)]/\h=gz/\m=x1.code.length-j) _ _ _ ⟨0,ob,rfl,rfl,rfl,rfl⟩ (wk [0,0] (Yd fl)) ?_)))))
     rintro m F h ⟨j,U7,Wb,rfl,rfl,rfl⟩
     refine Y7 (aq (VI ((j:Int)<(x1.code.length:Int)) (fun YA=>?_) (fun YA=>?_)))
     ·refine ak (aq (ab 3 (Yf 1 ?_)))
      obtain ⟨x3,YU⟩:=Zv x1.code j om
      have hxz:=(hpz.code _ (Y2 YU)).l
      refine Zp (Zj none (j:Int) 6 (Q8 YU)) (Z0 1 (iA [.i 0,.i 0,.i 0,.i 0,nl,nl] fun b4=>Z0 1 (Zz 0 b4 (Vx x3) (ie (Zq 4 [2,1,0] (Zu [] (Z73 _ x1 j x3 (hd:=Xl) (hps:=hps) (hxl:=om)) (YC (!(Vq im x1 j x3)) (p:=¬((Vq im x1 j x3)=true)) (Ys Iff.rfl) (fun YW=>?_) (fun YW=>?_))))))))
      ·exact ar (Zm (ZW (.b false) (lb (by rw [D4,hS,Bool.true_and];exact Gf Z4 (by rw [Tt,<-Oh YU (Q5.2 (by assumption)) Wb];simp) Zh))))
      exact ak (az (ZE j (Z2 (ZJ ⟨j+1,ob,(Oj YU (T5.1 (by assumption)) Wb),rfl,rfl,rfl⟩ (wk [1,1] (ZO j fl))))))
     exact ax 2 (az (ZE k (Z2 (ZJ ⟨k+1,ob,(Pq Z4 (by rw [Tt,IN.1 hlp x1 (Y2 Z4),decide_eq_true (p:=(1<=x1.regs/\(x1.params.length:Int)<=x1.regs/\x1.regs<=2000)/\1<=x1.code.length/\x1.code.length<=2000) om,<-Oi om Wb,IH Zx,decide_eq_true (p:=x2.op=23∨x2.op=24) om];rfl) Zh),rfl,rfl,rfl⟩ (wk [1] (ZO k fl))))))
    refine Z0 1 (ib (b:=((decide (x1.regs<(max 1 (x1.params.length:Int))))||(decide (x1.regs>2000)))) 36 (fun Ym=>?_) (fun Ym=>?_))
    ·have Wf:(x1.regs<(max 1 (x1.params.length:Int)))∨(x1.regs>2000):=((ZY dq dq)).1 Ym
     exact Z0 5 (Yb (wk [0,0] (Zl true Ym fl)) hj2)
    have WY:¬((x1.regs<(max 1 (x1.params.length:Int)))∨(x1.regs>2000)):=Y8 (ZY dq dq) Ym
    exact ZA 2 [0] (iw (Q9 x1.code) (Z0 2 (Yb (wk [0,0] (Zl (decide ((x1.code.length:Int)<1)) Ym fl)) hj2)))
   refine Z0 2 (ib (b:=(decide (x1.regs<(max 1 (x1.params.length:Int))))) 31 (fun X8=>?_) (fun X8=>?_))
   ·have Vp:x1.regs<(max 1 (x1.params.length:Int)):=(dq).1 X8
    exact Z0 4 (Yb (wk [0,0] (Zl true X8 fl)) hj1)
   have UY:¬(x1.regs<(max 1 (x1.params.length:Int))):=Y8 dq X8
   exact ZA 4 [0] (Yb (wk [0,0] (Zl (decide (x1.regs>2000)) X8 fl)) hj1)
  exact ax 0 (ar (Zm (ZW (.b true) (lb (by rw [D4,hS,<-Pp om Zh];rfl)))))
 have hL:=Yt
 exact Z0 3 (iA [nl,nl] fun b5=>Zz 0 b5 [Ya [],Ka []] (Z2 (Y0 (VD (ar (Zm (ZW (.b false) (lb (by rw [D4,Bp,decide_eq_false hL];rfl)))))))))
end Go.Abs
section
namespace Go.Abs
section
variable {P:Program} {n:Nat} {ops:Array Oper} {B:Fr->List Res->Prop} {k:Nat} {F:Fr} {h:List Res}
def Ms (P:Program) (ops:Array Oper) (F:Fr) (k:Nat):Option (Bool × Bool):=
 match (ZP ops k).op with
 | .binOp .eql t x y _=>match P.underlying t with
  | some .bool=>match F.ev x,F.ev y with
   | .val (.bool a),.val (.bool b)=>some (a,b)
   | _,_=>none
  | _=>none
 | _=>none
theorem Oq (a b:Bool) (hb:Ms P ops F k=some (a,b):=by kernel_rfl):XT P (ZP ops k) F h [] (.b (a==b)):=by
 unfold Ms at hb
 generalize hoo:ZP ops k=o at hb
 obtain ⟨dst,op,type,pos,after,guard⟩:=o
 cases op<;>simp only at hb<;>try (cases hb)
 rename_i bop t x y yt
 cases bop<;>simp only at hb<;>try (cases hb)
 split at hb
 ·rename_i ht
  split at hb
  ·rename_i a' b' h1 h2
   cases hb
   intro n w G ac hF hh
   have v1:=hF.ev x
   have v2:=hF.ev y
   rw [h1] at v1
   rw [h2] at v2
   have v1:=v1.val_inv
   have v2:=v2.val_inv
   refine ⟨_,.val,fun w' _ _=>?_⟩
   simp only [execOp,v1,v2]
   have he:(Op.equalIn (9999+1) t (.bool a) (.bool b)).run P w'=.ok (a==b) w':=by
    rw [Op.equalIn]
    simp [Sem.run_bind,Ui ht]
   refine VA ?_
   simp only [eqGuard,binOp,Op.equal,Op.maxDepth]
   have he2:(Op.equalIn 10000 t (.bool a) (.bool b)).run P w'=.ok (a==b) w':=he
   simp [Sem.run_bind,he2]
  ·cases hb
 ·cases hb
end
end Go.Abs
namespace Go.Abs
end Go.Abs
namespace Go.Abs
end Go.Abs
end
namespace Go.Abs
open Go.Proofs
theorem Z7x (code:LI) (hcb:∀z∈code,0<=z/\z<=255):Zo 3 [U4 code] [] (Yy (.b true)):=by
 refine ZG 63 Tryz.func3 (Y7 (YQ 1 (iw (B0 code) (ZZ ((code.length:Int)>1048576) (fun Z9=>?_) (fun Z9=>?_)))))
 ·exact ar (Zm (Cp))
 have hcl:code.length<=1048576:=by omega
 refine ak (Yf 1 (ic [] (ND code (hcl:=hcl) (hcb:=hcb)) ?_))
 rintro _ _ ⟨y1,rfl,rfl,Y6⟩
 have hdz:=Y6
 have hdl:=hdz.len
 refine iA [nl,nl] fun b1=>Zz 0 b1 (U3 y1) (ie (Zq 1 [0] (Zu [] (Is y1 _ (hz:=(by first|exact hdz|exact hmz))) (Z2 (Yr 2 [0] (Zu [] (GC y1 2 (hz:=hdz)) (Zp (Ot (Xq y1) (Xq y1)) (Xp [3,4] [(22,.b (((Xq y1) != (Xq y1))||(!(Xq y1))))] (fun gz=>gz) ?_ ?_))))))))
 ·refine Z0 1 (ib (b:=((Xq y1) != (Xq y1))) 19 (fun Zc=>?_) (fun Zc=>?_))
  ·have Yt:(Xq y1)≠(Xq y1):=(Yv).1 Zc
   exact Z2 (wk [0] (fc (x:=.b true) (lb (by rw [Zc];rfl)) fl))
  have YP:¬((Xq y1)≠(Xq y1)):=Y8 Yv Zc
  exact Z2 (wk [0] (fc (x:=.b (!(Xq y1))) (lb (by rw [Zc];rfl)) fl))
 refine ac (((Xq y1) != (Xq y1))||(!(Xq y1))) (p:=((Xq y1)≠(Xq y1))∨(¬((Xq y1)=true))) (ZY Yv (Ys Iff.rfl)) (fun Zi=>?_) (fun Zi=>?_)
 ·exact Zq 2 [0] (Zu [] (GC y1 2 (hz:=hdz)) (Zp (Oq (Xq y1) (Xq y1)) (Zm (ZW (.b ((Xq y1)==(Xq y1))) (lb (by first|rfl|(simp;done)|(exact hmV.symm)|(exact hmV)|(exfalso;omega)))))))
 have hV:Xq y1=true:=Bv fun z=>Zi (.inr z)
 refine ak (ar (iL (XX []) 0 5 fun v1=>?_))
 refine Z2 (Y0 (ab 0 (Y3 (fun fz gz m F h=>∃(k:Nat) (ps:List ZX) (v:Value),(k<=y1.procs.length)/\(ps=(y1.procs.take k).map K9)/\(ps.length=k)/\(∀p∈y1.procs.take k,p.regs≠2000)/\F=sF [3] fz [(5,U5 ps v),(6,.i k)]/\h=[Zg gz 1,.tail v 5]/\m=y1.procs.length-k) _ _ _ ⟨0,[],v1,ob,rfl,rfl,(fun p hp=>by cases hp),rfl,rfl,rfl⟩ (wk [1,0] (fr (Yd fl))) ?_)))
 rintro m F h ⟨k,ps,v,Yk,Zh,Zy,YJ,rfl,rfl,rfl⟩
 refine Yr 3 [0] (iw (J1 y1.procs) (ZZ ((k:Int)<(y1.procs.length:Int)) (fun ZB=>?_) (fun ZB=>?_)))
 ·refine ak (aq (ab 1 (Zq 3 [0] ?_)))
  obtain ⟨x1,Z4⟩:=Zv y1.procs k om
  have hpz:=(hdz.procs _ (Y2 Z4)).regs
  refine Zp (Zj none (k:Int) 5 (J0 Z4)) (Z0 1 (iA [nl,nl,.i 0,.i 0,nl] fun b2=>Zz 0 b2 (UG x1) (ie (Zq 9 [0,0,0,0] (ia ((x1.regs+1)) ((x1.regs)+(1)) (ZA 3 [0] (iL (XX [ZX.mk x1.params x1.lent x1.result (x1.regs+1) x1.code]) 1 5 fun v2=>ZM 0 [(53,Ef [ZX.mk x1.params x1.lent x1.result (x1.regs+1) x1.code])] (ip 3 (XX (ps++[ZX.mk x1.params x1.lent x1.result (x1.regs+1) x1.code])) (XX ps) (XX [ZX.mk x1.params x1.lent x1.result (x1.regs+1) x1.code]) v none 5 (K1 _) (K1 _) (HN _) (by simp<;>omega) (by simp [MS,XX]) fun v3=>Z2 (Qb [2] (ac (x1.regs==2000) Zf (fun Ye=>?_) (fun Ye=>?_)))))))))))
  ·exact ar (Zm (Cp))
  exact ak (az (Z0 1 (ZE k (Z2 (ZJ ⟨k+1,(ps++[ZX.mk x1.params x1.lent x1.result (x1.regs+1) x1.code]),v3,ob,(by rw [Zh,WU Z4,List.map_append];rfl),(by rw [Yl,Zy];rfl),(by rw [WU Z4];exact Xx YJ (by assumption)),rfl,rfl,rfl⟩ (wk [3,0] (fr (ZO k fl))))))))
 have htk:y1.procs.take k=y1.procs:=WJ om
 have hE:ps=y1.procs.map K9:=by rw [Zh,htk]
 have hmz:IZ (YN.mk y1.decls ps) 3:=by rw [hE];exact hdz.more
 have hmV:Xq (YN.mk y1.decls ps)=true:=by rw [hE];exact Z6t hV (by rw [htk] at YJ;exact YJ)
 exact ax 0 (ar (QM 4 [(61,.agg [Ya y1.decls,Ef ps])] [0] (Zu [] (Is (YN.mk y1.decls ps) _ (hz:=(by first|exact hdz|exact hmz))) (Zm (ZW (.b (Xq (YN.mk y1.decls ps))) (lb (by first|rfl|(simp;done)|(exact hmV.symm)|(exact hmV)|(exfalso;omega))))))))
theorem Z7y (code:LI) (hcb:∀z∈code,0<=z/\z<=255):Zo 4 [U4 code] [] (Yy (.b true)):=by
 refine ZG 94 Tryz.func4 (Y7 (YQ 1 (iw (B0 code) (ZZ ((code.length:Int)>1048576) (fun Z9=>?_) (fun Z9=>?_)))))
 ·exact ar (Zm (Cp))
 have hcl:code.length<=1048576:=by omega
 refine ak (Yf 1 (ic [] (ND code (hcl:=hcl) (hcb:=hcb)) ?_))
 rintro _ _ ⟨y1,rfl,rfl,Y6⟩
 have hdz:=Y6
 have hdl:=hdz.len
 refine iA [nl,nl] fun b1=>Zz 0 b1 (U3 y1) (ie (Zq 1 [0] (Zu [] (Is y1 _ (hz:=(by first|exact hdz|exact hmz))) (Z2 (Yr 2 [0] (Zu [] (GC y1 2 (hz:=hdz)) (Zp (Ot (Xq y1) (Xq y1)) (Xp [3,4] [(24,.b (((Xq y1) != (Xq y1))||(!(Xq y1))))] (fun gz=>gz) ?_ ?_))))))))
 ·refine Z0 1 (ib (b:=((Xq y1) != (Xq y1))) 21 (fun Zc=>?_) (fun Zc=>?_))
  ·have Yt:(Xq y1)≠(Xq y1):=(Yv).1 Zc
   exact Z2 (wk [0] (fc (x:=.b true) (lb (by rw [Zc];rfl)) fl))
  have YP:¬((Xq y1)≠(Xq y1)):=Y8 Yv Zc
  exact Z2 (wk [0] (fc (x:=.b (!(Xq y1))) (lb (by rw [Zc];rfl)) fl))
 refine ac (((Xq y1) != (Xq y1))||(!(Xq y1))) (p:=((Xq y1)≠(Xq y1))∨(¬((Xq y1)=true))) (ZY Yv (Ys Iff.rfl)) (fun Zi=>?_) (fun Zi=>?_)
 ·exact Zq 2 [0] (Zu [] (GC y1 2 (hz:=hdz)) (Zp (Oq (Xq y1) (Xq y1)) (Zm (ZW (.b ((Xq y1)==(Xq y1))) (lb (by first|rfl|(simp;done)|(exfalso;omega)))))))
 have hV:Xq y1=true:=Bv fun z=>Zi (.inr z)
 refine ak (Y0 (ab 0 (Y3 (fun fz gz m F h=>∃(f:Nat),(f<=y1.procs.length)/\F=sF [3] fz [(5,.i f)]/\h=gz/\m=y1.procs.length-f) _ _ _ ⟨0,ob,rfl,rfl,rfl⟩ (wk [0] (Yd fl)) ?_)))
 rintro m F h ⟨f,Yk,rfl,rfl,rfl⟩
 refine Yr 3 [0] (iw (J1 y1.procs) (ZZ ((f:Int)<(y1.procs.length:Int)) (fun ZB=>?_) (fun ZB=>?_)))
 ·refine ak (aq (ab 1 (Zq 3 [0] ?_)))
  obtain ⟨x1,Z4⟩:=Zv y1.procs f om
  have hpz:=hdz.procs _ (Y2 Z4)
  have hpl:=hpz.len
  refine Zp (Zj none (f:Int) 5 (J0 Z4)) (Z2 (Y7 (ab 2 (Y3 (fun fz gz m F h=>∃(k:Nat),(k<=x1.code.length)/\F=sF [3,5,6] fz [(7,.i k)]/\h=gz/\m=x1.code.length-k) _ _ _ ⟨0,ob,rfl,rfl,rfl⟩ (wk [0] (Yd fl)) ?_))))
  rintro m F h ⟨k,U7,rfl,rfl,rfl⟩
  refine YQ 2 (iw (Q9 x1.code) (ZZ ((k:Int)<(x1.code.length:Int)) (fun Ye=>?_) (fun Ye=>?_)))
  ·refine ak (aq (ab 3 (Yf 2 ?_)))
   obtain ⟨x2,Zx⟩:=Zv x1.code k om
   have hji:=Z7h (Z6s hV Z4 Zx).2
   have hxl:=(hpz.code _ (Y2 Zx)).l
   have hll:(if (x2).op=20∨(x2).op=22 then [(x2).num] else (x2).jumps).length<=1000:=by split<;>first|omega|(simp;done)
   refine Zp (Zj none (k:Int) 6 (Q8 Zx)) (Z2 (YQ 2 (Zp (Zj none (k:Int) 6 (Q8 Zx)) (Xp [3,5,6,7,8] [(66,.b ((x2.op==20)||(x2.op==22)))] (fun gz=>gz) ?_ ?_))))
   ·refine Z0 4 (ib (b:=(x2.op==20)) 59 (fun ZF=>?_) (fun ZF=>?_))
    ·have X2:x2.op=20:=(Zf).1 ZF
     exact Z2 (wk [0] (fc (x:=.b true) (lb (by rw [ZF];rfl)) fl))
    have Xg:¬(x2.op=20):=Y8 Zf ZF
    exact Z0 2 (Zp (Zj none (k:Int) 6 (Q8 Zx)) (Z2 (wk [0] (fc (x:=.b (x2.op==22)) (lb (by rw [ZF];rfl)) fl))))
   refine Xs (fun fz gz F h=>F=sF [3,5,6,7] fz [(8,Z3 (if (x2.op=20)∨(x2.op=22) then [x2.num] else x2.jumps))]/\h=gz) ?_ ?_
   ·refine ac ((x2.op==20)||(x2.op==22)) (p:=(x2.op=20)∨(x2.op=22)) (ZY Zf Zf) (fun YA=>?_) (fun YA=>?_)
    ·exact az (Z0 2 (Zp (Zj none (k:Int) 6 (Q8 Zx)) (Z0 2 (iL (Z6 [x2.num]) 1 1 fun v1=>Z2 (ZD ⟨rfl,rfl⟩ (wk [1] (fc (x:=ZV [x2.num] v1) (Zd.sl _ (Yp Z6 (by first|rfl|(rw [Zk YA])|(rw [Za YA])|(simp [YA];done)|(rw [Y9];simp [YA];done)|omega))) fl)))))))
    exact ak (ZD ⟨rfl,rfl⟩ (wk [0] (fc (x:=Z3 x2.jumps) (Zd.sl _ (Yp Z6 (by first|rfl|(rw [Zk YA])|(rw [Za YA])|(simp [YA];done)|(rw [Y9];simp [YA];done)|omega))) fl)))
   rintro F h ⟨rfl,rfl⟩
   refine Y7 (ab 4 (Y3 (fun fz gz m F h=>∃(i:Nat),(i<=((if (x2.op=20)∨(x2.op=22) then [x2.num] else x2.jumps)).length)/\F=sF [3,5,6,7,8] fz [(9,.i i)]/\h=gz/\m=((if (x2.op=20)∨(x2.op=22) then [x2.num] else x2.jumps)).length-i) _ _ _ ⟨0,ob,rfl,rfl,rfl⟩ (wk [0] (Yd fl)) ?_))
   rintro m F h ⟨i,F6,rfl,rfl,rfl⟩
   refine YQ 2 (io (.i (((if (x2.op=20)∨(x2.op=22) then [x2.num] else x2.jumps).length:Nat):Int)) (.i (((Z6 (if (x2.op=20)∨(x2.op=22) then [x2.num] else x2.jumps)).length:Nat):Int)) (li (by rw [Yc])) (ZZ ((i:Int)<(((if (x2.op=20)∨(x2.op=22) then [x2.num] else x2.jumps).length:Nat):Int)) (fun YW=>?_) (fun YW=>?_)))
   ·refine ak (aq (ab 5 (Yf 2 ?_)))
    obtain ⟨x3,YU⟩:=Zv (if (x2.op=20)∨(x2.op=22) then [x2.num] else x2.jumps) i om
    have hj3:=hji _ (Y2 YU)
    refine Zp (Zj none (i:Int) 1 (Y5 YU)) (Xp [3,5,6,7,8,9] [(93,.b ((decide (x3<=(k:Int)))||(decide (x3>=(x1.code.length:Int)))))] (fun gz=>gz) ?_ ?_)
    ·refine Z0 4 (ib (b:=(decide (x3<=(k:Int)))) 85 (fun Ym=>?_) (fun Ym=>?_))
     ·have XQ:x3<=(k:Int):=(dq).1 Ym
      exact Z2 (wk [0] (fc (x:=.b true) (lb (by rw [Ym];rfl)) fl))
     have Wf:¬(x3<=(k:Int)):=Y8 dq Ym
     exact Z0 2 (Zp (Zj none (i:Int) 1 (Y5 YU)) (Z0 2 (iw (Q9 x1.code) (Z2 (wk [0] (fc (x:=.b (decide (x3>=(x1.code.length:Int)))) (lb (by rw [Ym];rfl)) fl))))))
    refine ac ((decide (x3<=(k:Int)))||(decide (x3>=(x1.code.length:Int)))) (p:=(x3<=(k:Int))∨(x3>=(x1.code.length:Int))) (ZY dq dq) (fun Wo=>?_) (fun Wo=>?_)
    ·exact ar (Zm (ZW (.b false) (lb (by first|rfl|(simp;done)|(exfalso;omega)))))
    exact ak (az (Z0 1 (ZE i (Z2 (ZJ ⟨i+1,ob,rfl,rfl,rfl⟩ (wk [0] (ZO i fl)))))))
   exact ax 4 (az (Z0 1 (ZE k (Z2 (ZJ ⟨k+1,ob,rfl,rfl,rfl⟩ (wk [0] (ZO k fl)))))))
  exact ax 2 (az (Z0 1 (ZE f (Z2 (ZJ ⟨f+1,ob,rfl,rfl,rfl⟩ (wk [0] (ZO f fl)))))))
 exact ax 0 (ar (Zm (Cp)))
end Go.Abs
