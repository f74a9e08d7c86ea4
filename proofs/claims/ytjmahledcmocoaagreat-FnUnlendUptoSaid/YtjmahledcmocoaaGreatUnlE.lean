/-
  FnUnlendUptoSaid: the law FnUnlend returns true at every argument of bulk at most 1048576, and the argument reads behind the call as it read before.
-/
import Derived.Test.YtjmahledcmocoaaGreatUnlD
import Derived.Test.YtjmahledcmocoaaGreatRows
import Derived.WalkKit
import Derived.ProofKit
import Derived.OpenShut
import Derived.JoinedCond
import Derived.ReadAgain
set_option linter.all false
set_option linter.unusedVariables false
set_option linter.unusedSimpArgs false
set_option linter.unusedSectionVars false
set_option maxRecDepth 10000
set_option maxHeartbeats 4000000
namespace Go.Abs
open Go.Proofs
theorem Zb1 (b:Z5) (hz:b.sz<=1000000000:=by exact ob):Zi 250 [ZI b] [] (Yg (.i (((XO b.steps):Nat):Int))):=by
 have hbz:=V7 b
 refine ZF 20 Tryz.func250 (ar (iA (X3 b) fun b1=>?_))
 refine Z0 (ZP (aq (ab 0 (Y0 (fun fz gz m F h=>∃(k:Nat),(k<=b.steps.length)/\(k+XO (b.steps.drop k)=XO b.steps)/\F=sF [1] fz [(3,.i k)]/\h=gz/\m=b.steps.length-k) _ _ _ ⟨0,ob,(by simp),rfl,rfl,rfl⟩ (wk [0] (Y5 fl)) ?_))))
 rintro m F h ⟨k,Yb,Zl,rfl,rfl,rfl⟩
 refine Yf 3 [0] (iw (V3 b.steps) (Z2 2 (ib (b:=(decide ((k:Int)<(b.steps.length:Int)))) 9 (fun Zd=>?_) (fun Zd=>?_))))
 ·have Y4:(k:Int)<(b.steps.length:Int):=(dq).1 Zd
  refine ZL 3 [0] ?_
  obtain ⟨x1,Z3⟩:=Zr b.steps k om
  refine Zm (Zg none (k:Int) 5 (Wc Z3)) (Z2 1 (Zy [] (Po x1) (YG ((x1.op==14)||(x1.op==15)) (p:=(x1.op=14)∨(x1.op=15)) (Yh Zs Zs) (fun Za=>?_) (fun Za=>?_))))
  ·exact ak (ab 1 (az (Z2 1 (ZG k (Z0 (ZH ⟨k+1,ob,(Z9f Z3 Za Zl),rfl,rfl,rfl⟩ (wk [0] (ZJ k fl))))))))
  exact ax 0 (ar (Zt (ZU (.i k) (li (by have:=Z9g Z3 Za Zl;omega)))))
 have Ym:¬((k:Int)<(b.steps.length:Int)):=Yd dq Zd
 exact Z0 (WT (ax 0 (ar (Zt (ZU (.i k) (li (by have:=Z9e om Zl;omega)))))))
theorem Ph (b:Z5) (mm:Nat) (op:Int) (hm:mm<=b.steps.length:=by exact ob) (ha:∀s∈b.steps.take mm,s.op=op->∃a,s.args=[a]) (hz:b.sz<=1000000000:=by exact ob):Zi 251 [ZI b,.i mm,.i op] [] (fun r h=>∃(v:Value),r=ZY (Ws op (b.steps.take mm)) v/\h=[.tail v 1]):=by
 have hbz:=V7 b
 refine ZF 35 Tryz.func251 (ar (iA (X3 b) fun b1=>Z0 (ar (iL (Z7 []) 0 1 fun v1=>?_))))
 refine Z0 (Y7 (ab 0 (Y0 (fun fz gz m F h=>∃(k:Nat) (acc:LI) (v:Value),(k<=mm)/\(acc.length<=k)/\(acc++Ws op ((b.steps.take mm).drop k)=Ws op (b.steps.take mm))/\F=sF [1,2,3] fz [(7,ZY acc v),(8,.i k)]/\h=[Zh gz 1,.tail v 1]/\m=mm-k) _ _ _ ⟨0,[],v1,ob,ob,(by simp),rfl,rfl,rfl⟩ (wk [1,0] (fr (Y5 fl))) ?_)))
 rintro m F h ⟨k,acc,v,Yb,Zl,Zw,rfl,rfl,rfl⟩
 refine X4 (ZZ ((k:Int)<(mm:Int)) (fun Za=>?_) (fun Za=>?_))
 ·refine ak (aq (ab 1 (Zu 3 [0] ?_)))
  obtain ⟨x1,Z3⟩:=Zr b.steps k om
  have hxt:(b.steps.take mm)[k]? = some x1:=by rw [List.getElem?_take_of_lt om];exact Z3
  have hxm:=Y1 hxt
  refine Zm (Zg none (k:Int) 5 (Wc Z3)) (YG (x1.op==op) Zs (fun Zf=>?_) (fun Zf=>?_))
  ·refine az (ZL 4 [0] (Zm (Zg none (k:Int) 5 (Wc Z3)) (Z2 2 ?_)))
   obtain ⟨x2,Zo⟩:=Zr x1.args 0 (by obtain ⟨a,ha2⟩:=ha x1 hxm Zf;rw [ha2];simp)
   have hg0:=JR Zo
   exact Zm (Zg none 0 1 (Y3 Zo)) (Z2 1 (iL (Z7 [x2]) 1 1 fun v2=>ZQ 0 [(32,Z6 [x2])] (ip 2 (Z7 (acc++[x2])) (Z7 acc) (Z7 [x2]) v none 1 (YD _) (YD _) (W5 _) (by simp<;>omega) (by simp [W4,Z7]) fun v3=>Z0 (az (Z2 1 (ZG k (Z0 (ZH ⟨k+1,(acc++[x2]),v3,ob,(by simp;omega),(by have h:=RL hxt Zf Zw;rw [hg0] at h;exact h),rfl,rfl,rfl⟩ (wk [2,0] (fr (ZJ k fl)))))))))))
  exact ak (az (Z2 1 (ZG k (Z0 (ZH ⟨k+1,acc,v,ob,ob,(RK hxt Zf Zw),rfl,rfl,rfl⟩ (wk [0,0] (fr (ZJ k fl))))))))
 exact ax 0 (ar (Zt (r2 [1] [ZY acc v] ⟨v,rfl,rfl⟩ (Zc.slh _ (Yp Z7 (RJ (by rw [Wr];omega) Zw))))))
theorem Pv (xs:LI) (y:Int) (hl:xs.length<=1000000000:=by exact ob):Zi 252 [Z6 xs,.i y] [] (fun r h=>∃(v:Value),r=ZY (xs.erase y) v/\h=[.tail v 1]):=by
 refine ZF 33 Tryz.func252 (ZP (ar (iL (Z7 []) 0 1 fun v1=>?_)))
 refine Z0 (ZP (Y7 (ab 0 (Y0 (fun fz gz m F h=>∃(k:Nat) (acc:LI) (d:Bool) (v:Value),(k<=xs.length)/\(acc.length<=k)/\(acc++(if d=true then xs.drop k else (xs.drop k).erase y)=xs.erase y)/\F=sF [0,1] fz [(5,ZY acc v),(6,.b d),(7,.i k)]/\h=[.tail v 1]/\m=xs.length-k) _ _ _ ⟨0,[],false,v1,ob,ob,(by simp),rfl,rfl,rfl⟩ (wk [0] (fw (Y5 fl))) ?_))))
 rintro m F h ⟨k,acc,d,v,Yb,Zl,Zw,rfl,rfl,rfl⟩
 refine YO 2 (iw (Yi xs) (ZZ ((k:Int)<(xs.length:Int)) (fun Za=>?_) (fun Za=>?_)))
 ·refine ak (aq (ab 1 (Yc 2 ?_)))
  obtain ⟨x1,Z3⟩:=Zr xs k om
  refine Zm (Zg none (k:Int) 1 (Y3 Z3)) (Xi [0,1,5,6,7] [(24,.b ((x1==y)&&(!d)))] (fun gz=>gz) ?_ ?_)
  ·refine Z2 4 (ib (b:=(x1==y)) 21 (fun Zd=>?_) (fun Zd=>?_))
   ·exact Z0 (wk [0] (Zp (!d) Zd fl))
   exact Z0 (wk [0] (Zp false Zd fl))
  refine At (fun fz gz F h=>∃(w:Value),F=sF [0,1,7] fz [(5,ZY (if (x1=y)/\(¬(d=true)) then acc else (acc++[x1])) w),(6,.b (((x1==y)&&(!d))||d))]/\h=[.tail w 1]) (fun _ _=>rfl) ?_ ?_
  ·refine ac ((x1==y)&&(!d)) (p:=(x1=y)/\(¬(d=true))) (YK Zs (Yn Iff.rfl)) (fun Zf=>?_) (fun Zf=>?_)
   ·exact T6 (ZT ⟨v,rfl,rfl⟩ (wk [0] (fc (x:=ZY acc v) (Zc.slh _ (Yp Z7 (by first|rfl|(rw [Zj Zf])|(rw [Z9 Zf])|(simp [Zf];done)|(rw [Xr];simp [Zf];done)|omega))) (fc (x:=.b true) (lb (by first|rfl|(rw [Zj Zf])|(rw [Z9 Zf])|(simp [Zf];done)|(rw [Xr];simp [Zf];done)|omega)) fl))))
   exact az (Z2 3 (Zm (Zg none (k:Int) 1 (Y3 Z3)) (Z2 1 (iL (Z7 [x1]) 1 1 fun v2=>ZQ 0 [(30,Z6 [x1])] (ip 1 (Z7 (acc++[x1])) (Z7 acc) (Z7 [x1]) v none 1 (YD _) (YD _) (W5 _) (by simp<;>omega) (by simp [W4,Z7]) fun v3=>Z0 (ZT ⟨v3,rfl,rfl⟩ (wk [0] (fc (x:=ZY (acc++[x1]) v3) (Zc.slh _ (Yp Z7 (by first|rfl|(rw [Zj Zf])|(rw [Z9 Zf])|(simp [Zf];done)|(rw [Xr];simp [Zf];done)|omega))) (fc (x:=.b d) (lb (by cases d<;>simp_all)) fl)))))))))
  rintro F h ⟨w,rfl,rfl⟩
  exact az (Z2 1 (ZG k (Z0 (ZH ⟨k+1,(if (x1=y)/\(¬(d=true)) then acc else (acc++[x1])),(((x1==y)&&(!d))||d),w,ob,(by split<;>(try simp)<;>omega),(Z0u Z3 Zw),rfl,rfl,rfl⟩ (wk [0] (fw (ZJ k fl)))))))
 exact ax 0 (ar (Zt (r2 [0] [ZY acc v] ⟨v,rfl,rfl⟩ (Zc.slh _ (Yp Z7 (Z0t om Zw))))))
theorem Zar (b:Z5) (x:Int) (fs:LI) (q:Nat) (ha:∀s∈b.steps,Yo s.op=true->∃a,s.args=[a]) (hf:fs.length<=3:=by exact ob) (hq:q<=1000000000:=by exact ob) (hz:b.sz<=900000000:=by exact ob):Zi 198 [ZI b,.i x,Z6 fs,.i q] [] (Yg (ZI (Ky b x fs q))):=by
 have hbz:=V7 b
 have hrl:=FD b.steps
 have hal:=Gx (b.steps.take (XO b.steps))
 rw [Wr] at hal
 have her:=List.length_erase_le (a:=x) (l:=Ws 15 (b.steps.take (XO b.steps)))
 have har:∀op:Int,Yo op=true->∀s∈b.steps.take (XO b.steps),s.op=op->∃a,s.args=[a]:=fun op ho s hs e=>ha s (TZ hs) (by rw [e];exact ho)
 refine ZF 88 Tryz.func198 (ar (iA (X3 b) fun b1=>iA [nl,.i 0] fun b2=>ie (Zu 1 [1] (Zy [] (Zb1 b) (Z0 (Zu 2 [1] (ic [] (Ph b (XO b.steps) 14 (ha:=(har _ rfl))) ?_)))))))
 rintro _ _ ⟨v1,rfl,rfl⟩
 refine Z0 (Zu 2 [2] (ic [] (Ph b (XO b.steps) 15 (ha:=(har _ rfl))) ?_))
 rintro _ _ ⟨v2,rfl,rfl⟩
 refine Z0 (X4 (ZQ 2 [(22,Z6 (Ws 15 (b.steps.take (XO b.steps))))] (Zy [] (Uw (Ws 15 (b.steps.take (XO b.steps))) x) (Xi [1,2,3,4,8,9,10,11] [(30,.b ((!(decide (x∈(Ws 15 (b.steps.take (XO b.steps))))))||((fs.length:Int)==0)))] (fun gz=>gz) ?_ ?_))))
 ·refine Z2 2 (ib (b:=(!(decide (x∈(Ws 15 (b.steps.take (XO b.steps))))))) 26 (fun Zd=>?_) (fun Zd=>?_))
  ·exact Z0 (ZM 4 (Zp true Zd fl))
  exact Z2 1 (iw (Yi fs) (Z0 (ZM 4 (Zp ((fs.length:Int)==0) Zd fl))))
 refine ac ((!(decide (x∈(Ws 15 (b.steps.take (XO b.steps))))))||((fs.length:Int)==0)) (p:=(¬(x∈(Ws 15 (b.steps.take (XO b.steps)))))∨((fs.length:Int)=0)) (Yh (Yn dq) Zs) (fun Za=>?_) (fun Za=>?_)
 ·exact Zu 1 [3] (Zz 2 b2 (X3 b) (ie (ZD (r3 [] [ZI b] [0] [(b2,b2)] ⟨rfl,rfl⟩ (Zc.agg (.cons (Zc.sl _ (Yp Zv (Ry (fun z=>Za.elim (fun e=>e z.1) (fun e=>z.2 om))).symm)) (.cons li .nil)))))))
 refine ak (ar (ZQ 2 [(32,Z6 (Ws 15 (b.steps.take (XO b.steps))))] (ic [] (Pv (Ws 15 (b.steps.take (XO b.steps))) x) ?_)))
 rintro _ _ ⟨v3,rfl,rfl⟩
 refine Z0 (Y7 (ab 0 (Y0 (fun fz gz m F h=>∃(k:Nat) (D:LI) (R:LI) (v:Value),(k<=fs.length)/\(D.length<=b.steps.length)/\(R.length<=b.steps.length+k)/\(UG (fs.drop k) (q+k) D R=A4 b.steps x fs q)/\F=sF [1,2,3,4,8,9] fz [(10,Z6 D),(11,ZY R v),(12,.i k)]/\h=[Zh gz 3,Zh gz 4,.tail v 1]/\m=fs.length-k) _ _ _ ⟨0,(Ws 14 (b.steps.take (XO b.steps))),((Ws 15 (b.steps.take (XO b.steps))).erase x),v3,ob,om,om,(by simp [A4]),rfl,rfl,rfl⟩ (wk [3,3,0] (fc (x:=ZY (Ws 14 (b.steps.take (XO b.steps))) v1) (Zc.forget _ _) (fr (Y5 fl)))) ?_)))
 rintro m F h ⟨k,D,R,v,Yb,Zl,Zw,YN,rfl,rfl,rfl⟩
 refine YO 2 (iw (Yi fs) (ZZ ((k:Int)<(fs.length:Int)) (fun Zf=>?_) (fun Zf=>?_)))
 ·refine ak (aq (ab 1 (Yc 2 ?_)))
  obtain ⟨x1,Z3⟩:=Zr fs k om
  refine Zm (Zg none (k:Int) 1 (Y3 Z3)) (Xi [1,2,3,4,8,9,10,11,12] [(52,.b ((x1 != 0)&&(decide (((q+k:Nat):Int)∈D))))] (fun gz=>gz) ?_ ?_)
  ·refine Z2 3 (ib (b:=(x1 != 0)) 46 (fun ZC=>?_) (fun ZC=>?_))
   ·exact Z2 3 (ia (((q+k:Nat):Int)) (((q:Int))+((k:Int))) (Zy [] (Uw D ((q+k:Nat):Int)) (Z0 (ZM 3 (Zp (decide (((q+k:Nat):Int)∈D)) ZC fl)))))
   exact Z0 (ZM 3 (Zp false ZC fl))
  refine At (fun fz gz F h=>∃(D2:LI) (R2:LI) (w:Value),(UG (fs.drop (k+1)) (q+((k+1:Nat):Int)) D2 R2=A4 b.steps x fs q)/\(D2.length<=b.steps.length)/\(R2.length<=b.steps.length+(k+1))/\F=sF [1,2,3,4,8,9,12] fz [(10,Z6 D2),(11,ZY R2 w)]/\h=[Zh gz 0,Zh gz 1,.tail w 1]) (fun _ _=>rfl) ?_ ?_
  ·refine ac ((x1 != 0)&&(decide (((q+k:Nat):Int)∈D))) (p:=(x1≠0)/\(((q+k:Nat):Int)∈D)) (YK Y6 dq) (fun ZA=>?_) (fun ZA=>?_)
   ·refine az (Z2 3 (ia (((q+k:Nat):Int)) (((q:Int))+((k:Int))) (ic [] (Pv D ((q+k:Nat):Int)) ?_)))
    rintro _ _ ⟨v4,rfl,rfl⟩
    exact Z0 (ZT ⟨(D.erase ((q+k:Nat):Int)),R,v,(Z7g Z3 ZA.1 ZA.2 YN),(V9 List.length_erase_le Zl),ob,rfl,rfl⟩ (wk [1,1,1] fl))
   refine Yc 2 (Zm (Zg none (k:Int) 1 (Y3 Z3)) (YG (x1 != 0) Y6 (fun Yl=>?_) (fun Yl=>?_)))
   ·exact az (Z2 3 (ia (((q+k:Nat):Int)) (((q:Int))+((k:Int))) (iL (Z7 [((q+k:Nat):Int)]) 1 1 fun v5=>ZQ 0 [(67,Z6 [((q+k:Nat):Int)])] (ip 3 (Z7 (R++[((q+k:Nat):Int)])) (Z7 R) (Z7 [((q+k:Nat):Int)]) v none 1 (YD _) (YD _) (W5 _) (by simp<;>omega) (by simp [W4,Z7]) fun v6=>Z0 (ZT ⟨D,(R++[((q+k:Nat):Int)]),v6,(Z7h Z3 Yl (fun z=>ZA ⟨Yl,z⟩) YN),ob,(by simp;omega),rfl,rfl⟩ (wk [2,2,0] fl))))))
   exact ak (ZT ⟨D,R,v,(Z7i Z3 Yl YN),ob,ob,rfl,rfl⟩ (ZM 3 fl))
  rintro F h ⟨D2,R2,w,Dt,Du,Z5d,rfl,rfl⟩
  exact az (Z2 1 (ZG k (Z0 (ZH ⟨k+1,D2,R2,w,ob,ob,ob,ob,rfl,rfl,rfl⟩ (ZM 3 (fw (ZJ k fl)))))))
 refine ax 0 (Yc 1 (ic [] (QX 14 D) ?_))
 rintro _ _ ⟨v7,rfl,rfl⟩
 refine Z2 1 (Zy [] (Jq 16 x) (iL [YC (Zx 16 x)] 1 5 fun v8=>ZQ 0 [(73,.sl [YC (Zx 16 x)] none)] (ip 1 (Zv ((D.map (Zx 14))++[Zx 16 x])) (Zv (D.map (Zx 14))) [YC (Zx 16 x)] v7 none 5 (Xc _) (Ty rfl) rfl (by simp<;>omega) (by simp [WC,Vc]) fun v9=>Z0 (ar (ZQ 2 [(76,Z6 R)] (ic [] (QX 15 R) ?_))))))
 rintro _ _ ⟨v10,rfl,rfl⟩
 refine ZQ 0 [(77,WE (R.map (Zx 15)))] (ip 1 (Zv (((D.map (Zx 14))++[Zx 16 x])++(R.map (Zx 15)))) (Zv ((D.map (Zx 14))++[Zx 16 x])) (Zv (R.map (Zx 15))) v9 none 5 (Xc _) (Xc _) (VD _) (by simp<;>omega) (by simp [WC,Zv]) fun v11=>Z0 (aD 10 (ZO 6 10 [0,1,2,3] [4] (dx 4 (KM (es:=Zv b.steps) (hv:=none) (l:=(((XO b.steps):Nat):Int)) (m:=(((Zv b.steps).length:Nat):Int)) (sz:=5) (es':=Zv (b.steps.drop (XO b.steps))) kr om (by simp<;>omega) (by simp<;>omega) (Xc _) (by first|(simp only [U9,Vi,JM,JL];done)|(simp only [U9,Vi,JM,JL];rfl)|(simp [JM,JL];done))) (ZO 3 5 [6,7] [4] (Z8 5 (dp 5 0 [1] [b1] (Zv ((((D.map (Zx 14))++[Zx 16 x])++(R.map (Zx 15)))++(b.steps.drop (XO b.steps)))) (Zv (((D.map (Zx 14))++[Zx 16 x])++(R.map (Zx 15)))) (Zv (b.steps.drop (XO b.steps))) v11 none 5 (Xc _) (Xc _) (VD _) (by simp<;>omega) (by simp [WC,Zv]) fun v12=>Zk 1 2 [8] (Z8 9 (YM 9 3 [] [] b2 [YS ((((D.map (Zx 14))++[Zx 16 x])++(R.map (Zx 15)))++(b.steps.drop (XO b.steps))) v12,.i b.result] (de ?_))))))))))
 have hE:=RA (Wn.1 fun z=>Za (.inl z)) (fun z=>Za (.inr om)) (Z7f om YN)
 exact ZD (r3 [] [.agg [YS ((((D.map (Zx 14))++[Zx 16 x])++(R.map (Zx 15)))++(b.steps.drop (XO b.steps))) v12,.i b.result]] [0] [(b2,b2)] ⟨rfl,rfl⟩ (Zc.agg (.cons (Zc.sl _ (Yp Zv hE)) (.cons li .nil))))
theorem Zb5 (n:Zq) (b:Z5) (mm:Nat) (hn:Xe n) (hw:wB n.decls b) (hb:mm+9*b.sz<=900000000) (ih:∀(b2:Z5) (m2:Nat),(wB n.decls b2)->(m2+9*b2.sz<=900000000)->(b2.sz<b.sz)->Zi 151 [Yk n,ZI b2,.i m2] [] (Yg (ZI (WP n.decls m2 b2)))):Zi 151 [Yk n,ZI b,.i mm] [] (Yg (ZI (WP n.decls mm b))):=by
 have Xy:=hn.decls
 have hbz:=V7 b
 have ZE:=(Ku b).1 hw
 refine ZF 107 Tryz.func151 (ar (iA (YJ n) fun b1=>iA (X3 b) fun b2=>iA [nl,.i 0] fun b3=>ie (ar (iL (Zv []) 0 5 fun v1=>ZL 3 [2] (iA [nl,.i 0] fun b4=>?_)))))
 refine Zz 0 b4 [YS [] v1,.i b.result] (ie (Y7 (ab 0 (Y0 (fun fz gz m F h=>∃(k:Nat) (q:Nat) (xs:List Z4) (v:Value),(k<=b.steps.length)/\(q<=mm+k)/\(xs.length=k)/\(xs++Ui n.decls q (b.steps.drop k)=Ui n.decls mm b.steps)/\F=sF [3,4,6,7] fz [(2,.i q),(8,.i k)]/\h=[.obj b4 [YS xs v,.i b.result],Zh gz 2,Zh gz 3,Zh gz 4,.tail v 5]/\m=b.steps.length-k) _ _ _ ⟨0,mm,[],v1,ob,ob,ob,rfl,rfl,rfl,rfl⟩ (wk [0,1,1,1,0] (fr (Y5 fl))) ?_))))
 rintro m F h ⟨k,q,xs,v,Yb,Zl,Zw,YN,rfl,rfl,rfl⟩
 refine Yf 3 [2] (iw (V3 b.steps) (ZZ ((k:Int)<(b.steps.length:Int)) (fun Za=>?_) (fun Za=>?_)))
 ·refine ak (aq (ab 1 (Zu 3 [2] ?_)))
  obtain ⟨x1,Z3⟩:=Zr b.steps k om
  have Xv:=BF Z3
  have hws:=R7 hw Z3
  have hkz:=Ut x1
  have haz:=TJ x1
  have hdf:=Zdh hws
  refine Zm (Zg none (k:Int) 5 (Wc Z3)) (Z2 1 (iA [.i 0,.i 0,.i 0,nl,nl] fun b5=>Zz 0 b5 (Xm x1) (ie (ar (iL (YE []) 0 2 fun v2=>Z0 (Zu 4 [5,1] (ic [] (Jp n.decls x1.num) ?_)))))))
  rintro _ _ ⟨v3,rfl,rfl⟩
  refine Z0 (Y7 (ab 2 (Y0 (fun fz gz m F h=>∃(j:Nat) (u:Value) (ks:List Z5),(j<=x1.kids.length)/\(ks.length=j)/\(ks++UX n.decls q x1.op x1.num x1.args (x1.kids.drop j) j=UX n.decls q x1.op x1.num x1.args x1.kids 0)/\F=sF [2,3,4,6,7,8,9,11] fz [(10,UF ks u),(12,.i j)]/\h=[Zh gz 2,Zh gz 3,Zh gz 4,Zh gz 5,Zh gz 6,.tail u 2,Zh gz 7,Zh gz 0]/\m=x1.kids.length-j) _ _ _ ⟨0,v2,[],ob,ob,(by simp),rfl,rfl,rfl⟩ (wk [2,2,2,2,2,1,1,0] (fr (Y5 fl))) ?_)))
  rintro m F h ⟨j,u,ks,VA,XL,XI,rfl,rfl,rfl⟩
  refine Yf 3 [0] (iw (Vr x1.kids) (ZZ ((j:Int)<(x1.kids.length:Int)) (fun Zf=>?_) (fun Zf=>?_)))
  ·refine ak (aq (ab 3 (JQ [0] (ac (x1.op==8) Zs (fun ZA=>?_) (fun ZA=>?_)))))
   ·refine aD 8 (ZO 4 8 [0,1,2,3] [4] ?_)
    obtain ⟨x2,Zo⟩:=Zr (ZW n.decls x1.num) j (by have h:=(E5 hws (by assumption)).2;omega)
    have hfk:UD n.decls x1.num j=ZX n.decls x2:=Mc (by rw [Kv,Zo];rfl)
    have hcf:=VP Xy x2
    refine dx 4 (Zg (some v3) (j:Int) 1 (Y3 Zo)) (Zk 2 3 [5] (Z8 6 (Yq 6 [] [] [] (QW n.decls x2) (Zk 0 1 [7] (de (aE 22 (ZO 17 22 [0,1,2,3,4] [4,0] ?_)))))))
    obtain ⟨x3,YP⟩:=Zr x1.kids j om
    have hkb:=YP
    have hks:=Us YP
    have hwk:=IS hws YP
    have hpk:=Z5.pz_le x3
    refine dx 5 (Zg none (j:Int) 2 (U2 YP)) (Zk 13 16 [6,7,8] (dn 9 (.i (((ZX n.decls x2).length:Nat):Int)) (.i (((Z7 (ZX n.decls x2)).length:Nat):Int)) (li (by rw [Yi])) (da 10 (((q+((ZX n.decls x2).length):Nat):Int)) (((q:Int))+((((ZX n.decls x2).length:Nat):Int))) (ZO 9 11 [12,13] [0] ?_))))
    obtain ⟨x4,VG⟩:=Zr x1.args 0 (by obtain ⟨⟨a,ha2,_⟩,_⟩:=E5 hws (by assumption);rw [ha2];simp)
    have hg1:=JR VG
    exact dx 14 (Zg none 0 1 (Y3 VG)) (Zk 5 8 [15,16,17] (Z8 11 (Yq 11 [] [0] [b5] (ih x3 (q+((ZX n.decls x2).length)) hwk ob ob) (Z8 18 (Yq 18 [] [] [] (Zar (WP n.decls (q+((ZX n.decls x2).length)) x3) x4 (ZX n.decls x2) q (ha:=(by rw [FQ];exact Zaa ((Ku _).1 hwk))) (hz:=(V9 (FT Xy _ hwk) om))) (Z8 19 (dL 19 [] [] [ZI (Ky (WP n.decls (q+((ZX n.decls x2).length)) x3) x4 (ZX n.decls x2) q)] 1 2 fun v4=>Yr 2 2 [] [(72,.sl [ZI (Ky (WP n.decls (q+((ZX n.decls x2).length)) x3) x4 (ZX n.decls x2) q)] none)] (Z8 20 (dp 20 6 [] [] (YE (ks++[Ky (WP n.decls (q+((ZX n.decls x2).length)) x3) x4 (ZX n.decls x2) q])) (YE ks) [ZI (Ky (WP n.decls (q+((ZX n.decls x2).length)) x3) x4 (ZX n.decls x2) q)] u none 2 (Th _) (Ty rfl) rfl (by simp<;>omega) (by simp [J6,UC]) fun v5=>Zk 0 1 [21] (de (az (Z2 1 (ZG j (Z0 (ZH ⟨j+1,v5,(ks++[Ky (WP n.decls (q+((ZX n.decls x2).length)) x3) x4 (ZX n.decls x2) q]),ob,(by simp;omega),(by have h:=Pb hkb XI;rw [FU,Zj (by assumption),hfk,hg1] at h;exact h),rfl,rfl,rfl⟩ (wk [2,2,2,2,2,0,1,1] (fr (ZJ j fl))))))))))))))))))
   refine aE 12 (ZO 7 12 [0,1,2,3,4] [4,0] ?_)
   obtain ⟨x5,T8⟩:=Zr x1.kids j om
   have hkb:=T8
   have hks:=Us T8
   have hwk:=IS hws T8
   have hpk:=Z5.pz_le x5
   exact dx 5 (Zg none (j:Int) 2 (U2 T8)) (Zk 4 6 [6,7] (Z8 8 (Yq 8 [] [] [] (ih x5 q hwk ob ob) (Z8 9 (dL 9 [] [] [ZI (WP n.decls q x5)] 1 2 fun v6=>Yr 2 2 [] [(83,.sl [ZI (WP n.decls q x5)] none)] (Z8 10 (dp 10 6 [] [] (YE (ks++[WP n.decls q x5])) (YE ks) [ZI (WP n.decls q x5)] u none 2 (Th _) (Ty rfl) rfl (by simp<;>omega) (by simp [J6,UC]) fun v7=>Zk 0 1 [11] (de (az (Z2 1 (ZG j (Z0 (ZH ⟨j+1,v7,(ks++[WP n.decls q x5]),ob,(by simp;omega),(by have h:=Pb hkb XI;rw [FU,Z9 (by assumption)] at h;exact h),rfl,rfl,rfl⟩ (wk [2,2,2,2,2,0,1,1] (fr (ZJ j fl))))))))))))))))
  have hK:=Za8 om XI
  refine ax 2 (aD 17 (ZO 6 17 [0,1,2,3,4,5,6,7,8,9,11] [1,0,0,0,0] (Z8 10 (dc 10 [] [0,0,0,1] [b5,b5,b5,b4] (VK x1.args) ?_))))
  rintro _ _ ⟨v8,rfl,rfl⟩
  refine Yr 4 5 [12] [(97,.agg [.i x1.op,.i x1.num,.i x1.into,Z6 x1.args,Xq ks])] (Z8 13 (dL 13 [1] [b4] [YC (Z4.mk x1.op x1.num x1.into x1.args ks)] 1 5 fun v9=>Yr 3 3 [] [(98,.sl [YC (Z4.mk x1.op x1.num x1.into x1.args ks)] none)] (Z8 14 (dp 14 8 [] [] (Zv (xs++[Z4.mk x1.op x1.num x1.into x1.args ks])) (Zv xs) [YC (Z4.mk x1.op x1.num x1.into x1.args ks)] v none 5 (Xc _) (Ty rfl) rfl (by simp<;>omega) (by simp [WC,Vc]) fun v10=>?_))))
  refine Zk 1 2 [15] (Z8 16 (YM 16 4 [] [] b4 [YS (xs++[Z4.mk x1.op x1.num x1.into x1.args ks]) v10,.i b.result] (de (Zu 2 [4] (Zy [] (Kn x1.op) (ie (At (fun fz gz F h=>F=sF [3,4,6,7,8] fz [(2,.i (((if Yo x1.op=true then q else q+1):Nat):Int))]/\h=[Zh gz 0,Zh gz 5,Zh gz 6,Zh gz 7,Zh gz 1]) (fun _ _=>rfl) ?_ ?_)))))))
  ·refine ac (XT x1.op) Iff.rfl (fun Yl=>?_) (fun Yl=>?_)
   ·exact az (Z2 1 (ZG q (Z0 (ZT ⟨rfl,rfl⟩ (wk [0,4,4,4,0] (fc (x:=.i (q+1:Nat)) (li (by rw [Z9 (fun z=>by rw [hdf,z] at Yl;cases Yl)])) fl))))))
   exact ak (ZT ⟨rfl,rfl⟩ (wk [0,4,4,4,0] (fc (x:=.i q) (li (by rw [Zj (Gc fun z=>Yl (by rw [hdf,To.2 z];rfl))])) fl)))
  rintro F h ⟨rfl,rfl⟩
  exact az (Z2 1 (ZG k (Z0 (ZH ⟨k+1,(if Yo x1.op=true then q else q+1),(xs++[Z4.mk x1.op x1.num x1.into x1.args ks]),v10,ob,(by split<;>omega),(by simp;omega),(by have h:=Zac Z3 YN;rw [<-hK] at h;exact h),rfl,rfl,rfl⟩ (ZM 5 (fr (ZJ k fl)))))))
 exact ax 0 (Zu 1 [0] (Zz 1 b3 [YS xs v,.i b.result] (ie (ZD (r3 [] [.agg [YS xs v,.i b.result]] [0] [(b3,b3)] ⟨rfl,rfl⟩ (Zc.agg (.cons (Zc.sl _ (Yp Zv (by rw [FQ];exact Zab om YN))) (.cons (li (by rw [FQ];rfl)) .nil))))))))
theorem Zb3 (n:Zq) (hn:Xe n) (k:Nat):∀(b2:Z5) (m2:Nat),(wB n.decls b2)->(m2+9*b2.sz<=900000000)->(b2.sz<k)->Zi 151 [Yk n,ZI b2,.i m2] [] (Yg (ZI (WP n.decls m2 b2))):=by
 induction k with
 | zero=>intro b mm _ _ h;omega
 | succ k ih=>intro b mm h1 h2 h3;exact Zb5 n b mm hn h1 h2 fun b2 m2 k1 k2 k3=>ih b2 m2 k1 k2 om
theorem Zb4 (n:Zq) (b:Z5) (mm:Nat) (hn:Xe n:=by exact ob) (hw:wB n.decls b:=by exact ob) (hb:mm+9*b.sz<=900000000:=by exact ob):Zi 151 [Yk n,ZI b,.i mm] [] (Yg (ZI (WP n.decls mm b))):=Zb3 n hn (b.sz+1) b mm hw hb om
theorem Iz (b:Z5) (hz:b.sz<=1000000000:=by exact ob):Zi 254 [ZI b] [] (Yg (.i (((YT b.steps):Nat):Int))):=by
 have hbz:=V7 b
 refine ZF 21 Tryz.func254 (ar (iA (X3 b) fun b1=>?_))
 refine Z0 (ZP (aq (ab 0 (Y0 (fun fz gz m F h=>∃(k:Nat),(k<=b.steps.length)/\(k+YT (b.steps.drop k)=YT b.steps)/\F=sF [1] fz [(3,.i k)]/\h=gz/\m=b.steps.length-k) _ _ _ ⟨0,ob,(by simp),rfl,rfl,rfl⟩ (wk [0] (Y5 fl)) ?_))))
 rintro m F h ⟨k,Yb,Zl,rfl,rfl,rfl⟩
 refine Yf 3 [0] (iw (V3 b.steps) (Z2 2 (ib (b:=(decide ((k:Int)<(b.steps.length:Int)))) 9 (fun Zd=>?_) (fun Zd=>?_))))
 ·have Y4:(k:Int)<(b.steps.length:Int):=(dq).1 Zd
  refine ZL 3 [0] ?_
  obtain ⟨x1,Z3⟩:=Zr b.steps k om
  refine Zm (Zg none (k:Int) 5 (Wc Z3)) (Z2 2 (Zy [] (Iy x1.op) (YG (Yo x1.op) Iff.rfl (fun Za=>?_) (fun Za=>?_))))
  ·exact ak (ab 1 (az (Z2 1 (ZG k (Z0 (ZH ⟨k+1,ob,(Z5z Z3 Za Zl),rfl,rfl,rfl⟩ (wk [0] (ZJ k fl))))))))
  exact ax 0 (ar (Zt (ZU (.i k) (li (by have:=Z60 Z3 Za Zl;omega)))))
 have Ym:¬((k:Int)<(b.steps.length:Int)):=Yd dq Zd
 exact Z0 (WT (ax 0 (ar (Zt (ZU (.i k) (li (by have:=Z5y om Zl;omega)))))))
theorem Pr (b:Z5) (mm:Nat) (op:Int) (x:Int) (hm:mm<=b.steps.length:=by exact ob) (ha:∀s∈b.steps.take mm,s.op=op->∃a,s.args=[a]) (hz:b.sz<=1000000000:=by exact ob):Zi 255 [ZI b,.i mm,.i op,.i x] [] (Yg (.i (W0 op x (b.steps.take mm) 0))):=by
 have hbz:=V7 b
 refine ZF 36 Tryz.func255 (ar (iA (X3 b) fun b1=>?_))
 refine Z0 (Y7 (ab 0 (Y0 (fun fz gz m F h=>∃(k:Nat),(k<=mm)/\(W0 op x ((b.steps.take mm).drop k) k=W0 op x (b.steps.take mm) 0)/\F=sF [1,2,3,4] fz [(9,.i k)]/\h=gz/\m=mm-k) _ _ _ ⟨0,ob,(by simp),rfl,rfl,rfl⟩ (wk [0] (Y5 fl)) ?_)))
 rintro m F h ⟨k,Yb,Zl,rfl,rfl,rfl⟩
 refine X4 (ZZ ((k:Int)<(mm:Int)) (fun Za=>?_) (fun Za=>?_))
 ·refine ak (aq (ab 1 (Zu 3 [0] ?_)))
  obtain ⟨x1,Z3⟩:=Zr b.steps k om
  have hxt:(b.steps.take mm)[k]? = some x1:=by rw [List.getElem?_take_of_lt om];exact Z3
  have hxm:=Y1 hxt
  refine Zm (Zg none (k:Int) 5 (Wc Z3)) (Z2 5 (ib (b:=(x1.op==op)) 23 (fun Zd=>?_) (fun Zd=>?_)))
  ·have Y4:x1.op=op:=(Zs).1 Zd
   refine ZL 3 [0] (Zm (Zg none (k:Int) 5 (Wc Z3)) (Z2 2 ?_))
   obtain ⟨x2,Zo⟩:=Zr x1.args 0 (by obtain ⟨a,ha2⟩:=ha x1 hxm (by assumption);rw [ha2];simp)
   have hg0:=JR Zo
   refine Zm (Zg none 0 1 (Y3 Zo)) (YG (x2==x) Zs (fun Zf=>?_) (fun Zf=>?_))
   ·exact ar (Zt (ZU (.i k) (li (by have h:=RT hxt ⟨by assumption,by rw [hg0];assumption⟩ Zl;omega))))
   exact ak (az (Z2 1 (ZG k (Z0 (ZH ⟨k+1,ob,(Lj hxt (fun z=>Zf (by rw [<-hg0];exact z.2)) Zl),rfl,rfl,rfl⟩ (wk [0] (ZJ k fl)))))))
  have Ym:¬(x1.op=op):=Yd Zs Zd
  exact Z0 (WT (ak (az (Z2 1 (ZG k (Z0 (ZH ⟨k+1,ob,(Lj hxt (fun z=>absurd z.1 (by assumption)) Zl),rfl,rfl,rfl⟩ (wk [0] (ZJ k fl)))))))))
 exact ax 0 (ar (Zt (ZU (.i (-1)) (li (by have h:=RS (by rw [Wr];omega) Zl;omega)))))
theorem Zaj (b:Z5) (frm0:Nat) (many:Nat) (hm:frm0<=b.steps.length:=by exact ob) (hz:b.sz<=1000000000:=by exact ob):Zi 285 [ZI b,.i frm0,.i many] [] (Yg (.i (Wk many (b.steps.drop frm0) frm0))):=by
 have hbz:=V7 b
 refine ZF 44 Tryz.func285 (ar (iA (X3 b) fun b1=>?_))
 refine Z0 (Y7 (ab 0 (Y0 (fun fz gz m F h=>∃(k:Nat),(k<=b.steps.length)/\(Wk many (b.steps.drop k) k=Wk many (b.steps.drop frm0) frm0)/\F=sF [2,3] fz [(7,.i k)]/\h=gz/\m=b.steps.length-k) _ _ _ ⟨frm0,ob,rfl,rfl,rfl,rfl⟩ (wk [0] fl) ?_)))
 rintro m F h ⟨k,Yb,Zl,rfl,rfl,rfl⟩
 refine Yf 3 [0] (iw (V3 b.steps) (ZZ ((k:Int)<(b.steps.length:Int)) (fun Za=>?_) (fun Za=>?_)))
 ·refine ak (aq (ab 1 (Zu 3 [0] ?_)))
  obtain ⟨x1,Z3⟩:=Zr b.steps k om
  refine Zm (Zg none (k:Int) 5 (Wc Z3)) (XG 16 [2,3,7] [(31,.b ((x1.op==6)&&(x1.into==0)))] (fun gz=>gz) ?_ (fun hj1=>?_))
  ·refine Xi [2,3,7] [(42,.b (((x1.op==6)&&(x1.into==0))&&((x1.args.length:Int)==(many:Int))))] (fun gz=>gz) ?_ ?_
   ·refine Z2 1 (ib (b:=((x1.op==6)&&(x1.into==0))) 32 (fun Zd=>?_) (fun Zd=>?_))
    ·exact ZL 3 [0] (Zm (Zg none (k:Int) 5 (Wc Z3)) (Z2 2 (iw (Yi x1.args) (Z0 (wk [0] (Zp ((x1.args.length:Int)==(many:Int)) Zd fl))))))
    exact Z0 (wk [0] (Zp false Zd fl))
   refine ac (((x1.op==6)&&(x1.into==0))&&((x1.args.length:Int)==(many:Int))) (p:=((x1.op=6)/\(x1.into=0))/\((x1.args.length:Int)=(many:Int))) (YK (YK Zs Zs) Zs) (fun Zf=>?_) (fun Zf=>?_)
   ·exact ar (Zt (ZU (.i k) (li (by have h:=Sk Z3 (show QN many x1 from ⟨Zf.1,by omega⟩) Zl;omega))))
   exact ak (az (Z2 1 (ZG k (Z0 (ZH ⟨k+1,ob,(Sj Z3 (fun z=>Zf ⟨z.1,by have:=z.2;omega⟩) Zl),rfl,rfl,rfl⟩ (wk [0] (ZJ k fl)))))))
  refine Z2 4 (ib (b:=(x1.op==6)) 23 (fun ZC=>?_) (fun ZC=>?_))
  ·exact ZL 3 [0] (Zm (Zg none (k:Int) 5 (Wc Z3)) (Z2 4 (Yv (wk [0] (Zp (x1.into==0) ZC fl)) hj1)))
  exact Z2 8 (Yv (wk [0] (Zp false ZC fl)) hj1)
 exact ax 0 (ar (Zt (ZU (.i (-1)) (li (by have h:=Si om Zl;omega)))))
theorem Sw (b:Z5) (hz:b.sz<=1000000000):Zi 97 [ZI b] [] (fun r h=>∃(v:Hd),r=.agg [.h v,.i b.result]/\h=[rK v 5 (Zb (Zv b.steps))]):=by
 have hbz:=V7 b
 refine ZF 28 Tryz.func97 (ar (iA (X3 b) fun b1=>iA [nl,.i 0] fun b2=>ie (ar (Cj 5 fun g1=>ZL 3 [2] (iA [nl,.i 0] fun b3=>?_)))))
 refine Zz 0 b3 [.ms g1 0 0 0,.i b.result] (ie (Y7 (ab 0 (Y0 (fun fz gz m F h=>∃(k:Nat) (v:Hd),(k<=b.steps.length)/\F=sF [1,2,3] fz [(4,.i k)]/\h=[.obj b3 [.h v,.i b.result],Zh gz 2,Zh gz 3,rK v 5 (Zb (Zv (b.steps.take k)))]/\m=b.steps.length-k) _ _ _ ⟨0,(⟨some ⟨g1,0,none⟩,0,0⟩:Hd),ob,rfl,rfl,rfl⟩ (wk [0,1,1,0] (Y5 fl) (e:=(rc (rc (rc (rr (ls:=[]) ob rz)))))) ?_))))
 rintro m F h ⟨k,v,Yb,rfl,rfl,rfl⟩
 refine Yf 3 [2] (iw (V3 b.steps) (ZZ ((k:Int)<(b.steps.length:Int)) (fun Za=>?_) (fun Za=>?_)))
 ·refine ak (aq (ab 1 (aE 12 (ZO 7 12 [0,1,2,3,4] [0,2] ?_))))
  obtain ⟨x1,Z3⟩:=Zr b.steps k om
  have hss:=Qf Z3
  exact dx 5 (Zg none (k:Int) 5 (Wc Z3)) (Zk 5 6 [6] (Z8 7 (Yq 7 [] [0] [b3] (Pm x1) (Z8 8 (dL 8 [0] [b3] [YC x1] 1 5 fun v1=>Yr 3 3 [] [(24,.sl [YC x1] none)] (Z8 9 (Et 9 4 k [] [] v 5 (Zb (Zv (b.steps.take k))) [YC x1] none (by rw [Qr,Wr,Vn om]) (Ty rfl) rfl (List.cons_ne_nil _ _) (by simp<;>omega) fun v2=>Zk 1 2 [10] (Z8 11 (YM 11 2 [] [] b3 [.h v2,.i b.result] (de (az (Z2 1 (ZG k (Z0 (ZH ⟨k+1,v2,ob,rfl,rfl,rfl⟩ (wk [0,2,2,0] (ZJ k fl) (e:=(rc (rc (rc (rr (ls:=Zb (Zv (b.steps.take k))++Zb [YC x1]) (Mj Z3) rz)))))))))))))))))))))
 exact ax 0 (Zu 1 [0] (Zz 1 b2 [.h v,.i b.result] (ie (ZD (r3 [3] [.agg [.h v,.i b.result]] [0] [(b2,b2)] ⟨v,rfl,rfl⟩ (lr _) (eq:=(rr (ls:=Zb (Zv (b.steps.take k))) (by rw [Wx om]) rz)))))))
theorem Sv (b:Z5) (hz:b.sz<=1000000000:=by exact ob) (h0:0<b.steps.length:=by exact ob):Zi 97 [ZI b] [] (fun r h=>∃(g:Nat) (c:Nat),r=.agg [.ms g 0 b.steps.length c,.i b.result]/\h=[.row (.slice (some ⟨g,0,none⟩) b.steps.length c) 5 (Zb (Zv b.steps))]):=(Sw b hz).form (T:=fun v=>.agg [.h v,.i b.result]) (m:=b.steps.length) (Qr _) om h0
theorem Zav (ds:List Ze) (b:Z5) (x:Int) (many:Nat) (hw:wB ds b:=by exact ob) (hx:0<=x/\x<=900000000:=by exact ob) (hz:b.sz<=1000000000:=by exact ob):Zi 253 [ZI b,.i x,.i many] [] (Yg (ZI (VJ b x many))):=by
 have hbz:=V7 b
 have ZE:=(Ku b).1 hw
 have hrl:=Dx b.steps
 refine ZF 57 Tryz.func253 (ar (iA (X3 b) fun b1=>iA [nl,.i 0] fun b2=>ie (aD 6 (ZO 3 6 [0,1,3] [1,1] (Z8 2 (Yq 2 [] [1] [b1] (Iz b) (Z8 4 (Yq 4 [] [] [] (Pr b (YT b.steps) 16 x (ha:=(fun s hs h16=>IY (Gj ZE s (TZ hs) (by rw [h16];rfl))))) (Zk 0 1 [5] (de (aD 6 (ZO 3 6 [0,1,3] [1,1] (Z8 2 (Yq 2 [] [1] [b1] (Iz b) (Z8 4 (Yq 4 [] [] [] (Zaj b (YT b.steps) many) (Zk 0 1 [5] (de (X4 (Xi [1,3,6,7,8] [(26,.b ((decide ((W0 16 x (b.steps.take (YT b.steps)) 0)<0))||(decide ((Wk many (b.steps.drop (YT b.steps)) (YT b.steps))<0))))] (fun gz=>gz) ?_ ?_))))))))))))))))))))
 ·refine Z2 3 (ib (b:=(decide ((W0 16 x (b.steps.take (YT b.steps)) 0)<0))) 23 (fun Zd=>?_) (fun Zd=>?_))
  ·exact Z0 (wk [0,0] (Zp true Zd fl))
  exact Z0 (wk [0,0] (Zp (decide ((Wk many (b.steps.drop (YT b.steps)) (YT b.steps))<0)) Zd fl))
 refine ac ((decide ((W0 16 x (b.steps.take (YT b.steps)) 0)<0))||(decide ((Wk many (b.steps.drop (YT b.steps)) (YT b.steps))<0))) (p:=((W0 16 x (b.steps.take (YT b.steps)) 0)<0)∨((Wk many (b.steps.drop (YT b.steps)) (YT b.steps))<0)) (Yh dq dq) (fun Za=>?_) (fun Za=>?_)
 ·exact Zu 1 [1] (Zz 0 b2 (X3 b) (ie (ZD (r3 [] [ZI b] [0] [(b2,b2)] ⟨rfl,rfl⟩ (Zc.agg (.cons (Zc.sl _ (Yp Zv (Z8j Za).symm)) (.cons li .nil)))))))
 obtain ⟨o1,o2,so,o3,o4⟩:=DH (xs:=b.steps) (x:=x) (fun z=>Za (.inl z))
 obtain ⟨p1,p2,sc,p3,p4,p5⟩:=JE (xs:=b.steps) (many:=many) (fun z=>Za (.inr z))
 rw [show Vf b.steps x=(W0 16 x (b.steps.take (YT b.steps)) 0) from rfl] at o1 o2
 rw [show Wy b.steps many=(Wk many (b.steps.drop (YT b.steps)) (YT b.steps)) from rfl] at p1 p2
 refine ak (Zu 1 [1] (ic [] (Sv b) ?_))
 rintro _ _ ⟨g1,c1,rfl,rfl⟩
 exact iA [nl,.i 0] fun b3=>Zz 0 b3 [.ms g1 0 b.steps.length c1,.i b.result] (ie (aD 7 (ZO 3 7 [0,1,2,3] [0] (Z8 4 (Yq 4 [] [0] [b3] (Jq 17 x) (dx 5 (XV g1 b.steps.length c1 ((W0 16 x (b.steps.take (YT b.steps)) 0).toNat) 5 (W0 16 x (b.steps.take (YT b.steps)) 0)) (Z8 6 (Au 6 1 [] [] g1 b.steps.length c1 5 (((W0 16 x (b.steps.take (YT b.steps)) 0).toNat)*5) (Xm (Zx 17 x)) (Zb (Zv b.steps)) (Zb (Zv (b.steps.set (W0 16 x (b.steps.take (YT b.steps)) 0).toNat (Zx 17 x)))) (by have:(Xm (Zx 17 x)).length=5:=rfl;rw [Qr];omega) (EJ o3) (de (Zu 3 [1] (Zm (XV g1 b.steps.length c1 ((Wk many (b.steps.drop (YT b.steps)) (YT b.steps)).toNat) 5 (Wk many (b.steps.drop (YT b.steps)) (YT b.steps))) (VU (WX 0 g1 b.steps.length c1 5 (((Wk many (b.steps.drop (YT b.steps)) (YT b.steps)).toNat)*5) (Zb (Zv (b.steps.set (W0 16 x (b.steps.take (YT b.steps)) 0).toNat (Zx 17 x)))) (Xm sc) 52 (YC sc) (He (Fz Za p3))) (iA [.i 0,.i 0,.i 0,nl,nl] fun b4=>Zz 0 b4 (Xm sc) (ie (Zu 8 [2,0,0] (ia ((1+x)) ((1)+(x)) (ZL 5 [0,0] (Zm (XV g1 b.steps.length c1 ((Wk many (b.steps.drop (YT b.steps)) (YT b.steps)).toNat) 5 (Wk many (b.steps.drop (YT b.steps)) (YT b.steps))) (Bs 1 g1 b.steps.length c1 5 (((Wk many (b.steps.drop (YT b.steps)) (YT b.steps)).toNat)*5) [.i sc.op,.i sc.num,.i (1+x),Z6 sc.args,Xq sc.kids] (Zb (Zv (b.steps.set (W0 16 x (b.steps.take (YT b.steps)) 0).toNat (Zx 17 x)))) (Zb (Zv ((b.steps.set (W0 16 x (b.steps.take (YT b.steps)) 0).toNat (Zx 17 x)).set (Wk many (b.steps.drop (YT b.steps)) (YT b.steps)).toNat (Q7 (1+x) sc)))) (by rw [Qr,Tp];simp only [YV,Xn];omega) (EJ (t:=Q7 (1+x) sc) (Fz Za p3)) (XN (T0 0 1 0 (.slice (some ⟨g1,0,none⟩) b.steps.length c1) 5 b3 (Zv ((b.steps.set (W0 16 x (b.steps.take (YT b.steps)) 0).toNat (Zx 17 x)).set (Wk many (b.steps.drop (YT b.steps)) (YT b.steps)).toNat (Q7 (1+x) sc))) [.ms g1 0 b.steps.length c1,.i b.result] (Xc _) rfl) (ie (Zu 1 [0] (Zz 3 b2 [YS ((b.steps.set (W0 16 x (b.steps.take (YT b.steps)) 0).toNat (Zx 17 x)).set (Wk many (b.steps.drop (YT b.steps)) (YT b.steps)).toNat (Q7 (1+x) sc)) (.slice (some ⟨g1,0,none⟩) b.steps.length c1),.i b.result] (ie (ZD (r3 [] [.agg [YS ((b.steps.set (W0 16 x (b.steps.take (YT b.steps)) 0).toNat (Zx 17 x)).set (Wk many (b.steps.drop (YT b.steps)) (YT b.steps)).toNat (Q7 (1+x) sc)) (.slice (some ⟨g1,0,none⟩) b.steps.length c1),.i b.result]] [0] [(b2,b2)] ⟨rfl,rfl⟩ (Zc.agg (.cons (Zc.sl _ (Yp Zv (Z8k Za p5))) (.cons li .nil)))))))))))))))))))))))))))))
theorem Zao (xs:LI) (y:Int) (hl:xs.length<=1000000000:=by exact ob):Zi 256 [Z6 xs,.i y] [] (fun r h=>∃(ys:LI),r=Z6 ys/\h=[]/\(ys.length<=xs.length+1/\∀z,z∈ys↔z∈xs∨z=y)):=by
 refine ZF 49 Tryz.func256 (ZP (ar (iL (Z7 []) 0 1 fun v1=>?_)))
 refine Z0 (ZP (Y7 (ab 0 (Y0 (fun fz gz m F h=>∃(k:Nat) (acc:LI) (d:Bool) (v:Value),(k<=xs.length)/\(K6 xs y k acc d)/\F=sF [0,1] fz [(5,ZY acc v),(6,.b d),(7,.i k)]/\h=[.tail v 1]/\m=xs.length-k) _ _ _ ⟨0,[],false,v1,ob,(K6.zero xs y),rfl,rfl,rfl⟩ (wk [0] (fw (Y5 fl))) ?_))))
 rintro m F h ⟨k,acc,d,v,Yb,Zl,rfl,rfl,rfl⟩
 refine YO 2 (iw (Yi xs) (ZZ ((k:Int)<(xs.length:Int)) (fun Za=>?_) (fun Za=>?_)))
 ·obtain ⟨x1,Z3⟩:=Zr xs k om
  have hil:acc.length<=k+1:=V9 Zl.len (by split<;>omega)
  refine ak (aq (ab 1 (X4 (Xi [0,1,5,6,7] [(24,.b ((!d)&&(decide (x1>=y))))] (fun gz=>gz) ?_ ?_))))
  ·refine Z2 3 (ib (b:=(!d)) 17 (fun Zd=>?_) (fun Zd=>?_))
   ·exact Z2 2 (Zm (Zg none (k:Int) 1 (Y3 Z3)) (Z0 (wk [0] (Zp (decide (x1>=y)) Zd fl))))
   exact Z0 (wk [0] (Zp false Zd fl))
  refine XP (fun fz gz F h=>∃(acc2:LI) (d2:Bool) (w:Value),((acc2=acc/\d2=d)∨(acc2=acc++[y]/\d2=true/\¬d=true)∨(acc2=acc/\d2=true/\x1=y))/\(acc2.length<=acc.length+1)/\F=sF [0,1,7] fz [(5,ZY acc2 w),(6,.b d2)]/\h=[.tail w 1]) ?_ ?_
  ·refine ac ((!d)&&(decide (x1>=y))) (p:=(¬(d=true))/\(x1>=y)) (YK (Yn Iff.rfl) dq) (fun Zf=>?_) (fun Zf=>?_)
   ·refine YO 2 (Zm (Zg none (k:Int) 1 (Y3 Z3)) (Z0 (XP (fun fz gz F h=>∃(w3:Value),F=sF [0,1,7] fz [(5,ZY (if x1>y then (acc++[y]) else acc) w3)]/\h=[.tail w3 1]) ?_ ?_)))
    ·refine We (x1>y) (fun ZA=>?_) (fun ZA=>?_)
     ·exact az (Z2 2 (iL (Z7 [y]) 1 1 fun v2=>ZQ 0 [(33,Z6 [y])] (ip 1 (Z7 (acc++[y])) (Z7 acc) (Z7 [y]) v none 1 (YD _) (YD _) (W5 _) (by simp<;>omega) (by simp [W4,Z7]) fun v3=>Z0 (ZT ⟨v3,rfl,rfl⟩ (wk [0] (fc (x:=ZY (acc++[y]) v3) (Zc.slh _ (Yp Z7 (by first|rfl|(rw [Zj ZA])|(rw [Z9 ZA])|(simp [ZA];done)|(rw [Xr];simp [ZA];done)|omega))) fl))))))
     exact ak (ZT ⟨v,rfl,rfl⟩ (wk [0] (fc (x:=ZY acc v) (Zc.slh _ (Yp Z7 (by first|rfl|(rw [Zj ZA])|(rw [Z9 ZA])|(simp [ZA];done)|(rw [Xr];simp [ZA];done)|omega))) fl)))
    rintro F h ⟨w3,rfl,rfl⟩
    exact T6 (ZT ⟨(if x1>y then (acc++[y]) else acc),true,w3,(if h:x1>y then (by rw [Zj h];exact .inr (.inl ⟨rfl,rfl,Zf.1⟩)) else (by rw [Z9 h];exact .inr (.inr ⟨rfl,rfl,by have:=Zf.2;omega⟩))),(by split<;>simp),rfl,rfl⟩ (wk [0] fl))
   exact ak (ZT ⟨acc,d,v,(.inl ⟨rfl,rfl⟩),ob,rfl,rfl⟩ (wk [0] fl))
  rintro F h ⟨acc2,d2,w,VH,A0,rfl,rfl⟩
  exact az (Z2 3 (Zm (Zg none (k:Int) 1 (Y3 Z3)) (Z2 1 (iL (Z7 [x1]) 1 1 fun v4=>ZQ 0 [(40,Z6 [x1])] (ip 1 (Z7 (acc2++[x1])) (Z7 acc2) (Z7 [x1]) w none 1 (YD _) (YD _) (W5 _) (by simp<;>omega) (by simp [W4,Z7]) fun v5=>Z0 (az (Z2 1 (ZG k (Z0 (ZH ⟨k+1,(acc2++[x1]),d2,v5,ob,(Zl.go Z3 VH),rfl,rfl,rfl⟩ (wk [0] (fw (ZJ k fl)))))))))))))
 have hil:acc.length<=k+1:=V9 Zl.len (by split<;>omega)
 refine ax 0 (Y7 (XP (fun fz gz F h=>∃(w4:Value),F=sF [] fz [(5,ZY (if d=true then acc else (acc++[y])) w4)]/\h=[.tail w4 1]) ?_ ?_))
 ·refine ac (!d) (p:=¬(d=true)) (Yn Iff.rfl) (fun Yl=>?_) (fun Yl=>?_)
  ·exact az (Z2 2 (iL (Z7 [y]) 1 1 fun v6=>ZQ 0 [(46,Z6 [y])] (ip 1 (Z7 (acc++[y])) (Z7 acc) (Z7 [y]) v none 1 (YD _) (YD _) (W5 _) (by simp<;>omega) (by simp [W4,Z7]) fun v7=>Z0 (ZT ⟨v7,rfl,rfl⟩ (wk [0] (fc (x:=ZY (acc++[y]) v7) (Zc.slh _ (Yp Z7 (by first|rfl|(rw [Zj Yl])|(rw [Z9 Yl])|(simp [Yl];done)|(rw [Xr];simp [Yl];done)|omega))) fl))))))
  exact ak (ZT ⟨v,rfl,rfl⟩ (wk [0] (fc (x:=ZY acc v) (Zc.slh _ (Yp Z7 (by first|rfl|(rw [Zj Yl])|(rw [Z9 Yl])|(simp [Yl];done)|(rw [Xr];simp [Yl];done)|omega))) fl)))
 rintro F h ⟨w4,rfl,rfl⟩
 exact ar (Zt (r2 [] [ZY (if d=true then acc else (acc++[y])) w4] ⟨(if d=true then acc else (acc++[y])),rfl,rfl,(if hd:d=true then (by rw [Zj hd];exact (Zl.fin om).1 hd) else (by rw [Z9 hd];exact (Zl.fin om).2 hd))⟩ (Zc.forget _ _)))
theorem Zay (n:Zq) (s:Z4) (j:Nat) (kept:LI) (kd:Z5) (hn:Xe n) (hws:wS n.decls s) (hkd:s.kids[j]? = some kd) (hnk:Qy kd) (hK:kept.length+s.sz<=900000000) (ih:∀(b2:Z5) (K2:LI),(wB n.decls b2)->(AK b2)->(K2.length+b2.sz<=900000000)->(b2.sz<s.sz)->Zi 152 [Yk n,ZI b2,Z6 K2] [] (Yg (ZI (Wq n.decls K2 b2)))):Zi 199 [Yk n,YC s,.i j,Z6 kept] [] (Yg (ZI (TD n.decls kept s.op s.num s.args j kd))):=by
 have Xy:=hn.decls
 have hks:=Us hkd
 have hwk:=IS hws hkd
 have haz:=TJ s
 have hjl:=(XS.1 hkd).1
 refine ZF 65 Tryz.func199 (ar (iA (YJ n) fun b1=>iA (Xm s) fun b2=>iA [nl,.i 0] fun b3=>ie (X4 (VY [1] (ac (s.op != 8) Y6 (fun Za=>?_) (fun Za=>?_))))))
 ·refine aD 9 (ZO 5 9 [0,1,2,3] [2,1] (dx 4 (Zg none (j:Int) 2 (U2 hkd)) (Zk 2 4 [5,6] (Z8 7 (Yq 7 [] [] [] (ih kd kept (by first|exact hwk|exact A0) (by first|exact Bx hnk|exact HG) ob ob) (Z8 8 (YM 8 0 [] [] b3 (X3 (Wq n.decls kept kd)) (de ?_))))))))
  have hE:=OO (ds:=n.decls) (kept:=kept) (op:=s.op) (num:=s.num) (args:=s.args) (j:=j) (kd:=kd) (fun z=>Za z.1)
  exact ZD (r3 [] [ZI (Wq n.decls kept kd)] [0] [(b3,b3)] ⟨rfl,rfl⟩ (Zc.agg (.cons (Zc.sl _ (Yp Zv (by rw [hE]))) (.cons (li (by rw [hE])) .nil))))
 refine ak (Zu 2 [1] ?_)
 obtain ⟨x1,Z3⟩:=Zr s.args 0 (by obtain ⟨⟨a,ha2,_⟩,_⟩:=E5 hws om;rw [ha2];simp)
 have hg1:=JR Z3
 have hxb:0<=x1/\x1<=900000000:=by obtain ⟨⟨a,ha2,ha3⟩,_⟩:=E5 hws om;rw [ha2] at hg1;have:a=x1:=hg1;omega
 refine Zm (Zg none 0 1 (Y3 Z3)) (Z0 (Zu 3 [1] (Zm (Zg none (j:Int) 2 (U2 hkd)) (Z2 1 (iA [nl,.i 0] fun b4=>?_)))))
 refine Zz 0 b4 (X3 kd) (ie (YO 2 (Zy [] (Uw kept x1) (Z0 (XP (fun fz gz F h=>∃(B2:Z5) (K2:LI),(Wq n.decls K2 B2=TD n.decls kept s.op s.num s.args j kd)/\(wB n.decls B2)/\(AK B2)/\(B2.sz<=kd.sz)/\(K2.length<=kept.length+1)/\F=sF [4,8,10] fz [(3,Z6 K2)]/\h=[.obj b4 (X3 B2),Zh gz 1,Zh gz 3]) ?_ ?_)))))
 ·refine ac (!(decide (x1∈kept))) (p:=¬(x1∈kept)) (Yn dq) (fun Zf=>?_) (fun Zf=>?_)
  ·refine aD 16 (ZO 7 16 [0,1,2,3,4,5,6,7,9] [0,3,3,2] (Z8 8 (dc 8 [] [3,0] [b1,b4] (Jp n.decls s.num) ?_)))
   rintro _ _ ⟨v1,rfl,rfl⟩
   obtain ⟨x2,Zo⟩:=Zr (ZW n.decls s.num) j (by have h:=(E5 hws om).2;omega)
   have hfl:(UD n.decls s.num j).length=(ZX n.decls x2).length:=by rw [Mc (by rw [Kv,Zo];rfl)]
   have hcf:=VP Xy x2
   refine dx 10 (Zg (some v1) (j:Int) 1 (Y3 Zo)) (Zk 4 5 [11] (Z8 12 (Yq 12 [] [0] [b4] (QW n.decls x2) (dn 13 (.i (((ZX n.decls x2).length:Nat):Int)) (.i (((Z7 (ZX n.decls x2)).length:Nat):Int)) (li (by rw [Yi])) (Z8 14 (Yq 14 [] [] [] (Zav n.decls kd x1 ((ZX n.decls x2).length) (hw:=hwk) (hx:=hxb)) ?_))))))
   have hwr:=Zdd (x:=x1) (many:=(ZX n.decls x2).length) hwk
   have hsr:=Z8h (x:=x1) (many:=(ZX n.decls x2).length) hwk
   refine Z8 15 (YM 15 1 [] [] b4 (X3 (VJ kd x1 ((ZX n.decls x2).length))) (de (Zu 1 [0] (Zy [] (Iz (VJ kd x1 ((ZX n.decls x2).length))) (Z0 (Zu 3 [0] (Zy [] (Pr (VJ kd x1 ((ZX n.decls x2).length)) (YT (VJ kd x1 ((ZX n.decls x2).length)).steps) 17 x1 (hm:=(Dx _)) (ha:=(fun s2 hs2 h17=>IY (Gj ((Ku _).1 hwr) s2 (TZ hs2) (by rw [h17];rfl))))) (ZZ ((W0 17 x1 ((VJ kd x1 ((ZX n.decls x2).length)).steps.take (YT (VJ kd x1 ((ZX n.decls x2).length)).steps)) 0)>=0) (fun ZA=>?_) (fun ZA=>?_)))))))))
   ·refine az (Z2 2 (ic [] (Zao kept x1) ?_))
    rintro _ _ ⟨ys1,rfl,rfl,Y4⟩
    have hin:=Y4
    exact Z0 (ZT ⟨_,_,(Z98 om hg1 Zf hfl ((PO ((DB kd).1 hnk)).1 ZA) hin.2),hwr,(NM hnk),ob,hin.1,rfl,rfl⟩ (wk [0,1,2] (fc (x:=Z6 ys1) (Zc.sl _ (Yp Z7 (by first|rfl|(rw [Zj Zf])|(rw [Z9 Zf])|(simp [Zf,ZA,Y4];done)|(rw [Xr];simp [Zf,ZA,Y4];done)|omega))) fl)))
   exact ak (ZT ⟨_,_,(Z99 om hg1 Zf hfl (Gc fun z=>ZA ((PO ((DB kd).1 hnk)).2 z))),hwr,(NM hnk),ob,ob,rfl,rfl⟩ (wk [0,1,2] (fc (x:=Z6 kept) (Zc.sl _ (Yp Z7 (by first|rfl|(rw [Zj Zf])|(rw [Z9 Zf])|(simp [Zf,ZA];done)|(rw [Xr];simp [Zf,ZA];done)|omega))) fl)))
  exact ak (ZT ⟨_,_,(OO (fun z=>Zf (hg1▸z.2))),hwk,(Bx hnk),ob,ob,rfl,rfl⟩ (wk [0,0,1] (fc (x:=Z6 kept) (Zc.sl _ (Yp Z7 (by first|rfl|(rw [Zj Zf])|(rw [Z9 Zf])|(simp [Zf];done)|(rw [Xr];simp [Zf];done)|omega))) fl)))
 rintro F h ⟨B2,K2,VH,A0,HG,Ze0,Ze1,rfl,rfl⟩
 exact Zu 3 [2,0] (Zy [] (ih B2 K2 (by first|exact hwk|exact A0) (by first|exact Bx hnk|exact HG) ob ob) (Zz 1 b3 (X3 (Wq n.decls K2 B2)) (ie (ZD (r3 [] [ZI (Wq n.decls K2 B2)] [0] [(b3,b3)] ⟨rfl,rfl⟩ (Zc.agg (.cons (Zc.sl _ (Yp Zv (by rw [VH]))) (.cons (li (by rw [VH])) .nil))))))))
theorem Zax (n:Zq) (b:Z5) (kept:LI) (hn:Xe n) (hw:wB n.decls b) (hn2:AK b) (hK:kept.length+b.sz<=900000000) (ih:∀(s:Z4) (j:Nat) (kept:LI) (kd:Z5),(wS n.decls s)->(s.kids[j]? = some kd)->(Qy kd)->(kept.length+s.sz<=900000000)->(s.sz<b.sz)->Zi 199 [Yk n,YC s,.i j,Z6 kept] [] (Yg (ZI (TD n.decls kept s.op s.num s.args j kd)))):Zi 152 [Yk n,ZI b,Z6 kept] [] (Yg (ZI (Wq n.decls kept b))):=by
 have Xy:=hn.decls
 have hbz:=V7 b
 refine ZF 61 Tryz.func152 (ar (iA (YJ n) fun b1=>iA (X3 b) fun b2=>iA [nl,.i 0] fun b3=>ie (ar (iL (Zv []) 0 5 fun v1=>ZL 3 [2] (iA [nl,.i 0] fun b4=>?_)))))
 refine Zz 0 b4 [YS [] v1,.i b.result] (ie (Y7 (ab 0 (Y0 (fun fz gz m F h=>∃(k:Nat) (xs:List Z4) (v:Value),(k<=b.steps.length)/\(xs.length=k)/\(xs++Uu n.decls kept (b.steps.drop k)=Uu n.decls kept b.steps)/\F=sF [2,3,4,6,7] fz [(8,.i k)]/\h=[.obj b4 [YS xs v,.i b.result],Zh gz 2,Zh gz 3,Zh gz 4,.tail v 5]/\m=b.steps.length-k) _ _ _ ⟨0,[],v1,ob,ob,rfl,rfl,rfl,rfl⟩ (wk [0,1,1,1,0] (Y5 fl)) ?_))))
 rintro m F h ⟨k,xs,v,Yb,Zl,Zw,rfl,rfl,rfl⟩
 refine Yf 3 [2] (iw (V3 b.steps) (ZZ ((k:Int)<(b.steps.length:Int)) (fun Za=>?_) (fun Za=>?_)))
 ·refine ak (aq (ab 1 (Zu 3 [2] ?_)))
  obtain ⟨x1,Z3⟩:=Zr b.steps k om
  have Xv:=BF Z3
  have hws:=R7 hw Z3
  have hkz:=Ut x1
  have haz:=TJ x1
  refine Zm (Zg none (k:Int) 5 (Wc Z3)) (Z2 1 (iA [.i 0,.i 0,.i 0,nl,nl] fun b5=>Zz 0 b5 (Xm x1) (ie (ar (iL (YE []) 0 2 fun v2=>?_)))))
  refine Z0 (Y7 (ab 2 (Y0 (fun fz gz m F h=>∃(j:Nat) (u:Value) (ks:List Z5),(j<=x1.kids.length)/\(ks.length=j)/\(ks++Ug n.decls kept x1.op x1.num x1.args (x1.kids.drop j) j=Ug n.decls kept x1.op x1.num x1.args x1.kids 0)/\F=sF [2,3,4,6,7,8,9] fz [(10,UF ks u),(11,.i j)]/\h=[Zh gz 1,Zh gz 2,Zh gz 3,Zh gz 4,Zh gz 5,.tail u 2,Zh gz 6]/\m=x1.kids.length-j) _ _ _ ⟨0,v2,[],ob,ob,(by simp),rfl,rfl,rfl⟩ (wk [1,1,1,1,1,0,0] (fr (Y5 fl))) ?_)))
  rintro m F h ⟨j,u,ks,VA,XL,XI,rfl,rfl,rfl⟩
  refine Yf 3 [0] (iw (Vr x1.kids) (ZZ ((j:Int)<(x1.kids.length:Int)) (fun Zf=>?_) (fun Zf=>?_)))
  ·obtain ⟨kd,hkd⟩:=Zr x1.kids j om
   exact ak (aq (ab 3 (az (ZL 5 [4,0] (Zy [] (ih x1 j kept kd hws hkd (Z6v hn2 Z3 hkd) ob ob) (iL [ZI (TD n.decls kept x1.op x1.num x1.args j kd)] 1 2 fun v3=>ZQ 0 [(42,.sl [ZI (TD n.decls kept x1.op x1.num x1.args j kd)] none)] (ip 6 (YE (ks++[TD n.decls kept x1.op x1.num x1.args j kd])) (YE ks) [ZI (TD n.decls kept x1.op x1.num x1.args j kd)] u none 2 (Th _) (Ty rfl) rfl (by simp<;>omega) (by simp [J6,UC]) fun v4=>Z0 (az (Z2 1 (ZG j (Z0 (ZH ⟨j+1,v4,(ks++[TD n.decls kept x1.op x1.num x1.args j kd]),ob,(by simp;omega),(Z97 hkd XI),rfl,rfl,rfl⟩ (wk [2,2,2,2,2,0,1] (fr (ZJ j fl)))))))))))))))
  have hK:=Z96 om XI
  refine ax 2 (aE 17 (ZO 6 17 [0,1,2,3,4,5,6,7,8,9,11] [1,0,0,0,0] (Z8 10 (dc 10 [] [0,0,0,1] [b5,b5,b5,b4] (VK x1.args) ?_))))
  rintro _ _ ⟨v5,rfl,rfl⟩
  exact Yr 4 5 [12] [(56,.agg [.i x1.op,.i x1.num,.i x1.into,Z6 x1.args,Xq ks])] (Z8 13 (dL 13 [1] [b4] [YC (Z4.mk x1.op x1.num x1.into x1.args ks)] 1 5 fun v6=>Yr 3 3 [] [(57,.sl [YC (Z4.mk x1.op x1.num x1.into x1.args ks)] none)] (Z8 14 (dp 14 8 [] [] (Zv (xs++[Z4.mk x1.op x1.num x1.into x1.args ks])) (Zv xs) [YC (Z4.mk x1.op x1.num x1.into x1.args ks)] v none 5 (Xc _) (Ty rfl) rfl (by simp<;>omega) (by simp [WC,Vc]) fun v7=>Zk 1 2 [15] (Z8 16 (YM 16 4 [] [] b4 [YS (xs++[Z4.mk x1.op x1.num x1.into x1.args ks]) v7,.i b.result] (de (az (Z2 1 (ZG k (Z0 (ZH ⟨k+1,(xs++[Z4.mk x1.op x1.num x1.into x1.args ks]),v7,ob,(by simp;omega),(by have h:=Z9d Z3 Zw;rw [<-hK] at h;exact h),rfl,rfl,rfl⟩ (wk [0,4,4,4,0] (ZJ k fl))))))))))))))
 exact ax 0 (Zu 1 [0] (Zz 1 b3 [YS xs v,.i b.result] (ie (ZD (r3 [] [.agg [YS xs v,.i b.result]] [0] [(b3,b3)] ⟨rfl,rfl⟩ (Zc.agg (.cons (Zc.sl _ (Yp Zv (by rw [FA];exact Z9c om Zw))) (.cons (li (by rw [FA];rfl)) .nil))))))))
theorem Zaz (n:Zq) (hn:Xe n) (k:Nat):(∀(s:Z4) (j:Nat) (kept:LI) (kd:Z5),(wS n.decls s)->(s.kids[j]? = some kd)->(Qy kd)->(kept.length+s.sz<=900000000)->(s.sz<=k)->Zi 199 [Yk n,YC s,.i j,Z6 kept] [] (Yg (ZI (TD n.decls kept s.op s.num s.args j kd))))/\(∀(b:Z5) (kept:LI),(wB n.decls b)->(AK b)->(kept.length+b.sz<=900000000)->(b.sz<=k)->Zi 152 [Yk n,ZI b,Z6 kept] [] (Yg (ZI (Wq n.decls kept b)))):=by
 induction k with
 | zero=>exact ⟨fun s j K kd h1 h2 h3 h4 h5=>by have:=s.sz_pos;omega,fun b K h1 h2 h3 h4=>by have:=b.sz_eq;omega⟩
 | succ k ih=>exact ⟨fun s j K kd h1 h2 h3 h4 h5=>Zay n s j K kd hn h1 h2 h3 h4 fun b2 K2 q1 q2 q3 q4=>ih.2 b2 K2 q1 q2 q3 om,fun b K h1 h2 h3 h4=>Zax n b K hn h1 h2 h3 fun s j K2 kd q1 q2 q3 q4 q5=>ih.1 s j K2 kd q1 q2 q3 q4 om⟩
theorem Zaw (n:Zq) (b:Z5) (kept:LI) (hn:Xe n:=by exact ob) (hw:wB n.decls b:=by exact ob) (hn2:AK b:=by exact ob) (hK:kept.length+b.sz<=900000000:=by exact ob):Zi 152 [Yk n,ZI b,Z6 kept] [] (Yg (ZI (Wq n.decls kept b))):=(Zaz n hn b.sz).2 b kept hw hn2 hK (X9 _)
theorem Z37 (n:Zq) (hn:Xe n:=by exact ob) (hz:Ua n:=by exact ob) (hwb:∀r∈n.routines,wB n.decls r.body):Zi 118 [Yk n] [] (Yg (Yk (FV n))):=by
 have hzl:=hn.len
 refine ZF 38 Tryz.func118 (ar (iA (YJ n) fun b1=>iA [nl,nl] fun b2=>ie (Zu 2 [1] (Zy [] (AS n.decls (hd:=hn.decls)) (iL (Yy []) 0 5 fun v1=>Z2 1 (iA [nl,nl] fun b3=>?_))))))
 refine Zz 0 b3 [Ya n.decls,Wd [] v1] (ie (Y7 (ab 0 (Y0 (fun fz gz m F h=>∃(k:Nat) (v:Value),(k<=n.routines.length)/\F=sF [1,2,3] fz [(4,.i k)]/\h=[.obj b3 [Ya n.decls,Wd ((n.routines.take k).map (AR n.decls)) v],Zh gz 2,Zh gz 3,.tail v 5]/\m=n.routines.length-k) _ _ _ ⟨0,v1,ob,rfl,rfl,rfl⟩ (wk [0,1,1,0] (Y5 fl)) ?_))))
 rintro m F h ⟨k,v,Yb,rfl,rfl,rfl⟩
 refine Yf 3 [2] (iw (Vl n.routines) (ZZ ((k:Int)<(n.routines.length:Int)) (fun Za=>?_) (fun Za=>?_)))
 ·refine ak (aq (ab 1 (Zu 3 [2] ?_)))
  obtain ⟨x1,Z3⟩:=Zr n.routines k om
  have hrm:=Y1 Z3
  have hbz:=hz.body _ hrm
  have hpl:=hn.params_at Z3
  have hll:=hn.lent_at Z3
  have hww:=hwb _ hrm
  exact Zm (Zg none (k:Int) 5 (Wm Z3)) (Z2 1 (iA [nl,nl,.i 0,nl,.i 0] fun b4=>Zz 0 b4 (Tm x1) (ie (aE 15 (ZO 7 15 [0,1,2,3,4,5,6,7] [1,0,3,0,0] (dw 8 (Yi x1.params) (Z8 9 (Yq 9 [] [0,1] [b4,b3] (Zb4 n x1.body x1.params.length (hw:=hww)) (Z8 10 (Yq 10 [] [1] [b3] (CF x1 (WP n.decls x1.params.length x1.body)) (Z8 11 (dL 11 [1] [b3] (Yy [ZV.mk x1.params x1.lent x1.result (WP n.decls x1.params.length x1.body)]) 1 5 fun v2=>Yr 3 3 [] [(34,Tz [ZV.mk x1.params x1.lent x1.result (WP n.decls x1.params.length x1.body)])] (Z8 12 (dp 12 5 [] [] (Yy ((n.routines.take (k+1)).map (AR n.decls))) (Yy ((n.routines.take k).map (AR n.decls))) (Yy [ZV.mk x1.params x1.lent x1.result (WP n.decls x1.params.length x1.body)]) v none 5 (U3 _) (U3 _) (Jb _) (by simp<;>omega) (by rw [Ww Z3];simp [Yy,AR]) fun v3=>Zk 1 2 [13] (Z8 14 (YM 14 3 [] [] b3 [Ya n.decls,Wd ((n.routines.take (k+1)).map (AR n.decls)) v3] (de (az (Z2 1 (ZG k (Z0 (ZH ⟨k+1,v3,ob,rfl,rfl,rfl⟩ (wk [0,3,3,0] (ZJ k fl))))))))))))))))))))))))
 exact ax 0 (Zu 1 [0] (Zz 1 b2 [Ya n.decls,Wd ((n.routines.take k).map (AR n.decls)) v] (ie (ZD (r3 [] [.agg [Ya n.decls,Wd ((n.routines.take k).map (AR n.decls)) v]] [0] [(b2,b2)] ⟨rfl,rfl⟩ (Zc.agg (.cons (Zc.sl _ (Yp Yz ob)) (.cons (Zc.sl _ (Yp Yy (by rw [Wx om];rfl))) .nil))))))))
theorem Z34 (n:Zq) (hn:Xe n:=by exact ob) (hz:Ua n:=by exact ob) (hwb:∀r∈n.routines,wB n.decls r.body) (hnr:∀r∈n.routines,Qy r.body):Zi 119 [Yk n] [] (Yg (Yk (FB n))):=by
 have hzl:=hn.len
 refine ZF 38 Tryz.func119 (ar (iA (YJ n) fun b1=>iA [nl,nl] fun b2=>ie (Zu 2 [1] (Zy [] (AS n.decls (hd:=hn.decls)) (iL (Yy []) 0 5 fun v1=>Z2 1 (iA [nl,nl] fun b3=>?_))))))
 refine Zz 0 b3 [Ya n.decls,Wd [] v1] (ie (Y7 (ab 0 (Y0 (fun fz gz m F h=>∃(k:Nat) (v:Value),(k<=n.routines.length)/\F=sF [1,2,3] fz [(4,.i k)]/\h=[.obj b3 [Ya n.decls,Wd ((n.routines.take k).map (AN n.decls)) v],Zh gz 2,Zh gz 3,.tail v 5]/\m=n.routines.length-k) _ _ _ ⟨0,v1,ob,rfl,rfl,rfl⟩ (wk [0,1,1,0] (Y5 fl)) ?_))))
 rintro m F h ⟨k,v,Yb,rfl,rfl,rfl⟩
 refine Yf 3 [2] (iw (Vl n.routines) (ZZ ((k:Int)<(n.routines.length:Int)) (fun Za=>?_) (fun Za=>?_)))
 ·refine ak (aq (ab 1 (aE 21 (ZO 16 21 [0,1,2,3,4] [0,2] ?_))))
  obtain ⟨x1,Z3⟩:=Zr n.routines k om
  have hrm:=Y1 Z3
  have hbz:=hz.body _ hrm
  have hpl:=hn.params_at Z3
  have hll:=hn.lent_at Z3
  have hww:=hwb _ hrm
  exact dx 5 (Zg none (k:Int) 5 (Wm Z3)) (ZO 10 15 [6,7,8,9,10] [2,2] (dx 11 (Zg none (k:Int) 5 (Wm Z3)) (Zk 7 9 [12,13] (Z8 14 (dL 14 [2,2,2,0] [b1,b1,b1,b3] (Z7 []) 0 1 fun v2=>Yr 6 6 [] [(31,Z6 [])] (Z8 15 (Yq 15 [] [2,0] [b1,b3] (Zaw n x1.body [] (hw:=hww) (hn2:=(Bx (hnr _ hrm)))) (Z8 16 (Yq 16 [] [0] [b3] (CF x1 (Wq n.decls [] x1.body)) (Z8 17 (dL 17 [0] [b3] (Yy [ZV.mk x1.params x1.lent x1.result (Wq n.decls [] x1.body)]) 1 5 fun v3=>Yr 3 3 [] [(34,Tz [ZV.mk x1.params x1.lent x1.result (Wq n.decls [] x1.body)])] (Z8 18 (dp 18 5 [] [] (Yy ((n.routines.take (k+1)).map (AN n.decls))) (Yy ((n.routines.take k).map (AN n.decls))) (Yy [ZV.mk x1.params x1.lent x1.result (Wq n.decls [] x1.body)]) v none 5 (U3 _) (U3 _) (Jb _) (by simp<;>omega) (by rw [Ww Z3];simp [Yy,AN]) fun v4=>Zk 1 2 [19] (Z8 20 (YM 20 3 [] [] b3 [Ya n.decls,Wd ((n.routines.take (k+1)).map (AN n.decls)) v4] (de (az (Z2 1 (ZG k (Z0 (ZH ⟨k+1,v4,ob,rfl,rfl,rfl⟩ (wk [0,3,3,0] (ZJ k fl)))))))))))))))))))))))
 exact ax 0 (Zu 1 [0] (Zz 1 b2 [Ya n.decls,Wd ((n.routines.take k).map (AN n.decls)) v] (ie (ZD (r3 [] [.agg [Ya n.decls,Wd ((n.routines.take k).map (AN n.decls)) v]] [0] [(b2,b2)] ⟨rfl,rfl⟩ (Zc.agg (.cons (Zc.sl _ (Yp Yz ob)) (.cons (Zc.sl _ (Yp Yy (by rw [Wx om];rfl))) .nil))))))))
theorem Hp (rd:Nat) (bs:LI) (p:Nat) (ZE:∀z∈bs,0<=z/\z<=255) (hp:p+400001<=1000000000:=by exact ob):Zi 90 [.p rd 0] [Yt rd bs p] (fun r h=>∃(n:Zq) (p2:Nat),r=Yk n/\h=[Yt rd bs p2]/\FO n 181 WB/\p<=p2/\p2<=p+400001):=by
 refine ZF 13 Tryz.func90 (ar (iA [nl,nl] fun b1=>ie (Yc 1 (ic [1] (Z2b rd bs p (ZE:=ob)) ?_))))
 rintro _ _ ⟨g1,p21,rfl,rfl,Y4⟩
 have Qv:=Y4
 refine ic [] (Z2w g1 (hg:=Qv.1)) ?_
 rintro _ _ ⟨n1,rfl,rfl,Ym⟩
 have hnm:=Ym
 refine iA [nl,nl] fun b2=>Zz 0 b2 (YJ n1) (ie (YO 1 (ic [1] (XW rd bs p21 3 (ZE:=ob)) ?_)))
 rintro _ _ ⟨k1,rfl,rfl,YQ⟩
 refine YG (k1==0) Zs (fun Za=>?_) (fun Za=>?_)
 ·refine Zu 1 [1] (ic [] (Z2m n1 181 (hn:=hnm)) ?_)
  rintro _ _ ⟨n21,rfl,rfl,YZ⟩
  have hlm:=YZ
  exact Zz 2 b1 (YJ n21) (ie (ZD (r3 [1] [Yk n21] [0] [(b1,b1)] ⟨n21,p21+1,rfl,rfl,(by first|exact ⟨hlm,by omega,by omega⟩|exact ⟨hnm,by omega,by omega⟩)⟩ (lr _))))
 exact ak (Zu 1 [1] (Zz 2 b1 (YJ n1) (ie (ZD (r3 [1] [Yk n1] [0] [(b1,b1)] ⟨n1,p21+1,rfl,rfl,(by first|exact ⟨hlm,by omega,by omega⟩|exact ⟨hnm,by omega,by omega⟩)⟩ (lr _))))))
theorem Z25 (rd:Nat) (bs:LI) (p:Nat) (ZE:∀z∈bs,0<=z/\z<=255) (hp:p+400002<=1000000000:=by exact ob):Zi 115 [.p rd 0] [Yt rd bs p] (fun r h=>∃(n:Zq) (p2:Nat),r=Yk n/\h=[Yt rd bs p2]/\FO n 814510 Vk/\p<=p2/\p2<=p+400002):=by
 refine ZF 15 Tryz.func115 (ar (iA [nl,nl] fun b1=>ie (Yc 1 (ic [1] (Hp rd bs p (ZE:=ob)) ?_))))
 rintro _ _ ⟨n1,p21,rfl,rfl,Y4⟩
 have hpf:=Y4
 refine iA [nl,nl] fun b2=>Zz 0 b2 (YJ n1) (ie (Zu 1 [0] (ic [] (Z24 n1 181 (hn:=hpf.1)) ?_)))
 rintro _ _ ⟨n21,rfl,rfl,Ym⟩
 have hcf:=FO.le Ym (show 4500*181+10<=814510 by omega)
 refine iA [nl,nl] fun b3=>Zz 0 b3 (YJ n21) (ie (YO 1 (ic [2] (XW rd bs p21 4 (ZE:=ob)) ?_)))
 rintro _ _ ⟨k1,rfl,rfl,YQ⟩
 refine YG (k1==0) Zs (fun Za=>?_) (fun Za=>?_)
 ·refine az (ZL 1 [2] (ic [] (Z2f n1 181 (hn:=hpf.1)) ?_))
  rintro _ _ ⟨n22,rfl,rfl,YZ⟩
  have hlf:=FO.le YZ (show 60*181<=814510 by omega)
  exact Zz 1 b3 (YJ n22) (ie (Zu 1 [0] (Zz 3 b1 (YJ n22) (ie (ZD (r3 [2] [Yk n22] [0] [(b1,b1)] ⟨n22,p21+1,rfl,rfl,(by first|exact ⟨hlf,by omega,by omega⟩|exact ⟨hcf,by omega,by omega⟩)⟩ (lr _)))))))
 exact ak (Zu 1 [1] (Zz 3 b1 (YJ n21) (ie (ZD (r3 [1] [Yk n21] [0] [(b1,b1)] ⟨n21,p21+1,rfl,rfl,(by first|exact ⟨hlf,by omega,by omega⟩|exact ⟨hcf,by omega,by omega⟩)⟩ (lr _))))))
theorem Z1n (rd:Nat) (bs:LI) (p:Nat) (ZE:∀z∈bs,0<=z/\z<=255) (hp:p+400030<=1000000000:=by exact ob):Zi 73 [.p rd 0] [Yt rd bs p] (fun r h=>∃(n:Zq) (p2:Nat),r=Yk n/\h=[Yt rd bs p2]/\ZN n 7330630/\p<=p2/\p2<=p+400030):=by
 refine ZF 35 Tryz.func73 (ar (iA [nl,nl] fun b1=>ie (Yc 1 (ic [1] (Z25 rd bs p (ZE:=ob)) ?_))))
 rintro _ _ ⟨n1,p21,rfl,rfl,Y4⟩
 have hcf:=FO.le Y4.1 (show 814510<=814514 by omega)
 have hcp:=Y4
 refine iA [nl,nl] fun b2=>Zz 0 b2 (YJ n1) (ie (YO 1 (ic [1] (XW rd bs p21 4 (ZE:=ob)) ?_)))
 rintro _ _ ⟨k1,rfl,rfl,Ym⟩
 refine Z0 (XP (fun fz gz F h=>∃(na:Zq) (pa:Nat),(FO na 814514 Vk)/\(p<=pa/\pa<=p+400010)/\F=sF [0,2,3] fz []/\h=[Yt rd bs pa,.obj b2 (YJ na),Zh gz 2]) ?_ ?_)
 ·refine ac (k1==0) Zs (fun Za=>?_) (fun Za=>?_)
  ·refine az (ZL 2 [1] (ic [0] (MD rd bs (p21+1) n1 (ZE:=ob) (hz:=(by first|exact (FO.zn hcp.1).sz om|exact Qw.sz om)) (hl1:=(by first|(have:=hcp.1.fn.len;omega)|(have:=Qw.len;omega)))) ?_))
   rintro _ _ ⟨n21,p22,rfl,rfl,YQ⟩
   have hho:=YQ
   exact Zz 1 b2 (YJ n21) (ie (ZT ⟨n21,p22,(FO.held hcp.1 hho.1),ob,rfl,rfl⟩ (wk [1,0,0] fl)))
  exact ak (ZT ⟨n1,p21+1,hcf,ob,rfl,rfl⟩ (ZM 3 fl))
 rintro F h ⟨na,pa,Kf,HF,rfl,rfl⟩
 refine YO 1 (ic [0] (XW rd bs pa 4 (ZE:=ob)) ?_)
 rintro _ _ ⟨k2,rfl,rfl,YZ⟩
 refine Z0 (XP (fun fz gz F h=>∃(nb:Zq) (pb:Nat),(FO nb 814514 Vk)/\(p<=pb/\pb<=p+400012)/\F=sF [0,2,3] fz []/\h=[Yt rd bs pb,.obj b2 (YJ nb),Zh gz 2]) ?_ ?_)
 ·refine ac (k2==0) Zs (fun Zf=>?_) (fun Zf=>?_)
  ·refine az (ZL 1 [1] (ic [] (Z1t na 814514 (hn:=Kf)) ?_))
   rintro _ _ ⟨n22,rfl,rfl,Xg⟩
   have hca:=Xg
   exact Zz 1 b2 (YJ n22) (ie (ZT ⟨n22,pa+1,hca,ob,rfl,rfl⟩ (wk [1,0,0] fl)))
  exact ak (ZT ⟨na,pa+1,Kf,ob,rfl,rfl⟩ (ZM 3 fl))
 rintro F h ⟨nb,pb,VH,A0,rfl,rfl⟩
 refine Yc 1 (ic [0] (XW rd bs pb 3 (ZE:=ob)) ?_)
 rintro _ _ ⟨k3,rfl,rfl,XX⟩
 refine Z0 (Y7 (XP (fun fz gz F h=>∃(nc:Zq) (pc:Nat),(ZN nc 7330626)/\(k3>1->WN nc 7330626)/\(p<=pc/\pc<=p+400014)/\F=sF [0,2,3,4] fz []/\h=[Yt rd bs pc,.obj b2 (YJ nc),Zh gz 2]) ?_ ?_))
 ·refine We (k3>0) (fun ZA=>?_) (fun ZA=>?_)
  ·exact az (ZL 1 [1] (Zy [] (Z37 nb (hn:=VH.fn.ok) (hz:=(VH.zn.sz om)) (hwb:=(fun r hr=>(VH.wl om r hr).w))) (Zz 1 b2 (YJ (FV nb)) (ie (ZT ⟨(FV nb),pb+1,((VH.wn om).sp.zn),(fun _=>(VH.wn om).sp),ob,rfl,rfl⟩ (wk [1,0,0] fl))))))
  exact ak (ZT ⟨nb,pb+1,(VH.zn.le om),(fun h=>by omega),ob,rfl,rfl⟩ (ZM 3 fl))
 rintro F h ⟨nc,pc,Dt,Du,Z5d,rfl,rfl⟩
 refine Y7 (XP (fun fz gz F h=>∃(nd:Zq) (pd:Nat),(ZN nd 7330626)/\(p<=pd/\pd<=p+400014)/\F=sF [0,2,3] fz []/\h=[Yt rd bs pd,.obj b2 (YJ nd),Zh gz 2]) ?_ ?_)
 ·refine We (k3>1) (fun Yl=>?_) (fun Yl=>?_)
  ·exact az (ZL 1 [1] (Zy [] (Z34 nc (hn:=(Du (by assumption)).ok) (hz:=(Dt.sz om)) (hwb:=(fun r hr=>((Du (by assumption)).wl r hr).w)) (hnr:=(fun r hr=>((Du (by assumption)).wl r hr).nr))) (Zz 1 b2 (YJ (FB nc)) (ie (ZT ⟨(FB nc),pc,(Du (by assumption)).ru,ob,rfl,rfl⟩ (wk [1,0,0] fl))))))
  exact ak (ZT ⟨nc,pc,Dt,ob,rfl,rfl⟩ (ZM 3 fl))
 rintro F h ⟨nd,pd,Qw,Z5e,rfl,rfl⟩
 refine YO 1 (ic [0] (XW rd bs pd 6 (ZE:=ob)) ?_)
 rintro _ _ ⟨k4,rfl,rfl,Wu⟩
 refine YG (k4==0) Zs (fun Xd=>?_) (fun Xd=>?_)
 ·refine az (ZL 2 [1] (ic [0] (MD rd bs (pd+1) nd (ZE:=ob) (hz:=(by first|exact (FO.zn hcp.1).sz om|exact Qw.sz om)) (hl1:=(by first|(have:=hcp.1.fn.len;omega)|(have:=Qw.len;omega)))) ?_))
  rintro _ _ ⟨n23,p23,rfl,rfl,WZ⟩
  have hho:=WZ
  exact Zz 1 b2 (YJ n23) (ie (Zu 1 [0] (Zz 2 b1 (YJ n23) (ie (ZD (r3 [2] [Yk n23] [0] [(b1,b1)] ⟨n23,p23,rfl,rfl,(by first|exact ⟨Qw.held hho.1,by omega,by omega⟩|exact ⟨Qw.le om,by omega,by omega⟩)⟩ (lr _)))))))
 exact ak (Zu 1 [1] (Zz 2 b1 (YJ nd) (ie (ZD (r3 [1] [Yk nd] [0] [(b1,b1)] ⟨nd,pd+1,rfl,rfl,(by first|exact ⟨Qw.held hho.1,by omega,by omega⟩|exact ⟨Qw.le om,by omega,by omega⟩)⟩ (lr _))))))
theorem Z3b (rd:Nat) (bs:LI) (p:Nat) (xs:LI) (ZE:∀z∈bs,0<=z/\z<=255) (hp:p+3<=1000000000:=by exact ob) (hl:xs.length<=1000000:=by exact ob):Zi 112 [.p rd 0,Z6 xs] [Yt rd bs p] (fun r h=>∃(zs:LI) (p2:Nat),r=Z6 zs/\h=[Yt rd bs p2]/\zs.length<=xs.length+1/\p<=p2/\p2<=p+3):=by
 refine ZF 32 Tryz.func112 (ZP (Yc 1 (ic [] (AT xs) ?_)))
 rintro _ _ ⟨v1,rfl,rfl⟩
 refine Z0 (YO 1 (Zm (Aa 0 v1 xs) (Z2 2 (ib (b:=(decide ((xs.length:Int)>0))) 11 (fun Zd=>?_) (fun Zd=>?_)))))
 ·have Y4:(xs.length:Int)>0:=(dq).1 Zd
  refine Z2 1 (ic [1] (XW rd bs p 2 (ZE:=ob)) ?_)
  rintro _ _ ⟨k1,rfl,rfl,Ym⟩
  refine YG (k1==0) Zs (fun Za=>?_) (fun Za=>?_)
  ·refine Yc 3 (Zm (Aa 1 v1 xs) (ic [0] (Jg rd bs (p+1) xs.length (ZE:=ob)) ?_))
   rintro _ _ ⟨YF,rfl,rfl,YQ⟩
   refine Z2 1 (iL (Z7 [0,1,-1,7,1000,1001]) 6 1 fun v2=>ZQ 0 [(22,Z6 [0,1,-1,7,1000,1001])] (ic [1] (VE rd bs ((p+1)+1) [0,1,-1,7,1000,1001] (ZE:=ob)) ?_))
   rintro _ _ ⟨z1,rfl,rfl,YZ⟩
   exact Zm (VL 2 v1 xs (YF:Int) YF) (MV 2 v1 xs YF z1 (ie (ZP (Ed 4 0 (v:=v1) (xs:=(xs.set YF z1)) (ZD (r2 [1] [ZY (xs.set YF z1) v1.v] ⟨(xs.set YF z1),((p+1)+1)+1,rfl,rfl,⟨by simp,by omega,by omega⟩⟩ (Zc.forget _ _)))))))
  refine ak (Yc 2 (iL (Z7 [0,1,2,-1,1000]) 5 1 fun v3=>ZQ 0 [(28,Z6 [0,1,2,-1,1000])] (ic [1] (VE rd bs (p+1) [0,1,2,-1,1000] (ZE:=ob)) ?_)))
  rintro _ _ ⟨z2,rfl,rfl,Xg⟩
  exact iL (Z7 [z2]) 1 1 fun v4=>ZQ 0 [(30,Z6 [z2])] (Ji 3 v1 xs [z2] none fun v5=>Z0 (Ed 4 0 (v:=v5) (xs:=(xs++[z2])) (ZD (r2 [2] [ZY (xs++[z2]) v5.v] ⟨(xs++[z2]),(p+1)+1,rfl,rfl,⟨by simp,by omega,by omega⟩⟩ (Zc.forget _ _)))))
 have XX:¬((xs.length:Int)>0):=Yd dq Zd
 refine Z0 (WT (ak (Yc 2 (iL (Z7 [0,1,2,-1,1000]) 5 1 fun v6=>ZQ 0 [(28,Z6 [0,1,2,-1,1000])] (ic [2] (VE rd bs p [0,1,2,-1,1000] (ZE:=ob)) ?_)))))
 rintro _ _ ⟨z3,rfl,rfl,Wu⟩
 exact iL (Z7 [z3]) 1 1 fun v7=>ZQ 0 [(30,Z6 [z3])] (Ji 3 v1 xs [z3] none fun v8=>Z0 (Ed 4 0 (v:=v8) (xs:=(xs++[z3])) (ZD (r2 [2] [ZY (xs++[z3]) v8.v] ⟨(xs++[z3]),p+1,rfl,rfl,⟨by simp,by omega,by omega⟩⟩ (Zc.forget _ _)))))
theorem Sz (s:Z4) (hz:s.sz<=1000000000:=by exact ob):Zi 139 [YC s] [] (fun r h=>∃(v:Hd),r=.agg [.i s.op,.i s.num,.i s.into,.h v,Xq s.kids]/\h=[rV v s.args]):=by
 have hkz:=Ut s
 have haz:=TJ s
 refine ZF 33 Tryz.func139 (ar (iA (Xm s) fun b1=>iA [.i 0,.i 0,.i 0,nl,nl] fun b2=>ie (ar (iL (YE []) 0 2 fun v1=>?_))))
 refine Z0 (Y7 (ab 0 (Y0 (fun fz gz m F h=>∃(k:Nat) (v:Value),(k<=s.kids.length)/\F=sF [1,2] fz [(3,UF (s.kids.take k) v),(4,.i k)]/\h=[Zh gz 1,Zh gz 2,.tail v 2]/\m=s.kids.length-k) _ _ _ ⟨0,v1,ob,rfl,rfl,rfl⟩ (wk [1,1,0] (fc (x:=UF [] v1) (Zc.slh _ (Yp YE rfl)) (Y5 fl))) ?_)))
 rintro m F h ⟨k,v,Yb,rfl,rfl,rfl⟩
 refine Yf 3 [1] (iw (Vr s.kids) (ZZ ((k:Int)<(s.kids.length:Int)) (fun Za=>?_) (fun Za=>?_)))
 ·refine ak (aq (ab 1 (az (ZL 4 [1] ?_))))
  obtain ⟨x1,Z3⟩:=Zr s.kids k om
  have hks:=Us Z3
  exact Zm (Zg none (k:Int) 2 (U2 Z3)) (Z2 1 (Zy [] (DV x1) (iL [ZI x1] 1 2 fun v2=>ZQ 0 [(20,.sl [ZI x1] none)] (ip 3 (YE (s.kids.take (k+1))) (YE (s.kids.take k)) [ZI x1] v none 2 (Th _) (Ty rfl) rfl (by simp<;>omega) (by rw [Ww Z3];simp [UC]) fun v3=>Z0 (az (Z2 1 (ZG k (Z0 (ZH ⟨k+1,v3,ob,rfl,rfl,rfl⟩ (wk [2,2,0] (fr (ZJ k fl))))))))))))
 refine ax 0 (aD 12 (ZO 3 12 [0,1,2,3,4,5,6,7,9] [1,1,1,1] (Z8 8 (dc 8 [] [1,1,1] [b1,b1,b1] (AT s.args) ?_))))
 rintro _ _ ⟨v4,rfl,rfl⟩
 exact Zk 1 2 [10] (Z8 11 (YM 11 1 [] [] b2 [.i s.op,.i s.num,.i s.into,.h v4,UF (s.kids.take k) v] (de (ZD (r3 [1] [.agg [.i s.op,.i s.num,.i s.into,.h v4,UF (s.kids.take k) v]] [0] [(b2,b2)] ⟨v4,rfl,rfl⟩ (Zc.agg (.cons (lr _) (.cons (lr _) (.cons (lr _) (.cons (lr _) (.cons (Zc.sl _ (Yp YE (by rw [Wx om]))) .nil)))))))))))
theorem MJ (rd:Nat) (bs:LI) (p:Nat) (s:Z4) (ZE:∀z∈bs,0<=z/\z<=255) (hp:p+3<=1000000000:=by exact ob) (hz:s.sz<=100000000:=by exact ob) (hg:s.rgb:=by exact ob):Zi 147 [.p rd 0,YC s] [Yt rd bs p] (fun r h=>∃(y:Z4) (p2:Nat),r=YC y/\h=[Yt rd bs p2]/\VN s y/\p<=p2/\p2<=p+3):=by
 have haz:=TJ s
 have hkz:=Ut s
 refine ZF 66 Tryz.func147 (ar (iA (Xm s) fun b1=>iA [.i 0,.i 0,.i 0,nl,nl] fun b2=>ie (Zu 1 [1] (ic [] (Sz s) ?_))))
 rintro _ _ ⟨v1,rfl,rfl⟩
 refine iA [.i 0,.i 0,.i 0,nl,nl] fun b3=>Zz 0 b3 [.i s.op,.i s.num,.i s.into,.h v1,Xq s.kids] (ie (YO 1 (ic [4] (XW rd bs p 6 (ZE:=ob)) ?_)))
 rintro _ _ ⟨k1,rfl,rfl,Y4⟩
 refine ie (ab 0 (ar (YG (k1==0) Zs (fun Za=>?_) (fun Za=>?_))))
 ·refine az (Z2 1 (iL (Z7 [14,15,16,17,6,9,12,0,1]) 9 1 fun v2=>ZQ 0 [(13,Z6 [14,15,16,17,6,9,12,0,1])] (ic [1] (VE rd bs (p+1) [14,15,16,17,6,9,12,0,1] (ZE:=ob)) ?_)))
  rintro _ _ ⟨z1,rfl,rfl,Ym⟩
  have hon:=Ym
  exact Z2 1 (Zz 2 b3 [.i z1,.i s.num,.i s.into,.h v1,Xq s.kids] (ie (ar (XN (Jr 3 v1 s.args) (XN (T0 0 0 3 v1.v 1 b3 (Z7 s.args) [.i z1,.i s.num,.i s.into,.h v1,Xq s.kids] (YD _) rfl) (ZL 1 [0] (Zz 4 b2 [.i z1,.i s.num,.i s.into,ZY s.args v1.v,Xq s.kids] (ie (ZD (r3 [3] [.agg [.i z1,.i s.num,.i s.into,ZY s.args v1.v,Xq s.kids]] [0] [(b2,b2)] ⟨(Z4.mk z1 s.num s.into s.args s.kids),(p+1)+1,rfl,rfl,⟨by first|exact VN.refl hg|exact VN.of hg (by first|exact .inl rfl|exact .inr hon) (by first|exact Nat.le_succ _|(simp<;>omega)) (by first|exact .inl rfl|exact .inr rfl),by omega,by omega⟩⟩ (Zc.agg (.cons (lr _) (.cons (lr _) (.cons (lr _) (.cons (Zc.forget _ _) (.cons (lr _) .nil))))))))))))))))
 refine ar (YG (k1==1) Zs (fun Zf=>?_) (fun Zf=>?_))
 ·refine az (Z2 1 (iL (Z7 [0,1,2,3,-1,1000]) 6 1 fun v3=>ZQ 0 [(19,Z6 [0,1,2,3,-1,1000])] (ic [1] (VE rd bs (p+1) [0,1,2,3,-1,1000] (ZE:=ob)) ?_)))
  rintro _ _ ⟨z2,rfl,rfl,YQ⟩
  have hon:=YQ
  exact Z2 1 (Zz 2 b3 [.i s.op,.i z2,.i s.into,.h v1,Xq s.kids] (ie (ar (XN (Jr 3 v1 s.args) (XN (T0 0 0 3 v1.v 1 b3 (Z7 s.args) [.i s.op,.i z2,.i s.into,.h v1,Xq s.kids] (YD _) rfl) (ZL 1 [0] (Zz 4 b2 [.i s.op,.i z2,.i s.into,ZY s.args v1.v,Xq s.kids] (ie (ZD (r3 [3] [.agg [.i s.op,.i z2,.i s.into,ZY s.args v1.v,Xq s.kids]] [0] [(b2,b2)] ⟨(Z4.mk s.op z2 s.into s.args s.kids),(p+1)+1,rfl,rfl,⟨by first|exact VN.refl hg|exact VN.of hg (by first|exact .inl rfl|exact .inr hon) (by first|exact Nat.le_succ _|(simp<;>omega)) (by first|exact .inl rfl|exact .inr rfl),by omega,by omega⟩⟩ (Zc.agg (.cons (lr _) (.cons (lr _) (.cons (lr _) (.cons (Zc.forget _ _) (.cons (lr _) .nil))))))))))))))))
 refine ar (YG (k1==2) Zs (fun ZA=>?_) (fun ZA=>?_))
 ·refine az (Z2 1 (iL (Z7 [1,2,0,-1,90]) 5 1 fun v4=>ZQ 0 [(25,Z6 [1,2,0,-1,90])] (ic [1] (VE rd bs (p+1) [1,2,0,-1,90] (ZE:=ob)) ?_)))
  rintro _ _ ⟨z3,rfl,rfl,YZ⟩
  have hon:=YZ
  exact Z2 1 (Zz 2 b3 [.i s.op,.i s.num,.i z3,.h v1,Xq s.kids] (ie (ar (XN (Jr 3 v1 s.args) (XN (T0 0 0 3 v1.v 1 b3 (Z7 s.args) [.i s.op,.i s.num,.i z3,.h v1,Xq s.kids] (YD _) rfl) (ZL 1 [0] (Zz 4 b2 [.i s.op,.i s.num,.i z3,ZY s.args v1.v,Xq s.kids] (ie (ZD (r3 [3] [.agg [.i s.op,.i s.num,.i z3,ZY s.args v1.v,Xq s.kids]] [0] [(b2,b2)] ⟨(Z4.mk s.op s.num z3 s.args s.kids),(p+1)+1,rfl,rfl,⟨by first|exact VN.refl hg|exact VN.of hg (by first|exact .inl rfl|exact .inr hon) (by first|exact Nat.le_succ _|(simp<;>omega)) (by first|exact .inl rfl|exact .inr rfl),by omega,by omega⟩⟩ (Zc.agg (.cons (lr _) (.cons (lr _) (.cons (lr _) (.cons (Zc.forget _ _) (.cons (lr _) .nil))))))))))))))))
 refine ar (YG (k1==3) Zs (fun Yl=>?_) (fun Yl=>?_))
 ·refine aE 9 (ZO 6 9 [0,1,2] [1] (Z8 3 (dL 3 [1] [b3] (Z7 [0,1,-1]) 3 1 fun v5=>Yr 5 5 [] [(33,Z6 [0,1,-1])] (Z8 4 (dc 4 [1] [0] [b3] (VE rd bs (p+1) [0,1,-1] (ZE:=ob)) ?_)))))
  rintro _ _ ⟨z4,rfl,rfl,Xg⟩
  have hon:=Xg
  exact Z8 5 (dL 5 [1] [b3] (Z7 [z4]) 1 1 fun v6=>Yr 3 3 [] [(35,Z6 [z4])] (Z8 6 (SD 6 4 [] [] v1 s.args [z4] none fun v7=>Zk 1 2 [7] (Z8 8 (YM 8 4 [] [] b3 [.i s.op,.i s.num,.i s.into,.h v7,Xq s.kids] (de (ar (XN (Jr 1 v7 (s.args++[z4])) (XN (T0 0 0 3 v7.v 1 b3 (Z7 (s.args++[z4])) [.i s.op,.i s.num,.i s.into,.h v7,Xq s.kids] (YD _) rfl) (ZL 1 [0] (Zz 5 b2 [.i s.op,.i s.num,.i s.into,ZY (s.args++[z4]) v7.v,Xq s.kids] (ie (ZD (r3 [4] [.agg [.i s.op,.i s.num,.i s.into,ZY (s.args++[z4]) v7.v,Xq s.kids]] [0] [(b2,b2)] ⟨(Z4.mk s.op s.num s.into (s.args++[z4]) s.kids),(p+1)+1,rfl,rfl,⟨by first|exact VN.refl hg|exact VN.of hg (by first|exact .inl rfl|exact .inr hon) (by first|exact Nat.le_succ _|(simp<;>omega)) (by first|exact .inl rfl|exact .inr rfl),by omega,by omega⟩⟩ (Zc.agg (.cons (lr _) (.cons (lr _) (.cons (lr _) (.cons (Zc.forget _ _) (.cons (lr _) .nil))))))))))))))))))))
 refine ar (YG (k1==4) Zs (fun Xd=>?_) (fun Xd=>?_))
 ·refine Zu 2 [1] (Zm (Aa 2 v1 s.args) (ZZ ((s.args.length:Int)>0) (fun Xp=>?_) (fun Xp=>?_)))
  ·refine aE 12 (ZO 7 12 [0,1,2,3,4] [1,1] (dx 5 (Aa 2 v1 s.args) (Zk 5 6 [7] (Vq 6 8 ?_ ?_))))
   ·refine dc 6 [0] [0] [b3] (Jg rd bs (p+1) s.args.length (ZE:=ob)) ?_
    rintro _ _ ⟨YF,rfl,rfl,XX⟩
    refine Z8 8 (dL 8 [1] [b3] (Z7 [0,1,2,3,-1,99]) 6 1 fun v8=>Yr 3 3 [] [(52,Z6 [0,1,2,3,-1,99])] (Z8 9 (dc 9 [1] [0] [b3] (VE rd bs ((p+1)+1) [0,1,2,3,-1,99] (ZE:=ob)) ?_)))
    rintro _ _ ⟨z5,rfl,rfl,Wu⟩
    have hon:=Wu
    exact dx 10 (VL 3 v1 s.args (YF:Int) YF) (Z8 11 (Av 11 3 [] [] v1 s.args YF z5 (de (ar (XN (Jr 0 v1 (s.args.set YF z5)) (XN (T0 0 2 3 v1.v 1 b3 (Z7 (s.args.set YF z5)) [.i s.op,.i s.num,.i s.into,.h v1,Xq s.kids] (YD _) rfl) (ZL 1 [0] (Zz 4 b2 [.i s.op,.i s.num,.i s.into,ZY (s.args.set YF z5) v1.v,Xq s.kids] (ie (ZD (r3 [3] [.agg [.i s.op,.i s.num,.i s.into,ZY (s.args.set YF z5) v1.v,Xq s.kids]] [0] [(b2,b2)] ⟨(Z4.mk s.op s.num s.into (s.args.set YF z5) s.kids),((p+1)+1)+1,rfl,rfl,⟨by first|exact VN.refl hg|exact VN.of hg (by first|exact .inl rfl|exact .inr hon) (by first|exact Nat.le_succ _|(simp<;>omega)) (by first|exact .inl rfl|exact .inr rfl),by omega,by omega⟩⟩ (Zc.agg (.cons (lr _) (.cons (lr _) (.cons (lr _) (.cons (Zc.forget _ _) (.cons (lr _) .nil)))))))))))))))))
   refine dL 8 [1,1] [b3,b3] (Z7 [0,1,2,3,-1,99]) 6 1 fun v9=>Z8 6 (dc 6 [1] [0] [b3] (Jg rd bs (p+1) s.args.length (ZE:=ob)) ?_)
   rintro _ _ ⟨X0,rfl,rfl,WZ⟩
   refine Yr 3 3 [] [(52,Z6 [0,1,2,3,-1,99])] (Z8 9 (dc 9 [0] [0] [b3] (VE rd bs ((p+1)+1) [0,1,2,3,-1,99] (ZE:=ob)) ?_))
   rintro _ _ ⟨z6,rfl,rfl,Vs⟩
   have hon:=Vs
   exact dx 10 (VL 3 v1 s.args (X0:Int) X0) (Z8 11 (Av 11 3 [] [] v1 s.args X0 z6 (de (ar (XN (Jr 0 v1 (s.args.set X0 z6)) (XN (T0 0 2 3 v1.v 1 b3 (Z7 (s.args.set X0 z6)) [.i s.op,.i s.num,.i s.into,.h v1,Xq s.kids] (YD _) rfl) (ZL 1 [0] (Zz 4 b2 [.i s.op,.i s.num,.i s.into,ZY (s.args.set X0 z6) v1.v,Xq s.kids] (ie (ZD (r3 [3] [.agg [.i s.op,.i s.num,.i s.into,ZY (s.args.set X0 z6) v1.v,Xq s.kids]] [0] [(b2,b2)] ⟨(Z4.mk s.op s.num s.into (s.args.set X0 z6) s.kids),((p+1)+1)+1,rfl,rfl,⟨by first|exact VN.refl hg|exact VN.of hg (by first|exact .inl rfl|exact .inr hon) (by first|exact Nat.le_succ _|(simp<;>omega)) (by first|exact .inl rfl|exact .inr rfl),by omega,by omega⟩⟩ (Zc.agg (.cons (lr _) (.cons (lr _) (.cons (lr _) (.cons (Zc.forget _ _) (.cons (lr _) .nil)))))))))))))))))
  exact ak (ar (XN (Jr 2 v1 s.args) (XN (T0 0 1 3 v1.v 1 b3 (Z7 s.args) [.i s.op,.i s.num,.i s.into,.h v1,Xq s.kids] (YD _) rfl) (ZL 1 [0] (Zz 3 b2 [.i s.op,.i s.num,.i s.into,ZY s.args v1.v,Xq s.kids] (ie (ZD (r3 [3] [.agg [.i s.op,.i s.num,.i s.into,ZY s.args v1.v,Xq s.kids]] [0] [(b2,b2)] ⟨s,p+1,rfl,rfl,⟨by first|exact VN.refl hg|exact VN.of hg (by first|exact .inl rfl|exact .inr hon) (by first|exact Nat.le_succ _|(simp<;>omega)) (by first|exact .inl rfl|exact .inr rfl),by omega,by omega⟩⟩ (Zc.agg (.cons (lr _) (.cons (lr _) (.cons (lr _) (.cons (Zc.forget _ _) (.cons (lr _) .nil))))))))))))))
 refine ar (YG (k1==5) Zs (fun VF=>?_) (fun VF=>?_))
 ·refine Zu 2 [1] (iw (Vr s.kids) (ZZ ((s.kids.length:Int)>0) (fun Vw=>?_) (fun Vw=>?_)))
  ·exact az (ZL 2 [1] (Zm (KM (es:=YE s.kids) (hv:=none) (l:=1) (m:=(((YE s.kids).length:Nat):Int)) (sz:=2) (es':=YE (s.kids.drop 1)) kr om (by simp<;>omega) (by simp<;>omega) (Th _) (by first|(simp only [U9,Vi,GW,GV];done)|(simp only [U9,Vi,GW,GV];rfl)|(simp [GW,GV];done))) (Z2 1 (Zz 1 b3 [.i s.op,.i s.num,.i s.into,.h v1,Xq (s.kids.drop 1)] (ie (ar (XN (Jr 2 v1 s.args) (XN (T0 0 0 3 v1.v 1 b3 (Z7 s.args) [.i s.op,.i s.num,.i s.into,.h v1,Xq (s.kids.drop 1)] (YD _) rfl) (ZL 1 [0] (Zz 3 b2 [.i s.op,.i s.num,.i s.into,ZY s.args v1.v,Xq (s.kids.drop 1)] (ie (ZD (r3 [3] [.agg [.i s.op,.i s.num,.i s.into,ZY s.args v1.v,Xq (s.kids.drop 1)]] [0] [(b2,b2)] ⟨(Z4.mk s.op s.num s.into s.args (s.kids.drop 1)),p+1,rfl,rfl,⟨by first|exact VN.refl hg|exact VN.of hg (by first|exact .inl rfl|exact .inr hon) (by first|exact Nat.le_succ _|(simp<;>omega)) (by first|exact .inl rfl|exact .inr rfl),by omega,by omega⟩⟩ (Zc.agg (.cons (lr _) (.cons (lr _) (.cons (lr _) (.cons (Zc.forget _ _) (.cons (lr _) .nil)))))))))))))))))))
  exact ak (ar (XN (Jr 2 v1 s.args) (XN (T0 0 1 3 v1.v 1 b3 (Z7 s.args) [.i s.op,.i s.num,.i s.into,.h v1,Xq s.kids] (YD _) rfl) (ZL 1 [0] (Zz 3 b2 [.i s.op,.i s.num,.i s.into,ZY s.args v1.v,Xq s.kids] (ie (ZD (r3 [3] [.agg [.i s.op,.i s.num,.i s.into,ZY s.args v1.v,Xq s.kids]] [0] [(b2,b2)] ⟨s,p+1,rfl,rfl,⟨by first|exact VN.refl hg|exact VN.of hg (by first|exact .inl rfl|exact .inr hon) (by first|exact Nat.le_succ _|(simp<;>omega)) (by first|exact .inl rfl|exact .inr rfl),by omega,by omega⟩⟩ (Zc.agg (.cons (lr _) (.cons (lr _) (.cons (lr _) (.cons (Zc.forget _ _) (.cons (lr _) .nil))))))))))))))
 exact ak (ar (XN (Jr 2 v1 s.args) (XN (T0 0 1 3 v1.v 1 b3 (Z7 s.args) [.i s.op,.i s.num,.i s.into,.h v1,Xq s.kids] (YD _) rfl) (ZL 1 [0] (Zz 3 b2 [.i s.op,.i s.num,.i s.into,ZY s.args v1.v,Xq s.kids] (ie (ZD (r3 [3] [.agg [.i s.op,.i s.num,.i s.into,ZY s.args v1.v,Xq s.kids]] [0] [(b2,b2)] ⟨s,p+1,rfl,rfl,⟨by first|exact VN.refl hg|exact VN.of hg (by first|exact .inl rfl|exact .inr hon) (by first|exact Nat.le_succ _|(simp<;>omega)) (by first|exact .inl rfl|exact .inr rfl),by omega,by omega⟩⟩ (Zc.agg (.cons (lr _) (.cons (lr _) (.cons (lr _) (.cons (Zc.forget _ _) (.cons (lr _) .nil))))))))))))))
theorem Z31 (rd:Nat) (bs:LI) (p:Nat) (mx:Int) (ZE:∀z∈bs,0<=z/\z<=255) (hp:p+1<=1000000000):Zi 79 [.p rd 0,.i mx] [Yt rd bs p] (fun r h=>∃(k:Int),r=.i k/\h=[.obj rd [VV bs,.i (p+1:Nat)]]/\Pk mx k/\k=A6 bs p mx):=by
 refine ZF 99 Tryz.func79 (ZP (Zu 5 [0] (ZG p (Z2 2 (Zz 0 rd [VV bs,.i (p+1:Nat)] (ie (X4 (Xi [0,1] [(24,.b ((decide (mx<1))||((bs.length:Int)==0)))] (fun gz=>gz) ?_ ?_))))))))
 ·refine Z2 3 (ib (b:=(decide (mx<1))) 17 (fun Zd=>?_) (fun Zd=>?_))
  ·exact Z0 (wk [0] (Zp true Zd fl))
  exact ZL 4 [0] (iw (Kb bs) (Z0 (wk [0] (Zp ((bs.length:Int)==0) Zd fl))))
 refine ac ((decide (mx<1))||((bs.length:Int)==0)) (p:=(mx<1)∨((bs.length:Int)=0)) (Yh dq Zs) (fun Za=>?_) (fun Za=>?_)
 ·exact ar (Zt (r1 [0] ⟨0,rfl,rfl,⟨Pk.zero,by rw [A6,Zj om]⟩⟩))
 refine ak (Zu 4 [0] (ia ((p:Int)) ((((p+1:Nat):Int))-(1)) (Z0 (Yf 5 [0] (iw (Kb bs) (ZZ ((p:Int)<(bs.length:Int)) (fun Zf=>?_) (fun Zf=>?_)))))))
 ·refine Zu 5 [0] ?_
  obtain ⟨x1,Z3⟩:=Zr bs p om
  have hz:=ZE _ (Y1 Z3)
  exact Zm (Zg none (p:Int) 1 (C0 Z3)) (Z2 1 (Zm (Cm x1 om) (Z2 1 (Zm (Dv x1 mx om om) (Zt (r1 [0] ⟨(x1 % mx),rfl,rfl,⟨Pk.rem om om,by rw [A6,Z9 om,Zj om,Z3];rfl⟩⟩))))))
 have hq1:p / bs.length<=p:=Nat.div_le_self _ _
 have hq0:(0:Int)<=((p / bs.length:Nat):Int):=Int.natCast_nonneg _
 refine ak (aD 46 (ZO 37 46 [0,1,2,3,4,5,6,7,8] [0,0] (dw 9 (Kb bs) (dx 10 (Fa p bs.length om om) ?_))))
 obtain ⟨x2,Zo⟩:=Zr bs (p % bs.length) (Nat.mod_lt _ om)
 have hz:=ZE _ (Y1 Zo)
 have hy2:=Zo
 refine dx 11 (Zg none ((p % bs.length:Nat):Int) 1 (C0 Zo)) (Zk 33 34 [12] (dx 13 (Cm x2 om) (da 14 ((x2*131)) ((x2)*(131)) (ZO 26 31 [15,16,17,18,19] [0] (da 20 (((p*7:Nat):Int)) (((p:Int))*(7)) (da 21 (((p*7+3:Nat):Int)) ((((p*7:Nat):Int))+(3)) (ZO 20 24 [22,23,24,25] [0] (dw 26 (Kb bs) (dx 27 (Fa (p*7+3) bs.length om om) ?_)))))))))
 obtain ⟨x3,YP⟩:=Zr bs ((p*7+3) % bs.length) (Nat.mod_lt _ om)
 have hz3:=ZE _ (Y1 YP)
 have hy3:=YP
 exact dx 28 (Zg none (((p*7+3) % bs.length:Nat):Int) 1 (C0 YP)) (Zk 16 17 [29] (dx 30 (Cm x3 om) (da 31 ((x3*1117)) ((x3)*(1117)) (da 32 (((x2*131)+(x3*1117))) (((x2*131))+((x3*1117))) (Zk 12 13 [33] (da 34 (((p*29:Nat):Int)) (((p:Int))*(29)) (da 35 ((((x2*131)+(x3*1117))+((p*29:Nat):Int))) ((((x2*131)+(x3*1117)))+(((p*29:Nat):Int))) (ZO 5 10 [36,37,38,39,40] [0] (dw 41 (Kb bs) (dx 42 (Bu p bs.length om om) (da 43 ((((p / bs.length:Nat):Int)*53)) ((((p / bs.length:Nat):Int))*(53)) (da 44 (((((x2*131)+(x3*1117))+((p*29:Nat):Int))+(((p / bs.length:Nat):Int)*53))) (((((x2*131)+(x3*1117))+((p*29:Nat):Int)))+((((p / bs.length:Nat):Int)*53))) (Zk 0 1 [45] (de (Yc 2 (Zm (HI ((((x2*131)+(x3*1117))+((p*29:Nat):Int))+(((p / bs.length:Nat):Int)*53)) 64 om om) (Zm (Nb ((((x2*131)+(x3*1117))+((p*29:Nat):Int))+(((p / bs.length:Nat):Int)*53)) (((((x2*131)+(x3*1117))+((p*29:Nat):Int))+(((p / bs.length:Nat):Int)*53)) / 64)) (Z0 (Yc 2 (Zm (Dv (Ad ((((x2*131)+(x3*1117))+((p*29:Nat):Int))+(((p / bs.length:Nat):Int)*53)) (((((x2*131)+(x3*1117))+((p*29:Nat):Int))+(((p / bs.length:Nat):Int)*53)) / 64)) mx om (G9 ⟨by omega,by omega⟩ ⟨by omega,by omega⟩).1) (Zt (r1 [0] ⟨((Ad ((((x2*131)+(x3*1117))+((p*29:Nat):Int))+(((p / bs.length:Nat):Int)*53)) (((((x2*131)+(x3*1117))+((p*29:Nat):Int))+(((p / bs.length:Nat):Int)*53)) / 64)) % mx),rfl,rfl,⟨Pk.rem (G9 ⟨by omega,by omega⟩ ⟨by omega,by omega⟩).1 om,by rw [A6,Z9 om,Z9 om,hy2,hy3];rfl⟩⟩))))))))))))))))))))))
theorem Z32 (rd:Nat) (bs:LI) (p:Nat) (mx:Nat) (ZE:∀z∈bs,0<=z/\z<=255) (hp:p+1<=1000000000:=by exact ob) (hmx:0<mx:=by exact ob):Zi 79 [.p rd 0,.i mx] [Yt rd bs p] (fun r h=>∃(kn:Nat),r=.i kn/\h=[.obj rd [VV bs,.i (p+1:Nat)]]/\kn<mx/\kn=(A6 bs p mx).toNat):=(Z31 rd bs p mx ZE hp).mono fun r h ⟨z,hr,hh,hz,he⟩=>by
  have h0:=hz.lt om
  exact ⟨z.toNat,by rw [hr,Int.toNat_of_nonneg h0.1],hh,by omega,by rw [he]⟩
theorem Sy (s:Z4) (hz:s.sz<=1000000000):Zi 139 [YC s] [] (fun r h=>∃(v:Hd),r=.agg [.i s.op,.i s.num,.i s.into,Z6 s.args,.h v]/\h=[rK v 2 (Zb (YE s.kids))]):=by
 have hkz:=Ut s
 have haz:=TJ s
 refine ZF 33 Tryz.func139 (ar (iA (Xm s) fun b1=>iA [.i 0,.i 0,.i 0,nl,nl] fun b2=>ie (ar (Cj 2 fun g1=>?_))))
 refine Z0 (Y7 (ab 0 (Y0 (fun fz gz m F h=>∃(k:Nat) (v:Hd),(k<=s.kids.length)/\F=sF [1,2] fz [(3,.h v),(4,.i k)]/\h=[Zh gz 1,Zh gz 2,rK v 2 (Zb (YE (s.kids.take k)))]/\m=s.kids.length-k) _ _ _ ⟨0,(⟨some ⟨g1,0,none⟩,0,0⟩:Hd),ob,rfl,rfl,rfl⟩ (wk [1,1,0] (fr (Y5 fl)) (e:=(rc (rc (rr (ls:=[]) ob rz))))) ?_)))
 rintro m F h ⟨k,v,Yb,rfl,rfl,rfl⟩
 refine Yf 3 [1] (iw (Vr s.kids) (ZZ ((k:Int)<(s.kids.length:Int)) (fun Za=>?_) (fun Za=>?_)))
 ·refine ak (aq (ab 1 (az (ZL 4 [1] ?_))))
  obtain ⟨x1,Z3⟩:=Zr s.kids k om
  have hks:=Us Z3
  exact Zm (Zg none (k:Int) 2 (U2 Z3)) (Z2 1 (Zy [] (DV x1) (iL [ZI x1] 1 2 fun v1=>ZQ 0 [(20,.sl [ZI x1] none)] (F3 3 k v 2 (Zb (YE (s.kids.take k))) [ZI x1] none (by rw [Dd,Wr,Vn om]) (Ty rfl) rfl (List.cons_ne_nil _ _) (by simp<;>omega) fun v2=>Z0 (az (Z2 1 (ZG k (Z0 (ZH ⟨k+1,v2,ob,rfl,rfl,rfl⟩ (wk [2,2,0] (fr (ZJ k fl)) (e:=(rc (rc (rr (ls:=Zb (YE (s.kids.take k))++Zb [ZI x1]) (Z13 Z3) rz))))))))))))))
 refine ax 0 (aD 12 (ZO 3 12 [0,1,2,3,4,5,6,7,9] [1,1,1,1] (Z8 8 (dc 8 [] [1,1,1] [b1,b1,b1] (VK s.args) ?_))))
 rintro _ _ ⟨v3,rfl,rfl⟩
 exact Zk 1 2 [10] (Z8 11 (YM 11 1 [] [] b2 [.i s.op,.i s.num,.i s.into,ZY s.args v3,.h v] (de (ZD (r3 [3] [.agg [.i s.op,.i s.num,.i s.into,ZY s.args v3,.h v]] [0] [(b2,b2)] ⟨v,rfl,rfl⟩ (Zc.agg (.cons (lr _) (.cons (lr _) (.cons (lr _) (.cons (Zc.forget _ _) (.cons (lr _) .nil)))))) (eq:=(rr (ls:=Zb (YE (s.kids.take k))) (by rw [Wx om]) rz)))))))
theorem Sx (s:Z4) (fl:Bool) (hz:s.sz<=1000000000:=by exact ob):Zi 139 [YC s] [] (fun r h=>(∃(v:Hd),r=.agg [.i s.op,.i s.num,.i s.into,Z6 s.args,.h v]/\h=[rK v 2 (Zb (YE s.kids))]/\fl=true)∨(r=YC s/\h=[]/\fl=false)):=by
 cases fl with
 | true=>exact (Sy s hz).mono fun r h ⟨v,hr,hh⟩=>.inl ⟨v,hr,hh,rfl⟩
 | false=>exact (Pm s hz).mono fun r h ⟨hr,hh⟩=>.inr ⟨hr,hh,rfl⟩
theorem Su (b:Z5) (kk:Nat) (hz:b.sz<=1000000000:=by exact ob) (hkk:kk<b.steps.length:=by exact ob):Zi 97 [ZI b] [] (fun r h=>∃(v:Hd) (u:Hd),r=.agg [.h v,.i b.result]/\h=[rK v 5 (WI b kk u.v b.steps.length),rK u 2 (UW b kk b.steps.length)]):=by
 have hbz:=V7 b
 refine ZF 28 Tryz.func97 (ar (iA (X3 b) fun b1=>iA [nl,.i 0] fun b2=>ie (ar (Cj 5 fun g1=>ZL 3 [2] (iA [nl,.i 0] fun b3=>?_)))))
 refine Zz 0 b3 [.ms g1 0 0 0,.i b.result] (ie (X4 (XN (FZ (k:=2)) (Z0 (ab 0 (Y0 (fun fz gz m F h=>∃(k:Nat) (v:Hd) (u:Hd),(k<=b.steps.length)/\F=sF [1,2,3] fz [(4,.i k)]/\h=[.obj b3 [.h v,.i b.result],Zh gz 3,Zh gz 4,rK v 5 (WI b kk u.v k),rK u 2 (UW b kk k)]/\m=b.steps.length-k) _ _ _ ⟨0,(⟨some ⟨g1,0,none⟩,0,0⟩:Hd),hN,ob,rfl,rfl,rfl⟩ (wk [1,2,2,1,0] (Y5 fl) (e:=(rc (rc (rc (rr (ls:=[]) (by first|exact Ng.symm|exact Nj.symm) (rr (ls:=[]) (by first|exact Ng.symm|exact Nj.symm) rz))))))) ?_))))))
 rintro m F h ⟨k,v,u,Yb,rfl,rfl,rfl⟩
 refine Yf 3 [2] (iw (V3 b.steps) (ZZ ((k:Int)<(b.steps.length:Int)) (fun Za=>?_) (fun Za=>?_)))
 ·refine ak (aq (ab 1 (aE 12 (ZO 7 12 [0,1,2,3,4] [0,2] ?_))))
  obtain ⟨x1,Z3⟩:=Zr b.steps k om
  have hss:=Qf Z3
  refine dx 5 (Zg none (k:Int) 5 (Wc Z3)) (Zk 5 6 [6] (Z8 7 (dc 7 [] [0] [b3] (Sx x1 (decide (k=kk))) ?_)))
  rintro _ _ (⟨v1,rfl,rfl,Y4⟩|⟨rfl,rfl,Ym⟩)
  ·have hke:k=kk:=of_decide_eq_true Y4
   exact Ev (PP [1,1,1,0,0,0] (h':=[.obj b3 [.h v,.i b.result],.obj b2 [nl,.i 0],.obj b1 (X3 b),rK v1 2 (Zb (YE x1.kids)),rK v 5 (WI b kk u.v k),rK u 2 (UW b kk k)]) (d:=[]) kr) (Z8 8 (dL 8 [0] [b3] [.agg [.i x1.op,.i x1.num,.i x1.into,Z6 x1.args,.h v1]] 1 5 fun v2=>Yr 3 3 [] [(24,.sl [.agg [.i x1.op,.i x1.num,.i x1.into,Z6 x1.args,.h v1]] none)] (Z8 9 (Et 9 5 k [] [] v 5 (WI b kk u.v k) [.agg [.i x1.op,.i x1.num,.i x1.into,Z6 x1.args,.h v1]] none (HL om) (Ty rfl) rfl (List.cons_ne_nil _ _) (by simp<;>omega) fun v3=>Zk 1 2 [10] (Z8 11 (YM 11 2 [] [] b3 [.h v3,.i b.result] (de (az (Z2 1 (ZG k (Z0 (ZH ⟨k+1,v3,v1,ob,rfl,rfl,rfl⟩ (wk [0,2,2,0,1] (ZJ k fl) (e:=(rc (rc (rc (rr (ls:=WI b kk u.v k++Zb [.agg [.i x1.op,.i x1.num,.i x1.into,Z6 x1.args,.h v1]]) (by first|(subst hke;exact Nf Z3)|(subst hke;exact Ni Z3)) (rr (ls:=Zb (YE x1.kids)) (by first|(subst hke;exact Nf Z3)|(subst hke;exact Ni Z3)) rz)))))))))))))))))))
  have hke:¬k=kk:=of_decide_eq_false Ym
  exact Z8 8 (dL 8 [0] [b3] [YC x1] 1 5 fun v4=>Yr 3 3 [] [(24,.sl [YC x1] none)] (Z8 9 (Et 9 4 k [] [] v 5 (WI b kk u.v k) [YC x1] none (HL om) (Ty rfl) rfl (List.cons_ne_nil _ _) (by simp<;>omega) fun v5=>Zk 1 2 [10] (Z8 11 (YM 11 2 [] [] b3 [.h v5,.i b.result] (de (az (Z2 1 (ZG k (Z0 (ZH ⟨k+1,v5,u,ob,rfl,rfl,rfl⟩ (wk [0,2,2,0,1] (ZJ k fl) (e:=(rc (rc (rc (rr (ls:=WI b kk u.v k++Zb [YC x1]) (by first|exact Nc Z3 hke|exact Nh hke) (rr (ls:=UW b kk k) (by first|exact Nc Z3 hke|exact Nh hke) rz))))))))))))))))))
 exact ax 0 (Zu 1 [0] (Zz 1 b2 [.h v,.i b.result] (ie (ZD (r3 [3,3] [.agg [.h v,.i b.result]] [0] [(b2,b2)] ⟨v,u,rfl,rfl⟩ (lr _) (eq:=(rr (ls:=WI b kk u.v k) (by rw [show k=b.steps.length by omega]) (rr (ls:=UW b kk k) (by rw [show k=b.steps.length by omega]) rz))))))))
theorem Z39 (rd:Nat) (bs:LI) (p:Nat) (b:Z5) (ZE:∀z∈bs,0<=z/\z<=255) (hp:p+(10*b.sz)<=1000000000) (hz:b.sz<=20000000) (hg:b.rgb) (h0:b.steps.length=0):Zi 114 [.p rd 0,ZI b] [Yt rd bs p] (fun r h=>∃(y:Z5) (p2:Nat),r=ZI y/\h=[Yt rd bs p2]/\Xw b y/\p<=p2/\p2<=p+(10*b.sz)):=by
 have hbp:=b.sz_pos
 refine ZF 109 Tryz.func114 (ar (iA (X3 b) fun b1=>iA [nl,.i 0] fun b2=>ie (Zu 1 [1] (Zy [] (DV b) (iA [nl,.i 0] fun b3=>Zz 0 b3 (X3 b) (ie (Yf 2 [0] (iw (V3 b.steps) (Z2 2 (ib (b:=((b.steps.length:Int)==0)) 14 (fun Zd=>?_) (fun Zd=>?_)))))))))))
 ·refine Z0 (WU (Yc 1 (iL (Z7 [0,1,2,3,-1,99]) 6 1 fun v1=>ZQ 0 [(20,Z6 [0,1,2,3,-1,99])] (ic [4] (VE rd bs p [0,1,2,3,-1,99] (ZE:=ob)) ?_))))
  rintro _ _ ⟨z1,rfl,rfl,Ym⟩
  have hon:=Ym
  simp only [YH,List.not_mem_nil,or_false] at hon
  exact Z2 1 (Zz 2 b3 [WE b.steps,.i z1] (ie (Zu 1 [0] (Zz 3 b2 [WE b.steps,.i z1] (ie (ZD (r3 [2] [.agg [WE b.steps,.i z1]] [0] [(b2,b2)] ⟨(Z5.mk b.steps z1),p+1,rfl,rfl,⟨Xw.result hg _,by have:=b.sz_pos;omega,by have:=b.sz_pos;omega⟩⟩ (lr _))))))))
 have YQ:¬((b.steps.length:Int)=0):=Yd Zs Zd
 exact absurd (show (b.steps.length:Int)=0 by omega) YQ
theorem Z3a (rd:Nat) (bs:LI) (p:Nat) (b:Z5) (ZE:∀z∈bs,0<=z/\z<=255) (hp:p+(10*b.sz)<=1000000000) (hz:b.sz<=20000000) (hg:b.rgb) (h0:0<b.steps.length) (ih:∀(rd:Nat) (bs:LI) (p:Nat) (b2:Z5),(∀z∈bs,0<=z/\z<=255)->(p+(10*b2.sz)<=1000000000)->(b2.sz<=20000000)->(b2.rgb)->(b2.sz<b.sz)->Zi 114 [.p rd 0,ZI b2] [Yt rd bs p] (fun r h=>∃(y:Z5) (p2:Nat),r=ZI y/\h=[Yt rd bs p2]/\Xw b2 y/\p<=p2/\p2<=p+(10*b2.sz))):Zi 114 [.p rd 0,ZI b] [Yt rd bs p] (fun r h=>∃(y:Z5) (p2:Nat),r=ZI y/\h=[Yt rd bs p2]/\Xw b y/\p<=p2/\p2<=p+(10*b.sz)):=by
 have hbp:=b.sz_pos
 obtain ⟨kk,hkk⟩:∃kk,kk=(A6 bs (p+1) (b.steps.length:Int)).toNat:=⟨_,rfl⟩
 have hkl:kk<b.steps.length:=by have:=Z7m (bs:=bs) (p:=p+1) (mx:=(b.steps.length:Int)) om;omega
 obtain ⟨sk,hsk⟩:=Zr b.steps kk hkl
 have hsb:=Qf hsk
 have hsg:=Z8m hg hsk
 have hst:=V7 b
 refine ZF 109 Tryz.func114 (ar (iA (X3 b) fun b1=>iA [nl,.i 0] fun b2=>ie (Zu 1 [1] (ic [] (Su b kk) ?_))))
 rintro _ _ ⟨v1,u1,rfl,rfl⟩
 refine Dq 0 b.steps.length (v:=v1) (HL (kk:=kk) (u:=u1.v) (X9 b.steps.length)) om (fun g1 c1 he1=>?_)
 subst he1
 refine XN (PP [0,1,1,1,0] (h':=[.row (.slice (some ⟨g1,0,none⟩) b.steps.length c1) 5 (WI b kk u1.v b.steps.length),.obj b2 [nl,.i 0],.obj b1 (X3 b),Yt rd bs p,rK u1 2 (UW b kk b.steps.length)]) (d:=[]) kr) (iA [nl,.i 0] fun b3=>Zz 0 b3 [.ms g1 0 b.steps.length c1,.i b.result] (ie (Yf 2 [0] (io (.i b.steps.length) (.i b.steps.length) (lr _) (Z2 2 (ib (b:=((b.steps.length:Int)==0)) 14 (fun Zd=>?_) (fun Zd=>?_)))))))
 ·have Y4:(b.steps.length:Int)=0:=(Zs).1 Zd
  exact absurd Y4 om
 have Ym:¬((b.steps.length:Int)=0):=Yd Zs Zd
 refine Z2 1 (ic [4] (XW rd bs p 5 (ZE:=ob)) ?_)
 rintro _ _ ⟨k1,rfl,rfl,YQ⟩
 refine YG (k1==0) Zs (fun Za=>?_) (fun Za=>?_)
 ·refine ar (XN (IG 5 2 b kk sk u1.v (.slice (some ⟨g1,0,none⟩) b.steps.length c1) hsk) (XN (T0 0 2 0 (.slice (some ⟨g1,0,none⟩) b.steps.length c1) 5 b3 (Zv b.steps) [.ms g1 0 b.steps.length c1,.i b.result] (Xc _) rfl) (Z2 1 (iL (Z7 [0,1,2,3,-1,99]) 6 1 fun v2=>ZQ 0 [(20,Z6 [0,1,2,3,-1,99])] (ic [4] (VE rd bs (p+1) [0,1,2,3,-1,99] (ZE:=ob)) ?_)))))
  rintro _ _ ⟨z1,rfl,rfl,YZ⟩
  have hon:=YZ
  simp only [YH,List.not_mem_nil,or_false] at hon
  exact Z2 1 (Zz 2 b3 [YS b.steps (.slice (some ⟨g1,0,none⟩) b.steps.length c1),.i z1] (ie (Zu 1 [0] (Zz 5 b2 [YS b.steps (.slice (some ⟨g1,0,none⟩) b.steps.length c1),.i z1] (ie (ZD (r3 [2] [.agg [YS b.steps (.slice (some ⟨g1,0,none⟩) b.steps.length c1),.i z1]] [0] [(b2,b2)] ⟨(Z5.mk b.steps z1),(p+1)+1,rfl,rfl,(by first|exact ⟨Xw.result hg _,by omega,by omega⟩|exact ⟨Xw.kid hg hsk hck hyb.1,by omega,by omega⟩|exact ⟨Xw.del hg,by omega,by omega⟩|exact ⟨Xw.put hg,by omega,by omega⟩|exact ⟨Xw.set hg hsk ⟨by have:=hys.1.1;omega,hys.1.2⟩,by omega,by omega⟩)⟩ (Zc.agg (.cons (Zc.forget _ _) (.cons (lr _) .nil))))))))))
 refine ak (Zu 3 [1] (io (.i b.steps.length) (.i b.steps.length) (lr _) (ic [0] (Z32 rd bs (p+1) b.steps.length (ZE:=ob)) ?_)))
 rintro _ _ ⟨YF,rfl,rfl,Xg⟩
 have hkn:YF=kk:=by have:=Xg.2;omega
 refine Z0 (Yf 3 [1] (Zm (XV g1 b.steps.length c1 YF 5 (YF:Int)) (Z2 1 (VU (WX 2 g1 b.steps.length c1 5 (YF*5+4) (WI b kk u1.v b.steps.length) [.h u1] 50 (.h u1) (by rw [hkn];exact Fd hsk)) (Zm (Na 5 sk.kids.length u1 2 (UW b kk b.steps.length) (by rw [HM hsk];exact Dd _)) (Z2 2 (ib (b:=(decide ((sk.kids.length:Int)>0))) 37 (fun ZC=>?_) (fun ZC=>?_))))))))
 ·have XX:(sk.kids.length:Int)>0:=(dq).1 ZC
  refine Z2 1 (ic [0] (XW rd bs ((p+1)+1) 3 (ZE:=ob)) ?_)
  rintro _ _ ⟨k2,rfl,rfl,Wu⟩
  refine ZZ (k2>0) (fun Zf=>?_) (fun Zf=>?_)
  ·refine ar (XN (CG 5 u1.v 2 (UW b kk b.steps.length) (Zb (YE sk.kids)) (HM hsk)) (Dq 0 sk.kids.length (v:=u1) (Dd _) om (fun g2 c2 he2=>?_)))
   subst he2
   refine ZL 4 [2] (Zm (XV g1 b.steps.length c1 YF 5 (YF:Int)) (Z2 1 (VU (WX 3 g1 b.steps.length c1 5 (YF*5+4) (WI b kk (.slice (some ⟨g2,0,none⟩) sk.kids.length c2) b.steps.length) [.ms g2 0 sk.kids.length c2] 50 (.ms g2 0 sk.kids.length c2) (by rw [hkn];exact Fd hsk)) (io (.i sk.kids.length) (.i sk.kids.length) (lr _) (ic [1] (Jg rd bs (((p+1)+1)+1) sk.kids.length (ZE:=ob)) ?_)))))
   rintro _ _ ⟨X0,rfl,rfl,WZ⟩
   obtain ⟨ck,hck⟩:=Zr sk.kids X0 om
   have hckz:=Us hck
   have hckb:=Qf hsk
   have hckg:=Z8l hg hsk hck
   refine Z0 (aD 20 (ZO 17 20 [0,1,2] [2] (dx 3 (XV g1 b.steps.length c1 YF 5 (YF:Int)) (Zk 15 16 [4] (U1 5 (WX 3 g1 b.steps.length c1 5 (YF*5+4) (WI b kk (.slice (some ⟨g2,0,none⟩) sk.kids.length c2) b.steps.length) [.ms g2 0 sk.kids.length c2] 50 (.ms g2 0 sk.kids.length c2) (by rw [hkn];exact Fd hsk)) (ZO 9 14 [6,7,8,9,10] [2] (dx 11 (XV g1 b.steps.length c1 YF 5 (YF:Int)) (Zk 7 8 [12] (U1 13 (WX 3 g1 b.steps.length c1 5 (YF*5+4) (WI b kk (.slice (some ⟨g2,0,none⟩) sk.kids.length c2) b.steps.length) [.ms g2 0 sk.kids.length c2] 50 (.ms g2 0 sk.kids.length c2) (by rw [hkn];exact Fd hsk)) (Zk 5 6 [14] (dx 15 (XV g2 sk.kids.length c2 X0 2 (X0:Int)) (U1 16 (WX 1 g2 sk.kids.length c2 2 (X0*2) (Zb (YE sk.kids)) (X3 ck) 34 (ZI ck) (Z12 hck)) (Z8 17 (dc 17 [0] [2,1] [g1,b3] (ih rd bs ((((p+1)+1)+1)+1) ck ob ob ob ob ob) ?_))))))))))))))
   rintro _ _ ⟨y1,p21,rfl,rfl,Vs⟩
   have hyb:=Vs
   exact dx 18 (XV g2 sk.kids.length c2 X0 2 (X0:Int)) (Z8 19 (Au 19 1 [] [] g2 sk.kids.length c2 2 (X0*2) (X3 y1) (Zb (YE sk.kids)) (Zb (YE (sk.kids.set X0 y1))) (by rw [Dd];simp only [YV,Xn];omega) (Z14 y1 om) (de (ar (XN (PM 0 2 b kk sk (sk.kids.set X0 y1) (.slice (some ⟨g2,0,none⟩) sk.kids.length c2) (.slice (some ⟨g1,0,none⟩) b.steps.length c1) hsk) (XN (T0 0 2 0 (.slice (some ⟨g1,0,none⟩) b.steps.length c1) 5 b3 (Zv (b.steps.set kk (Z4.mk sk.op sk.num sk.into sk.args (sk.kids.set X0 y1)))) [.ms g1 0 b.steps.length c1,.i b.result] (Xc _) rfl) (ZL 1 [0] (Zz 4 b2 [YS (b.steps.set kk (Z4.mk sk.op sk.num sk.into sk.args (sk.kids.set X0 y1))) (.slice (some ⟨g1,0,none⟩) b.steps.length c1),.i b.result] (ie (ZD (r3 [4] [.agg [YS (b.steps.set kk (Z4.mk sk.op sk.num sk.into sk.args (sk.kids.set X0 y1))) (.slice (some ⟨g1,0,none⟩) b.steps.length c1),.i b.result]] [0] [(b2,b2)] ⟨(Z5.mk (b.steps.set kk (Z4.mk sk.op sk.num sk.into sk.args (sk.kids.set X0 y1))) b.result),p21,rfl,rfl,(by first|exact ⟨Xw.result hg _,by omega,by omega⟩|exact ⟨Xw.kid hg hsk hck hyb.1,by omega,by omega⟩|exact ⟨Xw.del hg,by omega,by omega⟩|exact ⟨Xw.put hg,by omega,by omega⟩|exact ⟨Xw.set hg hsk ⟨by have:=hys.1.1;omega,hys.1.2⟩,by omega,by omega⟩)⟩ (Zc.agg (.cons (Zc.forget _ _) (.cons (lr _) .nil))))))))))))))
  refine ak (X4 (XN (IG 5 2 b kk sk u1.v (.slice (some ⟨g1,0,none⟩) b.steps.length c1) hsk) (Z2 1 (ic [2] (XW rd bs (((p+1)+1)+1) 4 (ZE:=ob)) ?_))))
  rintro _ _ ⟨k3,rfl,rfl,UT⟩
  refine ie (ab 0 (ar (YG (k3==0) Zs (fun ZA=>?_) (fun ZA=>?_))))
  ·exact aE 12 (ZO 9 12 [0,1,2] [3] (dx 3 (HH 1 g1 b.steps.length c1 YF 5 (Zb (Zv b.steps))) (ZO 5 8 [4,5,6] [3] (da 7 (((YF+1:Nat):Int)) (((YF:Int))+(1)) (dx 8 (N8 1 g1 b.steps.length c1 (YF+1) 5 (Zb (Zv b.steps))) (Z8 9 (LO 9 1 [] [] g1 b.steps.length c1 YF (YF+1) 5 (Zb (Zv b.steps)) (VD _) (Zk 1 2 [10] (Z8 11 (YM 11 3 [] [] b3 [.ms g1 0 (YF+(b.steps.length-(YF+1))) c1,.i b.result] (de (ar (XN (CG 1 (.slice (some ⟨g1,0,none⟩) (YF+(b.steps.length-(YF+1))) c1) 5 (((Zb (Zv b.steps)).take (YF*5))++((Zb (Zv b.steps)).drop ((YF+1)*5))) (Zb (Zv (b.steps.take kk++b.steps.drop (kk+1)))) (by rw [hkn];exact Mi hkl)) (XN (T0 0 0 0 (.slice (some ⟨g1,0,none⟩) (YF+(b.steps.length-(YF+1))) c1) 5 b3 (Zv (b.steps.take kk++b.steps.drop (kk+1))) [.ms g1 0 (YF+(b.steps.length-(YF+1))) c1,.i b.result] (Xc _) rfl) (ZL 1 [0] (Zz 4 b2 [YS (b.steps.take kk++b.steps.drop (kk+1)) (.slice (some ⟨g1,0,none⟩) (YF+(b.steps.length-(YF+1))) c1),.i b.result] (ie (ZD (r3 [3] [.agg [YS (b.steps.take kk++b.steps.drop (kk+1)) (.slice (some ⟨g1,0,none⟩) (YF+(b.steps.length-(YF+1))) c1),.i b.result]] [0] [(b2,b2)] ⟨(Z5.mk (b.steps.take kk++b.steps.drop (kk+1)) b.result),(((p+1)+1)+1)+1,rfl,rfl,(by first|exact ⟨Xw.result hg _,by omega,by omega⟩|exact ⟨Xw.kid hg hsk hck hyb.1,by omega,by omega⟩|exact ⟨Xw.del hg,by omega,by omega⟩|exact ⟨Xw.put hg,by omega,by omega⟩|exact ⟨Xw.set hg hsk ⟨by have:=hys.1.1;omega,hys.1.2⟩,by omega,by omega⟩)⟩ (Zc.agg (.cons (Zc.forget _ _) (.cons (lr _) .nil))))))))))))))))))))))
  refine ar (YG (k3==1) Zs (fun Yl=>?_) (fun Yl=>?_))
  ·refine aD 10 (Ev (T0 1 2 0 (.slice (some ⟨g1,0,none⟩) b.steps.length c1) 5 b3 (Zv b.steps) [.ms g1 0 b.steps.length c1,.i b.result] (Xc _) rfl) (ZO 6 10 [0,1,2,5] [0] (Z8 3 (dL 3 [0] [b3] (Z7 [14,15,15,16,17]) 5 1 fun v3=>Yr 5 5 [] [(102,Z6 [14,15,15,16,17])] (Z8 4 (dc 4 [3] [0] [b3] (VE rd bs ((((p+1)+1)+1)+1) [14,15,15,16,17] (ZE:=ob)) ?_))))))
   rintro _ _ ⟨z2,rfl,rfl,UU⟩
   have hon:=UU
   simp only [YH,List.not_mem_nil,or_false] at hon
   refine Z8 6 (dc 6 [0] [0] [b3] (XW rd bs (((((p+1)+1)+1)+1)+1) 4 (ZE:=ob)) ?_)
   rintro _ _ ⟨k4,rfl,rfl,UV⟩
   exact Z8 7 (Yq 7 [] [1] [b3] (Jq z2 k4) (Yr 2 2 [] [(99,ZI b)] (Z8 8 (Yq 8 [] [] [] (EO b YF (Zx z2 k4)) (Z8 9 (YM 9 5 [] [] b2 (X3 (Z5.mk (Wp b.steps YF (Zx z2 k4)) b.result)) (de (ZD (r3 [1] [ZI (Z5.mk (Wp b.steps YF (Zx z2 k4)) b.result)] [0] [(b2,b2)] ⟨(Z5.mk (Wp b.steps YF (Zx z2 k4)) b.result),(((((p+1)+1)+1)+1)+1)+1,rfl,rfl,(by first|exact ⟨Xw.result hg _,by omega,by omega⟩|exact ⟨Xw.kid hg hsk hck hyb.1,by omega,by omega⟩|exact ⟨Xw.del hg,by omega,by omega⟩|exact ⟨Xw.put hg,by omega,by omega⟩|exact ⟨Xw.set hg hsk ⟨by have:=hys.1.1;omega,hys.1.2⟩,by omega,by omega⟩)⟩ (lr _))))))))))
  refine aE 12 (ZO 5 12 [0,1,2,3,4,5,6] [3,3] (dx 7 (XV g1 b.steps.length c1 YF 5 (YF:Int)) (U1 8 (WX 1 g1 b.steps.length c1 5 (YF*5) (Zb (Zv b.steps)) (Xm sk) 52 (YC sk) (by rw [hkn];exact He hsk)) (Z8 9 (dc 9 [0] [1] [b3] (MJ rd bs ((((p+1)+1)+1)+1) sk (ZE:=ob)) ?_)))))
  rintro _ _ ⟨y2,p22,rfl,rfl,Q6⟩
  have hys:=Q6
  exact dx 10 (XV g1 b.steps.length c1 YF 5 (YF:Int)) (Z8 11 (Au 11 1 [] [] g1 b.steps.length c1 5 (YF*5) (Xm y2) (Zb (Zv b.steps)) (Zb (Zv (b.steps.set kk y2))) (by rw [Qr];simp only [YV,Xn];omega) (by rw [hkn];exact EJ hsk) (de (ar (XN (T0 0 2 0 (.slice (some ⟨g1,0,none⟩) b.steps.length c1) 5 b3 (Zv (b.steps.set kk y2)) [.ms g1 0 b.steps.length c1,.i b.result] (Xc _) rfl) (ZL 1 [0] (Zz 4 b2 [YS (b.steps.set kk y2) (.slice (some ⟨g1,0,none⟩) b.steps.length c1),.i b.result] (ie (ZD (r3 [3] [.agg [YS (b.steps.set kk y2) (.slice (some ⟨g1,0,none⟩) b.steps.length c1),.i b.result]] [0] [(b2,b2)] ⟨(Z5.mk (b.steps.set kk y2) b.result),p22,rfl,rfl,(by first|exact ⟨Xw.result hg _,by omega,by omega⟩|exact ⟨Xw.kid hg hsk hck hyb.1,by omega,by omega⟩|exact ⟨Xw.del hg,by omega,by omega⟩|exact ⟨Xw.put hg,by omega,by omega⟩|exact ⟨Xw.set hg hsk ⟨by have:=hys.1.1;omega,hys.1.2⟩,by omega,by omega⟩)⟩ (Zc.agg (.cons (Zc.forget _ _) (.cons (lr _) .nil)))))))))))))
 have TP:¬((sk.kids.length:Int)>0):=Yd dq ZC
 refine Z0 (WT (ak (X4 (XN (IG 5 2 b kk sk u1.v (.slice (some ⟨g1,0,none⟩) b.steps.length c1) hsk) (Z2 1 (ic [2] (XW rd bs ((p+1)+1) 4 (ZE:=ob)) ?_))))))
 rintro _ _ ⟨k5,rfl,rfl,Ke⟩
 refine ie (ab 0 (ar (YG (k5==0) Zs (fun Xd=>?_) (fun Xd=>?_))))
 ·exact aE 12 (ZO 9 12 [0,1,2] [3] (dx 3 (HH 1 g1 b.steps.length c1 YF 5 (Zb (Zv b.steps))) (ZO 5 8 [4,5,6] [3] (da 7 (((YF+1:Nat):Int)) (((YF:Int))+(1)) (dx 8 (N8 1 g1 b.steps.length c1 (YF+1) 5 (Zb (Zv b.steps))) (Z8 9 (LO 9 1 [] [] g1 b.steps.length c1 YF (YF+1) 5 (Zb (Zv b.steps)) (VD _) (Zk 1 2 [10] (Z8 11 (YM 11 3 [] [] b3 [.ms g1 0 (YF+(b.steps.length-(YF+1))) c1,.i b.result] (de (ar (XN (CG 1 (.slice (some ⟨g1,0,none⟩) (YF+(b.steps.length-(YF+1))) c1) 5 (((Zb (Zv b.steps)).take (YF*5))++((Zb (Zv b.steps)).drop ((YF+1)*5))) (Zb (Zv (b.steps.take kk++b.steps.drop (kk+1)))) (by rw [hkn];exact Mi hkl)) (XN (T0 0 0 0 (.slice (some ⟨g1,0,none⟩) (YF+(b.steps.length-(YF+1))) c1) 5 b3 (Zv (b.steps.take kk++b.steps.drop (kk+1))) [.ms g1 0 (YF+(b.steps.length-(YF+1))) c1,.i b.result] (Xc _) rfl) (ZL 1 [0] (Zz 4 b2 [YS (b.steps.take kk++b.steps.drop (kk+1)) (.slice (some ⟨g1,0,none⟩) (YF+(b.steps.length-(YF+1))) c1),.i b.result] (ie (ZD (r3 [3] [.agg [YS (b.steps.take kk++b.steps.drop (kk+1)) (.slice (some ⟨g1,0,none⟩) (YF+(b.steps.length-(YF+1))) c1),.i b.result]] [0] [(b2,b2)] ⟨(Z5.mk (b.steps.take kk++b.steps.drop (kk+1)) b.result),((p+1)+1)+1,rfl,rfl,(by first|exact ⟨Xw.result hg _,by omega,by omega⟩|exact ⟨Xw.kid hg hsk hck hyb.1,by omega,by omega⟩|exact ⟨Xw.del hg,by omega,by omega⟩|exact ⟨Xw.put hg,by omega,by omega⟩|exact ⟨Xw.set hg hsk ⟨by have:=hys.1.1;omega,hys.1.2⟩,by omega,by omega⟩)⟩ (Zc.agg (.cons (Zc.forget _ _) (.cons (lr _) .nil))))))))))))))))))))))
 refine ar (YG (k5==1) Zs (fun Xp=>?_) (fun Xp=>?_))
 ·refine aD 10 (Ev (T0 1 2 0 (.slice (some ⟨g1,0,none⟩) b.steps.length c1) 5 b3 (Zv b.steps) [.ms g1 0 b.steps.length c1,.i b.result] (Xc _) rfl) (ZO 6 10 [0,1,2,5] [0] (Z8 3 (dL 3 [0] [b3] (Z7 [14,15,15,16,17]) 5 1 fun v4=>Yr 5 5 [] [(102,Z6 [14,15,15,16,17])] (Z8 4 (dc 4 [3] [0] [b3] (VE rd bs (((p+1)+1)+1) [14,15,15,16,17] (ZE:=ob)) ?_))))))
  rintro _ _ ⟨z3,rfl,rfl,QR⟩
  have hon:=QR
  simp only [YH,List.not_mem_nil,or_false] at hon
  refine Z8 6 (dc 6 [0] [0] [b3] (XW rd bs ((((p+1)+1)+1)+1) 4 (ZE:=ob)) ?_)
  rintro _ _ ⟨k6,rfl,rfl,AE⟩
  exact Z8 7 (Yq 7 [] [1] [b3] (Jq z3 k6) (Yr 2 2 [] [(99,ZI b)] (Z8 8 (Yq 8 [] [] [] (EO b YF (Zx z3 k6)) (Z8 9 (YM 9 5 [] [] b2 (X3 (Z5.mk (Wp b.steps YF (Zx z3 k6)) b.result)) (de (ZD (r3 [1] [ZI (Z5.mk (Wp b.steps YF (Zx z3 k6)) b.result)] [0] [(b2,b2)] ⟨(Z5.mk (Wp b.steps YF (Zx z3 k6)) b.result),((((p+1)+1)+1)+1)+1,rfl,rfl,(by first|exact ⟨Xw.result hg _,by omega,by omega⟩|exact ⟨Xw.kid hg hsk hck hyb.1,by omega,by omega⟩|exact ⟨Xw.del hg,by omega,by omega⟩|exact ⟨Xw.put hg,by omega,by omega⟩|exact ⟨Xw.set hg hsk ⟨by have:=hys.1.1;omega,hys.1.2⟩,by omega,by omega⟩)⟩ (lr _))))))))))
 refine aE 12 (ZO 5 12 [0,1,2,3,4,5,6] [3,3] (dx 7 (XV g1 b.steps.length c1 YF 5 (YF:Int)) (U1 8 (WX 1 g1 b.steps.length c1 5 (YF*5) (Zb (Zv b.steps)) (Xm sk) 52 (YC sk) (by rw [hkn];exact He hsk)) (Z8 9 (dc 9 [0] [1] [b3] (MJ rd bs (((p+1)+1)+1) sk (ZE:=ob)) ?_)))))
 rintro _ _ ⟨y3,p23,rfl,rfl,KH⟩
 have hys:=KH
 exact dx 10 (XV g1 b.steps.length c1 YF 5 (YF:Int)) (Z8 11 (Au 11 1 [] [] g1 b.steps.length c1 5 (YF*5) (Xm y3) (Zb (Zv b.steps)) (Zb (Zv (b.steps.set kk y3))) (by rw [Qr];simp only [YV,Xn];omega) (by rw [hkn];exact EJ hsk) (de (ar (XN (T0 0 2 0 (.slice (some ⟨g1,0,none⟩) b.steps.length c1) 5 b3 (Zv (b.steps.set kk y3)) [.ms g1 0 b.steps.length c1,.i b.result] (Xc _) rfl) (ZL 1 [0] (Zz 4 b2 [YS (b.steps.set kk y3) (.slice (some ⟨g1,0,none⟩) b.steps.length c1),.i b.result] (ie (ZD (r3 [3] [.agg [YS (b.steps.set kk y3) (.slice (some ⟨g1,0,none⟩) b.steps.length c1),.i b.result]] [0] [(b2,b2)] ⟨(Z5.mk (b.steps.set kk y3) b.result),p23,rfl,rfl,(by first|exact ⟨Xw.result hg _,by omega,by omega⟩|exact ⟨Xw.kid hg hsk hck hyb.1,by omega,by omega⟩|exact ⟨Xw.del hg,by omega,by omega⟩|exact ⟨Xw.put hg,by omega,by omega⟩|exact ⟨Xw.set hg hsk ⟨by have:=hys.1.1;omega,hys.1.2⟩,by omega,by omega⟩)⟩ (Zc.agg (.cons (Zc.forget _ _) (.cons (lr _) .nil)))))))))))))
theorem Z38 (rd:Nat) (bs:LI) (p:Nat) (b:Z5) (ZE:∀z∈bs,0<=z/\z<=255) (hp:p+10*b.sz<=1000000000:=by exact ob) (hz:b.sz<=20000000:=by exact ob) (hg:b.rgb:=by exact ob):Zi 114 [.p rd 0,ZI b] [Yt rd bs p] (fun r h=>∃(y:Z5) (p2:Nat),r=ZI y/\h=[Yt rd bs p2]/\Xw b y/\p<=p2/\p2<=p+(10*b.sz)):=by
 have key:∀k:Nat,∀(rd:Nat) (bs:LI) (p:Nat) (b2:Z5),(∀z∈bs,0<=z/\z<=255)->(p+(10*b2.sz)<=1000000000)->(b2.sz<=20000000)->(b2.rgb)->(b2.sz<k)->Zi 114 [.p rd 0,ZI b2] [Yt rd bs p] (fun r h=>∃(y:Z5) (p2:Nat),r=ZI y/\h=[Yt rd bs p2]/\Xw b2 y/\p<=p2/\p2<=p+(10*b2.sz)):=by
  intro k
  induction k with
  | zero=>intro rd bs p b2 h1 h2 h3 h4 h5;omega
  | succ k ih=>
   intro rd bs p b2 h1 h2 h3 h4 h5
   by_cases h0:b2.steps.length=0
   ·exact Z39 rd bs p b2 h1 h2 h3 h4 h0
   ·exact Z3a rd bs p b2 h1 h2 h3 h4 om fun rd bs p b3 q1 q2 q3 q4 q5=>ih rd bs p b3 q1 q2 q3 q4 om
 exact key (b.sz+1) rd bs p b ZE hp hz hg om
theorem Hq (rd:Nat) (bs:LI) (p:Nat) (n:Zq) (often:Nat) (q:Nat) (l:Nat) (ZE:∀z∈bs,0<=z/\z<=255) (hp:p+(10*q+20)<=1000000000:=by exact ob) (hzn:ZS n q l:=by exact ob) (hq:q<=9999000:=by exact ob) (hl:l<=100:=by exact ob) (ho:0<often:=by exact ob):Zi 72 [.p rd 0,Yk n,.i often] [Yt rd bs p] (fun r h=>∃(n2:Zq) (p2:Nat),r=Yk n2/\h=[Yt rd bs p2]/\ZS n2 (q+2) (l+1)/\p<=p2/\p2<=p+(10*q+20)):=by
 have hnl:=hzn.len
 refine ZF 64 Tryz.func72 (ar (iA (YJ n) fun b1=>iA [nl,nl] fun b2=>ie (YO 2 (ic [2] (Jg rd bs p often (ZE:=ob)) ?_))))
 rintro _ _ ⟨YF,rfl,rfl,Y4⟩
 refine ZZ ((YF:Int)>0) (fun Za=>?_) (fun Za=>?_)
 ·exact Zu 1 [2] (Zz 1 b2 (YJ n) (ie (ZD (r3 [1] [Yk n] [0] [(b2,b2)] ⟨n,p+1,rfl,rfl,(by first|exact ⟨hzn.le om om,by omega,by omega⟩|exact ⟨hzn.set hx1k om om om om ⟨hz1.2.2.2,hzn.rb _ (Y1 hx1k)⟩,by omega,by omega⟩|exact ⟨(hzn.le om om).ds had.1,by omega,by omega⟩|exact ⟨hzn.set hx2k om om om (by have:=hsb.1.1;omega) hsb.1.2,by omega,by omega⟩)⟩ (lr _)))))
 refine ak (Zu 3 [2] (iw (Vl n.routines) (ic [0] (Jg rd bs (p+1) n.routines.length (ZE:=ob)) ?_)))
 rintro _ _ ⟨X0,rfl,rfl,Ym⟩
 refine Z0 (YO 1 (ic [0] (XW rd bs ((p+1)+1) 8 (ZE:=ob)) ?_))
 rintro _ _ ⟨k1,rfl,rfl,YQ⟩
 refine ie (ab 0 (ar (YG (k1==0) Zs (fun Zf=>?_) (fun Zf=>?_))))
 ·refine aD 11 (ZO 6 11 [0,1,2,3,4] [2,2] ?_)
  obtain ⟨x1,Z3⟩:=Zr n.routines X0 om
  have hx1k:=Z3
  have hz1:=hzn.rt _ (Y1 Z3)
  refine dx 5 (Zg none (X0:Int) 5 (Wm Z3)) (Zk 3 5 [6,7] (KC (fun fz gz F h=>∃(g1:Nat) (c1:Nat) (b3:Nat),F=sF [0,6,7] fz [(8,.p b3 0)]/\h=[.obj b3 [Ya n.decls,.ms g1 0 n.routines.length c1],.row (.slice (some ⟨g1,0,none⟩) n.routines.length c1) 5 (Zb (Yy (n.routines.set X0 (ZV.mk x1.params x1.lent x1.result x1.body)))),Zh gz 0,Zh gz 1,Zh gz 2]) ?_ ?_))
  ·refine Vq 8 9 ?_ ?_
   ·refine dc 8 [] [] [] (Hr n X0 x1.body x1 (hr:=Z3)) ?_
    rintro _ _ ⟨g1,c1,rfl,rfl⟩
    exact Z8 9 (dA 9 [] [] [nl,nl] fun b3=>Z8 10 (YM 10 0 [] [] b3 [Ya n.decls,.ms g1 0 n.routines.length c1] (de (ZT ⟨g1,c1,b3,rfl,rfl⟩ (ZM 5 fl)))))
   refine dA 9 [2,2] [b1,b1] [nl,nl] fun b4=>Z8 8 (dc 8 [] [] [] (Hr n X0 x1.body x1 (hr:=Z3)) ?_)
   rintro _ _ ⟨g2,c2,rfl,rfl⟩
   exact Z8 10 (YM 10 1 [] [] b4 [Ya n.decls,.ms g2 0 n.routines.length c2] (de (ZT ⟨g2,c2,b4,rfl,rfl⟩ (ZM 5 fl))))
  rintro F h ⟨g1,c1,b3,rfl,rfl⟩
  refine aD 14 (ZO 7 14 [0,1,2,3,4,5,6] [0,0] (dx 7 (XV g1 n.routines.length c1 X0 5 (X0:Int)) (Zk 5 6 [8] (U1 9 (WX 1 g1 n.routines.length c1 5 (X0*5+1) (Zb (Yy (n.routines.set X0 (ZV.mk x1.params x1.lent x1.result x1.body)))) [Z6 x1.lent] 31 (Z6 x1.lent) (Z19 om _)) (Z8 10 (dc 10 [2] [0] [b3] (Z3b rd bs (((p+1)+1)+1) x1.lent (ZE:=ob)) ?_))))))
  rintro _ _ ⟨zs1,p21,rfl,rfl,YZ⟩
  have hsi:=YZ
  exact dx 11 (XV g1 n.routines.length c1 X0 5 (X0:Int)) (Zk 1 2 [12] (Z8 13 (Au 13 2 [] [] g1 n.routines.length c1 5 (X0*5+1) [Z6 zs1] (Zb (Yy (n.routines.set X0 (ZV.mk x1.params x1.lent x1.result x1.body)))) (Zb (Yy (n.routines.set X0 (ZV.mk x1.params zs1 x1.result x1.body)))) (by rw [C9,Tp];simp only [YV,Xn];omega) (Z1b om _ _) (de (ar (XN (T0 0 1 1 (.slice (some ⟨g1,0,none⟩) n.routines.length c1) 5 b3 (Yy (n.routines.set X0 (ZV.mk x1.params zs1 x1.result x1.body))) [Ya n.decls,.ms g1 0 n.routines.length c1] (U3 _) rfl) (ZL 1 [0] (Zz 3 b2 [Ya n.decls,Wd (n.routines.set X0 (ZV.mk x1.params zs1 x1.result x1.body)) (.slice (some ⟨g1,0,none⟩) n.routines.length c1)] (ie (ZD (r3 [3] [.agg [Ya n.decls,Wd (n.routines.set X0 (ZV.mk x1.params zs1 x1.result x1.body)) (.slice (some ⟨g1,0,none⟩) n.routines.length c1)]] [0] [(b2,b2)] ⟨(Zq.mk n.decls (n.routines.set X0 (ZV.mk x1.params zs1 x1.result x1.body))),p21,rfl,rfl,(by first|exact ⟨hzn.le om om,by omega,by omega⟩|exact ⟨hzn.set hx1k om om om om ⟨hz1.2.2.2,hzn.rb _ (Y1 hx1k)⟩,by omega,by omega⟩|exact ⟨(hzn.le om om).ds had.1,by omega,by omega⟩|exact ⟨hzn.set hx2k om om om (by have:=hsb.1.1;omega) hsb.1.2,by omega,by omega⟩)⟩ (Zc.agg (.cons (lr _) (.cons (Zc.forget _ _) .nil))))))))))))))
 refine ar (YG (k1==1) Zs (fun ZA=>?_) (fun ZA=>?_))
 ·refine aD 6 (ZO 3 6 [0,2,3] [2] (Z8 1 (dc 1 [0] [1] [b1] (Z1j rd bs (((p+1)+1)+1) (ZE:=ob)) ?_)))
  rintro _ _ ⟨dz1,p22,rfl,rfl,Xg⟩
  have had:=Xg
  exact Zk 1 2 [4] (Z8 5 (YM 5 1 [] [] b2 [Ya dz1,Tz n.routines] (de (ZD (r3 [1] [.agg [Ya dz1,Tz n.routines]] [0] [(b2,b2)] ⟨(Zq.mk dz1 n.routines),p22,rfl,rfl,(by first|exact ⟨hzn.le om om,by omega,by omega⟩|exact ⟨hzn.set hx1k om om om om ⟨hz1.2.2.2,hzn.rb _ (Y1 hx1k)⟩,by omega,by omega⟩|exact ⟨(hzn.le om om).ds had.1,by omega,by omega⟩|exact ⟨hzn.set hx2k om om om (by have:=hsb.1.1;omega) hsb.1.2,by omega,by omega⟩)⟩ (lr _))))))
 refine ak (aD 12 (ZO 6 12 [0,1,2,3,4,5] [2,2] ?_))
 obtain ⟨x2,Zo⟩:=Zr n.routines X0 om
 have hx2k:=Zo
 have hz2:=hzn.rt _ (Y1 Zo)
 refine dx 6 (Zg none (X0:Int) 5 (Wm Zo)) (Zk 3 5 [7,8] (Z8 9 (dc 9 [0] [1] [b1] (Z38 rd bs (((p+1)+1)+1) x2.body (ZE:=ob) (hg:=⟨hz2.2.2.2,hzn.rb _ (Y1 hx2k)⟩)) ?_)))
 rintro _ _ ⟨y1,p23,rfl,rfl,XX⟩
 have hsb:=XX
 exact Z8 10 (Yq 10 [] [] [] (MK n X0 y1 x2 (hr:=Zo)) (Z8 11 (YM 11 1 [] [] b2 (YJ (withR n X0 x2 y1)) (de (ZD (r3 [1] [Yk (withR n X0 x2 y1)] [0] [(b2,b2)] ⟨(withR n X0 x2 y1),p23,rfl,rfl,(by first|exact ⟨hzn.le om om,by omega,by omega⟩|exact ⟨hzn.set hx1k om om om om ⟨hz1.2.2.2,hzn.rb _ (Y1 hx1k)⟩,by omega,by omega⟩|exact ⟨(hzn.le om om).ds had.1,by omega,by omega⟩|exact ⟨hzn.set hx2k om om om (by have:=hsb.1.1;omega) hsb.1.2,by omega,by omega⟩)⟩ (lr _)))))))
theorem Z1k (rd:Nat) (bs:LI) (p:Nat) (ZE:∀z∈bs,0<=z/\z<=255) (hp:p+73706400<=1000000000:=by exact ob):Zi 89 [.p rd 0] [Yt rd bs p] (fun r h=>∃(n2:Zq) (p2:Nat),r=Yk n2/\h=[Yt rd bs p2]/\ZS n2 7330632 11/\p<=p2/\p2<=p+73706400):=by
 refine ZF 14 Tryz.func89 (ar (iA [nl,nl] fun b1=>ie (YO 1 (ic [1] (XW rd bs p 4 (ZE:=ob)) ?_))))
 rintro _ _ ⟨k1,rfl,rfl,Y4⟩
 refine YG (k1==0) Zs (fun Za=>?_) (fun Za=>?_)
 ·refine Yc 2 (ic [0] (Hp rd bs (p+1) (ZE:=ob)) ?_)
  rintro _ _ ⟨n1,p21,rfl,rfl,Ym⟩
  have hpf:=((FO.zn Ym.1).le (show 181<=7330630 by omega)).zs
  refine ic [0] (Hq rd bs p21 n1 8 7330630 10 (ZE:=ob) (hzn:=(by first|exact hpf|exact hbf))) ?_
  rintro _ _ ⟨n21,p22,rfl,rfl,YQ⟩
  have hsf:=YQ
  exact Zz 1 b1 (YJ n21) (ie (ZD (r3 [1] [Yk n21] [0] [(b1,b1)] ⟨n21,p22,rfl,rfl,⟨hsf.1,by omega,by omega⟩⟩ (lr _))))
 refine ak (Yc 2 (ic [0] (Z1n rd bs (p+1) (ZE:=ob)) ?_))
 rintro _ _ ⟨n2,p23,rfl,rfl,YZ⟩
 have hbf:=YZ.1.zs
 refine ic [0] (Hq rd bs p23 n2 8 7330630 10 (ZE:=ob) (hzn:=(by first|exact hpf|exact hbf))) ?_
 rintro _ _ ⟨n22,p24,rfl,rfl,Xg⟩
 have hsf:=Xg
 exact Zz 1 b1 (YJ n22) (ie (ZD (r3 [1] [Yk n22] [0] [(b1,b1)] ⟨n22,p24,rfl,rfl,⟨hsf.1,by omega,by omega⟩⟩ (lr _))))
theorem CV (xs:LI) (hl_xs:xs.length<=4294967296:=by exact ob):Zi 92 [Z6 xs] [] (fun r h=>∃(v:Value),r=ZY xs v/\h=[.tail v 1]):=by
 refine ZF 8 Tryz.func92 (ZP (YO 1 (iN (Z7 xs) (fun hz1=>?_) ?_)))
 ·have hz1:=Z0g hz1
  exact ie (WU (ZP (BR 1 (ZD (r2 [0] [nl] ⟨(.slice none 0 0),rfl,rfl⟩ (Zc.slh _ (by first|rfl|(subst_vars;rfl))))))))
 exact ie (WT (ak (ar (iL (Z7 []) 0 1 fun v1=>Z2 1 (ip 0 (Z7 xs) (Z7 []) (Z7 xs) v1 none 1 (YD _) (YD _) (W5 _) (by simp<;>omega) (by simp [Z7]) fun v2=>Zt (r1 [0] ⟨v2,rfl,rfl⟩))))))
theorem DU (xs:LI) (ys:LI) (hl_xs:xs.length<=4294967296:=by exact ob) (hl_ys:ys.length<=4294967296:=by exact ob):Zi 208 [Z6 xs,Z6 ys] [] (Yg (.b (decide (xs=ys)))):=by
 refine ZF 26 Tryz.func208 (ZP (YO 1 (iw (Yi xs) (Z2 1 (iw (Yi ys) (YG ((xs.length:Int) != (ys.length:Int)) Y6 (fun Za=>?_) (fun Za=>?_)))))))
 ·exact ar (Zt (ZU (.b false) (lb (eq_comm.1 (decide_eq_false (fun q=>by rw [q] at Za;exact Za rfl))))))
 refine ak (YO 1 (iw (Yi xs) (Z0 (ab 0 (Y0 (fun fz gz m F h=>∃(k:Nat),(k<=xs.length)/\(xs.take k=ys.take k)/\F=sF [0,1,12] fz [(13,.i k)]/\h=gz/\m=xs.length-k) _ _ _ ⟨0,ob,ob,rfl,rfl,rfl⟩ (wk [] (Y5 fl)) ?_)))))
 rintro m F h ⟨k,Yb,Zl,rfl,rfl,rfl⟩
 refine ZP (aq (We ((k:Int)<(xs.length:Int)) (fun Zf=>?_) (fun Zf=>?_)))
 ·refine ak (aq (ab 1 (ZP (aD 9 (Zk 7 9 [0,1] ?_)))))
  obtain ⟨x1,Z3⟩:=Zr xs k om
  refine dx 2 (Zg none (k:Int) 1 (Y3 Z3)) (Zk 3 6 [3,4,5] ?_)
  obtain ⟨x2,Zo⟩:=Zr ys k om
  refine dx 6 (Zg none (k:Int) 1 (Y3 Zo)) (Zk 0 2 [7,8] (de (ac (x1 != x2) Y6 (fun ZA=>?_) (fun ZA=>?_))))
  ·exact ar (Zt (ZU (.b false) (lb (eq_comm.1 (decide_eq_false (fun q=>by subst q;rw [Z3] at Zo;cases Zo;exact ZA rfl))))))
  refine ak (az (ZG k (Z0 ?_)))
  have hdr:=Y9 Z3
  exact ZH ⟨k+1,ob,(by rw [Ww Z3,Ww Zo,Zl];have hxx:x1=x2:=om;rw [hxx]),rfl,rfl,rfl⟩ (wk [] (ZJ k fl))
 exact ax 0 (ar (Zt (ZU (.b true) (lb (eq_comm.1 (decide_eq_true (by rw [Wx om,Wx om] at Zl;exact Zl)))))))
theorem Za7 (m:Nat) (hm:m<=4294967296:=by exact ob):Zi 262 [nl,.i m] [] (fun r h=>∃(v:Hd),r=.h v/\h=[rV v []]):=by
 refine ZF 27 Tryz.func262 (Kx BH (Bb (F':=[(0,.h hN),(1,.i m)]) (h':=[rV hN []]) (wk [0] (fc (x:=nl) (Zc.hd (v:=hN)) ( fc (x:=.i m) (lr _) (Mp _)))) (ZP (X4 (ZZ ((m:Int)<0) (fun Za=>?_) (fun Za=>?_))))))
 ·exfalso;omega
 refine ak (YO 2 (Zm (XE.le (PC hN) (li (by rfl))) (Z2 1 (Zm (XE.le (Aa 0 hN []) (li (by rfl))) (ia ((0-0)) ((0)-(0)) (ia ((m:Int)) (((m:Int))-((0-0))) (Z0 (ar (ZZ ((m:Int)>0) (fun Zf=>?_) (fun Zf=>?_))))))))))
 ·exact az (Z2 2 (Zm (XE.le (PC hN) (li (by rfl))) (Zm (B0 0 hN [] 0) (Z2 1 (iZ m fun v1=>Z2 1 (Zm (XE.le (Aa 1 hN []) (li (by rfl))) (Zm (B0 0 v1 (List.replicate m 0) 0) (Z0 (ZP (Kx (BG 0 0 v1 (List.replicate m 0)) (ZD (r1 [0] ⟨(v1.cut 0),rfl,rfl⟩ (eq:=(rv (xs:=((List.replicate m 0).take 0)) ob rz))))))))))))))
 exact ak (ar (Zt (r1 [0] ⟨hN,rfl,rfl⟩)))
theorem Za6 (xss:List LI) (hl_xss:xss.length<=4294967296:=by exact ob) (hf:xss.flatten.length<=4294967296:=by exact ob):Zi 204 [Q8 xss] [] (fun r h=>∃(v:Value),r=ZY xss.flatten v/\h=[.tail v 1]):=by
 have hft:=Mn xss
 refine ZF 36 Tryz.func204 (ZP (ZP (YO 1 (iw (EB xss) (Z0 (ab 0 (Y0 (fun fz gz m F h=>∃(k:Nat) (q:Nat),(k<=xss.length)/\(q=(xss.take k).flatten.length)/\F=sF [0,9,10] fz [(3,.i q),(11,.i k)]/\h=gz/\m=xss.length-k) _ _ _ ⟨0,0,ob,(by simp),rfl,rfl,rfl⟩ (wk [] (Y5 (Y5 fl))) ?_)))))))
 rintro m F h ⟨k,q,Yb,Zl,rfl,rfl,rfl⟩
 refine ZP (aq (We ((k:Int)<(xss.length:Int)) (fun Za=>?_) (fun Za=>?_)))
 ·refine ak (aq (ab 1 (ar ?_)))
  obtain ⟨x1,Z3⟩:=Zr xss k om
  refine Zm (Zg none (k:Int) 1 (D0 Z3)) (Z0 (Yc 2 (iw (Yi x1) (ia (((q+x1.length:Nat):Int)) (((q:Int))+((x1.length:Int))) (hb:=(by have:=Mm Z3;omega)) (Z0 (ar (ZZ (((q+x1.length:Nat):Int)<0) (fun Zf=>?_) (fun Zf=>?_))))))))
  ·exfalso;omega
  refine ak (az (ZG k (Z0 ?_)))
  have hdr:=Y9 Z3
  exact ZH ⟨k+1,q+x1.length,ob,(by rw [Hf Z3,Yx,Zl]),rfl,rfl,rfl⟩ (wk [] (fc (x:=.i (q+x1.length:Nat)) li (ZJ k fl)))
 refine ax 0 (Yc 1 (ic [] (Za7 q (hm:=(by have:=hft k;omega))) ?_))
 rintro _ _ ⟨v1,rfl,rfl⟩
 refine Z0 (YO 1 (iw (EB xss) (Z0 (ab 2 (Y0 (fun fz gz m F h=>∃(j:Nat) (v:Hd),(j<=xss.length)/\F=sF [25,26] fz [(6,.h v),(27,.i j)]/\h=[rV v ((xss.take j).flatten)]/\m=xss.length-j) _ _ _ ⟨0,v1,ob,rfl,rfl,rfl⟩ (wk [0] (fr (Y5 fl)) (e:=(rv (xs:=[]) ob rz))) ?_)))))
 rintro m F h ⟨j,v,VA,rfl,rfl,rfl⟩
 refine ZP (aq (We ((j:Int)<(xss.length:Int)) (fun ZA=>?_) (fun ZA=>?_)))
 ·refine ak (aq (ab 3 (ar ?_)))
  obtain ⟨x2,Zo⟩:=Zr xss j om
  refine Zm (Zg none (j:Int) 1 (D0 Zo)) (Z0 (az (Z2 2 (Ji 0 v ((xss.take j).flatten) x2 none (hbound:=(by have:=Mm Zo;omega)) fun v2=>Z0 (az (ZG j (Z0 ?_)))))))
  have hdr:=Y9 Zo
  exact ZH ⟨j+1,v2,ob,rfl,rfl,rfl⟩ (wk [0] (fr (ZJ j fl)) (e:=(rv (xs:=((xss.take j).flatten++x2)) (Hf Zo).symm rz)))
 exact ax 2 (ZP (Ed 2 0 (v:=v) (xs:=(xss.take j).flatten) (ZD (r2 [0] [ZY ((xss.take j).flatten) v.v] ⟨v.v,rfl,rfl⟩ (Zc.slh _ (Yp Z7 (by rw [Wx om])))))))
theorem F6 (ds:List Ze) (t:Int) (hl_ds:ds.length<=4294967296:=by exact ob):Zi 158 [Ya ds,.i t] [] (fun r h=>r=.b (decide (0<=t/\t<=ds.length))/\h=[]):=by
 refine ZF 13 Tryz.func158 (ZP (ar (XG 8 [] [(12,.b ((decide (t>=0))&&(decide (t<=(ds.length:Int)))))] (fun gz=>gz) ?_ (fun hj1=>?_))))
 ·exact Zt (ZU (.b ((decide (t>=0))&&(decide (t<=(ds.length:Int))))) (lb (by rw [Xr];simp)))
 refine Z2 3 (ib (b:=(decide (t>=0))) 7 (fun Zd=>?_) (fun Zd=>?_))
 ·exact Z2 2 (iw (VC ds) (Z2 2 (Yv (wk [] (Zp (decide (t<=(ds.length:Int))) Zd fl)) hj1)))
 exact Z2 5 (Yv (wk [] (Zp false Zd fl)) hj1)
theorem MY (ds:List Ze) (xs:LI) (hl_ds:ds.length<=4294967296:=by exact ob) (hl_xs:xs.length<=4294967296:=by exact ob):Zi 157 [Ya ds,Z6 xs] [] (Yg (.b (W7 ds.length xs))):=by
 refine ZF 18 Tryz.func157 (ZP (YO 1 (iw (Yi xs) (Z0 (ab 0 (Y0 (fun fz gz m F h=>∃(k:Nat),(k<=xs.length)/\(W7 ds.length (xs.drop k)=W7 ds.length xs)/\F=sF [0,7,8] fz [(9,.i k)]/\h=gz/\m=xs.length-k) _ _ _ ⟨0,ob,ob,rfl,rfl,rfl⟩ (wk [] (Y5 fl)) ?_))))))
 rintro m F h ⟨k,Yb,Zl,rfl,rfl,rfl⟩
 refine ZP (aq (We ((k:Int)<(xs.length:Int)) (fun Za=>?_) (fun Za=>?_)))
 ·refine ak (aq (ab 1 (ar ?_)))
  obtain ⟨x1,Z3⟩:=Zr xs k om
  refine Zm (Zg none (k:Int) 1 (Y3 Z3)) (Z0 (Yc 2 (Zy [] (F6 ds x1) (YG (!(decide (0<=x1/\x1<=ds.length))) (p:=¬(0<=x1/\x1<=ds.length)) (Yn dq) (fun Zf=>?_) (fun Zf=>?_)))))
  ·refine ZP ?_
   rw [Y9 Z3] at Zl
   exact ZD (ZU (.b false) (lb (by clear Z3;first|rfl|omega|grind [W7])))
  refine ak (az (ZG k (Z0 ?_)))
  have hdr:=Y9 Z3
  exact ZH ⟨k+1,ob,(by rw [hdr] at Zl;clear hdr Z3;grind [W7]),rfl,rfl,rfl⟩ (wk [] (ZJ k fl))
 refine ax 0 (ZP ?_)
 try rw [Xf (xs:=xs) (k:=k) om] at Zl
 exact ZD (ZU (.b true) (lb (by first|rfl|omega|grind [W7])))
theorem Z4j (ds:List Ze) (hd:Wb ds:=by exact ob):Zi 263 [Ya ds] [] (Yg (.i (YL ds:Nat))):=by
 have hdl:=hd.len
 refine ZF 19 Tryz.func263 (ZP (ZP (YO 1 (iw (VC ds) (Z0 (ab 0 (Y0 (fun fz gz m F h=>∃(k:Nat),(k<=ds.length)/\F=sF [6,7] fz [(3,.i ((YL (ds.take k):Nat):Int)),(8,.i k)]/\h=gz/\m=ds.length-k) _ _ _ ⟨0,ob,rfl,rfl,rfl⟩ (wk [] (Y5 (Y5 fl))) ?_)))))))
 rintro m F h ⟨k,Yb,rfl,rfl,rfl⟩
 refine ZP (aq (We ((k:Int)<(ds.length:Int)) (fun Za=>?_) (fun Za=>?_)))
 ·refine ak (aq (ab 1 (ar ?_)))
  obtain ⟨x1,Z3⟩:=Zr ds k om
  refine Zm (Zg none (k:Int) 3 (Wz Z3)) (Z2 1 (iA [.i 0,.i 0,nl] fun b1=>Zz 0 b1 (Ta x1) (ie (az (ZL 3 [0] (iw (VQ x1.cons) (ia (((YL (ds.take k)+x1.cons.length:Nat):Int)) ((((YL (ds.take k):Nat):Int))+((x1.cons.length:Int))) (hb:=(by have h1:=hd.cons_at Z3;have h2:=(hd.take k).sum;omega)) (Z0 (az (ZG k (Z0 ?_)))))))))))
  have hdr:=Y9 Z3
  exact ZH ⟨k+1,ob,rfl,rfl,rfl⟩ (wk [] (fc (x:=.i ((YL (ds.take k)+x1.cons.length:Nat):Int)) (li (by rw [Ww Z3,CW];simp [YL])) (ZJ k fl)))
 exact ax 0 (ar (Zt (ZU (.i ((YL (ds.take k):Nat):Int)) (li (by rw [Wx om])))))
theorem MZ (ds:List Ze) (c:Int) (hd:Wb ds:=by exact ob) (hc:-9223372036854775808<=c/\c<=9223372036854775807:=by exact ob):Zi 207 [Ya ds,.i c] [] (Yg (.tup [.i (W3 ds c),.agg [Z6 (ZX ds c)]])):=by
 have hdl:=hd.len
 refine ZF 38 Tryz.func207 (Yc 1 (iA [nl] fun b1=>?_))
 refine ie (YO 1 (iw (VC ds) (Z0 (ab 0 (Y0 (fun fz gz m F h=>∃(k:Nat) (cv:Int),(k<=ds.length)/\(Ai c (YL (ds.take k)) cv)/\(UM c (ds.drop k) k (YL (ds.take k))=UM c ds 0 0)/\F=sF [5,8,9] fz [(1,.i cv),(10,.i k)]/\h=gz/\m=ds.length-k) _ _ _ ⟨0,c,ob,(.inl (by simp [YL])),rfl,rfl,rfl,rfl⟩ (wk [0] (fr (Y5 fl))) ?_)))))
 rintro m F h ⟨k,cv,Yb,Zl,Zw,rfl,rfl,rfl⟩
 refine ZP (aq (We ((k:Int)<(ds.length:Int)) (fun Za=>?_) (fun Za=>?_)))
 ·refine ak (aq (ab 1 (Yc 1 ?_)))
  obtain ⟨x1,Z3⟩:=Zr ds k om
  refine Zm (Zg none (k:Int) 3 (Wz Z3)) (Z2 1 (iA [.i 0,.i 0,nl] fun b2=>Z2 1 (Zz 0 b2 (Ta x1) (ie (X4 (Xi [1,5,6,7,8,9,10] [(23,.b ((decide (cv>=0))&&(decide (cv<(x1.cons.length:Int)))))] (fun gz=>gz) ?_ ?_))))))
  ·refine Z2 3 (ib (b:=(decide (cv>=0))) 17 (fun Zd=>?_) (fun Zd=>?_))
   ·exact ZL 3 [0] (iw (VQ x1.cons) (Z0 (wk [0,0] (Zp (decide (cv<(x1.cons.length:Int))) Zd fl))))
   exact Z0 (wk [0,0] (Zp false Zd fl))
  refine ac ((decide (cv>=0))&&(decide (cv<(x1.cons.length:Int)))) (p:=(cv>=0)/\(cv<(x1.cons.length:Int))) (YK dq dq) (fun Zf=>?_) (fun Zf=>?_)
  ·refine aD 9 (Zk 8 9 [0] (da 1 (((k+1:Nat):Int)) (((k:Int))+(1)) (ZO 4 7 [2,3,4] [0] ?_)))
   obtain ⟨x2,Zo⟩:=Zr x1.cons cv.toNat om
   refine dx 5 (Zg none cv 1 (JI Zo)) (Zk 1 3 [6,7] (Z8 8 (YM 8 1 [] [] b1 (Co x2) (de ?_))))
   have hz:=(hd.take k).sum
   have h3:=hd.cons_at Z3
   have hH:=Zw.symm.trans (So Z3 Zl om h3 hc.1 Zf Zo)
   exact ZD (r3 [] [.i (k+1:Nat),BP x2] [0] [(b1,b1)] ⟨rfl,rfl⟩ (Zc.tup (.cons (li (by rw [W3,hH];omega)) (.cons (Zc.agg (.cons (Zc.sl _ (Yp Z7 (by rw [ZX,hH]))) .nil)) .nil))))
  refine ak (az (ZL 3 [0] (iw (VQ x1.cons) (iW ((cv)-((x1.cons.length:Int))) (Z0 (az (ZG k (Z0 ?_))))))))
  have hdr:=Y9 Z3
  exact ZH ⟨k+1,(BJ ((cv)-((x1.cons.length:Int)))),ob,(by have hz:=(hd.take k).sum;have h3:=hd.cons_at Z3;rw [Ww Z3,CW];simpa [YL] using RR Zl om h3 hc),(Sm Z3 Zl Zf Zw),rfl,rfl,rfl⟩ (wk [1] (fr (ZJ k fl)))
 refine ax 0 (Yc 2 (Zz 0 b1 [nl] (ie ?_)))
 have hH:UM c ds 0 0=(-1,[]):=by rw [<-Zw,Xf om];rfl
 exact ZD (r3 [] [.i (-1),.agg [nl]] [0] [(b1,b1)] ⟨rfl,rfl⟩ (Zc.tup (.cons (li (by rw [W3,hH])) (.cons (Zc.agg (.cons (Zc.sl _ (by rw [ZX,hH];rfl)) .nil)) .nil))))
theorem Z4n (ds:List Ze) (c:Int) (hd:Wb ds:=by exact ob) (hc:-9223372036854775808<=c/\c<=9223372036854775807:=by exact ob):Zi 206 [Ya ds,.i c] [] (Yg (Z6 (ZX ds c))):=by
 exact ZF 15 Tryz.func206 (ZP (Yc 2 (Zy [] (MZ ds c) (Z2 3 (iA [nl] fun b1=>Z2 1 (Zz 0 b1 [Z6 (ZX ds c)] (ie (JQ [0] (ZD (IJ))))))))))
theorem Z4k (ds:List Ze) (t:Int) (hd:Wb ds:=by exact ob):Zi 205 [Ya ds,.i t] [] (Yg (Z6 (ZW ds t))):=by
 have hdl:=hd.len
 refine ZF 39 Tryz.func205 (ZP (X4 (Xi [0,1] [(15,.b ((decide (t<1))||(decide (t>(ds.length:Int)))))] (fun gz=>gz) ?_ ?_)))
 ·refine Z2 3 (ib (b:=(decide (t<1))) 10 (fun Zd=>?_) (fun Zd=>?_))
  ·exact Z0 (wk [] (Zp true Zd fl))
  exact Z2 2 (iw (VC ds) (Z0 (wk [] (Zp (decide (t>(ds.length:Int))) Zd fl))))
 refine ac ((decide (t<1))||(decide (t>(ds.length:Int)))) (p:=(t<1)∨(t>(ds.length:Int))) (Yh dq dq) (fun Za=>?_) (fun Za=>?_)
 ·exact ar (Zt (ZU (nl) (Zc.sl _ (by rw [ZW,Z9 om];rfl))))
 have hti:1<=t/\t<=ds.length:=by omega
 obtain ⟨d,hd1⟩:=Zr ds ((t-1).toNat) om
 have hdc:=hd.cons_at hd1
 have hsm:=(hd.take (t-1).toNat).sum
 refine ak (Yc 2 (ia ((((t-1).toNat:Nat):Int)) ((t)-(1)) (Zm (KM (es:=Yz ds) (hv:=none) (l:=0) (m:=(((t-1).toNat:Nat):Int)) (sz:=3) (es':=Yz (ds.take ((t-1).toNat))) kr om (by simp<;>omega) (by simp<;>omega) (QP _) (by first|(simp only [U9,Vi,C2,C1];done)|(simp only [U9,Vi,C2,C1];rfl)|(simp [C2,C1];done))) (Zy [] (Z4j (ds.take ((t-1).toNat)) (hd:=(hd.take _))) (Z0 (ZP (YO 2 (ia ((((t-1).toNat:Nat):Int)) ((t)-(1)) (Zm (Zg none (((t-1).toNat:Nat):Int) 3 (Wz hd1)) (Z2 2 (iw (VQ d.cons) (Z0 (ab 0 (BR 1 (Y0 (fun fz gz m F h=>∃(k:Nat) (v:Value),(k<=d.cons.length)/\F=sF [5,27] fz [(6,ZY (Ve (YL (ds.take (t-1).toNat)) k) v),(28,.i k)]/\h=[.tail v 1]/\m=d.cons.length-k) _ _ _ ⟨0,(.slice none 0 0),ob,rfl,rfl,rfl⟩ (wk [0] (fc (x:=nl) (Zc.slh _ rfl) (Y5 fl))) ?_)))))))))))))))
 rintro m F h ⟨k,v,Yb,rfl,rfl,rfl⟩
 refine ZP (aq (We ((k:Int)<(d.cons.length:Int)) (fun Zf=>?_) (fun Zf=>?_)))
 ·exact ak (aq (ab 1 (ZP (az (Z2 3 (ia ((((YL (ds.take ((t-1).toNat)))+k:Nat):Int)) ((((YL (ds.take ((t-1).toNat)):Nat):Int))+((k:Int))) (iL (Z7 [(((YL (ds.take ((t-1).toNat)))+k:Nat):Int)]) 1 1 fun v1=>ZQ 0 [(35,Z6 [(((YL (ds.take ((t-1).toNat)))+k:Nat):Int)])] (ip 1 (Z7 (Ve (YL (ds.take (t-1).toNat)) k++[(((YL (ds.take ((t-1).toNat)))+k:Nat):Int)])) (Z7 (Ve (YL (ds.take (t-1).toNat)) k)) (Z7 [(((YL (ds.take ((t-1).toNat)))+k:Nat):Int)]) v none 1 (YD _) (YD _) (W5 _) (by simp;omega) (by simp [W4,Z7]) fun v2=>Z0 (az (ZG k (Z0 (ZH ⟨k+1,v2,ob,rfl,rfl,rfl⟩ (wk [0] (fc (x:=ZY (Ve (YL (ds.take (t-1).toNat)) k++[(((YL (ds.take ((t-1).toNat)))+k:Nat):Int)]) v2) (Zc.slh _ (Yp Z7 (NO _ _).symm)) (ZJ k fl)))))))))))))))
 exact ax 0 (ar (Zt (ZU (ZY (Ve (YL (ds.take (t-1).toNat)) k) v) (Zc.sl _ (Yp Z7 (by rw [ZW,Zj hti,hd1,show k=d.cons.length by omega];rfl))))))
theorem F4 (ds:List Ze) (t:Int) (hd:Wb ds:=by exact ob):Zi 159 [Ya ds,.i t] [] (Yg (.tup [Jz (Vo ds t),.b (XQ ds t)])):=by
 have hdl:=hd.len
 refine ZF 30 Tryz.func159 (ar (iA [.i 0,.i 0,nl] fun b1=>Z0 (X4 (XG 8 [0,1,4] [(13,.b ((decide (t<1))||(decide (t>(ds.length:Int)))))] (fun gz=>gz) ?_ (fun hj1=>?_)))))
 ·refine Z2 1 (ib (b:=((decide (t<1))||(decide (t>(ds.length:Int))))) 14 (fun Zd=>?_) (fun Zd=>?_))
  ·have Y4:(t<1)∨(t>(ds.length:Int)):=((Yh dq dq)).1 Zd
   refine Z0 (WU (Yc 1 (Zz 0 b1 [.i 0,.i 0,nl] (Z0 ?_))))
   have hA:XQ ds t=false:=(HC om).symm
   have hD:Vo ds t=⟨0,0,[]⟩:=by rw [Vo,hA];rfl
   exact ZD (r3 [] [.agg [.i 0,.i 0,nl],.b false] [0] [(b1,b1)] ⟨rfl,rfl⟩ (Zc.tup (.cons (Zc.agg (.cons (li (by rw [hD])) (.cons (li (by rw [hD])) (.cons (Zc.sl _ (by rw [hD];rfl)) .nil)))) (.cons (lb (by rw [hA])) .nil))))
  have Ym:¬((t<1)∨(t>(ds.length:Int))):=Yd (Yh dq dq) Zd
  refine Z2 2 (ia ((t-1)) ((t)-(1)) ?_)
  obtain ⟨x1,Z3⟩:=Zr ds ((t-1).toNat) om
  refine Zm (Zg none (t-1) 3 (Wz Z3)) (Z2 2 (iw (VQ x1.cons) (ZZ ((x1.cons.length:Int)>0) (fun Za=>?_) (fun Za=>?_))))
  ·refine Yc 1 (Zz 0 b1 [.i 0,.i 0,nl] (Z0 ?_))
   have hA:XQ ds t=false:=(F9 om Z3).symm.trans (beq_eq_false_iff_ne.2 om)
   have hD:Vo ds t=⟨0,0,[]⟩:=by rw [Vo,hA];rfl
   exact ZD (r3 [] [.agg [.i 0,.i 0,nl],.b false] [0] [(b1,b1)] ⟨rfl,rfl⟩ (Zc.tup (.cons (Zc.agg (.cons (li (by rw [hD])) (.cons (li (by rw [hD])) (.cons (Zc.sl _ (by rw [hD];rfl)) .nil)))) (.cons (lb (by rw [hA])) .nil))))
  refine ak (Yc 2 (ia ((t-1)) ((t)-(1)) (Zm (Zg none (t-1) 3 (Wz Z3)) (Z2 1 (Zz 0 b1 (Ta x1) (Z0 ?_))))))
  have hA:XQ ds t=true:=(F9 om Z3).symm.trans (Zs.2 om)
  have hD:Vo ds t=x1:=by rw [Vo,hA,Z3];rfl
  exact ZD (r3 [] [Jz x1,.b true] [0] [(b1,b1)] ⟨rfl,rfl⟩ (Zc.tup (.cons (Zc.agg (.cons (li (by rw [hD])) (.cons (li (by rw [hD])) (.cons (Zc.sl _ (Yp XF (by rw [hD]))) .nil)))) (.cons (lb (by rw [hA])) .nil))))
 refine Z2 3 (ib (b:=(decide (t<1))) 8 (fun ZC=>?_) (fun ZC=>?_))
 ·have YQ:t<1:=(dq).1 ZC
  exact Z2 5 (Yv (wk [0] (Zp true ZC fl)) hj1)
 have YZ:¬(t<1):=Yd dq ZC
 exact Z2 2 (iw (VC ds) (Z2 2 (Yv (wk [0] (Zp (decide (t>(ds.length:Int))) ZC fl)) hj1)))
theorem Z4d (ds:List Ze) (frm:Int) (to_:Int) (hl_ds:ds.length<=4294967296:=by exact ob):Zi 209 [Ya ds,.i frm,.i to_] [] (Yg (.i (U0 ds frm to_))):=by
 refine ZF 35 Tryz.func209 (ZP (YO 1 (iw (VC ds) (Z0 (ab 0 (Y0 (fun fz gz m F h=>∃(k:Nat),(k<=ds.length)/\(QJ frm to_ (ds.drop k) k=U0 ds frm to_)/\F=sF [1,2,9,10] fz [(11,.i k)]/\h=gz/\m=ds.length-k) _ _ _ ⟨0,ob,rfl,rfl,rfl,rfl⟩ (wk [] (Y5 fl)) ?_))))))
 rintro m F h ⟨k,Yb,Zl,rfl,rfl,rfl⟩
 refine ZP (aq (We ((k:Int)<(ds.length:Int)) (fun Za=>?_) (fun Za=>?_)))
 ·refine ak (aq (ab 1 (Yc 1 ?_)))
  obtain ⟨x1,Z3⟩:=Zr ds k om
  refine Zm (Zg none (k:Int) 3 (Wz Z3)) (Z2 1 (iA [.i 0,.i 0,nl] fun b1=>Z2 1 (Zz 0 b1 (Ta x1) (ie (Zu 2 [0] (iw (VQ x1.cons) (XG 10 [1,2,7,8,9,10,11] [(25,.b (((x1.cons.length:Int)==0)&&(x1.frm==frm)))] (fun gz=>gz) ?_ (fun hj1=>?_))))))))
  ·refine Xi [1,2,7,9,10,11] [(31,.b ((((x1.cons.length:Int)==0)&&(x1.frm==frm))&&(x1.to_==to_)))] (fun gz=>gz) ?_ ?_
   ·refine Z2 1 (ib (b:=(((x1.cons.length:Int)==0)&&(x1.frm==frm))) 26 (fun Zd=>?_) (fun Zd=>?_))
    ·exact VY [0] (wk [0] (Zp (x1.to_==to_) Zd fl))
    exact Z0 (wk [0] (Zp false Zd fl))
   refine ac ((((x1.cons.length:Int)==0)&&(x1.frm==frm))&&(x1.to_==to_)) (p:=(((x1.cons.length:Int)=0)/\(x1.frm=frm))/\(x1.to_=to_)) (YK (YK Zs Zs) Zs) (fun Zf=>?_) (fun Zf=>?_)
   ·refine Yc 1 (ZG k (Z0 ?_))
    rw [Y9 Z3] at Zl
    exact ZD (ZU (.i (k+1:Nat)) (li (by clear Z3;first|rfl|omega|grind [QJ])))
   refine ak (az (ZG k (Z0 ?_)))
   have hdr:=Y9 Z3
   exact ZH ⟨k+1,ob,(by rw [hdr] at Zl;clear hdr Z3;grind [QJ]),rfl,rfl,rfl⟩ (wk [] (ZJ k fl))
  refine Z2 2 (ib (b:=((x1.cons.length:Int)==0)) 20 (fun ZC=>?_) (fun ZC=>?_))
  ·exact ZL 5 [0] (Yv (wk [0] (Zp (x1.frm==frm) ZC fl)) hj1)
  exact Z2 5 (Yv (wk [0] (Zp false ZC fl)) hj1)
 refine ax 0 (ZP ?_)
 try rw [Xf (xs:=ds) (k:=k) om] at Zl
 exact ZD (ZU (.i (-1)) (li (by first|rfl|omega|grind [QJ])))
theorem Z4c (ds:List Ze) (hz:QH ds:=by exact ob):Zi 156 [Ya ds] [] (Yg (.b (WF ds))):=by
 have hzl:=hz.len
 refine ZF 106 Tryz.func156 (ZP (YO 1 (iw (VC ds) (ZZ ((ds.length:Int)>4) (fun Za=>?_) (fun Za=>?_)))))
 ·exact ar (Zt (ZU (.b false) (lb (by rw [WF,decide_eq_false om];rfl))))
 refine ak (YO 1 (iw (VC ds) (Z0 (ab 0 (Y0 (fun fz gz m F h=>∃(k:Nat),(k<=ds.length)/\(UN ds (ds.drop k) k=UN ds ds 0)/\F=sF [0,12,13] fz [(14,.i k)]/\h=gz/\m=ds.length-k) _ _ _ ⟨0,ob,rfl,rfl,rfl,rfl⟩ (wk [] (Y5 fl)) ?_)))))
 rintro m F h ⟨k,Yb,Zl,rfl,rfl,rfl⟩
 refine ZP (aq (We ((k:Int)<(ds.length:Int)) (fun Zf=>?_) (fun Zf=>?_)))
 ·refine ak (aq (ab 1 (Yc 1 ?_)))
  obtain ⟨x1,Z3⟩:=Zr ds k om
  have hz1:=hz.cons_at Z3
  refine Zm (Zg none (k:Int) 3 (Wz Z3)) (Z2 1 (iA [.i 0,.i 0,nl] fun b1=>Z2 1 (Zz 0 b1 (Ta x1) (ie (Yf 3 [0] (Zy [] (F6 ds x1.frm) (XG 12 [0,3,4,12,13,14] [(30,.b ((!(decide (0<=x1.frm/\x1.frm<=ds.length)))||(!(decide (0<=x1.to_/\x1.to_<=ds.length)))))] (fun gz=>gz) ?_ (fun hj1=>?_))))))))
  ·refine XG 18 [0,3,4,12,13,14] [(36,.b (((!(decide (0<=x1.frm/\x1.frm<=ds.length)))||(!(decide (0<=x1.to_/\x1.to_<=ds.length))))||(decide ((x1.cons.length:Int)>3))))] (fun gz=>gz) ?_ (fun hj2=>?_)
   ·refine Xi [0,3,4,12,13,14] [(52,.b ((((!(decide (0<=x1.frm/\x1.frm<=ds.length)))||(!(decide (0<=x1.to_/\x1.to_<=ds.length))))||(decide ((x1.cons.length:Int)>3)))||((decide ((x1.cons.length:Int)>0))&&((x1.frm != 0)||(x1.to_ != 0)))))] (fun gz=>gz) ?_ ?_
    ·refine Z2 1 (ib (b:=(((!(decide (0<=x1.frm/\x1.frm<=ds.length)))||(!(decide (0<=x1.to_/\x1.to_<=ds.length))))||(decide ((x1.cons.length:Int)>3)))) 37 (fun Zd=>?_) (fun Zd=>?_))
     ·have Y4:((¬(0<=x1.frm/\x1.frm<=ds.length))∨(¬(0<=x1.to_/\x1.to_<=ds.length)))∨((x1.cons.length:Int)>3):=((Yh (Yh (Yn dq) (Yn dq)) dq)).1 Zd
      exact Z0 (wk [0] (Zp true Zd fl))
     have Ym:¬(((¬(0<=x1.frm/\x1.frm<=ds.length))∨(¬(0<=x1.to_/\x1.to_<=ds.length)))∨((x1.cons.length:Int)>3)):=Yd (Yh (Yh (Yn dq) (Yn dq)) dq) Zd
     refine ZL 2 [0] (iw (VQ x1.cons) (Z2 2 (ib (b:=(decide ((x1.cons.length:Int)>0))) 42 (fun ZC=>?_) (fun ZC=>?_))))
     ·have YQ:(x1.cons.length:Int)>0:=(dq).1 ZC
      refine ZL 4 [0] (ib (b:=(x1.frm != 0)) 46 (fun YB=>?_) (fun YB=>?_))
      ·have YZ:x1.frm≠0:=(Y6).1 YB
       exact Z0 (wk [0] (Zp true (And.intro Zd (And.intro ZC YB)) fl))
      have Xg:¬(x1.frm≠0):=Yd Y6 YB
      exact VY [0] (wk [0] (Zp (x1.to_ != 0) (And.intro Zd (And.intro ZC YB)) fl))
     have XX:¬((x1.cons.length:Int)>0):=Yd dq ZC
     exact Z0 (wk [0] (Zp false (And.intro Zd ZC) fl))
    refine ac ((((!(decide (0<=x1.frm/\x1.frm<=ds.length)))||(!(decide (0<=x1.to_/\x1.to_<=ds.length))))||(decide ((x1.cons.length:Int)>3)))||((decide ((x1.cons.length:Int)>0))&&((x1.frm != 0)||(x1.to_ != 0)))) (p:=(((¬(0<=x1.frm/\x1.frm<=ds.length))∨(¬(0<=x1.to_/\x1.to_<=ds.length)))∨((x1.cons.length:Int)>3))∨(((x1.cons.length:Int)>0)/\((x1.frm≠0)∨(x1.to_≠0)))) (Yh (Yh (Yh (Yn dq) (Yn dq)) dq) (YK dq (Yh Y6 Y6))) (fun ZA=>?_) (fun ZA=>?_)
    ·exact ar (Zt (ZU (.b false) (lb (IQ Z3 (SW ZA) Zl))))
    refine ak (Yf 2 [0] (iw (VQ x1.cons) (Z0 (ab 2 (Y0 (fun fz gz m F h=>∃(q:Nat),(q<=x1.cons.length)/\(Tg ds.length (x1.cons.drop q)=Tg ds.length x1.cons)/\F=sF [0,3,4,12,13,14,54,55] fz [(56,.i q)]/\h=gz/\m=x1.cons.length-q) _ _ _ ⟨0,ob,rfl,rfl,rfl,rfl⟩ (wk [0] (Y5 fl)) ?_)))))
    rintro m F h ⟨q,VA,XL,rfl,rfl,rfl⟩
    refine ZP (aq (We ((q:Int)<(x1.cons.length:Int)) (fun Yl=>?_) (fun Yl=>?_)))
    ·refine ak (aq (ab 3 (ar ?_)))
     obtain ⟨x2,Zo⟩:=Zr x1.cons q om
     refine Zm (Zg none (q:Int) 1 (JI Zo)) (Z2 1 (iA [nl] fun b2=>Zz 0 b2 (Co x2) (ie (Zu 2 [0] (iw (Yi x2.fields) (Xi [0,3,4,12,13,14,54,55,56] [(70,.b ((decide ((x2.fields.length:Int)>3))||(!W7 ds.length x2.fields)))] (fun gz=>gz) ?_ ?_))))))
     ·refine Z2 2 (ib (b:=(decide ((x2.fields.length:Int)>3))) 64 (fun X2=>?_) (fun X2=>?_))
      ·have Wu:(x2.fields.length:Int)>3:=(dq).1 X2
       exact Z0 (wk [0,0] (Zp true X2 fl))
      have WZ:¬((x2.fields.length:Int)>3):=Yd dq X2
      exact ZL 3 [0] (Zy [] (MY ds x2.fields) (Z0 (wk [0,0] (Zp (!W7 ds.length x2.fields) X2 fl))))
     refine ac ((decide ((x2.fields.length:Int)>3))||(!W7 ds.length x2.fields)) (p:=((x2.fields.length:Int)>3)∨(¬(W7 ds.length x2.fields=true))) (Yh dq (Yn Iff.rfl)) (fun Xd=>?_) (fun Xd=>?_)
     ·exact ar (Zt (ZU (.b false) (lb (IQ Z3 (SX om (by rw [<-XL,Y9 Zo,Tg,Z9 (by rw [Sp Xd];simp)])) Zl))))
     refine ak (az (ZG q (Z0 ?_)))
     have hdr:=Y9 Zo
     exact ZH ⟨q+1,ob,(by rw [Y9 Zo,Tg,Zj (Sq Xd)] at XL;exact XL),rfl,rfl,rfl⟩ (wk [1] (ZJ q fl))
    have hC:Tg ds.length x1.cons=true:=by rw [<-XL,Xf om];rfl
    refine ax 2 (Yc 2 (Zm (KM (es:=Yz ds) (hv:=none) (l:=0) (m:=(k:Int)) (sz:=3) (es':=Yz (ds.take k)) kr om (by simp<;>omega) (by simp<;>omega) (QP _) (by first|(simp only [U9,Vi,C2,C1];done)|(simp only [U9,Vi,C2,C1];rfl)|(simp [C2,C1];done))) (io (.i (((ds.take k).length:Nat):Int)) (.i (((Yz (ds.take k)).length:Nat):Int)) (li (by rw [VC])) (Z0 (ab 4 (Y0 (fun fz gz m F h=>∃(j:Nat),(j<=k)/\(x1.cons.length=0->Qp x1 ((ds.take k).drop j)=Qp x1 (ds.take k))/\F=sF [0,4,12,13,14,74,75] fz [(76,.i j)]/\h=gz/\m=k-j) _ _ _ ⟨0,ob,ob,rfl,rfl,rfl⟩ (wk [0] (Y5 fl)) ?_))))))
    rintro m F h ⟨j,LA,El,rfl,rfl,rfl⟩
    refine ZP (aq (We ((j:Int)<(((ds.take k).length:Nat):Int)) (fun Xp=>?_) (fun Xp=>?_)))
    ·have htl:(ds.take k).length<=k:=by rw [Wr];omega
     refine ak (aq (ab 5 (ar ?_)))
     obtain ⟨x3,YP⟩:=Zr (ds.take k) j om
     refine Zm (Zg none (j:Int) 3 (Wz YP)) (Z2 1 (iA [.i 0,.i 0,nl] fun b3=>Zz 0 b3 (Ta x3) (ie (Zu 2 [1] (iw (VQ x1.cons) (XG 10 [0,4,8,12,13,14,74,75,76] [(89,.b (((x1.cons.length:Int)==0)&&((x3.cons.length:Int)==0)))] (fun gz=>gz) ?_ (fun hj3=>?_)))))))
     ·refine XG 17 [0,4,8,12,13,14,74,75,76] [(96,.b ((((x1.cons.length:Int)==0)&&((x3.cons.length:Int)==0))&&(x3.frm==x1.frm)))] (fun gz=>gz) ?_ (fun hj4=>?_)
      ·refine Xi [0,4,12,13,14,74,75,76] [(103,.b (((((x1.cons.length:Int)==0)&&((x3.cons.length:Int)==0))&&(x3.frm==x1.frm))&&(x3.to_==x1.to_)))] (fun gz=>gz) ?_ ?_
       ·refine Z2 1 (ib (b:=((((x1.cons.length:Int)==0)&&((x3.cons.length:Int)==0))&&(x3.frm==x1.frm))) 97 (fun W6=>?_) (fun W6=>?_))
        ·have Vs:(((x1.cons.length:Int)=0)/\((x3.cons.length:Int)=0))/\(x3.frm=x1.frm):=((YK (YK Zs Zs) Zs)).1 W6
         exact VY [0,1] (wk [0,0] (Zp (x3.to_==x1.to_) W6 fl))
        have UT:¬((((x1.cons.length:Int)=0)/\((x3.cons.length:Int)=0))/\(x3.frm=x1.frm)):=Yd (YK (YK Zs Zs) Zs) W6
        exact Z0 (wk [0,0] (Zp false W6 fl))
       refine ac (((((x1.cons.length:Int)==0)&&((x3.cons.length:Int)==0))&&(x3.frm==x1.frm))&&(x3.to_==x1.to_)) (p:=((((x1.cons.length:Int)=0)/\((x3.cons.length:Int)=0))/\(x3.frm=x1.frm))/\(x3.to_=x1.to_)) (YK (YK (YK Zs Zs) Zs) Zs) (fun VF=>?_) (fun VF=>?_)
       ·exact ar (Zt (ZU (.b false) (lb (IQ Z3 (SY om (by rw [<-El om,Y9 YP,Qp,Zj om])) Zl))))
       exact ak (az (ZG j (Z0 (ZH ⟨j+1,ob,(fun q=>by have hq:=El q;rw [Y9 YP,Qp,Z9 om] at hq;exact hq),rfl,rfl,rfl⟩ (wk [1] (ZJ j fl))))))
      refine Z2 1 (ib (b:=(((x1.cons.length:Int)==0)&&((x3.cons.length:Int)==0))) 90 (fun WM=>?_) (fun WM=>?_))
      ·have UU:((x1.cons.length:Int)=0)/\((x3.cons.length:Int)=0):=((YK Zs Zs)).1 WM
       exact ZL 6 [0,1] (Yv (wk [0,0] (Zp (x3.frm==x1.frm) WM fl)) hj4)
      have UV:¬(((x1.cons.length:Int)=0)/\((x3.cons.length:Int)=0)):=Yd (YK Zs Zs) WM
      exact Z2 6 (Yv (wk [0,0] (Zp false WM fl)) hj4)
     refine Z2 2 (ib (b:=((x1.cons.length:Int)==0)) 84 (fun V4=>?_) (fun V4=>?_))
     ·have Q6:(x1.cons.length:Int)=0:=(Zs).1 V4
      exact ZL 2 [0] (iw (VQ x3.cons) (Z2 2 (Yv (wk [0,0] (Zp ((x3.cons.length:Int)==0) V4 fl)) hj3)))
     have TP:¬((x1.cons.length:Int)=0):=Yd Zs V4
     exact Z2 5 (Yv (wk [0,0] (Zp false V4 fl)) hj3)
    have htl:(ds.take k).length=k:=by rw [Wr];omega
    have hD:x1.cons.length=0->Qp x1 (ds.take k)=false:=fun q=>by rw [<-El q,Xf om];rfl
    refine ax 4 (az (ZG k (Z0 ?_)))
    have hdr:=Y9 Z3
    exact ZH ⟨k+1,ob,(Zd5 Z3 (SZ ZA hC hD) Zl),rfl,rfl,rfl⟩ (wk [] (ZJ k fl))
   refine Z2 1 (ib (b:=((!(decide (0<=x1.frm/\x1.frm<=ds.length)))||(!(decide (0<=x1.to_/\x1.to_<=ds.length))))) 31 (fun WV=>?_) (fun WV=>?_))
   ·have Ke:(¬(0<=x1.frm/\x1.frm<=ds.length))∨(¬(0<=x1.to_/\x1.to_<=ds.length)):=((Yh (Yn dq) (Yn dq))).1 WV
    exact Z2 5 (Yv (wk [0] (Zp true WV fl)) hj2)
   have QR:¬((¬(0<=x1.frm/\x1.frm<=ds.length))∨(¬(0<=x1.to_/\x1.to_<=ds.length))):=Yd (Yh (Yn dq) (Yn dq)) WV
   exact ZL 2 [0] (iw (VQ x1.cons) (Z2 2 (Yv (wk [0] (Zp (decide ((x1.cons.length:Int)>3)) WV fl)) hj2)))
  refine Z2 2 (ib (b:=(!(decide (0<=x1.frm/\x1.frm<=ds.length)))) 24 (fun WW=>?_) (fun WW=>?_))
  ·have AE:¬(0<=x1.frm/\x1.frm<=ds.length):=((Yn dq)).1 WW
   exact Z2 6 (Yv (wk [0] (Zp true WW fl)) hj1)
  have KH:¬(¬(0<=x1.frm/\x1.frm<=ds.length)):=Yd (Yn dq) WW
  exact ZL 3 [0] (Zy [] (F6 ds x1.to_) (Z2 2 (Yv (wk [0] (Zp (!(decide (0<=x1.to_/\x1.to_<=ds.length))) WW fl)) hj1)))
 exact ax 0 (ar (Zt (ZU (.b true) (lb (Zd4 om om Zl)))))
theorem F5 (op:Int) :Zi 93 [.i op] [] (Yg (.b (Yo op))):=by
 refine ZF 9 Tryz.func93 (ZP (ar (XG 6 [] [(8,.b ((decide (op>=14))&&(decide (op<=17))))] (fun gz=>gz) ?_ (fun hj1=>?_))))
 ·exact Zt (ZU (.b ((decide (op>=14))&&(decide (op<=17)))) (lb (by rw [Yo,Xr];simp)))
 refine Z2 3 (ib (b:=(decide (op>=14))) 5 (fun Zd=>?_) (fun Zd=>?_))
 ·exact Z2 3 (Yv (wk [] (Zp (decide (op<=17)) Zd fl)) hj1)
 exact Z2 3 (Yv (wk [] (Zp false Zd fl)) hj1)
theorem Z4m (b:Z5) (c:Nat) (v:Int) (hb:b.sz<=1000000000:=by exact ob) (hv:0<=v/\v<=600:=by exact ob) (ih:∀(b2:Z5) (c:Nat) (v:Int),(b2.sz<b.sz)->(0<=v/\v<=600)->Zi 101 [ZI b2,.p c 0] [.obj c [.i v]] (fun r h=>(r=.b true/\h=[.obj c [.i (600-WA b2 (600-v))]]/\0<=WA b2 (600-v))∨(r=.b false/\h=[]/\WA b2 (600-v)<0))):Zi 101 [ZI b,.p c 0] [.obj c [.i v]] (fun r h=>(r=.b true/\h=[.obj c [.i (600-WA b (600-v))]]/\0<=WA b (600-v))∨(r=.b false/\h=[]/\WA b (600-v)<0)):=by
 have hbz:=V7 b
 have hbe:=Nz b (600-v)
 refine ZF 38 Tryz.func101 (ar (iA (X3 b) fun b1=>?_))
 refine Z0 (Yf 2 [0] (iw (V3 b.steps) (Z0 (ab 0 (Y0 (fun fz gz m F h=>∃(k:Nat) (q:Int),(k<=b.steps.length)/\(0<=q/\q<=600)/\(Tx (b.steps.drop k) (600-q)=Tx b.steps (600-v))/\F=sF [1,10,11] fz [(12,.i k)]/\h=[.obj c [.i q]]/\m=b.steps.length-k) _ _ _ ⟨0,v,ob,ob,rfl,rfl,rfl,rfl⟩ (wk [1] (Y5 fl)) ?_)))))
 rintro m F h ⟨k,q,Yb,Zl,Zw,rfl,rfl,rfl⟩
 refine ZP (aq (We ((k:Int)<(b.steps.length:Int)) (fun Za=>?_) (fun Za=>?_)))
 ·refine ak (aq (ab 1 (ar ?_)))
  obtain ⟨x1,Z3⟩:=Zr b.steps k om
  have hss:=Qf Z3
  have hkz:=Ut x1
  refine Zm (Zg none (k:Int) 5 (Wc Z3)) (Z2 1 (iA [.i 0,.i 0,.i 0,nl,nl] fun b2=>Zz 0 b2 (Xm x1) (ie (Yf 3 [1] (ia ((q+1)) ((q)+(1)) (Z2 1 (Zz 1 c [.i (q+1)] (ie (JQ [0] (We ((q+1)>600) (fun Zf=>?_) (fun Zf=>?_)))))))))))
  ·exact ar (Zt (r1 [] (.inr ⟨rfl,rfl,(by rw [hbe,<-Zw,Y9 Z3,Tx,Zj om];omega)⟩)))
  refine ak (Zu 2 [1] (iw (Vr x1.kids) (Z0 (ab 2 (Y0 (fun fz gz m F h=>∃(j:Nat) (j2:Int),(j<=x1.kids.length)/\(0<=j2/\j2<=600)/\(TS (x1.kids.drop j) (600-j2)=TS x1.kids (600-(q+1)))/\F=sF [1,10,11,12,26,27] fz [(28,.i j)]/\h=[.obj c [.i j2]]/\m=x1.kids.length-j) _ _ _ ⟨0,(q+1),ob,ob,rfl,rfl,rfl,rfl⟩ (wk [0] (Y5 fl)) ?_)))))
  rintro m F h ⟨j,j2,VA,XL,XI,rfl,rfl,rfl⟩
  refine ZP (aq (We ((j:Int)<(x1.kids.length:Int)) (fun ZA=>?_) (fun ZA=>?_)))
  ·refine ak (aq (ab 3 (ar ?_)))
   obtain ⟨x2,Zo⟩:=Zr x1.kids j om
   have hks:=Us Zo
   have hle:=HS.2 x2 (600-j2) om
   refine Zm (Zg none (j:Int) 2 (U2 Zo)) (Z2 1 (iA [nl,.i 0] fun b3=>Zz 0 b3 (X3 x2) (ie (Zu 2 [0] (ic [1] (ih x2 c j2 ob ob) ?_)))))
   rintro _ _ (⟨rfl,rfl,Y4⟩|⟨rfl,rfl,Ym⟩)
   ·refine Z0 (WT (ak (az (ZG j (Z0 ?_)))))
    have hdr:=Y9 Zo
    exact ZH ⟨j+1,(600-WA x2 (600-j2)),ob,ob,(by rw [Y9 Zo,TS,Z9 om] at XI;rw [show 600-(600-WA x2 (600-j2))=WA x2 (600-j2) by omega];exact XI),rfl,rfl,rfl⟩ (wk [0] (ZJ j fl))
   exact Z0 (WU (ar (Zt (r1 [] (.inr ⟨rfl,rfl,(by rw [hbe,<-Zw,Y9 Z3,Tx,Z9 om,Zj (by rw [Fi,show (600-q-1:Int)=600-(q+1) by omega,<-XI,Y9 Zo,TS,Zj Ym];omega)];omega)⟩)))))
  have hE:TS x1.kids (600-(q+1))=600-j2:=by rw [<-XI,Xf om,TS]
  refine ax 2 (az (ZG k (Z0 ?_)))
  have hdr:=Y9 Z3
  exact ZH ⟨k+1,j2,ob,ob,(by rw [Y9 Z3,Tx,Z9 om,Fi,show (600-q-1:Int)=600-(q+1) by omega,hE,Z9 om] at Zw;exact Zw),rfl,rfl,rfl⟩ (wk [0] (ZJ k fl))
 refine ax 0 (ZP ?_)
 have hF:WA b (600-v)=600-q:=by rw [hbe,<-Zw,Xf om,Tx]
 exact ZD (r1 [0] (.inl ⟨rfl,rfl,om⟩) (eq:=(ro (ls:=[.i q]) (by rw [hF,show (600-(600-q):Int)=q by omega]) rz)))
theorem Z4l:∀(b:Z5) (c:Nat) (v:Int),(b.sz<=1000000000)->(0<=v/\v<=600)->Zi 101 [ZI b,.p c 0] [.obj c [.i v]] (fun r h=>(r=.b true/\h=[.obj c [.i (600-WA b (600-v))]]/\0<=WA b (600-v))∨(r=.b false/\h=[]/\WA b (600-v)<0)):=by
 have key:∀m:Nat,∀(b:Z5) (c:Nat) (v:Int),(b.sz<=m)->(b.sz<=1000000000)->(0<=v/\v<=600)->Zi 101 [ZI b,.p c 0] [.obj c [.i v]] (fun r h=>(r=.b true/\h=[.obj c [.i (600-WA b (600-v))]]/\0<=WA b (600-v))∨(r=.b false/\h=[]/\WA b (600-v)<0)):=by
  intro m
  induction m with
  | zero=>intro b c v h;have:=b.sz_pos;omega
  | succ m ih=>intro b c v h1 h2 h3;exact Z4m b c v h2 h3 fun b2 c2 v2 k1 k2=>ih b2 c2 v2 om om k2
 intro b c v h2 h3
 exact key b.sz b c v (X9 _) h2 h3
theorem Z46 (b:Z5) (hb:b.sz<=1000000000:=by exact ob):Zi 63 [ZI b] [] (Yg (.i (Td b))):=by
 refine ZF 8 Tryz.func63 (ar (iA (X3 b) fun b1=>Z0 (ar (iA [.i 0] fun b2=>Zz 0 b2 [.i 0] (ie (Yf 1 [1] (ic [0] (Z4l b b2 0 ob ob) ?_)))))))
 rintro _ _ (⟨rfl,rfl,Y4⟩|⟨rfl,rfl,Ym⟩)
 ·have h0:=Y4
  rw [show (600-0:Int)=600 from rfl] at h0
  exact Z0 (WT (ak (JQ [0] (ZD (ZU (.i (600-WA b (600-0))) (li (by rw [show (600-0:Int)=600 from rfl,Td,Z9 om])))))))
 have h0:=Ym
 rw [show (600-0:Int)=600 from rfl] at h0
 exact Z0 (WU (ar (Zt (ZU (.i (-1)) (li (by rw [Td,Zj h0]))))))
theorem Z4z (ds:List Ze) (fs:List WS) (hz:QH ds:=by exact ob) (hf:∀f∈fs,f.pms.length<=4194304/\f.lnt.length<=4194304) (hfl:fs.length<=4194304:=by exact ob):Zi 123 [Ya ds,Cr fs] [] (Yg (.b (Ks ds fs))):=by
 have hzl:=hz.len
 refine ZF 102 Tryz.func123 (ZP (YO 1 (Zy [] (Z4c ds) (XG 8 [0,1] [(16,.b ((!WF ds)||(decide ((fs.length:Int)<1))))] (fun gz=>gz) ?_ (fun hj1=>?_)))))
 ·refine XG 13 [0,1] [(21,.b (((!WF ds)||(decide ((fs.length:Int)<1)))||(decide ((fs.length:Int)>4))))] (fun gz=>gz) ?_ (fun hj2=>?_)
  ·refine Z2 1 (ib (b:=(((!WF ds)||(decide ((fs.length:Int)<1)))||(decide ((fs.length:Int)>4)))) 22 (fun Zd=>?_) (fun Zd=>?_))
   ·have Y4:((¬(WF ds=true))∨((fs.length:Int)<1))∨((fs.length:Int)>4):=((Yh (Yh (Yn Iff.rfl) dq) dq)).1 Zd
    exact Z0 (WU (ar (Zt (ZU (.b false) (lb (Zdb (by assumption)))))))
   have Ym:¬(((¬(WF ds=true))∨((fs.length:Int)<1))∨((fs.length:Int)>4)):=Yd (Yh (Yh (Yn Iff.rfl) dq) dq) Zd
   refine Z2 1 ?_
   obtain ⟨x1,Z3⟩:=Zr fs 0 om
   refine Zm (Zg none 0 3 (C5 Z3)) (Z2 2 (iw (Yi x1.pms) (Z2 3 (ib (b:=(decide ((x1.pms.length:Int)>0))) 30 (fun ZC=>?_) (fun ZC=>?_)))))
   ·have YQ:(x1.pms.length:Int)>0:=(dq).1 ZC
    exact Z0 (WU (ar (Zt (ZU (.b false) (lb (R6 Z3 (.inl (by assumption))))))))
   have YZ:¬((x1.pms.length:Int)>0):=Yd dq ZC
   refine Z2 1 (Zm (Zg none 0 3 (C5 Z3)) (YG (x1.res != 0) Y6 (fun Za=>?_) (fun Za=>?_)))
   ·exact ar (Zt (ZU (.b false) (lb (R6 Z3 (.inr Za)))))
   refine ak (YO 1 (iw (D4 fs) (Z0 (ab 0 (Y0 (fun fz gz m F h=>∃(k:Nat),(k<=fs.length)/\(QV ds.length (fs.drop k)=QV ds.length fs)/\F=sF [0,37,38] fz [(39,.i k)]/\h=gz/\m=fs.length-k) _ _ _ ⟨0,ob,ob,rfl,rfl,rfl⟩ (wk [] (Y5 fl)) ?_)))))
   rintro m F h ⟨k,Yb,Zl,rfl,rfl,rfl⟩
   refine ZP (aq (We ((k:Int)<(fs.length:Int)) (fun Zf=>?_) (fun Zf=>?_)))
   ·refine ak (aq (ab 1 (ar ?_)))
    obtain ⟨x2,Zo⟩:=Zr fs k om
    have hf2:=hf _ (Y1 Zo)
    refine Zm (Zg none (k:Int) 3 (C5 Zo)) (Z2 1 (iA [nl,nl,.i 0] fun b1=>Zz 0 b1 (Nu x2) (ie (Yf 2 [0] (iw (Yi x2.pms) (XG 11 [0,6,37,38,39] [(53,.b ((decide ((x2.pms.length:Int)>3))||(!W7 ds.length x2.pms)))] (fun gz=>gz) ?_ (fun hj3=>?_)))))))
    ·refine Xi [0,6,37,38,39] [(60,.b (((decide ((x2.pms.length:Int)>3))||(!W7 ds.length x2.pms))||(!(decide (0<=x2.res/\x2.res<=ds.length)))))] (fun gz=>gz) ?_ ?_
     ·refine Z2 1 (ib (b:=((decide ((x2.pms.length:Int)>3))||(!W7 ds.length x2.pms))) 54 (fun YB=>?_) (fun YB=>?_))
      ·have Xg:((x2.pms.length:Int)>3)∨(¬(W7 ds.length x2.pms=true)):=((Yh dq (Yn Iff.rfl))).1 YB
       exact Z0 (wk [0] (Zp true YB fl))
      have XX:¬(((x2.pms.length:Int)>3)∨(¬(W7 ds.length x2.pms=true))):=Yd (Yh dq (Yn Iff.rfl)) YB
      exact ZL 3 [0] (Zy [] (F6 ds x2.res) (Z0 (wk [0] (Zp (!(decide (0<=x2.res/\x2.res<=ds.length))) YB fl))))
     refine ac (((decide ((x2.pms.length:Int)>3))||(!W7 ds.length x2.pms))||(!(decide (0<=x2.res/\x2.res<=ds.length)))) (p:=(((x2.pms.length:Int)>3)∨(¬(W7 ds.length x2.pms=true)))∨(¬(0<=x2.res/\x2.res<=ds.length))) (Yh (Yh dq (Yn Iff.rfl)) (Yn dq)) (fun ZA=>?_) (fun ZA=>?_)
     ·exact ar (Zt (ZU (.b false) (lb (G6 (FL Zo (Z9k ZA) Zl)))))
     refine ak (Zu 2 [0] (iw (Yi x2.lnt) (Z0 (ab 2 (Y0 (fun fz gz m F h=>∃(j:Nat),(j<=x2.lnt.length)/\(Qx x2.pms (x2.lnt.drop j) (if j=0 then none else x2.lnt[j-1]?)=Kr x2.pms x2.lnt)/\F=sF [0,6,37,38,39,62,63] fz [(64,.i j)]/\h=gz/\m=x2.lnt.length-j) _ _ _ ⟨0,ob,(by rfl),rfl,rfl,rfl⟩ (wk [0] (Y5 fl)) ?_)))))
     rintro m F h ⟨j,VA,XL,rfl,rfl,rfl⟩
     refine ZP (aq (We ((j:Int)<(x2.lnt.length:Int)) (fun Yl=>?_) (fun Yl=>?_)))
     ·refine ak (aq (ab 3 (Yc 1 ?_)))
      obtain ⟨x3,YP⟩:=Zr x2.lnt j om
      refine Zm (Zg none (j:Int) 1 (Y3 YP)) (Z0 (ar (XG 9 [0,6,7,8,37,38,39,62,63,64] [(77,.b ((decide (x3<0))||(decide (x3>=(x2.pms.length:Int)))))] (fun gz=>gz) ?_ (fun hj4=>?_))))
      ·refine Z2 1 (ib (b:=((decide (x3<0))||(decide (x3>=(x2.pms.length:Int))))) 78 (fun X2=>?_) (fun X2=>?_))
       ·have Wu:(x3<0)∨(x3>=(x2.pms.length:Int)):=((Yh dq dq)).1 X2
        exact Z0 (WU (ar (Zt (ZU (.b false) (lb (G6 (FL Zo (Il (HU YP (by rintro ⟨q1,q2,q3⟩;first|omega|(rw [VG] at q2;exact q2 (Yp some om))|(have:=q3 _ (by rw [Z9 om];exact T8);omega)) XL)) Zl)))))))
       have WZ:¬((x3<0)∨(x3>=(x2.pms.length:Int))):=Yd (Yh dq dq) X2
       refine ZL 3 [0] ?_
       obtain ⟨x4,VG⟩:=Zr x2.pms x3.toNat om
       refine Zm (Zg none x3 1 (Y3 VG)) (Z2 4 (ib (b:=(x4==0)) 86 (fun W6=>?_) (fun W6=>?_)))
       ·have Vs:x4=0:=(Zs).1 W6
        exact Z0 (WU (ar (Zt (ZU (.b false) (lb (G6 (FL Zo (Il (HU YP (by rintro ⟨q1,q2,q3⟩;first|omega|(rw [VG] at q2;exact q2 (Yp some om))|(have:=q3 _ (by rw [Z9 om];exact T8);omega)) XL)) Zl)))))))
       have UT:¬(x4=0):=Yd Zs W6
       refine Z2 3 (ib (b:=(decide ((j:Int)>0))) 89 (fun WM=>?_) (fun WM=>?_))
       ·have UU:(j:Int)>0:=(dq).1 WM
        refine ZL 4 [0] (ia (((j-1:Nat):Int)) (((j:Int))-(1)) ?_)
        obtain ⟨x5,T8⟩:=Zr x2.lnt (j-1) om
        refine Zm (Zg none ((j-1:Nat):Int) 1 (Y3 T8)) (ZZ (x3<=x5) (fun Xd=>?_) (fun Xd=>?_))
        ·exact ar (Zt (ZU (.b false) (lb (G6 (FL Zo (Il (HU YP (by rintro ⟨q1,q2,q3⟩;first|omega|(rw [VG] at q2;exact q2 (Yp some om))|(have:=q3 _ (by rw [Z9 om];exact T8);omega)) XL)) Zl)))))
        refine ak (az (ZG j (Z0 ?_)))
        have hdr:=Y9 YP
        exact ZH ⟨j+1,ob,(NA YP ⟨by omega,(by rw [VG];intro q;cases q;omega),fun p hp=>by first|(rw [Zj om] at hp;cases hp;done)|(rw [Z9 om,T8] at hp;cases hp;omega)⟩ XL),rfl,rfl,rfl⟩ (wk [0] (ZJ j fl))
       have UV:¬((j:Int)>0):=Yd dq WM
       refine Z0 (WT (ak (az (ZG j (Z0 ?_)))))
       have hdr:=Y9 YP
       exact ZH ⟨j+1,ob,(NA YP ⟨by omega,(by rw [VG];intro q;cases q;omega),fun p hp=>by first|(rw [Zj om] at hp;cases hp;done)|(rw [Z9 om,T8] at hp;cases hp;omega)⟩ XL),rfl,rfl,rfl⟩ (wk [0] (ZJ j fl))
      refine Z2 3 (ib (b:=(decide (x3<0))) 71 (fun V4=>?_) (fun V4=>?_))
      ·have Q6:x3<0:=(dq).1 V4
       exact Z2 6 (Yv (wk [0] (Zp true V4 fl)) hj4)
      have TP:¬(x3<0):=Yd dq V4
      exact ZL 3 [0] (iw (Yi x2.pms) (Z2 2 (Yv (wk [0] (Zp (decide (x3>=(x2.pms.length:Int))) V4 fl)) hj4)))
     have hL:Kr x2.pms x2.lnt=true:=by rw [<-XL,Xf om];rfl
     have hS:=Z9l ZA hL
     refine ax 2 (az (ZG k (Z0 ?_)))
     have hdr:=Y9 Zo
     exact ZH ⟨k+1,ob,(Za4 Zo hS Zl),rfl,rfl,rfl⟩ (wk [] (ZJ k fl))
    refine Z2 2 (ib (b:=(decide ((x2.pms.length:Int)>3))) 47 (fun WV=>?_) (fun WV=>?_))
    ·have Ke:(x2.pms.length:Int)>3:=(dq).1 WV
     exact Z2 6 (Yv (wk [0] (Zp true WV fl)) hj3)
    have QR:¬((x2.pms.length:Int)>3):=Yd dq WV
    exact ZL 3 [0] (Zy [] (MY ds x2.pms) (Z2 2 (Yv (wk [0] (Zp (!W7 ds.length x2.pms) WV fl)) hj3)))
   exact ax 0 (ar (Zt (ZU (.b true) (lb (Zdc (by assumption) Z3 (by assumption) Za (by rw [<-Zl,Xf om];rfl))))))
  refine Z2 1 (ib (b:=((!WF ds)||(decide ((fs.length:Int)<1)))) 17 (fun WW=>?_) (fun WW=>?_))
  ·have AE:(¬(WF ds=true))∨((fs.length:Int)<1):=((Yh (Yn Iff.rfl) dq)).1 WW
   exact Z2 4 (Yv (wk [] (Zp true WW fl)) hj2)
  have KH:¬((¬(WF ds=true))∨((fs.length:Int)<1)):=Yd (Yh (Yn Iff.rfl) dq) WW
  exact Z2 1 (iw (D4 fs) (Z2 2 (Yv (wk [] (Zp (decide ((fs.length:Int)>4)) WW fl)) hj2)))
 refine Z2 2 (ib (b:=(!WF ds)) 12 (fun Q4=>?_) (fun Q4=>?_))
 ·have MR:¬(WF ds=true):=((Yn Iff.rfl)).1 Q4
  exact Z2 4 (Yv (wk [] (Zp true Q4 fl)) hj1)
 have MS:¬(¬(WF ds=true)):=Yd (Yn Iff.rfl) Q4
 exact Z2 1 (iw (D4 fs) (Z2 2 (Yv (wk [] (Zp (decide ((fs.length:Int)<1)) Q4 fl)) hj1)))
theorem Z4r (n:Zq) (hz:Ua n:=by exact ob):Zi 76 [Yk n] [] (fun r h=>(r=.tup [.agg [Ya n.decls,TG n],.b (VW n)]/\h=[]/\n.routines.length<=4)∨(r=.tup [.agg [Ya [],Cr []],.b false]/\h=[]/\VW n=false)):=by
 have hzl:=hz.len
 refine ZF 41 Tryz.func76 (ar (iA (YJ n) fun b1=>iA [nl,nl] fun b2=>Z0 (Yf 2 [1] (iw (Vl n.routines) (ZZ ((n.routines.length:Int)>4) (fun Za=>?_) (fun Za=>?_))))))
 ·exact Yc 1 (Zz 0 b2 [nl,nl] (Zt (r3 [] [.agg [nl,nl],.b false] [0] [(b2,b2)] (.inr ⟨rfl,rfl,(by rw [NH,decide_eq_false om];rfl)⟩) (Zc.tup (.cons (Zc.agg (.cons (Zc.sl _ rfl) (.cons (Zc.sl _ rfl) .nil))) (.cons (lr _) .nil))))))
 refine ak (Zu 3 [1] (iA [nl,nl] fun b3=>?_))
 refine Zz 0 b3 [Ya n.decls,nl] (ie (Yf 2 [2] (iw (Vl n.routines) (Z0 (ab 0 (BR 3 (Y0 (fun fz gz m F h=>∃(k:Nat) (v:Value),(k<=n.routines.length)/\F=sF [1,2,4,16,17] fz [(18,.i k)]/\h=[.obj b3 [Ya n.decls,Fs ((n.routines.take k).map XR) v],Zh gz 2,Zh gz 3,.tail v 3]/\m=n.routines.length-k) _ _ _ ⟨0,(.slice none 0 0),ob,rfl,rfl,rfl⟩ (wk [1,1,1,0] (Y5 fl)) ?_)))))))
 rintro m F h ⟨k,v,Yb,rfl,rfl,rfl⟩
 refine ZP (aq (We ((k:Int)<(n.routines.length:Int)) (fun Zf=>?_) (fun Zf=>?_)))
 ·refine ak (aq (ab 1 (ar ?_)))
  obtain ⟨x1,Z3⟩:=Zr n.routines k om
  refine Zm (Zg none (k:Int) 5 (Wm Z3)) (Z2 1 (iA [nl,nl,.i 0,nl,.i 0] fun b4=>Zz 0 b4 (Tm x1) (ie (az (ZL 9 [1,0,0,0] (iL (T5 [WS.mk x1.params x1.lent x1.result]) 1 3 fun v1=>ZQ 0 [(31,Cr [WS.mk x1.params x1.lent x1.result])] (ip 5 (T5 ((n.routines.take (k+1)).map XR)) (T5 ((n.routines.take k).map XR)) (T5 [WS.mk x1.params x1.lent x1.result]) v none 3 (LX _) (LX _) (Z0k _) (by simp<;>omega) (by rw [Ww Z3];simp [T5,XR]) fun v2=>Z2 1 (Zz 3 b3 [Ya n.decls,Fs ((n.routines.take (k+1)).map XR) v2] (ie (az (ZG k (Z0 ?_))))))))))))
  have hdr:=Y9 Z3
  exact ZH ⟨k+1,v2,ob,rfl,rfl,rfl⟩ (wk [0,3,3,0] (ZJ k fl))
 refine ax 0 (aD 8 (BZ 3 8 [0,1,2,3,4] [(39,Cr ((n.routines.take k).map XR))] [0,2,0] (Z8 5 (Yq 5 [] [0] [b3] (Z4z n.decls ((n.routines.take k).map XR) (hz:=hz.decls) (hf:=(by intro f hf;obtain ⟨r,h1,rfl⟩:=XH.1 hf;have:=TZ h1;exact ⟨hz.params r this,hz.lent r this⟩))) (Z8 6 (YM 6 1 [] [] b2 [Ya n.decls,Fs ((n.routines.take k).map XR) v] (Zk 0 1 [7] (de ?_))))))))
 have htk:n.routines.take k=n.routines:=Wx om
 exact ZD (r3 [] [.agg [Ya n.decls,Fs ((n.routines.take k).map XR) v],.b (Ks n.decls ((n.routines.take k).map XR))] [0] [(b2,b2)] (.inl ⟨rfl,rfl,om⟩) (Zc.tup (.cons (Zc.agg (.cons (lr _) (.cons (Zc.sl _ (Yp T5 (by rw [htk]))) .nil))) (.cons (lb (by rw [htk,NH,decide_eq_true (p:=n.routines.length<=4) om,Bool.true_and])) .nil))))
theorem Z4w (n:Zq) (t:Int) (hn:Xe n:=by exact ob):Zi 161 [.agg [Ya n.decls,TG n],.i t] [] (Yg (Q8 ((ZW n.decls t).map (ZX n.decls)))):=by
 have Xy:=hn.decls
 have hcl:=I0 Xy t
 refine ZF 26 Tryz.func161 (ar (iA [Ya n.decls,TG n] fun b1=>?_))
 refine Z0 (ZP (Yf 3 [0] (Zy [] (Z4k n.decls t) (io (.i (((ZW n.decls t).length:Nat):Int)) (.i (((Z7 (ZW n.decls t)).length:Nat):Int)) (li (by rw [Yi])) (Z0 (ab 0 (BR 1 (Y0 (fun fz gz m F h=>∃(k:Nat) (v:Value),(k<=(ZW n.decls t).length)/\F=sF [2,11,12] fz [(5,Bz (((ZW n.decls t).take k).map (ZX n.decls)) v),(13,.i k)]/\h=[Zh gz 1,.tail v 1]/\m=(ZW n.decls t).length-k) _ _ _ ⟨0,(.slice none 0 0),ob,rfl,rfl,rfl⟩ (wk [1,0] (fc (x:=nl) (Zc.slh _ rfl) (Y5 fl))) ?_))))))))
 rintro m F h ⟨k,v,Yb,rfl,rfl,rfl⟩
 refine ZP (aq (We ((k:Int)<(((ZW n.decls t).length:Nat):Int)) (fun Za=>?_) (fun Za=>?_)))
 ·refine ak (aq (ab 1 (ar ?_)))
  obtain ⟨x1,Z3⟩:=Zr (ZW n.decls t) k om
  refine Zm (Zg none (k:Int) 1 (Y3 Z3)) (Z0 (az (ZL 4 [0] (Zy [] (Z4n n.decls x1 (hc:=(by have:=Ss Xy Z3;omega))) (iL (XU [ZX n.decls x1]) 1 1 fun v1=>ZQ 0 [(22,Q8 [ZX n.decls x1])] (ip 2 (XU (((ZW n.decls t).take (k+1)).map (ZX n.decls))) (XU (((ZW n.decls t).take k).map (ZX n.decls))) (XU [ZX n.decls x1]) v none 1 (Ja _) (Ja _) (D3 _) (by simp;omega) (by rw [Ww Z3];simp [XU]) fun v2=>Z0 (az (ZG k (Z0 ?_)))))))))
  have hdr:=Y9 Z3
  exact ZH ⟨k+1,v2,ob,rfl,rfl,rfl⟩ (wk [2,0] (fr (ZJ k fl)))
 exact ax 0 (ar (Zt (ZU (Bz (((ZW n.decls t).take k).map (ZX n.decls)) v) (Zc.sl _ (Yp XU (by rw [Wx om]))))))
theorem Z4x (n:Zq) (op:Int) (num:Int) (ts:LI) (hn:Xe n:=by exact ob) (hl_ts:ts.length<=4294967296:=by exact ob) (hnum:-9223372036854775808<=num/\num<=9223372036854775807:=by exact ob):Zi 162 [.agg [Ya n.decls,TG n],.i op,.i num,Z6 ts] [] (fun r h=>∃(t:Int),r=.tup [.i t,.b ((XB n op num ts).isSome)]/\h=[]/\∀x,XB n op num ts=some x->t=x):=by
 have Xy:=hn.decls
 have hrl:=hn.len
 have hcfl:(ZX n.decls num).length<=4294967296:=by have:=VP Xy num;omega
 have hdl:n.decls.length<=4294967296:=by have:=Xy.len;omega
 refine ZF 149 Tryz.func162 (ar (iA [Ya n.decls,TG n] fun b1=>Z0 (ZP (Y7 (ab 0 (ar (YG (op==0) Zs (fun Za=>?_) (fun Za=>?_))))))))
 ·refine ar (XG 6 [3] [(26,.b ((decide (num>=(-999)))&&(decide (num<=999))))] (fun gz=>gz) ?_ (fun hj1=>?_))
  ·refine XG 11 [] [(31,.b (((decide (num>=(-999)))&&(decide (num<=999)))&&((ts.length:Int)==0)))] (fun gz=>gz) ?_ (fun hj2=>?_)
   ·refine Z0 ?_
    have hF:=sf0 (n:=n) (num:=num) (ts:=ts) Za
    exact ZD (r2 [] [.i 0,.b (((decide (num>=(-999)))&&(decide (num<=999)))&&((ts.length:Int)==0))] ⟨0,rfl,rfl,(AQ hF)⟩ (Zc.tup (.cons (lr _) (.cons (lb (AP hF (by simp [*];try omega))) .nil))))
   refine Z2 1 (ib (b:=((decide (num>=(-999)))&&(decide (num<=999)))) 27 (fun Zd=>?_) (fun Zd=>?_))
   ·have Y4:(num>=(-999))/\(num<=999):=((YK dq dq)).1 Zd
    exact Z2 1 (iw (Yi ts) (Z2 2 (Yv (wk [0] (Zp ((ts.length:Int)==0) Zd fl)) hj2)))
   have Ym:¬((num>=(-999))/\(num<=999)):=Yd (YK dq dq) Zd
   exact Z2 4 (Yv (wk [0] (Zp false Zd fl)) hj2)
  refine Z2 3 (ib (b:=(decide (num>=(-999)))) 23 (fun ZC=>?_) (fun ZC=>?_))
  ·have YQ:num>=(-999):=(dq).1 ZC
   exact Z2 3 (Yv (wk [0] (Zp (decide (num<=999)) ZC fl)) hj1)
  have YZ:¬(num>=(-999)):=Yd dq ZC
  exact Z2 3 (Yv (wk [0] (Zp false ZC fl)) hj1)
 refine Y7 (XP (fun fz gz F h=>F=sF [1,2,3,4,11,18] fz [(32,.b ((op==1)||((op==2)||((op==3)||(op==4)))))]/\h=gz) ?_ ?_)
 ·refine ac (op==1) Zs (fun Zf=>?_) (fun Zf=>?_)
  ·exact ak (ZT ⟨rfl,rfl⟩ (wk [0] (fc (x:=.b (op==1)) (lb (by first|rfl|(rw [Zj Zf])|(rw [Z9 Zf])|(simp [Zf];done)|(rw [Xr];simp [Zf];done)|omega)) fl)))
  refine ar (YG (op==2) Zs (fun ZA=>?_) (fun ZA=>?_))
  ·exact ak (ZT ⟨rfl,rfl⟩ (wk [0] (fc (x:=.b (op==2)) (lb (by first|rfl|(rw [Zj Zf])|(rw [Z9 Zf])|(simp [Zf,ZA];done)|(rw [Xr];simp [Zf,ZA];done)|omega)) fl)))
  refine ar (YG (op==3) Zs (fun Yl=>?_) (fun Yl=>?_))
  ·exact ak (ZT ⟨rfl,rfl⟩ (wk [0] (fc (x:=.b (op==3)) (lb (by first|rfl|(rw [Zj Zf])|(rw [Z9 Zf])|(simp [Zf,ZA,Yl];done)|(rw [Xr];simp [Zf,ZA,Yl];done)|omega)) fl)))
  exact T6 (ZT ⟨rfl,rfl⟩ (wk [0] (fc (x:=.b (op==4)) (lb (by first|rfl|(rw [Zj Zf])|(rw [Z9 Zf])|(simp [Zf,ZA,Yl];done)|(rw [Xr];simp [Zf,ZA,Yl];done)|omega)) fl)))
 rintro F h ⟨rfl,rfl⟩
 refine ac ((op==1)||((op==2)||((op==3)||(op==4)))) (p:=(op=1)∨((op=2)∨((op=3)∨(op=4)))) (Yh Zs (Yh Zs (Yh Zs Zs))) (fun Xd=>?_) (fun Xd=>?_)
 ·refine az (iL (Z7 [0,0]) 2 1 fun v1=>Z0 (ar (XG 8 [] [(141,.i 0),(148,.b ((num==0)&&(decide (ts=[0,0]))))] (fun gz=>gz) ?_ (fun hj3=>?_))))
  ·refine Z0 ?_
   have hF:=sf1 (n:=n) (num:=num) (ts:=ts) Xd
   exact ZD (r2 [] [.i 0,.b ((num==0)&&(decide (ts=[0,0])))] ⟨0,rfl,rfl,(AQ hF)⟩ (Zc.tup (.cons (lr _) (.cons (lb (AP hF (by simp [*];try omega))) .nil))))
  refine Z2 4 (ib (b:=(num==0)) 144 (fun YB=>?_) (fun YB=>?_))
  ·have Xg:num=0:=(Zs).1 YB
   exact ZQ 2 [(146,Z6 [0,0])] (Zy [] (DU ts [0,0]) (Z2 1 (Yv (wk [0,0] (fr (Zp (decide (ts=[0,0])) YB fl))) hj3)))
  have XX:¬(num=0):=Yd Zs YB
  exact Z2 4 (Yv (wk [0,0] (fr (Zp false YB fl))) hj3)
 refine ar (YG (op==5) Zs (fun Xp=>?_) (fun Xp=>?_))
 ·refine az (iL (Z7 [0]) 1 1 fun v2=>Z0 (ar (XG 8 [] [(141,.i 0),(148,.b ((num==0)&&(decide (ts=[0]))))] (fun gz=>gz) ?_ (fun hj4=>?_))))
  ·refine Z0 ?_
   have hF:=sf5 (n:=n) (num:=num) (ts:=ts) Xp
   exact ZD (r2 [] [.i 0,.b ((num==0)&&(decide (ts=[0])))] ⟨0,rfl,rfl,(AQ hF)⟩ (Zc.tup (.cons (lr _) (.cons (lb (AP hF (by simp [*];try omega))) .nil))))
  refine Z2 4 (ib (b:=(num==0)) 144 (fun X2=>?_) (fun X2=>?_))
  ·have Wu:num=0:=(Zs).1 X2
   exact ZQ 2 [(146,Z6 [0])] (Zy [] (DU ts [0]) (Z2 1 (Yv (wk [0,0] (fr (Zp (decide (ts=[0])) X2 fl))) hj4)))
  have WZ:¬(num=0):=Yd Zs X2
  exact Z2 4 (Yv (wk [0,0] (fr (Zp false X2 fl))) hj4)
 refine ar (YG (op==11) Zs (fun VF=>?_) (fun VF=>?_))
 ·refine YO 1 (iw (Yi ts) (YG ((ts.length:Int) != 2) Y6 (fun Vw=>?_) (fun Vw=>?_)))
  ·refine ZP ?_
   have hF:=Za1 (n:=n) (num:=num) VF Vw
   exact ZD (r2 [] [.i (-1),.b false] ⟨(-1),rfl,rfl,(DT hF)⟩ (Zc.tup (.cons (lr _) (.cons (lb (DS hF)) .nil))))
  refine ak (aD 12 (ZO 9 12 [0,1,2] [0] ?_))
  obtain ⟨x1,Z3⟩:=Zr ts 0 om
  refine dx 3 (Zg none 0 1 (Y3 Z3)) (Zk 7 8 [4] (KC (fun fz gz F h=>∃(b2:Nat),F=sF [2,3] fz [(12,.p b2 0),(13,.b (XQ n.decls x1))]/\h=[.obj b2 (Ta (Vo n.decls x1)),Zh gz 0]) ?_ ?_))
  ·refine Vq 5 9 ?_ ?_
   ·exact Yq 5 [] [] [] (F4 n.decls x1) (Zk 3 6 [6,7,8] (Z8 9 (dA 9 [] [] [.i 0,.i 0,nl] fun b2=>Z8 10 (YM 10 0 [] [] b2 (Ta (Vo n.decls x1)) (Zk 0 1 [11] (de (ZT ⟨b2,rfl,rfl⟩ (wk [0,0] fl))))))))
   exact dA 9 [0] [b1] [.i 0,.i 0,nl] fun b3=>Z8 5 (Yq 5 [] [] [] (F4 n.decls x1) (Zk 2 5 [6,7,8] (Z8 10 (YM 10 0 [] [] b3 (Ta (Vo n.decls x1)) (Zk 0 1 [11] (de (ZT ⟨b3,rfl,rfl⟩ (wk [0,0] fl))))))))
  rintro F h ⟨b2,rfl,rfl⟩
  refine aD 17 (ZO 13 17 [0,1,2,3] [0] (db (b:=XQ n.decls x1) 58 (fun W6=>?_) (fun W6=>?_)))
  ·have Vs:XQ n.decls x1=true:=(Iff.rfl).1 W6
   refine Zk 12 13 [4] ?_
   obtain ⟨x2,Zo⟩:=Zr ts 1 om
   refine dx 5 (Zg none 1 1 (Y3 Zo)) (ZO 4 11 [6,7,8,9,10,11,15] [0] (db (b:=(x2==((Vo n.decls x1).frm))) 66 (fun WM=>?_) (fun WM=>?_)))
   ·have UT:x2=((Vo n.decls x1).frm):=(Zs).1 WM
    refine Zk 0 4 [12,13,14,16] (de ?_)
    have hF:=Ip (n:=n) (num:=num) VF Vw Z3 Zo
    exact ZD (r2 [] [.i ((Vo n.decls x1).to_),.b (num==0)] ⟨(Vo n.decls x1).to_,rfl,rfl,(AQ hF)⟩ (Zc.tup (.cons (lr _) (.cons (lb (AP hF (by simp [*];try omega))) .nil))))
   have UU:¬(x2=((Vo n.decls x1).frm)):=Yd Zs WM
   refine Zk 0 4 [12,13,14,16] (de ?_)
   have hF:=Ip (n:=n) (num:=num) VF Vw Z3 Zo
   exact ZD (r2 [] [.i ((Vo n.decls x1).to_),.b false] ⟨(Vo n.decls x1).to_,rfl,rfl,(AQ hF)⟩ (Zc.tup (.cons (lr _) (.cons (lb (AP hF (by simp [*]))) .nil))))
  have UV:¬(XQ n.decls x1=true):=Yd Iff.rfl W6
  refine Zk 0 13 [4,5,6,7,8,9,10,11,12,13,14,15,16] (de ?_)
  have hF:=Za0 (n:=n) (num:=num) VF Vw Z3 (by assumption)
  exact ZD (r2 [] [.i ((Vo n.decls x1).to_),.b false] ⟨(Vo n.decls x1).to_,rfl,rfl,(DT hF)⟩ (Zc.tup (.cons (lr _) (.cons (lb (DS hF)) .nil))))
 refine ar (YG (op==6) Zs (fun VS=>?_) (fun VS=>?_))
 ·refine Zu 3 [0] (Zy [] (MZ n.decls num) (Z2 3 (iA [nl] fun b4=>Z2 1 (Zz 0 b4 [Z6 (ZX n.decls num)] (ie (ar (XG 9 [] [(79,.i (W3 n.decls num)),(87,.b ((decide ((W3 n.decls num)>=0))&&(decide (ts=(ZX n.decls num)))))] (fun gz=>gz) ?_ (fun hj5=>?_))))))))
  ·refine Z0 ?_
   have hF:=sf6 (n:=n) (num:=num) (ts:=ts) VS
   exact ZD (r2 [] [.i (W3 n.decls num),.b ((decide ((W3 n.decls num)>=0))&&(decide (ts=(ZX n.decls num))))] ⟨W3 n.decls num,rfl,rfl,(AQ hF)⟩ (Zc.tup (.cons (lr _) (.cons (lb (AP hF (by simp [*];try omega))) .nil))))
  refine Z2 4 (ib (b:=(decide ((W3 n.decls num)>=0))) 82 (fun V4=>?_) (fun V4=>?_))
  ·have Q6:(W3 n.decls num)>=0:=(dq).1 V4
   exact ZL 3 [0] (Zy [] (DU ts (ZX n.decls num)) (Z2 1 (Yv (wk [0,0] (fr (Zp (decide (ts=(ZX n.decls num))) V4 fl))) hj5)))
  have TP:¬((W3 n.decls num)>=0):=Yd dq V4
  exact Z2 5 (Yv (wk [0,0] (fr (Zp false V4 fl))) hj5)
 refine Y7 (XP (fun fz gz F h=>F=sF [1,2,3,4] fz [(88,.b ((op==9)||(op==10)))]/\h=gz) ?_ ?_)
 ·refine ac (op==9) Zs (fun T7=>?_) (fun T7=>?_)
  ·exact ak (ZT ⟨rfl,rfl⟩ (wk [0] (fc (x:=.b (op==9)) (lb (by first|rfl|(rw [Zj T7])|(rw [Z9 T7])|(simp [T7];done)|(rw [Xr];simp [T7];done)|omega)) fl)))
  exact T6 (ZT ⟨rfl,rfl⟩ (wk [0] (fc (x:=.b (op==10)) (lb (by first|rfl|(rw [Zj T7])|(rw [Z9 T7])|(simp [T7];done)|(rw [Xr];simp [T7];done)|omega)) fl)))
 rintro F h ⟨rfl,rfl⟩
 refine ac ((op==9)||(op==10)) (p:=(op=9)∨(op=10)) (Yh Zs Zs) (fun KF=>?_) (fun KF=>?_)
 ·refine X4 (Xi [1,2,3,4] [(99,.b ((decide (num<0))||(decide (num>=(((n.routines.map XR).length:Nat):Int)))))] (fun gz=>gz) ?_ ?_)
  ·refine Z2 3 (ib (b:=(decide (num<0))) 93 (fun WV=>?_) (fun WV=>?_))
   ·have Ke:num<0:=(dq).1 WV
    exact Z0 (wk [0] (Zp true WV fl))
   have QR:¬(num<0):=Yd dq WV
   exact ZL 3 [0] (io (.i (((n.routines.map XR).length:Nat):Int)) (.i (((T5 (n.routines.map XR)).length:Nat):Int)) (li (by rw [D4])) (Z0 (wk [0] (Zp (decide (num>=(((n.routines.map XR).length:Nat):Int))) WV fl))))
  refine ac ((decide (num<0))||(decide (num>=(((n.routines.map XR).length:Nat):Int)))) (p:=(num<0)∨(num>=(((n.routines.map XR).length:Nat):Int))) (Yh dq dq) (fun Tv=>?_) (fun Tv=>?_)
  ·refine ZP ?_
   have hF:=Za2 (n:=n) (ts:=ts) KF Tv
   exact ZD (r2 [] [.i (-1),.b false] ⟨(-1),rfl,rfl,(DT hF)⟩ (Zc.tup (.cons (lr _) (.cons (lb (DS hF)) .nil))))
  refine ak (aD 14 (ZO 11 14 [0,1,2] [0] ?_))
  obtain ⟨x3,YP⟩:=Zr (n.routines.map XR) num.toNat om
  obtain ⟨r,hr,hrx⟩:=FK YP
  have hrp:=hn.params_at hr
  have hpx:x3.pms=r.params:=by rw [hrx];rfl
  have hpl:x3.pms.length<=3:=by rw [hpx];exact hrp
  refine dx 3 (Zg none num 3 (C5 YP)) (ZO 5 10 [4,5,6,7,8] [0] (dx 9 (Zg none num 3 (C5 YP)) (Zk 0 4 [10,11,12,13] (de (X4 (YG (op==9) Zs (fun Kd=>?_) (fun Kd=>?_)))))))
  ·refine Yc 3 (Zy [] (DU ts x3.pms) (Z0 ?_))
   have hF:=sf9 (ts:=ts) Kd Tv YP
   exact ZD (r2 [] [.i x3.res,.b (decide (ts=x3.pms))] ⟨x3.res,rfl,rfl,(AQ hF)⟩ (Zc.tup (.cons (lr _) (.cons (lb (AP hF (by simp [*];try omega))) .nil))))
  refine ak (Yc 1 (iw (Yi x3.pms) (ia (((x3.pms.length:Int)-1)) (((x3.pms.length:Int))-(1)) (Z0 (X4 (ZZ (((x3.pms.length:Int)-1)<0) (fun Bq=>?_) (fun Bq=>?_)))))))
  ·refine ZP ?_
   have hF:=Z9z (ts:=ts) (KF.resolve_left Kd) Tv YP Bq
   exact ZD (r2 [] [.i (-1),.b false] ⟨(-1),rfl,rfl,(DT hF)⟩ (Zc.tup (.cons (lr _) (.cons (lb (DS hF)) .nil))))
  refine ak (aD 9 (ZO 5 9 [0,1,2,3] [0] ?_))
  obtain ⟨x4,VG⟩:=Zr x3.pms (((x3.pms.length:Int)-1).toNat) om
  refine dx 4 (Zg none ((x3.pms.length:Int)-1) 1 (Y3 VG)) (Zk 2 4 [5,6] (Z8 7 (Yq 7 [] [] [] (Z4d n.decls x4 x3.res) (Zk 0 1 [8] (de (ar (XG 10 [] [(131,.i (U0 n.decls x4 x3.res)),(140,.b ((decide ((U0 n.decls x4 x3.res)>=0))&&(decide (ts=(x3.pms.take (((x3.pms.length:Int)-1).toNat))))))] (fun gz=>gz) ?_ (fun hj6=>?_))))))))
  ·refine Z0 ?_
   have hF:=Z9y (ts:=ts) (KF.resolve_left Kd) Tv YP Bq VG
   exact ZD (r2 [] [.i (U0 n.decls x4 x3.res),.b ((decide ((U0 n.decls x4 x3.res)>=0))&&(decide (ts=(x3.pms.take (((x3.pms.length:Int)-1).toNat)))))] ⟨U0 n.decls x4 x3.res,rfl,rfl,(AQ hF)⟩ (Zc.tup (.cons (lr _) (.cons (lb (AP hF (by rw [Xr];simp))) .nil))))
  refine Z2 4 (ib (b:=(decide ((U0 n.decls x4 x3.res)>=0))) 134 (fun WW=>?_) (fun WW=>?_))
  ·have AE:(U0 n.decls x4 x3.res)>=0:=(dq).1 WW
   exact Z2 3 (Zm (KM (es:=Z7 x3.pms) (hv:=none) (l:=0) (m:=((x3.pms.length:Int)-1)) (sz:=1) (es':=Z7 (x3.pms.take (((x3.pms.length:Int)-1).toNat))) kr om (by simp<;>omega) (by simp<;>omega) (YD _) (by first|(simp only [U9,Vi,J9,JJ];done)|(simp only [U9,Vi,J9,JJ];rfl)|(simp [J9,JJ];done))) (Zy [] (DU ts (x3.pms.take (((x3.pms.length:Int)-1).toNat))) (Z2 1 (Yv (wk [0] (fr (Zp (decide (ts=(x3.pms.take (((x3.pms.length:Int)-1).toNat)))) WW fl))) hj6))))
  have KH:¬((U0 n.decls x4 x3.res)>=0):=Yd dq WW
  exact Z2 6 (Yv (wk [0] (fr (Zp false WW fl))) hj6)
 refine ZP ?_
 have hF:=sfd (n:=n) (num:=num) (ts:=ts) Za Xd Xp VF VS KF
 exact ZD (r2 [] [.i (-1),.b false] ⟨(-1),rfl,rfl,(DT hF)⟩ (Zc.tup (.cons (lr _) (.cons (lb (DS hF)) .nil))))
theorem N0 (n:Zq) (us:LI) (ks:List Z5) (ms:List LI) (hn:Xe n:=by exact ob) (hnn:∀t∈us,0<=t) (hk:0<ks.length:=by exact ob) (hl:ks.length=ms.length:=by exact ob) (hb:us.length+3+4*X1 ks<=1000000000:=by exact ob) (hr:Qn ks:=by exact ob) (hm3:∀m∈ms,m.length<=3) (hmn:∀m∈ms,∀f∈m,0<=f) (ih:∀(b:Z5) (us:LI),(b.sz<=X1 ks)->(us.length+4*b.sz<=1000000000)->(b.rng)->(∀t∈us,0<=t)->Zi 77 [.agg [Ya n.decls,TG n],Z6 us,ZI b] [] (Yg (.i (X7 n us b)))):Zi 160 [.agg [Ya n.decls,TG n],Z6 us,Xq ks,Q8 ms] [] (Yg (.tup [.i (W1 n us ks ms true 0),.b (decide (0<=W1 n us ks ms true 0))])):=by
 have hkl:=Lv ks
 refine ZF 45 Tryz.func160 (ar (iA [Ya n.decls,TG n] fun b1=>?_))
 refine Z0 (ZP (YO 1 (iw (Vr ks) (Z0 (ab 0 (Y0 (fun fz gz m F h=>∃(k:Nat) (t:Int),(k<=ks.length)/\(0<k->0<=t)/\(W1 n us (ks.drop k) (ms.drop k) (decide (k=0)) t=W1 n us ks ms true 0)/\F=sF [1,3,4,14,15] fz [(10,.i t),(16,.i k)]/\h=gz/\m=ks.length-k) _ _ _ ⟨0,(-1),ob,ob,(Z5r hk (-1)),rfl,rfl,rfl⟩ (wk [0] (fr (Y5 fl))) ?_))))))
 rintro m F h ⟨k,t,Yb,Zl,Zw,rfl,rfl,rfl⟩
 refine ZP (aq (We ((k:Int)<(ks.length:Int)) (fun Za=>?_) (fun Za=>?_)))
 ·refine ak (aq (ab 1 (Yc 1 ?_)))
  obtain ⟨x1,Z3⟩:=Zr ks k om
  have ZE:=Lw Z3
  have hbr:=Lu hr Z3
  refine Zm (Zg none (k:Int) 2 (U2 Z3)) (Z2 1 (iA [nl,.i 0] fun b2=>Z2 1 (Zz 0 b2 (X3 x1) (ie (aD 11 (ZO 7 11 [0,1,2,3] [1] ?_))))))
  obtain ⟨x2,Zo⟩:=Zr ms k om
  have hxl:=hm3 x2 (Y1 Zo)
  have hxn:=hmn x2 (Y1 Zo)
  refine dx 4 (Zg none (k:Int) 1 (D0 Zo)) (ZO 4 6 [5,8] [0] (Z8 6 (dL 6 [0,1] [b2,b1] (XU [us,x2]) 2 1 fun v1=>Yr 3 3 [] [(27,Q8 [us,x2])] (Z8 7 (dc 7 [] [0,1] [b2,b1] (Za6 [us,x2] (hf:=(by simp only [E0,Yx];omega))) ?_)))))
  rintro _ _ ⟨v2,rfl,rfl⟩
  refine Yr 2 2 [] [(28,Z6 ([us,x2].flatten))] (Z8 9 (Yq 9 [] [] [] (ih x1 ([us,x2].flatten) ob (by simp only [E0,Yx];omega) ob (by rw [E0];exact NG hnn hxn)) (Zk 0 1 [10] (de (X4 (Xi [1,3,4,13,14,15,16] [(41,.b ((decide ((X7 n ([us,x2].flatten) x1)<0))||((decide ((k:Int)>0))&&((X7 n ([us,x2].flatten) x1) != t))))] (fun gz=>gz) ?_ ?_))))))
  ·refine Z2 3 (ib (b:=(decide ((X7 n ([us,x2].flatten) x1)<0))) 33 (fun Zd=>?_) (fun Zd=>?_))
   ·exact Z0 (ZM 4 (Zp true Zd fl))
   refine Z2 3 (ib (b:=(decide ((k:Int)>0))) 36 (fun ZC=>?_) (fun ZC=>?_))
   ·exact Z0 (ZM 4 (Zp ((X7 n ([us,x2].flatten) x1) != t) (And.intro Zd ZC) fl))
   exact Z0 (ZM 4 (Zp false (And.intro Zd ZC) fl))
  refine ac ((decide ((X7 n ([us,x2].flatten) x1)<0))||((decide ((k:Int)>0))&&((X7 n ([us,x2].flatten) x1) != t))) (p:=((X7 n ([us,x2].flatten) x1)<0)∨(((k:Int)>0)/\((X7 n ([us,x2].flatten) x1)≠t))) (Yh dq (YK dq Y6)) (fun Zf=>?_) (fun Zf=>?_)
  ·refine ZP ?_
   have hK:W1 n us ks ms true 0=-1:=by rw [<-Zw];rw [E0] at Zf;exact Nn Z3 Zo Zf
   exact ZD (r2 [] [.i (-1),.b false] ⟨rfl,rfl⟩ (Zc.tup (.cons (li (by rw [hK])) (.cons (lb (by rw [hK];rfl)) .nil))))
  exact ak (T6 (az (ZG k (Z0 (ZH ⟨k+1,X7 n ([us,x2].flatten) x1,ob,(by intro _;omega),(by rw [E0] at Zf ⊢;rw [<-Zw];exact (Nq Z3 Zo Zf).symm),rfl,rfl,rfl⟩ (wk [3] (fr (ZJ k fl))))))))
 refine ax 0 (ZP ?_)
 have hK:W1 n us ks ms true 0=t:=by rw [<-Zw];exact Np om
 exact ZD (r2 [] [.i t,.b true] ⟨rfl,rfl⟩ (Zc.tup (.cons (li (by rw [hK])) (.cons (lb (by rw [hK];exact (decide_eq_true (Zl om)).symm)) .nil))))
theorem Z4y (n:Zq) (us:LI) (s:Z4) (hn:Xe n) (hty:BO n) (hnn:∀t∈us,0<=t) (hb:us.length+4*s.sz<=1000000000) (hr:s.rng) (ih:∀(b:Z5) (us:LI),(b.sz<s.sz)->(us.length+4*b.sz<=1000000000)->(b.rng)->(∀t∈us,0<=t)->Zi 77 [.agg [Ya n.decls,TG n],Z6 us,ZI b] [] (Yg (.i (X7 n us b)))):Zi 124 [.agg [Ya n.decls,TG n],Z6 us,YC s] [] (fun r h=>∃(t:Int),r=.tup [.i t,.b (decide (0<=Yj n us s))]/\h=[]/\(¬Yo s.op=true->0<=Yj n us s->t=Yj n us s)):=by
 have Xy:=hn.decls
 have hkz:=Ut s
 have haz:=TJ s
 have hse:=s.sz_eq
 rw [s.rng_eq] at hr
 obtain ⟨hnum,hkr⟩:=hr
 refine ZF 233 Tryz.func124 (ar (iA [Ya n.decls,TG n] fun b1=>iA (Xm s) fun b2=>Z0 (Zu 2 [0] (iw (Yi s.args) (iM 0 s.args.length fun v1=>?_)))))
 refine Z0 (Yf 2 [1] (iw (Yi s.args) (Z0 (ab 0 (Y0 (fun fz gz m F h=>∃(k:Nat) (ts:LI) (v:Value),(k<=s.args.length)/\(ts.length=k)/\(W8 us (s.args.take k)=some ts)/\F=sF [1,3,5,20,21] fz [(8,ZY ts v),(22,.i k)]/\h=[Zh gz 1,Zh gz 2,.tail v 1]/\m=s.args.length-k) _ _ _ ⟨0,[],v1,ob,ob,ob,rfl,rfl,rfl⟩ (wk [1,1,0] (fr (Y5 fl))) ?_)))))
 rintro m F h ⟨k,ts,v,Yb,Zl,Zw,rfl,rfl,rfl⟩
 refine ZP (aq (We ((k:Int)<(s.args.length:Int)) (fun Za=>?_) (fun Za=>?_)))
 ·refine ak (aq (ab 1 (ar ?_)))
  obtain ⟨x1,Z3⟩:=Zr s.args k om
  refine Zm (Zg none (k:Int) 1 (Y3 Z3)) (Z0 (X4 (Xi [1,3,5,8,10,20,21,22] [(33,.b ((decide (x1<0))||(decide (x1>=(us.length:Int)))))] (fun gz=>gz) ?_ ?_)))
  ·refine Z2 3 (ib (b:=(decide (x1<0))) 28 (fun Zd=>?_) (fun Zd=>?_))
   ·have Y4:x1<0:=(dq).1 Zd
    exact Z0 (ZM 3 (Zp true Zd fl))
   have Ym:¬(x1<0):=Yd dq Zd
   exact Z2 2 (iw (Yi us) (Z0 (ZM 3 (Zp (decide (x1>=(us.length:Int))) Zd fl))))
  refine ac ((decide (x1<0))||(decide (x1>=(us.length:Int)))) (p:=(x1<0)∨(x1>=(us.length:Int))) (Yh dq dq) (fun Zf=>?_) (fun Zf=>?_)
  ·refine ZP ?_
   have hS:Yj n us s=-1:=Zc7 (Lc Z3 (QK om))
   exact ZD (r2 [] [.i (-1),.b false] ⟨(-1),rfl,rfl,(by intro _ h;rw [hS] at h;omega)⟩ (Zc.tup (.cons (lr _) (.cons (lb (by rw [hS];rfl)) .nil))))
  refine ak (az (Z2 3 ?_))
  obtain ⟨x2,Zo⟩:=Zr us x1.toNat om
  exact Zm (Zg none x1 1 (Y3 Zo)) (Z2 1 (iL (Z7 [x2]) 1 1 fun v2=>ZQ 0 [(39,Z6 [x2])] (ip 3 (Z7 (ts++[x2])) (Z7 ts) (Z7 [x2]) v none 1 (YD _) (YD _) (W5 _) (by simp<;>omega) (by simp [W4,Z7]) fun v3=>Z0 (az (ZG k (Z0 (ZH ⟨k+1,(ts++[x2]),v3,ob,ob,(RI Zw Z3 (by rw [Q2 om Zo])),rfl,rfl,rfl⟩ (wk [2,2,0] (fr (ZJ k fl))))))))))
 refine ax 0 (X4 (Xi [1,3,5,8] [(70,.b ((s.into != 0)&&((s.op != 6)||((decide (s.into<1))||((decide (s.into>(us.length:Int)))||((gI us (s.into-1))==0))))))] (fun gz=>gz) ?_ ?_))
 ·refine ZL 4 [0] (ib (b:=(s.into != 0)) 45 (fun ZC=>?_) (fun ZC=>?_))
  ·have YQ:s.into≠0:=(Y6).1 ZC
   refine ZL 4 [0] (ib (b:=(s.op != 6)) 49 (fun YB=>?_) (fun YB=>?_))
   ·have YZ:s.op≠6:=(Y6).1 YB
    exact Z0 (ZM 3 (Zp true (And.intro ZC YB) fl))
   have Xg:¬(s.op≠6):=Yd Y6 YB
   refine ZL 5 [0] (ib (b:=(decide (s.into<1))) 54 (fun X2=>?_) (fun X2=>?_))
   ·have XX:s.into<1:=(dq).1 X2
    exact Z0 (ZM 3 (Zp true (And.intro ZC (And.intro YB X2)) fl))
   have Wu:¬(s.into<1):=Yd dq X2
   refine ZL 3 [0] (iw (Yi us) (Z2 3 (ib (b:=(decide (s.into>(us.length:Int)))) 61 (fun W6=>?_) (fun W6=>?_))))
   ·have WZ:s.into>(us.length:Int):=(dq).1 W6
    exact Z0 (ZM 3 (Zp true (And.intro ZC (And.intro YB (And.intro X2 W6))) fl))
   have Vs:¬(s.into>(us.length:Int)):=Yd dq W6
   exact ZL 3 [0] (ia ((s.into-1)) ((s.into)-(1)) (Zm (AW (es:=Z7 us) (hv:=none) (j:=(s.into-1)) (sz:=1) (y:=.i (gI us (s.into-1))) kr om (Y3 (Mr om)) rfl) (Z0 (ZM 3 (Zp ((gI us (s.into-1))==0) (And.intro ZC (And.intro YB (And.intro X2 W6))) fl)))))
  have UT:¬(s.into≠0):=Yd Y6 ZC
  exact Z0 (ZM 3 (Zp false ZC fl))
 refine ac ((s.into != 0)&&((s.op != 6)||((decide (s.into<1))||((decide (s.into>(us.length:Int)))||((gI us (s.into-1))==0))))) (p:=(s.into≠0)/\((s.op≠6)∨((s.into<1)∨((s.into>(us.length:Int))∨((gI us (s.into-1))=0))))) (YK Y6 (Yh Y6 (Yh dq (Yh dq Zs)))) (fun ZA=>?_) (fun ZA=>?_)
 ·refine ZP ?_
  have hS:Yj n us s=-1:=Zc8 (JZ.1 ZA)
  exact ZD (r2 [] [.i (-1),.b false] ⟨(-1),rfl,rfl,(by intro _ h;rw [hS] at h;omega)⟩ (Zc.tup (.cons (lr _) (.cons (lb (by rw [hS];rfl)) .nil))))
 refine ak (aq (ab 2 (Zu 2 [0] (Zy [] (F5 s.op) (YG (Yo s.op) Iff.rfl (fun Yl=>?_) (fun Yl=>?_))))))
 ·refine Yc 1 (iw (Yi ts) (XG 9 [3,5,8] [(83,.b (((ts.length:Int)==1)&&((gI ts 0) != 0)))] (fun gz=>gz) ?_ (fun hj1=>?_)))
  ·refine XG 14 [3,5,8] [(88,.b ((((ts.length:Int)==1)&&((gI ts 0) != 0))&&(s.num==0)))] (fun gz=>gz) ?_ (fun hj2=>?_)
   ·refine XG 20 [3,5,8] [(94,.b (((((ts.length:Int)==1)&&((gI ts 0) != 0))&&(s.num==0))&&((s.kids.length:Int)==0)))] (fun gz=>gz) ?_ (fun hj3=>?_)
    ·refine Z0 (X4 (Xi [3,8,11] [(105,.b ((((((ts.length:Int)==1)&&((gI ts 0) != 0))&&(s.num==0))&&((s.kids.length:Int)==0))&&((s.op==16)||(s.op==17))))] (fun gz=>gz) ?_ ?_))
     ·refine Z2 2 (ib (b:=(((((ts.length:Int)==1)&&((gI ts 0) != 0))&&(s.num==0))&&((s.kids.length:Int)==0))) 96 (fun WM=>?_) (fun WM=>?_))
      ·have UU:((((ts.length:Int)=1)/\((gI ts 0)≠0))/\(s.num=0))/\((s.kids.length:Int)=0):=((YK (YK (YK Zs Y6) Zs) Zs)).1 WM
       refine ZL 4 [0] (ib (b:=(s.op==16)) 100 (fun V4=>?_) (fun V4=>?_))
       ·have UV:s.op=16:=(Zs).1 V4
        exact Z0 (ZM 3 (Zp true (And.intro WM V4) fl))
       have Q6:¬(s.op=16):=Yd Zs V4
       exact VY [0] (ZM 3 (Zp (s.op==17) (And.intro WM V4) fl))
      have TP:¬(((((ts.length:Int)=1)/\((gI ts 0)≠0))/\(s.num=0))/\((s.kids.length:Int)=0)):=Yd (YK (YK (YK Zs Y6) Zs) Zs) WM
      exact Z0 (ZM 3 (Zp false WM fl))
     refine ac ((((((ts.length:Int)==1)&&((gI ts 0) != 0))&&(s.num==0))&&((s.kids.length:Int)==0))&&((s.op==16)||(s.op==17))) (p:=(((((ts.length:Int)=1)/\((gI ts 0)≠0))/\(s.num=0))/\((s.kids.length:Int)=0))/\((s.op=16)∨(s.op=17))) (YK (YK (YK (YK Zs Y6) Zs) Zs) (Yh Zs Zs)) (fun Xd=>?_) (fun Xd=>?_)
     ·refine aD 12 (ZO 9 12 [0,1,2] [1] (dx 3 (AW (es:=Z7 ts) (hv:=some v) (j:=0) (sz:=1) (y:=.i (gI ts 0)) kr om (Y3 (EL om)) rfl) (Zk 7 8 [4] (KC (fun fz gz F h=>F=sF [] fz [(13,.b (XQ n.decls (gI ts 0)))]/\h=gz) ?_ ?_))))
      ·refine Vq 5 9 ?_ ?_
       ·exact Yq 5 [] [] [] (F4 n.decls (gI ts 0)) (Zk 3 6 [6,7,8] (Z8 9 (dA 9 [] [] [.i 0,.i 0,nl] fun b3=>Z8 10 (YM 10 0 [] [] b3 (Ta (Vo n.decls (gI ts 0))) (Zk 0 1 [11] (de (ZT ⟨rfl,rfl⟩ (wk [1,1,1] fl))))))))
       exact dA 9 [1] [b1] [.i 0,.i 0,nl] fun b4=>Z8 5 (Yq 5 [] [] [] (F4 n.decls (gI ts 0)) (Zk 2 5 [6,7,8] (Z8 10 (YM 10 0 [] [] b4 (Ta (Vo n.decls (gI ts 0))) (Zk 0 1 [11] (de (ZT ⟨rfl,rfl⟩ (wk [1,1,1] fl))))))))
      rintro F h ⟨rfl,rfl⟩
      refine T6 (ZP ?_)
      have hS0:=AY (n:=n) hnn (Ap Zw om) (fun q=>ZA (JZ.2 q))
      exact ZD (r2 [] [.i (-1),.b (!XQ n.decls (gI ts 0))] ⟨(-1),rfl,rfl,(fun q=>absurd Yl q)⟩ (Zc.tup (.cons (lr _) (.cons (lb (Zbo hS0 Yl Xd)) .nil))))
     refine ak (ZP ?_)
     have hS0:=AY (n:=n) hnn (Ap Zw om) (fun q=>ZA (JZ.2 q))
     exact ZD (r2 [] [.i (-1),.b (((((ts.length:Int)==1)&&((gI ts 0) != 0))&&(s.num==0))&&((s.kids.length:Int)==0))] ⟨(-1),rfl,rfl,(fun q=>absurd Yl q)⟩ (Zc.tup (.cons (lr _) (.cons (lb (Zbp hS0 Yl Xd)) .nil))))
    refine Z2 1 (ib (b:=((((ts.length:Int)==1)&&((gI ts 0) != 0))&&(s.num==0))) 89 (fun WV=>?_) (fun WV=>?_))
    ·have Ke:(((ts.length:Int)=1)/\((gI ts 0)≠0))/\(s.num=0):=((YK (YK Zs Y6) Zs)).1 WV
     exact ZL 2 [0] (iw (Vr s.kids) (Z2 2 (Yv (ZM 3 (Zp ((s.kids.length:Int)==0) WV fl)) hj3)))
    have QR:¬((((ts.length:Int)=1)/\((gI ts 0)≠0))/\(s.num=0)):=Yd (YK (YK Zs Y6) Zs) WV
    exact Z2 5 (Yv (ZM 3 (Zp false WV fl)) hj3)
   refine Z2 1 (ib (b:=(((ts.length:Int)==1)&&((gI ts 0) != 0))) 84 (fun WW=>?_) (fun WW=>?_))
   ·have AE:((ts.length:Int)=1)/\((gI ts 0)≠0):=((YK Zs Y6)).1 WW
    exact ZL 4 [0] (Yv (ZM 3 (Zp (s.num==0) WW fl)) hj2)
   have KH:¬(((ts.length:Int)=1)/\((gI ts 0)≠0)):=Yd (YK Zs Y6) WW
   exact Z2 4 (Yv (ZM 3 (Zp false WW fl)) hj2)
  refine Z2 2 (ib (b:=((ts.length:Int)==1)) 78 (fun Q4=>?_) (fun Q4=>?_))
  ·have MR:(ts.length:Int)=1:=(Zs).1 Q4
   exact Z2 1 (Zm (AW (es:=Z7 ts) (hv:=some v) (j:=0) (sz:=1) (y:=.i (gI ts 0)) kr om (Y3 (EL om)) rfl) (Z2 3 (Yv (ZM 3 (Zp ((gI ts 0) != 0) Q4 fl)) hj1)))
  have MS:¬((ts.length:Int)=1):=Yd Zs Q4
  exact Z2 5 (Yv (ZM 3 (Zp false Q4 fl)) hj1)
 refine JQ [0] (ac (s.op==7) Zs (fun Xp=>?_) (fun Xp=>?_))
 ·refine YO 1 (iw (Yi ts) (XG 9 [1,3,5] [(130,.b (((ts.length:Int) != 1)||((gI ts 0) != 0)))] (fun gz=>gz) ?_ (fun hj4=>?_)))
  ·refine XG 14 [1,3,5] [(135,.b ((((ts.length:Int) != 1)||((gI ts 0) != 0))||(s.num != 0)))] (fun gz=>gz) ?_ (fun hj5=>?_)
   ·refine Xi [1,3,5] [(141,.b (((((ts.length:Int) != 1)||((gI ts 0) != 0))||(s.num != 0))||((s.kids.length:Int) != 2)))] (fun gz=>gz) ?_ ?_
    ·refine Z2 1 (ib (b:=((((ts.length:Int) != 1)||((gI ts 0) != 0))||(s.num != 0))) 136 (fun JV=>?_) (fun JV=>?_))
     ·have Hx:(((ts.length:Int)≠1)∨((gI ts 0)≠0))∨(s.num≠0):=((Yh (Yh Y6 Y6) Y6)).1 JV
      exact Z0 (ZM 3 (Zp true JV fl))
     have Z3l:¬((((ts.length:Int)≠1)∨((gI ts 0)≠0))∨(s.num≠0)):=Yd (Yh (Yh Y6 Y6) Y6) JV
     exact ZL 2 [0] (iw (Vr s.kids) (Z0 (ZM 3 (Zp ((s.kids.length:Int) != 2) JV fl))))
    refine ac (((((ts.length:Int) != 1)||((gI ts 0) != 0))||(s.num != 0))||((s.kids.length:Int) != 2)) (p:=((((ts.length:Int)≠1)∨((gI ts 0)≠0))∨(s.num≠0))∨((s.kids.length:Int)≠2)) (Yh (Yh (Yh Y6 Y6) Y6) Y6) (fun VF=>?_) (fun VF=>?_)
    ·refine ZP ?_
     have hS0:=AY (n:=n) hnn (Ap Zw om) (fun q=>ZA (JZ.2 q))
     have hS:=Zbk hS0 Yl Xp VF
     exact ZD (r2 [] [.i (-1),.b false] ⟨(-1),rfl,rfl,(by intro _ h;rw [hS] at h;omega)⟩ (Zc.tup (.cons (lr _) (.cons (lb (by rw [hS];rfl)) .nil))))
    refine ak (aD 10 (ZO 6 10 [0,1,2,3] [1,0] (Z8 4 (SC 4 [0,1] [b2,b1] 2 2 fun v4=>Yr 5 5 [] [(146,Q8 (List.replicate 2 []))] (Z8 5 (Yq 5 [] [] [] (N0 n us s.kids (List.replicate 2 []) (hnn:=hnn) (hm3:=(by intro m hm;first|(rw [Ge hm];simp;done)|(obtain ⟨c,_,rfl⟩:=XH.1 hm;exact VP Xy c))) (hmn:=(by intro m hm f hf;first|(rw [Ge hm] at hf;simp at hf;done)|(obtain ⟨c,_,rfl⟩:=XH.1 hm;exact hty.fields c f hf))) (ih:=(fun b us2 h1 h2 h3 h4=>ih b us2 om h2 h3 h4))) (Zk 0 4 [6,7,8,9] (de ?_))))))))
    have hS0:=AY (n:=n) hnn (Ap Zw om) (fun q=>ZA (JZ.2 q))
    have hS:=Zbl hS0 Yl Xp VF
    exact ZD (r2 [] [.i (W1 n us s.kids (List.replicate 2 []) true 0),.b (decide (0<=W1 n us s.kids (List.replicate 2 []) true 0))] ⟨W1 n us s.kids (List.replicate 2 []) true 0,rfl,rfl,(fun _ _=>hS.symm)⟩ (Zc.tup (.cons (lr _) (.cons (lb (by rw [hS])) .nil))))
   refine Z2 1 (ib (b:=(((ts.length:Int) != 1)||((gI ts 0) != 0))) 131 (fun JW=>?_) (fun JW=>?_))
   ·have Z3m:((ts.length:Int)≠1)∨((gI ts 0)≠0):=((Yh Y6 Y6)).1 JW
    exact Z2 4 (Yv (ZM 3 (Zp true JW fl)) hj5)
   have Z3n:¬(((ts.length:Int)≠1)∨((gI ts 0)≠0)):=Yd (Yh Y6 Y6) JW
   exact ZL 4 [0] (Yv (ZM 3 (Zp (s.num != 0) JW fl)) hj5)
  refine Z2 2 (ib (b:=((ts.length:Int) != 1)) 125 (fun Dh=>?_) (fun Dh=>?_))
  ·have Z3o:(ts.length:Int)≠1:=(Y6).1 Dh
   exact Z2 5 (Yv (ZM 3 (Zp true Dh fl)) hj4)
  have Z3p:¬((ts.length:Int)≠1):=Yd Y6 Dh
  exact Z2 1 (Zm (AW (es:=Z7 ts) (hv:=some v) (j:=0) (sz:=1) (y:=.i (gI ts 0)) kr om (Y3 (EL om)) rfl) (Z2 3 (Yv (ZM 3 (Zp ((gI ts 0) != 0) Dh fl)) hj4)))
 refine JQ [0] (ac (s.op==8) Zs (fun Vw=>?_) (fun Vw=>?_))
 ·refine Zu 3 [1,0] (Zy [] (Z4w _ s.num) (Z0 (aq (aD 24 (Zk 23 24 [0] (dw 1 (Yi ts) (JF [1,3,5,14] [(181,.b (((ts.length:Int) != 1)||(((gI ts 0) != s.num)||((((((ZW n.decls s.num).map (ZX n.decls)).length:Nat):Int)==0)||((s.kids.length:Int) != ((((ZW n.decls s.num).map (ZX n.decls)).length:Nat):Int))))))] (fun gz=>gz) ?_ ?_)))))))
  ·refine Zk 20 22 [2,3] (db (b:=((ts.length:Int) != 1)) 161 (fun Bo=>?_) (fun Bo=>?_))
   ·have Z3q:(ts.length:Int)≠1:=(Y6).1 Bo
    exact Zk 0 20 [4,5,6,7,8,9,10,11,12,13,14,15,16,17,18,19,20,21,22,23] (de (ZM 3 (Zp true Bo fl)))
   have Z3r:¬((ts.length:Int)≠1):=Yd Y6 Bo
   refine Zk 19 20 [4] (dx 5 (AW (es:=Z7 ts) (hv:=some v) (j:=0) (sz:=1) (y:=.i (gI ts 0)) kr om (Y3 (EL om)) rfl) (ZO 12 18 [6,7,8,9,10,11] [0] (db (b:=((gI ts 0) != s.num)) 169 (fun Ce=>?_) (fun Ce=>?_))))
   ·have Z3s:(gI ts 0)≠s.num:=(Y6).1 Ce
    exact Zk 0 12 [12,13,14,15,16,17,18,19,20,21,22,23] (de (ZM 3 (Zp true (And.intro Bo Ce) fl)))
   have Hy:¬((gI ts 0)≠s.num):=Yd Y6 Ce
   refine Zk 11 12 [12] (dn 13 (.i ((((ZW n.decls s.num).map (ZX n.decls)).length:Nat):Int)) (.i (((XU ((ZW n.decls s.num).map (ZX n.decls))).length:Nat):Int)) (li (by rw [EB])) (Zk 7 10 [14,15,16] (db (b:=(((((ZW n.decls s.num).map (ZX n.decls)).length:Nat):Int)==0)) 174 (fun Di=>?_) (fun Di=>?_))))
   ·have Hz:((((ZW n.decls s.num).map (ZX n.decls)).length:Nat):Int)=0:=(Zs).1 Di
    exact Zk 0 7 [17,18,19,20,21,22,23] (de (ZM 3 (Zp true (And.intro Bo (And.intro Ce Di)) fl)))
   have MT:¬(((((ZW n.decls s.num).map (ZX n.decls)).length:Nat):Int)=0):=Yd Zs Di
   exact ZO 5 7 [17,18] [0] (dw 19 (Vr s.kids) (Zk 3 4 [20] (dn 21 (.i ((((ZW n.decls s.num).map (ZX n.decls)).length:Nat):Int)) (.i (((XU ((ZW n.decls s.num).map (ZX n.decls))).length:Nat):Int)) (li (by rw [EB])) (Zk 0 2 [22,23] (de (ZM 3 (Zp ((s.kids.length:Int) != ((((ZW n.decls s.num).map (ZX n.decls)).length:Nat):Int)) (And.intro Bo (And.intro Ce Di)) fl)))))))
  refine ac (((ts.length:Int) != 1)||(((gI ts 0) != s.num)||((((((ZW n.decls s.num).map (ZX n.decls)).length:Nat):Int)==0)||((s.kids.length:Int) != ((((ZW n.decls s.num).map (ZX n.decls)).length:Nat):Int))))) (p:=((ts.length:Int)≠1)∨(((gI ts 0)≠s.num)∨((((((ZW n.decls s.num).map (ZX n.decls)).length:Nat):Int)=0)∨((s.kids.length:Int)≠((((ZW n.decls s.num).map (ZX n.decls)).length:Nat):Int))))) (Yh Y6 (Yh Y6 (Yh Zs Y6))) (fun VS=>?_) (fun VS=>?_)
  ·refine ZP ?_
   have hS0:=AY (n:=n) hnn (Ap Zw om) (fun q=>ZA (JZ.2 q))
   have hS:=Zbm hS0 Yl Xp Vw VS
   exact ZD (r2 [] [.i (-1),.b false] ⟨(-1),rfl,rfl,(by intro _ h;rw [hS] at h;omega)⟩ (Zc.tup (.cons (lr _) (.cons (lb (by rw [hS];rfl)) .nil))))
  refine ak (Zu 5 [1,0] (Zy [] (N0 n us s.kids ((ZW n.decls s.num).map (ZX n.decls)) (hnn:=hnn) (hm3:=(by intro m hm;first|(rw [Ge hm];simp;done)|(obtain ⟨c,_,rfl⟩:=XH.1 hm;exact VP Xy c))) (hmn:=(by intro m hm f hf;first|(rw [Ge hm] at hf;simp at hf;done)|(obtain ⟨c,_,rfl⟩:=XH.1 hm;exact hty.fields c f hf))) (ih:=(fun b us2 h1 h2 h3 h4=>ih b us2 om h2 h3 h4))) (Z0 ?_)))
  have hS0:=AY (n:=n) hnn (Ap Zw om) (fun q=>ZA (JZ.2 q))
  have hS:=Zbn hS0 Yl Xp Vw VS
  exact ZD (r2 [] [.i (W1 n us s.kids ((ZW n.decls s.num).map (ZX n.decls)) true 0),.b (decide (0<=W1 n us s.kids ((ZW n.decls s.num).map (ZX n.decls)) true 0))] ⟨W1 n us s.kids ((ZW n.decls s.num).map (ZX n.decls)) true 0,rfl,rfl,(fun _ _=>hS.symm)⟩ (Zc.tup (.cons (lr _) (.cons (lb (by rw [hS])) .nil))))
 refine Zu 2 [0] (iw (Vr s.kids) (XG 33 [3,5,8] [(223,.b ((decide ((s.kids.length:Int)>0))||((s.op==10)&&((decide (s.num>=0))&&((decide (s.num<(((n.routines.map XR).length:Nat):Int)))&&(decide (((((QD n s.num).lnt).length:Nat):Int)>0)))))))] (fun gz=>gz) ?_ (fun hj6=>?_)))
 ·refine YG ((decide ((s.kids.length:Int)>0))||((s.op==10)&&((decide (s.num>=0))&&((decide (s.num<(((n.routines.map XR).length:Nat):Int)))&&(decide (((((QD n s.num).lnt).length:Nat):Int)>0)))))) (p:=((s.kids.length:Int)>0)∨((s.op=10)/\((s.num>=0)/\((s.num<(((n.routines.map XR).length:Nat):Int))/\(((((QD n s.num).lnt).length:Nat):Int)>0))))) (Yh dq (YK Zs (YK dq (YK dq dq)))) (fun T7=>?_) (fun T7=>?_)
  ·refine ZP ?_
   have hS0:=AY (n:=n) hnn (Ap Zw om) (fun q=>ZA (JZ.2 q))
   have hS:=stB hS0 Yl Xp Vw T7
   exact ZD (r2 [] [.i (-1),.b false] ⟨(-1),rfl,rfl,(by intro _ h;rw [hS] at h;omega)⟩ (Zc.tup (.cons (lr _) (.cons (lb (by rw [hS];rfl)) .nil))))
  refine ak (ar (TE 6 [(229,Z6 ts)] [1,0,0] (ic [] (Z4x _ s.op s.num ts) ?_)))
  rintro _ _ ⟨t1,rfl,rfl,EY⟩
  refine Z0 ?_
  have hS0:=AY (n:=n) hnn (Ap Zw om) (fun q=>ZA (JZ.2 q))
  have hS:=stS hS0 Yl Xp Vw T7
  exact ZD (r2 [] [.i t1,.b ((XB n s.op s.num ts).isSome)] ⟨t1,rfl,rfl,(Zbr hS EY)⟩ (Zc.tup (.cons (lr _) (.cons (lb (Zbq hty hS)) .nil))))
 refine Z2 2 (ib (b:=(decide ((s.kids.length:Int)>0))) 195 (fun AB=>?_) (fun AB=>?_))
 ·have Zds:(s.kids.length:Int)>0:=(dq).1 AB
  exact Z2 28 (Yv (ZM 3 (Zp true AB fl)) hj6)
 have Zdt:¬((s.kids.length:Int)>0):=Yd dq AB
 refine ZL 4 [0] (ib (b:=(s.op==10)) 199 (fun Bp=>?_) (fun Bp=>?_))
 ·have Zdu:s.op=10:=(Zs).1 Bp
  refine ZL 5 [0] (ib (b:=(decide (s.num>=0))) 204 (fun Cf=>?_) (fun Cf=>?_))
  ·have Zdv:s.num>=0:=(dq).1 Cf
   refine ZL 4 [0,1] (io (.i (((n.routines.map XR).length:Nat):Int)) (.i (((T5 (n.routines.map XR)).length:Nat):Int)) (li (by rw [D4])) (Z2 3 (ib (b:=(decide (s.num<(((n.routines.map XR).length:Nat):Int)))) 212 (fun Cg=>?_) (fun Cg=>?_))))
   ·have Zdw:s.num<(((n.routines.map XR).length:Nat):Int):=(dq).1 Cg
    exact ZL 4 [1,0] (Zm (AW (es:=T5 (n.routines.map XR)) (hv:=none) (j:=s.num) (sz:=3) (y:=Gp (QD n s.num)) kr om (C5 (Za3 om)) rfl) (Z2 2 (io (.i ((((QD n s.num).lnt).length:Nat):Int)) (.i (((Z7 ((QD n s.num).lnt)).length:Nat):Int)) (li (by rw [Yi])) (Z2 3 (Yv (ZM 3 (Zp (decide (((((QD n s.num).lnt).length:Nat):Int)>0)) (And.intro AB (And.intro Bp (And.intro Cf Cg))) fl)) hj6)))))
   have Zdx:¬(s.num<(((n.routines.map XR).length:Nat):Int)):=Yd dq Cg
   exact Z2 11 (Yv (ZM 3 (Zp false (And.intro AB (And.intro Bp (And.intro Cf Cg))) fl)) hj6)
  have Zdy:¬(s.num>=0):=Yd dq Cf
  exact Z2 19 (Yv (ZM 3 (Zp false (And.intro AB (And.intro Bp Cf)) fl)) hj6)
 have Zdz:¬(s.op=10):=Yd Zs Bp
 exact Z2 24 (Yv (ZM 3 (Zp false (And.intro AB Bp) fl)) hj6)
theorem Z4g (n:Zq) (us:LI) (b:Z5) (hn:Xe n) (hnn:∀t∈us,0<=t) (hb:us.length+4*b.sz<=1000000000) (hr:b.rng) (ih:∀(s:Z4) (us:LI),(s.sz<b.sz)->(us.length+4*s.sz<=1000000000)->(s.rng)->(∀t∈us,0<=t)->Zi 124 [.agg [Ya n.decls,TG n],Z6 us,YC s] [] (fun r h=>∃(t:Int),r=.tup [.i t,.b (decide (0<=Yj n us s))]/\h=[]/\(¬Yo s.op=true->0<=Yj n us s->t=Yj n us s))):Zi 77 [.agg [Ya n.decls,TG n],Z6 us,ZI b] [] (Yg (.i (X7 n us b))):=by
 have hbz:=V7 b
 have hbe:=Eh n us b
 rw [b.rng_eq] at hr
 refine ZF 54 Tryz.func77 (ar (iA [Ya n.decls,TG n] fun b1=>iA (X3 b) fun b2=>Z0 (Yc 1 (ic [] (CV us) ?_))))
 rintro _ _ ⟨v1,rfl,rfl⟩
 refine Z0 (Yf 2 [1] (iw (V3 b.steps) (Z0 (ab 0 (Y0 (fun fz gz m F h=>∃(k:Nat) (vs:LI) (v:Value),(k<=b.steps.length)/\(vs.length<=us.length+k)/\(∀t∈vs,0<=t)/\(WJ n (b.steps.drop k) vs=WJ n b.steps us)/\F=sF [3,5,15,16] fz [(7,ZY vs v),(17,.i k)]/\h=[Zh gz 1,Zh gz 2,.tail v 1]/\m=b.steps.length-k) _ _ _ ⟨0,us,v1,ob,ob,ob,ob,rfl,rfl,rfl⟩ (wk [1,1,0] (fr (Y5 fl))) ?_)))))
 rintro m F h ⟨k,vs,v,Yb,Zl,Zw,YN,rfl,rfl,rfl⟩
 refine ZP (aq (We ((k:Int)<(b.steps.length:Int)) (fun Za=>?_) (fun Za=>?_)))
 ·refine ak (aq (ab 1 (ar ?_)))
  obtain ⟨x1,Z3⟩:=Zr b.steps k om
  have hss:=BF Z3
  have hsr:=Pw hr Z3
  refine Zm (Zg none (k:Int) 5 (Wc Z3)) (Z2 1 (iA [.i 0,.i 0,.i 0,nl,nl] fun b3=>Zz 0 b3 (Xm x1) (ie (ar (TE 3 [(23,Z6 vs)] [2,0] (ic [] (ih x1 vs ob ob ob ob) ?_))))))
  rintro _ _ ⟨t1,rfl,rfl,Y4⟩
  refine Z0 (X4 (YG (!decide (0<=Yj n vs x1)) (p:=¬(decide (0<=Yj n vs x1)=true)) (Yn Iff.rfl) (fun Zf=>?_) (fun Zf=>?_)))
  ·exact ar (Zt (ZU (.i (-1)) (li (by rw [hbe,<-YN,Zca Z3 (fun q=>Zf (decide_eq_true q)) rfl]))))
  refine ak (Zu 2 [0] (Zy [] (F5 x1.op) (Z0 (At (fun fz gz F h=>∃(w:Value),F=sF [3,5,15,16,17] fz [(7,ZY (if Yo x1.op=true then vs else vs++[t1]) w)]/\h=[Zh gz 1,Zh gz 2,.tail w 1]) (fun _ _=>rfl) ?_ ?_))))
  ·refine ac (!Yo x1.op) (p:=¬(Yo x1.op=true)) (Yn Iff.rfl) (fun ZA=>?_) (fun ZA=>?_)
   ·exact az (Z2 2 (iL (Z7 [t1]) 1 1 fun v2=>ZQ 0 [(36,Z6 [t1])] (ip 4 (Z7 (vs++[t1])) (Z7 vs) (Z7 [t1]) v none 1 (YD _) (YD _) (W5 _) (by simp<;>omega) (by simp [W4,Z7]) fun v3=>Z0 (ZT ⟨v3,rfl,rfl⟩ (wk [3,3,0] (fc (x:=ZY (vs++[t1]) v3) (Zc.slh _ (Yp Z7 (by first|rfl|(rw [Zj ZA])|(rw [Z9 ZA])|(simp [ZA];done)|(rw [Xr];simp [ZA];done)|omega))) fl))))))
   exact ak (ZT ⟨v,rfl,rfl⟩ (wk [1,1,1] (fc (x:=ZY vs v) (Zc.slh _ (Yp Z7 (by first|rfl|(rw [Zj ZA])|(rw [Z9 ZA])|(simp [ZA];done)|(rw [Xr];simp [ZA];done)|omega))) fl)))
  rintro F h ⟨w,rfl,rfl⟩
  refine az (ZG k (Z0 ?_))
  have h0:0<=Yj n vs x1:=of_decide_eq_true (Wn.1 Zf)
  exact ZH ⟨k+1,(if Yo x1.op=true then vs else vs++[t1]),w,ob,(by split<;>(try simp)<;>omega),(Z6q Zw (fun q=>by rw [Y4 q h0];exact h0)),(Zc9 Z3 h0 Y4 YN),rfl,rfl,rfl⟩ (ZM 3 (fr (ZJ k fl)))
 refine ax 0 (X4 (Xi [5,7] [(48,.b ((decide (b.result<0))||(decide (b.result>=(vs.length:Int)))))] (fun gz=>gz) ?_ ?_))
 ·refine ZL 4 [0] (ib (b:=(decide (b.result<0))) 42 (fun Zd=>?_) (fun Zd=>?_))
  ·exact Z0 (ZM 3 (Zp true Zd fl))
  exact ZL 3 [0] (iw (Yi vs) (Z0 (ZM 3 (Zp (decide (b.result>=(vs.length:Int))) Zd fl))))
 refine ac ((decide (b.result<0))||(decide (b.result>=(vs.length:Int)))) (p:=(b.result<0)∨(b.result>=(vs.length:Int))) (Yh dq dq) (fun Yl=>?_) (fun Yl=>?_)
 ·exact ar (Zt (ZU (.i (-1)) (li (by rw [hbe,<-YN,Xf om];show _=(Xo vs b.result).getD (-1);rw [QK om];rfl))))
 refine ak (Zu 3 [0] ?_)
 obtain ⟨x2,Zo⟩:=Zr vs b.result.toNat om
 exact Zm (Zg (some v) b.result 1 (Y3 Zo)) (Zt (ZU (.i x2) (li (by rw [hbe,<-YN,Xf om];show _=(Xo vs b.result).getD (-1);rw [Q2 om Zo];rfl))))
theorem Z4e (n:Zq) (hn:Xe n) (hty:BO n) (m:Nat):∀(b:Z5) (us:LI),(b.sz<=m)->(us.length+4*b.sz<=1000000000)->(b.rng)->(∀t∈us,0<=t)->Zi 77 [.agg [Ya n.decls,TG n],Z6 us,ZI b] [] (Yg (.i (X7 n us b))):=by
 induction m with
 | zero=>intro b us h;have:=b.sz_pos;omega
 | succ m ih=>intro b us h1 h2 h3 h4;exact Z4g n us b hn h4 h2 h3 fun s us2 k1 k2 k3 k4=>Z4y n us2 s hn hty k4 k2 k3 fun b2 us3 q1 q2 q3 q4=>ih b2 us3 om q2 q3 q4
theorem Z4f (n:Zq) (us:LI) (b:Z5) (hn:Xe n) (hty:BO n) (hnn:∀t∈us,0<=t) (hb:us.length+4*b.sz<=1000000000) (hr:b.rng):Zi 77 [.agg [Ya n.decls,TG n],Z6 us,ZI b] [] (Yg (.i (X7 n us b))):=
 Z4e n hn hty b.sz b us (X9 _) hb hr hnn
theorem Z4b (n:Zq) (hz:Ua n:=by exact ob) (hr:∀r∈n.routines,r.body.rng):Zi 32 [Yk n] [] (Yg (.b (V8 n))):=by
 have hzl:=hz.len
 refine ZF 37 Tryz.func32 (ar (iA (YJ n) fun b1=>Z0 (Zu 1 [0] (ic [] (Z4r n) ?_))))
 rintro _ _ (⟨rfl,rfl,Y4⟩|⟨rfl,rfl,Ym⟩)
 ·refine Z2 3 (iA [nl,nl] fun b2=>Zz 0 b2 [Ya n.decls,TG n] (Z0 (X4 (YG (!VW n) (p:=¬(VW n=true)) (Yn Iff.rfl) (fun Za=>?_) (fun Za=>?_)))))
  ·exact ar (Zt (ZU (.b false) (lb (by rw [V8,To.2 Za];rfl))))
  have hsg:VW n=true:=by simpa using Za
  have hok:=HZ hz hsg
  have hty:=Z6r hsg
  refine ak (Yf 2 [1] (iw (Vl n.routines) (Z0 (ab 0 (Y0 (fun fz gz m F h=>∃(k:Nat),(k<=n.routines.length)/\(TC n (n.routines.drop k)=TC n n.routines)/\F=sF [3,15,16] fz [(17,.i k)]/\h=[Zh gz 0]/\m=n.routines.length-k) _ _ _ ⟨0,ob,ob,rfl,rfl,rfl⟩ (wk [0] (Y5 fl)) ?_)))))
  rintro m F h ⟨k,Yb,Zl,rfl,rfl,rfl⟩
  refine ZP (aq (We ((k:Int)<(n.routines.length:Int)) (fun Zf=>?_) (fun Zf=>?_)))
  ·refine ak (aq (ab 1 (ar ?_)))
   obtain ⟨x1,Z3⟩:=Zr n.routines k om
   have hrm:=Y1 Z3
   have ZE:=hz.body _ hrm
   have hps:=hok.params_at Z3
   refine Zm (Zg none (k:Int) 5 (Wm Z3)) (Z2 1 (iA [nl,nl,.i 0,nl,.i 0] fun b3=>Zz 0 b3 (Tm x1) (ie (aD 15 (ZO 13 15 [0,1] [0] (Z8 2 (Yq 2 [] [] [] (Z46 x1.body) (JF [3,15,16,17] [(35,.b ((decide ((Td x1.body)<0))||((X7 n x1.params x1.body) != x1.result)))] (fun gz=>gz) ?_ ?_))))))))
   ·refine Zk 10 12 [3,4] (db (b:=(decide ((Td x1.body)<0))) 25 (fun Zd=>?_) (fun Zd=>?_))
    ·have YQ:(Td x1.body)<0:=(dq).1 Zd
     exact Zk 0 10 [5,6,7,8,9,10,11,12,13,14] (de (wk [0,0] (Zp true Zd fl)))
    have YZ:¬((Td x1.body)<0):=Yd dq Zd
    exact ZO 3 10 [5,6,7,8,9,11,12] [1,0,0,0] (Z8 10 (Yq 10 [] [0] [b3] (Z4f n x1.params x1.body ob hty (hty.params _ hrm) ob (hr _ hrm)) (Zk 0 2 [13,14] (de (wk [0,0] (Zp ((X7 n x1.params x1.body) != x1.result) Zd fl))))))
   refine ac ((decide ((Td x1.body)<0))||((X7 n x1.params x1.body) != x1.result)) (p:=((Td x1.body)<0)∨((X7 n x1.params x1.body)≠x1.result)) (Yh dq Y6) (fun ZA=>?_) (fun ZA=>?_)
   ·refine ZP ?_
    rw [Y9 Z3] at Zl
    exact ZD (ZU (.b false) (lb (by clear Z3;first|rfl|omega|grind [TC,V8])))
   refine ak (az (ZG k (Z0 ?_)))
   have hdr:=Y9 Z3
   exact ZH ⟨k+1,ob,(by rw [hdr] at Zl;clear hdr Z3;grind [TC]),rfl,rfl,rfl⟩ (wk [1] (ZJ k fl))
  refine ax 0 (ZP ?_)
  try rw [Xf (xs:=n.routines) (k:=k) om] at Zl
  exact ZD (ZU (.b true) (lb (by first|rfl|omega|grind [TC,V8])))
 exact Z2 3 (iA [nl,nl] fun b4=>Zz 0 b4 [Ya [],Cr []] (Z0 (Y7 (WU (ar (Zt (ZU (.b false) (lb (by rw [V8,‹VW n=false›];rfl)))))))))
theorem Zau (b:Z5) (hz:b.sz<=1000000000) (ih:∀(b2:Z5),(b2.sz<=1000000000)->(b2.sz<b.sz)->Zi 95 [ZI b2] [] (Yg (.b (Vm b2)))):Zi 95 [ZI b] [] (Yg (.b (Vm b))):=by
 have hbz:=V7 b
 have hbe:=b.sz_eq
 refine ZF 50 Tryz.func95 (ar (iA (X3 b) fun b1=>?_))
 refine Z0 (Y7 (ab 0 (Y0 (fun fz gz m F h=>∃(k:Nat),(k<=b.steps.length)/\(Ud (b.steps.drop k)=Ud b.steps)/\F=sF [1] fz [(3,.i k)]/\h=gz/\m=b.steps.length-k) _ _ _ ⟨0,ob,rfl,rfl,rfl,rfl⟩ (wk [0] (Y5 fl)) ?_)))
 rintro m F h ⟨k,Yb,Zl,rfl,rfl,rfl⟩
 refine Yf 3 [0] (iw (V3 b.steps) (ZZ ((k:Int)<(b.steps.length:Int)) (fun Za=>?_) (fun Za=>?_)))
 ·refine ak (aq (ab 1 (Yf 3 [0] ?_)))
  obtain ⟨x1,Z3⟩:=Zr b.steps k om
  have Xv:=Qf Z3
  have hkz:=Ut x1
  refine Zm (Zg none (k:Int) 5 (Wc Z3)) (Z2 2 (Zy [] (Iy x1.op) (Xi [1,3] [(27,.b (Yo x1.op||(x1.into != 0)))] (fun gz=>gz) ?_ ?_)))
  ·refine Z2 1 (ib (b:=Yo x1.op) 19 (fun Zd=>?_) (fun Zd=>?_))
   ·have Y4:Yo x1.op=true:=(Iff.rfl).1 Zd
    exact Z0 (wk [0] (Zp true Zd fl))
   have Ym:¬(Yo x1.op=true):=Yd Iff.rfl Zd
   exact ZL 3 [0] (Zm (Zg none (k:Int) 5 (Wc Z3)) (Z0 (wk [0] (Zp (x1.into != 0) Zd fl))))
  refine ac (Yo x1.op||(x1.into != 0)) (p:=(Yo x1.op=true)∨(x1.into≠0)) (Yh Iff.rfl Y6) (fun Zf=>?_) (fun Zf=>?_)
  ·exact ar (Zt (ZU (.b false) (lb (by rw [Fx];exact Z7u Z3 Zf Zl))))
  refine ak (ZP (ab 2 (Y0 (fun fz gz m F h=>∃(j:Nat),(j<=x1.kids.length)/\(U7 (x1.kids.drop j)=U7 x1.kids)/\F=sF [1,3] fz [(4,.i j)]/\h=gz/\m=x1.kids.length-j) _ _ _ ⟨0,ob,rfl,rfl,rfl,rfl⟩ (wk [0] (Y5 fl)) ?_)))
  rintro m F h ⟨j,VA,XL,rfl,rfl,rfl⟩
  refine Yf 4 [0] (Zm (Zg none (k:Int) 5 (Wc Z3)) (Z2 2 (iw (Vr x1.kids) (ZZ ((j:Int)<(x1.kids.length:Int)) (fun ZA=>?_) (fun ZA=>?_)))))
  ·refine ak (aq (ab 3 (Zu 3 [0] (Zm (Zg none (k:Int) 5 (Wc Z3)) (Z2 3 ?_)))))
   obtain ⟨x2,Zo⟩:=Zr x1.kids j om
   have hks:=Us Zo
   refine Zm (Zg none (j:Int) 2 (U2 Zo)) (Z2 1 (Zy [] (ih x2 ob ob) (YG (!Vm x2) (p:=¬(Vm x2=true)) (Yn Iff.rfl) (fun Yl=>?_) (fun Yl=>?_))))
   ·exact ar (Zt (ZU (.b false) (lb (by rw [Fx];exact Z7v Z3 (Z7r Zo Yl XL) Zl))))
   exact ak (az (Z2 1 (ZG j (Z0 (ZH ⟨j+1,ob,(Z7t Zo (Wn.1 Yl) XL),rfl,rfl,rfl⟩ (wk [0] (ZJ j fl)))))))
  exact ax 2 (az (Z2 1 (ZG k (Z0 (ZH ⟨k+1,ob,(Z7x Z3 Zf (Z7s om XL) Zl),rfl,rfl,rfl⟩ (wk [0] (ZJ k fl)))))))
 exact ax 0 (ar (Zt (ZU (.b true) (lb (by rw [Fx];exact Z7w om Zl)))))
theorem Zas (k:Nat):∀(b2:Z5),(b2.sz<=1000000000)->(b2.sz<k)->Zi 95 [ZI b2] [] (Yg (.b (Vm b2))):=by
 induction k with
 | zero=>intro b _ h;omega
 | succ k ih=>intro b h1 h2;exact Zau b h1 fun b2 k1 k2=>ih b2 k1 om
theorem Zat (b:Z5) (hz:b.sz<=1000000000:=by exact ob):Zi 95 [ZI b] [] (Yg (.b (Vm b))):=Zas (b.sz+1) b hz om
theorem Zap (n:Zq) (hz:Ua n:=by exact ob):Zi 56 [Yk n] [] (Yg (.b (X5 n))):=by
 have hzl:=hz.len
 refine ZF 22 Tryz.func56 (ar (iA (YJ n) fun b1=>Z0 (Yf 1 [0] (Zy [] (Pu n) (YG (!V8 n) (p:=¬(V8 n=true)) (Yn Iff.rfl) (fun Za=>?_) (fun Za=>?_))))))
 ·exact ar (Zt (ZU (.b false) (lb (by rw [X5,To.2 Za];rfl))))
 refine ak (Y7 (ab 0 (Y0 (fun fz gz m F h=>∃(k:Nat),(k<=n.routines.length)/\(Uc (n.routines.drop k)=Uc n.routines)/\F=sF [1] fz [(3,.i k)]/\h=gz/\m=n.routines.length-k) _ _ _ ⟨0,ob,rfl,rfl,rfl,rfl⟩ (wk [0] (Y5 fl)) ?_)))
 rintro m F h ⟨k,Yb,Zl,rfl,rfl,rfl⟩
 refine Yf 3 [0] (iw (Vl n.routines) (ZZ ((k:Int)<(n.routines.length:Int)) (fun Zf=>?_) (fun Zf=>?_)))
 ·refine ak (aq (ab 1 (Zu 3 [0] ?_)))
  obtain ⟨x1,Z3⟩:=Zr n.routines k om
  have hrm:=Y1 Z3
  have hbz:=hz.body _ hrm
  refine Zm (Zg none (k:Int) 5 (Wm Z3)) (Z2 2 (Zy [] (Zat x1.body) (YG (!Vm x1.body) (p:=¬(Vm x1.body=true)) (Yn Iff.rfl) (fun ZA=>?_) (fun ZA=>?_))))
  ·exact ar (Zt (ZU (.b false) (lb (by rw [X5,Wn.1 Za,Bool.true_and];exact Of Z3 ZA Zl))))
  exact ak (az (Z2 1 (ZG k (Z0 (ZH ⟨k+1,ob,(Oi Z3 (Wn.1 ZA) Zl),rfl,rfl,rfl⟩ (wk [0] (ZJ k fl)))))))
 exact ax 0 (ar (Zt (ZU (.b true) (lb (by rw [X5,Wn.1 Za,Bool.true_and];exact Og om Zl)))))
theorem Z4v (s:Z4) (cc:Nat) (v:Bool) :Zi 100 [YC s,.p cc 0] [.obj cc [.b v]] (fun r h=>h=[.obj cc [.b ((v&&(!Yo s.op))&&(s.into==0))]]):=by
 refine ZF 15 Tryz.func100 (ar (iA (Xm s) fun b1=>ie (az (XG 7 [1,2] [(9,.b (v&&(!Yo s.op)))] (fun gz=>gz) ?_ (fun hj1=>?_)))))
 ·refine XG 12 [1] [(14,.b ((v&&(!Yo s.op))&&(s.into==0)))] (fun gz=>gz) ?_ (fun hj2=>?_)
  ·exact Zz 1 cc [.b ((v&&(!Yo s.op))&&(s.into==0))] (ie (r2 [0] [] rfl (lr _)))
  refine Z2 1 (ib (b:=(v&&(!Yo s.op))) 10 (fun Zd=>?_) (fun Zd=>?_))
  ·have Y4:(v=true)/\(¬(Yo s.op=true)):=((YK Iff.rfl (Yn Iff.rfl))).1 Zd
   exact ZL 4 [0] (Yv (wk [0,0] (Zp (s.into==0) Zd fl)) hj2)
  have Ym:¬((v=true)/\(¬(Yo s.op=true))):=Yd (YK Iff.rfl (Yn Iff.rfl)) Zd
  exact Z2 4 (Yv (wk [0,0] (Zp false Zd fl)) hj2)
 refine ZL 2 [1] (ib (b:=v) 4 (fun ZC=>?_) (fun ZC=>?_))
 ·have YQ:v=true:=(Iff.rfl).1 ZC
  exact ZL 2 [0] (Zy [] (F5 s.op) (Z2 2 (Yv (wk [0,0] (Zp (!Yo s.op) ZC fl)) hj1)))
 have YZ:¬(v=true):=Yd Iff.rfl ZC
 exact Z2 5 (Yv (wk [0,0] (Zp false ZC fl)) hj1)
theorem Z52 (b:Z5) (cc:Nat) (v:Bool) (hz:b.sz<=1000000000) (ih:∀(b2:Z5) (cc:Nat) (v2:Bool),(b2.sz<=1000000000)->(b2.sz<b.sz)->Zi 99 [ZI b2,.val (.func (.func 100) #[] #[.pointer (some ⟨cc,0,none⟩)])] [.obj cc [.b v2]] (fun r h=>h=[.obj cc [.b (v2&&Vm b2)]])):Zi 99 [ZI b,.val (.func (.func 100) #[] #[.pointer (some ⟨cc,0,none⟩)])] [.obj cc [.b v]] (fun r h=>h=[.obj cc [.b (v&&Vm b)]]):=by
 have hbz:=V7 b
 have hbe:=b.sz_eq
 refine ZF 30 Tryz.func99 (ar (iA (X3 b) fun b1=>?_))
 refine ie (Zu 2 [0] (iw (V3 b.steps) (Z0 (ab 0 (Y0 (fun fz gz m F h=>∃(k:Nat) (u:Bool),(k<=b.steps.length)/\((u&&Ud (b.steps.drop k))=(v&&Ud b.steps))/\F=sF [1,9,10] fz [(11,.i k)]/\h=[.obj cc [.b u]]/\m=b.steps.length-k) _ _ _ ⟨0,v,ob,rfl,rfl,rfl,rfl⟩ (wk [1] (Y5 fl)) ?_)))))
 rintro m F h ⟨k,u,Yb,Zl,rfl,rfl,rfl⟩
 refine ZP (aq (We ((k:Int)<(b.steps.length:Int)) (fun Za=>?_) (fun Za=>?_)))
 ·refine ak (aq (ab 1 (ar ?_)))
  obtain ⟨x1,Z3⟩:=Zr b.steps k om
  have Xv:=Qf Z3
  have hkz:=Ut x1
  refine Zm (Zg none (k:Int) 5 (Wc Z3)) (Z2 1 (iA [.i 0,.i 0,.i 0,nl,nl] fun b2=>Zz 0 b2 (Xm x1) (ie (Zu 2 [0] (ic [1] (Z4v x1 cc u) ?_)))))
  rintro _ _ rfl
  refine ie (Zu 2 [1] (iw (Vr x1.kids) (Z0 (ab 2 (Y0 (fun fz gz m F h=>∃(j:Nat) (w:Bool),(j<=x1.kids.length)/\((w&&U7 (x1.kids.drop j))=(((u&&(!Yo x1.op))&&(x1.into==0))&&U7 x1.kids))/\F=sF [1,9,10,11,19,20] fz [(21,.i j)]/\h=[.obj cc [.b w]]/\m=x1.kids.length-j) _ _ _ ⟨0,((u&&(!Yo x1.op))&&(x1.into==0)),ob,rfl,rfl,rfl,rfl⟩ (wk [0] (Y5 fl)) ?_)))))
  rintro m F h ⟨j,w,VA,XL,rfl,rfl,rfl⟩
  refine ZP (aq (We ((j:Int)<(x1.kids.length:Int)) (fun Zf=>?_) (fun Zf=>?_)))
  ·refine ak (aq (ab 3 (ar ?_)))
   obtain ⟨x2,Zo⟩:=Zr x1.kids j om
   have hks:=Us Zo
   refine Zm (Zg none (j:Int) 2 (U2 Zo)) (Z2 1 (iA [nl,.i 0] fun b3=>Zz 0 b3 (X3 x2) (ie (az (ZL 2 [0] (ic [1] (ih x2 cc w ob ob) ?_))))))
   rintro _ _ rfl
   exact ie (az (ZG j (Z0 (ZH ⟨j+1,(w&&Vm x2),ob,(Z7q Zo XL),rfl,rfl,rfl⟩ (wk [0] (ZJ j fl))))))
  have hKe:=Z7p om XL
  exact ax 2 (az (ZG k (Z0 (ZH ⟨k+1,w,ob,(by have h:=Z7o Z3 Zl;rw [I3,<-Bool.and_assoc,<-Bool.and_assoc,<-hKe] at h;exact h),rfl,rfl,rfl⟩ (wk [0] (ZJ k fl))))))
 exact ax 0 (r2 [0] [] rfl (lr _) (eq:=(ro (ls:=[.b u]) (by rw [Fx,<-Z7n om Zl]) rz)))
theorem Z50 (k:Nat):∀(b2:Z5) (cc:Nat) (v2:Bool),(b2.sz<=1000000000)->(b2.sz<k)->Zi 99 [ZI b2,.val (.func (.func 100) #[] #[.pointer (some ⟨cc,0,none⟩)])] [.obj cc [.b v2]] (fun r h=>h=[.obj cc [.b (v2&&Vm b2)]]):=by
 induction k with
 | zero=>intro b cc v _ h;omega
 | succ k ih=>intro b cc v h1 h2;exact Z52 b cc v h1 fun b2 cc2 v2 k1 k2=>ih b2 cc2 v2 k1 om
theorem Z51 (b:Z5) (cc:Nat) (v:Bool) (hz:b.sz<=1000000000:=by exact ob):Zi 99 [ZI b,.val (.func (.func 100) #[] #[.pointer (some ⟨cc,0,none⟩)])] [.obj cc [.b v]] (fun r h=>h=[.obj cc [.b (v&&Vm b)]]):=Z50 (b.sz+1) b cc v hz om
theorem Z4o (b:Z5) (hz:b.sz<=1000000000:=by exact ob):Zi 60 [ZI b] [] (Yg (.b (Vm b))):=by
 refine ZF 8 Tryz.func60 (ar (iA (X3 b) fun b1=>Z0 (ar (iA [.b false] fun b2=>Zz 0 b2 [.b true] (ie (Zu 2 [1] (ic [0] (Z51 b b2 true) ?_)))))))
 rintro _ _ rfl
 exact ie (JQ [0] (ZD (ZU (.b (true&&Vm b)) (lb (by rw [Bool.true_and])))))
theorem HB (n:Zq) (hz:Ua n:=by exact ob) (hr:∀r∈n.routines,r.body.rng):Zi 19 [Yk n] [] (Yg (.b (X5 n))):=by
 have hzl:=hz.len
 refine ZF 20 Tryz.func19 (ar (iA (YJ n) fun b1=>Z0 (Yf 1 [0] (Zy [] (Z4b n (hr:=hr)) (YG (!V8 n) (p:=¬(V8 n=true)) (Yn Iff.rfl) (fun Za=>?_) (fun Za=>?_))))))
 ·exact ar (Zt (ZU (.b false) (lb (by rw [X5,To.2 Za];rfl))))
 refine ak (Yf 2 [0] (iw (Vl n.routines) (Z0 (ab 0 (Y0 (fun fz gz m F h=>∃(k:Nat),(k<=n.routines.length)/\(Uc (n.routines.drop k)=Uc n.routines)/\F=sF [9,10] fz [(11,.i k)]/\h=[]/\m=n.routines.length-k) _ _ _ ⟨0,ob,rfl,rfl,rfl,rfl⟩ (wk [] (Y5 fl)) ?_)))))
 rintro m F h ⟨k,Yb,Zl,rfl,rfl,rfl⟩
 refine ZP (aq (We ((k:Int)<(n.routines.length:Int)) (fun Zf=>?_) (fun Zf=>?_)))
 ·refine ak (aq (ab 1 (ar ?_)))
  obtain ⟨x1,Z3⟩:=Zr n.routines k om
  have hrm:=Y1 Z3
  have hbz:=hz.body _ hrm
  refine Zm (Zg none (k:Int) 5 (Wm Z3)) (Z2 1 (iA [nl,nl,.i 0,nl,.i 0] fun b2=>Zz 0 b2 (Tm x1) (ie (Zu 2 [0] (Zy [] (Z4o x1.body) (YG (!Vm x1.body) (p:=¬(Vm x1.body=true)) (Yn Iff.rfl) (fun ZA=>?_) (fun ZA=>?_)))))))
  ·exact ar (Zt (ZU (.b false) (lb (by rw [X5,Wn.1 Za,Bool.true_and];exact Of Z3 ZA Zl))))
  exact ak (az (ZG k (Z0 (ZH ⟨k+1,ob,(Oi Z3 (Wn.1 ZA) Zl),rfl,rfl,rfl⟩ (wk [] (ZJ k fl))))))
 exact ax 0 (ar (Zt (ZU (.b true) (lb (by rw [X5,Wn.1 Za,Bool.true_and];exact Og om Zl)))))
theorem Ff (xs:LI) (ys:LI) (hxl:xs.length<=1000000000:=by exact ob) (hyl:ys.length<=1000000000:=by exact ob):Zi 36 [Z6 xs,Z6 ys] [] (Yg (.b (decide (xs=ys)))):=by
 refine ZF 26 Tryz.func36 (ZP (YO 1 (iw (Yi xs) (Z2 1 (iw (Yi ys) (YG ((xs.length:Int) != (ys.length:Int)) Y6 (fun Za=>?_) (fun Za=>?_)))))))
 ·exact ar (Zt (ZU (.b false) (lb (decide_eq_false (fun z=>Za (by rw [z]))).symm)))
 refine ak (Y7 (ab 0 (Y0 (fun fz gz m F h=>∃(k:Nat),(k<=xs.length)/\(∀i,i<k->xs[i]? = ys[i]?)/\F=sF [0,1] fz [(5,.i k)]/\h=gz/\m=xs.length-k) _ _ _ ⟨0,ob,(fun i h=>absurd h om),rfl,rfl,rfl⟩ (wk [] (Y5 fl)) ?_)))
 rintro m F h ⟨k,Yb,Zl,rfl,rfl,rfl⟩
 refine YO 2 (iw (Yi xs) (ZZ ((k:Int)<(xs.length:Int)) (fun Zf=>?_) (fun Zf=>?_)))
 ·refine ak (aq (ab 1 (aD 9 (Zk 7 9 [0,1] ?_))))
  obtain ⟨x1,Z3⟩:=Zr xs k om
  refine dx 2 (Zg none (k:Int) 1 (Y3 Z3)) (Zk 3 6 [3,4,5] ?_)
  obtain ⟨x2,Zo⟩:=Zr ys k om
  refine dx 6 (Zg none (k:Int) 1 (Y3 Zo)) (Zk 0 2 [7,8] (de (ac (x1 != x2) Y6 (fun ZA=>?_) (fun ZA=>?_))))
  ·exact ar (Zt (ZU (.b false) (lb (decide_eq_false (fun z=>ZA (by rw [z,Zo] at Z3;cases Z3;rfl))).symm)))
  exact ak (az (Z2 1 (ZG k (Z0 (ZH ⟨k+1,ob,(fun i h=>(Nat.lt_succ_iff_lt_or_eq.1 h).elim (Zl i) (fun z=>by rw [z,Z3,Zo,Wn.1 ZA])),rfl,rfl,rfl⟩ (wk [] (ZJ k fl)))))))
 exact ax 0 (ar (Zt (ZU (.b true) (lb (decide_eq_true (Z0s om (fun i hi=>Zl i om))).symm))))
theorem Zbg (n:Zq) (ls:List LI) (hn:Xe n:=by exact ob) (hz:Ua n:=by exact ob) (hll:ls.length=n.routines.length:=by exact ob) (hls:∀x∈ls,x=[]):Zi 57 [Yk n,Q8 ls] [] (Yg (Yk (TV n))):=by
 have hzl:=hz.len
 refine ZF 45 Tryz.func57 (ar (iA (YJ n) fun b1=>iA [nl,nl] fun b2=>ie (Zu 2 [1] (Zy [] (AS n.decls (hd:=hn.decls)) (iL (Yy []) 0 5 fun v1=>Z2 1 (iA [nl,nl] fun b3=>?_))))))
 refine Zz 0 b3 [Ya n.decls,Wd [] v1] (ie (Y7 (ab 0 (Y0 (fun fz gz m F h=>∃(k:Nat) (rs:List ZV) (u:Value),(k<=n.routines.length)/\(rs.length=k)/\(rs=(n.routines.take k).map Uj)/\F=sF [1,2,4,5] fz [(6,.i k)]/\h=[.obj b3 [Ya n.decls,Wd rs u],Zh gz 2,Zh gz 3,.tail u 5]/\m=n.routines.length-k) _ _ _ ⟨0,[],v1,ob,ob,rfl,rfl,rfl,rfl⟩ (wk [0,1,1,0] (Y5 fl)) ?_))))
 rintro m F h ⟨k,rs,u,Yb,Zl,Zw,rfl,rfl,rfl⟩
 refine Yf 3 [2] (iw (Vl n.routines) (ZZ ((k:Int)<(n.routines.length:Int)) (fun Za=>?_) (fun Za=>?_)))
 ·refine ak (aq (ab 1 (Zu 3 [2] ?_)))
  obtain ⟨x1,Z3⟩:=Zr n.routines k om
  have hrm:=Y1 Z3
  have hbz:=hz.body _ hrm
  have hpl:=hz.params _ hrm
  refine Zm (Zg none (k:Int) 5 (Wm Z3)) (Z2 1 (iA [nl,nl,.i 0,nl,.i 0] fun b4=>Zz 0 b4 (Tm x1) (ie (aE 20 (ZO 14 20 [0,1,2,3,5,6] [1,0] ?_)))))
  obtain ⟨x2,Zo⟩:=Zr ls k om
  have MU:=hls _ (Y1 Zo)
  have hx0l:(x2).length=0:=by rw [MU];rfl
  refine dx 7 (Zg none (k:Int) 1 (D0 Zo)) (ZO 8 13 [8,10,11,12,13] [0,0] (Z8 4 (dc 4 [] [0,0,1] [b4,b4,b3] (VK x1.params) ?_)))
  rintro _ _ ⟨v2,rfl,rfl⟩
  refine Z8 9 (dc 9 [] [0,0,1] [b4,b4,b3] (VK x2) ?_)
  rintro _ _ ⟨v3,rfl,rfl⟩
  exact Z8 14 (Yq 14 [] [0,1] [b4,b3] (DV x1.body) (Yr 4 5 [15] [(40,.agg [Z6 x1.params,Z6 x2,.i x1.result,WE x1.body.steps,.i x1.body.result])] (Z8 16 (dL 16 [1] [b3] (Yy [ZV.mk x1.params x2 x1.result (Z5.mk x1.body.steps x1.body.result)]) 1 5 fun v4=>Yr 3 3 [] [(41,Tz [ZV.mk x1.params x2 x1.result (Z5.mk x1.body.steps x1.body.result)])] (Z8 17 (dp 17 7 [] [] (Yy (rs++[ZV.mk x1.params x2 x1.result (Z5.mk x1.body.steps x1.body.result)])) (Yy rs) (Yy [ZV.mk x1.params x2 x1.result (Z5.mk x1.body.steps x1.body.result)]) u none 5 (U3 _) (U3 _) (Jb _) (by simp<;>omega) (by simp [JK,Yy]) fun v5=>Zk 1 2 [18] (Z8 19 (YM 19 5 [] [] b3 [Ya n.decls,Wd (rs++[ZV.mk x1.params x2 x1.result (Z5.mk x1.body.steps x1.body.result)]) v5] (de (az (Z2 1 (ZG k (Z0 (ZH ⟨k+1,(rs++[ZV.mk x1.params x2 x1.result (Z5.mk x1.body.steps x1.body.result)]),v5,ob,ob,(by rw [Zw,Ww Z3,List.map_append,MU,Z5.eta];rfl),rfl,rfl,rfl⟩ (wk [0,5,5,0] (ZJ k fl))))))))))))))))
 exact ax 0 (Zu 1 [0] (Zz 1 b2 [Ya n.decls,Wd rs u] (ie (ZD (r3 [] [.agg [Ya n.decls,Wd rs u]] [0] [(b2,b2)] ⟨rfl,rfl⟩ (Zc.agg (.cons (Zc.sl _ (Yp Yz rfl)) (.cons (Zc.sl _ (Yp Yy (by rw [Zw,Wx om];rfl))) .nil))))))))
theorem Zae (n:Zq) (hz:Ua n:=by exact ob):Zi 17 [Yk n] [] (Yg (.tup [Yk (Xk n),.b (X5 n)])):=by
 have hzl:=hz.len
 refine ZF 25 Tryz.func17 (ar (iA (YJ n) fun b1=>iA [nl,nl] fun b2=>Z0 (Yf 1 [1] (Zy [] (Zap n) (YG (!X5 n) (p:=¬(X5 n=true)) (Yn Iff.rfl) (fun Za=>?_) (fun Za=>?_))))))
 ·exact Yc 1 (Zz 0 b2 [nl,nl] (Zt (r3 [] [.agg [nl,nl],.b false] [0] [(b2,b2)] ⟨rfl,rfl⟩ (Zc.tup (.cons (Zc.agg (.cons (Zc.sl _ (by rw [E1 Za];rfl)) (.cons (Zc.sl _ (by rw [E1 Za];rfl)) .nil))) (.cons (lb (To.2 Za).symm) .nil))))))
 have hP:X5 n=true:=Wn.1 Za
 have hV:V8 n=true:=by rw [X5,Xl] at hP;exact hP.1
 obtain ⟨hn,hvt⟩:=IP hz hV
 refine ak (ar (iL (XU []) 0 1 fun v1=>?_))
 refine Z0 (Y7 (ab 0 (Y0 (fun fz gz m F h=>∃(k:Nat) (ls:List LI) (u:Value),(k<=n.routines.length)/\(ls.length=k)/\(∀x∈ls,x=[])/\F=sF [1,2] fz [(4,Bz ls u),(5,.i k)]/\h=[Zh gz 1,Zh gz 2,.tail u 1]/\m=n.routines.length-k) _ _ _ ⟨0,[],v1,ob,ob,(fun x hx=>by cases hx),rfl,rfl,rfl⟩ (wk [1,1,0] (fr (Y5 fl))) ?_)))
 rintro m F h ⟨k,ls,u,Yb,Zl,Zw,rfl,rfl,rfl⟩
 refine Yf 3 [1] (iw (Vl n.routines) (ZZ ((k:Int)<(n.routines.length:Int)) (fun Zf=>?_) (fun Zf=>?_)))
 ·exact ak (aq (ab 1 (az (Z2 1 (iL (Z7 []) 0 1 fun v2=>ZQ 0 [(19,Z6 [])] (iL (XU [[]]) 1 1 fun v3=>ZQ 0 [(20,Q8 [[]])] (ip 4 (XU (ls++[[]])) (XU ls) (XU [[]]) u none 1 (Ja _) (Ja _) (D3 _) (by simp<;>omega) (by simp [EA,XU]) fun v4=>Z0 (az (Z2 1 (ZG k (Z0 (ZH ⟨k+1,(ls++[[]]),v4,ob,ob,(fun x hx=>by rcases Xb.1 hx with h|h;exact Zw x h;exact W2.1 h),rfl,rfl,rfl⟩ (wk [3,3,0] (fr (ZJ k fl)))))))))))))))
 exact ax 0 (ar (TE 2 [(23,Q8 ls)] [1] (Zy [] (Zbg n ls (hls:=ob)) (Zz 0 b2 (YJ (TV n)) (Zt (r3 [] [Yk (TV n),.b true] [0] [(b2,b2)] ⟨rfl,rfl⟩ (Zc.tup (.cons (Zc.agg (.cons (Zc.sl _ (Yp Yz (by rw [A9 hP]))) (.cons (Zc.sl _ (Yp Yy (by rw [A9 hP]))) .nil))) (.cons (lb hP.symm) .nil)))))))))
theorem Z5w (ds:List Ze) (es:List Ze) (hd:QH ds:=by exact ob) (he:QH es:=by exact ob):Zi 58 [Ya ds,Ya es] [] (Yg (.b (decide (ds=es)))):=by
 have hdl:=hd.len
 have hel:=he.len
 refine ZF 87 Tryz.func58 (ZP (YO 1 (iw (VC ds) (Z2 1 (iw (VC es) (YG ((ds.length:Int) != (es.length:Int)) Y6 (fun Za=>?_) (fun Za=>?_)))))))
 ·exact ar (Zt (ZU (.b false) (lb (decide_eq_false (fun z=>Za (by rw [z]))).symm)))
 refine ak (Y7 (ab 0 (Y0 (fun fz gz m F h=>∃(k:Nat),(k<=ds.length)/\(∀i,i<k->ds[i]? = es[i]?)/\F=sF [0,1] fz [(5,.i k)]/\h=gz/\m=ds.length-k) _ _ _ ⟨0,ob,E2,rfl,rfl,rfl⟩ (wk [] (Y5 fl)) ?_)))
 rintro m F h ⟨k,Yb,Zl,rfl,rfl,rfl⟩
 refine YO 2 (iw (VC ds) (ZZ ((k:Int)<(ds.length:Int)) (fun Zf=>?_) (fun Zf=>?_)))
 ·refine ak (aq (ab 1 (aq (aD 39 (Zk 37 39 [0,1] ?_)))))
  obtain ⟨x1,Z3⟩:=Zr ds k om
  have hcl:=hd.cons_at Z3
  refine dx 2 (Zg none (k:Int) 3 (Wz Z3)) (Zk 32 36 [3,4,5,6] ?_)
  obtain ⟨x2,Zo⟩:=Zr es k om
  refine dx 7 (Zg none (k:Int) 3 (Wz Zo)) (JF [0,1,5] [(56,.b ((x1.frm != x2.frm)||((x1.to_ != x2.to_)||((x1.cons.length:Int) != (x2.cons.length:Int)))))] (fun gz=>gz) ?_ ?_)
  ·refine Zk 27 31 [8,9,10,11] (db (b:=(x1.frm != x2.frm)) 29 (fun Zd=>?_) (fun Zd=>?_))
   ·have Y4:x1.frm≠x2.frm:=(Y6).1 Zd
    exact Zk 0 27 [12,13,14,15,16,17,18,19,20,21,22,23,24,25,26,27,28,29,30,31,32,33,34,35,36,37,38] (de (wk [] (Zp true Zd fl)))
   have Ym:¬(x1.frm≠x2.frm):=Yd Y6 Zd
   refine Zk 25 27 [12,13] (dx 14 (Zg none (k:Int) 3 (Wz Z3)) (Zk 20 24 [15,16,17,18] (dx 19 (Zg none (k:Int) 3 (Wz Zo)) (Zk 14 19 [20,21,22,23,24] (db (b:=(x1.to_ != x2.to_)) 42 (fun ZC=>?_) (fun ZC=>?_))))))
   ·have YQ:x1.to_≠x2.to_:=(Y6).1 ZC
    exact Zk 0 14 [25,26,27,28,29,30,31,32,33,34,35,36,37,38] (de (wk [] (Zp true (And.intro Zd ZC) fl)))
   have YZ:¬(x1.to_≠x2.to_):=Yd Y6 ZC
   exact Zk 12 14 [25,26] (dx 27 (Zg none (k:Int) 3 (Wz Z3)) (Zk 9 11 [28,29] (dw 30 (VQ x1.cons) (Zk 6 8 [31,32] (dx 33 (Zg none (k:Int) 3 (Wz Zo)) (Zk 3 5 [34,35] (dw 36 (VQ x2.cons) (Zk 0 2 [37,38] (de (wk [] (Zp ((x1.cons.length:Int) != (x2.cons.length:Int)) (And.intro Zd ZC) fl)))))))))))
  refine ac ((x1.frm != x2.frm)||((x1.to_ != x2.to_)||((x1.cons.length:Int) != (x2.cons.length:Int)))) (p:=(x1.frm≠x2.frm)∨((x1.to_≠x2.to_)∨((x1.cons.length:Int)≠(x2.cons.length:Int)))) (Yh Y6 (Yh Y6 Y6)) (fun ZA=>?_) (fun ZA=>?_)
  ·exact ar (Zt (ZU (.b false) (lb (decide_eq_false (BT Z3 Zo (fun z=>by rw [z] at ZA;simp at ZA))).symm)))
  simp only [not_or,ne_eq,Wn,decide_eq_true_eq] at ZA
  obtain ⟨hq1,hq2,hq3⟩:=ZA
  refine ak (ZP (ab 2 (Y0 (fun fz gz m F h=>∃(j:Nat),(j<=x1.cons.length)/\(∀i,i<j->x1.cons[i]? = x2.cons[i]?)/\F=sF [0,1,5] fz [(6,.i j)]/\h=gz/\m=x1.cons.length-j) _ _ _ ⟨0,ob,E2,rfl,rfl,rfl⟩ (wk [] (Y5 fl)) ?_)))
  rintro m F h ⟨j,VA,XL,rfl,rfl,rfl⟩
  refine YO 3 (Zm (Zg none (k:Int) 3 (Wz Z3)) (Z2 2 (iw (VQ x1.cons) (ZZ ((j:Int)<(x1.cons.length:Int)) (fun Yl=>?_) (fun Yl=>?_)))))
  ·refine ak (aq (ab 3 (aD 20 (Zk 18 20 [0,1] (dx 2 (Zg none (k:Int) 3 (Wz Z3)) (Zk 14 17 [3,4,5] ?_))))))
   obtain ⟨x3,YP⟩:=Zr x1.cons j om
   refine dx 6 (Zg none (j:Int) 1 (JI YP)) (Zk 9 13 [7,8,9,10] (dx 11 (Zg none (k:Int) 3 (Wz Zo)) (Zk 5 8 [12,13,14] ?_)))
   obtain ⟨x4,VG⟩:=Zr x2.cons j om
   refine dx 15 (Zg none (j:Int) 1 (JI VG)) (Zk 2 4 [16,17] (Z8 18 (Yq 18 [] [] [] (Ff x3.fields x4.fields (hxl:=(V9 (hd.fields_at Z3 YP) (by decide))) (hyl:=(V9 (he.fields_at Zo VG) (by decide)))) (Zk 0 1 [19] (de (ac (!(decide (x3.fields=x4.fields))) (p:=¬(x3.fields=x4.fields)) (Yn dq) (fun Xd=>?_) (fun Xd=>?_)))))))
   ·exact ar (Zt (ZU (.b false) (lb (decide_eq_false (BT Z3 Zo (fun z=>BT YP VG (fun w=>Xd (Yp Y8.fields w)) (Yp Ze.cons z)))).symm)))
   exact ak (az (Z2 1 (ZG j (Z0 (ZH ⟨j+1,ob,(E3 XL YP VG (Y8.ext1 (Wn.1 Xd))),rfl,rfl,rfl⟩ (wk [] (ZJ j fl)))))))
  have hE:=D6 (xs:=x1.cons) (ys:=x2.cons) om (fun i hi=>XL i om)
  exact ax 2 (az (Z2 1 (ZG k (Z0 (ZH ⟨k+1,ob,(E3 Zl Z3 Zo (Ze.ext3 hq1 hq2 hE)),rfl,rfl,rfl⟩ (wk [] (ZJ k fl)))))))
 exact ax 0 (ar (Zt (ZU (.b true) (lb (decide_eq_true (D6 om (fun i hi=>Zl i om))).symm))))
theorem Z5x (z:Nat) (s:Z4) (t:Z4) (hz:s.sz<=z+1:=by exact ob) (hs:s.sz<=1000000000:=by exact ob) (ht:t.sz<=1000000000:=by exact ob) (ih:∀(a2:Z5) (b2:Z5),(a2.sz<=z)->(a2.sz<=1000000000)->(b2.sz<=1000000000)->Zi 59 [ZI a2,ZI b2] [] (Yg (.b (decide (a2=b2))))):Zi 98 [YC s,YC t] [] (Yg (.b (decide (s=t)))):=by
 have hsa:=TJ s
 have hta:=TJ t
 have hsk:=Ut s
 have htk:=Ut t
 refine ZF 61 Tryz.func98 (ar (iA (Xm s) fun b1=>iA (Xm t) fun b2=>Z0 (X4 (XG 12 [2,3] [(17,.b ((s.op != t.op)||(s.num != t.num)))] (fun gz=>gz) ?_ (fun hj1=>?_)))))
 ·refine XG 19 [2,3] [(24,.b (((s.op != t.op)||(s.num != t.num))||(s.into != t.into)))] (fun gz=>gz) ?_ (fun hj2=>?_)
  ·refine XG 27 [2,3] [(32,.b ((((s.op != t.op)||(s.num != t.num))||(s.into != t.into))||(!(decide (s.args=t.args)))))] (fun gz=>gz) ?_ (fun hj3=>?_)
   ·refine Xi [2,3] [(41,.b (((((s.op != t.op)||(s.num != t.num))||(s.into != t.into))||(!(decide (s.args=t.args))))||((s.kids.length:Int) != (t.kids.length:Int))))] (fun gz=>gz) ?_ ?_
    ·refine Z2 1 (ib (b:=((((s.op != t.op)||(s.num != t.num))||(s.into != t.into))||(!(decide (s.args=t.args))))) 33 (fun Zd=>?_) (fun Zd=>?_))
     ·have Y4:(((s.op≠t.op)∨(s.num≠t.num))∨(s.into≠t.into))∨(¬(s.args=t.args)):=((Yh (Yh (Yh Y6 Y6) Y6) (Yn dq))).1 Zd
      exact Z0 (wk [0,0] (Zp true Zd fl))
     have Ym:¬((((s.op≠t.op)∨(s.num≠t.num))∨(s.into≠t.into))∨(¬(s.args=t.args))):=Yd (Yh (Yh (Yh Y6 Y6) Y6) (Yn dq)) Zd
     exact ZL 2 [1] (iw (Vr s.kids) (ZL 2 [0] (iw (Vr t.kids) (Z0 (wk [0,0] (Zp ((s.kids.length:Int) != (t.kids.length:Int)) Zd fl))))))
    refine ac (((((s.op != t.op)||(s.num != t.num))||(s.into != t.into))||(!(decide (s.args=t.args))))||((s.kids.length:Int) != (t.kids.length:Int))) (p:=((((s.op≠t.op)∨(s.num≠t.num))∨(s.into≠t.into))∨(¬(s.args=t.args)))∨((s.kids.length:Int)≠(t.kids.length:Int))) (Yh (Yh (Yh (Yh Y6 Y6) Y6) (Yn dq)) Y6) (fun Za=>?_) (fun Za=>?_)
    ·exact ar (Zt (ZU (.b false) (lb (decide_eq_false (fun z=>by rw [z] at Za;simp at Za)).symm)))
    simp only [not_or,ne_eq,Wn,decide_eq_true_eq] at Za
    obtain ⟨⟨⟨⟨hq1,hq2⟩,hq3⟩,hq4⟩,hq5⟩:=Za
    refine ak (Y7 (ab 0 (Y0 (fun fz gz m F h=>∃(k:Nat),(k<=s.kids.length)/\(∀i,i<k->s.kids[i]? = t.kids[i]?)/\F=sF [2,3] fz [(5,.i k)]/\h=gz/\m=s.kids.length-k) _ _ _ ⟨0,ob,E2,rfl,rfl,rfl⟩ (wk [0,0] (Y5 fl)) ?_)))
    rintro m F h ⟨k,Yb,Zl,rfl,rfl,rfl⟩
    refine Yf 3 [1] (iw (Vr s.kids) (ZZ ((k:Int)<(s.kids.length:Int)) (fun Zf=>?_) (fun Zf=>?_)))
    ·refine ak (aq (ab 1 (aD 12 (ZO 9 12 [0,1,2] [1] ?_))))
     obtain ⟨x1,Z3⟩:=Zr s.kids k om
     have hk1:=Us Z3
     refine dx 3 (Zg none (k:Int) 2 (U2 Z3)) (ZO 4 8 [4,5,6,7] [0] ?_)
     obtain ⟨x2,Zo⟩:=Zr t.kids k om
     have hk2:=Us Zo
     refine dx 8 (Zg none (k:Int) 2 (U2 Zo)) (Zk 2 3 [9] (Z8 10 (Yq 10 [] [] [] (ih x1 x2 ob ob ob) (Zk 0 1 [11] (de (ac (!(decide (x1=x2))) (p:=¬(x1=x2)) (Yn dq) (fun ZA=>?_) (fun ZA=>?_)))))))
     ·exact ar (Zt (ZU (.b false) (lb (decide_eq_false (fun z=>BT Z3 Zo ZA (Yp Z4.kids z))).symm)))
     exact ak (az (Z2 1 (ZG k (Z0 (ZH ⟨k+1,ob,(E3 Zl Z3 Zo (Wn.1 ZA)),rfl,rfl,rfl⟩ (wk [0,0] (ZJ k fl)))))))
    exact ax 0 (ar (Zt (ZU (.b true) (lb (decide_eq_true (Z4.ext4 hq1 hq2 hq3 hq4 (D6 om (fun i hi=>Zl i om)))).symm))))
   refine Z2 1 (ib (b:=(((s.op != t.op)||(s.num != t.num))||(s.into != t.into))) 25 (fun ZC=>?_) (fun ZC=>?_))
   ·have YQ:((s.op≠t.op)∨(s.num≠t.num))∨(s.into≠t.into):=((Yh (Yh Y6 Y6) Y6)).1 ZC
    exact Z2 7 (Yv (wk [0,0] (Zp true ZC fl)) hj3)
   have YZ:¬(((s.op≠t.op)∨(s.num≠t.num))∨(s.into≠t.into)):=Yd (Yh (Yh Y6 Y6) Y6) ZC
   exact ZL 4 [1,0] (Zy [] (Ff s.args t.args) (Z2 2 (Yv (wk [0,0] (Zp (!(decide (s.args=t.args))) ZC fl)) hj3)))
  refine Z2 1 (ib (b:=((s.op != t.op)||(s.num != t.num))) 18 (fun YB=>?_) (fun YB=>?_))
  ·have Xg:(s.op≠t.op)∨(s.num≠t.num):=((Yh Y6 Y6)).1 YB
   exact Z2 6 (Yv (wk [0,0] (Zp true YB fl)) hj2)
  have XX:¬((s.op≠t.op)∨(s.num≠t.num)):=Yd (Yh Y6 Y6) YB
  exact ZL 6 [1,0] (Yv (wk [0,0] (Zp (s.into != t.into) YB fl)) hj2)
 refine ZL 6 [1,0] (ib (b:=(s.op != t.op)) 11 (fun X2=>?_) (fun X2=>?_))
 ·have Wu:s.op≠t.op:=(Y6).1 X2
  exact Z2 6 (Yv (wk [0,0] (Zp true X2 fl)) hj1)
 have WZ:¬(s.op≠t.op):=Yd Y6 X2
 exact ZL 6 [1,0] (Yv (wk [0,0] (Zp (s.num != t.num) X2 fl)) hj1)
theorem Z5u (z:Nat) (a:Z5) (b:Z5) (hz:a.sz<=z+1:=by exact ob) (ha:a.sz<=1000000000:=by exact ob) (hb:b.sz<=1000000000:=by exact ob) (ih:∀(a2:Z5) (b2:Z5),(a2.sz<=z)->(a2.sz<=1000000000)->(b2.sz<=1000000000)->Zi 59 [ZI a2,ZI b2] [] (Yg (.b (decide (a2=b2))))):Zi 59 [ZI a,ZI b] [] (Yg (.b (decide (a=b)))):=by
 have hsa:=V7 a
 have hsb:=V7 b
 refine ZF 39 Tryz.func59 (ar (iA (X3 a) fun b1=>iA (X3 b) fun b2=>Z0 (X4 (Xi [2,3] [(19,.b ((a.result != b.result)||((a.steps.length:Int) != (b.steps.length:Int))))] (fun gz=>gz) ?_ ?_))))
 ·refine ZL 6 [1,0] (ib (b:=(a.result != b.result)) 11 (fun Zd=>?_) (fun Zd=>?_))
  ·have Y4:a.result≠b.result:=(Y6).1 Zd
   exact Z0 (wk [0,0] (Zp true Zd fl))
  have Ym:¬(a.result≠b.result):=Yd Y6 Zd
  exact ZL 2 [1] (iw (V3 a.steps) (ZL 2 [0] (iw (V3 b.steps) (Z0 (wk [0,0] (Zp ((a.steps.length:Int) != (b.steps.length:Int)) Zd fl))))))
 refine ac ((a.result != b.result)||((a.steps.length:Int) != (b.steps.length:Int))) (p:=(a.result≠b.result)∨((a.steps.length:Int)≠(b.steps.length:Int))) (Yh Y6 Y6) (fun Za=>?_) (fun Za=>?_)
 ·exact ar (Zt (ZU (.b false) (lb (decide_eq_false (fun z=>by rw [z] at Za;simp at Za)).symm)))
 simp only [not_or,ne_eq,Wn,decide_eq_true_eq] at Za
 obtain ⟨hq1,hq2⟩:=Za
 refine ak (Y7 (ab 0 (Y0 (fun fz gz m F h=>∃(k:Nat),(k<=a.steps.length)/\(∀i,i<k->a.steps[i]? = b.steps[i]?)/\F=sF [2,3] fz [(5,.i k)]/\h=gz/\m=a.steps.length-k) _ _ _ ⟨0,ob,E2,rfl,rfl,rfl⟩ (wk [0,0] (Y5 fl)) ?_)))
 rintro m F h ⟨k,Yb,Zl,rfl,rfl,rfl⟩
 refine Yf 3 [1] (iw (V3 a.steps) (ZZ ((k:Int)<(a.steps.length:Int)) (fun Zf=>?_) (fun Zf=>?_)))
 ·refine ak (aq (ab 1 (aD 12 (ZO 9 12 [0,1,2] [1] ?_))))
  obtain ⟨x1,Z3⟩:=Zr a.steps k om
  have hk1:=Qf Z3
  refine dx 3 (Zg none (k:Int) 5 (Wc Z3)) (ZO 4 8 [4,5,6,7] [0] ?_)
  obtain ⟨x2,Zo⟩:=Zr b.steps k om
  have hk2:=Qf Zo
  refine dx 8 (Zg none (k:Int) 5 (Wc Zo)) (Zk 2 3 [9] (Z8 10 (Yq 10 [] [] [] (Z5x z x1 x2 (ih:=ih)) (Zk 0 1 [11] (de (ac (!(decide (x1=x2))) (p:=¬(x1=x2)) (Yn dq) (fun ZA=>?_) (fun ZA=>?_)))))))
  ·exact ar (Zt (ZU (.b false) (lb (decide_eq_false (fun z=>BT Z3 Zo ZA (Yp Z5.steps z))).symm)))
  exact ak (az (Z2 1 (ZG k (Z0 (ZH ⟨k+1,ob,(E3 Zl Z3 Zo (Wn.1 ZA)),rfl,rfl,rfl⟩ (wk [0,0] (ZJ k fl)))))))
 exact ax 0 (ar (Zt (ZU (.b true) (lb (decide_eq_true (Z5.ext2 (D6 om (fun i hi=>Zl i om)) hq1)).symm))))
theorem Z5v (m:Nat):∀(a2:Z5) (b2:Z5),(a2.sz<=m)->(a2.sz<=1000000000)->(b2.sz<=1000000000)->Zi 59 [ZI a2,ZI b2] [] (Yg (.b (decide (a2=b2)))):=by
 induction m with
 | zero=>intro a b h;have:=a.sz_pos;omega
 | succ m ih=>intro a b h1 h2 h3;exact Z5u m a b h1 h2 h3 ih
theorem Z5t (a:Z5) (b:Z5) (ha:a.sz<=1000000000:=by exact ob) (hb:b.sz<=1000000000:=by exact ob):Zi 59 [ZI a,ZI b] [] (Yg (.b (decide (a=b)))):=Z5v a.sz a b (X9 _) ha hb
theorem HO (n:Zq) (t:Zq) (hn:Ua n:=by exact ob) (ht:Ua t:=by exact ob):Zi 18 [Yk n,Yk t] [] (Yg (.b (decide (n=t)))):=by
 have hnl:=hn.len
 have htl:=ht.len
 refine ZF 69 Tryz.func18 (ar (iA (YJ n) fun b1=>iA (YJ t) fun b2=>Z0 (Yf 4 [1,0] (Zy [] (Z5w n.decls t.decls (hd:=hn.decls) (he:=ht.decls)) (Xi [2,3] [(22,.b ((!(decide (n.decls=t.decls)))||((n.routines.length:Int) != (t.routines.length:Int))))] (fun gz=>gz) ?_ ?_)))))
 ·refine Z2 2 (ib (b:=(!(decide (n.decls=t.decls)))) 14 (fun Zd=>?_) (fun Zd=>?_))
  ·have Y4:¬(n.decls=t.decls):=((Yn dq)).1 Zd
   exact Z0 (wk [0,0] (Zp true Zd fl))
  have Ym:¬(¬(n.decls=t.decls)):=Yd (Yn dq) Zd
  exact ZL 2 [1] (iw (Vl n.routines) (ZL 2 [0] (iw (Vl t.routines) (Z0 (wk [0,0] (Zp ((n.routines.length:Int) != (t.routines.length:Int)) Zd fl))))))
 refine ac ((!(decide (n.decls=t.decls)))||((n.routines.length:Int) != (t.routines.length:Int))) (p:=(¬(n.decls=t.decls))∨((n.routines.length:Int)≠(t.routines.length:Int))) (Yh (Yn dq) Y6) (fun Za=>?_) (fun Za=>?_)
 ·exact ar (Zt (ZU (.b false) (lb (decide_eq_false (fun z=>by rw [z] at Za;simp at Za)).symm)))
 simp only [not_or,ne_eq,Wn,decide_eq_true_eq] at Za
 obtain ⟨hq1,hq2⟩:=Za
 refine ak (Y7 (ab 0 (Y0 (fun fz gz m F h=>∃(k:Nat),(k<=n.routines.length)/\(∀i,i<k->n.routines[i]? = t.routines[i]?)/\F=sF [2,3] fz [(5,.i k)]/\h=gz/\m=n.routines.length-k) _ _ _ ⟨0,ob,E2,rfl,rfl,rfl⟩ (wk [0,0] (Y5 fl)) ?_)))
 rintro m F h ⟨k,Yb,Zl,rfl,rfl,rfl⟩
 refine Yf 3 [1] (iw (Vl n.routines) (ZZ ((k:Int)<(n.routines.length:Int)) (fun Zf=>?_) (fun Zf=>?_)))
 ·refine ak (aq (ab 1 (Zu 3 [1] ?_)))
  obtain ⟨x1,Z3⟩:=Zr n.routines k om
  have hm1:=Y1 Z3
  have ha1:=hn.params _ hm1
  have ha2:=hn.lent _ hm1
  have ha3:=hn.body _ hm1
  refine Zm (Zg none (k:Int) 5 (Wm Z3)) (Z2 1 (iA [nl,nl,.i 0,nl,.i 0] fun b3=>Zz 0 b3 (Tm x1) (ie (Zu 3 [1] ?_))))
  obtain ⟨x2,Zo⟩:=Zr t.routines k om
  have hm2:=Y1 Zo
  have ha4:=ht.params _ hm2
  have ha5:=ht.lent _ hm2
  have ha6:=ht.body _ hm2
  refine Zm (Zg none (k:Int) 5 (Wm Zo)) (Z2 1 (iA [nl,nl,.i 0,nl,.i 0] fun b4=>Zz 0 b4 (Tm x2) (ie (Zu 4 [1,0] (Zy [] (Ff x1.params x2.params) (XG 14 [2,3,5,6,7] [(53,.b ((!(decide (x1.params=x2.params)))||(!(decide (x1.lent=x2.lent)))))] (fun gz=>gz) ?_ (fun hj1=>?_)))))))
  ·refine XG 21 [2,3,5,6,7] [(60,.b (((!(decide (x1.params=x2.params)))||(!(decide (x1.lent=x2.lent))))||(x1.result != x2.result)))] (fun gz=>gz) ?_ (fun hj2=>?_)
   ·refine Xi [2,3,5] [(68,.b ((((!(decide (x1.params=x2.params)))||(!(decide (x1.lent=x2.lent))))||(x1.result != x2.result))||(!(decide (x1.body=x2.body)))))] (fun gz=>gz) ?_ ?_
    ·refine Z2 1 (ib (b:=(((!(decide (x1.params=x2.params)))||(!(decide (x1.lent=x2.lent))))||(x1.result != x2.result))) 61 (fun ZC=>?_) (fun ZC=>?_))
     ·have YQ:((¬(x1.params=x2.params))∨(¬(x1.lent=x2.lent)))∨(x1.result≠x2.result):=((Yh (Yh (Yn dq) (Yn dq)) Y6)).1 ZC
      exact Z0 (ZM 4 (Zp true ZC fl))
     have YZ:¬(((¬(x1.params=x2.params))∨(¬(x1.lent=x2.lent)))∨(x1.result≠x2.result)):=Yd (Yh (Yh (Yn dq) (Yn dq)) Y6) ZC
     exact ZL 4 [1,0] (Zy [] (Z5t x1.body x2.body) (Z0 (ZM 4 (Zp (!(decide (x1.body=x2.body))) ZC fl))))
    refine ac ((((!(decide (x1.params=x2.params)))||(!(decide (x1.lent=x2.lent))))||(x1.result != x2.result))||(!(decide (x1.body=x2.body)))) (p:=(((¬(x1.params=x2.params))∨(¬(x1.lent=x2.lent)))∨(x1.result≠x2.result))∨(¬(x1.body=x2.body))) (Yh (Yh (Yh (Yn dq) (Yn dq)) Y6) (Yn dq)) (fun ZA=>?_) (fun ZA=>?_)
    ·exact ar (Zt (ZU (.b false) (lb (decide_eq_false (fun z=>BT Z3 Zo (fun w=>by rw [w] at ZA;simp at ZA) (Yp Zq.routines z))).symm)))
    simp only [not_or,ne_eq,Wn,decide_eq_true_eq] at ZA
    obtain ⟨⟨⟨hw1,hw2⟩,hw3⟩,hw4⟩:=ZA
    exact ak (az (Z2 1 (ZG k (Z0 (ZH ⟨k+1,ob,(E3 Zl Z3 Zo (ZV.ext4 hw1 hw2 hw3 hw4)),rfl,rfl,rfl⟩ (wk [2,2] (ZJ k fl)))))))
   refine Z2 1 (ib (b:=((!(decide (x1.params=x2.params)))||(!(decide (x1.lent=x2.lent))))) 54 (fun YB=>?_) (fun YB=>?_))
   ·have Xg:(¬(x1.params=x2.params))∨(¬(x1.lent=x2.lent)):=((Yh (Yn dq) (Yn dq))).1 YB
    exact Z2 6 (Yv (ZM 4 (Zp true YB fl)) hj2)
   have XX:¬((¬(x1.params=x2.params))∨(¬(x1.lent=x2.lent))):=Yd (Yh (Yn dq) (Yn dq)) YB
   exact ZL 6 [1,0] (Yv (ZM 4 (Zp (x1.result != x2.result) YB fl)) hj2)
  refine Z2 2 (ib (b:=(!(decide (x1.params=x2.params)))) 46 (fun X2=>?_) (fun X2=>?_))
  ·have Wu:¬(x1.params=x2.params):=((Yn dq)).1 X2
   exact Z2 7 (Yv (ZM 4 (Zp true X2 fl)) hj1)
  have WZ:¬(¬(x1.params=x2.params)):=Yd (Yn dq) X2
  exact ZL 4 [1,0] (Zy [] (Ff x1.lent x2.lent) (Z2 2 (Yv (ZM 4 (Zp (!(decide (x1.lent=x2.lent))) X2 fl)) hj1)))
 exact ax 0 (ar (Zt (ZU (.b true) (lb (decide_eq_true (Zq.ext2 hq1 (D6 om (fun i hi=>Zl i om)))).symm))))
theorem S9 (ds:List Ze) (hl_ds:ds.length<=4294967296:=by exact ob):Zi 136 [Ya ds] [] (fun r h=>∃(v:Hd),r=.h v/\h=[rK v 3 (Zb (Yz ds))]):=by
 refine ZF 8 Tryz.func136 (ZP (YO 1 (iN (Yz ds) (fun hz1=>?_) ?_)))
 ·have hz1:=Z0a hz1
  refine ie (WU (ZP (Kx (FZ (k:=3)) ?_)))
  subst hz1
  exact ZD (r2 [0] [nl] ⟨hN,rfl,rfl⟩ (Zc.hd (v:=hN)) (eq:=(rr (ls:=[]) rfl rz)))
 exact ie (WT (ak (ar (Cj 3 fun g1=>Z2 1 (HA 0 g1 3 (Yz ds) none (QP _) (by simp<;>omega) fun v1=>Zt (r1 [0] ⟨v1,rfl,rfl⟩))))))
theorem S8 (cs:List Y8) (hl_cs:cs.length<=4294967296:=by exact ob):Zi 137 [QT cs] [] (fun r h=>∃(v:Hd),r=.h v/\h=[rK v 1 (Zb (XF cs))]):=by
 refine ZF 8 Tryz.func137 (ZP (YO 1 (iN (XF cs) (fun hz1=>?_) ?_)))
 ·have hz1:=Z07 hz1
  refine ie (WU (ZP (Kx (FZ (k:=1)) ?_)))
  subst hz1
  exact ZD (r2 [0] [nl] ⟨hN,rfl,rfl⟩ (Zc.hd (v:=hN)) (eq:=(rr (ls:=[]) rfl rz)))
 exact ie (WT (ak (ar (Cj 1 fun g1=>Z2 1 (HA 0 g1 1 (XF cs) none (CZ _) (by simp<;>omega) fun v1=>Zt (r1 [0] ⟨v1,rfl,rfl⟩))))))
theorem Z4h (ds:List Ze) (hd:Wb ds):Zi 91 [Ya ds] [] (fun r h=>∃(ys:List V2) (w:Value),r=Z6x ys w/\h=[.many (Q5 ys),.tail w 3]/\ys.map V2.er=ds):=by
 have hdl:=hd.len
 refine ZF 46 Tryz.func91 (ZP (Yc 1 (ic [] (S9 ds) ?_)))
 rintro _ _ ⟨v1,rfl,rfl⟩
 refine Z0 (YO 1 (Zm (Na 0 ds.length v1 3 (Zb (Yz ds)) (by rw [Mf])) (Z0 (ab 0 (Kx (tB [] [] [] (Q5 []) (by simp [Dp,Dk,ER,ES,EU,EV,EQ,Qu,Qt,Do,Ch,TO,Q5,JY,Dl,Dm,Dn,ET])) (Y0 (fun fz gz m F h=>∃(k:Nat) (v:Hd) (ys:List V2),(k<=ds.length)/\(ys.map V2.er=ds.take k)/\(ys.length=k)/\F=sF [11] fz [(3,.h v),(10,.h v),(12,.i k)]/\h=[rK v 3 (Zb (WY ys++Yz (ds.drop k))),.many (Q5 ys)]/\m=ds.length-k) _ _ _ ⟨0,v1,[],ob,rfl,rfl,rfl,rfl,rfl⟩ (wk [1,0] (fw (Y5 fl)) (e:=(rr (ls:=Zb (Yz ds)) (by rfl) (rc rz)))) ?_))))))
 rintro m F h ⟨k,v,ys,Yb,Zl,Zw,rfl,rfl,rfl⟩
 refine ZP (aq (We ((k:Int)<(ds.length:Int)) (fun Za=>?_) (fun Za=>?_)))
 ·obtain ⟨x1,Z3⟩:=Zr ds k om
  have hcl:=hd.cons_at Z3
  refine N7 0 ds.length (v:=v) (OL Zw Yb) om (fun g1 c1 he1=>?_)
  subst he1
  refine ak (aq (ab 1 (Yc 1 (Zm (XV g1 ds.length c1 k 3 (k:Int)) (VU (WX 0 g1 ds.length c1 3 (k*3) (Zb (WY ys++Yz (ds.drop k))) (Ta x1) 106 (Jz x1) (by rw [OM Z3];exact Ih (by rw [Bl,Zw]))) (iA [.i 0,.i 0,nl] fun b1=>Z2 1 (Zz 0 b1 (Ta x1) (ie (Zu 4 [0] (ic [] (S8 x1.cons) ?_))))))))))
  rintro _ _ ⟨v2,rfl,rfl⟩
  refine Zm (XV g1 ds.length c1 k 3 (k:Int)) (Z2 1 (Bs 2 g1 ds.length c1 3 (k*3+2) [.h v2] (Zb (WY ys++Yz (ds.drop k))) (Zb (WY ys)++([.i x1.frm,.i x1.to_,.h v2]++Zb (Yz (ds.drop (k+1))))) (by rw [OL Zw Yb];simp;omega) (by rw [OM Z3];exact Z90 (by rw [Bl,Zw])) (ie (Zu 2 [2] (iw (VQ x1.cons) (Z0 (ab 2 (Kx (tB [] [] [] (TO []) (by simp [Dp,Dk,ER,ES,EU,EV,EQ,Qu,Qt,Do,Ch,TO,Q5,JY,Dl,Dm,Dn,ET])) (Y0 (fun fz gz m F h=>∃(j:Nat) (u:Hd) (zs:List V1),(j<=x1.cons.length)/\(zs.map V1.er=x1.cons.take j)/\(zs.length=j)/\F=sF [3,4,10,11,12,25,26] fz [(27,.i j)]/\h=[Zh gz 4,rK u 1 (Zb (VR zs++XF (x1.cons.drop j))),.row (.slice (some ⟨g1,0,none⟩) ds.length c1) 3 (Zb (WY ys)++([.i x1.frm,.i x1.to_,.h u]++Zb (Yz (ds.drop (k+1))))),.many (TO zs)]/\m=x1.cons.length-j) _ _ _ ⟨0,v2,[],ob,rfl,rfl,rfl,rfl,rfl⟩ (wk [4,2,1,0] (Y5 fl) (e:=(rc (rr (ls:=Zb (XF x1.cons)) (by rfl) (rc (rc rz)))))) ?_)))))))))
  rintro m F h ⟨j,u,zs,VA,XL,XI,rfl,rfl,rfl⟩
  refine ZP (aq (We ((j:Int)<(x1.cons.length:Int)) (fun Zf=>?_) (fun Zf=>?_)))
  ·obtain ⟨x2,Zo⟩:=Zr x1.cons j om
   have hfl:=hd.fields_at Z3 Zo
   refine N7 1 x1.cons.length (v:=u) (OK XI VA) om (fun g2 c2 he2=>?_)
   subst he2
   refine ak (aq (ab 3 (Yc 1 (Zm (Zg none (j:Int) 1 (JI Zo)) (Z2 1 (iA [nl] fun b2=>Z2 1 (Zz 0 b2 (Co x2) (ie (aE 12 (Zk 10 12 [0,1] (dx 2 (XV g1 ds.length c1 k 3 (k:Int)) (Zk 8 9 [3] (U1 4 (WX 3 g1 ds.length c1 3 (k*3+2) (Zb (WY ys)++([.i x1.frm,.i x1.to_,.h ⟨some ⟨g2,0,none⟩,x1.cons.length,c2⟩]++Zb (Yz (ds.drop (k+1))))) [.h ⟨some ⟨g2,0,none⟩,x1.cons.length,c2⟩] 104 (.ms g2 0 x1.cons.length c2) (Z91 (by rw [Bl,Zw]))) (ZO 4 7 [5,6,7] [0] (Z8 8 (dc 8 [] [2] [g1] (CV x2.fields) ?_))))))))))))))))
   rintro _ _ ⟨v3,rfl,rfl⟩
   exact dx 9 (XV g2 x1.cons.length c2 j 1 (j:Int)) (Zk 1 2 [10] (Z8 11 (Au 11 3 [] [] g2 x1.cons.length c2 1 (j*1) [ZY x2.fields v3] (Zb (VR zs++XF (x1.cons.drop j))) (Zb (VR zs)++([ZY x2.fields v3]++Zb (XF (x1.cons.drop (j+1))))) (by rw [OK XI VA];simp;omega) (by rw [Z8x Zo];exact Cz (by rw [Mg,XI,Kw]) rfl) (Ev (tB [5,1] [.many (TO zs),.tail v3 1] (TO zs++((v3,1)::[])) (TO (zs++[V1.mk x2.fields v3])) (by simp [Dp,Dk,ER,ES,EU,EV,EQ,Qu,Qt,Do,Ch,TO,Q5,JY,Dl,Dm,Dn,ET])) (de (az (ZG j (Z0 (ZH ⟨j+1,⟨some ⟨g2,0,none⟩,x1.cons.length,c2⟩,(zs++[V1.mk x2.fields v3]),ob,(by rw [List.map_append,XL,Ww Zo];rfl),(by simp [XI]),rfl,rfl,rfl⟩ (wk [3,1,2,0] (ZJ j fl) (e:=(rc (rr (ls:=(Zb (VR zs)++([ZY x2.fields v3]++Zb (XF (x1.cons.drop (j+1)))))) Z8w (rr (ls:=(Zb (WY ys)++([.i x1.frm,.i x1.to_,.h ⟨some ⟨g2,0,none⟩,x1.cons.length,c2⟩]++Zb (Yz (ds.drop (k+1)))))) ob (rc rz)))))))))))))))
  refine Kx (CG 1 u.v 1 (Zb (VR zs++XF (x1.cons.drop j))) (Zb (VR zs)) (Z8v om)) (Kx (Zcc 0 1 (k*3+2) u.v (.slice (some ⟨g1,0,none⟩) ds.length c1) 1 3 (VR zs) (Zb (WY ys)++([.i x1.frm,.i x1.to_,.h u]++Zb (Yz (ds.drop (k+1))))) (LU _) (by rw [E7 (by rw [Bl];omega),Bl,Zw];simp)) ?_)
  exact Kx (CG 0 (.slice (some ⟨g1,0,none⟩) ds.length c1) 3 (List.set ((Zb (WY ys)++([.i x1.frm,.i x1.to_,.h u]++Zb (Yz (ds.drop (k+1))))):List AV) (k*3+2) (DD zs u.v)) (Zb (WY ys)++([.i x1.frm,.i x1.to_,DD zs u.v]++Zb (Yz (ds.drop (k+1))))) (Z92 (by rw [Bl,Zw]))) (Kx (tB [2,2,1] [.many (Q5 ys),.many (TO zs),.tail u.v 1] (Q5 ys++(TO zs++((u.v,1)::[]))) (Q5 (ys++[V2.mk x1.frm x1.to_ zs u.v])) (by simp [Dp,Dk,ER,ES,EU,EV,EQ,Qu,Qt,Do,Ch,TO,Q5,JY,Dl,Dm,Dn,ET])) (ax 2 (az (ZG k (Z0 (ZH ⟨k+1,(⟨some ⟨g1,0,none⟩,ds.length,c1⟩:Hd),(ys++[V2.mk x1.frm x1.to_ zs u.v]),ob,(by rw [List.map_append,Zl,Ww Z3,Re (XL.trans (Wx om))]),(by simp [Zw]),rfl,rfl,rfl⟩ (wk [1,0] (fw (ZJ k fl)) (e:=(rr (ls:=(Zb (WY ys)++([.i x1.frm,.i x1.to_,DD zs u.v]++Zb (Yz (ds.drop (k+1)))))) Z8z (rc rz))))))))))
 exact ax 0 (ZP (Kx (CG 0 v.v 3 (Zb (WY ys++Yz (ds.drop k))) (Zb (WY ys)) (Z8y om)) (N9 2 0 (v:=v) (WY ys) (LV _) (ZD (r1 [1,0] ⟨ys,v.v,rfl,rfl,(by rw [Zl,Wx om])⟩)))))
theorem Z4i (ds:List Ze) (hd:Wb ds:=by exact ob):Zi 91 [Ya ds] [] (Yg (Ya ds)):=((Z4h ds hd).alone fun r h ⟨ys,w,e1,_,e3⟩=>by rw [e1,<-e3];exact Zc.els _ (Z0w ys))
theorem Z53 (s:Z4) (ks:List Z5) (hl:s.sz<=1000000000:=by exact ob):Zi 138 [YC s,Xq ks] [] (Yg (.agg [.i s.op,.i s.num,.i s.into,Z6 s.args,Xq ks])):=by
 have hal:=TJ s
 refine ZF 12 Tryz.func138 (ar (iA (Xm s) fun b1=>iA [.i 0,.i 0,.i 0,nl,nl] fun b2=>ie (Zu 2 [1] (ic [] (CV s.args) ?_))))
 rintro _ _ ⟨v1,rfl,rfl⟩
 exact Z2 2 (Zz 2 b1 [.i s.op,.i s.num,.i s.into,ZY s.args v1,Xq s.kids] (Z2 1 (Zz 0 b1 [.i s.op,.i s.num,.i s.into,ZY s.args v1,Xq ks] (ie (Zu 1 [0] (Zz 2 b2 [.i s.op,.i s.num,.i s.into,ZY s.args v1,Xq ks] (ie (ZD (r3 [] [.agg [.i s.op,.i s.num,.i s.into,ZY s.args v1,Xq ks]] [0] [(b2,b2)] ⟨rfl,rfl⟩ (Zc.agg (.cons (lr _) (.cons (lr _) (.cons (lr _) (.cons (Zc.forget _ _) (.cons (lr _) .nil)))))))))))))))
theorem Z4q (z:Nat) (s:Z4) (hz:s.sz<=z+1:=by exact ob) (hl:s.sz<=1000000000:=by exact ob) (ih:∀(b2:Z5),(b2.sz<=z)->(b2.sz<=1000000000)->Zi 55 [ZI b2] [] (Yg (ZI (WO b2)))):Zi 94 [YC s,.val (.func (.func 55) #[] #[])] [] (Yg (.agg [.i s.op,.i s.num,.i s.into,Z6 s.args,Xq (Ue s.kids)])):=by
 have hkz:=Ut s
 refine ZF 25 Tryz.func94 (ar (iA (Xm s) fun b1=>iA [.i 0,.i 0,.i 0,nl,nl] fun b2=>?_))
 refine ie (ZP (Yf 2 [1] (iw (Vr s.kids) (Z0 (ab 0 (BR 2 (Y0 (fun fz gz m F h=>∃(k:Nat) (ks:List Z5) (u:Value),(k<=s.kids.length)/\(ks.length=k)/\(ks++Ue (s.kids.drop k)=Ue s.kids)/\F=sF [1,2,4,9,10] fz [(5,UF ks u),(11,.i k)]/\h=[Zh gz 1,Zh gz 2,.tail u 2]/\m=s.kids.length-k) _ _ _ ⟨0,[],(.slice none 0 0),ob,ob,ob,rfl,rfl,rfl⟩ (wk [1,1,0] (fc (x:=nl) (Zc.slh _ (by first|rfl|(subst_vars;rfl))) (Y5 fl))) ?_)))))))
 rintro m F h ⟨k,ks,u,Yb,Zl,Zw,rfl,rfl,rfl⟩
 refine ZP (aq (We ((k:Int)<(s.kids.length:Int)) (fun Za=>?_) (fun Za=>?_)))
 ·refine ak (aq (ab 1 (ar ?_)))
  obtain ⟨x1,Z3⟩:=Zr s.kids k om
  have hks:=Us Z3
  exact Zm (Zg none (k:Int) 2 (U2 Z3)) (Z2 1 (iA [nl,.i 0] fun b3=>Zz 0 b3 (X3 x1) (ie (az (ZL 3 [0] (Zy [] (ih x1 ob ob) (iL [ZI (WO x1)] 1 2 fun v1=>ZQ 0 [(19,.sl [ZI (WO x1)] none)] (ip 4 (YE (ks++[WO x1])) (YE ks) [ZI (WO x1)] u none 2 (Th _) (Ty rfl) rfl (by simp<;>omega) (by simp [J6,UC]) fun v2=>Z0 (az (ZG k (Z0 (ZH ⟨k+1,(ks++[WO x1]),v2,ob,(by rw [Yx,Zl];rfl),(Z86 Z3 Zw),rfl,rfl,rfl⟩ (wk [3,3,0] (fr (ZJ k fl)))))))))))))))
 exact ax 0 (ar (TE 2 [(23,Xq ks)] [1] (Zy [] (Z53 s ks) (Zz 0 b2 [.i s.op,.i s.num,.i s.into,Z6 s.args,Xq ks] (ie (ZD (r3 [] [.agg [.i s.op,.i s.num,.i s.into,Z6 s.args,Xq ks]] [0] [(b2,b2)] ⟨rfl,rfl⟩ (Zc.agg (.cons (lr _) (.cons (lr _) (.cons (lr _) (.cons (lr _) (.cons (Zc.sl _ (Yp YE (Z85 om Zw))) .nil)))))))))))))
theorem Z4s (z:Nat) (b:Z5) (hz:b.sz<=z+1:=by exact ob) (hl:b.sz<=1000000000:=by exact ob) (ih:∀(b2:Z5),(b2.sz<=z)->(b2.sz<=1000000000)->Zi 55 [ZI b2] [] (Yg (ZI (WO b2)))):Zi 55 [ZI b] [] (Yg (ZI (WO b))):=by
 have hbz:=V7 b
 refine ZF 31 Tryz.func55 (ar (iA (X3 b) fun b1=>iA [nl,.i 0] fun b2=>ie (Zu 3 [1] (iA [nl,.i 0] fun b3=>?_))))
 refine Zz 0 b3 [nl,.i b.result] (ie (Yf 2 [2] (iw (V3 b.steps) (Z0 (ab 0 (BR 5 (Y0 (fun fz gz m F h=>∃(k:Nat) (xs:List Z4) (v:Value),(k<=b.steps.length)/\(xs.length<=k)/\(xs++Tn (b.steps.drop k)=Tn b.steps)/\F=sF [2,3,10,11] fz [(12,.i k)]/\h=[.obj b3 [YS xs v,.i b.result],Zh gz 2,.tail v 5]/\m=b.steps.length-k) _ _ _ ⟨0,[],(.slice none 0 0),ob,ob,ob,rfl,rfl,rfl⟩ (wk [1,1,0] (Y5 fl)) ?_)))))))
 rintro m F h ⟨k,xs,v,Yb,Zl,Zw,rfl,rfl,rfl⟩
 refine ZP (aq (We ((k:Int)<(b.steps.length:Int)) (fun Za=>?_) (fun Za=>?_)))
 ·refine ak (aq (ab 1 (ar ?_)))
  obtain ⟨x1,Z3⟩:=Zr b.steps k om
  have Xv:=Qf Z3
  refine Zm (Zg none (k:Int) 5 (Wc Z3)) (Z2 1 (iA [.i 0,.i 0,.i 0,nl,nl] fun b4=>Zz 0 b4 (Xm x1) (ie (Zu 2 [0] (Zy [] (F5 x1.op) (YG (!Yo x1.op) (p:=¬(Yo x1.op=true)) (Yn Iff.rfl) (fun Zf=>?_) (fun Zf=>?_)))))))
  ·exact Zu 1 [0] (Zy [] (Z4q z x1 (ih:=ih)) (Zz 0 b4 [.i x1.op,.i x1.num,.i x1.into,Z6 x1.args,Xq (Ue x1.kids)] (ie (Yc 1 (Zz 0 b4 [.i x1.op,.i x1.num,.i 0,Z6 x1.args,Xq (Ue x1.kids)] (ie (az (ZL 3 [1,0] (iL [YC (Z4.mk x1.op x1.num 0 x1.args (Ue x1.kids))] 1 5 fun v1=>ZQ 0 [(26,.sl [YC (Z4.mk x1.op x1.num 0 x1.args (Ue x1.kids))] none)] (ip 4 (Zv (xs++[Z4.mk x1.op x1.num 0 x1.args (Ue x1.kids)])) (Zv xs) [YC (Z4.mk x1.op x1.num 0 x1.args (Ue x1.kids))] v none 5 (Xc _) (Ty rfl) rfl (by simp<;>omega) (by simp [WC,Vc]) fun v2=>Z2 1 (Zz 3 b3 [YS (xs++[Z4.mk x1.op x1.num 0 x1.args (Ue x1.kids)]) v2,.i b.result] (ie (az (ZG k (Z0 (ZH ⟨k+1,(xs++[Z4.mk x1.op x1.num 0 x1.args (Ue x1.kids)]),v2,ob,(by simp;omega),(Z82 Z3 Zf Zw),rfl,rfl,rfl⟩ (wk [0,3,0] (ZJ k fl))))))))))))))))))
  exact ak (az (ZG k (Z0 (ZH ⟨k+1,xs,v,ob,ob,(Z84 Z3 (Wn.1 Zf) Zw),rfl,rfl,rfl⟩ (wk [1,1,1] (ZJ k fl))))))
 exact ax 0 (Zu 1 [0] (Zz 1 b2 [YS xs v,.i b.result] (ie (ZD (r3 [] [.agg [YS xs v,.i b.result]] [0] [(b2,b2)] ⟨rfl,rfl⟩ (Zc.agg (.cons (Zc.sl _ (Yp Zv (by rw [Z7z];exact Z81 om Zw))) (.cons (li (by rw [Z7y])) .nil))))))))
theorem Z4t (m:Nat):∀(b2:Z5),(b2.sz<=m)->(b2.sz<=1000000000)->Zi 55 [ZI b2] [] (Yg (ZI (WO b2))):=by
 induction m with
 | zero=>intro b h;have:=b.sz_pos;omega
 | succ m ih=>intro b h1 h2;exact Z4s m b h1 h2 ih
theorem Z4u (b:Z5) (hl:b.sz<=1000000000:=by exact ob):Zi 55 [ZI b] [] (Yg (ZI (WO b))):=Z4t b.sz b (X9 _) hl
theorem Z48 (rt:ZV) (b:Z5) (hl:b.sz<=1000000000:=by exact ob):Zi 54 [UK rt,ZI b] [] (Yg (ZI (WO b))):=by
 exact ZF 7 Tryz.func54 (ar (iA (Tm rt) fun b1=>iA (X3 b) fun b2=>iA [nl,.i 0] fun b3=>ie (Zu 1 [1] (Zy [] (Z4u b) (Zz 0 b3 (X3 (WO b)) (ie (ZD (r3 [] [ZI (WO b)] [0] [(b3,b3)] ⟨rfl,rfl⟩ (lr _)))))))))
theorem Z4p (n:Zq) (hn:Xe n:=by exact ob) (hz:Ua n:=by exact ob) (hpl:Uc n.routines=true:=by exact ob):Zi 53 [Yk n,.val (.func (.func 54) #[] #[])] [] (fun r h=>∃(v:Hd),r=.agg [Ya n.decls,.h v]/\h=[rK v 5 (Zb (Yy n.routines))]):=by
 have hzl:=hz.len
 refine ZF 40 Tryz.func53 (ar (iA (YJ n) fun b1=>iA [nl,nl] fun b2=>ie (Zu 2 [1] (Zy [] (Z4i n.decls (hd:=hn.decls)) (Z2 1 (iA [nl,nl] fun b3=>?_))))))
 refine Zz 0 b3 [Ya n.decls,nl] (ie (Yf 2 [2] (iw (Vl n.routines) (XN (PQ 0 b3 [Ya n.decls,nl] [Ya n.decls,.h hN] (.cons (lr _) (.cons (Zc.hd (v:=hN)) .nil))) (XN (FZ (k:=5)) (Z0 (ab 0 (Y0 (fun fz gz m F h=>∃(k:Nat) (v:Hd),(k<=n.routines.length)/\F=sF [1,4,5,13,14] fz [(15,.i k)]/\h=[.obj b3 [Ya n.decls,.h v],Zh gz 2,rK v 5 (Zb (Yy (n.routines.take k)))]/\m=n.routines.length-k) _ _ _ ⟨0,hN,ob,rfl,rfl,rfl⟩ (wk [1,1,0] (Y5 fl) (e:=(rc (rc (rr (ls:=[]) (by rw [List.take_zero];rfl) rz))))) ?_))))))))
 rintro m F h ⟨k,v,Yb,rfl,rfl,rfl⟩
 refine ZP (aq (We ((k:Int)<(n.routines.length:Int)) (fun Za=>?_) (fun Za=>?_)))
 ·refine ak (aq (ab 1 (ar ?_)))
  obtain ⟨x1,Z3⟩:=Zr n.routines k om
  have hrm:=Y1 Z3
  have hbz:=hz.body _ hrm
  have hpl2:=hz.params _ hrm
  have hll:=hz.lent _ hrm
  have hpe:=Od hpl Z3
  refine Zm (Zg none (k:Int) 5 (Wm Z3)) (Z2 1 (iA [nl,nl,.i 0,nl,.i 0] fun b4=>Zz 0 b4 (Tm x1) (ie (aE 20 (ZO 8 20 [0,1,2,3,5,6,8,9,10,11,12,13] [1,0,0,0,0,0] (Z8 4 (dc 4 [] [0,0,0,0,1] [b4,b4,b4,b4,b3] (CV x1.params) ?_)))))))
  rintro _ _ ⟨v1,rfl,rfl⟩
  refine Z8 7 (dc 7 [] [0,0,0,1] [b4,b4,b4,b3] (CV x1.lent) ?_)
  rintro _ _ ⟨v2,rfl,rfl⟩
  exact Z8 14 (Yq 14 [] [0,1] [b4,b3] (Z48 x1 x1.body) (Yr 4 5 [15] [(34,.agg [Z6 x1.params,Z6 x1.lent,.i x1.result,WE ((WO x1.body).steps),.i ((WO x1.body).result)])] (Z8 16 (dL 16 [1] [b3] (Yy [ZV.mk x1.params x1.lent x1.result (Z5.mk ((WO x1.body).steps) ((WO x1.body).result))]) 1 5 fun v3=>Yr 3 3 [] [(35,Tz [ZV.mk x1.params x1.lent x1.result (Z5.mk ((WO x1.body).steps) ((WO x1.body).result))])] (Z8 17 (Et 17 6 k [] [] v 5 (Zb (Yy (n.routines.take k))) (Yy [ZV.mk x1.params x1.lent x1.result (Z5.mk ((WO x1.body).steps) ((WO x1.body).result))]) none (by rw [C9,Wr,Vn om]) (U3 _) (Jb _) (List.cons_ne_nil _ _) (by simp<;>omega) fun v4=>Zk 1 2 [18] (Z8 19 (YM 19 5 [] [] b3 [Ya n.decls,.h v4] (de (az (ZG k (Z0 (ZH ⟨k+1,v4,ob,rfl,rfl,rfl⟩ (wk [0,5,0] (ZJ k fl) (e:=(rc (rc (rr (ls:=Zb (Yy (n.routines.take k))++Zb (Yy [ZV.mk x1.params x1.lent x1.result (Z5.mk ((WO x1.body).steps) ((WO x1.body).result))])) (by rw [Ww Z3,JK,Vv];show _++Zb [UK ⟨x1.params,x1.lent,x1.result,.mk (WO x1.body).steps (WO x1.body).result⟩]=_;rw [hpe];rfl) rz))))))))))))))))))
 exact ax 0 (Zu 1 [0] (Zz 1 b2 [Ya n.decls,.h v] (ie (ZD (r3 [2] [.agg [Ya n.decls,.h v]] [0] [(b2,b2)] ⟨v,rfl,rfl⟩ (lr _) (eq:=(rr (ls:=Zb (Yy (n.routines.take k))) (by rw [Wx om]) rz)))))))
theorem Z49 (n:Zq) (hz:Ua n) (hr:∀r∈n.routines,r.body.rng) (hP:X5 n=true):Zi 16 [Yk n] [] (fun r h=>∃(g:Nat) (c:Nat),r=.tup [.agg [Ya n.decls,.ms g 0 n.routines.length c],.b true]/\h=[.row (.slice (some ⟨g,0,none⟩) n.routines.length c) 5 (Zb (U8 n.routines n.routines.length))]):=by
 have hV:V8 n=true:=by rw [X5,Xl] at hP;exact hP.1
 have hpl:Uc n.routines=true:=by rw [X5,Xl] at hP;exact hP.2
 have hpos:=Zd6 hV
 obtain ⟨hn,hvt⟩:=IP hz hV
 have hzl:=hz.len
 refine ZF 25 Tryz.func16 (ar (iA (YJ n) fun b1=>iA [nl,nl] fun b2=>Z0 (Yf 1 [1] (Zy [] (HB n (hr:=hr)) (YG (!X5 n) (p:=¬(X5 n=true)) (Yn Iff.rfl) (fun Za=>?_) (fun Za=>?_))))))
 ·exact absurd hP Za
 refine ak (Zu 1 [1] (ic [] (Z4p n) ?_))
 rintro _ _ ⟨v1,rfl,rfl⟩
 refine Dq 0 n.routines.length (v:=v1) (C9 _) om (fun g1 c1 he1=>?_)
 subst he1
 refine iA [nl,nl] fun b3=>?_
 refine Zz 0 b3 [Ya n.decls,.ms g1 0 n.routines.length c1] (ie (Yf 2 [0] (io (.i n.routines.length) (.i n.routines.length) (lr _) (Z0 (ab 0 (Y0 (fun fz gz m F h=>∃(k:Nat),(k<=n.routines.length)/\F=sF [2,4,14] fz [(15,.i k)]/\h=[Zh gz 0,Zh gz 2,.row (.slice (some ⟨g1,0,none⟩) n.routines.length c1) 5 (Zb (U8 n.routines k))]/\m=n.routines.length-k) _ _ _ ⟨0,ob,rfl,rfl,rfl⟩ (wk [0,1,0] (Y5 fl) (e:=(rc (rc (rr (ls:=Zb (Yy n.routines)) (by rw [Zco]) rz))))) ?_))))))
 rintro m F h ⟨k,Yb,rfl,rfl,rfl⟩
 refine ZP (aq (We ((k:Int)<(n.routines.length:Int)) (fun Zf=>?_) (fun Zf=>?_)))
 ·exact ak (aq (ab 1 (ZP (az (ZL 3 [0] (Zm (XV g1 n.routines.length c1 k 5 (k:Int)) (Z2 1 (Bs 2 g1 n.routines.length c1 5 (k*5+1) [nl] (Zb (U8 n.routines k)) (Zb (U8 n.routines (k+1))) (by rw [Zck];simp only [YV,Xn];omega) (Zcn (rs:=n.routines) (k:=k) om) (ie (az (ZG k (Z0 (ZH ⟨k+1,ob,rfl,rfl,rfl⟩ (wk [1,1,0] (ZJ k fl)))))))))))))))
 exact ax 0 (Zu 1 [0] (Zz 1 b2 [Ya n.decls,.ms g1 0 n.routines.length c1] (Zt (r3 [2] [.agg [Ya n.decls,.ms g1 0 n.routines.length c1],.b true] [0] [(b2,b2)] ⟨g1,c1,rfl,rfl⟩ (lr _) (eq:=(rr (ls:=Zb (U8 n.routines k)) (by rw [Zcj om]) rz))))))
theorem Z4a (n:Zq) (hz:Ua n) (hr:∀r∈n.routines,r.body.rng) (hP:¬X5 n=true):Zi 16 [Yk n] [] (Yg (.tup [Yk (Zq.mk [] []),.b false])):=by
 refine ZF 25 Tryz.func16 (ar (iA (YJ n) fun b1=>iA [nl,nl] fun b2=>Z0 (Yf 1 [1] (Zy [] (HB n (hr:=hr)) (YG (!X5 n) (p:=¬(X5 n=true)) (Yn Iff.rfl) (fun Za=>?_) (fun Za=>?_))))))
 ·exact Yc 1 (Zz 0 b2 [nl,nl] (Zt (r3 [] [.agg [nl,nl],.b false] [0] [(b2,b2)] ⟨rfl,rfl⟩ (Zc.tup (.cons (Zc.agg (.cons (Zc.sl _ rfl) (.cons (Zc.sl _ rfl) .nil))) (.cons (lr _) .nil))))))
 exact absurd hP Za
theorem Z47 (n:Zq) (hz:Ua n:=by exact ob) (hr:∀r∈n.routines,r.body.rng):Zi 16 [Yk n] [] (Yg (.tup [Yk (Xk n),.b (X5 n)])):=by
 by_cases hP:X5 n=true
 ·exact (Wg.frzNT (ds:=n.decls) (rs:=n.routines.map Uj) (hs:=[]) (b:=true) (PU n.routines n.routines.length) (Zcl n.routines) (Z49 n hz hr hP)).mono fun r h ⟨e1,e2⟩=>⟨by rw [e1,A9 hP,hP];rfl,e2⟩
 ·exact (Z4a n hz hr hP).mono fun r h ⟨e1,e2⟩=>⟨by rw [e1,E1 hP,To.2 hP],e2⟩
theorem Z1l (rd:Nat) (bs:LI) (p:Nat) (ZE:∀z∈bs,0<=z/\z<=255) (hp:p+147500000<=1000000000:=by exact ob):Zi 51 [.p rd 0] [Yt rd bs p] (fun r h=>∃(n2:Zq) (p2:Nat),r=Yk n2/\h=[Yt rd bs p2]/\ZS n2 7330632 11/\p<=p2/\p2<=p+147500000):=by
 refine ZF 12 Tryz.func51 (ar (iA [nl,nl] fun b1=>ie (YO 1 (ic [1] (XW rd bs p 12 (ZE:=ob)) ?_))))
 rintro _ _ ⟨k1,rfl,rfl,Y4⟩
 refine YG (k1==0) Zs (fun Za=>?_) (fun Za=>?_)
 ·refine Yc 1 (ic [0] (Z1k rd bs (p+1) (ZE:=ob)) ?_)
  rintro _ _ ⟨n21,p21,rfl,rfl,Ym⟩
  have haf:=Ym
  exact Zz 1 b1 (YJ n21) (ie (ZD (r3 [1] [Yk n21] [0] [(b1,b1)] ⟨n21,p21,rfl,rfl,(by first|exact ⟨haf.1,by omega,by omega⟩|exact ⟨hsf.1,by omega,by omega⟩)⟩ (lr _))))
 refine ak (Yc 2 (ic [0] (Hp rd bs (p+1) (ZE:=ob)) ?_))
 rintro _ _ ⟨n1,p22,rfl,rfl,YQ⟩
 have hpf:=((FO.zn YQ.1).le (show 181<=7330630 by omega)).zs
 refine ic [0] (Hq rd bs p22 n1 20 7330630 10 (ZE:=ob) (hzn:=hpf)) ?_
 rintro _ _ ⟨n22,p23,rfl,rfl,YZ⟩
 have hsf:=YZ
 exact Zz 1 b1 (YJ n22) (ie (ZD (r3 [1] [Yk n22] [0] [(b1,b1)] ⟨n22,p23,rfl,rfl,(by first|exact ⟨haf.1,by omega,by omega⟩|exact ⟨hsf.1,by omega,by omega⟩)⟩ (lr _))))
theorem Z1i (code:LI) (hcl:code.length<=1048576:=by exact ob) (hcb:∀z∈code,0<=z/\z<=255):Zi 15 [VV code] [] (fun r h=>∃(n2:Zq),r=Yk n2/\h=[]/\ZS n2 7330632 11):=by
 refine ZF 6 Tryz.func15 (ar (iA [nl,nl] fun b1=>ie (Yc 1 (ic [] (Z2t code (hc:=hcb)) ?_))))
 rintro _ _ ⟨rd1,bs1,rfl,rfl,Y4⟩
 have hnr:=Y4
 refine ic [0] (Z1l rd1 bs1 0 (ZE:=hnr)) ?_
 rintro _ _ ⟨n21,p21,rfl,rfl,Ym⟩
 have hap:=Ym
 exact Zz 1 b1 (YJ n21) (ie (ZD (r3 [] [Yk n21] [0] [(b1,b1)] ⟨n21,rfl,rfl,hap.1⟩ (lr _))))
theorem Z5s (code:LI) (hcb:∀z∈code,0<=z/\z<=255):Zi 3 [VV code] [] (Yg (.b true)):=by
 refine ZF 82 Tryz.func3 (ZP (YO 1 (iw (Kb code) (ZZ ((code.length:Int)>1048576) (fun Za=>?_) (fun Za=>?_)))))
 ·exact ar (Zt (IJ))
 have hcl:code.length<=1048576:=by omega
 refine ak (Yc 1 (ic [] (Z1i code (hcl:=hcl) (hcb:=hcb)) ?_))
 rintro _ _ ⟨n21,rfl,rfl,Y4⟩
 have hzs:=Y4
 have hzn:=hzs.sz om om
 have huz:=Zcr hzn
 have hln:=hzs.len
 have hrn:∀r∈n21.routines,r.body.rng:=fun r hr=>(hzs.rt r hr).2.2.2
 have hur:=Zcq hrn
 refine iA [nl,nl] fun b1=>Zz 0 b1 (YJ n21) (ie (Zu 1 [0] (Zy [] (Z47 n21 (hz:=hzn) (hr:=hrn)) (Z2 3 (iA [nl,nl] fun b2=>Zz 0 b2 (YJ (Xk n21)) (Z0 (Zu 1 [1] (Zy [] (Zae n21) (Z2 3 (iA [nl,nl] fun b3=>Zz 0 b3 (YJ (Xk n21)) (Z0 (Yf 2 [1,0] (Zy [] (HO (Xk n21) (Xk n21) (hn:=huz) (ht:=(by first|exact huz|exact hzn))) (XG 9 [3,4,5,6,7] [(33,.b ((!(decide ((Xk n21)=(Xk n21))))||((X5 n21) != (X5 n21))))] (fun gz=>gz) ?_ (fun hj1=>?_)))))))))))))))
 ·refine Xi [3,4,5,6,7] [(37,.b (((!(decide ((Xk n21)=(Xk n21))))||((X5 n21) != (X5 n21)))||(!(X5 n21))))] (fun gz=>gz) ?_ ?_
  ·refine Z2 1 (ib (b:=((!(decide ((Xk n21)=(Xk n21))))||((X5 n21) != (X5 n21)))) 34 (fun Zd=>?_) (fun Zd=>?_))
   ·have Ym:(¬((Xk n21)=(Xk n21)))∨((X5 n21)≠(X5 n21)):=((Yh (Yn dq) Y6)).1 Zd
    exact Z0 (ZM 3 (fc (x:=.b true) (lb (by rw [Zd];rfl)) fl))
   have YQ:¬((¬((Xk n21)=(Xk n21)))∨((X5 n21)≠(X5 n21))):=Yd (Yh (Yn dq) Y6) Zd
   exact Z0 (ZM 3 (fc (x:=.b (!(X5 n21))) (lb (by rw [Zd];rfl)) fl))
  refine ac (((!(decide ((Xk n21)=(Xk n21))))||((X5 n21) != (X5 n21)))||(!(X5 n21))) (p:=((¬((Xk n21)=(Xk n21)))∨((X5 n21)≠(X5 n21)))∨(¬((X5 n21)=true))) (Yh (Yh (Yn dq) Y6) (Yn Iff.rfl)) (fun Zf=>?_) (fun Zf=>?_)
  ·refine Zu 2 [1,0] (Zy [] (HO (Xk n21) (Xk n21) (hn:=huz) (ht:=(by first|exact huz|exact hzn))) (XG 8 [] [(45,.b ((decide ((Xk n21)=(Xk n21)))&&((X5 n21)==(X5 n21))))] (fun gz=>gz) ?_ (fun hj2=>?_)))
   ·exact Zt (ZU (.b ((decide ((Xk n21)=(Xk n21)))&&((X5 n21)==(X5 n21)))) (lb (by first|(simp;done)|(rw [G0 hP,Wx om,FP hP];simp)|(exfalso;omega))))
   refine Z2 1 (ib (b:=(decide ((Xk n21)=(Xk n21)))) 41 (fun ZC=>?_) (fun ZC=>?_))
   ·have YZ:(Xk n21)=(Xk n21):=(dq).1 ZC
    exact Z2 2 (Zm (N6 (X5 n21) (X5 n21)) (Z2 1 (Yv (ZM 3 (fc (x:=.b ((X5 n21)==(X5 n21))) (lb (by rw [ZC];rfl)) fl)) hj2)))
   have Xg:¬((Xk n21)=(Xk n21)):=Yd dq ZC
   exact Z2 4 (Yv (ZM 3 (fc (x:=.b false) (lb (by rw [ZC];rfl)) fl)) hj2)
  have hP:X5 n21=true:=Gc fun z=>Zf (.inr z)
  have hul:=Zcp hP
  refine ak (ZP (Y7 (ab 0 (Y0 (fun fz gz m F h=>∃(k:Nat),(k<=(Xk n21).routines.length)/\F=sF [3,4] fz [(8,.b (Uh (n21.routines.take k))),(9,.i k)]/\h=[Zh gz 1,Zh gz 2]/\m=(Xk n21).routines.length-k) _ _ _ ⟨0,ob,rfl,rfl,rfl⟩ (wk [1,1] (fc (x:=.b false) (lb rfl) (Y5 fl))) ?_))))
  rintro m F h ⟨k,Yb,rfl,rfl,rfl⟩
  refine Yf 3 [0] (io (.i ((((Xk n21).routines).length:Nat):Int)) (.i (((Yy ((Xk n21).routines)).length:Nat):Int)) (li (by rw [Vl])) (ZZ ((k:Int)<((((Xk n21).routines).length:Nat):Int)) (fun ZA=>?_) (fun ZA=>?_)))
  ·refine ak (aq (ab 1 (Yc 2 (ib (b:=(Uh (n21.routines.take k))) 54 (fun YB=>?_) (fun YB=>?_)))))
   ·have XX:(Uh (n21.routines.take k))=true:=(Iff.rfl).1 YB
    refine Z0 (Zu 3 [0] ?_)
    obtain ⟨x1,Z3⟩:=Zr ((Xk n21).routines) k om
    have hle:=PV hP Z3
    have hle0:(x1).lent.length=0:=by rw [hle];rfl
    refine Zm (Zg none (k:Int) 5 (Wm Z3)) (Z2 2 (iw (Yi x1.lent) (ZZ ((x1.lent.length:Int)>0) (fun Yl=>?_) (fun Yl=>?_))))
    ·exact ar (Zt (ZU (.b false) (lb (by first|(simp;done)|(rw [G0 hP,Wx om,FP hP];simp)|(exfalso;omega)))))
    exact ak (az (Z2 1 (ZG k (Z0 (ZH ⟨k+1,ob,rfl,rfl,rfl⟩ (wk [0,0] (fc (x:=.b true) (lb (by obtain ⟨rx,hrx⟩:=Zr n21.routines k om;rw [Pa hrx];simp_all)) (ZJ k fl))))))))
   have Wu:¬((Uh (n21.routines.take k))=true):=Yd Iff.rfl YB
   refine ZL 3 [1] ?_
   obtain ⟨x2,Zo⟩:=Zr n21.routines k om
   refine Zm (Zg none (k:Int) 5 (Wm Zo)) (Z2 2 (iw (Yi x2.lent) (Z0 (Zu 3 [0] ?_))))
   obtain ⟨x3,YP⟩:=Zr ((Xk n21).routines) k om
   have hle:=PV hP YP
   have hle0:(x3).lent.length=0:=by rw [hle];rfl
   refine Zm (Zg none (k:Int) 5 (Wm YP)) (Z2 2 (iw (Yi x3.lent) (ZZ ((x3.lent.length:Int)>0) (fun Xd=>?_) (fun Xd=>?_))))
   ·exact ar (Zt (ZU (.b false) (lb (by first|(simp;done)|(rw [G0 hP,Wx om,FP hP];simp)|(exfalso;omega)))))
   exact ak (az (Z2 1 (ZG k (Z0 (ZH ⟨k+1,ob,rfl,rfl,rfl⟩ (wk [0,0] (fc (x:=.b (decide ((x2.lent.length:Int)>0))) (lb (by obtain ⟨rx,hrx⟩:=Zr n21.routines k om;rw [Pa hrx];simp_all)) (ZJ k fl))))))))
  refine ax 0 (Zu 1 [0] (Zy [] (HB (Xk n21) (hz:=huz) (hr:=hur)) (XG 10 [] [(81,.b (X5 (Xk n21)&&((Uh (n21.routines.take k))==(!(decide ((Xk n21)=n21))))))] (fun gz=>gz) ?_ (fun hj3=>?_))))
  ·exact Zt (ZU (.b (X5 (Xk n21)&&((Uh (n21.routines.take k))==(!(decide ((Xk n21)=n21)))))) (lb (by first|(simp;done)|(rw [G0 hP,Wx om,FP hP];simp)|(exfalso;omega))))
  refine Z2 1 (ib (b:=X5 (Xk n21)) 74 (fun X2=>?_) (fun X2=>?_))
  ·have WZ:X5 (Xk n21)=true:=(Iff.rfl).1 X2
   exact ZL 3 [0,1] (Zy [] (HO (Xk n21) n21 (hn:=huz) (ht:=(by first|exact huz|exact hzn))) (Z2 1 (Zm (N6 (Uh (n21.routines.take k)) (!(decide ((Xk n21)=n21)))) (Z2 1 (Yv (wk [0,0] (fc (x:=.b ((Uh (n21.routines.take k))==(!(decide ((Xk n21)=n21))))) (lb (by rw [X2];rfl)) fl)) hj3)))))
  have Vs:¬(X5 (Xk n21)=true):=Yd Iff.rfl X2
  exact Z2 7 (Yv (wk [0,0] (fc (x:=.b false) (lb (by rw [X2];rfl)) fl)) hj3)
 refine Z2 2 (ib (b:=(!(decide ((Xk n21)=(Xk n21))))) 29 (fun W6=>?_) (fun W6=>?_))
 ·have UT:¬((Xk n21)=(Xk n21)):=((Yn dq)).1 W6
  exact Z2 4 (Yv (ZM 3 (fc (x:=.b true) (lb (by rw [W6];rfl)) fl)) hj1)
 have UU:¬(¬((Xk n21)=(Xk n21))):=Yd (Yn dq) W6
 exact Z2 2 (Zm (Z5i (X5 n21) (X5 n21)) (Z2 1 (Yv (ZM 3 (fc (x:=.b ((X5 n21) != (X5 n21))) (lb (by rw [W6];rfl)) fl)) hj1)))
end Go.Abs
section
namespace Go.Proofs.YtjmahledcmocoaaGreat.fnUnlend
open Go.ChangeShapes Go.WideShapes Go.ChangeAt Go.RowKit Go.Abs
theorem own:ownKnob Tryz.prog.godebug=none:=by kernel_rfl
theorem kids:Kids Tryz.prog (·<Tryz.prog.types.size):=kids_rows kr kr
theorem Z1h:∀t e,t<Tryz.prog.types.size->Tryz.prog.underlying t=some (.slice e)->0<Tryz.prog.cellsOf e:=slices_full_of Tryz.prog kr
theorem OX {w w':World} {G G':Ye} {h':List Res} (hx:YY w G [] w' G' h'):∀b,b<w.heap.size->w'.heap[b]? = w.heap[b]?:=
 fun b hb=>(hx.same b hb).eq fun o ⟨r,hr,_⟩=>by cases hr
theorem S6 {w w':World} {b o:Nat} (h:w'.heap[b]? = w.heap[b]?):w'.cell? ⟨b,o,none⟩=w.cell? ⟨b,o,none⟩:=by simp [World.cell?,h]
theorem Z6h {t:Nat} (h:Nat.blt t Tryz.prog.types.size=true):t<Tryz.prog.types.size:=Nat.le_of_ble_eq_true h
set_option maxRecDepth 100000 in
theorem St (H:Type) (enc:TypeId × Value->H) (W:World) (base:Nat) (args:Array Value) (ds gs:List (DataW H)) (before:List MemPlace) (hval:∀(j:Nat) t v,Tryz.f3.params[j]? = some t->args[j]? = some v->Value.okWide Tryz.prog W .any base t v)
  (hW:DataW.Whole enc Tryz.prog Tryz.f3.params.toList Rows.fnUnlendSpec.vars false W args.toList ds gs before) :
  Calls Tryz.prog 3 args W fun e W'=>∃v,e=.returned v/\Rows.fnUnlendSpec.post enc Tryz.prog Tryz.f3 false true false false W args v W':=by
 have hW':=hW
 obtain ⟨p,q,hA0,hV,rfl,hfz,hnd⟩:=hW
 have hA:DataW.TrodAll enc Tryz.prog W 0 (fun _=>true) true Tryz.f3.params.toList args.toList ds p:=hA0
 rw [Tryz.params3] at hA
 obtain ⟨v0,vs0,d0,ds0,p0,q0,hargs,rfl,rfl,h0,r0⟩:=trodAll_cons hA
 obtain ⟨rfl,rfl,rfl⟩:=trodAll_nil r0
 obtain rfl:args=#[v0]:=by cases args;simp_all
 obtain ⟨rfl,rfl⟩:=trodVars_none hV
 obtain ⟨fuel,htr⟩:=h0
 obtain ⟨qa,ql,qc,rfl⟩:=okWide_slice Tryz.underlying22 (hval 0 22 v0 kr rfl)
 obtain ⟨v1,code,hv1,hrv,hcb⟩:=Z8e htr
 have hv1:[Value.slice qa ql qc]=[v1]:=hv1
 cases hv1
 have hh:YA W (GA W) []:=⟨(fun r hr=>by cases hr),List.Pairwise.nil,(fun r hr=>by cases hr),fun b o hg=>hg⟩
 refine (Z5s code hcb W (GA W) [.slice qa ql qc] (.cons hrv .nil) hh).mono ?_
 rintro e W' ⟨v,r,h',G',rfl,⟨rfl,rfl⟩,hv,hh',hx⟩
 have hvb:=hv.val_inv
 subst hvb
 refine ⟨_,rfl,[d0],[],p0++[]++[],[],p0++[],[],hW',?_,?_,rfl,?_,(fun h=>by cases h)⟩
 ·exact trodAll_cons_mk (shut_bool Tryz.underlying4 _) trodAll_mk0
 ·have EX:∀b,b<W.heap.size->W'.heap[b]? = W.heap[b]?:=OX hx
  have hlt:=hW'.lt
  have hcar:DataW.TrodAll enc Tryz.prog W' 0 (fun _=>true) true Tryz.f3.params.toList [.slice qa ql qc] [d0] (p0++[]):=by
   rw [Tryz.params3]
   refine ⟨p0,[],⟨fuel,DataW.trod_carry fuel 22 _ _ htr fun y hy=>?_⟩,rfl,rfl⟩
   have hyl:=hlt y (by simpa using hy)
   cases y with
   | cell b o=>exact S6 (EX b hyl)
   | map b=>exact EX b hyl
  exact DataW.TrodAll.respare kids Z1h (by rw [Tryz.params3];intro t ht;rw [List.mem_singleton.1 ht];exact Z6h kr) hcar (fun y hy=>by have:=hlt y (by simpa using hy);simpa using this)
 ·refine ⟨hx.os,hx.output,fun i hi=>?_⟩
  rw [OX hx i hi]
  cases W.heap[i]? with
  | none=>rfl
  | some o=>cases o<;>first | rfl | exact ⟨rfl,rfl,rfl,fun _ _=>rfl⟩ | exact .inr ⟨rfl,rfl⟩
set_option maxRecDepth 100000 in
theorem Z6d (os:Os) (started:os.Started) (H:Type) (enc:TypeId × Value->H) (F:Stop.Interp) :
  ReturnsInHanded {} Tryz.checked os 3 .any ((Rows.OpenSpec.upto Rows.fnUnlendSpec).pre6 enc Tryz.prog Tryz.f3 Rows.fnUnlendUptoRow.domain false) (((Rows.OpenSpec.upto Rows.fnUnlendSpec).at F).post enc Tryz.prog Tryz.f3 false true false false):=by
 refine returnsInHanded_of_cond (C:=Tryz.checked) (s:=Rows.OpenSpec.upto Rows.fnUnlendSpec) (k:=Rows.uptoSmall) rfl own started kr Tryz.func3
  (OpenSpec.witness (enc:=enc) (C:=Tryz.checked) (s:=Rows.OpenSpec.upto Rows.fnUnlendSpec) (k:=Rows.uptoSmall) rfl false ⟨#[],#[.slice none 0 0],[]⟩ 8 kr kr kr
   (x:=([.nil],[],[])) kr rfl kr) ?_
 intro W base args ds gs before hval hW _ hk _
 exact St H enc W base args ds gs before hval hW
theorem Rx {a b:Bool} (ha:a=true) (hb:b=true):(a&&b)=true:=by rw [ha,hb];rfl
set_option maxHeartbeats 4000000 in
theorem Sa:joinedFacts Tryz.pinned.checked.prog 3 Tryz.f3 (Rows.OpenSpec.upto Rows.fnUnlendSpec).bare Rows.fnUnlendUptoRow=true:=by
 unfold joinedFacts
 iterate 31 refine Rx ?_ (by as_aux_lemma=>kernel_rfl)
 as_aux_lemma=>kernel_rfl
theorem Z7l:Rows.fnUnlendUptoRow.holds Tryz.pinned (Rows.OpenSpec.upto Rows.fnUnlendSpec):=
 OpenClaim.holds_of_cond 3 Tryz.f3 rfl rfl rfl rfl rfl rfl rfl ⟨rfl,rfl,rfl,rfl,rfl⟩ rfl rfl rfl rfl rfl (by as_aux_lemma=>kernel_rfl) Tryz.func3 Sa
  (of_decide_eq_true kr) (by unfold Func.isWrapper;first|(rw [if_pos (by decide +kernel)];kernel_rfl)|(rw [if_neg (by decide +kernel)];exact ⟨rfl,rfl⟩))
  (fun os started H enc _ F=>Z6d os started H enc F)
theorem proved:Rows.FnUnlendUptoSaid:=
 Z7l
#print axioms proved
end Go.Proofs.YtjmahledcmocoaaGreat.fnUnlend
end
