/-
  A part of the proofs of several laws (see the last file): no condition.
-/
import Derived.Test.YtamhpednblociaaGreatYcD
set_option linter.all false
set_option linter.unusedVariables false
set_option linter.unusedSimpArgs false
set_option linter.unusedSectionVars false
set_option maxRecDepth 10000
set_option maxHeartbeats 4000000
namespace Go.Abs
open Go.Proofs
theorem Zee (b:Z7) (hz:b.sz<=1000000000:=by exact ob):Zo 201 [Yn b] [] (Ym (.i (((XL b.steps):Nat):Int))):=by
 have hbz:=Un b
 refine ZE 20 Tryz.func201 (ar (iA (XV b) fun b1=>?_))
 refine Z1 (Y1 (aq (ab 0 (Y5 (fun fz gz m F h=>∃(k:Nat),(k<=b.steps.length)/\(k+XL (b.steps.drop k)=XL b.steps)/\F=sF [1] fz [(3,.i k)]/\h=gz/\m=b.steps.length-k) _ _ _ ⟨0,ob,(by simp),rfl,rfl,rfl⟩ (wk [0] (Ye fl)) ?_))))
 rintro m F h ⟨k,Yl,Zj,rfl,rfl,rfl⟩
 refine Yr 3 [0] (iw (Ut b.steps) (Z0 2 (ib (b:=(decide ((k:Int)<(b.steps.length:Int)))) 9 (fun Za=>?_) (fun Za=>?_))))
 ·have Y3:(k:Int)<(b.steps.length:Int):=(dq).1 Za
  refine Zu 3 [0] ?_
  obtain ⟨x1,Z4⟩:=Zv b.steps k om
  refine Zq (Zk none (k:Int) 5 (V2 Z4)) (Z0 1 (Zt [] (Sp x1) (Yz ((x1.op==14)||(x1.op==15)) (p:=(x1.op=14)∨(x1.op=15)) (ZB Zb Zb) (fun Z9=>?_) (fun Z9=>?_))))
  ·exact ak (ab 1 (az (Z0 1 (ZK k (Z1 (ZM ⟨k+1,ob,(Zcs Z4 Z9 Zj),rfl,rfl,rfl⟩ (wk [0] (ZW k fl))))))))
  exact ax 0 (ar (Zm (ZP (.i k) (li (by have:=Zct Z4 Z9 Zj;omega)))))
 have Yq:¬((k:Int)<(b.steps.length:Int)):=ZV dq Za
 exact Z1 (WW (ax 0 (ar (Zm (ZP (.i k) (li (by have:=Zcr om Zj;omega)))))))
theorem Sj (b:Z7) (mm:Nat) (op:Int) (hm:mm<=b.steps.length:=by exact ob) (ha:∀s∈b.steps.take mm,s.op=op->∃a,s.args=[a]) (hz:b.sz<=1000000000:=by exact ob):Zo 202 [Yn b,.i mm,.i op] [] (fun r h=>∃(v:Value),r=ZG (Wn op (b.steps.take mm)) v/\h=[.tail v 1]):=by
 have hbz:=Un b
 refine ZE 35 Tryz.func202 (ar (iA (XV b) fun b1=>Z1 (ar (iL (Z6 []) 0 1 fun v1=>?_))))
 refine Z1 (Y6 (ab 0 (Y5 (fun fz gz m F h=>∃(k:Nat) (acc:LI) (v:Value),(k<=mm)/\(acc.length<=k)/\(acc++Wn op ((b.steps.take mm).drop k)=Wn op (b.steps.take mm))/\F=sF [1,2,3] fz [(7,ZG acc v),(8,.i k)]/\h=[Zi gz 1,.tail v 1]/\m=mm-k) _ _ _ ⟨0,[],v1,ob,ob,(by simp),rfl,rfl,rfl⟩ (wk [1,0] (fr (Ye fl))) ?_)))
 rintro m F h ⟨k,acc,v,Yl,Zj,ZD,rfl,rfl,rfl⟩
 refine Xa (Y0 ((k:Int)<(mm:Int)) (fun Z9=>?_) (fun Z9=>?_))
 ·refine ak (aq (ab 1 (Zp 3 [0] ?_)))
  obtain ⟨x1,Z4⟩:=Zv b.steps k om
  have hxt:(b.steps.take mm)[k]? = some x1:=by rw [List.getElem?_take_of_lt om];exact Z4
  have hxm:=Y4 hxt
  refine Zq (Zk none (k:Int) 5 (V2 Z4)) (Yz (x1.op==op) Zb (fun Zh=>?_) (fun Zh=>?_))
  ·refine az (Zu 4 [0] (Zq (Zk none (k:Int) 5 (V2 Z4)) (Z0 2 ?_)))
   obtain ⟨x2,Zy⟩:=Zv x1.args 0 (by obtain ⟨a,ha2⟩:=ha x1 hxm Zh;rw [ha2];simp)
   have hg0:=K6 Zy
   exact Zq (Zk none 0 1 (Y7 Zy)) (Z0 1 (iL (Z6 [x2]) 1 1 fun v2=>ZU 0 [(32,Z3 [x2])] (ip 2 (Z6 (acc++[x2])) (Z6 acc) (Z6 [x2]) v none 1 (YE _) (YE _) (W2 _) (by simp<;>omega) (by simp [W6,Z6]) fun v3=>Z1 (az (Z0 1 (ZK k (Z1 (ZM ⟨k+1,(acc++[x2]),v3,ob,(by simp;omega),(by have h:=Z1n hxt Zh ZD;rw [hg0] at h;exact h),rfl,rfl,rfl⟩ (wk [2,0] (fr (ZW k fl)))))))))))
  exact ak (az (Z0 1 (ZK k (Z1 (ZM ⟨k+1,acc,v,ob,ob,(Z1m hxt Zh ZD),rfl,rfl,rfl⟩ (wk [0,0] (fr (ZW k fl))))))))
 exact ax 0 (ar (Zm (r2 [1] [ZG acc v] ⟨v,rfl,rfl⟩ (Zc.slh _ (Yj Z6 (Z1l (by rw [Wh];omega) ZD))))))
theorem SB (xs:LI) (y:Int) (hl:xs.length<=1000000000:=by exact ob):Zo 203 [Z3 xs,.i y] [] (fun r h=>∃(v:Value),r=ZG (xs.erase y) v/\h=[.tail v 1]):=by
 refine ZE 33 Tryz.func203 (Y1 (ar (iL (Z6 []) 0 1 fun v1=>?_)))
 refine Z1 (Y1 (Y6 (ab 0 (Y5 (fun fz gz m F h=>∃(k:Nat) (acc:LI) (d:Bool) (v:Value),(k<=xs.length)/\(acc.length<=k)/\(acc++(if d=true then xs.drop k else (xs.drop k).erase y)=xs.erase y)/\F=sF [0,1] fz [(5,ZG acc v),(6,.b d),(7,.i k)]/\h=[.tail v 1]/\m=xs.length-k) _ _ _ ⟨0,[],false,v1,ob,ob,(by simp),rfl,rfl,rfl⟩ (wk [0] (fw (Ye fl))) ?_))))
 rintro m F h ⟨k,acc,d,v,Yl,Zj,ZD,rfl,rfl,rfl⟩
 refine YO 2 (iw (Yc xs) (Y0 ((k:Int)<(xs.length:Int)) (fun Z9=>?_) (fun Z9=>?_)))
 ·refine ak (aq (ab 1 (Ya 2 ?_)))
  obtain ⟨x1,Z4⟩:=Zv xs k om
  refine Zq (Zk none (k:Int) 1 (Y7 Z4)) (Xn [0,1,5,6,7] [(24,.b ((x1==y)&&(!d)))] (fun gz=>gz) ?_ ?_)
  ·refine Z0 4 (ib (b:=(x1==y)) 21 (fun Za=>?_) (fun Za=>?_))
   ·exact Z1 (wk [0] (Zf (!d) Za fl))
   exact Z1 (wk [0] (Zf false Za fl))
  refine At (fun fz gz F h=>∃(w:Value),F=sF [0,1,7] fz [(5,ZG (if (x1=y)/\(¬(d=true)) then acc else (acc++[x1])) w),(6,.b (((x1==y)&&(!d))||d))]/\h=[.tail w 1]) (fun _ _=>rfl) ?_ ?_
  ·refine ac ((x1==y)&&(!d)) (p:=(x1=y)/\(¬(d=true))) (Y2 Zb (Yg Iff.rfl)) (fun Zh=>?_) (fun Zh=>?_)
   ·exact Vq (ZH ⟨v,rfl,rfl⟩ (wk [0] (fc (x:=ZG acc v) (Zc.slh _ (Yj Z6 (by first|rfl|(rw [Zl Zh])|(rw [Zd Zh])|(simp [Zh];done)|(rw [Yb];simp [Zh];done)|omega))) (fc (x:=.b true) (lb (by first|rfl|(rw [Zl Zh])|(rw [Zd Zh])|(simp [Zh];done)|(rw [Yb];simp [Zh];done)|omega)) fl))))
   exact az (Z0 3 (Zq (Zk none (k:Int) 1 (Y7 Z4)) (Z0 1 (iL (Z6 [x1]) 1 1 fun v2=>ZU 0 [(30,Z3 [x1])] (ip 1 (Z6 (acc++[x1])) (Z6 acc) (Z6 [x1]) v none 1 (YE _) (YE _) (W2 _) (by simp<;>omega) (by simp [W6,Z6]) fun v3=>Z1 (ZH ⟨v3,rfl,rfl⟩ (wk [0] (fc (x:=ZG (acc++[x1]) v3) (Zc.slh _ (Yj Z6 (by first|rfl|(rw [Zl Zh])|(rw [Zd Zh])|(simp [Zh];done)|(rw [Yb];simp [Zh];done)|omega))) (fc (x:=.b d) (lb (by cases d<;>simp_all)) fl)))))))))
  rintro F h ⟨w,rfl,rfl⟩
  exact az (Z0 1 (ZK k (Z1 (ZM ⟨k+1,(if (x1=y)/\(¬(d=true)) then acc else (acc++[x1])),(((x1==y)&&(!d))||d),w,ob,(by split<;>(try simp)<;>omega),(Z4b Z4 ZD),rfl,rfl,rfl⟩ (wk [0] (fw (ZW k fl)))))))
 exact ax 0 (ar (Zm (r2 [0] [ZG acc v] ⟨v,rfl,rfl⟩ (Zc.slh _ (Yj Z6 (Z4a om ZD))))))
theorem Ze5 (b:Z7) (x:Int) (fs:LI) (q:Nat) (ha:∀s∈b.steps,YN s.op=true->∃a,s.args=[a]) (hf:fs.length<=3:=by exact ob) (hq:q<=1000000000:=by exact ob) (hz:b.sz<=900000000:=by exact ob):Zo 177 [Yn b,.i x,Z3 fs,.i q] [] (Ym (Yn (QY b x fs q))):=by
 have hbz:=Un b
 have hrl:=GT b.steps
 have hal:=HM (b.steps.take (XL b.steps))
 rw [Wh] at hal
 have her:=List.length_erase_le (a:=x) (l:=Wn 15 (b.steps.take (XL b.steps)))
 have har:∀op:Int,YN op=true->∀s∈b.steps.take (XL b.steps),s.op=op->∃a,s.args=[a]:=fun op ho s hs e=>ha s (Qt hs) (by rw [e];exact ho)
 refine ZE 88 Tryz.func177 (ar (iA (XV b) fun b1=>iA [nl,.i 0] fun b2=>ie (Zp 1 [1] (Zt [] (Zee b) (Z1 (Zp 2 [1] (ic [] (Sj b (XL b.steps) 14 (ha:=(har _ rfl))) ?_)))))))
 rintro _ _ ⟨v1,rfl,rfl⟩
 refine Z1 (Zp 2 [2] (ic [] (Sj b (XL b.steps) 15 (ha:=(har _ rfl))) ?_))
 rintro _ _ ⟨v2,rfl,rfl⟩
 refine Z1 (Xa (ZU 2 [(22,Z3 (Wn 15 (b.steps.take (XL b.steps))))] (Zt [] (UE (Wn 15 (b.steps.take (XL b.steps))) x) (Xn [1,2,3,4,8,9,10,11] [(30,.b ((!(decide (x∈(Wn 15 (b.steps.take (XL b.steps))))))||((fs.length:Int)==0)))] (fun gz=>gz) ?_ ?_))))
 ·refine Z0 2 (ib (b:=(!(decide (x∈(Wn 15 (b.steps.take (XL b.steps))))))) 26 (fun Za=>?_) (fun Za=>?_))
  ·exact Z1 (Zw 4 (Zf true Za fl))
  exact Z0 1 (iw (Yc fs) (Z1 (Zw 4 (Zf ((fs.length:Int)==0) Za fl))))
 refine ac ((!(decide (x∈(Wn 15 (b.steps.take (XL b.steps))))))||((fs.length:Int)==0)) (p:=(¬(x∈(Wn 15 (b.steps.take (XL b.steps)))))∨((fs.length:Int)=0)) (ZB (Yg dq) Zb) (fun Z9=>?_) (fun Z9=>?_)
 ·exact Zp 1 [3] (Zz 2 b2 (XV b) (ie (at_ (r3 [] [Yn b] [0] [(b2,b2)] ⟨rfl,rfl⟩ (Zc.agg (.cons (Zc.sl _ (Yj ZT (Z1c (fun z=>Z9.elim (fun e=>e z.1) (fun e=>z.2 om))).symm)) (.cons li .nil)))))))
 refine ak (ar (ZU 2 [(32,Z3 (Wn 15 (b.steps.take (XL b.steps))))] (ic [] (SB (Wn 15 (b.steps.take (XL b.steps))) x) ?_)))
 rintro _ _ ⟨v3,rfl,rfl⟩
 refine Z1 (Y6 (ab 0 (Y5 (fun fz gz m F h=>∃(k:Nat) (D:LI) (R:LI) (v:Value),(k<=fs.length)/\(D.length<=b.steps.length)/\(R.length<=b.steps.length+k)/\(Ug (fs.drop k) (q+k) D R=KN b.steps x fs q)/\F=sF [1,2,3,4,8,9] fz [(10,Z3 D),(11,ZG R v),(12,.i k)]/\h=[Zi gz 3,Zi gz 4,.tail v 1]/\m=fs.length-k) _ _ _ ⟨0,(Wn 14 (b.steps.take (XL b.steps))),((Wn 15 (b.steps.take (XL b.steps))).erase x),v3,ob,om,om,(by simp [KN]),rfl,rfl,rfl⟩ (wk [3,3,0] (fc (x:=ZG (Wn 14 (b.steps.take (XL b.steps))) v1) (Zc.forget _ _) (fr (Ye fl)))) ?_)))
 rintro m F h ⟨k,D,R,v,Yl,Zj,ZD,YL,rfl,rfl,rfl⟩
 refine YO 2 (iw (Yc fs) (Y0 ((k:Int)<(fs.length:Int)) (fun Zh=>?_) (fun Zh=>?_)))
 ·refine ak (aq (ab 1 (Ya 2 ?_)))
  obtain ⟨x1,Z4⟩:=Zv fs k om
  refine Zq (Zk none (k:Int) 1 (Y7 Z4)) (Xn [1,2,3,4,8,9,10,11,12] [(52,.b ((x1 != 0)&&(decide (((q+k:Nat):Int)∈D))))] (fun gz=>gz) ?_ ?_)
  ·refine Z0 3 (ib (b:=(x1 != 0)) 46 (fun ZA=>?_) (fun ZA=>?_))
   ·exact Z0 3 (ia (((q+k:Nat):Int)) (((q:Int))+((k:Int))) (Zt [] (UE D ((q+k:Nat):Int)) (Z1 (Zw 3 (Zf (decide (((q+k:Nat):Int)∈D)) ZA fl)))))
   exact Z1 (Zw 3 (Zf false ZA fl))
  refine At (fun fz gz F h=>∃(D2:LI) (R2:LI) (w:Value),(Ug (fs.drop (k+1)) (q+((k+1:Nat):Int)) D2 R2=KN b.steps x fs q)/\(D2.length<=b.steps.length)/\(R2.length<=b.steps.length+(k+1))/\F=sF [1,2,3,4,8,9,12] fz [(10,Z3 D2),(11,ZG R2 w)]/\h=[Zi gz 0,Zi gz 1,.tail w 1]) (fun _ _=>rfl) ?_ ?_
  ·refine ac ((x1 != 0)&&(decide (((q+k:Nat):Int)∈D))) (p:=(x1≠0)/\(((q+k:Nat):Int)∈D)) (Y2 Yi dq) (fun ZC=>?_) (fun ZC=>?_)
   ·refine az (Z0 3 (ia (((q+k:Nat):Int)) (((q:Int))+((k:Int))) (ic [] (SB D ((q+k:Nat):Int)) ?_)))
    rintro _ _ ⟨v4,rfl,rfl⟩
    exact Z1 (ZH ⟨(D.erase ((q+k:Nat):Int)),R,v,(Zbd Z4 ZC.1 ZC.2 YL),(Vb List.length_erase_le Zj),ob,rfl,rfl⟩ (wk [1,1,1] fl))
   refine Ya 2 (Zq (Zk none (k:Int) 1 (Y7 Z4)) (Yz (x1 != 0) Yi (fun Yh=>?_) (fun Yh=>?_)))
   ·exact az (Z0 3 (ia (((q+k:Nat):Int)) (((q:Int))+((k:Int))) (iL (Z6 [((q+k:Nat):Int)]) 1 1 fun v5=>ZU 0 [(67,Z3 [((q+k:Nat):Int)])] (ip 3 (Z6 (R++[((q+k:Nat):Int)])) (Z6 R) (Z6 [((q+k:Nat):Int)]) v none 1 (YE _) (YE _) (W2 _) (by simp<;>omega) (by simp [W6,Z6]) fun v6=>Z1 (ZH ⟨D,(R++[((q+k:Nat):Int)]),v6,(Zbe Z4 Yh (fun z=>ZC ⟨Yh,z⟩) YL),ob,(by simp;omega),rfl,rfl⟩ (wk [2,2,0] fl))))))
   exact ak (ZH ⟨D,R,v,(Zbf Z4 Yh YL),ob,ob,rfl,rfl⟩ (Zw 3 fl))
  rintro F h ⟨D2,R2,w,Ex,L4,Dm,rfl,rfl⟩
  exact az (Z0 1 (ZK k (Z1 (ZM ⟨k+1,D2,R2,w,ob,ob,ob,ob,rfl,rfl,rfl⟩ (Zw 3 (fw (ZW k fl)))))))
 refine ax 0 (Ya 1 (ic [] (Kj 14 D) ?_))
 rintro _ _ ⟨v7,rfl,rfl⟩
 refine Z0 1 (Zt [] (BH 16 x) (iL [X4 (Zx 16 x)] 1 5 fun v8=>ZU 0 [(73,.sl [X4 (Zx 16 x)] none)] (ip 1 (ZT ((D.map (Zx 14))++[Zx 16 x])) (ZT (D.map (Zx 14))) [X4 (Zx 16 x)] v7 none 5 (XE _) (KI rfl) rfl (by simp<;>omega) (by simp [Vo,VV]) fun v9=>Z1 (ar (ZU 2 [(76,Z3 R)] (ic [] (Kj 15 R) ?_))))))
 rintro _ _ ⟨v10,rfl,rfl⟩
 refine ZU 0 [(77,Vj (R.map (Zx 15)))] (ip 1 (ZT (((D.map (Zx 14))++[Zx 16 x])++(R.map (Zx 15)))) (ZT ((D.map (Zx 14))++[Zx 16 x])) (ZT (R.map (Zx 15))) v9 none 5 (XE _) (XE _) (Ua _) (by simp<;>omega) (by simp [Vo,ZT]) fun v11=>Z1 (aD 10 (ZY 6 10 [0,1,2,3] [4] (dx 4 (AY (es:=ZT b.steps) (hv:=none) (l:=(((XL b.steps):Nat):Int)) (m:=(((ZT b.steps).length:Nat):Int)) (sz:=5) (es':=ZT (b.steps.drop (XL b.steps))) kr om (by simp<;>omega) (by simp<;>omega) (XE _) (by first|(simp only [Tc,Uk,AA,Az];done)|(simp only [Tc,Uk,AA,Az];rfl)|(simp [AA,Az];done))) (ZY 3 5 [6,7] [4] (Z8 5 (dp 5 0 [1] [b1] (ZT ((((D.map (Zx 14))++[Zx 16 x])++(R.map (Zx 15)))++(b.steps.drop (XL b.steps)))) (ZT (((D.map (Zx 14))++[Zx 16 x])++(R.map (Zx 15)))) (ZT (b.steps.drop (XL b.steps))) v11 none 5 (XE _) (XE _) (Ua _) (by simp<;>omega) (by simp [Vo,ZT]) fun v12=>Zs 1 2 [8] (Z8 9 (YT 9 3 [] [] b2 [Xh ((((D.map (Zx 14))++[Zx 16 x])++(R.map (Zx 15)))++(b.steps.drop (XL b.steps))) v12,.i b.result] (de ?_))))))))))
 have hE:=Z1e (Up.1 fun z=>Z9 (.inl z)) (fun z=>Z9 (.inr om)) (Zbc om YL)
 exact at_ (r3 [] [.agg [Xh ((((D.map (Zx 14))++[Zx 16 x])++(R.map (Zx 15)))++(b.steps.drop (XL b.steps))) v12,.i b.result]] [0] [(b2,b2)] ⟨rfl,rfl⟩ (Zc.agg (.cons (Zc.sl _ (Yj ZT hE)) (.cons li .nil))))
theorem Zej (n:ZF) (b:Z7) (mm:Nat) (hn:Xs n) (hw:wB n.decls b) (hb:mm+9*b.sz<=900000000) (ih:∀(b2:Z7) (m2:Nat),(wB n.decls b2)->(m2+9*b2.sz<=900000000)->(b2.sz<b.sz)->Zo 157 [YD n,Yn b2,.i m2] [] (Ym (Yn (WO n.decls m2 b2)))):Zo 157 [YD n,Yn b,.i mm] [] (Ym (Yn (WO n.decls mm b))):=by
 have Xo:=hn.decls
 have hbz:=Un b
 have ZL:=(KY b).1 hw
 refine ZE 107 Tryz.func157 (ar (iA (X6 n) fun b1=>iA (XV b) fun b2=>iA [nl,.i 0] fun b3=>ie (ar (iL (ZT []) 0 5 fun v1=>Zu 3 [2] (iA [nl,.i 0] fun b4=>?_)))))
 refine Zz 0 b4 [Xh [] v1,.i b.result] (ie (Y6 (ab 0 (Y5 (fun fz gz m F h=>∃(k:Nat) (q:Nat) (xs:List Z5) (v:Value),(k<=b.steps.length)/\(q<=mm+k)/\(xs.length=k)/\(xs++VO n.decls q (b.steps.drop k)=VO n.decls mm b.steps)/\F=sF [3,4,6,7] fz [(2,.i q),(8,.i k)]/\h=[.obj b4 [Xh xs v,.i b.result],Zi gz 2,Zi gz 3,Zi gz 4,.tail v 5]/\m=b.steps.length-k) _ _ _ ⟨0,mm,[],v1,ob,ob,ob,rfl,rfl,rfl,rfl⟩ (wk [0,1,1,1,0] (fr (Ye fl))) ?_))))
 rintro m F h ⟨k,q,xs,v,Yl,Zj,ZD,YL,rfl,rfl,rfl⟩
 refine Yr 3 [2] (iw (Ut b.steps) (Y0 ((k:Int)<(b.steps.length:Int)) (fun Z9=>?_) (fun Z9=>?_)))
 ·refine ak (aq (ab 1 (Zp 3 [2] ?_)))
  obtain ⟨x1,Z4⟩:=Zv b.steps k om
  have Xx:=CE Z4
  have hws:=Z0c hw Z4
  have hkz:=QK x1
  have haz:=J6 x1
  have hdf:=Zgh hws
  refine Zq (Zk none (k:Int) 5 (V2 Z4)) (Z0 1 (iA [.i 0,.i 0,.i 0,nl,nl] fun b5=>Zz 0 b5 (Wb x1) (ie (ar (iL (XP []) 0 2 fun v2=>Z1 (Zp 4 [5,1] (ic [] (KR n.decls x1.num) ?_)))))))
  rintro _ _ ⟨v3,rfl,rfl⟩
  refine Z1 (Y6 (ab 2 (Y5 (fun fz gz m F h=>∃(j:Nat) (u:Value) (ks:List Z7),(j<=x1.kids.length)/\(ks.length=j)/\(ks++UD n.decls q x1.op x1.num x1.args (x1.kids.drop j) j=UD n.decls q x1.op x1.num x1.args x1.kids 0)/\F=sF [2,3,4,6,7,8,9,11] fz [(10,Q9 ks u),(12,.i j)]/\h=[Zi gz 2,Zi gz 3,Zi gz 4,Zi gz 5,Zi gz 6,.tail u 2,Zi gz 7,Zi gz 0]/\m=x1.kids.length-j) _ _ _ ⟨0,v2,[],ob,ob,(by simp),rfl,rfl,rfl⟩ (wk [2,2,2,2,2,1,1,0] (fr (Ye fl))) ?_)))
  rintro m F h ⟨j,u,ks,U8,Wf,W0,rfl,rfl,rfl⟩
  refine Yr 3 [0] (iw (K3 x1.kids) (Y0 ((j:Int)<(x1.kids.length:Int)) (fun Zh=>?_) (fun Zh=>?_)))
  ·refine ak (aq (ab 3 (QG [0] (ac (x1.op==8) Zb (fun ZC=>?_) (fun ZC=>?_)))))
   ·refine aD 8 (ZY 4 8 [0,1,2,3] [4] ?_)
    obtain ⟨x2,Zy⟩:=Zv (ZX n.decls x1.num) j (by have h:=(F6 hws (by assumption)).2;omega)
    have hfk:Ww n.decls x1.num j=ZQ n.decls x2:=Ip (by rw [J1,Zy];rfl)
    have hcf:=Ve Xo x2
    refine dx 4 (Zk (some v3) (j:Int) 1 (Y7 Zy)) (Zs 2 3 [5] (Z8 6 (YF 6 [] [] [] (Qa n.decls x2) (Zs 0 1 [7] (de (aE 22 (ZY 17 22 [0,1,2,3,4] [4,0] ?_)))))))
    obtain ⟨x3,YX⟩:=Zv x1.kids j om
    have hkb:=YX
    have hks:=Q7 YX
    have hwk:=Mm hws YX
    have hpk:=Z7.pz_le x3
    refine dx 5 (Zk none (j:Int) 2 (UK YX)) (Zs 13 16 [6,7,8] (dn 9 (.i (((ZQ n.decls x2).length:Nat):Int)) (.i (((Z6 (ZQ n.decls x2)).length:Nat):Int)) (li (by rw [Yc])) (da 10 (((q+((ZQ n.decls x2).length):Nat):Int)) (((q:Int))+((((ZQ n.decls x2).length:Nat):Int))) (ZY 9 11 [12,13] [0] ?_))))
    obtain ⟨x4,Uz⟩:=Zv x1.args 0 (by obtain ⟨⟨a,ha2,_⟩,_⟩:=F6 hws (by assumption);rw [ha2];simp)
    have hg1:=K6 Uz
    exact dx 14 (Zk none 0 1 (Y7 Uz)) (Zs 5 8 [15,16,17] (Z8 11 (YF 11 [] [0] [b5] (ih x3 (q+((ZQ n.decls x2).length)) hwk ob ob) (Z8 18 (YF 18 [] [] [] (Ze5 (WO n.decls (q+((ZQ n.decls x2).length)) x3) x4 (ZQ n.decls x2) q (ha:=(by rw [H0];exact Zdg ((KY _).1 hwk))) (hz:=(Vb (H1 Xo _ hwk) om))) (Z8 19 (dL 19 [] [] [Yn (QY (WO n.decls (q+((ZQ n.decls x2).length)) x3) x4 (ZQ n.decls x2) q)] 1 2 fun v4=>Yv 2 2 [] [(72,.sl [Yn (QY (WO n.decls (q+((ZQ n.decls x2).length)) x3) x4 (ZQ n.decls x2) q)] none)] (Z8 20 (dp 20 6 [] [] (XP (ks++[QY (WO n.decls (q+((ZQ n.decls x2).length)) x3) x4 (ZQ n.decls x2) q])) (XP ks) [Yn (QY (WO n.decls (q+((ZQ n.decls x2).length)) x3) x4 (ZQ n.decls x2) q)] u none 2 (Kx _) (KI rfl) rfl (by simp<;>omega) (by simp [C8,QC]) fun v5=>Zs 0 1 [21] (de (az (Z0 1 (ZK j (Z1 (ZM ⟨j+1,v5,(ks++[QY (WO n.decls (q+((ZQ n.decls x2).length)) x3) x4 (ZQ n.decls x2) q]),ob,(by simp;omega),(by have h:=Sc hkb W0;rw [H2,Zl (by assumption),hfk,hg1] at h;exact h),rfl,rfl,rfl⟩ (wk [2,2,2,2,2,0,1,1] (fr (ZW j fl))))))))))))))))))
   refine aE 12 (ZY 7 12 [0,1,2,3,4] [4,0] ?_)
   obtain ⟨x5,Tn⟩:=Zv x1.kids j om
   have hkb:=Tn
   have hks:=Q7 Tn
   have hwk:=Mm hws Tn
   have hpk:=Z7.pz_le x5
   exact dx 5 (Zk none (j:Int) 2 (UK Tn)) (Zs 4 6 [6,7] (Z8 8 (YF 8 [] [] [] (ih x5 q hwk ob ob) (Z8 9 (dL 9 [] [] [Yn (WO n.decls q x5)] 1 2 fun v6=>Yv 2 2 [] [(83,.sl [Yn (WO n.decls q x5)] none)] (Z8 10 (dp 10 6 [] [] (XP (ks++[WO n.decls q x5])) (XP ks) [Yn (WO n.decls q x5)] u none 2 (Kx _) (KI rfl) rfl (by simp<;>omega) (by simp [C8,QC]) fun v7=>Zs 0 1 [11] (de (az (Z0 1 (ZK j (Z1 (ZM ⟨j+1,v7,(ks++[WO n.decls q x5]),ob,(by simp;omega),(by have h:=Sc hkb W0;rw [H2,Zd (by assumption)] at h;exact h),rfl,rfl,rfl⟩ (wk [2,2,2,2,2,0,1,1] (fr (ZW j fl))))))))))))))))
  have hK:=Zdd om W0
  refine ax 2 (aD 17 (ZY 6 17 [0,1,2,3,4,5,6,7,8,9,11] [1,0,0,0,0] (Z8 10 (dc 10 [] [0,0,0,1] [b5,b5,b5,b4] (WP x1.args) ?_))))
  rintro _ _ ⟨v8,rfl,rfl⟩
  refine Yv 4 5 [12] [(97,.agg [.i x1.op,.i x1.num,.i x1.into,Z3 x1.args,Js ks])] (Z8 13 (dL 13 [1] [b4] [X4 (Z5.mk x1.op x1.num x1.into x1.args ks)] 1 5 fun v9=>Yv 3 3 [] [(98,.sl [X4 (Z5.mk x1.op x1.num x1.into x1.args ks)] none)] (Z8 14 (dp 14 8 [] [] (ZT (xs++[Z5.mk x1.op x1.num x1.into x1.args ks])) (ZT xs) [X4 (Z5.mk x1.op x1.num x1.into x1.args ks)] v none 5 (XE _) (KI rfl) rfl (by simp<;>omega) (by simp [Vo,VV]) fun v10=>?_))))
  refine Zs 1 2 [15] (Z8 16 (YT 16 4 [] [] b4 [Xh (xs++[Z5.mk x1.op x1.num x1.into x1.args ks]) v10,.i b.result] (de (Zp 2 [4] (Zt [] (QU x1.op) (ie (At (fun fz gz F h=>F=sF [3,4,6,7,8] fz [(2,.i (((if YN x1.op=true then q else q+1):Nat):Int))]/\h=[Zi gz 0,Zi gz 5,Zi gz 6,Zi gz 7,Zi gz 1]) (fun _ _=>rfl) ?_ ?_)))))))
  ·refine ac (Xg x1.op) Iff.rfl (fun Yh=>?_) (fun Yh=>?_)
   ·exact az (Z0 1 (ZK q (Z1 (ZH ⟨rfl,rfl⟩ (wk [0,4,4,4,0] (fc (x:=.i (q+1:Nat)) (li (by rw [Zd (fun z=>by rw [hdf,z] at Yh;cases Yh)])) fl))))))
   exact ak (ZH ⟨rfl,rfl⟩ (wk [0,4,4,4,0] (fc (x:=.i q) (li (by rw [Zl (JB fun z=>Yh (by rw [hdf,Qd.2 z];rfl))])) fl)))
  rintro F h ⟨rfl,rfl⟩
  exact az (Z0 1 (ZK k (Z1 (ZM ⟨k+1,(if YN x1.op=true then q else q+1),(xs++[Z5.mk x1.op x1.num x1.into x1.args ks]),v10,ob,(by split<;>omega),(by simp;omega),(by have h:=Zdi Z4 YL;rw [<-hK] at h;exact h),rfl,rfl,rfl⟩ (Zw 5 (fr (ZW k fl)))))))
 exact ax 0 (Zp 1 [0] (Zz 1 b3 [Xh xs v,.i b.result] (ie (at_ (r3 [] [.agg [Xh xs v,.i b.result]] [0] [(b3,b3)] ⟨rfl,rfl⟩ (Zc.agg (.cons (Zc.sl _ (Yj ZT (by rw [H0];exact Zdh om YL))) (.cons (li (by rw [H0];rfl)) .nil))))))))
theorem Zeh (n:ZF) (hn:Xs n) (k:Nat):∀(b2:Z7) (m2:Nat),(wB n.decls b2)->(m2+9*b2.sz<=900000000)->(b2.sz<k)->Zo 157 [YD n,Yn b2,.i m2] [] (Ym (Yn (WO n.decls m2 b2))):=by
 induction k with
 | zero=>intro b mm _ _ h;omega
 | succ k ih=>intro b mm h1 h2 h3;exact Zej n b mm hn h1 h2 fun b2 m2 k1 k2 k3=>ih b2 m2 k1 k2 om
theorem Zei (n:ZF) (b:Z7) (mm:Nat) (hn:Xs n:=by exact ob) (hw:wB n.decls b:=by exact ob) (hb:mm+9*b.sz<=900000000:=by exact ob):Zo 157 [YD n,Yn b,.i mm] [] (Ym (Yn (WO n.decls mm b))):=Zeh n hn (b.sz+1) b mm hw hb om
theorem M1 (b:Z7) (hz:b.sz<=1000000000:=by exact ob):Zo 205 [Yn b] [] (Ym (.i (((YY b.steps):Nat):Int))):=by
 have hbz:=Un b
 refine ZE 21 Tryz.func205 (ar (iA (XV b) fun b1=>?_))
 refine Z1 (Y1 (aq (ab 0 (Y5 (fun fz gz m F h=>∃(k:Nat),(k<=b.steps.length)/\(k+YY (b.steps.drop k)=YY b.steps)/\F=sF [1] fz [(3,.i k)]/\h=gz/\m=b.steps.length-k) _ _ _ ⟨0,ob,(by simp),rfl,rfl,rfl⟩ (wk [0] (Ye fl)) ?_))))
 rintro m F h ⟨k,Yl,Zj,rfl,rfl,rfl⟩
 refine Yr 3 [0] (iw (Ut b.steps) (Z0 2 (ib (b:=(decide ((k:Int)<(b.steps.length:Int)))) 9 (fun Za=>?_) (fun Za=>?_))))
 ·have Y3:(k:Int)<(b.steps.length:Int):=(dq).1 Za
  refine Zu 3 [0] ?_
  obtain ⟨x1,Z4⟩:=Zv b.steps k om
  refine Zq (Zk none (k:Int) 5 (V2 Z4)) (Z0 2 (Zt [] (So x1.op) (Yz (YN x1.op) Iff.rfl (fun Z9=>?_) (fun Z9=>?_))))
  ·exact ak (ab 1 (az (Z0 1 (ZK k (Z1 (ZM ⟨k+1,ob,(Z9t Z4 Z9 Zj),rfl,rfl,rfl⟩ (wk [0] (ZW k fl))))))))
  exact ax 0 (ar (Zm (ZP (.i k) (li (by have:=Z9u Z4 Z9 Zj;omega)))))
 have Yq:¬((k:Int)<(b.steps.length:Int)):=ZV dq Za
 exact Z1 (WW (ax 0 (ar (Zm (ZP (.i k) (li (by have:=Z9s om Zj;omega)))))))
theorem Sv (b:Z7) (mm:Nat) (op:Int) (x:Int) (hm:mm<=b.steps.length:=by exact ob) (ha:∀s∈b.steps.take mm,s.op=op->∃a,s.args=[a]) (hz:b.sz<=1000000000:=by exact ob):Zo 206 [Yn b,.i mm,.i op,.i x] [] (Ym (.i (W5 op x (b.steps.take mm) 0))):=by
 have hbz:=Un b
 refine ZE 36 Tryz.func206 (ar (iA (XV b) fun b1=>?_))
 refine Z1 (Y6 (ab 0 (Y5 (fun fz gz m F h=>∃(k:Nat),(k<=mm)/\(W5 op x ((b.steps.take mm).drop k) k=W5 op x (b.steps.take mm) 0)/\F=sF [1,2,3,4] fz [(9,.i k)]/\h=gz/\m=mm-k) _ _ _ ⟨0,ob,(by simp),rfl,rfl,rfl⟩ (wk [0] (Ye fl)) ?_)))
 rintro m F h ⟨k,Yl,Zj,rfl,rfl,rfl⟩
 refine Xa (Y0 ((k:Int)<(mm:Int)) (fun Z9=>?_) (fun Z9=>?_))
 ·refine ak (aq (ab 1 (Zp 3 [0] ?_)))
  obtain ⟨x1,Z4⟩:=Zv b.steps k om
  have hxt:(b.steps.take mm)[k]? = some x1:=by rw [List.getElem?_take_of_lt om];exact Z4
  have hxm:=Y4 hxt
  refine Zq (Zk none (k:Int) 5 (V2 Z4)) (Z0 5 (ib (b:=(x1.op==op)) 23 (fun Za=>?_) (fun Za=>?_)))
  ·have Y3:x1.op=op:=(Zb).1 Za
   refine Zu 3 [0] (Zq (Zk none (k:Int) 5 (V2 Z4)) (Z0 2 ?_))
   obtain ⟨x2,Zy⟩:=Zv x1.args 0 (by obtain ⟨a,ha2⟩:=ha x1 hxm (by assumption);rw [ha2];simp)
   have hg0:=K6 Zy
   refine Zq (Zk none 0 1 (Y7 Zy)) (Yz (x2==x) Zb (fun Zh=>?_) (fun Zh=>?_))
   ·exact ar (Zm (ZP (.i k) (li (by have h:=Z1v hxt ⟨by assumption,by rw [hg0];assumption⟩ Zj;omega))))
   exact ak (az (Z0 1 (ZK k (Z1 (ZM ⟨k+1,ob,(MK hxt (fun z=>Zh (by rw [<-hg0];exact z.2)) Zj),rfl,rfl,rfl⟩ (wk [0] (ZW k fl)))))))
  have Yq:¬(x1.op=op):=ZV Zb Za
  exact Z1 (WW (ak (az (Z0 1 (ZK k (Z1 (ZM ⟨k+1,ob,(MK hxt (fun z=>absurd z.1 (by assumption)) Zj),rfl,rfl,rfl⟩ (wk [0] (ZW k fl)))))))))
 exact ax 0 (ar (Zm (ZP (.i (-1)) (li (by have h:=Z1u (by rw [Wh];omega) Zj;omega)))))
theorem Zdq (b:Z7) (frm0:Nat) (many:Nat) (hm:frm0<=b.steps.length:=by exact ob) (hz:b.sz<=1000000000:=by exact ob):Zo 237 [Yn b,.i frm0,.i many] [] (Ym (.i (Wv many (b.steps.drop frm0) frm0))):=by
 have hbz:=Un b
 refine ZE 44 Tryz.func237 (ar (iA (XV b) fun b1=>?_))
 refine Z1 (Y6 (ab 0 (Y5 (fun fz gz m F h=>∃(k:Nat),(k<=b.steps.length)/\(Wv many (b.steps.drop k) k=Wv many (b.steps.drop frm0) frm0)/\F=sF [2,3] fz [(7,.i k)]/\h=gz/\m=b.steps.length-k) _ _ _ ⟨frm0,ob,rfl,rfl,rfl,rfl⟩ (wk [0] fl) ?_)))
 rintro m F h ⟨k,Yl,Zj,rfl,rfl,rfl⟩
 refine Yr 3 [0] (iw (Ut b.steps) (Y0 ((k:Int)<(b.steps.length:Int)) (fun Z9=>?_) (fun Z9=>?_)))
 ·refine ak (aq (ab 1 (Zp 3 [0] ?_)))
  obtain ⟨x1,Z4⟩:=Zv b.steps k om
  refine Zq (Zk none (k:Int) 5 (V2 Z4)) (YK 16 [2,3,7] [(31,.b ((x1.op==6)&&(x1.into==0)))] (fun gz=>gz) ?_ (fun hj1=>?_))
  ·refine Xn [2,3,7] [(42,.b (((x1.op==6)&&(x1.into==0))&&((x1.args.length:Int)==(many:Int))))] (fun gz=>gz) ?_ ?_
   ·refine Z0 1 (ib (b:=((x1.op==6)&&(x1.into==0))) 32 (fun Za=>?_) (fun Za=>?_))
    ·exact Zu 3 [0] (Zq (Zk none (k:Int) 5 (V2 Z4)) (Z0 2 (iw (Yc x1.args) (Z1 (wk [0] (Zf ((x1.args.length:Int)==(many:Int)) Za fl))))))
    exact Z1 (wk [0] (Zf false Za fl))
   refine ac (((x1.op==6)&&(x1.into==0))&&((x1.args.length:Int)==(many:Int))) (p:=((x1.op=6)/\(x1.into=0))/\((x1.args.length:Int)=(many:Int))) (Y2 (Y2 Zb Zb) Zb) (fun Zh=>?_) (fun Zh=>?_)
   ·exact ar (Zm (ZP (.i k) (li (by have h:=Z2o Z4 (show K1 many x1 from ⟨Zh.1,by omega⟩) Zj;omega))))
   exact ak (az (Z0 1 (ZK k (Z1 (ZM ⟨k+1,ob,(Z2n Z4 (fun z=>Zh ⟨z.1,by have:=z.2;omega⟩) Zj),rfl,rfl,rfl⟩ (wk [0] (ZW k fl)))))))
  refine Z0 4 (ib (b:=(x1.op==6)) 23 (fun ZA=>?_) (fun ZA=>?_))
  ·exact Zu 3 [0] (Zq (Zk none (k:Int) 5 (V2 Z4)) (Z0 4 (ZJ (wk [0] (Zf (x1.into==0) ZA fl)) hj1)))
  exact Z0 8 (ZJ (wk [0] (Zf false ZA fl)) hj1)
 exact ax 0 (ar (Zm (ZP (.i (-1)) (li (by have h:=Z2m om Zj;omega)))))
theorem Z32 (b:Z7) (hz:b.sz<=1000000000):Zo 216 [Yn b] [] (fun r h=>∃(v:Hd),r=.agg [.h v,.i b.result]/\h=[rK v 5 (Zg (ZT b.steps))]):=by
 have hbz:=Un b
 refine ZE 28 Tryz.func216 (ar (iA (XV b) fun b1=>iA [nl,.i 0] fun b2=>ie (ar (Ep 5 fun g1=>Zu 3 [2] (iA [nl,.i 0] fun b3=>?_)))))
 refine Zz 0 b3 [.ms g1 0 0 0,.i b.result] (ie (Y6 (ab 0 (Y5 (fun fz gz m F h=>∃(k:Nat) (v:Hd),(k<=b.steps.length)/\F=sF [1,2,3] fz [(4,.i k)]/\h=[.obj b3 [.h v,.i b.result],Zi gz 2,Zi gz 3,rK v 5 (Zg (ZT (b.steps.take k)))]/\m=b.steps.length-k) _ _ _ ⟨0,(⟨some ⟨g1,0,none⟩,0,0⟩:Hd),ob,rfl,rfl,rfl⟩ (wk [0,1,1,0] (Ye fl) (e:=(rc (rc (rc (rr (ls:=[]) ob rz)))))) ?_))))
 rintro m F h ⟨k,v,Yl,rfl,rfl,rfl⟩
 refine Yr 3 [2] (iw (Ut b.steps) (Y0 ((k:Int)<(b.steps.length:Int)) (fun Z9=>?_) (fun Z9=>?_)))
 ·refine ak (aq (ab 1 (aE 12 (ZY 7 12 [0,1,2,3,4] [0,2] ?_))))
  obtain ⟨x1,Z4⟩:=Zv b.steps k om
  have hss:=DM Z4
  exact dx 5 (Zk none (k:Int) 5 (V2 Z4)) (Zs 5 6 [6] (Z8 7 (YF 7 [] [0] [b3] (Zdu x1) (Z8 8 (dL 8 [0] [b3] [X4 x1] 1 5 fun v1=>Yv 3 3 [] [(24,.sl [X4 x1] none)] (Z8 9 (HX 9 4 k [] [] v 5 (Zg (ZT (b.steps.take k))) [X4 x1] none (by rw [Db,Wh,VQ om]) (KI rfl) rfl (List.cons_ne_nil _ _) (by simp<;>omega) fun v2=>Zs 1 2 [10] (Z8 11 (YT 11 2 [] [] b3 [.h v2,.i b.result] (de (az (Z0 1 (ZK k (Z1 (ZM ⟨k+1,v2,ob,rfl,rfl,rfl⟩ (wk [0,2,2,0] (ZW k fl) (e:=(rc (rc (rc (rr (ls:=Zg (ZT (b.steps.take k))++Zg [X4 x1]) (Z5n Z4) rz)))))))))))))))))))))
 exact ax 0 (Zp 1 [0] (Zz 1 b2 [.h v,.i b.result] (ie (at_ (r3 [3] [.agg [.h v,.i b.result]] [0] [(b2,b2)] ⟨v,rfl,rfl⟩ (lr _) (eq:=(rr (ls:=Zg (ZT (b.steps.take k))) (by rw [WT om]) rz)))))))
theorem Z31 (b:Z7) (hz:b.sz<=1000000000:=by exact ob) (h0:0<b.steps.length:=by exact ob):Zo 216 [Yn b] [] (fun r h=>∃(g:Nat) (c:Nat),r=.agg [.ms g 0 b.steps.length c,.i b.result]/\h=[.row (.slice (some ⟨g,0,none⟩) b.steps.length c) 5 (Zg (ZT b.steps))]):=(Z32 b hz).form (T:=fun v=>.agg [.h v,.i b.result]) (m:=b.steps.length) (Db _) om h0
theorem Ze8 (ds:List Ze) (b:Z7) (x:Int) (many:Nat) (hw:wB ds b:=by exact ob) (hx:0<=x/\x<=900000000:=by exact ob) (hz:b.sz<=1000000000:=by exact ob):Zo 204 [Yn b,.i x,.i many] [] (Ym (Yn (VH b x many))):=by
 have hbz:=Un b
 have ZL:=(KY b).1 hw
 have hrl:=EA b.steps
 refine ZE 57 Tryz.func204 (ar (iA (XV b) fun b1=>iA [nl,.i 0] fun b2=>ie (aD 6 (ZY 3 6 [0,1,3] [1,1] (Z8 2 (YF 2 [] [1] [b1] (M1 b) (Z8 4 (YF 4 [] [] [] (Sv b (YY b.steps) 16 x (ha:=(fun s hs h16=>Mt (Hw ZL s (Qt hs) (by rw [h16];rfl))))) (Zs 0 1 [5] (de (aD 6 (ZY 3 6 [0,1,3] [1,1] (Z8 2 (YF 2 [] [1] [b1] (M1 b) (Z8 4 (YF 4 [] [] [] (Zdq b (YY b.steps) many) (Zs 0 1 [5] (de (Xa (Xn [1,3,6,7,8] [(26,.b ((decide ((W5 16 x (b.steps.take (YY b.steps)) 0)<0))||(decide ((Wv many (b.steps.drop (YY b.steps)) (YY b.steps))<0))))] (fun gz=>gz) ?_ ?_))))))))))))))))))))
 ·refine Z0 3 (ib (b:=(decide ((W5 16 x (b.steps.take (YY b.steps)) 0)<0))) 23 (fun Za=>?_) (fun Za=>?_))
  ·exact Z1 (wk [0,0] (Zf true Za fl))
  exact Z1 (wk [0,0] (Zf (decide ((Wv many (b.steps.drop (YY b.steps)) (YY b.steps))<0)) Za fl))
 refine ac ((decide ((W5 16 x (b.steps.take (YY b.steps)) 0)<0))||(decide ((Wv many (b.steps.drop (YY b.steps)) (YY b.steps))<0))) (p:=((W5 16 x (b.steps.take (YY b.steps)) 0)<0)∨((Wv many (b.steps.drop (YY b.steps)) (YY b.steps))<0)) (ZB dq dq) (fun Z9=>?_) (fun Z9=>?_)
 ·exact Zp 1 [1] (Zz 0 b2 (XV b) (ie (at_ (r3 [] [Yn b] [0] [(b2,b2)] ⟨rfl,rfl⟩ (Zc.agg (.cons (Zc.sl _ (Yj ZT (Zc5 Z9).symm)) (.cons li .nil)))))))
 obtain ⟨o1,o2,so,o3,o4⟩:=Dx (xs:=b.steps) (x:=x) (fun z=>Z9 (.inl z))
 obtain ⟨p1,p2,sc,p3,p4,p5⟩:=JS (xs:=b.steps) (many:=many) (fun z=>Z9 (.inr z))
 rw [show Vl b.steps x=(W5 16 x (b.steps.take (YY b.steps)) 0) from rfl] at o1 o2
 rw [show Wy b.steps many=(Wv many (b.steps.drop (YY b.steps)) (YY b.steps)) from rfl] at p1 p2
 refine ak (Zp 1 [1] (ic [] (Z31 b) ?_))
 rintro _ _ ⟨g1,c1,rfl,rfl⟩
 exact iA [nl,.i 0] fun b3=>Zz 0 b3 [.ms g1 0 b.steps.length c1,.i b.result] (ie (aD 7 (ZY 3 7 [0,1,2,3] [0] (Z8 4 (YF 4 [] [0] [b3] (BH 17 x) (dx 5 (Wa g1 b.steps.length c1 ((W5 16 x (b.steps.take (YY b.steps)) 0).toNat) 5 (W5 16 x (b.steps.take (YY b.steps)) 0)) (Z8 6 (JV 6 1 [] [] g1 b.steps.length c1 5 (((W5 16 x (b.steps.take (YY b.steps)) 0).toNat)*5) (Wb (Zx 17 x)) (Zg (ZT b.steps)) (Zg (ZT (b.steps.set (W5 16 x (b.steps.take (YY b.steps)) 0).toNat (Zx 17 x)))) (by have:(Wb (Zx 17 x)).length=5:=rfl;rw [Db];omega) (O2 o3) (de (Zp 3 [1] (Zq (Wa g1 b.steps.length c1 ((Wv many (b.steps.drop (YY b.steps)) (YY b.steps)).toNat) 5 (Wv many (b.steps.drop (YY b.steps)) (YY b.steps))) (U7 (Vi 0 g1 b.steps.length c1 5 (((Wv many (b.steps.drop (YY b.steps)) (YY b.steps)).toNat)*5) (Zg (ZT (b.steps.set (W5 16 x (b.steps.take (YY b.steps)) 0).toNat (Zx 17 x)))) (Wb sc) 189 (X4 sc) (Z5m (ER Z9 p3))) (iA [.i 0,.i 0,.i 0,nl,nl] fun b4=>Zz 0 b4 (Wb sc) (ie (Zp 8 [2,0,0] (ia ((1+x)) ((1)+(x)) (Zu 5 [0,0] (Zq (Wa g1 b.steps.length c1 ((Wv many (b.steps.drop (YY b.steps)) (YY b.steps)).toNat) 5 (Wv many (b.steps.drop (YY b.steps)) (YY b.steps))) (Er 1 g1 b.steps.length c1 5 (((Wv many (b.steps.drop (YY b.steps)) (YY b.steps)).toNat)*5) [.i sc.op,.i sc.num,.i (1+x),Z3 sc.args,Js sc.kids] (Zg (ZT (b.steps.set (W5 16 x (b.steps.take (YY b.steps)) 0).toNat (Zx 17 x)))) (Zg (ZT ((b.steps.set (W5 16 x (b.steps.take (YY b.steps)) 0).toNat (Zx 17 x)).set (Wv many (b.steps.drop (YY b.steps)) (YY b.steps)).toNat (Q6 (1+x) sc)))) (by rw [Db,VJ];simp only [Yx,X7];omega) (O2 (t:=Q6 (1+x) sc) (ER Z9 p3)) (Xl (Uo 0 1 0 (.slice (some ⟨g1,0,none⟩) b.steps.length c1) 5 b3 (ZT ((b.steps.set (W5 16 x (b.steps.take (YY b.steps)) 0).toNat (Zx 17 x)).set (Wv many (b.steps.drop (YY b.steps)) (YY b.steps)).toNat (Q6 (1+x) sc))) [.ms g1 0 b.steps.length c1,.i b.result] (XE _) rfl) (ie (Zp 1 [0] (Zz 3 b2 [Xh ((b.steps.set (W5 16 x (b.steps.take (YY b.steps)) 0).toNat (Zx 17 x)).set (Wv many (b.steps.drop (YY b.steps)) (YY b.steps)).toNat (Q6 (1+x) sc)) (.slice (some ⟨g1,0,none⟩) b.steps.length c1),.i b.result] (ie (at_ (r3 [] [.agg [Xh ((b.steps.set (W5 16 x (b.steps.take (YY b.steps)) 0).toNat (Zx 17 x)).set (Wv many (b.steps.drop (YY b.steps)) (YY b.steps)).toNat (Q6 (1+x) sc)) (.slice (some ⟨g1,0,none⟩) b.steps.length c1),.i b.result]] [0] [(b2,b2)] ⟨rfl,rfl⟩ (Zc.agg (.cons (Zc.sl _ (Yj ZT (Zc6 Z9 p5))) (.cons li .nil)))))))))))))))))))))))))))))
theorem Ze3 (xs:LI) (y:Int) (hl:xs.length<=1000000000:=by exact ob):Zo 129 [Z3 xs,.i y] [] (fun r h=>∃(ys:LI),r=Z3 ys/\h=[]/\(ys.length<=xs.length+1/\∀z,z∈ys↔z∈xs∨z=y)):=by
 refine ZE 49 Tryz.func129 (Y1 (ar (iL (Z6 []) 0 1 fun v1=>?_)))
 refine Z1 (Y1 (Y6 (ab 0 (Y5 (fun fz gz m F h=>∃(k:Nat) (acc:LI) (d:Bool) (v:Value),(k<=xs.length)/\(Ks xs y k acc d)/\F=sF [0,1] fz [(5,ZG acc v),(6,.b d),(7,.i k)]/\h=[.tail v 1]/\m=xs.length-k) _ _ _ ⟨0,[],false,v1,ob,(Ks.zero xs y),rfl,rfl,rfl⟩ (wk [0] (fw (Ye fl))) ?_))))
 rintro m F h ⟨k,acc,d,v,Yl,Zj,rfl,rfl,rfl⟩
 refine YO 2 (iw (Yc xs) (Y0 ((k:Int)<(xs.length:Int)) (fun Z9=>?_) (fun Z9=>?_)))
 ·obtain ⟨x1,Z4⟩:=Zv xs k om
  have hil:acc.length<=k+1:=Vb Zj.len (by split<;>omega)
  refine ak (aq (ab 1 (Xa (Xn [0,1,5,6,7] [(24,.b ((!d)&&(decide (x1>=y))))] (fun gz=>gz) ?_ ?_))))
  ·refine Z0 3 (ib (b:=(!d)) 17 (fun Za=>?_) (fun Za=>?_))
   ·exact Z0 2 (Zq (Zk none (k:Int) 1 (Y7 Z4)) (Z1 (wk [0] (Zf (decide (x1>=y)) Za fl))))
   exact Z1 (wk [0] (Zf false Za fl))
  refine Xu (fun fz gz F h=>∃(acc2:LI) (d2:Bool) (w:Value),((acc2=acc/\d2=d)∨(acc2=acc++[y]/\d2=true/\¬d=true)∨(acc2=acc/\d2=true/\x1=y))/\(acc2.length<=acc.length+1)/\F=sF [0,1,7] fz [(5,ZG acc2 w),(6,.b d2)]/\h=[.tail w 1]) ?_ ?_
  ·refine ac ((!d)&&(decide (x1>=y))) (p:=(¬(d=true))/\(x1>=y)) (Y2 (Yg Iff.rfl) dq) (fun Zh=>?_) (fun Zh=>?_)
   ·refine YO 2 (Zq (Zk none (k:Int) 1 (Y7 Z4)) (Z1 (Xu (fun fz gz F h=>∃(w3:Value),F=sF [0,1,7] fz [(5,ZG (if x1>y then (acc++[y]) else acc) w3)]/\h=[.tail w3 1]) ?_ ?_)))
    ·refine WZ (x1>y) (fun ZC=>?_) (fun ZC=>?_)
     ·exact az (Z0 2 (iL (Z6 [y]) 1 1 fun v2=>ZU 0 [(33,Z3 [y])] (ip 1 (Z6 (acc++[y])) (Z6 acc) (Z6 [y]) v none 1 (YE _) (YE _) (W2 _) (by simp<;>omega) (by simp [W6,Z6]) fun v3=>Z1 (ZH ⟨v3,rfl,rfl⟩ (wk [0] (fc (x:=ZG (acc++[y]) v3) (Zc.slh _ (Yj Z6 (by first|rfl|(rw [Zl ZC])|(rw [Zd ZC])|(simp [ZC];done)|(rw [Yb];simp [ZC];done)|omega))) fl))))))
     exact ak (ZH ⟨v,rfl,rfl⟩ (wk [0] (fc (x:=ZG acc v) (Zc.slh _ (Yj Z6 (by first|rfl|(rw [Zl ZC])|(rw [Zd ZC])|(simp [ZC];done)|(rw [Yb];simp [ZC];done)|omega))) fl)))
    rintro F h ⟨w3,rfl,rfl⟩
    exact Vq (ZH ⟨(if x1>y then (acc++[y]) else acc),true,w3,(if h:x1>y then (by rw [Zl h];exact .inr (.inl ⟨rfl,rfl,Zh.1⟩)) else (by rw [Zd h];exact .inr (.inr ⟨rfl,rfl,by have:=Zh.2;omega⟩))),(by split<;>simp),rfl,rfl⟩ (wk [0] fl))
   exact ak (ZH ⟨acc,d,v,(.inl ⟨rfl,rfl⟩),ob,rfl,rfl⟩ (wk [0] fl))
  rintro F h ⟨acc2,d2,w,Vy,AN,rfl,rfl⟩
  exact az (Z0 3 (Zq (Zk none (k:Int) 1 (Y7 Z4)) (Z0 1 (iL (Z6 [x1]) 1 1 fun v4=>ZU 0 [(40,Z3 [x1])] (ip 1 (Z6 (acc2++[x1])) (Z6 acc2) (Z6 [x1]) w none 1 (YE _) (YE _) (W2 _) (by simp<;>omega) (by simp [W6,Z6]) fun v5=>Z1 (az (Z0 1 (ZK k (Z1 (ZM ⟨k+1,(acc2++[x1]),d2,v5,ob,(Zj.go Z4 Vy),rfl,rfl,rfl⟩ (wk [0] (fw (ZW k fl)))))))))))))
 have hil:acc.length<=k+1:=Vb Zj.len (by split<;>omega)
 refine ax 0 (Y6 (Xu (fun fz gz F h=>∃(w4:Value),F=sF [] fz [(5,ZG (if d=true then acc else (acc++[y])) w4)]/\h=[.tail w4 1]) ?_ ?_))
 ·refine ac (!d) (p:=¬(d=true)) (Yg Iff.rfl) (fun Yh=>?_) (fun Yh=>?_)
  ·exact az (Z0 2 (iL (Z6 [y]) 1 1 fun v6=>ZU 0 [(46,Z3 [y])] (ip 1 (Z6 (acc++[y])) (Z6 acc) (Z6 [y]) v none 1 (YE _) (YE _) (W2 _) (by simp<;>omega) (by simp [W6,Z6]) fun v7=>Z1 (ZH ⟨v7,rfl,rfl⟩ (wk [0] (fc (x:=ZG (acc++[y]) v7) (Zc.slh _ (Yj Z6 (by first|rfl|(rw [Zl Yh])|(rw [Zd Yh])|(simp [Yh];done)|(rw [Yb];simp [Yh];done)|omega))) fl))))))
  exact ak (ZH ⟨v,rfl,rfl⟩ (wk [0] (fc (x:=ZG acc v) (Zc.slh _ (Yj Z6 (by first|rfl|(rw [Zl Yh])|(rw [Zd Yh])|(simp [Yh];done)|(rw [Yb];simp [Yh];done)|omega))) fl)))
 rintro F h ⟨w4,rfl,rfl⟩
 exact ar (Zm (r2 [] [ZG (if d=true then acc else (acc++[y])) w4] ⟨(if d=true then acc else (acc++[y])),rfl,rfl,(if hd:d=true then (by rw [Zl hd];exact (Zj.fin om).1 hd) else (by rw [Zd hd];exact (Zj.fin om).2 hd))⟩ (Zc.forget _ _)))
theorem Zeb (n:ZF) (s:Z5) (j:Nat) (kept:LI) (kd:Z7) (hn:Xs n) (hws:wS n.decls s) (hkd:s.kids[j]? = some kd) (hnk:QN kd) (hK:kept.length+s.sz<=900000000) (ih:∀(b2:Z7) (K2:LI),(wB n.decls b2)->(Bu b2)->(K2.length+b2.sz<=900000000)->(b2.sz<s.sz)->Zo 158 [YD n,Yn b2,Z3 K2] [] (Ym (Yn (Ws n.decls K2 b2)))):Zo 178 [YD n,X4 s,.i j,Z3 kept] [] (Ym (Yn (TR n.decls kept s.op s.num s.args j kd))):=by
 have Xo:=hn.decls
 have hks:=Q7 hkd
 have hwk:=Mm hws hkd
 have haz:=J6 s
 have hjl:=(Xc.1 hkd).1
 refine ZE 65 Tryz.func178 (ar (iA (X6 n) fun b1=>iA (Wb s) fun b2=>iA [nl,.i 0] fun b3=>ie (Xa (WI [1] (ac (s.op != 8) Yi (fun Z9=>?_) (fun Z9=>?_))))))
 ·refine aD 9 (ZY 5 9 [0,1,2,3] [2,1] (dx 4 (Zk none (j:Int) 2 (UK hkd)) (Zs 2 4 [5,6] (Z8 7 (YF 7 [] [] [] (ih kd kept (by first|exact hwk|exact AN) (by first|exact Cw hnk|exact L0) ob ob) (Z8 8 (YT 8 0 [] [] b3 (XV (Ws n.decls kept kd)) (de ?_))))))))
  have hE:=RJ (ds:=n.decls) (kept:=kept) (op:=s.op) (num:=s.num) (args:=s.args) (j:=j) (kd:=kd) (fun z=>Z9 z.1)
  exact at_ (r3 [] [Yn (Ws n.decls kept kd)] [0] [(b3,b3)] ⟨rfl,rfl⟩ (Zc.agg (.cons (Zc.sl _ (Yj ZT (by rw [hE]))) (.cons (li (by rw [hE])) .nil))))
 refine ak (Zp 2 [1] ?_)
 obtain ⟨x1,Z4⟩:=Zv s.args 0 (by obtain ⟨⟨a,ha2,_⟩,_⟩:=F6 hws om;rw [ha2];simp)
 have hg1:=K6 Z4
 have hxb:0<=x1/\x1<=900000000:=by obtain ⟨⟨a,ha2,ha3⟩,_⟩:=F6 hws om;rw [ha2] at hg1;have:a=x1:=hg1;omega
 refine Zq (Zk none 0 1 (Y7 Z4)) (Z1 (Zp 3 [1] (Zq (Zk none (j:Int) 2 (UK hkd)) (Z0 1 (iA [nl,.i 0] fun b4=>?_)))))
 refine Zz 0 b4 (XV kd) (ie (YO 2 (Zt [] (UE kept x1) (Z1 (Xu (fun fz gz F h=>∃(B2:Z7) (K2:LI),(Ws n.decls K2 B2=TR n.decls kept s.op s.num s.args j kd)/\(wB n.decls B2)/\(Bu B2)/\(B2.sz<=kd.sz)/\(K2.length<=kept.length+1)/\F=sF [4,8,10] fz [(3,Z3 K2)]/\h=[.obj b4 (XV B2),Zi gz 1,Zi gz 3]) ?_ ?_)))))
 ·refine ac (!(decide (x1∈kept))) (p:=¬(x1∈kept)) (Yg dq) (fun Zh=>?_) (fun Zh=>?_)
  ·refine aD 16 (ZY 7 16 [0,1,2,3,4,5,6,7,9] [0,3,3,2] (Z8 8 (dc 8 [] [3,0] [b1,b4] (KR n.decls s.num) ?_)))
   rintro _ _ ⟨v1,rfl,rfl⟩
   obtain ⟨x2,Zy⟩:=Zv (ZX n.decls s.num) j (by have h:=(F6 hws om).2;omega)
   have hfl:(Ww n.decls s.num j).length=(ZQ n.decls x2).length:=by rw [Ip (by rw [J1,Zy];rfl)]
   have hcf:=Ve Xo x2
   refine dx 10 (Zk (some v1) (j:Int) 1 (Y7 Zy)) (Zs 4 5 [11] (Z8 12 (YF 12 [] [0] [b4] (Qa n.decls x2) (dn 13 (.i (((ZQ n.decls x2).length:Nat):Int)) (.i (((Z6 (ZQ n.decls x2)).length:Nat):Int)) (li (by rw [Yc])) (Z8 14 (YF 14 [] [] [] (Ze8 n.decls kd x1 ((ZQ n.decls x2).length) (hw:=hwk) (hx:=hxb)) ?_))))))
   have hwr:=Zgd (x:=x1) (many:=(ZQ n.decls x2).length) hwk
   have hsr:=Zc3 (x:=x1) (many:=(ZQ n.decls x2).length) hwk
   refine Z8 15 (YT 15 1 [] [] b4 (XV (VH kd x1 ((ZQ n.decls x2).length))) (de (Zp 1 [0] (Zt [] (M1 (VH kd x1 ((ZQ n.decls x2).length))) (Z1 (Zp 3 [0] (Zt [] (Sv (VH kd x1 ((ZQ n.decls x2).length)) (YY (VH kd x1 ((ZQ n.decls x2).length)).steps) 17 x1 (hm:=(EA _)) (ha:=(fun s2 hs2 h17=>Mt (Hw ((KY _).1 hwr) s2 (Qt hs2) (by rw [h17];rfl))))) (Y0 ((W5 17 x1 ((VH kd x1 ((ZQ n.decls x2).length)).steps.take (YY (VH kd x1 ((ZQ n.decls x2).length)).steps)) 0)>=0) (fun ZC=>?_) (fun ZC=>?_)))))))))
   ·refine az (Z0 2 (ic [] (Ze3 kept x1) ?_))
    rintro _ _ ⟨ys1,rfl,rfl,Y3⟩
    have hin:=Y3
    exact Z1 (ZH ⟨_,_,(Zcl om hg1 Zh hfl ((SZ ((EE kd).1 hnk)).1 ZC) hin.2),hwr,(Pv hnk),ob,hin.1,rfl,rfl⟩ (wk [0,1,2] (fc (x:=Z3 ys1) (Zc.sl _ (Yj Z6 (by first|rfl|(rw [Zl Zh])|(rw [Zd Zh])|(simp [Zh,ZC,Y3];done)|(rw [Yb];simp [Zh,ZC,Y3];done)|omega))) fl)))
   exact ak (ZH ⟨_,_,(Zcm om hg1 Zh hfl (JB fun z=>ZC ((SZ ((EE kd).1 hnk)).2 z))),hwr,(Pv hnk),ob,ob,rfl,rfl⟩ (wk [0,1,2] (fc (x:=Z3 kept) (Zc.sl _ (Yj Z6 (by first|rfl|(rw [Zl Zh])|(rw [Zd Zh])|(simp [Zh,ZC];done)|(rw [Yb];simp [Zh,ZC];done)|omega))) fl)))
  exact ak (ZH ⟨_,_,(RJ (fun z=>Zh (hg1▸z.2))),hwk,(Cw hnk),ob,ob,rfl,rfl⟩ (wk [0,0,1] (fc (x:=Z3 kept) (Zc.sl _ (Yj Z6 (by first|rfl|(rw [Zl Zh])|(rw [Zd Zh])|(simp [Zh];done)|(rw [Yb];simp [Zh];done)|omega))) fl)))
 rintro F h ⟨B2,K2,Vy,AN,L0,Zgy,Zgz,rfl,rfl⟩
 exact Zp 3 [2,0] (Zt [] (ih B2 K2 (by first|exact hwk|exact AN) (by first|exact Cw hnk|exact L0) ob ob) (Zz 1 b3 (XV (Ws n.decls K2 B2)) (ie (at_ (r3 [] [Yn (Ws n.decls K2 B2)] [0] [(b3,b3)] ⟨rfl,rfl⟩ (Zc.agg (.cons (Zc.sl _ (Yj ZT (by rw [Vy]))) (.cons (li (by rw [Vy])) .nil))))))))
theorem Zea (n:ZF) (b:Z7) (kept:LI) (hn:Xs n) (hw:wB n.decls b) (hn2:Bu b) (hK:kept.length+b.sz<=900000000) (ih:∀(s:Z5) (j:Nat) (kept:LI) (kd:Z7),(wS n.decls s)->(s.kids[j]? = some kd)->(QN kd)->(kept.length+s.sz<=900000000)->(s.sz<b.sz)->Zo 178 [YD n,X4 s,.i j,Z3 kept] [] (Ym (Yn (TR n.decls kept s.op s.num s.args j kd)))):Zo 158 [YD n,Yn b,Z3 kept] [] (Ym (Yn (Ws n.decls kept b))):=by
 have Xo:=hn.decls
 have hbz:=Un b
 refine ZE 61 Tryz.func158 (ar (iA (X6 n) fun b1=>iA (XV b) fun b2=>iA [nl,.i 0] fun b3=>ie (ar (iL (ZT []) 0 5 fun v1=>Zu 3 [2] (iA [nl,.i 0] fun b4=>?_)))))
 refine Zz 0 b4 [Xh [] v1,.i b.result] (ie (Y6 (ab 0 (Y5 (fun fz gz m F h=>∃(k:Nat) (xs:List Z5) (v:Value),(k<=b.steps.length)/\(xs.length=k)/\(xs++VY n.decls kept (b.steps.drop k)=VY n.decls kept b.steps)/\F=sF [2,3,4,6,7] fz [(8,.i k)]/\h=[.obj b4 [Xh xs v,.i b.result],Zi gz 2,Zi gz 3,Zi gz 4,.tail v 5]/\m=b.steps.length-k) _ _ _ ⟨0,[],v1,ob,ob,rfl,rfl,rfl,rfl⟩ (wk [0,1,1,1,0] (Ye fl)) ?_))))
 rintro m F h ⟨k,xs,v,Yl,Zj,ZD,rfl,rfl,rfl⟩
 refine Yr 3 [2] (iw (Ut b.steps) (Y0 ((k:Int)<(b.steps.length:Int)) (fun Z9=>?_) (fun Z9=>?_)))
 ·refine ak (aq (ab 1 (Zp 3 [2] ?_)))
  obtain ⟨x1,Z4⟩:=Zv b.steps k om
  have Xx:=CE Z4
  have hws:=Z0c hw Z4
  have hkz:=QK x1
  have haz:=J6 x1
  refine Zq (Zk none (k:Int) 5 (V2 Z4)) (Z0 1 (iA [.i 0,.i 0,.i 0,nl,nl] fun b5=>Zz 0 b5 (Wb x1) (ie (ar (iL (XP []) 0 2 fun v2=>?_)))))
  refine Z1 (Y6 (ab 2 (Y5 (fun fz gz m F h=>∃(j:Nat) (u:Value) (ks:List Z7),(j<=x1.kids.length)/\(ks.length=j)/\(ks++VN n.decls kept x1.op x1.num x1.args (x1.kids.drop j) j=VN n.decls kept x1.op x1.num x1.args x1.kids 0)/\F=sF [2,3,4,6,7,8,9] fz [(10,Q9 ks u),(11,.i j)]/\h=[Zi gz 1,Zi gz 2,Zi gz 3,Zi gz 4,Zi gz 5,.tail u 2,Zi gz 6]/\m=x1.kids.length-j) _ _ _ ⟨0,v2,[],ob,ob,(by simp),rfl,rfl,rfl⟩ (wk [1,1,1,1,1,0,0] (fr (Ye fl))) ?_)))
  rintro m F h ⟨j,u,ks,U8,Wf,W0,rfl,rfl,rfl⟩
  refine Yr 3 [0] (iw (K3 x1.kids) (Y0 ((j:Int)<(x1.kids.length:Int)) (fun Zh=>?_) (fun Zh=>?_)))
  ·obtain ⟨kd,hkd⟩:=Zv x1.kids j om
   exact ak (aq (ab 3 (az (Zu 5 [4,0] (Zt [] (ih x1 j kept kd hws hkd (Zan hn2 Z4 hkd) ob ob) (iL [Yn (TR n.decls kept x1.op x1.num x1.args j kd)] 1 2 fun v3=>ZU 0 [(42,.sl [Yn (TR n.decls kept x1.op x1.num x1.args j kd)] none)] (ip 6 (XP (ks++[TR n.decls kept x1.op x1.num x1.args j kd])) (XP ks) [Yn (TR n.decls kept x1.op x1.num x1.args j kd)] u none 2 (Kx _) (KI rfl) rfl (by simp<;>omega) (by simp [C8,QC]) fun v4=>Z1 (az (Z0 1 (ZK j (Z1 (ZM ⟨j+1,v4,(ks++[TR n.decls kept x1.op x1.num x1.args j kd]),ob,(by simp;omega),(Zck hkd W0),rfl,rfl,rfl⟩ (wk [2,2,2,2,2,0,1] (fr (ZW j fl)))))))))))))))
  have hK:=Zcj om W0
  refine ax 2 (aE 17 (ZY 6 17 [0,1,2,3,4,5,6,7,8,9,11] [1,0,0,0,0] (Z8 10 (dc 10 [] [0,0,0,1] [b5,b5,b5,b4] (WP x1.args) ?_))))
  rintro _ _ ⟨v5,rfl,rfl⟩
  exact Yv 4 5 [12] [(56,.agg [.i x1.op,.i x1.num,.i x1.into,Z3 x1.args,Js ks])] (Z8 13 (dL 13 [1] [b4] [X4 (Z5.mk x1.op x1.num x1.into x1.args ks)] 1 5 fun v6=>Yv 3 3 [] [(57,.sl [X4 (Z5.mk x1.op x1.num x1.into x1.args ks)] none)] (Z8 14 (dp 14 8 [] [] (ZT (xs++[Z5.mk x1.op x1.num x1.into x1.args ks])) (ZT xs) [X4 (Z5.mk x1.op x1.num x1.into x1.args ks)] v none 5 (XE _) (KI rfl) rfl (by simp<;>omega) (by simp [Vo,VV]) fun v7=>Zs 1 2 [15] (Z8 16 (YT 16 4 [] [] b4 [Xh (xs++[Z5.mk x1.op x1.num x1.into x1.args ks]) v7,.i b.result] (de (az (Z0 1 (ZK k (Z1 (ZM ⟨k+1,(xs++[Z5.mk x1.op x1.num x1.into x1.args ks]),v7,ob,(by simp;omega),(by have h:=Zcq Z4 ZD;rw [<-hK] at h;exact h),rfl,rfl,rfl⟩ (wk [0,4,4,4,0] (ZW k fl))))))))))))))
 exact ax 0 (Zp 1 [0] (Zz 1 b3 [Xh xs v,.i b.result] (ie (at_ (r3 [] [.agg [Xh xs v,.i b.result]] [0] [(b3,b3)] ⟨rfl,rfl⟩ (Zc.agg (.cons (Zc.sl _ (Yj ZT (by rw [GR];exact Zcp om ZD))) (.cons (li (by rw [GR];rfl)) .nil))))))))
theorem Zec (n:ZF) (hn:Xs n) (k:Nat):(∀(s:Z5) (j:Nat) (kept:LI) (kd:Z7),(wS n.decls s)->(s.kids[j]? = some kd)->(QN kd)->(kept.length+s.sz<=900000000)->(s.sz<=k)->Zo 178 [YD n,X4 s,.i j,Z3 kept] [] (Ym (Yn (TR n.decls kept s.op s.num s.args j kd))))/\(∀(b:Z7) (kept:LI),(wB n.decls b)->(Bu b)->(kept.length+b.sz<=900000000)->(b.sz<=k)->Zo 158 [YD n,Yn b,Z3 kept] [] (Ym (Yn (Ws n.decls kept b)))):=by
 induction k with
 | zero=>exact ⟨fun s j K kd h1 h2 h3 h4 h5=>by have:=s.sz_pos;omega,fun b K h1 h2 h3 h4=>by have:=b.sz_eq;omega⟩
 | succ k ih=>exact ⟨fun s j K kd h1 h2 h3 h4 h5=>Zeb n s j K kd hn h1 h2 h3 h4 fun b2 K2 q1 q2 q3 q4=>ih.2 b2 K2 q1 q2 q3 om,fun b K h1 h2 h3 h4=>Zea n b K hn h1 h2 h3 fun s j K2 kd q1 q2 q3 q4 q5=>ih.1 s j K2 kd q1 q2 q3 q4 om⟩
theorem Ze9 (n:ZF) (b:Z7) (kept:LI) (hn:Xs n:=by exact ob) (hw:wB n.decls b:=by exact ob) (hn2:Bu b:=by exact ob) (hK:kept.length+b.sz<=900000000:=by exact ob):Zo 158 [YD n,Yn b,Z3 kept] [] (Ym (Yn (Ws n.decls kept b))):=(Zec n hn b.sz).2 b kept hw hn2 hK (X9 _)
theorem Z7l (n:ZF) (hn:Xs n:=by exact ob) (hz:JF n:=by exact ob) (hwb:∀r∈n.routines,wB n.decls r.body):Zo 116 [YD n] [] (Ym (YD (CD n))):=by
 have hzl:=hn.len
 refine ZE 38 Tryz.func116 (ar (iA (X6 n) fun b1=>iA [nl,nl] fun b2=>ie (Zp 2 [1] (Zt [] (AW n.decls (hd:=hn.decls)) (iL (X8 []) 0 5 fun v1=>Z0 1 (iA [nl,nl] fun b3=>?_))))))
 refine Zz 0 b3 [Yd n.decls,WL [] v1] (ie (Y6 (ab 0 (Y5 (fun fz gz m F h=>∃(k:Nat) (v:Value),(k<=n.routines.length)/\F=sF [1,2,3] fz [(4,.i k)]/\h=[.obj b3 [Yd n.decls,WL ((n.routines.take k).map (BG n.decls)) v],Zi gz 2,Zi gz 3,.tail v 5]/\m=n.routines.length-k) _ _ _ ⟨0,v1,ob,rfl,rfl,rfl⟩ (wk [0,1,1,0] (Ye fl)) ?_))))
 rintro m F h ⟨k,v,Yl,rfl,rfl,rfl⟩
 refine Yr 3 [2] (iw (TJ n.routines) (Y0 ((k:Int)<(n.routines.length:Int)) (fun Z9=>?_) (fun Z9=>?_)))
 ·refine ak (aq (ab 1 (Zp 3 [2] ?_)))
  obtain ⟨x1,Z4⟩:=Zv n.routines k om
  have hrm:=Y4 Z4
  have hbz:=hz.body _ hrm
  have hpl:=hn.params_at Z4
  have hll:=hn.lent_at Z4
  have hww:=hwb _ hrm
  exact Zq (Zk none (k:Int) 5 (VD Z4)) (Z0 1 (iA [nl,nl,.i 0,nl,.i 0] fun b4=>Zz 0 b4 (Jo x1) (ie (aE 15 (ZY 7 15 [0,1,2,3,4,5,6,7] [1,0,3,0,0] (dw 8 (Yc x1.params) (Z8 9 (YF 9 [] [0,1] [b4,b3] (Zei n x1.body x1.params.length (hw:=hww)) (Z8 10 (YF 10 [] [1] [b3] (DI x1 (WO n.decls x1.params.length x1.body)) (Z8 11 (dL 11 [1] [b3] (X8 [YA.mk x1.params x1.lent x1.result (WO n.decls x1.params.length x1.body)]) 1 5 fun v2=>Yv 3 3 [] [(34,Jt [YA.mk x1.params x1.lent x1.result (WO n.decls x1.params.length x1.body)])] (Z8 12 (dp 12 5 [] [] (X8 ((n.routines.take (k+1)).map (BG n.decls))) (X8 ((n.routines.take k).map (BG n.decls))) (X8 [YA.mk x1.params x1.lent x1.result (WO n.decls x1.params.length x1.body)]) v none 5 (T0 _) (T0 _) (Bh _) (by simp<;>omega) (by rw [V9 Z4];simp [X8,BG]) fun v3=>Zs 1 2 [13] (Z8 14 (YT 14 3 [] [] b3 [Yd n.decls,WL ((n.routines.take (k+1)).map (BG n.decls)) v3] (de (az (Z0 1 (ZK k (Z1 (ZM ⟨k+1,v3,ob,rfl,rfl,rfl⟩ (wk [0,3,3,0] (ZW k fl))))))))))))))))))))))))
 exact ax 0 (Zp 1 [0] (Zz 1 b2 [Yd n.decls,WL ((n.routines.take k).map (BG n.decls)) v] (ie (at_ (r3 [] [.agg [Yd n.decls,WL ((n.routines.take k).map (BG n.decls)) v]] [0] [(b2,b2)] ⟨rfl,rfl⟩ (Zc.agg (.cons (Zc.sl _ (Yj YU ob)) (.cons (Zc.sl _ (Yj X8 (by rw [WT om];rfl))) .nil))))))))
theorem Z7h (n:ZF) (hn:Xs n:=by exact ob) (hz:JF n:=by exact ob) (hwb:∀r∈n.routines,wB n.decls r.body) (hnr:∀r∈n.routines,QN r.body):Zo 117 [YD n] [] (Ym (YD (CC n))):=by
 have hzl:=hn.len
 refine ZE 38 Tryz.func117 (ar (iA (X6 n) fun b1=>iA [nl,nl] fun b2=>ie (Zp 2 [1] (Zt [] (AW n.decls (hd:=hn.decls)) (iL (X8 []) 0 5 fun v1=>Z0 1 (iA [nl,nl] fun b3=>?_))))))
 refine Zz 0 b3 [Yd n.decls,WL [] v1] (ie (Y6 (ab 0 (Y5 (fun fz gz m F h=>∃(k:Nat) (v:Value),(k<=n.routines.length)/\F=sF [1,2,3] fz [(4,.i k)]/\h=[.obj b3 [Yd n.decls,WL ((n.routines.take k).map (BE n.decls)) v],Zi gz 2,Zi gz 3,.tail v 5]/\m=n.routines.length-k) _ _ _ ⟨0,v1,ob,rfl,rfl,rfl⟩ (wk [0,1,1,0] (Ye fl)) ?_))))
 rintro m F h ⟨k,v,Yl,rfl,rfl,rfl⟩
 refine Yr 3 [2] (iw (TJ n.routines) (Y0 ((k:Int)<(n.routines.length:Int)) (fun Z9=>?_) (fun Z9=>?_)))
 ·refine ak (aq (ab 1 (aE 21 (ZY 16 21 [0,1,2,3,4] [0,2] ?_))))
  obtain ⟨x1,Z4⟩:=Zv n.routines k om
  have hrm:=Y4 Z4
  have hbz:=hz.body _ hrm
  have hpl:=hn.params_at Z4
  have hll:=hn.lent_at Z4
  have hww:=hwb _ hrm
  exact dx 5 (Zk none (k:Int) 5 (VD Z4)) (ZY 10 15 [6,7,8,9,10] [2,2] (dx 11 (Zk none (k:Int) 5 (VD Z4)) (Zs 7 9 [12,13] (Z8 14 (dL 14 [2,2,2,0] [b1,b1,b1,b3] (Z6 []) 0 1 fun v2=>Yv 6 6 [] [(31,Z3 [])] (Z8 15 (YF 15 [] [2,0] [b1,b3] (Ze9 n x1.body [] (hw:=hww) (hn2:=(Cw (hnr _ hrm)))) (Z8 16 (YF 16 [] [0] [b3] (DI x1 (Ws n.decls [] x1.body)) (Z8 17 (dL 17 [0] [b3] (X8 [YA.mk x1.params x1.lent x1.result (Ws n.decls [] x1.body)]) 1 5 fun v3=>Yv 3 3 [] [(34,Jt [YA.mk x1.params x1.lent x1.result (Ws n.decls [] x1.body)])] (Z8 18 (dp 18 5 [] [] (X8 ((n.routines.take (k+1)).map (BE n.decls))) (X8 ((n.routines.take k).map (BE n.decls))) (X8 [YA.mk x1.params x1.lent x1.result (Ws n.decls [] x1.body)]) v none 5 (T0 _) (T0 _) (Bh _) (by simp<;>omega) (by rw [V9 Z4];simp [X8,BE]) fun v4=>Zs 1 2 [19] (Z8 20 (YT 20 3 [] [] b3 [Yd n.decls,WL ((n.routines.take (k+1)).map (BE n.decls)) v4] (de (az (Z0 1 (ZK k (Z1 (ZM ⟨k+1,v4,ob,rfl,rfl,rfl⟩ (wk [0,3,3,0] (ZW k fl)))))))))))))))))))))))
 exact ax 0 (Zp 1 [0] (Zz 1 b2 [Yd n.decls,WL ((n.routines.take k).map (BE n.decls)) v] (ie (at_ (r3 [] [.agg [Yd n.decls,WL ((n.routines.take k).map (BE n.decls)) v]] [0] [(b2,b2)] ⟨rfl,rfl⟩ (Zc.agg (.cons (Zc.sl _ (Yj YU ob)) (.cons (Zc.sl _ (Yj X8 (by rw [WT om];rfl))) .nil))))))))
theorem Z7g (rd:Nat) (bs:LI) (p:Nat) (ZL:∀z∈bs,0<=z/\z<=255) (hp:p+400001<=1000000000:=by exact ob):Zo 147 [.p rd 0] [YC rd bs p] (fun r h=>∃(n:ZF) (p2:Nat),r=YD n/\h=[YC rd bs p2]/\FO n 181 WJ/\p<=p2/\p2<=p+400001):=by
 refine ZE 13 Tryz.func147 (ar (iA [nl,nl] fun b1=>ie (Ya 1 (ic [1] (Z6p rd bs p (ZL:=ob)) ?_))))
 rintro _ _ ⟨g1,p21,rfl,rfl,Y3⟩
 have QI:=Y3
 refine ic [] (Z7a g1 (hg:=QI.1)) ?_
 rintro _ _ ⟨n1,rfl,rfl,Yq⟩
 have hnm:=Yq
 refine iA [nl,nl] fun b2=>Zz 0 b2 (X6 n1) (ie (YO 1 (ic [1] (XU rd bs p21 3 (ZL:=ob)) ?_)))
 rintro _ _ ⟨k1,rfl,rfl,YR⟩
 refine Yz (k1==0) Zb (fun Z9=>?_) (fun Z9=>?_)
 ·refine Zp 1 [1] (ic [] (Z70 n1 181 (hn:=hnm)) ?_)
  rintro _ _ ⟨n21,rfl,rfl,X1⟩
  have hlm:=X1
  exact Zz 2 b1 (X6 n21) (ie (at_ (r3 [1] [YD n21] [0] [(b1,b1)] ⟨n21,p21+1,rfl,rfl,(by first|exact ⟨hlm,by omega,by omega⟩|exact ⟨hnm,by omega,by omega⟩)⟩ (lr _))))
 exact ak (Zp 1 [1] (Zz 2 b1 (X6 n1) (ie (at_ (r3 [1] [YD n1] [0] [(b1,b1)] ⟨n1,p21+1,rfl,rfl,(by first|exact ⟨hlm,by omega,by omega⟩|exact ⟨hnm,by omega,by omega⟩)⟩ (lr _))))))
theorem Z6h (rd:Nat) (bs:LI) (p:Nat) (ZL:∀z∈bs,0<=z/\z<=255) (hp:p+400002<=1000000000:=by exact ob):Zo 113 [.p rd 0] [YC rd bs p] (fun r h=>∃(n:ZF) (p2:Nat),r=YD n/\h=[YC rd bs p2]/\FO n 814510 Vu/\p<=p2/\p2<=p+400002):=by
 refine ZE 15 Tryz.func113 (ar (iA [nl,nl] fun b1=>ie (Ya 1 (ic [1] (Z7g rd bs p (ZL:=ob)) ?_))))
 rintro _ _ ⟨n1,p21,rfl,rfl,Y3⟩
 have hpf:=Y3
 refine iA [nl,nl] fun b2=>Zz 0 b2 (X6 n1) (ie (Zp 1 [0] (ic [] (Z6g n1 181 (hn:=hpf.1)) ?_)))
 rintro _ _ ⟨n21,rfl,rfl,Yq⟩
 have hcf:=FO.le Yq (show 4500*181+10<=814510 by omega)
 refine iA [nl,nl] fun b3=>Zz 0 b3 (X6 n21) (ie (YO 1 (ic [2] (XU rd bs p21 4 (ZL:=ob)) ?_)))
 rintro _ _ ⟨k1,rfl,rfl,YR⟩
 refine Yz (k1==0) Zb (fun Z9=>?_) (fun Z9=>?_)
 ·refine az (Zu 1 [2] (ic [] (Z6t n1 181 (hn:=hpf.1)) ?_))
  rintro _ _ ⟨n22,rfl,rfl,X1⟩
  have hlf:=FO.le X1 (show 60*181<=814510 by omega)
  exact Zz 1 b3 (X6 n22) (ie (Zp 1 [0] (Zz 3 b1 (X6 n22) (ie (at_ (r3 [2] [YD n22] [0] [(b1,b1)] ⟨n22,p21+1,rfl,rfl,(by first|exact ⟨hlf,by omega,by omega⟩|exact ⟨hcf,by omega,by omega⟩)⟩ (lr _)))))))
 exact ak (Zp 1 [1] (Zz 3 b1 (X6 n21) (ie (at_ (r3 [1] [YD n21] [0] [(b1,b1)] ⟨n21,p21+1,rfl,rfl,(by first|exact ⟨hlf,by omega,by omega⟩|exact ⟨hcf,by omega,by omega⟩)⟩ (lr _))))))
theorem IE (rd:Nat) (bs:LI) (p:Nat) (xs:LI) (ZL:∀z∈bs,0<=z/\z<=255) (hp:p+3<=1000000000:=by exact ob) (hl:xs.length<=1000000:=by exact ob):Zo 101 [.p rd 0,Z3 xs] [YC rd bs p] (fun r h=>∃(zs:LI) (p2:Nat),r=Z3 zs/\h=[YC rd bs p2]/\zs.length<=xs.length+1/\p<=p2/\p2<=p+3):=by
 refine ZE 32 Tryz.func101 (Y1 (Ya 1 (ic [] (AX xs) ?_)))
 rintro _ _ ⟨v1,rfl,rfl⟩
 refine Z1 (YO 1 (Zq (CG 0 v1 xs) (Z0 2 (ib (b:=(decide ((xs.length:Int)>0))) 11 (fun Za=>?_) (fun Za=>?_)))))
 ·have Y3:(xs.length:Int)>0:=(dq).1 Za
  refine Z0 1 (ic [1] (XU rd bs p 2 (ZL:=ob)) ?_)
  rintro _ _ ⟨k1,rfl,rfl,Yq⟩
  refine Yz (k1==0) Zb (fun Z9=>?_) (fun Z9=>?_)
  ·refine Ya 3 (Zq (CG 1 v1 xs) (ic [0] (Je rd bs (p+1) xs.length (ZL:=ob)) ?_))
   rintro _ _ ⟨YS,rfl,rfl,YR⟩
   refine Z0 1 (iL (Z6 [0,1,-1,7,1000,1001]) 6 1 fun v2=>ZU 0 [(22,Z3 [0,1,-1,7,1000,1001])] (ic [1] (Uw rd bs ((p+1)+1) [0,1,-1,7,1000,1001] (ZL:=ob)) ?_))
   rintro _ _ ⟨z1,rfl,rfl,X1⟩
   exact Zq (U3 2 v1 xs (YS:Int) YS) (IT 2 v1 xs YS z1 (ie (Y1 (Fl 4 0 (v:=v1) (xs:=(xs.set YS z1)) (at_ (r2 [1] [ZG (xs.set YS z1) v1.v] ⟨(xs.set YS z1),((p+1)+1)+1,rfl,rfl,⟨by simp,by omega,by omega⟩⟩ (Zc.forget _ _)))))))
  refine ak (Ya 2 (iL (Z6 [0,1,2,-1,1000]) 5 1 fun v3=>ZU 0 [(28,Z3 [0,1,2,-1,1000])] (ic [1] (Uw rd bs (p+1) [0,1,2,-1,1000] (ZL:=ob)) ?_)))
  rintro _ _ ⟨z2,rfl,rfl,Xe⟩
  exact iL (Z6 [z2]) 1 1 fun v4=>ZU 0 [(30,Z3 [z2])] (AM 3 v1 xs [z2] none fun v5=>Z1 (Fl 4 0 (v:=v5) (xs:=(xs++[z2])) (at_ (r2 [2] [ZG (xs++[z2]) v5.v] ⟨(xs++[z2]),(p+1)+1,rfl,rfl,⟨by simp,by omega,by omega⟩⟩ (Zc.forget _ _)))))
 have XO:¬((xs.length:Int)>0):=ZV dq Za
 refine Z1 (WW (ak (Ya 2 (iL (Z6 [0,1,2,-1,1000]) 5 1 fun v6=>ZU 0 [(28,Z3 [0,1,2,-1,1000])] (ic [2] (Uw rd bs p [0,1,2,-1,1000] (ZL:=ob)) ?_)))))
 rintro _ _ ⟨z3,rfl,rfl,W9⟩
 exact iL (Z6 [z3]) 1 1 fun v7=>ZU 0 [(30,Z3 [z3])] (AM 3 v1 xs [z3] none fun v8=>Z1 (Fl 4 0 (v:=v8) (xs:=(xs++[z3])) (at_ (r2 [2] [ZG (xs++[z3]) v8.v] ⟨(xs++[z3]),p+1,rfl,rfl,⟨by simp,by omega,by omega⟩⟩ (Zc.forget _ _)))))
open Go.Proofs
open Go.Proofs
open Go.Proofs
theorem Ze2 (fs:LI) (q:Int) (hl:fs.length<=1000000:=by exact ob) (hq:0<=q/\q<=1000000000:=by exact ob):Zo 146 [Z3 fs,.i q] [] (Ym (Z3 (Ux fs q))):=by
 refine ZE 26 Tryz.func146 (Y1 (ar (iL (Z6 []) 0 1 fun v1=>?_)))
 refine Z1 (Y6 (ab 0 (Y5 (fun fz gz m F h=>∃(k:Nat) (acc:LI) (v:Value),(k<=fs.length)/\(acc.length<=k)/\(acc++Ux (fs.drop k) (q+k)=Ux fs q)/\F=sF [0,1] fz [(5,ZG acc v),(6,.i k)]/\h=[.tail v 1]/\m=fs.length-k) _ _ _ ⟨0,[],v1,ob,ob,(by simp),rfl,rfl,rfl⟩ (wk [0] (fr (Ye fl))) ?_)))
 rintro m F h ⟨k,acc,v,Yl,Zj,ZD,rfl,rfl,rfl⟩
 refine YO 2 (iw (Yc fs) (Y0 ((k:Int)<(fs.length:Int)) (fun Z9=>?_) (fun Z9=>?_)))
 ·refine ak (aq (ab 1 (Ya 2 ?_)))
  obtain ⟨x1,Z4⟩:=Zv fs k om
  refine Zq (Zk none (k:Int) 1 (Y7 Z4)) (Z1 (At (fun fz gz F h=>∃(w:Value),F=sF [0,1,6] fz [(5,ZG (if x1≠0 then acc++[q+k] else acc) w)]/\h=[.tail w 1]) (fun _ _=>rfl) ?_ ?_))
  ·refine ac (x1 != 0) Yi (fun Zh=>?_) (fun Zh=>?_)
   ·exact az (Z0 3 (ia ((q+(k:Int))) ((q)+((k:Int))) (iL (Z6 [(q+(k:Int))]) 1 1 fun v2=>ZU 0 [(23,Z3 [(q+(k:Int))])] (ip 1 (Z6 (acc++[(q+(k:Int))])) (Z6 acc) (Z6 [(q+(k:Int))]) v none 1 (YE _) (YE _) (W2 _) (by simp<;>omega) (by simp [W6,Z6]) fun v3=>Z1 (ZH ⟨v3,rfl,rfl⟩ (wk [0] (fc (x:=ZG (acc++[(q+(k:Int))]) v3) (Zc.slh _ (Yj Z6 (by first|rfl|(rw [Zl Zh])|(rw [Zd Zh])|(simp [Zh];done)|(rw [Yb];simp [Zh];done)|omega))) fl)))))))
   exact ak (ZH ⟨v,rfl,rfl⟩ (wk [0] (fc (x:=ZG acc v) (Zc.slh _ (Yj Z6 (by first|rfl|(rw [Zl Zh])|(rw [Zd Zh])|(simp [Zh];done)|(rw [Yb];simp [Zh];done)|omega))) fl)))
  rintro F h ⟨w,rfl,rfl⟩
  exact az (Z0 1 (ZK k (Z1 (ZM ⟨k+1,(if x1≠0 then acc++[q+k] else acc),w,ob,(by split<;>(try simp)<;>omega),(Z7v Z4 ZD),rfl,rfl,rfl⟩ (wk [0] (fr (ZW k fl)))))))
 exact ax 0 (ar (Zm (ZP (ZG acc v) (Zc.sl _ (Yj Z6 (Z7u om ZD))))))
theorem Sr (mm:Nat) (hl:mm<=4294967296:=by exact ob):Zo 109 [.i 0,.i mm] [] (Ym (Z3 (XF mm))):=by
 refine ZE 20 Tryz.func109 (Y1 (ar (iL (Z6 []) 0 1 fun v1=>?_)))
 refine Z1 (Y6 (ab 0 (Y5 (fun fz gz m F h=>∃(k:Nat) (v:Value),(k<=mm)/\F=sF [0,1] fz [(5,ZG (XF k) v),(6,.i k)]/\h=[.tail v 1]/\m=mm-k) _ _ _ ⟨0,v1,ob,rfl,rfl,rfl⟩ (wk [0] (fc (x:=ZG [] v1) (Zc.slh _ (Yj Z6 rfl)) (Ye fl))) ?_)))
 rintro m F h ⟨k,v,Yl,rfl,rfl,rfl⟩
 refine Xa (Y0 ((k:Int)<(mm:Int)) (fun Z9=>?_) (fun Z9=>?_))
 ·exact ak (aq (ab 1 (az (Z0 3 (ia ((k:Int)) ((0)+((k:Int))) (iL (Z6 [(k:Int)]) 1 1 fun v2=>ZU 0 [(17,Z3 [(k:Int)])] (ip 1 (Z6 (XF (k+1))) (Z6 (XF k)) (Z6 [(k:Int)]) v none 1 (YE _) (YE _) (W2 _) (by rw [Yc,Du];simp<;>omega) (by rw [Zar,W6]) fun v3=>Z1 (az (Z0 1 (ZK k (Z1 (ZM ⟨k+1,v3,ob,rfl,rfl,rfl⟩ (wk [0] (fr (ZW k fl)))))))))))))))
 exact ax 0 (ar (Zm (ZP (ZG (XF k) v) (Zc.sl _ (Yj Z6 (by rw [show k=mm by omega]))))))
theorem SA (xs:LI) (i:Int) (y:Int) (hl_xs:xs.length<=4294967296:=by exact ob) (hi:0<=i/\i<xs.length:=by exact ob):Zo 164 [Z3 xs,.i i,.i y] [] (fun r h=>∃(v:Value),r=ZG (xs.set i.toNat y) v/\h=[.tail v 1]):=by
 refine ZE 15 Tryz.func164 (Y1 (Ya 1 (ic [] (AX xs) ?_)))
 rintro _ _ ⟨v1,rfl,rfl⟩
 exact Z1 (Ya 3 (Zq (U3 0 v1 xs i i.toNat (hq:=rfl)) (IT 0 v1 xs i.toNat y (ie (Y1 (Fl 6 0 (v:=v1) (xs:=(xs.set i.toNat y)) (at_ (r1 [0] ⟨v1.v,rfl,rfl⟩))))))))
theorem KS (e:Nat) (v:Hd) (c:List Instr) (x:Instr) (hl:c.length<=4200000000:=by exact ob):Zo 111 [.p e 0,TE x] [.obj e [.h v],rK v 6 (Zg (Y9 c))] (fun r h=>∃(v2:Hd),r=.i c.length/\h=[.obj e [.h v2],rK v2 6 (Zg (Y9 (c++[x])))]):=by
 exact ZE 21 Tryz.func111 (ar (iA (VF x) fun b1=>Z1 (aD 11 (ZY 5 11 [0,1,2,3,4,5] [1,0] (Z8 6 (dL 6 [1] [e] (Y9 [x]) 1 6 fun v1=>Yv 4 4 [] [(11,KM [x])] (Z8 7 (HX 7 3 c.length [] [] v 6 (Zg (Y9 c)) (Y9 [x]) none (Tx c) (Ay _) (FH _) (by simp [Y9]) (by simp<;>omega) fun v2=>Zs 1 3 [8,9] (Z8 10 (YT 10 3 [] [] e [.h v2] (de (Zp 4 [0] (Zq (L6 1 (c.length+1) v2 6 (Zg (Y9 c)++Zg (Y9 [x])) (by rw [Ys,Tx,Tx];simp only [Yx,X7];omega)) (ia ((((c.length+1:Nat):Int)-1)) ((((c.length+1:Nat):Int))-(1)) (Zm (r2 [0,0] [.i (((c.length+1:Nat):Int)-1)] ⟨v2,rfl,rfl⟩ li (eq:=(rc (rr (ls:=Zg (Y9 c)++Zg (Y9 [x])) (Z5j c x) rz)))))))))))))))))))
theorem LY (e:Nat) (v:Hd) (c:List Instr) (i:Nat) (hz:Zr c i:=by exact ob) (hl:c.length<=4200000000:=by exact ob):Zo 163 [.p e 0,.i i] [.obj e [.h v],rK v 6 (Zg (Y9 c))] (fun r h=>∃(v2:Hd),h=[.obj e [.h v2],rK v2 6 (Zg (Y9 (VA c i)))]):=by
 have hzl:=hz.lt
 obtain ⟨x,hx,Z4,Zy⟩:=hz
 refine ZE 30 Tryz.func163 (L5 1 c.length (v:=v) (Tx c) om (fun g1 c1 he1=>?_))
 subst he1
 exact Zp 5 [0] (Zq (Wa g1 c.length c1 i 6 (i:Int)) (U7 (Vi 1 g1 c.length c1 6 (i*6) (Zg (Y9 c)) (VF x) 45 (TE x) (Iu hx)) (iA [.i 0,.i 0,.i 0,.i 0,nl,nl] fun b1=>Zz 0 b1 (VF x) (ie (aE 19 (ZY 8 19 [0,1,2,3,4,5,6,7,8,9,10] [1,0,1] (dn 11 (.i c.length) (.i c.length) (lr _) (ZY 2 7 [12,13,14,15,16] [0,0] (dx 17 (Wa g1 c.length c1 i 6 (i:Int)) (Z8 18 (JV 18 2 [] [] g1 c.length c1 6 (i*6) [.i x.op,.i 0,.i c.length,.i 0,Z3 x.args,Z3 x.jumps] (Zg (Y9 c)) (Zg (Y9 (c.set i ⟨x.op,0,c.length,0,x.args,x.jumps⟩))) (by rw [Tx];simp only [Yx,X7];omega) (FW (t:=⟨x.op,0,c.length,0,x.args,x.jumps⟩) hx) (de (r2 [2,0] [] ⟨⟨some ⟨g1,0,none⟩,c.length,c1⟩,rfl⟩ (lr _) (eq:=(rc (rr (ls:=(Zg (Y9 (c.set i ⟨x.op,0,c.length,0,x.args,x.jumps⟩)))) (by rw [Z13 hx Z4 Zy]) rz))))))))))))))))
theorem Zdp (n:ZF) (s:Z5) (mw:Nat) (cons:LI) (first:LI) (e:Nat) (v:Hd) (c:List Instr) (hn:Xs n) (ht:fS n.decls n.routines.length mw s) (hop:s.op=7∨s.op=8) (hcl:cons.length=mw) (hfl:first.length=mw) (hfs:Tv first) (hb:mw+4*s.sz<=900000000) (hcn:c.length+16*s.sz<=4000000000) (ih:∀(b2:Z7) (m2:Nat) (cons2:LI) (first2:LI) (e:Nat) (v5:Hd) (c2:List Instr),(fB n.decls n.routines.length m2 b2)->(cons2.length=m2)->(first2.length=m2)->(Tv first2)->(m2+4*b2.sz<=900000000)->(c2.length+16*b2.sz<=4000000000)->(b2.sz<s.sz)->Zo 110 [.p e 0,YD n,Yn b2,Z3 cons2,Z3 first2] [.obj e [.h v5],rK v5 6 (Zg (Y9 c2))] (fun r h=>∃(v2:Hd),h=[.obj e [.h v2],rK v2 6 (Zg (Y9 (flB (XM n.decls) n.decls (cons2,first2) b2 c2)))])):Zo 144 [.p e 0,YD n,X4 s,Z3 cons,Z3 first] [.obj e [.h v],rK v 6 (Zg (Y9 c))] (fun r h=>∃(v2:Hd),h=[.obj e [.h v2],rK v2 6 (Zg (Y9 (VX (XM n.decls) n.decls (cons,first) s c)))]):=by
 have Xo:=hn.decls
 have hf:=(AE s).1 ht
 have hse:=s.sz_eq
 have haz:=J6 s
 have hkz:=QK s
 have hcp:cons.length<=900000000:=by omega
 refine ZE 208 Tryz.func144 (ar (iA (X6 n) fun b1=>iA (Wb s) fun b2=>ie (Ya 1 (iw (Yc cons) (Z1 (Xa (WI [0] (ac (s.op==7) Zb (fun Z9=>?_) (fun Z9=>?_)))))))))
 ·obtain ⟨k0,k1,hkk,ht0,ht1⟩:=Z4o hf Z9
  have hbe:YW s.kids=k0.sz+k1.sz:=by rw [hkk];simp [YW]
  have hk0:s.kids[0]? = some k0:=by rw [hkk];rfl
  have hk1:s.kids[1]? = some k1:=by rw [hkk];rfl
  have hs0:=Q7 hk0
  have hs1:=Q7 hk1
  refine Zp 3 [0] (ic [] (WP s.args) ?_)
  rintro _ _ ⟨v1,rfl,rfl⟩
  refine ZU 1 [(33,.agg [.i 20,.i 0,.i 0,.i 0,Z3 s.args,.sl [] none])] (ic [3,3] (KS e v c (Instr.mk 20 0 0 0 s.args []) (hl:=WD)) ?_)
  rintro _ _ ⟨v21,rfl,rfl⟩
  refine Z1 (aD 9 (ZY 5 9 [0,1,2,3] [4,3] (dx 4 (Zk none 0 2 (UK hk0)) (Zs 1 4 [5,6,7] (Z8 8 (dc 8 [0,0] [] [] (ih k0 _ cons first e v21 (c++[(Instr.mk 20 0 0 0 s.args [])]) (by first|exact ht0|exact ht1|exact hbt) WD WD (by first|exact hfs|exact Tv.x hfs om om) WD WD ob) ?_))))))
  rintro _ _ ⟨v22,rfl⟩
  have q1:(flB (XM n.decls) n.decls (cons,first) k0 (c++[(Instr.mk 20 0 0 0 s.args [])])).length+16<=_:=Bk (XM n.decls) Xo _ _ _
  simp only [Bd,Cg,Gp,Ys,Yx,X7] at q1
  refine de (Zp 4 [3] (Zq (Zk none 0 2 (UK hk0)) (Z0 2 (iL (Z6 [k0.result]) 1 1 fun v2=>ZU 1 [(52,.agg [.i 18,.i cons.length,.i 0,.i 0,Z3 [k0.result],.sl [] none])] (ic [1,1] (KS e v22 (flB (XM n.decls) n.decls (cons,first) k0 (c++[(Instr.mk 20 0 0 0 s.args [])])) (Instr.mk 18 (cons.length:Int) 0 0 [k0.result] []) (hl:=WD)) ?_)))))
  rintro _ _ ⟨v23,rfl,rfl⟩
  refine ie (ar (ZU 2 [(55,.agg [.i 22,.i 0,.i 0,.i 0,.sl [] none,.sl [] none])] (ic [0,0] (KS e v23 ((flB (XM n.decls) n.decls (cons,first) k0 (c++[(Instr.mk 20 0 0 0 s.args [])]))++[(Instr.mk 18 (cons.length:Int) 0 0 [k0.result] [])]) (Instr.mk 22 0 0 0 [] []) (hl:=WD)) ?_)))
  rintro _ _ ⟨v24,rfl,rfl⟩
  refine Z1 (Ya 2 (ic [0,0] (LY e v24 (((flB (XM n.decls) n.decls (cons,first) k0 (c++[(Instr.mk 20 0 0 0 s.args [])]))++[(Instr.mk 18 (cons.length:Int) 0 0 [k0.result] [])])++[(Instr.mk 22 0 0 0 [] [])]) c.length (hz:=(by first|exact BZ ei (Y4 hei)|(repeat (first|exact Zr.new rfl rfl|refine Zr.app ?_|refine Zr.flB ?_|refine Zr.aim ?_)))) (hl:=WD)) ?_))
  rintro _ _ ⟨v25,rfl⟩
  refine ie (aD 9 (ZY 5 9 [0,1,2,3] [5,4] (dx 4 (Zk none 1 2 (UK hk1)) (Zs 1 4 [5,6,7] (Z8 8 (dc 8 [0,0] [] [] (ih k1 _ cons first e v25 (VA (((flB (XM n.decls) n.decls (cons,first) k0 (c++[(Instr.mk 20 0 0 0 s.args [])]))++[(Instr.mk 18 (cons.length:Int) 0 0 [k0.result] [])])++[(Instr.mk 22 0 0 0 [] [])]) c.length) (by first|exact ht0|exact ht1|exact hbt) WD WD (by first|exact hfs|exact Tv.x hfs om om) WD WD ob) ?_))))))
  rintro _ _ ⟨v26,rfl⟩
  have q2:((flB (XM n.decls) n.decls (cons,first) k1 (VA (((flB (XM n.decls) n.decls (cons,first) k0 (c++[(Instr.mk 20 0 0 0 s.args [])]))++[(Instr.mk 18 (cons.length:Int) 0 0 [k0.result] [])])++[(Instr.mk 22 0 0 0 [] [])]) c.length))).length+16<=_:=Bk (XM n.decls) Xo _ _ _
  simp only [Bd,Cg,Gp,Ys,Yx,X7] at q2
  refine de (Zp 4 [4] (Zq (Zk none 1 2 (UK hk1)) (Z0 2 (iL (Z6 [k1.result]) 1 1 fun v3=>ZU 1 [(77,.agg [.i 18,.i cons.length,.i 0,.i 0,Z3 [k1.result],.sl [] none])] (ic [1,1] (KS e v26 (flB (XM n.decls) n.decls (cons,first) k1 (VA (((flB (XM n.decls) n.decls (cons,first) k0 (c++[(Instr.mk 20 0 0 0 s.args [])]))++[(Instr.mk 18 (cons.length:Int) 0 0 [k0.result] [])])++[(Instr.mk 22 0 0 0 [] [])]) c.length)) (Instr.mk 18 (cons.length:Int) 0 0 [k1.result] []) (hl:=WD)) ?_)))))
  rintro _ _ ⟨v27,rfl,rfl⟩
  refine ie (Ya 2 (ic [0,0] (LY e v27 ((flB (XM n.decls) n.decls (cons,first) k1 (VA (((flB (XM n.decls) n.decls (cons,first) k0 (c++[(Instr.mk 20 0 0 0 s.args [])]))++[(Instr.mk 18 (cons.length:Int) 0 0 [k0.result] [])])++[(Instr.mk 22 0 0 0 [] [])]) c.length))++[(Instr.mk 18 (cons.length:Int) 0 0 [k1.result] [])]) (((flB (XM n.decls) n.decls (cons,first) k0 (c++[(Instr.mk 20 0 0 0 s.args [])]))++[(Instr.mk 18 (cons.length:Int) 0 0 [k0.result] [])]).length) (hz:=(by first|exact BZ ei (Y4 hei)|(repeat (first|exact Zr.new rfl rfl|refine Zr.app ?_|refine Zr.flB ?_|refine Zr.aim ?_)))) (hl:=WD)) ?_))
  rintro _ _ ⟨v28,rfl⟩
  exact ie (at_ (r2 [0,0] [] ⟨v28,rfl⟩ (lr _) (eq:=(rc (rr (ls:=Zg (Y9 (VA ((flB (XM n.decls) n.decls (cons,first) k1 (VA (((flB (XM n.decls) n.decls (cons,first) k0 (c++[(Instr.mk 20 0 0 0 s.args [])]))++[(Instr.mk 18 (cons.length:Int) 0 0 [k0.result] [])])++[(Instr.mk 22 0 0 0 [] [])]) c.length))++[(Instr.mk 18 (cons.length:Int) 0 0 [k1.result] [])]) (((flB (XM n.decls) n.decls (cons,first) k0 (c++[(Instr.mk 20 0 0 0 s.args [])]))++[(Instr.mk 18 (cons.length:Int) 0 0 [k0.result] [])]).length)))) (by rw [Z5b Z9 hkk];rfl) rz)))))
 have h8:s.op=8:=by omega
 obtain ⟨hkl,hkm⟩:=Z4p hf h8
 obtain ⟨x0,hxl⟩:=NM hf (.inr (.inl h8))
 have OD:s.args[0]? = some x0:=by rw [hxl];rfl
 have hg0:=K6 OD
 have hxb:=hf.args x0 (by rw [hxl];exact Xr.2 rfl)
 have hk3:=Dt Xo s.num
 refine ak (Zp 2 [0] (Zq (Zk none 0 1 (Y7 OD)) (Z1 (Zp 4 [1,0] (ic [] (KR n.decls s.num) ?_)))))
 rintro _ _ ⟨v4,rfl,rfl⟩
 refine Z1 (Zp 4 [1] (iL (Z6 [x0]) 1 1 fun v5=>ZU 1 [(96,.agg [.i 21,.i 0,.i s.num,.i 0,Z3 [x0],.sl [] none])] (ic [4,4] (KS e v c (Instr.mk 21 0 s.num 0 [x0] []) (hl:=WD)) ?_)))
 rintro _ _ ⟨v29,rfl,rfl⟩
 refine Z1 (ar (iL (Z6 []) 0 1 fun v6=>Z1 (ar (iL (Z6 []) 0 1 fun v7=>?_))))
 refine Z1 (Y6 (ab 0 (Y5 (fun fz gz m F h=>∃(k:Nat) (ts:LI) (u1:Value) (es:List Nat) (u2:Value) (cc:List Instr) (r3:Hd),(k<=s.kids.length)/\(U4 (XM n.decls) n.decls (cons,first) s.num x0 c.length (s.kids.drop k) k cc ts es=VX (XM n.decls) n.decls (cons,first) s c)/\(∀i∈es,Zr cc i)/\(cc[c.length]? = some (XK 21 0 s.num 0 s.args))/\(cc.length<=c.length+1+16*YW (s.kids.take k))/\(es.length<=k)/\(ts.length=k)/\F=sF [0,3,4,6,7,10,13,14,15] fz [(16,ZG ts u1),(17,ZG (Ql es) u2),(18,.i k)]/\h=[.obj e [.h r3],Zi gz 6,Zi gz 7,.tail u1 1,.tail u2 1,Zi gz 5,rK r3 6 (Zg (Y9 cc))]/\m=s.kids.length-k) _ _ _ ⟨0,[],v6,[],v7,(c++[Instr.mk 21 0 s.num 0 [x0] []]),v29,ob,(by rw [BN,Z5c h8,hg0,hxl];rfl),(fun i hi=>by cases hi),(by rw [hxl];simp [XK]),(by simp [YW]),ob,ob,rfl,rfl,rfl⟩ (wk [2,5,5,1,0,2,0] (fr (fc (x:=ZG [] v7) (Zc.slh _ (Yj Z6 ob)) (Ye fl))) (e:=(rc (rc (rc (rc (rc (rc (rr (ls:=Zg (Y9 (c++[(Instr.mk 21 0 s.num 0 [x0] [])]))) rfl rz))))))))) ?_)))
 rintro m F h ⟨k,ts,u1,es,u2,cc,r3,Yl,Zj,ZD,YL,Wg,QA,MZ,rfl,rfl,rfl⟩
 refine YO 2 (io (.i (((ZX n.decls s.num).length:Nat):Int)) (.i (((Z6 (ZX n.decls s.num)).length:Nat):Int)) (li (by rw [Yc])) (Y0 ((k:Int)<(((ZX n.decls s.num).length:Nat):Int)) (fun Zh=>?_) (fun Zh=>?_)))
 ·obtain ⟨xk,hxk⟩:=Zv (ZX n.decls s.num) k om
  obtain ⟨kb,hkb⟩:=Zv s.kids k om
  obtain ⟨hbt,hgc,hfk⟩:=hkm k kb xk hkb hxk
  have hks:=Q7 hkb
  obtain ⟨hkt1,hkt2⟩:=MX hkb
  have hcf:=Ve Xo xk
  have hfl3:(Ww n.decls s.num k).length=(ZQ n.decls xk).length:=by rw [hfk]
  refine ak (aq (ab 1 (Zp 5 [0] (Zq (L6 6 cc.length r3 6 (Zg (Y9 cc)) (Tx cc)) (iL (Z6 [(cc.length:Int)]) 1 1 fun v8=>ZU 0 [(112,Z3 [(cc.length:Int)])] (ip 4 (Z6 (ts++[(cc.length:Int)])) (Z6 ts) (Z6 [(cc.length:Int)]) u1 none 1 (YE _) (YE _) (W2 _) (by simp<;>omega) (by simp [W6,Z6]) fun v9=>?_))))))
  refine Z1 (aD 9 (ZY 5 9 [0,1,2,3] [4] (dx 4 (Zk (some v4) (k:Int) 1 (Y7 hxk)) (Zs 3 4 [5] (Z8 6 (YF 6 [] [] [] (Qa n.decls xk) (dn 7 (.i (((ZQ n.decls xk).length:Nat):Int)) (.i (((Z6 (ZQ n.decls xk)).length:Nat):Int)) (li (by rw [Yc])) (Zs 0 1 [8] (de (Y6 (ab 2 (Y5 (fun fz gz m F h=>∃(i:Nat) (r4:Hd),(i<=(ZQ n.decls xk).length)/\F=sF [0,3,4,6,7,10,13,14,15,16,17,18,19] fz [(20,.i i)]/\h=[.obj e [.h r4],Zi gz 3,Zi gz 4,Zi gz 5,Zi gz 6,Zi gz 0,rK r4 6 (Zg (Y9 (cc++WC cons.length i x0)))]/\m=(ZQ n.decls xk).length-i) _ _ _ ⟨0,r3,ob,rfl,rfl,rfl⟩ (wk [2,2,2,2,2,0,1] (Ye fl) (e:=(rc (rc (rc (rc (rc (rc (rr (ls:=Zg (Y9 cc)) (by simp [WC]) rz))))))))) ?_))))))))))))
  rintro m F h ⟨i,r4,U8,rfl,rfl,rfl⟩
  refine Xa (Y0 ((i:Int)<(((ZQ n.decls xk).length:Nat):Int)) (fun ZC=>?_) (fun ZC=>?_))
  ·refine ak (aq (ab 3 (az (Z0 3 (ia (((cons.length+i:Nat):Int)) (((cons.length:Int))+((i:Int))) (Z0 2 (iL (Z6 [x0]) 1 1 fun v10=>ZU 1 [(134,.agg [.i 19,.i (cons.length+i:Nat),.i i,.i 0,Z3 [x0],.sl [] none])] (ic [1,6] (KS e r4 (cc++WC cons.length i x0) (Instr.mk 19 ((cons.length+i:Nat):Int) (i:Int) 0 [x0] []) (hl:=WD)) ?_))))))))
   rintro _ _ ⟨v210,rfl,rfl⟩
   exact ie (az (Z0 1 (ZK i (Z1 (ZM ⟨i+1,v210,ob,rfl,rfl,rfl⟩ (wk [0,2,2,2,2,2,0] (ZW i fl) (e:=(rc (rc (rc (rc (rc (rc (rr (ls:=Zg (Y9 ((cc++WC cons.length i x0)++[(Instr.mk 19 ((cons.length+i:Nat):Int) (i:Int) 0 [x0] [])]))) (by rw [Pi,<-VP];rfl) rz))))))))))))))
  have hie:(ZQ n.decls xk).length=i:=by omega
  have hA:(XM n.decls).arm (cons,first) x0 s.num k=(cons.set x0.toNat xk++XF (ZQ n.decls xk).length,first.set x0.toNat (cons.length:Int)++XF (ZQ n.decls xk).length):=by rw [<-hgc];rfl
  refine ax 2 (Ya 1 (Zt [] (Sr ((ZQ n.decls xk).length)) (Z1 (aD 23 (ZY 18 23 [0,1,2,3,4] [2,1] (dx 5 (Zk none (k:Int) 2 (UK hkb)) (Zs 12 17 [6,7,8,9,10] (dx 11 (Zk (some v4) (k:Int) 1 (Y7 hxk)) (Zs 5 11 [12,14,16,17,18,20] (Z8 13 (dc 13 [] [1,2] [b2,b1] (SA cons x0 xk) ?_)))))))))))
  rintro _ _ ⟨v11,rfl,rfl⟩
  refine Yv 4 4 [] [(151,Z3 (cons.set x0.toNat xk))] (Z8 15 (dc 15 [] [1,2] [b2,b1] (Tt (cons.set x0.toNat xk) (XF ((ZQ n.decls xk).length)) (hl:=WD)) ?_))
  rintro _ _ ⟨v12,rfl,rfl⟩
  refine Z8 19 (dc 19 [] [1,2] [b2,b1] (SA first x0 (cons.length:Int)) ?_)
  rintro _ _ ⟨v13,rfl,rfl⟩
  refine Yv 2 2 [] [(157,Z3 (first.set x0.toNat (cons.length:Int)))] (Z8 21 (dc 21 [] [1,2] [b2,b1] (Tt (first.set x0.toNat (cons.length:Int)) (XF ((ZQ n.decls xk).length)) (hl:=WD)) ?_))
  rintro _ _ ⟨v14,rfl,rfl⟩
  refine Yv 1 1 [] [(153,Z3 ((cons.set x0.toNat xk)++(XF ((ZQ n.decls xk).length)))),(159,Z3 ((first.set x0.toNat (cons.length:Int))++(XF ((ZQ n.decls xk).length))))] (Z8 22 (dc 22 [4,9] [] [] (ih kb _ ((cons.set x0.toNat xk)++(XF ((ZQ n.decls xk).length))) ((first.set x0.toNat (cons.length:Int))++(XF ((ZQ n.decls xk).length))) e r4 (cc++WC cons.length i x0) (by first|exact ht0|exact ht1|exact hbt) WD WD (by first|exact hfs|exact Tv.x hfs om om) WD WD ob) ?_))
  rintro _ _ ⟨v211,rfl⟩
  have q3:((flB (XM n.decls) n.decls (((cons.set x0.toNat xk)++(XF ((ZQ n.decls xk).length))),((first.set x0.toNat (cons.length:Int))++(XF ((ZQ n.decls xk).length)))) kb (cc++WC cons.length i x0))).length+16<=_:=Bk (XM n.decls) Xo _ _ _
  simp only [Bd,Cg,Gp,Ys,Yx,X7] at q3
  refine de (Zp 5 [6] (Zq (Zk none (k:Int) 2 (UK hkb)) (Z0 2 (iL (Z6 [kb.result]) 1 1 fun v15=>ZU 1 [(170,.agg [.i 18,.i cons.length,.i 0,.i 0,Z3 [kb.result],.sl [] none])] (ic [1,1] (KS e v211 (flB (XM n.decls) n.decls (((cons.set x0.toNat xk)++(XF ((ZQ n.decls xk).length))),((first.set x0.toNat (cons.length:Int))++(XF ((ZQ n.decls xk).length)))) kb (cc++WC cons.length i x0)) (Instr.mk 18 (cons.length:Int) 0 0 [kb.result] []) (hl:=WD)) ?_)))))
  rintro _ _ ⟨v212,rfl,rfl⟩
  refine ie (Ya 2 (io (.i (((ZX n.decls s.num).length:Nat):Int)) (.i (((Z6 (ZX n.decls s.num)).length:Nat):Int)) (li (by rw [Yc])) (ia (((((ZX n.decls s.num).length:Nat):Int)-1)) (((((ZX n.decls s.num).length:Nat):Int))-(1)) (Y0 ((k:Int)<((((ZX n.decls s.num).length:Nat):Int)-1)) (fun Yh=>?_) (fun Yh=>?_)))))
  ·refine ar (ZU 2 [(178,.agg [.i 22,.i 0,.i 0,.i 0,.sl [] none,.sl [] none])] (ic [0,0] (KS e v212 ((flB (XM n.decls) n.decls (((cons.set x0.toNat xk)++(XF ((ZQ n.decls xk).length))),((first.set x0.toNat (cons.length:Int))++(XF ((ZQ n.decls xk).length)))) kb (cc++WC cons.length i x0))++[(Instr.mk 18 (cons.length:Int) 0 0 [kb.result] [])]) (Instr.mk 22 0 0 0 [] []) (hl:=WD)) ?_))
   rintro _ _ ⟨v213,rfl,rfl⟩
   exact Z1 (az (Z0 2 (iL (Z6 [((((flB (XM n.decls) n.decls (((cons.set x0.toNat xk)++(XF ((ZQ n.decls xk).length))),((first.set x0.toNat (cons.length:Int))++(XF ((ZQ n.decls xk).length)))) kb (cc++WC cons.length i x0))++[(Instr.mk 18 (cons.length:Int) 0 0 [kb.result] [])]).length:Nat):Int)]) 1 1 fun v16=>ZU 0 [(182,Z3 [((((flB (XM n.decls) n.decls (((cons.set x0.toNat xk)++(XF ((ZQ n.decls xk).length))),((first.set x0.toNat (cons.length:Int))++(XF ((ZQ n.decls xk).length)))) kb (cc++WC cons.length i x0))++[(Instr.mk 18 (cons.length:Int) 0 0 [kb.result] [])]).length:Nat):Int)])] (ip 10 (Z6 ((Ql es)++[((((flB (XM n.decls) n.decls (((cons.set x0.toNat xk)++(XF ((ZQ n.decls xk).length))),((first.set x0.toNat (cons.length:Int))++(XF ((ZQ n.decls xk).length)))) kb (cc++WC cons.length i x0))++[(Instr.mk 18 (cons.length:Int) 0 0 [kb.result] [])]).length:Nat):Int)])) (Z6 (Ql es)) (Z6 [((((flB (XM n.decls) n.decls (((cons.set x0.toNat xk)++(XF ((ZQ n.decls xk).length))),((first.set x0.toNat (cons.length:Int))++(XF ((ZQ n.decls xk).length)))) kb (cc++WC cons.length i x0))++[(Instr.mk 18 (cons.length:Int) 0 0 [kb.result] [])]).length:Nat):Int)]) u2 none 1 (YE _) (YE _) (W2 _) (by simp [Gw]<;>omega) (by simp [W6,Z6]) fun v17=>Z1 (az (Z0 1 (ZK k (Z1 (ZM ⟨k+1,(ts++[(cc.length:Int)]),v9,(es++[((flB (XM n.decls) n.decls (((cons.set x0.toNat xk)++(XF ((ZQ n.decls xk).length))),((first.set x0.toNat (cons.length:Int))++(XF ((ZQ n.decls xk).length)))) kb (cc++WC cons.length i x0))++[(Instr.mk 18 (cons.length:Int) 0 0 [kb.result] [])]).length]),v17,(((flB (XM n.decls) n.decls (((cons.set x0.toNat xk)++(XF ((ZQ n.decls xk).length))),((first.set x0.toNat (cons.length:Int))++(XF ((ZQ n.decls xk).length)))) kb (cc++WC cons.length i x0))++[(Instr.mk 18 (cons.length:Int) 0 0 [kb.result] [])])++[(Instr.mk 22 0 0 0 [] [])]),v213,ob,(by have h:=Z4w (X:=XM n.decls) hkb om Zj;rw [hfl3,hie,hA] at h;exact h),(fun j hj=>(Xm.1 hj).elim (fun hj=>(ZD j hj).app.flB.app.app) fun hj=>by rw [Xr.1 hj];exact Zr.new rfl rfl),(Ei (Ei (Ou (Ei YL)))),WD,WD,WD,rfl,rfl,rfl⟩ (wk [2,8,8,9,0,7,1] (fr (fc (x:=ZG ((Ql es)++[((((flB (XM n.decls) n.decls (((cons.set x0.toNat xk)++(XF ((ZQ n.decls xk).length))),((first.set x0.toNat (cons.length:Int))++(XF ((ZQ n.decls xk).length)))) kb (cc++WC cons.length i x0))++[(Instr.mk 18 (cons.length:Int) 0 0 [kb.result] [])]).length:Nat):Int)]) v17) (Zc.slh _ (Yj Z6 (Zav _ _))) (ZW k fl)))))))))))))
  exact ak (az (Z0 1 (ZK k (Z1 (ZM ⟨k+1,(ts++[(cc.length:Int)]),v9,es,u2,((flB (XM n.decls) n.decls (((cons.set x0.toNat xk)++(XF ((ZQ n.decls xk).length))),((first.set x0.toNat (cons.length:Int))++(XF ((ZQ n.decls xk).length)))) kb (cc++WC cons.length i x0))++[(Instr.mk 18 (cons.length:Int) 0 0 [kb.result] [])]),v212,ob,(by have h:=Z4x (X:=XM n.decls) hkb om Zj;rw [hfl3,hie,hA] at h;exact h),(fun j hj=>(ZD j hj).app.flB.app),(Ei (Ou (Ei YL))),WD,WD,WD,rfl,rfl,rfl⟩ (wk [0,6,6,8,6,6,0] (fw (ZW k fl))))))))
 have hAe:=Z4v om Zj
 have hbt:YW (s.kids.take k)=YW s.kids:=by rw [WT om]
 have hat:=(Xc.1 YL).1
 rw [hxl] at YL
 refine L5 6 cc.length (v:=r3) (Tx cc) om (fun g1 c1 he1=>?_)
 subst he1
 refine ax 0 (aD 13 (ZY 4 13 [0,1,2,3,4,5,6,7,9] [0,1] (Z8 8 (dL 8 [1,0] [b2,e] (Z6 [x0]) 1 1 fun v18=>?_))))
 refine Zs 2 3 [10] (dx 11 (Wa g1 cc.length c1 c.length 6 (c.length:Int)) (Yv 1 1 [] [(194,.agg [.i 21,.i 0,.i s.num,.i 0,Z3 [x0],Z3 ts])] (Z8 12 (JV 12 7 [] [] g1 cc.length c1 6 (c.length*6) [.i 21,.i 0,.i s.num,.i 0,Z3 [x0],Z3 ts] (Zg (Y9 cc)) (Zg (Y9 (cc.set c.length ⟨21,0,s.num,0,[x0],ts⟩))) (by rw [Tx];simp only [Yx,X7];omega) (FW (t:=⟨21,0,s.num,0,[x0],ts⟩) YL) (de (Y1 (ab 4 (Y5 (fun fz gz m F h=>∃(i2:Nat) (cc2:List Instr) (r5:Hd),(i2<=es.length)/\(TF cc2 (es.drop i2)=VX (XM n.decls) n.decls (cons,first) s c)/\(∀j∈es,Zr cc2 j)/\(cc2.length=cc.length)/\F=sF [0,17] fz [(23,.i i2)]/\h=[.obj e [.h r5],Zi gz 6,rK r5 6 (Zg (Y9 cc2))]/\m=es.length-i2) _ _ _ ⟨0,(Q0 cc c.length ts),(⟨some ⟨g1,0,none⟩,cc.length,c1⟩:Hd),ob,hAe,(fun j hj=>(ZD j hj).fan),(Cg _ _ _),rfl,rfl,rfl⟩ (wk [2,5,0] (Ye fl) (e:=(rc (rc (rr (ls:=(Zg (Y9 (cc.set c.length ⟨21,0,s.num,0,[x0],ts⟩)))) (by rw [Z4s YL]) rz))))) ?_))))))))
 rintro m F h ⟨i2,cc2,r5,Fv,BY,BZ,Zgs,rfl,rfl,rfl⟩
 refine YO 2 (io (.i (((Ql es).length:Nat):Int)) (.i (((Z6 (Ql es)).length:Nat):Int)) (li (by rw [Yc])) (Y0 ((i2:Int)<(((Ql es).length:Nat):Int)) (fun YJ=>?_) (fun YJ=>?_)))
 ·rw [Gw] at YJ
  obtain ⟨ei,hei⟩:=Zv es i2 om
  refine ak (aq (ab 5 (az (Z0 3 (Zq (DL (es:=Z6 (Ql es)) (hv:=some u2) (j:=(i2:Int)) (sz:=1) (y:=.i ei) kr om (Y7 (Zau hei)) rfl) (Z0 1 (ic [0,1] (LY e r5 cc2 ei (hz:=(by first|exact BZ ei (Y4 hei)|(repeat (first|exact Zr.new rfl rfl|refine Zr.app ?_|refine Zr.flB ?_|refine Zr.aim ?_)))) (hl:=WD)) ?_)))))))
  rintro _ _ ⟨v214,rfl⟩
  exact ie (az (Z0 1 (ZK i2 (Z1 (ZM ⟨i2+1,(VA cc2 ei),v214,ob,(Z15 hei BY),(fun j hj=>(BZ j hj).aim),WD,rfl,rfl,rfl⟩ (wk [0,1,0] (ZW i2 fl)))))))
 rw [Gw] at YJ
 exact ax 4 (r2 [0,1] [] ⟨r5,rfl⟩ (lr _) (eq:=(rc (rr (ls:=Zg (Y9 cc2)) (by rw [Z14 om BY]) rz))))
theorem Zdy (n:ZF) (b:Z7) (mw:Nat) (cons:LI) (first:LI) (e:Nat) (v:Hd) (c:List Instr) (hn:Xs n) (ht:fB n.decls n.routines.length mw b) (hcl:cons.length=mw) (hfl:first.length=mw) (hfs:Tv first) (hb:mw+4*b.sz<=900000000) (hcn:c.length+16*b.sz<=4000000000) (ih:∀(s2:Z5) (m2:Nat) (cons2:LI) (first2:LI) (e:Nat) (v5:Hd) (c2:List Instr),(fS n.decls n.routines.length m2 s2)->(s2.op=7∨s2.op=8)->(cons2.length=m2)->(first2.length=m2)->(Tv first2)->(m2+4*s2.sz<=900000000)->(c2.length+16*s2.sz<=4000000000)->(s2.sz<b.sz)->Zo 144 [.p e 0,YD n,X4 s2,Z3 cons2,Z3 first2] [.obj e [.h v5],rK v5 6 (Zg (Y9 c2))] (fun r h=>∃(v2:Hd),h=[.obj e [.h v2],rK v2 6 (Zg (Y9 (VX (XM n.decls) n.decls (cons2,first2) s2 c2)))])):Zo 110 [.p e 0,YD n,Yn b,Z3 cons,Z3 first] [.obj e [.h v],rK v 6 (Zg (Y9 c))] (fun r h=>∃(v2:Hd),h=[.obj e [.h v2],rK v2 6 (Zg (Y9 (flB (XM n.decls) n.decls (cons,first) b c)))]):=by
 have Xo:=hn.decls
 have hvs:=((Kz b).1 ht).1
 have hbz:=Un b
 have hbe:=b.sz_eq
 refine ZE 97 Tryz.func110 (ar (iA (X6 n) fun b1=>iA (XV b) fun b2=>?_))
 refine ie (Y1 (ab 0 (Y5 (fun fz gz m F h=>∃(k:Nat) (cs:LI) (fs:LI) (cc:List Instr) (r3:Hd),(k<=b.steps.length)/\(mw<=cs.length/\cs.length<=mw+Yu (b.steps.take k))/\(W7 n.decls n.routines.length cs.length (b.steps.drop k))/\(Uu (XM n.decls) n.decls (cs,fs) (b.steps.drop k) cc=Uu (XM n.decls) n.decls (cons,first) b.steps c)/\(fs.length=cs.length)/\(Tv fs)/\(cc.length<=c.length+16*Yu (b.steps.take k))/\F=sF [0,6,7] fz [(3,Z3 cs),(4,Z3 fs),(10,.i k)]/\h=[Zi gz 0,Zi gz 1,.obj e [.h r3],rK r3 6 (Zg (Y9 cc))]/\m=b.steps.length-k) _ _ _ ⟨0,cons,first,c,v,ob,om,(by rw [BN,hcl];exact hvs),rfl,om,hfs,(by simp),rfl,rfl,rfl⟩ (Zw 4 (fw (Ye fl))) ?_)))
 rintro m F h ⟨k,cs,fs,cc,r3,Yl,Zj,ZD,YL,Wg,QA,MZ,rfl,rfl,rfl⟩
 refine Yr 3 [0] (iw (Ut b.steps) (Y0 ((k:Int)<(b.steps.length:Int)) (fun Z9=>?_) (fun Z9=>?_)))
 ·refine ak (aq (ab 1 (Zp 3 [0] ?_)))
  obtain ⟨x1,Z4⟩:=Zv b.steps k om
  have Xx:=CE Z4
  have hdr:=Yo Z4
  have c0_2s:=ZD
  rw [hdr] at c0_2s
  obtain ⟨g1,g2⟩:=c0_2s
  have hf:=(AE x1).1 g1
  have hkz:=QK x1
  have haz:=J6 x1
  have htk:=H8 Z4
  have htl:=Kl b.steps (k+1)
  have hsp:=x1.sz_pos
  have hdc:=Z4n hf
  have hfl:=NU (XM n.decls) Xo x1 (cs,fs) cc
  refine Zq (Zk none (k:Int) 5 (V2 Z4)) (Z0 1 (iA [.i 0,.i 0,.i 0,nl,nl] fun b3=>?_))
  refine Zz 0 b3 (Wb x1) (ie (Xa (WI [0] (ab 2 (Y6 (Xu (fun fz gz F h=>F=sF [0,3,4,6,7,10,11,26] fz [(41,.b ((x1.op==7)||(x1.op==8)))]/\h=gz) ?_ ?_))))))
  ·refine ac (x1.op==7) Zb (fun Zh=>?_) (fun Zh=>?_)
   ·exact ak (ZH ⟨rfl,rfl⟩ (Zw 5 (fc (x:=.b (x1.op==7)) (lb (by first|rfl|(rw [Zl Zh])|(rw [Zd Zh])|(simp [Zh];done)|(rw [Yb];simp [Zh];done)|omega)) fl)))
   exact Vq (ZH ⟨rfl,rfl⟩ (Zw 5 (fc (x:=.b (x1.op==8)) (lb (by first|rfl|(rw [Zl Zh])|(rw [Zd Zh])|(simp [Zh];done)|(rw [Yb];simp [Zh];done)|omega)) fl)))
  rintro F h ⟨rfl,rfl⟩
  refine At (fun fz gz F h=>∃(r4:Hd),F=sF [0,3,4,6,7,10,11] fz []/\h=[Zi gz 0,Zi gz 1,Zi gz 2,.obj e [.h r4],rK r4 6 (Zg (Y9 (VX (XM n.decls) n.decls (cs,fs) x1 cc)))]) (fun _ _=>rfl) ?_ ?_
  ·refine ac ((x1.op==7)||(x1.op==8)) (p:=(x1.op=7)∨(x1.op=8)) (ZB Zb Zb) (fun ZC=>?_) (fun ZC=>?_)
   ·refine az (Zu 5 [2,0] (ic [3,3] (ih x1 cs.length cs fs e r3 cc g1 ob ob ob QA ob ob ob) ?_))
    rintro _ _ ⟨v21,rfl⟩
    exact ie (ZH ⟨v21,rfl,rfl⟩ (wk [2,2,2,0,0] fl))
   refine Y6 (Xu (fun fz gz F h=>F=sF [0,3,4,6,7,10,11,26] fz [(50,.b ((x1.op==14)||(x1.op==15)))]/\h=gz) ?_ ?_)
   ·refine ac (x1.op==14) Zb (fun Yh=>?_) (fun Yh=>?_)
    ·exact ak (ZH ⟨rfl,rfl⟩ (Zw 5 (fc (x:=.b (x1.op==14)) (lb (by first|rfl|(rw [Zl Yh])|(rw [Zd Yh])|(simp [Yh];done)|(rw [Yb];simp [Yh];done)|omega)) fl)))
    exact Vq (ZH ⟨rfl,rfl⟩ (Zw 5 (fc (x:=.b (x1.op==15)) (lb (by first|rfl|(rw [Zl Yh])|(rw [Zd Yh])|(simp [Yh];done)|(rw [Yb];simp [Yh];done)|omega)) fl)))
   rintro F h ⟨rfl,rfl⟩
   refine ac ((x1.op==14)||(x1.op==15)) (p:=(x1.op=14)∨(x1.op=15)) (ZB Zb Zb) (fun YJ=>?_) (fun YJ=>?_)
   ·refine aE 8 (ZY 3 8 [0,1,2,3,4] [0,0] (Z8 5 (dc 5 [] [0] [b3] (WP x1.args) ?_)))
    rintro _ _ ⟨v1,rfl,rfl⟩
    refine Yv 1 2 [6] [(59,.agg [.i x1.op,.i 0,.i 0,.i 0,Z3 x1.args,.sl [] none])] (Z8 7 (dc 7 [4,4] [] [] (KS e r3 cc (Instr.mk x1.op 0 0 0 x1.args []) (hl:=WD)) ?_))
    rintro _ _ ⟨v22,rfl,rfl⟩
    exact de (ZH ⟨v22,rfl,rfl⟩ (wk [3,3,3,0,0] fl (e:=(rc (rc (rc (rc (rr (ls:=Zg (Y9 (cc++[(Instr.mk x1.op 0 0 0 x1.args [])]))) (by rw [Z58 YJ];rfl) rz))))))))
   refine Y6 (Xu (fun fz gz F h=>F=sF [0,3,4,6,7,10,11] fz [(61,.b ((x1.op==16)||(x1.op==17)))]/\h=gz) ?_ ?_)
   ·refine ac (x1.op==16) Zb (fun X2=>?_) (fun X2=>?_)
    ·exact ak (ZH ⟨rfl,rfl⟩ (Zw 5 (fc (x:=.b (x1.op==16)) (lb (by first|rfl|(rw [Zl X2])|(rw [Zd X2])|(simp [X2];done)|(rw [Yb];simp [X2];done)|omega)) fl)))
    exact Vq (ZH ⟨rfl,rfl⟩ (Zw 5 (fc (x:=.b (x1.op==17)) (lb (by first|rfl|(rw [Zl X2])|(rw [Zd X2])|(simp [X2];done)|(rw [Yb];simp [X2];done)|omega)) fl)))
   rintro F h ⟨rfl,rfl⟩
   refine ac ((x1.op==16)||(x1.op==17)) (p:=(x1.op=16)∨(x1.op=17)) (ZB Zb Zb) (fun Wx=>?_) (fun Wx=>?_)
   ·refine Zp 2 [0] ?_
    obtain ⟨x2,Zy⟩:=Zv x1.args 0 (by obtain ⟨a,ha⟩:=NM hf om;rw [ha];simp)
    have hg0:=K6 Zy
    have hra:=hf.args x2 (Y4 Zy)
    refine Zq (Zk none 0 1 (Y7 Zy)) (Z1 (aE 20 (ZY 11 20 [0,1,2,3,4,5,6,7,8] [0,0,2] ?_)))
    obtain ⟨x3,YX⟩:=Zv cs x2.toNat om
    have hg1:=T5 YX
    have hcf:=Ve Xo x3
    refine dx 9 (Zk none x2 1 (Y7 YX)) (Zs 7 10 [10,12,13] ?_)
    obtain ⟨x4,Uz⟩:=Zv fs x2.toNat om
    have hg2:=T5 Uz
    have hgf:=QA _ (Y4 Uz)
    have hhl:=G3 (ZQ n.decls x3) x4
    refine dx 14 (Zk none x2 1 (Y7 Uz)) (Zs 5 6 [15] (Z8 11 (YF 11 [] [0,0] [b3,b3] (Qa n.decls x3) (Z8 16 (YF 16 [] [0,0] [b3,b3] (Ze2 (ZQ n.decls x3) x4) (Z8 17 (dc 17 [] [0] [b3] (Tt x1.args (Ux (ZQ n.decls x3) x4) (hl:=WD)) ?_)))))))
    rintro _ _ ⟨v2,rfl,rfl⟩
    refine Yv 1 2 [18] [(86,.agg [.i x1.op,.i 0,.i 0,.i 0,Z3 (x1.args++(Ux (ZQ n.decls x3) x4)),.sl [] none])] (Z8 19 (dc 19 [4,4] [] [] (KS e r3 cc (Instr.mk x1.op 0 0 0 (x1.args++(Ux (ZQ n.decls x3) x4)) []) (hl:=WD)) ?_))
    rintro _ _ ⟨v23,rfl,rfl⟩
    exact de (ZH ⟨v23,rfl,rfl⟩ (wk [3,3,3,0,0] fl (e:=(rc (rc (rc (rc (rr (ls:=Zg (Y9 (cc++[(Instr.mk x1.op 0 0 0 (x1.args++(Ux (ZQ n.decls x3) x4)) [])]))) (by rw [Z5d Wx];show _=Zg (Y9 (cc++[XK _ 0 0 0 (x1.args++Ux (ZQ n.decls (gI cs (gI x1.args 0))) (gI fs (gI x1.args 0)))]));rw [hg0,hg1,hg2];rfl) rz))))))))
   refine aE 14 (ZY 10 14 [0,1,2,3] [0] (dw 4 (Yc cs) (ZY 3 9 [5,6,7,8,9,10] [0,0,0] (Z8 11 (dc 11 [] [0,0,0] [b3,b3,b3] (WP x1.args) ?_)))))
   rintro _ _ ⟨v3,rfl,rfl⟩
   refine Yv 1 2 [12] [(39,.agg [.i x1.op,.i cs.length,.i x1.num,.i x1.into,Z3 x1.args,.sl [] none])] (Z8 13 (dc 13 [4,4] [] [] (KS e r3 cc (Instr.mk x1.op (cs.length:Int) x1.num x1.into x1.args []) (hl:=WD)) ?_))
   rintro _ _ ⟨v24,rfl,rfl⟩
   exact de (ZH ⟨v24,rfl,rfl⟩ (wk [3,3,3,0,0] fl (e:=(rc (rc (rc (rc (rr (ls:=Zg (Y9 (cc++[(Instr.mk x1.op (cs.length:Int) x1.num x1.into x1.args [])]))) (by rw [Z59 om om YJ Wx];rfl) rz))))))))
  rintro F h ⟨r4,rfl,rfl⟩
  refine Zp 2 [0] (Zt [] (QU x1.op) (ie (ac (Xg x1.op) Iff.rfl (fun Vx=>?_) (fun Vx=>?_))))
  ·refine Ya 1 (iL (Z6 [0]) 1 1 fun v4=>ZU 0 [(92,Z3 [0])] (ic [] (Tt cs [0] (hl:=WD)) ?_))
   rintro _ _ ⟨v5,rfl,rfl⟩
   refine Z1 (az (Z0 1 (iL (Z6 [0]) 1 1 fun v6=>ZU 0 [(95,Z3 [0])] (ic [] (Tt fs [0] (hl:=WD)) ?_))))
   rintro _ _ ⟨v7,rfl,rfl⟩
   refine Z1 (az (Z0 1 (ZK k (Z1 ?_))))
   have hnc:¬YN x1.op=true:=fun q=>by rw [q,Vx] at hdc;cases hdc
   rw [Zd hnc] at g2
   exact ZM ⟨k+1,(cs++[0]),(fs++[0]),(VX (XM n.decls) n.decls (cs,fs) x1 cc),r4,ob,(by rw [Ys,B4];omega),(by rw [Ys,B4];exact g2),(by have h:=NZ (X:=XM n.decls) Z4 YL;rw [Zd hnc] at h;exact h),(by simp [Wg]),QA.snoc,om,rfl,rfl,rfl⟩ (wk [5,5,5,5] (fc (x:=ZG (cs++[0]) v5) (Zc.sl _ (Yj Z6 ob)) (fc (x:=ZG (fs++[0]) v7) (Zc.sl _ (Yj Z6 ob)) (ZW k fl))))
  refine ak (az (Z0 1 (ZK k (Z1 ?_))))
  have hyc:YN x1.op=true:=by cases q:YN x1.op with
   | true=>rfl
   | false=>rw [q] at hdc;exact absurd hdc Vx
  rw [Zl hyc] at g2
  exact ZM ⟨k+1,cs,fs,(VX (XM n.decls) n.decls (cs,fs) x1 cc),r4,ob,om,g2,(by have h:=NZ (X:=XM n.decls) Z4 YL;rw [Zl hyc] at h;exact h),ob,ob,om,rfl,rfl,rfl⟩ (wk [1,1,1,1] (fw (ZW k fl)))
 exact ax 0 (r2 [2,2] [] ⟨r3,rfl⟩ (lr _) (eq:=(rc (rr (ls:=Zg (Y9 cc)) (by rw [Z5g om YL,Z4z]) rz))))
theorem Zdz (n:ZF) (hn:Xs n) (k:Nat):(∀(s:Z5) (mw:Nat) (cons:LI) (first:LI) (e:Nat) (v:Hd) (c:List Instr),(fS n.decls n.routines.length mw s)->(s.op=7∨s.op=8)->(cons.length=mw)->(first.length=mw)->(Tv first)->(mw+4*s.sz<=900000000)->(c.length+16*s.sz<=4000000000)->(s.sz<=k)->Zo 144 [.p e 0,YD n,X4 s,Z3 cons,Z3 first] [.obj e [.h v],rK v 6 (Zg (Y9 c))] (fun r h=>∃(v2:Hd),h=[.obj e [.h v2],rK v2 6 (Zg (Y9 (VX (XM n.decls) n.decls (cons,first) s c)))]))/\(∀(b:Z7) (mw:Nat) (cons:LI) (first:LI) (e:Nat) (v:Hd) (c:List Instr),(fB n.decls n.routines.length mw b)->(cons.length=mw)->(first.length=mw)->(Tv first)->(mw+4*b.sz<=900000000)->(c.length+16*b.sz<=4000000000)->(b.sz<=k)->Zo 110 [.p e 0,YD n,Yn b,Z3 cons,Z3 first] [.obj e [.h v],rK v 6 (Zg (Y9 c))] (fun r h=>∃(v2:Hd),h=[.obj e [.h v2],rK v2 6 (Zg (Y9 (flB (XM n.decls) n.decls (cons,first) b c)))])):=by
 induction k with
 | zero=>exact ⟨fun s m cons first e v c h1 h2 h3 h4 h5 h6 h7 h8=>by have:=s.sz_pos;omega,fun b m cons first e v c h1 h2 h3 h4 h5 h6 h7=>by have:=b.sz_eq;omega⟩
 | succ k ih=>exact ⟨fun s m cons first e v c h1 h2 h3 h4 h5 h6 h7 h8=>Zdp n s m cons first e v c hn h1 h2 h3 h4 h5 h6 h7 fun b2 m2 c2 f2 e2 v2 i2 q1 q2 q3 q4 q5 q6 q7=>ih.2 b2 m2 c2 f2 e2 v2 i2 q1 q2 q3 q4 q5 q6 om,fun b m cons first e v c h1 h2 h3 h4 h5 h6 h7=>Zdy n b m cons first e v c hn h1 h2 h3 h4 h5 h6 fun s2 m2 c2 f2 e2 v2 i2 q1 q2 q3 q4 q5 q6 q7 q8=>ih.1 s2 m2 c2 f2 e2 v2 i2 q1 q2 q3 q4 q5 q6 q7 om⟩
theorem Zdx (n:ZF) (b:Z7) (mw:Nat) (cons:LI) (first:LI) (e:Nat) (v:Hd) (c:List Instr) (hn:Xs n:=by exact ob) (ht:fB n.decls n.routines.length mw b:=by exact ob) (hcl:cons.length=mw:=by exact ob) (hfl:first.length=mw:=by exact ob) (hfs:Tv first:=by exact ob) (hb:mw+4*b.sz<=900000000:=by exact ob) (hcn:c.length+16*b.sz<=4000000000:=by exact ob):Zo 110 [.p e 0,YD n,Yn b,Z3 cons,Z3 first] [.obj e [.h v],rK v 6 (Zg (Y9 c))] (fun r h=>∃(v2:Hd),h=[.obj e [.h v2],rK v2 6 (Zg (Y9 (flB (XM n.decls) n.decls (cons,first) b c)))]):=(Zdz n hn b.sz).2 b mw cons first e v c ht hcl hfl hfs hb hcn (X9 _)
theorem Ze6 (c:List Instr) (p:Nat) (hrg:Rg c:=by exact ob) (hlc:c.length<=1000000000:=by exact ob) (hp:p<=1000000000:=by exact ob):Zo 112 [KM c,.i p] [] (Ym (.i (max (Ui 0 c) (p:Int)))):=by
 refine ZE 45 Tryz.func112 (Y1 (Y1 (Y6 (ab 0 (Y5 (fun fz gz m F h=>∃(k:Nat) (mx:Int),(k<=c.length)/\(0<=mx/\mx<=1000000001)/\(Ui mx (c.drop k)=Ui (p:Int) c)/\F=sF [0] fz [(5,.i mx),(6,.i k)]/\h=gz/\m=c.length-k) _ _ _ ⟨0,(p:Int),ob,ob,rfl,rfl,rfl,rfl⟩ (wk [] (fr (Ye fl))) ?_)))))
 rintro m F h ⟨k,mx,Yl,Zj,ZD,rfl,rfl,rfl⟩
 refine YO 2 (iw (QD c) (Y0 ((k:Int)<(c.length:Int)) (fun Z9=>?_) (fun Z9=>?_)))
 ·refine ak (aq (ab 1 (Ya 3 ?_)))
  obtain ⟨x1,Z4⟩:=Zv c k om
  have hrx:=hrg _ (Y4 Z4)
  have hdx:=hrx.dst
  have hlx:=hrx.len
  refine Zq (Zk none (k:Int) 6 (Ja Z4)) (Z0 2 (ia ((x1.dst+1)) ((x1.dst)+(1)) (Zq (Ge mx (x1.dst+1)) (Z1 (Y1 (ab 2 (Y5 (fun fz gz m F h=>∃(j:Nat) (mm:Int),(j<=x1.args.length)/\(0<=mm/\mm<=1000000001)/\((x1.args.drop j).foldl (fun m a=>max m (a+1)) mm=QQ mx x1)/\F=sF [0,6] fz [(5,.i mm),(7,.i j)]/\h=gz/\m=x1.args.length-j) _ _ _ ⟨0,(max mx (x1.dst+1)),ob,ob,rfl,rfl,rfl,rfl⟩ (wk [] (fr (Ye fl))) ?_)))))))
  rintro m F h ⟨j,mm,U8,Wf,W0,rfl,rfl,rfl⟩
  refine YO 3 (Zq (Zk none (k:Int) 6 (Ja Z4)) (Z0 2 (iw (Yc x1.args) (Y0 ((j:Int)<(x1.args.length:Int)) (fun Zh=>?_) (fun Zh=>?_)))))
  ·refine ak (aq (ab 3 (az (Z0 3 (Zq (Zk none (k:Int) 6 (Ja Z4)) (Z0 3 ?_))))))
   obtain ⟨x2,Zy⟩:=Zv x1.args j om
   have hax:=hrx.args x2 (Y4 Zy)
   exact Zq (Zk none (j:Int) 1 (Y7 Zy)) (Z0 1 (ia ((x2+1)) ((x2)+(1)) (Zq (Ge mm (x2+1)) (Z1 (az (Z0 1 (ZK j (Z1 (ZM ⟨j+1,(max mm (x2+1)),ob,ob,(Zae Zy W0),rfl,rfl,rfl⟩ (wk [] (fr (ZW j fl))))))))))))
  exact ax 2 (az (Z0 1 (ZK k (Z1 (ZM ⟨k+1,mm,ob,ob,(Zc0 Z4 (Zad om W0) ZD),rfl,rfl,rfl⟩ (wk [] (fr (ZW k fl))))))))
 exact ax 0 (ar (Zm (ZP (.i mx) (li (by rw [<-Zby];exact Zbz om ZD)))))
theorem Z6k (n:ZF) (q:Nat) (hF:FN n q:=by exact ob) (hq:q<=10000000:=by exact ob):Zo 70 [YD n] [] (Ym (V0 (A3 n))):=by
 have hn:=hF.ok
 have hzl:=hF.len
 have Xo:=hn.decls
 refine ZE 73 Tryz.func70 (ar (iA (X6 n) fun b1=>iA [nl,nl] fun b2=>ie (Zp 2 [1] (Zt [] (AW n.decls (hd:=hn.decls)) (iL (Wp []) 0 5 fun v1=>Z0 1 (iA [nl,nl] fun b3=>?_))))))
 refine Zz 0 b3 [Yd n.decls,Ud [] v1] (ie (Y6 (ab 0 (Y5 (fun fz gz m F h=>∃(k:Nat) (v:Value),(k<=n.routines.length)/\F=sF [1,2,3] fz [(4,.i k)]/\h=[.obj b3 [Yd n.decls,Ud ((n.routines.take k).map (BA n.decls)) v],Zi gz 2,Zi gz 3,.tail v 5]/\m=n.routines.length-k) _ _ _ ⟨0,v1,ob,rfl,rfl,rfl⟩ (wk [0,1,1,0] (Ye fl)) ?_))))
 rintro m F h ⟨k,v,Yl,rfl,rfl,rfl⟩
 refine Yr 3 [2] (iw (TJ n.routines) (Y0 ((k:Int)<(n.routines.length:Int)) (fun Z9=>?_) (fun Z9=>?_)))
 ·refine ak (aq (ab 1 (Zp 3 [2] ?_)))
  obtain ⟨x1,Z4⟩:=Zv n.routines k om
  have hrm:=Y4 Z4
  have hbz:=hF.body _ hrm
  have hpl:=hn.params_at Z4
  have hll:=hn.lent_at Z4
  have hcg:=N2 hF hq _ hrm
  have hfl:=Bk (XM n.decls) Xo (x1).body (XF (x1).params.length,XF (x1).params.length) []
  simp only [X7] at hfl
  refine Zq (Zk none (k:Int) 5 (VD Z4)) (Z0 1 (iA [nl,nl,.i 0,nl,.i 0] fun b4=>Zz 0 b4 (Jo x1) (ie (ar (Ep 6 fun g1=>Z0 1 (iA [.ms g1 0 0 0] fun b5=>Z1 (Zp 2 [2] (iw (Yc x1.params) (Zt [] (Sr x1.params.length) (Z1 (Zp 6 [5,2] (ic [0,0] (Zdx n x1.body x1.params.length (XF x1.params.length) (XF x1.params.length) b5 (⟨some ⟨g1,0,none⟩,0,0⟩:Hd) [] (ht:=hbz.1) (hcl:=(Du _)) (hfl:=(Du _)) (hfs:=(Z0i _ om)) (hcn:=(by simp only [X7];omega))) ?_))))))))))))
  rintro _ _ ⟨v21,rfl⟩
  refine ie (Zp 4 [2] (iL (Z6 [x1.body.result]) 1 1 fun v2=>ZU 1 [(44,.agg [.i 23,.i 0,.i 0,.i 0,Z3 [x1.body.result],.sl [] none])] (ic [1,1] (KS b5 v21 (flB (XM n.decls) n.decls ((XF x1.params.length),(XF x1.params.length)) x1.body []) (Instr.mk 23 0 0 0 [x1.body.result] []) (hl:=om)) ?_)))
  rintro _ _ ⟨v22,rfl,rfl⟩
  refine Xl (Ma 1 v22.v 6 (Zg (Y9 ((flB (XM n.decls) n.decls ((XF x1.params.length),(XF x1.params.length)) x1.body [])++[(Instr.mk 23 0 0 0 [x1.body.result] [])]))) (Zg (Y9 (U9 n.decls x1))) (by rfl)) (Xl (Uo 0 0 0 v22.v 6 b5 (Y9 (U9 n.decls x1)) [.h v22] (Ay _) rfl) (ie (aE 27 (ZY 13 27 [0,1,2,3,5,6,8,9,10,11,12,13,14,15] [4,3,3,3,0,3] (dw 16 (Yc x1.params) (ZY 8 12 [18,19,20,21] [0] (Z8 4 (dc 4 [] [0,1,0,1,1,2] [b5,b4,b5,b4,b4,b3] (WP x1.params) ?_))))))))
  rintro _ _ ⟨v3,rfl,rfl⟩
  refine Z8 7 (dc 7 [] [0,1,0,1,2] [b5,b4,b5,b4,b3] (WP x1.lent) ?_)
  rintro _ _ ⟨v4,rfl,rfl⟩
  exact Yv 6 6 [] [(59,KM (U9 n.decls x1))] (Z8 17 (YF 17 [] [0,1,2] [b5,b4,b3] (Ze6 (U9 n.decls x1) x1.params.length (hrg:=hcg.1)) (Yv 4 5 [22] [(68,.agg [Z3 x1.params,Z3 x1.lent,.i x1.result,.i (max (Ui 0 (U9 n.decls x1)) (x1.params.length:Int)),KM (U9 n.decls x1)])] (Z8 23 (dL 23 [2] [b3] (Wp [(ZZ.mk x1.params x1.lent x1.result (max (Ui 0 (U9 n.decls x1)) (x1.params.length:Int)) (U9 n.decls x1))]) 1 5 fun v5=>Yv 3 3 [] [(69,Lo [(ZZ.mk x1.params x1.lent x1.result (max (Ui 0 (U9 n.decls x1)) (x1.params.length:Int)) (U9 n.decls x1))])] (Z8 24 (dp 24 10 [] [] (Wp ((n.routines.take (k+1)).map (BA n.decls))) (Wp ((n.routines.take k).map (BA n.decls))) (Wp [(ZZ.mk x1.params x1.lent x1.result (max (Ui 0 (U9 n.decls x1)) (x1.params.length:Int)) (U9 n.decls x1))]) v none 5 (Jd _) (Jd _) (Np _) (by simp<;>omega) (by rw [V9 Z4];simp [Wp,BA]) fun v6=>Zs 1 2 [25] (Z8 26 (YT 26 8 [] [] b3 [Yd n.decls,Ud ((n.routines.take (k+1)).map (BA n.decls)) v6] (de (az (Z0 1 (ZK k (Z1 (ZM ⟨k+1,v6,ob,rfl,rfl,rfl⟩ (wk [0,8,8,0] (ZW k fl)))))))))))))))))
 exact ax 0 (Zp 1 [0] (Zz 1 b2 [Yd n.decls,Ud ((n.routines.take k).map (BA n.decls)) v] (ie (at_ (r3 [] [.agg [Yd n.decls,Ud ((n.routines.take k).map (BA n.decls)) v]] [0] [(b2,b2)] ⟨rfl,rfl⟩ (Zc.agg (.cons (Zc.sl _ (Yj YU rfl)) (.cons (Zc.sl _ (Yj Wp (by rw [WT om];rfl))) .nil))))))))
theorem Z5x (rd:Nat) (bs:LI) (p:Nat) (ZL:∀z∈bs,0<=z/\z<=255) (hp:p+400030<=1000000000:=by exact ob):Zo 71 [.p rd 0] [YC rd bs p] (fun r h=>∃(n:ZF) (p2:Nat),r=YD n/\h=[YC rd bs p2]/\FN n 7330630/\p<=p2/\p2<=p+400030):=by
 refine ZE 35 Tryz.func71 (ar (iA [nl,nl] fun b1=>ie (Ya 1 (ic [1] (Z6h rd bs p (ZL:=ob)) ?_))))
 rintro _ _ ⟨n1,p21,rfl,rfl,Y3⟩
 have hcf:=FO.le Y3.1 (show 814510<=814514 by omega)
 have hcp:=Y3
 refine iA [nl,nl] fun b2=>Zz 0 b2 (X6 n1) (ie (YO 1 (ic [1] (XU rd bs p21 4 (ZL:=ob)) ?_)))
 rintro _ _ ⟨k1,rfl,rfl,Yq⟩
 refine Z1 (Xu (fun fz gz F h=>∃(na:ZF) (pa:Nat),(FO na 814514 Vu)/\(p<=pa/\pa<=p+400010)/\F=sF [0,2,3] fz []/\h=[YC rd bs pa,.obj b2 (X6 na),Zi gz 2]) ?_ ?_)
 ·refine ac (k1==0) Zb (fun Z9=>?_) (fun Z9=>?_)
  ·refine az (Zu 2 [1] (ic [0] (Oi rd bs (p21+1) n1 (ZL:=ob) (hz:=(by first|exact (FO.zn hcp.1).sz om|exact KG.sz om)) (hl1:=(by first|(have:=hcp.1.fn.len;omega)|(have:=KG.len;omega)))) ?_))
   rintro _ _ ⟨n21,p22,rfl,rfl,YR⟩
   have hho:=YR
   exact Zz 1 b2 (X6 n21) (ie (ZH ⟨n21,p22,(FO.held hcp.1 hho.1),ob,rfl,rfl⟩ (wk [1,0,0] fl)))
  exact ak (ZH ⟨n1,p21+1,hcf,ob,rfl,rfl⟩ (Zw 3 fl))
 rintro F h ⟨na,pa,KF,IY,rfl,rfl⟩
 refine YO 1 (ic [0] (XU rd bs pa 4 (ZL:=ob)) ?_)
 rintro _ _ ⟨k2,rfl,rfl,X1⟩
 refine Z1 (Xu (fun fz gz F h=>∃(nb:ZF) (pb:Nat),(FO nb 814514 Vu)/\(p<=pb/\pb<=p+400012)/\F=sF [0,2,3] fz []/\h=[YC rd bs pb,.obj b2 (X6 nb),Zi gz 2]) ?_ ?_)
 ·refine ac (k2==0) Zb (fun Zh=>?_) (fun Zh=>?_)
  ·refine az (Zu 1 [1] (ic [] (Z65 na 814514 (hn:=KF)) ?_))
   rintro _ _ ⟨n22,rfl,rfl,Xe⟩
   have hca:=Xe
   exact Zz 1 b2 (X6 n22) (ie (ZH ⟨n22,pa+1,hca,ob,rfl,rfl⟩ (wk [1,0,0] fl)))
  exact ak (ZH ⟨na,pa+1,KF,ob,rfl,rfl⟩ (Zw 3 fl))
 rintro F h ⟨nb,pb,Vy,AN,rfl,rfl⟩
 refine Ya 1 (ic [0] (XU rd bs pb 3 (ZL:=ob)) ?_)
 rintro _ _ ⟨k3,rfl,rfl,XO⟩
 refine Z1 (Y6 (Xu (fun fz gz F h=>∃(nc:ZF) (pc:Nat),(ZN nc 7330626)/\(FN nc 7330626)/\(k3>1->WN nc 7330626)/\(p<=pc/\pc<=p+400014)/\F=sF [0,2,3,4] fz []/\h=[YC rd bs pc,.obj b2 (X6 nc),Zi gz 2]) ?_ ?_))
 ·refine WZ (k3>0) (fun ZC=>?_) (fun ZC=>?_)
  ·exact az (Zu 1 [1] (Zt [] (Z7l nb (hn:=Vy.fn.ok) (hz:=(Vy.zn.sz om)) (hwb:=(fun r hr=>(Vy.wl om r hr).w))) (Zz 1 b2 (X6 (CD nb)) (ie (ZH ⟨(CD nb),pb+1,((Vy.wn om).sp.zn),(Vy.fn.sp ((Vy.wn om).sp.zn)),(fun _=>(Vy.wn om).sp),ob,rfl,rfl⟩ (wk [1,0,0] fl))))))
  exact ak (ZH ⟨nb,pb+1,(Vy.zn.le om),(Vy.fn.le om),(fun h=>by omega),ob,rfl,rfl⟩ (Zw 3 fl))
 rintro F h ⟨nc,pc,Ex,L4,Dm,Zh0,rfl,rfl⟩
 refine Y6 (Xu (fun fz gz F h=>∃(nd:ZF) (pd:Nat),(ZN nd 7330626)/\(FN nd 7330626)/\(p<=pd/\pd<=p+400014)/\F=sF [0,2,3] fz []/\h=[YC rd bs pd,.obj b2 (X6 nd),Zi gz 2]) ?_ ?_)
 ·refine WZ (k3>1) (fun Yh=>?_) (fun Yh=>?_)
  ·exact az (Zu 1 [1] (Zt [] (Z7h nc (hn:=(Dm (by assumption)).ok) (hz:=(Ex.sz om)) (hwb:=(fun r hr=>((Dm (by assumption)).wl r hr).w)) (hnr:=(fun r hr=>((Dm (by assumption)).wl r hr).nr))) (Zz 1 b2 (X6 (CC nc)) (ie (ZH ⟨(CC nc),pc,(Dm (by assumption)).ru,(L4.ru (Dm (by assumption)).ru),ob,rfl,rfl⟩ (wk [1,0,0] fl))))))
  exact ak (ZH ⟨nc,pc,Ex,L4,ob,rfl,rfl⟩ (Zw 3 fl))
 rintro F h ⟨nd,pd,KG,Ey,Zh1,rfl,rfl⟩
 refine YO 1 (ic [0] (XU rd bs pd 6 (ZL:=ob)) ?_)
 rintro _ _ ⟨k4,rfl,rfl,W9⟩
 refine Yz (k4==0) Zb (fun YJ=>?_) (fun YJ=>?_)
 ·refine az (Zu 2 [1] (ic [0] (Oi rd bs (pd+1) nd (ZL:=ob) (hz:=(by first|exact (FO.zn hcp.1).sz om|exact KG.sz om)) (hl1:=(by first|(have:=hcp.1.fn.len;omega)|(have:=KG.len;omega)))) ?_))
  rintro _ _ ⟨n23,p23,rfl,rfl,WB⟩
  have hho:=WB
  exact Zz 1 b2 (X6 n23) (ie (Zp 1 [0] (Zz 2 b1 (X6 n23) (ie (at_ (r3 [2] [YD n23] [0] [(b1,b1)] ⟨n23,p23,rfl,rfl,(by first|exact ⟨Ey.held hho.1 (KG.held hho.1),by omega,by omega⟩|exact ⟨Ey.le om,by omega,by omega⟩)⟩ (lr _)))))))
 exact ak (Zp 1 [1] (Zz 2 b1 (X6 nd) (ie (at_ (r3 [1] [YD nd] [0] [(b1,b1)] ⟨nd,pd+1,rfl,rfl,(by first|exact ⟨Ey.held hho.1 (KG.held hho.1),by omega,by omega⟩|exact ⟨Ey.le om,by omega,by omega⟩)⟩ (lr _))))))
theorem Ze7 (c:List Instr) (k:Nat) (reg:Int) (hf:fwd c:=by exact ob) (ha:∀x∈c,x.op=18∨x.op=23->x.args≠[]) (hn:∀x∈c,x.num<=200000000) (hl:c.length<=200000000:=by exact ob) (hk:k<=1000000000:=by exact ob):Zo 159 [KM c,.i k,.i reg] [] (Ym (.b (T9 c k reg))):=by
 refine ZE 47 Tryz.func159 (Y1 (aq (ab 0 (Y5 (fun fz gz m F h=>∃(j:Nat) (rg:Int),(j<=1000000000)/\(T9 c j rg=T9 c k reg)/\F=sF [0] fz [(1,.i j),(2,.i rg)]/\h=gz/\m=c.length-j) _ _ _ ⟨k,reg,ob,rfl,rfl,rfl,rfl⟩ (wk [] fl) ?_))))
 rintro m F h ⟨j,rg,Yl,Zj,rfl,rfl,rfl⟩
 refine YO 2 (iw (QD c) (Y0 ((j:Int)<(c.length:Int)) (fun Z9=>?_) (fun Z9=>?_)))
 ·refine ak (ab 1 (Ya 2 ?_))
  obtain ⟨x1,Z4⟩:=Zv c j om
  have hxm:=Y4 Z4
  have hja:=fun z=>hf j _ Z4 z
  have hnx:=hn _ hxm
  refine Zq (Zk none (j:Int) 6 (Ja Z4)) (Z0 1 (iA [.i 0,.i 0,.i 0,.i 0,nl,nl] fun b1=>Zz 0 b1 (VF x1) (ie (Zp 4 [0] (ib (b:=(x1.op==18)) 19 (fun Za=>?_) (fun Za=>?_))))))
  ·have Y3:x1.op=18:=(Zb).1 Za
   refine Zu 2 [0] ?_
   obtain ⟨x2,Zy⟩:=Zv x1.args 0 (BO.2 (ha _ hxm (.inl (by assumption))))
   have hg:=K6 Zy
   refine Zq (Zk none 0 1 (Y7 Zy)) (Yz (x2==rg) Zb (fun Zh=>?_) (fun Zh=>?_))
   ·exact QG [0] (az (Z0 1 (ZK j (Z1 (ZM ⟨j+1,x1.dst,om,((Zci hf Z4 ⟨Y3,by rw [hg];assumption⟩).trans Zj),rfl,rfl,rfl⟩ (wk [] (ZW j fl)))))))
   refine QG [0] (ac (x1.op==22) Zb (fun ZC=>?_) (fun ZC=>?_))
   ·exact az (WI [0] (⟨_,_,_,(by have:=hja (by assumption);omega),⟨x1.num.toNat,rg,(by first|omega|(have:=hja (by assumption);omega)),((RG hf Z4 (by assumption)).trans Zj),rfl,rfl,rfl⟩,(wk [] (fc (x:=.i x1.num) (li (by have:=hja (by assumption);omega)) fl))⟩))
   refine ar (YK 11 [] [(46,.b ((x1.op==23)&&(x2==rg)))] (fun gz=>gz) ?_ (fun hj1=>?_))
   ·exact Zm (ZP (.b ((x1.op==23)&&(x2==rg))) (lb (by first|exact (Zj▸GO om)|(rw [<-Zj,<-BD Z4 (fun z=>by simp_all) (by assumption)];simp_all;done)|(rw [<-Zj,<-BD Z4 (fun z=>by simp_all) (by assumption)];simp_all;rw [Yb];simp))))
   refine Zu 4 [0] (ib (b:=(x1.op==23)) 39 (fun ZA=>?_) (fun ZA=>?_))
   ·have Yq:x1.op=23:=(Zb).1 ZA
    exact Zu 2 [0] (Zq (Zk none 0 1 (Y7 Zy)) (Z0 4 (ZJ (wk [0] (Zf (x2==rg) ZA fl)) hj1)))
   have YR:¬(x1.op=23):=ZV Zb ZA
   exact Z0 7 (ZJ (wk [0] (Zf false ZA fl)) hj1)
  have X1:¬(x1.op=18):=ZV Zb Za
  refine Z1 (WW (QG [0] (ac (x1.op==22) Zb (fun Yh=>?_) (fun Yh=>?_))))
  ·exact az (WI [0] (⟨_,_,_,(by have:=hja (by assumption);omega),⟨x1.num.toNat,rg,(by first|omega|(have:=hja (by assumption);omega)),((RG hf Z4 (by assumption)).trans Zj),rfl,rfl,rfl⟩,(wk [] (fc (x:=.i x1.num) (li (by have:=hja (by assumption);omega)) fl))⟩))
  refine Zp 4 [0] (ib (b:=(x1.op==23)) 39 (fun Yf=>?_) (fun Yf=>?_))
  ·have Xe:x1.op=23:=(Zb).1 Yf
   refine Zu 2 [0] ?_
   obtain ⟨x3,YX⟩:=Zv x1.args 0 (BO.2 (ha _ hxm (.inr (by assumption))))
   have hg:=K6 YX
   exact Zq (Zk none 0 1 (Y7 YX)) (Zm (ZP (.b (x3==rg)) (lb (by first|exact (Zj▸GO om)|(rw [<-Zj,<-BD Z4 (fun z=>by simp_all) (by assumption)];simp_all;done)|(rw [<-Zj,<-BD Z4 (fun z=>by simp_all) (by assumption)];simp_all;rw [Yb];simp)))))
  have XO:¬(x1.op=23):=ZV Zb Yf
  exact Zm (ZP (.b false) (lb (by first|exact (Zj▸GO om)|(rw [<-Zj,<-BD Z4 (fun z=>by simp_all) (by assumption)];simp_all;done)|(rw [<-Zj,<-BD Z4 (fun z=>by simp_all) (by assumption)];simp_all;rw [Yb];simp))))
 exact ax 0 (ar (Zm (ZP (.b false) (lb (by first|exact (Zj▸GO om)|(rw [<-Zj,<-BD Z4 (fun z=>by simp_all) (by assumption)];simp_all;done)|(rw [<-Zj,<-BD Z4 (fun z=>by simp_all) (by assumption)];simp_all;rw [Yb];simp))))))
theorem LZ (x:Instr) (h1:x.args.length<=1000000:=by exact ob) (h2:x.jumps.length<=1000000:=by exact ob):Zo 135 [TE x] [] (Ym (TE x)):=by
 refine ZE 18 Tryz.func135 (ar (iA (VF x) fun b1=>iA [.i 0,.i 0,.i 0,.i 0,nl,nl] fun b2=>ie (aD 16 (ZY 4 16 [0,1,2,3,4,5,6,7,8,9,11,12] [1,1,1,1,1,1] (Z8 10 (dc 10 [] [1,1,1,1,1] [b1,b1,b1,b1,b1] (WP x.args) ?_))))))
 rintro _ _ ⟨v1,rfl,rfl⟩
 refine Z8 13 (dc 13 [] [1,1,1,1] [b1,b1,b1,b1] (WP x.jumps) ?_)
 rintro _ _ ⟨v2,rfl,rfl⟩
 exact Zs 1 2 [14] (Z8 15 (YT 15 2 [] [] b2 [.i x.op,.i x.dst,.i x.num,.i x.into,ZG x.args v1,ZG x.jumps v2] (de (at_ (r3 [] [.agg [.i x.op,.i x.dst,.i x.num,.i x.into,ZG x.args v1,ZG x.jumps v2]] [0] [(b2,b2)] ⟨rfl,rfl⟩ (Zc.agg (.cons (lr _) (.cons (lr _) (.cons (lr _) (.cons (lr _) (.cons (Zc.forget _ _) (.cons (Zc.forget _ _) .nil))))))))))))
theorem Zep (c:List Instr) (hf:fwd c:=by exact ob) (ha:∀x∈c,x.op=18∨x.op=23->x.args≠[]) (hn:∀x∈c,x.num<=200000000) (hs:∀x∈c,x.args.length<=1000/\x.jumps.length<=1000) (hl:c.length<=200000000:=by exact ob):Zo 118 [KM c] [] (Ym (KM (Qp c))):=by
 refine ZE 44 Tryz.func118 (Y1 (ar (iL (Y9 []) 0 6 fun v1=>?_)))
 refine Z1 (Y6 (ab 0 (Y5 (fun fz gz m F h=>∃(k:Nat) (xs:List Instr) (v:Value),(k<=c.length)/\(xs=KV c (c.take k) 0)/\(xs.length=k)/\F=sF [0] fz [(3,Lq xs v),(4,.i k)]/\h=[.tail v 6]/\m=c.length-k) _ _ _ ⟨0,[],v1,ob,rfl,rfl,rfl,rfl,rfl⟩ (wk [0] (fr (Ye fl))) ?_)))
 rintro m F h ⟨k,xs,v,Yl,Zj,ZD,rfl,rfl,rfl⟩
 refine YO 2 (iw (QD c) (Y0 ((k:Int)<(c.length:Int)) (fun Z9=>?_) (fun Z9=>?_)))
 ·refine ak (aq (ab 1 (Ya 2 ?_)))
  obtain ⟨x1,Z4⟩:=Zv c k om
  have hxa:=hs _ (Y4 Z4)
  refine Zq (Zk none (k:Int) 6 (Ja Z4)) (Z0 1 (Zt [] (LZ x1) (iA [.i 0,.i 0,.i 0,.i 0,nl,nl] fun b1=>Zz 0 b1 (VF x1) (ie (ar (Xn [0,3,4,5] [(28,.b ((x1.op==9)&&(T9 c (k+1) x1.dst)))] (fun gz=>gz) ?_ ?_))))))
  ·refine Zu 4 [0] (ib (b:=(x1.op==9)) 21 (fun Za=>?_) (fun Za=>?_))
   ·have Y3:x1.op=9:=(Zb).1 Za
    exact Z0 2 (ZK k (Zu 2 [0] (Zt [] (Ze7 c (k+1) x1.dst (hf:=hf) (ha:=ha) (hn:=hn)) (Z1 (wk [0,0] (Zf (T9 c (k+1) x1.dst) Za fl))))))
   have Yq:¬(x1.op=9):=ZV Zb Za
   exact Z1 (wk [0,0] (Zf false Za fl))
  refine ac ((x1.op==9)&&(T9 c (k+1) x1.dst)) (p:=(x1.op=9)/\((T9 c (k+1) x1.dst)=true)) (Y2 Zb Iff.rfl) (fun Zh=>?_) (fun Zh=>?_)
  ·exact az (Zu 8 [0,0,0] (iL (Y9 [Instr.mk 24 0 x1.num 0 x1.args x1.jumps]) 1 6 fun v2=>ZU 0 [(37,KM [Instr.mk 24 0 x1.num 0 x1.args x1.jumps])] (ip 2 (Y9 (xs++[Instr.mk 24 0 x1.num 0 x1.args x1.jumps])) (Y9 xs) (Y9 [Instr.mk 24 0 x1.num 0 x1.args x1.jumps]) v none 6 (Ay _) (Ay _) (FH _) (by simp<;>omega) (by simp [Cb,Y9]) fun v3=>Z1 (az (Z0 1 (ZK k (Z1 (ZM ⟨k+1,(xs++[Instr.mk 24 0 x1.num 0 x1.args x1.jumps]),v3,ob,(by rw [Zj,<-SX Z4,Ad,Zl (by first|assumption|(constructor<;>assumption))]),(by rw [Ys,ZD];rfl),rfl,rfl,rfl⟩ (wk [0] (fr (ZW k fl)))))))))))
  exact az (Zu 2 [0] (iL (Y9 [x1]) 1 6 fun v4=>ZU 0 [(41,KM [x1])] (ip 2 (Y9 (xs++[x1])) (Y9 xs) (Y9 [x1]) v none 6 (Ay _) (Ay _) (FH _) (by simp<;>omega) (by simp [Cb,Y9]) fun v5=>Z1 (az (Z0 1 (ZK k (Z1 (ZM ⟨k+1,(xs++[x1]),v5,ob,(by rw [Zj,<-SX Z4,Ad,Zd (by assumption)]),(by rw [Ys,ZD];rfl),rfl,rfl,rfl⟩ (wk [0] (fr (ZW k fl)))))))))))
 exact ax 0 (ar (Zm (ZP (Lq xs v) (Zc.sl _ (Yj Y9 (by rw [Zj,WT om];rfl))))))
theorem Zeo (im:YG) (hg:TG im:=by exact ob):Zo 72 [V0 im] [] (Ym (V0 (EZ im))):=by
 have hil:=hg.len
 have Xo:=hg.decls
 refine ZE 43 Tryz.func72 (ar (iA (V4 im) fun b1=>iA [nl,nl] fun b2=>ie (Zp 2 [1] (Zt [] (AW im.decls (hd:=Xo)) (iL (Wp []) 0 5 fun v1=>Z0 1 (iA [nl,nl] fun b3=>?_))))))
 refine Zz 0 b3 [Yd im.decls,Ud [] v1] (ie (Y6 (ab 0 (Y5 (fun fz gz m F h=>∃(k:Nat) (xs:List ZZ) (v:Value),(k<=im.procs.length)/\(xs=(im.procs.take k).map DQ)/\(xs.length=k)/\F=sF [1,2,3] fz [(4,.i k)]/\h=[.obj b3 [Yd im.decls,Ud xs v],Zi gz 2,Zi gz 3,.tail v 5]/\m=im.procs.length-k) _ _ _ ⟨0,[],v1,ob,rfl,rfl,rfl,rfl,rfl⟩ (wk [0,1,1,0] (Ye fl)) ?_))))
 rintro m F h ⟨k,xs,v,Yl,Zj,ZD,rfl,rfl,rfl⟩
 refine Yr 3 [2] (iw (JY im.procs) (Y0 ((k:Int)<(im.procs.length:Int)) (fun Z9=>?_) (fun Z9=>?_)))
 ·refine ak (aq (ab 1 (Zp 3 [2] ?_)))
  obtain ⟨x1,Z4⟩:=Zv im.procs k om
  have hpg:=hg.procs _ (Y4 Z4)
  have hpl:=hpg.params
  have hll:=hpg.lent
  have hcl:=hpg.len
  refine Zq (Zk none (k:Int) 5 (Ky Z4)) (Z0 1 (iA [nl,nl,.i 0,.i 0,nl] fun b4=>Zz 0 b4 (UO x1) (ie (aE 20 (ZY 8 20 [0,1,2,3,5,6,8,9,10,11,12,13] [1,0,0,0,0,0] (Z8 4 (dc 4 [] [0,0,0,0,1] [b4,b4,b4,b4,b3] (WP x1.params) ?_)))))))
  rintro _ _ ⟨v2,rfl,rfl⟩
  refine Z8 7 (dc 7 [] [0,0,0,1] [b4,b4,b4,b3] (WP x1.lent) ?_)
  rintro _ _ ⟨v3,rfl,rfl⟩
  exact Z8 14 (YF 14 [] [0,0,1] [b4,b4,b3] (Zep x1.code (hf:=hpg.fwd) (ha:=hpg.args) (hn:=hpg.num) (hs:=hpg.sz)) (Yv 4 5 [15] [(38,.agg [Z3 x1.params,Z3 x1.lent,.i x1.result,.i x1.regs,KM (Qp x1.code)])] (Z8 16 (dL 16 [1] [b3] (Wp [ZZ.mk x1.params x1.lent x1.result x1.regs (Qp x1.code)]) 1 5 fun v4=>Yv 3 3 [] [(39,Lo [ZZ.mk x1.params x1.lent x1.result x1.regs (Qp x1.code)])] (Z8 17 (dp 17 7 [] [] (Wp (xs++[ZZ.mk x1.params x1.lent x1.result x1.regs (Qp x1.code)])) (Wp xs) (Wp [ZZ.mk x1.params x1.lent x1.result x1.regs (Qp x1.code)]) v none 5 (Jd _) (Jd _) (Np _) (by simp<;>omega) (by simp [Z40,Wp]) fun v5=>Zs 1 2 [18] (Z8 19 (YT 19 5 [] [] b3 [Yd im.decls,Ud (xs++[ZZ.mk x1.params x1.lent x1.result x1.regs (Qp x1.code)]) v5] (de (az (Z0 1 (ZK k (Z1 (ZM ⟨k+1,(xs++[ZZ.mk x1.params x1.lent x1.result x1.regs (Qp x1.code)]),v5,ob,(by rw [Zj,V9 Z4,List.map_append];rfl),(by rw [Ys,ZD];rfl),rfl,rfl,rfl⟩ (wk [0,5,5,0] (ZW k fl))))))))))))))))
 exact ax 0 (Zp 1 [0] (Zz 1 b2 [Yd im.decls,Ud xs v] (ie (at_ (r3 [] [.agg [Yd im.decls,Ud xs v]] [0] [(b2,b2)] ⟨rfl,rfl⟩ (Zc.agg (.cons (Zc.sl _ (Yj YU rfl)) (.cons (Zc.sl _ (Yj Wp (by rw [Zj,WT om];rfl))) .nil))))))))
theorem Z6o (rd:Nat) (bs:LI) (p:Nat) (ZL:∀z∈bs,0<=z/\z<=255) (hp:p+400031<=1000000000:=by exact ob):Zo 39 [.p rd 0] [YC rd bs p] (fun r h=>∃(im:YG) (p2:Nat),r=V0 im/\h=[YC rd bs p2]/\IG im/\p<=p2/\p2<=p+400031):=by
 refine ZE 13 Tryz.func39 (ar (iA [nl,nl] fun b1=>ie (Ya 1 (ic [1] (Z5x rd bs p (ZL:=ob)) ?_))))
 rintro _ _ ⟨n1,p21,rfl,rfl,Y3⟩
 have hbf:=Y3.1
 refine Zt [] (Z6k n1 7330630 (hF:=hbf)) (iA [nl,nl] fun b2=>Zz 0 b2 (V4 (A3 n1)) (ie (YO 1 (ic [1] (XU rd bs p21 3 (ZL:=ob)) ?_))))
 rintro _ _ ⟨k1,rfl,rfl,Yq⟩
 refine Yz (k1==0) Zb (fun Z9=>?_) (fun Z9=>?_)
 ·exact Zp 1 [1] (Zt [] (Zeo (A3 n1) (hg:=(IU hbf om).tg)) (Zz 2 b1 (V4 (EZ (A3 n1))) (ie (at_ (r3 [1] [V0 (EZ (A3 n1))] [0] [(b1,b1)] ⟨(EZ (A3 n1)),p21+1,rfl,rfl,⟨(IU hbf om).tc,by omega,by omega⟩⟩ (lr _))))))
 exact ak (Zp 1 [1] (Zz 2 b1 (V4 (A3 n1)) (ie (at_ (r3 [1] [V0 (A3 n1)] [0] [(b1,b1)] ⟨(A3 n1),p21+1,rfl,rfl,⟨IU hbf om,by omega,by omega⟩⟩ (lr _))))))
theorem Su (op:Int) :Zo 87 [.i op] [] (Ym (.b (Ts op))):=by
 refine ZE 21 Tryz.func87 (Y1 (Ya 1 (Zt [] (QU op) (YK 6 [0] [(8,.b (Xg op&&(op != 7)))] (fun gz=>gz) ?_ (fun hj1=>?_)))))
 ·refine YK 10 [0] [(12,.b ((Xg op&&(op != 7))&&(op != 8)))] (fun gz=>gz) ?_ (fun hj2=>?_)
  ·refine YK 14 [0] [(16,.b (((Xg op&&(op != 7))&&(op != 8))||(op==18)))] (fun gz=>gz) ?_ (fun hj3=>?_)
   ·refine YK 18 [] [(20,.b ((((Xg op&&(op != 7))&&(op != 8))||(op==18))||(op==19)))] (fun gz=>gz) ?_ (fun hj4=>?_)
    ·exact Zm (ZP (.b ((((Xg op&&(op != 7))&&(op != 8))||(op==18))||(op==19))) (lb (by rw [Ts,Yb];simp [Xg, *];omega)))
    refine Z0 1 (ib (b:=(((Xg op&&(op != 7))&&(op != 8))||(op==18))) 17 (fun Za=>?_) (fun Za=>?_))
    ·have Y3:(((Xg op=true)/\(op≠7))/\(op≠8))∨(op=18):=((ZB (Y2 (Y2 Iff.rfl Yi) Yi) Zb)).1 Za
     exact Z0 3 (ZJ (wk [] (Zf true Za fl)) hj4)
    have Yq:¬((((Xg op=true)/\(op≠7))/\(op≠8))∨(op=18)):=ZV (ZB (Y2 (Y2 Iff.rfl Yi) Yi) Zb) Za
    exact Z0 3 (ZJ (wk [] (Zf (op==19) Za fl)) hj4)
   refine Z0 1 (ib (b:=((Xg op&&(op != 7))&&(op != 8))) 13 (fun ZA=>?_) (fun ZA=>?_))
   ·have YR:((Xg op=true)/\(op≠7))/\(op≠8):=((Y2 (Y2 Iff.rfl Yi) Yi)).1 ZA
    exact Z0 3 (ZJ (wk [] (Zf true ZA fl)) hj3)
   have X1:¬(((Xg op=true)/\(op≠7))/\(op≠8)):=ZV (Y2 (Y2 Iff.rfl Yi) Yi) ZA
   exact Z0 3 (ZJ (wk [] (Zf (op==18) ZA fl)) hj3)
  refine Z0 1 (ib (b:=(Xg op&&(op != 7))) 9 (fun Yf=>?_) (fun Yf=>?_))
  ·have Xe:(Xg op=true)/\(op≠7):=((Y2 Iff.rfl Yi)).1 Yf
   exact Z0 3 (ZJ (wk [] (Zf (op != 8) Yf fl)) hj2)
  have XO:¬((Xg op=true)/\(op≠7)):=ZV (Y2 Iff.rfl Yi) Yf
  exact Z0 3 (ZJ (wk [] (Zf false Yf fl)) hj2)
 refine Z0 1 (ib (b:=Xg op) 5 (fun YQ=>?_) (fun YQ=>?_))
 ·have W9:Xg op=true:=(Iff.rfl).1 YQ
  exact Z0 3 (ZJ (wk [] (Zf (op != 7) YQ fl)) hj1)
 have WB:¬(Xg op=true):=ZV Iff.rfl YQ
 exact Z0 3 (ZJ (wk [] (Zf false YQ fl)) hj1)
theorem Z33 (x:Instr) (h1:x.args.length<=1000000:=by exact ob) (h2:x.jumps.length<=1000000:=by exact ob):Zo 135 [TE x] [] (fun r h=>∃(v:Hd),r=.agg [.i x.op,.i x.dst,.i x.num,.i x.into,.h v,Z3 x.jumps]/\h=[rV v x.args]):=by
 refine ZE 18 Tryz.func135 (ar (iA (VF x) fun b1=>iA [.i 0,.i 0,.i 0,.i 0,nl,nl] fun b2=>ie (aD 16 (ZY 4 16 [0,1,2,3,4,5,6,7,8,9,11,12] [1,1,1,1,1,1] (Z8 10 (dc 10 [] [1,1,1,1,1] [b1,b1,b1,b1,b1] (AX x.args) ?_))))))
 rintro _ _ ⟨v1,rfl,rfl⟩
 refine Z8 13 (dc 13 [] [1,1,1,1] [b1,b1,b1,b1] (WP x.jumps) ?_)
 rintro _ _ ⟨v2,rfl,rfl⟩
 exact Zs 1 2 [14] (Z8 15 (YT 15 2 [] [] b2 [.i x.op,.i x.dst,.i x.num,.i x.into,.h v1,ZG x.jumps v2] (de (at_ (r3 [2] [.agg [.i x.op,.i x.dst,.i x.num,.i x.into,.h v1,ZG x.jumps v2]] [0] [(b2,b2)] ⟨v1,rfl,rfl⟩ (Zc.agg (.cons (lr _) (.cons (lr _) (.cons (lr _) (.cons (lr _) (.cons (lr _) (.cons (Zc.forget _ _) .nil))))))))))))
theorem Z5y (rd:Nat) (bs:LI) (p:Nat) (x:Instr) (ZL:∀z∈bs,0<=z/\z<=255) (hp:p+3<=1000000000:=by exact ob) (hx:XB x:=by exact ob):Zo 100 [.p rd 0,TE x] [YC rd bs p] (fun r h=>∃(y:Instr) (p2:Nat),r=TE y/\h=[YC rd bs p2]/\XB y/\p<=p2/\p2<=p+3):=by
 have hxl:=hx.l
 have hxn:=hx.n
 refine ZE 85 Tryz.func100 (ar (iA (VF x) fun b1=>iA [.i 0,.i 0,.i 0,.i 0,nl,nl] fun b2=>ie (Zp 1 [1] (ic [] (Z33 x) ?_))))
 rintro _ _ ⟨v1,rfl,rfl⟩
 refine iA [.i 0,.i 0,.i 0,.i 0,nl,nl] fun b3=>Zz 0 b3 [.i x.op,.i x.dst,.i x.num,.i x.into,.h v1,Z3 x.jumps] (ie (YO 1 (ic [4] (XU rd bs p 5 (ZL:=ob)) ?_)))
 rintro _ _ ⟨k1,rfl,rfl,Y3⟩
 have hkhp1:=Y3.lt om
 refine ie (ab 0 (ar (Yz (k1==0) Zb (fun Z9=>?_) (fun Z9=>?_))))
 ·refine QG [4] (ac (x.op==14) Zb (fun Zh=>?_) (fun Zh=>?_))
  ·exact az (Z0 1 (Zz 1 b3 [.i 15,.i x.dst,.i x.num,.i x.into,.h v1,Z3 x.jumps] (ie (ar (Xl (QV 2 v1 x.args) (Xl (Uo 0 0 4 v1.v 1 b3 (Z6 x.args) [.i 15,.i x.dst,.i x.num,.i x.into,.h v1,Z3 x.jumps] (YE _) rfl) (Zu 1 [0] (Zz 3 b2 [.i 15,.i x.dst,.i x.num,.i x.into,ZG x.args v1.v,Z3 x.jumps] (ie (at_ (r3 [3] [.agg [.i 15,.i x.dst,.i x.num,.i x.into,ZG x.args v1.v,Z3 x.jumps]] [0] [(b2,b2)] ⟨(Instr.mk 15 x.dst x.num x.into x.args x.jumps),p+1,rfl,rfl,(by first|exact ⟨hx,by omega,by omega⟩|exact ⟨hx.of rfl rfl (by intro e;first|exact e|(simp at e;done)|omega) (by first|exact hx.n|(simp;omega)|omega),by omega,by omega⟩|exact ⟨hx.of (by simp) rfl (fun e=>e) hx.n,by omega,by omega⟩|exact ⟨.one (by simp) om,by omega,by omega⟩)⟩ (Zc.agg (.cons (lr _) (.cons (lr _) (.cons (lr _) (.cons (lr _) (.cons (Zc.forget _ _) (.cons (lr _) .nil))))))))))))))))))
  refine QG [4] (ac (x.op==15) Zb (fun ZC=>?_) (fun ZC=>?_))
  ·exact az (Z0 1 (Zz 1 b3 [.i 14,.i x.dst,.i x.num,.i x.into,.h v1,Z3 x.jumps] (ie (ar (Xl (QV 2 v1 x.args) (Xl (Uo 0 0 4 v1.v 1 b3 (Z6 x.args) [.i 14,.i x.dst,.i x.num,.i x.into,.h v1,Z3 x.jumps] (YE _) rfl) (Zu 1 [0] (Zz 3 b2 [.i 14,.i x.dst,.i x.num,.i x.into,ZG x.args v1.v,Z3 x.jumps] (ie (at_ (r3 [3] [.agg [.i 14,.i x.dst,.i x.num,.i x.into,ZG x.args v1.v,Z3 x.jumps]] [0] [(b2,b2)] ⟨(Instr.mk 14 x.dst x.num x.into x.args x.jumps),p+1,rfl,rfl,(by first|exact ⟨hx,by omega,by omega⟩|exact ⟨hx.of rfl rfl (by intro e;first|exact e|(simp at e;done)|omega) (by first|exact hx.n|(simp;omega)|omega),by omega,by omega⟩|exact ⟨hx.of (by simp) rfl (fun e=>e) hx.n,by omega,by omega⟩|exact ⟨.one (by simp) om,by omega,by omega⟩)⟩ (Zc.agg (.cons (lr _) (.cons (lr _) (.cons (lr _) (.cons (lr _) (.cons (Zc.forget _ _) (.cons (lr _) .nil))))))))))))))))))
  refine QG [4] (ac (x.op==17) Zb (fun Yh=>?_) (fun Yh=>?_))
  ·exact az (Z0 1 (Zz 1 b3 [.i 16,.i x.dst,.i x.num,.i x.into,.h v1,Z3 x.jumps] (ie (ar (Xl (QV 2 v1 x.args) (Xl (Uo 0 0 4 v1.v 1 b3 (Z6 x.args) [.i 16,.i x.dst,.i x.num,.i x.into,.h v1,Z3 x.jumps] (YE _) rfl) (Zu 1 [0] (Zz 3 b2 [.i 16,.i x.dst,.i x.num,.i x.into,ZG x.args v1.v,Z3 x.jumps] (ie (at_ (r3 [3] [.agg [.i 16,.i x.dst,.i x.num,.i x.into,ZG x.args v1.v,Z3 x.jumps]] [0] [(b2,b2)] ⟨(Instr.mk 16 x.dst x.num x.into x.args x.jumps),p+1,rfl,rfl,(by first|exact ⟨hx,by omega,by omega⟩|exact ⟨hx.of rfl rfl (by intro e;first|exact e|(simp at e;done)|omega) (by first|exact hx.n|(simp;omega)|omega),by omega,by omega⟩|exact ⟨hx.of (by simp) rfl (fun e=>e) hx.n,by omega,by omega⟩|exact ⟨.one (by simp) om,by omega,by omega⟩)⟩ (Zc.agg (.cons (lr _) (.cons (lr _) (.cons (lr _) (.cons (lr _) (.cons (Zc.forget _ _) (.cons (lr _) .nil))))))))))))))))))
  exact ak (ar (Xl (QV 2 v1 x.args) (Xl (Uo 0 1 4 v1.v 1 b3 (Z6 x.args) [.i x.op,.i x.dst,.i x.num,.i x.into,.h v1,Z3 x.jumps] (YE _) rfl) (Zu 1 [0] (Zz 3 b2 [.i x.op,.i x.dst,.i x.num,.i x.into,ZG x.args v1.v,Z3 x.jumps] (ie (at_ (r3 [3] [.agg [.i x.op,.i x.dst,.i x.num,.i x.into,ZG x.args v1.v,Z3 x.jumps]] [0] [(b2,b2)] ⟨x,p+1,rfl,rfl,(by first|exact ⟨hx,by omega,by omega⟩|exact ⟨hx.of rfl rfl (by intro e;first|exact e|(simp at e;done)|omega) (by first|exact hx.n|(simp;omega)|omega),by omega,by omega⟩|exact ⟨hx.of (by simp) rfl (fun e=>e) hx.n,by omega,by omega⟩|exact ⟨.one (by simp) om,by omega,by omega⟩)⟩ (Zc.agg (.cons (lr _) (.cons (lr _) (.cons (lr _) (.cons (lr _) (.cons (Zc.forget _ _) (.cons (lr _) .nil)))))))))))))))
 refine ar (Yz (k1==1) Zb (fun YJ=>?_) (fun YJ=>?_))
 ·refine Zp 2 [1] (Zq (CG 2 v1 x.args) (Y0 ((x.args.length:Int)>0) (fun X2=>?_) (fun X2=>?_)))
  ·refine aE 11 (ZY 6 11 [0,1,2,3,4] [1,1] (dx 5 (CG 2 v1 x.args) (Zs 4 5 [7] (Z8 6 (dc 6 [0] [0] [b3] (Je rd bs (p+1) x.args.length (ZL:=ob)) ?_)))))
   rintro _ _ ⟨YS,rfl,rfl,Yq⟩
   refine Z8 8 (dc 8 [0] [0] [b3] (XU rd bs ((p+1)+1) 4 (ZL:=ob)) ?_)
   rintro _ _ ⟨k2,rfl,rfl,YR⟩
   have hkhp3:=YR.lt om
   exact dx 9 (U3 2 v1 x.args (YS:Int) YS) (Z8 10 (C4 10 2 [] [] v1 x.args YS k2 (de (ar (Xl (QV 0 v1 (x.args.set YS k2)) (Xl (Uo 0 1 4 v1.v 1 b3 (Z6 (x.args.set YS k2)) [.i x.op,.i x.dst,.i x.num,.i x.into,.h v1,Z3 x.jumps] (YE _) rfl) (Zu 1 [0] (Zz 3 b2 [.i x.op,.i x.dst,.i x.num,.i x.into,ZG (x.args.set YS k2) v1.v,Z3 x.jumps] (ie (at_ (r3 [3] [.agg [.i x.op,.i x.dst,.i x.num,.i x.into,ZG (x.args.set YS k2) v1.v,Z3 x.jumps]] [0] [(b2,b2)] ⟨(Instr.mk x.op x.dst x.num x.into (x.args.set YS k2) x.jumps),((p+1)+1)+1,rfl,rfl,(by first|exact ⟨hx,by omega,by omega⟩|exact ⟨hx.of rfl rfl (by intro e;first|exact e|(simp at e;done)|omega) (by first|exact hx.n|(simp;omega)|omega),by omega,by omega⟩|exact ⟨hx.of (by simp) rfl (fun e=>e) hx.n,by omega,by omega⟩|exact ⟨.one (by simp) om,by omega,by omega⟩)⟩ (Zc.agg (.cons (lr _) (.cons (lr _) (.cons (lr _) (.cons (lr _) (.cons (Zc.forget _ _) (.cons (lr _) .nil))))))))))))))))))
  exact ak (ar (Xl (QV 2 v1 x.args) (Xl (Uo 0 1 4 v1.v 1 b3 (Z6 x.args) [.i x.op,.i x.dst,.i x.num,.i x.into,.h v1,Z3 x.jumps] (YE _) rfl) (Zu 1 [0] (Zz 3 b2 [.i x.op,.i x.dst,.i x.num,.i x.into,ZG x.args v1.v,Z3 x.jumps] (ie (at_ (r3 [3] [.agg [.i x.op,.i x.dst,.i x.num,.i x.into,ZG x.args v1.v,Z3 x.jumps]] [0] [(b2,b2)] ⟨x,p+1,rfl,rfl,(by first|exact ⟨hx,by omega,by omega⟩|exact ⟨hx.of rfl rfl (by intro e;first|exact e|(simp at e;done)|omega) (by first|exact hx.n|(simp;omega)|omega),by omega,by omega⟩|exact ⟨hx.of (by simp) rfl (fun e=>e) hx.n,by omega,by omega⟩|exact ⟨.one (by simp) om,by omega,by omega⟩)⟩ (Zc.agg (.cons (lr _) (.cons (lr _) (.cons (lr _) (.cons (lr _) (.cons (Zc.forget _ _) (.cons (lr _) .nil)))))))))))))))
 refine ar (Yz (k1==2) Zb (fun Wx=>?_) (fun Wx=>?_))
 ·refine Zp 2 [4] (Zt [] (Su x.op) (ie (ac (Ts x.op) Iff.rfl (fun Vx=>?_) (fun Vx=>?_))))
  ·refine az (Z0 1 (ic [0] (XU rd bs (p+1) 4 (ZL:=ob)) ?_))
   rintro _ _ ⟨k3,rfl,rfl,X1⟩
   have hkhp4:=X1.lt om
   exact Z0 1 (Zz 1 b3 [.i x.op,.i k3,.i x.num,.i x.into,.h v1,Z3 x.jumps] (ie (ar (Xl (QV 2 v1 x.args) (Xl (Uo 0 0 4 v1.v 1 b3 (Z6 x.args) [.i x.op,.i k3,.i x.num,.i x.into,.h v1,Z3 x.jumps] (YE _) rfl) (Zu 1 [0] (Zz 3 b2 [.i x.op,.i k3,.i x.num,.i x.into,ZG x.args v1.v,Z3 x.jumps] (ie (at_ (r3 [3] [.agg [.i x.op,.i k3,.i x.num,.i x.into,ZG x.args v1.v,Z3 x.jumps]] [0] [(b2,b2)] ⟨(Instr.mk x.op k3 x.num x.into x.args x.jumps),(p+1)+1,rfl,rfl,(by first|exact ⟨hx,by omega,by omega⟩|exact ⟨hx.of rfl rfl (by intro e;first|exact e|(simp at e;done)|omega) (by first|exact hx.n|(simp;omega)|omega),by omega,by omega⟩|exact ⟨hx.of (by simp) rfl (fun e=>e) hx.n,by omega,by omega⟩|exact ⟨.one (by simp) om,by omega,by omega⟩)⟩ (Zc.agg (.cons (lr _) (.cons (lr _) (.cons (lr _) (.cons (lr _) (.cons (Zc.forget _ _) (.cons (lr _) .nil)))))))))))))))))
  exact ak (ar (Xl (QV 2 v1 x.args) (Xl (Uo 0 1 4 v1.v 1 b3 (Z6 x.args) [.i x.op,.i x.dst,.i x.num,.i x.into,.h v1,Z3 x.jumps] (YE _) rfl) (Zu 1 [0] (Zz 3 b2 [.i x.op,.i x.dst,.i x.num,.i x.into,ZG x.args v1.v,Z3 x.jumps] (ie (at_ (r3 [3] [.agg [.i x.op,.i x.dst,.i x.num,.i x.into,ZG x.args v1.v,Z3 x.jumps]] [0] [(b2,b2)] ⟨x,p+1,rfl,rfl,(by first|exact ⟨hx,by omega,by omega⟩|exact ⟨hx.of rfl rfl (by intro e;first|exact e|(simp at e;done)|omega) (by first|exact hx.n|(simp;omega)|omega),by omega,by omega⟩|exact ⟨hx.of (by simp) rfl (fun e=>e) hx.n,by omega,by omega⟩|exact ⟨.one (by simp) om,by omega,by omega⟩)⟩ (Zc.agg (.cons (lr _) (.cons (lr _) (.cons (lr _) (.cons (lr _) (.cons (Zc.forget _ _) (.cons (lr _) .nil)))))))))))))))
 refine ar (Yz (k1==3) Zb (fun V3=>?_) (fun V3=>?_))
 ·refine Yr 4 [4] (ib (b:=(x.op==16)) 53 (fun Za=>?_) (fun Za=>?_))
  ·have Xe:x.op=16:=(Zb).1 Za
   refine Z1 (Vn (Zp 2 [4] ?_))
   obtain ⟨x1,Z4⟩:=Zv x.args 0 (BO.2 (hx.a om))
   exact Zq (Zk none 0 1 (Y7 Z4)) (Z0 1 (iL (Z6 [x1]) 1 1 fun v2=>Z0 1 (Zz 4 b2 [.i 15,.i 0,.i 0,.i 0,ZG [x1] v2,nl] (ie (at_ (r3 [2] [.agg [.i 15,.i 0,.i 0,.i 0,ZG [x1] v2,nl]] [0] [(b2,b2)] ⟨(Instr.mk 15 0 0 0 [x1] []),p+1,rfl,rfl,(by first|exact ⟨hx,by omega,by omega⟩|exact ⟨hx.of rfl rfl (by intro e;first|exact e|(simp at e;done)|omega) (by first|exact hx.n|(simp;omega)|omega),by omega,by omega⟩|exact ⟨hx.of (by simp) rfl (fun e=>e) hx.n,by omega,by omega⟩|exact ⟨.one (by simp) om,by omega,by omega⟩)⟩ (Zc.agg (.cons (lr _) (.cons (lr _) (.cons (lr _) (.cons (lr _) (.cons (Zc.forget _ _) (.cons (Zc.forget _ _) .nil)))))))))))))
  have XO:¬(x.op=16):=ZV Zb Za
  refine WI [4] (ac (x.op==17) Zb (fun Vg=>?_) (fun Vg=>?_))
  ·refine Zp 2 [4] ?_
   obtain ⟨x2,Zy⟩:=Zv x.args 0 (BO.2 (hx.a om))
   exact Zq (Zk none 0 1 (Y7 Zy)) (Z0 1 (iL (Z6 [x2]) 1 1 fun v3=>Z0 1 (Zz 4 b2 [.i 15,.i 0,.i 0,.i 0,ZG [x2] v3,nl] (ie (at_ (r3 [2] [.agg [.i 15,.i 0,.i 0,.i 0,ZG [x2] v3,nl]] [0] [(b2,b2)] ⟨(Instr.mk 15 0 0 0 [x2] []),p+1,rfl,rfl,(by first|exact ⟨hx,by omega,by omega⟩|exact ⟨hx.of rfl rfl (by intro e;first|exact e|(simp at e;done)|omega) (by first|exact hx.n|(simp;omega)|omega),by omega,by omega⟩|exact ⟨hx.of (by simp) rfl (fun e=>e) hx.n,by omega,by omega⟩|exact ⟨.one (by simp) om,by omega,by omega⟩)⟩ (Zc.agg (.cons (lr _) (.cons (lr _) (.cons (lr _) (.cons (lr _) (.cons (Zc.forget _ _) (.cons (Zc.forget _ _) .nil)))))))))))))
  refine ak (QG [4] (ac (x.op==6) Zb (fun Tl=>?_) (fun Tl=>?_)))
  ·refine az (Z0 1 (ic [0] (XU rd bs (p+1) 4 (ZL:=ob)) ?_))
   rintro _ _ ⟨k4,rfl,rfl,W9⟩
   have hkhp7:=W9.lt om
   exact Z0 1 (Zz 1 b3 [.i x.op,.i x.dst,.i x.num,.i k4,.h v1,Z3 x.jumps] (ie (ar (Xl (QV 2 v1 x.args) (Xl (Uo 0 0 4 v1.v 1 b3 (Z6 x.args) [.i x.op,.i x.dst,.i x.num,.i k4,.h v1,Z3 x.jumps] (YE _) rfl) (Zu 1 [0] (Zz 3 b2 [.i x.op,.i x.dst,.i x.num,.i k4,ZG x.args v1.v,Z3 x.jumps] (ie (at_ (r3 [3] [.agg [.i x.op,.i x.dst,.i x.num,.i k4,ZG x.args v1.v,Z3 x.jumps]] [0] [(b2,b2)] ⟨(Instr.mk x.op x.dst x.num k4 x.args x.jumps),(p+1)+1,rfl,rfl,(by first|exact ⟨hx,by omega,by omega⟩|exact ⟨hx.of rfl rfl (by intro e;first|exact e|(simp at e;done)|omega) (by first|exact hx.n|(simp;omega)|omega),by omega,by omega⟩|exact ⟨hx.of (by simp) rfl (fun e=>e) hx.n,by omega,by omega⟩|exact ⟨.one (by simp) om,by omega,by omega⟩)⟩ (Zc.agg (.cons (lr _) (.cons (lr _) (.cons (lr _) (.cons (lr _) (.cons (Zc.forget _ _) (.cons (lr _) .nil)))))))))))))))))
  exact ak (ar (Xl (QV 2 v1 x.args) (Xl (Uo 0 1 4 v1.v 1 b3 (Z6 x.args) [.i x.op,.i x.dst,.i x.num,.i x.into,.h v1,Z3 x.jumps] (YE _) rfl) (Zu 1 [0] (Zz 3 b2 [.i x.op,.i x.dst,.i x.num,.i x.into,ZG x.args v1.v,Z3 x.jumps] (ie (at_ (r3 [3] [.agg [.i x.op,.i x.dst,.i x.num,.i x.into,ZG x.args v1.v,Z3 x.jumps]] [0] [(b2,b2)] ⟨x,p+1,rfl,rfl,(by first|exact ⟨hx,by omega,by omega⟩|exact ⟨hx.of rfl rfl (by intro e;first|exact e|(simp at e;done)|omega) (by first|exact hx.n|(simp;omega)|omega),by omega,by omega⟩|exact ⟨hx.of (by simp) rfl (fun e=>e) hx.n,by omega,by omega⟩|exact ⟨.one (by simp) om,by omega,by omega⟩)⟩ (Zc.agg (.cons (lr _) (.cons (lr _) (.cons (lr _) (.cons (lr _) (.cons (Zc.forget _ _) (.cons (lr _) .nil)))))))))))))))
 refine ar (Yz (k1==4) Zb (fun Vh=>?_) (fun Vh=>?_))
 ·refine QG [4] (ac (x.op==0) Zb (fun TL=>?_) (fun TL=>?_))
  ·refine az (Z0 1 (ic [0] (XU rd bs (p+1) 9 (ZL:=ob)) ?_))
   rintro _ _ ⟨k5,rfl,rfl,WB⟩
   have hkhp8:=WB.lt om
   exact Z0 1 (Zz 1 b3 [.i x.op,.i x.dst,.i k5,.i x.into,.h v1,Z3 x.jumps] (ie (ar (Xl (QV 2 v1 x.args) (Xl (Uo 0 0 4 v1.v 1 b3 (Z6 x.args) [.i x.op,.i x.dst,.i k5,.i x.into,.h v1,Z3 x.jumps] (YE _) rfl) (Zu 1 [0] (Zz 3 b2 [.i x.op,.i x.dst,.i k5,.i x.into,ZG x.args v1.v,Z3 x.jumps] (ie (at_ (r3 [3] [.agg [.i x.op,.i x.dst,.i k5,.i x.into,ZG x.args v1.v,Z3 x.jumps]] [0] [(b2,b2)] ⟨(Instr.mk x.op x.dst k5 x.into x.args x.jumps),(p+1)+1,rfl,rfl,(by first|exact ⟨hx,by omega,by omega⟩|exact ⟨hx.of rfl rfl (by intro e;first|exact e|(simp at e;done)|omega) (by first|exact hx.n|(simp;omega)|omega),by omega,by omega⟩|exact ⟨hx.of (by simp) rfl (fun e=>e) hx.n,by omega,by omega⟩|exact ⟨.one (by simp) om,by omega,by omega⟩)⟩ (Zc.agg (.cons (lr _) (.cons (lr _) (.cons (lr _) (.cons (lr _) (.cons (Zc.forget _ _) (.cons (lr _) .nil)))))))))))))))))
  refine QG [4] (ac (x.op==19) Zb (fun Cl=>?_) (fun Cl=>?_))
  ·refine az (Z0 1 (ic [0] (XU rd bs (p+1) 3 (ZL:=ob)) ?_))
   rintro _ _ ⟨k6,rfl,rfl,WY⟩
   have hkhp9:=WY.lt om
   exact Z0 1 (Zz 1 b3 [.i x.op,.i x.dst,.i k6,.i x.into,.h v1,Z3 x.jumps] (ie (ar (Xl (QV 2 v1 x.args) (Xl (Uo 0 0 4 v1.v 1 b3 (Z6 x.args) [.i x.op,.i x.dst,.i k6,.i x.into,.h v1,Z3 x.jumps] (YE _) rfl) (Zu 1 [0] (Zz 3 b2 [.i x.op,.i x.dst,.i k6,.i x.into,ZG x.args v1.v,Z3 x.jumps] (ie (at_ (r3 [3] [.agg [.i x.op,.i x.dst,.i k6,.i x.into,ZG x.args v1.v,Z3 x.jumps]] [0] [(b2,b2)] ⟨(Instr.mk x.op x.dst k6 x.into x.args x.jumps),(p+1)+1,rfl,rfl,(by first|exact ⟨hx,by omega,by omega⟩|exact ⟨hx.of rfl rfl (by intro e;first|exact e|(simp at e;done)|omega) (by first|exact hx.n|(simp;omega)|omega),by omega,by omega⟩|exact ⟨hx.of (by simp) rfl (fun e=>e) hx.n,by omega,by omega⟩|exact ⟨.one (by simp) om,by omega,by omega⟩)⟩ (Zc.agg (.cons (lr _) (.cons (lr _) (.cons (lr _) (.cons (lr _) (.cons (Zc.forget _ _) (.cons (lr _) .nil)))))))))))))))))
  exact ak (ar (Xl (QV 2 v1 x.args) (Xl (Uo 0 1 4 v1.v 1 b3 (Z6 x.args) [.i x.op,.i x.dst,.i x.num,.i x.into,.h v1,Z3 x.jumps] (YE _) rfl) (Zu 1 [0] (Zz 3 b2 [.i x.op,.i x.dst,.i x.num,.i x.into,ZG x.args v1.v,Z3 x.jumps] (ie (at_ (r3 [3] [.agg [.i x.op,.i x.dst,.i x.num,.i x.into,ZG x.args v1.v,Z3 x.jumps]] [0] [(b2,b2)] ⟨x,p+1,rfl,rfl,(by first|exact ⟨hx,by omega,by omega⟩|exact ⟨hx.of rfl rfl (by intro e;first|exact e|(simp at e;done)|omega) (by first|exact hx.n|(simp;omega)|omega),by omega,by omega⟩|exact ⟨hx.of (by simp) rfl (fun e=>e) hx.n,by omega,by omega⟩|exact ⟨.one (by simp) om,by omega,by omega⟩)⟩ (Zc.agg (.cons (lr _) (.cons (lr _) (.cons (lr _) (.cons (lr _) (.cons (Zc.forget _ _) (.cons (lr _) .nil)))))))))))))))
 exact ak (ar (Xl (QV 2 v1 x.args) (Xl (Uo 0 1 4 v1.v 1 b3 (Z6 x.args) [.i x.op,.i x.dst,.i x.num,.i x.into,.h v1,Z3 x.jumps] (YE _) rfl) (Zu 1 [0] (Zz 3 b2 [.i x.op,.i x.dst,.i x.num,.i x.into,ZG x.args v1.v,Z3 x.jumps] (ie (at_ (r3 [3] [.agg [.i x.op,.i x.dst,.i x.num,.i x.into,ZG x.args v1.v,Z3 x.jumps]] [0] [(b2,b2)] ⟨x,p+1,rfl,rfl,(by first|exact ⟨hx,by omega,by omega⟩|exact ⟨hx.of rfl rfl (by intro e;first|exact e|(simp at e;done)|omega) (by first|exact hx.n|(simp;omega)|omega),by omega,by omega⟩|exact ⟨hx.of (by simp) rfl (fun e=>e) hx.n,by omega,by omega⟩|exact ⟨.one (by simp) om,by omega,by omega⟩)⟩ (Zc.agg (.cons (lr _) (.cons (lr _) (.cons (lr _) (.cons (lr _) (.cons (Zc.forget _ _) (.cons (lr _) .nil)))))))))))))))
theorem Z7m (rd:Nat) (bs:LI) (p:Nat) (x:Instr) (lz:Nat) (ZL:∀z∈bs,0<=z/\z<=255) (hp:p+4<=1000000000:=by exact ob) (hx:XZ lz x:=by exact ob) (hl:lz<=100:=by exact ob):Zo 103 [.p rd 0,TE x] [YC rd bs p] (fun r h=>∃(y:Instr) (p2:Nat),r=TE y/\h=[YC rd bs p2]/\XZ (lz+1) y/\p<=p2/\p2<=p+4):=by
 have hxl:=hx.l
 have hxn:=hx.n
 refine ZE 48 Tryz.func103 (ar (iA (VF x) fun b1=>iA [.i 0,.i 0,.i 0,.i 0,nl,nl] fun b2=>ie (Zp 1 [1] (Zt [] (LZ x) (iA [.i 0,.i 0,.i 0,.i 0,nl,nl] fun b3=>Zz 0 b3 (VF x) (ie (YO 1 (ic [3] (XU rd bs p 6 (ZL:=ob)) ?_))))))))
 rintro _ _ ⟨k1,rfl,rfl,Y3⟩
 refine ie (ab 0 (ar (Yz (k1==0) Zb (fun Z9=>?_) (fun Z9=>?_))))
 ·refine az (Z0 1 (ic [0] (XU rd bs (p+1) 26 (ZL:=ob)) ?_))
  rintro _ _ ⟨k2,rfl,rfl,Yq⟩
  exact Z0 1 (Zz 1 b3 [.i k2,.i x.dst,.i x.num,.i x.into,Z3 x.args,Z3 x.jumps] (ie (Zp 1 [0] (Zz 2 b2 [.i k2,.i x.dst,.i x.num,.i x.into,Z3 x.args,Z3 x.jumps] (ie (at_ (r3 [2] [.agg [.i k2,.i x.dst,.i x.num,.i x.into,Z3 x.args,Z3 x.jumps]] [0] [(b2,b2)] ⟨(Instr.mk k2 x.dst x.num x.into x.args x.jumps),(p+1)+1,rfl,rfl,(by exact ⟨hx.of (by first|(dsimp only;omega)|omega) (by first|(dsimp only;omega)|omega) (by (try dsimp only);first|omega|(rcases hon with e|e|e|e|e|e<;>omega)),by omega,by omega⟩)⟩ (lr _))))))))
 refine ar (Yz (k1==1) Zb (fun Zh=>?_) (fun Zh=>?_))
 ·refine az (Z0 1 (iL (Z6 [0,1,-1,99]) 4 1 fun v1=>ZU 0 [(18,Z3 [0,1,-1,99])] (ic [1] (Uw rd bs (p+1) [0,1,-1,99] (ZL:=ob)) ?_)))
  rintro _ _ ⟨z1,rfl,rfl,YR⟩
  have hon:=YR
  simp only [YM,List.not_mem_nil,or_false] at hon
  exact Z0 1 (Zz 2 b3 [.i x.op,.i z1,.i x.num,.i x.into,Z3 x.args,Z3 x.jumps] (ie (Zp 1 [0] (Zz 3 b2 [.i x.op,.i z1,.i x.num,.i x.into,Z3 x.args,Z3 x.jumps] (ie (at_ (r3 [2] [.agg [.i x.op,.i z1,.i x.num,.i x.into,Z3 x.args,Z3 x.jumps]] [0] [(b2,b2)] ⟨(Instr.mk x.op z1 x.num x.into x.args x.jumps),(p+1)+1,rfl,rfl,(by exact ⟨hx.of (by first|(dsimp only;omega)|omega) (by first|(dsimp only;omega)|omega) (by (try dsimp only);first|omega|(rcases hon with e|e|e|e|e|e<;>omega)),by omega,by omega⟩)⟩ (lr _))))))))
 refine ar (Yz (k1==2) Zb (fun ZC=>?_) (fun ZC=>?_))
 ·refine az (Z0 1 (iL (Z6 [0,1,5,-1,1000,2000]) 6 1 fun v2=>ZU 0 [(24,Z3 [0,1,5,-1,1000,2000])] (ic [1] (Uw rd bs (p+1) [0,1,5,-1,1000,2000] (ZL:=ob)) ?_)))
  rintro _ _ ⟨z2,rfl,rfl,X1⟩
  have hon:=X1
  simp only [YM,List.not_mem_nil,or_false] at hon
  exact Z0 1 (Zz 2 b3 [.i x.op,.i x.dst,.i z2,.i x.into,Z3 x.args,Z3 x.jumps] (ie (Zp 1 [0] (Zz 3 b2 [.i x.op,.i x.dst,.i z2,.i x.into,Z3 x.args,Z3 x.jumps] (ie (at_ (r3 [2] [.agg [.i x.op,.i x.dst,.i z2,.i x.into,Z3 x.args,Z3 x.jumps]] [0] [(b2,b2)] ⟨(Instr.mk x.op x.dst z2 x.into x.args x.jumps),(p+1)+1,rfl,rfl,(by exact ⟨hx.of (by first|(dsimp only;omega)|omega) (by first|(dsimp only;omega)|omega) (by (try dsimp only);first|omega|(rcases hon with e|e|e|e|e|e<;>omega)),by omega,by omega⟩)⟩ (lr _))))))))
 refine ar (Yz (k1==3) Zb (fun Yh=>?_) (fun Yh=>?_))
 ·refine az (Z0 1 (iL (Z6 [0,1,-1,99]) 4 1 fun v3=>ZU 0 [(30,Z3 [0,1,-1,99])] (ic [1] (Uw rd bs (p+1) [0,1,-1,99] (ZL:=ob)) ?_)))
  rintro _ _ ⟨z3,rfl,rfl,Xe⟩
  have hon:=Xe
  simp only [YM,List.not_mem_nil,or_false] at hon
  exact Z0 1 (Zz 2 b3 [.i x.op,.i x.dst,.i x.num,.i z3,Z3 x.args,Z3 x.jumps] (ie (Zp 1 [0] (Zz 3 b2 [.i x.op,.i x.dst,.i x.num,.i z3,Z3 x.args,Z3 x.jumps] (ie (at_ (r3 [2] [.agg [.i x.op,.i x.dst,.i x.num,.i z3,Z3 x.args,Z3 x.jumps]] [0] [(b2,b2)] ⟨(Instr.mk x.op x.dst x.num z3 x.args x.jumps),(p+1)+1,rfl,rfl,(by exact ⟨hx.of (by first|(dsimp only;omega)|omega) (by first|(dsimp only;omega)|omega) (by (try dsimp only);first|omega|(rcases hon with e|e|e|e|e|e<;>omega)),by omega,by omega⟩)⟩ (lr _))))))))
 refine ar (Yz (k1==4) Zb (fun YJ=>?_) (fun YJ=>?_))
 ·refine az (Zu 3 [1] (ic [0] (IE rd bs (p+1) x.args (ZL:=ob)) ?_))
  rintro _ _ ⟨zs1,p21,rfl,rfl,XO⟩
  have hsi:=XO
  exact Z0 1 (Zz 1 b3 [.i x.op,.i x.dst,.i x.num,.i x.into,Z3 zs1,Z3 x.jumps] (ie (Zp 1 [0] (Zz 2 b2 [.i x.op,.i x.dst,.i x.num,.i x.into,Z3 zs1,Z3 x.jumps] (ie (at_ (r3 [2] [.agg [.i x.op,.i x.dst,.i x.num,.i x.into,Z3 zs1,Z3 x.jumps]] [0] [(b2,b2)] ⟨(Instr.mk x.op x.dst x.num x.into zs1 x.jumps),p21,rfl,rfl,(by exact ⟨hx.of (by first|(dsimp only;omega)|omega) (by first|(dsimp only;omega)|omega) (by (try dsimp only);first|omega|(rcases hon with e|e|e|e|e|e<;>omega)),by omega,by omega⟩)⟩ (lr _))))))))
 refine ar (Yz (k1==5) Zb (fun X2=>?_) (fun X2=>?_))
 ·refine az (Zu 3 [1] (ic [0] (IE rd bs (p+1) x.jumps (ZL:=ob)) ?_))
  rintro _ _ ⟨zs2,p22,rfl,rfl,W9⟩
  have hsi:=W9
  exact Z0 1 (Zz 1 b3 [.i x.op,.i x.dst,.i x.num,.i x.into,Z3 x.args,Z3 zs2] (ie (Zp 1 [0] (Zz 2 b2 [.i x.op,.i x.dst,.i x.num,.i x.into,Z3 x.args,Z3 zs2] (ie (at_ (r3 [2] [.agg [.i x.op,.i x.dst,.i x.num,.i x.into,Z3 x.args,Z3 zs2]] [0] [(b2,b2)] ⟨(Instr.mk x.op x.dst x.num x.into x.args zs2),p22,rfl,rfl,(by exact ⟨hx.of (by first|(dsimp only;omega)|omega) (by first|(dsimp only;omega)|omega) (by (try dsimp only);first|omega|(rcases hon with e|e|e|e|e|e<;>omega)),by omega,by omega⟩)⟩ (lr _))))))))
 exact ak (Zp 1 [1] (Zz 2 b2 (VF x) (ie (at_ (r3 [1] [TE x] [0] [(b2,b2)] ⟨x,p+1,rfl,rfl,(by exact ⟨hx.of (by first|(dsimp only;omega)|omega) (by first|(dsimp only;omega)|omega) (by (try dsimp only);first|omega|(rcases hon with e|e|e|e|e|e<;>omega)),by omega,by omega⟩)⟩ (lr _))))))
theorem Zdt (ds:List Ze) (hd:Qv ds:=by exact ob):Zo 108 [Yd ds] [] (Ym (Yd ds)):=by
 have hdl:=hd.len
 refine ZE 55 Tryz.func108 (Y1 (ar (iL (YU []) 0 3 fun v1=>?_)))
 refine Z1 (Y6 (ab 0 (Y5 (fun fz gz m F h=>∃(k:Nat) (v:Value),(k<=ds.length)/\F=sF [0] fz [(3,Ke (ds.take k) v),(4,.i k)]/\h=[.tail v 3]/\m=ds.length-k) _ _ _ ⟨0,v1,ob,rfl,rfl,rfl⟩ (wk [0] (fc (x:=Ke [] v1) (Zc.slh _ (Yj YU rfl)) (Ye fl))) ?_)))
 rintro m F h ⟨k,v,Yl,rfl,rfl,rfl⟩
 refine YO 2 (iw (Us ds) (Y0 ((k:Int)<(ds.length:Int)) (fun Z9=>?_) (fun Z9=>?_)))
 ·obtain ⟨xd,hxd⟩:=Zv ds k om
  have hcl:=hd.cons_at hxd
  refine ak (aq (ab 1 (ar (iL (Wo []) 0 1 fun v2=>?_))))
  refine Z1 (Y6 (ab 2 (Y5 (fun fz gz m F h=>∃(j:Nat) (u:Value),(j<=xd.cons.length)/\F=sF [0,3,4] fz [(5,Dv (xd.cons.take j) u),(6,.i j)]/\h=[.tail u 1,Zi gz 1]/\m=xd.cons.length-j) _ _ _ ⟨0,v2,ob,rfl,rfl,rfl⟩ (wk [0,0] (fc (x:=Dv [] v2) (Zc.slh _ (Yj Wo rfl)) (Ye fl))) ?_)))
  rintro m F h ⟨j,u,U8,rfl,rfl,rfl⟩
  refine YO 3 (Zq (Zk none (k:Int) 3 (Vw hxd)) (Z0 2 (iw (UY xd.cons) (Y0 ((j:Int)<(xd.cons.length:Int)) (fun Zh=>?_) (fun Zh=>?_)))))
  ·refine ak (aq (ab 3 (az (Z0 3 (Zq (Zk none (k:Int) 3 (Vw hxd)) (Z0 3 ?_))))))
   obtain ⟨x1,Z4⟩:=Zv xd.cons j om
   have hfl:=hd.fields_at hxd Z4
   refine Zq (Zk none (j:Int) 1 (Ca Z4)) (Z0 2 (ic [] (WP x1.fields) ?_))
   rintro _ _ ⟨v3,rfl,rfl⟩
   exact ZU 1 [(36,CM x1)] (iL (Wo [x1]) 1 1 fun v4=>ZU 0 [(37,QM [x1])] (ip 2 (Wo (xd.cons.take (j+1))) (Wo (xd.cons.take j)) (Wo [x1]) u none 1 (E7 _) (E7 _) (Nl _) (by simp<;>omega) (by rw [V9 Z4];simp [Wo]) fun v5=>Z1 (az (Z0 1 (ZK j (Z1 (ZM ⟨j+1,v5,ob,rfl,rfl,rfl⟩ (wk [0,2] (fr (ZW j fl))))))))))
  exact ax 2 (aE 16 (Zs 13 16 [0,1,2] (dx 3 (Zk none (k:Int) 3 (Vw hxd)) (Zs 8 12 [4,5,6,7] (dx 8 (Zk none (k:Int) 3 (Vw hxd)) (Yv 3 7 [9,10,11,12] [(51,.agg [.i xd.frm,.i xd.to_,QM (xd.cons.take j)])] (Z8 13 (dL 13 [] [] (YU [Ze.mk xd.frm xd.to_ (xd.cons.take j)]) 1 3 fun v6=>Yv 2 2 [] [(52,Yd [Ze.mk xd.frm xd.to_ (xd.cons.take j)])] (Z8 14 (dp 14 2 [] [] (YU (ds.take (k+1))) (YU (ds.take k)) (YU [Ze.mk xd.frm xd.to_ (xd.cons.take j)]) v none 3 (K4 _) (K4 _) (E8 _) (by simp<;>omega) (by rw [V9 hxd];simp [YU,WT (show xd.cons.length<=j by omega)]) fun v7=>Zs 0 1 [15] (de (az (Z0 1 (ZK k (Z1 (ZM ⟨k+1,v7,ob,rfl,rfl,rfl⟩ (wk [0] (fr (ZW k fl)))))))))))))))))))
 exact ax 0 (ar (Zm (ZP (Ke (ds.take k) v) (Zc.sl _ (Yj YU (by rw [WT om]))))))
theorem N9 (im:YG) (lz:Nat) (hz:IZ im lz:=by exact ob) (hlz:lz<=100:=by exact ob):Zo 99 [V0 im] [] (fun r h=>∃(v:Hd) (U:Nat->Hd),r=.agg [Yd im.decls,.h v]/\h=[rK v 5 (pD (Xv U) im.procs 0),rK (U 0) 6 (Zg (Y9 (cL im.procs 0))),rK (U 1) 6 (Zg (Y9 (cL im.procs 1))),rK (U 2) 6 (Zg (Y9 (cL im.procs 2))),rK (U 3) 6 (Zg (Y9 (cL im.procs 3)))]):=by
 have hil:=hz.len
 refine ZE 60 Tryz.func99 (ar (iA (V4 im) fun b1=>iA [nl,nl] fun b2=>ie (Zp 2 [1] (Zt [] (Zdt im.decls (hd:=hz.decls.sz)) (Ep 5 fun g1=>Z0 1 (iA [nl,nl] fun b3=>?_))))))
 refine Zz 0 b3 [Yd im.decls,.ms g1 0 0 0] (ie (Xa (Xl (tU0 (im.procs.take 0) rfl) (Z1 (ab 0 (Y5 (fun fz gz m F h=>∃(k:Nat) (v:Hd) (U:Nat->Hd),(k<=im.procs.length)/\F=sF [1,2,3] fz [(4,.i k)]/\h=[.obj b3 [Yd im.decls,.h v],Zi gz 6,Zi gz 7,rK v 5 (pD (Xv U) (im.procs.take k) 0),rK (U 0) 6 (Zg (Y9 (cL (im.procs.take k) 0))),rK (U 1) 6 (Zg (Y9 (cL (im.procs.take k) 1))),rK (U 2) 6 (Zg (Y9 (cL (im.procs.take k) 2))),rK (U 3) 6 (Zg (Y9 (cL (im.procs.take k) 3)))]/\m=im.procs.length-k) _ _ _ ⟨0,(⟨some ⟨g1,0,none⟩,0,0⟩:Hd),U0,ob,rfl,rfl,rfl⟩ (wk [4,5,5,4,0,0,0,0] (Ye fl) (e:=(rc (rc (rc (rr (ls:=[]) (by first|rfl|exact pAll_zero.symm) (rc (rc (rc (rc rz)))))))))) ?_))))))
 rintro m F h ⟨k,v,U,Yl,rfl,rfl,rfl⟩
 refine Yr 3 [2] (iw (JY im.procs) (Y0 ((k:Int)<(im.procs.length:Int)) (fun Z9=>?_) (fun Z9=>?_)))
 ·refine ak (aq (ab 1 (Zp 3 [2] ?_)))
  obtain ⟨x1,Z4⟩:=Zv im.procs k om
  have hpz:=hz.procs _ (Y4 Z4)
  have Y3:=hpz.params
  have Yq:=hpz.lent
  have YR:=hpz.len
  refine Zq (Zk none (k:Int) 5 (Ky Z4)) (Z0 1 (iA [nl,nl,.i 0,.i 0,nl] fun b4=>Zz 0 b4 (UO x1) (ie (ar (Ep 6 fun g2=>?_)))))
  refine Z1 (Y6 (ab 2 (Y5 (fun fz gz m F h=>∃(j:Nat) (r:Hd),(j<=x1.code.length)/\F=sF [1,2,3,4,5] fz [(6,.h r),(7,.i j)]/\h=[Zi gz 1,Zi gz 2,Zi gz 3,Zi gz 4,Zi gz 5,Zi gz 6,Zi gz 7,Zi gz 8,Zi gz 9,rK r 6 (Zg (Y9 (x1.code.take j)))]/\m=x1.code.length-j) _ _ _ ⟨0,(⟨some ⟨g2,0,none⟩,0,0⟩:Hd),ob,rfl,rfl,rfl⟩ (wk [1,1,1,1,1,1,1,1,1,0] (fr (Ye fl)) (e:=(rc (rc (rc (rc (rc (rc (rc (rc (rc (rr (ls:=[]) (by first|rfl|(rw [List.take_zero];rfl)) rz)))))))))))) ?_)))
  rintro m F h ⟨j,r,U8,rfl,rfl,rfl⟩
  refine Yr 3 [0] (iw (QD x1.code) (Y0 ((j:Int)<(x1.code.length:Int)) (fun Zh=>?_) (fun Zh=>?_)))
  ·refine ak (aq (ab 3 (az (Zu 4 [0] ?_))))
   obtain ⟨x2,Zy⟩:=Zv x1.code j om
   have hxz:=(hpz.code _ (Y4 Zy)).l
   exact Zq (Zk none (j:Int) 6 (Ja Zy)) (Z0 1 (Zt [] (LZ x2) (iL (Y9 [x2]) 1 6 fun v1=>ZU 0 [(40,KM [x2])] (G9 10 j r 6 (Zg (Y9 (x1.code.take j))) (Y9 [x2]) none (by rw [Tx,Wh,VQ om]) (Ay _) (FH _) (List.cons_ne_nil _ _) (by simp<;>omega) fun v2=>Z1 (az (Z0 1 (ZK j (Z1 (ZM ⟨j+1,v2,ob,rfl,rfl,rfl⟩ (wk [2,2,2,2,2,2,2,2,2,0] (fr (ZW j fl)) (e:=(rc (rc (rc (rc (rc (rc (rc (rc (rc (rr (ls:=Zg (Y9 (x1.code.take j))++Zg (Y9 [x2])) (Z5i Zy) rz)))))))))))))))))))))
  refine ax 2 (aE 18 (ZY 7 18 [0,1,2,3,5,6,8,9,10,11,12] [1,0,0,0,0] (Z8 4 (dc 4 [] [0,0,0,1] [b4,b4,b4,b3] (WP x1.params) ?_))))
  rintro _ _ ⟨v3,rfl,rfl⟩
  refine Z8 7 (dc 7 [] [0,0,1] [b4,b4,b3] (WP x1.lent) ?_)
  rintro _ _ ⟨v4,rfl,rfl⟩
  exact Yv 4 5 [13] [(55,.agg [Z3 x1.params,Z3 x1.lent,.i x1.result,.i x1.regs,.h r])] (Z8 14 (dL 14 [1] [b3] [.agg [Z3 x1.params,Z3 x1.lent,.i x1.result,.i x1.regs,.h r]] 1 5 fun v5=>Yv 3 3 [] [(56,.sl [.agg [Z3 x1.params,Z3 x1.lent,.i x1.result,.i x1.regs,.h r]] none)] (Z8 15 (HX 15 7 k [] [] v 5 (pD (Xv U) (im.procs.take k) 0) [.agg [Z3 x1.params,Z3 x1.lent,.i x1.result,.i x1.regs,.h r]] none (by rw [Ju,Wh,VQ om]) (KI rfl) rfl (List.cons_ne_nil _ _) (by simp<;>omega) fun v6=>Zs 1 2 [16] (Z8 17 (YT 17 5 [] [] b3 [Yd im.decls,.h v6] (C5 (Ma 12 r.v 6 (Zg (Y9 (x1.code.take j))) (Zg (Y9 x1.code)) (by rw [WT om])) (C5 (Zfk 0 8 8 8 8 U im.procs k x1 r Z4 om) (de (az (Z0 1 (ZK k (Z1 (ZM ⟨k+1,v6,(U2 U k r),ob,rfl,rfl,rfl⟩ (wk [4,9,9,4,0,0,0,0] (ZW k fl) (e:=(rc (rc (rc (rr (ls:=pD (Xv U) (im.procs.take k) 0++Zg [.agg [Z3 x1.params,Z3 x1.lent,.i x1.result,.i x1.regs,.h r]]) (by first|rfl|exact Zbj Z4) (rc (rc (rc (rc rz))))))))))))))))))))))))
 exact ax 0 (Zp 1 [0] (Zz 1 b2 [Yd im.decls,.h v] (ie (at_ (r3 [3,3,3,3,3] [.agg [Yd im.decls,.h v]] [0] [(b2,b2)] ⟨v,U,rfl,rfl⟩ (lr _) (eq:=(rr (ls:=pD (Xv U) (im.procs.take k) 0) (by rw [WT om]) (rr (ls:=Zg (Y9 (cL (im.procs.take k) 0))) (by rw [WT om]) (rr (ls:=Zg (Y9 (cL (im.procs.take k) 1))) (by rw [WT om]) (rr (ls:=Zg (Y9 (cL (im.procs.take k) 2))) (by rw [WT om]) (rr (ls:=Zg (Y9 (cL (im.procs.take k) 3))) (by rw [WT om]) rz)))))))))))
theorem Z5z (rd:Nat) (bs:LI) (p:Nat) (im:YG) (ZL:∀z∈bs,0<=z/\z<=255) (hp:p+11<=1000000000:=by exact ob) (hb:IB im:=by exact ob):Zo 56 [.p rd 0,V0 im] [YC rd bs p] (fun r h=>∃(y:YG) (p2:Nat),r=V0 y/\h=[YC rd bs p2]/\IB y/\p<=p2/\p2<=p+11):=by
 have hil:=hb.len
 refine ZE 52 Tryz.func56 (ar (iA (V4 im) fun b1=>iA [nl,nl] fun b2=>ie (Zp 1 [1] (ic [] (N9 im 0 (hz:=hb.z)) ?_))))
 rintro _ _ ⟨v1,U1,rfl,rfl⟩
 refine Eo 0 im.procs.length (v:=v1) (Ju (Xv U1) im.procs 0) om (fun g1 c1 he1=>?_)
 subst he1
 refine iA [nl,nl] fun b3=>Zz 0 b3 [Yd im.decls,.ms g1 0 im.procs.length c1] (ie (YO 1 (ic [8] (Je rd bs p 2 (ZL:=ob)) ?_)))
 rintro _ _ ⟨YS,rfl,rfl,Y3⟩
 refine ia ((((YS+1):Nat):Int)) ((1)+((YS:Int))) (Z1 (ab 0 (Y5 (fun fz gz m F h=>∃(mm:Nat) (X:List ZZ) (U:Nat->Hd) (pq:Nat),(mm<=2)/\(X.length=im.procs.length)/\(IB ⟨im.decls,X⟩)/\(p<=pq/\pq+5*mm<=p+11)/\F=sF [0,4,5] fz [(6,.i mm)]/\h=[YC rd bs pq,Zi gz 1,Zi gz 7,.row (.slice (some ⟨g1,0,none⟩) im.procs.length c1) 5 (pD (Xv U) X 0),rK (U 0) 6 (Zg (Y9 (cL X 0))),rK (U 1) 6 (Zg (Y9 (cL X 1))),rK (U 2) 6 (Zg (Y9 (cL X 2))),rK (U 3) 6 (Zg (Y9 (cL X 3)))]/\m=mm+1) _ _ _ ⟨(YS+1),im.procs,U1,(p+1),ob,rfl,hb,ob,rfl,rfl,rfl⟩ (wk [0,0,5,0,0,0,0,0] fl) ?_)))
 rintro m F h ⟨mm,X,U,pq,Yl,Zj,ZD,YL,rfl,rfl,rfl⟩
 refine Xa (Y0 ((mm:Int)>0) (fun Z9=>?_) (fun Z9=>?_))
 ·refine ak (aq (ab 1 (Zp 3 [1] (io (.i im.procs.length) (.i im.procs.length) (lr _) (ic [0] (Je rd bs pq im.procs.length (ZL:=ob)) ?_)))))
  rintro _ _ ⟨Xi,rfl,rfl,Yq⟩
  obtain ⟨xp,hxp⟩:=Zv X Xi om
  have hpb:=ZD.procs xp (Y4 hxp)
  have hpl:=hpb.len
  obtain ⟨uf1,huf1⟩:∃u:Hd,u=U Xi:=⟨_,rfl⟩
  refine Xl (SV 4 4 4 4 U X Xi uf1 xp.code om huf1 (C0 hxp)) (Eo 0 xp.code.length (v:=uf1) (Tx _) om (fun g2 c2 he2=>?_))
  subst he2
  refine Xl (Z00 [0,3,3,3,3,0,0,0] (h':=[.row (.slice (some ⟨g2,0,none⟩) xp.code.length c2) 6 (Zg (Y9 xp.code)),.obj rd [Uc bs,.i (pq+1:Nat)],.obj b3 [Yd im.decls,.ms g1 0 im.procs.length c1],.obj b2 [nl,nl],.row (.slice (some ⟨g1,0,none⟩) im.procs.length c1) 5 (pD (Xv U) X 0),rK (U ((Xi+1) % 4)) 6 (Zg (Y9 (cL X ((Xi+1) % 4)))),rK (U ((Xi+2) % 4)) 6 (Zg (Y9 (cL X ((Xi+2) % 4)))),rK (U ((Xi+3) % 4)) 6 (Zg (Y9 (cL X ((Xi+3) % 4))))]) (d:=[]) kr) (Z1 (Zp 4 [2] (Zq (Wa g1 im.procs.length c1 Xi 5 (Xi:Int)) (Z0 1 (U7 (Vi 4 g1 im.procs.length c1 5 (Xi*5+4) (pD (Xv U) X 0) [.ms g2 0 xp.code.length c2] 41 (.ms g2 0 xp.code.length c2) (by have h:=GG (D:=Xv U) hxp rfl;rw [<-huf1] at h;exact h)) (io (.i xp.code.length) (.i xp.code.length) (lr _) (ic [1] (Je rd bs (pq+1) xp.code.length (ZL:=ob)) ?_)))))))
  rintro _ _ ⟨QL,rfl,rfl,YR⟩
  obtain ⟨xi,hxi⟩:=Zv xp.code QL om
  have hxb:=hpb.code xi (Y4 hxi)
  refine Z1 (aE 20 (ZY 17 20 [0,1,2] [2] (dx 3 (Wa g1 im.procs.length c1 Xi 5 (Xi:Int)) (Zs 15 16 [4] (Ur 5 (Vi 4 g1 im.procs.length c1 5 (Xi*5+4) (pD (Xv U) X 0) [.ms g2 0 xp.code.length c2] 41 (.ms g2 0 xp.code.length c2) (by have h:=GG (D:=Xv U) hxp rfl;rw [<-huf1] at h;exact h)) (ZY 9 14 [6,7,8,9,10] [2] (dx 11 (Wa g1 im.procs.length c1 Xi 5 (Xi:Int)) (Zs 7 8 [12] (Ur 13 (Vi 4 g1 im.procs.length c1 5 (Xi*5+4) (pD (Xv U) X 0) [.ms g2 0 xp.code.length c2] 41 (.ms g2 0 xp.code.length c2) (by have h:=GG (D:=Xv U) hxp rfl;rw [<-huf1] at h;exact h)) (Zs 5 6 [14] (dx 15 (Wa g2 xp.code.length c2 QL 6 (QL:Int)) (Ur 16 (Vi 1 g2 xp.code.length c2 6 (QL*6) (Zg (Y9 xp.code)) (VF xi) 45 (TE xi) (Iu hxi)) (Z8 17 (dc 17 [0] [3,1] [g1,b3] (Z5y rd bs ((pq+1)+1) xi (ZL:=ob) (hx:=hxb)) ?_))))))))))))))
  rintro _ _ ⟨y1,p21,rfl,rfl,X1⟩
  have hby:=X1
  exact dx 18 (Wa g2 xp.code.length c2 QL 6 (QL:Int)) (Z8 19 (JV 19 1 [] [] g2 xp.code.length c2 6 (QL*6) (VF y1) (Zg (Y9 xp.code)) (Zg (Y9 (xp.code.set QL y1))) (by rw [Tx];simp only [Yx,X7];omega) (FW (t:=y1) hxi) (C5 (DN 0 4 4 4 U X (X.set Xi (ZZ.mk xp.params xp.lent xp.result xp.regs (xp.code.set QL y1))) Xi (⟨some ⟨g2,0,none⟩,xp.code.length,c2⟩:Hd) (xp.code.set QL y1) om huf1 (E4 hxp) (fun i hi=>E3 hi)) (de (az (Z0 1 (ia ((((mm-1):Nat):Int)) (((mm:Int))-(1)) (Z1 (ZM ⟨(mm-1),(X.set Xi (ZZ.mk xp.params xp.lent xp.result xp.regs (xp.code.set QL y1))),U,p21,ob,(by rw [VJ];exact Zj),(ZD.len_put hxp hby.1),ob,rfl,rfl,rfl⟩ (wk [4,4,4,4,0,0,0,0] fl (e:=(rc (rc (rc (rr (ls:=pD (Xv U) X 0) (by first|rfl|exact (PP hxp).symm) (rc (rc (rc (rc rz)))))))))))))))))))
 exact ax 0 (ar (Xl (CF 3 3 3 3 3 U X (.slice (some ⟨g1,0,none⟩) im.procs.length c1) om) (Xl (Uo 0 1 1 (.slice (some ⟨g1,0,none⟩) im.procs.length c1) 5 b3 (Wp X) [Yd im.decls,.ms g1 0 im.procs.length c1] (Jd _) rfl) (Zu 1 [0] (Zz 3 b2 [Yd im.decls,Ud X (.slice (some ⟨g1,0,none⟩) im.procs.length c1)] (ie (at_ (r3 [3] [.agg [Yd im.decls,Ud X (.slice (some ⟨g1,0,none⟩) im.procs.length c1)]] [0] [(b2,b2)] ⟨(YG.mk im.decls X),pq,rfl,rfl,⟨ZD,by omega,by omega⟩⟩ (Zc.agg (.cons (lr _) (.cons (Zc.forget _ _) .nil)))))))))))
theorem Oq (rd:Nat) (bs:LI) (p:Nat) (im:YG) (often:Nat) (lz:Nat) (ZL:∀z∈bs,0<=z/\z<=255) (hp:p+8<=1000000000:=by exact ob) (hz:IZ im lz:=by exact ob) (hlz:lz<=50:=by exact ob):Zo 57 [.p rd 0,V0 im,.i often] [YC rd bs p] (fun r h=>∃(y:YG) (p2:Nat),r=V0 y/\h=[YC rd bs p2]/\IZ y (lz+1)/\p<=p2/\p2<=p+8):=by
 have hil:=hz.len
 refine ZE 126 Tryz.func57 (ar (iA (V4 im) fun b1=>iA [nl,nl] fun b2=>ie (YO 2 (ic [2] (XU rd bs p (often:Int) (ZL:=ob)) ?_))))
 rintro _ _ ⟨k1,rfl,rfl,Y3⟩
 refine Y0 (k1>0) (fun Z9=>?_) (fun Z9=>?_)
 ·exact Zp 1 [2] (Zz 1 b2 (V4 im) (ie (at_ (r3 [1] [V0 im] [0] [(b2,b2)] ⟨im,p+1,rfl,rfl,(by first|exact ⟨hz.le (Nat.le_succ lz),by omega,by omega⟩|exact ⟨hz.ds had.1,by omega,by omega⟩|exact ⟨hz.put (Nat.le_succ lz) hz.decls (hpz.nl om),by omega,by omega⟩|exact ⟨hz.put (Nat.le_succ lz) hz.decls (hpz.nr (by rcases hon with e|e|e|e|e<;>omega)),by omega,by omega⟩|exact ⟨hz.put (Nat.le_succ lz) hz.decls (hpz.cut _ _),by omega,by omega⟩|exact ⟨hz.put (Nat.le_succ lz) hz.decls (hpz.set (Nat.le_succ lz) hsi.1),by omega,by omega⟩)⟩ (lr _)))))
 refine ak (Zp 1 [2] (ic [] (N9 im lz (hz:=hz)) ?_))
 rintro _ _ ⟨v1,U1,rfl,rfl⟩
 refine Eo 0 im.procs.length (v:=v1) (Ju (Xv U1) im.procs 0) om (fun g1 c1 he1=>?_)
 subst he1
 refine iA [nl,nl] fun b3=>Zz 0 b3 [Yd im.decls,.ms g1 0 im.procs.length c1] (ie (Zp 3 [0] (io (.i im.procs.length) (.i im.procs.length) (lr _) (ic [6] (Je rd bs (p+1) im.procs.length (ZL:=ob)) ?_))))
 rintro _ _ ⟨YS,rfl,rfl,Yq⟩
 obtain ⟨xp,hxp⟩:=Zv im.procs YS om
 have hpz:=hz.procs xp (Y4 hxp)
 have hpl:=hpz.len
 have Y3:=hpz.lent
 have Yq:=hpz.regs
 obtain ⟨uf1,huf1⟩:∃u:Hd,u=U1 YS:=⟨_,rfl⟩
 refine Xl (SV 3 3 3 3 U1 im.procs YS uf1 xp.code om huf1 (C0 hxp)) (Xl (Z00 [4,4,4,4,4,0,0,0,0] (h':=[.obj rd [Uc bs,.i (((p+1)+1:Nat):Int)],.obj b3 [Yd im.decls,.ms g1 0 im.procs.length c1],.row (.slice (some ⟨g1,0,none⟩) im.procs.length c1) 5 (pD (Xv U1) im.procs 0),.obj b2 [nl,nl],.obj b1 (V4 im),rK uf1 6 (Zg (Y9 xp.code)),rK (U1 ((YS+1) % 4)) 6 (Zg (Y9 (cL im.procs ((YS+1) % 4)))),rK (U1 ((YS+2) % 4)) 6 (Zg (Y9 (cL im.procs ((YS+2) % 4)))),rK (U1 ((YS+3) % 4)) 6 (Zg (Y9 (cL im.procs ((YS+3) % 4))))]) (d:=[]) kr) (Z1 (Zp 3 [1] (Zq (Wa g1 im.procs.length c1 YS 5 (YS:Int)) (U7 (Vi 2 g1 im.procs.length c1 5 (YS*5) (pD (Xv U1) im.procs 0) [Z3 xp.params,Z3 xp.lent,.i xp.result,.i xp.regs,.h uf1] 43 (.agg [Z3 xp.params,Z3 xp.lent,.i xp.result,.i xp.regs,.h uf1]) (by have h:=PQ (D:=Xv U1) hxp;rw [show AP (Xv U1 YS) xp=Cr xp (U1 YS).v from rfl,<-huf1] at h;exact h)) (iA [nl,nl,.i 0,.i 0,nl] fun b4=>Zz 0 b4 [Z3 xp.params,Z3 xp.lent,.i xp.result,.i xp.regs,.h uf1] (ie (Yr 2 [0] (Zq (L6 6 xp.code.length uf1 6 (Zg (Y9 xp.code)) (Tx xp.code)) (Yz ((xp.code.length:Int)==0) Zb (fun Zh=>?_) (fun Zh=>?_)))))))))))
 ·exact ar (Xl (DN 6 6 6 6 U1 im.procs im.procs YS uf1 xp.code om huf1 (C0 hxp) (fun i hi=>rfl)) (Xl (CF 7 0 0 0 0 U1 im.procs (.slice (some ⟨g1,0,none⟩) im.procs.length c1) om) (Xl (Uo 0 2 1 (.slice (some ⟨g1,0,none⟩) im.procs.length c1) 5 b3 (Wp im.procs) [Yd im.decls,.ms g1 0 im.procs.length c1] (Jd _) rfl) (Zu 1 [0] (Zz 4 b2 [Yd im.decls,Ud im.procs (.slice (some ⟨g1,0,none⟩) im.procs.length c1)] (ie (at_ (r3 [4] [.agg [Yd im.decls,Ud im.procs (.slice (some ⟨g1,0,none⟩) im.procs.length c1)]] [0] [(b2,b2)] ⟨im,(p+1)+1,rfl,rfl,(by first|exact ⟨hz.le (Nat.le_succ lz),by omega,by omega⟩|exact ⟨hz.ds had.1,by omega,by omega⟩|exact ⟨hz.put (Nat.le_succ lz) hz.decls (hpz.nl om),by omega,by omega⟩|exact ⟨hz.put (Nat.le_succ lz) hz.decls (hpz.nr (by rcases hon with e|e|e|e|e<;>omega)),by omega,by omega⟩|exact ⟨hz.put (Nat.le_succ lz) hz.decls (hpz.cut _ _),by omega,by omega⟩|exact ⟨hz.put (Nat.le_succ lz) hz.decls (hpz.set (Nat.le_succ lz) hsi.1),by omega,by omega⟩)⟩ (Zc.agg (.cons (lr _) (.cons (Zc.forget _ _) .nil)))))))))))
 refine L5 6 xp.code.length (v:=uf1) (Tx _) om (fun g2 c2 he2=>?_)
 subst he2
 refine ak (YO 1 (ic [1] (XU rd bs ((p+1)+1) 8 (ZL:=ob)) ?_))
 rintro _ _ ⟨k2,rfl,rfl,YR⟩
 refine ie (ab 0 (ar (Yz (k2==0) Zb (fun ZC=>?_) (fun ZC=>?_))))
 ·refine aE 18 (ZY 4 18 [0,1,2,3,4,5,6,7,9,10,11,12,13,14] [2,1,1,1,1,1] (Z8 8 (dc 8 [0] [0,0,0,0,1] [b4,b4,b4,b4,b3] (IE rd bs (((p+1)+1)+1) xp.lent (ZL:=ob)) ?_)))
  rintro _ _ ⟨zs1,p21,rfl,rfl,X1⟩
  have hsn:=X1
  exact Zs 2 3 [15] (dx 16 (Wa g1 im.procs.length c1 YS 5 (YS:Int)) (Z8 17 (JV 17 3 [] [] g1 im.procs.length c1 5 (YS*5) [Z3 xp.params,Z3 zs1,.i xp.result,.i xp.regs,.ms g2 0 xp.code.length c2] (pD (Xv U1) im.procs 0) (pD (Xv U1) (im.procs.set YS (ZZ.mk xp.params zs1 xp.result xp.regs xp.code)) 0) (by rw [Ju];simp only [Yx,X7];omega) (by have h:=Lu (U:=U1) (q:=(ZZ.mk xp.params zs1 xp.result xp.regs xp.code)) (u:=(⟨some ⟨g2,0,none⟩,xp.code.length,c2⟩:Hd)) hxp;rw [Mg huf1] at h;exact h) (de (ar (Xl (DN 6 6 6 6 U1 im.procs (im.procs.set YS (ZZ.mk xp.params zs1 xp.result xp.regs xp.code)) YS (⟨some ⟨g2,0,none⟩,xp.code.length,c2⟩:Hd) xp.code om huf1 (E4 hxp) (fun i hi=>E3 hi)) (Xl (CF 4 0 0 0 0 U1 (im.procs.set YS (ZZ.mk xp.params zs1 xp.result xp.regs xp.code)) (.slice (some ⟨g1,0,none⟩) im.procs.length c1) (by rw [VJ];omega)) (Xl (Uo 0 2 1 (.slice (some ⟨g1,0,none⟩) im.procs.length c1) 5 b3 (Wp (im.procs.set YS (ZZ.mk xp.params zs1 xp.result xp.regs xp.code))) [Yd im.decls,.ms g1 0 im.procs.length c1] (Jd _) rfl) (Zu 1 [0] (Zz 4 b2 [Yd im.decls,Ud (im.procs.set YS (ZZ.mk xp.params zs1 xp.result xp.regs xp.code)) (.slice (some ⟨g1,0,none⟩) im.procs.length c1)] (ie (at_ (r3 [3] [.agg [Yd im.decls,Ud (im.procs.set YS (ZZ.mk xp.params zs1 xp.result xp.regs xp.code)) (.slice (some ⟨g1,0,none⟩) im.procs.length c1)]] [0] [(b2,b2)] ⟨(YG.mk im.decls (im.procs.set YS (ZZ.mk xp.params zs1 xp.result xp.regs xp.code))),p21,rfl,rfl,(by first|exact ⟨hz.le (Nat.le_succ lz),by omega,by omega⟩|exact ⟨hz.ds had.1,by omega,by omega⟩|exact ⟨hz.put (Nat.le_succ lz) hz.decls (hpz.nl om),by omega,by omega⟩|exact ⟨hz.put (Nat.le_succ lz) hz.decls (hpz.nr (by rcases hon with e|e|e|e|e<;>omega)),by omega,by omega⟩|exact ⟨hz.put (Nat.le_succ lz) hz.decls (hpz.cut _ _),by omega,by omega⟩|exact ⟨hz.put (Nat.le_succ lz) hz.decls (hpz.set (Nat.le_succ lz) hsi.1),by omega,by omega⟩)⟩ (Zc.agg (.cons (lr _) (.cons (Zc.forget _ _) .nil))))))))))))))))
 refine ar (Yz (k2==1) Zb (fun Yh=>?_) (fun Yh=>?_))
 ·refine aE 20 (ZY 8 20 [0,1,2,3,4,5,6,7,8,9,10,11] [2,1,1,1,1] (da 12 ((xp.regs+1)) ((xp.regs)+(1)) (ZY 5 7 [15,16] [1] (Z8 13 (dL 13 [1,1,1,1,2] [b4,b4,b4,b4,b3] (Z6 [0,1,xp.regs+1,2001,-1]) 5 1 fun v2=>Yv 4 4 [] [(89,Z3 [0,1,xp.regs+1,2001,-1])] (Z8 14 (dc 14 [1] [0,0,0,0,1] [b4,b4,b4,b4,b3] (Uw rd bs (((p+1)+1)+1) [0,1,xp.regs+1,2001,-1] (ZL:=ob)) ?_)))))))
  rintro _ _ ⟨z1,rfl,rfl,Xe⟩
  have hon:=Xe
  simp only [YM,List.not_mem_nil,or_false] at hon
  exact Zs 2 3 [17] (dx 18 (Wa g1 im.procs.length c1 YS 5 (YS:Int)) (Z8 19 (JV 19 4 [] [] g1 im.procs.length c1 5 (YS*5) [Z3 xp.params,Z3 xp.lent,.i xp.result,.i z1,.ms g2 0 xp.code.length c2] (pD (Xv U1) im.procs 0) (pD (Xv U1) (im.procs.set YS (ZZ.mk xp.params xp.lent xp.result z1 xp.code)) 0) (by rw [Ju];simp only [Yx,X7];omega) (by have h:=Lu (U:=U1) (q:=(ZZ.mk xp.params xp.lent xp.result z1 xp.code)) (u:=(⟨some ⟨g2,0,none⟩,xp.code.length,c2⟩:Hd)) hxp;rw [Mg huf1] at h;exact h) (de (ar (Xl (DN 7 7 7 7 U1 im.procs (im.procs.set YS (ZZ.mk xp.params xp.lent xp.result z1 xp.code)) YS (⟨some ⟨g2,0,none⟩,xp.code.length,c2⟩:Hd) xp.code om huf1 (E4 hxp) (fun i hi=>E3 hi)) (Xl (CF 4 0 0 0 0 U1 (im.procs.set YS (ZZ.mk xp.params xp.lent xp.result z1 xp.code)) (.slice (some ⟨g1,0,none⟩) im.procs.length c1) (by rw [VJ];omega)) (Xl (Uo 0 3 1 (.slice (some ⟨g1,0,none⟩) im.procs.length c1) 5 b3 (Wp (im.procs.set YS (ZZ.mk xp.params xp.lent xp.result z1 xp.code))) [Yd im.decls,.ms g1 0 im.procs.length c1] (Jd _) rfl) (Zu 1 [0] (Zz 5 b2 [Yd im.decls,Ud (im.procs.set YS (ZZ.mk xp.params xp.lent xp.result z1 xp.code)) (.slice (some ⟨g1,0,none⟩) im.procs.length c1)] (ie (at_ (r3 [3] [.agg [Yd im.decls,Ud (im.procs.set YS (ZZ.mk xp.params xp.lent xp.result z1 xp.code)) (.slice (some ⟨g1,0,none⟩) im.procs.length c1)]] [0] [(b2,b2)] ⟨(YG.mk im.decls (im.procs.set YS (ZZ.mk xp.params xp.lent xp.result z1 xp.code))),(((p+1)+1)+1)+1,rfl,rfl,(by first|exact ⟨hz.le (Nat.le_succ lz),by omega,by omega⟩|exact ⟨hz.ds had.1,by omega,by omega⟩|exact ⟨hz.put (Nat.le_succ lz) hz.decls (hpz.nl om),by omega,by omega⟩|exact ⟨hz.put (Nat.le_succ lz) hz.decls (hpz.nr (by rcases hon with e|e|e|e|e<;>omega)),by omega,by omega⟩|exact ⟨hz.put (Nat.le_succ lz) hz.decls (hpz.cut _ _),by omega,by omega⟩|exact ⟨hz.put (Nat.le_succ lz) hz.decls (hpz.set (Nat.le_succ lz) hsi.1),by omega,by omega⟩)⟩ (Zc.agg (.cons (lr _) (.cons (Zc.forget _ _) .nil))))))))))))))))
 refine ar (Yz (k2==2) Zb (fun YJ=>?_) (fun YJ=>?_))
 ·refine aE 22 (ZY 8 22 [0,1,2,3,4,5,6,7,10,11,12,13,14,15] [2,1,1,1,1,1] (dn 16 (.i xp.code.length) (.i xp.code.length) (lr _) (da 17 ((((xp.code.length-1):Nat):Int)) (((xp.code.length:Int))-(1)) (dx 18 (OZ 6 g2 xp.code.length c2 (xp.code.length-1) 6 (Zg (Y9 xp.code))) (Z8 8 (dL 8 [1,1,1,1,1,2] [b4,b4,b4,b4,b4,b3] (Z6 [0,1,9]) 3 1 fun v3=>Yv 4 4 [] [(105,Z3 [0,1,9])] (Z8 9 (dc 9 [1] [0,0,0,0,0,1] [b4,b4,b4,b4,b4,b3] (Uw rd bs (((p+1)+1)+1) [0,1,9] (ZL:=ob)) ?_))))))))
  rintro _ _ ⟨z2,rfl,rfl,XO⟩
  have hon:=XO
  simp only [YM,List.not_mem_nil,or_false] at hon
  exact Zs 2 3 [19] (dx 20 (Wa g1 im.procs.length c1 YS 5 (YS:Int)) (Z8 21 (JV 21 4 [] [] g1 im.procs.length c1 5 (YS*5) [Z3 xp.params,Z3 xp.lent,.i z2,.i xp.regs,.ms g2 0 (xp.code.length-1) c2] (pD (Xv U1) im.procs 0) (pD (Xv (U2 U1 YS (⟨some ⟨g2,0,none⟩,(xp.code.length-1),c2⟩:Hd))) (im.procs.set YS (ZZ.mk xp.params xp.lent z2 xp.regs (xp.code.take (xp.code.length-1)))) 0) (by rw [Ju];simp only [Yx,X7];omega) (by have h:=Lu (U:=U1) (q:=(ZZ.mk xp.params xp.lent z2 xp.regs (xp.code.take (xp.code.length-1)))) (u:=(⟨some ⟨g2,0,none⟩,(xp.code.length-1),c2⟩:Hd)) hxp;exact h) (C5 (Zfl 7 g2 xp.code.length c2 (xp.code.length-1) 6 (Zg (Y9 xp.code)) (Zg (Y9 (xp.code.take (xp.code.length-1)))) om (Z5k _ _)) (de (ar (Xl (SU 0 7 7 7 U1 im.procs (im.procs.set YS (ZZ.mk xp.params xp.lent z2 xp.regs (xp.code.take (xp.code.length-1)))) YS (⟨some ⟨g2,0,none⟩,(xp.code.length-1),c2⟩:Hd) (xp.code.take (xp.code.length-1)) om (E4 hxp) (fun i hi=>E3 hi)) (Xl (CF 4 0 0 0 0 (U2 U1 YS (⟨some ⟨g2,0,none⟩,(xp.code.length-1),c2⟩:Hd)) (im.procs.set YS (ZZ.mk xp.params xp.lent z2 xp.regs (xp.code.take (xp.code.length-1)))) (.slice (some ⟨g1,0,none⟩) im.procs.length c1) (by rw [VJ];omega)) (Xl (Uo 0 3 1 (.slice (some ⟨g1,0,none⟩) im.procs.length c1) 5 b3 (Wp (im.procs.set YS (ZZ.mk xp.params xp.lent z2 xp.regs (xp.code.take (xp.code.length-1))))) [Yd im.decls,.ms g1 0 im.procs.length c1] (Jd _) rfl) (Zu 1 [0] (Zz 5 b2 [Yd im.decls,Ud (im.procs.set YS (ZZ.mk xp.params xp.lent z2 xp.regs (xp.code.take (xp.code.length-1)))) (.slice (some ⟨g1,0,none⟩) im.procs.length c1)] (ie (at_ (r3 [3] [.agg [Yd im.decls,Ud (im.procs.set YS (ZZ.mk xp.params xp.lent z2 xp.regs (xp.code.take (xp.code.length-1)))) (.slice (some ⟨g1,0,none⟩) im.procs.length c1)]] [0] [(b2,b2)] ⟨(YG.mk im.decls (im.procs.set YS (ZZ.mk xp.params xp.lent z2 xp.regs (xp.code.take (xp.code.length-1))))),(((p+1)+1)+1)+1,rfl,rfl,(by first|exact ⟨hz.le (Nat.le_succ lz),by omega,by omega⟩|exact ⟨hz.ds had.1,by omega,by omega⟩|exact ⟨hz.put (Nat.le_succ lz) hz.decls (hpz.nl om),by omega,by omega⟩|exact ⟨hz.put (Nat.le_succ lz) hz.decls (hpz.nr (by rcases hon with e|e|e|e|e<;>omega)),by omega,by omega⟩|exact ⟨hz.put (Nat.le_succ lz) hz.decls (hpz.cut _ _),by omega,by omega⟩|exact ⟨hz.put (Nat.le_succ lz) hz.decls (hpz.set (Nat.le_succ lz) hsi.1),by omega,by omega⟩)⟩ (Zc.agg (.cons (lr _) (.cons (Zc.forget _ _) .nil)))))))))))))))))
 refine ar (Yz (k2==3) Zb (fun X2=>?_) (fun X2=>?_))
 ·refine aD 6 (Zs 4 6 [0,2] (C5 (DN 6 6 6 6 U1 im.procs im.procs YS (⟨some ⟨g2,0,none⟩,xp.code.length,c2⟩:Hd) xp.code om huf1 (C0 hxp) (fun i hi=>rfl)) (C5 (CF 7 0 0 0 0 U1 im.procs (.slice (some ⟨g1,0,none⟩) im.procs.length c1) om) (C5 (Uo 0 2 1 (.slice (some ⟨g1,0,none⟩) im.procs.length c1) 5 b3 (Wp im.procs) [Yd im.decls,.ms g1 0 im.procs.length c1] (Jd _) rfl) (ZY 3 4 [3] [0] (Z8 1 (dc 1 [2] [0] [b3] (Z5u rd bs (((p+1)+1)+1) (ZL:=ob)) ?_)))))))
  rintro _ _ ⟨dz1,p22,rfl,rfl,W9⟩
  have had:=W9
  exact Zs 1 2 [4] (Z8 5 (YT 5 4 [] [] b2 [Yd dz1,Ud im.procs (.slice (some ⟨g1,0,none⟩) im.procs.length c1)] (de (at_ (r3 [1] [.agg [Yd dz1,Ud im.procs (.slice (some ⟨g1,0,none⟩) im.procs.length c1)]] [0] [(b2,b2)] ⟨(YG.mk dz1 im.procs),p22,rfl,rfl,(by first|exact ⟨hz.le (Nat.le_succ lz),by omega,by omega⟩|exact ⟨hz.ds had.1,by omega,by omega⟩|exact ⟨hz.put (Nat.le_succ lz) hz.decls (hpz.nl om),by omega,by omega⟩|exact ⟨hz.put (Nat.le_succ lz) hz.decls (hpz.nr (by rcases hon with e|e|e|e|e<;>omega)),by omega,by omega⟩|exact ⟨hz.put (Nat.le_succ lz) hz.decls (hpz.cut _ _),by omega,by omega⟩|exact ⟨hz.put (Nat.le_succ lz) hz.decls (hpz.set (Nat.le_succ lz) hsi.1),by omega,by omega⟩)⟩ (Zc.agg (.cons (lr _) (.cons (Zc.forget _ _) .nil))))))))
 refine Zp 3 [1] (io (.i xp.code.length) (.i xp.code.length) (lr _) (ic [0] (Je rd bs (((p+1)+1)+1) xp.code.length (ZL:=ob)) ?_))
 rintro _ _ ⟨Xi,rfl,rfl,WB⟩
 obtain ⟨xi,hxi⟩:=Zv xp.code Xi om
 have hxz:=hpz.code xi (Y4 hxi)
 refine Z1 (aE 16 (ZY 13 16 [0,1,2] [2] (dx 3 (Wa g1 im.procs.length c1 YS 5 (YS:Int)) (Zs 11 12 [4] (Ur 5 (Vi 3 g1 im.procs.length c1 5 (YS*5+4) (pD (Xv U1) im.procs 0) [.ms g2 0 xp.code.length c2] 41 (.ms g2 0 xp.code.length c2) (by have h:=GG (D:=Xv U1) hxp rfl;rw [<-huf1] at h;exact h)) (ZY 5 10 [6,7,8,9,10] [1] (dx 11 (Wa g2 xp.code.length c2 Xi 6 (Xi:Int)) (Ur 12 (Vi 6 g2 xp.code.length c2 6 (Xi*6) (Zg (Y9 xp.code)) (VF xi) 45 (TE xi) (Iu hxi)) (Z8 13 (dc 13 [0] [2,1] [g1,b3] (Z7m rd bs ((((p+1)+1)+1)+1) xi lz (ZL:=ob) (hx:=hxz)) ?_))))))))))
 rintro _ _ ⟨y1,p23,rfl,rfl,WY⟩
 have hsi:=WY
 exact dx 14 (Wa g2 xp.code.length c2 Xi 6 (Xi:Int)) (Z8 15 (JV 15 6 [] [] g2 xp.code.length c2 6 (Xi*6) (VF y1) (Zg (Y9 xp.code)) (Zg (Y9 (xp.code.set Xi y1))) (by rw [Tx];simp only [Yx,X7];omega) (FW (t:=y1) hxi) (de (ar (Xl (Ma 4 (.slice (some ⟨g1,0,none⟩) im.procs.length c1) 5 (pD (Xv U1) im.procs 0) (pD (Xv U1) (im.procs.set YS (ZZ.mk xp.params xp.lent xp.result xp.regs (xp.code.set Xi y1))) 0) (PP hxp).symm) (Xl (DN 1 6 6 6 U1 im.procs (im.procs.set YS (ZZ.mk xp.params xp.lent xp.result xp.regs (xp.code.set Xi y1))) YS (⟨some ⟨g2,0,none⟩,xp.code.length,c2⟩:Hd) (xp.code.set Xi y1) om huf1 (E4 hxp) (fun i hi=>E3 hi)) (Xl (CF 4 0 0 0 0 U1 (im.procs.set YS (ZZ.mk xp.params xp.lent xp.result xp.regs (xp.code.set Xi y1))) (.slice (some ⟨g1,0,none⟩) im.procs.length c1) (by rw [VJ];omega)) (Xl (Uo 0 2 1 (.slice (some ⟨g1,0,none⟩) im.procs.length c1) 5 b3 (Wp (im.procs.set YS (ZZ.mk xp.params xp.lent xp.result xp.regs (xp.code.set Xi y1)))) [Yd im.decls,.ms g1 0 im.procs.length c1] (Jd _) rfl) (Zu 1 [0] (Zz 4 b2 [Yd im.decls,Ud (im.procs.set YS (ZZ.mk xp.params xp.lent xp.result xp.regs (xp.code.set Xi y1))) (.slice (some ⟨g1,0,none⟩) im.procs.length c1)] (ie (at_ (r3 [3] [.agg [Yd im.decls,Ud (im.procs.set YS (ZZ.mk xp.params xp.lent xp.result xp.regs (xp.code.set Xi y1))) (.slice (some ⟨g1,0,none⟩) im.procs.length c1)]] [0] [(b2,b2)] ⟨(YG.mk im.decls (im.procs.set YS (ZZ.mk xp.params xp.lent xp.result xp.regs (xp.code.set Xi y1)))),p23,rfl,rfl,(by first|exact ⟨hz.le (Nat.le_succ lz),by omega,by omega⟩|exact ⟨hz.ds had.1,by omega,by omega⟩|exact ⟨hz.put (Nat.le_succ lz) hz.decls (hpz.nl om),by omega,by omega⟩|exact ⟨hz.put (Nat.le_succ lz) hz.decls (hpz.nr (by rcases hon with e|e|e|e|e<;>omega)),by omega,by omega⟩|exact ⟨hz.put (Nat.le_succ lz) hz.decls (hpz.cut _ _),by omega,by omega⟩|exact ⟨hz.put (Nat.le_succ lz) hz.decls (hpz.set (Nat.le_succ lz) hsi.1),by omega,by omega⟩)⟩ (Zc.agg (.cons (lr _) (.cons (Zc.forget _ _) .nil))))))))))))))))
theorem Z5v (rd:Nat) (bs:LI) (p:Nat) (ZL:∀z∈bs,0<=z/\z<=255) (hp:p+400060<=1000000000:=by exact ob):Zo 30 [.p rd 0] [YC rd bs p] (fun r h=>∃(y:YG) (p2:Nat),r=V0 y/\h=[YC rd bs p2]/\IZ y 1/\p<=p2/\p2<=p+400060):=by
 refine ZE 15 Tryz.func30 (ar (iA [nl,nl] fun b1=>ie (Ya 1 (ic [1] (Z6o rd bs p (ZL:=ob)) ?_))))
 rintro _ _ ⟨im1,p21,rfl,rfl,Y3⟩
 have hgi:=Y3.1
 refine iA [nl,nl] fun b2=>Zz 0 b2 (V4 im1) (ie (YO 1 (ic [1] (XU rd bs p21 4 (ZL:=ob)) ?_)))
 rintro _ _ ⟨k1,rfl,rfl,Yq⟩
 refine Yz (k1==0) Zb (fun Z9=>?_) (fun Z9=>?_)
 ·refine az (Zu 2 [1] (ic [0] (Z5z rd bs (p21+1) im1 (ZL:=ob) (hb:=hgi.ib)) ?_))
  rintro _ _ ⟨y1,p22,rfl,rfl,YR⟩
  have hbi:=YR.1
  refine Zz 1 b2 (V4 y1) (ie (Zp 2 [0] (ic [1] (Oq rd bs p22 y1 14 0 (ZL:=ob) (hz:=(by first|exact hbi.z|exact hgi.ib.z))) ?_)))
  rintro _ _ ⟨y2,p23,rfl,rfl,X1⟩
  have hsi:=X1.1
  exact Zz 2 b1 (V4 y2) (ie (at_ (r3 [1] [V0 y2] [0] [(b1,b1)] ⟨y2,p23,rfl,rfl,⟨hsi,by omega,by omega⟩⟩ (lr _))))
 refine ak (Zp 2 [1] (ic [0] (Oq rd bs (p21+1) im1 14 0 (ZL:=ob) (hz:=(by first|exact hbi.z|exact hgi.ib.z))) ?_))
 rintro _ _ ⟨y3,p24,rfl,rfl,Xe⟩
 have hsi:=Xe.1
 exact Zz 2 b1 (V4 y3) (ie (at_ (r3 [1] [V0 y3] [0] [(b1,b1)] ⟨y3,p24,rfl,rfl,⟨hsi,by omega,by omega⟩⟩ (lr _))))
theorem Ss (im:YG) (num:Int) (na:Nat) (more:Nat) (hd:Xy im.decls:=by exact ob) (hpl:im.procs.length<=4:=by exact ob) (hps:∀p∈im.procs,p.params.length<=3) (hna:na<=1000000000:=by exact ob) (hmo:more<=10:=by exact ob):Zo 141 [V0 im,.i num,.i na,.i more] [] (Ym (.b (Tp im num na more))):=by
 refine ZE 28 Tryz.func141 (ar (iA (V4 im) fun b1=>Z1 (Zp 3 [0] (iw (JY im.procs) (ia (((im.procs.length:Int)-1)) (((im.procs.length:Int))-(1)) (Zt [] (V5 num 0 ((im.procs.length:Int)-1)) (Z0 1 (ib (b:=(decide (0<=num/\num<=((im.procs.length:Int)-1)))) 15 (fun Za=>?_) (fun Za=>?_)))))))))
 ·have Y3:0<=num/\num<=((im.procs.length:Int)-1):=(dq).1 Za
  refine Zu 3 [0] ?_
  obtain ⟨x1,Z4⟩:=Zv im.procs num.toNat om
  have hpx:=hps _ (Y4 Z4)
  exact Zq (Zk none num 5 (Ky Z4)) (Z0 2 (iw (Yc x1.params) (Z0 2 (ia (((na+more:Nat):Int)) (((na:Int))+((more:Int))) (Zm (ZP (.b ((x1.params.length:Int)==((na+more:Nat):Int))) (lb (by first|(rw [(GH Z4 om).1,Yb];simp;omega)|(rw [(Ly om).1])))))))))
 have Yq:¬(0<=num/\num<=((im.procs.length:Int)-1)):=ZV dq Za
 exact Zm (ZP (.b false) (lb (by first|(rw [(GH Z4 om).1,Yb];simp;omega)|(rw [(Ly om).1]))))
theorem Zev (ls:LI) (many:Nat) (k:Nat) (len:Nat) (hl:ls.length<=1000000000:=by exact ob) (hm:many<=1000000000:=by exact ob) (hk:k<=1000000000:=by exact ob) (hn:len<=1000000000:=by exact ob):Zo 143 [Z3 ls,.i many,.i k,.i len] [] (Ym (.b (decide (ls.length=many)&&Wd k len ls))):=by
 refine ZE 29 Tryz.func143 (Y1 (YO 1 (iw (Yc ls) (Yz ((ls.length:Int) != (many:Int)) Yi (fun Z9=>?_) (fun Z9=>?_)))))
 ·exact ar (Zm (ZP (.b false) (lb (by rw [decide_eq_false om];rfl))))
 refine ak (Y6 (ab 0 (Y5 (fun fz gz m F h=>∃(j:Nat),(j<=many)/\(Wd k len (ls.drop j)=Wd k len ls)/\F=sF [0,1,2,3] fz [(9,.i j)]/\h=gz/\m=many-j) _ _ _ ⟨0,ob,rfl,rfl,rfl,rfl⟩ (wk [] (Ye fl)) ?_)))
 rintro m F h ⟨j,Yl,Zj,rfl,rfl,rfl⟩
 refine Xa (Y0 ((j:Int)<(many:Int)) (fun Zh=>?_) (fun Zh=>?_))
 ·refine ak (aq (ab 1 (Ya 2 ?_)))
  obtain ⟨x1,Z4⟩:=Zv ls j om
  refine Zq (Zk none (j:Int) 1 (Y7 Z4)) (Z0 2 (ZK k (Z0 1 (ia (((len:Int)-1)) (((len:Int))-(1)) (Zt [] (V5 x1 ((k+1:Nat):Int) ((len:Int)-1)) (Yz (!(decide (((k+1:Nat):Int)<=x1/\x1<=((len:Int)-1)))) (p:=¬(((k+1:Nat):Int)<=x1/\x1<=((len:Int)-1))) (Yg dq) (fun ZC=>?_) (fun ZC=>?_)))))))
  ·exact ar (Zm (ZP (.b false) (lb (by rw [<-Lc Z4 om Zj];simp))))
  exact ak (az (Z0 1 (ZK j (Z1 (ZM ⟨j+1,ob,(P7 Z4 om Zj),rfl,rfl,rfl⟩ (wk [] (ZW j fl)))))))
 exact ax 0 (ar (Zm (ZP (.b true) (lb (by rw [<-Ld om Zj,decide_eq_true om];rfl)))))
theorem Zet (im:YG) (p:ZZ) (k:Nat) (x:Instr) (hd:Xy im.decls:=by exact ob) (hpl:im.procs.length<=4:=by exact ob) (hps:∀p∈im.procs,p.params.length<=3) (hx:p.code[k]? = some x:=by exact ob) (hcl:p.code.length<=200000000:=by exact ob) (hxl:x.args.length<=1000/\x.jumps.length<=1000:=by exact ob) (hrg:-1<=p.regs/\p.regs<=2000000000:=by exact ob):Zo 107 [V0 im,BV p,.i k] [] (Ym (.b (VE im p k x))):=by
 have hkl:=(Xc.1 hx).1
 have hk3:=Dt hd x.num
 have hcf:=Ve hd x.num
 refine ZE 234 Tryz.func107 (ar (iA (V4 im) fun b1=>iA (UO p) fun b2=>Z1 (Zp 3 [0] (Zq (Zk none (k:Int) 6 (Ja hx)) (Z0 1 (iA [.i 0,.i 0,.i 0,.i 0,nl,nl] fun b3=>?_))))))
 refine Zz 0 b3 (VF x) (ie (Zp 2 [0] (iw (Yc x.args) (Z1 (Y6 (ab 0 (Y5 (fun fz gz m F h=>∃(j:Nat),(j<=x.args.length)/\(TA p.regs (x.args.drop j)=TA p.regs x.args)/\F=sF [2,3,4,7,8] fz [(9,.i j)]/\h=gz/\m=x.args.length-j) _ _ _ ⟨0,ob,rfl,rfl,rfl,rfl⟩ (Zw 3 (Ye fl)) ?_)))))))
 rintro m F h ⟨j,Yl,Zj,rfl,rfl,rfl⟩
 refine Xa (Y0 ((j:Int)<(x.args.length:Int)) (fun Z9=>?_) (fun Z9=>?_))
 ·refine ak (aq (ab 1 (aD 10 (ZY 7 10 [0,1,2] [0] ?_))))
  obtain ⟨x1,Z4⟩:=Zv x.args j om
  refine dx 3 (Zk none (j:Int) 1 (Y7 Z4)) (ZY 3 6 [4,5,6] [1] (da 7 ((p.regs-1)) ((p.regs)-(1)) (Z8 8 (YF 8 [] [] [] (V5 x1 0 (p.regs-1)) (Zs 0 1 [9] (de (ac (!(decide (0<=x1/\x1<=(p.regs-1)))) (p:=¬(0<=x1/\x1<=(p.regs-1))) (Yg dq) (fun Zh=>?_) (fun Zh=>?_))))))))
  ·exact ar (Zm (ZP (.b false) (lb (by rw [VE,<-Rm Z4 om Zj];rfl))))
  exact ak (az (Z0 1 (ZK j (Z1 (ZM ⟨j+1,ob,(Ro Z4 om Zj),rfl,rfl,rfl⟩ (Zw 3 (ZW j fl)))))))
 refine ax 0 (Yr 4 [0,1] (ia ((p.regs-1)) ((p.regs)-(1)) (Zt [] (V5 x.dst 0 (p.regs-1)) (YK 18 [2,3,4,7,8] [(51,.b ((!(decide (0<=x.dst/\x.dst<=(p.regs-1))))||((x.dst != 0)&&(!(Ts x.op)))))] (fun gz=>gz) ?_ (fun hj1=>?_)))))
 ·refine YK 28 [2,3,4,7,8] [(61,.b (((!(decide (0<=x.dst/\x.dst<=(p.regs-1))))||((x.dst != 0)&&(!(Ts x.op))))||((x.into != 0)&&(x.op != 6))))] (fun gz=>gz) ?_ (fun hj2=>?_)
  ·refine Xn [2,3,4,7,8] [(72,.b ((((!(decide (0<=x.dst/\x.dst<=(p.regs-1))))||((x.dst != 0)&&(!(Ts x.op))))||((x.into != 0)&&(x.op != 6)))||((x.op != 21)&&(decide ((x.jumps.length:Int)>0)))))] (fun gz=>gz) ?_ ?_
   ·refine Z0 1 (ib (b:=(((!(decide (0<=x.dst/\x.dst<=(p.regs-1))))||((x.dst != 0)&&(!(Ts x.op))))||((x.into != 0)&&(x.op != 6)))) 62 (fun Za=>?_) (fun Za=>?_))
    ·have Y3:((¬(0<=x.dst/\x.dst<=(p.regs-1)))∨((x.dst≠0)/\(¬((Ts x.op)=true))))∨((x.into≠0)/\(x.op≠6)):=((ZB (ZB (Yg dq) (Y2 Yi (Yg Iff.rfl))) (Y2 Yi Yi))).1 Za
     exact Z1 (Zw 3 (Zf true Za fl))
    have Yq:¬(((¬(0<=x.dst/\x.dst<=(p.regs-1)))∨((x.dst≠0)/\(¬((Ts x.op)=true))))∨((x.into≠0)/\(x.op≠6))):=ZV (ZB (ZB (Yg dq) (Y2 Yi (Yg Iff.rfl))) (Y2 Yi Yi)) Za
    refine Zu 4 [0] (ib (b:=(x.op != 21)) 66 (fun ZA=>?_) (fun ZA=>?_))
    ·have YR:x.op≠21:=(Yi).1 ZA
     exact Zu 2 [0] (iw (Yc x.jumps) (Z1 (Zw 3 (Zf (decide ((x.jumps.length:Int)>0)) (And.intro Za ZA) fl))))
    have X1:¬(x.op≠21):=ZV Yi ZA
    exact Z1 (Zw 3 (Zf false (And.intro Za ZA) fl))
   refine ac ((((!(decide (0<=x.dst/\x.dst<=(p.regs-1))))||((x.dst != 0)&&(!(Ts x.op))))||((x.into != 0)&&(x.op != 6)))||((x.op != 21)&&(decide ((x.jumps.length:Int)>0)))) (p:=(((¬(0<=x.dst/\x.dst<=(p.regs-1)))∨((x.dst≠0)/\(¬((Ts x.op)=true))))∨((x.into≠0)/\(x.op≠6)))∨((x.op≠21)/\((x.jumps.length:Int)>0))) (ZB (ZB (ZB (Yg dq) (Y2 Yi (Yg Iff.rfl))) (Y2 Yi Yi)) (Y2 Yi dq)) (fun ZC=>?_) (fun ZC=>?_)
   ·exact ar (Zm (ZP (.b false) (lb (by rw [VE,decide_eq_false (fun z=>by obtain ⟨z1,z2,z3,z4⟩:=z;rcases ZC with ((q|q)|q)|q<;>first|omega|exact q z1|exact z2.elim q.1 q.2)];simp))))
   simp only [not_or] at ZC
   obtain ⟨⟨⟨hA,hB⟩,hC⟩,hD⟩:=ZC
   have hA:=Up.1 hA
   have hB:x.dst=0∨Ts x.op=true:=JB fun z=>hB ⟨fun w=>z (.inl w),fun w=>z (.inr w)⟩
   have hC:x.into=0∨x.op=6:=by omega
   have hD:x.op=21∨x.jumps.length=0:=by omega
   have hR:=(Rn om Zj).symm
   have hI:VE im p k x=We im p k x:=by rw [VE,hR,decide_eq_true ⟨hA,hB,hC,hD⟩];rfl
   refine ak (Xa (WI [0] (ab 2 (ar (Yz (x.op==0) Zb (fun Yh=>?_) (fun Yh=>?_))))))
   ·refine ar (YK 7 [] [(83,.b (((x.args.length:Int)==0)&&(decide ((-999)<=x.num/\x.num<=999))))] (fun gz=>gz) ?_ (fun hj3=>?_))
    ·exact Zm (ZP (.b (((x.args.length:Int)==0)&&(decide ((-999)<=x.num/\x.num<=999)))) (lb (by rw [hI];unfold We;(repeat (first|rw [Zl om]|rw [Zd om]));all_goals (first|rfl|(rw [Yb];simp;done)|(rw [Yb];simp;omega)|(cases Wd (k:Int) p.code.length x.jumps<;>(rw [Yb];simp<;>omega))))))
    refine Z0 3 (ib (b:=((x.args.length:Int)==0)) 79 (fun Yf=>?_) (fun Yf=>?_))
    ·have Xe:(x.args.length:Int)=0:=(Zb).1 Yf
     exact Zu 2 [0] (Zt [] (V5 x.num (-999) 999) (Z0 1 (ZJ (Zw 3 (Zf (decide ((-999)<=x.num/\x.num<=999)) Yf fl)) hj3)))
    have XO:¬((x.args.length:Int)=0):=ZV Zb Yf
    exact Z0 4 (ZJ (Zw 3 (Zf false Yf fl)) hj3)
   refine Y6 (Xu (fun fz gz F h=>F=sF [2,3,4,7,8,74] fz [(84,.b ((x.op==1)||((x.op==2)||((x.op==3)||((x.op==4)||(x.op==11))))))]/\h=gz) ?_ ?_)
   ·refine ac (x.op==1) Zb (fun YJ=>?_) (fun YJ=>?_)
    ·exact ak (ZH ⟨rfl,rfl⟩ (Zw 3 (fc (x:=.b (x.op==1)) (lb (by first|rfl|(rw [Zl YJ])|(rw [Zd YJ])|(simp [YJ];done)|(rw [Yb];simp [YJ];done)|omega)) fl)))
    refine ar (Yz (x.op==2) Zb (fun X2=>?_) (fun X2=>?_))
    ·exact ak (ZH ⟨rfl,rfl⟩ (Zw 3 (fc (x:=.b (x.op==2)) (lb (by first|rfl|(rw [Zl YJ])|(rw [Zd YJ])|(simp [YJ,X2];done)|(rw [Yb];simp [YJ,X2];done)|omega)) fl)))
    refine ar (Yz (x.op==3) Zb (fun Wx=>?_) (fun Wx=>?_))
    ·exact ak (ZH ⟨rfl,rfl⟩ (Zw 3 (fc (x:=.b (x.op==3)) (lb (by first|rfl|(rw [Zl YJ])|(rw [Zd YJ])|(simp [YJ,X2,Wx];done)|(rw [Yb];simp [YJ,X2,Wx];done)|omega)) fl)))
    refine ar (Yz (x.op==4) Zb (fun Vx=>?_) (fun Vx=>?_))
    ·exact ak (ZH ⟨rfl,rfl⟩ (Zw 3 (fc (x:=.b (x.op==4)) (lb (by first|rfl|(rw [Zl YJ])|(rw [Zd YJ])|(simp [YJ,X2,Wx,Vx];done)|(rw [Yb];simp [YJ,X2,Wx,Vx];done)|omega)) fl)))
    exact Vq (ZH ⟨rfl,rfl⟩ (Zw 3 (fc (x:=.b (x.op==11)) (lb (by first|rfl|(rw [Zl YJ])|(rw [Zd YJ])|(simp [YJ,X2,Wx,Vx];done)|(rw [Yb];simp [YJ,X2,Wx,Vx];done)|omega)) fl)))
   rintro F h ⟨rfl,rfl⟩
   refine ac ((x.op==1)||((x.op==2)||((x.op==3)||((x.op==4)||(x.op==11))))) (p:=(x.op=1)∨((x.op=2)∨((x.op=3)∨((x.op=4)∨(x.op=11))))) (ZB Zb (ZB Zb (ZB Zb (ZB Zb Zb)))) (fun V3=>?_) (fun V3=>?_)
   ·refine ar (YK 7 [] [(96,.b (((x.args.length:Int)==2)&&(x.num==0)))] (fun gz=>gz) ?_ (fun hj4=>?_))
    ·exact Zm (ZP (.b (((x.args.length:Int)==2)&&(x.num==0))) (lb (by rw [hI];unfold We;(repeat (first|rw [Zl om]|rw [Zd om]));all_goals (first|rfl|(rw [Yb];simp;done)|(rw [Yb];simp;omega)|(cases Wd (k:Int) p.code.length x.jumps<;>(rw [Yb];simp<;>omega))))))
    refine Z0 3 (ib (b:=((x.args.length:Int)==2)) 92 (fun YQ=>?_) (fun YQ=>?_))
    ·have W9:(x.args.length:Int)=2:=(Zb).1 YQ
     exact Zu 4 [0] (ZJ (Zw 3 (Zf (x.num==0) YQ fl)) hj4)
    have WB:¬((x.args.length:Int)=2):=ZV Zb YQ
    exact Z0 4 (ZJ (Zw 3 (Zf false YQ fl)) hj4)
   refine Y6 (Xu (fun fz gz F h=>F=sF [2,3,4,7,8,74] fz [(97,.b ((x.op==5)||((x.op==14)||((x.op==15)||((x.op==18)||(x.op==23))))))]/\h=gz) ?_ ?_)
   ·refine ac (x.op==5) Zb (fun Vg=>?_) (fun Vg=>?_)
    ·exact ak (ZH ⟨rfl,rfl⟩ (Zw 3 (fc (x:=.b (x.op==5)) (lb (by first|rfl|(rw [Zl Vg])|(rw [Zd Vg])|(simp [Vg];done)|(rw [Yb];simp [Vg];done)|omega)) fl)))
    refine ar (Yz (x.op==14) Zb (fun Tl=>?_) (fun Tl=>?_))
    ·exact ak (ZH ⟨rfl,rfl⟩ (Zw 3 (fc (x:=.b (x.op==14)) (lb (by first|rfl|(rw [Zl Vg])|(rw [Zd Vg])|(simp [Vg,Tl];done)|(rw [Yb];simp [Vg,Tl];done)|omega)) fl)))
    refine ar (Yz (x.op==15) Zb (fun Vh=>?_) (fun Vh=>?_))
    ·exact ak (ZH ⟨rfl,rfl⟩ (Zw 3 (fc (x:=.b (x.op==15)) (lb (by first|rfl|(rw [Zl Vg])|(rw [Zd Vg])|(simp [Vg,Tl,Vh];done)|(rw [Yb];simp [Vg,Tl,Vh];done)|omega)) fl)))
    refine ar (Yz (x.op==18) Zb (fun TL=>?_) (fun TL=>?_))
    ·exact ak (ZH ⟨rfl,rfl⟩ (Zw 3 (fc (x:=.b (x.op==18)) (lb (by first|rfl|(rw [Zl Vg])|(rw [Zd Vg])|(simp [Vg,Tl,Vh,TL];done)|(rw [Yb];simp [Vg,Tl,Vh,TL];done)|omega)) fl)))
    exact Vq (ZH ⟨rfl,rfl⟩ (Zw 3 (fc (x:=.b (x.op==23)) (lb (by first|rfl|(rw [Zl Vg])|(rw [Zd Vg])|(simp [Vg,Tl,Vh,TL];done)|(rw [Yb];simp [Vg,Tl,Vh,TL];done)|omega)) fl)))
   rintro F h ⟨rfl,rfl⟩
   refine ac ((x.op==5)||((x.op==14)||((x.op==15)||((x.op==18)||(x.op==23))))) (p:=(x.op=5)∨((x.op=14)∨((x.op=15)∨((x.op=18)∨(x.op=23))))) (ZB Zb (ZB Zb (ZB Zb (ZB Zb Zb)))) (fun Cl=>?_) (fun Cl=>?_)
   ·refine ar (YK 7 [] [(109,.b (((x.args.length:Int)==1)&&(x.num==0)))] (fun gz=>gz) ?_ (fun hj5=>?_))
    ·exact Zm (ZP (.b (((x.args.length:Int)==1)&&(x.num==0))) (lb (by rw [hI];unfold We;(repeat (first|rw [Zl om]|rw [Zd om]));all_goals (first|rfl|(rw [Yb];simp;done)|(rw [Yb];simp;omega)|(cases Wd (k:Int) p.code.length x.jumps<;>(rw [Yb];simp<;>omega))))))
    refine Z0 3 (ib (b:=((x.args.length:Int)==1)) 105 (fun Xd=>?_) (fun Xd=>?_))
    ·have WY:(x.args.length:Int)=1:=(Zb).1 Xd
     exact Zu 4 [0] (ZJ (Zw 3 (Zf (x.num==0) Xd fl)) hj5)
    have U5:¬((x.args.length:Int)=1):=ZV Zb Xd
    exact Z0 4 (ZJ (Zw 3 (Zf false Xd fl)) hj5)
   refine ar (Yz (x.op==6) Zb (fun El=>?_) (fun El=>?_))
   ·refine Zp 4 [2,0] (Zt [] (H4 im.decls x.num) (YK 16 [4,7] [(127,.b ((decide ((Wi im.decls x.num)>0))&&((x.args.length:Int)==(((ZQ im.decls x.num).length:Nat):Int))))] (fun gz=>gz) ?_ (fun hj6=>?_)))
    ·refine YK 23 [] [(134,.b (((decide ((Wi im.decls x.num)>0))&&((x.args.length:Int)==(((ZQ im.decls x.num).length:Nat):Int)))&&(decide (0<=x.into/\x.into<=p.regs))))] (fun gz=>gz) ?_ (fun hj7=>?_)
     ·exact Zm (ZP (.b (((decide ((Wi im.decls x.num)>0))&&((x.args.length:Int)==(((ZQ im.decls x.num).length:Nat):Int)))&&(decide (0<=x.into/\x.into<=p.regs)))) (lb (by rw [hI];unfold We;(repeat (first|rw [Zl om]|rw [Zd om]));all_goals (first|rfl|(rw [Yb];simp;done)|(rw [Yb];simp;omega)|(cases Wd (k:Int) p.code.length x.jumps<;>(rw [Yb];simp<;>omega))))))
     refine Z0 1 (ib (b:=((decide ((Wi im.decls x.num)>0))&&((x.args.length:Int)==(((ZQ im.decls x.num).length:Nat):Int)))) 128 (fun Xw=>?_) (fun Xw=>?_))
     ·have Uy:((Wi im.decls x.num)>0)/\((x.args.length:Int)=(((ZQ im.decls x.num).length:Nat):Int)):=((Y2 dq Zb)).1 Xw
      exact Zu 4 [0,1] (Zt [] (V5 x.into 0 p.regs) (Z0 1 (ZJ (Zw 3 (Zf (decide (0<=x.into/\x.into<=p.regs)) Xw fl)) hj7)))
     have Ub:¬(((Wi im.decls x.num)>0)/\((x.args.length:Int)=(((ZQ im.decls x.num).length:Nat):Int))):=ZV (Y2 dq Zb) Xw
     exact Z0 6 (ZJ (Zw 3 (Zf false Xw fl)) hj7)
    refine Z0 2 (ib (b:=(decide ((Wi im.decls x.num)>0))) 118 (fun XT=>?_) (fun XT=>?_))
    ·have TM:(Wi im.decls x.num)>0:=(dq).1 XT
     exact Zu 5 [2,0] (Zt [] (Qa im.decls x.num) (io (.i (((ZQ im.decls x.num).length:Nat):Int)) (.i (((Z6 (ZQ im.decls x.num)).length:Nat):Int)) (li (by rw [Yc])) (Z0 2 (ZJ (Zw 3 (Zf ((x.args.length:Int)==(((ZQ im.decls x.num).length:Nat):Int)) XT fl)) hj6))))
    have Tm:¬((Wi im.decls x.num)>0):=ZV dq XT
    exact Z0 9 (ZJ (Zw 3 (Zf false XT fl)) hj6)
   refine Y6 (Xu (fun fz gz F h=>F=sF [2,3,4,7,8,74] fz [(135,.b ((x.op==9)||(x.op==24)))]/\h=gz) ?_ ?_)
   ·refine ac (x.op==9) Zb (fun K8=>?_) (fun K8=>?_)
    ·exact ak (ZH ⟨rfl,rfl⟩ (Zw 3 (fc (x:=.b (x.op==9)) (lb (by first|rfl|(rw [Zl K8])|(rw [Zd K8])|(simp [K8];done)|(rw [Yb];simp [K8];done)|omega)) fl)))
    exact Vq (ZH ⟨rfl,rfl⟩ (Zw 3 (fc (x:=.b (x.op==24)) (lb (by first|rfl|(rw [Zl K8])|(rw [Zd K8])|(simp [K8];done)|(rw [Yb];simp [K8];done)|omega)) fl)))
   rintro F h ⟨rfl,rfl⟩
   refine ac ((x.op==9)||(x.op==24)) (p:=(x.op=9)∨(x.op=24)) (ZB Zb Zb) (fun K9=>?_) (fun K9=>?_)
   ·exact Zp 4 [2,0] (Zt [] (Ss im x.num x.args.length 0 (hps:=ob)) (Zm (ZP (.b (Tp im x.num x.args.length 0)) (lb (by rw [hI];unfold We;(repeat (first|rw [Zl om]|rw [Zd om]));all_goals (first|rfl|(rw [Yb];simp;done)|(rw [Yb];simp;omega)|(cases Wd (k:Int) p.code.length x.jumps<;>(rw [Yb];simp<;>omega))))))))
   refine ar (Yz (x.op==10) Zb (fun II=>?_) (fun II=>?_))
   ·refine Zp 4 [2,0] (Zt [] (Ss im x.num x.args.length 1 (hps:=ob)) (Z0 1 (ib (b:=(Tp im x.num x.args.length 1)) 150 (fun XX=>?_) (fun XX=>?_))))
    ·have UN:(Tp im x.num x.args.length 1)=true:=(Iff.rfl).1 XX
     refine Zu 4 [2,0] ?_
     obtain ⟨x2,Zy⟩:=Zv im.procs x.num.toNat (by have h:=(EN.1 (show Tp im x.num x.args.length 1=true by assumption)).1;omega)
     have hw:=GH (n:=x.args.length) (more:=1) Zy (by have h:=(EN.1 (show Tp im x.num x.args.length 1=true by assumption)).1;omega)
     exact Zq (DL (es:=Wp im.procs) (hv:=none) (j:=x.num) (sz:=5) (y:=BV x2) kr (by have h:=(EN.1 (show Tp im x.num x.args.length 1=true by assumption)).1;omega) (Ky Zy) rfl) (Z0 2 (iw (Yc x2.lent) (Zm (ZP (.b ((x2.lent.length:Int)==0)) (lb (by rw [hI];unfold We;(repeat (first|rw [Zl om]|rw [Zd om]));rw [hw.2,show Tp im x.num x.args.length 1=true by assumption,Yb];simp))))))
    have QJ:¬((Tp im x.num x.args.length 1)=true):=ZV Iff.rfl XX
    exact Zm (ZP (.b false) (lb (by rw [hI];unfold We;(repeat (first|rw [Zl om]|rw [Zd om]));rw [Qd.2 (show ¬Tp im x.num x.args.length 1=true by assumption)];rfl)))
   refine Y6 (Xu (fun fz gz F h=>F=sF [2,3,4,7,8,74] fz [(161,.b ((x.op==16)||(x.op==17)))]/\h=gz) ?_ ?_)
   ·refine ac (x.op==16) Zb (fun Jj=>?_) (fun Jj=>?_)
    ·exact ak (ZH ⟨rfl,rfl⟩ (Zw 3 (fc (x:=.b (x.op==16)) (lb (by first|rfl|(rw [Zl Jj])|(rw [Zd Jj])|(simp [Jj];done)|(rw [Yb];simp [Jj];done)|omega)) fl)))
    exact Vq (ZH ⟨rfl,rfl⟩ (Zw 3 (fc (x:=.b (x.op==17)) (lb (by first|rfl|(rw [Zl Jj])|(rw [Zd Jj])|(simp [Jj];done)|(rw [Yb];simp [Jj];done)|omega)) fl)))
   rintro F h ⟨rfl,rfl⟩
   refine ac ((x.op==16)||(x.op==17)) (p:=(x.op=16)∨(x.op=17)) (ZB Zb Zb) (fun IJ=>?_) (fun IJ=>?_)
   ·refine Ya 1 (Zt [] (V5 (x.args.length:Int) 1 4) (YK 7 [] [(170,.b ((decide (1<=(x.args.length:Int)/\(x.args.length:Int)<=4))&&(x.num==0)))] (fun gz=>gz) ?_ (fun hj8=>?_)))
    ·exact Zm (ZP (.b ((decide (1<=(x.args.length:Int)/\(x.args.length:Int)<=4))&&(x.num==0))) (lb (by rw [hI];unfold We;(repeat (first|rw [Zl om]|rw [Zd om]));all_goals (first|rfl|(rw [Yb];simp;done)|(rw [Yb];simp;omega)|(cases Wd (k:Int) p.code.length x.jumps<;>(rw [Yb];simp<;>omega))))))
    refine Z0 1 (ib (b:=(decide (1<=(x.args.length:Int)/\(x.args.length:Int)<=4))) 166 (fun Wc=>?_) (fun Wc=>?_))
    ·have AL:1<=(x.args.length:Int)/\(x.args.length:Int)<=4:=(dq).1 Wc
     exact Zu 4 [0] (ZJ (Zw 3 (Zf (x.num==0) Wc fl)) hj8)
    have Jl:¬(1<=(x.args.length:Int)/\(x.args.length:Int)<=4):=ZV dq Wc
    exact Z0 4 (ZJ (Zw 3 (Zf false Wc fl)) hj8)
   refine ar (Yz (x.op==19) Zb (fun G0=>?_) (fun G0=>?_))
   ·refine ar (YK 7 [] [(179,.b (((x.args.length:Int)==1)&&(decide (0<=x.num/\x.num<=2))))] (fun gz=>gz) ?_ (fun hj9=>?_))
    ·exact Zm (ZP (.b (((x.args.length:Int)==1)&&(decide (0<=x.num/\x.num<=2)))) (lb (by rw [hI];unfold We;(repeat (first|rw [Zl om]|rw [Zd om]));all_goals (first|rfl|(rw [Yb];simp;done)|(rw [Yb];simp;omega)|(cases Wd (k:Int) p.code.length x.jumps<;>(rw [Yb];simp<;>omega))))))
    refine Z0 3 (ib (b:=((x.args.length:Int)==1)) 175 (fun WX=>?_) (fun WX=>?_))
    ·have Em:(x.args.length:Int)=1:=(Zb).1 WX
     exact Zu 2 [0] (Zt [] (V5 x.num 0 2) (Z0 1 (ZJ (Zw 3 (Zf (decide (0<=x.num/\x.num<=2)) WX fl)) hj9)))
    have En:¬((x.args.length:Int)=1):=ZV Zb WX
    exact Z0 4 (ZJ (Zw 3 (Zf false WX fl)) hj9)
   refine ar (Yz (x.op==20) Zb (fun T6=>?_) (fun T6=>?_))
   ·refine ar (YK 13 [] [(194,.b (((x.args.length:Int)==1)&&(decide (((k+1:Nat):Int)<=x.num/\x.num<=((p.code.length:Int)-1)))))] (fun gz=>gz) ?_ (fun hj10=>?_))
    ·exact Zm (ZP (.b (((x.args.length:Int)==1)&&(decide (((k+1:Nat):Int)<=x.num/\x.num<=((p.code.length:Int)-1))))) (lb (by rw [hI];unfold We;(repeat (first|rw [Zl om]|rw [Zd om]));all_goals (first|rfl|(rw [Yb];simp;done)|(rw [Yb];simp;omega)|(cases Wd (k:Int) p.code.length x.jumps<;>(rw [Yb];simp<;>omega))))))
    refine Z0 3 (ib (b:=((x.args.length:Int)==1)) 184 (fun UL=>?_) (fun UL=>?_))
    ·have Di:(x.args.length:Int)=1:=(Zb).1 UL
     exact Zu 3 [0] (ZK k (Zu 2 [1] (iw (QD p.code) (ia (((p.code.length:Int)-1)) (((p.code.length:Int))-(1)) (Zt [] (V5 x.num ((k+1:Nat):Int) ((p.code.length:Int)-1)) (Z0 1 (ZJ (Zw 3 (Zf (decide (((k+1:Nat):Int)<=x.num/\x.num<=((p.code.length:Int)-1))) UL fl)) hj10)))))))
    have IN:¬((x.args.length:Int)=1):=ZV Zb UL
    exact Z0 10 (ZJ (Zw 3 (Zf false UL fl)) hj10)
   refine ar (Yz (x.op==22) Zb (fun Jk=>?_) (fun Jk=>?_))
   ·refine ar (YK 13 [] [(209,.b (((x.args.length:Int)==0)&&(decide (((k+1:Nat):Int)<=x.num/\x.num<=((p.code.length:Int)-1)))))] (fun gz=>gz) ?_ (fun hj11=>?_))
    ·exact Zm (ZP (.b (((x.args.length:Int)==0)&&(decide (((k+1:Nat):Int)<=x.num/\x.num<=((p.code.length:Int)-1))))) (lb (by rw [hI];unfold We;(repeat (first|rw [Zl om]|rw [Zd om]));all_goals (first|rfl|(rw [Yb];simp;done)|(rw [Yb];simp;omega)|(cases Wd (k:Int) p.code.length x.jumps<;>(rw [Yb];simp<;>omega))))))
    refine Z0 3 (ib (b:=((x.args.length:Int)==0)) 199 (fun UM=>?_) (fun UM=>?_))
    ·have IP:(x.args.length:Int)=0:=(Zb).1 UM
     exact Zu 3 [0] (ZK k (Zu 2 [1] (iw (QD p.code) (ia (((p.code.length:Int)-1)) (((p.code.length:Int))-(1)) (Zt [] (V5 x.num ((k+1:Nat):Int) ((p.code.length:Int)-1)) (Z0 1 (ZJ (Zw 3 (Zf (decide (((k+1:Nat):Int)<=x.num/\x.num<=((p.code.length:Int)-1))) UM fl)) hj11)))))))
    have IQ:¬((x.args.length:Int)=0):=ZV Zb UM
    exact Z0 10 (ZJ (Zw 3 (Zf false UM fl)) hj11)
   refine ar (Yz (x.op==21) Zb (fun Cm=>?_) (fun Cm=>?_))
   ·refine Zp 4 [2,0] (ic [] (KR im.decls x.num) ?_)
    rintro _ _ ⟨v1,rfl,rfl⟩
    refine io (.i (((ZX im.decls x.num).length:Nat):Int)) (.i (((Z6 (ZX im.decls x.num)).length:Nat):Int)) (li (by rw [Yc])) (Z1 (ar (YK 6 [2,4,7,10] [(223,.b (((x.args.length:Int)==1)&&(decide ((((ZX im.decls x.num).length:Nat):Int)>0))))] (fun gz=>gz) ?_ (fun hj12=>?_))))
    ·refine YK 16 [] [(233,.b ((((x.args.length:Int)==1)&&(decide ((((ZX im.decls x.num).length:Nat):Int)>0)))&&(decide (x.jumps.length=((ZX im.decls x.num).length))&&Wd k p.code.length x.jumps)))] (fun gz=>gz) ?_ (fun hj13=>?_)
     ·exact Zm (ZP (.b ((((x.args.length:Int)==1)&&(decide ((((ZX im.decls x.num).length:Nat):Int)>0)))&&(decide (x.jumps.length=((ZX im.decls x.num).length))&&Wd k p.code.length x.jumps))) (lb (by rw [hI];unfold We;(repeat (first|rw [Zl om]|rw [Zd om]));all_goals (first|rfl|(rw [Yb];simp;done)|(rw [Yb];simp;omega)|(cases Wd (k:Int) p.code.length x.jumps<;>(rw [Yb];simp<;>omega))))))
     refine Z0 1 (ib (b:=(((x.args.length:Int)==1)&&(decide ((((ZX im.decls x.num).length:Nat):Int)>0)))) 224 (fun Jg=>?_) (fun Jg=>?_))
     ·have Oy:((x.args.length:Int)=1)/\((((ZX im.decls x.num).length:Nat):Int)>0):=((Y2 Zb dq)).1 Jg
      exact Zu 6 [1,2] (iw (QD p.code) (Zt [] (Zev x.jumps ((ZX im.decls x.num).length) k p.code.length) (Z0 1 (ZJ (Zw 4 (Zf (decide (x.jumps.length=((ZX im.decls x.num).length))&&Wd k p.code.length x.jumps) Jg fl)) hj13))))
     have Oz:¬(((x.args.length:Int)=1)/\((((ZX im.decls x.num).length:Nat):Int)>0)):=ZV (Y2 Zb dq) Jg
     exact Z0 9 (ZJ (Zw 4 (Zf false Jg fl)) hj13)
    refine Z0 3 (ib (b:=((x.args.length:Int)==1)) 220 (fun Jh=>?_) (fun Jh=>?_))
    ·have OA:(x.args.length:Int)=1:=(Zb).1 Jh
     exact Z0 3 (ZJ (Zw 4 (Zf (decide ((((ZX im.decls x.num).length:Nat):Int)>0)) Jh fl)) hj12)
    have OB:¬((x.args.length:Int)=1):=ZV Zb Jh
    exact Z0 3 (ZJ (Zw 4 (Zf false Jh fl)) hj12)
   exact ak (ar (Zm (ZP (.b false) (lb (by rw [hI];unfold We;(repeat (first|rw [Zl om]|rw [Zd om]));all_goals (first|rfl|(rw [Yb];simp;done)|(rw [Yb];simp;omega)|(cases Wd (k:Int) p.code.length x.jumps<;>(rw [Yb];simp<;>omega))))))))
  refine Z0 1 (ib (b:=((!(decide (0<=x.dst/\x.dst<=(p.regs-1))))||((x.dst != 0)&&(!(Ts x.op))))) 52 (fun KE=>?_) (fun KE=>?_))
  ·have OC:(¬(0<=x.dst/\x.dst<=(p.regs-1)))∨((x.dst≠0)/\(¬((Ts x.op)=true))):=((ZB (Yg dq) (Y2 Yi (Yg Iff.rfl)))).1 KE
   exact Z0 9 (ZJ (Zw 3 (Zf true KE fl)) hj2)
  have G6:¬((¬(0<=x.dst/\x.dst<=(p.regs-1)))∨((x.dst≠0)/\(¬((Ts x.op)=true)))):=ZV (ZB (Yg dq) (Y2 Yi (Yg Iff.rfl))) KE
  refine Zu 4 [0] (ib (b:=(x.into != 0)) 56 (fun Ji=>?_) (fun Ji=>?_))
  ·have G7:x.into≠0:=(Yi).1 Ji
   exact Zu 5 [0] (ZJ (Zw 3 (Zf (x.op != 6) (And.intro KE Ji) fl)) hj2)
  have IR:¬(x.into≠0):=ZV Yi Ji
  exact Z0 5 (ZJ (Zw 3 (Zf false (And.intro KE Ji) fl)) hj2)
 refine Z0 2 (ib (b:=(!(decide (0<=x.dst/\x.dst<=(p.regs-1))))) 41 (fun Dg=>?_) (fun Dg=>?_))
 ·have IS:¬(0<=x.dst/\x.dst<=(p.regs-1)):=((Yg dq)).1 Dg
  exact Z0 10 (ZJ (Zw 3 (Zf true Dg fl)) hj1)
 have Zgv:¬(¬(0<=x.dst/\x.dst<=(p.regs-1))):=ZV (Yg dq) Dg
 refine Zu 4 [0] (ib (b:=(x.dst != 0)) 45 (fun Ek=>?_) (fun Ek=>?_))
 ·have Zgw:x.dst≠0:=(Yi).1 Ek
  exact Zu 2 [0] (Zt [] (Su x.op) (Z0 3 (ZJ (Zw 3 (Zf (!(Ts x.op)) (And.intro Dg Ek) fl)) hj1)))
 have Zgx:¬(x.dst≠0):=ZV Yi Ek
 exact Z0 6 (ZJ (Zw 3 (Zf false (And.intro Dg Ek) fl)) hj1)
theorem Zey (im:YG) (p:ZZ) (lz:Nat) (hd:Xy im.decls:=by exact ob) (hpl:im.procs.length<=4:=by exact ob) (hps:∀p∈im.procs,p.params.length<=3) (hz:PZ lz p:=by exact ob) (hlz:lz<=100:=by exact ob):Zo 62 [V0 im,BV p] [] (Ym (.b (T8 im p))):=by
 have hz1:=hz.params
 have hz2:=hz.lent
 have hz3:=hz.regs
 have hz4:=hz.len
 refine ZE 59 Tryz.func62 (ar (iA (V4 im) fun b1=>iA (UO p) fun b2=>Z1 (Zp 2 [0] (iw (QD p.code) (Z1 (Yr 4 [0,0] (Zt [] (Sy p.params p.lent) (YK 16 [2,3,5] [(25,.b ((!Uj p.params p.lent)||(!(decide ((max 1 (p.params.length:Int))<=p.regs/\p.regs<=2000)))))] (fun gz=>gz) ?_ (fun hj1=>?_)))))))))
 ·refine Xn [2,3,5] [(30,.b (((!Uj p.params p.lent)||(!(decide ((max 1 (p.params.length:Int))<=p.regs/\p.regs<=2000))))||(!(decide (1<=(p.code.length:Int)/\(p.code.length:Int)<=2000)))))] (fun gz=>gz) ?_ ?_
  ·refine Z0 1 (ib (b:=((!Uj p.params p.lent)||(!(decide ((max 1 (p.params.length:Int))<=p.regs/\p.regs<=2000))))) 26 (fun Za=>?_) (fun Za=>?_))
   ·have Y3:(¬(Uj p.params p.lent=true))∨(¬((max 1 (p.params.length:Int))<=p.regs/\p.regs<=2000)):=((ZB (Yg Iff.rfl) (Yg dq))).1 Za
    exact Z1 (wk [0,0] (Zf true Za fl))
   have Yq:¬((¬(Uj p.params p.lent=true))∨(¬((max 1 (p.params.length:Int))<=p.regs/\p.regs<=2000))):=ZV (ZB (Yg Iff.rfl) (Yg dq)) Za
   exact Z0 1 (Zt [] (V5 (p.code.length:Int) 1 2000) (Z1 (wk [0,0] (Zf (!(decide (1<=(p.code.length:Int)/\(p.code.length:Int)<=2000))) Za fl))))
  refine ac (((!Uj p.params p.lent)||(!(decide ((max 1 (p.params.length:Int))<=p.regs/\p.regs<=2000))))||(!(decide (1<=(p.code.length:Int)/\(p.code.length:Int)<=2000)))) (p:=((¬(Uj p.params p.lent=true))∨(¬((max 1 (p.params.length:Int))<=p.regs/\p.regs<=2000)))∨(¬(1<=(p.code.length:Int)/\(p.code.length:Int)<=2000))) (ZB (ZB (Yg Iff.rfl) (Yg dq)) (Yg dq)) (fun Z9=>?_) (fun Z9=>?_)
  ·exact ar (Zm (ZP (.b false) (lb (by rw [T8];rcases Z9 with (q|q)|q<;>first|(rw [Qd.2 q];rfl)|(rw [decide_eq_false (fun z=>by omega)];simp)))))
  simp only [not_or,Up] at Z9
  obtain ⟨⟨hV,hR1⟩,hC1⟩:=Z9
  have hRC:(1<=p.regs/\(p.params.length:Int)<=p.regs/\p.regs<=2000)/\1<=p.code.length/\p.code.length<=2000:=by omega
  refine ak (Y6 (ab 0 (Y5 (fun fz gz m F h=>∃(j:Nat),(j<=p.code.length)/\(Qi im p (p.code.drop j) j=Qi im p p.code 0)/\F=sF [2,3,5] fz [(6,.i j)]/\h=gz/\m=p.code.length-j) _ _ _ ⟨0,ob,rfl,rfl,rfl,rfl⟩ (wk [0,0] (Ye fl)) ?_)))
  rintro m F h ⟨j,Yl,Zj,rfl,rfl,rfl⟩
  refine Xa (Y0 ((j:Int)<(p.code.length:Int)) (fun Zh=>?_) (fun Zh=>?_))
  ·obtain ⟨x1,Z4⟩:=Zv p.code j om
   have hxz:=hz.code _ (Y4 Z4)
   have hxl:=hxz.l
   refine ak (aq (ab 1 (Zp 3 [1,0] (Zt [] (Zet im p j x1 (hps:=hps) (hx:=Z4) (hxl:=om) (hrg:=om)) (Yz (!(VE im p j x1)) (p:=¬((VE im p j x1)=true)) (Yg Iff.rfl) (fun ZC=>?_) (fun ZC=>?_))))))
   ·exact ar (Zm (ZP (.b false) (lb (by rw [T8,<-OP Z4 (Qd.2 (by assumption)) Zj];simp))))
   exact ak (az (Z0 1 (ZK j (Z1 (ZM ⟨j+1,ob,(OR Z4 (Up.1 ZC) Zj),rfl,rfl,rfl⟩ (wk [0,0] (ZW j fl)))))))
  have hIs:=OQ om Zj
  refine ax 0 (Zp 3 [0] (ia ((((p.code.length-1):Nat):Int)) (((p.code.length:Int))-(1)) ?_))
  obtain ⟨x1,Z4⟩:=Zv p.code (p.code.length-1) om
  refine Zq (Zk none (((p.code.length-1):Nat):Int) 6 (Ja Z4)) (YK 18 [] [(58,.b ((x1.op==23)||(x1.op==24)))] (fun gz=>gz) ?_ (fun hj2=>?_))
  ·exact Zm (ZP (.b ((x1.op==23)||(x1.op==24))) (lb (by rw [T8,<-hIs,hV,decide_eq_true hRC,Gj Z4,Yb];simp)))
  refine Z0 4 (ib (b:=(x1.op==23)) 49 (fun ZA=>?_) (fun ZA=>?_))
  ·have YR:x1.op=23:=(Zb).1 ZA
   exact Z0 9 (ZJ (wk [0,0] (Zf true ZA fl)) hj2)
  have X1:¬(x1.op=23):=ZV Zb ZA
  exact Zu 3 [0] (ia ((((p.code.length-1):Nat):Int)) (((p.code.length:Int))-(1)) (Zq (Zk none (((p.code.length-1):Nat):Int) 6 (Ja Z4)) (Z0 4 (ZJ (wk [0,0] (Zf (x1.op==24) ZA fl)) hj2))))
 refine Z0 2 (ib (b:=(!Uj p.params p.lent)) 16 (fun Yf=>?_) (fun Yf=>?_))
 ·have Xe:¬(Uj p.params p.lent=true):=((Yg Iff.rfl)).1 Yf
  exact Z0 9 (ZJ (wk [0,0] (Zf true Yf fl)) hj1)
 have XO:¬(¬(Uj p.params p.lent=true)):=ZV (Yg Iff.rfl) Yf
 exact Zu 4 [0,0] (iw (Yc p.params) (Zq (Ge 1 (p.params.length:Int)) (Zt [] (V5 p.regs (max 1 (p.params.length:Int)) 2000) (Z0 2 (ZJ (wk [0,0] (Zf (!(decide ((max 1 (p.params.length:Int))<=p.regs/\p.regs<=2000))) Yf fl)) hj1)))))
theorem Zef (im:YG) (hz:im.procs.length<=4194304:=by exact ob):Zo 61 [V0 im] [] (Ym (.agg [Yd im.decls,.sl (WA (im.procs.map UC)) none])):=by
 refine ZE 35 Tryz.func61 (ar (iA (V4 im) fun b1=>iA [nl,nl] fun b2=>ie (Zp 2 [1] (iL (WA []) 0 5 fun v1=>Z0 1 (iA [nl,nl] fun b3=>?_)))))
 refine Zz 0 b3 [Yd im.decls,.sl (WA []) (some v1)] (ie (Y6 (ab 0 (Y5 (fun fz gz m F h=>∃(k:Nat) (v:Value),(k<=im.procs.length)/\F=sF [1,2,3] fz [(4,.i k)]/\h=[.obj b3 [Yd im.decls,.sl (WA ((im.procs.take k).map UC)) (some v)],Zi gz 2,Zi gz 3,.tail v 5]/\m=im.procs.length-k) _ _ _ ⟨0,v1,ob,rfl,rfl,rfl⟩ (wk [0,1,1,0] (Ye fl)) ?_))))
 rintro m F h ⟨k,v,Yl,rfl,rfl,rfl⟩
 refine Yr 3 [2] (iw (JY im.procs) (Y0 ((k:Int)<(im.procs.length:Int)) (fun Z9=>?_) (fun Z9=>?_)))
 ·refine ak (aq (ab 1 (aE 19 (ZY 14 19 [0,1,2,3,4] [0,2] ?_))))
  obtain ⟨x1,Z4⟩:=Zv im.procs k om
  exact dx 5 (Zk none (k:Int) 5 (Ky Z4)) (ZY 8 13 [6,7,8,9,10] [2] (dx 11 (Zk none (k:Int) 5 (Ky Z4)) (Yv 4 7 [12,13,14] [(30,.agg [Z3 x1.params,.i x1.result,.i 0,.i 0,.sl [] none])] (Z8 15 (dL 15 [0] [b3] (WA [Sg.mk x1.params x1.result]) 1 5 fun v2=>Yv 3 3 [] [(31,.sl (WA [Sg.mk x1.params x1.result]) none)] (Z8 16 (dp 16 4 [] [] (WA ((im.procs.take (k+1)).map UC)) (WA ((im.procs.take k).map UC)) (WA [Sg.mk x1.params x1.result]) v none 5 (FI _) (FI _) (Ns _) (by simp<;>omega) (by rw [V9 Z4];simp [WA,UC]) fun v3=>Zs 1 2 [17] (Z8 18 (YT 18 2 [] [] b3 [Yd im.decls,.sl (WA ((im.procs.take (k+1)).map UC)) (some v3)] (de (az (Z0 1 (ZK k (Z1 (ZM ⟨k+1,v3,ob,rfl,rfl,rfl⟩ (wk [0,2,2,0] (ZW k fl)))))))))))))))))
 exact ax 0 (Zp 1 [0] (Zz 1 b2 [Yd im.decls,.sl (WA ((im.procs.take k).map UC)) (some v)] (ie (at_ (r3 [] [.agg [Yd im.decls,.sl (WA ((im.procs.take k).map UC)) (some v)]] [0] [(b2,b2)] ⟨rfl,rfl⟩ (Zc.agg (.cons (lr _) (.cons (Zc.sl _ (Yj WA (by rw [show k=im.procs.length by omega,Uk]))) .nil))))))))
theorem Zes (im:YG) (lz:Nat) (hz:IZ im lz:=by exact ob) (hlz:lz<=100:=by exact ob):Zo 33 [V0 im] [] (Ym (.b (XJ im))):=by
 have hil:=hz.len
 have hds:=hz.decls.sz
 refine ZE 29 Tryz.func33 (ar (iA (V4 im) fun b1=>Z1 (Yr 2 [0] (iw (JY im.procs) (Xn [1] [(13,.b ((decide ((im.procs.length:Int)>4))||(!US im.decls (im.procs.map UC))))] (fun gz=>gz) ?_ ?_)))))
 ·refine Z0 2 (ib (b:=(decide ((im.procs.length:Int)>4))) 8 (fun Za=>?_) (fun Za=>?_))
  ·have Y3:(im.procs.length:Int)>4:=(dq).1 Za
   exact Z1 (wk [0] (Zf true Za fl))
  have Yq:¬((im.procs.length:Int)>4):=ZV dq Za
  exact Zu 1 [0] (Zt [] (Zef im) (Zt [] (Sz im.decls (im.procs.map UC) (hz:=hds) (hf:=(by intro f hf;obtain ⟨r,h1,rfl⟩:=XN.1 hf;have:=(hz.procs r h1).params;show r.params.length<=_;omega))) (Z1 (wk [0] (Zf (!US im.decls (im.procs.map UC)) Za fl)))))
 refine ac ((decide ((im.procs.length:Int)>4))||(!US im.decls (im.procs.map UC))) (p:=((im.procs.length:Int)>4)∨(¬(US im.decls (im.procs.map UC)=true))) (ZB dq (Yg Iff.rfl)) (fun Z9=>?_) (fun Z9=>?_)
 ·exact ar (Zm (ZP (.b false) (lb (by rw [XJ];rcases Z9 with q|q<;>first|(rw [decide_eq_false om];rfl)|(rw [Qd.2 q];simp)))))
 simp only [not_or,Up] at Z9
 obtain ⟨hL,hV⟩:=Z9
 have hil4:im.procs.length<=4:=by omega
 have Xo:Xy im.decls:=Mi (by simp only [US,Xb] at hV;exact hV.1)
 have hps:∀p∈im.procs,p.params.length<=3:=fun p hp=>(hz.procs p hp).params
 refine ak (Y6 (ab 0 (Y5 (fun fz gz m F h=>∃(k:Nat),(k<=im.procs.length)/\(Tq im (im.procs.drop k)=Tq im im.procs)/\F=sF [1] fz [(3,.i k)]/\h=gz/\m=im.procs.length-k) _ _ _ ⟨0,ob,rfl,rfl,rfl,rfl⟩ (wk [0] (Ye fl)) ?_)))
 rintro m F h ⟨k,Yl,Zj,rfl,rfl,rfl⟩
 refine Yr 3 [0] (iw (JY im.procs) (Y0 ((k:Int)<(im.procs.length:Int)) (fun Zh=>?_) (fun Zh=>?_)))
 ·refine ak (aq (ab 1 (aD 8 (ZY 4 8 [0,1,2,3] [0,0] ?_))))
  obtain ⟨x1,Z4⟩:=Zv im.procs k om
  refine dx 4 (Zk none (k:Int) 5 (Ky Z4)) (Zs 2 3 [5] (Z8 6 (YF 6 [] [] [] (Zey im x1 lz (hps:=hps) (hz:=(hz.procs _ (Y4 Z4)))) (Zs 0 1 [7] (de (ac (!(T8 im x1)) (p:=¬((T8 im x1)=true)) (Yg Iff.rfl) (fun ZC=>?_) (fun ZC=>?_)))))))
  ·exact ar (Zm (ZP (.b false) (lb (by rw [XJ,<-GI Z4 (Qd.2 (by assumption)) Zj];simp))))
  exact ak (az (Z0 1 (ZK k (Z1 (ZM ⟨k+1,ob,(R3 Z4 (Up.1 ZC) Zj),rfl,rfl,rfl⟩ (wk [0] (ZW k fl)))))))
 exact ax 0 (ar (Zm (ZP (.b true) (lb (by rw [XJ,decide_eq_true hil4,hV,<-R0 om Zj];rfl)))))
theorem Z2e (xs:LI) (hl_xs:xs.length<=4294967296:=by exact ob):Zo 134 [Z3 xs] [] (fun r h=>∃(v:Value),r=ZG xs v/\h=[.tail v 1]):=by
 refine ZE 8 Tryz.func134 (Y1 (YO 1 (iN (Z6 xs) (fun hz1=>?_) ?_)))
 ·have hz1:=Z3y hz1
  exact ie (Vn (Y1 (HG 1 (at_ (r2 [0] [nl] ⟨(.slice none 0 0),rfl,rfl⟩ (Zc.slh _ (by first|rfl|(subst_vars;rfl))))))))
 exact ie (WW (ak (ar (iL (Z6 []) 0 1 fun v1=>Z0 1 (ip 0 (Z6 xs) (Z6 []) (Z6 xs) v1 none 1 (YE _) (YE _) (W2 _) (by simp<;>omega) (by simp [Z6]) fun v2=>Zm (r1 [0] ⟨v2,rfl,rfl⟩))))))
theorem Ga (ds:List Ze) (t:Int) (hl_ds:ds.length<=4294967296:=by exact ob):Zo 124 [Yd ds,.i t] [] (fun r h=>r=.b (decide (0<=t/\t<=ds.length))/\h=[]):=by
 refine ZE 13 Tryz.func124 (Y1 (ar (YK 8 [] [(12,.b ((decide (t>=0))&&(decide (t<=(ds.length:Int)))))] (fun gz=>gz) ?_ (fun hj1=>?_))))
 ·exact Zm (ZP (.b ((decide (t>=0))&&(decide (t<=(ds.length:Int))))) (lb (by rw [Yb];simp)))
 refine Z0 3 (ib (b:=(decide (t>=0))) 7 (fun Za=>?_) (fun Za=>?_))
 ·exact Z0 2 (iw (Us ds) (Z0 2 (ZJ (wk [] (Zf (decide (t<=(ds.length:Int))) Za fl)) hj1)))
 exact Z0 5 (ZJ (wk [] (Zf false Za fl)) hj1)
theorem OI (ds:List Ze) (xs:LI) (hl_ds:ds.length<=4294967296:=by exact ob) (hl_xs:xs.length<=4294967296:=by exact ob):Zo 123 [Yd ds,Z3 xs] [] (Ym (.b (Wm ds.length xs))):=by
 refine ZE 18 Tryz.func123 (Y1 (YO 1 (iw (Yc xs) (Z1 (ab 0 (Y5 (fun fz gz m F h=>∃(k:Nat),(k<=xs.length)/\(Wm ds.length (xs.drop k)=Wm ds.length xs)/\F=sF [0,7,8] fz [(9,.i k)]/\h=gz/\m=xs.length-k) _ _ _ ⟨0,ob,ob,rfl,rfl,rfl⟩ (wk [] (Ye fl)) ?_))))))
 rintro m F h ⟨k,Yl,Zj,rfl,rfl,rfl⟩
 refine Y1 (aq (WZ ((k:Int)<(xs.length:Int)) (fun Z9=>?_) (fun Z9=>?_)))
 ·refine ak (aq (ab 1 (ar ?_)))
  obtain ⟨x1,Z4⟩:=Zv xs k om
  refine Zq (Zk none (k:Int) 1 (Y7 Z4)) (Z1 (Ya 2 (Zt [] (Ga ds x1) (Yz (!(decide (0<=x1/\x1<=ds.length))) (p:=¬(0<=x1/\x1<=ds.length)) (Yg dq) (fun Zh=>?_) (fun Zh=>?_)))))
  ·refine Y1 ?_
   rw [Yo Z4] at Zj
   exact at_ (ZP (.b false) (lb (by clear Z4;first|rfl|omega|grind [Wm])))
  refine ak (az (ZK k (Z1 ?_)))
  have hdr:=Yo Z4
  exact ZM ⟨k+1,ob,(by rw [hdr] at Zj;clear hdr Z4;grind [Wm]),rfl,rfl,rfl⟩ (wk [] (ZW k fl))
 refine ax 0 (Y1 ?_)
 try rw [Xt (xs:=xs) (k:=k) om] at Zj
 exact at_ (ZP (.b true) (lb (by first|rfl|omega|grind [Wm])))
theorem OJ (ds:List Ze) (hd:Xy ds:=by exact ob):Zo 126 [Yd ds] [] (Ym (.i (YH ds:Nat))):=by
 have hdl:=hd.len
 refine ZE 19 Tryz.func126 (Y1 (Y1 (YO 1 (iw (Us ds) (Z1 (ab 0 (Y5 (fun fz gz m F h=>∃(k:Nat),(k<=ds.length)/\F=sF [6,7] fz [(3,.i ((YH (ds.take k):Nat):Int)),(8,.i k)]/\h=gz/\m=ds.length-k) _ _ _ ⟨0,ob,rfl,rfl,rfl⟩ (wk [] (Ye (Ye fl))) ?_)))))))
 rintro m F h ⟨k,Yl,rfl,rfl,rfl⟩
 refine Y1 (aq (WZ ((k:Int)<(ds.length:Int)) (fun Z9=>?_) (fun Z9=>?_)))
 ·refine ak (aq (ab 1 (ar ?_)))
  obtain ⟨x1,Z4⟩:=Zv ds k om
  refine Zq (Zk none (k:Int) 3 (Vw Z4)) (Z0 1 (iA [.i 0,.i 0,nl] fun b1=>Zz 0 b1 (Cq x1) (ie (az (Zu 3 [0] (iw (UY x1.cons) (ia (((YH (ds.take k)+x1.cons.length:Nat):Int)) ((((YH (ds.take k):Nat):Int))+((x1.cons.length:Int))) (hb:=(by have h1:=hd.cons_at Z4;have h2:=(hd.take k).sum;omega)) (Z1 (az (ZK k (Z1 ?_)))))))))))
  have hdr:=Yo Z4
  exact ZM ⟨k+1,ob,rfl,rfl,rfl⟩ (wk [] (fc (x:=.i ((YH (ds.take k)+x1.cons.length:Nat):Int)) (li (by rw [V9 Z4,CT];simp [YH])) (ZW k fl)))
 exact ax 0 (ar (Zm (ZP (.i ((YH (ds.take k):Nat):Int)) (li (by rw [WT om])))))
theorem Z8i (ds:List Ze) (c:Int) (hd:Xy ds:=by exact ob) (hc:-9223372036854775808<=c/\c<=9223372036854775807:=by exact ob):Zo 160 [Yd ds,.i c] [] (Ym (.tup [.i (Wi ds c),.agg [Z3 (ZQ ds c)]])):=by
 have hdl:=hd.len
 refine ZE 38 Tryz.func160 (Ya 1 (iA [nl] fun b1=>?_))
 refine ie (YO 1 (iw (Us ds) (Z1 (ab 0 (Y5 (fun fz gz m F h=>∃(k:Nat) (cv:Int),(k<=ds.length)/\(B6 c (YH (ds.take k)) cv)/\(Ul c (ds.drop k) k (YH (ds.take k))=Ul c ds 0 0)/\F=sF [5,8,9] fz [(1,.i cv),(10,.i k)]/\h=gz/\m=ds.length-k) _ _ _ ⟨0,c,ob,(.inl (by simp [YH])),rfl,rfl,rfl,rfl⟩ (wk [0] (fr (Ye fl))) ?_)))))
 rintro m F h ⟨k,cv,Yl,Zj,ZD,rfl,rfl,rfl⟩
 refine Y1 (aq (WZ ((k:Int)<(ds.length:Int)) (fun Z9=>?_) (fun Z9=>?_)))
 ·refine ak (aq (ab 1 (Ya 1 ?_)))
  obtain ⟨x1,Z4⟩:=Zv ds k om
  refine Zq (Zk none (k:Int) 3 (Vw Z4)) (Z0 1 (iA [.i 0,.i 0,nl] fun b2=>Z0 1 (Zz 0 b2 (Cq x1) (ie (Xa (Xn [1,5,6,7,8,9,10] [(23,.b ((decide (cv>=0))&&(decide (cv<(x1.cons.length:Int)))))] (fun gz=>gz) ?_ ?_))))))
  ·refine Z0 3 (ib (b:=(decide (cv>=0))) 17 (fun Za=>?_) (fun Za=>?_))
   ·exact Zu 3 [0] (iw (UY x1.cons) (Z1 (wk [0,0] (Zf (decide (cv<(x1.cons.length:Int))) Za fl))))
   exact Z1 (wk [0,0] (Zf false Za fl))
  refine ac ((decide (cv>=0))&&(decide (cv<(x1.cons.length:Int)))) (p:=(cv>=0)/\(cv<(x1.cons.length:Int))) (Y2 dq dq) (fun Zh=>?_) (fun Zh=>?_)
  ·refine aD 9 (Zs 8 9 [0] (da 1 (((k+1:Nat):Int)) (((k:Int))+(1)) (ZY 4 7 [2,3,4] [0] ?_)))
   obtain ⟨x2,Zy⟩:=Zv x1.cons cv.toNat om
   refine dx 5 (Zk none cv 1 (Ca Zy)) (Zs 1 3 [6,7] (Z8 8 (YT 8 1 [] [] b1 (P4 x2) (de ?_))))
   have hz:=(hd.take k).sum
   have h3:=hd.cons_at Z4
   have hH:=ZD.symm.trans (Z2s Z4 Zj om h3 hc.1 Zh Zy)
   exact at_ (r3 [] [.i (k+1:Nat),CM x2] [0] [(b1,b1)] ⟨rfl,rfl⟩ (Zc.tup (.cons (li (by rw [Wi,hH];omega)) (.cons (Zc.agg (.cons (Zc.sl _ (Yj Z6 (by rw [ZQ,hH]))) .nil)) .nil))))
  refine ak (az (Zu 3 [0] (iw (UY x1.cons) (iW ((cv)-((x1.cons.length:Int))) (Z1 (az (ZK k (Z1 ?_))))))))
  have hdr:=Yo Z4
  exact ZM ⟨k+1,(CI ((cv)-((x1.cons.length:Int)))),ob,(by have hz:=(hd.take k).sum;have h3:=hd.cons_at Z4;rw [V9 Z4,CT];simpa [YH] using Z1t Zj om h3 hc),(Z2q Z4 Zj Zh ZD),rfl,rfl,rfl⟩ (wk [1] (fr (ZW k fl)))
 refine ax 0 (Ya 2 (Zz 0 b1 [nl] (ie ?_)))
 have hH:Ul c ds 0 0=(-1,[]):=by rw [<-ZD,Xt om];rfl
 exact at_ (r3 [] [.i (-1),.agg [nl]] [0] [(b1,b1)] ⟨rfl,rfl⟩ (Zc.tup (.cons (li (by rw [Wi,hH])) (.cons (Zc.agg (.cons (Zc.sl _ (by rw [ZQ,hH];rfl)) .nil)) .nil))))
theorem Z8l (ds:List Ze) (c:Int) (hd:Xy ds:=by exact ob) (hc:-9223372036854775808<=c/\c<=9223372036854775807:=by exact ob):Zo 128 [Yd ds,.i c] [] (Ym (Z3 (ZQ ds c))):=by
 exact ZE 15 Tryz.func128 (Y1 (Ya 2 (Zt [] (Z8i ds c) (Z0 3 (iA [nl] fun b1=>Z0 1 (Zz 0 b1 [Z3 (ZQ ds c)] (ie (QG [0] (at_ (BK))))))))))
theorem Z8j (ds:List Ze) (t:Int) (hd:Xy ds:=by exact ob):Zo 127 [Yd ds,.i t] [] (Ym (Z3 (ZX ds t))):=by
 have hdl:=hd.len
 refine ZE 39 Tryz.func127 (Y1 (Xa (Xn [0,1] [(15,.b ((decide (t<1))||(decide (t>(ds.length:Int)))))] (fun gz=>gz) ?_ ?_)))
 ·refine Z0 3 (ib (b:=(decide (t<1))) 10 (fun Za=>?_) (fun Za=>?_))
  ·exact Z1 (wk [] (Zf true Za fl))
  exact Z0 2 (iw (Us ds) (Z1 (wk [] (Zf (decide (t>(ds.length:Int))) Za fl))))
 refine ac ((decide (t<1))||(decide (t>(ds.length:Int)))) (p:=(t<1)∨(t>(ds.length:Int))) (ZB dq dq) (fun Z9=>?_) (fun Z9=>?_)
 ·exact ar (Zm (ZP (nl) (Zc.sl _ (by rw [ZX,Zd om];rfl))))
 have hti:1<=t/\t<=ds.length:=by omega
 obtain ⟨d,hd1⟩:=Zv ds ((t-1).toNat) om
 have hdc:=hd.cons_at hd1
 have hsm:=(hd.take (t-1).toNat).sum
 refine ak (Ya 2 (ia ((((t-1).toNat:Nat):Int)) ((t)-(1)) (Zq (AY (es:=YU ds) (hv:=none) (l:=0) (m:=(((t-1).toNat:Nat):Int)) (sz:=3) (es':=YU (ds.take ((t-1).toNat))) kr om (by simp<;>omega) (by simp<;>omega) (K4 _) (by first|(simp only [Tc,Uk,CZ,CY];done)|(simp only [Tc,Uk,CZ,CY];rfl)|(simp [CZ,CY];done))) (Zt [] (OJ (ds.take ((t-1).toNat)) (hd:=(hd.take _))) (Z1 (Y1 (YO 2 (ia ((((t-1).toNat:Nat):Int)) ((t)-(1)) (Zq (Zk none (((t-1).toNat:Nat):Int) 3 (Vw hd1)) (Z0 2 (iw (UY d.cons) (Z1 (ab 0 (HG 1 (Y5 (fun fz gz m F h=>∃(k:Nat) (v:Value),(k<=d.cons.length)/\F=sF [5,27] fz [(6,ZG (VM (YH (ds.take (t-1).toNat)) k) v),(28,.i k)]/\h=[.tail v 1]/\m=d.cons.length-k) _ _ _ ⟨0,(.slice none 0 0),ob,rfl,rfl,rfl⟩ (wk [0] (fc (x:=nl) (Zc.slh _ rfl) (Ye fl))) ?_)))))))))))))))
 rintro m F h ⟨k,v,Yl,rfl,rfl,rfl⟩
 refine Y1 (aq (WZ ((k:Int)<(d.cons.length:Int)) (fun Zh=>?_) (fun Zh=>?_)))
 ·exact ak (aq (ab 1 (Y1 (az (Z0 3 (ia ((((YH (ds.take ((t-1).toNat)))+k:Nat):Int)) ((((YH (ds.take ((t-1).toNat)):Nat):Int))+((k:Int))) (iL (Z6 [(((YH (ds.take ((t-1).toNat)))+k:Nat):Int)]) 1 1 fun v1=>ZU 0 [(35,Z3 [(((YH (ds.take ((t-1).toNat)))+k:Nat):Int)])] (ip 1 (Z6 (VM (YH (ds.take (t-1).toNat)) k++[(((YH (ds.take ((t-1).toNat)))+k:Nat):Int)])) (Z6 (VM (YH (ds.take (t-1).toNat)) k)) (Z6 [(((YH (ds.take ((t-1).toNat)))+k:Nat):Int)]) v none 1 (YE _) (YE _) (W2 _) (by simp;omega) (by simp [W6,Z6]) fun v2=>Z1 (az (ZK k (Z1 (ZM ⟨k+1,v2,ob,rfl,rfl,rfl⟩ (wk [0] (fc (x:=ZG (VM (YH (ds.take (t-1).toNat)) k++[(((YH (ds.take ((t-1).toNat)))+k:Nat):Int)]) v2) (Zc.slh _ (Yj Z6 (Pw _ _).symm)) (ZW k fl)))))))))))))))
 exact ax 0 (ar (Zm (ZP (ZG (VM (YH (ds.take (t-1).toNat)) k) v) (Zc.sl _ (Yj Z6 (by rw [ZX,Zl hti,hd1,show k=d.cons.length by omega];rfl))))))
theorem Z8f (ds:List Ze) (hz:Qv ds:=by exact ob):Zo 122 [Yd ds] [] (Ym (.b (WS ds))):=by
 have hzl:=hz.len
 refine ZE 106 Tryz.func122 (Y1 (YO 1 (iw (Us ds) (Y0 ((ds.length:Int)>4) (fun Z9=>?_) (fun Z9=>?_)))))
 ·exact ar (Zm (ZP (.b false) (lb (by rw [WS,decide_eq_false om];rfl))))
 refine ak (YO 1 (iw (Us ds) (Z1 (ab 0 (Y5 (fun fz gz m F h=>∃(k:Nat),(k<=ds.length)/\(UW ds (ds.drop k) k=UW ds ds 0)/\F=sF [0,12,13] fz [(14,.i k)]/\h=gz/\m=ds.length-k) _ _ _ ⟨0,ob,rfl,rfl,rfl,rfl⟩ (wk [] (Ye fl)) ?_)))))
 rintro m F h ⟨k,Yl,Zj,rfl,rfl,rfl⟩
 refine Y1 (aq (WZ ((k:Int)<(ds.length:Int)) (fun Zh=>?_) (fun Zh=>?_)))
 ·refine ak (aq (ab 1 (Ya 1 ?_)))
  obtain ⟨x1,Z4⟩:=Zv ds k om
  have hz1:=hz.cons_at Z4
  refine Zq (Zk none (k:Int) 3 (Vw Z4)) (Z0 1 (iA [.i 0,.i 0,nl] fun b1=>Z0 1 (Zz 0 b1 (Cq x1) (ie (Yr 3 [0] (Zt [] (Ga ds x1.frm) (YK 12 [0,3,4,12,13,14] [(30,.b ((!(decide (0<=x1.frm/\x1.frm<=ds.length)))||(!(decide (0<=x1.to_/\x1.to_<=ds.length)))))] (fun gz=>gz) ?_ (fun hj1=>?_))))))))
  ·refine YK 18 [0,3,4,12,13,14] [(36,.b (((!(decide (0<=x1.frm/\x1.frm<=ds.length)))||(!(decide (0<=x1.to_/\x1.to_<=ds.length))))||(decide ((x1.cons.length:Int)>3))))] (fun gz=>gz) ?_ (fun hj2=>?_)
   ·refine Xn [0,3,4,12,13,14] [(52,.b ((((!(decide (0<=x1.frm/\x1.frm<=ds.length)))||(!(decide (0<=x1.to_/\x1.to_<=ds.length))))||(decide ((x1.cons.length:Int)>3)))||((decide ((x1.cons.length:Int)>0))&&((x1.frm != 0)||(x1.to_ != 0)))))] (fun gz=>gz) ?_ ?_
    ·refine Z0 1 (ib (b:=(((!(decide (0<=x1.frm/\x1.frm<=ds.length)))||(!(decide (0<=x1.to_/\x1.to_<=ds.length))))||(decide ((x1.cons.length:Int)>3)))) 37 (fun Za=>?_) (fun Za=>?_))
     ·have Y3:((¬(0<=x1.frm/\x1.frm<=ds.length))∨(¬(0<=x1.to_/\x1.to_<=ds.length)))∨((x1.cons.length:Int)>3):=((ZB (ZB (Yg dq) (Yg dq)) dq)).1 Za
      exact Z1 (wk [0] (Zf true Za fl))
     have Yq:¬(((¬(0<=x1.frm/\x1.frm<=ds.length))∨(¬(0<=x1.to_/\x1.to_<=ds.length)))∨((x1.cons.length:Int)>3)):=ZV (ZB (ZB (Yg dq) (Yg dq)) dq) Za
     refine Zu 2 [0] (iw (UY x1.cons) (Z0 2 (ib (b:=(decide ((x1.cons.length:Int)>0))) 42 (fun ZA=>?_) (fun ZA=>?_))))
     ·have YR:(x1.cons.length:Int)>0:=(dq).1 ZA
      refine Zu 4 [0] (ib (b:=(x1.frm != 0)) 46 (fun Yf=>?_) (fun Yf=>?_))
      ·have X1:x1.frm≠0:=(Yi).1 Yf
       exact Z1 (wk [0] (Zf true (And.intro Za (And.intro ZA Yf)) fl))
      have Xe:¬(x1.frm≠0):=ZV Yi Yf
      exact WI [0] (wk [0] (Zf (x1.to_ != 0) (And.intro Za (And.intro ZA Yf)) fl))
     have XO:¬((x1.cons.length:Int)>0):=ZV dq ZA
     exact Z1 (wk [0] (Zf false (And.intro Za ZA) fl))
    refine ac ((((!(decide (0<=x1.frm/\x1.frm<=ds.length)))||(!(decide (0<=x1.to_/\x1.to_<=ds.length))))||(decide ((x1.cons.length:Int)>3)))||((decide ((x1.cons.length:Int)>0))&&((x1.frm != 0)||(x1.to_ != 0)))) (p:=(((¬(0<=x1.frm/\x1.frm<=ds.length))∨(¬(0<=x1.to_/\x1.to_<=ds.length)))∨((x1.cons.length:Int)>3))∨(((x1.cons.length:Int)>0)/\((x1.frm≠0)∨(x1.to_≠0)))) (ZB (ZB (ZB (Yg dq) (Yg dq)) dq) (Y2 dq (ZB Yi Yi))) (fun ZC=>?_) (fun ZC=>?_)
    ·exact ar (Zm (ZP (.b false) (lb (Mj Z4 (Z3k ZC) Zj))))
    refine ak (Yr 2 [0] (iw (UY x1.cons) (Z1 (ab 2 (Y5 (fun fz gz m F h=>∃(q:Nat),(q<=x1.cons.length)/\(Tw ds.length (x1.cons.drop q)=Tw ds.length x1.cons)/\F=sF [0,3,4,12,13,14,54,55] fz [(56,.i q)]/\h=gz/\m=x1.cons.length-q) _ _ _ ⟨0,ob,rfl,rfl,rfl,rfl⟩ (wk [0] (Ye fl)) ?_)))))
    rintro m F h ⟨q,U8,Wf,rfl,rfl,rfl⟩
    refine Y1 (aq (WZ ((q:Int)<(x1.cons.length:Int)) (fun Yh=>?_) (fun Yh=>?_)))
    ·refine ak (aq (ab 3 (ar ?_)))
     obtain ⟨x2,Zy⟩:=Zv x1.cons q om
     refine Zq (Zk none (q:Int) 1 (Ca Zy)) (Z0 1 (iA [nl] fun b2=>Zz 0 b2 (P4 x2) (ie (Zp 2 [0] (iw (Yc x2.fields) (Xn [0,3,4,12,13,14,54,55,56] [(70,.b ((decide ((x2.fields.length:Int)>3))||(!Wm ds.length x2.fields)))] (fun gz=>gz) ?_ ?_))))))
     ·refine Z0 2 (ib (b:=(decide ((x2.fields.length:Int)>3))) 64 (fun YQ=>?_) (fun YQ=>?_))
      ·have W9:(x2.fields.length:Int)>3:=(dq).1 YQ
       exact Z1 (wk [0,0] (Zf true YQ fl))
      have WB:¬((x2.fields.length:Int)>3):=ZV dq YQ
      exact Zu 3 [0] (Zt [] (OI ds x2.fields) (Z1 (wk [0,0] (Zf (!Wm ds.length x2.fields) YQ fl))))
     refine ac ((decide ((x2.fields.length:Int)>3))||(!Wm ds.length x2.fields)) (p:=((x2.fields.length:Int)>3)∨(¬(Wm ds.length x2.fields=true))) (ZB dq (Yg Iff.rfl)) (fun YJ=>?_) (fun YJ=>?_)
     ·exact ar (Zm (ZP (.b false) (lb (Mj Z4 (Z3l om (by rw [<-Wf,Yo Zy,Tw,Zd (by rw [Z2t YJ];simp)])) Zj))))
     refine ak (az (ZK q (Z1 ?_)))
     have hdr:=Yo Zy
     exact ZM ⟨q+1,ob,(by rw [Yo Zy,Tw,Zl (Z2u YJ)] at Wf;exact Wf),rfl,rfl,rfl⟩ (wk [1] (ZW q fl))
    have hC:Tw ds.length x1.cons=true:=by rw [<-Wf,Xt om];rfl
    refine ax 2 (Ya 2 (Zq (AY (es:=YU ds) (hv:=none) (l:=0) (m:=(k:Int)) (sz:=3) (es':=YU (ds.take k)) kr om (by simp<;>omega) (by simp<;>omega) (K4 _) (by first|(simp only [Tc,Uk,CZ,CY];done)|(simp only [Tc,Uk,CZ,CY];rfl)|(simp [CZ,CY];done))) (io (.i (((ds.take k).length:Nat):Int)) (.i (((YU (ds.take k)).length:Nat):Int)) (li (by rw [Us])) (Z1 (ab 4 (Y5 (fun fz gz m F h=>∃(j:Nat),(j<=k)/\(x1.cons.length=0->QB x1 ((ds.take k).drop j)=QB x1 (ds.take k))/\F=sF [0,4,12,13,14,74,75] fz [(76,.i j)]/\h=gz/\m=k-j) _ _ _ ⟨0,ob,ob,rfl,rfl,rfl⟩ (wk [0] (Ye fl)) ?_))))))
    rintro m F h ⟨j,Fv,BY,rfl,rfl,rfl⟩
    refine Y1 (aq (WZ ((j:Int)<(((ds.take k).length:Nat):Int)) (fun X2=>?_) (fun X2=>?_)))
    ·have htl:(ds.take k).length<=k:=by rw [Wh];omega
     refine ak (aq (ab 5 (ar ?_)))
     obtain ⟨x3,YX⟩:=Zv (ds.take k) j om
     refine Zq (Zk none (j:Int) 3 (Vw YX)) (Z0 1 (iA [.i 0,.i 0,nl] fun b3=>Zz 0 b3 (Cq x3) (ie (Zp 2 [1] (iw (UY x1.cons) (YK 10 [0,4,8,12,13,14,74,75,76] [(89,.b (((x1.cons.length:Int)==0)&&((x3.cons.length:Int)==0)))] (fun gz=>gz) ?_ (fun hj3=>?_)))))))
     ·refine YK 17 [0,4,8,12,13,14,74,75,76] [(96,.b ((((x1.cons.length:Int)==0)&&((x3.cons.length:Int)==0))&&(x3.frm==x1.frm)))] (fun gz=>gz) ?_ (fun hj4=>?_)
      ·refine Xn [0,4,12,13,14,74,75,76] [(103,.b (((((x1.cons.length:Int)==0)&&((x3.cons.length:Int)==0))&&(x3.frm==x1.frm))&&(x3.to_==x1.to_)))] (fun gz=>gz) ?_ ?_
       ·refine Z0 1 (ib (b:=((((x1.cons.length:Int)==0)&&((x3.cons.length:Int)==0))&&(x3.frm==x1.frm))) 97 (fun Xd=>?_) (fun Xd=>?_))
        ·have WY:(((x1.cons.length:Int)=0)/\((x3.cons.length:Int)=0))/\(x3.frm=x1.frm):=((Y2 (Y2 Zb Zb) Zb)).1 Xd
         exact WI [0,1] (wk [0,0] (Zf (x3.to_==x1.to_) Xd fl))
        have U5:¬((((x1.cons.length:Int)=0)/\((x3.cons.length:Int)=0))/\(x3.frm=x1.frm)):=ZV (Y2 (Y2 Zb Zb) Zb) Xd
        exact Z1 (wk [0,0] (Zf false Xd fl))
       refine ac (((((x1.cons.length:Int)==0)&&((x3.cons.length:Int)==0))&&(x3.frm==x1.frm))&&(x3.to_==x1.to_)) (p:=((((x1.cons.length:Int)=0)/\((x3.cons.length:Int)=0))/\(x3.frm=x1.frm))/\(x3.to_=x1.to_)) (Y2 (Y2 (Y2 Zb Zb) Zb) Zb) (fun Wx=>?_) (fun Wx=>?_)
       ·exact ar (Zm (ZP (.b false) (lb (Mj Z4 (Z3m om (by rw [<-BY om,Yo YX,QB,Zl om])) Zj))))
       exact ak (az (ZK j (Z1 (ZM ⟨j+1,ob,(fun q=>by have hq:=BY q;rw [Yo YX,QB,Zd om] at hq;exact hq),rfl,rfl,rfl⟩ (wk [1] (ZW j fl))))))
      refine Z0 1 (ib (b:=(((x1.cons.length:Int)==0)&&((x3.cons.length:Int)==0))) 90 (fun Xw=>?_) (fun Xw=>?_))
      ·have Uy:((x1.cons.length:Int)=0)/\((x3.cons.length:Int)=0):=((Y2 Zb Zb)).1 Xw
       exact Zu 6 [0,1] (ZJ (wk [0,0] (Zf (x3.frm==x1.frm) Xw fl)) hj4)
      have Ub:¬(((x1.cons.length:Int)=0)/\((x3.cons.length:Int)=0)):=ZV (Y2 Zb Zb) Xw
      exact Z0 6 (ZJ (wk [0,0] (Zf false Xw fl)) hj4)
     refine Z0 2 (ib (b:=((x1.cons.length:Int)==0)) 84 (fun XT=>?_) (fun XT=>?_))
     ·have TM:(x1.cons.length:Int)=0:=(Zb).1 XT
      exact Zu 2 [0] (iw (UY x3.cons) (Z0 2 (ZJ (wk [0,0] (Zf ((x3.cons.length:Int)==0) XT fl)) hj3)))
     have Tm:¬((x1.cons.length:Int)=0):=ZV Zb XT
     exact Z0 5 (ZJ (wk [0,0] (Zf false XT fl)) hj3)
    have htl:(ds.take k).length=k:=by rw [Wh];omega
    have hD:x1.cons.length=0->QB x1 (ds.take k)=false:=fun q=>by rw [<-BY q,Xt om];rfl
    refine ax 4 (az (ZK k (Z1 ?_)))
    have hdr:=Yo Z4
    exact ZM ⟨k+1,ob,(Zg6 Z4 (Z3n ZC hC hD) Zj),rfl,rfl,rfl⟩ (wk [] (ZW k fl))
   refine Z0 1 (ib (b:=((!(decide (0<=x1.frm/\x1.frm<=ds.length)))||(!(decide (0<=x1.to_/\x1.to_<=ds.length))))) 31 (fun XX=>?_) (fun XX=>?_))
   ·have UN:(¬(0<=x1.frm/\x1.frm<=ds.length))∨(¬(0<=x1.to_/\x1.to_<=ds.length)):=((ZB (Yg dq) (Yg dq))).1 XX
    exact Z0 5 (ZJ (wk [0] (Zf true XX fl)) hj2)
   have QJ:¬((¬(0<=x1.frm/\x1.frm<=ds.length))∨(¬(0<=x1.to_/\x1.to_<=ds.length))):=ZV (ZB (Yg dq) (Yg dq)) XX
   exact Zu 2 [0] (iw (UY x1.cons) (Z0 2 (ZJ (wk [0] (Zf (decide ((x1.cons.length:Int)>3)) XX fl)) hj2)))
  refine Z0 2 (ib (b:=(!(decide (0<=x1.frm/\x1.frm<=ds.length)))) 24 (fun Wc=>?_) (fun Wc=>?_))
  ·have AL:¬(0<=x1.frm/\x1.frm<=ds.length):=((Yg dq)).1 Wc
   exact Z0 6 (ZJ (wk [0] (Zf true Wc fl)) hj1)
  have Jl:¬(¬(0<=x1.frm/\x1.frm<=ds.length)):=ZV (Yg dq) Wc
  exact Zu 3 [0] (Zt [] (Ga ds x1.to_) (Z0 2 (ZJ (wk [0] (Zf (!(decide (0<=x1.to_/\x1.to_<=ds.length))) Wc fl)) hj1)))
 exact ax 0 (ar (Zm (ZP (.b true) (lb (Zg5 om om Zj)))))
theorem Z8x (ds:List Ze) (fs:List Vv) (hz:Qv ds:=by exact ob) (hf:∀f∈fs,f.pms.length<=4194304/\f.lnt.length<=4194304) (hfl:fs.length<=4194304:=by exact ob):Zo 76 [Yd ds,Kc fs] [] (Ym (.b (TX ds fs))):=by
 have hzl:=hz.len
 refine ZE 102 Tryz.func76 (Y1 (YO 1 (Zt [] (Z8f ds) (YK 8 [0,1] [(16,.b ((!WS ds)||(decide ((fs.length:Int)<1))))] (fun gz=>gz) ?_ (fun hj1=>?_)))))
 ·refine YK 13 [0,1] [(21,.b (((!WS ds)||(decide ((fs.length:Int)<1)))||(decide ((fs.length:Int)>4))))] (fun gz=>gz) ?_ (fun hj2=>?_)
  ·refine Z0 1 (ib (b:=(((!WS ds)||(decide ((fs.length:Int)<1)))||(decide ((fs.length:Int)>4)))) 22 (fun Za=>?_) (fun Za=>?_))
   ·have Y3:((¬(WS ds=true))∨((fs.length:Int)<1))∨((fs.length:Int)>4):=((ZB (ZB (Yg Iff.rfl) dq) dq)).1 Za
    exact Z1 (Vn (ar (Zm (ZP (.b false) (lb (Zgb (by assumption)))))))
   have Yq:¬(((¬(WS ds=true))∨((fs.length:Int)<1))∨((fs.length:Int)>4)):=ZV (ZB (ZB (Yg Iff.rfl) dq) dq) Za
   refine Z0 1 ?_
   obtain ⟨x1,Z4⟩:=Zv fs 0 om
   refine Zq (Zk none 0 3 (D7 Z4)) (Z0 2 (iw (Yc x1.pms) (Z0 3 (ib (b:=(decide ((x1.pms.length:Int)>0))) 30 (fun ZA=>?_) (fun ZA=>?_)))))
   ·have YR:(x1.pms.length:Int)>0:=(dq).1 ZA
    exact Z1 (Vn (ar (Zm (ZP (.b false) (lb (Z0b Z4 (.inl (by assumption))))))))
   have X1:¬((x1.pms.length:Int)>0):=ZV dq ZA
   refine Z0 1 (Zq (Zk none 0 3 (D7 Z4)) (Yz (x1.res != 0) Yi (fun Z9=>?_) (fun Z9=>?_)))
   ·exact ar (Zm (ZP (.b false) (lb (Z0b Z4 (.inr Z9)))))
   refine ak (YO 1 (iw (Ea fs) (Z1 (ab 0 (Y5 (fun fz gz m F h=>∃(k:Nat),(k<=fs.length)/\(Kh ds.length (fs.drop k)=Kh ds.length fs)/\F=sF [0,37,38] fz [(39,.i k)]/\h=gz/\m=fs.length-k) _ _ _ ⟨0,ob,ob,rfl,rfl,rfl⟩ (wk [] (Ye fl)) ?_)))))
   rintro m F h ⟨k,Yl,Zj,rfl,rfl,rfl⟩
   refine Y1 (aq (WZ ((k:Int)<(fs.length:Int)) (fun Zh=>?_) (fun Zh=>?_)))
   ·refine ak (aq (ab 1 (ar ?_)))
    obtain ⟨x2,Zy⟩:=Zv fs k om
    have hf2:=hf _ (Y4 Zy)
    refine Zq (Zk none (k:Int) 3 (D7 Zy)) (Z0 1 (iA [nl,nl,.i 0] fun b1=>Zz 0 b1 (P5 x2) (ie (Yr 2 [0] (iw (Yc x2.pms) (YK 11 [0,6,37,38,39] [(53,.b ((decide ((x2.pms.length:Int)>3))||(!Wm ds.length x2.pms)))] (fun gz=>gz) ?_ (fun hj3=>?_)))))))
    ·refine Xn [0,6,37,38,39] [(60,.b (((decide ((x2.pms.length:Int)>3))||(!Wm ds.length x2.pms))||(!(decide (0<=x2.res/\x2.res<=ds.length)))))] (fun gz=>gz) ?_ ?_
     ·refine Z0 1 (ib (b:=((decide ((x2.pms.length:Int)>3))||(!Wm ds.length x2.pms))) 54 (fun Yf=>?_) (fun Yf=>?_))
      ·have Xe:((x2.pms.length:Int)>3)∨(¬(Wm ds.length x2.pms=true)):=((ZB dq (Yg Iff.rfl))).1 Yf
       exact Z1 (wk [0] (Zf true Yf fl))
      have XO:¬(((x2.pms.length:Int)>3)∨(¬(Wm ds.length x2.pms=true))):=ZV (ZB dq (Yg Iff.rfl)) Yf
      exact Zu 3 [0] (Zt [] (Ga ds x2.res) (Z1 (wk [0] (Zf (!(decide (0<=x2.res/\x2.res<=ds.length))) Yf fl))))
     refine ac (((decide ((x2.pms.length:Int)>3))||(!Wm ds.length x2.pms))||(!(decide (0<=x2.res/\x2.res<=ds.length)))) (p:=(((x2.pms.length:Int)>3)∨(¬(Wm ds.length x2.pms=true)))∨(¬(0<=x2.res/\x2.res<=ds.length))) (ZB (ZB dq (Yg Iff.rfl)) (Yg dq)) (fun ZC=>?_) (fun ZC=>?_)
     ·exact ar (Zm (ZP (.b false) (lb (Hm (GZ Zy (Zcx ZC) Zj)))))
     refine ak (Zp 2 [0] (iw (Yc x2.lnt) (Z1 (ab 2 (Y5 (fun fz gz m F h=>∃(j:Nat),(j<=x2.lnt.length)/\(Kb x2.pms (x2.lnt.drop j) (if j=0 then none else x2.lnt[j-1]?)=Uj x2.pms x2.lnt)/\F=sF [0,6,37,38,39,62,63] fz [(64,.i j)]/\h=gz/\m=x2.lnt.length-j) _ _ _ ⟨0,ob,(by rfl),rfl,rfl,rfl⟩ (wk [0] (Ye fl)) ?_)))))
     rintro m F h ⟨j,U8,Wf,rfl,rfl,rfl⟩
     refine Y1 (aq (WZ ((j:Int)<(x2.lnt.length:Int)) (fun Yh=>?_) (fun Yh=>?_)))
     ·refine ak (aq (ab 3 (Ya 1 ?_)))
      obtain ⟨x3,YX⟩:=Zv x2.lnt j om
      refine Zq (Zk none (j:Int) 1 (Y7 YX)) (Z1 (ar (YK 9 [0,6,7,8,37,38,39,62,63,64] [(77,.b ((decide (x3<0))||(decide (x3>=(x2.pms.length:Int)))))] (fun gz=>gz) ?_ (fun hj4=>?_))))
      ·refine Z0 1 (ib (b:=((decide (x3<0))||(decide (x3>=(x2.pms.length:Int))))) 78 (fun YQ=>?_) (fun YQ=>?_))
       ·have W9:(x3<0)∨(x3>=(x2.pms.length:Int)):=((ZB dq dq)).1 YQ
        exact Z1 (Vn (ar (Zm (ZP (.b false) (lb (Hm (GZ Zy (LP (Li YX (by rintro ⟨q1,q2,q3⟩;first|omega|(rw [Uz] at q2;exact q2 (Yj some om))|(have:=q3 _ (by rw [Zd om];exact Tn);omega)) Wf)) Zj)))))))
       have WB:¬((x3<0)∨(x3>=(x2.pms.length:Int))):=ZV (ZB dq dq) YQ
       refine Zu 3 [0] ?_
       obtain ⟨x4,Uz⟩:=Zv x2.pms x3.toNat om
       refine Zq (Zk none x3 1 (Y7 Uz)) (Z0 4 (ib (b:=(x4==0)) 86 (fun Xd=>?_) (fun Xd=>?_)))
       ·have WY:x4=0:=(Zb).1 Xd
        exact Z1 (Vn (ar (Zm (ZP (.b false) (lb (Hm (GZ Zy (LP (Li YX (by rintro ⟨q1,q2,q3⟩;first|omega|(rw [Uz] at q2;exact q2 (Yj some om))|(have:=q3 _ (by rw [Zd om];exact Tn);omega)) Wf)) Zj)))))))
       have U5:¬(x4=0):=ZV Zb Xd
       refine Z0 3 (ib (b:=(decide ((j:Int)>0))) 89 (fun Xw=>?_) (fun Xw=>?_))
       ·have Uy:(j:Int)>0:=(dq).1 Xw
        refine Zu 4 [0] (ia (((j-1:Nat):Int)) (((j:Int))-(1)) ?_)
        obtain ⟨x5,Tn⟩:=Zv x2.lnt (j-1) om
        refine Zq (Zk none ((j-1:Nat):Int) 1 (Y7 Tn)) (Y0 (x3<=x5) (fun YJ=>?_) (fun YJ=>?_))
        ·exact ar (Zm (ZP (.b false) (lb (Hm (GZ Zy (LP (Li YX (by rintro ⟨q1,q2,q3⟩;first|omega|(rw [Uz] at q2;exact q2 (Yj some om))|(have:=q3 _ (by rw [Zd om];exact Tn);omega)) Wf)) Zj)))))
        refine ak (az (ZK j (Z1 ?_)))
        have hdr:=Yo YX
        exact ZM ⟨j+1,ob,(Pg YX ⟨by omega,(by rw [Uz];intro q;cases q;omega),fun p hp=>by first|(rw [Zl om] at hp;cases hp;done)|(rw [Zd om,Tn] at hp;cases hp;omega)⟩ Wf),rfl,rfl,rfl⟩ (wk [0] (ZW j fl))
       have Ub:¬((j:Int)>0):=ZV dq Xw
       refine Z1 (WW (ak (az (ZK j (Z1 ?_)))))
       have hdr:=Yo YX
       exact ZM ⟨j+1,ob,(Pg YX ⟨by omega,(by rw [Uz];intro q;cases q;omega),fun p hp=>by first|(rw [Zl om] at hp;cases hp;done)|(rw [Zd om,Tn] at hp;cases hp;omega)⟩ Wf),rfl,rfl,rfl⟩ (wk [0] (ZW j fl))
      refine Z0 3 (ib (b:=(decide (x3<0))) 71 (fun XT=>?_) (fun XT=>?_))
      ·have TM:x3<0:=(dq).1 XT
       exact Z0 6 (ZJ (wk [0] (Zf true XT fl)) hj4)
      have Tm:¬(x3<0):=ZV dq XT
      exact Zu 3 [0] (iw (Yc x2.pms) (Z0 2 (ZJ (wk [0] (Zf (decide (x3>=(x2.pms.length:Int))) XT fl)) hj4)))
     have hL:Uj x2.pms x2.lnt=true:=by rw [<-Wf,Xt om];rfl
     have hS:=Zcy ZC hL
     refine ax 2 (az (ZK k (Z1 ?_)))
     have hdr:=Yo Zy
     exact ZM ⟨k+1,ob,(Zdb Zy hS Zj),rfl,rfl,rfl⟩ (wk [] (ZW k fl))
    refine Z0 2 (ib (b:=(decide ((x2.pms.length:Int)>3))) 47 (fun XX=>?_) (fun XX=>?_))
    ·have UN:(x2.pms.length:Int)>3:=(dq).1 XX
     exact Z0 6 (ZJ (wk [0] (Zf true XX fl)) hj3)
    have QJ:¬((x2.pms.length:Int)>3):=ZV dq XX
    exact Zu 3 [0] (Zt [] (OI ds x2.pms) (Z0 2 (ZJ (wk [0] (Zf (!Wm ds.length x2.pms) XX fl)) hj3)))
   exact ax 0 (ar (Zm (ZP (.b true) (lb (Zgc (by assumption) Z4 (by assumption) Z9 (by rw [<-Zj,Xt om];rfl))))))
  refine Z0 1 (ib (b:=((!WS ds)||(decide ((fs.length:Int)<1)))) 17 (fun Wc=>?_) (fun Wc=>?_))
  ·have AL:(¬(WS ds=true))∨((fs.length:Int)<1):=((ZB (Yg Iff.rfl) dq)).1 Wc
   exact Z0 4 (ZJ (wk [] (Zf true Wc fl)) hj2)
  have Jl:¬((¬(WS ds=true))∨((fs.length:Int)<1)):=ZV (ZB (Yg Iff.rfl) dq) Wc
  exact Z0 1 (iw (Ea fs) (Z0 2 (ZJ (wk [] (Zf (decide ((fs.length:Int)>4)) Wc fl)) hj2)))
 refine Z0 2 (ib (b:=(!WS ds)) 12 (fun WX=>?_) (fun WX=>?_))
 ·have Em:¬(WS ds=true):=((Yg Iff.rfl)).1 WX
  exact Z0 4 (ZJ (wk [] (Zf true WX fl)) hj1)
 have En:¬(¬(WS ds=true)):=ZV (Yg Iff.rfl) WX
 exact Z0 1 (iw (Ea fs) (Z0 2 (ZJ (wk [] (Zf (decide ((fs.length:Int)<1)) WX fl)) hj1)))
theorem Z8n (im:YG) (lz:Nat) (hz:IZ im lz:=by exact ob) (hlz:lz<=100:=by exact ob):Zo 43 [V0 im] [] (fun r h=>(r=.tup [.agg [Yd im.decls,Kc (im.procs.map W3)],.b (TX im.decls (im.procs.map W3))]/\h=[]/\im.procs.length<=4)∨(r=.tup [.agg [Yd [],Kc []],.b false]/\h=[]/\¬im.procs.length<=4)):=by
 have hzl:=hz.len
 have hds:=hz.decls.sz
 refine ZE 41 Tryz.func43 (ar (iA (V4 im) fun b1=>iA [nl,nl] fun b2=>Z1 (Yr 2 [1] (iw (JY im.procs) (Y0 ((im.procs.length:Int)>4) (fun Z9=>?_) (fun Z9=>?_))))))
 ·exact Ya 1 (Zz 0 b2 [nl,nl] (Zm (r3 [] [.agg [nl,nl],.b false] [0] [(b2,b2)] (.inr ⟨rfl,rfl,ob⟩) (Zc.tup (.cons (Zc.agg (.cons (Zc.sl _ rfl) (.cons (Zc.sl _ rfl) .nil))) (.cons (lr _) .nil))))))
 refine ak (Zp 3 [1] (iA [nl,nl] fun b3=>?_))
 refine Zz 0 b3 [Yd im.decls,nl] (ie (Yr 2 [2] (iw (JY im.procs) (Z1 (ab 0 (HG 3 (Y5 (fun fz gz m F h=>∃(k:Nat) (v:Value),(k<=im.procs.length)/\F=sF [1,2,4,16,17] fz [(18,.i k)]/\h=[.obj b3 [Yd im.decls,Gv ((im.procs.take k).map W3) v],Zi gz 2,Zi gz 3,.tail v 3]/\m=im.procs.length-k) _ _ _ ⟨0,(.slice none 0 0),ob,rfl,rfl,rfl⟩ (wk [1,1,1,0] (Ye fl)) ?_)))))))
 rintro m F h ⟨k,v,Yl,rfl,rfl,rfl⟩
 refine Y1 (aq (WZ ((k:Int)<(im.procs.length:Int)) (fun Zh=>?_) (fun Zh=>?_)))
 ·refine ak (aq (ab 1 (ar ?_)))
  obtain ⟨x1,Z4⟩:=Zv im.procs k om
  exact Zq (Zk none (k:Int) 5 (Ky Z4)) (Z0 1 (iA [nl,nl,.i 0,.i 0,nl] fun b4=>Zz 0 b4 (UO x1) (ie (az (Zu 9 [1,0,0,0] (iL (T1 [Vv.mk x1.params x1.lent x1.result]) 1 3 fun v1=>ZU 0 [(31,Kc [Vv.mk x1.params x1.lent x1.result])] (ip 5 (T1 ((im.procs.take (k+1)).map W3)) (T1 ((im.procs.take k).map W3)) (T1 [Vv.mk x1.params x1.lent x1.result]) v none 3 (Nq _) (Nq _) (Z42 _) (by simp<;>omega) (by rw [V9 Z4];simp [T1,W3]) fun v2=>Z0 1 (Zz 3 b3 [Yd im.decls,Gv ((im.procs.take (k+1)).map W3) v2] (ie (az (ZK k (Z1 (ZM ⟨k+1,v2,ob,rfl,rfl,rfl⟩ (wk [0,3,3,0] (ZW k fl)))))))))))))))
 refine ax 0 (aD 8 (CX 3 8 [0,1,2,3,4] [(39,Kc ((im.procs.take k).map W3))] [0,2,0] (Z8 5 (YF 5 [] [0] [b3] (Z8x im.decls ((im.procs.take k).map W3) (hz:=hds) (hf:=(by intro f hf;obtain ⟨r,h1,rfl⟩:=XN.1 hf;have q:=hz.procs r (Qt h1);have:=q.params;have:=q.lent;exact ⟨by show r.params.length<=_;omega,by show r.lent.length<=_;omega⟩)) (hfl:=(by rw [J2,Wh];omega))) (Z8 6 (YT 6 1 [] [] b2 [Yd im.decls,Gv ((im.procs.take k).map W3) v] (Zs 0 1 [7] (de ?_))))))))
 have htk:im.procs.take k=im.procs:=WT om
 exact at_ (r3 [] [.agg [Yd im.decls,Gv ((im.procs.take k).map W3) v],.b (TX im.decls ((im.procs.take k).map W3))] [0] [(b2,b2)] (.inl ⟨rfl,rfl,ob⟩) (Zc.tup (.cons (Zc.agg (.cons (lr _) (.cons (Zc.sl _ (Yj T1 (by rw [htk]))) .nil))) (.cons (lb (by rw [htk])) .nil))))
theorem Z8t (op:Int) :Zo 77 [.i op] [] (fun r h=>r=.b (decide (((0<=op/\op<=11)∨op=18)∨op=19))/\h=[]):=by
 refine ZE 17 Tryz.func77 (Y1 (ar (YK 6 [0] [(8,.b ((decide (op>=0))&&(decide (op<=11))))] (fun gz=>gz) ?_ (fun hj1=>?_))))
 ·refine YK 10 [0] [(12,.b (((decide (op>=0))&&(decide (op<=11)))||(op==18)))] (fun gz=>gz) ?_ (fun hj2=>?_)
  ·refine YK 14 [] [(16,.b ((((decide (op>=0))&&(decide (op<=11)))||(op==18))||(op==19)))] (fun gz=>gz) ?_ (fun hj3=>?_)
   ·exact Zm (ZP (.b ((((decide (op>=0))&&(decide (op<=11)))||(op==18))||(op==19))) (lb (by rw [Yb];simp)))
   refine Z0 1 (ib (b:=(((decide (op>=0))&&(decide (op<=11)))||(op==18))) 13 (fun Za=>?_) (fun Za=>?_))
   ·have Y3:((op>=0)/\(op<=11))∨(op=18):=((ZB (Y2 dq dq) Zb)).1 Za
    exact Z0 3 (ZJ (wk [] (Zf true Za fl)) hj3)
   have Yq:¬(((op>=0)/\(op<=11))∨(op=18)):=ZV (ZB (Y2 dq dq) Zb) Za
   exact Z0 3 (ZJ (wk [] (Zf (op==19) Za fl)) hj3)
  refine Z0 1 (ib (b:=((decide (op>=0))&&(decide (op<=11)))) 9 (fun ZA=>?_) (fun ZA=>?_))
  ·have YR:(op>=0)/\(op<=11):=((Y2 dq dq)).1 ZA
   exact Z0 3 (ZJ (wk [] (Zf true ZA fl)) hj2)
  have X1:¬((op>=0)/\(op<=11)):=ZV (Y2 dq dq) ZA
  exact Z0 3 (ZJ (wk [] (Zf (op==18) ZA fl)) hj2)
 refine Z0 3 (ib (b:=(decide (op>=0))) 5 (fun Yf=>?_) (fun Yf=>?_))
 ·have Xe:op>=0:=(dq).1 Yf
  exact Z0 3 (ZJ (wk [] (Zf (decide (op<=11)) Yf fl)) hj1)
 have XO:¬(op>=0):=ZV dq Yf
 exact Z0 3 (ZJ (wk [] (Zf false Yf fl)) hj1)
theorem OL (p:ZZ) (k:Nat) (a:Int) (kb:Nat) (pb:Nat) (hcl:p.code.length<=200000000:=by exact ob):Zo 78 [.i a,.p kb 0,.p pb 0] [.obj kb [.i k],.obj pb (UO p)] (fun r h=>r=.b (decide ((k:Int)<a/\a<p.code.length))/\h=[.obj kb [.i k],.obj pb (UO p)]):=by
 refine ZE 15 Tryz.func78 (Y1 (ar (YK 10 [] [(14,.b ((decide (a>(k:Int)))&&(decide (a<(p.code.length:Int)))))] (fun gz=>gz) ?_ (fun hj1=>?_))))
 ·exact Zm (r2 [0,0] [.b ((decide (a>(k:Int)))&&(decide (a<(p.code.length:Int))))] ⟨rfl,rfl⟩ (lb (by rw [Yb];simp)))
 refine Zu 4 [0] (ib (b:=(decide (a>(k:Int)))) 8 (fun Za=>?_) (fun Za=>?_))
 ·have Y3:a>(k:Int):=(dq).1 Za
  exact Zu 3 [1] (iw (QD p.code) (Z0 2 (ZJ (wk [0,0] (Zf (decide (a<(p.code.length:Int))) Za fl)) hj1)))
 have Yq:¬(a>(k:Int)):=ZV dq Za
 exact Z0 6 (ZJ (wk [0,0] (Zf false Za fl)) hj1)
theorem Z8r (p:ZZ) (k:Nat) (a:Int) (kb:Nat) (pb:Nat) (fb:Nat) (hcl:p.code.length<=200000000:=by exact ob):Zo 80 [.i a,.p fb 0] [.obj fb [.val (.func (.func 78) #[] #[.pointer (some ⟨kb,0,none⟩),.pointer (some ⟨pb,0,none⟩)])],.obj kb [.i k],.obj pb (UO p)] (fun r h=>r=.b (decide (¬((k:Int)<a/\a<p.code.length)))/\h=[.obj fb [.val (.func (.func 78) #[] #[.pointer (some ⟨kb,0,none⟩),.pointer (some ⟨pb,0,none⟩)])],.obj kb [.i k],.obj pb (UO p)]):=by
 exact ZE 8 Tryz.func80 (Y1 (Zp 2 [0] (Zt [1,1] (OL _ k a kb pb) (Zm (r2 [2,0,0] [.b (!(decide ((k:Int)<a/\a<p.code.length)))] ⟨rfl,rfl⟩ (lb (by rw [Yb];simp)))))))
theorem Z8o (p:ZZ) (k:Nat) (xs:LI) (kb:Nat) (pb:Nat) (fb:Nat) (hcl:p.code.length<=200000000:=by exact ob) (hl:xs.length<=1000000:=by exact ob):Zo 125 [Z3 xs,.val (.func (.func 80) #[] #[.pointer (some ⟨fb,0,none⟩)])] [.obj fb [.val (.func (.func 78) #[] #[.pointer (some ⟨kb,0,none⟩),.pointer (some ⟨pb,0,none⟩)])],.obj kb [.i k],.obj pb (UO p)] (fun r h=>∃(z:Int),r=.i z/\h=[.obj fb [.val (.func (.func 78) #[] #[.pointer (some ⟨kb,0,none⟩),.pointer (some ⟨pb,0,none⟩)])],.obj kb [.i k],.obj pb (UO p)]/\(decide (z>=0)=!Wd k p.code.length xs)):=by
 refine ZE 19 Tryz.func125 (Y1 (YO 1 (iw (Yc xs) (Z1 (ab 0 (Y5 (fun fz gz m F h=>∃(j:Nat),(j<=xs.length)/\(Wd k p.code.length (xs.drop j)=Wd k p.code.length xs)/\F=sF [0,1,7] fz [(8,.i j)]/\h=gz/\m=xs.length-j) _ _ _ ⟨0,ob,rfl,rfl,rfl,rfl⟩ (Zw 3 (Ye fl)) ?_))))))
 rintro m F h ⟨j,Yl,Zj,rfl,rfl,rfl⟩
 refine Y1 (aq (WZ ((j:Int)<(xs.length:Int)) (fun Z9=>?_) (fun Z9=>?_)))
 ·refine ak (aq (ab 1 (Y1 (Ya 3 ?_))))
  obtain ⟨x1,Z4⟩:=Zv xs j om
  refine Zq (Zk none (j:Int) 1 (Y7 Z4)) (Z0 1 (Zt [0,0,0] (Z8r _ k x1 kb pb fb) (ie (WZ (¬((k:Int)<x1/\x1<p.code.length)) (fun Zh=>?_) (fun Zh=>?_)))))
  ·exact ar (Zm (r1 [0,0,0] ⟨(j:Int),rfl,rfl,(by first|(rw [<-Lc Z4 om Zj,decide_eq_true om];rfl)|(rw [<-Ld om Zj];rfl))⟩))
  exact ak (az (ZK j (Z1 (ZM ⟨j+1,ob,(P7 Z4 om Zj),rfl,rfl,rfl⟩ (Zw 3 (ZW j fl))))))
 exact ax 0 (ar (Zm (r1 [0,0,0] ⟨(-1),rfl,rfl,(by first|(rw [<-Lc Z4 om Zj,decide_eq_true om];rfl)|(rw [<-Ld om Zj];rfl))⟩)))
theorem Z8k (p:ZZ) (k:Nat) (xs:LI) (kb:Nat) (pb:Nat) (fb:Nat) (hcl:p.code.length<=200000000:=by exact ob) (hl:xs.length<=1000000:=by exact ob):Zo 79 [Z3 xs,.val (.func (.func 80) #[] #[.pointer (some ⟨fb,0,none⟩)])] [.obj fb [.val (.func (.func 78) #[] #[.pointer (some ⟨kb,0,none⟩),.pointer (some ⟨pb,0,none⟩)])],.obj kb [.i k],.obj pb (UO p)] (fun r h=>r=.b (!Wd k p.code.length xs)/\h=[.obj fb [.val (.func (.func 78) #[] #[.pointer (some ⟨kb,0,none⟩),.pointer (some ⟨pb,0,none⟩)])],.obj kb [.i k],.obj pb (UO p)]):=by
 refine ZE 9 Tryz.func79 (Y1 (Ya 2 (ic [0,0,0] (Z8o _ k xs kb pb fb) ?_)))
 rintro _ _ ⟨z1,rfl,rfl,Y3⟩
 have hix:=Y3
 exact Zm (r2 [0,0,0] [.b (decide (z1>=0))] ⟨rfl,rfl⟩ (lb hix))
theorem Z8s (im:YG) (p:ZZ) (k:Nat) (x:Instr) (kb:Nat) (pb:Nat) (hd:Xy im.decls:=by exact ob) (hpl:im.procs.length<=4:=by exact ob) (hps:∀p∈im.procs,p.params.length<=3) (hcl:p.code.length<=200000000:=by exact ob) (hxl:x.jumps.length<=1000:=by exact ob):Zo 81 [.agg [Yd im.decls,Kc (im.procs.map W3)],TE x,.val (.func (.func 78) #[] #[.pointer (some ⟨kb,0,none⟩),.pointer (some ⟨pb,0,none⟩)])] [.obj kb [.i k],.obj pb (UO p)] (fun r h=>r=.b (Wr im k p.code.length x)/\h=[.obj kb [.i k],.obj pb (UO p)]):=by
 have hk3:=Dt hd x.num
 have hsl:=S9 im
 have hss:=hd.sum
 refine ZE 109 Tryz.func81 (ar (iA [Yd im.decls,Kc (im.procs.map W3)] fun b1=>iA (VF x) fun b2=>Z1 (Xa (WI [0] (ab 0 (ar (Yz (x.op==0) Zb (fun Z9=>?_) (fun Z9=>?_))))))))
 ·refine ar (YK 8 [] [(19,.b ((decide (x.num>=(-999)))&&(decide (x.num<=999))))] (fun gz=>gz) ?_ (fun hj1=>?_))
  ·exact Zm (r2 [2,2] [.b ((decide (x.num>=(-999)))&&(decide (x.num<=999)))] ⟨rfl,rfl⟩ (lb (by unfold Wr;(repeat (first|rw [Zl om]|rw [Zd om]));all_goals (first|rfl|(rw [Yb];simp;done)|(rw [Yb];simp;omega)))))
  refine Zu 4 [0] (ib (b:=(decide (x.num>=(-999)))) 15 (fun Za=>?_) (fun Za=>?_))
  ·have Y3:x.num>=(-999):=(dq).1 Za
   exact Zu 4 [0] (ZJ (Zw 4 (Zf (decide (x.num<=999)) Za fl)) hj1)
  have Yq:¬(x.num>=(-999)):=ZV dq Za
  exact Z0 4 (ZJ (Zw 4 (Zf false Za fl)) hj1)
 refine ar (Yz (x.op==6) Zb (fun Zh=>?_) (fun Zh=>?_))
 ·refine aD 12 (C3 [] [(6,.b ((decide (x.num>=0))&&(decide (x.num<((YH im.decls:Nat):Int)))))] (fun gz=>gz) ?_ ?_)
  ·refine ZY 8 12 [0,1,2,3] [0] (db (b:=(decide (x.num>=0))) 25 (fun ZA=>?_) (fun ZA=>?_))
   ·have YR:x.num>=0:=(dq).1 ZA
    exact ZY 4 8 [4,5,6,7] [0,1] (Z8 8 (YF 8 [] [0] [b2] (OJ im.decls) (Zs 0 3 [9,10,11] (de (Zw 4 (Zf (decide (x.num<((YH im.decls:Nat):Int))) ZA fl))))))
   have X1:¬(x.num>=0):=ZV dq ZA
   exact Zs 0 8 [4,5,6,7,8,9,10,11] (de (Zw 4 (Zf false ZA fl)))
  exact at_ (r2 [2,2] [.b ((decide (x.num>=0))&&(decide (x.num<((YH im.decls:Nat):Int))))] ⟨rfl,rfl⟩ (lb (by unfold Wr;(repeat (first|rw [Zl om]|rw [Zd om]));all_goals (first|rfl|(rw [Yb];simp;done)|(rw [Yb];simp;omega)))))
 refine Y6 (Xu (fun fz gz F h=>F=sF [2,3,4,9] fz [(33,.b ((x.op==9)||(x.op==24)))]/\h=gz) ?_ ?_)
 ·refine ac (x.op==9) Zb (fun ZC=>?_) (fun ZC=>?_)
  ·exact ak (ZH ⟨rfl,rfl⟩ (Zw 4 (fc (x:=.b (x.op==9)) (lb (by first|rfl|(rw [Zl ZC])|(rw [Zd ZC])|(simp [ZC];done)|(rw [Yb];simp [ZC];done)|omega)) fl)))
  exact Vq (ZH ⟨rfl,rfl⟩ (Zw 4 (fc (x:=.b (x.op==24)) (lb (by first|rfl|(rw [Zl ZC])|(rw [Zd ZC])|(simp [ZC];done)|(rw [Yb];simp [ZC];done)|omega)) fl)))
 rintro F h ⟨rfl,rfl⟩
 refine ac ((x.op==9)||(x.op==24)) (p:=(x.op=9)∨(x.op=24)) (ZB Zb Zb) (fun Yh=>?_) (fun Yh=>?_)
 ·refine ar (YK 11 [] [(46,.b ((decide (x.num>=0))&&(decide (x.num<(((im.procs.map W3).length:Nat):Int)))))] (fun gz=>gz) ?_ (fun hj2=>?_))
  ·exact Zm (r2 [2,2] [.b ((decide (x.num>=0))&&(decide (x.num<(((im.procs.map W3).length:Nat):Int))))] ⟨rfl,rfl⟩ (lb (by unfold Wr;(repeat (first|rw [Zl om]|rw [Zd om]));all_goals (first|rfl|(rw [Yb];simp;done)|(rw [Yb];simp;omega)))))
  refine Zu 4 [0] (ib (b:=(decide (x.num>=0))) 39 (fun Yf=>?_) (fun Yf=>?_))
  ·have Xe:x.num>=0:=(dq).1 Yf
   exact Zu 4 [0,1] (io (.i (((im.procs.map W3).length:Nat):Int)) (.i (((T1 (im.procs.map W3)).length:Nat):Int)) (li (by rw [Ea])) (Z0 2 (ZJ (Zw 4 (Zf (decide (x.num<(((im.procs.map W3).length:Nat):Int))) Yf fl)) hj2)))
  have XO:¬(x.num>=0):=ZV dq Yf
  exact Z0 7 (ZJ (Zw 4 (Zf false Yf fl)) hj2)
 refine ar (Yz (x.op==10) Zb (fun YJ=>?_) (fun YJ=>?_))
 ·refine ar (YK 11 [3,4] [(59,.b ((decide (x.num>=0))&&(decide (x.num<(((im.procs.map W3).length:Nat):Int)))))] (fun gz=>gz) ?_ (fun hj3=>?_))
  ·refine Z0 1 (ib (b:=((decide (x.num>=0))&&(decide (x.num<(((im.procs.map W3).length:Nat):Int))))) 60 (fun YQ=>?_) (fun YQ=>?_))
   ·have W9:(x.num>=0)/\(x.num<(((im.procs.map W3).length:Nat):Int)):=((Y2 dq dq)).1 YQ
    refine Zu 4 [1,0] ?_
    obtain ⟨x1,Z4⟩:=Zv (im.procs.map W3) x.num.toNat om
    have hsg:=LT Z4 om
    exact Zq (Zk none x.num 3 (D7 Z4)) (Z0 2 (iw (Yc x1.lnt) (Zm (r2 [2,2] [.b ((x1.lnt.length:Int)==0)] ⟨rfl,rfl⟩ (lb (by unfold Wr;(repeat (first|rw [Zl om]|rw [Zd om]));rw [hsg.2,decide_eq_true (p:=0<=x.num/\x.num<im.procs.length) om,Yb];simp))))))
   have WB:¬((x.num>=0)/\(x.num<(((im.procs.map W3).length:Nat):Int))):=ZV (Y2 dq dq) YQ
   exact Zm (r2 [2,2] [.b false] ⟨rfl,rfl⟩ (lb (by unfold Wr;(repeat (first|rw [Zl om]|rw [Zd om]));rw [decide_eq_false (p:=0<=x.num/\x.num<im.procs.length) om];rfl)))
  refine Zu 4 [0] (ib (b:=(decide (x.num>=0))) 52 (fun Xd=>?_) (fun Xd=>?_))
  ·have WY:x.num>=0:=(dq).1 Xd
   exact Zu 4 [0,1] (io (.i (((im.procs.map W3).length:Nat):Int)) (.i (((T1 (im.procs.map W3)).length:Nat):Int)) (li (by rw [Ea])) (Z0 2 (ZJ (Zw 4 (Zf (decide (x.num<(((im.procs.map W3).length:Nat):Int))) Xd fl)) hj3)))
  have U5:¬(x.num>=0):=ZV dq Xd
  exact Z0 7 (ZJ (Zw 4 (Zf false Xd fl)) hj3)
 refine ar (Yz (x.op==19) Zb (fun X2=>?_) (fun X2=>?_))
 ·refine ar (YK 8 [] [(80,.b ((decide (x.num>=0))&&(decide (x.num<3))))] (fun gz=>gz) ?_ (fun hj4=>?_))
  ·exact Zm (r2 [2,2] [.b ((decide (x.num>=0))&&(decide (x.num<3)))] ⟨rfl,rfl⟩ (lb (by unfold Wr;(repeat (first|rw [Zl om]|rw [Zd om]));all_goals (first|rfl|(rw [Yb];simp;done)|(rw [Yb];simp;omega)))))
  refine Zu 4 [0] (ib (b:=(decide (x.num>=0))) 76 (fun Xw=>?_) (fun Xw=>?_))
  ·have Uy:x.num>=0:=(dq).1 Xw
   exact Zu 4 [0] (ZJ (Zw 4 (Zf (decide (x.num<3)) Xw fl)) hj4)
  have Ub:¬(x.num>=0):=ZV dq Xw
  exact Z0 4 (ZJ (Zw 4 (Zf false Xw fl)) hj4)
 refine Y6 (Xu (fun fz gz F h=>F=sF [2,3,4,9] fz [(81,.b ((x.op==20)||(x.op==22)))]/\h=gz) ?_ ?_)
 ·refine ac (x.op==20) Zb (fun Wx=>?_) (fun Wx=>?_)
  ·exact ak (ZH ⟨rfl,rfl⟩ (Zw 4 (fc (x:=.b (x.op==20)) (lb (by first|rfl|(rw [Zl Wx])|(rw [Zd Wx])|(simp [Wx];done)|(rw [Yb];simp [Wx];done)|omega)) fl)))
  exact Vq (ZH ⟨rfl,rfl⟩ (Zw 4 (fc (x:=.b (x.op==22)) (lb (by first|rfl|(rw [Zl Wx])|(rw [Zd Wx])|(simp [Wx];done)|(rw [Yb];simp [Wx];done)|omega)) fl)))
 rintro F h ⟨rfl,rfl⟩
 refine ac ((x.op==20)||(x.op==22)) (p:=(x.op=20)∨(x.op=22)) (ZB Zb Zb) (fun Vx=>?_) (fun Vx=>?_)
 ·exact Zp 3 [0] (Zt [2,2] (OL _ k x.num kb pb) (Zm (r2 [0,0] [.b (decide ((k:Int)<x.num/\x.num<p.code.length))] ⟨rfl,rfl⟩ (lb (by unfold Wr;(repeat (first|rw [Zl om]|rw [Zd om]));all_goals (first|rfl|(rw [Yb];simp;done)|(rw [Yb];simp;omega)))))))
 refine ar (Yz (x.op==21) Zb (fun V3=>?_) (fun V3=>?_))
 ·refine Zp 4 [1,0] (Zt [] (Z8j im.decls x.num) (Z1 (Ya 1 (io (.i (((ZX im.decls x.num).length:Nat):Int)) (.i (((Z6 (ZX im.decls x.num)).length:Nat):Int)) (li (by rw [Yc])) (YK 11 [] [(105,.b ((decide ((((ZX im.decls x.num).length:Nat):Int)>0))&&((x.jumps.length:Int)==(((ZX im.decls x.num).length:Nat):Int))))] (fun gz=>gz) ?_ (fun hj5=>?_))))))
  ·exact Zm (r2 [2,2] [.b ((decide ((((ZX im.decls x.num).length:Nat):Int)>0))&&((x.jumps.length:Int)==(((ZX im.decls x.num).length:Nat):Int)))] ⟨rfl,rfl⟩ (lb (by unfold Wr;(repeat (first|rw [Zl om]|rw [Zd om]));all_goals (first|rfl|(rw [Yb];simp;done)|(rw [Yb];simp;omega)))))
  refine Z0 2 (ib (b:=(decide ((((ZX im.decls x.num).length:Nat):Int)>0))) 98 (fun XT=>?_) (fun XT=>?_))
  ·have TM:(((ZX im.decls x.num).length:Nat):Int)>0:=(dq).1 XT
   exact Zu 2 [0] (iw (Yc x.jumps) (Z0 1 (io (.i (((ZX im.decls x.num).length:Nat):Int)) (.i (((Z6 (ZX im.decls x.num)).length:Nat):Int)) (li (by rw [Yc])) (Z0 2 (ZJ (Zw 4 (Zf ((x.jumps.length:Int)==(((ZX im.decls x.num).length:Nat):Int)) XT fl)) hj5)))))
  have Tm:¬((((ZX im.decls x.num).length:Nat):Int)>0):=ZV dq XT
  exact Z0 7 (ZJ (Zw 4 (Zf false XT fl)) hj5)
 exact ak (QG [0] (at_ (r2 [2,2] [.b (x.num==0)] ⟨rfl,rfl⟩ (lb (by unfold Wr;(repeat (first|rw [Zl om]|rw [Zd om]));all_goals (first|rfl|(rw [Yb];simp;done)|(rw [Yb];simp;omega)))))))
theorem Z8g (im:YG) (k:Int) (len:Int) (x:Instr) (hd:Xy im.decls:=by exact ob) (hpl:im.procs.length<=4:=by exact ob) (hps:∀p∈im.procs,p.params.length<=3) (hnv:Wr im k len x=true:=by exact ob):Zo 82 [.agg [Yd im.decls,Kc (im.procs.map W3)],TE x] [] (Ym (.tup [.i (WK im x),.i (V7 im x)])):=by
 have hsl:=S9 im
 have hcf:=Ve hd x.num
 have hnn:=Zas hnv
 have hn6:x.op=6->0<=x.num/\x.num<YH im.decls:=fun z=>by unfold Wr at hnv;rw [Zd om,Zl z] at hnv;exact of_decide_eq_true hnv
 refine ZE 53 Tryz.func82 (ar (iA [Yd im.decls,Kc (im.procs.map W3)] fun b1=>iA (VF x) fun b2=>?_))
 refine Z1 (Y1 (Xa (WI [0] (ab 0 (Y6 (Xu (fun fz gz F h=>F=sF [2,3,6,8] fz [(9,.b ((x.op==0)||(x.op==22)))]/\h=gz) ?_ ?_))))))
 ·refine ac (x.op==0) Zb (fun Z9=>?_) (fun Z9=>?_)
  ·exact ak (ZH ⟨rfl,rfl⟩ (wk [0,0] (fc (x:=.b (x.op==0)) (lb (by first|rfl|(rw [Zl Z9])|(rw [Zd Z9])|(simp [Z9];done)|(rw [Yb];simp [Z9];done)|omega)) fl)))
  exact Vq (ZH ⟨rfl,rfl⟩ (wk [0,0] (fc (x:=.b (x.op==22)) (lb (by first|rfl|(rw [Zl Z9])|(rw [Zd Z9])|(simp [Z9];done)|(rw [Yb];simp [Z9];done)|omega)) fl)))
 rintro F h ⟨rfl,rfl⟩
 refine ac ((x.op==0)||(x.op==22)) (p:=(x.op=0)∨(x.op=22)) (ZB Zb Zb) (fun Zh=>?_) (fun Zh=>?_)
 ·exact Vq (ar (Zm (r2 [] [.i 0,.i 0] ⟨rfl,rfl⟩ (Zc.tup (.cons (li (by (try unfold WK);(try unfold V7);(try unfold WF);(repeat (first|rw [Zl om]|rw [Zd om]));all_goals (first|rfl|omega|rw [hsg.1]))) (.cons (li (by (try unfold WK);(try unfold V7);(try unfold WF);(repeat (first|rw [Zl om]|rw [Zd om]));all_goals (first|rfl|omega|rw [hsg.1]))) .nil))))))
 refine Y6 (Xu (fun fz gz F h=>F=sF [2,3,6,8] fz [(12,.b ((x.op==1)||((x.op==2)||((x.op==3)||((x.op==4)||(x.op==11))))))]/\h=gz) ?_ ?_)
 ·refine ac (x.op==1) Zb (fun ZC=>?_) (fun ZC=>?_)
  ·exact ak (ZH ⟨rfl,rfl⟩ (wk [0,0] (fc (x:=.b (x.op==1)) (lb (by first|rfl|(rw [Zl ZC])|(rw [Zd ZC])|(simp [ZC];done)|(rw [Yb];simp [ZC];done)|omega)) fl)))
  refine ar (Yz (x.op==2) Zb (fun Yh=>?_) (fun Yh=>?_))
  ·exact ak (ZH ⟨rfl,rfl⟩ (wk [0,0] (fc (x:=.b (x.op==2)) (lb (by first|rfl|(rw [Zl ZC])|(rw [Zd ZC])|(simp [ZC,Yh];done)|(rw [Yb];simp [ZC,Yh];done)|omega)) fl)))
  refine ar (Yz (x.op==3) Zb (fun YJ=>?_) (fun YJ=>?_))
  ·exact ak (ZH ⟨rfl,rfl⟩ (wk [0,0] (fc (x:=.b (x.op==3)) (lb (by first|rfl|(rw [Zl ZC])|(rw [Zd ZC])|(simp [ZC,Yh,YJ];done)|(rw [Yb];simp [ZC,Yh,YJ];done)|omega)) fl)))
  refine ar (Yz (x.op==4) Zb (fun X2=>?_) (fun X2=>?_))
  ·exact ak (ZH ⟨rfl,rfl⟩ (wk [0,0] (fc (x:=.b (x.op==4)) (lb (by first|rfl|(rw [Zl ZC])|(rw [Zd ZC])|(simp [ZC,Yh,YJ,X2];done)|(rw [Yb];simp [ZC,Yh,YJ,X2];done)|omega)) fl)))
  exact Vq (ZH ⟨rfl,rfl⟩ (wk [0,0] (fc (x:=.b (x.op==11)) (lb (by first|rfl|(rw [Zl ZC])|(rw [Zd ZC])|(simp [ZC,Yh,YJ,X2];done)|(rw [Yb];simp [ZC,Yh,YJ,X2];done)|omega)) fl)))
 rintro F h ⟨rfl,rfl⟩
 refine ac ((x.op==1)||((x.op==2)||((x.op==3)||((x.op==4)||(x.op==11))))) (p:=(x.op=1)∨((x.op=2)∨((x.op=3)∨((x.op=4)∨(x.op=11))))) (ZB Zb (ZB Zb (ZB Zb (ZB Zb Zb)))) (fun Wx=>?_) (fun Wx=>?_)
 ·exact Vq (ar (Zm (r2 [] [.i 2,.i 2] ⟨rfl,rfl⟩ (Zc.tup (.cons (li (by (try unfold WK);(try unfold V7);(try unfold WF);(repeat (first|rw [Zl om]|rw [Zd om]));all_goals (first|rfl|omega|rw [hsg.1]))) (.cons (li (by (try unfold WK);(try unfold V7);(try unfold WF);(repeat (first|rw [Zl om]|rw [Zd om]));all_goals (first|rfl|omega|rw [hsg.1]))) .nil))))))
 refine ar (Yz (x.op==6) Zb (fun Vx=>?_) (fun Vx=>?_))
 ·exact az (Zu 4 [1,0] (Zt [] (Z8l im.decls x.num (hc:=(by have:=hn6 om;have:=hd.sum;omega))) (io (.i (((ZQ im.decls x.num).length:Nat):Int)) (.i (((Z6 (ZQ im.decls x.num)).length:Nat):Int)) (li (by rw [Yc])) (Z1 (ar (Zm (r2 [] [.i (((ZQ im.decls x.num).length:Nat):Int),.i (((ZQ im.decls x.num).length:Nat):Int)] ⟨rfl,rfl⟩ (Zc.tup (.cons (li (by (try unfold WK);(try unfold V7);(try unfold WF);(repeat (first|rw [Zl om]|rw [Zd om]));all_goals (first|rfl|omega|rw [hsg.1]))) (.cons (li (by (try unfold WK);(try unfold V7);(try unfold WF);(repeat (first|rw [Zl om]|rw [Zd om]));all_goals (first|rfl|omega|rw [hsg.1]))) .nil))))))))))
 refine Y6 (Xu (fun fz gz F h=>F=sF [2,3,6,8] fz [(26,.b ((x.op==9)||(x.op==24)))]/\h=gz) ?_ ?_)
 ·refine ac (x.op==9) Zb (fun V3=>?_) (fun V3=>?_)
  ·exact ak (ZH ⟨rfl,rfl⟩ (wk [0,0] (fc (x:=.b (x.op==9)) (lb (by first|rfl|(rw [Zl V3])|(rw [Zd V3])|(simp [V3];done)|(rw [Yb];simp [V3];done)|omega)) fl)))
  exact Vq (ZH ⟨rfl,rfl⟩ (wk [0,0] (fc (x:=.b (x.op==24)) (lb (by first|rfl|(rw [Zl V3])|(rw [Zd V3])|(simp [V3];done)|(rw [Yb];simp [V3];done)|omega)) fl)))
 rintro F h ⟨rfl,rfl⟩
 refine ac ((x.op==9)||(x.op==24)) (p:=(x.op=9)∨(x.op=24)) (ZB Zb Zb) (fun Vg=>?_) (fun Vg=>?_)
 ·refine az (Zu 4 [1,0] ?_)
  obtain ⟨x1,Z4⟩:=Zv (im.procs.map W3) x.num.toNat (by have:=hnn om;omega)
  have hsg:=LT Z4 (by have:=hnn om;omega)
  have hpm:(x1).pms.length<=3:=by obtain ⟨q,hq,hq2⟩:=XN.1 (Y4 Z4);rw [<-hq2];exact hps q hq
  exact Zq (DL (es:=T1 (im.procs.map W3)) (hv:=none) (j:=x.num) (sz:=3) (y:=Fk x1) kr (by have:=hnn om;omega) (D7 Z4) rfl) (Z0 2 (iw (Yc x1.pms) (Z1 (ar (Zm (r2 [] [.i x1.pms.length,.i x1.pms.length] ⟨rfl,rfl⟩ (Zc.tup (.cons (li (by (try unfold WK);(try unfold V7);(try unfold WF);(repeat (first|rw [Zl om]|rw [Zd om]));all_goals (first|rfl|omega|rw [hsg.1]))) (.cons (li (by (try unfold WK);(try unfold V7);(try unfold WF);(repeat (first|rw [Zl om]|rw [Zd om]));all_goals (first|rfl|omega|rw [hsg.1]))) .nil)))))))))
 refine ar (Yz (x.op==10) Zb (fun Tl=>?_) (fun Tl=>?_))
 ·refine az (Zu 4 [1,0] ?_)
  obtain ⟨x2,Zy⟩:=Zv (im.procs.map W3) x.num.toNat (by have:=hnn om;omega)
  have hsg:=LT Zy (by have:=hnn om;omega)
  have hpm:(x2).pms.length<=3:=by obtain ⟨q,hq,hq2⟩:=XN.1 (Y4 Zy);rw [<-hq2];exact hps q hq
  exact Zq (DL (es:=T1 (im.procs.map W3)) (hv:=none) (j:=x.num) (sz:=3) (y:=Fk x2) kr (by have:=hnn om;omega) (D7 Zy) rfl) (Z0 2 (iw (Yc x2.pms) (ia (((x2.pms.length:Int)-1)) (((x2.pms.length:Int))-(1)) (Z1 (ar (Zm (r2 [] [.i ((x2.pms.length:Int)-1),.i ((x2.pms.length:Int)-1)] ⟨rfl,rfl⟩ (Zc.tup (.cons (li (by (try unfold WK);(try unfold V7);(try unfold WF);(repeat (first|rw [Zl om]|rw [Zd om]));all_goals (first|rfl|omega|rw [hsg.1]))) (.cons (li (by (try unfold WK);(try unfold V7);(try unfold WF);(repeat (first|rw [Zl om]|rw [Zd om]));all_goals (first|rfl|omega|rw [hsg.1]))) .nil))))))))))
 refine Y6 (Xu (fun fz gz F h=>F=sF [6] fz [(48,.b ((x.op==16)||(x.op==17)))]/\h=gz) ?_ ?_)
 ·refine ac (x.op==16) Zb (fun Vh=>?_) (fun Vh=>?_)
  ·exact ak (ZH ⟨rfl,rfl⟩ (wk [0,0] (fc (x:=.b (x.op==16)) (lb (by first|rfl|(rw [Zl Vh])|(rw [Zd Vh])|(simp [Vh];done)|(rw [Yb];simp [Vh];done)|omega)) fl)))
  exact Vq (ZH ⟨rfl,rfl⟩ (wk [0,0] (fc (x:=.b (x.op==17)) (lb (by first|rfl|(rw [Zl Vh])|(rw [Zd Vh])|(simp [Vh];done)|(rw [Yb];simp [Vh];done)|omega)) fl)))
 rintro F h ⟨rfl,rfl⟩
 refine ac ((x.op==16)||(x.op==17)) (p:=(x.op=16)∨(x.op=17)) (ZB Zb Zb) (fun TL=>?_) (fun TL=>?_)
 ·exact ar (Zm (r2 [] [.i 1,.i 4] ⟨rfl,rfl⟩ (Zc.tup (.cons (li (by (try unfold WK);(try unfold V7);(try unfold WF);(repeat (first|rw [Zl om]|rw [Zd om]));all_goals (first|rfl|omega|rw [hsg.1]))) (.cons (li (by (try unfold WK);(try unfold V7);(try unfold WF);(repeat (first|rw [Zl om]|rw [Zd om]));all_goals (first|rfl|omega|rw [hsg.1]))) .nil)))))
 exact ak (ar (Zm (r2 [] [.i 1,.i 1] ⟨rfl,rfl⟩ (Zc.tup (.cons (li (by (try unfold WK);(try unfold V7);(try unfold WF);(repeat (first|rw [Zl om]|rw [Zd om]));all_goals (first|rfl|omega|rw [hsg.1]))) (.cons (li (by (try unfold WK);(try unfold V7);(try unfold WF);(repeat (first|rw [Zl om]|rw [Zd om]));all_goals (first|rfl|omega|rw [hsg.1]))) .nil))))))
theorem Z8p (im:YG) (p:ZZ) (k:Nat) (x:Instr) (hd:Xy im.decls:=by exact ob) (hpl:im.procs.length<=4:=by exact ob) (hps:∀p∈im.procs,p.params.length<=3) (hcl:p.code.length<=200000000:=by exact ob) (hxl:x.args.length<=1000/\x.jumps.length<=1000:=by exact ob) (hkl:k<p.code.length:=by exact ob):Zo 44 [.agg [Yd im.decls,Kc (im.procs.map W3)],BV p,.i k,TE x] [] (Ym (.b (VE im p k x))):=by
 refine ZE 140 Tryz.func44 (ar (iA [Yd im.decls,Kc (im.procs.map W3)] fun b1=>iA (UO p) fun b2=>iA [.i k] fun b3=>iA (VF x) fun b4=>Z1 (Xa (YK 8 [4,5,6,7] [(21,.b ((decide (x.op<0))||(decide (x.op>24))))] (fun gz=>gz) ?_ (fun hj1=>?_)))))
 ·refine YK 13 [4,5,6,7] [(26,.b (((decide (x.op<0))||(decide (x.op>24)))||(x.op==7)))] (fun gz=>gz) ?_ (fun hj2=>?_)
  ·refine YK 18 [4,5,6,7] [(31,.b ((((decide (x.op<0))||(decide (x.op>24)))||(x.op==7))||(x.op==8)))] (fun gz=>gz) ?_ (fun hj3=>?_)
   ·refine YK 23 [4,5,6,7] [(36,.b (((((decide (x.op<0))||(decide (x.op>24)))||(x.op==7))||(x.op==8))||(x.op==12)))] (fun gz=>gz) ?_ (fun hj4=>?_)
    ·refine Xn [4,5,6,7] [(41,.b ((((((decide (x.op<0))||(decide (x.op>24)))||(x.op==7))||(x.op==8))||(x.op==12))||(x.op==13)))] (fun gz=>gz) ?_ ?_
     ·refine Z0 1 (ib (b:=(((((decide (x.op<0))||(decide (x.op>24)))||(x.op==7))||(x.op==8))||(x.op==12))) 37 (fun Za=>?_) (fun Za=>?_))
      ·have Y3:((((x.op<0)∨(x.op>24))∨(x.op=7))∨(x.op=8))∨(x.op=12):=((ZB (ZB (ZB (ZB dq dq) Zb) Zb) Zb)).1 Za
       exact Z1 (Zw 4 (Zf true Za fl))
      have Yq:¬(((((x.op<0)∨(x.op>24))∨(x.op=7))∨(x.op=8))∨(x.op=12)):=ZV (ZB (ZB (ZB (ZB dq dq) Zb) Zb) Zb) Za
      exact WI [0] (Zw 4 (Zf (x.op==13) Za fl))
     refine ac ((((((decide (x.op<0))||(decide (x.op>24)))||(x.op==7))||(x.op==8))||(x.op==12))||(x.op==13)) (p:=(((((x.op<0)∨(x.op>24))∨(x.op=7))∨(x.op=8))∨(x.op=12))∨(x.op=13)) (ZB (ZB (ZB (ZB (ZB dq dq) Zb) Zb) Zb) Zb) (fun Z9=>?_) (fun Z9=>?_)
     ·exact ar (Zm (ZP (.b false) (lb (Ew (fun z=>z.1 (by unfold QZ;omega))).symm)))
     have hb:¬QZ x:=fun z=>Z9 (by unfold QZ at z;omega)
     refine ak (Xa (YK 10 [4,5,6,7] [(51,.b ((decide (x.dst<0))||(decide (x.dst>=p.regs))))] (fun gz=>gz) ?_ (fun hj5=>?_)))
     ·refine YK 21 [4,5,6,7] [(62,.b (((decide (x.dst<0))||(decide (x.dst>=p.regs)))||((x.dst != 0)&&(!(decide (((0<=x.op/\x.op<=11)∨x.op=18)∨x.op=19))))))] (fun gz=>gz) ?_ (fun hj6=>?_)
      ·refine YK 26 [4,5,6,7] [(67,.b ((((decide (x.dst<0))||(decide (x.dst>=p.regs)))||((x.dst != 0)&&(!(decide (((0<=x.op/\x.op<=11)∨x.op=18)∨x.op=19)))))||(decide (x.into<0))))] (fun gz=>gz) ?_ (fun hj7=>?_)
       ·refine YK 33 [4,5,6,7] [(74,.b (((((decide (x.dst<0))||(decide (x.dst>=p.regs)))||((x.dst != 0)&&(!(decide (((0<=x.op/\x.op<=11)∨x.op=18)∨x.op=19)))))||(decide (x.into<0)))||(decide (x.into>p.regs))))] (fun gz=>gz) ?_ (fun hj8=>?_)
        ·refine Xn [4,5,6,7] [(84,.b ((((((decide (x.dst<0))||(decide (x.dst>=p.regs)))||((x.dst != 0)&&(!(decide (((0<=x.op/\x.op<=11)∨x.op=18)∨x.op=19)))))||(decide (x.into<0)))||(decide (x.into>p.regs)))||((x.into != 0)&&(x.op != 6))))] (fun gz=>gz) ?_ ?_
         ·refine Z0 1 (ib (b:=(((((decide (x.dst<0))||(decide (x.dst>=p.regs)))||((x.dst != 0)&&(!(decide (((0<=x.op/\x.op<=11)∨x.op=18)∨x.op=19)))))||(decide (x.into<0)))||(decide (x.into>p.regs)))) 75 (fun ZA=>?_) (fun ZA=>?_))
          ·have YR:((((x.dst<0)∨(x.dst>=p.regs))∨((x.dst≠0)/\(¬(((0<=x.op/\x.op<=11)∨x.op=18)∨x.op=19))))∨(x.into<0))∨(x.into>p.regs):=((ZB (ZB (ZB (ZB dq dq) (Y2 Yi (Yg dq))) dq) dq)).1 ZA
           exact Z1 (Zw 4 (Zf true ZA fl))
          have X1:¬(((((x.dst<0)∨(x.dst>=p.regs))∨((x.dst≠0)/\(¬(((0<=x.op/\x.op<=11)∨x.op=18)∨x.op=19))))∨(x.into<0))∨(x.into>p.regs)):=ZV (ZB (ZB (ZB (ZB dq dq) (Y2 Yi (Yg dq))) dq) dq) ZA
          refine Zu 4 [0] (ib (b:=(x.into != 0)) 79 (fun Yf=>?_) (fun Yf=>?_))
          ·have Xe:x.into≠0:=(Yi).1 Yf
           exact WI [0] (Zw 4 (Zf (x.op != 6) (And.intro ZA Yf) fl))
          have XO:¬(x.into≠0):=ZV Yi Yf
          exact Z1 (Zw 4 (Zf false (And.intro ZA Yf) fl))
         refine ac ((((((decide (x.dst<0))||(decide (x.dst>=p.regs)))||((x.dst != 0)&&(!(decide (((0<=x.op/\x.op<=11)∨x.op=18)∨x.op=19)))))||(decide (x.into<0)))||(decide (x.into>p.regs)))||((x.into != 0)&&(x.op != 6))) (p:=(((((x.dst<0)∨(x.dst>=p.regs))∨((x.dst≠0)/\(¬(((0<=x.op/\x.op<=11)∨x.op=18)∨x.op=19))))∨(x.into<0))∨(x.into>p.regs))∨((x.into≠0)/\(x.op≠6))) (ZB (ZB (ZB (ZB (ZB dq dq) (Y2 Yi (Yg dq))) dq) dq) (Y2 Yi Yi)) (fun Zh=>?_) (fun Zh=>?_)
         ·exact ar (Zm (ZP (.b false) (lb (Ew (fun z=>by have h:=z.2.1;unfold Bg at h;omega)).symm)))
         have hds:Bg p x:=by unfold Bg;omega
         refine ak (Yr 2 [0] (iw (Yc x.args) (Z1 (ab 0 (Y5 (fun fz gz m F h=>∃(j:Nat),(j<=x.args.length)/\(TA p.regs (x.args.drop j)=TA p.regs x.args)/\F=sF [4,5,6,7,86,87] fz [(88,.i j)]/\h=gz/\m=x.args.length-j) _ _ _ ⟨0,ob,rfl,rfl,rfl,rfl⟩ (Zw 4 (Ye fl)) ?_)))))
         rintro m F h ⟨j,Yl,Zj,rfl,rfl,rfl⟩
         refine Y1 (aq (WZ ((j:Int)<(x.args.length:Int)) (fun ZC=>?_) (fun ZC=>?_)))
         ·refine ak (aq (ab 1 (ar ?_)))
          obtain ⟨x1,Z4⟩:=Zv x.args j om
          refine Zq (Zk none (j:Int) 1 (Y7 Z4)) (Z1 (ar (Xn [4,5,6,7,86,87,88] [(99,.b ((decide (x1<0))||(decide (x1>=p.regs))))] (fun gz=>gz) ?_ ?_)))
          ·refine Z0 3 (ib (b:=(decide (x1<0))) 94 (fun YQ=>?_) (fun YQ=>?_))
           ·have W9:x1<0:=(dq).1 YQ
            exact Z1 (Zw 4 (Zf true YQ fl))
           have WB:¬(x1<0):=ZV dq YQ
           exact WI [2] (Zw 4 (Zf (decide (x1>=p.regs)) YQ fl))
          refine ac ((decide (x1<0))||(decide (x1>=p.regs))) (p:=(x1<0)∨(x1>=p.regs)) (ZB dq dq) (fun Yh=>?_) (fun Yh=>?_)
          ·exact ar (Zm (ZP (.b false) (lb (Ew (fun z=>by have h:=z.2.2.1;rw [<-Rm Z4 om Zj] at h;cases h)).symm)))
          exact ak (az (ZK j (Z1 (ZM ⟨j+1,ob,(Ro Z4 om Zj),rfl,rfl,rfl⟩ (Zw 4 (ZW j fl))))))
         have hR:=(Rn om Zj).symm
         refine ax 0 (Ya 1 (iA [.val .nilFunc] fun b5=>Zz 0 b5 [.val (.func (.func 78) #[] #[.pointer (some ⟨b3,0,none⟩),.pointer (some ⟨b2,0,none⟩)])] (ie (Yr 2 [1] (iw (Yc x.jumps) (YK 9 [4,7,11] [(110,.b ((decide ((x.jumps.length:Int)>0))&&(x.op != 21)))] (fun gz=>gz) ?_ (fun hj9=>?_)))))))
         ·refine Xn [4,7,11] [(116,.b (((decide ((x.jumps.length:Int)>0))&&(x.op != 21))||(!Wd k p.code.length x.jumps)))] (fun gz=>gz) ?_ ?_
          ·refine Z0 1 (ib (b:=((decide ((x.jumps.length:Int)>0))&&(x.op != 21))) 111 (fun Xd=>?_) (fun Xd=>?_))
           ·have WY:((x.jumps.length:Int)>0)/\(x.op≠21):=((Y2 dq Yi)).1 Xd
            exact Z1 (Zw 5 (Zf true Xd fl))
           have U5:¬(((x.jumps.length:Int)>0)/\(x.op≠21)):=ZV (Y2 dq Yi) Xd
           exact Zu 3 [1] (Zt [0,1,1] (Z8k _ k x.jumps b3 b2 b5) (Z1 (wk [0,2,0,0,0] (Zf (!Wd k p.code.length x.jumps) Xd fl))))
          refine ac (((decide ((x.jumps.length:Int)>0))&&(x.op != 21))||(!Wd k p.code.length x.jumps)) (p:=(((x.jumps.length:Int)>0)/\(x.op≠21))∨(¬(Wd k p.code.length x.jumps=true))) (ZB (Y2 dq Yi) (Yg Iff.rfl)) (fun YJ=>?_) (fun YJ=>?_)
          ·exact ar (Zm (ZP (.b false) (lb (Ew (fun z=>by have h:=z.2.2.2.1;rcases YJ with q|q<;>first|omega|exact q h.2)).symm)))
          have hJ2:Wd k p.code.length x.jumps=true:=JB fun z=>YJ (.inr z)
          have hJ1:x.jumps.length=0∨x.op=21:=JB fun z=>YJ (.inl ⟨by omega,by omega⟩)
          refine ak (Yr 3 [4,1,0] (Zt [2,2] (Z8s _ _ k x b3 b2 (hps:=hps)) (Yz (!(Wr im k p.code.length x)) (p:=¬((Wr im k p.code.length x)=true)) (Yg Iff.rfl) (fun X2=>?_) (fun X2=>?_))))
          ·exact ar (Zm (ZP (.b false) (lb (Ew (fun z=>X2 z.2.2.2.2.1)).symm)))
          have hnv:=Up.1 X2
          refine ak (Zp 2 [4,3] (Zt [] (Z8g _ (k:Int) (p.code.length:Int) x (hps:=hps)) (Z1 (Zp 2 [3] (iw (Yc x.args) (YK 12 [] [(139,.b ((decide ((x.args.length:Int)>=(WK im x)))&&(decide ((x.args.length:Int)<=(V7 im x)))))] (fun gz=>gz) ?_ (fun hj10=>?_)))))))
          ·exact Zm (ZP (.b ((decide ((x.args.length:Int)>=(WK im x)))&&(decide ((x.args.length:Int)<=(V7 im x))))) (lb (by rw [Yb,IX,Xb,decide_eq_true_eq,decide_eq_true_eq];exact ⟨fun z=>⟨hb,hds,hR,⟨hJ1,hJ2⟩,hnv,z.1,z.2⟩,fun z=>z.2.2.2.2.2⟩)))
          refine Z0 3 (ib (b:=(decide ((x.args.length:Int)>=(WK im x)))) 133 (fun Xw=>?_) (fun Xw=>?_))
          ·have Uy:(x.args.length:Int)>=(WK im x):=(dq).1 Xw
           exact Zu 2 [3] (iw (Yc x.args) (Z0 3 (ZJ (Zw 5 (Zf (decide ((x.args.length:Int)<=(V7 im x))) Xw fl)) hj10)))
          have Ub:¬((x.args.length:Int)>=(WK im x)):=ZV dq Xw
          exact Z0 6 (ZJ (Zw 5 (Zf false Xw fl)) hj10)
         refine Z0 2 (ib (b:=(decide ((x.jumps.length:Int)>0))) 106 (fun XT=>?_) (fun XT=>?_))
         ·have TM:(x.jumps.length:Int)>0:=(dq).1 XT
          exact Zu 4 [1] (ZJ (Zw 5 (Zf (x.op != 21) XT fl)) hj9)
         have Tm:¬((x.jumps.length:Int)>0):=ZV dq XT
         exact Z0 4 (ZJ (Zw 5 (Zf false XT fl)) hj9)
        refine Z0 1 (ib (b:=((((decide (x.dst<0))||(decide (x.dst>=p.regs)))||((x.dst != 0)&&(!(decide (((0<=x.op/\x.op<=11)∨x.op=18)∨x.op=19)))))||(decide (x.into<0)))) 68 (fun XX=>?_) (fun XX=>?_))
        ·have UN:(((x.dst<0)∨(x.dst>=p.regs))∨((x.dst≠0)/\(¬(((0<=x.op/\x.op<=11)∨x.op=18)∨x.op=19))))∨(x.into<0):=((ZB (ZB (ZB dq dq) (Y2 Yi (Yg dq))) dq)).1 XX
         exact Z0 6 (ZJ (Zw 4 (Zf true XX fl)) hj8)
        have QJ:¬((((x.dst<0)∨(x.dst>=p.regs))∨((x.dst≠0)/\(¬(((0<=x.op/\x.op<=11)∨x.op=18)∨x.op=19))))∨(x.into<0)):=ZV (ZB (ZB (ZB dq dq) (Y2 Yi (Yg dq))) dq) XX
        exact Zu 6 [0,2] (ZJ (Zw 4 (Zf (decide (x.into>p.regs)) XX fl)) hj8)
       refine Z0 1 (ib (b:=(((decide (x.dst<0))||(decide (x.dst>=p.regs)))||((x.dst != 0)&&(!(decide (((0<=x.op/\x.op<=11)∨x.op=18)∨x.op=19)))))) 63 (fun Wc=>?_) (fun Wc=>?_))
       ·have AL:((x.dst<0)∨(x.dst>=p.regs))∨((x.dst≠0)/\(¬(((0<=x.op/\x.op<=11)∨x.op=18)∨x.op=19))):=((ZB (ZB dq dq) (Y2 Yi (Yg dq)))).1 Wc
        exact Z0 4 (ZJ (Zw 4 (Zf true Wc fl)) hj7)
       have Jl:¬(((x.dst<0)∨(x.dst>=p.regs))∨((x.dst≠0)/\(¬(((0<=x.op/\x.op<=11)∨x.op=18)∨x.op=19)))):=ZV (ZB (ZB dq dq) (Y2 Yi (Yg dq))) Wc
       exact Zu 4 [0] (ZJ (Zw 4 (Zf (decide (x.into<0)) Wc fl)) hj7)
      refine Z0 1 (ib (b:=((decide (x.dst<0))||(decide (x.dst>=p.regs)))) 52 (fun WX=>?_) (fun WX=>?_))
      ·have Em:(x.dst<0)∨(x.dst>=p.regs):=((ZB dq dq)).1 WX
       exact Z0 10 (ZJ (Zw 4 (Zf true WX fl)) hj6)
      have En:¬((x.dst<0)∨(x.dst>=p.regs)):=ZV (ZB dq dq) WX
      refine Zu 4 [0] (ib (b:=(x.dst != 0)) 56 (fun UL=>?_) (fun UL=>?_))
      ·have Di:x.dst≠0:=(Yi).1 UL
       exact Zu 2 [0] (Zt [] (Z8t x.op) (Z0 3 (ZJ (Zw 4 (Zf (!(decide (((0<=x.op/\x.op<=11)∨x.op=18)∨x.op=19))) (And.intro WX UL) fl)) hj6)))
      have IN:¬(x.dst≠0):=ZV Yi UL
      exact Z0 6 (ZJ (Zw 4 (Zf false (And.intro WX UL) fl)) hj6)
     refine Zu 4 [0] (ib (b:=(decide (x.dst<0))) 45 (fun UM=>?_) (fun UM=>?_))
     ·have IP:x.dst<0:=(dq).1 UM
      exact Z0 6 (ZJ (Zw 4 (Zf true UM fl)) hj5)
     have IQ:¬(x.dst<0):=ZV dq UM
     exact Zu 6 [0,2] (ZJ (Zw 4 (Zf (decide (x.dst>=p.regs)) UM fl)) hj5)
    refine Z0 1 (ib (b:=((((decide (x.op<0))||(decide (x.op>24)))||(x.op==7))||(x.op==8))) 32 (fun Jg=>?_) (fun Jg=>?_))
    ·have Oy:(((x.op<0)∨(x.op>24))∨(x.op=7))∨(x.op=8):=((ZB (ZB (ZB dq dq) Zb) Zb)).1 Jg
     exact Z0 4 (ZJ (Zw 4 (Zf true Jg fl)) hj4)
    have Oz:¬((((x.op<0)∨(x.op>24))∨(x.op=7))∨(x.op=8)):=ZV (ZB (ZB (ZB dq dq) Zb) Zb) Jg
    exact Zu 4 [0] (ZJ (Zw 4 (Zf (x.op==12) Jg fl)) hj4)
   refine Z0 1 (ib (b:=(((decide (x.op<0))||(decide (x.op>24)))||(x.op==7))) 27 (fun Jh=>?_) (fun Jh=>?_))
   ·have OA:((x.op<0)∨(x.op>24))∨(x.op=7):=((ZB (ZB dq dq) Zb)).1 Jh
    exact Z0 4 (ZJ (Zw 4 (Zf true Jh fl)) hj3)
   have OB:¬(((x.op<0)∨(x.op>24))∨(x.op=7)):=ZV (ZB (ZB dq dq) Zb) Jh
   exact Zu 4 [0] (ZJ (Zw 4 (Zf (x.op==8) Jh fl)) hj3)
  refine Z0 1 (ib (b:=((decide (x.op<0))||(decide (x.op>24)))) 22 (fun KE=>?_) (fun KE=>?_))
  ·have OC:(x.op<0)∨(x.op>24):=((ZB dq dq)).1 KE
   exact Z0 4 (ZJ (Zw 4 (Zf true KE fl)) hj2)
  have G6:¬((x.op<0)∨(x.op>24)):=ZV (ZB dq dq) KE
  exact Zu 4 [0] (ZJ (Zw 4 (Zf (x.op==7) KE fl)) hj2)
 refine Zu 4 [0] (ib (b:=(decide (x.op<0))) 17 (fun Ji=>?_) (fun Ji=>?_))
 ·have G7:x.op<0:=(dq).1 Ji
  exact Z0 4 (ZJ (Zw 4 (Zf true Ji fl)) hj1)
 have IR:¬(x.op<0):=ZV dq Ji
 exact Zu 4 [0] (ZJ (Zw 4 (Zf (decide (x.op>24)) Ji fl)) hj1)
theorem OH (im:YG) (lz:Nat) (hz:IZ im lz:=by exact ob) (hlz:lz<=100:=by exact ob):Zo 17 [V0 im] [] (Ym (.b (XJ im))):=by
 have hil:=hz.len
 refine ZE 79 Tryz.func17 (ar (iA (V4 im) fun b1=>Z1 (Zp 1 [0] (ic [] (Z8n im lz (hz:=hz)) ?_))))
 rintro _ _ (⟨rfl,rfl,Y3⟩|⟨rfl,rfl,Yq⟩)
 ·have hL:=Y3
  refine Z0 3 (iA [nl,nl] fun b2=>Zz 0 b2 [Yd im.decls,Kc (im.procs.map W3)] (Z1 (Xa (Yz (!(TX im.decls (im.procs.map W3))) (p:=¬((TX im.decls (im.procs.map W3))=true)) (Yg Iff.rfl) (fun Z9=>?_) (fun Z9=>?_)))))
  ·exact ar (Zm (ZP (.b false) (lb (by rw [Dj,BF,show TX im.decls (im.procs.map W3)=false from Qd.2 Z9];simp))))
  have hV:=Up.1 Z9
  have hS:BF im=true:=by rw [BF,decide_eq_true hL,hV];rfl
  obtain ⟨Xo,hlp,_,hps⟩:=Zdc hS
  refine ak (Yr 2 [1] (iw (JY im.procs) (Z1 (ab 0 (Y5 (fun fz gz m F h=>∃(k:Nat),(k<=im.procs.length)/\(Tq im (im.procs.drop k)=Tq im im.procs)/\F=sF [3,18,19] fz [(20,.i k)]/\h=[Zi gz 0]/\m=im.procs.length-k) _ _ _ ⟨0,ob,rfl,rfl,rfl,rfl⟩ (wk [0] (Ye fl)) ?_)))))
  rintro m F h ⟨k,Yl,Zj,rfl,rfl,rfl⟩
  refine Y1 (aq (WZ ((k:Int)<(im.procs.length:Int)) (fun Zh=>?_) (fun Zh=>?_)))
  ·refine ak (aq (ab 1 (ar ?_)))
   obtain ⟨x1,Z4⟩:=Zv im.procs k om
   have hpz:=hz.procs _ (Y4 Z4)
   have hpl:=hpz.len
   refine Zq (Zk none (k:Int) 5 (Ky Z4)) (Z0 1 (iA [nl,nl,.i 0,.i 0,nl] fun b3=>Zz 0 b3 (UO x1) (ie (Yr 4 [0,0] (iw (Yc x1.params) (Zq (Ge 1 (x1.params.length:Int)) (YK 12 [3,6,18,19,20] [(35,.b ((decide (x1.regs<(max 1 (x1.params.length:Int))))||(decide (x1.regs>2000))))] (fun gz=>gz) ?_ (fun hj1=>?_))))))))
   ·refine YK 18 [3,6,18,19,20] [(41,.b (((decide (x1.regs<(max 1 (x1.params.length:Int))))||(decide (x1.regs>2000)))||(decide ((x1.code.length:Int)<1))))] (fun gz=>gz) ?_ (fun hj2=>?_)
    ·refine Xn [3,6,18,19,20] [(47,.b ((((decide (x1.regs<(max 1 (x1.params.length:Int))))||(decide (x1.regs>2000)))||(decide ((x1.code.length:Int)<1)))||(decide ((x1.code.length:Int)>2000))))] (fun gz=>gz) ?_ ?_
     ·refine Z0 1 (ib (b:=(((decide (x1.regs<(max 1 (x1.params.length:Int))))||(decide (x1.regs>2000)))||(decide ((x1.code.length:Int)<1)))) 42 (fun Za=>?_) (fun Za=>?_))
      ·have YR:((x1.regs<(max 1 (x1.params.length:Int)))∨(x1.regs>2000))∨((x1.code.length:Int)<1):=((ZB (ZB dq dq) dq)).1 Za
       exact Z1 (wk [0,0] (Zf true Za fl))
      have X1:¬(((x1.regs<(max 1 (x1.params.length:Int)))∨(x1.regs>2000))∨((x1.code.length:Int)<1)):=ZV (ZB (ZB dq dq) dq) Za
      exact Zu 2 [0] (iw (QD x1.code) (Z1 (wk [0,0] (Zf (decide ((x1.code.length:Int)>2000)) Za fl))))
     refine ac ((((decide (x1.regs<(max 1 (x1.params.length:Int))))||(decide (x1.regs>2000)))||(decide ((x1.code.length:Int)<1)))||(decide ((x1.code.length:Int)>2000))) (p:=(((x1.regs<(max 1 (x1.params.length:Int)))∨(x1.regs>2000))∨((x1.code.length:Int)<1))∨((x1.code.length:Int)>2000)) (ZB (ZB (ZB dq dq) dq) dq) (fun ZC=>?_) (fun ZC=>?_)
     ·exact ar (Zm (ZP (.b false) (lb (by rw [Dj,hS,Bool.true_and];exact GI Z4 (by rw [T8,decide_eq_false (p:=(1<=x1.regs/\(x1.params.length:Int)<=x1.regs/\x1.regs<=2000)/\1<=x1.code.length/\x1.code.length<=2000) om];simp) Zj))))
     refine ak (Yr 4 [0,0] (iw (QD x1.code) (ia ((((x1.code.length-1):Nat):Int)) (((x1.code.length:Int))-(1)) ?_)))
     obtain ⟨x2,Zy⟩:=Zv x1.code (x1.code.length-1) om
     refine Zq (Zk none (((x1.code.length-1):Nat):Int) 6 (Ja Zy)) (Z1 (ar (Xn [3,6,18,19,20] [(62,.b ((x2.op != 23)&&(x2.op != 24)))] (fun gz=>gz) ?_ ?_)))
     ·refine Z0 3 (ib (b:=(x2.op != 23)) 59 (fun ZA=>?_) (fun ZA=>?_))
      ·have Xe:x2.op≠23:=(Yi).1 ZA
       exact Z1 (wk [0,0] (Zf (x2.op != 24) ZA fl))
      have XO:¬(x2.op≠23):=ZV Yi ZA
      exact Z1 (wk [0,0] (Zf false ZA fl))
     refine ac ((x2.op != 23)&&(x2.op != 24)) (p:=(x2.op≠23)/\(x2.op≠24)) (Y2 Yi Yi) (fun Yh=>?_) (fun Yh=>?_)
     ·exact ar (Zm (ZP (.b false) (lb (by rw [Dj,hS,Bool.true_and];exact GI Z4 (by rw [T8,Gj Zy,decide_eq_false (p:=x2.op=23∨x2.op=24) om];simp) Zj))))
     refine ak (Zp 2 [0] (iw (QD x1.code) (Z1 (ab 2 (Y5 (fun fz gz m F h=>∃(j:Nat),(j<=x1.code.length)/\(Qi im x1 (x1.code.drop j) j=Qi im x1 x1.code 0)/\F=sF [3,6,18,19,20,64,65] fz [(66,.i j)]/\h=gz/\m=x1.code.length-j) _ _ _ ⟨0,ob,rfl,rfl,rfl,rfl⟩ (wk [0,0] (Ye fl)) ?_)))))
     rintro m F h ⟨j,U8,Wf,rfl,rfl,rfl⟩
     refine Y1 (aq (WZ ((j:Int)<(x1.code.length:Int)) (fun YJ=>?_) (fun YJ=>?_)))
     ·refine ak (aq (ab 3 (Ya 1 ?_)))
      obtain ⟨x3,YX⟩:=Zv x1.code j om
      have hxz:=(hpz.code _ (Y4 YX)).l
      refine Zq (Zk none (j:Int) 6 (Ja YX)) (Z0 1 (iA [.i 0,.i 0,.i 0,.i 0,nl,nl] fun b4=>Z0 1 (Zz 0 b4 (VF x3) (ie (Zp 4 [2,1,0] (Zt [] (Z8p _ x1 j x3 (hd:=Xo) (hps:=hps) (hxl:=om)) (Yz (!(VE im x1 j x3)) (p:=¬((VE im x1 j x3)=true)) (Yg Iff.rfl) (fun X2=>?_) (fun X2=>?_))))))))
      ·exact ar (Zm (ZP (.b false) (lb (by rw [Dj,hS,Bool.true_and];exact GI Z4 (by rw [T8,<-OP YX (Qd.2 (by assumption)) Wf];simp) Zj))))
      exact ak (az (ZK j (Z1 (ZM ⟨j+1,ob,(OR YX (Up.1 (by assumption)) Wf),rfl,rfl,rfl⟩ (wk [1,1] (ZW j fl))))))
     exact ax 2 (az (ZK k (Z1 (ZM ⟨k+1,ob,(R3 Z4 (by rw [T8,Lh.1 hlp x1 (Y4 Z4),decide_eq_true (p:=(1<=x1.regs/\(x1.params.length:Int)<=x1.regs/\x1.regs<=2000)/\1<=x1.code.length/\x1.code.length<=2000) om,<-OQ om Wf,Gj Zy,decide_eq_true (p:=x2.op=23∨x2.op=24) om];rfl) Zj),rfl,rfl,rfl⟩ (wk [1] (ZW k fl))))))
    refine Z0 1 (ib (b:=((decide (x1.regs<(max 1 (x1.params.length:Int))))||(decide (x1.regs>2000)))) 36 (fun Yf=>?_) (fun Yf=>?_))
    ·have W9:(x1.regs<(max 1 (x1.params.length:Int)))∨(x1.regs>2000):=((ZB dq dq)).1 Yf
     exact Z0 5 (ZJ (wk [0,0] (Zf true Yf fl)) hj2)
    have WB:¬((x1.regs<(max 1 (x1.params.length:Int)))∨(x1.regs>2000)):=ZV (ZB dq dq) Yf
    exact Zu 2 [0] (iw (QD x1.code) (Z0 2 (ZJ (wk [0,0] (Zf (decide ((x1.code.length:Int)<1)) Yf fl)) hj2)))
   refine Z0 2 (ib (b:=(decide (x1.regs<(max 1 (x1.params.length:Int))))) 31 (fun YQ=>?_) (fun YQ=>?_))
   ·have WY:x1.regs<(max 1 (x1.params.length:Int)):=(dq).1 YQ
    exact Z0 4 (ZJ (wk [0,0] (Zf true YQ fl)) hj1)
   have U5:¬(x1.regs<(max 1 (x1.params.length:Int))):=ZV dq YQ
   exact Zu 4 [0] (ZJ (wk [0,0] (Zf (decide (x1.regs>2000)) YQ fl)) hj1)
  exact ax 0 (ar (Zm (ZP (.b true) (lb (by rw [Dj,hS,<-R0 om Zj];rfl)))))
 have hL:=Yq
 exact Z0 3 (iA [nl,nl] fun b5=>Zz 0 b5 [Yd [],Kc []] (Z1 (Y6 (Vn (ar (Zm (ZP (.b false) (lb (by rw [Dj,BF,decide_eq_false hL];rfl)))))))))
end Go.Abs
section
namespace Go.Abs
section
variable {P:Program} {n:Nat} {ops:Array Oper} {B:Fr->List Res->Prop} {k:Nat} {F:Fr} {h:List Res}
def MU (P:Program) (ops:Array Oper) (F:Fr) (k:Nat):Option (Bool × Bool):=
 match (ZI ops k).op with
 | .binOp .eql t x y _=>match P.underlying t with
  | some .bool=>match F.ev x,F.ev y with
   | .val (.bool a),.val (.bool b)=>some (a,b)
   | _,_=>none
  | _=>none
 | _=>none
theorem Z9b (a b:Bool) (hb:MU P ops F k=some (a,b):=by kernel_rfl):XW P (ZI ops k) F h [] (.b (a==b)):=by
 unfold MU at hb
 generalize hoo:ZI ops k=o at hb
 obtain ⟨dst,op,type,pos,after,guard⟩:=o
 cases op<;>simp only at hb<;>try (cases hb)
 rename_i bop t x y yt
 cases bop<;>simp only at hb<;>try (cases hb)
 split at hb
 ·rename_i ht
  split at hb
  ·rename_i a' b' h1 h2
   cases hb
   intro n w G ac hF hh
   have v1:=hF.ev x
   have v2:=hF.ev y
   rw [h1] at v1
   rw [h2] at v2
   have v1:=v1.val_inv
   have v2:=v2.val_inv
   refine ⟨_,.val,fun w' _ _=>?_⟩
   simp only [execOp,v1,v2]
   have he:(Op.equalIn (9999+1) t (.bool a) (.bool b)).run P w'=.ok (a==b) w':=by
    rw [Op.equalIn]
    simp [Sem.run_bind,VZ ht]
   refine Vr ?_
   simp only [eqGuard,binOp,Op.equal,Op.maxDepth]
   have he2:(Op.equalIn 10000 t (.bool a) (.bool b)).run P w'=.ok (a==b) w':=he
   simp [Sem.run_bind,he2]
  ·cases hb
 ·cases hb
end
end Go.Abs
namespace Go.Abs
end Go.Abs
namespace Go.Abs
end Go.Abs
end
namespace Go.Abs
open Go.Proofs
open Go.Proofs
open Go.Proofs
open Go.Proofs
theorem Ez (xs:LI) (ys:LI) (hxl:xs.length<=1000000000:=by exact ob) (hyl:ys.length<=1000000000:=by exact ob):Zo 11 [Z3 xs,Z3 ys] [] (Ym (.b (decide (xs=ys)))):=by
 refine ZE 26 Tryz.func11 (Y1 (YO 1 (iw (Yc xs) (Z0 1 (iw (Yc ys) (Yz ((xs.length:Int) != (ys.length:Int)) Yi (fun Z9=>?_) (fun Z9=>?_)))))))
 ·exact ar (Zm (ZP (.b false) (lb (decide_eq_false (fun z=>Z9 (by rw [z]))).symm)))
 refine ak (Y6 (ab 0 (Y5 (fun fz gz m F h=>∃(k:Nat),(k<=xs.length)/\(∀i,i<k->xs[i]? = ys[i]?)/\F=sF [0,1] fz [(5,.i k)]/\h=gz/\m=xs.length-k) _ _ _ ⟨0,ob,(fun i h=>absurd h om),rfl,rfl,rfl⟩ (wk [] (Ye fl)) ?_)))
 rintro m F h ⟨k,Yl,Zj,rfl,rfl,rfl⟩
 refine YO 2 (iw (Yc xs) (Y0 ((k:Int)<(xs.length:Int)) (fun Zh=>?_) (fun Zh=>?_)))
 ·refine ak (aq (ab 1 (aD 9 (Zs 7 9 [0,1] ?_))))
  obtain ⟨x1,Z4⟩:=Zv xs k om
  refine dx 2 (Zk none (k:Int) 1 (Y7 Z4)) (Zs 3 6 [3,4,5] ?_)
  obtain ⟨x2,Zy⟩:=Zv ys k om
  refine dx 6 (Zk none (k:Int) 1 (Y7 Zy)) (Zs 0 2 [7,8] (de (ac (x1 != x2) Yi (fun ZC=>?_) (fun ZC=>?_))))
  ·exact ar (Zm (ZP (.b false) (lb (decide_eq_false (fun z=>ZC (by rw [z,Zy] at Z4;cases Z4;rfl))).symm)))
  exact ak (az (Z0 1 (ZK k (Z1 (ZM ⟨k+1,ob,(fun i h=>(Nat.lt_succ_iff_lt_or_eq.1 h).elim (Zj i) (fun z=>by rw [z,Z4,Zy,Up.1 ZC])),rfl,rfl,rfl⟩ (wk [] (ZW k fl)))))))
 exact ax 0 (ar (Zm (ZP (.b true) (lb (decide_eq_true (Z49 om (fun i hi=>Zj i om))).symm))))
theorem Z9o (x:Tg) (y:Tg) (h1:x.fields.length<=1000000:=by exact ob) (h2:y.fields.length<=1000000:=by exact ob):Zo 92 [Fj x,Fj y] [] (Ym (.b (decide (x=y)))):=by
 refine ZE 24 Tryz.func92 (ar (iA (L9 x) fun b1=>iA (L9 y) fun b2=>Z1 (ar (YK 12 [2,3] [(16,.b ((x.count==y.count)&&(x.tag==y.tag)))] (fun gz=>gz) ?_ (fun hj1=>?_)))))
 ·refine YK 19 [] [(23,.b (((x.count==y.count)&&(x.tag==y.tag))&&(decide (x.fields=y.fields))))] (fun gz=>gz) ?_ (fun hj2=>?_)
  ·exact Zm (ZP (.b (((x.count==y.count)&&(x.tag==y.tag))&&(decide (x.fields=y.fields)))) (lb (by rw [Yb];simp only [Xb,decide_eq_true_eq,Zb,Tg.eq_iff,and_assoc])))
  refine Z0 1 (ib (b:=((x.count==y.count)&&(x.tag==y.tag))) 17 (fun Za=>?_) (fun Za=>?_))
  ·have Y3:(x.count=y.count)/\(x.tag=y.tag):=((Y2 Zb Zb)).1 Za
   exact Zu 4 [1,0] (Zt [] (Ez x.fields y.fields) (Z0 1 (ZJ (wk [0,0] (Zf (decide (x.fields=y.fields)) Za fl)) hj2)))
  have Yq:¬((x.count=y.count)/\(x.tag=y.tag)):=ZV (Y2 Zb Zb) Za
  exact Z0 6 (ZJ (wk [0,0] (Zf false Za fl)) hj2)
 refine Zu 6 [1,0] (ib (b:=(x.count==y.count)) 10 (fun ZA=>?_) (fun ZA=>?_))
 ·have YR:x.count=y.count:=(Zb).1 ZA
  exact Zu 6 [1,0] (ZJ (wk [0,0] (Zf (x.tag==y.tag) ZA fl)) hj1)
 have X1:¬(x.count=y.count):=ZV Zb ZA
 exact Z0 6 (ZJ (wk [0,0] (Zf false ZA fl)) hj1)
theorem Z9p (x:UU) (y:UU) (h1:x.regs.length<=1000000/\x.own.length<=1000000/\x.held.length<=1000000:=by exact ob) (h2:y.regs.length<=1000000/\y.own.length<=1000000/\y.held.length<=1000000:=by exact ob):Zo 93 [Bb x,Bb y] [] (Ym (.b (decide (x=y)))):=by
 refine ZE 45 Tryz.func93 (ar (iA (Do x) fun b1=>iA (Do y) fun b2=>Z1 (ar (YK 12 [2,3] [(16,.b ((x.proc==y.proc)&&(x.at_==y.at_)))] (fun gz=>gz) ?_ (fun hj1=>?_)))))
 ·refine YK 19 [2,3] [(23,.b (((x.proc==y.proc)&&(x.at_==y.at_))&&(x.dst==y.dst)))] (fun gz=>gz) ?_ (fun hj2=>?_)
  ·refine YK 26 [2,3] [(30,.b ((((x.proc==y.proc)&&(x.at_==y.at_))&&(x.dst==y.dst))&&(decide (x.regs=y.regs))))] (fun gz=>gz) ?_ (fun hj3=>?_)
   ·refine YK 33 [2,3] [(37,.b (((((x.proc==y.proc)&&(x.at_==y.at_))&&(x.dst==y.dst))&&(decide (x.regs=y.regs)))&&(decide (x.own=y.own))))] (fun gz=>gz) ?_ (fun hj4=>?_)
    ·refine YK 40 [] [(44,.b ((((((x.proc==y.proc)&&(x.at_==y.at_))&&(x.dst==y.dst))&&(decide (x.regs=y.regs)))&&(decide (x.own=y.own)))&&(decide (x.held=y.held))))] (fun gz=>gz) ?_ (fun hj5=>?_)
     ·exact Zm (ZP (.b ((((((x.proc==y.proc)&&(x.at_==y.at_))&&(x.dst==y.dst))&&(decide (x.regs=y.regs)))&&(decide (x.own=y.own)))&&(decide (x.held=y.held)))) (lb (by rw [Yb];simp only [Xb,decide_eq_true_eq,Zb,UU.eq_iff,and_assoc])))
     refine Z0 1 (ib (b:=(((((x.proc==y.proc)&&(x.at_==y.at_))&&(x.dst==y.dst))&&(decide (x.regs=y.regs)))&&(decide (x.own=y.own)))) 38 (fun Za=>?_) (fun Za=>?_))
     ·have Y3:((((x.proc=y.proc)/\(x.at_=y.at_))/\(x.dst=y.dst))/\(x.regs=y.regs))/\(x.own=y.own):=((Y2 (Y2 (Y2 (Y2 Zb Zb) Zb) dq) dq)).1 Za
      exact Zu 4 [1,0] (Zt [] (Ez x.held y.held) (Z0 1 (ZJ (wk [0,0] (Zf (decide (x.held=y.held)) Za fl)) hj5)))
     have Yq:¬(((((x.proc=y.proc)/\(x.at_=y.at_))/\(x.dst=y.dst))/\(x.regs=y.regs))/\(x.own=y.own)):=ZV (Y2 (Y2 (Y2 (Y2 Zb Zb) Zb) dq) dq) Za
     exact Z0 6 (ZJ (wk [0,0] (Zf false Za fl)) hj5)
    refine Z0 1 (ib (b:=((((x.proc==y.proc)&&(x.at_==y.at_))&&(x.dst==y.dst))&&(decide (x.regs=y.regs)))) 31 (fun ZA=>?_) (fun ZA=>?_))
    ·have YR:(((x.proc=y.proc)/\(x.at_=y.at_))/\(x.dst=y.dst))/\(x.regs=y.regs):=((Y2 (Y2 (Y2 Zb Zb) Zb) dq)).1 ZA
     exact Zu 4 [1,0] (Zt [] (Ez x.own y.own) (Z0 1 (ZJ (wk [0,0] (Zf (decide (x.own=y.own)) ZA fl)) hj4)))
    have X1:¬((((x.proc=y.proc)/\(x.at_=y.at_))/\(x.dst=y.dst))/\(x.regs=y.regs)):=ZV (Y2 (Y2 (Y2 Zb Zb) Zb) dq) ZA
    exact Z0 6 (ZJ (wk [0,0] (Zf false ZA fl)) hj4)
   refine Z0 1 (ib (b:=(((x.proc==y.proc)&&(x.at_==y.at_))&&(x.dst==y.dst))) 24 (fun Yf=>?_) (fun Yf=>?_))
   ·have Xe:((x.proc=y.proc)/\(x.at_=y.at_))/\(x.dst=y.dst):=((Y2 (Y2 Zb Zb) Zb)).1 Yf
    exact Zu 4 [1,0] (Zt [] (Ez x.regs y.regs) (Z0 1 (ZJ (wk [0,0] (Zf (decide (x.regs=y.regs)) Yf fl)) hj3)))
   have XO:¬(((x.proc=y.proc)/\(x.at_=y.at_))/\(x.dst=y.dst)):=ZV (Y2 (Y2 Zb Zb) Zb) Yf
   exact Z0 6 (ZJ (wk [0,0] (Zf false Yf fl)) hj3)
  refine Z0 1 (ib (b:=((x.proc==y.proc)&&(x.at_==y.at_))) 17 (fun YQ=>?_) (fun YQ=>?_))
  ·have W9:(x.proc=y.proc)/\(x.at_=y.at_):=((Y2 Zb Zb)).1 YQ
   exact Zu 6 [1,0] (ZJ (wk [0,0] (Zf (x.dst==y.dst) YQ fl)) hj2)
  have WB:¬((x.proc=y.proc)/\(x.at_=y.at_)):=ZV (Y2 Zb Zb) YQ
  exact Z0 6 (ZJ (wk [0,0] (Zf false YQ fl)) hj2)
 refine Zu 6 [1,0] (ib (b:=(x.proc==y.proc)) 10 (fun Xd=>?_) (fun Xd=>?_))
 ·have WY:x.proc=y.proc:=(Zb).1 Xd
  exact Zu 6 [1,0] (ZJ (wk [0,0] (Zf (x.at_==y.at_) Xd fl)) hj1)
 have U5:¬(x.proc=y.proc):=ZV Zb Xd
 exact Z0 6 (ZJ (wk [0,0] (Zf false Xd fl)) hj1)
theorem Z9r (xs:List Tg) (ys:List Tg) (hx:xs.length<=1000000/\∀c∈xs,c.fields.length<=1000000:=by exact ob) (hy:ys.length<=1000000/\∀c∈ys,c.fields.length<=1000000:=by exact ob):Zo 53 [EC xs,EC ys] [] (Ym (.b (decide (xs=ys)))):=by
 refine ZE 27 Tryz.func53 (Y1 (YO 1 (iw (Jc xs) (Z0 1 (iw (Jc ys) (Yz ((xs.length:Int) != (ys.length:Int)) Yi (fun Z9=>?_) (fun Z9=>?_)))))))
 ·exact ar (Zm (ZP (.b false) (lb (decide_eq_false (fun z=>Z9 (by rw [z]))).symm)))
 refine ak (Y6 (ab 0 (Y5 (fun fz gz m F h=>∃(k:Nat),(k<=xs.length)/\(∀i,i<k->xs[i]? = ys[i]?)/\F=sF [0,1] fz [(5,.i k)]/\h=gz/\m=xs.length-k) _ _ _ ⟨0,ob,Z03,rfl,rfl,rfl⟩ (wk [] (Ye fl)) ?_)))
 rintro m F h ⟨k,Yl,Zj,rfl,rfl,rfl⟩
 refine YO 2 (iw (Jc xs) (Y0 ((k:Int)<(xs.length:Int)) (fun Zh=>?_) (fun Zh=>?_)))
 ·refine ak (aq (ab 1 (aD 10 (Zs 8 10 [0,1] ?_))))
  obtain ⟨x1,Z4⟩:=Zv xs k om
  refine dx 2 (Zk none (k:Int) 3 (Nn Z4)) (Zs 4 7 [3,4,5] ?_)
  obtain ⟨x2,Zy⟩:=Zv ys k om
  refine dx 6 (Zk none (k:Int) 3 (Nn Zy)) (Zs 2 3 [7] (Z8 8 (YF 8 [] [] [] (Z9o x1 x2 (h1:=(hx.2 _ (Y4 Z4))) (h2:=(hy.2 _ (Y4 Zy)))) (Zs 0 1 [9] (de (ac (!(decide (x1=x2))) (p:=¬(x1=x2)) (Yg dq) (fun ZC=>?_) (fun ZC=>?_)))))))
  ·exact ar (Zm (ZP (.b false) (lb (decide_eq_false (fun z=>MN Z4 Zy (by assumption) z)).symm)))
  exact ak (az (Z0 1 (ZK k (Z1 (ZM ⟨k+1,ob,(Z04 Zj Z4 Zy (Up.1 (by assumption))),rfl,rfl,rfl⟩ (wk [] (ZW k fl)))))))
 exact ax 0 (ar (Zm (ZP (.b true) (lb (decide_eq_true (Ny om (fun i hi=>Zj i om))).symm))))
theorem Z9q (xs:List UU) (ys:List UU) (hx:xs.length<=1000000/\∀c∈xs,c.regs.length<=1000000/\c.own.length<=1000000/\c.held.length<=1000000:=by exact ob) (hy:ys.length<=1000000/\∀c∈ys,c.regs.length<=1000000/\c.own.length<=1000000/\c.held.length<=1000000:=by exact ob):Zo 54 [Ln xs,Ln ys] [] (Ym (.b (decide (xs=ys)))):=by
 refine ZE 27 Tryz.func54 (Y1 (YO 1 (iw (Cd xs) (Z0 1 (iw (Cd ys) (Yz ((xs.length:Int) != (ys.length:Int)) Yi (fun Z9=>?_) (fun Z9=>?_)))))))
 ·exact ar (Zm (ZP (.b false) (lb (decide_eq_false (fun z=>Z9 (by rw [z]))).symm)))
 refine ak (Y6 (ab 0 (Y5 (fun fz gz m F h=>∃(k:Nat),(k<=xs.length)/\(∀i,i<k->xs[i]? = ys[i]?)/\F=sF [0,1] fz [(5,.i k)]/\h=gz/\m=xs.length-k) _ _ _ ⟨0,ob,Z03,rfl,rfl,rfl⟩ (wk [] (Ye fl)) ?_)))
 rintro m F h ⟨k,Yl,Zj,rfl,rfl,rfl⟩
 refine YO 2 (iw (Cd xs) (Y0 ((k:Int)<(xs.length:Int)) (fun Zh=>?_) (fun Zh=>?_)))
 ·refine ak (aq (ab 1 (aD 10 (Zs 8 10 [0,1] ?_))))
  obtain ⟨x1,Z4⟩:=Zv xs k om
  refine dx 2 (Zk none (k:Int) 6 (E9 Z4)) (Zs 4 7 [3,4,5] ?_)
  obtain ⟨x2,Zy⟩:=Zv ys k om
  refine dx 6 (Zk none (k:Int) 6 (E9 Zy)) (Zs 2 3 [7] (Z8 8 (YF 8 [] [] [] (Z9p x1 x2 (h1:=(hx.2 _ (Y4 Z4))) (h2:=(hy.2 _ (Y4 Zy)))) (Zs 0 1 [9] (de (ac (!(decide (x1=x2))) (p:=¬(x1=x2)) (Yg dq) (fun ZC=>?_) (fun ZC=>?_)))))))
  ·exact ar (Zm (ZP (.b false) (lb (decide_eq_false (fun z=>MN Z4 Zy (by assumption) z)).symm)))
  exact ak (az (Z0 1 (ZK k (Z1 (ZM ⟨k+1,ob,(Z04 Zj Z4 Zy (Up.1 (by assumption))),rfl,rfl,rfl⟩ (wk [] (ZW k fl)))))))
 exact ax 0 (ar (Zm (ZP (.b true) (lb (decide_eq_true (Ny om (fun i hi=>Zj i om))).symm))))
theorem P8 (x:Qw) (y:Qw) (h1:HB x:=by exact ob) (h2:HB y:=by exact ob):Zo 28 [JH x,JH y] [] (Ym (.b (decide (x=y)))):=by
 have ho1:=h1.out
 have ho2:=h2.out
 refine ZE 52 Tryz.func28 (ar (iA (AO x) fun b1=>iA (AO y) fun b2=>Z1 (ar (YK 12 [2,3] [(16,.b ((x.status==y.status)&&(x.value==y.value)))] (fun gz=>gz) ?_ (fun hj1=>?_)))))
 ·refine YK 19 [2,3] [(23,.b (((x.status==y.status)&&(x.value==y.value))&&(x.calls==y.calls)))] (fun gz=>gz) ?_ (fun hj2=>?_)
  ·refine YK 26 [2,3] [(30,.b ((((x.status==y.status)&&(x.value==y.value))&&(x.calls==y.calls))&&(x.most==y.most)))] (fun gz=>gz) ?_ (fun hj3=>?_)
   ·refine YK 33 [2,3] [(37,.b (((((x.status==y.status)&&(x.value==y.value))&&(x.calls==y.calls))&&(x.most==y.most))&&(decide (x.out=y.out))))] (fun gz=>gz) ?_ (fun hj4=>?_)
    ·refine YK 40 [2,3] [(44,.b ((((((x.status==y.status)&&(x.value==y.value))&&(x.calls==y.calls))&&(x.most==y.most))&&(decide (x.out=y.out)))&&(decide (x.heap=y.heap))))] (fun gz=>gz) ?_ (fun hj5=>?_)
     ·refine YK 47 [] [(51,.b (((((((x.status==y.status)&&(x.value==y.value))&&(x.calls==y.calls))&&(x.most==y.most))&&(decide (x.out=y.out)))&&(decide (x.heap=y.heap)))&&(decide (x.frames=y.frames))))] (fun gz=>gz) ?_ (fun hj6=>?_)
      ·exact Zm (ZP (.b (((((((x.status==y.status)&&(x.value==y.value))&&(x.calls==y.calls))&&(x.most==y.most))&&(decide (x.out=y.out)))&&(decide (x.heap=y.heap)))&&(decide (x.frames=y.frames)))) (lb (by rw [Yb];simp only [Xb,decide_eq_true_eq,Zb,Qw.eq_iff,and_assoc])))
      refine Z0 1 (ib (b:=((((((x.status==y.status)&&(x.value==y.value))&&(x.calls==y.calls))&&(x.most==y.most))&&(decide (x.out=y.out)))&&(decide (x.heap=y.heap)))) 45 (fun Za=>?_) (fun Za=>?_))
      ·have Y3:(((((x.status=y.status)/\(x.value=y.value))/\(x.calls=y.calls))/\(x.most=y.most))/\(x.out=y.out))/\(x.heap=y.heap):=((Y2 (Y2 (Y2 (Y2 (Y2 Zb Zb) Zb) Zb) dq) dq)).1 Za
       exact Zu 4 [1,0] (Zt [] (Z9q x.frames y.frames (hx:=h1.frames) (hy:=h2.frames)) (Z0 1 (ZJ (wk [0,0] (Zf (decide (x.frames=y.frames)) Za fl)) hj6)))
      have Yq:¬((((((x.status=y.status)/\(x.value=y.value))/\(x.calls=y.calls))/\(x.most=y.most))/\(x.out=y.out))/\(x.heap=y.heap)):=ZV (Y2 (Y2 (Y2 (Y2 (Y2 Zb Zb) Zb) Zb) dq) dq) Za
      exact Z0 6 (ZJ (wk [0,0] (Zf false Za fl)) hj6)
     refine Z0 1 (ib (b:=(((((x.status==y.status)&&(x.value==y.value))&&(x.calls==y.calls))&&(x.most==y.most))&&(decide (x.out=y.out)))) 38 (fun ZA=>?_) (fun ZA=>?_))
     ·have YR:((((x.status=y.status)/\(x.value=y.value))/\(x.calls=y.calls))/\(x.most=y.most))/\(x.out=y.out):=((Y2 (Y2 (Y2 (Y2 Zb Zb) Zb) Zb) dq)).1 ZA
      exact Zu 4 [1,0] (Zt [] (Z9r x.heap y.heap (hx:=h1.heap) (hy:=h2.heap)) (Z0 1 (ZJ (wk [0,0] (Zf (decide (x.heap=y.heap)) ZA fl)) hj5)))
     have X1:¬(((((x.status=y.status)/\(x.value=y.value))/\(x.calls=y.calls))/\(x.most=y.most))/\(x.out=y.out)):=ZV (Y2 (Y2 (Y2 (Y2 Zb Zb) Zb) Zb) dq) ZA
     exact Z0 6 (ZJ (wk [0,0] (Zf false ZA fl)) hj5)
    refine Z0 1 (ib (b:=((((x.status==y.status)&&(x.value==y.value))&&(x.calls==y.calls))&&(x.most==y.most))) 31 (fun Yf=>?_) (fun Yf=>?_))
    ·have Xe:(((x.status=y.status)/\(x.value=y.value))/\(x.calls=y.calls))/\(x.most=y.most):=((Y2 (Y2 (Y2 Zb Zb) Zb) Zb)).1 Yf
     exact Zu 4 [1,0] (Zt [] (Ez x.out y.out) (Z0 1 (ZJ (wk [0,0] (Zf (decide (x.out=y.out)) Yf fl)) hj4)))
    have XO:¬((((x.status=y.status)/\(x.value=y.value))/\(x.calls=y.calls))/\(x.most=y.most)):=ZV (Y2 (Y2 (Y2 Zb Zb) Zb) Zb) Yf
    exact Z0 6 (ZJ (wk [0,0] (Zf false Yf fl)) hj4)
   refine Z0 1 (ib (b:=(((x.status==y.status)&&(x.value==y.value))&&(x.calls==y.calls))) 24 (fun YQ=>?_) (fun YQ=>?_))
   ·have W9:((x.status=y.status)/\(x.value=y.value))/\(x.calls=y.calls):=((Y2 (Y2 Zb Zb) Zb)).1 YQ
    exact Zu 6 [1,0] (ZJ (wk [0,0] (Zf (x.most==y.most) YQ fl)) hj3)
   have WB:¬(((x.status=y.status)/\(x.value=y.value))/\(x.calls=y.calls)):=ZV (Y2 (Y2 Zb Zb) Zb) YQ
   exact Z0 6 (ZJ (wk [0,0] (Zf false YQ fl)) hj3)
  refine Z0 1 (ib (b:=((x.status==y.status)&&(x.value==y.value))) 17 (fun Xd=>?_) (fun Xd=>?_))
  ·have WY:(x.status=y.status)/\(x.value=y.value):=((Y2 Zb Zb)).1 Xd
   exact Zu 6 [1,0] (ZJ (wk [0,0] (Zf (x.calls==y.calls) Xd fl)) hj2)
  have U5:¬((x.status=y.status)/\(x.value=y.value)):=ZV (Y2 Zb Zb) Xd
  exact Z0 6 (ZJ (wk [0,0] (Zf false Xd fl)) hj2)
 refine Zu 6 [1,0] (ib (b:=(x.status==y.status)) 10 (fun Xw=>?_) (fun Xw=>?_))
 ·have Uy:x.status=y.status:=(Zb).1 Xw
  exact Zu 6 [1,0] (ZJ (wk [0,0] (Zf (x.value==y.value) Xw fl)) hj1)
 have Ub:¬(x.status=y.status):=ZV Zb Xw
 exact Z0 6 (ZJ (wk [0,0] (Zf false Xw fl)) hj1)
end Go.Abs
