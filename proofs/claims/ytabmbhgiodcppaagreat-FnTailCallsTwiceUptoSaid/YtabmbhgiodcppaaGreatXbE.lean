/-
  A part of the proofs of several laws (see the last file): no condition.
-/
import Derived.Test.YtabmbhgiodcppaaGreatXbD
set_option linter.all false
set_option linter.unusedVariables false
set_option linter.unusedSimpArgs false
set_option linter.unusedSectionVars false
set_option maxRecDepth 10000
set_option maxHeartbeats 4000000
namespace Go.Abs
open Go.Proofs
theorem Zfz (b:Z8) (hz:b.sz<=1000000000:=by exact ob):Zp 171 [Yo b] [] (Yz (.i (((XN b.steps):Nat):Int))):=by
 have hbz:=UH b
 refine ZG 20 Tryz.func171 (ar (iA (W0 b) fun b1=>?_))
 refine Z2 (Y3 (aq (ab 0 (Y6 (fun fz gz m F h=>∃(k:Nat),(k<=b.steps.length)/\(k+XN (b.steps.drop k)=XN b.steps)/\F=sF [1] fz [(3,.i k)]/\h=gz/\m=b.steps.length-k) _ _ _ ⟨0,ob,(by simp),rfl,rfl,rfl⟩ (wk [0] (Ye fl)) ?_))))
 rintro m F h ⟨k,Yk,Zh,rfl,rfl,rfl⟩
 refine Yp 3 [0] (iw (UK b.steps) (Z0 2 (ib (b:=(decide ((k:Int)<(b.steps.length:Int)))) 9 (fun Zc=>?_) (fun Zc=>?_))))
 ·have Y9:(k:Int)<(b.steps.length:Int):=(dq).1 Zc
  refine ZA 3 [0] ?_
  obtain ⟨x1,Z3⟩:=Zu b.steps k om
  refine Zq (Zi none (k:Int) 5 (Vc Z3)) (Z0 1 (Zv [] (Z0j x1) (YD ((x1.op==14)||(x1.op==15)) (p:=(x1.op=14)∨(x1.op=15)) (ZO Zf Zf) (fun Za=>?_) (fun Za=>?_))))
  ·exact ak (ab 1 (az (Z0 1 (ZE k (Z2 (ZH ⟨k+1,ob,(Zeh Z3 Za Zh),rfl,rfl,rfl⟩ (wk [0] (ZJ k fl))))))))
  exact ax 0 (ar (Zm (ZW (.i k) (li (by have:=Zei Z3 Za Zh;omega)))))
 have Yt:¬((k:Int)<(b.steps.length:Int)):=Y4 dq Zc
 exact Z2 (Vb (ax 0 (ar (Zm (ZW (.i k) (li (by have:=Zeg om Zh;omega)))))))
theorem Z0d (b:Z8) (mm:Nat) (op:Int) (hm:mm<=b.steps.length:=by exact ob) (ha:∀s∈b.steps.take mm,s.op=op->∃a,s.args=[a]) (hz:b.sz<=1000000000:=by exact ob):Zp 172 [Yo b,.i mm,.i op] [] (fun r h=>∃(v:Value),r=ZL (Wo op (b.steps.take mm)) v/\h=[.tail v 1]):=by
 have hbz:=UH b
 refine ZG 35 Tryz.func172 (ar (iA (W0 b) fun b1=>Z2 (ar (iL (Z6 []) 0 1 fun v1=>?_))))
 refine Z2 (Y8 (ab 0 (Y6 (fun fz gz m F h=>∃(k:Nat) (acc:LI) (v:Value),(k<=mm)/\(acc.length<=k)/\(acc++Wo op ((b.steps.take mm).drop k)=Wo op (b.steps.take mm))/\F=sF [1,2,3] fz [(7,ZL acc v),(8,.i k)]/\h=[Zg gz 1,.tail v 1]/\m=mm-k) _ _ _ ⟨0,[],v1,ob,ob,(by simp),rfl,rfl,rfl⟩ (wk [1,0] (fr (Ye fl))) ?_)))
 rintro m F h ⟨k,acc,v,Yk,Zh,ZB,rfl,rfl,rfl⟩
 refine Xk (Y2 ((k:Int)<(mm:Int)) (fun Za=>?_) (fun Za=>?_))
 ·refine ak (aq (ab 1 (Zs 3 [0] ?_)))
  obtain ⟨x1,Z3⟩:=Zu b.steps k om
  have hxt:(b.steps.take mm)[k]? = some x1:=by rw [List.getElem?_take_of_lt om];exact Z3
  have hxm:=Y7 hxt
  refine Zq (Zi none (k:Int) 5 (Vc Z3)) (YD (x1.op==op) Zf (fun Zj=>?_) (fun Zj=>?_))
  ·refine az (ZA 4 [0] (Zq (Zi none (k:Int) 5 (Vc Z3)) (Z0 2 ?_)))
   obtain ⟨x2,Zw⟩:=Zu x1.args 0 (by obtain ⟨a,ha2⟩:=ha x1 hxm Zj;rw [ha2];simp)
   have hg0:=QB Zw
   exact Zq (Zi none 0 1 (Yb Zw)) (Z0 1 (iL (Z6 [x2]) 1 1 fun v2=>ZY 0 [(32,Z4 [x2])] (ip 2 (Z6 (acc++[x2])) (Z6 acc) (Z6 [x2]) v none 1 (YH _) (YH _) (W4 _) (by simp<;>omega) (by simp [Wa,Z6]) fun v3=>Z2 (az (Z0 1 (ZE k (Z2 (ZH ⟨k+1,(acc++[x2]),v3,ob,(by simp;omega),(by have h:=Z36 hxt Zj ZB;rw [hg0] at h;exact h),rfl,rfl,rfl⟩ (wk [2,0] (fr (ZJ k fl)))))))))))
  exact ak (az (Z0 1 (ZE k (Z2 (ZH ⟨k+1,acc,v,ob,ob,(Z35 hxt Zj ZB),rfl,rfl,rfl⟩ (wk [0,0] (fr (ZJ k fl))))))))
 exact ax 0 (ar (Zm (r2 [1] [ZL acc v] ⟨v,rfl,rfl⟩ (Ze.slh _ (Yq Z6 (Z34 (by rw [XW];omega) ZB))))))
theorem Z0w (xs:LI) (y:Int) (hl:xs.length<=1000000000:=by exact ob):Zp 173 [Z4 xs,.i y] [] (fun r h=>∃(v:Value),r=ZL (xs.erase y) v/\h=[.tail v 1]):=by
 refine ZG 33 Tryz.func173 (Y3 (ar (iL (Z6 []) 0 1 fun v1=>?_)))
 refine Z2 (Y3 (Y8 (ab 0 (Y6 (fun fz gz m F h=>∃(k:Nat) (acc:LI) (d:Bool) (v:Value),(k<=xs.length)/\(acc.length<=k)/\(acc++(if d=true then xs.drop k else (xs.drop k).erase y)=xs.erase y)/\F=sF [0,1] fz [(5,ZL acc v),(6,.b d),(7,.i k)]/\h=[.tail v 1]/\m=xs.length-k) _ _ _ ⟨0,[],false,v1,ob,ob,(by simp),rfl,rfl,rfl⟩ (wk [0] (fw (Ye fl))) ?_))))
 rintro m F h ⟨k,acc,d,v,Yk,Zh,ZB,rfl,rfl,rfl⟩
 refine YP 2 (iw (Yi xs) (Y2 ((k:Int)<(xs.length:Int)) (fun Za=>?_) (fun Za=>?_)))
 ·refine ak (aq (ab 1 (Yj 2 ?_)))
  obtain ⟨x1,Z3⟩:=Zu xs k om
  refine Zq (Zi none (k:Int) 1 (Yb Z3)) (Xu [0,1,5,6,7] [(24,.b ((x1==y)&&(!d)))] (fun gz=>gz) ?_ ?_)
  ·refine Z0 4 (ib (b:=(x1==y)) 21 (fun Zc=>?_) (fun Zc=>?_))
   ·exact Z2 (wk [0] (Zl (!d) Zc fl))
   exact Z2 (wk [0] (Zl false Zc fl))
  refine Ab (fun fz gz F h=>∃(w:Value),F=sF [0,1,7] fz [(5,ZL (if (x1=y)/\(¬(d=true)) then acc else (acc++[x1])) w),(6,.b (((x1==y)&&(!d))||d))]/\h=[.tail w 1]) (fun _ _=>rfl) ?_ ?_
  ·refine ac ((x1==y)&&(!d)) (p:=(x1=y)/\(¬(d=true))) (Ys Zf (Yd Iff.rfl)) (fun Zj=>?_) (fun Zj=>?_)
   ·exact VC (ZI ⟨v,rfl,rfl⟩ (wk [0] (fc (x:=ZL acc v) (Ze.slh _ (Yq Z6 (by first|rfl|(rw [Zk Zj])|(rw [Zb Zj])|(simp [Zj];done)|(rw [Yc];simp [Zj];done)|omega))) (fc (x:=.b true) (lb (by first|rfl|(rw [Zk Zj])|(rw [Zb Zj])|(simp [Zj];done)|(rw [Yc];simp [Zj];done)|omega)) fl))))
   exact az (Z0 3 (Zq (Zi none (k:Int) 1 (Yb Z3)) (Z0 1 (iL (Z6 [x1]) 1 1 fun v2=>ZY 0 [(30,Z4 [x1])] (ip 1 (Z6 (acc++[x1])) (Z6 acc) (Z6 [x1]) v none 1 (YH _) (YH _) (W4 _) (by simp<;>omega) (by simp [Wa,Z6]) fun v3=>Z2 (ZI ⟨v3,rfl,rfl⟩ (wk [0] (fc (x:=ZL (acc++[x1]) v3) (Ze.slh _ (Yq Z6 (by first|rfl|(rw [Zk Zj])|(rw [Zb Zj])|(simp [Zj];done)|(rw [Yc];simp [Zj];done)|omega))) (fc (x:=.b d) (lb (by cases d<;>simp_all)) fl)))))))))
  rintro F h ⟨w,rfl,rfl⟩
  exact az (Z0 1 (ZE k (Z2 (ZH ⟨k+1,(if (x1=y)/\(¬(d=true)) then acc else (acc++[x1])),(((x1==y)&&(!d))||d),w,ob,(by split<;>(try simp)<;>omega),(Z5w Z3 ZB),rfl,rfl,rfl⟩ (wk [0] (fw (ZJ k fl)))))))
 exact ax 0 (ar (Zm (r2 [0] [ZL acc v] ⟨v,rfl,rfl⟩ (Ze.slh _ (Yq Z6 (Z5v om ZB))))))
theorem Zfq (b:Z8) (x:Int) (fs:LI) (q:Nat) (ha:∀s∈b.steps,YO s.op=true->∃a,s.args=[a]) (hf:fs.length<=3:=by exact ob) (hq:q<=1000000000:=by exact ob) (hz:b.sz<=900000000:=by exact ob):Zp 147 [Yo b,.i x,Z4 fs,.i q] [] (Yz (Yo (Ks b x fs q))):=by
 have hbz:=UH b
 have hrl:=HK b.steps
 have hal:=Iw (b.steps.take (XN b.steps))
 rw [XW] at hal
 have her:=List.length_erase_le (a:=x) (l:=Wo 15 (b.steps.take (XN b.steps)))
 have har:∀op:Int,YO op=true->∀s∈b.steps.take (XN b.steps),s.op=op->∃a,s.args=[a]:=fun op ho s hs e=>ha s (QR hs) (by rw [e];exact ho)
 refine ZG 88 Tryz.func147 (ar (iA (W0 b) fun b1=>iA [nl,.i 0] fun b2=>ie (Zs 1 [1] (Zv [] (Zfz b) (Z2 (Zs 2 [1] (ic [] (Z0d b (XN b.steps) 14 (ha:=(har _ rfl))) ?_)))))))
 rintro _ _ ⟨v1,rfl,rfl⟩
 refine Z2 (Zs 2 [2] (ic [] (Z0d b (XN b.steps) 15 (ha:=(har _ rfl))) ?_))
 rintro _ _ ⟨v2,rfl,rfl⟩
 refine Z2 (Xk (ZY 2 [(22,Z4 (Wo 15 (b.steps.take (XN b.steps))))] (Zv [] (UV (Wo 15 (b.steps.take (XN b.steps))) x) (Xu [1,2,3,4,8,9,10,11] [(30,.b ((!(decide (x∈(Wo 15 (b.steps.take (XN b.steps))))))||((fs.length:Int)==0)))] (fun gz=>gz) ?_ ?_))))
 ·refine Z0 2 (ib (b:=(!(decide (x∈(Wo 15 (b.steps.take (XN b.steps))))))) 26 (fun Zc=>?_) (fun Zc=>?_))
  ·exact Z2 (Zt 4 (Zl true Zc fl))
  exact Z0 1 (iw (Yi fs) (Z2 (Zt 4 (Zl ((fs.length:Int)==0) Zc fl))))
 refine ac ((!(decide (x∈(Wo 15 (b.steps.take (XN b.steps))))))||((fs.length:Int)==0)) (p:=(¬(x∈(Wo 15 (b.steps.take (XN b.steps)))))∨((fs.length:Int)=0)) (ZO (Yd dq) Zf) (fun Za=>?_) (fun Za=>?_)
 ·exact Zs 1 [3] (Zy 2 b2 (W0 b) (ie (ZQ (r3 [] [Yo b] [0] [(b2,b2)] ⟨rfl,rfl⟩ (Ze.agg (.cons (Ze.sl _ (Yq ZV (Z2v (fun z=>Za.elim (fun e=>e z.1) (fun e=>z.2 om))).symm)) (.cons li .nil)))))))
 refine ak (ar (ZY 2 [(32,Z4 (Wo 15 (b.steps.take (XN b.steps))))] (ic [] (Z0w (Wo 15 (b.steps.take (XN b.steps))) x) ?_)))
 rintro _ _ ⟨v3,rfl,rfl⟩
 refine Z2 (Y8 (ab 0 (Y6 (fun fz gz m F h=>∃(k:Nat) (D:LI) (R:LI) (v:Value),(k<=fs.length)/\(D.length<=b.steps.length)/\(R.length<=b.steps.length+k)/\(Uw (fs.drop k) (q+k) D R=Jb b.steps x fs q)/\F=sF [1,2,3,4,8,9] fz [(10,Z4 D),(11,ZL R v),(12,.i k)]/\h=[Zg gz 3,Zg gz 4,.tail v 1]/\m=fs.length-k) _ _ _ ⟨0,(Wo 14 (b.steps.take (XN b.steps))),((Wo 15 (b.steps.take (XN b.steps))).erase x),v3,ob,om,om,(by simp [Jb]),rfl,rfl,rfl⟩ (wk [3,3,0] (fc (x:=ZL (Wo 14 (b.steps.take (XN b.steps))) v1) (Ze.forget _ _) (fr (Ye fl)))) ?_)))
 rintro m F h ⟨k,D,R,v,Yk,Zh,ZB,YN,rfl,rfl,rfl⟩
 refine YP 2 (iw (Yi fs) (Y2 ((k:Int)<(fs.length:Int)) (fun Zj=>?_) (fun Zj=>?_)))
 ·refine ak (aq (ab 1 (Yj 2 ?_)))
  obtain ⟨x1,Z3⟩:=Zu fs k om
  refine Zq (Zi none (k:Int) 1 (Yb Z3)) (Xu [1,2,3,4,8,9,10,11,12] [(52,.b ((x1 != 0)&&(decide (((q+k:Nat):Int)∈D))))] (fun gz=>gz) ?_ ?_)
  ·refine Z0 3 (ib (b:=(x1 != 0)) 46 (fun ZD=>?_) (fun ZD=>?_))
   ·exact Z0 3 (ia (((q+k:Nat):Int)) (((q:Int))+((k:Int))) (Zv [] (UV D ((q+k:Nat):Int)) (Z2 (Zt 3 (Zl (decide (((q+k:Nat):Int)∈D)) ZD fl)))))
   exact Z2 (Zt 3 (Zl false ZD fl))
  refine Ab (fun fz gz F h=>∃(D2:LI) (R2:LI) (w:Value),(Uw (fs.drop (k+1)) (q+((k+1:Nat):Int)) D2 R2=Jb b.steps x fs q)/\(D2.length<=b.steps.length)/\(R2.length<=b.steps.length+(k+1))/\F=sF [1,2,3,4,8,9,12] fz [(10,Z4 D2),(11,ZL R2 w)]/\h=[Zg gz 0,Zg gz 1,.tail w 1]) (fun _ _=>rfl) ?_ ?_
  ·refine ac ((x1 != 0)&&(decide (((q+k:Nat):Int)∈D))) (p:=(x1≠0)/\(((q+k:Nat):Int)∈D)) (Ys Ym dq) (fun Zz=>?_) (fun Zz=>?_)
   ·refine az (Z0 3 (ia (((q+k:Nat):Int)) (((q:Int))+((k:Int))) (ic [] (Z0w D ((q+k:Nat):Int)) ?_)))
    rintro _ _ ⟨v4,rfl,rfl⟩
    exact Z2 (ZI ⟨(D.erase ((q+k:Nat):Int)),R,v,(Zcu Z3 Zz.1 Zz.2 YN),(V9 List.length_erase_le Zh),ob,rfl,rfl⟩ (wk [1,1,1] fl))
   refine Yj 2 (Zq (Zi none (k:Int) 1 (Yb Z3)) (YD (x1 != 0) Ym (fun Yg=>?_) (fun Yg=>?_)))
   ·exact az (Z0 3 (ia (((q+k:Nat):Int)) (((q:Int))+((k:Int))) (iL (Z6 [((q+k:Nat):Int)]) 1 1 fun v5=>ZY 0 [(67,Z4 [((q+k:Nat):Int)])] (ip 3 (Z6 (R++[((q+k:Nat):Int)])) (Z6 R) (Z6 [((q+k:Nat):Int)]) v none 1 (YH _) (YH _) (W4 _) (by simp<;>omega) (by simp [Wa,Z6]) fun v6=>Z2 (ZI ⟨D,(R++[((q+k:Nat):Int)]),v6,(Zcv Z3 Yg (fun z=>Zz ⟨Yg,z⟩) YN),ob,(by simp;omega),rfl,rfl⟩ (wk [2,2,0] fl))))))
   exact ak (ZI ⟨D,R,v,(Zcw Z3 Yg YN),ob,ob,rfl,rfl⟩ (Zt 3 fl))
  rintro F h ⟨D2,R2,w,EZ,LT,DP,rfl,rfl⟩
  exact az (Z0 1 (ZE k (Z2 (ZH ⟨k+1,D2,R2,w,ob,ob,ob,ob,rfl,rfl,rfl⟩ (Zt 3 (fw (ZJ k fl)))))))
 refine ax 0 (Yj 1 (ic [] (KL 14 D) ?_))
 rintro _ _ ⟨v7,rfl,rfl⟩
 refine Z0 1 (Zv [] (C2 16 x) (iL [X5 (Zx 16 x)] 1 5 fun v8=>ZY 0 [(73,.sl [X5 (Zx 16 x)] none)] (ip 1 (ZV ((D.map (Zx 14))++[Zx 16 x])) (ZV (D.map (Zx 14))) [X5 (Zx 16 x)] v7 none 5 (XH _) (KC rfl) rfl (by simp<;>omega) (by simp [VB,Uc]) fun v9=>Z2 (ar (ZY 2 [(76,Z4 R)] (ic [] (KL 15 R) ?_))))))
 rintro _ _ ⟨v10,rfl,rfl⟩
 refine ZY 0 [(77,Vx (R.map (Zx 15)))] (ip 1 (ZV (((D.map (Zx 14))++[Zx 16 x])++(R.map (Zx 15)))) (ZV ((D.map (Zx 14))++[Zx 16 x])) (ZV (R.map (Zx 15))) v9 none 5 (XH _) (XH _) (Uv _) (by simp<;>omega) (by simp [VB,ZV]) fun v11=>Z2 (aD 10 (ZZ 6 10 [0,1,2,3] [4] (dx 4 (Bh (es:=ZV b.steps) (hv:=none) (l:=(((XN b.steps):Nat):Int)) (m:=(((ZV b.steps).length:Nat):Int)) (sz:=5) (es':=ZV (b.steps.drop (XN b.steps))) kr om (by simp<;>omega) (by simp<;>omega) (XH _) (by first|(simp only [TF,UA,AT,AS];done)|(simp only [TF,UA,AT,AS];rfl)|(simp [AT,AS];done))) (ZZ 3 5 [6,7] [4] (Z7 5 (dp 5 0 [1] [b1] (ZV ((((D.map (Zx 14))++[Zx 16 x])++(R.map (Zx 15)))++(b.steps.drop (XN b.steps)))) (ZV (((D.map (Zx 14))++[Zx 16 x])++(R.map (Zx 15)))) (ZV (b.steps.drop (XN b.steps))) v11 none 5 (XH _) (XH _) (Uv _) (by simp<;>omega) (by simp [VB,ZV]) fun v12=>Zo 1 2 [8] (Z7 9 (X1 9 3 [] [] b2 [Xi ((((D.map (Zx 14))++[Zx 16 x])++(R.map (Zx 15)))++(b.steps.drop (XN b.steps))) v12,.i b.result] (de ?_))))))))))
 have hE:=Z2x (VX.1 fun z=>Za (.inl z)) (fun z=>Za (.inr om)) (Zct om YN)
 exact ZQ (r3 [] [.agg [Xi ((((D.map (Zx 14))++[Zx 16 x])++(R.map (Zx 15)))++(b.steps.drop (XN b.steps))) v12,.i b.result]] [0] [(b2,b2)] ⟨rfl,rfl⟩ (Ze.agg (.cons (Ze.sl _ (Yq ZV hE)) (.cons li .nil))))
theorem Zg4 (n:ZF) (b:Z8) (mm:Nat) (hn:Xx n) (hw:wB n.decls b) (hb:mm+9*b.sz<=900000000) (ih:∀(b2:Z8) (m2:Nat),(wB n.decls b2)->(m2+9*b2.sz<=900000000)->(b2.sz<b.sz)->Zp 121 [YG n,Yo b2,.i m2] [] (Yz (Yo (WU n.decls m2 b2)))):Zp 121 [YG n,Yo b,.i mm] [] (Yz (Yo (WU n.decls mm b))):=by
 have Xn:=hn.decls
 have hbz:=UH b
 have ZK:=(Jk b).1 hw
 refine ZG 107 Tryz.func121 (ar (iA (X8 n) fun b1=>iA (W0 b) fun b2=>iA [nl,.i 0] fun b3=>ie (ar (iL (ZV []) 0 5 fun v1=>ZA 3 [2] (iA [nl,.i 0] fun b4=>?_)))))
 refine Zy 0 b4 [Xi [] v1,.i b.result] (ie (Y8 (ab 0 (Y6 (fun fz gz m F h=>∃(k:Nat) (q:Nat) (xs:List Z5) (v:Value),(k<=b.steps.length)/\(q<=mm+k)/\(xs.length=k)/\(xs++U5 n.decls q (b.steps.drop k)=U5 n.decls mm b.steps)/\F=sF [3,4,6,7] fz [(2,.i q),(8,.i k)]/\h=[.obj b4 [Xi xs v,.i b.result],Zg gz 2,Zg gz 3,Zg gz 4,.tail v 5]/\m=b.steps.length-k) _ _ _ ⟨0,mm,[],v1,ob,ob,ob,rfl,rfl,rfl,rfl⟩ (wk [0,1,1,1,0] (fr (Ye fl))) ?_))))
 rintro m F h ⟨k,q,xs,v,Yk,Zh,ZB,YN,rfl,rfl,rfl⟩
 refine Yp 3 [2] (iw (UK b.steps) (Y2 ((k:Int)<(b.steps.length:Int)) (fun Za=>?_) (fun Za=>?_)))
 ·refine ak (aq (ab 1 (Zs 3 [2] ?_)))
  obtain ⟨x1,Z3⟩:=Zu b.steps k om
  have XQ:=D8 Z3
  have hws:=Z1x hw Z3
  have hkz:=K9 x1
  have haz:=Jr x1
  have hdf:=Zi6 hws
  refine Zq (Zi none (k:Int) 5 (Vc Z3)) (Z0 1 (iA [.i 0,.i 0,.i 0,nl,nl] fun b5=>Zy 0 b5 (Wd x1) (ie (ar (iL (XR []) 0 2 fun v2=>Z2 (Zs 4 [5,1] (ic [] (Jf n.decls x1.num) ?_)))))))
  rintro _ _ ⟨v3,rfl,rfl⟩
  refine Z2 (Y8 (ab 2 (Y6 (fun fz gz m F h=>∃(j:Nat) (u:Value) (ks:List Z8),(j<=x1.kids.length)/\(ks.length=j)/\(ks++UU n.decls q x1.op x1.num x1.args (x1.kids.drop j) j=UU n.decls q x1.op x1.num x1.args x1.kids 0)/\F=sF [2,3,4,6,7,8,9,11] fz [(10,Qq ks u),(12,.i j)]/\h=[Zg gz 2,Zg gz 3,Zg gz 4,Zg gz 5,Zg gz 6,.tail u 2,Zg gz 7,Zg gz 0]/\m=x1.kids.length-j) _ _ _ ⟨0,v2,[],ob,ob,(by simp),rfl,rfl,rfl⟩ (wk [2,2,2,2,2,1,1,0] (fr (Ye fl))) ?_)))
  rintro m F h ⟨j,u,ks,Vr,Xs,XU,rfl,rfl,rfl⟩
  refine Yp 3 [0] (iw (Kw x1.kids) (Y2 ((j:Int)<(x1.kids.length:Int)) (fun Zj=>?_) (fun Zj=>?_)))
  ·refine ak (aq (ab 3 (Qg [0] (ac (x1.op==8) Zf (fun Zz=>?_) (fun Zz=>?_)))))
   ·refine aD 8 (ZZ 4 8 [0,1,2,3] [4] ?_)
    obtain ⟨x2,Zw⟩:=Zu (Y0 n.decls x1.num) j (by have h:=(FL hws (by assumption)).2;omega)
    have hfk:Wy n.decls x1.num j=ZP n.decls x2:=Lj (by rw [Kq,Zw];rfl)
    have hcf:=Vs Xn x2
    refine dx 4 (Zi (some v3) (j:Int) 1 (Yb Zw)) (Zo 2 3 [5] (Z7 6 (YE 6 [] [] [] (Qr n.decls x2) (Zo 0 1 [7] (de (aE 22 (ZZ 17 22 [0,1,2,3,4] [4,0] ?_)))))))
    obtain ⟨x3,YT⟩:=Zu x1.kids j om
    have hkb:=YT
    have hks:=Qo YT
    have hwk:=N6 hws YT
    have hpk:=Z8.pz_le x3
    refine dx 5 (Zi none (j:Int) 2 (T0 YT)) (Zo 13 16 [6,7,8] (dn 9 (.i (((ZP n.decls x2).length:Nat):Int)) (.i (((Z6 (ZP n.decls x2)).length:Nat):Int)) (li (by rw [Yi])) (da 10 (((q+((ZP n.decls x2).length):Nat):Int)) (((q:Int))+((((ZP n.decls x2).length:Nat):Int))) (ZZ 9 11 [12,13] [0] ?_))))
    obtain ⟨x4,Vn⟩:=Zu x1.args 0 (by obtain ⟨⟨a,ha2,_⟩,_⟩:=FL hws (by assumption);rw [ha2];simp)
    have hg1:=QB Vn
    exact dx 14 (Zi none 0 1 (Yb Vn)) (Zo 5 8 [15,16,17] (Z7 11 (YE 11 [] [0] [b5] (ih x3 (q+((ZP n.decls x2).length)) hwk ob ob) (Z7 18 (YE 18 [] [] [] (Zfq (WU n.decls (q+((ZP n.decls x2).length)) x3) x4 (ZP n.decls x2) q (ha:=(by rw [HR];exact Zf3 ((Jk _).1 hwk))) (hz:=(V9 (HS Xn _ hwk) om))) (Z7 19 (dL 19 [] [] [Yo (Ks (WU n.decls (q+((ZP n.decls x2).length)) x3) x4 (ZP n.decls x2) q)] 1 2 fun v4=>Yx 2 2 [] [(72,.sl [Yo (Ks (WU n.decls (q+((ZP n.decls x2).length)) x3) x4 (ZP n.decls x2) q)] none)] (Z7 20 (dp 20 6 [] [] (XR (ks++[Ks (WU n.decls (q+((ZP n.decls x2).length)) x3) x4 (ZP n.decls x2) q])) (XR ks) [Yo (Ks (WU n.decls (q+((ZP n.decls x2).length)) x3) x4 (ZP n.decls x2) q)] u none 2 (KZ _) (KC rfl) rfl (by simp<;>omega) (by simp [Cz,QY]) fun v5=>Zo 0 1 [21] (de (az (Z0 1 (ZE j (Z2 (ZH ⟨j+1,v5,(ks++[Ks (WU n.decls (q+((ZP n.decls x2).length)) x3) x4 (ZP n.decls x2) q]),ob,(by simp;omega),(by have h:=Z06 hkb XU;rw [HT,Zk (by assumption),hfk,hg1] at h;exact h),rfl,rfl,rfl⟩ (wk [2,2,2,2,2,0,1,1] (fr (ZJ j fl))))))))))))))))))
   refine aE 12 (ZZ 7 12 [0,1,2,3,4] [4,0] ?_)
   obtain ⟨x5,Tz⟩:=Zu x1.kids j om
   have hkb:=Tz
   have hks:=Qo Tz
   have hwk:=N6 hws Tz
   have hpk:=Z8.pz_le x5
   exact dx 5 (Zi none (j:Int) 2 (T0 Tz)) (Zo 4 6 [6,7] (Z7 8 (YE 8 [] [] [] (ih x5 q hwk ob ob) (Z7 9 (dL 9 [] [] [Yo (WU n.decls q x5)] 1 2 fun v6=>Yx 2 2 [] [(83,.sl [Yo (WU n.decls q x5)] none)] (Z7 10 (dp 10 6 [] [] (XR (ks++[WU n.decls q x5])) (XR ks) [Yo (WU n.decls q x5)] u none 2 (KZ _) (KC rfl) rfl (by simp<;>omega) (by simp [Cz,QY]) fun v7=>Zo 0 1 [11] (de (az (Z0 1 (ZE j (Z2 (ZH ⟨j+1,v7,(ks++[WU n.decls q x5]),ob,(by simp;omega),(by have h:=Z06 hkb XU;rw [HT,Zb (by assumption)] at h;exact h),rfl,rfl,rfl⟩ (wk [2,2,2,2,2,0,1,1] (fr (ZJ j fl))))))))))))))))
  have hK:=Zf0 om XU
  refine ax 2 (aD 17 (ZZ 6 17 [0,1,2,3,4,5,6,7,8,9,11] [1,0,0,0,0] (Z7 10 (dc 10 [] [0,0,0,1] [b5,b5,b5,b4] (WV x1.args) ?_))))
  rintro _ _ ⟨v8,rfl,rfl⟩
  refine Yx 4 5 [12] [(97,.agg [.i x1.op,.i x1.num,.i x1.into,Z4 x1.args,JK ks])] (Z7 13 (dL 13 [1] [b4] [X5 (Z5.mk x1.op x1.num x1.into x1.args ks)] 1 5 fun v9=>Yx 3 3 [] [(98,.sl [X5 (Z5.mk x1.op x1.num x1.into x1.args ks)] none)] (Z7 14 (dp 14 8 [] [] (ZV (xs++[Z5.mk x1.op x1.num x1.into x1.args ks])) (ZV xs) [X5 (Z5.mk x1.op x1.num x1.into x1.args ks)] v none 5 (XH _) (KC rfl) rfl (by simp<;>omega) (by simp [VB,Uc]) fun v10=>?_))))
  refine Zo 1 2 [15] (Z7 16 (X1 16 4 [] [] b4 [Xi (xs++[Z5.mk x1.op x1.num x1.into x1.args ks]) v10,.i b.result] (de (Zs 2 [4] (Zv [] (Km x1.op) (ie (Ab (fun fz gz F h=>F=sF [3,4,6,7,8] fz [(2,.i (((if YO x1.op=true then q else q+1):Nat):Int))]/\h=[Zg gz 0,Zg gz 5,Zg gz 6,Zg gz 7,Zg gz 1]) (fun _ _=>rfl) ?_ ?_)))))))
  ·refine ac (Xh x1.op) Iff.rfl (fun Yg=>?_) (fun Yg=>?_)
   ·exact az (Z0 1 (ZE q (Z2 (ZI ⟨rfl,rfl⟩ (wk [0,4,4,4,0] (fc (x:=.i (q+1:Nat)) (li (by rw [Zb (fun z=>by rw [hdf,z] at Yg;cases Yg)])) fl))))))
   exact ak (ZI ⟨rfl,rfl⟩ (wk [0,4,4,4,0] (fc (x:=.i q) (li (by rw [Zk (C9 fun z=>Yg (by rw [hdf,Qu.2 z];rfl))])) fl)))
  rintro F h ⟨rfl,rfl⟩
  exact az (Z0 1 (ZE k (Z2 (ZH ⟨k+1,(if YO x1.op=true then q else q+1),(xs++[Z5.mk x1.op x1.num x1.into x1.args ks]),v10,ob,(by split<;>omega),(by simp;omega),(by have h:=Zf5 Z3 YN;rw [<-hK] at h;exact h),rfl,rfl,rfl⟩ (Zt 5 (fr (ZJ k fl)))))))
 exact ax 0 (Zs 1 [0] (Zy 1 b3 [Xi xs v,.i b.result] (ie (ZQ (r3 [] [.agg [Xi xs v,.i b.result]] [0] [(b3,b3)] ⟨rfl,rfl⟩ (Ze.agg (.cons (Ze.sl _ (Yq ZV (by rw [HR];exact Zf4 om YN))) (.cons (li (by rw [HR];rfl)) .nil))))))))
theorem Zg2 (n:ZF) (hn:Xx n) (k:Nat):∀(b2:Z8) (m2:Nat),(wB n.decls b2)->(m2+9*b2.sz<=900000000)->(b2.sz<k)->Zp 121 [YG n,Yo b2,.i m2] [] (Yz (Yo (WU n.decls m2 b2))):=by
 induction k with
 | zero=>intro b mm _ _ h;omega
 | succ k ih=>intro b mm h1 h2 h3;exact Zg4 n b mm hn h1 h2 fun b2 m2 k1 k2 k3=>ih b2 m2 k1 k2 om
theorem Zg3 (n:ZF) (b:Z8) (mm:Nat) (hn:Xx n:=by exact ob) (hw:wB n.decls b:=by exact ob) (hb:mm+9*b.sz<=900000000:=by exact ob):Zp 121 [YG n,Yo b,.i mm] [] (Yz (Yo (WU n.decls mm b))):=Zg2 n hn (b.sz+1) b mm hw hb om
theorem MN (b:Z8) (hz:b.sz<=1000000000:=by exact ob):Zp 175 [Yo b] [] (Yz (.i (((YY b.steps):Nat):Int))):=by
 have hbz:=UH b
 refine ZG 21 Tryz.func175 (ar (iA (W0 b) fun b1=>?_))
 refine Z2 (Y3 (aq (ab 0 (Y6 (fun fz gz m F h=>∃(k:Nat),(k<=b.steps.length)/\(k+YY (b.steps.drop k)=YY b.steps)/\F=sF [1] fz [(3,.i k)]/\h=gz/\m=b.steps.length-k) _ _ _ ⟨0,ob,(by simp),rfl,rfl,rfl⟩ (wk [0] (Ye fl)) ?_))))
 rintro m F h ⟨k,Yk,Zh,rfl,rfl,rfl⟩
 refine Yp 3 [0] (iw (UK b.steps) (Z0 2 (ib (b:=(decide ((k:Int)<(b.steps.length:Int)))) 9 (fun Zc=>?_) (fun Zc=>?_))))
 ·have Y9:(k:Int)<(b.steps.length:Int):=(dq).1 Zc
  refine ZA 3 [0] ?_
  obtain ⟨x1,Z3⟩:=Zu b.steps k om
  refine Zq (Zi none (k:Int) 5 (Vc Z3)) (Z0 2 (Zv [] (Z0i x1.op) (YD (YO x1.op) Iff.rfl (fun Za=>?_) (fun Za=>?_))))
  ·exact ak (ab 1 (az (Z0 1 (ZE k (Z2 (ZH ⟨k+1,ob,(Zba Z3 Za Zh),rfl,rfl,rfl⟩ (wk [0] (ZJ k fl))))))))
  exact ax 0 (ar (Zm (ZW (.i k) (li (by have:=Zbb Z3 Za Zh;omega)))))
 have Yt:¬((k:Int)<(b.steps.length:Int)):=Y4 dq Zc
 exact Z2 (Vb (ax 0 (ar (Zm (ZW (.i k) (li (by have:=Zb9 om Zh;omega)))))))
theorem Z0p (b:Z8) (mm:Nat) (op:Int) (x:Int) (hm:mm<=b.steps.length:=by exact ob) (ha:∀s∈b.steps.take mm,s.op=op->∃a,s.args=[a]) (hz:b.sz<=1000000000:=by exact ob):Zp 176 [Yo b,.i mm,.i op,.i x] [] (Yz (.i (W9 op x (b.steps.take mm) 0))):=by
 have hbz:=UH b
 refine ZG 36 Tryz.func176 (ar (iA (W0 b) fun b1=>?_))
 refine Z2 (Y8 (ab 0 (Y6 (fun fz gz m F h=>∃(k:Nat),(k<=mm)/\(W9 op x ((b.steps.take mm).drop k) k=W9 op x (b.steps.take mm) 0)/\F=sF [1,2,3,4] fz [(9,.i k)]/\h=gz/\m=mm-k) _ _ _ ⟨0,ob,(by simp),rfl,rfl,rfl⟩ (wk [0] (Ye fl)) ?_)))
 rintro m F h ⟨k,Yk,Zh,rfl,rfl,rfl⟩
 refine Xk (Y2 ((k:Int)<(mm:Int)) (fun Za=>?_) (fun Za=>?_))
 ·refine ak (aq (ab 1 (Zs 3 [0] ?_)))
  obtain ⟨x1,Z3⟩:=Zu b.steps k om
  have hxt:(b.steps.take mm)[k]? = some x1:=by rw [List.getElem?_take_of_lt om];exact Z3
  have hxm:=Y7 hxt
  refine Zq (Zi none (k:Int) 5 (Vc Z3)) (Z0 5 (ib (b:=(x1.op==op)) 23 (fun Zc=>?_) (fun Zc=>?_)))
  ·have Y9:x1.op=op:=(Zf).1 Zc
   refine ZA 3 [0] (Zq (Zi none (k:Int) 5 (Vc Z3)) (Z0 2 ?_))
   obtain ⟨x2,Zw⟩:=Zu x1.args 0 (by obtain ⟨a,ha2⟩:=ha x1 hxm (by assumption);rw [ha2];simp)
   have hg0:=QB Zw
   refine Zq (Zi none 0 1 (Yb Zw)) (YD (x2==x) Zf (fun Zj=>?_) (fun Zj=>?_))
   ·exact ar (Zm (ZW (.i k) (li (by have h:=Z3e hxt ⟨by assumption,by rw [hg0];assumption⟩ Zh;omega))))
   exact ak (az (Z0 1 (ZE k (Z2 (ZH ⟨k+1,ob,(Ny hxt (fun z=>Zj (by rw [<-hg0];exact z.2)) Zh),rfl,rfl,rfl⟩ (wk [0] (ZJ k fl)))))))
  have Yt:¬(x1.op=op):=Y4 Zf Zc
  exact Z2 (Vb (ak (az (Z0 1 (ZE k (Z2 (ZH ⟨k+1,ob,(Ny hxt (fun z=>absurd z.1 (by assumption)) Zh),rfl,rfl,rfl⟩ (wk [0] (ZJ k fl)))))))))
 exact ax 0 (ar (Zm (ZW (.i (-1)) (li (by have h:=Z3d (by rw [XW];omega) Zh;omega)))))
theorem Zfc (b:Z8) (frm0:Nat) (many:Nat) (hm:frm0<=b.steps.length:=by exact ob) (hz:b.sz<=1000000000:=by exact ob):Zp 209 [Yo b,.i frm0,.i many] [] (Yz (.i (Wv many (b.steps.drop frm0) frm0))):=by
 have hbz:=UH b
 refine ZG 44 Tryz.func209 (ar (iA (W0 b) fun b1=>?_))
 refine Z2 (Y8 (ab 0 (Y6 (fun fz gz m F h=>∃(k:Nat),(k<=b.steps.length)/\(Wv many (b.steps.drop k) k=Wv many (b.steps.drop frm0) frm0)/\F=sF [2,3] fz [(7,.i k)]/\h=gz/\m=b.steps.length-k) _ _ _ ⟨frm0,ob,rfl,rfl,rfl,rfl⟩ (wk [0] fl) ?_)))
 rintro m F h ⟨k,Yk,Zh,rfl,rfl,rfl⟩
 refine Yp 3 [0] (iw (UK b.steps) (Y2 ((k:Int)<(b.steps.length:Int)) (fun Za=>?_) (fun Za=>?_)))
 ·refine ak (aq (ab 1 (Zs 3 [0] ?_)))
  obtain ⟨x1,Z3⟩:=Zu b.steps k om
  refine Zq (Zi none (k:Int) 5 (Vc Z3)) (X2 16 [2,3,7] [(31,.b ((x1.op==6)&&(x1.into==0)))] (fun gz=>gz) ?_ (fun hj1=>?_))
  ·refine Xu [2,3,7] [(42,.b (((x1.op==6)&&(x1.into==0))&&((x1.args.length:Int)==(many:Int))))] (fun gz=>gz) ?_ ?_
   ·refine Z0 1 (ib (b:=((x1.op==6)&&(x1.into==0))) 32 (fun Zc=>?_) (fun Zc=>?_))
    ·exact ZA 3 [0] (Zq (Zi none (k:Int) 5 (Vc Z3)) (Z0 2 (iw (Yi x1.args) (Z2 (wk [0] (Zl ((x1.args.length:Int)==(many:Int)) Zc fl))))))
    exact Z2 (wk [0] (Zl false Zc fl))
   refine ac (((x1.op==6)&&(x1.into==0))&&((x1.args.length:Int)==(many:Int))) (p:=((x1.op=6)/\(x1.into=0))/\((x1.args.length:Int)=(many:Int))) (Ys (Ys Zf Zf) Zf) (fun Zj=>?_) (fun Zj=>?_)
   ·exact ar (Zm (ZW (.i k) (li (by have h:=Z46 Z3 (show Kv many x1 from ⟨Zj.1,by omega⟩) Zh;omega))))
   exact ak (az (Z0 1 (ZE k (Z2 (ZH ⟨k+1,ob,(Z45 Z3 (fun z=>Zj ⟨z.1,by have:=z.2;omega⟩) Zh),rfl,rfl,rfl⟩ (wk [0] (ZJ k fl)))))))
  refine Z0 4 (ib (b:=(x1.op==6)) 23 (fun ZD=>?_) (fun ZD=>?_))
  ·exact ZA 3 [0] (Zq (Zi none (k:Int) 5 (Vc Z3)) (Z0 4 (Y1 (wk [0] (Zl (x1.into==0) ZD fl)) hj1)))
  exact Z0 8 (Y1 (wk [0] (Zl false ZD fl)) hj1)
 exact ax 0 (ar (Zm (ZW (.i (-1)) (li (by have h:=Z44 om Zh;omega)))))
theorem Z4i (b:Z8) (hz:b.sz<=1000000000):Zp 186 [Yo b] [] (fun r h=>∃(v:Hd),r=.agg [.h v,.i b.result]/\h=[rK v 5 (Z9 (ZV b.steps))]):=by
 have hbz:=UH b
 refine ZG 28 Tryz.func186 (ar (iA (W0 b) fun b1=>iA [nl,.i 0] fun b2=>ie (ar (BK 5 fun g1=>ZA 3 [2] (iA [nl,.i 0] fun b3=>?_)))))
 refine Zy 0 b3 [.ms g1 0 0 0,.i b.result] (ie (Y8 (ab 0 (Y6 (fun fz gz m F h=>∃(k:Nat) (v:Hd),(k<=b.steps.length)/\F=sF [1,2,3] fz [(4,.i k)]/\h=[.obj b3 [.h v,.i b.result],Zg gz 2,Zg gz 3,rK v 5 (Z9 (ZV (b.steps.take k)))]/\m=b.steps.length-k) _ _ _ ⟨0,(⟨some ⟨g1,0,none⟩,0,0⟩:Hd),ob,rfl,rfl,rfl⟩ (wk [0,1,1,0] (Ye fl) (e:=(rc (rc (rc (rr (ls:=[]) ob rz)))))) ?_))))
 rintro m F h ⟨k,v,Yk,rfl,rfl,rfl⟩
 refine Yp 3 [2] (iw (UK b.steps) (Y2 ((k:Int)<(b.steps.length:Int)) (fun Za=>?_) (fun Za=>?_)))
 ·refine ak (aq (ab 1 (aE 12 (ZZ 7 12 [0,1,2,3,4] [0,2] ?_))))
  obtain ⟨x1,Z3⟩:=Zu b.steps k om
  have hss:=Eh Z3
  exact dx 5 (Zi none (k:Int) 5 (Vc Z3)) (Zo 5 6 [6] (Z7 7 (YE 7 [] [0] [b3] (Zfg x1) (Z7 8 (dL 8 [0] [b3] [X5 x1] 1 5 fun v1=>Yx 3 3 [] [(24,.sl [X5 x1] none)] (Z7 9 (IP 9 4 k [] [] v 5 (Z9 (ZV (b.steps.take k))) [X5 x1] none (by rw [DF,XW,VH om]) (KC rfl) rfl (List.cons_ne_nil _ _) (by simp<;>omega) fun v2=>Zo 1 2 [10] (Z7 11 (X1 11 2 [] [] b3 [.h v2,.i b.result] (de (az (Z0 1 (ZE k (Z2 (ZH ⟨k+1,v2,ob,rfl,rfl,rfl⟩ (wk [0,2,2,0] (ZJ k fl) (e:=(rc (rc (rc (rr (ls:=Z9 (ZV (b.steps.take k))++Z9 [X5 x1]) (Z7h Z3) rz)))))))))))))))))))))
 exact ax 0 (Zs 1 [0] (Zy 1 b2 [.h v,.i b.result] (ie (ZQ (r3 [3] [.agg [.h v,.i b.result]] [0] [(b2,b2)] ⟨v,rfl,rfl⟩ (lr _) (eq:=(rr (ls:=Z9 (ZV (b.steps.take k))) (by rw [Wh om]) rz)))))))
theorem Z4h (b:Z8) (hz:b.sz<=1000000000:=by exact ob) (h0:0<b.steps.length:=by exact ob):Zp 186 [Yo b] [] (fun r h=>∃(g:Nat) (c:Nat),r=.agg [.ms g 0 b.steps.length c,.i b.result]/\h=[.row (.slice (some ⟨g,0,none⟩) b.steps.length c) 5 (Z9 (ZV b.steps))]):=(Z4i b hz).form (T:=fun v=>.agg [.h v,.i b.result]) (m:=b.steps.length) (DF _) om h0
theorem Zft (ds:List Zd) (b:Z8) (x:Int) (many:Nat) (hw:wB ds b:=by exact ob) (hx:0<=x/\x<=900000000:=by exact ob) (hz:b.sz<=1000000000:=by exact ob):Zp 174 [Yo b,.i x,.i many] [] (Yz (Yo (VT b x many))):=by
 have hbz:=UH b
 have ZK:=(Jk b).1 hw
 have hrl:=F7 b.steps
 refine ZG 57 Tryz.func174 (ar (iA (W0 b) fun b1=>iA [nl,.i 0] fun b2=>ie (aD 6 (ZZ 3 6 [0,1,3] [1,1] (Z7 2 (YE 2 [] [1] [b1] (MN b) (Z7 4 (YE 4 [] [] [] (Z0p b (YY b.steps) 16 x (ha:=(fun s hs h16=>Nb (Ii ZK s (QR hs) (by rw [h16];rfl))))) (Zo 0 1 [5] (de (aD 6 (ZZ 3 6 [0,1,3] [1,1] (Z7 2 (YE 2 [] [1] [b1] (MN b) (Z7 4 (YE 4 [] [] [] (Zfc b (YY b.steps) many) (Zo 0 1 [5] (de (Xk (Xu [1,3,6,7,8] [(26,.b ((decide ((W9 16 x (b.steps.take (YY b.steps)) 0)<0))||(decide ((Wv many (b.steps.drop (YY b.steps)) (YY b.steps))<0))))] (fun gz=>gz) ?_ ?_))))))))))))))))))))
 ·refine Z0 3 (ib (b:=(decide ((W9 16 x (b.steps.take (YY b.steps)) 0)<0))) 23 (fun Zc=>?_) (fun Zc=>?_))
  ·exact Z2 (wk [0,0] (Zl true Zc fl))
  exact Z2 (wk [0,0] (Zl (decide ((Wv many (b.steps.drop (YY b.steps)) (YY b.steps))<0)) Zc fl))
 refine ac ((decide ((W9 16 x (b.steps.take (YY b.steps)) 0)<0))||(decide ((Wv many (b.steps.drop (YY b.steps)) (YY b.steps))<0))) (p:=((W9 16 x (b.steps.take (YY b.steps)) 0)<0)∨((Wv many (b.steps.drop (YY b.steps)) (YY b.steps))<0)) (ZO dq dq) (fun Za=>?_) (fun Za=>?_)
 ·exact Zs 1 [1] (Zy 0 b2 (W0 b) (ie (ZQ (r3 [] [Yo b] [0] [(b2,b2)] ⟨rfl,rfl⟩ (Ze.agg (.cons (Ze.sl _ (Yq ZV (Zdo Za).symm)) (.cons li .nil)))))))
 obtain ⟨o1,o2,so,o3,o4⟩:=E1 (xs:=b.steps) (x:=x) (fun z=>Za (.inl z))
 obtain ⟨p1,p2,sc,p3,p4,p5⟩:=A9 (xs:=b.steps) (many:=many) (fun z=>Za (.inr z))
 rw [show Vz b.steps x=(W9 16 x (b.steps.take (YY b.steps)) 0) from rfl] at o1 o2
 rw [show WC b.steps many=(Wv many (b.steps.drop (YY b.steps)) (YY b.steps)) from rfl] at p1 p2
 refine ak (Zs 1 [1] (ic [] (Z4h b) ?_))
 rintro _ _ ⟨g1,c1,rfl,rfl⟩
 exact iA [nl,.i 0] fun b3=>Zy 0 b3 [.ms g1 0 b.steps.length c1,.i b.result] (ie (aD 7 (ZZ 3 7 [0,1,2,3] [0] (Z7 4 (YE 4 [] [0] [b3] (C2 17 x) (dx 5 (XJ g1 b.steps.length c1 ((W9 16 x (b.steps.take (YY b.steps)) 0).toNat) 5 (W9 16 x (b.steps.take (YY b.steps)) 0)) (Z7 6 (Qy 6 1 [] [] g1 b.steps.length c1 5 (((W9 16 x (b.steps.take (YY b.steps)) 0).toNat)*5) (Wd (Zx 17 x)) (Z9 (ZV b.steps)) (Z9 (ZV (b.steps.set (W9 16 x (b.steps.take (YY b.steps)) 0).toNat (Zx 17 x)))) (by have:(Wd (Zx 17 x)).length=5:=rfl;rw [DF];omega) (OP o3) (de (Zs 3 [1] (Zq (XJ g1 b.steps.length c1 ((Wv many (b.steps.drop (YY b.steps)) (YY b.steps)).toNat) 5 (Wv many (b.steps.drop (YY b.steps)) (YY b.steps))) (VD (WM 0 g1 b.steps.length c1 5 (((Wv many (b.steps.drop (YY b.steps)) (YY b.steps)).toNat)*5) (Z9 (ZV (b.steps.set (W9 16 x (b.steps.take (YY b.steps)) 0).toNat (Zx 17 x)))) (Wd sc) 145 (X5 sc) (Z7g (Fp Za p3))) (iA [.i 0,.i 0,.i 0,nl,nl] fun b4=>Zy 0 b4 (Wd sc) (ie (Zs 8 [2,0,0] (ia ((1+x)) ((1)+(x)) (ZA 5 [0,0] (Zq (XJ g1 b.steps.length c1 ((Wv many (b.steps.drop (YY b.steps)) (YY b.steps)).toNat) 5 (Wv many (b.steps.drop (YY b.steps)) (YY b.steps))) (DM 1 g1 b.steps.length c1 5 (((Wv many (b.steps.drop (YY b.steps)) (YY b.steps)).toNat)*5) [.i sc.op,.i sc.num,.i (1+x),Z4 sc.args,JK sc.kids] (Z9 (ZV (b.steps.set (W9 16 x (b.steps.take (YY b.steps)) 0).toNat (Zx 17 x)))) (Z9 (ZV ((b.steps.set (W9 16 x (b.steps.take (YY b.steps)) 0).toNat (Zx 17 x)).set (Wv many (b.steps.drop (YY b.steps)) (YY b.steps)).toNat (Qn (1+x) sc)))) (by rw [DF,VG];simp only [YA,X6];omega) (OP (t:=Qn (1+x) sc) (Fp Za p3)) (Xb (Uy 0 1 0 (.slice (some ⟨g1,0,none⟩) b.steps.length c1) 5 b3 (ZV ((b.steps.set (W9 16 x (b.steps.take (YY b.steps)) 0).toNat (Zx 17 x)).set (Wv many (b.steps.drop (YY b.steps)) (YY b.steps)).toNat (Qn (1+x) sc))) [.ms g1 0 b.steps.length c1,.i b.result] (XH _) rfl) (ie (Zs 1 [0] (Zy 3 b2 [Xi ((b.steps.set (W9 16 x (b.steps.take (YY b.steps)) 0).toNat (Zx 17 x)).set (Wv many (b.steps.drop (YY b.steps)) (YY b.steps)).toNat (Qn (1+x) sc)) (.slice (some ⟨g1,0,none⟩) b.steps.length c1),.i b.result] (ie (ZQ (r3 [] [.agg [Xi ((b.steps.set (W9 16 x (b.steps.take (YY b.steps)) 0).toNat (Zx 17 x)).set (Wv many (b.steps.drop (YY b.steps)) (YY b.steps)).toNat (Qn (1+x) sc)) (.slice (some ⟨g1,0,none⟩) b.steps.length c1),.i b.result]] [0] [(b2,b2)] ⟨rfl,rfl⟩ (Ze.agg (.cons (Ze.sl _ (Yq ZV (Zdp Za p5))) (.cons li .nil)))))))))))))))))))))))))))))
theorem Zfo (xs:LI) (y:Int) (hl:xs.length<=1000000000:=by exact ob):Zp 50 [Z4 xs,.i y] [] (fun r h=>∃(ys:LI),r=Z4 ys/\h=[]/\(ys.length<=xs.length+1/\∀z,z∈ys↔z∈xs∨z=y)):=by
 refine ZG 49 Tryz.func50 (Y3 (ar (iL (Z6 []) 0 1 fun v1=>?_)))
 refine Z2 (Y3 (Y8 (ab 0 (Y6 (fun fz gz m F h=>∃(k:Nat) (acc:LI) (d:Bool) (v:Value),(k<=xs.length)/\(KU xs y k acc d)/\F=sF [0,1] fz [(5,ZL acc v),(6,.b d),(7,.i k)]/\h=[.tail v 1]/\m=xs.length-k) _ _ _ ⟨0,[],false,v1,ob,(KU.zero xs y),rfl,rfl,rfl⟩ (wk [0] (fw (Ye fl))) ?_))))
 rintro m F h ⟨k,acc,d,v,Yk,Zh,rfl,rfl,rfl⟩
 refine YP 2 (iw (Yi xs) (Y2 ((k:Int)<(xs.length:Int)) (fun Za=>?_) (fun Za=>?_)))
 ·obtain ⟨x1,Z3⟩:=Zu xs k om
  have hil:acc.length<=k+1:=V9 Zh.len (by split<;>omega)
  refine ak (aq (ab 1 (Xk (Xu [0,1,5,6,7] [(24,.b ((!d)&&(decide (x1>=y))))] (fun gz=>gz) ?_ ?_))))
  ·refine Z0 3 (ib (b:=(!d)) 17 (fun Zc=>?_) (fun Zc=>?_))
   ·exact Z0 2 (Zq (Zi none (k:Int) 1 (Yb Z3)) (Z2 (wk [0] (Zl (decide (x1>=y)) Zc fl))))
   exact Z2 (wk [0] (Zl false Zc fl))
  refine XC (fun fz gz F h=>∃(acc2:LI) (d2:Bool) (w:Value),((acc2=acc/\d2=d)∨(acc2=acc++[y]/\d2=true/\¬d=true)∨(acc2=acc/\d2=true/\x1=y))/\(acc2.length<=acc.length+1)/\F=sF [0,1,7] fz [(5,ZL acc2 w),(6,.b d2)]/\h=[.tail w 1]) ?_ ?_
  ·refine ac ((!d)&&(decide (x1>=y))) (p:=(¬(d=true))/\(x1>=y)) (Ys (Yd Iff.rfl) dq) (fun Zj=>?_) (fun Zj=>?_)
   ·refine YP 2 (Zq (Zi none (k:Int) 1 (Yb Z3)) (Z2 (XC (fun fz gz F h=>∃(w3:Value),F=sF [0,1,7] fz [(5,ZL (if x1>y then (acc++[y]) else acc) w3)]/\h=[.tail w3 1]) ?_ ?_)))
    ·refine Vh (x1>y) (fun Zz=>?_) (fun Zz=>?_)
     ·exact az (Z0 2 (iL (Z6 [y]) 1 1 fun v2=>ZY 0 [(33,Z4 [y])] (ip 1 (Z6 (acc++[y])) (Z6 acc) (Z6 [y]) v none 1 (YH _) (YH _) (W4 _) (by simp<;>omega) (by simp [Wa,Z6]) fun v3=>Z2 (ZI ⟨v3,rfl,rfl⟩ (wk [0] (fc (x:=ZL (acc++[y]) v3) (Ze.slh _ (Yq Z6 (by first|rfl|(rw [Zk Zz])|(rw [Zb Zz])|(simp [Zz];done)|(rw [Yc];simp [Zz];done)|omega))) fl))))))
     exact ak (ZI ⟨v,rfl,rfl⟩ (wk [0] (fc (x:=ZL acc v) (Ze.slh _ (Yq Z6 (by first|rfl|(rw [Zk Zz])|(rw [Zb Zz])|(simp [Zz];done)|(rw [Yc];simp [Zz];done)|omega))) fl)))
    rintro F h ⟨w3,rfl,rfl⟩
    exact VC (ZI ⟨(if x1>y then (acc++[y]) else acc),true,w3,(if h:x1>y then (by rw [Zk h];exact .inr (.inl ⟨rfl,rfl,Zj.1⟩)) else (by rw [Zb h];exact .inr (.inr ⟨rfl,rfl,by have:=Zj.2;omega⟩))),(by split<;>simp),rfl,rfl⟩ (wk [0] fl))
   exact ak (ZI ⟨acc,d,v,(.inl ⟨rfl,rfl⟩),ob,rfl,rfl⟩ (wk [0] fl))
  rintro F h ⟨acc2,d2,w,VM,B8,rfl,rfl⟩
  exact az (Z0 3 (Zq (Zi none (k:Int) 1 (Yb Z3)) (Z0 1 (iL (Z6 [x1]) 1 1 fun v4=>ZY 0 [(40,Z4 [x1])] (ip 1 (Z6 (acc2++[x1])) (Z6 acc2) (Z6 [x1]) w none 1 (YH _) (YH _) (W4 _) (by simp<;>omega) (by simp [Wa,Z6]) fun v5=>Z2 (az (Z0 1 (ZE k (Z2 (ZH ⟨k+1,(acc2++[x1]),d2,v5,ob,(Zh.go Z3 VM),rfl,rfl,rfl⟩ (wk [0] (fw (ZJ k fl)))))))))))))
 have hil:acc.length<=k+1:=V9 Zh.len (by split<;>omega)
 refine ax 0 (Y8 (XC (fun fz gz F h=>∃(w4:Value),F=sF [] fz [(5,ZL (if d=true then acc else (acc++[y])) w4)]/\h=[.tail w4 1]) ?_ ?_))
 ·refine ac (!d) (p:=¬(d=true)) (Yd Iff.rfl) (fun Yg=>?_) (fun Yg=>?_)
  ·exact az (Z0 2 (iL (Z6 [y]) 1 1 fun v6=>ZY 0 [(46,Z4 [y])] (ip 1 (Z6 (acc++[y])) (Z6 acc) (Z6 [y]) v none 1 (YH _) (YH _) (W4 _) (by simp<;>omega) (by simp [Wa,Z6]) fun v7=>Z2 (ZI ⟨v7,rfl,rfl⟩ (wk [0] (fc (x:=ZL (acc++[y]) v7) (Ze.slh _ (Yq Z6 (by first|rfl|(rw [Zk Yg])|(rw [Zb Yg])|(simp [Yg];done)|(rw [Yc];simp [Yg];done)|omega))) fl))))))
  exact ak (ZI ⟨v,rfl,rfl⟩ (wk [0] (fc (x:=ZL acc v) (Ze.slh _ (Yq Z6 (by first|rfl|(rw [Zk Yg])|(rw [Zb Yg])|(simp [Yg];done)|(rw [Yc];simp [Yg];done)|omega))) fl)))
 rintro F h ⟨w4,rfl,rfl⟩
 exact ar (Zm (r2 [] [ZL (if d=true then acc else (acc++[y])) w4] ⟨(if d=true then acc else (acc++[y])),rfl,rfl,(if hd:d=true then (by rw [Zk hd];exact (Zh.fin om).1 hd) else (by rw [Zb hd];exact (Zh.fin om).2 hd))⟩ (Ze.forget _ _)))
theorem Zfw (n:ZF) (s:Z5) (j:Nat) (kept:LI) (kd:Z8) (hn:Xx n) (hws:wS n.decls s) (hkd:s.kids[j]? = some kd) (hnk:Kb kd) (hK:kept.length+s.sz<=900000000) (ih:∀(b2:Z8) (K2:LI),(wB n.decls b2)->(BR b2)->(K2.length+b2.sz<=900000000)->(b2.sz<s.sz)->Zp 122 [YG n,Yo b2,Z4 K2] [] (Yz (Yo (Wt n.decls K2 b2)))):Zp 148 [YG n,X5 s,.i j,Z4 kept] [] (Yz (Yo (Q1 n.decls kept s.op s.num s.args j kd))):=by
 have Xn:=hn.decls
 have hks:=Qo hkd
 have hwk:=N6 hws hkd
 have haz:=Jr s
 have hjl:=(Xc.1 hkd).1
 refine ZG 65 Tryz.func148 (ar (iA (X8 n) fun b1=>iA (Wd s) fun b2=>iA [nl,.i 0] fun b3=>ie (Xk (V0 [1] (ac (s.op != 8) Ym (fun Za=>?_) (fun Za=>?_))))))
 ·refine aD 9 (ZZ 5 9 [0,1,2,3] [2,1] (dx 4 (Zi none (j:Int) 2 (T0 hkd)) (Zo 2 4 [5,6] (Z7 7 (YE 7 [] [] [] (ih kd kept (by first|exact hwk|exact B8) (by first|exact CZ hnk|exact LS) ob ob) (Z7 8 (X1 8 0 [] [] b3 (W0 (Wt n.decls kept kd)) (de ?_))))))))
  have hE:=SF (ds:=n.decls) (kept:=kept) (op:=s.op) (num:=s.num) (args:=s.args) (j:=j) (kd:=kd) (fun z=>Za z.1)
  exact ZQ (r3 [] [Yo (Wt n.decls kept kd)] [0] [(b3,b3)] ⟨rfl,rfl⟩ (Ze.agg (.cons (Ze.sl _ (Yq ZV (by rw [hE]))) (.cons (li (by rw [hE])) .nil))))
 refine ak (Zs 2 [1] ?_)
 obtain ⟨x1,Z3⟩:=Zu s.args 0 (by obtain ⟨⟨a,ha2,_⟩,_⟩:=FL hws om;rw [ha2];simp)
 have hg1:=QB Z3
 have hxb:0<=x1/\x1<=900000000:=by obtain ⟨⟨a,ha2,ha3⟩,_⟩:=FL hws om;rw [ha2] at hg1;have:a=x1:=hg1;omega
 refine Zq (Zi none 0 1 (Yb Z3)) (Z2 (Zs 3 [1] (Zq (Zi none (j:Int) 2 (T0 hkd)) (Z0 1 (iA [nl,.i 0] fun b4=>?_)))))
 refine Zy 0 b4 (W0 kd) (ie (YP 2 (Zv [] (UV kept x1) (Z2 (XC (fun fz gz F h=>∃(B2:Z8) (K2:LI),(Wt n.decls K2 B2=Q1 n.decls kept s.op s.num s.args j kd)/\(wB n.decls B2)/\(BR B2)/\(B2.sz<=kd.sz)/\(K2.length<=kept.length+1)/\F=sF [4,8,10] fz [(3,Z4 K2)]/\h=[.obj b4 (W0 B2),Zg gz 1,Zg gz 3]) ?_ ?_)))))
 ·refine ac (!(decide (x1∈kept))) (p:=¬(x1∈kept)) (Yd dq) (fun Zj=>?_) (fun Zj=>?_)
  ·refine aD 16 (ZZ 7 16 [0,1,2,3,4,5,6,7,9] [0,3,3,2] (Z7 8 (dc 8 [] [3,0] [b1,b4] (Jf n.decls s.num) ?_)))
   rintro _ _ ⟨v1,rfl,rfl⟩
   obtain ⟨x2,Zw⟩:=Zu (Y0 n.decls s.num) j (by have h:=(FL hws om).2;omega)
   have hfl:(Wy n.decls s.num j).length=(ZP n.decls x2).length:=by rw [Lj (by rw [Kq,Zw];rfl)]
   have hcf:=Vs Xn x2
   refine dx 10 (Zi (some v1) (j:Int) 1 (Yb Zw)) (Zo 4 5 [11] (Z7 12 (YE 12 [] [0] [b4] (Qr n.decls x2) (dn 13 (.i (((ZP n.decls x2).length:Nat):Int)) (.i (((Z6 (ZP n.decls x2)).length:Nat):Int)) (li (by rw [Yi])) (Z7 14 (YE 14 [] [] [] (Zft n.decls kd x1 ((ZP n.decls x2).length) (hw:=hwk) (hx:=hxb)) ?_))))))
   have hwr:=Zi2 (x:=x1) (many:=(ZP n.decls x2).length) hwk
   have hsr:=Zdm (x:=x1) (many:=(ZP n.decls x2).length) hwk
   refine Z7 15 (X1 15 1 [] [] b4 (W0 (VT kd x1 ((ZP n.decls x2).length))) (de (Zs 1 [0] (Zv [] (MN (VT kd x1 ((ZP n.decls x2).length))) (Z2 (Zs 3 [0] (Zv [] (Z0p (VT kd x1 ((ZP n.decls x2).length)) (YY (VT kd x1 ((ZP n.decls x2).length)).steps) 17 x1 (hm:=(F7 _)) (ha:=(fun s2 hs2 h17=>Nb (Ii ((Jk _).1 hwr) s2 (QR hs2) (by rw [h17];rfl))))) (Y2 ((W9 17 x1 ((VT kd x1 ((ZP n.decls x2).length)).steps.take (YY (VT kd x1 ((ZP n.decls x2).length)).steps)) 0)>=0) (fun Zz=>?_) (fun Zz=>?_)))))))))
   ·refine az (Z0 2 (ic [] (Zfo kept x1) ?_))
    rintro _ _ ⟨ys1,rfl,rfl,Y9⟩
    have hin:=Y9
    exact Z2 (ZI ⟨_,_,(Zea om hg1 Zj hfl ((Z1l ((Fa kd).1 hnk)).1 Zz) hin.2),hwr,(Rr hnk),ob,hin.1,rfl,rfl⟩ (wk [0,1,2] (fc (x:=Z4 ys1) (Ze.sl _ (Yq Z6 (by first|rfl|(rw [Zk Zj])|(rw [Zb Zj])|(simp [Zj,Zz,Y9];done)|(rw [Yc];simp [Zj,Zz,Y9];done)|omega))) fl)))
   exact ak (ZI ⟨_,_,(Zeb om hg1 Zj hfl (C9 fun z=>Zz ((Z1l ((Fa kd).1 hnk)).2 z))),hwr,(Rr hnk),ob,ob,rfl,rfl⟩ (wk [0,1,2] (fc (x:=Z4 kept) (Ze.sl _ (Yq Z6 (by first|rfl|(rw [Zk Zj])|(rw [Zb Zj])|(simp [Zj,Zz];done)|(rw [Yc];simp [Zj,Zz];done)|omega))) fl)))
  exact ak (ZI ⟨_,_,(SF (fun z=>Zj (hg1▸z.2))),hwk,(CZ hnk),ob,ob,rfl,rfl⟩ (wk [0,0,1] (fc (x:=Z4 kept) (Ze.sl _ (Yq Z6 (by first|rfl|(rw [Zk Zj])|(rw [Zb Zj])|(simp [Zj];done)|(rw [Yc];simp [Zj];done)|omega))) fl)))
 rintro F h ⟨B2,K2,VM,B8,LS,Zip,Ziq,rfl,rfl⟩
 exact Zs 3 [2,0] (Zv [] (ih B2 K2 (by first|exact hwk|exact B8) (by first|exact CZ hnk|exact LS) ob ob) (Zy 1 b3 (W0 (Wt n.decls K2 B2)) (ie (ZQ (r3 [] [Yo (Wt n.decls K2 B2)] [0] [(b3,b3)] ⟨rfl,rfl⟩ (Ze.agg (.cons (Ze.sl _ (Yq ZV (by rw [VM]))) (.cons (li (by rw [VM])) .nil))))))))
theorem Zfv (n:ZF) (b:Z8) (kept:LI) (hn:Xx n) (hw:wB n.decls b) (hn2:BR b) (hK:kept.length+b.sz<=900000000) (ih:∀(s:Z5) (j:Nat) (kept:LI) (kd:Z8),(wS n.decls s)->(s.kids[j]? = some kd)->(Kb kd)->(kept.length+s.sz<=900000000)->(s.sz<b.sz)->Zp 148 [YG n,X5 s,.i j,Z4 kept] [] (Yz (Yo (Q1 n.decls kept s.op s.num s.args j kd)))):Zp 122 [YG n,Yo b,Z4 kept] [] (Yz (Yo (Wt n.decls kept b))):=by
 have Xn:=hn.decls
 have hbz:=UH b
 refine ZG 61 Tryz.func122 (ar (iA (X8 n) fun b1=>iA (W0 b) fun b2=>iA [nl,.i 0] fun b3=>ie (ar (iL (ZV []) 0 5 fun v1=>ZA 3 [2] (iA [nl,.i 0] fun b4=>?_)))))
 refine Zy 0 b4 [Xi [] v1,.i b.result] (ie (Y8 (ab 0 (Y6 (fun fz gz m F h=>∃(k:Nat) (xs:List Z5) (v:Value),(k<=b.steps.length)/\(xs.length=k)/\(xs++Ug n.decls kept (b.steps.drop k)=Ug n.decls kept b.steps)/\F=sF [2,3,4,6,7] fz [(8,.i k)]/\h=[.obj b4 [Xi xs v,.i b.result],Zg gz 2,Zg gz 3,Zg gz 4,.tail v 5]/\m=b.steps.length-k) _ _ _ ⟨0,[],v1,ob,ob,rfl,rfl,rfl,rfl⟩ (wk [0,1,1,1,0] (Ye fl)) ?_))))
 rintro m F h ⟨k,xs,v,Yk,Zh,ZB,rfl,rfl,rfl⟩
 refine Yp 3 [2] (iw (UK b.steps) (Y2 ((k:Int)<(b.steps.length:Int)) (fun Za=>?_) (fun Za=>?_)))
 ·refine ak (aq (ab 1 (Zs 3 [2] ?_)))
  obtain ⟨x1,Z3⟩:=Zu b.steps k om
  have XQ:=D8 Z3
  have hws:=Z1x hw Z3
  have hkz:=K9 x1
  have haz:=Jr x1
  refine Zq (Zi none (k:Int) 5 (Vc Z3)) (Z0 1 (iA [.i 0,.i 0,.i 0,nl,nl] fun b5=>Zy 0 b5 (Wd x1) (ie (ar (iL (XR []) 0 2 fun v2=>?_)))))
  refine Z2 (Y8 (ab 2 (Y6 (fun fz gz m F h=>∃(j:Nat) (u:Value) (ks:List Z8),(j<=x1.kids.length)/\(ks.length=j)/\(ks++U4 n.decls kept x1.op x1.num x1.args (x1.kids.drop j) j=U4 n.decls kept x1.op x1.num x1.args x1.kids 0)/\F=sF [2,3,4,6,7,8,9] fz [(10,Qq ks u),(11,.i j)]/\h=[Zg gz 1,Zg gz 2,Zg gz 3,Zg gz 4,Zg gz 5,.tail u 2,Zg gz 6]/\m=x1.kids.length-j) _ _ _ ⟨0,v2,[],ob,ob,(by simp),rfl,rfl,rfl⟩ (wk [1,1,1,1,1,0,0] (fr (Ye fl))) ?_)))
  rintro m F h ⟨j,u,ks,Vr,Xs,XU,rfl,rfl,rfl⟩
  refine Yp 3 [0] (iw (Kw x1.kids) (Y2 ((j:Int)<(x1.kids.length:Int)) (fun Zj=>?_) (fun Zj=>?_)))
  ·obtain ⟨kd,hkd⟩:=Zu x1.kids j om
   exact ak (aq (ab 3 (az (ZA 5 [4,0] (Zv [] (ih x1 j kept kd hws hkd (Zc4 hn2 Z3 hkd) ob ob) (iL [Yo (Q1 n.decls kept x1.op x1.num x1.args j kd)] 1 2 fun v3=>ZY 0 [(42,.sl [Yo (Q1 n.decls kept x1.op x1.num x1.args j kd)] none)] (ip 6 (XR (ks++[Q1 n.decls kept x1.op x1.num x1.args j kd])) (XR ks) [Yo (Q1 n.decls kept x1.op x1.num x1.args j kd)] u none 2 (KZ _) (KC rfl) rfl (by simp<;>omega) (by simp [Cz,QY]) fun v4=>Z2 (az (Z0 1 (ZE j (Z2 (ZH ⟨j+1,v4,(ks++[Q1 n.decls kept x1.op x1.num x1.args j kd]),ob,(by simp;omega),(Ze9 hkd XU),rfl,rfl,rfl⟩ (wk [2,2,2,2,2,0,1] (fr (ZJ j fl)))))))))))))))
  have hK:=Ze8 om XU
  refine ax 2 (aE 17 (ZZ 6 17 [0,1,2,3,4,5,6,7,8,9,11] [1,0,0,0,0] (Z7 10 (dc 10 [] [0,0,0,1] [b5,b5,b5,b4] (WV x1.args) ?_))))
  rintro _ _ ⟨v5,rfl,rfl⟩
  exact Yx 4 5 [12] [(56,.agg [.i x1.op,.i x1.num,.i x1.into,Z4 x1.args,JK ks])] (Z7 13 (dL 13 [1] [b4] [X5 (Z5.mk x1.op x1.num x1.into x1.args ks)] 1 5 fun v6=>Yx 3 3 [] [(57,.sl [X5 (Z5.mk x1.op x1.num x1.into x1.args ks)] none)] (Z7 14 (dp 14 8 [] [] (ZV (xs++[Z5.mk x1.op x1.num x1.into x1.args ks])) (ZV xs) [X5 (Z5.mk x1.op x1.num x1.into x1.args ks)] v none 5 (XH _) (KC rfl) rfl (by simp<;>omega) (by simp [VB,Uc]) fun v7=>Zo 1 2 [15] (Z7 16 (X1 16 4 [] [] b4 [Xi (xs++[Z5.mk x1.op x1.num x1.into x1.args ks]) v7,.i b.result] (de (az (Z0 1 (ZE k (Z2 (ZH ⟨k+1,(xs++[Z5.mk x1.op x1.num x1.into x1.args ks]),v7,ob,(by simp;omega),(by have h:=Zef Z3 ZB;rw [<-hK] at h;exact h),rfl,rfl,rfl⟩ (wk [0,4,4,4,0] (ZJ k fl))))))))))))))
 exact ax 0 (Zs 1 [0] (Zy 1 b3 [Xi xs v,.i b.result] (ie (ZQ (r3 [] [.agg [Xi xs v,.i b.result]] [0] [(b3,b3)] ⟨rfl,rfl⟩ (Ze.agg (.cons (Ze.sl _ (Yq ZV (by rw [HI];exact Zee om ZB))) (.cons (li (by rw [HI];rfl)) .nil))))))))
theorem Zfx (n:ZF) (hn:Xx n) (k:Nat):(∀(s:Z5) (j:Nat) (kept:LI) (kd:Z8),(wS n.decls s)->(s.kids[j]? = some kd)->(Kb kd)->(kept.length+s.sz<=900000000)->(s.sz<=k)->Zp 148 [YG n,X5 s,.i j,Z4 kept] [] (Yz (Yo (Q1 n.decls kept s.op s.num s.args j kd))))/\(∀(b:Z8) (kept:LI),(wB n.decls b)->(BR b)->(kept.length+b.sz<=900000000)->(b.sz<=k)->Zp 122 [YG n,Yo b,Z4 kept] [] (Yz (Yo (Wt n.decls kept b)))):=by
 induction k with
 | zero=>exact ⟨fun s j K kd h1 h2 h3 h4 h5=>by have:=s.sz_pos;omega,fun b K h1 h2 h3 h4=>by have:=b.sz_eq;omega⟩
 | succ k ih=>exact ⟨fun s j K kd h1 h2 h3 h4 h5=>Zfw n s j K kd hn h1 h2 h3 h4 fun b2 K2 q1 q2 q3 q4=>ih.2 b2 K2 q1 q2 q3 om,fun b K h1 h2 h3 h4=>Zfv n b K hn h1 h2 h3 fun s j K2 kd q1 q2 q3 q4 q5=>ih.1 s j K2 kd q1 q2 q3 q4 om⟩
theorem Zfu (n:ZF) (b:Z8) (kept:LI) (hn:Xx n:=by exact ob) (hw:wB n.decls b:=by exact ob) (hn2:BR b:=by exact ob) (hK:kept.length+b.sz<=900000000:=by exact ob):Zp 122 [YG n,Yo b,Z4 kept] [] (Yz (Yo (Wt n.decls kept b))):=(Zfx n hn b.sz).2 b kept hw hn2 hK (X9 _)
theorem Z9a (n:ZF) (hn:Xx n:=by exact ob) (hz:JW n:=by exact ob) (hwb:∀r∈n.routines,wB n.decls r.body):Zp 79 [YG n] [] (Yz (YG (D7 n))):=by
 have hzl:=hn.len
 refine ZG 38 Tryz.func79 (ar (iA (X8 n) fun b1=>iA [nl,nl] fun b2=>ie (Zs 2 [1] (Zv [] (Bf n.decls (hd:=hn.decls)) (iL (Xa []) 0 5 fun v1=>Z0 1 (iA [nl,nl] fun b3=>?_))))))
 refine Zy 0 b3 [Y5 n.decls,WT [] v1] (ie (Y8 (ab 0 (Y6 (fun fz gz m F h=>∃(k:Nat) (v:Value),(k<=n.routines.length)/\F=sF [1,2,3] fz [(4,.i k)]/\h=[.obj b3 [Y5 n.decls,WT ((n.routines.take k).map (C1 n.decls)) v],Zg gz 2,Zg gz 3,.tail v 5]/\m=n.routines.length-k) _ _ _ ⟨0,v1,ob,rfl,rfl,rfl⟩ (wk [0,1,1,0] (Ye fl)) ?_))))
 rintro m F h ⟨k,v,Yk,rfl,rfl,rfl⟩
 refine Yp 3 [2] (iw (TW n.routines) (Y2 ((k:Int)<(n.routines.length:Int)) (fun Za=>?_) (fun Za=>?_)))
 ·refine ak (aq (ab 1 (Zs 3 [2] ?_)))
  obtain ⟨x1,Z3⟩:=Zu n.routines k om
  have hrm:=Y7 Z3
  have hbz:=hz.body _ hrm
  have hpl:=hn.params_at Z3
  have hll:=hn.lent_at Z3
  have hww:=hwb _ hrm
  exact Zq (Zi none (k:Int) 5 (VS Z3)) (Z0 1 (iA [nl,nl,.i 0,nl,.i 0] fun b4=>Zy 0 b4 (JG x1) (ie (aE 15 (ZZ 7 15 [0,1,2,3,4,5,6,7] [1,0,3,0,0] (dw 8 (Yi x1.params) (Z7 9 (YE 9 [] [0,1] [b4,b3] (Zg3 n x1.body x1.params.length (hw:=hww)) (Z7 10 (YE 10 [] [1] [b3] (Ed x1 (WU n.decls x1.params.length x1.body)) (Z7 11 (dL 11 [1] [b3] (Xa [YF.mk x1.params x1.lent x1.result (WU n.decls x1.params.length x1.body)]) 1 5 fun v2=>Yx 3 3 [] [(34,JL [YF.mk x1.params x1.lent x1.result (WU n.decls x1.params.length x1.body)])] (Z7 12 (dp 12 5 [] [] (Xa ((n.routines.take (k+1)).map (C1 n.decls))) (Xa ((n.routines.take k).map (C1 n.decls))) (Xa [YF.mk x1.params x1.lent x1.result (WU n.decls x1.params.length x1.body)]) v none 5 (Tc _) (Tc _) (BC _) (by simp<;>omega) (by rw [V2 Z3];simp [Xa,C1]) fun v3=>Zo 1 2 [13] (Z7 14 (X1 14 3 [] [] b3 [Y5 n.decls,WT ((n.routines.take (k+1)).map (C1 n.decls)) v3] (de (az (Z0 1 (ZE k (Z2 (ZH ⟨k+1,v3,ob,rfl,rfl,rfl⟩ (wk [0,3,3,0] (ZJ k fl))))))))))))))))))))))))
 exact ax 0 (Zs 1 [0] (Zy 1 b2 [Y5 n.decls,WT ((n.routines.take k).map (C1 n.decls)) v] (ie (ZQ (r3 [] [.agg [Y5 n.decls,WT ((n.routines.take k).map (C1 n.decls)) v]] [0] [(b2,b2)] ⟨rfl,rfl⟩ (Ze.agg (.cons (Ze.sl _ (Yq Yy ob)) (.cons (Ze.sl _ (Yq Xa (by rw [Wh om];rfl))) .nil))))))))
theorem Z97 (n:ZF) (hn:Xx n:=by exact ob) (hz:JW n:=by exact ob) (hwb:∀r∈n.routines,wB n.decls r.body) (hnr:∀r∈n.routines,Kb r.body):Zp 80 [YG n] [] (Yz (YG (D6 n))):=by
 have hzl:=hn.len
 refine ZG 38 Tryz.func80 (ar (iA (X8 n) fun b1=>iA [nl,nl] fun b2=>ie (Zs 2 [1] (Zv [] (Bf n.decls (hd:=hn.decls)) (iL (Xa []) 0 5 fun v1=>Z0 1 (iA [nl,nl] fun b3=>?_))))))
 refine Zy 0 b3 [Y5 n.decls,WT [] v1] (ie (Y8 (ab 0 (Y6 (fun fz gz m F h=>∃(k:Nat) (v:Value),(k<=n.routines.length)/\F=sF [1,2,3] fz [(4,.i k)]/\h=[.obj b3 [Y5 n.decls,WT ((n.routines.take k).map (BZ n.decls)) v],Zg gz 2,Zg gz 3,.tail v 5]/\m=n.routines.length-k) _ _ _ ⟨0,v1,ob,rfl,rfl,rfl⟩ (wk [0,1,1,0] (Ye fl)) ?_))))
 rintro m F h ⟨k,v,Yk,rfl,rfl,rfl⟩
 refine Yp 3 [2] (iw (TW n.routines) (Y2 ((k:Int)<(n.routines.length:Int)) (fun Za=>?_) (fun Za=>?_)))
 ·refine ak (aq (ab 1 (aE 21 (ZZ 16 21 [0,1,2,3,4] [0,2] ?_))))
  obtain ⟨x1,Z3⟩:=Zu n.routines k om
  have hrm:=Y7 Z3
  have hbz:=hz.body _ hrm
  have hpl:=hn.params_at Z3
  have hll:=hn.lent_at Z3
  have hww:=hwb _ hrm
  exact dx 5 (Zi none (k:Int) 5 (VS Z3)) (ZZ 10 15 [6,7,8,9,10] [2,2] (dx 11 (Zi none (k:Int) 5 (VS Z3)) (Zo 7 9 [12,13] (Z7 14 (dL 14 [2,2,2,0] [b1,b1,b1,b3] (Z6 []) 0 1 fun v2=>Yx 6 6 [] [(31,Z4 [])] (Z7 15 (YE 15 [] [2,0] [b1,b3] (Zfu n x1.body [] (hw:=hww) (hn2:=(CZ (hnr _ hrm)))) (Z7 16 (YE 16 [] [0] [b3] (Ed x1 (Wt n.decls [] x1.body)) (Z7 17 (dL 17 [0] [b3] (Xa [YF.mk x1.params x1.lent x1.result (Wt n.decls [] x1.body)]) 1 5 fun v3=>Yx 3 3 [] [(34,JL [YF.mk x1.params x1.lent x1.result (Wt n.decls [] x1.body)])] (Z7 18 (dp 18 5 [] [] (Xa ((n.routines.take (k+1)).map (BZ n.decls))) (Xa ((n.routines.take k).map (BZ n.decls))) (Xa [YF.mk x1.params x1.lent x1.result (Wt n.decls [] x1.body)]) v none 5 (Tc _) (Tc _) (BC _) (by simp<;>omega) (by rw [V2 Z3];simp [Xa,BZ]) fun v4=>Zo 1 2 [19] (Z7 20 (X1 20 3 [] [] b3 [Y5 n.decls,WT ((n.routines.take (k+1)).map (BZ n.decls)) v4] (de (az (Z0 1 (ZE k (Z2 (ZH ⟨k+1,v4,ob,rfl,rfl,rfl⟩ (wk [0,3,3,0] (ZJ k fl)))))))))))))))))))))))
 exact ax 0 (Zs 1 [0] (Zy 1 b2 [Y5 n.decls,WT ((n.routines.take k).map (BZ n.decls)) v] (ie (ZQ (r3 [] [.agg [Y5 n.decls,WT ((n.routines.take k).map (BZ n.decls)) v]] [0] [(b2,b2)] ⟨rfl,rfl⟩ (Ze.agg (.cons (Ze.sl _ (Yq Yy ob)) (.cons (Ze.sl _ (Yq Xa (by rw [Wh om];rfl))) .nil))))))))
theorem Z96 (rd:Nat) (bs:LI) (p:Nat) (ZK:∀z∈bs,0<=z/\z<=255) (hp:p+400001<=1000000000:=by exact ob):Zp 111 [.p rd 0] [YI rd bs p] (fun r h=>∃(n:ZF) (p2:Nat),r=YG n/\h=[YI rd bs p2]/\FO n 181 WQ/\p<=p2/\p2<=p+400001):=by
 refine ZG 13 Tryz.func111 (ar (iA [nl,nl] fun b1=>ie (Yj 1 (ic [1] (Z8f rd bs p (ZK:=ob)) ?_))))
 rintro _ _ ⟨g1,p21,rfl,rfl,Y9⟩
 have K6:=Y9
 refine ic [] (Z90 g1 (hg:=K6.1)) ?_
 rintro _ _ ⟨n1,rfl,rfl,Yt⟩
 have hnm:=Yt
 refine iA [nl,nl] fun b2=>Zy 0 b2 (X8 n1) (ie (YP 1 (ic [1] (XX rd bs p21 3 (ZK:=ob)) ?_)))
 rintro _ _ ⟨k1,rfl,rfl,YS⟩
 refine YD (k1==0) Zf (fun Za=>?_) (fun Za=>?_)
 ·refine Zs 1 [1] (ic [] (Z8q n1 181 (hn:=hnm)) ?_)
  rintro _ _ ⟨n21,rfl,rfl,YX⟩
  have hlm:=YX
  exact Zy 2 b1 (X8 n21) (ie (ZQ (r3 [1] [YG n21] [0] [(b1,b1)] ⟨n21,p21+1,rfl,rfl,(by first|exact ⟨hlm,by omega,by omega⟩|exact ⟨hnm,by omega,by omega⟩)⟩ (lr _))))
 exact ak (Zs 1 [1] (Zy 2 b1 (X8 n1) (ie (ZQ (r3 [1] [YG n1] [0] [(b1,b1)] ⟨n1,p21+1,rfl,rfl,(by first|exact ⟨hlm,by omega,by omega⟩|exact ⟨hnm,by omega,by omega⟩)⟩ (lr _))))))
theorem Z88 (rd:Nat) (bs:LI) (p:Nat) (ZK:∀z∈bs,0<=z/\z<=255) (hp:p+400002<=1000000000:=by exact ob):Zp 76 [.p rd 0] [YI rd bs p] (fun r h=>∃(n:ZF) (p2:Nat),r=YG n/\h=[YI rd bs p2]/\FO n 814510 VI/\p<=p2/\p2<=p+400002):=by
 refine ZG 15 Tryz.func76 (ar (iA [nl,nl] fun b1=>ie (Yj 1 (ic [1] (Z96 rd bs p (ZK:=ob)) ?_))))
 rintro _ _ ⟨n1,p21,rfl,rfl,Y9⟩
 have hpf:=Y9
 refine iA [nl,nl] fun b2=>Zy 0 b2 (X8 n1) (ie (Zs 1 [0] (ic [] (Z87 n1 181 (hn:=hpf.1)) ?_)))
 rintro _ _ ⟨n21,rfl,rfl,Yt⟩
 have hcf:=FO.le Yt (show 4500*181+10<=814510 by omega)
 refine iA [nl,nl] fun b3=>Zy 0 b3 (X8 n21) (ie (YP 1 (ic [2] (XX rd bs p21 4 (ZK:=ob)) ?_)))
 rintro _ _ ⟨k1,rfl,rfl,YS⟩
 refine YD (k1==0) Zf (fun Za=>?_) (fun Za=>?_)
 ·refine az (ZA 1 [2] (ic [] (Z8j n1 181 (hn:=hpf.1)) ?_))
  rintro _ _ ⟨n22,rfl,rfl,YX⟩
  have hlf:=FO.le YX (show 60*181<=814510 by omega)
  exact Zy 1 b3 (X8 n22) (ie (Zs 1 [0] (Zy 3 b1 (X8 n22) (ie (ZQ (r3 [2] [YG n22] [0] [(b1,b1)] ⟨n22,p21+1,rfl,rfl,(by first|exact ⟨hlf,by omega,by omega⟩|exact ⟨hcf,by omega,by omega⟩)⟩ (lr _)))))))
 exact ak (Zs 1 [1] (Zy 3 b1 (X8 n21) (ie (ZQ (r3 [1] [YG n21] [0] [(b1,b1)] ⟨n21,p21+1,rfl,rfl,(by first|exact ⟨hlf,by omega,by omega⟩|exact ⟨hcf,by omega,by omega⟩)⟩ (lr _))))))
theorem Ly (rd:Nat) (bs:LI) (p:Nat) (xs:LI) (ZK:∀z∈bs,0<=z/\z<=255) (hp:p+3<=1000000000:=by exact ob) (hl:xs.length<=1000000:=by exact ob):Zp 54 [.p rd 0,Z4 xs] [YI rd bs p] (fun r h=>∃(zs:LI) (p2:Nat),r=Z4 zs/\h=[YI rd bs p2]/\zs.length<=xs.length+1/\p<=p2/\p2<=p+3):=by
 refine ZG 32 Tryz.func54 (Y3 (Yj 1 (ic [] (Bg xs) ?_)))
 rintro _ _ ⟨v1,rfl,rfl⟩
 refine Z2 (YP 1 (Zq (Db 0 v1 xs) (Z0 2 (ib (b:=(decide ((xs.length:Int)>0))) 11 (fun Zc=>?_) (fun Zc=>?_)))))
 ·have Y9:(xs.length:Int)>0:=(dq).1 Zc
  refine Z0 1 (ic [1] (XX rd bs p 2 (ZK:=ob)) ?_)
  rintro _ _ ⟨k1,rfl,rfl,Yt⟩
  refine YD (k1==0) Zf (fun Za=>?_) (fun Za=>?_)
  ·refine Yj 3 (Zq (Db 1 v1 xs) (ic [0] (Jv rd bs (p+1) xs.length (ZK:=ob)) ?_))
   rintro _ _ ⟨YU,rfl,rfl,YS⟩
   refine Z0 1 (iL (Z6 [0,1,-1,7,1000,1001]) 6 1 fun v2=>ZY 0 [(22,Z4 [0,1,-1,7,1000,1001])] (ic [1] (T1 rd bs ((p+1)+1) [0,1,-1,7,1000,1001] (ZK:=ob)) ?_))
   rintro _ _ ⟨z1,rfl,rfl,YX⟩
   exact Zq (Uh 2 v1 xs (YU:Int) YU) (LM 2 v1 xs YU z1 (ie (Y3 (G5 4 0 (v:=v1) (xs:=(xs.set YU z1)) (ZQ (r2 [1] [ZL (xs.set YU z1) v1.v] ⟨(xs.set YU z1),((p+1)+1)+1,rfl,rfl,⟨by simp,by omega,by omega⟩⟩ (Ze.forget _ _)))))))
  refine ak (Yj 2 (iL (Z6 [0,1,2,-1,1000]) 5 1 fun v3=>ZY 0 [(28,Z4 [0,1,2,-1,1000])] (ic [1] (T1 rd bs (p+1) [0,1,2,-1,1000] (ZK:=ob)) ?_)))
  rintro _ _ ⟨z2,rfl,rfl,Xe⟩
  exact iL (Z6 [z2]) 1 1 fun v4=>ZY 0 [(30,Z4 [z2])] (B7 3 v1 xs [z2] none fun v5=>Z2 (G5 4 0 (v:=v5) (xs:=(xs++[z2])) (ZQ (r2 [2] [ZL (xs++[z2]) v5.v] ⟨(xs++[z2]),(p+1)+1,rfl,rfl,⟨by simp,by omega,by omega⟩⟩ (Ze.forget _ _)))))
 have XP:¬((xs.length:Int)>0):=Y4 dq Zc
 refine Z2 (Vb (ak (Yj 2 (iL (Z6 [0,1,2,-1,1000]) 5 1 fun v6=>ZY 0 [(28,Z4 [0,1,2,-1,1000])] (ic [2] (T1 rd bs p [0,1,2,-1,1000] (ZK:=ob)) ?_)))))
 rintro _ _ ⟨z3,rfl,rfl,Wf⟩
 exact iL (Z6 [z3]) 1 1 fun v7=>ZY 0 [(30,Z4 [z3])] (B7 3 v1 xs [z3] none fun v8=>Z2 (G5 4 0 (v:=v8) (xs:=(xs++[z3])) (ZQ (r2 [2] [ZL (xs++[z3]) v8.v] ⟨(xs++[z3]),p+1,rfl,rfl,⟨by simp,by omega,by omega⟩⟩ (Ze.forget _ _)))))
open Go.Proofs
open Go.Proofs
open Go.Proofs
theorem Zfn (fs:LI) (q:Int) (hl:fs.length<=1000000:=by exact ob) (hq:0<=q/\q<=1000000000:=by exact ob):Zp 108 [Z4 fs,.i q] [] (Yz (Z4 (UP fs q))):=by
 refine ZG 26 Tryz.func108 (Y3 (ar (iL (Z6 []) 0 1 fun v1=>?_)))
 refine Z2 (Y8 (ab 0 (Y6 (fun fz gz m F h=>∃(k:Nat) (acc:LI) (v:Value),(k<=fs.length)/\(acc.length<=k)/\(acc++UP (fs.drop k) (q+k)=UP fs q)/\F=sF [0,1] fz [(5,ZL acc v),(6,.i k)]/\h=[.tail v 1]/\m=fs.length-k) _ _ _ ⟨0,[],v1,ob,ob,(by simp),rfl,rfl,rfl⟩ (wk [0] (fr (Ye fl))) ?_)))
 rintro m F h ⟨k,acc,v,Yk,Zh,ZB,rfl,rfl,rfl⟩
 refine YP 2 (iw (Yi fs) (Y2 ((k:Int)<(fs.length:Int)) (fun Za=>?_) (fun Za=>?_)))
 ·refine ak (aq (ab 1 (Yj 2 ?_)))
  obtain ⟨x1,Z3⟩:=Zu fs k om
  refine Zq (Zi none (k:Int) 1 (Yb Z3)) (Z2 (Ab (fun fz gz F h=>∃(w:Value),F=sF [0,1,6] fz [(5,ZL (if x1≠0 then acc++[q+k] else acc) w)]/\h=[.tail w 1]) (fun _ _=>rfl) ?_ ?_))
  ·refine ac (x1 != 0) Ym (fun Zj=>?_) (fun Zj=>?_)
   ·exact az (Z0 3 (ia ((q+(k:Int))) ((q)+((k:Int))) (iL (Z6 [(q+(k:Int))]) 1 1 fun v2=>ZY 0 [(23,Z4 [(q+(k:Int))])] (ip 1 (Z6 (acc++[(q+(k:Int))])) (Z6 acc) (Z6 [(q+(k:Int))]) v none 1 (YH _) (YH _) (W4 _) (by simp<;>omega) (by simp [Wa,Z6]) fun v3=>Z2 (ZI ⟨v3,rfl,rfl⟩ (wk [0] (fc (x:=ZL (acc++[(q+(k:Int))]) v3) (Ze.slh _ (Yq Z6 (by first|rfl|(rw [Zk Zj])|(rw [Zb Zj])|(simp [Zj];done)|(rw [Yc];simp [Zj];done)|omega))) fl)))))))
   exact ak (ZI ⟨v,rfl,rfl⟩ (wk [0] (fc (x:=ZL acc v) (Ze.slh _ (Yq Z6 (by first|rfl|(rw [Zk Zj])|(rw [Zb Zj])|(simp [Zj];done)|(rw [Yc];simp [Zj];done)|omega))) fl)))
  rintro F h ⟨w,rfl,rfl⟩
  exact az (Z0 1 (ZE k (Z2 (ZH ⟨k+1,(if x1≠0 then acc++[q+k] else acc),w,ob,(by split<;>(try simp)<;>omega),(Z9k Z3 ZB),rfl,rfl,rfl⟩ (wk [0] (fr (ZJ k fl)))))))
 exact ax 0 (ar (Zm (ZW (ZL acc v) (Ze.sl _ (Yq Z6 (Z9j om ZB))))))
theorem Z0l (mm:Nat) (hl:mm<=4294967296:=by exact ob):Zp 71 [.i 0,.i mm] [] (Yz (Z4 (XI mm))):=by
 refine ZG 20 Tryz.func71 (Y3 (ar (iL (Z6 []) 0 1 fun v1=>?_)))
 refine Z2 (Y8 (ab 0 (Y6 (fun fz gz m F h=>∃(k:Nat) (v:Value),(k<=mm)/\F=sF [0,1] fz [(5,ZL (XI k) v),(6,.i k)]/\h=[.tail v 1]/\m=mm-k) _ _ _ ⟨0,v1,ob,rfl,rfl,rfl⟩ (wk [0] (fc (x:=ZL [] v1) (Ze.slh _ (Yq Z6 rfl)) (Ye fl))) ?_)))
 rintro m F h ⟨k,v,Yk,rfl,rfl,rfl⟩
 refine Xk (Y2 ((k:Int)<(mm:Int)) (fun Za=>?_) (fun Za=>?_))
 ·exact ak (aq (ab 1 (az (Z0 3 (ia ((k:Int)) ((0)+((k:Int))) (iL (Z6 [(k:Int)]) 1 1 fun v2=>ZY 0 [(17,Z4 [(k:Int)])] (ip 1 (Z6 (XI (k+1))) (Z6 (XI k)) (Z6 [(k:Int)]) v none 1 (YH _) (YH _) (W4 _) (by rw [Yi,DY];simp<;>omega) (by rw [Zc7,Wa]) fun v3=>Z2 (az (Z0 1 (ZE k (Z2 (ZH ⟨k+1,v3,ob,rfl,rfl,rfl⟩ (wk [0] (fr (ZJ k fl)))))))))))))))
 exact ax 0 (ar (Zm (ZW (ZL (XI k) v) (Ze.sl _ (Yq Z6 (by rw [show k=mm by omega]))))))
theorem Z0v (xs:LI) (i:Int) (y:Int) (hl_xs:xs.length<=4294967296:=by exact ob) (hi:0<=i/\i<xs.length:=by exact ob):Zp 134 [Z4 xs,.i i,.i y] [] (fun r h=>∃(v:Value),r=ZL (xs.set i.toNat y) v/\h=[.tail v 1]):=by
 refine ZG 15 Tryz.func134 (Y3 (Yj 1 (ic [] (Bg xs) ?_)))
 rintro _ _ ⟨v1,rfl,rfl⟩
 exact Z2 (Yj 3 (Zq (Uh 0 v1 xs i i.toNat (hq:=rfl)) (LM 0 v1 xs i.toNat y (ie (Y3 (G5 6 0 (v:=v1) (xs:=(xs.set i.toNat y)) (ZQ (r1 [0] ⟨v1.v,rfl,rfl⟩))))))))
theorem Jg (e:Nat) (v:Hd) (c:List Instr) (x:Instr) (hl:c.length<=4200000000:=by exact ob):Zp 73 [.p e 0,UI x] [.obj e [.h v],rK v 6 (Z9 (ZC c))] (fun r h=>∃(v2:Hd),r=.i c.length/\h=[.obj e [.h v2],rK v2 6 (Z9 (ZC (c++[x])))]):=by
 exact ZG 21 Tryz.func73 (ar (iA (Ww x) fun b1=>Z2 (aD 11 (ZZ 5 11 [0,1,2,3,4,5] [1,0] (Z7 6 (dL 6 [1] [e] (ZC [x]) 1 6 fun v1=>Yx 4 4 [] [(11,QI [x])] (Z7 7 (IP 7 3 c.length [] [] v 6 (Z9 (ZC c)) (ZC [x]) none (Ul c) (Ah _) (Gp _) (by simp [ZC]) (by simp<;>omega) fun v2=>Zo 1 3 [8,9] (Z7 10 (X1 10 3 [] [] e [.h v2] (de (Zs 4 [0] (Zq (H6 1 (c.length+1) v2 6 (Z9 (ZC c)++Z9 (ZC [x])) (by rw [Yr,Ul,Ul];simp only [YA,X6];omega)) (ia ((((c.length+1:Nat):Int)-1)) ((((c.length+1:Nat):Int))-(1)) (Zm (r2 [0,0] [.i (((c.length+1:Nat):Int)-1)] ⟨v2,rfl,rfl⟩ li (eq:=(rc (rr (ls:=Z9 (ZC c)++Z9 (ZC [x])) (Z7d c x) rz)))))))))))))))))))
theorem MK (e:Nat) (v:Hd) (c:List Instr) (i:Nat) (hz:Zr c i:=by exact ob) (hl:c.length<=4200000000:=by exact ob):Zp 133 [.p e 0,.i i] [.obj e [.h v],rK v 6 (Z9 (ZC c))] (fun r h=>∃(v2:Hd),h=[.obj e [.h v2],rK v2 6 (Z9 (ZC (VQ c i)))]):=by
 have hzl:=hz.lt
 obtain ⟨x,hx,Z3,Zw⟩:=hz
 refine ZG 30 Tryz.func133 (F4 1 c.length (v:=v) (Ul c) om (fun g1 c1 he1=>?_))
 subst he1
 exact Zs 5 [0] (Zq (XJ g1 c.length c1 i 6 (i:Int)) (VD (WM 1 g1 c.length c1 6 (i*6) (Z9 (ZC c)) (Ww x) 35 (UI x) (DD hx)) (iA [.i 0,.i 0,.i 0,.i 0,nl,nl] fun b1=>Zy 0 b1 (Ww x) (ie (aE 19 (ZZ 8 19 [0,1,2,3,4,5,6,7,8,9,10] [1,0,1] (dn 11 (.i c.length) (.i c.length) (lr _) (ZZ 2 7 [12,13,14,15,16] [0,0] (dx 17 (XJ g1 c.length c1 i 6 (i:Int)) (Z7 18 (Qy 18 2 [] [] g1 c.length c1 6 (i*6) [.i x.op,.i 0,.i c.length,.i 0,Z4 x.args,Z4 x.jumps] (Z9 (ZC c)) (Z9 (ZC (c.set i ⟨x.op,0,c.length,0,x.args,x.jumps⟩))) (by rw [Ul];simp only [YA,X6];omega) (GG (t:=⟨x.op,0,c.length,0,x.args,x.jumps⟩) hx) (de (r2 [2,0] [] ⟨⟨some ⟨g1,0,none⟩,c.length,c1⟩,rfl⟩ (lr _) (eq:=(rc (rr (ls:=(Z9 (ZC (c.set i ⟨x.op,0,c.length,0,x.args,x.jumps⟩)))) (by rw [Z2n hx Z3 Zw]) rz))))))))))))))))
theorem Zfb (n:ZF) (s:Z5) (mw:Nat) (cons:LI) (first:LI) (e:Nat) (v:Hd) (c:List Instr) (hn:Xx n) (ht:fS n.decls n.routines.length mw s) (hop:s.op=7∨s.op=8) (hcl:cons.length=mw) (hfl:first.length=mw) (hfs:TJ first) (hb:mw+4*s.sz<=900000000) (hcn:c.length+16*s.sz<=4000000000) (ih:∀(b2:Z8) (m2:Nat) (cons2:LI) (first2:LI) (e:Nat) (v5:Hd) (c2:List Instr),(fB n.decls n.routines.length m2 b2)->(cons2.length=m2)->(first2.length=m2)->(TJ first2)->(m2+4*b2.sz<=900000000)->(c2.length+16*b2.sz<=4000000000)->(b2.sz<s.sz)->Zp 72 [.p e 0,YG n,Yo b2,Z4 cons2,Z4 first2] [.obj e [.h v5],rK v5 6 (Z9 (ZC c2))] (fun r h=>∃(v2:Hd),h=[.obj e [.h v2],rK v2 6 (Z9 (ZC (flB (XO n.decls) n.decls (cons2,first2) b2 c2)))])):Zp 106 [.p e 0,YG n,X5 s,Z4 cons,Z4 first] [.obj e [.h v],rK v 6 (Z9 (ZC c))] (fun r h=>∃(v2:Hd),h=[.obj e [.h v2],rK v2 6 (Z9 (ZC (Ue (XO n.decls) n.decls (cons,first) s c)))]):=by
 have Xn:=hn.decls
 have hf:=(AX s).1 ht
 have hse:=s.sz_eq
 have haz:=Jr s
 have hkz:=K9 s
 have hcp:cons.length<=900000000:=by omega
 refine ZG 208 Tryz.func106 (ar (iA (X8 n) fun b1=>iA (Wd s) fun b2=>ie (Yj 1 (iw (Yi cons) (Z2 (Xk (V0 [0] (ac (s.op==7) Zf (fun Za=>?_) (fun Za=>?_)))))))))
 ·obtain ⟨k0,k1,hkk,ht0,ht1⟩:=Z6b hf Za
  have hbe:YV s.kids=k0.sz+k1.sz:=by rw [hkk];simp [YV]
  have hk0:s.kids[0]? = some k0:=by rw [hkk];rfl
  have hk1:s.kids[1]? = some k1:=by rw [hkk];rfl
  have hs0:=Qo hk0
  have hs1:=Qo hk1
  refine Zs 3 [0] (ic [] (WV s.args) ?_)
  rintro _ _ ⟨v1,rfl,rfl⟩
  refine ZY 1 [(33,.agg [.i 20,.i 0,.i 0,.i 0,Z4 s.args,.sl [] none])] (ic [3,3] (Jg e v c (Instr.mk 20 0 0 0 s.args []) (hl:=WH)) ?_)
  rintro _ _ ⟨v21,rfl,rfl⟩
  refine Z2 (aD 9 (ZZ 5 9 [0,1,2,3] [4,3] (dx 4 (Zi none 0 2 (T0 hk0)) (Zo 1 4 [5,6,7] (Z7 8 (dc 8 [0,0] [] [] (ih k0 _ cons first e v21 (c++[(Instr.mk 20 0 0 0 s.args [])]) (by first|exact ht0|exact ht1|exact hbt) WH WH (by first|exact hfs|exact TJ.x hfs om om) WH WH ob) ?_))))))
  rintro _ _ ⟨v22,rfl⟩
  have q1:(flB (XO n.decls) n.decls (cons,first) k0 (c++[(Instr.mk 20 0 0 0 s.args [])])).length+16<=_:=BF (XO n.decls) Xn _ _ _
  simp only [Bv,CG,Hl,Yr,YA,X6] at q1
  refine de (Zs 4 [3] (Zq (Zi none 0 2 (T0 hk0)) (Z0 2 (iL (Z6 [k0.result]) 1 1 fun v2=>ZY 1 [(52,.agg [.i 18,.i cons.length,.i 0,.i 0,Z4 [k0.result],.sl [] none])] (ic [1,1] (Jg e v22 (flB (XO n.decls) n.decls (cons,first) k0 (c++[(Instr.mk 20 0 0 0 s.args [])])) (Instr.mk 18 (cons.length:Int) 0 0 [k0.result] []) (hl:=WH)) ?_)))))
  rintro _ _ ⟨v23,rfl,rfl⟩
  refine ie (ar (ZY 2 [(55,.agg [.i 22,.i 0,.i 0,.i 0,.sl [] none,.sl [] none])] (ic [0,0] (Jg e v23 ((flB (XO n.decls) n.decls (cons,first) k0 (c++[(Instr.mk 20 0 0 0 s.args [])]))++[(Instr.mk 18 (cons.length:Int) 0 0 [k0.result] [])]) (Instr.mk 22 0 0 0 [] []) (hl:=WH)) ?_)))
  rintro _ _ ⟨v24,rfl,rfl⟩
  refine Z2 (Yj 2 (ic [0,0] (MK e v24 (((flB (XO n.decls) n.decls (cons,first) k0 (c++[(Instr.mk 20 0 0 0 s.args [])]))++[(Instr.mk 18 (cons.length:Int) 0 0 [k0.result] [])])++[(Instr.mk 22 0 0 0 [] [])]) c.length (hz:=(by first|exact Ct ei (Y7 hei)|(repeat (first|exact Zr.new rfl rfl|refine Zr.app ?_|refine Zr.flB ?_|refine Zr.aim ?_)))) (hl:=WH)) ?_))
  rintro _ _ ⟨v25,rfl⟩
  refine ie (aD 9 (ZZ 5 9 [0,1,2,3] [5,4] (dx 4 (Zi none 1 2 (T0 hk1)) (Zo 1 4 [5,6,7] (Z7 8 (dc 8 [0,0] [] [] (ih k1 _ cons first e v25 (VQ (((flB (XO n.decls) n.decls (cons,first) k0 (c++[(Instr.mk 20 0 0 0 s.args [])]))++[(Instr.mk 18 (cons.length:Int) 0 0 [k0.result] [])])++[(Instr.mk 22 0 0 0 [] [])]) c.length) (by first|exact ht0|exact ht1|exact hbt) WH WH (by first|exact hfs|exact TJ.x hfs om om) WH WH ob) ?_))))))
  rintro _ _ ⟨v26,rfl⟩
  have q2:((flB (XO n.decls) n.decls (cons,first) k1 (VQ (((flB (XO n.decls) n.decls (cons,first) k0 (c++[(Instr.mk 20 0 0 0 s.args [])]))++[(Instr.mk 18 (cons.length:Int) 0 0 [k0.result] [])])++[(Instr.mk 22 0 0 0 [] [])]) c.length))).length+16<=_:=BF (XO n.decls) Xn _ _ _
  simp only [Bv,CG,Hl,Yr,YA,X6] at q2
  refine de (Zs 4 [4] (Zq (Zi none 1 2 (T0 hk1)) (Z0 2 (iL (Z6 [k1.result]) 1 1 fun v3=>ZY 1 [(77,.agg [.i 18,.i cons.length,.i 0,.i 0,Z4 [k1.result],.sl [] none])] (ic [1,1] (Jg e v26 (flB (XO n.decls) n.decls (cons,first) k1 (VQ (((flB (XO n.decls) n.decls (cons,first) k0 (c++[(Instr.mk 20 0 0 0 s.args [])]))++[(Instr.mk 18 (cons.length:Int) 0 0 [k0.result] [])])++[(Instr.mk 22 0 0 0 [] [])]) c.length)) (Instr.mk 18 (cons.length:Int) 0 0 [k1.result] []) (hl:=WH)) ?_)))))
  rintro _ _ ⟨v27,rfl,rfl⟩
  refine ie (Yj 2 (ic [0,0] (MK e v27 ((flB (XO n.decls) n.decls (cons,first) k1 (VQ (((flB (XO n.decls) n.decls (cons,first) k0 (c++[(Instr.mk 20 0 0 0 s.args [])]))++[(Instr.mk 18 (cons.length:Int) 0 0 [k0.result] [])])++[(Instr.mk 22 0 0 0 [] [])]) c.length))++[(Instr.mk 18 (cons.length:Int) 0 0 [k1.result] [])]) (((flB (XO n.decls) n.decls (cons,first) k0 (c++[(Instr.mk 20 0 0 0 s.args [])]))++[(Instr.mk 18 (cons.length:Int) 0 0 [k0.result] [])]).length) (hz:=(by first|exact Ct ei (Y7 hei)|(repeat (first|exact Zr.new rfl rfl|refine Zr.app ?_|refine Zr.flB ?_|refine Zr.aim ?_)))) (hl:=WH)) ?_))
  rintro _ _ ⟨v28,rfl⟩
  exact ie (ZQ (r2 [0,0] [] ⟨v28,rfl⟩ (lr _) (eq:=(rc (rr (ls:=Z9 (ZC (VQ ((flB (XO n.decls) n.decls (cons,first) k1 (VQ (((flB (XO n.decls) n.decls (cons,first) k0 (c++[(Instr.mk 20 0 0 0 s.args [])]))++[(Instr.mk 18 (cons.length:Int) 0 0 [k0.result] [])])++[(Instr.mk 22 0 0 0 [] [])]) c.length))++[(Instr.mk 18 (cons.length:Int) 0 0 [k1.result] [])]) (((flB (XO n.decls) n.decls (cons,first) k0 (c++[(Instr.mk 20 0 0 0 s.args [])]))++[(Instr.mk 18 (cons.length:Int) 0 0 [k0.result] [])]).length)))) (by rw [Z6y Za hkk];rfl) rz)))))
 have h8:s.op=8:=by omega
 obtain ⟨hkl,hkm⟩:=Z6c hf h8
 obtain ⟨x0,hxl⟩:=Ox hf (.inr (.inl h8))
 have Pu:s.args[0]? = some x0:=by rw [hxl];rfl
 have hg0:=QB Pu
 have hxb:=hf.args x0 (by rw [hxl];exact XF.2 rfl)
 have hk3:=DX Xn s.num
 refine ak (Zs 2 [0] (Zq (Zi none 0 1 (Yb Pu)) (Z2 (Zs 4 [1,0] (ic [] (Jf n.decls s.num) ?_)))))
 rintro _ _ ⟨v4,rfl,rfl⟩
 refine Z2 (Zs 4 [1] (iL (Z6 [x0]) 1 1 fun v5=>ZY 1 [(96,.agg [.i 21,.i 0,.i s.num,.i 0,Z4 [x0],.sl [] none])] (ic [4,4] (Jg e v c (Instr.mk 21 0 s.num 0 [x0] []) (hl:=WH)) ?_)))
 rintro _ _ ⟨v29,rfl,rfl⟩
 refine Z2 (ar (iL (Z6 []) 0 1 fun v6=>Z2 (ar (iL (Z6 []) 0 1 fun v7=>?_))))
 refine Z2 (Y8 (ab 0 (Y6 (fun fz gz m F h=>∃(k:Nat) (ts:LI) (u1:Value) (es:List Nat) (u2:Value) (cc:List Instr) (r3:Hd),(k<=s.kids.length)/\(Uk (XO n.decls) n.decls (cons,first) s.num x0 c.length (s.kids.drop k) k cc ts es=Ue (XO n.decls) n.decls (cons,first) s c)/\(∀i∈es,Zr cc i)/\(cc[c.length]? = some (XM 21 0 s.num 0 s.args))/\(cc.length<=c.length+1+16*YV (s.kids.take k))/\(es.length<=k)/\(ts.length=k)/\F=sF [0,3,4,6,7,10,13,14,15] fz [(16,ZL ts u1),(17,ZL (QK es) u2),(18,.i k)]/\h=[.obj e [.h r3],Zg gz 6,Zg gz 7,.tail u1 1,.tail u2 1,Zg gz 5,rK r3 6 (Z9 (ZC cc))]/\m=s.kids.length-k) _ _ _ ⟨0,[],v6,[],v7,(c++[Instr.mk 21 0 s.num 0 [x0] []]),v29,ob,(by rw [Ca,Z6z h8,hg0,hxl];rfl),(fun i hi=>by cases hi),(by rw [hxl];simp [XM]),(by simp [YV]),ob,ob,rfl,rfl,rfl⟩ (wk [2,5,5,1,0,2,0] (fr (fc (x:=ZL [] v7) (Ze.slh _ (Yq Z6 ob)) (Ye fl))) (e:=(rc (rc (rc (rc (rc (rc (rr (ls:=Z9 (ZC (c++[(Instr.mk 21 0 s.num 0 [x0] [])]))) rfl rz))))))))) ?_)))
 rintro m F h ⟨k,ts,u1,es,u2,cc,r3,Yk,Zh,ZB,YN,Wi,QW,NN,rfl,rfl,rfl⟩
 refine YP 2 (io (.i (((Y0 n.decls s.num).length:Nat):Int)) (.i (((Z6 (Y0 n.decls s.num)).length:Nat):Int)) (li (by rw [Yi])) (Y2 ((k:Int)<(((Y0 n.decls s.num).length:Nat):Int)) (fun Zj=>?_) (fun Zj=>?_)))
 ·obtain ⟨xk,hxk⟩:=Zu (Y0 n.decls s.num) k om
  obtain ⟨kb,hkb⟩:=Zu s.kids k om
  obtain ⟨hbt,hgc,hfk⟩:=hkm k kb xk hkb hxk
  have hks:=Qo hkb
  obtain ⟨hkt1,hkt2⟩:=NK hkb
  have hcf:=Vs Xn xk
  have hfl3:(Wy n.decls s.num k).length=(ZP n.decls xk).length:=by rw [hfk]
  refine ak (aq (ab 1 (Zs 5 [0] (Zq (H6 6 cc.length r3 6 (Z9 (ZC cc)) (Ul cc)) (iL (Z6 [(cc.length:Int)]) 1 1 fun v8=>ZY 0 [(112,Z4 [(cc.length:Int)])] (ip 4 (Z6 (ts++[(cc.length:Int)])) (Z6 ts) (Z6 [(cc.length:Int)]) u1 none 1 (YH _) (YH _) (W4 _) (by simp<;>omega) (by simp [Wa,Z6]) fun v9=>?_))))))
  refine Z2 (aD 9 (ZZ 5 9 [0,1,2,3] [4] (dx 4 (Zi (some v4) (k:Int) 1 (Yb hxk)) (Zo 3 4 [5] (Z7 6 (YE 6 [] [] [] (Qr n.decls xk) (dn 7 (.i (((ZP n.decls xk).length:Nat):Int)) (.i (((Z6 (ZP n.decls xk)).length:Nat):Int)) (li (by rw [Yi])) (Zo 0 1 [8] (de (Y8 (ab 2 (Y6 (fun fz gz m F h=>∃(i:Nat) (r4:Hd),(i<=(ZP n.decls xk).length)/\F=sF [0,3,4,6,7,10,13,14,15,16,17,18,19] fz [(20,.i i)]/\h=[.obj e [.h r4],Zg gz 3,Zg gz 4,Zg gz 5,Zg gz 6,Zg gz 0,rK r4 6 (Z9 (ZC (cc++WG cons.length i x0)))]/\m=(ZP n.decls xk).length-i) _ _ _ ⟨0,r3,ob,rfl,rfl,rfl⟩ (wk [2,2,2,2,2,0,1] (Ye fl) (e:=(rc (rc (rc (rc (rc (rc (rr (ls:=Z9 (ZC cc)) (by simp [WG]) rz))))))))) ?_))))))))))))
  rintro m F h ⟨i,r4,Vr,rfl,rfl,rfl⟩
  refine Xk (Y2 ((i:Int)<(((ZP n.decls xk).length:Nat):Int)) (fun Zz=>?_) (fun Zz=>?_))
  ·refine ak (aq (ab 3 (az (Z0 3 (ia (((cons.length+i:Nat):Int)) (((cons.length:Int))+((i:Int))) (Z0 2 (iL (Z6 [x0]) 1 1 fun v10=>ZY 1 [(134,.agg [.i 19,.i (cons.length+i:Nat),.i i,.i 0,Z4 [x0],.sl [] none])] (ic [1,6] (Jg e r4 (cc++WG cons.length i x0) (Instr.mk 19 ((cons.length+i:Nat):Int) (i:Int) 0 [x0] []) (hl:=WH)) ?_))))))))
   rintro _ _ ⟨v210,rfl,rfl⟩
   exact ie (az (Z0 1 (ZE i (Z2 (ZH ⟨i+1,v210,ob,rfl,rfl,rfl⟩ (wk [0,2,2,2,2,2,0] (ZJ i fl) (e:=(rc (rc (rc (rc (rc (rc (rr (ls:=Z9 (ZC ((cc++WG cons.length i x0)++[(Instr.mk 19 ((cons.length+i:Nat):Int) (i:Int) 0 [x0] [])]))) (by rw [Re,<-Vi];rfl) rz))))))))))))))
  have hie:(ZP n.decls xk).length=i:=by omega
  have hA:(XO n.decls).arm (cons,first) x0 s.num k=(cons.set x0.toNat xk++XI (ZP n.decls xk).length,first.set x0.toNat (cons.length:Int)++XI (ZP n.decls xk).length):=by rw [<-hgc];rfl
  refine ax 2 (Yj 1 (Zv [] (Z0l ((ZP n.decls xk).length)) (Z2 (aD 23 (ZZ 18 23 [0,1,2,3,4] [2,1] (dx 5 (Zi none (k:Int) 2 (T0 hkb)) (Zo 12 17 [6,7,8,9,10] (dx 11 (Zi (some v4) (k:Int) 1 (Yb hxk)) (Zo 5 11 [12,14,16,17,18,20] (Z7 13 (dc 13 [] [1,2] [b2,b1] (Z0v cons x0 xk) ?_)))))))))))
  rintro _ _ ⟨v11,rfl,rfl⟩
  refine Yx 4 4 [] [(151,Z4 (cons.set x0.toNat xk))] (Z7 15 (dc 15 [] [1,2] [b2,b1] (TD (cons.set x0.toNat xk) (XI ((ZP n.decls xk).length)) (hl:=WH)) ?_))
  rintro _ _ ⟨v12,rfl,rfl⟩
  refine Z7 19 (dc 19 [] [1,2] [b2,b1] (Z0v first x0 (cons.length:Int)) ?_)
  rintro _ _ ⟨v13,rfl,rfl⟩
  refine Yx 2 2 [] [(157,Z4 (first.set x0.toNat (cons.length:Int)))] (Z7 21 (dc 21 [] [1,2] [b2,b1] (TD (first.set x0.toNat (cons.length:Int)) (XI ((ZP n.decls xk).length)) (hl:=WH)) ?_))
  rintro _ _ ⟨v14,rfl,rfl⟩
  refine Yx 1 1 [] [(153,Z4 ((cons.set x0.toNat xk)++(XI ((ZP n.decls xk).length)))),(159,Z4 ((first.set x0.toNat (cons.length:Int))++(XI ((ZP n.decls xk).length))))] (Z7 22 (dc 22 [4,9] [] [] (ih kb _ ((cons.set x0.toNat xk)++(XI ((ZP n.decls xk).length))) ((first.set x0.toNat (cons.length:Int))++(XI ((ZP n.decls xk).length))) e r4 (cc++WG cons.length i x0) (by first|exact ht0|exact ht1|exact hbt) WH WH (by first|exact hfs|exact TJ.x hfs om om) WH WH ob) ?_))
  rintro _ _ ⟨v211,rfl⟩
  have q3:((flB (XO n.decls) n.decls (((cons.set x0.toNat xk)++(XI ((ZP n.decls xk).length))),((first.set x0.toNat (cons.length:Int))++(XI ((ZP n.decls xk).length)))) kb (cc++WG cons.length i x0))).length+16<=_:=BF (XO n.decls) Xn _ _ _
  simp only [Bv,CG,Hl,Yr,YA,X6] at q3
  refine de (Zs 5 [6] (Zq (Zi none (k:Int) 2 (T0 hkb)) (Z0 2 (iL (Z6 [kb.result]) 1 1 fun v15=>ZY 1 [(170,.agg [.i 18,.i cons.length,.i 0,.i 0,Z4 [kb.result],.sl [] none])] (ic [1,1] (Jg e v211 (flB (XO n.decls) n.decls (((cons.set x0.toNat xk)++(XI ((ZP n.decls xk).length))),((first.set x0.toNat (cons.length:Int))++(XI ((ZP n.decls xk).length)))) kb (cc++WG cons.length i x0)) (Instr.mk 18 (cons.length:Int) 0 0 [kb.result] []) (hl:=WH)) ?_)))))
  rintro _ _ ⟨v212,rfl,rfl⟩
  refine ie (Yj 2 (io (.i (((Y0 n.decls s.num).length:Nat):Int)) (.i (((Z6 (Y0 n.decls s.num)).length:Nat):Int)) (li (by rw [Yi])) (ia (((((Y0 n.decls s.num).length:Nat):Int)-1)) (((((Y0 n.decls s.num).length:Nat):Int))-(1)) (Y2 ((k:Int)<((((Y0 n.decls s.num).length:Nat):Int)-1)) (fun Yg=>?_) (fun Yg=>?_)))))
  ·refine ar (ZY 2 [(178,.agg [.i 22,.i 0,.i 0,.i 0,.sl [] none,.sl [] none])] (ic [0,0] (Jg e v212 ((flB (XO n.decls) n.decls (((cons.set x0.toNat xk)++(XI ((ZP n.decls xk).length))),((first.set x0.toNat (cons.length:Int))++(XI ((ZP n.decls xk).length)))) kb (cc++WG cons.length i x0))++[(Instr.mk 18 (cons.length:Int) 0 0 [kb.result] [])]) (Instr.mk 22 0 0 0 [] []) (hl:=WH)) ?_))
   rintro _ _ ⟨v213,rfl,rfl⟩
   exact Z2 (az (Z0 2 (iL (Z6 [((((flB (XO n.decls) n.decls (((cons.set x0.toNat xk)++(XI ((ZP n.decls xk).length))),((first.set x0.toNat (cons.length:Int))++(XI ((ZP n.decls xk).length)))) kb (cc++WG cons.length i x0))++[(Instr.mk 18 (cons.length:Int) 0 0 [kb.result] [])]).length:Nat):Int)]) 1 1 fun v16=>ZY 0 [(182,Z4 [((((flB (XO n.decls) n.decls (((cons.set x0.toNat xk)++(XI ((ZP n.decls xk).length))),((first.set x0.toNat (cons.length:Int))++(XI ((ZP n.decls xk).length)))) kb (cc++WG cons.length i x0))++[(Instr.mk 18 (cons.length:Int) 0 0 [kb.result] [])]).length:Nat):Int)])] (ip 10 (Z6 ((QK es)++[((((flB (XO n.decls) n.decls (((cons.set x0.toNat xk)++(XI ((ZP n.decls xk).length))),((first.set x0.toNat (cons.length:Int))++(XI ((ZP n.decls xk).length)))) kb (cc++WG cons.length i x0))++[(Instr.mk 18 (cons.length:Int) 0 0 [kb.result] [])]).length:Nat):Int)])) (Z6 (QK es)) (Z6 [((((flB (XO n.decls) n.decls (((cons.set x0.toNat xk)++(XI ((ZP n.decls xk).length))),((first.set x0.toNat (cons.length:Int))++(XI ((ZP n.decls xk).length)))) kb (cc++WG cons.length i x0))++[(Instr.mk 18 (cons.length:Int) 0 0 [kb.result] [])]).length:Nat):Int)]) u2 none 1 (YH _) (YH _) (W4 _) (by simp [Hr]<;>omega) (by simp [Wa,Z6]) fun v17=>Z2 (az (Z0 1 (ZE k (Z2 (ZH ⟨k+1,(ts++[(cc.length:Int)]),v9,(es++[((flB (XO n.decls) n.decls (((cons.set x0.toNat xk)++(XI ((ZP n.decls xk).length))),((first.set x0.toNat (cons.length:Int))++(XI ((ZP n.decls xk).length)))) kb (cc++WG cons.length i x0))++[(Instr.mk 18 (cons.length:Int) 0 0 [kb.result] [])]).length]),v17,(((flB (XO n.decls) n.decls (((cons.set x0.toNat xk)++(XI ((ZP n.decls xk).length))),((first.set x0.toNat (cons.length:Int))++(XI ((ZP n.decls xk).length)))) kb (cc++WG cons.length i x0))++[(Instr.mk 18 (cons.length:Int) 0 0 [kb.result] [])])++[(Instr.mk 22 0 0 0 [] [])]),v213,ob,(by have h:=Z6j (X:=XO n.decls) hkb om Zh;rw [hfl3,hie,hA] at h;exact h),(fun j hj=>(Xf.1 hj).elim (fun hj=>(ZB j hj).app.flB.app.app) fun hj=>by rw [XF.1 hj];exact Zr.new rfl rfl),(EK (EK (Ph (EK YN)))),WH,WH,WH,rfl,rfl,rfl⟩ (wk [2,8,8,9,0,7,1] (fr (fc (x:=ZL ((QK es)++[((((flB (XO n.decls) n.decls (((cons.set x0.toNat xk)++(XI ((ZP n.decls xk).length))),((first.set x0.toNat (cons.length:Int))++(XI ((ZP n.decls xk).length)))) kb (cc++WG cons.length i x0))++[(Instr.mk 18 (cons.length:Int) 0 0 [kb.result] [])]).length:Nat):Int)]) v17) (Ze.slh _ (Yq Z6 (Zcc _ _))) (ZJ k fl)))))))))))))
  exact ak (az (Z0 1 (ZE k (Z2 (ZH ⟨k+1,(ts++[(cc.length:Int)]),v9,es,u2,((flB (XO n.decls) n.decls (((cons.set x0.toNat xk)++(XI ((ZP n.decls xk).length))),((first.set x0.toNat (cons.length:Int))++(XI ((ZP n.decls xk).length)))) kb (cc++WG cons.length i x0))++[(Instr.mk 18 (cons.length:Int) 0 0 [kb.result] [])]),v212,ob,(by have h:=Z6k (X:=XO n.decls) hkb om Zh;rw [hfl3,hie,hA] at h;exact h),(fun j hj=>(ZB j hj).app.flB.app),(EK (Ph (EK YN))),WH,WH,WH,rfl,rfl,rfl⟩ (wk [0,6,6,8,6,6,0] (fw (ZJ k fl))))))))
 have hAe:=Z6i om Zh
 have hbt:YV (s.kids.take k)=YV s.kids:=by rw [Wh om]
 have hat:=(Xc.1 YN).1
 rw [hxl] at YN
 refine F4 6 cc.length (v:=r3) (Ul cc) om (fun g1 c1 he1=>?_)
 subst he1
 refine ax 0 (aD 13 (ZZ 4 13 [0,1,2,3,4,5,6,7,9] [0,1] (Z7 8 (dL 8 [1,0] [b2,e] (Z6 [x0]) 1 1 fun v18=>?_))))
 refine Zo 2 3 [10] (dx 11 (XJ g1 cc.length c1 c.length 6 (c.length:Int)) (Yx 1 1 [] [(194,.agg [.i 21,.i 0,.i s.num,.i 0,Z4 [x0],Z4 ts])] (Z7 12 (Qy 12 7 [] [] g1 cc.length c1 6 (c.length*6) [.i 21,.i 0,.i s.num,.i 0,Z4 [x0],Z4 ts] (Z9 (ZC cc)) (Z9 (ZC (cc.set c.length ⟨21,0,s.num,0,[x0],ts⟩))) (by rw [Ul];simp only [YA,X6];omega) (GG (t:=⟨21,0,s.num,0,[x0],ts⟩) YN) (de (Y3 (ab 4 (Y6 (fun fz gz m F h=>∃(i2:Nat) (cc2:List Instr) (r5:Hd),(i2<=es.length)/\(TT cc2 (es.drop i2)=Ue (XO n.decls) n.decls (cons,first) s c)/\(∀j∈es,Zr cc2 j)/\(cc2.length=cc.length)/\F=sF [0,17] fz [(23,.i i2)]/\h=[.obj e [.h r5],Zg gz 6,rK r5 6 (Z9 (ZC cc2))]/\m=es.length-i2) _ _ _ ⟨0,(Qf cc c.length ts),(⟨some ⟨g1,0,none⟩,cc.length,c1⟩:Hd),ob,hAe,(fun j hj=>(ZB j hj).fan),(CG _ _ _),rfl,rfl,rfl⟩ (wk [2,5,0] (Ye fl) (e:=(rc (rc (rr (ls:=(Z9 (ZC (cc.set c.length ⟨21,0,s.num,0,[x0],ts⟩)))) (by rw [Z6f YN]) rz))))) ?_))))))))
 rintro m F h ⟨i2,cc2,r5,IF,Cs,Ct,Zih,rfl,rfl,rfl⟩
 refine YP 2 (io (.i (((QK es).length:Nat):Int)) (.i (((Z6 (QK es)).length:Nat):Int)) (li (by rw [Yi])) (Y2 ((i2:Int)<(((QK es).length:Nat):Int)) (fun YL=>?_) (fun YL=>?_)))
 ·rw [Hr] at YL
  obtain ⟨ei,hei⟩:=Zu es i2 om
  refine ak (aq (ab 5 (az (Z0 3 (Zq (Eg (es:=Z6 (QK es)) (hv:=some u2) (j:=(i2:Int)) (sz:=1) (y:=.i ei) kr om (Yb (Zcb hei)) rfl) (Z0 1 (ic [0,1] (MK e r5 cc2 ei (hz:=(by first|exact Ct ei (Y7 hei)|(repeat (first|exact Zr.new rfl rfl|refine Zr.app ?_|refine Zr.flB ?_|refine Zr.aim ?_)))) (hl:=WH)) ?_)))))))
  rintro _ _ ⟨v214,rfl⟩
  exact ie (az (Z0 1 (ZE i2 (Z2 (ZH ⟨i2+1,(VQ cc2 ei),v214,ob,(Z2p hei Cs),(fun j hj=>(Ct j hj).aim),WH,rfl,rfl,rfl⟩ (wk [0,1,0] (ZJ i2 fl)))))))
 rw [Hr] at YL
 exact ax 4 (r2 [0,1] [] ⟨r5,rfl⟩ (lr _) (eq:=(rc (rr (ls:=Z9 (ZC cc2)) (by rw [Z2o om Cs]) rz))))
theorem Zfk (n:ZF) (b:Z8) (mw:Nat) (cons:LI) (first:LI) (e:Nat) (v:Hd) (c:List Instr) (hn:Xx n) (ht:fB n.decls n.routines.length mw b) (hcl:cons.length=mw) (hfl:first.length=mw) (hfs:TJ first) (hb:mw+4*b.sz<=900000000) (hcn:c.length+16*b.sz<=4000000000) (ih:∀(s2:Z5) (m2:Nat) (cons2:LI) (first2:LI) (e:Nat) (v5:Hd) (c2:List Instr),(fS n.decls n.routines.length m2 s2)->(s2.op=7∨s2.op=8)->(cons2.length=m2)->(first2.length=m2)->(TJ first2)->(m2+4*s2.sz<=900000000)->(c2.length+16*s2.sz<=4000000000)->(s2.sz<b.sz)->Zp 106 [.p e 0,YG n,X5 s2,Z4 cons2,Z4 first2] [.obj e [.h v5],rK v5 6 (Z9 (ZC c2))] (fun r h=>∃(v2:Hd),h=[.obj e [.h v2],rK v2 6 (Z9 (ZC (Ue (XO n.decls) n.decls (cons2,first2) s2 c2)))])):Zp 72 [.p e 0,YG n,Yo b,Z4 cons,Z4 first] [.obj e [.h v],rK v 6 (Z9 (ZC c))] (fun r h=>∃(v2:Hd),h=[.obj e [.h v2],rK v2 6 (Z9 (ZC (flB (XO n.decls) n.decls (cons,first) b c)))]):=by
 have Xn:=hn.decls
 have hvs:=((J1 b).1 ht).1
 have hbz:=UH b
 have hbe:=b.sz_eq
 refine ZG 97 Tryz.func72 (ar (iA (X8 n) fun b1=>iA (W0 b) fun b2=>?_))
 refine ie (Y3 (ab 0 (Y6 (fun fz gz m F h=>∃(k:Nat) (cs:LI) (fs:LI) (cc:List Instr) (r3:Hd),(k<=b.steps.length)/\(mw<=cs.length/\cs.length<=mw+Yw (b.steps.take k))/\(Wb n.decls n.routines.length cs.length (b.steps.drop k))/\(UL (XO n.decls) n.decls (cs,fs) (b.steps.drop k) cc=UL (XO n.decls) n.decls (cons,first) b.steps c)/\(fs.length=cs.length)/\(TJ fs)/\(cc.length<=c.length+16*Yw (b.steps.take k))/\F=sF [0,6,7] fz [(3,Z4 cs),(4,Z4 fs),(10,.i k)]/\h=[Zg gz 0,Zg gz 1,.obj e [.h r3],rK r3 6 (Z9 (ZC cc))]/\m=b.steps.length-k) _ _ _ ⟨0,cons,first,c,v,ob,om,(by rw [Ca,hcl];exact hvs),rfl,om,hfs,(by simp),rfl,rfl,rfl⟩ (Zt 4 (fw (Ye fl))) ?_)))
 rintro m F h ⟨k,cs,fs,cc,r3,Yk,Zh,ZB,YN,Wi,QW,NN,rfl,rfl,rfl⟩
 refine Yp 3 [0] (iw (UK b.steps) (Y2 ((k:Int)<(b.steps.length:Int)) (fun Za=>?_) (fun Za=>?_)))
 ·refine ak (aq (ab 1 (Zs 3 [0] ?_)))
  obtain ⟨x1,Z3⟩:=Zu b.steps k om
  have XQ:=D8 Z3
  have hdr:=Yl Z3
  have c0_2s:=ZB
  rw [hdr] at c0_2s
  obtain ⟨g1,g2⟩:=c0_2s
  have hf:=(AX x1).1 g1
  have hkz:=K9 x1
  have haz:=Jr x1
  have htk:=HX Z3
  have htl:=KN b.steps (k+1)
  have hsp:=x1.sz_pos
  have hdc:=Z6a hf
  have hfl:=OF (XO n.decls) Xn x1 (cs,fs) cc
  refine Zq (Zi none (k:Int) 5 (Vc Z3)) (Z0 1 (iA [.i 0,.i 0,.i 0,nl,nl] fun b3=>?_))
  refine Zy 0 b3 (Wd x1) (ie (Xk (V0 [0] (ab 2 (Y8 (XC (fun fz gz F h=>F=sF [0,3,4,6,7,10,11,26] fz [(41,.b ((x1.op==7)||(x1.op==8)))]/\h=gz) ?_ ?_))))))
  ·refine ac (x1.op==7) Zf (fun Zj=>?_) (fun Zj=>?_)
   ·exact ak (ZI ⟨rfl,rfl⟩ (Zt 5 (fc (x:=.b (x1.op==7)) (lb (by first|rfl|(rw [Zk Zj])|(rw [Zb Zj])|(simp [Zj];done)|(rw [Yc];simp [Zj];done)|omega)) fl)))
   exact VC (ZI ⟨rfl,rfl⟩ (Zt 5 (fc (x:=.b (x1.op==8)) (lb (by first|rfl|(rw [Zk Zj])|(rw [Zb Zj])|(simp [Zj];done)|(rw [Yc];simp [Zj];done)|omega)) fl)))
  rintro F h ⟨rfl,rfl⟩
  refine Ab (fun fz gz F h=>∃(r4:Hd),F=sF [0,3,4,6,7,10,11] fz []/\h=[Zg gz 0,Zg gz 1,Zg gz 2,.obj e [.h r4],rK r4 6 (Z9 (ZC (Ue (XO n.decls) n.decls (cs,fs) x1 cc)))]) (fun _ _=>rfl) ?_ ?_
  ·refine ac ((x1.op==7)||(x1.op==8)) (p:=(x1.op=7)∨(x1.op=8)) (ZO Zf Zf) (fun Zz=>?_) (fun Zz=>?_)
   ·refine az (ZA 5 [2,0] (ic [3,3] (ih x1 cs.length cs fs e r3 cc g1 ob ob ob QW ob ob ob) ?_))
    rintro _ _ ⟨v21,rfl⟩
    exact ie (ZI ⟨v21,rfl,rfl⟩ (wk [2,2,2,0,0] fl))
   refine Y8 (XC (fun fz gz F h=>F=sF [0,3,4,6,7,10,11,26] fz [(50,.b ((x1.op==14)||(x1.op==15)))]/\h=gz) ?_ ?_)
   ·refine ac (x1.op==14) Zf (fun Yg=>?_) (fun Yg=>?_)
    ·exact ak (ZI ⟨rfl,rfl⟩ (Zt 5 (fc (x:=.b (x1.op==14)) (lb (by first|rfl|(rw [Zk Yg])|(rw [Zb Yg])|(simp [Yg];done)|(rw [Yc];simp [Yg];done)|omega)) fl)))
    exact VC (ZI ⟨rfl,rfl⟩ (Zt 5 (fc (x:=.b (x1.op==15)) (lb (by first|rfl|(rw [Zk Yg])|(rw [Zb Yg])|(simp [Yg];done)|(rw [Yc];simp [Yg];done)|omega)) fl)))
   rintro F h ⟨rfl,rfl⟩
   refine ac ((x1.op==14)||(x1.op==15)) (p:=(x1.op=14)∨(x1.op=15)) (ZO Zf Zf) (fun YL=>?_) (fun YL=>?_)
   ·refine aE 8 (ZZ 3 8 [0,1,2,3,4] [0,0] (Z7 5 (dc 5 [] [0] [b3] (WV x1.args) ?_)))
    rintro _ _ ⟨v1,rfl,rfl⟩
    refine Yx 1 2 [6] [(59,.agg [.i x1.op,.i 0,.i 0,.i 0,Z4 x1.args,.sl [] none])] (Z7 7 (dc 7 [4,4] [] [] (Jg e r3 cc (Instr.mk x1.op 0 0 0 x1.args []) (hl:=WH)) ?_))
    rintro _ _ ⟨v22,rfl,rfl⟩
    exact de (ZI ⟨v22,rfl,rfl⟩ (wk [3,3,3,0,0] fl (e:=(rc (rc (rc (rc (rr (ls:=Z9 (ZC (cc++[(Instr.mk x1.op 0 0 0 x1.args [])]))) (by rw [Z6v YL];rfl) rz))))))))
   refine Y8 (XC (fun fz gz F h=>F=sF [0,3,4,6,7,10,11] fz [(61,.b ((x1.op==16)||(x1.op==17)))]/\h=gz) ?_ ?_)
   ·refine ac (x1.op==16) Zf (fun X3=>?_) (fun X3=>?_)
    ·exact ak (ZI ⟨rfl,rfl⟩ (Zt 5 (fc (x:=.b (x1.op==16)) (lb (by first|rfl|(rw [Zk X3])|(rw [Zb X3])|(simp [X3];done)|(rw [Yc];simp [X3];done)|omega)) fl)))
    exact VC (ZI ⟨rfl,rfl⟩ (Zt 5 (fc (x:=.b (x1.op==17)) (lb (by first|rfl|(rw [Zk X3])|(rw [Zb X3])|(simp [X3];done)|(rw [Yc];simp [X3];done)|omega)) fl)))
   rintro F h ⟨rfl,rfl⟩
   refine ac ((x1.op==16)||(x1.op==17)) (p:=(x1.op=16)∨(x1.op=17)) (ZO Zf Zf) (fun Wz=>?_) (fun Wz=>?_)
   ·refine Zs 2 [0] ?_
    obtain ⟨x2,Zw⟩:=Zu x1.args 0 (by obtain ⟨a,ha⟩:=Ox hf om;rw [ha];simp)
    have hg0:=QB Zw
    have hra:=hf.args x2 (Y7 Zw)
    refine Zq (Zi none 0 1 (Yb Zw)) (Z2 (aE 20 (ZZ 11 20 [0,1,2,3,4,5,6,7,8] [0,0,2] ?_)))
    obtain ⟨x3,YT⟩:=Zu cs x2.toNat om
    have hg1:=Ti YT
    have hcf:=Vs Xn x3
    refine dx 9 (Zi none x2 1 (Yb YT)) (Zo 7 10 [10,12,13] ?_)
    obtain ⟨x4,Vn⟩:=Zu fs x2.toNat om
    have hg2:=Ti Vn
    have hgf:=QW _ (Y7 Vn)
    have hhl:=GT (ZP n.decls x3) x4
    refine dx 14 (Zi none x2 1 (Yb Vn)) (Zo 5 6 [15] (Z7 11 (YE 11 [] [0,0] [b3,b3] (Qr n.decls x3) (Z7 16 (YE 16 [] [0,0] [b3,b3] (Zfn (ZP n.decls x3) x4) (Z7 17 (dc 17 [] [0] [b3] (TD x1.args (UP (ZP n.decls x3) x4) (hl:=WH)) ?_)))))))
    rintro _ _ ⟨v2,rfl,rfl⟩
    refine Yx 1 2 [18] [(86,.agg [.i x1.op,.i 0,.i 0,.i 0,Z4 (x1.args++(UP (ZP n.decls x3) x4)),.sl [] none])] (Z7 19 (dc 19 [4,4] [] [] (Jg e r3 cc (Instr.mk x1.op 0 0 0 (x1.args++(UP (ZP n.decls x3) x4)) []) (hl:=WH)) ?_))
    rintro _ _ ⟨v23,rfl,rfl⟩
    exact de (ZI ⟨v23,rfl,rfl⟩ (wk [3,3,3,0,0] fl (e:=(rc (rc (rc (rc (rr (ls:=Z9 (ZC (cc++[(Instr.mk x1.op 0 0 0 (x1.args++(UP (ZP n.decls x3) x4)) [])]))) (by rw [Z70 Wz];show _=Z9 (ZC (cc++[XM _ 0 0 0 (x1.args++UP (ZP n.decls (gI cs (gI x1.args 0))) (gI fs (gI x1.args 0)))]));rw [hg0,hg1,hg2];rfl) rz))))))))
   refine aE 14 (ZZ 10 14 [0,1,2,3] [0] (dw 4 (Yi cs) (ZZ 3 9 [5,6,7,8,9,10] [0,0,0] (Z7 11 (dc 11 [] [0,0,0] [b3,b3,b3] (WV x1.args) ?_)))))
   rintro _ _ ⟨v3,rfl,rfl⟩
   refine Yx 1 2 [12] [(39,.agg [.i x1.op,.i cs.length,.i x1.num,.i x1.into,Z4 x1.args,.sl [] none])] (Z7 13 (dc 13 [4,4] [] [] (Jg e r3 cc (Instr.mk x1.op (cs.length:Int) x1.num x1.into x1.args []) (hl:=WH)) ?_))
   rintro _ _ ⟨v24,rfl,rfl⟩
   exact de (ZI ⟨v24,rfl,rfl⟩ (wk [3,3,3,0,0] fl (e:=(rc (rc (rc (rc (rr (ls:=Z9 (ZC (cc++[(Instr.mk x1.op (cs.length:Int) x1.num x1.into x1.args [])]))) (by rw [Z6w om om YL Wz];rfl) rz))))))))
  rintro F h ⟨r4,rfl,rfl⟩
  refine Zs 2 [0] (Zv [] (Km x1.op) (ie (ac (Xh x1.op) Iff.rfl (fun VK=>?_) (fun VK=>?_))))
  ·refine Yj 1 (iL (Z6 [0]) 1 1 fun v4=>ZY 0 [(92,Z4 [0])] (ic [] (TD cs [0] (hl:=WH)) ?_))
   rintro _ _ ⟨v5,rfl,rfl⟩
   refine Z2 (az (Z0 1 (iL (Z6 [0]) 1 1 fun v6=>ZY 0 [(95,Z4 [0])] (ic [] (TD fs [0] (hl:=WH)) ?_))))
   rintro _ _ ⟨v7,rfl,rfl⟩
   refine Z2 (az (Z0 1 (ZE k (Z2 ?_))))
   have hnc:¬YO x1.op=true:=fun q=>by rw [q,VK] at hdc;cases hdc
   rw [Zb hnc] at g2
   exact ZH ⟨k+1,(cs++[0]),(fs++[0]),(Ue (XO n.decls) n.decls (cs,fs) x1 cc),r4,ob,(by rw [Yr,Bn];omega),(by rw [Yr,Bn];exact g2),(by have h:=OK (X:=XO n.decls) Z3 YN;rw [Zb hnc] at h;exact h),(by simp [Wi]),QW.snoc,om,rfl,rfl,rfl⟩ (wk [5,5,5,5] (fc (x:=ZL (cs++[0]) v5) (Ze.sl _ (Yq Z6 ob)) (fc (x:=ZL (fs++[0]) v7) (Ze.sl _ (Yq Z6 ob)) (ZJ k fl))))
  refine ak (az (Z0 1 (ZE k (Z2 ?_))))
  have hyc:YO x1.op=true:=by cases q:YO x1.op with
   | true=>rfl
   | false=>rw [q] at hdc;exact absurd hdc VK
  rw [Zk hyc] at g2
  exact ZH ⟨k+1,cs,fs,(Ue (XO n.decls) n.decls (cs,fs) x1 cc),r4,ob,om,g2,(by have h:=OK (X:=XO n.decls) Z3 YN;rw [Zk hyc] at h;exact h),ob,ob,om,rfl,rfl,rfl⟩ (wk [1,1,1,1] (fw (ZJ k fl)))
 exact ax 0 (r2 [2,2] [] ⟨r3,rfl⟩ (lr _) (eq:=(rc (rr (ls:=Z9 (ZC cc)) (by rw [Z73 om YN,Z6m]) rz))))
theorem Zfl (n:ZF) (hn:Xx n) (k:Nat):(∀(s:Z5) (mw:Nat) (cons:LI) (first:LI) (e:Nat) (v:Hd) (c:List Instr),(fS n.decls n.routines.length mw s)->(s.op=7∨s.op=8)->(cons.length=mw)->(first.length=mw)->(TJ first)->(mw+4*s.sz<=900000000)->(c.length+16*s.sz<=4000000000)->(s.sz<=k)->Zp 106 [.p e 0,YG n,X5 s,Z4 cons,Z4 first] [.obj e [.h v],rK v 6 (Z9 (ZC c))] (fun r h=>∃(v2:Hd),h=[.obj e [.h v2],rK v2 6 (Z9 (ZC (Ue (XO n.decls) n.decls (cons,first) s c)))]))/\(∀(b:Z8) (mw:Nat) (cons:LI) (first:LI) (e:Nat) (v:Hd) (c:List Instr),(fB n.decls n.routines.length mw b)->(cons.length=mw)->(first.length=mw)->(TJ first)->(mw+4*b.sz<=900000000)->(c.length+16*b.sz<=4000000000)->(b.sz<=k)->Zp 72 [.p e 0,YG n,Yo b,Z4 cons,Z4 first] [.obj e [.h v],rK v 6 (Z9 (ZC c))] (fun r h=>∃(v2:Hd),h=[.obj e [.h v2],rK v2 6 (Z9 (ZC (flB (XO n.decls) n.decls (cons,first) b c)))])):=by
 induction k with
 | zero=>exact ⟨fun s m cons first e v c h1 h2 h3 h4 h5 h6 h7 h8=>by have:=s.sz_pos;omega,fun b m cons first e v c h1 h2 h3 h4 h5 h6 h7=>by have:=b.sz_eq;omega⟩
 | succ k ih=>exact ⟨fun s m cons first e v c h1 h2 h3 h4 h5 h6 h7 h8=>Zfb n s m cons first e v c hn h1 h2 h3 h4 h5 h6 h7 fun b2 m2 c2 f2 e2 v2 i2 q1 q2 q3 q4 q5 q6 q7=>ih.2 b2 m2 c2 f2 e2 v2 i2 q1 q2 q3 q4 q5 q6 om,fun b m cons first e v c h1 h2 h3 h4 h5 h6 h7=>Zfk n b m cons first e v c hn h1 h2 h3 h4 h5 h6 fun s2 m2 c2 f2 e2 v2 i2 q1 q2 q3 q4 q5 q6 q7 q8=>ih.1 s2 m2 c2 f2 e2 v2 i2 q1 q2 q3 q4 q5 q6 q7 om⟩
theorem Zfj (n:ZF) (b:Z8) (mw:Nat) (cons:LI) (first:LI) (e:Nat) (v:Hd) (c:List Instr) (hn:Xx n:=by exact ob) (ht:fB n.decls n.routines.length mw b:=by exact ob) (hcl:cons.length=mw:=by exact ob) (hfl:first.length=mw:=by exact ob) (hfs:TJ first:=by exact ob) (hb:mw+4*b.sz<=900000000:=by exact ob) (hcn:c.length+16*b.sz<=4000000000:=by exact ob):Zp 72 [.p e 0,YG n,Yo b,Z4 cons,Z4 first] [.obj e [.h v],rK v 6 (Z9 (ZC c))] (fun r h=>∃(v2:Hd),h=[.obj e [.h v2],rK v2 6 (Z9 (ZC (flB (XO n.decls) n.decls (cons,first) b c)))]):=(Zfl n hn b.sz).2 b mw cons first e v c ht hcl hfl hfs hb hcn (X9 _)
theorem Zfr (c:List Instr) (p:Nat) (hrg:Rg c:=by exact ob) (hlc:c.length<=1000000000:=by exact ob) (hp:p<=1000000000:=by exact ob):Zp 75 [QI c,.i p] [] (Yz (.i (max (Ux 0 c) (p:Int)))):=by
 refine ZG 45 Tryz.func75 (Y3 (Y3 (Y8 (ab 0 (Y6 (fun fz gz m F h=>∃(k:Nat) (mx:Int),(k<=c.length)/\(0<=mx/\mx<=1000000001)/\(Ux mx (c.drop k)=Ux (p:Int) c)/\F=sF [0] fz [(5,.i mx),(6,.i k)]/\h=gz/\m=c.length-k) _ _ _ ⟨0,(p:Int),ob,ob,rfl,rfl,rfl,rfl⟩ (wk [] (fr (Ye fl))) ?_)))))
 rintro m F h ⟨k,mx,Yk,Zh,ZB,rfl,rfl,rfl⟩
 refine YP 2 (iw (Tw c) (Y2 ((k:Int)<(c.length:Int)) (fun Za=>?_) (fun Za=>?_)))
 ·refine ak (aq (ab 1 (Yj 3 ?_)))
  obtain ⟨x1,Z3⟩:=Zu c k om
  have hrx:=hrg _ (Y7 Z3)
  have hdx:=hrx.dst
  have hlx:=hrx.len
  refine Zq (Zi none (k:Int) 6 (QZ Z3)) (Z0 2 (ia ((x1.dst+1)) ((x1.dst)+(1)) (Zq (H7 mx (x1.dst+1)) (Z2 (Y3 (ab 2 (Y6 (fun fz gz m F h=>∃(j:Nat) (mm:Int),(j<=x1.args.length)/\(0<=mm/\mm<=1000000001)/\((x1.args.drop j).foldl (fun m a=>max m (a+1)) mm=Kf mx x1)/\F=sF [0,6] fz [(5,.i mm),(7,.i j)]/\h=gz/\m=x1.args.length-j) _ _ _ ⟨0,(max mx (x1.dst+1)),ob,ob,rfl,rfl,rfl,rfl⟩ (wk [] (fr (Ye fl))) ?_)))))))
  rintro m F h ⟨j,mm,Vr,Xs,XU,rfl,rfl,rfl⟩
  refine YP 3 (Zq (Zi none (k:Int) 6 (QZ Z3)) (Z0 2 (iw (Yi x1.args) (Y2 ((j:Int)<(x1.args.length:Int)) (fun Zj=>?_) (fun Zj=>?_)))))
  ·refine ak (aq (ab 3 (az (Z0 3 (Zq (Zi none (k:Int) 6 (QZ Z3)) (Z0 3 ?_))))))
   obtain ⟨x2,Zw⟩:=Zu x1.args j om
   have hax:=hrx.args x2 (Y7 Zw)
   exact Zq (Zi none (j:Int) 1 (Yb Zw)) (Z0 1 (ia ((x2+1)) ((x2)+(1)) (Zq (H7 mm (x2+1)) (Z2 (az (Z0 1 (ZE j (Z2 (ZH ⟨j+1,(max mm (x2+1)),ob,ob,(Zbu Zw XU),rfl,rfl,rfl⟩ (wk [] (fr (ZJ j fl))))))))))))
  exact ax 2 (az (Z0 1 (ZE k (Z2 (ZH ⟨k+1,mm,ob,ob,(Zdj Z3 (Zbt om XU) ZB),rfl,rfl,rfl⟩ (wk [] (fr (ZJ k fl))))))))
 exact ax 0 (ar (Zm (ZW (.i mx) (li (by rw [<-Zdh];exact Zdi om ZB)))))
theorem P4 (n:ZF) (q:Nat) (hF:FN n q:=by exact ob) (hq:q<=10000000:=by exact ob):Zp 36 [YG n] [] (Yz (V5 (K8 n))):=by
 have hn:=hF.ok
 have hzl:=hF.len
 have Xn:=hn.decls
 refine ZG 73 Tryz.func36 (ar (iA (X8 n) fun b1=>iA [nl,nl] fun b2=>ie (Zs 2 [1] (Zv [] (Bf n.decls (hd:=hn.decls)) (iL (We []) 0 5 fun v1=>Z0 1 (iA [nl,nl] fun b3=>?_))))))
 refine Zy 0 b3 [Y5 n.decls,Uf [] v1] (ie (Y8 (ab 0 (Y6 (fun fz gz m F h=>∃(k:Nat) (v:Value),(k<=n.routines.length)/\F=sF [1,2,3] fz [(4,.i k)]/\h=[.obj b3 [Y5 n.decls,Uf ((n.routines.take k).map (BX n.decls)) v],Zg gz 2,Zg gz 3,.tail v 5]/\m=n.routines.length-k) _ _ _ ⟨0,v1,ob,rfl,rfl,rfl⟩ (wk [0,1,1,0] (Ye fl)) ?_))))
 rintro m F h ⟨k,v,Yk,rfl,rfl,rfl⟩
 refine Yp 3 [2] (iw (TW n.routines) (Y2 ((k:Int)<(n.routines.length:Int)) (fun Za=>?_) (fun Za=>?_)))
 ·refine ak (aq (ab 1 (Zs 3 [2] ?_)))
  obtain ⟨x1,Z3⟩:=Zu n.routines k om
  have hrm:=Y7 Z3
  have hbz:=hF.body _ hrm
  have hpl:=hn.params_at Z3
  have hll:=hn.lent_at Z3
  have hcg:=NQ hF hq _ hrm
  have hfl:=BF (XO n.decls) Xn (x1).body (XI (x1).params.length,XI (x1).params.length) []
  simp only [X6] at hfl
  refine Zq (Zi none (k:Int) 5 (VS Z3)) (Z0 1 (iA [nl,nl,.i 0,nl,.i 0] fun b4=>Zy 0 b4 (JG x1) (ie (ar (BK 6 fun g1=>Z0 1 (iA [.ms g1 0 0 0] fun b5=>Z2 (Zs 2 [2] (iw (Yi x1.params) (Zv [] (Z0l x1.params.length) (Z2 (Zs 6 [5,2] (ic [0,0] (Zfj n x1.body x1.params.length (XI x1.params.length) (XI x1.params.length) b5 (⟨some ⟨g1,0,none⟩,0,0⟩:Hd) [] (ht:=hbz.1) (hcl:=(DY _)) (hfl:=(DY _)) (hfs:=(Z24 _ om)) (hcn:=(by simp only [X6];omega))) ?_))))))))))))
  rintro _ _ ⟨v21,rfl⟩
  refine ie (Zs 4 [2] (iL (Z6 [x1.body.result]) 1 1 fun v2=>ZY 1 [(44,.agg [.i 23,.i 0,.i 0,.i 0,Z4 [x1.body.result],.sl [] none])] (ic [1,1] (Jg b5 v21 (flB (XO n.decls) n.decls ((XI x1.params.length),(XI x1.params.length)) x1.body []) (Instr.mk 23 0 0 0 [x1.body.result] []) (hl:=om)) ?_)))
  rintro _ _ ⟨v22,rfl,rfl⟩
  refine Xb (Ek 1 v22.v 6 (Z9 (ZC ((flB (XO n.decls) n.decls ((XI x1.params.length),(XI x1.params.length)) x1.body [])++[(Instr.mk 23 0 0 0 [x1.body.result] [])]))) (Z9 (ZC (Us n.decls x1))) (by rfl)) (Xb (Uy 0 0 0 v22.v 6 b5 (ZC (Us n.decls x1)) [.h v22] (Ah _) rfl) (ie (aE 27 (ZZ 13 27 [0,1,2,3,5,6,8,9,10,11,12,13,14,15] [4,3,3,3,0,3] (dw 16 (Yi x1.params) (ZZ 8 12 [18,19,20,21] [0] (Z7 4 (dc 4 [] [0,1,0,1,1,2] [b5,b4,b5,b4,b4,b3] (WV x1.params) ?_))))))))
  rintro _ _ ⟨v3,rfl,rfl⟩
  refine Z7 7 (dc 7 [] [0,1,0,1,2] [b5,b4,b5,b4,b3] (WV x1.lent) ?_)
  rintro _ _ ⟨v4,rfl,rfl⟩
  exact Yx 6 6 [] [(59,QI (Us n.decls x1))] (Z7 17 (YE 17 [] [0,1,2] [b5,b4,b3] (Zfr (Us n.decls x1) x1.params.length (hrg:=hcg.1)) (Yx 4 5 [22] [(68,.agg [Z4 x1.params,Z4 x1.lent,.i x1.result,.i (max (Ux 0 (Us n.decls x1)) (x1.params.length:Int)),QI (Us n.decls x1)])] (Z7 23 (dL 23 [2] [b3] (We [(ZX.mk x1.params x1.lent x1.result (max (Ux 0 (Us n.decls x1)) (x1.params.length:Int)) (Us n.decls x1))]) 1 5 fun v5=>Yx 3 3 [] [(69,Mb [(ZX.mk x1.params x1.lent x1.result (max (Ux 0 (Us n.decls x1)) (x1.params.length:Int)) (Us n.decls x1))])] (Z7 24 (dp 24 10 [] [] (We ((n.routines.take (k+1)).map (BX n.decls))) (We ((n.routines.take k).map (BX n.decls))) (We [(ZX.mk x1.params x1.lent x1.result (max (Ux 0 (Us n.decls x1)) (x1.params.length:Int)) (Us n.decls x1))]) v none 5 (J0 _) (J0 _) (Oa _) (by simp<;>omega) (by rw [V2 Z3];simp [We,BX]) fun v6=>Zo 1 2 [25] (Z7 26 (X1 26 8 [] [] b3 [Y5 n.decls,Uf ((n.routines.take (k+1)).map (BX n.decls)) v6] (de (az (Z0 1 (ZE k (Z2 (ZH ⟨k+1,v6,ob,rfl,rfl,rfl⟩ (wk [0,8,8,0] (ZJ k fl)))))))))))))))))
 exact ax 0 (Zs 1 [0] (Zy 1 b2 [Y5 n.decls,Uf ((n.routines.take k).map (BX n.decls)) v] (ie (ZQ (r3 [] [.agg [Y5 n.decls,Uf ((n.routines.take k).map (BX n.decls)) v]] [0] [(b2,b2)] ⟨rfl,rfl⟩ (Ze.agg (.cons (Ze.sl _ (Yq Yy rfl)) (.cons (Ze.sl _ (Yq We (by rw [Wh om];rfl))) .nil))))))))
theorem OZ (rd:Nat) (bs:LI) (p:Nat) (ZK:∀z∈bs,0<=z/\z<=255) (hp:p+400030<=1000000000:=by exact ob):Zp 37 [.p rd 0] [YI rd bs p] (fun r h=>∃(n:ZF) (p2:Nat),r=YG n/\h=[YI rd bs p2]/\FN n 7330630/\p<=p2/\p2<=p+400030):=by
 refine ZG 35 Tryz.func37 (ar (iA [nl,nl] fun b1=>ie (Yj 1 (ic [1] (Z88 rd bs p (ZK:=ob)) ?_))))
 rintro _ _ ⟨n1,p21,rfl,rfl,Y9⟩
 have hcf:=FO.le Y9.1 (show 814510<=814514 by omega)
 have hcp:=Y9
 refine iA [nl,nl] fun b2=>Zy 0 b2 (X8 n1) (ie (YP 1 (ic [1] (XX rd bs p21 4 (ZK:=ob)) ?_)))
 rintro _ _ ⟨k1,rfl,rfl,Yt⟩
 refine Z2 (XC (fun fz gz F h=>∃(na:ZF) (pa:Nat),(FO na 814514 VI)/\(p<=pa/\pa<=p+400010)/\F=sF [0,2,3] fz []/\h=[YI rd bs pa,.obj b2 (X8 na),Zg gz 2]) ?_ ?_)
 ·refine ac (k1==0) Zf (fun Za=>?_) (fun Za=>?_)
  ·refine az (ZA 2 [1] (ic [0] (P8 rd bs (p21+1) n1 (ZK:=ob) (hz:=(by first|exact (FO.zn hcp.1).sz om|exact J6.sz om)) (hl1:=(by first|(have:=hcp.1.fn.len;omega)|(have:=J6.len;omega)))) ?_))
   rintro _ _ ⟨n21,p22,rfl,rfl,YS⟩
   have hho:=YS
   exact Zy 1 b2 (X8 n21) (ie (ZI ⟨n21,p22,(FO.held hcp.1 hho.1),ob,rfl,rfl⟩ (wk [1,0,0] fl)))
  exact ak (ZI ⟨n1,p21+1,hcf,ob,rfl,rfl⟩ (Zt 3 fl))
 rintro F h ⟨na,pa,J5,LR,rfl,rfl⟩
 refine YP 1 (ic [0] (XX rd bs pa 4 (ZK:=ob)) ?_)
 rintro _ _ ⟨k2,rfl,rfl,YX⟩
 refine Z2 (XC (fun fz gz F h=>∃(nb:ZF) (pb:Nat),(FO nb 814514 VI)/\(p<=pb/\pb<=p+400012)/\F=sF [0,2,3] fz []/\h=[YI rd bs pb,.obj b2 (X8 nb),Zg gz 2]) ?_ ?_)
 ·refine ac (k2==0) Zf (fun Zj=>?_) (fun Zj=>?_)
  ·refine az (ZA 1 [1] (ic [] (Z7w na 814514 (hn:=J5)) ?_))
   rintro _ _ ⟨n22,rfl,rfl,Xe⟩
   have hca:=Xe
   exact Zy 1 b2 (X8 n22) (ie (ZI ⟨n22,pa+1,hca,ob,rfl,rfl⟩ (wk [1,0,0] fl)))
  exact ak (ZI ⟨na,pa+1,J5,ob,rfl,rfl⟩ (Zt 3 fl))
 rintro F h ⟨nb,pb,VM,B8,rfl,rfl⟩
 refine Yj 1 (ic [0] (XX rd bs pb 3 (ZK:=ob)) ?_)
 rintro _ _ ⟨k3,rfl,rfl,XP⟩
 refine Z2 (Y8 (XC (fun fz gz F h=>∃(nc:ZF) (pc:Nat),(ZN nc 7330626)/\(FN nc 7330626)/\(k3>1->WN nc 7330626)/\(p<=pc/\pc<=p+400014)/\F=sF [0,2,3,4] fz []/\h=[YI rd bs pc,.obj b2 (X8 nc),Zg gz 2]) ?_ ?_))
 ·refine Vh (k3>0) (fun Zz=>?_) (fun Zz=>?_)
  ·exact az (ZA 1 [1] (Zv [] (Z9a nb (hn:=VM.fn.ok) (hz:=(VM.zn.sz om)) (hwb:=(fun r hr=>(VM.wl om r hr).w))) (Zy 1 b2 (X8 (D7 nb)) (ie (ZI ⟨(D7 nb),pb+1,((VM.wn om).sp.zn),(VM.fn.sp ((VM.wn om).sp.zn)),(fun _=>(VM.wn om).sp),ob,rfl,rfl⟩ (wk [1,0,0] fl))))))
  exact ak (ZI ⟨nb,pb+1,(VM.zn.le om),(VM.fn.le om),(fun h=>by omega),ob,rfl,rfl⟩ (Zt 3 fl))
 rintro F h ⟨nc,pc,EZ,LT,DP,Zir,rfl,rfl⟩
 refine Y8 (XC (fun fz gz F h=>∃(nd:ZF) (pd:Nat),(ZN nd 7330626)/\(FN nd 7330626)/\(p<=pd/\pd<=p+400014)/\F=sF [0,2,3] fz []/\h=[YI rd bs pd,.obj b2 (X8 nd),Zg gz 2]) ?_ ?_)
 ·refine Vh (k3>1) (fun Yg=>?_) (fun Yg=>?_)
  ·exact az (ZA 1 [1] (Zv [] (Z97 nc (hn:=(DP (by assumption)).ok) (hz:=(EZ.sz om)) (hwb:=(fun r hr=>((DP (by assumption)).wl r hr).w)) (hnr:=(fun r hr=>((DP (by assumption)).wl r hr).nr))) (Zy 1 b2 (X8 (D6 nc)) (ie (ZI ⟨(D6 nc),pc,(DP (by assumption)).ru,(LT.ru (DP (by assumption)).ru),ob,rfl,rfl⟩ (wk [1,0,0] fl))))))
  exact ak (ZI ⟨nc,pc,EZ,LT,ob,rfl,rfl⟩ (Zt 3 fl))
 rintro F h ⟨nd,pd,J6,F3,Zis,rfl,rfl⟩
 refine YP 1 (ic [0] (XX rd bs pd 6 (ZK:=ob)) ?_)
 rintro _ _ ⟨k4,rfl,rfl,Wf⟩
 refine YD (k4==0) Zf (fun YL=>?_) (fun YL=>?_)
 ·refine az (ZA 2 [1] (ic [0] (P8 rd bs (pd+1) nd (ZK:=ob) (hz:=(by first|exact (FO.zn hcp.1).sz om|exact J6.sz om)) (hl1:=(by first|(have:=hcp.1.fn.len;omega)|(have:=J6.len;omega)))) ?_))
  rintro _ _ ⟨n23,p23,rfl,rfl,WL⟩
  have hho:=WL
  exact Zy 1 b2 (X8 n23) (ie (Zs 1 [0] (Zy 2 b1 (X8 n23) (ie (ZQ (r3 [2] [YG n23] [0] [(b1,b1)] ⟨n23,p23,rfl,rfl,(by first|exact ⟨F3.held hho.1 (J6.held hho.1),by omega,by omega⟩|exact ⟨F3.le om,by omega,by omega⟩)⟩ (lr _)))))))
 exact ak (Zs 1 [1] (Zy 2 b1 (X8 nd) (ie (ZQ (r3 [1] [YG nd] [0] [(b1,b1)] ⟨nd,pd+1,rfl,rfl,(by first|exact ⟨F3.held hho.1 (J6.held hho.1),by omega,by omega⟩|exact ⟨F3.le om,by omega,by omega⟩)⟩ (lr _))))))
theorem Zfs (c:List Instr) (k:Nat) (reg:Int) (hf:fwd c:=by exact ob) (ha:∀x∈c,x.op=18∨x.op=23->x.args≠[]) (hn:∀x∈c,x.num<=200000000) (hl:c.length<=200000000:=by exact ob) (hk:k<=1000000000:=by exact ob):Zp 125 [QI c,.i k,.i reg] [] (Yz (.b (WZ c k reg))):=by
 refine ZG 47 Tryz.func125 (Y3 (aq (ab 0 (Y6 (fun fz gz m F h=>∃(j:Nat) (rg:Int),(j<=1000000000)/\(WZ c j rg=WZ c k reg)/\F=sF [0] fz [(1,.i j),(2,.i rg)]/\h=gz/\m=c.length-j) _ _ _ ⟨k,reg,ob,rfl,rfl,rfl,rfl⟩ (wk [] fl) ?_))))
 rintro m F h ⟨j,rg,Yk,Zh,rfl,rfl,rfl⟩
 refine YP 2 (iw (Tw c) (Y2 ((j:Int)<(c.length:Int)) (fun Za=>?_) (fun Za=>?_)))
 ·refine ak (ab 1 (Yj 2 ?_))
  obtain ⟨x1,Z3⟩:=Zu c j om
  have hxm:=Y7 Z3
  have hja:=fun z=>hf j _ Z3 z
  have hnx:=hn _ hxm
  refine Zq (Zi none (j:Int) 6 (QZ Z3)) (Z0 1 (iA [.i 0,.i 0,.i 0,.i 0,nl,nl] fun b1=>Zy 0 b1 (Ww x1) (ie (Zs 4 [0] (ib (b:=(x1.op==18)) 19 (fun Zc=>?_) (fun Zc=>?_))))))
  ·have Y9:x1.op=18:=(Zf).1 Zc
   refine ZA 2 [0] ?_
   obtain ⟨x2,Zw⟩:=Zu x1.args 0 (Jm.2 (ha _ hxm (.inl (by assumption))))
   have hg:=QB Zw
   refine Zq (Zi none 0 1 (Yb Zw)) (YD (x2==rg) Zf (fun Zj=>?_) (fun Zj=>?_))
   ·exact Qg [0] (az (Z0 1 (ZE j (Z2 (ZH ⟨j+1,x1.dst,om,((SA hf Z3 ⟨Y9,by rw [hg];assumption⟩).trans Zh),rfl,rfl,rfl⟩ (wk [] (ZJ j fl)))))))
   refine Qg [0] (ac (x1.op==22) Zf (fun Zz=>?_) (fun Zz=>?_))
   ·exact az (V0 [0] (⟨_,_,_,(by have:=hja (by assumption);omega),⟨x1.num.toNat,rg,(by first|omega|(have:=hja (by assumption);omega)),((Mv hf Z3 (by assumption)).trans Zh),rfl,rfl,rfl⟩,(wk [] (fc (x:=.i x1.num) (li (by have:=hja (by assumption);omega)) fl))⟩))
   refine ar (X2 11 [] [(46,.b ((x1.op==23)&&(x2==rg)))] (fun gz=>gz) ?_ (fun hj1=>?_))
   ·exact Zm (ZW (.b ((x1.op==23)&&(x2==rg))) (lb (by first|exact (Zh▸HG om)|(rw [<-Zh,<-Ki Z3 (fun z=>by simp_all) (by assumption)];simp_all;done)|(rw [<-Zh,<-Ki Z3 (fun z=>by simp_all) (by assumption)];simp_all;rw [Yc];simp))))
   refine ZA 4 [0] (ib (b:=(x1.op==23)) 39 (fun ZD=>?_) (fun ZD=>?_))
   ·have Yt:x1.op=23:=(Zf).1 ZD
    exact ZA 2 [0] (Zq (Zi none 0 1 (Yb Zw)) (Z0 4 (Y1 (wk [0] (Zl (x2==rg) ZD fl)) hj1)))
   have YS:¬(x1.op=23):=Y4 Zf ZD
   exact Z0 7 (Y1 (wk [0] (Zl false ZD fl)) hj1)
  have YX:¬(x1.op=18):=Y4 Zf Zc
  refine Z2 (Vb (Qg [0] (ac (x1.op==22) Zf (fun Yg=>?_) (fun Yg=>?_))))
  ·exact az (V0 [0] (⟨_,_,_,(by have:=hja (by assumption);omega),⟨x1.num.toNat,rg,(by first|omega|(have:=hja (by assumption);omega)),((Mv hf Z3 (by assumption)).trans Zh),rfl,rfl,rfl⟩,(wk [] (fc (x:=.i x1.num) (li (by have:=hja (by assumption);omega)) fl))⟩))
  refine Zs 4 [0] (ib (b:=(x1.op==23)) 39 (fun Yf=>?_) (fun Yf=>?_))
  ·have Xe:x1.op=23:=(Zf).1 Yf
   refine ZA 2 [0] ?_
   obtain ⟨x3,YT⟩:=Zu x1.args 0 (Jm.2 (ha _ hxm (.inr (by assumption))))
   have hg:=QB YT
   exact Zq (Zi none 0 1 (Yb YT)) (Zm (ZW (.b (x3==rg)) (lb (by first|exact (Zh▸HG om)|(rw [<-Zh,<-Ki Z3 (fun z=>by simp_all) (by assumption)];simp_all;done)|(rw [<-Zh,<-Ki Z3 (fun z=>by simp_all) (by assumption)];simp_all;rw [Yc];simp)))))
  have XP:¬(x1.op=23):=Y4 Zf Yf
  exact Zm (ZW (.b false) (lb (by first|exact (Zh▸HG om)|(rw [<-Zh,<-Ki Z3 (fun z=>by simp_all) (by assumption)];simp_all;done)|(rw [<-Zh,<-Ki Z3 (fun z=>by simp_all) (by assumption)];simp_all;rw [Yc];simp))))
 exact ax 0 (ar (Zm (ZW (.b false) (lb (by first|exact (Zh▸HG om)|(rw [<-Zh,<-Ki Z3 (fun z=>by simp_all) (by assumption)];simp_all;done)|(rw [<-Zh,<-Ki Z3 (fun z=>by simp_all) (by assumption)];simp_all;rw [Yc];simp))))))
theorem ML (x:Instr) (h1:x.args.length<=1000000:=by exact ob) (h2:x.jumps.length<=1000000:=by exact ob):Zp 91 [UI x] [] (Yz (UI x)):=by
 refine ZG 18 Tryz.func91 (ar (iA (Ww x) fun b1=>iA [.i 0,.i 0,.i 0,.i 0,nl,nl] fun b2=>ie (aD 16 (ZZ 4 16 [0,1,2,3,4,5,6,7,8,9,11,12] [1,1,1,1,1,1] (Z7 10 (dc 10 [] [1,1,1,1,1] [b1,b1,b1,b1,b1] (WV x.args) ?_))))))
 rintro _ _ ⟨v1,rfl,rfl⟩
 refine Z7 13 (dc 13 [] [1,1,1,1] [b1,b1,b1,b1] (WV x.jumps) ?_)
 rintro _ _ ⟨v2,rfl,rfl⟩
 exact Zo 1 2 [14] (Z7 15 (X1 15 2 [] [] b2 [.i x.op,.i x.dst,.i x.num,.i x.into,ZL x.args v1,ZL x.jumps v2] (de (ZQ (r3 [] [.agg [.i x.op,.i x.dst,.i x.num,.i x.into,ZL x.args v1,ZL x.jumps v2]] [0] [(b2,b2)] ⟨rfl,rfl⟩ (Ze.agg (.cons (lr _) (.cons (lr _) (.cons (lr _) (.cons (lr _) (.cons (Ze.forget _ _) (.cons (Ze.forget _ _) .nil))))))))))))
theorem Zg8 (c:List Instr) (hf:fwd c:=by exact ob) (ha:∀x∈c,x.op=18∨x.op=23->x.args≠[]) (hn:∀x∈c,x.num<=200000000) (hs:∀x∈c,x.args.length<=1000/\x.jumps.length<=1000) (hl:c.length<=200000000:=by exact ob):Zp 84 [QI c] [] (Yz (QI (Vg c))):=by
 refine ZG 44 Tryz.func84 (Y3 (ar (iL (ZC []) 0 6 fun v1=>?_)))
 refine Z2 (Y8 (ab 0 (Y6 (fun fz gz m F h=>∃(k:Nat) (xs:List Instr) (v:Value),(k<=c.length)/\(xs=Tp c (c.take k) 0)/\(xs.length=k)/\F=sF [0] fz [(3,Me xs v),(4,.i k)]/\h=[.tail v 6]/\m=c.length-k) _ _ _ ⟨0,[],v1,ob,rfl,rfl,rfl,rfl,rfl⟩ (wk [0] (fr (Ye fl))) ?_)))
 rintro m F h ⟨k,xs,v,Yk,Zh,ZB,rfl,rfl,rfl⟩
 refine YP 2 (iw (Tw c) (Y2 ((k:Int)<(c.length:Int)) (fun Za=>?_) (fun Za=>?_)))
 ·refine ak (aq (ab 1 (Yj 2 ?_)))
  obtain ⟨x1,Z3⟩:=Zu c k om
  have hxa:=hs _ (Y7 Z3)
  refine Zq (Zi none (k:Int) 6 (QZ Z3)) (Z0 1 (Zv [] (ML x1) (iA [.i 0,.i 0,.i 0,.i 0,nl,nl] fun b1=>Zy 0 b1 (Ww x1) (ie (ar (Xu [0,3,4,5] [(28,.b ((x1.op==9)&&(WZ c (k+1) x1.dst)))] (fun gz=>gz) ?_ ?_))))))
  ·refine ZA 4 [0] (ib (b:=(x1.op==9)) 21 (fun Zc=>?_) (fun Zc=>?_))
   ·have Y9:x1.op=9:=(Zf).1 Zc
    exact Z0 2 (ZE k (ZA 2 [0] (Zv [] (Zfs c (k+1) x1.dst (hf:=hf) (ha:=ha) (hn:=hn)) (Z2 (wk [0,0] (Zl (WZ c (k+1) x1.dst) Zc fl))))))
   have Yt:¬(x1.op=9):=Y4 Zf Zc
   exact Z2 (wk [0,0] (Zl false Zc fl))
  refine ac ((x1.op==9)&&(WZ c (k+1) x1.dst)) (p:=(x1.op=9)/\((WZ c (k+1) x1.dst)=true)) (Ys Zf Iff.rfl) (fun Zj=>?_) (fun Zj=>?_)
  ·exact az (ZA 8 [0,0,0] (iL (ZC [Instr.mk 24 0 x1.num 0 x1.args x1.jumps]) 1 6 fun v2=>ZY 0 [(37,QI [Instr.mk 24 0 x1.num 0 x1.args x1.jumps])] (ip 2 (ZC (xs++[Instr.mk 24 0 x1.num 0 x1.args x1.jumps])) (ZC xs) (ZC [Instr.mk 24 0 x1.num 0 x1.args x1.jumps]) v none 6 (Ah _) (Ah _) (Gp _) (by simp<;>omega) (by simp [CC,ZC]) fun v3=>Z2 (az (Z0 1 (ZE k (Z2 (ZH ⟨k+1,(xs++[Instr.mk 24 0 x1.num 0 x1.args x1.jumps]),v3,ob,(by rw [Zh,<-Z1g Z3,V8,Zk (by first|assumption|(constructor<;>assumption))]),(by rw [Yr,ZB];rfl),rfl,rfl,rfl⟩ (wk [0] (fr (ZJ k fl)))))))))))
  exact az (ZA 2 [0] (iL (ZC [x1]) 1 6 fun v4=>ZY 0 [(41,QI [x1])] (ip 2 (ZC (xs++[x1])) (ZC xs) (ZC [x1]) v none 6 (Ah _) (Ah _) (Gp _) (by simp<;>omega) (by simp [CC,ZC]) fun v5=>Z2 (az (Z0 1 (ZE k (Z2 (ZH ⟨k+1,(xs++[x1]),v5,ob,(by rw [Zh,<-Z1g Z3,V8,Zb (by assumption)]),(by rw [Yr,ZB];rfl),rfl,rfl,rfl⟩ (wk [0] (fr (ZJ k fl)))))))))))
 exact ax 0 (ar (Zm (ZW (Me xs v) (Ze.sl _ (Yq ZC (by rw [Zh,Wh om];rfl))))))
theorem Z0r (im:Yv) (hg:TG im:=by exact ob):Zp 41 [V5 im] [] (Yz (V5 (VV im))):=by
 have hil:=hg.len
 have Xn:=hg.decls
 refine ZG 43 Tryz.func41 (ar (iA (WA im) fun b1=>iA [nl,nl] fun b2=>ie (Zs 2 [1] (Zv [] (Bf im.decls (hd:=Xn)) (iL (We []) 0 5 fun v1=>Z0 1 (iA [nl,nl] fun b3=>?_))))))
 refine Zy 0 b3 [Y5 im.decls,Uf [] v1] (ie (Y8 (ab 0 (Y6 (fun fz gz m F h=>∃(k:Nat) (xs:List ZX) (v:Value),(k<=im.procs.length)/\(xs=(im.procs.take k).map VW)/\(xs.length=k)/\F=sF [1,2,3] fz [(4,.i k)]/\h=[.obj b3 [Y5 im.decls,Uf xs v],Zg gz 2,Zg gz 3,.tail v 5]/\m=im.procs.length-k) _ _ _ ⟨0,[],v1,ob,rfl,rfl,rfl,rfl,rfl⟩ (wk [0,1,1,0] (Ye fl)) ?_))))
 rintro m F h ⟨k,xs,v,Yk,Zh,ZB,rfl,rfl,rfl⟩
 refine Yp 3 [2] (iw (Qd im.procs) (Y2 ((k:Int)<(im.procs.length:Int)) (fun Za=>?_) (fun Za=>?_)))
 ·refine ak (aq (ab 1 (Zs 3 [2] ?_)))
  obtain ⟨x1,Z3⟩:=Zu im.procs k om
  have hpg:=hg.procs _ (Y7 Z3)
  have hpl:=hpg.params
  have hll:=hpg.lent
  have hcl:=hpg.len
  refine Zq (Zi none (k:Int) 5 (Qc Z3)) (Z0 1 (iA [nl,nl,.i 0,.i 0,nl] fun b4=>Zy 0 b4 (UE x1) (ie (aE 20 (ZZ 8 20 [0,1,2,3,5,6,8,9,10,11,12,13] [1,0,0,0,0,0] (Z7 4 (dc 4 [] [0,0,0,0,1] [b4,b4,b4,b4,b3] (WV x1.params) ?_)))))))
  rintro _ _ ⟨v2,rfl,rfl⟩
  refine Z7 7 (dc 7 [] [0,0,0,1] [b4,b4,b4,b3] (WV x1.lent) ?_)
  rintro _ _ ⟨v3,rfl,rfl⟩
  exact Z7 14 (YE 14 [] [0,0,1] [b4,b4,b3] (Zg8 x1.code (hf:=hpg.fwd) (ha:=hpg.args) (hn:=hpg.num) (hs:=hpg.sz)) (Yx 4 5 [15] [(38,.agg [Z4 x1.params,Z4 x1.lent,.i x1.result,.i x1.regs,QI (Vg x1.code)])] (Z7 16 (dL 16 [1] [b3] (We [ZX.mk x1.params x1.lent x1.result x1.regs (Vg x1.code)]) 1 5 fun v4=>Yx 3 3 [] [(39,Mb [ZX.mk x1.params x1.lent x1.result x1.regs (Vg x1.code)])] (Z7 17 (dp 17 7 [] [] (We (xs++[ZX.mk x1.params x1.lent x1.result x1.regs (Vg x1.code)])) (We xs) (We [ZX.mk x1.params x1.lent x1.result x1.regs (Vg x1.code)]) v none 5 (J0 _) (J0 _) (Oa _) (by simp<;>omega) (by simp [Z5l,We]) fun v5=>Zo 1 2 [18] (Z7 19 (X1 19 5 [] [] b3 [Y5 im.decls,Uf (xs++[ZX.mk x1.params x1.lent x1.result x1.regs (Vg x1.code)]) v5] (de (az (Z0 1 (ZE k (Z2 (ZH ⟨k+1,(xs++[ZX.mk x1.params x1.lent x1.result x1.regs (Vg x1.code)]),v5,ob,(by rw [Zh,V2 Z3,List.map_append];rfl),(by rw [Yr,ZB];rfl),rfl,rfl,rfl⟩ (wk [0,5,5,0] (ZJ k fl))))))))))))))))
 exact ax 0 (Zs 1 [0] (Zy 1 b2 [Y5 im.decls,Uf xs v] (ie (ZQ (r3 [] [.agg [Y5 im.decls,Uf xs v]] [0] [(b2,b2)] ⟨rfl,rfl⟩ (Ze.agg (.cons (Ze.sl _ (Yq Yy rfl)) (.cons (Ze.sl _ (Yq We (by rw [Zh,Wh om];rfl))) .nil))))))))
theorem Z8e (rd:Nat) (bs:LI) (p:Nat) (ZK:∀z∈bs,0<=z/\z<=255) (hp:p+400031<=1000000000:=by exact ob):Zp 58 [.p rd 0] [YI rd bs p] (fun r h=>∃(im:Yv) (p2:Nat),r=V5 im/\h=[YI rd bs p2]/\IG im/\p<=p2/\p2<=p+400031):=by
 refine ZG 13 Tryz.func58 (ar (iA [nl,nl] fun b1=>ie (Yj 1 (ic [1] (OZ rd bs p (ZK:=ob)) ?_))))
 rintro _ _ ⟨n1,p21,rfl,rfl,Y9⟩
 have hbf:=Y9.1
 refine Zv [] (P4 n1 7330630 (hF:=hbf)) (iA [nl,nl] fun b2=>Zy 0 b2 (WA (K8 n1)) (ie (YP 1 (ic [1] (XX rd bs p21 3 (ZK:=ob)) ?_))))
 rintro _ _ ⟨k1,rfl,rfl,Yt⟩
 refine YD (k1==0) Zf (fun Za=>?_) (fun Za=>?_)
 ·exact Zs 1 [1] (Zv [] (Z0r (K8 n1) (hg:=(EW hbf om).tg)) (Zy 2 b1 (WA (VV (K8 n1))) (ie (ZQ (r3 [1] [V5 (VV (K8 n1))] [0] [(b1,b1)] ⟨(VV (K8 n1)),p21+1,rfl,rfl,⟨(EW hbf om).tc,by omega,by omega⟩⟩ (lr _))))))
 exact ak (Zs 1 [1] (Zy 2 b1 (WA (K8 n1)) (ie (ZQ (r3 [1] [V5 (K8 n1)] [0] [(b1,b1)] ⟨(K8 n1),p21+1,rfl,rfl,⟨EW hbf om,by omega,by omega⟩⟩ (lr _))))))
theorem Z0o (op:Int) :Zp 126 [.i op] [] (Yz (.b (TC op))):=by
 refine ZG 21 Tryz.func126 (Y3 (Yj 1 (Zv [] (Km op) (X2 6 [0] [(8,.b (Xh op&&(op != 7)))] (fun gz=>gz) ?_ (fun hj1=>?_)))))
 ·refine X2 10 [0] [(12,.b ((Xh op&&(op != 7))&&(op != 8)))] (fun gz=>gz) ?_ (fun hj2=>?_)
  ·refine X2 14 [0] [(16,.b (((Xh op&&(op != 7))&&(op != 8))||(op==18)))] (fun gz=>gz) ?_ (fun hj3=>?_)
   ·refine X2 18 [] [(20,.b ((((Xh op&&(op != 7))&&(op != 8))||(op==18))||(op==19)))] (fun gz=>gz) ?_ (fun hj4=>?_)
    ·exact Zm (ZW (.b ((((Xh op&&(op != 7))&&(op != 8))||(op==18))||(op==19))) (lb (by rw [TC,Yc];simp [Xh, *];omega)))
    refine Z0 1 (ib (b:=(((Xh op&&(op != 7))&&(op != 8))||(op==18))) 17 (fun Zc=>?_) (fun Zc=>?_))
    ·have Y9:(((Xh op=true)/\(op≠7))/\(op≠8))∨(op=18):=((ZO (Ys (Ys Iff.rfl Ym) Ym) Zf)).1 Zc
     exact Z0 3 (Y1 (wk [] (Zl true Zc fl)) hj4)
    have Yt:¬((((Xh op=true)/\(op≠7))/\(op≠8))∨(op=18)):=Y4 (ZO (Ys (Ys Iff.rfl Ym) Ym) Zf) Zc
    exact Z0 3 (Y1 (wk [] (Zl (op==19) Zc fl)) hj4)
   refine Z0 1 (ib (b:=((Xh op&&(op != 7))&&(op != 8))) 13 (fun ZD=>?_) (fun ZD=>?_))
   ·have YS:((Xh op=true)/\(op≠7))/\(op≠8):=((Ys (Ys Iff.rfl Ym) Ym)).1 ZD
    exact Z0 3 (Y1 (wk [] (Zl true ZD fl)) hj3)
   have YX:¬(((Xh op=true)/\(op≠7))/\(op≠8)):=Y4 (Ys (Ys Iff.rfl Ym) Ym) ZD
   exact Z0 3 (Y1 (wk [] (Zl (op==18) ZD fl)) hj3)
  refine Z0 1 (ib (b:=(Xh op&&(op != 7))) 9 (fun Yf=>?_) (fun Yf=>?_))
  ·have Xe:(Xh op=true)/\(op≠7):=((Ys Iff.rfl Ym)).1 Yf
   exact Z0 3 (Y1 (wk [] (Zl (op != 8) Yf fl)) hj2)
  have XP:¬((Xh op=true)/\(op≠7)):=Y4 (Ys Iff.rfl Ym) Yf
  exact Z0 3 (Y1 (wk [] (Zl false Yf fl)) hj2)
 refine Z0 1 (ib (b:=Xh op) 5 (fun YR=>?_) (fun YR=>?_))
 ·have Wf:Xh op=true:=(Iff.rfl).1 YR
  exact Z0 3 (Y1 (wk [] (Zl (op != 7) YR fl)) hj1)
 have WL:¬(Xh op=true):=Y4 Iff.rfl YR
 exact Z0 3 (Y1 (wk [] (Zl false YR fl)) hj1)
theorem Z4j (x:Instr) (h1:x.args.length<=1000000:=by exact ob) (h2:x.jumps.length<=1000000:=by exact ob):Zp 91 [UI x] [] (fun r h=>∃(v:Hd),r=.agg [.i x.op,.i x.dst,.i x.num,.i x.into,.h v,Z4 x.jumps]/\h=[rV v x.args]):=by
 refine ZG 18 Tryz.func91 (ar (iA (Ww x) fun b1=>iA [.i 0,.i 0,.i 0,.i 0,nl,nl] fun b2=>ie (aD 16 (ZZ 4 16 [0,1,2,3,4,5,6,7,8,9,11,12] [1,1,1,1,1,1] (Z7 10 (dc 10 [] [1,1,1,1,1] [b1,b1,b1,b1,b1] (Bg x.args) ?_))))))
 rintro _ _ ⟨v1,rfl,rfl⟩
 refine Z7 13 (dc 13 [] [1,1,1,1] [b1,b1,b1,b1] (WV x.jumps) ?_)
 rintro _ _ ⟨v2,rfl,rfl⟩
 exact Zo 1 2 [14] (Z7 15 (X1 15 2 [] [] b2 [.i x.op,.i x.dst,.i x.num,.i x.into,.h v1,ZL x.jumps v2] (de (ZQ (r3 [2] [.agg [.i x.op,.i x.dst,.i x.num,.i x.into,.h v1,ZL x.jumps v2]] [0] [(b2,b2)] ⟨v1,rfl,rfl⟩ (Ze.agg (.cons (lr _) (.cons (lr _) (.cons (lr _) (.cons (lr _) (.cons (lr _) (.cons (Ze.forget _ _) .nil))))))))))))
theorem Z7p (rd:Nat) (bs:LI) (p:Nat) (x:Instr) (ZK:∀z∈bs,0<=z/\z<=255) (hp:p+3<=1000000000:=by exact ob) (hx:XB x:=by exact ob):Zp 94 [.p rd 0,UI x] [YI rd bs p] (fun r h=>∃(y:Instr) (p2:Nat),r=UI y/\h=[YI rd bs p2]/\XB y/\p<=p2/\p2<=p+3):=by
 have hxl:=hx.l
 have hxn:=hx.n
 refine ZG 85 Tryz.func94 (ar (iA (Ww x) fun b1=>iA [.i 0,.i 0,.i 0,.i 0,nl,nl] fun b2=>ie (Zs 1 [1] (ic [] (Z4j x) ?_))))
 rintro _ _ ⟨v1,rfl,rfl⟩
 refine iA [.i 0,.i 0,.i 0,.i 0,nl,nl] fun b3=>Zy 0 b3 [.i x.op,.i x.dst,.i x.num,.i x.into,.h v1,Z4 x.jumps] (ie (YP 1 (ic [4] (XX rd bs p 5 (ZK:=ob)) ?_)))
 rintro _ _ ⟨k1,rfl,rfl,Y9⟩
 have hkhp1:=Y9.lt om
 refine ie (ab 0 (ar (YD (k1==0) Zf (fun Za=>?_) (fun Za=>?_))))
 ·refine Qg [4] (ac (x.op==14) Zf (fun Zj=>?_) (fun Zj=>?_))
  ·exact az (Z0 1 (Zy 1 b3 [.i 15,.i x.dst,.i x.num,.i x.into,.h v1,Z4 x.jumps] (ie (ar (Xb (Kn 2 v1 x.args) (Xb (Uy 0 0 4 v1.v 1 b3 (Z6 x.args) [.i 15,.i x.dst,.i x.num,.i x.into,.h v1,Z4 x.jumps] (YH _) rfl) (ZA 1 [0] (Zy 3 b2 [.i 15,.i x.dst,.i x.num,.i x.into,ZL x.args v1.v,Z4 x.jumps] (ie (ZQ (r3 [3] [.agg [.i 15,.i x.dst,.i x.num,.i x.into,ZL x.args v1.v,Z4 x.jumps]] [0] [(b2,b2)] ⟨(Instr.mk 15 x.dst x.num x.into x.args x.jumps),p+1,rfl,rfl,(by first|exact ⟨hx,by omega,by omega⟩|exact ⟨hx.of rfl rfl (by intro e;first|exact e|(simp at e;done)|omega) (by first|exact hx.n|(simp;omega)|omega),by omega,by omega⟩|exact ⟨hx.of (by simp) rfl (fun e=>e) hx.n,by omega,by omega⟩|exact ⟨.one (by simp) om,by omega,by omega⟩)⟩ (Ze.agg (.cons (lr _) (.cons (lr _) (.cons (lr _) (.cons (lr _) (.cons (Ze.forget _ _) (.cons (lr _) .nil))))))))))))))))))
  refine Qg [4] (ac (x.op==15) Zf (fun Zz=>?_) (fun Zz=>?_))
  ·exact az (Z0 1 (Zy 1 b3 [.i 14,.i x.dst,.i x.num,.i x.into,.h v1,Z4 x.jumps] (ie (ar (Xb (Kn 2 v1 x.args) (Xb (Uy 0 0 4 v1.v 1 b3 (Z6 x.args) [.i 14,.i x.dst,.i x.num,.i x.into,.h v1,Z4 x.jumps] (YH _) rfl) (ZA 1 [0] (Zy 3 b2 [.i 14,.i x.dst,.i x.num,.i x.into,ZL x.args v1.v,Z4 x.jumps] (ie (ZQ (r3 [3] [.agg [.i 14,.i x.dst,.i x.num,.i x.into,ZL x.args v1.v,Z4 x.jumps]] [0] [(b2,b2)] ⟨(Instr.mk 14 x.dst x.num x.into x.args x.jumps),p+1,rfl,rfl,(by first|exact ⟨hx,by omega,by omega⟩|exact ⟨hx.of rfl rfl (by intro e;first|exact e|(simp at e;done)|omega) (by first|exact hx.n|(simp;omega)|omega),by omega,by omega⟩|exact ⟨hx.of (by simp) rfl (fun e=>e) hx.n,by omega,by omega⟩|exact ⟨.one (by simp) om,by omega,by omega⟩)⟩ (Ze.agg (.cons (lr _) (.cons (lr _) (.cons (lr _) (.cons (lr _) (.cons (Ze.forget _ _) (.cons (lr _) .nil))))))))))))))))))
  refine Qg [4] (ac (x.op==17) Zf (fun Yg=>?_) (fun Yg=>?_))
  ·exact az (Z0 1 (Zy 1 b3 [.i 16,.i x.dst,.i x.num,.i x.into,.h v1,Z4 x.jumps] (ie (ar (Xb (Kn 2 v1 x.args) (Xb (Uy 0 0 4 v1.v 1 b3 (Z6 x.args) [.i 16,.i x.dst,.i x.num,.i x.into,.h v1,Z4 x.jumps] (YH _) rfl) (ZA 1 [0] (Zy 3 b2 [.i 16,.i x.dst,.i x.num,.i x.into,ZL x.args v1.v,Z4 x.jumps] (ie (ZQ (r3 [3] [.agg [.i 16,.i x.dst,.i x.num,.i x.into,ZL x.args v1.v,Z4 x.jumps]] [0] [(b2,b2)] ⟨(Instr.mk 16 x.dst x.num x.into x.args x.jumps),p+1,rfl,rfl,(by first|exact ⟨hx,by omega,by omega⟩|exact ⟨hx.of rfl rfl (by intro e;first|exact e|(simp at e;done)|omega) (by first|exact hx.n|(simp;omega)|omega),by omega,by omega⟩|exact ⟨hx.of (by simp) rfl (fun e=>e) hx.n,by omega,by omega⟩|exact ⟨.one (by simp) om,by omega,by omega⟩)⟩ (Ze.agg (.cons (lr _) (.cons (lr _) (.cons (lr _) (.cons (lr _) (.cons (Ze.forget _ _) (.cons (lr _) .nil))))))))))))))))))
  exact ak (ar (Xb (Kn 2 v1 x.args) (Xb (Uy 0 1 4 v1.v 1 b3 (Z6 x.args) [.i x.op,.i x.dst,.i x.num,.i x.into,.h v1,Z4 x.jumps] (YH _) rfl) (ZA 1 [0] (Zy 3 b2 [.i x.op,.i x.dst,.i x.num,.i x.into,ZL x.args v1.v,Z4 x.jumps] (ie (ZQ (r3 [3] [.agg [.i x.op,.i x.dst,.i x.num,.i x.into,ZL x.args v1.v,Z4 x.jumps]] [0] [(b2,b2)] ⟨x,p+1,rfl,rfl,(by first|exact ⟨hx,by omega,by omega⟩|exact ⟨hx.of rfl rfl (by intro e;first|exact e|(simp at e;done)|omega) (by first|exact hx.n|(simp;omega)|omega),by omega,by omega⟩|exact ⟨hx.of (by simp) rfl (fun e=>e) hx.n,by omega,by omega⟩|exact ⟨.one (by simp) om,by omega,by omega⟩)⟩ (Ze.agg (.cons (lr _) (.cons (lr _) (.cons (lr _) (.cons (lr _) (.cons (Ze.forget _ _) (.cons (lr _) .nil)))))))))))))))
 refine ar (YD (k1==1) Zf (fun YL=>?_) (fun YL=>?_))
 ·refine Zs 2 [1] (Zq (Db 2 v1 x.args) (Y2 ((x.args.length:Int)>0) (fun X3=>?_) (fun X3=>?_)))
  ·refine aE 11 (ZZ 6 11 [0,1,2,3,4] [1,1] (dx 5 (Db 2 v1 x.args) (Zo 4 5 [7] (Z7 6 (dc 6 [0] [0] [b3] (Jv rd bs (p+1) x.args.length (ZK:=ob)) ?_)))))
   rintro _ _ ⟨YU,rfl,rfl,Yt⟩
   refine Z7 8 (dc 8 [0] [0] [b3] (XX rd bs ((p+1)+1) 4 (ZK:=ob)) ?_)
   rintro _ _ ⟨k2,rfl,rfl,YS⟩
   have hkhp3:=YS.lt om
   exact dx 9 (Uh 2 v1 x.args (YU:Int) YU) (Z7 10 (Cw 10 2 [] [] v1 x.args YU k2 (de (ar (Xb (Kn 0 v1 (x.args.set YU k2)) (Xb (Uy 0 1 4 v1.v 1 b3 (Z6 (x.args.set YU k2)) [.i x.op,.i x.dst,.i x.num,.i x.into,.h v1,Z4 x.jumps] (YH _) rfl) (ZA 1 [0] (Zy 3 b2 [.i x.op,.i x.dst,.i x.num,.i x.into,ZL (x.args.set YU k2) v1.v,Z4 x.jumps] (ie (ZQ (r3 [3] [.agg [.i x.op,.i x.dst,.i x.num,.i x.into,ZL (x.args.set YU k2) v1.v,Z4 x.jumps]] [0] [(b2,b2)] ⟨(Instr.mk x.op x.dst x.num x.into (x.args.set YU k2) x.jumps),((p+1)+1)+1,rfl,rfl,(by first|exact ⟨hx,by omega,by omega⟩|exact ⟨hx.of rfl rfl (by intro e;first|exact e|(simp at e;done)|omega) (by first|exact hx.n|(simp;omega)|omega),by omega,by omega⟩|exact ⟨hx.of (by simp) rfl (fun e=>e) hx.n,by omega,by omega⟩|exact ⟨.one (by simp) om,by omega,by omega⟩)⟩ (Ze.agg (.cons (lr _) (.cons (lr _) (.cons (lr _) (.cons (lr _) (.cons (Ze.forget _ _) (.cons (lr _) .nil))))))))))))))))))
  exact ak (ar (Xb (Kn 2 v1 x.args) (Xb (Uy 0 1 4 v1.v 1 b3 (Z6 x.args) [.i x.op,.i x.dst,.i x.num,.i x.into,.h v1,Z4 x.jumps] (YH _) rfl) (ZA 1 [0] (Zy 3 b2 [.i x.op,.i x.dst,.i x.num,.i x.into,ZL x.args v1.v,Z4 x.jumps] (ie (ZQ (r3 [3] [.agg [.i x.op,.i x.dst,.i x.num,.i x.into,ZL x.args v1.v,Z4 x.jumps]] [0] [(b2,b2)] ⟨x,p+1,rfl,rfl,(by first|exact ⟨hx,by omega,by omega⟩|exact ⟨hx.of rfl rfl (by intro e;first|exact e|(simp at e;done)|omega) (by first|exact hx.n|(simp;omega)|omega),by omega,by omega⟩|exact ⟨hx.of (by simp) rfl (fun e=>e) hx.n,by omega,by omega⟩|exact ⟨.one (by simp) om,by omega,by omega⟩)⟩ (Ze.agg (.cons (lr _) (.cons (lr _) (.cons (lr _) (.cons (lr _) (.cons (Ze.forget _ _) (.cons (lr _) .nil)))))))))))))))
 refine ar (YD (k1==2) Zf (fun Wz=>?_) (fun Wz=>?_))
 ·refine Zs 2 [4] (Zv [] (Z0o x.op) (ie (ac (TC x.op) Iff.rfl (fun VK=>?_) (fun VK=>?_))))
  ·refine az (Z0 1 (ic [0] (XX rd bs (p+1) 4 (ZK:=ob)) ?_))
   rintro _ _ ⟨k3,rfl,rfl,YX⟩
   have hkhp4:=YX.lt om
   exact Z0 1 (Zy 1 b3 [.i x.op,.i k3,.i x.num,.i x.into,.h v1,Z4 x.jumps] (ie (ar (Xb (Kn 2 v1 x.args) (Xb (Uy 0 0 4 v1.v 1 b3 (Z6 x.args) [.i x.op,.i k3,.i x.num,.i x.into,.h v1,Z4 x.jumps] (YH _) rfl) (ZA 1 [0] (Zy 3 b2 [.i x.op,.i k3,.i x.num,.i x.into,ZL x.args v1.v,Z4 x.jumps] (ie (ZQ (r3 [3] [.agg [.i x.op,.i k3,.i x.num,.i x.into,ZL x.args v1.v,Z4 x.jumps]] [0] [(b2,b2)] ⟨(Instr.mk x.op k3 x.num x.into x.args x.jumps),(p+1)+1,rfl,rfl,(by first|exact ⟨hx,by omega,by omega⟩|exact ⟨hx.of rfl rfl (by intro e;first|exact e|(simp at e;done)|omega) (by first|exact hx.n|(simp;omega)|omega),by omega,by omega⟩|exact ⟨hx.of (by simp) rfl (fun e=>e) hx.n,by omega,by omega⟩|exact ⟨.one (by simp) om,by omega,by omega⟩)⟩ (Ze.agg (.cons (lr _) (.cons (lr _) (.cons (lr _) (.cons (lr _) (.cons (Ze.forget _ _) (.cons (lr _) .nil)))))))))))))))))
  exact ak (ar (Xb (Kn 2 v1 x.args) (Xb (Uy 0 1 4 v1.v 1 b3 (Z6 x.args) [.i x.op,.i x.dst,.i x.num,.i x.into,.h v1,Z4 x.jumps] (YH _) rfl) (ZA 1 [0] (Zy 3 b2 [.i x.op,.i x.dst,.i x.num,.i x.into,ZL x.args v1.v,Z4 x.jumps] (ie (ZQ (r3 [3] [.agg [.i x.op,.i x.dst,.i x.num,.i x.into,ZL x.args v1.v,Z4 x.jumps]] [0] [(b2,b2)] ⟨x,p+1,rfl,rfl,(by first|exact ⟨hx,by omega,by omega⟩|exact ⟨hx.of rfl rfl (by intro e;first|exact e|(simp at e;done)|omega) (by first|exact hx.n|(simp;omega)|omega),by omega,by omega⟩|exact ⟨hx.of (by simp) rfl (fun e=>e) hx.n,by omega,by omega⟩|exact ⟨.one (by simp) om,by omega,by omega⟩)⟩ (Ze.agg (.cons (lr _) (.cons (lr _) (.cons (lr _) (.cons (lr _) (.cons (Ze.forget _ _) (.cons (lr _) .nil)))))))))))))))
 refine ar (YD (k1==3) Zf (fun Ve=>?_) (fun Ve=>?_))
 ·refine Yp 4 [4] (ib (b:=(x.op==16)) 53 (fun Zc=>?_) (fun Zc=>?_))
  ·have Xe:x.op=16:=(Zf).1 Zc
   refine Z2 (Vk (Zs 2 [4] ?_))
   obtain ⟨x1,Z3⟩:=Zu x.args 0 (Jm.2 (hx.a om))
   exact Zq (Zi none 0 1 (Yb Z3)) (Z0 1 (iL (Z6 [x1]) 1 1 fun v2=>Z0 1 (Zy 4 b2 [.i 15,.i 0,.i 0,.i 0,ZL [x1] v2,nl] (ie (ZQ (r3 [2] [.agg [.i 15,.i 0,.i 0,.i 0,ZL [x1] v2,nl]] [0] [(b2,b2)] ⟨(Instr.mk 15 0 0 0 [x1] []),p+1,rfl,rfl,(by first|exact ⟨hx,by omega,by omega⟩|exact ⟨hx.of rfl rfl (by intro e;first|exact e|(simp at e;done)|omega) (by first|exact hx.n|(simp;omega)|omega),by omega,by omega⟩|exact ⟨hx.of (by simp) rfl (fun e=>e) hx.n,by omega,by omega⟩|exact ⟨.one (by simp) om,by omega,by omega⟩)⟩ (Ze.agg (.cons (lr _) (.cons (lr _) (.cons (lr _) (.cons (lr _) (.cons (Ze.forget _ _) (.cons (Ze.forget _ _) .nil)))))))))))))
  have XP:¬(x.op=16):=Y4 Zf Zc
  refine V0 [4] (ac (x.op==17) Zf (fun Vv=>?_) (fun Vv=>?_))
  ·refine Zs 2 [4] ?_
   obtain ⟨x2,Zw⟩:=Zu x.args 0 (Jm.2 (hx.a om))
   exact Zq (Zi none 0 1 (Yb Zw)) (Z0 1 (iL (Z6 [x2]) 1 1 fun v3=>Z0 1 (Zy 4 b2 [.i 15,.i 0,.i 0,.i 0,ZL [x2] v3,nl] (ie (ZQ (r3 [2] [.agg [.i 15,.i 0,.i 0,.i 0,ZL [x2] v3,nl]] [0] [(b2,b2)] ⟨(Instr.mk 15 0 0 0 [x2] []),p+1,rfl,rfl,(by first|exact ⟨hx,by omega,by omega⟩|exact ⟨hx.of rfl rfl (by intro e;first|exact e|(simp at e;done)|omega) (by first|exact hx.n|(simp;omega)|omega),by omega,by omega⟩|exact ⟨hx.of (by simp) rfl (fun e=>e) hx.n,by omega,by omega⟩|exact ⟨.one (by simp) om,by omega,by omega⟩)⟩ (Ze.agg (.cons (lr _) (.cons (lr _) (.cons (lr _) (.cons (lr _) (.cons (Ze.forget _ _) (.cons (Ze.forget _ _) .nil)))))))))))))
  refine ak (Qg [4] (ac (x.op==6) Zf (fun Tx=>?_) (fun Tx=>?_)))
  ·refine az (Z0 1 (ic [0] (XX rd bs (p+1) 4 (ZK:=ob)) ?_))
   rintro _ _ ⟨k4,rfl,rfl,Wf⟩
   have hkhp7:=Wf.lt om
   exact Z0 1 (Zy 1 b3 [.i x.op,.i x.dst,.i x.num,.i k4,.h v1,Z4 x.jumps] (ie (ar (Xb (Kn 2 v1 x.args) (Xb (Uy 0 0 4 v1.v 1 b3 (Z6 x.args) [.i x.op,.i x.dst,.i x.num,.i k4,.h v1,Z4 x.jumps] (YH _) rfl) (ZA 1 [0] (Zy 3 b2 [.i x.op,.i x.dst,.i x.num,.i k4,ZL x.args v1.v,Z4 x.jumps] (ie (ZQ (r3 [3] [.agg [.i x.op,.i x.dst,.i x.num,.i k4,ZL x.args v1.v,Z4 x.jumps]] [0] [(b2,b2)] ⟨(Instr.mk x.op x.dst x.num k4 x.args x.jumps),(p+1)+1,rfl,rfl,(by first|exact ⟨hx,by omega,by omega⟩|exact ⟨hx.of rfl rfl (by intro e;first|exact e|(simp at e;done)|omega) (by first|exact hx.n|(simp;omega)|omega),by omega,by omega⟩|exact ⟨hx.of (by simp) rfl (fun e=>e) hx.n,by omega,by omega⟩|exact ⟨.one (by simp) om,by omega,by omega⟩)⟩ (Ze.agg (.cons (lr _) (.cons (lr _) (.cons (lr _) (.cons (lr _) (.cons (Ze.forget _ _) (.cons (lr _) .nil)))))))))))))))))
  exact ak (ar (Xb (Kn 2 v1 x.args) (Xb (Uy 0 1 4 v1.v 1 b3 (Z6 x.args) [.i x.op,.i x.dst,.i x.num,.i x.into,.h v1,Z4 x.jumps] (YH _) rfl) (ZA 1 [0] (Zy 3 b2 [.i x.op,.i x.dst,.i x.num,.i x.into,ZL x.args v1.v,Z4 x.jumps] (ie (ZQ (r3 [3] [.agg [.i x.op,.i x.dst,.i x.num,.i x.into,ZL x.args v1.v,Z4 x.jumps]] [0] [(b2,b2)] ⟨x,p+1,rfl,rfl,(by first|exact ⟨hx,by omega,by omega⟩|exact ⟨hx.of rfl rfl (by intro e;first|exact e|(simp at e;done)|omega) (by first|exact hx.n|(simp;omega)|omega),by omega,by omega⟩|exact ⟨hx.of (by simp) rfl (fun e=>e) hx.n,by omega,by omega⟩|exact ⟨.one (by simp) om,by omega,by omega⟩)⟩ (Ze.agg (.cons (lr _) (.cons (lr _) (.cons (lr _) (.cons (lr _) (.cons (Ze.forget _ _) (.cons (lr _) .nil)))))))))))))))
 refine ar (YD (k1==4) Zf (fun Vw=>?_) (fun Vw=>?_))
 ·refine Qg [4] (ac (x.op==0) Zf (fun TY=>?_) (fun TY=>?_))
  ·refine az (Z0 1 (ic [0] (XX rd bs (p+1) 9 (ZK:=ob)) ?_))
   rintro _ _ ⟨k5,rfl,rfl,WL⟩
   have hkhp8:=WL.lt om
   exact Z0 1 (Zy 1 b3 [.i x.op,.i x.dst,.i k5,.i x.into,.h v1,Z4 x.jumps] (ie (ar (Xb (Kn 2 v1 x.args) (Xb (Uy 0 0 4 v1.v 1 b3 (Z6 x.args) [.i x.op,.i x.dst,.i k5,.i x.into,.h v1,Z4 x.jumps] (YH _) rfl) (ZA 1 [0] (Zy 3 b2 [.i x.op,.i x.dst,.i k5,.i x.into,ZL x.args v1.v,Z4 x.jumps] (ie (ZQ (r3 [3] [.agg [.i x.op,.i x.dst,.i k5,.i x.into,ZL x.args v1.v,Z4 x.jumps]] [0] [(b2,b2)] ⟨(Instr.mk x.op x.dst k5 x.into x.args x.jumps),(p+1)+1,rfl,rfl,(by first|exact ⟨hx,by omega,by omega⟩|exact ⟨hx.of rfl rfl (by intro e;first|exact e|(simp at e;done)|omega) (by first|exact hx.n|(simp;omega)|omega),by omega,by omega⟩|exact ⟨hx.of (by simp) rfl (fun e=>e) hx.n,by omega,by omega⟩|exact ⟨.one (by simp) om,by omega,by omega⟩)⟩ (Ze.agg (.cons (lr _) (.cons (lr _) (.cons (lr _) (.cons (lr _) (.cons (Ze.forget _ _) (.cons (lr _) .nil)))))))))))))))))
  refine Qg [4] (ac (x.op==19) Zf (fun CM=>?_) (fun CM=>?_))
  ·refine az (Z0 1 (ic [0] (XX rd bs (p+1) 3 (ZK:=ob)) ?_))
   rintro _ _ ⟨k6,rfl,rfl,Vf⟩
   have hkhp9:=Vf.lt om
   exact Z0 1 (Zy 1 b3 [.i x.op,.i x.dst,.i k6,.i x.into,.h v1,Z4 x.jumps] (ie (ar (Xb (Kn 2 v1 x.args) (Xb (Uy 0 0 4 v1.v 1 b3 (Z6 x.args) [.i x.op,.i x.dst,.i k6,.i x.into,.h v1,Z4 x.jumps] (YH _) rfl) (ZA 1 [0] (Zy 3 b2 [.i x.op,.i x.dst,.i k6,.i x.into,ZL x.args v1.v,Z4 x.jumps] (ie (ZQ (r3 [3] [.agg [.i x.op,.i x.dst,.i k6,.i x.into,ZL x.args v1.v,Z4 x.jumps]] [0] [(b2,b2)] ⟨(Instr.mk x.op x.dst k6 x.into x.args x.jumps),(p+1)+1,rfl,rfl,(by first|exact ⟨hx,by omega,by omega⟩|exact ⟨hx.of rfl rfl (by intro e;first|exact e|(simp at e;done)|omega) (by first|exact hx.n|(simp;omega)|omega),by omega,by omega⟩|exact ⟨hx.of (by simp) rfl (fun e=>e) hx.n,by omega,by omega⟩|exact ⟨.one (by simp) om,by omega,by omega⟩)⟩ (Ze.agg (.cons (lr _) (.cons (lr _) (.cons (lr _) (.cons (lr _) (.cons (Ze.forget _ _) (.cons (lr _) .nil)))))))))))))))))
  exact ak (ar (Xb (Kn 2 v1 x.args) (Xb (Uy 0 1 4 v1.v 1 b3 (Z6 x.args) [.i x.op,.i x.dst,.i x.num,.i x.into,.h v1,Z4 x.jumps] (YH _) rfl) (ZA 1 [0] (Zy 3 b2 [.i x.op,.i x.dst,.i x.num,.i x.into,ZL x.args v1.v,Z4 x.jumps] (ie (ZQ (r3 [3] [.agg [.i x.op,.i x.dst,.i x.num,.i x.into,ZL x.args v1.v,Z4 x.jumps]] [0] [(b2,b2)] ⟨x,p+1,rfl,rfl,(by first|exact ⟨hx,by omega,by omega⟩|exact ⟨hx.of rfl rfl (by intro e;first|exact e|(simp at e;done)|omega) (by first|exact hx.n|(simp;omega)|omega),by omega,by omega⟩|exact ⟨hx.of (by simp) rfl (fun e=>e) hx.n,by omega,by omega⟩|exact ⟨.one (by simp) om,by omega,by omega⟩)⟩ (Ze.agg (.cons (lr _) (.cons (lr _) (.cons (lr _) (.cons (lr _) (.cons (Ze.forget _ _) (.cons (lr _) .nil)))))))))))))))
 exact ak (ar (Xb (Kn 2 v1 x.args) (Xb (Uy 0 1 4 v1.v 1 b3 (Z6 x.args) [.i x.op,.i x.dst,.i x.num,.i x.into,.h v1,Z4 x.jumps] (YH _) rfl) (ZA 1 [0] (Zy 3 b2 [.i x.op,.i x.dst,.i x.num,.i x.into,ZL x.args v1.v,Z4 x.jumps] (ie (ZQ (r3 [3] [.agg [.i x.op,.i x.dst,.i x.num,.i x.into,ZL x.args v1.v,Z4 x.jumps]] [0] [(b2,b2)] ⟨x,p+1,rfl,rfl,(by first|exact ⟨hx,by omega,by omega⟩|exact ⟨hx.of rfl rfl (by intro e;first|exact e|(simp at e;done)|omega) (by first|exact hx.n|(simp;omega)|omega),by omega,by omega⟩|exact ⟨hx.of (by simp) rfl (fun e=>e) hx.n,by omega,by omega⟩|exact ⟨.one (by simp) om,by omega,by omega⟩)⟩ (Ze.agg (.cons (lr _) (.cons (lr _) (.cons (lr _) (.cons (lr _) (.cons (Ze.forget _ _) (.cons (lr _) .nil)))))))))))))))
theorem Z9b (rd:Nat) (bs:LI) (p:Nat) (x:Instr) (lz:Nat) (ZK:∀z∈bs,0<=z/\z<=255) (hp:p+4<=1000000000:=by exact ob) (hx:XZ lz x:=by exact ob) (hl:lz<=100:=by exact ob):Zp 57 [.p rd 0,UI x] [YI rd bs p] (fun r h=>∃(y:Instr) (p2:Nat),r=UI y/\h=[YI rd bs p2]/\XZ (lz+1) y/\p<=p2/\p2<=p+4):=by
 have hxl:=hx.l
 have hxn:=hx.n
 refine ZG 48 Tryz.func57 (ar (iA (Ww x) fun b1=>iA [.i 0,.i 0,.i 0,.i 0,nl,nl] fun b2=>ie (Zs 1 [1] (Zv [] (ML x) (iA [.i 0,.i 0,.i 0,.i 0,nl,nl] fun b3=>Zy 0 b3 (Ww x) (ie (YP 1 (ic [3] (XX rd bs p 6 (ZK:=ob)) ?_))))))))
 rintro _ _ ⟨k1,rfl,rfl,Y9⟩
 refine ie (ab 0 (ar (YD (k1==0) Zf (fun Za=>?_) (fun Za=>?_))))
 ·refine az (Z0 1 (ic [0] (XX rd bs (p+1) 26 (ZK:=ob)) ?_))
  rintro _ _ ⟨k2,rfl,rfl,Yt⟩
  exact Z0 1 (Zy 1 b3 [.i k2,.i x.dst,.i x.num,.i x.into,Z4 x.args,Z4 x.jumps] (ie (Zs 1 [0] (Zy 2 b2 [.i k2,.i x.dst,.i x.num,.i x.into,Z4 x.args,Z4 x.jumps] (ie (ZQ (r3 [2] [.agg [.i k2,.i x.dst,.i x.num,.i x.into,Z4 x.args,Z4 x.jumps]] [0] [(b2,b2)] ⟨(Instr.mk k2 x.dst x.num x.into x.args x.jumps),(p+1)+1,rfl,rfl,(by exact ⟨hx.of (by first|(dsimp only;omega)|omega) (by first|(dsimp only;omega)|omega) (by (try dsimp only);first|omega|(rcases hon with e|e|e|e|e|e<;>omega)),by omega,by omega⟩)⟩ (lr _))))))))
 refine ar (YD (k1==1) Zf (fun Zj=>?_) (fun Zj=>?_))
 ·refine az (Z0 1 (iL (Z6 [0,1,-1,99]) 4 1 fun v1=>ZY 0 [(18,Z4 [0,1,-1,99])] (ic [1] (T1 rd bs (p+1) [0,1,-1,99] (ZK:=ob)) ?_)))
  rintro _ _ ⟨z1,rfl,rfl,YS⟩
  have hon:=YS
  simp only [YM,List.not_mem_nil,or_false] at hon
  exact Z0 1 (Zy 2 b3 [.i x.op,.i z1,.i x.num,.i x.into,Z4 x.args,Z4 x.jumps] (ie (Zs 1 [0] (Zy 3 b2 [.i x.op,.i z1,.i x.num,.i x.into,Z4 x.args,Z4 x.jumps] (ie (ZQ (r3 [2] [.agg [.i x.op,.i z1,.i x.num,.i x.into,Z4 x.args,Z4 x.jumps]] [0] [(b2,b2)] ⟨(Instr.mk x.op z1 x.num x.into x.args x.jumps),(p+1)+1,rfl,rfl,(by exact ⟨hx.of (by first|(dsimp only;omega)|omega) (by first|(dsimp only;omega)|omega) (by (try dsimp only);first|omega|(rcases hon with e|e|e|e|e|e<;>omega)),by omega,by omega⟩)⟩ (lr _))))))))
 refine ar (YD (k1==2) Zf (fun Zz=>?_) (fun Zz=>?_))
 ·refine az (Z0 1 (iL (Z6 [0,1,5,-1,1000,2000]) 6 1 fun v2=>ZY 0 [(24,Z4 [0,1,5,-1,1000,2000])] (ic [1] (T1 rd bs (p+1) [0,1,5,-1,1000,2000] (ZK:=ob)) ?_)))
  rintro _ _ ⟨z2,rfl,rfl,YX⟩
  have hon:=YX
  simp only [YM,List.not_mem_nil,or_false] at hon
  exact Z0 1 (Zy 2 b3 [.i x.op,.i x.dst,.i z2,.i x.into,Z4 x.args,Z4 x.jumps] (ie (Zs 1 [0] (Zy 3 b2 [.i x.op,.i x.dst,.i z2,.i x.into,Z4 x.args,Z4 x.jumps] (ie (ZQ (r3 [2] [.agg [.i x.op,.i x.dst,.i z2,.i x.into,Z4 x.args,Z4 x.jumps]] [0] [(b2,b2)] ⟨(Instr.mk x.op x.dst z2 x.into x.args x.jumps),(p+1)+1,rfl,rfl,(by exact ⟨hx.of (by first|(dsimp only;omega)|omega) (by first|(dsimp only;omega)|omega) (by (try dsimp only);first|omega|(rcases hon with e|e|e|e|e|e<;>omega)),by omega,by omega⟩)⟩ (lr _))))))))
 refine ar (YD (k1==3) Zf (fun Yg=>?_) (fun Yg=>?_))
 ·refine az (Z0 1 (iL (Z6 [0,1,-1,99]) 4 1 fun v3=>ZY 0 [(30,Z4 [0,1,-1,99])] (ic [1] (T1 rd bs (p+1) [0,1,-1,99] (ZK:=ob)) ?_)))
  rintro _ _ ⟨z3,rfl,rfl,Xe⟩
  have hon:=Xe
  simp only [YM,List.not_mem_nil,or_false] at hon
  exact Z0 1 (Zy 2 b3 [.i x.op,.i x.dst,.i x.num,.i z3,Z4 x.args,Z4 x.jumps] (ie (Zs 1 [0] (Zy 3 b2 [.i x.op,.i x.dst,.i x.num,.i z3,Z4 x.args,Z4 x.jumps] (ie (ZQ (r3 [2] [.agg [.i x.op,.i x.dst,.i x.num,.i z3,Z4 x.args,Z4 x.jumps]] [0] [(b2,b2)] ⟨(Instr.mk x.op x.dst x.num z3 x.args x.jumps),(p+1)+1,rfl,rfl,(by exact ⟨hx.of (by first|(dsimp only;omega)|omega) (by first|(dsimp only;omega)|omega) (by (try dsimp only);first|omega|(rcases hon with e|e|e|e|e|e<;>omega)),by omega,by omega⟩)⟩ (lr _))))))))
 refine ar (YD (k1==4) Zf (fun YL=>?_) (fun YL=>?_))
 ·refine az (ZA 3 [1] (ic [0] (Ly rd bs (p+1) x.args (ZK:=ob)) ?_))
  rintro _ _ ⟨zs1,p21,rfl,rfl,XP⟩
  have hsi:=XP
  exact Z0 1 (Zy 1 b3 [.i x.op,.i x.dst,.i x.num,.i x.into,Z4 zs1,Z4 x.jumps] (ie (Zs 1 [0] (Zy 2 b2 [.i x.op,.i x.dst,.i x.num,.i x.into,Z4 zs1,Z4 x.jumps] (ie (ZQ (r3 [2] [.agg [.i x.op,.i x.dst,.i x.num,.i x.into,Z4 zs1,Z4 x.jumps]] [0] [(b2,b2)] ⟨(Instr.mk x.op x.dst x.num x.into zs1 x.jumps),p21,rfl,rfl,(by exact ⟨hx.of (by first|(dsimp only;omega)|omega) (by first|(dsimp only;omega)|omega) (by (try dsimp only);first|omega|(rcases hon with e|e|e|e|e|e<;>omega)),by omega,by omega⟩)⟩ (lr _))))))))
 refine ar (YD (k1==5) Zf (fun X3=>?_) (fun X3=>?_))
 ·refine az (ZA 3 [1] (ic [0] (Ly rd bs (p+1) x.jumps (ZK:=ob)) ?_))
  rintro _ _ ⟨zs2,p22,rfl,rfl,Wf⟩
  have hsi:=Wf
  exact Z0 1 (Zy 1 b3 [.i x.op,.i x.dst,.i x.num,.i x.into,Z4 x.args,Z4 zs2] (ie (Zs 1 [0] (Zy 2 b2 [.i x.op,.i x.dst,.i x.num,.i x.into,Z4 x.args,Z4 zs2] (ie (ZQ (r3 [2] [.agg [.i x.op,.i x.dst,.i x.num,.i x.into,Z4 x.args,Z4 zs2]] [0] [(b2,b2)] ⟨(Instr.mk x.op x.dst x.num x.into x.args zs2),p22,rfl,rfl,(by exact ⟨hx.of (by first|(dsimp only;omega)|omega) (by first|(dsimp only;omega)|omega) (by (try dsimp only);first|omega|(rcases hon with e|e|e|e|e|e<;>omega)),by omega,by omega⟩)⟩ (lr _))))))))
 exact ak (Zs 1 [1] (Zy 2 b2 (Ww x) (ie (ZQ (r3 [1] [UI x] [0] [(b2,b2)] ⟨x,p+1,rfl,rfl,(by exact ⟨hx.of (by first|(dsimp only;omega)|omega) (by first|(dsimp only;omega)|omega) (by (try dsimp only);first|omega|(rcases hon with e|e|e|e|e|e<;>omega)),by omega,by omega⟩)⟩ (lr _))))))
theorem Zff (ds:List Zd) (hd:TR ds:=by exact ob):Zp 70 [Y5 ds] [] (Yz (Y5 ds)):=by
 have hdl:=hd.len
 refine ZG 55 Tryz.func70 (Y3 (ar (iL (Yy []) 0 3 fun v1=>?_)))
 refine Z2 (Y8 (ab 0 (Y6 (fun fz gz m F h=>∃(k:Nat) (v:Value),(k<=ds.length)/\F=sF [0] fz [(3,KG (ds.take k) v),(4,.i k)]/\h=[.tail v 3]/\m=ds.length-k) _ _ _ ⟨0,v1,ob,rfl,rfl,rfl⟩ (wk [0] (fc (x:=KG [] v1) (Ze.slh _ (Yq Yy rfl)) (Ye fl))) ?_)))
 rintro m F h ⟨k,v,Yk,rfl,rfl,rfl⟩
 refine YP 2 (iw (Ui ds) (Y2 ((k:Int)<(ds.length:Int)) (fun Za=>?_) (fun Za=>?_)))
 ·obtain ⟨xd,hxd⟩:=Zu ds k om
  have hcl:=hd.cons_at hxd
  refine ak (aq (ab 1 (ar (iL (Xy []) 0 1 fun v2=>?_))))
  refine Z2 (Y8 (ab 2 (Y6 (fun fz gz m F h=>∃(j:Nat) (u:Value),(j<=xd.cons.length)/\F=sF [0,3,4] fz [(5,DZ (xd.cons.take j) u),(6,.i j)]/\h=[.tail u 1,Zg gz 1]/\m=xd.cons.length-j) _ _ _ ⟨0,v2,ob,rfl,rfl,rfl⟩ (wk [0,0] (fc (x:=DZ [] v2) (Ze.slh _ (Yq Xy rfl)) (Ye fl))) ?_)))
  rintro m F h ⟨j,u,Vr,rfl,rfl,rfl⟩
  refine YP 3 (Zq (Zi none (k:Int) 3 (WE hxd)) (Z0 2 (iw (Uu xd.cons) (Y2 ((j:Int)<(xd.cons.length:Int)) (fun Zj=>?_) (fun Zj=>?_)))))
  ·refine ak (aq (ab 3 (az (Z0 3 (Zq (Zi none (k:Int) 3 (WE hxd)) (Z0 3 ?_))))))
   obtain ⟨x1,Z3⟩:=Zu xd.cons j om
   have hfl:=hd.fields_at hxd Z3
   refine Zq (Zi none (j:Int) 1 (Ae Z3)) (Z0 2 (ic [] (WV x1.fields) ?_))
   rintro _ _ ⟨v3,rfl,rfl⟩
   exact ZY 1 [(36,Cl x1)] (iL (Xy [x1]) 1 1 fun v4=>ZY 0 [(37,QH [x1])] (ip 2 (Xy (xd.cons.take (j+1))) (Xy (xd.cons.take j)) (Xy [x1]) u none 1 (CA _) (CA _) (O7 _) (by simp<;>omega) (by rw [V2 Z3];simp [Xy]) fun v5=>Z2 (az (Z0 1 (ZE j (Z2 (ZH ⟨j+1,v5,ob,rfl,rfl,rfl⟩ (wk [0,2] (fr (ZJ j fl))))))))))
  exact ax 2 (aE 16 (Zo 13 16 [0,1,2] (dx 3 (Zi none (k:Int) 3 (WE hxd)) (Zo 8 12 [4,5,6,7] (dx 8 (Zi none (k:Int) 3 (WE hxd)) (Yx 3 7 [9,10,11,12] [(51,.agg [.i xd.frm,.i xd.to_,QH (xd.cons.take j)])] (Z7 13 (dL 13 [] [] (Yy [Zd.mk xd.frm xd.to_ (xd.cons.take j)]) 1 3 fun v6=>Yx 2 2 [] [(52,Y5 [Zd.mk xd.frm xd.to_ (xd.cons.take j)])] (Z7 14 (dp 14 2 [] [] (Yy (ds.take (k+1))) (Yy (ds.take k)) (Yy [Zd.mk xd.frm xd.to_ (xd.cons.take j)]) v none 3 (Qz _) (Qz _) (EB _) (by simp<;>omega) (by rw [V2 hxd];simp [Yy,Wh (show xd.cons.length<=j by omega)]) fun v7=>Zo 0 1 [15] (de (az (Z0 1 (ZE k (Z2 (ZH ⟨k+1,v7,ob,rfl,rfl,rfl⟩ (wk [0] (fr (ZJ k fl)))))))))))))))))))
 exact ax 0 (ar (Zm (ZW (KG (ds.take k) v) (Ze.sl _ (Yq Yy (by rw [Wh om]))))))
theorem NX (im:Yv) (lz:Nat) (hz:IZ im lz:=by exact ob) (hlz:lz<=100:=by exact ob):Zp 53 [V5 im] [] (fun r h=>∃(v:Hd) (U:Nat->Hd),r=.agg [Y5 im.decls,.h v]/\h=[rK v 5 (pD (Xd U) im.procs 0),rK (U 0) 6 (Z9 (ZC (cL im.procs 0))),rK (U 1) 6 (Z9 (ZC (cL im.procs 1))),rK (U 2) 6 (Z9 (ZC (cL im.procs 2))),rK (U 3) 6 (Z9 (ZC (cL im.procs 3)))]):=by
 have hil:=hz.len
 refine ZG 60 Tryz.func53 (ar (iA (WA im) fun b1=>iA [nl,nl] fun b2=>ie (Zs 2 [1] (Zv [] (Zff im.decls (hd:=hz.decls.sz)) (BK 5 fun g1=>Z0 1 (iA [nl,nl] fun b3=>?_))))))
 refine Zy 0 b3 [Y5 im.decls,.ms g1 0 0 0] (ie (Xk (Xb (tU0 (im.procs.take 0) rfl) (Z2 (ab 0 (Y6 (fun fz gz m F h=>∃(k:Nat) (v:Hd) (U:Nat->Hd),(k<=im.procs.length)/\F=sF [1,2,3] fz [(4,.i k)]/\h=[.obj b3 [Y5 im.decls,.h v],Zg gz 6,Zg gz 7,rK v 5 (pD (Xd U) (im.procs.take k) 0),rK (U 0) 6 (Z9 (ZC (cL (im.procs.take k) 0))),rK (U 1) 6 (Z9 (ZC (cL (im.procs.take k) 1))),rK (U 2) 6 (Z9 (ZC (cL (im.procs.take k) 2))),rK (U 3) 6 (Z9 (ZC (cL (im.procs.take k) 3)))]/\m=im.procs.length-k) _ _ _ ⟨0,(⟨some ⟨g1,0,none⟩,0,0⟩:Hd),U0,ob,rfl,rfl,rfl⟩ (wk [4,5,5,4,0,0,0,0] (Ye fl) (e:=(rc (rc (rc (rr (ls:=[]) (by first|rfl|exact pAll_zero.symm) (rc (rc (rc (rc rz)))))))))) ?_))))))
 rintro m F h ⟨k,v,U,Yk,rfl,rfl,rfl⟩
 refine Yp 3 [2] (iw (Qd im.procs) (Y2 ((k:Int)<(im.procs.length:Int)) (fun Za=>?_) (fun Za=>?_)))
 ·refine ak (aq (ab 1 (Zs 3 [2] ?_)))
  obtain ⟨x1,Z3⟩:=Zu im.procs k om
  have hpz:=hz.procs _ (Y7 Z3)
  have Y9:=hpz.params
  have Yt:=hpz.lent
  have YS:=hpz.len
  refine Zq (Zi none (k:Int) 5 (Qc Z3)) (Z0 1 (iA [nl,nl,.i 0,.i 0,nl] fun b4=>Zy 0 b4 (UE x1) (ie (ar (BK 6 fun g2=>?_)))))
  refine Z2 (Y8 (ab 2 (Y6 (fun fz gz m F h=>∃(j:Nat) (r:Hd),(j<=x1.code.length)/\F=sF [1,2,3,4,5] fz [(6,.h r),(7,.i j)]/\h=[Zg gz 1,Zg gz 2,Zg gz 3,Zg gz 4,Zg gz 5,Zg gz 6,Zg gz 7,Zg gz 8,Zg gz 9,rK r 6 (Z9 (ZC (x1.code.take j)))]/\m=x1.code.length-j) _ _ _ ⟨0,(⟨some ⟨g2,0,none⟩,0,0⟩:Hd),ob,rfl,rfl,rfl⟩ (wk [1,1,1,1,1,1,1,1,1,0] (fr (Ye fl)) (e:=(rc (rc (rc (rc (rc (rc (rc (rc (rc (rr (ls:=[]) (by first|rfl|(rw [List.take_zero];rfl)) rz)))))))))))) ?_)))
  rintro m F h ⟨j,r,Vr,rfl,rfl,rfl⟩
  refine Yp 3 [0] (iw (Tw x1.code) (Y2 ((j:Int)<(x1.code.length:Int)) (fun Zj=>?_) (fun Zj=>?_)))
  ·refine ak (aq (ab 3 (az (ZA 4 [0] ?_))))
   obtain ⟨x2,Zw⟩:=Zu x1.code j om
   have hxz:=(hpz.code _ (Y7 Zw)).l
   exact Zq (Zi none (j:Int) 6 (QZ Zw)) (Z0 1 (Zv [] (ML x2) (iL (ZC [x2]) 1 6 fun v1=>ZY 0 [(40,QI [x2])] (EU 10 j r 6 (Z9 (ZC (x1.code.take j))) (ZC [x2]) none (by rw [Ul,XW,VH om]) (Ah _) (Gp _) (List.cons_ne_nil _ _) (by simp<;>omega) fun v2=>Z2 (az (Z0 1 (ZE j (Z2 (ZH ⟨j+1,v2,ob,rfl,rfl,rfl⟩ (wk [2,2,2,2,2,2,2,2,2,0] (fr (ZJ j fl)) (e:=(rc (rc (rc (rc (rc (rc (rc (rc (rc (rr (ls:=Z9 (ZC (x1.code.take j))++Z9 (ZC [x2])) (Z7c Zw) rz)))))))))))))))))))))
  refine ax 2 (aE 18 (ZZ 7 18 [0,1,2,3,5,6,8,9,10,11,12] [1,0,0,0,0] (Z7 4 (dc 4 [] [0,0,0,1] [b4,b4,b4,b3] (WV x1.params) ?_))))
  rintro _ _ ⟨v3,rfl,rfl⟩
  refine Z7 7 (dc 7 [] [0,0,1] [b4,b4,b3] (WV x1.lent) ?_)
  rintro _ _ ⟨v4,rfl,rfl⟩
  exact Yx 4 5 [13] [(55,.agg [Z4 x1.params,Z4 x1.lent,.i x1.result,.i x1.regs,.h r])] (Z7 14 (dL 14 [1] [b3] [.agg [Z4 x1.params,Z4 x1.lent,.i x1.result,.i x1.regs,.h r]] 1 5 fun v5=>Yx 3 3 [] [(56,.sl [.agg [Z4 x1.params,Z4 x1.lent,.i x1.result,.i x1.regs,.h r]] none)] (Z7 15 (IP 15 7 k [] [] v 5 (pD (Xd U) (im.procs.take k) 0) [.agg [Z4 x1.params,Z4 x1.lent,.i x1.result,.i x1.regs,.h r]] none (by rw [KH,XW,VH om]) (KC rfl) rfl (List.cons_ne_nil _ _) (by simp<;>omega) fun v6=>Zo 1 2 [16] (Z7 17 (X1 17 5 [] [] b3 [Y5 im.decls,.h v6] (Ju (Ek 12 r.v 6 (Z9 (ZC (x1.code.take j))) (Z9 (ZC x1.code)) (by rw [Wh om])) (Ju (Z1a 0 8 8 8 8 U im.procs k x1 r Z3 om) (de (az (Z0 1 (ZE k (Z2 (ZH ⟨k+1,v6,(U6 U k r),ob,rfl,rfl,rfl⟩ (wk [4,9,9,4,0,0,0,0] (ZJ k fl) (e:=(rc (rc (rc (rr (ls:=pD (Xd U) (im.procs.take k) 0++Z9 [.agg [Z4 x1.params,Z4 x1.lent,.i x1.result,.i x1.regs,.h r]]) (by first|rfl|exact RL Z3) (rc (rc (rc (rc rz))))))))))))))))))))))))
 exact ax 0 (Zs 1 [0] (Zy 1 b2 [Y5 im.decls,.h v] (ie (ZQ (r3 [3,3,3,3,3] [.agg [Y5 im.decls,.h v]] [0] [(b2,b2)] ⟨v,U,rfl,rfl⟩ (lr _) (eq:=(rr (ls:=pD (Xd U) (im.procs.take k) 0) (by rw [Wh om]) (rr (ls:=Z9 (ZC (cL (im.procs.take k) 0))) (by rw [Wh om]) (rr (ls:=Z9 (ZC (cL (im.procs.take k) 1))) (by rw [Wh om]) (rr (ls:=Z9 (ZC (cL (im.procs.take k) 2))) (by rw [Wh om]) (rr (ls:=Z9 (ZC (cL (im.procs.take k) 3))) (by rw [Wh om]) rz)))))))))))
theorem Z7q (rd:Nat) (bs:LI) (p:Nat) (im:Yv) (ZK:∀z∈bs,0<=z/\z<=255) (hp:p+11<=1000000000:=by exact ob) (hb:IB im:=by exact ob):Zp 59 [.p rd 0,V5 im] [YI rd bs p] (fun r h=>∃(y:Yv) (p2:Nat),r=V5 y/\h=[YI rd bs p2]/\IB y/\p<=p2/\p2<=p+11):=by
 have hil:=hb.len
 refine ZG 52 Tryz.func59 (ar (iA (WA im) fun b1=>iA [nl,nl] fun b2=>ie (Zs 1 [1] (ic [] (NX im 0 (hz:=hb.z)) ?_))))
 rintro _ _ ⟨v1,U1,rfl,rfl⟩
 refine CT 0 im.procs.length (v:=v1) (KH (Xd U1) im.procs 0) om (fun g1 c1 he1=>?_)
 subst he1
 refine iA [nl,nl] fun b3=>Zy 0 b3 [Y5 im.decls,.ms g1 0 im.procs.length c1] (ie (YP 1 (ic [8] (Jv rd bs p 2 (ZK:=ob)) ?_)))
 rintro _ _ ⟨YU,rfl,rfl,Y9⟩
 refine ia ((((YU+1):Nat):Int)) ((1)+((YU:Int))) (Z2 (ab 0 (Y6 (fun fz gz m F h=>∃(mm:Nat) (X:List ZX) (U:Nat->Hd) (pq:Nat),(mm<=2)/\(X.length=im.procs.length)/\(IB ⟨im.decls,X⟩)/\(p<=pq/\pq+5*mm<=p+11)/\F=sF [0,4,5] fz [(6,.i mm)]/\h=[YI rd bs pq,Zg gz 1,Zg gz 7,.row (.slice (some ⟨g1,0,none⟩) im.procs.length c1) 5 (pD (Xd U) X 0),rK (U 0) 6 (Z9 (ZC (cL X 0))),rK (U 1) 6 (Z9 (ZC (cL X 1))),rK (U 2) 6 (Z9 (ZC (cL X 2))),rK (U 3) 6 (Z9 (ZC (cL X 3)))]/\m=mm+1) _ _ _ ⟨(YU+1),im.procs,U1,(p+1),ob,rfl,hb,ob,rfl,rfl,rfl⟩ (wk [0,0,5,0,0,0,0,0] fl) ?_)))
 rintro m F h ⟨mm,X,U,pq,Yk,Zh,ZB,YN,rfl,rfl,rfl⟩
 refine Xk (Y2 ((mm:Int)>0) (fun Za=>?_) (fun Za=>?_))
 ·refine ak (aq (ab 1 (Zs 3 [1] (io (.i im.procs.length) (.i im.procs.length) (lr _) (ic [0] (Jv rd bs pq im.procs.length (ZK:=ob)) ?_)))))
  rintro _ _ ⟨Xl,rfl,rfl,Yt⟩
  obtain ⟨xp,hxp⟩:=Zu X Xl om
  have hpb:=ZB.procs xp (Y7 hxp)
  have hpl:=hpb.len
  obtain ⟨uf1,huf1⟩:∃u:Hd,u=U Xl:=⟨_,rfl⟩
  refine Xb (MV 4 4 4 4 U X Xl uf1 xp.code om huf1 (By hxp)) (CT 0 xp.code.length (v:=uf1) (Ul _) om (fun g2 c2 he2=>?_))
  subst he2
  refine Xb (FI [0,3,3,3,3,0,0,0] (h':=[.row (.slice (some ⟨g2,0,none⟩) xp.code.length c2) 6 (Z9 (ZC xp.code)),.obj rd [Un bs,.i (pq+1:Nat)],.obj b3 [Y5 im.decls,.ms g1 0 im.procs.length c1],.obj b2 [nl,nl],.row (.slice (some ⟨g1,0,none⟩) im.procs.length c1) 5 (pD (Xd U) X 0),rK (U ((Xl+1) % 4)) 6 (Z9 (ZC (cL X ((Xl+1) % 4)))),rK (U ((Xl+2) % 4)) 6 (Z9 (ZC (cL X ((Xl+2) % 4)))),rK (U ((Xl+3) % 4)) 6 (Z9 (ZC (cL X ((Xl+3) % 4))))]) (d:=[]) kr) (Z2 (Zs 4 [2] (Zq (XJ g1 im.procs.length c1 Xl 5 (Xl:Int)) (Z0 1 (VD (WM 4 g1 im.procs.length c1 5 (Xl*5+4) (pD (Xd U) X 0) [.ms g2 0 xp.code.length c2] 30 (.ms g2 0 xp.code.length c2) (by have h:=Hx (D:=Xd U) hxp rfl;rw [<-huf1] at h;exact h)) (io (.i xp.code.length) (.i xp.code.length) (lr _) (ic [1] (Jv rd bs (pq+1) xp.code.length (ZK:=ob)) ?_)))))))
  rintro _ _ ⟨Ka,rfl,rfl,YS⟩
  obtain ⟨xi,hxi⟩:=Zu xp.code Ka om
  have hxb:=hpb.code xi (Y7 hxi)
  refine Z2 (aE 20 (ZZ 17 20 [0,1,2] [2] (dx 3 (XJ g1 im.procs.length c1 Xl 5 (Xl:Int)) (Zo 15 16 [4] (UC 5 (WM 4 g1 im.procs.length c1 5 (Xl*5+4) (pD (Xd U) X 0) [.ms g2 0 xp.code.length c2] 30 (.ms g2 0 xp.code.length c2) (by have h:=Hx (D:=Xd U) hxp rfl;rw [<-huf1] at h;exact h)) (ZZ 9 14 [6,7,8,9,10] [2] (dx 11 (XJ g1 im.procs.length c1 Xl 5 (Xl:Int)) (Zo 7 8 [12] (UC 13 (WM 4 g1 im.procs.length c1 5 (Xl*5+4) (pD (Xd U) X 0) [.ms g2 0 xp.code.length c2] 30 (.ms g2 0 xp.code.length c2) (by have h:=Hx (D:=Xd U) hxp rfl;rw [<-huf1] at h;exact h)) (Zo 5 6 [14] (dx 15 (XJ g2 xp.code.length c2 Ka 6 (Ka:Int)) (UC 16 (WM 1 g2 xp.code.length c2 6 (Ka*6) (Z9 (ZC xp.code)) (Ww xi) 35 (UI xi) (DD hxi)) (Z7 17 (dc 17 [0] [3,1] [g1,b3] (Z7p rd bs ((pq+1)+1) xi (ZK:=ob) (hx:=hxb)) ?_))))))))))))))
  rintro _ _ ⟨y1,p21,rfl,rfl,YX⟩
  have hby:=YX
  exact dx 18 (XJ g2 xp.code.length c2 Ka 6 (Ka:Int)) (Z7 19 (Qy 19 1 [] [] g2 xp.code.length c2 6 (Ka*6) (Ww y1) (Z9 (ZC xp.code)) (Z9 (ZC (xp.code.set Ka y1))) (by rw [Ul];simp only [YA,X6];omega) (GG (t:=y1) hxi) (Ju (D9 0 4 4 4 U X (X.set Xl (ZX.mk xp.params xp.lent xp.result xp.regs (xp.code.set Ka y1))) Xl (⟨some ⟨g2,0,none⟩,xp.code.length,c2⟩:Hd) (xp.code.set Ka y1) om huf1 (Dl hxp) (fun i hi=>Dk hi)) (de (az (Z0 1 (ia ((((mm-1):Nat):Int)) (((mm:Int))-(1)) (Z2 (ZH ⟨(mm-1),(X.set Xl (ZX.mk xp.params xp.lent xp.result xp.regs (xp.code.set Ka y1))),U,p21,ob,(by rw [VG];exact Zh),(ZB.len_put hxp hby.1),ob,rfl,rfl,rfl⟩ (wk [4,4,4,4,0,0,0,0] fl (e:=(rc (rc (rc (rr (ls:=pD (Xd U) X 0) (by first|rfl|exact (Mi hxp).symm) (rc (rc (rc (rc rz)))))))))))))))))))
 exact ax 0 (ar (Xb (C4 3 3 3 3 3 U X (.slice (some ⟨g1,0,none⟩) im.procs.length c1) om) (Xb (Uy 0 1 1 (.slice (some ⟨g1,0,none⟩) im.procs.length c1) 5 b3 (We X) [Y5 im.decls,.ms g1 0 im.procs.length c1] (J0 _) rfl) (ZA 1 [0] (Zy 3 b2 [Y5 im.decls,Uf X (.slice (some ⟨g1,0,none⟩) im.procs.length c1)] (ie (ZQ (r3 [3] [.agg [Y5 im.decls,Uf X (.slice (some ⟨g1,0,none⟩) im.procs.length c1)]] [0] [(b2,b2)] ⟨(Yv.mk im.decls X),pq,rfl,rfl,⟨ZB,by omega,by omega⟩⟩ (Ze.agg (.cons (lr _) (.cons (Ze.forget _ _) .nil)))))))))))
theorem Pf (rd:Nat) (bs:LI) (p:Nat) (im:Yv) (often:Nat) (lz:Nat) (ZK:∀z∈bs,0<=z/\z<=255) (hp:p+8<=1000000000:=by exact ob) (hz:IZ im lz:=by exact ob) (hlz:lz<=50:=by exact ob):Zp 31 [.p rd 0,V5 im,.i often] [YI rd bs p] (fun r h=>∃(y:Yv) (p2:Nat),r=V5 y/\h=[YI rd bs p2]/\IZ y (lz+1)/\p<=p2/\p2<=p+8):=by
 have hil:=hz.len
 refine ZG 126 Tryz.func31 (ar (iA (WA im) fun b1=>iA [nl,nl] fun b2=>ie (YP 2 (ic [2] (XX rd bs p (often:Int) (ZK:=ob)) ?_))))
 rintro _ _ ⟨k1,rfl,rfl,Y9⟩
 refine Y2 (k1>0) (fun Za=>?_) (fun Za=>?_)
 ·exact Zs 1 [2] (Zy 1 b2 (WA im) (ie (ZQ (r3 [1] [V5 im] [0] [(b2,b2)] ⟨im,p+1,rfl,rfl,(by first|exact ⟨hz.le (Nat.le_succ lz),by omega,by omega⟩|exact ⟨hz.ds had.1,by omega,by omega⟩|exact ⟨hz.put (Nat.le_succ lz) hz.decls (hpz.nl om),by omega,by omega⟩|exact ⟨hz.put (Nat.le_succ lz) hz.decls (hpz.nr (by rcases hon with e|e|e|e|e<;>omega)),by omega,by omega⟩|exact ⟨hz.put (Nat.le_succ lz) hz.decls (hpz.cut _ _),by omega,by omega⟩|exact ⟨hz.put (Nat.le_succ lz) hz.decls (hpz.set (Nat.le_succ lz) hsi.1),by omega,by omega⟩)⟩ (lr _)))))
 refine ak (Zs 1 [2] (ic [] (NX im lz (hz:=hz)) ?_))
 rintro _ _ ⟨v1,U1,rfl,rfl⟩
 refine CT 0 im.procs.length (v:=v1) (KH (Xd U1) im.procs 0) om (fun g1 c1 he1=>?_)
 subst he1
 refine iA [nl,nl] fun b3=>Zy 0 b3 [Y5 im.decls,.ms g1 0 im.procs.length c1] (ie (Zs 3 [0] (io (.i im.procs.length) (.i im.procs.length) (lr _) (ic [6] (Jv rd bs (p+1) im.procs.length (ZK:=ob)) ?_))))
 rintro _ _ ⟨YU,rfl,rfl,Yt⟩
 obtain ⟨xp,hxp⟩:=Zu im.procs YU om
 have hpz:=hz.procs xp (Y7 hxp)
 have hpl:=hpz.len
 have Y9:=hpz.lent
 have Yt:=hpz.regs
 obtain ⟨uf1,huf1⟩:∃u:Hd,u=U1 YU:=⟨_,rfl⟩
 refine Xb (MV 3 3 3 3 U1 im.procs YU uf1 xp.code om huf1 (By hxp)) (Xb (FI [4,4,4,4,4,0,0,0,0] (h':=[.obj rd [Un bs,.i (((p+1)+1:Nat):Int)],.obj b3 [Y5 im.decls,.ms g1 0 im.procs.length c1],.row (.slice (some ⟨g1,0,none⟩) im.procs.length c1) 5 (pD (Xd U1) im.procs 0),.obj b2 [nl,nl],.obj b1 (WA im),rK uf1 6 (Z9 (ZC xp.code)),rK (U1 ((YU+1) % 4)) 6 (Z9 (ZC (cL im.procs ((YU+1) % 4)))),rK (U1 ((YU+2) % 4)) 6 (Z9 (ZC (cL im.procs ((YU+2) % 4)))),rK (U1 ((YU+3) % 4)) 6 (Z9 (ZC (cL im.procs ((YU+3) % 4))))]) (d:=[]) kr) (Z2 (Zs 3 [1] (Zq (XJ g1 im.procs.length c1 YU 5 (YU:Int)) (VD (WM 2 g1 im.procs.length c1 5 (YU*5) (pD (Xd U1) im.procs 0) [Z4 xp.params,Z4 xp.lent,.i xp.result,.i xp.regs,.h uf1] 32 (.agg [Z4 xp.params,Z4 xp.lent,.i xp.result,.i xp.regs,.h uf1]) (by have h:=Ml (D:=Xd U1) hxp;rw [show Am (Xd U1 YU) xp=BM xp (U1 YU).v from rfl,<-huf1] at h;exact h)) (iA [nl,nl,.i 0,.i 0,nl] fun b4=>Zy 0 b4 [Z4 xp.params,Z4 xp.lent,.i xp.result,.i xp.regs,.h uf1] (ie (Yp 2 [0] (Zq (H6 6 xp.code.length uf1 6 (Z9 (ZC xp.code)) (Ul xp.code)) (YD ((xp.code.length:Int)==0) Zf (fun Zj=>?_) (fun Zj=>?_)))))))))))
 ·exact ar (Xb (D9 6 6 6 6 U1 im.procs im.procs YU uf1 xp.code om huf1 (By hxp) (fun i hi=>rfl)) (Xb (C4 7 0 0 0 0 U1 im.procs (.slice (some ⟨g1,0,none⟩) im.procs.length c1) om) (Xb (Uy 0 2 1 (.slice (some ⟨g1,0,none⟩) im.procs.length c1) 5 b3 (We im.procs) [Y5 im.decls,.ms g1 0 im.procs.length c1] (J0 _) rfl) (ZA 1 [0] (Zy 4 b2 [Y5 im.decls,Uf im.procs (.slice (some ⟨g1,0,none⟩) im.procs.length c1)] (ie (ZQ (r3 [4] [.agg [Y5 im.decls,Uf im.procs (.slice (some ⟨g1,0,none⟩) im.procs.length c1)]] [0] [(b2,b2)] ⟨im,(p+1)+1,rfl,rfl,(by first|exact ⟨hz.le (Nat.le_succ lz),by omega,by omega⟩|exact ⟨hz.ds had.1,by omega,by omega⟩|exact ⟨hz.put (Nat.le_succ lz) hz.decls (hpz.nl om),by omega,by omega⟩|exact ⟨hz.put (Nat.le_succ lz) hz.decls (hpz.nr (by rcases hon with e|e|e|e|e<;>omega)),by omega,by omega⟩|exact ⟨hz.put (Nat.le_succ lz) hz.decls (hpz.cut _ _),by omega,by omega⟩|exact ⟨hz.put (Nat.le_succ lz) hz.decls (hpz.set (Nat.le_succ lz) hsi.1),by omega,by omega⟩)⟩ (Ze.agg (.cons (lr _) (.cons (Ze.forget _ _) .nil)))))))))))
 refine F4 6 xp.code.length (v:=uf1) (Ul _) om (fun g2 c2 he2=>?_)
 subst he2
 refine ak (YP 1 (ic [1] (XX rd bs ((p+1)+1) 8 (ZK:=ob)) ?_))
 rintro _ _ ⟨k2,rfl,rfl,YS⟩
 refine ie (ab 0 (ar (YD (k2==0) Zf (fun Zz=>?_) (fun Zz=>?_))))
 ·refine aE 18 (ZZ 4 18 [0,1,2,3,4,5,6,7,9,10,11,12,13,14] [2,1,1,1,1,1] (Z7 8 (dc 8 [0] [0,0,0,0,1] [b4,b4,b4,b4,b3] (Ly rd bs (((p+1)+1)+1) xp.lent (ZK:=ob)) ?_)))
  rintro _ _ ⟨zs1,p21,rfl,rfl,YX⟩
  have hsn:=YX
  exact Zo 2 3 [15] (dx 16 (XJ g1 im.procs.length c1 YU 5 (YU:Int)) (Z7 17 (Qy 17 3 [] [] g1 im.procs.length c1 5 (YU*5) [Z4 xp.params,Z4 zs1,.i xp.result,.i xp.regs,.ms g2 0 xp.code.length c2] (pD (Xd U1) im.procs 0) (pD (Xd U1) (im.procs.set YU (ZX.mk xp.params zs1 xp.result xp.regs xp.code)) 0) (by rw [KH];simp only [YA,X6];omega) (by have h:=Mj (U:=U1) (q:=(ZX.mk xp.params zs1 xp.result xp.regs xp.code)) (u:=(⟨some ⟨g2,0,none⟩,xp.code.length,c2⟩:Hd)) hxp;rw [N0 huf1] at h;exact h) (de (ar (Xb (D9 6 6 6 6 U1 im.procs (im.procs.set YU (ZX.mk xp.params zs1 xp.result xp.regs xp.code)) YU (⟨some ⟨g2,0,none⟩,xp.code.length,c2⟩:Hd) xp.code om huf1 (Dl hxp) (fun i hi=>Dk hi)) (Xb (C4 4 0 0 0 0 U1 (im.procs.set YU (ZX.mk xp.params zs1 xp.result xp.regs xp.code)) (.slice (some ⟨g1,0,none⟩) im.procs.length c1) (by rw [VG];omega)) (Xb (Uy 0 2 1 (.slice (some ⟨g1,0,none⟩) im.procs.length c1) 5 b3 (We (im.procs.set YU (ZX.mk xp.params zs1 xp.result xp.regs xp.code))) [Y5 im.decls,.ms g1 0 im.procs.length c1] (J0 _) rfl) (ZA 1 [0] (Zy 4 b2 [Y5 im.decls,Uf (im.procs.set YU (ZX.mk xp.params zs1 xp.result xp.regs xp.code)) (.slice (some ⟨g1,0,none⟩) im.procs.length c1)] (ie (ZQ (r3 [3] [.agg [Y5 im.decls,Uf (im.procs.set YU (ZX.mk xp.params zs1 xp.result xp.regs xp.code)) (.slice (some ⟨g1,0,none⟩) im.procs.length c1)]] [0] [(b2,b2)] ⟨(Yv.mk im.decls (im.procs.set YU (ZX.mk xp.params zs1 xp.result xp.regs xp.code))),p21,rfl,rfl,(by first|exact ⟨hz.le (Nat.le_succ lz),by omega,by omega⟩|exact ⟨hz.ds had.1,by omega,by omega⟩|exact ⟨hz.put (Nat.le_succ lz) hz.decls (hpz.nl om),by omega,by omega⟩|exact ⟨hz.put (Nat.le_succ lz) hz.decls (hpz.nr (by rcases hon with e|e|e|e|e<;>omega)),by omega,by omega⟩|exact ⟨hz.put (Nat.le_succ lz) hz.decls (hpz.cut _ _),by omega,by omega⟩|exact ⟨hz.put (Nat.le_succ lz) hz.decls (hpz.set (Nat.le_succ lz) hsi.1),by omega,by omega⟩)⟩ (Ze.agg (.cons (lr _) (.cons (Ze.forget _ _) .nil))))))))))))))))
 refine ar (YD (k2==1) Zf (fun Yg=>?_) (fun Yg=>?_))
 ·refine aE 20 (ZZ 8 20 [0,1,2,3,4,5,6,7,8,9,10,11] [2,1,1,1,1] (da 12 ((xp.regs+1)) ((xp.regs)+(1)) (ZZ 5 7 [15,16] [1] (Z7 13 (dL 13 [1,1,1,1,2] [b4,b4,b4,b4,b3] (Z6 [0,1,xp.regs+1,2001,-1]) 5 1 fun v2=>Yx 4 4 [] [(89,Z4 [0,1,xp.regs+1,2001,-1])] (Z7 14 (dc 14 [1] [0,0,0,0,1] [b4,b4,b4,b4,b3] (T1 rd bs (((p+1)+1)+1) [0,1,xp.regs+1,2001,-1] (ZK:=ob)) ?_)))))))
  rintro _ _ ⟨z1,rfl,rfl,Xe⟩
  have hon:=Xe
  simp only [YM,List.not_mem_nil,or_false] at hon
  exact Zo 2 3 [17] (dx 18 (XJ g1 im.procs.length c1 YU 5 (YU:Int)) (Z7 19 (Qy 19 4 [] [] g1 im.procs.length c1 5 (YU*5) [Z4 xp.params,Z4 xp.lent,.i xp.result,.i z1,.ms g2 0 xp.code.length c2] (pD (Xd U1) im.procs 0) (pD (Xd U1) (im.procs.set YU (ZX.mk xp.params xp.lent xp.result z1 xp.code)) 0) (by rw [KH];simp only [YA,X6];omega) (by have h:=Mj (U:=U1) (q:=(ZX.mk xp.params xp.lent xp.result z1 xp.code)) (u:=(⟨some ⟨g2,0,none⟩,xp.code.length,c2⟩:Hd)) hxp;rw [N0 huf1] at h;exact h) (de (ar (Xb (D9 7 7 7 7 U1 im.procs (im.procs.set YU (ZX.mk xp.params xp.lent xp.result z1 xp.code)) YU (⟨some ⟨g2,0,none⟩,xp.code.length,c2⟩:Hd) xp.code om huf1 (Dl hxp) (fun i hi=>Dk hi)) (Xb (C4 4 0 0 0 0 U1 (im.procs.set YU (ZX.mk xp.params xp.lent xp.result z1 xp.code)) (.slice (some ⟨g1,0,none⟩) im.procs.length c1) (by rw [VG];omega)) (Xb (Uy 0 3 1 (.slice (some ⟨g1,0,none⟩) im.procs.length c1) 5 b3 (We (im.procs.set YU (ZX.mk xp.params xp.lent xp.result z1 xp.code))) [Y5 im.decls,.ms g1 0 im.procs.length c1] (J0 _) rfl) (ZA 1 [0] (Zy 5 b2 [Y5 im.decls,Uf (im.procs.set YU (ZX.mk xp.params xp.lent xp.result z1 xp.code)) (.slice (some ⟨g1,0,none⟩) im.procs.length c1)] (ie (ZQ (r3 [3] [.agg [Y5 im.decls,Uf (im.procs.set YU (ZX.mk xp.params xp.lent xp.result z1 xp.code)) (.slice (some ⟨g1,0,none⟩) im.procs.length c1)]] [0] [(b2,b2)] ⟨(Yv.mk im.decls (im.procs.set YU (ZX.mk xp.params xp.lent xp.result z1 xp.code))),(((p+1)+1)+1)+1,rfl,rfl,(by first|exact ⟨hz.le (Nat.le_succ lz),by omega,by omega⟩|exact ⟨hz.ds had.1,by omega,by omega⟩|exact ⟨hz.put (Nat.le_succ lz) hz.decls (hpz.nl om),by omega,by omega⟩|exact ⟨hz.put (Nat.le_succ lz) hz.decls (hpz.nr (by rcases hon with e|e|e|e|e<;>omega)),by omega,by omega⟩|exact ⟨hz.put (Nat.le_succ lz) hz.decls (hpz.cut _ _),by omega,by omega⟩|exact ⟨hz.put (Nat.le_succ lz) hz.decls (hpz.set (Nat.le_succ lz) hsi.1),by omega,by omega⟩)⟩ (Ze.agg (.cons (lr _) (.cons (Ze.forget _ _) .nil))))))))))))))))
 refine ar (YD (k2==2) Zf (fun YL=>?_) (fun YL=>?_))
 ·refine aE 22 (ZZ 8 22 [0,1,2,3,4,5,6,7,10,11,12,13,14,15] [2,1,1,1,1,1] (dn 16 (.i xp.code.length) (.i xp.code.length) (lr _) (da 17 ((((xp.code.length-1):Nat):Int)) (((xp.code.length:Int))-(1)) (dx 18 (PS 6 g2 xp.code.length c2 (xp.code.length-1) 6 (Z9 (ZC xp.code))) (Z7 8 (dL 8 [1,1,1,1,1,2] [b4,b4,b4,b4,b4,b3] (Z6 [0,1,9]) 3 1 fun v3=>Yx 4 4 [] [(105,Z4 [0,1,9])] (Z7 9 (dc 9 [1] [0,0,0,0,0,1] [b4,b4,b4,b4,b4,b3] (T1 rd bs (((p+1)+1)+1) [0,1,9] (ZK:=ob)) ?_))))))))
  rintro _ _ ⟨z2,rfl,rfl,XP⟩
  have hon:=XP
  simp only [YM,List.not_mem_nil,or_false] at hon
  exact Zo 2 3 [19] (dx 20 (XJ g1 im.procs.length c1 YU 5 (YU:Int)) (Z7 21 (Qy 21 4 [] [] g1 im.procs.length c1 5 (YU*5) [Z4 xp.params,Z4 xp.lent,.i z2,.i xp.regs,.ms g2 0 (xp.code.length-1) c2] (pD (Xd U1) im.procs 0) (pD (Xd (U6 U1 YU (⟨some ⟨g2,0,none⟩,(xp.code.length-1),c2⟩:Hd))) (im.procs.set YU (ZX.mk xp.params xp.lent z2 xp.regs (xp.code.take (xp.code.length-1)))) 0) (by rw [KH];simp only [YA,X6];omega) (by have h:=Mj (U:=U1) (q:=(ZX.mk xp.params xp.lent z2 xp.regs (xp.code.take (xp.code.length-1)))) (u:=(⟨some ⟨g2,0,none⟩,(xp.code.length-1),c2⟩:Hd)) hxp;exact h) (Ju (Zh2 7 g2 xp.code.length c2 (xp.code.length-1) 6 (Z9 (ZC xp.code)) (Z9 (ZC (xp.code.take (xp.code.length-1)))) om (Z7e _ _)) (de (ar (Xb (Z19 0 7 7 7 U1 im.procs (im.procs.set YU (ZX.mk xp.params xp.lent z2 xp.regs (xp.code.take (xp.code.length-1)))) YU (⟨some ⟨g2,0,none⟩,(xp.code.length-1),c2⟩:Hd) (xp.code.take (xp.code.length-1)) om (Dl hxp) (fun i hi=>Dk hi)) (Xb (C4 4 0 0 0 0 (U6 U1 YU (⟨some ⟨g2,0,none⟩,(xp.code.length-1),c2⟩:Hd)) (im.procs.set YU (ZX.mk xp.params xp.lent z2 xp.regs (xp.code.take (xp.code.length-1)))) (.slice (some ⟨g1,0,none⟩) im.procs.length c1) (by rw [VG];omega)) (Xb (Uy 0 3 1 (.slice (some ⟨g1,0,none⟩) im.procs.length c1) 5 b3 (We (im.procs.set YU (ZX.mk xp.params xp.lent z2 xp.regs (xp.code.take (xp.code.length-1))))) [Y5 im.decls,.ms g1 0 im.procs.length c1] (J0 _) rfl) (ZA 1 [0] (Zy 5 b2 [Y5 im.decls,Uf (im.procs.set YU (ZX.mk xp.params xp.lent z2 xp.regs (xp.code.take (xp.code.length-1)))) (.slice (some ⟨g1,0,none⟩) im.procs.length c1)] (ie (ZQ (r3 [3] [.agg [Y5 im.decls,Uf (im.procs.set YU (ZX.mk xp.params xp.lent z2 xp.regs (xp.code.take (xp.code.length-1)))) (.slice (some ⟨g1,0,none⟩) im.procs.length c1)]] [0] [(b2,b2)] ⟨(Yv.mk im.decls (im.procs.set YU (ZX.mk xp.params xp.lent z2 xp.regs (xp.code.take (xp.code.length-1))))),(((p+1)+1)+1)+1,rfl,rfl,(by first|exact ⟨hz.le (Nat.le_succ lz),by omega,by omega⟩|exact ⟨hz.ds had.1,by omega,by omega⟩|exact ⟨hz.put (Nat.le_succ lz) hz.decls (hpz.nl om),by omega,by omega⟩|exact ⟨hz.put (Nat.le_succ lz) hz.decls (hpz.nr (by rcases hon with e|e|e|e|e<;>omega)),by omega,by omega⟩|exact ⟨hz.put (Nat.le_succ lz) hz.decls (hpz.cut _ _),by omega,by omega⟩|exact ⟨hz.put (Nat.le_succ lz) hz.decls (hpz.set (Nat.le_succ lz) hsi.1),by omega,by omega⟩)⟩ (Ze.agg (.cons (lr _) (.cons (Ze.forget _ _) .nil)))))))))))))))))
 refine ar (YD (k2==3) Zf (fun X3=>?_) (fun X3=>?_))
 ·refine aD 6 (Zo 4 6 [0,2] (Ju (D9 6 6 6 6 U1 im.procs im.procs YU (⟨some ⟨g2,0,none⟩,xp.code.length,c2⟩:Hd) xp.code om huf1 (By hxp) (fun i hi=>rfl)) (Ju (C4 7 0 0 0 0 U1 im.procs (.slice (some ⟨g1,0,none⟩) im.procs.length c1) om) (Ju (Uy 0 2 1 (.slice (some ⟨g1,0,none⟩) im.procs.length c1) 5 b3 (We im.procs) [Y5 im.decls,.ms g1 0 im.procs.length c1] (J0 _) rfl) (ZZ 3 4 [3] [0] (Z7 1 (dc 1 [2] [0] [b3] (Z7m rd bs (((p+1)+1)+1) (ZK:=ob)) ?_)))))))
  rintro _ _ ⟨dz1,p22,rfl,rfl,Wf⟩
  have had:=Wf
  exact Zo 1 2 [4] (Z7 5 (X1 5 4 [] [] b2 [Y5 dz1,Uf im.procs (.slice (some ⟨g1,0,none⟩) im.procs.length c1)] (de (ZQ (r3 [1] [.agg [Y5 dz1,Uf im.procs (.slice (some ⟨g1,0,none⟩) im.procs.length c1)]] [0] [(b2,b2)] ⟨(Yv.mk dz1 im.procs),p22,rfl,rfl,(by first|exact ⟨hz.le (Nat.le_succ lz),by omega,by omega⟩|exact ⟨hz.ds had.1,by omega,by omega⟩|exact ⟨hz.put (Nat.le_succ lz) hz.decls (hpz.nl om),by omega,by omega⟩|exact ⟨hz.put (Nat.le_succ lz) hz.decls (hpz.nr (by rcases hon with e|e|e|e|e<;>omega)),by omega,by omega⟩|exact ⟨hz.put (Nat.le_succ lz) hz.decls (hpz.cut _ _),by omega,by omega⟩|exact ⟨hz.put (Nat.le_succ lz) hz.decls (hpz.set (Nat.le_succ lz) hsi.1),by omega,by omega⟩)⟩ (Ze.agg (.cons (lr _) (.cons (Ze.forget _ _) .nil))))))))
 refine Zs 3 [1] (io (.i xp.code.length) (.i xp.code.length) (lr _) (ic [0] (Jv rd bs (((p+1)+1)+1) xp.code.length (ZK:=ob)) ?_))
 rintro _ _ ⟨Xl,rfl,rfl,WL⟩
 obtain ⟨xi,hxi⟩:=Zu xp.code Xl om
 have hxz:=hpz.code xi (Y7 hxi)
 refine Z2 (aE 16 (ZZ 13 16 [0,1,2] [2] (dx 3 (XJ g1 im.procs.length c1 YU 5 (YU:Int)) (Zo 11 12 [4] (UC 5 (WM 3 g1 im.procs.length c1 5 (YU*5+4) (pD (Xd U1) im.procs 0) [.ms g2 0 xp.code.length c2] 30 (.ms g2 0 xp.code.length c2) (by have h:=Hx (D:=Xd U1) hxp rfl;rw [<-huf1] at h;exact h)) (ZZ 5 10 [6,7,8,9,10] [1] (dx 11 (XJ g2 xp.code.length c2 Xl 6 (Xl:Int)) (UC 12 (WM 6 g2 xp.code.length c2 6 (Xl*6) (Z9 (ZC xp.code)) (Ww xi) 35 (UI xi) (DD hxi)) (Z7 13 (dc 13 [0] [2,1] [g1,b3] (Z9b rd bs ((((p+1)+1)+1)+1) xi lz (ZK:=ob) (hx:=hxz)) ?_))))))))))
 rintro _ _ ⟨y1,p23,rfl,rfl,Vf⟩
 have hsi:=Vf
 exact dx 14 (XJ g2 xp.code.length c2 Xl 6 (Xl:Int)) (Z7 15 (Qy 15 6 [] [] g2 xp.code.length c2 6 (Xl*6) (Ww y1) (Z9 (ZC xp.code)) (Z9 (ZC (xp.code.set Xl y1))) (by rw [Ul];simp only [YA,X6];omega) (GG (t:=y1) hxi) (de (ar (Xb (Ek 4 (.slice (some ⟨g1,0,none⟩) im.procs.length c1) 5 (pD (Xd U1) im.procs 0) (pD (Xd U1) (im.procs.set YU (ZX.mk xp.params xp.lent xp.result xp.regs (xp.code.set Xl y1))) 0) (Mi hxp).symm) (Xb (D9 1 6 6 6 U1 im.procs (im.procs.set YU (ZX.mk xp.params xp.lent xp.result xp.regs (xp.code.set Xl y1))) YU (⟨some ⟨g2,0,none⟩,xp.code.length,c2⟩:Hd) (xp.code.set Xl y1) om huf1 (Dl hxp) (fun i hi=>Dk hi)) (Xb (C4 4 0 0 0 0 U1 (im.procs.set YU (ZX.mk xp.params xp.lent xp.result xp.regs (xp.code.set Xl y1))) (.slice (some ⟨g1,0,none⟩) im.procs.length c1) (by rw [VG];omega)) (Xb (Uy 0 2 1 (.slice (some ⟨g1,0,none⟩) im.procs.length c1) 5 b3 (We (im.procs.set YU (ZX.mk xp.params xp.lent xp.result xp.regs (xp.code.set Xl y1)))) [Y5 im.decls,.ms g1 0 im.procs.length c1] (J0 _) rfl) (ZA 1 [0] (Zy 4 b2 [Y5 im.decls,Uf (im.procs.set YU (ZX.mk xp.params xp.lent xp.result xp.regs (xp.code.set Xl y1))) (.slice (some ⟨g1,0,none⟩) im.procs.length c1)] (ie (ZQ (r3 [3] [.agg [Y5 im.decls,Uf (im.procs.set YU (ZX.mk xp.params xp.lent xp.result xp.regs (xp.code.set Xl y1))) (.slice (some ⟨g1,0,none⟩) im.procs.length c1)]] [0] [(b2,b2)] ⟨(Yv.mk im.decls (im.procs.set YU (ZX.mk xp.params xp.lent xp.result xp.regs (xp.code.set Xl y1)))),p23,rfl,rfl,(by first|exact ⟨hz.le (Nat.le_succ lz),by omega,by omega⟩|exact ⟨hz.ds had.1,by omega,by omega⟩|exact ⟨hz.put (Nat.le_succ lz) hz.decls (hpz.nl om),by omega,by omega⟩|exact ⟨hz.put (Nat.le_succ lz) hz.decls (hpz.nr (by rcases hon with e|e|e|e|e<;>omega)),by omega,by omega⟩|exact ⟨hz.put (Nat.le_succ lz) hz.decls (hpz.cut _ _),by omega,by omega⟩|exact ⟨hz.put (Nat.le_succ lz) hz.decls (hpz.set (Nat.le_succ lz) hsi.1),by omega,by omega⟩)⟩ (Ze.agg (.cons (lr _) (.cons (Ze.forget _ _) .nil))))))))))))))))
theorem Z7n (rd:Nat) (bs:LI) (p:Nat) (ZK:∀z∈bs,0<=z/\z<=255) (hp:p+400060<=1000000000:=by exact ob):Zp 32 [.p rd 0] [YI rd bs p] (fun r h=>∃(y:Yv) (p2:Nat),r=V5 y/\h=[YI rd bs p2]/\IZ y 1/\p<=p2/\p2<=p+400060):=by
 refine ZG 15 Tryz.func32 (ar (iA [nl,nl] fun b1=>ie (Yj 1 (ic [1] (Z8e rd bs p (ZK:=ob)) ?_))))
 rintro _ _ ⟨im1,p21,rfl,rfl,Y9⟩
 have hgi:=Y9.1
 refine iA [nl,nl] fun b2=>Zy 0 b2 (WA im1) (ie (YP 1 (ic [1] (XX rd bs p21 4 (ZK:=ob)) ?_)))
 rintro _ _ ⟨k1,rfl,rfl,Yt⟩
 refine YD (k1==0) Zf (fun Za=>?_) (fun Za=>?_)
 ·refine az (ZA 2 [1] (ic [0] (Z7q rd bs (p21+1) im1 (ZK:=ob) (hb:=hgi.ib)) ?_))
  rintro _ _ ⟨y1,p22,rfl,rfl,YS⟩
  have hbi:=YS.1
  refine Zy 1 b2 (WA y1) (ie (Zs 2 [0] (ic [1] (Pf rd bs p22 y1 14 0 (ZK:=ob) (hz:=(by first|exact hbi.z|exact hgi.ib.z))) ?_)))
  rintro _ _ ⟨y2,p23,rfl,rfl,YX⟩
  have hsi:=YX.1
  exact Zy 2 b1 (WA y2) (ie (ZQ (r3 [1] [V5 y2] [0] [(b1,b1)] ⟨y2,p23,rfl,rfl,⟨hsi,by omega,by omega⟩⟩ (lr _))))
 refine ak (Zs 2 [1] (ic [0] (Pf rd bs (p21+1) im1 14 0 (ZK:=ob) (hz:=(by first|exact hbi.z|exact hgi.ib.z))) ?_))
 rintro _ _ ⟨y3,p24,rfl,rfl,Xe⟩
 have hsi:=Xe.1
 exact Zy 2 b1 (WA y3) (ie (ZQ (r3 [1] [V5 y3] [0] [(b1,b1)] ⟨y3,p24,rfl,rfl,⟨hsi,by omega,by omega⟩⟩ (lr _))))
theorem OX (code:LI) (hcl:code.length<=1048576:=by exact ob) (hcb:∀z∈code,0<=z/\z<=255):Zp 14 [Un code] [] (fun r h=>∃(y:Yv),r=V5 y/\h=[]/\IZ y 1):=by
 refine ZG 16 Tryz.func14 (ar (iA [nl,nl] fun b1=>ie (Yj 1 (ic [] (Z8x code (hc:=hcb)) ?_))))
 rintro _ _ ⟨rd1,bs1,rfl,rfl,Y9⟩
 have hnr:=Y9
 refine Z2 (Yj 1 (ic [0] (OZ rd1 bs1 0 (ZK:=hnr)) ?_))
 rintro _ _ ⟨n1,p21,rfl,rfl,Yt⟩
 have hbf:=Yt.1
 refine Zv [] (P4 n1 7330630 (hF:=hbf)) (iA [nl,nl] fun b2=>Zy 0 b2 (WA (K8 n1)) (ie (YP 1 (ic [1] (XX rd1 bs1 p21 5 (ZK:=hnr)) ?_))))
 rintro _ _ ⟨k1,rfl,rfl,YS⟩
 refine YD (k1==0) Zf (fun Za=>?_) (fun Za=>?_)
 ·refine Yj 1 (ic [0] (Z7n rd1 bs1 (p21+1) (ZK:=hnr)) ?_)
  rintro _ _ ⟨y1,p22,rfl,rfl,YX⟩
  have hai:=YX.1
  exact Zy 2 b1 (WA y1) (ie (ZQ (r3 [] [V5 y1] [0] [(b1,b1)] ⟨y1,rfl,rfl,(by first|exact hai|exact (EW hbf om).ib.z.le om)⟩ (lr _))))
 exact ak (Zs 1 [1] (Zy 2 b1 (WA (K8 n1)) (ie (ZQ (r3 [] [V5 (K8 n1)] [0] [(b1,b1)] ⟨(K8 n1),rfl,rfl,(by first|exact hai|exact (EW hbf om).ib.z.le om)⟩ (lr _))))))
theorem Z0m (im:Yv) (num:Int) (na:Nat) (more:Nat) (hd:Xq im.decls:=by exact ob) (hpl:im.procs.length<=4:=by exact ob) (hps:∀p∈im.procs,p.params.length<=3) (hna:na<=1000000000:=by exact ob) (hmo:more<=10:=by exact ob):Zp 130 [V5 im,.i num,.i na,.i more] [] (Yz (.b (Up im num na more))):=by
 refine ZG 28 Tryz.func130 (ar (iA (WA im) fun b1=>Z2 (Zs 3 [0] (iw (Qd im.procs) (ia (((im.procs.length:Int)-1)) (((im.procs.length:Int))-(1)) (Zv [] (Vo num 0 ((im.procs.length:Int)-1)) (Z0 1 (ib (b:=(decide (0<=num/\num<=((im.procs.length:Int)-1)))) 15 (fun Zc=>?_) (fun Zc=>?_)))))))))
 ·have Y9:0<=num/\num<=((im.procs.length:Int)-1):=(dq).1 Zc
  refine ZA 3 [0] ?_
  obtain ⟨x1,Z3⟩:=Zu im.procs num.toNat om
  have hpx:=hps _ (Y7 Z3)
  exact Zq (Zi none num 5 (Qc Z3)) (Z0 2 (iw (Yi x1.params) (Z0 2 (ia (((na+more:Nat):Int)) (((na:Int))+((more:Int))) (Zm (ZW (.b ((x1.params.length:Int)==((na+more:Nat):Int))) (lb (by first|(rw [(Hy Z3 om).1,Yc];simp;omega)|(rw [(Mo om).1])))))))))
 have Yt:¬(0<=num/\num<=((im.procs.length:Int)-1)):=Y4 dq Zc
 exact Zm (ZW (.b false) (lb (by first|(rw [(Hy Z3 om).1,Yc];simp;omega)|(rw [(Mo om).1]))))
theorem Zge (ls:LI) (many:Nat) (k:Nat) (len:Nat) (hl:ls.length<=1000000000:=by exact ob) (hm:many<=1000000000:=by exact ob) (hk:k<=1000000000:=by exact ob) (hn:len<=1000000000:=by exact ob):Zp 132 [Z4 ls,.i many,.i k,.i len] [] (Yz (.b (decide (ls.length=many)&&Wr k len ls))):=by
 refine ZG 29 Tryz.func132 (Y3 (YP 1 (iw (Yi ls) (YD ((ls.length:Int) != (many:Int)) Ym (fun Za=>?_) (fun Za=>?_)))))
 ·exact ar (Zm (ZW (.b false) (lb (by rw [decide_eq_false om];rfl))))
 refine ak (Y8 (ab 0 (Y6 (fun fz gz m F h=>∃(j:Nat),(j<=many)/\(Wr k len (ls.drop j)=Wr k len ls)/\F=sF [0,1,2,3] fz [(9,.i j)]/\h=gz/\m=many-j) _ _ _ ⟨0,ob,rfl,rfl,rfl,rfl⟩ (wk [] (Ye fl)) ?_)))
 rintro m F h ⟨j,Yk,Zh,rfl,rfl,rfl⟩
 refine Xk (Y2 ((j:Int)<(many:Int)) (fun Zj=>?_) (fun Zj=>?_))
 ·refine ak (aq (ab 1 (Yj 2 ?_)))
  obtain ⟨x1,Z3⟩:=Zu ls j om
  refine Zq (Zi none (j:Int) 1 (Yb Z3)) (Z0 2 (ZE k (Z0 1 (ia (((len:Int)-1)) (((len:Int))-(1)) (Zv [] (Vo x1 ((k+1:Nat):Int) ((len:Int)-1)) (YD (!(decide (((k+1:Nat):Int)<=x1/\x1<=((len:Int)-1)))) (p:=¬(((k+1:Nat):Int)<=x1/\x1<=((len:Int)-1))) (Yd dq) (fun Zz=>?_) (fun Zz=>?_)))))))
  ·exact ar (Zm (ZW (.b false) (lb (by rw [<-LY Z3 om Zh];simp))))
  exact ak (az (Z0 1 (ZE j (Z2 (ZH ⟨j+1,ob,(R4 Z3 om Zh),rfl,rfl,rfl⟩ (wk [] (ZJ j fl)))))))
 exact ax 0 (ar (Zm (ZW (.b true) (lb (by rw [<-LZ om Zh,decide_eq_true om];rfl)))))
theorem Zgc (im:Yv) (p:ZX) (k:Nat) (x:Instr) (hd:Xq im.decls:=by exact ob) (hpl:im.procs.length<=4:=by exact ob) (hps:∀p∈im.procs,p.params.length<=3) (hx:p.code[k]? = some x:=by exact ob) (hcl:p.code.length<=200000000:=by exact ob) (hxl:x.args.length<=1000/\x.jumps.length<=1000:=by exact ob) (hrg:-1<=p.regs/\p.regs<=2000000000:=by exact ob):Zp 105 [V5 im,Co p,.i k] [] (Yz (.b (VL im p k x))):=by
 have hkl:=(Xc.1 hx).1
 have hk3:=DX hd x.num
 have hcf:=Vs hd x.num
 refine ZG 234 Tryz.func105 (ar (iA (WA im) fun b1=>iA (UE p) fun b2=>Z2 (Zs 3 [0] (Zq (Zi none (k:Int) 6 (QZ hx)) (Z0 1 (iA [.i 0,.i 0,.i 0,.i 0,nl,nl] fun b3=>?_))))))
 refine Zy 0 b3 (Ww x) (ie (Zs 2 [0] (iw (Yi x.args) (Z2 (Y8 (ab 0 (Y6 (fun fz gz m F h=>∃(j:Nat),(j<=x.args.length)/\(QL p.regs (x.args.drop j)=QL p.regs x.args)/\F=sF [2,3,4,7,8] fz [(9,.i j)]/\h=gz/\m=x.args.length-j) _ _ _ ⟨0,ob,rfl,rfl,rfl,rfl⟩ (Zt 3 (Ye fl)) ?_)))))))
 rintro m F h ⟨j,Yk,Zh,rfl,rfl,rfl⟩
 refine Xk (Y2 ((j:Int)<(x.args.length:Int)) (fun Za=>?_) (fun Za=>?_))
 ·refine ak (aq (ab 1 (aD 10 (ZZ 7 10 [0,1,2] [0] ?_))))
  obtain ⟨x1,Z3⟩:=Zu x.args j om
  refine dx 3 (Zi none (j:Int) 1 (Yb Z3)) (ZZ 3 6 [4,5,6] [1] (da 7 ((p.regs-1)) ((p.regs)-(1)) (Z7 8 (YE 8 [] [] [] (Vo x1 0 (p.regs-1)) (Zo 0 1 [9] (de (ac (!(decide (0<=x1/\x1<=(p.regs-1)))) (p:=¬(0<=x1/\x1<=(p.regs-1))) (Yd dq) (fun Zj=>?_) (fun Zj=>?_))))))))
  ·exact ar (Zm (ZW (.b false) (lb (by rw [VL,<-Se Z3 om Zh];rfl))))
  exact ak (az (Z0 1 (ZE j (Z2 (ZH ⟨j+1,ob,(Sh Z3 om Zh),rfl,rfl,rfl⟩ (Zt 3 (ZJ j fl)))))))
 refine ax 0 (Yp 4 [0,1] (ia ((p.regs-1)) ((p.regs)-(1)) (Zv [] (Vo x.dst 0 (p.regs-1)) (X2 18 [2,3,4,7,8] [(51,.b ((!(decide (0<=x.dst/\x.dst<=(p.regs-1))))||((x.dst != 0)&&(!(TC x.op)))))] (fun gz=>gz) ?_ (fun hj1=>?_)))))
 ·refine X2 28 [2,3,4,7,8] [(61,.b (((!(decide (0<=x.dst/\x.dst<=(p.regs-1))))||((x.dst != 0)&&(!(TC x.op))))||((x.into != 0)&&(x.op != 6))))] (fun gz=>gz) ?_ (fun hj2=>?_)
  ·refine Xu [2,3,4,7,8] [(72,.b ((((!(decide (0<=x.dst/\x.dst<=(p.regs-1))))||((x.dst != 0)&&(!(TC x.op))))||((x.into != 0)&&(x.op != 6)))||((x.op != 21)&&(decide ((x.jumps.length:Int)>0)))))] (fun gz=>gz) ?_ ?_
   ·refine Z0 1 (ib (b:=(((!(decide (0<=x.dst/\x.dst<=(p.regs-1))))||((x.dst != 0)&&(!(TC x.op))))||((x.into != 0)&&(x.op != 6)))) 62 (fun Zc=>?_) (fun Zc=>?_))
    ·have Y9:((¬(0<=x.dst/\x.dst<=(p.regs-1)))∨((x.dst≠0)/\(¬((TC x.op)=true))))∨((x.into≠0)/\(x.op≠6)):=((ZO (ZO (Yd dq) (Ys Ym (Yd Iff.rfl))) (Ys Ym Ym))).1 Zc
     exact Z2 (Zt 3 (Zl true Zc fl))
    have Yt:¬(((¬(0<=x.dst/\x.dst<=(p.regs-1)))∨((x.dst≠0)/\(¬((TC x.op)=true))))∨((x.into≠0)/\(x.op≠6))):=Y4 (ZO (ZO (Yd dq) (Ys Ym (Yd Iff.rfl))) (Ys Ym Ym)) Zc
    refine ZA 4 [0] (ib (b:=(x.op != 21)) 66 (fun ZD=>?_) (fun ZD=>?_))
    ·have YS:x.op≠21:=(Ym).1 ZD
     exact ZA 2 [0] (iw (Yi x.jumps) (Z2 (Zt 3 (Zl (decide ((x.jumps.length:Int)>0)) (And.intro Zc ZD) fl))))
    have YX:¬(x.op≠21):=Y4 Ym ZD
    exact Z2 (Zt 3 (Zl false (And.intro Zc ZD) fl))
   refine ac ((((!(decide (0<=x.dst/\x.dst<=(p.regs-1))))||((x.dst != 0)&&(!(TC x.op))))||((x.into != 0)&&(x.op != 6)))||((x.op != 21)&&(decide ((x.jumps.length:Int)>0)))) (p:=(((¬(0<=x.dst/\x.dst<=(p.regs-1)))∨((x.dst≠0)/\(¬((TC x.op)=true))))∨((x.into≠0)/\(x.op≠6)))∨((x.op≠21)/\((x.jumps.length:Int)>0))) (ZO (ZO (ZO (Yd dq) (Ys Ym (Yd Iff.rfl))) (Ys Ym Ym)) (Ys Ym dq)) (fun Zz=>?_) (fun Zz=>?_)
   ·exact ar (Zm (ZW (.b false) (lb (by rw [VL,decide_eq_false (fun z=>by obtain ⟨z1,z2,z3,z4⟩:=z;rcases Zz with ((q|q)|q)|q<;>first|omega|exact q z1|exact z2.elim q.1 q.2)];simp))))
   simp only [not_or] at Zz
   obtain ⟨⟨⟨hA,hB⟩,hC⟩,hD⟩:=Zz
   have hA:=VX.1 hA
   have hB:x.dst=0∨TC x.op=true:=C9 fun z=>hB ⟨fun w=>z (.inl w),fun w=>z (.inr w)⟩
   have hC:x.into=0∨x.op=6:=by omega
   have hD:x.op=21∨x.jumps.length=0:=by omega
   have hR:=(Sf om Zh).symm
   have hI:VL im p k x=W5 im p k x:=by rw [VL,hR,decide_eq_true ⟨hA,hB,hC,hD⟩];rfl
   refine ak (Xk (V0 [0] (ab 2 (ar (YD (x.op==0) Zf (fun Yg=>?_) (fun Yg=>?_))))))
   ·refine ar (X2 7 [] [(83,.b (((x.args.length:Int)==0)&&(decide ((-999)<=x.num/\x.num<=999))))] (fun gz=>gz) ?_ (fun hj3=>?_))
    ·exact Zm (ZW (.b (((x.args.length:Int)==0)&&(decide ((-999)<=x.num/\x.num<=999)))) (lb (by rw [hI];unfold W5;(repeat (first|rw [Zk om]|rw [Zb om]));all_goals (first|rfl|(rw [Yc];simp;done)|(rw [Yc];simp;omega)|(cases Wr (k:Int) p.code.length x.jumps<;>(rw [Yc];simp<;>omega))))))
    refine Z0 3 (ib (b:=((x.args.length:Int)==0)) 79 (fun Yf=>?_) (fun Yf=>?_))
    ·have Xe:(x.args.length:Int)=0:=(Zf).1 Yf
     exact ZA 2 [0] (Zv [] (Vo x.num (-999) 999) (Z0 1 (Y1 (Zt 3 (Zl (decide ((-999)<=x.num/\x.num<=999)) Yf fl)) hj3)))
    have XP:¬((x.args.length:Int)=0):=Y4 Zf Yf
    exact Z0 4 (Y1 (Zt 3 (Zl false Yf fl)) hj3)
   refine Y8 (XC (fun fz gz F h=>F=sF [2,3,4,7,8,74] fz [(84,.b ((x.op==1)||((x.op==2)||((x.op==3)||((x.op==4)||(x.op==11))))))]/\h=gz) ?_ ?_)
   ·refine ac (x.op==1) Zf (fun YL=>?_) (fun YL=>?_)
    ·exact ak (ZI ⟨rfl,rfl⟩ (Zt 3 (fc (x:=.b (x.op==1)) (lb (by first|rfl|(rw [Zk YL])|(rw [Zb YL])|(simp [YL];done)|(rw [Yc];simp [YL];done)|omega)) fl)))
    refine ar (YD (x.op==2) Zf (fun X3=>?_) (fun X3=>?_))
    ·exact ak (ZI ⟨rfl,rfl⟩ (Zt 3 (fc (x:=.b (x.op==2)) (lb (by first|rfl|(rw [Zk YL])|(rw [Zb YL])|(simp [YL,X3];done)|(rw [Yc];simp [YL,X3];done)|omega)) fl)))
    refine ar (YD (x.op==3) Zf (fun Wz=>?_) (fun Wz=>?_))
    ·exact ak (ZI ⟨rfl,rfl⟩ (Zt 3 (fc (x:=.b (x.op==3)) (lb (by first|rfl|(rw [Zk YL])|(rw [Zb YL])|(simp [YL,X3,Wz];done)|(rw [Yc];simp [YL,X3,Wz];done)|omega)) fl)))
    refine ar (YD (x.op==4) Zf (fun VK=>?_) (fun VK=>?_))
    ·exact ak (ZI ⟨rfl,rfl⟩ (Zt 3 (fc (x:=.b (x.op==4)) (lb (by first|rfl|(rw [Zk YL])|(rw [Zb YL])|(simp [YL,X3,Wz,VK];done)|(rw [Yc];simp [YL,X3,Wz,VK];done)|omega)) fl)))
    exact VC (ZI ⟨rfl,rfl⟩ (Zt 3 (fc (x:=.b (x.op==11)) (lb (by first|rfl|(rw [Zk YL])|(rw [Zb YL])|(simp [YL,X3,Wz,VK];done)|(rw [Yc];simp [YL,X3,Wz,VK];done)|omega)) fl)))
   rintro F h ⟨rfl,rfl⟩
   refine ac ((x.op==1)||((x.op==2)||((x.op==3)||((x.op==4)||(x.op==11))))) (p:=(x.op=1)∨((x.op=2)∨((x.op=3)∨((x.op=4)∨(x.op=11))))) (ZO Zf (ZO Zf (ZO Zf (ZO Zf Zf)))) (fun Ve=>?_) (fun Ve=>?_)
   ·refine ar (X2 7 [] [(96,.b (((x.args.length:Int)==2)&&(x.num==0)))] (fun gz=>gz) ?_ (fun hj4=>?_))
    ·exact Zm (ZW (.b (((x.args.length:Int)==2)&&(x.num==0))) (lb (by rw [hI];unfold W5;(repeat (first|rw [Zk om]|rw [Zb om]));all_goals (first|rfl|(rw [Yc];simp;done)|(rw [Yc];simp;omega)|(cases Wr (k:Int) p.code.length x.jumps<;>(rw [Yc];simp<;>omega))))))
    refine Z0 3 (ib (b:=((x.args.length:Int)==2)) 92 (fun YR=>?_) (fun YR=>?_))
    ·have Wf:(x.args.length:Int)=2:=(Zf).1 YR
     exact ZA 4 [0] (Y1 (Zt 3 (Zl (x.num==0) YR fl)) hj4)
    have WL:¬((x.args.length:Int)=2):=Y4 Zf YR
    exact Z0 4 (Y1 (Zt 3 (Zl false YR fl)) hj4)
   refine Y8 (XC (fun fz gz F h=>F=sF [2,3,4,7,8,74] fz [(97,.b ((x.op==5)||((x.op==14)||((x.op==15)||((x.op==18)||(x.op==23))))))]/\h=gz) ?_ ?_)
   ·refine ac (x.op==5) Zf (fun Vv=>?_) (fun Vv=>?_)
    ·exact ak (ZI ⟨rfl,rfl⟩ (Zt 3 (fc (x:=.b (x.op==5)) (lb (by first|rfl|(rw [Zk Vv])|(rw [Zb Vv])|(simp [Vv];done)|(rw [Yc];simp [Vv];done)|omega)) fl)))
    refine ar (YD (x.op==14) Zf (fun Tx=>?_) (fun Tx=>?_))
    ·exact ak (ZI ⟨rfl,rfl⟩ (Zt 3 (fc (x:=.b (x.op==14)) (lb (by first|rfl|(rw [Zk Vv])|(rw [Zb Vv])|(simp [Vv,Tx];done)|(rw [Yc];simp [Vv,Tx];done)|omega)) fl)))
    refine ar (YD (x.op==15) Zf (fun Vw=>?_) (fun Vw=>?_))
    ·exact ak (ZI ⟨rfl,rfl⟩ (Zt 3 (fc (x:=.b (x.op==15)) (lb (by first|rfl|(rw [Zk Vv])|(rw [Zb Vv])|(simp [Vv,Tx,Vw];done)|(rw [Yc];simp [Vv,Tx,Vw];done)|omega)) fl)))
    refine ar (YD (x.op==18) Zf (fun TY=>?_) (fun TY=>?_))
    ·exact ak (ZI ⟨rfl,rfl⟩ (Zt 3 (fc (x:=.b (x.op==18)) (lb (by first|rfl|(rw [Zk Vv])|(rw [Zb Vv])|(simp [Vv,Tx,Vw,TY];done)|(rw [Yc];simp [Vv,Tx,Vw,TY];done)|omega)) fl)))
    exact VC (ZI ⟨rfl,rfl⟩ (Zt 3 (fc (x:=.b (x.op==23)) (lb (by first|rfl|(rw [Zk Vv])|(rw [Zb Vv])|(simp [Vv,Tx,Vw,TY];done)|(rw [Yc];simp [Vv,Tx,Vw,TY];done)|omega)) fl)))
   rintro F h ⟨rfl,rfl⟩
   refine ac ((x.op==5)||((x.op==14)||((x.op==15)||((x.op==18)||(x.op==23))))) (p:=(x.op=5)∨((x.op=14)∨((x.op=15)∨((x.op=18)∨(x.op=23))))) (ZO Zf (ZO Zf (ZO Zf (ZO Zf Zf)))) (fun CM=>?_) (fun CM=>?_)
   ·refine ar (X2 7 [] [(109,.b (((x.args.length:Int)==1)&&(x.num==0)))] (fun gz=>gz) ?_ (fun hj5=>?_))
    ·exact Zm (ZW (.b (((x.args.length:Int)==1)&&(x.num==0))) (lb (by rw [hI];unfold W5;(repeat (first|rw [Zk om]|rw [Zb om]));all_goals (first|rfl|(rw [Yc];simp;done)|(rw [Yc];simp;omega)|(cases Wr (k:Int) p.code.length x.jumps<;>(rw [Yc];simp<;>omega))))))
    refine Z0 3 (ib (b:=((x.args.length:Int)==1)) 105 (fun Xt=>?_) (fun Xt=>?_))
    ·have Vf:(x.args.length:Int)=1:=(Zf).1 Xt
     exact ZA 4 [0] (Y1 (Zt 3 (Zl (x.num==0) Xt fl)) hj5)
    have UD:¬((x.args.length:Int)=1):=Y4 Zf Xt
    exact Z0 4 (Y1 (Zt 3 (Zl false Xt fl)) hj5)
   refine ar (YD (x.op==6) Zf (fun EN=>?_) (fun EN=>?_))
   ·refine Zs 4 [2,0] (Zv [] (HV im.decls x.num) (X2 16 [4,7] [(127,.b ((decide ((Wj im.decls x.num)>0))&&((x.args.length:Int)==(((ZP im.decls x.num).length:Nat):Int))))] (fun gz=>gz) ?_ (fun hj6=>?_)))
    ·refine X2 23 [] [(134,.b (((decide ((Wj im.decls x.num)>0))&&((x.args.length:Int)==(((ZP im.decls x.num).length:Nat):Int)))&&(decide (0<=x.into/\x.into<=p.regs))))] (fun gz=>gz) ?_ (fun hj7=>?_)
     ·exact Zm (ZW (.b (((decide ((Wj im.decls x.num)>0))&&((x.args.length:Int)==(((ZP im.decls x.num).length:Nat):Int)))&&(decide (0<=x.into/\x.into<=p.regs)))) (lb (by rw [hI];unfold W5;(repeat (first|rw [Zk om]|rw [Zb om]));all_goals (first|rfl|(rw [Yc];simp;done)|(rw [Yc];simp;omega)|(cases Wr (k:Int) p.code.length x.jumps<;>(rw [Yc];simp<;>omega))))))
     refine Z0 1 (ib (b:=((decide ((Wj im.decls x.num)>0))&&((x.args.length:Int)==(((ZP im.decls x.num).length:Nat):Int)))) 128 (fun Wq=>?_) (fun Wq=>?_))
     ·have Ty:((Wj im.decls x.num)>0)/\((x.args.length:Int)=(((ZP im.decls x.num).length:Nat):Int)):=((Ys dq Zf)).1 Wq
      exact ZA 4 [0,1] (Zv [] (Vo x.into 0 p.regs) (Z0 1 (Y1 (Zt 3 (Zl (decide (0<=x.into/\x.into<=p.regs)) Wq fl)) hj7)))
     have Tk:¬(((Wj im.decls x.num)>0)/\((x.args.length:Int)=(((ZP im.decls x.num).length:Nat):Int))):=Y4 (Ys dq Zf) Wq
     exact Z0 6 (Y1 (Zt 3 (Zl false Wq fl)) hj7)
    refine Z0 2 (ib (b:=(decide ((Wj im.decls x.num)>0))) 118 (fun WK=>?_) (fun WK=>?_))
    ·have K7:(Wj im.decls x.num)>0:=(dq).1 WK
     exact ZA 5 [2,0] (Zv [] (Qr im.decls x.num) (io (.i (((ZP im.decls x.num).length:Nat):Int)) (.i (((Z6 (ZP im.decls x.num)).length:Nat):Int)) (li (by rw [Yi])) (Z0 2 (Y1 (Zt 3 (Zl ((x.args.length:Int)==(((ZP im.decls x.num).length:Nat):Int)) WK fl)) hj6))))
    have Ql:¬((Wj im.decls x.num)>0):=Y4 dq WK
    exact Z0 9 (Y1 (Zt 3 (Zl false WK fl)) hj6)
   refine Y8 (XC (fun fz gz F h=>F=sF [2,3,4,7,8,74] fz [(135,.b ((x.op==9)||(x.op==24)))]/\h=gz) ?_ ?_)
   ·refine ac (x.op==9) Zf (fun Ky=>?_) (fun Ky=>?_)
    ·exact ak (ZI ⟨rfl,rfl⟩ (Zt 3 (fc (x:=.b (x.op==9)) (lb (by first|rfl|(rw [Zk Ky])|(rw [Zb Ky])|(simp [Ky];done)|(rw [Yc];simp [Ky];done)|omega)) fl)))
    exact VC (ZI ⟨rfl,rfl⟩ (Zt 3 (fc (x:=.b (x.op==24)) (lb (by first|rfl|(rw [Zk Ky])|(rw [Zb Ky])|(simp [Ky];done)|(rw [Yc];simp [Ky];done)|omega)) fl)))
   rintro F h ⟨rfl,rfl⟩
   refine ac ((x.op==9)||(x.op==24)) (p:=(x.op=9)∨(x.op=24)) (ZO Zf Zf) (fun Kz=>?_) (fun Kz=>?_)
   ·exact Zs 4 [2,0] (Zv [] (Z0m im x.num x.args.length 0 (hps:=ob)) (Zm (ZW (.b (Up im x.num x.args.length 0)) (lb (by rw [hI];unfold W5;(repeat (first|rw [Zk om]|rw [Zb om]));all_goals (first|rfl|(rw [Yc];simp;done)|(rw [Yc];simp;omega)|(cases Wr (k:Int) p.code.length x.jumps<;>(rw [Yc];simp<;>omega))))))))
   refine ar (YD (x.op==10) Zf (fun LD=>?_) (fun LD=>?_))
   ·refine Zs 4 [2,0] (Zv [] (Z0m im x.num x.args.length 1 (hps:=ob)) (Z0 1 (ib (b:=(Up im x.num x.args.length 1)) 150 (fun Vu=>?_) (fun Vu=>?_))))
    ·have JC:(Up im x.num x.args.length 1)=true:=(Iff.rfl).1 Vu
     refine ZA 4 [2,0] ?_
     obtain ⟨x2,Zw⟩:=Zu im.procs x.num.toNat (by have h:=(Fl.1 (show Up im x.num x.args.length 1=true by assumption)).1;omega)
     have hw:=Hy (n:=x.args.length) (more:=1) Zw (by have h:=(Fl.1 (show Up im x.num x.args.length 1=true by assumption)).1;omega)
     exact Zq (Eg (es:=We im.procs) (hv:=none) (j:=x.num) (sz:=5) (y:=Co x2) kr (by have h:=(Fl.1 (show Up im x.num x.args.length 1=true by assumption)).1;omega) (Qc Zw) rfl) (Z0 2 (iw (Yi x2.lent) (Zm (ZW (.b ((x2.lent.length:Int)==0)) (lb (by rw [hI];unfold W5;(repeat (first|rw [Zk om]|rw [Zb om]));rw [hw.2,show Up im x.num x.args.length 1=true by assumption,Yc];simp))))))
    have JD:¬((Up im x.num x.args.length 1)=true):=Y4 Iff.rfl Vu
    exact Zm (ZW (.b false) (lb (by rw [hI];unfold W5;(repeat (first|rw [Zk om]|rw [Zb om]));rw [Qu.2 (show ¬Up im x.num x.args.length 1=true by assumption)];rfl)))
   refine Y8 (XC (fun fz gz F h=>F=sF [2,3,4,7,8,74] fz [(161,.b ((x.op==16)||(x.op==17)))]/\h=gz) ?_ ?_)
   ·refine ac (x.op==16) Zf (fun JA=>?_) (fun JA=>?_)
    ·exact ak (ZI ⟨rfl,rfl⟩ (Zt 3 (fc (x:=.b (x.op==16)) (lb (by first|rfl|(rw [Zk JA])|(rw [Zb JA])|(simp [JA];done)|(rw [Yc];simp [JA];done)|omega)) fl)))
    exact VC (ZI ⟨rfl,rfl⟩ (Zt 3 (fc (x:=.b (x.op==17)) (lb (by first|rfl|(rw [Zk JA])|(rw [Zb JA])|(simp [JA];done)|(rw [Yc];simp [JA];done)|omega)) fl)))
   rintro F h ⟨rfl,rfl⟩
   refine ac ((x.op==16)||(x.op==17)) (p:=(x.op=16)∨(x.op=17)) (ZO Zf Zf) (fun LE=>?_) (fun LE=>?_)
   ·refine Yj 1 (Zv [] (Vo (x.args.length:Int) 1 4) (X2 7 [] [(170,.b ((decide (1<=(x.args.length:Int)/\(x.args.length:Int)<=4))&&(x.num==0)))] (fun gz=>gz) ?_ (fun hj8=>?_)))
    ·exact Zm (ZW (.b ((decide (1<=(x.args.length:Int)/\(x.args.length:Int)<=4))&&(x.num==0))) (lb (by rw [hI];unfold W5;(repeat (first|rw [Zk om]|rw [Zb om]));all_goals (first|rfl|(rw [Yc];simp;done)|(rw [Yc];simp;omega)|(cases Wr (k:Int) p.code.length x.jumps<;>(rw [Yc];simp<;>omega))))))
    refine Z0 1 (ib (b:=(decide (1<=(x.args.length:Int)/\(x.args.length:Int)<=4))) 166 (fun Vd=>?_) (fun Vd=>?_))
    ·have CQ:1<=(x.args.length:Int)/\(x.args.length:Int)<=4:=(dq).1 Vd
     exact ZA 4 [0] (Y1 (Zt 3 (Zl (x.num==0) Vd fl)) hj8)
    have B6:¬(1<=(x.args.length:Int)/\(x.args.length:Int)<=4):=Y4 dq Vd
    exact Z0 4 (Y1 (Zt 3 (Zl false Vd fl)) hj8)
   refine ar (YD (x.op==19) Zf (fun GK=>?_) (fun GK=>?_))
   ·refine ar (X2 7 [] [(179,.b (((x.args.length:Int)==1)&&(decide (0<=x.num/\x.num<=2))))] (fun gz=>gz) ?_ (fun hj9=>?_))
    ·exact Zm (ZW (.b (((x.args.length:Int)==1)&&(decide (0<=x.num/\x.num<=2)))) (lb (by rw [hI];unfold W5;(repeat (first|rw [Zk om]|rw [Zb om]));all_goals (first|rfl|(rw [Yc];simp;done)|(rw [Yc];simp;omega)|(cases Wr (k:Int) p.code.length x.jumps<;>(rw [Yc];simp<;>omega))))))
    refine Z0 3 (ib (b:=((x.args.length:Int)==1)) 175 (fun UO=>?_) (fun UO=>?_))
    ·have LH:(x.args.length:Int)=1:=(Zf).1 UO
     exact ZA 2 [0] (Zv [] (Vo x.num 0 2) (Z0 1 (Y1 (Zt 3 (Zl (decide (0<=x.num/\x.num<=2)) UO fl)) hj9)))
    have LJ:¬((x.args.length:Int)=1):=Y4 Zf UO
    exact Z0 4 (Y1 (Zt 3 (Zl false UO fl)) hj9)
   refine ar (YD (x.op==20) Zf (fun Tj=>?_) (fun Tj=>?_))
   ·refine ar (X2 13 [] [(194,.b (((x.args.length:Int)==1)&&(decide (((k+1:Nat):Int)<=x.num/\x.num<=((p.code.length:Int)-1)))))] (fun gz=>gz) ?_ (fun hj10=>?_))
    ·exact Zm (ZW (.b (((x.args.length:Int)==1)&&(decide (((k+1:Nat):Int)<=x.num/\x.num<=((p.code.length:Int)-1))))) (lb (by rw [hI];unfold W5;(repeat (first|rw [Zk om]|rw [Zb om]));all_goals (first|rfl|(rw [Yc];simp;done)|(rw [Yc];simp;omega)|(cases Wr (k:Int) p.code.length x.jumps<;>(rw [Yc];simp<;>omega))))))
    refine Z0 3 (ib (b:=((x.args.length:Int)==1)) 184 (fun QC=>?_) (fun QC=>?_))
    ·have GV:(x.args.length:Int)=1:=(Zf).1 QC
     exact ZA 3 [0] (ZE k (ZA 2 [1] (iw (Tw p.code) (ia (((p.code.length:Int)-1)) (((p.code.length:Int))-(1)) (Zv [] (Vo x.num ((k+1:Nat):Int) ((p.code.length:Int)-1)) (Z0 1 (Y1 (Zt 3 (Zl (decide (((k+1:Nat):Int)<=x.num/\x.num<=((p.code.length:Int)-1))) QC fl)) hj10)))))))
    have Pm:¬((x.args.length:Int)=1):=Y4 Zf QC
    exact Z0 10 (Y1 (Zt 3 (Zl false QC fl)) hj10)
   refine ar (YD (x.op==22) Zf (fun JB=>?_) (fun JB=>?_))
   ·refine ar (X2 13 [] [(209,.b (((x.args.length:Int)==0)&&(decide (((k+1:Nat):Int)<=x.num/\x.num<=((p.code.length:Int)-1)))))] (fun gz=>gz) ?_ (fun hj11=>?_))
    ·exact Zm (ZW (.b (((x.args.length:Int)==0)&&(decide (((k+1:Nat):Int)<=x.num/\x.num<=((p.code.length:Int)-1))))) (lb (by rw [hI];unfold W5;(repeat (first|rw [Zk om]|rw [Zb om]));all_goals (first|rfl|(rw [Yc];simp;done)|(rw [Yc];simp;omega)|(cases Wr (k:Int) p.code.length x.jumps<;>(rw [Yc];simp<;>omega))))))
    refine Z0 3 (ib (b:=((x.args.length:Int)==0)) 199 (fun QD=>?_) (fun QD=>?_))
    ·have Pn:(x.args.length:Int)=0:=(Zf).1 QD
     exact ZA 3 [0] (ZE k (ZA 2 [1] (iw (Tw p.code) (ia (((p.code.length:Int)-1)) (((p.code.length:Int))-(1)) (Zv [] (Vo x.num ((k+1:Nat):Int) ((p.code.length:Int)-1)) (Z0 1 (Y1 (Zt 3 (Zl (decide (((k+1:Nat):Int)<=x.num/\x.num<=((p.code.length:Int)-1))) QD fl)) hj11)))))))
    have Po:¬((x.args.length:Int)=0):=Y4 Zf QD
    exact Z0 10 (Y1 (Zt 3 (Zl false QD fl)) hj11)
   refine ar (YD (x.op==21) Zf (fun CN=>?_) (fun CN=>?_))
   ·refine Zs 4 [2,0] (ic [] (Jf im.decls x.num) ?_)
    rintro _ _ ⟨v1,rfl,rfl⟩
    refine io (.i (((Y0 im.decls x.num).length:Nat):Int)) (.i (((Z6 (Y0 im.decls x.num)).length:Nat):Int)) (li (by rw [Yi])) (Z2 (ar (X2 6 [2,4,7,10] [(223,.b (((x.args.length:Int)==1)&&(decide ((((Y0 im.decls x.num).length:Nat):Int)>0))))] (fun gz=>gz) ?_ (fun hj12=>?_))))
    ·refine X2 16 [] [(233,.b ((((x.args.length:Int)==1)&&(decide ((((Y0 im.decls x.num).length:Nat):Int)>0)))&&(decide (x.jumps.length=((Y0 im.decls x.num).length))&&Wr k p.code.length x.jumps)))] (fun gz=>gz) ?_ (fun hj13=>?_)
     ·exact Zm (ZW (.b ((((x.args.length:Int)==1)&&(decide ((((Y0 im.decls x.num).length:Nat):Int)>0)))&&(decide (x.jumps.length=((Y0 im.decls x.num).length))&&Wr k p.code.length x.jumps))) (lb (by rw [hI];unfold W5;(repeat (first|rw [Zk om]|rw [Zb om]));all_goals (first|rfl|(rw [Yc];simp;done)|(rw [Yc];simp;omega)|(cases Wr (k:Int) p.code.length x.jumps<;>(rw [Yc];simp<;>omega))))))
     refine Z0 1 (ib (b:=(((x.args.length:Int)==1)&&(decide ((((Y0 im.decls x.num).length:Nat):Int)>0)))) 224 (fun Jx=>?_) (fun Jx=>?_))
     ·have Pp:((x.args.length:Int)=1)/\((((Y0 im.decls x.num).length:Nat):Int)>0):=((Ys Zf dq)).1 Jx
      exact ZA 6 [1,2] (iw (Tw p.code) (Zv [] (Zge x.jumps ((Y0 im.decls x.num).length) k p.code.length) (Z0 1 (Y1 (Zt 4 (Zl (decide (x.jumps.length=((Y0 im.decls x.num).length))&&Wr k p.code.length x.jumps) Jx fl)) hj13))))
     have Pq:¬(((x.args.length:Int)=1)/\((((Y0 im.decls x.num).length:Nat):Int)>0)):=Y4 (Ys Zf dq) Jx
     exact Z0 9 (Y1 (Zt 4 (Zl false Jx fl)) hj13)
    refine Z0 3 (ib (b:=((x.args.length:Int)==1)) 220 (fun Jy=>?_) (fun Jy=>?_))
    ·have Pr:(x.args.length:Int)=1:=(Zf).1 Jy
     exact Z0 3 (Y1 (Zt 4 (Zl (decide ((((Y0 im.decls x.num).length:Nat):Int)>0)) Jy fl)) hj12)
    have Ps:¬((x.args.length:Int)=1):=Y4 Zf Jy
    exact Z0 3 (Y1 (Zt 4 (Zl false Jy fl)) hj12)
   exact ak (ar (Zm (ZW (.b false) (lb (by rw [hI];unfold W5;(repeat (first|rw [Zk om]|rw [Zb om]));all_goals (first|rfl|(rw [Yc];simp;done)|(rw [Yc];simp;omega)|(cases Wr (k:Int) p.code.length x.jumps<;>(rw [Yc];simp<;>omega))))))))
  refine Z0 1 (ib (b:=((!(decide (0<=x.dst/\x.dst<=(p.regs-1))))||((x.dst != 0)&&(!(TC x.op))))) 52 (fun J4=>?_) (fun J4=>?_))
  ·have Pt:(¬(0<=x.dst/\x.dst<=(p.regs-1)))∨((x.dst≠0)/\(¬((TC x.op)=true))):=((ZO (Yd dq) (Ys Ym (Yd Iff.rfl)))).1 J4
   exact Z0 9 (Y1 (Zt 3 (Zl true J4 fl)) hj2)
  have GW:¬((¬(0<=x.dst/\x.dst<=(p.regs-1)))∨((x.dst≠0)/\(¬((TC x.op)=true)))):=Y4 (ZO (Yd dq) (Ys Ym (Yd Iff.rfl))) J4
  refine ZA 4 [0] (ib (b:=(x.into != 0)) 56 (fun Jz=>?_) (fun Jz=>?_))
  ·have GX:x.into≠0:=(Ym).1 Jz
   exact ZA 5 [0] (Y1 (Zt 3 (Zl (x.op != 6) (And.intro J4 Jz) fl)) hj2)
  have LK:¬(x.into≠0):=Y4 Ym Jz
  exact Z0 5 (Y1 (Zt 3 (Zl false (And.intro J4 Jz) fl)) hj2)
 refine Z0 2 (ib (b:=(!(decide (0<=x.dst/\x.dst<=(p.regs-1))))) 41 (fun DK=>?_) (fun DK=>?_))
 ·have LL:¬(0<=x.dst/\x.dst<=(p.regs-1)):=((Yd dq)).1 DK
  exact Z0 10 (Y1 (Zt 3 (Zl true DK fl)) hj1)
 have Zim:¬(¬(0<=x.dst/\x.dst<=(p.regs-1))):=Y4 (Yd dq) DK
 refine ZA 4 [0] (ib (b:=(x.dst != 0)) 45 (fun EM=>?_) (fun EM=>?_))
 ·have Zin:x.dst≠0:=(Ym).1 EM
  exact ZA 2 [0] (Zv [] (Z0o x.op) (Z0 3 (Y1 (Zt 3 (Zl (!(TC x.op)) (And.intro DK EM) fl)) hj1)))
 have Zio:¬(x.dst≠0):=Y4 Ym EM
 exact Z0 6 (Y1 (Zt 3 (Zl false (And.intro DK EM) fl)) hj1)
theorem Zgh (im:Yv) (p:ZX) (lz:Nat) (hd:Xq im.decls:=by exact ob) (hpl:im.procs.length<=4:=by exact ob) (hps:∀p∈im.procs,p.params.length<=3) (hz:PZ lz p:=by exact ob) (hlz:lz<=100:=by exact ob):Zp 69 [V5 im,Co p] [] (Yz (.b (Tm im p))):=by
 have hz1:=hz.params
 have hz2:=hz.lent
 have hz3:=hz.regs
 have hz4:=hz.len
 refine ZG 59 Tryz.func69 (ar (iA (WA im) fun b1=>iA (UE p) fun b2=>Z2 (Zs 2 [0] (iw (Tw p.code) (Z2 (Yp 4 [0,0] (Zv [] (Z0t p.params p.lent) (X2 16 [2,3,5] [(25,.b ((!Uz p.params p.lent)||(!(decide ((max 1 (p.params.length:Int))<=p.regs/\p.regs<=2000)))))] (fun gz=>gz) ?_ (fun hj1=>?_)))))))))
 ·refine Xu [2,3,5] [(30,.b (((!Uz p.params p.lent)||(!(decide ((max 1 (p.params.length:Int))<=p.regs/\p.regs<=2000))))||(!(decide (1<=(p.code.length:Int)/\(p.code.length:Int)<=2000)))))] (fun gz=>gz) ?_ ?_
  ·refine Z0 1 (ib (b:=((!Uz p.params p.lent)||(!(decide ((max 1 (p.params.length:Int))<=p.regs/\p.regs<=2000))))) 26 (fun Zc=>?_) (fun Zc=>?_))
   ·have Y9:(¬(Uz p.params p.lent=true))∨(¬((max 1 (p.params.length:Int))<=p.regs/\p.regs<=2000)):=((ZO (Yd Iff.rfl) (Yd dq))).1 Zc
    exact Z2 (wk [0,0] (Zl true Zc fl))
   have Yt:¬((¬(Uz p.params p.lent=true))∨(¬((max 1 (p.params.length:Int))<=p.regs/\p.regs<=2000))):=Y4 (ZO (Yd Iff.rfl) (Yd dq)) Zc
   exact Z0 1 (Zv [] (Vo (p.code.length:Int) 1 2000) (Z2 (wk [0,0] (Zl (!(decide (1<=(p.code.length:Int)/\(p.code.length:Int)<=2000))) Zc fl))))
  refine ac (((!Uz p.params p.lent)||(!(decide ((max 1 (p.params.length:Int))<=p.regs/\p.regs<=2000))))||(!(decide (1<=(p.code.length:Int)/\(p.code.length:Int)<=2000)))) (p:=((¬(Uz p.params p.lent=true))∨(¬((max 1 (p.params.length:Int))<=p.regs/\p.regs<=2000)))∨(¬(1<=(p.code.length:Int)/\(p.code.length:Int)<=2000))) (ZO (ZO (Yd Iff.rfl) (Yd dq)) (Yd dq)) (fun Za=>?_) (fun Za=>?_)
  ·exact ar (Zm (ZW (.b false) (lb (by rw [Tm];rcases Za with (q|q)|q<;>first|(rw [Qu.2 q];rfl)|(rw [decide_eq_false (fun z=>by omega)];simp)))))
  simp only [not_or,VX] at Za
  obtain ⟨⟨hV,hR1⟩,hC1⟩:=Za
  have hRC:(1<=p.regs/\(p.params.length:Int)<=p.regs/\p.regs<=2000)/\1<=p.code.length/\p.code.length<=2000:=by omega
  refine ak (Y8 (ab 0 (Y6 (fun fz gz m F h=>∃(j:Nat),(j<=p.code.length)/\(TM im p (p.code.drop j) j=TM im p p.code 0)/\F=sF [2,3,5] fz [(6,.i j)]/\h=gz/\m=p.code.length-j) _ _ _ ⟨0,ob,rfl,rfl,rfl,rfl⟩ (wk [0,0] (Ye fl)) ?_)))
  rintro m F h ⟨j,Yk,Zh,rfl,rfl,rfl⟩
  refine Xk (Y2 ((j:Int)<(p.code.length:Int)) (fun Zj=>?_) (fun Zj=>?_))
  ·obtain ⟨x1,Z3⟩:=Zu p.code j om
   have hxz:=hz.code _ (Y7 Z3)
   have hxl:=hxz.l
   refine ak (aq (ab 1 (Zs 3 [1,0] (Zv [] (Zgc im p j x1 (hps:=hps) (hx:=Z3) (hxl:=om) (hrg:=om)) (YD (!(VL im p j x1)) (p:=¬((VL im p j x1)=true)) (Yd Iff.rfl) (fun Zz=>?_) (fun Zz=>?_))))))
   ·exact ar (Zm (ZW (.b false) (lb (by rw [Tm,<-PJ Z3 (Qu.2 (by assumption)) Zh];simp))))
   exact ak (az (Z0 1 (ZE j (Z2 (ZH ⟨j+1,ob,(PL Z3 (VX.1 Zz) Zh),rfl,rfl,rfl⟩ (wk [0,0] (ZJ j fl)))))))
  have hIs:=PK om Zh
  refine ax 0 (Zs 3 [0] (ia ((((p.code.length-1):Nat):Int)) (((p.code.length:Int))-(1)) ?_))
  obtain ⟨x1,Z3⟩:=Zu p.code (p.code.length-1) om
  refine Zq (Zi none (((p.code.length-1):Nat):Int) 6 (QZ Z3)) (X2 18 [] [(58,.b ((x1.op==23)||(x1.op==24)))] (fun gz=>gz) ?_ (fun hj2=>?_))
  ·exact Zm (ZW (.b ((x1.op==23)||(x1.op==24))) (lb (by rw [Tm,<-hIs,hV,decide_eq_true hRC,Hc Z3,Yc];simp)))
  refine Z0 4 (ib (b:=(x1.op==23)) 49 (fun ZD=>?_) (fun ZD=>?_))
  ·have YS:x1.op=23:=(Zf).1 ZD
   exact Z0 9 (Y1 (wk [0,0] (Zl true ZD fl)) hj2)
  have YX:¬(x1.op=23):=Y4 Zf ZD
  exact ZA 3 [0] (ia ((((p.code.length-1):Nat):Int)) (((p.code.length:Int))-(1)) (Zq (Zi none (((p.code.length-1):Nat):Int) 6 (QZ Z3)) (Z0 4 (Y1 (wk [0,0] (Zl (x1.op==24) ZD fl)) hj2))))
 refine Z0 2 (ib (b:=(!Uz p.params p.lent)) 16 (fun Yf=>?_) (fun Yf=>?_))
 ·have Xe:¬(Uz p.params p.lent=true):=((Yd Iff.rfl)).1 Yf
  exact Z0 9 (Y1 (wk [0,0] (Zl true Yf fl)) hj1)
 have XP:¬(¬(Uz p.params p.lent=true)):=Y4 (Yd Iff.rfl) Yf
 exact ZA 4 [0,0] (iw (Yi p.params) (Zq (H7 1 (p.params.length:Int)) (Zv [] (Vo p.regs (max 1 (p.params.length:Int)) 2000) (Z0 2 (Y1 (wk [0,0] (Zl (!(decide ((max 1 (p.params.length:Int))<=p.regs/\p.regs<=2000))) Yf fl)) hj1)))))
theorem Zg0 (im:Yv) (hz:im.procs.length<=4194304:=by exact ob):Zp 68 [V5 im] [] (Yz (.agg [Y5 im.decls,.sl (WF (im.procs.map Ur)) none])):=by
 refine ZG 35 Tryz.func68 (ar (iA (WA im) fun b1=>iA [nl,nl] fun b2=>ie (Zs 2 [1] (iL (WF []) 0 5 fun v1=>Z0 1 (iA [nl,nl] fun b3=>?_)))))
 refine Zy 0 b3 [Y5 im.decls,.sl (WF []) (some v1)] (ie (Y8 (ab 0 (Y6 (fun fz gz m F h=>∃(k:Nat) (v:Value),(k<=im.procs.length)/\F=sF [1,2,3] fz [(4,.i k)]/\h=[.obj b3 [Y5 im.decls,.sl (WF ((im.procs.take k).map Ur)) (some v)],Zg gz 2,Zg gz 3,.tail v 5]/\m=im.procs.length-k) _ _ _ ⟨0,v1,ob,rfl,rfl,rfl⟩ (wk [0,1,1,0] (Ye fl)) ?_))))
 rintro m F h ⟨k,v,Yk,rfl,rfl,rfl⟩
 refine Yp 3 [2] (iw (Qd im.procs) (Y2 ((k:Int)<(im.procs.length:Int)) (fun Za=>?_) (fun Za=>?_)))
 ·refine ak (aq (ab 1 (aE 19 (ZZ 14 19 [0,1,2,3,4] [0,2] ?_))))
  obtain ⟨x1,Z3⟩:=Zu im.procs k om
  exact dx 5 (Zi none (k:Int) 5 (Qc Z3)) (ZZ 8 13 [6,7,8,9,10] [2] (dx 11 (Zi none (k:Int) 5 (Qc Z3)) (Yx 4 7 [12,13,14] [(30,.agg [Z4 x1.params,.i x1.result,.i 0,.i 0,.sl [] none])] (Z7 15 (dL 15 [0] [b3] (WF [Sg.mk x1.params x1.result]) 1 5 fun v2=>Yx 3 3 [] [(31,.sl (WF [Sg.mk x1.params x1.result]) none)] (Z7 16 (dp 16 4 [] [] (WF ((im.procs.take (k+1)).map Ur)) (WF ((im.procs.take k).map Ur)) (WF [Sg.mk x1.params x1.result]) v none 5 (Gq _) (Gq _) (Od _) (by simp<;>omega) (by rw [V2 Z3];simp [WF,Ur]) fun v3=>Zo 1 2 [17] (Z7 18 (X1 18 2 [] [] b3 [Y5 im.decls,.sl (WF ((im.procs.take (k+1)).map Ur)) (some v3)] (de (az (Z0 1 (ZE k (Z2 (ZH ⟨k+1,v3,ob,rfl,rfl,rfl⟩ (wk [0,2,2,0] (ZJ k fl)))))))))))))))))
 exact ax 0 (Zs 1 [0] (Zy 1 b2 [Y5 im.decls,.sl (WF ((im.procs.take k).map Ur)) (some v)] (ie (ZQ (r3 [] [.agg [Y5 im.decls,.sl (WF ((im.procs.take k).map Ur)) (some v)]] [0] [(b2,b2)] ⟨rfl,rfl⟩ (Ze.agg (.cons (lr _) (.cons (Ze.sl _ (Yq WF (by rw [show k=im.procs.length by omega,UA]))) .nil))))))))
theorem Zgb (im:Yv) (lz:Nat) (hz:IZ im lz:=by exact ob) (hlz:lz<=100:=by exact ob):Zp 35 [V5 im] [] (Yz (.b (Wc im))):=by
 have hil:=hz.len
 have hds:=hz.decls.sz
 refine ZG 29 Tryz.func35 (ar (iA (WA im) fun b1=>Z2 (Yp 2 [0] (iw (Qd im.procs) (Xu [1] [(13,.b ((decide ((im.procs.length:Int)>4))||(!T5 im.decls (im.procs.map Ur))))] (fun gz=>gz) ?_ ?_)))))
 ·refine Z0 2 (ib (b:=(decide ((im.procs.length:Int)>4))) 8 (fun Zc=>?_) (fun Zc=>?_))
  ·have Y9:(im.procs.length:Int)>4:=(dq).1 Zc
   exact Z2 (wk [0] (Zl true Zc fl))
  have Yt:¬((im.procs.length:Int)>4):=Y4 dq Zc
  exact ZA 1 [0] (Zv [] (Zg0 im) (Zv [] (Z0u im.decls (im.procs.map Ur) (hz:=hds) (hf:=(by intro f hf;obtain ⟨r,h1,rfl⟩:=XA.1 hf;have:=(hz.procs r h1).params;show r.params.length<=_;omega))) (Z2 (wk [0] (Zl (!T5 im.decls (im.procs.map Ur)) Zc fl)))))
 refine ac ((decide ((im.procs.length:Int)>4))||(!T5 im.decls (im.procs.map Ur))) (p:=((im.procs.length:Int)>4)∨(¬(T5 im.decls (im.procs.map Ur)=true))) (ZO dq (Yd Iff.rfl)) (fun Za=>?_) (fun Za=>?_)
 ·exact ar (Zm (ZW (.b false) (lb (by rw [Wc];rcases Za with q|q<;>first|(rw [decide_eq_false om];rfl)|(rw [Qu.2 q];simp)))))
 simp only [not_or,VX] at Za
 obtain ⟨hL,hV⟩:=Za
 have hil4:im.procs.length<=4:=by omega
 have Xn:Xq im.decls:=N2 (by simp only [T5,Xj] at hV;exact hV.1)
 have hps:∀p∈im.procs,p.params.length<=3:=fun p hp=>(hz.procs p hp).params
 refine ak (Y8 (ab 0 (Y6 (fun fz gz m F h=>∃(k:Nat),(k<=im.procs.length)/\(TB im (im.procs.drop k)=TB im im.procs)/\F=sF [1] fz [(3,.i k)]/\h=gz/\m=im.procs.length-k) _ _ _ ⟨0,ob,rfl,rfl,rfl,rfl⟩ (wk [0] (Ye fl)) ?_)))
 rintro m F h ⟨k,Yk,Zh,rfl,rfl,rfl⟩
 refine Yp 3 [0] (iw (Qd im.procs) (Y2 ((k:Int)<(im.procs.length:Int)) (fun Zj=>?_) (fun Zj=>?_)))
 ·refine ak (aq (ab 1 (aD 8 (ZZ 4 8 [0,1,2,3] [0,0] ?_))))
  obtain ⟨x1,Z3⟩:=Zu im.procs k om
  refine dx 4 (Zi none (k:Int) 5 (Qc Z3)) (Zo 2 3 [5] (Z7 6 (YE 6 [] [] [] (Zgh im x1 lz (hps:=hps) (hz:=(hz.procs _ (Y7 Z3)))) (Zo 0 1 [7] (de (ac (!(Tm im x1)) (p:=¬((Tm im x1)=true)) (Yd Iff.rfl) (fun Zz=>?_) (fun Zz=>?_)))))))
  ·exact ar (Zm (ZW (.b false) (lb (by rw [Wc,<-Hz Z3 (Qu.2 (by assumption)) Zh];simp))))
  exact ak (az (Z0 1 (ZE k (Z2 (ZH ⟨k+1,ob,(RX Z3 (VX.1 Zz) Zh),rfl,rfl,rfl⟩ (wk [0] (ZJ k fl)))))))
 exact ax 0 (ar (Zm (ZW (.b true) (lb (by rw [Wc,decide_eq_true hil4,hV,<-RW om Zh];rfl)))))
theorem Ez (xs:LI) (hl_xs:xs.length<=4294967296:=by exact ob):Zp 82 [Z4 xs] [] (fun r h=>∃(v:Value),r=ZL xs v/\h=[.tail v 1]):=by
 refine ZG 8 Tryz.func82 (Y3 (YP 1 (iN (Z6 xs) (fun hz1=>?_) ?_)))
 ·have hz1:=Z5j hz1
  exact ie (Vk (Y3 (Ip 1 (ZQ (r2 [0] [nl] ⟨(.slice none 0 0),rfl,rfl⟩ (Ze.slh _ (by first|rfl|(subst_vars;rfl))))))))
 exact ie (Vb (ak (ar (iL (Z6 []) 0 1 fun v1=>Z0 1 (ip 0 (Z6 xs) (Z6 []) (Z6 xs) v1 none 1 (YH _) (YH _) (W4 _) (by simp<;>omega) (by simp [Z6]) fun v2=>Zm (r1 [0] ⟨v2,rfl,rfl⟩))))))
theorem H2 (ds:List Zd) (t:Int) (hl_ds:ds.length<=4294967296:=by exact ob):Zp 97 [Y5 ds,.i t] [] (fun r h=>r=.b (decide (0<=t/\t<=ds.length))/\h=[]):=by
 refine ZG 13 Tryz.func97 (Y3 (ar (X2 8 [] [(12,.b ((decide (t>=0))&&(decide (t<=(ds.length:Int)))))] (fun gz=>gz) ?_ (fun hj1=>?_))))
 ·exact Zm (ZW (.b ((decide (t>=0))&&(decide (t<=(ds.length:Int))))) (lb (by rw [Yc];simp)))
 refine Z0 3 (ib (b:=(decide (t>=0))) 7 (fun Zc=>?_) (fun Zc=>?_))
 ·exact Z0 2 (iw (Ui ds) (Z0 2 (Y1 (wk [] (Zl (decide (t<=(ds.length:Int))) Zc fl)) hj1)))
 exact Z0 5 (Y1 (wk [] (Zl false Zc fl)) hj1)
theorem PC (ds:List Zd) (xs:LI) (hl_ds:ds.length<=4294967296:=by exact ob) (hl_xs:xs.length<=4294967296:=by exact ob):Zp 96 [Y5 ds,Z4 xs] [] (Yz (.b (Wn ds.length xs))):=by
 refine ZG 18 Tryz.func96 (Y3 (YP 1 (iw (Yi xs) (Z2 (ab 0 (Y6 (fun fz gz m F h=>∃(k:Nat),(k<=xs.length)/\(Wn ds.length (xs.drop k)=Wn ds.length xs)/\F=sF [0,7,8] fz [(9,.i k)]/\h=gz/\m=xs.length-k) _ _ _ ⟨0,ob,ob,rfl,rfl,rfl⟩ (wk [] (Ye fl)) ?_))))))
 rintro m F h ⟨k,Yk,Zh,rfl,rfl,rfl⟩
 refine Y3 (aq (Vh ((k:Int)<(xs.length:Int)) (fun Za=>?_) (fun Za=>?_)))
 ·refine ak (aq (ab 1 (ar ?_)))
  obtain ⟨x1,Z3⟩:=Zu xs k om
  refine Zq (Zi none (k:Int) 1 (Yb Z3)) (Z2 (Yj 2 (Zv [] (H2 ds x1) (YD (!(decide (0<=x1/\x1<=ds.length))) (p:=¬(0<=x1/\x1<=ds.length)) (Yd dq) (fun Zj=>?_) (fun Zj=>?_)))))
  ·refine Y3 ?_
   rw [Yl Z3] at Zh
   exact ZQ (ZW (.b false) (lb (by clear Z3;first|rfl|omega|grind [Wn])))
  refine ak (az (ZE k (Z2 ?_)))
  have hdr:=Yl Z3
  exact ZH ⟨k+1,ob,(by rw [hdr] at Zh;clear hdr Z3;grind [Wn]),rfl,rfl,rfl⟩ (wk [] (ZJ k fl))
 refine ax 0 (Y3 ?_)
 try rw [Xr (xs:=xs) (k:=k) om] at Zh
 exact ZQ (ZW (.b true) (lb (by first|rfl|omega|grind [Wn])))
theorem PD (ds:List Zd) (hd:Xq ds:=by exact ob):Zp 99 [Y5 ds] [] (Yz (.i (YK ds:Nat))):=by
 have hdl:=hd.len
 refine ZG 19 Tryz.func99 (Y3 (Y3 (YP 1 (iw (Ui ds) (Z2 (ab 0 (Y6 (fun fz gz m F h=>∃(k:Nat),(k<=ds.length)/\F=sF [6,7] fz [(3,.i ((YK (ds.take k):Nat):Int)),(8,.i k)]/\h=gz/\m=ds.length-k) _ _ _ ⟨0,ob,rfl,rfl,rfl⟩ (wk [] (Ye (Ye fl))) ?_)))))))
 rintro m F h ⟨k,Yk,rfl,rfl,rfl⟩
 refine Y3 (aq (Vh ((k:Int)<(ds.length:Int)) (fun Za=>?_) (fun Za=>?_)))
 ·refine ak (aq (ab 1 (ar ?_)))
  obtain ⟨x1,Z3⟩:=Zu ds k om
  refine Zq (Zi none (k:Int) 3 (WE Z3)) (Z0 1 (iA [.i 0,.i 0,nl] fun b1=>Zy 0 b1 (J8 x1) (ie (az (ZA 3 [0] (iw (Uu x1.cons) (ia (((YK (ds.take k)+x1.cons.length:Nat):Int)) ((((YK (ds.take k):Nat):Int))+((x1.cons.length:Int))) (hb:=(by have h1:=hd.cons_at Z3;have h2:=(hd.take k).sum;omega)) (Z2 (az (ZE k (Z2 ?_)))))))))))
  have hdr:=Yl Z3
  exact ZH ⟨k+1,ob,rfl,rfl,rfl⟩ (wk [] (fc (x:=.i ((YK (ds.take k)+x1.cons.length:Nat):Int)) (li (by rw [V2 Z3,Dn];simp [YK])) (ZJ k fl)))
 exact ax 0 (ar (Zm (ZW (.i ((YK (ds.take k):Nat):Int)) (li (by rw [Wh om])))))
theorem Za8 (ds:List Zd) (c:Int) (hd:Xq ds:=by exact ob) (hc:-9223372036854775808<=c/\c<=9223372036854775807:=by exact ob):Zp 127 [Y5 ds,.i c] [] (Yz (.tup [.i (Wj ds c),.agg [Z4 (ZP ds c)]])):=by
 have hdl:=hd.len
 refine ZG 38 Tryz.func127 (Yj 1 (iA [nl] fun b1=>?_))
 refine ie (YP 1 (iw (Ui ds) (Z2 (ab 0 (Y6 (fun fz gz m F h=>∃(k:Nat) (cv:Int),(k<=ds.length)/\(Bp c (YK (ds.take k)) cv)/\(UB c (ds.drop k) k (YK (ds.take k))=UB c ds 0 0)/\F=sF [5,8,9] fz [(1,.i cv),(10,.i k)]/\h=gz/\m=ds.length-k) _ _ _ ⟨0,c,ob,(.inl (by simp [YK])),rfl,rfl,rfl,rfl⟩ (wk [0] (fr (Ye fl))) ?_)))))
 rintro m F h ⟨k,cv,Yk,Zh,ZB,rfl,rfl,rfl⟩
 refine Y3 (aq (Vh ((k:Int)<(ds.length:Int)) (fun Za=>?_) (fun Za=>?_)))
 ·refine ak (aq (ab 1 (Yj 1 ?_)))
  obtain ⟨x1,Z3⟩:=Zu ds k om
  refine Zq (Zi none (k:Int) 3 (WE Z3)) (Z0 1 (iA [.i 0,.i 0,nl] fun b2=>Z0 1 (Zy 0 b2 (J8 x1) (ie (Xk (Xu [1,5,6,7,8,9,10] [(23,.b ((decide (cv>=0))&&(decide (cv<(x1.cons.length:Int)))))] (fun gz=>gz) ?_ ?_))))))
  ·refine Z0 3 (ib (b:=(decide (cv>=0))) 17 (fun Zc=>?_) (fun Zc=>?_))
   ·exact ZA 3 [0] (iw (Uu x1.cons) (Z2 (wk [0,0] (Zl (decide (cv<(x1.cons.length:Int))) Zc fl))))
   exact Z2 (wk [0,0] (Zl false Zc fl))
  refine ac ((decide (cv>=0))&&(decide (cv<(x1.cons.length:Int)))) (p:=(cv>=0)/\(cv<(x1.cons.length:Int))) (Ys dq dq) (fun Zj=>?_) (fun Zj=>?_)
  ·refine aD 9 (Zo 8 9 [0] (da 1 (((k+1:Nat):Int)) (((k:Int))+(1)) (ZZ 4 7 [2,3,4] [0] ?_)))
   obtain ⟨x2,Zw⟩:=Zu x1.cons cv.toNat om
   refine dx 5 (Zi none cv 1 (Ae Zw)) (Zo 1 3 [6,7] (Z7 8 (X1 8 1 [] [] b1 (DR x2) (de ?_))))
   have hz:=(hd.take k).sum
   have h3:=hd.cons_at Z3
   have hH:=ZB.symm.trans (Z4a Z3 Zh om h3 hc.1 Zj Zw)
   exact ZQ (r3 [] [.i (k+1:Nat),Cl x2] [0] [(b1,b1)] ⟨rfl,rfl⟩ (Ze.tup (.cons (li (by rw [Wj,hH];omega)) (.cons (Ze.agg (.cons (Ze.sl _ (Yq Z6 (by rw [ZP,hH]))) .nil)) .nil))))
  refine ak (az (ZA 3 [0] (iw (Uu x1.cons) (iW ((cv)-((x1.cons.length:Int))) (Z2 (az (ZE k (Z2 ?_))))))))
  have hdr:=Yl Z3
  exact ZH ⟨k+1,(Dd ((cv)-((x1.cons.length:Int)))),ob,(by have hz:=(hd.take k).sum;have h3:=hd.cons_at Z3;rw [V2 Z3,Dn];simpa [YK] using Z3c Zh om h3 hc),(Z48 Z3 Zh Zj ZB),rfl,rfl,rfl⟩ (wk [1] (fr (ZJ k fl)))
 refine ax 0 (Yj 2 (Zy 0 b1 [nl] (ie ?_)))
 have hH:UB c ds 0 0=(-1,[]):=by rw [<-ZB,Xr om];rfl
 exact ZQ (r3 [] [.i (-1),.agg [nl]] [0] [(b1,b1)] ⟨rfl,rfl⟩ (Ze.tup (.cons (li (by rw [Wj,hH])) (.cons (Ze.agg (.cons (Ze.sl _ (by rw [ZP,hH];rfl)) .nil)) .nil))))
theorem Zab (ds:List Zd) (c:Int) (hd:Xq ds:=by exact ob) (hc:-9223372036854775808<=c/\c<=9223372036854775807:=by exact ob):Zp 101 [Y5 ds,.i c] [] (Yz (Z4 (ZP ds c))):=by
 exact ZG 15 Tryz.func101 (Y3 (Yj 2 (Zv [] (Za8 ds c) (Z0 3 (iA [nl] fun b1=>Z0 1 (Zy 0 b1 [Z4 (ZP ds c)] (ie (Qg [0] (ZQ (I1))))))))))
theorem Za9 (ds:List Zd) (t:Int) (hd:Xq ds:=by exact ob):Zp 100 [Y5 ds,.i t] [] (Yz (Z4 (Y0 ds t))):=by
 have hdl:=hd.len
 refine ZG 39 Tryz.func100 (Y3 (Xk (Xu [0,1] [(15,.b ((decide (t<1))||(decide (t>(ds.length:Int)))))] (fun gz=>gz) ?_ ?_)))
 ·refine Z0 3 (ib (b:=(decide (t<1))) 10 (fun Zc=>?_) (fun Zc=>?_))
  ·exact Z2 (wk [] (Zl true Zc fl))
  exact Z0 2 (iw (Ui ds) (Z2 (wk [] (Zl (decide (t>(ds.length:Int))) Zc fl))))
 refine ac ((decide (t<1))||(decide (t>(ds.length:Int)))) (p:=(t<1)∨(t>(ds.length:Int))) (ZO dq dq) (fun Za=>?_) (fun Za=>?_)
 ·exact ar (Zm (ZW (nl) (Ze.sl _ (by rw [Y0,Zb om];rfl))))
 have hti:1<=t/\t<=ds.length:=by omega
 obtain ⟨d,hd1⟩:=Zu ds ((t-1).toNat) om
 have hdc:=hd.cons_at hd1
 have hsm:=(hd.take (t-1).toNat).sum
 refine ak (Yj 2 (ia ((((t-1).toNat:Nat):Int)) ((t)-(1)) (Zq (Bh (es:=Yy ds) (hv:=none) (l:=0) (m:=(((t-1).toNat:Nat):Int)) (sz:=3) (es':=Yy (ds.take ((t-1).toNat))) kr om (by simp<;>omega) (by simp<;>omega) (Qz _) (by first|(simp only [TF,UA,Dt,Ds];done)|(simp only [TF,UA,Dt,Ds];rfl)|(simp [Dt,Ds];done))) (Zv [] (PD (ds.take ((t-1).toNat)) (hd:=(hd.take _))) (Z2 (Y3 (YP 2 (ia ((((t-1).toNat:Nat):Int)) ((t)-(1)) (Zq (Zi none (((t-1).toNat:Nat):Int) 3 (WE hd1)) (Z0 2 (iw (Uu d.cons) (Z2 (ab 0 (Ip 1 (Y6 (fun fz gz m F h=>∃(k:Nat) (v:Value),(k<=d.cons.length)/\F=sF [5,27] fz [(6,ZL (U2 (YK (ds.take (t-1).toNat)) k) v),(28,.i k)]/\h=[.tail v 1]/\m=d.cons.length-k) _ _ _ ⟨0,(.slice none 0 0),ob,rfl,rfl,rfl⟩ (wk [0] (fc (x:=nl) (Ze.slh _ rfl) (Ye fl))) ?_)))))))))))))))
 rintro m F h ⟨k,v,Yk,rfl,rfl,rfl⟩
 refine Y3 (aq (Vh ((k:Int)<(d.cons.length:Int)) (fun Zj=>?_) (fun Zj=>?_)))
 ·exact ak (aq (ab 1 (Y3 (az (Z0 3 (ia ((((YK (ds.take ((t-1).toNat)))+k:Nat):Int)) ((((YK (ds.take ((t-1).toNat)):Nat):Int))+((k:Int))) (iL (Z6 [(((YK (ds.take ((t-1).toNat)))+k:Nat):Int)]) 1 1 fun v1=>ZY 0 [(35,Z4 [(((YK (ds.take ((t-1).toNat)))+k:Nat):Int)])] (ip 1 (Z6 (U2 (YK (ds.take (t-1).toNat)) k++[(((YK (ds.take ((t-1).toNat)))+k:Nat):Int)])) (Z6 (U2 (YK (ds.take (t-1).toNat)) k)) (Z6 [(((YK (ds.take ((t-1).toNat)))+k:Nat):Int)]) v none 1 (YH _) (YH _) (W4 _) (by simp;omega) (by simp [Wa,Z6]) fun v2=>Z2 (az (ZE k (Z2 (ZH ⟨k+1,v2,ob,rfl,rfl,rfl⟩ (wk [0] (fc (x:=ZL (U2 (YK (ds.take (t-1).toNat)) k++[(((YK (ds.take ((t-1).toNat)))+k:Nat):Int)]) v2) (Ze.slh _ (Yq Z6 (Rs _ _).symm)) (ZJ k fl)))))))))))))))
 exact ax 0 (ar (Zm (ZW (ZL (U2 (YK (ds.take (t-1).toNat)) k) v) (Ze.sl _ (Yq Z6 (by rw [Y0,Zk hti,hd1,show k=d.cons.length by omega];rfl))))))
theorem Za2 (ds:List Zd) (hz:TR ds:=by exact ob):Zp 95 [Y5 ds] [] (Yz (.b (V4 ds))):=by
 have hzl:=hz.len
 refine ZG 106 Tryz.func95 (Y3 (YP 1 (iw (Ui ds) (Y2 ((ds.length:Int)>4) (fun Za=>?_) (fun Za=>?_)))))
 ·exact ar (Zm (ZW (.b false) (lb (by rw [V4,decide_eq_false om];rfl))))
 refine ak (YP 1 (iw (Ui ds) (Z2 (ab 0 (Y6 (fun fz gz m F h=>∃(k:Nat),(k<=ds.length)/\(T9 ds (ds.drop k) k=T9 ds ds 0)/\F=sF [0,12,13] fz [(14,.i k)]/\h=gz/\m=ds.length-k) _ _ _ ⟨0,ob,rfl,rfl,rfl,rfl⟩ (wk [] (Ye fl)) ?_)))))
 rintro m F h ⟨k,Yk,Zh,rfl,rfl,rfl⟩
 refine Y3 (aq (Vh ((k:Int)<(ds.length:Int)) (fun Zj=>?_) (fun Zj=>?_)))
 ·refine ak (aq (ab 1 (Yj 1 ?_)))
  obtain ⟨x1,Z3⟩:=Zu ds k om
  have hz1:=hz.cons_at Z3
  refine Zq (Zi none (k:Int) 3 (WE Z3)) (Z0 1 (iA [.i 0,.i 0,nl] fun b1=>Z0 1 (Zy 0 b1 (J8 x1) (ie (Yp 3 [0] (Zv [] (H2 ds x1.frm) (X2 12 [0,3,4,12,13,14] [(30,.b ((!(decide (0<=x1.frm/\x1.frm<=ds.length)))||(!(decide (0<=x1.to_/\x1.to_<=ds.length)))))] (fun gz=>gz) ?_ (fun hj1=>?_))))))))
  ·refine X2 18 [0,3,4,12,13,14] [(36,.b (((!(decide (0<=x1.frm/\x1.frm<=ds.length)))||(!(decide (0<=x1.to_/\x1.to_<=ds.length))))||(decide ((x1.cons.length:Int)>3))))] (fun gz=>gz) ?_ (fun hj2=>?_)
   ·refine Xu [0,3,4,12,13,14] [(52,.b ((((!(decide (0<=x1.frm/\x1.frm<=ds.length)))||(!(decide (0<=x1.to_/\x1.to_<=ds.length))))||(decide ((x1.cons.length:Int)>3)))||((decide ((x1.cons.length:Int)>0))&&((x1.frm != 0)||(x1.to_ != 0)))))] (fun gz=>gz) ?_ ?_
    ·refine Z0 1 (ib (b:=(((!(decide (0<=x1.frm/\x1.frm<=ds.length)))||(!(decide (0<=x1.to_/\x1.to_<=ds.length))))||(decide ((x1.cons.length:Int)>3)))) 37 (fun Zc=>?_) (fun Zc=>?_))
     ·have Y9:((¬(0<=x1.frm/\x1.frm<=ds.length))∨(¬(0<=x1.to_/\x1.to_<=ds.length)))∨((x1.cons.length:Int)>3):=((ZO (ZO (Yd dq) (Yd dq)) dq)).1 Zc
      exact Z2 (wk [0] (Zl true Zc fl))
     have Yt:¬(((¬(0<=x1.frm/\x1.frm<=ds.length))∨(¬(0<=x1.to_/\x1.to_<=ds.length)))∨((x1.cons.length:Int)>3)):=Y4 (ZO (ZO (Yd dq) (Yd dq)) dq) Zc
     refine ZA 2 [0] (iw (Uu x1.cons) (Z0 2 (ib (b:=(decide ((x1.cons.length:Int)>0))) 42 (fun ZD=>?_) (fun ZD=>?_))))
     ·have YS:(x1.cons.length:Int)>0:=(dq).1 ZD
      refine ZA 4 [0] (ib (b:=(x1.frm != 0)) 46 (fun Yf=>?_) (fun Yf=>?_))
      ·have YX:x1.frm≠0:=(Ym).1 Yf
       exact Z2 (wk [0] (Zl true (And.intro Zc (And.intro ZD Yf)) fl))
      have Xe:¬(x1.frm≠0):=Y4 Ym Yf
      exact V0 [0] (wk [0] (Zl (x1.to_ != 0) (And.intro Zc (And.intro ZD Yf)) fl))
     have XP:¬((x1.cons.length:Int)>0):=Y4 dq ZD
     exact Z2 (wk [0] (Zl false (And.intro Zc ZD) fl))
    refine ac ((((!(decide (0<=x1.frm/\x1.frm<=ds.length)))||(!(decide (0<=x1.to_/\x1.to_<=ds.length))))||(decide ((x1.cons.length:Int)>3)))||((decide ((x1.cons.length:Int)>0))&&((x1.frm != 0)||(x1.to_ != 0)))) (p:=(((¬(0<=x1.frm/\x1.frm<=ds.length))∨(¬(0<=x1.to_/\x1.to_<=ds.length)))∨((x1.cons.length:Int)>3))∨(((x1.cons.length:Int)>0)/\((x1.frm≠0)∨(x1.to_≠0)))) (ZO (ZO (ZO (Yd dq) (Yd dq)) dq) (Ys dq (ZO Ym Ym))) (fun Zz=>?_) (fun Zz=>?_)
    ·exact ar (Zm (ZW (.b false) (lb (N3 Z3 (Z50 Zz) Zh))))
    refine ak (Yp 2 [0] (iw (Uu x1.cons) (Z2 (ab 2 (Y6 (fun fz gz m F h=>∃(q:Nat),(q<=x1.cons.length)/\(TK ds.length (x1.cons.drop q)=TK ds.length x1.cons)/\F=sF [0,3,4,12,13,14,54,55] fz [(56,.i q)]/\h=gz/\m=x1.cons.length-q) _ _ _ ⟨0,ob,rfl,rfl,rfl,rfl⟩ (wk [0] (Ye fl)) ?_)))))
    rintro m F h ⟨q,Vr,Xs,rfl,rfl,rfl⟩
    refine Y3 (aq (Vh ((q:Int)<(x1.cons.length:Int)) (fun Yg=>?_) (fun Yg=>?_)))
    ·refine ak (aq (ab 3 (ar ?_)))
     obtain ⟨x2,Zw⟩:=Zu x1.cons q om
     refine Zq (Zi none (q:Int) 1 (Ae Zw)) (Z0 1 (iA [nl] fun b2=>Zy 0 b2 (DR x2) (ie (Zs 2 [0] (iw (Yi x2.fields) (Xu [0,3,4,12,13,14,54,55,56] [(70,.b ((decide ((x2.fields.length:Int)>3))||(!Wn ds.length x2.fields)))] (fun gz=>gz) ?_ ?_))))))
     ·refine Z0 2 (ib (b:=(decide ((x2.fields.length:Int)>3))) 64 (fun YR=>?_) (fun YR=>?_))
      ·have Wf:(x2.fields.length:Int)>3:=(dq).1 YR
       exact Z2 (wk [0,0] (Zl true YR fl))
      have WL:¬((x2.fields.length:Int)>3):=Y4 dq YR
      exact ZA 3 [0] (Zv [] (PC ds x2.fields) (Z2 (wk [0,0] (Zl (!Wn ds.length x2.fields) YR fl))))
     refine ac ((decide ((x2.fields.length:Int)>3))||(!Wn ds.length x2.fields)) (p:=((x2.fields.length:Int)>3)∨(¬(Wn ds.length x2.fields=true))) (ZO dq (Yd Iff.rfl)) (fun YL=>?_) (fun YL=>?_)
     ·exact ar (Zm (ZW (.b false) (lb (N3 Z3 (Z51 om (by rw [<-Xs,Yl Zw,TK,Zb (by rw [Z4b YL];simp)])) Zh))))
     refine ak (az (ZE q (Z2 ?_)))
     have hdr:=Yl Zw
     exact ZH ⟨q+1,ob,(by rw [Yl Zw,TK,Zk (Z4c YL)] at Xs;exact Xs),rfl,rfl,rfl⟩ (wk [1] (ZJ q fl))
    have hC:TK ds.length x1.cons=true:=by rw [<-Xs,Xr om];rfl
    refine ax 2 (Yj 2 (Zq (Bh (es:=Yy ds) (hv:=none) (l:=0) (m:=(k:Int)) (sz:=3) (es':=Yy (ds.take k)) kr om (by simp<;>omega) (by simp<;>omega) (Qz _) (by first|(simp only [TF,UA,Dt,Ds];done)|(simp only [TF,UA,Dt,Ds];rfl)|(simp [Dt,Ds];done))) (io (.i (((ds.take k).length:Nat):Int)) (.i (((Yy (ds.take k)).length:Nat):Int)) (li (by rw [Ui])) (Z2 (ab 4 (Y6 (fun fz gz m F h=>∃(j:Nat),(j<=k)/\(x1.cons.length=0->QX x1 ((ds.take k).drop j)=QX x1 (ds.take k))/\F=sF [0,4,12,13,14,74,75] fz [(76,.i j)]/\h=gz/\m=k-j) _ _ _ ⟨0,ob,ob,rfl,rfl,rfl⟩ (wk [0] (Ye fl)) ?_))))))
    rintro m F h ⟨j,IF,Cs,rfl,rfl,rfl⟩
    refine Y3 (aq (Vh ((j:Int)<(((ds.take k).length:Nat):Int)) (fun X3=>?_) (fun X3=>?_)))
    ·have htl:(ds.take k).length<=k:=by rw [XW];omega
     refine ak (aq (ab 5 (ar ?_)))
     obtain ⟨x3,YT⟩:=Zu (ds.take k) j om
     refine Zq (Zi none (j:Int) 3 (WE YT)) (Z0 1 (iA [.i 0,.i 0,nl] fun b3=>Zy 0 b3 (J8 x3) (ie (Zs 2 [1] (iw (Uu x1.cons) (X2 10 [0,4,8,12,13,14,74,75,76] [(89,.b (((x1.cons.length:Int)==0)&&((x3.cons.length:Int)==0)))] (fun gz=>gz) ?_ (fun hj3=>?_)))))))
     ·refine X2 17 [0,4,8,12,13,14,74,75,76] [(96,.b ((((x1.cons.length:Int)==0)&&((x3.cons.length:Int)==0))&&(x3.frm==x1.frm)))] (fun gz=>gz) ?_ (fun hj4=>?_)
      ·refine Xu [0,4,12,13,14,74,75,76] [(103,.b (((((x1.cons.length:Int)==0)&&((x3.cons.length:Int)==0))&&(x3.frm==x1.frm))&&(x3.to_==x1.to_)))] (fun gz=>gz) ?_ ?_
       ·refine Z0 1 (ib (b:=((((x1.cons.length:Int)==0)&&((x3.cons.length:Int)==0))&&(x3.frm==x1.frm))) 97 (fun Xt=>?_) (fun Xt=>?_))
        ·have Vf:(((x1.cons.length:Int)=0)/\((x3.cons.length:Int)=0))/\(x3.frm=x1.frm):=((Ys (Ys Zf Zf) Zf)).1 Xt
         exact V0 [0,1] (wk [0,0] (Zl (x3.to_==x1.to_) Xt fl))
        have UD:¬((((x1.cons.length:Int)=0)/\((x3.cons.length:Int)=0))/\(x3.frm=x1.frm)):=Y4 (Ys (Ys Zf Zf) Zf) Xt
        exact Z2 (wk [0,0] (Zl false Xt fl))
       refine ac (((((x1.cons.length:Int)==0)&&((x3.cons.length:Int)==0))&&(x3.frm==x1.frm))&&(x3.to_==x1.to_)) (p:=((((x1.cons.length:Int)=0)/\((x3.cons.length:Int)=0))/\(x3.frm=x1.frm))/\(x3.to_=x1.to_)) (Ys (Ys (Ys Zf Zf) Zf) Zf) (fun Wz=>?_) (fun Wz=>?_)
       ·exact ar (Zm (ZW (.b false) (lb (N3 Z3 (Z52 om (by rw [<-Cs om,Yl YT,QX,Zk om])) Zh))))
       exact ak (az (ZE j (Z2 (ZH ⟨j+1,ob,(fun q=>by have hq:=Cs q;rw [Yl YT,QX,Zb om] at hq;exact hq),rfl,rfl,rfl⟩ (wk [1] (ZJ j fl))))))
      refine Z0 1 (ib (b:=(((x1.cons.length:Int)==0)&&((x3.cons.length:Int)==0))) 90 (fun Wq=>?_) (fun Wq=>?_))
      ·have Ty:((x1.cons.length:Int)=0)/\((x3.cons.length:Int)=0):=((Ys Zf Zf)).1 Wq
       exact ZA 6 [0,1] (Y1 (wk [0,0] (Zl (x3.frm==x1.frm) Wq fl)) hj4)
      have Tk:¬(((x1.cons.length:Int)=0)/\((x3.cons.length:Int)=0)):=Y4 (Ys Zf Zf) Wq
      exact Z0 6 (Y1 (wk [0,0] (Zl false Wq fl)) hj4)
     refine Z0 2 (ib (b:=((x1.cons.length:Int)==0)) 84 (fun WK=>?_) (fun WK=>?_))
     ·have K7:(x1.cons.length:Int)=0:=(Zf).1 WK
      exact ZA 2 [0] (iw (Uu x3.cons) (Z0 2 (Y1 (wk [0,0] (Zl ((x3.cons.length:Int)==0) WK fl)) hj3)))
     have Ql:¬((x1.cons.length:Int)=0):=Y4 Zf WK
     exact Z0 5 (Y1 (wk [0,0] (Zl false WK fl)) hj3)
    have htl:(ds.take k).length=k:=by rw [XW];omega
    have hD:x1.cons.length=0->QX x1 (ds.take k)=false:=fun q=>by rw [<-Cs q,Xr om];rfl
    refine ax 4 (az (ZE k (Z2 ?_)))
    have hdr:=Yl Z3
    exact ZH ⟨k+1,ob,(Zhv Z3 (Z53 Zz hC hD) Zh),rfl,rfl,rfl⟩ (wk [] (ZJ k fl))
   refine Z0 1 (ib (b:=((!(decide (0<=x1.frm/\x1.frm<=ds.length)))||(!(decide (0<=x1.to_/\x1.to_<=ds.length))))) 31 (fun Vu=>?_) (fun Vu=>?_))
   ·have JC:(¬(0<=x1.frm/\x1.frm<=ds.length))∨(¬(0<=x1.to_/\x1.to_<=ds.length)):=((ZO (Yd dq) (Yd dq))).1 Vu
    exact Z0 5 (Y1 (wk [0] (Zl true Vu fl)) hj2)
   have JD:¬((¬(0<=x1.frm/\x1.frm<=ds.length))∨(¬(0<=x1.to_/\x1.to_<=ds.length))):=Y4 (ZO (Yd dq) (Yd dq)) Vu
   exact ZA 2 [0] (iw (Uu x1.cons) (Z0 2 (Y1 (wk [0] (Zl (decide ((x1.cons.length:Int)>3)) Vu fl)) hj2)))
  refine Z0 2 (ib (b:=(!(decide (0<=x1.frm/\x1.frm<=ds.length)))) 24 (fun Vd=>?_) (fun Vd=>?_))
  ·have CQ:¬(0<=x1.frm/\x1.frm<=ds.length):=((Yd dq)).1 Vd
   exact Z0 6 (Y1 (wk [0] (Zl true Vd fl)) hj1)
  have B6:¬(¬(0<=x1.frm/\x1.frm<=ds.length)):=Y4 (Yd dq) Vd
  exact ZA 3 [0] (Zv [] (H2 ds x1.to_) (Z0 2 (Y1 (wk [0] (Zl (!(decide (0<=x1.to_/\x1.to_<=ds.length))) Vd fl)) hj1)))
 exact ax 0 (ar (Zm (ZW (.b true) (lb (Zhu om om Zh)))))
theorem Zai (ds:List Zd) (fs:List VJ) (hz:TR ds:=by exact ob) (hf:∀f∈fs,f.pms.length<=4194304/\f.lnt.length<=4194304) (hfl:fs.length<=4194304:=by exact ob):Zp 60 [Y5 ds,KE fs] [] (Yz (.b (Q7 ds fs))):=by
 have hzl:=hz.len
 refine ZG 102 Tryz.func60 (Y3 (YP 1 (Zv [] (Za2 ds) (X2 8 [0,1] [(16,.b ((!V4 ds)||(decide ((fs.length:Int)<1))))] (fun gz=>gz) ?_ (fun hj1=>?_)))))
 ·refine X2 13 [0,1] [(21,.b (((!V4 ds)||(decide ((fs.length:Int)<1)))||(decide ((fs.length:Int)>4))))] (fun gz=>gz) ?_ (fun hj2=>?_)
  ·refine Z0 1 (ib (b:=(((!V4 ds)||(decide ((fs.length:Int)<1)))||(decide ((fs.length:Int)>4)))) 22 (fun Zc=>?_) (fun Zc=>?_))
   ·have Y9:((¬(V4 ds=true))∨((fs.length:Int)<1))∨((fs.length:Int)>4):=((ZO (ZO (Yd Iff.rfl) dq) dq)).1 Zc
    exact Z2 (Vk (ar (Zm (ZW (.b false) (lb (Zi0 (by assumption)))))))
   have Yt:¬(((¬(V4 ds=true))∨((fs.length:Int)<1))∨((fs.length:Int)>4)):=Y4 (ZO (ZO (Yd Iff.rfl) dq) dq) Zc
   refine Z0 1 ?_
   obtain ⟨x1,Z3⟩:=Zu fs 0 om
   refine Zq (Zi none 0 3 (Dz Z3)) (Z0 2 (iw (Yi x1.pms) (Z0 3 (ib (b:=(decide ((x1.pms.length:Int)>0))) 30 (fun ZD=>?_) (fun ZD=>?_)))))
   ·have YS:(x1.pms.length:Int)>0:=(dq).1 ZD
    exact Z2 (Vk (ar (Zm (ZW (.b false) (lb (Z1w Z3 (.inl (by assumption))))))))
   have YX:¬((x1.pms.length:Int)>0):=Y4 dq ZD
   refine Z0 1 (Zq (Zi none 0 3 (Dz Z3)) (YD (x1.res != 0) Ym (fun Za=>?_) (fun Za=>?_)))
   ·exact ar (Zm (ZW (.b false) (lb (Z1w Z3 (.inr Za)))))
   refine ak (YP 1 (iw (EC fs) (Z2 (ab 0 (Y6 (fun fz gz m F h=>∃(k:Nat),(k<=fs.length)/\(KI ds.length (fs.drop k)=KI ds.length fs)/\F=sF [0,37,38] fz [(39,.i k)]/\h=gz/\m=fs.length-k) _ _ _ ⟨0,ob,ob,rfl,rfl,rfl⟩ (wk [] (Ye fl)) ?_)))))
   rintro m F h ⟨k,Yk,Zh,rfl,rfl,rfl⟩
   refine Y3 (aq (Vh ((k:Int)<(fs.length:Int)) (fun Zj=>?_) (fun Zj=>?_)))
   ·refine ak (aq (ab 1 (ar ?_)))
    obtain ⟨x2,Zw⟩:=Zu fs k om
    have hf2:=hf _ (Y7 Zw)
    refine Zq (Zi none (k:Int) 3 (Dz Zw)) (Z0 1 (iA [nl,nl,.i 0] fun b1=>Zy 0 b1 (R3 x2) (ie (Yp 2 [0] (iw (Yi x2.pms) (X2 11 [0,6,37,38,39] [(53,.b ((decide ((x2.pms.length:Int)>3))||(!Wn ds.length x2.pms)))] (fun gz=>gz) ?_ (fun hj3=>?_)))))))
    ·refine Xu [0,6,37,38,39] [(60,.b (((decide ((x2.pms.length:Int)>3))||(!Wn ds.length x2.pms))||(!(decide (0<=x2.res/\x2.res<=ds.length)))))] (fun gz=>gz) ?_ ?_
     ·refine Z0 1 (ib (b:=((decide ((x2.pms.length:Int)>3))||(!Wn ds.length x2.pms))) 54 (fun Yf=>?_) (fun Yf=>?_))
      ·have Xe:((x2.pms.length:Int)>3)∨(¬(Wn ds.length x2.pms=true)):=((ZO dq (Yd Iff.rfl))).1 Yf
       exact Z2 (wk [0] (Zl true Yf fl))
      have XP:¬(((x2.pms.length:Int)>3)∨(¬(Wn ds.length x2.pms=true))):=Y4 (ZO dq (Yd Iff.rfl)) Yf
      exact ZA 3 [0] (Zv [] (H2 ds x2.res) (Z2 (wk [0] (Zl (!(decide (0<=x2.res/\x2.res<=ds.length))) Yf fl))))
     refine ac (((decide ((x2.pms.length:Int)>3))||(!Wn ds.length x2.pms))||(!(decide (0<=x2.res/\x2.res<=ds.length)))) (p:=(((x2.pms.length:Int)>3)∨(¬(Wn ds.length x2.pms=true)))∨(¬(0<=x2.res/\x2.res<=ds.length))) (ZO (ZO dq (Yd Iff.rfl)) (Yd dq)) (fun Zz=>?_) (fun Zz=>?_)
     ·exact ar (Zm (ZW (.b false) (lb (I9 (HQ Zw (Zel Zz) Zh)))))
     refine ak (Zs 2 [0] (iw (Yi x2.lnt) (Z2 (ab 2 (Y6 (fun fz gz m F h=>∃(j:Nat),(j<=x2.lnt.length)/\(KD x2.pms (x2.lnt.drop j) (if j=0 then none else x2.lnt[j-1]?)=Uz x2.pms x2.lnt)/\F=sF [0,6,37,38,39,62,63] fz [(64,.i j)]/\h=gz/\m=x2.lnt.length-j) _ _ _ ⟨0,ob,(by rfl),rfl,rfl,rfl⟩ (wk [0] (Ye fl)) ?_)))))
     rintro m F h ⟨j,Vr,Xs,rfl,rfl,rfl⟩
     refine Y3 (aq (Vh ((j:Int)<(x2.lnt.length:Int)) (fun Yg=>?_) (fun Yg=>?_)))
     ·refine ak (aq (ab 3 (Yj 1 ?_)))
      obtain ⟨x3,YT⟩:=Zu x2.lnt j om
      refine Zq (Zi none (j:Int) 1 (Yb YT)) (Z2 (ar (X2 9 [0,6,7,8,37,38,39,62,63,64] [(77,.b ((decide (x3<0))||(decide (x3>=(x2.pms.length:Int)))))] (fun gz=>gz) ?_ (fun hj4=>?_))))
      ·refine Z0 1 (ib (b:=((decide (x3<0))||(decide (x3>=(x2.pms.length:Int))))) 78 (fun YR=>?_) (fun YR=>?_))
       ·have Wf:(x3<0)∨(x3>=(x2.pms.length:Int)):=((ZO dq dq)).1 YR
        exact Z2 (Vk (ar (Zm (ZW (.b false) (lb (I9 (HQ Zw (MB (M4 YT (by rintro ⟨q1,q2,q3⟩;first|omega|(rw [Vn] at q2;exact q2 (Yq some om))|(have:=q3 _ (by rw [Zb om];exact Tz);omega)) Xs)) Zh)))))))
       have WL:¬((x3<0)∨(x3>=(x2.pms.length:Int))):=Y4 (ZO dq dq) YR
       refine ZA 3 [0] ?_
       obtain ⟨x4,Vn⟩:=Zu x2.pms x3.toNat om
       refine Zq (Zi none x3 1 (Yb Vn)) (Z0 4 (ib (b:=(x4==0)) 86 (fun Xt=>?_) (fun Xt=>?_)))
       ·have Vf:x4=0:=(Zf).1 Xt
        exact Z2 (Vk (ar (Zm (ZW (.b false) (lb (I9 (HQ Zw (MB (M4 YT (by rintro ⟨q1,q2,q3⟩;first|omega|(rw [Vn] at q2;exact q2 (Yq some om))|(have:=q3 _ (by rw [Zb om];exact Tz);omega)) Xs)) Zh)))))))
       have UD:¬(x4=0):=Y4 Zf Xt
       refine Z0 3 (ib (b:=(decide ((j:Int)>0))) 89 (fun Wq=>?_) (fun Wq=>?_))
       ·have Ty:(j:Int)>0:=(dq).1 Wq
        refine ZA 4 [0] (ia (((j-1:Nat):Int)) (((j:Int))-(1)) ?_)
        obtain ⟨x5,Tz⟩:=Zu x2.lnt (j-1) om
        refine Zq (Zi none ((j-1:Nat):Int) 1 (Yb Tz)) (Y2 (x3<=x5) (fun YL=>?_) (fun YL=>?_))
        ·exact ar (Zm (ZW (.b false) (lb (I9 (HQ Zw (MB (M4 YT (by rintro ⟨q1,q2,q3⟩;first|omega|(rw [Vn] at q2;exact q2 (Yq some om))|(have:=q3 _ (by rw [Zb om];exact Tz);omega)) Xs)) Zh)))))
        refine ak (az (ZE j (Z2 ?_)))
        have hdr:=Yl YT
        exact ZH ⟨j+1,ob,(Rc YT ⟨by omega,(by rw [Vn];intro q;cases q;omega),fun p hp=>by first|(rw [Zk om] at hp;cases hp;done)|(rw [Zb om,Tz] at hp;cases hp;omega)⟩ Xs),rfl,rfl,rfl⟩ (wk [0] (ZJ j fl))
       have Tk:¬((j:Int)>0):=Y4 dq Wq
       refine Z2 (Vb (ak (az (ZE j (Z2 ?_)))))
       have hdr:=Yl YT
       exact ZH ⟨j+1,ob,(Rc YT ⟨by omega,(by rw [Vn];intro q;cases q;omega),fun p hp=>by first|(rw [Zk om] at hp;cases hp;done)|(rw [Zb om,Tz] at hp;cases hp;omega)⟩ Xs),rfl,rfl,rfl⟩ (wk [0] (ZJ j fl))
      refine Z0 3 (ib (b:=(decide (x3<0))) 71 (fun WK=>?_) (fun WK=>?_))
      ·have K7:x3<0:=(dq).1 WK
       exact Z0 6 (Y1 (wk [0] (Zl true WK fl)) hj4)
      have Ql:¬(x3<0):=Y4 dq WK
      exact ZA 3 [0] (iw (Yi x2.pms) (Z0 2 (Y1 (wk [0] (Zl (decide (x3>=(x2.pms.length:Int))) WK fl)) hj4)))
     have hL:Uz x2.pms x2.lnt=true:=by rw [<-Xs,Xr om];rfl
     have hS:=Zem Zz hL
     refine ax 2 (az (ZE k (Z2 ?_)))
     have hdr:=Yl Zw
     exact ZH ⟨k+1,ob,(Zez Zw hS Zh),rfl,rfl,rfl⟩ (wk [] (ZJ k fl))
    refine Z0 2 (ib (b:=(decide ((x2.pms.length:Int)>3))) 47 (fun Vu=>?_) (fun Vu=>?_))
    ·have JC:(x2.pms.length:Int)>3:=(dq).1 Vu
     exact Z0 6 (Y1 (wk [0] (Zl true Vu fl)) hj3)
    have JD:¬((x2.pms.length:Int)>3):=Y4 dq Vu
    exact ZA 3 [0] (Zv [] (PC ds x2.pms) (Z0 2 (Y1 (wk [0] (Zl (!Wn ds.length x2.pms) Vu fl)) hj3)))
   exact ax 0 (ar (Zm (ZW (.b true) (lb (Zi1 (by assumption) Z3 (by assumption) Za (by rw [<-Zh,Xr om];rfl))))))
  refine Z0 1 (ib (b:=((!V4 ds)||(decide ((fs.length:Int)<1)))) 17 (fun Vd=>?_) (fun Vd=>?_))
  ·have CQ:(¬(V4 ds=true))∨((fs.length:Int)<1):=((ZO (Yd Iff.rfl) dq)).1 Vd
   exact Z0 4 (Y1 (wk [] (Zl true Vd fl)) hj2)
  have B6:¬((¬(V4 ds=true))∨((fs.length:Int)<1)):=Y4 (ZO (Yd Iff.rfl) dq) Vd
  exact Z0 1 (iw (EC fs) (Z0 2 (Y1 (wk [] (Zl (decide ((fs.length:Int)>4)) Vd fl)) hj2)))
 refine Z0 2 (ib (b:=(!V4 ds)) 12 (fun UO=>?_) (fun UO=>?_))
 ·have LH:¬(V4 ds=true):=((Yd Iff.rfl)).1 UO
  exact Z0 4 (Y1 (wk [] (Zl true UO fl)) hj1)
 have LJ:¬(¬(V4 ds=true)):=Y4 (Yd Iff.rfl) UO
 exact Z0 1 (iw (EC fs) (Z0 2 (Y1 (wk [] (Zl (decide ((fs.length:Int)<1)) UO fl)) hj1)))
theorem Zac (im:Yv) (lz:Nat) (hz:IZ im lz:=by exact ob) (hlz:lz<=100:=by exact ob):Zp 33 [V5 im] [] (fun r h=>(r=.tup [.agg [Y5 im.decls,KE (im.procs.map W7)],.b (Q7 im.decls (im.procs.map W7))]/\h=[]/\im.procs.length<=4)∨(r=.tup [.agg [Y5 [],KE []],.b false]/\h=[]/\¬im.procs.length<=4)):=by
 have hzl:=hz.len
 have hds:=hz.decls.sz
 refine ZG 41 Tryz.func33 (ar (iA (WA im) fun b1=>iA [nl,nl] fun b2=>Z2 (Yp 2 [1] (iw (Qd im.procs) (Y2 ((im.procs.length:Int)>4) (fun Za=>?_) (fun Za=>?_))))))
 ·exact Yj 1 (Zy 0 b2 [nl,nl] (Zm (r3 [] [.agg [nl,nl],.b false] [0] [(b2,b2)] (.inr ⟨rfl,rfl,ob⟩) (Ze.tup (.cons (Ze.agg (.cons (Ze.sl _ rfl) (.cons (Ze.sl _ rfl) .nil))) (.cons (lr _) .nil))))))
 refine ak (Zs 3 [1] (iA [nl,nl] fun b3=>?_))
 refine Zy 0 b3 [Y5 im.decls,nl] (ie (Yp 2 [2] (iw (Qd im.procs) (Z2 (ab 0 (Ip 3 (Y6 (fun fz gz m F h=>∃(k:Nat) (v:Value),(k<=im.procs.length)/\F=sF [1,2,4,16,17] fz [(18,.i k)]/\h=[.obj b3 [Y5 im.decls,Hq ((im.procs.take k).map W7) v],Zg gz 2,Zg gz 3,.tail v 3]/\m=im.procs.length-k) _ _ _ ⟨0,(.slice none 0 0),ob,rfl,rfl,rfl⟩ (wk [1,1,1,0] (Ye fl)) ?_)))))))
 rintro m F h ⟨k,v,Yk,rfl,rfl,rfl⟩
 refine Y3 (aq (Vh ((k:Int)<(im.procs.length:Int)) (fun Zj=>?_) (fun Zj=>?_)))
 ·refine ak (aq (ab 1 (ar ?_)))
  obtain ⟨x1,Z3⟩:=Zu im.procs k om
  exact Zq (Zi none (k:Int) 5 (Qc Z3)) (Z0 1 (iA [nl,nl,.i 0,.i 0,nl] fun b4=>Zy 0 b4 (UE x1) (ie (az (ZA 9 [1,0,0,0] (iL (Td [VJ.mk x1.params x1.lent x1.result]) 1 3 fun v1=>ZY 0 [(31,KE [VJ.mk x1.params x1.lent x1.result])] (ip 5 (Td ((im.procs.take (k+1)).map W7)) (Td ((im.procs.take k).map W7)) (Td [VJ.mk x1.params x1.lent x1.result]) v none 3 (Ob _) (Ob _) (Z5n _) (by simp<;>omega) (by rw [V2 Z3];simp [Td,W7]) fun v2=>Z0 1 (Zy 3 b3 [Y5 im.decls,Hq ((im.procs.take (k+1)).map W7) v2] (ie (az (ZE k (Z2 (ZH ⟨k+1,v2,ob,rfl,rfl,rfl⟩ (wk [0,3,3,0] (ZJ k fl)))))))))))))))
 refine ax 0 (aD 8 (Dr 3 8 [0,1,2,3,4] [(39,KE ((im.procs.take k).map W7))] [0,2,0] (Z7 5 (YE 5 [] [0] [b3] (Zai im.decls ((im.procs.take k).map W7) (hz:=hds) (hf:=(by intro f hf;obtain ⟨r,h1,rfl⟩:=XA.1 hf;have q:=hz.procs r (QR h1);have:=q.params;have:=q.lent;exact ⟨by show r.params.length<=_;omega,by show r.lent.length<=_;omega⟩)) (hfl:=(by rw [T6,XW];omega))) (Z7 6 (X1 6 1 [] [] b2 [Y5 im.decls,Hq ((im.procs.take k).map W7) v] (Zo 0 1 [7] (de ?_))))))))
 have htk:im.procs.take k=im.procs:=Wh om
 exact ZQ (r3 [] [.agg [Y5 im.decls,Hq ((im.procs.take k).map W7) v],.b (Q7 im.decls ((im.procs.take k).map W7))] [0] [(b2,b2)] (.inl ⟨rfl,rfl,ob⟩) (Ze.tup (.cons (Ze.agg (.cons (lr _) (.cons (Ze.sl _ (Yq Td (by rw [htk]))) .nil))) (.cons (lb (by rw [htk])) .nil))))
theorem Zah (op:Int) :Zp 61 [.i op] [] (fun r h=>r=.b (decide (((0<=op/\op<=11)∨op=18)∨op=19))/\h=[]):=by
 refine ZG 17 Tryz.func61 (Y3 (ar (X2 6 [0] [(8,.b ((decide (op>=0))&&(decide (op<=11))))] (fun gz=>gz) ?_ (fun hj1=>?_))))
 ·refine X2 10 [0] [(12,.b (((decide (op>=0))&&(decide (op<=11)))||(op==18)))] (fun gz=>gz) ?_ (fun hj2=>?_)
  ·refine X2 14 [] [(16,.b ((((decide (op>=0))&&(decide (op<=11)))||(op==18))||(op==19)))] (fun gz=>gz) ?_ (fun hj3=>?_)
   ·exact Zm (ZW (.b ((((decide (op>=0))&&(decide (op<=11)))||(op==18))||(op==19))) (lb (by rw [Yc];simp)))
   refine Z0 1 (ib (b:=(((decide (op>=0))&&(decide (op<=11)))||(op==18))) 13 (fun Zc=>?_) (fun Zc=>?_))
   ·have Y9:((op>=0)/\(op<=11))∨(op=18):=((ZO (Ys dq dq) Zf)).1 Zc
    exact Z0 3 (Y1 (wk [] (Zl true Zc fl)) hj3)
   have Yt:¬(((op>=0)/\(op<=11))∨(op=18)):=Y4 (ZO (Ys dq dq) Zf) Zc
   exact Z0 3 (Y1 (wk [] (Zl (op==19) Zc fl)) hj3)
  refine Z0 1 (ib (b:=((decide (op>=0))&&(decide (op<=11)))) 9 (fun ZD=>?_) (fun ZD=>?_))
  ·have YS:(op>=0)/\(op<=11):=((Ys dq dq)).1 ZD
   exact Z0 3 (Y1 (wk [] (Zl true ZD fl)) hj2)
  have YX:¬((op>=0)/\(op<=11)):=Y4 (Ys dq dq) ZD
  exact Z0 3 (Y1 (wk [] (Zl (op==18) ZD fl)) hj2)
 refine Z0 3 (ib (b:=(decide (op>=0))) 5 (fun Yf=>?_) (fun Yf=>?_))
 ·have Xe:op>=0:=(dq).1 Yf
  exact Z0 3 (Y1 (wk [] (Zl (decide (op<=11)) Yf fl)) hj1)
 have XP:¬(op>=0):=Y4 dq Yf
 exact Z0 3 (Y1 (wk [] (Zl false Yf fl)) hj1)
theorem PE (p:ZX) (k:Nat) (a:Int) (kb:Nat) (pb:Nat) (hcl:p.code.length<=200000000:=by exact ob):Zp 62 [.i a,.p kb 0,.p pb 0] [.obj kb [.i k],.obj pb (UE p)] (fun r h=>r=.b (decide ((k:Int)<a/\a<p.code.length))/\h=[.obj kb [.i k],.obj pb (UE p)]):=by
 refine ZG 15 Tryz.func62 (Y3 (ar (X2 10 [] [(14,.b ((decide (a>(k:Int)))&&(decide (a<(p.code.length:Int)))))] (fun gz=>gz) ?_ (fun hj1=>?_))))
 ·exact Zm (r2 [0,0] [.b ((decide (a>(k:Int)))&&(decide (a<(p.code.length:Int))))] ⟨rfl,rfl⟩ (lb (by rw [Yc];simp)))
 refine ZA 4 [0] (ib (b:=(decide (a>(k:Int)))) 8 (fun Zc=>?_) (fun Zc=>?_))
 ·have Y9:a>(k:Int):=(dq).1 Zc
  exact ZA 3 [1] (iw (Tw p.code) (Z0 2 (Y1 (wk [0,0] (Zl (decide (a<(p.code.length:Int))) Zc fl)) hj1)))
 have Yt:¬(a>(k:Int)):=Y4 dq Zc
 exact Z0 6 (Y1 (wk [0,0] (Zl false Zc fl)) hj1)
theorem Zaf (p:ZX) (k:Nat) (a:Int) (kb:Nat) (pb:Nat) (fb:Nat) (hcl:p.code.length<=200000000:=by exact ob):Zp 64 [.i a,.p fb 0] [.obj fb [.val (.func (.func 62) #[] #[.pointer (some ⟨kb,0,none⟩),.pointer (some ⟨pb,0,none⟩)])],.obj kb [.i k],.obj pb (UE p)] (fun r h=>r=.b (decide (¬((k:Int)<a/\a<p.code.length)))/\h=[.obj fb [.val (.func (.func 62) #[] #[.pointer (some ⟨kb,0,none⟩),.pointer (some ⟨pb,0,none⟩)])],.obj kb [.i k],.obj pb (UE p)]):=by
 exact ZG 8 Tryz.func64 (Y3 (Zs 2 [0] (Zv [1,1] (PE _ k a kb pb) (Zm (r2 [2,0,0] [.b (!(decide ((k:Int)<a/\a<p.code.length)))] ⟨rfl,rfl⟩ (lb (by rw [Yc];simp)))))))
theorem Zad (p:ZX) (k:Nat) (xs:LI) (kb:Nat) (pb:Nat) (fb:Nat) (hcl:p.code.length<=200000000:=by exact ob) (hl:xs.length<=1000000:=by exact ob):Zp 98 [Z4 xs,.val (.func (.func 64) #[] #[.pointer (some ⟨fb,0,none⟩)])] [.obj fb [.val (.func (.func 62) #[] #[.pointer (some ⟨kb,0,none⟩),.pointer (some ⟨pb,0,none⟩)])],.obj kb [.i k],.obj pb (UE p)] (fun r h=>∃(z:Int),r=.i z/\h=[.obj fb [.val (.func (.func 62) #[] #[.pointer (some ⟨kb,0,none⟩),.pointer (some ⟨pb,0,none⟩)])],.obj kb [.i k],.obj pb (UE p)]/\(decide (z>=0)=!Wr k p.code.length xs)):=by
 refine ZG 19 Tryz.func98 (Y3 (YP 1 (iw (Yi xs) (Z2 (ab 0 (Y6 (fun fz gz m F h=>∃(j:Nat),(j<=xs.length)/\(Wr k p.code.length (xs.drop j)=Wr k p.code.length xs)/\F=sF [0,1,7] fz [(8,.i j)]/\h=gz/\m=xs.length-j) _ _ _ ⟨0,ob,rfl,rfl,rfl,rfl⟩ (Zt 3 (Ye fl)) ?_))))))
 rintro m F h ⟨j,Yk,Zh,rfl,rfl,rfl⟩
 refine Y3 (aq (Vh ((j:Int)<(xs.length:Int)) (fun Za=>?_) (fun Za=>?_)))
 ·refine ak (aq (ab 1 (Y3 (Yj 3 ?_))))
  obtain ⟨x1,Z3⟩:=Zu xs j om
  refine Zq (Zi none (j:Int) 1 (Yb Z3)) (Z0 1 (Zv [0,0,0] (Zaf _ k x1 kb pb fb) (ie (Vh (¬((k:Int)<x1/\x1<p.code.length)) (fun Zj=>?_) (fun Zj=>?_)))))
  ·exact ar (Zm (r1 [0,0,0] ⟨(j:Int),rfl,rfl,(by first|(rw [<-LY Z3 om Zh,decide_eq_true om];rfl)|(rw [<-LZ om Zh];rfl))⟩))
  exact ak (az (ZE j (Z2 (ZH ⟨j+1,ob,(R4 Z3 om Zh),rfl,rfl,rfl⟩ (Zt 3 (ZJ j fl))))))
 exact ax 0 (ar (Zm (r1 [0,0,0] ⟨(-1),rfl,rfl,(by first|(rw [<-LY Z3 om Zh,decide_eq_true om];rfl)|(rw [<-LZ om Zh];rfl))⟩)))
theorem Zaa (p:ZX) (k:Nat) (xs:LI) (kb:Nat) (pb:Nat) (fb:Nat) (hcl:p.code.length<=200000000:=by exact ob) (hl:xs.length<=1000000:=by exact ob):Zp 63 [Z4 xs,.val (.func (.func 64) #[] #[.pointer (some ⟨fb,0,none⟩)])] [.obj fb [.val (.func (.func 62) #[] #[.pointer (some ⟨kb,0,none⟩),.pointer (some ⟨pb,0,none⟩)])],.obj kb [.i k],.obj pb (UE p)] (fun r h=>r=.b (!Wr k p.code.length xs)/\h=[.obj fb [.val (.func (.func 62) #[] #[.pointer (some ⟨kb,0,none⟩),.pointer (some ⟨pb,0,none⟩)])],.obj kb [.i k],.obj pb (UE p)]):=by
 refine ZG 9 Tryz.func63 (Y3 (Yj 2 (ic [0,0,0] (Zad _ k xs kb pb fb) ?_)))
 rintro _ _ ⟨z1,rfl,rfl,Y9⟩
 have hix:=Y9
 exact Zm (r2 [0,0,0] [.b (decide (z1>=0))] ⟨rfl,rfl⟩ (lb hix))
theorem Zag (im:Yv) (p:ZX) (k:Nat) (x:Instr) (kb:Nat) (pb:Nat) (hd:Xq im.decls:=by exact ob) (hpl:im.procs.length<=4:=by exact ob) (hps:∀p∈im.procs,p.params.length<=3) (hcl:p.code.length<=200000000:=by exact ob) (hxl:x.jumps.length<=1000:=by exact ob):Zp 65 [.agg [Y5 im.decls,KE (im.procs.map W7)],UI x,.val (.func (.func 62) #[] #[.pointer (some ⟨kb,0,none⟩),.pointer (some ⟨pb,0,none⟩)])] [.obj kb [.i k],.obj pb (UE p)] (fun r h=>r=.b (Ws im k p.code.length x)/\h=[.obj kb [.i k],.obj pb (UE p)]):=by
 have hk3:=DX hd x.num
 have hsl:=Z02 im
 have hss:=hd.sum
 refine ZG 109 Tryz.func65 (ar (iA [Y5 im.decls,KE (im.procs.map W7)] fun b1=>iA (Ww x) fun b2=>Z2 (Xk (V0 [0] (ab 0 (ar (YD (x.op==0) Zf (fun Za=>?_) (fun Za=>?_))))))))
 ·refine ar (X2 8 [] [(19,.b ((decide (x.num>=(-999)))&&(decide (x.num<=999))))] (fun gz=>gz) ?_ (fun hj1=>?_))
  ·exact Zm (r2 [2,2] [.b ((decide (x.num>=(-999)))&&(decide (x.num<=999)))] ⟨rfl,rfl⟩ (lb (by unfold Ws;(repeat (first|rw [Zk om]|rw [Zb om]));all_goals (first|rfl|(rw [Yc];simp;done)|(rw [Yc];simp;omega)))))
  refine ZA 4 [0] (ib (b:=(decide (x.num>=(-999)))) 15 (fun Zc=>?_) (fun Zc=>?_))
  ·have Y9:x.num>=(-999):=(dq).1 Zc
   exact ZA 4 [0] (Y1 (Zt 4 (Zl (decide (x.num<=999)) Zc fl)) hj1)
  have Yt:¬(x.num>=(-999)):=Y4 dq Zc
  exact Z0 4 (Y1 (Zt 4 (Zl false Zc fl)) hj1)
 refine ar (YD (x.op==6) Zf (fun Zj=>?_) (fun Zj=>?_))
 ·refine aD 12 (AN [] [(6,.b ((decide (x.num>=0))&&(decide (x.num<((YK im.decls:Nat):Int)))))] (fun gz=>gz) ?_ ?_)
  ·refine ZZ 8 12 [0,1,2,3] [0] (db (b:=(decide (x.num>=0))) 25 (fun ZD=>?_) (fun ZD=>?_))
   ·have YS:x.num>=0:=(dq).1 ZD
    exact ZZ 4 8 [4,5,6,7] [0,1] (Z7 8 (YE 8 [] [0] [b2] (PD im.decls) (Zo 0 3 [9,10,11] (de (Zt 4 (Zl (decide (x.num<((YK im.decls:Nat):Int))) ZD fl))))))
   have YX:¬(x.num>=0):=Y4 dq ZD
   exact Zo 0 8 [4,5,6,7,8,9,10,11] (de (Zt 4 (Zl false ZD fl)))
  exact ZQ (r2 [2,2] [.b ((decide (x.num>=0))&&(decide (x.num<((YK im.decls:Nat):Int))))] ⟨rfl,rfl⟩ (lb (by unfold Ws;(repeat (first|rw [Zk om]|rw [Zb om]));all_goals (first|rfl|(rw [Yc];simp;done)|(rw [Yc];simp;omega)))))
 refine Y8 (XC (fun fz gz F h=>F=sF [2,3,4,9] fz [(33,.b ((x.op==9)||(x.op==24)))]/\h=gz) ?_ ?_)
 ·refine ac (x.op==9) Zf (fun Zz=>?_) (fun Zz=>?_)
  ·exact ak (ZI ⟨rfl,rfl⟩ (Zt 4 (fc (x:=.b (x.op==9)) (lb (by first|rfl|(rw [Zk Zz])|(rw [Zb Zz])|(simp [Zz];done)|(rw [Yc];simp [Zz];done)|omega)) fl)))
  exact VC (ZI ⟨rfl,rfl⟩ (Zt 4 (fc (x:=.b (x.op==24)) (lb (by first|rfl|(rw [Zk Zz])|(rw [Zb Zz])|(simp [Zz];done)|(rw [Yc];simp [Zz];done)|omega)) fl)))
 rintro F h ⟨rfl,rfl⟩
 refine ac ((x.op==9)||(x.op==24)) (p:=(x.op=9)∨(x.op=24)) (ZO Zf Zf) (fun Yg=>?_) (fun Yg=>?_)
 ·refine ar (X2 11 [] [(46,.b ((decide (x.num>=0))&&(decide (x.num<(((im.procs.map W7).length:Nat):Int)))))] (fun gz=>gz) ?_ (fun hj2=>?_))
  ·exact Zm (r2 [2,2] [.b ((decide (x.num>=0))&&(decide (x.num<(((im.procs.map W7).length:Nat):Int))))] ⟨rfl,rfl⟩ (lb (by unfold Ws;(repeat (first|rw [Zk om]|rw [Zb om]));all_goals (first|rfl|(rw [Yc];simp;done)|(rw [Yc];simp;omega)))))
  refine ZA 4 [0] (ib (b:=(decide (x.num>=0))) 39 (fun Yf=>?_) (fun Yf=>?_))
  ·have Xe:x.num>=0:=(dq).1 Yf
   exact ZA 4 [0,1] (io (.i (((im.procs.map W7).length:Nat):Int)) (.i (((Td (im.procs.map W7)).length:Nat):Int)) (li (by rw [EC])) (Z0 2 (Y1 (Zt 4 (Zl (decide (x.num<(((im.procs.map W7).length:Nat):Int))) Yf fl)) hj2)))
  have XP:¬(x.num>=0):=Y4 dq Yf
  exact Z0 7 (Y1 (Zt 4 (Zl false Yf fl)) hj2)
 refine ar (YD (x.op==10) Zf (fun YL=>?_) (fun YL=>?_))
 ·refine ar (X2 11 [3,4] [(59,.b ((decide (x.num>=0))&&(decide (x.num<(((im.procs.map W7).length:Nat):Int)))))] (fun gz=>gz) ?_ (fun hj3=>?_))
  ·refine Z0 1 (ib (b:=((decide (x.num>=0))&&(decide (x.num<(((im.procs.map W7).length:Nat):Int))))) 60 (fun YR=>?_) (fun YR=>?_))
   ·have Wf:(x.num>=0)/\(x.num<(((im.procs.map W7).length:Nat):Int)):=((Ys dq dq)).1 YR
    refine ZA 4 [1,0] ?_
    obtain ⟨x1,Z3⟩:=Zu (im.procs.map W7) x.num.toNat om
    have hsg:=MF Z3 om
    exact Zq (Zi none x.num 3 (Dz Z3)) (Z0 2 (iw (Yi x1.lnt) (Zm (r2 [2,2] [.b ((x1.lnt.length:Int)==0)] ⟨rfl,rfl⟩ (lb (by unfold Ws;(repeat (first|rw [Zk om]|rw [Zb om]));rw [hsg.2,decide_eq_true (p:=0<=x.num/\x.num<im.procs.length) om,Yc];simp))))))
   have WL:¬((x.num>=0)/\(x.num<(((im.procs.map W7).length:Nat):Int))):=Y4 (Ys dq dq) YR
   exact Zm (r2 [2,2] [.b false] ⟨rfl,rfl⟩ (lb (by unfold Ws;(repeat (first|rw [Zk om]|rw [Zb om]));rw [decide_eq_false (p:=0<=x.num/\x.num<im.procs.length) om];rfl)))
  refine ZA 4 [0] (ib (b:=(decide (x.num>=0))) 52 (fun Xt=>?_) (fun Xt=>?_))
  ·have Vf:x.num>=0:=(dq).1 Xt
   exact ZA 4 [0,1] (io (.i (((im.procs.map W7).length:Nat):Int)) (.i (((Td (im.procs.map W7)).length:Nat):Int)) (li (by rw [EC])) (Z0 2 (Y1 (Zt 4 (Zl (decide (x.num<(((im.procs.map W7).length:Nat):Int))) Xt fl)) hj3)))
  have UD:¬(x.num>=0):=Y4 dq Xt
  exact Z0 7 (Y1 (Zt 4 (Zl false Xt fl)) hj3)
 refine ar (YD (x.op==19) Zf (fun X3=>?_) (fun X3=>?_))
 ·refine ar (X2 8 [] [(80,.b ((decide (x.num>=0))&&(decide (x.num<3))))] (fun gz=>gz) ?_ (fun hj4=>?_))
  ·exact Zm (r2 [2,2] [.b ((decide (x.num>=0))&&(decide (x.num<3)))] ⟨rfl,rfl⟩ (lb (by unfold Ws;(repeat (first|rw [Zk om]|rw [Zb om]));all_goals (first|rfl|(rw [Yc];simp;done)|(rw [Yc];simp;omega)))))
  refine ZA 4 [0] (ib (b:=(decide (x.num>=0))) 76 (fun Wq=>?_) (fun Wq=>?_))
  ·have Ty:x.num>=0:=(dq).1 Wq
   exact ZA 4 [0] (Y1 (Zt 4 (Zl (decide (x.num<3)) Wq fl)) hj4)
  have Tk:¬(x.num>=0):=Y4 dq Wq
  exact Z0 4 (Y1 (Zt 4 (Zl false Wq fl)) hj4)
 refine Y8 (XC (fun fz gz F h=>F=sF [2,3,4,9] fz [(81,.b ((x.op==20)||(x.op==22)))]/\h=gz) ?_ ?_)
 ·refine ac (x.op==20) Zf (fun Wz=>?_) (fun Wz=>?_)
  ·exact ak (ZI ⟨rfl,rfl⟩ (Zt 4 (fc (x:=.b (x.op==20)) (lb (by first|rfl|(rw [Zk Wz])|(rw [Zb Wz])|(simp [Wz];done)|(rw [Yc];simp [Wz];done)|omega)) fl)))
  exact VC (ZI ⟨rfl,rfl⟩ (Zt 4 (fc (x:=.b (x.op==22)) (lb (by first|rfl|(rw [Zk Wz])|(rw [Zb Wz])|(simp [Wz];done)|(rw [Yc];simp [Wz];done)|omega)) fl)))
 rintro F h ⟨rfl,rfl⟩
 refine ac ((x.op==20)||(x.op==22)) (p:=(x.op=20)∨(x.op=22)) (ZO Zf Zf) (fun VK=>?_) (fun VK=>?_)
 ·exact Zs 3 [0] (Zv [2,2] (PE _ k x.num kb pb) (Zm (r2 [0,0] [.b (decide ((k:Int)<x.num/\x.num<p.code.length))] ⟨rfl,rfl⟩ (lb (by unfold Ws;(repeat (first|rw [Zk om]|rw [Zb om]));all_goals (first|rfl|(rw [Yc];simp;done)|(rw [Yc];simp;omega)))))))
 refine ar (YD (x.op==21) Zf (fun Ve=>?_) (fun Ve=>?_))
 ·refine Zs 4 [1,0] (Zv [] (Za9 im.decls x.num) (Z2 (Yj 1 (io (.i (((Y0 im.decls x.num).length:Nat):Int)) (.i (((Z6 (Y0 im.decls x.num)).length:Nat):Int)) (li (by rw [Yi])) (X2 11 [] [(105,.b ((decide ((((Y0 im.decls x.num).length:Nat):Int)>0))&&((x.jumps.length:Int)==(((Y0 im.decls x.num).length:Nat):Int))))] (fun gz=>gz) ?_ (fun hj5=>?_))))))
  ·exact Zm (r2 [2,2] [.b ((decide ((((Y0 im.decls x.num).length:Nat):Int)>0))&&((x.jumps.length:Int)==(((Y0 im.decls x.num).length:Nat):Int)))] ⟨rfl,rfl⟩ (lb (by unfold Ws;(repeat (first|rw [Zk om]|rw [Zb om]));all_goals (first|rfl|(rw [Yc];simp;done)|(rw [Yc];simp;omega)))))
  refine Z0 2 (ib (b:=(decide ((((Y0 im.decls x.num).length:Nat):Int)>0))) 98 (fun WK=>?_) (fun WK=>?_))
  ·have K7:(((Y0 im.decls x.num).length:Nat):Int)>0:=(dq).1 WK
   exact ZA 2 [0] (iw (Yi x.jumps) (Z0 1 (io (.i (((Y0 im.decls x.num).length:Nat):Int)) (.i (((Z6 (Y0 im.decls x.num)).length:Nat):Int)) (li (by rw [Yi])) (Z0 2 (Y1 (Zt 4 (Zl ((x.jumps.length:Int)==(((Y0 im.decls x.num).length:Nat):Int)) WK fl)) hj5)))))
  have Ql:¬((((Y0 im.decls x.num).length:Nat):Int)>0):=Y4 dq WK
  exact Z0 7 (Y1 (Zt 4 (Zl false WK fl)) hj5)
 exact ak (Qg [0] (ZQ (r2 [2,2] [.b (x.num==0)] ⟨rfl,rfl⟩ (lb (by unfold Ws;(repeat (first|rw [Zk om]|rw [Zb om]));all_goals (first|rfl|(rw [Yc];simp;done)|(rw [Yc];simp;omega)))))))
theorem Za3 (im:Yv) (k:Int) (len:Int) (x:Instr) (hd:Xq im.decls:=by exact ob) (hpl:im.procs.length<=4:=by exact ob) (hps:∀p∈im.procs,p.params.length<=3) (hnv:Ws im k len x=true:=by exact ob):Zp 66 [.agg [Y5 im.decls,KE (im.procs.map W7)],UI x] [] (Yz (.tup [.i (WR im x),.i (Vl im x)])):=by
 have hsl:=Z02 im
 have hcf:=Vs hd x.num
 have hnn:=Zc8 hnv
 have hn6:x.op=6->0<=x.num/\x.num<YK im.decls:=fun z=>by unfold Ws at hnv;rw [Zb om,Zk z] at hnv;exact of_decide_eq_true hnv
 refine ZG 53 Tryz.func66 (ar (iA [Y5 im.decls,KE (im.procs.map W7)] fun b1=>iA (Ww x) fun b2=>?_))
 refine Z2 (Y3 (Xk (V0 [0] (ab 0 (Y8 (XC (fun fz gz F h=>F=sF [2,3,6,8] fz [(9,.b ((x.op==0)||(x.op==22)))]/\h=gz) ?_ ?_))))))
 ·refine ac (x.op==0) Zf (fun Za=>?_) (fun Za=>?_)
  ·exact ak (ZI ⟨rfl,rfl⟩ (wk [0,0] (fc (x:=.b (x.op==0)) (lb (by first|rfl|(rw [Zk Za])|(rw [Zb Za])|(simp [Za];done)|(rw [Yc];simp [Za];done)|omega)) fl)))
  exact VC (ZI ⟨rfl,rfl⟩ (wk [0,0] (fc (x:=.b (x.op==22)) (lb (by first|rfl|(rw [Zk Za])|(rw [Zb Za])|(simp [Za];done)|(rw [Yc];simp [Za];done)|omega)) fl)))
 rintro F h ⟨rfl,rfl⟩
 refine ac ((x.op==0)||(x.op==22)) (p:=(x.op=0)∨(x.op=22)) (ZO Zf Zf) (fun Zj=>?_) (fun Zj=>?_)
 ·exact VC (ar (Zm (r2 [] [.i 0,.i 0] ⟨rfl,rfl⟩ (Ze.tup (.cons (li (by (try unfold WR);(try unfold Vl);(try unfold WJ);(repeat (first|rw [Zk om]|rw [Zb om]));all_goals (first|rfl|omega|rw [hsg.1]))) (.cons (li (by (try unfold WR);(try unfold Vl);(try unfold WJ);(repeat (first|rw [Zk om]|rw [Zb om]));all_goals (first|rfl|omega|rw [hsg.1]))) .nil))))))
 refine Y8 (XC (fun fz gz F h=>F=sF [2,3,6,8] fz [(12,.b ((x.op==1)||((x.op==2)||((x.op==3)||((x.op==4)||(x.op==11))))))]/\h=gz) ?_ ?_)
 ·refine ac (x.op==1) Zf (fun Zz=>?_) (fun Zz=>?_)
  ·exact ak (ZI ⟨rfl,rfl⟩ (wk [0,0] (fc (x:=.b (x.op==1)) (lb (by first|rfl|(rw [Zk Zz])|(rw [Zb Zz])|(simp [Zz];done)|(rw [Yc];simp [Zz];done)|omega)) fl)))
  refine ar (YD (x.op==2) Zf (fun Yg=>?_) (fun Yg=>?_))
  ·exact ak (ZI ⟨rfl,rfl⟩ (wk [0,0] (fc (x:=.b (x.op==2)) (lb (by first|rfl|(rw [Zk Zz])|(rw [Zb Zz])|(simp [Zz,Yg];done)|(rw [Yc];simp [Zz,Yg];done)|omega)) fl)))
  refine ar (YD (x.op==3) Zf (fun YL=>?_) (fun YL=>?_))
  ·exact ak (ZI ⟨rfl,rfl⟩ (wk [0,0] (fc (x:=.b (x.op==3)) (lb (by first|rfl|(rw [Zk Zz])|(rw [Zb Zz])|(simp [Zz,Yg,YL];done)|(rw [Yc];simp [Zz,Yg,YL];done)|omega)) fl)))
  refine ar (YD (x.op==4) Zf (fun X3=>?_) (fun X3=>?_))
  ·exact ak (ZI ⟨rfl,rfl⟩ (wk [0,0] (fc (x:=.b (x.op==4)) (lb (by first|rfl|(rw [Zk Zz])|(rw [Zb Zz])|(simp [Zz,Yg,YL,X3];done)|(rw [Yc];simp [Zz,Yg,YL,X3];done)|omega)) fl)))
  exact VC (ZI ⟨rfl,rfl⟩ (wk [0,0] (fc (x:=.b (x.op==11)) (lb (by first|rfl|(rw [Zk Zz])|(rw [Zb Zz])|(simp [Zz,Yg,YL,X3];done)|(rw [Yc];simp [Zz,Yg,YL,X3];done)|omega)) fl)))
 rintro F h ⟨rfl,rfl⟩
 refine ac ((x.op==1)||((x.op==2)||((x.op==3)||((x.op==4)||(x.op==11))))) (p:=(x.op=1)∨((x.op=2)∨((x.op=3)∨((x.op=4)∨(x.op=11))))) (ZO Zf (ZO Zf (ZO Zf (ZO Zf Zf)))) (fun Wz=>?_) (fun Wz=>?_)
 ·exact VC (ar (Zm (r2 [] [.i 2,.i 2] ⟨rfl,rfl⟩ (Ze.tup (.cons (li (by (try unfold WR);(try unfold Vl);(try unfold WJ);(repeat (first|rw [Zk om]|rw [Zb om]));all_goals (first|rfl|omega|rw [hsg.1]))) (.cons (li (by (try unfold WR);(try unfold Vl);(try unfold WJ);(repeat (first|rw [Zk om]|rw [Zb om]));all_goals (first|rfl|omega|rw [hsg.1]))) .nil))))))
 refine ar (YD (x.op==6) Zf (fun VK=>?_) (fun VK=>?_))
 ·exact az (ZA 4 [1,0] (Zv [] (Zab im.decls x.num (hc:=(by have:=hn6 om;have:=hd.sum;omega))) (io (.i (((ZP im.decls x.num).length:Nat):Int)) (.i (((Z6 (ZP im.decls x.num)).length:Nat):Int)) (li (by rw [Yi])) (Z2 (ar (Zm (r2 [] [.i (((ZP im.decls x.num).length:Nat):Int),.i (((ZP im.decls x.num).length:Nat):Int)] ⟨rfl,rfl⟩ (Ze.tup (.cons (li (by (try unfold WR);(try unfold Vl);(try unfold WJ);(repeat (first|rw [Zk om]|rw [Zb om]));all_goals (first|rfl|omega|rw [hsg.1]))) (.cons (li (by (try unfold WR);(try unfold Vl);(try unfold WJ);(repeat (first|rw [Zk om]|rw [Zb om]));all_goals (first|rfl|omega|rw [hsg.1]))) .nil))))))))))
 refine Y8 (XC (fun fz gz F h=>F=sF [2,3,6,8] fz [(26,.b ((x.op==9)||(x.op==24)))]/\h=gz) ?_ ?_)
 ·refine ac (x.op==9) Zf (fun Ve=>?_) (fun Ve=>?_)
  ·exact ak (ZI ⟨rfl,rfl⟩ (wk [0,0] (fc (x:=.b (x.op==9)) (lb (by first|rfl|(rw [Zk Ve])|(rw [Zb Ve])|(simp [Ve];done)|(rw [Yc];simp [Ve];done)|omega)) fl)))
  exact VC (ZI ⟨rfl,rfl⟩ (wk [0,0] (fc (x:=.b (x.op==24)) (lb (by first|rfl|(rw [Zk Ve])|(rw [Zb Ve])|(simp [Ve];done)|(rw [Yc];simp [Ve];done)|omega)) fl)))
 rintro F h ⟨rfl,rfl⟩
 refine ac ((x.op==9)||(x.op==24)) (p:=(x.op=9)∨(x.op=24)) (ZO Zf Zf) (fun Vv=>?_) (fun Vv=>?_)
 ·refine az (ZA 4 [1,0] ?_)
  obtain ⟨x1,Z3⟩:=Zu (im.procs.map W7) x.num.toNat (by have:=hnn om;omega)
  have hsg:=MF Z3 (by have:=hnn om;omega)
  have hpm:(x1).pms.length<=3:=by obtain ⟨q,hq,hq2⟩:=XA.1 (Y7 Z3);rw [<-hq2];exact hps q hq
  exact Zq (Eg (es:=Td (im.procs.map W7)) (hv:=none) (j:=x.num) (sz:=3) (y:=G4 x1) kr (by have:=hnn om;omega) (Dz Z3) rfl) (Z0 2 (iw (Yi x1.pms) (Z2 (ar (Zm (r2 [] [.i x1.pms.length,.i x1.pms.length] ⟨rfl,rfl⟩ (Ze.tup (.cons (li (by (try unfold WR);(try unfold Vl);(try unfold WJ);(repeat (first|rw [Zk om]|rw [Zb om]));all_goals (first|rfl|omega|rw [hsg.1]))) (.cons (li (by (try unfold WR);(try unfold Vl);(try unfold WJ);(repeat (first|rw [Zk om]|rw [Zb om]));all_goals (first|rfl|omega|rw [hsg.1]))) .nil)))))))))
 refine ar (YD (x.op==10) Zf (fun Tx=>?_) (fun Tx=>?_))
 ·refine az (ZA 4 [1,0] ?_)
  obtain ⟨x2,Zw⟩:=Zu (im.procs.map W7) x.num.toNat (by have:=hnn om;omega)
  have hsg:=MF Zw (by have:=hnn om;omega)
  have hpm:(x2).pms.length<=3:=by obtain ⟨q,hq,hq2⟩:=XA.1 (Y7 Zw);rw [<-hq2];exact hps q hq
  exact Zq (Eg (es:=Td (im.procs.map W7)) (hv:=none) (j:=x.num) (sz:=3) (y:=G4 x2) kr (by have:=hnn om;omega) (Dz Zw) rfl) (Z0 2 (iw (Yi x2.pms) (ia (((x2.pms.length:Int)-1)) (((x2.pms.length:Int))-(1)) (Z2 (ar (Zm (r2 [] [.i ((x2.pms.length:Int)-1),.i ((x2.pms.length:Int)-1)] ⟨rfl,rfl⟩ (Ze.tup (.cons (li (by (try unfold WR);(try unfold Vl);(try unfold WJ);(repeat (first|rw [Zk om]|rw [Zb om]));all_goals (first|rfl|omega|rw [hsg.1]))) (.cons (li (by (try unfold WR);(try unfold Vl);(try unfold WJ);(repeat (first|rw [Zk om]|rw [Zb om]));all_goals (first|rfl|omega|rw [hsg.1]))) .nil))))))))))
 refine Y8 (XC (fun fz gz F h=>F=sF [6] fz [(48,.b ((x.op==16)||(x.op==17)))]/\h=gz) ?_ ?_)
 ·refine ac (x.op==16) Zf (fun Vw=>?_) (fun Vw=>?_)
  ·exact ak (ZI ⟨rfl,rfl⟩ (wk [0,0] (fc (x:=.b (x.op==16)) (lb (by first|rfl|(rw [Zk Vw])|(rw [Zb Vw])|(simp [Vw];done)|(rw [Yc];simp [Vw];done)|omega)) fl)))
  exact VC (ZI ⟨rfl,rfl⟩ (wk [0,0] (fc (x:=.b (x.op==17)) (lb (by first|rfl|(rw [Zk Vw])|(rw [Zb Vw])|(simp [Vw];done)|(rw [Yc];simp [Vw];done)|omega)) fl)))
 rintro F h ⟨rfl,rfl⟩
 refine ac ((x.op==16)||(x.op==17)) (p:=(x.op=16)∨(x.op=17)) (ZO Zf Zf) (fun TY=>?_) (fun TY=>?_)
 ·exact ar (Zm (r2 [] [.i 1,.i 4] ⟨rfl,rfl⟩ (Ze.tup (.cons (li (by (try unfold WR);(try unfold Vl);(try unfold WJ);(repeat (first|rw [Zk om]|rw [Zb om]));all_goals (first|rfl|omega|rw [hsg.1]))) (.cons (li (by (try unfold WR);(try unfold Vl);(try unfold WJ);(repeat (first|rw [Zk om]|rw [Zb om]));all_goals (first|rfl|omega|rw [hsg.1]))) .nil)))))
 exact ak (ar (Zm (r2 [] [.i 1,.i 1] ⟨rfl,rfl⟩ (Ze.tup (.cons (li (by (try unfold WR);(try unfold Vl);(try unfold WJ);(repeat (first|rw [Zk om]|rw [Zb om]));all_goals (first|rfl|omega|rw [hsg.1]))) (.cons (li (by (try unfold WR);(try unfold Vl);(try unfold WJ);(repeat (first|rw [Zk om]|rw [Zb om]));all_goals (first|rfl|omega|rw [hsg.1]))) .nil))))))
theorem Zae (im:Yv) (p:ZX) (k:Nat) (x:Instr) (hd:Xq im.decls:=by exact ob) (hpl:im.procs.length<=4:=by exact ob) (hps:∀p∈im.procs,p.params.length<=3) (hcl:p.code.length<=200000000:=by exact ob) (hxl:x.args.length<=1000/\x.jumps.length<=1000:=by exact ob) (hkl:k<p.code.length:=by exact ob):Zp 34 [.agg [Y5 im.decls,KE (im.procs.map W7)],Co p,.i k,UI x] [] (Yz (.b (VL im p k x))):=by
 refine ZG 140 Tryz.func34 (ar (iA [Y5 im.decls,KE (im.procs.map W7)] fun b1=>iA (UE p) fun b2=>iA [.i k] fun b3=>iA (Ww x) fun b4=>Z2 (Xk (X2 8 [4,5,6,7] [(21,.b ((decide (x.op<0))||(decide (x.op>24))))] (fun gz=>gz) ?_ (fun hj1=>?_)))))
 ·refine X2 13 [4,5,6,7] [(26,.b (((decide (x.op<0))||(decide (x.op>24)))||(x.op==7)))] (fun gz=>gz) ?_ (fun hj2=>?_)
  ·refine X2 18 [4,5,6,7] [(31,.b ((((decide (x.op<0))||(decide (x.op>24)))||(x.op==7))||(x.op==8)))] (fun gz=>gz) ?_ (fun hj3=>?_)
   ·refine X2 23 [4,5,6,7] [(36,.b (((((decide (x.op<0))||(decide (x.op>24)))||(x.op==7))||(x.op==8))||(x.op==12)))] (fun gz=>gz) ?_ (fun hj4=>?_)
    ·refine Xu [4,5,6,7] [(41,.b ((((((decide (x.op<0))||(decide (x.op>24)))||(x.op==7))||(x.op==8))||(x.op==12))||(x.op==13)))] (fun gz=>gz) ?_ ?_
     ·refine Z0 1 (ib (b:=(((((decide (x.op<0))||(decide (x.op>24)))||(x.op==7))||(x.op==8))||(x.op==12))) 37 (fun Zc=>?_) (fun Zc=>?_))
      ·have Y9:((((x.op<0)∨(x.op>24))∨(x.op=7))∨(x.op=8))∨(x.op=12):=((ZO (ZO (ZO (ZO dq dq) Zf) Zf) Zf)).1 Zc
       exact Z2 (Zt 4 (Zl true Zc fl))
      have Yt:¬(((((x.op<0)∨(x.op>24))∨(x.op=7))∨(x.op=8))∨(x.op=12)):=Y4 (ZO (ZO (ZO (ZO dq dq) Zf) Zf) Zf) Zc
      exact V0 [0] (Zt 4 (Zl (x.op==13) Zc fl))
     refine ac ((((((decide (x.op<0))||(decide (x.op>24)))||(x.op==7))||(x.op==8))||(x.op==12))||(x.op==13)) (p:=(((((x.op<0)∨(x.op>24))∨(x.op=7))∨(x.op=8))∨(x.op=12))∨(x.op=13)) (ZO (ZO (ZO (ZO (ZO dq dq) Zf) Zf) Zf) Zf) (fun Za=>?_) (fun Za=>?_)
     ·exact ar (Zm (ZW (.b false) (lb (EY (fun z=>z.1 (by unfold Kt;omega))).symm)))
     have hb:¬Kt x:=fun z=>Za (by unfold Kt at z;omega)
     refine ak (Xk (X2 10 [4,5,6,7] [(51,.b ((decide (x.dst<0))||(decide (x.dst>=p.regs))))] (fun gz=>gz) ?_ (fun hj5=>?_)))
     ·refine X2 21 [4,5,6,7] [(62,.b (((decide (x.dst<0))||(decide (x.dst>=p.regs)))||((x.dst != 0)&&(!(decide (((0<=x.op/\x.op<=11)∨x.op=18)∨x.op=19))))))] (fun gz=>gz) ?_ (fun hj6=>?_)
      ·refine X2 26 [4,5,6,7] [(67,.b ((((decide (x.dst<0))||(decide (x.dst>=p.regs)))||((x.dst != 0)&&(!(decide (((0<=x.op/\x.op<=11)∨x.op=18)∨x.op=19)))))||(decide (x.into<0))))] (fun gz=>gz) ?_ (fun hj7=>?_)
       ·refine X2 33 [4,5,6,7] [(74,.b (((((decide (x.dst<0))||(decide (x.dst>=p.regs)))||((x.dst != 0)&&(!(decide (((0<=x.op/\x.op<=11)∨x.op=18)∨x.op=19)))))||(decide (x.into<0)))||(decide (x.into>p.regs))))] (fun gz=>gz) ?_ (fun hj8=>?_)
        ·refine Xu [4,5,6,7] [(84,.b ((((((decide (x.dst<0))||(decide (x.dst>=p.regs)))||((x.dst != 0)&&(!(decide (((0<=x.op/\x.op<=11)∨x.op=18)∨x.op=19)))))||(decide (x.into<0)))||(decide (x.into>p.regs)))||((x.into != 0)&&(x.op != 6))))] (fun gz=>gz) ?_ ?_
         ·refine Z0 1 (ib (b:=(((((decide (x.dst<0))||(decide (x.dst>=p.regs)))||((x.dst != 0)&&(!(decide (((0<=x.op/\x.op<=11)∨x.op=18)∨x.op=19)))))||(decide (x.into<0)))||(decide (x.into>p.regs)))) 75 (fun ZD=>?_) (fun ZD=>?_))
          ·have YS:((((x.dst<0)∨(x.dst>=p.regs))∨((x.dst≠0)/\(¬(((0<=x.op/\x.op<=11)∨x.op=18)∨x.op=19))))∨(x.into<0))∨(x.into>p.regs):=((ZO (ZO (ZO (ZO dq dq) (Ys Ym (Yd dq))) dq) dq)).1 ZD
           exact Z2 (Zt 4 (Zl true ZD fl))
          have YX:¬(((((x.dst<0)∨(x.dst>=p.regs))∨((x.dst≠0)/\(¬(((0<=x.op/\x.op<=11)∨x.op=18)∨x.op=19))))∨(x.into<0))∨(x.into>p.regs)):=Y4 (ZO (ZO (ZO (ZO dq dq) (Ys Ym (Yd dq))) dq) dq) ZD
          refine ZA 4 [0] (ib (b:=(x.into != 0)) 79 (fun Yf=>?_) (fun Yf=>?_))
          ·have Xe:x.into≠0:=(Ym).1 Yf
           exact V0 [0] (Zt 4 (Zl (x.op != 6) (And.intro ZD Yf) fl))
          have XP:¬(x.into≠0):=Y4 Ym Yf
          exact Z2 (Zt 4 (Zl false (And.intro ZD Yf) fl))
         refine ac ((((((decide (x.dst<0))||(decide (x.dst>=p.regs)))||((x.dst != 0)&&(!(decide (((0<=x.op/\x.op<=11)∨x.op=18)∨x.op=19)))))||(decide (x.into<0)))||(decide (x.into>p.regs)))||((x.into != 0)&&(x.op != 6))) (p:=(((((x.dst<0)∨(x.dst>=p.regs))∨((x.dst≠0)/\(¬(((0<=x.op/\x.op<=11)∨x.op=18)∨x.op=19))))∨(x.into<0))∨(x.into>p.regs))∨((x.into≠0)/\(x.op≠6))) (ZO (ZO (ZO (ZO (ZO dq dq) (Ys Ym (Yd dq))) dq) dq) (Ys Ym Ym)) (fun Zj=>?_) (fun Zj=>?_)
         ·exact ar (Zm (ZW (.b false) (lb (EY (fun z=>by have h:=z.2.1;unfold AR at h;omega)).symm)))
         have hds:AR p x:=by unfold AR;omega
         refine ak (Yp 2 [0] (iw (Yi x.args) (Z2 (ab 0 (Y6 (fun fz gz m F h=>∃(j:Nat),(j<=x.args.length)/\(QL p.regs (x.args.drop j)=QL p.regs x.args)/\F=sF [4,5,6,7,86,87] fz [(88,.i j)]/\h=gz/\m=x.args.length-j) _ _ _ ⟨0,ob,rfl,rfl,rfl,rfl⟩ (Zt 4 (Ye fl)) ?_)))))
         rintro m F h ⟨j,Yk,Zh,rfl,rfl,rfl⟩
         refine Y3 (aq (Vh ((j:Int)<(x.args.length:Int)) (fun Zz=>?_) (fun Zz=>?_)))
         ·refine ak (aq (ab 1 (ar ?_)))
          obtain ⟨x1,Z3⟩:=Zu x.args j om
          refine Zq (Zi none (j:Int) 1 (Yb Z3)) (Z2 (ar (Xu [4,5,6,7,86,87,88] [(99,.b ((decide (x1<0))||(decide (x1>=p.regs))))] (fun gz=>gz) ?_ ?_)))
          ·refine Z0 3 (ib (b:=(decide (x1<0))) 94 (fun YR=>?_) (fun YR=>?_))
           ·have Wf:x1<0:=(dq).1 YR
            exact Z2 (Zt 4 (Zl true YR fl))
           have WL:¬(x1<0):=Y4 dq YR
           exact V0 [2] (Zt 4 (Zl (decide (x1>=p.regs)) YR fl))
          refine ac ((decide (x1<0))||(decide (x1>=p.regs))) (p:=(x1<0)∨(x1>=p.regs)) (ZO dq dq) (fun Yg=>?_) (fun Yg=>?_)
          ·exact ar (Zm (ZW (.b false) (lb (EY (fun z=>by have h:=z.2.2.1;rw [<-Se Z3 om Zh] at h;cases h)).symm)))
          exact ak (az (ZE j (Z2 (ZH ⟨j+1,ob,(Sh Z3 om Zh),rfl,rfl,rfl⟩ (Zt 4 (ZJ j fl))))))
         have hR:=(Sf om Zh).symm
         refine ax 0 (Yj 1 (iA [.val .nilFunc] fun b5=>Zy 0 b5 [.val (.func (.func 62) #[] #[.pointer (some ⟨b3,0,none⟩),.pointer (some ⟨b2,0,none⟩)])] (ie (Yp 2 [1] (iw (Yi x.jumps) (X2 9 [4,7,11] [(110,.b ((decide ((x.jumps.length:Int)>0))&&(x.op != 21)))] (fun gz=>gz) ?_ (fun hj9=>?_)))))))
         ·refine Xu [4,7,11] [(116,.b (((decide ((x.jumps.length:Int)>0))&&(x.op != 21))||(!Wr k p.code.length x.jumps)))] (fun gz=>gz) ?_ ?_
          ·refine Z0 1 (ib (b:=((decide ((x.jumps.length:Int)>0))&&(x.op != 21))) 111 (fun Xt=>?_) (fun Xt=>?_))
           ·have Vf:((x.jumps.length:Int)>0)/\(x.op≠21):=((Ys dq Ym)).1 Xt
            exact Z2 (Zt 5 (Zl true Xt fl))
           have UD:¬(((x.jumps.length:Int)>0)/\(x.op≠21)):=Y4 (Ys dq Ym) Xt
           exact ZA 3 [1] (Zv [0,1,1] (Zaa _ k x.jumps b3 b2 b5) (Z2 (wk [0,2,0,0,0] (Zl (!Wr k p.code.length x.jumps) Xt fl))))
          refine ac (((decide ((x.jumps.length:Int)>0))&&(x.op != 21))||(!Wr k p.code.length x.jumps)) (p:=(((x.jumps.length:Int)>0)/\(x.op≠21))∨(¬(Wr k p.code.length x.jumps=true))) (ZO (Ys dq Ym) (Yd Iff.rfl)) (fun YL=>?_) (fun YL=>?_)
          ·exact ar (Zm (ZW (.b false) (lb (EY (fun z=>by have h:=z.2.2.2.1;rcases YL with q|q<;>first|omega|exact q h.2)).symm)))
          have hJ2:Wr k p.code.length x.jumps=true:=C9 fun z=>YL (.inr z)
          have hJ1:x.jumps.length=0∨x.op=21:=C9 fun z=>YL (.inl ⟨by omega,by omega⟩)
          refine ak (Yp 3 [4,1,0] (Zv [2,2] (Zag _ _ k x b3 b2 (hps:=hps)) (YD (!(Ws im k p.code.length x)) (p:=¬((Ws im k p.code.length x)=true)) (Yd Iff.rfl) (fun X3=>?_) (fun X3=>?_))))
          ·exact ar (Zm (ZW (.b false) (lb (EY (fun z=>X3 z.2.2.2.2.1)).symm)))
          have hnv:=VX.1 X3
          refine ak (Zs 2 [4,3] (Zv [] (Za3 _ (k:Int) (p.code.length:Int) x (hps:=hps)) (Z2 (Zs 2 [3] (iw (Yi x.args) (X2 12 [] [(139,.b ((decide ((x.args.length:Int)>=(WR im x)))&&(decide ((x.args.length:Int)<=(Vl im x)))))] (fun gz=>gz) ?_ (fun hj10=>?_)))))))
          ·exact Zm (ZW (.b ((decide ((x.args.length:Int)>=(WR im x)))&&(decide ((x.args.length:Int)<=(Vl im x))))) (lb (by rw [Yc,H5,Xj,decide_eq_true_eq,decide_eq_true_eq];exact ⟨fun z=>⟨hb,hds,hR,⟨hJ1,hJ2⟩,hnv,z.1,z.2⟩,fun z=>z.2.2.2.2.2⟩)))
          refine Z0 3 (ib (b:=(decide ((x.args.length:Int)>=(WR im x)))) 133 (fun Wq=>?_) (fun Wq=>?_))
          ·have Ty:(x.args.length:Int)>=(WR im x):=(dq).1 Wq
           exact ZA 2 [3] (iw (Yi x.args) (Z0 3 (Y1 (Zt 5 (Zl (decide ((x.args.length:Int)<=(Vl im x))) Wq fl)) hj10)))
          have Tk:¬((x.args.length:Int)>=(WR im x)):=Y4 dq Wq
          exact Z0 6 (Y1 (Zt 5 (Zl false Wq fl)) hj10)
         refine Z0 2 (ib (b:=(decide ((x.jumps.length:Int)>0))) 106 (fun WK=>?_) (fun WK=>?_))
         ·have K7:(x.jumps.length:Int)>0:=(dq).1 WK
          exact ZA 4 [1] (Y1 (Zt 5 (Zl (x.op != 21) WK fl)) hj9)
         have Ql:¬((x.jumps.length:Int)>0):=Y4 dq WK
         exact Z0 4 (Y1 (Zt 5 (Zl false WK fl)) hj9)
        refine Z0 1 (ib (b:=((((decide (x.dst<0))||(decide (x.dst>=p.regs)))||((x.dst != 0)&&(!(decide (((0<=x.op/\x.op<=11)∨x.op=18)∨x.op=19)))))||(decide (x.into<0)))) 68 (fun Vu=>?_) (fun Vu=>?_))
        ·have JC:(((x.dst<0)∨(x.dst>=p.regs))∨((x.dst≠0)/\(¬(((0<=x.op/\x.op<=11)∨x.op=18)∨x.op=19))))∨(x.into<0):=((ZO (ZO (ZO dq dq) (Ys Ym (Yd dq))) dq)).1 Vu
         exact Z0 6 (Y1 (Zt 4 (Zl true Vu fl)) hj8)
        have JD:¬((((x.dst<0)∨(x.dst>=p.regs))∨((x.dst≠0)/\(¬(((0<=x.op/\x.op<=11)∨x.op=18)∨x.op=19))))∨(x.into<0)):=Y4 (ZO (ZO (ZO dq dq) (Ys Ym (Yd dq))) dq) Vu
        exact ZA 6 [0,2] (Y1 (Zt 4 (Zl (decide (x.into>p.regs)) Vu fl)) hj8)
       refine Z0 1 (ib (b:=(((decide (x.dst<0))||(decide (x.dst>=p.regs)))||((x.dst != 0)&&(!(decide (((0<=x.op/\x.op<=11)∨x.op=18)∨x.op=19)))))) 63 (fun Vd=>?_) (fun Vd=>?_))
       ·have CQ:((x.dst<0)∨(x.dst>=p.regs))∨((x.dst≠0)/\(¬(((0<=x.op/\x.op<=11)∨x.op=18)∨x.op=19))):=((ZO (ZO dq dq) (Ys Ym (Yd dq)))).1 Vd
        exact Z0 4 (Y1 (Zt 4 (Zl true Vd fl)) hj7)
       have B6:¬(((x.dst<0)∨(x.dst>=p.regs))∨((x.dst≠0)/\(¬(((0<=x.op/\x.op<=11)∨x.op=18)∨x.op=19)))):=Y4 (ZO (ZO dq dq) (Ys Ym (Yd dq))) Vd
       exact ZA 4 [0] (Y1 (Zt 4 (Zl (decide (x.into<0)) Vd fl)) hj7)
      refine Z0 1 (ib (b:=((decide (x.dst<0))||(decide (x.dst>=p.regs)))) 52 (fun UO=>?_) (fun UO=>?_))
      ·have LH:(x.dst<0)∨(x.dst>=p.regs):=((ZO dq dq)).1 UO
       exact Z0 10 (Y1 (Zt 4 (Zl true UO fl)) hj6)
      have LJ:¬((x.dst<0)∨(x.dst>=p.regs)):=Y4 (ZO dq dq) UO
      refine ZA 4 [0] (ib (b:=(x.dst != 0)) 56 (fun QC=>?_) (fun QC=>?_))
      ·have GV:x.dst≠0:=(Ym).1 QC
       exact ZA 2 [0] (Zv [] (Zah x.op) (Z0 3 (Y1 (Zt 4 (Zl (!(decide (((0<=x.op/\x.op<=11)∨x.op=18)∨x.op=19))) (And.intro UO QC) fl)) hj6)))
      have Pm:¬(x.dst≠0):=Y4 Ym QC
      exact Z0 6 (Y1 (Zt 4 (Zl false (And.intro UO QC) fl)) hj6)
     refine ZA 4 [0] (ib (b:=(decide (x.dst<0))) 45 (fun QD=>?_) (fun QD=>?_))
     ·have Pn:x.dst<0:=(dq).1 QD
      exact Z0 6 (Y1 (Zt 4 (Zl true QD fl)) hj5)
     have Po:¬(x.dst<0):=Y4 dq QD
     exact ZA 6 [0,2] (Y1 (Zt 4 (Zl (decide (x.dst>=p.regs)) QD fl)) hj5)
    refine Z0 1 (ib (b:=((((decide (x.op<0))||(decide (x.op>24)))||(x.op==7))||(x.op==8))) 32 (fun Jx=>?_) (fun Jx=>?_))
    ·have Pp:(((x.op<0)∨(x.op>24))∨(x.op=7))∨(x.op=8):=((ZO (ZO (ZO dq dq) Zf) Zf)).1 Jx
     exact Z0 4 (Y1 (Zt 4 (Zl true Jx fl)) hj4)
    have Pq:¬((((x.op<0)∨(x.op>24))∨(x.op=7))∨(x.op=8)):=Y4 (ZO (ZO (ZO dq dq) Zf) Zf) Jx
    exact ZA 4 [0] (Y1 (Zt 4 (Zl (x.op==12) Jx fl)) hj4)
   refine Z0 1 (ib (b:=(((decide (x.op<0))||(decide (x.op>24)))||(x.op==7))) 27 (fun Jy=>?_) (fun Jy=>?_))
   ·have Pr:((x.op<0)∨(x.op>24))∨(x.op=7):=((ZO (ZO dq dq) Zf)).1 Jy
    exact Z0 4 (Y1 (Zt 4 (Zl true Jy fl)) hj3)
   have Ps:¬(((x.op<0)∨(x.op>24))∨(x.op=7)):=Y4 (ZO (ZO dq dq) Zf) Jy
   exact ZA 4 [0] (Y1 (Zt 4 (Zl (x.op==8) Jy fl)) hj3)
  refine Z0 1 (ib (b:=((decide (x.op<0))||(decide (x.op>24)))) 22 (fun J4=>?_) (fun J4=>?_))
  ·have Pt:(x.op<0)∨(x.op>24):=((ZO dq dq)).1 J4
   exact Z0 4 (Y1 (Zt 4 (Zl true J4 fl)) hj2)
  have GW:¬((x.op<0)∨(x.op>24)):=Y4 (ZO dq dq) J4
  exact ZA 4 [0] (Y1 (Zt 4 (Zl (x.op==7) J4 fl)) hj2)
 refine ZA 4 [0] (ib (b:=(decide (x.op<0))) 17 (fun Jz=>?_) (fun Jz=>?_))
 ·have GX:x.op<0:=(dq).1 Jz
  exact Z0 4 (Y1 (Zt 4 (Zl true Jz fl)) hj1)
 have LK:¬(x.op<0):=Y4 dq Jz
 exact ZA 4 [0] (Y1 (Zt 4 (Zl (decide (x.op>24)) Jz fl)) hj1)
theorem PA (im:Yv) (lz:Nat) (hz:IZ im lz:=by exact ob) (hlz:lz<=100:=by exact ob):Zp 12 [V5 im] [] (Yz (.b (Wc im))):=by
 have hil:=hz.len
 refine ZG 79 Tryz.func12 (ar (iA (WA im) fun b1=>Z2 (Zs 1 [0] (ic [] (Zac im lz (hz:=hz)) ?_))))
 rintro _ _ (⟨rfl,rfl,Y9⟩|⟨rfl,rfl,Yt⟩)
 ·have hL:=Y9
  refine Z0 3 (iA [nl,nl] fun b2=>Zy 0 b2 [Y5 im.decls,KE (im.procs.map W7)] (Z2 (Xk (YD (!(Q7 im.decls (im.procs.map W7))) (p:=¬((Q7 im.decls (im.procs.map W7))=true)) (Yd Iff.rfl) (fun Za=>?_) (fun Za=>?_)))))
  ·exact ar (Zm (ZW (.b false) (lb (by rw [CU,C0,show Q7 im.decls (im.procs.map W7)=false from Qu.2 Za];simp))))
  have hV:=VX.1 Za
  have hS:C0 im=true:=by rw [C0,decide_eq_true hL,hV];rfl
  obtain ⟨Xn,hlp,_,hps⟩:=Z05 hS
  refine ak (Yp 2 [1] (iw (Qd im.procs) (Z2 (ab 0 (Y6 (fun fz gz m F h=>∃(k:Nat),(k<=im.procs.length)/\(TB im (im.procs.drop k)=TB im im.procs)/\F=sF [3,18,19] fz [(20,.i k)]/\h=[Zg gz 0]/\m=im.procs.length-k) _ _ _ ⟨0,ob,rfl,rfl,rfl,rfl⟩ (wk [0] (Ye fl)) ?_)))))
  rintro m F h ⟨k,Yk,Zh,rfl,rfl,rfl⟩
  refine Y3 (aq (Vh ((k:Int)<(im.procs.length:Int)) (fun Zj=>?_) (fun Zj=>?_)))
  ·refine ak (aq (ab 1 (ar ?_)))
   obtain ⟨x1,Z3⟩:=Zu im.procs k om
   have hpz:=hz.procs _ (Y7 Z3)
   have hpl:=hpz.len
   refine Zq (Zi none (k:Int) 5 (Qc Z3)) (Z0 1 (iA [nl,nl,.i 0,.i 0,nl] fun b3=>Zy 0 b3 (UE x1) (ie (Yp 4 [0,0] (iw (Yi x1.params) (Zq (H7 1 (x1.params.length:Int)) (X2 12 [3,6,18,19,20] [(35,.b ((decide (x1.regs<(max 1 (x1.params.length:Int))))||(decide (x1.regs>2000))))] (fun gz=>gz) ?_ (fun hj1=>?_))))))))
   ·refine X2 18 [3,6,18,19,20] [(41,.b (((decide (x1.regs<(max 1 (x1.params.length:Int))))||(decide (x1.regs>2000)))||(decide ((x1.code.length:Int)<1))))] (fun gz=>gz) ?_ (fun hj2=>?_)
    ·refine Xu [3,6,18,19,20] [(47,.b ((((decide (x1.regs<(max 1 (x1.params.length:Int))))||(decide (x1.regs>2000)))||(decide ((x1.code.length:Int)<1)))||(decide ((x1.code.length:Int)>2000))))] (fun gz=>gz) ?_ ?_
     ·refine Z0 1 (ib (b:=(((decide (x1.regs<(max 1 (x1.params.length:Int))))||(decide (x1.regs>2000)))||(decide ((x1.code.length:Int)<1)))) 42 (fun Zc=>?_) (fun Zc=>?_))
      ·have YS:((x1.regs<(max 1 (x1.params.length:Int)))∨(x1.regs>2000))∨((x1.code.length:Int)<1):=((ZO (ZO dq dq) dq)).1 Zc
       exact Z2 (wk [0,0] (Zl true Zc fl))
      have YX:¬(((x1.regs<(max 1 (x1.params.length:Int)))∨(x1.regs>2000))∨((x1.code.length:Int)<1)):=Y4 (ZO (ZO dq dq) dq) Zc
      exact ZA 2 [0] (iw (Tw x1.code) (Z2 (wk [0,0] (Zl (decide ((x1.code.length:Int)>2000)) Zc fl))))
     refine ac ((((decide (x1.regs<(max 1 (x1.params.length:Int))))||(decide (x1.regs>2000)))||(decide ((x1.code.length:Int)<1)))||(decide ((x1.code.length:Int)>2000))) (p:=(((x1.regs<(max 1 (x1.params.length:Int)))∨(x1.regs>2000))∨((x1.code.length:Int)<1))∨((x1.code.length:Int)>2000)) (ZO (ZO (ZO dq dq) dq) dq) (fun Zz=>?_) (fun Zz=>?_)
     ·exact ar (Zm (ZW (.b false) (lb (by rw [CU,hS,Bool.true_and];exact Hz Z3 (by rw [Tm,decide_eq_false (p:=(1<=x1.regs/\(x1.params.length:Int)<=x1.regs/\x1.regs<=2000)/\1<=x1.code.length/\x1.code.length<=2000) om];simp) Zh))))
     refine ak (Yp 4 [0,0] (iw (Tw x1.code) (ia ((((x1.code.length-1):Nat):Int)) (((x1.code.length:Int))-(1)) ?_)))
     obtain ⟨x2,Zw⟩:=Zu x1.code (x1.code.length-1) om
     refine Zq (Zi none (((x1.code.length-1):Nat):Int) 6 (QZ Zw)) (Z2 (ar (Xu [3,6,18,19,20] [(62,.b ((x2.op != 23)&&(x2.op != 24)))] (fun gz=>gz) ?_ ?_)))
     ·refine Z0 3 (ib (b:=(x2.op != 23)) 59 (fun ZD=>?_) (fun ZD=>?_))
      ·have Xe:x2.op≠23:=(Ym).1 ZD
       exact Z2 (wk [0,0] (Zl (x2.op != 24) ZD fl))
      have XP:¬(x2.op≠23):=Y4 Ym ZD
      exact Z2 (wk [0,0] (Zl false ZD fl))
     refine ac ((x2.op != 23)&&(x2.op != 24)) (p:=(x2.op≠23)/\(x2.op≠24)) (Ys Ym Ym) (fun Yg=>?_) (fun Yg=>?_)
     ·exact ar (Zm (ZW (.b false) (lb (by rw [CU,hS,Bool.true_and];exact Hz Z3 (by rw [Tm,Hc Zw,decide_eq_false (p:=x2.op=23∨x2.op=24) om];simp) Zh))))
     refine ak (Zs 2 [0] (iw (Tw x1.code) (Z2 (ab 2 (Y6 (fun fz gz m F h=>∃(j:Nat),(j<=x1.code.length)/\(TM im x1 (x1.code.drop j) j=TM im x1 x1.code 0)/\F=sF [3,6,18,19,20,64,65] fz [(66,.i j)]/\h=gz/\m=x1.code.length-j) _ _ _ ⟨0,ob,rfl,rfl,rfl,rfl⟩ (wk [0,0] (Ye fl)) ?_)))))
     rintro m F h ⟨j,Vr,Xs,rfl,rfl,rfl⟩
     refine Y3 (aq (Vh ((j:Int)<(x1.code.length:Int)) (fun YL=>?_) (fun YL=>?_)))
     ·refine ak (aq (ab 3 (Yj 1 ?_)))
      obtain ⟨x3,YT⟩:=Zu x1.code j om
      have hxz:=(hpz.code _ (Y7 YT)).l
      refine Zq (Zi none (j:Int) 6 (QZ YT)) (Z0 1 (iA [.i 0,.i 0,.i 0,.i 0,nl,nl] fun b4=>Z0 1 (Zy 0 b4 (Ww x3) (ie (Zs 4 [2,1,0] (Zv [] (Zae _ x1 j x3 (hd:=Xn) (hps:=hps) (hxl:=om)) (YD (!(VL im x1 j x3)) (p:=¬((VL im x1 j x3)=true)) (Yd Iff.rfl) (fun X3=>?_) (fun X3=>?_))))))))
      ·exact ar (Zm (ZW (.b false) (lb (by rw [CU,hS,Bool.true_and];exact Hz Z3 (by rw [Tm,<-PJ YT (Qu.2 (by assumption)) Xs];simp) Zh))))
      exact ak (az (ZE j (Z2 (ZH ⟨j+1,ob,(PL YT (VX.1 (by assumption)) Xs),rfl,rfl,rfl⟩ (wk [1,1] (ZJ j fl))))))
     exact ax 2 (az (ZE k (Z2 (ZH ⟨k+1,ob,(RX Z3 (by rw [Tm,M3.1 hlp x1 (Y7 Z3),decide_eq_true (p:=(1<=x1.regs/\(x1.params.length:Int)<=x1.regs/\x1.regs<=2000)/\1<=x1.code.length/\x1.code.length<=2000) om,<-PK om Xs,Hc Zw,decide_eq_true (p:=x2.op=23∨x2.op=24) om];rfl) Zh),rfl,rfl,rfl⟩ (wk [1] (ZJ k fl))))))
    refine Z0 1 (ib (b:=((decide (x1.regs<(max 1 (x1.params.length:Int))))||(decide (x1.regs>2000)))) 36 (fun Yf=>?_) (fun Yf=>?_))
    ·have Wf:(x1.regs<(max 1 (x1.params.length:Int)))∨(x1.regs>2000):=((ZO dq dq)).1 Yf
     exact Z0 5 (Y1 (wk [0,0] (Zl true Yf fl)) hj2)
    have WL:¬((x1.regs<(max 1 (x1.params.length:Int)))∨(x1.regs>2000)):=Y4 (ZO dq dq) Yf
    exact ZA 2 [0] (iw (Tw x1.code) (Z0 2 (Y1 (wk [0,0] (Zl (decide ((x1.code.length:Int)<1)) Yf fl)) hj2)))
   refine Z0 2 (ib (b:=(decide (x1.regs<(max 1 (x1.params.length:Int))))) 31 (fun YR=>?_) (fun YR=>?_))
   ·have Vf:x1.regs<(max 1 (x1.params.length:Int)):=(dq).1 YR
    exact Z0 4 (Y1 (wk [0,0] (Zl true YR fl)) hj1)
   have UD:¬(x1.regs<(max 1 (x1.params.length:Int))):=Y4 dq YR
   exact ZA 4 [0] (Y1 (wk [0,0] (Zl (decide (x1.regs>2000)) YR fl)) hj1)
  exact ax 0 (ar (Zm (ZW (.b true) (lb (by rw [CU,hS,<-RW om Zh];rfl)))))
 have hL:=Yt
 exact Z0 3 (iA [nl,nl] fun b5=>Zy 0 b5 [Y5 [],KE []] (Z2 (Y8 (Vk (ar (Zm (ZW (.b false) (lb (by rw [CU,C0,decide_eq_false hL];rfl)))))))))
end Go.Abs
section
namespace Go.Abs
section
variable {P:Program} {n:Nat} {ops:Array Oper} {B:Fr->List Res->Prop} {k:Nat} {F:Fr} {h:List Res}
def NH (P:Program) (ops:Array Oper) (F:Fr) (k:Nat):Option (Bool × Bool):=
 match (ZU ops k).op with
 | .binOp .eql t x y _=>match P.underlying t with
  | some .bool=>match F.ev x,F.ev y with
   | .val (.bool a),.val (.bool b)=>some (a,b)
   | _,_=>none
  | _=>none
 | _=>none
theorem PQ (a b:Bool) (hb:NH P ops F k=some (a,b):=by kernel_rfl):W1 P (ZU ops k) F h [] (.b (a==b)):=by
 unfold NH at hb
 generalize hoo:ZU ops k=o at hb
 obtain ⟨dst,op,type,pos,after,guard⟩:=o
 cases op<;>simp only at hb<;>try (cases hb)
 rename_i bop t x y yt
 cases bop<;>simp only at hb<;>try (cases hb)
 split at hb
 ·rename_i ht
  split at hb
  ·rename_i a' b' h1 h2
   cases hb
   intro n w G ac hF hh
   have v1:=hF.ev x
   have v2:=hF.ev y
   rw [h1] at v1
   rw [h2] at v2
   have v1:=v1.val_inv
   have v2:=v2.val_inv
   refine ⟨_,.val,fun w' _ _=>?_⟩
   simp only [execOp,v1,v2]
   have he:(Op.equalIn (9999+1) t (.bool a) (.bool b)).run P w'=.ok (a==b) w':=by
    rw [Op.equalIn]
    simp [Sem.run_bind,Uq ht]
   refine VP ?_
   simp only [eqGuard,binOp,Op.equal,Op.maxDepth]
   have he2:(Op.equalIn 10000 t (.bool a) (.bool b)).run P w'=.ok (a==b) w':=he
   simp [Sem.run_bind,he2]
  ·cases hb
 ·cases hb
end
end Go.Abs
namespace Go.Abs
end Go.Abs
namespace Go.Abs
theorem WI.alone {P:Program} {f:FuncId} {as1:List AV} {h0:List Res} {R:AV->List Res->Prop} {r0:AV} (H:WI P f as1 h0 R) (hR:∀r h,R r h->Ze r r0):WI P f as1 h0 (fun r h=>r=r0/\h=[]):=by
 intro w G vs hv hh
 refine (H w G vs hv hh).mono ?_
 rintro e w' ⟨u,r,h',G',he,hq,hr,hh',hx⟩
 exact ⟨_,_,[],G',he,⟨rfl,rfl⟩,hR _ _ hq _ _ _ hr,hh'.sub (List.nil_sublist _),hx.sub' (List.nil_sublist _)⟩
end Go.Abs
end
namespace Go.Abs
open Go.Proofs
open Go.Proofs
theorem Z3w (ds:List Zd) (hl_ds:ds.length<=4294967296:=by exact ob):Zp 123 [Y5 ds] [] (fun r h=>∃(v:Hd),r=.h v/\h=[rK v 3 (Z9 (Yy ds))]):=by
 refine ZG 8 Tryz.func123 (Y3 (YP 1 (iN (Yy ds) (fun hz1=>?_) ?_)))
 ·have hz1:=Z5c hz1
  refine ie (Vk (Y3 (Jp (C7 (k:=3)) ?_)))
  subst hz1
  exact ZQ (r2 [0] [nl] ⟨hN,rfl,rfl⟩ (Ze.hd (v:=hN)) (eq:=(rr (ls:=[]) rfl rz)))
 exact ie (Vb (ak (ar (BK 3 fun g1=>Z0 1 (GZ 0 g1 3 (Yy ds) none (Qz _) (by simp<;>omega) fun v1=>Zm (r1 [0] ⟨v1,rfl,rfl⟩))))))
theorem Z3v (cs:List Yh) (hl_cs:cs.length<=4294967296:=by exact ob):Zp 124 [QH cs] [] (fun r h=>∃(v:Hd),r=.h v/\h=[rK v 1 (Z9 (Xy cs))]):=by
 refine ZG 8 Tryz.func124 (Y3 (YP 1 (iN (Xy cs) (fun hz1=>?_) ?_)))
 ·have hz1:=Z5a hz1
  refine ie (Vk (Y3 (Jp (C7 (k:=1)) ?_)))
  subst hz1
  exact ZQ (r2 [0] [nl] ⟨hN,rfl,rfl⟩ (Ze.hd (v:=hN)) (eq:=(rr (ls:=[]) rfl rz)))
 exact ie (Vb (ak (ar (BK 1 fun g1=>Z0 1 (GZ 0 g1 1 (Xy cs) none (CA _) (by simp<;>omega) fun v1=>Zm (r1 [0] ⟨v1,rfl,rfl⟩))))))
theorem Za6 (ds:List Zd) (hd:Xq ds):Zp 81 [Y5 ds] [] (fun r h=>∃(ys:List Vj) (w:Value),r=Zc9 ys w/\h=[.many (QE ys),.tail w 3]/\ys.map Vj.er=ds):=by
 have hdl:=hd.len
 refine ZG 46 Tryz.func81 (Y3 (Yj 1 (ic [] (Z3w ds) ?_)))
 rintro _ _ ⟨v1,rfl,rfl⟩
 refine Z2 (YP 1 (Zq (H6 0 ds.length v1 3 (Z9 (Yy ds)) (by rw [OL])) (Z2 (ab 0 (Jp (tB [] [] [] (QE []) (by simp [ET,EO,GN,GO,GR,GS,GM,K5,K4,ES,DL,Qk,QE,B4,EP,EQ,ER,GQ])) (Y6 (fun fz gz m F h=>∃(k:Nat) (v:Hd) (ys:List Vj),(k<=ds.length)/\(ys.map Vj.er=ds.take k)/\(ys.length=k)/\F=sF [11] fz [(3,.h v),(10,.h v),(12,.i k)]/\h=[rK v 3 (Z9 (Vm ys++Yy (ds.drop k))),.many (QE ys)]/\m=ds.length-k) _ _ _ ⟨0,v1,[],ob,rfl,rfl,rfl,rfl,rfl⟩ (wk [1,0] (fw (Ye fl)) (e:=(rr (ls:=Z9 (Yy ds)) (by rfl) (rc rz)))) ?_))))))
 rintro m F h ⟨k,v,ys,Yk,Zh,ZB,rfl,rfl,rfl⟩
 refine Y3 (aq (Vh ((k:Int)<(ds.length:Int)) (fun Za=>?_) (fun Za=>?_)))
 ·obtain ⟨x1,Z3⟩:=Zu ds k om
  have hcl:=hd.cons_at Z3
  refine F4 0 ds.length (v:=v) (Sw ZB Yk) om (fun g1 c1 he1=>?_)
  subst he1
  refine ak (aq (ab 1 (Yj 1 (Zq (XJ g1 ds.length c1 k 3 (k:Int)) (VD (WM 0 g1 ds.length c1 3 (k*3) (Z9 (Vm ys++Yy (ds.drop k))) (J8 x1) 119 (Cm x1) (by rw [Sx Z3];exact HF (by rw [CI,ZB]))) (iA [.i 0,.i 0,nl] fun b1=>Z0 1 (Zy 0 b1 (J8 x1) (ie (Zs 4 [0] (ic [] (Z3v x1.cons) ?_))))))))))
  rintro _ _ ⟨v2,rfl,rfl⟩
  refine Zq (XJ g1 ds.length c1 k 3 (k:Int)) (Z0 1 (DM 2 g1 ds.length c1 3 (k*3+2) [.h v2] (Z9 (Vm ys++Yy (ds.drop k))) (Z9 (Vm ys)++([.i x1.frm,.i x1.to_,.h v2]++Z9 (Yy (ds.drop (k+1))))) (by rw [Sw ZB Yk];simp;omega) (by rw [Sx Z3];exact Ze3 (by rw [CI,ZB])) (ie (Zs 2 [2] (iw (Uu x1.cons) (Z2 (ab 2 (Jp (tB [] [] [] (Qk []) (by simp [ET,EO,GN,GO,GR,GS,GM,K5,K4,ES,DL,Qk,QE,B4,EP,EQ,ER,GQ])) (Y6 (fun fz gz m F h=>∃(j:Nat) (u:Hd) (zs:List Vq),(j<=x1.cons.length)/\(zs.map Vq.er=x1.cons.take j)/\(zs.length=j)/\F=sF [3,4,10,11,12,25,26] fz [(27,.i j)]/\h=[Zg gz 4,rK u 1 (Z9 (Uj zs++Xy (x1.cons.drop j))),.row (.slice (some ⟨g1,0,none⟩) ds.length c1) 3 (Z9 (Vm ys)++([.i x1.frm,.i x1.to_,.h u]++Z9 (Yy (ds.drop (k+1))))),.many (Qk zs)]/\m=x1.cons.length-j) _ _ _ ⟨0,v2,[],ob,rfl,rfl,rfl,rfl,rfl⟩ (wk [4,2,1,0] (Ye fl) (e:=(rc (rr (ls:=Z9 (Xy x1.cons)) (by rfl) (rc (rc rz)))))) ?_)))))))))
  rintro m F h ⟨j,u,zs,Vr,Xs,XU,rfl,rfl,rfl⟩
  refine Y3 (aq (Vh ((j:Int)<(x1.cons.length:Int)) (fun Zj=>?_) (fun Zj=>?_)))
  ·obtain ⟨x2,Zw⟩:=Zu x1.cons j om
   have hfl:=hd.fields_at Z3 Zw
   refine F4 1 x1.cons.length (v:=u) (Sv XU Vr) om (fun g2 c2 he2=>?_)
   subst he2
   refine ak (aq (ab 3 (Yj 1 (Zq (Zi none (j:Int) 1 (Ae Zw)) (Z0 1 (iA [nl] fun b2=>Z0 1 (Zy 0 b2 (DR x2) (ie (aE 12 (Zo 10 12 [0,1] (dx 2 (XJ g1 ds.length c1 k 3 (k:Int)) (Zo 8 9 [3] (UC 4 (WM 3 g1 ds.length c1 3 (k*3+2) (Z9 (Vm ys)++([.i x1.frm,.i x1.to_,.h ⟨some ⟨g2,0,none⟩,x1.cons.length,c2⟩]++Z9 (Yy (ds.drop (k+1))))) [.h ⟨some ⟨g2,0,none⟩,x1.cons.length,c2⟩] 117 (.ms g2 0 x1.cons.length c2) (Ze4 (by rw [CI,ZB]))) (ZZ 4 7 [5,6,7] [0] (Z7 8 (dc 8 [] [2] [g1] (Ez x2.fields) ?_))))))))))))))))
   rintro _ _ ⟨v3,rfl,rfl⟩
   exact dx 9 (XJ g2 x1.cons.length c2 j 1 (j:Int)) (Zo 1 2 [10] (Z7 11 (Qy 11 3 [] [] g2 x1.cons.length c2 1 (j*1) [ZL x2.fields v3] (Z9 (Uj zs++Xy (x1.cons.drop j))) (Z9 (Uj zs)++([ZL x2.fields v3]++Z9 (Xy (x1.cons.drop (j+1))))) (by rw [Sv XU Vr];simp;omega) (by rw [Ze0 Zw];exact Fs (by rw [OM,XU,AB]) rfl) (Ju (tB [5,1] [.many (Qk zs),.tail v3 1] (Qk zs++((v3,1)::[])) (Qk (zs++[Vq.mk x2.fields v3])) (by simp [ET,EO,GN,GO,GR,GS,GM,K5,K4,ES,DL,Qk,QE,B4,EP,EQ,ER,GQ])) (de (az (ZE j (Z2 (ZH ⟨j+1,⟨some ⟨g2,0,none⟩,x1.cons.length,c2⟩,(zs++[Vq.mk x2.fields v3]),ob,(by rw [List.map_append,Xs,V2 Zw];rfl),(by simp [XU]),rfl,rfl,rfl⟩ (wk [3,1,2,0] (ZJ j fl) (e:=(rc (rr (ls:=(Z9 (Uj zs)++([ZL x2.fields v3]++Z9 (Xy (x1.cons.drop (j+1)))))) Zdz (rr (ls:=(Z9 (Vm ys)++([.i x1.frm,.i x1.to_,.h ⟨some ⟨g2,0,none⟩,x1.cons.length,c2⟩]++Z9 (Yy (ds.drop (k+1)))))) ob (rc rz)))))))))))))))
  refine Jp (Ek 1 u.v 1 (Z9 (Uj zs++Xy (x1.cons.drop j))) (Z9 (Uj zs)) (Zdy om)) (Jp (Zh1 0 1 (k*3+2) u.v (.slice (some ⟨g1,0,none⟩) ds.length c1) 1 3 (Uj zs) (Z9 (Vm ys)++([.i x1.frm,.i x1.to_,.h u]++Z9 (Yy (ds.drop (k+1))))) (O8 _) (by rw [Cc (by rw [CI];omega),CI,ZB];simp)) ?_)
  exact Jp (Ek 0 (.slice (some ⟨g1,0,none⟩) ds.length c1) 3 (List.set ((Z9 (Vm ys)++([.i x1.frm,.i x1.to_,.h u]++Z9 (Yy (ds.drop (k+1))))):List AV) (k*3+2) (Fc zs u.v)) (Z9 (Vm ys)++([.i x1.frm,.i x1.to_,Fc zs u.v]++Z9 (Yy (ds.drop (k+1))))) (Ze5 (by rw [CI,ZB]))) (Jp (tB [2,2,1] [.many (QE ys),.many (Qk zs),.tail u.v 1] (QE ys++(Qk zs++((u.v,1)::[]))) (QE (ys++[Vj.mk x1.frm x1.to_ zs u.v])) (by simp [ET,EO,GN,GO,GR,GS,GM,K5,K4,ES,DL,Qk,QE,B4,EP,EQ,ER,GQ])) (ax 2 (az (ZE k (Z2 (ZH ⟨k+1,(⟨some ⟨g1,0,none⟩,ds.length,c1⟩:Hd),(ys++[Vj.mk x1.frm x1.to_ zs u.v]),ob,(by rw [List.map_append,Zh,V2 Z3,Z25 (Xs.trans (Wh om))]),(by simp [ZB]),rfl,rfl,rfl⟩ (wk [1,0] (fw (ZJ k fl)) (e:=(rr (ls:=(Z9 (Vm ys)++([.i x1.frm,.i x1.to_,Fc zs u.v]++Z9 (Yy (ds.drop (k+1)))))) Ze2 (rc rz))))))))))
 exact ax 0 (Y3 (Jp (Ek 0 v.v 3 (Z9 (Vm ys++Yy (ds.drop k))) (Z9 (Vm ys)) (Ze1 om)) (PT 2 0 (v:=v) (Vm ys) (O9 _) (ZQ (r1 [1,0] ⟨ys,v.v,rfl,rfl,(by rw [Zh,Wh om])⟩)))))
theorem Za7 (ds:List Zd) (hd:Xq ds:=by exact ob):Zp 81 [Y5 ds] [] (Yz (Y5 ds)):=((Za6 ds hd).alone fun r h ⟨ys,w,e1,_,e3⟩=>by rw [e1,<-e3];exact Ze.els _ (Z5y ys))
theorem Z3x (c:List Instr) (hl:c.length<=200000000:=by exact ob):Zp 83 [QI c] [] (fun r h=>∃(v:Hd),r=.h v/\h=[rK v 6 (Z9 (ZC c))]):=by
 refine ZG 8 Tryz.func83 (Y3 (YP 1 (iN (ZC c) (fun hz1=>?_) ?_)))
 ·have hz1:=Z5i hz1
  refine ie (Vk (Y3 (Jp (C7 (k:=6)) ?_)))
  subst hz1
  exact ZQ (r2 [0] [nl] ⟨hN,rfl,rfl⟩ (Ze.hd (v:=hN)) (eq:=(rr (ls:=[]) rfl rz)))
 exact ie (Vb (ak (ar (BK 6 fun g1=>Z0 1 (GZ 0 g1 6 (ZC c) none (Ah _) (by simp<;>omega) fun v1=>Zm (r1 [0] ⟨v1,rfl,rfl⟩))))))
theorem Za5 (im:Yv) (lz:Nat) (hz:IZ im lz:=by exact ob) (hlz:lz<=100:=by exact ob) (hd:Xq im.decls:=by exact ob) (hc:∀p∈im.procs,1<=p.code.length):Zp 39 [V5 im] [] (fun r h=>∃(v:Hd) (U:Nat->Hd),r=.agg [Y5 im.decls,.h v]/\h=[rK v 5 (pD (Xd U) im.procs 0),rK (U 0) 6 (Z9 (ZC (cL im.procs 0))),rK (U 1) 6 (Z9 (ZC (cL im.procs 1))),rK (U 2) 6 (Z9 (ZC (cL im.procs 2))),rK (U 3) 6 (Z9 (ZC (cL im.procs 3)))]):=by
 have hil:=hz.len
 refine ZG 64 Tryz.func39 (ar (iA (WA im) fun b1=>iA [nl,nl] fun b2=>ie (Zs 2 [1] (Zv [] (Za7 im.decls (hd:=hd)) (Z0 1 (iA [nl,nl] fun b3=>?_))))))
 refine Zy 0 b3 [Y5 im.decls,nl] (ie (Yp 2 [2] (iw (Qd im.procs) (Xb (Z1m 0 b3 [Y5 im.decls,nl] [Y5 im.decls,.h hN] (.cons (lr _) (.cons (Ze.hd (v:=hN)) .nil))) (Xb (C7 (k:=5)) (Xb (tU0 (im.procs.take 0) rfl) (Xb (FI [5,5,5,0,0,0,0,0] (h':=[.obj b3 [Y5 im.decls,.h hN],.obj b2 [nl,nl],.obj b1 (WA im),rK (U0 0) 6 (Z9 (ZC (cL (im.procs.take 0) 0))),rK (U0 1) 6 (Z9 (ZC (cL (im.procs.take 0) 1))),rK (U0 2) 6 (Z9 (ZC (cL (im.procs.take 0) 2))),rK (U0 3) 6 (Z9 (ZC (cL (im.procs.take 0) 3))),rK hN 5 []]) (d:=[]) kr) (Z2 (ab 0 (Y6 (fun fz gz m F h=>∃(k:Nat) (v:Hd) (U:Nat->Hd),(k<=im.procs.length)/\F=sF [2,3,13,14] fz [(15,.i k)]/\h=[.obj b3 [Y5 im.decls,.h v],Zg gz 1,rK v 5 (pD (Xd U) (im.procs.take k) 0),rK (U 0) 6 (Z9 (ZC (cL (im.procs.take k) 0))),rK (U 1) 6 (Z9 (ZC (cL (im.procs.take k) 1))),rK (U 2) 6 (Z9 (ZC (cL (im.procs.take k) 2))),rK (U 3) 6 (Z9 (ZC (cL (im.procs.take k) 3)))]/\m=im.procs.length-k) _ _ _ ⟨0,hN,U0,ob,rfl,rfl,rfl⟩ (wk [0,0,5,1,1,1,1] (Ye fl) (e:=(rc (rc (rr (ls:=[]) (by first|rfl|exact pAll_zero.symm) (rc (rc (rc (rc rz))))))))) ?_))))))))))
 rintro m F h ⟨k,v,U,Yk,rfl,rfl,rfl⟩
 refine Y3 (aq (Vh ((k:Int)<(im.procs.length:Int)) (fun Za=>?_) (fun Za=>?_)))
 ·refine ak (aq (ab 1 (ar ?_)))
  obtain ⟨x1,Z3⟩:=Zu im.procs k om
  have hpm:=Y7 Z3
  have hpz:=hz.procs _ hpm
  have Y9:=hpz.params
  have Yt:=hpz.lent
  have YS:=hpz.len
  have YX:=hc _ hpm
  refine Zq (Zi none (k:Int) 5 (Qc Z3)) (Z0 1 (iA [nl,nl,.i 0,.i 0,nl] fun b4=>Zy 0 b4 (UE x1) (ie (aD 15 (ZZ 9 15 [0,1,3,4,6,7] [0,0,0] (Z7 2 (dc 2 [] [0,0] [b4,b4] (Ez x1.params) ?_)))))))
  rintro _ _ ⟨v1,rfl,rfl⟩
  refine Zo 7 8 [9] (Z7 5 (dc 5 [] [0] [b4] (Ez x1.lent) ?_))
  rintro _ _ ⟨v2,rfl,rfl⟩
  refine Z7 8 (dc 8 [] [] [] (Z3x x1.code) ?_)
  rintro _ _ ⟨v3,rfl,rfl⟩
  refine Z4l 0 x1.code.length (v:=v3) (Ul _) om (fun g1 c1 he1=>?_)
  subst he1
  refine Z7 10 (X1 10 3 [] [] b4 [ZL x1.params v1,Z4 x1.lent,.i x1.result,.i x1.regs,QI x1.code] (Zo 3 4 [11] (Z7 12 (X1 12 0 [] [] b4 [ZL x1.params v1,ZL x1.lent v2,.i x1.result,.i x1.regs,QI x1.code] (Zo 1 2 [13] (Z7 14 (X1 14 0 [] [] b4 [ZL x1.params v1,ZL x1.lent v2,.i x1.result,.i x1.regs,.ms g1 0 x1.code.length c1] (de (Yp 2 [0] (io (.i x1.code.length) (.i x1.code.length) (lr _) (Z2 (ab 2 (Y6 (fun fz gz m F h=>∃(j:Nat),(j<=x1.code.length)/\F=sF [2,3,5,13,14,15,32,33] fz [(34,.i j)]/\h=[Zg gz 0,Zg gz 1,Zg gz 4,Zg gz 5,Zg gz 6,Zg gz 7,Zg gz 8,Zg gz 9,Zg gz 10,Zg gz 3,Zg gz 2]/\m=x1.code.length-j) _ _ _ ⟨0,ob,rfl,rfl,rfl⟩ (wk [0,0,2,2,2,2,2,2,2,1,0] (Ye fl)) ?_)))))))))))))
  rintro m F h ⟨j,Vr,rfl,rfl,rfl⟩
  refine Y3 (aq (Vh ((j:Int)<(x1.code.length:Int)) (fun Zj=>?_) (fun Zj=>?_)))
  ·obtain ⟨xi,hxi⟩:=Zu x1.code j om
   have hxl:=(hpz.code _ (Y7 hxi)).l
   refine ak (aq (ab 3 (Yj 1 (Zq (XJ g1 x1.code.length c1 j 6 (j:Int)) (VD (WM 1 g1 x1.code.length c1 6 (j*6) (Z9 (ZC x1.code)) (Ww xi) 35 (UI xi) (DD hxi)) (iA [.i 0,.i 0,.i 0,.i 0,nl,nl] fun b5=>Z0 1 (Zy 0 b5 (Ww xi) (ie (aE 18 (ZZ 8 18 [0,1,2,3,4,5,6,7,9,10] [1,1,0,0] (Z7 8 (dc 8 [] [0,1,1] [b5,b4,b4] (Ez xi.args) ?_))))))))))))
   rintro _ _ ⟨v4,rfl,rfl⟩
   refine Z7 11 (dc 11 [] [1,1] [b4,b4] (Ez xi.jumps) ?_)
   rintro _ _ ⟨v5,rfl,rfl⟩
   exact dx 12 (XJ g1 x1.code.length c1 j 6 (j:Int)) (Zo 4 5 [13] (Z7 14 (Qy 14 4 [1] [b4] g1 x1.code.length c1 6 (j*6+4) [ZL xi.args v4] (Z9 (ZC x1.code)) ((Z9 (ZC x1.code)).take (j*6+4)++[ZL xi.args v4]++(Z9 (ZC x1.code)).drop (j*6+4+1)) (by rw [Ul];simp only [YA,X6];omega) rfl (Ju (Z1b 0 (.slice (some ⟨g1,0,none⟩) x1.code.length c1) 6 ((Z9 (ZC x1.code)).take (j*6+4)++[ZL xi.args v4]++(Z9 (ZC x1.code)).drop (j*6+4+1)) (Z9 (ZC x1.code)) (Z78 hxi)) (Ju (FI [0,0,0,0,0,0,0,5,5,0,0,0,0,0] (h':=[.row (.slice (some ⟨g1,0,none⟩) x1.code.length c1) 6 (Z9 (ZC x1.code)),.tail v5 1,.tail v4 1,.obj b5 (Ww xi),.obj b4 [ZL x1.params v1,ZL x1.lent v2,.i x1.result,.i x1.regs,.ms g1 0 x1.code.length c1],.obj b3 [Y5 im.decls,.h v],.obj b2 [nl,nl],.tail v1 1,.tail v2 1,rK v 5 (pD (Xd U) (im.procs.take k) 0),rK (U 0) 6 (Z9 (ZC (cL (im.procs.take k) 0))),rK (U 1) 6 (Z9 (ZC (cL (im.procs.take k) 1))),rK (U 2) 6 (Z9 (ZC (cL (im.procs.take k) 2))),rK (U 3) 6 (Z9 (ZC (cL (im.procs.take k) 3)))]) (d:=[]) kr) (dx 15 (XJ g1 x1.code.length c1 j 6 (j:Int)) (Zo 1 2 [16] (Z7 17 (Qy 17 0 [] [] g1 x1.code.length c1 6 (j*6+5) [ZL xi.jumps v5] (Z9 (ZC x1.code)) ((Z9 (ZC x1.code)).take (j*6+5)++[ZL xi.jumps v5]++(Z9 (ZC x1.code)).drop (j*6+5+1)) (by rw [Ul];simp only [YA,X6];omega) rfl (Ju (Z1b 0 (.slice (some ⟨g1,0,none⟩) x1.code.length c1) 6 ((Z9 (ZC x1.code)).take (j*6+5)++[ZL xi.jumps v5]++(Z9 (ZC x1.code)).drop (j*6+5+1)) (Z9 (ZC x1.code)) (Z7a hxi)) (de (az (ZE j (Z2 (ZH ⟨j+1,ob,rfl,rfl,rfl⟩ (wk [4,0,3,3,5,5,5,5,5,3,3] (ZJ j fl)))))))))))))))))
  exact ax 2 (az (Kj 3 [(58,.agg [Z4 x1.params,Z4 x1.lent,.i x1.result,.i x1.regs,.ms g1 0 x1.code.length c1])] [2,0] (iL [.agg [Z4 x1.params,Z4 x1.lent,.i x1.result,.i x1.regs,.ms g1 0 x1.code.length c1]] 1 5 fun v6=>ZY 0 [(59,.sl [.agg [Z4 x1.params,Z4 x1.lent,.i x1.result,.i x1.regs,.ms g1 0 x1.code.length c1]] none)] (EU 5 k v 5 (pD (Xd U) (im.procs.take k) 0) [.agg [Z4 x1.params,Z4 x1.lent,.i x1.result,.i x1.regs,.ms g1 0 x1.code.length c1]] none (by rw [KH,XW,VH om]) (KC rfl) rfl (List.cons_ne_nil _ _) (by simp<;>omega) fun v7=>Z0 1 (Zy 4 b3 [Y5 im.decls,.h v7] (Xb (Z1a 4 5 5 5 5 U im.procs k x1 (⟨some ⟨g1,0,none⟩,x1.code.length,c1⟩:Hd) Z3 om) (ie (az (ZE k (Z2 (ZH ⟨k+1,v7,(U6 U k (⟨some ⟨g1,0,none⟩,x1.code.length,c1⟩:Hd)),ob,rfl,rfl,rfl⟩ (wk [4,7,4,0,0,0,0] (ZJ k fl) (e:=(rc (rc (rr (ls:=pD (Xd U) (im.procs.take k) 0++Z9 [.agg [Z4 x1.params,Z4 x1.lent,.i x1.result,.i x1.regs,.ms g1 0 x1.code.length c1]]) (by first|rfl|exact RL (u:=(⟨some ⟨g1,0,none⟩,x1.code.length,c1⟩:Hd)) Z3) (rc (rc (rc (rc rz))))))))))))))))))))
 exact ax 0 (Zs 1 [0] (Zy 1 b2 [Y5 im.decls,.h v] (ie (ZQ (r3 [2,2,2,2,2] [.agg [Y5 im.decls,.h v]] [0] [(b2,b2)] ⟨v,U,rfl,rfl⟩ (lr _) (eq:=(rr (ls:=pD (Xd U) (im.procs.take k) 0) (by rw [Wh om]) (rr (ls:=Z9 (ZC (cL (im.procs.take k) 0))) (by rw [Wh om]) (rr (ls:=Z9 (ZC (cL (im.procs.take k) 1))) (by rw [Wh om]) (rr (ls:=Z9 (ZC (cL (im.procs.take k) 2))) (by rw [Wh om]) (rr (ls:=Z9 (ZC (cL (im.procs.take k) 3))) (by rw [Wh om]) rz)))))))))))
end Go.Abs
