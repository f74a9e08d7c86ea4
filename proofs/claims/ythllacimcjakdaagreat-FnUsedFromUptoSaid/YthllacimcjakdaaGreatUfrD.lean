/-
  A part of the proof of FnUsedFromUptoSaid (see the last file): no condition.
-/
import Derived.Test.YthllacimcjakdaaGreatUfrC
set_option linter.all false
set_option linter.unusedVariables false
set_option linter.unusedSimpArgs false
set_option linter.unusedSectionVars false
set_option maxRecDepth 10000
set_option maxHeartbeats 4000000
namespace Go.Abs
open Go.Proofs
theorem Bh (xs:LI) (y:Int) (hl:xs.length<=1000000000:=by exact ob):Zi 118 [Z5 xs,.i y] [] (fun r h=>∃(v:Value),r=ZO (Wm xs y) v/\h=[.tail v 1]):=by
 refine ZB 49 Tryz.func118 (ar (Z0 1 (ie (ar (iL (Z7 []) 0 1 fun v1=>?_)))))
 refine Z0 1 (ie (ar (Z0 1 (ie (aq (ar (Z0 1 (ie (ab 0 (ZX (fun fz gz m F h=>∃(k:Nat) (acc:LI) (d:Bool) (v:Value),(k<=xs.length)/\(acc.length<=k+(if d=true then 1 else 0))/\(acc++UD d (xs.drop k) y=Wm xs y)/\F=sF [0,1] fz [(5,ZO acc v),(6,.b d),(7,.i k)]/\h=[.tail v 1]/\m=xs.length-k) _ _ _ ⟨0,[],false,v1,ob,(by simp),rfl,rfl,rfl,rfl⟩ (wk [0] (fw (Y7 fl))) ?_))))))))))
 rintro m F h ⟨k,acc,d,v,Y8,Zm,Zo,rfl,rfl,rfl⟩
 refine aq (ar (Z0 2 (iw (Y2 xs) (Z0 1 (ie (ZH ((k:Int)<(xs.length:Int)) (fun Za=>?_) (fun Za=>?_)))))))
 ·obtain ⟨x1,Z2⟩:=Zp xs k om
  have hil:acc.length<=k+1:=Wt Zm (by split<;>omega)
  refine ak (aq (ab 1 (aq (ar (Xr [0,1,5,6,7] [(24,.b ((!d)&&(decide (x1>=y))))] (fun gz=>gz) ?_ ?_)))))
  ·refine Z0 3 (ib (b:=(!d)) 17 (fun Zb=>?_) (fun Zb=>?_))
   ·exact Z0 2 (Zn (Zh none (k:Int) 1 (ZQ Z2)) (Z0 4 (ie (wk [0] (ZJ (decide (x1>=y)) Zb fl)))))
   exact Z0 7 (ie (wk [0] (ZJ false Zb fl)))
  refine Xo (fun fz gz F h=>∃(acc2:LI) (d2:Bool) (w:Value),((acc2=acc/\d2=d/\(d=true∨¬x1>=y))∨(acc2=acc++[y]/\d2=true/\¬d=true/\x1>y)∨(acc2=acc/\d2=true/\¬d=true/\x1=y))/\(acc2.length<=k+(if d2=true then 1 else 0))/\(acc2.length<=k+1)/\F=sF [0,1,7] fz [(5,ZO acc2 w),(6,.b d2)]/\h=[.tail w 1]) ?_ ?_
  ·refine ac ((!d)&&(decide (x1>=y))) (p:=(¬(d=true))/\(x1>=y)) (Xb (YR Iff.rfl) dq) (fun Zg=>?_) (fun Zg=>?_)
   ·refine aq (ar (Z0 2 (Zn (Zh none (k:Int) 1 (ZQ Z2)) (Z0 3 (ie (Xo (fun fz gz F h=>∃(w3:Value),F=sF [0,1,7] fz [(5,ZO (if x1>y then (acc++[y]) else acc) w3)]/\h=[.tail w3 1]) ?_ ?_))))))
    ·refine ZH (x1>y) (fun ZK=>?_) (fun ZK=>?_)
     ·exact az (Z0 2 (iL (Z7 [y]) 1 1 fun v2=>ZA 0 [(33,Z5 [y])] (ip 1 (Z7 (acc++[y])) (Z7 acc) (Z7 [y]) v none 1 (Yl _) (Yl _) (XD _) (by simp<;>omega) (by simp [XA,Z7]) fun v3=>Z0 1 (ie (ZF ⟨v3,rfl,rfl⟩ (wk [0] (fc (x:=ZO (acc++[y]) v3) (Zf.slh _ (Yg Z7 (by first|rfl|(rw [Zw ZK])|(rw [Zs ZK])|(simp [ZK];done)|(rw [Xi];simp [ZK];done)|omega))) fl)))))))
     exact ak (ZF ⟨v,rfl,rfl⟩ (wk [0] (fc (x:=ZO acc v) (Zf.slh _ (Yg Z7 (by first|rfl|(rw [Zw ZK])|(rw [Zs ZK])|(simp [ZK];done)|(rw [Xi];simp [ZK];done)|omega))) fl)))
    rintro F h ⟨w3,rfl,rfl⟩
    exact az (Z0 1 (ie (ZF ⟨(if x1>y then (acc++[y]) else acc),true,w3,(if h:x1>y then (by rw [Zw h];exact .inr (.inl ⟨rfl,rfl,Zg.1,h⟩)) else (by rw [Zs h];exact .inr (.inr ⟨rfl,rfl,Zg.1,by have:=Zg.2;omega⟩))),(by have h1:=Zm;rw [Zs Zg.1] at h1;split<;>(simp<;>omega)),(by have h1:=Zm;rw [Zs Zg.1] at h1;split<;>(simp<;>omega)),rfl,rfl⟩ (wk [0] fl))))
   exact ak (ZF ⟨acc,d,v,(.inl ⟨rfl,rfl,by by_cases q:d=true;exact .inl q;exact .inr (fun z=>Zg ⟨q,z⟩)⟩),Zm,hil,rfl,rfl⟩ (wk [0] fl))
  rintro F h ⟨acc2,d2,w,WP,Km,ES,rfl,rfl⟩
  exact az (Z0 3 (Zn (Zh none (k:Int) 1 (ZQ Z2)) (Z0 1 (iL (Z7 [x1]) 1 1 fun v4=>ZA 0 [(40,Z5 [x1])] (ip 1 (Z7 (acc2++[x1])) (Z7 acc2) (Z7 [x1]) w none 1 (Yl _) (Yl _) (XD _) (by simp<;>omega) (by simp [XA,Z7]) fun v5=>Z0 1 (ie (az (Z0 1 (ZE k (Z0 1 (ie (ZG ⟨k+1,(acc2++[x1]),d2,v5,ob,(by simp only [Yb,Yw,YV];omega),(RK Z2 Zo WP),rfl,rfl,rfl⟩ (wk [0] (fw (ZI k fl)))))))))))))))
 have hil:acc.length<=k+1:=Wt Zm (by split<;>omega)
 refine ax 0 (aq (ar (Z0 2 (ie (Xo (fun fz gz F h=>∃(w4:Value),F=sF [] fz [(5,ZO (if d=true then acc else (acc++[y])) w4)]/\h=[.tail w4 1]) ?_ ?_)))))
 ·refine ac (!d) (p:=¬(d=true)) (YR Iff.rfl) (fun Yi=>?_) (fun Yi=>?_)
  ·exact az (Z0 2 (iL (Z7 [y]) 1 1 fun v6=>ZA 0 [(46,Z5 [y])] (ip 1 (Z7 (acc++[y])) (Z7 acc) (Z7 [y]) v none 1 (Yl _) (Yl _) (XD _) (by simp<;>omega) (by simp [XA,Z7]) fun v7=>Z0 1 (ie (ZF ⟨v7,rfl,rfl⟩ (wk [0] (fc (x:=ZO (acc++[y]) v7) (Zf.slh _ (Yg Z7 (by first|rfl|(rw [Zw Yi])|(rw [Zs Yi])|(simp [Yi];done)|(rw [Xi];simp [Yi];done)|omega))) fl)))))))
  exact ak (ZF ⟨v,rfl,rfl⟩ (wk [0] (fc (x:=ZO acc v) (Zf.slh _ (Yg Z7 (by first|rfl|(rw [Zw Yi])|(rw [Zs Yi])|(simp [Yi];done)|(rw [Xi];simp [Yi];done)|omega))) fl)))
 rintro F h ⟨w4,rfl,rfl⟩
 exact ar (Z0 2 (ie (Z9 (r2 [0] [ZO (if d=true then acc else (acc++[y])) w4] ⟨w4,rfl,rfl⟩ (Zf.slh _ (Yg Z7 (RJ om Zo)))))))
theorem HG (xs:LI) (y:Int) (hl:xs.length<=1000000000:=by exact ob):Zi 260 [Z5 xs,.i y] [] (fun r h=>∃(v:Value),r=ZO (Ul xs y) v/\h=[.tail v 1]):=by
 refine ZB 28 Tryz.func260 (ar (Z0 1 (ie (ar (iL (Z7 []) 0 1 fun v1=>?_)))))
 refine Z0 1 (ie (aq (ar (Z0 1 (ie (ab 0 (ZX (fun fz gz m F h=>∃(k:Nat) (acc:LI) (v:Value),(k<=xs.length)/\(acc.length<=k)/\(acc++Ul (xs.drop k) y=Ul xs y)/\F=sF [0,1] fz [(5,ZO acc v),(6,.i k)]/\h=[.tail v 1]/\m=xs.length-k) _ _ _ ⟨0,[],v1,ob,ob,rfl,rfl,rfl,rfl⟩ (wk [0] (fr (Y7 fl))) ?_)))))))
 rintro m F h ⟨k,acc,v,Y8,Zm,Zo,rfl,rfl,rfl⟩
 refine aq (ar (Z0 2 (iw (Y2 xs) (Z0 1 (ie (ZH ((k:Int)<(xs.length:Int)) (fun Za=>?_) (fun Za=>?_)))))))
 ·refine ak (aq (ab 1 (ar (Z0 2 ?_))))
  obtain ⟨x1,Z2⟩:=Zp xs k om
  refine Zn (Zh none (k:Int) 1 (ZQ Z2)) (Z0 3 (ie (KS (fun fz gz F h=>∃(w:Value),F=sF [0,1,6] fz [(5,ZO (if x1≠y then (acc++[x1]) else acc) w)]/\h=[.tail w 1]) (fun _ _=>rfl) ?_ ?_)))
  ·refine ac (x1 != y) X4 (fun Zg=>?_) (fun Zg=>?_)
   ·exact az (Z0 3 (Zn (Zh none (k:Int) 1 (ZQ Z2)) (Z0 1 (iL (Z7 [x1]) 1 1 fun v2=>ZA 0 [(25,Z5 [x1])] (ip 1 (Z7 (acc++[x1])) (Z7 acc) (Z7 [x1]) v none 1 (Yl _) (Yl _) (XD _) (by simp<;>omega) (by simp [XA,Z7]) fun v3=>Z0 1 (ie (ZF ⟨v3,rfl,rfl⟩ (wk [0] (fc (x:=ZO (acc++[x1]) v3) (Zf.slh _ (Yg Z7 (by first|rfl|(rw [Zw Zg])|(rw [Zs Zg])|(simp [Zg];done)|(rw [Xi];simp [Zg];done)|omega))) fl)))))))))
   exact ak (ZF ⟨v,rfl,rfl⟩ (wk [0] (fc (x:=ZO acc v) (Zf.slh _ (Yg Z7 (by first|rfl|(rw [Zw Zg])|(rw [Zs Zg])|(simp [Zg];done)|(rw [Xi];simp [Zg];done)|omega))) fl)))
  rintro F h ⟨w,rfl,rfl⟩
  exact az (Z0 1 (ZE k (Z0 1 (ie (ZG ⟨k+1,(if x1≠y then (acc++[x1]) else acc),w,ob,(by split<;>(try simp)<;>omega),(Z09 Z2 Zo),rfl,rfl,rfl⟩ (wk [0] (fr (ZI k fl))))))))
 exact ax 0 (ar (Z0 2 (ie (Z9 (r2 [0] [ZO acc v] ⟨v,rfl,rfl⟩ (Zf.slh _ (Yg Z7 (Z08 om Zo))))))))
theorem Z1v (s:Z3) (q:Int) (xs:LI) (ih:∀(b2:Z4) (q:Int) (k2:Nat) (xs2:LI),(b2.sz<s.sz)->(k2<=b2.steps.length)->(xs2.length+b2.sz<=1000000000)->Zi 83 [ZC b2,.i q,.i k2,Z5 xs2] [] (Ym (Z5 (WG q (WH q (b2.steps.drop k2) xs2) b2.result)))) (hz:xs.length+s.sz<=1000000000):Zi 117 [Yk s,.i q,Z5 xs] [] (Ym (Z5 (UW q s xs))):=by
 have hkz:=U8 s
 have haz:=Tp s
 have hse:=s.sz_eq
 refine ZB 58 Tryz.func117 (ar (iA (X6 s) fun b1=>Z0 1 (ie (aq (ar (Z6 2 [0] (Zr [] (LP s.op) (ie (ac (YG s.op) Iff.rfl (fun Za=>?_) (fun Za=>?_))))))))))
 ·exact ar (Z0 2 (ie (Z9 (ZZ (Z5 xs) (Zf.sl _ (Yg Z7 (by rw [Mo,Zw (by assumption)])))))))
 refine ak (aq (ar (Z0 1 (ie (ab 0 (ZX (fun fz gz m F h=>∃(j:Nat) (ys:LI),(j<=s.args.length)/\(ys.length<=xs.length+j)/\(Vn q (s.args.drop j) ys=Vn q s.args xs)/\F=sF [1,3] fz [(2,Z5 ys),(7,.i j)]/\h=gz/\m=s.args.length-j) _ _ _ ⟨0,xs,ob,ob,rfl,rfl,rfl,rfl⟩ (wk [0] (fr (Y7 fl))) ?_))))))
 rintro m F h ⟨j,ys,Y8,Zm,Zo,rfl,rfl,rfl⟩
 refine aq (ar (Z6 3 [0] (iw (Y2 s.args) (Z0 1 (ie (ZH ((j:Int)<(s.args.length:Int)) (fun Zg=>?_) (fun Zg=>?_)))))))
 ·refine ak (aq (ab 1 (ar (Z6 3 [0] ?_))))
  obtain ⟨x1,Z2⟩:=Zp s.args j om
  refine Zn (Zh none (j:Int) 1 (ZQ Z2)) (Xr [1,2,3,7] [(34,.b ((decide (x1>=0))&&(decide (x1<q))))] (fun gz=>gz) ?_ ?_)
  ·refine Z0 3 (ib (b:=(decide (x1>=0))) 26 (fun Zb=>?_) (fun Zb=>?_))
   ·exact Z6 3 [0] (Zn (Zh none (j:Int) 1 (ZQ Z2)) (Z0 4 (ie (wk [0] (ZJ (decide (x1<q)) Zb fl)))))
   exact Z0 8 (ie (wk [0] (ZJ false Zb fl)))
  refine KS (fun fz gz F h=>F=sF [1,3,7] fz [(2,Z5 (WG q ys x1))]/\h=gz) (fun _ _=>rfl) ?_ ?_
  ·refine ac ((decide (x1>=0))&&(decide (x1<q))) (p:=(x1>=0)/\(x1<q)) (Xb dq dq) (fun ZK=>?_) (fun ZK=>?_)
   ·refine az (Z6 4 [0] (Zn (Zh none (j:Int) 1 (ZQ Z2)) (Z0 1 (ic [] (Bh ys x1) ?_))))
    rintro _ _ ⟨v1,rfl,rfl⟩
    exact Z0 1 (ie (ZF ⟨rfl,rfl⟩ (wk [1] (fc (x:=ZO (Wm ys x1) v1) (Zf.sl _ (Yg Z7 (by rw [WG,Zw (by assumption)]))) fl))))
   exact ak (ZF ⟨rfl,rfl⟩ (wk [0] (fc (x:=Z5 ys) (Zf.sl _ (Yg Z7 (by rw [WG,Zs (by assumption)]))) fl)))
  rintro F h ⟨rfl,rfl⟩
  exact az (Z0 1 (ZE j (Z0 1 (ie (ZG ⟨j+1,(WG q ys x1),ob,(by have:=BQ (n:=q) ys x1;omega),(Z3m Z2 Zo),rfl,rfl,rfl⟩ (wk [0] (fr (ZI j fl))))))))
 have hA:Vn q s.args xs=ys:=(Z3l om Zo).symm
 refine ax 0 (aq (ar (Z0 1 (ie (ab 2 (ZX (fun fz gz m F h=>∃(j:Nat) (zs:LI),(j<=s.kids.length)/\(zs.length<=xs.length+s.args.length+YF (s.kids.take j))/\(UF q (s.kids.drop j) zs=UF q s.kids (Vn q s.args xs))/\F=sF [1,3] fz [(2,Z5 zs),(8,.i j)]/\h=gz/\m=s.kids.length-j) _ _ _ ⟨0,ys,ob,(by rw [List.take_zero,YF];omega),(by rw [hA];rfl),rfl,rfl,rfl⟩ (wk [0] (fr (Y7 fl))) ?_))))))
 rintro m F h ⟨j,zs,U3,Ww,Xc,rfl,rfl,rfl⟩
 refine aq (ar (Z6 3 [0] (iw (Vh s.kids) (Z0 1 (ie (ZH ((j:Int)<(s.kids.length:Int)) (fun Yi=>?_) (fun Yi=>?_)))))))
 ·refine ak (aq (ab 3 (az (Z6 3 [0] ?_))))
  obtain ⟨x2,Zt⟩:=Zp s.kids j om
  have hks:=VW Zt
  have hbt:=C9 Zt
  have hbx:=C8 Zt
  have hul:=Ds (n:=q) x2 zs
  exact Zn (Zh none (j:Int) 2 (Vs Zt)) (Z0 3 (Zr [] (ih x2 q 0 zs ob ob ob) (Z0 1 (ie (az (Z0 1 (ZE j (Z0 1 (ie (ZG ⟨j+1,(WY q x2 zs),ob,om,(Z3p Zt Xc),rfl,rfl,rfl⟩ (wk [0] (fc (x:=Z5 (WG q (WH q (x2.steps.drop 0) zs) x2.result)) (Zf.sl _ (Yg Z7 (by rw [Ml];rfl))) (ZI j fl)))))))))))))
 exact ax 2 (ar (Z0 2 (ie (Z9 (ZZ (Z5 zs) (Zf.sl _ (Yg Z7 (by rw [Mo,Zs (by assumption)];exact (Z3o om Xc)))))))))
theorem Z1x (b:Z4) (q:Int) (k0:Nat) (xs:LI) (ih:∀(s2:Z3) (q:Int) (xs2:LI),(s2.sz<b.sz)->(xs2.length+s2.sz<=1000000000)->Zi 117 [Yk s2,.i q,Z5 xs2] [] (Ym (Z5 (UW q s2 xs2)))) (hk:k0<=b.steps.length) (hz:xs.length+b.sz<=1000000000):Zi 83 [ZC b,.i q,.i k0,Z5 xs] [] (Ym (Z5 (WG q (WH q (b.steps.drop k0) xs) b.result))):=by
 have hbz:=WQ b
 have hbe:=b.sz_eq
 have hsd:=AM b.steps k0
 refine ZB 40 Tryz.func83 (ar (iA (YE b) fun b1=>?_))
 refine Z0 1 (ie (aq (ar (Z0 2 (ie (ab 0 (ZX (fun fz gz m F h=>∃(k:Nat) (ys:LI),(k<=b.steps.length)/\(ys.length+Y5 (b.steps.drop k)<=xs.length+Y5 (b.steps.drop k0))/\(WH q (b.steps.drop k) ys=WH q (b.steps.drop k0) xs)/\F=sF [1,4] fz [(3,Z5 ys),(9,.i k)]/\h=gz/\m=b.steps.length-k) _ _ _ ⟨k0,xs,ob,(YI _),rfl,rfl,rfl,rfl⟩ (wk [0] fl) ?_)))))))
 rintro m F h ⟨k,ys,Y8,Zm,Zo,rfl,rfl,rfl⟩
 refine aq (ar (Z6 3 [0] (iw (W1 b.steps) (Z0 1 (ie (ZH ((k:Int)<(b.steps.length:Int)) (fun Za=>?_) (fun Za=>?_)))))))
 ·refine ak (aq (ab 1 (az (Z6 3 [0] ?_))))
  obtain ⟨x1,Z2⟩:=Zp b.steps k om
  have hss:=Q3 Z2
  have hsd1:=FG Z2
  have hul:=Mp (n:=q) x1 ys
  exact Zn (Zh none (k:Int) 5 (XG Z2)) (Z0 3 (Zr [] (ih x1 q ys ob ob) (Z0 1 (ie (az (Z0 1 (ZE k (Z0 1 (ie (ZG ⟨k+1,(UW q x1 ys),ob,ob,(Z3s Z2 Zo),rfl,rfl,rfl⟩ (wk [0] (fr (ZI k fl)))))))))))))
 refine ax 0 (aq (ar (Xr [3,4] [(34,.b ((decide (b.result>=0))&&(decide (b.result<q))))] (fun gz=>gz) ?_ ?_)))
 ·refine Z6 4 [0] (ib (b:=(decide (b.result>=0))) 29 (fun Zb=>?_) (fun Zb=>?_))
  ·exact Z6 5 [0] (ie (wk [0] (ZJ (decide (b.result<q)) Zb fl)))
  exact Z0 5 (ie (wk [0] (ZJ false Zb fl)))
 refine Xo (fun fz gz F h=>F=sF [] fz [(3,Z5 (WG q ys b.result))]/\h=[]) ?_ ?_
 ·refine ac ((decide (b.result>=0))&&(decide (b.result<q))) (p:=(b.result>=0)/\(b.result<q)) (Xb dq dq) (fun Zg=>?_) (fun Zg=>?_)
  ·refine az (Z6 3 [0] (ic [] (Bh ys b.result) ?_))
   rintro _ _ ⟨v1,rfl,rfl⟩
   exact Z0 1 (ie (ZF ⟨rfl,rfl⟩ (wk [] (fc (x:=ZO (Wm ys b.result) v1) (Zf.sl _ (Yg Z7 (by rw [WG,Zw (by assumption)]))) fl))))
  exact ak (ZF ⟨rfl,rfl⟩ (wk [] (fc (x:=Z5 ys) (Zf.sl _ (Yg Z7 (by rw [WG,Zs (by assumption)]))) fl)))
 rintro F h ⟨rfl,rfl⟩
 exact ar (Z0 2 (ie (Z9 (ZZ (Z5 (WG q ys b.result)) (Zf.sl _ (Yg Z7 (by rw [Z3r om Zo])))))))
theorem Z2l (k:Nat):(∀(s:Z3) (q:Int) (xs:LI),(s.sz<=k)->(xs.length+s.sz<=1000000000)->Zi 117 [Yk s,.i q,Z5 xs] [] (Ym (Z5 (UW q s xs))))/\(∀(b:Z4) (q:Int) (k0:Nat) (xs:LI),(b.sz<=k)->(k0<=b.steps.length)->(xs.length+b.sz<=1000000000)->Zi 83 [ZC b,.i q,.i k0,Z5 xs] [] (Ym (Z5 (WG q (WH q (b.steps.drop k0) xs) b.result)))):=by
 induction k with
 | zero=>exact ⟨fun s q xs h=>by have:=s.sz_pos;omega,fun b q k0 xs h=>by have:=b.sz_pos;omega⟩
 | succ k ih=>exact ⟨fun s q xs h hz=>Z1v s q xs (fun b2 q k2 xs2 h2 hk h3=>ih.2 b2 q k2 xs2 om hk h3) hz,fun b q k0 xs h hk hz=>Z1x b q k0 xs (fun s2 q xs2 h2 h3=>ih.1 s2 q xs2 om h3) hk hz⟩
theorem FA (b:Z4) (q:Int) (k0:Nat) (xs:LI) (hk:k0<=b.steps.length:=by exact ob) (hz:xs.length+b.sz<=1000000000:=by exact ob):Zi 83 [ZC b,.i q,.i k0,Z5 xs] [] (Ym (Z5 (WG q (WH q (b.steps.drop k0) xs) b.result))):=(Z2l b.sz).2 b q k0 xs (YI _) hk hz
theorem LX (b:Z4) (q:Int) (hz:b.sz<=100000000:=by exact ob):Zi 75 [ZC b,.i q] [] (Ym (Z5 (WY q b []))):=by
 exact ZB 9 Tryz.func75 (ar (iA (YE b) fun b1=>Z0 1 (ie (ar (Z6 2 [0] (iL (Z7 []) 0 1 fun v1=>ZA 0 [(7,Z5 [])] (Zr [] (FA b q 0 [] (hk:=(T0 _))) (Z0 1 (ie (Z9 (ZZ (Z5 (WG q (WH q (b.steps.drop 0) []) b.result)) (Zf.sl _ (Yg Z7 (by rw [Ml];rfl))))))))))))))
theorem R8 (xs:LI) (ys:LI) (hz:xs.length+ys.length<=100000000:=by exact ob):Zi 255 [Z5 xs,Z5 ys] [] (fun r h=>∃(zs:LI),r=Z5 zs/\h=[]/\zs.length<=xs.length+ys.length):=by
 refine ZB 22 Tryz.func255 (ar (Z0 1 (ie (ar (Z0 1 (ic [] (V7 xs) ?_))))))
 rintro _ _ ⟨v1,rfl,rfl⟩
 refine Z0 1 (ie (aq (ar (Z0 1 (ie (ab 0 (ZX (fun fz gz m F h=>∃(k:Nat) (zs:LI),(k<=ys.length)/\(zs.length<=xs.length+k)/\F=sF [1] fz [(5,Z5 zs),(6,.i k)]/\h=[]/\m=ys.length-k) _ _ _ ⟨0,xs,ob,ob,rfl,rfl,rfl⟩ (wk [] (fc (x:=ZO xs v1) (Zf.forget _ _) (Y7 fl))) ?_)))))))
 rintro m F h ⟨k,zs,Y8,Zm,rfl,rfl,rfl⟩
 refine aq (ar (Z0 2 (iw (Y2 ys) (Z0 1 (ie (ZH ((k:Int)<(ys.length:Int)) (fun Za=>?_) (fun Za=>?_)))))))
 ·refine ak (aq (ab 1 (az (Z0 3 ?_))))
  obtain ⟨x1,Z2⟩:=Zp ys k om
  refine Zn (Zh none (k:Int) 1 (ZQ Z2)) (Z0 1 (ic [] (Bh zs x1) ?_))
  rintro _ _ ⟨v2,rfl,rfl⟩
  exact Z0 1 (ie (az (Z0 1 (ZE k (Z0 1 (ie (ZG ⟨k+1,(Wm zs x1),ob,(by have:=At zs x1;omega),rfl,rfl,rfl⟩ (wk [] (fc (x:=ZO (Wm zs x1) v2) (Zf.forget _ _) (ZI k fl))))))))))
 exact ax 0 (ar (Z0 2 (ie (Z9 (r1 [] ⟨zs,rfl,rfl,ob⟩)))))
theorem Hr (xs:LI) (ys:LI) (hz:xs.length<=100000000:=by exact ob) (hy:ys.length<=100000000:=by exact ob):Zi 268 [Z5 xs,Z5 ys] [] (fun r h=>∃(zs:LI) (v:Value),r=ZO zs v/\h=[.tail v 1]/\zs.length<=xs.length/\∀z∈zs,z∈xs):=by
 refine ZB 28 Tryz.func268 (ar (Z0 1 (ie (ar (iL (Z7 []) 0 1 fun v1=>?_)))))
 refine Z0 1 (ie (aq (ar (Z0 1 (ie (ab 0 (ZX (fun fz gz m F h=>∃(k:Nat) (zs:LI) (u:Value),(k<=xs.length)/\(zs.length<=k)/\(∀z∈zs,z∈xs)/\F=sF [0,1] fz [(5,ZO zs u),(6,.i k)]/\h=[.tail u 1]/\m=xs.length-k) _ _ _ ⟨0,[],v1,ob,ob,(fun z hz=>by cases hz),rfl,rfl,rfl⟩ (wk [0] (fr (Y7 fl))) ?_)))))))
 rintro m F h ⟨k,zs,u,Y8,Zm,Zo,rfl,rfl,rfl⟩
 refine aq (ar (Z0 2 (iw (Y2 xs) (Z0 1 (ie (ZH ((k:Int)<(xs.length:Int)) (fun Za=>?_) (fun Za=>?_)))))))
 ·refine ak (aq (ab 1 (ar (Z0 3 ?_))))
  obtain ⟨x1,Z2⟩:=Zp xs k om
  refine Zn (Zh none (k:Int) 1 (ZQ Z2)) (Z0 1 (Zr [] (Vm ys x1) (ie (ZH (x1∈ys) (fun Zg=>?_) (fun Zg=>?_)))))
  ·exact az (Z0 3 (Zn (Zh none (k:Int) 1 (ZQ Z2)) (Z0 1 (iL (Z7 [x1]) 1 1 fun v2=>ZA 0 [(25,Z5 [x1])] (ip 1 (Z7 (zs++[x1])) (Z7 zs) (Z7 [x1]) u none 1 (Yl _) (Yl _) (XD _) (by simp<;>omega) (by simp [XA,Z7]) fun v3=>Z0 1 (ie (az (Z0 1 (ZE k (Z0 1 (ie (ZG ⟨k+1,(zs++[x1]),v3,ob,ob,(by first|exact Zo|exact YZ Zo (ZU Z2)),rfl,rfl,rfl⟩ (wk [0] (fr (ZI k fl)))))))))))))))
  exact ak (az (Z0 1 (ZE k (Z0 1 (ie (ZG ⟨k+1,zs,u,ob,ob,(by first|exact Zo|exact YZ Zo (ZU Z2)),rfl,rfl,rfl⟩ (wk [0] (fr (ZI k fl)))))))))
 exact ax 0 (ar (Z0 2 (ie (Z9 (r1 [0] ⟨zs,u,rfl,rfl,⟨by omega,Zo⟩⟩)))))
theorem EC (xs:LI) (q:Int) (hz:xs.length<=100000000:=by exact ob):Zi 272 [Z5 xs,.i q] [] (fun r h=>∃(zs:LI) (v:Value),r=ZO zs v/\h=[.tail v 1]/\zs.length<=xs.length/\∀z∈zs,z∈xs):=by
 refine ZB 28 Tryz.func272 (ar (Z0 1 (ie (ar (iL (Z7 []) 0 1 fun v1=>?_)))))
 refine Z0 1 (ie (aq (ar (Z0 1 (ie (ab 0 (ZX (fun fz gz m F h=>∃(k:Nat) (zs:LI) (u:Value),(k<=xs.length)/\(zs.length<=k)/\(∀z∈zs,z∈xs)/\F=sF [0,1] fz [(5,ZO zs u),(6,.i k)]/\h=[.tail u 1]/\m=xs.length-k) _ _ _ ⟨0,[],v1,ob,ob,(fun z hz=>by cases hz),rfl,rfl,rfl⟩ (wk [0] (fr (Y7 fl))) ?_)))))))
 rintro m F h ⟨k,zs,u,Y8,Zm,Zo,rfl,rfl,rfl⟩
 refine aq (ar (Z0 2 (iw (Y2 xs) (Z0 1 (ie (ZH ((k:Int)<(xs.length:Int)) (fun Za=>?_) (fun Za=>?_)))))))
 ·refine ak (aq (ab 1 (ar (Z0 2 ?_))))
  obtain ⟨x1,Z2⟩:=Zp xs k om
  refine Zn (Zh none (k:Int) 1 (ZQ Z2)) (Z0 3 (ie (ZH (x1<q) (fun Zg=>?_) (fun Zg=>?_))))
  ·exact az (Z0 3 (Zn (Zh none (k:Int) 1 (ZQ Z2)) (Z0 1 (iL (Z7 [x1]) 1 1 fun v2=>ZA 0 [(25,Z5 [x1])] (ip 1 (Z7 (zs++[x1])) (Z7 zs) (Z7 [x1]) u none 1 (Yl _) (Yl _) (XD _) (by simp<;>omega) (by simp [XA,Z7]) fun v3=>Z0 1 (ie (az (Z0 1 (ZE k (Z0 1 (ie (ZG ⟨k+1,(zs++[x1]),v3,ob,ob,(by first|exact Zo|exact YZ Zo (ZU Z2)),rfl,rfl,rfl⟩ (wk [0] (fr (ZI k fl)))))))))))))))
  exact ak (az (Z0 1 (ZE k (Z0 1 (ie (ZG ⟨k+1,zs,u,ob,ob,(by first|exact Zo|exact YZ Zo (ZU Z2)),rfl,rfl,rfl⟩ (wk [0] (fr (ZI k fl)))))))))
 exact ax 0 (ar (Z0 2 (ie (Z9 (r1 [0] ⟨zs,u,rfl,rfl,⟨by omega,Zo⟩⟩)))))
theorem QP (op:Int) (v:Int) :Zi 88 [.i op,.i v] [] (Ym (Yk (Zl op v))):=by
 exact ZB 10 Tryz.func88 (ar (iA [.i 0,.i 0,.i 0,nl,nl] fun b1=>ie (ar (Z0 2 (iL (Z7 [v]) 1 1 fun v1=>iL (Yh []) 0 2 fun v2=>Z0 1 (Zy 2 b1 [.i op,.i 0,.i 0,ZO [v] v1,VK [] v2] (ie (Z9 (r3 [] [.agg [.i op,.i 0,.i 0,ZO [v] v1,VK [] v2]] [0] [(b1,b1)] ⟨rfl,rfl⟩ (Zf.agg (.cons li (.cons li (.cons li (.cons (Zf.sl _ (Yg Z7 rfl)) (.cons (Zf.sl _ (Yg Yh rfl)) .nil)))))))))))))))
theorem TB (op:Int) (xs:LI) (hl:xs.length<=1000000000:=by exact ob):Zi 229 [.i op,Z5 xs] [] (fun r h=>∃(v:Value),r=Yx (xs.map (Zl op)) v/\h=[.tail v 5]):=by
 refine ZB 24 Tryz.func229 (ar (Z0 1 (ie (ar (iL (Zk []) 0 5 fun v1=>?_)))))
 refine Z0 1 (ie (aq (ar (Z0 1 (ie (ab 0 (ZX (fun fz gz m F h=>∃(k:Nat) (v:Value),(k<=xs.length)/\F=sF [0,1] fz [(5,Yx ((xs.take k).map (Zl op)) v),(6,.i k)]/\h=[.tail v 5]/\m=xs.length-k) _ _ _ ⟨0,v1,ob,rfl,rfl,rfl⟩ (wk [0] (fc (x:=Yx [] v1) (Zf.slh _ (Yg Zk rfl)) (Y7 fl))) ?_)))))))
 rintro m F h ⟨k,v,Y8,rfl,rfl,rfl⟩
 refine aq (ar (Z0 2 (iw (Y2 xs) (Z0 1 (ie (ZH ((k:Int)<(xs.length:Int)) (fun Za=>?_) (fun Za=>?_)))))))
 ·refine ak (aq (ab 1 (az (Z0 4 ?_))))
  obtain ⟨x1,Z2⟩:=Zp xs k om
  exact Zn (Zh none (k:Int) 1 (ZQ Z2)) (Z0 1 (Zr [] (QP op x1) (iL [Yk (Zl op x1)] 1 5 fun v2=>ZA 0 [(21,.sl [Yk (Zl op x1)] none)] (ip 1 (Zk ((xs.take (k+1)).map (Zl op))) (Zk ((xs.take k).map (Zl op))) [Yk (Zl op x1)] v none 5 (YP _) (UQ rfl) rfl (by simp<;>omega) (by rw [Ve Z2];simp [Wx]) fun v3=>Z0 1 (ie (az (Z0 1 (ZE k (Z0 1 (ie (ZG ⟨k+1,v3,ob,rfl,rfl,rfl⟩ (wk [0] (fr (ZI k fl))))))))))))))
 exact ax 0 (ar (Z0 2 (ie (Z9 (r2 [0] [Yx ((xs.take k).map (Zl op)) v] ⟨v,rfl,rfl⟩ (Zf.slh _ (Yg Zk (by rw [Vo om]))))))))
theorem PL (n:Zu) (s:Z3) (i:Nat) (mm:Nat) (hn:X2 n:=by exact ob) (hf:FS n.decls n.routines.length mm s:=by exact ob) (hi:i<s.args.length:=by exact ob):Zi 271 [Yc n,Yk s,.i i] [] (fun r h=>∃(wr:Bool),r=.b wr/\h=[]):=by
 have hal:=hf.alen
 refine ZB 42 Tryz.func271 (ar (iA (YC n) fun b1=>iA (X6 s) fun b2=>?_))
 refine Z0 1 (ie (aq (ar (Z0 1 (ie (ab 0 (ZX (fun fz gz m F h=>∃(k:Nat),(k<=s.args.length)/\F=sF [2,3,4] fz [(7,.i k)]/\h=gz/\m=s.args.length-k) _ _ _ ⟨0,ob,rfl,rfl,rfl⟩ (wk [0,0] (Y7 fl)) ?_)))))))
 rintro m F h ⟨k,Y8,rfl,rfl,rfl⟩
 refine aq (ar (Z6 3 [0] (iw (Y2 s.args) (Z0 1 (ie (ZH ((k:Int)<(s.args.length:Int)) (fun Za=>?_) (fun Za=>?_)))))))
 ·refine ak (aq (ab 1 (aD 27 (Zj 23 27 [0,1,2,3] (db (b:=((k:Int) != (i:Int))) 18 (fun Zb=>?_) (fun Zb=>?_))))))
  ·refine ZD 20 23 [4,5,6] [0] ?_
   obtain ⟨x1,Z2⟩:=Zp s.args k om
   refine dx 7 (Zh none (k:Int) 1 (ZQ Z2)) (ZD 15 19 [8,9,10,11] [0] ?_)
   obtain ⟨x2,Zt⟩:=Zp s.args i om
   refine dx 12 (Zh none (i:Int) 1 (ZQ Zt)) (Zj 10 14 [13,14,15,16] (db (b:=(x1==x2)) 31 (fun ZM=>?_) (fun ZM=>?_)))
   ·refine Zj 6 10 [17,18,19,20] (db (b:=(decide ((k:Int)>(i:Int)))) 35 (fun YT=>?_) (fun YT=>?_))
    ·exact Zj 0 6 [21,22,23,24,25,26] (de (WZ (ar (Z0 1 (ie (Z9 (r1 [] ⟨true,rfl,rfl⟩)))))))
    refine ZD 3 6 [21,22,23] [1,0] (Z8 24 (Yf 24 [] [] [] (BN n s k (hnum:=hf.call)) (Zj 0 2 [25,26] (de (ac (Vv n s.op s.num k) Iff.rfl (fun Zg=>?_) (fun Zg=>?_))))))
    ·exact ar (Z0 1 (ie (Z9 (r1 [] ⟨true,rfl,rfl⟩))))
    exact ak (az (Z0 1 (ZE k (Z0 1 (ie (ZG ⟨k+1,ob,rfl,rfl,rfl⟩ (wk [0,0] (ZI k fl))))))))
   exact Zj 0 10 [17,18,19,20,21,22,23,24,25,26] (de (Wi (ak (az (Z0 1 (ZE k (Z0 1 (ie (ZG ⟨k+1,ob,rfl,rfl,rfl⟩ (wk [0,0] (ZI k fl)))))))))))
  exact Zj 0 23 [4,5,6,7,8,9,10,11,12,13,14,15,16,17,18,19,20,21,22,23,24,25,26] (de (Wi (ak (az (Z0 1 (ZE k (Z0 1 (ie (ZG ⟨k+1,ob,rfl,rfl,rfl⟩ (wk [0,0] (ZI k fl)))))))))))
 exact ax 0 (ar (Z0 1 (ie (Z9 (r1 [] ⟨false,rfl,rfl⟩)))))
theorem Hx (n:Zu) (s:Z3) (i:Nat) (mm:Nat) (os:LI) (ls:LI) (hn:X2 n:=by exact ob) (hf:FS n.decls n.routines.length mm s:=by exact ob) (hi:i<s.args.length:=by exact ob) (ho:os.length<=100000000:=by exact ob) (hl:ls.length<=100000000:=by exact ob):Zi 266 [Yc n,Yk s,.i i,Z5 os,Z5 ls] [] (fun r h=>∃(wr:Bool),r=.b wr/\h=[]):=by
 refine ZB 34 Tryz.func266 (ar (iA (YC n) fun b1=>iA (X6 s) fun b2=>Z0 1 (ie (ar (Z6 4 [0] ?_)))))
 obtain ⟨x1,Z2⟩:=Zp s.args i om
 refine Zn (Zh none (i:Int) 1 (ZQ Z2)) (Z0 1 (Zr [] (Vm ls x1) (Z0 1 (ib (b:=(decide (x1∈ls))) 18 (fun Zb=>?_) (fun Zb=>?_)))))
 ·exact Z0 16 (ie (Z9 (r1 [] ⟨true,rfl,rfl⟩)))
 refine Z6 4 [0] (Zn (Zh none (i:Int) 1 (ZQ Z2)) (Z0 1 (Zr [] (Vm os x1) (Z0 3 (ib (b:=(!(decide (x1∈os)))) 28 (fun ZM=>?_) (fun ZM=>?_))))))
 ·exact Z0 6 (ie (Z9 (r1 [] ⟨true,rfl,rfl⟩)))
 refine Z6 3 [1,0] (ic [] (PL n s i mm) ?_)
 rintro _ _ ⟨wr1,rfl,rfl⟩
 exact Z0 2 (ie (Z9 (r1 [] ⟨wr1,rfl,rfl⟩)))
theorem Pr (n:Zu) (us:LI) (s:Z3) (os:LI) (ls:LI) (mm:Nat) (hn:X2 n:=by exact ob) (hf:FS n.decls n.routines.length mm s:=by exact ob) (hvl:us.length=mm:=by exact ob) (hm:mm<=100000000:=by exact ob) (ho:os.length<=100000000:=by exact ob) (hl:ls.length<=100000000:=by exact ob):Zi 256 [Yc n,Z5 us,Yk s,Z5 os,Z5 ls] [] (fun r h=>∃(zs:LI),r=Z5 zs/\h=[]/\zs.length<=s.args.length/\∀z∈zs,z∈s.args):=by
 have hal:=hf.alen
 refine ZB 43 Tryz.func256 (ar (iA (YC n) fun b1=>iA (X6 s) fun b2=>Z0 1 (ie (ar (iL (Z7 []) 0 1 fun v1=>?_)))))
 refine Z0 1 (ie (aq (ar (Z0 1 (ie (ab 0 (ZX (fun fz gz m F h=>∃(k:Nat) (zs:LI) (u:Value),(k<=s.args.length)/\(zs.length<=k)/\(∀z∈zs,z∈s.args)/\F=sF [1,3,4,5,7] fz [(11,ZO zs u),(12,.i k)]/\h=[Ze gz 1,Ze gz 2,.tail u 1]/\m=s.args.length-k) _ _ _ ⟨0,[],v1,ob,ob,(fun z hz=>by cases hz),rfl,rfl,rfl⟩ (wk [1,1,0] (fr (Y7 fl))) ?_)))))))
 rintro m F h ⟨k,zs,u,Y8,Zm,Zo,rfl,rfl,rfl⟩
 refine aq (ar (Z6 3 [0] (iw (Y2 s.args) (Z0 1 (ie (ZH ((k:Int)<(s.args.length:Int)) (fun Za=>?_) (fun Za=>?_)))))))
 ·obtain ⟨a1,ha1⟩:=Zp s.args k om
  have har:=hf.args a1 (ZU ha1)
  refine ak (aq (ab 1 (ar (Z6 4 [1,0] (Zr [] (Do n us s k a1 (hnum:=hf.call) (ha:=ha1)) (Z0 1 (ib (b:=Q7 n us s.op s.num a1 k) 26 (fun Zb=>?_) (fun Zb=>?_))))))))
  ·refine Z6 5 [1,0] (ic [] (Hx n s k mm os ls) ?_)
   rintro _ _ ⟨wr1,rfl,rfl⟩
   refine Z0 1 (ie (ac wr1 Iff.rfl (fun Zg=>?_) (fun Zg=>?_)))
   ·exact az (Z6 4 [0] (Zn (Zh none (k:Int) 1 (ZQ ha1)) (Z0 1 (iL (Z7 [a1]) 1 1 fun v2=>ZA 0 [(40,Z5 [a1])] (ip 3 (Z7 (zs++[a1])) (Z7 zs) (Z7 [a1]) u none 1 (Yl _) (Yl _) (XD _) (by simp<;>omega) (by simp [XA,Z7]) fun v3=>Z0 1 (ie (az (Z0 1 (ZE k (Z0 1 (ie (ZG ⟨k+1,(zs++[a1]),v3,ob,ob,(by first|exact Zo|exact YZ Zo (ZU ha1)),rfl,rfl,rfl⟩ (wk [2,2,0] (fr (ZI k fl)))))))))))))))
   exact ak (az (Z0 1 (ZE k (Z0 1 (ie (ZG ⟨k+1,zs,u,ob,ob,(by first|exact Zo|exact YZ Zo (ZU ha1)),rfl,rfl,rfl⟩ (ZP 3 (fr (ZI k fl)))))))))
  exact Z0 7 (ie (Wi (ak (az (Z0 1 (ZE k (Z0 1 (ie (ZG ⟨k+1,zs,u,ob,ob,(by first|exact Zo|exact YZ Zo (ZU ha1)),rfl,rfl,rfl⟩ (ZP 3 (fr (ZI k fl))))))))))))
 exact ax 0 (ar (Z0 2 (ie (Z9 (r2 [] [ZO zs u] ⟨zs,rfl,rfl,⟨by omega,Zo⟩⟩ (Zf.forget _ _))))))
theorem PE (n:Zu) (us:LI) (s:Z3) (os:LI) (ls:LI) (mm:Nat) (hn:X2 n:=by exact ob) (hf:FS n.decls n.routines.length mm s:=by exact ob) (hvl:us.length=mm:=by exact ob) (hm:mm<=100000000:=by exact ob) (ho:os.length<=100000000:=by exact ob) (hl:ls.length<=100000000:=by exact ob):Zi 258 [Yc n,Z5 us,Yk s,Z5 os,Z5 ls] [] (fun r h=>∃(zs:LI) (v:Value),r=ZO zs v/\h=[.tail v 1]/\zs.length<=os.length/\∀z∈zs,z∈os):=by
 have hal:=hf.alen
 refine ZB 55 Tryz.func258 (ar (iA (YC n) fun b1=>iA (X6 s) fun b2=>Z0 1 (ie (aq (ar (Z6 4 [0] (ib (b:=(s.op==7)) 16 (fun Zb=>?_) (fun Zb=>?_))))))))
 ·refine Z0 4 (ie (WZ (ar (Z0 2 (ic [] (Hr os ls) ?_)))))
  rintro _ _ ⟨zs1,v1,rfl,rfl,Y6⟩
  have hco:=Y6
  exact Z0 1 (ie (Z9 (r1 [0] ⟨zs1,v1,rfl,rfl,(by first|exact hco|exact ⟨by omega,Zo⟩)⟩)))
 refine Z6 4 [0] (ie (ac (s.op==8) Zz (fun Za=>?_) (fun Za=>?_)))
 ·refine ar (Z0 2 (ic [] (Hr os ls) ?_))
  rintro _ _ ⟨zs2,v2,rfl,rfl,YJ⟩
  have hco:=YJ
  exact Z0 1 (ie (Z9 (r1 [0] ⟨zs2,v2,rfl,rfl,(by first|exact hco|exact ⟨by omega,Zo⟩)⟩)))
 refine ak (ar (Z0 1 (ic [] (V7 os) ?_)))
 rintro _ _ ⟨v3,rfl,rfl⟩
 refine Z0 1 (ie (aq (ar (Z0 1 (ie (ab 0 (ZX (fun fz gz m F h=>∃(k:Nat) (zs:LI) (u:Value),(k<=s.args.length)/\(zs.length<=os.length)/\(∀z∈zs,z∈os)/\F=sF [1,3,4,5,7] fz [(11,ZO zs u),(12,.i k)]/\h=[Ze gz 1,Ze gz 2,.tail u 1]/\m=s.args.length-k) _ _ _ ⟨0,os,v3,ob,ob,(fun z hz=>hz),rfl,rfl,rfl⟩ (wk [1,1,0] (fr (Y7 fl))) ?_)))))))
 rintro m F h ⟨k,zs,u,Y8,Zm,Zo,rfl,rfl,rfl⟩
 refine aq (ar (Z6 3 [0] (iw (Y2 s.args) (Z0 1 (ie (ZH ((k:Int)<(s.args.length:Int)) (fun Zg=>?_) (fun Zg=>?_)))))))
 ·obtain ⟨a1,ha1⟩:=Zp s.args k om
  have har:=hf.args a1 (ZU ha1)
  refine ak (aq (ab 1 (ar (Z6 4 [1,0] (Zr [] (Do n us s k a1 (hnum:=hf.call) (ha:=ha1)) (Z0 1 (ib (b:=Q7 n us s.op s.num a1 k) 38 (fun ZM=>?_) (fun ZM=>?_))))))))
  ·refine Z6 5 [1,0] (ic [] (Hx n s k mm os ls) ?_)
   rintro _ _ ⟨wr1,rfl,rfl⟩
   refine Z0 2 (ie (ac (!wr1) (p:=¬(wr1=true)) (YR Iff.rfl) (fun ZK=>?_) (fun ZK=>?_)))
   ·refine az (Z6 4 [0] (Zn (Zh none (k:Int) 1 (ZQ ha1)) (ZA 1 [(47,Z5 zs)] (ic [] (HG zs a1) ?_))))
    rintro _ _ ⟨v4,rfl,rfl⟩
    exact Z0 1 (ie (az (Z0 1 (ZE k (Z0 1 (ie (ZG ⟨k+1,(Ul zs a1),v4,ob,(by first|exact Zm|exact Wt (BE _ _) Zm),(by first|exact Zo|exact (fun z hz=>Zo z (AB hz))),rfl,rfl,rfl⟩ (wk [1,1,0] (fr (ZI k fl))))))))))
   exact ak (az (Z0 1 (ZE k (Z0 1 (ie (ZG ⟨k+1,zs,u,ob,(by first|exact Zm|exact Wt (BE _ _) Zm),(by first|exact Zo|exact (fun z hz=>Zo z (AB hz))),rfl,rfl,rfl⟩ (ZP 3 (fr (ZI k fl)))))))))
  exact Z0 8 (ie (Wi (ak (az (Z0 1 (ZE k (Z0 1 (ie (ZG ⟨k+1,zs,u,ob,(by first|exact Zm|exact Wt (BE _ _) Zm),(by first|exact Zo|exact (fun z hz=>Zo z (AB hz))),rfl,rfl,rfl⟩ (ZP 3 (fr (ZI k fl))))))))))))
 exact ax 0 (ar (Z0 2 (ie (Z9 (r1 [2] ⟨zs,u,rfl,rfl,(by first|exact hco|exact ⟨by omega,Zo⟩)⟩)))))
theorem PF (n:Zu) (s:Z3) (os:LI) (ls:LI) (mm:Nat) (hn:X2 n:=by exact ob) (hf:FS n.decls n.routines.length mm s:=by exact ob) (ho:os.length<=100000000:=by exact ob) (hl:ls.length<=100000000:=by exact ob):Zi 259 [Yc n,Yk s,Z5 os,Z5 ls] [] (fun r h=>∃(zs:LI),r=Z5 zs/\h=[]/\zs.length<=s.args.length/\∀z∈zs,z∈s.args):=by
 have hal:=hf.alen
 refine ZB 50 Tryz.func259 (ar (iA (YC n) fun b1=>iA (X6 s) fun b2=>Z0 1 (ie (ar (iL (Z7 []) 0 1 fun v1=>?_)))))
 refine Z0 1 (ie (aq (ar (Z0 1 (ie (ab 0 (ZX (fun fz gz m F h=>∃(k:Nat) (zs:LI) (u:Value),(k<=s.args.length)/\(zs.length<=k)/\(∀z∈zs,z∈s.args)/\F=sF [2,3,4,5] fz [(9,ZO zs u),(10,.i k)]/\h=[Ze gz 1,Ze gz 2,.tail u 1]/\m=s.args.length-k) _ _ _ ⟨0,[],v1,ob,ob,(fun z hz=>by cases hz),rfl,rfl,rfl⟩ (wk [1,1,0] (fr (Y7 fl))) ?_)))))))
 rintro m F h ⟨k,zs,u,Y8,Zm,Zo,rfl,rfl,rfl⟩
 refine aq (ar (Z6 3 [0] (iw (Y2 s.args) (Z0 1 (ie (ZH ((k:Int)<(s.args.length:Int)) (fun Za=>?_) (fun Za=>?_)))))))
 ·obtain ⟨a1,ha1⟩:=Zp s.args k om
  have har:=hf.args a1 (ZU ha1)
  refine ak (aq (ab 1 (ar (Z6 3 [1,0] (Zr [] (BN n s k (hnum:=hf.call)) (WO 13 [2,3,4,5,9,10] [(31,.b (Vv n s.op s.num k&&(decide (a1∈os))))] (fun gz=>gz) ?_ (fun hj1=>?_)))))))
  ·refine Xr [2,3,4,5,9,10] [(41,.b ((Vv n s.op s.num k&&(decide (a1∈os)))&&(!(decide (a1∈ls)))))] (fun gz=>gz) ?_ ?_
   ·refine Z0 1 (ib (b:=(Vv n s.op s.num k&&(decide (a1∈os)))) 32 (fun Zb=>?_) (fun Zb=>?_))
    ·exact Z6 4 [0] (Zn (Zh none (k:Int) 1 (ZQ ha1)) (Z0 1 (Zr [] (Vm ls a1) (Z0 2 (ie (ZP 3 (ZJ (!(decide (a1∈ls))) Zb fl)))))))
    exact Z0 9 (ie (ZP 3 (ZJ false Zb fl)))
   refine ac ((Vv n s.op s.num k&&(decide (a1∈os)))&&(!(decide (a1∈ls)))) (p:=((Vv n s.op s.num k=true)/\(a1∈os))/\(¬(a1∈ls))) (Xb (Xb Iff.rfl dq) (YR dq)) (fun Zg=>?_) (fun Zg=>?_)
   ·refine az (Z6 4 [0] (Zn (Zh none (k:Int) 1 (ZQ ha1)) (ZA 1 [(42,Z5 zs)] (ic [] (Bh zs a1) ?_))))
    rintro _ _ ⟨v2,rfl,rfl⟩
    exact Z0 1 (ie (az (Z0 1 (ZE k (Z0 1 (ie (ZG ⟨k+1,(Wm zs a1),v2,ob,(by first|omega|(have:=At zs a1;omega)),(by first|exact Zo|exact (fun z hz=>(Bp.1 hz).elim (Zo z) (fun e=>e▸ZU ha1))),rfl,rfl,rfl⟩ (wk [1,1,0] (fr (ZI k fl))))))))))
   exact ak (az (Z0 1 (ZE k (Z0 1 (ie (ZG ⟨k+1,zs,u,ob,(by first|omega|(have:=At zs a1;omega)),(by first|exact Zo|exact (fun z hz=>(Bp.1 hz).elim (Zo z) (fun e=>e▸ZU ha1))),rfl,rfl,rfl⟩ (ZP 3 (fr (ZI k fl)))))))))
  refine Z0 1 (ib (b:=Vv n s.op s.num k) 23 (fun ZM=>?_) (fun ZM=>?_))
  ·exact Z6 4 [0] (Zn (Zh none (k:Int) 1 (ZQ ha1)) (Z0 1 (Zr [] (Vm os a1) (Z0 1 (Xe (ZP 3 (ZJ (decide (a1∈os)) ZM fl)) hj1)))))
  exact Z0 8 (Xe (ZP 3 (ZJ false ZM fl)) hj1)
 exact ax 0 (ar (Z0 2 (ie (Z9 (r2 [] [ZO zs u] ⟨zs,rfl,rfl,⟨by omega,Zo⟩⟩ (Zf.forget _ _))))))
theorem AL (rt:Y1) (b:Z4) (hp:rt.params.length<=4294967296:=by exact ob) (hl:rt.lent.length<=4294967296:=by exact ob):Zi 114 [To rt,ZC b] [] (Ym (To (Y1.mk rt.params rt.lent rt.result b))):=by
 refine ZB 15 Tryz.func114 (ar (iA (QH rt) fun b1=>iA (YE b) fun b2=>iA [nl,nl,.i 0,nl,.i 0] fun b3=>ie (aD 11 (ZD 4 11 [0,1,3,4,6,7,8] [2,2,2,1] (Z8 2 (dc 2 [] [1,2,2] [b2,b1,b1] (V7 rt.params) ?_))))))
 rintro _ _ ⟨v1,rfl,rfl⟩
 refine Z8 5 (dc 5 [] [1,2] [b2,b1] (V7 rt.lent) ?_)
 rintro _ _ ⟨v2,rfl,rfl⟩
 exact Zj 1 2 [9] (Z8 10 (Yo 10 2 [] [] b3 [ZO rt.params v1,ZO rt.lent v2,.i rt.result,W7 b.steps,.i b.result] (de (Z9 (r3 [] [.agg [ZO rt.params v1,ZO rt.lent v2,.i rt.result,W7 b.steps,.i b.result]] [0] [(b3,b3)] ⟨rfl,rfl⟩ (Zf.agg (.cons (Zf.sl _ (Yg Z7 ob)) (.cons (Zf.sl _ (Yg Z7 ob)) (.cons li (.cons (Zf.sl _ (Yg Zk ob)) (.cons li .nil)))))))))))
theorem Pm (n:Zu) (us:LI) (fds:LI) (kd:Z4) (os:LI) (ls:LI) (mm:Nat) (bb:Nat) (hn:X2 n:=by exact ob) (hf:fB n.decls n.routines.length (mm+fds.length) kd:=by exact ob) (hop:Wo XX kd:=by exact ob) (hul:us.length=mm:=by exact ob) (hfl:fds.length<=3:=by exact ob) (hm:mm+3+4*kd.sz<=100000:=by exact ob) (hor:∀v∈os,0<=v/\v<(mm:Int)) (hol:os.length+3+4*kd.sz<=730:=by exact ob) (hal:ls.length+2000*kd.sz<=1000000:=by exact ob) (hbz:kd.sz<=500:=by exact ob) (hb:kd.sz<bb:=by exact ob) (ih:∀(us2:LI) (b2:Z4) (os2:LI) (as2:LI) (m2:Nat),(fB n.decls n.routines.length m2 b2)->(Wo XX b2)->(us2.length=m2)->(m2+4*b2.sz<=100000)->(∀v∈os2,0<=v/\v<(m2:Int))->(os2.length+4*b2.sz<=730)->(as2.length+2000*b2.sz<=1000000)->(b2.sz<=500)->(b2.sz<bb)->Zi 228 [Yc n,Z5 us2,ZC b2,Z5 os2,Z5 as2] [] (fun r h=>∃(y:Z4),r=ZC y/\h=[]/\KB n.decls n.routines.length m2 y (4500*b2.sz))):Zi 267 [Yc n,Z5 us,Z5 fds,ZC kd,Z5 os,Z5 ls] [] (fun r h=>∃(y:Z4),r=ZC y/\h=[]/\KB n.decls n.routines.length (mm+fds.length) y (4500*kd.sz+1470)):=by
 refine ZB 115 Tryz.func267 (ar (iA (YC n) fun b1=>iA (YE kd) fun b2=>iA [nl,.i 0] fun b3=>ie (ar (Z0 1 (iw (Y2 us) (Z0 1 (ie (ar (Z0 2 (ic [] (Ti us fds) ?_))))))))))
 rintro _ _ ⟨v1,rfl,rfl⟩
 refine Z0 1 (ie (ar (Z6 2 [2] (io (.i (((us++fds).length:Nat):Int)) (.i (((Z7 (us++fds)).length:Nat):Int)) (li (by rw [Y2])) (Zr [] (LX kd (((us++fds).length:Nat):Int)) ?_)))))
 have hub:=Ds (n:=(((us++fds).length:Nat):Int)) kd []
 simp only [YV,Wc] at hub
 refine Z0 1 (ie (ar (iL (Z7 []) 0 1 fun v2=>Z0 1 (ie (ar (iL (Z7 []) 0 1 fun v3=>?_))))))
 refine Z0 1 (ie (aq (ar (Z0 1 (ie (ab 0 (ZX (fun fz gz m F h=>∃(k:Nat) (ms:LI) (u:Value) (dr:LI) (w:Value),(k<=os.length)/\(ms.length<=k)/\(dr.length<=k)/\(∀v∈ms,0<=v/\v<(mm:Int))/\(∀v∈dr,0<=v/\v<(mm:Int))/\F=sF [2,4,5,6,9,12,13,15] fz [(14,Z5 (us++fds)),(16,ZO ms u),(17,ZO dr w),(18,.i k)]/\h=[Ze gz 3,Ze gz 4,Ze gz 5,.tail u 1,.tail w 1]/\m=os.length-k) _ _ _ ⟨0,[],v2,[],v3,ob,ob,ob,(fun v hv=>by cases hv),(fun v hv=>by cases hv),rfl,rfl,rfl⟩ (wk [3,3,3,1,0] (fc (x:=ZO (us++fds) v1) (Zf.forget _ _) (fw (Y7 fl)))) ?_)))))))
 rintro m F h ⟨k,ms,u,dr,w,Y8,Zm,Zo,Yq,XK,rfl,rfl,rfl⟩
 refine aq (ar (Z0 2 (iw (Y2 os) (Z0 1 (ie (ZH ((k:Int)<(os.length:Int)) (fun Za=>?_) (fun Za=>?_)))))))
 ·obtain ⟨o1,ho1⟩:=Zp os k om
  have hor1:=hor o1 (ZU ho1)
  refine ak (aq (ab 1 (ar (Z0 3 (Zn (Zh none (k:Int) 1 (ZQ ho1)) (Z0 1 (Zr [] (Vm (WY (((us++fds).length:Nat):Int) kd []) o1) (Xr [2,4,5,6,9,12,13,14,15,16,17,18] [(53,.b ((decide (o1∈(WY (((us++fds).length:Nat):Int) kd [])))||(decide (o1∈ls))))] (fun gz=>gz) ?_ ?_))))))))
  ·refine Z0 1 (ib (b:=(decide (o1∈(WY (((us++fds).length:Nat):Int) kd [])))) 46 (fun Zb=>?_) (fun Zb=>?_))
   ·exact Z0 7 (ie (ZP 5 (ZJ true Zb fl)))
   exact Z0 3 (Zn (Zh none (k:Int) 1 (ZQ ho1)) (Z0 1 (Zr [] (Vm ls o1) (Z0 1 (ie (ZP 5 (ZJ (decide (o1∈ls)) Zb fl)))))))
  refine ac ((decide (o1∈(WY (((us++fds).length:Nat):Int) kd [])))||(decide (o1∈ls))) (p:=(o1∈(WY (((us++fds).length:Nat):Int) kd []))∨(o1∈ls)) (X3 dq dq) (fun Zg=>?_) (fun Zg=>?_)
  ·exact az (Z0 3 (Zn (Zh none (k:Int) 1 (ZQ ho1)) (Z0 1 (iL (Z7 [o1]) 1 1 fun v4=>ZA 0 [(59,Z5 [o1])] (ip 4 (Z7 (ms++[o1])) (Z7 ms) (Z7 [o1]) u none 1 (Yl _) (Yl _) (XD _) (by simp<;>omega) (by simp [XA,Z7]) fun v5=>Z0 1 (ie (az (Z0 1 (ZE k (Z0 1 (ie (ZG ⟨k+1,(ms++[o1]),v5,dr,w,ob,ob,ob,(by first|exact Yq|exact YZ Yq hor1),(by first|exact XK|exact YZ XK hor1),rfl,rfl,rfl⟩ (wk [2,2,2,0,1] (fw (fr (ZI k fl))))))))))))))))
  exact az (Z0 3 (Zn (Zh none (k:Int) 1 (ZQ ho1)) (Z0 1 (iL (Z7 [o1]) 1 1 fun v6=>ZA 0 [(66,Z5 [o1])] (ip 5 (Z7 (dr++[o1])) (Z7 dr) (Z7 [o1]) w none 1 (Yl _) (Yl _) (XD _) (by simp<;>omega) (by simp [XA,Z7]) fun v7=>Z0 1 (ie (az (Z0 1 (ZE k (Z0 1 (ie (ZG ⟨k+1,ms,u,(dr++[o1]),v7,ob,ob,ob,(by first|exact Yq|exact YZ Yq hor1),(by first|exact XK|exact YZ XK hor1),rfl,rfl,rfl⟩ (wk [2,2,2,2,0] (fw (fr (ZI k fl))))))))))))))))
 refine ax 0 (ar (iL (Z7 []) 0 1 fun v8=>?_))
 refine Z0 1 (ie (aq (ar (Z0 1 (ie (ab 2 (ZX (fun fz gz m F h=>∃(k:Nat) (ps:LI) (w2:Value),(k<=fds.length)/\(ps.length<=k)/\(∀v∈ps,(mm:Int)<=v/\v<((mm+fds.length:Nat):Int))/\F=sF [2,5,6,9,12,13,14,15,16,17] fz [(19,ZO ps w2),(20,.i k)]/\h=[Ze gz 1,Ze gz 2,Ze gz 3,Ze gz 4,Ze gz 5,.tail w2 1]/\m=fds.length-k) _ _ _ ⟨0,[],v8,ob,ob,(fun v hv=>by cases hv),rfl,rfl,rfl⟩ (wk [1,1,1,1,1,0] (fr (Y7 fl))) ?_)))))))
 rintro m F h ⟨k,ps,w2,U3,Ww,Xc,rfl,rfl,rfl⟩
 refine aq (ar (Z0 2 (iw (Y2 fds) (Z0 1 (ie (ZH ((k:Int)<(fds.length:Int)) (fun ZK=>?_) (fun ZK=>?_)))))))
 ·refine ak (aq (ab 3 (ar (Z0 2 ?_))))
  obtain ⟨x1,Z2⟩:=Zp fds k om
  refine Zn (Zh none (k:Int) 1 (ZQ Z2)) (Xr [2,5,6,9,12,13,14,15,16,17,19,20] [(86,.b ((x1 != 0)&&(decide (((us.length+k:Nat):Int)∈(WY (((us++fds).length:Nat):Int) kd [])))))] (fun gz=>gz) ?_ ?_)
  ·refine Z0 3 (ib (b:=(x1 != 0)) 80 (fun ZM=>?_) (fun ZM=>?_))
   ·exact Z0 3 (ia (((us.length+k:Nat):Int)) (((us.length:Int))+((k:Int))) (Zr [] (Vm (WY (((us++fds).length:Nat):Int) kd []) ((us.length+k:Nat):Int)) (Z0 1 (ie (ZP 6 (ZJ (decide (((us.length+k:Nat):Int)∈(WY (((us++fds).length:Nat):Int) kd []))) ZM fl))))))
   exact Z0 6 (ie (ZP 6 (ZJ false ZM fl)))
  refine ac ((x1 != 0)&&(decide (((us.length+k:Nat):Int)∈(WY (((us++fds).length:Nat):Int) kd [])))) (p:=(x1≠0)/\(((us.length+k:Nat):Int)∈(WY (((us++fds).length:Nat):Int) kd []))) (Xb X4 dq) (fun Yi=>?_) (fun Yi=>?_)
  ·exact az (Z0 3 (ia (((us.length+k:Nat):Int)) (((us.length:Int))+((k:Int))) (iL (Z7 [((us.length+k:Nat):Int)]) 1 1 fun v9=>ZA 0 [(91,Z5 [((us.length+k:Nat):Int)])] (ip 6 (Z7 (ps++[((us.length+k:Nat):Int)])) (Z7 ps) (Z7 [((us.length+k:Nat):Int)]) w2 none 1 (Yl _) (Yl _) (XD _) (by simp<;>omega) (by simp [XA,Z7]) fun v10=>Z0 1 (ie (az (Z0 1 (ZE k (Z0 1 (ie (ZG ⟨k+1,(ps++[((us.length+k:Nat):Int)]),v10,ob,ob,(by first|exact Xc|exact YZ Xc om),rfl,rfl,rfl⟩ (wk [2,2,2,2,2,0] (fr (ZI k fl))))))))))))))
  exact ak (az (Z0 1 (ZE k (Z0 1 (ie (ZG ⟨k+1,ps,w2,ob,ob,(by first|exact Xc|exact YZ Xc om),rfl,rfl,rfl⟩ (ZP 6 (fr (ZI k fl)))))))))
 refine ax 2 (ar (ZA 1 [(93,Z5 ps)] (ic [] (TB 14 ps) ?_)))
 rintro _ _ ⟨v11,rfl,rfl⟩
 refine ZA 1 [(95,Z5 dr)] (ic [] (TB 15 dr) ?_)
 rintro _ _ ⟨v12,rfl,rfl⟩
 refine ZA 0 [(96,W7 (dr.map (Zl 15)))] (ip 1 (Zk ((ps.map (Zl 14))++(dr.map (Zl 15)))) (Zk (ps.map (Zl 14))) (Zk (dr.map (Zl 15))) v11 none 5 (YP _) (YP _) (WL _) (by simp<;>omega) (by simp [W0,Zk]) fun v13=>?_)
 refine Z0 1 (ie (aD 12 (ZD 5 12 [0,1,2,3,4,6,7] [4,3] (K5 (fun fz gz F h=>∃(y1:Z4) (b4:Nat) (zs1:LI),(zs1.length<=ls.length/\∀z∈zs1,z∈ls)/\(KB n.decls n.routines.length (mm+fds.length) y1 (4500*kd.sz))/\F=sF [12,21] fz [(22,.p b4 0)]/\h=[.obj b4 (YE y1),Ze gz 0,Ze gz 1,Ze gz 2,Ze gz 3,Ze gz 4,Ze gz 6,Ze gz 7]) ?_ ?_))))
 ·refine WC 5 10 ?_ ?_
  ·refine dp 5 5 [1,2] [b2,b1] (Z7 (ms++ps)) (Z7 ms) (Z7 ps) u (some w2) 1 (Yl _) (Yl _) (XD _) (by simp<;>omega) (by simp [XA,Z7]) fun v14=>WC 8 10 ?_ ?_
   ·refine dc 8 [] [1,2] [b2,b1] (EC ls (us.length:Int)) ?_
    rintro _ _ ⟨zs1,v15,rfl,rfl,YU⟩
    have hbl:=YU
    refine Y9 3 3 [] [(103,Z5 (ms++ps)),(106,Z5 zs1)] (WC 9 10 ?_ ?_)
    ·refine dc 9 [] [] [] (ih (us++fds) kd (ms++ps) zs1 (mm+fds.length) hf hop (by rw [Yb,hul]) ob (fun v hv=>by rcases YO.1 hv with h|h;exact (by have:=Yq v h;omega);exact (by have:=Xc v h;omega)) (by rw [Yb];omega) ob ob ob) ?_
     rintro _ _ ⟨y1,rfl,rfl,XI⟩
     have hkb:=XI
     have hkl:=hkb.len
     exact Z8 10 (dA 10 [] [] [nl,.i 0] fun b4=>Z8 11 (Yo 11 0 [] [] b4 (YE y1) (de (ZF ⟨_,b4,_,(by assumption),(by assumption),rfl,rfl⟩ (wk [0,2,2,2,2,2,2,2] fl)))))
    refine dA 10 [1,2] [b2,b1] [nl,.i 0] fun b5=>Z8 9 (dc 9 [] [] [] (ih (us++fds) kd (ms++ps) zs1 (mm+fds.length) hf hop (by rw [Yb,hul]) ob (fun v hv=>by rcases YO.1 hv with h|h;exact (by have:=Yq v h;omega);exact (by have:=Xc v h;omega)) (by rw [Yb];omega) ob ob ob) ?_)
    rintro _ _ ⟨y2,rfl,rfl,Wd⟩
    have hkb:=Wd
    have hkl:=hkb.len
    exact Z8 11 (Yo 11 0 [] [] b5 (YE y2) (de (ZF ⟨_,b5,_,(by assumption),(by assumption),rfl,rfl⟩ (wk [0,2,2,2,2,2,2,2] fl))))
   refine dA 10 [1,2] [b2,b1] [nl,.i 0] fun b6=>Z8 8 (dc 8 [] [2,3] [b2,b1] (EC ls (us.length:Int)) ?_)
   rintro _ _ ⟨zs2,v16,rfl,rfl,WM⟩
   have hbl:=WM
   refine Y9 2 2 [] [(103,Z5 (ms++ps)),(106,Z5 zs2)] (Z8 9 (dc 9 [] [] [] (ih (us++fds) kd (ms++ps) zs2 (mm+fds.length) hf hop (by rw [Yb,hul]) ob (fun v hv=>by rcases YO.1 hv with h|h;exact (by have:=Yq v h;omega);exact (by have:=Xc v h;omega)) (by rw [Yb];omega) ob ob ob) ?_))
   rintro _ _ ⟨y3,rfl,rfl,V1⟩
   have hkb:=V1
   have hkl:=hkb.len
   exact Z8 11 (Yo 11 1 [] [] b6 (YE y3) (de (ZF ⟨_,b6,_,(by assumption),(by assumption),rfl,rfl⟩ (wk [0,2,2,2,2,2,2,2] fl))))
  refine dA 10 [1,2] [b2,b1] [nl,.i 0] fun b7=>Y9 4 4 [] [(102,Z5 ps)] (Z8 5 (dp 5 6 [2,3] [b2,b1] (Z7 (ms++ps)) (Z7 ms) (Z7 ps) u none 1 (Yl _) (Yl _) (XD _) (by simp<;>omega) (by simp [XA,Z7]) fun v17=>Z8 8 (dc 8 [] [2,3] [b2,b1] (EC ls (us.length:Int)) ?_)))
  rintro _ _ ⟨zs3,v18,rfl,rfl,UA⟩
  have hbl:=UA
  refine Y9 2 2 [] [(103,Z5 (ms++ps)),(106,Z5 zs3)] (Z8 9 (dc 9 [] [] [] (ih (us++fds) kd (ms++ps) zs3 (mm+fds.length) hf hop (by rw [Yb,hul]) ob (fun v hv=>by rcases YO.1 hv with h|h;exact (by have:=Yq v h;omega);exact (by have:=Xc v h;omega)) (by rw [Yb];omega) ob ob ob) ?_))
  rintro _ _ ⟨y4,rfl,rfl,UN⟩
  have hkb:=UN
  have hkl:=hkb.len
  exact Z8 11 (Yo 11 2 [] [] b7 (YE y4) (de (ZF ⟨_,b7,_,(by assumption),(by assumption),rfl,rfl⟩ (wk [0,2,2,2,2,2,2,2] fl))))
 rintro F h ⟨y1,b4,zs1,YU,XI,rfl,rfl⟩
 have hbl:=YU
 have hkb:=XI
 have hkl:=hkb.len
 exact aD 8 (ZD 3 8 [0,1,2,4,5] [0,0] (Z8 3 (dp 3 1 [0] [b4] (Zk (((ps.map (Zl 14))++(dr.map (Zl 15)))++y1.steps)) (Zk ((ps.map (Zl 14))++(dr.map (Zl 15)))) (Zk y1.steps) v13 none 5 (YP _) (YP _) (WL _) (by simp<;>omega) (by simp [W0,Zk]) fun v19=>Zj 1 2 [6] (Z8 7 (Yo 7 3 [] [] b3 [Yx (((ps.map (Zl 14))++(dr.map (Zl 15)))++y1.steps) v19,.i y1.result] (de (Z9 (r3 [] [.agg [Yx (((ps.map (Zl 14))++(dr.map (Zl 15)))++y1.steps) v19,.i y1.result]] [0] [(b3,b3)] ⟨(Z4.mk (((ps.map (Zl 14))++(dr.map (Zl 15)))++y1.steps) y1.result),rfl,rfl,((hkb.put (fun v hv=>by have:=Xc v hv;omega) (fun v hv=>by have:=XK v hv;omega)).le om)⟩ (Zf.agg (.cons (Zf.forget _ _) (.cons (lr _) .nil)))))))))))
theorem Pn (n:Zu) (us:LI) (s:Z3) (os:LI) (ls:LI) (mm:Nat) (bb:Nat) (hn:X2 n:=by exact ob) (hf:FS n.decls n.routines.length mm s:=by exact ob) (h11:s.op<=11:=by exact ob) (hop:Td XX s.kids:=by exact ob) (hul:us.length=mm:=by exact ob) (hm:mm+4*s.sz<=100000:=by exact ob) (hor:∀v∈os,0<=v/\v<(mm:Int)) (hol:os.length+4*s.sz<=730:=by exact ob) (hal:ls.length+2000*s.sz<=1000000:=by exact ob) (hbz:s.sz<=500:=by exact ob) (hb:s.sz<=bb:=by exact ob) (ih:∀(us2:LI) (b2:Z4) (os2:LI) (as2:LI) (m2:Nat),(fB n.decls n.routines.length m2 b2)->(Wo XX b2)->(us2.length=m2)->(m2+4*b2.sz<=100000)->(∀v∈os2,0<=v/\v<(m2:Int))->(os2.length+4*b2.sz<=730)->(as2.length+2000*b2.sz<=1000000)->(b2.sz<=500)->(b2.sz<bb)->Zi 228 [Yc n,Z5 us2,ZC b2,Z5 os2,Z5 as2] [] (fun r h=>∃(y:Z4),r=ZC y/\h=[]/\KB n.decls n.routines.length m2 y (4500*b2.sz))):Zi 257 [Yc n,Z5 us,Yk s,Z5 os,Z5 ls] [] (fun r h=>∃(y:Z3),r=Yk y/\h=[]/\KT n.decls n.routines.length mm y (4500*YF s.kids+4420)):=by
 have Xl:=hn.decls
 have hkf:=hf.few Xl
 have hsa:=hf.alen
 refine ZB 62 Tryz.func257 (ar (iA (YC n) fun b1=>iA (X6 s) fun b2=>iA [.i 0,.i 0,.i 0,nl,nl] fun b3=>ie (ar (iL (Yh []) 0 2 fun v1=>Z0 1 (ie (ar (Z6 4 [3,2] (ic [] (QO n.decls s.num) ?_))))))))
 rintro _ _ ⟨v2,rfl,rfl⟩
 refine Z0 1 (ie (aq (ar (Z0 1 (ie (ab 0 (ZX (fun fz gz m F h=>∃(k:Nat) (ks:List Z4) (u:Value),(k<=s.kids.length)/\(ks.length=k)/\(KK n.decls n.routines.length (VL n.decls s.op s.num mm) ks (4500*YF (s.kids.take k)+1470*k))/\F=sF [1,3,4,5,7,10] fz [(11,VK ks u),(12,Z5 (ZW n.decls s.num)),(13,.i k)]/\h=[Ze gz 2,Ze gz 3,Ze gz 4,.tail u 2]/\m=s.kids.length-k) _ _ _ ⟨0,[],v1,ob,ob,(KK.nil.le (T0 _)),rfl,rfl,rfl⟩ (wk [2,2,2,1] (fr (fc (x:=ZO (ZW n.decls s.num) v2) (Zf.forget _ _) (Y7 fl)))) ?_)))))))
 rintro m F h ⟨k,ks,u,Y8,Zm,Zo,rfl,rfl,rfl⟩
 refine aq (ar (Z6 3 [1] (iw (Vh s.kids) (Z0 1 (ie (ZH ((k:Int)<(s.kids.length:Int)) (fun Za=>?_) (fun Za=>?_)))))))
 ·refine ak (aq (ab 1 (ar (iL (Z7 []) 0 1 fun v3=>?_))))
  refine Z0 1 (ie (aq (ar (Z6 3 [2] (ie (Xo (fun fz gz F h=>∃(fds:LI),(VL n.decls s.op s.num mm k=mm+fds.length)/\(fds.length<=3)/\F=sF [1,3,4,5,7,10,11,12,13] fz [(14,Z5 fds)]/\h=[Ze gz 1,Ze gz 2,Ze gz 3,Ze gz 4]) ?_ ?_))))))
  ·refine ac (s.op==8) Zz (fun Zg=>?_) (fun Zg=>?_)
   ·refine aE 8 (ZD 4 8 [0,1,2,3] [3] ?_)
    obtain ⟨x1,Z2⟩:=Zp (ZW n.decls s.num) k (by have:=hf.k8 (by assumption);omega)
    have hcf:=Vr Xl x1
    exact dx 4 (Zh none (k:Int) 1 (ZQ Z2)) (Zj 2 3 [5] (Z8 6 (Yf 6 [] [] [] (TA n.decls x1) (Zj 0 1 [7] (de (ZF ⟨ZY n.decls x1,(Fu (by assumption) Z2),ob,rfl,rfl⟩ (wk [1,1,1,1] fl)))))))
   exact ak (ZF ⟨[],(by rw [Fv (by assumption)];rfl),ob,rfl,rfl⟩ (wk [1,1,1,1] fl))
  rintro F h ⟨fds,WP,Km,rfl,rfl⟩
  refine aE 15 (ZD 8 15 [0,1,2,3,4,5,6] [2,1] ?_)
  obtain ⟨x2,Zt⟩:=Zp s.kids k om
  have hkz:=VW Zt
  have hfk:=Bc hf.kids Zt
  rw [Wc,WP] at hfk
  have hok:=AA.1 hop x2 (ZU Zt)
  have hbt:=C8 Zt
  have hba:=C9 Zt
  refine dx 7 (Zh none (k:Int) 2 (Vs Zt)) (Zj 4 7 [8,9,10] (Z8 11 (dc 11 [] [] [] (Pm n us fds x2 os ls mm bb (hf:=hfk) (hop:=hok) (hor:=hor) (ih:=ih)) ?_)))
  rintro _ _ ⟨y1,rfl,rfl,ZT⟩
  have hkb:=ZT
  exact Z8 12 (XP 12 [] [] [ZC y1] (Yh [y1]) (VD [y1]).symm 1 2 fun v4=>Y9 2 2 [] [(51,Xq [y1])] (Z8 13 (dp 13 4 [] [] (Yh (ks++[y1])) (Yh ks) (Yh [y1]) u none 2 (Ue _) (Ue _) (Cf _) (by simp<;>omega) (by simp [K9,Yh]) fun v5=>Zj 0 1 [14] (de (az (Z0 1 (ZE k (Z0 1 (ie (ZG ⟨k+1,(ks++[y1]),v5,ob,ob,((Zo.snoc Zm (by rw [WP];exact hkb)).le om),rfl,rfl,rfl⟩ (wk [2,2,2,0] (fw (ZI k fl)))))))))))))
 refine ax 0 (aD 10 (ZD 3 10 [0,1,2,3,4,5,7] [1,1,1] (Z8 6 (dc 6 [] [1,1] [b2,b2] (V7 s.args) ?_))))
 rintro _ _ ⟨v6,rfl,rfl⟩
 exact Zj 1 2 [8] (Z8 9 (Yo 9 1 [] [] b3 [.i s.op,.i s.num,.i 0,ZO s.args v6,VK ks u] (de (Z9 (r3 [] [.agg [.i s.op,.i s.num,.i 0,ZO s.args v6,VK ks u]] [0] [(b3,b3)] ⟨(Z3.mk s.op s.num 0 s.args ks),rfl,rfl,((KT.of (into:=0) hf h11 om om Zo).le (by have:=DZ (xs:=s.kids) (k:=k) om;omega))⟩ (Zf.agg (.cons (lr _) (.cons (lr _) (.cons (lr _) (.cons (Zf.forget _ _) (.cons (Zf.forget _ _) .nil)))))))))))
theorem Pj (n:Zu) (us:LI) (b:Z4) (os:LI) (ls:LI) (mm:Nat) (hn:X2 n) (hf:fB n.decls n.routines.length mm b) (hop:Wo XX b) (hul:us.length=mm) (hm:mm+4*b.sz<=100000) (hor:∀v∈os,0<=v/\v<(mm:Int)) (hol:os.length+4*b.sz<=730) (hal:ls.length+2000*b.sz<=1000000) (hbz:b.sz<=500) (ih:∀(us2:LI) (b2:Z4) (os2:LI) (as2:LI) (m2:Nat),(fB n.decls n.routines.length m2 b2)->(Wo XX b2)->(us2.length=m2)->(m2+4*b2.sz<=100000)->(∀v∈os2,0<=v/\v<(m2:Int))->(os2.length+4*b2.sz<=730)->(as2.length+2000*b2.sz<=1000000)->(b2.sz<=500)->(b2.sz<b.sz)->Zi 228 [Yc n,Z5 us2,ZC b2,Z5 os2,Z5 as2] [] (fun r h=>∃(y:Z4),r=ZC y/\h=[]/\KB n.decls n.routines.length m2 y (4500*b2.sz))):Zi 228 [Yc n,Z5 us,ZC b,Z5 os,Z5 ls] [] (fun r h=>∃(y:Z4),r=ZC y/\h=[]/\KB n.decls n.routines.length mm y (4500*b.sz)):=by
 have Xl:=hn.decls
 have hbe:=b.sz_eq
 have Zq:=WQ b
 obtain ⟨hfs,hr1,hr2⟩:=(Bb b).1 hf
 have hos:=JT.1 ((CZ b).1 hop)
 have hdn:=Ea hos
 have hdl:=hdn b.steps.length (YI _)
 rw [V9] at hdl
 refine ZB 149 Tryz.func228 (ar (iA (YC n) fun b1=>iA (YE b) fun b2=>iA [nl,.i 0] fun b3=>ie (ar (iL (Zk []) 0 5 fun v1=>Z0 1 (ie (ar (Z0 1 (ic [] (V7 us) ?_))))))))
 rintro _ _ ⟨v2,rfl,rfl⟩
 refine Z0 1 (ie (ar (Z0 1 (ic [] (V7 os) ?_))))
 rintro _ _ ⟨v3,rfl,rfl⟩
 refine Z0 1 (ie (aq (ar (Z0 1 (ie (ab 0 (ZX (fun fz gz m F h=>∃(k:Nat) (vs:LI) (w:Value) (ms:LI) (u:Value) (xs:List Z3) (v:Value),(k<=b.steps.length)/\(vs.length=mm+k)/\(CL n.decls n.routines.length mm xs k (4500*Y5 (b.steps.take k)))/\(ms.length<=os.length+k)/\(∀v∈ms,0<=v/\v<((mm+k:Nat):Int))/\F=sF [4,5,7,10] fz [(11,Yx xs v),(12,ZO vs w),(13,ZO ms u),(14,.i k)]/\h=[Ze gz 3,Ze gz 4,Ze gz 5,.tail u 1,.tail v 5,.tail w 1]/\m=b.steps.length-k) _ _ _ ⟨0,us,v2,os,v3,[],v1,ob,ob,CL.nil,ob,hor,rfl,rfl,rfl⟩ (wk [3,3,3,0,1,0] (fw (fr (Y7 fl)))) ?_)))))))
 rintro m F h ⟨k,vs,w,ms,u,xs,v,Y8,Zm,Zo,Yq,XK,rfl,rfl,rfl⟩
 refine aq (ar (Z6 3 [1] (iw (W1 b.steps) (Z0 1 (ie (ZH ((k:Int)<(b.steps.length:Int)) (fun Za=>?_) (fun Za=>?_)))))))
 ·refine ak (aq (ab 1 (ar (Z6 3 [1] ?_))))
  obtain ⟨x1,Z2⟩:=Zp b.steps k om
  have YW:=AN Z2
  have hfS:=(Co x1).1 (Bd hfs Z2)
  rw [hdn k om] at hfS
  have hoS:=(BC x1).1 (hos x1 (ZU Z2))
  have htk:=FI Z2
  have hse:=(x1).sz_eq
  have hal4:=hfS.alen
  have hxl:=Zo.len
  have htl:=TC b.steps (k+1)
  have hsd:=AM b.steps (k+1)
  have hul2:=Dt (n:=((vs.length+1:Nat):Int)) (b.steps.drop (k+1)) []
  have hul3:=BQ (n:=((vs.length+1:Nat):Int)) (WH ((vs.length+1:Nat):Int) (b.steps.drop (k+1)) []) b.result
  simp only [YV,Wc] at hul2
  refine Zn (Zh none (k:Int) 5 (XG Z2)) (Z0 1 (iA [.i 0,.i 0,.i 0,nl,nl] fun b4=>Zy 0 b4 (X6 x1) (ie (ar (Z0 1 (iw (Y2 vs) (Z0 1 (ie (ar (Tz 3 [(41,Z5 vs)] [3,0] (Zr [] (FE n vs x1 ob ob) (Z0 1 (ie (ar (Z6 2 [2] (ia (((vs.length+1:Nat):Int)) (((vs.length:Int))+(1)) (Z0 1 (ZE k (iL (Z7 []) 0 1 fun v4=>ZA 0 [(49,Z5 [])] (Zr [] (FA b ((vs.length+1:Nat):Int) (k+1) [] (hk:=om) (hz:=(by simp only [YV];omega))) (Z0 1 (ic [] (R8 (WG ((vs.length+1:Nat):Int) (WH ((vs.length+1:Nat):Int) (b.steps.drop (k+1)) []) b.result) ls) ?_))))))))))))))))))))))
  rintro _ _ ⟨zs1,rfl,rfl,ZT⟩
  have hun:=ZT
  refine Z0 1 (ie (ar (Tz 6 [(55,Z5 vs),(57,Z5 ms)] [4,1] (ic [] (Pr n vs x1 ms zs1 (mm+k) (hf:=hfS)) ?_))))
  rintro _ _ ⟨zs2,rfl,rfl,Y6⟩
  have hdu:=Y6
  have hq1:=Zo.cnts (op:=14) (.inl rfl) (vs:=zs2) (fun v hv=>hfS.args v (hdu.2 v hv))
  have hl1:=hq1.len
  refine ic [] (TB 14 zs2) ?_
  rintro _ _ ⟨v5,rfl,rfl⟩
  refine ZA 0 [(60,W7 (zs2.map (Zl 14)))] (ip 7 (Zk (xs++(zs2.map (Zl 14)))) (Zk xs) (Zk (zs2.map (Zl 14))) v none 5 (YP _) (YP _) (WL _) (by simp<;>omega) (by simp [W0,Zk]) fun v6=>Z0 1 (ie (ar (Tz 6 [(64,Z5 vs),(66,Z5 ms)] [6,3] (ic [] (Pn n vs x1 ms zs1 (mm+k) b.sz (hf:=hfS) (h11:=hoS.1) (hop:=hoS.2) (hor:=XK) (ih:=ih)) ?_)))))
  rintro _ _ ⟨y1,rfl,rfl,YA⟩
  have hkt:=YA
  have hq2:=hq1.kt hkt
  have hl2:=hq2.len
  refine Vj [Yk y1] (Zk [y1]) (Wx [y1]).symm 1 5 fun v7=>ZA 0 [(69,W7 [y1])] (ip 1 (Zk ((xs++(zs2.map (Zl 14)))++[y1])) (Zk (xs++(zs2.map (Zl 14)))) (Zk [y1]) v6 none 5 (YP _) (YP _) (WL _) (by simp<;>omega) (by simp [W0,Zk]) fun v8=>Z0 1 (ie (ar (Tz 5 [(72,Z5 vs),(74,Z5 ms)] [7,4] (ic [] (PE n vs x1 ms zs1 (mm+k) (hf:=hfS)) ?_)))))
  rintro _ _ ⟨zs3,v9,rfl,rfl,YJ⟩
  have hla:=YJ
  refine Z0 1 (ie (ar (Tz 4 [(79,Z5 zs3)] [8,5] (ic [] (PF n x1 zs3 zs1 (mm+k) (hf:=hfS)) ?_))))
  rintro _ _ ⟨zs4,rfl,rfl,YU⟩
  have hld:=YU
  have hq3:=hq2.cnts (op:=15) (.inr rfl) (vs:=zs4) (fun v hv=>by have:=hfS.args v (hld.2 v hv);omega)
  have hl3:=hq3.len
  refine Z0 1 (ie (ar (Z0 2 (ic [] (TB 15 zs4) ?_))))
  rintro _ _ ⟨v10,rfl,rfl⟩
  refine ZA 0 [(84,W7 (zs4.map (Zl 15)))] (ip 2 (Zk (((xs++(zs2.map (Zl 14)))++[y1])++(zs4.map (Zl 15)))) (Zk ((xs++(zs2.map (Zl 14)))++[y1])) (Zk (zs4.map (Zl 15))) v8 none 5 (YP _) (YP _) (WL _) (by simp<;>omega) (by simp [W0,Zk]) fun v11=>?_)
  refine Z0 1 (ie (aq (ar (Z0 1 (ie (ab 2 (ZX (fun fz gz m F h=>∃(j:Nat) (m3:LI) (u3:Value) (v3:Value) (w3:Value),(j<=zs4.length)/\(m3.length<=os.length+k)/\(∀v∈m3,0<=v/\v<((mm+k:Nat):Int))/\F=sF [4,5,7,10,14,16,17,18,19] fz [(11,Yx (((xs++(zs2.map (Zl 14)))++[y1])++(zs4.map (Zl 15))) v3),(12,ZO vs w3),(13,ZO m3 u3),(20,.i j)]/\h=[Ze gz 7,Ze gz 8,Ze gz 9,.tail u3 1,.tail v3 5,.tail w3 1]/\m=zs4.length-j) _ _ _ ⟨0,zs3,v9,v11,w,ob,ob,(fun v hv=>XK v (hla.2 v hv)),rfl,rfl,rfl⟩ (wk [7,7,7,2,0,6] (fw (fr (Y7 fl)))) ?_)))))))
  rintro m F h ⟨j,m3,u3,v3,w3,U3,Ww,Xc,rfl,rfl,rfl⟩
  refine aq (ar (Z0 2 (iw (Y2 zs4) (Z0 1 (ie (ZH ((j:Int)<(zs4.length:Int)) (fun Zg=>?_) (fun Zg=>?_)))))))
  ·refine ak (aq (ab 3 (az (Z0 3 ?_))))
   obtain ⟨x2,Zt⟩:=Zp zs4 j om
   refine Zn (Zh none (j:Int) 1 (ZQ Zt)) (ZA 1 [(92,Z5 m3)] (ic [] (HG m3 x2) ?_))
   rintro _ _ ⟨v12,rfl,rfl⟩
   exact Z0 1 (ie (az (Z0 1 (ZE j (Z0 1 (ie (ZG ⟨j+1,(Ul m3 x2),v12,v3,w3,ob,(Wt (BE _ _) Ww),(fun v hv=>Xc v (AB hv)),rfl,rfl,rfl⟩ (wk [1,1,1,0,1,1] (fw (fr (ZI j fl)))))))))))
  refine ax 2 (ar (Z0 2 (iL (Z7 [Yv n vs x1]) 1 1 fun v13=>ZA 0 [(100,Z5 [Yv n vs x1])] (ip 6 (Z7 (vs++[Yv n vs x1])) (Z7 vs) (Z7 [Yv n vs x1]) w3 none 1 (Yl _) (Yl _) (XD _) (by simp<;>omega) (by simp [XA,Z7]) fun v14=>Z0 1 (ie (ar (Xr [4,5,7,10,11,12,13,14,16,17] [(108,.b (((Yv n vs x1) != 0)&&(decide ((vs.length:Int)∈zs1))))] (fun gz=>gz) ?_ ?_)))))))
  ·refine Z0 3 (ib (b:=((Yv n vs x1) != 0)) 104 (fun Zb=>?_) (fun Zb=>?_))
   ·exact Z0 2 (Zr [] (Vm zs1 (vs.length:Int)) (Z0 1 (ie (ZP 7 (ZJ (decide ((vs.length:Int)∈zs1)) Zb fl)))))
   exact Z0 4 (ie (ZP 7 (ZJ false Zb fl)))
  refine ac (((Yv n vs x1) != 0)&&(decide ((vs.length:Int)∈zs1))) (p:=((Yv n vs x1)≠0)/\((vs.length:Int)∈zs1)) (Xb X4 dq) (fun ZK=>?_) (fun ZK=>?_)
  ·exact az (Z0 2 (iL (Z7 [(vs.length:Int)]) 1 1 fun v15=>ZA 0 [(111,Z5 [(vs.length:Int)])] (ip 6 (Z7 (m3++[(vs.length:Int)])) (Z7 m3) (Z7 [(vs.length:Int)]) u3 none 1 (Yl _) (Yl _) (XD _) (by simp<;>omega) (by simp [XA,Z7]) fun v16=>Z0 1 (ie (az (Z0 1 (ZE k (Z0 1 (ie (ZG ⟨k+1,(vs++[Yv n vs x1]),v14,(m3++[(vs.length:Int)]),v16,(((xs++(zs2.map (Zl 14)))++[y1])++(zs4.map (Zl 15))),v3,ob,ob,(by first|exact hq3.le om|exact (hq3.cnt (op:=15) (.inr rfl) om).le om),ob,(by first|exact YZ (fun v hv=>by have:=Xc v hv;omega) om|exact (fun v hv=>by have:=Xc v hv;omega)),rfl,rfl,rfl⟩ (wk [4,4,4,0,3,1] (fw (fr (ZI k fl))))))))))))))
  refine ar (Z0 2 (ie (ac ((Yv n vs x1) != 0) X4 (fun Yi=>?_) (fun Yi=>?_))))
  ·exact az (Z0 2 (Zr [] (QP 15 (vs.length:Int)) (Vj [Yk (Zl 15 (vs.length:Int))] (Zk [(Zl 15 (vs.length:Int))]) (Wx [(Zl 15 (vs.length:Int))]).symm 1 5 fun v17=>ZA 0 [(118,W7 [(Zl 15 (vs.length:Int))])] (ip 7 (Zk ((((xs++(zs2.map (Zl 14)))++[y1])++(zs4.map (Zl 15)))++[(Zl 15 (vs.length:Int))])) (Zk (((xs++(zs2.map (Zl 14)))++[y1])++(zs4.map (Zl 15)))) (Zk [(Zl 15 (vs.length:Int))]) v3 none 5 (YP _) (YP _) (WL _) (by simp<;>omega) (by simp [W0,Zk]) fun v18=>Z0 1 (ie (az (Z0 1 (ZE k (Z0 1 (ie (ZG ⟨k+1,(vs++[Yv n vs x1]),v14,m3,u3,((((xs++(zs2.map (Zl 14)))++[y1])++(zs4.map (Zl 15)))++[(Zl 15 (vs.length:Int))]),v18,ob,ob,(by first|exact hq3.le om|exact (hq3.cnt (op:=15) (.inr rfl) om).le om),ob,(by first|exact YZ (fun v hv=>by have:=Xc v hv;omega) om|exact (fun v hv=>by have:=Xc v hv;omega)),rfl,rfl,rfl⟩ (wk [4,4,4,4,0,1] (fw (fr (ZI k fl)))))))))))))))
  exact ak (az (Z0 1 (ZE k (Z0 1 (ie (ZG ⟨k+1,(vs++[Yv n vs x1]),v14,m3,u3,(((xs++(zs2.map (Zl 14)))++[y1])++(zs4.map (Zl 15))),v3,ob,ob,(by first|exact hq3.le om|exact (hq3.cnt (op:=15) (.inr rfl) om).le om),ob,(by first|exact YZ (fun v hv=>by have:=Xc v hv;omega) om|exact (fun v hv=>by have:=Xc v hv;omega)),rfl,rfl,rfl⟩ (wk [2,2,2,2,2,0] (fw (fr (ZI k fl))))))))))
 have hxl:=Zo.len
 have htl:=TC b.steps k
 refine ax 0 (aq (ar (Z6 3 [1] ?_)))
 obtain ⟨x3,YQ⟩:=Zp vs b.result.toNat om
 refine Zn (Zh (some w) b.result 1 (ZQ YQ)) (Xr [7,10,11] [(138,.b ((x3 != 0)&&((decide (b.result∈ls))||(!(decide (b.result∈ms))))))] (fun gz=>gz) ?_ ?_)
 ·refine Z0 3 (ib (b:=(x3 != 0)) 126 (fun ZM=>?_) (fun ZM=>?_))
  ·refine Z6 3 [1] (Zr [] (Vm ls b.result) (Z0 1 (ib (b:=(decide (b.result∈ls))) 131 (fun YT=>?_) (fun YT=>?_))))
   ·exact Z0 7 (ie (ZP 6 (ZJ true (And.intro ZM YT) fl)))
   exact Tz 3 [(132,Z5 ms)] [1] (Zr [] (Vm ms b.result) (Z0 3 (ie (ZP 6 (ZJ (!(decide (b.result∈ms))) (And.intro ZM YT) fl)))))
  exact Z0 12 (ie (ZP 6 (ZJ false ZM fl)))
 refine ac ((x3 != 0)&&((decide (b.result∈ls))||(!(decide (b.result∈ms))))) (p:=(x3≠0)/\((b.result∈ls)∨(¬(b.result∈ms)))) (Xb X4 (X3 dq (YR dq))) (fun Xt=>?_) (fun Xt=>?_)
 ·exact az (Z6 3 [1] (Zr [] (QP 14 b.result) (Vj [Yk (Zl 14 b.result)] (Zk [Zl 14 b.result]) (Wx [Zl 14 b.result]).symm 1 5 fun v19=>ZA 0 [(143,W7 [Zl 14 b.result])] (ip 5 (Zk (xs++[Zl 14 b.result])) (Zk xs) (Zk [Zl 14 b.result]) v none 5 (YP _) (YP _) (WL _) (by simp<;>omega) (by simp [W0,Zk]) fun v20=>Z0 1 (ie (ar (Z6 4 [3] (Zy 2 b3 [Yx (xs++[Zl 14 b.result]) v20,.i b.result] (ie (Z9 (r3 [] [.agg [Yx (xs++[Zl 14 b.result]) v20,.i b.result]] [0] [(b3,b3)] ⟨(Z4.mk (xs++[Zl 14 b.result]) b.result),rfl,rfl,(((Zo.cnt (op:=14) (.inl rfl) om).block om).le (by have:=TC b.steps k;omega))⟩ (Zf.agg (.cons (Zf.forget _ _) (.cons (lr _) .nil))))))))))))))
 exact ak (ar (Z6 4 [1] (Zy 0 b3 [Yx xs v,.i b.result] (ie (Z9 (r3 [] [.agg [Yx xs v,.i b.result]] [0] [(b3,b3)] ⟨(Z4.mk xs b.result),rfl,rfl,((Zo.block om).le (by have:=TC b.steps k;omega))⟩ (Zf.agg (.cons (Zf.forget _ _) (.cons (lr _) .nil)))))))))
theorem Pi (n:Zu) (us:LI) (b:Z4) (os:LI) (ls:LI) (mm:Nat) (hn:X2 n:=by exact ob) (hf:fB n.decls n.routines.length mm b:=by exact ob) (hop:Wo XX b:=by exact ob) (hul:us.length=mm:=by exact ob) (hm:mm+4*b.sz<=100000:=by exact ob) (hor:∀v∈os,0<=v/\v<(mm:Int)) (hol:os.length+4*b.sz<=730:=by exact ob) (hal:ls.length+2000*b.sz<=1000000:=by exact ob) (hbz:b.sz<=500:=by exact ob):Zi 228 [Yc n,Z5 us,ZC b,Z5 os,Z5 ls] [] (fun r h=>∃(y:Z4),r=ZC y/\h=[]/\KB n.decls n.routines.length mm y (4500*b.sz)):=by
 have key:∀k:Nat,∀(us2:LI) (b2:Z4) (os2:LI) (as2:LI) (m2:Nat),(fB n.decls n.routines.length m2 b2)->(Wo XX b2)->(us2.length=m2)->(m2+4*b2.sz<=100000)->(∀v∈os2,0<=v/\v<(m2:Int))->(os2.length+4*b2.sz<=730)->(as2.length+2000*b2.sz<=1000000)->(b2.sz<=500)->(b2.sz<k)->Zi 228 [Yc n,Z5 us2,ZC b2,Z5 os2,Z5 as2] [] (fun r h=>∃(y:Z4),r=ZC y/\h=[]/\KB n.decls n.routines.length m2 y (4500*b2.sz)):=by
  intro k
  induction k with
  | zero=>intro us2 b2 os2 as2 m2 h1 h2 h3 h4 h5 h6 h7 h8 h9;omega
  | succ k ih=>intro us2 b2 os2 as2 m2 h1 h2 h3 h4 h5 h6 h7 h8 h9;exact Pj n us2 b2 os2 as2 m2 hn h1 h2 h3 h4 h5 h6 h7 h8 fun us3 b3 os3 as3 m3 q1 q2 q3 q4 q5 q6 q7 q8 q9=>ih us3 b3 os3 as3 m3 q1 q2 q3 q4 q5 q6 q7 q8 om
 exact key (b.sz+1) us b os ls mm hf hop hul hm hor hol hal hbz om
theorem Pl (n:Zu) (rt:Y1) (qz:Nat) (hn:X2 n:=by exact ob) (hr:RF n.decls n.routines.length qz XX rt:=by exact ob) (hqz:qz<=181:=by exact ob):Zi 200 [Yc n,To rt] [] (fun r h=>∃(y:Z4),r=ZC y/\h=[]/\KB n.decls n.routines.length rt.params.length y (4500*qz+10)):=by
 have hrp:rt.params.length<=3:=(U2.bd (f:=⟨rt.params,rt.result,default⟩) hr.sig).1
 have hrl:=hr.lent.1
 have hrz:=hr.body.2
 refine ZB 65 Tryz.func200 (ar (iA (YC n) fun b1=>iA (QH rt) fun b2=>iA [nl,.i 0] fun b3=>ie (ar (Z6 4 [1,1] (iw (Y2 rt.params) (Zr [] (LX rt.body (rt.params.length:Int)) ?_))))))
 have hub:=Ds (n:=(rt.params.length:Int)) rt.body []
 simp only [YV,Wc] at hub
 refine Z0 1 (ie (ar (iL (Z7 []) 0 1 fun v1=>Z0 1 (ie (ar (iL (Z7 []) 0 1 fun v2=>?_))))))
 refine Z0 1 (ie (aq (ar (Z0 1 (ie (ab 0 (ZX (fun fz gz m F h=>∃(k:Nat) (os:LI) (u:Value) (dr:LI) (w:Value),(k<=rt.params.length)/\(os.length<=k)/\(dr.length<=k)/\(∀v∈os,0<=v/\v<(rt.params.length:Int))/\(∀v∈dr,0<=v/\v<(rt.params.length:Int))/\F=sF [2,3,4,5] fz [(6,ZO os u),(7,ZO dr w),(8,.i k)]/\h=[Ze gz 2,Ze gz 3,Ze gz 4,.tail u 1,.tail w 1]/\m=rt.params.length-k) _ _ _ ⟨0,[],v1,[],v2,ob,ob,ob,(fun v hv=>by cases hv),(fun v hv=>by cases hv),rfl,rfl,rfl⟩ (wk [2,2,2,1,0] (fw (Y7 fl))) ?_)))))))
 rintro m F h ⟨k,os,u,dr,w,Y8,Zm,Zo,Yq,XK,rfl,rfl,rfl⟩
 refine aq (ar (Z6 3 [1] (iw (Y2 rt.params) (Z0 1 (ie (ZH ((k:Int)<(rt.params.length:Int)) (fun Za=>?_) (fun Za=>?_)))))))
 ·refine ak (aq (ab 1 (ar (Z6 3 [1] ?_))))
  obtain ⟨x1,Z2⟩:=Zp rt.params k om
  refine Zn (Zh none (k:Int) 1 (ZQ Z2)) (Xr [2,3,4,5,6,7,8] [(37,.b ((x1 != 0)&&(!(decide ((k:Int)∈rt.lent)))))] (fun gz=>gz) ?_ ?_)
  ·refine Z0 3 (ib (b:=(x1 != 0)) 31 (fun Zb=>?_) (fun Zb=>?_))
   ·exact Z6 3 [1] (Zr [] (Vm rt.lent (k:Int)) (Z0 2 (ie (ZP 5 (ZJ (!(decide ((k:Int)∈rt.lent))) Zb fl)))))
   exact Z0 6 (ie (ZP 5 (ZJ false Zb fl)))
  refine ac ((x1 != 0)&&(!(decide ((k:Int)∈rt.lent)))) (p:=(x1≠0)/\(¬((k:Int)∈rt.lent))) (Xb X4 (YR dq)) (fun Zg=>?_) (fun Zg=>?_)
  ·refine ar (Z0 2 (Zr [] (Vm (WY (rt.params.length:Int) rt.body []) (k:Int)) (ie (ZH ((k:Int)∈(WY (rt.params.length:Int) rt.body [])) (fun ZK=>?_) (fun ZK=>?_)))))
   ·exact az (Z0 2 (iL (Z7 [(k:Int)]) 1 1 fun v3=>ZA 0 [(43,Z5 [(k:Int)])] (ip 4 (Z7 (os++[(k:Int)])) (Z7 os) (Z7 [(k:Int)]) u none 1 (Yl _) (Yl _) (XD _) (by simp<;>omega) (by simp [XA,Z7]) fun v4=>Z0 1 (ie (az (Z0 1 (ZE k (Z0 1 (ie (ZG ⟨k+1,(os++[(k:Int)]),v4,dr,w,ob,ob,ob,(by first|exact Yq|exact YZ Yq om),(by first|exact XK|exact YZ XK om),rfl,rfl,rfl⟩ (wk [2,2,2,0,1] (fw (ZI k fl)))))))))))))
   exact az (Z0 2 (iL (Z7 [(k:Int)]) 1 1 fun v5=>ZA 0 [(47,Z5 [(k:Int)])] (ip 5 (Z7 (dr++[(k:Int)])) (Z7 dr) (Z7 [(k:Int)]) w none 1 (Yl _) (Yl _) (XD _) (by simp<;>omega) (by simp [XA,Z7]) fun v6=>Z0 1 (ie (az (Z0 1 (ZE k (Z0 1 (ie (ZG ⟨k+1,os,u,(dr++[(k:Int)]),v6,ob,ob,ob,(by first|exact Yq|exact YZ Yq om),(by first|exact XK|exact YZ XK om),rfl,rfl,rfl⟩ (wk [2,2,2,2,0] (fw (ZI k fl)))))))))))))
  exact ak (az (Z0 1 (ZE k (Z0 1 (ie (ZG ⟨k+1,os,u,dr,w,ob,ob,ob,(by first|exact Yq|exact YZ Yq om),(by first|exact XK|exact YZ XK om),rfl,rfl,rfl⟩ (ZP 5 (fw (ZI k fl)))))))))
 refine ax 0 (ar (Z6 6 [2,1,1] (iL (Z7 []) 0 1 fun v7=>ZA 0 [(54,Z5 os),(55,Z5 [])] (ic [] (Pi n rt.params rt.body os [] rt.params.length (hf:=hr.body.1) (hop:=hr.op) (hor:=Yq) (hal:=(by simp only [YV];omega))) ?_))))
 rintro _ _ ⟨y1,rfl,rfl,YA⟩
 have hkb:=YA
 have hkl:=hkb.len
 refine iA [nl,.i 0] fun b4=>Zy 0 b4 (YE y1) (ie (aD 9 (B6 4 9 [0,2,3,5,6] [(57,Z5 dr)] [0,0] (Z8 1 (dc 1 [] [0,0] [b4,b4] (TB 15 dr) ?_)))))
 rintro _ _ ⟨v8,rfl,rfl⟩
 exact Z8 4 (dp 4 0 [0] [b4] (Zk ((dr.map (Zl 15))++y1.steps)) (Zk (dr.map (Zl 15))) (Zk y1.steps) v8 none 5 (YP _) (YP _) (WL _) (by simp<;>omega) (by simp [W0,Zk]) fun v9=>Zj 1 2 [7] (Z8 8 (Yo 8 3 [] [] b3 [Yx ((dr.map (Zl 15))++y1.steps) v9,.i y1.result] (de (Z9 (r3 [] [.agg [Yx ((dr.map (Zl 15))++y1.steps) v9,.i y1.result]] [0] [(b3,b3)] ⟨(Z4.mk ((dr.map (Zl 15))++y1.steps) y1.result),rfl,rfl,((hkb.put1 (op:=15) (.inr rfl) XK).le om)⟩ (Zf.agg (.cons (Zf.forget _ _) (.cons (lr _) .nil)))))))))
theorem Po (n:Zu) (qz:Nat) (hn:FO n qz XX:=by exact ob) (hqz:qz<=181:=by exact ob):Zi 159 [Yc n] [] (fun r h=>∃(n2:Zu),r=Yc n2/\h=[]/\FO n2 (4500*qz+10) Wv):=by
 have hnl:=hn.fn.len
 have Xl:=hn.fn.decls.ok
 have hok:=hn.fn.ok
 refine ZB 36 Tryz.func159 (ar (iA (YC n) fun b1=>iA [nl,nl] fun b2=>ie (ar (Z6 2 [1] (Zr [] (JX n.decls) (iL (Yn []) 0 5 fun v1=>Z0 1 (iA [nl,nl] fun b3=>?_)))))))
 refine Zy 0 b3 [YB n.decls,XQ [] v1] (ie (aq (ar (Z0 1 (ie (ab 0 (ZX (fun fz gz m F h=>∃(k:Nat) (rs:List Y1) (u:Value),(k<=n.routines.length)/\(rs.length=k)/\(∀r∈rs,RF n.decls n.routines.length (4500*qz+10) Wv r)/\F=sF [1,2,3] fz [(4,.i k)]/\h=[.obj b3 [YB n.decls,XQ rs u],Ze gz 2,Ze gz 3,.tail u 5]/\m=n.routines.length-k) _ _ _ ⟨0,[],v1,ob,ob,(fun r hr=>by cases hr),rfl,rfl,rfl⟩ (wk [0,1,1,0] (Y7 fl)) ?_)))))))
 rintro m F h ⟨k,rs,u,Y8,Zm,Zo,rfl,rfl,rfl⟩
 refine aq (ar (Z6 3 [2] (iw (U4 n.routines) (Z0 1 (ie (ZH ((k:Int)<(n.routines.length:Int)) (fun Za=>?_) (fun Za=>?_)))))))
 ·refine ak (aq (ab 1 (aE 19 (ZD 14 19 [0,1,2,3,4] [0,2] ?_))))
  obtain ⟨x1,Z2⟩:=Zp n.routines k om
  have hrf:=hn.rf (ZU Z2)
  have hrp:(x1).params.length<=3:=(U2.bd (f:=⟨(x1).params,(x1).result,default⟩) hrf.sig).1
  have hrl:=hrf.lent.1
  have hrz:=hrf.body.2
  refine dx 5 (Zh none (k:Int) 5 (Wk Z2)) (ZD 8 13 [6,7,8,9,10] [2,2] (dx 11 (Zh none (k:Int) 5 (Wk Z2)) (Zj 6 7 [12] (Z8 13 (dc 13 [] [2,0] [b1,b3] (Pl n x1 qz (hr:=hrf)) ?_)))))
  rintro _ _ ⟨y1,rfl,rfl,ZT⟩
  have hkb:=ZT
  exact Z8 14 (Yf 14 [] [0] [b3] (AL x1 y1 (hp:=om) (hl:=om)) (Z8 15 (dL 15 [0] [b3] (Yn [Y1.mk x1.params x1.lent x1.result y1]) 1 5 fun v2=>Y9 3 3 [] [(32,Ty [Y1.mk x1.params x1.lent x1.result y1])] (Z8 16 (dp 16 4 [] [] (Yn (rs++[Y1.mk x1.params x1.lent x1.result y1])) (Yn rs) (Yn [Y1.mk x1.params x1.lent x1.result y1]) u none 5 (Vt _) (Vt _) (KV _) (by simp<;>omega) (by simp [JB,Yn]) fun v3=>Zj 1 2 [17] (Z8 18 (Yo 18 2 [] [] b3 [YB n.decls,XQ (rs++[Y1.mk x1.params x1.lent x1.result y1]) v3] (de (az (Z0 1 (ZE k (Z0 1 (ie (ZG ⟨k+1,(rs++[Y1.mk x1.params x1.lent x1.result y1]),v3,ob,ob,(YZ Zo (by first|exact hrf.with hkb.fb hkb.sz hkb.op|(rw [Z4.eta];exact hrf.with hkb.fb hkb.sz hkb.op))),rfl,rfl,rfl⟩ (wk [0,2,2,0] (ZI k fl))))))))))))))))
 exact ax 0 (ar (Z6 1 [0] (Zy 1 b2 [YB n.decls,XQ rs u] (ie (Z9 (r3 [] [.agg [YB n.decls,XQ rs u]] [0] [(b2,b2)] ⟨(Zu.mk n.decls rs),rfl,rfl,(FO.fin hn.fn om Zo).1⟩ (Zf.agg (.cons (lr _) (.cons (Zf.forget _ _) .nil)))))))))
theorem Pf (n:Zu) (us:LI) (s:Z3) (mm:Nat) (hn:X2 n:=by exact ob) (hf:FS n.decls n.routines.length mm s:=by exact ob) (hvl:us.length=mm:=by exact ob) (hm:mm<=100000000:=by exact ob):Zi 230 [Yc n,Z5 us,Yk s] [] (fun r h=>∃(zs:LI),r=Z5 zs/\h=[]/\zs.length<=s.args.length/\∀z∈zs,z∈s.args):=by
 have hal:=hf.alen
 refine ZB 31 Tryz.func230 (ar (iA (YC n) fun b1=>iA (X6 s) fun b2=>Z0 1 (ie (ar (iL (Z7 []) 0 1 fun v1=>?_)))))
 refine Z0 1 (ie (aq (ar (Z0 1 (ie (ab 0 (ZX (fun fz gz m F h=>∃(k:Nat) (zs:LI) (u:Value),(k<=s.args.length)/\(zs.length<=k)/\(∀z∈zs,z∈s.args)/\F=sF [1,3,5] fz [(7,ZO zs u),(8,.i k)]/\h=[Ze gz 1,Ze gz 2,.tail u 1]/\m=s.args.length-k) _ _ _ ⟨0,[],v1,ob,ob,(fun z hz=>by cases hz),rfl,rfl,rfl⟩ (wk [1,1,0] (fr (Y7 fl))) ?_)))))))
 rintro m F h ⟨k,zs,u,Y8,Zm,Zo,rfl,rfl,rfl⟩
 refine aq (ar (Z6 3 [0] (iw (Y2 s.args) (Z0 1 (ie (ZH ((k:Int)<(s.args.length:Int)) (fun Za=>?_) (fun Za=>?_)))))))
 ·obtain ⟨a1,ha1⟩:=Zp s.args k om
  have har:=hf.args a1 (ZU ha1)
  refine ak (aq (ab 1 (ar (Z6 4 [1,0] (Zr [] (Do n us s k a1 (hnum:=hf.call) (ha:=ha1)) (ie (ac (Q7 n us s.op s.num a1 k) Iff.rfl (fun Zg=>?_) (fun Zg=>?_))))))))
  ·exact az (Z6 4 [0] (Zn (Zh none (k:Int) 1 (ZQ ha1)) (Z0 1 (iL (Z7 [a1]) 1 1 fun v2=>ZA 0 [(28,Z5 [a1])] (ip 3 (Z7 (zs++[a1])) (Z7 zs) (Z7 [a1]) u none 1 (Yl _) (Yl _) (XD _) (by simp<;>omega) (by simp [XA,Z7]) fun v3=>Z0 1 (ie (az (Z0 1 (ZE k (Z0 1 (ie (ZG ⟨k+1,(zs++[a1]),v3,ob,ob,(by first|exact Zo|exact YZ Zo (ZU ha1)),rfl,rfl,rfl⟩ (wk [2,2,0] (fr (ZI k fl)))))))))))))))
  exact ak (az (Z0 1 (ZE k (Z0 1 (ie (ZG ⟨k+1,zs,u,ob,ob,(by first|exact Zo|exact YZ Zo (ZU ha1)),rfl,rfl,rfl⟩ (ZP 3 (fr (ZI k fl)))))))))
 exact ax 0 (ar (Z0 2 (ie (Z9 (r2 [] [ZO zs u] ⟨zs,rfl,rfl,⟨by omega,Zo⟩⟩ (Zf.forget _ _))))))
theorem PC (n:Zu) (us:LI) (s:Z3) (mm:Nat) (bb:Nat) (hn:X2 n:=by exact ob) (hf:FS n.decls n.routines.length mm s:=by exact ob) (h11:s.op<=11:=by exact ob) (hop:Td XX s.kids:=by exact ob) (hul:us.length=mm:=by exact ob) (hm:mm+4*s.sz<=100000:=by exact ob) (hbz:s.sz<=500:=by exact ob) (hb:s.sz<=bb:=by exact ob) (ih:∀(us2:LI) (b2:Z4) (mi2:LI) (m2:Nat),(fB n.decls n.routines.length m2 b2)->(Wo XX b2)->(us2.length=m2)->(m2+4*b2.sz<=100000)->(∀v∈mi2,0<=v/\v<(m2:Int))->(mi2.length<=3)->(b2.sz<=500)->(b2.sz<bb)->Zi 201 [Yc n,Z5 us2,ZC b2,Z5 mi2] [] (fun r h=>∃(y:Z4),r=ZC y/\h=[]/\KB n.decls n.routines.length m2 y (60*b2.sz))):Zi 231 [Yc n,Z5 us,Yk s] [] (fun r h=>∃(y:Z3),r=Yk y/\h=[]/\KT n.decls n.routines.length mm y (60*YF s.kids+23)):=by
 have Xl:=hn.decls
 have hkf:=hf.few Xl
 have hsa:=hf.alen
 refine ZB 72 Tryz.func231 (ar (iA (YC n) fun b1=>iA (X6 s) fun b2=>iA [.i 0,.i 0,.i 0,nl,nl] fun b3=>ie (ar (iL (Yh []) 0 2 fun v1=>Z0 1 (ie (ar (Z6 4 [3,2] (ic [] (QO n.decls s.num) ?_))))))))
 rintro _ _ ⟨v2,rfl,rfl⟩
 refine Z0 1 (ie (aq (ar (Z0 1 (ie (ab 0 (ZX (fun fz gz m F h=>∃(k:Nat) (ks:List Z4) (u:Value),(k<=s.kids.length)/\(ks.length=k)/\(KK n.decls n.routines.length (VL n.decls s.op s.num mm) ks (60*YF (s.kids.take k)+6*k))/\F=sF [1,3,5,6] fz [(7,VK ks u),(8,Z5 (ZW n.decls s.num)),(9,.i k)]/\h=[Ze gz 2,Ze gz 3,Ze gz 4,.tail u 2]/\m=s.kids.length-k) _ _ _ ⟨0,[],v1,ob,ob,(KK.nil.le (T0 _)),rfl,rfl,rfl⟩ (wk [2,2,2,1] (fr (fc (x:=ZO (ZW n.decls s.num) v2) (Zf.forget _ _) (Y7 fl)))) ?_)))))))
 rintro m F h ⟨k,ks,u,Y8,Zm,Zo,rfl,rfl,rfl⟩
 refine aq (ar (Z6 3 [1] (iw (Vh s.kids) (Z0 1 (ie (ZH ((k:Int)<(s.kids.length:Int)) (fun Za=>?_) (fun Za=>?_)))))))
 ·refine ak (aq (ab 1 (ar (iL (Z7 []) 0 1 fun v3=>?_))))
  refine Z0 1 (ie (aq (ar (Z6 3 [2] (ie (Xo (fun fz gz F h=>∃(fds:LI),(VL n.decls s.op s.num mm k=mm+fds.length)/\(fds.length<=3)/\F=sF [1,3,5,6,7,8,9] fz [(10,Z5 fds)]/\h=[Ze gz 1,Ze gz 2,Ze gz 3,Ze gz 4]) ?_ ?_))))))
  ·refine ac (s.op==8) Zz (fun Zg=>?_) (fun Zg=>?_)
   ·refine aE 8 (ZD 4 8 [0,1,2,3] [3] ?_)
    obtain ⟨x1,Z2⟩:=Zp (ZW n.decls s.num) k (by have:=hf.k8 (by assumption);omega)
    have hcf:=Vr Xl x1
    exact dx 4 (Zh none (k:Int) 1 (ZQ Z2)) (Zj 2 3 [5] (Z8 6 (Yf 6 [] [] [] (TA n.decls x1) (Zj 0 1 [7] (de (ZF ⟨ZY n.decls x1,(Fu (by assumption) Z2),ob,rfl,rfl⟩ (wk [1,1,1,1] fl)))))))
   exact ak (ZF ⟨[],(by rw [Fv (by assumption)];rfl),ob,rfl,rfl⟩ (wk [1,1,1,1] fl))
  rintro F h ⟨fds,WP,Km,rfl,rfl⟩
  refine ar (Z0 2 (iw (Y2 us) (ic [] (Hv fds us.length) ?_)))
  rintro _ _ ⟨xs1,rfl,rfl,ZT⟩
  have hhf:=ZT
  refine Z0 1 (ie (aD 13 (ZD 7 13 [0,1,2,4,5,6] [2,1] ?_)))
  obtain ⟨x2,Zt⟩:=Zp s.kids k om
  have hkz:=VW Zt
  have hfk:=Bc hf.kids Zt
  rw [Wc,WP] at hfk
  have hok:=AA.1 hop x2 (ZU Zt)
  have hbt:=C8 Zt
  have hba:=C9 Zt
  refine dx 7 (Zh none (k:Int) 2 (Vs Zt)) (Zj 4 6 [8,9] (K5 (fun fz gz F h=>∃(y1:Z4) (b4:Nat),(KB n.decls n.routines.length (mm+fds.length) y1 (60*x2.sz))/\F=sF [1,3,5,6,7,8,9,11] fz [(12,.p b4 0)]/\h=[.obj b4 (YE y1),Ze gz 0,Ze gz 1,Ze gz 2,Ze gz 3]) ?_ ?_))
  ·refine WC 3 11 ?_ ?_
   ·refine dc 3 [] [1,2] [b2,b1] (Ti us fds) ?_
    rintro _ _ ⟨v4,rfl,rfl⟩
    refine Y9 3 3 [] [(44,Z5 (us++fds))] (WC 10 11 ?_ ?_)
    ·refine dc 10 [] [] [] (ih (us++fds) x2 xs1 (mm+fds.length) hfk hok (by rw [Yb,hul]) ob (fun v hv=>by have:=hhf.2 v hv;omega) ob ob ob) ?_
     rintro _ _ ⟨y1,rfl,rfl,Y6⟩
     have hkb:=Y6
     have hkl:=hkb.len
     exact Z8 11 (dA 11 [] [] [nl,.i 0] fun b4=>Z8 12 (Yo 12 0 [] [] b4 (YE y1) (de (ZF ⟨_,b4,(by assumption),rfl,rfl⟩ (wk [0,1,1,1,1] fl)))))
    refine dA 11 [1,2] [b2,b1] [nl,.i 0] fun b5=>Z8 10 (dc 10 [] [] [] (ih (us++fds) x2 xs1 (mm+fds.length) hfk hok (by rw [Yb,hul]) ob (fun v hv=>by have:=hhf.2 v hv;omega) ob ob ob) ?_)
    rintro _ _ ⟨y2,rfl,rfl,YA⟩
    have hkb:=YA
    have hkl:=hkb.len
    exact Z8 12 (Yo 12 0 [] [] b5 (YE y2) (de (ZF ⟨_,b5,(by assumption),rfl,rfl⟩ (wk [0,1,1,1,1] fl))))
   refine dA 11 [1,2] [b2,b1] [nl,.i 0] fun b6=>Z8 3 (dc 3 [] [2,3] [b2,b1] (Ti us fds) ?_)
   rintro _ _ ⟨v5,rfl,rfl⟩
   refine Y9 2 2 [] [(44,Z5 (us++fds))] (Z8 10 (dc 10 [] [] [] (ih (us++fds) x2 xs1 (mm+fds.length) hfk hok (by rw [Yb,hul]) ob (fun v hv=>by have:=hhf.2 v hv;omega) ob ob ob) ?_))
   rintro _ _ ⟨y3,rfl,rfl,YJ⟩
   have hkb:=YJ
   have hkl:=hkb.len
   exact Z8 12 (Yo 12 1 [] [] b6 (YE y3) (de (ZF ⟨_,b6,(by assumption),rfl,rfl⟩ (wk [0,1,1,1,1] fl))))
  rintro F h ⟨y1,b4,Y6,rfl,rfl⟩
  have hkb:=Y6
  have hkl:=hkb.len
  refine aE 12 (ZD 6 12 [0,1,3,4,6,7] [0,0] (Z8 2 (dc 2 [] [0,0] [b4,b4] (TB 14 xs1) ?_)))
  rintro _ _ ⟨v6,rfl,rfl⟩
  exact Z8 5 (dp 5 0 [0] [b4] (Zk ((xs1.map (Zl 14))++y1.steps)) (Zk (xs1.map (Zl 14))) (Zk y1.steps) v6 none 5 (YP _) (YP _) (WL _) (by simp<;>omega) (by simp [W0,Zk]) fun v7=>Y9 3 4 [8] [(60,.agg [W7 ((xs1.map (Zl 14))++y1.steps),.i y1.result])] (Z8 9 (XP 9 [] [] [ZC (Z4.mk ((xs1.map (Zl 14))++y1.steps) y1.result)] (Yh [Z4.mk ((xs1.map (Zl 14))++y1.steps) y1.result]) (VD [Z4.mk ((xs1.map (Zl 14))++y1.steps) y1.result]).symm 1 2 fun v8=>Y9 2 2 [] [(61,Xq [Z4.mk ((xs1.map (Zl 14))++y1.steps) y1.result])] (Z8 10 (dp 10 6 [] [] (Yh (ks++[Z4.mk ((xs1.map (Zl 14))++y1.steps) y1.result])) (Yh ks) (Yh [Z4.mk ((xs1.map (Zl 14))++y1.steps) y1.result]) u none 2 (Ue _) (Ue _) (Cf _) (by simp<;>omega) (by simp [K9,Yh]) fun v9=>Zj 0 1 [11] (de (az (Z0 1 (ZE k (Z0 1 (ie (ZG ⟨k+1,(ks++[Z4.mk ((xs1.map (Zl 14))++y1.steps) y1.result]),v9,ob,ob,((Zo.snoc Zm (by rw [WP];exact hkb.put1 (op:=14) (.inl rfl) (fun v hv=>by have:=hhf.2 v hv;omega))).le om),rfl,rfl,rfl⟩ (wk [4,4,4,0] (fw (ZI k fl)))))))))))))))
 refine ax 0 (aD 10 (ZD 3 10 [0,1,2,3,4,5,7] [1,1,1] (Z8 6 (dc 6 [] [1,1] [b2,b2] (V7 s.args) ?_))))
 rintro _ _ ⟨v10,rfl,rfl⟩
 exact Zj 1 2 [8] (Z8 9 (Yo 9 1 [] [] b3 [.i s.op,.i s.num,.i 0,ZO s.args v10,VK ks u] (de (Z9 (r3 [] [.agg [.i s.op,.i s.num,.i 0,ZO s.args v10,VK ks u]] [0] [(b3,b3)] ⟨(Z3.mk s.op s.num 0 s.args ks),rfl,rfl,((KT.of (into:=0) hf h11 om om Zo).le (by have:=DZ (xs:=s.kids) (k:=k) om;omega))⟩ (Zf.agg (.cons (lr _) (.cons (lr _) (.cons (lr _) (.cons (Zf.forget _ _) (.cons (Zf.forget _ _) .nil)))))))))))
theorem PB (n:Zu) (us:LI) (b:Z4) (mi:LI) (mm:Nat) (hn:X2 n) (hf:fB n.decls n.routines.length mm b) (hop:Wo XX b) (hul:us.length=mm) (hm:mm+4*b.sz<=100000) (hmr:∀v∈mi,0<=v/\v<(mm:Int)) (hml:mi.length<=3) (hbz:b.sz<=500) (ih:∀(us2:LI) (b2:Z4) (mi2:LI) (m2:Nat),(fB n.decls n.routines.length m2 b2)->(Wo XX b2)->(us2.length=m2)->(m2+4*b2.sz<=100000)->(∀v∈mi2,0<=v/\v<(m2:Int))->(mi2.length<=3)->(b2.sz<=500)->(b2.sz<b.sz)->Zi 201 [Yc n,Z5 us2,ZC b2,Z5 mi2] [] (fun r h=>∃(y:Z4),r=ZC y/\h=[]/\KB n.decls n.routines.length m2 y (60*b2.sz))):Zi 201 [Yc n,Z5 us,ZC b,Z5 mi] [] (fun r h=>∃(y:Z4),r=ZC y/\h=[]/\KB n.decls n.routines.length mm y (60*b.sz)):=by
 have Xl:=hn.decls
 have hbe:=b.sz_eq
 have Zq:=WQ b
 obtain ⟨hfs,hr1,hr2⟩:=(Bb b).1 hf
 have hos:=JT.1 ((CZ b).1 hop)
 have hdn:=Ea hos
 have hdl:=hdn b.steps.length (YI _)
 rw [V9] at hdl
 refine ZB 80 Tryz.func201 (ar (iA (YC n) fun b1=>iA (YE b) fun b2=>iA [nl,.i 0] fun b3=>ie (ar (iL (Zk []) 0 5 fun v1=>Z0 1 (ie (ar (Z0 1 (ic [] (V7 us) ?_))))))))
 rintro _ _ ⟨v2,rfl,rfl⟩
 refine Z0 1 (ie (ar (Z0 1 (ic [] (V7 mi) ?_))))
 rintro _ _ ⟨v3,rfl,rfl⟩
 refine Z0 1 (ie (aq (ar (Z0 1 (ie (ab 0 (ZX (fun fz gz m F h=>∃(k:Nat) (vs:LI) (w:Value) (ow:LI) (u:Value) (xs:List Z3) (v:Value) (z0:Nat),(k<=b.steps.length)/\(vs.length=mm+k)/\(CL n.decls n.routines.length mm xs k z0)/\(z0+2*ow.length<=60*Y5 (b.steps.take k)+2*mi.length)/\(∀v∈ow,0<=v/\v<((mm+k:Nat):Int))/\F=sF [4,6,8] fz [(9,Yx xs v),(10,ZO vs w),(11,ZO ow u),(12,.i k)]/\h=[Ze gz 3,Ze gz 4,Ze gz 5,.tail u 1,.tail v 5,.tail w 1]/\m=b.steps.length-k) _ _ _ ⟨0,us,v2,mi,v3,[],v1,0,ob,ob,CL.nil,(by simp),hmr,rfl,rfl,rfl⟩ (wk [3,3,3,0,1,0] (fw (fr (Y7 fl)))) ?_)))))))
 rintro m F h ⟨k,vs,w,ow,u,xs,v,z0,Y8,Zm,Zo,Yq,XK,rfl,rfl,rfl⟩
 refine aq (ar (Z6 3 [1] (iw (W1 b.steps) (Z0 1 (ie (ZH ((k:Int)<(b.steps.length:Int)) (fun Za=>?_) (fun Za=>?_)))))))
 ·refine ak (aq (ab 1 (ar (Z6 3 [1] ?_))))
  obtain ⟨x1,Z2⟩:=Zp b.steps k om
  have YW:=AN Z2
  have hfS:=(Co x1).1 (Bd hfs Z2)
  rw [hdn k om] at hfS
  have hoS:=(BC x1).1 (hos x1 (ZU Z2))
  have htk:=FI Z2
  have hse:=(x1).sz_eq
  have hal4:=hfS.alen
  have hxl:=Zo.len
  have htl:=TC b.steps (k+1)
  refine Zn (Zh none (k:Int) 5 (XG Z2)) (Z0 1 (iA [.i 0,.i 0,.i 0,nl,nl] fun b4=>Zy 0 b4 (X6 x1) (ie (ar (Tz 3 [(33,Z5 vs)] [3,0] (Zr [] (FE n vs x1 ob ob) (Z0 1 (ie (ar (Tz 4 [(38,Z5 vs)] [3,0] (ic [] (Pf n vs x1 (mm+k) (hf:=hfS)) ?_)))))))))))
  rintro _ _ ⟨zs1,rfl,rfl,ZT⟩
  have hdu:=ZT
  have hq1:=Zo.cnts (op:=14) (.inl rfl) (vs:=zs1) (fun v hv=>hfS.args v (hdu.2 v hv))
  have hl1:=hq1.len
  refine ic [] (TB 14 zs1) ?_
  rintro _ _ ⟨v4,rfl,rfl⟩
  refine ZA 0 [(41,W7 (zs1.map (Zl 14)))] (ip 6 (Zk (xs++(zs1.map (Zl 14)))) (Zk xs) (Zk (zs1.map (Zl 14))) v none 5 (YP _) (YP _) (WL _) (by simp<;>omega) (by simp [W0,Zk]) fun v5=>Z0 1 (ie (ar (Tz 4 [(45,Z5 vs)] [5,2] (ic [] (PC n vs x1 (mm+k) b.sz (hf:=hfS) (h11:=hoS.1) (hop:=hoS.2) (ih:=ih)) ?_)))))
  rintro _ _ ⟨y1,rfl,rfl,Y6⟩
  have hkt:=Y6
  have hq2:=hq1.kt hkt
  have hl2:=hq2.len
  refine Vj [Yk y1] (Zk [y1]) (Wx [y1]).symm 1 5 fun v6=>ZA 0 [(48,W7 [y1])] (ip 1 (Zk ((xs++(zs1.map (Zl 14)))++[y1])) (Zk (xs++(zs1.map (Zl 14)))) (Zk [y1]) v5 none 5 (YP _) (YP _) (WL _) (by simp<;>omega) (by simp [W0,Zk]) fun v7=>Z0 1 (ie (aq (ar (Z0 2 (ie (ac ((Yv n vs x1) != 0) X4 (fun Zg=>?_) (fun Zg=>?_))))))))
  ·exact az (Z0 2 (iw (Y2 vs) (iL (Z7 [(vs.length:Int)]) 1 1 fun v8=>ZA 0 [(55,Z5 [(vs.length:Int)])] (ip 8 (Z7 (ow++[(vs.length:Int)])) (Z7 ow) (Z7 [(vs.length:Int)]) u none 1 (Yl _) (Yl _) (XD _) (by simp<;>omega) (by simp [XA,Z7]) fun v9=>Z0 1 (ie (az (Z0 2 (iL (Z7 [Yv n vs x1]) 1 1 fun v10=>ZA 0 [(59,Z5 [Yv n vs x1])] (ip 10 (Z7 (vs++[Yv n vs x1])) (Z7 vs) (Z7 [Yv n vs x1]) w none 1 (Yl _) (Yl _) (XD _) (by simp<;>omega) (by simp [XA,Z7]) fun v11=>Z0 1 (ie (az (Z0 1 (ZE k (Z0 1 (ie (ZG ⟨k+1,(vs++[Yv n vs x1]),v11,(ow++[(vs.length:Int)]),v9,((xs++(zs1.map (Zl 14)))++[y1]),v7,_,ob,ob,hq2,(by (try simp only [Yb,Yw,YV]);omega),(by first|exact YZ (fun v hv=>by have:=XK v hv;omega) om|exact (fun v hv=>by have:=XK v hv;omega)),rfl,rfl,rfl⟩ (wk [8,8,8,2,3,0] (fw (fr (ZI k fl))))))))))))))))))))
  exact ak (az (Z0 2 (iL (Z7 [Yv n vs x1]) 1 1 fun v12=>ZA 0 [(59,Z5 [Yv n vs x1])] (ip 9 (Z7 (vs++[Yv n vs x1])) (Z7 vs) (Z7 [Yv n vs x1]) w none 1 (Yl _) (Yl _) (XD _) (by simp<;>omega) (by simp [XA,Z7]) fun v13=>Z0 1 (ie (az (Z0 1 (ZE k (Z0 1 (ie (ZG ⟨k+1,(vs++[Yv n vs x1]),v13,ow,u,((xs++(zs1.map (Zl 14)))++[y1]),v7,_,ob,ob,hq2,(by (try simp only [Yb,Yw,YV]);omega),(by first|exact YZ (fun v hv=>by have:=XK v hv;omega) om|exact (fun v hv=>by have:=XK v hv;omega)),rfl,rfl,rfl⟩ (wk [6,6,6,6,2,0] (fw (fr (ZI k fl)))))))))))))))
 have hxl:=Zo.len
 have htl:=TC b.steps k
 refine ax 0 (aq (ar (Z6 3 [1] ?_)))
 obtain ⟨x2,Zt⟩:=Zp vs b.result.toNat om
 refine Zn (Zh (some w) b.result 1 (ZQ Zt)) (Z0 2 (ie (ac (x2 != 0) X4 (fun ZK=>?_) (fun ZK=>?_))))
 ·refine az (Z6 3 [1] (Zr [] (QP 14 b.result) (Vj [Yk (Zl 14 b.result)] (Zk [Zl 14 b.result]) (Wx [Zl 14 b.result]).symm 1 5 fun v14=>ZA 0 [(71,W7 [Zl 14 b.result])] (ip 5 (Zk (xs++[Zl 14 b.result])) (Zk xs) (Zk [Zl 14 b.result]) v none 5 (YP _) (YP _) (WL _) (by simp<;>omega) (by simp [W0,Zk]) fun v15=>Z0 1 (ie (aD 8 (B6 4 8 [0,1,4,5] [(74,Z5 ow)] [3] (Z8 2 (dc 2 [] [1] [b2] (TB 15 ow) ?_)))))))))
  rintro _ _ ⟨v16,rfl,rfl⟩
  exact Y9 3 3 [] [(75,W7 (ow.map (Zl 15)))] (Z8 3 (dp 3 1 [1] [b2] (Zk ((xs++[Zl 14 b.result])++(ow.map (Zl 15)))) (Zk (xs++[Zl 14 b.result])) (Zk (ow.map (Zl 15))) v15 none 5 (YP _) (YP _) (WL _) (by simp<;>omega) (by simp [W0,Zk]) fun v17=>Zj 1 2 [6] (Z8 7 (Yo 7 3 [] [] b3 [Yx ((xs++[Zl 14 b.result])++(ow.map (Zl 15))) v17,.i b.result] (de (Z9 (r3 [] [.agg [Yx ((xs++[Zl 14 b.result])++(ow.map (Zl 15))) v17,.i b.result]] [0] [(b3,b3)] ⟨(Z4.mk ((xs++[Zl 14 b.result])++(ow.map (Zl 15))) b.result),rfl,rfl,((((Zo.cnt (op:=14) (.inl rfl) om).cnts (op:=15) (.inr rfl) (fun v hv=>by have:=XK v hv;omega)).block om).le (by have:=TC b.steps k;omega))⟩ (Zf.agg (.cons (Zf.forget _ _) (.cons (lr _) .nil))))))))))
 refine ak (aD 8 (B6 4 8 [0,1,4,5] [(74,Z5 ow)] [1] (Z8 2 (dc 2 [] [1] [b2] (TB 15 ow) ?_))))
 rintro _ _ ⟨v18,rfl,rfl⟩
 exact Y9 3 3 [] [(75,W7 (ow.map (Zl 15)))] (Z8 3 (dp 3 5 [1] [b2] (Zk (xs++(ow.map (Zl 15)))) (Zk xs) (Zk (ow.map (Zl 15))) v none 5 (YP _) (YP _) (WL _) (by simp<;>omega) (by simp [W0,Zk]) fun v19=>Zj 1 2 [6] (Z8 7 (Yo 7 2 [] [] b3 [Yx (xs++(ow.map (Zl 15))) v19,.i b.result] (de (Z9 (r3 [] [.agg [Yx (xs++(ow.map (Zl 15))) v19,.i b.result]] [0] [(b3,b3)] ⟨(Z4.mk (xs++(ow.map (Zl 15))) b.result),rfl,rfl,(((Zo.cnts (op:=15) (.inr rfl) (fun v hv=>by have:=XK v hv;omega)).block om).le (by have:=TC b.steps k;omega))⟩ (Zf.agg (.cons (Zf.forget _ _) (.cons (lr _) .nil))))))))))
theorem PA (n:Zu) (us:LI) (b:Z4) (mi:LI) (mm:Nat) (hn:X2 n:=by exact ob) (hf:fB n.decls n.routines.length mm b:=by exact ob) (hop:Wo XX b:=by exact ob) (hul:us.length=mm:=by exact ob) (hm:mm+4*b.sz<=100000:=by exact ob) (hmr:∀v∈mi,0<=v/\v<(mm:Int)) (hml:mi.length<=3:=by exact ob) (hbz:b.sz<=500:=by exact ob):Zi 201 [Yc n,Z5 us,ZC b,Z5 mi] [] (fun r h=>∃(y:Z4),r=ZC y/\h=[]/\KB n.decls n.routines.length mm y (60*b.sz)):=by
 have key:∀k:Nat,∀(us2:LI) (b2:Z4) (mi2:LI) (m2:Nat),(fB n.decls n.routines.length m2 b2)->(Wo XX b2)->(us2.length=m2)->(m2+4*b2.sz<=100000)->(∀v∈mi2,0<=v/\v<(m2:Int))->(mi2.length<=3)->(b2.sz<=500)->(b2.sz<k)->Zi 201 [Yc n,Z5 us2,ZC b2,Z5 mi2] [] (fun r h=>∃(y:Z4),r=ZC y/\h=[]/\KB n.decls n.routines.length m2 y (60*b2.sz)):=by
  intro k
  induction k with
  | zero=>intro us2 b2 mi2 m2 h1 h2 h3 h4 h5 h6 h7 h9;omega
  | succ k ih=>intro us2 b2 mi2 m2 h1 h2 h3 h4 h5 h6 h7 h9;exact PB n us2 b2 mi2 m2 hn h1 h2 h3 h4 h5 h6 h7 fun us3 b3 mi3 m3 q1 q2 q3 q4 q5 q6 q7 q9=>ih us3 b3 mi3 m3 q1 q2 q3 q4 q5 q6 q7 om
 exact key (b.sz+1) us b mi mm hf hop hul hm hmr hml hbz om
theorem PU (rt:Y1) (hp:rt.params.length<=1000000:=by exact ob) (hl:rt.lent.length<=1000000:=by exact ob):Zi 202 [To rt] [] (fun r h=>∃(os:LI),r=Z5 os/\h=[]/\os.length<=rt.params.length/\∀v∈os,0<=v/\v<(rt.params.length:Int)):=by
 refine ZB 31 Tryz.func202 (ar (iA (QH rt) fun b1=>Z0 1 (ie (ar (iL (Z7 []) 0 1 fun v1=>?_)))))
 refine Z0 1 (ie (aq (ar (Z0 1 (ie (ab 0 (ZX (fun fz gz m F h=>∃(k:Nat) (os:LI) (u:Value),(k<=rt.params.length)/\(os.length<=k)/\(∀v∈os,0<=v/\v<(rt.params.length:Int))/\F=sF [1] fz [(3,ZO os u),(4,.i k)]/\h=[Ze gz 1,.tail u 1]/\m=rt.params.length-k) _ _ _ ⟨0,[],v1,ob,ob,(fun v hv=>by cases hv),rfl,rfl,rfl⟩ (wk [1,0] (fr (Y7 fl))) ?_)))))))
 rintro m F h ⟨k,os,u,Y8,Zm,Zo,rfl,rfl,rfl⟩
 refine aq (ar (Z6 3 [0] (iw (Y2 rt.params) (Z0 1 (ie (ZH ((k:Int)<(rt.params.length:Int)) (fun Za=>?_) (fun Za=>?_)))))))
 ·refine ak (aq (ab 1 (ar (Z6 3 [0] ?_))))
  obtain ⟨x1,Z2⟩:=Zp rt.params k om
  refine Zn (Zh none (k:Int) 1 (ZQ Z2)) (Xr [1,3,4] [(25,.b ((x1 != 0)&&(!(decide ((k:Int)∈rt.lent)))))] (fun gz=>gz) ?_ ?_)
  ·refine Z0 3 (ib (b:=(x1 != 0)) 19 (fun Zb=>?_) (fun Zb=>?_))
   ·exact Z6 3 [0] (Zr [] (Vm rt.lent (k:Int)) (Z0 2 (ie (wk [0,0] (ZJ (!(decide ((k:Int)∈rt.lent))) Zb fl)))))
   exact Z0 6 (ie (wk [0,0] (ZJ false Zb fl)))
  refine ac ((x1 != 0)&&(!(decide ((k:Int)∈rt.lent)))) (p:=(x1≠0)/\(¬((k:Int)∈rt.lent))) (Xb X4 (YR dq)) (fun Zg=>?_) (fun Zg=>?_)
  ·exact az (Z0 2 (iL (Z7 [(k:Int)]) 1 1 fun v2=>ZA 0 [(28,Z5 [(k:Int)])] (ip 2 (Z7 (os++[(k:Int)])) (Z7 os) (Z7 [(k:Int)]) u none 1 (Yl _) (Yl _) (XD _) (by simp<;>omega) (by simp [XA,Z7]) fun v3=>Z0 1 (ie (az (Z0 1 (ZE k (Z0 1 (ie (ZG ⟨k+1,(os++[(k:Int)]),v3,ob,ob,(by first|exact Zo|exact YZ Zo om),rfl,rfl,rfl⟩ (wk [2,0] (fr (ZI k fl)))))))))))))
  exact ak (az (Z0 1 (ZE k (Z0 1 (ie (ZG ⟨k+1,os,u,ob,ob,(by first|exact Zo|exact YZ Zo om),rfl,rfl,rfl⟩ (wk [0,0] (fr (ZI k fl)))))))))
 exact ax 0 (ar (Z0 2 (ie (Z9 (r2 [] [ZO os u] ⟨os,rfl,rfl,⟨by omega,Zo⟩⟩ (Zf.forget _ _))))))
theorem Pz (n:Zu) (qz:Nat) (hn:FO n qz XX:=by exact ob) (hqz:qz<=181:=by exact ob):Zi 160 [Yc n] [] (fun r h=>∃(n2:Zu),r=Yc n2/\h=[]/\FO n2 (60*qz) Wv):=by
 have hnl:=hn.fn.len
 have Xl:=hn.fn.decls.ok
 have hok:=hn.fn.ok
 refine ZB 39 Tryz.func160 (ar (iA (YC n) fun b1=>iA [nl,nl] fun b2=>ie (ar (Z6 2 [1] (Zr [] (JX n.decls) (iL (Yn []) 0 5 fun v1=>Z0 1 (iA [nl,nl] fun b3=>?_)))))))
 refine Zy 0 b3 [YB n.decls,XQ [] v1] (ie (aq (ar (Z0 1 (ie (ab 0 (ZX (fun fz gz m F h=>∃(k:Nat) (rs:List Y1) (u:Value),(k<=n.routines.length)/\(rs.length=k)/\(∀r∈rs,RF n.decls n.routines.length (60*qz) Wv r)/\F=sF [1,2,3] fz [(4,.i k)]/\h=[.obj b3 [YB n.decls,XQ rs u],Ze gz 2,Ze gz 3,.tail u 5]/\m=n.routines.length-k) _ _ _ ⟨0,[],v1,ob,ob,(fun r hr=>by cases hr),rfl,rfl,rfl⟩ (wk [0,1,1,0] (Y7 fl)) ?_)))))))
 rintro m F h ⟨k,rs,u,Y8,Zm,Zo,rfl,rfl,rfl⟩
 refine aq (ar (Z6 3 [2] (iw (U4 n.routines) (Z0 1 (ie (ZH ((k:Int)<(n.routines.length:Int)) (fun Za=>?_) (fun Za=>?_)))))))
 ·refine ak (aq (ab 1 (ar (Z6 3 [2] ?_))))
  obtain ⟨x1,Z2⟩:=Zp n.routines k om
  have hrf:=hn.rf (ZU Z2)
  have hrp:(x1).params.length<=3:=(U2.bd (f:=⟨(x1).params,(x1).result,default⟩) hrf.sig).1
  have hrl:=hrf.lent.1
  have hrz:=hrf.body.2
  refine Zn (Zh none (k:Int) 5 (Wk Z2)) (Z0 1 (iA [nl,nl,.i 0,nl,.i 0] fun b4=>Zy 0 b4 (QH x1) (ie (aE 16 (ZD 7 16 [0,1,2,3,4,5,6,7,8] [1,0,3,0,0,0] (Z8 9 (dc 9 [] [0,0,3,0,1] [b4,b4,b1,b4,b3] (PU x1) ?_)))))))
  rintro _ _ ⟨os1,rfl,rfl,ZT⟩
  have hop:=ZT
  refine Z8 10 (dc 10 [] [0,1] [b4,b3] (PA n x1.params x1.body os1 _ (hf:=hrf.body.1) (hop:=hrf.op) (hul:=rfl) (hmr:=hop.2)) ?_)
  rintro _ _ ⟨y1,rfl,rfl,Y6⟩
  have hkb0:=Y6
  have hkb:=hkb0.le (z2:=60*qz) om
  exact Z8 11 (Yf 11 [] [1] [b3] (AL x1 y1 (hp:=om) (hl:=om)) (Z8 12 (dL 12 [1] [b3] (Yn [Y1.mk x1.params x1.lent x1.result y1]) 1 5 fun v2=>Y9 3 3 [] [(35,Ty [Y1.mk x1.params x1.lent x1.result y1])] (Z8 13 (dp 13 5 [] [] (Yn (rs++[Y1.mk x1.params x1.lent x1.result y1])) (Yn rs) (Yn [Y1.mk x1.params x1.lent x1.result y1]) u none 5 (Vt _) (Vt _) (KV _) (by simp<;>omega) (by simp [JB,Yn]) fun v3=>Zj 1 2 [14] (Z8 15 (Yo 15 3 [] [] b3 [YB n.decls,XQ (rs++[Y1.mk x1.params x1.lent x1.result y1]) v3] (de (az (Z0 1 (ZE k (Z0 1 (ie (ZG ⟨k+1,(rs++[Y1.mk x1.params x1.lent x1.result y1]),v3,ob,ob,(YZ Zo (by first|exact hrf.with hkb.fb hkb.sz hkb.op|(rw [Z4.eta];exact hrf.with hkb.fb hkb.sz hkb.op))),rfl,rfl,rfl⟩ (wk [0,3,3,0] (ZI k fl))))))))))))))))
 exact ax 0 (ar (Z6 1 [0] (Zy 1 b2 [YB n.decls,XQ rs u] (ie (Z9 (r3 [] [.agg [YB n.decls,XQ rs u]] [0] [(b2,b2)] ⟨(Zu.mk n.decls rs),rfl,rfl,(FO.fin hn.fn om Zo).1⟩ (Zf.agg (.cons (lr _) (.cons (Zf.forget _ _) .nil)))))))))
theorem LQ (s:Z3) :Zi 206 [Yk s] [] (Ym (.b ((s.op==14)||(s.op==15)))):=by
 refine ZB 11 Tryz.func206 (ar (iA (X6 s) fun b1=>Z0 1 (ie (ar (WO 8 [] [(10,.b ((s.op==14)||(s.op==15)))] (fun gz=>gz) ?_ (fun hj1=>?_))))))
 ·exact Z0 1 (ie (Z9 (BP)))
 refine Z6 4 [0] (ib (b:=(s.op==14)) 6 (fun Zb=>?_) (fun Zb=>?_))
 ·exact Z0 4 (Xe (wk [0] (ZJ true Zb fl)) hj1)
 exact Z6 4 [0] (Xe (wk [0] (ZJ (s.op==15) Zb fl)) hj1)
theorem R9 (rn:List Z3) (hrn:∀s∈rn,∃a,s.args=[a]) (hl:rn.length<=100000000:=by exact ob):Zi 237 [W7 rn] [] (fun r h=>∃(vs:LI),r=Z5 vs/\h=[]/\Jn vs/\vs.length<=rn.length/\∀v∈vs,∃s∈rn,s.args=[v]):=by
 refine ZB 22 Tryz.func237 (ar (Z0 1 (ie (ar (iL (Z7 []) 0 1 fun v1=>?_)))))
 refine Z0 1 (ie (aq (ar (Z0 1 (ie (ab 0 (ZX (fun fz gz m F h=>∃(k:Nat) (vs:LI),(k<=rn.length)/\(vs.length<=k)/\(Jn vs)/\(∀v∈vs,∃s∈rn,s.args=[v])/\F=sF [0] fz [(3,Z5 vs),(4,.i k)]/\h=[]/\m=rn.length-k) _ _ _ ⟨0,[],ob,ob,List.Pairwise.nil,(fun v hv=>by cases hv),rfl,rfl,rfl⟩ (wk [] (fc (x:=ZO [] v1) (Zf.forget _ _) (Y7 fl))) ?_)))))))
 rintro m F h ⟨k,vs,Y8,Zm,Zo,Yq,rfl,rfl,rfl⟩
 refine aq (ar (Z0 2 (iw (W1 rn) (Z0 1 (ie (ZH ((k:Int)<(rn.length:Int)) (fun Za=>?_) (fun Za=>?_)))))))
 ·refine ak (aq (ab 1 (az (Z0 3 ?_))))
  obtain ⟨x1,Z2⟩:=Zp rn k om
  have hxm:=ZU Z2
  obtain ⟨xa,hxa⟩:=hrn _ hxm
  refine Zn (Zh none (k:Int) 5 (XG Z2)) (Z0 2 ?_)
  obtain ⟨x2,Zt⟩:=Zp x1.args 0 (by rw [hxa];simp)
  have hxe:x1.args=[x2]:=by have h:=Zt;rw [hxa] at h;rw [hxa];simpa using h
  refine Zn (Zh none 0 1 (ZQ Zt)) (Z0 1 (ic [] (Bh vs x2) ?_))
  rintro _ _ ⟨v2,rfl,rfl⟩
  exact Z0 1 (ie (az (Z0 1 (ZE k (Z0 1 (ie (ZG ⟨k+1,(Wm vs x2),ob,(by have:=At vs x2;omega),(HS Zo),(fun v hv=>(Bp.1 hv).elim (Yq v) (fun e=>⟨x1,hxm,by rw [e];exact hxe⟩)),rfl,rfl,rfl⟩ (wk [] (fc (x:=ZO (Wm vs x2) v2) (Zf.forget _ _) (ZI k fl))))))))))
 exact ax 0 (ar (Z0 2 (ie (Z9 (r1 [] ⟨vs,rfl,rfl,⟨Zo,by omega,Yq⟩⟩)))))
theorem PM (rn:List Z3) (v:Int) (hrn:∀s∈rn,∃a,s.args=[a]) (hl:rn.length<=100000000:=by exact ob):Zi 238 [W7 rn,.i v] [] (fun r h=>∃(z:Int),r=.i z/\h=[]/\-((Wz rn v:Nat):Int)<=z/\z<=((Wz rn v:Nat):Int)):=by
 refine ZB 44 Tryz.func238 (ar (Z0 1 (ie (ar (Z0 1 (ie (aq (ar (Z0 1 (ie (ab 0 (ZX (fun fz gz m F h=>∃(k:Nat) (z:Int),(k<=rn.length)/\(-((Wz (rn.take k) v:Nat):Int)<=z/\z<=((Wz (rn.take k) v:Nat):Int))/\F=sF [0,1] fz [(5,.i z),(6,.i k)]/\h=gz/\m=rn.length-k) _ _ _ ⟨0,0,ob,(by simp [Wz]),rfl,rfl,rfl⟩ (wk [] (fr (Y7 fl))) ?_))))))))))))
 rintro m F h ⟨k,z,Y8,Zm,rfl,rfl,rfl⟩
 refine aq (ar (Z0 2 (iw (W1 rn) (Z0 1 (ie (ZH ((k:Int)<(rn.length:Int)) (fun Za=>?_) (fun Za=>?_)))))))
 ·refine ak (aq (ab 1 (ar (Z0 2 ?_))))
  obtain ⟨x1,Z2⟩:=Zp rn k om
  have hxm:=ZU Z2
  obtain ⟨xa,hxa⟩:=hrn _ hxm
  have hct:=NH Z2 v
  have hcl:=NI rn (k+1) v
  have hcm:=Gx rn v
  refine Zn (Zh none (k:Int) 5 (XG Z2)) (Z0 2 ?_)
  obtain ⟨x2,Zt⟩:=Zp x1.args 0 (by rw [hxa];simp)
  have hg0:=Kf Zt
  rw [hg0] at hct
  refine Zn (Zh none 0 1 (ZQ Zt)) (Xr [0,1,5,6] [(29,.b ((x2==v)&&(x1.op==14)))] (fun gz=>gz) ?_ ?_)
  ·refine Z0 4 (ib (b:=(x2==v)) 22 (fun Zb=>?_) (fun Zb=>?_))
   ·exact Z0 2 (Zn (Zh none (k:Int) 5 (XG Z2)) (Z0 4 (ie (wk [] (ZJ (x1.op==14) Zb fl)))))
   exact Z0 7 (ie (wk [] (ZJ false Zb fl)))
  refine ac ((x2==v)&&(x1.op==14)) (p:=(x2=v)/\(x1.op=14)) (Xb Zz Zz) (fun Zg=>?_) (fun Zg=>?_)
  ·exact az (Z0 1 (ia ((z+1)) ((z)+(1)) (Z0 1 (ie (az (Z0 1 (ZE k (Z0 1 (ie (ZG ⟨k+1,(z+1),ob,(by first|(rw [hct,Zw om];omega)|(rw [hct,Zs om];omega)),rfl,rfl,rfl⟩ (wk [] (fr (ZI k fl)))))))))))))
  refine ar (Z0 2 (Zn (Zh none (k:Int) 5 (XG Z2)) (Z0 2 (Zn (Zh none 0 1 (ZQ Zt)) (Z0 3 (ie (ac (x2==v) Zz (fun ZK=>?_) (fun ZK=>?_))))))))
  ·exact az (Z0 1 (ia ((z-1)) ((z)-(1)) (Z0 1 (ie (az (Z0 1 (ZE k (Z0 1 (ie (ZG ⟨k+1,(z-1),ob,(by first|(rw [hct,Zw om];omega)|(rw [hct,Zs om];omega)),rfl,rfl,rfl⟩ (wk [] (fr (ZI k fl)))))))))))))
  exact ak (az (Z0 1 (ZE k (Z0 1 (ie (ZG ⟨k+1,z,ob,(by first|(rw [hct,Zw om];omega)|(rw [hct,Zs om];omega)),rfl,rfl,rfl⟩ (wk [] (fr (ZI k fl)))))))))
 exact ax 0 (ar (Z0 2 (ie (Z9 (r1 [] ⟨z,rfl,rfl,(by have e:=Zm;rw [Vo om] at e;exact e)⟩)))))
theorem HB (rn:List Z3) (hrn:∀s∈rn,∃a,s.args=[a]) (hl:rn.length<=100000000:=by exact ob):Zi 207 [W7 rn] [] (fun r h=>∃(D:LI) (R:LI) (v:Value),r=Yx (D.map (Zl 14)++R.map (Zl 15)) v/\h=[.tail v 5]/\D.length+R.length<=rn.length/\(∀v∈D,∃s∈rn,s.args=[v])/\∀v∈R,∃s∈rn,s.args=[v]):=by
 refine ZB 51 Tryz.func207 (ar (Z0 1 (ie (ar (iL (Z7 []) 0 1 fun v1=>Z0 1 (ie (ar (iL (Z7 []) 0 1 fun v2=>Z0 1 (ie (ar (Z0 1 (ic [] (R9 rn (hrn:=ob)) ?_))))))))))))
 rintro _ _ ⟨vs1,rfl,rfl,ZT⟩
 have hvo:=ZT
 have hsl:=M9 rn hvo.1
 refine Z0 1 (ie (aq (ar (Z0 1 (ie (ab 0 (ZX (fun fz gz m F h=>∃(k:Nat) (D:LI) (u:Value) (R:LI) (w:Value),(k<=vs1.length)/\(D.length+R.length<=Ws rn (vs1.take k))/\(∀v∈D,v∈vs1)/\(∀v∈R,v∈vs1)/\F=sF [0,5] fz [(3,ZO D u),(4,ZO R w),(6,.i k)]/\h=[.tail u 1,.tail w 1]/\m=vs1.length-k) _ _ _ ⟨0,[],v1,[],v2,ob,(by simp [Ws]),(fun v hv=>by cases hv),(fun v hv=>by cases hv),rfl,rfl,rfl⟩ (wk [1,0] (fw (Y7 fl))) ?_)))))))
 rintro m F h ⟨k,D,u,R,w,Y8,Zm,Zo,Yq,rfl,rfl,rfl⟩
 refine aq (ar (Z0 2 (iw (Y2 vs1) (Z0 1 (ie (ZH ((k:Int)<(vs1.length:Int)) (fun Za=>?_) (fun Za=>?_)))))))
 ·refine ak (aq (ab 1 (ar (Z0 3 ?_))))
  obtain ⟨x1,Z2⟩:=Zp vs1 k om
  have hst:=Z39 (rn:=rn) Z2
  have hsk:=FL rn vs1 (k+1)
  have hxm:=ZU Z2
  refine Zn (Zh none (k:Int) 1 (ZQ Z2)) (Z0 1 (ic [] (PM rn x1 (hrn:=ob)) ?_))
  rintro _ _ ⟨z1,rfl,rfl,Y6⟩
  have hnt:=Y6
  refine Z0 1 (ie (aq (ab 2 (ZX (fun fz gz m F h=>∃(z:Int) (D2:LI) (u2:Value) (w2:Value),((D2.length:Int)+(R.length:Int)+z<=((Ws rn (vs1.take k):Nat):Int)+((Wz rn x1:Nat):Int))/\((D2.length:Int)+(R.length:Int)-z<=((Ws rn (vs1.take k):Nat):Int)+((Wz rn x1:Nat):Int))/\(∀v∈D2,v∈vs1)/\F=sF [0,5,6] fz [(3,ZO D2 u2),(4,ZO R w2),(7,.i z)]/\h=[.tail u2 1,.tail w2 1]/\m=z.toNat) _ _ _ ⟨z1,D,u,w,om,om,Zo,rfl,rfl,rfl⟩ (wk [0,0] fl) ?_))))
  rintro m F h ⟨z,D2,u2,w2,U3,Ww,Xc,rfl,rfl,rfl⟩
  refine aq (ar (Z0 2 (ie (ZH (z>0) (fun Zg=>?_) (fun Zg=>?_)))))
  ·exact ak (aq (ab 3 (az (Z0 3 (Zn (Zh none (k:Int) 1 (ZQ Z2)) (Z0 1 (iL (Z7 [x1]) 1 1 fun v3=>ZA 0 [(33,Z5 [x1])] (ip 1 (Z7 (D2++[x1])) (Z7 D2) (Z7 [x1]) u2 none 1 (Yl _) (Yl _) (XD _) (by simp<;>omega) (by simp [XA,Z7]) fun v4=>Z0 1 (ie (az (Z0 1 (ia ((z-1)) ((z)-(1)) (Z0 1 (ie (ZG ⟨(z-1),(D2++[x1]),v4,w2,(by simp only [Yb,Yw,YV];omega),(by simp only [Yb,Yw,YV];omega),(YZ Xc hxm),rfl,rfl,rfl⟩ (wk [0,1] fl))))))))))))))))
  refine ax 2 (ab 4 (ZX (fun fz gz m F h=>∃(y:Int) (R2:LI) (u3:Value) (w3:Value),((D2.length:Int)+(R2.length:Int)+y<=((Ws rn (vs1.take k):Nat):Int)+((Wz rn x1:Nat):Int))/\((D2.length:Int)+(R2.length:Int)-y<=((Ws rn (vs1.take k):Nat):Int)+((Wz rn x1:Nat):Int))/\(∀v∈R2,v∈vs1)/\F=sF [0,5,6] fz [(3,ZO D2 u3),(4,ZO R2 w3),(7,.i y)]/\h=[.tail u3 1,.tail w3 1]/\m=(-y).toNat) _ _ _ ⟨z,R,u2,w2,ob,ob,Yq,rfl,rfl,rfl⟩ (wk [0,0] fl) ?_))
  rintro m F h ⟨y,R2,u3,w3,Nr,Z4m,Gw,rfl,rfl,rfl⟩
  refine aq (ar (Z0 2 (ie (ZH (y<0) (fun ZK=>?_) (fun ZK=>?_)))))
  ·exact ak (aq (ab 5 (az (Z0 3 (Zn (Zh none (k:Int) 1 (ZQ Z2)) (Z0 1 (iL (Z7 [x1]) 1 1 fun v5=>ZA 0 [(44,Z5 [x1])] (ip 2 (Z7 (R2++[x1])) (Z7 R2) (Z7 [x1]) w3 none 1 (Yl _) (Yl _) (XD _) (by simp<;>omega) (by simp [XA,Z7]) fun v6=>Z0 1 (ie (az (Z0 1 (ia ((y+1)) ((y)+(1)) (Z0 1 (ie (ZG ⟨(y+1),(R2++[x1]),u3,v6,(by simp only [Yb,Yw,YV];omega),(by simp only [Yb,Yw,YV];omega),(YZ Gw hxm),rfl,rfl,rfl⟩ (wk [2,0] fl))))))))))))))))
  exact ax 4 (az (Z0 1 (ZE k (Z0 1 (ie (ZG ⟨k+1,D2,u3,R2,w3,ob,(by rw [hst];omega),Xc,Gw,rfl,rfl,rfl⟩ (wk [0,0] (fw (ZI k fl)))))))))
 have YW:=FL rn vs1 k
 refine ax 0 (ar (ZA 1 [(46,Z5 D)] (ic [] (TB 14 D) ?_)))
 rintro _ _ ⟨v7,rfl,rfl⟩
 refine ZA 1 [(48,Z5 R)] (ic [] (TB 15 R) ?_)
 rintro _ _ ⟨v8,rfl,rfl⟩
 exact ZA 0 [(49,W7 (R.map (Zl 15)))] (ip 1 (Zk ((D.map (Zl 14))++(R.map (Zl 15)))) (Zk (D.map (Zl 14))) (Zk (R.map (Zl 15))) v7 none 5 (YP _) (YP _) (WL _) (by simp<;>omega) (by simp [W0,Zk]) fun v9=>Z0 1 (ie (Z9 (r2 [0] [Yx ((D.map (Zl 14))++(R.map (Zl 15))) v9] ⟨_,_,v9,rfl,rfl,⟨by have:=FL rn vs1 k;omega,fun v hv=>hvo.2.2 v (Zo v hv),fun v hv=>hvo.2.2 v (Yq v hv)⟩⟩ (Zf.slh _ (Yg Zk ob))))))
theorem Pb (ds:List Zd) (nf:Nat) (b:Z4) (mm:Nat) (hf:fB ds nf mm b) (hop:Wo Wv b) (hz:b.sz<=100000000) (ih:∀(b2:Z4) (m2:Nat),(fB ds nf m2 b2)->(Wo Wv b2)->(b2.sz<=100000000)->(b2.sz<b.sz)->Zi 163 [ZC b2] [] (fun r h=>∃(y:Z4),r=ZC y/\h=[]/\KB ds nf m2 y b2.sz)):Zi 163 [ZC b] [] (fun r h=>∃(y:Z4),r=ZC y/\h=[]/\KB ds nf mm y b.sz):=by
 have hbe:=b.sz_eq
 have Zq:=WQ b
 obtain ⟨hfs,hr1,hr2⟩:=(Bb b).1 hf
 have hos:=JT.1 ((CZ b).1 hop)
 refine ZB 72 Tryz.func163 (ar (iA (YE b) fun b1=>iA [nl,.i 0] fun b2=>ie (ar (iL (Zk []) 0 5 fun v1=>Z0 1 (ie (ar (iL (Zk []) 0 5 fun v2=>?_)))))))
 refine Z0 1 (ie (aq (ar (Z0 1 (ie (ab 0 (ZX (fun fz gz m F h=>∃(k:Nat) (xs:List Z3) (v:Value) (rn:List Z3) (u:Value) (z0:Nat),(k<=b.steps.length)/\(CL ds nf mm xs (Yy (b.steps.take k)) z0)/\(z0+2*rn.length<=Y5 (b.steps.take k))/\(G8 (mm+(Yy (b.steps.take k))) rn)/\F=sF [1,2] fz [(3,Yx xs v),(4,Yx rn u),(5,.i k)]/\h=[Ze gz 2,Ze gz 3,.tail u 5,.tail v 5]/\m=b.steps.length-k) _ _ _ ⟨0,[],v1,[],v2,0,ob,CL.nil,(by simp [Y5]),(fun s hs=>by cases hs),rfl,rfl,rfl⟩ (wk [2,2,0,0] (fw (Y7 fl))) ?_)))))))
 rintro m F h ⟨k,xs,v,rn,u,z0,Y8,Zm,Zo,Yq,rfl,rfl,rfl⟩
 refine aq (ar (Z6 3 [1] (iw (W1 b.steps) (Z0 1 (ie (ZH ((k:Int)<(b.steps.length:Int)) (fun Za=>?_) (fun Za=>?_)))))))
 ·refine ak (aq (ab 1 (ar (Z6 3 [1] ?_))))
  obtain ⟨x1,Z2⟩:=Zp b.steps k om
  have YW:=AN Z2
  have hfS:=(Co x1).1 (Bd hfs Z2)
  have hoS:=(BC x1).1 (hos x1 (ZU Z2))
  have htk:=FI Z2
  have htl:=TC b.steps (k+1)
  have hse:=(x1).sz_eq
  have hdt:=GR Z2
  have hxl:=Zm.len
  have hkl2:=C7 (x1).kids
  refine Zn (Zh none (k:Int) 5 (XG Z2)) (Z0 1 (iA [.i 0,.i 0,.i 0,nl,nl] fun b3=>Zy 0 b3 (X6 x1) (ie (ar (Z6 1 [0] (Zr [] (LQ x1) (ie (ac ((x1.op==14)||(x1.op==15)) (p:=(x1.op=14)∨(x1.op=15)) (X3 Zz Zz) (fun Zg=>?_) (fun Zg=>?_)))))))))
  ·refine az (Z6 2 [0] (Vj [Yk x1] (Zk [x1]) (Wx [x1]).symm 1 5 fun v3=>ZA 0 [(27,W7 [x1])] (ip 4 (Zk (rn++[x1])) (Zk rn) (Zk [x1]) u none 5 (YP _) (YP _) (WL _) (by simp<;>omega) (by simp [W0,Zk]) fun v4=>Z0 1 (ie (az (Z0 1 (ZE k (Z0 1 (ie ?_)))))))))
   obtain ⟨⟨pa,hpa,hpr⟩,Y6,hpc⟩:=hfS.pair (by assumption)
   rw [Zw hpc,A4] at hdt
   exact ZG ⟨k+1,xs,v,(rn++[x1]),v4,_,ob,(by rw [hdt];exact Zm),(by rw [htk];simp only [Yb,Yw,YV];omega),(by rw [hdt];exact YZ Yq ⟨pa,hpa,hpr⟩),rfl,rfl,rfl⟩ (wk [3,3,0,2] (fw (ZI k fl)))
  refine ar (ZA 2 [(30,W7 rn)] (ic [] (HB rn (hrn:=(fun s hs=>(Yq s hs).elim fun a h=>⟨a,h.1⟩))) ?_))
  rintro _ _ ⟨D1,R1,v5,rfl,rfl,ZT⟩
  have hsr:=ZT
  have hq1:=Zm.run Yq hsr.2.1 hsr.2.2
  have hl1:=Zm.len
  have htl1:=TC b.steps k
  refine ZA 0 [(31,W7 (D1.map (Zl 14)++R1.map (Zl 15)))] (ip 5 (Zk (xs++(D1.map (Zl 14)++R1.map (Zl 15)))) (Zk xs) (Zk (D1.map (Zl 14)++R1.map (Zl 15))) v none 5 (YP _) (YP _) (WL _) (by simp<;>omega) (by simp [W0,Zk]) fun v6=>Z0 1 (ie (ar (iL (Zk []) 0 5 fun v7=>Z0 1 (ie (ar (iL (Yh []) 0 2 fun v8=>?_)))))))
  refine Z0 1 (ie (aq (ar (Z0 1 (ie (ab 2 (ZX (fun fz gz m F h=>∃(j:Nat) (ks:List Z4) (w:Value) (v3:Value) (u4:Value),(j<=x1.kids.length)/\(ks.length=j)/\(KK ds nf (VL ds x1.op x1.num (mm+(Yy (b.steps.take k)))) ks (YF (x1.kids.take j)))/\F=sF [1,2,5,6] fz [(3,Yx (xs++(D1.map (Zl 14)++R1.map (Zl 15))) v3),(4,Yx [] u4),(7,VK ks w),(8,.i j)]/\h=[Ze gz 4,Ze gz 5,Ze gz 6,.tail u4 5,.tail v3 5,.tail w 2]/\m=x1.kids.length-j) _ _ _ ⟨0,[],v8,v6,v7,ob,ob,(KK.nil.le (T0 _)),rfl,rfl,rfl⟩ (wk [4,4,4,1,1,0] (fw (fr (Y7 fl)))) ?_)))))))
  rintro m F h ⟨j,ks,w,v3,u4,U3,Ww,Xc,rfl,rfl,rfl⟩
  refine aq (ar (Z6 3 [0] (iw (Vh x1.kids) (Z0 1 (ie (ZH ((j:Int)<(x1.kids.length:Int)) (fun ZK=>?_) (fun ZK=>?_)))))))
  ·refine ak (aq (ab 3 (az (Z6 4 [0] ?_))))
   obtain ⟨x2,Zt⟩:=Zp x1.kids j om
   have hkz:=VW Zt
   have hfk:=Bc hfS.kids Zt
   rw [Wc] at hfk
   have hok:=AA.1 hoS.2 x2 (ZU Zt)
   have hbt:=C8 Zt
   refine Zn (Zh none (j:Int) 2 (Vs Zt)) (Z0 1 (ic [] (ih x2 (VL ds x1.op x1.num (mm+(Yy (b.steps.take k))) j) hfk hok ob ob) ?_))
   rintro _ _ ⟨y1,rfl,rfl,Y6⟩
   have hkb:=Y6
   exact Vj [ZC y1] (Yh [y1]) (VD [y1]).symm 1 2 fun v9=>ZA 0 [(49,Xq [y1])] (ip 6 (Yh (ks++[y1])) (Yh ks) (Yh [y1]) w none 2 (Ue _) (Ue _) (Cf _) (by simp<;>omega) (by simp [K9,Yh]) fun v10=>Z0 1 (ie (az (Z0 1 (ZE j (Z0 1 (ie (ZG ⟨j+1,(ks++[y1]),v10,v3,u4,ob,ob,((Xc.snoc Ww hkb).le om),rfl,rfl,rfl⟩ (wk [2,2,2,2,2,0] (fw (fr (ZI j fl))))))))))))
  refine ax 2 (aE 15 (ZD 5 15 [0,1,2,3,4,5,6,7,8,10] [0,0,0,0] (Z8 9 (dc 9 [] [0,0,0] [b3,b3,b3] (V7 x1.args) ?_))))
  rintro _ _ ⟨v11,rfl,rfl⟩
  refine Y9 3 4 [11] [(62,.agg [.i x1.op,.i x1.num,.i x1.into,Z5 x1.args,Xq ks])] (Z8 12 (XP 12 [] [] [Yk (Z3.mk x1.op x1.num x1.into x1.args ks)] (Zk [Z3.mk x1.op x1.num x1.into x1.args ks]) (Wx [Z3.mk x1.op x1.num x1.into x1.args ks]).symm 1 5 fun v12=>Y9 2 2 [] [(63,W7 [Z3.mk x1.op x1.num x1.into x1.args ks])] (Z8 13 (dp 13 6 [] [] (Zk ((xs++(D1.map (Zl 14)++R1.map (Zl 15)))++[Z3.mk x1.op x1.num x1.into x1.args ks])) (Zk (xs++(D1.map (Zl 14)++R1.map (Zl 15)))) (Zk [Z3.mk x1.op x1.num x1.into x1.args ks]) v3 none 5 (YP _) (YP _) (WL _) (by simp<;>omega) (by simp [W0,Zk]) fun v13=>Zj 0 1 [14] (de (az (Z0 1 (ZE k (Z0 1 (ie ?_))))))))))
  obtain ⟨hn1,hn2⟩:=hfS.not_pair (by assumption) hoS.1
  rw [Zs (by rw [hn2];simp)] at hdt
  have hbj:=DZ (xs:=x1.kids) (k:=j) om
  have hkt:=KT.eq hfS hn1 om Xc
  have hq2:=hq1.kt hkt
  exact ZG ⟨k+1,((xs++(D1.map (Zl 14)++R1.map (Zl 15)))++[Z3.mk x1.op x1.num x1.into x1.args ks]),v13,[],u4,_,ob,(by rw [hdt];exact hq2),(by rw [htk];simp only [YV];omega),(fun s hs=>by cases hs),rfl,rfl,rfl⟩ (wk [4,4,4,0] (fw (ZI k fl)))
 have htl2:=TC b.steps k
 have hxl2:=Zm.len
 refine ax 0 (aD 8 (B6 4 8 [0,1,4,5] [(66,W7 rn)] [1] (Z8 2 (dc 2 [] [1] [b1] (HB rn (hrn:=(fun s hs=>(Yq s hs).elim fun a h=>⟨a,h.1⟩))) ?_))))
 rintro _ _ ⟨D2,R2,v14,rfl,rfl,YA⟩
 have hsr:=YA
 have hq1:=Zm.run Yq hsr.2.1 hsr.2.2
 have hl1:=Zm.len
 have htl1:=TC b.steps k
 exact Y9 3 3 [] [(67,W7 (D2.map (Zl 14)++R2.map (Zl 15)))] (Z8 3 (dp 3 4 [1] [b1] (Zk (xs++(D2.map (Zl 14)++R2.map (Zl 15)))) (Zk xs) (Zk (D2.map (Zl 14)++R2.map (Zl 15))) v none 5 (YP _) (YP _) (WL _) (by simp<;>omega) (by simp [W0,Zk]) fun v15=>Zj 1 2 [6] (Z8 7 (Yo 7 2 [] [] b2 [Yx (xs++(D2.map (Zl 14)++R2.map (Zl 15))) v15,.i b.result] (de (Z9 (r3 [] [.agg [Yx (xs++(D2.map (Zl 14)++R2.map (Zl 15))) v15,.i b.result]] [0] [(b2,b2)] ⟨(Z4.mk (xs++(D2.map (Zl 14)++R2.map (Zl 15))) b.result),rfl,rfl,(by have e:b.steps.take k=b.steps:=Vo om;rw [e] at Zo hq1;exact (hq1.block ⟨hr1,hr2⟩).le om)⟩ (Zf.agg (.cons (Zf.forget _ _) (.cons (lr _) .nil))))))))))
theorem Pa (ds:List Zd) (nf:Nat) (b:Z4) (mm:Nat) (hf:fB ds nf mm b:=by exact ob) (hop:Wo Wv b:=by exact ob) (hz:b.sz<=100000000:=by exact ob):Zi 163 [ZC b] [] (fun r h=>∃(y:Z4),r=ZC y/\h=[]/\KB ds nf mm y b.sz):=by
 have key:∀k:Nat,∀(b2:Z4) (m2:Nat),(fB ds nf m2 b2)->(Wo Wv b2)->(b2.sz<=100000000)->(b2.sz<k)->Zi 163 [ZC b2] [] (fun r h=>∃(y:Z4),r=ZC y/\h=[]/\KB ds nf m2 y b2.sz):=by
  intro k
  induction k with
  | zero=>intro b2 m2 h1 h2 h3 h9;omega
  | succ k ih=>intro b2 m2 h1 h2 h3 h9;exact Pb ds nf b2 m2 h1 h2 h3 fun b3 m3 q1 q2 q3 q9=>ih b3 m3 q1 q2 q3 om
 exact key (b.sz+1) b mm hf hop hz om
theorem Pc (n:Zu) (qz:Nat) (hn:FO n qz Wv:=by exact ob) (hqz:qz<=10000000:=by exact ob):Zi 124 [Yc n] [] (fun r h=>∃(n2:Zu),r=Yc n2/\h=[]/\FO n2 qz Wv):=by
 have hnl:=hn.fn.len
 have Xl:=hn.fn.decls.ok
 have hok:=hn.fn.ok
 refine ZB 36 Tryz.func124 (ar (iA (YC n) fun b1=>iA [nl,nl] fun b2=>ie (ar (Z6 2 [1] (Zr [] (JX n.decls) (iL (Yn []) 0 5 fun v1=>Z0 1 (iA [nl,nl] fun b3=>?_)))))))
 refine Zy 0 b3 [YB n.decls,XQ [] v1] (ie (aq (ar (Z0 1 (ie (ab 0 (ZX (fun fz gz m F h=>∃(k:Nat) (rs:List Y1) (u:Value),(k<=n.routines.length)/\(rs.length=k)/\(∀r∈rs,RF n.decls n.routines.length qz Wv r)/\F=sF [1,2,3] fz [(4,.i k)]/\h=[.obj b3 [YB n.decls,XQ rs u],Ze gz 2,Ze gz 3,.tail u 5]/\m=n.routines.length-k) _ _ _ ⟨0,[],v1,ob,ob,(fun r hr=>by cases hr),rfl,rfl,rfl⟩ (wk [0,1,1,0] (Y7 fl)) ?_)))))))
 rintro m F h ⟨k,rs,u,Y8,Zm,Zo,rfl,rfl,rfl⟩
 refine aq (ar (Z6 3 [2] (iw (U4 n.routines) (Z0 1 (ie (ZH ((k:Int)<(n.routines.length:Int)) (fun Za=>?_) (fun Za=>?_)))))))
 ·refine ak (aq (ab 1 (aE 19 (ZD 14 19 [0,1,2,3,4] [0,2] ?_))))
  obtain ⟨x1,Z2⟩:=Zp n.routines k om
  have hrf:=hn.rf (ZU Z2)
  have hrp:(x1).params.length<=3:=(U2.bd (f:=⟨(x1).params,(x1).result,default⟩) hrf.sig).1
  have hrl:=hrf.lent.1
  have hrz:=hrf.body.2
  refine dx 5 (Zh none (k:Int) 5 (Wk Z2)) (ZD 9 13 [6,7,8,9] [2] (dx 10 (Zh none (k:Int) 5 (Wk Z2)) (Zj 6 8 [11,12] (Z8 13 (dc 13 [] [2,0] [b1,b3] (Pa n.decls n.routines.length x1.body _ (hf:=hrf.body.1) (hop:=hrf.op)) ?_)))))
  rintro _ _ ⟨y1,rfl,rfl,ZT⟩
  have hkb0:=ZT
  have hkb:=hkb0.le (z2:=qz) hrz
  exact Z8 14 (Yf 14 [] [0] [b3] (AL x1 y1 (hp:=om) (hl:=om)) (Z8 15 (dL 15 [0] [b3] (Yn [Y1.mk x1.params x1.lent x1.result y1]) 1 5 fun v2=>Y9 3 3 [] [(32,Ty [Y1.mk x1.params x1.lent x1.result y1])] (Z8 16 (dp 16 4 [] [] (Yn (rs++[Y1.mk x1.params x1.lent x1.result y1])) (Yn rs) (Yn [Y1.mk x1.params x1.lent x1.result y1]) u none 5 (Vt _) (Vt _) (KV _) (by simp<;>omega) (by simp [JB,Yn]) fun v3=>Zj 1 2 [17] (Z8 18 (Yo 18 2 [] [] b3 [YB n.decls,XQ (rs++[Y1.mk x1.params x1.lent x1.result y1]) v3] (de (az (Z0 1 (ZE k (Z0 1 (ie (ZG ⟨k+1,(rs++[Y1.mk x1.params x1.lent x1.result y1]),v3,ob,ob,(YZ Zo (hrf.with hkb.fb hkb.sz hkb.op)),rfl,rfl,rfl⟩ (wk [0,2,2,0] (ZI k fl))))))))))))))))
 exact ax 0 (ar (Z6 1 [0] (Zy 1 b2 [YB n.decls,XQ rs u] (ie (Z9 (r3 [] [.agg [YB n.decls,XQ rs u]] [0] [(b2,b2)] ⟨(Zu.mk n.decls rs),rfl,rfl,(FO.fin hn.fn om Zo).1⟩ (Zf.agg (.cons (lr _) (.cons (Zf.forget _ _) .nil)))))))))
theorem Ic (b:Nat) (ga:Hd) (gb:Hd) (gc:Hd) (gd:Hd) (ge:Hd) (gf:Hd) (n:Zu) (s:Z3) (L:Zv) (ln:LI) (q:Int) (i:Nat) (kb0:Z4) (m:LI) (hn:X2 n:=by exact ob) (hk:X5 n.decls L q:=by exact ob) (hf:Jp n L.vars s:=by exact ob) (hop:s.op=7∨s.op=8:=by exact ob) (hkb:s.kids[i]? = some kb0:=by exact ob) (harm:(Xm n.decls s.op s.num)[i]? = some m:=by exact ob) (hbt:0<=Xx n (L.vars++m) kb0:=by exact ob) (hb:L.vars.length+4*s.sz<=1000000000:=by exact ob) (hq:0<=q/\q+4*s.sz<=999999990:=by exact ob) (hln:ln.length<=4294967296:=by exact ob) (ih:∀(b2:Z4) (c:Nat) (ra:Hd) (rb:Hd) (rc:Hd) (rd:Hd) (re:Hd) (rf:Hd) (M:Zv) (mm:Nat) (p:Int),(b2.sz<s.sz)->(X5 n.decls M p)->(0<=Xx n M.vars b2)->(mm<=M.vars.length)->(M.vars.length+4*b2.sz<=1000000000)->(0<=p/\p+4*b2.sz<=999999990)->Zi 270 [.p c 0,Yc n,ZC b2,.i mm] [.obj c [.h ra,.h rb,.h rc,.h rd,.h re,.h rf,Z5 ln],rV ra M.vars,rV rb M.own,rV rc M.par,rV rd M.con,rV re M.fst,rV rf M.tok] (fun r h=>(∃(wa:Hd) (wb:Hd) (wc:Hd) (wd:Hd) (we:Hd) (wf:Hd) (M':Zv),r=.b true/\h=[.obj c [.h wa,.h wb,.h wc,.h wd,.h we,.h wf,Z5 ln],rV wa M'.vars,rV wb M'.own,rV wc M'.par,rV wd M'.con,rV we M'.fst,rV wf M'.tok]/\WU n ln M mm b2=some M')∨(r=.b false/\h=[]/\WU n ln M mm b2=none))):Zi 262 [.p b 0,Yc n,Yk s,.i i] [.obj b [.h ga,.h gb,.h gc,.h gd,.h ge,.h gf,Z5 ln],rV ga L.vars,rV gb L.own,rV gc L.par,rV gd L.con,rV ge L.fst,rV gf L.tok] (fun r h=>(∃(c:Nat) (wa:Hd) (wb:Hd) (wc:Hd) (wd:Hd) (we:Hd) (wf:Hd) (L':Zv),r=.tup [.p c 0,.b true]/\h=[.obj c [.h wa,.h wb,.h wc,.h wd,.h we,.h wf,Z5 ln],rV wa L'.vars,rV wb L'.own,rV wc L'.par,rV wd L'.con,rV we L'.fst,rV wf L'.tok,.obj b [.h ga,.h gb,.h gc,.h gd,.h ge,.h gf,Z5 ln],rV ga L.vars,rV gb L.own,rV gc L.par,rV gd L.con,rV ge L.fst,rV gf L.tok]/\WU n ln (U7 n.decls L s.op s.num s.args i) L.vars.length kb0=some L')∨(r=.tup [.any,.b false]/\h=[.obj b [.h ga,.h gb,.h gc,.h gd,.h ge,.h gf,Z5 ln],rV ga L.vars,rV gb L.own,rV gc L.par,rV gd L.con,rV ge L.fst,rV gf L.tok]/\WU n ln (U7 n.decls L s.op s.num s.args i) L.vars.length kb0=none)):=by
 obtain ⟨e1,e2,e3,e4,e5⟩:=hk.len
 have Xl:=hn.decls
 have hkz:=U8 s
 have haz:=Tp s
 have hK:=CM hk hq.1 hf hop harm
 have hm3:=Gh Xl harm
 have hkl:=(Xj.1 hkb).1
 have hks:=VW hkb
 refine ZB 83 Tryz.func262 (ar (iA (YC n) fun b1=>iA (X6 s) fun b2=>Z0 2 (ie (ar (Z6 4 [2] (Zn (JZ 3 ga L.vars) (Z0 1 (ie (ar (Z0 1 (ic [2,2,2,2,2,2,2] (Sm b ga gb gc gd ge gf L ln (hlk:=hk.len)) ?_)))))))))))
 rintro _ _ ⟨c1,wa1,wb1,wc1,wd1,we1,wf1,rfl,rfl⟩
 refine Z0 1 (ie (aq (ar (Z6 3 [14] (ie (ac (s.op==8) Zz (fun Za=>?_) (fun Za=>?_)))))))
 ·obtain ⟨x,hxa⟩:=hf.one om
  have ha:s.args[0]? = some x:=by rw [hxa];rfl
  have hx:=hf.args x (by rw [hxa];simp)
  obtain ⟨cc,hcc,hmc⟩:=Na Za harm
  have hal:=(Xj.1 ha).1
  have hcl:=(Xj.1 hcc).1
  have hm4:=hm3
  rw [hmc] at hm4
  refine ar (Z6 4 [15,14] (ic [] (QO n.decls s.num) ?_))
  rintro _ _ ⟨v1,rfl,rfl⟩
  refine Z0 1 (Zn (Zh (some v1) (i:Int) 1 (ZQ hcc)) (Z0 2 (ie (ar (Z6 3 [16] (Zr [] (TA n.decls cc) (Z0 1 (ie (aD 11 (ZD 5 11 [0,1,2,3,4,5] [1,15] (dx 6 (Zh none 0 1 (ZQ ha)) (Zj 2 4 [7,8] (dx 9 (WR 5 wd1 L.con x x.toNat (hq:=rfl)) (Z8 10 (KU 10 5 [] [] wd1 L.con x.toNat cc (de (aD 11 (ZD 5 11 [0,1,2,3,4,5] [2,15] (dx 6 (Zh none 0 1 (ZQ ha)) (Zj 2 4 [7,8] (dx 9 (WR 6 we1 L.fst x x.toNat (hq:=rfl)) (Z8 10 (KU 10 6 [] [] we1 L.fst x.toNat (L.vars.length:Int) (de (ar (Z0 1 (ie (ab 0 (ZX (fun fz gz m F h=>∃(k:Nat) (L3:Zv) (ka:Hd) (kb:Hd) (kc:Hd) (kd:Hd) (ke:Hd) (kf:Hd),(k<=(ZY n.decls cc).length)/\(VS L3)/\(L3.vars.length=L.vars.length+k)/\(JH L3 x ((ZY n.decls cc).drop k)=Js n.decls L x cc)/\F=sF [3,5,6,10,11,13] fz [(14,.i k)]/\h=[.obj c1 [.h ka,.h kb,.h kc,.h kd,.h ke,.h kf,Z5 ln],Ze gz 8,Ze gz 9,Ze gz 10,Ze gz 11,Ze gz 12,Ze gz 13,Ze gz 14,Ze gz 15,Ze gz 16,rV ka L3.vars,rV kb L3.own,rV kc L3.par,rV kd L3.con,rV ke L3.fst,rV kf L3.tok]/\m=(ZY n.decls cc).length-k) _ _ _ ⟨0,(Zv.mk L.vars L.own L.par (L.con.set x.toNat cc) (L.fst.set x.toNat (L.vars.length:Int)) L.tok),wa1,wb1,wc1,wd1,we1,wf1,ob,(VS.arm hk.len),ob,(by rw [Js];rfl),rfl,rfl,rfl⟩ (wk [3,7,7,7,7,7,7,7,7,7,3,3,3,1,0,1] (Y7 fl) (e:=(rc (rc (rc (rc (rc (rc (rc (rc (rc (rc (rv (xs:=L.vars) ob (rv (xs:=L.own) ob (rv (xs:=L.par) ob (rv (xs:=(L.con.set x.toNat cc)) ob (rv (xs:=(L.fst.set x.toNat (L.vars.length:Int))) ob (rv (xs:=L.tok) ob rz)))))))))))))))))) ?_)))))))))))))))))))))))))))))
  rintro m F h ⟨k,L3,ka,kb,kc,kd,ke,kf,Y8,Zm,Zo,Yq,rfl,rfl,rfl⟩
  refine aq (ar (Z0 2 (io (.i (((ZY n.decls cc).length:Nat):Int)) (.i (((Z7 (ZY n.decls cc)).length:Nat):Int)) (li (by rw [Y2])) (Z0 1 (ie (ZH ((k:Int)<(((ZY n.decls cc).length:Nat):Int)) (fun Zg=>?_) (fun Zg=>?_)))))))
  ·refine ak (aq (ab 1 (aE 10 (Zj 7 10 [0,1,2] ?_))))
   obtain ⟨x1,Z2⟩:=Zp (ZY n.decls cc) k om
   refine dx 3 (Zh none (k:Int) 1 (ZQ Z2)) (ZD 3 6 [4,5,6] [8] (dx 7 (Zh none 0 1 (ZQ ha)) (Zj 1 2 [8] (Z8 9 (dc 9 [0,9,9,9,9,9,9] [] [] (Tw c1 ka kb kc kd ke kf L3 ln x1 0 x (hlk:=Zm)) ?_)))))
   rintro _ _ ⟨wa2,wb2,wc2,wd2,we2,wf2,rfl⟩
   exact de (az (Z0 1 (ZE k (Z0 1 (ie (ZG ⟨k+1,(L3.grow x1 0 x),wa2,wb2,wc2,wd2,we2,wf2,ob,(VS.grow Zm),(by simp [Zv.grow];omega),(by rw [Ye Z2,JH] at Yq;exact Yq),rfl,rfl,rfl⟩ (wk [0,6,6,6,6,6,6,6,6,6,0,0,0,0,0,0] (ZI k fl))))))))
  have hE:U7 n.decls L s.op s.num s.args i=L3:=by rw [RZ Za ha hcc,<-Yq,Xf om];rfl
  refine ax 0 (aD 12 (ZD 6 12 [0,1,2,3,4,5] [9,8] (dx 6 (Zh none (i:Int) 2 (Vs hkb)) (Zj 3 5 [7,8] (Z8 9 (dc 9 [0,9,9,9,9,9,9] [] [] (ih kb0 c1 ka kb kc kd ke kf L3 L.vars.length q ob (by rw [<-hE];exact hK.1) (by rw [<-hE,hK.2];exact hbt) (by rw [<-hE,hK.2];simp) (by rw [<-hE,hK.2,Yb];omega) ob) ?_))))))
  rintro _ _ (⟨wa3,wb3,wc3,wd3,we3,wf3,M'1,rfl,rfl,ZT⟩|⟨rfl,rfl,Y6⟩)
  ·exact Zj 0 2 [10,11] (de (Z9 (r2 [0,0,0,0,0,0,0,0,0,0,0,0,0,0] [.p c1 0,.b true] (.inl ⟨c1,wa3,wb3,wc3,wd3,we3,wf3,M'1,rfl,rfl,(by rw [hE];exact ZT)⟩) (lr _))))
  exact Zj 0 2 [10,11] (de (Z9 (r2 [0,0,0,0,0,0,0] [.p c1 0,.b false] (.inr ⟨rfl,rfl,(by rw [hE];exact Y6)⟩) (Zf.tup (.cons (Zf.any _) (.cons (lr _) .nil))))))
 have hE:=S0 (ds:=n.decls) (L:=L) (num:=s.num) (args:=s.args) (i:=i) Za
 refine ak (aD 12 (ZD 6 12 [0,1,2,3,4,5] [15,14] (dx 6 (Zh none (i:Int) 2 (Vs hkb)) (Zj 3 5 [7,8] (Z8 9 (dc 9 [0,0,0,0,0,0,0] [] [] (ih kb0 c1 wa1 wb1 wc1 wd1 we1 wf1 L L.vars.length q ob (by rw [<-hE];exact hK.1) (by rw [<-hE,hK.2];exact hbt) (by rw [<-hE,hK.2];simp) (by rw [<-hE,hK.2,Yb];omega) ob) ?_))))))
 rintro _ _ (⟨wa4,wb4,wc4,wd4,we4,wf4,M'2,rfl,rfl,YA⟩|⟨rfl,rfl,YJ⟩)
 ·exact Zj 0 2 [10,11] (de (Z9 (r2 [0,0,0,0,0,0,0,0,0,0,0,0,0,0] [.p c1 0,.b true] (.inl ⟨c1,wa4,wb4,wc4,wd4,we4,wf4,M'2,rfl,rfl,(by rw [hE];exact YA)⟩) (lr _))))
 exact Zj 0 2 [10,11] (de (Z9 (r2 [0,0,0,0,0,0,0] [.p c1 0,.b false] (.inr ⟨rfl,rfl,(by rw [hE];exact YJ)⟩) (Zf.tup (.cons (Zf.any _) (.cons (lr _) .nil))))))
theorem Sl (b:Nat) (ga:Hd) (gb:Hd) (gc:Hd) (gd:Hd) (ge:Hd) (gf:Hd) (n:Zu) (s:Z3) (L:Zv) (ln:LI) (q:Int) (hn:X2 n:=by exact ob) (hk:X5 n.decls L q:=by exact ob) (hf:Jp n L.vars s:=by exact ob) (hop:s.op=7∨s.op=8:=by exact ob) (hb:L.vars.length+4*s.sz<=1000000000:=by exact ob) (hq:0<=q/\q+4*s.sz<=999999990:=by exact ob) (hln:ln.length<=4294967296:=by exact ob) (ih:∀(b2:Z4) (c:Nat) (ra:Hd) (rb:Hd) (rc:Hd) (rd:Hd) (re:Hd) (rf:Hd) (M:Zv) (mm:Nat) (p:Int),(b2.sz<s.sz)->(X5 n.decls M p)->(0<=Xx n M.vars b2)->(mm<=M.vars.length)->(M.vars.length+4*b2.sz<=1000000000)->(0<=p/\p+4*b2.sz<=999999990)->Zi 270 [.p c 0,Yc n,ZC b2,.i mm] [.obj c [.h ra,.h rb,.h rc,.h rd,.h re,.h rf,Z5 ln],rV ra M.vars,rV rb M.own,rV rc M.par,rV rd M.con,rV re M.fst,rV rf M.tok] (fun r h=>(∃(wa:Hd) (wb:Hd) (wc:Hd) (wd:Hd) (we:Hd) (wf:Hd) (M':Zv),r=.b true/\h=[.obj c [.h wa,.h wb,.h wc,.h wd,.h we,.h wf,Z5 ln],rV wa M'.vars,rV wb M'.own,rV wc M'.par,rV wd M'.con,rV we M'.fst,rV wf M'.tok]/\WU n ln M mm b2=some M')∨(r=.b false/\h=[]/\WU n ln M mm b2=none))):Zi 235 [.p b 0,Yc n,Yk s] [.obj b [.h ga,.h gb,.h gc,.h gd,.h ge,.h gf,Z5 ln],rV ga L.vars,rV gb L.own,rV gc L.par,rV gd L.con,rV ge L.fst,rV gf L.tok] (fun r h=>(∃(wa:Hd) (wb:Hd) (wc:Hd) (wd:Hd) (we:Hd) (wf:Hd) (L':Zv),r=.b true/\h=[.obj b [.h wa,.h wb,.h wc,.h wd,.h we,.h wf,Z5 ln],rV wa L'.vars,rV wb L'.own,rV wc L'.par,rV wd L'.con,rV we L'.fst,rV wf L'.tok]/\Ju n ln L s=some L')∨(r=.b false/\h=[]/\Ju n ln L s=none)):=by
 obtain ⟨e1,e2,e3,e4,e5⟩:=hk.len
 have Xl:=hn.decls
 have hkz:=U8 s
 have haz:=Tp s
 obtain ⟨hk1,hk2,hk3⟩:=hf.kids hop
 obtain ⟨kd,hkd⟩:=Zp s.kids 0 om
 obtain ⟨m0,hm0⟩:=Zp (Xm n.decls s.op s.num) 0 om
 obtain ⟨x,hxa⟩:=hf.one om
 have ha:s.args[0]? = some x:=by rw [hxa];rfl
 have hx:=hf.args x (by rw [hxa];simp)
 have hgx:=Kf ha
 have hal:=(Xj.1 ha).1
 refine ZB 88 Tryz.func235 (ar (iA (YC n) fun b1=>iA (X6 s) fun b2=>Z0 1 (ie (aq (ar (Xr [0,4,5] [(23,.b ((s.op==8)&&(!VB L ln x)))] (fun gz=>[Ze gz 2,Ze gz 3,Ze gz 4,Ze gz 5,Ze gz 6,Ze gz 7,Ze gz 8,Ze gz 0,Ze gz 1]) ?_ ?_))))))
 ·refine Z6 4 [0] (ib (b:=(s.op==8)) 15 (fun Zb=>?_) (fun Zb=>?_))
  ·exact Z6 3 [0] (Zn (Zh none 0 1 (ZQ ha)) (Z0 1 (Zr [2,2,2,2,2,2,2] (CP b ga gb gc gd ge gf L ln x (hlk:=hk.len) (hd:=hk.down)) (Z0 2 (ie (ZP 9 (ZJ (!VB L ln x) Zb fl)))))))
  exact Z0 8 (ie (wk [2,2,2,2,2,2,2,0,0] (ZJ false Zb fl)))
 refine ac ((s.op==8)&&(!VB L ln x)) (p:=(s.op=8)/\(¬(VB L ln x=true))) (Xb Zz (YR Iff.rfl)) (fun Za=>?_) (fun Za=>?_)
 ·exact ar (Z0 1 (ie (Z9 (r1 [] (.inr ⟨rfl,rfl,(by rw [Ju,Zw (by rw [hgx];exact Za)])⟩)))))
 have hgo:=NC (n:=n) (ln:=ln) (L:=L) (s:=s) (by rw [hgx];exact Za) hkd
 refine ak (ar (Z6 3 [8,7] (ic [0,0,0,0,0,0,0] (Ic b ga gb gc gd ge gf n s L ln q 0 kd m0 (hkb:=hkd) (harm:=hm0) (hbt:=(hk3 0 kd m0 hkd hm0)) (ih:=ob)) ?_)))
 rintro _ _ (⟨c1,wa1,wb1,wc1,wd1,we1,wf1,L'1,rfl,rfl,YA⟩|⟨rfl,rfl,YJ⟩)
 ·have hone:=YA
  obtain ⟨l1,l2⟩:=I6 hn hk hq.1 hf hop hkd hm0 (hk3 0 kd m0 hkd hm0) hone
  refine Z0 5 (ie (aq (ar (Z0 2 (ie (Wi (ak (aq (ar (Z0 1 (ie (ab 0 (ZX (fun fz gz m F h=>∃(k:Nat),(1<=k/\k<=s.kids.length)/\(Qe n ln L s.op s.num s.args L'1 (s.kids.drop k) k=Qe n ln L s.op s.num s.args L'1 (s.kids.drop 1) 1)/\F=sF [0,4,5,7] fz [(9,.i k)]/\h=gz/\m=s.kids.length-k) _ _ _ ⟨1,ob,ob,rfl,rfl,rfl⟩ (ZP 16 (fc (x:=.i 1) li fl)) ?_)))))))))))))
  rintro m F h ⟨k,Y8,Zm,rfl,rfl,rfl⟩
  refine aq (ar (Z6 3 [14] (iw (Vh s.kids) (Z0 1 (ie (ZH ((k:Int)<(s.kids.length:Int)) (fun Zg=>?_) (fun Zg=>?_)))))))
  ·obtain ⟨ke,hke⟩:=Zp s.kids k om
   obtain ⟨mk,hmk⟩:=Zp (Xm n.decls s.op s.num) k om
   have hcs:=S5 (n:=n) (ln:=ln) (L:=L) (op:=s.op) (num:=s.num) (args:=s.args) (one:=L'1) hke
   refine ak (aq (ab 1 (ar (Z6 4 [15,14] (ic [7,7,7,7,7,7,7] (Ic b ga gb gc gd ge gf n s L ln q k ke mk (hkb:=hke) (harm:=hmk) (hbt:=(hk3 k ke mk hke hmk)) (ih:=ob)) ?_)))))
   rintro _ _ (⟨c2,wa2,wb2,wc2,wd2,we2,wf2,L'2,rfl,rfl,YU⟩|⟨rfl,rfl,XI⟩)
   ·have htwo:=YU
    obtain ⟨l3,l4⟩:=I6 hn hk hq.1 hf hop hke hmk (hk3 k ke mk hke hmk) htwo
    refine Z0 5 (ie (aD 26 (ZD 15 26 [0,1,2,3,4,5,6,7,8,9,10] [14,0] (Z8 11 (Qy 11 [16,2] [] [] [rV wb1 L'1.own,rV wb2 L'2.own] (LS L'1.own L'2.own) Cb (gL (v:=wb1) 0 (gL (v:=wb2) 1 gN)) (Tx (Tx Qg)) ?_)))))
    rintro _ _ ⟨rfl,rfl⟩
    refine Ah [0,4,5,7,9] [(73,.b ((!(decide (L'1.own=L'2.own)))||(!(decide (L'1.tok=L'2.tok)))))] (fun gz=>gz) ?_ ?_
    ·refine Zj 11 14 [12,13,14] (db (b:=(!(decide (L'1.own=L'2.own)))) 62 (fun ZM=>?_) (fun ZM=>?_))
     ·exact Zj 0 11 [15,16,17,18,19,20,21,22,23,24,25] (de (ZP 23 (ZJ true ZM fl)))
     refine ZD 3 11 [15,16,17,18,19,20,21,22] [15,2] (Z8 23 (Qy 23 [20,7] [] [] [rV wf1 L'1.tok,rV wf2 L'2.tok] (LS L'1.tok L'2.tok) Cb (gL (v:=wf1) 0 (gL (v:=wf2) 1 gN)) (Tx (Tx Qg)) ?_))
     rintro _ _ ⟨rfl,rfl⟩
     exact Zj 0 2 [24,25] (de (wk [2,2,2,2,2,2,2,1,1,1,1,1,1,1,1,1,1,1,1,1,0,0,0] (ZJ (!(decide (L'1.tok=L'2.tok))) ZM fl)))
    refine ac ((!(decide (L'1.own=L'2.own)))||(!(decide (L'1.tok=L'2.tok)))) (p:=(¬(L'1.own=L'2.own))∨(¬(L'1.tok=L'2.tok))) (X3 (YR dq) (YR dq)) (fun ZK=>?_) (fun ZK=>?_)
    ·exact ar (Z0 1 (ie (Z9 (r1 [] (.inr ⟨rfl,rfl,(by rw [hgo,hone];exact Il (by rw [<-Zm,hcs,htwo];exact Z1b ZK))⟩)))))
    exact ak (az (Z0 1 (ZE k (Z0 1 (ie (ZG ⟨k+1,ob,(by rw [hcs,htwo,Z1c ZK] at Zm;exact Zm),rfl,rfl,rfl⟩ (wk [15,15,0,14,14,14,14,7,7,7,7,7,7,7,7,7] (ZI k fl))))))))
   have htwo:=XI
   exact Z0 5 (ie (aD 26 (Zj 0 26 [0,1,2,3,4,5,6,7,8,9,10,11,12,13,14,15,16,17,18,19,20,21,22,23,24,25] (de (WZ (ar (Z0 1 (ie (Z9 (r1 [] (.inr ⟨rfl,rfl,(by rw [hgo,hone];exact Il (by rw [<-Zm,hcs,htwo];rfl))⟩)))))))))))
  have hE:Qe n ln L s.op s.num s.args L'1 (s.kids.drop 1) 1=true:=by rw [<-Zm,Xf om,Qe]
  exact ax 0 (ar (Z6 7 [0] (Zy 7 b [.h ga,.h wb1,.h gc,.h gd,.h ge,.h gf,Z5 ln] (ie (ar (Z6 7 [1] (Zy 0 b [.h ga,.h wb1,.h gc,.h gd,.h ge,.h wf1,Z5 ln] (ie (ar (Z0 1 (ie (Z9 (r1 [0,7,2,7,7,7,5] (.inl ⟨ga,wb1,gc,gd,ge,wf1,(Zv.mk L.vars L'1.own L.par L.con L.fst L'1.tok),rfl,rfl,(by rw [hgo,hone];exact Sy hE)⟩) (eq:=(rc (rv (xs:=L.vars) ob (rv (xs:=L'1.own) ob (rv (xs:=L.par) ob (rv (xs:=L.con) ob (rv (xs:=L.fst) ob (rv (xs:=L'1.tok) ob rz)))))))))))))))))))))
 have hone:=YJ
 exact Z0 5 (ie (aq (ar (Z0 2 (ie (WZ (ar (Z0 1 (ie (Z9 (r1 [] (.inr ⟨rfl,rfl,(by rw [hgo,hone];rfl)⟩))))))))))))
theorem Ie (b:Nat) (ga:Hd) (gb:Hd) (gc:Hd) (gd:Hd) (ge:Hd) (gf:Hd) (n:Zu) (s:Z3) (L:Zv) (ln:LI) (q:Int) (hn:X2 n:=by exact ob) (hk:X5 n.decls L q:=by exact ob) (ht:0<=Yv n L.vars s:=by exact ob) (hb:L.vars.length+4*s.sz<=1000000000:=by exact ob) (hq:0<=q/\q+4*s.sz<=999999990:=by exact ob) (hln:ln.length<=4294967296:=by exact ob) (ih:∀(b2:Z4) (c:Nat) (ra:Hd) (rb:Hd) (rc:Hd) (rd:Hd) (re:Hd) (rf:Hd) (M:Zv) (mm:Nat) (p:Int),(b2.sz<s.sz)->(X5 n.decls M p)->(0<=Xx n M.vars b2)->(mm<=M.vars.length)->(M.vars.length+4*b2.sz<=1000000000)->(0<=p/\p+4*b2.sz<=999999990)->Zi 270 [.p c 0,Yc n,ZC b2,.i mm] [.obj c [.h ra,.h rb,.h rc,.h rd,.h re,.h rf,Z5 ln],rV ra M.vars,rV rb M.own,rV rc M.par,rV rd M.con,rV re M.fst,rV rf M.tok] (fun r h=>(∃(wa:Hd) (wb:Hd) (wc:Hd) (wd:Hd) (we:Hd) (wf:Hd) (M':Zv),r=.b true/\h=[.obj c [.h wa,.h wb,.h wc,.h wd,.h we,.h wf,Z5 ln],rV wa M'.vars,rV wb M'.own,rV wc M'.par,rV wd M'.con,rV we M'.fst,rV wf M'.tok]/\WU n ln M mm b2=some M')∨(r=.b false/\h=[]/\WU n ln M mm b2=none))):Zi 204 [.p b 0,Yc n,Yk s] [.obj b [.h ga,.h gb,.h gc,.h gd,.h ge,.h gf,Z5 ln],rV ga L.vars,rV gb L.own,rV gc L.par,rV gd L.con,rV ge L.fst,rV gf L.tok] (fun r h=>(∃(wa:Hd) (wb:Hd) (wc:Hd) (wd:Hd) (we:Hd) (wf:Hd) (L':Zv),r=.b true/\h=[.obj b [.h wa,.h wb,.h wc,.h wd,.h we,.h wf,Z5 ln],rV wa L'.vars,rV wb L'.own,rV wc L'.par,rV wd L'.con,rV we L'.fst,rV wf L'.tok]/\UV n ln L s=some L')∨(r=.b false/\h=[]/\UV n ln L s=none)):=by
 obtain ⟨e1,e2,e3,e4,e5⟩:=hk.len
 have Xl:=hn.decls
 have hkz:=U8 s
 have haz:=Tp s
 have hf:=M5 ht
 refine ZB 89 Tryz.func204 (ar (iA (YC n) fun b1=>iA (X6 s) fun b2=>Z0 1 (ie (aD 8 (ZD 2 8 [0,1,2,3,4,5] [1,2,0] (Z8 6 (Qy 6 [3] [] [] [rV ga L.vars] (FE n L.vars s ob ob) Cb (gS (gL (v:=ga) 0 (gS gN))) (Tx Qg) ?_)))))))
 rintro _ _ ⟨rfl,rfl⟩
 refine Zj 0 1 [7] (de (ar (Z0 1 (ie (aq (ar (Z6 2 [1] (ie (ab 0 (ar (Z0 2 (ie (ac (s.op==14) Zz (fun Za=>?_) (fun Za=>?_))))))))))))))
 ·obtain ⟨x,hxa⟩:=hf.one om
  have ha:s.args[0]? = some x:=by rw [hxa];rfl
  have hx:=hf.args x (by rw [hxa];simp)
  have hgx:=Kf ha
  have hal:=(Xj.1 ha).1
  obtain ⟨xo,hxo⟩:=Zp L.own x.toNat om
  have hgo:=Uv hxo
  have hob:=hk.bd xo (ZU hxo)
  have hon:=hk.nn xo (ZU hxo)
  refine ar (Z6 3 [1] (Zn (Zh none 0 1 (ZQ ha)) (Z0 1 (Zr [3,0,2,2,2,2,2] (CP b ga gb gc gd ge gf L ln x (hlk:=hk.len) (hd:=hk.down)) (Z0 1 (ie (aE 21 (ZD 15 21 [0,1,2,3,4,5] [0,7] (dx 6 (Zh none 0 1 (ZQ ha)) (ZD 7 14 [7,8,9,10,11,12,13] [0,7] (dx 14 (Zh none 0 1 (ZQ ha)) (Zj 5 6 [15] (dx 16 (WR 2 gb L.own x x.toNat (hq:=rfl)) (Vb 17 (UG 2 gb L.own x.toNat xo hxo) (da 18 ((xo+1)) ((xo)+(1)) (dx 19 (WR 2 gb L.own x x.toNat (hq:=rfl)) (Z8 20 (KU 20 2 [] [] gb L.own x.toNat (xo+1) (de (aq (ar (Z0 2 (ie (ac (!VB L ln x) (p:=¬(VB L ln x=true)) (YR Iff.rfl) (fun Zg=>?_) (fun Zg=>?_)))))))))))))))))))))))))
  ·have hP:=(IN (n:=n) (ln:=ln) (L:=L) Za hgx).trans (Oj Zg)
   exact ar (Z0 1 (ie (Z9 (r1 [] (.inr ⟨rfl,rfl,(by rw [VN,hP];first|rfl|exact VG (by assumption)|exact VH (by assumption) (by assumption)|exact VI (by assumption))⟩)))))
  have hP:=(IN (n:=n) (ln:=ln) (L:=L) Za hgx).trans (Ok Zg hgo)
  obtain ⟨kx,hxv⟩:=BG hn hk hq.1 hf hP
  refine ak (aq (ar (Z6 2 [7] (Zr [] (Q2 s.op) (Xr [0,5,7] [(80,.b (Xp s.op&&((Yv n L.vars s) != 0)))] (fun gz=>gz) ?_ ?_)))))
  ·refine Z0 1 (ib (b:=Xp s.op) 77 (fun Zb=>?_) (fun Zb=>?_))
   ·exact Z0 3 (ie (ZP 9 (ZJ ((Yv n L.vars s) != 0) Zb fl)))
   exact Z0 3 (ie (ZP 9 (ZJ false Zb fl)))
  refine ac (Xp s.op&&((Yv n L.vars s) != 0)) (p:=(Xp s.op=true)/\((Yv n L.vars s)≠0)) (Xb Iff.rfl X4) (fun ZK=>?_) (fun ZK=>?_)
  ·refine az (Z0 2 (ic [1,1,0,0,0,0,0] (Tw b ga gb gc gd ge gf (Zv.mk L.vars (L.own.set x.toNat (xo+1)) L.par L.con L.fst L.tok) ln (Yv n L.vars s) 1 (-1) (hlb:=(by rw [hxv];omega)) (hlk:=kx.len)) ?_))
   rintro _ _ ⟨wa1,wb1,wc1,wd1,we1,wf1,rfl⟩
   exact ie (ar (Z0 1 (ie (Z9 (r1 [0,0,0,0,0,0,0] (.inl ⟨wa1,wb1,wc1,wd1,we1,wf1,((Zv.mk L.vars (L.own.set x.toNat (xo+1)) L.par L.con L.fst L.tok).grow (Yv n L.vars s) 1 (-1)),rfl,rfl,(by rw [VN,hP];first|rfl|exact VG (by assumption)|exact VH (by assumption) (by assumption)|exact VI (by assumption))⟩))))))
  refine ar (Z6 2 [7] (Zr [] (Q2 s.op) (ie (ac (Xp s.op) Iff.rfl (fun Yi=>?_) (fun Yi=>?_)))))
  ·refine az (Z0 1 (ic [1,1,0,0,0,0,0] (Tw b ga gb gc gd ge gf (Zv.mk L.vars (L.own.set x.toNat (xo+1)) L.par L.con L.fst L.tok) ln 0 0 (-1) (hlb:=(by rw [hxv];omega)) (hlk:=kx.len)) ?_))
   rintro _ _ ⟨wa2,wb2,wc2,wd2,we2,wf2,rfl⟩
   exact ie (ar (Z0 1 (ie (Z9 (r1 [0,0,0,0,0,0,0] (.inl ⟨wa2,wb2,wc2,wd2,we2,wf2,((Zv.mk L.vars (L.own.set x.toNat (xo+1)) L.par L.con L.fst L.tok).grow 0 0 (-1)),rfl,rfl,(by rw [VN,hP];first|rfl|exact VG (by assumption)|exact VH (by assumption) (by assumption)|exact VI (by assumption))⟩))))))
  exact ak (ar (Z0 1 (ie (Z9 (r1 [1,1,0,0,0,0,0] (.inl ⟨ga,gb,gc,gd,ge,gf,(Zv.mk L.vars (L.own.set x.toNat (xo+1)) L.par L.con L.fst L.tok),rfl,rfl,(by rw [VN,hP];first|rfl|exact VG (by assumption)|exact VH (by assumption) (by assumption)|exact VI (by assumption))⟩) (eq:=(rc (rv (xs:=L.vars) ob (rv (xs:=(L.own.set x.toNat (xo+1))) ob (rv (xs:=L.par) ob (rv (xs:=L.con) ob (rv (xs:=L.fst) ob (rv (xs:=L.tok) ob rz)))))))))))))
 refine ar (Z0 2 (ie (ac (s.op==15) Zz (fun Xt=>?_) (fun Xt=>?_))))
 ·obtain ⟨x,hxa⟩:=hf.one om
  have ha:s.args[0]? = some x:=by rw [hxa];rfl
  have hx:=hf.args x (by rw [hxa];simp)
  have hgx:=Kf ha
  have hal:=(Xj.1 ha).1
  refine az (Z6 3 [1] (Zn (Zh none 0 1 (ZQ ha)) (Z0 1 (ic [3,0,2,2,2,2,2] (CQ b ga gb gc gd ge gf L ln x (hlk:=hk.len) (hq:=(fun y hy=>⟨hk.nn y hy,by have:=hk.bd y hy;omega⟩))) ?_))))
  rintro _ _ (⟨wa3,wb3,wc3,wd3,we3,wf3,L'1,rfl,rfl,YA⟩|⟨rfl,rfl,YJ⟩)
  ·have hP:=(IP (n:=n) (ln:=ln) (L:=L) Xt hgx).trans (YA)
   obtain ⟨kx,hxv⟩:=BG hn hk hq.1 hf hP
   refine Z0 1 (ie (aq (ar (Z0 2 (ie (Wi (ak (aq (ar (Z6 2 [7] (Zr [] (Q2 s.op) (Xr [0,5,7] [(80,.b (Xp s.op&&((Yv n L.vars s) != 0)))] (fun gz=>gz) ?_ ?_))))))))))))
   ·refine Z0 1 (ib (b:=Xp s.op) 77 (fun ZM=>?_) (fun ZM=>?_))
    ·exact Z0 3 (ie (ZP 9 (ZJ ((Yv n L.vars s) != 0) ZM fl)))
    exact Z0 3 (ie (ZP 9 (ZJ false ZM fl)))
   refine ac (Xp s.op&&((Yv n L.vars s) != 0)) (p:=(Xp s.op=true)/\((Yv n L.vars s)≠0)) (Xb Iff.rfl X4) (fun Xu=>?_) (fun Xu=>?_)
   ·refine az (Z0 2 (ic [0,0,0,0,0,0,0] (Tw b wa3 wb3 wc3 wd3 we3 wf3 L'1 ln (Yv n L.vars s) 1 (-1) (hlb:=(by rw [hxv];omega)) (hlk:=kx.len)) ?_))
    rintro _ _ ⟨wa4,wb4,wc4,wd4,we4,wf4,rfl⟩
    exact ie (ar (Z0 1 (ie (Z9 (r1 [0,0,0,0,0,0,0] (.inl ⟨wa4,wb4,wc4,wd4,we4,wf4,(L'1.grow (Yv n L.vars s) 1 (-1)),rfl,rfl,(by rw [VN,hP];first|rfl|exact VG (by assumption)|exact VH (by assumption) (by assumption)|exact VI (by assumption))⟩))))))
   refine ar (Z6 2 [7] (Zr [] (Q2 s.op) (ie (ac (Xp s.op) Iff.rfl (fun Tv=>?_) (fun Tv=>?_)))))
   ·refine az (Z0 1 (ic [0,0,0,0,0,0,0] (Tw b wa3 wb3 wc3 wd3 we3 wf3 L'1 ln 0 0 (-1) (hlb:=(by rw [hxv];omega)) (hlk:=kx.len)) ?_))
    rintro _ _ ⟨wa5,wb5,wc5,wd5,we5,wf5,rfl⟩
    exact ie (ar (Z0 1 (ie (Z9 (r1 [0,0,0,0,0,0,0] (.inl ⟨wa5,wb5,wc5,wd5,we5,wf5,(L'1.grow 0 0 (-1)),rfl,rfl,(by rw [VN,hP];first|rfl|exact VG (by assumption)|exact VH (by assumption) (by assumption)|exact VI (by assumption))⟩))))))
   exact ak (ar (Z0 1 (ie (Z9 (r1 [0,0,0,0,0,0,0] (.inl ⟨wa3,wb3,wc3,wd3,we3,wf3,L'1,rfl,rfl,(by rw [VN,hP];first|rfl|exact VG (by assumption)|exact VH (by assumption) (by assumption)|exact VI (by assumption))⟩))))))
  have hP:=(IP (n:=n) (ln:=ln) (L:=L) Xt hgx).trans (YJ)
  exact Z0 1 (ie (aq (ar (Z0 2 (ie (WZ (ar (Z0 1 (ie (Z9 (r1 [] (.inr ⟨rfl,rfl,(by rw [VN,hP];first|rfl|exact VG (by assumption)|exact VH (by assumption) (by assumption)|exact VI (by assumption))⟩))))))))))))
 refine aq (ar (Z0 2 (ie (Xo (fun fz gz F h=>F=sF [0,4,5,7,17] fz [(58,.b ((s.op==16)||(s.op==17)))]/\h=gz) ?_ ?_))))
 ·refine ac (s.op==16) Zz (fun UM=>?_) (fun UM=>?_)
  ·exact ak (ZF ⟨rfl,rfl⟩ (ZP 9 (fc (x:=.b (s.op==16)) (lb (by first|rfl|(rw [Zw UM])|(rw [Zs UM])|(simp [UM];done)|(rw [Xi];simp [UM];done)|omega)) fl)))
  exact az (Z0 2 (ie (ZF ⟨rfl,rfl⟩ (ZP 9 (fc (x:=.b (s.op==17)) (lb (by first|rfl|(rw [Zw UM])|(rw [Zs UM])|(simp [UM];done)|(rw [Xi];simp [UM];done)|omega)) fl)))))
 rintro F h ⟨rfl,rfl⟩
 refine ac ((s.op==16)||(s.op==17)) (p:=(s.op=16)∨(s.op=17)) (X3 Zz Zz) (fun Ui=>?_) (fun Ui=>?_)
 ·obtain ⟨x,hxa⟩:=hf.one om
  have ha:s.args[0]? = some x:=by rw [hxa];rfl
  have hx:=hf.args x (by rw [hxa];simp)
  have hgx:=Kf ha
  have hal:=(Xj.1 ha).1
  refine az (Z6 3 [2,1] (ic [3,0,2,2,2,2,2] (So b ga gb gc gd ge gf n s L ln q x) ?_))
  rintro _ _ (⟨wa6,wb6,wc6,wd6,we6,wf6,L'2,rfl,rfl,Wd⟩|⟨rfl,rfl,WM⟩)
  ·have hP:=(IQ (n:=n) (ln:=ln) (L:=L) Ui hgx).trans (Wd)
   obtain ⟨kx,hxv⟩:=BG hn hk hq.1 hf hP
   refine Z0 1 (ie (aq (ar (Z0 2 (ie (Wi (ak (aq (ar (Z6 2 [7] (Zr [] (Q2 s.op) (Xr [0,5,7] [(80,.b (Xp s.op&&((Yv n L.vars s) != 0)))] (fun gz=>gz) ?_ ?_))))))))))))
   ·refine Z0 1 (ib (b:=Xp s.op) 77 (fun YT=>?_) (fun YT=>?_))
    ·exact Z0 3 (ie (ZP 9 (ZJ ((Yv n L.vars s) != 0) YT fl)))
    exact Z0 3 (ie (ZP 9 (ZJ false YT fl)))
   refine ac (Xp s.op&&((Yv n L.vars s) != 0)) (p:=(Xp s.op=true)/\((Yv n L.vars s)≠0)) (Xb Iff.rfl X4) (fun Bk=>?_) (fun Bk=>?_)
   ·refine az (Z0 2 (ic [0,0,0,0,0,0,0] (Tw b wa6 wb6 wc6 wd6 we6 wf6 L'2 ln (Yv n L.vars s) 1 (-1) (hlb:=(by rw [hxv];omega)) (hlk:=kx.len)) ?_))
    rintro _ _ ⟨wa7,wb7,wc7,wd7,we7,wf7,rfl⟩
    exact ie (ar (Z0 1 (ie (Z9 (r1 [0,0,0,0,0,0,0] (.inl ⟨wa7,wb7,wc7,wd7,we7,wf7,(L'2.grow (Yv n L.vars s) 1 (-1)),rfl,rfl,(by rw [VN,hP];first|rfl|exact VG (by assumption)|exact VH (by assumption) (by assumption)|exact VI (by assumption))⟩))))))
   refine ar (Z6 2 [7] (Zr [] (Q2 s.op) (ie (ac (Xp s.op) Iff.rfl (fun Bl=>?_) (fun Bl=>?_)))))
   ·refine az (Z0 1 (ic [0,0,0,0,0,0,0] (Tw b wa6 wb6 wc6 wd6 we6 wf6 L'2 ln 0 0 (-1) (hlb:=(by rw [hxv];omega)) (hlk:=kx.len)) ?_))
    rintro _ _ ⟨wa8,wb8,wc8,wd8,we8,wf8,rfl⟩
    exact ie (ar (Z0 1 (ie (Z9 (r1 [0,0,0,0,0,0,0] (.inl ⟨wa8,wb8,wc8,wd8,we8,wf8,(L'2.grow 0 0 (-1)),rfl,rfl,(by rw [VN,hP];first|rfl|exact VG (by assumption)|exact VH (by assumption) (by assumption)|exact VI (by assumption))⟩))))))
   exact ak (ar (Z0 1 (ie (Z9 (r1 [0,0,0,0,0,0,0] (.inl ⟨wa6,wb6,wc6,wd6,we6,wf6,L'2,rfl,rfl,(by rw [VN,hP];first|rfl|exact VG (by assumption)|exact VH (by assumption) (by assumption)|exact VI (by assumption))⟩))))))
  have hP:=(IQ (n:=n) (ln:=ln) (L:=L) Ui hgx).trans (WM)
  exact Z0 1 (ie (aq (ar (Z0 2 (ie (WZ (ar (Z0 1 (ie (Z9 (r1 [] (.inr ⟨rfl,rfl,(by rw [VN,hP];first|rfl|exact VG (by assumption)|exact VH (by assumption) (by assumption)|exact VI (by assumption))⟩))))))))))))
 refine aq (ar (Z0 2 (ie (Xo (fun fz gz F h=>F=sF [0,4,5,7] fz [(65,.b ((s.op==7)||(s.op==8)))]/\h=gz) ?_ ?_))))
 ·refine ac (s.op==7) Zz (fun Qb=>?_) (fun Qb=>?_)
  ·exact ak (ZF ⟨rfl,rfl⟩ (ZP 9 (fc (x:=.b (s.op==7)) (lb (by first|rfl|(rw [Zw Qb])|(rw [Zs Qb])|(simp [Qb];done)|(rw [Xi];simp [Qb];done)|omega)) fl)))
  exact az (Z0 2 (ie (ZF ⟨rfl,rfl⟩ (ZP 9 (fc (x:=.b (s.op==8)) (lb (by first|rfl|(rw [Zw Qb])|(rw [Zs Qb])|(simp [Qb];done)|(rw [Xi];simp [Qb];done)|omega)) fl)))))
 rintro F h ⟨rfl,rfl⟩
 refine ac ((s.op==7)||(s.op==8)) (p:=(s.op=7)∨(s.op=8)) (X3 Zz Zz) (fun JJ=>?_) (fun JJ=>?_)
 ·refine az (Z6 3 [2,1] (ic [3,0,2,2,2,2,2] (Sl b ga gb gc gd ge gf n s L ln q (ih:=ob)) ?_))
  rintro _ _ (⟨wa9,wb9,wc9,wd9,we9,wf9,L'3,rfl,rfl,UN⟩|⟨rfl,rfl,UB⟩)
  ·have hP:=(IR (n:=n) (ln:=ln) (L:=L) JJ).trans (UN)
   obtain ⟨kx,hxv⟩:=BG hn hk hq.1 hf hP
   refine Z0 1 (ie (aq (ar (Z0 2 (ie (Wi (ak (aq (ar (Z6 2 [7] (Zr [] (Q2 s.op) (Xr [0,5,7] [(80,.b (Xp s.op&&((Yv n L.vars s) != 0)))] (fun gz=>gz) ?_ ?_))))))))))))
   ·refine Z0 1 (ib (b:=Xp s.op) 77 (fun XY=>?_) (fun XY=>?_))
    ·exact Z0 3 (ie (ZP 9 (ZJ ((Yv n L.vars s) != 0) XY fl)))
    exact Z0 3 (ie (ZP 9 (ZJ false XY fl)))
   refine ac (Xp s.op&&((Yv n L.vars s) != 0)) (p:=(Xp s.op=true)/\((Yv n L.vars s)≠0)) (Xb Iff.rfl X4) (fun EL=>?_) (fun EL=>?_)
   ·refine az (Z0 2 (ic [0,0,0,0,0,0,0] (Tw b wa9 wb9 wc9 wd9 we9 wf9 L'3 ln (Yv n L.vars s) 1 (-1) (hlb:=(by rw [hxv];omega)) (hlk:=kx.len)) ?_))
    rintro _ _ ⟨wa10,wb10,wc10,wd10,we10,wf10,rfl⟩
    exact ie (ar (Z0 1 (ie (Z9 (r1 [0,0,0,0,0,0,0] (.inl ⟨wa10,wb10,wc10,wd10,we10,wf10,(L'3.grow (Yv n L.vars s) 1 (-1)),rfl,rfl,(by rw [VN,hP];first|rfl|exact VG (by assumption)|exact VH (by assumption) (by assumption)|exact VI (by assumption))⟩))))))
   refine ar (Z6 2 [7] (Zr [] (Q2 s.op) (ie (ac (Xp s.op) Iff.rfl (fun EM=>?_) (fun EM=>?_)))))
   ·refine az (Z0 1 (ic [0,0,0,0,0,0,0] (Tw b wa9 wb9 wc9 wd9 we9 wf9 L'3 ln 0 0 (-1) (hlb:=(by rw [hxv];omega)) (hlk:=kx.len)) ?_))
    rintro _ _ ⟨wa11,wb11,wc11,wd11,we11,wf11,rfl⟩
    exact ie (ar (Z0 1 (ie (Z9 (r1 [0,0,0,0,0,0,0] (.inl ⟨wa11,wb11,wc11,wd11,we11,wf11,(L'3.grow 0 0 (-1)),rfl,rfl,(by rw [VN,hP];first|rfl|exact VG (by assumption)|exact VH (by assumption) (by assumption)|exact VI (by assumption))⟩))))))
   exact ak (ar (Z0 1 (ie (Z9 (r1 [0,0,0,0,0,0,0] (.inl ⟨wa9,wb9,wc9,wd9,we9,wf9,L'3,rfl,rfl,(by rw [VN,hP];first|rfl|exact VG (by assumption)|exact VH (by assumption) (by assumption)|exact VI (by assumption))⟩))))))
  have hP:=(IR (n:=n) (ln:=ln) (L:=L) JJ).trans (UB)
  exact Z0 1 (ie (aq (ar (Z0 2 (ie (WZ (ar (Z0 1 (ie (Z9 (r1 [] (.inr ⟨rfl,rfl,(by rw [VN,hP];first|rfl|exact VG (by assumption)|exact VH (by assumption) (by assumption)|exact VI (by assumption))⟩))))))))))))
 refine az (Z6 3 [2,1] (ic [3,0,2,2,2,2,2] (Sn b ga gb gc gd ge gf n s L ln q (hnum:=hf.num) (hargs:=hf.args) (hinto:=(fun q=>(hf.into om).2))) ?_))
 rintro _ _ (⟨wa12,wb12,wc12,wd12,we12,wf12,L'4,rfl,rfl,J1⟩|⟨rfl,rfl,J2⟩)
 ·have hP:=(IS (n:=n) (ln:=ln) (L:=L) Za Xt Ui JJ).trans (J1)
  obtain ⟨kx,hxv⟩:=BG hn hk hq.1 hf hP
  refine Z0 1 (ie (aq (ar (Z0 2 (ie (Wi (ak (aq (ar (Z6 2 [7] (Zr [] (Q2 s.op) (Xr [0,5,7] [(80,.b (Xp s.op&&((Yv n L.vars s) != 0)))] (fun gz=>gz) ?_ ?_))))))))))))
  ·refine Z0 1 (ib (b:=Xp s.op) 77 (fun VV=>?_) (fun VV=>?_))
   ·exact Z0 3 (ie (ZP 9 (ZJ ((Yv n L.vars s) != 0) VV fl)))
   exact Z0 3 (ie (ZP 9 (ZJ false VV fl)))
  refine ac (Xp s.op&&((Yv n L.vars s) != 0)) (p:=(Xp s.op=true)/\((Yv n L.vars s)≠0)) (Xb Iff.rfl X4) (fun EN=>?_) (fun EN=>?_)
  ·refine az (Z0 2 (ic [0,0,0,0,0,0,0] (Tw b wa12 wb12 wc12 wd12 we12 wf12 L'4 ln (Yv n L.vars s) 1 (-1) (hlb:=(by rw [hxv];omega)) (hlk:=kx.len)) ?_))
   rintro _ _ ⟨wa13,wb13,wc13,wd13,we13,wf13,rfl⟩
   exact ie (ar (Z0 1 (ie (Z9 (r1 [0,0,0,0,0,0,0] (.inl ⟨wa13,wb13,wc13,wd13,we13,wf13,(L'4.grow (Yv n L.vars s) 1 (-1)),rfl,rfl,(by rw [VN,hP];first|rfl|exact VG (by assumption)|exact VH (by assumption) (by assumption)|exact VI (by assumption))⟩))))))
  refine ar (Z6 2 [7] (Zr [] (Q2 s.op) (ie (ac (Xp s.op) Iff.rfl (fun Qc=>?_) (fun Qc=>?_)))))
  ·refine az (Z0 1 (ic [0,0,0,0,0,0,0] (Tw b wa12 wb12 wc12 wd12 we12 wf12 L'4 ln 0 0 (-1) (hlb:=(by rw [hxv];omega)) (hlk:=kx.len)) ?_))
   rintro _ _ ⟨wa14,wb14,wc14,wd14,we14,wf14,rfl⟩
   exact ie (ar (Z0 1 (ie (Z9 (r1 [0,0,0,0,0,0,0] (.inl ⟨wa14,wb14,wc14,wd14,we14,wf14,(L'4.grow 0 0 (-1)),rfl,rfl,(by rw [VN,hP];first|rfl|exact VG (by assumption)|exact VH (by assumption) (by assumption)|exact VI (by assumption))⟩))))))
  exact ak (ar (Z0 1 (ie (Z9 (r1 [0,0,0,0,0,0,0] (.inl ⟨wa12,wb12,wc12,wd12,we12,wf12,L'4,rfl,rfl,(by rw [VN,hP];first|rfl|exact VG (by assumption)|exact VH (by assumption) (by assumption)|exact VI (by assumption))⟩))))))
 have hP:=(IS (n:=n) (ln:=ln) (L:=L) Za Xt Ui JJ).trans (J2)
 exact Z0 1 (ie (aq (ar (Z0 2 (ie (WZ (ar (Z0 1 (ie (Z9 (r1 [] (.inr ⟨rfl,rfl,(by rw [VN,hP];first|rfl|exact VG (by assumption)|exact VH (by assumption) (by assumption)|exact VI (by assumption))⟩))))))))))))
theorem Sj (c:Nat) (ga:Hd) (gb:Hd) (gc:Hd) (gd:Hd) (ge:Hd) (gf:Hd) (n:Zu) (b:Z4) (L:Zv) (ln:LI) (q:Int) (mm:Nat) (hn:X2 n) (hk:X5 n.decls L q) (ht:0<=Xx n L.vars b) (hm:mm<=L.vars.length) (hb:L.vars.length+4*b.sz<=1000000000) (hq:0<=q/\q+4*b.sz<=999999990) (hln:ln.length<=4294967296) (ih:∀(s2:Z3) (c:Nat) (ra:Hd) (rb:Hd) (rc:Hd) (rd:Hd) (re:Hd) (rf:Hd) (M:Zv) (p:Int),(s2.sz<b.sz)->(X5 n.decls M p)->(0<=Yv n M.vars s2)->(M.vars.length+4*s2.sz<=1000000000)->(0<=p/\p+4*s2.sz<=999999990)->Zi 204 [.p c 0,Yc n,Yk s2] [.obj c [.h ra,.h rb,.h rc,.h rd,.h re,.h rf,Z5 ln],rV ra M.vars,rV rb M.own,rV rc M.par,rV rd M.con,rV re M.fst,rV rf M.tok] (fun r h=>(∃(wa:Hd) (wb:Hd) (wc:Hd) (wd:Hd) (we:Hd) (wf:Hd) (M':Zv),r=.b true/\h=[.obj c [.h wa,.h wb,.h wc,.h wd,.h we,.h wf,Z5 ln],rV wa M'.vars,rV wb M'.own,rV wc M'.par,rV wd M'.con,rV we M'.fst,rV wf M'.tok]/\UV n ln M s2=some M')∨(r=.b false/\h=[]/\UV n ln M s2=none))):Zi 270 [.p c 0,Yc n,ZC b,.i mm] [.obj c [.h ga,.h gb,.h gc,.h gd,.h ge,.h gf,Z5 ln],rV ga L.vars,rV gb L.own,rV gc L.par,rV gd L.con,rV ge L.fst,rV gf L.tok] (fun r h=>(∃(wa:Hd) (wb:Hd) (wc:Hd) (wd:Hd) (we:Hd) (wf:Hd) (L':Zv),r=.b true/\h=[.obj c [.h wa,.h wb,.h wc,.h wd,.h we,.h wf,Z5 ln],rV wa L'.vars,rV wb L'.own,rV wc L'.par,rV wd L'.con,rV we L'.fst,rV wf L'.tok]/\WU n ln L mm b=some L')∨(r=.b false/\h=[]/\WU n ln L mm b=none)):=by
 have hbz:=b.sz_eq
 obtain ⟨vs,rt,hvs,hres,hrt⟩:=Gs ht
 have hri:=Ab hres
 have YW:=WQ b
 refine ZB 45 Tryz.func270 (ar (iA (YC n) fun b1=>iA (YE b) fun b2=>?_))
 refine Z0 1 (ie (aq (ar (Z0 1 (ie (ab 0 (ZX (fun fz gz m F h=>∃(k:Nat) (q2:Int) (L2:Zv) (ka:Hd) (kb:Hd) (kc:Hd) (kd:Hd) (ke:Hd) (kf:Hd),(k<=b.steps.length)/\(X5 n.decls L2 q2)/\(0<=q2/\q2+4*Y5 (b.steps.drop k)<=999999990)/\(L2.vars.length+4*Y5 (b.steps.drop k)<=1000000000)/\(Vd n (b.steps.drop k) L2.vars=some vs)/\(Qj n ln L2 (b.steps.drop k)=Qj n ln L b.steps)/\(L.vars.length<=L2.vars.length)/\F=sF [0,3,5,6] fz [(9,.i k)]/\h=[Ze gz 0,Ze gz 1,.obj c [.h ka,.h kb,.h kc,.h kd,.h ke,.h kf,Z5 ln],rV ka L2.vars,rV kb L2.own,rV kc L2.par,rV kd L2.con,rV ke L2.fst,rV kf L2.tok]/\m=b.steps.length-k) _ _ _ ⟨0,q,L,ga,gb,gc,gd,ge,gf,ob,hk,(by rw [Jj];omega),(by rw [Jj];omega),hvs,rfl,om,rfl,rfl,rfl⟩ (ZP 9 (Y7 fl)) ?_)))))))
 rintro m F h ⟨k,q2,L2,ka,kb,kc,kd,ke,kf,Y8,Zm,Zo,Yq,XK,K3,Z4k,rfl,rfl,rfl⟩
 refine aq (ar (Z6 3 [0] (iw (W1 b.steps) (Z0 1 (ie (ZH ((k:Int)<(b.steps.length:Int)) (fun Za=>?_) (fun Za=>?_)))))))
 ·obtain ⟨s1,hs1⟩:=Zp b.steps k om
  have hss:=Q3 hs1
  have hdr:=Ye hs1
  have hz:Y5 (b.steps.drop k)=s1.sz+Y5 (b.steps.drop (k+1)):=by rw [hdr,Y5]
  rw [hdr] at XK K3
  obtain ⟨g1,g2⟩:=M7 XK
  refine ak (aq (ab 1 (aD 9 (ZD 4 9 [0,1,2,3,4] [1,0] (dx 5 (Zh none (k:Int) 5 (XG hs1)) (Zj 2 3 [6] (Z8 7 (dc 7 [2,2,2,2,2,2,2] [] [] (ih s1 c ka kb kc kd ke kf L2 q2 ob Zm g1 om om) ?_))))))))
  rintro _ _ (⟨wa1,wb1,wc1,wd1,we1,wf1,M'1,rfl,rfl,ZT⟩|⟨rfl,rfl,Y6⟩)
  ·have hP:=ZT
   have kx:=M4 hn Zm Zo.1 g1 hP
   exact Zj 0 1 [8] (de (Wi (ak (az (Z0 1 (ZE k (Z0 1 (ie (ZG ⟨k+1,(q2+4*s1.sz),M'1,wa1,wb1,wc1,wd1,we1,wf1,ob,kx.1,om,(by rw [kx.2];have:=Lr n L2.vars s1;omega),(by rw [kx.2];exact g2),(by rw [<-K3,Qj,hP];rfl),(by rw [kx.2];have:=Lr n L2.vars s1;omega),rfl,rfl,rfl⟩ (wk [7,7,0,0,0,0,0,0,0] (ZI k fl)))))))))))
  have hP:=Y6
  exact Zj 0 1 [8] (de (WZ (ar (Z0 1 (ie (Z9 (r1 [] (.inr ⟨rfl,rfl,(by rw [DW,<-K3,Qj,hP];rfl)⟩))))))))
 rw [Xf om] at XK K3
 have hvv:L2.vars=vs:=by rw [Vd] at XK;exact A5 XK
 have hB:WU n ln L mm b=QD mm b.result L2:=by rw [DW,<-K3,Qj];rfl
 obtain ⟨xr,hxr⟩:=Zp L2.vars b.result.toNat (by rw [hvv];omega)
 have hgr:=Uv hxr
 have hrl:0<=b.result/\b.result<L2.vars.length:=by rw [hvv];omega
 rw [Vd] at XK
 refine ax 0 (aq (aD 16 (ZD 10 16 [0,1,2,3,4,5] [2,0] (dx 6 (WR 3 ka L2.vars b.result b.result.toNat (hq:=rfl)) (Vb 7 (UG 3 ka L2.vars b.result.toNat xr hxr) (Zj 6 8 [8,9] (db (b:=(xr != 0)) 35 (fun Zb=>?_) (fun Zb=>?_))))))))
 ·have YA:xr≠0:=(X4).1 Zb
  refine ZD 3 6 [10,11,12] [0] (Z8 13 (dc 13 [2,2,2,2,2,2,2] [] [] (CQ c ka kb kc kd ke kf L2 ln b.result (hlk:=Zm.len) (hq:=(fun y hy=>⟨Zm.nn y hy,by have:=Zm.bd y hy;omega⟩))) ?_))
  rintro _ _ (⟨wa2,wb2,wc2,wd2,we2,wf2,L'1,rfl,rfl,YJ⟩|⟨rfl,rfl,YU⟩)
  ·have hE:=hB.trans (OE hgr (by assumption) YJ)
   have kx:=Zm.take YJ
   have hxv:L'1.vars.length=L2.vars.length:=by rw [(Qk YJ).2.1]
   refine Zj 0 2 [14,15] (de (Wi (ak (ar (Z0 2 (ic [0,0,0,0,0,0,0] (Ib c wa2 wb2 wc2 wd2 we2 wf2 L'1 ln mm (hlk:=(by first|exact kx.len|exact Zm.len)) (hlb:=om) (hm:=om)) ?_))))))
   rintro _ _ (⟨wa3,wb3,wc3,wd3,we3,wf3,L'2,rfl,rfl,XI⟩|⟨rfl,rfl,Wd⟩)
   ·exact Z0 1 (ie (Z9 (r1 [0,0,0,0,0,0,0] (.inl ⟨wa3,wb3,wc3,wd3,we3,wf3,L'2,rfl,rfl,(by first|exact hE|(rw [hE];exact XI)|(rw [hB,B8 hgr (by assumption)];exact XI))⟩))))
   exact Z0 1 (ie (Z9 (r1 [] (.inr ⟨rfl,rfl,(by first|exact hE|(rw [hE];exact Wd)|(rw [hB,B8 hgr (by assumption)];exact Wd))⟩))))
  have hE:=hB.trans (OD hgr (by assumption) YU)
  exact Zj 0 2 [14,15] (de (WZ (ar (Z0 1 (ie (Z9 (r1 [] (.inr ⟨rfl,rfl,(by first|exact hE|(rw [hE];exact YU)|(rw [hB,B8 hgr (by assumption)];exact YU))⟩))))))))
 have WM:¬(xr≠0):=YH X4 Zb
 refine Zj 0 6 [10,11,12,13,14,15] (de (Wi (ak (ar (Z0 2 (ic [2,2,2,2,2,2,2] (Ib c ka kb kc kd ke kf L2 ln mm (hlk:=(by first|exact kx.len|exact Zm.len)) (hlb:=om) (hm:=om)) ?_))))))
 rintro _ _ (⟨wa4,wb4,wc4,wd4,we4,wf4,L'3,rfl,rfl,V1⟩|⟨rfl,rfl,UA⟩)
 ·exact Z0 1 (ie (Z9 (r1 [0,0,0,0,0,0,0] (.inl ⟨wa4,wb4,wc4,wd4,we4,wf4,L'3,rfl,rfl,(by first|exact hE|(rw [hE];exact V1)|(rw [hB,B8 hgr (by assumption)];exact V1))⟩))))
 exact Z0 1 (ie (Z9 (r1 [] (.inr ⟨rfl,rfl,(by first|exact hE|(rw [hE];exact UA)|(rw [hB,B8 hgr (by assumption)];exact UA))⟩))))
theorem Sk (n:Zu) (ln:LI) (hn:X2 n) (hln:ln.length<=4294967296) (m:Nat):∀(b2:Z4) (c:Nat) (ra:Hd) (rb:Hd) (rc:Hd) (rd:Hd) (re:Hd) (rf:Hd) (M:Zv) (mm:Nat) (p:Int),(b2.sz<m+1)->(X5 n.decls M p)->(0<=Xx n M.vars b2)->(mm<=M.vars.length)->(M.vars.length+4*b2.sz<=1000000000)->(0<=p/\p+4*b2.sz<=999999990)->Zi 270 [.p c 0,Yc n,ZC b2,.i mm] [.obj c [.h ra,.h rb,.h rc,.h rd,.h re,.h rf,Z5 ln],rV ra M.vars,rV rb M.own,rV rc M.par,rV rd M.con,rV re M.fst,rV rf M.tok] (fun r h=>(∃(wa:Hd) (wb:Hd) (wc:Hd) (wd:Hd) (we:Hd) (wf:Hd) (M':Zv),r=.b true/\h=[.obj c [.h wa,.h wb,.h wc,.h wd,.h we,.h wf,Z5 ln],rV wa M'.vars,rV wb M'.own,rV wc M'.par,rV wd M'.con,rV we M'.fst,rV wf M'.tok]/\WU n ln M mm b2=some M')∨(r=.b false/\h=[]/\WU n ln M mm b2=none)):=by
 induction m with
 | zero=>intro b c ga gb gc gd ge gf L mm q h;have:=b.sz_pos;omega
 | succ m ih=>
  intro b c ga gb gc gd ge gf L mm q h1 hk ht hm hb hp
  exact Sj c ga gb gc gd ge gf n b L ln q mm hn hk ht hm hb hp hln fun s c ga gb gc gd ge gf L q h2 hk ht hb hp=>Ie c ga gb gc gd ge gf n s L ln q hn hk ht hb hp hln
   fun b2 c ga gb gc gd ge gf L mm q h3 hk ht hm hb hp=>ih b2 c ga gb gc gd ge gf L mm q om hk ht hm hb hp
theorem Sq (n:Zu) (ln:LI) (hn:X2 n) (hln:ln.length<=4294967296) (m:Nat):∀(s2:Z3) (c:Nat) (ra:Hd) (rb:Hd) (rc:Hd) (rd:Hd) (re:Hd) (rf:Hd) (M:Zv) (p:Int),(s2.sz<m+1)->(X5 n.decls M p)->(0<=Yv n M.vars s2)->(M.vars.length+4*s2.sz<=1000000000)->(0<=p/\p+4*s2.sz<=999999990)->Zi 204 [.p c 0,Yc n,Yk s2] [.obj c [.h ra,.h rb,.h rc,.h rd,.h re,.h rf,Z5 ln],rV ra M.vars,rV rb M.own,rV rc M.par,rV rd M.con,rV re M.fst,rV rf M.tok] (fun r h=>(∃(wa:Hd) (wb:Hd) (wc:Hd) (wd:Hd) (we:Hd) (wf:Hd) (M':Zv),r=.b true/\h=[.obj c [.h wa,.h wb,.h wc,.h wd,.h we,.h wf,Z5 ln],rV wa M'.vars,rV wb M'.own,rV wc M'.par,rV wd M'.con,rV we M'.fst,rV wf M'.tok]/\UV n ln M s2=some M')∨(r=.b false/\h=[]/\UV n ln M s2=none)):=by
 intro s c ga gb gc gd ge gf L q h2 hk ht hb hp
 exact Ie c ga gb gc gd ge gf n s L ln q hn hk ht hb hp hln fun b2 c ga gb gc gd ge gf L mm q h3 hk ht hm hb hp=>Sk n ln hn hln m b2 c ga gb gc gd ge gf L mm q om hk ht hm hb hp
theorem Sp (c:Nat) (ra:Hd) (rb:Hd) (rc:Hd) (rd:Hd) (re:Hd) (rf:Hd) (n:Zu) (s2:Z3) (M:Zv) (ln:LI) (p:Int) (hn:X2 n) (hln:ln.length<=4294967296) (hk:X5 n.decls M p) (ht:0<=Yv n M.vars s2) (hb:M.vars.length+4*s2.sz<=1000000000) (hp:0<=p/\p+4*s2.sz<=999999990):Zi 204 [.p c 0,Yc n,Yk s2] [.obj c [.h ra,.h rb,.h rc,.h rd,.h re,.h rf,Z5 ln],rV ra M.vars,rV rb M.own,rV rc M.par,rV rd M.con,rV re M.fst,rV rf M.tok] (fun r h=>(∃(wa:Hd) (wb:Hd) (wc:Hd) (wd:Hd) (we:Hd) (wf:Hd) (M':Zv),r=.b true/\h=[.obj c [.h wa,.h wb,.h wc,.h wd,.h we,.h wf,Z5 ln],rV wa M'.vars,rV wb M'.own,rV wc M'.par,rV wd M'.con,rV we M'.fst,rV wf M'.tok]/\UV n ln M s2=some M')∨(r=.b false/\h=[]/\UV n ln M s2=none)):=Sq n ln hn hln s2.sz s2 c ra rb rc rd re rf M p om hk ht hb hp
theorem Z26 (rt:Y1) (hp:rt.params.length<=1000000:=by exact ob) (hl:rt.lent.length<=4294967296:=by exact ob):Zi 203 [To rt] [] (fun r h=>∃(c:Nat) (wa:Hd) (wb:Hd) (wc:Hd) (wd:Hd) (we:Hd) (wf:Hd),r=.p c 0/\h=[.obj c [.h wa,.h wb,.h wc,.h wd,.h we,.h wf,Z5 rt.lent],rV wa ((Q0 rt).vars),rV wb ((Q0 rt).own),rV wc ((Q0 rt).par),rV wd ((Q0 rt).con),rV we ((Q0 rt).fst),rV wf ((Q0 rt).tok)]):=by
 refine ZB 45 Tryz.func203 (ar (iA (QH rt) fun b1=>Z0 1 (ie (ar (Z6 2 [0] (ic [] (V7 rt.lent) ?_))))))
 rintro _ _ ⟨v1,rfl,rfl⟩
 refine ZA 1 [(8,.agg [nl,nl,nl,nl,nl,nl,Z5 rt.lent])] (iA [nl,nl,nl,nl,nl,nl,Z5 rt.lent] fun b2=>?_)
 refine Xg (Me 0 b2 [nl,nl,nl,nl,nl,nl,Z5 rt.lent] [.h hN,.h hN,.h hN,.h hN,.h hN,.h hN,Z5 rt.lent] (.cons (Zf.hd (v:=hN)) (.cons (Zf.hd (v:=hN)) (.cons (Zf.hd (v:=hN)) (.cons (Zf.hd (v:=hN)) (.cons (Zf.hd (v:=hN)) (.cons (Zf.hd (v:=hN)) (.cons (lr _) .nil)))))))) (Xg (JY) (Xg (JY) (Xg (JY) (Xg (JY) (Xg (JY) (Xg (JY) (Z0 1 (ie (aq (ar (Z0 1 (ie (ab 0 (ZX (fun fz gz m F h=>∃(k:Nat) (L2:Zv) (ka:Hd) (kb:Hd) (kc:Hd) (kd:Hd) (ke:Hd) (kf:Hd),(k<=rt.params.length)/\(VS L2)/\(L2.vars.length=k)/\(Kr rt.lent (rt.params.drop k) k L2=Q0 rt)/\F=sF [1,3] fz [(4,.i k)]/\h=[.obj b2 [.h ka,.h kb,.h kc,.h kd,.h ke,.h kf,Z5 rt.lent],Ze gz 8,rV ka L2.vars,rV kb L2.own,rV kc L2.par,rV kd L2.con,rV ke L2.fst,rV kf L2.tok]/\m=rt.params.length-k) _ _ _ ⟨0,(Zv.mk [] [] [] [] [] []),hN,hN,hN,hN,hN,hN,ob,⟨rfl,rfl,rfl,rfl,rfl⟩,rfl,rfl,rfl,rfl,rfl⟩ (wk [6,7,0,0,0,0,0,0] (Y7 fl) (e:=(rc (rc (rv (xs:=[]) ob (rv (xs:=[]) ob (rv (xs:=[]) ob (rv (xs:=[]) ob (rv (xs:=[]) ob (rv (xs:=[]) ob rz)))))))))) ?_))))))))))))))
 rintro m F h ⟨k,L2,ka,kb,kc,kd,ke,kf,Y8,Zm,Zo,Yq,rfl,rfl,rfl⟩
 refine aq (ar (Z6 3 [1] (iw (Y2 rt.params) (Z0 1 (ie (ZH ((k:Int)<(rt.params.length:Int)) (fun Za=>?_) (fun Za=>?_)))))))
 ·refine ak (aq (ab 1 (ar (Z6 3 [1] ?_))))
  obtain ⟨x1,Z2⟩:=Zp rt.params k om
  refine Zn (Zh none (k:Int) 1 (ZQ Z2)) (Xr [1,3,4] [(29,.b ((x1 != 0)&&(!(decide ((k:Int)∈rt.lent)))))] (fun gz=>gz) ?_ ?_)
  ·refine Z0 3 (ib (b:=(x1 != 0)) 23 (fun Zb=>?_) (fun Zb=>?_))
   ·exact Z6 3 [1] (Zr [] (Vm rt.lent (k:Int)) (Z0 2 (ie (ZP 8 (ZJ (!(decide ((k:Int)∈rt.lent))) Zb fl)))))
   exact Z0 6 (ie (ZP 8 (ZJ false Zb fl)))
  refine ac ((x1 != 0)&&(!(decide ((k:Int)∈rt.lent)))) (p:=(x1≠0)/\(¬((k:Int)∈rt.lent))) (Xb X4 (YR dq)) (fun Zg=>?_) (fun Zg=>?_)
  ·refine az (Z6 4 [1] (Zn (Zh none (k:Int) 1 (ZQ Z2)) (Z0 1 (ic [0,1,1,1,1,1,1] (Tw b2 ka kb kc kd ke kf L2 rt.lent x1 1 (-1) (hlk:=Zm)) ?_))))
   rintro _ _ ⟨wa1,wb1,wc1,wd1,we1,wf1,rfl⟩
   exact ie (az (Z0 1 (ZE k (Z0 1 (ie (ZG ⟨k+1,(L2.grow x1 1 (-1)),wa1,wb1,wc1,wd1,we1,wf1,ob,(VS.grow Zm),(by simp [Zv.grow];omega),(by rw [Ye Z2,Kr] at Yq;first|(rw [Zw Zg] at Yq;exact Yq)|(rw [Zs Zg] at Yq;exact Yq)),rfl,rfl,rfl⟩ (wk [0,6,0,0,0,0,0,0] (ZI k fl))))))))
  refine az (Z6 4 [1] (Zn (Zh none (k:Int) 1 (ZQ Z2)) (Z0 1 (ic [0,1,1,1,1,1,1] (Tw b2 ka kb kc kd ke kf L2 rt.lent x1 0 (-1) (hlk:=Zm)) ?_))))
  rintro _ _ ⟨wa2,wb2,wc2,wd2,we2,wf2,rfl⟩
  exact ie (az (Z0 1 (ZE k (Z0 1 (ie (ZG ⟨k+1,(L2.grow x1 0 (-1)),wa2,wb2,wc2,wd2,we2,wf2,ob,(VS.grow Zm),(by simp [Zv.grow];omega),(by rw [Ye Z2,Kr] at Yq;first|(rw [Zw Zg] at Yq;exact Yq)|(rw [Zs Zg] at Yq;exact Yq)),rfl,rfl,rfl⟩ (wk [0,6,0,0,0,0,0,0] (ZI k fl))))))))
 refine ax 0 (ar (Z0 2 (ie ?_)))
 have hNl:L2=Q0 rt:=by rw [<-Yq,Xf om];rfl
 exact Z9 (r1 [0,1,1,1,1,1,1] ⟨b2,ka,kb,kc,kd,ke,kf,rfl,rfl⟩ (eq:=(rc (rv (xs:=L2.vars) (by rw [hNl]) (rv (xs:=L2.own) (by rw [hNl]) (rv (xs:=L2.par) (by rw [hNl]) (rv (xs:=L2.con) (by rw [hNl]) (rv (xs:=L2.fst) (by rw [hNl]) (rv (xs:=L2.tok) (by rw [hNl]) rz)))))))))
theorem PD (n:Zu) (f0:Nat) (k0:Nat) (rt:Y1) (hz:KH n:=by exact ob) (hr:n.routines[f0]? = some rt:=by exact ob) (hk0:k0<=rt.body.steps.length:=by exact ob):Zi 161 [Yc n,.i f0,.i k0] [] (fun r h=>(∃(c:Nat) (wa:Hd) (wb:Hd) (wc:Hd) (wd:Hd) (we:Hd) (wf:Hd) (L:Zv) (q:Int),r=.tup [.p c 0,.b true]/\h=[.obj c [.h wa,.h wb,.h wc,.h wd,.h we,.h wf,Z5 rt.lent],rV wa L.vars,rV wb L.own,rV wc L.par,rV wd L.con,rV we L.fst,rV wf L.tok]/\X5 n.decls L q/\L.vars.length=rt.params.length+Yy (rt.body.steps.take k0)/\L.vars.length<=500000000/\rt.lent.length<=4194304)∨(r=.tup [.any,.b false]/\h=[]/\True)):=by
 have hzl:=hz.len
 have hfl:=(Xj.1 hr).1
 have hrm:=ZU hr
 have hbz:=hz.body _ hrm
 have Zq:=WQ rt.body
 have hbe:=rt.body.sz_eq
 obtain ⟨hk,hkv⟩:=SC n.decls rt
 refine ZB 64 Tryz.func161 (ar (iA (YC n) fun b1=>Z0 2 (ie (aq (ar (Z6 1 [0] (Zr [] (Z2q n) (WO 12 [1,2,3] [(21,.b ((!TE n)||(!(decide (0<=(f0:Int)/\(f0:Int)<=((n.routines.length:Int)-1))))))] (fun gz=>gz) ?_ (fun hj1=>?_)))))))))
 ·refine Xr [1,2,3] [(34,.b (((!TE n)||(!(decide (0<=(f0:Int)/\(f0:Int)<=((n.routines.length:Int)-1)))))||(!(decide (0<=(k0:Int)/\(k0:Int)<=(rt.body.steps.length:Int))))))] (fun gz=>gz) ?_ ?_
  ·refine Z0 1 (ib (b:=((!TE n)||(!(decide (0<=(f0:Int)/\(f0:Int)<=((n.routines.length:Int)-1)))))) 22 (fun Zb=>?_) (fun Zb=>?_))
   ·exact Z0 12 (ie (wk [0] (ZJ true Zb fl)))
   exact Z6 4 [0] (Zn (Zh none (f0:Int) 5 (Wk hr)) (Z0 3 (iw (W1 rt.body.steps) (Zr [] (Vz (k0:Int) 0 (rt.body.steps.length:Int)) (Z0 2 (ie (wk [0] (ZJ (!(decide (0<=(k0:Int)/\(k0:Int)<=(rt.body.steps.length:Int)))) Zb fl))))))))
  refine ac (((!TE n)||(!(decide (0<=(f0:Int)/\(f0:Int)<=((n.routines.length:Int)-1)))))||(!(decide (0<=(k0:Int)/\(k0:Int)<=(rt.body.steps.length:Int))))) (p:=((¬(TE n=true))∨(¬(0<=(f0:Int)/\(f0:Int)<=((n.routines.length:Int)-1))))∨(¬(0<=(k0:Int)/\(k0:Int)<=(rt.body.steps.length:Int)))) (X3 (X3 (YR Iff.rfl) (YR dq)) (YR dq)) (fun Za=>?_) (fun Za=>?_)
  ·exact ar (ZA 1 [(35,.agg [.sl [] none,.sl [] none,.sl [] none,.sl [] none,.sl [] none,.sl [] none,.sl [] none])] (iA [.sl [] none,.sl [] none,.sl [] none,.sl [] none,.sl [] none,.sl [] none,.sl [] none] fun b2=>Z0 2 (ie (Z9 (r2 [] [.p b2 0,.b false] (.inr ⟨rfl,rfl,(by first|exact True.intro|exact ⟨Zm,by rw [show k0=j by omega];exact K3,by omega,hll⟩)⟩) (Zf.tup (.cons (Zf.any _) (.cons (lr _) .nil))))))))
  have hV:TE n=true:=G4 fun z=>Za (.inl (.inl z))
  obtain ⟨hok,hall⟩:=Z3y hz hV
  have hty:=hall rt hrm
  obtain ⟨vs,t0,hvs,hres,hrt0⟩:=Gs hty
  have hpl:=hok.params_at hr
  have hll:=hok.lent_at hr
  refine ak (ar (Z6 3 [0] (Zn (Zh none (f0:Int) 5 (Wk hr)) (Z0 1 (ic [] (Z26 rt) ?_)))))
  rintro _ _ ⟨c1,wa1,wb1,wc1,wd1,we1,wf1,rfl,rfl⟩
  refine Z0 1 (ie (aq (ar (Z0 1 (ie (ab 0 (ZX (fun fz gz m F h=>∃(j:Nat) (q2:Int) (L2:Zv) (ka:Hd) (kb:Hd) (kc:Hd) (kd:Hd) (ke:Hd) (kf:Hd),(j<=k0)/\(X5 n.decls L2 q2)/\(0<=q2/\q2+4*Y5 (rt.body.steps.drop j)<=999999990)/\(L2.vars.length+4*Y5 (rt.body.steps.drop j)<=400000000)/\(Vd n (rt.body.steps.drop j) L2.vars=some vs)/\(L2.vars.length=rt.params.length+Yy (rt.body.steps.take j))/\F=sF [1,2,3,8] fz [(9,.i j)]/\h=[.obj c1 [.h ka,.h kb,.h kc,.h kd,.h ke,.h kf,Z5 rt.lent],Ze gz 7,rV ka L2.vars,rV kb L2.own,rV kc L2.par,rV kd L2.con,rV ke L2.fst,rV kf L2.tok]/\m=k0-j) _ _ _ ⟨0,1,(Q0 rt),wa1,wb1,wc1,wd1,we1,wf1,ob,hk,(by rw [Jj];omega),(by rw [Jj,hkv];omega),(by rw [Jj,hkv];exact hvs),(by rw [hkv];rfl),rfl,rfl,rfl⟩ (wk [0,6,0,0,0,0,0,0] (Y7 fl)) ?_)))))))
  rintro m F h ⟨j,q2,L2,ka,kb,kc,kd,ke,kf,Y8,Zm,Zo,Yq,XK,K3,rfl,rfl,rfl⟩
  refine aq (ar (Z0 3 (ie (ZH ((j:Int)<(k0:Int)) (fun Zg=>?_) (fun Zg=>?_)))))
  ·obtain ⟨s1,hs1⟩:=Zp rt.body.steps j om
   have hss:=Q3 hs1
   have hsp:=s1.sz_pos
   have hzd:=FG hs1
   have hdt:=GR hs1
   have hdr:=Ye hs1
   rw [hdr] at XK
   obtain ⟨g1,g2⟩:=M7 XK
   refine ak (aq (ab 1 (aD 14 (ZD 9 14 [0,1,2,3,4] [1,1] (dx 5 (Zh none (f0:Int) 5 (Wk hr)) (Zj 4 8 [6,7,8,9] (dx 10 (Zh none (j:Int) 5 (XG hs1)) (Zj 2 3 [11] (Z8 12 (dc 12 [0,1,1,1,1,1,1] [] [] (Sp c1 ka kb kc kd ke kf n s1 L2 rt.lent q2 hok ob Zm g1 om om) ?_))))))))))
   rintro _ _ (⟨wa2,wb2,wc2,wd2,we2,wf2,M'1,rfl,rfl,YA⟩|⟨rfl,rfl,YJ⟩)
   ·have hP:=YA
    have kx:=M4 hok Zm Zo.1 g1 hP
    have hsf:=Z1j g1
    exact Zj 0 1 [13] (de (Wi (ak (az (Z0 1 (ZE j (Z0 1 (ie (ZG ⟨j+1,(q2+4*s1.sz),M'1,wa2,wb2,wc2,wd2,we2,wf2,ob,kx.1,om,(by rw [kx.2,hsf];split<;>omega),(by rw [kx.2];exact g2),(by rw [kx.2,hsf,hdt];split<;>omega),rfl,rfl,rfl⟩ (wk [0,6,0,0,0,0,0,0] (ZI j fl)))))))))))
   exact Zj 0 1 [13] (de (WZ (ar (Z0 3 (ie (Z9 (r2 [] [.p c1 0,.b false] (.inr ⟨rfl,rfl,(by first|exact True.intro|exact ⟨Zm,by rw [show k0=j by omega];exact K3,by omega,hll⟩)⟩) (Zf.tup (.cons (Zf.any _) (.cons (lr _) .nil))))))))))
  exact ax 0 (ar (Z0 3 (ie (Z9 (r2 [0,1,1,1,1,1,1] [.p c1 0,.b true] (.inl ⟨c1,ka,kb,kc,kd,ke,kf,L2,_,rfl,rfl,(by first|exact True.intro|exact ⟨Zm,by rw [show k0=j by omega];exact K3,by omega,hll⟩)⟩) (lr _))))))
 refine Z0 2 (ib (b:=(!TE n)) 13 (fun ZM=>?_) (fun ZM=>?_))
 ·exact Z0 8 (Xe (wk [0] (ZJ true ZM fl)) hj1)
 exact Z6 3 [0] (iw (U4 n.routines) (ia (((n.routines.length:Int)-1)) (((n.routines.length:Int))-(1)) (Zr [] (Vz (f0:Int) 0 ((n.routines.length:Int)-1)) (Z0 2 (Xe (wk [0] (ZJ (!(decide (0<=(f0:Int)/\(f0:Int)<=((n.routines.length:Int)-1)))) ZM fl)) hj1)))))
theorem Cx (b:Z4) (i0:Nat) (s:Z3) (hi:i0<=b.steps.length:=by exact ob) (hz:b.sz<=100000000:=by exact ob):Zi 87 [ZC b,.i i0,Yk s] [] (Ym (ZC (Z4.mk (XM b.steps i0 s) b.result))):=by
 have Zq:=WQ b
 exact ZB 26 Tryz.func87 (ar (iA (YE b) fun b1=>iA (X6 s) fun b2=>iA [nl,.i 0] fun b3=>ie (ar (iL (Zk []) 0 5 fun v1=>Z6 3 [3] (Zn (Kw (es:=Zk b.steps) (hv:=none) (l:=0) (m:=(i0:Int)) (sz:=5) (es':=Zk (b.steps.take i0)) kr om (by simp<;>omega) (by simp<;>omega) (YP _) (by first|(simp only [U0,V9,TT,TS];done)|(simp only [U0,V9,TT,TS];rfl)|(simp [TT,TS];done))) (ip 0 (Zk (b.steps.take i0)) (Zk []) (Zk (b.steps.take i0)) v1 none 5 (YP _) (YP _) (WL _) (by simp<;>omega) (by simp [Wx]) fun v2=>Z0 1 (ie (aD 13 (ZD 8 13 [0,1,4,5,6] [2,3] (dx 7 (Kw (es:=Zk b.steps) (hv:=none) (l:=(i0:Int)) (m:=(((Zk b.steps).length:Nat):Int)) (sz:=5) (es':=Zk (b.steps.drop i0)) kr om (by simp<;>omega) (by simp<;>omega) (YP _) (by first|(simp only [U0,V9,TT,TS];done)|(simp only [U0,V9,TT,TS];rfl)|(simp [TT,TS];done))) (ZD 5 7 [9,10] [3] (Z8 2 (dL 2 [2,2] [b1,b1] [Yk s] 1 5 fun v3=>Y9 4 4 [] [(16,.sl [Yk s] none)] (Z8 3 (dp 3 1 [2,2] [b1,b1] (Zk ((b.steps.take i0)++[s])) (Zk (b.steps.take i0)) [Yk s] v2 none 5 (YP _) (UQ rfl) rfl (by simp<;>omega) (by simp [W0,Wx]) fun v4=>Z8 8 (dp 8 0 [2] [b1] (Zk (XM b.steps i0 s)) (Zk ((b.steps.take i0)++[s])) (Zk (b.steps.drop i0)) v4 none 5 (YP _) (YP _) (WL _) (by simp<;>omega) (by simp only [XM,W0]) fun v5=>Zj 1 2 [11] (Z8 12 (Yo 12 2 [] [] b3 [Yx (XM b.steps i0 s) v5,.i b.result] (de (Z9 (r3 [] [.agg [Yx (XM b.steps i0 s) v5,.i b.result]] [0] [(b3,b3)] ⟨rfl,rfl⟩ (Zf.agg (.cons (Zf.sl _ (Yg Zk rfl)) (.cons li .nil))))))))))))))))))))))))
theorem EF (n:Zu) (f0:Nat) (b:Z4) (rt:Y1) (hr:n.routines[f0]? = some rt:=by exact ob) (hl:n.routines.length<=1000000:=by exact ob) (hp:rt.params.length<=4294967296:=by exact ob) (hl2:rt.lent.length<=4294967296:=by exact ob):Zi 100 [Yc n,.i f0,ZC b] [] (fun r h=>∃(g:Nat) (c:Nat),r=.agg [YB n.decls,.ms g 0 n.routines.length c]/\h=[.row (.slice (some ⟨g,0,none⟩) n.routines.length c) 5 (Zc (Yn (n.routines.set f0 (Y1.mk rt.params rt.lent rt.result b))))]):=by
 have hfl:=(Xj.1 hr).1
 refine ZB 26 Tryz.func100 (ar (iA (YC n) fun b1=>iA (YE b) fun b2=>iA [nl,nl] fun b3=>ie (ar (CF 5 fun g1=>Z6 2 [3] (Rk 0 g1 5 (Yn n.routines) none (Vt _) (by simp<;>omega) fun v1=>CD 0 n.routines.length (v:=v1) (Cr _) om (fun g2 c1 he1=>?_))))))
 subst he1
 exact Z0 1 (ie (aD 11 (ZD 6 11 [0,1,2,3,4] [3] (dx 5 (Zh none (f0:Int) 5 (Wk hr)) (ZD 3 5 [6,7] [2] (Z8 8 (Yf 8 [] [] [] (AL rt b) (dx 9 (XB g2 n.routines.length c1 f0 5 (f0:Int)) (Z8 10 (Jv 10 0 [] [] g2 n.routines.length c1 5 (f0*5) (QH (Y1.mk rt.params rt.lent rt.result b)) (Zc (Yn n.routines)) (Zc (Yn (n.routines.set f0 (Y1.mk rt.params rt.lent rt.result b)))) (by rw [Cr];simp only [Yw,YV];omega) (OS (Y1.mk rt.params rt.lent rt.result b) hfl) (de (ar (Z6 4 [3] (Zy 1 b3 [YB n.decls,.ms g2 0 n.routines.length c1] (ie (Z9 (r3 [1] [.agg [YB n.decls,.ms g2 0 n.routines.length c1]] [0] [(b3,b3)] ⟨g2,c1,rfl,rfl⟩ (lr _))))))))))))))))))
theorem HF (n:Zu) (f0:Nat) (b:Z4) (rt:Y1) (hr:n.routines[f0]? = some rt:=by exact ob) (hl:n.routines.length<=1000000:=by exact ob) (hp:rt.params.length<=4294967296:=by exact ob) (hl2:rt.lent.length<=4294967296:=by exact ob):Zi 100 [Yc n,.i f0,ZC b] [] (Ym (Yc (withR n f0 rt b))):=(XN.frzN (ds:=n.decls) (rs:=(n.routines.set f0 (Y1.mk rt.params rt.lent rt.result b))) (hs:=[]) ((EF n f0 b rt hr hl hp hl2).mono fun r h ⟨g,c,e1,e2⟩=>⟨g,c,by rw [e1];simp only [Ua],by rw [e2];simp only [Ua]⟩))
theorem Ux (rd:Nat) (bs:LI) (p:Nat) (mx:Nat) (Zq:∀z∈bs,0<=z/\z<=255) (hp:p+1<=1000000000:=by exact ob) (hmx:0<mx:=by exact ob):Zi 50 [.p rd 0,.i mx] [Y4 rd bs p] (fun r h=>∃(kn:Nat),r=.i kn/\h=[.obj rd [WW bs,.i (p+1:Nat)]]/\kn<mx):=(Xs rd bs p mx Zq hp).mono fun r h ⟨z,hr,hh,hz⟩=>by
  have h0:=hz.lt om
  exact ⟨z.toNat,by rw [hr,Int.toNat_of_nonneg h0.1],hh,by omega⟩
theorem Hw (rd:Nat) (bs:LI) (p:Nat) (n:Zu) (Zq:∀z∈bs,0<=z/\z<=255) (hp:p+4<=1000000000:=by exact ob) (hz:KH n:=by exact ob) (hl1:1<=n.routines.length/\n.routines.length<=1000000:=by exact ob):Zi 123 [.p rd 0,Yc n] [Y4 rd bs p] (fun r h=>∃(n2:Zu) (p2:Nat),r=Yc n2/\h=[Y4 rd bs p2]/\DK n n2/\p<=p2/\p2<=p+4):=by
 refine ZB 102 Tryz.func123 (ar (iA (YC n) fun b1=>iA [nl,nl] fun b2=>ie (ar (Z6 3 [1] (iw (U4 n.routines) (ic [2] (Ux rd bs p n.routines.length (Zq:=ob)) ?_))))))
 rintro _ _ ⟨Yd,rfl,rfl,ZT⟩
 refine Z0 1 (ie (ar (Z6 3 [2] ?_)))
 obtain ⟨x1,Z2⟩:=Zp n.routines Yd om
 have hrm:=ZU Z2
 have hbz:=hz.body _ hrm
 have Zq:=WQ (x1).body
 have hpl:=hz.params _ hrm
 have hll:=hz.lent _ hrm
 have hrx:=Z2
 refine Zn (Zh none (Yd:Int) 5 (Wk Z2)) (Z0 2 (iA [nl,.i 0] fun b3=>Zy 0 b3 (YE x1.body) (ie (ar (Z6 3 [0] (iw (W1 x1.body.steps) (ia (((x1.body.steps.length+1:Nat):Int)) (((x1.body.steps.length:Int))+(1)) (ic [1] (Ux rd bs (p+1) (x1.body.steps.length+1) (Zq:=ob)) ?_))))))))
 rintro _ _ ⟨Yr,rfl,rfl,Y6⟩
 refine Z0 1 (ie (ar (Z6 3 [3] (ic [] (PD n Yd Yr x1 (hr:=hrx)) ?_))))
 rintro _ _ (⟨c1,wa1,wb1,wc1,wd1,we1,wf1,L1,q1,rfl,rfl,YA⟩|⟨rfl,rfl,YJ⟩)
 ·obtain ⟨hLO,hLv,hLb,hLl⟩:=YA
  have hLn:=hLO.len
  obtain ⟨e1,e2,e3,e4,e5⟩:=hLO.len
  refine Z0 5 (ie (aq (ar (Z0 2 (ie (Wi (ak (ar (iL (Z7 []) 0 1 fun v1=>?_)))))))))
  refine Z0 1 (ie (aq (ar (Z0 1 (ie (ab 0 (ZX (fun fz gz m F h=>∃(k:Nat) (vl:LI) (u:Value),(k<=L1.vars.length)/\(vl.length<=k)/\(∀v∈vl,0<=v/\v<(L1.vars.length:Int))/\F=sF [0,3,4,5,6,7,8] fz [(10,ZO vl u),(11,.i k)]/\h=[Ze gz 1,Ze gz 2,Ze gz 3,Ze gz 4,Ze gz 5,Ze gz 6,Ze gz 7,Ze gz 8,Ze gz 9,Ze gz 10,Ze gz 11,.tail u 1]/\m=L1.vars.length-k) _ _ _ ⟨0,[],v1,ob,ob,(fun v hv=>by cases hv),rfl,rfl,rfl⟩ (wk [1,1,1,1,1,1,1,1,1,1,1,0] (fr (Y7 fl))) ?_)))))))
  rintro m F h ⟨k,vl,u,Y8,Zm,Zo,rfl,rfl,rfl⟩
  refine aq (ar (Z6 5 [0] (Zn (JZ 1 wa1 L1.vars) (Z0 1 (ie (ZH ((k:Int)<(L1.vars.length:Int)) (fun Za=>?_) (fun Za=>?_)))))))
  ·refine ak (aq (ab 1 (ar (Z6 5 [0] (Zn (WR 1 wa1 L1.vars (k:Int) k) ?_)))))
   obtain ⟨x2,Zt⟩:=Zp L1.vars k om
   refine V2 (UG 1 wa1 L1.vars k x2 Zt) (Z0 2 (ib (b:=(x2 != 0)) 59 (fun Zb=>?_) (fun Zb=>?_)))
   ·refine Z0 2 (Zr [0,0,0,0,0,0,0] (CP c1 wa1 wb1 wc1 wd1 we1 wf1 L1 x1.lent (k:Int) (hlk:=hLO.len) (hd:=hLO.down)) (Z0 1 (ie (ac (VB L1 x1.lent (k:Int)) Iff.rfl (fun Zg=>?_) (fun Zg=>?_)))))
    ·exact az (Z0 2 (iL (Z7 [(k:Int)]) 1 1 fun v2=>ZA 0 [(66,Z5 [(k:Int)])] (ip 12 (Z7 (vl++[(k:Int)])) (Z7 vl) (Z7 [(k:Int)]) u none 1 (Yl _) (Yl _) (XD _) (by simp<;>omega) (by simp [XA,Z7]) fun v3=>Z0 1 (ie (az (Z0 1 (ZE k (Z0 1 (ie (ZG ⟨k+1,(vl++[(k:Int)]),v3,ob,ob,(by first|exact Zo|exact YZ Zo om),rfl,rfl,rfl⟩ (wk [2,2,2,2,2,2,2,2,2,2,2,0] (fr (ZI k fl)))))))))))))
    exact ak (az (Z0 1 (ZE k (Z0 1 (ie (ZG ⟨k+1,vl,u,ob,ob,(by first|exact Zo|exact YZ Zo om),rfl,rfl,rfl⟩ (ZP 12 (fr (ZI k fl)))))))))
   exact Z0 4 (ie (Wi (ak (az (Z0 1 (ZE k (Z0 1 (ie (ZG ⟨k+1,vl,u,ob,ob,(by first|exact Zo|exact YZ Zo om),rfl,rfl,rfl⟩ (ZP 12 (fr (ZI k fl))))))))))))
  refine ax 0 (aq (ar (Z0 1 (iw (Y2 vl) (Z0 1 (ie (ac ((vl.length:Int)==0) Zz (fun ZK=>?_) (fun ZK=>?_))))))))
  ·exact ar (Z6 1 [10] (Zy 9 b2 (YC n) (ie (Z9 (r3 [8] [Yc n] [0] [(b2,b2)] ⟨n,(p+1)+1,rfl,rfl,(by first|exact ⟨.inl rfl,by omega,by omega⟩|(have hv:=Zo x3 (ZU YQ);exact ⟨.inr ⟨Yd,x1,Yr,Yr+VX,x3,hrx,by omega,by omega,hv.1,by omega,rfl⟩,by omega,by omega⟩))⟩ (lr _))))))
  refine ak (ar (Z0 3 (iw (Y2 vl) (ic [7] (Ux rd bs ((p+1)+1) vl.length (Zq:=ob)) ?_))))
  rintro _ _ ⟨Bt,rfl,rfl,Wd⟩
  obtain ⟨x3,YQ⟩:=Zp vl Bt om
  refine Zn (Zh (some u) (Bt:Int) 1 (ZQ YQ)) (Z0 2 (ie (ar (Z6 4 [8] (iw (W1 x1.body.steps) (Z0 1 (ia ((((x1.body.steps.length-Yr):Nat):Int)) (((x1.body.steps.length:Int))-((Yr:Int))) (ia ((((x1.body.steps.length-Yr)+1:Nat):Int)) (((((x1.body.steps.length-Yr):Nat):Int))+(1)) (ic [0] (Ux rd bs (((p+1)+1)+1) ((x1.body.steps.length-Yr)+1) (Zq:=ob)) ?_)))))))))
  rintro _ _ ⟨VX,rfl,rfl,WM⟩
  exact ia (((Yr+VX:Nat):Int)) (((Yr:Int))+((VX:Int))) (Z0 1 (ie (aD 6 (ZD 3 6 [0,1,2] [8] (Z8 3 (Yf 3 [] [2] [b3] (QP 15 x3) (Z8 4 (Yf 4 [] [] [] (Cx x1.body (Yr+VX) (Zl 15 x3) (hi:=(by first|omega|(show Yr<=(XM _ _ _).length;rw [IT om];omega))) (hz:=(by first|omega|(rw [Z4.sz,BI];have e:(Zl 15 x3).sz=2:=rfl;have e2:=x1.body.sz_eq;omega)))) (Z8 5 (Yo 5 8 [] [] b3 (YE (Z4.mk (XM x1.body.steps (Yr+VX) (Zl 15 x3)) x1.body.result)) (de (aD 9 (ZD 4 9 [0,1,2,3,4] [10,0] (Z8 5 (Yf 5 [] [0,4] [b3,b1] (QP 14 x3) (Z8 6 (Yf 6 [] [4] [b1] (Cx (Z4.mk (XM x1.body.steps (Yr+VX) (Zl 15 x3)) x1.body.result) Yr (Zl 14 x3) (hi:=(by first|omega|(show Yr<=(XM _ _ _).length;rw [IT om];omega))) (hz:=(by first|omega|(rw [Z4.sz,BI];have e:(Zl 15 x3).sz=2:=rfl;have e2:=x1.body.sz_eq;omega)))) (Z8 7 (Yf 7 [] [] [] (HF n Yd (Z4.mk (XM (Z4.mk (XM x1.body.steps (Yr+VX) (Zl 15 x3)) x1.body.result).steps Yr (Zl 14 x3)) (Z4.mk (XM x1.body.steps (Yr+VX) (Zl 15 x3)) x1.body.result).result) x1 (hr:=hrx)) (Z8 8 (Yo 8 9 [] [] b2 (YC (withR n Yd x1 (Z4.mk (XM (Z4.mk (XM x1.body.steps (Yr+VX) (Zl 15 x3)) x1.body.result).steps Yr (Zl 14 x3)) (Z4.mk (XM x1.body.steps (Yr+VX) (Zl 15 x3)) x1.body.result).result))) (de (Z9 (r3 [2] [Yc (withR n Yd x1 (Z4.mk (XM (Z4.mk (XM x1.body.steps (Yr+VX) (Zl 15 x3)) x1.body.result).steps Yr (Zl 14 x3)) (Z4.mk (XM x1.body.steps (Yr+VX) (Zl 15 x3)) x1.body.result).result))] [0] [(b2,b2)] ⟨(withR n Yd x1 (Z4.mk (XM (Z4.mk (XM x1.body.steps (Yr+VX) (Zl 15 x3)) x1.body.result).steps Yr (Zl 14 x3)) (Z4.mk (XM x1.body.steps (Yr+VX) (Zl 15 x3)) x1.body.result).result)),(((p+1)+1)+1)+1,rfl,rfl,(by first|exact ⟨.inl rfl,by omega,by omega⟩|(have hv:=Zo x3 (ZU YQ);exact ⟨.inr ⟨Yd,x1,Yr,Yr+VX,x3,hrx,by omega,by omega,hv.1,by omega,rfl⟩,by omega,by omega⟩))⟩ (lr _)))))))))))))))))))))))))
 exact Z0 5 (ie (aq (ar (Z0 2 (ie (WZ (ar (Z6 1 [3] (Zy 2 b2 (YC n) (ie (Z9 (r3 [1] [Yc n] [0] [(b2,b2)] ⟨n,(p+1)+1,rfl,rfl,(by first|exact ⟨.inl rfl,by omega,by omega⟩|(have hv:=Zo x3 (ZU YQ);exact ⟨.inr ⟨Yd,x1,Yr,Yr+VX,x3,hrx,by omega,by omega,hv.1,by omega,rfl⟩,by omega,by omega⟩))⟩ (lr _)))))))))))))
theorem Z2e (b:Z4) (hz:b.sz<=1000000000:=by exact ob):Zi 239 [ZC b] [] (Ym (.i (((Xh b.steps):Nat):Int))):=by
 have hbz:=WQ b
 refine ZB 20 Tryz.func239 (ar (iA (YE b) fun b1=>?_))
 refine Z0 1 (ie (ar (Z0 1 (ie (aq (ab 0 (ZX (fun fz gz m F h=>∃(k:Nat),(k<=b.steps.length)/\(k+Xh (b.steps.drop k)=Xh b.steps)/\F=sF [1] fz [(3,.i k)]/\h=gz/\m=b.steps.length-k) _ _ _ ⟨0,ob,(by simp),rfl,rfl,rfl⟩ (wk [0] (Y7 fl)) ?_)))))))
 rintro m F h ⟨k,Y8,Zm,rfl,rfl,rfl⟩
 refine aq (ar (Z6 3 [0] (iw (W1 b.steps) (Z0 2 (ib (b:=(decide ((k:Int)<(b.steps.length:Int)))) 9 (fun Zb=>?_) (fun Zb=>?_))))))
 ·have ZT:(k:Int)<(b.steps.length:Int):=(dq).1 Zb
  refine Z6 3 [0] ?_
  obtain ⟨x1,Z2⟩:=Zp b.steps k om
  refine Zn (Zh none (k:Int) 5 (XG Z2)) (Z0 1 (Zr [] (LQ x1) (Z0 1 (ie (ac ((x1.op==14)||(x1.op==15)) (p:=(x1.op=14)∨(x1.op=15)) (X3 Zz Zz) (fun Za=>?_) (fun Za=>?_))))))
  ·exact ak (ab 1 (az (Z0 1 (ZE k (Z0 1 (ie (ZG ⟨k+1,ob,(Z15 Z2 Za Zm),rfl,rfl,rfl⟩ (wk [0] (ZI k fl)))))))))
  exact ax 0 (ar (Z0 2 (ie (Z9 (ZZ (.i k) (li (by have:=Z16 Z2 Za Zm;omega)))))))
 have Y6:¬((k:Int)<(b.steps.length:Int)):=YH dq Zb
 exact Z0 7 (ie (Wi (ax 0 (ar (Z0 2 (ie (Z9 (ZZ (.i k) (li (by have:=Z14 om Zm;omega))))))))))
theorem LJ (b:Z4) (mm:Nat) (op:Int) (hm:mm<=b.steps.length:=by exact ob) (ha:∀s∈b.steps.take mm,s.op=op->∃a,s.args=[a]) (hz:b.sz<=1000000000:=by exact ob):Zi 240 [ZC b,.i mm,.i op] [] (fun r h=>∃(v:Value),r=ZO (XO op (b.steps.take mm)) v/\h=[.tail v 1]):=by
 have hbz:=WQ b
 refine ZB 35 Tryz.func240 (ar (iA (YE b) fun b1=>Z0 1 (ie (ar (iL (Z7 []) 0 1 fun v1=>?_)))))
 refine Z0 1 (ie (aq (ar (Z0 1 (ie (ab 0 (ZX (fun fz gz m F h=>∃(k:Nat) (acc:LI) (v:Value),(k<=mm)/\(acc.length<=k)/\(acc++XO op ((b.steps.take mm).drop k)=XO op (b.steps.take mm))/\F=sF [1,2,3] fz [(7,ZO acc v),(8,.i k)]/\h=[Ze gz 1,.tail v 1]/\m=mm-k) _ _ _ ⟨0,[],v1,ob,ob,(by simp),rfl,rfl,rfl⟩ (wk [1,0] (fr (Y7 fl))) ?_)))))))
 rintro m F h ⟨k,acc,v,Y8,Zm,Zo,rfl,rfl,rfl⟩
 refine aq (ar (Z0 3 (ie (ZH ((k:Int)<(mm:Int)) (fun Za=>?_) (fun Za=>?_)))))
 ·refine ak (aq (ab 1 (ar (Z6 3 [0] ?_))))
  obtain ⟨x1,Z2⟩:=Zp b.steps k om
  have hxt:(b.steps.take mm)[k]? = some x1:=by rw [List.getElem?_take_of_lt om];exact Z2
  have hxm:=ZU hxt
  refine Zn (Zh none (k:Int) 5 (XG Z2)) (Z0 4 (ie (ac (x1.op==op) Zz (fun Zg=>?_) (fun Zg=>?_))))
  ·refine az (Z6 4 [0] (Zn (Zh none (k:Int) 5 (XG Z2)) (Z0 2 ?_)))
   obtain ⟨x2,Zt⟩:=Zp x1.args 0 (by obtain ⟨a,ha2⟩:=ha x1 hxm Zg;rw [ha2];simp)
   have hg0:=Kf Zt
   exact Zn (Zh none 0 1 (ZQ Zt)) (Z0 1 (iL (Z7 [x2]) 1 1 fun v2=>ZA 0 [(32,Z5 [x2])] (ip 2 (Z7 (acc++[x2])) (Z7 acc) (Z7 [x2]) v none 1 (Yl _) (Yl _) (XD _) (by simp<;>omega) (by simp [XA,Z7]) fun v3=>Z0 1 (ie (az (Z0 1 (ZE k (Z0 1 (ie (ZG ⟨k+1,(acc++[x2]),v3,ob,(by simp;omega),(by have h:=N8 hxt Zg Zo;rw [hg0] at h;exact h),rfl,rfl,rfl⟩ (wk [2,0] (fr (ZI k fl)))))))))))))
  exact ak (az (Z0 1 (ZE k (Z0 1 (ie (ZG ⟨k+1,acc,v,ob,ob,(N7 hxt Zg Zo),rfl,rfl,rfl⟩ (wk [0,0] (fr (ZI k fl)))))))))
 exact ax 0 (ar (Z0 2 (ie (Z9 (r2 [1] [ZO acc v] ⟨v,rfl,rfl⟩ (Zf.slh _ (Yg Z7 (N6 (by rw [W8];omega) Zo))))))))
theorem LY (xs:LI) (y:Int) (hl:xs.length<=1000000000:=by exact ob):Zi 241 [Z5 xs,.i y] [] (fun r h=>∃(v:Value),r=ZO (xs.erase y) v/\h=[.tail v 1]):=by
 refine ZB 33 Tryz.func241 (ar (Z0 1 (ie (ar (iL (Z7 []) 0 1 fun v1=>?_)))))
 refine Z0 1 (ie (ar (Z0 1 (ie (aq (ar (Z0 1 (ie (ab 0 (ZX (fun fz gz m F h=>∃(k:Nat) (acc:LI) (d:Bool) (v:Value),(k<=xs.length)/\(acc.length<=k)/\(acc++(if d=true then xs.drop k else (xs.drop k).erase y)=xs.erase y)/\F=sF [0,1] fz [(5,ZO acc v),(6,.b d),(7,.i k)]/\h=[.tail v 1]/\m=xs.length-k) _ _ _ ⟨0,[],false,v1,ob,ob,(by simp),rfl,rfl,rfl⟩ (wk [0] (fw (Y7 fl))) ?_))))))))))
 rintro m F h ⟨k,acc,d,v,Y8,Zm,Zo,rfl,rfl,rfl⟩
 refine aq (ar (Z0 2 (iw (Y2 xs) (Z0 1 (ie (ZH ((k:Int)<(xs.length:Int)) (fun Za=>?_) (fun Za=>?_)))))))
 ·refine ak (aq (ab 1 (ar (Z0 2 ?_))))
  obtain ⟨x1,Z2⟩:=Zp xs k om
  refine Zn (Zh none (k:Int) 1 (ZQ Z2)) (Xr [0,1,5,6,7] [(24,.b ((x1==y)&&(!d)))] (fun gz=>gz) ?_ ?_)
  ·refine Z0 4 (ib (b:=(x1==y)) 21 (fun Zb=>?_) (fun Zb=>?_))
   ·exact Z0 3 (ie (wk [0] (ZJ (!d) Zb fl)))
   exact Z0 3 (ie (wk [0] (ZJ false Zb fl)))
  refine KS (fun fz gz F h=>∃(w:Value),F=sF [0,1,7] fz [(5,ZO (if (x1=y)/\(¬(d=true)) then acc else (acc++[x1])) w),(6,.b (((x1==y)&&(!d))||d))]/\h=[.tail w 1]) (fun _ _=>rfl) ?_ ?_
  ·refine ac ((x1==y)&&(!d)) (p:=(x1=y)/\(¬(d=true))) (Xb Zz (YR Iff.rfl)) (fun Zg=>?_) (fun Zg=>?_)
   ·exact az (Z0 1 (ie (ZF ⟨v,rfl,rfl⟩ (wk [0] (fc (x:=ZO acc v) (Zf.slh _ (Yg Z7 (by first|rfl|(rw [Zw Zg])|(rw [Zs Zg])|(simp [Zg];done)|(rw [Xi];simp [Zg];done)|omega))) (fc (x:=.b true) (lb (by first|rfl|(rw [Zw Zg])|(rw [Zs Zg])|(simp [Zg];done)|(rw [Xi];simp [Zg];done)|omega)) fl))))))
   exact az (Z0 3 (Zn (Zh none (k:Int) 1 (ZQ Z2)) (Z0 1 (iL (Z7 [x1]) 1 1 fun v2=>ZA 0 [(30,Z5 [x1])] (ip 1 (Z7 (acc++[x1])) (Z7 acc) (Z7 [x1]) v none 1 (Yl _) (Yl _) (XD _) (by simp<;>omega) (by simp [XA,Z7]) fun v3=>Z0 1 (ie (ZF ⟨v3,rfl,rfl⟩ (wk [0] (fc (x:=ZO (acc++[x1]) v3) (Zf.slh _ (Yg Z7 (by first|rfl|(rw [Zw Zg])|(rw [Zs Zg])|(simp [Zg];done)|(rw [Xi];simp [Zg];done)|omega))) (fc (x:=.b d) (lb (by cases d<;>simp_all)) fl))))))))))
  rintro F h ⟨w,rfl,rfl⟩
  exact az (Z0 1 (ZE k (Z0 1 (ie (ZG ⟨k+1,(if (x1=y)/\(¬(d=true)) then acc else (acc++[x1])),(((x1==y)&&(!d))||d),w,ob,(by split<;>(try simp)<;>omega),(OH Z2 Zo),rfl,rfl,rfl⟩ (wk [0] (fw (ZI k fl))))))))
 exact ax 0 (ar (Z0 2 (ie (Z9 (r2 [0] [ZO acc v] ⟨v,rfl,rfl⟩ (Zf.slh _ (Yg Z7 (OG om Zo))))))))
theorem Z27 (b:Z4) (x:Int) (fs:LI) (q:Nat) (ha:∀s∈b.steps,YG s.op=true->∃a,s.args=[a]) (hf:fs.length<=3:=by exact ob) (hq:q<=1000000000:=by exact ob) (hz:b.sz<=900000000:=by exact ob):Zi 208 [ZC b,.i x,Z5 fs,.i q] [] (Ym (ZC (Qr b x fs q))):=by
 have hbz:=WQ b
 have hrl:=Db b.steps
 have hal:=DU (b.steps.take (Xh b.steps))
 rw [W8] at hal
 have her:=List.length_erase_le (a:=x) (l:=XO 15 (b.steps.take (Xh b.steps)))
 have har:∀op:Int,YG op=true->∀s∈b.steps.take (Xh b.steps),s.op=op->∃a,s.args=[a]:=fun op ho s hs e=>ha s (Tl hs) (by rw [e];exact ho)
 refine ZB 88 Tryz.func208 (ar (iA (YE b) fun b1=>iA [nl,.i 0] fun b2=>ie (ar (Z6 1 [1] (Zr [] (Z2e b) (Z0 1 (ie (ar (Z6 2 [1] (ic [] (LJ b (Xh b.steps) 14 (ha:=(har _ rfl))) ?_))))))))))
 rintro _ _ ⟨v1,rfl,rfl⟩
 refine Z0 1 (ie (ar (Z6 2 [2] (ic [] (LJ b (Xh b.steps) 15 (ha:=(har _ rfl))) ?_))))
 rintro _ _ ⟨v2,rfl,rfl⟩
 refine Z0 1 (ie (aq (ar (ZA 2 [(22,Z5 (XO 15 (b.steps.take (Xh b.steps))))] (Zr [] (Vm (XO 15 (b.steps.take (Xh b.steps))) x) (Xr [1,2,3,4,8,9,10,11] [(30,.b ((!(decide (x∈(XO 15 (b.steps.take (Xh b.steps))))))||((fs.length:Int)==0)))] (fun gz=>gz) ?_ ?_))))))
 ·refine Z0 2 (ib (b:=(!(decide (x∈(XO 15 (b.steps.take (Xh b.steps))))))) 26 (fun Zb=>?_) (fun Zb=>?_))
  ·exact Z0 4 (ie (ZP 4 (ZJ true Zb fl)))
  exact Z0 1 (iw (Y2 fs) (Z0 2 (ie (ZP 4 (ZJ ((fs.length:Int)==0) Zb fl)))))
 refine ac ((!(decide (x∈(XO 15 (b.steps.take (Xh b.steps))))))||((fs.length:Int)==0)) (p:=(¬(x∈(XO 15 (b.steps.take (Xh b.steps)))))∨((fs.length:Int)=0)) (X3 (YR dq) Zz) (fun Za=>?_) (fun Za=>?_)
 ·exact ar (Z6 1 [3] (Zy 2 b2 (YE b) (ie (Z9 (r3 [] [ZC b] [0] [(b2,b2)] ⟨rfl,rfl⟩ (Zf.agg (.cons (Zf.sl _ (Yg Zk (MX (fun z=>Za.elim (fun e=>e z.1) (fun e=>z.2 om))).symm)) (.cons li .nil))))))))
 refine ak (ar (ZA 2 [(32,Z5 (XO 15 (b.steps.take (Xh b.steps))))] (ic [] (LY (XO 15 (b.steps.take (Xh b.steps))) x) ?_)))
 rintro _ _ ⟨v3,rfl,rfl⟩
 refine Z0 1 (ie (aq (ar (Z0 1 (ie (ab 0 (ZX (fun fz gz m F h=>∃(k:Nat) (D:LI) (R:LI) (v:Value),(k<=fs.length)/\(D.length<=b.steps.length)/\(R.length<=b.steps.length+k)/\(Vw (fs.drop k) (q+k) D R=Kq b.steps x fs q)/\F=sF [1,2,3,4,8,9] fz [(10,Z5 D),(11,ZO R v),(12,.i k)]/\h=[Ze gz 3,Ze gz 4,.tail v 1]/\m=fs.length-k) _ _ _ ⟨0,(XO 14 (b.steps.take (Xh b.steps))),((XO 15 (b.steps.take (Xh b.steps))).erase x),v3,ob,om,om,(by simp [Kq]),rfl,rfl,rfl⟩ (wk [3,3,0] (fc (x:=ZO (XO 14 (b.steps.take (Xh b.steps))) v1) (Zf.forget _ _) (fr (Y7 fl)))) ?_)))))))
 rintro m F h ⟨k,D,R,v,Y8,Zm,Zo,Yq,rfl,rfl,rfl⟩
 refine aq (ar (Z0 2 (iw (Y2 fs) (Z0 1 (ie (ZH ((k:Int)<(fs.length:Int)) (fun Zg=>?_) (fun Zg=>?_)))))))
 ·refine ak (aq (ab 1 (ar (Z0 2 ?_))))
  obtain ⟨x1,Z2⟩:=Zp fs k om
  refine Zn (Zh none (k:Int) 1 (ZQ Z2)) (Xr [1,2,3,4,8,9,10,11,12] [(52,.b ((x1 != 0)&&(decide (((q+k:Nat):Int)∈D))))] (fun gz=>gz) ?_ ?_)
  ·refine Z0 3 (ib (b:=(x1 != 0)) 46 (fun ZM=>?_) (fun ZM=>?_))
   ·exact Z0 3 (ia (((q+k:Nat):Int)) (((q:Int))+((k:Int))) (Zr [] (Vm D ((q+k:Nat):Int)) (Z0 1 (ie (ZP 3 (ZJ (decide (((q+k:Nat):Int)∈D)) ZM fl))))))
   exact Z0 6 (ie (ZP 3 (ZJ false ZM fl)))
  refine KS (fun fz gz F h=>∃(D2:LI) (R2:LI) (w:Value),(Vw (fs.drop (k+1)) (q+((k+1:Nat):Int)) D2 R2=Kq b.steps x fs q)/\(D2.length<=b.steps.length)/\(R2.length<=b.steps.length+(k+1))/\F=sF [1,2,3,4,8,9,12] fz [(10,Z5 D2),(11,ZO R2 w)]/\h=[Ze gz 0,Ze gz 1,.tail w 1]) (fun _ _=>rfl) ?_ ?_
  ·refine ac ((x1 != 0)&&(decide (((q+k:Nat):Int)∈D))) (p:=(x1≠0)/\(((q+k:Nat):Int)∈D)) (Xb X4 dq) (fun ZK=>?_) (fun ZK=>?_)
   ·refine az (Z0 3 (ia (((q+k:Nat):Int)) (((q:Int))+((k:Int))) (ic [] (LY D ((q+k:Nat):Int)) ?_)))
    rintro _ _ ⟨v4,rfl,rfl⟩
    exact Z0 1 (ie (ZF ⟨(D.erase ((q+k:Nat):Int)),R,v,(Z05 Z2 ZK.1 ZK.2 Yq),(Wt List.length_erase_le Zm),ob,rfl,rfl⟩ (wk [1,1,1] fl)))
   refine ar (Z0 2 (Zn (Zh none (k:Int) 1 (ZQ Z2)) (Z0 2 (ie (ac (x1 != 0) X4 (fun Yi=>?_) (fun Yi=>?_))))))
   ·exact az (Z0 3 (ia (((q+k:Nat):Int)) (((q:Int))+((k:Int))) (iL (Z7 [((q+k:Nat):Int)]) 1 1 fun v5=>ZA 0 [(67,Z5 [((q+k:Nat):Int)])] (ip 3 (Z7 (R++[((q+k:Nat):Int)])) (Z7 R) (Z7 [((q+k:Nat):Int)]) v none 1 (Yl _) (Yl _) (XD _) (by simp<;>omega) (by simp [XA,Z7]) fun v6=>Z0 1 (ie (ZF ⟨D,(R++[((q+k:Nat):Int)]),v6,(Z06 Z2 Yi (fun z=>ZK ⟨Yi,z⟩) Yq),ob,(by simp;omega),rfl,rfl⟩ (wk [2,2,0] fl)))))))
   exact ak (ZF ⟨D,R,v,(Z07 Z2 Yi Yq),ob,ob,rfl,rfl⟩ (ZP 3 fl))
  rintro F h ⟨D2,R2,w,Bq,Br,RQ,rfl,rfl⟩
  exact az (Z0 1 (ZE k (Z0 1 (ie (ZG ⟨k+1,D2,R2,w,ob,ob,ob,ob,rfl,rfl,rfl⟩ (ZP 3 (fw (ZI k fl))))))))
 refine ax 0 (ar (Z0 1 (ic [] (TB 14 D) ?_)))
 rintro _ _ ⟨v7,rfl,rfl⟩
 refine Z0 1 (Zr [] (QP 16 x) (iL [Yk (Zl 16 x)] 1 5 fun v8=>ZA 0 [(73,.sl [Yk (Zl 16 x)] none)] (ip 1 (Zk ((D.map (Zl 14))++[Zl 16 x])) (Zk (D.map (Zl 14))) [Yk (Zl 16 x)] v7 none 5 (YP _) (UQ rfl) rfl (by simp<;>omega) (by simp [W0,Wx]) fun v9=>Z0 1 (ie (ar (ZA 2 [(76,Z5 R)] (ic [] (TB 15 R) ?_)))))))
 rintro _ _ ⟨v10,rfl,rfl⟩
 refine ZA 0 [(77,W7 (R.map (Zl 15)))] (ip 1 (Zk (((D.map (Zl 14))++[Zl 16 x])++(R.map (Zl 15)))) (Zk ((D.map (Zl 14))++[Zl 16 x])) (Zk (R.map (Zl 15))) v9 none 5 (YP _) (YP _) (WL _) (by simp<;>omega) (by simp [W0,Zk]) fun v11=>Z0 1 (ie (aD 10 (ZD 6 10 [0,1,2,3] [4] (dx 4 (Kw (es:=Zk b.steps) (hv:=none) (l:=(((Xh b.steps):Nat):Int)) (m:=(((Zk b.steps).length:Nat):Int)) (sz:=5) (es':=Zk (b.steps.drop (Xh b.steps))) kr om (by simp<;>omega) (by simp<;>omega) (YP _) (by first|(simp only [U0,V9,TT,TS];done)|(simp only [U0,V9,TT,TS];rfl)|(simp [TT,TS];done))) (ZD 3 5 [6,7] [4] (Z8 5 (dp 5 0 [1] [b1] (Zk ((((D.map (Zl 14))++[Zl 16 x])++(R.map (Zl 15)))++(b.steps.drop (Xh b.steps)))) (Zk (((D.map (Zl 14))++[Zl 16 x])++(R.map (Zl 15)))) (Zk (b.steps.drop (Xh b.steps))) v11 none 5 (YP _) (YP _) (WL _) (by simp<;>omega) (by simp [W0,Zk]) fun v12=>Zj 1 2 [8] (Z8 9 (Yo 9 3 [] [] b2 [Yx ((((D.map (Zl 14))++[Zl 16 x])++(R.map (Zl 15)))++(b.steps.drop (Xh b.steps))) v12,.i b.result] (de ?_)))))))))))
 have hE:=MZ (AS.1 fun z=>Za (.inl z)) (fun z=>Za (.inr om)) (Z04 om Yq)
 exact Z9 (r3 [] [.agg [Yx ((((D.map (Zl 14))++[Zl 16 x])++(R.map (Zl 15)))++(b.steps.drop (Xh b.steps))) v12,.i b.result]] [0] [(b2,b2)] ⟨rfl,rfl⟩ (Zf.agg (.cons (Zf.sl _ (Yg Zk hE)) (.cons li .nil))))
theorem Z2i (n:Zu) (b:Z4) (mm:Nat) (hn:X2 n) (hw:wB n.decls b) (hb:mm+9*b.sz<=900000000) (ih:∀(b2:Z4) (m2:Nat),(wB n.decls b2)->(m2+9*b2.sz<=900000000)->(b2.sz<b.sz)->Zi 164 [Yc n,ZC b2,.i m2] [] (Ym (ZC (We n.decls m2 b2)))):Zi 164 [Yc n,ZC b,.i mm] [] (Ym (ZC (We n.decls mm b))):=by
 have Xl:=hn.decls
 have hbz:=WQ b
 have Zq:=(Q5 b).1 hw
 refine ZB 107 Tryz.func164 (ar (iA (YC n) fun b1=>iA (YE b) fun b2=>iA [nl,.i 0] fun b3=>ie (ar (iL (Zk []) 0 5 fun v1=>Z6 3 [2] (iA [nl,.i 0] fun b4=>?_)))))
 refine Zy 0 b4 [Yx [] v1,.i b.result] (ie (aq (ar (Z0 1 (ie (ab 0 (ZX (fun fz gz m F h=>∃(k:Nat) (q:Nat) (xs:List Z3) (v:Value),(k<=b.steps.length)/\(q<=mm+k)/\(xs.length=k)/\(xs++VM n.decls q (b.steps.drop k)=VM n.decls mm b.steps)/\F=sF [3,4,6,7] fz [(2,.i q),(8,.i k)]/\h=[.obj b4 [Yx xs v,.i b.result],Ze gz 2,Ze gz 3,Ze gz 4,.tail v 5]/\m=b.steps.length-k) _ _ _ ⟨0,mm,[],v1,ob,ob,ob,rfl,rfl,rfl,rfl⟩ (wk [0,1,1,1,0] (fr (Y7 fl))) ?_)))))))
 rintro m F h ⟨k,q,xs,v,Y8,Zm,Zo,Yq,rfl,rfl,rfl⟩
 refine aq (ar (Z6 3 [2] (iw (W1 b.steps) (Z0 1 (ie (ZH ((k:Int)<(b.steps.length:Int)) (fun Za=>?_) (fun Za=>?_)))))))
 ·refine ak (aq (ab 1 (ar (Z6 3 [2] ?_))))
  obtain ⟨x1,Z2⟩:=Zp b.steps k om
  have YW:=AN Z2
  have hws:=Mv hw Z2
  have hkz:=U8 x1
  have haz:=Tp x1
  have hdf:=Z4c hws
  refine Zn (Zh none (k:Int) 5 (XG Z2)) (Z0 1 (iA [.i 0,.i 0,.i 0,nl,nl] fun b5=>Zy 0 b5 (X6 x1) (ie (ar (iL (Yh []) 0 2 fun v2=>Z0 1 (ie (ar (Z6 4 [5,1] (ic [] (QO n.decls x1.num) ?_)))))))))
  rintro _ _ ⟨v3,rfl,rfl⟩
  refine Z0 1 (ie (aq (ar (Z0 1 (ie (ab 2 (ZX (fun fz gz m F h=>∃(j:Nat) (u:Value) (ks:List Z4),(j<=x1.kids.length)/\(ks.length=j)/\(ks++Up n.decls q x1.op x1.num x1.args (x1.kids.drop j) j=Up n.decls q x1.op x1.num x1.args x1.kids 0)/\F=sF [2,3,4,6,7,8,9,11] fz [(10,VK ks u),(12,.i j)]/\h=[Ze gz 2,Ze gz 3,Ze gz 4,Ze gz 5,Ze gz 6,.tail u 2,Ze gz 7,Ze gz 0]/\m=x1.kids.length-j) _ _ _ ⟨0,v2,[],ob,ob,(by simp),rfl,rfl,rfl⟩ (wk [2,2,2,2,2,1,1,0] (fr (Y7 fl))) ?_)))))))
  rintro m F h ⟨j,u,ks,U3,Ww,Xc,rfl,rfl,rfl⟩
  refine aq (ar (Z6 3 [0] (iw (Vh x1.kids) (Z0 1 (ie (ZH ((j:Int)<(x1.kids.length:Int)) (fun Zg=>?_) (fun Zg=>?_)))))))
  ·refine ak (aq (ab 3 (ar (Z6 3 [0] (ie (ac (x1.op==8) Zz (fun ZK=>?_) (fun ZK=>?_)))))))
   ·refine aD 8 (ZD 4 8 [0,1,2,3] [4] ?_)
    obtain ⟨x2,Zt⟩:=Zp (ZW n.decls x1.num) j (by have h:=(BT hws (by assumption)).2;omega)
    have hfk:Vu n.decls x1.num j=ZY n.decls x2:=H8 (by rw [Qo,Zt];rfl)
    have hcf:=Vr Xl x2
    refine dx 4 (Zh (some v3) (j:Int) 1 (ZQ Zt)) (Zj 2 3 [5] (Z8 6 (Yf 6 [] [] [] (TA n.decls x2) (Zj 0 1 [7] (de (aE 22 (ZD 17 22 [0,1,2,3,4] [4,0] ?_)))))))
    obtain ⟨x3,YQ⟩:=Zp x1.kids j om
    have hkb:=YQ
    have hks:=VW YQ
    have hwk:=FZ hws YQ
    have hpk:=Z4.pz_le x3
    refine dx 5 (Zh none (j:Int) 2 (Vs YQ)) (Zj 13 16 [6,7,8] (dn 9 (.i (((ZY n.decls x2).length:Nat):Int)) (.i (((Z7 (ZY n.decls x2)).length:Nat):Int)) (li (by rw [Y2])) (da 10 (((q+((ZY n.decls x2).length):Nat):Int)) (((q:Int))+((((ZY n.decls x2).length:Nat):Int))) (ZD 9 11 [12,13] [0] ?_))))
    obtain ⟨x4,T9⟩:=Zp x1.args 0 (by obtain ⟨⟨a,ha2,_⟩,_⟩:=BT hws (by assumption);rw [ha2];simp)
    have hg1:=Kf T9
    exact dx 14 (Zh none 0 1 (ZQ T9)) (Zj 5 8 [15,16,17] (Z8 11 (Yf 11 [] [0] [b5] (ih x3 (q+((ZY n.decls x2).length)) hwk ob ob) (Z8 18 (Yf 18 [] [] [] (Z27 (We n.decls (q+((ZY n.decls x2).length)) x3) x4 (ZY n.decls x2) q (ha:=(by rw [Dj];exact Z1r ((Q5 _).1 hwk))) (hz:=(Wt (Dk Xl _ hwk) om))) (Z8 19 (dL 19 [] [] [ZC (Qr (We n.decls (q+((ZY n.decls x2).length)) x3) x4 (ZY n.decls x2) q)] 1 2 fun v4=>Y9 2 2 [] [(72,.sl [ZC (Qr (We n.decls (q+((ZY n.decls x2).length)) x3) x4 (ZY n.decls x2) q)] none)] (Z8 20 (dp 20 6 [] [] (Yh (ks++[Qr (We n.decls (q+((ZY n.decls x2).length)) x3) x4 (ZY n.decls x2) q])) (Yh ks) [ZC (Qr (We n.decls (q+((ZY n.decls x2).length)) x3) x4 (ZY n.decls x2) q)] u none 2 (Ue _) (UQ rfl) rfl (by simp<;>omega) (by simp [K9,VD]) fun v5=>Zj 0 1 [21] (de (az (Z0 1 (ZE j (Z0 1 (ie (ZG ⟨j+1,v5,(ks++[Qr (We n.decls (q+((ZY n.decls x2).length)) x3) x4 (ZY n.decls x2) q]),ob,(by simp;omega),(by have h:=LA hkb Xc;rw [Dl,Zw (by assumption),hfk,hg1] at h;exact h),rfl,rfl,rfl⟩ (wk [2,2,2,2,2,0,1,1] (fr (ZI j fl)))))))))))))))))))
   refine aE 12 (ZD 7 12 [0,1,2,3,4] [4,0] ?_)
   obtain ⟨x5,UC⟩:=Zp x1.kids j om
   have hkb:=UC
   have hks:=VW UC
   have hwk:=FZ hws UC
   have hpk:=Z4.pz_le x5
   exact dx 5 (Zh none (j:Int) 2 (Vs UC)) (Zj 4 6 [6,7] (Z8 8 (Yf 8 [] [] [] (ih x5 q hwk ob ob) (Z8 9 (dL 9 [] [] [ZC (We n.decls q x5)] 1 2 fun v6=>Y9 2 2 [] [(83,.sl [ZC (We n.decls q x5)] none)] (Z8 10 (dp 10 6 [] [] (Yh (ks++[We n.decls q x5])) (Yh ks) [ZC (We n.decls q x5)] u none 2 (Ue _) (UQ rfl) rfl (by simp<;>omega) (by simp [K9,VD]) fun v7=>Zj 0 1 [11] (de (az (Z0 1 (ZE j (Z0 1 (ie (ZG ⟨j+1,v7,(ks++[We n.decls q x5]),ob,(by simp;omega),(by have h:=LA hkb Xc;rw [Dl,Zs (by assumption)] at h;exact h),rfl,rfl,rfl⟩ (wk [2,2,2,2,2,0,1,1] (fr (ZI j fl)))))))))))))))))
  have hK:=Z1p om Xc
  refine ax 2 (aD 17 (ZD 6 17 [0,1,2,3,4,5,6,7,8,9,11] [1,0,0,0,0] (Z8 10 (dc 10 [] [0,0,0,1] [b5,b5,b5,b4] (V7 x1.args) ?_))))
  rintro _ _ ⟨v8,rfl,rfl⟩
  refine Y9 4 5 [12] [(97,.agg [.i x1.op,.i x1.num,.i x1.into,Z5 x1.args,Xq ks])] (Z8 13 (dL 13 [1] [b4] [Yk (Z3.mk x1.op x1.num x1.into x1.args ks)] 1 5 fun v9=>Y9 3 3 [] [(98,.sl [Yk (Z3.mk x1.op x1.num x1.into x1.args ks)] none)] (Z8 14 (dp 14 8 [] [] (Zk (xs++[Z3.mk x1.op x1.num x1.into x1.args ks])) (Zk xs) [Yk (Z3.mk x1.op x1.num x1.into x1.args ks)] v none 5 (YP _) (UQ rfl) rfl (by simp<;>omega) (by simp [W0,Wx]) fun v10=>?_))))
  refine Zj 1 2 [15] (Z8 16 (Yo 16 4 [] [] b4 [Yx (xs++[Z3.mk x1.op x1.num x1.into x1.args ks]) v10,.i b.result] (de (ar (Z6 2 [4] (Zr [] (Q2 x1.op) (ie (KS (fun fz gz F h=>F=sF [3,4,6,7,8] fz [(2,.i (((if YG x1.op=true then q else q+1):Nat):Int))]/\h=[Ze gz 0,Ze gz 5,Ze gz 6,Ze gz 7,Ze gz 1]) (fun _ _=>rfl) ?_ ?_))))))))
  ·refine ac (Xp x1.op) Iff.rfl (fun Yi=>?_) (fun Yi=>?_)
   ·exact az (Z0 1 (ZE q (Z0 1 (ie (ZF ⟨rfl,rfl⟩ (wk [0,4,4,4,0] (fc (x:=.i (q+1:Nat)) (li (by rw [Zs (fun z=>by rw [hdf,z] at Yi;cases Yi)])) fl)))))))
   exact ak (ZF ⟨rfl,rfl⟩ (wk [0,4,4,4,0] (fc (x:=.i q) (li (by rw [Zw (G4 fun z=>Yi (by rw [hdf,BU.2 z];rfl))])) fl)))
  rintro F h ⟨rfl,rfl⟩
  exact az (Z0 1 (ZE k (Z0 1 (ie (ZG ⟨k+1,(if YG x1.op=true then q else q+1),(xs++[Z3.mk x1.op x1.num x1.into x1.args ks]),v10,ob,(by split<;>omega),(by simp;omega),(by have h:=Z1t Z2 Yq;rw [<-hK] at h;exact h),rfl,rfl,rfl⟩ (ZP 5 (fr (ZI k fl))))))))
 exact ax 0 (ar (Z6 1 [0] (Zy 1 b3 [Yx xs v,.i b.result] (ie (Z9 (r3 [] [.agg [Yx xs v,.i b.result]] [0] [(b3,b3)] ⟨rfl,rfl⟩ (Zf.agg (.cons (Zf.sl _ (Yg Zk (by rw [Dj];exact Z1s om Yq))) (.cons (li (by rw [Dj];rfl)) .nil)))))))))
theorem Z2g (n:Zu) (hn:X2 n) (k:Nat):∀(b2:Z4) (m2:Nat),(wB n.decls b2)->(m2+9*b2.sz<=900000000)->(b2.sz<k)->Zi 164 [Yc n,ZC b2,.i m2] [] (Ym (ZC (We n.decls m2 b2))):=by
 induction k with
 | zero=>intro b mm _ _ h;omega
 | succ k ih=>intro b mm h1 h2 h3;exact Z2i n b mm hn h1 h2 fun b2 m2 k1 k2 k3=>ih b2 m2 k1 k2 om
theorem Z2h (n:Zu) (b:Z4) (mm:Nat) (hn:X2 n:=by exact ob) (hw:wB n.decls b:=by exact ob) (hb:mm+9*b.sz<=900000000:=by exact ob):Zi 164 [Yc n,ZC b,.i mm] [] (Ym (ZC (We n.decls mm b))):=Z2g n hn (b.sz+1) b mm hw hb om
theorem FD (b:Z4) (hz:b.sz<=1000000000:=by exact ob):Zi 243 [ZC b] [] (Ym (.i (((Ys b.steps):Nat):Int))):=by
 have hbz:=WQ b
 refine ZB 21 Tryz.func243 (ar (iA (YE b) fun b1=>?_))
 refine Z0 1 (ie (ar (Z0 1 (ie (aq (ab 0 (ZX (fun fz gz m F h=>∃(k:Nat),(k<=b.steps.length)/\(k+Ys (b.steps.drop k)=Ys b.steps)/\F=sF [1] fz [(3,.i k)]/\h=gz/\m=b.steps.length-k) _ _ _ ⟨0,ob,(by simp),rfl,rfl,rfl⟩ (wk [0] (Y7 fl)) ?_)))))))
 rintro m F h ⟨k,Y8,Zm,rfl,rfl,rfl⟩
 refine aq (ar (Z6 3 [0] (iw (W1 b.steps) (Z0 2 (ib (b:=(decide ((k:Int)<(b.steps.length:Int)))) 9 (fun Zb=>?_) (fun Zb=>?_))))))
 ·have ZT:(k:Int)<(b.steps.length:Int):=(dq).1 Zb
  refine Z6 3 [0] ?_
  obtain ⟨x1,Z2⟩:=Zp b.steps k om
  refine Zn (Zh none (k:Int) 5 (XG Z2)) (Z0 2 (Zr [] (LP x1.op) (Z0 1 (ie (ac (YG x1.op) Iff.rfl (fun Za=>?_) (fun Za=>?_))))))
  ·exact ak (ab 1 (az (Z0 1 (ZE k (Z0 1 (ie (ZG ⟨k+1,ob,(Sf Z2 Za Zm),rfl,rfl,rfl⟩ (wk [0] (ZI k fl)))))))))
  exact ax 0 (ar (Z0 2 (ie (Z9 (ZZ (.i k) (li (by have:=Sh Z2 Za Zm;omega)))))))
 have Y6:¬((k:Int)<(b.steps.length:Int)):=YH dq Zb
 exact Z0 8 (ie (Wi (ax 0 (ar (Z0 2 (ie (Z9 (ZZ (.i k) (li (by have:=Se om Zm;omega))))))))))
theorem LT (b:Z4) (mm:Nat) (op:Int) (x:Int) (hm:mm<=b.steps.length:=by exact ob) (ha:∀s∈b.steps.take mm,s.op=op->∃a,s.args=[a]) (hz:b.sz<=1000000000:=by exact ob):Zi 244 [ZC b,.i mm,.i op,.i x] [] (Ym (.i (Xw op x (b.steps.take mm) 0))):=by
 have hbz:=WQ b
 refine ZB 36 Tryz.func244 (ar (iA (YE b) fun b1=>?_))
 refine Z0 1 (ie (aq (ar (Z0 1 (ie (ab 0 (ZX (fun fz gz m F h=>∃(k:Nat),(k<=mm)/\(Xw op x ((b.steps.take mm).drop k) k=Xw op x (b.steps.take mm) 0)/\F=sF [1,2,3,4] fz [(9,.i k)]/\h=gz/\m=mm-k) _ _ _ ⟨0,ob,(by simp),rfl,rfl,rfl⟩ (wk [0] (Y7 fl)) ?_)))))))
 rintro m F h ⟨k,Y8,Zm,rfl,rfl,rfl⟩
 refine aq (ar (Z0 3 (ie (ZH ((k:Int)<(mm:Int)) (fun Za=>?_) (fun Za=>?_)))))
 ·refine ak (aq (ab 1 (ar (Z6 3 [0] ?_))))
  obtain ⟨x1,Z2⟩:=Zp b.steps k om
  have hxt:(b.steps.take mm)[k]? = some x1:=by rw [List.getElem?_take_of_lt om];exact Z2
  have hxm:=ZU hxt
  refine Zn (Zh none (k:Int) 5 (XG Z2)) (Z0 5 (ib (b:=(x1.op==op)) 23 (fun Zb=>?_) (fun Zb=>?_)))
  ·have ZT:x1.op=op:=(Zz).1 Zb
   refine Z6 3 [0] (Zn (Zh none (k:Int) 5 (XG Z2)) (Z0 2 ?_))
   obtain ⟨x2,Zt⟩:=Zp x1.args 0 (by obtain ⟨a,ha2⟩:=ha x1 hxm (by assumption);rw [ha2];simp)
   have hg0:=Kf Zt
   refine Zn (Zh none 0 1 (ZQ Zt)) (Z0 4 (ie (ac (x2==x) Zz (fun Zg=>?_) (fun Zg=>?_))))
   ·exact ar (Z0 2 (ie (Z9 (ZZ (.i k) (li (by have h:=Ng hxt ⟨by assumption,by rw [hg0];assumption⟩ Zm;omega))))))
   exact ak (az (Z0 1 (ZE k (Z0 1 (ie (ZG ⟨k+1,ob,(Gl hxt (fun z=>Zg (by rw [<-hg0];exact z.2)) Zm),rfl,rfl,rfl⟩ (wk [0] (ZI k fl))))))))
  have Y6:¬(x1.op=op):=YH Zz Zb
  exact Z0 11 (ie (Wi (ak (az (Z0 1 (ZE k (Z0 1 (ie (ZG ⟨k+1,ob,(Gl hxt (fun z=>absurd z.1 (by assumption)) Zm),rfl,rfl,rfl⟩ (wk [0] (ZI k fl)))))))))))
 exact ax 0 (ar (Z0 1 (ie (Z9 (ZZ (.i (-1)) (li (by have h:=Nf (by rw [W8];omega) Zm;omega)))))))
theorem Z20 (b:Z4) (frm0:Nat) (many:Nat) (hm:frm0<=b.steps.length:=by exact ob) (hz:b.sz<=1000000000:=by exact ob):Zi 264 [ZC b,.i frm0,.i many] [] (Ym (.i (XL many (b.steps.drop frm0) frm0))):=by
 have hbz:=WQ b
 refine ZB 44 Tryz.func264 (ar (iA (YE b) fun b1=>?_))
 refine Z0 1 (ie (aq (ar (Z0 2 (ie (ab 0 (ZX (fun fz gz m F h=>∃(k:Nat),(k<=b.steps.length)/\(XL many (b.steps.drop k) k=XL many (b.steps.drop frm0) frm0)/\F=sF [2,3] fz [(7,.i k)]/\h=gz/\m=b.steps.length-k) _ _ _ ⟨frm0,ob,rfl,rfl,rfl,rfl⟩ (wk [0] fl) ?_)))))))
 rintro m F h ⟨k,Y8,Zm,rfl,rfl,rfl⟩
 refine aq (ar (Z6 3 [0] (iw (W1 b.steps) (Z0 1 (ie (ZH ((k:Int)<(b.steps.length:Int)) (fun Za=>?_) (fun Za=>?_)))))))
 ·refine ak (aq (ab 1 (ar (Z6 3 [0] ?_))))
  obtain ⟨x1,Z2⟩:=Zp b.steps k om
  refine Zn (Zh none (k:Int) 5 (XG Z2)) (WO 16 [2,3,7] [(31,.b ((x1.op==6)&&(x1.into==0)))] (fun gz=>gz) ?_ (fun hj1=>?_))
  ·refine Xr [2,3,7] [(42,.b (((x1.op==6)&&(x1.into==0))&&((x1.args.length:Int)==(many:Int))))] (fun gz=>gz) ?_ ?_
   ·refine Z0 1 (ib (b:=((x1.op==6)&&(x1.into==0))) 32 (fun Zb=>?_) (fun Zb=>?_))
    ·exact Z6 3 [0] (Zn (Zh none (k:Int) 5 (XG Z2)) (Z0 2 (iw (Y2 x1.args) (Z0 3 (ie (wk [0] (ZJ ((x1.args.length:Int)==(many:Int)) Zb fl)))))))
    exact Z0 10 (ie (wk [0] (ZJ false Zb fl)))
   refine ac (((x1.op==6)&&(x1.into==0))&&((x1.args.length:Int)==(many:Int))) (p:=((x1.op=6)/\(x1.into=0))/\((x1.args.length:Int)=(many:Int))) (Xb (Xb Zz Zz) Zz) (fun Zg=>?_) (fun Zg=>?_)
   ·exact ar (Z0 2 (ie (Z9 (ZZ (.i k) (li (by have h:=NQ Z2 (show Ts many x1 from ⟨Zg.1,by omega⟩) Zm;omega))))))
   exact ak (az (Z0 1 (ZE k (Z0 1 (ie (ZG ⟨k+1,ob,(NP Z2 (fun z=>Zg ⟨z.1,by have:=z.2;omega⟩) Zm),rfl,rfl,rfl⟩ (wk [0] (ZI k fl))))))))
  refine Z0 4 (ib (b:=(x1.op==6)) 23 (fun ZM=>?_) (fun ZM=>?_))
  ·exact Z6 3 [0] (Zn (Zh none (k:Int) 5 (XG Z2)) (Z0 4 (Xe (wk [0] (ZJ (x1.into==0) ZM fl)) hj1)))
  exact Z0 8 (Xe (wk [0] (ZJ false ZM fl)) hj1)
 exact ax 0 (ar (Z0 1 (ie (Z9 (ZZ (.i (-1)) (li (by have h:=NO om Zm;omega)))))))
theorem NW (b:Z4) (hz:b.sz<=1000000000):Zi 86 [ZC b] [] (fun r h=>∃(v:Hd),r=.agg [.h v,.i b.result]/\h=[rK v 5 (Zc (Zk b.steps))]):=by
 have hbz:=WQ b
 refine ZB 28 Tryz.func86 (ar (iA (YE b) fun b1=>iA [nl,.i 0] fun b2=>ie (ar (CF 5 fun g1=>Z6 3 [2] (iA [nl,.i 0] fun b3=>?_)))))
 refine Zy 0 b3 [.ms g1 0 0 0,.i b.result] (ie (aq (ar (Z0 1 (ie (ab 0 (ZX (fun fz gz m F h=>∃(k:Nat) (v:Hd),(k<=b.steps.length)/\F=sF [1,2,3] fz [(4,.i k)]/\h=[.obj b3 [.h v,.i b.result],Ze gz 2,Ze gz 3,rK v 5 (Zc (Zk (b.steps.take k)))]/\m=b.steps.length-k) _ _ _ ⟨0,(⟨some ⟨g1,0,none⟩,0,0⟩:Hd),ob,rfl,rfl,rfl⟩ (wk [0,1,1,0] (Y7 fl) (e:=(rc (rc (rc (rr (ls:=[]) ob rz)))))) ?_)))))))
 rintro m F h ⟨k,v,Y8,rfl,rfl,rfl⟩
 refine aq (ar (Z6 3 [2] (iw (W1 b.steps) (Z0 1 (ie (ZH ((k:Int)<(b.steps.length:Int)) (fun Za=>?_) (fun Za=>?_)))))))
 ·refine ak (aq (ab 1 (aE 12 (ZD 7 12 [0,1,2,3,4] [0,2] ?_))))
  obtain ⟨x1,Z2⟩:=Zp b.steps k om
  have hss:=Q3 Z2
  exact dx 5 (Zh none (k:Int) 5 (XG Z2)) (Zj 5 6 [6] (Z8 7 (Yf 7 [] [0] [b3] (LN x1) (Z8 8 (dL 8 [0] [b3] [Yk x1] 1 5 fun v1=>Y9 3 3 [] [(24,.sl [Yk x1] none)] (Z8 9 (E5 9 4 k [] [] v 5 (Zc (Zk (b.steps.take k))) [Yk x1] none (by rw [T6,W8,WS om]) (UQ rfl) rfl (List.cons_ne_nil _ _) (by simp<;>omega) fun v2=>Zj 1 2 [10] (Z8 11 (Yo 11 2 [] [] b3 [.h v2,.i b.result] (de (az (Z0 1 (ZE k (Z0 1 (ie (ZG ⟨k+1,v2,ob,rfl,rfl,rfl⟩ (wk [0,2,2,0] (ZI k fl) (e:=(rc (rc (rc (rr (ls:=Zc (Zk (b.steps.take k))++Zc [Yk x1]) (He Z2) rz))))))))))))))))))))))
 exact ax 0 (ar (Z6 1 [0] (Zy 1 b2 [.h v,.i b.result] (ie (Z9 (r3 [3] [.agg [.h v,.i b.result]] [0] [(b2,b2)] ⟨v,rfl,rfl⟩ (lr _) (eq:=(rr (ls:=Zc (Zk (b.steps.take k))) (by rw [Vo om]) rz))))))))
theorem NV (b:Z4) (hz:b.sz<=1000000000:=by exact ob) (h0:0<b.steps.length:=by exact ob):Zi 86 [ZC b] [] (fun r h=>∃(g:Nat) (c:Nat),r=.agg [.ms g 0 b.steps.length c,.i b.result]/\h=[.row (.slice (some ⟨g,0,none⟩) b.steps.length c) 5 (Zc (Zk b.steps))]):=(NW b hz).form (T:=fun v=>.agg [.h v,.i b.result]) (m:=b.steps.length) (T6 _) om h0
theorem Z28 (ds:List Zd) (b:Z4) (x:Int) (many:Nat) (hw:wB ds b:=by exact ob) (hx:0<=x/\x<=900000000:=by exact ob) (hz:b.sz<=1000000000:=by exact ob):Zi 242 [ZC b,.i x,.i many] [] (Ym (ZC (V6 b x many))):=by
 have hbz:=WQ b
 have Zq:=(Q5 b).1 hw
 have hrl:=Bv b.steps
 refine ZB 57 Tryz.func242 (ar (iA (YE b) fun b1=>iA [nl,.i 0] fun b2=>ie (aD 6 (ZD 3 6 [0,1,3] [1,1] (Z8 2 (Yf 2 [] [1] [b1] (FD b) (Z8 4 (Yf 4 [] [] [] (LT b (Ys b.steps) 16 x (ha:=(fun s hs h16=>G7 (DG Zq s (Tl hs) (by rw [h16];rfl))))) (Zj 0 1 [5] (de (aD 6 (ZD 3 6 [0,1,3] [1,1] (Z8 2 (Yf 2 [] [1] [b1] (FD b) (Z8 4 (Yf 4 [] [] [] (Z20 b (Ys b.steps) many) (Zj 0 1 [5] (de (aq (ar (Xr [1,3,6,7,8] [(26,.b ((decide ((Xw 16 x (b.steps.take (Ys b.steps)) 0)<0))||(decide ((XL many (b.steps.drop (Ys b.steps)) (Ys b.steps))<0))))] (fun gz=>gz) ?_ ?_)))))))))))))))))))))
 ·refine Z0 3 (ib (b:=(decide ((Xw 16 x (b.steps.take (Ys b.steps)) 0)<0))) 23 (fun Zb=>?_) (fun Zb=>?_))
  ·exact Z0 3 (ie (wk [0,0] (ZJ true Zb fl)))
  exact Z0 3 (ie (wk [0,0] (ZJ (decide ((XL many (b.steps.drop (Ys b.steps)) (Ys b.steps))<0)) Zb fl)))
 refine ac ((decide ((Xw 16 x (b.steps.take (Ys b.steps)) 0)<0))||(decide ((XL many (b.steps.drop (Ys b.steps)) (Ys b.steps))<0))) (p:=((Xw 16 x (b.steps.take (Ys b.steps)) 0)<0)∨((XL many (b.steps.drop (Ys b.steps)) (Ys b.steps))<0)) (X3 dq dq) (fun Za=>?_) (fun Za=>?_)
 ·exact ar (Z6 1 [1] (Zy 0 b2 (YE b) (ie (Z9 (r3 [] [ZC b] [0] [(b2,b2)] ⟨rfl,rfl⟩ (Zf.agg (.cons (Zf.sl _ (Yg Zk (Z0j Za).symm)) (.cons li .nil))))))))
 obtain ⟨o1,o2,so,o3,o4⟩:=BD (xs:=b.steps) (x:=x) (fun z=>Za (.inl z))
 obtain ⟨p1,p2,sc,p3,p4,p5⟩:=KR (xs:=b.steps) (many:=many) (fun z=>Za (.inr z))
 rw [show Wq b.steps x=(Xw 16 x (b.steps.take (Ys b.steps)) 0) from rfl] at o1 o2
 rw [show XR b.steps many=(XL many (b.steps.drop (Ys b.steps)) (Ys b.steps)) from rfl] at p1 p2
 refine ak (ar (Z6 1 [1] (ic [] (NV b) ?_)))
 rintro _ _ ⟨g1,c1,rfl,rfl⟩
 exact iA [nl,.i 0] fun b3=>Zy 0 b3 [.ms g1 0 b.steps.length c1,.i b.result] (ie (aD 7 (ZD 3 7 [0,1,2,3] [0] (Z8 4 (Yf 4 [] [0] [b3] (QP 17 x) (dx 5 (XB g1 b.steps.length c1 ((Xw 16 x (b.steps.take (Ys b.steps)) 0).toNat) 5 (Xw 16 x (b.steps.take (Ys b.steps)) 0)) (Z8 6 (Jv 6 1 [] [] g1 b.steps.length c1 5 (((Xw 16 x (b.steps.take (Ys b.steps)) 0).toNat)*5) (X6 (Zl 17 x)) (Zc (Zk b.steps)) (Zc (Zk (b.steps.set (Xw 16 x (b.steps.take (Ys b.steps)) 0).toNat (Zl 17 x)))) (by have:(X6 (Zl 17 x)).length=5:=rfl;rw [T6];omega) (Ct o3) (de (ar (Z6 3 [1] (Zn (XB g1 b.steps.length c1 ((XL many (b.steps.drop (Ys b.steps)) (Ys b.steps)).toNat) 5 (XL many (b.steps.drop (Ys b.steps)) (Ys b.steps))) (V2 (Wn 0 g1 b.steps.length c1 5 (((XL many (b.steps.drop (Ys b.steps)) (Ys b.steps)).toNat)*5) (Zc (Zk (b.steps.set (Xw 16 x (b.steps.take (Ys b.steps)) 0).toNat (Zl 17 x)))) (X6 sc) 44 (Yk sc) (Ex (D7 Za p3))) (iA [.i 0,.i 0,.i 0,nl,nl] fun b4=>Zy 0 b4 (X6 sc) (ie (ar (Z6 8 [2,0,0] (ia ((1+x)) ((1)+(x)) (Z6 5 [0,0] (Zn (XB g1 b.steps.length c1 ((XL many (b.steps.drop (Ys b.steps)) (Ys b.steps)).toNat) 5 (XL many (b.steps.drop (Ys b.steps)) (Ys b.steps))) (Bo 1 g1 b.steps.length c1 5 (((XL many (b.steps.drop (Ys b.steps)) (Ys b.steps)).toNat)*5) [.i sc.op,.i sc.num,.i (1+x),Z5 sc.args,Xq sc.kids] (Zc (Zk (b.steps.set (Xw 16 x (b.steps.take (Ys b.steps)) 0).toNat (Zl 17 x)))) (Zc (Zk ((b.steps.set (Xw 16 x (b.steps.take (Ys b.steps)) 0).toNat (Zl 17 x)).set (XL many (b.steps.drop (Ys b.steps)) (Ys b.steps)).toNat (Ta (1+x) sc)))) (by rw [T6,Ua];simp only [Yw,YV];omega) (Ct (t:=Ta (1+x) sc) (D7 Za p3)) (Xg (VO 0 1 0 (.slice (some ⟨g1,0,none⟩) b.steps.length c1) 5 b3 (Zk ((b.steps.set (Xw 16 x (b.steps.take (Ys b.steps)) 0).toNat (Zl 17 x)).set (XL many (b.steps.drop (Ys b.steps)) (Ys b.steps)).toNat (Ta (1+x) sc))) [.ms g1 0 b.steps.length c1,.i b.result] (YP _) rfl) (ie (ar (Z6 1 [0] (Zy 3 b2 [Yx ((b.steps.set (Xw 16 x (b.steps.take (Ys b.steps)) 0).toNat (Zl 17 x)).set (XL many (b.steps.drop (Ys b.steps)) (Ys b.steps)).toNat (Ta (1+x) sc)) (.slice (some ⟨g1,0,none⟩) b.steps.length c1),.i b.result] (ie (Z9 (r3 [] [.agg [Yx ((b.steps.set (Xw 16 x (b.steps.take (Ys b.steps)) 0).toNat (Zl 17 x)).set (XL many (b.steps.drop (Ys b.steps)) (Ys b.steps)).toNat (Ta (1+x) sc)) (.slice (some ⟨g1,0,none⟩) b.steps.length c1),.i b.result]] [0] [(b2,b2)] ⟨rfl,rfl⟩ (Zf.agg (.cons (Zf.sl _ (Yg Zk (Z0k Za p5))) (.cons li .nil))))))))))))))))))))))))))))))))
theorem Z25 (xs:LI) (y:Int) (hl:xs.length<=1000000000:=by exact ob):Zi 118 [Z5 xs,.i y] [] (fun r h=>∃(ys:LI),r=Z5 ys/\h=[]/\(ys.length<=xs.length+1/\∀z,z∈ys↔z∈xs∨z=y)):=by
 refine ZB 49 Tryz.func118 (ar (Z0 1 (ie (ar (iL (Z7 []) 0 1 fun v1=>?_)))))
 refine Z0 1 (ie (ar (Z0 1 (ie (aq (ar (Z0 1 (ie (ab 0 (ZX (fun fz gz m F h=>∃(k:Nat) (acc:LI) (d:Bool) (v:Value),(k<=xs.length)/\(TI xs y k acc d)/\F=sF [0,1] fz [(5,ZO acc v),(6,.b d),(7,.i k)]/\h=[.tail v 1]/\m=xs.length-k) _ _ _ ⟨0,[],false,v1,ob,(TI.zero xs y),rfl,rfl,rfl⟩ (wk [0] (fw (Y7 fl))) ?_))))))))))
 rintro m F h ⟨k,acc,d,v,Y8,Zm,rfl,rfl,rfl⟩
 refine aq (ar (Z0 2 (iw (Y2 xs) (Z0 1 (ie (ZH ((k:Int)<(xs.length:Int)) (fun Za=>?_) (fun Za=>?_)))))))
 ·obtain ⟨x1,Z2⟩:=Zp xs k om
  have hil:acc.length<=k+1:=Wt Zm.len (by split<;>omega)
  refine ak (aq (ab 1 (aq (ar (Xr [0,1,5,6,7] [(24,.b ((!d)&&(decide (x1>=y))))] (fun gz=>gz) ?_ ?_)))))
  ·refine Z0 3 (ib (b:=(!d)) 17 (fun Zb=>?_) (fun Zb=>?_))
   ·exact Z0 2 (Zn (Zh none (k:Int) 1 (ZQ Z2)) (Z0 4 (ie (wk [0] (ZJ (decide (x1>=y)) Zb fl)))))
   exact Z0 7 (ie (wk [0] (ZJ false Zb fl)))
  refine Xo (fun fz gz F h=>∃(acc2:LI) (d2:Bool) (w:Value),((acc2=acc/\d2=d)∨(acc2=acc++[y]/\d2=true/\¬d=true)∨(acc2=acc/\d2=true/\x1=y))/\(acc2.length<=acc.length+1)/\F=sF [0,1,7] fz [(5,ZO acc2 w),(6,.b d2)]/\h=[.tail w 1]) ?_ ?_
  ·refine ac ((!d)&&(decide (x1>=y))) (p:=(¬(d=true))/\(x1>=y)) (Xb (YR Iff.rfl) dq) (fun Zg=>?_) (fun Zg=>?_)
   ·refine aq (ar (Z0 2 (Zn (Zh none (k:Int) 1 (ZQ Z2)) (Z0 3 (ie (Xo (fun fz gz F h=>∃(w3:Value),F=sF [0,1,7] fz [(5,ZO (if x1>y then (acc++[y]) else acc) w3)]/\h=[.tail w3 1]) ?_ ?_))))))
    ·refine ZH (x1>y) (fun ZK=>?_) (fun ZK=>?_)
     ·exact az (Z0 2 (iL (Z7 [y]) 1 1 fun v2=>ZA 0 [(33,Z5 [y])] (ip 1 (Z7 (acc++[y])) (Z7 acc) (Z7 [y]) v none 1 (Yl _) (Yl _) (XD _) (by simp<;>omega) (by simp [XA,Z7]) fun v3=>Z0 1 (ie (ZF ⟨v3,rfl,rfl⟩ (wk [0] (fc (x:=ZO (acc++[y]) v3) (Zf.slh _ (Yg Z7 (by first|rfl|(rw [Zw ZK])|(rw [Zs ZK])|(simp [ZK];done)|(rw [Xi];simp [ZK];done)|omega))) fl)))))))
     exact ak (ZF ⟨v,rfl,rfl⟩ (wk [0] (fc (x:=ZO acc v) (Zf.slh _ (Yg Z7 (by first|rfl|(rw [Zw ZK])|(rw [Zs ZK])|(simp [ZK];done)|(rw [Xi];simp [ZK];done)|omega))) fl)))
    rintro F h ⟨w3,rfl,rfl⟩
    exact az (Z0 1 (ie (ZF ⟨(if x1>y then (acc++[y]) else acc),true,w3,(if h:x1>y then (by rw [Zw h];exact .inr (.inl ⟨rfl,rfl,Zg.1⟩)) else (by rw [Zs h];exact .inr (.inr ⟨rfl,rfl,by have:=Zg.2;omega⟩))),(by split<;>simp),rfl,rfl⟩ (wk [0] fl))))
   exact ak (ZF ⟨acc,d,v,(.inl ⟨rfl,rfl⟩),ob,rfl,rfl⟩ (wk [0] fl))
  rintro F h ⟨acc2,d2,w,WP,Km,rfl,rfl⟩
  exact az (Z0 3 (Zn (Zh none (k:Int) 1 (ZQ Z2)) (Z0 1 (iL (Z7 [x1]) 1 1 fun v4=>ZA 0 [(40,Z5 [x1])] (ip 1 (Z7 (acc2++[x1])) (Z7 acc2) (Z7 [x1]) w none 1 (Yl _) (Yl _) (XD _) (by simp<;>omega) (by simp [XA,Z7]) fun v5=>Z0 1 (ie (az (Z0 1 (ZE k (Z0 1 (ie (ZG ⟨k+1,(acc2++[x1]),d2,v5,ob,(Zm.go Z2 WP),rfl,rfl,rfl⟩ (wk [0] (fw (ZI k fl)))))))))))))))
 have hil:acc.length<=k+1:=Wt Zm.len (by split<;>omega)
 refine ax 0 (aq (ar (Z0 2 (ie (Xo (fun fz gz F h=>∃(w4:Value),F=sF [] fz [(5,ZO (if d=true then acc else (acc++[y])) w4)]/\h=[.tail w4 1]) ?_ ?_)))))
 ·refine ac (!d) (p:=¬(d=true)) (YR Iff.rfl) (fun Yi=>?_) (fun Yi=>?_)
  ·exact az (Z0 2 (iL (Z7 [y]) 1 1 fun v6=>ZA 0 [(46,Z5 [y])] (ip 1 (Z7 (acc++[y])) (Z7 acc) (Z7 [y]) v none 1 (Yl _) (Yl _) (XD _) (by simp<;>omega) (by simp [XA,Z7]) fun v7=>Z0 1 (ie (ZF ⟨v7,rfl,rfl⟩ (wk [0] (fc (x:=ZO (acc++[y]) v7) (Zf.slh _ (Yg Z7 (by first|rfl|(rw [Zw Yi])|(rw [Zs Yi])|(simp [Yi];done)|(rw [Xi];simp [Yi];done)|omega))) fl)))))))
  exact ak (ZF ⟨v,rfl,rfl⟩ (wk [0] (fc (x:=ZO acc v) (Zf.slh _ (Yg Z7 (by first|rfl|(rw [Zw Yi])|(rw [Zs Yi])|(simp [Yi];done)|(rw [Xi];simp [Yi];done)|omega))) fl)))
 rintro F h ⟨w4,rfl,rfl⟩
 exact ar (Z0 2 (ie (Z9 (r2 [] [ZO (if d=true then acc else (acc++[y])) w4] ⟨(if d=true then acc else (acc++[y])),rfl,rfl,(if hd:d=true then (by rw [Zw hd];exact (Zm.fin om).1 hd) else (by rw [Zs hd];exact (Zm.fin om).2 hd))⟩ (Zf.forget _ _)))))
theorem Z2b (n:Zu) (s:Z3) (j:Nat) (kept:LI) (kd:Z4) (hn:X2 n) (hws:wS n.decls s) (hkd:s.kids[j]? = some kd) (hnk:Tc kd) (hK:kept.length+s.sz<=900000000) (ih:∀(b2:Z4) (K2:LI),(wB n.decls b2)->(J8 b2)->(K2.length+b2.sz<=900000000)->(b2.sz<s.sz)->Zi 165 [Yc n,ZC b2,Z5 K2] [] (Ym (ZC (XU n.decls K2 b2)))):Zi 209 [Yc n,Yk s,.i j,Z5 kept] [] (Ym (ZC (Um n.decls kept s.op s.num s.args j kd))):=by
 have Xl:=hn.decls
 have hks:=VW hkd
 have hwk:=FZ hws hkd
 have haz:=Tp s
 have hjl:=(Xj.1 hkd).1
 refine ZB 65 Tryz.func209 (ar (iA (YC n) fun b1=>iA (X6 s) fun b2=>iA [nl,.i 0] fun b3=>ie (aq (ar (Z6 3 [1] (ie (ac (s.op != 8) X4 (fun Za=>?_) (fun Za=>?_))))))))
 ·refine aD 9 (ZD 5 9 [0,1,2,3] [2,1] (dx 4 (Zh none (j:Int) 2 (Vs hkd)) (Zj 2 4 [5,6] (Z8 7 (Yf 7 [] [] [] (ih kd kept (by first|exact hwk|exact Km) (by first|exact JR hnk|exact ES) ob ob) (Z8 8 (Yo 8 0 [] [] b3 (YE (XU n.decls kept kd)) (de ?_))))))))
  have hE:=Le (ds:=n.decls) (kept:=kept) (op:=s.op) (num:=s.num) (args:=s.args) (j:=j) (kd:=kd) (fun z=>Za z.1)
  exact Z9 (r3 [] [ZC (XU n.decls kept kd)] [0] [(b3,b3)] ⟨rfl,rfl⟩ (Zf.agg (.cons (Zf.sl _ (Yg Zk (by rw [hE]))) (.cons (li (by rw [hE])) .nil))))
 refine ak (ar (Z6 2 [1] ?_))
 obtain ⟨x1,Z2⟩:=Zp s.args 0 (by obtain ⟨⟨a,ha2,_⟩,_⟩:=BT hws om;rw [ha2];simp)
 have hg1:=Kf Z2
 have hxb:0<=x1/\x1<=900000000:=by obtain ⟨⟨a,ha2,ha3⟩,_⟩:=BT hws om;rw [ha2] at hg1;have:a=x1:=hg1;omega
 refine Zn (Zh none 0 1 (ZQ Z2)) (Z0 2 (ie (ar (Z6 3 [1] (Zn (Zh none (j:Int) 2 (Vs hkd)) (Z0 1 (iA [nl,.i 0] fun b4=>?_)))))))
 refine Zy 0 b4 (YE kd) (ie (aq (ar (Z0 2 (Zr [] (Vm kept x1) (Z0 1 (ie (Xo (fun fz gz F h=>∃(B2:Z4) (K2:LI),(XU n.decls K2 B2=Um n.decls kept s.op s.num s.args j kd)/\(wB n.decls B2)/\(J8 B2)/\(B2.sz<=kd.sz)/\(K2.length<=kept.length+1)/\F=sF [4,8,10] fz [(3,Z5 K2)]/\h=[.obj b4 (YE B2),Ze gz 1,Ze gz 3]) ?_ ?_))))))))
 ·refine ac (!(decide (x1∈kept))) (p:=¬(x1∈kept)) (YR dq) (fun Zg=>?_) (fun Zg=>?_)
  ·refine aD 16 (ZD 7 16 [0,1,2,3,4,5,6,7,9] [0,3,3,2] (Z8 8 (dc 8 [] [3,0] [b1,b4] (QO n.decls s.num) ?_)))
   rintro _ _ ⟨v1,rfl,rfl⟩
   obtain ⟨x2,Zt⟩:=Zp (ZW n.decls s.num) j (by have h:=(BT hws om).2;omega)
   have hfl:(Vu n.decls s.num j).length=(ZY n.decls x2).length:=by rw [H8 (by rw [Qo,Zt];rfl)]
   have hcf:=Vr Xl x2
   refine dx 10 (Zh (some v1) (j:Int) 1 (ZQ Zt)) (Zj 4 5 [11] (Z8 12 (Yf 12 [] [0] [b4] (TA n.decls x2) (dn 13 (.i (((ZY n.decls x2).length:Nat):Int)) (.i (((Z7 (ZY n.decls x2)).length:Nat):Int)) (li (by rw [Y2])) (Z8 14 (Yf 14 [] [] [] (Z28 n.decls kd x1 ((ZY n.decls x2).length) (hw:=hwk) (hx:=hxb)) ?_))))))
   have hwr:=Z48 (x:=x1) (many:=(ZY n.decls x2).length) hwk
   have hsr:=Z0h (x:=x1) (many:=(ZY n.decls x2).length) hwk
   refine Z8 15 (Yo 15 1 [] [] b4 (YE (V6 kd x1 ((ZY n.decls x2).length))) (de (ar (Z6 1 [0] (Zr [] (FD (V6 kd x1 ((ZY n.decls x2).length))) (Z0 1 (ie (ar (Z6 3 [0] (Zr [] (LT (V6 kd x1 ((ZY n.decls x2).length)) (Ys (V6 kd x1 ((ZY n.decls x2).length)).steps) 17 x1 (hm:=(Bv _)) (ha:=(fun s2 hs2 h17=>G7 (DG ((Q5 _).1 hwr) s2 (Tl hs2) (by rw [h17];rfl))))) (Z0 1 (ie (ZH ((Xw 17 x1 ((V6 kd x1 ((ZY n.decls x2).length)).steps.take (Ys (V6 kd x1 ((ZY n.decls x2).length)).steps)) 0)>=0) (fun ZK=>?_) (fun ZK=>?_))))))))))))))
   ·refine az (Z0 2 (ic [] (Z25 kept x1) ?_))
    rintro _ _ ⟨ys1,rfl,rfl,ZT⟩
    have hin:=ZT
    exact Z0 1 (ie (ZF ⟨_,_,(Z0y om hg1 Zg hfl ((Mc ((By kd).1 hnk)).1 ZK) hin.2),hwr,(Iu hnk),ob,hin.1,rfl,rfl⟩ (wk [0,1,2] (fc (x:=Z5 ys1) (Zf.sl _ (Yg Z7 (by first|rfl|(rw [Zw Zg])|(rw [Zs Zg])|(simp [Zg,ZK,ZT];done)|(rw [Xi];simp [Zg,ZK,ZT];done)|omega))) fl))))
   exact ak (ZF ⟨_,_,(Z0z om hg1 Zg hfl (G4 fun z=>ZK ((Mc ((By kd).1 hnk)).2 z))),hwr,(Iu hnk),ob,ob,rfl,rfl⟩ (wk [0,1,2] (fc (x:=Z5 kept) (Zf.sl _ (Yg Z7 (by first|rfl|(rw [Zw Zg])|(rw [Zs Zg])|(simp [Zg,ZK];done)|(rw [Xi];simp [Zg,ZK];done)|omega))) fl)))
  exact ak (ZF ⟨_,_,(Le (fun z=>Zg (hg1▸z.2))),hwk,(JR hnk),ob,ob,rfl,rfl⟩ (wk [0,0,1] (fc (x:=Z5 kept) (Zf.sl _ (Yg Z7 (by first|rfl|(rw [Zw Zg])|(rw [Zs Zg])|(simp [Zg];done)|(rw [Xi];simp [Zg];done)|omega))) fl)))
 rintro F h ⟨B2,K2,WP,Km,ES,Z4z,Z50,rfl,rfl⟩
 exact ar (Z6 3 [2,0] (Zr [] (ih B2 K2 (by first|exact hwk|exact Km) (by first|exact JR hnk|exact ES) ob ob) (Zy 1 b3 (YE (XU n.decls K2 B2)) (ie (Z9 (r3 [] [ZC (XU n.decls K2 B2)] [0] [(b3,b3)] ⟨rfl,rfl⟩ (Zf.agg (.cons (Zf.sl _ (Yg Zk (by rw [WP]))) (.cons (li (by rw [WP])) .nil)))))))))
theorem Z2a (n:Zu) (b:Z4) (kept:LI) (hn:X2 n) (hw:wB n.decls b) (hn2:J8 b) (hK:kept.length+b.sz<=900000000) (ih:∀(s:Z3) (j:Nat) (kept:LI) (kd:Z4),(wS n.decls s)->(s.kids[j]? = some kd)->(Tc kd)->(kept.length+s.sz<=900000000)->(s.sz<b.sz)->Zi 209 [Yc n,Yk s,.i j,Z5 kept] [] (Ym (ZC (Um n.decls kept s.op s.num s.args j kd)))):Zi 165 [Yc n,ZC b,Z5 kept] [] (Ym (ZC (XU n.decls kept b))):=by
 have Xl:=hn.decls
 have hbz:=WQ b
 refine ZB 61 Tryz.func165 (ar (iA (YC n) fun b1=>iA (YE b) fun b2=>iA [nl,.i 0] fun b3=>ie (ar (iL (Zk []) 0 5 fun v1=>Z6 3 [2] (iA [nl,.i 0] fun b4=>?_)))))
 refine Zy 0 b4 [Yx [] v1,.i b.result] (ie (aq (ar (Z0 1 (ie (ab 0 (ZX (fun fz gz m F h=>∃(k:Nat) (xs:List Z3) (v:Value),(k<=b.steps.length)/\(xs.length=k)/\(xs++Vy n.decls kept (b.steps.drop k)=Vy n.decls kept b.steps)/\F=sF [2,3,4,6,7] fz [(8,.i k)]/\h=[.obj b4 [Yx xs v,.i b.result],Ze gz 2,Ze gz 3,Ze gz 4,.tail v 5]/\m=b.steps.length-k) _ _ _ ⟨0,[],v1,ob,ob,rfl,rfl,rfl,rfl⟩ (wk [0,1,1,1,0] (Y7 fl)) ?_)))))))
 rintro m F h ⟨k,xs,v,Y8,Zm,Zo,rfl,rfl,rfl⟩
 refine aq (ar (Z6 3 [2] (iw (W1 b.steps) (Z0 1 (ie (ZH ((k:Int)<(b.steps.length:Int)) (fun Za=>?_) (fun Za=>?_)))))))
 ·refine ak (aq (ab 1 (ar (Z6 3 [2] ?_))))
  obtain ⟨x1,Z2⟩:=Zp b.steps k om
  have YW:=AN Z2
  have hws:=Mv hw Z2
  have hkz:=U8 x1
  have haz:=Tp x1
  refine Zn (Zh none (k:Int) 5 (XG Z2)) (Z0 1 (iA [.i 0,.i 0,.i 0,nl,nl] fun b5=>Zy 0 b5 (X6 x1) (ie (ar (iL (Yh []) 0 2 fun v2=>?_)))))
  refine Z0 1 (ie (aq (ar (Z0 1 (ie (ab 2 (ZX (fun fz gz m F h=>∃(j:Nat) (u:Value) (ks:List Z4),(j<=x1.kids.length)/\(ks.length=j)/\(ks++Vx n.decls kept x1.op x1.num x1.args (x1.kids.drop j) j=Vx n.decls kept x1.op x1.num x1.args x1.kids 0)/\F=sF [2,3,4,6,7,8,9] fz [(10,VK ks u),(11,.i j)]/\h=[Ze gz 1,Ze gz 2,Ze gz 3,Ze gz 4,Ze gz 5,.tail u 2,Ze gz 6]/\m=x1.kids.length-j) _ _ _ ⟨0,v2,[],ob,ob,(by simp),rfl,rfl,rfl⟩ (wk [1,1,1,1,1,0,0] (fr (Y7 fl))) ?_)))))))
  rintro m F h ⟨j,u,ks,U3,Ww,Xc,rfl,rfl,rfl⟩
  refine aq (ar (Z6 3 [0] (iw (Vh x1.kids) (Z0 1 (ie (ZH ((j:Int)<(x1.kids.length:Int)) (fun Zg=>?_) (fun Zg=>?_)))))))
  ·obtain ⟨kd,hkd⟩:=Zp x1.kids j om
   exact ak (aq (ab 3 (az (Z6 5 [4,0] (Zr [] (ih x1 j kept kd hws hkd (SJ hn2 Z2 hkd) ob ob) (iL [ZC (Um n.decls kept x1.op x1.num x1.args j kd)] 1 2 fun v3=>ZA 0 [(42,.sl [ZC (Um n.decls kept x1.op x1.num x1.args j kd)] none)] (ip 6 (Yh (ks++[Um n.decls kept x1.op x1.num x1.args j kd])) (Yh ks) [ZC (Um n.decls kept x1.op x1.num x1.args j kd)] u none 2 (Ue _) (UQ rfl) rfl (by simp<;>omega) (by simp [K9,VD]) fun v4=>Z0 1 (ie (az (Z0 1 (ZE j (Z0 1 (ie (ZG ⟨j+1,v4,(ks++[Um n.decls kept x1.op x1.num x1.args j kd]),ob,(by simp;omega),(Z0x hkd Xc),rfl,rfl,rfl⟩ (wk [2,2,2,2,2,0,1] (fr (ZI j fl)))))))))))))))))
  have hK:=Z0w om Xc
  refine ax 2 (aE 17 (ZD 6 17 [0,1,2,3,4,5,6,7,8,9,11] [1,0,0,0,0] (Z8 10 (dc 10 [] [0,0,0,1] [b5,b5,b5,b4] (V7 x1.args) ?_))))
  rintro _ _ ⟨v5,rfl,rfl⟩
  exact Y9 4 5 [12] [(56,.agg [.i x1.op,.i x1.num,.i x1.into,Z5 x1.args,Xq ks])] (Z8 13 (dL 13 [1] [b4] [Yk (Z3.mk x1.op x1.num x1.into x1.args ks)] 1 5 fun v6=>Y9 3 3 [] [(57,.sl [Yk (Z3.mk x1.op x1.num x1.into x1.args ks)] none)] (Z8 14 (dp 14 8 [] [] (Zk (xs++[Z3.mk x1.op x1.num x1.into x1.args ks])) (Zk xs) [Yk (Z3.mk x1.op x1.num x1.into x1.args ks)] v none 5 (YP _) (UQ rfl) rfl (by simp<;>omega) (by simp [W0,Wx]) fun v7=>Zj 1 2 [15] (Z8 16 (Yo 16 4 [] [] b4 [Yx (xs++[Z3.mk x1.op x1.num x1.into x1.args ks]) v7,.i b.result] (de (az (Z0 1 (ZE k (Z0 1 (ie (ZG ⟨k+1,(xs++[Z3.mk x1.op x1.num x1.into x1.args ks]),v7,ob,(by simp;omega),(by have h:=Z13 Z2 Zo;rw [<-hK] at h;exact h),rfl,rfl,rfl⟩ (wk [0,4,4,4,0] (ZI k fl)))))))))))))))
 exact ax 0 (ar (Z6 1 [0] (Zy 1 b3 [Yx xs v,.i b.result] (ie (Z9 (r3 [] [.agg [Yx xs v,.i b.result]] [0] [(b3,b3)] ⟨rfl,rfl⟩ (Zf.agg (.cons (Zf.sl _ (Yg Zk (by rw [D8];exact Z12 om Zo))) (.cons (li (by rw [D8];rfl)) .nil)))))))))
theorem Z2c (n:Zu) (hn:X2 n) (k:Nat):(∀(s:Z3) (j:Nat) (kept:LI) (kd:Z4),(wS n.decls s)->(s.kids[j]? = some kd)->(Tc kd)->(kept.length+s.sz<=900000000)->(s.sz<=k)->Zi 209 [Yc n,Yk s,.i j,Z5 kept] [] (Ym (ZC (Um n.decls kept s.op s.num s.args j kd))))/\(∀(b:Z4) (kept:LI),(wB n.decls b)->(J8 b)->(kept.length+b.sz<=900000000)->(b.sz<=k)->Zi 165 [Yc n,ZC b,Z5 kept] [] (Ym (ZC (XU n.decls kept b)))):=by
 induction k with
 | zero=>exact ⟨fun s j K kd h1 h2 h3 h4 h5=>by have:=s.sz_pos;omega,fun b K h1 h2 h3 h4=>by have:=b.sz_eq;omega⟩
 | succ k ih=>exact ⟨fun s j K kd h1 h2 h3 h4 h5=>Z2b n s j K kd hn h1 h2 h3 h4 fun b2 K2 q1 q2 q3 q4=>ih.2 b2 K2 q1 q2 q3 om,fun b K h1 h2 h3 h4=>Z2a n b K hn h1 h2 h3 fun s j K2 kd q1 q2 q3 q4 q5=>ih.1 s j K2 kd q1 q2 q3 q4 om⟩
theorem Z29 (n:Zu) (b:Z4) (kept:LI) (hn:X2 n:=by exact ob) (hw:wB n.decls b:=by exact ob) (hn2:J8 b:=by exact ob) (hK:kept.length+b.sz<=900000000:=by exact ob):Zi 165 [Yc n,ZC b,Z5 kept] [] (Ym (ZC (XU n.decls kept b))):=(Z2c n hn b.sz).2 b kept hw hn2 hK (YI _)
theorem R3 (n:Zu) (hn:X2 n:=by exact ob) (hz:KH n:=by exact ob) (hwb:∀r∈n.routines,wB n.decls r.body):Zi 125 [Yc n] [] (Ym (Yc (Dm n))):=by
 have hzl:=hn.len
 refine ZB 38 Tryz.func125 (ar (iA (YC n) fun b1=>iA [nl,nl] fun b2=>ie (ar (Z6 2 [1] (Zr [] (JX n.decls (hd:=hn.decls)) (iL (Yn []) 0 5 fun v1=>Z0 1 (iA [nl,nl] fun b3=>?_)))))))
 refine Zy 0 b3 [YB n.decls,XQ [] v1] (ie (aq (ar (Z0 1 (ie (ab 0 (ZX (fun fz gz m F h=>∃(k:Nat) (v:Value),(k<=n.routines.length)/\F=sF [1,2,3] fz [(4,.i k)]/\h=[.obj b3 [YB n.decls,XQ ((n.routines.take k).map (Jf n.decls)) v],Ze gz 2,Ze gz 3,.tail v 5]/\m=n.routines.length-k) _ _ _ ⟨0,v1,ob,rfl,rfl,rfl⟩ (wk [0,1,1,0] (Y7 fl)) ?_)))))))
 rintro m F h ⟨k,v,Y8,rfl,rfl,rfl⟩
 refine aq (ar (Z6 3 [2] (iw (U4 n.routines) (Z0 1 (ie (ZH ((k:Int)<(n.routines.length:Int)) (fun Za=>?_) (fun Za=>?_)))))))
 ·refine ak (aq (ab 1 (ar (Z6 3 [2] ?_))))
  obtain ⟨x1,Z2⟩:=Zp n.routines k om
  have hrm:=ZU Z2
  have hbz:=hz.body _ hrm
  have hpl:=hn.params_at Z2
  have hll:=hn.lent_at Z2
  have hww:=hwb _ hrm
  exact Zn (Zh none (k:Int) 5 (Wk Z2)) (Z0 1 (iA [nl,nl,.i 0,nl,.i 0] fun b4=>Zy 0 b4 (QH x1) (ie (aE 15 (ZD 7 15 [0,1,2,3,4,5,6,7] [1,0,3,0,0] (dw 8 (Y2 x1.params) (Z8 9 (Yf 9 [] [0,1] [b4,b3] (Z2h n x1.body x1.params.length (hw:=hww)) (Z8 10 (Yf 10 [] [1] [b3] (AL x1 (We n.decls x1.params.length x1.body)) (Z8 11 (dL 11 [1] [b3] (Yn [Y1.mk x1.params x1.lent x1.result (We n.decls x1.params.length x1.body)]) 1 5 fun v2=>Y9 3 3 [] [(34,Ty [Y1.mk x1.params x1.lent x1.result (We n.decls x1.params.length x1.body)])] (Z8 12 (dp 12 5 [] [] (Yn ((n.routines.take (k+1)).map (Jf n.decls))) (Yn ((n.routines.take k).map (Jf n.decls))) (Yn [Y1.mk x1.params x1.lent x1.result (We n.decls x1.params.length x1.body)]) v none 5 (Vt _) (Vt _) (KV _) (by simp<;>omega) (by rw [Ve Z2];simp [Yn,Jf]) fun v3=>Zj 1 2 [13] (Z8 14 (Yo 14 3 [] [] b3 [YB n.decls,XQ ((n.routines.take (k+1)).map (Jf n.decls)) v3] (de (az (Z0 1 (ZE k (Z0 1 (ie (ZG ⟨k+1,v3,ob,rfl,rfl,rfl⟩ (wk [0,3,3,0] (ZI k fl)))))))))))))))))))))))))
 exact ax 0 (ar (Z6 1 [0] (Zy 1 b2 [YB n.decls,XQ ((n.routines.take k).map (Jf n.decls)) v] (ie (Z9 (r3 [] [.agg [YB n.decls,XQ ((n.routines.take k).map (Jf n.decls)) v]] [0] [(b2,b2)] ⟨rfl,rfl⟩ (Zf.agg (.cons (Zf.sl _ (Yg YM ob)) (.cons (Zf.sl _ (Yg Yn (by rw [Vo om];rfl))) .nil)))))))))
theorem PY (n:Zu) (hn:X2 n:=by exact ob) (hz:KH n:=by exact ob) (hwb:∀r∈n.routines,wB n.decls r.body) (hnr:∀r∈n.routines,Tc r.body):Zi 126 [Yc n] [] (Ym (Yc (D9 n))):=by
 have hzl:=hn.len
 refine ZB 38 Tryz.func126 (ar (iA (YC n) fun b1=>iA [nl,nl] fun b2=>ie (ar (Z6 2 [1] (Zr [] (JX n.decls (hd:=hn.decls)) (iL (Yn []) 0 5 fun v1=>Z0 1 (iA [nl,nl] fun b3=>?_)))))))
 refine Zy 0 b3 [YB n.decls,XQ [] v1] (ie (aq (ar (Z0 1 (ie (ab 0 (ZX (fun fz gz m F h=>∃(k:Nat) (v:Value),(k<=n.routines.length)/\F=sF [1,2,3] fz [(4,.i k)]/\h=[.obj b3 [YB n.decls,XQ ((n.routines.take k).map (Jc n.decls)) v],Ze gz 2,Ze gz 3,.tail v 5]/\m=n.routines.length-k) _ _ _ ⟨0,v1,ob,rfl,rfl,rfl⟩ (wk [0,1,1,0] (Y7 fl)) ?_)))))))
 rintro m F h ⟨k,v,Y8,rfl,rfl,rfl⟩
 refine aq (ar (Z6 3 [2] (iw (U4 n.routines) (Z0 1 (ie (ZH ((k:Int)<(n.routines.length:Int)) (fun Za=>?_) (fun Za=>?_)))))))
 ·refine ak (aq (ab 1 (aE 21 (ZD 16 21 [0,1,2,3,4] [0,2] ?_))))
  obtain ⟨x1,Z2⟩:=Zp n.routines k om
  have hrm:=ZU Z2
  have hbz:=hz.body _ hrm
  have hpl:=hn.params_at Z2
  have hll:=hn.lent_at Z2
  have hww:=hwb _ hrm
  exact dx 5 (Zh none (k:Int) 5 (Wk Z2)) (ZD 10 15 [6,7,8,9,10] [2,2] (dx 11 (Zh none (k:Int) 5 (Wk Z2)) (Zj 7 9 [12,13] (Z8 14 (dL 14 [2,2,2,0] [b1,b1,b1,b3] (Z7 []) 0 1 fun v2=>Y9 6 6 [] [(31,Z5 [])] (Z8 15 (Yf 15 [] [2,0] [b1,b3] (Z29 n x1.body [] (hw:=hww) (hn2:=(JR (hnr _ hrm)))) (Z8 16 (Yf 16 [] [0] [b3] (AL x1 (XU n.decls [] x1.body)) (Z8 17 (dL 17 [0] [b3] (Yn [Y1.mk x1.params x1.lent x1.result (XU n.decls [] x1.body)]) 1 5 fun v3=>Y9 3 3 [] [(34,Ty [Y1.mk x1.params x1.lent x1.result (XU n.decls [] x1.body)])] (Z8 18 (dp 18 5 [] [] (Yn ((n.routines.take (k+1)).map (Jc n.decls))) (Yn ((n.routines.take k).map (Jc n.decls))) (Yn [Y1.mk x1.params x1.lent x1.result (XU n.decls [] x1.body)]) v none 5 (Vt _) (Vt _) (KV _) (by simp<;>omega) (by rw [Ve Z2];simp [Yn,Jc]) fun v4=>Zj 1 2 [19] (Z8 20 (Yo 20 3 [] [] b3 [YB n.decls,XQ ((n.routines.take (k+1)).map (Jc n.decls)) v4] (de (az (Z0 1 (ZE k (Z0 1 (ie (ZG ⟨k+1,v4,ob,rfl,rfl,rfl⟩ (wk [0,3,3,0] (ZI k fl))))))))))))))))))))))))
 exact ax 0 (ar (Z6 1 [0] (Zy 1 b2 [YB n.decls,XQ ((n.routines.take k).map (Jc n.decls)) v] (ie (Z9 (r3 [] [.agg [YB n.decls,XQ ((n.routines.take k).map (Jc n.decls)) v]] [0] [(b2,b2)] ⟨rfl,rfl⟩ (Zf.agg (.cons (Zf.sl _ (Yg YM ob)) (.cons (Zf.sl _ (Yg Yn (by rw [Vo om];rfl))) .nil)))))))))
theorem HA (rd:Nat) (bs:LI) (p:Nat) (Zq:∀z∈bs,0<=z/\z<=255) (hp:p+400001<=1000000000:=by exact ob):Zi 84 [.p rd 0] [Y4 rd bs p] (fun r h=>∃(n:Zu) (p2:Nat),r=Yc n/\h=[Y4 rd bs p2]/\FO n 181 XX/\p<=p2/\p2<=p+400001):=by
 refine ZB 13 Tryz.func84 (ar (iA [nl,nl] fun b1=>ie (ar (Z0 1 (ic [1] (Pv rd bs p (Zq:=ob)) ?_)))))
 rintro _ _ ⟨g1,p21,rfl,rfl,ZT⟩
 have T8:=ZT
 refine ic [] (PQ g1 (hg:=T8.1)) ?_
 rintro _ _ ⟨n1,rfl,rfl,Y6⟩
 have hnm:=Y6
 refine iA [nl,nl] fun b2=>Zy 0 b2 (YC n1) (ie (aq (ar (Z0 1 (ic [1] (Xs rd bs p21 3 (Zq:=ob)) ?_)))))
 rintro _ _ ⟨k1,rfl,rfl,YA⟩
 refine Z0 1 (ie (ac (k1==0) Zz (fun Za=>?_) (fun Za=>?_)))
 ·refine ar (Z6 1 [1] (ic [] (PG n1 181 (hn:=hnm)) ?_))
  rintro _ _ ⟨n21,rfl,rfl,YJ⟩
  have hlm:=YJ
  exact Zy 2 b1 (YC n21) (ie (Z9 (r3 [1] [Yc n21] [0] [(b1,b1)] ⟨n21,p21+1,rfl,rfl,(by first|exact ⟨hlm,by omega,by omega⟩|exact ⟨hnm,by omega,by omega⟩)⟩ (lr _))))
 exact ak (ar (Z6 1 [1] (Zy 2 b1 (YC n1) (ie (Z9 (r3 [1] [Yc n1] [0] [(b1,b1)] ⟨n1,p21+1,rfl,rfl,(by first|exact ⟨hlm,by omega,by omega⟩|exact ⟨hnm,by omega,by omega⟩)⟩ (lr _)))))))
theorem Pp (rd:Nat) (bs:LI) (p:Nat) (Zq:∀z∈bs,0<=z/\z<=255) (hp:p+400002<=1000000000:=by exact ob):Zi 122 [.p rd 0] [Y4 rd bs p] (fun r h=>∃(n:Zu) (p2:Nat),r=Yc n/\h=[Y4 rd bs p2]/\FO n 814510 Wv/\p<=p2/\p2<=p+400002):=by
 refine ZB 15 Tryz.func122 (ar (iA [nl,nl] fun b1=>ie (ar (Z0 1 (ic [1] (HA rd bs p (Zq:=ob)) ?_)))))
 rintro _ _ ⟨n1,p21,rfl,rfl,ZT⟩
 have hpf:=ZT
 refine iA [nl,nl] fun b2=>Zy 0 b2 (YC n1) (ie (ar (Z6 1 [0] (ic [] (Po n1 181 (hn:=hpf.1)) ?_))))
 rintro _ _ ⟨n21,rfl,rfl,Y6⟩
 have hcf:=FO.le Y6 (show 4500*181+10<=814510 by omega)
 refine iA [nl,nl] fun b3=>Zy 0 b3 (YC n21) (ie (aq (ar (Z0 1 (ic [2] (Xs rd bs p21 4 (Zq:=ob)) ?_)))))
 rintro _ _ ⟨k1,rfl,rfl,YA⟩
 refine Z0 1 (ie (ac (k1==0) Zz (fun Za=>?_) (fun Za=>?_)))
 ·refine az (Z6 1 [2] (ic [] (Pz n1 181 (hn:=hpf.1)) ?_))
  rintro _ _ ⟨n22,rfl,rfl,YJ⟩
  have hlf:=FO.le YJ (show 60*181<=814510 by omega)
  exact Zy 1 b3 (YC n22) (ie (ar (Z6 1 [0] (Zy 3 b1 (YC n22) (ie (Z9 (r3 [2] [Yc n22] [0] [(b1,b1)] ⟨n22,p21+1,rfl,rfl,(by first|exact ⟨hlf,by omega,by omega⟩|exact ⟨hcf,by omega,by omega⟩)⟩ (lr _))))))))
 exact ak (ar (Z6 1 [1] (Zy 3 b1 (YC n21) (ie (Z9 (r3 [1] [Yc n21] [0] [(b1,b1)] ⟨n21,p21+1,rfl,rfl,(by first|exact ⟨hlf,by omega,by omega⟩|exact ⟨hcf,by omega,by omega⟩)⟩ (lr _)))))))
theorem P6 (rd:Nat) (bs:LI) (p:Nat) (Zq:∀z∈bs,0<=z/\z<=255) (hp:p+400030<=1000000000:=by exact ob):Zi 85 [.p rd 0] [Y4 rd bs p] (fun r h=>∃(n:Zu) (p2:Nat),r=Yc n/\h=[Y4 rd bs p2]/\ZN n 7330630/\p<=p2/\p2<=p+400030):=by
 refine ZB 35 Tryz.func85 (ar (iA [nl,nl] fun b1=>ie (ar (Z0 1 (ic [1] (Pp rd bs p (Zq:=ob)) ?_)))))
 rintro _ _ ⟨n1,p21,rfl,rfl,ZT⟩
 have hcf:=FO.le ZT.1 (show 814510<=814514 by omega)
 have hcp:=ZT
 refine iA [nl,nl] fun b2=>Zy 0 b2 (YC n1) (ie (aq (ar (Z0 1 (ic [1] (Xs rd bs p21 4 (Zq:=ob)) ?_)))))
 rintro _ _ ⟨k1,rfl,rfl,Y6⟩
 refine Z0 1 (ie (Xo (fun fz gz F h=>∃(na:Zu) (pa:Nat),(FO na 814514 Wv)/\(p<=pa/\pa<=p+400010)/\F=sF [0,2,3] fz []/\h=[Y4 rd bs pa,.obj b2 (YC na),Ze gz 2]) ?_ ?_))
 ·refine ac (k1==0) Zz (fun Za=>?_) (fun Za=>?_)
  ·refine az (Z6 2 [1] (ic [0] (Hw rd bs (p21+1) n1 (Zq:=ob) (hz:=(by first|exact (FO.zn hcp.1).sz om|exact Tb.sz om)) (hl1:=(by first|(have:=hcp.1.fn.len;omega)|(have:=Tb.len;omega)))) ?_))
   rintro _ _ ⟨n21,p22,rfl,rfl,YA⟩
   have hho:=YA
   exact Zy 1 b2 (YC n21) (ie (ZF ⟨n21,p22,(FO.held hcp.1 hho.1),ob,rfl,rfl⟩ (wk [1,0,0] fl)))
  exact ak (ZF ⟨n1,p21+1,hcf,ob,rfl,rfl⟩ (ZP 3 fl))
 rintro F h ⟨na,pa,TW,ER,rfl,rfl⟩
 refine aq (ar (Z0 1 (ic [0] (Xs rd bs pa 4 (Zq:=ob)) ?_)))
 rintro _ _ ⟨k2,rfl,rfl,YJ⟩
 refine Z0 1 (ie (Xo (fun fz gz F h=>∃(nb:Zu) (pb:Nat),(FO nb 814514 Wv)/\(p<=pb/\pb<=p+400012)/\F=sF [0,2,3] fz []/\h=[Y4 rd bs pb,.obj b2 (YC nb),Ze gz 2]) ?_ ?_))
 ·refine ac (k2==0) Zz (fun Zg=>?_) (fun Zg=>?_)
  ·refine az (Z6 1 [1] (ic [] (Pc na 814514 (hn:=TW)) ?_))
   rintro _ _ ⟨n22,rfl,rfl,YU⟩
   have hca:=YU
   exact Zy 1 b2 (YC n22) (ie (ZF ⟨n22,pa+1,hca,ob,rfl,rfl⟩ (wk [1,0,0] fl)))
  exact ak (ZF ⟨na,pa+1,TW,ob,rfl,rfl⟩ (ZP 3 fl))
 rintro F h ⟨nb,pb,WP,Km,rfl,rfl⟩
 refine ar (Z0 1 (ic [0] (Xs rd bs pb 3 (Zq:=ob)) ?_))
 rintro _ _ ⟨k3,rfl,rfl,XI⟩
 refine Z0 1 (ie (aq (ar (Z0 2 (ie (Xo (fun fz gz F h=>∃(nc:Zu) (pc:Nat),(ZN nc 7330626)/\(k3>1->WN nc 7330626)/\(p<=pc/\pc<=p+400014)/\F=sF [0,2,3,4] fz []/\h=[Y4 rd bs pc,.obj b2 (YC nc),Ze gz 2]) ?_ ?_))))))
 ·refine ZH (k3>0) (fun ZK=>?_) (fun ZK=>?_)
  ·exact az (Z6 1 [1] (Zr [] (R3 nb (hn:=WP.fn.ok) (hz:=(WP.zn.sz om)) (hwb:=(fun r hr=>(WP.wl om r hr).w))) (Zy 1 b2 (YC (Dm nb)) (ie (ZF ⟨(Dm nb),pb+1,((WP.wn om).sp.zn),(fun _=>(WP.wn om).sp),ob,rfl,rfl⟩ (wk [1,0,0] fl))))))
  exact ak (ZF ⟨nb,pb+1,(WP.zn.le om),(fun h=>by omega),ob,rfl,rfl⟩ (ZP 3 fl))
 rintro F h ⟨nc,pc,Bq,Br,RQ,rfl,rfl⟩
 refine aq (ar (Z0 2 (ie (Xo (fun fz gz F h=>∃(nd:Zu) (pd:Nat),(ZN nd 7330626)/\(p<=pd/\pd<=p+400014)/\F=sF [0,2,3] fz []/\h=[Y4 rd bs pd,.obj b2 (YC nd),Ze gz 2]) ?_ ?_))))
 ·refine ZH (k3>1) (fun Yi=>?_) (fun Yi=>?_)
  ·exact az (Z6 1 [1] (Zr [] (PY nc (hn:=(Br (by assumption)).ok) (hz:=(Bq.sz om)) (hwb:=(fun r hr=>((Br (by assumption)).wl r hr).w)) (hnr:=(fun r hr=>((Br (by assumption)).wl r hr).nr))) (Zy 1 b2 (YC (D9 nc)) (ie (ZF ⟨(D9 nc),pc,(Br (by assumption)).ru,ob,rfl,rfl⟩ (wk [1,0,0] fl))))))
  exact ak (ZF ⟨nc,pc,Bq,ob,rfl,rfl⟩ (ZP 3 fl))
 rintro F h ⟨nd,pd,Tb,RR,rfl,rfl⟩
 refine aq (ar (Z0 1 (ic [0] (Xs rd bs pd 6 (Zq:=ob)) ?_)))
 rintro _ _ ⟨k4,rfl,rfl,Wd⟩
 refine Z0 1 (ie (ac (k4==0) Zz (fun Xt=>?_) (fun Xt=>?_)))
 ·refine az (Z6 2 [1] (ic [0] (Hw rd bs (pd+1) nd (Zq:=ob) (hz:=(by first|exact (FO.zn hcp.1).sz om|exact Tb.sz om)) (hl1:=(by first|(have:=hcp.1.fn.len;omega)|(have:=Tb.len;omega)))) ?_))
  rintro _ _ ⟨n23,p23,rfl,rfl,WM⟩
  have hho:=WM
  exact Zy 1 b2 (YC n23) (ie (ar (Z6 1 [0] (Zy 2 b1 (YC n23) (ie (Z9 (r3 [2] [Yc n23] [0] [(b1,b1)] ⟨n23,p23,rfl,rfl,(by first|exact ⟨Tb.held hho.1,by omega,by omega⟩|exact ⟨Tb.le om,by omega,by omega⟩)⟩ (lr _))))))))
 exact ak (ar (Z6 1 [1] (Zy 2 b1 (YC nd) (ie (Z9 (r3 [1] [Yc nd] [0] [(b1,b1)] ⟨nd,pd+1,rfl,rfl,(by first|exact ⟨Tb.held hho.1,by omega,by omega⟩|exact ⟨Tb.le om,by omega,by omega⟩)⟩ (lr _)))))))
theorem R7 (rd:Nat) (bs:LI) (p:Nat) (xs:LI) (Zq:∀z∈bs,0<=z/\z<=255) (hp:p+3<=1000000000:=by exact ob) (hl:xs.length<=1000000:=by exact ob):Zi 52 [.p rd 0,Z5 xs] [Y4 rd bs p] (fun r h=>∃(zs:LI) (p2:Nat),r=Z5 zs/\h=[Y4 rd bs p2]/\zs.length<=xs.length+1/\p<=p2/\p2<=p+3):=by
 refine ZB 32 Tryz.func52 (ar (Z0 1 (ie (ar (Z0 1 (ic [] (Jg xs) ?_))))))
 rintro _ _ ⟨v1,rfl,rfl⟩
 refine Z0 1 (ie (aq (ar (Z0 1 (Zn (JZ 0 v1 xs) (Z0 2 (ib (b:=(decide ((xs.length:Int)>0))) 11 (fun Zb=>?_) (fun Zb=>?_))))))))
 ·have ZT:(xs.length:Int)>0:=(dq).1 Zb
  refine Z0 1 (ic [1] (Xs rd bs p 2 (Zq:=ob)) ?_)
  rintro _ _ ⟨k1,rfl,rfl,Y6⟩
  refine Z0 2 (ie (ac (k1==0) Zz (fun Za=>?_) (fun Za=>?_)))
  ·refine ar (Z0 3 (Zn (JZ 1 v1 xs) (ic [0] (Ux rd bs (p+1) xs.length (Zq:=ob)) ?_)))
   rintro _ _ ⟨Yd,rfl,rfl,YA⟩
   refine Z0 1 (iL (Z7 [0,1,-1,7,1000,1001]) 6 1 fun v2=>ZA 0 [(22,Z5 [0,1,-1,7,1000,1001])] (ic [1] (WA rd bs ((p+1)+1) [0,1,-1,7,1000,1001] (Zq:=ob)) ?_))
   rintro _ _ ⟨z1,rfl,rfl,YJ⟩
   exact Zn (WR 2 v1 xs (Yd:Int) Yd) (HP 2 v1 xs Yd z1 (ie (ar (Z0 2 (ie (DO 4 0 (v:=v1) (xs:=(xs.set Yd z1)) (Z9 (r2 [1] [ZO (xs.set Yd z1) v1.v] ⟨(xs.set Yd z1),((p+1)+1)+1,rfl,rfl,⟨by simp,by omega,by omega⟩⟩ (Zf.forget _ _)))))))))
  refine ak (ar (Z0 2 (iL (Z7 [0,1,2,-1,1000]) 5 1 fun v3=>ZA 0 [(28,Z5 [0,1,2,-1,1000])] (ic [1] (WA rd bs (p+1) [0,1,2,-1,1000] (Zq:=ob)) ?_))))
  rintro _ _ ⟨z2,rfl,rfl,YU⟩
  exact iL (Z7 [z2]) 1 1 fun v4=>ZA 0 [(30,Z5 [z2])] (QG 3 v1 xs [z2] none fun v5=>Z0 1 (ie (DO 4 0 (v:=v5) (xs:=(xs++[z2])) (Z9 (r2 [2] [ZO (xs++[z2]) v5.v] ⟨(xs++[z2]),(p+1)+1,rfl,rfl,⟨by simp,by omega,by omega⟩⟩ (Zf.forget _ _))))))
 have XI:¬((xs.length:Int)>0):=YH dq Zb
 refine Z0 4 (ie (Wi (ak (ar (Z0 2 (iL (Z7 [0,1,2,-1,1000]) 5 1 fun v6=>ZA 0 [(28,Z5 [0,1,2,-1,1000])] (ic [2] (WA rd bs p [0,1,2,-1,1000] (Zq:=ob)) ?_)))))))
 rintro _ _ ⟨z3,rfl,rfl,Wd⟩
 exact iL (Z7 [z3]) 1 1 fun v7=>ZA 0 [(30,Z5 [z3])] (QG 3 v1 xs [z3] none fun v8=>Z0 1 (ie (DO 4 0 (v:=v8) (xs:=(xs++[z3])) (Z9 (r2 [2] [ZO (xs++[z3]) v8.v] ⟨(xs++[z3]),p+1,rfl,rfl,⟨by simp,by omega,by omega⟩⟩ (Zf.forget _ _))))))
theorem NZ (s:Z3) (hz:s.sz<=1000000000:=by exact ob):Zi 127 [Yk s] [] (fun r h=>∃(v:Hd),r=.agg [.i s.op,.i s.num,.i s.into,.h v,Xq s.kids]/\h=[rV v s.args]):=by
 have hkz:=U8 s
 have haz:=Tp s
 refine ZB 33 Tryz.func127 (ar (iA (X6 s) fun b1=>iA [.i 0,.i 0,.i 0,nl,nl] fun b2=>ie (ar (iL (Yh []) 0 2 fun v1=>?_))))
 refine Z0 1 (ie (aq (ar (Z0 1 (ie (ab 0 (ZX (fun fz gz m F h=>∃(k:Nat) (v:Value),(k<=s.kids.length)/\F=sF [1,2] fz [(3,VK (s.kids.take k) v),(4,.i k)]/\h=[Ze gz 1,Ze gz 2,.tail v 2]/\m=s.kids.length-k) _ _ _ ⟨0,v1,ob,rfl,rfl,rfl⟩ (wk [1,1,0] (fc (x:=VK [] v1) (Zf.slh _ (Yg Yh rfl)) (Y7 fl))) ?_)))))))
 rintro m F h ⟨k,v,Y8,rfl,rfl,rfl⟩
 refine aq (ar (Z6 3 [1] (iw (Vh s.kids) (Z0 1 (ie (ZH ((k:Int)<(s.kids.length:Int)) (fun Za=>?_) (fun Za=>?_)))))))
 ·refine ak (aq (ab 1 (az (Z6 4 [1] ?_))))
  obtain ⟨x1,Z2⟩:=Zp s.kids k om
  have hks:=VW Z2
  exact Zn (Zh none (k:Int) 2 (Vs Z2)) (Z0 1 (Zr [] (Dn x1) (iL [ZC x1] 1 2 fun v2=>ZA 0 [(20,.sl [ZC x1] none)] (ip 3 (Yh (s.kids.take (k+1))) (Yh (s.kids.take k)) [ZC x1] v none 2 (Ue _) (UQ rfl) rfl (by simp<;>omega) (by rw [Ve Z2];simp [VD]) fun v3=>Z0 1 (ie (az (Z0 1 (ZE k (Z0 1 (ie (ZG ⟨k+1,v3,ob,rfl,rfl,rfl⟩ (wk [2,2,0] (fr (ZI k fl))))))))))))))
 refine ax 0 (aD 12 (ZD 3 12 [0,1,2,3,4,5,6,7,9] [1,1,1,1] (Z8 8 (dc 8 [] [1,1,1] [b1,b1,b1] (Jg s.args) ?_))))
 rintro _ _ ⟨v4,rfl,rfl⟩
 exact Zj 1 2 [10] (Z8 11 (Yo 11 1 [] [] b2 [.i s.op,.i s.num,.i s.into,.h v4,VK (s.kids.take k) v] (de (Z9 (r3 [1] [.agg [.i s.op,.i s.num,.i s.into,.h v4,VK (s.kids.take k) v]] [0] [(b2,b2)] ⟨v4,rfl,rfl⟩ (Zf.agg (.cons (lr _) (.cons (lr _) (.cons (lr _) (.cons (lr _) (.cons (Zf.sl _ (Yg Yh (by rw [Vo om]))) .nil)))))))))))
theorem HE (rd:Nat) (bs:LI) (p:Nat) (s:Z3) (Zq:∀z∈bs,0<=z/\z<=255) (hp:p+3<=1000000000:=by exact ob) (hz:s.sz<=100000000:=by exact ob) (hg:s.rng:=by exact ob):Zi 89 [.p rd 0,Yk s] [Y4 rd bs p] (fun r h=>∃(y:Z3) (p2:Nat),r=Yk y/\h=[Y4 rd bs p2]/\WT s y/\p<=p2/\p2<=p+3):=by
 have haz:=Tp s
 have hkz:=U8 s
 refine ZB 66 Tryz.func89 (ar (iA (X6 s) fun b1=>iA [.i 0,.i 0,.i 0,nl,nl] fun b2=>ie (ar (Z6 1 [1] (ic [] (NZ s) ?_)))))
 rintro _ _ ⟨v1,rfl,rfl⟩
 refine iA [.i 0,.i 0,.i 0,nl,nl] fun b3=>Zy 0 b3 [.i s.op,.i s.num,.i s.into,.h v1,Xq s.kids] (ie (aq (ar (Z0 1 (ic [4] (Xs rd bs p 6 (Zq:=ob)) ?_)))))
 rintro _ _ ⟨k1,rfl,rfl,ZT⟩
 refine ie (ab 0 (ar (Z0 2 (ie (ac (k1==0) Zz (fun Za=>?_) (fun Za=>?_))))))
 ·refine az (Z0 1 (iL (Z7 [14,15,16,17,6,9,12,0,1]) 9 1 fun v2=>ZA 0 [(13,Z5 [14,15,16,17,6,9,12,0,1])] (ic [1] (WA rd bs (p+1) [14,15,16,17,6,9,12,0,1] (Zq:=ob)) ?_)))
  rintro _ _ ⟨z1,rfl,rfl,Y6⟩
  have hon:=Y6
  exact Z0 1 (Zy 2 b3 [.i z1,.i s.num,.i s.into,.h v1,Xq s.kids] (ie (ar (Xg (QR 3 v1 s.args) (Xg (VO 0 0 3 v1.v 1 b3 (Z7 s.args) [.i z1,.i s.num,.i s.into,.h v1,Xq s.kids] (Yl _) rfl) (Z6 1 [0] (Zy 4 b2 [.i z1,.i s.num,.i s.into,ZO s.args v1.v,Xq s.kids] (ie (Z9 (r3 [3] [.agg [.i z1,.i s.num,.i s.into,ZO s.args v1.v,Xq s.kids]] [0] [(b2,b2)] ⟨(Z3.mk z1 s.num s.into s.args s.kids),(p+1)+1,rfl,rfl,⟨by first|exact WT.refl hg|exact WT.of hg (by first|exact .inl rfl|exact .inr hon) (by first|exact Nat.le_succ _|(simp<;>omega)) (by first|exact .inl rfl|exact .inr rfl),by omega,by omega⟩⟩ (Zf.agg (.cons (lr _) (.cons (lr _) (.cons (lr _) (.cons (Zf.forget _ _) (.cons (lr _) .nil))))))))))))))))
 refine ar (Z0 2 (ie (ac (k1==1) Zz (fun Zg=>?_) (fun Zg=>?_))))
 ·refine az (Z0 1 (iL (Z7 [0,1,2,3,-1,1000]) 6 1 fun v3=>ZA 0 [(19,Z5 [0,1,2,3,-1,1000])] (ic [1] (WA rd bs (p+1) [0,1,2,3,-1,1000] (Zq:=ob)) ?_)))
  rintro _ _ ⟨z2,rfl,rfl,YA⟩
  have hon:=YA
  exact Z0 1 (Zy 2 b3 [.i s.op,.i z2,.i s.into,.h v1,Xq s.kids] (ie (ar (Xg (QR 3 v1 s.args) (Xg (VO 0 0 3 v1.v 1 b3 (Z7 s.args) [.i s.op,.i z2,.i s.into,.h v1,Xq s.kids] (Yl _) rfl) (Z6 1 [0] (Zy 4 b2 [.i s.op,.i z2,.i s.into,ZO s.args v1.v,Xq s.kids] (ie (Z9 (r3 [3] [.agg [.i s.op,.i z2,.i s.into,ZO s.args v1.v,Xq s.kids]] [0] [(b2,b2)] ⟨(Z3.mk s.op z2 s.into s.args s.kids),(p+1)+1,rfl,rfl,⟨by first|exact WT.refl hg|exact WT.of hg (by first|exact .inl rfl|exact .inr hon) (by first|exact Nat.le_succ _|(simp<;>omega)) (by first|exact .inl rfl|exact .inr rfl),by omega,by omega⟩⟩ (Zf.agg (.cons (lr _) (.cons (lr _) (.cons (lr _) (.cons (Zf.forget _ _) (.cons (lr _) .nil))))))))))))))))
 refine ar (Z0 2 (ie (ac (k1==2) Zz (fun ZK=>?_) (fun ZK=>?_))))
 ·refine az (Z0 1 (iL (Z7 [1,2,0,-1,90]) 5 1 fun v4=>ZA 0 [(25,Z5 [1,2,0,-1,90])] (ic [1] (WA rd bs (p+1) [1,2,0,-1,90] (Zq:=ob)) ?_)))
  rintro _ _ ⟨z3,rfl,rfl,YJ⟩
  have hon:=YJ
  exact Z0 1 (Zy 2 b3 [.i s.op,.i s.num,.i z3,.h v1,Xq s.kids] (ie (ar (Xg (QR 3 v1 s.args) (Xg (VO 0 0 3 v1.v 1 b3 (Z7 s.args) [.i s.op,.i s.num,.i z3,.h v1,Xq s.kids] (Yl _) rfl) (Z6 1 [0] (Zy 4 b2 [.i s.op,.i s.num,.i z3,ZO s.args v1.v,Xq s.kids] (ie (Z9 (r3 [3] [.agg [.i s.op,.i s.num,.i z3,ZO s.args v1.v,Xq s.kids]] [0] [(b2,b2)] ⟨(Z3.mk s.op s.num z3 s.args s.kids),(p+1)+1,rfl,rfl,⟨by first|exact WT.refl hg|exact WT.of hg (by first|exact .inl rfl|exact .inr hon) (by first|exact Nat.le_succ _|(simp<;>omega)) (by first|exact .inl rfl|exact .inr rfl),by omega,by omega⟩⟩ (Zf.agg (.cons (lr _) (.cons (lr _) (.cons (lr _) (.cons (Zf.forget _ _) (.cons (lr _) .nil))))))))))))))))
 refine ar (Z0 2 (ie (ac (k1==3) Zz (fun Yi=>?_) (fun Yi=>?_))))
 ·refine aE 9 (ZD 6 9 [0,1,2] [1] (Z8 3 (dL 3 [1] [b3] (Z7 [0,1,-1]) 3 1 fun v5=>Y9 5 5 [] [(33,Z5 [0,1,-1])] (Z8 4 (dc 4 [1] [0] [b3] (WA rd bs (p+1) [0,1,-1] (Zq:=ob)) ?_)))))
  rintro _ _ ⟨z4,rfl,rfl,YU⟩
  have hon:=YU
  exact Z8 5 (dL 5 [1] [b3] (Z7 [z4]) 1 1 fun v6=>Y9 3 3 [] [(35,Z5 [z4])] (Z8 6 (O2 6 4 [] [] v1 s.args [z4] none fun v7=>Zj 1 2 [7] (Z8 8 (Yo 8 4 [] [] b3 [.i s.op,.i s.num,.i s.into,.h v7,Xq s.kids] (de (ar (Xg (QR 1 v7 (s.args++[z4])) (Xg (VO 0 0 3 v7.v 1 b3 (Z7 (s.args++[z4])) [.i s.op,.i s.num,.i s.into,.h v7,Xq s.kids] (Yl _) rfl) (Z6 1 [0] (Zy 5 b2 [.i s.op,.i s.num,.i s.into,ZO (s.args++[z4]) v7.v,Xq s.kids] (ie (Z9 (r3 [4] [.agg [.i s.op,.i s.num,.i s.into,ZO (s.args++[z4]) v7.v,Xq s.kids]] [0] [(b2,b2)] ⟨(Z3.mk s.op s.num s.into (s.args++[z4]) s.kids),(p+1)+1,rfl,rfl,⟨by first|exact WT.refl hg|exact WT.of hg (by first|exact .inl rfl|exact .inr hon) (by first|exact Nat.le_succ _|(simp<;>omega)) (by first|exact .inl rfl|exact .inr rfl),by omega,by omega⟩⟩ (Zf.agg (.cons (lr _) (.cons (lr _) (.cons (lr _) (.cons (Zf.forget _ _) (.cons (lr _) .nil))))))))))))))))))))
 refine ar (Z0 2 (ie (ac (k1==4) Zz (fun Xt=>?_) (fun Xt=>?_))))
 ·refine ar (Z6 2 [1] (Zn (JZ 2 v1 s.args) (Z0 1 (ie (ZH ((s.args.length:Int)>0) (fun Xu=>?_) (fun Xu=>?_))))))
  ·refine aE 12 (ZD 7 12 [0,1,2,3,4] [1,1] (dx 5 (JZ 2 v1 s.args) (Zj 5 6 [7] (WC 6 8 ?_ ?_))))
   ·refine dc 6 [0] [0] [b3] (Ux rd bs (p+1) s.args.length (Zq:=ob)) ?_
    rintro _ _ ⟨Yd,rfl,rfl,XI⟩
    refine Z8 8 (dL 8 [1] [b3] (Z7 [0,1,2,3,-1,99]) 6 1 fun v8=>Y9 3 3 [] [(52,Z5 [0,1,2,3,-1,99])] (Z8 9 (dc 9 [1] [0] [b3] (WA rd bs ((p+1)+1) [0,1,2,3,-1,99] (Zq:=ob)) ?_)))
    rintro _ _ ⟨z5,rfl,rfl,Wd⟩
    have hon:=Wd
    exact dx 10 (WR 3 v1 s.args (Yd:Int) Yd) (Z8 11 (KU 11 3 [] [] v1 s.args Yd z5 (de (ar (Xg (QR 0 v1 (s.args.set Yd z5)) (Xg (VO 0 2 3 v1.v 1 b3 (Z7 (s.args.set Yd z5)) [.i s.op,.i s.num,.i s.into,.h v1,Xq s.kids] (Yl _) rfl) (Z6 1 [0] (Zy 4 b2 [.i s.op,.i s.num,.i s.into,ZO (s.args.set Yd z5) v1.v,Xq s.kids] (ie (Z9 (r3 [3] [.agg [.i s.op,.i s.num,.i s.into,ZO (s.args.set Yd z5) v1.v,Xq s.kids]] [0] [(b2,b2)] ⟨(Z3.mk s.op s.num s.into (s.args.set Yd z5) s.kids),((p+1)+1)+1,rfl,rfl,⟨by first|exact WT.refl hg|exact WT.of hg (by first|exact .inl rfl|exact .inr hon) (by first|exact Nat.le_succ _|(simp<;>omega)) (by first|exact .inl rfl|exact .inr rfl),by omega,by omega⟩⟩ (Zf.agg (.cons (lr _) (.cons (lr _) (.cons (lr _) (.cons (Zf.forget _ _) (.cons (lr _) .nil)))))))))))))))))
   refine dL 8 [1,1] [b3,b3] (Z7 [0,1,2,3,-1,99]) 6 1 fun v9=>Z8 6 (dc 6 [1] [0] [b3] (Ux rd bs (p+1) s.args.length (Zq:=ob)) ?_)
   rintro _ _ ⟨Yr,rfl,rfl,WM⟩
   refine Y9 3 3 [] [(52,Z5 [0,1,2,3,-1,99])] (Z8 9 (dc 9 [0] [0] [b3] (WA rd bs ((p+1)+1) [0,1,2,3,-1,99] (Zq:=ob)) ?_))
   rintro _ _ ⟨z6,rfl,rfl,V1⟩
   have hon:=V1
   exact dx 10 (WR 3 v1 s.args (Yr:Int) Yr) (Z8 11 (KU 11 3 [] [] v1 s.args Yr z6 (de (ar (Xg (QR 0 v1 (s.args.set Yr z6)) (Xg (VO 0 2 3 v1.v 1 b3 (Z7 (s.args.set Yr z6)) [.i s.op,.i s.num,.i s.into,.h v1,Xq s.kids] (Yl _) rfl) (Z6 1 [0] (Zy 4 b2 [.i s.op,.i s.num,.i s.into,ZO (s.args.set Yr z6) v1.v,Xq s.kids] (ie (Z9 (r3 [3] [.agg [.i s.op,.i s.num,.i s.into,ZO (s.args.set Yr z6) v1.v,Xq s.kids]] [0] [(b2,b2)] ⟨(Z3.mk s.op s.num s.into (s.args.set Yr z6) s.kids),((p+1)+1)+1,rfl,rfl,⟨by first|exact WT.refl hg|exact WT.of hg (by first|exact .inl rfl|exact .inr hon) (by first|exact Nat.le_succ _|(simp<;>omega)) (by first|exact .inl rfl|exact .inr rfl),by omega,by omega⟩⟩ (Zf.agg (.cons (lr _) (.cons (lr _) (.cons (lr _) (.cons (Zf.forget _ _) (.cons (lr _) .nil)))))))))))))))))
  exact ak (ar (Xg (QR 2 v1 s.args) (Xg (VO 0 1 3 v1.v 1 b3 (Z7 s.args) [.i s.op,.i s.num,.i s.into,.h v1,Xq s.kids] (Yl _) rfl) (Z6 1 [0] (Zy 3 b2 [.i s.op,.i s.num,.i s.into,ZO s.args v1.v,Xq s.kids] (ie (Z9 (r3 [3] [.agg [.i s.op,.i s.num,.i s.into,ZO s.args v1.v,Xq s.kids]] [0] [(b2,b2)] ⟨s,p+1,rfl,rfl,⟨by first|exact WT.refl hg|exact WT.of hg (by first|exact .inl rfl|exact .inr hon) (by first|exact Nat.le_succ _|(simp<;>omega)) (by first|exact .inl rfl|exact .inr rfl),by omega,by omega⟩⟩ (Zf.agg (.cons (lr _) (.cons (lr _) (.cons (lr _) (.cons (Zf.forget _ _) (.cons (lr _) .nil))))))))))))))
 refine ar (Z0 2 (ie (ac (k1==5) Zz (fun Tv=>?_) (fun Tv=>?_))))
 ·refine ar (Z6 2 [1] (iw (Vh s.kids) (Z0 1 (ie (ZH ((s.kids.length:Int)>0) (fun UM=>?_) (fun UM=>?_))))))
  ·exact az (Z6 2 [1] (Zn (Kw (es:=Yh s.kids) (hv:=none) (l:=1) (m:=(((Yh s.kids).length:Nat):Int)) (sz:=2) (es':=Yh (s.kids.drop 1)) kr om (by simp<;>omega) (by simp<;>omega) (Ue _) (by first|(simp only [U0,V9,Ed,Ec];done)|(simp only [U0,V9,Ed,Ec];rfl)|(simp [Ed,Ec];done))) (Z0 1 (Zy 1 b3 [.i s.op,.i s.num,.i s.into,.h v1,Xq (s.kids.drop 1)] (ie (ar (Xg (QR 2 v1 s.args) (Xg (VO 0 0 3 v1.v 1 b3 (Z7 s.args) [.i s.op,.i s.num,.i s.into,.h v1,Xq (s.kids.drop 1)] (Yl _) rfl) (Z6 1 [0] (Zy 3 b2 [.i s.op,.i s.num,.i s.into,ZO s.args v1.v,Xq (s.kids.drop 1)] (ie (Z9 (r3 [3] [.agg [.i s.op,.i s.num,.i s.into,ZO s.args v1.v,Xq (s.kids.drop 1)]] [0] [(b2,b2)] ⟨(Z3.mk s.op s.num s.into s.args (s.kids.drop 1)),p+1,rfl,rfl,⟨by first|exact WT.refl hg|exact WT.of hg (by first|exact .inl rfl|exact .inr hon) (by first|exact Nat.le_succ _|(simp<;>omega)) (by first|exact .inl rfl|exact .inr rfl),by omega,by omega⟩⟩ (Zf.agg (.cons (lr _) (.cons (lr _) (.cons (lr _) (.cons (Zf.forget _ _) (.cons (lr _) .nil)))))))))))))))))))
  exact ak (ar (Xg (QR 2 v1 s.args) (Xg (VO 0 1 3 v1.v 1 b3 (Z7 s.args) [.i s.op,.i s.num,.i s.into,.h v1,Xq s.kids] (Yl _) rfl) (Z6 1 [0] (Zy 3 b2 [.i s.op,.i s.num,.i s.into,ZO s.args v1.v,Xq s.kids] (ie (Z9 (r3 [3] [.agg [.i s.op,.i s.num,.i s.into,ZO s.args v1.v,Xq s.kids]] [0] [(b2,b2)] ⟨s,p+1,rfl,rfl,⟨by first|exact WT.refl hg|exact WT.of hg (by first|exact .inl rfl|exact .inr hon) (by first|exact Nat.le_succ _|(simp<;>omega)) (by first|exact .inl rfl|exact .inr rfl),by omega,by omega⟩⟩ (Zf.agg (.cons (lr _) (.cons (lr _) (.cons (lr _) (.cons (Zf.forget _ _) (.cons (lr _) .nil))))))))))))))
 exact ak (ar (Xg (QR 2 v1 s.args) (Xg (VO 0 1 3 v1.v 1 b3 (Z7 s.args) [.i s.op,.i s.num,.i s.into,.h v1,Xq s.kids] (Yl _) rfl) (Z6 1 [0] (Zy 3 b2 [.i s.op,.i s.num,.i s.into,ZO s.args v1.v,Xq s.kids] (ie (Z9 (r3 [3] [.agg [.i s.op,.i s.num,.i s.into,ZO s.args v1.v,Xq s.kids]] [0] [(b2,b2)] ⟨s,p+1,rfl,rfl,⟨by first|exact WT.refl hg|exact WT.of hg (by first|exact .inl rfl|exact .inr hon) (by first|exact Nat.le_succ _|(simp<;>omega)) (by first|exact .inl rfl|exact .inr rfl),by omega,by omega⟩⟩ (Zf.agg (.cons (lr _) (.cons (lr _) (.cons (lr _) (.cons (Zf.forget _ _) (.cons (lr _) .nil))))))))))))))
theorem PV (rd:Nat) (bs:LI) (p:Nat) (mx:Int) (Zq:∀z∈bs,0<=z/\z<=255) (hp:p+1<=1000000000):Zi 50 [.p rd 0,.i mx] [Y4 rd bs p] (fun r h=>∃(k:Int),r=.i k/\h=[.obj rd [WW bs,.i (p+1:Nat)]]/\Pk mx k/\k=Ks bs p mx):=by
 refine ZB 99 Tryz.func50 (ar (Z0 1 (ie (ar (Z6 5 [0] (ZE p (Z0 2 (Zy 0 rd [WW bs,.i (p+1:Nat)] (ie (aq (ar (Xr [0,1] [(24,.b ((decide (mx<1))||((bs.length:Int)==0)))] (fun gz=>gz) ?_ ?_))))))))))))
 ·refine Z0 3 (ib (b:=(decide (mx<1))) 17 (fun Zb=>?_) (fun Zb=>?_))
  ·exact Z0 7 (ie (wk [0] (ZJ true Zb fl)))
  exact Z6 4 [0] (iw (TR bs) (Z0 2 (ie (wk [0] (ZJ ((bs.length:Int)==0) Zb fl)))))
 refine ac ((decide (mx<1))||((bs.length:Int)==0)) (p:=(mx<1)∨((bs.length:Int)=0)) (X3 dq Zz) (fun Za=>?_) (fun Za=>?_)
 ·exact ar (Z0 1 (ie (Z9 (r1 [0] ⟨0,rfl,rfl,⟨Pk.zero,by rw [Ks,Zw om]⟩⟩))))
 refine ak (ar (Z6 4 [0] (ia ((p:Int)) ((((p+1:Nat):Int))-(1)) (Z0 1 (ie (aq (ar (Z6 5 [0] (iw (TR bs) (Z0 1 (ie (ZH ((p:Int)<(bs.length:Int)) (fun Zg=>?_) (fun Zg=>?_)))))))))))))
 ·refine ar (Z6 5 [0] ?_)
  obtain ⟨x1,Z2⟩:=Zp bs p om
  have hz:=Zq _ (ZU Z2)
  exact Zn (Zh none (p:Int) 1 (Ai Z2)) (Z0 1 (Zn (Av x1 om) (Z0 1 (Zn (Bs x1 mx om om) (Z0 1 (ie (Z9 (r1 [0] ⟨(x1 % mx),rfl,rfl,⟨Pk.rem om om,by rw [Ks,Zs om,Zw om,Z2];rfl⟩⟩))))))))
 have hq1:p / bs.length<=p:=Nat.div_le_self _ _
 have hq0:(0:Int)<=((p / bs.length:Nat):Int):=Int.natCast_nonneg _
 refine ak (aD 46 (ZD 37 46 [0,1,2,3,4,5,6,7,8] [0,0] (dw 9 (TR bs) (dx 10 (CJ p bs.length om om) ?_))))
 obtain ⟨x2,Zt⟩:=Zp bs (p % bs.length) (Nat.mod_lt _ om)
 have hz:=Zq _ (ZU Zt)
 have hy2:=Zt
 refine dx 11 (Zh none ((p % bs.length:Nat):Int) 1 (Ai Zt)) (Zj 33 34 [12] (dx 13 (Av x2 om) (da 14 ((x2*131)) ((x2)*(131)) (ZD 26 31 [15,16,17,18,19] [0] (da 20 (((p*7:Nat):Int)) (((p:Int))*(7)) (da 21 (((p*7+3:Nat):Int)) ((((p*7:Nat):Int))+(3)) (ZD 20 24 [22,23,24,25] [0] (dw 26 (TR bs) (dx 27 (CJ (p*7+3) bs.length om om) ?_)))))))))
 obtain ⟨x3,YQ⟩:=Zp bs ((p*7+3) % bs.length) (Nat.mod_lt _ om)
 have hz3:=Zq _ (ZU YQ)
 have hy3:=YQ
 exact dx 28 (Zh none (((p*7+3) % bs.length:Nat):Int) 1 (Ai YQ)) (Zj 16 17 [29] (dx 30 (Av x3 om) (da 31 ((x3*1117)) ((x3)*(1117)) (da 32 (((x2*131)+(x3*1117))) (((x2*131))+((x3*1117))) (Zj 12 13 [33] (da 34 (((p*29:Nat):Int)) (((p:Int))*(29)) (da 35 ((((x2*131)+(x3*1117))+((p*29:Nat):Int))) ((((x2*131)+(x3*1117)))+(((p*29:Nat):Int))) (ZD 5 10 [36,37,38,39,40] [0] (dw 41 (TR bs) (dx 42 (JM p bs.length om om) (da 43 ((((p / bs.length:Nat):Int)*53)) ((((p / bs.length:Nat):Int))*(53)) (da 44 (((((x2*131)+(x3*1117))+((p*29:Nat):Int))+(((p / bs.length:Nat):Int)*53))) (((((x2*131)+(x3*1117))+((p*29:Nat):Int)))+((((p / bs.length:Nat):Int)*53))) (Zj 0 1 [45] (de (ar (Z0 2 (Zn (EU ((((x2*131)+(x3*1117))+((p*29:Nat):Int))+(((p / bs.length:Nat):Int)*53)) 64 om om) (Zn (HZ ((((x2*131)+(x3*1117))+((p*29:Nat):Int))+(((p / bs.length:Nat):Int)*53)) (((((x2*131)+(x3*1117))+((p*29:Nat):Int))+(((p / bs.length:Nat):Int)*53)) / 64)) (Z0 1 (ie (ar (Z0 2 (Zn (Bs (Kz ((((x2*131)+(x3*1117))+((p*29:Nat):Int))+(((p / bs.length:Nat):Int)*53)) (((((x2*131)+(x3*1117))+((p*29:Nat):Int))+(((p / bs.length:Nat):Int)*53)) / 64)) mx om (Dz ⟨by omega,by omega⟩ ⟨by omega,by omega⟩).1) (Z0 1 (ie (Z9 (r1 [0] ⟨((Kz ((((x2*131)+(x3*1117))+((p*29:Nat):Int))+(((p / bs.length:Nat):Int)*53)) (((((x2*131)+(x3*1117))+((p*29:Nat):Int))+(((p / bs.length:Nat):Int)*53)) / 64)) % mx),rfl,rfl,⟨Pk.rem (Dz ⟨by omega,by omega⟩ ⟨by omega,by omega⟩).1 om,by rw [Ks,Zs om,Zs om,hy2,hy3];rfl⟩⟩)))))))))))))))))))))))))))
theorem PW (rd:Nat) (bs:LI) (p:Nat) (mx:Nat) (Zq:∀z∈bs,0<=z/\z<=255) (hp:p+1<=1000000000:=by exact ob) (hmx:0<mx:=by exact ob):Zi 50 [.p rd 0,.i mx] [Y4 rd bs p] (fun r h=>∃(kn:Nat),r=.i kn/\h=[.obj rd [WW bs,.i (p+1:Nat)]]/\kn<mx/\kn=(Ks bs p mx).toNat):=(PV rd bs p mx Zq hp).mono fun r h ⟨z,hr,hh,hz,he⟩=>by
  have h0:=hz.lt om
  exact ⟨z.toNat,by rw [hr,Int.toNat_of_nonneg h0.1],hh,by omega,by rw [he]⟩
theorem NY (s:Z3) (hz:s.sz<=1000000000):Zi 127 [Yk s] [] (fun r h=>∃(v:Hd),r=.agg [.i s.op,.i s.num,.i s.into,Z5 s.args,.h v]/\h=[rK v 2 (Zc (Yh s.kids))]):=by
 have hkz:=U8 s
 have haz:=Tp s
 refine ZB 33 Tryz.func127 (ar (iA (X6 s) fun b1=>iA [.i 0,.i 0,.i 0,nl,nl] fun b2=>ie (ar (CF 2 fun g1=>?_))))
 refine Z0 1 (ie (aq (ar (Z0 1 (ie (ab 0 (ZX (fun fz gz m F h=>∃(k:Nat) (v:Hd),(k<=s.kids.length)/\F=sF [1,2] fz [(3,.h v),(4,.i k)]/\h=[Ze gz 1,Ze gz 2,rK v 2 (Zc (Yh (s.kids.take k)))]/\m=s.kids.length-k) _ _ _ ⟨0,(⟨some ⟨g1,0,none⟩,0,0⟩:Hd),ob,rfl,rfl,rfl⟩ (wk [1,1,0] (fr (Y7 fl)) (e:=(rc (rc (rr (ls:=[]) ob rz))))) ?_)))))))
 rintro m F h ⟨k,v,Y8,rfl,rfl,rfl⟩
 refine aq (ar (Z6 3 [1] (iw (Vh s.kids) (Z0 1 (ie (ZH ((k:Int)<(s.kids.length:Int)) (fun Za=>?_) (fun Za=>?_)))))))
 ·refine ak (aq (ab 1 (az (Z6 4 [1] ?_))))
  obtain ⟨x1,Z2⟩:=Zp s.kids k om
  have hks:=VW Z2
  exact Zn (Zh none (k:Int) 2 (Vs Z2)) (Z0 1 (Zr [] (Dn x1) (iL [ZC x1] 1 2 fun v1=>ZA 0 [(20,.sl [ZC x1] none)] (CE 3 k v 2 (Zc (Yh (s.kids.take k))) [ZC x1] none (by rw [Bf,W8,WS om]) (UQ rfl) rfl (List.cons_ne_nil _ _) (by simp<;>omega) fun v2=>Z0 1 (ie (az (Z0 1 (ZE k (Z0 1 (ie (ZG ⟨k+1,v2,ob,rfl,rfl,rfl⟩ (wk [2,2,0] (fr (ZI k fl)) (e:=(rc (rc (rr (ls:=Zc (Yh (s.kids.take k))++Zc [ZC x1]) (OO Z2) rz))))))))))))))))
 refine ax 0 (aD 12 (ZD 3 12 [0,1,2,3,4,5,6,7,9] [1,1,1,1] (Z8 8 (dc 8 [] [1,1,1] [b1,b1,b1] (V7 s.args) ?_))))
 rintro _ _ ⟨v3,rfl,rfl⟩
 exact Zj 1 2 [10] (Z8 11 (Yo 11 1 [] [] b2 [.i s.op,.i s.num,.i s.into,ZO s.args v3,.h v] (de (Z9 (r3 [3] [.agg [.i s.op,.i s.num,.i s.into,ZO s.args v3,.h v]] [0] [(b2,b2)] ⟨v,rfl,rfl⟩ (Zf.agg (.cons (lr _) (.cons (lr _) (.cons (lr _) (.cons (Zf.forget _ _) (.cons (lr _) .nil)))))) (eq:=(rr (ls:=Zc (Yh (s.kids.take k))) (by rw [Vo om]) rz)))))))
theorem NX (s:Z3) (fl:Bool) (hz:s.sz<=1000000000:=by exact ob):Zi 127 [Yk s] [] (fun r h=>(∃(v:Hd),r=.agg [.i s.op,.i s.num,.i s.into,Z5 s.args,.h v]/\h=[rK v 2 (Zc (Yh s.kids))]/\fl=true)∨(r=Yk s/\h=[]/\fl=false)):=by
 cases fl with
 | true=>exact (NY s hz).mono fun r h ⟨v,hr,hh⟩=>.inl ⟨v,hr,hh,rfl⟩
 | false=>exact (LN s hz).mono fun r h ⟨hr,hh⟩=>.inr ⟨hr,hh,rfl⟩
theorem NU (b:Z4) (kk:Nat) (hz:b.sz<=1000000000:=by exact ob) (hkk:kk<b.steps.length:=by exact ob):Zi 86 [ZC b] [] (fun r h=>∃(v:Hd) (u:Hd),r=.agg [.h v,.i b.result]/\h=[rK v 5 (W2 b kk u.v b.steps.length),rK u 2 (VJ b kk b.steps.length)]):=by
 have hbz:=WQ b
 refine ZB 28 Tryz.func86 (ar (iA (YE b) fun b1=>iA [nl,.i 0] fun b2=>ie (ar (CF 5 fun g1=>Z6 3 [2] (iA [nl,.i 0] fun b3=>?_)))))
 refine Zy 0 b3 [.ms g1 0 0 0,.i b.result] (ie (aq (ar (Xg (Z3c (k:=2)) (Z0 1 (ie (ab 0 (ZX (fun fz gz m F h=>∃(k:Nat) (v:Hd) (u:Hd),(k<=b.steps.length)/\F=sF [1,2,3] fz [(4,.i k)]/\h=[.obj b3 [.h v,.i b.result],Ze gz 3,Ze gz 4,rK v 5 (W2 b kk u.v k),rK u 2 (VJ b kk k)]/\m=b.steps.length-k) _ _ _ ⟨0,(⟨some ⟨g1,0,none⟩,0,0⟩:Hd),hN,ob,rfl,rfl,rfl⟩ (wk [1,2,2,1,0] (Y7 fl) (e:=(rc (rc (rc (rr (ls:=[]) (by first|exact I2.symm|exact I5.symm) (rr (ls:=[]) (by first|exact I2.symm|exact I5.symm) rz))))))) ?_))))))))
 rintro m F h ⟨k,v,u,Y8,rfl,rfl,rfl⟩
 refine aq (ar (Z6 3 [2] (iw (W1 b.steps) (Z0 1 (ie (ZH ((k:Int)<(b.steps.length:Int)) (fun Za=>?_) (fun Za=>?_)))))))
 ·refine ak (aq (ab 1 (aE 12 (ZD 7 12 [0,1,2,3,4] [0,2] ?_))))
  obtain ⟨x1,Z2⟩:=Zp b.steps k om
  have hss:=Q3 Z2
  refine dx 5 (Zh none (k:Int) 5 (XG Z2)) (Zj 5 6 [6] (Z8 7 (dc 7 [] [0] [b3] (NX x1 (decide (k=kk))) ?_)))
  rintro _ _ (⟨v1,rfl,rfl,ZT⟩|⟨rfl,rfl,Y6⟩)
  ·have hke:k=kk:=of_decide_eq_true ZT
   exact E8 (Md [1,1,1,0,0,0] (h':=[.obj b3 [.h v,.i b.result],.obj b2 [nl,.i 0],.obj b1 (YE b),rK v1 2 (Zc (Yh x1.kids)),rK v 5 (W2 b kk u.v k),rK u 2 (VJ b kk k)]) (d:=[]) kr) (Z8 8 (dL 8 [0] [b3] [.agg [.i x1.op,.i x1.num,.i x1.into,Z5 x1.args,.h v1]] 1 5 fun v2=>Y9 3 3 [] [(24,.sl [.agg [.i x1.op,.i x1.num,.i x1.into,Z5 x1.args,.h v1]] none)] (Z8 9 (E5 9 5 k [] [] v 5 (W2 b kk u.v k) [.agg [.i x1.op,.i x1.num,.i x1.into,Z5 x1.args,.h v1]] none (EX om) (UQ rfl) rfl (List.cons_ne_nil _ _) (by simp<;>omega) fun v3=>Zj 1 2 [10] (Z8 11 (Yo 11 2 [] [] b3 [.h v3,.i b.result] (de (az (Z0 1 (ZE k (Z0 1 (ie (ZG ⟨k+1,v3,v1,ob,rfl,rfl,rfl⟩ (wk [0,2,2,0,1] (ZI k fl) (e:=(rc (rc (rc (rr (ls:=W2 b kk u.v k++Zc [.agg [.i x1.op,.i x1.num,.i x1.into,Z5 x1.args,.h v1]]) (by first|(subst hke;exact I1 Z2)|(subst hke;exact I4 Z2)) (rr (ls:=Zc (Yh x1.kids)) (by first|(subst hke;exact I1 Z2)|(subst hke;exact I4 Z2)) rz))))))))))))))))))))
  have hke:¬k=kk:=of_decide_eq_false Y6
  exact Z8 8 (dL 8 [0] [b3] [Yk x1] 1 5 fun v4=>Y9 3 3 [] [(24,.sl [Yk x1] none)] (Z8 9 (E5 9 4 k [] [] v 5 (W2 b kk u.v k) [Yk x1] none (EX om) (UQ rfl) rfl (List.cons_ne_nil _ _) (by simp<;>omega) fun v5=>Zj 1 2 [10] (Z8 11 (Yo 11 2 [] [] b3 [.h v5,.i b.result] (de (az (Z0 1 (ZE k (Z0 1 (ie (ZG ⟨k+1,v5,u,ob,rfl,rfl,rfl⟩ (wk [0,2,2,0,1] (ZI k fl) (e:=(rc (rc (rc (rr (ls:=W2 b kk u.v k++Zc [Yk x1]) (by first|exact I0 Z2 hke|exact I3 hke) (rr (ls:=VJ b kk k) (by first|exact I0 Z2 hke|exact I3 hke) rz)))))))))))))))))))
 exact ax 0 (ar (Z6 1 [0] (Zy 1 b2 [.h v,.i b.result] (ie (Z9 (r3 [3,3] [.agg [.h v,.i b.result]] [0] [(b2,b2)] ⟨v,u,rfl,rfl⟩ (lr _) (eq:=(rr (ls:=W2 b kk u.v k) (by rw [show k=b.steps.length by omega]) (rr (ls:=VJ b kk k) (by rw [show k=b.steps.length by omega]) rz)))))))))
theorem R5 (rd:Nat) (bs:LI) (p:Nat) (b:Z4) (Zq:∀z∈bs,0<=z/\z<=255) (hp:p+(10*b.sz)<=1000000000) (hz:b.sz<=20000000) (hg:b.rng) (h0:b.steps.length=0):Zi 53 [.p rd 0,ZC b] [Y4 rd bs p] (fun r h=>∃(y:Z4) (p2:Nat),r=ZC y/\h=[Y4 rd bs p2]/\X0 b y/\p<=p2/\p2<=p+(10*b.sz)):=by
 have hbp:=b.sz_pos
 refine ZB 109 Tryz.func53 (ar (iA (YE b) fun b1=>iA [nl,.i 0] fun b2=>ie (ar (Z6 1 [1] (Zr [] (Dn b) (iA [nl,.i 0] fun b3=>Zy 0 b3 (YE b) (ie (aq (ar (Z6 2 [0] (iw (W1 b.steps) (Z0 2 (ib (b:=((b.steps.length:Int)==0)) 14 (fun Zb=>?_) (fun Zb=>?_))))))))))))))
 ·refine Z0 4 (ie (WZ (ar (Z0 1 (iL (Z7 [0,1,2,3,-1,99]) 6 1 fun v1=>ZA 0 [(20,Z5 [0,1,2,3,-1,99])] (ic [4] (WA rd bs p [0,1,2,3,-1,99] (Zq:=ob)) ?_))))))
  rintro _ _ ⟨z1,rfl,rfl,Y6⟩
  exact Z0 1 (Zy 2 b3 [W7 b.steps,.i z1] (ie (ar (Z6 1 [0] (Zy 3 b2 [W7 b.steps,.i z1] (ie (Z9 (r3 [2] [.agg [W7 b.steps,.i z1]] [0] [(b2,b2)] ⟨(Z4.mk b.steps z1),p+1,rfl,rfl,⟨X0.result hg _,by have:=b.sz_pos;omega,by have:=b.sz_pos;omega⟩⟩ (lr _)))))))))
 have YA:¬((b.steps.length:Int)=0):=YH Zz Zb
 exact absurd (show (b.steps.length:Int)=0 by omega) YA
theorem R6 (rd:Nat) (bs:LI) (p:Nat) (b:Z4) (Zq:∀z∈bs,0<=z/\z<=255) (hp:p+(10*b.sz)<=1000000000) (hz:b.sz<=20000000) (hg:b.rng) (h0:0<b.steps.length) (ih:∀(rd:Nat) (bs:LI) (p:Nat) (b2:Z4),(∀z∈bs,0<=z/\z<=255)->(p+(10*b2.sz)<=1000000000)->(b2.sz<=20000000)->(b2.rng)->(b2.sz<b.sz)->Zi 53 [.p rd 0,ZC b2] [Y4 rd bs p] (fun r h=>∃(y:Z4) (p2:Nat),r=ZC y/\h=[Y4 rd bs p2]/\X0 b2 y/\p<=p2/\p2<=p+(10*b2.sz))):Zi 53 [.p rd 0,ZC b] [Y4 rd bs p] (fun r h=>∃(y:Z4) (p2:Nat),r=ZC y/\h=[Y4 rd bs p2]/\X0 b y/\p<=p2/\p2<=p+(10*b.sz)):=by
 have hbp:=b.sz_pos
 obtain ⟨kk,hkk⟩:∃kk,kk=(Ks bs (p+1) (b.steps.length:Int)).toNat:=⟨_,rfl⟩
 have hkl:kk<b.steps.length:=by have:=Z0b (bs:=bs) (p:=p+1) (mx:=(b.steps.length:Int)) om;omega
 obtain ⟨sk,hsk⟩:=Zp b.steps kk hkl
 have hsb:=Q3 hsk
 have hsg:=Z0p hg hsk
 have hst:=WQ b
 refine ZB 109 Tryz.func53 (ar (iA (YE b) fun b1=>iA [nl,.i 0] fun b2=>ie (ar (Z6 1 [1] (ic [] (NU b kk) ?_)))))
 rintro _ _ ⟨v1,u1,rfl,rfl⟩
 refine CD 0 b.steps.length (v:=v1) (EX (kk:=kk) (u:=u1.v) (YI b.steps.length)) om (fun g1 c1 he1=>?_)
 subst he1
 refine Xg (Md [0,1,1,1,0] (h':=[.row (.slice (some ⟨g1,0,none⟩) b.steps.length c1) 5 (W2 b kk u1.v b.steps.length),.obj b2 [nl,.i 0],.obj b1 (YE b),Y4 rd bs p,rK u1 2 (VJ b kk b.steps.length)]) (d:=[]) kr) (iA [nl,.i 0] fun b3=>Zy 0 b3 [.ms g1 0 b.steps.length c1,.i b.result] (ie (aq (ar (Z6 2 [0] (io (.i b.steps.length) (.i b.steps.length) (lr _) (Z0 2 (ib (b:=((b.steps.length:Int)==0)) 14 (fun Zb=>?_) (fun Zb=>?_)))))))))
 ·have ZT:(b.steps.length:Int)=0:=(Zz).1 Zb
  exact absurd ZT om
 have Y6:¬((b.steps.length:Int)=0):=YH Zz Zb
 refine Z0 1 (ic [4] (Xs rd bs p 5 (Zq:=ob)) ?_)
 rintro _ _ ⟨k1,rfl,rfl,YA⟩
 refine Z0 2 (ie (ac (k1==0) Zz (fun Za=>?_) (fun Za=>?_)))
 ·refine ar (Xg (FM 5 2 b kk sk u1.v (.slice (some ⟨g1,0,none⟩) b.steps.length c1) hsk) (Xg (VO 0 2 0 (.slice (some ⟨g1,0,none⟩) b.steps.length c1) 5 b3 (Zk b.steps) [.ms g1 0 b.steps.length c1,.i b.result] (YP _) rfl) (Z0 1 (iL (Z7 [0,1,2,3,-1,99]) 6 1 fun v2=>ZA 0 [(20,Z5 [0,1,2,3,-1,99])] (ic [4] (WA rd bs (p+1) [0,1,2,3,-1,99] (Zq:=ob)) ?_)))))
  rintro _ _ ⟨z1,rfl,rfl,YJ⟩
  exact Z0 1 (Zy 2 b3 [Yx b.steps (.slice (some ⟨g1,0,none⟩) b.steps.length c1),.i z1] (ie (ar (Z6 1 [0] (Zy 5 b2 [Yx b.steps (.slice (some ⟨g1,0,none⟩) b.steps.length c1),.i z1] (ie (Z9 (r3 [2] [.agg [Yx b.steps (.slice (some ⟨g1,0,none⟩) b.steps.length c1),.i z1]] [0] [(b2,b2)] ⟨(Z4.mk b.steps z1),(p+1)+1,rfl,rfl,(by first|exact ⟨X0.result hg _,by omega,by omega⟩|exact ⟨X0.kid hg hsk hck hyb.1,by omega,by omega⟩|exact ⟨X0.del hg,by omega,by omega⟩|exact ⟨X0.put hg,by omega,by omega⟩|exact ⟨X0.set hg hsk ⟨by have:=hys.1.1;omega,hys.1.2⟩,by omega,by omega⟩)⟩ (Zf.agg (.cons (Zf.forget _ _) (.cons (lr _) .nil)))))))))))
 refine ak (ar (Z6 3 [1] (io (.i b.steps.length) (.i b.steps.length) (lr _) (ic [0] (PW rd bs (p+1) b.steps.length (Zq:=ob)) ?_))))
 rintro _ _ ⟨Yd,rfl,rfl,YU⟩
 have hkn:Yd=kk:=by have:=YU.2;omega
 refine Z0 1 (ie (aq (ar (Z6 3 [1] (Zn (XB g1 b.steps.length c1 Yd 5 (Yd:Int)) (Z0 1 (V2 (Wn 2 g1 b.steps.length c1 5 (Yd*5+4) (W2 b kk u1.v b.steps.length) [.h u1] 42 (.h u1) (by rw [hkn];exact CN hsk)) (Zn (RY 5 sk.kids.length u1 2 (VJ b kk b.steps.length) (by rw [EY hsk];exact Bf _)) (Z0 2 (ib (b:=(decide ((sk.kids.length:Int)>0))) 37 (fun ZM=>?_) (fun ZM=>?_)))))))))))
 ·have XI:(sk.kids.length:Int)>0:=(dq).1 ZM
  refine Z0 1 (ic [0] (Xs rd bs ((p+1)+1) 3 (Zq:=ob)) ?_)
  rintro _ _ ⟨k2,rfl,rfl,Wd⟩
  refine Z0 2 (ie (ZH (k2>0) (fun Zg=>?_) (fun Zg=>?_)))
  ·refine ar (Xg (FP 5 u1.v 2 (VJ b kk b.steps.length) (Zc (Yh sk.kids)) (EY hsk)) (CD 0 sk.kids.length (v:=u1) (Bf _) om (fun g2 c2 he2=>?_)))
   subst he2
   refine Z6 4 [2] (Zn (XB g1 b.steps.length c1 Yd 5 (Yd:Int)) (Z0 1 (V2 (Wn 3 g1 b.steps.length c1 5 (Yd*5+4) (W2 b kk (.slice (some ⟨g2,0,none⟩) sk.kids.length c2) b.steps.length) [.ms g2 0 sk.kids.length c2] 42 (.ms g2 0 sk.kids.length c2) (by rw [hkn];exact CN hsk)) (io (.i sk.kids.length) (.i sk.kids.length) (lr _) (ic [1] (Ux rd bs (((p+1)+1)+1) sk.kids.length (Zq:=ob)) ?_)))))
   rintro _ _ ⟨Yr,rfl,rfl,WM⟩
   obtain ⟨ck,hck⟩:=Zp sk.kids Yr om
   have hckz:=VW hck
   have hckb:=Q3 hsk
   have hckg:=L8 hg hsk hck
   refine Z0 1 (ie (aD 20 (ZD 17 20 [0,1,2] [2] (dx 3 (XB g1 b.steps.length c1 Yd 5 (Yd:Int)) (Zj 15 16 [4] (Vb 5 (Wn 3 g1 b.steps.length c1 5 (Yd*5+4) (W2 b kk (.slice (some ⟨g2,0,none⟩) sk.kids.length c2) b.steps.length) [.ms g2 0 sk.kids.length c2] 42 (.ms g2 0 sk.kids.length c2) (by rw [hkn];exact CN hsk)) (ZD 9 14 [6,7,8,9,10] [2] (dx 11 (XB g1 b.steps.length c1 Yd 5 (Yd:Int)) (Zj 7 8 [12] (Vb 13 (Wn 3 g1 b.steps.length c1 5 (Yd*5+4) (W2 b kk (.slice (some ⟨g2,0,none⟩) sk.kids.length c2) b.steps.length) [.ms g2 0 sk.kids.length c2] 42 (.ms g2 0 sk.kids.length c2) (by rw [hkn];exact CN hsk)) (Zj 5 6 [14] (dx 15 (XB g2 sk.kids.length c2 Yr 2 (Yr:Int)) (Vb 16 (Wn 1 g2 sk.kids.length c2 2 (Yr*2) (Zc (Yh sk.kids)) (YE ck) 30 (ZC ck) (ON hck)) (Z8 17 (dc 17 [0] [2,1] [g1,b3] (ih rd bs ((((p+1)+1)+1)+1) ck ob ob ob ob ob) ?_)))))))))))))))
   rintro _ _ ⟨y1,p21,rfl,rfl,V1⟩
   have hyb:=V1
   exact dx 18 (XB g2 sk.kids.length c2 Yr 2 (Yr:Int)) (Z8 19 (Jv 19 1 [] [] g2 sk.kids.length c2 2 (Yr*2) (YE y1) (Zc (Yh sk.kids)) (Zc (Yh (sk.kids.set Yr y1))) (by rw [Bf];simp only [Yw,YV];omega) (OP y1 om) (de (ar (Xg (Ma 0 2 b kk sk (sk.kids.set Yr y1) (.slice (some ⟨g2,0,none⟩) sk.kids.length c2) (.slice (some ⟨g1,0,none⟩) b.steps.length c1) hsk) (Xg (VO 0 2 0 (.slice (some ⟨g1,0,none⟩) b.steps.length c1) 5 b3 (Zk (b.steps.set kk (Z3.mk sk.op sk.num sk.into sk.args (sk.kids.set Yr y1)))) [.ms g1 0 b.steps.length c1,.i b.result] (YP _) rfl) (Z6 1 [0] (Zy 4 b2 [Yx (b.steps.set kk (Z3.mk sk.op sk.num sk.into sk.args (sk.kids.set Yr y1))) (.slice (some ⟨g1,0,none⟩) b.steps.length c1),.i b.result] (ie (Z9 (r3 [4] [.agg [Yx (b.steps.set kk (Z3.mk sk.op sk.num sk.into sk.args (sk.kids.set Yr y1))) (.slice (some ⟨g1,0,none⟩) b.steps.length c1),.i b.result]] [0] [(b2,b2)] ⟨(Z4.mk (b.steps.set kk (Z3.mk sk.op sk.num sk.into sk.args (sk.kids.set Yr y1))) b.result),p21,rfl,rfl,(by first|exact ⟨X0.result hg _,by omega,by omega⟩|exact ⟨X0.kid hg hsk hck hyb.1,by omega,by omega⟩|exact ⟨X0.del hg,by omega,by omega⟩|exact ⟨X0.put hg,by omega,by omega⟩|exact ⟨X0.set hg hsk ⟨by have:=hys.1.1;omega,hys.1.2⟩,by omega,by omega⟩)⟩ (Zf.agg (.cons (Zf.forget _ _) (.cons (lr _) .nil))))))))))))))
  refine ak (aq (ar (Xg (FM 5 2 b kk sk u1.v (.slice (some ⟨g1,0,none⟩) b.steps.length c1) hsk) (Z0 1 (ic [2] (Xs rd bs (((p+1)+1)+1) 4 (Zq:=ob)) ?_)))))
  rintro _ _ ⟨k3,rfl,rfl,UA⟩
  refine ie (ab 0 (ar (Z0 2 (ie (ac (k3==0) Zz (fun ZK=>?_) (fun ZK=>?_))))))
  ·exact aE 12 (ZD 9 12 [0,1,2] [3] (dx 3 (ET 1 g1 b.steps.length c1 Yd 5 (Zc (Zk b.steps))) (ZD 5 8 [4,5,6] [3] (da 7 (((Yd+1:Nat):Int)) (((Yd:Int))+(1)) (dx 8 (HY 1 g1 b.steps.length c1 (Yd+1) 5 (Zc (Zk b.steps))) (Z8 9 (GK 9 1 [] [] g1 b.steps.length c1 Yd (Yd+1) 5 (Zc (Zk b.steps)) (WL _) (Zj 1 2 [10] (Z8 11 (Yo 11 3 [] [] b3 [.ms g1 0 (Yd+(b.steps.length-(Yd+1))) c1,.i b.result] (de (ar (Xg (FP 1 (.slice (some ⟨g1,0,none⟩) (Yd+(b.steps.length-(Yd+1))) c1) 5 (((Zc (Zk b.steps)).take (Yd*5))++((Zc (Zk b.steps)).drop ((Yd+1)*5))) (Zc (Zk (b.steps.take kk++b.steps.drop (kk+1)))) (by rw [hkn];exact Hc hkl)) (Xg (VO 0 0 0 (.slice (some ⟨g1,0,none⟩) (Yd+(b.steps.length-(Yd+1))) c1) 5 b3 (Zk (b.steps.take kk++b.steps.drop (kk+1))) [.ms g1 0 (Yd+(b.steps.length-(Yd+1))) c1,.i b.result] (YP _) rfl) (Z6 1 [0] (Zy 4 b2 [Yx (b.steps.take kk++b.steps.drop (kk+1)) (.slice (some ⟨g1,0,none⟩) (Yd+(b.steps.length-(Yd+1))) c1),.i b.result] (ie (Z9 (r3 [3] [.agg [Yx (b.steps.take kk++b.steps.drop (kk+1)) (.slice (some ⟨g1,0,none⟩) (Yd+(b.steps.length-(Yd+1))) c1),.i b.result]] [0] [(b2,b2)] ⟨(Z4.mk (b.steps.take kk++b.steps.drop (kk+1)) b.result),(((p+1)+1)+1)+1,rfl,rfl,(by first|exact ⟨X0.result hg _,by omega,by omega⟩|exact ⟨X0.kid hg hsk hck hyb.1,by omega,by omega⟩|exact ⟨X0.del hg,by omega,by omega⟩|exact ⟨X0.put hg,by omega,by omega⟩|exact ⟨X0.set hg hsk ⟨by have:=hys.1.1;omega,hys.1.2⟩,by omega,by omega⟩)⟩ (Zf.agg (.cons (Zf.forget _ _) (.cons (lr _) .nil))))))))))))))))))))))
  refine ar (Z0 2 (ie (ac (k3==1) Zz (fun Yi=>?_) (fun Yi=>?_))))
  ·refine aD 10 (E8 (VO 1 2 0 (.slice (some ⟨g1,0,none⟩) b.steps.length c1) 5 b3 (Zk b.steps) [.ms g1 0 b.steps.length c1,.i b.result] (YP _) rfl) (ZD 6 10 [0,1,2,5] [0] (Z8 3 (dL 3 [0] [b3] (Z7 [14,15,15,16,17]) 5 1 fun v3=>Y9 5 5 [] [(102,Z5 [14,15,15,16,17])] (Z8 4 (dc 4 [3] [0] [b3] (WA rd bs ((((p+1)+1)+1)+1) [14,15,15,16,17] (Zq:=ob)) ?_))))))
   rintro _ _ ⟨z2,rfl,rfl,UN⟩
   refine Z8 6 (dc 6 [0] [0] [b3] (Xs rd bs (((((p+1)+1)+1)+1)+1) 4 (Zq:=ob)) ?_)
   rintro _ _ ⟨k4,rfl,rfl,UB⟩
   exact Z8 7 (Yf 7 [] [1] [b3] (QP z2 k4) (Y9 2 2 [] [(99,ZC b)] (Z8 8 (Yf 8 [] [] [] (Cx b Yd (Zl z2 k4)) (Z8 9 (Yo 9 5 [] [] b2 (YE (Z4.mk (XM b.steps Yd (Zl z2 k4)) b.result)) (de (Z9 (r3 [1] [ZC (Z4.mk (XM b.steps Yd (Zl z2 k4)) b.result)] [0] [(b2,b2)] ⟨(Z4.mk (XM b.steps Yd (Zl z2 k4)) b.result),(((((p+1)+1)+1)+1)+1)+1,rfl,rfl,(by first|exact ⟨X0.result hg _,by omega,by omega⟩|exact ⟨X0.kid hg hsk hck hyb.1,by omega,by omega⟩|exact ⟨X0.del hg,by omega,by omega⟩|exact ⟨X0.put hg,by omega,by omega⟩|exact ⟨X0.set hg hsk ⟨by have:=hys.1.1;omega,hys.1.2⟩,by omega,by omega⟩)⟩ (lr _))))))))))
  refine aE 12 (ZD 5 12 [0,1,2,3,4,5,6] [3,3] (dx 7 (XB g1 b.steps.length c1 Yd 5 (Yd:Int)) (Vb 8 (Wn 1 g1 b.steps.length c1 5 (Yd*5) (Zc (Zk b.steps)) (X6 sk) 44 (Yk sk) (by rw [hkn];exact Ex hsk)) (Z8 9 (dc 9 [0] [1] [b3] (HE rd bs ((((p+1)+1)+1)+1) sk (Zq:=ob)) ?_)))))
  rintro _ _ ⟨y2,p22,rfl,rfl,Qd⟩
  have hys:=Qd
  exact dx 10 (XB g1 b.steps.length c1 Yd 5 (Yd:Int)) (Z8 11 (Jv 11 1 [] [] g1 b.steps.length c1 5 (Yd*5) (X6 y2) (Zc (Zk b.steps)) (Zc (Zk (b.steps.set kk y2))) (by rw [T6];simp only [Yw,YV];omega) (by rw [hkn];exact Ct hsk) (de (ar (Xg (VO 0 2 0 (.slice (some ⟨g1,0,none⟩) b.steps.length c1) 5 b3 (Zk (b.steps.set kk y2)) [.ms g1 0 b.steps.length c1,.i b.result] (YP _) rfl) (Z6 1 [0] (Zy 4 b2 [Yx (b.steps.set kk y2) (.slice (some ⟨g1,0,none⟩) b.steps.length c1),.i b.result] (ie (Z9 (r3 [3] [.agg [Yx (b.steps.set kk y2) (.slice (some ⟨g1,0,none⟩) b.steps.length c1),.i b.result]] [0] [(b2,b2)] ⟨(Z4.mk (b.steps.set kk y2) b.result),p22,rfl,rfl,(by first|exact ⟨X0.result hg _,by omega,by omega⟩|exact ⟨X0.kid hg hsk hck hyb.1,by omega,by omega⟩|exact ⟨X0.del hg,by omega,by omega⟩|exact ⟨X0.put hg,by omega,by omega⟩|exact ⟨X0.set hg hsk ⟨by have:=hys.1.1;omega,hys.1.2⟩,by omega,by omega⟩)⟩ (Zf.agg (.cons (Zf.forget _ _) (.cons (lr _) .nil)))))))))))))
 have TV:¬((sk.kids.length:Int)>0):=YH dq ZM
 refine Z0 4 (ie (Wi (ak (aq (ar (Xg (FM 5 2 b kk sk u1.v (.slice (some ⟨g1,0,none⟩) b.steps.length c1) hsk) (Z0 1 (ic [2] (Xs rd bs ((p+1)+1) 4 (Zq:=ob)) ?_))))))))
 rintro _ _ ⟨k5,rfl,rfl,J1⟩
 refine ie (ab 0 (ar (Z0 2 (ie (ac (k5==0) Zz (fun Xt=>?_) (fun Xt=>?_))))))
 ·exact aE 12 (ZD 9 12 [0,1,2] [3] (dx 3 (ET 1 g1 b.steps.length c1 Yd 5 (Zc (Zk b.steps))) (ZD 5 8 [4,5,6] [3] (da 7 (((Yd+1:Nat):Int)) (((Yd:Int))+(1)) (dx 8 (HY 1 g1 b.steps.length c1 (Yd+1) 5 (Zc (Zk b.steps))) (Z8 9 (GK 9 1 [] [] g1 b.steps.length c1 Yd (Yd+1) 5 (Zc (Zk b.steps)) (WL _) (Zj 1 2 [10] (Z8 11 (Yo 11 3 [] [] b3 [.ms g1 0 (Yd+(b.steps.length-(Yd+1))) c1,.i b.result] (de (ar (Xg (FP 1 (.slice (some ⟨g1,0,none⟩) (Yd+(b.steps.length-(Yd+1))) c1) 5 (((Zc (Zk b.steps)).take (Yd*5))++((Zc (Zk b.steps)).drop ((Yd+1)*5))) (Zc (Zk (b.steps.take kk++b.steps.drop (kk+1)))) (by rw [hkn];exact Hc hkl)) (Xg (VO 0 0 0 (.slice (some ⟨g1,0,none⟩) (Yd+(b.steps.length-(Yd+1))) c1) 5 b3 (Zk (b.steps.take kk++b.steps.drop (kk+1))) [.ms g1 0 (Yd+(b.steps.length-(Yd+1))) c1,.i b.result] (YP _) rfl) (Z6 1 [0] (Zy 4 b2 [Yx (b.steps.take kk++b.steps.drop (kk+1)) (.slice (some ⟨g1,0,none⟩) (Yd+(b.steps.length-(Yd+1))) c1),.i b.result] (ie (Z9 (r3 [3] [.agg [Yx (b.steps.take kk++b.steps.drop (kk+1)) (.slice (some ⟨g1,0,none⟩) (Yd+(b.steps.length-(Yd+1))) c1),.i b.result]] [0] [(b2,b2)] ⟨(Z4.mk (b.steps.take kk++b.steps.drop (kk+1)) b.result),((p+1)+1)+1,rfl,rfl,(by first|exact ⟨X0.result hg _,by omega,by omega⟩|exact ⟨X0.kid hg hsk hck hyb.1,by omega,by omega⟩|exact ⟨X0.del hg,by omega,by omega⟩|exact ⟨X0.put hg,by omega,by omega⟩|exact ⟨X0.set hg hsk ⟨by have:=hys.1.1;omega,hys.1.2⟩,by omega,by omega⟩)⟩ (Zf.agg (.cons (Zf.forget _ _) (.cons (lr _) .nil))))))))))))))))))))))
 refine ar (Z0 2 (ie (ac (k5==1) Zz (fun Xu=>?_) (fun Xu=>?_))))
 ·refine aD 10 (E8 (VO 1 2 0 (.slice (some ⟨g1,0,none⟩) b.steps.length c1) 5 b3 (Zk b.steps) [.ms g1 0 b.steps.length c1,.i b.result] (YP _) rfl) (ZD 6 10 [0,1,2,5] [0] (Z8 3 (dL 3 [0] [b3] (Z7 [14,15,15,16,17]) 5 1 fun v4=>Y9 5 5 [] [(102,Z5 [14,15,15,16,17])] (Z8 4 (dc 4 [3] [0] [b3] (WA rd bs (((p+1)+1)+1) [14,15,15,16,17] (Zq:=ob)) ?_))))))
  rintro _ _ ⟨z3,rfl,rfl,J2⟩
  refine Z8 6 (dc 6 [0] [0] [b3] (Xs rd bs ((((p+1)+1)+1)+1) 4 (Zq:=ob)) ?_)
  rintro _ _ ⟨k6,rfl,rfl,CA⟩
  exact Z8 7 (Yf 7 [] [1] [b3] (QP z3 k6) (Y9 2 2 [] [(99,ZC b)] (Z8 8 (Yf 8 [] [] [] (Cx b Yd (Zl z3 k6)) (Z8 9 (Yo 9 5 [] [] b2 (YE (Z4.mk (XM b.steps Yd (Zl z3 k6)) b.result)) (de (Z9 (r3 [1] [ZC (Z4.mk (XM b.steps Yd (Zl z3 k6)) b.result)] [0] [(b2,b2)] ⟨(Z4.mk (XM b.steps Yd (Zl z3 k6)) b.result),((((p+1)+1)+1)+1)+1,rfl,rfl,(by first|exact ⟨X0.result hg _,by omega,by omega⟩|exact ⟨X0.kid hg hsk hck hyb.1,by omega,by omega⟩|exact ⟨X0.del hg,by omega,by omega⟩|exact ⟨X0.put hg,by omega,by omega⟩|exact ⟨X0.set hg hsk ⟨by have:=hys.1.1;omega,hys.1.2⟩,by omega,by omega⟩)⟩ (lr _))))))))))
 refine aE 12 (ZD 5 12 [0,1,2,3,4,5,6] [3,3] (dx 7 (XB g1 b.steps.length c1 Yd 5 (Yd:Int)) (Vb 8 (Wn 1 g1 b.steps.length c1 5 (Yd*5) (Zc (Zk b.steps)) (X6 sk) 44 (Yk sk) (by rw [hkn];exact Ex hsk)) (Z8 9 (dc 9 [0] [1] [b3] (HE rd bs (((p+1)+1)+1) sk (Zq:=ob)) ?_)))))
 rintro _ _ ⟨y3,p23,rfl,rfl,JK⟩
 have hys:=JK
 exact dx 10 (XB g1 b.steps.length c1 Yd 5 (Yd:Int)) (Z8 11 (Jv 11 1 [] [] g1 b.steps.length c1 5 (Yd*5) (X6 y3) (Zc (Zk b.steps)) (Zc (Zk (b.steps.set kk y3))) (by rw [T6];simp only [Yw,YV];omega) (by rw [hkn];exact Ct hsk) (de (ar (Xg (VO 0 2 0 (.slice (some ⟨g1,0,none⟩) b.steps.length c1) 5 b3 (Zk (b.steps.set kk y3)) [.ms g1 0 b.steps.length c1,.i b.result] (YP _) rfl) (Z6 1 [0] (Zy 4 b2 [Yx (b.steps.set kk y3) (.slice (some ⟨g1,0,none⟩) b.steps.length c1),.i b.result] (ie (Z9 (r3 [3] [.agg [Yx (b.steps.set kk y3) (.slice (some ⟨g1,0,none⟩) b.steps.length c1),.i b.result]] [0] [(b2,b2)] ⟨(Z4.mk (b.steps.set kk y3) b.result),p23,rfl,rfl,(by first|exact ⟨X0.result hg _,by omega,by omega⟩|exact ⟨X0.kid hg hsk hck hyb.1,by omega,by omega⟩|exact ⟨X0.del hg,by omega,by omega⟩|exact ⟨X0.put hg,by omega,by omega⟩|exact ⟨X0.set hg hsk ⟨by have:=hys.1.1;omega,hys.1.2⟩,by omega,by omega⟩)⟩ (Zf.agg (.cons (Zf.forget _ _) (.cons (lr _) .nil)))))))))))))
theorem R4 (rd:Nat) (bs:LI) (p:Nat) (b:Z4) (Zq:∀z∈bs,0<=z/\z<=255) (hp:p+10*b.sz<=1000000000:=by exact ob) (hz:b.sz<=20000000:=by exact ob) (hg:b.rng:=by exact ob):Zi 53 [.p rd 0,ZC b] [Y4 rd bs p] (fun r h=>∃(y:Z4) (p2:Nat),r=ZC y/\h=[Y4 rd bs p2]/\X0 b y/\p<=p2/\p2<=p+(10*b.sz)):=by
 have key:∀k:Nat,∀(rd:Nat) (bs:LI) (p:Nat) (b2:Z4),(∀z∈bs,0<=z/\z<=255)->(p+(10*b2.sz)<=1000000000)->(b2.sz<=20000000)->(b2.rng)->(b2.sz<k)->Zi 53 [.p rd 0,ZC b2] [Y4 rd bs p] (fun r h=>∃(y:Z4) (p2:Nat),r=ZC y/\h=[Y4 rd bs p2]/\X0 b2 y/\p<=p2/\p2<=p+(10*b2.sz)):=by
  intro k
  induction k with
  | zero=>intro rd bs p b2 h1 h2 h3 h4 h5;omega
  | succ k ih=>
   intro rd bs p b2 h1 h2 h3 h4 h5
   by_cases h0:b2.steps.length=0
   ·exact R5 rd bs p b2 h1 h2 h3 h4 h0
   ·exact R6 rd bs p b2 h1 h2 h3 h4 om fun rd bs p b3 q1 q2 q3 q4 q5=>ih rd bs p b3 q1 q2 q3 q4 om
 exact key (b.sz+1) rd bs p b Zq hp hz hg om
theorem HD (rd:Nat) (bs:LI) (p:Nat) (n:Zu) (often:Nat) (q:Nat) (l:Nat) (Zq:∀z∈bs,0<=z/\z<=255) (hp:p+(10*q+20)<=1000000000:=by exact ob) (hzn:ZS n q l:=by exact ob) (hq:q<=9999000:=by exact ob) (hl:l<=100:=by exact ob) (ho:0<often:=by exact ob):Zi 61 [.p rd 0,Yc n,.i often] [Y4 rd bs p] (fun r h=>∃(n2:Zu) (p2:Nat),r=Yc n2/\h=[Y4 rd bs p2]/\ZS n2 (q+2) (l+1)/\p<=p2/\p2<=p+(10*q+20)):=by
 have hnl:=hzn.len
 refine ZB 64 Tryz.func61 (ar (iA (YC n) fun b1=>iA [nl,nl] fun b2=>ie (aq (ar (Z0 2 (ic [2] (Ux rd bs p often (Zq:=ob)) ?_))))))
 rintro _ _ ⟨Yd,rfl,rfl,ZT⟩
 refine Z0 1 (ie (ZH ((Yd:Int)>0) (fun Za=>?_) (fun Za=>?_)))
 ·exact ar (Z6 1 [2] (Zy 1 b2 (YC n) (ie (Z9 (r3 [1] [Yc n] [0] [(b2,b2)] ⟨n,p+1,rfl,rfl,(by first|exact ⟨hzn.le om om,by omega,by omega⟩|exact ⟨hzn.set hx1k om om om om hz1.2.2.2,by omega,by omega⟩|exact ⟨(hzn.le om om).ds had.1,by omega,by omega⟩|exact ⟨hzn.set hx2k om om om (by have:=hsb.1.1;omega) hsb.1.2,by omega,by omega⟩)⟩ (lr _))))))
 refine ak (ar (Z6 3 [2] (iw (U4 n.routines) (ic [0] (Ux rd bs (p+1) n.routines.length (Zq:=ob)) ?_))))
 rintro _ _ ⟨Yr,rfl,rfl,Y6⟩
 refine Z0 1 (ie (aq (ar (Z0 1 (ic [0] (Xs rd bs ((p+1)+1) 8 (Zq:=ob)) ?_)))))
 rintro _ _ ⟨k1,rfl,rfl,YA⟩
 refine ie (ab 0 (ar (Z0 2 (ie (ac (k1==0) Zz (fun Zg=>?_) (fun Zg=>?_))))))
 ·refine aD 11 (ZD 6 11 [0,1,2,3,4] [2,2] ?_)
  obtain ⟨x1,Z2⟩:=Zp n.routines Yr om
  have hx1k:=Z2
  have hz1:=hzn.rt _ (ZU Z2)
  refine dx 5 (Zh none (Yr:Int) 5 (Wk Z2)) (Zj 3 5 [6,7] (K5 (fun fz gz F h=>∃(g1:Nat) (c1:Nat) (b3:Nat),F=sF [0,6,7] fz [(8,.p b3 0)]/\h=[.obj b3 [YB n.decls,.ms g1 0 n.routines.length c1],.row (.slice (some ⟨g1,0,none⟩) n.routines.length c1) 5 (Zc (Yn (n.routines.set Yr (Y1.mk x1.params x1.lent x1.result x1.body)))),Ze gz 0,Ze gz 1,Ze gz 2]) ?_ ?_))
  ·refine WC 8 9 ?_ ?_
   ·refine dc 8 [] [] [] (EF n Yr x1.body x1 (hr:=Z2)) ?_
    rintro _ _ ⟨g1,c1,rfl,rfl⟩
    exact Z8 9 (dA 9 [] [] [nl,nl] fun b3=>Z8 10 (Yo 10 0 [] [] b3 [YB n.decls,.ms g1 0 n.routines.length c1] (de (ZF ⟨g1,c1,b3,rfl,rfl⟩ (ZP 5 fl)))))
   refine dA 9 [2,2] [b1,b1] [nl,nl] fun b4=>Z8 8 (dc 8 [] [] [] (EF n Yr x1.body x1 (hr:=Z2)) ?_)
   rintro _ _ ⟨g2,c2,rfl,rfl⟩
   exact Z8 10 (Yo 10 1 [] [] b4 [YB n.decls,.ms g2 0 n.routines.length c2] (de (ZF ⟨g2,c2,b4,rfl,rfl⟩ (ZP 5 fl))))
  rintro F h ⟨g1,c1,b3,rfl,rfl⟩
  refine aD 14 (ZD 7 14 [0,1,2,3,4,5,6] [0,0] (dx 7 (XB g1 n.routines.length c1 Yr 5 (Yr:Int)) (Zj 5 6 [8] (Vb 9 (Wn 1 g1 n.routines.length c1 5 (Yr*5+1) (Zc (Yn (n.routines.set Yr (Y1.mk x1.params x1.lent x1.result x1.body)))) [Z5 x1.lent] 27 (Z5 x1.lent) (OR om _)) (Z8 10 (dc 10 [2] [0] [b3] (R7 rd bs (((p+1)+1)+1) x1.lent (Zq:=ob)) ?_))))))
  rintro _ _ ⟨zs1,p21,rfl,rfl,YJ⟩
  have hsi:=YJ
  exact dx 11 (XB g1 n.routines.length c1 Yr 5 (Yr:Int)) (Zj 1 2 [12] (Z8 13 (Jv 13 2 [] [] g1 n.routines.length c1 5 (Yr*5+1) [Z5 zs1] (Zc (Yn (n.routines.set Yr (Y1.mk x1.params x1.lent x1.result x1.body)))) (Zc (Yn (n.routines.set Yr (Y1.mk x1.params zs1 x1.result x1.body)))) (by rw [Cr,Ua];simp only [Yw,YV];omega) (OT om _ _) (de (ar (Xg (VO 0 1 1 (.slice (some ⟨g1,0,none⟩) n.routines.length c1) 5 b3 (Yn (n.routines.set Yr (Y1.mk x1.params zs1 x1.result x1.body))) [YB n.decls,.ms g1 0 n.routines.length c1] (Vt _) rfl) (Z6 1 [0] (Zy 3 b2 [YB n.decls,XQ (n.routines.set Yr (Y1.mk x1.params zs1 x1.result x1.body)) (.slice (some ⟨g1,0,none⟩) n.routines.length c1)] (ie (Z9 (r3 [3] [.agg [YB n.decls,XQ (n.routines.set Yr (Y1.mk x1.params zs1 x1.result x1.body)) (.slice (some ⟨g1,0,none⟩) n.routines.length c1)]] [0] [(b2,b2)] ⟨(Zu.mk n.decls (n.routines.set Yr (Y1.mk x1.params zs1 x1.result x1.body))),p21,rfl,rfl,(by first|exact ⟨hzn.le om om,by omega,by omega⟩|exact ⟨hzn.set hx1k om om om om hz1.2.2.2,by omega,by omega⟩|exact ⟨(hzn.le om om).ds had.1,by omega,by omega⟩|exact ⟨hzn.set hx2k om om om (by have:=hsb.1.1;omega) hsb.1.2,by omega,by omega⟩)⟩ (Zf.agg (.cons (lr _) (.cons (Zf.forget _ _) .nil))))))))))))))
 refine ar (Z0 2 (ie (ac (k1==1) Zz (fun ZK=>?_) (fun ZK=>?_))))
 ·refine aD 6 (ZD 3 6 [0,2,3] [2] (Z8 1 (dc 1 [0] [1] [b1] (P3 rd bs (((p+1)+1)+1) (Zq:=ob)) ?_)))
  rintro _ _ ⟨dz1,p22,rfl,rfl,YU⟩
  have had:=YU
  exact Zj 1 2 [4] (Z8 5 (Yo 5 1 [] [] b2 [YB dz1,Ty n.routines] (de (Z9 (r3 [1] [.agg [YB dz1,Ty n.routines]] [0] [(b2,b2)] ⟨(Zu.mk dz1 n.routines),p22,rfl,rfl,(by first|exact ⟨hzn.le om om,by omega,by omega⟩|exact ⟨hzn.set hx1k om om om om hz1.2.2.2,by omega,by omega⟩|exact ⟨(hzn.le om om).ds had.1,by omega,by omega⟩|exact ⟨hzn.set hx2k om om om (by have:=hsb.1.1;omega) hsb.1.2,by omega,by omega⟩)⟩ (lr _))))))
 refine ak (aD 12 (ZD 6 12 [0,1,2,3,4,5] [2,2] ?_))
 obtain ⟨x2,Zt⟩:=Zp n.routines Yr om
 have hx2k:=Zt
 have hz2:=hzn.rt _ (ZU Zt)
 refine dx 6 (Zh none (Yr:Int) 5 (Wk Zt)) (Zj 3 5 [7,8] (Z8 9 (dc 9 [0] [1] [b1] (R4 rd bs (((p+1)+1)+1) x2.body (Zq:=ob) (hg:=hz2.2.2.2)) ?_)))
 rintro _ _ ⟨y1,p23,rfl,rfl,XI⟩
 have hsb:=XI
 exact Z8 10 (Yf 10 [] [] [] (HF n Yr y1 x2 (hr:=Zt)) (Z8 11 (Yo 11 1 [] [] b2 (YC (withR n Yr x2 y1)) (de (Z9 (r3 [1] [Yc (withR n Yr x2 y1)] [0] [(b2,b2)] ⟨(withR n Yr x2 y1),p23,rfl,rfl,(by first|exact ⟨hzn.le om om,by omega,by omega⟩|exact ⟨hzn.set hx1k om om om om hz1.2.2.2,by omega,by omega⟩|exact ⟨(hzn.le om om).ds had.1,by omega,by omega⟩|exact ⟨hzn.set hx2k om om om (by have:=hsb.1.1;omega) hsb.1.2,by omega,by omega⟩)⟩ (lr _)))))))
theorem P4 (rd:Nat) (bs:LI) (p:Nat) (Zq:∀z∈bs,0<=z/\z<=255) (hp:p+73706400<=1000000000:=by exact ob):Zi 49 [.p rd 0] [Y4 rd bs p] (fun r h=>∃(n2:Zu) (p2:Nat),r=Yc n2/\h=[Y4 rd bs p2]/\ZS n2 7330632 11/\p<=p2/\p2<=p+73706400):=by
 refine ZB 14 Tryz.func49 (ar (iA [nl,nl] fun b1=>ie (aq (ar (Z0 1 (ic [1] (Xs rd bs p 4 (Zq:=ob)) ?_))))))
 rintro _ _ ⟨k1,rfl,rfl,ZT⟩
 refine Z0 1 (ie (ac (k1==0) Zz (fun Za=>?_) (fun Za=>?_)))
 ·refine ar (Z0 2 (ic [0] (HA rd bs (p+1) (Zq:=ob)) ?_))
  rintro _ _ ⟨n1,p21,rfl,rfl,Y6⟩
  have hpf:=((FO.zn Y6.1).le (show 181<=7330630 by omega)).zs
  refine ic [0] (HD rd bs p21 n1 8 7330630 10 (Zq:=ob) (hzn:=(by first|exact hpf|exact hbf))) ?_
  rintro _ _ ⟨n21,p22,rfl,rfl,YA⟩
  have hsf:=YA
  exact Zy 1 b1 (YC n21) (ie (Z9 (r3 [1] [Yc n21] [0] [(b1,b1)] ⟨n21,p22,rfl,rfl,⟨hsf.1,by omega,by omega⟩⟩ (lr _))))
 refine ak (ar (Z0 2 (ic [0] (P6 rd bs (p+1) (Zq:=ob)) ?_)))
 rintro _ _ ⟨n2,p23,rfl,rfl,YJ⟩
 have hbf:=YJ.1.zs
 refine ic [0] (HD rd bs p23 n2 8 7330630 10 (Zq:=ob) (hzn:=(by first|exact hpf|exact hbf))) ?_
 rintro _ _ ⟨n22,p24,rfl,rfl,YU⟩
 have hsf:=YU
 exact Zy 1 b1 (YC n22) (ie (Z9 (r3 [1] [Yc n22] [0] [(b1,b1)] ⟨n22,p24,rfl,rfl,⟨hsf.1,by omega,by omega⟩⟩ (lr _))))
open Go.Proofs
open Go.Proofs
theorem RG (op:Int) :Zi 66 [.i op] [] (Ym (.b (YG op))):=by
 refine ZB 9 Tryz.func66 (ar (Z0 1 (ie (ar (WO 6 [] [(8,.b ((decide (op>=14))&&(decide (op<=17))))] (fun gz=>gz) ?_ (fun hj1=>?_))))))
 ·exact Z0 1 (ie (Z9 (ZZ (.b ((decide (op>=14))&&(decide (op<=17)))) (lb (by rw [YG,Xi];simp)))))
 refine Z0 3 (ib (b:=(decide (op>=14))) 5 (fun Zb=>?_) (fun Zb=>?_))
 ·exact Z0 3 (Xe (wk [] (ZJ (decide (op<=17)) Zb fl)) hj1)
 exact Z0 3 (Xe (wk [] (ZJ false Zb fl)) hj1)
theorem RE (b:Z4) (c:Nat) (v:Int) (hb:b.sz<=1000000000:=by exact ob) (hv:0<=v/\v<=600:=by exact ob) (ih:∀(b2:Z4) (c:Nat) (v:Int),(b2.sz<b.sz)->(0<=v/\v<=600)->Zi 63 [ZC b2,.p c 0] [.obj c [.i v]] (fun r h=>(r=.b true/\h=[.obj c [.i (600-XS b2 (600-v))]]/\0<=XS b2 (600-v))∨(r=.b false/\h=[]/\XS b2 (600-v)<0))):Zi 63 [ZC b,.p c 0] [.obj c [.i v]] (fun r h=>(r=.b true/\h=[.obj c [.i (600-XS b (600-v))]]/\0<=XS b (600-v))∨(r=.b false/\h=[]/\XS b (600-v)<0)):=by
 have hbz:=WQ b
 have hbe:=Ig b (600-v)
 refine ZB 38 Tryz.func63 (ar (iA (YE b) fun b1=>?_))
 refine Z0 1 (ie (aq (ar (Z6 2 [0] (iw (W1 b.steps) (Z0 1 (ie (ab 0 (ZX (fun fz gz m F h=>∃(k:Nat) (q:Int),(k<=b.steps.length)/\(0<=q/\q<=600)/\(Uj (b.steps.drop k) (600-q)=Uj b.steps (600-v))/\F=sF [1,10,11] fz [(12,.i k)]/\h=[.obj c [.i q]]/\m=b.steps.length-k) _ _ _ ⟨0,v,ob,ob,rfl,rfl,rfl,rfl⟩ (wk [1] (Y7 fl)) ?_)))))))))
 rintro m F h ⟨k,q,Y8,Zm,Zo,rfl,rfl,rfl⟩
 refine ar (Z0 1 (ie (aq (ZH ((k:Int)<(b.steps.length:Int)) (fun Za=>?_) (fun Za=>?_)))))
 ·refine ak (aq (ab 1 (ar ?_)))
  obtain ⟨x1,Z2⟩:=Zp b.steps k om
  have hss:=Q3 Z2
  have hkz:=U8 x1
  refine Zn (Zh none (k:Int) 5 (XG Z2)) (Z0 1 (iA [.i 0,.i 0,.i 0,nl,nl] fun b2=>Zy 0 b2 (X6 x1) (ie (aq (ar (Z6 3 [1] (ia ((q+1)) ((q)+(1)) (Z0 1 (Zy 1 c [.i (q+1)] (ie (ar (Z6 4 [0] (ie (ZH ((q+1)>600) (fun Zg=>?_) (fun Zg=>?_)))))))))))))))
  ·exact ar (Z0 1 (ie (Z9 (r1 [] (.inr ⟨rfl,rfl,(by rw [hbe,<-Zo,Ye Z2,Uj,Zw om];omega)⟩)))))
  refine ak (ar (Z6 2 [1] (iw (Vh x1.kids) (Z0 1 (ie (ab 2 (ZX (fun fz gz m F h=>∃(j:Nat) (j2:Int),(j<=x1.kids.length)/\(0<=j2/\j2<=600)/\(UE (x1.kids.drop j) (600-j2)=UE x1.kids (600-(q+1)))/\F=sF [1,10,11,12,26,27] fz [(28,.i j)]/\h=[.obj c [.i j2]]/\m=x1.kids.length-j) _ _ _ ⟨0,(q+1),ob,ob,rfl,rfl,rfl,rfl⟩ (wk [0] (Y7 fl)) ?_)))))))
  rintro m F h ⟨j,j2,U3,Ww,Xc,rfl,rfl,rfl⟩
  refine ar (Z0 1 (ie (aq (ZH ((j:Int)<(x1.kids.length:Int)) (fun ZK=>?_) (fun ZK=>?_)))))
  ·refine ak (aq (ab 3 (ar ?_)))
   obtain ⟨x2,Zt⟩:=Zp x1.kids j om
   have hks:=VW Zt
   have hle:=F7.2 x2 (600-j2) om
   refine Zn (Zh none (j:Int) 2 (Vs Zt)) (Z0 1 (iA [nl,.i 0] fun b3=>Zy 0 b3 (YE x2) (ie (ar (Z6 2 [0] (ic [1] (ih x2 c j2 ob ob) ?_))))))
   rintro _ _ (⟨rfl,rfl,ZT⟩|⟨rfl,rfl,Y6⟩)
   ·refine Z0 1 (ie (Wi (ak (az (ZE j (Z0 1 (ie ?_)))))))
    have hdr:=Ye Zt
    exact ZG ⟨j+1,(600-XS x2 (600-j2)),ob,ob,(by rw [Ye Zt,UE,Zs om] at Xc;rw [show 600-(600-XS x2 (600-j2))=XS x2 (600-j2) by omega];exact Xc),rfl,rfl,rfl⟩ (wk [0] (ZI j fl))
   exact Z0 1 (ie (WZ (ar (Z0 1 (ie (Z9 (r1 [] (.inr ⟨rfl,rfl,(by rw [hbe,<-Zo,Ye Z2,Uj,Zs om,Zw (by rw [CR,show (600-q-1:Int)=600-(q+1) by omega,<-Xc,Ye Zt,UE,Zw Y6];omega)];omega)⟩))))))))
  have hE:UE x1.kids (600-(q+1))=600-j2:=by rw [<-Xc,Xf om,UE]
  refine ax 2 (az (ZE k (Z0 1 (ie ?_))))
  have hdr:=Ye Z2
  exact ZG ⟨k+1,j2,ob,ob,(by rw [Ye Z2,Uj,Zs om,CR,show (600-q-1:Int)=600-(q+1) by omega,hE,Zs om] at Zo;exact Zo),rfl,rfl,rfl⟩ (wk [0] (ZI k fl))
 refine ax 0 (ar (Z0 1 (ie ?_)))
 have hF:XS b (600-v)=600-q:=by rw [hbe,<-Zo,Xf om,Uj]
 exact Z9 (r1 [0] (.inl ⟨rfl,rfl,om⟩) (eq:=(ro (ls:=[.i q]) (by rw [hF,show (600-(600-q):Int)=q by omega]) rz)))
theorem RD:∀(b:Z4) (c:Nat) (v:Int),(b.sz<=1000000000)->(0<=v/\v<=600)->Zi 63 [ZC b,.p c 0] [.obj c [.i v]] (fun r h=>(r=.b true/\h=[.obj c [.i (600-XS b (600-v))]]/\0<=XS b (600-v))∨(r=.b false/\h=[]/\XS b (600-v)<0)):=by
 have key:∀m:Nat,∀(b:Z4) (c:Nat) (v:Int),(b.sz<=m)->(b.sz<=1000000000)->(0<=v/\v<=600)->Zi 63 [ZC b,.p c 0] [.obj c [.i v]] (fun r h=>(r=.b true/\h=[.obj c [.i (600-XS b (600-v))]]/\0<=XS b (600-v))∨(r=.b false/\h=[]/\XS b (600-v)<0)):=by
  intro m
  induction m with
  | zero=>intro b c v h;have:=b.sz_pos;omega
  | succ m ih=>intro b c v h1 h2 h3;exact RE b c v h2 h3 fun b2 c2 v2 k1 k2=>ih b2 c2 v2 om om k2
 intro b c v h2 h3
 exact key b.sz b c v (YI _) h2 h3
theorem RC (b:Z4) (hb:b.sz<=1000000000:=by exact ob):Zi 22 [ZC b] [] (Ym (.i (Wy b))):=by
 refine ZB 8 Tryz.func22 (ar (iA (YE b) fun b1=>Z0 1 (ie (ar (iA [.i 0] fun b2=>Zy 0 b2 [.i 0] (ie (aq (ar (Z6 1 [1] (ic [0] (RD b b2 0 ob ob) ?_))))))))))
 rintro _ _ (⟨rfl,rfl,ZT⟩|⟨rfl,rfl,Y6⟩)
 ·have h0:=ZT
  rw [show (600-0:Int)=600 from rfl] at h0
  exact Z0 1 (ie (Wi (ak (ar (Z6 2 [0] (ie (Z9 (ZZ (.i (600-XS b (600-0))) (li (by rw [show (600-0:Int)=600 from rfl,Wy,Zs om]))))))))))
 have h0:=Y6
 rw [show (600-0:Int)=600 from rfl] at h0
 exact Z0 1 (ie (WZ (ar (Z0 1 (ie (Z9 (ZZ (.i (-1)) (li (by rw [Wy,Zw h0])))))))))
open Go.Proofs
open Go.Proofs
open Go.Proofs
open Go.Proofs
end Go.Abs
