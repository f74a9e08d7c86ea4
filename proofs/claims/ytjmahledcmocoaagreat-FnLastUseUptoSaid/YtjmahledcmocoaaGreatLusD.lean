/-
  A part of the proof of FnLastUseUptoSaid (see the last file): no condition.
-/
import Derived.Test.YtjmahledcmocoaaGreatLusC
set_option linter.all false
set_option linter.unusedVariables false
set_option linter.unusedSimpArgs false
set_option linter.unusedSectionVars false
set_option maxRecDepth 10000
set_option maxHeartbeats 4000000
namespace Go.Abs
open Go.Proofs
theorem BP (xs:LI) (y:Int) (hl:xs.length<=1000000000:=by exact ob):Zf 256 [Z6 xs,.i y] [] (fun r h=>∃(v:Value),r=ZQ (WC xs y) v/\h=[.tail v 1]):=by
 refine ZD 49 Tryz.func256 (Ya (ar (iL (Z7 []) 0 1 fun v1=>?_)))
 refine Z1 (Ya (Y1 (ab 0 (Y0 (fun fz gz m F h=>∃(k:Nat) (acc:LI) (d:Bool) (v:Value),(k<=xs.length)/\(acc.length<=k+(if d=true then 1 else 0))/\(acc++UW d (xs.drop k) y=WC xs y)/\F=sF [0,1] fz [(5,ZQ acc v),(6,.b d),(7,.i k)]/\h=[.tail v 1]/\m=xs.length-k) _ _ _ ⟨0,[],false,v1,ob,(by simp),rfl,rfl,rfl,rfl⟩ (wk [0] (fw (Yd fl))) ?_))))
 rintro m F h ⟨k,acc,d,v,Yf,Zi,Zr,rfl,rfl,rfl⟩
 refine X4 2 (iw (Ye xs) (ZT ((k:Int)<(xs.length:Int)) (fun Z9=>?_) (fun Z9=>?_)))
 ·obtain ⟨x1,Z5⟩:=Zq xs k om
  have hil:acc.length<=k+1:=WK Zi (by split<;>omega)
  refine ak (aq (ab 1 (X7 (XM [0,1,5,6,7] [(24,.b ((!d)&&(decide (x1>=y))))] (fun gz=>gz) ?_ ?_))))
  ·refine Z2 3 (ib (b:=(!d)) 17 (fun Zb=>?_) (fun Zb=>?_))
   ·exact Z2 2 (Zm (Zh none (k:Int) 1 (ZZ Z5)) (Z1 (wk [0] (ZM (decide (x1>=y)) Zb fl))))
   exact Z1 (wk [0] (ZM false Zb fl))
  refine XC (fun fz gz F h=>∃(acc2:LI) (d2:Bool) (w:Value),((acc2=acc/\d2=d/\(d=true∨¬x1>=y))∨(acc2=acc++[y]/\d2=true/\¬d=true/\x1>y)∨(acc2=acc/\d2=true/\¬d=true/\x1=y))/\(acc2.length<=k+(if d2=true then 1 else 0))/\(acc2.length<=k+1)/\F=sF [0,1,7] fz [(5,ZQ acc2 w),(6,.b d2)]/\h=[.tail w 1]) ?_ ?_
  ·refine ac ((!d)&&(decide (x1>=y))) (p:=(¬(d=true))/\(x1>=y)) (Xv (Xh Iff.rfl) dq) (fun Zg=>?_) (fun Zg=>?_)
   ·refine X4 2 (Zm (Zh none (k:Int) 1 (ZZ Z5)) (Z1 (XC (fun fz gz F h=>∃(w3:Value),F=sF [0,1,7] fz [(5,ZQ (if x1>y then (acc++[y]) else acc) w3)]/\h=[.tail w3 1]) ?_ ?_)))
    ·refine VA (x1>y) (fun ZF=>?_) (fun ZF=>?_)
     ·exact az (Z2 2 (iL (Z7 [y]) 1 1 fun v2=>ZE 0 [(33,Z6 [y])] (ip 1 (Z7 (acc++[y])) (Z7 acc) (Z7 [y]) v none 1 (Yw _) (Yw _) (XT _) (by simp<;>omega) (by simp [XR,Z7]) fun v3=>Z1 (ZJ ⟨v3,rfl,rfl⟩ (wk [0] (fc (x:=ZQ (acc++[y]) v3) (Ze.slh _ (Ys Z7 (by first|rfl|(rw [Zw ZF])|(rw [Zp ZF])|(simp [ZF];done)|(rw [Xc];simp [ZF];done)|omega))) fl))))))
     exact ak (ZJ ⟨v,rfl,rfl⟩ (wk [0] (fc (x:=ZQ acc v) (Ze.slh _ (Ys Z7 (by first|rfl|(rw [Zw ZF])|(rw [Zp ZF])|(simp [ZF];done)|(rw [Xc];simp [ZF];done)|omega))) fl)))
    rintro F h ⟨w3,rfl,rfl⟩
    exact UM (ZJ ⟨(if x1>y then (acc++[y]) else acc),true,w3,(if h:x1>y then (by rw [Zw h];exact .inr (.inl ⟨rfl,rfl,Zg.1,h⟩)) else (by rw [Zp h];exact .inr (.inr ⟨rfl,rfl,Zg.1,by have:=Zg.2;omega⟩))),(by have h1:=Zi;rw [Zp Zg.1] at h1;split<;>(simp<;>omega)),(by have h1:=Zi;rw [Zp Zg.1] at h1;split<;>(simp<;>omega)),rfl,rfl⟩ (wk [0] fl))
   exact ak (ZJ ⟨acc,d,v,(.inl ⟨rfl,rfl,by by_cases q:d=true;exact .inl q;exact .inr (fun z=>Zg ⟨q,z⟩)⟩),Zi,hil,rfl,rfl⟩ (wk [0] fl))
  rintro F h ⟨acc2,d2,w,V6,KS,Fx,rfl,rfl⟩
  exact az (Z2 3 (Zm (Zh none (k:Int) 1 (ZZ Z5)) (Z2 1 (iL (Z7 [x1]) 1 1 fun v4=>ZE 0 [(40,Z6 [x1])] (ip 1 (Z7 (acc2++[x1])) (Z7 acc2) (Z7 [x1]) w none 1 (Yw _) (Yw _) (XT _) (by simp<;>omega) (by simp [XR,Z7]) fun v5=>Z1 (az (Z2 1 (ZG k (Z1 (ZI ⟨k+1,(acc2++[x1]),d2,v5,ob,(by simp only [Yk,YD,X8];omega),(SZ Z5 Zr V6),rfl,rfl,rfl⟩ (wk [0] (fw (ZL k fl)))))))))))))
 have hil:acc.length<=k+1:=WK Zi (by split<;>omega)
 refine ax 0 (Y1 (XC (fun fz gz F h=>∃(w4:Value),F=sF [] fz [(5,ZQ (if d=true then acc else (acc++[y])) w4)]/\h=[.tail w4 1]) ?_ ?_))
 ·refine ac (!d) (p:=¬(d=true)) (Xh Iff.rfl) (fun Yq=>?_) (fun Yq=>?_)
  ·exact az (Z2 2 (iL (Z7 [y]) 1 1 fun v6=>ZE 0 [(46,Z6 [y])] (ip 1 (Z7 (acc++[y])) (Z7 acc) (Z7 [y]) v none 1 (Yw _) (Yw _) (XT _) (by simp<;>omega) (by simp [XR,Z7]) fun v7=>Z1 (ZJ ⟨v7,rfl,rfl⟩ (wk [0] (fc (x:=ZQ (acc++[y]) v7) (Ze.slh _ (Ys Z7 (by first|rfl|(rw [Zw Yq])|(rw [Zp Yq])|(simp [Yq];done)|(rw [Xc];simp [Yq];done)|omega))) fl))))))
  exact ak (ZJ ⟨v,rfl,rfl⟩ (wk [0] (fc (x:=ZQ acc v) (Ze.slh _ (Ys Z7 (by first|rfl|(rw [Zw Yq])|(rw [Zp Yq])|(simp [Yq];done)|(rw [Xc];simp [Yq];done)|omega))) fl)))
 rintro F h ⟨w4,rfl,rfl⟩
 exact ar (Zs (r2 [0] [ZQ (if d=true then acc else (acc++[y])) w4] ⟨w4,rfl,rfl⟩ (Ze.slh _ (Ys Z7 (SY om Zr)))))
theorem Ir (xs:LI) (y:Int) (hl:xs.length<=1000000000:=by exact ob):Zf 284 [Z6 xs,.i y] [] (fun r h=>∃(v:Value),r=ZQ (UE xs y) v/\h=[.tail v 1]):=by
 refine ZD 28 Tryz.func284 (Ya (ar (iL (Z7 []) 0 1 fun v1=>?_)))
 refine Z1 (Y1 (ab 0 (Y0 (fun fz gz m F h=>∃(k:Nat) (acc:LI) (v:Value),(k<=xs.length)/\(acc.length<=k)/\(acc++UE (xs.drop k) y=UE xs y)/\F=sF [0,1] fz [(5,ZQ acc v),(6,.i k)]/\h=[.tail v 1]/\m=xs.length-k) _ _ _ ⟨0,[],v1,ob,ob,rfl,rfl,rfl,rfl⟩ (wk [0] (fr (Yd fl))) ?_)))
 rintro m F h ⟨k,acc,v,Yf,Zi,Zr,rfl,rfl,rfl⟩
 refine X4 2 (iw (Ye xs) (ZT ((k:Int)<(xs.length:Int)) (fun Z9=>?_) (fun Z9=>?_)))
 ·refine ak (aq (ab 1 (Yg 2 ?_)))
  obtain ⟨x1,Z5⟩:=Zq xs k om
  refine Zm (Zh none (k:Int) 1 (ZZ Z5)) (Z1 (Kx (fun fz gz F h=>∃(w:Value),F=sF [0,1,6] fz [(5,ZQ (if x1≠y then (acc++[x1]) else acc) w)]/\h=[.tail w 1]) (fun _ _=>rfl) ?_ ?_))
  ·refine ac (x1 != y) Xd (fun Zg=>?_) (fun Zg=>?_)
   ·exact az (Z2 3 (Zm (Zh none (k:Int) 1 (ZZ Z5)) (Z2 1 (iL (Z7 [x1]) 1 1 fun v2=>ZE 0 [(25,Z6 [x1])] (ip 1 (Z7 (acc++[x1])) (Z7 acc) (Z7 [x1]) v none 1 (Yw _) (Yw _) (XT _) (by simp<;>omega) (by simp [XR,Z7]) fun v3=>Z1 (ZJ ⟨v3,rfl,rfl⟩ (wk [0] (fc (x:=ZQ (acc++[x1]) v3) (Ze.slh _ (Ys Z7 (by first|rfl|(rw [Zw Zg])|(rw [Zp Zg])|(simp [Zg];done)|(rw [Xc];simp [Zg];done)|omega))) fl))))))))
   exact ak (ZJ ⟨v,rfl,rfl⟩ (wk [0] (fc (x:=ZQ acc v) (Ze.slh _ (Ys Z7 (by first|rfl|(rw [Zw Zg])|(rw [Zp Zg])|(simp [Zg];done)|(rw [Xc];simp [Zg];done)|omega))) fl)))
  rintro F h ⟨w,rfl,rfl⟩
  exact az (Z2 1 (ZG k (Z1 (ZI ⟨k+1,(if x1≠y then (acc++[x1]) else acc),w,ob,(by split<;>(try simp)<;>omega),(Z23 Z5 Zr),rfl,rfl,rfl⟩ (wk [0] (fr (ZL k fl)))))))
 exact ax 0 (ar (Zs (r2 [0] [ZQ acc v] ⟨v,rfl,rfl⟩ (Ze.slh _ (Ys Z7 (Z22 om Zr))))))
theorem Z3v (s:Z3) (q:Int) (xs:LI) (ih:∀(b2:Z4) (q:Int) (k2:Nat) (xs2:LI),(b2.sz<s.sz)->(k2<=b2.steps.length)->(xs2.length+b2.sz<=1000000000)->Zf 278 [ZC b2,.i q,.i k2,Z6 xs2] [] (Yt (Z6 (WZ q (V0 q (b2.steps.drop k2) xs2) b2.result)))) (hz:xs.length+s.sz<=1000000000):Zf 298 [Ym s,.i q,Z6 xs] [] (Yt (Z6 (Tp q s xs))):=by
 have hkz:=U8 s
 have haz:=T9 s
 have hse:=s.sz_eq
 refine ZD 58 Tryz.func298 (ar (iA (Xf s) fun b1=>Z1 (Y6 2 [0] (Zu [] (Gr s.op) (ie (ac (YP s.op) Iff.rfl (fun Z9=>?_) (fun Z9=>?_)))))))
 ·exact ar (Zs (Y3 (Z6 xs) (Ze.sl _ (Ys Z7 (by rw [Nr,Zw (by assumption)])))))
 refine ak (Y1 (ab 0 (Y0 (fun fz gz m F h=>∃(j:Nat) (ys:LI),(j<=s.args.length)/\(ys.length<=xs.length+j)/\(VM q (s.args.drop j) ys=VM q s.args xs)/\F=sF [1,3] fz [(2,Z6 ys),(7,.i j)]/\h=gz/\m=s.args.length-j) _ _ _ ⟨0,xs,ob,ob,rfl,rfl,rfl,rfl⟩ (wk [0] (fr (Yd fl))) ?_)))
 rintro m F h ⟨j,ys,Yf,Zi,Zr,rfl,rfl,rfl⟩
 refine Y6 3 [0] (iw (Ye s.args) (ZT ((j:Int)<(s.args.length:Int)) (fun Zg=>?_) (fun Zg=>?_)))
 ·refine ak (aq (ab 1 (Zo 3 [0] ?_)))
  obtain ⟨x1,Z5⟩:=Zq s.args j om
  refine Zm (Zh none (j:Int) 1 (ZZ Z5)) (XM [1,2,3,7] [(34,.b ((decide (x1>=0))&&(decide (x1<q))))] (fun gz=>gz) ?_ ?_)
  ·refine Z2 3 (ib (b:=(decide (x1>=0))) 26 (fun Zb=>?_) (fun Zb=>?_))
   ·exact ZU 3 [0] (Zm (Zh none (j:Int) 1 (ZZ Z5)) (Z1 (wk [0] (ZM (decide (x1<q)) Zb fl))))
   exact Z1 (wk [0] (ZM false Zb fl))
  refine Kx (fun fz gz F h=>F=sF [1,3,7] fz [(2,Z6 (WZ q ys x1))]/\h=gz) (fun _ _=>rfl) ?_ ?_
  ·refine ac ((decide (x1>=0))&&(decide (x1<q))) (p:=(x1>=0)/\(x1<q)) (Xv dq dq) (fun ZF=>?_) (fun ZF=>?_)
   ·refine az (ZU 4 [0] (Zm (Zh none (j:Int) 1 (ZZ Z5)) (Z2 1 (ic [] (BP ys x1) ?_))))
    rintro _ _ ⟨v1,rfl,rfl⟩
    exact Z1 (ZJ ⟨rfl,rfl⟩ (wk [1] (fc (x:=ZQ (WC ys x1) v1) (Ze.sl _ (Ys Z7 (by rw [WZ,Zw (by assumption)]))) fl)))
   exact ak (ZJ ⟨rfl,rfl⟩ (wk [0] (fc (x:=Z6 ys) (Ze.sl _ (Ys Z7 (by rw [WZ,Zp (by assumption)]))) fl)))
  rintro F h ⟨rfl,rfl⟩
  exact az (Z2 1 (ZG j (Z1 (ZI ⟨j+1,(WZ q ys x1),ob,(by have:=Co (n:=q) ys x1;omega),(Z5o Z5 Zr),rfl,rfl,rfl⟩ (wk [0] (fr (ZL j fl)))))))
 have hA:VM q s.args xs=ys:=(Z5n om Zr).symm
 refine ax 0 (Y1 (ab 2 (Y0 (fun fz gz m F h=>∃(j:Nat) (zs:LI),(j<=s.kids.length)/\(zs.length<=xs.length+s.args.length+YK (s.kids.take j))/\(T1 q (s.kids.drop j) zs=T1 q s.kids (VM q s.args xs))/\F=sF [1,3] fz [(2,Z6 zs),(8,.i j)]/\h=gz/\m=s.kids.length-j) _ _ _ ⟨0,ys,ob,(by rw [List.take_zero,YK];omega),(by rw [hA];rfl),rfl,rfl,rfl⟩ (wk [0] (fr (Yd fl))) ?_)))
 rintro m F h ⟨j,zs,VZ,Wi,Xs,rfl,rfl,rfl⟩
 refine Y6 3 [0] (iw (Vk s.kids) (ZT ((j:Int)<(s.kids.length:Int)) (fun Yq=>?_) (fun Yq=>?_)))
 ·refine ak (aq (ab 3 (az (ZU 3 [0] ?_))))
  obtain ⟨x2,Zv⟩:=Zq s.kids j om
  have hks:=VS Zv
  have hbt:=CJ Zv
  have hbx:=CI Zv
  have hul:=E1 (n:=q) x2 zs
  exact Zm (Zh none (j:Int) 2 (Vv Zv)) (Z2 3 (Zu [] (ih x2 q 0 zs ob ob ob) (Z1 (az (Z2 1 (ZG j (Z1 (ZI ⟨j+1,(Vi q x2 zs),ob,om,(Z5r Zv Xs),rfl,rfl,rfl⟩ (wk [0] (fc (x:=Z6 (WZ q (V0 q (x2.steps.drop 0) zs) x2.result)) (Ze.sl _ (Ys Z7 (by rw [Nn];rfl))) (ZL j fl)))))))))))
 exact ax 2 (ar (Zs (Y3 (Z6 zs) (Ze.sl _ (Ys Z7 (by rw [Nr,Zp (by assumption)];exact (Z5q om Xs)))))))
theorem Z3w (b:Z4) (q:Int) (k0:Nat) (xs:LI) (ih:∀(s2:Z3) (q:Int) (xs2:LI),(s2.sz<b.sz)->(xs2.length+s2.sz<=1000000000)->Zf 298 [Ym s2,.i q,Z6 xs2] [] (Yt (Z6 (Tp q s2 xs2)))) (hk:k0<=b.steps.length) (hz:xs.length+b.sz<=1000000000):Zf 278 [ZC b,.i q,.i k0,Z6 xs] [] (Yt (Z6 (WZ q (V0 q (b.steps.drop k0) xs) b.result))):=by
 have hbz:=WS b
 have hbe:=b.sz_eq
 have hsd:=Ar b.steps k0
 refine ZD 40 Tryz.func278 (ar (iA (YI b) fun b1=>?_))
 refine Z1 (Y1 (ab 0 (Y0 (fun fz gz m F h=>∃(k:Nat) (ys:LI),(k<=b.steps.length)/\(ys.length+Y5 (b.steps.drop k)<=xs.length+Y5 (b.steps.drop k0))/\(V0 q (b.steps.drop k) ys=V0 q (b.steps.drop k0) xs)/\F=sF [1,4] fz [(3,Z6 ys),(9,.i k)]/\h=gz/\m=b.steps.length-k) _ _ _ ⟨k0,xs,ob,(YQ _),rfl,rfl,rfl,rfl⟩ (wk [0] fl) ?_)))
 rintro m F h ⟨k,ys,Yf,Zi,Zr,rfl,rfl,rfl⟩
 refine Y6 3 [0] (iw (W8 b.steps) (ZT ((k:Int)<(b.steps.length:Int)) (fun Z9=>?_) (fun Z9=>?_)))
 ·refine ak (aq (ab 1 (az (ZU 3 [0] ?_))))
  obtain ⟨x1,Z5⟩:=Zq b.steps k om
  have hss:=UZ Z5
  have hsd1:=Cl Z5
  have hul:=Ns (n:=q) x1 ys
  exact Zm (Zh none (k:Int) 5 (XO Z5)) (Z2 3 (Zu [] (ih x1 q ys ob ob) (Z1 (az (Z2 1 (ZG k (Z1 (ZI ⟨k+1,(Tp q x1 ys),ob,ob,(Z5u Z5 Zr),rfl,rfl,rfl⟩ (wk [0] (fr (ZL k fl)))))))))))
 refine ax 0 (X7 (XM [3,4] [(34,.b ((decide (b.result>=0))&&(decide (b.result<q))))] (fun gz=>gz) ?_ ?_))
 ·refine ZU 4 [0] (ib (b:=(decide (b.result>=0))) 29 (fun Zb=>?_) (fun Zb=>?_))
  ·exact Vx [0] (wk [0] (ZM (decide (b.result<q)) Zb fl))
  exact Z1 (wk [0] (ZM false Zb fl))
 refine XC (fun fz gz F h=>F=sF [] fz [(3,Z6 (WZ q ys b.result))]/\h=[]) ?_ ?_
 ·refine ac ((decide (b.result>=0))&&(decide (b.result<q))) (p:=(b.result>=0)/\(b.result<q)) (Xv dq dq) (fun Zg=>?_) (fun Zg=>?_)
  ·refine az (ZU 3 [0] (ic [] (BP ys b.result) ?_))
   rintro _ _ ⟨v1,rfl,rfl⟩
   exact Z1 (ZJ ⟨rfl,rfl⟩ (wk [] (fc (x:=ZQ (WC ys b.result) v1) (Ze.sl _ (Ys Z7 (by rw [WZ,Zw (by assumption)]))) fl)))
  exact ak (ZJ ⟨rfl,rfl⟩ (wk [] (fc (x:=Z6 ys) (Ze.sl _ (Ys Z7 (by rw [WZ,Zp (by assumption)]))) fl)))
 rintro F h ⟨rfl,rfl⟩
 exact ar (Zs (Y3 (Z6 (WZ q ys b.result)) (Ze.sl _ (Ys Z7 (by rw [Z5t om Zr])))))
theorem Z4o (k:Nat):(∀(s:Z3) (q:Int) (xs:LI),(s.sz<=k)->(xs.length+s.sz<=1000000000)->Zf 298 [Ym s,.i q,Z6 xs] [] (Yt (Z6 (Tp q s xs))))/\(∀(b:Z4) (q:Int) (k0:Nat) (xs:LI),(b.sz<=k)->(k0<=b.steps.length)->(xs.length+b.sz<=1000000000)->Zf 278 [ZC b,.i q,.i k0,Z6 xs] [] (Yt (Z6 (WZ q (V0 q (b.steps.drop k0) xs) b.result)))):=by
 induction k with
 | zero=>exact ⟨fun s q xs h=>by have:=s.sz_pos;omega,fun b q k0 xs h=>by have:=b.sz_pos;omega⟩
 | succ k ih=>exact ⟨fun s q xs h hz=>Z3v s q xs (fun b2 q k2 xs2 h2 hk h3=>ih.2 b2 q k2 xs2 om hk h3) hz,fun b q k0 xs h hk hz=>Z3w b q k0 xs (fun s2 q xs2 h2 h3=>ih.1 s2 q xs2 om h3) hk hz⟩
theorem MH (b:Z4) (q:Int) (k0:Nat) (xs:LI) (hk:k0<=b.steps.length:=by exact ob) (hz:xs.length+b.sz<=1000000000:=by exact ob):Zf 278 [ZC b,.i q,.i k0,Z6 xs] [] (Yt (Z6 (WZ q (V0 q (b.steps.drop k0) xs) b.result))):=(Z4o b.sz).2 b q k0 xs (YQ _) hk hz
theorem MV (b:Z4) (q:Int) (hz:b.sz<=100000000:=by exact ob):Zf 242 [ZC b,.i q] [] (Yt (Z6 (Vi q b []))):=by
 exact ZD 9 Tryz.func242 (ar (iA (YI b) fun b1=>Z1 (Zo 2 [0] (iL (Z7 []) 0 1 fun v1=>ZE 0 [(7,Z6 [])] (Zu [] (MH b q 0 [] (hk:=(T7 _))) (Zs (Y3 (Z6 (WZ q (V0 q (b.steps.drop 0) []) b.result)) (Ze.sl _ (Ys Z7 (by rw [Nn];rfl))))))))))
theorem Sl (xs:LI) (ys:LI) (hz:xs.length+ys.length<=100000000:=by exact ob):Zf 279 [Z6 xs,Z6 ys] [] (fun r h=>∃(zs:LI),r=Z6 zs/\h=[]/\zs.length<=xs.length+ys.length):=by
 refine ZD 22 Tryz.func279 (Ya (Yg 1 (ic [] (Vr xs) ?_)))
 rintro _ _ ⟨v1,rfl,rfl⟩
 refine Z1 (Y1 (ab 0 (Y0 (fun fz gz m F h=>∃(k:Nat) (zs:LI),(k<=ys.length)/\(zs.length<=xs.length+k)/\F=sF [1] fz [(5,Z6 zs),(6,.i k)]/\h=[]/\m=ys.length-k) _ _ _ ⟨0,xs,ob,ob,rfl,rfl,rfl⟩ (wk [] (fc (x:=ZQ xs v1) (Ze.forget _ _) (Yd fl))) ?_)))
 rintro m F h ⟨k,zs,Yf,Zi,rfl,rfl,rfl⟩
 refine X4 2 (iw (Ye ys) (ZT ((k:Int)<(ys.length:Int)) (fun Z9=>?_) (fun Z9=>?_)))
 ·refine ak (aq (ab 1 (az (Z2 3 ?_))))
  obtain ⟨x1,Z5⟩:=Zq ys k om
  refine Zm (Zh none (k:Int) 1 (ZZ Z5)) (Z2 1 (ic [] (BP zs x1) ?_))
  rintro _ _ ⟨v2,rfl,rfl⟩
  exact Z1 (az (Z2 1 (ZG k (Z1 (ZI ⟨k+1,(WC zs x1),ob,(by have:=B3 zs x1;omega),rfl,rfl,rfl⟩ (wk [] (fc (x:=ZQ (WC zs x1) v2) (Ze.forget _ _) (ZL k fl))))))))
 exact ax 0 (ar (Zs (r1 [] ⟨zs,rfl,rfl,ob⟩)))
theorem Ib (xs:LI) (ys:LI) (hz:xs.length<=100000000:=by exact ob) (hy:ys.length<=100000000:=by exact ob):Zf 301 [Z6 xs,Z6 ys] [] (fun r h=>∃(zs:LI) (v:Value),r=ZQ zs v/\h=[.tail v 1]/\zs.length<=xs.length/\∀z∈zs,z∈xs):=by
 refine ZD 28 Tryz.func301 (Ya (ar (iL (Z7 []) 0 1 fun v1=>?_)))
 refine Z1 (Y1 (ab 0 (Y0 (fun fz gz m F h=>∃(k:Nat) (zs:LI) (u:Value),(k<=xs.length)/\(zs.length<=k)/\(∀z∈zs,z∈xs)/\F=sF [0,1] fz [(5,ZQ zs u),(6,.i k)]/\h=[.tail u 1]/\m=xs.length-k) _ _ _ ⟨0,[],v1,ob,ob,(fun z hz=>by cases hz),rfl,rfl,rfl⟩ (wk [0] (fr (Yd fl))) ?_)))
 rintro m F h ⟨k,zs,u,Yf,Zi,Zr,rfl,rfl,rfl⟩
 refine X4 2 (iw (Ye xs) (ZT ((k:Int)<(xs.length:Int)) (fun Z9=>?_) (fun Z9=>?_)))
 ·refine ak (aq (ab 1 (Yg 3 ?_)))
  obtain ⟨x1,Z5⟩:=Zq xs k om
  refine Zm (Zh none (k:Int) 1 (ZZ Z5)) (Z2 1 (Zu [] (VL ys x1) (ie (VA (x1∈ys) (fun Zg=>?_) (fun Zg=>?_)))))
  ·exact az (Z2 3 (Zm (Zh none (k:Int) 1 (ZZ Z5)) (Z2 1 (iL (Z7 [x1]) 1 1 fun v2=>ZE 0 [(25,Z6 [x1])] (ip 1 (Z7 (zs++[x1])) (Z7 zs) (Z7 [x1]) u none 1 (Yw _) (Yw _) (XT _) (by simp<;>omega) (by simp [XR,Z7]) fun v3=>Z1 (az (Z2 1 (ZG k (Z1 (ZI ⟨k+1,(zs++[x1]),v3,ob,ob,(by first|exact Zr|exact Xe Zr (ZW Z5)),rfl,rfl,rfl⟩ (wk [0] (fr (ZL k fl)))))))))))))
  exact ak (az (Z2 1 (ZG k (Z1 (ZI ⟨k+1,zs,u,ob,ob,(by first|exact Zr|exact Xe Zr (ZW Z5)),rfl,rfl,rfl⟩ (wk [0] (fr (ZL k fl))))))))
 exact ax 0 (ar (Zs (r1 [0] ⟨zs,u,rfl,rfl,⟨by omega,Zr⟩⟩)))
theorem Ff (xs:LI) (q:Int) (hz:xs.length<=100000000:=by exact ob):Zf 308 [Z6 xs,.i q] [] (fun r h=>∃(zs:LI) (v:Value),r=ZQ zs v/\h=[.tail v 1]/\zs.length<=xs.length/\∀z∈zs,z∈xs):=by
 refine ZD 28 Tryz.func308 (Ya (ar (iL (Z7 []) 0 1 fun v1=>?_)))
 refine Z1 (Y1 (ab 0 (Y0 (fun fz gz m F h=>∃(k:Nat) (zs:LI) (u:Value),(k<=xs.length)/\(zs.length<=k)/\(∀z∈zs,z∈xs)/\F=sF [0,1] fz [(5,ZQ zs u),(6,.i k)]/\h=[.tail u 1]/\m=xs.length-k) _ _ _ ⟨0,[],v1,ob,ob,(fun z hz=>by cases hz),rfl,rfl,rfl⟩ (wk [0] (fr (Yd fl))) ?_)))
 rintro m F h ⟨k,zs,u,Yf,Zi,Zr,rfl,rfl,rfl⟩
 refine X4 2 (iw (Ye xs) (ZT ((k:Int)<(xs.length:Int)) (fun Z9=>?_) (fun Z9=>?_)))
 ·refine ak (aq (ab 1 (Yg 2 ?_)))
  obtain ⟨x1,Z5⟩:=Zq xs k om
  refine Zm (Zh none (k:Int) 1 (ZZ Z5)) (ZT (x1<q) (fun Zg=>?_) (fun Zg=>?_))
  ·exact az (Z2 3 (Zm (Zh none (k:Int) 1 (ZZ Z5)) (Z2 1 (iL (Z7 [x1]) 1 1 fun v2=>ZE 0 [(25,Z6 [x1])] (ip 1 (Z7 (zs++[x1])) (Z7 zs) (Z7 [x1]) u none 1 (Yw _) (Yw _) (XT _) (by simp<;>omega) (by simp [XR,Z7]) fun v3=>Z1 (az (Z2 1 (ZG k (Z1 (ZI ⟨k+1,(zs++[x1]),v3,ob,ob,(by first|exact Zr|exact Xe Zr (ZW Z5)),rfl,rfl,rfl⟩ (wk [0] (fr (ZL k fl)))))))))))))
  exact ak (az (Z2 1 (ZG k (Z1 (ZI ⟨k+1,zs,u,ob,ob,(by first|exact Zr|exact Xe Zr (ZW Z5)),rfl,rfl,rfl⟩ (wk [0] (fr (ZL k fl))))))))
 exact ax 0 (ar (Zs (r1 [0] ⟨zs,u,rfl,rfl,⟨by omega,Zr⟩⟩)))
theorem Kc (op:Int) (v:Int) :Zf 146 [.i op,.i v] [] (Yt (Ym (Zl op v))):=by
 exact ZD 10 Tryz.func146 (ar (iA [.i 0,.i 0,.i 0,nl,nl] fun b1=>ie (Yg 2 (iL (Z7 [v]) 1 1 fun v1=>iL (Yu []) 0 2 fun v2=>Z2 1 (ZA 2 b1 [.i op,.i 0,.i 0,ZQ [v] v1,U9 [] v2] (ie (ZK (r3 [] [.agg [.i op,.i 0,.i 0,ZQ [v] v1,U9 [] v2]] [0] [(b1,b1)] ⟨rfl,rfl⟩ (Ze.agg (.cons li (.cons li (.cons li (.cons (Ze.sl _ (Ys Z7 rfl)) (.cons (Ze.sl _ (Ys Yu rfl)) .nil))))))))))))))
theorem Q1 (op:Int) (xs:LI) (hl:xs.length<=1000000000:=by exact ob):Zf 244 [.i op,Z6 xs] [] (fun r h=>∃(v:Value),r=YG (xs.map (Zl op)) v/\h=[.tail v 5]):=by
 refine ZD 24 Tryz.func244 (Ya (ar (iL (Zj []) 0 5 fun v1=>?_)))
 refine Z1 (Y1 (ab 0 (Y0 (fun fz gz m F h=>∃(k:Nat) (v:Value),(k<=xs.length)/\F=sF [0,1] fz [(5,YG ((xs.take k).map (Zl op)) v),(6,.i k)]/\h=[.tail v 5]/\m=xs.length-k) _ _ _ ⟨0,v1,ob,rfl,rfl,rfl⟩ (wk [0] (fc (x:=YG [] v1) (Ze.slh _ (Ys Zj rfl)) (Yd fl))) ?_)))
 rintro m F h ⟨k,v,Yf,rfl,rfl,rfl⟩
 refine X4 2 (iw (Ye xs) (ZT ((k:Int)<(xs.length:Int)) (fun Z9=>?_) (fun Z9=>?_)))
 ·refine ak (aq (ab 1 (az (Z2 4 ?_))))
  obtain ⟨x1,Z5⟩:=Zq xs k om
  exact Zm (Zh none (k:Int) 1 (ZZ Z5)) (Z2 1 (Zu [] (Kc op x1) (iL [Ym (Zl op x1)] 1 5 fun v2=>ZE 0 [(21,.sl [Ym (Zl op x1)] none)] (ip 1 (Zj ((xs.take (k+1)).map (Zl op))) (Zj ((xs.take k).map (Zl op))) [Ym (Zl op x1)] v none 5 (X1 _) (Ti rfl) rfl (by simp<;>omega) (by rw [Vh Z5];simp [WO]) fun v3=>Z1 (az (Z2 1 (ZG k (Z1 (ZI ⟨k+1,v3,ob,rfl,rfl,rfl⟩ (wk [0] (fr (ZL k fl))))))))))))
 exact ax 0 (ar (Zs (r2 [0] [YG ((xs.take k).map (Zl op)) v] ⟨v,rfl,rfl⟩ (Ze.slh _ (Ys Zj (by rw [WT om]))))))
theorem RZ (n:Zx) (s:Z3) (i:Nat) (mm:Nat) (hn:Xk n:=by exact ob) (hf:FS n.decls n.routines.length mm s:=by exact ob) (hi:i<s.args.length:=by exact ob):Zf 307 [Yl n,Ym s,.i i] [] (fun r h=>∃(wr:Bool),r=.b wr/\h=[]):=by
 have hal:=hf.alen
 refine ZD 42 Tryz.func307 (ar (iA (YN n) fun b1=>iA (Xf s) fun b2=>?_))
 refine Z1 (Y1 (ab 0 (Y0 (fun fz gz m F h=>∃(k:Nat),(k<=s.args.length)/\F=sF [2,3,4] fz [(7,.i k)]/\h=gz/\m=s.args.length-k) _ _ _ ⟨0,ob,rfl,rfl,rfl⟩ (wk [0,0] (Yd fl)) ?_)))
 rintro m F h ⟨k,Yf,rfl,rfl,rfl⟩
 refine Y6 3 [0] (iw (Ye s.args) (ZT ((k:Int)<(s.args.length:Int)) (fun Z9=>?_) (fun Z9=>?_)))
 ·refine ak (aq (ab 1 (aD 27 (Zk 23 27 [0,1,2,3] (db (b:=((k:Int) != (i:Int))) 18 (fun Zb=>?_) (fun Zb=>?_))))))
  ·refine ZH 20 23 [4,5,6] [0] ?_
   obtain ⟨x1,Z5⟩:=Zq s.args k om
   refine dx 7 (Zh none (k:Int) 1 (ZZ Z5)) (ZH 15 19 [8,9,10,11] [0] ?_)
   obtain ⟨x2,Zv⟩:=Zq s.args i om
   refine dx 12 (Zh none (i:Int) 1 (ZZ Zv)) (Zk 10 14 [13,14,15,16] (db (b:=(x1==x2)) 31 (fun ZP=>?_) (fun ZP=>?_)))
   ·refine Zk 6 10 [17,18,19,20] (db (b:=(decide ((k:Int)>(i:Int)))) 35 (fun YW=>?_) (fun YW=>?_))
    ·exact Zk 0 6 [21,22,23,24,25,26] (de (Vj (ar (Zs (r1 [] ⟨true,rfl,rfl⟩)))))
    refine ZH 3 6 [21,22,23] [1,0] (Z8 24 (Yp 24 [] [] [] (Ck n s k (hnum:=hf.call)) (Zk 0 2 [25,26] (de (ac (VT n s.op s.num k) Iff.rfl (fun Zg=>?_) (fun Zg=>?_))))))
    ·exact ar (Zs (r1 [] ⟨true,rfl,rfl⟩))
    exact ak (az (Z2 1 (ZG k (Z1 (ZI ⟨k+1,ob,rfl,rfl,rfl⟩ (wk [0,0] (ZL k fl)))))))
   exact Zk 0 10 [17,18,19,20,21,22,23,24,25,26] (de (Wz (ak (az (Z2 1 (ZG k (Z1 (ZI ⟨k+1,ob,rfl,rfl,rfl⟩ (wk [0,0] (ZL k fl))))))))))
  exact Zk 0 23 [4,5,6,7,8,9,10,11,12,13,14,15,16,17,18,19,20,21,22,23,24,25,26] (de (Wz (ak (az (Z2 1 (ZG k (Z1 (ZI ⟨k+1,ob,rfl,rfl,rfl⟩ (wk [0,0] (ZL k fl))))))))))
 exact ax 0 (ar (Zs (r1 [] ⟨false,rfl,rfl⟩)))
theorem Ii (n:Zx) (s:Z3) (i:Nat) (mm:Nat) (os:LI) (ls:LI) (hn:Xk n:=by exact ob) (hf:FS n.decls n.routines.length mm s:=by exact ob) (hi:i<s.args.length:=by exact ob) (ho:os.length<=100000000:=by exact ob) (hl:ls.length<=100000000:=by exact ob):Zf 299 [Yl n,Ym s,.i i,Z6 os,Z6 ls] [] (fun r h=>∃(wr:Bool),r=.b wr/\h=[]):=by
 refine ZD 34 Tryz.func299 (ar (iA (YN n) fun b1=>iA (Xf s) fun b2=>Z1 (Zo 4 [0] ?_)))
 obtain ⟨x1,Z5⟩:=Zq s.args i om
 refine Zm (Zh none (i:Int) 1 (ZZ Z5)) (Z2 1 (Zu [] (VL ls x1) (Z2 1 (ib (b:=(decide (x1∈ls))) 18 (fun Zb=>?_) (fun Zb=>?_)))))
 ·exact Zs (r1 [] ⟨true,rfl,rfl⟩)
 refine ZU 4 [0] (Zm (Zh none (i:Int) 1 (ZZ Z5)) (Z2 1 (Zu [] (VL os x1) (Z2 3 (ib (b:=(!(decide (x1∈os)))) 28 (fun ZP=>?_) (fun ZP=>?_))))))
 ·exact Zs (r1 [] ⟨true,rfl,rfl⟩)
 refine ZU 3 [1,0] (ic [] (RZ n s i mm) ?_)
 rintro _ _ ⟨wr1,rfl,rfl⟩
 exact Zs (r1 [] ⟨wr1,rfl,rfl⟩)
theorem RC (n:Zx) (us:LI) (s:Z3) (os:LI) (ls:LI) (mm:Nat) (hn:Xk n:=by exact ob) (hf:FS n.decls n.routines.length mm s:=by exact ob) (hvl:us.length=mm:=by exact ob) (hm:mm<=100000000:=by exact ob) (ho:os.length<=100000000:=by exact ob) (hl:ls.length<=100000000:=by exact ob):Zf 280 [Yl n,Z6 us,Ym s,Z6 os,Z6 ls] [] (fun r h=>∃(zs:LI),r=Z6 zs/\h=[]/\zs.length<=s.args.length/\∀z∈zs,z∈s.args):=by
 have hal:=hf.alen
 refine ZD 43 Tryz.func280 (ar (iA (YN n) fun b1=>iA (Xf s) fun b2=>Z1 (ar (iL (Z7 []) 0 1 fun v1=>?_))))
 refine Z1 (Y1 (ab 0 (Y0 (fun fz gz m F h=>∃(k:Nat) (zs:LI) (u:Value),(k<=s.args.length)/\(zs.length<=k)/\(∀z∈zs,z∈s.args)/\F=sF [1,3,4,5,7] fz [(11,ZQ zs u),(12,.i k)]/\h=[Za gz 1,Za gz 2,.tail u 1]/\m=s.args.length-k) _ _ _ ⟨0,[],v1,ob,ob,(fun z hz=>by cases hz),rfl,rfl,rfl⟩ (wk [1,1,0] (fr (Yd fl))) ?_)))
 rintro m F h ⟨k,zs,u,Yf,Zi,Zr,rfl,rfl,rfl⟩
 refine Y6 3 [0] (iw (Ye s.args) (ZT ((k:Int)<(s.args.length:Int)) (fun Z9=>?_) (fun Z9=>?_)))
 ·obtain ⟨a1,ha1⟩:=Zq s.args k om
  have har:=hf.args a1 (ZW ha1)
  refine ak (aq (ab 1 (Zo 4 [1,0] (Zu [] (DY n us s k a1 (hnum:=hf.call) (ha:=ha1)) (Z2 1 (ib (b:=Qu n us s.op s.num a1 k) 26 (fun Zb=>?_) (fun Zb=>?_)))))))
  ·refine ZU 5 [1,0] (ic [] (Ii n s k mm os ls) ?_)
   rintro _ _ ⟨wr1,rfl,rfl⟩
   refine YR wr1 Iff.rfl (fun Zg=>?_) (fun Zg=>?_)
   ·exact az (ZU 4 [0] (Zm (Zh none (k:Int) 1 (ZZ ha1)) (Z2 1 (iL (Z7 [a1]) 1 1 fun v2=>ZE 0 [(40,Z6 [a1])] (ip 3 (Z7 (zs++[a1])) (Z7 zs) (Z7 [a1]) u none 1 (Yw _) (Yw _) (XT _) (by simp<;>omega) (by simp [XR,Z7]) fun v3=>Z1 (az (Z2 1 (ZG k (Z1 (ZI ⟨k+1,(zs++[a1]),v3,ob,ob,(by first|exact Zr|exact Xe Zr (ZW ha1)),rfl,rfl,rfl⟩ (wk [2,2,0] (fr (ZL k fl)))))))))))))
   exact ak (az (Z2 1 (ZG k (Z1 (ZI ⟨k+1,zs,u,ob,ob,(by first|exact Zr|exact Xe Zr (ZW ha1)),rfl,rfl,rfl⟩ (ZV 3 (fr (ZL k fl))))))))
  exact Z1 (Wz (ak (az (Z2 1 (ZG k (Z1 (ZI ⟨k+1,zs,u,ob,ob,(by first|exact Zr|exact Xe Zr (ZW ha1)),rfl,rfl,rfl⟩ (ZV 3 (fr (ZL k fl))))))))))
 exact ax 0 (ar (Zs (r2 [] [ZQ zs u] ⟨zs,rfl,rfl,⟨by omega,Zr⟩⟩ (Ze.forget _ _))))
theorem RR (n:Zx) (us:LI) (s:Z3) (os:LI) (ls:LI) (mm:Nat) (hn:Xk n:=by exact ob) (hf:FS n.decls n.routines.length mm s:=by exact ob) (hvl:us.length=mm:=by exact ob) (hm:mm<=100000000:=by exact ob) (ho:os.length<=100000000:=by exact ob) (hl:ls.length<=100000000:=by exact ob):Zf 282 [Yl n,Z6 us,Ym s,Z6 os,Z6 ls] [] (fun r h=>∃(zs:LI) (v:Value),r=ZQ zs v/\h=[.tail v 1]/\zs.length<=os.length/\∀z∈zs,z∈os):=by
 have hal:=hf.alen
 refine ZD 55 Tryz.func282 (ar (iA (YN n) fun b1=>iA (Xf s) fun b2=>Z1 (Y6 4 [0] (ib (b:=(s.op==7)) 16 (fun Zb=>?_) (fun Zb=>?_)))))
 ·refine Z1 (Vj (Yg 2 (ic [] (Ib os ls) ?_)))
  rintro _ _ ⟨zs1,v1,rfl,rfl,Y9⟩
  have hco:=Y9
  exact Zs (r1 [0] ⟨zs1,v1,rfl,rfl,(by first|exact hco|exact ⟨by omega,Zr⟩)⟩)
 refine Vx [0] (ac (s.op==8) Zz (fun Z9=>?_) (fun Z9=>?_))
 ·refine Yg 2 (ic [] (Ib os ls) ?_)
  rintro _ _ ⟨zs2,v2,rfl,rfl,YX⟩
  have hco:=YX
  exact Zs (r1 [0] ⟨zs2,v2,rfl,rfl,(by first|exact hco|exact ⟨by omega,Zr⟩)⟩)
 refine ak (Yg 1 (ic [] (Vr os) ?_))
 rintro _ _ ⟨v3,rfl,rfl⟩
 refine Z1 (Y1 (ab 0 (Y0 (fun fz gz m F h=>∃(k:Nat) (zs:LI) (u:Value),(k<=s.args.length)/\(zs.length<=os.length)/\(∀z∈zs,z∈os)/\F=sF [1,3,4,5,7] fz [(11,ZQ zs u),(12,.i k)]/\h=[Za gz 1,Za gz 2,.tail u 1]/\m=s.args.length-k) _ _ _ ⟨0,os,v3,ob,ob,(fun z hz=>hz),rfl,rfl,rfl⟩ (wk [1,1,0] (fr (Yd fl))) ?_)))
 rintro m F h ⟨k,zs,u,Yf,Zi,Zr,rfl,rfl,rfl⟩
 refine Y6 3 [0] (iw (Ye s.args) (ZT ((k:Int)<(s.args.length:Int)) (fun Zg=>?_) (fun Zg=>?_)))
 ·obtain ⟨a1,ha1⟩:=Zq s.args k om
  have har:=hf.args a1 (ZW ha1)
  refine ak (aq (ab 1 (Zo 4 [1,0] (Zu [] (DY n us s k a1 (hnum:=hf.call) (ha:=ha1)) (Z2 1 (ib (b:=Qu n us s.op s.num a1 k) 38 (fun ZP=>?_) (fun ZP=>?_)))))))
  ·refine ZU 5 [1,0] (ic [] (Ii n s k mm os ls) ?_)
   rintro _ _ ⟨wr1,rfl,rfl⟩
   refine YR (!wr1) (p:=¬(wr1=true)) (Xh Iff.rfl) (fun ZF=>?_) (fun ZF=>?_)
   ·refine az (ZU 4 [0] (Zm (Zh none (k:Int) 1 (ZZ ha1)) (ZE 1 [(47,Z6 zs)] (ic [] (Ir zs a1) ?_))))
    rintro _ _ ⟨v4,rfl,rfl⟩
    exact Z1 (az (Z2 1 (ZG k (Z1 (ZI ⟨k+1,(UE zs a1),v4,ob,(by first|exact Zi|exact WK (Cb _ _) Zi),(by first|exact Zr|exact (fun z hz=>Zr z (Bb hz))),rfl,rfl,rfl⟩ (wk [1,1,0] (fr (ZL k fl))))))))
   exact ak (az (Z2 1 (ZG k (Z1 (ZI ⟨k+1,zs,u,ob,(by first|exact Zi|exact WK (Cb _ _) Zi),(by first|exact Zr|exact (fun z hz=>Zr z (Bb hz))),rfl,rfl,rfl⟩ (ZV 3 (fr (ZL k fl))))))))
  exact Z1 (Wz (ak (az (Z2 1 (ZG k (Z1 (ZI ⟨k+1,zs,u,ob,(by first|exact Zi|exact WK (Cb _ _) Zi),(by first|exact Zr|exact (fun z hz=>Zr z (Bb hz))),rfl,rfl,rfl⟩ (ZV 3 (fr (ZL k fl))))))))))
 exact ax 0 (ar (Zs (r1 [2] ⟨zs,u,rfl,rfl,(by first|exact hco|exact ⟨by omega,Zr⟩)⟩)))
theorem RS (n:Zx) (s:Z3) (os:LI) (ls:LI) (mm:Nat) (hn:Xk n:=by exact ob) (hf:FS n.decls n.routines.length mm s:=by exact ob) (ho:os.length<=100000000:=by exact ob) (hl:ls.length<=100000000:=by exact ob):Zf 283 [Yl n,Ym s,Z6 os,Z6 ls] [] (fun r h=>∃(zs:LI),r=Z6 zs/\h=[]/\zs.length<=s.args.length/\∀z∈zs,z∈s.args):=by
 have hal:=hf.alen
 refine ZD 50 Tryz.func283 (ar (iA (YN n) fun b1=>iA (Xf s) fun b2=>Z1 (ar (iL (Z7 []) 0 1 fun v1=>?_))))
 refine Z1 (Y1 (ab 0 (Y0 (fun fz gz m F h=>∃(k:Nat) (zs:LI) (u:Value),(k<=s.args.length)/\(zs.length<=k)/\(∀z∈zs,z∈s.args)/\F=sF [2,3,4,5] fz [(9,ZQ zs u),(10,.i k)]/\h=[Za gz 1,Za gz 2,.tail u 1]/\m=s.args.length-k) _ _ _ ⟨0,[],v1,ob,ob,(fun z hz=>by cases hz),rfl,rfl,rfl⟩ (wk [1,1,0] (fr (Yd fl))) ?_)))
 rintro m F h ⟨k,zs,u,Yf,Zi,Zr,rfl,rfl,rfl⟩
 refine Y6 3 [0] (iw (Ye s.args) (ZT ((k:Int)<(s.args.length:Int)) (fun Z9=>?_) (fun Z9=>?_)))
 ·obtain ⟨a1,ha1⟩:=Zq s.args k om
  have har:=hf.args a1 (ZW ha1)
  refine ak (aq (ab 1 (Zo 3 [1,0] (Zu [] (Ck n s k (hnum:=hf.call)) (WQ 13 [2,3,4,5,9,10] [(31,.b (VT n s.op s.num k&&(decide (a1∈os))))] (fun gz=>gz) ?_ (fun hj1=>?_))))))
  ·refine XM [2,3,4,5,9,10] [(41,.b ((VT n s.op s.num k&&(decide (a1∈os)))&&(!(decide (a1∈ls)))))] (fun gz=>gz) ?_ ?_
   ·refine Z2 1 (ib (b:=(VT n s.op s.num k&&(decide (a1∈os)))) 32 (fun Zb=>?_) (fun Zb=>?_))
    ·exact ZU 4 [0] (Zm (Zh none (k:Int) 1 (ZZ ha1)) (Z2 1 (Zu [] (VL ls a1) (Z1 (ZV 3 (ZM (!(decide (a1∈ls))) Zb fl))))))
    exact Z1 (ZV 3 (ZM false Zb fl))
   refine ac ((VT n s.op s.num k&&(decide (a1∈os)))&&(!(decide (a1∈ls)))) (p:=((VT n s.op s.num k=true)/\(a1∈os))/\(¬(a1∈ls))) (Xv (Xv Iff.rfl dq) (Xh dq)) (fun Zg=>?_) (fun Zg=>?_)
   ·refine az (ZU 4 [0] (Zm (Zh none (k:Int) 1 (ZZ ha1)) (ZE 1 [(42,Z6 zs)] (ic [] (BP zs a1) ?_))))
    rintro _ _ ⟨v2,rfl,rfl⟩
    exact Z1 (az (Z2 1 (ZG k (Z1 (ZI ⟨k+1,(WC zs a1),v2,ob,(by first|omega|(have:=B3 zs a1;omega)),(by first|exact Zr|exact (fun z hz=>(BV.1 hz).elim (Zr z) (fun e=>e▸ZW ha1))),rfl,rfl,rfl⟩ (wk [1,1,0] (fr (ZL k fl))))))))
   exact ak (az (Z2 1 (ZG k (Z1 (ZI ⟨k+1,zs,u,ob,(by first|omega|(have:=B3 zs a1;omega)),(by first|exact Zr|exact (fun z hz=>(BV.1 hz).elim (Zr z) (fun e=>e▸ZW ha1))),rfl,rfl,rfl⟩ (ZV 3 (fr (ZL k fl))))))))
  refine Z2 1 (ib (b:=VT n s.op s.num k) 23 (fun ZP=>?_) (fun ZP=>?_))
  ·exact ZU 4 [0] (Zm (Zh none (k:Int) 1 (ZZ ha1)) (Z2 1 (Zu [] (VL os a1) (Z2 1 (Xm (ZV 3 (ZM (decide (a1∈os)) ZP fl)) hj1)))))
  exact Z2 8 (Xm (ZV 3 (ZM false ZP fl)) hj1)
 exact ax 0 (ar (Zs (r2 [] [ZQ zs u] ⟨zs,rfl,rfl,⟨by omega,Zr⟩⟩ (Ze.forget _ _))))
theorem Bl (rt:Y8) (b:Z4) (hp:rt.params.length<=4294967296:=by exact ob) (hl:rt.lent.length<=4294967296:=by exact ob):Zf 142 [TP rt,ZC b] [] (Yt (TP (Y8.mk rt.params rt.lent rt.result b))):=by
 refine ZD 15 Tryz.func142 (ar (iA (K4 rt) fun b1=>iA (YI b) fun b2=>iA [nl,nl,.i 0,nl,.i 0] fun b3=>ie (aD 11 (ZH 4 11 [0,1,3,4,6,7,8] [2,2,2,1] (Z8 2 (dc 2 [] [1,2,2] [b2,b1,b1] (Vr rt.params) ?_))))))
 rintro _ _ ⟨v1,rfl,rfl⟩
 refine Z8 5 (dc 5 [] [1,2] [b2,b1] (Vr rt.lent) ?_)
 rintro _ _ ⟨v2,rfl,rfl⟩
 exact Zk 1 2 [9] (Z8 10 (Yy 10 2 [] [] b3 [ZQ rt.params v1,ZQ rt.lent v2,.i rt.result,Wp b.steps,.i b.result] (de (ZK (r3 [] [.agg [ZQ rt.params v1,ZQ rt.lent v2,.i rt.result,Wp b.steps,.i b.result]] [0] [(b3,b3)] ⟨rfl,rfl⟩ (Ze.agg (.cons (Ze.sl _ (Ys Z7 ob)) (.cons (Ze.sl _ (Ys Z7 ob)) (.cons li (.cons (Ze.sl _ (Ys Zj ob)) (.cons li .nil)))))))))))
theorem Rx (n:Zx) (us:LI) (fds:LI) (kd:Z4) (os:LI) (ls:LI) (mm:Nat) (bb:Nat) (hn:Xk n:=by exact ob) (hf:fB n.decls n.routines.length (mm+fds.length) kd:=by exact ob) (hop:WE Wd kd:=by exact ob) (hul:us.length=mm:=by exact ob) (hfl:fds.length<=3:=by exact ob) (hm:mm+3+4*kd.sz<=100000:=by exact ob) (hor:∀v∈os,0<=v/\v<(mm:Int)) (hol:os.length+3+4*kd.sz<=730:=by exact ob) (hal:ls.length+2000*kd.sz<=1000000:=by exact ob) (hbz:kd.sz<=500:=by exact ob) (hb:kd.sz<bb:=by exact ob) (ih:∀(us2:LI) (b2:Z4) (os2:LI) (as2:LI) (m2:Nat),(fB n.decls n.routines.length m2 b2)->(WE Wd b2)->(us2.length=m2)->(m2+4*b2.sz<=100000)->(∀v∈os2,0<=v/\v<(m2:Int))->(os2.length+4*b2.sz<=730)->(as2.length+2000*b2.sz<=1000000)->(b2.sz<=500)->(b2.sz<bb)->Zf 243 [Yl n,Z6 us2,ZC b2,Z6 os2,Z6 as2] [] (fun r h=>∃(y:Z4),r=ZC y/\h=[]/\KB n.decls n.routines.length m2 y (4500*b2.sz))):Zf 300 [Yl n,Z6 us,Z6 fds,ZC kd,Z6 os,Z6 ls] [] (fun r h=>∃(y:Z4),r=ZC y/\h=[]/\KB n.decls n.routines.length (mm+fds.length) y (4500*kd.sz+1470)):=by
 refine ZD 115 Tryz.func300 (ar (iA (YN n) fun b1=>iA (YI kd) fun b2=>iA [nl,.i 0] fun b3=>ie (Yg 1 (iw (Ye us) (Z1 (Yg 2 (ic [] (TI us fds) ?_)))))))
 rintro _ _ ⟨v1,rfl,rfl⟩
 refine Z1 (Zo 2 [2] (io (.i (((us++fds).length:Nat):Int)) (.i (((Z7 (us++fds)).length:Nat):Int)) (li (by rw [Ye])) (Zu [] (MV kd (((us++fds).length:Nat):Int)) ?_)))
 have hub:=E1 (n:=(((us++fds).length:Nat):Int)) kd []
 simp only [X8,Wv] at hub
 refine Z1 (ar (iL (Z7 []) 0 1 fun v2=>Z1 (ar (iL (Z7 []) 0 1 fun v3=>?_))))
 refine Z1 (Y1 (ab 0 (Y0 (fun fz gz m F h=>∃(k:Nat) (ms:LI) (u:Value) (dr:LI) (w:Value),(k<=os.length)/\(ms.length<=k)/\(dr.length<=k)/\(∀v∈ms,0<=v/\v<(mm:Int))/\(∀v∈dr,0<=v/\v<(mm:Int))/\F=sF [2,4,5,6,9,12,13,15] fz [(14,Z6 (us++fds)),(16,ZQ ms u),(17,ZQ dr w),(18,.i k)]/\h=[Za gz 3,Za gz 4,Za gz 5,.tail u 1,.tail w 1]/\m=os.length-k) _ _ _ ⟨0,[],v2,[],v3,ob,ob,ob,(fun v hv=>by cases hv),(fun v hv=>by cases hv),rfl,rfl,rfl⟩ (wk [3,3,3,1,0] (fc (x:=ZQ (us++fds) v1) (Ze.forget _ _) (fw (Yd fl)))) ?_)))
 rintro m F h ⟨k,ms,u,dr,w,Yf,Zi,Zr,YA,XZ,rfl,rfl,rfl⟩
 refine X4 2 (iw (Ye os) (ZT ((k:Int)<(os.length:Int)) (fun Z9=>?_) (fun Z9=>?_)))
 ·obtain ⟨o1,ho1⟩:=Zq os k om
  have hor1:=hor o1 (ZW ho1)
  refine ak (aq (ab 1 (Yg 3 (Zm (Zh none (k:Int) 1 (ZZ ho1)) (Z2 1 (Zu [] (VL (Vi (((us++fds).length:Nat):Int) kd []) o1) (XM [2,4,5,6,9,12,13,14,15,16,17,18] [(53,.b ((decide (o1∈(Vi (((us++fds).length:Nat):Int) kd [])))||(decide (o1∈ls))))] (fun gz=>gz) ?_ ?_)))))))
  ·refine Z2 1 (ib (b:=(decide (o1∈(Vi (((us++fds).length:Nat):Int) kd [])))) 46 (fun Zb=>?_) (fun Zb=>?_))
   ·exact Z1 (ZV 5 (ZM true Zb fl))
   exact Z2 3 (Zm (Zh none (k:Int) 1 (ZZ ho1)) (Z2 1 (Zu [] (VL ls o1) (Z1 (ZV 5 (ZM (decide (o1∈ls)) Zb fl))))))
  refine ac ((decide (o1∈(Vi (((us++fds).length:Nat):Int) kd [])))||(decide (o1∈ls))) (p:=(o1∈(Vi (((us++fds).length:Nat):Int) kd []))∨(o1∈ls)) (Xo dq dq) (fun Zg=>?_) (fun Zg=>?_)
  ·exact az (Z2 3 (Zm (Zh none (k:Int) 1 (ZZ ho1)) (Z2 1 (iL (Z7 [o1]) 1 1 fun v4=>ZE 0 [(59,Z6 [o1])] (ip 4 (Z7 (ms++[o1])) (Z7 ms) (Z7 [o1]) u none 1 (Yw _) (Yw _) (XT _) (by simp<;>omega) (by simp [XR,Z7]) fun v5=>Z1 (az (Z2 1 (ZG k (Z1 (ZI ⟨k+1,(ms++[o1]),v5,dr,w,ob,ob,ob,(by first|exact YA|exact Xe YA hor1),(by first|exact XZ|exact Xe XZ hor1),rfl,rfl,rfl⟩ (wk [2,2,2,0,1] (fw (fr (ZL k fl))))))))))))))
  exact az (Z2 3 (Zm (Zh none (k:Int) 1 (ZZ ho1)) (Z2 1 (iL (Z7 [o1]) 1 1 fun v6=>ZE 0 [(66,Z6 [o1])] (ip 5 (Z7 (dr++[o1])) (Z7 dr) (Z7 [o1]) w none 1 (Yw _) (Yw _) (XT _) (by simp<;>omega) (by simp [XR,Z7]) fun v7=>Z1 (az (Z2 1 (ZG k (Z1 (ZI ⟨k+1,ms,u,(dr++[o1]),v7,ob,ob,ob,(by first|exact YA|exact Xe YA hor1),(by first|exact XZ|exact Xe XZ hor1),rfl,rfl,rfl⟩ (wk [2,2,2,2,0] (fw (fr (ZL k fl))))))))))))))
 refine ax 0 (ar (iL (Z7 []) 0 1 fun v8=>?_))
 refine Z1 (Y1 (ab 2 (Y0 (fun fz gz m F h=>∃(k:Nat) (ps:LI) (w2:Value),(k<=fds.length)/\(ps.length<=k)/\(∀v∈ps,(mm:Int)<=v/\v<((mm+fds.length:Nat):Int))/\F=sF [2,5,6,9,12,13,14,15,16,17] fz [(19,ZQ ps w2),(20,.i k)]/\h=[Za gz 1,Za gz 2,Za gz 3,Za gz 4,Za gz 5,.tail w2 1]/\m=fds.length-k) _ _ _ ⟨0,[],v8,ob,ob,(fun v hv=>by cases hv),rfl,rfl,rfl⟩ (wk [1,1,1,1,1,0] (fr (Yd fl))) ?_)))
 rintro m F h ⟨k,ps,w2,VZ,Wi,Xs,rfl,rfl,rfl⟩
 refine X4 2 (iw (Ye fds) (ZT ((k:Int)<(fds.length:Int)) (fun ZF=>?_) (fun ZF=>?_)))
 ·refine ak (aq (ab 3 (Yg 2 ?_)))
  obtain ⟨x1,Z5⟩:=Zq fds k om
  refine Zm (Zh none (k:Int) 1 (ZZ Z5)) (XM [2,5,6,9,12,13,14,15,16,17,19,20] [(86,.b ((x1 != 0)&&(decide (((us.length+k:Nat):Int)∈(Vi (((us++fds).length:Nat):Int) kd [])))))] (fun gz=>gz) ?_ ?_)
  ·refine Z2 3 (ib (b:=(x1 != 0)) 80 (fun ZP=>?_) (fun ZP=>?_))
   ·exact Z2 3 (ia (((us.length+k:Nat):Int)) (((us.length:Int))+((k:Int))) (Zu [] (VL (Vi (((us++fds).length:Nat):Int) kd []) ((us.length+k:Nat):Int)) (Z1 (ZV 6 (ZM (decide (((us.length+k:Nat):Int)∈(Vi (((us++fds).length:Nat):Int) kd []))) ZP fl)))))
   exact Z1 (ZV 6 (ZM false ZP fl))
  refine ac ((x1 != 0)&&(decide (((us.length+k:Nat):Int)∈(Vi (((us++fds).length:Nat):Int) kd [])))) (p:=(x1≠0)/\(((us.length+k:Nat):Int)∈(Vi (((us++fds).length:Nat):Int) kd []))) (Xv Xd dq) (fun Yq=>?_) (fun Yq=>?_)
  ·exact az (Z2 3 (ia (((us.length+k:Nat):Int)) (((us.length:Int))+((k:Int))) (iL (Z7 [((us.length+k:Nat):Int)]) 1 1 fun v9=>ZE 0 [(91,Z6 [((us.length+k:Nat):Int)])] (ip 6 (Z7 (ps++[((us.length+k:Nat):Int)])) (Z7 ps) (Z7 [((us.length+k:Nat):Int)]) w2 none 1 (Yw _) (Yw _) (XT _) (by simp<;>omega) (by simp [XR,Z7]) fun v10=>Z1 (az (Z2 1 (ZG k (Z1 (ZI ⟨k+1,(ps++[((us.length+k:Nat):Int)]),v10,ob,ob,(by first|exact Xs|exact Xe Xs om),rfl,rfl,rfl⟩ (wk [2,2,2,2,2,0] (fr (ZL k fl))))))))))))
  exact ak (az (Z2 1 (ZG k (Z1 (ZI ⟨k+1,ps,w2,ob,ob,(by first|exact Xs|exact Xe Xs om),rfl,rfl,rfl⟩ (ZV 6 (fr (ZL k fl))))))))
 refine ax 2 (ar (ZE 1 [(93,Z6 ps)] (ic [] (Q1 14 ps) ?_)))
 rintro _ _ ⟨v11,rfl,rfl⟩
 refine ZE 1 [(95,Z6 dr)] (ic [] (Q1 15 dr) ?_)
 rintro _ _ ⟨v12,rfl,rfl⟩
 refine ZE 0 [(96,Wp (dr.map (Zl 15)))] (ip 1 (Zj ((ps.map (Zl 14))++(dr.map (Zl 15)))) (Zj (ps.map (Zl 14))) (Zj (dr.map (Zl 15))) v11 none 5 (X1 _) (X1 _) (V4 _) (by simp<;>omega) (by simp [Wj,Zj]) fun v13=>?_)
 refine Z1 (aD 12 (ZH 5 12 [0,1,2,3,4,6,7] [4,3] (Ky (fun fz gz F h=>∃(y1:Z4) (b4:Nat) (zs1:LI),(zs1.length<=ls.length/\∀z∈zs1,z∈ls)/\(KB n.decls n.routines.length (mm+fds.length) y1 (4500*kd.sz))/\F=sF [12,21] fz [(22,.p b4 0)]/\h=[.obj b4 (YI y1),Za gz 0,Za gz 1,Za gz 2,Za gz 3,Za gz 4,Za gz 6,Za gz 7]) ?_ ?_)))
 ·refine WU 5 10 ?_ ?_
  ·refine dp 5 5 [1,2] [b2,b1] (Z7 (ms++ps)) (Z7 ms) (Z7 ps) u (some w2) 1 (Yw _) (Yw _) (XT _) (by simp<;>omega) (by simp [XR,Z7]) fun v14=>WU 8 10 ?_ ?_
   ·refine dc 8 [] [1,2] [b2,b1] (Ff ls (us.length:Int)) ?_
    rintro _ _ ⟨zs1,v15,rfl,rfl,X9⟩
    have hbl:=X9
    refine Yh 3 3 [] [(103,Z6 (ms++ps)),(106,Z6 zs1)] (WU 9 10 ?_ ?_)
    ·refine dc 9 [] [] [] (ih (us++fds) kd (ms++ps) zs1 (mm+fds.length) hf hop (by rw [Yk,hul]) ob (fun v hv=>by rcases YU.1 hv with h|h;exact (by have:=YA v h;omega);exact (by have:=Xs v h;omega)) (by rw [Yk];omega) ob ob ob) ?_
     rintro _ _ ⟨y1,rfl,rfl,XV⟩
     have hkb:=XV
     have hkl:=hkb.len
     exact Z8 10 (dA 10 [] [] [nl,.i 0] fun b4=>Z8 11 (Yy 11 0 [] [] b4 (YI y1) (de (ZJ ⟨_,b4,_,(by assumption),(by assumption),rfl,rfl⟩ (wk [0,2,2,2,2,2,2,2] fl)))))
    refine dA 10 [1,2] [b2,b1] [nl,.i 0] fun b5=>Z8 9 (dc 9 [] [] [] (ih (us++fds) kd (ms++ps) zs1 (mm+fds.length) hf hop (by rw [Yk,hul]) ob (fun v hv=>by rcases YU.1 hv with h|h;exact (by have:=YA v h;omega);exact (by have:=Xs v h;omega)) (by rw [Yk];omega) ob ob ob) ?_)
    rintro _ _ ⟨y2,rfl,rfl,Wu⟩
    have hkb:=Wu
    have hkl:=hkb.len
    exact Z8 11 (Yy 11 0 [] [] b5 (YI y2) (de (ZJ ⟨_,b5,_,(by assumption),(by assumption),rfl,rfl⟩ (wk [0,2,2,2,2,2,2,2] fl))))
   refine dA 10 [1,2] [b2,b1] [nl,.i 0] fun b6=>Z8 8 (dc 8 [] [2,3] [b2,b1] (Ff ls (us.length:Int)) ?_)
   rintro _ _ ⟨zs2,v16,rfl,rfl,V5⟩
   have hbl:=V5
   refine Yh 2 2 [] [(103,Z6 (ms++ps)),(106,Z6 zs2)] (Z8 9 (dc 9 [] [] [] (ih (us++fds) kd (ms++ps) zs2 (mm+fds.length) hf hop (by rw [Yk,hul]) ob (fun v hv=>by rcases YU.1 hv with h|h;exact (by have:=YA v h;omega);exact (by have:=Xs v h;omega)) (by rw [Yk];omega) ob ob ob) ?_))
   rintro _ _ ⟨y3,rfl,rfl,Vm⟩
   have hkb:=Vm
   have hkl:=hkb.len
   exact Z8 11 (Yy 11 1 [] [] b6 (YI y3) (de (ZJ ⟨_,b6,_,(by assumption),(by assumption),rfl,rfl⟩ (wk [0,2,2,2,2,2,2,2] fl))))
  refine dA 10 [1,2] [b2,b1] [nl,.i 0] fun b7=>Yh 4 4 [] [(102,Z6 ps)] (Z8 5 (dp 5 6 [2,3] [b2,b1] (Z7 (ms++ps)) (Z7 ms) (Z7 ps) u none 1 (Yw _) (Yw _) (XT _) (by simp<;>omega) (by simp [XR,Z7]) fun v17=>Z8 8 (dc 8 [] [2,3] [b2,b1] (Ff ls (us.length:Int)) ?_)))
  rintro _ _ ⟨zs3,v18,rfl,rfl,US⟩
  have hbl:=US
  refine Yh 2 2 [] [(103,Z6 (ms++ps)),(106,Z6 zs3)] (Z8 9 (dc 9 [] [] [] (ih (us++fds) kd (ms++ps) zs3 (mm+fds.length) hf hop (by rw [Yk,hul]) ob (fun v hv=>by rcases YU.1 hv with h|h;exact (by have:=YA v h;omega);exact (by have:=Xs v h;omega)) (by rw [Yk];omega) ob ob ob) ?_))
  rintro _ _ ⟨y4,rfl,rfl,UT⟩
  have hkb:=UT
  have hkl:=hkb.len
  exact Z8 11 (Yy 11 2 [] [] b7 (YI y4) (de (ZJ ⟨_,b7,_,(by assumption),(by assumption),rfl,rfl⟩ (wk [0,2,2,2,2,2,2,2] fl))))
 rintro F h ⟨y1,b4,zs1,X9,XV,rfl,rfl⟩
 have hbl:=X9
 have hkb:=XV
 have hkl:=hkb.len
 exact aD 8 (ZH 3 8 [0,1,2,4,5] [0,0] (Z8 3 (dp 3 1 [0] [b4] (Zj (((ps.map (Zl 14))++(dr.map (Zl 15)))++y1.steps)) (Zj ((ps.map (Zl 14))++(dr.map (Zl 15)))) (Zj y1.steps) v13 none 5 (X1 _) (X1 _) (V4 _) (by simp<;>omega) (by simp [Wj,Zj]) fun v19=>Zk 1 2 [6] (Z8 7 (Yy 7 3 [] [] b3 [YG (((ps.map (Zl 14))++(dr.map (Zl 15)))++y1.steps) v19,.i y1.result] (de (ZK (r3 [] [.agg [YG (((ps.map (Zl 14))++(dr.map (Zl 15)))++y1.steps) v19,.i y1.result]] [0] [(b3,b3)] ⟨(Z4.mk (((ps.map (Zl 14))++(dr.map (Zl 15)))++y1.steps) y1.result),rfl,rfl,((hkb.put (fun v hv=>by have:=Xs v hv;omega) (fun v hv=>by have:=XZ v hv;omega)).le om)⟩ (Ze.agg (.cons (Ze.forget _ _) (.cons (lr _) .nil)))))))))))
theorem Ry (n:Zx) (us:LI) (s:Z3) (os:LI) (ls:LI) (mm:Nat) (bb:Nat) (hn:Xk n:=by exact ob) (hf:FS n.decls n.routines.length mm s:=by exact ob) (h11:s.op<=11:=by exact ob) (hop:TE Wd s.kids:=by exact ob) (hul:us.length=mm:=by exact ob) (hm:mm+4*s.sz<=100000:=by exact ob) (hor:∀v∈os,0<=v/\v<(mm:Int)) (hol:os.length+4*s.sz<=730:=by exact ob) (hal:ls.length+2000*s.sz<=1000000:=by exact ob) (hbz:s.sz<=500:=by exact ob) (hb:s.sz<=bb:=by exact ob) (ih:∀(us2:LI) (b2:Z4) (os2:LI) (as2:LI) (m2:Nat),(fB n.decls n.routines.length m2 b2)->(WE Wd b2)->(us2.length=m2)->(m2+4*b2.sz<=100000)->(∀v∈os2,0<=v/\v<(m2:Int))->(os2.length+4*b2.sz<=730)->(as2.length+2000*b2.sz<=1000000)->(b2.sz<=500)->(b2.sz<bb)->Zf 243 [Yl n,Z6 us2,ZC b2,Z6 os2,Z6 as2] [] (fun r h=>∃(y:Z4),r=ZC y/\h=[]/\KB n.decls n.routines.length m2 y (4500*b2.sz))):Zf 281 [Yl n,Z6 us,Ym s,Z6 os,Z6 ls] [] (fun r h=>∃(y:Z3),r=Ym y/\h=[]/\KT n.decls n.routines.length mm y (4500*YK s.kids+4420)):=by
 have XD:=hn.decls
 have hkf:=hf.few XD
 have hsa:=hf.alen
 refine ZD 62 Tryz.func281 (ar (iA (YN n) fun b1=>iA (Xf s) fun b2=>iA [.i 0,.i 0,.i 0,nl,nl] fun b3=>ie (ar (iL (Yu []) 0 2 fun v1=>Z1 (Zo 4 [3,2] (ic [] (Kb n.decls s.num) ?_))))))
 rintro _ _ ⟨v2,rfl,rfl⟩
 refine Z1 (Y1 (ab 0 (Y0 (fun fz gz m F h=>∃(k:Nat) (ks:List Z4) (u:Value),(k<=s.kids.length)/\(ks.length=k)/\(KK n.decls n.routines.length (VK n.decls s.op s.num mm) ks (4500*YK (s.kids.take k)+1470*k))/\F=sF [1,3,4,5,7,10] fz [(11,U9 ks u),(12,Z6 (Y2 n.decls s.num)),(13,.i k)]/\h=[Za gz 2,Za gz 3,Za gz 4,.tail u 2]/\m=s.kids.length-k) _ _ _ ⟨0,[],v1,ob,ob,(KK.nil.le (T7 _)),rfl,rfl,rfl⟩ (wk [2,2,2,1] (fr (fc (x:=ZQ (Y2 n.decls s.num) v2) (Ze.forget _ _) (Yd fl)))) ?_)))
 rintro m F h ⟨k,ks,u,Yf,Zi,Zr,rfl,rfl,rfl⟩
 refine Y6 3 [1] (iw (Vk s.kids) (ZT ((k:Int)<(s.kids.length:Int)) (fun Z9=>?_) (fun Z9=>?_)))
 ·refine ak (aq (ab 1 (ar (iL (Z7 []) 0 1 fun v3=>?_))))
  refine Z1 (X7 (Vx [2] (XC (fun fz gz F h=>∃(fds:LI),(VK n.decls s.op s.num mm k=mm+fds.length)/\(fds.length<=3)/\F=sF [1,3,4,5,7,10,11,12,13] fz [(14,Z6 fds)]/\h=[Za gz 1,Za gz 2,Za gz 3,Za gz 4]) ?_ ?_)))
  ·refine ac (s.op==8) Zz (fun Zg=>?_) (fun Zg=>?_)
   ·refine aE 8 (ZH 4 8 [0,1,2,3] [3] ?_)
    obtain ⟨x1,Z5⟩:=Zq (Y2 n.decls s.num) k (by have:=hf.k8 (by assumption);omega)
    have hcf:=VD XD x1
    exact dx 4 (Zh none (k:Int) 1 (ZZ Z5)) (Zk 2 3 [5] (Z8 6 (Yp 6 [] [] [] (Q0 n.decls x1) (Zk 0 1 [7] (de (ZJ ⟨Y4 n.decls x1,(Gi (by assumption) Z5),ob,rfl,rfl⟩ (wk [1,1,1,1] fl)))))))
   exact ak (ZJ ⟨[],(by rw [Gj (by assumption)];rfl),ob,rfl,rfl⟩ (wk [1,1,1,1] fl))
  rintro F h ⟨fds,V6,KS,rfl,rfl⟩
  refine aE 15 (ZH 8 15 [0,1,2,3,4,5,6] [2,1] ?_)
  obtain ⟨x2,Zv⟩:=Zq s.kids k om
  have hkz:=VS Zv
  have hfk:=BK hf.kids Zv
  rw [Wv,V6] at hfk
  have hok:=Ba.1 hop x2 (ZW Zv)
  have hbt:=CI Zv
  have hba:=CJ Zv
  refine dx 7 (Zh none (k:Int) 2 (Vv Zv)) (Zk 4 7 [8,9,10] (Z8 11 (dc 11 [] [] [] (Rx n us fds x2 os ls mm bb (hf:=hfk) (hop:=hok) (hor:=hor) (ih:=ih)) ?_)))
  rintro _ _ ⟨y1,rfl,rfl,ZX⟩
  have hkb:=ZX
  exact Z8 12 (W5 12 [] [] [ZC y1] (Yu [y1]) (U0 [y1]).symm 1 2 fun v4=>Yh 2 2 [] [(51,XG [y1])] (Z8 13 (dp 13 4 [] [] (Yu (ks++[y1])) (Yu ks) (Yu [y1]) u none 2 (Uy _) (Uy _) (CS _) (by simp<;>omega) (by simp [KD,Yu]) fun v5=>Zk 0 1 [14] (de (az (Z2 1 (ZG k (Z1 (ZI ⟨k+1,(ks++[y1]),v5,ob,ob,((Zr.snoc Zi (by rw [V6];exact hkb)).le om),rfl,rfl,rfl⟩ (wk [2,2,2,0] (fw (ZL k fl))))))))))))
 refine ax 0 (aD 10 (ZH 3 10 [0,1,2,3,4,5,7] [1,1,1] (Z8 6 (dc 6 [] [1,1] [b2,b2] (Vr s.args) ?_))))
 rintro _ _ ⟨v6,rfl,rfl⟩
 exact Zk 1 2 [8] (Z8 9 (Yy 9 1 [] [] b3 [.i s.op,.i s.num,.i 0,ZQ s.args v6,U9 ks u] (de (ZK (r3 [] [.agg [.i s.op,.i s.num,.i 0,ZQ s.args v6,U9 ks u]] [0] [(b3,b3)] ⟨(Z3.mk s.op s.num 0 s.args ks),rfl,rfl,((KT.of (into:=0) hf h11 om om Zr).le (by have:=EA (xs:=s.kids) (k:=k) om;omega))⟩ (Ze.agg (.cons (lr _) (.cons (lr _) (.cons (lr _) (.cons (Ze.forget _ _) (.cons (Ze.forget _ _) .nil)))))))))))
theorem Rv (n:Zx) (us:LI) (b:Z4) (os:LI) (ls:LI) (mm:Nat) (hn:Xk n) (hf:fB n.decls n.routines.length mm b) (hop:WE Wd b) (hul:us.length=mm) (hm:mm+4*b.sz<=100000) (hor:∀v∈os,0<=v/\v<(mm:Int)) (hol:os.length+4*b.sz<=730) (hal:ls.length+2000*b.sz<=1000000) (hbz:b.sz<=500) (ih:∀(us2:LI) (b2:Z4) (os2:LI) (as2:LI) (m2:Nat),(fB n.decls n.routines.length m2 b2)->(WE Wd b2)->(us2.length=m2)->(m2+4*b2.sz<=100000)->(∀v∈os2,0<=v/\v<(m2:Int))->(os2.length+4*b2.sz<=730)->(as2.length+2000*b2.sz<=1000000)->(b2.sz<=500)->(b2.sz<b.sz)->Zf 243 [Yl n,Z6 us2,ZC b2,Z6 os2,Z6 as2] [] (fun r h=>∃(y:Z4),r=ZC y/\h=[]/\KB n.decls n.routines.length m2 y (4500*b2.sz))):Zf 243 [Yl n,Z6 us,ZC b,Z6 os,Z6 ls] [] (fun r h=>∃(y:Z4),r=ZC y/\h=[]/\KB n.decls n.routines.length mm y (4500*b.sz)):=by
 have XD:=hn.decls
 have hbe:=b.sz_eq
 have Zt:=WS b
 obtain ⟨hfs,hr1,hr2⟩:=(BJ b).1 hf
 have hos:=Am.1 ((DB b).1 hop)
 have hdn:=EL hos
 have hdl:=hdn b.steps.length (YQ _)
 rw [Va] at hdl
 refine ZD 149 Tryz.func243 (ar (iA (YN n) fun b1=>iA (YI b) fun b2=>iA [nl,.i 0] fun b3=>ie (ar (iL (Zj []) 0 5 fun v1=>Z1 (Yg 1 (ic [] (Vr us) ?_))))))
 rintro _ _ ⟨v2,rfl,rfl⟩
 refine Z1 (Yg 1 (ic [] (Vr os) ?_))
 rintro _ _ ⟨v3,rfl,rfl⟩
 refine Z1 (Y1 (ab 0 (Y0 (fun fz gz m F h=>∃(k:Nat) (vs:LI) (w:Value) (ms:LI) (u:Value) (xs:List Z3) (v:Value),(k<=b.steps.length)/\(vs.length=mm+k)/\(CL n.decls n.routines.length mm xs k (4500*Y5 (b.steps.take k)))/\(ms.length<=os.length+k)/\(∀v∈ms,0<=v/\v<((mm+k:Nat):Int))/\F=sF [4,5,7,10] fz [(11,YG xs v),(12,ZQ vs w),(13,ZQ ms u),(14,.i k)]/\h=[Za gz 3,Za gz 4,Za gz 5,.tail u 1,.tail v 5,.tail w 1]/\m=b.steps.length-k) _ _ _ ⟨0,us,v2,os,v3,[],v1,ob,ob,CL.nil,ob,hor,rfl,rfl,rfl⟩ (wk [3,3,3,0,1,0] (fw (fr (Yd fl)))) ?_)))
 rintro m F h ⟨k,vs,w,ms,u,xs,v,Yf,Zi,Zr,YA,XZ,rfl,rfl,rfl⟩
 refine Y6 3 [1] (iw (W8 b.steps) (ZT ((k:Int)<(b.steps.length:Int)) (fun Z9=>?_) (fun Z9=>?_)))
 ·refine ak (aq (ab 1 (Zo 3 [1] ?_)))
  obtain ⟨x1,Z5⟩:=Zq b.steps k om
  have X6:=Bm Z5
  have hfS:=(D0 x1).1 (BL hfs Z5)
  rw [hdn k om] at hfS
  have hoS:=(C9 x1).1 (hos x1 (ZW Z5))
  have htk:=Gw Z5
  have hse:=(x1).sz_eq
  have hal4:=hfS.alen
  have hxl:=Zr.len
  have htl:=Q3 b.steps (k+1)
  have hsd:=Ar b.steps (k+1)
  have hul2:=E2 (n:=((vs.length+1:Nat):Int)) (b.steps.drop (k+1)) []
  have hul3:=Co (n:=((vs.length+1:Nat):Int)) (V0 ((vs.length+1:Nat):Int) (b.steps.drop (k+1)) []) b.result
  simp only [X8,Wv] at hul2
  refine Zm (Zh none (k:Int) 5 (XO Z5)) (Z2 1 (iA [.i 0,.i 0,.i 0,nl,nl] fun b4=>ZA 0 b4 (Xf x1) (ie (Yg 1 (iw (Ye vs) (Z1 (ar (TZ 3 [(41,Z6 vs)] [3,0] (Zu [] (Gt n vs x1 ob ob) (Z1 (Zo 2 [2] (ia (((vs.length+1:Nat):Int)) (((vs.length:Int))+(1)) (Z2 1 (ZG k (iL (Z7 []) 0 1 fun v4=>ZE 0 [(49,Z6 [])] (Zu [] (MH b ((vs.length+1:Nat):Int) (k+1) [] (hk:=om) (hz:=(by simp only [X8];omega))) (Z2 1 (ic [] (Sl (WZ ((vs.length+1:Nat):Int) (V0 ((vs.length+1:Nat):Int) (b.steps.drop (k+1)) []) b.result) ls) ?_))))))))))))))))))
  rintro _ _ ⟨zs1,rfl,rfl,ZX⟩
  have hun:=ZX
  refine Z1 (ar (TZ 6 [(55,Z6 vs),(57,Z6 ms)] [4,1] (ic [] (RC n vs x1 ms zs1 (mm+k) (hf:=hfS)) ?_)))
  rintro _ _ ⟨zs2,rfl,rfl,Y9⟩
  have hdu:=Y9
  have hq1:=Zr.cnts (op:=14) (.inl rfl) (vs:=zs2) (fun v hv=>hfS.args v (hdu.2 v hv))
  have hl1:=hq1.len
  refine ic [] (Q1 14 zs2) ?_
  rintro _ _ ⟨v5,rfl,rfl⟩
  refine ZE 0 [(60,Wp (zs2.map (Zl 14)))] (ip 7 (Zj (xs++(zs2.map (Zl 14)))) (Zj xs) (Zj (zs2.map (Zl 14))) v none 5 (X1 _) (X1 _) (V4 _) (by simp<;>omega) (by simp [Wj,Zj]) fun v6=>Z1 (ar (TZ 6 [(64,Z6 vs),(66,Z6 ms)] [6,3] (ic [] (Ry n vs x1 ms zs1 (mm+k) b.sz (hf:=hfS) (h11:=hoS.1) (hop:=hoS.2) (hor:=XZ) (ih:=ih)) ?_))))
  rintro _ _ ⟨y1,rfl,rfl,YL⟩
  have hkt:=YL
  have hq2:=hq1.kt hkt
  have hl2:=hq2.len
  refine VF [Ym y1] (Zj [y1]) (WO [y1]).symm 1 5 fun v7=>ZE 0 [(69,Wp [y1])] (ip 1 (Zj ((xs++(zs2.map (Zl 14)))++[y1])) (Zj (xs++(zs2.map (Zl 14)))) (Zj [y1]) v6 none 5 (X1 _) (X1 _) (V4 _) (by simp<;>omega) (by simp [Wj,Zj]) fun v8=>Z1 (ar (TZ 5 [(72,Z6 vs),(74,Z6 ms)] [7,4] (ic [] (RR n vs x1 ms zs1 (mm+k) (hf:=hfS)) ?_))))
  rintro _ _ ⟨zs3,v9,rfl,rfl,YX⟩
  have hla:=YX
  refine Z1 (ar (TZ 4 [(79,Z6 zs3)] [8,5] (ic [] (RS n x1 zs3 zs1 (mm+k) (hf:=hfS)) ?_)))
  rintro _ _ ⟨zs4,rfl,rfl,X9⟩
  have hld:=X9
  have hq3:=hq2.cnts (op:=15) (.inr rfl) (vs:=zs4) (fun v hv=>by have:=hfS.args v (hld.2 v hv);omega)
  have hl3:=hq3.len
  refine Z1 (Yg 2 (ic [] (Q1 15 zs4) ?_))
  rintro _ _ ⟨v10,rfl,rfl⟩
  refine ZE 0 [(84,Wp (zs4.map (Zl 15)))] (ip 2 (Zj (((xs++(zs2.map (Zl 14)))++[y1])++(zs4.map (Zl 15)))) (Zj ((xs++(zs2.map (Zl 14)))++[y1])) (Zj (zs4.map (Zl 15))) v8 none 5 (X1 _) (X1 _) (V4 _) (by simp<;>omega) (by simp [Wj,Zj]) fun v11=>?_)
  refine Z1 (Y1 (ab 2 (Y0 (fun fz gz m F h=>∃(j:Nat) (m3:LI) (u3:Value) (v3:Value) (w3:Value),(j<=zs4.length)/\(m3.length<=os.length+k)/\(∀v∈m3,0<=v/\v<((mm+k:Nat):Int))/\F=sF [4,5,7,10,14,16,17,18,19] fz [(11,YG (((xs++(zs2.map (Zl 14)))++[y1])++(zs4.map (Zl 15))) v3),(12,ZQ vs w3),(13,ZQ m3 u3),(20,.i j)]/\h=[Za gz 7,Za gz 8,Za gz 9,.tail u3 1,.tail v3 5,.tail w3 1]/\m=zs4.length-j) _ _ _ ⟨0,zs3,v9,v11,w,ob,ob,(fun v hv=>XZ v (hla.2 v hv)),rfl,rfl,rfl⟩ (wk [7,7,7,2,0,6] (fw (fr (Yd fl)))) ?_)))
  rintro m F h ⟨j,m3,u3,v3,w3,VZ,Wi,Xs,rfl,rfl,rfl⟩
  refine X4 2 (iw (Ye zs4) (ZT ((j:Int)<(zs4.length:Int)) (fun Zg=>?_) (fun Zg=>?_)))
  ·refine ak (aq (ab 3 (az (Z2 3 ?_))))
   obtain ⟨x2,Zv⟩:=Zq zs4 j om
   refine Zm (Zh none (j:Int) 1 (ZZ Zv)) (ZE 1 [(92,Z6 m3)] (ic [] (Ir m3 x2) ?_))
   rintro _ _ ⟨v12,rfl,rfl⟩
   exact Z1 (az (Z2 1 (ZG j (Z1 (ZI ⟨j+1,(UE m3 x2),v12,v3,w3,ob,(WK (Cb _ _) Wi),(fun v hv=>Xs v (Bb hv)),rfl,rfl,rfl⟩ (wk [1,1,1,0,1,1] (fw (fr (ZL j fl)))))))))
  refine ax 2 (Yg 2 (iL (Z7 [YF n vs x1]) 1 1 fun v13=>ZE 0 [(100,Z6 [YF n vs x1])] (ip 6 (Z7 (vs++[YF n vs x1])) (Z7 vs) (Z7 [YF n vs x1]) w3 none 1 (Yw _) (Yw _) (XT _) (by simp<;>omega) (by simp [XR,Z7]) fun v14=>Z1 (ar (XM [4,5,7,10,11,12,13,14,16,17] [(108,.b (((YF n vs x1) != 0)&&(decide ((vs.length:Int)∈zs1))))] (fun gz=>gz) ?_ ?_)))))
  ·refine Z2 3 (ib (b:=((YF n vs x1) != 0)) 104 (fun Zb=>?_) (fun Zb=>?_))
   ·exact Z2 2 (Zu [] (VL zs1 (vs.length:Int)) (Z1 (ZV 7 (ZM (decide ((vs.length:Int)∈zs1)) Zb fl))))
   exact Z1 (ZV 7 (ZM false Zb fl))
  refine ac (((YF n vs x1) != 0)&&(decide ((vs.length:Int)∈zs1))) (p:=((YF n vs x1)≠0)/\((vs.length:Int)∈zs1)) (Xv Xd dq) (fun ZF=>?_) (fun ZF=>?_)
  ·exact az (Z2 2 (iL (Z7 [(vs.length:Int)]) 1 1 fun v15=>ZE 0 [(111,Z6 [(vs.length:Int)])] (ip 6 (Z7 (m3++[(vs.length:Int)])) (Z7 m3) (Z7 [(vs.length:Int)]) u3 none 1 (Yw _) (Yw _) (XT _) (by simp<;>omega) (by simp [XR,Z7]) fun v16=>Z1 (az (Z2 1 (ZG k (Z1 (ZI ⟨k+1,(vs++[YF n vs x1]),v14,(m3++[(vs.length:Int)]),v16,(((xs++(zs2.map (Zl 14)))++[y1])++(zs4.map (Zl 15))),v3,ob,ob,(by first|exact hq3.le om|exact (hq3.cnt (op:=15) (.inr rfl) om).le om),ob,(by first|exact Xe (fun v hv=>by have:=Xs v hv;omega) om|exact (fun v hv=>by have:=Xs v hv;omega)),rfl,rfl,rfl⟩ (wk [4,4,4,0,3,1] (fw (fr (ZL k fl))))))))))))
  refine ar (YR ((YF n vs x1) != 0) Xd (fun Yq=>?_) (fun Yq=>?_))
  ·exact az (Z2 2 (Zu [] (Kc 15 (vs.length:Int)) (VF [Ym (Zl 15 (vs.length:Int))] (Zj [(Zl 15 (vs.length:Int))]) (WO [(Zl 15 (vs.length:Int))]).symm 1 5 fun v17=>ZE 0 [(118,Wp [(Zl 15 (vs.length:Int))])] (ip 7 (Zj ((((xs++(zs2.map (Zl 14)))++[y1])++(zs4.map (Zl 15)))++[(Zl 15 (vs.length:Int))])) (Zj (((xs++(zs2.map (Zl 14)))++[y1])++(zs4.map (Zl 15)))) (Zj [(Zl 15 (vs.length:Int))]) v3 none 5 (X1 _) (X1 _) (V4 _) (by simp<;>omega) (by simp [Wj,Zj]) fun v18=>Z1 (az (Z2 1 (ZG k (Z1 (ZI ⟨k+1,(vs++[YF n vs x1]),v14,m3,u3,((((xs++(zs2.map (Zl 14)))++[y1])++(zs4.map (Zl 15)))++[(Zl 15 (vs.length:Int))]),v18,ob,ob,(by first|exact hq3.le om|exact (hq3.cnt (op:=15) (.inr rfl) om).le om),ob,(by first|exact Xe (fun v hv=>by have:=Xs v hv;omega) om|exact (fun v hv=>by have:=Xs v hv;omega)),rfl,rfl,rfl⟩ (wk [4,4,4,4,0,1] (fw (fr (ZL k fl)))))))))))))
  exact ak (az (Z2 1 (ZG k (Z1 (ZI ⟨k+1,(vs++[YF n vs x1]),v14,m3,u3,(((xs++(zs2.map (Zl 14)))++[y1])++(zs4.map (Zl 15))),v3,ob,ob,(by first|exact hq3.le om|exact (hq3.cnt (op:=15) (.inr rfl) om).le om),ob,(by first|exact Xe (fun v hv=>by have:=Xs v hv;omega) om|exact (fun v hv=>by have:=Xs v hv;omega)),rfl,rfl,rfl⟩ (wk [2,2,2,2,2,0] (fw (fr (ZL k fl)))))))))
 have hxl:=Zr.len
 have htl:=Q3 b.steps k
 refine ax 0 (Y6 3 [1] ?_)
 obtain ⟨x3,X3⟩:=Zq vs b.result.toNat om
 refine Zm (Zh (some w) b.result 1 (ZZ X3)) (XM [7,10,11] [(138,.b ((x3 != 0)&&((decide (b.result∈ls))||(!(decide (b.result∈ms))))))] (fun gz=>gz) ?_ ?_)
 ·refine Z2 3 (ib (b:=(x3 != 0)) 126 (fun ZP=>?_) (fun ZP=>?_))
  ·refine ZU 3 [1] (Zu [] (VL ls b.result) (Z2 1 (ib (b:=(decide (b.result∈ls))) 131 (fun YW=>?_) (fun YW=>?_))))
   ·exact Z1 (ZV 6 (ZM true (And.intro ZP YW) fl))
   exact TZ 3 [(132,Z6 ms)] [1] (Zu [] (VL ms b.result) (Z1 (ZV 6 (ZM (!(decide (b.result∈ms))) (And.intro ZP YW) fl))))
  exact Z1 (ZV 6 (ZM false ZP fl))
 refine ac ((x3 != 0)&&((decide (b.result∈ls))||(!(decide (b.result∈ms))))) (p:=(x3≠0)/\((b.result∈ls)∨(¬(b.result∈ms)))) (Xv Xd (Xo dq (Xh dq))) (fun XH=>?_) (fun XH=>?_)
 ·exact az (ZU 3 [1] (Zu [] (Kc 14 b.result) (VF [Ym (Zl 14 b.result)] (Zj [Zl 14 b.result]) (WO [Zl 14 b.result]).symm 1 5 fun v19=>ZE 0 [(143,Wp [Zl 14 b.result])] (ip 5 (Zj (xs++[Zl 14 b.result])) (Zj xs) (Zj [Zl 14 b.result]) v none 5 (X1 _) (X1 _) (V4 _) (by simp<;>omega) (by simp [Wj,Zj]) fun v20=>Z1 (Zo 4 [3] (ZA 2 b3 [YG (xs++[Zl 14 b.result]) v20,.i b.result] (ie (ZK (r3 [] [.agg [YG (xs++[Zl 14 b.result]) v20,.i b.result]] [0] [(b3,b3)] ⟨(Z4.mk (xs++[Zl 14 b.result]) b.result),rfl,rfl,(((Zr.cnt (op:=14) (.inl rfl) om).block om).le (by have:=Q3 b.steps k;omega))⟩ (Ze.agg (.cons (Ze.forget _ _) (.cons (lr _) .nil))))))))))))
 exact ak (Zo 4 [1] (ZA 0 b3 [YG xs v,.i b.result] (ie (ZK (r3 [] [.agg [YG xs v,.i b.result]] [0] [(b3,b3)] ⟨(Z4.mk xs b.result),rfl,rfl,((Zr.block om).le (by have:=Q3 b.steps k;omega))⟩ (Ze.agg (.cons (Ze.forget _ _) (.cons (lr _) .nil))))))))
theorem Ru (n:Zx) (us:LI) (b:Z4) (os:LI) (ls:LI) (mm:Nat) (hn:Xk n:=by exact ob) (hf:fB n.decls n.routines.length mm b:=by exact ob) (hop:WE Wd b:=by exact ob) (hul:us.length=mm:=by exact ob) (hm:mm+4*b.sz<=100000:=by exact ob) (hor:∀v∈os,0<=v/\v<(mm:Int)) (hol:os.length+4*b.sz<=730:=by exact ob) (hal:ls.length+2000*b.sz<=1000000:=by exact ob) (hbz:b.sz<=500:=by exact ob):Zf 243 [Yl n,Z6 us,ZC b,Z6 os,Z6 ls] [] (fun r h=>∃(y:Z4),r=ZC y/\h=[]/\KB n.decls n.routines.length mm y (4500*b.sz)):=by
 have key:∀k:Nat,∀(us2:LI) (b2:Z4) (os2:LI) (as2:LI) (m2:Nat),(fB n.decls n.routines.length m2 b2)->(WE Wd b2)->(us2.length=m2)->(m2+4*b2.sz<=100000)->(∀v∈os2,0<=v/\v<(m2:Int))->(os2.length+4*b2.sz<=730)->(as2.length+2000*b2.sz<=1000000)->(b2.sz<=500)->(b2.sz<k)->Zf 243 [Yl n,Z6 us2,ZC b2,Z6 os2,Z6 as2] [] (fun r h=>∃(y:Z4),r=ZC y/\h=[]/\KB n.decls n.routines.length m2 y (4500*b2.sz)):=by
  intro k
  induction k with
  | zero=>intro us2 b2 os2 as2 m2 h1 h2 h3 h4 h5 h6 h7 h8 h9;omega
  | succ k ih=>intro us2 b2 os2 as2 m2 h1 h2 h3 h4 h5 h6 h7 h8 h9;exact Rv n us2 b2 os2 as2 m2 hn h1 h2 h3 h4 h5 h6 h7 h8 fun us3 b3 os3 as3 m3 q1 q2 q3 q4 q5 q6 q7 q8 q9=>ih us3 b3 os3 as3 m3 q1 q2 q3 q4 q5 q6 q7 q8 om
 exact key (b.sz+1) us b os ls mm hf hop hul hm hor hol hal hbz om
theorem Rw (n:Zx) (rt:Y8) (qz:Nat) (hn:Xk n:=by exact ob) (hr:RF n.decls n.routines.length qz Wd rt:=by exact ob) (hqz:qz<=181:=by exact ob):Zf 191 [Yl n,TP rt] [] (fun r h=>∃(y:Z4),r=ZC y/\h=[]/\KB n.decls n.routines.length rt.params.length y (4500*qz+10)):=by
 have hrp:rt.params.length<=3:=(Ui.bd (f:=⟨rt.params,rt.result,default⟩) hr.sig).1
 have hrl:=hr.lent.1
 have hrz:=hr.body.2
 refine ZD 65 Tryz.func191 (ar (iA (YN n) fun b1=>iA (K4 rt) fun b2=>iA [nl,.i 0] fun b3=>ie (Zo 4 [1,1] (iw (Ye rt.params) (Zu [] (MV rt.body (rt.params.length:Int)) ?_)))))
 have hub:=E1 (n:=(rt.params.length:Int)) rt.body []
 simp only [X8,Wv] at hub
 refine Z1 (ar (iL (Z7 []) 0 1 fun v1=>Z1 (ar (iL (Z7 []) 0 1 fun v2=>?_))))
 refine Z1 (Y1 (ab 0 (Y0 (fun fz gz m F h=>∃(k:Nat) (os:LI) (u:Value) (dr:LI) (w:Value),(k<=rt.params.length)/\(os.length<=k)/\(dr.length<=k)/\(∀v∈os,0<=v/\v<(rt.params.length:Int))/\(∀v∈dr,0<=v/\v<(rt.params.length:Int))/\F=sF [2,3,4,5] fz [(6,ZQ os u),(7,ZQ dr w),(8,.i k)]/\h=[Za gz 2,Za gz 3,Za gz 4,.tail u 1,.tail w 1]/\m=rt.params.length-k) _ _ _ ⟨0,[],v1,[],v2,ob,ob,ob,(fun v hv=>by cases hv),(fun v hv=>by cases hv),rfl,rfl,rfl⟩ (wk [2,2,2,1,0] (fw (Yd fl))) ?_)))
 rintro m F h ⟨k,os,u,dr,w,Yf,Zi,Zr,YA,XZ,rfl,rfl,rfl⟩
 refine Y6 3 [1] (iw (Ye rt.params) (ZT ((k:Int)<(rt.params.length:Int)) (fun Z9=>?_) (fun Z9=>?_)))
 ·refine ak (aq (ab 1 (Zo 3 [1] ?_)))
  obtain ⟨x1,Z5⟩:=Zq rt.params k om
  refine Zm (Zh none (k:Int) 1 (ZZ Z5)) (XM [2,3,4,5,6,7,8] [(37,.b ((x1 != 0)&&(!(decide ((k:Int)∈rt.lent)))))] (fun gz=>gz) ?_ ?_)
  ·refine Z2 3 (ib (b:=(x1 != 0)) 31 (fun Zb=>?_) (fun Zb=>?_))
   ·exact ZU 3 [1] (Zu [] (VL rt.lent (k:Int)) (Z1 (ZV 5 (ZM (!(decide ((k:Int)∈rt.lent))) Zb fl))))
   exact Z1 (ZV 5 (ZM false Zb fl))
  refine ac ((x1 != 0)&&(!(decide ((k:Int)∈rt.lent)))) (p:=(x1≠0)/\(¬((k:Int)∈rt.lent))) (Xv Xd (Xh dq)) (fun Zg=>?_) (fun Zg=>?_)
  ·refine Yg 2 (Zu [] (VL (Vi (rt.params.length:Int) rt.body []) (k:Int)) (ie (VA ((k:Int)∈(Vi (rt.params.length:Int) rt.body [])) (fun ZF=>?_) (fun ZF=>?_))))
   ·exact az (Z2 2 (iL (Z7 [(k:Int)]) 1 1 fun v3=>ZE 0 [(43,Z6 [(k:Int)])] (ip 4 (Z7 (os++[(k:Int)])) (Z7 os) (Z7 [(k:Int)]) u none 1 (Yw _) (Yw _) (XT _) (by simp<;>omega) (by simp [XR,Z7]) fun v4=>Z1 (az (Z2 1 (ZG k (Z1 (ZI ⟨k+1,(os++[(k:Int)]),v4,dr,w,ob,ob,ob,(by first|exact YA|exact Xe YA om),(by first|exact XZ|exact Xe XZ om),rfl,rfl,rfl⟩ (wk [2,2,2,0,1] (fw (ZL k fl)))))))))))
   exact az (Z2 2 (iL (Z7 [(k:Int)]) 1 1 fun v5=>ZE 0 [(47,Z6 [(k:Int)])] (ip 5 (Z7 (dr++[(k:Int)])) (Z7 dr) (Z7 [(k:Int)]) w none 1 (Yw _) (Yw _) (XT _) (by simp<;>omega) (by simp [XR,Z7]) fun v6=>Z1 (az (Z2 1 (ZG k (Z1 (ZI ⟨k+1,os,u,(dr++[(k:Int)]),v6,ob,ob,ob,(by first|exact YA|exact Xe YA om),(by first|exact XZ|exact Xe XZ om),rfl,rfl,rfl⟩ (wk [2,2,2,2,0] (fw (ZL k fl)))))))))))
  exact ak (az (Z2 1 (ZG k (Z1 (ZI ⟨k+1,os,u,dr,w,ob,ob,ob,(by first|exact YA|exact Xe YA om),(by first|exact XZ|exact Xe XZ om),rfl,rfl,rfl⟩ (ZV 5 (fw (ZL k fl))))))))
 refine ax 0 (Zo 6 [2,1,1] (iL (Z7 []) 0 1 fun v7=>ZE 0 [(54,Z6 os),(55,Z6 [])] (ic [] (Ru n rt.params rt.body os [] rt.params.length (hf:=hr.body.1) (hop:=hr.op) (hor:=YA) (hal:=(by simp only [X8];omega))) ?_)))
 rintro _ _ ⟨y1,rfl,rfl,YL⟩
 have hkb:=YL
 have hkl:=hkb.len
 refine iA [nl,.i 0] fun b4=>ZA 0 b4 (YI y1) (ie (aD 9 (BE 4 9 [0,2,3,5,6] [(57,Z6 dr)] [0,0] (Z8 1 (dc 1 [] [0,0] [b4,b4] (Q1 15 dr) ?_)))))
 rintro _ _ ⟨v8,rfl,rfl⟩
 exact Z8 4 (dp 4 0 [0] [b4] (Zj ((dr.map (Zl 15))++y1.steps)) (Zj (dr.map (Zl 15))) (Zj y1.steps) v8 none 5 (X1 _) (X1 _) (V4 _) (by simp<;>omega) (by simp [Wj,Zj]) fun v9=>Zk 1 2 [7] (Z8 8 (Yy 8 3 [] [] b3 [YG ((dr.map (Zl 15))++y1.steps) v9,.i y1.result] (de (ZK (r3 [] [.agg [YG ((dr.map (Zl 15))++y1.steps) v9,.i y1.result]] [0] [(b3,b3)] ⟨(Z4.mk ((dr.map (Zl 15))++y1.steps) y1.result),rfl,rfl,((hkb.put1 (op:=15) (.inr rfl) XZ).le om)⟩ (Ze.agg (.cons (Ze.forget _ _) (.cons (lr _) .nil)))))))))
theorem Rz (n:Zx) (qz:Nat) (hn:FO n qz Wd:=by exact ob) (hqz:qz<=181:=by exact ob):Zf 148 [Yl n] [] (fun r h=>∃(n2:Zx),r=Yl n2/\h=[]/\FO n2 (4500*qz+10) WM):=by
 have hnl:=hn.fn.len
 have XD:=hn.fn.decls.ok
 have hok:=hn.fn.ok
 refine ZD 36 Tryz.func148 (ar (iA (YN n) fun b1=>iA [nl,nl] fun b2=>ie (Zo 2 [1] (Zu [] (Aq n.decls) (iL (Yx []) 0 5 fun v1=>Z2 1 (iA [nl,nl] fun b3=>?_))))))
 refine ZA 0 b3 [YM n.decls,W6 [] v1] (ie (Y1 (ab 0 (Y0 (fun fz gz m F h=>∃(k:Nat) (rs:List Y8) (u:Value),(k<=n.routines.length)/\(rs.length=k)/\(∀r∈rs,RF n.decls n.routines.length (4500*qz+10) WM r)/\F=sF [1,2,3] fz [(4,.i k)]/\h=[.obj b3 [YM n.decls,W6 rs u],Za gz 2,Za gz 3,.tail u 5]/\m=n.routines.length-k) _ _ _ ⟨0,[],v1,ob,ob,(fun r hr=>by cases hr),rfl,rfl,rfl⟩ (wk [0,1,1,0] (Yd fl)) ?_))))
 rintro m F h ⟨k,rs,u,Yf,Zi,Zr,rfl,rfl,rfl⟩
 refine Y6 3 [2] (iw (Up n.routines) (ZT ((k:Int)<(n.routines.length:Int)) (fun Z9=>?_) (fun Z9=>?_)))
 ·refine ak (aq (ab 1 (aE 19 (ZH 14 19 [0,1,2,3,4] [0,2] ?_))))
  obtain ⟨x1,Z5⟩:=Zq n.routines k om
  have hrf:=hn.rf (ZW Z5)
  have hrp:(x1).params.length<=3:=(Ui.bd (f:=⟨(x1).params,(x1).result,default⟩) hrf.sig).1
  have hrl:=hrf.lent.1
  have hrz:=hrf.body.2
  refine dx 5 (Zh none (k:Int) 5 (WB Z5)) (ZH 8 13 [6,7,8,9,10] [2,2] (dx 11 (Zh none (k:Int) 5 (WB Z5)) (Zk 6 7 [12] (Z8 13 (dc 13 [] [2,0] [b1,b3] (Rw n x1 qz (hr:=hrf)) ?_)))))
  rintro _ _ ⟨y1,rfl,rfl,ZX⟩
  have hkb:=ZX
  exact Z8 14 (Yp 14 [] [0] [b3] (Bl x1 y1 (hp:=om) (hl:=om)) (Z8 15 (dL 15 [0] [b3] (Yx [Y8.mk x1.params x1.lent x1.result y1]) 1 5 fun v2=>Yh 3 3 [] [(32,TY [Y8.mk x1.params x1.lent x1.result y1])] (Z8 16 (dp 16 4 [] [] (Yx (rs++[Y8.mk x1.params x1.lent x1.result y1])) (Yx rs) (Yx [Y8.mk x1.params x1.lent x1.result y1]) u none 5 (VQ _) (VQ _) (Jm _) (by simp<;>omega) (by simp [A1,Yx]) fun v3=>Zk 1 2 [17] (Z8 18 (Yy 18 2 [] [] b3 [YM n.decls,W6 (rs++[Y8.mk x1.params x1.lent x1.result y1]) v3] (de (az (Z2 1 (ZG k (Z1 (ZI ⟨k+1,(rs++[Y8.mk x1.params x1.lent x1.result y1]),v3,ob,ob,(Xe Zr (by first|exact hrf.with hkb.fb hkb.sz hkb.op|(rw [Z4.eta];exact hrf.with hkb.fb hkb.sz hkb.op))),rfl,rfl,rfl⟩ (wk [0,2,2,0] (ZL k fl)))))))))))))))
 exact ax 0 (Zo 1 [0] (ZA 1 b2 [YM n.decls,W6 rs u] (ie (ZK (r3 [] [.agg [YM n.decls,W6 rs u]] [0] [(b2,b2)] ⟨(Zx.mk n.decls rs),rfl,rfl,(FO.fin hn.fn om Zr).1⟩ (Ze.agg (.cons (lr _) (.cons (Ze.forget _ _) .nil))))))))
theorem Rr (n:Zx) (us:LI) (s:Z3) (mm:Nat) (hn:Xk n:=by exact ob) (hf:FS n.decls n.routines.length mm s:=by exact ob) (hvl:us.length=mm:=by exact ob) (hm:mm<=100000000:=by exact ob):Zf 245 [Yl n,Z6 us,Ym s] [] (fun r h=>∃(zs:LI),r=Z6 zs/\h=[]/\zs.length<=s.args.length/\∀z∈zs,z∈s.args):=by
 have hal:=hf.alen
 refine ZD 31 Tryz.func245 (ar (iA (YN n) fun b1=>iA (Xf s) fun b2=>Z1 (ar (iL (Z7 []) 0 1 fun v1=>?_))))
 refine Z1 (Y1 (ab 0 (Y0 (fun fz gz m F h=>∃(k:Nat) (zs:LI) (u:Value),(k<=s.args.length)/\(zs.length<=k)/\(∀z∈zs,z∈s.args)/\F=sF [1,3,5] fz [(7,ZQ zs u),(8,.i k)]/\h=[Za gz 1,Za gz 2,.tail u 1]/\m=s.args.length-k) _ _ _ ⟨0,[],v1,ob,ob,(fun z hz=>by cases hz),rfl,rfl,rfl⟩ (wk [1,1,0] (fr (Yd fl))) ?_)))
 rintro m F h ⟨k,zs,u,Yf,Zi,Zr,rfl,rfl,rfl⟩
 refine Y6 3 [0] (iw (Ye s.args) (ZT ((k:Int)<(s.args.length:Int)) (fun Z9=>?_) (fun Z9=>?_)))
 ·obtain ⟨a1,ha1⟩:=Zq s.args k om
  have har:=hf.args a1 (ZW ha1)
  refine ak (aq (ab 1 (Zo 4 [1,0] (Zu [] (DY n us s k a1 (hnum:=hf.call) (ha:=ha1)) (ie (ac (Qu n us s.op s.num a1 k) Iff.rfl (fun Zg=>?_) (fun Zg=>?_)))))))
  ·exact az (ZU 4 [0] (Zm (Zh none (k:Int) 1 (ZZ ha1)) (Z2 1 (iL (Z7 [a1]) 1 1 fun v2=>ZE 0 [(28,Z6 [a1])] (ip 3 (Z7 (zs++[a1])) (Z7 zs) (Z7 [a1]) u none 1 (Yw _) (Yw _) (XT _) (by simp<;>omega) (by simp [XR,Z7]) fun v3=>Z1 (az (Z2 1 (ZG k (Z1 (ZI ⟨k+1,(zs++[a1]),v3,ob,ob,(by first|exact Zr|exact Xe Zr (ZW ha1)),rfl,rfl,rfl⟩ (wk [2,2,0] (fr (ZL k fl)))))))))))))
  exact ak (az (Z2 1 (ZG k (Z1 (ZI ⟨k+1,zs,u,ob,ob,(by first|exact Zr|exact Xe Zr (ZW ha1)),rfl,rfl,rfl⟩ (ZV 3 (fr (ZL k fl))))))))
 exact ax 0 (ar (Zs (r2 [] [ZQ zs u] ⟨zs,rfl,rfl,⟨by omega,Zr⟩⟩ (Ze.forget _ _))))
theorem RP (n:Zx) (us:LI) (s:Z3) (mm:Nat) (bb:Nat) (hn:Xk n:=by exact ob) (hf:FS n.decls n.routines.length mm s:=by exact ob) (h11:s.op<=11:=by exact ob) (hop:TE Wd s.kids:=by exact ob) (hul:us.length=mm:=by exact ob) (hm:mm+4*s.sz<=100000:=by exact ob) (hbz:s.sz<=500:=by exact ob) (hb:s.sz<=bb:=by exact ob) (ih:∀(us2:LI) (b2:Z4) (mi2:LI) (m2:Nat),(fB n.decls n.routines.length m2 b2)->(WE Wd b2)->(us2.length=m2)->(m2+4*b2.sz<=100000)->(∀v∈mi2,0<=v/\v<(m2:Int))->(mi2.length<=3)->(b2.sz<=500)->(b2.sz<bb)->Zf 192 [Yl n,Z6 us2,ZC b2,Z6 mi2] [] (fun r h=>∃(y:Z4),r=ZC y/\h=[]/\KB n.decls n.routines.length m2 y (60*b2.sz))):Zf 246 [Yl n,Z6 us,Ym s] [] (fun r h=>∃(y:Z3),r=Ym y/\h=[]/\KT n.decls n.routines.length mm y (60*YK s.kids+23)):=by
 have XD:=hn.decls
 have hkf:=hf.few XD
 have hsa:=hf.alen
 refine ZD 72 Tryz.func246 (ar (iA (YN n) fun b1=>iA (Xf s) fun b2=>iA [.i 0,.i 0,.i 0,nl,nl] fun b3=>ie (ar (iL (Yu []) 0 2 fun v1=>Z1 (Zo 4 [3,2] (ic [] (Kb n.decls s.num) ?_))))))
 rintro _ _ ⟨v2,rfl,rfl⟩
 refine Z1 (Y1 (ab 0 (Y0 (fun fz gz m F h=>∃(k:Nat) (ks:List Z4) (u:Value),(k<=s.kids.length)/\(ks.length=k)/\(KK n.decls n.routines.length (VK n.decls s.op s.num mm) ks (60*YK (s.kids.take k)+6*k))/\F=sF [1,3,5,6] fz [(7,U9 ks u),(8,Z6 (Y2 n.decls s.num)),(9,.i k)]/\h=[Za gz 2,Za gz 3,Za gz 4,.tail u 2]/\m=s.kids.length-k) _ _ _ ⟨0,[],v1,ob,ob,(KK.nil.le (T7 _)),rfl,rfl,rfl⟩ (wk [2,2,2,1] (fr (fc (x:=ZQ (Y2 n.decls s.num) v2) (Ze.forget _ _) (Yd fl)))) ?_)))
 rintro m F h ⟨k,ks,u,Yf,Zi,Zr,rfl,rfl,rfl⟩
 refine Y6 3 [1] (iw (Vk s.kids) (ZT ((k:Int)<(s.kids.length:Int)) (fun Z9=>?_) (fun Z9=>?_)))
 ·refine ak (aq (ab 1 (ar (iL (Z7 []) 0 1 fun v3=>?_))))
  refine Z1 (X7 (Vx [2] (XC (fun fz gz F h=>∃(fds:LI),(VK n.decls s.op s.num mm k=mm+fds.length)/\(fds.length<=3)/\F=sF [1,3,5,6,7,8,9] fz [(10,Z6 fds)]/\h=[Za gz 1,Za gz 2,Za gz 3,Za gz 4]) ?_ ?_)))
  ·refine ac (s.op==8) Zz (fun Zg=>?_) (fun Zg=>?_)
   ·refine aE 8 (ZH 4 8 [0,1,2,3] [3] ?_)
    obtain ⟨x1,Z5⟩:=Zq (Y2 n.decls s.num) k (by have:=hf.k8 (by assumption);omega)
    have hcf:=VD XD x1
    exact dx 4 (Zh none (k:Int) 1 (ZZ Z5)) (Zk 2 3 [5] (Z8 6 (Yp 6 [] [] [] (Q0 n.decls x1) (Zk 0 1 [7] (de (ZJ ⟨Y4 n.decls x1,(Gi (by assumption) Z5),ob,rfl,rfl⟩ (wk [1,1,1,1] fl)))))))
   exact ak (ZJ ⟨[],(by rw [Gj (by assumption)];rfl),ob,rfl,rfl⟩ (wk [1,1,1,1] fl))
  rintro F h ⟨fds,V6,KS,rfl,rfl⟩
  refine Yg 2 (iw (Ye us) (ic [] (Ig fds us.length) ?_))
  rintro _ _ ⟨xs1,rfl,rfl,ZX⟩
  have hhf:=ZX
  refine Z1 (aD 13 (ZH 7 13 [0,1,2,4,5,6] [2,1] ?_))
  obtain ⟨x2,Zv⟩:=Zq s.kids k om
  have hkz:=VS Zv
  have hfk:=BK hf.kids Zv
  rw [Wv,V6] at hfk
  have hok:=Ba.1 hop x2 (ZW Zv)
  have hbt:=CI Zv
  have hba:=CJ Zv
  refine dx 7 (Zh none (k:Int) 2 (Vv Zv)) (Zk 4 6 [8,9] (Ky (fun fz gz F h=>∃(y1:Z4) (b4:Nat),(KB n.decls n.routines.length (mm+fds.length) y1 (60*x2.sz))/\F=sF [1,3,5,6,7,8,9,11] fz [(12,.p b4 0)]/\h=[.obj b4 (YI y1),Za gz 0,Za gz 1,Za gz 2,Za gz 3]) ?_ ?_))
  ·refine WU 3 11 ?_ ?_
   ·refine dc 3 [] [1,2] [b2,b1] (TI us fds) ?_
    rintro _ _ ⟨v4,rfl,rfl⟩
    refine Yh 3 3 [] [(44,Z6 (us++fds))] (WU 10 11 ?_ ?_)
    ·refine dc 10 [] [] [] (ih (us++fds) x2 xs1 (mm+fds.length) hfk hok (by rw [Yk,hul]) ob (fun v hv=>by have:=hhf.2 v hv;omega) ob ob ob) ?_
     rintro _ _ ⟨y1,rfl,rfl,Y9⟩
     have hkb:=Y9
     have hkl:=hkb.len
     exact Z8 11 (dA 11 [] [] [nl,.i 0] fun b4=>Z8 12 (Yy 12 0 [] [] b4 (YI y1) (de (ZJ ⟨_,b4,(by assumption),rfl,rfl⟩ (wk [0,1,1,1,1] fl)))))
    refine dA 11 [1,2] [b2,b1] [nl,.i 0] fun b5=>Z8 10 (dc 10 [] [] [] (ih (us++fds) x2 xs1 (mm+fds.length) hfk hok (by rw [Yk,hul]) ob (fun v hv=>by have:=hhf.2 v hv;omega) ob ob ob) ?_)
    rintro _ _ ⟨y2,rfl,rfl,YL⟩
    have hkb:=YL
    have hkl:=hkb.len
    exact Z8 12 (Yy 12 0 [] [] b5 (YI y2) (de (ZJ ⟨_,b5,(by assumption),rfl,rfl⟩ (wk [0,1,1,1,1] fl))))
   refine dA 11 [1,2] [b2,b1] [nl,.i 0] fun b6=>Z8 3 (dc 3 [] [2,3] [b2,b1] (TI us fds) ?_)
   rintro _ _ ⟨v5,rfl,rfl⟩
   refine Yh 2 2 [] [(44,Z6 (us++fds))] (Z8 10 (dc 10 [] [] [] (ih (us++fds) x2 xs1 (mm+fds.length) hfk hok (by rw [Yk,hul]) ob (fun v hv=>by have:=hhf.2 v hv;omega) ob ob ob) ?_))
   rintro _ _ ⟨y3,rfl,rfl,YX⟩
   have hkb:=YX
   have hkl:=hkb.len
   exact Z8 12 (Yy 12 1 [] [] b6 (YI y3) (de (ZJ ⟨_,b6,(by assumption),rfl,rfl⟩ (wk [0,1,1,1,1] fl))))
  rintro F h ⟨y1,b4,Y9,rfl,rfl⟩
  have hkb:=Y9
  have hkl:=hkb.len
  refine aE 12 (ZH 6 12 [0,1,3,4,6,7] [0,0] (Z8 2 (dc 2 [] [0,0] [b4,b4] (Q1 14 xs1) ?_)))
  rintro _ _ ⟨v6,rfl,rfl⟩
  exact Z8 5 (dp 5 0 [0] [b4] (Zj ((xs1.map (Zl 14))++y1.steps)) (Zj (xs1.map (Zl 14))) (Zj y1.steps) v6 none 5 (X1 _) (X1 _) (V4 _) (by simp<;>omega) (by simp [Wj,Zj]) fun v7=>Yh 3 4 [8] [(60,.agg [Wp ((xs1.map (Zl 14))++y1.steps),.i y1.result])] (Z8 9 (W5 9 [] [] [ZC (Z4.mk ((xs1.map (Zl 14))++y1.steps) y1.result)] (Yu [Z4.mk ((xs1.map (Zl 14))++y1.steps) y1.result]) (U0 [Z4.mk ((xs1.map (Zl 14))++y1.steps) y1.result]).symm 1 2 fun v8=>Yh 2 2 [] [(61,XG [Z4.mk ((xs1.map (Zl 14))++y1.steps) y1.result])] (Z8 10 (dp 10 6 [] [] (Yu (ks++[Z4.mk ((xs1.map (Zl 14))++y1.steps) y1.result])) (Yu ks) (Yu [Z4.mk ((xs1.map (Zl 14))++y1.steps) y1.result]) u none 2 (Uy _) (Uy _) (CS _) (by simp<;>omega) (by simp [KD,Yu]) fun v9=>Zk 0 1 [11] (de (az (Z2 1 (ZG k (Z1 (ZI ⟨k+1,(ks++[Z4.mk ((xs1.map (Zl 14))++y1.steps) y1.result]),v9,ob,ob,((Zr.snoc Zi (by rw [V6];exact hkb.put1 (op:=14) (.inl rfl) (fun v hv=>by have:=hhf.2 v hv;omega))).le om),rfl,rfl,rfl⟩ (wk [4,4,4,0] (fw (ZL k fl))))))))))))))
 refine ax 0 (aD 10 (ZH 3 10 [0,1,2,3,4,5,7] [1,1,1] (Z8 6 (dc 6 [] [1,1] [b2,b2] (Vr s.args) ?_))))
 rintro _ _ ⟨v10,rfl,rfl⟩
 exact Zk 1 2 [8] (Z8 9 (Yy 9 1 [] [] b3 [.i s.op,.i s.num,.i 0,ZQ s.args v10,U9 ks u] (de (ZK (r3 [] [.agg [.i s.op,.i s.num,.i 0,ZQ s.args v10,U9 ks u]] [0] [(b3,b3)] ⟨(Z3.mk s.op s.num 0 s.args ks),rfl,rfl,((KT.of (into:=0) hf h11 om om Zr).le (by have:=EA (xs:=s.kids) (k:=k) om;omega))⟩ (Ze.agg (.cons (lr _) (.cons (lr _) (.cons (lr _) (.cons (Ze.forget _ _) (.cons (Ze.forget _ _) .nil)))))))))))
theorem RO (n:Zx) (us:LI) (b:Z4) (mi:LI) (mm:Nat) (hn:Xk n) (hf:fB n.decls n.routines.length mm b) (hop:WE Wd b) (hul:us.length=mm) (hm:mm+4*b.sz<=100000) (hmr:∀v∈mi,0<=v/\v<(mm:Int)) (hml:mi.length<=3) (hbz:b.sz<=500) (ih:∀(us2:LI) (b2:Z4) (mi2:LI) (m2:Nat),(fB n.decls n.routines.length m2 b2)->(WE Wd b2)->(us2.length=m2)->(m2+4*b2.sz<=100000)->(∀v∈mi2,0<=v/\v<(m2:Int))->(mi2.length<=3)->(b2.sz<=500)->(b2.sz<b.sz)->Zf 192 [Yl n,Z6 us2,ZC b2,Z6 mi2] [] (fun r h=>∃(y:Z4),r=ZC y/\h=[]/\KB n.decls n.routines.length m2 y (60*b2.sz))):Zf 192 [Yl n,Z6 us,ZC b,Z6 mi] [] (fun r h=>∃(y:Z4),r=ZC y/\h=[]/\KB n.decls n.routines.length mm y (60*b.sz)):=by
 have XD:=hn.decls
 have hbe:=b.sz_eq
 have Zt:=WS b
 obtain ⟨hfs,hr1,hr2⟩:=(BJ b).1 hf
 have hos:=Am.1 ((DB b).1 hop)
 have hdn:=EL hos
 have hdl:=hdn b.steps.length (YQ _)
 rw [Va] at hdl
 refine ZD 80 Tryz.func192 (ar (iA (YN n) fun b1=>iA (YI b) fun b2=>iA [nl,.i 0] fun b3=>ie (ar (iL (Zj []) 0 5 fun v1=>Z1 (Yg 1 (ic [] (Vr us) ?_))))))
 rintro _ _ ⟨v2,rfl,rfl⟩
 refine Z1 (Yg 1 (ic [] (Vr mi) ?_))
 rintro _ _ ⟨v3,rfl,rfl⟩
 refine Z1 (Y1 (ab 0 (Y0 (fun fz gz m F h=>∃(k:Nat) (vs:LI) (w:Value) (ow:LI) (u:Value) (xs:List Z3) (v:Value) (z0:Nat),(k<=b.steps.length)/\(vs.length=mm+k)/\(CL n.decls n.routines.length mm xs k z0)/\(z0+2*ow.length<=60*Y5 (b.steps.take k)+2*mi.length)/\(∀v∈ow,0<=v/\v<((mm+k:Nat):Int))/\F=sF [4,6,8] fz [(9,YG xs v),(10,ZQ vs w),(11,ZQ ow u),(12,.i k)]/\h=[Za gz 3,Za gz 4,Za gz 5,.tail u 1,.tail v 5,.tail w 1]/\m=b.steps.length-k) _ _ _ ⟨0,us,v2,mi,v3,[],v1,0,ob,ob,CL.nil,(by simp),hmr,rfl,rfl,rfl⟩ (wk [3,3,3,0,1,0] (fw (fr (Yd fl)))) ?_)))
 rintro m F h ⟨k,vs,w,ow,u,xs,v,z0,Yf,Zi,Zr,YA,XZ,rfl,rfl,rfl⟩
 refine Y6 3 [1] (iw (W8 b.steps) (ZT ((k:Int)<(b.steps.length:Int)) (fun Z9=>?_) (fun Z9=>?_)))
 ·refine ak (aq (ab 1 (Zo 3 [1] ?_)))
  obtain ⟨x1,Z5⟩:=Zq b.steps k om
  have X6:=Bm Z5
  have hfS:=(D0 x1).1 (BL hfs Z5)
  rw [hdn k om] at hfS
  have hoS:=(C9 x1).1 (hos x1 (ZW Z5))
  have htk:=Gw Z5
  have hse:=(x1).sz_eq
  have hal4:=hfS.alen
  have hxl:=Zr.len
  have htl:=Q3 b.steps (k+1)
  refine Zm (Zh none (k:Int) 5 (XO Z5)) (Z2 1 (iA [.i 0,.i 0,.i 0,nl,nl] fun b4=>ZA 0 b4 (Xf x1) (ie (ar (TZ 3 [(33,Z6 vs)] [3,0] (Zu [] (Gt n vs x1 ob ob) (Z1 (ar (TZ 4 [(38,Z6 vs)] [3,0] (ic [] (Rr n vs x1 (mm+k) (hf:=hfS)) ?_))))))))))
  rintro _ _ ⟨zs1,rfl,rfl,ZX⟩
  have hdu:=ZX
  have hq1:=Zr.cnts (op:=14) (.inl rfl) (vs:=zs1) (fun v hv=>hfS.args v (hdu.2 v hv))
  have hl1:=hq1.len
  refine ic [] (Q1 14 zs1) ?_
  rintro _ _ ⟨v4,rfl,rfl⟩
  refine ZE 0 [(41,Wp (zs1.map (Zl 14)))] (ip 6 (Zj (xs++(zs1.map (Zl 14)))) (Zj xs) (Zj (zs1.map (Zl 14))) v none 5 (X1 _) (X1 _) (V4 _) (by simp<;>omega) (by simp [Wj,Zj]) fun v5=>Z1 (ar (TZ 4 [(45,Z6 vs)] [5,2] (ic [] (RP n vs x1 (mm+k) b.sz (hf:=hfS) (h11:=hoS.1) (hop:=hoS.2) (ih:=ih)) ?_))))
  rintro _ _ ⟨y1,rfl,rfl,Y9⟩
  have hkt:=Y9
  have hq2:=hq1.kt hkt
  have hl2:=hq2.len
  refine VF [Ym y1] (Zj [y1]) (WO [y1]).symm 1 5 fun v6=>ZE 0 [(48,Wp [y1])] (ip 1 (Zj ((xs++(zs1.map (Zl 14)))++[y1])) (Zj (xs++(zs1.map (Zl 14)))) (Zj [y1]) v5 none 5 (X1 _) (X1 _) (V4 _) (by simp<;>omega) (by simp [Wj,Zj]) fun v7=>Z1 (X7 (YR ((YF n vs x1) != 0) Xd (fun Zg=>?_) (fun Zg=>?_))))
  ·exact az (Z2 2 (iw (Ye vs) (iL (Z7 [(vs.length:Int)]) 1 1 fun v8=>ZE 0 [(55,Z6 [(vs.length:Int)])] (ip 8 (Z7 (ow++[(vs.length:Int)])) (Z7 ow) (Z7 [(vs.length:Int)]) u none 1 (Yw _) (Yw _) (XT _) (by simp<;>omega) (by simp [XR,Z7]) fun v9=>Z1 (az (Z2 2 (iL (Z7 [YF n vs x1]) 1 1 fun v10=>ZE 0 [(59,Z6 [YF n vs x1])] (ip 10 (Z7 (vs++[YF n vs x1])) (Z7 vs) (Z7 [YF n vs x1]) w none 1 (Yw _) (Yw _) (XT _) (by simp<;>omega) (by simp [XR,Z7]) fun v11=>Z1 (az (Z2 1 (ZG k (Z1 (ZI ⟨k+1,(vs++[YF n vs x1]),v11,(ow++[(vs.length:Int)]),v9,((xs++(zs1.map (Zl 14)))++[y1]),v7,_,ob,ob,hq2,(by (try simp only [Yk,YD,X8]);omega),(by first|exact Xe (fun v hv=>by have:=XZ v hv;omega) om|exact (fun v hv=>by have:=XZ v hv;omega)),rfl,rfl,rfl⟩ (wk [8,8,8,2,3,0] (fw (fr (ZL k fl)))))))))))))))))
  exact ak (az (Z2 2 (iL (Z7 [YF n vs x1]) 1 1 fun v12=>ZE 0 [(59,Z6 [YF n vs x1])] (ip 9 (Z7 (vs++[YF n vs x1])) (Z7 vs) (Z7 [YF n vs x1]) w none 1 (Yw _) (Yw _) (XT _) (by simp<;>omega) (by simp [XR,Z7]) fun v13=>Z1 (az (Z2 1 (ZG k (Z1 (ZI ⟨k+1,(vs++[YF n vs x1]),v13,ow,u,((xs++(zs1.map (Zl 14)))++[y1]),v7,_,ob,ob,hq2,(by (try simp only [Yk,YD,X8]);omega),(by first|exact Xe (fun v hv=>by have:=XZ v hv;omega) om|exact (fun v hv=>by have:=XZ v hv;omega)),rfl,rfl,rfl⟩ (wk [6,6,6,6,2,0] (fw (fr (ZL k fl)))))))))))))
 have hxl:=Zr.len
 have htl:=Q3 b.steps k
 refine ax 0 (Y6 3 [1] ?_)
 obtain ⟨x2,Zv⟩:=Zq vs b.result.toNat om
 refine Zm (Zh (some w) b.result 1 (ZZ Zv)) (YR (x2 != 0) Xd (fun ZF=>?_) (fun ZF=>?_))
 ·refine az (ZU 3 [1] (Zu [] (Kc 14 b.result) (VF [Ym (Zl 14 b.result)] (Zj [Zl 14 b.result]) (WO [Zl 14 b.result]).symm 1 5 fun v14=>ZE 0 [(71,Wp [Zl 14 b.result])] (ip 5 (Zj (xs++[Zl 14 b.result])) (Zj xs) (Zj [Zl 14 b.result]) v none 5 (X1 _) (X1 _) (V4 _) (by simp<;>omega) (by simp [Wj,Zj]) fun v15=>Z1 (aD 8 (BE 4 8 [0,1,4,5] [(74,Z6 ow)] [3] (Z8 2 (dc 2 [] [1] [b2] (Q1 15 ow) ?_))))))))
  rintro _ _ ⟨v16,rfl,rfl⟩
  exact Yh 3 3 [] [(75,Wp (ow.map (Zl 15)))] (Z8 3 (dp 3 1 [1] [b2] (Zj ((xs++[Zl 14 b.result])++(ow.map (Zl 15)))) (Zj (xs++[Zl 14 b.result])) (Zj (ow.map (Zl 15))) v15 none 5 (X1 _) (X1 _) (V4 _) (by simp<;>omega) (by simp [Wj,Zj]) fun v17=>Zk 1 2 [6] (Z8 7 (Yy 7 3 [] [] b3 [YG ((xs++[Zl 14 b.result])++(ow.map (Zl 15))) v17,.i b.result] (de (ZK (r3 [] [.agg [YG ((xs++[Zl 14 b.result])++(ow.map (Zl 15))) v17,.i b.result]] [0] [(b3,b3)] ⟨(Z4.mk ((xs++[Zl 14 b.result])++(ow.map (Zl 15))) b.result),rfl,rfl,((((Zr.cnt (op:=14) (.inl rfl) om).cnts (op:=15) (.inr rfl) (fun v hv=>by have:=XZ v hv;omega)).block om).le (by have:=Q3 b.steps k;omega))⟩ (Ze.agg (.cons (Ze.forget _ _) (.cons (lr _) .nil))))))))))
 refine ak (aD 8 (BE 4 8 [0,1,4,5] [(74,Z6 ow)] [1] (Z8 2 (dc 2 [] [1] [b2] (Q1 15 ow) ?_))))
 rintro _ _ ⟨v18,rfl,rfl⟩
 exact Yh 3 3 [] [(75,Wp (ow.map (Zl 15)))] (Z8 3 (dp 3 5 [1] [b2] (Zj (xs++(ow.map (Zl 15)))) (Zj xs) (Zj (ow.map (Zl 15))) v none 5 (X1 _) (X1 _) (V4 _) (by simp<;>omega) (by simp [Wj,Zj]) fun v19=>Zk 1 2 [6] (Z8 7 (Yy 7 2 [] [] b3 [YG (xs++(ow.map (Zl 15))) v19,.i b.result] (de (ZK (r3 [] [.agg [YG (xs++(ow.map (Zl 15))) v19,.i b.result]] [0] [(b3,b3)] ⟨(Z4.mk (xs++(ow.map (Zl 15))) b.result),rfl,rfl,(((Zr.cnts (op:=15) (.inr rfl) (fun v hv=>by have:=XZ v hv;omega)).block om).le (by have:=Q3 b.steps k;omega))⟩ (Ze.agg (.cons (Ze.forget _ _) (.cons (lr _) .nil))))))))))
theorem RM (n:Zx) (us:LI) (b:Z4) (mi:LI) (mm:Nat) (hn:Xk n:=by exact ob) (hf:fB n.decls n.routines.length mm b:=by exact ob) (hop:WE Wd b:=by exact ob) (hul:us.length=mm:=by exact ob) (hm:mm+4*b.sz<=100000:=by exact ob) (hmr:∀v∈mi,0<=v/\v<(mm:Int)) (hml:mi.length<=3:=by exact ob) (hbz:b.sz<=500:=by exact ob):Zf 192 [Yl n,Z6 us,ZC b,Z6 mi] [] (fun r h=>∃(y:Z4),r=ZC y/\h=[]/\KB n.decls n.routines.length mm y (60*b.sz)):=by
 have key:∀k:Nat,∀(us2:LI) (b2:Z4) (mi2:LI) (m2:Nat),(fB n.decls n.routines.length m2 b2)->(WE Wd b2)->(us2.length=m2)->(m2+4*b2.sz<=100000)->(∀v∈mi2,0<=v/\v<(m2:Int))->(mi2.length<=3)->(b2.sz<=500)->(b2.sz<k)->Zf 192 [Yl n,Z6 us2,ZC b2,Z6 mi2] [] (fun r h=>∃(y:Z4),r=ZC y/\h=[]/\KB n.decls n.routines.length m2 y (60*b2.sz)):=by
  intro k
  induction k with
  | zero=>intro us2 b2 mi2 m2 h1 h2 h3 h4 h5 h6 h7 h9;omega
  | succ k ih=>intro us2 b2 mi2 m2 h1 h2 h3 h4 h5 h6 h7 h9;exact RO n us2 b2 mi2 m2 hn h1 h2 h3 h4 h5 h6 h7 fun us3 b3 mi3 m3 q1 q2 q3 q4 q5 q6 q7 q9=>ih us3 b3 mi3 m3 q1 q2 q3 q4 q5 q6 q7 om
 exact key (b.sz+1) us b mi mm hf hop hul hm hmr hml hbz om
theorem S8 (rt:Y8) (hp:rt.params.length<=1000000:=by exact ob) (hl:rt.lent.length<=1000000:=by exact ob):Zf 193 [TP rt] [] (fun r h=>∃(os:LI),r=Z6 os/\h=[]/\os.length<=rt.params.length/\∀v∈os,0<=v/\v<(rt.params.length:Int)):=by
 refine ZD 31 Tryz.func193 (ar (iA (K4 rt) fun b1=>Z1 (ar (iL (Z7 []) 0 1 fun v1=>?_))))
 refine Z1 (Y1 (ab 0 (Y0 (fun fz gz m F h=>∃(k:Nat) (os:LI) (u:Value),(k<=rt.params.length)/\(os.length<=k)/\(∀v∈os,0<=v/\v<(rt.params.length:Int))/\F=sF [1] fz [(3,ZQ os u),(4,.i k)]/\h=[Za gz 1,.tail u 1]/\m=rt.params.length-k) _ _ _ ⟨0,[],v1,ob,ob,(fun v hv=>by cases hv),rfl,rfl,rfl⟩ (wk [1,0] (fr (Yd fl))) ?_)))
 rintro m F h ⟨k,os,u,Yf,Zi,Zr,rfl,rfl,rfl⟩
 refine Y6 3 [0] (iw (Ye rt.params) (ZT ((k:Int)<(rt.params.length:Int)) (fun Z9=>?_) (fun Z9=>?_)))
 ·refine ak (aq (ab 1 (Zo 3 [0] ?_)))
  obtain ⟨x1,Z5⟩:=Zq rt.params k om
  refine Zm (Zh none (k:Int) 1 (ZZ Z5)) (XM [1,3,4] [(25,.b ((x1 != 0)&&(!(decide ((k:Int)∈rt.lent)))))] (fun gz=>gz) ?_ ?_)
  ·refine Z2 3 (ib (b:=(x1 != 0)) 19 (fun Zb=>?_) (fun Zb=>?_))
   ·exact ZU 3 [0] (Zu [] (VL rt.lent (k:Int)) (Z1 (wk [0,0] (ZM (!(decide ((k:Int)∈rt.lent))) Zb fl))))
   exact Z1 (wk [0,0] (ZM false Zb fl))
  refine ac ((x1 != 0)&&(!(decide ((k:Int)∈rt.lent)))) (p:=(x1≠0)/\(¬((k:Int)∈rt.lent))) (Xv Xd (Xh dq)) (fun Zg=>?_) (fun Zg=>?_)
  ·exact az (Z2 2 (iL (Z7 [(k:Int)]) 1 1 fun v2=>ZE 0 [(28,Z6 [(k:Int)])] (ip 2 (Z7 (os++[(k:Int)])) (Z7 os) (Z7 [(k:Int)]) u none 1 (Yw _) (Yw _) (XT _) (by simp<;>omega) (by simp [XR,Z7]) fun v3=>Z1 (az (Z2 1 (ZG k (Z1 (ZI ⟨k+1,(os++[(k:Int)]),v3,ob,ob,(by first|exact Zr|exact Xe Zr om),rfl,rfl,rfl⟩ (wk [2,0] (fr (ZL k fl)))))))))))
  exact ak (az (Z2 1 (ZG k (Z1 (ZI ⟨k+1,os,u,ob,ob,(by first|exact Zr|exact Xe Zr om),rfl,rfl,rfl⟩ (wk [0,0] (fr (ZL k fl))))))))
 exact ax 0 (ar (Zs (r2 [] [ZQ os u] ⟨os,rfl,rfl,⟨by omega,Zr⟩⟩ (Ze.forget _ _))))
theorem RL (n:Zx) (qz:Nat) (hn:FO n qz Wd:=by exact ob) (hqz:qz<=181:=by exact ob):Zf 149 [Yl n] [] (fun r h=>∃(n2:Zx),r=Yl n2/\h=[]/\FO n2 (60*qz) WM):=by
 have hnl:=hn.fn.len
 have XD:=hn.fn.decls.ok
 have hok:=hn.fn.ok
 refine ZD 39 Tryz.func149 (ar (iA (YN n) fun b1=>iA [nl,nl] fun b2=>ie (Zo 2 [1] (Zu [] (Aq n.decls) (iL (Yx []) 0 5 fun v1=>Z2 1 (iA [nl,nl] fun b3=>?_))))))
 refine ZA 0 b3 [YM n.decls,W6 [] v1] (ie (Y1 (ab 0 (Y0 (fun fz gz m F h=>∃(k:Nat) (rs:List Y8) (u:Value),(k<=n.routines.length)/\(rs.length=k)/\(∀r∈rs,RF n.decls n.routines.length (60*qz) WM r)/\F=sF [1,2,3] fz [(4,.i k)]/\h=[.obj b3 [YM n.decls,W6 rs u],Za gz 2,Za gz 3,.tail u 5]/\m=n.routines.length-k) _ _ _ ⟨0,[],v1,ob,ob,(fun r hr=>by cases hr),rfl,rfl,rfl⟩ (wk [0,1,1,0] (Yd fl)) ?_))))
 rintro m F h ⟨k,rs,u,Yf,Zi,Zr,rfl,rfl,rfl⟩
 refine Y6 3 [2] (iw (Up n.routines) (ZT ((k:Int)<(n.routines.length:Int)) (fun Z9=>?_) (fun Z9=>?_)))
 ·refine ak (aq (ab 1 (Zo 3 [2] ?_)))
  obtain ⟨x1,Z5⟩:=Zq n.routines k om
  have hrf:=hn.rf (ZW Z5)
  have hrp:(x1).params.length<=3:=(Ui.bd (f:=⟨(x1).params,(x1).result,default⟩) hrf.sig).1
  have hrl:=hrf.lent.1
  have hrz:=hrf.body.2
  refine Zm (Zh none (k:Int) 5 (WB Z5)) (Z2 1 (iA [nl,nl,.i 0,nl,.i 0] fun b4=>ZA 0 b4 (K4 x1) (ie (aE 16 (ZH 7 16 [0,1,2,3,4,5,6,7,8] [1,0,3,0,0,0] (Z8 9 (dc 9 [] [0,0,3,0,1] [b4,b4,b1,b4,b3] (S8 x1) ?_)))))))
  rintro _ _ ⟨os1,rfl,rfl,ZX⟩
  have hop:=ZX
  refine Z8 10 (dc 10 [] [0,1] [b4,b3] (RM n x1.params x1.body os1 _ (hf:=hrf.body.1) (hop:=hrf.op) (hul:=rfl) (hmr:=hop.2)) ?_)
  rintro _ _ ⟨y1,rfl,rfl,Y9⟩
  have hkb0:=Y9
  have hkb:=hkb0.le (z2:=60*qz) om
  exact Z8 11 (Yp 11 [] [1] [b3] (Bl x1 y1 (hp:=om) (hl:=om)) (Z8 12 (dL 12 [1] [b3] (Yx [Y8.mk x1.params x1.lent x1.result y1]) 1 5 fun v2=>Yh 3 3 [] [(35,TY [Y8.mk x1.params x1.lent x1.result y1])] (Z8 13 (dp 13 5 [] [] (Yx (rs++[Y8.mk x1.params x1.lent x1.result y1])) (Yx rs) (Yx [Y8.mk x1.params x1.lent x1.result y1]) u none 5 (VQ _) (VQ _) (Jm _) (by simp<;>omega) (by simp [A1,Yx]) fun v3=>Zk 1 2 [14] (Z8 15 (Yy 15 3 [] [] b3 [YM n.decls,W6 (rs++[Y8.mk x1.params x1.lent x1.result y1]) v3] (de (az (Z2 1 (ZG k (Z1 (ZI ⟨k+1,(rs++[Y8.mk x1.params x1.lent x1.result y1]),v3,ob,ob,(Xe Zr (by first|exact hrf.with hkb.fb hkb.sz hkb.op|(rw [Z4.eta];exact hrf.with hkb.fb hkb.sz hkb.op))),rfl,rfl,rfl⟩ (wk [0,3,3,0] (ZL k fl)))))))))))))))
 exact ax 0 (Zo 1 [0] (ZA 1 b2 [YM n.decls,W6 rs u] (ie (ZK (r3 [] [.agg [YM n.decls,W6 rs u]] [0] [(b2,b2)] ⟨(Zx.mk n.decls rs),rfl,rfl,(FO.fin hn.fn om Zr).1⟩ (Ze.agg (.cons (lr _) (.cons (Ze.forget _ _) .nil))))))))
theorem MP (s:Z3) :Zf 194 [Ym s] [] (Yt (.b ((s.op==14)||(s.op==15)))):=by
 refine ZD 11 Tryz.func194 (ar (iA (Xf s) fun b1=>Z1 (ar (WQ 8 [] [(10,.b ((s.op==14)||(s.op==15)))] (fun gz=>gz) ?_ (fun hj1=>?_)))))
 ·exact Zs (N9)
 refine ZU 4 [0] (ib (b:=(s.op==14)) 6 (fun Zb=>?_) (fun Zb=>?_))
 ·exact Z2 4 (Xm (wk [0] (ZM true Zb fl)) hj1)
 exact ZU 4 [0] (Xm (wk [0] (ZM (s.op==15) Zb fl)) hj1)
theorem Sm (rn:List Z3) (hrn:∀s∈rn,∃a,s.args=[a]) (hl:rn.length<=100000000:=by exact ob):Zf 247 [Wp rn] [] (fun r h=>∃(vs:LI),r=Z6 vs/\h=[]/\JP vs/\vs.length<=rn.length/\∀v∈vs,∃s∈rn,s.args=[v]):=by
 refine ZD 22 Tryz.func247 (Ya (ar (iL (Z7 []) 0 1 fun v1=>?_)))
 refine Z1 (Y1 (ab 0 (Y0 (fun fz gz m F h=>∃(k:Nat) (vs:LI),(k<=rn.length)/\(vs.length<=k)/\(JP vs)/\(∀v∈vs,∃s∈rn,s.args=[v])/\F=sF [0] fz [(3,Z6 vs),(4,.i k)]/\h=[]/\m=rn.length-k) _ _ _ ⟨0,[],ob,ob,List.Pairwise.nil,(fun v hv=>by cases hv),rfl,rfl,rfl⟩ (wk [] (fc (x:=ZQ [] v1) (Ze.forget _ _) (Yd fl))) ?_)))
 rintro m F h ⟨k,vs,Yf,Zi,Zr,YA,rfl,rfl,rfl⟩
 refine X4 2 (iw (W8 rn) (ZT ((k:Int)<(rn.length:Int)) (fun Z9=>?_) (fun Z9=>?_)))
 ·refine ak (aq (ab 1 (az (Z2 3 ?_))))
  obtain ⟨x1,Z5⟩:=Zq rn k om
  have hxm:=ZW Z5
  obtain ⟨xa,hxa⟩:=hrn _ hxm
  refine Zm (Zh none (k:Int) 5 (XO Z5)) (Z2 2 ?_)
  obtain ⟨x2,Zv⟩:=Zq x1.args 0 (by rw [hxa];simp)
  have hxe:x1.args=[x2]:=by have h:=Zv;rw [hxa] at h;rw [hxa];simpa using h
  refine Zm (Zh none 0 1 (ZZ Zv)) (Z2 1 (ic [] (BP vs x2) ?_))
  rintro _ _ ⟨v2,rfl,rfl⟩
  exact Z1 (az (Z2 1 (ZG k (Z1 (ZI ⟨k+1,(WC vs x2),ob,(by have:=B3 vs x2;omega),(IH Zr),(fun v hv=>(BV.1 hv).elim (YA v) (fun e=>⟨x1,hxm,by rw [e];exact hxe⟩)),rfl,rfl,rfl⟩ (wk [] (fc (x:=ZQ (WC vs x2) v2) (Ze.forget _ _) (ZL k fl))))))))
 exact ax 0 (ar (Zs (r1 [] ⟨vs,rfl,rfl,⟨Zr,by omega,YA⟩⟩)))
theorem S0 (rn:List Z3) (v:Int) (hrn:∀s∈rn,∃a,s.args=[a]) (hl:rn.length<=100000000:=by exact ob):Zf 248 [Wp rn,.i v] [] (fun r h=>∃(z:Int),r=.i z/\h=[]/\-((WP rn v:Nat):Int)<=z/\z<=((WP rn v:Nat):Int)):=by
 refine ZD 44 Tryz.func248 (Ya (Ya (Y1 (ab 0 (Y0 (fun fz gz m F h=>∃(k:Nat) (z:Int),(k<=rn.length)/\(-((WP (rn.take k) v:Nat):Int)<=z/\z<=((WP (rn.take k) v:Nat):Int))/\F=sF [0,1] fz [(5,.i z),(6,.i k)]/\h=gz/\m=rn.length-k) _ _ _ ⟨0,0,ob,(by simp [WP]),rfl,rfl,rfl⟩ (wk [] (fr (Yd fl))) ?_)))))
 rintro m F h ⟨k,z,Yf,Zi,rfl,rfl,rfl⟩
 refine X4 2 (iw (W8 rn) (ZT ((k:Int)<(rn.length:Int)) (fun Z9=>?_) (fun Z9=>?_)))
 ·refine ak (aq (ab 1 (Yg 2 ?_)))
  obtain ⟨x1,Z5⟩:=Zq rn k om
  have hxm:=ZW Z5
  obtain ⟨xa,hxa⟩:=hrn _ hxm
  have hct:=OT Z5 v
  have hcl:=OU rn (k+1) v
  have hcm:=Hn rn v
  refine Zm (Zh none (k:Int) 5 (XO Z5)) (Z2 2 ?_)
  obtain ⟨x2,Zv⟩:=Zq x1.args 0 (by rw [hxa];simp)
  have hg0:=KJ Zv
  rw [hg0] at hct
  refine Zm (Zh none 0 1 (ZZ Zv)) (XM [0,1,5,6] [(29,.b ((x2==v)&&(x1.op==14)))] (fun gz=>gz) ?_ ?_)
  ·refine Z2 4 (ib (b:=(x2==v)) 22 (fun Zb=>?_) (fun Zb=>?_))
   ·exact Z2 2 (Zm (Zh none (k:Int) 5 (XO Z5)) (Z1 (wk [] (ZM (x1.op==14) Zb fl))))
   exact Z1 (wk [] (ZM false Zb fl))
  refine ac ((x2==v)&&(x1.op==14)) (p:=(x2=v)/\(x1.op=14)) (Xv Zz Zz) (fun Zg=>?_) (fun Zg=>?_)
  ·exact az (Z2 1 (ia ((z+1)) ((z)+(1)) (Z1 (az (Z2 1 (ZG k (Z1 (ZI ⟨k+1,(z+1),ob,(by first|(rw [hct,Zw om];omega)|(rw [hct,Zp om];omega)),rfl,rfl,rfl⟩ (wk [] (fr (ZL k fl)))))))))))
  refine Yg 2 (Zm (Zh none (k:Int) 5 (XO Z5)) (Z2 2 (Zm (Zh none 0 1 (ZZ Zv)) (YR (x2==v) Zz (fun ZF=>?_) (fun ZF=>?_)))))
  ·exact az (Z2 1 (ia ((z-1)) ((z)-(1)) (Z1 (az (Z2 1 (ZG k (Z1 (ZI ⟨k+1,(z-1),ob,(by first|(rw [hct,Zw om];omega)|(rw [hct,Zp om];omega)),rfl,rfl,rfl⟩ (wk [] (fr (ZL k fl)))))))))))
  exact ak (az (Z2 1 (ZG k (Z1 (ZI ⟨k+1,z,ob,(by first|(rw [hct,Zw om];omega)|(rw [hct,Zp om];omega)),rfl,rfl,rfl⟩ (wk [] (fr (ZL k fl))))))))
 exact ax 0 (ar (Zs (r1 [] ⟨z,rfl,rfl,(by have e:=Zi;rw [WT om] at e;exact e)⟩)))
theorem Im (rn:List Z3) (hrn:∀s∈rn,∃a,s.args=[a]) (hl:rn.length<=100000000:=by exact ob):Zf 195 [Wp rn] [] (fun r h=>∃(D:LI) (R:LI) (v:Value),r=YG (D.map (Zl 14)++R.map (Zl 15)) v/\h=[.tail v 5]/\D.length+R.length<=rn.length/\(∀v∈D,∃s∈rn,s.args=[v])/\∀v∈R,∃s∈rn,s.args=[v]):=by
 refine ZD 51 Tryz.func195 (Ya (ar (iL (Z7 []) 0 1 fun v1=>Z1 (ar (iL (Z7 []) 0 1 fun v2=>Z1 (Yg 1 (ic [] (Sm rn (hrn:=ob)) ?_)))))))
 rintro _ _ ⟨vs1,rfl,rfl,ZX⟩
 have hvo:=ZX
 have hsl:=N7 rn hvo.1
 refine Z1 (Y1 (ab 0 (Y0 (fun fz gz m F h=>∃(k:Nat) (D:LI) (u:Value) (R:LI) (w:Value),(k<=vs1.length)/\(D.length+R.length<=WJ rn (vs1.take k))/\(∀v∈D,v∈vs1)/\(∀v∈R,v∈vs1)/\F=sF [0,5] fz [(3,ZQ D u),(4,ZQ R w),(6,.i k)]/\h=[.tail u 1,.tail w 1]/\m=vs1.length-k) _ _ _ ⟨0,[],v1,[],v2,ob,(by simp [WJ]),(fun v hv=>by cases hv),(fun v hv=>by cases hv),rfl,rfl,rfl⟩ (wk [1,0] (fw (Yd fl))) ?_)))
 rintro m F h ⟨k,D,u,R,w,Yf,Zi,Zr,YA,rfl,rfl,rfl⟩
 refine X4 2 (iw (Ye vs1) (ZT ((k:Int)<(vs1.length:Int)) (fun Z9=>?_) (fun Z9=>?_)))
 ·refine ak (aq (ab 1 (Yg 3 ?_)))
  obtain ⟨x1,Z5⟩:=Zq vs1 k om
  have hst:=Z5c (rn:=rn) Z5
  have hsk:=Gz rn vs1 (k+1)
  have hxm:=ZW Z5
  refine Zm (Zh none (k:Int) 1 (ZZ Z5)) (Z2 1 (ic [] (S0 rn x1 (hrn:=ob)) ?_))
  rintro _ _ ⟨z1,rfl,rfl,Y9⟩
  have hnt:=Y9
  refine Z1 (aq (ab 2 (Y0 (fun fz gz m F h=>∃(z:Int) (D2:LI) (u2:Value) (w2:Value),((D2.length:Int)+(R.length:Int)+z<=((WJ rn (vs1.take k):Nat):Int)+((WP rn x1:Nat):Int))/\((D2.length:Int)+(R.length:Int)-z<=((WJ rn (vs1.take k):Nat):Int)+((WP rn x1:Nat):Int))/\(∀v∈D2,v∈vs1)/\F=sF [0,5,6] fz [(3,ZQ D2 u2),(4,ZQ R w2),(7,.i z)]/\h=[.tail u2 1,.tail w2 1]/\m=z.toNat) _ _ _ ⟨z1,D,u,w,om,om,Zr,rfl,rfl,rfl⟩ (wk [0,0] fl) ?_)))
  rintro m F h ⟨z,D2,u2,w2,VZ,Wi,Xs,rfl,rfl,rfl⟩
  refine X7 (ZT (z>0) (fun Zg=>?_) (fun Zg=>?_))
  ·exact ak (aq (ab 3 (az (Z2 3 (Zm (Zh none (k:Int) 1 (ZZ Z5)) (Z2 1 (iL (Z7 [x1]) 1 1 fun v3=>ZE 0 [(33,Z6 [x1])] (ip 1 (Z7 (D2++[x1])) (Z7 D2) (Z7 [x1]) u2 none 1 (Yw _) (Yw _) (XT _) (by simp<;>omega) (by simp [XR,Z7]) fun v4=>Z1 (az (Z2 1 (ia ((z-1)) ((z)-(1)) (Z1 (ZI ⟨(z-1),(D2++[x1]),v4,w2,(by simp only [Yk,YD,X8];omega),(by simp only [Yk,YD,X8];omega),(Xe Xs hxm),rfl,rfl,rfl⟩ (wk [0,1] fl))))))))))))))
  refine ax 2 (ab 4 (Y0 (fun fz gz m F h=>∃(y:Int) (R2:LI) (u3:Value) (w3:Value),((D2.length:Int)+(R2.length:Int)+y<=((WJ rn (vs1.take k):Nat):Int)+((WP rn x1:Nat):Int))/\((D2.length:Int)+(R2.length:Int)-y<=((WJ rn (vs1.take k):Nat):Int)+((WP rn x1:Nat):Int))/\(∀v∈R2,v∈vs1)/\F=sF [0,5,6] fz [(3,ZQ D2 u3),(4,ZQ R2 w3),(7,.i y)]/\h=[.tail u3 1,.tail w3 1]/\m=(-y).toNat) _ _ _ ⟨z,R,u2,w2,ob,ob,YA,rfl,rfl,rfl⟩ (wk [0,0] fl) ?_))
  rintro m F h ⟨y,R2,u3,w3,Ox,Z6r,Hm,rfl,rfl,rfl⟩
  refine X7 (ZT (y<0) (fun ZF=>?_) (fun ZF=>?_))
  ·exact ak (aq (ab 5 (az (Z2 3 (Zm (Zh none (k:Int) 1 (ZZ Z5)) (Z2 1 (iL (Z7 [x1]) 1 1 fun v5=>ZE 0 [(44,Z6 [x1])] (ip 2 (Z7 (R2++[x1])) (Z7 R2) (Z7 [x1]) w3 none 1 (Yw _) (Yw _) (XT _) (by simp<;>omega) (by simp [XR,Z7]) fun v6=>Z1 (az (Z2 1 (ia ((y+1)) ((y)+(1)) (Z1 (ZI ⟨(y+1),(R2++[x1]),u3,v6,(by simp only [Yk,YD,X8];omega),(by simp only [Yk,YD,X8];omega),(Xe Hm hxm),rfl,rfl,rfl⟩ (wk [2,0] fl))))))))))))))
  exact ax 4 (az (Z2 1 (ZG k (Z1 (ZI ⟨k+1,D2,u3,R2,w3,ob,(by rw [hst];omega),Xs,Hm,rfl,rfl,rfl⟩ (wk [0,0] (fw (ZL k fl))))))))
 have X6:=Gz rn vs1 k
 refine ax 0 (ar (ZE 1 [(46,Z6 D)] (ic [] (Q1 14 D) ?_)))
 rintro _ _ ⟨v7,rfl,rfl⟩
 refine ZE 1 [(48,Z6 R)] (ic [] (Q1 15 R) ?_)
 rintro _ _ ⟨v8,rfl,rfl⟩
 exact ZE 0 [(49,Wp (R.map (Zl 15)))] (ip 1 (Zj ((D.map (Zl 14))++(R.map (Zl 15)))) (Zj (D.map (Zl 14))) (Zj (R.map (Zl 15))) v7 none 5 (X1 _) (X1 _) (V4 _) (by simp<;>omega) (by simp [Wj,Zj]) fun v9=>Zs (r2 [0] [YG ((D.map (Zl 14))++(R.map (Zl 15))) v9] ⟨_,_,v9,rfl,rfl,⟨by have:=Gz rn vs1 k;omega,fun v hv=>hvo.2.2 v (Zr v hv),fun v hv=>hvo.2.2 v (YA v hv)⟩⟩ (Ze.slh _ (Ys Zj ob))))
theorem Rn (ds:List Zd) (nf:Nat) (b:Z4) (mm:Nat) (hf:fB ds nf mm b) (hop:WE WM b) (hz:b.sz<=100000000) (ih:∀(b2:Z4) (m2:Nat),(fB ds nf m2 b2)->(WE WM b2)->(b2.sz<=100000000)->(b2.sz<b.sz)->Zf 150 [ZC b2] [] (fun r h=>∃(y:Z4),r=ZC y/\h=[]/\KB ds nf m2 y b2.sz)):Zf 150 [ZC b] [] (fun r h=>∃(y:Z4),r=ZC y/\h=[]/\KB ds nf mm y b.sz):=by
 have hbe:=b.sz_eq
 have Zt:=WS b
 obtain ⟨hfs,hr1,hr2⟩:=(BJ b).1 hf
 have hos:=Am.1 ((DB b).1 hop)
 refine ZD 72 Tryz.func150 (ar (iA (YI b) fun b1=>iA [nl,.i 0] fun b2=>ie (ar (iL (Zj []) 0 5 fun v1=>Z1 (ar (iL (Zj []) 0 5 fun v2=>?_))))))
 refine Z1 (Y1 (ab 0 (Y0 (fun fz gz m F h=>∃(k:Nat) (xs:List Z3) (v:Value) (rn:List Z3) (u:Value) (z0:Nat),(k<=b.steps.length)/\(CL ds nf mm xs (YH (b.steps.take k)) z0)/\(z0+2*rn.length<=Y5 (b.steps.take k))/\(GX (mm+(YH (b.steps.take k))) rn)/\F=sF [1,2] fz [(3,YG xs v),(4,YG rn u),(5,.i k)]/\h=[Za gz 2,Za gz 3,.tail u 5,.tail v 5]/\m=b.steps.length-k) _ _ _ ⟨0,[],v1,[],v2,0,ob,CL.nil,(by simp [Y5]),(fun s hs=>by cases hs),rfl,rfl,rfl⟩ (wk [2,2,0,0] (fw (Yd fl))) ?_)))
 rintro m F h ⟨k,xs,v,rn,u,z0,Yf,Zi,Zr,YA,rfl,rfl,rfl⟩
 refine Y6 3 [1] (iw (W8 b.steps) (ZT ((k:Int)<(b.steps.length:Int)) (fun Z9=>?_) (fun Z9=>?_)))
 ·refine ak (aq (ab 1 (Zo 3 [1] ?_)))
  obtain ⟨x1,Z5⟩:=Zq b.steps k om
  have X6:=Bm Z5
  have hfS:=(D0 x1).1 (BL hfs Z5)
  have hoS:=(C9 x1).1 (hos x1 (ZW Z5))
  have htk:=Gw Z5
  have htl:=Q3 b.steps (k+1)
  have hse:=(x1).sz_eq
  have hdt:=HE Z5
  have hxl:=Zi.len
  have hkl2:=CH (x1).kids
  refine Zm (Zh none (k:Int) 5 (XO Z5)) (Z2 1 (iA [.i 0,.i 0,.i 0,nl,nl] fun b3=>ZA 0 b3 (Xf x1) (ie (Zo 1 [0] (Zu [] (MP x1) (ie (ac ((x1.op==14)||(x1.op==15)) (p:=(x1.op=14)∨(x1.op=15)) (Xo Zz Zz) (fun Zg=>?_) (fun Zg=>?_))))))))
  ·refine az (ZU 2 [0] (VF [Ym x1] (Zj [x1]) (WO [x1]).symm 1 5 fun v3=>ZE 0 [(27,Wp [x1])] (ip 4 (Zj (rn++[x1])) (Zj rn) (Zj [x1]) u none 5 (X1 _) (X1 _) (V4 _) (by simp<;>omega) (by simp [Wj,Zj]) fun v4=>Z1 (az (Z2 1 (ZG k (Z1 ?_)))))))
   obtain ⟨⟨pa,hpa,hpr⟩,Y9,hpc⟩:=hfS.pair (by assumption)
   rw [Zw hpc,JN] at hdt
   exact ZI ⟨k+1,xs,v,(rn++[x1]),v4,_,ob,(by rw [hdt];exact Zi),(by rw [htk];simp only [Yk,YD,X8];omega),(by rw [hdt];exact Xe YA ⟨pa,hpa,hpr⟩),rfl,rfl,rfl⟩ (wk [3,3,0,2] (fw (ZL k fl)))
  refine ar (ZE 2 [(30,Wp rn)] (ic [] (Im rn (hrn:=(fun s hs=>(YA s hs).elim fun a h=>⟨a,h.1⟩))) ?_))
  rintro _ _ ⟨D1,R1,v5,rfl,rfl,ZX⟩
  have hsr:=ZX
  have hq1:=Zi.run YA hsr.2.1 hsr.2.2
  have hl1:=Zi.len
  have htl1:=Q3 b.steps k
  refine ZE 0 [(31,Wp (D1.map (Zl 14)++R1.map (Zl 15)))] (ip 5 (Zj (xs++(D1.map (Zl 14)++R1.map (Zl 15)))) (Zj xs) (Zj (D1.map (Zl 14)++R1.map (Zl 15))) v none 5 (X1 _) (X1 _) (V4 _) (by simp<;>omega) (by simp [Wj,Zj]) fun v6=>Z1 (ar (iL (Zj []) 0 5 fun v7=>Z1 (ar (iL (Yu []) 0 2 fun v8=>?_)))))
  refine Z1 (Y1 (ab 2 (Y0 (fun fz gz m F h=>∃(j:Nat) (ks:List Z4) (w:Value) (v3:Value) (u4:Value),(j<=x1.kids.length)/\(ks.length=j)/\(KK ds nf (VK ds x1.op x1.num (mm+(YH (b.steps.take k)))) ks (YK (x1.kids.take j)))/\F=sF [1,2,5,6] fz [(3,YG (xs++(D1.map (Zl 14)++R1.map (Zl 15))) v3),(4,YG [] u4),(7,U9 ks w),(8,.i j)]/\h=[Za gz 4,Za gz 5,Za gz 6,.tail u4 5,.tail v3 5,.tail w 2]/\m=x1.kids.length-j) _ _ _ ⟨0,[],v8,v6,v7,ob,ob,(KK.nil.le (T7 _)),rfl,rfl,rfl⟩ (wk [4,4,4,1,1,0] (fw (fr (Yd fl)))) ?_)))
  rintro m F h ⟨j,ks,w,v3,u4,VZ,Wi,Xs,rfl,rfl,rfl⟩
  refine Y6 3 [0] (iw (Vk x1.kids) (ZT ((j:Int)<(x1.kids.length:Int)) (fun ZF=>?_) (fun ZF=>?_)))
  ·refine ak (aq (ab 3 (az (ZU 4 [0] ?_))))
   obtain ⟨x2,Zv⟩:=Zq x1.kids j om
   have hkz:=VS Zv
   have hfk:=BK hfS.kids Zv
   rw [Wv] at hfk
   have hok:=Ba.1 hoS.2 x2 (ZW Zv)
   have hbt:=CI Zv
   refine Zm (Zh none (j:Int) 2 (Vv Zv)) (Z2 1 (ic [] (ih x2 (VK ds x1.op x1.num (mm+(YH (b.steps.take k))) j) hfk hok ob ob) ?_))
   rintro _ _ ⟨y1,rfl,rfl,Y9⟩
   have hkb:=Y9
   exact VF [ZC y1] (Yu [y1]) (U0 [y1]).symm 1 2 fun v9=>ZE 0 [(49,XG [y1])] (ip 6 (Yu (ks++[y1])) (Yu ks) (Yu [y1]) w none 2 (Uy _) (Uy _) (CS _) (by simp<;>omega) (by simp [KD,Yu]) fun v10=>Z1 (az (Z2 1 (ZG j (Z1 (ZI ⟨j+1,(ks++[y1]),v10,v3,u4,ob,ob,((Xs.snoc Wi hkb).le om),rfl,rfl,rfl⟩ (wk [2,2,2,2,2,0] (fw (fr (ZL j fl))))))))))
  refine ax 2 (aE 15 (ZH 5 15 [0,1,2,3,4,5,6,7,8,10] [0,0,0,0] (Z8 9 (dc 9 [] [0,0,0] [b3,b3,b3] (Vr x1.args) ?_))))
  rintro _ _ ⟨v11,rfl,rfl⟩
  refine Yh 3 4 [11] [(62,.agg [.i x1.op,.i x1.num,.i x1.into,Z6 x1.args,XG ks])] (Z8 12 (W5 12 [] [] [Ym (Z3.mk x1.op x1.num x1.into x1.args ks)] (Zj [Z3.mk x1.op x1.num x1.into x1.args ks]) (WO [Z3.mk x1.op x1.num x1.into x1.args ks]).symm 1 5 fun v12=>Yh 2 2 [] [(63,Wp [Z3.mk x1.op x1.num x1.into x1.args ks])] (Z8 13 (dp 13 6 [] [] (Zj ((xs++(D1.map (Zl 14)++R1.map (Zl 15)))++[Z3.mk x1.op x1.num x1.into x1.args ks])) (Zj (xs++(D1.map (Zl 14)++R1.map (Zl 15)))) (Zj [Z3.mk x1.op x1.num x1.into x1.args ks]) v3 none 5 (X1 _) (X1 _) (V4 _) (by simp<;>omega) (by simp [Wj,Zj]) fun v13=>Zk 0 1 [14] (de (az (Z2 1 (ZG k (Z1 ?_)))))))))
  obtain ⟨hn1,hn2⟩:=hfS.not_pair (by assumption) hoS.1
  rw [Zp (by rw [hn2];simp)] at hdt
  have hbj:=EA (xs:=x1.kids) (k:=j) om
  have hkt:=KT.eq hfS hn1 om Xs
  have hq2:=hq1.kt hkt
  exact ZI ⟨k+1,((xs++(D1.map (Zl 14)++R1.map (Zl 15)))++[Z3.mk x1.op x1.num x1.into x1.args ks]),v13,[],u4,_,ob,(by rw [hdt];exact hq2),(by rw [htk];simp only [X8];omega),(fun s hs=>by cases hs),rfl,rfl,rfl⟩ (wk [4,4,4,0] (fw (ZL k fl)))
 have htl2:=Q3 b.steps k
 have hxl2:=Zi.len
 refine ax 0 (aD 8 (BE 4 8 [0,1,4,5] [(66,Wp rn)] [1] (Z8 2 (dc 2 [] [1] [b1] (Im rn (hrn:=(fun s hs=>(YA s hs).elim fun a h=>⟨a,h.1⟩))) ?_))))
 rintro _ _ ⟨D2,R2,v14,rfl,rfl,YL⟩
 have hsr:=YL
 have hq1:=Zi.run YA hsr.2.1 hsr.2.2
 have hl1:=Zi.len
 have htl1:=Q3 b.steps k
 exact Yh 3 3 [] [(67,Wp (D2.map (Zl 14)++R2.map (Zl 15)))] (Z8 3 (dp 3 4 [1] [b1] (Zj (xs++(D2.map (Zl 14)++R2.map (Zl 15)))) (Zj xs) (Zj (D2.map (Zl 14)++R2.map (Zl 15))) v none 5 (X1 _) (X1 _) (V4 _) (by simp<;>omega) (by simp [Wj,Zj]) fun v15=>Zk 1 2 [6] (Z8 7 (Yy 7 2 [] [] b2 [YG (xs++(D2.map (Zl 14)++R2.map (Zl 15))) v15,.i b.result] (de (ZK (r3 [] [.agg [YG (xs++(D2.map (Zl 14)++R2.map (Zl 15))) v15,.i b.result]] [0] [(b2,b2)] ⟨(Z4.mk (xs++(D2.map (Zl 14)++R2.map (Zl 15))) b.result),rfl,rfl,(by have e:b.steps.take k=b.steps:=WT om;rw [e] at Zr hq1;exact (hq1.block ⟨hr1,hr2⟩).le om)⟩ (Ze.agg (.cons (Ze.forget _ _) (.cons (lr _) .nil))))))))))
theorem Rm (ds:List Zd) (nf:Nat) (b:Z4) (mm:Nat) (hf:fB ds nf mm b:=by exact ob) (hop:WE WM b:=by exact ob) (hz:b.sz<=100000000:=by exact ob):Zf 150 [ZC b] [] (fun r h=>∃(y:Z4),r=ZC y/\h=[]/\KB ds nf mm y b.sz):=by
 have key:∀k:Nat,∀(b2:Z4) (m2:Nat),(fB ds nf m2 b2)->(WE WM b2)->(b2.sz<=100000000)->(b2.sz<k)->Zf 150 [ZC b2] [] (fun r h=>∃(y:Z4),r=ZC y/\h=[]/\KB ds nf m2 y b2.sz):=by
  intro k
  induction k with
  | zero=>intro b2 m2 h1 h2 h3 h9;omega
  | succ k ih=>intro b2 m2 h1 h2 h3 h9;exact Rn ds nf b2 m2 h1 h2 h3 fun b3 m3 q1 q2 q3 q9=>ih b3 m3 q1 q2 q3 om
 exact key (b.sz+1) b mm hf hop hz om
theorem Ro (n:Zx) (qz:Nat) (hn:FO n qz WM:=by exact ob) (hqz:qz<=10000000:=by exact ob):Zf 117 [Yl n] [] (fun r h=>∃(n2:Zx),r=Yl n2/\h=[]/\FO n2 qz WM):=by
 have hnl:=hn.fn.len
 have XD:=hn.fn.decls.ok
 have hok:=hn.fn.ok
 refine ZD 36 Tryz.func117 (ar (iA (YN n) fun b1=>iA [nl,nl] fun b2=>ie (Zo 2 [1] (Zu [] (Aq n.decls) (iL (Yx []) 0 5 fun v1=>Z2 1 (iA [nl,nl] fun b3=>?_))))))
 refine ZA 0 b3 [YM n.decls,W6 [] v1] (ie (Y1 (ab 0 (Y0 (fun fz gz m F h=>∃(k:Nat) (rs:List Y8) (u:Value),(k<=n.routines.length)/\(rs.length=k)/\(∀r∈rs,RF n.decls n.routines.length qz WM r)/\F=sF [1,2,3] fz [(4,.i k)]/\h=[.obj b3 [YM n.decls,W6 rs u],Za gz 2,Za gz 3,.tail u 5]/\m=n.routines.length-k) _ _ _ ⟨0,[],v1,ob,ob,(fun r hr=>by cases hr),rfl,rfl,rfl⟩ (wk [0,1,1,0] (Yd fl)) ?_))))
 rintro m F h ⟨k,rs,u,Yf,Zi,Zr,rfl,rfl,rfl⟩
 refine Y6 3 [2] (iw (Up n.routines) (ZT ((k:Int)<(n.routines.length:Int)) (fun Z9=>?_) (fun Z9=>?_)))
 ·refine ak (aq (ab 1 (aE 19 (ZH 14 19 [0,1,2,3,4] [0,2] ?_))))
  obtain ⟨x1,Z5⟩:=Zq n.routines k om
  have hrf:=hn.rf (ZW Z5)
  have hrp:(x1).params.length<=3:=(Ui.bd (f:=⟨(x1).params,(x1).result,default⟩) hrf.sig).1
  have hrl:=hrf.lent.1
  have hrz:=hrf.body.2
  refine dx 5 (Zh none (k:Int) 5 (WB Z5)) (ZH 9 13 [6,7,8,9] [2] (dx 10 (Zh none (k:Int) 5 (WB Z5)) (Zk 6 8 [11,12] (Z8 13 (dc 13 [] [2,0] [b1,b3] (Rm n.decls n.routines.length x1.body _ (hf:=hrf.body.1) (hop:=hrf.op)) ?_)))))
  rintro _ _ ⟨y1,rfl,rfl,ZX⟩
  have hkb0:=ZX
  have hkb:=hkb0.le (z2:=qz) hrz
  exact Z8 14 (Yp 14 [] [0] [b3] (Bl x1 y1 (hp:=om) (hl:=om)) (Z8 15 (dL 15 [0] [b3] (Yx [Y8.mk x1.params x1.lent x1.result y1]) 1 5 fun v2=>Yh 3 3 [] [(32,TY [Y8.mk x1.params x1.lent x1.result y1])] (Z8 16 (dp 16 4 [] [] (Yx (rs++[Y8.mk x1.params x1.lent x1.result y1])) (Yx rs) (Yx [Y8.mk x1.params x1.lent x1.result y1]) u none 5 (VQ _) (VQ _) (Jm _) (by simp<;>omega) (by simp [A1,Yx]) fun v3=>Zk 1 2 [17] (Z8 18 (Yy 18 2 [] [] b3 [YM n.decls,W6 (rs++[Y8.mk x1.params x1.lent x1.result y1]) v3] (de (az (Z2 1 (ZG k (Z1 (ZI ⟨k+1,(rs++[Y8.mk x1.params x1.lent x1.result y1]),v3,ob,ob,(Xe Zr (hrf.with hkb.fb hkb.sz hkb.op)),rfl,rfl,rfl⟩ (wk [0,2,2,0] (ZL k fl)))))))))))))))
 exact ax 0 (Zo 1 [0] (ZA 1 b2 [YM n.decls,W6 rs u] (ie (ZK (r3 [] [.agg [YM n.decls,W6 rs u]] [0] [(b2,b2)] ⟨(Zx.mk n.decls rs),rfl,rfl,(FO.fin hn.fn om Zr).1⟩ (Ze.agg (.cons (lr _) (.cons (Ze.forget _ _) .nil))))))))
theorem L8 (b:Nat) (ga:Hd) (gb:Hd) (gc:Hd) (gd:Hd) (ge:Hd) (gf:Hd) (n:Zx) (s:Z3) (L:Zy) (ln:LI) (q:Int) (i:Nat) (kb0:Z4) (m:LI) (hn:Xk n:=by exact ob) (hk:Xn n.decls L q:=by exact ob) (hf:JR n L.vars s:=by exact ob) (hop:s.op=7∨s.op=8:=by exact ob) (hkb:s.kids[i]? = some kb0:=by exact ob) (harm:(XE n.decls s.op s.num)[i]? = some m:=by exact ob) (hbt:0<=XL n (L.vars++m) kb0:=by exact ob) (hb:L.vars.length+4*s.sz<=1000000000:=by exact ob) (hq:0<=q/\q+4*s.sz<=999999990:=by exact ob) (hln:ln.length<=4294967296:=by exact ob) (ih:∀(b2:Z4) (c:Nat) (ra:Hd) (rb:Hd) (rc:Hd) (rd:Hd) (re:Hd) (rf:Hd) (M:Zy) (mm:Nat) (p:Int),(b2.sz<s.sz)->(Xn n.decls M p)->(0<=XL n M.vars b2)->(mm<=M.vars.length)->(M.vars.length+4*b2.sz<=1000000000)->(0<=p/\p+4*b2.sz<=999999990)->Zf 129 [.p c 0,Yl n,ZC b2,.i mm] [.obj c [.h ra,.h rb,.h rc,.h rd,.h re,.h rf,Z6 ln],rV ra M.vars,rV rb M.own,rV rc M.par,rV rd M.con,rV re M.fst,rV rf M.tok] (fun r h=>(∃(wa:Hd) (wb:Hd) (wc:Hd) (wd:Hd) (we:Hd) (wf:Hd) (M':Zy),r=.b true/\h=[.obj c [.h wa,.h wb,.h wc,.h wd,.h we,.h wf,Z6 ln],rV wa M'.vars,rV wb M'.own,rV wc M'.par,rV wd M'.con,rV we M'.fst,rV wf M'.tok]/\Vd n ln M mm b2=some M')∨(r=.b false/\h=[]/\Vd n ln M mm b2=none))):Zf 218 [.p b 0,Yl n,Ym s,.i i] [.obj b [.h ga,.h gb,.h gc,.h gd,.h ge,.h gf,Z6 ln],rV ga L.vars,rV gb L.own,rV gc L.par,rV gd L.con,rV ge L.fst,rV gf L.tok] (fun r h=>(∃(c:Nat) (wa:Hd) (wb:Hd) (wc:Hd) (wd:Hd) (we:Hd) (wf:Hd) (L':Zy),r=.tup [.p c 0,.b true]/\h=[.obj c [.h wa,.h wb,.h wc,.h wd,.h we,.h wf,Z6 ln],rV wa L'.vars,rV wb L'.own,rV wc L'.par,rV wd L'.con,rV we L'.fst,rV wf L'.tok,.obj b [.h ga,.h gb,.h gc,.h gd,.h ge,.h gf,Z6 ln],rV ga L.vars,rV gb L.own,rV gc L.par,rV gd L.con,rV ge L.fst,rV gf L.tok]/\Vd n ln (Ut n.decls L s.op s.num s.args i) L.vars.length kb0=some L')∨(r=.tup [.any,.b false]/\h=[.obj b [.h ga,.h gb,.h gc,.h gd,.h ge,.h gf,Z6 ln],rV ga L.vars,rV gb L.own,rV gc L.par,rV gd L.con,rV ge L.fst,rV gf L.tok]/\Vd n ln (Ut n.decls L s.op s.num s.args i) L.vars.length kb0=none)):=by
 obtain ⟨e1,e2,e3,e4,e5⟩:=hk.len
 have XD:=hn.decls
 have hkz:=U8 s
 have haz:=T9 s
 have hK:=Do hk hq.1 hf hop harm
 have hm3:=H5 XD harm
 have hkl:=(XA.1 hkb).1
 have hks:=VS hkb
 refine ZD 83 Tryz.func218 (ar (iA (YN n) fun b1=>iA (Xf s) fun b2=>Z1 (Zo 4 [2] (Zm (Au 3 ga L.vars) (Z1 (Yg 1 (ic [2,2,2,2,2,2,2] (Z0u b ga gb gc gd ge gf L ln (hlk:=hk.len)) ?_)))))))
 rintro _ _ ⟨c1,wa1,wb1,wc1,wd1,we1,wf1,rfl,rfl⟩
 refine Z1 (X7 (Vx [14] (ac (s.op==8) Zz (fun Z9=>?_) (fun Z9=>?_))))
 ·obtain ⟨x,hxa⟩:=hf.one om
  have ha:s.args[0]? = some x:=by rw [hxa];rfl
  have hx:=hf.args x (by rw [hxa];simp)
  obtain ⟨cc,hcc,hmc⟩:=Oh Z9 harm
  have hal:=(XA.1 ha).1
  have hcl:=(XA.1 hcc).1
  have hm4:=hm3
  rw [hmc] at hm4
  refine Zo 4 [15,14] (ic [] (Kb n.decls s.num) ?_)
  rintro _ _ ⟨v1,rfl,rfl⟩
  refine Z2 1 (Zm (Zh (some v1) (i:Int) 1 (ZZ hcc)) (Z1 (Zo 3 [16] (Zu [] (Q0 n.decls cc) (Z1 (aD 11 (ZH 5 11 [0,1,2,3,4,5] [1,15] (dx 6 (Zh none 0 1 (ZZ ha)) (Zk 2 4 [7,8] (dx 9 (V9 5 wd1 L.con x x.toNat (hq:=rfl)) (Z8 10 (Jk 10 5 [] [] wd1 L.con x.toNat cc (de (aD 11 (ZH 5 11 [0,1,2,3,4,5] [2,15] (dx 6 (Zh none 0 1 (ZZ ha)) (Zk 2 4 [7,8] (dx 9 (V9 6 we1 L.fst x x.toNat (hq:=rfl)) (Z8 10 (Jk 10 6 [] [] we1 L.fst x.toNat (L.vars.length:Int) (de (Ya (ab 0 (Y0 (fun fz gz m F h=>∃(k:Nat) (L3:Zy) (ka:Hd) (kb:Hd) (kc:Hd) (kd:Hd) (ke:Hd) (kf:Hd),(k<=(Y4 n.decls cc).length)/\(Uh L3)/\(L3.vars.length=L.vars.length+k)/\(A9 L3 x ((Y4 n.decls cc).drop k)=JU n.decls L x cc)/\F=sF [3,5,6,10,11,13] fz [(14,.i k)]/\h=[.obj c1 [.h ka,.h kb,.h kc,.h kd,.h ke,.h kf,Z6 ln],Za gz 8,Za gz 9,Za gz 10,Za gz 11,Za gz 12,Za gz 13,Za gz 14,Za gz 15,Za gz 16,rV ka L3.vars,rV kb L3.own,rV kc L3.par,rV kd L3.con,rV ke L3.fst,rV kf L3.tok]/\m=(Y4 n.decls cc).length-k) _ _ _ ⟨0,(Zy.mk L.vars L.own L.par (L.con.set x.toNat cc) (L.fst.set x.toNat (L.vars.length:Int)) L.tok),wa1,wb1,wc1,wd1,we1,wf1,ob,(Uh.arm hk.len),ob,(by rw [JU];rfl),rfl,rfl,rfl⟩ (wk [3,7,7,7,7,7,7,7,7,7,3,3,3,1,0,1] (Yd fl) (e:=(rc (rc (rc (rc (rc (rc (rc (rc (rc (rc (rv (xs:=L.vars) ob (rv (xs:=L.own) ob (rv (xs:=L.par) ob (rv (xs:=(L.con.set x.toNat cc)) ob (rv (xs:=(L.fst.set x.toNat (L.vars.length:Int))) ob (rv (xs:=L.tok) ob rz)))))))))))))))))) ?_))))))))))))))))))))))))
  rintro m F h ⟨k,L3,ka,kb,kc,kd,ke,kf,Yf,Zi,Zr,YA,rfl,rfl,rfl⟩
  refine X4 2 (io (.i (((Y4 n.decls cc).length:Nat):Int)) (.i (((Z7 (Y4 n.decls cc)).length:Nat):Int)) (li (by rw [Ye])) (ZT ((k:Int)<(((Y4 n.decls cc).length:Nat):Int)) (fun Zg=>?_) (fun Zg=>?_)))
  ·refine ak (aq (ab 1 (aE 10 (Zk 7 10 [0,1,2] ?_))))
   obtain ⟨x1,Z5⟩:=Zq (Y4 n.decls cc) k om
   refine dx 3 (Zh none (k:Int) 1 (ZZ Z5)) (ZH 3 6 [4,5,6] [8] (dx 7 (Zh none 0 1 (ZZ ha)) (Zk 1 2 [8] (Z8 9 (dc 9 [0,9,9,9,9,9,9] [] [] (TW c1 ka kb kc kd ke kf L3 ln x1 0 x (hlk:=Zi)) ?_)))))
   rintro _ _ ⟨wa2,wb2,wc2,wd2,we2,wf2,rfl⟩
   exact de (az (Z2 1 (ZG k (Z1 (ZI ⟨k+1,(L3.grow x1 0 x),wa2,wb2,wc2,wd2,we2,wf2,ob,(Uh.grow Zi),(by simp [Zy.grow];omega),(by rw [Yo Z5,A9] at YA;exact YA),rfl,rfl,rfl⟩ (wk [0,6,6,6,6,6,6,6,6,6,0,0,0,0,0,0] (ZL k fl)))))))
  have hE:Ut n.decls L s.op s.num s.args i=L3:=by rw [Z0b Z9 ha hcc,<-YA,Xz om];rfl
  refine ax 0 (aD 12 (ZH 6 12 [0,1,2,3,4,5] [9,8] (dx 6 (Zh none (i:Int) 2 (Vv hkb)) (Zk 3 5 [7,8] (Z8 9 (dc 9 [0,9,9,9,9,9,9] [] [] (ih kb0 c1 ka kb kc kd ke kf L3 L.vars.length q ob (by rw [<-hE];exact hK.1) (by rw [<-hE,hK.2];exact hbt) (by rw [<-hE,hK.2];simp) (by rw [<-hE,hK.2,Yk];omega) ob) ?_))))))
  rintro _ _ (⟨wa3,wb3,wc3,wd3,we3,wf3,M'1,rfl,rfl,ZX⟩|⟨rfl,rfl,Y9⟩)
  ·exact Zk 0 2 [10,11] (de (ZK (r2 [0,0,0,0,0,0,0,0,0,0,0,0,0,0] [.p c1 0,.b true] (.inl ⟨c1,wa3,wb3,wc3,wd3,we3,wf3,M'1,rfl,rfl,(by rw [hE];exact ZX)⟩) (lr _))))
  exact Zk 0 2 [10,11] (de (ZK (r2 [0,0,0,0,0,0,0] [.p c1 0,.b false] (.inr ⟨rfl,rfl,(by rw [hE];exact Y9)⟩) (Ze.tup (.cons (Ze.any _) (.cons (lr _) .nil))))))
 have hE:=Z0c (ds:=n.decls) (L:=L) (num:=s.num) (args:=s.args) (i:=i) Z9
 refine ak (aD 12 (ZH 6 12 [0,1,2,3,4,5] [15,14] (dx 6 (Zh none (i:Int) 2 (Vv hkb)) (Zk 3 5 [7,8] (Z8 9 (dc 9 [0,0,0,0,0,0,0] [] [] (ih kb0 c1 wa1 wb1 wc1 wd1 we1 wf1 L L.vars.length q ob (by rw [<-hE];exact hK.1) (by rw [<-hE,hK.2];exact hbt) (by rw [<-hE,hK.2];simp) (by rw [<-hE,hK.2,Yk];omega) ob) ?_))))))
 rintro _ _ (⟨wa4,wb4,wc4,wd4,we4,wf4,M'2,rfl,rfl,YL⟩|⟨rfl,rfl,YX⟩)
 ·exact Zk 0 2 [10,11] (de (ZK (r2 [0,0,0,0,0,0,0,0,0,0,0,0,0,0] [.p c1 0,.b true] (.inl ⟨c1,wa4,wb4,wc4,wd4,we4,wf4,M'2,rfl,rfl,(by rw [hE];exact YL)⟩) (lr _))))
 exact Zk 0 2 [10,11] (de (ZK (r2 [0,0,0,0,0,0,0] [.p c1 0,.b false] (.inr ⟨rfl,rfl,(by rw [hE];exact YX)⟩) (Ze.tup (.cons (Ze.any _) (.cons (lr _) .nil))))))
theorem Z0t (b:Nat) (ga:Hd) (gb:Hd) (gc:Hd) (gd:Hd) (ge:Hd) (gf:Hd) (n:Zx) (s:Z3) (L:Zy) (ln:LI) (q:Int) (hn:Xk n:=by exact ob) (hk:Xn n.decls L q:=by exact ob) (hf:JR n L.vars s:=by exact ob) (hop:s.op=7∨s.op=8:=by exact ob) (hb:L.vars.length+4*s.sz<=1000000000:=by exact ob) (hq:0<=q/\q+4*s.sz<=999999990:=by exact ob) (hln:ln.length<=4294967296:=by exact ob) (ih:∀(b2:Z4) (c:Nat) (ra:Hd) (rb:Hd) (rc:Hd) (rd:Hd) (re:Hd) (rf:Hd) (M:Zy) (mm:Nat) (p:Int),(b2.sz<s.sz)->(Xn n.decls M p)->(0<=XL n M.vars b2)->(mm<=M.vars.length)->(M.vars.length+4*b2.sz<=1000000000)->(0<=p/\p+4*b2.sz<=999999990)->Zf 129 [.p c 0,Yl n,ZC b2,.i mm] [.obj c [.h ra,.h rb,.h rc,.h rd,.h re,.h rf,Z6 ln],rV ra M.vars,rV rb M.own,rV rc M.par,rV rd M.con,rV re M.fst,rV rf M.tok] (fun r h=>(∃(wa:Hd) (wb:Hd) (wc:Hd) (wd:Hd) (we:Hd) (wf:Hd) (M':Zy),r=.b true/\h=[.obj c [.h wa,.h wb,.h wc,.h wd,.h we,.h wf,Z6 ln],rV wa M'.vars,rV wb M'.own,rV wc M'.par,rV wd M'.con,rV we M'.fst,rV wf M'.tok]/\Vd n ln M mm b2=some M')∨(r=.b false/\h=[]/\Vd n ln M mm b2=none))):Zf 167 [.p b 0,Yl n,Ym s] [.obj b [.h ga,.h gb,.h gc,.h gd,.h ge,.h gf,Z6 ln],rV ga L.vars,rV gb L.own,rV gc L.par,rV gd L.con,rV ge L.fst,rV gf L.tok] (fun r h=>(∃(wa:Hd) (wb:Hd) (wc:Hd) (wd:Hd) (we:Hd) (wf:Hd) (L':Zy),r=.b true/\h=[.obj b [.h wa,.h wb,.h wc,.h wd,.h we,.h wf,Z6 ln],rV wa L'.vars,rV wb L'.own,rV wc L'.par,rV wd L'.con,rV we L'.fst,rV wf L'.tok]/\JV n ln L s=some L')∨(r=.b false/\h=[]/\JV n ln L s=none)):=by
 obtain ⟨e1,e2,e3,e4,e5⟩:=hk.len
 have XD:=hn.decls
 have hkz:=U8 s
 have haz:=T9 s
 obtain ⟨hk1,hk2,hk3⟩:=hf.kids hop
 obtain ⟨kd,hkd⟩:=Zq s.kids 0 om
 obtain ⟨m0,hm0⟩:=Zq (XE n.decls s.op s.num) 0 om
 obtain ⟨x,hxa⟩:=hf.one om
 have ha:s.args[0]? = some x:=by rw [hxa];rfl
 have hx:=hf.args x (by rw [hxa];simp)
 have hgx:=KJ ha
 have hal:=(XA.1 ha).1
 refine ZD 88 Tryz.func167 (ar (iA (YN n) fun b1=>iA (Xf s) fun b2=>Z1 (X7 (XM [0,4,5] [(23,.b ((s.op==8)&&(!VX L ln x)))] (fun gz=>[Za gz 2,Za gz 3,Za gz 4,Za gz 5,Za gz 6,Za gz 7,Za gz 8,Za gz 0,Za gz 1]) ?_ ?_))))
 ·refine ZU 4 [0] (ib (b:=(s.op==8)) 15 (fun Zb=>?_) (fun Zb=>?_))
  ·exact ZU 3 [0] (Zm (Zh none 0 1 (ZZ ha)) (Z2 1 (Zu [2,2,2,2,2,2,2] (Ds b ga gb gc gd ge gf L ln x (hlk:=hk.len) (hd:=hk.down)) (Z1 (ZV 9 (ZM (!VX L ln x) Zb fl))))))
  exact Z1 (wk [2,2,2,2,2,2,2,0,0] (ZM false Zb fl))
 refine ac ((s.op==8)&&(!VX L ln x)) (p:=(s.op=8)/\(¬(VX L ln x=true))) (Xv Zz (Xh Iff.rfl)) (fun Z9=>?_) (fun Z9=>?_)
 ·exact ar (Zs (r1 [] (.inr ⟨rfl,rfl,(by rw [JV,Zw (by rw [hgx];exact Z9)])⟩)))
 have hgo:=OO (n:=n) (ln:=ln) (L:=L) (s:=s) (by rw [hgx];exact Z9) hkd
 refine ak (Zo 3 [8,7] (ic [0,0,0,0,0,0,0] (L8 b ga gb gc gd ge gf n s L ln q 0 kd m0 (hkb:=hkd) (harm:=hm0) (hbt:=(hk3 0 kd m0 hkd hm0)) (ih:=ob)) ?_))
 rintro _ _ (⟨c1,wa1,wb1,wc1,wd1,we1,wf1,L'1,rfl,rfl,YL⟩|⟨rfl,rfl,YX⟩)
 ·have hone:=YL
  obtain ⟨l1,l2⟩:=IX hn hk hq.1 hf hop hkd hm0 (hk3 0 kd m0 hkd hm0) hone
  refine Z1 (Y1 (Wz (ak (Y1 (ab 0 (Y0 (fun fz gz m F h=>∃(k:Nat),(1<=k/\k<=s.kids.length)/\(QC n ln L s.op s.num s.args L'1 (s.kids.drop k) k=QC n ln L s.op s.num s.args L'1 (s.kids.drop 1) 1)/\F=sF [0,4,5,7] fz [(9,.i k)]/\h=gz/\m=s.kids.length-k) _ _ _ ⟨1,ob,ob,rfl,rfl,rfl⟩ (ZV 16 (fc (x:=.i 1) li fl)) ?_))))))
  rintro m F h ⟨k,Yf,Zi,rfl,rfl,rfl⟩
  refine Y6 3 [14] (iw (Vk s.kids) (ZT ((k:Int)<(s.kids.length:Int)) (fun Zg=>?_) (fun Zg=>?_)))
  ·obtain ⟨ke,hke⟩:=Zq s.kids k om
   obtain ⟨mk,hmk⟩:=Zq (XE n.decls s.op s.num) k om
   have hcs:=Z0h (n:=n) (ln:=ln) (L:=L) (op:=s.op) (num:=s.num) (args:=s.args) (one:=L'1) hke
   refine ak (aq (ab 1 (Zo 4 [15,14] (ic [7,7,7,7,7,7,7] (L8 b ga gb gc gd ge gf n s L ln q k ke mk (hkb:=hke) (harm:=hmk) (hbt:=(hk3 k ke mk hke hmk)) (ih:=ob)) ?_))))
   rintro _ _ (⟨c2,wa2,wb2,wc2,wd2,we2,wf2,L'2,rfl,rfl,X9⟩|⟨rfl,rfl,XV⟩)
   ·have htwo:=X9
    obtain ⟨l3,l4⟩:=IX hn hk hq.1 hf hop hke hmk (hk3 k ke mk hke hmk) htwo
    refine Z1 (aD 26 (ZH 15 26 [0,1,2,3,4,5,6,7,8,9,10] [14,0] (Z8 11 (QV 11 [16,2] [] [] [rV wb1 L'1.own,rV wb2 L'2.own] (MR L'1.own L'2.own) CM (gL (v:=wb1) 0 (gL (v:=wb2) 1 gN)) (TX (TX QE)) ?_))))
    rintro _ _ ⟨rfl,rfl⟩
    refine AN [0,4,5,7,9] [(73,.b ((!(decide (L'1.own=L'2.own)))||(!(decide (L'1.tok=L'2.tok)))))] (fun gz=>gz) ?_ ?_
    ·refine Zk 11 14 [12,13,14] (db (b:=(!(decide (L'1.own=L'2.own)))) 62 (fun ZP=>?_) (fun ZP=>?_))
     ·exact Zk 0 11 [15,16,17,18,19,20,21,22,23,24,25] (de (ZV 23 (ZM true ZP fl)))
     refine ZH 3 11 [15,16,17,18,19,20,21,22] [15,2] (Z8 23 (QV 23 [20,7] [] [] [rV wf1 L'1.tok,rV wf2 L'2.tok] (MR L'1.tok L'2.tok) CM (gL (v:=wf1) 0 (gL (v:=wf2) 1 gN)) (TX (TX QE)) ?_))
     rintro _ _ ⟨rfl,rfl⟩
     exact Zk 0 2 [24,25] (de (wk [2,2,2,2,2,2,2,1,1,1,1,1,1,1,1,1,1,1,1,1,0,0,0] (ZM (!(decide (L'1.tok=L'2.tok))) ZP fl)))
    refine ac ((!(decide (L'1.own=L'2.own)))||(!(decide (L'1.tok=L'2.tok)))) (p:=(¬(L'1.own=L'2.own))∨(¬(L'1.tok=L'2.tok))) (Xo (Xh dq) (Xh dq)) (fun ZF=>?_) (fun ZF=>?_)
    ·exact ar (Zs (r1 [] (.inr ⟨rfl,rfl,(by rw [hgo,hone];exact Lh (by rw [<-Zi,hcs,htwo];exact Z3b ZF))⟩)))
    exact ak (az (Z2 1 (ZG k (Z1 (ZI ⟨k+1,ob,(by rw [hcs,htwo,Z3c ZF] at Zi;exact Zi),rfl,rfl,rfl⟩ (wk [15,15,0,14,14,14,14,7,7,7,7,7,7,7,7,7] (ZL k fl)))))))
   have htwo:=XV
   exact Z1 (aD 26 (Zk 0 26 [0,1,2,3,4,5,6,7,8,9,10,11,12,13,14,15,16,17,18,19,20,21,22,23,24,25] (de (Vj (ar (Zs (r1 [] (.inr ⟨rfl,rfl,(by rw [hgo,hone];exact Lh (by rw [<-Zi,hcs,htwo];rfl))⟩))))))))
  have hE:QC n ln L s.op s.num s.args L'1 (s.kids.drop 1) 1=true:=by rw [<-Zi,Xz om,QC]
  exact ax 0 (Zo 7 [0] (ZA 7 b [.h ga,.h wb1,.h gc,.h gd,.h ge,.h gf,Z6 ln] (ie (Zo 7 [1] (ZA 0 b [.h ga,.h wb1,.h gc,.h gd,.h ge,.h wf1,Z6 ln] (ie (ar (Zs (r1 [0,7,2,7,7,7,5] (.inl ⟨ga,wb1,gc,gd,ge,wf1,(Zy.mk L.vars L'1.own L.par L.con L.fst L'1.tok),rfl,rfl,(by rw [hgo,hone];exact Z16 hE)⟩) (eq:=(rc (rv (xs:=L.vars) ob (rv (xs:=L'1.own) ob (rv (xs:=L.par) ob (rv (xs:=L.con) ob (rv (xs:=L.fst) ob (rv (xs:=L'1.tok) ob rz)))))))))))))))))
 have hone:=YX
 exact Z1 (Y1 (Vj (ar (Zs (r1 [] (.inr ⟨rfl,rfl,(by rw [hgo,hone];rfl)⟩))))))
theorem L9 (b:Nat) (ga:Hd) (gb:Hd) (gc:Hd) (gd:Hd) (ge:Hd) (gf:Hd) (n:Zx) (s:Z3) (L:Zy) (ln:LI) (q:Int) (hn:Xk n:=by exact ob) (hk:Xn n.decls L q:=by exact ob) (ht:0<=YF n L.vars s:=by exact ob) (hb:L.vars.length+4*s.sz<=1000000000:=by exact ob) (hq:0<=q/\q+4*s.sz<=999999990:=by exact ob) (hln:ln.length<=4294967296:=by exact ob) (ih:∀(b2:Z4) (c:Nat) (ra:Hd) (rb:Hd) (rc:Hd) (rd:Hd) (re:Hd) (rf:Hd) (M:Zy) (mm:Nat) (p:Int),(b2.sz<s.sz)->(Xn n.decls M p)->(0<=XL n M.vars b2)->(mm<=M.vars.length)->(M.vars.length+4*b2.sz<=1000000000)->(0<=p/\p+4*b2.sz<=999999990)->Zf 129 [.p c 0,Yl n,ZC b2,.i mm] [.obj c [.h ra,.h rb,.h rc,.h rd,.h re,.h rf,Z6 ln],rV ra M.vars,rV rb M.own,rV rc M.par,rV rd M.con,rV re M.fst,rV rf M.tok] (fun r h=>(∃(wa:Hd) (wb:Hd) (wc:Hd) (wd:Hd) (we:Hd) (wf:Hd) (M':Zy),r=.b true/\h=[.obj c [.h wa,.h wb,.h wc,.h wd,.h we,.h wf,Z6 ln],rV wa M'.vars,rV wb M'.own,rV wc M'.par,rV wd M'.con,rV we M'.fst,rV wf M'.tok]/\Vd n ln M mm b2=some M')∨(r=.b false/\h=[]/\Vd n ln M mm b2=none))):Zf 126 [.p b 0,Yl n,Ym s] [.obj b [.h ga,.h gb,.h gc,.h gd,.h ge,.h gf,Z6 ln],rV ga L.vars,rV gb L.own,rV gc L.par,rV gd L.con,rV ge L.fst,rV gf L.tok] (fun r h=>(∃(wa:Hd) (wb:Hd) (wc:Hd) (wd:Hd) (we:Hd) (wf:Hd) (L':Zy),r=.b true/\h=[.obj b [.h wa,.h wb,.h wc,.h wd,.h we,.h wf,Z6 ln],rV wa L'.vars,rV wb L'.own,rV wc L'.par,rV wd L'.con,rV we L'.fst,rV wf L'.tok]/\To n ln L s=some L')∨(r=.b false/\h=[]/\To n ln L s=none)):=by
 obtain ⟨e1,e2,e3,e4,e5⟩:=hk.len
 have XD:=hn.decls
 have hkz:=U8 s
 have haz:=T9 s
 have hf:=N3 ht
 refine ZD 89 Tryz.func126 (ar (iA (YN n) fun b1=>iA (Xf s) fun b2=>Z1 (aD 8 (ZH 2 8 [0,1,2,3,4,5] [1,2,0] (Z8 6 (QV 6 [3] [] [] [rV ga L.vars] (Gt n L.vars s ob ob) CM (gS (gL (v:=ga) 0 (gS gN))) (TX QE) ?_))))))
 rintro _ _ ⟨rfl,rfl⟩
 refine Zk 0 1 [7] (de (Ya (X7 (Vx [1] (ab 0 (ar (YR (s.op==14) Zz (fun Z9=>?_) (fun Z9=>?_))))))))
 ·obtain ⟨x,hxa⟩:=hf.one om
  have ha:s.args[0]? = some x:=by rw [hxa];rfl
  have hx:=hf.args x (by rw [hxa];simp)
  have hgx:=KJ ha
  have hal:=(XA.1 ha).1
  obtain ⟨xo,hxo⟩:=Zq L.own x.toNat om
  have hgo:=UN hxo
  have hob:=hk.bd xo (ZW hxo)
  have hon:=hk.nn xo (ZW hxo)
  refine Zo 3 [1] (Zm (Zh none 0 1 (ZZ ha)) (Z2 1 (Zu [3,0,2,2,2,2,2] (Ds b ga gb gc gd ge gf L ln x (hlk:=hk.len) (hd:=hk.down)) (Z1 (aE 21 (ZH 15 21 [0,1,2,3,4,5] [0,7] (dx 6 (Zh none 0 1 (ZZ ha)) (ZH 7 14 [7,8,9,10,11,12,13] [0,7] (dx 14 (Zh none 0 1 (ZZ ha)) (Zk 5 6 [15] (dx 16 (V9 2 gb L.own x x.toNat (hq:=rfl)) (Vu 17 (T2 2 gb L.own x.toNat xo hxo) (da 18 ((xo+1)) ((xo)+(1)) (dx 19 (V9 2 gb L.own x x.toNat (hq:=rfl)) (Z8 20 (Jk 20 2 [] [] gb L.own x.toNat (xo+1) (de (X7 (YR (!VX L ln x) (p:=¬(VX L ln x=true)) (Xh Iff.rfl) (fun Zg=>?_) (fun Zg=>?_))))))))))))))))))))
  ·have hP:=(LM (n:=n) (ln:=ln) (L:=L) Z9 hgx).trans (Pw Zg)
   exact ar (Zs (r1 [] (.inr ⟨rfl,rfl,(by rw [Uc,hP];first|rfl|exact U4 (by assumption)|exact U5 (by assumption) (by assumption)|exact U6 (by assumption))⟩)))
  have hP:=(LM (n:=n) (ln:=ln) (L:=L) Z9 hgx).trans (Px Zg hgo)
  obtain ⟨kx,hxv⟩:=Cd hn hk hq.1 hf hP
  refine ak (Y6 2 [7] (Zu [] (Qp s.op) (XM [0,5,7] [(80,.b (XF s.op&&((YF n L.vars s) != 0)))] (fun gz=>gz) ?_ ?_)))
  ·refine Z2 1 (ib (b:=XF s.op) 77 (fun Zb=>?_) (fun Zb=>?_))
   ·exact Z1 (ZV 9 (ZM ((YF n L.vars s) != 0) Zb fl))
   exact Z1 (ZV 9 (ZM false Zb fl))
  refine ac (XF s.op&&((YF n L.vars s) != 0)) (p:=(XF s.op=true)/\((YF n L.vars s)≠0)) (Xv Iff.rfl Xd) (fun ZF=>?_) (fun ZF=>?_)
  ·refine az (Z2 2 (ic [1,1,0,0,0,0,0] (TW b ga gb gc gd ge gf (Zy.mk L.vars (L.own.set x.toNat (xo+1)) L.par L.con L.fst L.tok) ln (YF n L.vars s) 1 (-1) (hlb:=(by rw [hxv];omega)) (hlk:=kx.len)) ?_))
   rintro _ _ ⟨wa1,wb1,wc1,wd1,we1,wf1,rfl⟩
   exact ie (ar (Zs (r1 [0,0,0,0,0,0,0] (.inl ⟨wa1,wb1,wc1,wd1,we1,wf1,((Zy.mk L.vars (L.own.set x.toNat (xo+1)) L.par L.con L.fst L.tok).grow (YF n L.vars s) 1 (-1)),rfl,rfl,(by rw [Uc,hP];first|rfl|exact U4 (by assumption)|exact U5 (by assumption) (by assumption)|exact U6 (by assumption))⟩))))
  refine Zo 2 [7] (Zu [] (Qp s.op) (ie (ac (XF s.op) Iff.rfl (fun Yq=>?_) (fun Yq=>?_))))
  ·refine az (Z2 1 (ic [1,1,0,0,0,0,0] (TW b ga gb gc gd ge gf (Zy.mk L.vars (L.own.set x.toNat (xo+1)) L.par L.con L.fst L.tok) ln 0 0 (-1) (hlb:=(by rw [hxv];omega)) (hlk:=kx.len)) ?_))
   rintro _ _ ⟨wa2,wb2,wc2,wd2,we2,wf2,rfl⟩
   exact ie (ar (Zs (r1 [0,0,0,0,0,0,0] (.inl ⟨wa2,wb2,wc2,wd2,we2,wf2,((Zy.mk L.vars (L.own.set x.toNat (xo+1)) L.par L.con L.fst L.tok).grow 0 0 (-1)),rfl,rfl,(by rw [Uc,hP];first|rfl|exact U4 (by assumption)|exact U5 (by assumption) (by assumption)|exact U6 (by assumption))⟩))))
  exact ak (ar (Zs (r1 [1,1,0,0,0,0,0] (.inl ⟨ga,gb,gc,gd,ge,gf,(Zy.mk L.vars (L.own.set x.toNat (xo+1)) L.par L.con L.fst L.tok),rfl,rfl,(by rw [Uc,hP];first|rfl|exact U4 (by assumption)|exact U5 (by assumption) (by assumption)|exact U6 (by assumption))⟩) (eq:=(rc (rv (xs:=L.vars) ob (rv (xs:=(L.own.set x.toNat (xo+1))) ob (rv (xs:=L.par) ob (rv (xs:=L.con) ob (rv (xs:=L.fst) ob (rv (xs:=L.tok) ob rz)))))))))))
 refine ar (YR (s.op==15) Zz (fun XH=>?_) (fun XH=>?_))
 ·obtain ⟨x,hxa⟩:=hf.one om
  have ha:s.args[0]? = some x:=by rw [hxa];rfl
  have hx:=hf.args x (by rw [hxa];simp)
  have hgx:=KJ ha
  have hal:=(XA.1 ha).1
  refine az (ZU 3 [1] (Zm (Zh none 0 1 (ZZ ha)) (Z2 1 (ic [3,0,2,2,2,2,2] (Dt b ga gb gc gd ge gf L ln x (hlk:=hk.len) (hq:=(fun y hy=>⟨hk.nn y hy,by have:=hk.bd y hy;omega⟩))) ?_))))
  rintro _ _ (⟨wa3,wb3,wc3,wd3,we3,wf3,L'1,rfl,rfl,YL⟩|⟨rfl,rfl,YX⟩)
  ·have hP:=(LN (n:=n) (ln:=ln) (L:=L) XH hgx).trans (YL)
   obtain ⟨kx,hxv⟩:=Cd hn hk hq.1 hf hP
   refine Z1 (Y1 (Wz (ak (Y6 2 [7] (Zu [] (Qp s.op) (XM [0,5,7] [(80,.b (XF s.op&&((YF n L.vars s) != 0)))] (fun gz=>gz) ?_ ?_))))))
   ·refine Z2 1 (ib (b:=XF s.op) 77 (fun ZP=>?_) (fun ZP=>?_))
    ·exact Z1 (ZV 9 (ZM ((YF n L.vars s) != 0) ZP fl))
    exact Z1 (ZV 9 (ZM false ZP fl))
   refine ac (XF s.op&&((YF n L.vars s) != 0)) (p:=(XF s.op=true)/\((YF n L.vars s)≠0)) (Xv Iff.rfl Xd) (fun XI=>?_) (fun XI=>?_)
   ·refine az (Z2 2 (ic [0,0,0,0,0,0,0] (TW b wa3 wb3 wc3 wd3 we3 wf3 L'1 ln (YF n L.vars s) 1 (-1) (hlb:=(by rw [hxv];omega)) (hlk:=kx.len)) ?_))
    rintro _ _ ⟨wa4,wb4,wc4,wd4,we4,wf4,rfl⟩
    exact ie (ar (Zs (r1 [0,0,0,0,0,0,0] (.inl ⟨wa4,wb4,wc4,wd4,we4,wf4,(L'1.grow (YF n L.vars s) 1 (-1)),rfl,rfl,(by rw [Uc,hP];first|rfl|exact U4 (by assumption)|exact U5 (by assumption) (by assumption)|exact U6 (by assumption))⟩))))
   refine Zo 2 [7] (Zu [] (Qp s.op) (ie (ac (XF s.op) Iff.rfl (fun TV=>?_) (fun TV=>?_))))
   ·refine az (Z2 1 (ic [0,0,0,0,0,0,0] (TW b wa3 wb3 wc3 wd3 we3 wf3 L'1 ln 0 0 (-1) (hlb:=(by rw [hxv];omega)) (hlk:=kx.len)) ?_))
    rintro _ _ ⟨wa5,wb5,wc5,wd5,we5,wf5,rfl⟩
    exact ie (ar (Zs (r1 [0,0,0,0,0,0,0] (.inl ⟨wa5,wb5,wc5,wd5,we5,wf5,(L'1.grow 0 0 (-1)),rfl,rfl,(by rw [Uc,hP];first|rfl|exact U4 (by assumption)|exact U5 (by assumption) (by assumption)|exact U6 (by assumption))⟩))))
   exact ak (ar (Zs (r1 [0,0,0,0,0,0,0] (.inl ⟨wa3,wb3,wc3,wd3,we3,wf3,L'1,rfl,rfl,(by rw [Uc,hP];first|rfl|exact U4 (by assumption)|exact U5 (by assumption) (by assumption)|exact U6 (by assumption))⟩))))
  have hP:=(LN (n:=n) (ln:=ln) (L:=L) XH hgx).trans (YX)
  exact Z1 (Y1 (Vj (ar (Zs (r1 [] (.inr ⟨rfl,rfl,(by rw [Uc,hP];first|rfl|exact U4 (by assumption)|exact U5 (by assumption) (by assumption)|exact U6 (by assumption))⟩))))))
 refine Y1 (XC (fun fz gz F h=>F=sF [0,4,5,7,17] fz [(58,.b ((s.op==16)||(s.op==17)))]/\h=gz) ?_ ?_)
 ·refine ac (s.op==16) Zz (fun Td=>?_) (fun Td=>?_)
  ·exact ak (ZJ ⟨rfl,rfl⟩ (ZV 9 (fc (x:=.b (s.op==16)) (lb (by first|rfl|(rw [Zw Td])|(rw [Zp Td])|(simp [Td];done)|(rw [Xc];simp [Td];done)|omega)) fl)))
  exact UM (ZJ ⟨rfl,rfl⟩ (ZV 9 (fc (x:=.b (s.op==17)) (lb (by first|rfl|(rw [Zw Td])|(rw [Zp Td])|(simp [Td];done)|(rw [Xc];simp [Td];done)|omega)) fl)))
 rintro F h ⟨rfl,rfl⟩
 refine ac ((s.op==16)||(s.op==17)) (p:=(s.op=16)∨(s.op=17)) (Xo Zz Zz) (fun UB=>?_) (fun UB=>?_)
 ·obtain ⟨x,hxa⟩:=hf.one om
  have ha:s.args[0]? = some x:=by rw [hxa];rfl
  have hx:=hf.args x (by rw [hxa];simp)
  have hgx:=KJ ha
  have hal:=(XA.1 ha).1
  refine az (ZU 3 [2,1] (ic [3,0,2,2,2,2,2] (Z0w b ga gb gc gd ge gf n s L ln q x) ?_))
  rintro _ _ (⟨wa6,wb6,wc6,wd6,we6,wf6,L'2,rfl,rfl,Wu⟩|⟨rfl,rfl,V5⟩)
  ·have hP:=(LO (n:=n) (ln:=ln) (L:=L) UB hgx).trans (Wu)
   obtain ⟨kx,hxv⟩:=Cd hn hk hq.1 hf hP
   refine Z1 (Y1 (Wz (ak (Y6 2 [7] (Zu [] (Qp s.op) (XM [0,5,7] [(80,.b (XF s.op&&((YF n L.vars s) != 0)))] (fun gz=>gz) ?_ ?_))))))
   ·refine Z2 1 (ib (b:=XF s.op) 77 (fun YW=>?_) (fun YW=>?_))
    ·exact Z1 (ZV 9 (ZM ((YF n L.vars s) != 0) YW fl))
    exact Z1 (ZV 9 (ZM false YW fl))
   refine ac (XF s.op&&((YF n L.vars s) != 0)) (p:=(XF s.op=true)/\((YF n L.vars s)≠0)) (Xv Iff.rfl Xd) (fun BR=>?_) (fun BR=>?_)
   ·refine az (Z2 2 (ic [0,0,0,0,0,0,0] (TW b wa6 wb6 wc6 wd6 we6 wf6 L'2 ln (YF n L.vars s) 1 (-1) (hlb:=(by rw [hxv];omega)) (hlk:=kx.len)) ?_))
    rintro _ _ ⟨wa7,wb7,wc7,wd7,we7,wf7,rfl⟩
    exact ie (ar (Zs (r1 [0,0,0,0,0,0,0] (.inl ⟨wa7,wb7,wc7,wd7,we7,wf7,(L'2.grow (YF n L.vars s) 1 (-1)),rfl,rfl,(by rw [Uc,hP];first|rfl|exact U4 (by assumption)|exact U5 (by assumption) (by assumption)|exact U6 (by assumption))⟩))))
   refine Zo 2 [7] (Zu [] (Qp s.op) (ie (ac (XF s.op) Iff.rfl (fun BS=>?_) (fun BS=>?_))))
   ·refine az (Z2 1 (ic [0,0,0,0,0,0,0] (TW b wa6 wb6 wc6 wd6 we6 wf6 L'2 ln 0 0 (-1) (hlb:=(by rw [hxv];omega)) (hlk:=kx.len)) ?_))
    rintro _ _ ⟨wa8,wb8,wc8,wd8,we8,wf8,rfl⟩
    exact ie (ar (Zs (r1 [0,0,0,0,0,0,0] (.inl ⟨wa8,wb8,wc8,wd8,we8,wf8,(L'2.grow 0 0 (-1)),rfl,rfl,(by rw [Uc,hP];first|rfl|exact U4 (by assumption)|exact U5 (by assumption) (by assumption)|exact U6 (by assumption))⟩))))
   exact ak (ar (Zs (r1 [0,0,0,0,0,0,0] (.inl ⟨wa6,wb6,wc6,wd6,we6,wf6,L'2,rfl,rfl,(by rw [Uc,hP];first|rfl|exact U4 (by assumption)|exact U5 (by assumption) (by assumption)|exact U6 (by assumption))⟩))))
  have hP:=(LO (n:=n) (ln:=ln) (L:=L) UB hgx).trans (V5)
  exact Z1 (Y1 (Vj (ar (Zs (r1 [] (.inr ⟨rfl,rfl,(by rw [Uc,hP];first|rfl|exact U4 (by assumption)|exact U5 (by assumption) (by assumption)|exact U6 (by assumption))⟩))))))
 refine Y1 (XC (fun fz gz F h=>F=sF [0,4,5,7] fz [(65,.b ((s.op==7)||(s.op==8)))]/\h=gz) ?_ ?_)
 ·refine ac (s.op==7) Zz (fun Qy=>?_) (fun Qy=>?_)
  ·exact ak (ZJ ⟨rfl,rfl⟩ (ZV 9 (fc (x:=.b (s.op==7)) (lb (by first|rfl|(rw [Zw Qy])|(rw [Zp Qy])|(simp [Qy];done)|(rw [Xc];simp [Qy];done)|omega)) fl)))
  exact UM (ZJ ⟨rfl,rfl⟩ (ZV 9 (fc (x:=.b (s.op==8)) (lb (by first|rfl|(rw [Zw Qy])|(rw [Zp Qy])|(simp [Qy];done)|(rw [Xc];simp [Qy];done)|omega)) fl)))
 rintro F h ⟨rfl,rfl⟩
 refine ac ((s.op==7)||(s.op==8)) (p:=(s.op=7)∨(s.op=8)) (Xo Zz Zz) (fun Ab=>?_) (fun Ab=>?_)
 ·refine az (ZU 3 [2,1] (ic [3,0,2,2,2,2,2] (Z0t b ga gb gc gd ge gf n s L ln q (ih:=ob)) ?_))
  rintro _ _ (⟨wa9,wb9,wc9,wd9,we9,wf9,L'3,rfl,rfl,UT⟩|⟨rfl,rfl,UU⟩)
  ·have hP:=(LP (n:=n) (ln:=ln) (L:=L) Ab).trans (UT)
   obtain ⟨kx,hxv⟩:=Cd hn hk hq.1 hf hP
   refine Z1 (Y1 (Wz (ak (Y6 2 [7] (Zu [] (Qp s.op) (XM [0,5,7] [(80,.b (XF s.op&&((YF n L.vars s) != 0)))] (fun gz=>gz) ?_ ?_))))))
   ·refine Z2 1 (ib (b:=XF s.op) 77 (fun We=>?_) (fun We=>?_))
    ·exact Z1 (ZV 9 (ZM ((YF n L.vars s) != 0) We fl))
    exact Z1 (ZV 9 (ZM false We fl))
   refine ac (XF s.op&&((YF n L.vars s) != 0)) (p:=(XF s.op=true)/\((YF n L.vars s)≠0)) (Xv Iff.rfl Xd) (fun Fp=>?_) (fun Fp=>?_)
   ·refine az (Z2 2 (ic [0,0,0,0,0,0,0] (TW b wa9 wb9 wc9 wd9 we9 wf9 L'3 ln (YF n L.vars s) 1 (-1) (hlb:=(by rw [hxv];omega)) (hlk:=kx.len)) ?_))
    rintro _ _ ⟨wa10,wb10,wc10,wd10,we10,wf10,rfl⟩
    exact ie (ar (Zs (r1 [0,0,0,0,0,0,0] (.inl ⟨wa10,wb10,wc10,wd10,we10,wf10,(L'3.grow (YF n L.vars s) 1 (-1)),rfl,rfl,(by rw [Uc,hP];first|rfl|exact U4 (by assumption)|exact U5 (by assumption) (by assumption)|exact U6 (by assumption))⟩))))
   refine Zo 2 [7] (Zu [] (Qp s.op) (ie (ac (XF s.op) Iff.rfl (fun Fq=>?_) (fun Fq=>?_))))
   ·refine az (Z2 1 (ic [0,0,0,0,0,0,0] (TW b wa9 wb9 wc9 wd9 we9 wf9 L'3 ln 0 0 (-1) (hlb:=(by rw [hxv];omega)) (hlk:=kx.len)) ?_))
    rintro _ _ ⟨wa11,wb11,wc11,wd11,we11,wf11,rfl⟩
    exact ie (ar (Zs (r1 [0,0,0,0,0,0,0] (.inl ⟨wa11,wb11,wc11,wd11,we11,wf11,(L'3.grow 0 0 (-1)),rfl,rfl,(by rw [Uc,hP];first|rfl|exact U4 (by assumption)|exact U5 (by assumption) (by assumption)|exact U6 (by assumption))⟩))))
   exact ak (ar (Zs (r1 [0,0,0,0,0,0,0] (.inl ⟨wa9,wb9,wc9,wd9,we9,wf9,L'3,rfl,rfl,(by rw [Uc,hP];first|rfl|exact U4 (by assumption)|exact U5 (by assumption) (by assumption)|exact U6 (by assumption))⟩))))
  have hP:=(LP (n:=n) (ln:=ln) (L:=L) Ab).trans (UU)
  exact Z1 (Y1 (Vj (ar (Zs (r1 [] (.inr ⟨rfl,rfl,(by rw [Uc,hP];first|rfl|exact U4 (by assumption)|exact U5 (by assumption) (by assumption)|exact U6 (by assumption))⟩))))))
 refine az (ZU 3 [2,1] (ic [3,0,2,2,2,2,2] (Z0v b ga gb gc gd ge gf n s L ln q (hnum:=hf.num) (hargs:=hf.args) (hinto:=(fun q=>(hf.into om).2))) ?_))
 rintro _ _ (⟨wa12,wb12,wc12,wd12,we12,wf12,L'4,rfl,rfl,Js⟩|⟨rfl,rfl,KR⟩)
 ·have hP:=(LQ (n:=n) (ln:=ln) (L:=L) Z9 XH UB Ab).trans (Js)
  obtain ⟨kx,hxv⟩:=Cd hn hk hq.1 hf hP
  refine Z1 (Y1 (Wz (ak (Y6 2 [7] (Zu [] (Qp s.op) (XM [0,5,7] [(80,.b (XF s.op&&((YF n L.vars s) != 0)))] (fun gz=>gz) ?_ ?_))))))
  ·refine Z2 1 (ib (b:=XF s.op) 77 (fun Uk=>?_) (fun Uk=>?_))
   ·exact Z1 (ZV 9 (ZM ((YF n L.vars s) != 0) Uk fl))
   exact Z1 (ZV 9 (ZM false Uk fl))
  refine ac (XF s.op&&((YF n L.vars s) != 0)) (p:=(XF s.op=true)/\((YF n L.vars s)≠0)) (Xv Iff.rfl Xd) (fun Fs=>?_) (fun Fs=>?_)
  ·refine az (Z2 2 (ic [0,0,0,0,0,0,0] (TW b wa12 wb12 wc12 wd12 we12 wf12 L'4 ln (YF n L.vars s) 1 (-1) (hlb:=(by rw [hxv];omega)) (hlk:=kx.len)) ?_))
   rintro _ _ ⟨wa13,wb13,wc13,wd13,we13,wf13,rfl⟩
   exact ie (ar (Zs (r1 [0,0,0,0,0,0,0] (.inl ⟨wa13,wb13,wc13,wd13,we13,wf13,(L'4.grow (YF n L.vars s) 1 (-1)),rfl,rfl,(by rw [Uc,hP];first|rfl|exact U4 (by assumption)|exact U5 (by assumption) (by assumption)|exact U6 (by assumption))⟩))))
  refine Zo 2 [7] (Zu [] (Qp s.op) (ie (ac (XF s.op) Iff.rfl (fun Qz=>?_) (fun Qz=>?_))))
  ·refine az (Z2 1 (ic [0,0,0,0,0,0,0] (TW b wa12 wb12 wc12 wd12 we12 wf12 L'4 ln 0 0 (-1) (hlb:=(by rw [hxv];omega)) (hlk:=kx.len)) ?_))
   rintro _ _ ⟨wa14,wb14,wc14,wd14,we14,wf14,rfl⟩
   exact ie (ar (Zs (r1 [0,0,0,0,0,0,0] (.inl ⟨wa14,wb14,wc14,wd14,we14,wf14,(L'4.grow 0 0 (-1)),rfl,rfl,(by rw [Uc,hP];first|rfl|exact U4 (by assumption)|exact U5 (by assumption) (by assumption)|exact U6 (by assumption))⟩))))
  exact ak (ar (Zs (r1 [0,0,0,0,0,0,0] (.inl ⟨wa12,wb12,wc12,wd12,we12,wf12,L'4,rfl,rfl,(by rw [Uc,hP];first|rfl|exact U4 (by assumption)|exact U5 (by assumption) (by assumption)|exact U6 (by assumption))⟩))))
 have hP:=(LQ (n:=n) (ln:=ln) (L:=L) Z9 XH UB Ab).trans (KR)
 exact Z1 (Y1 (Vj (ar (Zs (r1 [] (.inr ⟨rfl,rfl,(by rw [Uc,hP];first|rfl|exact U4 (by assumption)|exact U5 (by assumption) (by assumption)|exact U6 (by assumption))⟩))))))
theorem Z0r (c:Nat) (ga:Hd) (gb:Hd) (gc:Hd) (gd:Hd) (ge:Hd) (gf:Hd) (n:Zx) (b:Z4) (L:Zy) (ln:LI) (q:Int) (mm:Nat) (hn:Xk n) (hk:Xn n.decls L q) (ht:0<=XL n L.vars b) (hm:mm<=L.vars.length) (hb:L.vars.length+4*b.sz<=1000000000) (hq:0<=q/\q+4*b.sz<=999999990) (hln:ln.length<=4294967296) (ih:∀(s2:Z3) (c:Nat) (ra:Hd) (rb:Hd) (rc:Hd) (rd:Hd) (re:Hd) (rf:Hd) (M:Zy) (p:Int),(s2.sz<b.sz)->(Xn n.decls M p)->(0<=YF n M.vars s2)->(M.vars.length+4*s2.sz<=1000000000)->(0<=p/\p+4*s2.sz<=999999990)->Zf 126 [.p c 0,Yl n,Ym s2] [.obj c [.h ra,.h rb,.h rc,.h rd,.h re,.h rf,Z6 ln],rV ra M.vars,rV rb M.own,rV rc M.par,rV rd M.con,rV re M.fst,rV rf M.tok] (fun r h=>(∃(wa:Hd) (wb:Hd) (wc:Hd) (wd:Hd) (we:Hd) (wf:Hd) (M':Zy),r=.b true/\h=[.obj c [.h wa,.h wb,.h wc,.h wd,.h we,.h wf,Z6 ln],rV wa M'.vars,rV wb M'.own,rV wc M'.par,rV wd M'.con,rV we M'.fst,rV wf M'.tok]/\To n ln M s2=some M')∨(r=.b false/\h=[]/\To n ln M s2=none))):Zf 129 [.p c 0,Yl n,ZC b,.i mm] [.obj c [.h ga,.h gb,.h gc,.h gd,.h ge,.h gf,Z6 ln],rV ga L.vars,rV gb L.own,rV gc L.par,rV gd L.con,rV ge L.fst,rV gf L.tok] (fun r h=>(∃(wa:Hd) (wb:Hd) (wc:Hd) (wd:Hd) (we:Hd) (wf:Hd) (L':Zy),r=.b true/\h=[.obj c [.h wa,.h wb,.h wc,.h wd,.h we,.h wf,Z6 ln],rV wa L'.vars,rV wb L'.own,rV wc L'.par,rV wd L'.con,rV we L'.fst,rV wf L'.tok]/\Vd n ln L mm b=some L')∨(r=.b false/\h=[]/\Vd n ln L mm b=none)):=by
 have hbz:=b.sz_eq
 obtain ⟨vs,rt,hvs,hres,hrt⟩:=Hg ht
 have hri:=AF hres
 have X6:=WS b
 refine ZD 45 Tryz.func129 (ar (iA (YN n) fun b1=>iA (YI b) fun b2=>?_))
 refine Z1 (Y1 (ab 0 (Y0 (fun fz gz m F h=>∃(k:Nat) (q2:Int) (L2:Zy) (ka:Hd) (kb:Hd) (kc:Hd) (kd:Hd) (ke:Hd) (kf:Hd),(k<=b.steps.length)/\(Xn n.decls L2 q2)/\(0<=q2/\q2+4*Y5 (b.steps.drop k)<=999999990)/\(L2.vars.length+4*Y5 (b.steps.drop k)<=1000000000)/\(Vz n (b.steps.drop k) L2.vars=some vs)/\(QH n ln L2 (b.steps.drop k)=QH n ln L b.steps)/\(L.vars.length<=L2.vars.length)/\F=sF [0,3,5,6] fz [(9,.i k)]/\h=[Za gz 0,Za gz 1,.obj c [.h ka,.h kb,.h kc,.h kd,.h ke,.h kf,Z6 ln],rV ka L2.vars,rV kb L2.own,rV kc L2.par,rV kd L2.con,rV ke L2.fst,rV kf L2.tok]/\m=b.steps.length-k) _ _ _ ⟨0,q,L,ga,gb,gc,gd,ge,gf,ob,hk,(by rw [TL];omega),(by rw [TL];omega),hvs,rfl,om,rfl,rfl,rfl⟩ (ZV 9 (Yd fl)) ?_)))
 rintro m F h ⟨k,q2,L2,ka,kb,kc,kd,ke,kf,Yf,Zi,Zr,YA,XZ,Kt,Z6p,rfl,rfl,rfl⟩
 refine Y6 3 [0] (iw (W8 b.steps) (ZT ((k:Int)<(b.steps.length:Int)) (fun Z9=>?_) (fun Z9=>?_)))
 ·obtain ⟨s1,hs1⟩:=Zq b.steps k om
  have hss:=UZ hs1
  have hdr:=Yo hs1
  have hz:Y5 (b.steps.drop k)=s1.sz+Y5 (b.steps.drop (k+1)):=by rw [hdr,Y5]
  rw [hdr] at XZ Kt
  obtain ⟨g1,g2⟩:=N5 XZ
  refine ak (aq (ab 1 (aD 9 (ZH 4 9 [0,1,2,3,4] [1,0] (dx 5 (Zh none (k:Int) 5 (XO hs1)) (Zk 2 3 [6] (Z8 7 (dc 7 [2,2,2,2,2,2,2] [] [] (ih s1 c ka kb kc kd ke kf L2 q2 ob Zi g1 om om) ?_))))))))
  rintro _ _ (⟨wa1,wb1,wc1,wd1,we1,wf1,M'1,rfl,rfl,ZX⟩|⟨rfl,rfl,Y9⟩)
  ·have hP:=ZX
   have kx:=N2 hn Zi Zr.1 g1 hP
   exact Zk 0 1 [8] (de (Wz (ak (az (Z2 1 (ZG k (Z1 (ZI ⟨k+1,(q2+4*s1.sz),M'1,wa1,wb1,wc1,wd1,we1,wf1,ob,kx.1,om,(by rw [kx.2];have:=Mu n L2.vars s1;omega),(by rw [kx.2];exact g2),(by rw [<-Kt,QH,hP];rfl),(by rw [kx.2];have:=Mu n L2.vars s1;omega),rfl,rfl,rfl⟩ (wk [7,7,0,0,0,0,0,0,0] (ZL k fl))))))))))
  have hP:=Y9
  exact Zk 0 1 [8] (de (Vj (ar (Zs (r1 [] (.inr ⟨rfl,rfl,(by rw [Ew,<-Kt,QH,hP];rfl)⟩))))))
 rw [Xz om] at XZ Kt
 have hvv:L2.vars=vs:=by rw [Vz] at XZ;exact Ay XZ
 have hB:Vd n ln L mm b=K0 mm b.result L2:=by rw [Ew,<-Kt,QH];rfl
 obtain ⟨xr,hxr⟩:=Zq L2.vars b.result.toNat (by rw [hvv];omega)
 have hgr:=UN hxr
 have hrl:0<=b.result/\b.result<L2.vars.length:=by rw [hvv];omega
 rw [Vz] at XZ
 refine ax 0 (aq (aD 16 (ZH 10 16 [0,1,2,3,4,5] [2,0] (dx 6 (V9 3 ka L2.vars b.result b.result.toNat (hq:=rfl)) (Vu 7 (T2 3 ka L2.vars b.result.toNat xr hxr) (Zk 6 8 [8,9] (db (b:=(xr != 0)) 35 (fun Zb=>?_) (fun Zb=>?_))))))))
 ·have YL:xr≠0:=(Xd).1 Zb
  refine ZH 3 6 [10,11,12] [0] (Z8 13 (dc 13 [2,2,2,2,2,2,2] [] [] (Dt c ka kb kc kd ke kf L2 ln b.result (hlk:=Zi.len) (hq:=(fun y hy=>⟨Zi.nn y hy,by have:=Zi.bd y hy;omega⟩))) ?_))
  rintro _ _ (⟨wa2,wb2,wc2,wd2,we2,wf2,L'1,rfl,rfl,YX⟩|⟨rfl,rfl,X9⟩)
  ·have hE:=hB.trans (PO hgr (by assumption) YX)
   have kx:=Zi.take YX
   have hxv:L'1.vars.length=L2.vars.length:=by rw [(QI YX).2.1]
   refine Zk 0 2 [14,15] (de (Wz (ak (Yg 2 (ic [0,0,0,0,0,0,0] (L7 c wa2 wb2 wc2 wd2 we2 wf2 L'1 ln mm (hlk:=(by first|exact kx.len|exact Zi.len)) (hlb:=om) (hm:=om)) ?_)))))
   rintro _ _ (⟨wa3,wb3,wc3,wd3,we3,wf3,L'2,rfl,rfl,XV⟩|⟨rfl,rfl,Wu⟩)
   ·exact Zs (r1 [0,0,0,0,0,0,0] (.inl ⟨wa3,wb3,wc3,wd3,we3,wf3,L'2,rfl,rfl,(by first|exact hE|(rw [hE];exact XV)|(rw [hB,BG hgr (by assumption)];exact XV))⟩))
   exact Zs (r1 [] (.inr ⟨rfl,rfl,(by first|exact hE|(rw [hE];exact Wu)|(rw [hB,BG hgr (by assumption)];exact Wu))⟩))
  have hE:=hB.trans (PN hgr (by assumption) X9)
  exact Zk 0 2 [14,15] (de (Vj (ar (Zs (r1 [] (.inr ⟨rfl,rfl,(by first|exact hE|(rw [hE];exact X9)|(rw [hB,BG hgr (by assumption)];exact X9))⟩))))))
 have V5:¬(xr≠0):=YS Xd Zb
 refine Zk 0 6 [10,11,12,13,14,15] (de (Wz (ak (Yg 2 (ic [2,2,2,2,2,2,2] (L7 c ka kb kc kd ke kf L2 ln mm (hlk:=(by first|exact kx.len|exact Zi.len)) (hlb:=om) (hm:=om)) ?_)))))
 rintro _ _ (⟨wa4,wb4,wc4,wd4,we4,wf4,L'3,rfl,rfl,Vm⟩|⟨rfl,rfl,US⟩)
 ·exact Zs (r1 [0,0,0,0,0,0,0] (.inl ⟨wa4,wb4,wc4,wd4,we4,wf4,L'3,rfl,rfl,(by first|exact hE|(rw [hE];exact Vm)|(rw [hB,BG hgr (by assumption)];exact Vm))⟩))
 exact Zs (r1 [] (.inr ⟨rfl,rfl,(by first|exact hE|(rw [hE];exact US)|(rw [hB,BG hgr (by assumption)];exact US))⟩))
theorem Z0s (n:Zx) (ln:LI) (hn:Xk n) (hln:ln.length<=4294967296) (m:Nat):∀(b2:Z4) (c:Nat) (ra:Hd) (rb:Hd) (rc:Hd) (rd:Hd) (re:Hd) (rf:Hd) (M:Zy) (mm:Nat) (p:Int),(b2.sz<m+1)->(Xn n.decls M p)->(0<=XL n M.vars b2)->(mm<=M.vars.length)->(M.vars.length+4*b2.sz<=1000000000)->(0<=p/\p+4*b2.sz<=999999990)->Zf 129 [.p c 0,Yl n,ZC b2,.i mm] [.obj c [.h ra,.h rb,.h rc,.h rd,.h re,.h rf,Z6 ln],rV ra M.vars,rV rb M.own,rV rc M.par,rV rd M.con,rV re M.fst,rV rf M.tok] (fun r h=>(∃(wa:Hd) (wb:Hd) (wc:Hd) (wd:Hd) (we:Hd) (wf:Hd) (M':Zy),r=.b true/\h=[.obj c [.h wa,.h wb,.h wc,.h wd,.h we,.h wf,Z6 ln],rV wa M'.vars,rV wb M'.own,rV wc M'.par,rV wd M'.con,rV we M'.fst,rV wf M'.tok]/\Vd n ln M mm b2=some M')∨(r=.b false/\h=[]/\Vd n ln M mm b2=none)):=by
 induction m with
 | zero=>intro b c ga gb gc gd ge gf L mm q h;have:=b.sz_pos;omega
 | succ m ih=>
  intro b c ga gb gc gd ge gf L mm q h1 hk ht hm hb hp
  exact Z0r c ga gb gc gd ge gf n b L ln q mm hn hk ht hm hb hp hln fun s c ga gb gc gd ge gf L q h2 hk ht hb hp=>L9 c ga gb gc gd ge gf n s L ln q hn hk ht hb hp hln
   fun b2 c ga gb gc gd ge gf L mm q h3 hk ht hm hb hp=>ih b2 c ga gb gc gd ge gf L mm q om hk ht hm hb hp
theorem Z0y (n:Zx) (ln:LI) (hn:Xk n) (hln:ln.length<=4294967296) (m:Nat):∀(s2:Z3) (c:Nat) (ra:Hd) (rb:Hd) (rc:Hd) (rd:Hd) (re:Hd) (rf:Hd) (M:Zy) (p:Int),(s2.sz<m+1)->(Xn n.decls M p)->(0<=YF n M.vars s2)->(M.vars.length+4*s2.sz<=1000000000)->(0<=p/\p+4*s2.sz<=999999990)->Zf 126 [.p c 0,Yl n,Ym s2] [.obj c [.h ra,.h rb,.h rc,.h rd,.h re,.h rf,Z6 ln],rV ra M.vars,rV rb M.own,rV rc M.par,rV rd M.con,rV re M.fst,rV rf M.tok] (fun r h=>(∃(wa:Hd) (wb:Hd) (wc:Hd) (wd:Hd) (we:Hd) (wf:Hd) (M':Zy),r=.b true/\h=[.obj c [.h wa,.h wb,.h wc,.h wd,.h we,.h wf,Z6 ln],rV wa M'.vars,rV wb M'.own,rV wc M'.par,rV wd M'.con,rV we M'.fst,rV wf M'.tok]/\To n ln M s2=some M')∨(r=.b false/\h=[]/\To n ln M s2=none)):=by
 intro s c ga gb gc gd ge gf L q h2 hk ht hb hp
 exact L9 c ga gb gc gd ge gf n s L ln q hn hk ht hb hp hln fun b2 c ga gb gc gd ge gf L mm q h3 hk ht hm hb hp=>Z0s n ln hn hln m b2 c ga gb gc gd ge gf L mm q om hk ht hm hb hp
theorem Z0x (c:Nat) (ra:Hd) (rb:Hd) (rc:Hd) (rd:Hd) (re:Hd) (rf:Hd) (n:Zx) (s2:Z3) (M:Zy) (ln:LI) (p:Int) (hn:Xk n) (hln:ln.length<=4294967296) (hk:Xn n.decls M p) (ht:0<=YF n M.vars s2) (hb:M.vars.length+4*s2.sz<=1000000000) (hp:0<=p/\p+4*s2.sz<=999999990):Zf 126 [.p c 0,Yl n,Ym s2] [.obj c [.h ra,.h rb,.h rc,.h rd,.h re,.h rf,Z6 ln],rV ra M.vars,rV rb M.own,rV rc M.par,rV rd M.con,rV re M.fst,rV rf M.tok] (fun r h=>(∃(wa:Hd) (wb:Hd) (wc:Hd) (wd:Hd) (we:Hd) (wf:Hd) (M':Zy),r=.b true/\h=[.obj c [.h wa,.h wb,.h wc,.h wd,.h we,.h wf,Z6 ln],rV wa M'.vars,rV wb M'.own,rV wc M'.par,rV wd M'.con,rV we M'.fst,rV wf M'.tok]/\To n ln M s2=some M')∨(r=.b false/\h=[]/\To n ln M s2=none)):=Z0y n ln hn hln s2.sz s2 c ra rb rc rd re rf M p om hk ht hb hp
theorem Z47 (rt:Y8) (hp:rt.params.length<=1000000:=by exact ob) (hl:rt.lent.length<=4294967296:=by exact ob):Zf 125 [TP rt] [] (fun r h=>∃(c:Nat) (wa:Hd) (wb:Hd) (wc:Hd) (wd:Hd) (we:Hd) (wf:Hd),r=.p c 0/\h=[.obj c [.h wa,.h wb,.h wc,.h wd,.h we,.h wf,Z6 rt.lent],rV wa ((Qn rt).vars),rV wb ((Qn rt).own),rV wc ((Qn rt).par),rV wd ((Qn rt).con),rV we ((Qn rt).fst),rV wf ((Qn rt).tok)]):=by
 refine ZD 45 Tryz.func125 (ar (iA (K4 rt) fun b1=>Z1 (Zo 2 [0] (ic [] (Vr rt.lent) ?_))))
 rintro _ _ ⟨v1,rfl,rfl⟩
 refine ZE 1 [(8,.agg [nl,nl,nl,nl,nl,nl,Z6 rt.lent])] (iA [nl,nl,nl,nl,nl,nl,Z6 rt.lent] fun b2=>?_)
 refine Xx (Nf 0 b2 [nl,nl,nl,nl,nl,nl,Z6 rt.lent] [.h hN,.h hN,.h hN,.h hN,.h hN,.h hN,Z6 rt.lent] (.cons (Ze.hd (v:=hN)) (.cons (Ze.hd (v:=hN)) (.cons (Ze.hd (v:=hN)) (.cons (Ze.hd (v:=hN)) (.cons (Ze.hd (v:=hN)) (.cons (Ze.hd (v:=hN)) (.cons (lr _) .nil)))))))) (Xx (As) (Xx (As) (Xx (As) (Xx (As) (Xx (As) (Xx (As) (Z1 (Y1 (ab 0 (Y0 (fun fz gz m F h=>∃(k:Nat) (L2:Zy) (ka:Hd) (kb:Hd) (kc:Hd) (kd:Hd) (ke:Hd) (kf:Hd),(k<=rt.params.length)/\(Uh L2)/\(L2.vars.length=k)/\(KY rt.lent (rt.params.drop k) k L2=Qn rt)/\F=sF [1,3] fz [(4,.i k)]/\h=[.obj b2 [.h ka,.h kb,.h kc,.h kd,.h ke,.h kf,Z6 rt.lent],Za gz 8,rV ka L2.vars,rV kb L2.own,rV kc L2.par,rV kd L2.con,rV ke L2.fst,rV kf L2.tok]/\m=rt.params.length-k) _ _ _ ⟨0,(Zy.mk [] [] [] [] [] []),hN,hN,hN,hN,hN,hN,ob,⟨rfl,rfl,rfl,rfl,rfl⟩,rfl,rfl,rfl,rfl,rfl⟩ (wk [6,7,0,0,0,0,0,0] (Yd fl) (e:=(rc (rc (rv (xs:=[]) ob (rv (xs:=[]) ob (rv (xs:=[]) ob (rv (xs:=[]) ob (rv (xs:=[]) ob (rv (xs:=[]) ob rz)))))))))) ?_))))))))))
 rintro m F h ⟨k,L2,ka,kb,kc,kd,ke,kf,Yf,Zi,Zr,YA,rfl,rfl,rfl⟩
 refine Y6 3 [1] (iw (Ye rt.params) (ZT ((k:Int)<(rt.params.length:Int)) (fun Z9=>?_) (fun Z9=>?_)))
 ·refine ak (aq (ab 1 (Zo 3 [1] ?_)))
  obtain ⟨x1,Z5⟩:=Zq rt.params k om
  refine Zm (Zh none (k:Int) 1 (ZZ Z5)) (XM [1,3,4] [(29,.b ((x1 != 0)&&(!(decide ((k:Int)∈rt.lent)))))] (fun gz=>gz) ?_ ?_)
  ·refine Z2 3 (ib (b:=(x1 != 0)) 23 (fun Zb=>?_) (fun Zb=>?_))
   ·exact ZU 3 [1] (Zu [] (VL rt.lent (k:Int)) (Z1 (ZV 8 (ZM (!(decide ((k:Int)∈rt.lent))) Zb fl))))
   exact Z1 (ZV 8 (ZM false Zb fl))
  refine ac ((x1 != 0)&&(!(decide ((k:Int)∈rt.lent)))) (p:=(x1≠0)/\(¬((k:Int)∈rt.lent))) (Xv Xd (Xh dq)) (fun Zg=>?_) (fun Zg=>?_)
  ·refine az (ZU 4 [1] (Zm (Zh none (k:Int) 1 (ZZ Z5)) (Z2 1 (ic [0,1,1,1,1,1,1] (TW b2 ka kb kc kd ke kf L2 rt.lent x1 1 (-1) (hlk:=Zi)) ?_))))
   rintro _ _ ⟨wa1,wb1,wc1,wd1,we1,wf1,rfl⟩
   exact ie (az (Z2 1 (ZG k (Z1 (ZI ⟨k+1,(L2.grow x1 1 (-1)),wa1,wb1,wc1,wd1,we1,wf1,ob,(Uh.grow Zi),(by simp [Zy.grow];omega),(by rw [Yo Z5,KY] at YA;first|(rw [Zw Zg] at YA;exact YA)|(rw [Zp Zg] at YA;exact YA)),rfl,rfl,rfl⟩ (wk [0,6,0,0,0,0,0,0] (ZL k fl)))))))
  refine az (ZU 4 [1] (Zm (Zh none (k:Int) 1 (ZZ Z5)) (Z2 1 (ic [0,1,1,1,1,1,1] (TW b2 ka kb kc kd ke kf L2 rt.lent x1 0 (-1) (hlk:=Zi)) ?_))))
  rintro _ _ ⟨wa2,wb2,wc2,wd2,we2,wf2,rfl⟩
  exact ie (az (Z2 1 (ZG k (Z1 (ZI ⟨k+1,(L2.grow x1 0 (-1)),wa2,wb2,wc2,wd2,we2,wf2,ob,(Uh.grow Zi),(by simp [Zy.grow];omega),(by rw [Yo Z5,KY] at YA;first|(rw [Zw Zg] at YA;exact YA)|(rw [Zp Zg] at YA;exact YA)),rfl,rfl,rfl⟩ (wk [0,6,0,0,0,0,0,0] (ZL k fl)))))))
 refine ax 0 (Ya ?_)
 have hNl:L2=Qn rt:=by rw [<-YA,Xz om];rfl
 exact ZK (r1 [0,1,1,1,1,1,1] ⟨b2,ka,kb,kc,kd,ke,kf,rfl,rfl⟩ (eq:=(rc (rv (xs:=L2.vars) (by rw [hNl]) (rv (xs:=L2.own) (by rw [hNl]) (rv (xs:=L2.par) (by rw [hNl]) (rv (xs:=L2.con) (by rw [hNl]) (rv (xs:=L2.fst) (by rw [hNl]) (rv (xs:=L2.tok) (by rw [hNl]) rz)))))))))
theorem RQ (n:Zx) (f0:Nat) (k0:Nat) (rt:Y8) (hz:Jc n:=by exact ob) (hr:n.routines[f0]? = some rt:=by exact ob) (hk0:k0<=rt.body.steps.length:=by exact ob):Zf 81 [Yl n,.i f0,.i k0] [] (fun r h=>(∃(c:Nat) (wa:Hd) (wb:Hd) (wc:Hd) (wd:Hd) (we:Hd) (wf:Hd) (L:Zy) (q:Int),r=.tup [.p c 0,.b true]/\h=[.obj c [.h wa,.h wb,.h wc,.h wd,.h we,.h wf,Z6 rt.lent],rV wa L.vars,rV wb L.own,rV wc L.par,rV wd L.con,rV we L.fst,rV wf L.tok]/\Xn n.decls L q/\L.vars.length=rt.params.length+YH (rt.body.steps.take k0)/\L.vars.length<=500000000/\rt.lent.length<=4194304)∨(r=.tup [.any,.b false]/\h=[]/\True)):=by
 have hzl:=hz.len
 have hfl:=(XA.1 hr).1
 have hrm:=ZW hr
 have hbz:=hz.body _ hrm
 have Zt:=WS rt.body
 have hbe:=rt.body.sz_eq
 obtain ⟨hk,hkv⟩:=Z1a n.decls rt
 refine ZD 64 Tryz.func81 (ar (iA (YN n) fun b1=>Z1 (Y6 1 [0] (Zu [] (Z4t n) (WQ 12 [1,2,3] [(21,.b ((!Q5 n)||(!(decide (0<=(f0:Int)/\(f0:Int)<=((n.routines.length:Int)-1))))))] (fun gz=>gz) ?_ (fun hj1=>?_))))))
 ·refine XM [1,2,3] [(34,.b (((!Q5 n)||(!(decide (0<=(f0:Int)/\(f0:Int)<=((n.routines.length:Int)-1)))))||(!(decide (0<=(k0:Int)/\(k0:Int)<=(rt.body.steps.length:Int))))))] (fun gz=>gz) ?_ ?_
  ·refine Z2 1 (ib (b:=((!Q5 n)||(!(decide (0<=(f0:Int)/\(f0:Int)<=((n.routines.length:Int)-1)))))) 22 (fun Zb=>?_) (fun Zb=>?_))
   ·exact Z1 (wk [0] (ZM true Zb fl))
   exact ZU 4 [0] (Zm (Zh none (f0:Int) 5 (WB hr)) (Z2 3 (iw (W8 rt.body.steps) (Zu [] (Ub (k0:Int) 0 (rt.body.steps.length:Int)) (Z1 (wk [0] (ZM (!(decide (0<=(k0:Int)/\(k0:Int)<=(rt.body.steps.length:Int)))) Zb fl)))))))
  refine ac (((!Q5 n)||(!(decide (0<=(f0:Int)/\(f0:Int)<=((n.routines.length:Int)-1)))))||(!(decide (0<=(k0:Int)/\(k0:Int)<=(rt.body.steps.length:Int))))) (p:=((¬(Q5 n=true))∨(¬(0<=(f0:Int)/\(f0:Int)<=((n.routines.length:Int)-1))))∨(¬(0<=(k0:Int)/\(k0:Int)<=(rt.body.steps.length:Int)))) (Xo (Xo (Xh Iff.rfl) (Xh dq)) (Xh dq)) (fun Z9=>?_) (fun Z9=>?_)
  ·exact ar (ZE 1 [(35,.agg [.sl [] none,.sl [] none,.sl [] none,.sl [] none,.sl [] none,.sl [] none,.sl [] none])] (iA [.sl [] none,.sl [] none,.sl [] none,.sl [] none,.sl [] none,.sl [] none,.sl [] none] fun b2=>Zs (r2 [] [.p b2 0,.b false] (.inr ⟨rfl,rfl,(by first|exact True.intro|exact ⟨Zi,by rw [show k0=j by omega];exact Kt,by omega,hll⟩)⟩) (Ze.tup (.cons (Ze.any _) (.cons (lr _) .nil))))))
  have hV:Q5 n=true:=GT fun z=>Z9 (.inl (.inl z))
  obtain ⟨hok,hall⟩:=Z60 hz hV
  have hty:=hall rt hrm
  obtain ⟨vs,t0,hvs,hres,hrt0⟩:=Hg hty
  have hpl:=hok.params_at hr
  have hll:=hok.lent_at hr
  refine ak (Zo 3 [0] (Zm (Zh none (f0:Int) 5 (WB hr)) (Z2 1 (ic [] (Z47 rt) ?_))))
  rintro _ _ ⟨c1,wa1,wb1,wc1,wd1,we1,wf1,rfl,rfl⟩
  refine Z1 (Y1 (ab 0 (Y0 (fun fz gz m F h=>∃(j:Nat) (q2:Int) (L2:Zy) (ka:Hd) (kb:Hd) (kc:Hd) (kd:Hd) (ke:Hd) (kf:Hd),(j<=k0)/\(Xn n.decls L2 q2)/\(0<=q2/\q2+4*Y5 (rt.body.steps.drop j)<=999999990)/\(L2.vars.length+4*Y5 (rt.body.steps.drop j)<=400000000)/\(Vz n (rt.body.steps.drop j) L2.vars=some vs)/\(L2.vars.length=rt.params.length+YH (rt.body.steps.take j))/\F=sF [1,2,3,8] fz [(9,.i j)]/\h=[.obj c1 [.h ka,.h kb,.h kc,.h kd,.h ke,.h kf,Z6 rt.lent],Za gz 7,rV ka L2.vars,rV kb L2.own,rV kc L2.par,rV kd L2.con,rV ke L2.fst,rV kf L2.tok]/\m=k0-j) _ _ _ ⟨0,1,(Qn rt),wa1,wb1,wc1,wd1,we1,wf1,ob,hk,(by rw [TL];omega),(by rw [TL,hkv];omega),(by rw [TL,hkv];exact hvs),(by rw [hkv];rfl),rfl,rfl,rfl⟩ (wk [0,6,0,0,0,0,0,0] (Yd fl)) ?_)))
  rintro m F h ⟨j,q2,L2,ka,kb,kc,kd,ke,kf,Yf,Zi,Zr,YA,XZ,Kt,rfl,rfl,rfl⟩
  refine X7 (ZT ((j:Int)<(k0:Int)) (fun Zg=>?_) (fun Zg=>?_))
  ·obtain ⟨s1,hs1⟩:=Zq rt.body.steps j om
   have hss:=UZ hs1
   have hsp:=s1.sz_pos
   have hzd:=Cl hs1
   have hdt:=HE hs1
   have hdr:=Yo hs1
   rw [hdr] at XZ
   obtain ⟨g1,g2⟩:=N5 XZ
   refine ak (aq (ab 1 (aD 14 (ZH 9 14 [0,1,2,3,4] [1,1] (dx 5 (Zh none (f0:Int) 5 (WB hr)) (Zk 4 8 [6,7,8,9] (dx 10 (Zh none (j:Int) 5 (XO hs1)) (Zk 2 3 [11] (Z8 12 (dc 12 [0,1,1,1,1,1,1] [] [] (Z0x c1 ka kb kc kd ke kf n s1 L2 rt.lent q2 hok ob Zi g1 om om) ?_))))))))))
   rintro _ _ (⟨wa2,wb2,wc2,wd2,we2,wf2,M'1,rfl,rfl,YL⟩|⟨rfl,rfl,YX⟩)
   ·have hP:=YL
    have kx:=N2 hok Zi Zr.1 g1 hP
    have hsf:=Z3j g1
    exact Zk 0 1 [13] (de (Wz (ak (az (Z2 1 (ZG j (Z1 (ZI ⟨j+1,(q2+4*s1.sz),M'1,wa2,wb2,wc2,wd2,we2,wf2,ob,kx.1,om,(by rw [kx.2,hsf];split<;>omega),(by rw [kx.2];exact g2),(by rw [kx.2,hsf,hdt];split<;>omega),rfl,rfl,rfl⟩ (wk [0,6,0,0,0,0,0,0] (ZL j fl))))))))))
   exact Zk 0 1 [13] (de (Vj (ar (Zs (r2 [] [.p c1 0,.b false] (.inr ⟨rfl,rfl,(by first|exact True.intro|exact ⟨Zi,by rw [show k0=j by omega];exact Kt,by omega,hll⟩)⟩) (Ze.tup (.cons (Ze.any _) (.cons (lr _) .nil))))))))
  exact ax 0 (ar (Zs (r2 [0,1,1,1,1,1,1] [.p c1 0,.b true] (.inl ⟨c1,ka,kb,kc,kd,ke,kf,L2,_,rfl,rfl,(by first|exact True.intro|exact ⟨Zi,by rw [show k0=j by omega];exact Kt,by omega,hll⟩)⟩) (lr _))))
 refine Z2 2 (ib (b:=(!Q5 n)) 13 (fun ZP=>?_) (fun ZP=>?_))
 ·exact Z2 8 (Xm (wk [0] (ZM true ZP fl)) hj1)
 exact ZU 3 [0] (iw (Up n.routines) (ia (((n.routines.length:Int)-1)) (((n.routines.length:Int))-(1)) (Zu [] (Ub (f0:Int) 0 ((n.routines.length:Int)-1)) (Z2 2 (Xm (wk [0] (ZM (!(decide (0<=(f0:Int)/\(f0:Int)<=((n.routines.length:Int)-1)))) ZP fl)) hj1)))))
theorem Db (b:Z4) (i0:Nat) (s:Z3) (hi:i0<=b.steps.length:=by exact ob) (hz:b.sz<=100000000:=by exact ob):Zf 145 [ZC b,.i i0,Ym s] [] (Yt (ZC (Z4.mk (W1 b.steps i0 s) b.result))):=by
 have Zt:=WS b
 exact ZD 26 Tryz.func145 (ar (iA (YI b) fun b1=>iA (Xf s) fun b2=>iA [nl,.i 0] fun b3=>ie (ar (iL (Zj []) 0 5 fun v1=>ZU 3 [3] (Zm (Ke (es:=Zj b.steps) (hv:=none) (l:=0) (m:=(i0:Int)) (sz:=5) (es':=Zj (b.steps.take i0)) kr om (by simp<;>omega) (by simp<;>omega) (X1 _) (by first|(simp only [VV,Va,Tb,Ta];done)|(simp only [VV,Va,Tb,Ta];rfl)|(simp [Tb,Ta];done))) (ip 0 (Zj (b.steps.take i0)) (Zj []) (Zj (b.steps.take i0)) v1 none 5 (X1 _) (X1 _) (V4 _) (by simp<;>omega) (by simp [WO]) fun v2=>Z1 (aD 13 (ZH 8 13 [0,1,4,5,6] [2,3] (dx 7 (Ke (es:=Zj b.steps) (hv:=none) (l:=(i0:Int)) (m:=(((Zj b.steps).length:Nat):Int)) (sz:=5) (es':=Zj (b.steps.drop i0)) kr om (by simp<;>omega) (by simp<;>omega) (X1 _) (by first|(simp only [VV,Va,Tb,Ta];done)|(simp only [VV,Va,Tb,Ta];rfl)|(simp [Tb,Ta];done))) (ZH 5 7 [9,10] [3] (Z8 2 (dL 2 [2,2] [b1,b1] [Ym s] 1 5 fun v3=>Yh 4 4 [] [(16,.sl [Ym s] none)] (Z8 3 (dp 3 1 [2,2] [b1,b1] (Zj ((b.steps.take i0)++[s])) (Zj (b.steps.take i0)) [Ym s] v2 none 5 (X1 _) (Ti rfl) rfl (by simp<;>omega) (by simp [Wj,WO]) fun v4=>Z8 8 (dp 8 0 [2] [b1] (Zj (W1 b.steps i0 s)) (Zj ((b.steps.take i0)++[s])) (Zj (b.steps.drop i0)) v4 none 5 (X1 _) (X1 _) (V4 _) (by simp<;>omega) (by simp only [W1,Wj]) fun v5=>Zk 1 2 [11] (Z8 12 (Yy 12 2 [] [] b3 [YG (W1 b.steps i0 s) v5,.i b.result] (de (ZK (r3 [] [.agg [YG (W1 b.steps i0 s) v5,.i b.result]] [0] [(b3,b3)] ⟨rfl,rfl⟩ (Ze.agg (.cons (Ze.sl _ (Ys Zj rfl)) (.cons li .nil)))))))))))))))))))))))
theorem Fi (n:Zx) (f0:Nat) (b:Z4) (rt:Y8) (hr:n.routines[f0]? = some rt:=by exact ob) (hl:n.routines.length<=1000000:=by exact ob) (hp:rt.params.length<=4294967296:=by exact ob) (hl2:rt.lent.length<=4294967296:=by exact ob):Zf 111 [Yl n,.i f0,ZC b] [] (fun r h=>∃(g:Nat) (c:Nat),r=.agg [YM n.decls,.ms g 0 n.routines.length c]/\h=[.row (.slice (some ⟨g,0,none⟩) n.routines.length c) 5 (Zc (Yx (n.routines.set f0 (Y8.mk rt.params rt.lent rt.result b))))]):=by
 have hfl:=(XA.1 hr).1
 refine ZD 26 Tryz.func111 (ar (iA (YN n) fun b1=>iA (YI b) fun b2=>iA [nl,nl] fun b3=>ie (ar (Di 5 fun g1=>ZU 2 [3] (Sx 0 g1 5 (Yx n.routines) none (VQ _) (by simp<;>omega) fun v1=>Dg 0 n.routines.length (v:=v1) (D5 _) om (fun g2 c1 he1=>?_))))))
 subst he1
 exact Z1 (aD 11 (ZH 6 11 [0,1,2,3,4] [3] (dx 5 (Zh none (f0:Int) 5 (WB hr)) (ZH 3 5 [6,7] [2] (Z8 8 (Yp 8 [] [] [] (Bl rt b) (dx 9 (XS g2 n.routines.length c1 f0 5 (f0:Int)) (Z8 10 (JW 10 0 [] [] g2 n.routines.length c1 5 (f0*5) (K4 (Y8.mk rt.params rt.lent rt.result b)) (Zc (Yx n.routines)) (Zc (Yx (n.routines.set f0 (Y8.mk rt.params rt.lent rt.result b)))) (by rw [D5];simp only [YD,X8];omega) (R3 (Y8.mk rt.params rt.lent rt.result b) hfl) (de (Zo 4 [3] (ZA 1 b3 [YM n.decls,.ms g2 0 n.routines.length c1] (ie (ZK (r3 [1] [.agg [YM n.decls,.ms g2 0 n.routines.length c1]] [0] [(b3,b3)] ⟨g2,c1,rfl,rfl⟩ (lr _))))))))))))))))
theorem Iq (n:Zx) (f0:Nat) (b:Z4) (rt:Y8) (hr:n.routines[f0]? = some rt:=by exact ob) (hl:n.routines.length<=1000000:=by exact ob) (hp:rt.params.length<=4294967296:=by exact ob) (hl2:rt.lent.length<=4294967296:=by exact ob):Zf 111 [Yl n,.i f0,ZC b] [] (Yt (Yl (withR n f0 rt b))):=(W3.frzN (ds:=n.decls) (rs:=(n.routines.set f0 (Y8.mk rt.params rt.lent rt.result b))) (hs:=[]) ((Fi n f0 b rt hr hl hp hl2).mono fun r h ⟨g,c,e1,e2⟩=>⟨g,c,by rw [e1];simp only [Uu],by rw [e2];simp only [Uu]⟩))
theorem UP (rd:Nat) (bs:LI) (p:Nat) (mx:Nat) (Zt:∀z∈bs,0<=z/\z<=255) (hp:p+1<=1000000000:=by exact ob) (hmx:0<mx:=by exact ob):Zf 79 [.p rd 0,.i mx] [Yc rd bs p] (fun r h=>∃(kn:Nat),r=.i kn/\h=[.obj rd [V7 bs,.i (p+1:Nat)]]/\kn<mx):=(XN rd bs p mx Zt hp).mono fun r h ⟨z,hr,hh,hz⟩=>by
  have h0:=hz.lt om
  exact ⟨z.toNat,by rw [hr,Int.toNat_of_nonneg h0.1],hh,by omega⟩
theorem Ih (rd:Nat) (bs:LI) (p:Nat) (n:Zx) (Zt:∀z∈bs,0<=z/\z<=255) (hp:p+4<=1000000000:=by exact ob) (hz:Jc n:=by exact ob) (hl1:1<=n.routines.length/\n.routines.length<=1000000:=by exact ob):Zf 116 [.p rd 0,Yl n] [Yc rd bs p] (fun r h=>∃(n2:Zx) (p2:Nat),r=Yl n2/\h=[Yc rd bs p2]/\Ej n n2/\p<=p2/\p2<=p+4):=by
 refine ZD 102 Tryz.func116 (ar (iA (YN n) fun b1=>iA [nl,nl] fun b2=>ie (Zo 3 [1] (iw (Up n.routines) (ic [2] (UP rd bs p n.routines.length (Zt:=ob)) ?_)))))
 rintro _ _ ⟨Yn,rfl,rfl,ZX⟩
 refine Z1 (Zo 3 [2] ?_)
 obtain ⟨x1,Z5⟩:=Zq n.routines Yn om
 have hrm:=ZW Z5
 have hbz:=hz.body _ hrm
 have Zt:=WS (x1).body
 have hpl:=hz.params _ hrm
 have hll:=hz.lent _ hrm
 have hrx:=Z5
 refine Zm (Zh none (Yn:Int) 5 (WB Z5)) (Z2 2 (iA [nl,.i 0] fun b3=>ZA 0 b3 (YI x1.body) (ie (Zo 3 [0] (iw (W8 x1.body.steps) (ia (((x1.body.steps.length+1:Nat):Int)) (((x1.body.steps.length:Int))+(1)) (ic [1] (UP rd bs (p+1) (x1.body.steps.length+1) (Zt:=ob)) ?_)))))))
 rintro _ _ ⟨YB,rfl,rfl,Y9⟩
 refine Z1 (Zo 3 [3] (ic [] (RQ n Yn YB x1 (hr:=hrx)) ?_))
 rintro _ _ (⟨c1,wa1,wb1,wc1,wd1,we1,wf1,L1,q1,rfl,rfl,YL⟩|⟨rfl,rfl,YX⟩)
 ·obtain ⟨hLO,hLv,hLb,hLl⟩:=YL
  have hLn:=hLO.len
  obtain ⟨e1,e2,e3,e4,e5⟩:=hLO.len
  refine Z1 (Y1 (Wz (ak (ar (iL (Z7 []) 0 1 fun v1=>?_)))))
  refine Z1 (Y1 (ab 0 (Y0 (fun fz gz m F h=>∃(k:Nat) (vl:LI) (u:Value),(k<=L1.vars.length)/\(vl.length<=k)/\(∀v∈vl,0<=v/\v<(L1.vars.length:Int))/\F=sF [0,3,4,5,6,7,8] fz [(10,ZQ vl u),(11,.i k)]/\h=[Za gz 1,Za gz 2,Za gz 3,Za gz 4,Za gz 5,Za gz 6,Za gz 7,Za gz 8,Za gz 9,Za gz 10,Za gz 11,.tail u 1]/\m=L1.vars.length-k) _ _ _ ⟨0,[],v1,ob,ob,(fun v hv=>by cases hv),rfl,rfl,rfl⟩ (wk [1,1,1,1,1,1,1,1,1,1,1,0] (fr (Yd fl))) ?_)))
  rintro m F h ⟨k,vl,u,Yf,Zi,Zr,rfl,rfl,rfl⟩
  refine Y6 5 [0] (Zm (Au 1 wa1 L1.vars) (ZT ((k:Int)<(L1.vars.length:Int)) (fun Z9=>?_) (fun Z9=>?_)))
  ·refine ak (aq (ab 1 (Zo 5 [0] (Zm (V9 1 wa1 L1.vars (k:Int) k) ?_))))
   obtain ⟨x2,Zv⟩:=Zq L1.vars k om
   refine Vn (T2 1 wa1 L1.vars k x2 Zv) (Z2 2 (ib (b:=(x2 != 0)) 59 (fun Zb=>?_) (fun Zb=>?_)))
   ·refine Z2 2 (Zu [0,0,0,0,0,0,0] (Ds c1 wa1 wb1 wc1 wd1 we1 wf1 L1 x1.lent (k:Int) (hlk:=hLO.len) (hd:=hLO.down)) (YR (VX L1 x1.lent (k:Int)) Iff.rfl (fun Zg=>?_) (fun Zg=>?_)))
    ·exact az (Z2 2 (iL (Z7 [(k:Int)]) 1 1 fun v2=>ZE 0 [(66,Z6 [(k:Int)])] (ip 12 (Z7 (vl++[(k:Int)])) (Z7 vl) (Z7 [(k:Int)]) u none 1 (Yw _) (Yw _) (XT _) (by simp<;>omega) (by simp [XR,Z7]) fun v3=>Z1 (az (Z2 1 (ZG k (Z1 (ZI ⟨k+1,(vl++[(k:Int)]),v3,ob,ob,(by first|exact Zr|exact Xe Zr om),rfl,rfl,rfl⟩ (wk [2,2,2,2,2,2,2,2,2,2,2,0] (fr (ZL k fl)))))))))))
    exact ak (az (Z2 1 (ZG k (Z1 (ZI ⟨k+1,vl,u,ob,ob,(by first|exact Zr|exact Xe Zr om),rfl,rfl,rfl⟩ (ZV 12 (fr (ZL k fl))))))))
   exact Z1 (Wz (ak (az (Z2 1 (ZG k (Z1 (ZI ⟨k+1,vl,u,ob,ob,(by first|exact Zr|exact Xe Zr om),rfl,rfl,rfl⟩ (ZV 12 (fr (ZL k fl))))))))))
  refine ax 0 (X4 1 (iw (Ye vl) (YR ((vl.length:Int)==0) Zz (fun ZF=>?_) (fun ZF=>?_))))
  ·exact Zo 1 [10] (ZA 9 b2 (YN n) (ie (ZK (r3 [8] [Yl n] [0] [(b2,b2)] ⟨n,(p+1)+1,rfl,rfl,(by first|exact ⟨.inl rfl,by omega,by omega⟩|(have hv:=Zr x3 (ZW X3);exact ⟨.inr ⟨Yn,x1,YB,YB+Ul,x3,hrx,by omega,by omega,hv.1,by omega,rfl⟩,by omega,by omega⟩))⟩ (lr _)))))
  refine ak (Yg 3 (iw (Ye vl) (ic [7] (UP rd bs ((p+1)+1) vl.length (Zt:=ob)) ?_)))
  rintro _ _ ⟨BZ,rfl,rfl,Wu⟩
  obtain ⟨x3,X3⟩:=Zq vl BZ om
  refine Zm (Zh (some u) (BZ:Int) 1 (ZZ X3)) (Z1 (Zo 4 [8] (iw (W8 x1.body.steps) (Z2 1 (ia ((((x1.body.steps.length-YB):Nat):Int)) (((x1.body.steps.length:Int))-((YB:Int))) (ia ((((x1.body.steps.length-YB)+1:Nat):Int)) (((((x1.body.steps.length-YB):Nat):Int))+(1)) (ic [0] (UP rd bs (((p+1)+1)+1) ((x1.body.steps.length-YB)+1) (Zt:=ob)) ?_)))))))
  rintro _ _ ⟨Ul,rfl,rfl,V5⟩
  exact ia (((YB+Ul:Nat):Int)) (((YB:Int))+((Ul:Int))) (Z1 (aD 6 (ZH 3 6 [0,1,2] [8] (Z8 3 (Yp 3 [] [2] [b3] (Kc 15 x3) (Z8 4 (Yp 4 [] [] [] (Db x1.body (YB+Ul) (Zl 15 x3) (hi:=(by first|omega|(show YB<=(W1 _ _ _).length;rw [LR om];omega))) (hz:=(by first|omega|(rw [Z4.sz,Cf];have e:(Zl 15 x3).sz=2:=rfl;have e2:=x1.body.sz_eq;omega)))) (Z8 5 (Yy 5 8 [] [] b3 (YI (Z4.mk (W1 x1.body.steps (YB+Ul) (Zl 15 x3)) x1.body.result)) (de (aD 9 (ZH 4 9 [0,1,2,3,4] [10,0] (Z8 5 (Yp 5 [] [0,4] [b3,b1] (Kc 14 x3) (Z8 6 (Yp 6 [] [4] [b1] (Db (Z4.mk (W1 x1.body.steps (YB+Ul) (Zl 15 x3)) x1.body.result) YB (Zl 14 x3) (hi:=(by first|omega|(show YB<=(W1 _ _ _).length;rw [LR om];omega))) (hz:=(by first|omega|(rw [Z4.sz,Cf];have e:(Zl 15 x3).sz=2:=rfl;have e2:=x1.body.sz_eq;omega)))) (Z8 7 (Yp 7 [] [] [] (Iq n Yn (Z4.mk (W1 (Z4.mk (W1 x1.body.steps (YB+Ul) (Zl 15 x3)) x1.body.result).steps YB (Zl 14 x3)) (Z4.mk (W1 x1.body.steps (YB+Ul) (Zl 15 x3)) x1.body.result).result) x1 (hr:=hrx)) (Z8 8 (Yy 8 9 [] [] b2 (YN (withR n Yn x1 (Z4.mk (W1 (Z4.mk (W1 x1.body.steps (YB+Ul) (Zl 15 x3)) x1.body.result).steps YB (Zl 14 x3)) (Z4.mk (W1 x1.body.steps (YB+Ul) (Zl 15 x3)) x1.body.result).result))) (de (ZK (r3 [2] [Yl (withR n Yn x1 (Z4.mk (W1 (Z4.mk (W1 x1.body.steps (YB+Ul) (Zl 15 x3)) x1.body.result).steps YB (Zl 14 x3)) (Z4.mk (W1 x1.body.steps (YB+Ul) (Zl 15 x3)) x1.body.result).result))] [0] [(b2,b2)] ⟨(withR n Yn x1 (Z4.mk (W1 (Z4.mk (W1 x1.body.steps (YB+Ul) (Zl 15 x3)) x1.body.result).steps YB (Zl 14 x3)) (Z4.mk (W1 x1.body.steps (YB+Ul) (Zl 15 x3)) x1.body.result).result)),(((p+1)+1)+1)+1,rfl,rfl,(by first|exact ⟨.inl rfl,by omega,by omega⟩|(have hv:=Zr x3 (ZW X3);exact ⟨.inr ⟨Yn,x1,YB,YB+Ul,x3,hrx,by omega,by omega,hv.1,by omega,rfl⟩,by omega,by omega⟩))⟩ (lr _))))))))))))))))))))))))
 exact Z1 (Y1 (Vj (Zo 1 [3] (ZA 2 b2 (YN n) (ie (ZK (r3 [1] [Yl n] [0] [(b2,b2)] ⟨n,(p+1)+1,rfl,rfl,(by first|exact ⟨.inl rfl,by omega,by omega⟩|(have hv:=Zr x3 (ZW X3);exact ⟨.inr ⟨Yn,x1,YB,YB+Ul,x3,hrx,by omega,by omega,hv.1,by omega,rfl⟩,by omega,by omega⟩))⟩ (lr _))))))))
theorem Z4f (b:Z4) (hz:b.sz<=1000000000:=by exact ob):Zf 250 [ZC b] [] (Yt (.i (((Xy b.steps):Nat):Int))):=by
 have hbz:=WS b
 refine ZD 20 Tryz.func250 (ar (iA (YI b) fun b1=>?_))
 refine Z1 (Ya (aq (ab 0 (Y0 (fun fz gz m F h=>∃(k:Nat),(k<=b.steps.length)/\(k+Xy (b.steps.drop k)=Xy b.steps)/\F=sF [1] fz [(3,.i k)]/\h=gz/\m=b.steps.length-k) _ _ _ ⟨0,ob,(by simp),rfl,rfl,rfl⟩ (wk [0] (Yd fl)) ?_))))
 rintro m F h ⟨k,Yf,Zi,rfl,rfl,rfl⟩
 refine Y6 3 [0] (iw (W8 b.steps) (Z2 2 (ib (b:=(decide ((k:Int)<(b.steps.length:Int)))) 9 (fun Zb=>?_) (fun Zb=>?_))))
 ·have ZX:(k:Int)<(b.steps.length:Int):=(dq).1 Zb
  refine ZU 3 [0] ?_
  obtain ⟨x1,Z5⟩:=Zq b.steps k om
  refine Zm (Zh none (k:Int) 5 (XO Z5)) (Z2 1 (Zu [] (MP x1) (YR ((x1.op==14)||(x1.op==15)) (p:=(x1.op=14)∨(x1.op=15)) (Xo Zz Zz) (fun Z9=>?_) (fun Z9=>?_))))
  ·exact ak (ab 1 (az (Z2 1 (ZG k (Z1 (ZI ⟨k+1,ob,(Z35 Z5 Z9 Zi),rfl,rfl,rfl⟩ (wk [0] (ZL k fl))))))))
  exact ax 0 (ar (Zs (Y3 (.i k) (li (by have:=Z36 Z5 Z9 Zi;omega)))))
 have Y9:¬((k:Int)<(b.steps.length:Int)):=YS dq Zb
 exact Z1 (Wz (ax 0 (ar (Zs (Y3 (.i k) (li (by have:=Z34 om Zi;omega)))))))
theorem MJ (b:Z4) (mm:Nat) (op:Int) (hm:mm<=b.steps.length:=by exact ob) (ha:∀s∈b.steps.take mm,s.op=op->∃a,s.args=[a]) (hz:b.sz<=1000000000:=by exact ob):Zf 251 [ZC b,.i mm,.i op] [] (fun r h=>∃(v:Value),r=ZQ (W4 op (b.steps.take mm)) v/\h=[.tail v 1]):=by
 have hbz:=WS b
 refine ZD 35 Tryz.func251 (ar (iA (YI b) fun b1=>Z1 (ar (iL (Z7 []) 0 1 fun v1=>?_))))
 refine Z1 (Y1 (ab 0 (Y0 (fun fz gz m F h=>∃(k:Nat) (acc:LI) (v:Value),(k<=mm)/\(acc.length<=k)/\(acc++W4 op ((b.steps.take mm).drop k)=W4 op (b.steps.take mm))/\F=sF [1,2,3] fz [(7,ZQ acc v),(8,.i k)]/\h=[Za gz 1,.tail v 1]/\m=mm-k) _ _ _ ⟨0,[],v1,ob,ob,(by simp),rfl,rfl,rfl⟩ (wk [1,0] (fr (Yd fl))) ?_)))
 rintro m F h ⟨k,acc,v,Yf,Zi,Zr,rfl,rfl,rfl⟩
 refine X7 (ZT ((k:Int)<(mm:Int)) (fun Z9=>?_) (fun Z9=>?_))
 ·refine ak (aq (ab 1 (Zo 3 [0] ?_)))
  obtain ⟨x1,Z5⟩:=Zq b.steps k om
  have hxt:(b.steps.take mm)[k]? = some x1:=by rw [List.getElem?_take_of_lt om];exact Z5
  have hxm:=ZW hxt
  refine Zm (Zh none (k:Int) 5 (XO Z5)) (YR (x1.op==op) Zz (fun Zg=>?_) (fun Zg=>?_))
  ·refine az (ZU 4 [0] (Zm (Zh none (k:Int) 5 (XO Z5)) (Z2 2 ?_)))
   obtain ⟨x2,Zv⟩:=Zq x1.args 0 (by obtain ⟨a,ha2⟩:=ha x1 hxm Zg;rw [ha2];simp)
   have hg0:=KJ Zv
   exact Zm (Zh none 0 1 (ZZ Zv)) (Z2 1 (iL (Z7 [x2]) 1 1 fun v2=>ZE 0 [(32,Z6 [x2])] (ip 2 (Z7 (acc++[x2])) (Z7 acc) (Z7 [x2]) v none 1 (Yw _) (Yw _) (XT _) (by simp<;>omega) (by simp [XR,Z7]) fun v3=>Z1 (az (Z2 1 (ZG k (Z1 (ZI ⟨k+1,(acc++[x2]),v3,ob,(by simp;omega),(by have h:=Of hxt Zg Zr;rw [hg0] at h;exact h),rfl,rfl,rfl⟩ (wk [2,0] (fr (ZL k fl)))))))))))
  exact ak (az (Z2 1 (ZG k (Z1 (ZI ⟨k+1,acc,v,ob,ob,(Oe hxt Zg Zr),rfl,rfl,rfl⟩ (wk [0,0] (fr (ZL k fl))))))))
 exact ax 0 (ar (Zs (r2 [1] [ZQ acc v] ⟨v,rfl,rfl⟩ (Ze.slh _ (Ys Z7 (Od (by rw [Wr];omega) Zr))))))
theorem MW (xs:LI) (y:Int) (hl:xs.length<=1000000000:=by exact ob):Zf 252 [Z6 xs,.i y] [] (fun r h=>∃(v:Value),r=ZQ (xs.erase y) v/\h=[.tail v 1]):=by
 refine ZD 33 Tryz.func252 (Ya (ar (iL (Z7 []) 0 1 fun v1=>?_)))
 refine Z1 (Ya (Y1 (ab 0 (Y0 (fun fz gz m F h=>∃(k:Nat) (acc:LI) (d:Bool) (v:Value),(k<=xs.length)/\(acc.length<=k)/\(acc++(if d=true then xs.drop k else (xs.drop k).erase y)=xs.erase y)/\F=sF [0,1] fz [(5,ZQ acc v),(6,.b d),(7,.i k)]/\h=[.tail v 1]/\m=xs.length-k) _ _ _ ⟨0,[],false,v1,ob,ob,(by simp),rfl,rfl,rfl⟩ (wk [0] (fw (Yd fl))) ?_))))
 rintro m F h ⟨k,acc,d,v,Yf,Zi,Zr,rfl,rfl,rfl⟩
 refine X4 2 (iw (Ye xs) (ZT ((k:Int)<(xs.length:Int)) (fun Z9=>?_) (fun Z9=>?_)))
 ·refine ak (aq (ab 1 (Yg 2 ?_)))
  obtain ⟨x1,Z5⟩:=Zq xs k om
  refine Zm (Zh none (k:Int) 1 (ZZ Z5)) (XM [0,1,5,6,7] [(24,.b ((x1==y)&&(!d)))] (fun gz=>gz) ?_ ?_)
  ·refine Z2 4 (ib (b:=(x1==y)) 21 (fun Zb=>?_) (fun Zb=>?_))
   ·exact Z1 (wk [0] (ZM (!d) Zb fl))
   exact Z1 (wk [0] (ZM false Zb fl))
  refine Kx (fun fz gz F h=>∃(w:Value),F=sF [0,1,7] fz [(5,ZQ (if (x1=y)/\(¬(d=true)) then acc else (acc++[x1])) w),(6,.b (((x1==y)&&(!d))||d))]/\h=[.tail w 1]) (fun _ _=>rfl) ?_ ?_
  ·refine ac ((x1==y)&&(!d)) (p:=(x1=y)/\(¬(d=true))) (Xv Zz (Xh Iff.rfl)) (fun Zg=>?_) (fun Zg=>?_)
   ·exact UM (ZJ ⟨v,rfl,rfl⟩ (wk [0] (fc (x:=ZQ acc v) (Ze.slh _ (Ys Z7 (by first|rfl|(rw [Zw Zg])|(rw [Zp Zg])|(simp [Zg];done)|(rw [Xc];simp [Zg];done)|omega))) (fc (x:=.b true) (lb (by first|rfl|(rw [Zw Zg])|(rw [Zp Zg])|(simp [Zg];done)|(rw [Xc];simp [Zg];done)|omega)) fl))))
   exact az (Z2 3 (Zm (Zh none (k:Int) 1 (ZZ Z5)) (Z2 1 (iL (Z7 [x1]) 1 1 fun v2=>ZE 0 [(30,Z6 [x1])] (ip 1 (Z7 (acc++[x1])) (Z7 acc) (Z7 [x1]) v none 1 (Yw _) (Yw _) (XT _) (by simp<;>omega) (by simp [XR,Z7]) fun v3=>Z1 (ZJ ⟨v3,rfl,rfl⟩ (wk [0] (fc (x:=ZQ (acc++[x1]) v3) (Ze.slh _ (Ys Z7 (by first|rfl|(rw [Zw Zg])|(rw [Zp Zg])|(simp [Zg];done)|(rw [Xc];simp [Zg];done)|omega))) (fc (x:=.b d) (lb (by cases d<;>simp_all)) fl)))))))))
  rintro F h ⟨w,rfl,rfl⟩
  exact az (Z2 1 (ZG k (Z1 (ZI ⟨k+1,(if (x1=y)/\(¬(d=true)) then acc else (acc++[x1])),(((x1==y)&&(!d))||d),w,ob,(by split<;>(try simp)<;>omega),(PQ Z5 Zr),rfl,rfl,rfl⟩ (wk [0] (fw (ZL k fl)))))))
 exact ax 0 (ar (Zs (r2 [0] [ZQ acc v] ⟨v,rfl,rfl⟩ (Ze.slh _ (Ys Z7 (PP om Zr))))))
theorem Z48 (b:Z4) (x:Int) (fs:LI) (q:Nat) (ha:∀s∈b.steps,YP s.op=true->∃a,s.args=[a]) (hf:fs.length<=3:=by exact ob) (hq:q<=1000000000:=by exact ob) (hz:b.sz<=900000000:=by exact ob):Zf 198 [ZC b,.i x,Z6 fs,.i q] [] (Yt (ZC (Qt b x fs q))):=by
 have hbz:=WS b
 have hrl:=DL b.steps
 have hal:=Eu (b.steps.take (Xy b.steps))
 rw [Wr] at hal
 have her:=List.length_erase_le (a:=x) (l:=W4 15 (b.steps.take (Xy b.steps)))
 have har:∀op:Int,YP op=true->∀s∈b.steps.take (Xy b.steps),s.op=op->∃a,s.args=[a]:=fun op ho s hs e=>ha s (Ts hs) (by rw [e];exact ho)
 refine ZD 88 Tryz.func198 (ar (iA (YI b) fun b1=>iA [nl,.i 0] fun b2=>ie (Zo 1 [1] (Zu [] (Z4f b) (Z1 (Zo 2 [1] (ic [] (MJ b (Xy b.steps) 14 (ha:=(har _ rfl))) ?_)))))))
 rintro _ _ ⟨v1,rfl,rfl⟩
 refine Z1 (Zo 2 [2] (ic [] (MJ b (Xy b.steps) 15 (ha:=(har _ rfl))) ?_))
 rintro _ _ ⟨v2,rfl,rfl⟩
 refine Z1 (X7 (ZE 2 [(22,Z6 (W4 15 (b.steps.take (Xy b.steps))))] (Zu [] (VL (W4 15 (b.steps.take (Xy b.steps))) x) (XM [1,2,3,4,8,9,10,11] [(30,.b ((!(decide (x∈(W4 15 (b.steps.take (Xy b.steps))))))||((fs.length:Int)==0)))] (fun gz=>gz) ?_ ?_))))
 ·refine Z2 2 (ib (b:=(!(decide (x∈(W4 15 (b.steps.take (Xy b.steps))))))) 26 (fun Zb=>?_) (fun Zb=>?_))
  ·exact Z1 (ZV 4 (ZM true Zb fl))
  exact Z2 1 (iw (Ye fs) (Z1 (ZV 4 (ZM ((fs.length:Int)==0) Zb fl))))
 refine ac ((!(decide (x∈(W4 15 (b.steps.take (Xy b.steps))))))||((fs.length:Int)==0)) (p:=(¬(x∈(W4 15 (b.steps.take (Xy b.steps)))))∨((fs.length:Int)=0)) (Xo (Xh dq) Zz) (fun Z9=>?_) (fun Z9=>?_)
 ·exact Zo 1 [3] (ZA 2 b2 (YI b) (ie (ZK (r3 [] [ZC b] [0] [(b2,b2)] ⟨rfl,rfl⟩ (Ze.agg (.cons (Ze.sl _ (Ys Zj (O4 (fun z=>Z9.elim (fun e=>e z.1) (fun e=>z.2 om))).symm)) (.cons li .nil)))))))
 refine ak (ar (ZE 2 [(32,Z6 (W4 15 (b.steps.take (Xy b.steps))))] (ic [] (MW (W4 15 (b.steps.take (Xy b.steps))) x) ?_)))
 rintro _ _ ⟨v3,rfl,rfl⟩
 refine Z1 (Y1 (ab 0 (Y0 (fun fz gz m F h=>∃(k:Nat) (D:LI) (R:LI) (v:Value),(k<=fs.length)/\(D.length<=b.steps.length)/\(R.length<=b.steps.length+k)/\(VU (fs.drop k) (q+k) D R=KX b.steps x fs q)/\F=sF [1,2,3,4,8,9] fz [(10,Z6 D),(11,ZQ R v),(12,.i k)]/\h=[Za gz 3,Za gz 4,.tail v 1]/\m=fs.length-k) _ _ _ ⟨0,(W4 14 (b.steps.take (Xy b.steps))),((W4 15 (b.steps.take (Xy b.steps))).erase x),v3,ob,om,om,(by simp [KX]),rfl,rfl,rfl⟩ (wk [3,3,0] (fc (x:=ZQ (W4 14 (b.steps.take (Xy b.steps))) v1) (Ze.forget _ _) (fr (Yd fl)))) ?_)))
 rintro m F h ⟨k,D,R,v,Yf,Zi,Zr,YA,rfl,rfl,rfl⟩
 refine X4 2 (iw (Ye fs) (ZT ((k:Int)<(fs.length:Int)) (fun Zg=>?_) (fun Zg=>?_)))
 ·refine ak (aq (ab 1 (Yg 2 ?_)))
  obtain ⟨x1,Z5⟩:=Zq fs k om
  refine Zm (Zh none (k:Int) 1 (ZZ Z5)) (XM [1,2,3,4,8,9,10,11,12] [(52,.b ((x1 != 0)&&(decide (((q+k:Nat):Int)∈D))))] (fun gz=>gz) ?_ ?_)
  ·refine Z2 3 (ib (b:=(x1 != 0)) 46 (fun ZP=>?_) (fun ZP=>?_))
   ·exact Z2 3 (ia (((q+k:Nat):Int)) (((q:Int))+((k:Int))) (Zu [] (VL D ((q+k:Nat):Int)) (Z1 (ZV 3 (ZM (decide (((q+k:Nat):Int)∈D)) ZP fl)))))
   exact Z1 (ZV 3 (ZM false ZP fl))
  refine Kx (fun fz gz F h=>∃(D2:LI) (R2:LI) (w:Value),(VU (fs.drop (k+1)) (q+((k+1:Nat):Int)) D2 R2=KX b.steps x fs q)/\(D2.length<=b.steps.length)/\(R2.length<=b.steps.length+(k+1))/\F=sF [1,2,3,4,8,9,12] fz [(10,Z6 D2),(11,ZQ R2 w)]/\h=[Za gz 0,Za gz 1,.tail w 1]) (fun _ _=>rfl) ?_ ?_
  ·refine ac ((x1 != 0)&&(decide (((q+k:Nat):Int)∈D))) (p:=(x1≠0)/\(((q+k:Nat):Int)∈D)) (Xv Xd dq) (fun ZF=>?_) (fun ZF=>?_)
   ·refine az (Z2 3 (ia (((q+k:Nat):Int)) (((q:Int))+((k:Int))) (ic [] (MW D ((q+k:Nat):Int)) ?_)))
    rintro _ _ ⟨v4,rfl,rfl⟩
    exact Z1 (ZJ ⟨(D.erase ((q+k:Nat):Int)),R,v,(Z1z Z5 ZF.1 ZF.2 YA),(WK List.length_erase_le Zi),ob,rfl,rfl⟩ (wk [1,1,1] fl))
   refine Yg 2 (Zm (Zh none (k:Int) 1 (ZZ Z5)) (YR (x1 != 0) Xd (fun Yq=>?_) (fun Yq=>?_)))
   ·exact az (Z2 3 (ia (((q+k:Nat):Int)) (((q:Int))+((k:Int))) (iL (Z7 [((q+k:Nat):Int)]) 1 1 fun v5=>ZE 0 [(67,Z6 [((q+k:Nat):Int)])] (ip 3 (Z7 (R++[((q+k:Nat):Int)])) (Z7 R) (Z7 [((q+k:Nat):Int)]) v none 1 (Yw _) (Yw _) (XT _) (by simp<;>omega) (by simp [XR,Z7]) fun v6=>Z1 (ZJ ⟨D,(R++[((q+k:Nat):Int)]),v6,(Z20 Z5 Yq (fun z=>ZF ⟨Yq,z⟩) YA),ob,(by simp;omega),rfl,rfl⟩ (wk [2,2,0] fl))))))
   exact ak (ZJ ⟨D,R,v,(Z21 Z5 Yq YA),ob,ob,rfl,rfl⟩ (ZV 3 fl))
  rintro F h ⟨D2,R2,w,BW,BX,Z04,rfl,rfl⟩
  exact az (Z2 1 (ZG k (Z1 (ZI ⟨k+1,D2,R2,w,ob,ob,ob,ob,rfl,rfl,rfl⟩ (ZV 3 (fw (ZL k fl)))))))
 refine ax 0 (Yg 1 (ic [] (Q1 14 D) ?_))
 rintro _ _ ⟨v7,rfl,rfl⟩
 refine Z2 1 (Zu [] (Kc 16 x) (iL [Ym (Zl 16 x)] 1 5 fun v8=>ZE 0 [(73,.sl [Ym (Zl 16 x)] none)] (ip 1 (Zj ((D.map (Zl 14))++[Zl 16 x])) (Zj (D.map (Zl 14))) [Ym (Zl 16 x)] v7 none 5 (X1 _) (Ti rfl) rfl (by simp<;>omega) (by simp [Wj,WO]) fun v9=>Z1 (ar (ZE 2 [(76,Z6 R)] (ic [] (Q1 15 R) ?_))))))
 rintro _ _ ⟨v10,rfl,rfl⟩
 refine ZE 0 [(77,Wp (R.map (Zl 15)))] (ip 1 (Zj (((D.map (Zl 14))++[Zl 16 x])++(R.map (Zl 15)))) (Zj ((D.map (Zl 14))++[Zl 16 x])) (Zj (R.map (Zl 15))) v9 none 5 (X1 _) (X1 _) (V4 _) (by simp<;>omega) (by simp [Wj,Zj]) fun v11=>Z1 (aD 10 (ZH 6 10 [0,1,2,3] [4] (dx 4 (Ke (es:=Zj b.steps) (hv:=none) (l:=(((Xy b.steps):Nat):Int)) (m:=(((Zj b.steps).length:Nat):Int)) (sz:=5) (es':=Zj (b.steps.drop (Xy b.steps))) kr om (by simp<;>omega) (by simp<;>omega) (X1 _) (by first|(simp only [VV,Va,Tb,Ta];done)|(simp only [VV,Va,Tb,Ta];rfl)|(simp [Tb,Ta];done))) (ZH 3 5 [6,7] [4] (Z8 5 (dp 5 0 [1] [b1] (Zj ((((D.map (Zl 14))++[Zl 16 x])++(R.map (Zl 15)))++(b.steps.drop (Xy b.steps)))) (Zj (((D.map (Zl 14))++[Zl 16 x])++(R.map (Zl 15)))) (Zj (b.steps.drop (Xy b.steps))) v11 none 5 (X1 _) (X1 _) (V4 _) (by simp<;>omega) (by simp [Wj,Zj]) fun v12=>Zk 1 2 [8] (Z8 9 (Yy 9 3 [] [] b2 [YG ((((D.map (Zl 14))++[Zl 16 x])++(R.map (Zl 15)))++(b.steps.drop (Xy b.steps))) v12,.i b.result] (de ?_))))))))))
 have hE:=O6 (Cu.1 fun z=>Z9 (.inl z)) (fun z=>Z9 (.inr om)) (Z1y om YA)
 exact ZK (r3 [] [.agg [YG ((((D.map (Zl 14))++[Zl 16 x])++(R.map (Zl 15)))++(b.steps.drop (Xy b.steps))) v12,.i b.result]] [0] [(b2,b2)] ⟨rfl,rfl⟩ (Ze.agg (.cons (Ze.sl _ (Ys Zj hE)) (.cons li .nil))))
theorem Z4j (n:Zx) (b:Z4) (mm:Nat) (hn:Xk n) (hw:wB n.decls b) (hb:mm+9*b.sz<=900000000) (ih:∀(b2:Z4) (m2:Nat),(wB n.decls b2)->(m2+9*b2.sz<=900000000)->(b2.sz<b.sz)->Zf 151 [Yl n,ZC b2,.i m2] [] (Yt (ZC (Wq n.decls m2 b2)))):Zf 151 [Yl n,ZC b,.i mm] [] (Yt (ZC (Wq n.decls mm b))):=by
 have XD:=hn.decls
 have hbz:=WS b
 have Zt:=(Qr b).1 hw
 refine ZD 107 Tryz.func151 (ar (iA (YN n) fun b1=>iA (YI b) fun b2=>iA [nl,.i 0] fun b3=>ie (ar (iL (Zj []) 0 5 fun v1=>ZU 3 [2] (iA [nl,.i 0] fun b4=>?_)))))
 refine ZA 0 b4 [YG [] v1,.i b.result] (ie (Y1 (ab 0 (Y0 (fun fz gz m F h=>∃(k:Nat) (q:Nat) (xs:List Z3) (v:Value),(k<=b.steps.length)/\(q<=mm+k)/\(xs.length=k)/\(xs++Vy n.decls q (b.steps.drop k)=Vy n.decls mm b.steps)/\F=sF [3,4,6,7] fz [(2,.i q),(8,.i k)]/\h=[.obj b4 [YG xs v,.i b.result],Za gz 2,Za gz 3,Za gz 4,.tail v 5]/\m=b.steps.length-k) _ _ _ ⟨0,mm,[],v1,ob,ob,ob,rfl,rfl,rfl,rfl⟩ (wk [0,1,1,1,0] (fr (Yd fl))) ?_))))
 rintro m F h ⟨k,q,xs,v,Yf,Zi,Zr,YA,rfl,rfl,rfl⟩
 refine Y6 3 [2] (iw (W8 b.steps) (ZT ((k:Int)<(b.steps.length:Int)) (fun Z9=>?_) (fun Z9=>?_)))
 ·refine ak (aq (ab 1 (Zo 3 [2] ?_)))
  obtain ⟨x1,Z5⟩:=Zq b.steps k om
  have X6:=Bm Z5
  have hws:=Ny hw Z5
  have hkz:=U8 x1
  have haz:=T9 x1
  have hdf:=Z6i hws
  refine Zm (Zh none (k:Int) 5 (XO Z5)) (Z2 1 (iA [.i 0,.i 0,.i 0,nl,nl] fun b5=>ZA 0 b5 (Xf x1) (ie (ar (iL (Yu []) 0 2 fun v2=>Z1 (Zo 4 [5,1] (ic [] (Kb n.decls x1.num) ?_)))))))
  rintro _ _ ⟨v3,rfl,rfl⟩
  refine Z1 (Y1 (ab 2 (Y0 (fun fz gz m F h=>∃(j:Nat) (u:Value) (ks:List Z4),(j<=x1.kids.length)/\(ks.length=j)/\(ks++Ua n.decls q x1.op x1.num x1.args (x1.kids.drop j) j=Ua n.decls q x1.op x1.num x1.args x1.kids 0)/\F=sF [2,3,4,6,7,8,9,11] fz [(10,U9 ks u),(12,.i j)]/\h=[Za gz 2,Za gz 3,Za gz 4,Za gz 5,Za gz 6,.tail u 2,Za gz 7,Za gz 0]/\m=x1.kids.length-j) _ _ _ ⟨0,v2,[],ob,ob,(by simp),rfl,rfl,rfl⟩ (wk [2,2,2,2,2,1,1,0] (fr (Yd fl))) ?_)))
  rintro m F h ⟨j,u,ks,VZ,Wi,Xs,rfl,rfl,rfl⟩
  refine Y6 3 [0] (iw (Vk x1.kids) (ZT ((j:Int)<(x1.kids.length:Int)) (fun Zg=>?_) (fun Zg=>?_)))
  ·refine ak (aq (ab 3 (A7 [0] (ac (x1.op==8) Zz (fun ZF=>?_) (fun ZF=>?_)))))
   ·refine aD 8 (ZH 4 8 [0,1,2,3] [4] ?_)
    obtain ⟨x2,Zv⟩:=Zq (Y2 n.decls x1.num) j (by have h:=(Cs hws (by assumption)).2;omega)
    have hfk:VR n.decls x1.num j=Y4 n.decls x2:=HV (by rw [QL,Zv];rfl)
    have hcf:=VD XD x2
    refine dx 4 (Zh (some v3) (j:Int) 1 (ZZ Zv)) (Zk 2 3 [5] (Z8 6 (Yp 6 [] [] [] (Q0 n.decls x2) (Zk 0 1 [7] (de (aE 22 (ZH 17 22 [0,1,2,3,4] [4,0] ?_)))))))
    obtain ⟨x3,X3⟩:=Zq x1.kids j om
    have hkb:=X3
    have hks:=VS X3
    have hwk:=GQ hws X3
    have hpk:=Z4.pz_le x3
    refine dx 5 (Zh none (j:Int) 2 (Vv X3)) (Zk 13 16 [6,7,8] (dn 9 (.i (((Y4 n.decls x2).length:Nat):Int)) (.i (((Z7 (Y4 n.decls x2)).length:Nat):Int)) (li (by rw [Ye])) (da 10 (((q+((Y4 n.decls x2).length):Nat):Int)) (((q:Int))+((((Y4 n.decls x2).length:Nat):Int))) (ZH 9 11 [12,13] [0] ?_))))
    obtain ⟨x4,Te⟩:=Zq x1.args 0 (by obtain ⟨⟨a,ha2,_⟩,_⟩:=Cs hws (by assumption);rw [ha2];simp)
    have hg1:=KJ Te
    exact dx 14 (Zh none 0 1 (ZZ Te)) (Zk 5 8 [15,16,17] (Z8 11 (Yp 11 [] [0] [b5] (ih x3 (q+((Y4 n.decls x2).length)) hwk ob ob) (Z8 18 (Yp 18 [] [] [] (Z48 (Wq n.decls (q+((Y4 n.decls x2).length)) x3) x4 (Y4 n.decls x2) q (ha:=(by rw [DT];exact Z3r ((Qr _).1 hwk))) (hz:=(WK (DU XD _ hwk) om))) (Z8 19 (dL 19 [] [] [ZC (Qt (Wq n.decls (q+((Y4 n.decls x2).length)) x3) x4 (Y4 n.decls x2) q)] 1 2 fun v4=>Yh 2 2 [] [(72,.sl [ZC (Qt (Wq n.decls (q+((Y4 n.decls x2).length)) x3) x4 (Y4 n.decls x2) q)] none)] (Z8 20 (dp 20 6 [] [] (Yu (ks++[Qt (Wq n.decls (q+((Y4 n.decls x2).length)) x3) x4 (Y4 n.decls x2) q])) (Yu ks) [ZC (Qt (Wq n.decls (q+((Y4 n.decls x2).length)) x3) x4 (Y4 n.decls x2) q)] u none 2 (Uy _) (Ti rfl) rfl (by simp<;>omega) (by simp [KD,U0]) fun v5=>Zk 0 1 [21] (de (az (Z2 1 (ZG j (Z1 (ZI ⟨j+1,v5,(ks++[Qt (Wq n.decls (q+((Y4 n.decls x2).length)) x3) x4 (Y4 n.decls x2) q]),ob,(by simp;omega),(by have h:=MC hkb Xs;rw [DV,Zw (by assumption),hfk,hg1] at h;exact h),rfl,rfl,rfl⟩ (wk [2,2,2,2,2,0,1,1] (fr (ZL j fl))))))))))))))))))
   refine aE 12 (ZH 7 12 [0,1,2,3,4] [4,0] ?_)
   obtain ⟨x5,UV⟩:=Zq x1.kids j om
   have hkb:=UV
   have hks:=VS UV
   have hwk:=GQ hws UV
   have hpk:=Z4.pz_le x5
   exact dx 5 (Zh none (j:Int) 2 (Vv UV)) (Zk 4 6 [6,7] (Z8 8 (Yp 8 [] [] [] (ih x5 q hwk ob ob) (Z8 9 (dL 9 [] [] [ZC (Wq n.decls q x5)] 1 2 fun v6=>Yh 2 2 [] [(83,.sl [ZC (Wq n.decls q x5)] none)] (Z8 10 (dp 10 6 [] [] (Yu (ks++[Wq n.decls q x5])) (Yu ks) [ZC (Wq n.decls q x5)] u none 2 (Uy _) (Ti rfl) rfl (by simp<;>omega) (by simp [KD,U0]) fun v7=>Zk 0 1 [11] (de (az (Z2 1 (ZG j (Z1 (ZI ⟨j+1,v7,(ks++[Wq n.decls q x5]),ob,(by simp;omega),(by have h:=MC hkb Xs;rw [DV,Zp (by assumption)] at h;exact h),rfl,rfl,rfl⟩ (wk [2,2,2,2,2,0,1,1] (fr (ZL j fl))))))))))))))))
  have hK:=Z3p om Xs
  refine ax 2 (aD 17 (ZH 6 17 [0,1,2,3,4,5,6,7,8,9,11] [1,0,0,0,0] (Z8 10 (dc 10 [] [0,0,0,1] [b5,b5,b5,b4] (Vr x1.args) ?_))))
  rintro _ _ ⟨v8,rfl,rfl⟩
  refine Yh 4 5 [12] [(97,.agg [.i x1.op,.i x1.num,.i x1.into,Z6 x1.args,XG ks])] (Z8 13 (dL 13 [1] [b4] [Ym (Z3.mk x1.op x1.num x1.into x1.args ks)] 1 5 fun v9=>Yh 3 3 [] [(98,.sl [Ym (Z3.mk x1.op x1.num x1.into x1.args ks)] none)] (Z8 14 (dp 14 8 [] [] (Zj (xs++[Z3.mk x1.op x1.num x1.into x1.args ks])) (Zj xs) [Ym (Z3.mk x1.op x1.num x1.into x1.args ks)] v none 5 (X1 _) (Ti rfl) rfl (by simp<;>omega) (by simp [Wj,WO]) fun v10=>?_))))
  refine Zk 1 2 [15] (Z8 16 (Yy 16 4 [] [] b4 [YG (xs++[Z3.mk x1.op x1.num x1.into x1.args ks]) v10,.i b.result] (de (Zo 2 [4] (Zu [] (Qp x1.op) (ie (Kx (fun fz gz F h=>F=sF [3,4,6,7,8] fz [(2,.i (((if YP x1.op=true then q else q+1):Nat):Int))]/\h=[Za gz 0,Za gz 5,Za gz 6,Za gz 7,Za gz 1]) (fun _ _=>rfl) ?_ ?_)))))))
  ·refine ac (XF x1.op) Iff.rfl (fun Yq=>?_) (fun Yq=>?_)
   ·exact az (Z2 1 (ZG q (Z1 (ZJ ⟨rfl,rfl⟩ (wk [0,4,4,4,0] (fc (x:=.i (q+1:Nat)) (li (by rw [Zp (fun z=>by rw [hdf,z] at Yq;cases Yq)])) fl))))))
   exact ak (ZJ ⟨rfl,rfl⟩ (wk [0,4,4,4,0] (fc (x:=.i q) (li (by rw [Zw (GT fun z=>Yq (by rw [hdf,Ct.2 z];rfl))])) fl)))
  rintro F h ⟨rfl,rfl⟩
  exact az (Z2 1 (ZG k (Z1 (ZI ⟨k+1,(if YP x1.op=true then q else q+1),(xs++[Z3.mk x1.op x1.num x1.into x1.args ks]),v10,ob,(by split<;>omega),(by simp;omega),(by have h:=Z3t Z5 YA;rw [<-hK] at h;exact h),rfl,rfl,rfl⟩ (ZV 5 (fr (ZL k fl)))))))
 exact ax 0 (Zo 1 [0] (ZA 1 b3 [YG xs v,.i b.result] (ie (ZK (r3 [] [.agg [YG xs v,.i b.result]] [0] [(b3,b3)] ⟨rfl,rfl⟩ (Ze.agg (.cons (Ze.sl _ (Ys Zj (by rw [DT];exact Z3s om YA))) (.cons (li (by rw [DT];rfl)) .nil))))))))
theorem Z4h (n:Zx) (hn:Xk n) (k:Nat):∀(b2:Z4) (m2:Nat),(wB n.decls b2)->(m2+9*b2.sz<=900000000)->(b2.sz<k)->Zf 151 [Yl n,ZC b2,.i m2] [] (Yt (ZC (Wq n.decls m2 b2))):=by
 induction k with
 | zero=>intro b mm _ _ h;omega
 | succ k ih=>intro b mm h1 h2 h3;exact Z4j n b mm hn h1 h2 fun b2 m2 k1 k2 k3=>ih b2 m2 k1 k2 om
theorem Z4i (n:Zx) (b:Z4) (mm:Nat) (hn:Xk n:=by exact ob) (hw:wB n.decls b:=by exact ob) (hb:mm+9*b.sz<=900000000:=by exact ob):Zf 151 [Yl n,ZC b,.i mm] [] (Yt (ZC (Wq n.decls mm b))):=Z4h n hn (b.sz+1) b mm hw hb om
theorem Gs (b:Z4) (hz:b.sz<=1000000000:=by exact ob):Zf 254 [ZC b] [] (Yt (.i (((YC b.steps):Nat):Int))):=by
 have hbz:=WS b
 refine ZD 21 Tryz.func254 (ar (iA (YI b) fun b1=>?_))
 refine Z1 (Ya (aq (ab 0 (Y0 (fun fz gz m F h=>∃(k:Nat),(k<=b.steps.length)/\(k+YC (b.steps.drop k)=YC b.steps)/\F=sF [1] fz [(3,.i k)]/\h=gz/\m=b.steps.length-k) _ _ _ ⟨0,ob,(by simp),rfl,rfl,rfl⟩ (wk [0] (Yd fl)) ?_))))
 rintro m F h ⟨k,Yf,Zi,rfl,rfl,rfl⟩
 refine Y6 3 [0] (iw (W8 b.steps) (Z2 2 (ib (b:=(decide ((k:Int)<(b.steps.length:Int)))) 9 (fun Zb=>?_) (fun Zb=>?_))))
 ·have ZX:(k:Int)<(b.steps.length:Int):=(dq).1 Zb
  refine ZU 3 [0] ?_
  obtain ⟨x1,Z5⟩:=Zq b.steps k om
  refine Zm (Zh none (k:Int) 5 (XO Z5)) (Z2 2 (Zu [] (Gr x1.op) (YR (YP x1.op) Iff.rfl (fun Z9=>?_) (fun Z9=>?_))))
  ·exact ak (ab 1 (az (Z2 1 (ZG k (Z1 (ZI ⟨k+1,ob,(Z0o Z5 Z9 Zi),rfl,rfl,rfl⟩ (wk [0] (ZL k fl))))))))
  exact ax 0 (ar (Zs (Y3 (.i k) (li (by have:=Z0p Z5 Z9 Zi;omega)))))
 have Y9:¬((k:Int)<(b.steps.length:Int)):=YS dq Zb
 exact Z1 (Wz (ax 0 (ar (Zs (Y3 (.i k) (li (by have:=Z0n om Zi;omega)))))))
theorem MS (b:Z4) (mm:Nat) (op:Int) (x:Int) (hm:mm<=b.steps.length:=by exact ob) (ha:∀s∈b.steps.take mm,s.op=op->∃a,s.args=[a]) (hz:b.sz<=1000000000:=by exact ob):Zf 255 [ZC b,.i mm,.i op,.i x] [] (Yt (.i (XK op x (b.steps.take mm) 0))):=by
 have hbz:=WS b
 refine ZD 36 Tryz.func255 (ar (iA (YI b) fun b1=>?_))
 refine Z1 (Y1 (ab 0 (Y0 (fun fz gz m F h=>∃(k:Nat),(k<=mm)/\(XK op x ((b.steps.take mm).drop k) k=XK op x (b.steps.take mm) 0)/\F=sF [1,2,3,4] fz [(9,.i k)]/\h=gz/\m=mm-k) _ _ _ ⟨0,ob,(by simp),rfl,rfl,rfl⟩ (wk [0] (Yd fl)) ?_)))
 rintro m F h ⟨k,Yf,Zi,rfl,rfl,rfl⟩
 refine X7 (ZT ((k:Int)<(mm:Int)) (fun Z9=>?_) (fun Z9=>?_))
 ·refine ak (aq (ab 1 (Zo 3 [0] ?_)))
  obtain ⟨x1,Z5⟩:=Zq b.steps k om
  have hxt:(b.steps.take mm)[k]? = some x1:=by rw [List.getElem?_take_of_lt om];exact Z5
  have hxm:=ZW hxt
  refine Zm (Zh none (k:Int) 5 (XO Z5)) (Z2 5 (ib (b:=(x1.op==op)) 23 (fun Zb=>?_) (fun Zb=>?_)))
  ·have ZX:x1.op=op:=(Zz).1 Zb
   refine ZU 3 [0] (Zm (Zh none (k:Int) 5 (XO Z5)) (Z2 2 ?_))
   obtain ⟨x2,Zv⟩:=Zq x1.args 0 (by obtain ⟨a,ha2⟩:=ha x1 hxm (by assumption);rw [ha2];simp)
   have hg0:=KJ Zv
   refine Zm (Zh none 0 1 (ZZ Zv)) (YR (x2==x) Zz (fun Zg=>?_) (fun Zg=>?_))
   ·exact ar (Zs (Y3 (.i k) (li (by have h:=Ol hxt ⟨by assumption,by rw [hg0];assumption⟩ Zi;omega))))
   exact ak (az (Z2 1 (ZG k (Z1 (ZI ⟨k+1,ob,(H9 hxt (fun z=>Zg (by rw [<-hg0];exact z.2)) Zi),rfl,rfl,rfl⟩ (wk [0] (ZL k fl)))))))
  have Y9:¬(x1.op=op):=YS Zz Zb
  exact Z1 (Wz (ak (az (Z2 1 (ZG k (Z1 (ZI ⟨k+1,ob,(H9 hxt (fun z=>absurd z.1 (by assumption)) Zi),rfl,rfl,rfl⟩ (wk [0] (ZL k fl)))))))))
 exact ax 0 (ar (Zs (Y3 (.i (-1)) (li (by have h:=Ok (by rw [Wr];omega) Zi;omega)))))
theorem Z40 (b:Z4) (frm0:Nat) (many:Nat) (hm:frm0<=b.steps.length:=by exact ob) (hz:b.sz<=1000000000:=by exact ob):Zf 285 [ZC b,.i frm0,.i many] [] (Yt (.i (W0 many (b.steps.drop frm0) frm0))):=by
 have hbz:=WS b
 refine ZD 44 Tryz.func285 (ar (iA (YI b) fun b1=>?_))
 refine Z1 (Y1 (ab 0 (Y0 (fun fz gz m F h=>∃(k:Nat),(k<=b.steps.length)/\(W0 many (b.steps.drop k) k=W0 many (b.steps.drop frm0) frm0)/\F=sF [2,3] fz [(7,.i k)]/\h=gz/\m=b.steps.length-k) _ _ _ ⟨frm0,ob,rfl,rfl,rfl,rfl⟩ (wk [0] fl) ?_)))
 rintro m F h ⟨k,Yf,Zi,rfl,rfl,rfl⟩
 refine Y6 3 [0] (iw (W8 b.steps) (ZT ((k:Int)<(b.steps.length:Int)) (fun Z9=>?_) (fun Z9=>?_)))
 ·refine ak (aq (ab 1 (Zo 3 [0] ?_)))
  obtain ⟨x1,Z5⟩:=Zq b.steps k om
  refine Zm (Zh none (k:Int) 5 (XO Z5)) (WQ 16 [2,3,7] [(31,.b ((x1.op==6)&&(x1.into==0)))] (fun gz=>gz) ?_ (fun hj1=>?_))
  ·refine XM [2,3,7] [(42,.b (((x1.op==6)&&(x1.into==0))&&((x1.args.length:Int)==(many:Int))))] (fun gz=>gz) ?_ ?_
   ·refine Z2 1 (ib (b:=((x1.op==6)&&(x1.into==0))) 32 (fun Zb=>?_) (fun Zb=>?_))
    ·exact ZU 3 [0] (Zm (Zh none (k:Int) 5 (XO Z5)) (Z2 2 (iw (Ye x1.args) (Z1 (wk [0] (ZM ((x1.args.length:Int)==(many:Int)) Zb fl))))))
    exact Z1 (wk [0] (ZM false Zb fl))
   refine ac (((x1.op==6)&&(x1.into==0))&&((x1.args.length:Int)==(many:Int))) (p:=((x1.op=6)/\(x1.into=0))/\((x1.args.length:Int)=(many:Int))) (Xv (Xv Zz Zz) Zz) (fun Zg=>?_) (fun Zg=>?_)
   ·exact ar (Zs (Y3 (.i k) (li (by have h:=P2 Z5 (show TS many x1 from ⟨Zg.1,by omega⟩) Zi;omega))))
   exact ak (az (Z2 1 (ZG k (Z1 (ZI ⟨k+1,ob,(P1 Z5 (fun z=>Zg ⟨z.1,by have:=z.2;omega⟩) Zi),rfl,rfl,rfl⟩ (wk [0] (ZL k fl)))))))
  refine Z2 4 (ib (b:=(x1.op==6)) 23 (fun ZP=>?_) (fun ZP=>?_))
  ·exact ZU 3 [0] (Zm (Zh none (k:Int) 5 (XO Z5)) (Z2 4 (Xm (wk [0] (ZM (x1.into==0) ZP fl)) hj1)))
  exact Z2 8 (Xm (wk [0] (ZM false ZP fl)) hj1)
 exact ax 0 (ar (Zs (Y3 (.i (-1)) (li (by have h:=P0 om Zi;omega)))))
theorem P8 (b:Z4) (hz:b.sz<=1000000000):Zf 97 [ZC b] [] (fun r h=>∃(v:Hd),r=.agg [.h v,.i b.result]/\h=[rK v 5 (Zc (Zj b.steps))]):=by
 have hbz:=WS b
 refine ZD 28 Tryz.func97 (ar (iA (YI b) fun b1=>iA [nl,.i 0] fun b2=>ie (ar (Di 5 fun g1=>ZU 3 [2] (iA [nl,.i 0] fun b3=>?_)))))
 refine ZA 0 b3 [.ms g1 0 0 0,.i b.result] (ie (Y1 (ab 0 (Y0 (fun fz gz m F h=>∃(k:Nat) (v:Hd),(k<=b.steps.length)/\F=sF [1,2,3] fz [(4,.i k)]/\h=[.obj b3 [.h v,.i b.result],Za gz 2,Za gz 3,rK v 5 (Zc (Zj (b.steps.take k)))]/\m=b.steps.length-k) _ _ _ ⟨0,(⟨some ⟨g1,0,none⟩,0,0⟩:Hd),ob,rfl,rfl,rfl⟩ (wk [0,1,1,0] (Yd fl) (e:=(rc (rc (rc (rr (ls:=[]) ob rz)))))) ?_))))
 rintro m F h ⟨k,v,Yf,rfl,rfl,rfl⟩
 refine Y6 3 [2] (iw (W8 b.steps) (ZT ((k:Int)<(b.steps.length:Int)) (fun Z9=>?_) (fun Z9=>?_)))
 ·refine ak (aq (ab 1 (aE 12 (ZH 7 12 [0,1,2,3,4] [0,2] ?_))))
  obtain ⟨x1,Z5⟩:=Zq b.steps k om
  have hss:=UZ Z5
  exact dx 5 (Zh none (k:Int) 5 (XO Z5)) (Zk 5 6 [6] (Z8 7 (Yp 7 [] [0] [b3] (MN x1) (Z8 8 (dL 8 [0] [b3] [Ym x1] 1 5 fun v1=>Yh 3 3 [] [(24,.sl [Ym x1] none)] (Z8 9 (EG 9 4 k [] [] v 5 (Zc (Zj (b.steps.take k))) [Ym x1] none (by rw [Tz,Wr,Vb om]) (Ti rfl) rfl (List.cons_ne_nil _ _) (by simp<;>omega) fun v2=>Zk 1 2 [10] (Z8 11 (Yy 11 2 [] [] b3 [.h v2,.i b.result] (de (az (Z2 1 (ZG k (Z1 (ZI ⟨k+1,v2,ob,rfl,rfl,rfl⟩ (wk [0,2,2,0] (ZL k fl) (e:=(rc (rc (rc (rr (ls:=Zc (Zj (b.steps.take k))++Zc [Ym x1]) (I0 Z5) rz)))))))))))))))))))))
 exact ax 0 (Zo 1 [0] (ZA 1 b2 [.h v,.i b.result] (ie (ZK (r3 [3] [.agg [.h v,.i b.result]] [0] [(b2,b2)] ⟨v,rfl,rfl⟩ (lr _) (eq:=(rr (ls:=Zc (Zj (b.steps.take k))) (by rw [WT om]) rz)))))))
theorem P7 (b:Z4) (hz:b.sz<=1000000000:=by exact ob) (h0:0<b.steps.length:=by exact ob):Zf 97 [ZC b] [] (fun r h=>∃(g:Nat) (c:Nat),r=.agg [.ms g 0 b.steps.length c,.i b.result]/\h=[.row (.slice (some ⟨g,0,none⟩) b.steps.length c) 5 (Zc (Zj b.steps))]):=(P8 b hz).form (T:=fun v=>.agg [.h v,.i b.result]) (m:=b.steps.length) (Tz _) om h0
theorem Z49 (ds:List Zd) (b:Z4) (x:Int) (many:Nat) (hw:wB ds b:=by exact ob) (hx:0<=x/\x<=900000000:=by exact ob) (hz:b.sz<=1000000000:=by exact ob):Zf 253 [ZC b,.i x,.i many] [] (Yt (ZC (V8 b x many))):=by
 have hbz:=WS b
 have Zt:=(Qr b).1 hw
 have hrl:=C1 b.steps
 refine ZD 57 Tryz.func253 (ar (iA (YI b) fun b1=>iA [nl,.i 0] fun b2=>ie (aD 6 (ZH 3 6 [0,1,3] [1,1] (Z8 2 (Yp 2 [] [1] [b1] (Gs b) (Z8 4 (Yp 4 [] [] [] (MS b (YC b.steps) 16 x (ha:=(fun s hs h16=>GW (Ef Zt s (Ts hs) (by rw [h16];rfl))))) (Zk 0 1 [5] (de (aD 6 (ZH 3 6 [0,1,3] [1,1] (Z8 2 (Yp 2 [] [1] [b1] (Gs b) (Z8 4 (Yp 4 [] [] [] (Z40 b (YC b.steps) many) (Zk 0 1 [5] (de (X7 (XM [1,3,6,7,8] [(26,.b ((decide ((XK 16 x (b.steps.take (YC b.steps)) 0)<0))||(decide ((W0 many (b.steps.drop (YC b.steps)) (YC b.steps))<0))))] (fun gz=>gz) ?_ ?_))))))))))))))))))))
 ·refine Z2 3 (ib (b:=(decide ((XK 16 x (b.steps.take (YC b.steps)) 0)<0))) 23 (fun Zb=>?_) (fun Zb=>?_))
  ·exact Z1 (wk [0,0] (ZM true Zb fl))
  exact Z1 (wk [0,0] (ZM (decide ((W0 many (b.steps.drop (YC b.steps)) (YC b.steps))<0)) Zb fl))
 refine ac ((decide ((XK 16 x (b.steps.take (YC b.steps)) 0)<0))||(decide ((W0 many (b.steps.drop (YC b.steps)) (YC b.steps))<0))) (p:=((XK 16 x (b.steps.take (YC b.steps)) 0)<0)∨((W0 many (b.steps.drop (YC b.steps)) (YC b.steps))<0)) (Xo dq dq) (fun Z9=>?_) (fun Z9=>?_)
 ·exact Zo 1 [1] (ZA 0 b2 (YI b) (ie (ZK (r3 [] [ZC b] [0] [(b2,b2)] ⟨rfl,rfl⟩ (Ze.agg (.cons (Ze.sl _ (Ys Zj (Z2i Z9).symm)) (.cons li .nil)))))))
 obtain ⟨o1,o2,so,o3,o4⟩:=Ca (xs:=b.steps) (x:=x) (fun z=>Z9 (.inl z))
 obtain ⟨p1,p2,sc,p3,p4,p5⟩:=Kw (xs:=b.steps) (many:=many) (fun z=>Z9 (.inr z))
 rw [show WH b.steps x=(XK 16 x (b.steps.take (YC b.steps)) 0) from rfl] at o1 o2
 rw [show W7 b.steps many=(W0 many (b.steps.drop (YC b.steps)) (YC b.steps)) from rfl] at p1 p2
 refine ak (Zo 1 [1] (ic [] (P7 b) ?_))
 rintro _ _ ⟨g1,c1,rfl,rfl⟩
 exact iA [nl,.i 0] fun b3=>ZA 0 b3 [.ms g1 0 b.steps.length c1,.i b.result] (ie (aD 7 (ZH 3 7 [0,1,2,3] [0] (Z8 4 (Yp 4 [] [0] [b3] (Kc 17 x) (dx 5 (XS g1 b.steps.length c1 ((XK 16 x (b.steps.take (YC b.steps)) 0).toNat) 5 (XK 16 x (b.steps.take (YC b.steps)) 0)) (Z8 6 (JW 6 1 [] [] g1 b.steps.length c1 5 (((XK 16 x (b.steps.take (YC b.steps)) 0).toNat)*5) (Xf (Zl 17 x)) (Zc (Zj b.steps)) (Zc (Zj (b.steps.set (XK 16 x (b.steps.take (YC b.steps)) 0).toNat (Zl 17 x)))) (by have:(Xf (Zl 17 x)).length=5:=rfl;rw [Tz];omega) (D7 o3) (de (Zo 3 [1] (Zm (XS g1 b.steps.length c1 ((W0 many (b.steps.drop (YC b.steps)) (YC b.steps)).toNat) 5 (W0 many (b.steps.drop (YC b.steps)) (YC b.steps))) (Vn (WD 0 g1 b.steps.length c1 5 (((W0 many (b.steps.drop (YC b.steps)) (YC b.steps)).toNat)*5) (Zc (Zj (b.steps.set (XK 16 x (b.steps.take (YC b.steps)) 0).toNat (Zl 17 x)))) (Xf sc) 52 (Ym sc) (Fa (DH Z9 p3))) (iA [.i 0,.i 0,.i 0,nl,nl] fun b4=>ZA 0 b4 (Xf sc) (ie (Zo 8 [2,0,0] (ia ((1+x)) ((1)+(x)) (ZU 5 [0,0] (Zm (XS g1 b.steps.length c1 ((W0 many (b.steps.drop (YC b.steps)) (YC b.steps)).toNat) 5 (W0 many (b.steps.drop (YC b.steps)) (YC b.steps))) (BU 1 g1 b.steps.length c1 5 (((W0 many (b.steps.drop (YC b.steps)) (YC b.steps)).toNat)*5) [.i sc.op,.i sc.num,.i (1+x),Z6 sc.args,XG sc.kids] (Zc (Zj (b.steps.set (XK 16 x (b.steps.take (YC b.steps)) 0).toNat (Zl 17 x)))) (Zc (Zj ((b.steps.set (XK 16 x (b.steps.take (YC b.steps)) 0).toNat (Zl 17 x)).set (W0 many (b.steps.drop (YC b.steps)) (YC b.steps)).toNat (Tg (1+x) sc)))) (by rw [Tz,Uu];simp only [YD,X8];omega) (D7 (t:=Tg (1+x) sc) (DH Z9 p3)) (Xx (Ud 0 1 0 (.slice (some ⟨g1,0,none⟩) b.steps.length c1) 5 b3 (Zj ((b.steps.set (XK 16 x (b.steps.take (YC b.steps)) 0).toNat (Zl 17 x)).set (W0 many (b.steps.drop (YC b.steps)) (YC b.steps)).toNat (Tg (1+x) sc))) [.ms g1 0 b.steps.length c1,.i b.result] (X1 _) rfl) (ie (Zo 1 [0] (ZA 3 b2 [YG ((b.steps.set (XK 16 x (b.steps.take (YC b.steps)) 0).toNat (Zl 17 x)).set (W0 many (b.steps.drop (YC b.steps)) (YC b.steps)).toNat (Tg (1+x) sc)) (.slice (some ⟨g1,0,none⟩) b.steps.length c1),.i b.result] (ie (ZK (r3 [] [.agg [YG ((b.steps.set (XK 16 x (b.steps.take (YC b.steps)) 0).toNat (Zl 17 x)).set (W0 many (b.steps.drop (YC b.steps)) (YC b.steps)).toNat (Tg (1+x) sc)) (.slice (some ⟨g1,0,none⟩) b.steps.length c1),.i b.result]] [0] [(b2,b2)] ⟨rfl,rfl⟩ (Ze.agg (.cons (Ze.sl _ (Ys Zj (Z2j Z9 p5))) (.cons li .nil)))))))))))))))))))))))))))))
theorem Z46 (xs:LI) (y:Int) (hl:xs.length<=1000000000:=by exact ob):Zf 256 [Z6 xs,.i y] [] (fun r h=>∃(ys:LI),r=Z6 ys/\h=[]/\(ys.length<=xs.length+1/\∀z,z∈ys↔z∈xs∨z=y)):=by
 refine ZD 49 Tryz.func256 (Ya (ar (iL (Z7 []) 0 1 fun v1=>?_)))
 refine Z1 (Ya (Y1 (ab 0 (Y0 (fun fz gz m F h=>∃(k:Nat) (acc:LI) (d:Bool) (v:Value),(k<=xs.length)/\(Q8 xs y k acc d)/\F=sF [0,1] fz [(5,ZQ acc v),(6,.b d),(7,.i k)]/\h=[.tail v 1]/\m=xs.length-k) _ _ _ ⟨0,[],false,v1,ob,(Q8.zero xs y),rfl,rfl,rfl⟩ (wk [0] (fw (Yd fl))) ?_))))
 rintro m F h ⟨k,acc,d,v,Yf,Zi,rfl,rfl,rfl⟩
 refine X4 2 (iw (Ye xs) (ZT ((k:Int)<(xs.length:Int)) (fun Z9=>?_) (fun Z9=>?_)))
 ·obtain ⟨x1,Z5⟩:=Zq xs k om
  have hil:acc.length<=k+1:=WK Zi.len (by split<;>omega)
  refine ak (aq (ab 1 (X7 (XM [0,1,5,6,7] [(24,.b ((!d)&&(decide (x1>=y))))] (fun gz=>gz) ?_ ?_))))
  ·refine Z2 3 (ib (b:=(!d)) 17 (fun Zb=>?_) (fun Zb=>?_))
   ·exact Z2 2 (Zm (Zh none (k:Int) 1 (ZZ Z5)) (Z1 (wk [0] (ZM (decide (x1>=y)) Zb fl))))
   exact Z1 (wk [0] (ZM false Zb fl))
  refine XC (fun fz gz F h=>∃(acc2:LI) (d2:Bool) (w:Value),((acc2=acc/\d2=d)∨(acc2=acc++[y]/\d2=true/\¬d=true)∨(acc2=acc/\d2=true/\x1=y))/\(acc2.length<=acc.length+1)/\F=sF [0,1,7] fz [(5,ZQ acc2 w),(6,.b d2)]/\h=[.tail w 1]) ?_ ?_
  ·refine ac ((!d)&&(decide (x1>=y))) (p:=(¬(d=true))/\(x1>=y)) (Xv (Xh Iff.rfl) dq) (fun Zg=>?_) (fun Zg=>?_)
   ·refine X4 2 (Zm (Zh none (k:Int) 1 (ZZ Z5)) (Z1 (XC (fun fz gz F h=>∃(w3:Value),F=sF [0,1,7] fz [(5,ZQ (if x1>y then (acc++[y]) else acc) w3)]/\h=[.tail w3 1]) ?_ ?_)))
    ·refine VA (x1>y) (fun ZF=>?_) (fun ZF=>?_)
     ·exact az (Z2 2 (iL (Z7 [y]) 1 1 fun v2=>ZE 0 [(33,Z6 [y])] (ip 1 (Z7 (acc++[y])) (Z7 acc) (Z7 [y]) v none 1 (Yw _) (Yw _) (XT _) (by simp<;>omega) (by simp [XR,Z7]) fun v3=>Z1 (ZJ ⟨v3,rfl,rfl⟩ (wk [0] (fc (x:=ZQ (acc++[y]) v3) (Ze.slh _ (Ys Z7 (by first|rfl|(rw [Zw ZF])|(rw [Zp ZF])|(simp [ZF];done)|(rw [Xc];simp [ZF];done)|omega))) fl))))))
     exact ak (ZJ ⟨v,rfl,rfl⟩ (wk [0] (fc (x:=ZQ acc v) (Ze.slh _ (Ys Z7 (by first|rfl|(rw [Zw ZF])|(rw [Zp ZF])|(simp [ZF];done)|(rw [Xc];simp [ZF];done)|omega))) fl)))
    rintro F h ⟨w3,rfl,rfl⟩
    exact UM (ZJ ⟨(if x1>y then (acc++[y]) else acc),true,w3,(if h:x1>y then (by rw [Zw h];exact .inr (.inl ⟨rfl,rfl,Zg.1⟩)) else (by rw [Zp h];exact .inr (.inr ⟨rfl,rfl,by have:=Zg.2;omega⟩))),(by split<;>simp),rfl,rfl⟩ (wk [0] fl))
   exact ak (ZJ ⟨acc,d,v,(.inl ⟨rfl,rfl⟩),ob,rfl,rfl⟩ (wk [0] fl))
  rintro F h ⟨acc2,d2,w,V6,KS,rfl,rfl⟩
  exact az (Z2 3 (Zm (Zh none (k:Int) 1 (ZZ Z5)) (Z2 1 (iL (Z7 [x1]) 1 1 fun v4=>ZE 0 [(40,Z6 [x1])] (ip 1 (Z7 (acc2++[x1])) (Z7 acc2) (Z7 [x1]) w none 1 (Yw _) (Yw _) (XT _) (by simp<;>omega) (by simp [XR,Z7]) fun v5=>Z1 (az (Z2 1 (ZG k (Z1 (ZI ⟨k+1,(acc2++[x1]),d2,v5,ob,(Zi.go Z5 V6),rfl,rfl,rfl⟩ (wk [0] (fw (ZL k fl)))))))))))))
 have hil:acc.length<=k+1:=WK Zi.len (by split<;>omega)
 refine ax 0 (Y1 (XC (fun fz gz F h=>∃(w4:Value),F=sF [] fz [(5,ZQ (if d=true then acc else (acc++[y])) w4)]/\h=[.tail w4 1]) ?_ ?_))
 ·refine ac (!d) (p:=¬(d=true)) (Xh Iff.rfl) (fun Yq=>?_) (fun Yq=>?_)
  ·exact az (Z2 2 (iL (Z7 [y]) 1 1 fun v6=>ZE 0 [(46,Z6 [y])] (ip 1 (Z7 (acc++[y])) (Z7 acc) (Z7 [y]) v none 1 (Yw _) (Yw _) (XT _) (by simp<;>omega) (by simp [XR,Z7]) fun v7=>Z1 (ZJ ⟨v7,rfl,rfl⟩ (wk [0] (fc (x:=ZQ (acc++[y]) v7) (Ze.slh _ (Ys Z7 (by first|rfl|(rw [Zw Yq])|(rw [Zp Yq])|(simp [Yq];done)|(rw [Xc];simp [Yq];done)|omega))) fl))))))
  exact ak (ZJ ⟨v,rfl,rfl⟩ (wk [0] (fc (x:=ZQ acc v) (Ze.slh _ (Ys Z7 (by first|rfl|(rw [Zw Yq])|(rw [Zp Yq])|(simp [Yq];done)|(rw [Xc];simp [Yq];done)|omega))) fl)))
 rintro F h ⟨w4,rfl,rfl⟩
 exact ar (Zs (r2 [] [ZQ (if d=true then acc else (acc++[y])) w4] ⟨(if d=true then acc else (acc++[y])),rfl,rfl,(if hd:d=true then (by rw [Zw hd];exact (Zi.fin om).1 hd) else (by rw [Zp hd];exact (Zi.fin om).2 hd))⟩ (Ze.forget _ _)))
theorem Z4c (n:Zx) (s:Z3) (j:Nat) (kept:LI) (kd:Z4) (hn:Xk n) (hws:wS n.decls s) (hkd:s.kids[j]? = some kd) (hnk:TD kd) (hK:kept.length+s.sz<=900000000) (ih:∀(b2:Z4) (K2:LI),(wB n.decls b2)->(Jy b2)->(K2.length+b2.sz<=900000000)->(b2.sz<s.sz)->Zf 152 [Yl n,ZC b2,Z6 K2] [] (Yt (ZC (W2 n.decls K2 b2)))):Zf 199 [Yl n,Ym s,.i j,Z6 kept] [] (Yt (ZC (UF n.decls kept s.op s.num s.args j kd))):=by
 have XD:=hn.decls
 have hks:=VS hkd
 have hwk:=GQ hws hkd
 have haz:=T9 s
 have hjl:=(XA.1 hkd).1
 refine ZD 65 Tryz.func199 (ar (iA (YN n) fun b1=>iA (Xf s) fun b2=>iA [nl,.i 0] fun b3=>ie (X7 (Vx [1] (ac (s.op != 8) Xd (fun Z9=>?_) (fun Z9=>?_))))))
 ·refine aD 9 (ZH 5 9 [0,1,2,3] [2,1] (dx 4 (Zh none (j:Int) 2 (Vv hkd)) (Zk 2 4 [5,6] (Z8 7 (Yp 7 [] [] [] (ih kd kept (by first|exact hwk|exact KS) (by first|exact Ak hnk|exact Fx) ob ob) (Z8 8 (Yy 8 0 [] [] b3 (YI (W2 n.decls kept kd)) (de ?_))))))))
  have hE:=Mh (ds:=n.decls) (kept:=kept) (op:=s.op) (num:=s.num) (args:=s.args) (j:=j) (kd:=kd) (fun z=>Z9 z.1)
  exact ZK (r3 [] [ZC (W2 n.decls kept kd)] [0] [(b3,b3)] ⟨rfl,rfl⟩ (Ze.agg (.cons (Ze.sl _ (Ys Zj (by rw [hE]))) (.cons (li (by rw [hE])) .nil))))
 refine ak (Zo 2 [1] ?_)
 obtain ⟨x1,Z5⟩:=Zq s.args 0 (by obtain ⟨⟨a,ha2,_⟩,_⟩:=Cs hws om;rw [ha2];simp)
 have hg1:=KJ Z5
 have hxb:0<=x1/\x1<=900000000:=by obtain ⟨⟨a,ha2,ha3⟩,_⟩:=Cs hws om;rw [ha2] at hg1;have:a=x1:=hg1;omega
 refine Zm (Zh none 0 1 (ZZ Z5)) (Z1 (Zo 3 [1] (Zm (Zh none (j:Int) 2 (Vv hkd)) (Z2 1 (iA [nl,.i 0] fun b4=>?_)))))
 refine ZA 0 b4 (YI kd) (ie (X4 2 (Zu [] (VL kept x1) (Z1 (XC (fun fz gz F h=>∃(B2:Z4) (K2:LI),(W2 n.decls K2 B2=UF n.decls kept s.op s.num s.args j kd)/\(wB n.decls B2)/\(Jy B2)/\(B2.sz<=kd.sz)/\(K2.length<=kept.length+1)/\F=sF [4,8,10] fz [(3,Z6 K2)]/\h=[.obj b4 (YI B2),Za gz 1,Za gz 3]) ?_ ?_)))))
 ·refine ac (!(decide (x1∈kept))) (p:=¬(x1∈kept)) (Xh dq) (fun Zg=>?_) (fun Zg=>?_)
  ·refine aD 16 (ZH 7 16 [0,1,2,3,4,5,6,7,9] [0,3,3,2] (Z8 8 (dc 8 [] [3,0] [b1,b4] (Kb n.decls s.num) ?_)))
   rintro _ _ ⟨v1,rfl,rfl⟩
   obtain ⟨x2,Zv⟩:=Zq (Y2 n.decls s.num) j (by have h:=(Cs hws om).2;omega)
   have hfl:(VR n.decls s.num j).length=(Y4 n.decls x2).length:=by rw [HV (by rw [QL,Zv];rfl)]
   have hcf:=VD XD x2
   refine dx 10 (Zh (some v1) (j:Int) 1 (ZZ Zv)) (Zk 4 5 [11] (Z8 12 (Yp 12 [] [0] [b4] (Q0 n.decls x2) (dn 13 (.i (((Y4 n.decls x2).length:Nat):Int)) (.i (((Z7 (Y4 n.decls x2)).length:Nat):Int)) (li (by rw [Ye])) (Z8 14 (Yp 14 [] [] [] (Z49 n.decls kd x1 ((Y4 n.decls x2).length) (hw:=hwk) (hx:=hxb)) ?_))))))
   have hwr:=Z6e (x:=x1) (many:=(Y4 n.decls x2).length) hwk
   have hsr:=Z2g (x:=x1) (many:=(Y4 n.decls x2).length) hwk
   refine Z8 15 (Yy 15 1 [] [] b4 (YI (V8 kd x1 ((Y4 n.decls x2).length))) (de (Zo 1 [0] (Zu [] (Gs (V8 kd x1 ((Y4 n.decls x2).length))) (Z1 (Zo 3 [0] (Zu [] (MS (V8 kd x1 ((Y4 n.decls x2).length)) (YC (V8 kd x1 ((Y4 n.decls x2).length)).steps) 17 x1 (hm:=(C1 _)) (ha:=(fun s2 hs2 h17=>GW (Ef ((Qr _).1 hwr) s2 (Ts hs2) (by rw [h17];rfl))))) (ZT ((XK 17 x1 ((V8 kd x1 ((Y4 n.decls x2).length)).steps.take (YC (V8 kd x1 ((Y4 n.decls x2).length)).steps)) 0)>=0) (fun ZF=>?_) (fun ZF=>?_)))))))))
   ·refine az (Z2 2 (ic [] (Z46 kept x1) ?_))
    rintro _ _ ⟨ys1,rfl,rfl,ZX⟩
    have hin:=ZX
    exact Z1 (ZJ ⟨_,_,(Z2y om hg1 Zg hfl ((Nb ((C5 kd).1 hnk)).1 ZF) hin.2),hwr,(Lp hnk),ob,hin.1,rfl,rfl⟩ (wk [0,1,2] (fc (x:=Z6 ys1) (Ze.sl _ (Ys Z7 (by first|rfl|(rw [Zw Zg])|(rw [Zp Zg])|(simp [Zg,ZF,ZX];done)|(rw [Xc];simp [Zg,ZF,ZX];done)|omega))) fl)))
   exact ak (ZJ ⟨_,_,(Z2z om hg1 Zg hfl (GT fun z=>ZF ((Nb ((C5 kd).1 hnk)).2 z))),hwr,(Lp hnk),ob,ob,rfl,rfl⟩ (wk [0,1,2] (fc (x:=Z6 kept) (Ze.sl _ (Ys Z7 (by first|rfl|(rw [Zw Zg])|(rw [Zp Zg])|(simp [Zg,ZF];done)|(rw [Xc];simp [Zg,ZF];done)|omega))) fl)))
  exact ak (ZJ ⟨_,_,(Mh (fun z=>Zg (hg1▸z.2))),hwk,(Ak hnk),ob,ob,rfl,rfl⟩ (wk [0,0,1] (fc (x:=Z6 kept) (Ze.sl _ (Ys Z7 (by first|rfl|(rw [Zw Zg])|(rw [Zp Zg])|(simp [Zg];done)|(rw [Xc];simp [Zg];done)|omega))) fl)))
 rintro F h ⟨B2,K2,V6,KS,Fx,Z74,Z75,rfl,rfl⟩
 exact Zo 3 [2,0] (Zu [] (ih B2 K2 (by first|exact hwk|exact KS) (by first|exact Ak hnk|exact Fx) ob ob) (ZA 1 b3 (YI (W2 n.decls K2 B2)) (ie (ZK (r3 [] [ZC (W2 n.decls K2 B2)] [0] [(b3,b3)] ⟨rfl,rfl⟩ (Ze.agg (.cons (Ze.sl _ (Ys Zj (by rw [V6]))) (.cons (li (by rw [V6])) .nil))))))))
theorem Z4b (n:Zx) (b:Z4) (kept:LI) (hn:Xk n) (hw:wB n.decls b) (hn2:Jy b) (hK:kept.length+b.sz<=900000000) (ih:∀(s:Z3) (j:Nat) (kept:LI) (kd:Z4),(wS n.decls s)->(s.kids[j]? = some kd)->(TD kd)->(kept.length+s.sz<=900000000)->(s.sz<b.sz)->Zf 199 [Yl n,Ym s,.i j,Z6 kept] [] (Yt (ZC (UF n.decls kept s.op s.num s.args j kd)))):Zf 152 [Yl n,ZC b,Z6 kept] [] (Yt (ZC (W2 n.decls kept b))):=by
 have XD:=hn.decls
 have hbz:=WS b
 refine ZD 61 Tryz.func152 (ar (iA (YN n) fun b1=>iA (YI b) fun b2=>iA [nl,.i 0] fun b3=>ie (ar (iL (Zj []) 0 5 fun v1=>ZU 3 [2] (iA [nl,.i 0] fun b4=>?_)))))
 refine ZA 0 b4 [YG [] v1,.i b.result] (ie (Y1 (ab 0 (Y0 (fun fz gz m F h=>∃(k:Nat) (xs:List Z3) (v:Value),(k<=b.steps.length)/\(xs.length=k)/\(xs++VI n.decls kept (b.steps.drop k)=VI n.decls kept b.steps)/\F=sF [2,3,4,6,7] fz [(8,.i k)]/\h=[.obj b4 [YG xs v,.i b.result],Za gz 2,Za gz 3,Za gz 4,.tail v 5]/\m=b.steps.length-k) _ _ _ ⟨0,[],v1,ob,ob,rfl,rfl,rfl,rfl⟩ (wk [0,1,1,1,0] (Yd fl)) ?_))))
 rintro m F h ⟨k,xs,v,Yf,Zi,Zr,rfl,rfl,rfl⟩
 refine Y6 3 [2] (iw (W8 b.steps) (ZT ((k:Int)<(b.steps.length:Int)) (fun Z9=>?_) (fun Z9=>?_)))
 ·refine ak (aq (ab 1 (Zo 3 [2] ?_)))
  obtain ⟨x1,Z5⟩:=Zq b.steps k om
  have X6:=Bm Z5
  have hws:=Ny hw Z5
  have hkz:=U8 x1
  have haz:=T9 x1
  refine Zm (Zh none (k:Int) 5 (XO Z5)) (Z2 1 (iA [.i 0,.i 0,.i 0,nl,nl] fun b5=>ZA 0 b5 (Xf x1) (ie (ar (iL (Yu []) 0 2 fun v2=>?_)))))
  refine Z1 (Y1 (ab 2 (Y0 (fun fz gz m F h=>∃(j:Nat) (u:Value) (ks:List Z4),(j<=x1.kids.length)/\(ks.length=j)/\(ks++Vw n.decls kept x1.op x1.num x1.args (x1.kids.drop j) j=Vw n.decls kept x1.op x1.num x1.args x1.kids 0)/\F=sF [2,3,4,6,7,8,9] fz [(10,U9 ks u),(11,.i j)]/\h=[Za gz 1,Za gz 2,Za gz 3,Za gz 4,Za gz 5,.tail u 2,Za gz 6]/\m=x1.kids.length-j) _ _ _ ⟨0,v2,[],ob,ob,(by simp),rfl,rfl,rfl⟩ (wk [1,1,1,1,1,0,0] (fr (Yd fl))) ?_)))
  rintro m F h ⟨j,u,ks,VZ,Wi,Xs,rfl,rfl,rfl⟩
  refine Y6 3 [0] (iw (Vk x1.kids) (ZT ((j:Int)<(x1.kids.length:Int)) (fun Zg=>?_) (fun Zg=>?_)))
  ·obtain ⟨kd,hkd⟩:=Zq x1.kids j om
   exact ak (aq (ab 3 (az (ZU 5 [4,0] (Zu [] (ih x1 j kept kd hws hkd (Z1f hn2 Z5 hkd) ob ob) (iL [ZC (UF n.decls kept x1.op x1.num x1.args j kd)] 1 2 fun v3=>ZE 0 [(42,.sl [ZC (UF n.decls kept x1.op x1.num x1.args j kd)] none)] (ip 6 (Yu (ks++[UF n.decls kept x1.op x1.num x1.args j kd])) (Yu ks) [ZC (UF n.decls kept x1.op x1.num x1.args j kd)] u none 2 (Uy _) (Ti rfl) rfl (by simp<;>omega) (by simp [KD,U0]) fun v4=>Z1 (az (Z2 1 (ZG j (Z1 (ZI ⟨j+1,v4,(ks++[UF n.decls kept x1.op x1.num x1.args j kd]),ob,(by simp;omega),(Z2x hkd Xs),rfl,rfl,rfl⟩ (wk [2,2,2,2,2,0,1] (fr (ZL j fl)))))))))))))))
  have hK:=Z2w om Xs
  refine ax 2 (aE 17 (ZH 6 17 [0,1,2,3,4,5,6,7,8,9,11] [1,0,0,0,0] (Z8 10 (dc 10 [] [0,0,0,1] [b5,b5,b5,b4] (Vr x1.args) ?_))))
  rintro _ _ ⟨v5,rfl,rfl⟩
  exact Yh 4 5 [12] [(56,.agg [.i x1.op,.i x1.num,.i x1.into,Z6 x1.args,XG ks])] (Z8 13 (dL 13 [1] [b4] [Ym (Z3.mk x1.op x1.num x1.into x1.args ks)] 1 5 fun v6=>Yh 3 3 [] [(57,.sl [Ym (Z3.mk x1.op x1.num x1.into x1.args ks)] none)] (Z8 14 (dp 14 8 [] [] (Zj (xs++[Z3.mk x1.op x1.num x1.into x1.args ks])) (Zj xs) [Ym (Z3.mk x1.op x1.num x1.into x1.args ks)] v none 5 (X1 _) (Ti rfl) rfl (by simp<;>omega) (by simp [Wj,WO]) fun v7=>Zk 1 2 [15] (Z8 16 (Yy 16 4 [] [] b4 [YG (xs++[Z3.mk x1.op x1.num x1.into x1.args ks]) v7,.i b.result] (de (az (Z2 1 (ZG k (Z1 (ZI ⟨k+1,(xs++[Z3.mk x1.op x1.num x1.into x1.args ks]),v7,ob,(by simp;omega),(by have h:=Z33 Z5 Zr;rw [<-hK] at h;exact h),rfl,rfl,rfl⟩ (wk [0,4,4,4,0] (ZL k fl))))))))))))))
 exact ax 0 (Zo 1 [0] (ZA 1 b3 [YG xs v,.i b.result] (ie (ZK (r3 [] [.agg [YG xs v,.i b.result]] [0] [(b3,b3)] ⟨rfl,rfl⟩ (Ze.agg (.cons (Ze.sl _ (Ys Zj (by rw [DI];exact Z32 om Zr))) (.cons (li (by rw [DI];rfl)) .nil))))))))
theorem Z4d (n:Zx) (hn:Xk n) (k:Nat):(∀(s:Z3) (j:Nat) (kept:LI) (kd:Z4),(wS n.decls s)->(s.kids[j]? = some kd)->(TD kd)->(kept.length+s.sz<=900000000)->(s.sz<=k)->Zf 199 [Yl n,Ym s,.i j,Z6 kept] [] (Yt (ZC (UF n.decls kept s.op s.num s.args j kd))))/\(∀(b:Z4) (kept:LI),(wB n.decls b)->(Jy b)->(kept.length+b.sz<=900000000)->(b.sz<=k)->Zf 152 [Yl n,ZC b,Z6 kept] [] (Yt (ZC (W2 n.decls kept b)))):=by
 induction k with
 | zero=>exact ⟨fun s j K kd h1 h2 h3 h4 h5=>by have:=s.sz_pos;omega,fun b K h1 h2 h3 h4=>by have:=b.sz_eq;omega⟩
 | succ k ih=>exact ⟨fun s j K kd h1 h2 h3 h4 h5=>Z4c n s j K kd hn h1 h2 h3 h4 fun b2 K2 q1 q2 q3 q4=>ih.2 b2 K2 q1 q2 q3 om,fun b K h1 h2 h3 h4=>Z4b n b K hn h1 h2 h3 fun s j K2 kd q1 q2 q3 q4 q5=>ih.1 s j K2 kd q1 q2 q3 q4 om⟩
theorem Z4a (n:Zx) (b:Z4) (kept:LI) (hn:Xk n:=by exact ob) (hw:wB n.decls b:=by exact ob) (hn2:Jy b:=by exact ob) (hK:kept.length+b.sz<=900000000:=by exact ob):Zf 152 [Yl n,ZC b,Z6 kept] [] (Yt (ZC (W2 n.decls kept b))):=(Z4d n hn b.sz).2 b kept hw hn2 hK (YQ _)
theorem Sf (n:Zx) (hn:Xk n:=by exact ob) (hz:Jc n:=by exact ob) (hwb:∀r∈n.routines,wB n.decls r.body):Zf 118 [Yl n] [] (Yt (Yl (DW n))):=by
 have hzl:=hn.len
 refine ZD 38 Tryz.func118 (ar (iA (YN n) fun b1=>iA [nl,nl] fun b2=>ie (Zo 2 [1] (Zu [] (Aq n.decls (hd:=hn.decls)) (iL (Yx []) 0 5 fun v1=>Z2 1 (iA [nl,nl] fun b3=>?_))))))
 refine ZA 0 b3 [YM n.decls,W6 [] v1] (ie (Y1 (ab 0 (Y0 (fun fz gz m F h=>∃(k:Nat) (v:Value),(k<=n.routines.length)/\F=sF [1,2,3] fz [(4,.i k)]/\h=[.obj b3 [YM n.decls,W6 ((n.routines.take k).map (JF n.decls)) v],Za gz 2,Za gz 3,.tail v 5]/\m=n.routines.length-k) _ _ _ ⟨0,v1,ob,rfl,rfl,rfl⟩ (wk [0,1,1,0] (Yd fl)) ?_))))
 rintro m F h ⟨k,v,Yf,rfl,rfl,rfl⟩
 refine Y6 3 [2] (iw (Up n.routines) (ZT ((k:Int)<(n.routines.length:Int)) (fun Z9=>?_) (fun Z9=>?_)))
 ·refine ak (aq (ab 1 (Zo 3 [2] ?_)))
  obtain ⟨x1,Z5⟩:=Zq n.routines k om
  have hrm:=ZW Z5
  have hbz:=hz.body _ hrm
  have hpl:=hn.params_at Z5
  have hll:=hn.lent_at Z5
  have hww:=hwb _ hrm
  exact Zm (Zh none (k:Int) 5 (WB Z5)) (Z2 1 (iA [nl,nl,.i 0,nl,.i 0] fun b4=>ZA 0 b4 (K4 x1) (ie (aE 15 (ZH 7 15 [0,1,2,3,4,5,6,7] [1,0,3,0,0] (dw 8 (Ye x1.params) (Z8 9 (Yp 9 [] [0,1] [b4,b3] (Z4i n x1.body x1.params.length (hw:=hww)) (Z8 10 (Yp 10 [] [1] [b3] (Bl x1 (Wq n.decls x1.params.length x1.body)) (Z8 11 (dL 11 [1] [b3] (Yx [Y8.mk x1.params x1.lent x1.result (Wq n.decls x1.params.length x1.body)]) 1 5 fun v2=>Yh 3 3 [] [(34,TY [Y8.mk x1.params x1.lent x1.result (Wq n.decls x1.params.length x1.body)])] (Z8 12 (dp 12 5 [] [] (Yx ((n.routines.take (k+1)).map (JF n.decls))) (Yx ((n.routines.take k).map (JF n.decls))) (Yx [Y8.mk x1.params x1.lent x1.result (Wq n.decls x1.params.length x1.body)]) v none 5 (VQ _) (VQ _) (Jm _) (by simp<;>omega) (by rw [Vh Z5];simp [Yx,JF]) fun v3=>Zk 1 2 [13] (Z8 14 (Yy 14 3 [] [] b3 [YM n.decls,W6 ((n.routines.take (k+1)).map (JF n.decls)) v3] (de (az (Z2 1 (ZG k (Z1 (ZI ⟨k+1,v3,ob,rfl,rfl,rfl⟩ (wk [0,3,3,0] (ZL k fl))))))))))))))))))))))))
 exact ax 0 (Zo 1 [0] (ZA 1 b2 [YM n.decls,W6 ((n.routines.take k).map (JF n.decls)) v] (ie (ZK (r3 [] [.agg [YM n.decls,W6 ((n.routines.take k).map (JF n.decls)) v]] [0] [(b2,b2)] ⟨rfl,rfl⟩ (Ze.agg (.cons (Ze.sl _ (Ys X0 ob)) (.cons (Ze.sl _ (Ys Yx (by rw [WT om];rfl))) .nil))))))))
theorem Sc (n:Zx) (hn:Xk n:=by exact ob) (hz:Jc n:=by exact ob) (hwb:∀r∈n.routines,wB n.decls r.body) (hnr:∀r∈n.routines,TD r.body):Zf 119 [Yl n] [] (Yt (Yl (DJ n))):=by
 have hzl:=hn.len
 refine ZD 38 Tryz.func119 (ar (iA (YN n) fun b1=>iA [nl,nl] fun b2=>ie (Zo 2 [1] (Zu [] (Aq n.decls (hd:=hn.decls)) (iL (Yx []) 0 5 fun v1=>Z2 1 (iA [nl,nl] fun b3=>?_))))))
 refine ZA 0 b3 [YM n.decls,W6 [] v1] (ie (Y1 (ab 0 (Y0 (fun fz gz m F h=>∃(k:Nat) (v:Value),(k<=n.routines.length)/\F=sF [1,2,3] fz [(4,.i k)]/\h=[.obj b3 [YM n.decls,W6 ((n.routines.take k).map (JC n.decls)) v],Za gz 2,Za gz 3,.tail v 5]/\m=n.routines.length-k) _ _ _ ⟨0,v1,ob,rfl,rfl,rfl⟩ (wk [0,1,1,0] (Yd fl)) ?_))))
 rintro m F h ⟨k,v,Yf,rfl,rfl,rfl⟩
 refine Y6 3 [2] (iw (Up n.routines) (ZT ((k:Int)<(n.routines.length:Int)) (fun Z9=>?_) (fun Z9=>?_)))
 ·refine ak (aq (ab 1 (aE 21 (ZH 16 21 [0,1,2,3,4] [0,2] ?_))))
  obtain ⟨x1,Z5⟩:=Zq n.routines k om
  have hrm:=ZW Z5
  have hbz:=hz.body _ hrm
  have hpl:=hn.params_at Z5
  have hll:=hn.lent_at Z5
  have hww:=hwb _ hrm
  exact dx 5 (Zh none (k:Int) 5 (WB Z5)) (ZH 10 15 [6,7,8,9,10] [2,2] (dx 11 (Zh none (k:Int) 5 (WB Z5)) (Zk 7 9 [12,13] (Z8 14 (dL 14 [2,2,2,0] [b1,b1,b1,b3] (Z7 []) 0 1 fun v2=>Yh 6 6 [] [(31,Z6 [])] (Z8 15 (Yp 15 [] [2,0] [b1,b3] (Z4a n x1.body [] (hw:=hww) (hn2:=(Ak (hnr _ hrm)))) (Z8 16 (Yp 16 [] [0] [b3] (Bl x1 (W2 n.decls [] x1.body)) (Z8 17 (dL 17 [0] [b3] (Yx [Y8.mk x1.params x1.lent x1.result (W2 n.decls [] x1.body)]) 1 5 fun v3=>Yh 3 3 [] [(34,TY [Y8.mk x1.params x1.lent x1.result (W2 n.decls [] x1.body)])] (Z8 18 (dp 18 5 [] [] (Yx ((n.routines.take (k+1)).map (JC n.decls))) (Yx ((n.routines.take k).map (JC n.decls))) (Yx [Y8.mk x1.params x1.lent x1.result (W2 n.decls [] x1.body)]) v none 5 (VQ _) (VQ _) (Jm _) (by simp<;>omega) (by rw [Vh Z5];simp [Yx,JC]) fun v4=>Zk 1 2 [19] (Z8 20 (Yy 20 3 [] [] b3 [YM n.decls,W6 ((n.routines.take (k+1)).map (JC n.decls)) v4] (de (az (Z2 1 (ZG k (Z1 (ZI ⟨k+1,v4,ob,rfl,rfl,rfl⟩ (wk [0,3,3,0] (ZL k fl)))))))))))))))))))))))
 exact ax 0 (Zo 1 [0] (ZA 1 b2 [YM n.decls,W6 ((n.routines.take k).map (JC n.decls)) v] (ie (ZK (r3 [] [.agg [YM n.decls,W6 ((n.routines.take k).map (JC n.decls)) v]] [0] [(b2,b2)] ⟨rfl,rfl⟩ (Ze.agg (.cons (Ze.sl _ (Ys X0 ob)) (.cons (Ze.sl _ (Ys Yx (by rw [WT om];rfl))) .nil))))))))
theorem Il (rd:Nat) (bs:LI) (p:Nat) (Zt:∀z∈bs,0<=z/\z<=255) (hp:p+400001<=1000000000:=by exact ob):Zf 90 [.p rd 0] [Yc rd bs p] (fun r h=>∃(n:Zx) (p2:Nat),r=Yl n/\h=[Yc rd bs p2]/\FO n 181 Wd/\p<=p2/\p2<=p+400001):=by
 refine ZD 13 Tryz.func90 (ar (iA [nl,nl] fun b1=>ie (Yg 1 (ic [1] (RH rd bs p (Zt:=ob)) ?_))))
 rintro _ _ ⟨g1,p21,rfl,rfl,ZX⟩
 have TB:=ZX
 refine ic [] (S4 g1 (hg:=TB.1)) ?_
 rintro _ _ ⟨n1,rfl,rfl,Y9⟩
 have hnm:=Y9
 refine iA [nl,nl] fun b2=>ZA 0 b2 (YN n1) (ie (X4 1 (ic [1] (XN rd bs p21 3 (Zt:=ob)) ?_)))
 rintro _ _ ⟨k1,rfl,rfl,YL⟩
 refine YR (k1==0) Zz (fun Z9=>?_) (fun Z9=>?_)
 ·refine Zo 1 [1] (ic [] (RT n1 181 (hn:=hnm)) ?_)
  rintro _ _ ⟨n21,rfl,rfl,YX⟩
  have hlm:=YX
  exact ZA 2 b1 (YN n21) (ie (ZK (r3 [1] [Yl n21] [0] [(b1,b1)] ⟨n21,p21+1,rfl,rfl,(by first|exact ⟨hlm,by omega,by omega⟩|exact ⟨hnm,by omega,by omega⟩)⟩ (lr _))))
 exact ak (Zo 1 [1] (ZA 2 b1 (YN n1) (ie (ZK (r3 [1] [Yl n1] [0] [(b1,b1)] ⟨n1,p21+1,rfl,rfl,(by first|exact ⟨hlm,by omega,by omega⟩|exact ⟨hnm,by omega,by omega⟩)⟩ (lr _))))))
theorem RA (rd:Nat) (bs:LI) (p:Nat) (Zt:∀z∈bs,0<=z/\z<=255) (hp:p+400002<=1000000000:=by exact ob):Zf 115 [.p rd 0] [Yc rd bs p] (fun r h=>∃(n:Zx) (p2:Nat),r=Yl n/\h=[Yc rd bs p2]/\FO n 814510 WM/\p<=p2/\p2<=p+400002):=by
 refine ZD 15 Tryz.func115 (ar (iA [nl,nl] fun b1=>ie (Yg 1 (ic [1] (Il rd bs p (Zt:=ob)) ?_))))
 rintro _ _ ⟨n1,p21,rfl,rfl,ZX⟩
 have hpf:=ZX
 refine iA [nl,nl] fun b2=>ZA 0 b2 (YN n1) (ie (Zo 1 [0] (ic [] (Rz n1 181 (hn:=hpf.1)) ?_)))
 rintro _ _ ⟨n21,rfl,rfl,Y9⟩
 have hcf:=FO.le Y9 (show 4500*181+10<=814510 by omega)
 refine iA [nl,nl] fun b3=>ZA 0 b3 (YN n21) (ie (X4 1 (ic [2] (XN rd bs p21 4 (Zt:=ob)) ?_)))
 rintro _ _ ⟨k1,rfl,rfl,YL⟩
 refine YR (k1==0) Zz (fun Z9=>?_) (fun Z9=>?_)
 ·refine az (ZU 1 [2] (ic [] (RL n1 181 (hn:=hpf.1)) ?_))
  rintro _ _ ⟨n22,rfl,rfl,YX⟩
  have hlf:=FO.le YX (show 60*181<=814510 by omega)
  exact ZA 1 b3 (YN n22) (ie (Zo 1 [0] (ZA 3 b1 (YN n22) (ie (ZK (r3 [2] [Yl n22] [0] [(b1,b1)] ⟨n22,p21+1,rfl,rfl,(by first|exact ⟨hlf,by omega,by omega⟩|exact ⟨hcf,by omega,by omega⟩)⟩ (lr _)))))))
 exact ak (Zo 1 [1] (ZA 3 b1 (YN n21) (ie (ZK (r3 [1] [Yl n21] [0] [(b1,b1)] ⟨n21,p21+1,rfl,rfl,(by first|exact ⟨hlf,by omega,by omega⟩|exact ⟨hcf,by omega,by omega⟩)⟩ (lr _))))))
theorem Ri (rd:Nat) (bs:LI) (p:Nat) (Zt:∀z∈bs,0<=z/\z<=255) (hp:p+400030<=1000000000:=by exact ob):Zf 73 [.p rd 0] [Yc rd bs p] (fun r h=>∃(n:Zx) (p2:Nat),r=Yl n/\h=[Yc rd bs p2]/\ZN n 7330630/\p<=p2/\p2<=p+400030):=by
 refine ZD 35 Tryz.func73 (ar (iA [nl,nl] fun b1=>ie (Yg 1 (ic [1] (RA rd bs p (Zt:=ob)) ?_))))
 rintro _ _ ⟨n1,p21,rfl,rfl,ZX⟩
 have hcf:=FO.le ZX.1 (show 814510<=814514 by omega)
 have hcp:=ZX
 refine iA [nl,nl] fun b2=>ZA 0 b2 (YN n1) (ie (X4 1 (ic [1] (XN rd bs p21 4 (Zt:=ob)) ?_)))
 rintro _ _ ⟨k1,rfl,rfl,Y9⟩
 refine Z1 (XC (fun fz gz F h=>∃(na:Zx) (pa:Nat),(FO na 814514 WM)/\(p<=pa/\pa<=p+400010)/\F=sF [0,2,3] fz []/\h=[Yc rd bs pa,.obj b2 (YN na),Za gz 2]) ?_ ?_)
 ·refine ac (k1==0) Zz (fun Z9=>?_) (fun Z9=>?_)
  ·refine az (ZU 2 [1] (ic [0] (Ih rd bs (p21+1) n1 (Zt:=ob) (hz:=(by first|exact (FO.zn hcp.1).sz om|exact TC.sz om)) (hl1:=(by first|(have:=hcp.1.fn.len;omega)|(have:=TC.len;omega)))) ?_))
   rintro _ _ ⟨n21,p22,rfl,rfl,YL⟩
   have hho:=YL
   exact ZA 1 b2 (YN n21) (ie (ZJ ⟨n21,p22,(FO.held hcp.1 hho.1),ob,rfl,rfl⟩ (wk [1,0,0] fl)))
  exact ak (ZJ ⟨n1,p21+1,hcf,ob,rfl,rfl⟩ (ZV 3 fl))
 rintro F h ⟨na,pa,Qj,Fw,rfl,rfl⟩
 refine X4 1 (ic [0] (XN rd bs pa 4 (Zt:=ob)) ?_)
 rintro _ _ ⟨k2,rfl,rfl,YX⟩
 refine Z1 (XC (fun fz gz F h=>∃(nb:Zx) (pb:Nat),(FO nb 814514 WM)/\(p<=pb/\pb<=p+400012)/\F=sF [0,2,3] fz []/\h=[Yc rd bs pb,.obj b2 (YN nb),Za gz 2]) ?_ ?_)
 ·refine ac (k2==0) Zz (fun Zg=>?_) (fun Zg=>?_)
  ·refine az (ZU 1 [1] (ic [] (Ro na 814514 (hn:=Qj)) ?_))
   rintro _ _ ⟨n22,rfl,rfl,X9⟩
   have hca:=X9
   exact ZA 1 b2 (YN n22) (ie (ZJ ⟨n22,pa+1,hca,ob,rfl,rfl⟩ (wk [1,0,0] fl)))
  exact ak (ZJ ⟨na,pa+1,Qj,ob,rfl,rfl⟩ (ZV 3 fl))
 rintro F h ⟨nb,pb,V6,KS,rfl,rfl⟩
 refine Yg 1 (ic [0] (XN rd bs pb 3 (Zt:=ob)) ?_)
 rintro _ _ ⟨k3,rfl,rfl,XV⟩
 refine Z1 (Y1 (XC (fun fz gz F h=>∃(nc:Zx) (pc:Nat),(ZN nc 7330626)/\(k3>1->WN nc 7330626)/\(p<=pc/\pc<=p+400014)/\F=sF [0,2,3,4] fz []/\h=[Yc rd bs pc,.obj b2 (YN nc),Za gz 2]) ?_ ?_))
 ·refine VA (k3>0) (fun ZF=>?_) (fun ZF=>?_)
  ·exact az (ZU 1 [1] (Zu [] (Sf nb (hn:=V6.fn.ok) (hz:=(V6.zn.sz om)) (hwb:=(fun r hr=>(V6.wl om r hr).w))) (ZA 1 b2 (YN (DW nb)) (ie (ZJ ⟨(DW nb),pb+1,((V6.wn om).sp.zn),(fun _=>(V6.wn om).sp),ob,rfl,rfl⟩ (wk [1,0,0] fl))))))
  exact ak (ZJ ⟨nb,pb+1,(V6.zn.le om),(fun h=>by omega),ob,rfl,rfl⟩ (ZV 3 fl))
 rintro F h ⟨nc,pc,BW,BX,Z04,rfl,rfl⟩
 refine Y1 (XC (fun fz gz F h=>∃(nd:Zx) (pd:Nat),(ZN nd 7330626)/\(p<=pd/\pd<=p+400014)/\F=sF [0,2,3] fz []/\h=[Yc rd bs pd,.obj b2 (YN nd),Za gz 2]) ?_ ?_)
 ·refine VA (k3>1) (fun Yq=>?_) (fun Yq=>?_)
  ·exact az (ZU 1 [1] (Zu [] (Sc nc (hn:=(BX (by assumption)).ok) (hz:=(BW.sz om)) (hwb:=(fun r hr=>((BX (by assumption)).wl r hr).w)) (hnr:=(fun r hr=>((BX (by assumption)).wl r hr).nr))) (ZA 1 b2 (YN (DJ nc)) (ie (ZJ ⟨(DJ nc),pc,(BX (by assumption)).ru,ob,rfl,rfl⟩ (wk [1,0,0] fl))))))
  exact ak (ZJ ⟨nc,pc,BW,ob,rfl,rfl⟩ (ZV 3 fl))
 rintro F h ⟨nd,pd,TC,Z05,rfl,rfl⟩
 refine X4 1 (ic [0] (XN rd bs pd 6 (Zt:=ob)) ?_)
 rintro _ _ ⟨k4,rfl,rfl,Wu⟩
 refine YR (k4==0) Zz (fun XH=>?_) (fun XH=>?_)
 ·refine az (ZU 2 [1] (ic [0] (Ih rd bs (pd+1) nd (Zt:=ob) (hz:=(by first|exact (FO.zn hcp.1).sz om|exact TC.sz om)) (hl1:=(by first|(have:=hcp.1.fn.len;omega)|(have:=TC.len;omega)))) ?_))
  rintro _ _ ⟨n23,p23,rfl,rfl,V5⟩
  have hho:=V5
  exact ZA 1 b2 (YN n23) (ie (Zo 1 [0] (ZA 2 b1 (YN n23) (ie (ZK (r3 [2] [Yl n23] [0] [(b1,b1)] ⟨n23,p23,rfl,rfl,(by first|exact ⟨TC.held hho.1,by omega,by omega⟩|exact ⟨TC.le om,by omega,by omega⟩)⟩ (lr _)))))))
 exact ak (Zo 1 [1] (ZA 2 b1 (YN nd) (ie (ZK (r3 [1] [Yl nd] [0] [(b1,b1)] ⟨nd,pd+1,rfl,rfl,(by first|exact ⟨TC.held hho.1,by omega,by omega⟩|exact ⟨TC.le om,by omega,by omega⟩)⟩ (lr _))))))
theorem Sk (rd:Nat) (bs:LI) (p:Nat) (xs:LI) (Zt:∀z∈bs,0<=z/\z<=255) (hp:p+3<=1000000000:=by exact ob) (hl:xs.length<=1000000:=by exact ob):Zf 112 [.p rd 0,Z6 xs] [Yc rd bs p] (fun r h=>∃(zs:LI) (p2:Nat),r=Z6 zs/\h=[Yc rd bs p2]/\zs.length<=xs.length+1/\p<=p2/\p2<=p+3):=by
 refine ZD 32 Tryz.func112 (Ya (Yg 1 (ic [] (JG xs) ?_)))
 rintro _ _ ⟨v1,rfl,rfl⟩
 refine Z1 (X4 1 (Zm (Au 0 v1 xs) (Z2 2 (ib (b:=(decide ((xs.length:Int)>0))) 11 (fun Zb=>?_) (fun Zb=>?_)))))
 ·have ZX:(xs.length:Int)>0:=(dq).1 Zb
  refine Z2 1 (ic [1] (XN rd bs p 2 (Zt:=ob)) ?_)
  rintro _ _ ⟨k1,rfl,rfl,Y9⟩
  refine YR (k1==0) Zz (fun Z9=>?_) (fun Z9=>?_)
  ·refine Yg 3 (Zm (Au 1 v1 xs) (ic [0] (UP rd bs (p+1) xs.length (Zt:=ob)) ?_))
   rintro _ _ ⟨Yn,rfl,rfl,YL⟩
   refine Z2 1 (iL (Z7 [0,1,-1,7,1000,1001]) 6 1 fun v2=>ZE 0 [(22,Z6 [0,1,-1,7,1000,1001])] (ic [1] (WW rd bs ((p+1)+1) [0,1,-1,7,1000,1001] (Zt:=ob)) ?_))
   rintro _ _ ⟨z1,rfl,rfl,YX⟩
   exact Zm (V9 2 v1 xs (Yn:Int) Yn) (IB 2 v1 xs Yn z1 (ie (Ya (En 4 0 (v:=v1) (xs:=(xs.set Yn z1)) (ZK (r2 [1] [ZQ (xs.set Yn z1) v1.v] ⟨(xs.set Yn z1),((p+1)+1)+1,rfl,rfl,⟨by simp,by omega,by omega⟩⟩ (Ze.forget _ _)))))))
  refine ak (Yg 2 (iL (Z7 [0,1,2,-1,1000]) 5 1 fun v3=>ZE 0 [(28,Z6 [0,1,2,-1,1000])] (ic [1] (WW rd bs (p+1) [0,1,2,-1,1000] (Zt:=ob)) ?_)))
  rintro _ _ ⟨z2,rfl,rfl,X9⟩
  exact iL (Z7 [z2]) 1 1 fun v4=>ZE 0 [(30,Z6 [z2])] (K3 3 v1 xs [z2] none fun v5=>Z1 (En 4 0 (v:=v5) (xs:=(xs++[z2])) (ZK (r2 [2] [ZQ (xs++[z2]) v5.v] ⟨(xs++[z2]),(p+1)+1,rfl,rfl,⟨by simp,by omega,by omega⟩⟩ (Ze.forget _ _)))))
 have XV:¬((xs.length:Int)>0):=YS dq Zb
 refine Z1 (Wz (ak (Yg 2 (iL (Z7 [0,1,2,-1,1000]) 5 1 fun v6=>ZE 0 [(28,Z6 [0,1,2,-1,1000])] (ic [2] (WW rd bs p [0,1,2,-1,1000] (Zt:=ob)) ?_)))))
 rintro _ _ ⟨z3,rfl,rfl,Wu⟩
 exact iL (Z7 [z3]) 1 1 fun v7=>ZE 0 [(30,Z6 [z3])] (K3 3 v1 xs [z3] none fun v8=>Z1 (En 4 0 (v:=v8) (xs:=(xs++[z3])) (ZK (r2 [2] [ZQ (xs++[z3]) v8.v] ⟨(xs++[z3]),p+1,rfl,rfl,⟨by simp,by omega,by omega⟩⟩ (Ze.forget _ _)))))
theorem Pb (s:Z3) (hz:s.sz<=1000000000:=by exact ob):Zf 139 [Ym s] [] (fun r h=>∃(v:Hd),r=.agg [.i s.op,.i s.num,.i s.into,.h v,XG s.kids]/\h=[rV v s.args]):=by
 have hkz:=U8 s
 have haz:=T9 s
 refine ZD 33 Tryz.func139 (ar (iA (Xf s) fun b1=>iA [.i 0,.i 0,.i 0,nl,nl] fun b2=>ie (ar (iL (Yu []) 0 2 fun v1=>?_))))
 refine Z1 (Y1 (ab 0 (Y0 (fun fz gz m F h=>∃(k:Nat) (v:Value),(k<=s.kids.length)/\F=sF [1,2] fz [(3,U9 (s.kids.take k) v),(4,.i k)]/\h=[Za gz 1,Za gz 2,.tail v 2]/\m=s.kids.length-k) _ _ _ ⟨0,v1,ob,rfl,rfl,rfl⟩ (wk [1,1,0] (fc (x:=U9 [] v1) (Ze.slh _ (Ys Yu rfl)) (Yd fl))) ?_)))
 rintro m F h ⟨k,v,Yf,rfl,rfl,rfl⟩
 refine Y6 3 [1] (iw (Vk s.kids) (ZT ((k:Int)<(s.kids.length:Int)) (fun Z9=>?_) (fun Z9=>?_)))
 ·refine ak (aq (ab 1 (az (ZU 4 [1] ?_))))
  obtain ⟨x1,Z5⟩:=Zq s.kids k om
  have hks:=VS Z5
  exact Zm (Zh none (k:Int) 2 (Vv Z5)) (Z2 1 (Zu [] (DX x1) (iL [ZC x1] 1 2 fun v2=>ZE 0 [(20,.sl [ZC x1] none)] (ip 3 (Yu (s.kids.take (k+1))) (Yu (s.kids.take k)) [ZC x1] v none 2 (Uy _) (Ti rfl) rfl (by simp<;>omega) (by rw [Vh Z5];simp [U0]) fun v3=>Z1 (az (Z2 1 (ZG k (Z1 (ZI ⟨k+1,v3,ob,rfl,rfl,rfl⟩ (wk [2,2,0] (fr (ZL k fl))))))))))))
 refine ax 0 (aD 12 (ZH 3 12 [0,1,2,3,4,5,6,7,9] [1,1,1,1] (Z8 8 (dc 8 [] [1,1,1] [b1,b1,b1] (JG s.args) ?_))))
 rintro _ _ ⟨v4,rfl,rfl⟩
 exact Zk 1 2 [10] (Z8 11 (Yy 11 1 [] [] b2 [.i s.op,.i s.num,.i s.into,.h v4,U9 (s.kids.take k) v] (de (ZK (r3 [1] [.agg [.i s.op,.i s.num,.i s.into,.h v4,U9 (s.kids.take k) v]] [0] [(b2,b2)] ⟨v4,rfl,rfl⟩ (Ze.agg (.cons (lr _) (.cons (lr _) (.cons (lr _) (.cons (lr _) (.cons (Ze.sl _ (Ys Yu (by rw [WT om]))) .nil)))))))))))
theorem Ip (rd:Nat) (bs:LI) (p:Nat) (s:Z3) (Zt:∀z∈bs,0<=z/\z<=255) (hp:p+3<=1000000000:=by exact ob) (hz:s.sz<=100000000:=by exact ob) (hg:s.rgb:=by exact ob):Zf 147 [.p rd 0,Ym s] [Yc rd bs p] (fun r h=>∃(y:Z3) (p2:Nat),r=Ym y/\h=[Yc rd bs p2]/\Vc s y/\p<=p2/\p2<=p+3):=by
 have haz:=T9 s
 have hkz:=U8 s
 refine ZD 66 Tryz.func147 (ar (iA (Xf s) fun b1=>iA [.i 0,.i 0,.i 0,nl,nl] fun b2=>ie (Zo 1 [1] (ic [] (Pb s) ?_))))
 rintro _ _ ⟨v1,rfl,rfl⟩
 refine iA [.i 0,.i 0,.i 0,nl,nl] fun b3=>ZA 0 b3 [.i s.op,.i s.num,.i s.into,.h v1,XG s.kids] (ie (X4 1 (ic [4] (XN rd bs p 6 (Zt:=ob)) ?_)))
 rintro _ _ ⟨k1,rfl,rfl,ZX⟩
 refine ie (ab 0 (ar (YR (k1==0) Zz (fun Z9=>?_) (fun Z9=>?_))))
 ·refine az (Z2 1 (iL (Z7 [14,15,16,17,6,9,12,0,1]) 9 1 fun v2=>ZE 0 [(13,Z6 [14,15,16,17,6,9,12,0,1])] (ic [1] (WW rd bs (p+1) [14,15,16,17,6,9,12,0,1] (Zt:=ob)) ?_)))
  rintro _ _ ⟨z1,rfl,rfl,Y9⟩
  have hon:=Y9
  exact Z2 1 (ZA 2 b3 [.i z1,.i s.num,.i s.into,.h v1,XG s.kids] (ie (ar (Xx (Kf 3 v1 s.args) (Xx (Ud 0 0 3 v1.v 1 b3 (Z7 s.args) [.i z1,.i s.num,.i s.into,.h v1,XG s.kids] (Yw _) rfl) (ZU 1 [0] (ZA 4 b2 [.i z1,.i s.num,.i s.into,ZQ s.args v1.v,XG s.kids] (ie (ZK (r3 [3] [.agg [.i z1,.i s.num,.i s.into,ZQ s.args v1.v,XG s.kids]] [0] [(b2,b2)] ⟨(Z3.mk z1 s.num s.into s.args s.kids),(p+1)+1,rfl,rfl,⟨by first|exact Vc.refl hg|exact Vc.of hg (by first|exact .inl rfl|exact .inr hon) (by first|exact Nat.le_succ _|(simp<;>omega)) (by first|exact .inl rfl|exact .inr rfl),by omega,by omega⟩⟩ (Ze.agg (.cons (lr _) (.cons (lr _) (.cons (lr _) (.cons (Ze.forget _ _) (.cons (lr _) .nil))))))))))))))))
 refine ar (YR (k1==1) Zz (fun Zg=>?_) (fun Zg=>?_))
 ·refine az (Z2 1 (iL (Z7 [0,1,2,3,-1,1000]) 6 1 fun v3=>ZE 0 [(19,Z6 [0,1,2,3,-1,1000])] (ic [1] (WW rd bs (p+1) [0,1,2,3,-1,1000] (Zt:=ob)) ?_)))
  rintro _ _ ⟨z2,rfl,rfl,YL⟩
  have hon:=YL
  exact Z2 1 (ZA 2 b3 [.i s.op,.i z2,.i s.into,.h v1,XG s.kids] (ie (ar (Xx (Kf 3 v1 s.args) (Xx (Ud 0 0 3 v1.v 1 b3 (Z7 s.args) [.i s.op,.i z2,.i s.into,.h v1,XG s.kids] (Yw _) rfl) (ZU 1 [0] (ZA 4 b2 [.i s.op,.i z2,.i s.into,ZQ s.args v1.v,XG s.kids] (ie (ZK (r3 [3] [.agg [.i s.op,.i z2,.i s.into,ZQ s.args v1.v,XG s.kids]] [0] [(b2,b2)] ⟨(Z3.mk s.op z2 s.into s.args s.kids),(p+1)+1,rfl,rfl,⟨by first|exact Vc.refl hg|exact Vc.of hg (by first|exact .inl rfl|exact .inr hon) (by first|exact Nat.le_succ _|(simp<;>omega)) (by first|exact .inl rfl|exact .inr rfl),by omega,by omega⟩⟩ (Ze.agg (.cons (lr _) (.cons (lr _) (.cons (lr _) (.cons (Ze.forget _ _) (.cons (lr _) .nil))))))))))))))))
 refine ar (YR (k1==2) Zz (fun ZF=>?_) (fun ZF=>?_))
 ·refine az (Z2 1 (iL (Z7 [1,2,0,-1,90]) 5 1 fun v4=>ZE 0 [(25,Z6 [1,2,0,-1,90])] (ic [1] (WW rd bs (p+1) [1,2,0,-1,90] (Zt:=ob)) ?_)))
  rintro _ _ ⟨z3,rfl,rfl,YX⟩
  have hon:=YX
  exact Z2 1 (ZA 2 b3 [.i s.op,.i s.num,.i z3,.h v1,XG s.kids] (ie (ar (Xx (Kf 3 v1 s.args) (Xx (Ud 0 0 3 v1.v 1 b3 (Z7 s.args) [.i s.op,.i s.num,.i z3,.h v1,XG s.kids] (Yw _) rfl) (ZU 1 [0] (ZA 4 b2 [.i s.op,.i s.num,.i z3,ZQ s.args v1.v,XG s.kids] (ie (ZK (r3 [3] [.agg [.i s.op,.i s.num,.i z3,ZQ s.args v1.v,XG s.kids]] [0] [(b2,b2)] ⟨(Z3.mk s.op s.num z3 s.args s.kids),(p+1)+1,rfl,rfl,⟨by first|exact Vc.refl hg|exact Vc.of hg (by first|exact .inl rfl|exact .inr hon) (by first|exact Nat.le_succ _|(simp<;>omega)) (by first|exact .inl rfl|exact .inr rfl),by omega,by omega⟩⟩ (Ze.agg (.cons (lr _) (.cons (lr _) (.cons (lr _) (.cons (Ze.forget _ _) (.cons (lr _) .nil))))))))))))))))
 refine ar (YR (k1==3) Zz (fun Yq=>?_) (fun Yq=>?_))
 ·refine aE 9 (ZH 6 9 [0,1,2] [1] (Z8 3 (dL 3 [1] [b3] (Z7 [0,1,-1]) 3 1 fun v5=>Yh 5 5 [] [(33,Z6 [0,1,-1])] (Z8 4 (dc 4 [1] [0] [b3] (WW rd bs (p+1) [0,1,-1] (Zt:=ob)) ?_)))))
  rintro _ _ ⟨z4,rfl,rfl,X9⟩
  have hon:=X9
  exact Z8 5 (dL 5 [1] [b3] (Z7 [z4]) 1 1 fun v6=>Yh 3 3 [] [(35,Z6 [z4])] (Z8 6 (Pe 6 4 [] [] v1 s.args [z4] none fun v7=>Zk 1 2 [7] (Z8 8 (Yy 8 4 [] [] b3 [.i s.op,.i s.num,.i s.into,.h v7,XG s.kids] (de (ar (Xx (Kf 1 v7 (s.args++[z4])) (Xx (Ud 0 0 3 v7.v 1 b3 (Z7 (s.args++[z4])) [.i s.op,.i s.num,.i s.into,.h v7,XG s.kids] (Yw _) rfl) (ZU 1 [0] (ZA 5 b2 [.i s.op,.i s.num,.i s.into,ZQ (s.args++[z4]) v7.v,XG s.kids] (ie (ZK (r3 [4] [.agg [.i s.op,.i s.num,.i s.into,ZQ (s.args++[z4]) v7.v,XG s.kids]] [0] [(b2,b2)] ⟨(Z3.mk s.op s.num s.into (s.args++[z4]) s.kids),(p+1)+1,rfl,rfl,⟨by first|exact Vc.refl hg|exact Vc.of hg (by first|exact .inl rfl|exact .inr hon) (by first|exact Nat.le_succ _|(simp<;>omega)) (by first|exact .inl rfl|exact .inr rfl),by omega,by omega⟩⟩ (Ze.agg (.cons (lr _) (.cons (lr _) (.cons (lr _) (.cons (Ze.forget _ _) (.cons (lr _) .nil))))))))))))))))))))
 refine ar (YR (k1==4) Zz (fun XH=>?_) (fun XH=>?_))
 ·refine Zo 2 [1] (Zm (Au 2 v1 s.args) (ZT ((s.args.length:Int)>0) (fun XI=>?_) (fun XI=>?_)))
  ·refine aE 12 (ZH 7 12 [0,1,2,3,4] [1,1] (dx 5 (Au 2 v1 s.args) (Zk 5 6 [7] (WU 6 8 ?_ ?_))))
   ·refine dc 6 [0] [0] [b3] (UP rd bs (p+1) s.args.length (Zt:=ob)) ?_
    rintro _ _ ⟨Yn,rfl,rfl,XV⟩
    refine Z8 8 (dL 8 [1] [b3] (Z7 [0,1,2,3,-1,99]) 6 1 fun v8=>Yh 3 3 [] [(52,Z6 [0,1,2,3,-1,99])] (Z8 9 (dc 9 [1] [0] [b3] (WW rd bs ((p+1)+1) [0,1,2,3,-1,99] (Zt:=ob)) ?_)))
    rintro _ _ ⟨z5,rfl,rfl,Wu⟩
    have hon:=Wu
    exact dx 10 (V9 3 v1 s.args (Yn:Int) Yn) (Z8 11 (Jk 11 3 [] [] v1 s.args Yn z5 (de (ar (Xx (Kf 0 v1 (s.args.set Yn z5)) (Xx (Ud 0 2 3 v1.v 1 b3 (Z7 (s.args.set Yn z5)) [.i s.op,.i s.num,.i s.into,.h v1,XG s.kids] (Yw _) rfl) (ZU 1 [0] (ZA 4 b2 [.i s.op,.i s.num,.i s.into,ZQ (s.args.set Yn z5) v1.v,XG s.kids] (ie (ZK (r3 [3] [.agg [.i s.op,.i s.num,.i s.into,ZQ (s.args.set Yn z5) v1.v,XG s.kids]] [0] [(b2,b2)] ⟨(Z3.mk s.op s.num s.into (s.args.set Yn z5) s.kids),((p+1)+1)+1,rfl,rfl,⟨by first|exact Vc.refl hg|exact Vc.of hg (by first|exact .inl rfl|exact .inr hon) (by first|exact Nat.le_succ _|(simp<;>omega)) (by first|exact .inl rfl|exact .inr rfl),by omega,by omega⟩⟩ (Ze.agg (.cons (lr _) (.cons (lr _) (.cons (lr _) (.cons (Ze.forget _ _) (.cons (lr _) .nil)))))))))))))))))
   refine dL 8 [1,1] [b3,b3] (Z7 [0,1,2,3,-1,99]) 6 1 fun v9=>Z8 6 (dc 6 [1] [0] [b3] (UP rd bs (p+1) s.args.length (Zt:=ob)) ?_)
   rintro _ _ ⟨YB,rfl,rfl,V5⟩
   refine Yh 3 3 [] [(52,Z6 [0,1,2,3,-1,99])] (Z8 9 (dc 9 [0] [0] [b3] (WW rd bs ((p+1)+1) [0,1,2,3,-1,99] (Zt:=ob)) ?_))
   rintro _ _ ⟨z6,rfl,rfl,Vm⟩
   have hon:=Vm
   exact dx 10 (V9 3 v1 s.args (YB:Int) YB) (Z8 11 (Jk 11 3 [] [] v1 s.args YB z6 (de (ar (Xx (Kf 0 v1 (s.args.set YB z6)) (Xx (Ud 0 2 3 v1.v 1 b3 (Z7 (s.args.set YB z6)) [.i s.op,.i s.num,.i s.into,.h v1,XG s.kids] (Yw _) rfl) (ZU 1 [0] (ZA 4 b2 [.i s.op,.i s.num,.i s.into,ZQ (s.args.set YB z6) v1.v,XG s.kids] (ie (ZK (r3 [3] [.agg [.i s.op,.i s.num,.i s.into,ZQ (s.args.set YB z6) v1.v,XG s.kids]] [0] [(b2,b2)] ⟨(Z3.mk s.op s.num s.into (s.args.set YB z6) s.kids),((p+1)+1)+1,rfl,rfl,⟨by first|exact Vc.refl hg|exact Vc.of hg (by first|exact .inl rfl|exact .inr hon) (by first|exact Nat.le_succ _|(simp<;>omega)) (by first|exact .inl rfl|exact .inr rfl),by omega,by omega⟩⟩ (Ze.agg (.cons (lr _) (.cons (lr _) (.cons (lr _) (.cons (Ze.forget _ _) (.cons (lr _) .nil)))))))))))))))))
  exact ak (ar (Xx (Kf 2 v1 s.args) (Xx (Ud 0 1 3 v1.v 1 b3 (Z7 s.args) [.i s.op,.i s.num,.i s.into,.h v1,XG s.kids] (Yw _) rfl) (ZU 1 [0] (ZA 3 b2 [.i s.op,.i s.num,.i s.into,ZQ s.args v1.v,XG s.kids] (ie (ZK (r3 [3] [.agg [.i s.op,.i s.num,.i s.into,ZQ s.args v1.v,XG s.kids]] [0] [(b2,b2)] ⟨s,p+1,rfl,rfl,⟨by first|exact Vc.refl hg|exact Vc.of hg (by first|exact .inl rfl|exact .inr hon) (by first|exact Nat.le_succ _|(simp<;>omega)) (by first|exact .inl rfl|exact .inr rfl),by omega,by omega⟩⟩ (Ze.agg (.cons (lr _) (.cons (lr _) (.cons (lr _) (.cons (Ze.forget _ _) (.cons (lr _) .nil))))))))))))))
 refine ar (YR (k1==5) Zz (fun TV=>?_) (fun TV=>?_))
 ·refine Zo 2 [1] (iw (Vk s.kids) (ZT ((s.kids.length:Int)>0) (fun Td=>?_) (fun Td=>?_)))
  ·exact az (ZU 2 [1] (Zm (Ke (es:=Yu s.kids) (hv:=none) (l:=1) (m:=(((Yu s.kids).length:Nat):Int)) (sz:=2) (es':=Yu (s.kids.drop 1)) kr om (by simp<;>omega) (by simp<;>omega) (Uy _) (by first|(simp only [VV,Va,EO,EN];done)|(simp only [VV,Va,EO,EN];rfl)|(simp [EO,EN];done))) (Z2 1 (ZA 1 b3 [.i s.op,.i s.num,.i s.into,.h v1,XG (s.kids.drop 1)] (ie (ar (Xx (Kf 2 v1 s.args) (Xx (Ud 0 0 3 v1.v 1 b3 (Z7 s.args) [.i s.op,.i s.num,.i s.into,.h v1,XG (s.kids.drop 1)] (Yw _) rfl) (ZU 1 [0] (ZA 3 b2 [.i s.op,.i s.num,.i s.into,ZQ s.args v1.v,XG (s.kids.drop 1)] (ie (ZK (r3 [3] [.agg [.i s.op,.i s.num,.i s.into,ZQ s.args v1.v,XG (s.kids.drop 1)]] [0] [(b2,b2)] ⟨(Z3.mk s.op s.num s.into s.args (s.kids.drop 1)),p+1,rfl,rfl,⟨by first|exact Vc.refl hg|exact Vc.of hg (by first|exact .inl rfl|exact .inr hon) (by first|exact Nat.le_succ _|(simp<;>omega)) (by first|exact .inl rfl|exact .inr rfl),by omega,by omega⟩⟩ (Ze.agg (.cons (lr _) (.cons (lr _) (.cons (lr _) (.cons (Ze.forget _ _) (.cons (lr _) .nil)))))))))))))))))))
  exact ak (ar (Xx (Kf 2 v1 s.args) (Xx (Ud 0 1 3 v1.v 1 b3 (Z7 s.args) [.i s.op,.i s.num,.i s.into,.h v1,XG s.kids] (Yw _) rfl) (ZU 1 [0] (ZA 3 b2 [.i s.op,.i s.num,.i s.into,ZQ s.args v1.v,XG s.kids] (ie (ZK (r3 [3] [.agg [.i s.op,.i s.num,.i s.into,ZQ s.args v1.v,XG s.kids]] [0] [(b2,b2)] ⟨s,p+1,rfl,rfl,⟨by first|exact Vc.refl hg|exact Vc.of hg (by first|exact .inl rfl|exact .inr hon) (by first|exact Nat.le_succ _|(simp<;>omega)) (by first|exact .inl rfl|exact .inr rfl),by omega,by omega⟩⟩ (Ze.agg (.cons (lr _) (.cons (lr _) (.cons (lr _) (.cons (Ze.forget _ _) (.cons (lr _) .nil))))))))))))))
 exact ak (ar (Xx (Kf 2 v1 s.args) (Xx (Ud 0 1 3 v1.v 1 b3 (Z7 s.args) [.i s.op,.i s.num,.i s.into,.h v1,XG s.kids] (Yw _) rfl) (ZU 1 [0] (ZA 3 b2 [.i s.op,.i s.num,.i s.into,ZQ s.args v1.v,XG s.kids] (ie (ZK (r3 [3] [.agg [.i s.op,.i s.num,.i s.into,ZQ s.args v1.v,XG s.kids]] [0] [(b2,b2)] ⟨s,p+1,rfl,rfl,⟨by first|exact Vc.refl hg|exact Vc.of hg (by first|exact .inl rfl|exact .inr hon) (by first|exact Nat.le_succ _|(simp<;>omega)) (by first|exact .inl rfl|exact .inr rfl),by omega,by omega⟩⟩ (Ze.agg (.cons (lr _) (.cons (lr _) (.cons (lr _) (.cons (Ze.forget _ _) (.cons (lr _) .nil))))))))))))))
theorem S9 (rd:Nat) (bs:LI) (p:Nat) (mx:Int) (Zt:∀z∈bs,0<=z/\z<=255) (hp:p+1<=1000000000):Zf 79 [.p rd 0,.i mx] [Yc rd bs p] (fun r h=>∃(k:Int),r=.i k/\h=[.obj rd [V7 bs,.i (p+1:Nat)]]/\Pk mx k/\k=KZ bs p mx):=by
 refine ZD 99 Tryz.func79 (Ya (Zo 5 [0] (ZG p (Z2 2 (ZA 0 rd [V7 bs,.i (p+1:Nat)] (ie (X7 (XM [0,1] [(24,.b ((decide (mx<1))||((bs.length:Int)==0)))] (fun gz=>gz) ?_ ?_))))))))
 ·refine Z2 3 (ib (b:=(decide (mx<1))) 17 (fun Zb=>?_) (fun Zb=>?_))
  ·exact Z1 (wk [0] (ZM true Zb fl))
  exact ZU 4 [0] (iw (Qg bs) (Z1 (wk [0] (ZM ((bs.length:Int)==0) Zb fl))))
 refine ac ((decide (mx<1))||((bs.length:Int)==0)) (p:=(mx<1)∨((bs.length:Int)=0)) (Xo dq Zz) (fun Z9=>?_) (fun Z9=>?_)
 ·exact ar (Zs (r1 [0] ⟨0,rfl,rfl,⟨Pk.zero,by rw [KZ,Zw om]⟩⟩))
 refine ak (Zo 4 [0] (ia ((p:Int)) ((((p+1:Nat):Int))-(1)) (Z1 (Y6 5 [0] (iw (Qg bs) (ZT ((p:Int)<(bs.length:Int)) (fun Zg=>?_) (fun Zg=>?_)))))))
 ·refine Zo 5 [0] ?_
  obtain ⟨x1,Z5⟩:=Zq bs p om
  have hz:=Zt _ (ZW Z5)
  exact Zm (Zh none (p:Int) 1 (AO Z5)) (Z2 1 (Zm (B5 x1 om) (Z2 1 (Zm (BY x1 mx om om) (Zs (r1 [0] ⟨(x1 % mx),rfl,rfl,⟨Pk.rem om om,by rw [KZ,Zp om,Zw om,Z5];rfl⟩⟩))))))
 have hq1:p / bs.length<=p:=Nat.div_le_self _ _
 have hq0:(0:Int)<=((p / bs.length:Nat):Int):=Int.natCast_nonneg _
 refine ak (aD 46 (ZH 37 46 [0,1,2,3,4,5,6,7,8] [0,0] (dw 9 (Qg bs) (dx 10 (Dm p bs.length om om) ?_))))
 obtain ⟨x2,Zv⟩:=Zq bs (p % bs.length) (Nat.mod_lt _ om)
 have hz:=Zt _ (ZW Zv)
 have hy2:=Zv
 refine dx 11 (Zh none ((p % bs.length:Nat):Int) 1 (AO Zv)) (Zk 33 34 [12] (dx 13 (B5 x2 om) (da 14 ((x2*131)) ((x2)*(131)) (ZH 26 31 [15,16,17,18,19] [0] (da 20 (((p*7:Nat):Int)) (((p:Int))*(7)) (da 21 (((p*7+3:Nat):Int)) ((((p*7:Nat):Int))+(3)) (ZH 20 24 [22,23,24,25] [0] (dw 26 (Qg bs) (dx 27 (Dm (p*7+3) bs.length om om) ?_)))))))))
 obtain ⟨x3,X3⟩:=Zq bs ((p*7+3) % bs.length) (Nat.mod_lt _ om)
 have hz3:=Zt _ (ZW X3)
 have hy3:=X3
 exact dx 28 (Zh none (((p*7+3) % bs.length:Nat):Int) 1 (AO X3)) (Zk 16 17 [29] (dx 30 (B5 x3 om) (da 31 ((x3*1117)) ((x3)*(1117)) (da 32 (((x2*131)+(x3*1117))) (((x2*131))+((x3*1117))) (Zk 12 13 [33] (da 34 (((p*29:Nat):Int)) (((p:Int))*(29)) (da 35 ((((x2*131)+(x3*1117))+((p*29:Nat):Int))) ((((x2*131)+(x3*1117)))+(((p*29:Nat):Int))) (ZH 5 10 [36,37,38,39,40] [0] (dw 41 (Qg bs) (dx 42 (Af p bs.length om om) (da 43 ((((p / bs.length:Nat):Int)*53)) ((((p / bs.length:Nat):Int))*(53)) (da 44 (((((x2*131)+(x3*1117))+((p*29:Nat):Int))+(((p / bs.length:Nat):Int)*53))) (((((x2*131)+(x3*1117))+((p*29:Nat):Int)))+((((p / bs.length:Nat):Int)*53))) (Zk 0 1 [45] (de (Yg 2 (Zm (Fz ((((x2*131)+(x3*1117))+((p*29:Nat):Int))+(((p / bs.length:Nat):Int)*53)) 64 om om) (Zm (IQ ((((x2*131)+(x3*1117))+((p*29:Nat):Int))+(((p / bs.length:Nat):Int)*53)) (((((x2*131)+(x3*1117))+((p*29:Nat):Int))+(((p / bs.length:Nat):Int)*53)) / 64)) (Z1 (Yg 2 (Zm (BY (J6 ((((x2*131)+(x3*1117))+((p*29:Nat):Int))+(((p / bs.length:Nat):Int)*53)) (((((x2*131)+(x3*1117))+((p*29:Nat):Int))+(((p / bs.length:Nat):Int)*53)) / 64)) mx om (E9 ⟨by omega,by omega⟩ ⟨by omega,by omega⟩).1) (Zs (r1 [0] ⟨((J6 ((((x2*131)+(x3*1117))+((p*29:Nat):Int))+(((p / bs.length:Nat):Int)*53)) (((((x2*131)+(x3*1117))+((p*29:Nat):Int))+(((p / bs.length:Nat):Int)*53)) / 64)) % mx),rfl,rfl,⟨Pk.rem (E9 ⟨by omega,by omega⟩ ⟨by omega,by omega⟩).1 om,by rw [KZ,Zp om,Zp om,hy2,hy3];rfl⟩⟩))))))))))))))))))))))
theorem Sa (rd:Nat) (bs:LI) (p:Nat) (mx:Nat) (Zt:∀z∈bs,0<=z/\z<=255) (hp:p+1<=1000000000:=by exact ob) (hmx:0<mx:=by exact ob):Zf 79 [.p rd 0,.i mx] [Yc rd bs p] (fun r h=>∃(kn:Nat),r=.i kn/\h=[.obj rd [V7 bs,.i (p+1:Nat)]]/\kn<mx/\kn=(KZ bs p mx).toNat):=(S9 rd bs p mx Zt hp).mono fun r h ⟨z,hr,hh,hz,he⟩=>by
  have h0:=hz.lt om
  exact ⟨z.toNat,by rw [hr,Int.toNat_of_nonneg h0.1],hh,by omega,by rw [he]⟩
theorem Pa (s:Z3) (hz:s.sz<=1000000000):Zf 139 [Ym s] [] (fun r h=>∃(v:Hd),r=.agg [.i s.op,.i s.num,.i s.into,Z6 s.args,.h v]/\h=[rK v 2 (Zc (Yu s.kids))]):=by
 have hkz:=U8 s
 have haz:=T9 s
 refine ZD 33 Tryz.func139 (ar (iA (Xf s) fun b1=>iA [.i 0,.i 0,.i 0,nl,nl] fun b2=>ie (ar (Di 2 fun g1=>?_))))
 refine Z1 (Y1 (ab 0 (Y0 (fun fz gz m F h=>∃(k:Nat) (v:Hd),(k<=s.kids.length)/\F=sF [1,2] fz [(3,.h v),(4,.i k)]/\h=[Za gz 1,Za gz 2,rK v 2 (Zc (Yu (s.kids.take k)))]/\m=s.kids.length-k) _ _ _ ⟨0,(⟨some ⟨g1,0,none⟩,0,0⟩:Hd),ob,rfl,rfl,rfl⟩ (wk [1,1,0] (fr (Yd fl)) (e:=(rc (rc (rr (ls:=[]) ob rz))))) ?_)))
 rintro m F h ⟨k,v,Yf,rfl,rfl,rfl⟩
 refine Y6 3 [1] (iw (Vk s.kids) (ZT ((k:Int)<(s.kids.length:Int)) (fun Z9=>?_) (fun Z9=>?_)))
 ·refine ak (aq (ab 1 (az (ZU 4 [1] ?_))))
  obtain ⟨x1,Z5⟩:=Zq s.kids k om
  have hks:=VS Z5
  exact Zm (Zh none (k:Int) 2 (Vv Z5)) (Z2 1 (Zu [] (DX x1) (iL [ZC x1] 1 2 fun v1=>ZE 0 [(20,.sl [ZC x1] none)] (Dh 3 k v 2 (Zc (Yu (s.kids.take k))) [ZC x1] none (by rw [BN,Wr,Vb om]) (Ti rfl) rfl (List.cons_ne_nil _ _) (by simp<;>omega) fun v2=>Z1 (az (Z2 1 (ZG k (Z1 (ZI ⟨k+1,v2,ob,rfl,rfl,rfl⟩ (wk [2,2,0] (fr (ZL k fl)) (e:=(rc (rc (rr (ls:=Zc (Yu (s.kids.take k))++Zc [ZC x1]) (PX Z5) rz))))))))))))))
 refine ax 0 (aD 12 (ZH 3 12 [0,1,2,3,4,5,6,7,9] [1,1,1,1] (Z8 8 (dc 8 [] [1,1,1] [b1,b1,b1] (Vr s.args) ?_))))
 rintro _ _ ⟨v3,rfl,rfl⟩
 exact Zk 1 2 [10] (Z8 11 (Yy 11 1 [] [] b2 [.i s.op,.i s.num,.i s.into,ZQ s.args v3,.h v] (de (ZK (r3 [3] [.agg [.i s.op,.i s.num,.i s.into,ZQ s.args v3,.h v]] [0] [(b2,b2)] ⟨v,rfl,rfl⟩ (Ze.agg (.cons (lr _) (.cons (lr _) (.cons (lr _) (.cons (Ze.forget _ _) (.cons (lr _) .nil)))))) (eq:=(rr (ls:=Zc (Yu (s.kids.take k))) (by rw [WT om]) rz)))))))
theorem P9 (s:Z3) (fl:Bool) (hz:s.sz<=1000000000:=by exact ob):Zf 139 [Ym s] [] (fun r h=>(∃(v:Hd),r=.agg [.i s.op,.i s.num,.i s.into,Z6 s.args,.h v]/\h=[rK v 2 (Zc (Yu s.kids))]/\fl=true)∨(r=Ym s/\h=[]/\fl=false)):=by
 cases fl with
 | true=>exact (Pa s hz).mono fun r h ⟨v,hr,hh⟩=>.inl ⟨v,hr,hh,rfl⟩
 | false=>exact (MN s hz).mono fun r h ⟨hr,hh⟩=>.inr ⟨hr,hh,rfl⟩
theorem P6 (b:Z4) (kk:Nat) (hz:b.sz<=1000000000:=by exact ob) (hkk:kk<b.steps.length:=by exact ob):Zf 97 [ZC b] [] (fun r h=>∃(v:Hd) (u:Hd),r=.agg [.h v,.i b.result]/\h=[rK v 5 (Wk b kk u.v b.steps.length),rK u 2 (U7 b kk b.steps.length)]):=by
 have hbz:=WS b
 refine ZD 28 Tryz.func97 (ar (iA (YI b) fun b1=>iA [nl,.i 0] fun b2=>ie (ar (Di 5 fun g1=>ZU 3 [2] (iA [nl,.i 0] fun b3=>?_)))))
 refine ZA 0 b3 [.ms g1 0 0 0,.i b.result] (ie (X7 (Xx (Z5f (k:=2)) (Z1 (ab 0 (Y0 (fun fz gz m F h=>∃(k:Nat) (v:Hd) (u:Hd),(k<=b.steps.length)/\F=sF [1,2,3] fz [(4,.i k)]/\h=[.obj b3 [.h v,.i b.result],Za gz 3,Za gz 4,rK v 5 (Wk b kk u.v k),rK u 2 (U7 b kk k)]/\m=b.steps.length-k) _ _ _ ⟨0,(⟨some ⟨g1,0,none⟩,0,0⟩:Hd),hN,ob,rfl,rfl,rfl⟩ (wk [1,2,2,1,0] (Yd fl) (e:=(rc (rc (rc (rr (ls:=[]) (by first|exact IT.symm|exact IW.symm) (rr (ls:=[]) (by first|exact IT.symm|exact IW.symm) rz))))))) ?_))))))
 rintro m F h ⟨k,v,u,Yf,rfl,rfl,rfl⟩
 refine Y6 3 [2] (iw (W8 b.steps) (ZT ((k:Int)<(b.steps.length:Int)) (fun Z9=>?_) (fun Z9=>?_)))
 ·refine ak (aq (ab 1 (aE 12 (ZH 7 12 [0,1,2,3,4] [0,2] ?_))))
  obtain ⟨x1,Z5⟩:=Zq b.steps k om
  have hss:=UZ Z5
  refine dx 5 (Zh none (k:Int) 5 (XO Z5)) (Zk 5 6 [6] (Z8 7 (dc 7 [] [0] [b3] (P9 x1 (decide (k=kk))) ?_)))
  rintro _ _ (⟨v1,rfl,rfl,ZX⟩|⟨rfl,rfl,Y9⟩)
  ·have hke:k=kk:=of_decide_eq_true ZX
   exact EJ (Nc [1,1,1,0,0,0] (h':=[.obj b3 [.h v,.i b.result],.obj b2 [nl,.i 0],.obj b1 (YI b),rK v1 2 (Zc (Yu x1.kids)),rK v 5 (Wk b kk u.v k),rK u 2 (U7 b kk k)]) (d:=[]) kr) (Z8 8 (dL 8 [0] [b3] [.agg [.i x1.op,.i x1.num,.i x1.into,Z6 x1.args,.h v1]] 1 5 fun v2=>Yh 3 3 [] [(24,.sl [.agg [.i x1.op,.i x1.num,.i x1.into,Z6 x1.args,.h v1]] none)] (Z8 9 (EG 9 5 k [] [] v 5 (Wk b kk u.v k) [.agg [.i x1.op,.i x1.num,.i x1.into,Z6 x1.args,.h v1]] none (FC om) (Ti rfl) rfl (List.cons_ne_nil _ _) (by simp<;>omega) fun v3=>Zk 1 2 [10] (Z8 11 (Yy 11 2 [] [] b3 [.h v3,.i b.result] (de (az (Z2 1 (ZG k (Z1 (ZI ⟨k+1,v3,v1,ob,rfl,rfl,rfl⟩ (wk [0,2,2,0,1] (ZL k fl) (e:=(rc (rc (rc (rr (ls:=Wk b kk u.v k++Zc [.agg [.i x1.op,.i x1.num,.i x1.into,Z6 x1.args,.h v1]]) (by first|(subst hke;exact IS Z5)|(subst hke;exact IV Z5)) (rr (ls:=Zc (Yu x1.kids)) (by first|(subst hke;exact IS Z5)|(subst hke;exact IV Z5)) rz)))))))))))))))))))
  have hke:¬k=kk:=of_decide_eq_false Y9
  exact Z8 8 (dL 8 [0] [b3] [Ym x1] 1 5 fun v4=>Yh 3 3 [] [(24,.sl [Ym x1] none)] (Z8 9 (EG 9 4 k [] [] v 5 (Wk b kk u.v k) [Ym x1] none (FC om) (Ti rfl) rfl (List.cons_ne_nil _ _) (by simp<;>omega) fun v5=>Zk 1 2 [10] (Z8 11 (Yy 11 2 [] [] b3 [.h v5,.i b.result] (de (az (Z2 1 (ZG k (Z1 (ZI ⟨k+1,v5,u,ob,rfl,rfl,rfl⟩ (wk [0,2,2,0,1] (ZL k fl) (e:=(rc (rc (rc (rr (ls:=Wk b kk u.v k++Zc [Ym x1]) (by first|exact IR Z5 hke|exact IU hke) (rr (ls:=U7 b kk k) (by first|exact IR Z5 hke|exact IU hke) rz))))))))))))))))))
 exact ax 0 (Zo 1 [0] (ZA 1 b2 [.h v,.i b.result] (ie (ZK (r3 [3,3] [.agg [.h v,.i b.result]] [0] [(b2,b2)] ⟨v,u,rfl,rfl⟩ (lr _) (eq:=(rr (ls:=Wk b kk u.v k) (by rw [show k=b.steps.length by omega]) (rr (ls:=U7 b kk k) (by rw [show k=b.steps.length by omega]) rz))))))))
theorem Si (rd:Nat) (bs:LI) (p:Nat) (b:Z4) (Zt:∀z∈bs,0<=z/\z<=255) (hp:p+(10*b.sz)<=1000000000) (hz:b.sz<=20000000) (hg:b.rgb) (h0:b.steps.length=0):Zf 114 [.p rd 0,ZC b] [Yc rd bs p] (fun r h=>∃(y:Z4) (p2:Nat),r=ZC y/\h=[Yc rd bs p2]/\Xg b y/\p<=p2/\p2<=p+(10*b.sz)):=by
 have hbp:=b.sz_pos
 refine ZD 109 Tryz.func114 (ar (iA (YI b) fun b1=>iA [nl,.i 0] fun b2=>ie (Zo 1 [1] (Zu [] (DX b) (iA [nl,.i 0] fun b3=>ZA 0 b3 (YI b) (ie (Y6 2 [0] (iw (W8 b.steps) (Z2 2 (ib (b:=((b.steps.length:Int)==0)) 14 (fun Zb=>?_) (fun Zb=>?_)))))))))))
 ·refine Z1 (Vj (Yg 1 (iL (Z7 [0,1,2,3,-1,99]) 6 1 fun v1=>ZE 0 [(20,Z6 [0,1,2,3,-1,99])] (ic [4] (WW rd bs p [0,1,2,3,-1,99] (Zt:=ob)) ?_))))
  rintro _ _ ⟨z1,rfl,rfl,Y9⟩
  have hon:=Y9
  simp only [Yr,List.not_mem_nil,or_false] at hon
  exact Z2 1 (ZA 2 b3 [Wp b.steps,.i z1] (ie (Zo 1 [0] (ZA 3 b2 [Wp b.steps,.i z1] (ie (ZK (r3 [2] [.agg [Wp b.steps,.i z1]] [0] [(b2,b2)] ⟨(Z4.mk b.steps z1),p+1,rfl,rfl,⟨Xg.result hg _,by have:=b.sz_pos;omega,by have:=b.sz_pos;omega⟩⟩ (lr _))))))))
 have YL:¬((b.steps.length:Int)=0):=YS Zz Zb
 exact absurd (show (b.steps.length:Int)=0 by omega) YL
theorem Sj (rd:Nat) (bs:LI) (p:Nat) (b:Z4) (Zt:∀z∈bs,0<=z/\z<=255) (hp:p+(10*b.sz)<=1000000000) (hz:b.sz<=20000000) (hg:b.rgb) (h0:0<b.steps.length) (ih:∀(rd:Nat) (bs:LI) (p:Nat) (b2:Z4),(∀z∈bs,0<=z/\z<=255)->(p+(10*b2.sz)<=1000000000)->(b2.sz<=20000000)->(b2.rgb)->(b2.sz<b.sz)->Zf 114 [.p rd 0,ZC b2] [Yc rd bs p] (fun r h=>∃(y:Z4) (p2:Nat),r=ZC y/\h=[Yc rd bs p2]/\Xg b2 y/\p<=p2/\p2<=p+(10*b2.sz))):Zf 114 [.p rd 0,ZC b] [Yc rd bs p] (fun r h=>∃(y:Z4) (p2:Nat),r=ZC y/\h=[Yc rd bs p2]/\Xg b y/\p<=p2/\p2<=p+(10*b.sz)):=by
 have hbp:=b.sz_pos
 obtain ⟨kk,hkk⟩:∃kk,kk=(KZ bs (p+1) (b.steps.length:Int)).toNat:=⟨_,rfl⟩
 have hkl:kk<b.steps.length:=by have:=Z25 (bs:=bs) (p:=p+1) (mx:=(b.steps.length:Int)) om;omega
 obtain ⟨sk,hsk⟩:=Zq b.steps kk hkl
 have hsb:=UZ hsk
 have hsg:=Z2k hg hsk
 have hst:=WS b
 refine ZD 109 Tryz.func114 (ar (iA (YI b) fun b1=>iA [nl,.i 0] fun b2=>ie (Zo 1 [1] (ic [] (P6 b kk) ?_))))
 rintro _ _ ⟨v1,u1,rfl,rfl⟩
 refine Dg 0 b.steps.length (v:=v1) (FC (kk:=kk) (u:=u1.v) (YQ b.steps.length)) om (fun g1 c1 he1=>?_)
 subst he1
 refine Xx (Nc [0,1,1,1,0] (h':=[.row (.slice (some ⟨g1,0,none⟩) b.steps.length c1) 5 (Wk b kk u1.v b.steps.length),.obj b2 [nl,.i 0],.obj b1 (YI b),Yc rd bs p,rK u1 2 (U7 b kk b.steps.length)]) (d:=[]) kr) (iA [nl,.i 0] fun b3=>ZA 0 b3 [.ms g1 0 b.steps.length c1,.i b.result] (ie (Y6 2 [0] (io (.i b.steps.length) (.i b.steps.length) (lr _) (Z2 2 (ib (b:=((b.steps.length:Int)==0)) 14 (fun Zb=>?_) (fun Zb=>?_)))))))
 ·have ZX:(b.steps.length:Int)=0:=(Zz).1 Zb
  exact absurd ZX om
 have Y9:¬((b.steps.length:Int)=0):=YS Zz Zb
 refine Z2 1 (ic [4] (XN rd bs p 5 (Zt:=ob)) ?_)
 rintro _ _ ⟨k1,rfl,rfl,YL⟩
 refine YR (k1==0) Zz (fun Z9=>?_) (fun Z9=>?_)
 ·refine ar (Xx (GC 5 2 b kk sk u1.v (.slice (some ⟨g1,0,none⟩) b.steps.length c1) hsk) (Xx (Ud 0 2 0 (.slice (some ⟨g1,0,none⟩) b.steps.length c1) 5 b3 (Zj b.steps) [.ms g1 0 b.steps.length c1,.i b.result] (X1 _) rfl) (Z2 1 (iL (Z7 [0,1,2,3,-1,99]) 6 1 fun v2=>ZE 0 [(20,Z6 [0,1,2,3,-1,99])] (ic [4] (WW rd bs (p+1) [0,1,2,3,-1,99] (Zt:=ob)) ?_)))))
  rintro _ _ ⟨z1,rfl,rfl,YX⟩
  have hon:=YX
  simp only [Yr,List.not_mem_nil,or_false] at hon
  exact Z2 1 (ZA 2 b3 [YG b.steps (.slice (some ⟨g1,0,none⟩) b.steps.length c1),.i z1] (ie (Zo 1 [0] (ZA 5 b2 [YG b.steps (.slice (some ⟨g1,0,none⟩) b.steps.length c1),.i z1] (ie (ZK (r3 [2] [.agg [YG b.steps (.slice (some ⟨g1,0,none⟩) b.steps.length c1),.i z1]] [0] [(b2,b2)] ⟨(Z4.mk b.steps z1),(p+1)+1,rfl,rfl,(by first|exact ⟨Xg.result hg _,by omega,by omega⟩|exact ⟨Xg.kid hg hsk hck hyb.1,by omega,by omega⟩|exact ⟨Xg.del hg,by omega,by omega⟩|exact ⟨Xg.put hg,by omega,by omega⟩|exact ⟨Xg.set hg hsk ⟨by have:=hys.1.1;omega,hys.1.2⟩,by omega,by omega⟩)⟩ (Ze.agg (.cons (Ze.forget _ _) (.cons (lr _) .nil))))))))))
 refine ak (Zo 3 [1] (io (.i b.steps.length) (.i b.steps.length) (lr _) (ic [0] (Sa rd bs (p+1) b.steps.length (Zt:=ob)) ?_)))
 rintro _ _ ⟨Yn,rfl,rfl,X9⟩
 have hkn:Yn=kk:=by have:=X9.2;omega
 refine Z1 (Y6 3 [1] (Zm (XS g1 b.steps.length c1 Yn 5 (Yn:Int)) (Z2 1 (Vn (WD 2 g1 b.steps.length c1 5 (Yn*5+4) (Wk b kk u1.v b.steps.length) [.h u1] 50 (.h u1) (by rw [hkn];exact Dp hsk)) (Zm (Z0a 5 sk.kids.length u1 2 (U7 b kk b.steps.length) (by rw [FD hsk];exact BN _)) (Z2 2 (ib (b:=(decide ((sk.kids.length:Int)>0))) 37 (fun ZP=>?_) (fun ZP=>?_))))))))
 ·have XV:(sk.kids.length:Int)>0:=(dq).1 ZP
  refine Z2 1 (ic [0] (XN rd bs ((p+1)+1) 3 (Zt:=ob)) ?_)
  rintro _ _ ⟨k2,rfl,rfl,Wu⟩
  refine ZT (k2>0) (fun Zg=>?_) (fun Zg=>?_)
  ·refine ar (Xx (GF 5 u1.v 2 (U7 b kk b.steps.length) (Zc (Yu sk.kids)) (FD hsk)) (Dg 0 sk.kids.length (v:=u1) (BN _) om (fun g2 c2 he2=>?_)))
   subst he2
   refine ZU 4 [2] (Zm (XS g1 b.steps.length c1 Yn 5 (Yn:Int)) (Z2 1 (Vn (WD 3 g1 b.steps.length c1 5 (Yn*5+4) (Wk b kk (.slice (some ⟨g2,0,none⟩) sk.kids.length c2) b.steps.length) [.ms g2 0 sk.kids.length c2] 50 (.ms g2 0 sk.kids.length c2) (by rw [hkn];exact Dp hsk)) (io (.i sk.kids.length) (.i sk.kids.length) (lr _) (ic [1] (UP rd bs (((p+1)+1)+1) sk.kids.length (Zt:=ob)) ?_)))))
   rintro _ _ ⟨YB,rfl,rfl,V5⟩
   obtain ⟨ck,hck⟩:=Zq sk.kids YB om
   have hckz:=VS hck
   have hckb:=UZ hsk
   have hckg:=G7 hg hsk hck
   refine Z1 (aD 20 (ZH 17 20 [0,1,2] [2] (dx 3 (XS g1 b.steps.length c1 Yn 5 (Yn:Int)) (Zk 15 16 [4] (Vu 5 (WD 3 g1 b.steps.length c1 5 (Yn*5+4) (Wk b kk (.slice (some ⟨g2,0,none⟩) sk.kids.length c2) b.steps.length) [.ms g2 0 sk.kids.length c2] 50 (.ms g2 0 sk.kids.length c2) (by rw [hkn];exact Dp hsk)) (ZH 9 14 [6,7,8,9,10] [2] (dx 11 (XS g1 b.steps.length c1 Yn 5 (Yn:Int)) (Zk 7 8 [12] (Vu 13 (WD 3 g1 b.steps.length c1 5 (Yn*5+4) (Wk b kk (.slice (some ⟨g2,0,none⟩) sk.kids.length c2) b.steps.length) [.ms g2 0 sk.kids.length c2] 50 (.ms g2 0 sk.kids.length c2) (by rw [hkn];exact Dp hsk)) (Zk 5 6 [14] (dx 15 (XS g2 sk.kids.length c2 YB 2 (YB:Int)) (Vu 16 (WD 1 g2 sk.kids.length c2 2 (YB*2) (Zc (Yu sk.kids)) (YI ck) 34 (ZC ck) (PW hck)) (Z8 17 (dc 17 [0] [2,1] [g1,b3] (ih rd bs ((((p+1)+1)+1)+1) ck ob ob ob ob ob) ?_))))))))))))))
   rintro _ _ ⟨y1,p21,rfl,rfl,Vm⟩
   have hyb:=Vm
   exact dx 18 (XS g2 sk.kids.length c2 YB 2 (YB:Int)) (Z8 19 (JW 19 1 [] [] g2 sk.kids.length c2 2 (YB*2) (YI y1) (Zc (Yu sk.kids)) (Zc (Yu (sk.kids.set YB y1))) (by rw [BN];simp only [YD,X8];omega) (PY y1 om) (de (ar (Xx (N8 0 2 b kk sk (sk.kids.set YB y1) (.slice (some ⟨g2,0,none⟩) sk.kids.length c2) (.slice (some ⟨g1,0,none⟩) b.steps.length c1) hsk) (Xx (Ud 0 2 0 (.slice (some ⟨g1,0,none⟩) b.steps.length c1) 5 b3 (Zj (b.steps.set kk (Z3.mk sk.op sk.num sk.into sk.args (sk.kids.set YB y1)))) [.ms g1 0 b.steps.length c1,.i b.result] (X1 _) rfl) (ZU 1 [0] (ZA 4 b2 [YG (b.steps.set kk (Z3.mk sk.op sk.num sk.into sk.args (sk.kids.set YB y1))) (.slice (some ⟨g1,0,none⟩) b.steps.length c1),.i b.result] (ie (ZK (r3 [4] [.agg [YG (b.steps.set kk (Z3.mk sk.op sk.num sk.into sk.args (sk.kids.set YB y1))) (.slice (some ⟨g1,0,none⟩) b.steps.length c1),.i b.result]] [0] [(b2,b2)] ⟨(Z4.mk (b.steps.set kk (Z3.mk sk.op sk.num sk.into sk.args (sk.kids.set YB y1))) b.result),p21,rfl,rfl,(by first|exact ⟨Xg.result hg _,by omega,by omega⟩|exact ⟨Xg.kid hg hsk hck hyb.1,by omega,by omega⟩|exact ⟨Xg.del hg,by omega,by omega⟩|exact ⟨Xg.put hg,by omega,by omega⟩|exact ⟨Xg.set hg hsk ⟨by have:=hys.1.1;omega,hys.1.2⟩,by omega,by omega⟩)⟩ (Ze.agg (.cons (Ze.forget _ _) (.cons (lr _) .nil))))))))))))))
  refine ak (X7 (Xx (GC 5 2 b kk sk u1.v (.slice (some ⟨g1,0,none⟩) b.steps.length c1) hsk) (Z2 1 (ic [2] (XN rd bs (((p+1)+1)+1) 4 (Zt:=ob)) ?_))))
  rintro _ _ ⟨k3,rfl,rfl,US⟩
  refine ie (ab 0 (ar (YR (k3==0) Zz (fun ZF=>?_) (fun ZF=>?_))))
  ·exact aE 12 (ZH 9 12 [0,1,2] [3] (dx 3 (Fy 1 g1 b.steps.length c1 Yn 5 (Zc (Zj b.steps))) (ZH 5 8 [4,5,6] [3] (da 7 (((Yn+1:Nat):Int)) (((Yn:Int))+(1)) (dx 8 (IP 1 g1 b.steps.length c1 (Yn+1) 5 (Zc (Zj b.steps))) (Z8 9 (Hz 9 1 [] [] g1 b.steps.length c1 Yn (Yn+1) 5 (Zc (Zj b.steps)) (V4 _) (Zk 1 2 [10] (Z8 11 (Yy 11 3 [] [] b3 [.ms g1 0 (Yn+(b.steps.length-(Yn+1))) c1,.i b.result] (de (ar (Xx (GF 1 (.slice (some ⟨g1,0,none⟩) (Yn+(b.steps.length-(Yn+1))) c1) 5 (((Zc (Zj b.steps)).take (Yn*5))++((Zc (Zj b.steps)).drop ((Yn+1)*5))) (Zc (Zj (b.steps.take kk++b.steps.drop (kk+1)))) (by rw [hkn];exact HZ hkl)) (Xx (Ud 0 0 0 (.slice (some ⟨g1,0,none⟩) (Yn+(b.steps.length-(Yn+1))) c1) 5 b3 (Zj (b.steps.take kk++b.steps.drop (kk+1))) [.ms g1 0 (Yn+(b.steps.length-(Yn+1))) c1,.i b.result] (X1 _) rfl) (ZU 1 [0] (ZA 4 b2 [YG (b.steps.take kk++b.steps.drop (kk+1)) (.slice (some ⟨g1,0,none⟩) (Yn+(b.steps.length-(Yn+1))) c1),.i b.result] (ie (ZK (r3 [3] [.agg [YG (b.steps.take kk++b.steps.drop (kk+1)) (.slice (some ⟨g1,0,none⟩) (Yn+(b.steps.length-(Yn+1))) c1),.i b.result]] [0] [(b2,b2)] ⟨(Z4.mk (b.steps.take kk++b.steps.drop (kk+1)) b.result),(((p+1)+1)+1)+1,rfl,rfl,(by first|exact ⟨Xg.result hg _,by omega,by omega⟩|exact ⟨Xg.kid hg hsk hck hyb.1,by omega,by omega⟩|exact ⟨Xg.del hg,by omega,by omega⟩|exact ⟨Xg.put hg,by omega,by omega⟩|exact ⟨Xg.set hg hsk ⟨by have:=hys.1.1;omega,hys.1.2⟩,by omega,by omega⟩)⟩ (Ze.agg (.cons (Ze.forget _ _) (.cons (lr _) .nil))))))))))))))))))))))
  refine ar (YR (k3==1) Zz (fun Yq=>?_) (fun Yq=>?_))
  ·refine aD 10 (EJ (Ud 1 2 0 (.slice (some ⟨g1,0,none⟩) b.steps.length c1) 5 b3 (Zj b.steps) [.ms g1 0 b.steps.length c1,.i b.result] (X1 _) rfl) (ZH 6 10 [0,1,2,5] [0] (Z8 3 (dL 3 [0] [b3] (Z7 [14,15,15,16,17]) 5 1 fun v3=>Yh 5 5 [] [(102,Z6 [14,15,15,16,17])] (Z8 4 (dc 4 [3] [0] [b3] (WW rd bs ((((p+1)+1)+1)+1) [14,15,15,16,17] (Zt:=ob)) ?_))))))
   rintro _ _ ⟨z2,rfl,rfl,UT⟩
   have hon:=UT
   simp only [Yr,List.not_mem_nil,or_false] at hon
   refine Z8 6 (dc 6 [0] [0] [b3] (XN rd bs (((((p+1)+1)+1)+1)+1) 4 (Zt:=ob)) ?_)
   rintro _ _ ⟨k4,rfl,rfl,UU⟩
   exact Z8 7 (Yp 7 [] [1] [b3] (Kc z2 k4) (Yh 2 2 [] [(99,ZC b)] (Z8 8 (Yp 8 [] [] [] (Db b Yn (Zl z2 k4)) (Z8 9 (Yy 9 5 [] [] b2 (YI (Z4.mk (W1 b.steps Yn (Zl z2 k4)) b.result)) (de (ZK (r3 [1] [ZC (Z4.mk (W1 b.steps Yn (Zl z2 k4)) b.result)] [0] [(b2,b2)] ⟨(Z4.mk (W1 b.steps Yn (Zl z2 k4)) b.result),(((((p+1)+1)+1)+1)+1)+1,rfl,rfl,(by first|exact ⟨Xg.result hg _,by omega,by omega⟩|exact ⟨Xg.kid hg hsk hck hyb.1,by omega,by omega⟩|exact ⟨Xg.del hg,by omega,by omega⟩|exact ⟨Xg.put hg,by omega,by omega⟩|exact ⟨Xg.set hg hsk ⟨by have:=hys.1.1;omega,hys.1.2⟩,by omega,by omega⟩)⟩ (lr _))))))))))
  refine aE 12 (ZH 5 12 [0,1,2,3,4,5,6] [3,3] (dx 7 (XS g1 b.steps.length c1 Yn 5 (Yn:Int)) (Vu 8 (WD 1 g1 b.steps.length c1 5 (Yn*5) (Zc (Zj b.steps)) (Xf sk) 52 (Ym sk) (by rw [hkn];exact Fa hsk)) (Z8 9 (dc 9 [0] [1] [b3] (Ip rd bs ((((p+1)+1)+1)+1) sk (Zt:=ob)) ?_)))))
  rintro _ _ ⟨y2,p22,rfl,rfl,QA⟩
  have hys:=QA
  exact dx 10 (XS g1 b.steps.length c1 Yn 5 (Yn:Int)) (Z8 11 (JW 11 1 [] [] g1 b.steps.length c1 5 (Yn*5) (Xf y2) (Zc (Zj b.steps)) (Zc (Zj (b.steps.set kk y2))) (by rw [Tz];simp only [YD,X8];omega) (by rw [hkn];exact D7 hsk) (de (ar (Xx (Ud 0 2 0 (.slice (some ⟨g1,0,none⟩) b.steps.length c1) 5 b3 (Zj (b.steps.set kk y2)) [.ms g1 0 b.steps.length c1,.i b.result] (X1 _) rfl) (ZU 1 [0] (ZA 4 b2 [YG (b.steps.set kk y2) (.slice (some ⟨g1,0,none⟩) b.steps.length c1),.i b.result] (ie (ZK (r3 [3] [.agg [YG (b.steps.set kk y2) (.slice (some ⟨g1,0,none⟩) b.steps.length c1),.i b.result]] [0] [(b2,b2)] ⟨(Z4.mk (b.steps.set kk y2) b.result),p22,rfl,rfl,(by first|exact ⟨Xg.result hg _,by omega,by omega⟩|exact ⟨Xg.kid hg hsk hck hyb.1,by omega,by omega⟩|exact ⟨Xg.del hg,by omega,by omega⟩|exact ⟨Xg.put hg,by omega,by omega⟩|exact ⟨Xg.set hg hsk ⟨by have:=hys.1.1;omega,hys.1.2⟩,by omega,by omega⟩)⟩ (Ze.agg (.cons (Ze.forget _ _) (.cons (lr _) .nil)))))))))))))
 have Qi:¬((sk.kids.length:Int)>0):=YS dq ZP
 refine Z1 (Wz (ak (X7 (Xx (GC 5 2 b kk sk u1.v (.slice (some ⟨g1,0,none⟩) b.steps.length c1) hsk) (Z2 1 (ic [2] (XN rd bs ((p+1)+1) 4 (Zt:=ob)) ?_))))))
 rintro _ _ ⟨k5,rfl,rfl,Js⟩
 refine ie (ab 0 (ar (YR (k5==0) Zz (fun XH=>?_) (fun XH=>?_))))
 ·exact aE 12 (ZH 9 12 [0,1,2] [3] (dx 3 (Fy 1 g1 b.steps.length c1 Yn 5 (Zc (Zj b.steps))) (ZH 5 8 [4,5,6] [3] (da 7 (((Yn+1:Nat):Int)) (((Yn:Int))+(1)) (dx 8 (IP 1 g1 b.steps.length c1 (Yn+1) 5 (Zc (Zj b.steps))) (Z8 9 (Hz 9 1 [] [] g1 b.steps.length c1 Yn (Yn+1) 5 (Zc (Zj b.steps)) (V4 _) (Zk 1 2 [10] (Z8 11 (Yy 11 3 [] [] b3 [.ms g1 0 (Yn+(b.steps.length-(Yn+1))) c1,.i b.result] (de (ar (Xx (GF 1 (.slice (some ⟨g1,0,none⟩) (Yn+(b.steps.length-(Yn+1))) c1) 5 (((Zc (Zj b.steps)).take (Yn*5))++((Zc (Zj b.steps)).drop ((Yn+1)*5))) (Zc (Zj (b.steps.take kk++b.steps.drop (kk+1)))) (by rw [hkn];exact HZ hkl)) (Xx (Ud 0 0 0 (.slice (some ⟨g1,0,none⟩) (Yn+(b.steps.length-(Yn+1))) c1) 5 b3 (Zj (b.steps.take kk++b.steps.drop (kk+1))) [.ms g1 0 (Yn+(b.steps.length-(Yn+1))) c1,.i b.result] (X1 _) rfl) (ZU 1 [0] (ZA 4 b2 [YG (b.steps.take kk++b.steps.drop (kk+1)) (.slice (some ⟨g1,0,none⟩) (Yn+(b.steps.length-(Yn+1))) c1),.i b.result] (ie (ZK (r3 [3] [.agg [YG (b.steps.take kk++b.steps.drop (kk+1)) (.slice (some ⟨g1,0,none⟩) (Yn+(b.steps.length-(Yn+1))) c1),.i b.result]] [0] [(b2,b2)] ⟨(Z4.mk (b.steps.take kk++b.steps.drop (kk+1)) b.result),((p+1)+1)+1,rfl,rfl,(by first|exact ⟨Xg.result hg _,by omega,by omega⟩|exact ⟨Xg.kid hg hsk hck hyb.1,by omega,by omega⟩|exact ⟨Xg.del hg,by omega,by omega⟩|exact ⟨Xg.put hg,by omega,by omega⟩|exact ⟨Xg.set hg hsk ⟨by have:=hys.1.1;omega,hys.1.2⟩,by omega,by omega⟩)⟩ (Ze.agg (.cons (Ze.forget _ _) (.cons (lr _) .nil))))))))))))))))))))))
 refine ar (YR (k5==1) Zz (fun XI=>?_) (fun XI=>?_))
 ·refine aD 10 (EJ (Ud 1 2 0 (.slice (some ⟨g1,0,none⟩) b.steps.length c1) 5 b3 (Zj b.steps) [.ms g1 0 b.steps.length c1,.i b.result] (X1 _) rfl) (ZH 6 10 [0,1,2,5] [0] (Z8 3 (dL 3 [0] [b3] (Z7 [14,15,15,16,17]) 5 1 fun v4=>Yh 5 5 [] [(102,Z6 [14,15,15,16,17])] (Z8 4 (dc 4 [3] [0] [b3] (WW rd bs (((p+1)+1)+1) [14,15,15,16,17] (Zt:=ob)) ?_))))))
  rintro _ _ ⟨z3,rfl,rfl,KR⟩
  have hon:=KR
  simp only [Yr,List.not_mem_nil,or_false] at hon
  refine Z8 6 (dc 6 [0] [0] [b3] (XN rd bs ((((p+1)+1)+1)+1) 4 (Zt:=ob)) ?_)
  rintro _ _ ⟨k6,rfl,rfl,De⟩
  exact Z8 7 (Yp 7 [] [1] [b3] (Kc z3 k6) (Yh 2 2 [] [(99,ZC b)] (Z8 8 (Yp 8 [] [] [] (Db b Yn (Zl z3 k6)) (Z8 9 (Yy 9 5 [] [] b2 (YI (Z4.mk (W1 b.steps Yn (Zl z3 k6)) b.result)) (de (ZK (r3 [1] [ZC (Z4.mk (W1 b.steps Yn (Zl z3 k6)) b.result)] [0] [(b2,b2)] ⟨(Z4.mk (W1 b.steps Yn (Zl z3 k6)) b.result),((((p+1)+1)+1)+1)+1,rfl,rfl,(by first|exact ⟨Xg.result hg _,by omega,by omega⟩|exact ⟨Xg.kid hg hsk hck hyb.1,by omega,by omega⟩|exact ⟨Xg.del hg,by omega,by omega⟩|exact ⟨Xg.put hg,by omega,by omega⟩|exact ⟨Xg.set hg hsk ⟨by have:=hys.1.1;omega,hys.1.2⟩,by omega,by omega⟩)⟩ (lr _))))))))))
 refine aE 12 (ZH 5 12 [0,1,2,3,4,5,6] [3,3] (dx 7 (XS g1 b.steps.length c1 Yn 5 (Yn:Int)) (Vu 8 (WD 1 g1 b.steps.length c1 5 (Yn*5) (Zc (Zj b.steps)) (Xf sk) 52 (Ym sk) (by rw [hkn];exact Fa hsk)) (Z8 9 (dc 9 [0] [1] [b3] (Ip rd bs (((p+1)+1)+1) sk (Zt:=ob)) ?_)))))
 rintro _ _ ⟨y3,p23,rfl,rfl,Ad⟩
 have hys:=Ad
 exact dx 10 (XS g1 b.steps.length c1 Yn 5 (Yn:Int)) (Z8 11 (JW 11 1 [] [] g1 b.steps.length c1 5 (Yn*5) (Xf y3) (Zc (Zj b.steps)) (Zc (Zj (b.steps.set kk y3))) (by rw [Tz];simp only [YD,X8];omega) (by rw [hkn];exact D7 hsk) (de (ar (Xx (Ud 0 2 0 (.slice (some ⟨g1,0,none⟩) b.steps.length c1) 5 b3 (Zj (b.steps.set kk y3)) [.ms g1 0 b.steps.length c1,.i b.result] (X1 _) rfl) (ZU 1 [0] (ZA 4 b2 [YG (b.steps.set kk y3) (.slice (some ⟨g1,0,none⟩) b.steps.length c1),.i b.result] (ie (ZK (r3 [3] [.agg [YG (b.steps.set kk y3) (.slice (some ⟨g1,0,none⟩) b.steps.length c1),.i b.result]] [0] [(b2,b2)] ⟨(Z4.mk (b.steps.set kk y3) b.result),p23,rfl,rfl,(by first|exact ⟨Xg.result hg _,by omega,by omega⟩|exact ⟨Xg.kid hg hsk hck hyb.1,by omega,by omega⟩|exact ⟨Xg.del hg,by omega,by omega⟩|exact ⟨Xg.put hg,by omega,by omega⟩|exact ⟨Xg.set hg hsk ⟨by have:=hys.1.1;omega,hys.1.2⟩,by omega,by omega⟩)⟩ (Ze.agg (.cons (Ze.forget _ _) (.cons (lr _) .nil)))))))))))))
theorem Sh (rd:Nat) (bs:LI) (p:Nat) (b:Z4) (Zt:∀z∈bs,0<=z/\z<=255) (hp:p+10*b.sz<=1000000000:=by exact ob) (hz:b.sz<=20000000:=by exact ob) (hg:b.rgb:=by exact ob):Zf 114 [.p rd 0,ZC b] [Yc rd bs p] (fun r h=>∃(y:Z4) (p2:Nat),r=ZC y/\h=[Yc rd bs p2]/\Xg b y/\p<=p2/\p2<=p+(10*b.sz)):=by
 have key:∀k:Nat,∀(rd:Nat) (bs:LI) (p:Nat) (b2:Z4),(∀z∈bs,0<=z/\z<=255)->(p+(10*b2.sz)<=1000000000)->(b2.sz<=20000000)->(b2.rgb)->(b2.sz<k)->Zf 114 [.p rd 0,ZC b2] [Yc rd bs p] (fun r h=>∃(y:Z4) (p2:Nat),r=ZC y/\h=[Yc rd bs p2]/\Xg b2 y/\p<=p2/\p2<=p+(10*b2.sz)):=by
  intro k
  induction k with
  | zero=>intro rd bs p b2 h1 h2 h3 h4 h5;omega
  | succ k ih=>
   intro rd bs p b2 h1 h2 h3 h4 h5
   by_cases h0:b2.steps.length=0
   ·exact Si rd bs p b2 h1 h2 h3 h4 h0
   ·exact Sj rd bs p b2 h1 h2 h3 h4 om fun rd bs p b3 q1 q2 q3 q4 q5=>ih rd bs p b3 q1 q2 q3 q4 om
 exact key (b.sz+1) rd bs p b Zt hp hz hg om
theorem Io (rd:Nat) (bs:LI) (p:Nat) (n:Zx) (often:Nat) (q:Nat) (l:Nat) (Zt:∀z∈bs,0<=z/\z<=255) (hp:p+(10*q+20)<=1000000000:=by exact ob) (hzn:ZS n q l:=by exact ob) (hq:q<=9999000:=by exact ob) (hl:l<=100:=by exact ob) (ho:0<often:=by exact ob):Zf 72 [.p rd 0,Yl n,.i often] [Yc rd bs p] (fun r h=>∃(n2:Zx) (p2:Nat),r=Yl n2/\h=[Yc rd bs p2]/\ZS n2 (q+2) (l+1)/\p<=p2/\p2<=p+(10*q+20)):=by
 have hnl:=hzn.len
 refine ZD 64 Tryz.func72 (ar (iA (YN n) fun b1=>iA [nl,nl] fun b2=>ie (X4 2 (ic [2] (UP rd bs p often (Zt:=ob)) ?_))))
 rintro _ _ ⟨Yn,rfl,rfl,ZX⟩
 refine ZT ((Yn:Int)>0) (fun Z9=>?_) (fun Z9=>?_)
 ·exact Zo 1 [2] (ZA 1 b2 (YN n) (ie (ZK (r3 [1] [Yl n] [0] [(b2,b2)] ⟨n,p+1,rfl,rfl,(by first|exact ⟨hzn.le om om,by omega,by omega⟩|exact ⟨hzn.set hx1k om om om om ⟨hz1.2.2.2,hzn.rb _ (ZW hx1k)⟩,by omega,by omega⟩|exact ⟨(hzn.le om om).ds had.1,by omega,by omega⟩|exact ⟨hzn.set hx2k om om om (by have:=hsb.1.1;omega) hsb.1.2,by omega,by omega⟩)⟩ (lr _)))))
 refine ak (Zo 3 [2] (iw (Up n.routines) (ic [0] (UP rd bs (p+1) n.routines.length (Zt:=ob)) ?_)))
 rintro _ _ ⟨YB,rfl,rfl,Y9⟩
 refine Z1 (X4 1 (ic [0] (XN rd bs ((p+1)+1) 8 (Zt:=ob)) ?_))
 rintro _ _ ⟨k1,rfl,rfl,YL⟩
 refine ie (ab 0 (ar (YR (k1==0) Zz (fun Zg=>?_) (fun Zg=>?_))))
 ·refine aD 11 (ZH 6 11 [0,1,2,3,4] [2,2] ?_)
  obtain ⟨x1,Z5⟩:=Zq n.routines YB om
  have hx1k:=Z5
  have hz1:=hzn.rt _ (ZW Z5)
  refine dx 5 (Zh none (YB:Int) 5 (WB Z5)) (Zk 3 5 [6,7] (Ky (fun fz gz F h=>∃(g1:Nat) (c1:Nat) (b3:Nat),F=sF [0,6,7] fz [(8,.p b3 0)]/\h=[.obj b3 [YM n.decls,.ms g1 0 n.routines.length c1],.row (.slice (some ⟨g1,0,none⟩) n.routines.length c1) 5 (Zc (Yx (n.routines.set YB (Y8.mk x1.params x1.lent x1.result x1.body)))),Za gz 0,Za gz 1,Za gz 2]) ?_ ?_))
  ·refine WU 8 9 ?_ ?_
   ·refine dc 8 [] [] [] (Fi n YB x1.body x1 (hr:=Z5)) ?_
    rintro _ _ ⟨g1,c1,rfl,rfl⟩
    exact Z8 9 (dA 9 [] [] [nl,nl] fun b3=>Z8 10 (Yy 10 0 [] [] b3 [YM n.decls,.ms g1 0 n.routines.length c1] (de (ZJ ⟨g1,c1,b3,rfl,rfl⟩ (ZV 5 fl)))))
   refine dA 9 [2,2] [b1,b1] [nl,nl] fun b4=>Z8 8 (dc 8 [] [] [] (Fi n YB x1.body x1 (hr:=Z5)) ?_)
   rintro _ _ ⟨g2,c2,rfl,rfl⟩
   exact Z8 10 (Yy 10 1 [] [] b4 [YM n.decls,.ms g2 0 n.routines.length c2] (de (ZJ ⟨g2,c2,b4,rfl,rfl⟩ (ZV 5 fl))))
  rintro F h ⟨g1,c1,b3,rfl,rfl⟩
  refine aD 14 (ZH 7 14 [0,1,2,3,4,5,6] [0,0] (dx 7 (XS g1 n.routines.length c1 YB 5 (YB:Int)) (Zk 5 6 [8] (Vu 9 (WD 1 g1 n.routines.length c1 5 (YB*5+1) (Zc (Yx (n.routines.set YB (Y8.mk x1.params x1.lent x1.result x1.body)))) [Z6 x1.lent] 31 (Z6 x1.lent) (R0 om _)) (Z8 10 (dc 10 [2] [0] [b3] (Sk rd bs (((p+1)+1)+1) x1.lent (Zt:=ob)) ?_))))))
  rintro _ _ ⟨zs1,p21,rfl,rfl,YX⟩
  have hsi:=YX
  exact dx 11 (XS g1 n.routines.length c1 YB 5 (YB:Int)) (Zk 1 2 [12] (Z8 13 (JW 13 2 [] [] g1 n.routines.length c1 5 (YB*5+1) [Z6 zs1] (Zc (Yx (n.routines.set YB (Y8.mk x1.params x1.lent x1.result x1.body)))) (Zc (Yx (n.routines.set YB (Y8.mk x1.params zs1 x1.result x1.body)))) (by rw [D5,Uu];simp only [YD,X8];omega) (R4 om _ _) (de (ar (Xx (Ud 0 1 1 (.slice (some ⟨g1,0,none⟩) n.routines.length c1) 5 b3 (Yx (n.routines.set YB (Y8.mk x1.params zs1 x1.result x1.body))) [YM n.decls,.ms g1 0 n.routines.length c1] (VQ _) rfl) (ZU 1 [0] (ZA 3 b2 [YM n.decls,W6 (n.routines.set YB (Y8.mk x1.params zs1 x1.result x1.body)) (.slice (some ⟨g1,0,none⟩) n.routines.length c1)] (ie (ZK (r3 [3] [.agg [YM n.decls,W6 (n.routines.set YB (Y8.mk x1.params zs1 x1.result x1.body)) (.slice (some ⟨g1,0,none⟩) n.routines.length c1)]] [0] [(b2,b2)] ⟨(Zx.mk n.decls (n.routines.set YB (Y8.mk x1.params zs1 x1.result x1.body))),p21,rfl,rfl,(by first|exact ⟨hzn.le om om,by omega,by omega⟩|exact ⟨hzn.set hx1k om om om om ⟨hz1.2.2.2,hzn.rb _ (ZW hx1k)⟩,by omega,by omega⟩|exact ⟨(hzn.le om om).ds had.1,by omega,by omega⟩|exact ⟨hzn.set hx2k om om om (by have:=hsb.1.1;omega) hsb.1.2,by omega,by omega⟩)⟩ (Ze.agg (.cons (lr _) (.cons (Ze.forget _ _) .nil))))))))))))))
 refine ar (YR (k1==1) Zz (fun ZF=>?_) (fun ZF=>?_))
 ·refine aD 6 (ZH 3 6 [0,2,3] [2] (Z8 1 (dc 1 [0] [1] [b1] (Rf rd bs (((p+1)+1)+1) (Zt:=ob)) ?_)))
  rintro _ _ ⟨dz1,p22,rfl,rfl,X9⟩
  have had:=X9
  exact Zk 1 2 [4] (Z8 5 (Yy 5 1 [] [] b2 [YM dz1,TY n.routines] (de (ZK (r3 [1] [.agg [YM dz1,TY n.routines]] [0] [(b2,b2)] ⟨(Zx.mk dz1 n.routines),p22,rfl,rfl,(by first|exact ⟨hzn.le om om,by omega,by omega⟩|exact ⟨hzn.set hx1k om om om om ⟨hz1.2.2.2,hzn.rb _ (ZW hx1k)⟩,by omega,by omega⟩|exact ⟨(hzn.le om om).ds had.1,by omega,by omega⟩|exact ⟨hzn.set hx2k om om om (by have:=hsb.1.1;omega) hsb.1.2,by omega,by omega⟩)⟩ (lr _))))))
 refine ak (aD 12 (ZH 6 12 [0,1,2,3,4,5] [2,2] ?_))
 obtain ⟨x2,Zv⟩:=Zq n.routines YB om
 have hx2k:=Zv
 have hz2:=hzn.rt _ (ZW Zv)
 refine dx 6 (Zh none (YB:Int) 5 (WB Zv)) (Zk 3 5 [7,8] (Z8 9 (dc 9 [0] [1] [b1] (Sh rd bs (((p+1)+1)+1) x2.body (Zt:=ob) (hg:=⟨hz2.2.2.2,hzn.rb _ (ZW hx2k)⟩)) ?_)))
 rintro _ _ ⟨y1,p23,rfl,rfl,XV⟩
 have hsb:=XV
 exact Z8 10 (Yp 10 [] [] [] (Iq n YB y1 x2 (hr:=Zv)) (Z8 11 (Yy 11 1 [] [] b2 (YN (withR n YB x2 y1)) (de (ZK (r3 [1] [Yl (withR n YB x2 y1)] [0] [(b2,b2)] ⟨(withR n YB x2 y1),p23,rfl,rfl,(by first|exact ⟨hzn.le om om,by omega,by omega⟩|exact ⟨hzn.set hx1k om om om om ⟨hz1.2.2.2,hzn.rb _ (ZW hx1k)⟩,by omega,by omega⟩|exact ⟨(hzn.le om om).ds had.1,by omega,by omega⟩|exact ⟨hzn.set hx2k om om om (by have:=hsb.1.1;omega) hsb.1.2,by omega,by omega⟩)⟩ (lr _)))))))
theorem Rg (rd:Nat) (bs:LI) (p:Nat) (Zt:∀z∈bs,0<=z/\z<=255) (hp:p+73706400<=1000000000:=by exact ob):Zf 89 [.p rd 0] [Yc rd bs p] (fun r h=>∃(n2:Zx) (p2:Nat),r=Yl n2/\h=[Yc rd bs p2]/\ZS n2 7330632 11/\p<=p2/\p2<=p+73706400):=by
 refine ZD 14 Tryz.func89 (ar (iA [nl,nl] fun b1=>ie (X4 1 (ic [1] (XN rd bs p 4 (Zt:=ob)) ?_))))
 rintro _ _ ⟨k1,rfl,rfl,ZX⟩
 refine YR (k1==0) Zz (fun Z9=>?_) (fun Z9=>?_)
 ·refine Yg 2 (ic [0] (Il rd bs (p+1) (Zt:=ob)) ?_)
  rintro _ _ ⟨n1,p21,rfl,rfl,Y9⟩
  have hpf:=((FO.zn Y9.1).le (show 181<=7330630 by omega)).zs
  refine ic [0] (Io rd bs p21 n1 8 7330630 10 (Zt:=ob) (hzn:=(by first|exact hpf|exact hbf))) ?_
  rintro _ _ ⟨n21,p22,rfl,rfl,YL⟩
  have hsf:=YL
  exact ZA 1 b1 (YN n21) (ie (ZK (r3 [1] [Yl n21] [0] [(b1,b1)] ⟨n21,p22,rfl,rfl,⟨hsf.1,by omega,by omega⟩⟩ (lr _))))
 refine ak (Yg 2 (ic [0] (Ri rd bs (p+1) (Zt:=ob)) ?_))
 rintro _ _ ⟨n2,p23,rfl,rfl,YX⟩
 have hbf:=YX.1.zs
 refine ic [0] (Io rd bs p23 n2 8 7330630 10 (Zt:=ob) (hzn:=(by first|exact hpf|exact hbf))) ?_
 rintro _ _ ⟨n22,p24,rfl,rfl,X9⟩
 have hsf:=X9
 exact ZA 1 b1 (YN n22) (ie (ZK (r3 [1] [Yl n22] [0] [(b1,b1)] ⟨n22,p24,rfl,rfl,⟨hsf.1,by omega,by omega⟩⟩ (lr _))))
open Go.Proofs
open Go.Proofs
theorem IG (op:Int) :Zf 93 [.i op] [] (Yt (.b (YP op))):=by
 refine ZD 9 Tryz.func93 (Ya (ar (WQ 6 [] [(8,.b ((decide (op>=14))&&(decide (op<=17))))] (fun gz=>gz) ?_ (fun hj1=>?_))))
 ·exact Zs (Y3 (.b ((decide (op>=14))&&(decide (op<=17)))) (lb (by rw [YP,Xc];simp)))
 refine Z2 3 (ib (b:=(decide (op>=14))) 5 (fun Zb=>?_) (fun Zb=>?_))
 ·exact Z2 3 (Xm (wk [] (ZM (decide (op<=17)) Zb fl)) hj1)
 exact Z2 3 (Xm (wk [] (ZM false Zb fl)) hj1)
theorem SU (b:Z4) (c:Nat) (v:Int) (hb:b.sz<=1000000000:=by exact ob) (hv:0<=v/\v<=600:=by exact ob) (ih:∀(b2:Z4) (c:Nat) (v:Int),(b2.sz<b.sz)->(0<=v/\v<=600)->Zf 101 [ZC b2,.p c 0] [.obj c [.i v]] (fun r h=>(r=.b true/\h=[.obj c [.i (600-W9 b2 (600-v))]]/\0<=W9 b2 (600-v))∨(r=.b false/\h=[]/\W9 b2 (600-v)<0))):Zf 101 [ZC b,.p c 0] [.obj c [.i v]] (fun r h=>(r=.b true/\h=[.obj c [.i (600-W9 b (600-v))]]/\0<=W9 b (600-v))∨(r=.b false/\h=[]/\W9 b (600-v)<0)):=by
 have hbz:=WS b
 have hbe:=Lb b (600-v)
 refine ZD 38 Tryz.func101 (ar (iA (YI b) fun b1=>?_))
 refine Z1 (Y6 2 [0] (iw (W8 b.steps) (Z1 (ab 0 (Y0 (fun fz gz m F h=>∃(k:Nat) (q:Int),(k<=b.steps.length)/\(0<=q/\q<=600)/\(UC (b.steps.drop k) (600-q)=UC b.steps (600-v))/\F=sF [1,10,11] fz [(12,.i k)]/\h=[.obj c [.i q]]/\m=b.steps.length-k) _ _ _ ⟨0,v,ob,ob,rfl,rfl,rfl,rfl⟩ (wk [1] (Yd fl)) ?_)))))
 rintro m F h ⟨k,q,Yf,Zi,Zr,rfl,rfl,rfl⟩
 refine Ya (aq (VA ((k:Int)<(b.steps.length:Int)) (fun Z9=>?_) (fun Z9=>?_)))
 ·refine ak (aq (ab 1 (ar ?_)))
  obtain ⟨x1,Z5⟩:=Zq b.steps k om
  have hss:=UZ Z5
  have hkz:=U8 x1
  refine Zm (Zh none (k:Int) 5 (XO Z5)) (Z2 1 (iA [.i 0,.i 0,.i 0,nl,nl] fun b2=>ZA 0 b2 (Xf x1) (ie (Y6 3 [1] (ia ((q+1)) ((q)+(1)) (Z2 1 (ZA 1 c [.i (q+1)] (ie (A7 [0] (VA ((q+1)>600) (fun Zg=>?_) (fun Zg=>?_)))))))))))
  ·exact ar (Zs (r1 [] (.inr ⟨rfl,rfl,(by rw [hbe,<-Zr,Yo Z5,UC,Zw om];omega)⟩)))
  refine ak (Zo 2 [1] (iw (Vk x1.kids) (Z1 (ab 2 (Y0 (fun fz gz m F h=>∃(j:Nat) (j2:Int),(j<=x1.kids.length)/\(0<=j2/\j2<=600)/\(UX (x1.kids.drop j) (600-j2)=UX x1.kids (600-(q+1)))/\F=sF [1,10,11,12,26,27] fz [(28,.i j)]/\h=[.obj c [.i j2]]/\m=x1.kids.length-j) _ _ _ ⟨0,(q+1),ob,ob,rfl,rfl,rfl,rfl⟩ (wk [0] (Yd fl)) ?_)))))
  rintro m F h ⟨j,j2,VZ,Wi,Xs,rfl,rfl,rfl⟩
  refine Ya (aq (VA ((j:Int)<(x1.kids.length:Int)) (fun ZF=>?_) (fun ZF=>?_)))
  ·refine ak (aq (ab 3 (ar ?_)))
   obtain ⟨x2,Zv⟩:=Zq x1.kids j om
   have hks:=VS Zv
   have hle:=FK.2 x2 (600-j2) om
   refine Zm (Zh none (j:Int) 2 (Vv Zv)) (Z2 1 (iA [nl,.i 0] fun b3=>ZA 0 b3 (YI x2) (ie (Zo 2 [0] (ic [1] (ih x2 c j2 ob ob) ?_)))))
   rintro _ _ (⟨rfl,rfl,ZX⟩|⟨rfl,rfl,Y9⟩)
   ·refine Z1 (Wz (ak (az (ZG j (Z1 ?_)))))
    have hdr:=Yo Zv
    exact ZI ⟨j+1,(600-W9 x2 (600-j2)),ob,ob,(by rw [Yo Zv,UX,Zp om] at Xs;rw [show 600-(600-W9 x2 (600-j2))=W9 x2 (600-j2) by omega];exact Xs),rfl,rfl,rfl⟩ (wk [0] (ZL j fl))
   exact Z1 (Vj (ar (Zs (r1 [] (.inr ⟨rfl,rfl,(by rw [hbe,<-Zr,Yo Z5,UC,Zp om,Zw (by rw [Du,show (600-q-1:Int)=600-(q+1) by omega,<-Xs,Yo Zv,UX,Zw Y9];omega)];omega)⟩)))))
  have hE:UX x1.kids (600-(q+1))=600-j2:=by rw [<-Xs,Xz om,UX]
  refine ax 2 (az (ZG k (Z1 ?_)))
  have hdr:=Yo Z5
  exact ZI ⟨k+1,j2,ob,ob,(by rw [Yo Z5,UC,Zp om,Du,show (600-q-1:Int)=600-(q+1) by omega,hE,Zp om] at Zr;exact Zr),rfl,rfl,rfl⟩ (wk [0] (ZL k fl))
 refine ax 0 (Ya ?_)
 have hF:W9 b (600-v)=600-q:=by rw [hbe,<-Zr,Xz om,UC]
 exact ZK (r1 [0] (.inl ⟨rfl,rfl,om⟩) (eq:=(ro (ls:=[.i q]) (by rw [hF,show (600-(600-q):Int)=q by omega]) rz)))
theorem SS:∀(b:Z4) (c:Nat) (v:Int),(b.sz<=1000000000)->(0<=v/\v<=600)->Zf 101 [ZC b,.p c 0] [.obj c [.i v]] (fun r h=>(r=.b true/\h=[.obj c [.i (600-W9 b (600-v))]]/\0<=W9 b (600-v))∨(r=.b false/\h=[]/\W9 b (600-v)<0)):=by
 have key:∀m:Nat,∀(b:Z4) (c:Nat) (v:Int),(b.sz<=m)->(b.sz<=1000000000)->(0<=v/\v<=600)->Zf 101 [ZC b,.p c 0] [.obj c [.i v]] (fun r h=>(r=.b true/\h=[.obj c [.i (600-W9 b (600-v))]]/\0<=W9 b (600-v))∨(r=.b false/\h=[]/\W9 b (600-v)<0)):=by
  intro m
  induction m with
  | zero=>intro b c v h;have:=b.sz_pos;omega
  | succ m ih=>intro b c v h1 h2 h3;exact SU b c v h2 h3 fun b2 c2 v2 k1 k2=>ih b2 c2 v2 om om k2
 intro b c v h2 h3
 exact key b.sz b c v (YQ _) h2 h3
theorem IE (b:Z4) (hb:b.sz<=1000000000:=by exact ob):Zf 63 [ZC b] [] (Yt (.i (WF b))):=by
 refine ZD 8 Tryz.func63 (ar (iA (YI b) fun b1=>Z1 (ar (iA [.i 0] fun b2=>ZA 0 b2 [.i 0] (ie (Y6 1 [1] (ic [0] (SS b b2 0 ob ob) ?_)))))))
 rintro _ _ (⟨rfl,rfl,ZX⟩|⟨rfl,rfl,Y9⟩)
 ·have h0:=ZX
  rw [show (600-0:Int)=600 from rfl] at h0
  exact Z1 (Wz (ak (A7 [0] (ZK (Y3 (.i (600-W9 b (600-0))) (li (by rw [show (600-0:Int)=600 from rfl,WF,Zp om])))))))
 have h0:=Y9
 rw [show (600-0:Int)=600 from rfl] at h0
 exact Z1 (Vj (ar (Zs (Y3 (.i (-1)) (li (by rw [WF,Zw h0]))))))
open Go.Proofs
open Go.Proofs
open Go.Proofs
theorem Nt (z:Int) (v:Int) (p:Nat) (q:Nat) (co:Bool) :Zf 109 [.i z,.p p 0,.p q 0] [.obj p [.b co],.obj q [.i v]] (fun r h=>∃(w:Bool),h=[.obj p [.b w],.obj q [.i v]]/\w=(co||(z==v))):=by
 refine ZD 10 Tryz.func109 (az (WQ 6 [1] [(9,.b (co||(z==v)))] (fun gz=>gz) ?_ (fun hj1=>?_)))
 ·exact ZA 0 p [.b (co||(z==v))] (ie (r2 [0,0] [] ⟨_,rfl,(by first|rw [Zw (by assumption)]|rw [Zp (by assumption)]|rfl)⟩ (lr _)))
 refine ZU 2 [0] (ib (b:=co) 5 (fun Zb=>?_) (fun Zb=>?_))
 ·have ZX:co=true:=(Iff.rfl).1 Zb
  exact Z2 4 (Xm (wk [0,0] (ZM true Zb fl)) hj1)
 have Y9:¬(co=true):=YS Iff.rfl Zb
 exact ZU 4 [1] (Xm (wk [0,0] (ZM (z==v) Zb fl)) hj1)
theorem Z68 (s:Z3) (v:Int) (p:Nat) (q:Nat) (co:Bool) (ih:∀(b2:Z4) (k2:Nat) (v:Int) (p:Nat) (q:Nat) (c2:Bool),(b2.sz<s.sz)->(k2<=b2.steps.length)->(b2.sz<=1000000000)->Zf 64 [ZC b2,.i k2,.val (.func (.func 109) #[] #[.pointer (some ⟨p,0,none⟩),.pointer (some ⟨q,0,none⟩)])] [.obj p [.b c2],.obj q [.i v]] (fun r h=>∃(w:Bool),h=[.obj p [.b w],.obj q [.i v]]/\w=(c2||decide (v∈Xj (b2.steps.drop k2)++[b2.result])))) (X6:s.sz<=1000000000):Zf 102 [Ym s,.val (.func (.func 109) #[] #[.pointer (some ⟨p,0,none⟩),.pointer (some ⟨q,0,none⟩)])] [.obj p [.b co],.obj q [.i v]] (fun r h=>∃(w:Bool),h=[.obj p [.b w],.obj q [.i v]]/\w=(co||decide (v∈vS s))):=by
 have hkz:=U8 s
 have haz:=T9 s
 have hse:=s.sz_eq
 refine ZD 33 Tryz.func102 (ar (iA (Xf s) fun b1=>ie (Y6 2 [0] (Zu [] (IG s.op) (ie (ac (YP s.op) Iff.rfl (fun Z9=>?_) (fun Z9=>?_)))))))
 ·exact ZK (r2 [1,1] [] ⟨co,rfl,(by rw [Bp,Zw (by assumption)];simp [XB])⟩ (lr _))
 refine ak (Y6 2 [0] (iw (Ye s.args) (Z1 (ab 0 (Y0 (fun fz gz m F h=>∃(j:Nat) (d:Bool),(j<=s.args.length)/\(d=(co||decide (v∈s.args.take j)))/\F=sF [1,2,12,13] fz [(14,.i j)]/\h=[Za gz 0,.obj p [.b d],Za gz 2]/\m=s.args.length-j) _ _ _ ⟨0,co,ob,(by simp [XB]),rfl,rfl,rfl⟩ (ZV 3 (Yd fl)) ?_)))))
 rintro m F h ⟨j,d,Yf,Zi,rfl,rfl,rfl⟩
 refine Ya (aq (VA ((j:Int)<(s.args.length:Int)) (fun Zg=>?_) (fun Zg=>?_)))
 ·refine ak (aq (ab 1 (ar ?_)))
  obtain ⟨x1,Z5⟩:=Zq s.args j om
  refine Zm (Zh none (j:Int) 1 (ZZ Z5)) (Z1 (az (Z2 2 (ic [1,1] (Nt x1 v p q d) ?_))))
  rintro _ _ ⟨w1,rfl,ZX⟩
  have hw:=ZX
  exact ie (az (ZG j (Z1 (ZI ⟨j+1,w1,ob,(by rw [hw];exact OL Z5 Zi),rfl,rfl,rfl⟩ (wk [2,0,0] (ZL j fl))))))
 have hA:s.args.take j=s.args:=WT om
 rw [hA] at Zi
 refine ax 0 (Zo 2 [0] (iw (Vk s.kids) (Z1 (ab 2 (Y0 (fun fz gz m F h=>∃(i:Nat) (e:Bool),(i<=s.kids.length)/\(e=(co||decide (v∈s.args++Ww (s.kids.take i))))/\F=sF [1,23,24] fz [(25,.i i)]/\h=[.obj p [.b e],Za gz 2]/\m=s.kids.length-i) _ _ _ ⟨0,d,ob,(by rw [Zi,List.take_zero,Ww,T4]),rfl,rfl,rfl⟩ (wk [1,1] (Yd fl)) ?_)))))
 rintro m F h ⟨i,e,VZ,Wi,rfl,rfl,rfl⟩
 refine Ya (aq (VA ((i:Int)<(s.kids.length:Int)) (fun ZF=>?_) (fun ZF=>?_)))
 ·refine ak (aq (ab 3 (ar ?_)))
  obtain ⟨x2,Zv⟩:=Zq s.kids i om
  have hks:=VS Zv
  have hbd:=Ey Zv
  have hvl:=Cq x2
  rw [At] at hvl
  have hcl:=AI (v:=v) (xs:=Xj ((x2).steps.drop 0)++[(x2).result])
  rw [TL] at hcl
  refine Zm (Zh none (i:Int) 2 (Vv Zv)) (Z2 1 (iA [nl,.i 0] fun b2=>ZA 0 b2 (YI x2) (ie (az (ZU 2 [0] (ic [1,1] (ih x2 0 v p q e ob (T7 _) ob) ?_))))))
  rintro _ _ ⟨w2,rfl,Y9⟩
  have hw:=Y9
  exact ie (az (ZG i (Z1 (ZI ⟨i+1,w2,ob,(by rw [hw];exact OK Zv Wi),rfl,rfl,rfl⟩ (wk [0,0] (ZL i fl))))))
 exact ax 2 (r2 [0,0] [] ⟨e,rfl,(by rw [Bp,Zp (by assumption),Wi,WT om])⟩ (lr _))
theorem Z6b (b:Z4) (k0:Nat) (v:Int) (p:Nat) (q:Nat) (co:Bool) (ih:∀(s2:Z3) (v:Int) (p:Nat) (q:Nat) (c2:Bool),(s2.sz<b.sz)->(s2.sz<=1000000000)->Zf 102 [Ym s2,.val (.func (.func 109) #[] #[.pointer (some ⟨p,0,none⟩),.pointer (some ⟨q,0,none⟩)])] [.obj p [.b c2],.obj q [.i v]] (fun r h=>∃(w:Bool),h=[.obj p [.b w],.obj q [.i v]]/\w=(c2||decide (v∈vS s2)))) (hk:k0<=b.steps.length) (hbz:b.sz<=1000000000):Zf 64 [ZC b,.i k0,.val (.func (.func 109) #[] #[.pointer (some ⟨p,0,none⟩),.pointer (some ⟨q,0,none⟩)])] [.obj p [.b co],.obj q [.i v]] (fun r h=>∃(w:Bool),h=[.obj p [.b w],.obj q [.i v]]/\w=(co||decide (v∈Xj (b.steps.drop k0)++[b.result]))):=by
 have hbe:=b.sz_eq
 have hsd:=Ar b.steps k0
 have hdl:(b.steps.drop k0).length=b.steps.length-k0:=Ki
 have Zt:=WS b
 refine ZD 25 Tryz.func64 (ar (iA (YI b) fun b1=>?_))
 refine ie (Y6 3 [0] (Zm (Ke (es:=Zj b.steps) (hv:=none) (l:=(k0:Int)) (m:=(((Zj b.steps).length:Nat):Int)) (sz:=5) (es':=Zj (b.steps.drop k0)) kr om (by simp<;>omega) (by simp<;>omega) (X1 _) (by first|(simp only [VV,Va,Tb,Ta];done)|(simp only [VV,Va,Tb,Ta];rfl)|(simp [Tb,Ta];done))) (io (.i (((b.steps.drop k0).length:Nat):Int)) (.i (((Zj (b.steps.drop k0)).length:Nat):Int)) (li (by rw [W8])) (Z1 (ab 0 (Y0 (fun fz gz m F h=>∃(k:Nat) (d:Bool),(k<=(b.steps.drop k0).length)/\(d=(co||decide (v∈Xj ((b.steps.drop k0).take k))))/\F=sF [2,3,11,12] fz [(13,.i k)]/\h=[Za gz 0,.obj p [.b d],Za gz 2]/\m=(b.steps.drop k0).length-k) _ _ _ ⟨0,co,ob,(by simp [XB,Xj]),rfl,rfl,rfl⟩ (ZV 3 (Yd fl)) ?_))))))
 rintro m F h ⟨k,d,Yf,Zi,rfl,rfl,rfl⟩
 refine Ya (aq (VA ((k:Int)<(((b.steps.drop k0).length:Nat):Int)) (fun Z9=>?_) (fun Z9=>?_)))
 ·refine ak (aq (ab 1 (ar ?_)))
  obtain ⟨x1,Z5⟩:=Zq (b.steps.drop k0) k om
  have hss:=UZ (b:=b) (by have h:=Z5;rw [Aw] at h;exact h)
  have hsd1:=Cl Z5
  have hvl:=E5 x1
  have hcl:=AI (v:=v) (xs:=vS x1)
  refine Zm (Zh none (k:Int) 5 (XO Z5)) (Z2 1 (iA [.i 0,.i 0,.i 0,nl,nl] fun b2=>ZA 0 b2 (Xf x1) (ie (az (ZU 2 [0] (ic [2,2] (ih x1 v p q d ob ob) ?_))))))
  rintro _ _ ⟨w1,rfl,ZX⟩
  have hw:=ZX
  exact ie (az (ZG k (Z1 (ZI ⟨k+1,w1,ob,(by rw [hw];exact OM Z5 Zi),rfl,rfl,rfl⟩ (wk [3,0,0] (ZL k fl))))))
 refine ax 0 (az (ZU 3 [0] (ic [1,1] (Nt b.result v p q d) ?_)))
 rintro _ _ ⟨w2,rfl,Y9⟩
 have hw:=Y9
 exact ie (r2 [0,0] [] ⟨_,rfl,(hw.trans (by rw [WT om] at Zi;rw [Zi];rw [Bool.or_assoc];congr 1;rw [Xc];simp only [Bool.or_eq_true,Zz,decide_eq_true_eq,YU,Xp];exact ⟨fun h=>h.imp id Eq.symm,fun h=>h.imp id Eq.symm⟩))⟩ (lr _))
theorem Z6d (k:Nat):(∀(s:Z3) (v:Int) (p:Nat) (q:Nat) (co:Bool),(s.sz<=k)->(s.sz<=1000000000)->Zf 102 [Ym s,.val (.func (.func 109) #[] #[.pointer (some ⟨p,0,none⟩),.pointer (some ⟨q,0,none⟩)])] [.obj p [.b co],.obj q [.i v]] (fun r h=>∃(w:Bool),h=[.obj p [.b w],.obj q [.i v]]/\w=(co||decide (v∈vS s))))/\(∀(b:Z4) (k0:Nat) (v:Int) (p:Nat) (q:Nat) (co:Bool),(b.sz<=k)->(k0<=b.steps.length)->(b.sz<=1000000000)->Zf 64 [ZC b,.i k0,.val (.func (.func 109) #[] #[.pointer (some ⟨p,0,none⟩),.pointer (some ⟨q,0,none⟩)])] [.obj p [.b co],.obj q [.i v]] (fun r h=>∃(w:Bool),h=[.obj p [.b w],.obj q [.i v]]/\w=(co||decide (v∈Xj (b.steps.drop k0)++[b.result])))):=by
 induction k with
 | zero=>exact ⟨fun s v p q co h=>by have:=s.sz_pos;omega,fun b k0 v p q co h=>by have:=b.sz_pos;omega⟩
 | succ k ih=>exact ⟨fun s v p q co h h3=>Z68 s v p q co (fun b2 k2 v p q c2 h2 hk h3=>ih.2 b2 k2 v p q c2 om hk h3) h3,fun b k0 v p q co h hk h3=>Z6b b k0 v p q co (fun s2 v p q c2 h2 h3=>ih.1 s2 v p q c2 om h3) hk h3⟩
theorem Z66 (s:Z3) (v:Int) (p:Nat) (q:Nat) (co:Bool) (X6:s.sz<=1000000000:=by exact ob):Zf 102 [Ym s,.val (.func (.func 109) #[] #[.pointer (some ⟨p,0,none⟩),.pointer (some ⟨q,0,none⟩)])] [.obj p [.b co],.obj q [.i v]] (fun r h=>∃(w:Bool),h=[.obj p [.b w],.obj q [.i v]]/\w=(co||decide (v∈vS s))):=(Z6d s.sz).1 s v p q co (YQ _) X6
theorem Z4l (s:Z3) (v:Int) (ih:∀(b2:Z4) (v:Int),(b2.sz<s.sz)->(b2.sz<=1000000000)->Zf 67 [ZC b2,.i v] [] (Yt (.i ((XB v (vB b2):Nat):Int)))) (hl:s.sz<=1000000000):Zf 71 [Ym s,.i v] [] (Yt (.i ((XB v (vS s):Nat):Int))):=by
 have hkz:=U8 s
 have haz:=T9 s
 have hse:=s.sz_eq
 refine ZD 44 Tryz.func71 (ar (iA (Xf s) fun b1=>Z1 (Y6 2 [0] (Zu [] (Gr s.op) (ie (ac (YP s.op) Iff.rfl (fun Z9=>?_) (fun Z9=>?_)))))))
 ·exact ar (Zs (Y3 (.i 0) (li (by rw [Bp,Zw (by assumption)];rfl))))
 refine ak (Ya (Y1 (ab 0 (Y0 (fun fz gz m F h=>∃(j:Nat) (z:Int),(j<=s.args.length)/\(z=(0+((XB v (s.args.take j):Nat):Int)))/\(0<=z/\z<=j)/\F=sF [1,2] fz [(5,.i z),(6,.i j)]/\h=gz/\m=s.args.length-j) _ _ _ ⟨0,0,ob,(by simp [XB]),ob,rfl,rfl,rfl⟩ (wk [0] (fr (Yd fl))) ?_))))
 rintro m F h ⟨j,z,Yf,Zi,Zr,rfl,rfl,rfl⟩
 refine Y6 3 [0] (iw (Ye s.args) (ZT ((j:Int)<(s.args.length:Int)) (fun Zg=>?_) (fun Zg=>?_)))
 ·refine ak (aq (ab 1 (Zo 3 [0] ?_)))
  obtain ⟨x1,Z5⟩:=Zq s.args j om
  refine Zm (Zh none (j:Int) 1 (ZZ Z5)) (Z1 (Kx (fun fz gz F h=>F=sF [1,2,6] fz [(5,.i (if x1=v then (z+1) else z))]/\h=gz) (fun _ _=>rfl) ?_ ?_))
  ·refine ac (x1==v) Zz (fun ZF=>?_) (fun ZF=>?_)
   ·exact az (Z2 1 (ia ((z+1)) ((z)+(1)) (Z1 (ZJ ⟨rfl,rfl⟩ (wk [0] (fc (x:=.i (z+1)) (li (by first|rfl|(rw [Zw ZF])|(rw [Zp ZF])|(simp [ZF];done)|(rw [Xc];simp [ZF];done)|omega)) fl))))))
   exact ak (ZJ ⟨rfl,rfl⟩ (wk [0] (fc (x:=.i z) (li (by first|rfl|(rw [Zw ZF])|(rw [Zp ZF])|(simp [ZF];done)|(rw [Xc];simp [ZF];done)|omega)) fl)))
  rintro F h ⟨rfl,rfl⟩
  exact az (Z2 1 (ZG j (Z1 (ZI ⟨j+1,(if x1=v then (z+1) else z),ob,(OI Z5 Zi),(by split<;>omega),rfl,rfl,rfl⟩ (wk [0] (fr (ZL j fl)))))))
 have hA:s.args.take j=s.args:=WT om
 rw [hA] at Zi
 refine ax 0 (Y1 (ab 2 (Y0 (fun fz gz m F h=>∃(i:Nat) (e:Int),(i<=s.kids.length)/\(e=(0+((XB v (s.args++Ww (s.kids.take i)):Nat):Int)))/\(0<=e/\e+YK (s.kids.drop i)<=s.args.length+YK s.kids)/\F=sF [1,2] fz [(5,.i e),(7,.i i)]/\h=gz/\m=s.kids.length-i) _ _ _ ⟨0,z,ob,(by rw [Zi,List.take_zero,Ww,T4]),(by rw [TL];omega),rfl,rfl,rfl⟩ (wk [0] (fr (Yd fl))) ?_)))
 rintro m F h ⟨i,e,VZ,Wi,Xs,rfl,rfl,rfl⟩
 refine Y6 3 [0] (iw (Vk s.kids) (ZT ((i:Int)<(s.kids.length:Int)) (fun Yq=>?_) (fun Yq=>?_)))
 ·refine ak (aq (ab 3 (az (ZU 4 [0] ?_))))
  obtain ⟨x2,Zv⟩:=Zq s.kids i om
  have hks:=VS Zv
  have hbd:=Ey Zv
  have hvl:=Cq x2
  have hcl:=AI (v:=v) (xs:=vB x2)
  exact Zm (Zh none (i:Int) 2 (Vv Zv)) (Z2 2 (Zu [] (ih x2 v ob ob) (ia ((e+((XB v (vB x2):Nat):Int))) ((e)+(((XB v (vB x2):Nat):Int))) (Z1 (az (Z2 1 (ZG i (Z1 (ZI ⟨i+1,(e+((XB v (vB x2):Nat):Int)),ob,(by have h:=OH Zv Wi;rwa [TL,<-At] at h),om,rfl,rfl,rfl⟩ (wk [0] (fr (ZL i fl))))))))))))
 exact ax 2 (ar (Zs (Y3 (.i e) (li (by rw [Bp,Zp (by assumption),Wi,WT om];omega)))))
theorem Z3z (b:Z4) (v:Int) (ih:∀(s2:Z3) (v:Int),(s2.sz<b.sz)->(s2.sz<=1000000000)->Zf 71 [Ym s2,.i v] [] (Yt (.i ((XB v (vS s2):Nat):Int)))) (hl:b.sz<=1000000000):Zf 67 [ZC b,.i v] [] (Yt (.i ((XB v (vB b):Nat):Int))):=by
 have hbe:=b.sz_eq
 have Zt:=WS b
 have hr0:0<=(if b.result=v then (1:Int) else 0)/\(if b.result=v then (1:Int) else 0)<=1:=by split<;>omega
 refine ZD 28 Tryz.func67 (ar (iA (YI b) fun b1=>?_))
 refine Z1 (Ya (X7 (Vx [0] (XC (fun fz gz F h=>F=sF [1,2] fz [(5,.i (if b.result=v then 1 else 0))]/\h=gz) ?_ ?_))))
 ·refine ac (b.result==v) Zz (fun Z9=>?_) (fun Z9=>?_)
  ·exact UM (ZJ ⟨rfl,rfl⟩ (wk [0] (fc (x:=.i 1) (li (by first|rfl|(rw [Zw Z9])|(rw [Zp Z9])|(simp [Z9];done)|(rw [Xc];simp [Z9];done)|omega)) fl)))
  exact ak (ZJ ⟨rfl,rfl⟩ (wk [0] (fc (x:=.i 0) (li (by first|rfl|(rw [Zw Z9])|(rw [Zp Z9])|(simp [Z9];done)|(rw [Xc];simp [Z9];done)|omega)) fl)))
 rintro F h ⟨rfl,rfl⟩
 refine Y1 (ab 0 (Y0 (fun fz gz m F h=>∃(k:Nat) (z:Int),(k<=b.steps.length)/\(z=((if b.result=v then (1:Int) else 0)+((XB v (Xj (b.steps.take k)):Nat):Int)))/\(0<=z/\z+Y5 (b.steps.drop k)<=1+Y5 b.steps)/\F=sF [1,2] fz [(5,.i z),(6,.i k)]/\h=gz/\m=b.steps.length-k) _ _ _ ⟨0,(if b.result=v then (1:Int) else 0),ob,(by simp [XB,Xj]),(by rw [TL];omega),rfl,rfl,rfl⟩ (wk [0] (fc (x:=.i (if b.result=v then 1 else 0)) li (Yd fl))) ?_))
 rintro m F h ⟨k,z,Yf,Zi,Zr,rfl,rfl,rfl⟩
 refine Y6 3 [0] (iw (W8 b.steps) (ZT ((k:Int)<(b.steps.length:Int)) (fun Zg=>?_) (fun Zg=>?_)))
 ·refine ak (aq (ab 1 (az (ZU 4 [0] ?_))))
  obtain ⟨x1,Z5⟩:=Zq b.steps k om
  have hss:=UZ Z5
  have hsd:=Cl Z5
  have hvl:=E5 x1
  have hcl:=AI (v:=v) (xs:=vS x1)
  exact Zm (Zh none (k:Int) 5 (XO Z5)) (Z2 2 (Zu [] (ih x1 v ob ob) (ia ((z+((XB v (vS x1):Nat):Int))) ((z)+(((XB v (vS x1):Nat):Int))) (Z1 (az (Z2 1 (ZG k (Z1 (ZI ⟨k+1,(z+((XB v (vS x1):Nat):Int)),ob,(OJ Z5 Zi),om,rfl,rfl,rfl⟩ (wk [0] (fr (ZL k fl))))))))))))
 exact ax 0 (ar (Zs (Y3 (.i z) (li (by rw [Zi,WT om,At,Hp];split<;>omega)))))
theorem Z44 (k:Nat):(∀(s:Z3) (v:Int),(s.sz<=k)->(s.sz<=1000000000)->Zf 71 [Ym s,.i v] [] (Yt (.i ((XB v (vS s):Nat):Int))))/\(∀(b:Z4) (v:Int),(b.sz<=k)->(b.sz<=1000000000)->Zf 67 [ZC b,.i v] [] (Yt (.i ((XB v (vB b):Nat):Int)))):=by
 induction k with
 | zero=>exact ⟨fun s v h=>by have:=s.sz_pos;omega,fun b v h=>by have:=b.sz_pos;omega⟩
 | succ k ih=>exact ⟨fun s v h hl=>Z4l s v (fun b2 v h2 hl=>ih.2 b2 v om hl) hl,fun b v h hl=>Z3z b v (fun s2 v h2 hl=>ih.1 s2 v om hl) hl⟩
theorem Z4k (s:Z3) (v:Int) (hl:s.sz<=1000000000:=by exact ob):Zf 71 [Ym s,.i v] [] (Yt (.i ((XB v (vS s):Nat):Int))):=(Z44 s.sz).1 s v (YQ _) hl
theorem SX (s:Z3) (v:Int) (hl:s.sz<=1000000000:=by exact ob):Zf 70 [Ym s,.i v] [] (Yt (.b (decide (v∈vS s)))):=by
 refine ZD 10 Tryz.func70 (ar (iA (Xf s) fun b1=>iA [.i v] fun b2=>Z1 (ar (iA [.b false] fun b3=>ZA 0 b3 [.b false] (ie (Zo 2 [2] (ic [0,0] (Z66 s v b3 b2 false) ?_)))))))
 rintro _ _ ⟨w1,rfl,ZX⟩
 have hw:=ZX
 exact ie (A7 [0] (ZK (Y3 (.b w1) (lb (by rw [hw,Bool.false_or])))))
theorem SR (b:Z4) (v:Int) (hb:b.sz<=20000000:=by exact ob):Zf 26 [ZC b,.i v] [] (Yt (.i (YT b v))):=by
 have hbl:=C3 b
 refine ZD 34 Tryz.func26 (ar (iA (YI b) fun b1=>Z1 (aq (ab 0 (Zo 1 [0] (Zu [] (IE b) (ZT ((WF b)<0) (fun Z9=>?_) (fun Z9=>?_))))))))
 ·exact ar (Zs (Y3 (.i (-1)) (li (by rw [YT,Zw (by assumption)]))))
 refine A7 [0] (ac (b.result==v) Zz (fun Zg=>?_) (fun Zg=>?_))
 ·exact Zo 2 [0] (iw (W8 b.steps) (Zs (Y3 (.i b.steps.length) (li (by rw [YT,Zp (by assumption),Zw (by assumption)])))))
 refine ak (Y6 2 [0] (iw (W8 b.steps) (ia (((b.steps.length:Int)-1)) (((b.steps.length:Int))-(1)) (Z1 (ab 1 (Y0 (fun fz gz m F h=>∃(k:Nat),(k<=b.steps.length)/\(VG b.steps v k=YT b v)/\F=sF [1,2] fz [(5,.i ((k:Int)-1))]/\h=gz/\m=0+k) _ _ _ ⟨b.steps.length,ob,(Lg (by assumption) (by assumption)).symm,rfl,rfl,rfl⟩ (wk [0] fl) ?_))))))
 rintro m F h ⟨k,Yf,Zi,rfl,rfl,rfl⟩
 refine X7 (ZT (((k:Int)-1)>=0) (fun ZF=>?_) (fun ZF=>?_))
 ·refine ak (aq (ab 2 (Zo 3 [0] ?_)))
  obtain ⟨x1,Z5⟩:=Zq b.steps (((k:Int)-1).toNat) om
  have hss:=UZ Z5
  refine Zm (Zh none ((k:Int)-1) 5 (XO Z5)) (Z2 2 (Zu [] (SX x1 v) (ie (VA (v∈vS x1) (fun Yq=>?_) (fun Yq=>?_)))))
  ·exact ar (Zs (Y3 (.i ((k:Int)-1)) (li (by rw [<-Zi,Dr (k:=k) om Z5,Zw (by first|assumption|(rw [<-CP];assumption))]))))
  exact ak (az (Z2 1 (ia ((((k:Int)-1)-1)) ((((k:Int)-1))-(1)) (Z1 (ZI ⟨k-1,ob,(by rw [<-Zi,Dr (k:=k) om Z5,Zp (by first|assumption|(rw [<-CP];assumption))]),rfl,rfl,rfl⟩ (wk [0] (fc (x:=.i (((k:Int)-1)-1)) li fl)))))))
 exact ax 1 (ar (Zs (Y3 (.i (-1)) (li (by rw [<-Zi,show k=0 by omega,VG])))))
theorem MG (b:Z4) (v:Int) (hb:b.sz<=20000000:=by exact ob):Zf 27 [ZC b,.i v] [] (Yt (.i (YT b v))):=by
 have hbl:=C3 b
 refine ZD 33 Tryz.func27 (ar (iA (YI b) fun b1=>Z1 (Y6 1 [0] (Zu [] (MU b) (ZT ((WF b)<0) (fun Z9=>?_) (fun Z9=>?_))))))
 ·exact ar (Zs (Y3 (.i (-1)) (li (by rw [YT,Zw (by assumption)]))))
 refine ak (X7 (Vx [0] (ac (b.result==v) Zz (fun Zg=>?_) (fun Zg=>?_))))
 ·exact Zo 2 [0] (iw (W8 b.steps) (Zs (Y3 (.i b.steps.length) (li (by rw [YT,Zp (by assumption),Zw (by assumption)])))))
 refine ak (Y6 2 [0] (iw (W8 b.steps) (ia (((b.steps.length:Int)-1)) (((b.steps.length:Int))-(1)) (Z1 (ab 0 (Y0 (fun fz gz m F h=>∃(k:Nat),(k<=b.steps.length)/\(VG b.steps v k=YT b v)/\F=sF [1,2] fz [(5,.i ((k:Int)-1))]/\h=gz/\m=0+k) _ _ _ ⟨b.steps.length,ob,(Lg (by assumption) (by assumption)).symm,rfl,rfl,rfl⟩ (wk [0] fl) ?_))))))
 rintro m F h ⟨k,Yf,Zi,rfl,rfl,rfl⟩
 refine X7 (ZT (((k:Int)-1)>=0) (fun ZF=>?_) (fun ZF=>?_))
 ·refine ak (aq (ab 1 (Zo 3 [0] ?_)))
  obtain ⟨x1,Z5⟩:=Zq b.steps (((k:Int)-1).toNat) om
  have hss:=UZ Z5
  refine Zm (Zh none ((k:Int)-1) 5 (XO Z5)) (Z2 2 (Zu [] (Z4k x1 v) (ZT (((XB v (vS x1):Nat):Int)>0) (fun Yq=>?_) (fun Yq=>?_))))
  ·exact ar (Zs (Y3 (.i ((k:Int)-1)) (li (by rw [<-Zi,Dr (k:=k) om Z5,Zw (by first|assumption|(rw [<-CP];assumption))]))))
  exact ak (az (Z2 1 (ia ((((k:Int)-1)-1)) ((((k:Int)-1))-(1)) (Z1 (ZI ⟨k-1,ob,(by rw [<-Zi,Dr (k:=k) om Z5,Zp (by first|assumption|(rw [<-CP];assumption))]),rfl,rfl,rfl⟩ (wk [0] (fc (x:=.i (((k:Int)-1)-1)) li fl)))))))
 exact ax 0 (ar (Zs (Y3 (.i (-1)) (li (by rw [<-Zi,show k=0 by omega,VG])))))
end Go.Abs
