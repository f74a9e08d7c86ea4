/-
  A part of the proof of FnUsesOfUptoSaid (see the last file): no condition.
-/
import Derived.Test.YtjmahledcmocoaaGreatUsoC
import Derived.Shelf.Sort.Plain
import Derived.Shelf.Slices.CompactI
import Derived.Ground.NamesProg
import Derived.Ground.Names2Prog
import Derived.Test.YtjmahledcmocoaaGreatProg
set_option linter.all false
set_option linter.unusedVariables false
set_option linter.unusedSimpArgs false
set_option linter.unusedSectionVars false
set_option maxRecDepth 10000
set_option maxHeartbeats 4000000
namespace Go.Abs
open Go.Proofs
theorem BM (xs:LI) (y:Int) (hl:xs.length<=1000000000:=by exact ob):Zf 256 [Z6 xs,.i y] [] (fun r h=>∃(v:Value),r=ZO (WB xs y) v/\h=[.tail v 1]):=by
 refine ZD 49 Tryz.func256 (Y9 (ar (iL (Z7 []) 0 1 fun v1=>?_)))
 refine Z1 (Y9 (Y0 (ab 0 (Y1 (fun fz gz m F h=>∃(k:Nat) (acc:LI) (d:Bool) (v:Value),(k<=xs.length)/\(acc.length<=k+(if d=true then 1 else 0))/\(acc++UX d (xs.drop k) y=WB xs y)/\F=sF [0,1] fz [(5,ZO acc v),(6,.b d),(7,.i k)]/\h=[.tail v 1]/\m=xs.length-k) _ _ _ ⟨0,[],false,v1,ob,(by simp),rfl,rfl,rfl,rfl⟩ (wk [0] (fw (Yd fl))) ?_))))
 rintro m F h ⟨k,acc,d,v,Yf,Zj,Zp,rfl,rfl,rfl⟩
 refine X1 2 (iw (Ye xs) (ZQ ((k:Int)<(xs.length:Int)) (fun Z9=>?_) (fun Z9=>?_)))
 ·obtain ⟨x1,Z5⟩:=Zq xs k om
  have hil:acc.length<=k+1:=WJ Zj (by split<;>omega)
  refine ak (aq (ab 1 (Xd (XN [0,1,5,6,7] [(24,.b ((!d)&&(decide (x1>=y))))] (fun gz=>gz) ?_ ?_))))
  ·refine Z2 3 (ib (b:=(!d)) 17 (fun Ze=>?_) (fun Ze=>?_))
   ·exact Z2 2 (Zm (Zh none (k:Int) 1 (ZZ Z5)) (Z1 (wk [0] (ZP (decide (x1>=y)) Ze fl))))
   exact Z1 (wk [0] (ZP false Ze fl))
  refine XA (fun fz gz F h=>∃(acc2:LI) (d2:Bool) (w:Value),((acc2=acc/\d2=d/\(d=true∨¬x1>=y))∨(acc2=acc++[y]/\d2=true/\¬d=true/\x1>y)∨(acc2=acc/\d2=true/\¬d=true/\x1=y))/\(acc2.length<=k+(if d2=true then 1 else 0))/\(acc2.length<=k+1)/\F=sF [0,1,7] fz [(5,ZO acc2 w),(6,.b d2)]/\h=[.tail w 1]) ?_ ?_
  ·refine ac ((!d)&&(decide (x1>=y))) (p:=(¬(d=true))/\(x1>=y)) (Xr (Xi Iff.rfl) dq) (fun Zg=>?_) (fun Zg=>?_)
   ·refine X1 2 (Zm (Zh none (k:Int) 1 (ZZ Z5)) (Z1 (XA (fun fz gz F h=>∃(w3:Value),F=sF [0,1,7] fz [(5,ZO (if x1>y then (acc++[y]) else acc) w3)]/\h=[.tail w3 1]) ?_ ?_)))
    ·refine VJ (x1>y) (fun ZK=>?_) (fun ZK=>?_)
     ·exact az (Z2 2 (iL (Z7 [y]) 1 1 fun v2=>ZE 0 [(33,Z6 [y])] (ip 1 (Z7 (acc++[y])) (Z7 acc) (Z7 [y]) v none 1 (Yw _) (Yw _) (XT _) (by simp<;>omega) (by simp [XQ,Z7]) fun v3=>Z1 (ZH ⟨v3,rfl,rfl⟩ (wk [0] (fc (x:=ZO (acc++[y]) v3) (Zd.slh _ (Yr Z7 (by first|rfl|(rw [Zw ZK])|(rw [Zr ZK])|(simp [ZK];done)|(rw [Xl];simp [ZK];done)|omega))) fl))))))
     exact ak (ZH ⟨v,rfl,rfl⟩ (wk [0] (fc (x:=ZO acc v) (Zd.slh _ (Yr Z7 (by first|rfl|(rw [Zw ZK])|(rw [Zr ZK])|(simp [ZK];done)|(rw [Xl];simp [ZK];done)|omega))) fl)))
    rintro F h ⟨w3,rfl,rfl⟩
    exact UN (ZH ⟨(if x1>y then (acc++[y]) else acc),true,w3,(if h:x1>y then (by rw [Zw h];exact .inr (.inl ⟨rfl,rfl,Zg.1,h⟩)) else (by rw [Zr h];exact .inr (.inr ⟨rfl,rfl,Zg.1,by have:=Zg.2;omega⟩))),(by have h1:=Zj;rw [Zr Zg.1] at h1;split<;>(simp<;>omega)),(by have h1:=Zj;rw [Zr Zg.1] at h1;split<;>(simp<;>omega)),rfl,rfl⟩ (wk [0] fl))
   exact ak (ZH ⟨acc,d,v,(.inl ⟨rfl,rfl,by by_cases q:d=true;exact .inl q;exact .inr (fun z=>Zg ⟨q,z⟩)⟩),Zj,hil,rfl,rfl⟩ (wk [0] fl))
  rintro F h ⟨acc2,d2,w,V4,KR,Fw,rfl,rfl⟩
  exact az (Z2 3 (Zm (Zh none (k:Int) 1 (ZZ Z5)) (Z2 1 (iL (Z7 [x1]) 1 1 fun v4=>ZE 0 [(40,Z6 [x1])] (ip 1 (Z7 (acc2++[x1])) (Z7 acc2) (Z7 [x1]) w none 1 (Yw _) (Yw _) (XT _) (by simp<;>omega) (by simp [XQ,Z7]) fun v5=>Z1 (az (Z2 1 (ZF k (Z1 (ZI ⟨k+1,(acc2++[x1]),d2,v5,ob,(by simp only [Yk,YD,X6];omega),(SG Z5 Zp V4),rfl,rfl,rfl⟩ (wk [0] (fw (ZL k fl)))))))))))))
 have hil:acc.length<=k+1:=WJ Zj (by split<;>omega)
 refine ax 0 (Y0 (XA (fun fz gz F h=>∃(w4:Value),F=sF [] fz [(5,ZO (if d=true then acc else (acc++[y])) w4)]/\h=[.tail w4 1]) ?_ ?_))
 ·refine ac (!d) (p:=¬(d=true)) (Xi Iff.rfl) (fun Yt=>?_) (fun Yt=>?_)
  ·exact az (Z2 2 (iL (Z7 [y]) 1 1 fun v6=>ZE 0 [(46,Z6 [y])] (ip 1 (Z7 (acc++[y])) (Z7 acc) (Z7 [y]) v none 1 (Yw _) (Yw _) (XT _) (by simp<;>omega) (by simp [XQ,Z7]) fun v7=>Z1 (ZH ⟨v7,rfl,rfl⟩ (wk [0] (fc (x:=ZO (acc++[y]) v7) (Zd.slh _ (Yr Z7 (by first|rfl|(rw [Zw Yt])|(rw [Zr Yt])|(simp [Yt];done)|(rw [Xl];simp [Yt];done)|omega))) fl))))))
  exact ak (ZH ⟨v,rfl,rfl⟩ (wk [0] (fc (x:=ZO acc v) (Zd.slh _ (Yr Z7 (by first|rfl|(rw [Zw Yt])|(rw [Zr Yt])|(simp [Yt];done)|(rw [Xl];simp [Yt];done)|omega))) fl)))
 rintro F h ⟨w4,rfl,rfl⟩
 exact ar (Zt (r2 [0] [ZO (if d=true then acc else (acc++[y])) w4] ⟨w4,rfl,rfl⟩ (Zd.slh _ (Yr Z7 (SF om Zp)))))
theorem Io (xs:LI) (y:Int) (hl:xs.length<=1000000000:=by exact ob):Zf 284 [Z6 xs,.i y] [] (fun r h=>∃(v:Value),r=ZO (UF xs y) v/\h=[.tail v 1]):=by
 refine ZD 28 Tryz.func284 (Y9 (ar (iL (Z7 []) 0 1 fun v1=>?_)))
 refine Z1 (Y0 (ab 0 (Y1 (fun fz gz m F h=>∃(k:Nat) (acc:LI) (v:Value),(k<=xs.length)/\(acc.length<=k)/\(acc++UF (xs.drop k) y=UF xs y)/\F=sF [0,1] fz [(5,ZO acc v),(6,.i k)]/\h=[.tail v 1]/\m=xs.length-k) _ _ _ ⟨0,[],v1,ob,ob,rfl,rfl,rfl,rfl⟩ (wk [0] (fr (Yd fl))) ?_)))
 rintro m F h ⟨k,acc,v,Yf,Zj,Zp,rfl,rfl,rfl⟩
 refine X1 2 (iw (Ye xs) (ZQ ((k:Int)<(xs.length:Int)) (fun Z9=>?_) (fun Z9=>?_)))
 ·refine ak (aq (ab 1 (Yg 2 ?_)))
  obtain ⟨x1,Z5⟩:=Zq xs k om
  refine Zm (Zh none (k:Int) 1 (ZZ Z5)) (Z1 (Kw (fun fz gz F h=>∃(w:Value),F=sF [0,1,6] fz [(5,ZO (if x1≠y then (acc++[x1]) else acc) w)]/\h=[.tail w 1]) (fun _ _=>rfl) ?_ ?_))
  ·refine ac (x1 != y) Xa (fun Zg=>?_) (fun Zg=>?_)
   ·exact az (Z2 3 (Zm (Zh none (k:Int) 1 (ZZ Z5)) (Z2 1 (iL (Z7 [x1]) 1 1 fun v2=>ZE 0 [(25,Z6 [x1])] (ip 1 (Z7 (acc++[x1])) (Z7 acc) (Z7 [x1]) v none 1 (Yw _) (Yw _) (XT _) (by simp<;>omega) (by simp [XQ,Z7]) fun v3=>Z1 (ZH ⟨v3,rfl,rfl⟩ (wk [0] (fc (x:=ZO (acc++[x1]) v3) (Zd.slh _ (Yr Z7 (by first|rfl|(rw [Zw Zg])|(rw [Zr Zg])|(simp [Zg];done)|(rw [Xl];simp [Zg];done)|omega))) fl))))))))
   exact ak (ZH ⟨v,rfl,rfl⟩ (wk [0] (fc (x:=ZO acc v) (Zd.slh _ (Yr Z7 (by first|rfl|(rw [Zw Zg])|(rw [Zr Zg])|(simp [Zg];done)|(rw [Xl];simp [Zg];done)|omega))) fl)))
  rintro F h ⟨w,rfl,rfl⟩
  exact az (Z2 1 (ZF k (Z1 (ZI ⟨k+1,(if x1≠y then (acc++[x1]) else acc),w,ob,(by split<;>(try simp)<;>omega),(Z1r Z5 Zp),rfl,rfl,rfl⟩ (wk [0] (fr (ZL k fl)))))))
 exact ax 0 (ar (Zt (r2 [0] [ZO acc v] ⟨v,rfl,rfl⟩ (Zd.slh _ (Yr Z7 (Z1q om Zp))))))
theorem Z3j (s:Z4) (q:Int) (xs:LI) (ih:∀(b2:Z3) (q:Int) (k2:Nat) (xs2:LI),(b2.sz<s.sz)->(k2<=b2.steps.length)->(xs2.length+b2.sz<=1000000000)->Zf 278 [ZC b2,.i q,.i k2,Z6 xs2] [] (Yu (Z6 (WX q (WY q (b2.steps.drop k2) xs2) b2.result)))) (hz:xs.length+s.sz<=1000000000):Zf 298 [Yp s,.i q,Z6 xs] [] (Yu (Z6 (Tn q s xs))):=by
 have hkz:=U6 s
 have haz:=T7 s
 have hse:=s.sz_eq
 refine ZD 58 Tryz.func298 (ar (iA (Xg s) fun b1=>Z1 (Y7 2 [0] (Zv [] (Gl s.op) (ie (ac (YP s.op) Iff.rfl (fun Z9=>?_) (fun Z9=>?_)))))))
 ·exact ar (Zt (Y4 (Z6 xs) (Zd.sl _ (Yr Z7 (by rw [Nl,Zw (by assumption)])))))
 refine ak (Y0 (ab 0 (Y1 (fun fz gz m F h=>∃(j:Nat) (ys:LI),(j<=s.args.length)/\(ys.length<=xs.length+j)/\(VK q (s.args.drop j) ys=VK q s.args xs)/\F=sF [1,3] fz [(2,Z6 ys),(7,.i j)]/\h=gz/\m=s.args.length-j) _ _ _ ⟨0,xs,ob,ob,rfl,rfl,rfl,rfl⟩ (wk [0] (fr (Yd fl))) ?_)))
 rintro m F h ⟨j,ys,Yf,Zj,Zp,rfl,rfl,rfl⟩
 refine Y7 3 [0] (iw (Ye s.args) (ZQ ((j:Int)<(s.args.length:Int)) (fun Zg=>?_) (fun Zg=>?_)))
 ·refine ak (aq (ab 1 (Zo 3 [0] ?_)))
  obtain ⟨x1,Z5⟩:=Zq s.args j om
  refine Zm (Zh none (j:Int) 1 (ZZ Z5)) (XN [1,2,3,7] [(34,.b ((decide (x1>=0))&&(decide (x1<q))))] (fun gz=>gz) ?_ ?_)
  ·refine Z2 3 (ib (b:=(decide (x1>=0))) 26 (fun Ze=>?_) (fun Ze=>?_))
   ·exact ZV 3 [0] (Zm (Zh none (j:Int) 1 (ZZ Z5)) (Z1 (wk [0] (ZP (decide (x1<q)) Ze fl))))
   exact Z1 (wk [0] (ZP false Ze fl))
  refine Kw (fun fz gz F h=>F=sF [1,3,7] fz [(2,Z6 (WX q ys x1))]/\h=gz) (fun _ _=>rfl) ?_ ?_
  ·refine ac ((decide (x1>=0))&&(decide (x1<q))) (p:=(x1>=0)/\(x1<q)) (Xr dq dq) (fun ZK=>?_) (fun ZK=>?_)
   ·refine az (ZV 4 [0] (Zm (Zh none (j:Int) 1 (ZZ Z5)) (Z2 1 (ic [] (BM ys x1) ?_))))
    rintro _ _ ⟨v1,rfl,rfl⟩
    exact Z1 (ZH ⟨rfl,rfl⟩ (wk [1] (fc (x:=ZO (WB ys x1) v1) (Zd.sl _ (Yr Z7 (by rw [WX,Zw (by assumption)]))) fl)))
   exact ak (ZH ⟨rfl,rfl⟩ (wk [0] (fc (x:=Z6 ys) (Zd.sl _ (Yr Z7 (by rw [WX,Zr (by assumption)]))) fl)))
  rintro F h ⟨rfl,rfl⟩
  exact az (Z2 1 (ZF j (Z1 (ZI ⟨j+1,(WX q ys x1),ob,(by have:=Cm (n:=q) ys x1;omega),(Z5c Z5 Zp),rfl,rfl,rfl⟩ (wk [0] (fr (ZL j fl)))))))
 have hA:VK q s.args xs=ys:=(Z5b om Zp).symm
 refine ax 0 (Y0 (ab 2 (Y1 (fun fz gz m F h=>∃(j:Nat) (zs:LI),(j<=s.kids.length)/\(zs.length<=xs.length+s.args.length+YH (s.kids.take j))/\(T0 q (s.kids.drop j) zs=T0 q s.kids (VK q s.args xs))/\F=sF [1,3] fz [(2,Z6 zs),(8,.i j)]/\h=gz/\m=s.kids.length-j) _ _ _ ⟨0,ys,ob,(by rw [List.take_zero,YH];omega),(by rw [hA];rfl),rfl,rfl,rfl⟩ (wk [0] (fr (Yd fl))) ?_)))
 rintro m F h ⟨j,zs,VX,Wh,Xm,rfl,rfl,rfl⟩
 refine Y7 3 [0] (iw (Vi s.kids) (ZQ ((j:Int)<(s.kids.length:Int)) (fun Yt=>?_) (fun Yt=>?_)))
 ·refine ak (aq (ab 3 (az (ZV 3 [0] ?_))))
  obtain ⟨x2,Zu⟩:=Zq s.kids j om
  have hks:=VP Zu
  have hbt:=CJ Zu
  have hbx:=CI Zu
  have hul:=DZ (n:=q) x2 zs
  exact Zm (Zh none (j:Int) 2 (Vu Zu)) (Z2 3 (Zv [] (ih x2 q 0 zs ob ob ob) (Z1 (az (Z2 1 (ZF j (Z1 (ZI ⟨j+1,(Vg q x2 zs),ob,om,(Z5f Zu Xm),rfl,rfl,rfl⟩ (wk [0] (fc (x:=Z6 (WX q (WY q (x2.steps.drop 0) zs) x2.result)) (Zd.sl _ (Yr Z7 (by rw [Ni];rfl))) (ZL j fl)))))))))))
 exact ax 2 (ar (Zt (Y4 (Z6 zs) (Zd.sl _ (Yr Z7 (by rw [Nl,Zr (by assumption)];exact (Z5e om Xm)))))))
theorem Z3k (b:Z3) (q:Int) (k0:Nat) (xs:LI) (ih:∀(s2:Z4) (q:Int) (xs2:LI),(s2.sz<b.sz)->(xs2.length+s2.sz<=1000000000)->Zf 298 [Yp s2,.i q,Z6 xs2] [] (Yu (Z6 (Tn q s2 xs2)))) (hk:k0<=b.steps.length) (hz:xs.length+b.sz<=1000000000):Zf 278 [ZC b,.i q,.i k0,Z6 xs] [] (Yu (Z6 (WX q (WY q (b.steps.drop k0) xs) b.result))):=by
 have hbz:=WR b
 have hbe:=b.sz_eq
 have hsd:=As b.steps k0
 refine ZD 40 Tryz.func278 (ar (iA (YK b) fun b1=>?_))
 refine Z1 (Y0 (ab 0 (Y1 (fun fz gz m F h=>∃(k:Nat) (ys:LI),(k<=b.steps.length)/\(ys.length+Y3 (b.steps.drop k)<=xs.length+Y3 (b.steps.drop k0))/\(WY q (b.steps.drop k) ys=WY q (b.steps.drop k0) xs)/\F=sF [1,4] fz [(3,Z6 ys),(9,.i k)]/\h=gz/\m=b.steps.length-k) _ _ _ ⟨k0,xs,ob,(YQ _),rfl,rfl,rfl,rfl⟩ (wk [0] fl) ?_)))
 rintro m F h ⟨k,ys,Yf,Zj,Zp,rfl,rfl,rfl⟩
 refine Y7 3 [0] (iw (WA b.steps) (ZQ ((k:Int)<(b.steps.length:Int)) (fun Z9=>?_) (fun Z9=>?_)))
 ·refine ak (aq (ab 1 (az (ZV 3 [0] ?_))))
  obtain ⟨x1,Z5⟩:=Zq b.steps k om
  have hss:=TH Z5
  have hsd1:=Ck Z5
  have hul:=Nm (n:=q) x1 ys
  exact Zm (Zh none (k:Int) 5 (XR Z5)) (Z2 3 (Zv [] (ih x1 q ys ob ob) (Z1 (az (Z2 1 (ZF k (Z1 (ZI ⟨k+1,(Tn q x1 ys),ob,ob,(Z5i Z5 Zp),rfl,rfl,rfl⟩ (wk [0] (fr (ZL k fl)))))))))))
 refine ax 0 (Xd (XN [3,4] [(34,.b ((decide (b.result>=0))&&(decide (b.result<q))))] (fun gz=>gz) ?_ ?_))
 ·refine ZV 4 [0] (ib (b:=(decide (b.result>=0))) 29 (fun Ze=>?_) (fun Ze=>?_))
  ·exact VG [0] (wk [0] (ZP (decide (b.result<q)) Ze fl))
  exact Z1 (wk [0] (ZP false Ze fl))
 refine XA (fun fz gz F h=>F=sF [] fz [(3,Z6 (WX q ys b.result))]/\h=[]) ?_ ?_
 ·refine ac ((decide (b.result>=0))&&(decide (b.result<q))) (p:=(b.result>=0)/\(b.result<q)) (Xr dq dq) (fun Zg=>?_) (fun Zg=>?_)
  ·refine az (ZV 3 [0] (ic [] (BM ys b.result) ?_))
   rintro _ _ ⟨v1,rfl,rfl⟩
   exact Z1 (ZH ⟨rfl,rfl⟩ (wk [] (fc (x:=ZO (WB ys b.result) v1) (Zd.sl _ (Yr Z7 (by rw [WX,Zw (by assumption)]))) fl)))
  exact ak (ZH ⟨rfl,rfl⟩ (wk [] (fc (x:=Z6 ys) (Zd.sl _ (Yr Z7 (by rw [WX,Zr (by assumption)]))) fl)))
 rintro F h ⟨rfl,rfl⟩
 exact ar (Zt (Y4 (Z6 (WX q ys b.result)) (Zd.sl _ (Yr Z7 (by rw [Z5h om Zp])))))
theorem Z4c (k:Nat):(∀(s:Z4) (q:Int) (xs:LI),(s.sz<=k)->(xs.length+s.sz<=1000000000)->Zf 298 [Yp s,.i q,Z6 xs] [] (Yu (Z6 (Tn q s xs))))/\(∀(b:Z3) (q:Int) (k0:Nat) (xs:LI),(b.sz<=k)->(k0<=b.steps.length)->(xs.length+b.sz<=1000000000)->Zf 278 [ZC b,.i q,.i k0,Z6 xs] [] (Yu (Z6 (WX q (WY q (b.steps.drop k0) xs) b.result)))):=by
 induction k with
 | zero=>exact ⟨fun s q xs h=>by have:=s.sz_pos;omega,fun b q k0 xs h=>by have:=b.sz_pos;omega⟩
 | succ k ih=>exact ⟨fun s q xs h hz=>Z3j s q xs (fun b2 q k2 xs2 h2 hk h3=>ih.2 b2 q k2 xs2 om hk h3) hz,fun b q k0 xs h hk hz=>Z3k b q k0 xs (fun s2 q xs2 h2 h3=>ih.1 s2 q xs2 om h3) hk hz⟩
theorem MB (b:Z3) (q:Int) (k0:Nat) (xs:LI) (hk:k0<=b.steps.length:=by exact ob) (hz:xs.length+b.sz<=1000000000:=by exact ob):Zf 278 [ZC b,.i q,.i k0,Z6 xs] [] (Yu (Z6 (WX q (WY q (b.steps.drop k0) xs) b.result))):=(Z4c b.sz).2 b q k0 xs (YQ _) hk hz
theorem MP (b:Z3) (q:Int) (hz:b.sz<=100000000:=by exact ob):Zf 242 [ZC b,.i q] [] (Yu (Z6 (Vg q b []))):=by
 exact ZD 9 Tryz.func242 (ar (iA (YK b) fun b1=>Z1 (Zo 2 [0] (iL (Z7 []) 0 1 fun v1=>ZE 0 [(7,Z6 [])] (Zv [] (MB b q 0 [] (hk:=(Uv _))) (Zt (Y4 (Z6 (WX q (WY q (b.steps.drop 0) []) b.result)) (Zd.sl _ (Yr Z7 (by rw [Ni];rfl))))))))))
theorem S5 (xs:LI) (ys:LI) (hz:xs.length+ys.length<=100000000:=by exact ob):Zf 279 [Z6 xs,Z6 ys] [] (fun r h=>∃(zs:LI),r=Z6 zs/\h=[]/\zs.length<=xs.length+ys.length):=by
 refine ZD 22 Tryz.func279 (Y9 (Yg 1 (ic [] (Vp xs) ?_)))
 rintro _ _ ⟨v1,rfl,rfl⟩
 refine Z1 (Y0 (ab 0 (Y1 (fun fz gz m F h=>∃(k:Nat) (zs:LI),(k<=ys.length)/\(zs.length<=xs.length+k)/\F=sF [1] fz [(5,Z6 zs),(6,.i k)]/\h=[]/\m=ys.length-k) _ _ _ ⟨0,xs,ob,ob,rfl,rfl,rfl⟩ (wk [] (fc (x:=ZO xs v1) (Zd.forget _ _) (Yd fl))) ?_)))
 rintro m F h ⟨k,zs,Yf,Zj,rfl,rfl,rfl⟩
 refine X1 2 (iw (Ye ys) (ZQ ((k:Int)<(ys.length:Int)) (fun Z9=>?_) (fun Z9=>?_)))
 ·refine ak (aq (ab 1 (az (Z2 3 ?_))))
  obtain ⟨x1,Z5⟩:=Zq ys k om
  refine Zm (Zh none (k:Int) 1 (ZZ Z5)) (Z2 1 (ic [] (BM zs x1) ?_))
  rintro _ _ ⟨v2,rfl,rfl⟩
  exact Z1 (az (Z2 1 (ZF k (Z1 (ZI ⟨k+1,(WB zs x1),ob,(by have:=B0 zs x1;omega),rfl,rfl,rfl⟩ (wk [] (fc (x:=ZO (WB zs x1) v2) (Zd.forget _ _) (ZL k fl))))))))
 exact ax 0 (ar (Zt (r1 [] ⟨zs,rfl,rfl,ob⟩)))
theorem I8 (xs:LI) (ys:LI) (hz:xs.length<=100000000:=by exact ob) (hy:ys.length<=100000000:=by exact ob):Zf 301 [Z6 xs,Z6 ys] [] (fun r h=>∃(zs:LI) (v:Value),r=ZO zs v/\h=[.tail v 1]/\zs.length<=xs.length/\∀z∈zs,z∈xs):=by
 refine ZD 28 Tryz.func301 (Y9 (ar (iL (Z7 []) 0 1 fun v1=>?_)))
 refine Z1 (Y0 (ab 0 (Y1 (fun fz gz m F h=>∃(k:Nat) (zs:LI) (u:Value),(k<=xs.length)/\(zs.length<=k)/\(∀z∈zs,z∈xs)/\F=sF [0,1] fz [(5,ZO zs u),(6,.i k)]/\h=[.tail u 1]/\m=xs.length-k) _ _ _ ⟨0,[],v1,ob,ob,(fun z hz=>by cases hz),rfl,rfl,rfl⟩ (wk [0] (fr (Yd fl))) ?_)))
 rintro m F h ⟨k,zs,u,Yf,Zj,Zp,rfl,rfl,rfl⟩
 refine X1 2 (iw (Ye xs) (ZQ ((k:Int)<(xs.length:Int)) (fun Z9=>?_) (fun Z9=>?_)))
 ·refine ak (aq (ab 1 (Yg 3 ?_)))
  obtain ⟨x1,Z5⟩:=Zq xs k om
  refine Zm (Zh none (k:Int) 1 (ZZ Z5)) (Z2 1 (Zv [] (VI ys x1) (ie (VJ (x1∈ys) (fun Zg=>?_) (fun Zg=>?_)))))
  ·exact az (Z2 3 (Zm (Zh none (k:Int) 1 (ZZ Z5)) (Z2 1 (iL (Z7 [x1]) 1 1 fun v2=>ZE 0 [(25,Z6 [x1])] (ip 1 (Z7 (zs++[x1])) (Z7 zs) (Z7 [x1]) u none 1 (Yw _) (Yw _) (XT _) (by simp<;>omega) (by simp [XQ,Z7]) fun v3=>Z1 (az (Z2 1 (ZF k (Z1 (ZI ⟨k+1,(zs++[x1]),v3,ob,ob,(by first|exact Zp|exact Xb Zp (ZW Z5)),rfl,rfl,rfl⟩ (wk [0] (fr (ZL k fl)))))))))))))
  exact ak (az (Z2 1 (ZF k (Z1 (ZI ⟨k+1,zs,u,ob,ob,(by first|exact Zp|exact Xb Zp (ZW Z5)),rfl,rfl,rfl⟩ (wk [0] (fr (ZL k fl))))))))
 exact ax 0 (ar (Zt (r1 [0] ⟨zs,u,rfl,rfl,⟨by omega,Zp⟩⟩)))
theorem Fe (xs:LI) (q:Int) (hz:xs.length<=100000000:=by exact ob):Zf 308 [Z6 xs,.i q] [] (fun r h=>∃(zs:LI) (v:Value),r=ZO zs v/\h=[.tail v 1]/\zs.length<=xs.length/\∀z∈zs,z∈xs):=by
 refine ZD 28 Tryz.func308 (Y9 (ar (iL (Z7 []) 0 1 fun v1=>?_)))
 refine Z1 (Y0 (ab 0 (Y1 (fun fz gz m F h=>∃(k:Nat) (zs:LI) (u:Value),(k<=xs.length)/\(zs.length<=k)/\(∀z∈zs,z∈xs)/\F=sF [0,1] fz [(5,ZO zs u),(6,.i k)]/\h=[.tail u 1]/\m=xs.length-k) _ _ _ ⟨0,[],v1,ob,ob,(fun z hz=>by cases hz),rfl,rfl,rfl⟩ (wk [0] (fr (Yd fl))) ?_)))
 rintro m F h ⟨k,zs,u,Yf,Zj,Zp,rfl,rfl,rfl⟩
 refine X1 2 (iw (Ye xs) (ZQ ((k:Int)<(xs.length:Int)) (fun Z9=>?_) (fun Z9=>?_)))
 ·refine ak (aq (ab 1 (Yg 2 ?_)))
  obtain ⟨x1,Z5⟩:=Zq xs k om
  refine Zm (Zh none (k:Int) 1 (ZZ Z5)) (ZQ (x1<q) (fun Zg=>?_) (fun Zg=>?_))
  ·exact az (Z2 3 (Zm (Zh none (k:Int) 1 (ZZ Z5)) (Z2 1 (iL (Z7 [x1]) 1 1 fun v2=>ZE 0 [(25,Z6 [x1])] (ip 1 (Z7 (zs++[x1])) (Z7 zs) (Z7 [x1]) u none 1 (Yw _) (Yw _) (XT _) (by simp<;>omega) (by simp [XQ,Z7]) fun v3=>Z1 (az (Z2 1 (ZF k (Z1 (ZI ⟨k+1,(zs++[x1]),v3,ob,ob,(by first|exact Zp|exact Xb Zp (ZW Z5)),rfl,rfl,rfl⟩ (wk [0] (fr (ZL k fl)))))))))))))
  exact ak (az (Z2 1 (ZF k (Z1 (ZI ⟨k+1,zs,u,ob,ob,(by first|exact Zp|exact Xb Zp (ZW Z5)),rfl,rfl,rfl⟩ (wk [0] (fr (ZL k fl))))))))
 exact ax 0 (ar (Zt (r1 [0] ⟨zs,u,rfl,rfl,⟨by omega,Zp⟩⟩)))
theorem Ka (op:Int) (v:Int) :Zf 146 [.i op,.i v] [] (Yu (Yp (Zl op v))):=by
 exact ZD 10 Tryz.func146 (ar (iA [.i 0,.i 0,.i 0,nl,nl] fun b1=>ie (Yg 2 (iL (Z7 [v]) 1 1 fun v1=>iL (Ys []) 0 2 fun v2=>Z2 1 (ZA 2 b1 [.i op,.i 0,.i 0,ZO [v] v1,U7 [] v2] (ie (ZJ (r3 [] [.agg [.i op,.i 0,.i 0,ZO [v] v1,U7 [] v2]] [0] [(b1,b1)] ⟨rfl,rfl⟩ (Zd.agg (.cons li (.cons li (.cons li (.cons (Zd.sl _ (Yr Z7 rfl)) (.cons (Zd.sl _ (Yr Ys rfl)) .nil))))))))))))))
theorem TY (op:Int) (xs:LI) (hl:xs.length<=1000000000:=by exact ob):Zf 244 [.i op,Z6 xs] [] (fun r h=>∃(v:Value),r=YG (xs.map (Zl op)) v/\h=[.tail v 5]):=by
 refine ZD 24 Tryz.func244 (Y9 (ar (iL (Zi []) 0 5 fun v1=>?_)))
 refine Z1 (Y0 (ab 0 (Y1 (fun fz gz m F h=>∃(k:Nat) (v:Value),(k<=xs.length)/\F=sF [0,1] fz [(5,YG ((xs.take k).map (Zl op)) v),(6,.i k)]/\h=[.tail v 5]/\m=xs.length-k) _ _ _ ⟨0,v1,ob,rfl,rfl,rfl⟩ (wk [0] (fc (x:=YG [] v1) (Zd.slh _ (Yr Zi rfl)) (Yd fl))) ?_)))
 rintro m F h ⟨k,v,Yf,rfl,rfl,rfl⟩
 refine X1 2 (iw (Ye xs) (ZQ ((k:Int)<(xs.length:Int)) (fun Z9=>?_) (fun Z9=>?_)))
 ·refine ak (aq (ab 1 (az (Z2 4 ?_))))
  obtain ⟨x1,Z5⟩:=Zq xs k om
  exact Zm (Zh none (k:Int) 1 (ZZ Z5)) (Z2 1 (Zv [] (Ka op x1) (iL [Yp (Zl op x1)] 1 5 fun v2=>ZE 0 [(21,.sl [Yp (Zl op x1)] none)] (ip 1 (Zi ((xs.take (k+1)).map (Zl op))) (Zi ((xs.take k).map (Zl op))) [Yp (Zl op x1)] v none 5 (YX _) (Tg rfl) rfl (by simp<;>omega) (by rw [Vq Z5];simp [WM]) fun v3=>Z1 (az (Z2 1 (ZF k (Z1 (ZI ⟨k+1,v3,ob,rfl,rfl,rfl⟩ (wk [0] (fr (ZL k fl))))))))))))
 exact ax 0 (ar (Zt (r2 [0] [YG ((xs.take k).map (Zl op)) v] ⟨v,rfl,rfl⟩ (Zd.slh _ (Yr Zi (by rw [WS om]))))))
theorem RI (n:Zx) (s:Z4) (i:Nat) (mm:Nat) (hn:Xh n:=by exact ob) (hf:FS n.decls n.routines.length mm s:=by exact ob) (hi:i<s.args.length:=by exact ob):Zf 307 [Yl n,Yp s,.i i] [] (fun r h=>∃(wr:Bool),r=.b wr/\h=[]):=by
 have hal:=hf.alen
 refine ZD 42 Tryz.func307 (ar (iA (YN n) fun b1=>iA (Xg s) fun b2=>?_))
 refine Z1 (Y0 (ab 0 (Y1 (fun fz gz m F h=>∃(k:Nat),(k<=s.args.length)/\F=sF [2,3,4] fz [(7,.i k)]/\h=gz/\m=s.args.length-k) _ _ _ ⟨0,ob,rfl,rfl,rfl⟩ (wk [0,0] (Yd fl)) ?_)))
 rintro m F h ⟨k,Yf,rfl,rfl,rfl⟩
 refine Y7 3 [0] (iw (Ye s.args) (ZQ ((k:Int)<(s.args.length:Int)) (fun Z9=>?_) (fun Z9=>?_)))
 ·refine ak (aq (ab 1 (aD 27 (Zk 23 27 [0,1,2,3] (db (b:=((k:Int) != (i:Int))) 18 (fun Ze=>?_) (fun Ze=>?_))))))
  ·refine ZG 20 23 [4,5,6] [0] ?_
   obtain ⟨x1,Z5⟩:=Zq s.args k om
   refine dx 7 (Zh none (k:Int) 1 (ZZ Z5)) (ZG 15 19 [8,9,10,11] [0] ?_)
   obtain ⟨x2,Zu⟩:=Zq s.args i om
   refine dx 12 (Zh none (i:Int) 1 (ZZ Zu)) (Zk 10 14 [13,14,15,16] (db (b:=(x1==x2)) 31 (fun ZU=>?_) (fun ZU=>?_)))
   ·refine Zk 6 10 [17,18,19,20] (db (b:=(decide ((k:Int)>(i:Int)))) 35 (fun X4=>?_) (fun X4=>?_))
    ·exact Zk 0 6 [21,22,23,24,25,26] (de (Vh (ar (Zt (r1 [] ⟨true,rfl,rfl⟩)))))
    refine ZG 3 6 [21,22,23] [1,0] (Z8 24 (Yo 24 [] [] [] (Cj n s k (hnum:=hf.call)) (Zk 0 2 [25,26] (de (ac (VQ n s.op s.num k) Iff.rfl (fun Zg=>?_) (fun Zg=>?_))))))
    ·exact ar (Zt (r1 [] ⟨true,rfl,rfl⟩))
    exact ak (az (Z2 1 (ZF k (Z1 (ZI ⟨k+1,ob,rfl,rfl,rfl⟩ (wk [0,0] (ZL k fl)))))))
   exact Zk 0 10 [17,18,19,20,21,22,23,24,25,26] (de (Wx (ak (az (Z2 1 (ZF k (Z1 (ZI ⟨k+1,ob,rfl,rfl,rfl⟩ (wk [0,0] (ZL k fl))))))))))
  exact Zk 0 23 [4,5,6,7,8,9,10,11,12,13,14,15,16,17,18,19,20,21,22,23,24,25,26] (de (Wx (ak (az (Z2 1 (ZF k (Z1 (ZI ⟨k+1,ob,rfl,rfl,rfl⟩ (wk [0,0] (ZL k fl))))))))))
 exact ax 0 (ar (Zt (r1 [] ⟨false,rfl,rfl⟩)))
theorem If (n:Zx) (s:Z4) (i:Nat) (mm:Nat) (os:LI) (ls:LI) (hn:Xh n:=by exact ob) (hf:FS n.decls n.routines.length mm s:=by exact ob) (hi:i<s.args.length:=by exact ob) (ho:os.length<=100000000:=by exact ob) (hl:ls.length<=100000000:=by exact ob):Zf 299 [Yl n,Yp s,.i i,Z6 os,Z6 ls] [] (fun r h=>∃(wr:Bool),r=.b wr/\h=[]):=by
 refine ZD 34 Tryz.func299 (ar (iA (YN n) fun b1=>iA (Xg s) fun b2=>Z1 (Zo 4 [0] ?_)))
 obtain ⟨x1,Z5⟩:=Zq s.args i om
 refine Zm (Zh none (i:Int) 1 (ZZ Z5)) (Z2 1 (Zv [] (VI ls x1) (Z2 1 (ib (b:=(decide (x1∈ls))) 18 (fun Ze=>?_) (fun Ze=>?_)))))
 ·exact Zt (r1 [] ⟨true,rfl,rfl⟩)
 refine ZV 4 [0] (Zm (Zh none (i:Int) 1 (ZZ Z5)) (Z2 1 (Zv [] (VI os x1) (Z2 3 (ib (b:=(!(decide (x1∈os)))) 28 (fun ZU=>?_) (fun ZU=>?_))))))
 ·exact Zt (r1 [] ⟨true,rfl,rfl⟩)
 refine ZV 3 [1,0] (ic [] (RI n s i mm) ?_)
 rintro _ _ ⟨wr1,rfl,rfl⟩
 exact Zt (r1 [] ⟨wr1,rfl,rfl⟩)
theorem Rn (n:Zx) (us:LI) (s:Z4) (os:LI) (ls:LI) (mm:Nat) (hn:Xh n:=by exact ob) (hf:FS n.decls n.routines.length mm s:=by exact ob) (hvl:us.length=mm:=by exact ob) (hm:mm<=100000000:=by exact ob) (ho:os.length<=100000000:=by exact ob) (hl:ls.length<=100000000:=by exact ob):Zf 280 [Yl n,Z6 us,Yp s,Z6 os,Z6 ls] [] (fun r h=>∃(zs:LI),r=Z6 zs/\h=[]/\zs.length<=s.args.length/\∀z∈zs,z∈s.args):=by
 have hal:=hf.alen
 refine ZD 43 Tryz.func280 (ar (iA (YN n) fun b1=>iA (Xg s) fun b2=>Z1 (ar (iL (Z7 []) 0 1 fun v1=>?_))))
 refine Z1 (Y0 (ab 0 (Y1 (fun fz gz m F h=>∃(k:Nat) (zs:LI) (u:Value),(k<=s.args.length)/\(zs.length<=k)/\(∀z∈zs,z∈s.args)/\F=sF [1,3,4,5,7] fz [(11,ZO zs u),(12,.i k)]/\h=[Za gz 1,Za gz 2,.tail u 1]/\m=s.args.length-k) _ _ _ ⟨0,[],v1,ob,ob,(fun z hz=>by cases hz),rfl,rfl,rfl⟩ (wk [1,1,0] (fr (Yd fl))) ?_)))
 rintro m F h ⟨k,zs,u,Yf,Zj,Zp,rfl,rfl,rfl⟩
 refine Y7 3 [0] (iw (Ye s.args) (ZQ ((k:Int)<(s.args.length:Int)) (fun Z9=>?_) (fun Z9=>?_)))
 ·obtain ⟨a1,ha1⟩:=Zq s.args k om
  have har:=hf.args a1 (ZW ha1)
  refine ak (aq (ab 1 (Zo 4 [1,0] (Zv [] (DW n us s k a1 (hnum:=hf.call) (ha:=ha1)) (Z2 1 (ib (b:=Qs n us s.op s.num a1 k) 26 (fun Ze=>?_) (fun Ze=>?_)))))))
  ·refine ZV 5 [1,0] (ic [] (If n s k mm os ls) ?_)
   rintro _ _ ⟨wr1,rfl,rfl⟩
   refine YR wr1 Iff.rfl (fun Zg=>?_) (fun Zg=>?_)
   ·exact az (ZV 4 [0] (Zm (Zh none (k:Int) 1 (ZZ ha1)) (Z2 1 (iL (Z7 [a1]) 1 1 fun v2=>ZE 0 [(40,Z6 [a1])] (ip 3 (Z7 (zs++[a1])) (Z7 zs) (Z7 [a1]) u none 1 (Yw _) (Yw _) (XT _) (by simp<;>omega) (by simp [XQ,Z7]) fun v3=>Z1 (az (Z2 1 (ZF k (Z1 (ZI ⟨k+1,(zs++[a1]),v3,ob,ob,(by first|exact Zp|exact Xb Zp (ZW ha1)),rfl,rfl,rfl⟩ (wk [2,2,0] (fr (ZL k fl)))))))))))))
   exact ak (az (Z2 1 (ZF k (Z1 (ZI ⟨k+1,zs,u,ob,ob,(by first|exact Zp|exact Xb Zp (ZW ha1)),rfl,rfl,rfl⟩ (ZT 3 (fr (ZL k fl))))))))
  exact Z1 (Wx (ak (az (Z2 1 (ZF k (Z1 (ZI ⟨k+1,zs,u,ob,ob,(by first|exact Zp|exact Xb Zp (ZW ha1)),rfl,rfl,rfl⟩ (ZT 3 (fr (ZL k fl))))))))))
 exact ax 0 (ar (Zt (r2 [] [ZO zs u] ⟨zs,rfl,rfl,⟨by omega,Zp⟩⟩ (Zd.forget _ _))))
theorem RA (n:Zx) (us:LI) (s:Z4) (os:LI) (ls:LI) (mm:Nat) (hn:Xh n:=by exact ob) (hf:FS n.decls n.routines.length mm s:=by exact ob) (hvl:us.length=mm:=by exact ob) (hm:mm<=100000000:=by exact ob) (ho:os.length<=100000000:=by exact ob) (hl:ls.length<=100000000:=by exact ob):Zf 282 [Yl n,Z6 us,Yp s,Z6 os,Z6 ls] [] (fun r h=>∃(zs:LI) (v:Value),r=ZO zs v/\h=[.tail v 1]/\zs.length<=os.length/\∀z∈zs,z∈os):=by
 have hal:=hf.alen
 refine ZD 55 Tryz.func282 (ar (iA (YN n) fun b1=>iA (Xg s) fun b2=>Z1 (Y7 4 [0] (ib (b:=(s.op==7)) 16 (fun Ze=>?_) (fun Ze=>?_)))))
 ·refine Z1 (Vh (Yg 2 (ic [] (I8 os ls) ?_)))
  rintro _ _ ⟨zs1,v1,rfl,rfl,Yc⟩
  have hco:=Yc
  exact Zt (r1 [0] ⟨zs1,v1,rfl,rfl,(by first|exact hco|exact ⟨by omega,Zp⟩)⟩)
 refine VG [0] (ac (s.op==8) ZB (fun Z9=>?_) (fun Z9=>?_))
 ·refine Yg 2 (ic [] (I8 os ls) ?_)
  rintro _ _ ⟨zs2,v2,rfl,rfl,YZ⟩
  have hco:=YZ
  exact Zt (r1 [0] ⟨zs2,v2,rfl,rfl,(by first|exact hco|exact ⟨by omega,Zp⟩)⟩)
 refine ak (Yg 1 (ic [] (Vp os) ?_))
 rintro _ _ ⟨v3,rfl,rfl⟩
 refine Z1 (Y0 (ab 0 (Y1 (fun fz gz m F h=>∃(k:Nat) (zs:LI) (u:Value),(k<=s.args.length)/\(zs.length<=os.length)/\(∀z∈zs,z∈os)/\F=sF [1,3,4,5,7] fz [(11,ZO zs u),(12,.i k)]/\h=[Za gz 1,Za gz 2,.tail u 1]/\m=s.args.length-k) _ _ _ ⟨0,os,v3,ob,ob,(fun z hz=>hz),rfl,rfl,rfl⟩ (wk [1,1,0] (fr (Yd fl))) ?_)))
 rintro m F h ⟨k,zs,u,Yf,Zj,Zp,rfl,rfl,rfl⟩
 refine Y7 3 [0] (iw (Ye s.args) (ZQ ((k:Int)<(s.args.length:Int)) (fun Zg=>?_) (fun Zg=>?_)))
 ·obtain ⟨a1,ha1⟩:=Zq s.args k om
  have har:=hf.args a1 (ZW ha1)
  refine ak (aq (ab 1 (Zo 4 [1,0] (Zv [] (DW n us s k a1 (hnum:=hf.call) (ha:=ha1)) (Z2 1 (ib (b:=Qs n us s.op s.num a1 k) 38 (fun ZU=>?_) (fun ZU=>?_)))))))
  ·refine ZV 5 [1,0] (ic [] (If n s k mm os ls) ?_)
   rintro _ _ ⟨wr1,rfl,rfl⟩
   refine YR (!wr1) (p:=¬(wr1=true)) (Xi Iff.rfl) (fun ZK=>?_) (fun ZK=>?_)
   ·refine az (ZV 4 [0] (Zm (Zh none (k:Int) 1 (ZZ ha1)) (ZE 1 [(47,Z6 zs)] (ic [] (Io zs a1) ?_))))
    rintro _ _ ⟨v4,rfl,rfl⟩
    exact Z1 (az (Z2 1 (ZF k (Z1 (ZI ⟨k+1,(UF zs a1),v4,ob,(by first|exact Zj|exact WJ (C9 _ _) Zj),(by first|exact Zp|exact (fun z hz=>Zp z (B9 hz))),rfl,rfl,rfl⟩ (wk [1,1,0] (fr (ZL k fl))))))))
   exact ak (az (Z2 1 (ZF k (Z1 (ZI ⟨k+1,zs,u,ob,(by first|exact Zj|exact WJ (C9 _ _) Zj),(by first|exact Zp|exact (fun z hz=>Zp z (B9 hz))),rfl,rfl,rfl⟩ (ZT 3 (fr (ZL k fl))))))))
  exact Z1 (Wx (ak (az (Z2 1 (ZF k (Z1 (ZI ⟨k+1,zs,u,ob,(by first|exact Zj|exact WJ (C9 _ _) Zj),(by first|exact Zp|exact (fun z hz=>Zp z (B9 hz))),rfl,rfl,rfl⟩ (ZT 3 (fr (ZL k fl))))))))))
 exact ax 0 (ar (Zt (r1 [2] ⟨zs,u,rfl,rfl,(by first|exact hco|exact ⟨by omega,Zp⟩)⟩)))
theorem RB (n:Zx) (s:Z4) (os:LI) (ls:LI) (mm:Nat) (hn:Xh n:=by exact ob) (hf:FS n.decls n.routines.length mm s:=by exact ob) (ho:os.length<=100000000:=by exact ob) (hl:ls.length<=100000000:=by exact ob):Zf 283 [Yl n,Yp s,Z6 os,Z6 ls] [] (fun r h=>∃(zs:LI),r=Z6 zs/\h=[]/\zs.length<=s.args.length/\∀z∈zs,z∈s.args):=by
 have hal:=hf.alen
 refine ZD 50 Tryz.func283 (ar (iA (YN n) fun b1=>iA (Xg s) fun b2=>Z1 (ar (iL (Z7 []) 0 1 fun v1=>?_))))
 refine Z1 (Y0 (ab 0 (Y1 (fun fz gz m F h=>∃(k:Nat) (zs:LI) (u:Value),(k<=s.args.length)/\(zs.length<=k)/\(∀z∈zs,z∈s.args)/\F=sF [2,3,4,5] fz [(9,ZO zs u),(10,.i k)]/\h=[Za gz 1,Za gz 2,.tail u 1]/\m=s.args.length-k) _ _ _ ⟨0,[],v1,ob,ob,(fun z hz=>by cases hz),rfl,rfl,rfl⟩ (wk [1,1,0] (fr (Yd fl))) ?_)))
 rintro m F h ⟨k,zs,u,Yf,Zj,Zp,rfl,rfl,rfl⟩
 refine Y7 3 [0] (iw (Ye s.args) (ZQ ((k:Int)<(s.args.length:Int)) (fun Z9=>?_) (fun Z9=>?_)))
 ·obtain ⟨a1,ha1⟩:=Zq s.args k om
  have har:=hf.args a1 (ZW ha1)
  refine ak (aq (ab 1 (Zo 3 [1,0] (Zv [] (Cj n s k (hnum:=hf.call)) (Vc 13 [2,3,4,5,9,10] [(31,.b (VQ n s.op s.num k&&(decide (a1∈os))))] (fun gz=>gz) ?_ (fun hj1=>?_))))))
  ·refine XN [2,3,4,5,9,10] [(41,.b ((VQ n s.op s.num k&&(decide (a1∈os)))&&(!(decide (a1∈ls)))))] (fun gz=>gz) ?_ ?_
   ·refine Z2 1 (ib (b:=(VQ n s.op s.num k&&(decide (a1∈os)))) 32 (fun Ze=>?_) (fun Ze=>?_))
    ·exact ZV 4 [0] (Zm (Zh none (k:Int) 1 (ZZ ha1)) (Z2 1 (Zv [] (VI ls a1) (Z1 (ZT 3 (ZP (!(decide (a1∈ls))) Ze fl))))))
    exact Z1 (ZT 3 (ZP false Ze fl))
   refine ac ((VQ n s.op s.num k&&(decide (a1∈os)))&&(!(decide (a1∈ls)))) (p:=((VQ n s.op s.num k=true)/\(a1∈os))/\(¬(a1∈ls))) (Xr (Xr Iff.rfl dq) (Xi dq)) (fun Zg=>?_) (fun Zg=>?_)
   ·refine az (ZV 4 [0] (Zm (Zh none (k:Int) 1 (ZZ ha1)) (ZE 1 [(42,Z6 zs)] (ic [] (BM zs a1) ?_))))
    rintro _ _ ⟨v2,rfl,rfl⟩
    exact Z1 (az (Z2 1 (ZF k (Z1 (ZI ⟨k+1,(WB zs a1),v2,ob,(by first|omega|(have:=B0 zs a1;omega)),(by first|exact Zp|exact (fun z hz=>(BT.1 hz).elim (Zp z) (fun e=>e▸ZW ha1))),rfl,rfl,rfl⟩ (wk [1,1,0] (fr (ZL k fl))))))))
   exact ak (az (Z2 1 (ZF k (Z1 (ZI ⟨k+1,zs,u,ob,(by first|omega|(have:=B0 zs a1;omega)),(by first|exact Zp|exact (fun z hz=>(BT.1 hz).elim (Zp z) (fun e=>e▸ZW ha1))),rfl,rfl,rfl⟩ (ZT 3 (fr (ZL k fl))))))))
  refine Z2 1 (ib (b:=VQ n s.op s.num k) 23 (fun ZU=>?_) (fun ZU=>?_))
  ·exact ZV 4 [0] (Zm (Zh none (k:Int) 1 (ZZ ha1)) (Z2 1 (Zv [] (VI os a1) (Z2 1 (Xy (ZT 3 (ZP (decide (a1∈os)) ZU fl)) hj1)))))
  exact Z2 8 (Xy (ZT 3 (ZP false ZU fl)) hj1)
 exact ax 0 (ar (Zt (r2 [] [ZO zs u] ⟨zs,rfl,rfl,⟨by omega,Zp⟩⟩ (Zd.forget _ _))))
theorem Bi (rt:Y8) (b:Z3) (hp:rt.params.length<=4294967296:=by exact ob) (hl:rt.lent.length<=4294967296:=by exact ob):Zf 142 [TM rt,ZC b] [] (Yu (TM (Y8.mk rt.params rt.lent rt.result b))):=by
 refine ZD 15 Tryz.func142 (ar (iA (K1 rt) fun b1=>iA (YK b) fun b2=>iA [nl,nl,.i 0,nl,.i 0] fun b3=>ie (aD 11 (ZG 4 11 [0,1,3,4,6,7,8] [2,2,2,1] (Z8 2 (dc 2 [] [1,2,2] [b2,b1,b1] (Vp rt.params) ?_))))))
 rintro _ _ ⟨v1,rfl,rfl⟩
 refine Z8 5 (dc 5 [] [1,2] [b2,b1] (Vp rt.lent) ?_)
 rintro _ _ ⟨v2,rfl,rfl⟩
 exact Zk 1 2 [9] (Z8 10 (Yy 10 2 [] [] b3 [ZO rt.params v1,ZO rt.lent v2,.i rt.result,Wo b.steps,.i b.result] (de (ZJ (r3 [] [.agg [ZO rt.params v1,ZO rt.lent v2,.i rt.result,Wo b.steps,.i b.result]] [0] [(b3,b3)] ⟨rfl,rfl⟩ (Zd.agg (.cons (Zd.sl _ (Yr Z7 ob)) (.cons (Zd.sl _ (Yr Z7 ob)) (.cons li (.cons (Zd.sl _ (Yr Zi ob)) (.cons li .nil)))))))))))
theorem Ri (n:Zx) (us:LI) (fds:LI) (kd:Z3) (os:LI) (ls:LI) (mm:Nat) (bb:Nat) (hn:Xh n:=by exact ob) (hf:fB n.decls n.routines.length (mm+fds.length) kd:=by exact ob) (hop:WD Wc kd:=by exact ob) (hul:us.length=mm:=by exact ob) (hfl:fds.length<=3:=by exact ob) (hm:mm+3+4*kd.sz<=100000:=by exact ob) (hor:∀v∈os,0<=v/\v<(mm:Int)) (hol:os.length+3+4*kd.sz<=730:=by exact ob) (hal:ls.length+2000*kd.sz<=1000000:=by exact ob) (hbz:kd.sz<=500:=by exact ob) (hb:kd.sz<bb:=by exact ob) (ih:∀(us2:LI) (b2:Z3) (os2:LI) (as2:LI) (m2:Nat),(fB n.decls n.routines.length m2 b2)->(WD Wc b2)->(us2.length=m2)->(m2+4*b2.sz<=100000)->(∀v∈os2,0<=v/\v<(m2:Int))->(os2.length+4*b2.sz<=730)->(as2.length+2000*b2.sz<=1000000)->(b2.sz<=500)->(b2.sz<bb)->Zf 243 [Yl n,Z6 us2,ZC b2,Z6 os2,Z6 as2] [] (fun r h=>∃(y:Z3),r=ZC y/\h=[]/\KB n.decls n.routines.length m2 y (4500*b2.sz))):Zf 300 [Yl n,Z6 us,Z6 fds,ZC kd,Z6 os,Z6 ls] [] (fun r h=>∃(y:Z3),r=ZC y/\h=[]/\KB n.decls n.routines.length (mm+fds.length) y (4500*kd.sz+1470)):=by
 refine ZD 115 Tryz.func300 (ar (iA (YN n) fun b1=>iA (YK kd) fun b2=>iA [nl,.i 0] fun b3=>ie (Yg 1 (iw (Ye us) (Z1 (Yg 2 (ic [] (TG us fds) ?_)))))))
 rintro _ _ ⟨v1,rfl,rfl⟩
 refine Z1 (Zo 2 [2] (io (.i (((us++fds).length:Nat):Int)) (.i (((Z7 (us++fds)).length:Nat):Int)) (li (by rw [Ye])) (Zv [] (MP kd (((us++fds).length:Nat):Int)) ?_)))
 have hub:=DZ (n:=(((us++fds).length:Nat):Int)) kd []
 simp only [X6,Wt] at hub
 refine Z1 (ar (iL (Z7 []) 0 1 fun v2=>Z1 (ar (iL (Z7 []) 0 1 fun v3=>?_))))
 refine Z1 (Y0 (ab 0 (Y1 (fun fz gz m F h=>∃(k:Nat) (ms:LI) (u:Value) (dr:LI) (w:Value),(k<=os.length)/\(ms.length<=k)/\(dr.length<=k)/\(∀v∈ms,0<=v/\v<(mm:Int))/\(∀v∈dr,0<=v/\v<(mm:Int))/\F=sF [2,4,5,6,9,12,13,15] fz [(14,Z6 (us++fds)),(16,ZO ms u),(17,ZO dr w),(18,.i k)]/\h=[Za gz 3,Za gz 4,Za gz 5,.tail u 1,.tail w 1]/\m=os.length-k) _ _ _ ⟨0,[],v2,[],v3,ob,ob,ob,(fun v hv=>by cases hv),(fun v hv=>by cases hv),rfl,rfl,rfl⟩ (wk [3,3,3,1,0] (fc (x:=ZO (us++fds) v1) (Zd.forget _ _) (fw (Yd fl)))) ?_)))
 rintro m F h ⟨k,ms,u,dr,w,Yf,Zj,Zp,YA,XZ,rfl,rfl,rfl⟩
 refine X1 2 (iw (Ye os) (ZQ ((k:Int)<(os.length:Int)) (fun Z9=>?_) (fun Z9=>?_)))
 ·obtain ⟨o1,ho1⟩:=Zq os k om
  have hor1:=hor o1 (ZW ho1)
  refine ak (aq (ab 1 (Yg 3 (Zm (Zh none (k:Int) 1 (ZZ ho1)) (Z2 1 (Zv [] (VI (Vg (((us++fds).length:Nat):Int) kd []) o1) (XN [2,4,5,6,9,12,13,14,15,16,17,18] [(53,.b ((decide (o1∈(Vg (((us++fds).length:Nat):Int) kd [])))||(decide (o1∈ls))))] (fun gz=>gz) ?_ ?_)))))))
  ·refine Z2 1 (ib (b:=(decide (o1∈(Vg (((us++fds).length:Nat):Int) kd [])))) 46 (fun Ze=>?_) (fun Ze=>?_))
   ·exact Z1 (ZT 5 (ZP true Ze fl))
   exact Z2 3 (Zm (Zh none (k:Int) 1 (ZZ ho1)) (Z2 1 (Zv [] (VI ls o1) (Z1 (ZT 5 (ZP (decide (o1∈ls)) Ze fl))))))
  refine ac ((decide (o1∈(Vg (((us++fds).length:Nat):Int) kd [])))||(decide (o1∈ls))) (p:=(o1∈(Vg (((us++fds).length:Nat):Int) kd []))∨(o1∈ls)) (Xu dq dq) (fun Zg=>?_) (fun Zg=>?_)
  ·exact az (Z2 3 (Zm (Zh none (k:Int) 1 (ZZ ho1)) (Z2 1 (iL (Z7 [o1]) 1 1 fun v4=>ZE 0 [(59,Z6 [o1])] (ip 4 (Z7 (ms++[o1])) (Z7 ms) (Z7 [o1]) u none 1 (Yw _) (Yw _) (XT _) (by simp<;>omega) (by simp [XQ,Z7]) fun v5=>Z1 (az (Z2 1 (ZF k (Z1 (ZI ⟨k+1,(ms++[o1]),v5,dr,w,ob,ob,ob,(by first|exact YA|exact Xb YA hor1),(by first|exact XZ|exact Xb XZ hor1),rfl,rfl,rfl⟩ (wk [2,2,2,0,1] (fw (fr (ZL k fl))))))))))))))
  exact az (Z2 3 (Zm (Zh none (k:Int) 1 (ZZ ho1)) (Z2 1 (iL (Z7 [o1]) 1 1 fun v6=>ZE 0 [(66,Z6 [o1])] (ip 5 (Z7 (dr++[o1])) (Z7 dr) (Z7 [o1]) w none 1 (Yw _) (Yw _) (XT _) (by simp<;>omega) (by simp [XQ,Z7]) fun v7=>Z1 (az (Z2 1 (ZF k (Z1 (ZI ⟨k+1,ms,u,(dr++[o1]),v7,ob,ob,ob,(by first|exact YA|exact Xb YA hor1),(by first|exact XZ|exact Xb XZ hor1),rfl,rfl,rfl⟩ (wk [2,2,2,2,0] (fw (fr (ZL k fl))))))))))))))
 refine ax 0 (ar (iL (Z7 []) 0 1 fun v8=>?_))
 refine Z1 (Y0 (ab 2 (Y1 (fun fz gz m F h=>∃(k:Nat) (ps:LI) (w2:Value),(k<=fds.length)/\(ps.length<=k)/\(∀v∈ps,(mm:Int)<=v/\v<((mm+fds.length:Nat):Int))/\F=sF [2,5,6,9,12,13,14,15,16,17] fz [(19,ZO ps w2),(20,.i k)]/\h=[Za gz 1,Za gz 2,Za gz 3,Za gz 4,Za gz 5,.tail w2 1]/\m=fds.length-k) _ _ _ ⟨0,[],v8,ob,ob,(fun v hv=>by cases hv),rfl,rfl,rfl⟩ (wk [1,1,1,1,1,0] (fr (Yd fl))) ?_)))
 rintro m F h ⟨k,ps,w2,VX,Wh,Xm,rfl,rfl,rfl⟩
 refine X1 2 (iw (Ye fds) (ZQ ((k:Int)<(fds.length:Int)) (fun ZK=>?_) (fun ZK=>?_)))
 ·refine ak (aq (ab 3 (Yg 2 ?_)))
  obtain ⟨x1,Z5⟩:=Zq fds k om
  refine Zm (Zh none (k:Int) 1 (ZZ Z5)) (XN [2,5,6,9,12,13,14,15,16,17,19,20] [(86,.b ((x1 != 0)&&(decide (((us.length+k:Nat):Int)∈(Vg (((us++fds).length:Nat):Int) kd [])))))] (fun gz=>gz) ?_ ?_)
  ·refine Z2 3 (ib (b:=(x1 != 0)) 80 (fun ZU=>?_) (fun ZU=>?_))
   ·exact Z2 3 (ia (((us.length+k:Nat):Int)) (((us.length:Int))+((k:Int))) (Zv [] (VI (Vg (((us++fds).length:Nat):Int) kd []) ((us.length+k:Nat):Int)) (Z1 (ZT 6 (ZP (decide (((us.length+k:Nat):Int)∈(Vg (((us++fds).length:Nat):Int) kd []))) ZU fl)))))
   exact Z1 (ZT 6 (ZP false ZU fl))
  refine ac ((x1 != 0)&&(decide (((us.length+k:Nat):Int)∈(Vg (((us++fds).length:Nat):Int) kd [])))) (p:=(x1≠0)/\(((us.length+k:Nat):Int)∈(Vg (((us++fds).length:Nat):Int) kd []))) (Xr Xa dq) (fun Yt=>?_) (fun Yt=>?_)
  ·exact az (Z2 3 (ia (((us.length+k:Nat):Int)) (((us.length:Int))+((k:Int))) (iL (Z7 [((us.length+k:Nat):Int)]) 1 1 fun v9=>ZE 0 [(91,Z6 [((us.length+k:Nat):Int)])] (ip 6 (Z7 (ps++[((us.length+k:Nat):Int)])) (Z7 ps) (Z7 [((us.length+k:Nat):Int)]) w2 none 1 (Yw _) (Yw _) (XT _) (by simp<;>omega) (by simp [XQ,Z7]) fun v10=>Z1 (az (Z2 1 (ZF k (Z1 (ZI ⟨k+1,(ps++[((us.length+k:Nat):Int)]),v10,ob,ob,(by first|exact Xm|exact Xb Xm om),rfl,rfl,rfl⟩ (wk [2,2,2,2,2,0] (fr (ZL k fl))))))))))))
  exact ak (az (Z2 1 (ZF k (Z1 (ZI ⟨k+1,ps,w2,ob,ob,(by first|exact Xm|exact Xb Xm om),rfl,rfl,rfl⟩ (ZT 6 (fr (ZL k fl))))))))
 refine ax 2 (ar (ZE 1 [(93,Z6 ps)] (ic [] (TY 14 ps) ?_)))
 rintro _ _ ⟨v11,rfl,rfl⟩
 refine ZE 1 [(95,Z6 dr)] (ic [] (TY 15 dr) ?_)
 rintro _ _ ⟨v12,rfl,rfl⟩
 refine ZE 0 [(96,Wo (dr.map (Zl 15)))] (ip 1 (Zi ((ps.map (Zl 14))++(dr.map (Zl 15)))) (Zi (ps.map (Zl 14))) (Zi (dr.map (Zl 15))) v11 none 5 (YX _) (YX _) (V2 _) (by simp<;>omega) (by simp [Wi,Zi]) fun v13=>?_)
 refine Z1 (aD 12 (ZG 5 12 [0,1,2,3,4,6,7] [4,3] (Kx (fun fz gz F h=>∃(y1:Z3) (b4:Nat) (zs1:LI),(zs1.length<=ls.length/\∀z∈zs1,z∈ls)/\(KB n.decls n.routines.length (mm+fds.length) y1 (4500*kd.sz))/\F=sF [12,21] fz [(22,.p b4 0)]/\h=[.obj b4 (YK y1),Za gz 0,Za gz 1,Za gz 2,Za gz 3,Za gz 4,Za gz 6,Za gz 7]) ?_ ?_)))
 ·refine WT 5 10 ?_ ?_
  ·refine dp 5 5 [1,2] [b2,b1] (Z7 (ms++ps)) (Z7 ms) (Z7 ps) u (some w2) 1 (Yw _) (Yw _) (XT _) (by simp<;>omega) (by simp [XQ,Z7]) fun v14=>WT 8 10 ?_ ?_
   ·refine dc 8 [] [1,2] [b2,b1] (Fe ls (us.length:Int)) ?_
    rintro _ _ ⟨zs1,v15,rfl,rfl,X7⟩
    have hbl:=X7
    refine Yh 3 3 [] [(103,Z6 (ms++ps)),(106,Z6 zs1)] (WT 9 10 ?_ ?_)
    ·refine dc 9 [] [] [] (ih (us++fds) kd (ms++ps) zs1 (mm+fds.length) hf hop (by rw [Yk,hul]) ob (fun v hv=>by rcases X2.1 hv with h|h;exact (by have:=YA v h;omega);exact (by have:=Xm v h;omega)) (by rw [Yk];omega) ob ob ob) ?_
     rintro _ _ ⟨y1,rfl,rfl,XX⟩
     have hkb:=XX
     have hkl:=hkb.len
     exact Z8 10 (dA 10 [] [] [nl,.i 0] fun b4=>Z8 11 (Yy 11 0 [] [] b4 (YK y1) (de (ZH ⟨_,b4,_,(by assumption),(by assumption),rfl,rfl⟩ (wk [0,2,2,2,2,2,2,2] fl)))))
    refine dA 10 [1,2] [b2,b1] [nl,.i 0] fun b5=>Z8 9 (dc 9 [] [] [] (ih (us++fds) kd (ms++ps) zs1 (mm+fds.length) hf hop (by rw [Yk,hul]) ob (fun v hv=>by rcases X2.1 hv with h|h;exact (by have:=YA v h;omega);exact (by have:=Xm v h;omega)) (by rw [Yk];omega) ob ob ob) ?_)
    rintro _ _ ⟨y2,rfl,rfl,Wu⟩
    have hkb:=Wu
    have hkl:=hkb.len
    exact Z8 11 (Yy 11 0 [] [] b5 (YK y2) (de (ZH ⟨_,b5,_,(by assumption),(by assumption),rfl,rfl⟩ (wk [0,2,2,2,2,2,2,2] fl))))
   refine dA 10 [1,2] [b2,b1] [nl,.i 0] fun b6=>Z8 8 (dc 8 [] [2,3] [b2,b1] (Fe ls (us.length:Int)) ?_)
   rintro _ _ ⟨zs2,v16,rfl,rfl,V3⟩
   have hbl:=V3
   refine Yh 2 2 [] [(103,Z6 (ms++ps)),(106,Z6 zs2)] (Z8 9 (dc 9 [] [] [] (ih (us++fds) kd (ms++ps) zs2 (mm+fds.length) hf hop (by rw [Yk,hul]) ob (fun v hv=>by rcases X2.1 hv with h|h;exact (by have:=YA v h;omega);exact (by have:=Xm v h;omega)) (by rw [Yk];omega) ob ob ob) ?_))
   rintro _ _ ⟨y3,rfl,rfl,Vk⟩
   have hkb:=Vk
   have hkl:=hkb.len
   exact Z8 11 (Yy 11 1 [] [] b6 (YK y3) (de (ZH ⟨_,b6,_,(by assumption),(by assumption),rfl,rfl⟩ (wk [0,2,2,2,2,2,2,2] fl))))
  refine dA 10 [1,2] [b2,b1] [nl,.i 0] fun b7=>Yh 4 4 [] [(102,Z6 ps)] (Z8 5 (dp 5 6 [2,3] [b2,b1] (Z7 (ms++ps)) (Z7 ms) (Z7 ps) u none 1 (Yw _) (Yw _) (XT _) (by simp<;>omega) (by simp [XQ,Z7]) fun v17=>Z8 8 (dc 8 [] [2,3] [b2,b1] (Fe ls (us.length:Int)) ?_)))
  rintro _ _ ⟨zs3,v18,rfl,rfl,UT⟩
  have hbl:=UT
  refine Yh 2 2 [] [(103,Z6 (ms++ps)),(106,Z6 zs3)] (Z8 9 (dc 9 [] [] [] (ih (us++fds) kd (ms++ps) zs3 (mm+fds.length) hf hop (by rw [Yk,hul]) ob (fun v hv=>by rcases X2.1 hv with h|h;exact (by have:=YA v h;omega);exact (by have:=Xm v h;omega)) (by rw [Yk];omega) ob ob ob) ?_))
  rintro _ _ ⟨y4,rfl,rfl,UU⟩
  have hkb:=UU
  have hkl:=hkb.len
  exact Z8 11 (Yy 11 2 [] [] b7 (YK y4) (de (ZH ⟨_,b7,_,(by assumption),(by assumption),rfl,rfl⟩ (wk [0,2,2,2,2,2,2,2] fl))))
 rintro F h ⟨y1,b4,zs1,X7,XX,rfl,rfl⟩
 have hbl:=X7
 have hkb:=XX
 have hkl:=hkb.len
 exact aD 8 (ZG 3 8 [0,1,2,4,5] [0,0] (Z8 3 (dp 3 1 [0] [b4] (Zi (((ps.map (Zl 14))++(dr.map (Zl 15)))++y1.steps)) (Zi ((ps.map (Zl 14))++(dr.map (Zl 15)))) (Zi y1.steps) v13 none 5 (YX _) (YX _) (V2 _) (by simp<;>omega) (by simp [Wi,Zi]) fun v19=>Zk 1 2 [6] (Z8 7 (Yy 7 3 [] [] b3 [YG (((ps.map (Zl 14))++(dr.map (Zl 15)))++y1.steps) v19,.i y1.result] (de (ZJ (r3 [] [.agg [YG (((ps.map (Zl 14))++(dr.map (Zl 15)))++y1.steps) v19,.i y1.result]] [0] [(b3,b3)] ⟨(Z3.mk (((ps.map (Zl 14))++(dr.map (Zl 15)))++y1.steps) y1.result),rfl,rfl,((hkb.put (fun v hv=>by have:=Xm v hv;omega) (fun v hv=>by have:=XZ v hv;omega)).le om)⟩ (Zd.agg (.cons (Zd.forget _ _) (.cons (lr _) .nil)))))))))))
theorem Rj (n:Zx) (us:LI) (s:Z4) (os:LI) (ls:LI) (mm:Nat) (bb:Nat) (hn:Xh n:=by exact ob) (hf:FS n.decls n.routines.length mm s:=by exact ob) (h11:s.op<=11:=by exact ob) (hop:TC Wc s.kids:=by exact ob) (hul:us.length=mm:=by exact ob) (hm:mm+4*s.sz<=100000:=by exact ob) (hor:∀v∈os,0<=v/\v<(mm:Int)) (hol:os.length+4*s.sz<=730:=by exact ob) (hal:ls.length+2000*s.sz<=1000000:=by exact ob) (hbz:s.sz<=500:=by exact ob) (hb:s.sz<=bb:=by exact ob) (ih:∀(us2:LI) (b2:Z3) (os2:LI) (as2:LI) (m2:Nat),(fB n.decls n.routines.length m2 b2)->(WD Wc b2)->(us2.length=m2)->(m2+4*b2.sz<=100000)->(∀v∈os2,0<=v/\v<(m2:Int))->(os2.length+4*b2.sz<=730)->(as2.length+2000*b2.sz<=1000000)->(b2.sz<=500)->(b2.sz<bb)->Zf 243 [Yl n,Z6 us2,ZC b2,Z6 os2,Z6 as2] [] (fun r h=>∃(y:Z3),r=ZC y/\h=[]/\KB n.decls n.routines.length m2 y (4500*b2.sz))):Zf 281 [Yl n,Z6 us,Yp s,Z6 os,Z6 ls] [] (fun r h=>∃(y:Z4),r=Yp y/\h=[]/\KT n.decls n.routines.length mm y (4500*YH s.kids+4420)):=by
 have XB:=hn.decls
 have hkf:=hf.few XB
 have hsa:=hf.alen
 refine ZD 62 Tryz.func281 (ar (iA (YN n) fun b1=>iA (Xg s) fun b2=>iA [.i 0,.i 0,.i 0,nl,nl] fun b3=>ie (ar (iL (Ys []) 0 2 fun v1=>Z1 (Zo 4 [3,2] (ic [] (K9 n.decls s.num) ?_))))))
 rintro _ _ ⟨v2,rfl,rfl⟩
 refine Z1 (Y0 (ab 0 (Y1 (fun fz gz m F h=>∃(k:Nat) (ks:List Z3) (u:Value),(k<=s.kids.length)/\(ks.length=k)/\(KK n.decls n.routines.length (VH n.decls s.op s.num mm) ks (4500*YH (s.kids.take k)+1470*k))/\F=sF [1,3,4,5,7,10] fz [(11,U7 ks u),(12,Z6 (Y2 n.decls s.num)),(13,.i k)]/\h=[Za gz 2,Za gz 3,Za gz 4,.tail u 2]/\m=s.kids.length-k) _ _ _ ⟨0,[],v1,ob,ob,(KK.nil.le (Uv _)),rfl,rfl,rfl⟩ (wk [2,2,2,1] (fr (fc (x:=ZO (Y2 n.decls s.num) v2) (Zd.forget _ _) (Yd fl)))) ?_)))
 rintro m F h ⟨k,ks,u,Yf,Zj,Zp,rfl,rfl,rfl⟩
 refine Y7 3 [1] (iw (Vi s.kids) (ZQ ((k:Int)<(s.kids.length:Int)) (fun Z9=>?_) (fun Z9=>?_)))
 ·refine ak (aq (ab 1 (ar (iL (Z7 []) 0 1 fun v3=>?_))))
  refine Z1 (Xd (VG [2] (XA (fun fz gz F h=>∃(fds:LI),(VH n.decls s.op s.num mm k=mm+fds.length)/\(fds.length<=3)/\F=sF [1,3,4,5,7,10,11,12,13] fz [(14,Z6 fds)]/\h=[Za gz 1,Za gz 2,Za gz 3,Za gz 4]) ?_ ?_)))
  ·refine ac (s.op==8) ZB (fun Zg=>?_) (fun Zg=>?_)
   ·refine aE 8 (ZG 4 8 [0,1,2,3] [3] ?_)
    obtain ⟨x1,Z5⟩:=Zq (Y2 n.decls s.num) k (by have:=hf.k8 (by assumption);omega)
    have hcf:=VB XB x1
    exact dx 4 (Zh none (k:Int) 1 (ZZ Z5)) (Zk 2 3 [5] (Z8 6 (Yo 6 [] [] [] (TX n.decls x1) (Zk 0 1 [7] (de (ZH ⟨Y5 n.decls x1,(Gd (by assumption) Z5),ob,rfl,rfl⟩ (wk [1,1,1,1] fl)))))))
   exact ak (ZH ⟨[],(by rw [Ge (by assumption)];rfl),ob,rfl,rfl⟩ (wk [1,1,1,1] fl))
  rintro F h ⟨fds,V4,KR,rfl,rfl⟩
  refine aE 15 (ZG 8 15 [0,1,2,3,4,5,6] [2,1] ?_)
  obtain ⟨x2,Zu⟩:=Zq s.kids k om
  have hkz:=VP Zu
  have hfk:=BH hf.kids Zu
  rw [Wt,V4] at hfk
  have hok:=B8.1 hop x2 (ZW Zu)
  have hbt:=CI Zu
  have hba:=CJ Zu
  refine dx 7 (Zh none (k:Int) 2 (Vu Zu)) (Zk 4 7 [8,9,10] (Z8 11 (dc 11 [] [] [] (Ri n us fds x2 os ls mm bb (hf:=hfk) (hop:=hok) (hor:=hor) (ih:=ih)) ?_)))
  rintro _ _ ⟨y1,rfl,rfl,ZX⟩
  have hkb:=ZX
  exact Z8 12 (W5 12 [] [] [ZC y1] (Ys [y1]) (VY [y1]).symm 1 2 fun v4=>Yh 2 2 [] [(51,XF [y1])] (Z8 13 (dp 13 4 [] [] (Ys (ks++[y1])) (Ys ks) (Ys [y1]) u none 2 (Uz _) (Uz _) (CR _) (by simp<;>omega) (by simp [KC,Ys]) fun v5=>Zk 0 1 [14] (de (az (Z2 1 (ZF k (Z1 (ZI ⟨k+1,(ks++[y1]),v5,ob,ob,((Zp.snoc Zj (by rw [V4];exact hkb)).le om),rfl,rfl,rfl⟩ (wk [2,2,2,0] (fw (ZL k fl))))))))))))
 refine ax 0 (aD 10 (ZG 3 10 [0,1,2,3,4,5,7] [1,1,1] (Z8 6 (dc 6 [] [1,1] [b2,b2] (Vp s.args) ?_))))
 rintro _ _ ⟨v6,rfl,rfl⟩
 exact Zk 1 2 [8] (Z8 9 (Yy 9 1 [] [] b3 [.i s.op,.i s.num,.i 0,ZO s.args v6,U7 ks u] (de (ZJ (r3 [] [.agg [.i s.op,.i s.num,.i 0,ZO s.args v6,U7 ks u]] [0] [(b3,b3)] ⟨(Z4.mk s.op s.num 0 s.args ks),rfl,rfl,((KT.of (into:=0) hf h11 om om Zp).le (by have:=Ey (xs:=s.kids) (k:=k) om;omega))⟩ (Zd.agg (.cons (lr _) (.cons (lr _) (.cons (lr _) (.cons (Zd.forget _ _) (.cons (Zd.forget _ _) .nil)))))))))))
theorem Rg (n:Zx) (us:LI) (b:Z3) (os:LI) (ls:LI) (mm:Nat) (hn:Xh n) (hf:fB n.decls n.routines.length mm b) (hop:WD Wc b) (hul:us.length=mm) (hm:mm+4*b.sz<=100000) (hor:∀v∈os,0<=v/\v<(mm:Int)) (hol:os.length+4*b.sz<=730) (hal:ls.length+2000*b.sz<=1000000) (hbz:b.sz<=500) (ih:∀(us2:LI) (b2:Z3) (os2:LI) (as2:LI) (m2:Nat),(fB n.decls n.routines.length m2 b2)->(WD Wc b2)->(us2.length=m2)->(m2+4*b2.sz<=100000)->(∀v∈os2,0<=v/\v<(m2:Int))->(os2.length+4*b2.sz<=730)->(as2.length+2000*b2.sz<=1000000)->(b2.sz<=500)->(b2.sz<b.sz)->Zf 243 [Yl n,Z6 us2,ZC b2,Z6 os2,Z6 as2] [] (fun r h=>∃(y:Z3),r=ZC y/\h=[]/\KB n.decls n.routines.length m2 y (4500*b2.sz))):Zf 243 [Yl n,Z6 us,ZC b,Z6 os,Z6 ls] [] (fun r h=>∃(y:Z3),r=ZC y/\h=[]/\KB n.decls n.routines.length mm y (4500*b.sz)):=by
 have XB:=hn.decls
 have hbe:=b.sz_eq
 have Zs:=WR b
 obtain ⟨hfs,hr1,hr2⟩:=(BG b).1 hf
 have hos:=An.1 ((Dz b).1 hop)
 have hdn:=EK hos
 have hdl:=hdn b.steps.length (YQ _)
 rw [V7] at hdl
 refine ZD 149 Tryz.func243 (ar (iA (YN n) fun b1=>iA (YK b) fun b2=>iA [nl,.i 0] fun b3=>ie (ar (iL (Zi []) 0 5 fun v1=>Z1 (Yg 1 (ic [] (Vp us) ?_))))))
 rintro _ _ ⟨v2,rfl,rfl⟩
 refine Z1 (Yg 1 (ic [] (Vp os) ?_))
 rintro _ _ ⟨v3,rfl,rfl⟩
 refine Z1 (Y0 (ab 0 (Y1 (fun fz gz m F h=>∃(k:Nat) (vs:LI) (w:Value) (ms:LI) (u:Value) (xs:List Z4) (v:Value),(k<=b.steps.length)/\(vs.length=mm+k)/\(CL n.decls n.routines.length mm xs k (4500*Y3 (b.steps.take k)))/\(ms.length<=os.length+k)/\(∀v∈ms,0<=v/\v<((mm+k:Nat):Int))/\F=sF [4,5,7,10] fz [(11,YG xs v),(12,ZO vs w),(13,ZO ms u),(14,.i k)]/\h=[Za gz 3,Za gz 4,Za gz 5,.tail u 1,.tail v 5,.tail w 1]/\m=b.steps.length-k) _ _ _ ⟨0,us,v2,os,v3,[],v1,ob,ob,CL.nil,ob,hor,rfl,rfl,rfl⟩ (wk [3,3,3,0,1,0] (fw (fr (Yd fl)))) ?_)))
 rintro m F h ⟨k,vs,w,ms,u,xs,v,Yf,Zj,Zp,YA,XZ,rfl,rfl,rfl⟩
 refine Y7 3 [1] (iw (WA b.steps) (ZQ ((k:Int)<(b.steps.length:Int)) (fun Z9=>?_) (fun Z9=>?_)))
 ·refine ak (aq (ab 1 (Zo 3 [1] ?_)))
  obtain ⟨x1,Z5⟩:=Zq b.steps k om
  have X5:=Bj Z5
  have hfS:=(CZ x1).1 (BI hfs Z5)
  rw [hdn k om] at hfS
  have hoS:=(C7 x1).1 (hos x1 (ZW Z5))
  have htk:=Gr Z5
  have hse:=(x1).sz_eq
  have hal4:=hfS.alen
  have hxl:=Zp.len
  have htl:=Q0 b.steps (k+1)
  have hsd:=As b.steps (k+1)
  have hul2:=E0 (n:=((vs.length+1:Nat):Int)) (b.steps.drop (k+1)) []
  have hul3:=Cm (n:=((vs.length+1:Nat):Int)) (WY ((vs.length+1:Nat):Int) (b.steps.drop (k+1)) []) b.result
  simp only [X6,Wt] at hul2
  refine Zm (Zh none (k:Int) 5 (XR Z5)) (Z2 1 (iA [.i 0,.i 0,.i 0,nl,nl] fun b4=>ZA 0 b4 (Xg x1) (ie (Yg 1 (iw (Ye vs) (Z1 (ar (TW 3 [(41,Z6 vs)] [3,0] (Zv [] (Gn n vs x1 ob ob) (Z1 (Zo 2 [2] (ia (((vs.length+1:Nat):Int)) (((vs.length:Int))+(1)) (Z2 1 (ZF k (iL (Z7 []) 0 1 fun v4=>ZE 0 [(49,Z6 [])] (Zv [] (MB b ((vs.length+1:Nat):Int) (k+1) [] (hk:=om) (hz:=(by simp only [X6];omega))) (Z2 1 (ic [] (S5 (WX ((vs.length+1:Nat):Int) (WY ((vs.length+1:Nat):Int) (b.steps.drop (k+1)) []) b.result) ls) ?_))))))))))))))))))
  rintro _ _ ⟨zs1,rfl,rfl,ZX⟩
  have hun:=ZX
  refine Z1 (ar (TW 6 [(55,Z6 vs),(57,Z6 ms)] [4,1] (ic [] (Rn n vs x1 ms zs1 (mm+k) (hf:=hfS)) ?_)))
  rintro _ _ ⟨zs2,rfl,rfl,Yc⟩
  have hdu:=Yc
  have hq1:=Zp.cnts (op:=14) (.inl rfl) (vs:=zs2) (fun v hv=>hfS.args v (hdu.2 v hv))
  have hl1:=hq1.len
  refine ic [] (TY 14 zs2) ?_
  rintro _ _ ⟨v5,rfl,rfl⟩
  refine ZE 0 [(60,Wo (zs2.map (Zl 14)))] (ip 7 (Zi (xs++(zs2.map (Zl 14)))) (Zi xs) (Zi (zs2.map (Zl 14))) v none 5 (YX _) (YX _) (V2 _) (by simp<;>omega) (by simp [Wi,Zi]) fun v6=>Z1 (ar (TW 6 [(64,Z6 vs),(66,Z6 ms)] [6,3] (ic [] (Rj n vs x1 ms zs1 (mm+k) b.sz (hf:=hfS) (h11:=hoS.1) (hop:=hoS.2) (hor:=XZ) (ih:=ih)) ?_))))
  rintro _ _ ⟨y1,rfl,rfl,YM⟩
  have hkt:=YM
  have hq2:=hq1.kt hkt
  have hl2:=hq2.len
  refine VD [Yp y1] (Zi [y1]) (WM [y1]).symm 1 5 fun v7=>ZE 0 [(69,Wo [y1])] (ip 1 (Zi ((xs++(zs2.map (Zl 14)))++[y1])) (Zi (xs++(zs2.map (Zl 14)))) (Zi [y1]) v6 none 5 (YX _) (YX _) (V2 _) (by simp<;>omega) (by simp [Wi,Zi]) fun v8=>Z1 (ar (TW 5 [(72,Z6 vs),(74,Z6 ms)] [7,4] (ic [] (RA n vs x1 ms zs1 (mm+k) (hf:=hfS)) ?_))))
  rintro _ _ ⟨zs3,v9,rfl,rfl,YZ⟩
  have hla:=YZ
  refine Z1 (ar (TW 4 [(79,Z6 zs3)] [8,5] (ic [] (RB n x1 zs3 zs1 (mm+k) (hf:=hfS)) ?_)))
  rintro _ _ ⟨zs4,rfl,rfl,X7⟩
  have hld:=X7
  have hq3:=hq2.cnts (op:=15) (.inr rfl) (vs:=zs4) (fun v hv=>by have:=hfS.args v (hld.2 v hv);omega)
  have hl3:=hq3.len
  refine Z1 (Yg 2 (ic [] (TY 15 zs4) ?_))
  rintro _ _ ⟨v10,rfl,rfl⟩
  refine ZE 0 [(84,Wo (zs4.map (Zl 15)))] (ip 2 (Zi (((xs++(zs2.map (Zl 14)))++[y1])++(zs4.map (Zl 15)))) (Zi ((xs++(zs2.map (Zl 14)))++[y1])) (Zi (zs4.map (Zl 15))) v8 none 5 (YX _) (YX _) (V2 _) (by simp<;>omega) (by simp [Wi,Zi]) fun v11=>?_)
  refine Z1 (Y0 (ab 2 (Y1 (fun fz gz m F h=>∃(j:Nat) (m3:LI) (u3:Value) (v3:Value) (w3:Value),(j<=zs4.length)/\(m3.length<=os.length+k)/\(∀v∈m3,0<=v/\v<((mm+k:Nat):Int))/\F=sF [4,5,7,10,14,16,17,18,19] fz [(11,YG (((xs++(zs2.map (Zl 14)))++[y1])++(zs4.map (Zl 15))) v3),(12,ZO vs w3),(13,ZO m3 u3),(20,.i j)]/\h=[Za gz 7,Za gz 8,Za gz 9,.tail u3 1,.tail v3 5,.tail w3 1]/\m=zs4.length-j) _ _ _ ⟨0,zs3,v9,v11,w,ob,ob,(fun v hv=>XZ v (hla.2 v hv)),rfl,rfl,rfl⟩ (wk [7,7,7,2,0,6] (fw (fr (Yd fl)))) ?_)))
  rintro m F h ⟨j,m3,u3,v3,w3,VX,Wh,Xm,rfl,rfl,rfl⟩
  refine X1 2 (iw (Ye zs4) (ZQ ((j:Int)<(zs4.length:Int)) (fun Zg=>?_) (fun Zg=>?_)))
  ·refine ak (aq (ab 3 (az (Z2 3 ?_))))
   obtain ⟨x2,Zu⟩:=Zq zs4 j om
   refine Zm (Zh none (j:Int) 1 (ZZ Zu)) (ZE 1 [(92,Z6 m3)] (ic [] (Io m3 x2) ?_))
   rintro _ _ ⟨v12,rfl,rfl⟩
   exact Z1 (az (Z2 1 (ZF j (Z1 (ZI ⟨j+1,(UF m3 x2),v12,v3,w3,ob,(WJ (C9 _ _) Wh),(fun v hv=>Xm v (B9 hv)),rfl,rfl,rfl⟩ (wk [1,1,1,0,1,1] (fw (fr (ZL j fl)))))))))
  refine ax 2 (Yg 2 (iL (Z7 [YF n vs x1]) 1 1 fun v13=>ZE 0 [(100,Z6 [YF n vs x1])] (ip 6 (Z7 (vs++[YF n vs x1])) (Z7 vs) (Z7 [YF n vs x1]) w3 none 1 (Yw _) (Yw _) (XT _) (by simp<;>omega) (by simp [XQ,Z7]) fun v14=>Z1 (ar (XN [4,5,7,10,11,12,13,14,16,17] [(108,.b (((YF n vs x1) != 0)&&(decide ((vs.length:Int)∈zs1))))] (fun gz=>gz) ?_ ?_)))))
  ·refine Z2 3 (ib (b:=((YF n vs x1) != 0)) 104 (fun Ze=>?_) (fun Ze=>?_))
   ·exact Z2 2 (Zv [] (VI zs1 (vs.length:Int)) (Z1 (ZT 7 (ZP (decide ((vs.length:Int)∈zs1)) Ze fl))))
   exact Z1 (ZT 7 (ZP false Ze fl))
  refine ac (((YF n vs x1) != 0)&&(decide ((vs.length:Int)∈zs1))) (p:=((YF n vs x1)≠0)/\((vs.length:Int)∈zs1)) (Xr Xa dq) (fun ZK=>?_) (fun ZK=>?_)
  ·exact az (Z2 2 (iL (Z7 [(vs.length:Int)]) 1 1 fun v15=>ZE 0 [(111,Z6 [(vs.length:Int)])] (ip 6 (Z7 (m3++[(vs.length:Int)])) (Z7 m3) (Z7 [(vs.length:Int)]) u3 none 1 (Yw _) (Yw _) (XT _) (by simp<;>omega) (by simp [XQ,Z7]) fun v16=>Z1 (az (Z2 1 (ZF k (Z1 (ZI ⟨k+1,(vs++[YF n vs x1]),v14,(m3++[(vs.length:Int)]),v16,(((xs++(zs2.map (Zl 14)))++[y1])++(zs4.map (Zl 15))),v3,ob,ob,(by first|exact hq3.le om|exact (hq3.cnt (op:=15) (.inr rfl) om).le om),ob,(by first|exact Xb (fun v hv=>by have:=Xm v hv;omega) om|exact (fun v hv=>by have:=Xm v hv;omega)),rfl,rfl,rfl⟩ (wk [4,4,4,0,3,1] (fw (fr (ZL k fl))))))))))))
  refine ar (YR ((YF n vs x1) != 0) Xa (fun Yt=>?_) (fun Yt=>?_))
  ·exact az (Z2 2 (Zv [] (Ka 15 (vs.length:Int)) (VD [Yp (Zl 15 (vs.length:Int))] (Zi [(Zl 15 (vs.length:Int))]) (WM [(Zl 15 (vs.length:Int))]).symm 1 5 fun v17=>ZE 0 [(118,Wo [(Zl 15 (vs.length:Int))])] (ip 7 (Zi ((((xs++(zs2.map (Zl 14)))++[y1])++(zs4.map (Zl 15)))++[(Zl 15 (vs.length:Int))])) (Zi (((xs++(zs2.map (Zl 14)))++[y1])++(zs4.map (Zl 15)))) (Zi [(Zl 15 (vs.length:Int))]) v3 none 5 (YX _) (YX _) (V2 _) (by simp<;>omega) (by simp [Wi,Zi]) fun v18=>Z1 (az (Z2 1 (ZF k (Z1 (ZI ⟨k+1,(vs++[YF n vs x1]),v14,m3,u3,((((xs++(zs2.map (Zl 14)))++[y1])++(zs4.map (Zl 15)))++[(Zl 15 (vs.length:Int))]),v18,ob,ob,(by first|exact hq3.le om|exact (hq3.cnt (op:=15) (.inr rfl) om).le om),ob,(by first|exact Xb (fun v hv=>by have:=Xm v hv;omega) om|exact (fun v hv=>by have:=Xm v hv;omega)),rfl,rfl,rfl⟩ (wk [4,4,4,4,0,1] (fw (fr (ZL k fl)))))))))))))
  exact ak (az (Z2 1 (ZF k (Z1 (ZI ⟨k+1,(vs++[YF n vs x1]),v14,m3,u3,(((xs++(zs2.map (Zl 14)))++[y1])++(zs4.map (Zl 15))),v3,ob,ob,(by first|exact hq3.le om|exact (hq3.cnt (op:=15) (.inr rfl) om).le om),ob,(by first|exact Xb (fun v hv=>by have:=Xm v hv;omega) om|exact (fun v hv=>by have:=Xm v hv;omega)),rfl,rfl,rfl⟩ (wk [2,2,2,2,2,0] (fw (fr (ZL k fl)))))))))
 have hxl:=Zp.len
 have htl:=Q0 b.steps k
 refine ax 0 (Y7 3 [1] ?_)
 obtain ⟨x3,X0⟩:=Zq vs b.result.toNat om
 refine Zm (Zh (some w) b.result 1 (ZZ X0)) (XN [7,10,11] [(138,.b ((x3 != 0)&&((decide (b.result∈ls))||(!(decide (b.result∈ms))))))] (fun gz=>gz) ?_ ?_)
 ·refine Z2 3 (ib (b:=(x3 != 0)) 126 (fun ZU=>?_) (fun ZU=>?_))
  ·refine ZV 3 [1] (Zv [] (VI ls b.result) (Z2 1 (ib (b:=(decide (b.result∈ls))) 131 (fun X4=>?_) (fun X4=>?_))))
   ·exact Z1 (ZT 6 (ZP true (And.intro ZU X4) fl))
   exact TW 3 [(132,Z6 ms)] [1] (Zv [] (VI ms b.result) (Z1 (ZT 6 (ZP (!(decide (b.result∈ms))) (And.intro ZU X4) fl))))
  exact Z1 (ZT 6 (ZP false ZU fl))
 refine ac ((x3 != 0)&&((decide (b.result∈ls))||(!(decide (b.result∈ms))))) (p:=(x3≠0)/\((b.result∈ls)∨(¬(b.result∈ms)))) (Xr Xa (Xu dq (Xi dq))) (fun XG=>?_) (fun XG=>?_)
 ·exact az (ZV 3 [1] (Zv [] (Ka 14 b.result) (VD [Yp (Zl 14 b.result)] (Zi [Zl 14 b.result]) (WM [Zl 14 b.result]).symm 1 5 fun v19=>ZE 0 [(143,Wo [Zl 14 b.result])] (ip 5 (Zi (xs++[Zl 14 b.result])) (Zi xs) (Zi [Zl 14 b.result]) v none 5 (YX _) (YX _) (V2 _) (by simp<;>omega) (by simp [Wi,Zi]) fun v20=>Z1 (Zo 4 [3] (ZA 2 b3 [YG (xs++[Zl 14 b.result]) v20,.i b.result] (ie (ZJ (r3 [] [.agg [YG (xs++[Zl 14 b.result]) v20,.i b.result]] [0] [(b3,b3)] ⟨(Z3.mk (xs++[Zl 14 b.result]) b.result),rfl,rfl,(((Zp.cnt (op:=14) (.inl rfl) om).block om).le (by have:=Q0 b.steps k;omega))⟩ (Zd.agg (.cons (Zd.forget _ _) (.cons (lr _) .nil))))))))))))
 exact ak (Zo 4 [1] (ZA 0 b3 [YG xs v,.i b.result] (ie (ZJ (r3 [] [.agg [YG xs v,.i b.result]] [0] [(b3,b3)] ⟨(Z3.mk xs b.result),rfl,rfl,((Zp.block om).le (by have:=Q0 b.steps k;omega))⟩ (Zd.agg (.cons (Zd.forget _ _) (.cons (lr _) .nil))))))))
theorem Rf (n:Zx) (us:LI) (b:Z3) (os:LI) (ls:LI) (mm:Nat) (hn:Xh n:=by exact ob) (hf:fB n.decls n.routines.length mm b:=by exact ob) (hop:WD Wc b:=by exact ob) (hul:us.length=mm:=by exact ob) (hm:mm+4*b.sz<=100000:=by exact ob) (hor:∀v∈os,0<=v/\v<(mm:Int)) (hol:os.length+4*b.sz<=730:=by exact ob) (hal:ls.length+2000*b.sz<=1000000:=by exact ob) (hbz:b.sz<=500:=by exact ob):Zf 243 [Yl n,Z6 us,ZC b,Z6 os,Z6 ls] [] (fun r h=>∃(y:Z3),r=ZC y/\h=[]/\KB n.decls n.routines.length mm y (4500*b.sz)):=by
 have key:∀k:Nat,∀(us2:LI) (b2:Z3) (os2:LI) (as2:LI) (m2:Nat),(fB n.decls n.routines.length m2 b2)->(WD Wc b2)->(us2.length=m2)->(m2+4*b2.sz<=100000)->(∀v∈os2,0<=v/\v<(m2:Int))->(os2.length+4*b2.sz<=730)->(as2.length+2000*b2.sz<=1000000)->(b2.sz<=500)->(b2.sz<k)->Zf 243 [Yl n,Z6 us2,ZC b2,Z6 os2,Z6 as2] [] (fun r h=>∃(y:Z3),r=ZC y/\h=[]/\KB n.decls n.routines.length m2 y (4500*b2.sz)):=by
  intro k
  induction k with
  | zero=>intro us2 b2 os2 as2 m2 h1 h2 h3 h4 h5 h6 h7 h8 h9;omega
  | succ k ih=>intro us2 b2 os2 as2 m2 h1 h2 h3 h4 h5 h6 h7 h8 h9;exact Rg n us2 b2 os2 as2 m2 hn h1 h2 h3 h4 h5 h6 h7 h8 fun us3 b3 os3 as3 m3 q1 q2 q3 q4 q5 q6 q7 q8 q9=>ih us3 b3 os3 as3 m3 q1 q2 q3 q4 q5 q6 q7 q8 om
 exact key (b.sz+1) us b os ls mm hf hop hul hm hor hol hal hbz om
theorem Rh (n:Zx) (rt:Y8) (qz:Nat) (hn:Xh n:=by exact ob) (hr:RF n.decls n.routines.length qz Wc rt:=by exact ob) (hqz:qz<=181:=by exact ob):Zf 191 [Yl n,TM rt] [] (fun r h=>∃(y:Z3),r=ZC y/\h=[]/\KB n.decls n.routines.length rt.params.length y (4500*qz+10)):=by
 have hrp:rt.params.length<=3:=(Uh.bd (f:=⟨rt.params,rt.result,default⟩) hr.sig).1
 have hrl:=hr.lent.1
 have hrz:=hr.body.2
 refine ZD 65 Tryz.func191 (ar (iA (YN n) fun b1=>iA (K1 rt) fun b2=>iA [nl,.i 0] fun b3=>ie (Zo 4 [1,1] (iw (Ye rt.params) (Zv [] (MP rt.body (rt.params.length:Int)) ?_)))))
 have hub:=DZ (n:=(rt.params.length:Int)) rt.body []
 simp only [X6,Wt] at hub
 refine Z1 (ar (iL (Z7 []) 0 1 fun v1=>Z1 (ar (iL (Z7 []) 0 1 fun v2=>?_))))
 refine Z1 (Y0 (ab 0 (Y1 (fun fz gz m F h=>∃(k:Nat) (os:LI) (u:Value) (dr:LI) (w:Value),(k<=rt.params.length)/\(os.length<=k)/\(dr.length<=k)/\(∀v∈os,0<=v/\v<(rt.params.length:Int))/\(∀v∈dr,0<=v/\v<(rt.params.length:Int))/\F=sF [2,3,4,5] fz [(6,ZO os u),(7,ZO dr w),(8,.i k)]/\h=[Za gz 2,Za gz 3,Za gz 4,.tail u 1,.tail w 1]/\m=rt.params.length-k) _ _ _ ⟨0,[],v1,[],v2,ob,ob,ob,(fun v hv=>by cases hv),(fun v hv=>by cases hv),rfl,rfl,rfl⟩ (wk [2,2,2,1,0] (fw (Yd fl))) ?_)))
 rintro m F h ⟨k,os,u,dr,w,Yf,Zj,Zp,YA,XZ,rfl,rfl,rfl⟩
 refine Y7 3 [1] (iw (Ye rt.params) (ZQ ((k:Int)<(rt.params.length:Int)) (fun Z9=>?_) (fun Z9=>?_)))
 ·refine ak (aq (ab 1 (Zo 3 [1] ?_)))
  obtain ⟨x1,Z5⟩:=Zq rt.params k om
  refine Zm (Zh none (k:Int) 1 (ZZ Z5)) (XN [2,3,4,5,6,7,8] [(37,.b ((x1 != 0)&&(!(decide ((k:Int)∈rt.lent)))))] (fun gz=>gz) ?_ ?_)
  ·refine Z2 3 (ib (b:=(x1 != 0)) 31 (fun Ze=>?_) (fun Ze=>?_))
   ·exact ZV 3 [1] (Zv [] (VI rt.lent (k:Int)) (Z1 (ZT 5 (ZP (!(decide ((k:Int)∈rt.lent))) Ze fl))))
   exact Z1 (ZT 5 (ZP false Ze fl))
  refine ac ((x1 != 0)&&(!(decide ((k:Int)∈rt.lent)))) (p:=(x1≠0)/\(¬((k:Int)∈rt.lent))) (Xr Xa (Xi dq)) (fun Zg=>?_) (fun Zg=>?_)
  ·refine Yg 2 (Zv [] (VI (Vg (rt.params.length:Int) rt.body []) (k:Int)) (ie (VJ ((k:Int)∈(Vg (rt.params.length:Int) rt.body [])) (fun ZK=>?_) (fun ZK=>?_))))
   ·exact az (Z2 2 (iL (Z7 [(k:Int)]) 1 1 fun v3=>ZE 0 [(43,Z6 [(k:Int)])] (ip 4 (Z7 (os++[(k:Int)])) (Z7 os) (Z7 [(k:Int)]) u none 1 (Yw _) (Yw _) (XT _) (by simp<;>omega) (by simp [XQ,Z7]) fun v4=>Z1 (az (Z2 1 (ZF k (Z1 (ZI ⟨k+1,(os++[(k:Int)]),v4,dr,w,ob,ob,ob,(by first|exact YA|exact Xb YA om),(by first|exact XZ|exact Xb XZ om),rfl,rfl,rfl⟩ (wk [2,2,2,0,1] (fw (ZL k fl)))))))))))
   exact az (Z2 2 (iL (Z7 [(k:Int)]) 1 1 fun v5=>ZE 0 [(47,Z6 [(k:Int)])] (ip 5 (Z7 (dr++[(k:Int)])) (Z7 dr) (Z7 [(k:Int)]) w none 1 (Yw _) (Yw _) (XT _) (by simp<;>omega) (by simp [XQ,Z7]) fun v6=>Z1 (az (Z2 1 (ZF k (Z1 (ZI ⟨k+1,os,u,(dr++[(k:Int)]),v6,ob,ob,ob,(by first|exact YA|exact Xb YA om),(by first|exact XZ|exact Xb XZ om),rfl,rfl,rfl⟩ (wk [2,2,2,2,0] (fw (ZL k fl)))))))))))
  exact ak (az (Z2 1 (ZF k (Z1 (ZI ⟨k+1,os,u,dr,w,ob,ob,ob,(by first|exact YA|exact Xb YA om),(by first|exact XZ|exact Xb XZ om),rfl,rfl,rfl⟩ (ZT 5 (fw (ZL k fl))))))))
 refine ax 0 (Zo 6 [2,1,1] (iL (Z7 []) 0 1 fun v7=>ZE 0 [(54,Z6 os),(55,Z6 [])] (ic [] (Rf n rt.params rt.body os [] rt.params.length (hf:=hr.body.1) (hop:=hr.op) (hor:=YA) (hal:=(by simp only [X6];omega))) ?_)))
 rintro _ _ ⟨y1,rfl,rfl,YM⟩
 have hkb:=YM
 have hkl:=hkb.len
 refine iA [nl,.i 0] fun b4=>ZA 0 b4 (YK y1) (ie (aD 9 (BB 4 9 [0,2,3,5,6] [(57,Z6 dr)] [0,0] (Z8 1 (dc 1 [] [0,0] [b4,b4] (TY 15 dr) ?_)))))
 rintro _ _ ⟨v8,rfl,rfl⟩
 exact Z8 4 (dp 4 0 [0] [b4] (Zi ((dr.map (Zl 15))++y1.steps)) (Zi (dr.map (Zl 15))) (Zi y1.steps) v8 none 5 (YX _) (YX _) (V2 _) (by simp<;>omega) (by simp [Wi,Zi]) fun v9=>Zk 1 2 [7] (Z8 8 (Yy 8 3 [] [] b3 [YG ((dr.map (Zl 15))++y1.steps) v9,.i y1.result] (de (ZJ (r3 [] [.agg [YG ((dr.map (Zl 15))++y1.steps) v9,.i y1.result]] [0] [(b3,b3)] ⟨(Z3.mk ((dr.map (Zl 15))++y1.steps) y1.result),rfl,rfl,((hkb.put1 (op:=15) (.inr rfl) XZ).le om)⟩ (Zd.agg (.cons (Zd.forget _ _) (.cons (lr _) .nil)))))))))
theorem Rk (n:Zx) (qz:Nat) (hn:FO n qz Wc:=by exact ob) (hqz:qz<=181:=by exact ob):Zf 148 [Yl n] [] (fun r h=>∃(n2:Zx),r=Yl n2/\h=[]/\FO n2 (4500*qz+10) WL):=by
 have hnl:=hn.fn.len
 have XB:=hn.fn.decls.ok
 have hok:=hn.fn.ok
 refine ZD 36 Tryz.func148 (ar (iA (YN n) fun b1=>iA [nl,nl] fun b2=>ie (Zo 2 [1] (Zv [] (Ar n.decls) (iL (Yx []) 0 5 fun v1=>Z2 1 (iA [nl,nl] fun b3=>?_))))))
 refine ZA 0 b3 [YL n.decls,W6 [] v1] (ie (Y0 (ab 0 (Y1 (fun fz gz m F h=>∃(k:Nat) (rs:List Y8) (u:Value),(k<=n.routines.length)/\(rs.length=k)/\(∀r∈rs,RF n.decls n.routines.length (4500*qz+10) WL r)/\F=sF [1,2,3] fz [(4,.i k)]/\h=[.obj b3 [YL n.decls,W6 rs u],Za gz 2,Za gz 3,.tail u 5]/\m=n.routines.length-k) _ _ _ ⟨0,[],v1,ob,ob,(fun r hr=>by cases hr),rfl,rfl,rfl⟩ (wk [0,1,1,0] (Yd fl)) ?_))))
 rintro m F h ⟨k,rs,u,Yf,Zj,Zp,rfl,rfl,rfl⟩
 refine Y7 3 [2] (iw (Uo n.routines) (ZQ ((k:Int)<(n.routines.length:Int)) (fun Z9=>?_) (fun Z9=>?_)))
 ·refine ak (aq (ab 1 (aE 19 (ZG 14 19 [0,1,2,3,4] [0,2] ?_))))
  obtain ⟨x1,Z5⟩:=Zq n.routines k om
  have hrf:=hn.rf (ZW Z5)
  have hrp:(x1).params.length<=3:=(Uh.bd (f:=⟨(x1).params,(x1).result,default⟩) hrf.sig).1
  have hrl:=hrf.lent.1
  have hrz:=hrf.body.2
  refine dx 5 (Zh none (k:Int) 5 (Wz Z5)) (ZG 8 13 [6,7,8,9,10] [2,2] (dx 11 (Zh none (k:Int) 5 (Wz Z5)) (Zk 6 7 [12] (Z8 13 (dc 13 [] [2,0] [b1,b3] (Rh n x1 qz (hr:=hrf)) ?_)))))
  rintro _ _ ⟨y1,rfl,rfl,ZX⟩
  have hkb:=ZX
  exact Z8 14 (Yo 14 [] [0] [b3] (Bi x1 y1 (hp:=om) (hl:=om)) (Z8 15 (dL 15 [0] [b3] (Yx [Y8.mk x1.params x1.lent x1.result y1]) 1 5 fun v2=>Yh 3 3 [] [(32,TV [Y8.mk x1.params x1.lent x1.result y1])] (Z8 16 (dp 16 4 [] [] (Yx (rs++[Y8.mk x1.params x1.lent x1.result y1])) (Yx rs) (Yx [Y8.mk x1.params x1.lent x1.result y1]) u none 5 (VN _) (VN _) (Jk _) (by simp<;>omega) (by simp [A1,Yx]) fun v3=>Zk 1 2 [17] (Z8 18 (Yy 18 2 [] [] b3 [YL n.decls,W6 (rs++[Y8.mk x1.params x1.lent x1.result y1]) v3] (de (az (Z2 1 (ZF k (Z1 (ZI ⟨k+1,(rs++[Y8.mk x1.params x1.lent x1.result y1]),v3,ob,ob,(Xb Zp (by first|exact hrf.with hkb.fb hkb.sz hkb.op|(rw [Z3.eta];exact hrf.with hkb.fb hkb.sz hkb.op))),rfl,rfl,rfl⟩ (wk [0,2,2,0] (ZL k fl)))))))))))))))
 exact ax 0 (Zo 1 [0] (ZA 1 b2 [YL n.decls,W6 rs u] (ie (ZJ (r3 [] [.agg [YL n.decls,W6 rs u]] [0] [(b2,b2)] ⟨(Zx.mk n.decls rs),rfl,rfl,(FO.fin hn.fn om Zp).1⟩ (Zd.agg (.cons (lr _) (.cons (Zd.forget _ _) .nil))))))))
theorem Rc (n:Zx) (us:LI) (s:Z4) (mm:Nat) (hn:Xh n:=by exact ob) (hf:FS n.decls n.routines.length mm s:=by exact ob) (hvl:us.length=mm:=by exact ob) (hm:mm<=100000000:=by exact ob):Zf 245 [Yl n,Z6 us,Yp s] [] (fun r h=>∃(zs:LI),r=Z6 zs/\h=[]/\zs.length<=s.args.length/\∀z∈zs,z∈s.args):=by
 have hal:=hf.alen
 refine ZD 31 Tryz.func245 (ar (iA (YN n) fun b1=>iA (Xg s) fun b2=>Z1 (ar (iL (Z7 []) 0 1 fun v1=>?_))))
 refine Z1 (Y0 (ab 0 (Y1 (fun fz gz m F h=>∃(k:Nat) (zs:LI) (u:Value),(k<=s.args.length)/\(zs.length<=k)/\(∀z∈zs,z∈s.args)/\F=sF [1,3,5] fz [(7,ZO zs u),(8,.i k)]/\h=[Za gz 1,Za gz 2,.tail u 1]/\m=s.args.length-k) _ _ _ ⟨0,[],v1,ob,ob,(fun z hz=>by cases hz),rfl,rfl,rfl⟩ (wk [1,1,0] (fr (Yd fl))) ?_)))
 rintro m F h ⟨k,zs,u,Yf,Zj,Zp,rfl,rfl,rfl⟩
 refine Y7 3 [0] (iw (Ye s.args) (ZQ ((k:Int)<(s.args.length:Int)) (fun Z9=>?_) (fun Z9=>?_)))
 ·obtain ⟨a1,ha1⟩:=Zq s.args k om
  have har:=hf.args a1 (ZW ha1)
  refine ak (aq (ab 1 (Zo 4 [1,0] (Zv [] (DW n us s k a1 (hnum:=hf.call) (ha:=ha1)) (ie (ac (Qs n us s.op s.num a1 k) Iff.rfl (fun Zg=>?_) (fun Zg=>?_)))))))
  ·exact az (ZV 4 [0] (Zm (Zh none (k:Int) 1 (ZZ ha1)) (Z2 1 (iL (Z7 [a1]) 1 1 fun v2=>ZE 0 [(28,Z6 [a1])] (ip 3 (Z7 (zs++[a1])) (Z7 zs) (Z7 [a1]) u none 1 (Yw _) (Yw _) (XT _) (by simp<;>omega) (by simp [XQ,Z7]) fun v3=>Z1 (az (Z2 1 (ZF k (Z1 (ZI ⟨k+1,(zs++[a1]),v3,ob,ob,(by first|exact Zp|exact Xb Zp (ZW ha1)),rfl,rfl,rfl⟩ (wk [2,2,0] (fr (ZL k fl)))))))))))))
  exact ak (az (Z2 1 (ZF k (Z1 (ZI ⟨k+1,zs,u,ob,ob,(by first|exact Zp|exact Xb Zp (ZW ha1)),rfl,rfl,rfl⟩ (ZT 3 (fr (ZL k fl))))))))
 exact ax 0 (ar (Zt (r2 [] [ZO zs u] ⟨zs,rfl,rfl,⟨by omega,Zp⟩⟩ (Zd.forget _ _))))
theorem Ry (n:Zx) (us:LI) (s:Z4) (mm:Nat) (bb:Nat) (hn:Xh n:=by exact ob) (hf:FS n.decls n.routines.length mm s:=by exact ob) (h11:s.op<=11:=by exact ob) (hop:TC Wc s.kids:=by exact ob) (hul:us.length=mm:=by exact ob) (hm:mm+4*s.sz<=100000:=by exact ob) (hbz:s.sz<=500:=by exact ob) (hb:s.sz<=bb:=by exact ob) (ih:∀(us2:LI) (b2:Z3) (mi2:LI) (m2:Nat),(fB n.decls n.routines.length m2 b2)->(WD Wc b2)->(us2.length=m2)->(m2+4*b2.sz<=100000)->(∀v∈mi2,0<=v/\v<(m2:Int))->(mi2.length<=3)->(b2.sz<=500)->(b2.sz<bb)->Zf 192 [Yl n,Z6 us2,ZC b2,Z6 mi2] [] (fun r h=>∃(y:Z3),r=ZC y/\h=[]/\KB n.decls n.routines.length m2 y (60*b2.sz))):Zf 246 [Yl n,Z6 us,Yp s] [] (fun r h=>∃(y:Z4),r=Yp y/\h=[]/\KT n.decls n.routines.length mm y (60*YH s.kids+23)):=by
 have XB:=hn.decls
 have hkf:=hf.few XB
 have hsa:=hf.alen
 refine ZD 72 Tryz.func246 (ar (iA (YN n) fun b1=>iA (Xg s) fun b2=>iA [.i 0,.i 0,.i 0,nl,nl] fun b3=>ie (ar (iL (Ys []) 0 2 fun v1=>Z1 (Zo 4 [3,2] (ic [] (K9 n.decls s.num) ?_))))))
 rintro _ _ ⟨v2,rfl,rfl⟩
 refine Z1 (Y0 (ab 0 (Y1 (fun fz gz m F h=>∃(k:Nat) (ks:List Z3) (u:Value),(k<=s.kids.length)/\(ks.length=k)/\(KK n.decls n.routines.length (VH n.decls s.op s.num mm) ks (60*YH (s.kids.take k)+6*k))/\F=sF [1,3,5,6] fz [(7,U7 ks u),(8,Z6 (Y2 n.decls s.num)),(9,.i k)]/\h=[Za gz 2,Za gz 3,Za gz 4,.tail u 2]/\m=s.kids.length-k) _ _ _ ⟨0,[],v1,ob,ob,(KK.nil.le (Uv _)),rfl,rfl,rfl⟩ (wk [2,2,2,1] (fr (fc (x:=ZO (Y2 n.decls s.num) v2) (Zd.forget _ _) (Yd fl)))) ?_)))
 rintro m F h ⟨k,ks,u,Yf,Zj,Zp,rfl,rfl,rfl⟩
 refine Y7 3 [1] (iw (Vi s.kids) (ZQ ((k:Int)<(s.kids.length:Int)) (fun Z9=>?_) (fun Z9=>?_)))
 ·refine ak (aq (ab 1 (ar (iL (Z7 []) 0 1 fun v3=>?_))))
  refine Z1 (Xd (VG [2] (XA (fun fz gz F h=>∃(fds:LI),(VH n.decls s.op s.num mm k=mm+fds.length)/\(fds.length<=3)/\F=sF [1,3,5,6,7,8,9] fz [(10,Z6 fds)]/\h=[Za gz 1,Za gz 2,Za gz 3,Za gz 4]) ?_ ?_)))
  ·refine ac (s.op==8) ZB (fun Zg=>?_) (fun Zg=>?_)
   ·refine aE 8 (ZG 4 8 [0,1,2,3] [3] ?_)
    obtain ⟨x1,Z5⟩:=Zq (Y2 n.decls s.num) k (by have:=hf.k8 (by assumption);omega)
    have hcf:=VB XB x1
    exact dx 4 (Zh none (k:Int) 1 (ZZ Z5)) (Zk 2 3 [5] (Z8 6 (Yo 6 [] [] [] (TX n.decls x1) (Zk 0 1 [7] (de (ZH ⟨Y5 n.decls x1,(Gd (by assumption) Z5),ob,rfl,rfl⟩ (wk [1,1,1,1] fl)))))))
   exact ak (ZH ⟨[],(by rw [Ge (by assumption)];rfl),ob,rfl,rfl⟩ (wk [1,1,1,1] fl))
  rintro F h ⟨fds,V4,KR,rfl,rfl⟩
  refine Yg 2 (iw (Ye us) (ic [] (Ic fds us.length) ?_))
  rintro _ _ ⟨xs1,rfl,rfl,ZX⟩
  have hhf:=ZX
  refine Z1 (aD 13 (ZG 7 13 [0,1,2,4,5,6] [2,1] ?_))
  obtain ⟨x2,Zu⟩:=Zq s.kids k om
  have hkz:=VP Zu
  have hfk:=BH hf.kids Zu
  rw [Wt,V4] at hfk
  have hok:=B8.1 hop x2 (ZW Zu)
  have hbt:=CI Zu
  have hba:=CJ Zu
  refine dx 7 (Zh none (k:Int) 2 (Vu Zu)) (Zk 4 6 [8,9] (Kx (fun fz gz F h=>∃(y1:Z3) (b4:Nat),(KB n.decls n.routines.length (mm+fds.length) y1 (60*x2.sz))/\F=sF [1,3,5,6,7,8,9,11] fz [(12,.p b4 0)]/\h=[.obj b4 (YK y1),Za gz 0,Za gz 1,Za gz 2,Za gz 3]) ?_ ?_))
  ·refine WT 3 11 ?_ ?_
   ·refine dc 3 [] [1,2] [b2,b1] (TG us fds) ?_
    rintro _ _ ⟨v4,rfl,rfl⟩
    refine Yh 3 3 [] [(44,Z6 (us++fds))] (WT 10 11 ?_ ?_)
    ·refine dc 10 [] [] [] (ih (us++fds) x2 xs1 (mm+fds.length) hfk hok (by rw [Yk,hul]) ob (fun v hv=>by have:=hhf.2 v hv;omega) ob ob ob) ?_
     rintro _ _ ⟨y1,rfl,rfl,Yc⟩
     have hkb:=Yc
     have hkl:=hkb.len
     exact Z8 11 (dA 11 [] [] [nl,.i 0] fun b4=>Z8 12 (Yy 12 0 [] [] b4 (YK y1) (de (ZH ⟨_,b4,(by assumption),rfl,rfl⟩ (wk [0,1,1,1,1] fl)))))
    refine dA 11 [1,2] [b2,b1] [nl,.i 0] fun b5=>Z8 10 (dc 10 [] [] [] (ih (us++fds) x2 xs1 (mm+fds.length) hfk hok (by rw [Yk,hul]) ob (fun v hv=>by have:=hhf.2 v hv;omega) ob ob ob) ?_)
    rintro _ _ ⟨y2,rfl,rfl,YM⟩
    have hkb:=YM
    have hkl:=hkb.len
    exact Z8 12 (Yy 12 0 [] [] b5 (YK y2) (de (ZH ⟨_,b5,(by assumption),rfl,rfl⟩ (wk [0,1,1,1,1] fl))))
   refine dA 11 [1,2] [b2,b1] [nl,.i 0] fun b6=>Z8 3 (dc 3 [] [2,3] [b2,b1] (TG us fds) ?_)
   rintro _ _ ⟨v5,rfl,rfl⟩
   refine Yh 2 2 [] [(44,Z6 (us++fds))] (Z8 10 (dc 10 [] [] [] (ih (us++fds) x2 xs1 (mm+fds.length) hfk hok (by rw [Yk,hul]) ob (fun v hv=>by have:=hhf.2 v hv;omega) ob ob ob) ?_))
   rintro _ _ ⟨y3,rfl,rfl,YZ⟩
   have hkb:=YZ
   have hkl:=hkb.len
   exact Z8 12 (Yy 12 1 [] [] b6 (YK y3) (de (ZH ⟨_,b6,(by assumption),rfl,rfl⟩ (wk [0,1,1,1,1] fl))))
  rintro F h ⟨y1,b4,Yc,rfl,rfl⟩
  have hkb:=Yc
  have hkl:=hkb.len
  refine aE 12 (ZG 6 12 [0,1,3,4,6,7] [0,0] (Z8 2 (dc 2 [] [0,0] [b4,b4] (TY 14 xs1) ?_)))
  rintro _ _ ⟨v6,rfl,rfl⟩
  exact Z8 5 (dp 5 0 [0] [b4] (Zi ((xs1.map (Zl 14))++y1.steps)) (Zi (xs1.map (Zl 14))) (Zi y1.steps) v6 none 5 (YX _) (YX _) (V2 _) (by simp<;>omega) (by simp [Wi,Zi]) fun v7=>Yh 3 4 [8] [(60,.agg [Wo ((xs1.map (Zl 14))++y1.steps),.i y1.result])] (Z8 9 (W5 9 [] [] [ZC (Z3.mk ((xs1.map (Zl 14))++y1.steps) y1.result)] (Ys [Z3.mk ((xs1.map (Zl 14))++y1.steps) y1.result]) (VY [Z3.mk ((xs1.map (Zl 14))++y1.steps) y1.result]).symm 1 2 fun v8=>Yh 2 2 [] [(61,XF [Z3.mk ((xs1.map (Zl 14))++y1.steps) y1.result])] (Z8 10 (dp 10 6 [] [] (Ys (ks++[Z3.mk ((xs1.map (Zl 14))++y1.steps) y1.result])) (Ys ks) (Ys [Z3.mk ((xs1.map (Zl 14))++y1.steps) y1.result]) u none 2 (Uz _) (Uz _) (CR _) (by simp<;>omega) (by simp [KC,Ys]) fun v9=>Zk 0 1 [11] (de (az (Z2 1 (ZF k (Z1 (ZI ⟨k+1,(ks++[Z3.mk ((xs1.map (Zl 14))++y1.steps) y1.result]),v9,ob,ob,((Zp.snoc Zj (by rw [V4];exact hkb.put1 (op:=14) (.inl rfl) (fun v hv=>by have:=hhf.2 v hv;omega))).le om),rfl,rfl,rfl⟩ (wk [4,4,4,0] (fw (ZL k fl))))))))))))))
 refine ax 0 (aD 10 (ZG 3 10 [0,1,2,3,4,5,7] [1,1,1] (Z8 6 (dc 6 [] [1,1] [b2,b2] (Vp s.args) ?_))))
 rintro _ _ ⟨v10,rfl,rfl⟩
 exact Zk 1 2 [8] (Z8 9 (Yy 9 1 [] [] b3 [.i s.op,.i s.num,.i 0,ZO s.args v10,U7 ks u] (de (ZJ (r3 [] [.agg [.i s.op,.i s.num,.i 0,ZO s.args v10,U7 ks u]] [0] [(b3,b3)] ⟨(Z4.mk s.op s.num 0 s.args ks),rfl,rfl,((KT.of (into:=0) hf h11 om om Zp).le (by have:=Ey (xs:=s.kids) (k:=k) om;omega))⟩ (Zd.agg (.cons (lr _) (.cons (lr _) (.cons (lr _) (.cons (Zd.forget _ _) (.cons (Zd.forget _ _) .nil)))))))))))
theorem Rx (n:Zx) (us:LI) (b:Z3) (mi:LI) (mm:Nat) (hn:Xh n) (hf:fB n.decls n.routines.length mm b) (hop:WD Wc b) (hul:us.length=mm) (hm:mm+4*b.sz<=100000) (hmr:∀v∈mi,0<=v/\v<(mm:Int)) (hml:mi.length<=3) (hbz:b.sz<=500) (ih:∀(us2:LI) (b2:Z3) (mi2:LI) (m2:Nat),(fB n.decls n.routines.length m2 b2)->(WD Wc b2)->(us2.length=m2)->(m2+4*b2.sz<=100000)->(∀v∈mi2,0<=v/\v<(m2:Int))->(mi2.length<=3)->(b2.sz<=500)->(b2.sz<b.sz)->Zf 192 [Yl n,Z6 us2,ZC b2,Z6 mi2] [] (fun r h=>∃(y:Z3),r=ZC y/\h=[]/\KB n.decls n.routines.length m2 y (60*b2.sz))):Zf 192 [Yl n,Z6 us,ZC b,Z6 mi] [] (fun r h=>∃(y:Z3),r=ZC y/\h=[]/\KB n.decls n.routines.length mm y (60*b.sz)):=by
 have XB:=hn.decls
 have hbe:=b.sz_eq
 have Zs:=WR b
 obtain ⟨hfs,hr1,hr2⟩:=(BG b).1 hf
 have hos:=An.1 ((Dz b).1 hop)
 have hdn:=EK hos
 have hdl:=hdn b.steps.length (YQ _)
 rw [V7] at hdl
 refine ZD 80 Tryz.func192 (ar (iA (YN n) fun b1=>iA (YK b) fun b2=>iA [nl,.i 0] fun b3=>ie (ar (iL (Zi []) 0 5 fun v1=>Z1 (Yg 1 (ic [] (Vp us) ?_))))))
 rintro _ _ ⟨v2,rfl,rfl⟩
 refine Z1 (Yg 1 (ic [] (Vp mi) ?_))
 rintro _ _ ⟨v3,rfl,rfl⟩
 refine Z1 (Y0 (ab 0 (Y1 (fun fz gz m F h=>∃(k:Nat) (vs:LI) (w:Value) (ow:LI) (u:Value) (xs:List Z4) (v:Value) (z0:Nat),(k<=b.steps.length)/\(vs.length=mm+k)/\(CL n.decls n.routines.length mm xs k z0)/\(z0+2*ow.length<=60*Y3 (b.steps.take k)+2*mi.length)/\(∀v∈ow,0<=v/\v<((mm+k:Nat):Int))/\F=sF [4,6,8] fz [(9,YG xs v),(10,ZO vs w),(11,ZO ow u),(12,.i k)]/\h=[Za gz 3,Za gz 4,Za gz 5,.tail u 1,.tail v 5,.tail w 1]/\m=b.steps.length-k) _ _ _ ⟨0,us,v2,mi,v3,[],v1,0,ob,ob,CL.nil,(by simp),hmr,rfl,rfl,rfl⟩ (wk [3,3,3,0,1,0] (fw (fr (Yd fl)))) ?_)))
 rintro m F h ⟨k,vs,w,ow,u,xs,v,z0,Yf,Zj,Zp,YA,XZ,rfl,rfl,rfl⟩
 refine Y7 3 [1] (iw (WA b.steps) (ZQ ((k:Int)<(b.steps.length:Int)) (fun Z9=>?_) (fun Z9=>?_)))
 ·refine ak (aq (ab 1 (Zo 3 [1] ?_)))
  obtain ⟨x1,Z5⟩:=Zq b.steps k om
  have X5:=Bj Z5
  have hfS:=(CZ x1).1 (BI hfs Z5)
  rw [hdn k om] at hfS
  have hoS:=(C7 x1).1 (hos x1 (ZW Z5))
  have htk:=Gr Z5
  have hse:=(x1).sz_eq
  have hal4:=hfS.alen
  have hxl:=Zp.len
  have htl:=Q0 b.steps (k+1)
  refine Zm (Zh none (k:Int) 5 (XR Z5)) (Z2 1 (iA [.i 0,.i 0,.i 0,nl,nl] fun b4=>ZA 0 b4 (Xg x1) (ie (ar (TW 3 [(33,Z6 vs)] [3,0] (Zv [] (Gn n vs x1 ob ob) (Z1 (ar (TW 4 [(38,Z6 vs)] [3,0] (ic [] (Rc n vs x1 (mm+k) (hf:=hfS)) ?_))))))))))
  rintro _ _ ⟨zs1,rfl,rfl,ZX⟩
  have hdu:=ZX
  have hq1:=Zp.cnts (op:=14) (.inl rfl) (vs:=zs1) (fun v hv=>hfS.args v (hdu.2 v hv))
  have hl1:=hq1.len
  refine ic [] (TY 14 zs1) ?_
  rintro _ _ ⟨v4,rfl,rfl⟩
  refine ZE 0 [(41,Wo (zs1.map (Zl 14)))] (ip 6 (Zi (xs++(zs1.map (Zl 14)))) (Zi xs) (Zi (zs1.map (Zl 14))) v none 5 (YX _) (YX _) (V2 _) (by simp<;>omega) (by simp [Wi,Zi]) fun v5=>Z1 (ar (TW 4 [(45,Z6 vs)] [5,2] (ic [] (Ry n vs x1 (mm+k) b.sz (hf:=hfS) (h11:=hoS.1) (hop:=hoS.2) (ih:=ih)) ?_))))
  rintro _ _ ⟨y1,rfl,rfl,Yc⟩
  have hkt:=Yc
  have hq2:=hq1.kt hkt
  have hl2:=hq2.len
  refine VD [Yp y1] (Zi [y1]) (WM [y1]).symm 1 5 fun v6=>ZE 0 [(48,Wo [y1])] (ip 1 (Zi ((xs++(zs1.map (Zl 14)))++[y1])) (Zi (xs++(zs1.map (Zl 14)))) (Zi [y1]) v5 none 5 (YX _) (YX _) (V2 _) (by simp<;>omega) (by simp [Wi,Zi]) fun v7=>Z1 (Xd (YR ((YF n vs x1) != 0) Xa (fun Zg=>?_) (fun Zg=>?_))))
  ·exact az (Z2 2 (iw (Ye vs) (iL (Z7 [(vs.length:Int)]) 1 1 fun v8=>ZE 0 [(55,Z6 [(vs.length:Int)])] (ip 8 (Z7 (ow++[(vs.length:Int)])) (Z7 ow) (Z7 [(vs.length:Int)]) u none 1 (Yw _) (Yw _) (XT _) (by simp<;>omega) (by simp [XQ,Z7]) fun v9=>Z1 (az (Z2 2 (iL (Z7 [YF n vs x1]) 1 1 fun v10=>ZE 0 [(59,Z6 [YF n vs x1])] (ip 10 (Z7 (vs++[YF n vs x1])) (Z7 vs) (Z7 [YF n vs x1]) w none 1 (Yw _) (Yw _) (XT _) (by simp<;>omega) (by simp [XQ,Z7]) fun v11=>Z1 (az (Z2 1 (ZF k (Z1 (ZI ⟨k+1,(vs++[YF n vs x1]),v11,(ow++[(vs.length:Int)]),v9,((xs++(zs1.map (Zl 14)))++[y1]),v7,_,ob,ob,hq2,(by (try simp only [Yk,YD,X6]);omega),(by first|exact Xb (fun v hv=>by have:=XZ v hv;omega) om|exact (fun v hv=>by have:=XZ v hv;omega)),rfl,rfl,rfl⟩ (wk [8,8,8,2,3,0] (fw (fr (ZL k fl)))))))))))))))))
  exact ak (az (Z2 2 (iL (Z7 [YF n vs x1]) 1 1 fun v12=>ZE 0 [(59,Z6 [YF n vs x1])] (ip 9 (Z7 (vs++[YF n vs x1])) (Z7 vs) (Z7 [YF n vs x1]) w none 1 (Yw _) (Yw _) (XT _) (by simp<;>omega) (by simp [XQ,Z7]) fun v13=>Z1 (az (Z2 1 (ZF k (Z1 (ZI ⟨k+1,(vs++[YF n vs x1]),v13,ow,u,((xs++(zs1.map (Zl 14)))++[y1]),v7,_,ob,ob,hq2,(by (try simp only [Yk,YD,X6]);omega),(by first|exact Xb (fun v hv=>by have:=XZ v hv;omega) om|exact (fun v hv=>by have:=XZ v hv;omega)),rfl,rfl,rfl⟩ (wk [6,6,6,6,2,0] (fw (fr (ZL k fl)))))))))))))
 have hxl:=Zp.len
 have htl:=Q0 b.steps k
 refine ax 0 (Y7 3 [1] ?_)
 obtain ⟨x2,Zu⟩:=Zq vs b.result.toNat om
 refine Zm (Zh (some w) b.result 1 (ZZ Zu)) (YR (x2 != 0) Xa (fun ZK=>?_) (fun ZK=>?_))
 ·refine az (ZV 3 [1] (Zv [] (Ka 14 b.result) (VD [Yp (Zl 14 b.result)] (Zi [Zl 14 b.result]) (WM [Zl 14 b.result]).symm 1 5 fun v14=>ZE 0 [(71,Wo [Zl 14 b.result])] (ip 5 (Zi (xs++[Zl 14 b.result])) (Zi xs) (Zi [Zl 14 b.result]) v none 5 (YX _) (YX _) (V2 _) (by simp<;>omega) (by simp [Wi,Zi]) fun v15=>Z1 (aD 8 (BB 4 8 [0,1,4,5] [(74,Z6 ow)] [3] (Z8 2 (dc 2 [] [1] [b2] (TY 15 ow) ?_))))))))
  rintro _ _ ⟨v16,rfl,rfl⟩
  exact Yh 3 3 [] [(75,Wo (ow.map (Zl 15)))] (Z8 3 (dp 3 1 [1] [b2] (Zi ((xs++[Zl 14 b.result])++(ow.map (Zl 15)))) (Zi (xs++[Zl 14 b.result])) (Zi (ow.map (Zl 15))) v15 none 5 (YX _) (YX _) (V2 _) (by simp<;>omega) (by simp [Wi,Zi]) fun v17=>Zk 1 2 [6] (Z8 7 (Yy 7 3 [] [] b3 [YG ((xs++[Zl 14 b.result])++(ow.map (Zl 15))) v17,.i b.result] (de (ZJ (r3 [] [.agg [YG ((xs++[Zl 14 b.result])++(ow.map (Zl 15))) v17,.i b.result]] [0] [(b3,b3)] ⟨(Z3.mk ((xs++[Zl 14 b.result])++(ow.map (Zl 15))) b.result),rfl,rfl,((((Zp.cnt (op:=14) (.inl rfl) om).cnts (op:=15) (.inr rfl) (fun v hv=>by have:=XZ v hv;omega)).block om).le (by have:=Q0 b.steps k;omega))⟩ (Zd.agg (.cons (Zd.forget _ _) (.cons (lr _) .nil))))))))))
 refine ak (aD 8 (BB 4 8 [0,1,4,5] [(74,Z6 ow)] [1] (Z8 2 (dc 2 [] [1] [b2] (TY 15 ow) ?_))))
 rintro _ _ ⟨v18,rfl,rfl⟩
 exact Yh 3 3 [] [(75,Wo (ow.map (Zl 15)))] (Z8 3 (dp 3 5 [1] [b2] (Zi (xs++(ow.map (Zl 15)))) (Zi xs) (Zi (ow.map (Zl 15))) v none 5 (YX _) (YX _) (V2 _) (by simp<;>omega) (by simp [Wi,Zi]) fun v19=>Zk 1 2 [6] (Z8 7 (Yy 7 2 [] [] b3 [YG (xs++(ow.map (Zl 15))) v19,.i b.result] (de (ZJ (r3 [] [.agg [YG (xs++(ow.map (Zl 15))) v19,.i b.result]] [0] [(b3,b3)] ⟨(Z3.mk (xs++(ow.map (Zl 15))) b.result),rfl,rfl,(((Zp.cnts (op:=15) (.inr rfl) (fun v hv=>by have:=XZ v hv;omega)).block om).le (by have:=Q0 b.steps k;omega))⟩ (Zd.agg (.cons (Zd.forget _ _) (.cons (lr _) .nil))))))))))
theorem Rw (n:Zx) (us:LI) (b:Z3) (mi:LI) (mm:Nat) (hn:Xh n:=by exact ob) (hf:fB n.decls n.routines.length mm b:=by exact ob) (hop:WD Wc b:=by exact ob) (hul:us.length=mm:=by exact ob) (hm:mm+4*b.sz<=100000:=by exact ob) (hmr:∀v∈mi,0<=v/\v<(mm:Int)) (hml:mi.length<=3:=by exact ob) (hbz:b.sz<=500:=by exact ob):Zf 192 [Yl n,Z6 us,ZC b,Z6 mi] [] (fun r h=>∃(y:Z3),r=ZC y/\h=[]/\KB n.decls n.routines.length mm y (60*b.sz)):=by
 have key:∀k:Nat,∀(us2:LI) (b2:Z3) (mi2:LI) (m2:Nat),(fB n.decls n.routines.length m2 b2)->(WD Wc b2)->(us2.length=m2)->(m2+4*b2.sz<=100000)->(∀v∈mi2,0<=v/\v<(m2:Int))->(mi2.length<=3)->(b2.sz<=500)->(b2.sz<k)->Zf 192 [Yl n,Z6 us2,ZC b2,Z6 mi2] [] (fun r h=>∃(y:Z3),r=ZC y/\h=[]/\KB n.decls n.routines.length m2 y (60*b2.sz)):=by
  intro k
  induction k with
  | zero=>intro us2 b2 mi2 m2 h1 h2 h3 h4 h5 h6 h7 h9;omega
  | succ k ih=>intro us2 b2 mi2 m2 h1 h2 h3 h4 h5 h6 h7 h9;exact Rx n us2 b2 mi2 m2 hn h1 h2 h3 h4 h5 h6 h7 fun us3 b3 mi3 m3 q1 q2 q3 q4 q5 q6 q7 q9=>ih us3 b3 mi3 m3 q1 q2 q3 q4 q5 q6 q7 om
 exact key (b.sz+1) us b mi mm hf hop hul hm hmr hml hbz om
theorem RS (rt:Y8) (hp:rt.params.length<=1000000:=by exact ob) (hl:rt.lent.length<=1000000:=by exact ob):Zf 193 [TM rt] [] (fun r h=>∃(os:LI),r=Z6 os/\h=[]/\os.length<=rt.params.length/\∀v∈os,0<=v/\v<(rt.params.length:Int)):=by
 refine ZD 31 Tryz.func193 (ar (iA (K1 rt) fun b1=>Z1 (ar (iL (Z7 []) 0 1 fun v1=>?_))))
 refine Z1 (Y0 (ab 0 (Y1 (fun fz gz m F h=>∃(k:Nat) (os:LI) (u:Value),(k<=rt.params.length)/\(os.length<=k)/\(∀v∈os,0<=v/\v<(rt.params.length:Int))/\F=sF [1] fz [(3,ZO os u),(4,.i k)]/\h=[Za gz 1,.tail u 1]/\m=rt.params.length-k) _ _ _ ⟨0,[],v1,ob,ob,(fun v hv=>by cases hv),rfl,rfl,rfl⟩ (wk [1,0] (fr (Yd fl))) ?_)))
 rintro m F h ⟨k,os,u,Yf,Zj,Zp,rfl,rfl,rfl⟩
 refine Y7 3 [0] (iw (Ye rt.params) (ZQ ((k:Int)<(rt.params.length:Int)) (fun Z9=>?_) (fun Z9=>?_)))
 ·refine ak (aq (ab 1 (Zo 3 [0] ?_)))
  obtain ⟨x1,Z5⟩:=Zq rt.params k om
  refine Zm (Zh none (k:Int) 1 (ZZ Z5)) (XN [1,3,4] [(25,.b ((x1 != 0)&&(!(decide ((k:Int)∈rt.lent)))))] (fun gz=>gz) ?_ ?_)
  ·refine Z2 3 (ib (b:=(x1 != 0)) 19 (fun Ze=>?_) (fun Ze=>?_))
   ·exact ZV 3 [0] (Zv [] (VI rt.lent (k:Int)) (Z1 (wk [0,0] (ZP (!(decide ((k:Int)∈rt.lent))) Ze fl))))
   exact Z1 (wk [0,0] (ZP false Ze fl))
  refine ac ((x1 != 0)&&(!(decide ((k:Int)∈rt.lent)))) (p:=(x1≠0)/\(¬((k:Int)∈rt.lent))) (Xr Xa (Xi dq)) (fun Zg=>?_) (fun Zg=>?_)
  ·exact az (Z2 2 (iL (Z7 [(k:Int)]) 1 1 fun v2=>ZE 0 [(28,Z6 [(k:Int)])] (ip 2 (Z7 (os++[(k:Int)])) (Z7 os) (Z7 [(k:Int)]) u none 1 (Yw _) (Yw _) (XT _) (by simp<;>omega) (by simp [XQ,Z7]) fun v3=>Z1 (az (Z2 1 (ZF k (Z1 (ZI ⟨k+1,(os++[(k:Int)]),v3,ob,ob,(by first|exact Zp|exact Xb Zp om),rfl,rfl,rfl⟩ (wk [2,0] (fr (ZL k fl)))))))))))
  exact ak (az (Z2 1 (ZF k (Z1 (ZI ⟨k+1,os,u,ob,ob,(by first|exact Zp|exact Xb Zp om),rfl,rfl,rfl⟩ (wk [0,0] (fr (ZL k fl))))))))
 exact ax 0 (ar (Zt (r2 [] [ZO os u] ⟨os,rfl,rfl,⟨by omega,Zp⟩⟩ (Zd.forget _ _))))
theorem Rv (n:Zx) (qz:Nat) (hn:FO n qz Wc:=by exact ob) (hqz:qz<=181:=by exact ob):Zf 149 [Yl n] [] (fun r h=>∃(n2:Zx),r=Yl n2/\h=[]/\FO n2 (60*qz) WL):=by
 have hnl:=hn.fn.len
 have XB:=hn.fn.decls.ok
 have hok:=hn.fn.ok
 refine ZD 39 Tryz.func149 (ar (iA (YN n) fun b1=>iA [nl,nl] fun b2=>ie (Zo 2 [1] (Zv [] (Ar n.decls) (iL (Yx []) 0 5 fun v1=>Z2 1 (iA [nl,nl] fun b3=>?_))))))
 refine ZA 0 b3 [YL n.decls,W6 [] v1] (ie (Y0 (ab 0 (Y1 (fun fz gz m F h=>∃(k:Nat) (rs:List Y8) (u:Value),(k<=n.routines.length)/\(rs.length=k)/\(∀r∈rs,RF n.decls n.routines.length (60*qz) WL r)/\F=sF [1,2,3] fz [(4,.i k)]/\h=[.obj b3 [YL n.decls,W6 rs u],Za gz 2,Za gz 3,.tail u 5]/\m=n.routines.length-k) _ _ _ ⟨0,[],v1,ob,ob,(fun r hr=>by cases hr),rfl,rfl,rfl⟩ (wk [0,1,1,0] (Yd fl)) ?_))))
 rintro m F h ⟨k,rs,u,Yf,Zj,Zp,rfl,rfl,rfl⟩
 refine Y7 3 [2] (iw (Uo n.routines) (ZQ ((k:Int)<(n.routines.length:Int)) (fun Z9=>?_) (fun Z9=>?_)))
 ·refine ak (aq (ab 1 (Zo 3 [2] ?_)))
  obtain ⟨x1,Z5⟩:=Zq n.routines k om
  have hrf:=hn.rf (ZW Z5)
  have hrp:(x1).params.length<=3:=(Uh.bd (f:=⟨(x1).params,(x1).result,default⟩) hrf.sig).1
  have hrl:=hrf.lent.1
  have hrz:=hrf.body.2
  refine Zm (Zh none (k:Int) 5 (Wz Z5)) (Z2 1 (iA [nl,nl,.i 0,nl,.i 0] fun b4=>ZA 0 b4 (K1 x1) (ie (aE 16 (ZG 7 16 [0,1,2,3,4,5,6,7,8] [1,0,3,0,0,0] (Z8 9 (dc 9 [] [0,0,3,0,1] [b4,b4,b1,b4,b3] (RS x1) ?_)))))))
  rintro _ _ ⟨os1,rfl,rfl,ZX⟩
  have hop:=ZX
  refine Z8 10 (dc 10 [] [0,1] [b4,b3] (Rw n x1.params x1.body os1 _ (hf:=hrf.body.1) (hop:=hrf.op) (hul:=rfl) (hmr:=hop.2)) ?_)
  rintro _ _ ⟨y1,rfl,rfl,Yc⟩
  have hkb0:=Yc
  have hkb:=hkb0.le (z2:=60*qz) om
  exact Z8 11 (Yo 11 [] [1] [b3] (Bi x1 y1 (hp:=om) (hl:=om)) (Z8 12 (dL 12 [1] [b3] (Yx [Y8.mk x1.params x1.lent x1.result y1]) 1 5 fun v2=>Yh 3 3 [] [(35,TV [Y8.mk x1.params x1.lent x1.result y1])] (Z8 13 (dp 13 5 [] [] (Yx (rs++[Y8.mk x1.params x1.lent x1.result y1])) (Yx rs) (Yx [Y8.mk x1.params x1.lent x1.result y1]) u none 5 (VN _) (VN _) (Jk _) (by simp<;>omega) (by simp [A1,Yx]) fun v3=>Zk 1 2 [14] (Z8 15 (Yy 15 3 [] [] b3 [YL n.decls,W6 (rs++[Y8.mk x1.params x1.lent x1.result y1]) v3] (de (az (Z2 1 (ZF k (Z1 (ZI ⟨k+1,(rs++[Y8.mk x1.params x1.lent x1.result y1]),v3,ob,ob,(Xb Zp (by first|exact hrf.with hkb.fb hkb.sz hkb.op|(rw [Z3.eta];exact hrf.with hkb.fb hkb.sz hkb.op))),rfl,rfl,rfl⟩ (wk [0,3,3,0] (ZL k fl)))))))))))))))
 exact ax 0 (Zo 1 [0] (ZA 1 b2 [YL n.decls,W6 rs u] (ie (ZJ (r3 [] [.agg [YL n.decls,W6 rs u]] [0] [(b2,b2)] ⟨(Zx.mk n.decls rs),rfl,rfl,(FO.fin hn.fn om Zp).1⟩ (Zd.agg (.cons (lr _) (.cons (Zd.forget _ _) .nil))))))))
theorem MJ (s:Z4) :Zf 194 [Yp s] [] (Yu (.b ((s.op==14)||(s.op==15)))):=by
 refine ZD 11 Tryz.func194 (ar (iA (Xg s) fun b1=>Z1 (ar (Vc 8 [] [(10,.b ((s.op==14)||(s.op==15)))] (fun gz=>gz) ?_ (fun hj1=>?_)))))
 ·exact Zt (N3)
 refine ZV 4 [0] (ib (b:=(s.op==14)) 6 (fun Ze=>?_) (fun Ze=>?_))
 ·exact Z2 4 (Xy (wk [0] (ZP true Ze fl)) hj1)
 exact ZV 4 [0] (Xy (wk [0] (ZP (s.op==15) Ze fl)) hj1)
theorem S6 (rn:List Z4) (hrn:∀s∈rn,∃a,s.args=[a]) (hl:rn.length<=100000000:=by exact ob):Zf 247 [Wo rn] [] (fun r h=>∃(vs:LI),r=Z6 vs/\h=[]/\JP vs/\vs.length<=rn.length/\∀v∈vs,∃s∈rn,s.args=[v]):=by
 refine ZD 22 Tryz.func247 (Y9 (ar (iL (Z7 []) 0 1 fun v1=>?_)))
 refine Z1 (Y0 (ab 0 (Y1 (fun fz gz m F h=>∃(k:Nat) (vs:LI),(k<=rn.length)/\(vs.length<=k)/\(JP vs)/\(∀v∈vs,∃s∈rn,s.args=[v])/\F=sF [0] fz [(3,Z6 vs),(4,.i k)]/\h=[]/\m=rn.length-k) _ _ _ ⟨0,[],ob,ob,List.Pairwise.nil,(fun v hv=>by cases hv),rfl,rfl,rfl⟩ (wk [] (fc (x:=ZO [] v1) (Zd.forget _ _) (Yd fl))) ?_)))
 rintro m F h ⟨k,vs,Yf,Zj,Zp,YA,rfl,rfl,rfl⟩
 refine X1 2 (iw (WA rn) (ZQ ((k:Int)<(rn.length:Int)) (fun Z9=>?_) (fun Z9=>?_)))
 ·refine ak (aq (ab 1 (az (Z2 3 ?_))))
  obtain ⟨x1,Z5⟩:=Zq rn k om
  have hxm:=ZW Z5
  obtain ⟨xa,hxa⟩:=hrn _ hxm
  refine Zm (Zh none (k:Int) 5 (XR Z5)) (Z2 2 ?_)
  obtain ⟨x2,Zu⟩:=Zq x1.args 0 (by rw [hxa];simp)
  have hxe:x1.args=[x2]:=by have h:=Zu;rw [hxa] at h;rw [hxa];simpa using h
  refine Zm (Zh none 0 1 (ZZ Zu)) (Z2 1 (ic [] (BM vs x2) ?_))
  rintro _ _ ⟨v2,rfl,rfl⟩
  exact Z1 (az (Z2 1 (ZF k (Z1 (ZI ⟨k+1,(WB vs x2),ob,(by have:=B0 vs x2;omega),(ID Zp),(fun v hv=>(BT.1 hv).elim (YA v) (fun e=>⟨x1,hxm,by rw [e];exact hxe⟩)),rfl,rfl,rfl⟩ (wk [] (fc (x:=ZO (WB vs x2) v2) (Zd.forget _ _) (ZL k fl))))))))
 exact ax 0 (ar (Zt (r1 [] ⟨vs,rfl,rfl,⟨Zp,by omega,YA⟩⟩)))
theorem RJ (rn:List Z4) (v:Int) (hrn:∀s∈rn,∃a,s.args=[a]) (hl:rn.length<=100000000:=by exact ob):Zf 248 [Wo rn,.i v] [] (fun r h=>∃(z:Int),r=.i z/\h=[]/\-((WO rn v:Nat):Int)<=z/\z<=((WO rn v:Nat):Int)):=by
 refine ZD 44 Tryz.func248 (Y9 (Y9 (Y0 (ab 0 (Y1 (fun fz gz m F h=>∃(k:Nat) (z:Int),(k<=rn.length)/\(-((WO (rn.take k) v:Nat):Int)<=z/\z<=((WO (rn.take k) v:Nat):Int))/\F=sF [0,1] fz [(5,.i z),(6,.i k)]/\h=gz/\m=rn.length-k) _ _ _ ⟨0,0,ob,(by simp [WO]),rfl,rfl,rfl⟩ (wk [] (fr (Yd fl))) ?_)))))
 rintro m F h ⟨k,z,Yf,Zj,rfl,rfl,rfl⟩
 refine X1 2 (iw (WA rn) (ZQ ((k:Int)<(rn.length:Int)) (fun Z9=>?_) (fun Z9=>?_)))
 ·refine ak (aq (ab 1 (Yg 2 ?_)))
  obtain ⟨x1,Z5⟩:=Zq rn k om
  have hxm:=ZW Z5
  obtain ⟨xa,hxa⟩:=hrn _ hxm
  have hct:=OF Z5 v
  have hcl:=OG rn (k+1) v
  have hcm:=Hl rn v
  refine Zm (Zh none (k:Int) 5 (XR Z5)) (Z2 2 ?_)
  obtain ⟨x2,Zu⟩:=Zq x1.args 0 (by rw [hxa];simp)
  have hg0:=KI Zu
  rw [hg0] at hct
  refine Zm (Zh none 0 1 (ZZ Zu)) (XN [0,1,5,6] [(29,.b ((x2==v)&&(x1.op==14)))] (fun gz=>gz) ?_ ?_)
  ·refine Z2 4 (ib (b:=(x2==v)) 22 (fun Ze=>?_) (fun Ze=>?_))
   ·exact Z2 2 (Zm (Zh none (k:Int) 5 (XR Z5)) (Z1 (wk [] (ZP (x1.op==14) Ze fl))))
   exact Z1 (wk [] (ZP false Ze fl))
  refine ac ((x2==v)&&(x1.op==14)) (p:=(x2=v)/\(x1.op=14)) (Xr ZB ZB) (fun Zg=>?_) (fun Zg=>?_)
  ·exact az (Z2 1 (ia ((z+1)) ((z)+(1)) (Z1 (az (Z2 1 (ZF k (Z1 (ZI ⟨k+1,(z+1),ob,(by first|(rw [hct,Zw om];omega)|(rw [hct,Zr om];omega)),rfl,rfl,rfl⟩ (wk [] (fr (ZL k fl)))))))))))
  refine Yg 2 (Zm (Zh none (k:Int) 5 (XR Z5)) (Z2 2 (Zm (Zh none 0 1 (ZZ Zu)) (YR (x2==v) ZB (fun ZK=>?_) (fun ZK=>?_)))))
  ·exact az (Z2 1 (ia ((z-1)) ((z)-(1)) (Z1 (az (Z2 1 (ZF k (Z1 (ZI ⟨k+1,(z-1),ob,(by first|(rw [hct,Zw om];omega)|(rw [hct,Zr om];omega)),rfl,rfl,rfl⟩ (wk [] (fr (ZL k fl)))))))))))
  exact ak (az (Z2 1 (ZF k (Z1 (ZI ⟨k+1,z,ob,(by first|(rw [hct,Zw om];omega)|(rw [hct,Zr om];omega)),rfl,rfl,rfl⟩ (wk [] (fr (ZL k fl))))))))
 exact ax 0 (ar (Zt (r1 [] ⟨z,rfl,rfl,(by have e:=Zj;rw [WS om] at e;exact e)⟩)))
theorem Ij (rn:List Z4) (hrn:∀s∈rn,∃a,s.args=[a]) (hl:rn.length<=100000000:=by exact ob):Zf 195 [Wo rn] [] (fun r h=>∃(D:LI) (R:LI) (v:Value),r=YG (D.map (Zl 14)++R.map (Zl 15)) v/\h=[.tail v 5]/\D.length+R.length<=rn.length/\(∀v∈D,∃s∈rn,s.args=[v])/\∀v∈R,∃s∈rn,s.args=[v]):=by
 refine ZD 51 Tryz.func195 (Y9 (ar (iL (Z7 []) 0 1 fun v1=>Z1 (ar (iL (Z7 []) 0 1 fun v2=>Z1 (Yg 1 (ic [] (S6 rn (hrn:=ob)) ?_)))))))
 rintro _ _ ⟨vs1,rfl,rfl,ZX⟩
 have hvo:=ZX
 have hsl:=N1 rn hvo.1
 refine Z1 (Y0 (ab 0 (Y1 (fun fz gz m F h=>∃(k:Nat) (D:LI) (u:Value) (R:LI) (w:Value),(k<=vs1.length)/\(D.length+R.length<=WH rn (vs1.take k))/\(∀v∈D,v∈vs1)/\(∀v∈R,v∈vs1)/\F=sF [0,5] fz [(3,ZO D u),(4,ZO R w),(6,.i k)]/\h=[.tail u 1,.tail w 1]/\m=vs1.length-k) _ _ _ ⟨0,[],v1,[],v2,ob,(by simp [WH]),(fun v hv=>by cases hv),(fun v hv=>by cases hv),rfl,rfl,rfl⟩ (wk [1,0] (fw (Yd fl))) ?_)))
 rintro m F h ⟨k,D,u,R,w,Yf,Zj,Zp,YA,rfl,rfl,rfl⟩
 refine X1 2 (iw (Ye vs1) (ZQ ((k:Int)<(vs1.length:Int)) (fun Z9=>?_) (fun Z9=>?_)))
 ·refine ak (aq (ab 1 (Yg 3 ?_)))
  obtain ⟨x1,Z5⟩:=Zq vs1 k om
  have hst:=Z50 (rn:=rn) Z5
  have hsk:=Gu rn vs1 (k+1)
  have hxm:=ZW Z5
  refine Zm (Zh none (k:Int) 1 (ZZ Z5)) (Z2 1 (ic [] (RJ rn x1 (hrn:=ob)) ?_))
  rintro _ _ ⟨z1,rfl,rfl,Yc⟩
  have hnt:=Yc
  refine Z1 (aq (ab 2 (Y1 (fun fz gz m F h=>∃(z:Int) (D2:LI) (u2:Value) (w2:Value),((D2.length:Int)+(R.length:Int)+z<=((WH rn (vs1.take k):Nat):Int)+((WO rn x1:Nat):Int))/\((D2.length:Int)+(R.length:Int)-z<=((WH rn (vs1.take k):Nat):Int)+((WO rn x1:Nat):Int))/\(∀v∈D2,v∈vs1)/\F=sF [0,5,6] fz [(3,ZO D2 u2),(4,ZO R w2),(7,.i z)]/\h=[.tail u2 1,.tail w2 1]/\m=z.toNat) _ _ _ ⟨z1,D,u,w,om,om,Zp,rfl,rfl,rfl⟩ (wk [0,0] fl) ?_)))
  rintro m F h ⟨z,D2,u2,w2,VX,Wh,Xm,rfl,rfl,rfl⟩
  refine Xd (ZQ (z>0) (fun Zg=>?_) (fun Zg=>?_))
  ·exact ak (aq (ab 3 (az (Z2 3 (Zm (Zh none (k:Int) 1 (ZZ Z5)) (Z2 1 (iL (Z7 [x1]) 1 1 fun v3=>ZE 0 [(33,Z6 [x1])] (ip 1 (Z7 (D2++[x1])) (Z7 D2) (Z7 [x1]) u2 none 1 (Yw _) (Yw _) (XT _) (by simp<;>omega) (by simp [XQ,Z7]) fun v4=>Z1 (az (Z2 1 (ia ((z-1)) ((z)-(1)) (Z1 (ZI ⟨(z-1),(D2++[x1]),v4,w2,(by simp only [Yk,YD,X6];omega),(by simp only [Yk,YD,X6];omega),(Xb Xm hxm),rfl,rfl,rfl⟩ (wk [0,1] fl))))))))))))))
  refine ax 2 (ab 4 (Y1 (fun fz gz m F h=>∃(y:Int) (R2:LI) (u3:Value) (w3:Value),((D2.length:Int)+(R2.length:Int)+y<=((WH rn (vs1.take k):Nat):Int)+((WO rn x1:Nat):Int))/\((D2.length:Int)+(R2.length:Int)-y<=((WH rn (vs1.take k):Nat):Int)+((WO rn x1:Nat):Int))/\(∀v∈R2,v∈vs1)/\F=sF [0,5,6] fz [(3,ZO D2 u3),(4,ZO R2 w3),(7,.i y)]/\h=[.tail u3 1,.tail w3 1]/\m=(-y).toNat) _ _ _ ⟨z,R,u2,w2,ob,ob,YA,rfl,rfl,rfl⟩ (wk [0,0] fl) ?_))
  rintro m F h ⟨y,R2,u3,w3,Om,Z6h,Hf,rfl,rfl,rfl⟩
  refine Xd (ZQ (y<0) (fun ZK=>?_) (fun ZK=>?_))
  ·exact ak (aq (ab 5 (az (Z2 3 (Zm (Zh none (k:Int) 1 (ZZ Z5)) (Z2 1 (iL (Z7 [x1]) 1 1 fun v5=>ZE 0 [(44,Z6 [x1])] (ip 2 (Z7 (R2++[x1])) (Z7 R2) (Z7 [x1]) w3 none 1 (Yw _) (Yw _) (XT _) (by simp<;>omega) (by simp [XQ,Z7]) fun v6=>Z1 (az (Z2 1 (ia ((y+1)) ((y)+(1)) (Z1 (ZI ⟨(y+1),(R2++[x1]),u3,v6,(by simp only [Yk,YD,X6];omega),(by simp only [Yk,YD,X6];omega),(Xb Hf hxm),rfl,rfl,rfl⟩ (wk [2,0] fl))))))))))))))
  exact ax 4 (az (Z2 1 (ZF k (Z1 (ZI ⟨k+1,D2,u3,R2,w3,ob,(by rw [hst];omega),Xm,Hf,rfl,rfl,rfl⟩ (wk [0,0] (fw (ZL k fl))))))))
 have X5:=Gu rn vs1 k
 refine ax 0 (ar (ZE 1 [(46,Z6 D)] (ic [] (TY 14 D) ?_)))
 rintro _ _ ⟨v7,rfl,rfl⟩
 refine ZE 1 [(48,Z6 R)] (ic [] (TY 15 R) ?_)
 rintro _ _ ⟨v8,rfl,rfl⟩
 exact ZE 0 [(49,Wo (R.map (Zl 15)))] (ip 1 (Zi ((D.map (Zl 14))++(R.map (Zl 15)))) (Zi (D.map (Zl 14))) (Zi (R.map (Zl 15))) v7 none 5 (YX _) (YX _) (V2 _) (by simp<;>omega) (by simp [Wi,Zi]) fun v9=>Zt (r2 [0] [YG ((D.map (Zl 14))++(R.map (Zl 15))) v9] ⟨_,_,v9,rfl,rfl,⟨by have:=Gu rn vs1 k;omega,fun v hv=>hvo.2.2 v (Zp v hv),fun v hv=>hvo.2.2 v (YA v hv)⟩⟩ (Zd.slh _ (Yr Zi ob))))
theorem R8 (ds:List Zc) (nf:Nat) (b:Z3) (mm:Nat) (hf:fB ds nf mm b) (hop:WD WL b) (hz:b.sz<=100000000) (ih:∀(b2:Z3) (m2:Nat),(fB ds nf m2 b2)->(WD WL b2)->(b2.sz<=100000000)->(b2.sz<b.sz)->Zf 150 [ZC b2] [] (fun r h=>∃(y:Z3),r=ZC y/\h=[]/\KB ds nf m2 y b2.sz)):Zf 150 [ZC b] [] (fun r h=>∃(y:Z3),r=ZC y/\h=[]/\KB ds nf mm y b.sz):=by
 have hbe:=b.sz_eq
 have Zs:=WR b
 obtain ⟨hfs,hr1,hr2⟩:=(BG b).1 hf
 have hos:=An.1 ((Dz b).1 hop)
 refine ZD 72 Tryz.func150 (ar (iA (YK b) fun b1=>iA [nl,.i 0] fun b2=>ie (ar (iL (Zi []) 0 5 fun v1=>Z1 (ar (iL (Zi []) 0 5 fun v2=>?_))))))
 refine Z1 (Y0 (ab 0 (Y1 (fun fz gz m F h=>∃(k:Nat) (xs:List Z4) (v:Value) (rn:List Z4) (u:Value) (z0:Nat),(k<=b.steps.length)/\(CL ds nf mm xs (YI (b.steps.take k)) z0)/\(z0+2*rn.length<=Y3 (b.steps.take k))/\(GR (mm+(YI (b.steps.take k))) rn)/\F=sF [1,2] fz [(3,YG xs v),(4,YG rn u),(5,.i k)]/\h=[Za gz 2,Za gz 3,.tail u 5,.tail v 5]/\m=b.steps.length-k) _ _ _ ⟨0,[],v1,[],v2,0,ob,CL.nil,(by simp [Y3]),(fun s hs=>by cases hs),rfl,rfl,rfl⟩ (wk [2,2,0,0] (fw (Yd fl))) ?_)))
 rintro m F h ⟨k,xs,v,rn,u,z0,Yf,Zj,Zp,YA,rfl,rfl,rfl⟩
 refine Y7 3 [1] (iw (WA b.steps) (ZQ ((k:Int)<(b.steps.length:Int)) (fun Z9=>?_) (fun Z9=>?_)))
 ·refine ak (aq (ab 1 (Zo 3 [1] ?_)))
  obtain ⟨x1,Z5⟩:=Zq b.steps k om
  have X5:=Bj Z5
  have hfS:=(CZ x1).1 (BI hfs Z5)
  have hoS:=(C7 x1).1 (hos x1 (ZW Z5))
  have htk:=Gr Z5
  have htl:=Q0 b.steps (k+1)
  have hse:=(x1).sz_eq
  have hdt:=HB Z5
  have hxl:=Zj.len
  have hkl2:=CH (x1).kids
  refine Zm (Zh none (k:Int) 5 (XR Z5)) (Z2 1 (iA [.i 0,.i 0,.i 0,nl,nl] fun b3=>ZA 0 b3 (Xg x1) (ie (Zo 1 [0] (Zv [] (MJ x1) (ie (ac ((x1.op==14)||(x1.op==15)) (p:=(x1.op=14)∨(x1.op=15)) (Xu ZB ZB) (fun Zg=>?_) (fun Zg=>?_))))))))
  ·refine az (ZV 2 [0] (VD [Yp x1] (Zi [x1]) (WM [x1]).symm 1 5 fun v3=>ZE 0 [(27,Wo [x1])] (ip 4 (Zi (rn++[x1])) (Zi rn) (Zi [x1]) u none 5 (YX _) (YX _) (V2 _) (by simp<;>omega) (by simp [Wi,Zi]) fun v4=>Z1 (az (Z2 1 (ZF k (Z1 ?_)))))))
   obtain ⟨⟨pa,hpa,hpr⟩,Yc,hpc⟩:=hfS.pair (by assumption)
   rw [Zw hpc,JM] at hdt
   exact ZI ⟨k+1,xs,v,(rn++[x1]),v4,_,ob,(by rw [hdt];exact Zj),(by rw [htk];simp only [Yk,YD,X6];omega),(by rw [hdt];exact Xb YA ⟨pa,hpa,hpr⟩),rfl,rfl,rfl⟩ (wk [3,3,0,2] (fw (ZL k fl)))
  refine ar (ZE 2 [(30,Wo rn)] (ic [] (Ij rn (hrn:=(fun s hs=>(YA s hs).elim fun a h=>⟨a,h.1⟩))) ?_))
  rintro _ _ ⟨D1,R1,v5,rfl,rfl,ZX⟩
  have hsr:=ZX
  have hq1:=Zj.run YA hsr.2.1 hsr.2.2
  have hl1:=Zj.len
  have htl1:=Q0 b.steps k
  refine ZE 0 [(31,Wo (D1.map (Zl 14)++R1.map (Zl 15)))] (ip 5 (Zi (xs++(D1.map (Zl 14)++R1.map (Zl 15)))) (Zi xs) (Zi (D1.map (Zl 14)++R1.map (Zl 15))) v none 5 (YX _) (YX _) (V2 _) (by simp<;>omega) (by simp [Wi,Zi]) fun v6=>Z1 (ar (iL (Zi []) 0 5 fun v7=>Z1 (ar (iL (Ys []) 0 2 fun v8=>?_)))))
  refine Z1 (Y0 (ab 2 (Y1 (fun fz gz m F h=>∃(j:Nat) (ks:List Z3) (w:Value) (v3:Value) (u4:Value),(j<=x1.kids.length)/\(ks.length=j)/\(KK ds nf (VH ds x1.op x1.num (mm+(YI (b.steps.take k)))) ks (YH (x1.kids.take j)))/\F=sF [1,2,5,6] fz [(3,YG (xs++(D1.map (Zl 14)++R1.map (Zl 15))) v3),(4,YG [] u4),(7,U7 ks w),(8,.i j)]/\h=[Za gz 4,Za gz 5,Za gz 6,.tail u4 5,.tail v3 5,.tail w 2]/\m=x1.kids.length-j) _ _ _ ⟨0,[],v8,v6,v7,ob,ob,(KK.nil.le (Uv _)),rfl,rfl,rfl⟩ (wk [4,4,4,1,1,0] (fw (fr (Yd fl)))) ?_)))
  rintro m F h ⟨j,ks,w,v3,u4,VX,Wh,Xm,rfl,rfl,rfl⟩
  refine Y7 3 [0] (iw (Vi x1.kids) (ZQ ((j:Int)<(x1.kids.length:Int)) (fun ZK=>?_) (fun ZK=>?_)))
  ·refine ak (aq (ab 3 (az (ZV 4 [0] ?_))))
   obtain ⟨x2,Zu⟩:=Zq x1.kids j om
   have hkz:=VP Zu
   have hfk:=BH hfS.kids Zu
   rw [Wt] at hfk
   have hok:=B8.1 hoS.2 x2 (ZW Zu)
   have hbt:=CI Zu
   refine Zm (Zh none (j:Int) 2 (Vu Zu)) (Z2 1 (ic [] (ih x2 (VH ds x1.op x1.num (mm+(YI (b.steps.take k))) j) hfk hok ob ob) ?_))
   rintro _ _ ⟨y1,rfl,rfl,Yc⟩
   have hkb:=Yc
   exact VD [ZC y1] (Ys [y1]) (VY [y1]).symm 1 2 fun v9=>ZE 0 [(49,XF [y1])] (ip 6 (Ys (ks++[y1])) (Ys ks) (Ys [y1]) w none 2 (Uz _) (Uz _) (CR _) (by simp<;>omega) (by simp [KC,Ys]) fun v10=>Z1 (az (Z2 1 (ZF j (Z1 (ZI ⟨j+1,(ks++[y1]),v10,v3,u4,ob,ob,((Xm.snoc Wh hkb).le om),rfl,rfl,rfl⟩ (wk [2,2,2,2,2,0] (fw (fr (ZL j fl))))))))))
  refine ax 2 (aE 15 (ZG 5 15 [0,1,2,3,4,5,6,7,8,10] [0,0,0,0] (Z8 9 (dc 9 [] [0,0,0] [b3,b3,b3] (Vp x1.args) ?_))))
  rintro _ _ ⟨v11,rfl,rfl⟩
  refine Yh 3 4 [11] [(62,.agg [.i x1.op,.i x1.num,.i x1.into,Z6 x1.args,XF ks])] (Z8 12 (W5 12 [] [] [Yp (Z4.mk x1.op x1.num x1.into x1.args ks)] (Zi [Z4.mk x1.op x1.num x1.into x1.args ks]) (WM [Z4.mk x1.op x1.num x1.into x1.args ks]).symm 1 5 fun v12=>Yh 2 2 [] [(63,Wo [Z4.mk x1.op x1.num x1.into x1.args ks])] (Z8 13 (dp 13 6 [] [] (Zi ((xs++(D1.map (Zl 14)++R1.map (Zl 15)))++[Z4.mk x1.op x1.num x1.into x1.args ks])) (Zi (xs++(D1.map (Zl 14)++R1.map (Zl 15)))) (Zi [Z4.mk x1.op x1.num x1.into x1.args ks]) v3 none 5 (YX _) (YX _) (V2 _) (by simp<;>omega) (by simp [Wi,Zi]) fun v13=>Zk 0 1 [14] (de (az (Z2 1 (ZF k (Z1 ?_)))))))))
  obtain ⟨hn1,hn2⟩:=hfS.not_pair (by assumption) hoS.1
  rw [Zr (by rw [hn2];simp)] at hdt
  have hbj:=Ey (xs:=x1.kids) (k:=j) om
  have hkt:=KT.eq hfS hn1 om Xm
  have hq2:=hq1.kt hkt
  exact ZI ⟨k+1,((xs++(D1.map (Zl 14)++R1.map (Zl 15)))++[Z4.mk x1.op x1.num x1.into x1.args ks]),v13,[],u4,_,ob,(by rw [hdt];exact hq2),(by rw [htk];simp only [X6];omega),(fun s hs=>by cases hs),rfl,rfl,rfl⟩ (wk [4,4,4,0] (fw (ZL k fl)))
 have htl2:=Q0 b.steps k
 have hxl2:=Zj.len
 refine ax 0 (aD 8 (BB 4 8 [0,1,4,5] [(66,Wo rn)] [1] (Z8 2 (dc 2 [] [1] [b1] (Ij rn (hrn:=(fun s hs=>(YA s hs).elim fun a h=>⟨a,h.1⟩))) ?_))))
 rintro _ _ ⟨D2,R2,v14,rfl,rfl,YM⟩
 have hsr:=YM
 have hq1:=Zj.run YA hsr.2.1 hsr.2.2
 have hl1:=Zj.len
 have htl1:=Q0 b.steps k
 exact Yh 3 3 [] [(67,Wo (D2.map (Zl 14)++R2.map (Zl 15)))] (Z8 3 (dp 3 4 [1] [b1] (Zi (xs++(D2.map (Zl 14)++R2.map (Zl 15)))) (Zi xs) (Zi (D2.map (Zl 14)++R2.map (Zl 15))) v none 5 (YX _) (YX _) (V2 _) (by simp<;>omega) (by simp [Wi,Zi]) fun v15=>Zk 1 2 [6] (Z8 7 (Yy 7 2 [] [] b2 [YG (xs++(D2.map (Zl 14)++R2.map (Zl 15))) v15,.i b.result] (de (ZJ (r3 [] [.agg [YG (xs++(D2.map (Zl 14)++R2.map (Zl 15))) v15,.i b.result]] [0] [(b2,b2)] ⟨(Z3.mk (xs++(D2.map (Zl 14)++R2.map (Zl 15))) b.result),rfl,rfl,(by have e:b.steps.take k=b.steps:=WS om;rw [e] at Zp hq1;exact (hq1.block ⟨hr1,hr2⟩).le om)⟩ (Zd.agg (.cons (Zd.forget _ _) (.cons (lr _) .nil))))))))))
theorem R7 (ds:List Zc) (nf:Nat) (b:Z3) (mm:Nat) (hf:fB ds nf mm b:=by exact ob) (hop:WD WL b:=by exact ob) (hz:b.sz<=100000000:=by exact ob):Zf 150 [ZC b] [] (fun r h=>∃(y:Z3),r=ZC y/\h=[]/\KB ds nf mm y b.sz):=by
 have key:∀k:Nat,∀(b2:Z3) (m2:Nat),(fB ds nf m2 b2)->(WD WL b2)->(b2.sz<=100000000)->(b2.sz<k)->Zf 150 [ZC b2] [] (fun r h=>∃(y:Z3),r=ZC y/\h=[]/\KB ds nf m2 y b2.sz):=by
  intro k
  induction k with
  | zero=>intro b2 m2 h1 h2 h3 h9;omega
  | succ k ih=>intro b2 m2 h1 h2 h3 h9;exact R8 ds nf b2 m2 h1 h2 h3 fun b3 m3 q1 q2 q3 q9=>ih b3 m3 q1 q2 q3 om
 exact key (b.sz+1) b mm hf hop hz om
theorem R9 (n:Zx) (qz:Nat) (hn:FO n qz WL:=by exact ob) (hqz:qz<=10000000:=by exact ob):Zf 117 [Yl n] [] (fun r h=>∃(n2:Zx),r=Yl n2/\h=[]/\FO n2 qz WL):=by
 have hnl:=hn.fn.len
 have XB:=hn.fn.decls.ok
 have hok:=hn.fn.ok
 refine ZD 36 Tryz.func117 (ar (iA (YN n) fun b1=>iA [nl,nl] fun b2=>ie (Zo 2 [1] (Zv [] (Ar n.decls) (iL (Yx []) 0 5 fun v1=>Z2 1 (iA [nl,nl] fun b3=>?_))))))
 refine ZA 0 b3 [YL n.decls,W6 [] v1] (ie (Y0 (ab 0 (Y1 (fun fz gz m F h=>∃(k:Nat) (rs:List Y8) (u:Value),(k<=n.routines.length)/\(rs.length=k)/\(∀r∈rs,RF n.decls n.routines.length qz WL r)/\F=sF [1,2,3] fz [(4,.i k)]/\h=[.obj b3 [YL n.decls,W6 rs u],Za gz 2,Za gz 3,.tail u 5]/\m=n.routines.length-k) _ _ _ ⟨0,[],v1,ob,ob,(fun r hr=>by cases hr),rfl,rfl,rfl⟩ (wk [0,1,1,0] (Yd fl)) ?_))))
 rintro m F h ⟨k,rs,u,Yf,Zj,Zp,rfl,rfl,rfl⟩
 refine Y7 3 [2] (iw (Uo n.routines) (ZQ ((k:Int)<(n.routines.length:Int)) (fun Z9=>?_) (fun Z9=>?_)))
 ·refine ak (aq (ab 1 (aE 19 (ZG 14 19 [0,1,2,3,4] [0,2] ?_))))
  obtain ⟨x1,Z5⟩:=Zq n.routines k om
  have hrf:=hn.rf (ZW Z5)
  have hrp:(x1).params.length<=3:=(Uh.bd (f:=⟨(x1).params,(x1).result,default⟩) hrf.sig).1
  have hrl:=hrf.lent.1
  have hrz:=hrf.body.2
  refine dx 5 (Zh none (k:Int) 5 (Wz Z5)) (ZG 9 13 [6,7,8,9] [2] (dx 10 (Zh none (k:Int) 5 (Wz Z5)) (Zk 6 8 [11,12] (Z8 13 (dc 13 [] [2,0] [b1,b3] (R7 n.decls n.routines.length x1.body _ (hf:=hrf.body.1) (hop:=hrf.op)) ?_)))))
  rintro _ _ ⟨y1,rfl,rfl,ZX⟩
  have hkb0:=ZX
  have hkb:=hkb0.le (z2:=qz) hrz
  exact Z8 14 (Yo 14 [] [0] [b3] (Bi x1 y1 (hp:=om) (hl:=om)) (Z8 15 (dL 15 [0] [b3] (Yx [Y8.mk x1.params x1.lent x1.result y1]) 1 5 fun v2=>Yh 3 3 [] [(32,TV [Y8.mk x1.params x1.lent x1.result y1])] (Z8 16 (dp 16 4 [] [] (Yx (rs++[Y8.mk x1.params x1.lent x1.result y1])) (Yx rs) (Yx [Y8.mk x1.params x1.lent x1.result y1]) u none 5 (VN _) (VN _) (Jk _) (by simp<;>omega) (by simp [A1,Yx]) fun v3=>Zk 1 2 [17] (Z8 18 (Yy 18 2 [] [] b3 [YL n.decls,W6 (rs++[Y8.mk x1.params x1.lent x1.result y1]) v3] (de (az (Z2 1 (ZF k (Z1 (ZI ⟨k+1,(rs++[Y8.mk x1.params x1.lent x1.result y1]),v3,ob,ob,(Xb Zp (hrf.with hkb.fb hkb.sz hkb.op)),rfl,rfl,rfl⟩ (wk [0,2,2,0] (ZL k fl)))))))))))))))
 exact ax 0 (Zo 1 [0] (ZA 1 b2 [YL n.decls,W6 rs u] (ie (ZJ (r3 [] [.agg [YL n.decls,W6 rs u]] [0] [(b2,b2)] ⟨(Zx.mk n.decls rs),rfl,rfl,(FO.fin hn.fn om Zp).1⟩ (Zd.agg (.cons (lr _) (.cons (Zd.forget _ _) .nil))))))))
theorem IZ (b:Nat) (ga:Hd) (gb:Hd) (gc:Hd) (gd:Hd) (ge:Hd) (gf:Hd) (n:Zx) (s:Z4) (L:Zy) (ln:LI) (q:Int) (i:Nat) (kb0:Z3) (m:LI) (hn:Xh n:=by exact ob) (hk:Xk n.decls L q:=by exact ob) (hf:JR n L.vars s:=by exact ob) (hop:s.op=7∨s.op=8:=by exact ob) (hkb:s.kids[i]? = some kb0:=by exact ob) (harm:(XD n.decls s.op s.num)[i]? = some m:=by exact ob) (hbt:0<=XK n (L.vars++m) kb0:=by exact ob) (hb:L.vars.length+4*s.sz<=1000000000:=by exact ob) (hq:0<=q/\q+4*s.sz<=999999990:=by exact ob) (hln:ln.length<=4294967296:=by exact ob) (ih:∀(b2:Z3) (c:Nat) (ra:Hd) (rb:Hd) (rc:Hd) (rd:Hd) (re:Hd) (rf:Hd) (M:Zy) (mm:Nat) (p:Int),(b2.sz<s.sz)->(Xk n.decls M p)->(0<=XK n M.vars b2)->(mm<=M.vars.length)->(M.vars.length+4*b2.sz<=1000000000)->(0<=p/\p+4*b2.sz<=999999990)->Zf 129 [.p c 0,Yl n,ZC b2,.i mm] [.obj c [.h ra,.h rb,.h rc,.h rd,.h re,.h rf,Z6 ln],rV ra M.vars,rV rb M.own,rV rc M.par,rV rd M.con,rV re M.fst,rV rf M.tok] (fun r h=>(∃(wa:Hd) (wb:Hd) (wc:Hd) (wd:Hd) (we:Hd) (wf:Hd) (M':Zy),r=.b true/\h=[.obj c [.h wa,.h wb,.h wc,.h wd,.h we,.h wf,Z6 ln],rV wa M'.vars,rV wb M'.own,rV wc M'.par,rV wd M'.con,rV we M'.fst,rV wf M'.tok]/\Va n ln M mm b2=some M')∨(r=.b false/\h=[]/\Va n ln M mm b2=none))):Zf 218 [.p b 0,Yl n,Yp s,.i i] [.obj b [.h ga,.h gb,.h gc,.h gd,.h ge,.h gf,Z6 ln],rV ga L.vars,rV gb L.own,rV gc L.par,rV gd L.con,rV ge L.fst,rV gf L.tok] (fun r h=>(∃(c:Nat) (wa:Hd) (wb:Hd) (wc:Hd) (wd:Hd) (we:Hd) (wf:Hd) (L':Zy),r=.tup [.p c 0,.b true]/\h=[.obj c [.h wa,.h wb,.h wc,.h wd,.h we,.h wf,Z6 ln],rV wa L'.vars,rV wb L'.own,rV wc L'.par,rV wd L'.con,rV we L'.fst,rV wf L'.tok,.obj b [.h ga,.h gb,.h gc,.h gd,.h ge,.h gf,Z6 ln],rV ga L.vars,rV gb L.own,rV gc L.par,rV gd L.con,rV ge L.fst,rV gf L.tok]/\Va n ln (Us n.decls L s.op s.num s.args i) L.vars.length kb0=some L')∨(r=.tup [.any,.b false]/\h=[.obj b [.h ga,.h gb,.h gc,.h gd,.h ge,.h gf,Z6 ln],rV ga L.vars,rV gb L.own,rV gc L.par,rV gd L.con,rV ge L.fst,rV gf L.tok]/\Va n ln (Us n.decls L s.op s.num s.args i) L.vars.length kb0=none)):=by
 obtain ⟨e1,e2,e3,e4,e5⟩:=hk.len
 have XB:=hn.decls
 have hkz:=U6 s
 have haz:=T7 s
 have hK:=Dn hk hq.1 hf hop harm
 have hm3:=GZ XB harm
 have hkl:=(XC.1 hkb).1
 have hks:=VP hkb
 refine ZD 83 Tryz.func218 (ar (iA (YN n) fun b1=>iA (Xg s) fun b2=>Z1 (Zo 4 [2] (Zm (Au 3 ga L.vars) (Z1 (Yg 1 (ic [2,2,2,2,2,2,2] (Z0h b ga gb gc gd ge gf L ln (hlk:=hk.len)) ?_)))))))
 rintro _ _ ⟨c1,wa1,wb1,wc1,wd1,we1,wf1,rfl,rfl⟩
 refine Z1 (Xd (VG [14] (ac (s.op==8) ZB (fun Z9=>?_) (fun Z9=>?_))))
 ·obtain ⟨x,hxa⟩:=hf.one om
  have ha:s.args[0]? = some x:=by rw [hxa];rfl
  have hx:=hf.args x (by rw [hxa];simp)
  obtain ⟨cc,hcc,hmc⟩:=O9 Z9 harm
  have hal:=(XC.1 ha).1
  have hcl:=(XC.1 hcc).1
  have hm4:=hm3
  rw [hmc] at hm4
  refine Zo 4 [15,14] (ic [] (K9 n.decls s.num) ?_)
  rintro _ _ ⟨v1,rfl,rfl⟩
  refine Z2 1 (Zm (Zh (some v1) (i:Int) 1 (ZZ hcc)) (Z1 (Zo 3 [16] (Zv [] (TX n.decls cc) (Z1 (aD 11 (ZG 5 11 [0,1,2,3,4,5] [1,15] (dx 6 (Zh none 0 1 (ZZ ha)) (Zk 2 4 [7,8] (dx 9 (V6 5 wd1 L.con x x.toNat (hq:=rfl)) (Z8 10 (Ji 10 5 [] [] wd1 L.con x.toNat cc (de (aD 11 (ZG 5 11 [0,1,2,3,4,5] [2,15] (dx 6 (Zh none 0 1 (ZZ ha)) (Zk 2 4 [7,8] (dx 9 (V6 6 we1 L.fst x x.toNat (hq:=rfl)) (Z8 10 (Ji 10 6 [] [] we1 L.fst x.toNat (L.vars.length:Int) (de (Y9 (ab 0 (Y1 (fun fz gz m F h=>∃(k:Nat) (L3:Zy) (ka:Hd) (kb:Hd) (kc:Hd) (kd:Hd) (ke:Hd) (kf:Hd),(k<=(Y5 n.decls cc).length)/\(Ug L3)/\(L3.vars.length=L.vars.length+k)/\(A9 L3 x ((Y5 n.decls cc).drop k)=JU n.decls L x cc)/\F=sF [3,5,6,10,11,13] fz [(14,.i k)]/\h=[.obj c1 [.h ka,.h kb,.h kc,.h kd,.h ke,.h kf,Z6 ln],Za gz 8,Za gz 9,Za gz 10,Za gz 11,Za gz 12,Za gz 13,Za gz 14,Za gz 15,Za gz 16,rV ka L3.vars,rV kb L3.own,rV kc L3.par,rV kd L3.con,rV ke L3.fst,rV kf L3.tok]/\m=(Y5 n.decls cc).length-k) _ _ _ ⟨0,(Zy.mk L.vars L.own L.par (L.con.set x.toNat cc) (L.fst.set x.toNat (L.vars.length:Int)) L.tok),wa1,wb1,wc1,wd1,we1,wf1,ob,(Ug.arm hk.len),ob,(by rw [JU];rfl),rfl,rfl,rfl⟩ (wk [3,7,7,7,7,7,7,7,7,7,3,3,3,1,0,1] (Yd fl) (e:=(rc (rc (rc (rc (rc (rc (rc (rc (rc (rc (rv (xs:=L.vars) ob (rv (xs:=L.own) ob (rv (xs:=L.par) ob (rv (xs:=(L.con.set x.toNat cc)) ob (rv (xs:=(L.fst.set x.toNat (L.vars.length:Int))) ob (rv (xs:=L.tok) ob rz)))))))))))))))))) ?_))))))))))))))))))))))))
  rintro m F h ⟨k,L3,ka,kb,kc,kd,ke,kf,Yf,Zj,Zp,YA,rfl,rfl,rfl⟩
  refine X1 2 (io (.i (((Y5 n.decls cc).length:Nat):Int)) (.i (((Z7 (Y5 n.decls cc)).length:Nat):Int)) (li (by rw [Ye])) (ZQ ((k:Int)<(((Y5 n.decls cc).length:Nat):Int)) (fun Zg=>?_) (fun Zg=>?_)))
  ·refine ak (aq (ab 1 (aE 10 (Zk 7 10 [0,1,2] ?_))))
   obtain ⟨x1,Z5⟩:=Zq (Y5 n.decls cc) k om
   refine dx 3 (Zh none (k:Int) 1 (ZZ Z5)) (ZG 3 6 [4,5,6] [8] (dx 7 (Zh none 0 1 (ZZ ha)) (Zk 1 2 [8] (Z8 9 (dc 9 [0,9,9,9,9,9,9] [] [] (TT c1 ka kb kc kd ke kf L3 ln x1 0 x (hlk:=Zj)) ?_)))))
   rintro _ _ ⟨wa2,wb2,wc2,wd2,we2,wf2,rfl⟩
   exact de (az (Z2 1 (ZF k (Z1 (ZI ⟨k+1,(L3.grow x1 0 x),wa2,wb2,wc2,wd2,we2,wf2,ob,(Ug.grow Zj),(by simp [Zy.grow];omega),(by rw [Yn Z5,A9] at YA;exact YA),rfl,rfl,rfl⟩ (wk [0,6,6,6,6,6,6,6,6,6,0,0,0,0,0,0] (ZL k fl)))))))
  have hE:Us n.decls L s.op s.num s.args i=L3:=by rw [SX Z9 ha hcc,<-YA,Xz om];rfl
  refine ax 0 (aD 12 (ZG 6 12 [0,1,2,3,4,5] [9,8] (dx 6 (Zh none (i:Int) 2 (Vu hkb)) (Zk 3 5 [7,8] (Z8 9 (dc 9 [0,9,9,9,9,9,9] [] [] (ih kb0 c1 ka kb kc kd ke kf L3 L.vars.length q ob (by rw [<-hE];exact hK.1) (by rw [<-hE,hK.2];exact hbt) (by rw [<-hE,hK.2];simp) (by rw [<-hE,hK.2,Yk];omega) ob) ?_))))))
  rintro _ _ (⟨wa3,wb3,wc3,wd3,we3,wf3,M'1,rfl,rfl,ZX⟩|⟨rfl,rfl,Yc⟩)
  ·exact Zk 0 2 [10,11] (de (ZJ (r2 [0,0,0,0,0,0,0,0,0,0,0,0,0,0] [.p c1 0,.b true] (.inl ⟨c1,wa3,wb3,wc3,wd3,we3,wf3,M'1,rfl,rfl,(by rw [hE];exact ZX)⟩) (lr _))))
  exact Zk 0 2 [10,11] (de (ZJ (r2 [0,0,0,0,0,0,0] [.p c1 0,.b false] (.inr ⟨rfl,rfl,(by rw [hE];exact Yc)⟩) (Zd.tup (.cons (Zd.any _) (.cons (lr _) .nil))))))
 have hE:=SY (ds:=n.decls) (L:=L) (num:=s.num) (args:=s.args) (i:=i) Z9
 refine ak (aD 12 (ZG 6 12 [0,1,2,3,4,5] [15,14] (dx 6 (Zh none (i:Int) 2 (Vu hkb)) (Zk 3 5 [7,8] (Z8 9 (dc 9 [0,0,0,0,0,0,0] [] [] (ih kb0 c1 wa1 wb1 wc1 wd1 we1 wf1 L L.vars.length q ob (by rw [<-hE];exact hK.1) (by rw [<-hE,hK.2];exact hbt) (by rw [<-hE,hK.2];simp) (by rw [<-hE,hK.2,Yk];omega) ob) ?_))))))
 rintro _ _ (⟨wa4,wb4,wc4,wd4,we4,wf4,M'2,rfl,rfl,YM⟩|⟨rfl,rfl,YZ⟩)
 ·exact Zk 0 2 [10,11] (de (ZJ (r2 [0,0,0,0,0,0,0,0,0,0,0,0,0,0] [.p c1 0,.b true] (.inl ⟨c1,wa4,wb4,wc4,wd4,we4,wf4,M'2,rfl,rfl,(by rw [hE];exact YM)⟩) (lr _))))
 exact Zk 0 2 [10,11] (de (ZJ (r2 [0,0,0,0,0,0,0] [.p c1 0,.b false] (.inr ⟨rfl,rfl,(by rw [hE];exact YZ)⟩) (Zd.tup (.cons (Zd.any _) (.cons (lr _) .nil))))))
theorem Z0g (b:Nat) (ga:Hd) (gb:Hd) (gc:Hd) (gd:Hd) (ge:Hd) (gf:Hd) (n:Zx) (s:Z4) (L:Zy) (ln:LI) (q:Int) (hn:Xh n:=by exact ob) (hk:Xk n.decls L q:=by exact ob) (hf:JR n L.vars s:=by exact ob) (hop:s.op=7∨s.op=8:=by exact ob) (hb:L.vars.length+4*s.sz<=1000000000:=by exact ob) (hq:0<=q/\q+4*s.sz<=999999990:=by exact ob) (hln:ln.length<=4294967296:=by exact ob) (ih:∀(b2:Z3) (c:Nat) (ra:Hd) (rb:Hd) (rc:Hd) (rd:Hd) (re:Hd) (rf:Hd) (M:Zy) (mm:Nat) (p:Int),(b2.sz<s.sz)->(Xk n.decls M p)->(0<=XK n M.vars b2)->(mm<=M.vars.length)->(M.vars.length+4*b2.sz<=1000000000)->(0<=p/\p+4*b2.sz<=999999990)->Zf 129 [.p c 0,Yl n,ZC b2,.i mm] [.obj c [.h ra,.h rb,.h rc,.h rd,.h re,.h rf,Z6 ln],rV ra M.vars,rV rb M.own,rV rc M.par,rV rd M.con,rV re M.fst,rV rf M.tok] (fun r h=>(∃(wa:Hd) (wb:Hd) (wc:Hd) (wd:Hd) (we:Hd) (wf:Hd) (M':Zy),r=.b true/\h=[.obj c [.h wa,.h wb,.h wc,.h wd,.h we,.h wf,Z6 ln],rV wa M'.vars,rV wb M'.own,rV wc M'.par,rV wd M'.con,rV we M'.fst,rV wf M'.tok]/\Va n ln M mm b2=some M')∨(r=.b false/\h=[]/\Va n ln M mm b2=none))):Zf 167 [.p b 0,Yl n,Yp s] [.obj b [.h ga,.h gb,.h gc,.h gd,.h ge,.h gf,Z6 ln],rV ga L.vars,rV gb L.own,rV gc L.par,rV gd L.con,rV ge L.fst,rV gf L.tok] (fun r h=>(∃(wa:Hd) (wb:Hd) (wc:Hd) (wd:Hd) (we:Hd) (wf:Hd) (L':Zy),r=.b true/\h=[.obj b [.h wa,.h wb,.h wc,.h wd,.h we,.h wf,Z6 ln],rV wa L'.vars,rV wb L'.own,rV wc L'.par,rV wd L'.con,rV we L'.fst,rV wf L'.tok]/\JV n ln L s=some L')∨(r=.b false/\h=[]/\JV n ln L s=none)):=by
 obtain ⟨e1,e2,e3,e4,e5⟩:=hk.len
 have XB:=hn.decls
 have hkz:=U6 s
 have haz:=T7 s
 obtain ⟨hk1,hk2,hk3⟩:=hf.kids hop
 obtain ⟨kd,hkd⟩:=Zq s.kids 0 om
 obtain ⟨m0,hm0⟩:=Zq (XD n.decls s.op s.num) 0 om
 obtain ⟨x,hxa⟩:=hf.one om
 have ha:s.args[0]? = some x:=by rw [hxa];rfl
 have hx:=hf.args x (by rw [hxa];simp)
 have hgx:=KI ha
 have hal:=(XC.1 ha).1
 refine ZD 88 Tryz.func167 (ar (iA (YN n) fun b1=>iA (Xg s) fun b2=>Z1 (Xd (XN [0,4,5] [(23,.b ((s.op==8)&&(!VV L ln x)))] (fun gz=>[Za gz 2,Za gz 3,Za gz 4,Za gz 5,Za gz 6,Za gz 7,Za gz 8,Za gz 0,Za gz 1]) ?_ ?_))))
 ·refine ZV 4 [0] (ib (b:=(s.op==8)) 15 (fun Ze=>?_) (fun Ze=>?_))
  ·exact ZV 3 [0] (Zm (Zh none 0 1 (ZZ ha)) (Z2 1 (Zv [2,2,2,2,2,2,2] (Dq b ga gb gc gd ge gf L ln x (hlk:=hk.len) (hd:=hk.down)) (Z1 (ZT 9 (ZP (!VV L ln x) Ze fl))))))
  exact Z1 (wk [2,2,2,2,2,2,2,0,0] (ZP false Ze fl))
 refine ac ((s.op==8)&&(!VV L ln x)) (p:=(s.op=8)/\(¬(VV L ln x=true))) (Xr ZB (Xi Iff.rfl)) (fun Z9=>?_) (fun Z9=>?_)
 ·exact ar (Zt (r1 [] (.inr ⟨rfl,rfl,(by rw [JV,Zw (by rw [hgx];exact Z9)])⟩)))
 have hgo:=OA (n:=n) (ln:=ln) (L:=L) (s:=s) (by rw [hgx];exact Z9) hkd
 refine ak (Zo 3 [8,7] (ic [0,0,0,0,0,0,0] (IZ b ga gb gc gd ge gf n s L ln q 0 kd m0 (hkb:=hkd) (harm:=hm0) (hbt:=(hk3 0 kd m0 hkd hm0)) (ih:=ob)) ?_))
 rintro _ _ (⟨c1,wa1,wb1,wc1,wd1,we1,wf1,L'1,rfl,rfl,YM⟩|⟨rfl,rfl,YZ⟩)
 ·have hone:=YM
  obtain ⟨l1,l2⟩:=IT hn hk hq.1 hf hop hkd hm0 (hk3 0 kd m0 hkd hm0) hone
  refine Z1 (Y0 (Wx (ak (Y0 (ab 0 (Y1 (fun fz gz m F h=>∃(k:Nat),(1<=k/\k<=s.kids.length)/\(QA n ln L s.op s.num s.args L'1 (s.kids.drop k) k=QA n ln L s.op s.num s.args L'1 (s.kids.drop 1) 1)/\F=sF [0,4,5,7] fz [(9,.i k)]/\h=gz/\m=s.kids.length-k) _ _ _ ⟨1,ob,ob,rfl,rfl,rfl⟩ (ZT 16 (fc (x:=.i 1) li fl)) ?_))))))
  rintro m F h ⟨k,Yf,Zj,rfl,rfl,rfl⟩
  refine Y7 3 [14] (iw (Vi s.kids) (ZQ ((k:Int)<(s.kids.length:Int)) (fun Zg=>?_) (fun Zg=>?_)))
  ·obtain ⟨ke,hke⟩:=Zq s.kids k om
   obtain ⟨mk,hmk⟩:=Zq (XD n.decls s.op s.num) k om
   have hcs:=Z03 (n:=n) (ln:=ln) (L:=L) (op:=s.op) (num:=s.num) (args:=s.args) (one:=L'1) hke
   refine ak (aq (ab 1 (Zo 4 [15,14] (ic [7,7,7,7,7,7,7] (IZ b ga gb gc gd ge gf n s L ln q k ke mk (hkb:=hke) (harm:=hmk) (hbt:=(hk3 k ke mk hke hmk)) (ih:=ob)) ?_))))
   rintro _ _ (⟨c2,wa2,wb2,wc2,wd2,we2,wf2,L'2,rfl,rfl,X7⟩|⟨rfl,rfl,XX⟩)
   ·have htwo:=X7
    obtain ⟨l3,l4⟩:=IT hn hk hq.1 hf hop hke hmk (hk3 k ke mk hke hmk) htwo
    refine Z1 (aD 26 (ZG 15 26 [0,1,2,3,4,5,6,7,8,9,10] [14,0] (Z8 11 (QT 11 [16,2] [] [] [rV wb1 L'1.own,rV wb2 L'2.own] (ML L'1.own L'2.own) CM (gL (v:=wb1) 0 (gL (v:=wb2) 1 gN)) (TU (TU QC)) ?_))))
    rintro _ _ ⟨rfl,rfl⟩
    refine AM [0,4,5,7,9] [(73,.b ((!(decide (L'1.own=L'2.own)))||(!(decide (L'1.tok=L'2.tok)))))] (fun gz=>gz) ?_ ?_
    ·refine Zk 11 14 [12,13,14] (db (b:=(!(decide (L'1.own=L'2.own)))) 62 (fun ZU=>?_) (fun ZU=>?_))
     ·exact Zk 0 11 [15,16,17,18,19,20,21,22,23,24,25] (de (ZT 23 (ZP true ZU fl)))
     refine ZG 3 11 [15,16,17,18,19,20,21,22] [15,2] (Z8 23 (QT 23 [20,7] [] [] [rV wf1 L'1.tok,rV wf2 L'2.tok] (ML L'1.tok L'2.tok) CM (gL (v:=wf1) 0 (gL (v:=wf2) 1 gN)) (TU (TU QC)) ?_))
     rintro _ _ ⟨rfl,rfl⟩
     exact Zk 0 2 [24,25] (de (wk [2,2,2,2,2,2,2,1,1,1,1,1,1,1,1,1,1,1,1,1,0,0,0] (ZP (!(decide (L'1.tok=L'2.tok))) ZU fl)))
    refine ac ((!(decide (L'1.own=L'2.own)))||(!(decide (L'1.tok=L'2.tok)))) (p:=(¬(L'1.own=L'2.own))∨(¬(L'1.tok=L'2.tok))) (Xu (Xi dq) (Xi dq)) (fun ZK=>?_) (fun ZK=>?_)
    ·exact ar (Zt (r1 [] (.inr ⟨rfl,rfl,(by rw [hgo,hone];exact La (by rw [<-Zj,hcs,htwo];exact Z2z ZK))⟩)))
    exact ak (az (Z2 1 (ZF k (Z1 (ZI ⟨k+1,ob,(by rw [hcs,htwo,Z30 ZK] at Zj;exact Zj),rfl,rfl,rfl⟩ (wk [15,15,0,14,14,14,14,7,7,7,7,7,7,7,7,7] (ZL k fl)))))))
   have htwo:=XX
   exact Z1 (aD 26 (Zk 0 26 [0,1,2,3,4,5,6,7,8,9,10,11,12,13,14,15,16,17,18,19,20,21,22,23,24,25] (de (Vh (ar (Zt (r1 [] (.inr ⟨rfl,rfl,(by rw [hgo,hone];exact La (by rw [<-Zj,hcs,htwo];rfl))⟩))))))))
  have hE:QA n ln L s.op s.num s.args L'1 (s.kids.drop 1) 1=true:=by rw [<-Zj,Xz om,QA]
  exact ax 0 (Zo 7 [0] (ZA 7 b [.h ga,.h wb1,.h gc,.h gd,.h ge,.h gf,Z6 ln] (ie (Zo 7 [1] (ZA 0 b [.h ga,.h wb1,.h gc,.h gd,.h ge,.h wf1,Z6 ln] (ie (ar (Zt (r1 [0,7,2,7,7,7,5] (.inl ⟨ga,wb1,gc,gd,ge,wf1,(Zy.mk L.vars L'1.own L.par L.con L.fst L'1.tok),rfl,rfl,(by rw [hgo,hone];exact Z0u hE)⟩) (eq:=(rc (rv (xs:=L.vars) ob (rv (xs:=L'1.own) ob (rv (xs:=L.par) ob (rv (xs:=L.con) ob (rv (xs:=L.fst) ob (rv (xs:=L'1.tok) ob rz)))))))))))))))))
 have hone:=YZ
 exact Z1 (Y0 (Vh (ar (Zt (r1 [] (.inr ⟨rfl,rfl,(by rw [hgo,hone];rfl)⟩))))))
theorem L0 (b:Nat) (ga:Hd) (gb:Hd) (gc:Hd) (gd:Hd) (ge:Hd) (gf:Hd) (n:Zx) (s:Z4) (L:Zy) (ln:LI) (q:Int) (hn:Xh n:=by exact ob) (hk:Xk n.decls L q:=by exact ob) (ht:0<=YF n L.vars s:=by exact ob) (hb:L.vars.length+4*s.sz<=1000000000:=by exact ob) (hq:0<=q/\q+4*s.sz<=999999990:=by exact ob) (hln:ln.length<=4294967296:=by exact ob) (ih:∀(b2:Z3) (c:Nat) (ra:Hd) (rb:Hd) (rc:Hd) (rd:Hd) (re:Hd) (rf:Hd) (M:Zy) (mm:Nat) (p:Int),(b2.sz<s.sz)->(Xk n.decls M p)->(0<=XK n M.vars b2)->(mm<=M.vars.length)->(M.vars.length+4*b2.sz<=1000000000)->(0<=p/\p+4*b2.sz<=999999990)->Zf 129 [.p c 0,Yl n,ZC b2,.i mm] [.obj c [.h ra,.h rb,.h rc,.h rd,.h re,.h rf,Z6 ln],rV ra M.vars,rV rb M.own,rV rc M.par,rV rd M.con,rV re M.fst,rV rf M.tok] (fun r h=>(∃(wa:Hd) (wb:Hd) (wc:Hd) (wd:Hd) (we:Hd) (wf:Hd) (M':Zy),r=.b true/\h=[.obj c [.h wa,.h wb,.h wc,.h wd,.h we,.h wf,Z6 ln],rV wa M'.vars,rV wb M'.own,rV wc M'.par,rV wd M'.con,rV we M'.fst,rV wf M'.tok]/\Va n ln M mm b2=some M')∨(r=.b false/\h=[]/\Va n ln M mm b2=none))):Zf 126 [.p b 0,Yl n,Yp s] [.obj b [.h ga,.h gb,.h gc,.h gd,.h ge,.h gf,Z6 ln],rV ga L.vars,rV gb L.own,rV gc L.par,rV gd L.con,rV ge L.fst,rV gf L.tok] (fun r h=>(∃(wa:Hd) (wb:Hd) (wc:Hd) (wd:Hd) (we:Hd) (wf:Hd) (L':Zy),r=.b true/\h=[.obj b [.h wa,.h wb,.h wc,.h wd,.h we,.h wf,Z6 ln],rV wa L'.vars,rV wb L'.own,rV wc L'.par,rV wd L'.con,rV we L'.fst,rV wf L'.tok]/\Tm n ln L s=some L')∨(r=.b false/\h=[]/\Tm n ln L s=none)):=by
 obtain ⟨e1,e2,e3,e4,e5⟩:=hk.len
 have XB:=hn.decls
 have hkz:=U6 s
 have haz:=T7 s
 have hf:=MX ht
 refine ZD 89 Tryz.func126 (ar (iA (YN n) fun b1=>iA (Xg s) fun b2=>Z1 (aD 8 (ZG 2 8 [0,1,2,3,4,5] [1,2,0] (Z8 6 (QT 6 [3] [] [] [rV ga L.vars] (Gn n L.vars s ob ob) CM (gS (gL (v:=ga) 0 (gS gN))) (TU QC) ?_))))))
 rintro _ _ ⟨rfl,rfl⟩
 refine Zk 0 1 [7] (de (Y9 (Xd (VG [1] (ab 0 (ar (YR (s.op==14) ZB (fun Z9=>?_) (fun Z9=>?_))))))))
 ·obtain ⟨x,hxa⟩:=hf.one om
  have ha:s.args[0]? = some x:=by rw [hxa];rfl
  have hx:=hf.args x (by rw [hxa];simp)
  have hgx:=KI ha
  have hal:=(XC.1 ha).1
  obtain ⟨xo,hxo⟩:=Zq L.own x.toNat om
  have hgo:=UO hxo
  have hob:=hk.bd xo (ZW hxo)
  have hon:=hk.nn xo (ZW hxo)
  refine Zo 3 [1] (Zm (Zh none 0 1 (ZZ ha)) (Z2 1 (Zv [3,0,2,2,2,2,2] (Dq b ga gb gc gd ge gf L ln x (hlk:=hk.len) (hd:=hk.down)) (Z1 (aE 21 (ZG 15 21 [0,1,2,3,4,5] [0,7] (dx 6 (Zh none 0 1 (ZZ ha)) (ZG 7 14 [7,8,9,10,11,12,13] [0,7] (dx 14 (Zh none 0 1 (ZZ ha)) (Zk 5 6 [15] (dx 16 (V6 2 gb L.own x x.toNat (hq:=rfl)) (Vt 17 (T1 2 gb L.own x.toNat xo hxo) (da 18 ((xo+1)) ((xo)+(1)) (dx 19 (V6 2 gb L.own x x.toNat (hq:=rfl)) (Z8 20 (Ji 20 2 [] [] gb L.own x.toNat (xo+1) (de (Xd (YR (!VV L ln x) (p:=¬(VV L ln x=true)) (Xi Iff.rfl) (fun Zg=>?_) (fun Zg=>?_))))))))))))))))))))
  ·have hP:=(LF (n:=n) (ln:=ln) (L:=L) Z9 hgx).trans (Ph Zg)
   exact ar (Zt (r1 [] (.inr ⟨rfl,rfl,(by rw [Ua,hP];first|rfl|exact U2 (by assumption)|exact U3 (by assumption) (by assumption)|exact U4 (by assumption))⟩)))
  have hP:=(LF (n:=n) (ln:=ln) (L:=L) Z9 hgx).trans (Pi Zg hgo)
  obtain ⟨kx,hxv⟩:=Cb hn hk hq.1 hf hP
  refine ak (Y7 2 [7] (Zv [] (Qn s.op) (XN [0,5,7] [(80,.b (XE s.op&&((YF n L.vars s) != 0)))] (fun gz=>gz) ?_ ?_)))
  ·refine Z2 1 (ib (b:=XE s.op) 77 (fun Ze=>?_) (fun Ze=>?_))
   ·exact Z1 (ZT 9 (ZP ((YF n L.vars s) != 0) Ze fl))
   exact Z1 (ZT 9 (ZP false Ze fl))
  refine ac (XE s.op&&((YF n L.vars s) != 0)) (p:=(XE s.op=true)/\((YF n L.vars s)≠0)) (Xr Iff.rfl Xa) (fun ZK=>?_) (fun ZK=>?_)
  ·refine az (Z2 2 (ic [1,1,0,0,0,0,0] (TT b ga gb gc gd ge gf (Zy.mk L.vars (L.own.set x.toNat (xo+1)) L.par L.con L.fst L.tok) ln (YF n L.vars s) 1 (-1) (hlb:=(by rw [hxv];omega)) (hlk:=kx.len)) ?_))
   rintro _ _ ⟨wa1,wb1,wc1,wd1,we1,wf1,rfl⟩
   exact ie (ar (Zt (r1 [0,0,0,0,0,0,0] (.inl ⟨wa1,wb1,wc1,wd1,we1,wf1,((Zy.mk L.vars (L.own.set x.toNat (xo+1)) L.par L.con L.fst L.tok).grow (YF n L.vars s) 1 (-1)),rfl,rfl,(by rw [Ua,hP];first|rfl|exact U2 (by assumption)|exact U3 (by assumption) (by assumption)|exact U4 (by assumption))⟩))))
  refine Zo 2 [7] (Zv [] (Qn s.op) (ie (ac (XE s.op) Iff.rfl (fun Yt=>?_) (fun Yt=>?_))))
  ·refine az (Z2 1 (ic [1,1,0,0,0,0,0] (TT b ga gb gc gd ge gf (Zy.mk L.vars (L.own.set x.toNat (xo+1)) L.par L.con L.fst L.tok) ln 0 0 (-1) (hlb:=(by rw [hxv];omega)) (hlk:=kx.len)) ?_))
   rintro _ _ ⟨wa2,wb2,wc2,wd2,we2,wf2,rfl⟩
   exact ie (ar (Zt (r1 [0,0,0,0,0,0,0] (.inl ⟨wa2,wb2,wc2,wd2,we2,wf2,((Zy.mk L.vars (L.own.set x.toNat (xo+1)) L.par L.con L.fst L.tok).grow 0 0 (-1)),rfl,rfl,(by rw [Ua,hP];first|rfl|exact U2 (by assumption)|exact U3 (by assumption) (by assumption)|exact U4 (by assumption))⟩))))
  exact ak (ar (Zt (r1 [1,1,0,0,0,0,0] (.inl ⟨ga,gb,gc,gd,ge,gf,(Zy.mk L.vars (L.own.set x.toNat (xo+1)) L.par L.con L.fst L.tok),rfl,rfl,(by rw [Ua,hP];first|rfl|exact U2 (by assumption)|exact U3 (by assumption) (by assumption)|exact U4 (by assumption))⟩) (eq:=(rc (rv (xs:=L.vars) ob (rv (xs:=(L.own.set x.toNat (xo+1))) ob (rv (xs:=L.par) ob (rv (xs:=L.con) ob (rv (xs:=L.fst) ob (rv (xs:=L.tok) ob rz)))))))))))
 refine ar (YR (s.op==15) ZB (fun XG=>?_) (fun XG=>?_))
 ·obtain ⟨x,hxa⟩:=hf.one om
  have ha:s.args[0]? = some x:=by rw [hxa];rfl
  have hx:=hf.args x (by rw [hxa];simp)
  have hgx:=KI ha
  have hal:=(XC.1 ha).1
  refine az (ZV 3 [1] (Zm (Zh none 0 1 (ZZ ha)) (Z2 1 (ic [3,0,2,2,2,2,2] (Dr b ga gb gc gd ge gf L ln x (hlk:=hk.len) (hq:=(fun y hy=>⟨hk.nn y hy,by have:=hk.bd y hy;omega⟩))) ?_))))
  rintro _ _ (⟨wa3,wb3,wc3,wd3,we3,wf3,L'1,rfl,rfl,YM⟩|⟨rfl,rfl,YZ⟩)
  ·have hP:=(LG (n:=n) (ln:=ln) (L:=L) XG hgx).trans (YM)
   obtain ⟨kx,hxv⟩:=Cb hn hk hq.1 hf hP
   refine Z1 (Y0 (Wx (ak (Y7 2 [7] (Zv [] (Qn s.op) (XN [0,5,7] [(80,.b (XE s.op&&((YF n L.vars s) != 0)))] (fun gz=>gz) ?_ ?_))))))
   ·refine Z2 1 (ib (b:=XE s.op) 77 (fun ZU=>?_) (fun ZU=>?_))
    ·exact Z1 (ZT 9 (ZP ((YF n L.vars s) != 0) ZU fl))
    exact Z1 (ZT 9 (ZP false ZU fl))
   refine ac (XE s.op&&((YF n L.vars s) != 0)) (p:=(XE s.op=true)/\((YF n L.vars s)≠0)) (Xr Iff.rfl Xa) (fun XH=>?_) (fun XH=>?_)
   ·refine az (Z2 2 (ic [0,0,0,0,0,0,0] (TT b wa3 wb3 wc3 wd3 we3 wf3 L'1 ln (YF n L.vars s) 1 (-1) (hlb:=(by rw [hxv];omega)) (hlk:=kx.len)) ?_))
    rintro _ _ ⟨wa4,wb4,wc4,wd4,we4,wf4,rfl⟩
    exact ie (ar (Zt (r1 [0,0,0,0,0,0,0] (.inl ⟨wa4,wb4,wc4,wd4,we4,wf4,(L'1.grow (YF n L.vars s) 1 (-1)),rfl,rfl,(by rw [Ua,hP];first|rfl|exact U2 (by assumption)|exact U3 (by assumption) (by assumption)|exact U4 (by assumption))⟩))))
   refine Zo 2 [7] (Zv [] (Qn s.op) (ie (ac (XE s.op) Iff.rfl (fun TS=>?_) (fun TS=>?_))))
   ·refine az (Z2 1 (ic [0,0,0,0,0,0,0] (TT b wa3 wb3 wc3 wd3 we3 wf3 L'1 ln 0 0 (-1) (hlb:=(by rw [hxv];omega)) (hlk:=kx.len)) ?_))
    rintro _ _ ⟨wa5,wb5,wc5,wd5,we5,wf5,rfl⟩
    exact ie (ar (Zt (r1 [0,0,0,0,0,0,0] (.inl ⟨wa5,wb5,wc5,wd5,we5,wf5,(L'1.grow 0 0 (-1)),rfl,rfl,(by rw [Ua,hP];first|rfl|exact U2 (by assumption)|exact U3 (by assumption) (by assumption)|exact U4 (by assumption))⟩))))
   exact ak (ar (Zt (r1 [0,0,0,0,0,0,0] (.inl ⟨wa3,wb3,wc3,wd3,we3,wf3,L'1,rfl,rfl,(by rw [Ua,hP];first|rfl|exact U2 (by assumption)|exact U3 (by assumption) (by assumption)|exact U4 (by assumption))⟩))))
  have hP:=(LG (n:=n) (ln:=ln) (L:=L) XG hgx).trans (YZ)
  exact Z1 (Y0 (Vh (ar (Zt (r1 [] (.inr ⟨rfl,rfl,(by rw [Ua,hP];first|rfl|exact U2 (by assumption)|exact U3 (by assumption) (by assumption)|exact U4 (by assumption))⟩))))))
 refine Y0 (XA (fun fz gz F h=>F=sF [0,4,5,7,17] fz [(58,.b ((s.op==16)||(s.op==17)))]/\h=gz) ?_ ?_)
 ·refine ac (s.op==16) ZB (fun Tb=>?_) (fun Tb=>?_)
  ·exact ak (ZH ⟨rfl,rfl⟩ (ZT 9 (fc (x:=.b (s.op==16)) (lb (by first|rfl|(rw [Zw Tb])|(rw [Zr Tb])|(simp [Tb];done)|(rw [Xl];simp [Tb];done)|omega)) fl)))
  exact UN (ZH ⟨rfl,rfl⟩ (ZT 9 (fc (x:=.b (s.op==17)) (lb (by first|rfl|(rw [Zw Tb])|(rw [Zr Tb])|(simp [Tb];done)|(rw [Xl];simp [Tb];done)|omega)) fl)))
 rintro F h ⟨rfl,rfl⟩
 refine ac ((s.op==16)||(s.op==17)) (p:=(s.op=16)∨(s.op=17)) (Xu ZB ZB) (fun UC=>?_) (fun UC=>?_)
 ·obtain ⟨x,hxa⟩:=hf.one om
  have ha:s.args[0]? = some x:=by rw [hxa];rfl
  have hx:=hf.args x (by rw [hxa];simp)
  have hgx:=KI ha
  have hal:=(XC.1 ha).1
  refine az (ZV 3 [2,1] (ic [3,0,2,2,2,2,2] (Z0j b ga gb gc gd ge gf n s L ln q x) ?_))
  rintro _ _ (⟨wa6,wb6,wc6,wd6,we6,wf6,L'2,rfl,rfl,Wu⟩|⟨rfl,rfl,V3⟩)
  ·have hP:=(LH (n:=n) (ln:=ln) (L:=L) UC hgx).trans (Wu)
   obtain ⟨kx,hxv⟩:=Cb hn hk hq.1 hf hP
   refine Z1 (Y0 (Wx (ak (Y7 2 [7] (Zv [] (Qn s.op) (XN [0,5,7] [(80,.b (XE s.op&&((YF n L.vars s) != 0)))] (fun gz=>gz) ?_ ?_))))))
   ·refine Z2 1 (ib (b:=XE s.op) 77 (fun X4=>?_) (fun X4=>?_))
    ·exact Z1 (ZT 9 (ZP ((YF n L.vars s) != 0) X4 fl))
    exact Z1 (ZT 9 (ZP false X4 fl))
   refine ac (XE s.op&&((YF n L.vars s) != 0)) (p:=(XE s.op=true)/\((YF n L.vars s)≠0)) (Xr Iff.rfl Xa) (fun BP=>?_) (fun BP=>?_)
   ·refine az (Z2 2 (ic [0,0,0,0,0,0,0] (TT b wa6 wb6 wc6 wd6 we6 wf6 L'2 ln (YF n L.vars s) 1 (-1) (hlb:=(by rw [hxv];omega)) (hlk:=kx.len)) ?_))
    rintro _ _ ⟨wa7,wb7,wc7,wd7,we7,wf7,rfl⟩
    exact ie (ar (Zt (r1 [0,0,0,0,0,0,0] (.inl ⟨wa7,wb7,wc7,wd7,we7,wf7,(L'2.grow (YF n L.vars s) 1 (-1)),rfl,rfl,(by rw [Ua,hP];first|rfl|exact U2 (by assumption)|exact U3 (by assumption) (by assumption)|exact U4 (by assumption))⟩))))
   refine Zo 2 [7] (Zv [] (Qn s.op) (ie (ac (XE s.op) Iff.rfl (fun BQ=>?_) (fun BQ=>?_))))
   ·refine az (Z2 1 (ic [0,0,0,0,0,0,0] (TT b wa6 wb6 wc6 wd6 we6 wf6 L'2 ln 0 0 (-1) (hlb:=(by rw [hxv];omega)) (hlk:=kx.len)) ?_))
    rintro _ _ ⟨wa8,wb8,wc8,wd8,we8,wf8,rfl⟩
    exact ie (ar (Zt (r1 [0,0,0,0,0,0,0] (.inl ⟨wa8,wb8,wc8,wd8,we8,wf8,(L'2.grow 0 0 (-1)),rfl,rfl,(by rw [Ua,hP];first|rfl|exact U2 (by assumption)|exact U3 (by assumption) (by assumption)|exact U4 (by assumption))⟩))))
   exact ak (ar (Zt (r1 [0,0,0,0,0,0,0] (.inl ⟨wa6,wb6,wc6,wd6,we6,wf6,L'2,rfl,rfl,(by rw [Ua,hP];first|rfl|exact U2 (by assumption)|exact U3 (by assumption) (by assumption)|exact U4 (by assumption))⟩))))
  have hP:=(LH (n:=n) (ln:=ln) (L:=L) UC hgx).trans (V3)
  exact Z1 (Y0 (Vh (ar (Zt (r1 [] (.inr ⟨rfl,rfl,(by rw [Ua,hP];first|rfl|exact U2 (by assumption)|exact U3 (by assumption) (by assumption)|exact U4 (by assumption))⟩))))))
 refine Y0 (XA (fun fz gz F h=>F=sF [0,4,5,7] fz [(65,.b ((s.op==7)||(s.op==8)))]/\h=gz) ?_ ?_)
 ·refine ac (s.op==7) ZB (fun Qw=>?_) (fun Qw=>?_)
  ·exact ak (ZH ⟨rfl,rfl⟩ (ZT 9 (fc (x:=.b (s.op==7)) (lb (by first|rfl|(rw [Zw Qw])|(rw [Zr Qw])|(simp [Qw];done)|(rw [Xl];simp [Qw];done)|omega)) fl)))
  exact UN (ZH ⟨rfl,rfl⟩ (ZT 9 (fc (x:=.b (s.op==8)) (lb (by first|rfl|(rw [Zw Qw])|(rw [Zr Qw])|(simp [Qw];done)|(rw [Xl];simp [Qw];done)|omega)) fl)))
 rintro F h ⟨rfl,rfl⟩
 refine ac ((s.op==7)||(s.op==8)) (p:=(s.op=7)∨(s.op=8)) (Xu ZB ZB) (fun Ab=>?_) (fun Ab=>?_)
 ·refine az (ZV 3 [2,1] (ic [3,0,2,2,2,2,2] (Z0g b ga gb gc gd ge gf n s L ln q (ih:=ob)) ?_))
  rintro _ _ (⟨wa9,wb9,wc9,wd9,we9,wf9,L'3,rfl,rfl,UU⟩|⟨rfl,rfl,UV⟩)
  ·have hP:=(LJ (n:=n) (ln:=ln) (L:=L) Ab).trans (UU)
   obtain ⟨kx,hxv⟩:=Cb hn hk hq.1 hf hP
   refine Z1 (Y0 (Wx (ak (Y7 2 [7] (Zv [] (Qn s.op) (XN [0,5,7] [(80,.b (XE s.op&&((YF n L.vars s) != 0)))] (fun gz=>gz) ?_ ?_))))))
   ·refine Z2 1 (ib (b:=XE s.op) 77 (fun Wd=>?_) (fun Wd=>?_))
    ·exact Z1 (ZT 9 (ZP ((YF n L.vars s) != 0) Wd fl))
    exact Z1 (ZT 9 (ZP false Wd fl))
   refine ac (XE s.op&&((YF n L.vars s) != 0)) (p:=(XE s.op=true)/\((YF n L.vars s)≠0)) (Xr Iff.rfl Xa) (fun Fo=>?_) (fun Fo=>?_)
   ·refine az (Z2 2 (ic [0,0,0,0,0,0,0] (TT b wa9 wb9 wc9 wd9 we9 wf9 L'3 ln (YF n L.vars s) 1 (-1) (hlb:=(by rw [hxv];omega)) (hlk:=kx.len)) ?_))
    rintro _ _ ⟨wa10,wb10,wc10,wd10,we10,wf10,rfl⟩
    exact ie (ar (Zt (r1 [0,0,0,0,0,0,0] (.inl ⟨wa10,wb10,wc10,wd10,we10,wf10,(L'3.grow (YF n L.vars s) 1 (-1)),rfl,rfl,(by rw [Ua,hP];first|rfl|exact U2 (by assumption)|exact U3 (by assumption) (by assumption)|exact U4 (by assumption))⟩))))
   refine Zo 2 [7] (Zv [] (Qn s.op) (ie (ac (XE s.op) Iff.rfl (fun Fp=>?_) (fun Fp=>?_))))
   ·refine az (Z2 1 (ic [0,0,0,0,0,0,0] (TT b wa9 wb9 wc9 wd9 we9 wf9 L'3 ln 0 0 (-1) (hlb:=(by rw [hxv];omega)) (hlk:=kx.len)) ?_))
    rintro _ _ ⟨wa11,wb11,wc11,wd11,we11,wf11,rfl⟩
    exact ie (ar (Zt (r1 [0,0,0,0,0,0,0] (.inl ⟨wa11,wb11,wc11,wd11,we11,wf11,(L'3.grow 0 0 (-1)),rfl,rfl,(by rw [Ua,hP];first|rfl|exact U2 (by assumption)|exact U3 (by assumption) (by assumption)|exact U4 (by assumption))⟩))))
   exact ak (ar (Zt (r1 [0,0,0,0,0,0,0] (.inl ⟨wa9,wb9,wc9,wd9,we9,wf9,L'3,rfl,rfl,(by rw [Ua,hP];first|rfl|exact U2 (by assumption)|exact U3 (by assumption) (by assumption)|exact U4 (by assumption))⟩))))
  have hP:=(LJ (n:=n) (ln:=ln) (L:=L) Ab).trans (UV)
  exact Z1 (Y0 (Vh (ar (Zt (r1 [] (.inr ⟨rfl,rfl,(by rw [Ua,hP];first|rfl|exact U2 (by assumption)|exact U3 (by assumption) (by assumption)|exact U4 (by assumption))⟩))))))
 refine az (ZV 3 [2,1] (ic [3,0,2,2,2,2,2] (Z0i b ga gb gc gd ge gf n s L ln q (hnum:=hf.num) (hargs:=hf.args) (hinto:=(fun q=>(hf.into om).2))) ?_))
 rintro _ _ (⟨wa12,wb12,wc12,wd12,we12,wf12,L'4,rfl,rfl,Jq⟩|⟨rfl,rfl,KQ⟩)
 ·have hP:=(LK (n:=n) (ln:=ln) (L:=L) Z9 XG UC Ab).trans (Jq)
  obtain ⟨kx,hxv⟩:=Cb hn hk hq.1 hf hP
  refine Z1 (Y0 (Wx (ak (Y7 2 [7] (Zv [] (Qn s.op) (XN [0,5,7] [(80,.b (XE s.op&&((YF n L.vars s) != 0)))] (fun gz=>gz) ?_ ?_))))))
  ·refine Z2 1 (ib (b:=XE s.op) 77 (fun Uj=>?_) (fun Uj=>?_))
   ·exact Z1 (ZT 9 (ZP ((YF n L.vars s) != 0) Uj fl))
   exact Z1 (ZT 9 (ZP false Uj fl))
  refine ac (XE s.op&&((YF n L.vars s) != 0)) (p:=(XE s.op=true)/\((YF n L.vars s)≠0)) (Xr Iff.rfl Xa) (fun Fq=>?_) (fun Fq=>?_)
  ·refine az (Z2 2 (ic [0,0,0,0,0,0,0] (TT b wa12 wb12 wc12 wd12 we12 wf12 L'4 ln (YF n L.vars s) 1 (-1) (hlb:=(by rw [hxv];omega)) (hlk:=kx.len)) ?_))
   rintro _ _ ⟨wa13,wb13,wc13,wd13,we13,wf13,rfl⟩
   exact ie (ar (Zt (r1 [0,0,0,0,0,0,0] (.inl ⟨wa13,wb13,wc13,wd13,we13,wf13,(L'4.grow (YF n L.vars s) 1 (-1)),rfl,rfl,(by rw [Ua,hP];first|rfl|exact U2 (by assumption)|exact U3 (by assumption) (by assumption)|exact U4 (by assumption))⟩))))
  refine Zo 2 [7] (Zv [] (Qn s.op) (ie (ac (XE s.op) Iff.rfl (fun Qx=>?_) (fun Qx=>?_))))
  ·refine az (Z2 1 (ic [0,0,0,0,0,0,0] (TT b wa12 wb12 wc12 wd12 we12 wf12 L'4 ln 0 0 (-1) (hlb:=(by rw [hxv];omega)) (hlk:=kx.len)) ?_))
   rintro _ _ ⟨wa14,wb14,wc14,wd14,we14,wf14,rfl⟩
   exact ie (ar (Zt (r1 [0,0,0,0,0,0,0] (.inl ⟨wa14,wb14,wc14,wd14,we14,wf14,(L'4.grow 0 0 (-1)),rfl,rfl,(by rw [Ua,hP];first|rfl|exact U2 (by assumption)|exact U3 (by assumption) (by assumption)|exact U4 (by assumption))⟩))))
  exact ak (ar (Zt (r1 [0,0,0,0,0,0,0] (.inl ⟨wa12,wb12,wc12,wd12,we12,wf12,L'4,rfl,rfl,(by rw [Ua,hP];first|rfl|exact U2 (by assumption)|exact U3 (by assumption) (by assumption)|exact U4 (by assumption))⟩))))
 have hP:=(LK (n:=n) (ln:=ln) (L:=L) Z9 XG UC Ab).trans (KQ)
 exact Z1 (Y0 (Vh (ar (Zt (r1 [] (.inr ⟨rfl,rfl,(by rw [Ua,hP];first|rfl|exact U2 (by assumption)|exact U3 (by assumption) (by assumption)|exact U4 (by assumption))⟩))))))
theorem Z0e (c:Nat) (ga:Hd) (gb:Hd) (gc:Hd) (gd:Hd) (ge:Hd) (gf:Hd) (n:Zx) (b:Z3) (L:Zy) (ln:LI) (q:Int) (mm:Nat) (hn:Xh n) (hk:Xk n.decls L q) (ht:0<=XK n L.vars b) (hm:mm<=L.vars.length) (hb:L.vars.length+4*b.sz<=1000000000) (hq:0<=q/\q+4*b.sz<=999999990) (hln:ln.length<=4294967296) (ih:∀(s2:Z4) (c:Nat) (ra:Hd) (rb:Hd) (rc:Hd) (rd:Hd) (re:Hd) (rf:Hd) (M:Zy) (p:Int),(s2.sz<b.sz)->(Xk n.decls M p)->(0<=YF n M.vars s2)->(M.vars.length+4*s2.sz<=1000000000)->(0<=p/\p+4*s2.sz<=999999990)->Zf 126 [.p c 0,Yl n,Yp s2] [.obj c [.h ra,.h rb,.h rc,.h rd,.h re,.h rf,Z6 ln],rV ra M.vars,rV rb M.own,rV rc M.par,rV rd M.con,rV re M.fst,rV rf M.tok] (fun r h=>(∃(wa:Hd) (wb:Hd) (wc:Hd) (wd:Hd) (we:Hd) (wf:Hd) (M':Zy),r=.b true/\h=[.obj c [.h wa,.h wb,.h wc,.h wd,.h we,.h wf,Z6 ln],rV wa M'.vars,rV wb M'.own,rV wc M'.par,rV wd M'.con,rV we M'.fst,rV wf M'.tok]/\Tm n ln M s2=some M')∨(r=.b false/\h=[]/\Tm n ln M s2=none))):Zf 129 [.p c 0,Yl n,ZC b,.i mm] [.obj c [.h ga,.h gb,.h gc,.h gd,.h ge,.h gf,Z6 ln],rV ga L.vars,rV gb L.own,rV gc L.par,rV gd L.con,rV ge L.fst,rV gf L.tok] (fun r h=>(∃(wa:Hd) (wb:Hd) (wc:Hd) (wd:Hd) (we:Hd) (wf:Hd) (L':Zy),r=.b true/\h=[.obj c [.h wa,.h wb,.h wc,.h wd,.h we,.h wf,Z6 ln],rV wa L'.vars,rV wb L'.own,rV wc L'.par,rV wd L'.con,rV we L'.fst,rV wf L'.tok]/\Va n ln L mm b=some L')∨(r=.b false/\h=[]/\Va n ln L mm b=none)):=by
 have hbz:=b.sz_eq
 obtain ⟨vs,rt,hvs,hres,hrt⟩:=H9 ht
 have hri:=AE hres
 have X5:=WR b
 refine ZD 45 Tryz.func129 (ar (iA (YN n) fun b1=>iA (YK b) fun b2=>?_))
 refine Z1 (Y0 (ab 0 (Y1 (fun fz gz m F h=>∃(k:Nat) (q2:Int) (L2:Zy) (ka:Hd) (kb:Hd) (kc:Hd) (kd:Hd) (ke:Hd) (kf:Hd),(k<=b.steps.length)/\(Xk n.decls L2 q2)/\(0<=q2/\q2+4*Y3 (b.steps.drop k)<=999999990)/\(L2.vars.length+4*Y3 (b.steps.drop k)<=1000000000)/\(Vy n (b.steps.drop k) L2.vars=some vs)/\(QF n ln L2 (b.steps.drop k)=QF n ln L b.steps)/\(L.vars.length<=L2.vars.length)/\F=sF [0,3,5,6] fz [(9,.i k)]/\h=[Za gz 0,Za gz 1,.obj c [.h ka,.h kb,.h kc,.h kd,.h ke,.h kf,Z6 ln],rV ka L2.vars,rV kb L2.own,rV kc L2.par,rV kd L2.con,rV ke L2.fst,rV kf L2.tok]/\m=b.steps.length-k) _ _ _ ⟨0,q,L,ga,gb,gc,gd,ge,gf,ob,hk,(by rw [Ut];omega),(by rw [Ut];omega),hvs,rfl,om,rfl,rfl,rfl⟩ (ZT 9 (Yd fl)) ?_)))
 rintro m F h ⟨k,q2,L2,ka,kb,kc,kd,ke,kf,Yf,Zj,Zp,YA,XZ,Ks,Z6f,rfl,rfl,rfl⟩
 refine Y7 3 [0] (iw (WA b.steps) (ZQ ((k:Int)<(b.steps.length:Int)) (fun Z9=>?_) (fun Z9=>?_)))
 ·obtain ⟨s1,hs1⟩:=Zq b.steps k om
  have hss:=TH hs1
  have hdr:=Yn hs1
  have hz:Y3 (b.steps.drop k)=s1.sz+Y3 (b.steps.drop (k+1)):=by rw [hdr,Y3]
  rw [hdr] at XZ Ks
  obtain ⟨g1,g2⟩:=MZ XZ
  refine ak (aq (ab 1 (aD 9 (ZG 4 9 [0,1,2,3,4] [1,0] (dx 5 (Zh none (k:Int) 5 (XR hs1)) (Zk 2 3 [6] (Z8 7 (dc 7 [2,2,2,2,2,2,2] [] [] (ih s1 c ka kb kc kd ke kf L2 q2 ob Zj g1 om om) ?_))))))))
  rintro _ _ (⟨wa1,wb1,wc1,wd1,we1,wf1,M'1,rfl,rfl,ZX⟩|⟨rfl,rfl,Yc⟩)
  ·have hP:=ZX
   have kx:=MW hn Zj Zp.1 g1 hP
   exact Zk 0 1 [8] (de (Wx (ak (az (Z2 1 (ZF k (Z1 (ZI ⟨k+1,(q2+4*s1.sz),M'1,wa1,wb1,wc1,wd1,we1,wf1,ob,kx.1,om,(by rw [kx.2];have:=Mo n L2.vars s1;omega),(by rw [kx.2];exact g2),(by rw [<-Ks,QF,hP];rfl),(by rw [kx.2];have:=Mo n L2.vars s1;omega),rfl,rfl,rfl⟩ (wk [7,7,0,0,0,0,0,0,0] (ZL k fl))))))))))
  have hP:=Yc
  exact Zk 0 1 [8] (de (Vh (ar (Zt (r1 [] (.inr ⟨rfl,rfl,(by rw [Eu,<-Ks,QF,hP];rfl)⟩))))))
 rw [Xz om] at XZ Ks
 have hvv:L2.vars=vs:=by rw [Vy] at XZ;exact Ax XZ
 have hB:Va n ln L mm b=QY mm b.result L2:=by rw [Eu,<-Ks,QF];rfl
 obtain ⟨xr,hxr⟩:=Zq L2.vars b.result.toNat (by rw [hvv];omega)
 have hgr:=UO hxr
 have hrl:0<=b.result/\b.result<L2.vars.length:=by rw [hvv];omega
 rw [Vy] at XZ
 refine ax 0 (aq (aD 16 (ZG 10 16 [0,1,2,3,4,5] [2,0] (dx 6 (V6 3 ka L2.vars b.result b.result.toNat (hq:=rfl)) (Vt 7 (T1 3 ka L2.vars b.result.toNat xr hxr) (Zk 6 8 [8,9] (db (b:=(xr != 0)) 35 (fun Ze=>?_) (fun Ze=>?_))))))))
 ·have YM:xr≠0:=(Xa).1 Ze
  refine ZG 3 6 [10,11,12] [0] (Z8 13 (dc 13 [2,2,2,2,2,2,2] [] [] (Dr c ka kb kc kd ke kf L2 ln b.result (hlk:=Zj.len) (hq:=(fun y hy=>⟨Zj.nn y hy,by have:=Zj.bd y hy;omega⟩))) ?_))
  rintro _ _ (⟨wa2,wb2,wc2,wd2,we2,wf2,L'1,rfl,rfl,YZ⟩|⟨rfl,rfl,X7⟩)
  ·have hE:=hB.trans (PA hgr (by assumption) YZ)
   have kx:=Zj.take YZ
   have hxv:L'1.vars.length=L2.vars.length:=by rw [(QG YZ).2.1]
   refine Zk 0 2 [14,15] (de (Wx (ak (Yg 2 (ic [0,0,0,0,0,0,0] (IY c wa2 wb2 wc2 wd2 we2 wf2 L'1 ln mm (hlk:=(by first|exact kx.len|exact Zj.len)) (hlb:=om) (hm:=om)) ?_)))))
   rintro _ _ (⟨wa3,wb3,wc3,wd3,we3,wf3,L'2,rfl,rfl,XX⟩|⟨rfl,rfl,Wu⟩)
   ·exact Zt (r1 [0,0,0,0,0,0,0] (.inl ⟨wa3,wb3,wc3,wd3,we3,wf3,L'2,rfl,rfl,(by first|exact hE|(rw [hE];exact XX)|(rw [hB,BD hgr (by assumption)];exact XX))⟩))
   exact Zt (r1 [] (.inr ⟨rfl,rfl,(by first|exact hE|(rw [hE];exact Wu)|(rw [hB,BD hgr (by assumption)];exact Wu))⟩))
  have hE:=hB.trans (Pz hgr (by assumption) X7)
  exact Zk 0 2 [14,15] (de (Vh (ar (Zt (r1 [] (.inr ⟨rfl,rfl,(by first|exact hE|(rw [hE];exact X7)|(rw [hB,BD hgr (by assumption)];exact X7))⟩))))))
 have V3:¬(xr≠0):=YT Xa Ze
 refine Zk 0 6 [10,11,12,13,14,15] (de (Wx (ak (Yg 2 (ic [2,2,2,2,2,2,2] (IY c ka kb kc kd ke kf L2 ln mm (hlk:=(by first|exact kx.len|exact Zj.len)) (hlb:=om) (hm:=om)) ?_)))))
 rintro _ _ (⟨wa4,wb4,wc4,wd4,we4,wf4,L'3,rfl,rfl,Vk⟩|⟨rfl,rfl,UT⟩)
 ·exact Zt (r1 [0,0,0,0,0,0,0] (.inl ⟨wa4,wb4,wc4,wd4,we4,wf4,L'3,rfl,rfl,(by first|exact hE|(rw [hE];exact Vk)|(rw [hB,BD hgr (by assumption)];exact Vk))⟩))
 exact Zt (r1 [] (.inr ⟨rfl,rfl,(by first|exact hE|(rw [hE];exact UT)|(rw [hB,BD hgr (by assumption)];exact UT))⟩))
theorem Z0f (n:Zx) (ln:LI) (hn:Xh n) (hln:ln.length<=4294967296) (m:Nat):∀(b2:Z3) (c:Nat) (ra:Hd) (rb:Hd) (rc:Hd) (rd:Hd) (re:Hd) (rf:Hd) (M:Zy) (mm:Nat) (p:Int),(b2.sz<m+1)->(Xk n.decls M p)->(0<=XK n M.vars b2)->(mm<=M.vars.length)->(M.vars.length+4*b2.sz<=1000000000)->(0<=p/\p+4*b2.sz<=999999990)->Zf 129 [.p c 0,Yl n,ZC b2,.i mm] [.obj c [.h ra,.h rb,.h rc,.h rd,.h re,.h rf,Z6 ln],rV ra M.vars,rV rb M.own,rV rc M.par,rV rd M.con,rV re M.fst,rV rf M.tok] (fun r h=>(∃(wa:Hd) (wb:Hd) (wc:Hd) (wd:Hd) (we:Hd) (wf:Hd) (M':Zy),r=.b true/\h=[.obj c [.h wa,.h wb,.h wc,.h wd,.h we,.h wf,Z6 ln],rV wa M'.vars,rV wb M'.own,rV wc M'.par,rV wd M'.con,rV we M'.fst,rV wf M'.tok]/\Va n ln M mm b2=some M')∨(r=.b false/\h=[]/\Va n ln M mm b2=none)):=by
 induction m with
 | zero=>intro b c ga gb gc gd ge gf L mm q h;have:=b.sz_pos;omega
 | succ m ih=>
  intro b c ga gb gc gd ge gf L mm q h1 hk ht hm hb hp
  exact Z0e c ga gb gc gd ge gf n b L ln q mm hn hk ht hm hb hp hln fun s c ga gb gc gd ge gf L q h2 hk ht hb hp=>L0 c ga gb gc gd ge gf n s L ln q hn hk ht hb hp hln
   fun b2 c ga gb gc gd ge gf L mm q h3 hk ht hm hb hp=>ih b2 c ga gb gc gd ge gf L mm q om hk ht hm hb hp
theorem Z0l (n:Zx) (ln:LI) (hn:Xh n) (hln:ln.length<=4294967296) (m:Nat):∀(s2:Z4) (c:Nat) (ra:Hd) (rb:Hd) (rc:Hd) (rd:Hd) (re:Hd) (rf:Hd) (M:Zy) (p:Int),(s2.sz<m+1)->(Xk n.decls M p)->(0<=YF n M.vars s2)->(M.vars.length+4*s2.sz<=1000000000)->(0<=p/\p+4*s2.sz<=999999990)->Zf 126 [.p c 0,Yl n,Yp s2] [.obj c [.h ra,.h rb,.h rc,.h rd,.h re,.h rf,Z6 ln],rV ra M.vars,rV rb M.own,rV rc M.par,rV rd M.con,rV re M.fst,rV rf M.tok] (fun r h=>(∃(wa:Hd) (wb:Hd) (wc:Hd) (wd:Hd) (we:Hd) (wf:Hd) (M':Zy),r=.b true/\h=[.obj c [.h wa,.h wb,.h wc,.h wd,.h we,.h wf,Z6 ln],rV wa M'.vars,rV wb M'.own,rV wc M'.par,rV wd M'.con,rV we M'.fst,rV wf M'.tok]/\Tm n ln M s2=some M')∨(r=.b false/\h=[]/\Tm n ln M s2=none)):=by
 intro s c ga gb gc gd ge gf L q h2 hk ht hb hp
 exact L0 c ga gb gc gd ge gf n s L ln q hn hk ht hb hp hln fun b2 c ga gb gc gd ge gf L mm q h3 hk ht hm hb hp=>Z0f n ln hn hln m b2 c ga gb gc gd ge gf L mm q om hk ht hm hb hp
theorem Z0k (c:Nat) (ra:Hd) (rb:Hd) (rc:Hd) (rd:Hd) (re:Hd) (rf:Hd) (n:Zx) (s2:Z4) (M:Zy) (ln:LI) (p:Int) (hn:Xh n) (hln:ln.length<=4294967296) (hk:Xk n.decls M p) (ht:0<=YF n M.vars s2) (hb:M.vars.length+4*s2.sz<=1000000000) (hp:0<=p/\p+4*s2.sz<=999999990):Zf 126 [.p c 0,Yl n,Yp s2] [.obj c [.h ra,.h rb,.h rc,.h rd,.h re,.h rf,Z6 ln],rV ra M.vars,rV rb M.own,rV rc M.par,rV rd M.con,rV re M.fst,rV rf M.tok] (fun r h=>(∃(wa:Hd) (wb:Hd) (wc:Hd) (wd:Hd) (we:Hd) (wf:Hd) (M':Zy),r=.b true/\h=[.obj c [.h wa,.h wb,.h wc,.h wd,.h we,.h wf,Z6 ln],rV wa M'.vars,rV wb M'.own,rV wc M'.par,rV wd M'.con,rV we M'.fst,rV wf M'.tok]/\Tm n ln M s2=some M')∨(r=.b false/\h=[]/\Tm n ln M s2=none)):=Z0l n ln hn hln s2.sz s2 c ra rb rc rd re rf M p om hk ht hb hp
theorem Z3w (rt:Y8) (hp:rt.params.length<=1000000:=by exact ob) (hl:rt.lent.length<=4294967296:=by exact ob):Zf 125 [TM rt] [] (fun r h=>∃(c:Nat) (wa:Hd) (wb:Hd) (wc:Hd) (wd:Hd) (we:Hd) (wf:Hd),r=.p c 0/\h=[.obj c [.h wa,.h wb,.h wc,.h wd,.h we,.h wf,Z6 rt.lent],rV wa ((Ql rt).vars),rV wb ((Ql rt).own),rV wc ((Ql rt).par),rV wd ((Ql rt).con),rV we ((Ql rt).fst),rV wf ((Ql rt).tok)]):=by
 refine ZD 45 Tryz.func125 (ar (iA (K1 rt) fun b1=>Z1 (Zo 2 [0] (ic [] (Vp rt.lent) ?_))))
 rintro _ _ ⟨v1,rfl,rfl⟩
 refine ZE 1 [(8,.agg [nl,nl,nl,nl,nl,nl,Z6 rt.lent])] (iA [nl,nl,nl,nl,nl,nl,Z6 rt.lent] fun b2=>?_)
 refine Xv (N7 0 b2 [nl,nl,nl,nl,nl,nl,Z6 rt.lent] [.h hN,.h hN,.h hN,.h hN,.h hN,.h hN,Z6 rt.lent] (.cons (Zd.hd (v:=hN)) (.cons (Zd.hd (v:=hN)) (.cons (Zd.hd (v:=hN)) (.cons (Zd.hd (v:=hN)) (.cons (Zd.hd (v:=hN)) (.cons (Zd.hd (v:=hN)) (.cons (lr _) .nil)))))))) (Xv (At) (Xv (At) (Xv (At) (Xv (At) (Xv (At) (Xv (At) (Z1 (Y0 (ab 0 (Y1 (fun fz gz m F h=>∃(k:Nat) (L2:Zy) (ka:Hd) (kb:Hd) (kc:Hd) (kd:Hd) (ke:Hd) (kf:Hd),(k<=rt.params.length)/\(Ug L2)/\(L2.vars.length=k)/\(KX rt.lent (rt.params.drop k) k L2=Ql rt)/\F=sF [1,3] fz [(4,.i k)]/\h=[.obj b2 [.h ka,.h kb,.h kc,.h kd,.h ke,.h kf,Z6 rt.lent],Za gz 8,rV ka L2.vars,rV kb L2.own,rV kc L2.par,rV kd L2.con,rV ke L2.fst,rV kf L2.tok]/\m=rt.params.length-k) _ _ _ ⟨0,(Zy.mk [] [] [] [] [] []),hN,hN,hN,hN,hN,hN,ob,⟨rfl,rfl,rfl,rfl,rfl⟩,rfl,rfl,rfl,rfl,rfl⟩ (wk [6,7,0,0,0,0,0,0] (Yd fl) (e:=(rc (rc (rv (xs:=[]) ob (rv (xs:=[]) ob (rv (xs:=[]) ob (rv (xs:=[]) ob (rv (xs:=[]) ob (rv (xs:=[]) ob rz)))))))))) ?_))))))))))
 rintro m F h ⟨k,L2,ka,kb,kc,kd,ke,kf,Yf,Zj,Zp,YA,rfl,rfl,rfl⟩
 refine Y7 3 [1] (iw (Ye rt.params) (ZQ ((k:Int)<(rt.params.length:Int)) (fun Z9=>?_) (fun Z9=>?_)))
 ·refine ak (aq (ab 1 (Zo 3 [1] ?_)))
  obtain ⟨x1,Z5⟩:=Zq rt.params k om
  refine Zm (Zh none (k:Int) 1 (ZZ Z5)) (XN [1,3,4] [(29,.b ((x1 != 0)&&(!(decide ((k:Int)∈rt.lent)))))] (fun gz=>gz) ?_ ?_)
  ·refine Z2 3 (ib (b:=(x1 != 0)) 23 (fun Ze=>?_) (fun Ze=>?_))
   ·exact ZV 3 [1] (Zv [] (VI rt.lent (k:Int)) (Z1 (ZT 8 (ZP (!(decide ((k:Int)∈rt.lent))) Ze fl))))
   exact Z1 (ZT 8 (ZP false Ze fl))
  refine ac ((x1 != 0)&&(!(decide ((k:Int)∈rt.lent)))) (p:=(x1≠0)/\(¬((k:Int)∈rt.lent))) (Xr Xa (Xi dq)) (fun Zg=>?_) (fun Zg=>?_)
  ·refine az (ZV 4 [1] (Zm (Zh none (k:Int) 1 (ZZ Z5)) (Z2 1 (ic [0,1,1,1,1,1,1] (TT b2 ka kb kc kd ke kf L2 rt.lent x1 1 (-1) (hlk:=Zj)) ?_))))
   rintro _ _ ⟨wa1,wb1,wc1,wd1,we1,wf1,rfl⟩
   exact ie (az (Z2 1 (ZF k (Z1 (ZI ⟨k+1,(L2.grow x1 1 (-1)),wa1,wb1,wc1,wd1,we1,wf1,ob,(Ug.grow Zj),(by simp [Zy.grow];omega),(by rw [Yn Z5,KX] at YA;first|(rw [Zw Zg] at YA;exact YA)|(rw [Zr Zg] at YA;exact YA)),rfl,rfl,rfl⟩ (wk [0,6,0,0,0,0,0,0] (ZL k fl)))))))
  refine az (ZV 4 [1] (Zm (Zh none (k:Int) 1 (ZZ Z5)) (Z2 1 (ic [0,1,1,1,1,1,1] (TT b2 ka kb kc kd ke kf L2 rt.lent x1 0 (-1) (hlk:=Zj)) ?_))))
  rintro _ _ ⟨wa2,wb2,wc2,wd2,we2,wf2,rfl⟩
  exact ie (az (Z2 1 (ZF k (Z1 (ZI ⟨k+1,(L2.grow x1 0 (-1)),wa2,wb2,wc2,wd2,we2,wf2,ob,(Ug.grow Zj),(by simp [Zy.grow];omega),(by rw [Yn Z5,KX] at YA;first|(rw [Zw Zg] at YA;exact YA)|(rw [Zr Zg] at YA;exact YA)),rfl,rfl,rfl⟩ (wk [0,6,0,0,0,0,0,0] (ZL k fl)))))))
 refine ax 0 (Y9 ?_)
 have hNl:L2=Ql rt:=by rw [<-YA,Xz om];rfl
 exact ZJ (r1 [0,1,1,1,1,1,1] ⟨b2,ka,kb,kc,kd,ke,kf,rfl,rfl⟩ (eq:=(rc (rv (xs:=L2.vars) (by rw [hNl]) (rv (xs:=L2.own) (by rw [hNl]) (rv (xs:=L2.par) (by rw [hNl]) (rv (xs:=L2.con) (by rw [hNl]) (rv (xs:=L2.fst) (by rw [hNl]) (rv (xs:=L2.tok) (by rw [hNl]) rz)))))))))
theorem Rz (n:Zx) (f0:Nat) (k0:Nat) (rt:Y8) (hz:Ja n:=by exact ob) (hr:n.routines[f0]? = some rt:=by exact ob) (hk0:k0<=rt.body.steps.length:=by exact ob):Zf 81 [Yl n,.i f0,.i k0] [] (fun r h=>(∃(c:Nat) (wa:Hd) (wb:Hd) (wc:Hd) (wd:Hd) (we:Hd) (wf:Hd) (L:Zy) (q:Int),r=.tup [.p c 0,.b true]/\h=[.obj c [.h wa,.h wb,.h wc,.h wd,.h we,.h wf,Z6 rt.lent],rV wa L.vars,rV wb L.own,rV wc L.par,rV wd L.con,rV we L.fst,rV wf L.tok]/\Xk n.decls L q/\L.vars.length=rt.params.length+YI (rt.body.steps.take k0)/\L.vars.length<=500000000/\rt.lent.length<=4194304)∨(r=.tup [.any,.b false]/\h=[]/\True)):=by
 have hzl:=hz.len
 have hfl:=(XC.1 hr).1
 have hrm:=ZW hr
 have hbz:=hz.body _ hrm
 have Zs:=WR rt.body
 have hbe:=rt.body.sz_eq
 obtain ⟨hk,hkv⟩:=Z0y n.decls rt
 refine ZD 64 Tryz.func81 (ar (iA (YN n) fun b1=>Z1 (Y7 1 [0] (Zv [] (Z4h n) (Vc 12 [1,2,3] [(21,.b ((!Q2 n)||(!(decide (0<=(f0:Int)/\(f0:Int)<=((n.routines.length:Int)-1))))))] (fun gz=>gz) ?_ (fun hj1=>?_))))))
 ·refine XN [1,2,3] [(34,.b (((!Q2 n)||(!(decide (0<=(f0:Int)/\(f0:Int)<=((n.routines.length:Int)-1)))))||(!(decide (0<=(k0:Int)/\(k0:Int)<=(rt.body.steps.length:Int))))))] (fun gz=>gz) ?_ ?_
  ·refine Z2 1 (ib (b:=((!Q2 n)||(!(decide (0<=(f0:Int)/\(f0:Int)<=((n.routines.length:Int)-1)))))) 22 (fun Ze=>?_) (fun Ze=>?_))
   ·exact Z1 (wk [0] (ZP true Ze fl))
   exact ZV 4 [0] (Zm (Zh none (f0:Int) 5 (Wz hr)) (Z2 3 (iw (WA rt.body.steps) (Zv [] (U9 (k0:Int) 0 (rt.body.steps.length:Int)) (Z1 (wk [0] (ZP (!(decide (0<=(k0:Int)/\(k0:Int)<=(rt.body.steps.length:Int)))) Ze fl)))))))
  refine ac (((!Q2 n)||(!(decide (0<=(f0:Int)/\(f0:Int)<=((n.routines.length:Int)-1)))))||(!(decide (0<=(k0:Int)/\(k0:Int)<=(rt.body.steps.length:Int))))) (p:=((¬(Q2 n=true))∨(¬(0<=(f0:Int)/\(f0:Int)<=((n.routines.length:Int)-1))))∨(¬(0<=(k0:Int)/\(k0:Int)<=(rt.body.steps.length:Int)))) (Xu (Xu (Xi Iff.rfl) (Xi dq)) (Xi dq)) (fun Z9=>?_) (fun Z9=>?_)
  ·exact ar (ZE 1 [(35,.agg [.sl [] none,.sl [] none,.sl [] none,.sl [] none,.sl [] none,.sl [] none,.sl [] none])] (iA [.sl [] none,.sl [] none,.sl [] none,.sl [] none,.sl [] none,.sl [] none,.sl [] none] fun b2=>Zt (r2 [] [.p b2 0,.b false] (.inr ⟨rfl,rfl,(by first|exact True.intro|exact ⟨Zj,by rw [show k0=j by omega];exact Ks,by omega,hll⟩)⟩) (Zd.tup (.cons (Zd.any _) (.cons (lr _) .nil))))))
  have hV:Q2 n=true:=GM fun z=>Z9 (.inl (.inl z))
  obtain ⟨hok,hall⟩:=Z5q hz hV
  have hty:=hall rt hrm
  obtain ⟨vs,t0,hvs,hres,hrt0⟩:=H9 hty
  have hpl:=hok.params_at hr
  have hll:=hok.lent_at hr
  refine ak (Zo 3 [0] (Zm (Zh none (f0:Int) 5 (Wz hr)) (Z2 1 (ic [] (Z3w rt) ?_))))
  rintro _ _ ⟨c1,wa1,wb1,wc1,wd1,we1,wf1,rfl,rfl⟩
  refine Z1 (Y0 (ab 0 (Y1 (fun fz gz m F h=>∃(j:Nat) (q2:Int) (L2:Zy) (ka:Hd) (kb:Hd) (kc:Hd) (kd:Hd) (ke:Hd) (kf:Hd),(j<=k0)/\(Xk n.decls L2 q2)/\(0<=q2/\q2+4*Y3 (rt.body.steps.drop j)<=999999990)/\(L2.vars.length+4*Y3 (rt.body.steps.drop j)<=400000000)/\(Vy n (rt.body.steps.drop j) L2.vars=some vs)/\(L2.vars.length=rt.params.length+YI (rt.body.steps.take j))/\F=sF [1,2,3,8] fz [(9,.i j)]/\h=[.obj c1 [.h ka,.h kb,.h kc,.h kd,.h ke,.h kf,Z6 rt.lent],Za gz 7,rV ka L2.vars,rV kb L2.own,rV kc L2.par,rV kd L2.con,rV ke L2.fst,rV kf L2.tok]/\m=k0-j) _ _ _ ⟨0,1,(Ql rt),wa1,wb1,wc1,wd1,we1,wf1,ob,hk,(by rw [Ut];omega),(by rw [Ut,hkv];omega),(by rw [Ut,hkv];exact hvs),(by rw [hkv];rfl),rfl,rfl,rfl⟩ (wk [0,6,0,0,0,0,0,0] (Yd fl)) ?_)))
  rintro m F h ⟨j,q2,L2,ka,kb,kc,kd,ke,kf,Yf,Zj,Zp,YA,XZ,Ks,rfl,rfl,rfl⟩
  refine Xd (ZQ ((j:Int)<(k0:Int)) (fun Zg=>?_) (fun Zg=>?_))
  ·obtain ⟨s1,hs1⟩:=Zq rt.body.steps j om
   have hss:=TH hs1
   have hsp:=s1.sz_pos
   have hzd:=Ck hs1
   have hdt:=HB hs1
   have hdr:=Yn hs1
   rw [hdr] at XZ
   obtain ⟨g1,g2⟩:=MZ XZ
   refine ak (aq (ab 1 (aD 14 (ZG 9 14 [0,1,2,3,4] [1,1] (dx 5 (Zh none (f0:Int) 5 (Wz hr)) (Zk 4 8 [6,7,8,9] (dx 10 (Zh none (j:Int) 5 (XR hs1)) (Zk 2 3 [11] (Z8 12 (dc 12 [0,1,1,1,1,1,1] [] [] (Z0k c1 ka kb kc kd ke kf n s1 L2 rt.lent q2 hok ob Zj g1 om om) ?_))))))))))
   rintro _ _ (⟨wa2,wb2,wc2,wd2,we2,wf2,M'1,rfl,rfl,YM⟩|⟨rfl,rfl,YZ⟩)
   ·have hP:=YM
    have kx:=MW hok Zj Zp.1 g1 hP
    have hsf:=Z37 g1
    exact Zk 0 1 [13] (de (Wx (ak (az (Z2 1 (ZF j (Z1 (ZI ⟨j+1,(q2+4*s1.sz),M'1,wa2,wb2,wc2,wd2,we2,wf2,ob,kx.1,om,(by rw [kx.2,hsf];split<;>omega),(by rw [kx.2];exact g2),(by rw [kx.2,hsf,hdt];split<;>omega),rfl,rfl,rfl⟩ (wk [0,6,0,0,0,0,0,0] (ZL j fl))))))))))
   exact Zk 0 1 [13] (de (Vh (ar (Zt (r2 [] [.p c1 0,.b false] (.inr ⟨rfl,rfl,(by first|exact True.intro|exact ⟨Zj,by rw [show k0=j by omega];exact Ks,by omega,hll⟩)⟩) (Zd.tup (.cons (Zd.any _) (.cons (lr _) .nil))))))))
  exact ax 0 (ar (Zt (r2 [0,1,1,1,1,1,1] [.p c1 0,.b true] (.inl ⟨c1,ka,kb,kc,kd,ke,kf,L2,_,rfl,rfl,(by first|exact True.intro|exact ⟨Zj,by rw [show k0=j by omega];exact Ks,by omega,hll⟩)⟩) (lr _))))
 refine Z2 2 (ib (b:=(!Q2 n)) 13 (fun ZU=>?_) (fun ZU=>?_))
 ·exact Z2 8 (Xy (wk [0] (ZP true ZU fl)) hj1)
 exact ZV 3 [0] (iw (Uo n.routines) (ia (((n.routines.length:Int)-1)) (((n.routines.length:Int))-(1)) (Zv [] (U9 (f0:Int) 0 ((n.routines.length:Int)-1)) (Z2 2 (Xy (wk [0] (ZP (!(decide (0<=(f0:Int)/\(f0:Int)<=((n.routines.length:Int)-1)))) ZU fl)) hj1)))))
theorem Da (b:Z3) (i0:Nat) (s:Z4) (hi:i0<=b.steps.length:=by exact ob) (hz:b.sz<=100000000:=by exact ob):Zf 145 [ZC b,.i i0,Yp s] [] (Yu (ZC (Z3.mk (W1 b.steps i0 s) b.result))):=by
 have Zs:=WR b
 exact ZD 26 Tryz.func145 (ar (iA (YK b) fun b1=>iA (Xg s) fun b2=>iA [nl,.i 0] fun b3=>ie (ar (iL (Zi []) 0 5 fun v1=>ZV 3 [3] (Zm (Kc (es:=Zi b.steps) (hv:=none) (l:=0) (m:=(i0:Int)) (sz:=5) (es':=Zi (b.steps.take i0)) kr om (by simp<;>omega) (by simp<;>omega) (YX _) (by first|(simp only [VS,V7,T9,T8];done)|(simp only [VS,V7,T9,T8];rfl)|(simp [T9,T8];done))) (ip 0 (Zi (b.steps.take i0)) (Zi []) (Zi (b.steps.take i0)) v1 none 5 (YX _) (YX _) (V2 _) (by simp<;>omega) (by simp [WM]) fun v2=>Z1 (aD 13 (ZG 8 13 [0,1,4,5,6] [2,3] (dx 7 (Kc (es:=Zi b.steps) (hv:=none) (l:=(i0:Int)) (m:=(((Zi b.steps).length:Nat):Int)) (sz:=5) (es':=Zi (b.steps.drop i0)) kr om (by simp<;>omega) (by simp<;>omega) (YX _) (by first|(simp only [VS,V7,T9,T8];done)|(simp only [VS,V7,T9,T8];rfl)|(simp [T9,T8];done))) (ZG 5 7 [9,10] [3] (Z8 2 (dL 2 [2,2] [b1,b1] [Yp s] 1 5 fun v3=>Yh 4 4 [] [(16,.sl [Yp s] none)] (Z8 3 (dp 3 1 [2,2] [b1,b1] (Zi ((b.steps.take i0)++[s])) (Zi (b.steps.take i0)) [Yp s] v2 none 5 (YX _) (Tg rfl) rfl (by simp<;>omega) (by simp [Wi,WM]) fun v4=>Z8 8 (dp 8 0 [2] [b1] (Zi (W1 b.steps i0 s)) (Zi ((b.steps.take i0)++[s])) (Zi (b.steps.drop i0)) v4 none 5 (YX _) (YX _) (V2 _) (by simp<;>omega) (by simp only [W1,Wi]) fun v5=>Zk 1 2 [11] (Z8 12 (Yy 12 2 [] [] b3 [YG (W1 b.steps i0 s) v5,.i b.result] (de (ZJ (r3 [] [.agg [YG (W1 b.steps i0 s) v5,.i b.result]] [0] [(b3,b3)] ⟨rfl,rfl⟩ (Zd.agg (.cons (Zd.sl _ (Yr Zi rfl)) (.cons li .nil)))))))))))))))))))))))
theorem Fh (n:Zx) (f0:Nat) (b:Z3) (rt:Y8) (hr:n.routines[f0]? = some rt:=by exact ob) (hl:n.routines.length<=1000000:=by exact ob) (hp:rt.params.length<=4294967296:=by exact ob) (hl2:rt.lent.length<=4294967296:=by exact ob):Zf 111 [Yl n,.i f0,ZC b] [] (fun r h=>∃(g:Nat) (c:Nat),r=.agg [YL n.decls,.ms g 0 n.routines.length c]/\h=[.row (.slice (some ⟨g,0,none⟩) n.routines.length c) 5 (Zb (Yx (n.routines.set f0 (Y8.mk rt.params rt.lent rt.result b))))]):=by
 have hfl:=(XC.1 hr).1
 refine ZD 26 Tryz.func111 (ar (iA (YN n) fun b1=>iA (YK b) fun b2=>iA [nl,nl] fun b3=>ie (ar (Dh 5 fun g1=>ZV 2 [3] (Si 0 g1 5 (Yx n.routines) none (VN _) (by simp<;>omega) fun v1=>Df 0 n.routines.length (v:=v1) (D4 _) om (fun g2 c1 he1=>?_))))))
 subst he1
 exact Z1 (aD 11 (ZG 6 11 [0,1,2,3,4] [3] (dx 5 (Zh none (f0:Int) 5 (Wz hr)) (ZG 3 5 [6,7] [2] (Z8 8 (Yo 8 [] [] [] (Bi rt b) (dx 9 (XS g2 n.routines.length c1 f0 5 (f0:Int)) (Z8 10 (JW 10 0 [] [] g2 n.routines.length c1 5 (f0*5) (K1 (Y8.mk rt.params rt.lent rt.result b)) (Zb (Yx n.routines)) (Zb (Yx (n.routines.set f0 (Y8.mk rt.params rt.lent rt.result b)))) (by rw [D4];simp only [YD,X6];omega) (PN (Y8.mk rt.params rt.lent rt.result b) hfl) (de (Zo 4 [3] (ZA 1 b3 [YL n.decls,.ms g2 0 n.routines.length c1] (ie (ZJ (r3 [1] [.agg [YL n.decls,.ms g2 0 n.routines.length c1]] [0] [(b3,b3)] ⟨g2,c1,rfl,rfl⟩ (lr _))))))))))))))))
theorem In (n:Zx) (f0:Nat) (b:Z3) (rt:Y8) (hr:n.routines[f0]? = some rt:=by exact ob) (hl:n.routines.length<=1000000:=by exact ob) (hp:rt.params.length<=4294967296:=by exact ob) (hl2:rt.lent.length<=4294967296:=by exact ob):Zf 111 [Yl n,.i f0,ZC b] [] (Yu (Yl (withR n f0 rt b))):=(W3.frzN (ds:=n.decls) (rs:=(n.routines.set f0 (Y8.mk rt.params rt.lent rt.result b))) (hs:=[]) ((Fh n f0 b rt hr hl hp hl2).mono fun r h ⟨g,c,e1,e2⟩=>⟨g,c,by rw [e1];simp only [Uu],by rw [e2];simp only [Uu]⟩))
theorem UQ (rd:Nat) (bs:LI) (p:Nat) (mx:Nat) (Zs:∀z∈bs,0<=z/\z<=255) (hp:p+1<=1000000000:=by exact ob) (hmx:0<mx:=by exact ob):Zf 79 [.p rd 0,.i mx] [Yb rd bs p] (fun r h=>∃(kn:Nat),r=.i kn/\h=[.obj rd [Vd bs,.i (p+1:Nat)]]/\kn<mx):=(XL rd bs p mx Zs hp).mono fun r h ⟨z,hr,hh,hz⟩=>by
  have h0:=hz.lt om
  exact ⟨z.toNat,by rw [hr,Int.toNat_of_nonneg h0.1],hh,by omega⟩
theorem Ie (rd:Nat) (bs:LI) (p:Nat) (n:Zx) (Zs:∀z∈bs,0<=z/\z<=255) (hp:p+4<=1000000000:=by exact ob) (hz:Ja n:=by exact ob) (hl1:1<=n.routines.length/\n.routines.length<=1000000:=by exact ob):Zf 116 [.p rd 0,Yl n] [Yb rd bs p] (fun r h=>∃(n2:Zx) (p2:Nat),r=Yl n2/\h=[Yb rd bs p2]/\Eh n n2/\p<=p2/\p2<=p+4):=by
 refine ZD 102 Tryz.func116 (ar (iA (YN n) fun b1=>iA [nl,nl] fun b2=>ie (Zo 3 [1] (iw (Uo n.routines) (ic [2] (UQ rd bs p n.routines.length (Zs:=ob)) ?_)))))
 rintro _ _ ⟨Ym,rfl,rfl,ZX⟩
 refine Z1 (Zo 3 [2] ?_)
 obtain ⟨x1,Z5⟩:=Zq n.routines Ym om
 have hrm:=ZW Z5
 have hbz:=hz.body _ hrm
 have Zs:=WR (x1).body
 have hpl:=hz.params _ hrm
 have hll:=hz.lent _ hrm
 have hrx:=Z5
 refine Zm (Zh none (Ym:Int) 5 (Wz Z5)) (Z2 2 (iA [nl,.i 0] fun b3=>ZA 0 b3 (YK x1.body) (ie (Zo 3 [0] (iw (WA x1.body.steps) (ia (((x1.body.steps.length+1:Nat):Int)) (((x1.body.steps.length:Int))+(1)) (ic [1] (UQ rd bs (p+1) (x1.body.steps.length+1) (Zs:=ob)) ?_)))))))
 rintro _ _ ⟨YB,rfl,rfl,Yc⟩
 refine Z1 (Zo 3 [3] (ic [] (Rz n Ym YB x1 (hr:=hrx)) ?_))
 rintro _ _ (⟨c1,wa1,wb1,wc1,wd1,we1,wf1,L1,q1,rfl,rfl,YM⟩|⟨rfl,rfl,YZ⟩)
 ·obtain ⟨hLO,hLv,hLb,hLl⟩:=YM
  have hLn:=hLO.len
  obtain ⟨e1,e2,e3,e4,e5⟩:=hLO.len
  refine Z1 (Y0 (Wx (ak (ar (iL (Z7 []) 0 1 fun v1=>?_)))))
  refine Z1 (Y0 (ab 0 (Y1 (fun fz gz m F h=>∃(k:Nat) (vl:LI) (u:Value),(k<=L1.vars.length)/\(vl.length<=k)/\(∀v∈vl,0<=v/\v<(L1.vars.length:Int))/\F=sF [0,3,4,5,6,7,8] fz [(10,ZO vl u),(11,.i k)]/\h=[Za gz 1,Za gz 2,Za gz 3,Za gz 4,Za gz 5,Za gz 6,Za gz 7,Za gz 8,Za gz 9,Za gz 10,Za gz 11,.tail u 1]/\m=L1.vars.length-k) _ _ _ ⟨0,[],v1,ob,ob,(fun v hv=>by cases hv),rfl,rfl,rfl⟩ (wk [1,1,1,1,1,1,1,1,1,1,1,0] (fr (Yd fl))) ?_)))
  rintro m F h ⟨k,vl,u,Yf,Zj,Zp,rfl,rfl,rfl⟩
  refine Y7 5 [0] (Zm (Au 1 wa1 L1.vars) (ZQ ((k:Int)<(L1.vars.length:Int)) (fun Z9=>?_) (fun Z9=>?_)))
  ·refine ak (aq (ab 1 (Zo 5 [0] (Zm (V6 1 wa1 L1.vars (k:Int) k) ?_))))
   obtain ⟨x2,Zu⟩:=Zq L1.vars k om
   refine Vl (T1 1 wa1 L1.vars k x2 Zu) (Z2 2 (ib (b:=(x2 != 0)) 59 (fun Ze=>?_) (fun Ze=>?_)))
   ·refine Z2 2 (Zv [0,0,0,0,0,0,0] (Dq c1 wa1 wb1 wc1 wd1 we1 wf1 L1 x1.lent (k:Int) (hlk:=hLO.len) (hd:=hLO.down)) (YR (VV L1 x1.lent (k:Int)) Iff.rfl (fun Zg=>?_) (fun Zg=>?_)))
    ·exact az (Z2 2 (iL (Z7 [(k:Int)]) 1 1 fun v2=>ZE 0 [(66,Z6 [(k:Int)])] (ip 12 (Z7 (vl++[(k:Int)])) (Z7 vl) (Z7 [(k:Int)]) u none 1 (Yw _) (Yw _) (XT _) (by simp<;>omega) (by simp [XQ,Z7]) fun v3=>Z1 (az (Z2 1 (ZF k (Z1 (ZI ⟨k+1,(vl++[(k:Int)]),v3,ob,ob,(by first|exact Zp|exact Xb Zp om),rfl,rfl,rfl⟩ (wk [2,2,2,2,2,2,2,2,2,2,2,0] (fr (ZL k fl)))))))))))
    exact ak (az (Z2 1 (ZF k (Z1 (ZI ⟨k+1,vl,u,ob,ob,(by first|exact Zp|exact Xb Zp om),rfl,rfl,rfl⟩ (ZT 12 (fr (ZL k fl))))))))
   exact Z1 (Wx (ak (az (Z2 1 (ZF k (Z1 (ZI ⟨k+1,vl,u,ob,ob,(by first|exact Zp|exact Xb Zp om),rfl,rfl,rfl⟩ (ZT 12 (fr (ZL k fl))))))))))
  refine ax 0 (X1 1 (iw (Ye vl) (YR ((vl.length:Int)==0) ZB (fun ZK=>?_) (fun ZK=>?_))))
  ·exact Zo 1 [10] (ZA 9 b2 (YN n) (ie (ZJ (r3 [8] [Yl n] [0] [(b2,b2)] ⟨n,(p+1)+1,rfl,rfl,(by first|exact ⟨.inl rfl,by omega,by omega⟩|(have hv:=Zp x3 (ZW X0);exact ⟨.inr ⟨Ym,x1,YB,YB+Uk,x3,hrx,by omega,by omega,hv.1,by omega,rfl⟩,by omega,by omega⟩))⟩ (lr _)))))
  refine ak (Yg 3 (iw (Ye vl) (ic [7] (UQ rd bs ((p+1)+1) vl.length (Zs:=ob)) ?_)))
  rintro _ _ ⟨BX,rfl,rfl,Wu⟩
  obtain ⟨x3,X0⟩:=Zq vl BX om
  refine Zm (Zh (some u) (BX:Int) 1 (ZZ X0)) (Z1 (Zo 4 [8] (iw (WA x1.body.steps) (Z2 1 (ia ((((x1.body.steps.length-YB):Nat):Int)) (((x1.body.steps.length:Int))-((YB:Int))) (ia ((((x1.body.steps.length-YB)+1:Nat):Int)) (((((x1.body.steps.length-YB):Nat):Int))+(1)) (ic [0] (UQ rd bs (((p+1)+1)+1) ((x1.body.steps.length-YB)+1) (Zs:=ob)) ?_)))))))
  rintro _ _ ⟨Uk,rfl,rfl,V3⟩
  exact ia (((YB+Uk:Nat):Int)) (((YB:Int))+((Uk:Int))) (Z1 (aD 6 (ZG 3 6 [0,1,2] [8] (Z8 3 (Yo 3 [] [2] [b3] (Ka 15 x3) (Z8 4 (Yo 4 [] [] [] (Da x1.body (YB+Uk) (Zl 15 x3) (hi:=(by first|omega|(show YB<=(W1 _ _ _).length;rw [LL om];omega))) (hz:=(by first|omega|(rw [Z3.sz,Cd];have e:(Zl 15 x3).sz=2:=rfl;have e2:=x1.body.sz_eq;omega)))) (Z8 5 (Yy 5 8 [] [] b3 (YK (Z3.mk (W1 x1.body.steps (YB+Uk) (Zl 15 x3)) x1.body.result)) (de (aD 9 (ZG 4 9 [0,1,2,3,4] [10,0] (Z8 5 (Yo 5 [] [0,4] [b3,b1] (Ka 14 x3) (Z8 6 (Yo 6 [] [4] [b1] (Da (Z3.mk (W1 x1.body.steps (YB+Uk) (Zl 15 x3)) x1.body.result) YB (Zl 14 x3) (hi:=(by first|omega|(show YB<=(W1 _ _ _).length;rw [LL om];omega))) (hz:=(by first|omega|(rw [Z3.sz,Cd];have e:(Zl 15 x3).sz=2:=rfl;have e2:=x1.body.sz_eq;omega)))) (Z8 7 (Yo 7 [] [] [] (In n Ym (Z3.mk (W1 (Z3.mk (W1 x1.body.steps (YB+Uk) (Zl 15 x3)) x1.body.result).steps YB (Zl 14 x3)) (Z3.mk (W1 x1.body.steps (YB+Uk) (Zl 15 x3)) x1.body.result).result) x1 (hr:=hrx)) (Z8 8 (Yy 8 9 [] [] b2 (YN (withR n Ym x1 (Z3.mk (W1 (Z3.mk (W1 x1.body.steps (YB+Uk) (Zl 15 x3)) x1.body.result).steps YB (Zl 14 x3)) (Z3.mk (W1 x1.body.steps (YB+Uk) (Zl 15 x3)) x1.body.result).result))) (de (ZJ (r3 [2] [Yl (withR n Ym x1 (Z3.mk (W1 (Z3.mk (W1 x1.body.steps (YB+Uk) (Zl 15 x3)) x1.body.result).steps YB (Zl 14 x3)) (Z3.mk (W1 x1.body.steps (YB+Uk) (Zl 15 x3)) x1.body.result).result))] [0] [(b2,b2)] ⟨(withR n Ym x1 (Z3.mk (W1 (Z3.mk (W1 x1.body.steps (YB+Uk) (Zl 15 x3)) x1.body.result).steps YB (Zl 14 x3)) (Z3.mk (W1 x1.body.steps (YB+Uk) (Zl 15 x3)) x1.body.result).result)),(((p+1)+1)+1)+1,rfl,rfl,(by first|exact ⟨.inl rfl,by omega,by omega⟩|(have hv:=Zp x3 (ZW X0);exact ⟨.inr ⟨Ym,x1,YB,YB+Uk,x3,hrx,by omega,by omega,hv.1,by omega,rfl⟩,by omega,by omega⟩))⟩ (lr _))))))))))))))))))))))))
 exact Z1 (Y0 (Vh (Zo 1 [3] (ZA 2 b2 (YN n) (ie (ZJ (r3 [1] [Yl n] [0] [(b2,b2)] ⟨n,(p+1)+1,rfl,rfl,(by first|exact ⟨.inl rfl,by omega,by omega⟩|(have hv:=Zp x3 (ZW X0);exact ⟨.inr ⟨Ym,x1,YB,YB+Uk,x3,hrx,by omega,by omega,hv.1,by omega,rfl⟩,by omega,by omega⟩))⟩ (lr _))))))))
theorem Z44 (b:Z3) (hz:b.sz<=1000000000:=by exact ob):Zf 250 [ZC b] [] (Yu (.i (((Xw b.steps):Nat):Int))):=by
 have hbz:=WR b
 refine ZD 20 Tryz.func250 (ar (iA (YK b) fun b1=>?_))
 refine Z1 (Y9 (aq (ab 0 (Y1 (fun fz gz m F h=>∃(k:Nat),(k<=b.steps.length)/\(k+Xw (b.steps.drop k)=Xw b.steps)/\F=sF [1] fz [(3,.i k)]/\h=gz/\m=b.steps.length-k) _ _ _ ⟨0,ob,(by simp),rfl,rfl,rfl⟩ (wk [0] (Yd fl)) ?_))))
 rintro m F h ⟨k,Yf,Zj,rfl,rfl,rfl⟩
 refine Y7 3 [0] (iw (WA b.steps) (Z2 2 (ib (b:=(decide ((k:Int)<(b.steps.length:Int)))) 9 (fun Ze=>?_) (fun Ze=>?_))))
 ·have ZX:(k:Int)<(b.steps.length:Int):=(dq).1 Ze
  refine ZV 3 [0] ?_
  obtain ⟨x1,Z5⟩:=Zq b.steps k om
  refine Zm (Zh none (k:Int) 5 (XR Z5)) (Z2 1 (Zv [] (MJ x1) (YR ((x1.op==14)||(x1.op==15)) (p:=(x1.op=14)∨(x1.op=15)) (Xu ZB ZB) (fun Z9=>?_) (fun Z9=>?_))))
  ·exact ak (ab 1 (az (Z2 1 (ZF k (Z1 (ZI ⟨k+1,ob,(Z2t Z5 Z9 Zj),rfl,rfl,rfl⟩ (wk [0] (ZL k fl))))))))
  exact ax 0 (ar (Zt (Y4 (.i k) (li (by have:=Z2u Z5 Z9 Zj;omega)))))
 have Yc:¬((k:Int)<(b.steps.length:Int)):=YT dq Ze
 exact Z1 (Wx (ax 0 (ar (Zt (Y4 (.i k) (li (by have:=Z2s om Zj;omega)))))))
theorem MD (b:Z3) (mm:Nat) (op:Int) (hm:mm<=b.steps.length:=by exact ob) (ha:∀s∈b.steps.take mm,s.op=op->∃a,s.args=[a]) (hz:b.sz<=1000000000:=by exact ob):Zf 251 [ZC b,.i mm,.i op] [] (fun r h=>∃(v:Value),r=ZO (W4 op (b.steps.take mm)) v/\h=[.tail v 1]):=by
 have hbz:=WR b
 refine ZD 35 Tryz.func251 (ar (iA (YK b) fun b1=>Z1 (ar (iL (Z7 []) 0 1 fun v1=>?_))))
 refine Z1 (Y0 (ab 0 (Y1 (fun fz gz m F h=>∃(k:Nat) (acc:LI) (v:Value),(k<=mm)/\(acc.length<=k)/\(acc++W4 op ((b.steps.take mm).drop k)=W4 op (b.steps.take mm))/\F=sF [1,2,3] fz [(7,ZO acc v),(8,.i k)]/\h=[Za gz 1,.tail v 1]/\m=mm-k) _ _ _ ⟨0,[],v1,ob,ob,(by simp),rfl,rfl,rfl⟩ (wk [1,0] (fr (Yd fl))) ?_)))
 rintro m F h ⟨k,acc,v,Yf,Zj,Zp,rfl,rfl,rfl⟩
 refine Xd (ZQ ((k:Int)<(mm:Int)) (fun Z9=>?_) (fun Z9=>?_))
 ·refine ak (aq (ab 1 (Zo 3 [0] ?_)))
  obtain ⟨x1,Z5⟩:=Zq b.steps k om
  have hxt:(b.steps.take mm)[k]? = some x1:=by rw [List.getElem?_take_of_lt om];exact Z5
  have hxm:=ZW hxt
  refine Zm (Zh none (k:Int) 5 (XR Z5)) (YR (x1.op==op) ZB (fun Zg=>?_) (fun Zg=>?_))
  ·refine az (ZV 4 [0] (Zm (Zh none (k:Int) 5 (XR Z5)) (Z2 2 ?_)))
   obtain ⟨x2,Zu⟩:=Zq x1.args 0 (by obtain ⟨a,ha2⟩:=ha x1 hxm Zg;rw [ha2];simp)
   have hg0:=KI Zu
   exact Zm (Zh none 0 1 (ZZ Zu)) (Z2 1 (iL (Z7 [x2]) 1 1 fun v2=>ZE 0 [(32,Z6 [x2])] (ip 2 (Z7 (acc++[x2])) (Z7 acc) (Z7 [x2]) v none 1 (Yw _) (Yw _) (XT _) (by simp<;>omega) (by simp [XQ,Z7]) fun v3=>Z1 (az (Z2 1 (ZF k (Z1 (ZI ⟨k+1,(acc++[x2]),v3,ob,(by simp;omega),(by have h:=O7 hxt Zg Zp;rw [hg0] at h;exact h),rfl,rfl,rfl⟩ (wk [2,0] (fr (ZL k fl)))))))))))
  exact ak (az (Z2 1 (ZF k (Z1 (ZI ⟨k+1,acc,v,ob,ob,(O6 hxt Zg Zp),rfl,rfl,rfl⟩ (wk [0,0] (fr (ZL k fl))))))))
 exact ax 0 (ar (Zt (r2 [1] [ZO acc v] ⟨v,rfl,rfl⟩ (Zd.slh _ (Yr Z7 (O5 (by rw [Wq];omega) Zp))))))
theorem MQ (xs:LI) (y:Int) (hl:xs.length<=1000000000:=by exact ob):Zf 252 [Z6 xs,.i y] [] (fun r h=>∃(v:Value),r=ZO (xs.erase y) v/\h=[.tail v 1]):=by
 refine ZD 33 Tryz.func252 (Y9 (ar (iL (Z7 []) 0 1 fun v1=>?_)))
 refine Z1 (Y9 (Y0 (ab 0 (Y1 (fun fz gz m F h=>∃(k:Nat) (acc:LI) (d:Bool) (v:Value),(k<=xs.length)/\(acc.length<=k)/\(acc++(if d=true then xs.drop k else (xs.drop k).erase y)=xs.erase y)/\F=sF [0,1] fz [(5,ZO acc v),(6,.b d),(7,.i k)]/\h=[.tail v 1]/\m=xs.length-k) _ _ _ ⟨0,[],false,v1,ob,ob,(by simp),rfl,rfl,rfl⟩ (wk [0] (fw (Yd fl))) ?_))))
 rintro m F h ⟨k,acc,d,v,Yf,Zj,Zp,rfl,rfl,rfl⟩
 refine X1 2 (iw (Ye xs) (ZQ ((k:Int)<(xs.length:Int)) (fun Z9=>?_) (fun Z9=>?_)))
 ·refine ak (aq (ab 1 (Yg 2 ?_)))
  obtain ⟨x1,Z5⟩:=Zq xs k om
  refine Zm (Zh none (k:Int) 1 (ZZ Z5)) (XN [0,1,5,6,7] [(24,.b ((x1==y)&&(!d)))] (fun gz=>gz) ?_ ?_)
  ·refine Z2 4 (ib (b:=(x1==y)) 21 (fun Ze=>?_) (fun Ze=>?_))
   ·exact Z1 (wk [0] (ZP (!d) Ze fl))
   exact Z1 (wk [0] (ZP false Ze fl))
  refine Kw (fun fz gz F h=>∃(w:Value),F=sF [0,1,7] fz [(5,ZO (if (x1=y)/\(¬(d=true)) then acc else (acc++[x1])) w),(6,.b (((x1==y)&&(!d))||d))]/\h=[.tail w 1]) (fun _ _=>rfl) ?_ ?_
  ·refine ac ((x1==y)&&(!d)) (p:=(x1=y)/\(¬(d=true))) (Xr ZB (Xi Iff.rfl)) (fun Zg=>?_) (fun Zg=>?_)
   ·exact UN (ZH ⟨v,rfl,rfl⟩ (wk [0] (fc (x:=ZO acc v) (Zd.slh _ (Yr Z7 (by first|rfl|(rw [Zw Zg])|(rw [Zr Zg])|(simp [Zg];done)|(rw [Xl];simp [Zg];done)|omega))) (fc (x:=.b true) (lb (by first|rfl|(rw [Zw Zg])|(rw [Zr Zg])|(simp [Zg];done)|(rw [Xl];simp [Zg];done)|omega)) fl))))
   exact az (Z2 3 (Zm (Zh none (k:Int) 1 (ZZ Z5)) (Z2 1 (iL (Z7 [x1]) 1 1 fun v2=>ZE 0 [(30,Z6 [x1])] (ip 1 (Z7 (acc++[x1])) (Z7 acc) (Z7 [x1]) v none 1 (Yw _) (Yw _) (XT _) (by simp<;>omega) (by simp [XQ,Z7]) fun v3=>Z1 (ZH ⟨v3,rfl,rfl⟩ (wk [0] (fc (x:=ZO (acc++[x1]) v3) (Zd.slh _ (Yr Z7 (by first|rfl|(rw [Zw Zg])|(rw [Zr Zg])|(simp [Zg];done)|(rw [Xl];simp [Zg];done)|omega))) (fc (x:=.b d) (lb (by cases d<;>simp_all)) fl)))))))))
  rintro F h ⟨w,rfl,rfl⟩
  exact az (Z2 1 (ZF k (Z1 (ZI ⟨k+1,(if (x1=y)/\(¬(d=true)) then acc else (acc++[x1])),(((x1==y)&&(!d))||d),w,ob,(by split<;>(try simp)<;>omega),(PC Z5 Zp),rfl,rfl,rfl⟩ (wk [0] (fw (ZL k fl)))))))
 exact ax 0 (ar (Zt (r2 [0] [ZO acc v] ⟨v,rfl,rfl⟩ (Zd.slh _ (Yr Z7 (PB om Zp))))))
theorem Z3x (b:Z3) (x:Int) (fs:LI) (q:Nat) (ha:∀s∈b.steps,YP s.op=true->∃a,s.args=[a]) (hf:fs.length<=3:=by exact ob) (hq:q<=1000000000:=by exact ob) (hz:b.sz<=900000000:=by exact ob):Zf 198 [ZC b,.i x,Z6 fs,.i q] [] (Yu (ZC (Qr b x fs q))):=by
 have hbz:=WR b
 have hrl:=DJ b.steps
 have hal:=Es (b.steps.take (Xw b.steps))
 rw [Wq] at hal
 have her:=List.length_erase_le (a:=x) (l:=W4 15 (b.steps.take (Xw b.steps)))
 have har:∀op:Int,YP op=true->∀s∈b.steps.take (Xw b.steps),s.op=op->∃a,s.args=[a]:=fun op ho s hs e=>ha s (Tp hs) (by rw [e];exact ho)
 refine ZD 88 Tryz.func198 (ar (iA (YK b) fun b1=>iA [nl,.i 0] fun b2=>ie (Zo 1 [1] (Zv [] (Z44 b) (Z1 (Zo 2 [1] (ic [] (MD b (Xw b.steps) 14 (ha:=(har _ rfl))) ?_)))))))
 rintro _ _ ⟨v1,rfl,rfl⟩
 refine Z1 (Zo 2 [2] (ic [] (MD b (Xw b.steps) 15 (ha:=(har _ rfl))) ?_))
 rintro _ _ ⟨v2,rfl,rfl⟩
 refine Z1 (Xd (ZE 2 [(22,Z6 (W4 15 (b.steps.take (Xw b.steps))))] (Zv [] (VI (W4 15 (b.steps.take (Xw b.steps))) x) (XN [1,2,3,4,8,9,10,11] [(30,.b ((!(decide (x∈(W4 15 (b.steps.take (Xw b.steps))))))||((fs.length:Int)==0)))] (fun gz=>gz) ?_ ?_))))
 ·refine Z2 2 (ib (b:=(!(decide (x∈(W4 15 (b.steps.take (Xw b.steps))))))) 26 (fun Ze=>?_) (fun Ze=>?_))
  ·exact Z1 (ZT 4 (ZP true Ze fl))
  exact Z2 1 (iw (Ye fs) (Z1 (ZT 4 (ZP ((fs.length:Int)==0) Ze fl))))
 refine ac ((!(decide (x∈(W4 15 (b.steps.take (Xw b.steps))))))||((fs.length:Int)==0)) (p:=(¬(x∈(W4 15 (b.steps.take (Xw b.steps)))))∨((fs.length:Int)=0)) (Xu (Xi dq) ZB) (fun Z9=>?_) (fun Z9=>?_)
 ·exact Zo 1 [3] (ZA 2 b2 (YK b) (ie (ZJ (r3 [] [ZC b] [0] [(b2,b2)] ⟨rfl,rfl⟩ (Zd.agg (.cons (Zd.sl _ (Yr Zi (NW (fun z=>Z9.elim (fun e=>e z.1) (fun e=>z.2 om))).symm)) (.cons li .nil)))))))
 refine ak (ar (ZE 2 [(32,Z6 (W4 15 (b.steps.take (Xw b.steps))))] (ic [] (MQ (W4 15 (b.steps.take (Xw b.steps))) x) ?_)))
 rintro _ _ ⟨v3,rfl,rfl⟩
 refine Z1 (Y0 (ab 0 (Y1 (fun fz gz m F h=>∃(k:Nat) (D:LI) (R:LI) (v:Value),(k<=fs.length)/\(D.length<=b.steps.length)/\(R.length<=b.steps.length+k)/\(VR (fs.drop k) (q+k) D R=KW b.steps x fs q)/\F=sF [1,2,3,4,8,9] fz [(10,Z6 D),(11,ZO R v),(12,.i k)]/\h=[Za gz 3,Za gz 4,.tail v 1]/\m=fs.length-k) _ _ _ ⟨0,(W4 14 (b.steps.take (Xw b.steps))),((W4 15 (b.steps.take (Xw b.steps))).erase x),v3,ob,om,om,(by simp [KW]),rfl,rfl,rfl⟩ (wk [3,3,0] (fc (x:=ZO (W4 14 (b.steps.take (Xw b.steps))) v1) (Zd.forget _ _) (fr (Yd fl)))) ?_)))
 rintro m F h ⟨k,D,R,v,Yf,Zj,Zp,YA,rfl,rfl,rfl⟩
 refine X1 2 (iw (Ye fs) (ZQ ((k:Int)<(fs.length:Int)) (fun Zg=>?_) (fun Zg=>?_)))
 ·refine ak (aq (ab 1 (Yg 2 ?_)))
  obtain ⟨x1,Z5⟩:=Zq fs k om
  refine Zm (Zh none (k:Int) 1 (ZZ Z5)) (XN [1,2,3,4,8,9,10,11,12] [(52,.b ((x1 != 0)&&(decide (((q+k:Nat):Int)∈D))))] (fun gz=>gz) ?_ ?_)
  ·refine Z2 3 (ib (b:=(x1 != 0)) 46 (fun ZU=>?_) (fun ZU=>?_))
   ·exact Z2 3 (ia (((q+k:Nat):Int)) (((q:Int))+((k:Int))) (Zv [] (VI D ((q+k:Nat):Int)) (Z1 (ZT 3 (ZP (decide (((q+k:Nat):Int)∈D)) ZU fl)))))
   exact Z1 (ZT 3 (ZP false ZU fl))
  refine Kw (fun fz gz F h=>∃(D2:LI) (R2:LI) (w:Value),(VR (fs.drop (k+1)) (q+((k+1:Nat):Int)) D2 R2=KW b.steps x fs q)/\(D2.length<=b.steps.length)/\(R2.length<=b.steps.length+(k+1))/\F=sF [1,2,3,4,8,9,12] fz [(10,Z6 D2),(11,ZO R2 w)]/\h=[Za gz 0,Za gz 1,.tail w 1]) (fun _ _=>rfl) ?_ ?_
  ·refine ac ((x1 != 0)&&(decide (((q+k:Nat):Int)∈D))) (p:=(x1≠0)/\(((q+k:Nat):Int)∈D)) (Xr Xa dq) (fun ZK=>?_) (fun ZK=>?_)
   ·refine az (Z2 3 (ia (((q+k:Nat):Int)) (((q:Int))+((k:Int))) (ic [] (MQ D ((q+k:Nat):Int)) ?_)))
    rintro _ _ ⟨v4,rfl,rfl⟩
    exact Z1 (ZH ⟨(D.erase ((q+k:Nat):Int)),R,v,(Z1n Z5 ZK.1 ZK.2 YA),(WJ List.length_erase_le Zj),ob,rfl,rfl⟩ (wk [1,1,1] fl))
   refine Yg 2 (Zm (Zh none (k:Int) 1 (ZZ Z5)) (YR (x1 != 0) Xa (fun Yt=>?_) (fun Yt=>?_)))
   ·exact az (Z2 3 (ia (((q+k:Nat):Int)) (((q:Int))+((k:Int))) (iL (Z7 [((q+k:Nat):Int)]) 1 1 fun v5=>ZE 0 [(67,Z6 [((q+k:Nat):Int)])] (ip 3 (Z7 (R++[((q+k:Nat):Int)])) (Z7 R) (Z7 [((q+k:Nat):Int)]) v none 1 (Yw _) (Yw _) (XT _) (by simp<;>omega) (by simp [XQ,Z7]) fun v6=>Z1 (ZH ⟨D,(R++[((q+k:Nat):Int)]),v6,(Z1o Z5 Yt (fun z=>ZK ⟨Yt,z⟩) YA),ob,(by simp;omega),rfl,rfl⟩ (wk [2,2,0] fl))))))
   exact ak (ZH ⟨D,R,v,(Z1p Z5 Yt YA),ob,ob,rfl,rfl⟩ (ZT 3 fl))
  rintro F h ⟨D2,R2,w,BU,BV,SN,rfl,rfl⟩
  exact az (Z2 1 (ZF k (Z1 (ZI ⟨k+1,D2,R2,w,ob,ob,ob,ob,rfl,rfl,rfl⟩ (ZT 3 (fw (ZL k fl)))))))
 refine ax 0 (Yg 1 (ic [] (TY 14 D) ?_))
 rintro _ _ ⟨v7,rfl,rfl⟩
 refine Z2 1 (Zv [] (Ka 16 x) (iL [Yp (Zl 16 x)] 1 5 fun v8=>ZE 0 [(73,.sl [Yp (Zl 16 x)] none)] (ip 1 (Zi ((D.map (Zl 14))++[Zl 16 x])) (Zi (D.map (Zl 14))) [Yp (Zl 16 x)] v7 none 5 (YX _) (Tg rfl) rfl (by simp<;>omega) (by simp [Wi,WM]) fun v9=>Z1 (ar (ZE 2 [(76,Z6 R)] (ic [] (TY 15 R) ?_))))))
 rintro _ _ ⟨v10,rfl,rfl⟩
 refine ZE 0 [(77,Wo (R.map (Zl 15)))] (ip 1 (Zi (((D.map (Zl 14))++[Zl 16 x])++(R.map (Zl 15)))) (Zi ((D.map (Zl 14))++[Zl 16 x])) (Zi (R.map (Zl 15))) v9 none 5 (YX _) (YX _) (V2 _) (by simp<;>omega) (by simp [Wi,Zi]) fun v11=>Z1 (aD 10 (ZG 6 10 [0,1,2,3] [4] (dx 4 (Kc (es:=Zi b.steps) (hv:=none) (l:=(((Xw b.steps):Nat):Int)) (m:=(((Zi b.steps).length:Nat):Int)) (sz:=5) (es':=Zi (b.steps.drop (Xw b.steps))) kr om (by simp<;>omega) (by simp<;>omega) (YX _) (by first|(simp only [VS,V7,T9,T8];done)|(simp only [VS,V7,T9,T8];rfl)|(simp [T9,T8];done))) (ZG 3 5 [6,7] [4] (Z8 5 (dp 5 0 [1] [b1] (Zi ((((D.map (Zl 14))++[Zl 16 x])++(R.map (Zl 15)))++(b.steps.drop (Xw b.steps)))) (Zi (((D.map (Zl 14))++[Zl 16 x])++(R.map (Zl 15)))) (Zi (b.steps.drop (Xw b.steps))) v11 none 5 (YX _) (YX _) (V2 _) (by simp<;>omega) (by simp [Wi,Zi]) fun v12=>Zk 1 2 [8] (Z8 9 (Yy 9 3 [] [] b2 [YG ((((D.map (Zl 14))++[Zl 16 x])++(R.map (Zl 15)))++(b.steps.drop (Xw b.steps))) v12,.i b.result] (de ?_))))))))))
 have hE:=NY (Ct.1 fun z=>Z9 (.inl z)) (fun z=>Z9 (.inr om)) (Z1m om YA)
 exact ZJ (r3 [] [.agg [YG ((((D.map (Zl 14))++[Zl 16 x])++(R.map (Zl 15)))++(b.steps.drop (Xw b.steps))) v12,.i b.result]] [0] [(b2,b2)] ⟨rfl,rfl⟩ (Zd.agg (.cons (Zd.sl _ (Yr Zi hE)) (.cons li .nil))))
theorem Z48 (n:Zx) (b:Z3) (mm:Nat) (hn:Xh n) (hw:wB n.decls b) (hb:mm+9*b.sz<=900000000) (ih:∀(b2:Z3) (m2:Nat),(wB n.decls b2)->(m2+9*b2.sz<=900000000)->(b2.sz<b.sz)->Zf 151 [Yl n,ZC b2,.i m2] [] (Yu (ZC (Wp n.decls m2 b2)))):Zf 151 [Yl n,ZC b,.i mm] [] (Yu (ZC (Wp n.decls mm b))):=by
 have XB:=hn.decls
 have hbz:=WR b
 have Zs:=(Qp b).1 hw
 refine ZD 107 Tryz.func151 (ar (iA (YN n) fun b1=>iA (YK b) fun b2=>iA [nl,.i 0] fun b3=>ie (ar (iL (Zi []) 0 5 fun v1=>ZV 3 [2] (iA [nl,.i 0] fun b4=>?_)))))
 refine ZA 0 b4 [YG [] v1,.i b.result] (ie (Y0 (ab 0 (Y1 (fun fz gz m F h=>∃(k:Nat) (q:Nat) (xs:List Z4) (v:Value),(k<=b.steps.length)/\(q<=mm+k)/\(xs.length=k)/\(xs++Vx n.decls q (b.steps.drop k)=Vx n.decls mm b.steps)/\F=sF [3,4,6,7] fz [(2,.i q),(8,.i k)]/\h=[.obj b4 [YG xs v,.i b.result],Za gz 2,Za gz 3,Za gz 4,.tail v 5]/\m=b.steps.length-k) _ _ _ ⟨0,mm,[],v1,ob,ob,ob,rfl,rfl,rfl,rfl⟩ (wk [0,1,1,1,0] (fr (Yd fl))) ?_))))
 rintro m F h ⟨k,q,xs,v,Yf,Zj,Zp,YA,rfl,rfl,rfl⟩
 refine Y7 3 [2] (iw (WA b.steps) (ZQ ((k:Int)<(b.steps.length:Int)) (fun Z9=>?_) (fun Z9=>?_)))
 ·refine ak (aq (ab 1 (Zo 3 [2] ?_)))
  obtain ⟨x1,Z5⟩:=Zq b.steps k om
  have X5:=Bj Z5
  have hws:=Nq hw Z5
  have hkz:=U6 x1
  have haz:=T7 x1
  have hdf:=Z68 hws
  refine Zm (Zh none (k:Int) 5 (XR Z5)) (Z2 1 (iA [.i 0,.i 0,.i 0,nl,nl] fun b5=>ZA 0 b5 (Xg x1) (ie (ar (iL (Ys []) 0 2 fun v2=>Z1 (Zo 4 [5,1] (ic [] (K9 n.decls x1.num) ?_)))))))
  rintro _ _ ⟨v3,rfl,rfl⟩
  refine Z1 (Y0 (ab 2 (Y1 (fun fz gz m F h=>∃(j:Nat) (u:Value) (ks:List Z3),(j<=x1.kids.length)/\(ks.length=j)/\(ks++U8 n.decls q x1.op x1.num x1.args (x1.kids.drop j) j=U8 n.decls q x1.op x1.num x1.args x1.kids 0)/\F=sF [2,3,4,6,7,8,9,11] fz [(10,U7 ks u),(12,.i j)]/\h=[Za gz 2,Za gz 3,Za gz 4,Za gz 5,Za gz 6,.tail u 2,Za gz 7,Za gz 0]/\m=x1.kids.length-j) _ _ _ ⟨0,v2,[],ob,ob,(by simp),rfl,rfl,rfl⟩ (wk [2,2,2,2,2,1,1,0] (fr (Yd fl))) ?_)))
  rintro m F h ⟨j,u,ks,VX,Wh,Xm,rfl,rfl,rfl⟩
  refine Y7 3 [0] (iw (Vi x1.kids) (ZQ ((j:Int)<(x1.kids.length:Int)) (fun Zg=>?_) (fun Zg=>?_)))
  ·refine ak (aq (ab 3 (A7 [0] (ac (x1.op==8) ZB (fun ZK=>?_) (fun ZK=>?_)))))
   ·refine aD 8 (ZG 4 8 [0,1,2,3] [4] ?_)
    obtain ⟨x2,Zu⟩:=Zq (Y2 n.decls x1.num) j (by have h:=(Cr hws (by assumption)).2;omega)
    have hfk:VO n.decls x1.num j=Y5 n.decls x2:=HS (by rw [QJ,Zu];rfl)
    have hcf:=VB XB x2
    refine dx 4 (Zh (some v3) (j:Int) 1 (ZZ Zu)) (Zk 2 3 [5] (Z8 6 (Yo 6 [] [] [] (TX n.decls x2) (Zk 0 1 [7] (de (aE 22 (ZG 17 22 [0,1,2,3,4] [4,0] ?_)))))))
    obtain ⟨x3,X0⟩:=Zq x1.kids j om
    have hkb:=X0
    have hks:=VP X0
    have hwk:=GI hws X0
    have hpk:=Z3.pz_le x3
    refine dx 5 (Zh none (j:Int) 2 (Vu X0)) (Zk 13 16 [6,7,8] (dn 9 (.i (((Y5 n.decls x2).length:Nat):Int)) (.i (((Z7 (Y5 n.decls x2)).length:Nat):Int)) (li (by rw [Ye])) (da 10 (((q+((Y5 n.decls x2).length):Nat):Int)) (((q:Int))+((((Y5 n.decls x2).length:Nat):Int))) (ZG 9 11 [12,13] [0] ?_))))
    obtain ⟨x4,Tc⟩:=Zq x1.args 0 (by obtain ⟨⟨a,ha2,_⟩,_⟩:=Cr hws (by assumption);rw [ha2];simp)
    have hg1:=KI Tc
    exact dx 14 (Zh none 0 1 (ZZ Tc)) (Zk 5 8 [15,16,17] (Z8 11 (Yo 11 [] [0] [b5] (ih x3 (q+((Y5 n.decls x2).length)) hwk ob ob) (Z8 18 (Yo 18 [] [] [] (Z3x (Wp n.decls (q+((Y5 n.decls x2).length)) x3) x4 (Y5 n.decls x2) q (ha:=(by rw [DR];exact Z3f ((Qp _).1 hwk))) (hz:=(WJ (DS XB _ hwk) om))) (Z8 19 (dL 19 [] [] [ZC (Qr (Wp n.decls (q+((Y5 n.decls x2).length)) x3) x4 (Y5 n.decls x2) q)] 1 2 fun v4=>Yh 2 2 [] [(72,.sl [ZC (Qr (Wp n.decls (q+((Y5 n.decls x2).length)) x3) x4 (Y5 n.decls x2) q)] none)] (Z8 20 (dp 20 6 [] [] (Ys (ks++[Qr (Wp n.decls (q+((Y5 n.decls x2).length)) x3) x4 (Y5 n.decls x2) q])) (Ys ks) [ZC (Qr (Wp n.decls (q+((Y5 n.decls x2).length)) x3) x4 (Y5 n.decls x2) q)] u none 2 (Uz _) (Tg rfl) rfl (by simp<;>omega) (by simp [KC,VY]) fun v5=>Zk 0 1 [21] (de (az (Z2 1 (ZF j (Z1 (ZI ⟨j+1,v5,(ks++[Qr (Wp n.decls (q+((Y5 n.decls x2).length)) x3) x4 (Y5 n.decls x2) q]),ob,(by simp;omega),(by have h:=Mw hkb Xm;rw [DT,Zw (by assumption),hfk,hg1] at h;exact h),rfl,rfl,rfl⟩ (wk [2,2,2,2,2,0,1,1] (fr (ZL j fl))))))))))))))))))
   refine aE 12 (ZG 7 12 [0,1,2,3,4] [4,0] ?_)
   obtain ⟨x5,UW⟩:=Zq x1.kids j om
   have hkb:=UW
   have hks:=VP UW
   have hwk:=GI hws UW
   have hpk:=Z3.pz_le x5
   exact dx 5 (Zh none (j:Int) 2 (Vu UW)) (Zk 4 6 [6,7] (Z8 8 (Yo 8 [] [] [] (ih x5 q hwk ob ob) (Z8 9 (dL 9 [] [] [ZC (Wp n.decls q x5)] 1 2 fun v6=>Yh 2 2 [] [(83,.sl [ZC (Wp n.decls q x5)] none)] (Z8 10 (dp 10 6 [] [] (Ys (ks++[Wp n.decls q x5])) (Ys ks) [ZC (Wp n.decls q x5)] u none 2 (Uz _) (Tg rfl) rfl (by simp<;>omega) (by simp [KC,VY]) fun v7=>Zk 0 1 [11] (de (az (Z2 1 (ZF j (Z1 (ZI ⟨j+1,v7,(ks++[Wp n.decls q x5]),ob,(by simp;omega),(by have h:=Mw hkb Xm;rw [DT,Zr (by assumption)] at h;exact h),rfl,rfl,rfl⟩ (wk [2,2,2,2,2,0,1,1] (fr (ZL j fl))))))))))))))))
  have hK:=Z3d om Xm
  refine ax 2 (aD 17 (ZG 6 17 [0,1,2,3,4,5,6,7,8,9,11] [1,0,0,0,0] (Z8 10 (dc 10 [] [0,0,0,1] [b5,b5,b5,b4] (Vp x1.args) ?_))))
  rintro _ _ ⟨v8,rfl,rfl⟩
  refine Yh 4 5 [12] [(97,.agg [.i x1.op,.i x1.num,.i x1.into,Z6 x1.args,XF ks])] (Z8 13 (dL 13 [1] [b4] [Yp (Z4.mk x1.op x1.num x1.into x1.args ks)] 1 5 fun v9=>Yh 3 3 [] [(98,.sl [Yp (Z4.mk x1.op x1.num x1.into x1.args ks)] none)] (Z8 14 (dp 14 8 [] [] (Zi (xs++[Z4.mk x1.op x1.num x1.into x1.args ks])) (Zi xs) [Yp (Z4.mk x1.op x1.num x1.into x1.args ks)] v none 5 (YX _) (Tg rfl) rfl (by simp<;>omega) (by simp [Wi,WM]) fun v10=>?_))))
  refine Zk 1 2 [15] (Z8 16 (Yy 16 4 [] [] b4 [YG (xs++[Z4.mk x1.op x1.num x1.into x1.args ks]) v10,.i b.result] (de (Zo 2 [4] (Zv [] (Qn x1.op) (ie (Kw (fun fz gz F h=>F=sF [3,4,6,7,8] fz [(2,.i (((if YP x1.op=true then q else q+1):Nat):Int))]/\h=[Za gz 0,Za gz 5,Za gz 6,Za gz 7,Za gz 1]) (fun _ _=>rfl) ?_ ?_)))))))
  ·refine ac (XE x1.op) Iff.rfl (fun Yt=>?_) (fun Yt=>?_)
   ·exact az (Z2 1 (ZF q (Z1 (ZH ⟨rfl,rfl⟩ (wk [0,4,4,4,0] (fc (x:=.i (q+1:Nat)) (li (by rw [Zr (fun z=>by rw [hdf,z] at Yt;cases Yt)])) fl))))))
   exact ak (ZH ⟨rfl,rfl⟩ (wk [0,4,4,4,0] (fc (x:=.i q) (li (by rw [Zw (GM fun z=>Yt (by rw [hdf,Cs.2 z];rfl))])) fl)))
  rintro F h ⟨rfl,rfl⟩
  exact az (Z2 1 (ZF k (Z1 (ZI ⟨k+1,(if YP x1.op=true then q else q+1),(xs++[Z4.mk x1.op x1.num x1.into x1.args ks]),v10,ob,(by split<;>omega),(by simp;omega),(by have h:=Z3h Z5 YA;rw [<-hK] at h;exact h),rfl,rfl,rfl⟩ (ZT 5 (fr (ZL k fl)))))))
 exact ax 0 (Zo 1 [0] (ZA 1 b3 [YG xs v,.i b.result] (ie (ZJ (r3 [] [.agg [YG xs v,.i b.result]] [0] [(b3,b3)] ⟨rfl,rfl⟩ (Zd.agg (.cons (Zd.sl _ (Yr Zi (by rw [DR];exact Z3g om YA))) (.cons (li (by rw [DR];rfl)) .nil))))))))
theorem Z46 (n:Zx) (hn:Xh n) (k:Nat):∀(b2:Z3) (m2:Nat),(wB n.decls b2)->(m2+9*b2.sz<=900000000)->(b2.sz<k)->Zf 151 [Yl n,ZC b2,.i m2] [] (Yu (ZC (Wp n.decls m2 b2))):=by
 induction k with
 | zero=>intro b mm _ _ h;omega
 | succ k ih=>intro b mm h1 h2 h3;exact Z48 n b mm hn h1 h2 fun b2 m2 k1 k2 k3=>ih b2 m2 k1 k2 om
theorem Z47 (n:Zx) (b:Z3) (mm:Nat) (hn:Xh n:=by exact ob) (hw:wB n.decls b:=by exact ob) (hb:mm+9*b.sz<=900000000:=by exact ob):Zf 151 [Yl n,ZC b,.i mm] [] (Yu (ZC (Wp n.decls mm b))):=Z46 n hn (b.sz+1) b mm hw hb om
theorem Gm (b:Z3) (hz:b.sz<=1000000000:=by exact ob):Zf 254 [ZC b] [] (Yu (.i (((YC b.steps):Nat):Int))):=by
 have hbz:=WR b
 refine ZD 21 Tryz.func254 (ar (iA (YK b) fun b1=>?_))
 refine Z1 (Y9 (aq (ab 0 (Y1 (fun fz gz m F h=>∃(k:Nat),(k<=b.steps.length)/\(k+YC (b.steps.drop k)=YC b.steps)/\F=sF [1] fz [(3,.i k)]/\h=gz/\m=b.steps.length-k) _ _ _ ⟨0,ob,(by simp),rfl,rfl,rfl⟩ (wk [0] (Yd fl)) ?_))))
 rintro m F h ⟨k,Yf,Zj,rfl,rfl,rfl⟩
 refine Y7 3 [0] (iw (WA b.steps) (Z2 2 (ib (b:=(decide ((k:Int)<(b.steps.length:Int)))) 9 (fun Ze=>?_) (fun Ze=>?_))))
 ·have ZX:(k:Int)<(b.steps.length:Int):=(dq).1 Ze
  refine ZV 3 [0] ?_
  obtain ⟨x1,Z5⟩:=Zq b.steps k om
  refine Zm (Zh none (k:Int) 5 (XR Z5)) (Z2 2 (Zv [] (Gl x1.op) (YR (YP x1.op) Iff.rfl (fun Z9=>?_) (fun Z9=>?_))))
  ·exact ak (ab 1 (az (Z2 1 (ZF k (Z1 (ZI ⟨k+1,ob,(Z0b Z5 Z9 Zj),rfl,rfl,rfl⟩ (wk [0] (ZL k fl))))))))
  exact ax 0 (ar (Zt (Y4 (.i k) (li (by have:=Z0c Z5 Z9 Zj;omega)))))
 have Yc:¬((k:Int)<(b.steps.length:Int)):=YT dq Ze
 exact Z1 (Wx (ax 0 (ar (Zt (Y4 (.i k) (li (by have:=Z0a om Zj;omega)))))))
theorem MM (b:Z3) (mm:Nat) (op:Int) (x:Int) (hm:mm<=b.steps.length:=by exact ob) (ha:∀s∈b.steps.take mm,s.op=op->∃a,s.args=[a]) (hz:b.sz<=1000000000:=by exact ob):Zf 255 [ZC b,.i mm,.i op,.i x] [] (Yu (.i (XJ op x (b.steps.take mm) 0))):=by
 have hbz:=WR b
 refine ZD 36 Tryz.func255 (ar (iA (YK b) fun b1=>?_))
 refine Z1 (Y0 (ab 0 (Y1 (fun fz gz m F h=>∃(k:Nat),(k<=mm)/\(XJ op x ((b.steps.take mm).drop k) k=XJ op x (b.steps.take mm) 0)/\F=sF [1,2,3,4] fz [(9,.i k)]/\h=gz/\m=mm-k) _ _ _ ⟨0,ob,(by simp),rfl,rfl,rfl⟩ (wk [0] (Yd fl)) ?_)))
 rintro m F h ⟨k,Yf,Zj,rfl,rfl,rfl⟩
 refine Xd (ZQ ((k:Int)<(mm:Int)) (fun Z9=>?_) (fun Z9=>?_))
 ·refine ak (aq (ab 1 (Zo 3 [0] ?_)))
  obtain ⟨x1,Z5⟩:=Zq b.steps k om
  have hxt:(b.steps.take mm)[k]? = some x1:=by rw [List.getElem?_take_of_lt om];exact Z5
  have hxm:=ZW hxt
  refine Zm (Zh none (k:Int) 5 (XR Z5)) (Z2 5 (ib (b:=(x1.op==op)) 23 (fun Ze=>?_) (fun Ze=>?_)))
  ·have ZX:x1.op=op:=(ZB).1 Ze
   refine ZV 3 [0] (Zm (Zh none (k:Int) 5 (XR Z5)) (Z2 2 ?_))
   obtain ⟨x2,Zu⟩:=Zq x1.args 0 (by obtain ⟨a,ha2⟩:=ha x1 hxm (by assumption);rw [ha2];simp)
   have hg0:=KI Zu
   refine Zm (Zh none 0 1 (ZZ Zu)) (YR (x2==x) ZB (fun Zg=>?_) (fun Zg=>?_))
   ·exact ar (Zt (Y4 (.i k) (li (by have h:=Od hxt ⟨by assumption,by rw [hg0];assumption⟩ Zj;omega))))
   exact ak (az (Z2 1 (ZF k (Z1 (ZI ⟨k+1,ob,(H3 hxt (fun z=>Zg (by rw [<-hg0];exact z.2)) Zj),rfl,rfl,rfl⟩ (wk [0] (ZL k fl)))))))
  have Yc:¬(x1.op=op):=YT ZB Ze
  exact Z1 (Wx (ak (az (Z2 1 (ZF k (Z1 (ZI ⟨k+1,ob,(H3 hxt (fun z=>absurd z.1 (by assumption)) Zj),rfl,rfl,rfl⟩ (wk [0] (ZL k fl)))))))))
 exact ax 0 (ar (Zt (Y4 (.i (-1)) (li (by have h:=Oc (by rw [Wq];omega) Zj;omega)))))
theorem Z3p (b:Z3) (frm0:Nat) (many:Nat) (hm:frm0<=b.steps.length:=by exact ob) (hz:b.sz<=1000000000:=by exact ob):Zf 285 [ZC b,.i frm0,.i many] [] (Yu (.i (W0 many (b.steps.drop frm0) frm0))):=by
 have hbz:=WR b
 refine ZD 44 Tryz.func285 (ar (iA (YK b) fun b1=>?_))
 refine Z1 (Y0 (ab 0 (Y1 (fun fz gz m F h=>∃(k:Nat),(k<=b.steps.length)/\(W0 many (b.steps.drop k) k=W0 many (b.steps.drop frm0) frm0)/\F=sF [2,3] fz [(7,.i k)]/\h=gz/\m=b.steps.length-k) _ _ _ ⟨frm0,ob,rfl,rfl,rfl,rfl⟩ (wk [0] fl) ?_)))
 rintro m F h ⟨k,Yf,Zj,rfl,rfl,rfl⟩
 refine Y7 3 [0] (iw (WA b.steps) (ZQ ((k:Int)<(b.steps.length:Int)) (fun Z9=>?_) (fun Z9=>?_)))
 ·refine ak (aq (ab 1 (Zo 3 [0] ?_)))
  obtain ⟨x1,Z5⟩:=Zq b.steps k om
  refine Zm (Zh none (k:Int) 5 (XR Z5)) (Vc 16 [2,3,7] [(31,.b ((x1.op==6)&&(x1.into==0)))] (fun gz=>gz) ?_ (fun hj1=>?_))
  ·refine XN [2,3,7] [(42,.b (((x1.op==6)&&(x1.into==0))&&((x1.args.length:Int)==(many:Int))))] (fun gz=>gz) ?_ ?_
   ·refine Z2 1 (ib (b:=((x1.op==6)&&(x1.into==0))) 32 (fun Ze=>?_) (fun Ze=>?_))
    ·exact ZV 3 [0] (Zm (Zh none (k:Int) 5 (XR Z5)) (Z2 2 (iw (Ye x1.args) (Z1 (wk [0] (ZP ((x1.args.length:Int)==(many:Int)) Ze fl))))))
    exact Z1 (wk [0] (ZP false Ze fl))
   refine ac (((x1.op==6)&&(x1.into==0))&&((x1.args.length:Int)==(many:Int))) (p:=((x1.op=6)/\(x1.into=0))/\((x1.args.length:Int)=(many:Int))) (Xr (Xr ZB ZB) ZB) (fun Zg=>?_) (fun Zg=>?_)
   ·exact ar (Zt (Y4 (.i k) (li (by have h:=OO Z5 (show TP many x1 from ⟨Zg.1,by omega⟩) Zj;omega))))
   exact ak (az (Z2 1 (ZF k (Z1 (ZI ⟨k+1,ob,(ON Z5 (fun z=>Zg ⟨z.1,by have:=z.2;omega⟩) Zj),rfl,rfl,rfl⟩ (wk [0] (ZL k fl)))))))
  refine Z2 4 (ib (b:=(x1.op==6)) 23 (fun ZU=>?_) (fun ZU=>?_))
  ·exact ZV 3 [0] (Zm (Zh none (k:Int) 5 (XR Z5)) (Z2 4 (Xy (wk [0] (ZP (x1.into==0) ZU fl)) hj1)))
  exact Z2 8 (Xy (wk [0] (ZP false ZU fl)) hj1)
 exact ax 0 (ar (Zt (Y4 (.i (-1)) (li (by have h:=OM om Zj;omega)))))
theorem OU (b:Z3) (hz:b.sz<=1000000000):Zf 97 [ZC b] [] (fun r h=>∃(v:Hd),r=.agg [.h v,.i b.result]/\h=[rK v 5 (Zb (Zi b.steps))]):=by
 have hbz:=WR b
 refine ZD 28 Tryz.func97 (ar (iA (YK b) fun b1=>iA [nl,.i 0] fun b2=>ie (ar (Dh 5 fun g1=>ZV 3 [2] (iA [nl,.i 0] fun b3=>?_)))))
 refine ZA 0 b3 [.ms g1 0 0 0,.i b.result] (ie (Y0 (ab 0 (Y1 (fun fz gz m F h=>∃(k:Nat) (v:Hd),(k<=b.steps.length)/\F=sF [1,2,3] fz [(4,.i k)]/\h=[.obj b3 [.h v,.i b.result],Za gz 2,Za gz 3,rK v 5 (Zb (Zi (b.steps.take k)))]/\m=b.steps.length-k) _ _ _ ⟨0,(⟨some ⟨g1,0,none⟩,0,0⟩:Hd),ob,rfl,rfl,rfl⟩ (wk [0,1,1,0] (Yd fl) (e:=(rc (rc (rc (rr (ls:=[]) ob rz)))))) ?_))))
 rintro m F h ⟨k,v,Yf,rfl,rfl,rfl⟩
 refine Y7 3 [2] (iw (WA b.steps) (ZQ ((k:Int)<(b.steps.length:Int)) (fun Z9=>?_) (fun Z9=>?_)))
 ·refine ak (aq (ab 1 (aE 12 (ZG 7 12 [0,1,2,3,4] [0,2] ?_))))
  obtain ⟨x1,Z5⟩:=Zq b.steps k om
  have hss:=TH Z5
  exact dx 5 (Zh none (k:Int) 5 (XR Z5)) (Zk 5 6 [6] (Z8 7 (Yo 7 [] [0] [b3] (MH x1) (Z8 8 (dL 8 [0] [b3] [Yp x1] 1 5 fun v1=>Yh 3 3 [] [(24,.sl [Yp x1] none)] (Z8 9 (EF 9 4 k [] [] v 5 (Zb (Zi (b.steps.take k))) [Yp x1] none (by rw [Tx,Wq,V8 om]) (Tg rfl) rfl (List.cons_ne_nil _ _) (by simp<;>omega) fun v2=>Zk 1 2 [10] (Z8 11 (Yy 11 2 [] [] b3 [.h v2,.i b.result] (de (az (Z2 1 (ZF k (Z1 (ZI ⟨k+1,v2,ob,rfl,rfl,rfl⟩ (wk [0,2,2,0] (ZL k fl) (e:=(rc (rc (rc (rr (ls:=Zb (Zi (b.steps.take k))++Zb [Yp x1]) (HX Z5) rz)))))))))))))))))))))
 exact ax 0 (Zo 1 [0] (ZA 1 b2 [.h v,.i b.result] (ie (ZJ (r3 [3] [.agg [.h v,.i b.result]] [0] [(b2,b2)] ⟨v,rfl,rfl⟩ (lr _) (eq:=(rr (ls:=Zb (Zi (b.steps.take k))) (by rw [WS om]) rz)))))))
theorem OT (b:Z3) (hz:b.sz<=1000000000:=by exact ob) (h0:0<b.steps.length:=by exact ob):Zf 97 [ZC b] [] (fun r h=>∃(g:Nat) (c:Nat),r=.agg [.ms g 0 b.steps.length c,.i b.result]/\h=[.row (.slice (some ⟨g,0,none⟩) b.steps.length c) 5 (Zb (Zi b.steps))]):=(OU b hz).form (T:=fun v=>.agg [.h v,.i b.result]) (m:=b.steps.length) (Tx _) om h0
theorem Z3y (ds:List Zc) (b:Z3) (x:Int) (many:Nat) (hw:wB ds b:=by exact ob) (hx:0<=x/\x<=900000000:=by exact ob) (hz:b.sz<=1000000000:=by exact ob):Zf 253 [ZC b,.i x,.i many] [] (Yu (ZC (V5 b x many))):=by
 have hbz:=WR b
 have Zs:=(Qp b).1 hw
 have hrl:=BZ b.steps
 refine ZD 57 Tryz.func253 (ar (iA (YK b) fun b1=>iA [nl,.i 0] fun b2=>ie (aD 6 (ZG 3 6 [0,1,3] [1,1] (Z8 2 (Yo 2 [] [1] [b1] (Gm b) (Z8 4 (Yo 4 [] [] [] (MM b (YC b.steps) 16 x (ha:=(fun s hs h16=>GQ (Ed Zs s (Tp hs) (by rw [h16];rfl))))) (Zk 0 1 [5] (de (aD 6 (ZG 3 6 [0,1,3] [1,1] (Z8 2 (Yo 2 [] [1] [b1] (Gm b) (Z8 4 (Yo 4 [] [] [] (Z3p b (YC b.steps) many) (Zk 0 1 [5] (de (Xd (XN [1,3,6,7,8] [(26,.b ((decide ((XJ 16 x (b.steps.take (YC b.steps)) 0)<0))||(decide ((W0 many (b.steps.drop (YC b.steps)) (YC b.steps))<0))))] (fun gz=>gz) ?_ ?_))))))))))))))))))))
 ·refine Z2 3 (ib (b:=(decide ((XJ 16 x (b.steps.take (YC b.steps)) 0)<0))) 23 (fun Ze=>?_) (fun Ze=>?_))
  ·exact Z1 (wk [0,0] (ZP true Ze fl))
  exact Z1 (wk [0,0] (ZP (decide ((W0 many (b.steps.drop (YC b.steps)) (YC b.steps))<0)) Ze fl))
 refine ac ((decide ((XJ 16 x (b.steps.take (YC b.steps)) 0)<0))||(decide ((W0 many (b.steps.drop (YC b.steps)) (YC b.steps))<0))) (p:=((XJ 16 x (b.steps.take (YC b.steps)) 0)<0)∨((W0 many (b.steps.drop (YC b.steps)) (YC b.steps))<0)) (Xu dq dq) (fun Z9=>?_) (fun Z9=>?_)
 ·exact Zo 1 [1] (ZA 0 b2 (YK b) (ie (ZJ (r3 [] [ZC b] [0] [(b2,b2)] ⟨rfl,rfl⟩ (Zd.agg (.cons (Zd.sl _ (Yr Zi (Z26 Z9).symm)) (.cons li .nil)))))))
 obtain ⟨o1,o2,so,o3,o4⟩:=C8 (xs:=b.steps) (x:=x) (fun z=>Z9 (.inl z))
 obtain ⟨p1,p2,sc,p3,p4,p5⟩:=Kv (xs:=b.steps) (many:=many) (fun z=>Z9 (.inr z))
 rw [show WF b.steps x=(XJ 16 x (b.steps.take (YC b.steps)) 0) from rfl] at o1 o2
 rw [show W7 b.steps many=(W0 many (b.steps.drop (YC b.steps)) (YC b.steps)) from rfl] at p1 p2
 refine ak (Zo 1 [1] (ic [] (OT b) ?_))
 rintro _ _ ⟨g1,c1,rfl,rfl⟩
 exact iA [nl,.i 0] fun b3=>ZA 0 b3 [.ms g1 0 b.steps.length c1,.i b.result] (ie (aD 7 (ZG 3 7 [0,1,2,3] [0] (Z8 4 (Yo 4 [] [0] [b3] (Ka 17 x) (dx 5 (XS g1 b.steps.length c1 ((XJ 16 x (b.steps.take (YC b.steps)) 0).toNat) 5 (XJ 16 x (b.steps.take (YC b.steps)) 0)) (Z8 6 (JW 6 1 [] [] g1 b.steps.length c1 5 (((XJ 16 x (b.steps.take (YC b.steps)) 0).toNat)*5) (Xg (Zl 17 x)) (Zb (Zi b.steps)) (Zb (Zi (b.steps.set (XJ 16 x (b.steps.take (YC b.steps)) 0).toNat (Zl 17 x)))) (by have:(Xg (Zl 17 x)).length=5:=rfl;rw [Tx];omega) (D6 o3) (de (Zo 3 [1] (Zm (XS g1 b.steps.length c1 ((W0 many (b.steps.drop (YC b.steps)) (YC b.steps)).toNat) 5 (W0 many (b.steps.drop (YC b.steps)) (YC b.steps))) (Vl (WC 0 g1 b.steps.length c1 5 (((W0 many (b.steps.drop (YC b.steps)) (YC b.steps)).toNat)*5) (Zb (Zi (b.steps.set (XJ 16 x (b.steps.take (YC b.steps)) 0).toNat (Zl 17 x)))) (Xg sc) 52 (Yp sc) (F9 (DF Z9 p3))) (iA [.i 0,.i 0,.i 0,nl,nl] fun b4=>ZA 0 b4 (Xg sc) (ie (Zo 8 [2,0,0] (ia ((1+x)) ((1)+(x)) (ZV 5 [0,0] (Zm (XS g1 b.steps.length c1 ((W0 many (b.steps.drop (YC b.steps)) (YC b.steps)).toNat) 5 (W0 many (b.steps.drop (YC b.steps)) (YC b.steps))) (BS 1 g1 b.steps.length c1 5 (((W0 many (b.steps.drop (YC b.steps)) (YC b.steps)).toNat)*5) [.i sc.op,.i sc.num,.i (1+x),Z6 sc.args,XF sc.kids] (Zb (Zi (b.steps.set (XJ 16 x (b.steps.take (YC b.steps)) 0).toNat (Zl 17 x)))) (Zb (Zi ((b.steps.set (XJ 16 x (b.steps.take (YC b.steps)) 0).toNat (Zl 17 x)).set (W0 many (b.steps.drop (YC b.steps)) (YC b.steps)).toNat (Te (1+x) sc)))) (by rw [Tx,Uu];simp only [YD,X6];omega) (D6 (t:=Te (1+x) sc) (DF Z9 p3)) (Xv (Uc 0 1 0 (.slice (some ⟨g1,0,none⟩) b.steps.length c1) 5 b3 (Zi ((b.steps.set (XJ 16 x (b.steps.take (YC b.steps)) 0).toNat (Zl 17 x)).set (W0 many (b.steps.drop (YC b.steps)) (YC b.steps)).toNat (Te (1+x) sc))) [.ms g1 0 b.steps.length c1,.i b.result] (YX _) rfl) (ie (Zo 1 [0] (ZA 3 b2 [YG ((b.steps.set (XJ 16 x (b.steps.take (YC b.steps)) 0).toNat (Zl 17 x)).set (W0 many (b.steps.drop (YC b.steps)) (YC b.steps)).toNat (Te (1+x) sc)) (.slice (some ⟨g1,0,none⟩) b.steps.length c1),.i b.result] (ie (ZJ (r3 [] [.agg [YG ((b.steps.set (XJ 16 x (b.steps.take (YC b.steps)) 0).toNat (Zl 17 x)).set (W0 many (b.steps.drop (YC b.steps)) (YC b.steps)).toNat (Te (1+x) sc)) (.slice (some ⟨g1,0,none⟩) b.steps.length c1),.i b.result]] [0] [(b2,b2)] ⟨rfl,rfl⟩ (Zd.agg (.cons (Zd.sl _ (Yr Zi (Z27 Z9 p5))) (.cons li .nil)))))))))))))))))))))))))))))
theorem Z3v (xs:LI) (y:Int) (hl:xs.length<=1000000000:=by exact ob):Zf 256 [Z6 xs,.i y] [] (fun r h=>∃(ys:LI),r=Z6 ys/\h=[]/\(ys.length<=xs.length+1/\∀z,z∈ys↔z∈xs∨z=y)):=by
 refine ZD 49 Tryz.func256 (Y9 (ar (iL (Z7 []) 0 1 fun v1=>?_)))
 refine Z1 (Y9 (Y0 (ab 0 (Y1 (fun fz gz m F h=>∃(k:Nat) (acc:LI) (d:Bool) (v:Value),(k<=xs.length)/\(Q6 xs y k acc d)/\F=sF [0,1] fz [(5,ZO acc v),(6,.b d),(7,.i k)]/\h=[.tail v 1]/\m=xs.length-k) _ _ _ ⟨0,[],false,v1,ob,(Q6.zero xs y),rfl,rfl,rfl⟩ (wk [0] (fw (Yd fl))) ?_))))
 rintro m F h ⟨k,acc,d,v,Yf,Zj,rfl,rfl,rfl⟩
 refine X1 2 (iw (Ye xs) (ZQ ((k:Int)<(xs.length:Int)) (fun Z9=>?_) (fun Z9=>?_)))
 ·obtain ⟨x1,Z5⟩:=Zq xs k om
  have hil:acc.length<=k+1:=WJ Zj.len (by split<;>omega)
  refine ak (aq (ab 1 (Xd (XN [0,1,5,6,7] [(24,.b ((!d)&&(decide (x1>=y))))] (fun gz=>gz) ?_ ?_))))
  ·refine Z2 3 (ib (b:=(!d)) 17 (fun Ze=>?_) (fun Ze=>?_))
   ·exact Z2 2 (Zm (Zh none (k:Int) 1 (ZZ Z5)) (Z1 (wk [0] (ZP (decide (x1>=y)) Ze fl))))
   exact Z1 (wk [0] (ZP false Ze fl))
  refine XA (fun fz gz F h=>∃(acc2:LI) (d2:Bool) (w:Value),((acc2=acc/\d2=d)∨(acc2=acc++[y]/\d2=true/\¬d=true)∨(acc2=acc/\d2=true/\x1=y))/\(acc2.length<=acc.length+1)/\F=sF [0,1,7] fz [(5,ZO acc2 w),(6,.b d2)]/\h=[.tail w 1]) ?_ ?_
  ·refine ac ((!d)&&(decide (x1>=y))) (p:=(¬(d=true))/\(x1>=y)) (Xr (Xi Iff.rfl) dq) (fun Zg=>?_) (fun Zg=>?_)
   ·refine X1 2 (Zm (Zh none (k:Int) 1 (ZZ Z5)) (Z1 (XA (fun fz gz F h=>∃(w3:Value),F=sF [0,1,7] fz [(5,ZO (if x1>y then (acc++[y]) else acc) w3)]/\h=[.tail w3 1]) ?_ ?_)))
    ·refine VJ (x1>y) (fun ZK=>?_) (fun ZK=>?_)
     ·exact az (Z2 2 (iL (Z7 [y]) 1 1 fun v2=>ZE 0 [(33,Z6 [y])] (ip 1 (Z7 (acc++[y])) (Z7 acc) (Z7 [y]) v none 1 (Yw _) (Yw _) (XT _) (by simp<;>omega) (by simp [XQ,Z7]) fun v3=>Z1 (ZH ⟨v3,rfl,rfl⟩ (wk [0] (fc (x:=ZO (acc++[y]) v3) (Zd.slh _ (Yr Z7 (by first|rfl|(rw [Zw ZK])|(rw [Zr ZK])|(simp [ZK];done)|(rw [Xl];simp [ZK];done)|omega))) fl))))))
     exact ak (ZH ⟨v,rfl,rfl⟩ (wk [0] (fc (x:=ZO acc v) (Zd.slh _ (Yr Z7 (by first|rfl|(rw [Zw ZK])|(rw [Zr ZK])|(simp [ZK];done)|(rw [Xl];simp [ZK];done)|omega))) fl)))
    rintro F h ⟨w3,rfl,rfl⟩
    exact UN (ZH ⟨(if x1>y then (acc++[y]) else acc),true,w3,(if h:x1>y then (by rw [Zw h];exact .inr (.inl ⟨rfl,rfl,Zg.1⟩)) else (by rw [Zr h];exact .inr (.inr ⟨rfl,rfl,by have:=Zg.2;omega⟩))),(by split<;>simp),rfl,rfl⟩ (wk [0] fl))
   exact ak (ZH ⟨acc,d,v,(.inl ⟨rfl,rfl⟩),ob,rfl,rfl⟩ (wk [0] fl))
  rintro F h ⟨acc2,d2,w,V4,KR,rfl,rfl⟩
  exact az (Z2 3 (Zm (Zh none (k:Int) 1 (ZZ Z5)) (Z2 1 (iL (Z7 [x1]) 1 1 fun v4=>ZE 0 [(40,Z6 [x1])] (ip 1 (Z7 (acc2++[x1])) (Z7 acc2) (Z7 [x1]) w none 1 (Yw _) (Yw _) (XT _) (by simp<;>omega) (by simp [XQ,Z7]) fun v5=>Z1 (az (Z2 1 (ZF k (Z1 (ZI ⟨k+1,(acc2++[x1]),d2,v5,ob,(Zj.go Z5 V4),rfl,rfl,rfl⟩ (wk [0] (fw (ZL k fl)))))))))))))
 have hil:acc.length<=k+1:=WJ Zj.len (by split<;>omega)
 refine ax 0 (Y0 (XA (fun fz gz F h=>∃(w4:Value),F=sF [] fz [(5,ZO (if d=true then acc else (acc++[y])) w4)]/\h=[.tail w4 1]) ?_ ?_))
 ·refine ac (!d) (p:=¬(d=true)) (Xi Iff.rfl) (fun Yt=>?_) (fun Yt=>?_)
  ·exact az (Z2 2 (iL (Z7 [y]) 1 1 fun v6=>ZE 0 [(46,Z6 [y])] (ip 1 (Z7 (acc++[y])) (Z7 acc) (Z7 [y]) v none 1 (Yw _) (Yw _) (XT _) (by simp<;>omega) (by simp [XQ,Z7]) fun v7=>Z1 (ZH ⟨v7,rfl,rfl⟩ (wk [0] (fc (x:=ZO (acc++[y]) v7) (Zd.slh _ (Yr Z7 (by first|rfl|(rw [Zw Yt])|(rw [Zr Yt])|(simp [Yt];done)|(rw [Xl];simp [Yt];done)|omega))) fl))))))
  exact ak (ZH ⟨v,rfl,rfl⟩ (wk [0] (fc (x:=ZO acc v) (Zd.slh _ (Yr Z7 (by first|rfl|(rw [Zw Yt])|(rw [Zr Yt])|(simp [Yt];done)|(rw [Xl];simp [Yt];done)|omega))) fl)))
 rintro F h ⟨w4,rfl,rfl⟩
 exact ar (Zt (r2 [] [ZO (if d=true then acc else (acc++[y])) w4] ⟨(if d=true then acc else (acc++[y])),rfl,rfl,(if hd:d=true then (by rw [Zw hd];exact (Zj.fin om).1 hd) else (by rw [Zr hd];exact (Zj.fin om).2 hd))⟩ (Zd.forget _ _)))
theorem Z41 (n:Zx) (s:Z4) (j:Nat) (kept:LI) (kd:Z3) (hn:Xh n) (hws:wS n.decls s) (hkd:s.kids[j]? = some kd) (hnk:TB kd) (hK:kept.length+s.sz<=900000000) (ih:∀(b2:Z3) (K2:LI),(wB n.decls b2)->(Jw b2)->(K2.length+b2.sz<=900000000)->(b2.sz<s.sz)->Zf 152 [Yl n,ZC b2,Z6 K2] [] (Yu (ZC (W2 n.decls K2 b2)))):Zf 199 [Yl n,Yp s,.i j,Z6 kept] [] (Yu (ZC (UG n.decls kept s.op s.num s.args j kd))):=by
 have XB:=hn.decls
 have hks:=VP hkd
 have hwk:=GI hws hkd
 have haz:=T7 s
 have hjl:=(XC.1 hkd).1
 refine ZD 65 Tryz.func199 (ar (iA (YN n) fun b1=>iA (Xg s) fun b2=>iA [nl,.i 0] fun b3=>ie (Xd (VG [1] (ac (s.op != 8) Xa (fun Z9=>?_) (fun Z9=>?_))))))
 ·refine aD 9 (ZG 5 9 [0,1,2,3] [2,1] (dx 4 (Zh none (j:Int) 2 (Vu hkd)) (Zk 2 4 [5,6] (Z8 7 (Yo 7 [] [] [] (ih kd kept (by first|exact hwk|exact KR) (by first|exact Al hnk|exact Fw) ob ob) (Z8 8 (Yy 8 0 [] [] b3 (YK (W2 n.decls kept kd)) (de ?_))))))))
  have hE:=Mb (ds:=n.decls) (kept:=kept) (op:=s.op) (num:=s.num) (args:=s.args) (j:=j) (kd:=kd) (fun z=>Z9 z.1)
  exact ZJ (r3 [] [ZC (W2 n.decls kept kd)] [0] [(b3,b3)] ⟨rfl,rfl⟩ (Zd.agg (.cons (Zd.sl _ (Yr Zi (by rw [hE]))) (.cons (li (by rw [hE])) .nil))))
 refine ak (Zo 2 [1] ?_)
 obtain ⟨x1,Z5⟩:=Zq s.args 0 (by obtain ⟨⟨a,ha2,_⟩,_⟩:=Cr hws om;rw [ha2];simp)
 have hg1:=KI Z5
 have hxb:0<=x1/\x1<=900000000:=by obtain ⟨⟨a,ha2,ha3⟩,_⟩:=Cr hws om;rw [ha2] at hg1;have:a=x1:=hg1;omega
 refine Zm (Zh none 0 1 (ZZ Z5)) (Z1 (Zo 3 [1] (Zm (Zh none (j:Int) 2 (Vu hkd)) (Z2 1 (iA [nl,.i 0] fun b4=>?_)))))
 refine ZA 0 b4 (YK kd) (ie (X1 2 (Zv [] (VI kept x1) (Z1 (XA (fun fz gz F h=>∃(B2:Z3) (K2:LI),(W2 n.decls K2 B2=UG n.decls kept s.op s.num s.args j kd)/\(wB n.decls B2)/\(Jw B2)/\(B2.sz<=kd.sz)/\(K2.length<=kept.length+1)/\F=sF [4,8,10] fz [(3,Z6 K2)]/\h=[.obj b4 (YK B2),Za gz 1,Za gz 3]) ?_ ?_)))))
 ·refine ac (!(decide (x1∈kept))) (p:=¬(x1∈kept)) (Xi dq) (fun Zg=>?_) (fun Zg=>?_)
  ·refine aD 16 (ZG 7 16 [0,1,2,3,4,5,6,7,9] [0,3,3,2] (Z8 8 (dc 8 [] [3,0] [b1,b4] (K9 n.decls s.num) ?_)))
   rintro _ _ ⟨v1,rfl,rfl⟩
   obtain ⟨x2,Zu⟩:=Zq (Y2 n.decls s.num) j (by have h:=(Cr hws om).2;omega)
   have hfl:(VO n.decls s.num j).length=(Y5 n.decls x2).length:=by rw [HS (by rw [QJ,Zu];rfl)]
   have hcf:=VB XB x2
   refine dx 10 (Zh (some v1) (j:Int) 1 (ZZ Zu)) (Zk 4 5 [11] (Z8 12 (Yo 12 [] [0] [b4] (TX n.decls x2) (dn 13 (.i (((Y5 n.decls x2).length:Nat):Int)) (.i (((Z7 (Y5 n.decls x2)).length:Nat):Int)) (li (by rw [Ye])) (Z8 14 (Yo 14 [] [] [] (Z3y n.decls kd x1 ((Y5 n.decls x2).length) (hw:=hwk) (hx:=hxb)) ?_))))))
   have hwr:=Z64 (x:=x1) (many:=(Y5 n.decls x2).length) hwk
   have hsr:=Z24 (x:=x1) (many:=(Y5 n.decls x2).length) hwk
   refine Z8 15 (Yy 15 1 [] [] b4 (YK (V5 kd x1 ((Y5 n.decls x2).length))) (de (Zo 1 [0] (Zv [] (Gm (V5 kd x1 ((Y5 n.decls x2).length))) (Z1 (Zo 3 [0] (Zv [] (MM (V5 kd x1 ((Y5 n.decls x2).length)) (YC (V5 kd x1 ((Y5 n.decls x2).length)).steps) 17 x1 (hm:=(BZ _)) (ha:=(fun s2 hs2 h17=>GQ (Ed ((Qp _).1 hwr) s2 (Tp hs2) (by rw [h17];rfl))))) (ZQ ((XJ 17 x1 ((V5 kd x1 ((Y5 n.decls x2).length)).steps.take (YC (V5 kd x1 ((Y5 n.decls x2).length)).steps)) 0)>=0) (fun ZK=>?_) (fun ZK=>?_)))))))))
   ·refine az (Z2 2 (ic [] (Z3v kept x1) ?_))
    rintro _ _ ⟨ys1,rfl,rfl,ZX⟩
    have hin:=ZX
    exact Z1 (ZH ⟨_,_,(Z2m om hg1 Zg hfl ((N5 ((C3 kd).1 hnk)).1 ZK) hin.2),hwr,(Lj hnk),ob,hin.1,rfl,rfl⟩ (wk [0,1,2] (fc (x:=Z6 ys1) (Zd.sl _ (Yr Z7 (by first|rfl|(rw [Zw Zg])|(rw [Zr Zg])|(simp [Zg,ZK,ZX];done)|(rw [Xl];simp [Zg,ZK,ZX];done)|omega))) fl)))
   exact ak (ZH ⟨_,_,(Z2n om hg1 Zg hfl (GM fun z=>ZK ((N5 ((C3 kd).1 hnk)).2 z))),hwr,(Lj hnk),ob,ob,rfl,rfl⟩ (wk [0,1,2] (fc (x:=Z6 kept) (Zd.sl _ (Yr Z7 (by first|rfl|(rw [Zw Zg])|(rw [Zr Zg])|(simp [Zg,ZK];done)|(rw [Xl];simp [Zg,ZK];done)|omega))) fl)))
  exact ak (ZH ⟨_,_,(Mb (fun z=>Zg (hg1▸z.2))),hwk,(Al hnk),ob,ob,rfl,rfl⟩ (wk [0,0,1] (fc (x:=Z6 kept) (Zd.sl _ (Yr Z7 (by first|rfl|(rw [Zw Zg])|(rw [Zr Zg])|(simp [Zg];done)|(rw [Xl];simp [Zg];done)|omega))) fl)))
 rintro F h ⟨B2,K2,V4,KR,Fw,Z6u,Z6v,rfl,rfl⟩
 exact Zo 3 [2,0] (Zv [] (ih B2 K2 (by first|exact hwk|exact KR) (by first|exact Al hnk|exact Fw) ob ob) (ZA 1 b3 (YK (W2 n.decls K2 B2)) (ie (ZJ (r3 [] [ZC (W2 n.decls K2 B2)] [0] [(b3,b3)] ⟨rfl,rfl⟩ (Zd.agg (.cons (Zd.sl _ (Yr Zi (by rw [V4]))) (.cons (li (by rw [V4])) .nil))))))))
theorem Z40 (n:Zx) (b:Z3) (kept:LI) (hn:Xh n) (hw:wB n.decls b) (hn2:Jw b) (hK:kept.length+b.sz<=900000000) (ih:∀(s:Z4) (j:Nat) (kept:LI) (kd:Z3),(wS n.decls s)->(s.kids[j]? = some kd)->(TB kd)->(kept.length+s.sz<=900000000)->(s.sz<b.sz)->Zf 199 [Yl n,Yp s,.i j,Z6 kept] [] (Yu (ZC (UG n.decls kept s.op s.num s.args j kd)))):Zf 152 [Yl n,ZC b,Z6 kept] [] (Yu (ZC (W2 n.decls kept b))):=by
 have XB:=hn.decls
 have hbz:=WR b
 refine ZD 61 Tryz.func152 (ar (iA (YN n) fun b1=>iA (YK b) fun b2=>iA [nl,.i 0] fun b3=>ie (ar (iL (Zi []) 0 5 fun v1=>ZV 3 [2] (iA [nl,.i 0] fun b4=>?_)))))
 refine ZA 0 b4 [YG [] v1,.i b.result] (ie (Y0 (ab 0 (Y1 (fun fz gz m F h=>∃(k:Nat) (xs:List Z4) (v:Value),(k<=b.steps.length)/\(xs.length=k)/\(xs++VF n.decls kept (b.steps.drop k)=VF n.decls kept b.steps)/\F=sF [2,3,4,6,7] fz [(8,.i k)]/\h=[.obj b4 [YG xs v,.i b.result],Za gz 2,Za gz 3,Za gz 4,.tail v 5]/\m=b.steps.length-k) _ _ _ ⟨0,[],v1,ob,ob,rfl,rfl,rfl,rfl⟩ (wk [0,1,1,1,0] (Yd fl)) ?_))))
 rintro m F h ⟨k,xs,v,Yf,Zj,Zp,rfl,rfl,rfl⟩
 refine Y7 3 [2] (iw (WA b.steps) (ZQ ((k:Int)<(b.steps.length:Int)) (fun Z9=>?_) (fun Z9=>?_)))
 ·refine ak (aq (ab 1 (Zo 3 [2] ?_)))
  obtain ⟨x1,Z5⟩:=Zq b.steps k om
  have X5:=Bj Z5
  have hws:=Nq hw Z5
  have hkz:=U6 x1
  have haz:=T7 x1
  refine Zm (Zh none (k:Int) 5 (XR Z5)) (Z2 1 (iA [.i 0,.i 0,.i 0,nl,nl] fun b5=>ZA 0 b5 (Xg x1) (ie (ar (iL (Ys []) 0 2 fun v2=>?_)))))
  refine Z1 (Y0 (ab 2 (Y1 (fun fz gz m F h=>∃(j:Nat) (u:Value) (ks:List Z3),(j<=x1.kids.length)/\(ks.length=j)/\(ks++Vv n.decls kept x1.op x1.num x1.args (x1.kids.drop j) j=Vv n.decls kept x1.op x1.num x1.args x1.kids 0)/\F=sF [2,3,4,6,7,8,9] fz [(10,U7 ks u),(11,.i j)]/\h=[Za gz 1,Za gz 2,Za gz 3,Za gz 4,Za gz 5,.tail u 2,Za gz 6]/\m=x1.kids.length-j) _ _ _ ⟨0,v2,[],ob,ob,(by simp),rfl,rfl,rfl⟩ (wk [1,1,1,1,1,0,0] (fr (Yd fl))) ?_)))
  rintro m F h ⟨j,u,ks,VX,Wh,Xm,rfl,rfl,rfl⟩
  refine Y7 3 [0] (iw (Vi x1.kids) (ZQ ((j:Int)<(x1.kids.length:Int)) (fun Zg=>?_) (fun Zg=>?_)))
  ·obtain ⟨kd,hkd⟩:=Zq x1.kids j om
   exact ak (aq (ab 3 (az (ZV 5 [4,0] (Zv [] (ih x1 j kept kd hws hkd (Z13 hn2 Z5 hkd) ob ob) (iL [ZC (UG n.decls kept x1.op x1.num x1.args j kd)] 1 2 fun v3=>ZE 0 [(42,.sl [ZC (UG n.decls kept x1.op x1.num x1.args j kd)] none)] (ip 6 (Ys (ks++[UG n.decls kept x1.op x1.num x1.args j kd])) (Ys ks) [ZC (UG n.decls kept x1.op x1.num x1.args j kd)] u none 2 (Uz _) (Tg rfl) rfl (by simp<;>omega) (by simp [KC,VY]) fun v4=>Z1 (az (Z2 1 (ZF j (Z1 (ZI ⟨j+1,v4,(ks++[UG n.decls kept x1.op x1.num x1.args j kd]),ob,(by simp;omega),(Z2l hkd Xm),rfl,rfl,rfl⟩ (wk [2,2,2,2,2,0,1] (fr (ZL j fl)))))))))))))))
  have hK:=Z2k om Xm
  refine ax 2 (aE 17 (ZG 6 17 [0,1,2,3,4,5,6,7,8,9,11] [1,0,0,0,0] (Z8 10 (dc 10 [] [0,0,0,1] [b5,b5,b5,b4] (Vp x1.args) ?_))))
  rintro _ _ ⟨v5,rfl,rfl⟩
  exact Yh 4 5 [12] [(56,.agg [.i x1.op,.i x1.num,.i x1.into,Z6 x1.args,XF ks])] (Z8 13 (dL 13 [1] [b4] [Yp (Z4.mk x1.op x1.num x1.into x1.args ks)] 1 5 fun v6=>Yh 3 3 [] [(57,.sl [Yp (Z4.mk x1.op x1.num x1.into x1.args ks)] none)] (Z8 14 (dp 14 8 [] [] (Zi (xs++[Z4.mk x1.op x1.num x1.into x1.args ks])) (Zi xs) [Yp (Z4.mk x1.op x1.num x1.into x1.args ks)] v none 5 (YX _) (Tg rfl) rfl (by simp<;>omega) (by simp [Wi,WM]) fun v7=>Zk 1 2 [15] (Z8 16 (Yy 16 4 [] [] b4 [YG (xs++[Z4.mk x1.op x1.num x1.into x1.args ks]) v7,.i b.result] (de (az (Z2 1 (ZF k (Z1 (ZI ⟨k+1,(xs++[Z4.mk x1.op x1.num x1.into x1.args ks]),v7,ob,(by simp;omega),(by have h:=Z2r Z5 Zp;rw [<-hK] at h;exact h),rfl,rfl,rfl⟩ (wk [0,4,4,4,0] (ZL k fl))))))))))))))
 exact ax 0 (Zo 1 [0] (ZA 1 b3 [YG xs v,.i b.result] (ie (ZJ (r3 [] [.agg [YG xs v,.i b.result]] [0] [(b3,b3)] ⟨rfl,rfl⟩ (Zd.agg (.cons (Zd.sl _ (Yr Zi (by rw [DG];exact Z2q om Zp))) (.cons (li (by rw [DG];rfl)) .nil))))))))
theorem Z42 (n:Zx) (hn:Xh n) (k:Nat):(∀(s:Z4) (j:Nat) (kept:LI) (kd:Z3),(wS n.decls s)->(s.kids[j]? = some kd)->(TB kd)->(kept.length+s.sz<=900000000)->(s.sz<=k)->Zf 199 [Yl n,Yp s,.i j,Z6 kept] [] (Yu (ZC (UG n.decls kept s.op s.num s.args j kd))))/\(∀(b:Z3) (kept:LI),(wB n.decls b)->(Jw b)->(kept.length+b.sz<=900000000)->(b.sz<=k)->Zf 152 [Yl n,ZC b,Z6 kept] [] (Yu (ZC (W2 n.decls kept b)))):=by
 induction k with
 | zero=>exact ⟨fun s j K kd h1 h2 h3 h4 h5=>by have:=s.sz_pos;omega,fun b K h1 h2 h3 h4=>by have:=b.sz_eq;omega⟩
 | succ k ih=>exact ⟨fun s j K kd h1 h2 h3 h4 h5=>Z41 n s j K kd hn h1 h2 h3 h4 fun b2 K2 q1 q2 q3 q4=>ih.2 b2 K2 q1 q2 q3 om,fun b K h1 h2 h3 h4=>Z40 n b K hn h1 h2 h3 fun s j K2 kd q1 q2 q3 q4 q5=>ih.1 s j K2 kd q1 q2 q3 q4 om⟩
theorem Z3z (n:Zx) (b:Z3) (kept:LI) (hn:Xh n:=by exact ob) (hw:wB n.decls b:=by exact ob) (hn2:Jw b:=by exact ob) (hK:kept.length+b.sz<=900000000:=by exact ob):Zf 152 [Yl n,ZC b,Z6 kept] [] (Yu (ZC (W2 n.decls kept b))):=(Z42 n hn b.sz).2 b kept hw hn2 hK (YQ _)
theorem S0 (n:Zx) (hn:Xh n:=by exact ob) (hz:Ja n:=by exact ob) (hwb:∀r∈n.routines,wB n.decls r.body):Zf 118 [Yl n] [] (Yu (Yl (DU n))):=by
 have hzl:=hn.len
 refine ZD 38 Tryz.func118 (ar (iA (YN n) fun b1=>iA [nl,nl] fun b2=>ie (Zo 2 [1] (Zv [] (Ar n.decls (hd:=hn.decls)) (iL (Yx []) 0 5 fun v1=>Z2 1 (iA [nl,nl] fun b3=>?_))))))
 refine ZA 0 b3 [YL n.decls,W6 [] v1] (ie (Y0 (ab 0 (Y1 (fun fz gz m F h=>∃(k:Nat) (v:Value),(k<=n.routines.length)/\F=sF [1,2,3] fz [(4,.i k)]/\h=[.obj b3 [YL n.decls,W6 ((n.routines.take k).map (JD n.decls)) v],Za gz 2,Za gz 3,.tail v 5]/\m=n.routines.length-k) _ _ _ ⟨0,v1,ob,rfl,rfl,rfl⟩ (wk [0,1,1,0] (Yd fl)) ?_))))
 rintro m F h ⟨k,v,Yf,rfl,rfl,rfl⟩
 refine Y7 3 [2] (iw (Uo n.routines) (ZQ ((k:Int)<(n.routines.length:Int)) (fun Z9=>?_) (fun Z9=>?_)))
 ·refine ak (aq (ab 1 (Zo 3 [2] ?_)))
  obtain ⟨x1,Z5⟩:=Zq n.routines k om
  have hrm:=ZW Z5
  have hbz:=hz.body _ hrm
  have hpl:=hn.params_at Z5
  have hll:=hn.lent_at Z5
  have hww:=hwb _ hrm
  exact Zm (Zh none (k:Int) 5 (Wz Z5)) (Z2 1 (iA [nl,nl,.i 0,nl,.i 0] fun b4=>ZA 0 b4 (K1 x1) (ie (aE 15 (ZG 7 15 [0,1,2,3,4,5,6,7] [1,0,3,0,0] (dw 8 (Ye x1.params) (Z8 9 (Yo 9 [] [0,1] [b4,b3] (Z47 n x1.body x1.params.length (hw:=hww)) (Z8 10 (Yo 10 [] [1] [b3] (Bi x1 (Wp n.decls x1.params.length x1.body)) (Z8 11 (dL 11 [1] [b3] (Yx [Y8.mk x1.params x1.lent x1.result (Wp n.decls x1.params.length x1.body)]) 1 5 fun v2=>Yh 3 3 [] [(34,TV [Y8.mk x1.params x1.lent x1.result (Wp n.decls x1.params.length x1.body)])] (Z8 12 (dp 12 5 [] [] (Yx ((n.routines.take (k+1)).map (JD n.decls))) (Yx ((n.routines.take k).map (JD n.decls))) (Yx [Y8.mk x1.params x1.lent x1.result (Wp n.decls x1.params.length x1.body)]) v none 5 (VN _) (VN _) (Jk _) (by simp<;>omega) (by rw [Vq Z5];simp [Yx,JD]) fun v3=>Zk 1 2 [13] (Z8 14 (Yy 14 3 [] [] b3 [YL n.decls,W6 ((n.routines.take (k+1)).map (JD n.decls)) v3] (de (az (Z2 1 (ZF k (Z1 (ZI ⟨k+1,v3,ob,rfl,rfl,rfl⟩ (wk [0,3,3,0] (ZL k fl))))))))))))))))))))))))
 exact ax 0 (Zo 1 [0] (ZA 1 b2 [YL n.decls,W6 ((n.routines.take k).map (JD n.decls)) v] (ie (ZJ (r3 [] [.agg [YL n.decls,W6 ((n.routines.take k).map (JD n.decls)) v]] [0] [(b2,b2)] ⟨rfl,rfl⟩ (Zd.agg (.cons (Zd.sl _ (Yr YW ob)) (.cons (Zd.sl _ (Yr Yx (by rw [WS om];rfl))) .nil))))))))
theorem RX (n:Zx) (hn:Xh n:=by exact ob) (hz:Ja n:=by exact ob) (hwb:∀r∈n.routines,wB n.decls r.body) (hnr:∀r∈n.routines,TB r.body):Zf 119 [Yl n] [] (Yu (Yl (DH n))):=by
 have hzl:=hn.len
 refine ZD 38 Tryz.func119 (ar (iA (YN n) fun b1=>iA [nl,nl] fun b2=>ie (Zo 2 [1] (Zv [] (Ar n.decls (hd:=hn.decls)) (iL (Yx []) 0 5 fun v1=>Z2 1 (iA [nl,nl] fun b3=>?_))))))
 refine ZA 0 b3 [YL n.decls,W6 [] v1] (ie (Y0 (ab 0 (Y1 (fun fz gz m F h=>∃(k:Nat) (v:Value),(k<=n.routines.length)/\F=sF [1,2,3] fz [(4,.i k)]/\h=[.obj b3 [YL n.decls,W6 ((n.routines.take k).map (JA n.decls)) v],Za gz 2,Za gz 3,.tail v 5]/\m=n.routines.length-k) _ _ _ ⟨0,v1,ob,rfl,rfl,rfl⟩ (wk [0,1,1,0] (Yd fl)) ?_))))
 rintro m F h ⟨k,v,Yf,rfl,rfl,rfl⟩
 refine Y7 3 [2] (iw (Uo n.routines) (ZQ ((k:Int)<(n.routines.length:Int)) (fun Z9=>?_) (fun Z9=>?_)))
 ·refine ak (aq (ab 1 (aE 21 (ZG 16 21 [0,1,2,3,4] [0,2] ?_))))
  obtain ⟨x1,Z5⟩:=Zq n.routines k om
  have hrm:=ZW Z5
  have hbz:=hz.body _ hrm
  have hpl:=hn.params_at Z5
  have hll:=hn.lent_at Z5
  have hww:=hwb _ hrm
  exact dx 5 (Zh none (k:Int) 5 (Wz Z5)) (ZG 10 15 [6,7,8,9,10] [2,2] (dx 11 (Zh none (k:Int) 5 (Wz Z5)) (Zk 7 9 [12,13] (Z8 14 (dL 14 [2,2,2,0] [b1,b1,b1,b3] (Z7 []) 0 1 fun v2=>Yh 6 6 [] [(31,Z6 [])] (Z8 15 (Yo 15 [] [2,0] [b1,b3] (Z3z n x1.body [] (hw:=hww) (hn2:=(Al (hnr _ hrm)))) (Z8 16 (Yo 16 [] [0] [b3] (Bi x1 (W2 n.decls [] x1.body)) (Z8 17 (dL 17 [0] [b3] (Yx [Y8.mk x1.params x1.lent x1.result (W2 n.decls [] x1.body)]) 1 5 fun v3=>Yh 3 3 [] [(34,TV [Y8.mk x1.params x1.lent x1.result (W2 n.decls [] x1.body)])] (Z8 18 (dp 18 5 [] [] (Yx ((n.routines.take (k+1)).map (JA n.decls))) (Yx ((n.routines.take k).map (JA n.decls))) (Yx [Y8.mk x1.params x1.lent x1.result (W2 n.decls [] x1.body)]) v none 5 (VN _) (VN _) (Jk _) (by simp<;>omega) (by rw [Vq Z5];simp [Yx,JA]) fun v4=>Zk 1 2 [19] (Z8 20 (Yy 20 3 [] [] b3 [YL n.decls,W6 ((n.routines.take (k+1)).map (JA n.decls)) v4] (de (az (Z2 1 (ZF k (Z1 (ZI ⟨k+1,v4,ob,rfl,rfl,rfl⟩ (wk [0,3,3,0] (ZL k fl)))))))))))))))))))))))
 exact ax 0 (Zo 1 [0] (ZA 1 b2 [YL n.decls,W6 ((n.routines.take k).map (JA n.decls)) v] (ie (ZJ (r3 [] [.agg [YL n.decls,W6 ((n.routines.take k).map (JA n.decls)) v]] [0] [(b2,b2)] ⟨rfl,rfl⟩ (Zd.agg (.cons (Zd.sl _ (Yr YW ob)) (.cons (Zd.sl _ (Yr Yx (by rw [WS om];rfl))) .nil))))))))
theorem Ii (rd:Nat) (bs:LI) (p:Nat) (Zs:∀z∈bs,0<=z/\z<=255) (hp:p+400001<=1000000000:=by exact ob):Zf 90 [.p rd 0] [Yb rd bs p] (fun r h=>∃(n:Zx) (p2:Nat),r=Yl n/\h=[Yb rd bs p2]/\FO n 181 Wc/\p<=p2/\p2<=p+400001):=by
 refine ZD 13 Tryz.func90 (ar (iA [nl,nl] fun b1=>ie (Yg 1 (ic [1] (Rr rd bs p (Zs:=ob)) ?_))))
 rintro _ _ ⟨g1,p21,rfl,rfl,ZX⟩
 have Tz:=ZX
 refine ic [] (RO g1 (hg:=Tz.1)) ?_
 rintro _ _ ⟨n1,rfl,rfl,Yc⟩
 have hnm:=Yc
 refine iA [nl,nl] fun b2=>ZA 0 b2 (YN n1) (ie (X1 1 (ic [1] (XL rd bs p21 3 (Zs:=ob)) ?_)))
 rintro _ _ ⟨k1,rfl,rfl,YM⟩
 refine YR (k1==0) ZB (fun Z9=>?_) (fun Z9=>?_)
 ·refine Zo 1 [1] (ic [] (RC n1 181 (hn:=hnm)) ?_)
  rintro _ _ ⟨n21,rfl,rfl,YZ⟩
  have hlm:=YZ
  exact ZA 2 b1 (YN n21) (ie (ZJ (r3 [1] [Yl n21] [0] [(b1,b1)] ⟨n21,p21+1,rfl,rfl,(by first|exact ⟨hlm,by omega,by omega⟩|exact ⟨hnm,by omega,by omega⟩)⟩ (lr _))))
 exact ak (Zo 1 [1] (ZA 2 b1 (YN n1) (ie (ZJ (r3 [1] [Yl n1] [0] [(b1,b1)] ⟨n1,p21+1,rfl,rfl,(by first|exact ⟨hlm,by omega,by omega⟩|exact ⟨hnm,by omega,by omega⟩)⟩ (lr _))))))
theorem Rl (rd:Nat) (bs:LI) (p:Nat) (Zs:∀z∈bs,0<=z/\z<=255) (hp:p+400002<=1000000000:=by exact ob):Zf 115 [.p rd 0] [Yb rd bs p] (fun r h=>∃(n:Zx) (p2:Nat),r=Yl n/\h=[Yb rd bs p2]/\FO n 814510 WL/\p<=p2/\p2<=p+400002):=by
 refine ZD 15 Tryz.func115 (ar (iA [nl,nl] fun b1=>ie (Yg 1 (ic [1] (Ii rd bs p (Zs:=ob)) ?_))))
 rintro _ _ ⟨n1,p21,rfl,rfl,ZX⟩
 have hpf:=ZX
 refine iA [nl,nl] fun b2=>ZA 0 b2 (YN n1) (ie (Zo 1 [0] (ic [] (Rk n1 181 (hn:=hpf.1)) ?_)))
 rintro _ _ ⟨n21,rfl,rfl,Yc⟩
 have hcf:=FO.le Yc (show 4500*181+10<=814510 by omega)
 refine iA [nl,nl] fun b3=>ZA 0 b3 (YN n21) (ie (X1 1 (ic [2] (XL rd bs p21 4 (Zs:=ob)) ?_)))
 rintro _ _ ⟨k1,rfl,rfl,YM⟩
 refine YR (k1==0) ZB (fun Z9=>?_) (fun Z9=>?_)
 ·refine az (ZV 1 [2] (ic [] (Rv n1 181 (hn:=hpf.1)) ?_))
  rintro _ _ ⟨n22,rfl,rfl,YZ⟩
  have hlf:=FO.le YZ (show 60*181<=814510 by omega)
  exact ZA 1 b3 (YN n22) (ie (Zo 1 [0] (ZA 3 b1 (YN n22) (ie (ZJ (r3 [2] [Yl n22] [0] [(b1,b1)] ⟨n22,p21+1,rfl,rfl,(by first|exact ⟨hlf,by omega,by omega⟩|exact ⟨hcf,by omega,by omega⟩)⟩ (lr _)))))))
 exact ak (Zo 1 [1] (ZA 3 b1 (YN n21) (ie (ZJ (r3 [1] [Yl n21] [0] [(b1,b1)] ⟨n21,p21+1,rfl,rfl,(by first|exact ⟨hlf,by omega,by omega⟩|exact ⟨hcf,by omega,by omega⟩)⟩ (lr _))))))
theorem R3 (rd:Nat) (bs:LI) (p:Nat) (Zs:∀z∈bs,0<=z/\z<=255) (hp:p+400030<=1000000000:=by exact ob):Zf 73 [.p rd 0] [Yb rd bs p] (fun r h=>∃(n:Zx) (p2:Nat),r=Yl n/\h=[Yb rd bs p2]/\ZN n 7330630/\p<=p2/\p2<=p+400030):=by
 refine ZD 35 Tryz.func73 (ar (iA [nl,nl] fun b1=>ie (Yg 1 (ic [1] (Rl rd bs p (Zs:=ob)) ?_))))
 rintro _ _ ⟨n1,p21,rfl,rfl,ZX⟩
 have hcf:=FO.le ZX.1 (show 814510<=814514 by omega)
 have hcp:=ZX
 refine iA [nl,nl] fun b2=>ZA 0 b2 (YN n1) (ie (X1 1 (ic [1] (XL rd bs p21 4 (Zs:=ob)) ?_)))
 rintro _ _ ⟨k1,rfl,rfl,Yc⟩
 refine Z1 (XA (fun fz gz F h=>∃(na:Zx) (pa:Nat),(FO na 814514 WL)/\(p<=pa/\pa<=p+400010)/\F=sF [0,2,3] fz []/\h=[Yb rd bs pa,.obj b2 (YN na),Za gz 2]) ?_ ?_)
 ·refine ac (k1==0) ZB (fun Z9=>?_) (fun Z9=>?_)
  ·refine az (ZV 2 [1] (ic [0] (Ie rd bs (p21+1) n1 (Zs:=ob) (hz:=(by first|exact (FO.zn hcp.1).sz om|exact TA.sz om)) (hl1:=(by first|(have:=hcp.1.fn.len;omega)|(have:=TA.len;omega)))) ?_))
   rintro _ _ ⟨n21,p22,rfl,rfl,YM⟩
   have hho:=YM
   exact ZA 1 b2 (YN n21) (ie (ZH ⟨n21,p22,(FO.held hcp.1 hho.1),ob,rfl,rfl⟩ (wk [1,0,0] fl)))
  exact ak (ZH ⟨n1,p21+1,hcf,ob,rfl,rfl⟩ (ZT 3 fl))
 rintro F h ⟨na,pa,Qh,Fv,rfl,rfl⟩
 refine X1 1 (ic [0] (XL rd bs pa 4 (Zs:=ob)) ?_)
 rintro _ _ ⟨k2,rfl,rfl,YZ⟩
 refine Z1 (XA (fun fz gz F h=>∃(nb:Zx) (pb:Nat),(FO nb 814514 WL)/\(p<=pb/\pb<=p+400012)/\F=sF [0,2,3] fz []/\h=[Yb rd bs pb,.obj b2 (YN nb),Za gz 2]) ?_ ?_)
 ·refine ac (k2==0) ZB (fun Zg=>?_) (fun Zg=>?_)
  ·refine az (ZV 1 [1] (ic [] (R9 na 814514 (hn:=Qh)) ?_))
   rintro _ _ ⟨n22,rfl,rfl,X7⟩
   have hca:=X7
   exact ZA 1 b2 (YN n22) (ie (ZH ⟨n22,pa+1,hca,ob,rfl,rfl⟩ (wk [1,0,0] fl)))
  exact ak (ZH ⟨na,pa+1,Qh,ob,rfl,rfl⟩ (ZT 3 fl))
 rintro F h ⟨nb,pb,V4,KR,rfl,rfl⟩
 refine Yg 1 (ic [0] (XL rd bs pb 3 (Zs:=ob)) ?_)
 rintro _ _ ⟨k3,rfl,rfl,XX⟩
 refine Z1 (Y0 (XA (fun fz gz F h=>∃(nc:Zx) (pc:Nat),(ZN nc 7330626)/\(k3>1->WN nc 7330626)/\(p<=pc/\pc<=p+400014)/\F=sF [0,2,3,4] fz []/\h=[Yb rd bs pc,.obj b2 (YN nc),Za gz 2]) ?_ ?_))
 ·refine VJ (k3>0) (fun ZK=>?_) (fun ZK=>?_)
  ·exact az (ZV 1 [1] (Zv [] (S0 nb (hn:=V4.fn.ok) (hz:=(V4.zn.sz om)) (hwb:=(fun r hr=>(V4.wl om r hr).w))) (ZA 1 b2 (YN (DU nb)) (ie (ZH ⟨(DU nb),pb+1,((V4.wn om).sp.zn),(fun _=>(V4.wn om).sp),ob,rfl,rfl⟩ (wk [1,0,0] fl))))))
  exact ak (ZH ⟨nb,pb+1,(V4.zn.le om),(fun h=>by omega),ob,rfl,rfl⟩ (ZT 3 fl))
 rintro F h ⟨nc,pc,BU,BV,SN,rfl,rfl⟩
 refine Y0 (XA (fun fz gz F h=>∃(nd:Zx) (pd:Nat),(ZN nd 7330626)/\(p<=pd/\pd<=p+400014)/\F=sF [0,2,3] fz []/\h=[Yb rd bs pd,.obj b2 (YN nd),Za gz 2]) ?_ ?_)
 ·refine VJ (k3>1) (fun Yt=>?_) (fun Yt=>?_)
  ·exact az (ZV 1 [1] (Zv [] (RX nc (hn:=(BV (by assumption)).ok) (hz:=(BU.sz om)) (hwb:=(fun r hr=>((BV (by assumption)).wl r hr).w)) (hnr:=(fun r hr=>((BV (by assumption)).wl r hr).nr))) (ZA 1 b2 (YN (DH nc)) (ie (ZH ⟨(DH nc),pc,(BV (by assumption)).ru,ob,rfl,rfl⟩ (wk [1,0,0] fl))))))
  exact ak (ZH ⟨nc,pc,BU,ob,rfl,rfl⟩ (ZT 3 fl))
 rintro F h ⟨nd,pd,TA,SO,rfl,rfl⟩
 refine X1 1 (ic [0] (XL rd bs pd 6 (Zs:=ob)) ?_)
 rintro _ _ ⟨k4,rfl,rfl,Wu⟩
 refine YR (k4==0) ZB (fun XG=>?_) (fun XG=>?_)
 ·refine az (ZV 2 [1] (ic [0] (Ie rd bs (pd+1) nd (Zs:=ob) (hz:=(by first|exact (FO.zn hcp.1).sz om|exact TA.sz om)) (hl1:=(by first|(have:=hcp.1.fn.len;omega)|(have:=TA.len;omega)))) ?_))
  rintro _ _ ⟨n23,p23,rfl,rfl,V3⟩
  have hho:=V3
  exact ZA 1 b2 (YN n23) (ie (Zo 1 [0] (ZA 2 b1 (YN n23) (ie (ZJ (r3 [2] [Yl n23] [0] [(b1,b1)] ⟨n23,p23,rfl,rfl,(by first|exact ⟨TA.held hho.1,by omega,by omega⟩|exact ⟨TA.le om,by omega,by omega⟩)⟩ (lr _)))))))
 exact ak (Zo 1 [1] (ZA 2 b1 (YN nd) (ie (ZJ (r3 [1] [Yl nd] [0] [(b1,b1)] ⟨nd,pd+1,rfl,rfl,(by first|exact ⟨TA.held hho.1,by omega,by omega⟩|exact ⟨TA.le om,by omega,by omega⟩)⟩ (lr _))))))
theorem S4 (rd:Nat) (bs:LI) (p:Nat) (xs:LI) (Zs:∀z∈bs,0<=z/\z<=255) (hp:p+3<=1000000000:=by exact ob) (hl:xs.length<=1000000:=by exact ob):Zf 112 [.p rd 0,Z6 xs] [Yb rd bs p] (fun r h=>∃(zs:LI) (p2:Nat),r=Z6 zs/\h=[Yb rd bs p2]/\zs.length<=xs.length+1/\p<=p2/\p2<=p+3):=by
 refine ZD 32 Tryz.func112 (Y9 (Yg 1 (ic [] (JE xs) ?_)))
 rintro _ _ ⟨v1,rfl,rfl⟩
 refine Z1 (X1 1 (Zm (Au 0 v1 xs) (Z2 2 (ib (b:=(decide ((xs.length:Int)>0))) 11 (fun Ze=>?_) (fun Ze=>?_)))))
 ·have ZX:(xs.length:Int)>0:=(dq).1 Ze
  refine Z2 1 (ic [1] (XL rd bs p 2 (Zs:=ob)) ?_)
  rintro _ _ ⟨k1,rfl,rfl,Yc⟩
  refine YR (k1==0) ZB (fun Z9=>?_) (fun Z9=>?_)
  ·refine Yg 3 (Zm (Au 1 v1 xs) (ic [0] (UQ rd bs (p+1) xs.length (Zs:=ob)) ?_))
   rintro _ _ ⟨Ym,rfl,rfl,YM⟩
   refine Z2 1 (iL (Z7 [0,1,-1,7,1000,1001]) 6 1 fun v2=>ZE 0 [(22,Z6 [0,1,-1,7,1000,1001])] (ic [1] (WV rd bs ((p+1)+1) [0,1,-1,7,1000,1001] (Zs:=ob)) ?_))
   rintro _ _ ⟨z1,rfl,rfl,YZ⟩
   exact Zm (V6 2 v1 xs (Ym:Int) Ym) (Iy 2 v1 xs Ym z1 (ie (Y9 (El 4 0 (v:=v1) (xs:=(xs.set Ym z1)) (ZJ (r2 [1] [ZO (xs.set Ym z1) v1.v] ⟨(xs.set Ym z1),((p+1)+1)+1,rfl,rfl,⟨by simp,by omega,by omega⟩⟩ (Zd.forget _ _)))))))
  refine ak (Yg 2 (iL (Z7 [0,1,2,-1,1000]) 5 1 fun v3=>ZE 0 [(28,Z6 [0,1,2,-1,1000])] (ic [1] (WV rd bs (p+1) [0,1,2,-1,1000] (Zs:=ob)) ?_)))
  rintro _ _ ⟨z2,rfl,rfl,X7⟩
  exact iL (Z7 [z2]) 1 1 fun v4=>ZE 0 [(30,Z6 [z2])] (K0 3 v1 xs [z2] none fun v5=>Z1 (El 4 0 (v:=v5) (xs:=(xs++[z2])) (ZJ (r2 [2] [ZO (xs++[z2]) v5.v] ⟨(xs++[z2]),(p+1)+1,rfl,rfl,⟨by simp,by omega,by omega⟩⟩ (Zd.forget _ _)))))
 have XX:¬((xs.length:Int)>0):=YT dq Ze
 refine Z1 (Wx (ak (Yg 2 (iL (Z7 [0,1,2,-1,1000]) 5 1 fun v6=>ZE 0 [(28,Z6 [0,1,2,-1,1000])] (ic [2] (WV rd bs p [0,1,2,-1,1000] (Zs:=ob)) ?_)))))
 rintro _ _ ⟨z3,rfl,rfl,Wu⟩
 exact iL (Z7 [z3]) 1 1 fun v7=>ZE 0 [(30,Z6 [z3])] (K0 3 v1 xs [z3] none fun v8=>Z1 (El 4 0 (v:=v8) (xs:=(xs++[z3])) (ZJ (r2 [2] [ZO (xs++[z3]) v8.v] ⟨(xs++[z3]),p+1,rfl,rfl,⟨by simp,by omega,by omega⟩⟩ (Zd.forget _ _)))))
theorem OX (s:Z4) (hz:s.sz<=1000000000:=by exact ob):Zf 139 [Yp s] [] (fun r h=>∃(v:Hd),r=.agg [.i s.op,.i s.num,.i s.into,.h v,XF s.kids]/\h=[rV v s.args]):=by
 have hkz:=U6 s
 have haz:=T7 s
 refine ZD 33 Tryz.func139 (ar (iA (Xg s) fun b1=>iA [.i 0,.i 0,.i 0,nl,nl] fun b2=>ie (ar (iL (Ys []) 0 2 fun v1=>?_))))
 refine Z1 (Y0 (ab 0 (Y1 (fun fz gz m F h=>∃(k:Nat) (v:Value),(k<=s.kids.length)/\F=sF [1,2] fz [(3,U7 (s.kids.take k) v),(4,.i k)]/\h=[Za gz 1,Za gz 2,.tail v 2]/\m=s.kids.length-k) _ _ _ ⟨0,v1,ob,rfl,rfl,rfl⟩ (wk [1,1,0] (fc (x:=U7 [] v1) (Zd.slh _ (Yr Ys rfl)) (Yd fl))) ?_)))
 rintro m F h ⟨k,v,Yf,rfl,rfl,rfl⟩
 refine Y7 3 [1] (iw (Vi s.kids) (ZQ ((k:Int)<(s.kids.length:Int)) (fun Z9=>?_) (fun Z9=>?_)))
 ·refine ak (aq (ab 1 (az (ZV 4 [1] ?_))))
  obtain ⟨x1,Z5⟩:=Zq s.kids k om
  have hks:=VP Z5
  exact Zm (Zh none (k:Int) 2 (Vu Z5)) (Z2 1 (Zv [] (DV x1) (iL [ZC x1] 1 2 fun v2=>ZE 0 [(20,.sl [ZC x1] none)] (ip 3 (Ys (s.kids.take (k+1))) (Ys (s.kids.take k)) [ZC x1] v none 2 (Uz _) (Tg rfl) rfl (by simp<;>omega) (by rw [Vq Z5];simp [VY]) fun v3=>Z1 (az (Z2 1 (ZF k (Z1 (ZI ⟨k+1,v3,ob,rfl,rfl,rfl⟩ (wk [2,2,0] (fr (ZL k fl))))))))))))
 refine ax 0 (aD 12 (ZG 3 12 [0,1,2,3,4,5,6,7,9] [1,1,1,1] (Z8 8 (dc 8 [] [1,1,1] [b1,b1,b1] (JE s.args) ?_))))
 rintro _ _ ⟨v4,rfl,rfl⟩
 exact Zk 1 2 [10] (Z8 11 (Yy 11 1 [] [] b2 [.i s.op,.i s.num,.i s.into,.h v4,U7 (s.kids.take k) v] (de (ZJ (r3 [1] [.agg [.i s.op,.i s.num,.i s.into,.h v4,U7 (s.kids.take k) v]] [0] [(b2,b2)] ⟨v4,rfl,rfl⟩ (Zd.agg (.cons (lr _) (.cons (lr _) (.cons (lr _) (.cons (lr _) (.cons (Zd.sl _ (Yr Ys (by rw [WS om]))) .nil)))))))))))
theorem Im (rd:Nat) (bs:LI) (p:Nat) (s:Z4) (Zs:∀z∈bs,0<=z/\z<=255) (hp:p+3<=1000000000:=by exact ob) (hz:s.sz<=100000000:=by exact ob) (hg:s.rgb:=by exact ob):Zf 147 [.p rd 0,Yp s] [Yb rd bs p] (fun r h=>∃(y:Z4) (p2:Nat),r=Yp y/\h=[Yb rd bs p2]/\V9 s y/\p<=p2/\p2<=p+3):=by
 have haz:=T7 s
 have hkz:=U6 s
 refine ZD 66 Tryz.func147 (ar (iA (Xg s) fun b1=>iA [.i 0,.i 0,.i 0,nl,nl] fun b2=>ie (Zo 1 [1] (ic [] (OX s) ?_))))
 rintro _ _ ⟨v1,rfl,rfl⟩
 refine iA [.i 0,.i 0,.i 0,nl,nl] fun b3=>ZA 0 b3 [.i s.op,.i s.num,.i s.into,.h v1,XF s.kids] (ie (X1 1 (ic [4] (XL rd bs p 6 (Zs:=ob)) ?_)))
 rintro _ _ ⟨k1,rfl,rfl,ZX⟩
 refine ie (ab 0 (ar (YR (k1==0) ZB (fun Z9=>?_) (fun Z9=>?_))))
 ·refine az (Z2 1 (iL (Z7 [14,15,16,17,6,9,12,0,1]) 9 1 fun v2=>ZE 0 [(13,Z6 [14,15,16,17,6,9,12,0,1])] (ic [1] (WV rd bs (p+1) [14,15,16,17,6,9,12,0,1] (Zs:=ob)) ?_)))
  rintro _ _ ⟨z1,rfl,rfl,Yc⟩
  have hon:=Yc
  exact Z2 1 (ZA 2 b3 [.i z1,.i s.num,.i s.into,.h v1,XF s.kids] (ie (ar (Xv (Kd 3 v1 s.args) (Xv (Uc 0 0 3 v1.v 1 b3 (Z7 s.args) [.i z1,.i s.num,.i s.into,.h v1,XF s.kids] (Yw _) rfl) (ZV 1 [0] (ZA 4 b2 [.i z1,.i s.num,.i s.into,ZO s.args v1.v,XF s.kids] (ie (ZJ (r3 [3] [.agg [.i z1,.i s.num,.i s.into,ZO s.args v1.v,XF s.kids]] [0] [(b2,b2)] ⟨(Z4.mk z1 s.num s.into s.args s.kids),(p+1)+1,rfl,rfl,⟨by first|exact V9.refl hg|exact V9.of hg (by first|exact .inl rfl|exact .inr hon) (by first|exact Nat.le_succ _|(simp<;>omega)) (by first|exact .inl rfl|exact .inr rfl),by omega,by omega⟩⟩ (Zd.agg (.cons (lr _) (.cons (lr _) (.cons (lr _) (.cons (Zd.forget _ _) (.cons (lr _) .nil))))))))))))))))
 refine ar (YR (k1==1) ZB (fun Zg=>?_) (fun Zg=>?_))
 ·refine az (Z2 1 (iL (Z7 [0,1,2,3,-1,1000]) 6 1 fun v3=>ZE 0 [(19,Z6 [0,1,2,3,-1,1000])] (ic [1] (WV rd bs (p+1) [0,1,2,3,-1,1000] (Zs:=ob)) ?_)))
  rintro _ _ ⟨z2,rfl,rfl,YM⟩
  have hon:=YM
  exact Z2 1 (ZA 2 b3 [.i s.op,.i z2,.i s.into,.h v1,XF s.kids] (ie (ar (Xv (Kd 3 v1 s.args) (Xv (Uc 0 0 3 v1.v 1 b3 (Z7 s.args) [.i s.op,.i z2,.i s.into,.h v1,XF s.kids] (Yw _) rfl) (ZV 1 [0] (ZA 4 b2 [.i s.op,.i z2,.i s.into,ZO s.args v1.v,XF s.kids] (ie (ZJ (r3 [3] [.agg [.i s.op,.i z2,.i s.into,ZO s.args v1.v,XF s.kids]] [0] [(b2,b2)] ⟨(Z4.mk s.op z2 s.into s.args s.kids),(p+1)+1,rfl,rfl,⟨by first|exact V9.refl hg|exact V9.of hg (by first|exact .inl rfl|exact .inr hon) (by first|exact Nat.le_succ _|(simp<;>omega)) (by first|exact .inl rfl|exact .inr rfl),by omega,by omega⟩⟩ (Zd.agg (.cons (lr _) (.cons (lr _) (.cons (lr _) (.cons (Zd.forget _ _) (.cons (lr _) .nil))))))))))))))))
 refine ar (YR (k1==2) ZB (fun ZK=>?_) (fun ZK=>?_))
 ·refine az (Z2 1 (iL (Z7 [1,2,0,-1,90]) 5 1 fun v4=>ZE 0 [(25,Z6 [1,2,0,-1,90])] (ic [1] (WV rd bs (p+1) [1,2,0,-1,90] (Zs:=ob)) ?_)))
  rintro _ _ ⟨z3,rfl,rfl,YZ⟩
  have hon:=YZ
  exact Z2 1 (ZA 2 b3 [.i s.op,.i s.num,.i z3,.h v1,XF s.kids] (ie (ar (Xv (Kd 3 v1 s.args) (Xv (Uc 0 0 3 v1.v 1 b3 (Z7 s.args) [.i s.op,.i s.num,.i z3,.h v1,XF s.kids] (Yw _) rfl) (ZV 1 [0] (ZA 4 b2 [.i s.op,.i s.num,.i z3,ZO s.args v1.v,XF s.kids] (ie (ZJ (r3 [3] [.agg [.i s.op,.i s.num,.i z3,ZO s.args v1.v,XF s.kids]] [0] [(b2,b2)] ⟨(Z4.mk s.op s.num z3 s.args s.kids),(p+1)+1,rfl,rfl,⟨by first|exact V9.refl hg|exact V9.of hg (by first|exact .inl rfl|exact .inr hon) (by first|exact Nat.le_succ _|(simp<;>omega)) (by first|exact .inl rfl|exact .inr rfl),by omega,by omega⟩⟩ (Zd.agg (.cons (lr _) (.cons (lr _) (.cons (lr _) (.cons (Zd.forget _ _) (.cons (lr _) .nil))))))))))))))))
 refine ar (YR (k1==3) ZB (fun Yt=>?_) (fun Yt=>?_))
 ·refine aE 9 (ZG 6 9 [0,1,2] [1] (Z8 3 (dL 3 [1] [b3] (Z7 [0,1,-1]) 3 1 fun v5=>Yh 5 5 [] [(33,Z6 [0,1,-1])] (Z8 4 (dc 4 [1] [0] [b3] (WV rd bs (p+1) [0,1,-1] (Zs:=ob)) ?_)))))
  rintro _ _ ⟨z4,rfl,rfl,X7⟩
  have hon:=X7
  exact Z8 5 (dL 5 [1] [b3] (Z7 [z4]) 1 1 fun v6=>Yh 3 3 [] [(35,Z6 [z4])] (Z8 6 (P0 6 4 [] [] v1 s.args [z4] none fun v7=>Zk 1 2 [7] (Z8 8 (Yy 8 4 [] [] b3 [.i s.op,.i s.num,.i s.into,.h v7,XF s.kids] (de (ar (Xv (Kd 1 v7 (s.args++[z4])) (Xv (Uc 0 0 3 v7.v 1 b3 (Z7 (s.args++[z4])) [.i s.op,.i s.num,.i s.into,.h v7,XF s.kids] (Yw _) rfl) (ZV 1 [0] (ZA 5 b2 [.i s.op,.i s.num,.i s.into,ZO (s.args++[z4]) v7.v,XF s.kids] (ie (ZJ (r3 [4] [.agg [.i s.op,.i s.num,.i s.into,ZO (s.args++[z4]) v7.v,XF s.kids]] [0] [(b2,b2)] ⟨(Z4.mk s.op s.num s.into (s.args++[z4]) s.kids),(p+1)+1,rfl,rfl,⟨by first|exact V9.refl hg|exact V9.of hg (by first|exact .inl rfl|exact .inr hon) (by first|exact Nat.le_succ _|(simp<;>omega)) (by first|exact .inl rfl|exact .inr rfl),by omega,by omega⟩⟩ (Zd.agg (.cons (lr _) (.cons (lr _) (.cons (lr _) (.cons (Zd.forget _ _) (.cons (lr _) .nil))))))))))))))))))))
 refine ar (YR (k1==4) ZB (fun XG=>?_) (fun XG=>?_))
 ·refine Zo 2 [1] (Zm (Au 2 v1 s.args) (ZQ ((s.args.length:Int)>0) (fun XH=>?_) (fun XH=>?_)))
  ·refine aE 12 (ZG 7 12 [0,1,2,3,4] [1,1] (dx 5 (Au 2 v1 s.args) (Zk 5 6 [7] (WT 6 8 ?_ ?_))))
   ·refine dc 6 [0] [0] [b3] (UQ rd bs (p+1) s.args.length (Zs:=ob)) ?_
    rintro _ _ ⟨Ym,rfl,rfl,XX⟩
    refine Z8 8 (dL 8 [1] [b3] (Z7 [0,1,2,3,-1,99]) 6 1 fun v8=>Yh 3 3 [] [(52,Z6 [0,1,2,3,-1,99])] (Z8 9 (dc 9 [1] [0] [b3] (WV rd bs ((p+1)+1) [0,1,2,3,-1,99] (Zs:=ob)) ?_)))
    rintro _ _ ⟨z5,rfl,rfl,Wu⟩
    have hon:=Wu
    exact dx 10 (V6 3 v1 s.args (Ym:Int) Ym) (Z8 11 (Ji 11 3 [] [] v1 s.args Ym z5 (de (ar (Xv (Kd 0 v1 (s.args.set Ym z5)) (Xv (Uc 0 2 3 v1.v 1 b3 (Z7 (s.args.set Ym z5)) [.i s.op,.i s.num,.i s.into,.h v1,XF s.kids] (Yw _) rfl) (ZV 1 [0] (ZA 4 b2 [.i s.op,.i s.num,.i s.into,ZO (s.args.set Ym z5) v1.v,XF s.kids] (ie (ZJ (r3 [3] [.agg [.i s.op,.i s.num,.i s.into,ZO (s.args.set Ym z5) v1.v,XF s.kids]] [0] [(b2,b2)] ⟨(Z4.mk s.op s.num s.into (s.args.set Ym z5) s.kids),((p+1)+1)+1,rfl,rfl,⟨by first|exact V9.refl hg|exact V9.of hg (by first|exact .inl rfl|exact .inr hon) (by first|exact Nat.le_succ _|(simp<;>omega)) (by first|exact .inl rfl|exact .inr rfl),by omega,by omega⟩⟩ (Zd.agg (.cons (lr _) (.cons (lr _) (.cons (lr _) (.cons (Zd.forget _ _) (.cons (lr _) .nil)))))))))))))))))
   refine dL 8 [1,1] [b3,b3] (Z7 [0,1,2,3,-1,99]) 6 1 fun v9=>Z8 6 (dc 6 [1] [0] [b3] (UQ rd bs (p+1) s.args.length (Zs:=ob)) ?_)
   rintro _ _ ⟨YB,rfl,rfl,V3⟩
   refine Yh 3 3 [] [(52,Z6 [0,1,2,3,-1,99])] (Z8 9 (dc 9 [0] [0] [b3] (WV rd bs ((p+1)+1) [0,1,2,3,-1,99] (Zs:=ob)) ?_))
   rintro _ _ ⟨z6,rfl,rfl,Vk⟩
   have hon:=Vk
   exact dx 10 (V6 3 v1 s.args (YB:Int) YB) (Z8 11 (Ji 11 3 [] [] v1 s.args YB z6 (de (ar (Xv (Kd 0 v1 (s.args.set YB z6)) (Xv (Uc 0 2 3 v1.v 1 b3 (Z7 (s.args.set YB z6)) [.i s.op,.i s.num,.i s.into,.h v1,XF s.kids] (Yw _) rfl) (ZV 1 [0] (ZA 4 b2 [.i s.op,.i s.num,.i s.into,ZO (s.args.set YB z6) v1.v,XF s.kids] (ie (ZJ (r3 [3] [.agg [.i s.op,.i s.num,.i s.into,ZO (s.args.set YB z6) v1.v,XF s.kids]] [0] [(b2,b2)] ⟨(Z4.mk s.op s.num s.into (s.args.set YB z6) s.kids),((p+1)+1)+1,rfl,rfl,⟨by first|exact V9.refl hg|exact V9.of hg (by first|exact .inl rfl|exact .inr hon) (by first|exact Nat.le_succ _|(simp<;>omega)) (by first|exact .inl rfl|exact .inr rfl),by omega,by omega⟩⟩ (Zd.agg (.cons (lr _) (.cons (lr _) (.cons (lr _) (.cons (Zd.forget _ _) (.cons (lr _) .nil)))))))))))))))))
  exact ak (ar (Xv (Kd 2 v1 s.args) (Xv (Uc 0 1 3 v1.v 1 b3 (Z7 s.args) [.i s.op,.i s.num,.i s.into,.h v1,XF s.kids] (Yw _) rfl) (ZV 1 [0] (ZA 3 b2 [.i s.op,.i s.num,.i s.into,ZO s.args v1.v,XF s.kids] (ie (ZJ (r3 [3] [.agg [.i s.op,.i s.num,.i s.into,ZO s.args v1.v,XF s.kids]] [0] [(b2,b2)] ⟨s,p+1,rfl,rfl,⟨by first|exact V9.refl hg|exact V9.of hg (by first|exact .inl rfl|exact .inr hon) (by first|exact Nat.le_succ _|(simp<;>omega)) (by first|exact .inl rfl|exact .inr rfl),by omega,by omega⟩⟩ (Zd.agg (.cons (lr _) (.cons (lr _) (.cons (lr _) (.cons (Zd.forget _ _) (.cons (lr _) .nil))))))))))))))
 refine ar (YR (k1==5) ZB (fun TS=>?_) (fun TS=>?_))
 ·refine Zo 2 [1] (iw (Vi s.kids) (ZQ ((s.kids.length:Int)>0) (fun Tb=>?_) (fun Tb=>?_)))
  ·exact az (ZV 2 [1] (Zm (Kc (es:=Ys s.kids) (hv:=none) (l:=1) (m:=(((Ys s.kids).length:Nat):Int)) (sz:=2) (es':=Ys (s.kids.drop 1)) kr om (by simp<;>omega) (by simp<;>omega) (Uz _) (by first|(simp only [VS,V7,EN,EM];done)|(simp only [VS,V7,EN,EM];rfl)|(simp [EN,EM];done))) (Z2 1 (ZA 1 b3 [.i s.op,.i s.num,.i s.into,.h v1,XF (s.kids.drop 1)] (ie (ar (Xv (Kd 2 v1 s.args) (Xv (Uc 0 0 3 v1.v 1 b3 (Z7 s.args) [.i s.op,.i s.num,.i s.into,.h v1,XF (s.kids.drop 1)] (Yw _) rfl) (ZV 1 [0] (ZA 3 b2 [.i s.op,.i s.num,.i s.into,ZO s.args v1.v,XF (s.kids.drop 1)] (ie (ZJ (r3 [3] [.agg [.i s.op,.i s.num,.i s.into,ZO s.args v1.v,XF (s.kids.drop 1)]] [0] [(b2,b2)] ⟨(Z4.mk s.op s.num s.into s.args (s.kids.drop 1)),p+1,rfl,rfl,⟨by first|exact V9.refl hg|exact V9.of hg (by first|exact .inl rfl|exact .inr hon) (by first|exact Nat.le_succ _|(simp<;>omega)) (by first|exact .inl rfl|exact .inr rfl),by omega,by omega⟩⟩ (Zd.agg (.cons (lr _) (.cons (lr _) (.cons (lr _) (.cons (Zd.forget _ _) (.cons (lr _) .nil)))))))))))))))))))
  exact ak (ar (Xv (Kd 2 v1 s.args) (Xv (Uc 0 1 3 v1.v 1 b3 (Z7 s.args) [.i s.op,.i s.num,.i s.into,.h v1,XF s.kids] (Yw _) rfl) (ZV 1 [0] (ZA 3 b2 [.i s.op,.i s.num,.i s.into,ZO s.args v1.v,XF s.kids] (ie (ZJ (r3 [3] [.agg [.i s.op,.i s.num,.i s.into,ZO s.args v1.v,XF s.kids]] [0] [(b2,b2)] ⟨s,p+1,rfl,rfl,⟨by first|exact V9.refl hg|exact V9.of hg (by first|exact .inl rfl|exact .inr hon) (by first|exact Nat.le_succ _|(simp<;>omega)) (by first|exact .inl rfl|exact .inr rfl),by omega,by omega⟩⟩ (Zd.agg (.cons (lr _) (.cons (lr _) (.cons (lr _) (.cons (Zd.forget _ _) (.cons (lr _) .nil))))))))))))))
 exact ak (ar (Xv (Kd 2 v1 s.args) (Xv (Uc 0 1 3 v1.v 1 b3 (Z7 s.args) [.i s.op,.i s.num,.i s.into,.h v1,XF s.kids] (Yw _) rfl) (ZV 1 [0] (ZA 3 b2 [.i s.op,.i s.num,.i s.into,ZO s.args v1.v,XF s.kids] (ie (ZJ (r3 [3] [.agg [.i s.op,.i s.num,.i s.into,ZO s.args v1.v,XF s.kids]] [0] [(b2,b2)] ⟨s,p+1,rfl,rfl,⟨by first|exact V9.refl hg|exact V9.of hg (by first|exact .inl rfl|exact .inr hon) (by first|exact Nat.le_succ _|(simp<;>omega)) (by first|exact .inl rfl|exact .inr rfl),by omega,by omega⟩⟩ (Zd.agg (.cons (lr _) (.cons (lr _) (.cons (lr _) (.cons (Zd.forget _ _) (.cons (lr _) .nil))))))))))))))
theorem RT (rd:Nat) (bs:LI) (p:Nat) (mx:Int) (Zs:∀z∈bs,0<=z/\z<=255) (hp:p+1<=1000000000):Zf 79 [.p rd 0,.i mx] [Yb rd bs p] (fun r h=>∃(k:Int),r=.i k/\h=[.obj rd [Vd bs,.i (p+1:Nat)]]/\Pk mx k/\k=KY bs p mx):=by
 refine ZD 99 Tryz.func79 (Y9 (Zo 5 [0] (ZF p (Z2 2 (ZA 0 rd [Vd bs,.i (p+1:Nat)] (ie (Xd (XN [0,1] [(24,.b ((decide (mx<1))||((bs.length:Int)==0)))] (fun gz=>gz) ?_ ?_))))))))
 ·refine Z2 3 (ib (b:=(decide (mx<1))) 17 (fun Ze=>?_) (fun Ze=>?_))
  ·exact Z1 (wk [0] (ZP true Ze fl))
  exact ZV 4 [0] (iw (Qe bs) (Z1 (wk [0] (ZP ((bs.length:Int)==0) Ze fl))))
 refine ac ((decide (mx<1))||((bs.length:Int)==0)) (p:=(mx<1)∨((bs.length:Int)=0)) (Xu dq ZB) (fun Z9=>?_) (fun Z9=>?_)
 ·exact ar (Zt (r1 [0] ⟨0,rfl,rfl,⟨Pk.zero,by rw [KY,Zw om]⟩⟩))
 refine ak (Zo 4 [0] (ia ((p:Int)) ((((p+1:Nat):Int))-(1)) (Z1 (Y7 5 [0] (iw (Qe bs) (ZQ ((p:Int)<(bs.length:Int)) (fun Zg=>?_) (fun Zg=>?_)))))))
 ·refine Zo 5 [0] ?_
  obtain ⟨x1,Z5⟩:=Zq bs p om
  have hz:=Zs _ (ZW Z5)
  exact Zm (Zh none (p:Int) 1 (AN Z5)) (Z2 1 (Zm (B3 x1 om) (Z2 1 (Zm (BW x1 mx om om) (Zt (r1 [0] ⟨(x1 % mx),rfl,rfl,⟨Pk.rem om om,by rw [KY,Zr om,Zw om,Z5];rfl⟩⟩))))))
 have hq1:p / bs.length<=p:=Nat.div_le_self _ _
 have hq0:(0:Int)<=((p / bs.length:Nat):Int):=Int.natCast_nonneg _
 refine ak (aD 46 (ZG 37 46 [0,1,2,3,4,5,6,7,8] [0,0] (dw 9 (Qe bs) (dx 10 (Dl p bs.length om om) ?_))))
 obtain ⟨x2,Zu⟩:=Zq bs (p % bs.length) (Nat.mod_lt _ om)
 have hz:=Zs _ (ZW Zu)
 have hy2:=Zu
 refine dx 11 (Zh none ((p % bs.length:Nat):Int) 1 (AN Zu)) (Zk 33 34 [12] (dx 13 (B3 x2 om) (da 14 ((x2*131)) ((x2)*(131)) (ZG 26 31 [15,16,17,18,19] [0] (da 20 (((p*7:Nat):Int)) (((p:Int))*(7)) (da 21 (((p*7+3:Nat):Int)) ((((p*7:Nat):Int))+(3)) (ZG 20 24 [22,23,24,25] [0] (dw 26 (Qe bs) (dx 27 (Dl (p*7+3) bs.length om om) ?_)))))))))
 obtain ⟨x3,X0⟩:=Zq bs ((p*7+3) % bs.length) (Nat.mod_lt _ om)
 have hz3:=Zs _ (ZW X0)
 have hy3:=X0
 exact dx 28 (Zh none (((p*7+3) % bs.length:Nat):Int) 1 (AN X0)) (Zk 16 17 [29] (dx 30 (B3 x3 om) (da 31 ((x3*1117)) ((x3)*(1117)) (da 32 (((x2*131)+(x3*1117))) (((x2*131))+((x3*1117))) (Zk 12 13 [33] (da 34 (((p*29:Nat):Int)) (((p:Int))*(29)) (da 35 ((((x2*131)+(x3*1117))+((p*29:Nat):Int))) ((((x2*131)+(x3*1117)))+(((p*29:Nat):Int))) (ZG 5 10 [36,37,38,39,40] [0] (dw 41 (Qe bs) (dx 42 (Af p bs.length om om) (da 43 ((((p / bs.length:Nat):Int)*53)) ((((p / bs.length:Nat):Int))*(53)) (da 44 (((((x2*131)+(x3*1117))+((p*29:Nat):Int))+(((p / bs.length:Nat):Int)*53))) (((((x2*131)+(x3*1117))+((p*29:Nat):Int)))+((((p / bs.length:Nat):Int)*53))) (Zk 0 1 [45] (de (Yg 2 (Zm (Fy ((((x2*131)+(x3*1117))+((p*29:Nat):Int))+(((p / bs.length:Nat):Int)*53)) 64 om om) (Zm (IL ((((x2*131)+(x3*1117))+((p*29:Nat):Int))+(((p / bs.length:Nat):Int)*53)) (((((x2*131)+(x3*1117))+((p*29:Nat):Int))+(((p / bs.length:Nat):Int)*53)) / 64)) (Z1 (Yg 2 (Zm (BW (J5 ((((x2*131)+(x3*1117))+((p*29:Nat):Int))+(((p / bs.length:Nat):Int)*53)) (((((x2*131)+(x3*1117))+((p*29:Nat):Int))+(((p / bs.length:Nat):Int)*53)) / 64)) mx om (E7 ⟨by omega,by omega⟩ ⟨by omega,by omega⟩).1) (Zt (r1 [0] ⟨((J5 ((((x2*131)+(x3*1117))+((p*29:Nat):Int))+(((p / bs.length:Nat):Int)*53)) (((((x2*131)+(x3*1117))+((p*29:Nat):Int))+(((p / bs.length:Nat):Int)*53)) / 64)) % mx),rfl,rfl,⟨Pk.rem (E7 ⟨by omega,by omega⟩ ⟨by omega,by omega⟩).1 om,by rw [KY,Zr om,Zr om,hy2,hy3];rfl⟩⟩))))))))))))))))))))))
theorem RU (rd:Nat) (bs:LI) (p:Nat) (mx:Nat) (Zs:∀z∈bs,0<=z/\z<=255) (hp:p+1<=1000000000:=by exact ob) (hmx:0<mx:=by exact ob):Zf 79 [.p rd 0,.i mx] [Yb rd bs p] (fun r h=>∃(kn:Nat),r=.i kn/\h=[.obj rd [Vd bs,.i (p+1:Nat)]]/\kn<mx/\kn=(KY bs p mx).toNat):=(RT rd bs p mx Zs hp).mono fun r h ⟨z,hr,hh,hz,he⟩=>by
  have h0:=hz.lt om
  exact ⟨z.toNat,by rw [hr,Int.toNat_of_nonneg h0.1],hh,by omega,by rw [he]⟩
theorem OW (s:Z4) (hz:s.sz<=1000000000):Zf 139 [Yp s] [] (fun r h=>∃(v:Hd),r=.agg [.i s.op,.i s.num,.i s.into,Z6 s.args,.h v]/\h=[rK v 2 (Zb (Ys s.kids))]):=by
 have hkz:=U6 s
 have haz:=T7 s
 refine ZD 33 Tryz.func139 (ar (iA (Xg s) fun b1=>iA [.i 0,.i 0,.i 0,nl,nl] fun b2=>ie (ar (Dh 2 fun g1=>?_))))
 refine Z1 (Y0 (ab 0 (Y1 (fun fz gz m F h=>∃(k:Nat) (v:Hd),(k<=s.kids.length)/\F=sF [1,2] fz [(3,.h v),(4,.i k)]/\h=[Za gz 1,Za gz 2,rK v 2 (Zb (Ys (s.kids.take k)))]/\m=s.kids.length-k) _ _ _ ⟨0,(⟨some ⟨g1,0,none⟩,0,0⟩:Hd),ob,rfl,rfl,rfl⟩ (wk [1,1,0] (fr (Yd fl)) (e:=(rc (rc (rr (ls:=[]) ob rz))))) ?_)))
 rintro m F h ⟨k,v,Yf,rfl,rfl,rfl⟩
 refine Y7 3 [1] (iw (Vi s.kids) (ZQ ((k:Int)<(s.kids.length:Int)) (fun Z9=>?_) (fun Z9=>?_)))
 ·refine ak (aq (ab 1 (az (ZV 4 [1] ?_))))
  obtain ⟨x1,Z5⟩:=Zq s.kids k om
  have hks:=VP Z5
  exact Zm (Zh none (k:Int) 2 (Vu Z5)) (Z2 1 (Zv [] (DV x1) (iL [ZC x1] 1 2 fun v1=>ZE 0 [(20,.sl [ZC x1] none)] (Dg 3 k v 2 (Zb (Ys (s.kids.take k))) [ZC x1] none (by rw [BK,Wq,V8 om]) (Tg rfl) rfl (List.cons_ne_nil _ _) (by simp<;>omega) fun v2=>Z1 (az (Z2 1 (ZF k (Z1 (ZI ⟨k+1,v2,ob,rfl,rfl,rfl⟩ (wk [2,2,0] (fr (ZL k fl)) (e:=(rc (rc (rr (ls:=Zb (Ys (s.kids.take k))++Zb [ZC x1]) (PJ Z5) rz))))))))))))))
 refine ax 0 (aD 12 (ZG 3 12 [0,1,2,3,4,5,6,7,9] [1,1,1,1] (Z8 8 (dc 8 [] [1,1,1] [b1,b1,b1] (Vp s.args) ?_))))
 rintro _ _ ⟨v3,rfl,rfl⟩
 exact Zk 1 2 [10] (Z8 11 (Yy 11 1 [] [] b2 [.i s.op,.i s.num,.i s.into,ZO s.args v3,.h v] (de (ZJ (r3 [3] [.agg [.i s.op,.i s.num,.i s.into,ZO s.args v3,.h v]] [0] [(b2,b2)] ⟨v,rfl,rfl⟩ (Zd.agg (.cons (lr _) (.cons (lr _) (.cons (lr _) (.cons (Zd.forget _ _) (.cons (lr _) .nil)))))) (eq:=(rr (ls:=Zb (Ys (s.kids.take k))) (by rw [WS om]) rz)))))))
theorem OV (s:Z4) (fl:Bool) (hz:s.sz<=1000000000:=by exact ob):Zf 139 [Yp s] [] (fun r h=>(∃(v:Hd),r=.agg [.i s.op,.i s.num,.i s.into,Z6 s.args,.h v]/\h=[rK v 2 (Zb (Ys s.kids))]/\fl=true)∨(r=Yp s/\h=[]/\fl=false)):=by
 cases fl with
 | true=>exact (OW s hz).mono fun r h ⟨v,hr,hh⟩=>.inl ⟨v,hr,hh,rfl⟩
 | false=>exact (MH s hz).mono fun r h ⟨hr,hh⟩=>.inr ⟨hr,hh,rfl⟩
theorem OS (b:Z3) (kk:Nat) (hz:b.sz<=1000000000:=by exact ob) (hkk:kk<b.steps.length:=by exact ob):Zf 97 [ZC b] [] (fun r h=>∃(v:Hd) (u:Hd),r=.agg [.h v,.i b.result]/\h=[rK v 5 (Wj b kk u.v b.steps.length),rK u 2 (U5 b kk b.steps.length)]):=by
 have hbz:=WR b
 refine ZD 28 Tryz.func97 (ar (iA (YK b) fun b1=>iA [nl,.i 0] fun b2=>ie (ar (Dh 5 fun g1=>ZV 3 [2] (iA [nl,.i 0] fun b3=>?_)))))
 refine ZA 0 b3 [.ms g1 0 0 0,.i b.result] (ie (Xd (Xv (Z53 (k:=2)) (Z1 (ab 0 (Y1 (fun fz gz m F h=>∃(k:Nat) (v:Hd) (u:Hd),(k<=b.steps.length)/\F=sF [1,2,3] fz [(4,.i k)]/\h=[.obj b3 [.h v,.i b.result],Za gz 3,Za gz 4,rK v 5 (Wj b kk u.v k),rK u 2 (U5 b kk k)]/\m=b.steps.length-k) _ _ _ ⟨0,(⟨some ⟨g1,0,none⟩,0,0⟩:Hd),hN,ob,rfl,rfl,rfl⟩ (wk [1,2,2,1,0] (Yd fl) (e:=(rc (rc (rc (rr (ls:=[]) (by first|exact IP.symm|exact IS.symm) (rr (ls:=[]) (by first|exact IP.symm|exact IS.symm) rz))))))) ?_))))))
 rintro m F h ⟨k,v,u,Yf,rfl,rfl,rfl⟩
 refine Y7 3 [2] (iw (WA b.steps) (ZQ ((k:Int)<(b.steps.length:Int)) (fun Z9=>?_) (fun Z9=>?_)))
 ·refine ak (aq (ab 1 (aE 12 (ZG 7 12 [0,1,2,3,4] [0,2] ?_))))
  obtain ⟨x1,Z5⟩:=Zq b.steps k om
  have hss:=TH Z5
  refine dx 5 (Zh none (k:Int) 5 (XR Z5)) (Zk 5 6 [6] (Z8 7 (dc 7 [] [0] [b3] (OV x1 (decide (k=kk))) ?_)))
  rintro _ _ (⟨v1,rfl,rfl,ZX⟩|⟨rfl,rfl,Yc⟩)
  ·have hke:k=kk:=of_decide_eq_true ZX
   exact EI (N6 [1,1,1,0,0,0] (h':=[.obj b3 [.h v,.i b.result],.obj b2 [nl,.i 0],.obj b1 (YK b),rK v1 2 (Zb (Ys x1.kids)),rK v 5 (Wj b kk u.v k),rK u 2 (U5 b kk k)]) (d:=[]) kr) (Z8 8 (dL 8 [0] [b3] [.agg [.i x1.op,.i x1.num,.i x1.into,Z6 x1.args,.h v1]] 1 5 fun v2=>Yh 3 3 [] [(24,.sl [.agg [.i x1.op,.i x1.num,.i x1.into,Z6 x1.args,.h v1]] none)] (Z8 9 (EF 9 5 k [] [] v 5 (Wj b kk u.v k) [.agg [.i x1.op,.i x1.num,.i x1.into,Z6 x1.args,.h v1]] none (FB om) (Tg rfl) rfl (List.cons_ne_nil _ _) (by simp<;>omega) fun v3=>Zk 1 2 [10] (Z8 11 (Yy 11 2 [] [] b3 [.h v3,.i b.result] (de (az (Z2 1 (ZF k (Z1 (ZI ⟨k+1,v3,v1,ob,rfl,rfl,rfl⟩ (wk [0,2,2,0,1] (ZL k fl) (e:=(rc (rc (rc (rr (ls:=Wj b kk u.v k++Zb [.agg [.i x1.op,.i x1.num,.i x1.into,Z6 x1.args,.h v1]]) (by first|(subst hke;exact IN Z5)|(subst hke;exact IR Z5)) (rr (ls:=Zb (Ys x1.kids)) (by first|(subst hke;exact IN Z5)|(subst hke;exact IR Z5)) rz)))))))))))))))))))
  have hke:¬k=kk:=of_decide_eq_false Yc
  exact Z8 8 (dL 8 [0] [b3] [Yp x1] 1 5 fun v4=>Yh 3 3 [] [(24,.sl [Yp x1] none)] (Z8 9 (EF 9 4 k [] [] v 5 (Wj b kk u.v k) [Yp x1] none (FB om) (Tg rfl) rfl (List.cons_ne_nil _ _) (by simp<;>omega) fun v5=>Zk 1 2 [10] (Z8 11 (Yy 11 2 [] [] b3 [.h v5,.i b.result] (de (az (Z2 1 (ZF k (Z1 (ZI ⟨k+1,v5,u,ob,rfl,rfl,rfl⟩ (wk [0,2,2,0,1] (ZL k fl) (e:=(rc (rc (rc (rr (ls:=Wj b kk u.v k++Zb [Yp x1]) (by first|exact IM Z5 hke|exact IQ hke) (rr (ls:=U5 b kk k) (by first|exact IM Z5 hke|exact IQ hke) rz))))))))))))))))))
 exact ax 0 (Zo 1 [0] (ZA 1 b2 [.h v,.i b.result] (ie (ZJ (r3 [3,3] [.agg [.h v,.i b.result]] [0] [(b2,b2)] ⟨v,u,rfl,rfl⟩ (lr _) (eq:=(rr (ls:=Wj b kk u.v k) (by rw [show k=b.steps.length by omega]) (rr (ls:=U5 b kk k) (by rw [show k=b.steps.length by omega]) rz))))))))
theorem S2 (rd:Nat) (bs:LI) (p:Nat) (b:Z3) (Zs:∀z∈bs,0<=z/\z<=255) (hp:p+(10*b.sz)<=1000000000) (hz:b.sz<=20000000) (hg:b.rgb) (h0:b.steps.length=0):Zf 114 [.p rd 0,ZC b] [Yb rd bs p] (fun r h=>∃(y:Z3) (p2:Nat),r=ZC y/\h=[Yb rd bs p2]/\Xe b y/\p<=p2/\p2<=p+(10*b.sz)):=by
 have hbp:=b.sz_pos
 refine ZD 109 Tryz.func114 (ar (iA (YK b) fun b1=>iA [nl,.i 0] fun b2=>ie (Zo 1 [1] (Zv [] (DV b) (iA [nl,.i 0] fun b3=>ZA 0 b3 (YK b) (ie (Y7 2 [0] (iw (WA b.steps) (Z2 2 (ib (b:=((b.steps.length:Int)==0)) 14 (fun Ze=>?_) (fun Ze=>?_)))))))))))
 ·refine Z1 (Vh (Yg 1 (iL (Z7 [0,1,2,3,-1,99]) 6 1 fun v1=>ZE 0 [(20,Z6 [0,1,2,3,-1,99])] (ic [4] (WV rd bs p [0,1,2,3,-1,99] (Zs:=ob)) ?_))))
  rintro _ _ ⟨z1,rfl,rfl,Yc⟩
  have hon:=Yc
  simp only [Yq,List.not_mem_nil,or_false] at hon
  exact Z2 1 (ZA 2 b3 [Wo b.steps,.i z1] (ie (Zo 1 [0] (ZA 3 b2 [Wo b.steps,.i z1] (ie (ZJ (r3 [2] [.agg [Wo b.steps,.i z1]] [0] [(b2,b2)] ⟨(Z3.mk b.steps z1),p+1,rfl,rfl,⟨Xe.result hg _,by have:=b.sz_pos;omega,by have:=b.sz_pos;omega⟩⟩ (lr _))))))))
 have YM:¬((b.steps.length:Int)=0):=YT ZB Ze
 exact absurd (show (b.steps.length:Int)=0 by omega) YM
theorem S3 (rd:Nat) (bs:LI) (p:Nat) (b:Z3) (Zs:∀z∈bs,0<=z/\z<=255) (hp:p+(10*b.sz)<=1000000000) (hz:b.sz<=20000000) (hg:b.rgb) (h0:0<b.steps.length) (ih:∀(rd:Nat) (bs:LI) (p:Nat) (b2:Z3),(∀z∈bs,0<=z/\z<=255)->(p+(10*b2.sz)<=1000000000)->(b2.sz<=20000000)->(b2.rgb)->(b2.sz<b.sz)->Zf 114 [.p rd 0,ZC b2] [Yb rd bs p] (fun r h=>∃(y:Z3) (p2:Nat),r=ZC y/\h=[Yb rd bs p2]/\Xe b2 y/\p<=p2/\p2<=p+(10*b2.sz))):Zf 114 [.p rd 0,ZC b] [Yb rd bs p] (fun r h=>∃(y:Z3) (p2:Nat),r=ZC y/\h=[Yb rd bs p2]/\Xe b y/\p<=p2/\p2<=p+(10*b.sz)):=by
 have hbp:=b.sz_pos
 obtain ⟨kk,hkk⟩:∃kk,kk=(KY bs (p+1) (b.steps.length:Int)).toNat:=⟨_,rfl⟩
 have hkl:kk<b.steps.length:=by have:=Z1t (bs:=bs) (p:=p+1) (mx:=(b.steps.length:Int)) om;omega
 obtain ⟨sk,hsk⟩:=Zq b.steps kk hkl
 have hsb:=TH hsk
 have hsg:=Z28 hg hsk
 have hst:=WR b
 refine ZD 109 Tryz.func114 (ar (iA (YK b) fun b1=>iA [nl,.i 0] fun b2=>ie (Zo 1 [1] (ic [] (OS b kk) ?_))))
 rintro _ _ ⟨v1,u1,rfl,rfl⟩
 refine Df 0 b.steps.length (v:=v1) (FB (kk:=kk) (u:=u1.v) (YQ b.steps.length)) om (fun g1 c1 he1=>?_)
 subst he1
 refine Xv (N6 [0,1,1,1,0] (h':=[.row (.slice (some ⟨g1,0,none⟩) b.steps.length c1) 5 (Wj b kk u1.v b.steps.length),.obj b2 [nl,.i 0],.obj b1 (YK b),Yb rd bs p,rK u1 2 (U5 b kk b.steps.length)]) (d:=[]) kr) (iA [nl,.i 0] fun b3=>ZA 0 b3 [.ms g1 0 b.steps.length c1,.i b.result] (ie (Y7 2 [0] (io (.i b.steps.length) (.i b.steps.length) (lr _) (Z2 2 (ib (b:=((b.steps.length:Int)==0)) 14 (fun Ze=>?_) (fun Ze=>?_)))))))
 ·have ZX:(b.steps.length:Int)=0:=(ZB).1 Ze
  exact absurd ZX om
 have Yc:¬((b.steps.length:Int)=0):=YT ZB Ze
 refine Z2 1 (ic [4] (XL rd bs p 5 (Zs:=ob)) ?_)
 rintro _ _ ⟨k1,rfl,rfl,YM⟩
 refine YR (k1==0) ZB (fun Z9=>?_) (fun Z9=>?_)
 ·refine ar (Xv (Gv 5 2 b kk sk u1.v (.slice (some ⟨g1,0,none⟩) b.steps.length c1) hsk) (Xv (Uc 0 2 0 (.slice (some ⟨g1,0,none⟩) b.steps.length c1) 5 b3 (Zi b.steps) [.ms g1 0 b.steps.length c1,.i b.result] (YX _) rfl) (Z2 1 (iL (Z7 [0,1,2,3,-1,99]) 6 1 fun v2=>ZE 0 [(20,Z6 [0,1,2,3,-1,99])] (ic [4] (WV rd bs (p+1) [0,1,2,3,-1,99] (Zs:=ob)) ?_)))))
  rintro _ _ ⟨z1,rfl,rfl,YZ⟩
  have hon:=YZ
  simp only [Yq,List.not_mem_nil,or_false] at hon
  exact Z2 1 (ZA 2 b3 [YG b.steps (.slice (some ⟨g1,0,none⟩) b.steps.length c1),.i z1] (ie (Zo 1 [0] (ZA 5 b2 [YG b.steps (.slice (some ⟨g1,0,none⟩) b.steps.length c1),.i z1] (ie (ZJ (r3 [2] [.agg [YG b.steps (.slice (some ⟨g1,0,none⟩) b.steps.length c1),.i z1]] [0] [(b2,b2)] ⟨(Z3.mk b.steps z1),(p+1)+1,rfl,rfl,(by first|exact ⟨Xe.result hg _,by omega,by omega⟩|exact ⟨Xe.kid hg hsk hck hyb.1,by omega,by omega⟩|exact ⟨Xe.del hg,by omega,by omega⟩|exact ⟨Xe.put hg,by omega,by omega⟩|exact ⟨Xe.set hg hsk ⟨by have:=hys.1.1;omega,hys.1.2⟩,by omega,by omega⟩)⟩ (Zd.agg (.cons (Zd.forget _ _) (.cons (lr _) .nil))))))))))
 refine ak (Zo 3 [1] (io (.i b.steps.length) (.i b.steps.length) (lr _) (ic [0] (RU rd bs (p+1) b.steps.length (Zs:=ob)) ?_)))
 rintro _ _ ⟨Ym,rfl,rfl,X7⟩
 have hkn:Ym=kk:=by have:=X7.2;omega
 refine Z1 (Y7 3 [1] (Zm (XS g1 b.steps.length c1 Ym 5 (Ym:Int)) (Z2 1 (Vl (WC 2 g1 b.steps.length c1 5 (Ym*5+4) (Wj b kk u1.v b.steps.length) [.h u1] 50 (.h u1) (by rw [hkn];exact Do hsk)) (Zm (SW 5 sk.kids.length u1 2 (U5 b kk b.steps.length) (by rw [FC hsk];exact BK _)) (Z2 2 (ib (b:=(decide ((sk.kids.length:Int)>0))) 37 (fun ZU=>?_) (fun ZU=>?_))))))))
 ·have XX:(sk.kids.length:Int)>0:=(dq).1 ZU
  refine Z2 1 (ic [0] (XL rd bs ((p+1)+1) 3 (Zs:=ob)) ?_)
  rintro _ _ ⟨k2,rfl,rfl,Wu⟩
  refine ZQ (k2>0) (fun Zg=>?_) (fun Zg=>?_)
  ·refine ar (Xv (Gw 5 u1.v 2 (U5 b kk b.steps.length) (Zb (Ys sk.kids)) (FC hsk)) (Df 0 sk.kids.length (v:=u1) (BK _) om (fun g2 c2 he2=>?_)))
   subst he2
   refine ZV 4 [2] (Zm (XS g1 b.steps.length c1 Ym 5 (Ym:Int)) (Z2 1 (Vl (WC 3 g1 b.steps.length c1 5 (Ym*5+4) (Wj b kk (.slice (some ⟨g2,0,none⟩) sk.kids.length c2) b.steps.length) [.ms g2 0 sk.kids.length c2] 50 (.ms g2 0 sk.kids.length c2) (by rw [hkn];exact Do hsk)) (io (.i sk.kids.length) (.i sk.kids.length) (lr _) (ic [1] (UQ rd bs (((p+1)+1)+1) sk.kids.length (Zs:=ob)) ?_)))))
   rintro _ _ ⟨YB,rfl,rfl,V3⟩
   obtain ⟨ck,hck⟩:=Zq sk.kids YB om
   have hckz:=VP hck
   have hckb:=TH hsk
   have hckg:=G0 hg hsk hck
   refine Z1 (aD 20 (ZG 17 20 [0,1,2] [2] (dx 3 (XS g1 b.steps.length c1 Ym 5 (Ym:Int)) (Zk 15 16 [4] (Vt 5 (WC 3 g1 b.steps.length c1 5 (Ym*5+4) (Wj b kk (.slice (some ⟨g2,0,none⟩) sk.kids.length c2) b.steps.length) [.ms g2 0 sk.kids.length c2] 50 (.ms g2 0 sk.kids.length c2) (by rw [hkn];exact Do hsk)) (ZG 9 14 [6,7,8,9,10] [2] (dx 11 (XS g1 b.steps.length c1 Ym 5 (Ym:Int)) (Zk 7 8 [12] (Vt 13 (WC 3 g1 b.steps.length c1 5 (Ym*5+4) (Wj b kk (.slice (some ⟨g2,0,none⟩) sk.kids.length c2) b.steps.length) [.ms g2 0 sk.kids.length c2] 50 (.ms g2 0 sk.kids.length c2) (by rw [hkn];exact Do hsk)) (Zk 5 6 [14] (dx 15 (XS g2 sk.kids.length c2 YB 2 (YB:Int)) (Vt 16 (WC 1 g2 sk.kids.length c2 2 (YB*2) (Zb (Ys sk.kids)) (YK ck) 34 (ZC ck) (PI hck)) (Z8 17 (dc 17 [0] [2,1] [g1,b3] (ih rd bs ((((p+1)+1)+1)+1) ck ob ob ob ob ob) ?_))))))))))))))
   rintro _ _ ⟨y1,p21,rfl,rfl,Vk⟩
   have hyb:=Vk
   exact dx 18 (XS g2 sk.kids.length c2 YB 2 (YB:Int)) (Z8 19 (JW 19 1 [] [] g2 sk.kids.length c2 2 (YB*2) (YK y1) (Zb (Ys sk.kids)) (Zb (Ys (sk.kids.set YB y1))) (by rw [BK];simp only [YD,X6];omega) (PK y1 om) (de (ar (Xv (N2 0 2 b kk sk (sk.kids.set YB y1) (.slice (some ⟨g2,0,none⟩) sk.kids.length c2) (.slice (some ⟨g1,0,none⟩) b.steps.length c1) hsk) (Xv (Uc 0 2 0 (.slice (some ⟨g1,0,none⟩) b.steps.length c1) 5 b3 (Zi (b.steps.set kk (Z4.mk sk.op sk.num sk.into sk.args (sk.kids.set YB y1)))) [.ms g1 0 b.steps.length c1,.i b.result] (YX _) rfl) (ZV 1 [0] (ZA 4 b2 [YG (b.steps.set kk (Z4.mk sk.op sk.num sk.into sk.args (sk.kids.set YB y1))) (.slice (some ⟨g1,0,none⟩) b.steps.length c1),.i b.result] (ie (ZJ (r3 [4] [.agg [YG (b.steps.set kk (Z4.mk sk.op sk.num sk.into sk.args (sk.kids.set YB y1))) (.slice (some ⟨g1,0,none⟩) b.steps.length c1),.i b.result]] [0] [(b2,b2)] ⟨(Z3.mk (b.steps.set kk (Z4.mk sk.op sk.num sk.into sk.args (sk.kids.set YB y1))) b.result),p21,rfl,rfl,(by first|exact ⟨Xe.result hg _,by omega,by omega⟩|exact ⟨Xe.kid hg hsk hck hyb.1,by omega,by omega⟩|exact ⟨Xe.del hg,by omega,by omega⟩|exact ⟨Xe.put hg,by omega,by omega⟩|exact ⟨Xe.set hg hsk ⟨by have:=hys.1.1;omega,hys.1.2⟩,by omega,by omega⟩)⟩ (Zd.agg (.cons (Zd.forget _ _) (.cons (lr _) .nil))))))))))))))
  refine ak (Xd (Xv (Gv 5 2 b kk sk u1.v (.slice (some ⟨g1,0,none⟩) b.steps.length c1) hsk) (Z2 1 (ic [2] (XL rd bs (((p+1)+1)+1) 4 (Zs:=ob)) ?_))))
  rintro _ _ ⟨k3,rfl,rfl,UT⟩
  refine ie (ab 0 (ar (YR (k3==0) ZB (fun ZK=>?_) (fun ZK=>?_))))
  ·exact aE 12 (ZG 9 12 [0,1,2] [3] (dx 3 (Fx 1 g1 b.steps.length c1 Ym 5 (Zb (Zi b.steps))) (ZG 5 8 [4,5,6] [3] (da 7 (((Ym+1:Nat):Int)) (((Ym:Int))+(1)) (dx 8 (IK 1 g1 b.steps.length c1 (Ym+1) 5 (Zb (Zi b.steps))) (Z8 9 (Hw 9 1 [] [] g1 b.steps.length c1 Ym (Ym+1) 5 (Zb (Zi b.steps)) (V2 _) (Zk 1 2 [10] (Z8 11 (Yy 11 3 [] [] b3 [.ms g1 0 (Ym+(b.steps.length-(Ym+1))) c1,.i b.result] (de (ar (Xv (Gw 1 (.slice (some ⟨g1,0,none⟩) (Ym+(b.steps.length-(Ym+1))) c1) 5 (((Zb (Zi b.steps)).take (Ym*5))++((Zb (Zi b.steps)).drop ((Ym+1)*5))) (Zb (Zi (b.steps.take kk++b.steps.drop (kk+1)))) (by rw [hkn];exact HW hkl)) (Xv (Uc 0 0 0 (.slice (some ⟨g1,0,none⟩) (Ym+(b.steps.length-(Ym+1))) c1) 5 b3 (Zi (b.steps.take kk++b.steps.drop (kk+1))) [.ms g1 0 (Ym+(b.steps.length-(Ym+1))) c1,.i b.result] (YX _) rfl) (ZV 1 [0] (ZA 4 b2 [YG (b.steps.take kk++b.steps.drop (kk+1)) (.slice (some ⟨g1,0,none⟩) (Ym+(b.steps.length-(Ym+1))) c1),.i b.result] (ie (ZJ (r3 [3] [.agg [YG (b.steps.take kk++b.steps.drop (kk+1)) (.slice (some ⟨g1,0,none⟩) (Ym+(b.steps.length-(Ym+1))) c1),.i b.result]] [0] [(b2,b2)] ⟨(Z3.mk (b.steps.take kk++b.steps.drop (kk+1)) b.result),(((p+1)+1)+1)+1,rfl,rfl,(by first|exact ⟨Xe.result hg _,by omega,by omega⟩|exact ⟨Xe.kid hg hsk hck hyb.1,by omega,by omega⟩|exact ⟨Xe.del hg,by omega,by omega⟩|exact ⟨Xe.put hg,by omega,by omega⟩|exact ⟨Xe.set hg hsk ⟨by have:=hys.1.1;omega,hys.1.2⟩,by omega,by omega⟩)⟩ (Zd.agg (.cons (Zd.forget _ _) (.cons (lr _) .nil))))))))))))))))))))))
  refine ar (YR (k3==1) ZB (fun Yt=>?_) (fun Yt=>?_))
  ·refine aD 10 (EI (Uc 1 2 0 (.slice (some ⟨g1,0,none⟩) b.steps.length c1) 5 b3 (Zi b.steps) [.ms g1 0 b.steps.length c1,.i b.result] (YX _) rfl) (ZG 6 10 [0,1,2,5] [0] (Z8 3 (dL 3 [0] [b3] (Z7 [14,15,15,16,17]) 5 1 fun v3=>Yh 5 5 [] [(102,Z6 [14,15,15,16,17])] (Z8 4 (dc 4 [3] [0] [b3] (WV rd bs ((((p+1)+1)+1)+1) [14,15,15,16,17] (Zs:=ob)) ?_))))))
   rintro _ _ ⟨z2,rfl,rfl,UU⟩
   have hon:=UU
   simp only [Yq,List.not_mem_nil,or_false] at hon
   refine Z8 6 (dc 6 [0] [0] [b3] (XL rd bs (((((p+1)+1)+1)+1)+1) 4 (Zs:=ob)) ?_)
   rintro _ _ ⟨k4,rfl,rfl,UV⟩
   exact Z8 7 (Yo 7 [] [1] [b3] (Ka z2 k4) (Yh 2 2 [] [(99,ZC b)] (Z8 8 (Yo 8 [] [] [] (Da b Ym (Zl z2 k4)) (Z8 9 (Yy 9 5 [] [] b2 (YK (Z3.mk (W1 b.steps Ym (Zl z2 k4)) b.result)) (de (ZJ (r3 [1] [ZC (Z3.mk (W1 b.steps Ym (Zl z2 k4)) b.result)] [0] [(b2,b2)] ⟨(Z3.mk (W1 b.steps Ym (Zl z2 k4)) b.result),(((((p+1)+1)+1)+1)+1)+1,rfl,rfl,(by first|exact ⟨Xe.result hg _,by omega,by omega⟩|exact ⟨Xe.kid hg hsk hck hyb.1,by omega,by omega⟩|exact ⟨Xe.del hg,by omega,by omega⟩|exact ⟨Xe.put hg,by omega,by omega⟩|exact ⟨Xe.set hg hsk ⟨by have:=hys.1.1;omega,hys.1.2⟩,by omega,by omega⟩)⟩ (lr _))))))))))
  refine aE 12 (ZG 5 12 [0,1,2,3,4,5,6] [3,3] (dx 7 (XS g1 b.steps.length c1 Ym 5 (Ym:Int)) (Vt 8 (WC 1 g1 b.steps.length c1 5 (Ym*5) (Zb (Zi b.steps)) (Xg sk) 52 (Yp sk) (by rw [hkn];exact F9 hsk)) (Z8 9 (dc 9 [0] [1] [b3] (Im rd bs ((((p+1)+1)+1)+1) sk (Zs:=ob)) ?_)))))
  rintro _ _ ⟨y2,p22,rfl,rfl,Qy⟩
  have hys:=Qy
  exact dx 10 (XS g1 b.steps.length c1 Ym 5 (Ym:Int)) (Z8 11 (JW 11 1 [] [] g1 b.steps.length c1 5 (Ym*5) (Xg y2) (Zb (Zi b.steps)) (Zb (Zi (b.steps.set kk y2))) (by rw [Tx];simp only [YD,X6];omega) (by rw [hkn];exact D6 hsk) (de (ar (Xv (Uc 0 2 0 (.slice (some ⟨g1,0,none⟩) b.steps.length c1) 5 b3 (Zi (b.steps.set kk y2)) [.ms g1 0 b.steps.length c1,.i b.result] (YX _) rfl) (ZV 1 [0] (ZA 4 b2 [YG (b.steps.set kk y2) (.slice (some ⟨g1,0,none⟩) b.steps.length c1),.i b.result] (ie (ZJ (r3 [3] [.agg [YG (b.steps.set kk y2) (.slice (some ⟨g1,0,none⟩) b.steps.length c1),.i b.result]] [0] [(b2,b2)] ⟨(Z3.mk (b.steps.set kk y2) b.result),p22,rfl,rfl,(by first|exact ⟨Xe.result hg _,by omega,by omega⟩|exact ⟨Xe.kid hg hsk hck hyb.1,by omega,by omega⟩|exact ⟨Xe.del hg,by omega,by omega⟩|exact ⟨Xe.put hg,by omega,by omega⟩|exact ⟨Xe.set hg hsk ⟨by have:=hys.1.1;omega,hys.1.2⟩,by omega,by omega⟩)⟩ (Zd.agg (.cons (Zd.forget _ _) (.cons (lr _) .nil)))))))))))))
 have Qg:¬((sk.kids.length:Int)>0):=YT dq ZU
 refine Z1 (Wx (ak (Xd (Xv (Gv 5 2 b kk sk u1.v (.slice (some ⟨g1,0,none⟩) b.steps.length c1) hsk) (Z2 1 (ic [2] (XL rd bs ((p+1)+1) 4 (Zs:=ob)) ?_))))))
 rintro _ _ ⟨k5,rfl,rfl,Jq⟩
 refine ie (ab 0 (ar (YR (k5==0) ZB (fun XG=>?_) (fun XG=>?_))))
 ·exact aE 12 (ZG 9 12 [0,1,2] [3] (dx 3 (Fx 1 g1 b.steps.length c1 Ym 5 (Zb (Zi b.steps))) (ZG 5 8 [4,5,6] [3] (da 7 (((Ym+1:Nat):Int)) (((Ym:Int))+(1)) (dx 8 (IK 1 g1 b.steps.length c1 (Ym+1) 5 (Zb (Zi b.steps))) (Z8 9 (Hw 9 1 [] [] g1 b.steps.length c1 Ym (Ym+1) 5 (Zb (Zi b.steps)) (V2 _) (Zk 1 2 [10] (Z8 11 (Yy 11 3 [] [] b3 [.ms g1 0 (Ym+(b.steps.length-(Ym+1))) c1,.i b.result] (de (ar (Xv (Gw 1 (.slice (some ⟨g1,0,none⟩) (Ym+(b.steps.length-(Ym+1))) c1) 5 (((Zb (Zi b.steps)).take (Ym*5))++((Zb (Zi b.steps)).drop ((Ym+1)*5))) (Zb (Zi (b.steps.take kk++b.steps.drop (kk+1)))) (by rw [hkn];exact HW hkl)) (Xv (Uc 0 0 0 (.slice (some ⟨g1,0,none⟩) (Ym+(b.steps.length-(Ym+1))) c1) 5 b3 (Zi (b.steps.take kk++b.steps.drop (kk+1))) [.ms g1 0 (Ym+(b.steps.length-(Ym+1))) c1,.i b.result] (YX _) rfl) (ZV 1 [0] (ZA 4 b2 [YG (b.steps.take kk++b.steps.drop (kk+1)) (.slice (some ⟨g1,0,none⟩) (Ym+(b.steps.length-(Ym+1))) c1),.i b.result] (ie (ZJ (r3 [3] [.agg [YG (b.steps.take kk++b.steps.drop (kk+1)) (.slice (some ⟨g1,0,none⟩) (Ym+(b.steps.length-(Ym+1))) c1),.i b.result]] [0] [(b2,b2)] ⟨(Z3.mk (b.steps.take kk++b.steps.drop (kk+1)) b.result),((p+1)+1)+1,rfl,rfl,(by first|exact ⟨Xe.result hg _,by omega,by omega⟩|exact ⟨Xe.kid hg hsk hck hyb.1,by omega,by omega⟩|exact ⟨Xe.del hg,by omega,by omega⟩|exact ⟨Xe.put hg,by omega,by omega⟩|exact ⟨Xe.set hg hsk ⟨by have:=hys.1.1;omega,hys.1.2⟩,by omega,by omega⟩)⟩ (Zd.agg (.cons (Zd.forget _ _) (.cons (lr _) .nil))))))))))))))))))))))
 refine ar (YR (k5==1) ZB (fun XH=>?_) (fun XH=>?_))
 ·refine aD 10 (EI (Uc 1 2 0 (.slice (some ⟨g1,0,none⟩) b.steps.length c1) 5 b3 (Zi b.steps) [.ms g1 0 b.steps.length c1,.i b.result] (YX _) rfl) (ZG 6 10 [0,1,2,5] [0] (Z8 3 (dL 3 [0] [b3] (Z7 [14,15,15,16,17]) 5 1 fun v4=>Yh 5 5 [] [(102,Z6 [14,15,15,16,17])] (Z8 4 (dc 4 [3] [0] [b3] (WV rd bs (((p+1)+1)+1) [14,15,15,16,17] (Zs:=ob)) ?_))))))
  rintro _ _ ⟨z3,rfl,rfl,KQ⟩
  have hon:=KQ
  simp only [Yq,List.not_mem_nil,or_false] at hon
  refine Z8 6 (dc 6 [0] [0] [b3] (XL rd bs ((((p+1)+1)+1)+1) 4 (Zs:=ob)) ?_)
  rintro _ _ ⟨k6,rfl,rfl,Dd⟩
  exact Z8 7 (Yo 7 [] [1] [b3] (Ka z3 k6) (Yh 2 2 [] [(99,ZC b)] (Z8 8 (Yo 8 [] [] [] (Da b Ym (Zl z3 k6)) (Z8 9 (Yy 9 5 [] [] b2 (YK (Z3.mk (W1 b.steps Ym (Zl z3 k6)) b.result)) (de (ZJ (r3 [1] [ZC (Z3.mk (W1 b.steps Ym (Zl z3 k6)) b.result)] [0] [(b2,b2)] ⟨(Z3.mk (W1 b.steps Ym (Zl z3 k6)) b.result),((((p+1)+1)+1)+1)+1,rfl,rfl,(by first|exact ⟨Xe.result hg _,by omega,by omega⟩|exact ⟨Xe.kid hg hsk hck hyb.1,by omega,by omega⟩|exact ⟨Xe.del hg,by omega,by omega⟩|exact ⟨Xe.put hg,by omega,by omega⟩|exact ⟨Xe.set hg hsk ⟨by have:=hys.1.1;omega,hys.1.2⟩,by omega,by omega⟩)⟩ (lr _))))))))))
 refine aE 12 (ZG 5 12 [0,1,2,3,4,5,6] [3,3] (dx 7 (XS g1 b.steps.length c1 Ym 5 (Ym:Int)) (Vt 8 (WC 1 g1 b.steps.length c1 5 (Ym*5) (Zb (Zi b.steps)) (Xg sk) 52 (Yp sk) (by rw [hkn];exact F9 hsk)) (Z8 9 (dc 9 [0] [1] [b3] (Im rd bs (((p+1)+1)+1) sk (Zs:=ob)) ?_)))))
 rintro _ _ ⟨y3,p23,rfl,rfl,Ad⟩
 have hys:=Ad
 exact dx 10 (XS g1 b.steps.length c1 Ym 5 (Ym:Int)) (Z8 11 (JW 11 1 [] [] g1 b.steps.length c1 5 (Ym*5) (Xg y3) (Zb (Zi b.steps)) (Zb (Zi (b.steps.set kk y3))) (by rw [Tx];simp only [YD,X6];omega) (by rw [hkn];exact D6 hsk) (de (ar (Xv (Uc 0 2 0 (.slice (some ⟨g1,0,none⟩) b.steps.length c1) 5 b3 (Zi (b.steps.set kk y3)) [.ms g1 0 b.steps.length c1,.i b.result] (YX _) rfl) (ZV 1 [0] (ZA 4 b2 [YG (b.steps.set kk y3) (.slice (some ⟨g1,0,none⟩) b.steps.length c1),.i b.result] (ie (ZJ (r3 [3] [.agg [YG (b.steps.set kk y3) (.slice (some ⟨g1,0,none⟩) b.steps.length c1),.i b.result]] [0] [(b2,b2)] ⟨(Z3.mk (b.steps.set kk y3) b.result),p23,rfl,rfl,(by first|exact ⟨Xe.result hg _,by omega,by omega⟩|exact ⟨Xe.kid hg hsk hck hyb.1,by omega,by omega⟩|exact ⟨Xe.del hg,by omega,by omega⟩|exact ⟨Xe.put hg,by omega,by omega⟩|exact ⟨Xe.set hg hsk ⟨by have:=hys.1.1;omega,hys.1.2⟩,by omega,by omega⟩)⟩ (Zd.agg (.cons (Zd.forget _ _) (.cons (lr _) .nil)))))))))))))
theorem S1 (rd:Nat) (bs:LI) (p:Nat) (b:Z3) (Zs:∀z∈bs,0<=z/\z<=255) (hp:p+10*b.sz<=1000000000:=by exact ob) (hz:b.sz<=20000000:=by exact ob) (hg:b.rgb:=by exact ob):Zf 114 [.p rd 0,ZC b] [Yb rd bs p] (fun r h=>∃(y:Z3) (p2:Nat),r=ZC y/\h=[Yb rd bs p2]/\Xe b y/\p<=p2/\p2<=p+(10*b.sz)):=by
 have key:∀k:Nat,∀(rd:Nat) (bs:LI) (p:Nat) (b2:Z3),(∀z∈bs,0<=z/\z<=255)->(p+(10*b2.sz)<=1000000000)->(b2.sz<=20000000)->(b2.rgb)->(b2.sz<k)->Zf 114 [.p rd 0,ZC b2] [Yb rd bs p] (fun r h=>∃(y:Z3) (p2:Nat),r=ZC y/\h=[Yb rd bs p2]/\Xe b2 y/\p<=p2/\p2<=p+(10*b2.sz)):=by
  intro k
  induction k with
  | zero=>intro rd bs p b2 h1 h2 h3 h4 h5;omega
  | succ k ih=>
   intro rd bs p b2 h1 h2 h3 h4 h5
   by_cases h0:b2.steps.length=0
   ·exact S2 rd bs p b2 h1 h2 h3 h4 h0
   ·exact S3 rd bs p b2 h1 h2 h3 h4 om fun rd bs p b3 q1 q2 q3 q4 q5=>ih rd bs p b3 q1 q2 q3 q4 om
 exact key (b.sz+1) rd bs p b Zs hp hz hg om
theorem Il (rd:Nat) (bs:LI) (p:Nat) (n:Zx) (often:Nat) (q:Nat) (l:Nat) (Zs:∀z∈bs,0<=z/\z<=255) (hp:p+(10*q+20)<=1000000000:=by exact ob) (hzn:ZS n q l:=by exact ob) (hq:q<=9999000:=by exact ob) (hl:l<=100:=by exact ob) (ho:0<often:=by exact ob):Zf 72 [.p rd 0,Yl n,.i often] [Yb rd bs p] (fun r h=>∃(n2:Zx) (p2:Nat),r=Yl n2/\h=[Yb rd bs p2]/\ZS n2 (q+2) (l+1)/\p<=p2/\p2<=p+(10*q+20)):=by
 have hnl:=hzn.len
 refine ZD 64 Tryz.func72 (ar (iA (YN n) fun b1=>iA [nl,nl] fun b2=>ie (X1 2 (ic [2] (UQ rd bs p often (Zs:=ob)) ?_))))
 rintro _ _ ⟨Ym,rfl,rfl,ZX⟩
 refine ZQ ((Ym:Int)>0) (fun Z9=>?_) (fun Z9=>?_)
 ·exact Zo 1 [2] (ZA 1 b2 (YN n) (ie (ZJ (r3 [1] [Yl n] [0] [(b2,b2)] ⟨n,p+1,rfl,rfl,(by first|exact ⟨hzn.le om om,by omega,by omega⟩|exact ⟨hzn.set hx1k om om om om ⟨hz1.2.2.2,hzn.rb _ (ZW hx1k)⟩,by omega,by omega⟩|exact ⟨(hzn.le om om).ds had.1,by omega,by omega⟩|exact ⟨hzn.set hx2k om om om (by have:=hsb.1.1;omega) hsb.1.2,by omega,by omega⟩)⟩ (lr _)))))
 refine ak (Zo 3 [2] (iw (Uo n.routines) (ic [0] (UQ rd bs (p+1) n.routines.length (Zs:=ob)) ?_)))
 rintro _ _ ⟨YB,rfl,rfl,Yc⟩
 refine Z1 (X1 1 (ic [0] (XL rd bs ((p+1)+1) 8 (Zs:=ob)) ?_))
 rintro _ _ ⟨k1,rfl,rfl,YM⟩
 refine ie (ab 0 (ar (YR (k1==0) ZB (fun Zg=>?_) (fun Zg=>?_))))
 ·refine aD 11 (ZG 6 11 [0,1,2,3,4] [2,2] ?_)
  obtain ⟨x1,Z5⟩:=Zq n.routines YB om
  have hx1k:=Z5
  have hz1:=hzn.rt _ (ZW Z5)
  refine dx 5 (Zh none (YB:Int) 5 (Wz Z5)) (Zk 3 5 [6,7] (Kx (fun fz gz F h=>∃(g1:Nat) (c1:Nat) (b3:Nat),F=sF [0,6,7] fz [(8,.p b3 0)]/\h=[.obj b3 [YL n.decls,.ms g1 0 n.routines.length c1],.row (.slice (some ⟨g1,0,none⟩) n.routines.length c1) 5 (Zb (Yx (n.routines.set YB (Y8.mk x1.params x1.lent x1.result x1.body)))),Za gz 0,Za gz 1,Za gz 2]) ?_ ?_))
  ·refine WT 8 9 ?_ ?_
   ·refine dc 8 [] [] [] (Fh n YB x1.body x1 (hr:=Z5)) ?_
    rintro _ _ ⟨g1,c1,rfl,rfl⟩
    exact Z8 9 (dA 9 [] [] [nl,nl] fun b3=>Z8 10 (Yy 10 0 [] [] b3 [YL n.decls,.ms g1 0 n.routines.length c1] (de (ZH ⟨g1,c1,b3,rfl,rfl⟩ (ZT 5 fl)))))
   refine dA 9 [2,2] [b1,b1] [nl,nl] fun b4=>Z8 8 (dc 8 [] [] [] (Fh n YB x1.body x1 (hr:=Z5)) ?_)
   rintro _ _ ⟨g2,c2,rfl,rfl⟩
   exact Z8 10 (Yy 10 1 [] [] b4 [YL n.decls,.ms g2 0 n.routines.length c2] (de (ZH ⟨g2,c2,b4,rfl,rfl⟩ (ZT 5 fl))))
  rintro F h ⟨g1,c1,b3,rfl,rfl⟩
  refine aD 14 (ZG 7 14 [0,1,2,3,4,5,6] [0,0] (dx 7 (XS g1 n.routines.length c1 YB 5 (YB:Int)) (Zk 5 6 [8] (Vt 9 (WC 1 g1 n.routines.length c1 5 (YB*5+1) (Zb (Yx (n.routines.set YB (Y8.mk x1.params x1.lent x1.result x1.body)))) [Z6 x1.lent] 31 (Z6 x1.lent) (PM om _)) (Z8 10 (dc 10 [2] [0] [b3] (S4 rd bs (((p+1)+1)+1) x1.lent (Zs:=ob)) ?_))))))
  rintro _ _ ⟨zs1,p21,rfl,rfl,YZ⟩
  have hsi:=YZ
  exact dx 11 (XS g1 n.routines.length c1 YB 5 (YB:Int)) (Zk 1 2 [12] (Z8 13 (JW 13 2 [] [] g1 n.routines.length c1 5 (YB*5+1) [Z6 zs1] (Zb (Yx (n.routines.set YB (Y8.mk x1.params x1.lent x1.result x1.body)))) (Zb (Yx (n.routines.set YB (Y8.mk x1.params zs1 x1.result x1.body)))) (by rw [D4,Uu];simp only [YD,X6];omega) (PO om _ _) (de (ar (Xv (Uc 0 1 1 (.slice (some ⟨g1,0,none⟩) n.routines.length c1) 5 b3 (Yx (n.routines.set YB (Y8.mk x1.params zs1 x1.result x1.body))) [YL n.decls,.ms g1 0 n.routines.length c1] (VN _) rfl) (ZV 1 [0] (ZA 3 b2 [YL n.decls,W6 (n.routines.set YB (Y8.mk x1.params zs1 x1.result x1.body)) (.slice (some ⟨g1,0,none⟩) n.routines.length c1)] (ie (ZJ (r3 [3] [.agg [YL n.decls,W6 (n.routines.set YB (Y8.mk x1.params zs1 x1.result x1.body)) (.slice (some ⟨g1,0,none⟩) n.routines.length c1)]] [0] [(b2,b2)] ⟨(Zx.mk n.decls (n.routines.set YB (Y8.mk x1.params zs1 x1.result x1.body))),p21,rfl,rfl,(by first|exact ⟨hzn.le om om,by omega,by omega⟩|exact ⟨hzn.set hx1k om om om om ⟨hz1.2.2.2,hzn.rb _ (ZW hx1k)⟩,by omega,by omega⟩|exact ⟨(hzn.le om om).ds had.1,by omega,by omega⟩|exact ⟨hzn.set hx2k om om om (by have:=hsb.1.1;omega) hsb.1.2,by omega,by omega⟩)⟩ (Zd.agg (.cons (lr _) (.cons (Zd.forget _ _) .nil))))))))))))))
 refine ar (YR (k1==1) ZB (fun ZK=>?_) (fun ZK=>?_))
 ·refine aD 6 (ZG 3 6 [0,2,3] [2] (Z8 1 (dc 1 [0] [1] [b1] (PY rd bs (((p+1)+1)+1) (Zs:=ob)) ?_)))
  rintro _ _ ⟨dz1,p22,rfl,rfl,X7⟩
  have had:=X7
  exact Zk 1 2 [4] (Z8 5 (Yy 5 1 [] [] b2 [YL dz1,TV n.routines] (de (ZJ (r3 [1] [.agg [YL dz1,TV n.routines]] [0] [(b2,b2)] ⟨(Zx.mk dz1 n.routines),p22,rfl,rfl,(by first|exact ⟨hzn.le om om,by omega,by omega⟩|exact ⟨hzn.set hx1k om om om om ⟨hz1.2.2.2,hzn.rb _ (ZW hx1k)⟩,by omega,by omega⟩|exact ⟨(hzn.le om om).ds had.1,by omega,by omega⟩|exact ⟨hzn.set hx2k om om om (by have:=hsb.1.1;omega) hsb.1.2,by omega,by omega⟩)⟩ (lr _))))))
 refine ak (aD 12 (ZG 6 12 [0,1,2,3,4,5] [2,2] ?_))
 obtain ⟨x2,Zu⟩:=Zq n.routines YB om
 have hx2k:=Zu
 have hz2:=hzn.rt _ (ZW Zu)
 refine dx 6 (Zh none (YB:Int) 5 (Wz Zu)) (Zk 3 5 [7,8] (Z8 9 (dc 9 [0] [1] [b1] (S1 rd bs (((p+1)+1)+1) x2.body (Zs:=ob) (hg:=⟨hz2.2.2.2,hzn.rb _ (ZW hx2k)⟩)) ?_)))
 rintro _ _ ⟨y1,p23,rfl,rfl,XX⟩
 have hsb:=XX
 exact Z8 10 (Yo 10 [] [] [] (In n YB y1 x2 (hr:=Zu)) (Z8 11 (Yy 11 1 [] [] b2 (YN (withR n YB x2 y1)) (de (ZJ (r3 [1] [Yl (withR n YB x2 y1)] [0] [(b2,b2)] ⟨(withR n YB x2 y1),p23,rfl,rfl,(by first|exact ⟨hzn.le om om,by omega,by omega⟩|exact ⟨hzn.set hx1k om om om om ⟨hz1.2.2.2,hzn.rb _ (ZW hx1k)⟩,by omega,by omega⟩|exact ⟨(hzn.le om om).ds had.1,by omega,by omega⟩|exact ⟨hzn.set hx2k om om om (by have:=hsb.1.1;omega) hsb.1.2,by omega,by omega⟩)⟩ (lr _)))))))
theorem PZ (rd:Nat) (bs:LI) (p:Nat) (Zs:∀z∈bs,0<=z/\z<=255) (hp:p+73706400<=1000000000:=by exact ob):Zf 89 [.p rd 0] [Yb rd bs p] (fun r h=>∃(n2:Zx) (p2:Nat),r=Yl n2/\h=[Yb rd bs p2]/\ZS n2 7330632 11/\p<=p2/\p2<=p+73706400):=by
 refine ZD 14 Tryz.func89 (ar (iA [nl,nl] fun b1=>ie (X1 1 (ic [1] (XL rd bs p 4 (Zs:=ob)) ?_))))
 rintro _ _ ⟨k1,rfl,rfl,ZX⟩
 refine YR (k1==0) ZB (fun Z9=>?_) (fun Z9=>?_)
 ·refine Yg 2 (ic [0] (Ii rd bs (p+1) (Zs:=ob)) ?_)
  rintro _ _ ⟨n1,p21,rfl,rfl,Yc⟩
  have hpf:=((FO.zn Yc.1).le (show 181<=7330630 by omega)).zs
  refine ic [0] (Il rd bs p21 n1 8 7330630 10 (Zs:=ob) (hzn:=(by first|exact hpf|exact hbf))) ?_
  rintro _ _ ⟨n21,p22,rfl,rfl,YM⟩
  have hsf:=YM
  exact ZA 1 b1 (YN n21) (ie (ZJ (r3 [1] [Yl n21] [0] [(b1,b1)] ⟨n21,p22,rfl,rfl,⟨hsf.1,by omega,by omega⟩⟩ (lr _))))
 refine ak (Yg 2 (ic [0] (R3 rd bs (p+1) (Zs:=ob)) ?_))
 rintro _ _ ⟨n2,p23,rfl,rfl,YZ⟩
 have hbf:=YZ.1.zs
 refine ic [0] (Il rd bs p23 n2 8 7330630 10 (Zs:=ob) (hzn:=(by first|exact hpf|exact hbf))) ?_
 rintro _ _ ⟨n22,p24,rfl,rfl,X7⟩
 have hsf:=X7
 exact ZA 1 b1 (YN n22) (ie (ZJ (r3 [1] [Yl n22] [0] [(b1,b1)] ⟨n22,p24,rfl,rfl,⟨hsf.1,by omega,by omega⟩⟩ (lr _))))
open Go.Proofs
open Go.Proofs
theorem IC (op:Int) :Zf 93 [.i op] [] (Yu (.b (YP op))):=by
 refine ZD 9 Tryz.func93 (Y9 (ar (Vc 6 [] [(8,.b ((decide (op>=14))&&(decide (op<=17))))] (fun gz=>gz) ?_ (fun hj1=>?_))))
 ·exact Zt (Y4 (.b ((decide (op>=14))&&(decide (op<=17)))) (lb (by rw [YP,Xl];simp)))
 refine Z2 3 (ib (b:=(decide (op>=14))) 5 (fun Ze=>?_) (fun Ze=>?_))
 ·exact Z2 3 (Xy (wk [] (ZP (decide (op<=17)) Ze fl)) hj1)
 exact Z2 3 (Xy (wk [] (ZP false Ze fl)) hj1)
theorem SC (b:Z3) (c:Nat) (v:Int) (hb:b.sz<=1000000000:=by exact ob) (hv:0<=v/\v<=600:=by exact ob) (ih:∀(b2:Z3) (c:Nat) (v:Int),(b2.sz<b.sz)->(0<=v/\v<=600)->Zf 101 [ZC b2,.p c 0] [.obj c [.i v]] (fun r h=>(r=.b true/\h=[.obj c [.i (600-W8 b2 (600-v))]]/\0<=W8 b2 (600-v))∨(r=.b false/\h=[]/\W8 b2 (600-v)<0))):Zf 101 [ZC b,.p c 0] [.obj c [.i v]] (fun r h=>(r=.b true/\h=[.obj c [.i (600-W8 b (600-v))]]/\0<=W8 b (600-v))∨(r=.b false/\h=[]/\W8 b (600-v)<0)):=by
 have hbz:=WR b
 have hbe:=L5 b (600-v)
 refine ZD 38 Tryz.func101 (ar (iA (YK b) fun b1=>?_))
 refine Z1 (Y7 2 [0] (iw (WA b.steps) (Z1 (ab 0 (Y1 (fun fz gz m F h=>∃(k:Nat) (q:Int),(k<=b.steps.length)/\(0<=q/\q<=600)/\(UD (b.steps.drop k) (600-q)=UD b.steps (600-v))/\F=sF [1,10,11] fz [(12,.i k)]/\h=[.obj c [.i q]]/\m=b.steps.length-k) _ _ _ ⟨0,v,ob,ob,rfl,rfl,rfl,rfl⟩ (wk [1] (Yd fl)) ?_)))))
 rintro m F h ⟨k,q,Yf,Zj,Zp,rfl,rfl,rfl⟩
 refine Y9 (aq (VJ ((k:Int)<(b.steps.length:Int)) (fun Z9=>?_) (fun Z9=>?_)))
 ·refine ak (aq (ab 1 (ar ?_)))
  obtain ⟨x1,Z5⟩:=Zq b.steps k om
  have hss:=TH Z5
  have hkz:=U6 x1
  refine Zm (Zh none (k:Int) 5 (XR Z5)) (Z2 1 (iA [.i 0,.i 0,.i 0,nl,nl] fun b2=>ZA 0 b2 (Xg x1) (ie (Y7 3 [1] (ia ((q+1)) ((q)+(1)) (Z2 1 (ZA 1 c [.i (q+1)] (ie (A7 [0] (VJ ((q+1)>600) (fun Zg=>?_) (fun Zg=>?_)))))))))))
  ·exact ar (Zt (r1 [] (.inr ⟨rfl,rfl,(by rw [hbe,<-Zp,Yn Z5,UD,Zw om];omega)⟩)))
  refine ak (Zo 2 [1] (iw (Vi x1.kids) (Z1 (ab 2 (Y1 (fun fz gz m F h=>∃(j:Nat) (j2:Int),(j<=x1.kids.length)/\(0<=j2/\j2<=600)/\(UY (x1.kids.drop j) (600-j2)=UY x1.kids (600-(q+1)))/\F=sF [1,10,11,12,26,27] fz [(28,.i j)]/\h=[.obj c [.i j2]]/\m=x1.kids.length-j) _ _ _ ⟨0,(q+1),ob,ob,rfl,rfl,rfl,rfl⟩ (wk [0] (Yd fl)) ?_)))))
  rintro m F h ⟨j,j2,VX,Wh,Xm,rfl,rfl,rfl⟩
  refine Y9 (aq (VJ ((j:Int)<(x1.kids.length:Int)) (fun ZK=>?_) (fun ZK=>?_)))
  ·refine ak (aq (ab 3 (ar ?_)))
   obtain ⟨x2,Zu⟩:=Zq x1.kids j om
   have hks:=VP Zu
   have hle:=FI.2 x2 (600-j2) om
   refine Zm (Zh none (j:Int) 2 (Vu Zu)) (Z2 1 (iA [nl,.i 0] fun b3=>ZA 0 b3 (YK x2) (ie (Zo 2 [0] (ic [1] (ih x2 c j2 ob ob) ?_)))))
   rintro _ _ (⟨rfl,rfl,ZX⟩|⟨rfl,rfl,Yc⟩)
   ·refine Z1 (Wx (ak (az (ZF j (Z1 ?_)))))
    have hdr:=Yn Zu
    exact ZI ⟨j+1,(600-W8 x2 (600-j2)),ob,ob,(by rw [Yn Zu,UY,Zr om] at Xm;rw [show 600-(600-W8 x2 (600-j2))=W8 x2 (600-j2) by omega];exact Xm),rfl,rfl,rfl⟩ (wk [0] (ZL j fl))
   exact Z1 (Vh (ar (Zt (r1 [] (.inr ⟨rfl,rfl,(by rw [hbe,<-Zp,Yn Z5,UD,Zr om,Zw (by rw [Ds,show (600-q-1:Int)=600-(q+1) by omega,<-Xm,Yn Zu,UY,Zw Yc];omega)];omega)⟩)))))
  have hE:UY x1.kids (600-(q+1))=600-j2:=by rw [<-Xm,Xz om,UY]
  refine ax 2 (az (ZF k (Z1 ?_)))
  have hdr:=Yn Z5
  exact ZI ⟨k+1,j2,ob,ob,(by rw [Yn Z5,UD,Zr om,Ds,show (600-q-1:Int)=600-(q+1) by omega,hE,Zr om] at Zp;exact Zp),rfl,rfl,rfl⟩ (wk [0] (ZL k fl))
 refine ax 0 (Y9 ?_)
 have hF:W8 b (600-v)=600-q:=by rw [hbe,<-Zp,Xz om,UD]
 exact ZJ (r1 [0] (.inl ⟨rfl,rfl,om⟩) (eq:=(ro (ls:=[.i q]) (by rw [hF,show (600-(600-q):Int)=q by omega]) rz)))
theorem SB:∀(b:Z3) (c:Nat) (v:Int),(b.sz<=1000000000)->(0<=v/\v<=600)->Zf 101 [ZC b,.p c 0] [.obj c [.i v]] (fun r h=>(r=.b true/\h=[.obj c [.i (600-W8 b (600-v))]]/\0<=W8 b (600-v))∨(r=.b false/\h=[]/\W8 b (600-v)<0)):=by
 have key:∀m:Nat,∀(b:Z3) (c:Nat) (v:Int),(b.sz<=m)->(b.sz<=1000000000)->(0<=v/\v<=600)->Zf 101 [ZC b,.p c 0] [.obj c [.i v]] (fun r h=>(r=.b true/\h=[.obj c [.i (600-W8 b (600-v))]]/\0<=W8 b (600-v))∨(r=.b false/\h=[]/\W8 b (600-v)<0)):=by
  intro m
  induction m with
  | zero=>intro b c v h;have:=b.sz_pos;omega
  | succ m ih=>intro b c v h1 h2 h3;exact SC b c v h2 h3 fun b2 c2 v2 k1 k2=>ih b2 c2 v2 om om k2
 intro b c v h2 h3
 exact key b.sz b c v (YQ _) h2 h3
theorem IB (b:Z3) (hb:b.sz<=1000000000:=by exact ob):Zf 63 [ZC b] [] (Yu (.i (Ub b))):=by
 refine ZD 8 Tryz.func63 (ar (iA (YK b) fun b1=>Z1 (ar (iA [.i 0] fun b2=>ZA 0 b2 [.i 0] (ie (Y7 1 [1] (ic [0] (SB b b2 0 ob ob) ?_)))))))
 rintro _ _ (⟨rfl,rfl,ZX⟩|⟨rfl,rfl,Yc⟩)
 ·have h0:=ZX
  rw [show (600-0:Int)=600 from rfl] at h0
  exact Z1 (Wx (ak (A7 [0] (ZJ (Y4 (.i (600-W8 b (600-0))) (li (by rw [show (600-0:Int)=600 from rfl,Ub,Zr om])))))))
 have h0:=Yc
 rw [show (600-0:Int)=600 from rfl] at h0
 exact Z1 (Vh (ar (Zt (Y4 (.i (-1)) (li (by rw [Ub,Zw h0]))))))
open Go.Proofs
open Go.Proofs
open Go.Proofs
theorem Nn (z:Int) (v:Int) (p:Nat) (q:Nat) (co:Int) (hl:0<=co/\co<=1000000000:=by exact ob):Zf 65 [.i z,.p p 0,.p q 0] [.obj p [.i v],.obj q [.i co]] (fun r h=>∃(w:Int),h=[.obj p [.i v],.obj q [.i w]]/\w=(if z=v then co+1 else co)):=by
 refine ZD 9 Tryz.func65 (A7 [0] (ac (z==v) ZB (fun Z9=>?_) (fun Z9=>?_)))
 ·exact az (ZV 1 [1] (ia ((co+1)) ((co)+(1)) (ZA 1 q [.i (co+1)] (ie (r2 [1,0] [] ⟨(co+1),rfl,(by first|rw [Zw (by assumption)]|rw [Zr (by assumption)]|rfl)⟩ (lr _))))))
 exact ak (r2 [0,0] [] ⟨co,rfl,(by first|rw [Zw (by assumption)]|rw [Zr (by assumption)]|rfl)⟩ (lr _))
theorem Z5x (s:Z4) (v:Int) (p:Nat) (q:Nat) (co:Int) (ih:∀(b2:Z3) (k2:Nat) (v:Int) (p:Nat) (q:Nat) (c2:Int),(b2.sz<s.sz)->(k2<=b2.steps.length)->(b2.sz<=1000000000)->(0<=c2/\c2+b2.sz<=1000000000)->Zf 64 [ZC b2,.i k2,.val (.func (.func 65) #[] #[.pointer (some ⟨p,0,none⟩),.pointer (some ⟨q,0,none⟩)])] [.obj p [.i v],.obj q [.i c2]] (fun r h=>∃(w:Int),h=[.obj p [.i v],.obj q [.i w]]/\w=(c2+((Xc v (Xt (b2.steps.drop k2)++[b2.result]):Nat):Int)))) (X5:s.sz<=1000000000) (hz:0<=co/\co+s.sz<=1000000000):Zf 102 [Yp s,.val (.func (.func 65) #[] #[.pointer (some ⟨p,0,none⟩),.pointer (some ⟨q,0,none⟩)])] [.obj p [.i v],.obj q [.i co]] (fun r h=>∃(w:Int),h=[.obj p [.i v],.obj q [.i w]]/\w=(co+((Xc v (vS s):Nat):Int))):=by
 have hkz:=U6 s
 have haz:=T7 s
 have hse:=s.sz_eq
 refine ZD 33 Tryz.func102 (ar (iA (Xg s) fun b1=>ie (Y7 2 [0] (Zv [] (IC s.op) (ie (ac (YP s.op) Iff.rfl (fun Z9=>?_) (fun Z9=>?_)))))))
 ·exact ZJ (r2 [1,1] [] ⟨co,rfl,(by rw [Bm,Zw (by assumption)];simp [Xc])⟩ (lr _))
 refine ak (Y7 2 [0] (iw (Ye s.args) (Z1 (ab 0 (Y1 (fun fz gz m F h=>∃(j:Nat) (d:Int),(j<=s.args.length)/\(d=(co+((Xc v (s.args.take j):Nat):Int)))/\(0<=d/\d<=co+j)/\F=sF [1,2,12,13] fz [(14,.i j)]/\h=[Za gz 0,Za gz 1,.obj q [.i d]]/\m=s.args.length-j) _ _ _ ⟨0,co,ob,(by simp [Xc]),ob,rfl,rfl,rfl⟩ (ZT 3 (Yd fl)) ?_)))))
 rintro m F h ⟨j,d,Yf,Zj,Zp,rfl,rfl,rfl⟩
 refine Y9 (aq (VJ ((j:Int)<(s.args.length:Int)) (fun Zg=>?_) (fun Zg=>?_)))
 ·refine ak (aq (ab 1 (ar ?_)))
  obtain ⟨x1,Z5⟩:=Zq s.args j om
  refine Zm (Zh none (j:Int) 1 (ZZ Z5)) (Z1 (az (Z2 2 (ic [1,1] (Nn x1 v p q d) ?_))))
  rintro _ _ ⟨w1,rfl,ZX⟩
  have hw:=ZX
  exact ie (az (ZF j (Z1 (ZI ⟨j+1,w1,ob,(by rw [hw];exact Hh Z5 Zj),(by rw [hw];split<;>omega),rfl,rfl,rfl⟩ (wk [2,0,0] (ZL j fl))))))
 have hA:s.args.take j=s.args:=WS om
 rw [hA] at Zj
 refine ax 0 (Zo 2 [0] (iw (Vi s.kids) (Z1 (ab 2 (Y1 (fun fz gz m F h=>∃(i:Nat) (e:Int),(i<=s.kids.length)/\(e=(co+((Xc v (s.args++WI (s.kids.take i)):Nat):Int)))/\(0<=e/\e+YH (s.kids.drop i)<=co+s.args.length+YH s.kids)/\F=sF [1,23,24] fz [(25,.i i)]/\h=[Za gz 1,.obj q [.i e]]/\m=s.kids.length-i) _ _ _ ⟨0,d,ob,(by rw [Zj,List.take_zero,WI,T3]),(by rw [Ut];omega),rfl,rfl,rfl⟩ (wk [1,1] (Yd fl)) ?_)))))
 rintro m F h ⟨i,e,VX,Wh,Xm,rfl,rfl,rfl⟩
 refine Y9 (aq (VJ ((i:Int)<(s.kids.length:Int)) (fun ZK=>?_) (fun ZK=>?_)))
 ·refine ak (aq (ab 3 (ar ?_)))
  obtain ⟨x2,Zu⟩:=Zq s.kids i om
  have hks:=VP Zu
  have hbd:=Ew Zu
  have hvl:=Cp x2
  rw [JH] at hvl
  have hcl:=AH (v:=v) (xs:=Xt ((x2).steps.drop 0)++[(x2).result])
  rw [Ut] at hcl
  refine Zm (Zh none (i:Int) 2 (Vu Zu)) (Z2 1 (iA [nl,.i 0] fun b2=>ZA 0 b2 (YK x2) (ie (az (ZV 2 [0] (ic [1,1] (ih x2 0 v p q e ob (Uv _) ob ob) ?_))))))
  rintro _ _ ⟨w2,rfl,Yc⟩
  have hw:=Yc
  exact ie (az (ZF i (Z1 (ZI ⟨i+1,w2,ob,(by rw [hw];exact Hg Zu Wh),(by rw [hw,Ut];omega),rfl,rfl,rfl⟩ (wk [0,0] (ZL i fl))))))
 exact ax 2 (r2 [0,0] [] ⟨e,rfl,(by rw [Bm,Zr (by assumption),Wh,WS om])⟩ (lr _))
theorem Z61 (b:Z3) (k0:Nat) (v:Int) (p:Nat) (q:Nat) (co:Int) (ih:∀(s2:Z4) (v:Int) (p:Nat) (q:Nat) (c2:Int),(s2.sz<b.sz)->(s2.sz<=1000000000)->(0<=c2/\c2+s2.sz<=1000000000)->Zf 102 [Yp s2,.val (.func (.func 65) #[] #[.pointer (some ⟨p,0,none⟩),.pointer (some ⟨q,0,none⟩)])] [.obj p [.i v],.obj q [.i c2]] (fun r h=>∃(w:Int),h=[.obj p [.i v],.obj q [.i w]]/\w=(c2+((Xc v (vS s2):Nat):Int)))) (hk:k0<=b.steps.length) (hbz:b.sz<=1000000000) (hz:0<=co/\co+b.sz<=1000000000):Zf 64 [ZC b,.i k0,.val (.func (.func 65) #[] #[.pointer (some ⟨p,0,none⟩),.pointer (some ⟨q,0,none⟩)])] [.obj p [.i v],.obj q [.i co]] (fun r h=>∃(w:Int),h=[.obj p [.i v],.obj q [.i w]]/\w=(co+((Xc v (Xt (b.steps.drop k0)++[b.result]):Nat):Int))):=by
 have hbe:=b.sz_eq
 have hsd:=As b.steps k0
 have hdl:(b.steps.drop k0).length=b.steps.length-k0:=Kh
 have Zs:=WR b
 refine ZD 25 Tryz.func64 (ar (iA (YK b) fun b1=>?_))
 refine ie (Y7 3 [0] (Zm (Kc (es:=Zi b.steps) (hv:=none) (l:=(k0:Int)) (m:=(((Zi b.steps).length:Nat):Int)) (sz:=5) (es':=Zi (b.steps.drop k0)) kr om (by simp<;>omega) (by simp<;>omega) (YX _) (by first|(simp only [VS,V7,T9,T8];done)|(simp only [VS,V7,T9,T8];rfl)|(simp [T9,T8];done))) (io (.i (((b.steps.drop k0).length:Nat):Int)) (.i (((Zi (b.steps.drop k0)).length:Nat):Int)) (li (by rw [WA])) (Z1 (ab 0 (Y1 (fun fz gz m F h=>∃(k:Nat) (d:Int),(k<=(b.steps.drop k0).length)/\(d=(co+((Xc v (Xt ((b.steps.drop k0).take k)):Nat):Int)))/\(0<=d/\d+Y3 ((b.steps.drop k0).drop k)<=co+Y3 (b.steps.drop k0))/\F=sF [2,3,11,12] fz [(13,.i k)]/\h=[Za gz 0,Za gz 1,.obj q [.i d]]/\m=(b.steps.drop k0).length-k) _ _ _ ⟨0,co,ob,(by simp [Xc,Xt]),(by rw [Ut];omega),rfl,rfl,rfl⟩ (ZT 3 (Yd fl)) ?_))))))
 rintro m F h ⟨k,d,Yf,Zj,Zp,rfl,rfl,rfl⟩
 refine Y9 (aq (VJ ((k:Int)<(((b.steps.drop k0).length:Nat):Int)) (fun Z9=>?_) (fun Z9=>?_)))
 ·refine ak (aq (ab 1 (ar ?_)))
  obtain ⟨x1,Z5⟩:=Zq (b.steps.drop k0) k om
  have hss:=TH (b:=b) (by have h:=Z5;rw [Cv] at h;exact h)
  have hsd1:=Ck Z5
  have hvl:=E3 x1
  have hcl:=AH (v:=v) (xs:=vS x1)
  refine Zm (Zh none (k:Int) 5 (XR Z5)) (Z2 1 (iA [.i 0,.i 0,.i 0,nl,nl] fun b2=>ZA 0 b2 (Xg x1) (ie (az (ZV 2 [0] (ic [2,2] (ih x1 v p q d ob ob ob) ?_))))))
  rintro _ _ ⟨w1,rfl,ZX⟩
  have hw:=ZX
  exact ie (az (ZF k (Z1 (ZI ⟨k+1,w1,ob,(by rw [hw];exact Hk Z5 Zj),(by rw [hw];omega),rfl,rfl,rfl⟩ (wk [3,0,0] (ZL k fl))))))
 refine ax 0 (az (ZV 3 [0] (ic [1,1] (Nn b.result v p q d) ?_)))
 rintro _ _ ⟨w2,rfl,Yc⟩
 have hw:=Yc
 exact ie (r2 [0,0] [] ⟨w2,rfl,(hw.trans (by rw [WS om] at Zj;rw [Zj];rw [EC];split<;>simp_all<;>omega))⟩ (lr _))
theorem Z63 (k:Nat):(∀(s:Z4) (v:Int) (p:Nat) (q:Nat) (co:Int),(s.sz<=k)->(s.sz<=1000000000)->(0<=co/\co+s.sz<=1000000000)->Zf 102 [Yp s,.val (.func (.func 65) #[] #[.pointer (some ⟨p,0,none⟩),.pointer (some ⟨q,0,none⟩)])] [.obj p [.i v],.obj q [.i co]] (fun r h=>∃(w:Int),h=[.obj p [.i v],.obj q [.i w]]/\w=(co+((Xc v (vS s):Nat):Int))))/\(∀(b:Z3) (k0:Nat) (v:Int) (p:Nat) (q:Nat) (co:Int),(b.sz<=k)->(k0<=b.steps.length)->(b.sz<=1000000000)->(0<=co/\co+b.sz<=1000000000)->Zf 64 [ZC b,.i k0,.val (.func (.func 65) #[] #[.pointer (some ⟨p,0,none⟩),.pointer (some ⟨q,0,none⟩)])] [.obj p [.i v],.obj q [.i co]] (fun r h=>∃(w:Int),h=[.obj p [.i v],.obj q [.i w]]/\w=(co+((Xc v (Xt (b.steps.drop k0)++[b.result]):Nat):Int)))):=by
 induction k with
 | zero=>exact ⟨fun s v p q co h=>by have:=s.sz_pos;omega,fun b k0 v p q co h=>by have:=b.sz_pos;omega⟩
 | succ k ih=>exact ⟨fun s v p q co h h3 hz=>Z5x s v p q co (fun b2 k2 v p q c2 h2 hk h3 hz=>ih.2 b2 k2 v p q c2 om hk h3 hz) h3 hz,fun b k0 v p q co h hk h3 hz=>Z61 b k0 v p q co (fun s2 v p q c2 h2 h3 hz=>ih.1 s2 v p q c2 om h3 hz) hk h3 hz⟩
theorem Z5y (b:Z3) (k0:Nat) (v:Int) (p:Nat) (q:Nat) (co:Int) (hk:k0<=b.steps.length:=by exact ob) (hbz:b.sz<=1000000000:=by exact ob) (hz:0<=co/\co+b.sz<=1000000000:=by exact ob):Zf 64 [ZC b,.i k0,.val (.func (.func 65) #[] #[.pointer (some ⟨p,0,none⟩),.pointer (some ⟨q,0,none⟩)])] [.obj p [.i v],.obj q [.i co]] (fun r h=>∃(w:Int),h=[.obj p [.i v],.obj q [.i w]]/\w=(co+((Xc v (Xt (b.steps.drop k0)++[b.result]):Nat):Int))):=(Z63 b.sz).2 b k0 v p q co (YQ _) hk hbz hz
theorem SA (b:Z3) (v:Int) (hb:b.sz<=20000000:=by exact ob):Zf 21 [ZC b,.i v] [] (Yu (.i (XO b v))):=by
 refine ZD 13 Tryz.func21 (ar (iA (YK b) fun b1=>iA [.i v] fun b2=>Z1 (Y7 1 [1] (Zv [] (IB b) (ZQ ((Ub b)<0) (fun Z9=>?_) (fun Z9=>?_))))))
 ·exact ar (Zt (Y4 (.i (-1)) (li (by rw [XO,Zw (by assumption)]))))
 refine ak (ar (iA [.i 0] fun b3=>ZA 0 b3 [.i 0] (ie (Zo 2 [2] (ic [1,0] (Z5y b 0 v b2 b3 0 (hk:=(Uv _))) ?_)))))
 rintro _ _ ⟨w1,rfl,ZX⟩
 have hw:=ZX
 exact ie (A7 [1] (ZJ (Y4 (.i w1) (li (by rw [hw,XO,Zr (by assumption),Ut,<-JH];omega)))))
theorem Z49 (s:Z4) (v:Int) (ih:∀(b2:Z3) (v:Int),(b2.sz<s.sz)->(b2.sz<=1000000000)->Zf 67 [ZC b2,.i v] [] (Yu (.i ((Xc v (vB b2):Nat):Int)))) (hl:s.sz<=1000000000):Zf 71 [Yp s,.i v] [] (Yu (.i ((Xc v (vS s):Nat):Int))):=by
 have hkz:=U6 s
 have haz:=T7 s
 have hse:=s.sz_eq
 refine ZD 44 Tryz.func71 (ar (iA (Xg s) fun b1=>Z1 (Y7 2 [0] (Zv [] (Gl s.op) (ie (ac (YP s.op) Iff.rfl (fun Z9=>?_) (fun Z9=>?_)))))))
 ·exact ar (Zt (Y4 (.i 0) (li (by rw [Bm,Zw (by assumption)];rfl))))
 refine ak (Y9 (Y0 (ab 0 (Y1 (fun fz gz m F h=>∃(j:Nat) (z:Int),(j<=s.args.length)/\(z=(0+((Xc v (s.args.take j):Nat):Int)))/\(0<=z/\z<=j)/\F=sF [1,2] fz [(5,.i z),(6,.i j)]/\h=gz/\m=s.args.length-j) _ _ _ ⟨0,0,ob,(by simp [Xc]),ob,rfl,rfl,rfl⟩ (wk [0] (fr (Yd fl))) ?_))))
 rintro m F h ⟨j,z,Yf,Zj,Zp,rfl,rfl,rfl⟩
 refine Y7 3 [0] (iw (Ye s.args) (ZQ ((j:Int)<(s.args.length:Int)) (fun Zg=>?_) (fun Zg=>?_)))
 ·refine ak (aq (ab 1 (Zo 3 [0] ?_)))
  obtain ⟨x1,Z5⟩:=Zq s.args j om
  refine Zm (Zh none (j:Int) 1 (ZZ Z5)) (Z1 (Kw (fun fz gz F h=>F=sF [1,2,6] fz [(5,.i (if x1=v then (z+1) else z))]/\h=gz) (fun _ _=>rfl) ?_ ?_))
  ·refine ac (x1==v) ZB (fun ZK=>?_) (fun ZK=>?_)
   ·exact az (Z2 1 (ia ((z+1)) ((z)+(1)) (Z1 (ZH ⟨rfl,rfl⟩ (wk [0] (fc (x:=.i (z+1)) (li (by first|rfl|(rw [Zw ZK])|(rw [Zr ZK])|(simp [ZK];done)|(rw [Xl];simp [ZK];done)|omega)) fl))))))
   exact ak (ZH ⟨rfl,rfl⟩ (wk [0] (fc (x:=.i z) (li (by first|rfl|(rw [Zw ZK])|(rw [Zr ZK])|(simp [ZK];done)|(rw [Xl];simp [ZK];done)|omega)) fl)))
  rintro F h ⟨rfl,rfl⟩
  exact az (Z2 1 (ZF j (Z1 (ZI ⟨j+1,(if x1=v then (z+1) else z),ob,(Hh Z5 Zj),(by split<;>omega),rfl,rfl,rfl⟩ (wk [0] (fr (ZL j fl)))))))
 have hA:s.args.take j=s.args:=WS om
 rw [hA] at Zj
 refine ax 0 (Y0 (ab 2 (Y1 (fun fz gz m F h=>∃(i:Nat) (e:Int),(i<=s.kids.length)/\(e=(0+((Xc v (s.args++WI (s.kids.take i)):Nat):Int)))/\(0<=e/\e+YH (s.kids.drop i)<=s.args.length+YH s.kids)/\F=sF [1,2] fz [(5,.i e),(7,.i i)]/\h=gz/\m=s.kids.length-i) _ _ _ ⟨0,z,ob,(by rw [Zj,List.take_zero,WI,T3]),(by rw [Ut];omega),rfl,rfl,rfl⟩ (wk [0] (fr (Yd fl))) ?_)))
 rintro m F h ⟨i,e,VX,Wh,Xm,rfl,rfl,rfl⟩
 refine Y7 3 [0] (iw (Vi s.kids) (ZQ ((i:Int)<(s.kids.length:Int)) (fun Yt=>?_) (fun Yt=>?_)))
 ·refine ak (aq (ab 3 (az (ZV 4 [0] ?_))))
  obtain ⟨x2,Zu⟩:=Zq s.kids i om
  have hks:=VP Zu
  have hbd:=Ew Zu
  have hvl:=Cp x2
  have hcl:=AH (v:=v) (xs:=vB x2)
  exact Zm (Zh none (i:Int) 2 (Vu Zu)) (Z2 2 (Zv [] (ih x2 v ob ob) (ia ((e+((Xc v (vB x2):Nat):Int))) ((e)+(((Xc v (vB x2):Nat):Int))) (Z1 (az (Z2 1 (ZF i (Z1 (ZI ⟨i+1,(e+((Xc v (vB x2):Nat):Int)),ob,(by have h:=Hg Zu Wh;rwa [Ut,<-JH] at h),om,rfl,rfl,rfl⟩ (wk [0] (fr (ZL i fl))))))))))))
 exact ax 2 (ar (Zt (Y4 (.i e) (li (by rw [Bm,Zr (by assumption),Wh,WS om];omega)))))
theorem Z3o (b:Z3) (v:Int) (ih:∀(s2:Z4) (v:Int),(s2.sz<b.sz)->(s2.sz<=1000000000)->Zf 71 [Yp s2,.i v] [] (Yu (.i ((Xc v (vS s2):Nat):Int)))) (hl:b.sz<=1000000000):Zf 67 [ZC b,.i v] [] (Yu (.i ((Xc v (vB b):Nat):Int))):=by
 have hbe:=b.sz_eq
 have Zs:=WR b
 have hr0:0<=(if b.result=v then (1:Int) else 0)/\(if b.result=v then (1:Int) else 0)<=1:=by split<;>omega
 refine ZD 28 Tryz.func67 (ar (iA (YK b) fun b1=>?_))
 refine Z1 (Y9 (Xd (VG [0] (XA (fun fz gz F h=>F=sF [1,2] fz [(5,.i (if b.result=v then 1 else 0))]/\h=gz) ?_ ?_))))
 ·refine ac (b.result==v) ZB (fun Z9=>?_) (fun Z9=>?_)
  ·exact UN (ZH ⟨rfl,rfl⟩ (wk [0] (fc (x:=.i 1) (li (by first|rfl|(rw [Zw Z9])|(rw [Zr Z9])|(simp [Z9];done)|(rw [Xl];simp [Z9];done)|omega)) fl)))
  exact ak (ZH ⟨rfl,rfl⟩ (wk [0] (fc (x:=.i 0) (li (by first|rfl|(rw [Zw Z9])|(rw [Zr Z9])|(simp [Z9];done)|(rw [Xl];simp [Z9];done)|omega)) fl)))
 rintro F h ⟨rfl,rfl⟩
 refine Y0 (ab 0 (Y1 (fun fz gz m F h=>∃(k:Nat) (z:Int),(k<=b.steps.length)/\(z=((if b.result=v then (1:Int) else 0)+((Xc v (Xt (b.steps.take k)):Nat):Int)))/\(0<=z/\z+Y3 (b.steps.drop k)<=1+Y3 b.steps)/\F=sF [1,2] fz [(5,.i z),(6,.i k)]/\h=gz/\m=b.steps.length-k) _ _ _ ⟨0,(if b.result=v then (1:Int) else 0),ob,(by simp [Xc,Xt]),(by rw [Ut];omega),rfl,rfl,rfl⟩ (wk [0] (fc (x:=.i (if b.result=v then 1 else 0)) li (Yd fl))) ?_))
 rintro m F h ⟨k,z,Yf,Zj,Zp,rfl,rfl,rfl⟩
 refine Y7 3 [0] (iw (WA b.steps) (ZQ ((k:Int)<(b.steps.length:Int)) (fun Zg=>?_) (fun Zg=>?_)))
 ·refine ak (aq (ab 1 (az (ZV 4 [0] ?_))))
  obtain ⟨x1,Z5⟩:=Zq b.steps k om
  have hss:=TH Z5
  have hsd:=Ck Z5
  have hvl:=E3 x1
  have hcl:=AH (v:=v) (xs:=vS x1)
  exact Zm (Zh none (k:Int) 5 (XR Z5)) (Z2 2 (Zv [] (ih x1 v ob ob) (ia ((z+((Xc v (vS x1):Nat):Int))) ((z)+(((Xc v (vS x1):Nat):Int))) (Z1 (az (Z2 1 (ZF k (Z1 (ZI ⟨k+1,(z+((Xc v (vS x1):Nat):Int)),ob,(Hk Z5 Zj),om,rfl,rfl,rfl⟩ (wk [0] (fr (ZL k fl))))))))))))
 exact ax 0 (ar (Zt (Y4 (.i z) (li (by rw [Zj,WS om,JH,EC];split<;>omega)))))
theorem Z3t (k:Nat):(∀(s:Z4) (v:Int),(s.sz<=k)->(s.sz<=1000000000)->Zf 71 [Yp s,.i v] [] (Yu (.i ((Xc v (vS s):Nat):Int))))/\(∀(b:Z3) (v:Int),(b.sz<=k)->(b.sz<=1000000000)->Zf 67 [ZC b,.i v] [] (Yu (.i ((Xc v (vB b):Nat):Int)))):=by
 induction k with
 | zero=>exact ⟨fun s v h=>by have:=s.sz_pos;omega,fun b v h=>by have:=b.sz_pos;omega⟩
 | succ k ih=>exact ⟨fun s v h hl=>Z49 s v (fun b2 v h2 hl=>ih.2 b2 v om hl) hl,fun b v h hl=>Z3o b v (fun s2 v h2 hl=>ih.1 s2 v om hl) hl⟩
theorem Z3n (b:Z3) (v:Int) (hl:b.sz<=1000000000:=by exact ob):Zf 67 [ZC b,.i v] [] (Yu (.i ((Xc v (vB b):Nat):Int))):=(Z3t b.sz).2 b v (YQ _) hl
theorem MA (b:Z3) (v:Int) (hb:b.sz<=20000000:=by exact ob):Zf 22 [ZC b,.i v] [] (Yu (.i (XO b v))):=by
 refine ZD 11 Tryz.func22 (ar (iA (YK b) fun b1=>Z1 (Y7 1 [0] (Zv [] (MO b) (ZQ ((Ub b)<0) (fun Z9=>?_) (fun Z9=>?_))))))
 ·exact ar (Zt (Y4 (.i (-1)) (li (by rw [XO,Zw (by assumption)]))))
 exact ak (Zo 2 [0] (Zv [] (Z3n b v) (Zt (Y4 (.i ((Xc v (vB b):Nat):Int)) (li (by rw [XO,Zr (by assumption)]))))))
end Go.Abs
section
namespace Go.Proofs
open Go.Shelf
def Tryz.lays189_ren:Go.Shelf.Ren:=⟨fun|189=>105|125=>141|257=>140|128=>189|129=>190|294=>180|295=>181|296=>182|297=>183|298=>184|299=>185|216=>186|300=>187|301=>188|328=>236|329=>237|330=>238|331=>239|332=>240|215=>241|343=>277|n=>n,fun|28=>31|3=>3|46=>145|0=>0|51=>188|53=>190|4=>4|183=>181|182=>180|131=>127|5=>5|9=>9|218=>218|222=>113|228=>246|229=>247|n=>n,fun|n=>n⟩
theorem Tryz.lays189:Go.Proofs.Lays.n189 Tryz.prog Tryz.lays189_ren:={
 mixed:=by kernel_rfl
 f125:=Tryz.func141.trans (congrArg some (by kernel_rfl))
 f128:=Tryz.func189.trans (congrArg some (by kernel_rfl))
 f129:=Tryz.func190.trans (congrArg some (by kernel_rfl))
 f189:=Tryz.func105.trans (congrArg some (by kernel_rfl))
 f215:=Tryz.func241.trans (congrArg some (by kernel_rfl))
 f216:=Tryz.func186.trans (congrArg some (by kernel_rfl))
 f257:=Tryz.func140.trans (congrArg some (by kernel_rfl))
 f294:=Tryz.func180.trans (congrArg some (by kernel_rfl))
 f295:=Tryz.func181.trans (congrArg some (by kernel_rfl))
 f296:=Tryz.func182.trans (congrArg some (by kernel_rfl))
 f297:=Tryz.func183.trans (congrArg some (by kernel_rfl))
 f298:=Tryz.func184.trans (congrArg some (by kernel_rfl))
 f299:=Tryz.func185.trans (congrArg some (by kernel_rfl))
 f300:=Tryz.func187.trans (congrArg some (by kernel_rfl))
 f301:=Tryz.func188.trans (congrArg some (by kernel_rfl))
 f328:=Tryz.func236.trans (congrArg some (by kernel_rfl))
 f329:=Tryz.func237.trans (congrArg some (by kernel_rfl))
 f330:=Tryz.func238.trans (congrArg some (by kernel_rfl))
 f331:=Tryz.func239.trans (congrArg some (by kernel_rfl))
 f332:=Tryz.func240.trans (congrArg some (by kernel_rfl))
 f343:=Tryz.func277.trans (congrArg some (by kernel_rfl))
 t0:=Tryz.underlying0
 a0:=Tryz.isAgg0
 z0:=Tryz.sizeOf0
 v0:=Tryz.zeroValue0
 t3:=Tryz.underlying3
 a3:=Tryz.isAgg3
 z3:=Tryz.sizeOf3
 v3:=Tryz.zeroValue3
 t4:=Tryz.underlying4
 a4:=Tryz.isAgg4
 z4:=Tryz.sizeOf4
 v4:=Tryz.zeroValue4
 t5:=Tryz.underlying5
 a5:=Tryz.isAgg5
 z5:=Tryz.sizeOf5
 v5:=Tryz.zeroValue5
 t9:=Tryz.underlying9
 a9:=Tryz.isAgg9
 z9:=Tryz.sizeOf9
 v9:=Tryz.zeroValue9
 t28:=Tryz.underlying31
 a28:=Tryz.isAgg31
 z28:=Tryz.sizeOf31
 v28:=Tryz.zeroValue31
 t46:=Tryz.underlying145
 a46:=Tryz.isAgg145
 z46:=Tryz.sizeOf145
 v46:=Tryz.zeroValue145
 t51:=Tryz.underlying188
 a51:=Tryz.isAgg188
 z51:=Tryz.sizeOf188
 v51:=Tryz.zeroValue188
 t53:=Tryz.underlying190
 a53:=Tryz.isAgg190
 z53:=Tryz.sizeOf190
 v53:=Tryz.zeroValue190
 t131:=Tryz.underlying127
 a131:=Tryz.isAgg127
 z131:=Tryz.sizeOf127
 v131:=Tryz.zeroValue127
 t182:=Tryz.underlying180
 a182:=Tryz.isAgg180
 z182:=Tryz.sizeOf180
 v182:=Tryz.zeroValue180
 t183:=Tryz.underlying181
 a183:=Tryz.isAgg181
 z183:=Tryz.sizeOf181
 v183:=Tryz.zeroValue181
 t218:=Tryz.underlying218
 a218:=Tryz.isAgg218
 z218:=Tryz.sizeOf218
 v218:=Tryz.zeroValue218
 t222:=Tryz.underlying113
 a222:=Tryz.isAgg113
 z222:=Tryz.sizeOf113
 v222:=Tryz.zeroValue113
 t228:=Tryz.underlying246
 a228:=Tryz.isAgg246
 z228:=Tryz.sizeOf246
 v228:=Tryz.zeroValue246
 t229:=Tryz.underlying247
 a229:=Tryz.isAgg247
 z229:=Tryz.sizeOf247
 v229:=Tryz.zeroValue247 }
def Tryz.lays20_ren:Go.Shelf.Ren:=⟨fun|20=>106|n=>n,fun|22=>31|3=>3|4=>4|0=>0|n=>n,fun|n=>n⟩
theorem Tryz.lays20:Go.Proofs.Lays2.n20 Tryz.prog Tryz.lays20_ren:={
 mixed:=by kernel_rfl
 f20:=Tryz.func106.trans (congrArg some (by kernel_rfl))
 t0:=Tryz.underlying0
 a0:=Tryz.isAgg0
 z0:=Tryz.sizeOf0
 v0:=Tryz.zeroValue0
 t3:=Tryz.underlying3
 a3:=Tryz.isAgg3
 z3:=Tryz.sizeOf3
 v3:=Tryz.zeroValue3
 t4:=Tryz.underlying4
 a4:=Tryz.isAgg4
 z4:=Tryz.sizeOf4
 v4:=Tryz.zeroValue4
 t22:=Tryz.underlying31
 a22:=Tryz.isAgg31
 z22:=Tryz.sizeOf31
 v22:=Tryz.zeroValue31
 i3:=by kernel_rfl }
theorem Tryz.sort_int (blk off cap:Nat) (zs:List Int) (w:World) (hH:Go.Sort.Holds (Value.int .i64) w blk off zs.toArray) (hblk:blk<w.heap.size) (hsz:zs.length<4611686018427387904) :
  Calls Tryz.prog 105 #[.slice (some ⟨blk,off,none⟩) zs.length cap] w fun e w'=>
   e=.returned (.tuple #[])∧∃n os,w'=Go.Sort.grow (Go.Sort.putRow (Value.int .i64) (Go.Sort.ahead w n) blk off (zs.mergeSort fun x y=>decide (x≤y)).toArray) os:=Any.slices_Sort_int Tryz.lays189 blk off cap zs w hH hblk hsz
theorem Tryz.compact_int (blk off cap:Nat) (zs:List Int) (w:World) (hH:Go.Sort.Holds (Value.int .i64) w blk off zs.toArray) (hsz:zs.length≤9223372036854775807) (hcap:zs.length≤cap) :
  Calls Tryz.prog 106 #[.slice (some ⟨blk,off,none⟩) zs.length cap] w fun e w'=>e=.returned (.slice (some ⟨blk,off,none⟩) (Lib.compact zs).length cap)∧∃q,w'=Go.Sort.putRow (Value.int .i64) (Go.Sort.ahead w q) blk off (Lib.compact zs++List.replicate (zs.length-(Lib.compact zs).length) 0).toArray:=
 Any.slices_Compact_int Tryz.lays20 blk off cap zs w hH hsz hcap
end Go.Proofs
end
