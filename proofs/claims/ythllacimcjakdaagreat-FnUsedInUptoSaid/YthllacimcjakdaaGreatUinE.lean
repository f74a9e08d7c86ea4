/-
  FnUsedInUptoSaid: the law FnUsedIn returns true at every argument of bulk at most 1048576, and the argument reads behind the call as it read before.
-/
import Derived.Test.YthllacimcjakdaaGreatUinD
import Derived.Test.YthllacimcjakdaaGreatRows
import Derived.WalkKit
import Derived.ProofKit
import Derived.OpenShut
import Derived.JoinedCond
import Derived.ReadAgain
set_option linter.all false
set_option linter.unusedVariables false
set_option linter.unusedSimpArgs false
set_option linter.unusedSectionVars false
set_option maxRecDepth 10000
set_option maxHeartbeats 4000000
namespace Go.Abs
open Go.Proofs
theorem LJ (v:Int) (q:Nat) (g:Hd) (xs:LI) (hl:xs.length<=1000000000:=by exact ob):Zh 106 [.i v,.p q 0] [.obj q [.h g],rV g xs] (fun r h=>∃(w:Hd),h=[.obj q [.h w],rV w (xs++[v])]):=by
 exact ZB 7 Tryz.func106 (az (Z5 2 [0] (iL (Z7 [v]) 1 1 fun v1=>ZA 0 [(5,Z6 [v])] (QH 2 g xs [v] none fun v2=>Zy 2 q [.h v2] (ie (r2 [0,0] [] ⟨v2,rfl⟩ (lr _)))))))
theorem Z44 (s:Z3) (q:Nat) (g:Hd) (xs:LI) (ih:∀(b2:Z4) (k2:Nat) (q:Nat) (g:Hd) (xs2:LI),(b2.sz<s.sz)->(k2<=b2.steps.length)->(xs2.length+b2.sz<=1000000000)->Zh 105 [ZC b2,.i k2,.val (.func (.func 106) #[] #[.pointer (some ⟨q,0,none⟩)])] [.obj q [.h g],rV g xs2] (fun r h=>∃(w:Hd),h=[.obj q [.h w],rV w (xs2++(Wd (b2.steps.drop k2)++[b2.result]))])) (hz:xs.length+s.sz<=1000000000):Zh 146 [Yk s,.val (.func (.func 106) #[] #[.pointer (some ⟨q,0,none⟩)])] [.obj q [.h g],rV g xs] (fun r h=>∃(w:Hd),h=[.obj q [.h w],rV w (xs++vS s)]):=by
 have hkz:=U9 s
 have haz:=Ts s
 have hse:=s.sz_eq
 refine ZB 33 Tryz.func146 (ar (iA (X5 s) fun b1=>ie (aq (ar (Z5 2 [0] (Zt [] (RP s.op) (ie (ac (YG s.op) Iff.rfl (fun Za=>?_) (fun Za=>?_)))))))))
 ·exact Z9 (r2 [1,1] [] ⟨g,rfl⟩ (lr _) (eq:=(rc (rv (xs:=xs) (by rw [MB,Zw (by assumption),Tm]) rz))))
 refine ak (aq (ar (Z5 2 [0] (iw (Y2 s.args) (Z0 1 (ie (ab 0 (ZX (fun fz gz m F h=>∃(j:Nat) (ys:LI) (u:Hd),(j<=s.args.length)/\(ys.length=xs.length+j)/\(ys++s.args.drop j=xs++s.args)/\F=sF [1,2,12,13] fz [(14,.i j)]/\h=[Zd gz 0,.obj q [.h u],rV u ys]/\m=s.args.length-j) _ _ _ ⟨0,xs,g,ob,ob,rfl,rfl,rfl,rfl⟩ (ZP 3 (Y8 fl)) ?_))))))))
 rintro m F h ⟨j,ys,u,Yc,Zm,Zo,rfl,rfl,rfl⟩
 refine ar (Z0 1 (ie (aq (ZG ((j:Int)<(s.args.length:Int)) (fun Zi=>?_) (fun Zi=>?_)))))
 ·refine ak (aq (ab 1 (ar ?_)))
  obtain ⟨x1,Z2⟩:=Zp s.args j om
  refine Zn (Zg none (j:Int) 1 (ZT Z2)) (Z0 2 (ie (az (Z0 2 (ic [1,1] (LJ x1 q u ys) ?_)))))
  rintro _ _ ⟨w1,rfl⟩
  exact ie (az (ZE j (Z0 1 (ie (ZH ⟨j+1,(ys++[x1]),w1,ob,(by simp;omega),(by rw [Ye Z2] at Zo;rw [<-Zo];simp),rfl,rfl,rfl⟩ (wk [2,0,0] (ZI j fl)))))))
 have hA:ys=xs++s.args:=by rw [Xk om,Tm] at Zo;exact Zo
 refine ax 0 (ar (Z5 2 [0] (iw (Vh s.kids) (Z0 1 (ie (ab 2 (ZX (fun fz gz m F h=>∃(i:Nat) (zs:LI) (u2:Hd),(i<=s.kids.length)/\(zs.length+YF (s.kids.drop i)<=xs.length+s.args.length+YF s.kids)/\(zs++UZ (s.kids.drop i)=ys++UZ s.kids)/\F=sF [1,23,24] fz [(25,.i i)]/\h=[.obj q [.h u2],rV u2 zs]/\m=s.kids.length-i) _ _ _ ⟨0,ys,u,ob,(by rw [Jm];omega),rfl,rfl,rfl,rfl⟩ (wk [1,1] (Y8 fl)) ?_)))))))
 rintro m F h ⟨i,zs,u2,U4,Ww,Xc,rfl,rfl,rfl⟩
 refine ar (Z0 1 (ie (aq (ZG ((i:Int)<(s.kids.length:Int)) (fun ZK=>?_) (fun ZK=>?_)))))
 ·refine ak (aq (ab 3 (ar ?_)))
  obtain ⟨x2,Zr⟩:=Zp s.kids i om
  have hks:=VW Zr
  have hbd:=Ny Zr
  refine Zn (Zg none (i:Int) 2 (Vr Zr)) (Z0 1 (iA [nl,.i 0] fun b2=>Zy 0 b2 (YE x2) (ie (az (Z5 2 [0] (ic [1,1] (ih x2 0 q u2 zs ob (UL _) ob) ?_))))))
  rintro _ _ ⟨w2,rfl⟩
  exact ie (az (ZE i (Z0 1 (ie (ZH ⟨i+1,(zs++(Wd (x2.steps.drop 0)++[x2.result])),w2,ob,(by have h1:=Mz x2;rw [My] at h1;simp only [Ya,Jm] at h1 ⊢;omega),(by have h1:=Z3v Zr Xc;rw [My] at h1;exact h1),rfl,rfl,rfl⟩ (wk [0,0] (ZI i fl)))))))
 exact ax 2 (r2 [0,0] [] ⟨u2,rfl⟩ (lr _) (eq:=(rc (rv (xs:=zs) (by rw [MB,Zs (by assumption),<-Ua,<-hA];exact Z3u om Xc) rz))))
theorem Z46 (b:Z4) (k0:Nat) (q:Nat) (g:Hd) (xs:LI) (ih:∀(s2:Z3) (q:Nat) (g:Hd) (xs2:LI),(s2.sz<b.sz)->(xs2.length+s2.sz<=1000000000)->Zh 146 [Yk s2,.val (.func (.func 106) #[] #[.pointer (some ⟨q,0,none⟩)])] [.obj q [.h g],rV g xs2] (fun r h=>∃(w:Hd),h=[.obj q [.h w],rV w (xs2++vS s2)])) (hk:k0<=b.steps.length) (hz:xs.length+b.sz<=1000000000):Zh 105 [ZC b,.i k0,.val (.func (.func 106) #[] #[.pointer (some ⟨q,0,none⟩)])] [.obj q [.h g],rV g xs] (fun r h=>∃(w:Hd),h=[.obj q [.h w],rV w (xs++(Wd (b.steps.drop k0)++[b.result]))]):=by
 have hbz:=WQ b
 have hbe:=b.sz_eq
 have hsd:=AP b.steps k0
 have hdl:(b.steps.drop k0).length=b.steps.length-k0:=KE
 refine ZB 25 Tryz.func105 (ar (iA (YE b) fun b1=>?_))
 refine ie (aq (ar (Z5 3 [0] (Zn (Ky (es:=Zk b.steps) (hv:=none) (l:=(k0:Int)) (m:=(((Zk b.steps).length:Nat):Int)) (sz:=5) (es':=Zk (b.steps.drop k0)) kr om (by simp<;>omega) (by simp<;>omega) (YO _) (by first|(simp only [U0,V9,TU,TT];done)|(simp only [U0,V9,TU,TT];rfl)|(simp [TU,TT];done))) (io (.i (((b.steps.drop k0).length:Nat):Int)) (.i (((Zk (b.steps.drop k0)).length:Nat):Int)) (li (by rw [Wo])) (Z0 1 (ie (ab 0 (ZX (fun fz gz m F h=>∃(k:Nat) (ys:LI) (u:Hd),(k<=(b.steps.drop k0).length)/\(ys.length+Y5 ((b.steps.drop k0).drop k)<=xs.length+Y5 (b.steps.drop k0))/\(ys++Wd ((b.steps.drop k0).drop k)=xs++Wd (b.steps.drop k0))/\F=sF [2,3,11,12] fz [(13,.i k)]/\h=[Zd gz 0,.obj q [.h u],rV u ys]/\m=(b.steps.drop k0).length-k) _ _ _ ⟨0,xs,g,ob,(YI _),rfl,rfl,rfl,rfl⟩ (ZP 3 (Y8 fl)) ?_)))))))))
 rintro m F h ⟨k,ys,u,Yc,Zm,Zo,rfl,rfl,rfl⟩
 refine ar (Z0 1 (ie (aq (ZG ((k:Int)<(((b.steps.drop k0).length:Nat):Int)) (fun Za=>?_) (fun Za=>?_)))))
 ·refine ak (aq (ab 1 (ar ?_)))
  obtain ⟨x1,Z2⟩:=Zp (b.steps.drop k0) k om
  have hss:=Q5 (b:=b) (by have h:=Z2;rw [DE] at h;exact h)
  have hsd1:=FI Z2
  have hvl:=MC x1
  refine Zn (Zg none (k:Int) 5 (XI Z2)) (Z0 1 (iA [.i 0,.i 0,.i 0,nl,nl] fun b2=>Zy 0 b2 (X5 x1) (ie (az (Z5 2 [0] (ic [2,2] (ih x1 q u ys ob ob) ?_))))))
  rintro _ _ ⟨w1,rfl⟩
  exact ie (az (ZE k (Z0 1 (ie (ZH ⟨k+1,(ys++vS x1),w1,ob,(by rw [Ya];omega),(Z3x (xs:=xs) Z2 Zo),rfl,rfl,rfl⟩ (wk [3,0,0] (ZI k fl)))))))
 refine ax 0 (az (Z5 3 [0] (ic [1,1] (LJ b.result q u ys) ?_)))
 rintro _ _ ⟨w2,rfl⟩
 exact ie (r2 [0,0] [] ⟨w2,rfl⟩ (lr _) (eq:=(rc (rv (xs:=(ys++[b.result])) (by have h:=Z3w om Zo;rw [<-Ua,<-h]) rz))))
theorem Z47 (k:Nat):(∀(s:Z3) (q:Nat) (g:Hd) (xs:LI),(s.sz<=k)->(xs.length+s.sz<=1000000000)->Zh 146 [Yk s,.val (.func (.func 106) #[] #[.pointer (some ⟨q,0,none⟩)])] [.obj q [.h g],rV g xs] (fun r h=>∃(w:Hd),h=[.obj q [.h w],rV w (xs++vS s)]))/\(∀(b:Z4) (k0:Nat) (q:Nat) (g:Hd) (xs:LI),(b.sz<=k)->(k0<=b.steps.length)->(xs.length+b.sz<=1000000000)->Zh 105 [ZC b,.i k0,.val (.func (.func 106) #[] #[.pointer (some ⟨q,0,none⟩)])] [.obj q [.h g],rV g xs] (fun r h=>∃(w:Hd),h=[.obj q [.h w],rV w (xs++(Wd (b.steps.drop k0)++[b.result]))])):=by
 induction k with
 | zero=>exact ⟨fun s q g xs h=>by have:=s.sz_pos;omega,fun b k0 q g xs h=>by have:=b.sz_pos;omega⟩
 | succ k ih=>exact ⟨fun s q g xs h hz=>Z44 s q g xs (fun b2 k2 q g xs2 h2 hk h3=>ih.2 b2 k2 q g xs2 om hk h3) hz,fun b k0 q g xs h hk hz=>Z46 b k0 q g xs (fun s2 q g xs2 h2 h3=>ih.1 s2 q g xs2 om h3) hk hz⟩
theorem Z45 (b:Z4) (k0:Nat) (q:Nat) (g:Hd) (xs:LI) (hk:k0<=b.steps.length:=by exact ob) (hz:xs.length+b.sz<=1000000000:=by exact ob):Zh 105 [ZC b,.i k0,.val (.func (.func 106) #[] #[.pointer (some ⟨q,0,none⟩)])] [.obj q [.h g],rV g xs] (fun r h=>∃(w:Hd),h=[.obj q [.h w],rV w (xs++(Wd (b.steps.drop k0)++[b.result]))]):=(Z47 b.sz).2 b k0 q g xs (YI _) hk hz
theorem HX (b:Z4) (k0:Nat) (hk:k0<=b.steps.length:=by exact ob) (hz:b.sz<=100000000:=by exact ob):Zh 73 [ZC b,.i k0] [] (fun r h=>∃(w:Hd),r=.h w/\h=[rV w (Kw b k0)]):=by
 have hvl:=Dx (b.steps.drop k0)
 have hsd:=AP b.steps k0
 have hbe:=b.sz_eq
 have hll:([]++(Wd (b.steps.drop k0)++[b.result])).length<=100000000:=by simp;omega
 have hne:[]++(Wd (b.steps.drop k0)++[b.result])≠[]:=by simp
 refine ZB 14 Tryz.func73 (ar (iA (YE b) fun b1=>Z0 1 (ie (ar (iA [nl] fun b2=>Xg (Mn 0 b2 [nl] [.h hN] (.cons (Zf.hd (v:=hN)) .nil)) (Xg (A3) (ie (ar (Z5 3 [2] (ic [1,0] (Z45 b k0 b2 hN [] (hz:=(by simp;omega))) ?_))))))))))
 rintro _ _ ⟨w1,rfl⟩
 refine ie (ar (Z5 1 [0] (ic [1] (Z1p w1 ([]++(Wd (b.steps.drop k0)++[b.result])) om hne) ?_)))
 rintro _ _ rfl
 refine ie (ar (Z5 1 [1] (ic [0] (NU w1 (Jg ([]++(Wd (b.steps.drop k0)++[b.result]))) (by simp only [Jg,List.length_mergeSort];omega) (Z1o hne)) ?_)))
 rintro _ _ ⟨u1,rfl,rfl⟩
 exact Z0 1 (ie (Z9 (r1 [0] ⟨u1,rfl,rfl⟩ (eq:=(rv (xs:=(Lib.compact (Jg ([]++(Wd (b.steps.drop k0)++[b.result]))))) rfl rz)))))
theorem RQ (b:Z4) (k:Int) (hk:0<=k/\k<=b.steps.length:=by exact ob) (hz:b.sz<=100000000:=by exact ob):Zh 73 [ZC b,.i k] [] (fun r h=>∃(w:Hd),r=.h w/\h=[rV w (Kw b k.toNat)]):=by obtain ⟨k0,rfl⟩:∃k0:Nat,k=(k0:Int):=⟨k.toNat,by omega⟩;exact HX b k0 om hz
theorem Ns (v:Int) (n:Int) (q:Nat) :Zh 110 [.i v,.p q 0] [.obj q [.i n]] (fun r h=>r=.b ((decide (v>=0))&&(decide (v<n)))/\h=[.obj q [.i n]]):=by
 refine ZB 11 Tryz.func110 (ar (Z0 1 (ie (ar (WO 7 [] [(10,.b ((decide (v>=0))&&(decide (v<n))))] (fun gz=>gz) ?_ (fun hj1=>?_))))))
 ·exact Z0 1 (ie (Z9 (r1 [0] ⟨rfl,rfl⟩)))
 refine Z0 3 (ib (b:=(decide (v>=0))) 6 (fun Ze=>?_) (fun Ze=>?_))
 ·have ZU:v>=0:=(dq).1 Ze
  exact Z5 4 [0] (Xe (wk [0] (ZJ (decide (v<n)) Ze fl)) hj1)
 have Y6:¬(v>=0):=YH dq Ze
 exact Z0 4 (Xe (wk [0] (ZJ false Ze fl)) hj1)
theorem Nt (xs:LI) (n:Int) (q:Nat) (hl_xs:xs.length<=4294967296:=by exact ob):Zh 109 [Z6 xs,.val (.func (.func 110) #[] #[.pointer (some ⟨q,0,none⟩)])] [.obj q [.i n]] (fun r h=>∃(v:Value),r=ZM (U3 xs n) v/\h=[.tail v 1,.obj q [.i n]]):=by
 refine ZB 23 Tryz.func109 (ar (Z0 1 (ie (ar (Z0 1 (ie (aq (ar (Z0 1 (iw (Y2 xs) (Z0 1 (ie (ab 0 (MZ 1 (ZX (fun fz gz m F h=>∃(k:Nat) (acc:LI) (u:Value),(k<=xs.length)/\(acc.length<=k)/\(acc++U3 (xs.drop k) n=U3 xs n)/\F=sF [1,8,9] fz [(5,ZM acc u),(10,.i k)]/\h=[Zd gz 1,.tail u 1]/\m=xs.length-k) _ _ _ ⟨0,[],(.slice none 0 0),ob,ob,ob,rfl,rfl,rfl⟩ (wk [1,0] (fc (x:=nl) (Zf.slh _ (by first|rfl|(subst_vars;rfl))) (Y8 fl))) ?_)))))))))))))))
 rintro m F h ⟨k,acc,u,Yc,Zm,Zo,rfl,rfl,rfl⟩
 refine ar (Z0 1 (ie (aq (ZG ((k:Int)<(xs.length:Int)) (fun Za=>?_) (fun Za=>?_)))))
 ·refine ak (aq (ab 1 (ar ?_)))
  obtain ⟨x1,Z2⟩:=Zp xs k om
  refine Zn (Zg none (k:Int) 1 (ZT Z2)) (Z0 2 (ie (ar (Z0 2 (Zt [0] (Ns x1 n q) (ie (KV (fun fz gz F h=>∃(w:Value),F=sF [1,8,9,10] fz [(5,ZM (if 0<=x1/\x1<n then acc++[x1] else acc) w)]/\h=[Zd gz 0,.tail w 1]) (fun _ _=>rfl) ?_ ?_)))))))
  ·refine ac ((decide (x1>=0))&&(decide (x1<n))) (p:=0<=x1/\x1<n) (Xa dq dq) (fun Zi=>?_) (fun Zi=>?_)
   ·exact az (Z0 2 (iL (Z7 [x1]) 1 1 fun v1=>ZA 0 [(19,Z6 [x1])] (ip 2 (Z7 (acc++[x1])) (Z7 acc) (Z7 [x1]) u none 1 (Yl _) (Yl _) (XE _) (by simp<;>omega) (by simp [XC,Z7]) fun v2=>Z0 1 (ie (ZF ⟨v2,rfl,rfl⟩ (wk [2,0] (fc (x:=ZM (acc++[x1]) v2) (Zf.slh _ (Yg Z7 (by first|rfl|(rw [Zw Zi])|(rw [Zs Zi])|(simp [Zi];done)|(rw [Xi];simp [Zi];done)|omega))) fl)))))))
   exact ak (ZF ⟨u,rfl,rfl⟩ (wk [0,0] (fc (x:=ZM acc u) (Zf.slh _ (Yg Z7 (by first|rfl|(rw [Zw Zi])|(rw [Zs Zi])|(simp [Zi];done)|(rw [Xi];simp [Zi];done)|omega))) fl)))
  rintro F h ⟨w,rfl,rfl⟩
  exact az (ZE k (Z0 1 (ie (ZH ⟨k+1,(if 0<=x1/\x1<n then acc++[x1] else acc),w,ob,(by split<;>(try simp)<;>omega),(Nv Z2 Zo),rfl,rfl,rfl⟩ (wk [0,0] (fr (ZI k fl)))))))
 exact ax 0 (ar (Z0 2 (ie (Z9 (r2 [1,0] [ZM acc u] ⟨u,rfl,rfl⟩ (Zf.slh _ (Yg Z7 (Nu om Zo))))))))
theorem LE (xs:LI) (n:Int) (hl_xs:xs.length<=4294967296:=by exact ob):Zh 74 [Z6 xs,.i n] [] (fun r h=>∃(v:Value),r=ZM (U3 xs n) v/\h=[.tail v 1]):=by
 refine ZB 8 Tryz.func74 (ar (iA [.i n] fun b1=>Z0 1 (ie (ar (Z0 2 (ic [0] (Nt xs n b1) ?_))))))
 rintro _ _ ⟨v1,rfl,rfl⟩
 exact Z0 1 (ie (Z9 (r1 [0] ⟨v1,rfl,rfl⟩)))
theorem RL (b:Z4) (n:Int) (hb:b.sz<=20000000:=by exact ob):Zh 35 [ZC b,.i n] [] (Ym (Z6 (Xf b n))):=by
 have hsl:=LA b 0
 refine ZB 12 Tryz.func35 (ar (iA (YE b) fun b1=>Z0 1 (ie (aq (ar (Z5 1 [0] (Zt [] (HW b) (Z0 1 (ie (ZG ((WG b)<0) (fun Za=>?_) (fun Za=>?_)))))))))))
 ·exact ar (Z0 1 (ie (Z9 (ZY (nl) (Zf.sl _ (by rw [Xf,Zw (by assumption)];rfl))))))
 refine ak (ar (Z5 1 [0] (ic [] (HX b 0 (hk:=(UL _))) ?_)))
 rintro _ _ ⟨w1,rfl,rfl⟩
 refine Z0 1 (HT [0] [rV w1 (Kw b 0)] (LE (Kw b 0) n) GB (gL (v:=w1) 0 (gS gN)) (Td TZ) ?_)
 rintro _ _ ⟨v1,rfl,rfl⟩
 exact Z0 1 (ie (Z9 (ZY (ZM (U3 (Kw b 0) n) v1) (Zf.sl _ (Yg Z7 (by rw [Xf,Zs (by assumption)];exact LG n b 0))))))
theorem LQ (b:Z4) (n:Int) (hb:b.sz<=20000000:=by exact ob):Zh 36 [ZC b,.i n] [] (Ym (Z6 (Xf b n))):=by
 refine ZB 11 Tryz.func36 (ar (iA (YE b) fun b1=>Z0 1 (ie (aq (ar (Z5 1 [0] (Zt [] (M6 b) (Z0 1 (ie (ZG ((WG b)<0) (fun Za=>?_) (fun Za=>?_)))))))))))
 ·exact ar (Z0 1 (ie (Z9 (ZY (nl) (Zf.sl _ (by rw [Xf,Zw (by assumption)];rfl))))))
 exact ak (ar (Z5 2 [0] (Zt [] (FG b n) (Z0 1 (ie (Z9 (ZY (Z6 (WR n b [])) (Zf.sl _ (Yg Z7 (by rw [Xf,Zs (by assumption),FZ];rfl))))))))))
theorem RK (b:Z4) (n:Int) (k:Int) (hb:b.sz<=20000000:=by exact ob):Zh 43 [ZC b,.i n,.i k] [] (Ym (Z6 (Ur b n k))):=by
 have hsl:=LA b k.toNat
 refine ZB 26 Tryz.func43 (ar (iA (YE b) fun b1=>Z0 1 (ie (aq (ar (Z5 1 [0] (Zt [] (HW b) (WO 7 [1,2,3] [(13,.b ((decide ((WG b)<0))||(decide (k<0))))] (fun gz=>gz) ?_ (fun hj1=>?_)))))))))
 ·refine Xx [1,2,3] [(20,.b (((decide ((WG b)<0))||(decide (k<0)))||(decide (k>(b.steps.length:Int)))))] (fun gz=>gz) ?_ ?_
  ·refine Z0 1 (ib (b:=((decide ((WG b)<0))||(decide (k<0)))) 14 (fun Ze=>?_) (fun Ze=>?_))
   ·have ZU:((WG b)<0)∨(k<0):=((Xb dq dq)).1 Ze
    exact Z0 6 (ie (wk [0] (ZJ true Ze fl)))
   have Y6:¬(((WG b)<0)∨(k<0)):=YH (Xb dq dq) Ze
   exact Z5 3 [0] (iw (Wo b.steps) (Z0 2 (ie (wk [0] (ZJ (decide (k>(b.steps.length:Int))) Ze fl)))))
  refine ac (((decide ((WG b)<0))||(decide (k<0)))||(decide (k>(b.steps.length:Int)))) (p:=(((WG b)<0)∨(k<0))∨(k>(b.steps.length:Int))) (Xb (Xb dq dq) dq) (fun Za=>?_) (fun Za=>?_)
  ·exact ar (Z0 1 (ie (Z9 (ZY (nl) (Zf.sl _ (by rw [Ur,Zw om];rfl))))))
  refine ak (ar (Z5 2 [0] (ic [] (RQ b k (hk:=om)) ?_)))
  rintro _ _ ⟨w1,rfl,rfl⟩
  refine Z0 1 (HT [0] [rV w1 (Kw b k.toNat)] (LE (Kw b k.toNat) n) GB (gL (v:=w1) 0 (gS gN)) (Td TZ) ?_)
  rintro _ _ ⟨v1,rfl,rfl⟩
  exact Z0 1 (ie (Z9 (ZY (ZM (U3 (Kw b k.toNat) n) v1) (Zf.sl _ (Yg Z7 (by rw [Ur,Zs om];exact LG n b k.toNat))))))
 refine Z0 2 (ib (b:=(decide ((WG b)<0))) 10 (fun ZO=>?_) (fun ZO=>?_))
 ·have YA:(WG b)<0:=(dq).1 ZO
  exact Z0 3 (Xe (wk [0] (ZJ true ZO fl)) hj1)
 have YN:¬((WG b)<0):=YH dq ZO
 exact Z0 3 (Xe (wk [0] (ZJ (decide (k<0)) ZO fl)) hj1)
theorem F5 (xs:LI) (ys:LI) (hxl:xs.length<=1000000000:=by exact ob) (hyl:ys.length<=1000000000:=by exact ob):Zh 27 [Z6 xs,Z6 ys] [] (Ym (.b (decide (xs=ys)))):=by
 refine ZB 26 Tryz.func27 (ar (Z0 1 (ie (aq (ar (Z0 1 (iw (Y2 xs) (Z0 1 (iw (Y2 ys) (Z0 1 (ie (ac ((xs.length:Int) != (ys.length:Int)) X3 (fun Za=>?_) (fun Za=>?_)))))))))))))
 ·exact ar (Z0 1 (ie (Z9 (ZY (.b false) (lb (decide_eq_false (fun z=>Za (by rw [z]))).symm)))))
 refine ak (aq (ar (Z0 1 (ie (ab 0 (ZX (fun fz gz m F h=>∃(k:Nat),(k<=xs.length)/\(∀i,i<k->xs[i]? = ys[i]?)/\F=sF [0,1] fz [(5,.i k)]/\h=gz/\m=xs.length-k) _ _ _ ⟨0,ob,(fun i h=>absurd h om),rfl,rfl,rfl⟩ (wk [] (Y8 fl)) ?_))))))
 rintro m F h ⟨k,Yc,Zm,rfl,rfl,rfl⟩
 refine aq (ar (Z0 2 (iw (Y2 xs) (Z0 1 (ie (ZG ((k:Int)<(xs.length:Int)) (fun Zi=>?_) (fun Zi=>?_)))))))
 ·refine ak (aq (ab 1 (aD 9 (Zj 7 9 [0,1] ?_))))
  obtain ⟨x1,Z2⟩:=Zp xs k om
  refine dx 2 (Zg none (k:Int) 1 (ZT Z2)) (Zj 3 6 [3,4,5] ?_)
  obtain ⟨x2,Zr⟩:=Zp ys k om
  refine dx 6 (Zg none (k:Int) 1 (ZT Zr)) (Zj 0 2 [7,8] (de (ac (x1 != x2) X3 (fun ZK=>?_) (fun ZK=>?_))))
  ·exact ar (Z0 1 (ie (Z9 (ZY (.b false) (lb (decide_eq_false (fun z=>ZK (by rw [z,Zr] at Z2;cases Z2;rfl))).symm)))))
  exact ak (az (Z0 1 (ZE k (Z0 1 (ie (ZH ⟨k+1,ob,(fun i h=>(Nat.lt_succ_iff_lt_or_eq.1 h).elim (Zm i) (fun z=>by rw [z,Z2,Zr,AW.1 ZK])),rfl,rfl,rfl⟩ (wk [] (ZI k fl))))))))
 exact ax 0 (ar (Z0 1 (ie (Z9 (ZY (.b true) (lb (decide_eq_true (ON om (fun i hi=>Zm i om))).symm))))))
theorem Sj (xs:LI) (hxl:xs.length<=1000000000:=by exact ob) (hasc:∀(k:Nat) (x y:Int),xs[k]? = some x->xs[k+1]? = some y->x<y):Zh 21 [Z6 xs] [] (Ym (.b true)):=by
 refine ZB 20 Tryz.func21 (ar (Z0 1 (ie (aq (ar (Z0 1 (ie (ab 0 (ZX (fun fz gz m F h=>∃(k:Nat),(1<=k)/\F=sF [0] fz [(3,.i k)]/\h=gz/\m=xs.length-k) _ _ _ ⟨1,ob,rfl,rfl,rfl⟩ (wk [] (fc (x:=.i 1) li fl)) ?_)))))))))
 rintro m F h ⟨k,Yc,rfl,rfl,rfl⟩
 refine aq (ar (Z0 2 (iw (Y2 xs) (Z0 1 (ie (ZG ((k:Int)<(xs.length:Int)) (fun Za=>?_) (fun Za=>?_)))))))
 ·refine ak (aq (ab 1 (aD 10 (Zj 8 10 [0,1] ?_))))
  obtain ⟨x1,Z2⟩:=Zp xs k om
  refine dx 2 (Zg none (k:Int) 1 (ZT Z2)) (Zj 4 7 [3,4,5] (da 6 (((k:Int)-1)) (((k:Int))-(1)) ?_))
  obtain ⟨x2,Zr⟩:=Zp xs (((k:Int)-1).toNat) om
  refine dx 7 (Zg none ((k:Int)-1) 1 (ZT Zr)) (Zj 0 2 [8,9] (de (ZG (x1<=x2) (fun Zi=>?_) (fun Zi=>?_))))
  ·exact ar (Z0 1 (ie (Z9 (ZY (.b false) (lb (absurd (hasc (k-1) x2 x1 (by have h:=Zr;rwa [show ((k:Int)-1).toNat=k-1 by omega] at h) (by rw [show k-1+1=k by omega];exact Z2)) om))))))
  exact ak (az (Z0 1 (ZE k (Z0 1 (ie (ZH ⟨k+1,ob,rfl,rfl,rfl⟩ (wk [] (ZI k fl))))))))
 exact ax 0 (ar (Z0 1 (ie (Z9 (FX)))))
theorem Pa (rd:Nat) (bs:LI) (p:Nat) (Zq:∀z∈bs,0<=z/\z<=255) (hp:p+73706410<=1000000000:=by exact ob):Zh 71 [.p rd 0] [Y4 rd bs p] (fun r h=>∃(b:Z4) (p2:Nat),r=ZC b/\h=[Y4 rd bs p2]/\b.sz<=7330634/\b.rng/\p<=p2/\p2<=p+73706410):=by
 refine ZB 57 Tryz.func71 (ar (iA [nl,.i 0] fun b1=>ie (ar (Z0 1 (ic [1] (Pc rd bs p (Zq:=ob)) ?_)))))
 rintro _ _ ⟨n21,p21,rfl,rfl,ZU⟩
 have haf:=ZU
 refine iA [nl,nl] fun b2=>Zy 0 b2 (YC n21) (ie (aD 12 (ZD 7 12 [0,1,2,3,4] [0,0] (dw 5 (U5 n21.routines) (WA 6 10 ?_ ?_)))))
 ·refine dc 6 [1] [0] [b2] (Uy rd bs p21 n21.routines.length (Zq:=ob) (hmx:=(by first|(have:=haf.1.len;omega)|omega))) ?_
  rintro _ _ ⟨Yd,rfl,rfl,Y6⟩
  obtain ⟨x1,Z2⟩:=Zp n21.routines Yd om
  have hz1:=haf.1.rt _ (ZQ Z2)
  have hzl:=Im (x1).body
  have hze:=(x1).body.sz_eq
  refine dx 7 (Zg none (Yd:Int) 5 (Wj Z2)) (Zj 2 4 [8,9] (Z8 10 (dA 10 [1] [b2] [nl,.i 0] fun b3=>Z8 11 (Yo 11 0 [] [] b3 (YE x1.body) (de (ar (Z5 3 [0] (iw (Wo x1.body.steps) (ia (((x1.body.steps.length+1:Nat):Int)) (((x1.body.steps.length:Int))+(1)) (ic [1] (Uy rd bs (p21+1) (x1.body.steps.length+1) (Zq:=ob) (hmx:=(by first|(have:=haf.1.len;omega)|omega))) ?_))))))))))
  rintro _ _ ⟨Yr,rfl,rfl,YA⟩
  refine Z0 1 (ie (aq (ar (Z5 3 [1] (iw (Wo x1.body.steps) (Z0 2 (ib (b:=(decide ((Yr:Int)<(x1.body.steps.length:Int)))) 29 (fun Ze=>?_) (fun Ze=>?_))))))))
  ·have YN:(Yr:Int)<(x1.body.steps.length:Int):=(dq).1 Ze
   refine Z5 3 [1] ?_
   obtain ⟨x2,Zr⟩:=Zp x1.body.steps Yr om
   refine Zn (Zg none (Yr:Int) 5 (XI Zr)) (Z0 2 (iw (Vh x2.kids) (Z0 2 (ie (ZG ((x2.kids.length:Int)>0) (fun Za=>?_) (fun Za=>?_))))))
   ·refine aD 18 (ZD 15 18 [0,1,2] [1] (dx 3 (Zg none (Yr:Int) 5 (XI Zr)) (ZD 8 14 [4,5,6,7,8,9] [1] (dx 10 (Zg none (Yr:Int) 5 (XI Zr)) (Zj 5 7 [11,12] (dw 13 (Vh x2.kids) (Z8 14 (dc 14 [0] [0] [b3] (Uy rd bs ((p21+1)+1) x2.kids.length (Zq:=ob) (hmx:=(by first|(have:=haf.1.len;omega)|omega))) ?_))))))))
    rintro _ _ ⟨Bw,rfl,rfl,YU⟩
    obtain ⟨x3,YQ⟩:=Zp x2.kids Bw om
    have hkg:=Ie hz1.2.2 (by assumption) YQ
    exact dx 15 (Zg none (Bw:Int) 2 (Vr YQ)) (Zj 1 2 [16] (Z8 17 (Yo 17 3 [] [] b1 (YE x3) (de (Z9 (r3 [1] [ZC x3] [0] [(b1,b1)] ⟨x3,((p21+1)+1)+1,rfl,rfl,(by first|exact ⟨by omega,hkg.2,by omega,by omega⟩|exact ⟨by omega,hz1.2.2.2,by omega,by omega⟩)⟩ (lr _)))))))
   exact ak (ar (Z5 1 [1] (Zy 3 b1 (YE x1.body) (ie (Z9 (r3 [1] [ZC x1.body] [0] [(b1,b1)] ⟨x1.body,(p21+1)+1,rfl,rfl,(by first|exact ⟨by omega,hkg.2,by omega,by omega⟩|exact ⟨by omega,hz1.2.2.2,by omega,by omega⟩)⟩ (lr _)))))))
  have Xz:¬((Yr:Int)<(x1.body.steps.length:Int)):=YH dq Ze
  exact Z0 9 (ie (Wh (ak (ar (Z5 1 [1] (Zy 3 b1 (YE x1.body) (ie (Z9 (r3 [1] [ZC x1.body] [0] [(b1,b1)] ⟨x1.body,(p21+1)+1,rfl,rfl,(by first|exact ⟨by omega,hkg.2,by omega,by omega⟩|exact ⟨by omega,hz1.2.2.2,by omega,by omega⟩)⟩ (lr _))))))))))
 refine dA 10 [0,0] [b2,b2] [nl,.i 0] fun b4=>Z8 6 (dc 6 [2] [1] [b2] (Uy rd bs p21 n21.routines.length (Zq:=ob) (hmx:=(by first|(have:=haf.1.len;omega)|omega))) ?_)
 rintro _ _ ⟨VX,rfl,rfl,XT⟩
 obtain ⟨x4,Ta⟩:=Zp n21.routines VX om
 have hz1:=haf.1.rt _ (ZQ Ta)
 have hzl:=Im (x4).body
 have hze:=(x4).body.sz_eq
 refine dx 7 (Zg none (VX:Int) 5 (Wj Ta)) (Zj 1 3 [8,9] (Z8 11 (Yo 11 1 [] [] b4 (YE x4.body) (de (ar (Z5 3 [0] (iw (Wo x4.body.steps) (ia (((x4.body.steps.length+1:Nat):Int)) (((x4.body.steps.length:Int))+(1)) (ic [1] (Uy rd bs (p21+1) (x4.body.steps.length+1) (Zq:=ob) (hmx:=(by first|(have:=haf.1.len;omega)|omega))) ?_)))))))))
 rintro _ _ ⟨JR,rfl,rfl,WD⟩
 refine Z0 1 (ie (aq (ar (Z5 3 [1] (iw (Wo x4.body.steps) (Z0 2 (ib (b:=(decide ((JR:Int)<(x4.body.steps.length:Int)))) 29 (fun ZO=>?_) (fun ZO=>?_))))))))
 ·have WX:(JR:Int)<(x4.body.steps.length:Int):=(dq).1 ZO
  refine Z5 3 [1] ?_
  obtain ⟨x5,UD⟩:=Zp x4.body.steps JR om
  refine Zn (Zg none (JR:Int) 5 (XI UD)) (Z0 2 (iw (Vh x5.kids) (Z0 2 (ie (ZG ((x5.kids.length:Int)>0) (fun Zi=>?_) (fun Zi=>?_))))))
  ·refine aD 18 (ZD 15 18 [0,1,2] [1] (dx 3 (Zg none (JR:Int) 5 (XI UD)) (ZD 8 14 [4,5,6,7,8,9] [1] (dx 10 (Zg none (JR:Int) 5 (XI UD)) (Zj 5 7 [11,12] (dw 13 (Vh x5.kids) (Z8 14 (dc 14 [0] [0] [b4] (Uy rd bs ((p21+1)+1) x5.kids.length (Zq:=ob) (hmx:=(by first|(have:=haf.1.len;omega)|omega))) ?_))))))))
   rintro _ _ ⟨Ig,rfl,rfl,UB⟩
   obtain ⟨x6,QG⟩:=Zp x5.kids Ig om
   have hkg:=Ie hz1.2.2 (by assumption) QG
   exact dx 15 (Zg none (Ig:Int) 2 (Vr QG)) (Zj 1 2 [16] (Z8 17 (Yo 17 3 [] [] b1 (YE x6) (de (Z9 (r3 [1] [ZC x6] [0] [(b1,b1)] ⟨x6,((p21+1)+1)+1,rfl,rfl,(by first|exact ⟨by omega,hkg.2,by omega,by omega⟩|exact ⟨by omega,hz1.2.2.2,by omega,by omega⟩)⟩ (lr _)))))))
  exact ak (ar (Z5 1 [1] (Zy 3 b1 (YE x4.body) (ie (Z9 (r3 [1] [ZC x4.body] [0] [(b1,b1)] ⟨x4.body,(p21+1)+1,rfl,rfl,(by first|exact ⟨by omega,hkg.2,by omega,by omega⟩|exact ⟨by omega,hz1.2.2.2,by omega,by omega⟩)⟩ (lr _)))))))
 have UP:¬((JR:Int)<(x4.body.steps.length:Int)):=YH dq ZO
 exact Z0 9 (ie (Wh (ak (ar (Z5 1 [1] (Zy 3 b1 (YE x4.body) (ie (Z9 (r3 [1] [ZC x4.body] [0] [(b1,b1)] ⟨x4.body,(p21+1)+1,rfl,rfl,(by first|exact ⟨by omega,hkg.2,by omega,by omega⟩|exact ⟨by omega,hz1.2.2.2,by omega,by omega⟩)⟩ (lr _))))))))))
theorem P9 (code:LI) (hcl:code.length<=1048576:=by exact ob) (hcb:∀z∈code,0<=z/\z<=255):Zh 34 [WY code] [] (fun r h=>∃(b:Z4) (z:Int),r=.tup [ZC b,.i z]/\h=[]/\b.sz<=7330634/\b.rng/\-1<=z/\z<=9):=by
 refine ZB 14 Tryz.func34 (ar (iA [nl,.i 0] fun b1=>Z0 1 (ie (ar (Z0 1 (ic [] (PV code (hc:=hcb)) ?_))))))
 rintro _ _ ⟨rd1,bs1,rfl,rfl,ZU⟩
 have hnr:=ZU
 refine Z0 1 (ie (ar (Z0 1 (ic [0] (Pa rd1 bs1 0 (Zq:=hnr)) ?_))))
 rintro _ _ ⟨b2,p21,rfl,rfl,Y6⟩
 have hab:=Y6
 refine iA [nl,.i 0] fun b3=>Zy 0 b3 (YE b2) (ie (aD 6 (ZD 4 6 [0,1] [0] (Z8 2 (dL 2 [0] [b3] (Z7 [1,2,3,4,5,9,0,-1]) 8 1 fun v1=>Y7 3 3 [] [(12,Z6 [1,2,3,4,5,9,0,-1])] (Z8 3 (dc 3 [2] [0] [b3] (WC rd1 bs1 p21 [1,2,3,4,5,9,0,-1] (Zq:=hnr)) ?_)))))))
 rintro _ _ ⟨z1,rfl,rfl,YA⟩
 have hon:=YA
 simp only [Yj,List.not_mem_nil,or_false] at hon
 exact Z8 4 (Yo 4 3 [] [] b1 (YE b2) (Zj 0 1 [5] (de (Z9 (r3 [] [ZC b2,.i z1] [0] [(b1,b1)] ⟨b2,z1,rfl,rfl,⟨hab.1,hab.2.1,by omega,by omega⟩⟩ (lr _))))))
theorem Si (code:LI) (hcb:∀z∈code,0<=z/\z<=255):Zh 11 [WY code] [] (Ym (.b true)):=by
 refine ZB 58 Tryz.func11 (ar (Z0 1 (ie (aq (ar (Z0 1 (iw (TS code) (Z0 1 (ie (ZG ((code.length:Int)>1048576) (fun Za=>?_) (fun Za=>?_)))))))))))
 ·exact ar (Z0 1 (ie (Z9 (FX))))
 have hcl:code.length<=1048576:=by omega
 refine ak (ar (Z0 1 (ic [] (P9 code (hcl:=hcl) (hcb:=hcb)) ?_)))
 rintro _ _ ⟨b1,z1,rfl,rfl,ZU⟩
 obtain ⟨hbz,hbr,hz0,hz9⟩:=ZU
 have hl1:=Mr b1 z1
 have hl2:=Mr b1 (z1+1)
 refine Z0 3 (iA [nl,.i 0] fun b2=>Zy 0 b2 (YE b1) (Z0 1 (ie (ar (Z5 2 [0] (Zt [] (RL b1 z1) (Z0 1 (ie (aq (ar (Z5 3 [0] (Zt [] (LQ b1 z1) (Zt [] (F5 (Xf b1 z1) (Xf b1 z1) (hyl:=(by first|omega|(rw [Kz];omega)|(rw [XX];omega)))) (Xx [3,4,5] [(27,.b ((!(decide ((Xf b1 z1)=(Xf b1 z1))))||((((Xf b1 z1).length:Nat):Int)==0)))] (fun gz=>gz) ?_ ?_))))))))))))))
 ·refine Z0 2 (ib (b:=(!(decide ((Xf b1 z1)=(Xf b1 z1))))) 23 (fun Ze=>?_) (fun Ze=>?_))
  ·have Y6:¬((Xf b1 z1)=(Xf b1 z1)):=((YW dq)).1 Ze
   exact Z0 4 (ie (wk [0] (fc (x:=.b true) (lb (by rw [Ze];rfl)) fl)))
  have YA:¬(¬((Xf b1 z1)=(Xf b1 z1))):=YH (YW dq) Ze
  exact Z0 1 (io (.i (((Xf b1 z1).length:Nat):Int)) (.i (((Z7 (Xf b1 z1)).length:Nat):Int)) (li (by rw [Y2])) (Z0 2 (ie (wk [0] (fc (x:=.b ((((Xf b1 z1).length:Nat):Int)==0)) (lb (by rw [Ze];rfl)) fl)))))
 refine ac ((!(decide ((Xf b1 z1)=(Xf b1 z1))))||((((Xf b1 z1).length:Nat):Int)==0)) (p:=(¬((Xf b1 z1)=(Xf b1 z1)))∨((((Xf b1 z1).length:Nat):Int)=0)) (Xb (YW dq) Zz) (fun Zi=>?_) (fun Zi=>?_)
 ·exact ar (Z5 3 [0] (Zt [] (LQ b1 z1) (Zt [] (F5 (Xf b1 z1) (Xf b1 z1) (hyl:=(by first|omega|(rw [Kz];omega)|(rw [XX];omega)))) (Z0 1 (ie (Z9 (ZY (.b (decide ((Xf b1 z1)=(Xf b1 z1)))) (lb (by first|(simp;done)|exact decide_eq_true (Jk (ZQ Zr)).2|exact absurd (Jk (ZQ Z2)).1 Xz|exact absurd (Kz b1 z1).symm XT)))))))))
 refine ak (ar (Z5 3 [0] (Zt [] (RK b1 z1 0) (Zt [] (F5 (Xf b1 z1) (Ur b1 z1 0) (hyl:=(by first|omega|(rw [Kz];omega)|(rw [XX];omega)))) (WO 9 [4,5] [(41,.b (decide ((Xf b1 z1)=(Ur b1 z1 0))))] (fun gz=>gz) ?_ (fun hj1=>?_))))))
 ·refine Z0 1 (ib (b:=(decide ((Xf b1 z1)=(Ur b1 z1 0)))) 42 (fun ZO=>?_) (fun ZO=>?_))
  ·have YN:(Xf b1 z1)=(Ur b1 z1 0):=(dq).1 ZO
   refine Z0 1 ?_
   obtain ⟨x1,Z2⟩:=Zp (Xf b1 z1) 0 om
   refine Zn (Zg none 0 1 (ZT Z2)) (Z0 4 (ib (b:=(decide (x1>=0))) 48 (fun YP=>?_) (fun YP=>?_)))
   ·have YU:x1>=0:=(dq).1 YP
    refine Z0 2 (io (.i (((Xf b1 z1).length:Nat):Int)) (.i (((Z7 (Xf b1 z1)).length:Nat):Int)) (li (by rw [Y2])) (ia (((((Xf b1 z1).length:Nat):Int)-1)) (((((Xf b1 z1).length:Nat):Int))-(1)) ?_))
    obtain ⟨x2,Zr⟩:=Zp (Xf b1 z1) (((((Xf b1 z1).length:Nat):Int)-1).toNat) om
    exact Zn (Zg none ((((Xf b1 z1).length:Nat):Int)-1) 1 (ZT Zr)) (Z0 5 (ie (Z9 (ZY (.b (decide (x2<z1))) (lb (by first|(simp;done)|exact decide_eq_true (Jk (ZQ Zr)).2|exact absurd (Jk (ZQ Z2)).1 Xz|exact absurd (Kz b1 z1).symm XT))))))
   have Xz:¬(x1>=0):=YH dq YP
   exact Z0 10 (ie (Z9 (ZY (.b false) (lb (by first|(simp;done)|exact decide_eq_true (Jk (ZQ Zr)).2|exact absurd (Jk (ZQ Z2)).1 Xz|exact absurd (Kz b1 z1).symm XT)))))
  have XT:¬((Xf b1 z1)=(Ur b1 z1 0)):=YH dq ZO
  exact Z0 16 (ie (Z9 (ZY (.b false) (lb (by first|(simp;done)|exact decide_eq_true (Jk (ZQ Zr)).2|exact absurd (Jk (ZQ Z2)).1 Xz|exact absurd (Kz b1 z1).symm XT)))))
 refine Z0 1 (ib (b:=(decide ((Xf b1 z1)=(Ur b1 z1 0)))) 38 (fun XF=>?_) (fun XF=>?_))
 ·have WD:(Xf b1 z1)=(Ur b1 z1 0):=(dq).1 XF
  exact Z0 1 (Zt [] (Sj (Xf b1 z1) (hasc:=(Nn (Z3k _ _)))) (Z0 1 (Xe (wk [0] (fc (x:=.b true) (lb XF.symm) fl)) hj1)))
 have WX:¬((Xf b1 z1)=(Ur b1 z1 0)):=YH dq XF
 exact Z0 3 (Xe (wk [0] (fc (x:=.b false) (lb XF.symm) fl)) hj1)
end Go.Abs
section
namespace Go.Proofs.YthllacimcjakdaaGreat.fnUsedIn
open Go.ChangeShapes Go.WideShapes Go.ChangeAt Go.RowKit Go.Abs
theorem own:ownKnob Tryz.prog.godebug=none:=by kernel_rfl
theorem kids:Kids Tryz.prog (·<Tryz.prog.types.size):=kids_rows kr kr
theorem P8:∀t e,t<Tryz.prog.types.size->Tryz.prog.underlying t=some (.slice e)->0<Tryz.prog.cellsOf e:=slices_full_of Tryz.prog kr
theorem Lu {w w':World} {G G':ZV} {h':List Res} (hx:YD w G [] w' G' h'):∀b,b<w.heap.size->w'.heap[b]? = w.heap[b]?:=
 fun b hb=>(hx.same b hb).eq fun o ⟨r,hr,_⟩=>by cases hr
theorem NK {w w':World} {b o:Nat} (h:w'.heap[b]? = w.heap[b]?):w'.cell? ⟨b,o,none⟩=w.cell? ⟨b,o,none⟩:=by simp [World.cell?,h]
theorem SA {t:Nat} (h:Nat.blt t Tryz.prog.types.size=true):t<Tryz.prog.types.size:=Nat.le_of_ble_eq_true h
set_option maxRecDepth 100000 in
theorem O1 (H:Type) (enc:TypeId × Value->H) (W:World) (base:Nat) (args:Array Value) (ds gs:List (DataW H)) (before:List MemPlace) (hval:∀(j:Nat) t v,Tryz.f11.params[j]? = some t->args[j]? = some v->Value.okWide Tryz.prog W .any base t v)
  (hW:DataW.Whole enc Tryz.prog Tryz.f11.params.toList Rows.fnUsedInSpec.vars false W args.toList ds gs before) :
  Calls Tryz.prog 11 args W fun e W'=>∃v,e=.returned v/\Rows.fnUsedInSpec.post enc Tryz.prog Tryz.f11 false true false false W args v W':=by
 have hW':=hW
 obtain ⟨p,q,hA0,hV,rfl,hfz,hnd⟩:=hW
 have hA:DataW.TrodAll enc Tryz.prog W 0 (fun _=>true) true Tryz.f11.params.toList args.toList ds p:=hA0
 rw [Tryz.params11] at hA
 obtain ⟨v0,vs0,d0,ds0,p0,q0,hargs,rfl,rfl,h0,r0⟩:=trodAll_cons hA
 obtain ⟨rfl,rfl,rfl⟩:=trodAll_nil r0
 obtain rfl:args=#[v0]:=by cases args;simp_all
 obtain ⟨rfl,rfl⟩:=trodVars_none hV
 obtain ⟨fuel,htr⟩:=h0
 obtain ⟨qa,ql,qc,rfl⟩:=okWide_slice Tryz.underlying22 (hval 0 22 v0 kr rfl)
 obtain ⟨v1,code,hv1,hrv,hcb⟩:=Z0i htr
 have hv1:[Value.slice qa ql qc]=[v1]:=hv1
 cases hv1
 have hh:Y9 W (GA W) []:=⟨(fun r hr=>by cases hr),List.Pairwise.nil,(fun r hr=>by cases hr),fun b o hg=>hg⟩
 refine (Si code hcb W (GA W) [.slice qa ql qc] (.cons hrv .nil) hh).mono ?_
 rintro e W' ⟨v,r,h',G',rfl,⟨rfl,rfl⟩,hv,hh',hx⟩
 have hvb:=hv.val_inv
 subst hvb
 refine ⟨_,rfl,[d0],[],p0++[]++[],[],p0++[],[],hW',?_,?_,rfl,?_,(fun h=>by cases h)⟩
 ·exact trodAll_cons_mk (shut_bool Tryz.underlying4 _) trodAll_mk0
 ·have hold:∀b,b<W.heap.size->W'.heap[b]? = W.heap[b]?:=Lu hx
  have hlt:=hW'.lt
  have hcar:DataW.TrodAll enc Tryz.prog W' 0 (fun _=>true) true Tryz.f11.params.toList [.slice qa ql qc] [d0] (p0++[]):=by
   rw [Tryz.params11]
   refine ⟨p0,[],⟨fuel,DataW.trod_carry fuel 22 _ _ htr fun y hy=>?_⟩,rfl,rfl⟩
   have hyl:=hlt y (by simpa using hy)
   cases y with
   | cell b o=>exact NK (hold b hyl)
   | map b=>exact hold b hyl
  exact DataW.TrodAll.respare kids P8 (by rw [Tryz.params11];intro t ht;rw [List.mem_singleton.1 ht];exact SA kr) hcar (fun y hy=>by have:=hlt y (by simpa using hy);simpa using this)
 ·refine ⟨hx.os,hx.output,fun i hi=>?_⟩
  rw [Lu hx i hi]
  cases W.heap[i]? with
  | none=>rfl
  | some o=>cases o<;>first | rfl | exact ⟨rfl,rfl,rfl,fun _ _=>rfl⟩ | exact .inr ⟨rfl,rfl⟩
set_option maxRecDepth 100000 in
theorem Sz (os:Os) (started:os.Started) (H:Type) (enc:TypeId × Value->H) (F:Stop.Interp) :
  ReturnsInHanded {} Tryz.checked os 11 .any ((Rows.OpenSpec.upto Rows.fnUsedInSpec).pre6 enc Tryz.prog Tryz.f11 Rows.fnUsedInUptoRow.domain false) (((Rows.OpenSpec.upto Rows.fnUsedInSpec).at F).post enc Tryz.prog Tryz.f11 false true false false):=by
 refine returnsInHanded_of_cond (C:=Tryz.checked) (s:=Rows.OpenSpec.upto Rows.fnUsedInSpec) (k:=Rows.uptoSmall) rfl own started kr Tryz.func11
  (OpenSpec.witness (enc:=enc) (C:=Tryz.checked) (s:=Rows.OpenSpec.upto Rows.fnUsedInSpec) (k:=Rows.uptoSmall) rfl false ⟨#[],#[.slice none 0 0],[]⟩ 8 kr kr kr
   (x:=([.nil],[],[])) kr rfl kr) ?_
 intro W base args ds gs before hval hW _ hk _
 exact O1 H enc W base args ds gs before hval hW
theorem N5 {a b:Bool} (ha:a=true) (hb:b=true):(a&&b)=true:=by rw [ha,hb];rfl
set_option maxHeartbeats 4000000 in
theorem NN:joinedFacts Tryz.pinned.checked.prog 11 Tryz.f11 (Rows.OpenSpec.upto Rows.fnUsedInSpec).bare Rows.fnUsedInUptoRow=true:=by
 unfold joinedFacts
 iterate 31 refine N5 ?_ (by as_aux_lemma=>kernel_rfl)
 as_aux_lemma=>kernel_rfl
theorem Z0e:Rows.fnUsedInUptoRow.holds Tryz.pinned (Rows.OpenSpec.upto Rows.fnUsedInSpec):=
 OpenClaim.holds_of_cond 11 Tryz.f11 rfl rfl rfl rfl rfl rfl rfl ⟨rfl,rfl,rfl,rfl,rfl⟩ rfl rfl rfl rfl rfl (by as_aux_lemma=>kernel_rfl) Tryz.func11 NN
  (of_decide_eq_true kr) (by unfold Func.isWrapper;first|(rw [if_pos (by decide +kernel)];kernel_rfl)|(rw [if_neg (by decide +kernel)];exact ⟨rfl,rfl⟩))
  (fun os started H enc _ F=>Sz os started H enc F)
theorem proved:Rows.FnUsedInUptoSaid:=
 Z0e
#print axioms proved
end Go.Proofs.YthllacimcjakdaaGreat.fnUsedIn
end
