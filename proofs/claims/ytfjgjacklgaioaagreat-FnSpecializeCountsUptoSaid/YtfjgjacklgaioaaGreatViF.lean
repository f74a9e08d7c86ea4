/-
  A part of the proofs of several laws (see the last file): no condition.
-/
import Derived.Test.YtfjgjacklgaioaaGreatViE
set_option linter.all false
set_option linter.unusedVariables false
set_option linter.unusedSimpArgs false
set_option linter.unusedSectionVars false
set_option maxRecDepth 10000
set_option maxHeartbeats 4000000
namespace Go.Abs
open Go.Proofs
theorem Z4v (b:Nat) (ga:Hd) (gb:Hd) (gc:Hd) (n:Zm) (L:Vn) (ln:LI) (am:List X1) (xs:List Z5) (q:Int) (vs:LI) (hn:X4 n:=by exact ob) (hk:Xd n.decls L q:=by exact ob) (har:V3 n.decls L am:=by exact ob) (ht:Xp n xs L.vars=some vs:=by exact ob) (hnn:∀t∈L.vars,0<=t) (hb:L.vars.length+am.length+4*Yf xs<=900000000:=by exact ob) (hq:0<=q/\q+4*Yf xs<=999999980:=by exact ob) (hr:TK xs:=by exact ob) (ih:∀(s2:Z5) (c:Nat) (ra:Hd) (rb:Hd) (rc:Hd) (M:Vn) (a2:List X1) (p:Int),(s2.sz<=Yf xs)->(Xd n.decls M p)->(V3 n.decls M a2)->(0<=Y2 n M.vars s2)->(∀t∈M.vars,0<=t)->(M.vars.length+a2.length+4*s2.sz<=900000000)->(0<=p/\p+4*s2.sz<=999999980)->(s2.rng)->Zj 177 [.p c 0,YF s2] [.obj c [ZP n.decls,YN n,Z4 ln,Xe a2,.h ra,.h rb,.h rc],rV ra M.vars,rV rb M.own,rV rc M.tok] (fun r h=>(∃(wa:Hd) (wb:Hd) (wc:Hd) (M':Vn),r=.b true/\h=[.obj c [ZP n.decls,YN n,Z4 ln,Xe a2,.h wa,.h wb,.h wc],rV wa M'.vars,rV wb M'.own,rV wc M'.tok]/\UA n ln M s2=some M')∨(r=.b false/\h=[]/\UA n ln M s2=none))):Zj 124 [.p b 0,Vs xs] [.obj b [ZP n.decls,YN n,Z4 ln,Xe am,.h ga,.h gb,.h gc],rV ga L.vars,rV gb L.own,rV gc L.tok] (fun r h=>(∃(wa:Hd) (wb:Hd) (wc:Hd) (L':Vn),r=.b true/\h=[.obj b [ZP n.decls,YN n,Z4 ln,Xe am,.h wa,.h wb,.h wc],rV wa L'.vars,rV wb L'.own,rV wc L'.tok]/\Vz n ln L xs=some L')∨(r=.b false/\h=[]/\Vz n ln L xs=none)):=by
 have hxl:=JG xs
 refine ZE 18 Tryz.func124 (Zy (YP 1 (iw (VR xs) (Z0 (ab 0 (Y4 (fun fz gz m F h=>∃(k:Nat) (q2:Int) (L2:Vn) (ka:Hd) (kb:Hd) (kc:Hd),(k<=xs.length)/\(Xd n.decls L2 q2)/\(0<=q2/\q2+4*Yf (xs.drop k)<=999999980)/\(L2.vars.length+am.length+4*Yf (xs.drop k)<=900000000)/\(Xp n (xs.drop k) L2.vars=some vs)/\(Vz n ln L2 (xs.drop k)=Vz n ln L xs)/\(V3 n.decls L2 am)/\(∀t∈L2.vars,0<=t)/\F=sF [0,7,8] fz [(9,.i k)]/\h=[.obj b [ZP n.decls,YN n,Z4 ln,Xe am,.h ka,.h kb,.h kc],rV ka L2.vars,rV kb L2.own,rV kc L2.tok]/\m=xs.length-k) _ _ _ ⟨0,q,L,ga,gb,gc,ob,hk,(by rw [KM];omega),(by rw [KM];omega),ht,rfl,har,hnn,rfl,rfl,rfl⟩ (ZG 4 (Yb fl)) ?_))))))
 rintro m F h ⟨k,q2,L2,ka,kb,kc,Ye,Zk,Zw,Yy,XU,Tt,If,O0,rfl,rfl,rfl⟩
 refine Zy (aq (XB ((k:Int)<(xs.length:Int)) (fun Za=>?_) (fun Za=>?_)))
 ·obtain ⟨s1,hs1⟩:=Zs xs k om
  have hdr:=Y5 hs1
  have hz:Yf (xs.drop k)=s1.sz+Yf (xs.drop (k+1)):=by rw [hdr,Yf]
  have Xu:=Z1x hs1
  have hsr:=MQ hr hs1
  rw [hdr] at XU Tt
  obtain ⟨g1,g2⟩:=DN XU
  refine ak (aq (ab 1 (ar (Zp (Zl none (k:Int) 5 (VK hs1)) (Z2 1 (iA [.i 0,.i 0,.i 0,nl,nl] fun b1=>ZH 0 b1 (Xx s1) (ie (Zv 2 [0] (ic [1,1,1,1] (ih s1 b ka kb kc L2 am q2 ob Zk If g1 O0 om om hsr) ?_)))))))))
  rintro _ _ (⟨wa1,wb1,wc1,M'1,rfl,rfl,ZY⟩|⟨rfl,rfl,Yi⟩)
  ·have hP:=ZY
   have kx:=Hv hn Zk Zw.1 g1 hP
   exact Z0 (WE (ak (az (ZJ k (Z0 (ZK ⟨k+1,(q2+4*s1.sz),M'1,wa1,wb1,wc1,ob,kx.1,om,(by rw [kx.2];have:=F9 n L2.vars s1;omega),(by rw [kx.2];exact g2),(by rw [<-Tt,Vz,hP];rfl),(Z28 hn Zk Zw.1 g1 hP If),(by rw [kx.2];exact Zhf O0 g1),rfl,rfl,rfl⟩ (ZG 4 (ZM k fl))))))))
  have hP:=Yi
  exact Z0 (W6 (ar (Zo (r1 [] (.inr ⟨rfl,rfl,(by rw [<-Tt,Vz,hP];rfl)⟩)))))
 exact ax 0 (ar (Zo (r1 [0,0,0,0] (.inl ⟨ka,kb,kc,L2,rfl,rfl,(by rw [<-Tt,Xj om];rfl)⟩))))
theorem O5 (am:List X1) (hl:am.length<=1000000000:=by exact ob):Zj 165 [Xe am] [] (fun r h=>∃(v:Value),r=M4 am v/\h=[.tail v 4]):=by
 refine ZE 8 Tryz.func165 (Zy (YP 1 (iN (WL am) (fun hz1=>?_) ?_)))
 ·have hz1:=Z7m hz1
  exact ie (W6 (Zy (Tq 4 (ZB (r2 [0] [nl] ⟨(.slice none 0 0),rfl,rfl⟩ (Zc.slh _ (by first|rfl|(subst_vars;rfl))))))))
 exact ie (WE (ak (ar (iL (WL []) 0 4 fun v1=>Z2 1 (ip 0 (WL am) (WL []) (WL am) v1 none 4 (D4 _) (D4 _) (Iv _) (by simp<;>omega) (by simp [WL]) fun v2=>Zo (r1 [0] ⟨v2,rfl,rfl⟩))))))
theorem FB (am:List X1) (a:X1) (hl:am.length<=900000000:=by exact ob):Zj 99 [Xe am,.agg [.i a.mat,.i a.fst,Z4 a.fds,.b a.chg]] [] (Yn (Xe (am++[a]))):=by
 refine ZE 10 Tryz.func99 (ar (iA [.i a.mat,.i a.fst,Z4 a.fds,.b a.chg] fun b1=>?_))
 refine Z0 (aD 6 (ZI 4 6 [0,2] [0] (Jo (fun fz gz F h=>∃(v3:Value),F=sF [] fz [(4,M4 (am++[a]) v3)]/\h=gz) ?_ ?_)))
 ·refine VJ 1 3 ?_ ?_
  ·refine dc 1 [] [0] [b1] (O5 am) ?_
   rintro _ _ ⟨v1,rfl,rfl⟩
   exact Z9 3 (dL 3 [] [] (WL [a]) 1 4 fun v2=>YA 2 2 [] [(8,Xe [a])] (Z9 4 (dp 4 1 [] [] (WL (am++[a])) (WL am) (WL [a]) v1 none 4 (D4 _) (D4 _) (Iv _) (by simp<;>omega) (by simp [OD,WL]) fun v3=>Zh 0 1 [5] (de (ZV ⟨v3,rfl,rfl⟩ (wk [2] fl))))))
  refine dL 3 [] [] (WL [a]) 1 4 fun v4=>Z9 1 (dc 1 [] [] [] (O5 am) ?_)
  rintro _ _ ⟨v5,rfl,rfl⟩
  exact YA 2 2 [] [(8,Xe [a])] (Z9 4 (dp 4 0 [] [] (WL (am++[a])) (WL am) (WL [a]) v5 none 4 (D4 _) (D4 _) (Iv _) (by simp<;>omega) (by simp [OD,WL]) fun v6=>Zh 0 1 [5] (de (ZV ⟨v6,rfl,rfl⟩ (wk [2] fl)))))
 rintro F h ⟨v3,rfl,rfl⟩
 exact ZB (ZU (M4 (am++[a]) v3) (Zc.forget _ _))
theorem Z4p (b:Nat) (ga:Hd) (gb:Hd) (gc:Hd) (n:Zm) (L:Vn) (ln:LI) (am:List X1) (s:Z5) (q:Int) (hn:X4 n:=by exact ob) (hty:KO n:=by exact ob) (hlt:C9 n:=by exact ob) (hk:Xd n.decls L q:=by exact ob) (har:V3 n.decls L am:=by exact ob) (hln:ln.length<=4294967296:=by exact ob) (hf:AL n L.vars s:=by exact ob) (hop:s.op=7∨s.op=8:=by exact ob) (hnn:∀t∈L.vars,0<=t) (hb:L.vars.length+am.length+4*s.sz<=900000000:=by exact ob) (hq:0<=q/\q+4*s.sz<=999999980:=by exact ob) (hr:s.rng:=by exact ob) (ih:∀(ys:List Z5) (c:Nat) (ra:Hd) (rb:Hd) (rc:Hd) (M:Vn) (a2:List X1) (p:Int) (vs:LI),(Yf ys<s.sz)->(Xd n.decls M p)->(V3 n.decls M a2)->(Xp n ys M.vars=some vs)->(∀t∈M.vars,0<=t)->(M.vars.length+a2.length+4*Yf ys<=900000000)->(0<=p/\p+4*Yf ys<=999999980)->(TK ys)->Zj 124 [.p c 0,Vs ys] [.obj c [ZP n.decls,YN n,Z4 ln,Xe a2,.h ra,.h rb,.h rc],rV ra M.vars,rV rb M.own,rV rc M.tok] (fun r h=>(∃(wa:Hd) (wb:Hd) (wc:Hd) (M':Vn),r=.b true/\h=[.obj c [ZP n.decls,YN n,Z4 ln,Xe a2,.h wa,.h wb,.h wc],rV wa M'.vars,rV wb M'.own,rV wc M'.tok]/\Vz n ln M ys=some M')∨(r=.b false/\h=[]/\Vz n ln M ys=none))):Zj 222 [.p b 0,YF s] [.obj b [ZP n.decls,YN n,Z4 ln,Xe am,.h ga,.h gb,.h gc],rV ga L.vars,rV gb L.own,rV gc L.tok] (fun r h=>(∃(wa:Hd) (wb:Hd) (wc:Hd) (L':Vn),r=.b true/\h=[.obj b [ZP n.decls,YN n,Z4 ln,Xe am,.h wa,.h wb,.h wc],rV wa L'.vars,rV wb L'.own,rV wc L'.tok]/\JV n ln L s=some L')∨(r=.b false/\h=[]/\JV n ln L s=none)):=by
 have hlk:=hk.len
 obtain ⟨e1,e2,e3,e4,e5⟩:=hk.len
 have Xz:=hn.decls
 have hkz:=Te s
 have haz:=K6 s
 obtain ⟨hk1,hk2,hk3⟩:=hf.kids hop
 obtain ⟨kd,hkd⟩:=Zs s.kids 0 om
 obtain ⟨x,hxa⟩:=hf.one om
 have ha:s.args[0]? = some x:=by rw [hxa];rfl
 have hx:=hf.args x (by rw [hxa];simp)
 have hgx:=A3 ha
 have hal0:=(Xq.1 ha).1
 have hr2:=hr
 rw [s.rng_eq] at hr2
 refine ZE 156 Tryz.func222 (ar (iA (Xx s) fun b1=>Z0 (X7 (Xv [0,3] [(24,.b ((s.op==8)&&(!Wd L ln x)))] (fun gz=>[Zd gz 1,Zd gz 2,Zd gz 3,Zd gz 4,Zd gz 0]) ?_ ?_))))
 ·refine ZL 4 [0] (ib (b:=(s.op==8)) 16 (fun Zb=>?_) (fun Zb=>?_))
  ·have ZY:s.op=8:=(Zq).1 Zb
   exact ZL 3 [0] (Zp (Zl none 0 1 (ZZ ha)) (Z2 1 (Zx [1,1,1,1] (I6 b ga gb gc n L ln am x ob ob ob ob ob hk.down ob) (Z0 (ZG 5 (Zt (!Wd L ln x) Zb fl))))))
  have Yi:¬(s.op=8):=Y6 Zq Zb
  exact Z0 (wk [1,1,1,1,0] (Zt false Zb fl))
 refine ac ((s.op==8)&&(!Wd L ln x)) (p:=(s.op=8)/\(¬(Wd L ln x=true))) (YK Zq (Yl Iff.rfl)) (fun Za=>?_) (fun Za=>?_)
 ·exact ar (Zo (r1 [] (.inr ⟨rfl,rfl,(Z5l Za.1 (by rw [hgx];exact Za.2))⟩)))
 have hgo:=O4 (n:=n) (ln:=ln) (L:=L) (s:=s) (by rw [hgx];exact Za) hkd
 refine ak (Zv 2 [4] (iw (U8 s.kids) (iMN s.kids.length s.kids.length fun v1=>?_)))
 refine Z0 (X7 (VX [5] (Wj (fun fz gz F h=>F=sF [0,3] fz [(5,KA (X9 n.decls s.op s.num))]/\h=[Zd gz 1,Zd gz 2,Zd gz 3,Zd gz 4,Zd gz 5]) ?_ ?_)))
 ·refine ac (s.op==8) Zq (fun Zg=>?_) (fun Zg=>?_)
  ·exact aE 8 (ZI 2 8 [0,1,2,3,4,5] [1,5] (Z9 6 (Yz 6 [] [] [] (GC _ s.num) (Zh 0 1 [7] (de (ZV ⟨rfl,rfl⟩ (wk [1,1,1,1,1] (fc (x:=KA ((ZW n.decls s.num).map (ZX n.decls))) (Zc.sl _ (Yu Wq (by rw [X9,Z7 om]))) fl))))))))
  exact ak (ZV ⟨rfl,rfl⟩ (wk [1,1,1,1,1] (fc (x:=BL (List.replicate s.kids.length []) v1) (Zc.sl _ (Yu Wq (by rw [show s.kids.length=2 by rw [hk1,X9,Ze om];rfl,X9,Ze om];rfl))) fl)))
 rintro F h ⟨rfl,rfl⟩
 refine Zv 4 [0] (Zp (JL 1 ga L.vars) (Z0 (Zy (Yk 2 [4] (iw (U8 s.kids) (Z0 (ab 0 (Y4 (fun fz gz m F h=>(∃(k:Nat),(k=0)/\F=sF [0,3,5,6,7,45,46] fz [(47,.i k)]/\h=gz/\m=s.kids.length-k)∨(∃(k:Nat) (c0:Nat) (ua:Hd) (ub:Hd) (uc:Hd) (O:Vn) (aO:List X1),(1<=k/\k<=s.kids.length)/\(Vp n ln (VM n.decls L s.op s.num s.args 0) L.vars.length kd=some (O.take L.vars.length))/\(L.vars.length<=O.own.length/\O.own.length<=1000000000/\L.vars.length<=O.tok.length/\O.tok.length<=1000000000)/\(J3 n ln L s.op s.num s.args (O.take L.vars.length) (s.kids.drop k) k=J3 n ln L s.op s.num s.args (O.take L.vars.length) (s.kids.drop 1) 1)/\F=sF [0,3,5,6,45,46] fz [(7,.p c0 0),(47,.i k)]/\h=[.obj c0 [ZP n.decls,YN n,Z4 ln,Xe aO,.h ua,.h ub,.h uc],rV ua O.vars,rV ub O.own,rV uc O.tok,Zd gz 0,Zd gz 1,Zd gz 2,Zd gz 3,Zd gz 4]/\m=s.kids.length-k)) _ _ _ (.inl ⟨0,rfl,rfl,rfl,rfl⟩) (ZG 5 (Yb fl)) ?_))))))))
 rintro m F h (⟨k,Ye,rfl,rfl,rfl⟩|⟨k,c0,ua,ub,uc,O,aO,d0_0,d0_1,d0_2,d0_3,rfl,rfl,rfl⟩)
 ·refine Zy (aq (XB ((k:Int)<(s.kids.length:Int)) (fun ZD=>?_) (fun ZD=>?_)))
  ·obtain ⟨ke,hke⟩:=Zs s.kids k om
   obtain ⟨mk,hmk⟩:=Zs (X9 n.decls s.op s.num) k om
   have hK:=Dr hk hq.1 hf hop hmk
   have hmk3:=E6 Xz hmk
   have hks:=TF hke
   have hbt:=hk3 k ke mk hke hmk
   obtain ⟨vs,rt,hvs,hres,hrt⟩:=CT hbt
   have hri:=KS hres
   have hsrr:TK ke.steps:=by
    have h:=FG hr2.2 hke
    rwa [Z6.rng_eq] at h
   have hbz:=ke.sz_eq
   have hak:=NE hn har hlk hop (by rw [hgx];exact hx) hmk
   have hsl:=Hw hvs
   rw [Ys] at hsl
   have hkl:=ND (L:=L) (am:=am) (s:=s) (m:=mk)
   refine ak (aq (ab 1 (Y1 1 (Zp (Zl none (k:Int) 2 (UV hke)) (Z2 1 (iA [nl,.i 0] fun b2=>Z2 1 (ZH 0 b2 (Xs ke) (ie (Y1 1 (ic [1,1,1,1] (NN b ga gb gc n L ln am) ?_))))))))))
   rintro _ _ ⟨c1,wa1,wb1,wc1,rfl,rfl⟩
   refine Z0 (X7 (VX [9] (Wj (fun fz gz F h=>F=sF [0,3,5,6,7,8,9,10,45,46,47] fz []/\h=[.obj c1 [ZP n.decls,YN n,Z4 ln,Xe (TQ L am s mk),.h wa1,.h wb1,.h wc1],Zd gz 1,Zd gz 2,Zd gz 3,Zd gz 4,Zd gz 5,Zd gz 6,Zd gz 7,Zd gz 8,Zd gz 9]) ?_ ?_)))
   ·refine ac (s.op==8) Zq (fun Yj=>?_) (fun Yj=>?_)
    ·exact aE 19 (ZI 12 19 [0,1,2,3,4,5,6] [4,9] (dx 7 (Zl none 0 1 (ZZ ha)) (Zh 7 11 [8,9,10,11] (dx 12 (Zl none (k:Int) 1 (Ar hmk)) (Zh 4 6 [13,14] (Z9 15 (Yz 15 [] [] [] (FB am (X1.mk x (L.vars.length:Int) mk false)) (Zh 1 3 [16,17] (Z9 18 (YO 18 0 [] [] c1 [ZP n.decls,YN n,Z4 ln,Xe (am++[(X1.mk x (L.vars.length:Int) mk false)]),.h wa1,.h wb1,.h wc1] (de (ZV ⟨rfl,rfl⟩ (ZG 10 fl (e:=(ro (ls:=[ZP n.decls,YN n,Z4 ln,Xe (am++[(X1.mk x (L.vars.length:Int) mk false)]),.h wa1,.h wb1,.h wc1]) (by rw [TQ,Ze ‹s.op=8›,hgx]) (rc (rc (rc (rc (rc (rc (rc (rc (rc rz))))))))))))))))))))))))
    exact ak (ZV ⟨rfl,rfl⟩ (ZG 10 fl (e:=(ro (ls:=[ZP n.decls,YN n,Z4 ln,Xe am,.h wa1,.h wb1,.h wc1]) (by rw [TQ,Z7 ‹¬s.op=8›]) (rc (rc (rc (rc (rc (rc (rc (rc (rc rz)))))))))))))
   rintro F h ⟨rfl,rfl⟩
   refine YP 2 (Zp (Zl none (k:Int) 1 (Ar hmk)) (Z2 1 (iw (Ya mk) (Z0 (ab 2 (Y4 (fun fz gz m F h=>∃(j:Nat) (L3:Vn) (ka:Hd) (kb:Hd) (kc:Hd),(j<=mk.length)/\(WH L3)/\(L3.vars.length=L.vars.length+j)/\(Jt L3 (gI s.args 0) (mk.drop j)=VM n.decls L s.op s.num s.args k)/\F=sF [0,3,5,6,7,9,10,45,46,47,78,79] fz [(80,.i j)]/\h=[.obj c1 [ZP n.decls,YN n,Z4 ln,Xe (TQ L am s mk),.h ka,.h kb,.h kc],Zd gz 4,Zd gz 5,Zd gz 6,Zd gz 7,Zd gz 8,Zd gz 9,rV ka L3.vars,rV kb L3.own,rV kc L3.tok]/\m=mk.length-j) _ _ _ ⟨0,(JH n L s k),wa1,wb1,wc1,ob,(Z27 hlk),(by rw [BU];rfl),(by rw [KM];exact Z26 hop hmk),rfl,rfl,rfl⟩ (wk [0,3,3,3,3,3,3,0,0,0] (Yb fl) (e:=(rc (rc (rc (rc (rc (rc (rc (rv (xs:=L.vars) (by first|rw [BU]|rw [DK]|rw [DL]) (rv (xs:=L.own) (by first|rw [BU]|rw [DK]|rw [DL]) (rv (xs:=L.tok) (by first|rw [BU]|rw [DK]|rw [DL]) rz)))))))))))) ?_))))))
   rintro m F h ⟨j,L3,ka,kb,kc,U7,XO,XP,JU,rfl,rfl,rfl⟩
   refine Zy (aq (XB ((j:Int)<(mk.length:Int)) (fun Xh=>?_) (fun Xh=>?_)))
   ·obtain ⟨xm,hxm⟩:=Zs mk j om
    refine ak (aq (ab 3 (ar (Zp (Zl none (j:Int) 1 (ZZ hxm)) (Z0 (az (Z2 2 (ic [0,6,6,6] (CQ c1 ka kb kc n L3 ln (TQ L am s mk) xm 0 (hlk:=XO)) ?_))))))))
    rintro _ _ ⟨wa2,wb2,wc2,rfl⟩
    exact ie (az (ZJ j (Z0 (ZK ⟨j+1,(L3.grow xm 0 (gI s.args 0)),wa2,wb2,wc2,ob,(WH.grow XO),(by simp [Zu.grow];omega),(by rw [Y5 hxm,Jt] at JU;exact JU),rfl,rfl,rfl⟩ (wk [0,3,3,3,3,3,3,0,0,0] (ZM j fl) (e:=(rc (rc (rc (rc (rc (rc (rc (rv (xs:=(L3.grow xm 0 (-1)).vars) ob (rv (xs:=(L3.grow xm 0 (-1)).own) ob (rv (xs:=(L3.grow xm 0 (-1)).tok) ob rz))))))))))))))))
   have hE:L3=VM n.decls L s.op s.num s.args k:=by rw [<-JU,Xj om];rfl
   have hL3v:L3.vars=L.vars++mk:=by rw [hE];exact hK.2
   have hL3l:L3.vars.length=L.vars.length+mk.length:=by rw [hL3v,Ys]
   refine ax 2 (Yk 3 [5] (ic [0,6,6,6] (ih ke.steps c1 ka kb kc L3 (TQ L am s mk) q vs ob (by rw [hE];exact hK.1) (by rw [hE];exact hak) (by rw [hL3v];exact hvs) (by rw [hL3v];exact EK hnn (NF hty hmk)) om om hsrr) ?_))
   rintro _ _ (⟨wa3,wb3,wc3,M'1,rfl,rfl,YJ⟩|⟨rfl,rfl,YR⟩)
   ·have hP:=YJ
    have kx:=Hx hn (by rw [hE];exact hK.1) hq.1 (by rw [hE];exact hak) (by rw [hL3v];exact hvs) hP
    have kl:=kx.1.len
    have hm1:(We M'1 ke.result).own.length=vs.length:=by rw [G0.1,kl.own,kx.2.1]
    have hm2:(We M'1 ke.result).tok.length=vs.length:=by rw [G0.2.1,kl.tok,kx.2.1]
    refine ZL 5 [8] (ic [0,0,0,0] (I7 c1 wa3 wb3 wc3 n M'1 ln (TQ L am s mk) ke L.vars.length (hlk:=kl) (hlb:=(by rw [kx.2.1];omega)) (hm:=(by rw [kx.2.1];omega)) (hr:=(by rw [kx.2.1];omega)) (hq:=(fun y hy=>by have h1:=kx.1.nn y hy;have h2:=kx.1.bd y hy;omega))) ?_)
    rintro _ _ (⟨rfl,rfl,Xk⟩|⟨rfl,rfl,XX⟩)
    ·have hB:=Xk
     rw [<-Hy (f:=Ug L.vars.length ke.result) hP,hE,<-JT] at hB
     exact Z0 (WE (ak (ab 4 (Y1 1 (iQ true (Z0 (W6 (UY (az (ZJ k (Z0 (ZK (.inr ⟨k+1,c1,wa3,wb3,wc3,(We M'1 ke.result),(TQ L am s mk),om,(by subst Ye;have e:=UP (hkd.symm.trans hke);subst e;exact hB),om,(by subst Ye;rfl),rfl,rfl,rfl⟩) (wk [0,0,0,0,0,0,0,0,1] (fr (ZM k fl)))))))))))))))
    have hB:=XX
    rw [<-Hy (f:=Ug L.vars.length ke.result) hP,hE,<-JT] at hB
    exact Z0 (W6 (ar (Zo (r1 [] (.inr ⟨rfl,rfl,(by subst Ye;have e:=UP (hkd.symm.trans hke);subst e;rw [hgo,hB];rfl)⟩)))))
   have hB:Vp n ln (VM n.decls L s.op s.num s.args k) L.vars.length ke=none:=by rw [JT,<-hE,YR];rfl
   exact Z0 (W6 (ar (Zo (r1 [] (.inr ⟨rfl,rfl,(by subst Ye;have e:=UP (hkd.symm.trans hke);subst e;rw [hgo,hB];rfl)⟩)))))
  exact absurd hk2 om
 refine Zy (aq (XB ((k:Int)<(s.kids.length:Int)) (fun Xl=>?_) (fun Xl=>?_)))
 ·obtain ⟨ke,hke⟩:=Zs s.kids k om
  obtain ⟨mk,hmk⟩:=Zs (X9 n.decls s.op s.num) k om
  have hK:=Dr hk hq.1 hf hop hmk
  have hmk3:=E6 Xz hmk
  have hks:=TF hke
  have hbt:=hk3 k ke mk hke hmk
  obtain ⟨vs,rt,hvs,hres,hrt⟩:=CT hbt
  have hri:=KS hres
  have hsrr:TK ke.steps:=by
   have h:=FG hr2.2 hke
   rwa [Z6.rng_eq] at h
  have hbz:=ke.sz_eq
  have hak:=NE hn har hlk hop (by rw [hgx];exact hx) hmk
  have hsl:=Hw hvs
  rw [Ys] at hsl
  have hkl:=ND (L:=L) (am:=am) (s:=s) (m:=mk)
  refine ak (aq (ab 1 (Y1 1 (Zp (Zl none (k:Int) 2 (UV hke)) (Z2 1 (iA [nl,.i 0] fun b3=>Z2 1 (ZH 0 b3 (Xs ke) (ie (Y1 1 (ic [5,5,5,5] (NN b ga gb gc n L ln am) ?_))))))))))
  rintro _ _ ⟨c2,wa4,wb4,wc4,rfl,rfl⟩
  refine Z0 (X7 (VX [13] (Wj (fun fz gz F h=>F=sF [0,3,5,6,7,8,9,10,45,46,47] fz []/\h=[.obj c2 [ZP n.decls,YN n,Z4 ln,Xe (TQ L am s mk),.h wa4,.h wb4,.h wc4],Zd gz 1,Zd gz 2,Zd gz 3,Zd gz 4,Zd gz 5,Zd gz 6,Zd gz 7,Zd gz 8,Zd gz 9,Zd gz 10,Zd gz 11,Zd gz 12,Zd gz 13]) ?_ ?_)))
  ·refine ac (s.op==8) Zq (fun U0=>?_) (fun U0=>?_)
   ·exact aE 19 (ZI 12 19 [0,1,2,3,4,5,6] [4,13] (dx 7 (Zl none 0 1 (ZZ ha)) (Zh 7 11 [8,9,10,11] (dx 12 (Zl none (k:Int) 1 (Ar hmk)) (Zh 4 6 [13,14] (Z9 15 (Yz 15 [] [] [] (FB am (X1.mk x (L.vars.length:Int) mk false)) (Zh 1 3 [16,17] (Z9 18 (YO 18 0 [] [] c2 [ZP n.decls,YN n,Z4 ln,Xe (am++[(X1.mk x (L.vars.length:Int) mk false)]),.h wa4,.h wb4,.h wc4] (de (ZV ⟨rfl,rfl⟩ (ZG 14 fl (e:=(ro (ls:=[ZP n.decls,YN n,Z4 ln,Xe (am++[(X1.mk x (L.vars.length:Int) mk false)]),.h wa4,.h wb4,.h wc4]) (by rw [TQ,Ze ‹s.op=8›,hgx]) (rc (rc (rc (rc (rc (rc (rc (rc (rc (rc (rc (rc (rc rz))))))))))))))))))))))))))))
   exact ak (ZV ⟨rfl,rfl⟩ (ZG 14 fl (e:=(ro (ls:=[ZP n.decls,YN n,Z4 ln,Xe am,.h wa4,.h wb4,.h wc4]) (by rw [TQ,Z7 ‹¬s.op=8›]) (rc (rc (rc (rc (rc (rc (rc (rc (rc (rc (rc (rc (rc rz)))))))))))))))))
  rintro F h ⟨rfl,rfl⟩
  refine YP 2 (Zp (Zl none (k:Int) 1 (Ar hmk)) (Z2 1 (iw (Ya mk) (Z0 (ab 2 (Y4 (fun fz gz m F h=>∃(j:Nat) (L3:Vn) (ka:Hd) (kb:Hd) (kc:Hd),(j<=mk.length)/\(WH L3)/\(L3.vars.length=L.vars.length+j)/\(Jt L3 (gI s.args 0) (mk.drop j)=VM n.decls L s.op s.num s.args k)/\F=sF [0,3,5,6,7,9,10,45,46,47,78,79] fz [(80,.i j)]/\h=[.obj c2 [ZP n.decls,YN n,Z4 ln,Xe (TQ L am s mk),.h ka,.h kb,.h kc],Zd gz 4,Zd gz 5,Zd gz 6,Zd gz 7,Zd gz 8,Zd gz 9,Zd gz 10,Zd gz 11,Zd gz 12,Zd gz 13,rV ka L3.vars,rV kb L3.own,rV kc L3.tok]/\m=mk.length-j) _ _ _ ⟨0,(JH n L s k),wa4,wb4,wc4,ob,(Z27 hlk),(by rw [BU];rfl),(by rw [KM];exact Z26 hop hmk),rfl,rfl,rfl⟩ (wk [0,3,3,3,3,3,3,3,3,3,3,0,0,0] (Yb fl) (e:=(rc (rc (rc (rc (rc (rc (rc (rc (rc (rc (rc (rv (xs:=L.vars) (by first|rw [BU]|rw [DK]|rw [DL]) (rv (xs:=L.own) (by first|rw [BU]|rw [DK]|rw [DL]) (rv (xs:=L.tok) (by first|rw [BU]|rw [DK]|rw [DL]) rz)))))))))))))))) ?_))))))
  rintro m F h ⟨j,L3,ka,kb,kc,U7,XO,XP,JU,rfl,rfl,rfl⟩
  refine Zy (aq (XB ((j:Int)<(mk.length:Int)) (fun VT=>?_) (fun VT=>?_)))
  ·obtain ⟨xm,hxm⟩:=Zs mk j om
   refine ak (aq (ab 3 (ar (Zp (Zl none (j:Int) 1 (ZZ hxm)) (Z0 (az (Z2 2 (ic [0,10,10,10] (CQ c2 ka kb kc n L3 ln (TQ L am s mk) xm 0 (hlk:=XO)) ?_))))))))
   rintro _ _ ⟨wa5,wb5,wc5,rfl⟩
   exact ie (az (ZJ j (Z0 (ZK ⟨j+1,(L3.grow xm 0 (gI s.args 0)),wa5,wb5,wc5,ob,(WH.grow XO),(by simp [Zu.grow];omega),(by rw [Y5 hxm,Jt] at JU;exact JU),rfl,rfl,rfl⟩ (wk [0,3,3,3,3,3,3,3,3,3,3,0,0,0] (ZM j fl) (e:=(rc (rc (rc (rc (rc (rc (rc (rc (rc (rc (rc (rv (xs:=(L3.grow xm 0 (-1)).vars) ob (rv (xs:=(L3.grow xm 0 (-1)).own) ob (rv (xs:=(L3.grow xm 0 (-1)).tok) ob rz))))))))))))))))))))
  have hE:L3=VM n.decls L s.op s.num s.args k:=by rw [<-JU,Xj om];rfl
  have hL3v:L3.vars=L.vars++mk:=by rw [hE];exact hK.2
  have hL3l:L3.vars.length=L.vars.length+mk.length:=by rw [hL3v,Ys]
  refine ax 2 (Yk 3 [5] (ic [0,10,10,10] (ih ke.steps c2 ka kb kc L3 (TQ L am s mk) q vs ob (by rw [hE];exact hK.1) (by rw [hE];exact hak) (by rw [hL3v];exact hvs) (by rw [hL3v];exact EK hnn (NF hty hmk)) om om hsrr) ?_))
  rintro _ _ (⟨wa6,wb6,wc6,M'2,rfl,rfl,WA⟩|⟨rfl,rfl,WY⟩)
  ·have hP:=WA
   have kx:=Hx hn (by rw [hE];exact hK.1) hq.1 (by rw [hE];exact hak) (by rw [hL3v];exact hvs) hP
   have kl:=kx.1.len
   have hm1:(We M'2 ke.result).own.length=vs.length:=by rw [G0.1,kl.own,kx.2.1]
   have hm2:(We M'2 ke.result).tok.length=vs.length:=by rw [G0.2.1,kl.tok,kx.2.1]
   refine ZL 5 [8] (ic [0,0,0,0] (I7 c2 wa6 wb6 wc6 n M'2 ln (TQ L am s mk) ke L.vars.length (hlk:=kl) (hlb:=(by rw [kx.2.1];omega)) (hm:=(by rw [kx.2.1];omega)) (hr:=(by rw [kx.2.1];omega)) (hq:=(fun y hy=>by have h1:=kx.1.nn y hy;have h2:=kx.1.bd y hy;omega))) ?_)
   rintro _ _ (⟨rfl,rfl,Vr⟩|⟨rfl,rfl,UH⟩)
   ·have hB:=Vr
    rw [<-Hy (f:=Ug L.vars.length ke.result) hP,hE,<-JT] at hB
    refine Z0 (WE (ak (ab 4 (Y1 1 (iQ false (Z0 (WE (aD 31 (ZI 26 31 [0,1,2,3,4] [0] (dx 5 (KL 2 wb6 ((We M'2 ke.result).own) L.vars.length) (ZI 20 25 [6,7,8,9,10] [9] (dx 11 (KL 11 ub O.own L.vars.length) (Z9 12 (Tb 12 [2,10] [] [] [rV wb6 ((We M'2 ke.result).own),rV ub O.own] (CD (((We M'2 ke.result).own).take L.vars.length) (O.own.take L.vars.length)) CY (gC (v:=wb6) (ys:=(We M'2 ke.result).own) 0 L.vars.length (gC (v:=ub) (ys:=O.own) 1 L.vars.length gN)) (Uq (Uq Tf)) ?_))))))))))))))
    rintro _ _ ⟨rfl,rfl⟩
    refine JZ [0,3,5,6,7,45,46,47] [(104,.b ((!(decide ((((We M'2 ke.result).own).take L.vars.length)=(O.own.take L.vars.length))))||(!(decide ((((We M'2 ke.result).tok).take L.vars.length)=(O.tok.take L.vars.length))))))] (fun gz=>gz) ?_ ?_
    ·refine Zh 16 18 [13,14] (db (b:=(!(decide ((((We M'2 ke.result).own).take L.vars.length)=(O.own.take L.vars.length))))) 119 (fun Zz=>?_) (fun Zz=>?_))
     ·have T0:¬((((We M'2 ke.result).own).take L.vars.length)=(O.own.take L.vars.length)):=((Yl dq)).1 Zz
      exact Zh 0 16 [15,16,17,18,19,20,21,22,23,24,25,26,27,28,29,30] (de (ZG 14 (Zt true Zz fl)))
     have T1:¬(¬((((We M'2 ke.result).own).take L.vars.length)=(O.own.take L.vars.length))):=Y6 (Yl dq) Zz
     refine ZI 11 16 [15,16,17,18,19] [2] (dx 20 (KL 4 wc6 ((We M'2 ke.result).tok) L.vars.length) (ZI 5 10 [21,22,23,24,25] [10] (dx 26 (KL 12 uc O.tok L.vars.length) (Z9 27 (Tb 27 [4,11] [] [] [rV wc6 ((We M'2 ke.result).tok),rV uc O.tok] (CD (((We M'2 ke.result).tok).take L.vars.length) (O.tok.take L.vars.length)) CY (gC (v:=wc6) (ys:=(We M'2 ke.result).tok) 0 L.vars.length (gC (v:=uc) (ys:=O.tok) 1 L.vars.length gN)) (Uq (Uq Tf)) ?_)))))
     rintro _ _ ⟨rfl,rfl⟩
     exact Zh 0 3 [28,29,30] (de (wk [2,2,2,2,0,1,1,1,1,1,1,1,0,0] (Zt (!(decide ((((We M'2 ke.result).tok).take L.vars.length)=(O.tok.take L.vars.length)))) Zz fl)))
    refine ac ((!(decide ((((We M'2 ke.result).own).take L.vars.length)=(O.own.take L.vars.length))))||(!(decide ((((We M'2 ke.result).tok).take L.vars.length)=(O.tok.take L.vars.length))))) (p:=(¬((((We M'2 ke.result).own).take L.vars.length)=(O.own.take L.vars.length)))∨(¬((((We M'2 ke.result).tok).take L.vars.length)=(O.tok.take L.vars.length)))) (Yh (Yl dq) (Yl dq)) (fun VU=>?_) (fun VU=>?_)
    ·exact ar (Zo (r1 [] (.inr ⟨rfl,rfl,(by rw [hgo,d0_1];exact EJ (by rw [<-d0_3,EF hke,hB];exact Z0n (VU.imp (fun h g=>h g.symm) (fun h g=>h g.symm))))⟩)))
    exact ak (az (ZJ k (Z0 (ZK (.inr ⟨k+1,c0,ua,ub,uc,O,aO,om,d0_1,d0_2,(by rw [EF hke,hB,Z0o (fun z=>VU (z.imp (fun h g=>h g.symm) (fun h g=>h g.symm)))] at d0_3;exact d0_3),rfl,rfl,rfl⟩) (wk [10,10,1,9,4,4,4,4,5] (fr (ZM k fl)))))))
   have hB:=UH
   rw [<-Hy (f:=Ug L.vars.length ke.result) hP,hE,<-JT] at hB
   exact Z0 (W6 (ar (Zo (r1 [] (.inr ⟨rfl,rfl,(by rw [hgo,d0_1];exact EJ (by rw [<-d0_3,EF hke,hB];rfl))⟩)))))
  have hB:Vp n ln (VM n.decls L s.op s.num s.args k) L.vars.length ke=none:=by rw [JT,<-hE,WY];rfl
  exact Z0 (W6 (ar (Zo (r1 [] (.inr ⟨rfl,rfl,(by rw [hgo,d0_1];exact EJ (by rw [<-d0_3,EF hke,hB];rfl))⟩)))))
 refine ax 0 (aD 22 (ZI 15 22 [0,1,2,3,4,5,6] [0] (dx 7 (KL 2 ub O.own L.vars.length) (ZI 9 14 [9,10,11,12,13] [0] (dx 14 (KL 3 uc O.tok L.vars.length) (Z9 8 (Tb 8 [2] [0] [c0] [rV ub O.own] (Ec (O.own.take L.vars.length)) JW (gC (v:=ub) (ys:=O.own) 0 L.vars.length gN) (Uq Tf) ?_)))))))
 rintro _ _ ⟨v2,rfl,rfl⟩
 refine Z9 15 (Tb 15 [4] [] [] [rV uc O.tok] (Ec (O.tok.take L.vars.length)) JW (gC (v:=uc) (ys:=O.tok) 0 L.vars.length gN) (Uq Tf) ?_)
 rintro _ _ ⟨v3,rfl,rfl⟩
 exact Zh 4 6 [16,17] (Z9 18 (YO 18 6 [] [] b [ZP n.decls,YN n,Z4 ln,Xe am,.h ga,.h v2,.h gc] (Zh 1 3 [19,20] (Z9 21 (YO 21 0 [] [] b [ZP n.decls,YN n,Z4 ln,Xe am,.h ga,.h v2,.h v3] (de (ar (Zo (r1 [0,6,2,0] (.inl ⟨ga,v2,v3,(Zu.mk L.vars (O.own.take L.vars.length) L.par L.con L.fst (O.tok.take L.vars.length)),rfl,rfl,(by rw [hgo,d0_1];exact S0 (by rw [<-d0_3,Xj om];rfl))⟩) (eq:=(rc (rv (xs:=L.vars) ob (rv (xs:=(O.own.take L.vars.length)) ob (rv (xs:=(O.tok.take L.vars.length)) ob rz))))))))))))))
theorem Lu (n:Zm) (us:LI) (s:Z5) (hn:X4 n) (hty:KO n) (hnn:∀t∈us,0<=t) (hb:us.length+4*s.sz<=1000000000) (hr:s.rng):Zj 127 [.agg [ZP n.decls,YN n],Z4 us,YF s] [] (fun r h=>∃(t:Int),r=.tup [.i t,.b (decide (0<=Y2 n us s))]/\h=[]/\(¬Yx s.op=true->0<=Y2 n us s->t=Y2 n us s)):=
 R4 n us s hn hty hnn hb hr fun b us2 _ h2 h3 h4=>PW n us2 b hn hty h4 h2 h3
theorem Z4t (b:Nat) (ga:Hd) (gb:Hd) (gc:Hd) (n:Zm) (L:Vn) (ln:LI) (am:List X1) (s:Z5) (q:Int) (hn:X4 n:=by exact ob) (hty:KO n:=by exact ob) (hlt:C9 n:=by exact ob) (hk:Xd n.decls L q:=by exact ob) (har:V3 n.decls L am:=by exact ob) (hln:ln.length<=4294967296:=by exact ob) (ht:0<=Y2 n L.vars s:=by exact ob) (hnn:∀t∈L.vars,0<=t) (hb:L.vars.length+am.length+4*s.sz<=900000000:=by exact ob) (hq:0<=q/\q+4*s.sz<=999999980:=by exact ob) (hr:s.rng:=by exact ob) (ih:∀(ys:List Z5) (c:Nat) (ra:Hd) (rb:Hd) (rc:Hd) (M:Vn) (a2:List X1) (p:Int) (vs:LI),(Yf ys<s.sz)->(Xd n.decls M p)->(V3 n.decls M a2)->(Xp n ys M.vars=some vs)->(∀t∈M.vars,0<=t)->(M.vars.length+a2.length+4*Yf ys<=900000000)->(0<=p/\p+4*Yf ys<=999999980)->(TK ys)->Zj 124 [.p c 0,Vs ys] [.obj c [ZP n.decls,YN n,Z4 ln,Xe a2,.h ra,.h rb,.h rc],rV ra M.vars,rV rb M.own,rV rc M.tok] (fun r h=>(∃(wa:Hd) (wb:Hd) (wc:Hd) (M':Vn),r=.b true/\h=[.obj c [ZP n.decls,YN n,Z4 ln,Xe a2,.h wa,.h wb,.h wc],rV wa M'.vars,rV wb M'.own,rV wc M'.tok]/\Vz n ln M ys=some M')∨(r=.b false/\h=[]/\Vz n ln M ys=none))):Zj 177 [.p b 0,YF s] [.obj b [ZP n.decls,YN n,Z4 ln,Xe am,.h ga,.h gb,.h gc],rV ga L.vars,rV gb L.own,rV gc L.tok] (fun r h=>(∃(wa:Hd) (wb:Hd) (wc:Hd) (L':Vn),r=.b true/\h=[.obj b [ZP n.decls,YN n,Z4 ln,Xe am,.h wa,.h wb,.h wc],rV wa L'.vars,rV wb L'.own,rV wc L'.tok]/\UA n ln L s=some L')∨(r=.b false/\h=[]/\UA n ln L s=none)):=by
 have hlk:=hk.len
 obtain ⟨e1,e2,e3,e4,e5⟩:=hk.len
 have hf:=CF ht
 have hkz:=Te s
 have haz:=K6 s
 have hlh:=Ze8 hlt ht
 refine ZE 58 Tryz.func177 (ar (iA (Xx s) fun b1=>Z0 (aq (ab 0 (Zv 2 [0] (Zx [] (EB s.op) (YD (Yx s.op) Iff.rfl (fun Za=>?_) (fun Za=>?_))))))))
 ·obtain ⟨x,hxa⟩:=hf.one (.inr (.inr (by simpa [Yx] using Za)))
  have ha:s.args[0]? = some x:=by rw [hxa];rfl
  have hx:=hf.args x (by rw [hxa];simp)
  have hgx:=A3 ha
  have hal:=(Xq.1 ha).1
  refine aD 9 (ZI 4 9 [0,1,2,3,4] [0,0] (dx 5 (Zl none 0 1 (ZZ ha)) (Zh 2 3 [6] (Z9 7 (dc 7 [1,1,1,1] [] [] (Z4r b ga gb gc n L ln am s.op x q) ?_)))))
  rintro _ _ (⟨L'1,rfl,rfl,ZY⟩|⟨rfl,rfl,Yi⟩)
  ·exact Zh 0 1 [8] (de (ZB (r1 [0,0,0,0] (.inl ⟨ga,gb,gc,L'1,rfl,rfl,(by rw [Z2a Za hgx];exact ZY)⟩))))
  exact Zh 0 1 [8] (de (ZB (r1 [] (.inr ⟨rfl,rfl,(by rw [Z2a Za hgx];exact Yi)⟩))))
 refine ar (XD 8 [0,3] [(27,.b ((s.op==7)||(s.op==8)))] (fun gz=>gz) ?_ (fun hj1=>?_))
 ·refine YD ((s.op==7)||(s.op==8)) (p:=(s.op=7)∨(s.op=8)) (Yh Zq Zq) (fun Zg=>?_) (fun Zg=>?_)
  ·refine Zv 2 [0] (ic [1,1,1,1] (Z4p b ga gb gc n L ln am s q (hnn:=ob) (ih:=ih)) ?_)
   rintro _ _ (⟨wa1,wb1,wc1,L'2,rfl,rfl,YJ⟩|⟨rfl,rfl,YR⟩)
   ·have hP:=(Hb (n:=n) (ln:=ln) (L:=L) Zg).trans YJ
    obtain ⟨kx,hxv⟩:=BP hn hk hq.1 hf hP
    refine Z0 (WE (ak (aD 15 (ZI 6 15 [0,1,2,3,4,5,6,7,8] [0,0,4] (Z9 9 (Tb 9 [1] [] [] [rV wa1 L'2.vars] (Lu n L'2.vars s ob ob (by rw [hxv];exact hnn) (by rw [hxv];omega) ob) Ii (gS (gL (v:=wa1) 0 (gS gN))) (Uq Tf) ?_))))))
    rintro _ _ ⟨t1,rfl,rfl,Xk⟩
    rw [hxv] at Xk
    have hte:=Xk Za ht
    refine Zh 0 5 [10,11,12,13,14] (de (Y1 3 (iI t1 1 (ic [1,0,0,0] (CQ b wa1 wb1 wc1 n L'2 ln am t1 (min t1 1) (hlb:=(by rw [hxv];omega)) (hlk:=kx.len)) ?_))))
    rintro _ _ ⟨wa2,wb2,wc2,rfl⟩
    exact ie (ar (Zo (r1 [0,0,0,0] (.inl ⟨wa2,wb2,wc2,(L'2.grow t1 (min t1 1) (-1)),rfl,rfl,(MV hP ht Za hte)⟩))))
   have hP:=(Hb (n:=n) (ln:=ln) (L:=L) Zg).trans YR
   exact Z0 (W6 (ar (Zo (r1 [] (.inr ⟨rfl,rfl,(Z2b hP)⟩)))))
  refine Zv 2 [0] (Zx [] (PZ s.op) (YD (Ta s.op) Iff.rfl (fun ZD=>?_) (fun ZD=>?_)))
  ·refine Zv 2 [0] (ic [1,1,1,1] (Z4q b ga gb gc n L ln am s q (hlt:=hlh)) ?_)
   rintro _ _ (⟨L'3,rfl,rfl,XX⟩|⟨rfl,rfl,WA⟩)
   ·have hP:=(Mf (n:=n) (ln:=ln) (L:=L) Za Zg).trans XX
    obtain ⟨kx,hxv⟩:=BP hn hk hq.1 hf hP
    refine Z0 (WE (ak (aD 15 (ZI 6 15 [0,1,2,3,4,5,6,7,8] [0,0,4] (Z9 9 (Tb 9 [1] [] [] [rV ga L'3.vars] (Lu n L'3.vars s ob ob (by rw [hxv];exact hnn) (by rw [hxv];omega) ob) Ii (gS (gL (v:=ga) 0 (gS gN))) (Uq Tf) ?_))))))
    rintro _ _ ⟨t2,rfl,rfl,WY⟩
    rw [hxv] at WY
    have hte:=WY Za ht
    refine Zh 0 5 [10,11,12,13,14] (de (Y1 3 (iI t2 1 (ic [1,0,0,0] (CQ b ga gb gc n L'3 ln am t2 (min t2 1) (hlb:=(by rw [hxv];omega)) (hlk:=kx.len)) ?_))))
    rintro _ _ ⟨wa3,wb3,wc3,rfl⟩
    exact ie (ar (Zo (r1 [0,0,0,0] (.inl ⟨wa3,wb3,wc3,(L'3.grow t2 (min t2 1) (-1)),rfl,rfl,(MV hP ht Za hte)⟩))))
   have hP:=(Mf (n:=n) (ln:=ln) (L:=L) Za Zg).trans WA
   exact Z0 (W6 (ar (Zo (r1 [] (.inr ⟨rfl,rfl,(Z2b hP)⟩)))))
  have hP:=Zfq (ln:=ln) Za Zg ZD ht
  have hxv:L.vars=L.vars:=rfl
  have kx:=hk
  refine ak (aD 15 (ZI 6 15 [0,1,2,3,4,5,6,7,8] [1,1,0] (Z9 9 (Tb 9 [2] [] [] [rV ga L.vars] (Lu n L.vars s ob ob (by rw [hxv];exact hnn) (by rw [hxv];omega) ob) Ii (gS (gL (v:=ga) 0 (gS gN))) (Uq Tf) ?_))))
  rintro _ _ ⟨t3,rfl,rfl,Vr⟩
  rw [hxv] at Vr
  have hte:=Vr Za ht
  refine Zh 0 5 [10,11,12,13,14] (de (Y1 3 (iI t3 1 (ic [2,0,1,1] (CQ b ga gb gc n L ln am t3 (min t3 1) (hlb:=(by rw [hxv];omega)) (hlk:=kx.len)) ?_))))
  rintro _ _ ⟨wa4,wb4,wc4,rfl⟩
  exact ie (ar (Zo (r1 [0,0,0,0] (.inl ⟨wa4,wb4,wc4,(L.grow t3 (min t3 1) (-1)),rfl,rfl,(MV hP ht Za hte)⟩))))
 refine ZL 4 [0] (ib (b:=(s.op==7)) 23 (fun Zb=>?_) (fun Zb=>?_))
 ·have UH:s.op=7:=(Zq).1 Zb
  exact Z2 4 (Yp (ZG 5 (Zt true Zb fl)) hj1)
 have T0:¬(s.op=7):=Y6 Zq Zb
 exact ZL 4 [0] (Yp (ZG 5 (Zt (s.op==8) Zb fl)) hj1)
theorem Z4w (n:Zm) (ln:LI) (hn:X4 n) (hty:KO n) (hlt:C9 n) (hln:ln.length<=4294967296) (m:Nat):∀(ys:List Z5) (c:Nat) (ra:Hd) (rb:Hd) (rc:Hd) (M:Vn) (a2:List X1) (p:Int) (vs:LI),(Yf ys<m)->(Xd n.decls M p)->(V3 n.decls M a2)->(Xp n ys M.vars=some vs)->(∀t∈M.vars,0<=t)->(M.vars.length+a2.length+4*Yf ys<=900000000)->(0<=p/\p+4*Yf ys<=999999980)->(TK ys)->Zj 124 [.p c 0,Vs ys] [.obj c [ZP n.decls,YN n,Z4 ln,Xe a2,.h ra,.h rb,.h rc],rV ra M.vars,rV rb M.own,rV rc M.tok] (fun r h=>(∃(wa:Hd) (wb:Hd) (wc:Hd) (M':Vn),r=.b true/\h=[.obj c [ZP n.decls,YN n,Z4 ln,Xe a2,.h wa,.h wb,.h wc],rV wa M'.vars,rV wb M'.own,rV wc M'.tok]/\Vz n ln M ys=some M')∨(r=.b false/\h=[]/\Vz n ln M ys=none)):=by
 induction m with
 | zero=>intro ys c ra rb rc M a2 p vs h;omega
 | succ m ih=>
  intro ys c ra rb rc M a2 p vs h hk har ht hnn hb hp hr
  exact Z4v c ra rb rc n M ln a2 ys p vs hn hk har ht hnn hb hp hr fun s2 c ra rb rc M a2 p h1 hk har ht hnn hb hp hr=>Z4t c ra rb rc n M ln a2 s2 p hn hty hlt hk har hln ht hnn hb hp hr
   fun ys c ra rb rc M a2 p vs h2 hk har ht hnn hb hp hr=>ih ys c ra rb rc M a2 p vs om hk har ht hnn hb hp hr
theorem Z4u (c:Nat) (ra:Hd) (rb:Hd) (rc:Hd) (n:Zm) (M:Vn) (ln:LI) (a2:List X1) (ys:List Z5) (p:Int) (vs:LI) (hn:X4 n) (hty:KO n) (hlt:C9 n) (hln:ln.length<=4294967296) (hk:Xd n.decls M p) (har:V3 n.decls M a2) (ht:Xp n ys M.vars=some vs) (hnn:∀t∈M.vars,0<=t) (hb:M.vars.length+a2.length+4*Yf ys<=900000000) (hp:0<=p/\p+4*Yf ys<=999999980) (hr:TK ys):Zj 124 [.p c 0,Vs ys] [.obj c [ZP n.decls,YN n,Z4 ln,Xe a2,.h ra,.h rb,.h rc],rV ra M.vars,rV rb M.own,rV rc M.tok] (fun r h=>(∃(wa:Hd) (wb:Hd) (wc:Hd) (M':Vn),r=.b true/\h=[.obj c [ZP n.decls,YN n,Z4 ln,Xe a2,.h wa,.h wb,.h wc],rV wa M'.vars,rV wb M'.own,rV wc M'.tok]/\Vz n ln M ys=some M')∨(r=.b false/\h=[]/\Vz n ln M ys=none)):=
 Z4w n ln hn hty hlt hln (Yf ys+1) ys c ra rb rc M a2 p vs om hk har ht hnn hb hp hr
theorem R1 (n:Zm) (hz:V4 n) (hs:Vy n=true):Zj 43 [Yr n] [] (Yn (.tup [.agg [ZP n.decls,YN n],.b (Vy n)])):=by
 refine (R0 n hz).mono fun r h q=>?_
 rcases q with ⟨h1,h2,_⟩|⟨_,_,h3⟩
 ·exact ⟨h1,h2⟩
 ·rw [hs] at h3;cases h3
theorem Z4s (n:Zm) (f:Nat) (rt:Yc) (hn:X4 n:=by exact ob) (hz:V4 n:=by exact ob) (hs:Vy n=true:=by exact ob) (hr:n.routines[f]? = some rt:=by exact ob):Zj 123 [Yr n,.i f] [] (fun r h=>∃(c:Nat) (wa:Hd) (wb:Hd) (wc:Hd),r=.p c 0/\h=[.obj c [ZP n.decls,YN n,Z4 rt.lent,Xe [],.h wa,.h wb,.h wc],rV wa ((UI rt).vars),rV wb ((UI rt).own),rV wc ((UI rt).tok)]):=by
 have hfl:=(Xq.1 hr).1
 have hpl:=hn.params_at hr
 have hll:=hn.lent_at hr
 refine ZE 58 Tryz.func123 (ar (iA (YZ n) fun b1=>Z0 (Zv 1 [0] (Zx [] (R1 n ob ob) (Z2 3 (iA [nl,nl] fun b2=>ZH 0 b2 [ZP n.decls,YN n] (Z0 (aD 10 (ZI 6 10 [0,1,2,3] [0,1] (dx 4 (Zl none (f:Int) 5 (WR hr)) (Zh 2 5 [5,6,7] (Z9 8 (dA 8 [] [] [ZP n.decls,YN n,Z4 rt.lent,nl,nl,nl,nl] fun b3=>?_)))))))))))))
 refine Jp (Z2i 0 b3 [ZP n.decls,YN n,Z4 rt.lent,nl,nl,nl,nl] [ZP n.decls,YN n,Z4 rt.lent,Xe [],.h hN,.h hN,.h hN] (.cons (lr _) (.cons (lr _) (.cons (lr _) (.cons (Zc.sl _ rfl) (.cons (Zc.hd (v:=hN)) (.cons (Zc.hd (v:=hN)) (.cons (Zc.hd (v:=hN)) .nil)))))))) (Jp (JJ) (Jp (JJ) (Jp (JJ) (Zh 0 1 [9] (de (Yk 3 [5] (Zp (Zl none (f:Int) 5 (WR hr)) (Z2 2 (iw (Ya rt.params) (Z0 (ab 0 (Y4 (fun fz gz m F h=>∃(k:Nat) (L2:Vn) (ka:Hd) (kb:Hd) (kc:Hd),(k<=rt.params.length)/\(WH L2)/\(L2.vars.length=k)/\(KD rt.lent (rt.params.drop k) k L2=UI rt)/\F=sF [7,29,30] fz [(31,.i k)]/\h=[.obj b3 [ZP n.decls,YN n,Z4 rt.lent,Xe [],.h ka,.h kb,.h kc],rV ka L2.vars,rV kb L2.own,rV kc L2.tok]/\m=rt.params.length-k) _ _ _ ⟨0,(Zu.mk [] [] [] [] [] []),hN,hN,hN,ob,⟨rfl,rfl,rfl,rfl,rfl⟩,rfl,rfl,rfl,rfl,rfl⟩ (wk [3,0,0,0] (Yb fl) (e:=(rc (rv (xs:=[]) ob (rv (xs:=[]) ob (rv (xs:=[]) ob rz)))))) ?_))))))))))))
 rintro m F h ⟨k,L2,ka,kb,kc,Ye,Zk,Zw,Yy,rfl,rfl,rfl⟩
 refine Zy (aq (XB ((k:Int)<(rt.params.length:Int)) (fun Za=>?_) (fun Za=>?_)))
 ·refine ak (aq (ab 1 (Y1 1 ?_)))
  obtain ⟨x1,Z3⟩:=Zs rt.params k om
  have hgl:(L2.grow x1 0 (-1)).own.length=k+1:=by simp [Zu.grow,Zk.own,Zw]
  refine Zp (Zl none (k:Int) 1 (ZZ Z3)) (Z0 (Y1 2 (ic [0,0,0,0] (CQ b3 ka kb kc n L2 rt.lent [] x1 0) ?_)))
  rintro _ _ ⟨wa1,wb1,wc1,rfl⟩
  refine ie (ar (Xv [7,8,29,30,31] [(49,.b ((x1 != 0)&&(!(decide ((k:Int)∈rt.lent)))))] (fun gz=>gz) ?_ ?_))
  ·refine Z2 3 (ib (b:=(x1 != 0)) 41 (fun Zb=>?_) (fun Zb=>?_))
   ·have ZY:x1≠0:=(Y3).1 Zb
    exact ZL 5 [0] (Zx [] (MI rt.lent (k:Int)) (Z0 (ZG 4 (Zt (!(decide ((k:Int)∈rt.lent))) Zb fl))))
   have Yi:¬(x1≠0):=Y6 Y3 Zb
   exact Z0 (ZG 4 (Zt false Zb fl))
  refine ac ((x1 != 0)&&(!(decide ((k:Int)∈rt.lent)))) (p:=(x1≠0)/\(¬((k:Int)∈rt.lent))) (YK Y3 (Yl dq)) (fun Zg=>?_) (fun Zg=>?_)
  ·exact az (ZL 5 [0] (Zp (Wg 2 wb1 ((L2.grow x1 0 (-1)).own) (k:Int) k) (Cs 2 wb1 ((L2.grow x1 0 (-1)).own) k 1 (ie (az (ZJ k (Z0 (ZK ⟨k+1,(L2.grow x1 1 (-1)),wa1,wb1,wc1,ob,(WH.grow Zk),(by simp [Zu.grow];omega),(by rw [Y5 Z3,KD] at Yy;first|(rw [Ze (by assumption)] at Yy;exact Yy)|(rw [Z7 (by assumption)] at Yy;exact Yy)),rfl,rfl,rfl⟩ (wk [1,1,0,0] (ZM k fl) (e:=(rc (rv (xs:=(L2.grow x1 0 (-1)).vars) (by first|rfl|exact MD (by rw [Zk.own,Zw])) (rv (xs:=(((L2.grow x1 0 (-1)).own).set k 1)) (by first|rfl|exact MD (by rw [Zk.own,Zw])) (rv (xs:=(L2.grow x1 0 (-1)).tok) (by first|rfl|exact MD (by rw [Zk.own,Zw])) rz))))))))))))))
  exact ak (az (ZJ k (Z0 (ZK ⟨k+1,(L2.grow x1 0 (-1)),wa1,wb1,wc1,ob,(WH.grow Zk),(by simp [Zu.grow];omega),(by rw [Y5 Z3,KD] at Yy;first|(rw [Ze (by assumption)] at Yy;exact Yy)|(rw [Z7 (by assumption)] at Yy;exact Yy)),rfl,rfl,rfl⟩ (ZG 4 (ZM k fl))))))
 refine ax 0 (Zy ?_)
 have hNl:L2=UI rt:=by rw [<-Yy,Xj om];rfl
 exact ZB (r1 [0,0,0,0] ⟨b3,ka,kb,kc,rfl,rfl⟩ (eq:=(rc (rv (xs:=L2.vars) (by rw [hNl]) (rv (xs:=L2.own) (by rw [hNl]) (rv (xs:=L2.tok) (by rw [hNl]) rz))))))
theorem Zc0 (n:Zm) (f:Nat) (rt:Yc) (hn:X4 n:=by exact ob) (hty:KO n:=by exact ob) (hlt:C9 n:=by exact ob) (hz:V4 n:=by exact ob) (hs:Vy n=true:=by exact ob) (hr:n.routines[f]? = some rt:=by exact ob) (ht:0<=YT n rt.params rt.body:=by exact ob) (hrr:rt.body.rng:=by exact ob):Zj 65 [Yr n,.i f] [] (Yn (.b (Kk n rt))):=by
 have hfl:=(Xq.1 hr).1
 have hpl:=hn.params_at hr
 have hll:=hn.lent_at hr
 have hrm:=Y0 hr
 have hbd:=hz.body rt hrm
 have hbz:=rt.body.sz_eq
 obtain ⟨hk,hkv⟩:=LZ n.decls rt
 obtain ⟨vs,t0,hvs,hres,hrt⟩:=CT ht
 have hri:=KS hres
 have hsl:=Hw hvs
 rw [rt.body.rng_eq] at hrr
 refine ZE 25 Tryz.func65 (ar (iA (YZ n) fun b1=>Z0 (Zv 2 [0] (ic [] (Z4s n f rt) ?_))))
 rintro _ _ ⟨c1,wa1,wb1,wc1,rfl,rfl⟩
 refine Z0 (Zv 3 [4] (Zp (Zl none (f:Int) 5 (WR hr)) (Z2 2 (iA [nl,.i 0] fun b2=>ZH 0 b2 (Xs rt.body) (ie (Zv 3 [0] (ic [1,1,1,1] (Z4u c1 wa1 wb1 wc1 n (UI rt) rt.lent [] rt.body.steps 1 vs ob ob ob ob hk (S6 rt) (by rw [hkv];exact hvs) (by rw [hkv];exact hty.params rt hrm) (by rw [hkv,XJ];omega) ob ob) ?_)))))))
 rintro _ _ (⟨wa2,wb2,wc2,M'1,rfl,rfl,ZY⟩|⟨rfl,rfl,Yi⟩)
 ·have hP:=ZY
  have kx:=Hx hn hk om (S6 rt) (by rw [hkv];exact hvs) hP
  have kl:=kx.1.len
  refine ZL 3 [4] (ic [0,0,0,0] (I7 c1 wa2 wb2 wc2 n M'1 rt.lent [] rt.body 0 (hlk:=kl) (hlb:=(by rw [kx.2.1];omega)) (hr:=(by rw [kx.2.1];omega)) (hq:=(fun y hy=>by have h1:=kx.1.nn y hy;have h2:=kx.1.bd y hy;omega))) ?_)
  rintro _ _ (⟨rfl,rfl,YJ⟩|⟨rfl,rfl,YR⟩)
  ·have hB:=YJ
   exact Zo (ZU (.b true) (lb (by rw [Z06 hP (by rw [kl.own,kl.tok]),hB];rfl)))
  have hB:=YR
  exact Zo (ZU (.b false) (lb (by rw [Z06 hP (by rw [kl.own,kl.tok]),hB];rfl)))
 have hP:=Yi
 exact Zo (ZU (.b false) (lb (by rw [Zgl hP])))
theorem Zbu (n:Zm) (hz:V4 n:=by exact ob) (hr:∀r∈n.routines,r.body.rng):Zj 23 [Yr n] [] (Yn (.b (US n))):=by
 have hzl:=hz.len
 refine ZE 18 Tryz.func23 (ar (iA (YZ n) fun b1=>Z0 (Yk 1 [0] (Zx [] (PT n (hr:=hr)) (YD (!WC n) (p:=¬(WC n=true)) (Yl Iff.rfl) (fun Za=>?_) (fun Za=>?_))))))
 ·exact ar (Zo (ZU (.b false) (lb (by first|rfl|omega|grind [US]))))
 have hV:WC n=true:=Wa.1 Za
 obtain ⟨hok,hall⟩:=Fs hz hV
 have hsg:Vy n=true:=by rw [WC,W5] at hV;exact hV.1
 have hty:=Sb hsg
 have hlt:=Zew hsg
 refine ak (Yk 2 [0] (iw (U9 n.routines) (Z0 (ab 0 (Y4 (fun fz gz m F h=>∃(k:Nat),(k<=n.routines.length)/\(Jn n (n.routines.drop k)=Jn n n.routines)/\F=sF [1,9] fz [(10,.i k)]/\h=gz/\m=n.routines.length-k) _ _ _ ⟨0,ob,ob,rfl,rfl,rfl⟩ (wk [0] (Yb fl)) ?_)))))
 rintro m F h ⟨k,Ye,Zk,rfl,rfl,rfl⟩
 refine Zy (aq (XB ((k:Int)<(n.routines.length:Int)) (fun Zg=>?_) (fun Zg=>?_)))
 ·obtain ⟨rt,hrt⟩:=Zs n.routines k om
  have hrm:=Y0 hrt
  refine ak (aq (ab 1 (Zy (Zv 2 [0] (Zx [] (Zc0 n k rt (hr:=hrt) (ht:=(hall rt hrm)) (hrr:=(hr rt hrm))) (YD (!Kk n rt) (p:=¬(Kk n rt=true)) (Yl Iff.rfl) (fun ZD=>?_) (fun ZD=>?_)))))))
  ·refine Zy ?_
   rw [Y5 hrt] at Zk
   exact ZB (ZU (.b false) (lb (by first|rfl|omega|grind [Jn,US])))
  refine ak (az (ZJ k (Z0 ?_)))
  have hdr:=Y5 hrt
  exact ZK ⟨k+1,ob,(by rw [hdr] at Zk;clear hdr ;grind [Jn]),rfl,rfl,rfl⟩ (wk [0] (ZM k fl))
 refine ax 0 (Zy ?_)
 try rw [Xj (xs:=n.routines) (k:=k) om] at Zk
 exact ZB (ZU (.b true) (lb (by first|rfl|omega|grind [Jn,US])))
theorem PY (op:Int) (v:Int) :Zj 120 [.i op,.i v] [] (fun r h=>∃(u:Value),r=.agg [.i op,.i 0,.i 0,ZQ [v] u,BK [] (.slice none 0 0)]/\h=[.tail u 1]):=by
 exact ZE 9 Tryz.func120 (ar (iA [.i 0,.i 0,.i 0,nl,nl] fun b1=>ie (Y1 2 (iL (Z8 [v]) 1 1 fun v1=>Z2 1 (ZH 1 b1 [.i op,.i 0,.i 0,ZQ [v] v1,nl] (ie (ZB (r3 [1] [.agg [.i op,.i 0,.i 0,ZQ [v] v1,nl]] [0] [(b1,b1)] ⟨v1,rfl,rfl⟩ (Zc.agg (.cons (lr _) (.cons (lr _) (.cons (lr _) (.cons (lr _) (.cons (Zc.slh _ (by first|rfl|(subst_vars;rfl))) .nil))))))))))))))
theorem Zcn (s:Z5) (ys:List XG) (kv:Value) (hl:s.args.length<=4294967296:=by exact ob):Zj 100 [YF s,BK ys kv] [] (fun r h=>∃(u:Value),r=.agg [.i s.op,.i s.num,.i s.into,ZQ s.args u,BK ys kv]/\h=[.tail u 1]):=by
 refine ZE 12 Tryz.func100 (ar (iA (Xx s) fun b1=>iA [.i 0,.i 0,.i 0,nl,nl] fun b2=>ie (Zv 2 [1] (ic [] (Eb s.args) ?_))))
 rintro _ _ ⟨v1,rfl,rfl⟩
 exact Z2 2 (ZH 2 b1 [.i s.op,.i s.num,.i s.into,ZQ s.args v1,Wf s.kids] (Z2 1 (ZH 0 b1 [.i s.op,.i s.num,.i s.into,ZQ s.args v1,BK ys kv] (ie (Zv 1 [0] (ZH 2 b2 [.i s.op,.i s.num,.i s.into,ZQ s.args v1,BK ys kv] (ie (ZB (r3 [2] [.agg [.i s.op,.i s.num,.i s.into,ZQ s.args v1,BK ys kv]] [0] [(b2,b2)] ⟨v1,rfl,rfl⟩ (lr _))))))))))
theorem Z5n (ds:List Zf) (hl_ds:ds.length<=4294967296:=by exact ob):Zj 161 [ZP ds] [] (fun r h=>∃(v:Hd),r=.h v/\h=[rK v 3 (Zi (YB ds))]):=by
 refine ZE 8 Tryz.func161 (Zy (YP 1 (iN (YB ds) (fun hz1=>?_) ?_)))
 ·have hz1:=Z7s hz1
  refine ie (W6 (Zy (T6 (HA (k:=3)) ?_)))
  subst hz1
  exact ZB (r2 [0] [nl] ⟨hN,rfl,rfl⟩ (Zc.hd (v:=hN)) (eq:=(rr (ls:=[]) rfl rz)))
 exact ie (WE (ak (ar (Dn 3 fun g1=>Z2 1 (Gx 0 g1 3 (YB ds) none (KX _) (by simp<;>omega) fun v1=>Zo (r1 [0] ⟨v1,rfl,rfl⟩))))))
theorem Z5m (cs:List Yg) (hl_cs:cs.length<=4294967296:=by exact ob):Zj 162 [J7 cs] [] (fun r h=>∃(v:Hd),r=.h v/\h=[rK v 1 (Zi (XR cs))]):=by
 refine ZE 8 Tryz.func162 (Zy (YP 1 (iN (XR cs) (fun hz1=>?_) ?_)))
 ·have hz1:=Z7p hz1
  refine ie (W6 (Zy (T6 (HA (k:=1)) ?_)))
  subst hz1
  exact ZB (r2 [0] [nl] ⟨hN,rfl,rfl⟩ (Zc.hd (v:=hN)) (eq:=(rr (ls:=[]) rfl rz)))
 exact ie (WE (ak (ar (Dn 1 fun g1=>Z2 1 (Gx 0 g1 1 (XR cs) none (Ej _) (by simp<;>omega) fun v1=>Zo (r1 [0] ⟨v1,rfl,rfl⟩))))))
theorem Zc3 (ds:List Zf) (hd:Wu ds:=by exact ob):Zj 96 [ZP ds] [] (fun r h=>∃(ys:List Vm) (w:Value),r=Cy ys w/\h=[.many (VV ys),.tail w 3]/\ys.map Vm.er=ds):=by
 have hdl:=hd.len
 refine ZE 46 Tryz.func96 (Zy (Y1 1 (ic [] (Z5n ds) ?_)))
 rintro _ _ ⟨v1,rfl,rfl⟩
 refine Z0 (YP 1 (Zp (Rl 0 ds.length v1 3 (Zi (YB ds)) (by rw [P9])) (Z0 (ab 0 (T6 (tB [] [] [] (VV []) (by simp [Qu,Qp,QM,QN,QO,QP,QL,Vh,WK,Qt,Vg,U1,VV,U2,Qq,Qr,Qs,Td])) (Y4 (fun fz gz m F h=>∃(k:Nat) (v:Hd) (ys:List Vm),(k<=ds.length)/\(ys.map Vm.er=ds.take k)/\(ys.length=k)/\F=sF [11] fz [(3,.h v),(10,.h v),(12,.i k)]/\h=[rK v 3 (Zi (Vw ys++YB (ds.drop k))),.many (VV ys)]/\m=ds.length-k) _ _ _ ⟨0,v1,[],ob,rfl,rfl,rfl,rfl,rfl⟩ (wk [1,0] (fw (Yb fl)) (e:=(rr (ls:=Zi (YB ds)) (by rfl) (rc rz)))) ?_))))))
 rintro m F h ⟨k,v,ys,Ye,Zk,Zw,rfl,rfl,rfl⟩
 refine Zy (aq (XB ((k:Int)<(ds.length:Int)) (fun Za=>?_) (fun Za=>?_)))
 ·obtain ⟨x1,Z3⟩:=Zs ds k om
  have hcl:=hd.cons_at Z3
  refine Ri 0 ds.length (v:=v) (Z09 Zw Ye) om (fun g1 c1 he1=>?_)
  subst he1
  refine ak (aq (ab 1 (Y1 1 (Zp (Ws g1 ds.length c1 k 3 (k:Int)) (V7 (Vx 0 g1 ds.length c1 3 (k*3) (Zi (Vw ys++YB (ds.drop k))) (TZ x1) 121 (AM x1) (by rw [Z0a Z3];exact Mt (by rw [Cm,Zw]))) (iA [.i 0,.i 0,nl] fun b1=>Z2 1 (ZH 0 b1 (TZ x1) (ie (Zv 4 [0] (ic [] (Z5m x1.cons) ?_))))))))))
  rintro _ _ ⟨v2,rfl,rfl⟩
  refine Zp (Ws g1 ds.length c1 k 3 (k:Int)) (Z2 1 (EA 2 g1 ds.length c1 3 (k*3+2) [.h v2] (Zi (Vw ys++YB (ds.drop k))) (Zi (Vw ys)++([.i x1.frm,.i x1.to_,.h v2]++Zi (YB (ds.drop (k+1))))) (by rw [Z09 Zw Ye];simp;omega) (by rw [Z0a Z3];exact Zgs (by rw [Cm,Zw])) (ie (Zv 2 [2] (iw (Uo x1.cons) (Z0 (ab 2 (T6 (tB [] [] [] (U1 []) (by simp [Qu,Qp,QM,QN,QO,QP,QL,Vh,WK,Qt,Vg,U1,VV,U2,Qq,Qr,Qs,Td])) (Y4 (fun fz gz m F h=>∃(j:Nat) (u:Hd) (zs:List VC),(j<=x1.cons.length)/\(zs.map VC.er=x1.cons.take j)/\(zs.length=j)/\F=sF [3,4,10,11,12,25,26] fz [(27,.i j)]/\h=[Zd gz 4,rK u 1 (Zi (Up zs++XR (x1.cons.drop j))),.row (.slice (some ⟨g1,0,none⟩) ds.length c1) 3 (Zi (Vw ys)++([.i x1.frm,.i x1.to_,.h u]++Zi (YB (ds.drop (k+1))))),.many (U1 zs)]/\m=x1.cons.length-j) _ _ _ ⟨0,v2,[],ob,rfl,rfl,rfl,rfl,rfl⟩ (wk [4,2,1,0] (Yb fl) (e:=(rc (rr (ls:=Zi (XR x1.cons)) (by rfl) (rc (rc rz)))))) ?_)))))))))
  rintro m F h ⟨j,u,zs,U7,XO,XP,rfl,rfl,rfl⟩
  refine Zy (aq (XB ((j:Int)<(x1.cons.length:Int)) (fun Zg=>?_) (fun Zg=>?_)))
  ·obtain ⟨x2,Zr⟩:=Zs x1.cons j om
   have hfl:=hd.fields_at Z3 Zr
   refine Ri 1 x1.cons.length (v:=u) (Z08 XP U7) om (fun g2 c2 he2=>?_)
   subst he2
   refine ak (aq (ab 3 (Y1 1 (Zp (Zl none (j:Int) 1 (AU Zr)) (Z2 1 (iA [nl] fun b2=>Z2 1 (ZH 0 b2 (Ds x2) (ie (aE 12 (Zh 10 12 [0,1] (dx 2 (Ws g1 ds.length c1 k 3 (k:Int)) (Zh 8 9 [3] (Ue 4 (Vx 3 g1 ds.length c1 3 (k*3+2) (Zi (Vw ys)++([.i x1.frm,.i x1.to_,.h ⟨some ⟨g2,0,none⟩,x1.cons.length,c2⟩]++Zi (YB (ds.drop (k+1))))) [.h ⟨some ⟨g2,0,none⟩,x1.cons.length,c2⟩] 119 (.ms g2 0 x1.cons.length c2) (Zgt (by rw [Cm,Zw]))) (ZI 4 7 [5,6,7] [0] (Z9 8 (dc 8 [] [2] [g1] (Eb x2.fields) ?_))))))))))))))))
   rintro _ _ ⟨v3,rfl,rfl⟩
   exact dx 9 (Ws g2 x1.cons.length c2 j 1 (j:Int)) (Zh 1 2 [10] (Z9 11 (Ce 11 3 [] [] g2 x1.cons.length c2 1 (j*1) [ZQ x2.fields v3] (Zi (Up zs++XR (x1.cons.drop j))) (Zi (Up zs)++([ZQ x2.fields v3]++Zi (XR (x1.cons.drop (j+1))))) (by rw [Z08 XP U7];simp;omega) (by rw [Zgp Zr];exact F6 (by rw [Pa,XP,K4]) rfl) (Jp (tB [5,1] [.many (U1 zs),.tail v3 1] (U1 zs++((v3,1)::[])) (U1 (zs++[VC.mk x2.fields v3])) (by simp [Qu,Qp,QM,QN,QO,QP,QL,Vh,WK,Qt,Vg,U1,VV,U2,Qq,Qr,Qs,Td])) (de (az (ZJ j (Z0 (ZK ⟨j+1,⟨some ⟨g2,0,none⟩,x1.cons.length,c2⟩,(zs++[VC.mk x2.fields v3]),ob,(by rw [List.map_append,XO,V1 Zr];rfl),(by simp [XP]),rfl,rfl,rfl⟩ (wk [3,1,2,0] (ZM j fl) (e:=(rc (rr (ls:=(Zi (Up zs)++([ZQ x2.fields v3]++Zi (XR (x1.cons.drop (j+1)))))) Zgo (rr (ls:=(Zi (Vw ys)++([.i x1.frm,.i x1.to_,.h ⟨some ⟨g2,0,none⟩,x1.cons.length,c2⟩]++Zi (YB (ds.drop (k+1)))))) ob (rc rz)))))))))))))))
  refine T6 (DO 1 u.v 1 (Zi (Up zs++XR (x1.cons.drop j))) (Zi (Up zs)) (Zgn om)) (T6 (Zkb 0 1 (k*3+2) u.v (.slice (some ⟨g1,0,none⟩) ds.length c1) 1 3 (Up zs) (Zi (Vw ys)++([.i x1.frm,.i x1.to_,.h u]++Zi (YB (ds.drop (k+1))))) (OI _) (by rw [Bl (by rw [Cm];omega),Cm,Zw];simp)) ?_)
  exact T6 (DO 0 (.slice (some ⟨g1,0,none⟩) ds.length c1) 3 (List.set ((Zi (Vw ys)++([.i x1.frm,.i x1.to_,.h u]++Zi (YB (ds.drop (k+1))))):List AV) (k*3+2) (EP zs u.v)) (Zi (Vw ys)++([.i x1.frm,.i x1.to_,EP zs u.v]++Zi (YB (ds.drop (k+1))))) (Zgu (by rw [Cm,Zw]))) (T6 (tB [2,2,1] [.many (VV ys),.many (U1 zs),.tail u.v 1] (VV ys++(U1 zs++((u.v,1)::[]))) (VV (ys++[Vm.mk x1.frm x1.to_ zs u.v])) (by simp [Qu,Qp,QM,QN,QO,QP,QL,Vh,WK,Qt,Vg,U1,VV,U2,Qq,Qr,Qs,Td])) (ax 2 (az (ZJ k (Z0 (ZK ⟨k+1,(⟨some ⟨g1,0,none⟩,ds.length,c1⟩:Hd),(ys++[Vm.mk x1.frm x1.to_ zs u.v]),ob,(by rw [List.map_append,Zk,V1 Z3,Z3c (XO.trans (VA om))]),(by simp [Zw]),rfl,rfl,rfl⟩ (wk [1,0] (fw (ZM k fl)) (e:=(rr (ls:=(Zi (Vw ys)++([.i x1.frm,.i x1.to_,EP zs u.v]++Zi (YB (ds.drop (k+1)))))) Zgr (rc rz))))))))))
 exact ax 0 (Zy (T6 (DO 0 v.v 3 (Zi (Vw ys++YB (ds.drop k))) (Zi (Vw ys)) (Zgq om)) (Rk 2 0 (v:=v) (Vw ys) (OJ _) (ZB (r1 [1,0] ⟨ys,v.v,rfl,rfl,(by rw [Zk,VA om])⟩)))))
theorem Zc9 (n:Zm) (hl:n.routines.length<=4194304) (hb:∀r∈n.routines,r.body.sz<=1000000000):Zj 61 [Yr n] [] (Yn (.b (KZ n))):=by
 refine ZE 17 Tryz.func61 (ar (iA (YZ n) fun b1=>?_))
 refine Z0 (Yk 2 [0] (iw (U9 n.routines) (Z0 (ab 0 (Y4 (fun fz gz m F h=>∃(k:Nat),(k<=n.routines.length)/\(J0 (n.routines.drop k)=J0 n.routines)/\F=sF [6,7] fz [(8,.i k)]/\h=[]/\m=n.routines.length-k) _ _ _ ⟨0,ob,ob,rfl,rfl,rfl⟩ (wk [] (Yb fl)) ?_)))))
 rintro m F h ⟨k,Ye,Zk,rfl,rfl,rfl⟩
 refine Zy (aq (XB ((k:Int)<(n.routines.length:Int)) (fun Za=>?_) (fun Za=>?_)))
 ·refine ak (aq (ab 1 (ar ?_)))
  obtain ⟨x1,Z3⟩:=Zs n.routines k om
  refine Zp (Zl none (k:Int) 5 (WR Z3)) (Z2 1 (iA [nl,nl,.i 0,nl,.i 0] fun b2=>ZH 0 b2 (TG x1) (ie (Zv 2 [0] (Zx [] (PS x1.body (hb:=(hb _ (Y0 Z3)))) (Y9 ((UB x1.body)<0) (fun Zg=>?_) (fun Zg=>?_)))))))
  ·refine Zy ?_
   rw [Y5 Z3] at Zk
   exact ZB (ZU (.b false) (lb (by clear Z3;first|rfl|omega|grind [J0,KZ])))
  refine ak (az (ZJ k (Z0 ?_)))
  have hdr:=Y5 Z3
  exact ZK ⟨k+1,ob,(by rw [hdr] at Zk;clear hdr Z3;grind [J0]),rfl,rfl,rfl⟩ (wk [] (ZM k fl))
 refine ax 0 (Zy ?_)
 try rw [Xj (xs:=n.routines) (k:=k) om] at Zk
 exact ZB (ZU (.b true) (lb (by first|rfl|omega|grind [J0,KZ])))
theorem Zca (y:Qg) (hl:y.er.routines.length<=4194304:=by exact ob) (hb:∀r∈y.er.routines,r.body.sz<=1000000000):Zj 61 [E3 y] [] (Yn (.b (KZ y.er))):=
 (Zc9 y.er hl hb).args_le (.cons (NI y) .nil)
theorem Zie (op:Int) :Zj 114 [.i op] [] (Yn (.b ((op==14)||(op==15)))):=by
 refine ZE 9 Tryz.func114 (Zy (ar (XD 6 [] [(8,.b ((op==14)||(op==15)))] (fun gz=>gz) ?_ (fun hj1=>?_))))
 ·exact Zo (BY)
 refine Z2 3 (ib (b:=(op==14)) 5 (fun Zb=>?_) (fun Zb=>?_))
 ·have ZY:op=14:=(Zq).1 Zb
  exact Z2 3 (Yp (wk [] (Zt true Zb fl)) hj1)
 have Yi:¬(op=14):=Y6 Zq Zb
 exact Z2 3 (Yp (wk [] (Zt (op==15) Zb fl)) hj1)
theorem Zfx (s:Z5) (q:Nat) :Zj 167 [YF s,.p q 0] [.obj q [.val (.func (.func 114) #[] #[])]] (fun r h=>r=.b (!((s.op==14)||(s.op==15)))/\h=[.obj q [.val (.func (.func 114) #[] #[])]]):=by
 exact ZE 9 Tryz.func167 (ar (iA (Xx s) fun b1=>Z0 (Zv 3 [1,0] (Zx [] (Zie s.op) (Zo (r1 [1] ⟨rfl,rfl⟩))))))
theorem Zcq (xs:List Z5) (q:Nat) (hl:xs.length<=1000000000:=by exact ob):Zj 104 [Vs xs,.val (.func (.func 167) #[] #[.pointer (some ⟨q,0,none⟩)])] [.obj q [.val (.func (.func 114) #[] #[])]] (fun r h=>(r=.i (((Yq xs):Nat):Int)/\h=[.obj q [.val (.func (.func 114) #[] #[])]]/\Yq xs<xs.length)∨(r=.i (-1)/\h=[.obj q [.val (.func (.func 114) #[] #[])]]/\Yq xs=xs.length)):=by
 refine ZE 19 Tryz.func104 (Zy (YP 1 (iw (VR xs) (Z0 (ab 0 (Y4 (fun fz gz m F h=>∃(k:Nat),(k<=xs.length)/\(k+Yq (xs.drop k)=Yq xs)/\F=sF [0,1,7] fz [(8,.i k)]/\h=gz/\m=xs.length-k) _ _ _ ⟨0,ob,(by simp),rfl,rfl,rfl⟩ (wk [0] (Yb fl)) ?_))))))
 rintro m F h ⟨k,Ye,Zk,rfl,rfl,rfl⟩
 refine Zy (aq (XB ((k:Int)<(xs.length:Int)) (fun Za=>?_) (fun Za=>?_)))
 ·refine ak (aq (ab 1 (Zy (Y1 3 ?_))))
  obtain ⟨x1,Z3⟩:=Zs xs k om
  refine Zp (Zl none (k:Int) 5 (VK Z3)) (Z2 1 (Zx [0] (Zfx x1 q) (ie (ac (!((x1.op==14)||(x1.op==15))) (p:=¬((x1.op=14)∨(x1.op=15))) (Yl (Yh Zq Zq)) (fun Zg=>?_) (fun Zg=>?_)))))
  ·refine Zy ?_
   have hE:=Z0i Z3 Zg Zk
   exact ZB (r2 [0] [.i k] (.inl ⟨rfl,rfl,ob⟩) li)
  exact ak (az (ZJ k (Z0 (ZK ⟨k+1,ob,(Z0h Z3 (Wa.1 Zg) Zk),rfl,rfl,rfl⟩ (wk [0] (ZM k fl))))))
 refine ax 0 (Zy ?_)
 have hE:=Z0g om Zk
 exact ZB (r1 [0] (.inr ⟨rfl,rfl,ob⟩))
theorem Zcf (b:Z6) (hz:b.steps.length<=1000000000:=by exact ob):Zj 103 [Y7 b,.val (.func (.func 114) #[] #[])] [] (Yn (.i (((Yq b.steps):Nat):Int))):=by
 refine ZE 16 Tryz.func103 (ar (iA (Xs b) fun b1=>iA [.val (.func (.func 114) #[] #[])] fun b2=>Z0 (Zv 3 [1] (ic [0] (Zcq b.steps b2) ?_))))
 rintro _ _ (⟨rfl,rfl,ZY⟩|⟨rfl,rfl,Yi⟩)
 ·refine Z0 (X7 (Y9 ((((Yq b.steps):Nat):Int)<0) (fun Za=>?_) (fun Za=>?_)))
  ·exact Zv 2 [1] (iw (VR b.steps) (Zo (ZU (.i b.steps.length) li)))
  exact ak (ar (Zo (BY)))
 refine Z0 (X7 (Y9 ((-1)<0) (fun Zg=>?_) (fun Zg=>?_)))
 ·exact Zv 2 [1] (iw (VR b.steps) (Zo (ZU (.i b.steps.length) li)))
 exact ak (ar (Zo (ZU (.i (-1)) li)))
theorem Z1e (s:Z5) (a:X1) (q:Nat) (ha:s.op=15->∃v,s.args=[v]:=by exact ob):Zj 115 [YF s,.p q 0] [.obj q [.i a.mat,.i a.fst,Z4 a.fds,.b a.chg]] (fun r h=>r=.b ((s.op==15)&&(gI s.args 0==a.mat))/\h=[.obj q [.i a.mat,.i a.fst,Z4 a.fds,.b a.chg]]):=by
 refine ZE 16 Tryz.func115 (ar (iA (Xx s) fun b1=>Z0 (aD 13 (ZI 9 13 [0,1,2,3] [0] (db (b:=(s.op==15)) 7 (fun Zb=>?_) (fun Zb=>?_))))))
 ·have ZY:s.op=15:=(Zq).1 Zb
  refine ZI 7 9 [4,5] [0] ?_
  obtain ⟨x1,Z3⟩:=Zs s.args 0 (by obtain ⟨v,hv⟩:=ha (by assumption);rw [hv];simp)
  have hg0:=A3 Z3
  exact dx 6 (Zl none 0 1 (ZZ Z3)) (ZI 0 6 [7,8,9,10,11,12] [1] (de (ZB (r2 [1] [.b (x1==a.mat)] ⟨rfl,rfl⟩ (lb (by rw [hg0];simp [ZY]))))))
 have Yi:¬(s.op=15):=Y6 Zq Zb
 exact Zh 0 9 [4,5,6,7,8,9,10,11,12] (de (ZB (r2 [1] [.b false] ⟨rfl,rfl⟩ lb)))
theorem Zcp (xs:List Z5) (a:X1) (q:Nat) (hl:xs.length<=1000000000:=by exact ob) (ha:∀s∈xs,s.op=15->∃v,s.args=[v]):Zj 104 [Vs xs,.val (.func (.func 115) #[] #[.pointer (some ⟨q,0,none⟩)])] [.obj q [.i a.mat,.i a.fst,Z4 a.fds,.b a.chg]] (fun r h=>(∃(i:Nat),r=.i i/\h=[.obj q [.i a.mat,.i a.fst,Z4 a.fds,.b a.chg]]/\a.mat∈X5 15 xs)∨(r=.i (-1)/\h=[.obj q [.i a.mat,.i a.fst,Z4 a.fds,.b a.chg]]/\¬a.mat∈X5 15 xs)):=by
 refine ZE 19 Tryz.func104 (Zy (YP 1 (iw (VR xs) (Z0 (ab 0 (Y4 (fun fz gz m F h=>∃(k:Nat),(k<=xs.length)/\(∀s∈xs.take k,¬(s.op=15/\gI s.args 0=a.mat))/\F=sF [0,1,7] fz [(8,.i k)]/\h=gz/\m=xs.length-k) _ _ _ ⟨0,ob,(by simp),rfl,rfl,rfl⟩ (wk [0] (Yb fl)) ?_))))))
 rintro m F h ⟨k,Ye,Zk,rfl,rfl,rfl⟩
 refine Zy (aq (XB ((k:Int)<(xs.length:Int)) (fun Za=>?_) (fun Za=>?_)))
 ·refine ak (aq (ab 1 (Zy (Y1 3 ?_))))
  obtain ⟨x1,Z3⟩:=Zs xs k om
  refine Zp (Zl none (k:Int) 5 (VK Z3)) (Z2 1 (Zx [0] (Z1e x1 a q (ha:=(ha _ (Y0 Z3)))) (ie (ac ((x1.op==15)&&(gI x1.args 0==a.mat)) (p:=(x1.op=15)/\(gI x1.args 0=a.mat)) (YK Zq Zq) (fun Zg=>?_) (fun Zg=>?_)))))
  ·exact ar (Zo (r1 [0] (.inl ⟨k,rfl,rfl,(H2.2 ⟨x1,Y0 Z3,Zg.1,Zg.2⟩)⟩)))
  exact ak (az (ZJ k (Z0 (ZK ⟨k+1,ob,(Zkc Z3 Zk Zg),rfl,rfl,rfl⟩ (wk [0] (ZM k fl))))))
 exact ax 0 (ar (Zo (r1 [0] (.inr ⟨rfl,rfl,(Z4b Zk om)⟩))))
theorem Z6k (xs:List Z5) (a:X1) (q:Nat) (hl:xs.length<=1000000000:=by exact ob) (ha:∀s∈xs,s.op=15->∃v,s.args=[v]):Zj 116 [Vs xs,.val (.func (.func 115) #[] #[.pointer (some ⟨q,0,none⟩)])] [.obj q [.i a.mat,.i a.fst,Z4 a.fds,.b a.chg]] (fun r h=>r=.b (decide (a.mat∈X5 15 xs))/\h=[.obj q [.i a.mat,.i a.fst,Z4 a.fds,.b a.chg]]):=by
 refine ZE 9 Tryz.func116 (Zy (Y1 2 (ic [0] (Zcp xs a q (ha:=ha)) ?_)))
 rintro _ _ (⟨i1,rfl,rfl,ZY⟩|⟨rfl,rfl,Yi⟩)
 ·exact Zo (r2 [0] [.b (decide ((i1:Int)>=0))] ⟨rfl,rfl⟩ lb)
 exact Zo (r2 [0] [.b (decide ((-1)>=0))] ⟨rfl,rfl⟩ lb)
theorem Zla (w:Int) (v:Int) (q:Nat) :Zj 174 [.i w,.p q 0] [.obj q [.i v]] (fun r h=>r=.b (w != v)/\h=[.obj q [.i v]]):=by
 exact ZE 7 Tryz.func174 (Zy (A1 [0] (ZB (r1 [0] ⟨rfl,rfl⟩))))
theorem Zhi (xs:LI) (v:Int) (q:Nat) (hl_xs:xs.length<=4294967296:=by exact ob):Zj 73 [Z4 xs,.val (.func (.func 174) #[] #[.pointer (some ⟨q,0,none⟩)])] [.obj q [.i v]] (fun r h=>r=Z4 (QW xs v)/\h=[.obj q [.i v]]):=by
 refine ZE 23 Tryz.func73 (Zy (Zy (YP 1 (iw (Ya xs) (Z0 (ab 0 (Tq 1 (Y4 (fun fz gz m F h=>∃(k:Nat) (acc:LI) (u:Value),(k<=xs.length)/\(acc.length<=k)/\(acc++QW (xs.drop k) v=QW xs v)/\F=sF [1,8,9] fz [(5,ZQ acc u),(10,.i k)]/\h=[Zd gz 1,.tail u 1]/\m=xs.length-k) _ _ _ ⟨0,[],(.slice none 0 0),ob,ob,ob,rfl,rfl,rfl⟩ (wk [1,0] (fc (x:=nl) (Zc.slh _ (by first|rfl|(subst_vars;rfl))) (Yb fl))) ?_))))))))
 rintro m F h ⟨k,acc,u,Ye,Zk,Zw,rfl,rfl,rfl⟩
 refine Zy (aq (XB ((k:Int)<(xs.length:Int)) (fun Za=>?_) (fun Za=>?_)))
 ·refine ak (aq (ab 1 (ar ?_)))
  obtain ⟨x1,Z3⟩:=Zs xs k om
  refine Zp (Zl none (k:Int) 1 (ZZ Z3)) (Z0 (Y1 2 (Zx [0] (Zla x1 v q) (ie (KV (fun fz gz F h=>∃(w:Value),F=sF [1,8,9,10] fz [(5,ZQ (if (x1 != v)=true then acc++[x1] else acc) w)]/\h=[Zd gz 0,.tail w 1]) (fun _ _=>rfl) ?_ ?_)))))
  ·refine ac (x1 != v) Y3 (fun Zg=>?_) (fun Zg=>?_)
   ·exact az (Z2 2 (iL (Z8 [x1]) 1 1 fun v1=>ZT 0 [(19,Z4 [x1])] (ip 2 (Z8 (acc++[x1])) (Z8 acc) (Z8 [x1]) u none 1 (YL _) (YL _) (Ww _) (by simp<;>omega) (by simp [Wv,Z8]) fun v2=>Z0 (ZV ⟨v2,rfl,rfl⟩ (wk [2,0] (fc (x:=ZQ (acc++[x1]) v2) (Zc.slh _ (Yu Z8 (by first|rfl|(rw [Ze Zg])|(rw [Z7 Zg])|(simp [Zg];done)|(rw [XH];simp [Zg];done)|omega))) fl))))))
   exact ak (ZV ⟨u,rfl,rfl⟩ (wk [0,0] (fc (x:=ZQ acc u) (Zc.slh _ (Yu Z8 (by first|rfl|(rw [Ze Zg])|(rw [Z7 Zg])|(simp [Zg];done)|(rw [XH];simp [Zg];done)|omega))) fl)))
  rintro F h ⟨w,rfl,rfl⟩
  exact az (ZJ k (Z0 (ZK ⟨k+1,(if (x1 != v)=true then acc++[x1] else acc),w,ob,(by split<;>(try simp)<;>omega),(Zer Z3 Zw),rfl,rfl,rfl⟩ (wk [0,0] (fr (ZM k fl))))))
 exact ax 0 (ar (Zo (r2 [0] [ZQ acc u] ⟨rfl,rfl⟩ (Zc.sl _ (Yu Z8 (Zep om Zw))))))
theorem Zhj (xs:LI) (v:Int) (hl_xs:xs.length<=4294967296:=by exact ob):Zj 119 [Z4 xs,.i v] [] (Yn (Z4 (QW xs v))):=by
 exact ZE 8 Tryz.func119 (ar (iA [.i v] fun b1=>Z0 (Y1 2 (Zx [0] (Zhi xs v b1) (Zo (BY))))))
theorem Z51 (xs:LI) (v:Int) (hl:xs.length<=1000000000:=by exact ob) (hs:xs.Pairwise (·<·):=by exact ob):Zj 130 [Z4 xs,.i v] [] (fun r h=>∃(q:Nat),r=.tup [.i q,.b (decide (v∈xs))]/\h=[]):=by
 refine ZE 54 Tryz.func130 (Zy (Y1 1 (iw (Ya xs) (Z0 (Zy (aq (ab 0 (Y4 (fun fz gz m F h=>∃(lo:Nat) (hi:Nat),(lo<=hi)/\(hi<=xs.length)/\(∀(j:Nat) (x:Int),j<lo->xs[j]? = some x->x<v)/\(∀(j:Nat) (x:Int),hi<=j->xs[j]? = some x->v<=x)/\F=sF [0,1,6] fz [(7,.i lo),(8,.i hi)]/\h=gz/\m=hi-lo) _ _ _ ⟨0,xs.length,ob,ob,(fun j x h=>absurd h om),(fun j x h hx=>absurd (Xq.1 hx).1 om),rfl,rfl,rfl⟩ (wk [] (Yb fl)) ?_))))))))
 rintro m F h ⟨lo,hi,Ye,Zk,Zw,Yy,rfl,rfl,rfl⟩
 refine X7 (Y9 ((lo:Int)<(hi:Int)) (fun Za=>?_) (fun Za=>?_))
 ·refine ak (ab 1 (Y1 2 (ia (((lo+hi:Nat):Int)) (((lo:Int))+((hi:Int))) (Zp (Rp (lo+hi) om) (Zp (Rm (lo+hi)) (Zp (Ro ((lo+hi) / 2) om) (Z0 (Y1 2 ?_))))))))
  obtain ⟨x1,Z3⟩:=Zs xs ((lo+hi) / 2) om
  refine Zp (Zl none (((lo+hi) / 2:Nat):Int) 1 (ZZ Z3)) (Z2 2 (Zx [] (O6 x1 v) (ie (XB (x1<v) (fun Zg=>?_) (fun Zg=>?_)))))
  ·exact az (Z2 1 (ia ((((lo+hi) / 2+1:Nat):Int)) (((((lo+hi) / 2:Nat):Int))+(1)) (Z0 (ZK ⟨(lo+hi) / 2+1,hi,ob,ob,(Z54 hs Z3 Zg),Yy,rfl,rfl,rfl⟩ (wk [] (fc (x:=.i (((lo+hi) / 2+1:Nat):Int)) li fl))))))
  exact UY (ZK ⟨lo,(lo+hi) / 2,ob,ob,Zw,(Z53 hs Z3 Zg),rfl,rfl,rfl⟩ (wk [] (fr (fc (x:=.i (((lo+hi) / 2:Nat):Int)) li fl))))
 refine ax 0 (Y1 5 (ib (b:=(decide ((lo:Int)<(xs.length:Int)))) 35 (fun Zb=>?_) (fun Zb=>?_)))
 ·have ZY:(lo:Int)<(xs.length:Int):=(dq).1 Zb
  refine Z2 2 ?_
  obtain ⟨x2,Zr⟩:=Zs xs lo om
  refine Zp (Zl none (lo:Int) 1 (ZZ Zr)) (Z2 4 (ib (b:=(x2==v)) 42 (fun Zz=>?_) (fun Zz=>?_)))
  ·have Yi:x2=v:=(Zq).1 Zz
   exact Zo (r2 [] [.i lo,.b true] ⟨_,rfl,rfl⟩ (Zc.tup (.cons li (.cons (lb (by have hm:v∈xs:=Yi▸Y0 Zr;simp [hm])) .nil))))
  have YJ:¬(x2=v):=Y6 Zq Zz
  exact Z2 2 (Zp (Zl none (lo:Int) 1 (ZZ Zr)) (Z2 1 (Zx [] (Z15 x2) (Zo (r2 [] [.i lo,.b false] ⟨_,rfl,rfl⟩ (Zc.tup (.cons li (.cons (lb (by have hm:=Z55 hs Zw (fun j x hj=>Yy j x om) Zr (by assumption);simp [hm])) .nil))))))))
 have YR:¬((lo:Int)<(xs.length:Int)):=Y6 dq Zb
 exact Zo (r2 [] [.i lo,.b false] ⟨_,rfl,rfl⟩ (Zc.tup (.cons li (.cons (lb (by have hm:=Z56 Zw om;simp [hm])) .nil))))
theorem Zhh (xs:LI) (v:Int) (hl:xs.length<=1000000000:=by exact ob) (hs:xs.Pairwise (·<·):=by exact ob):Zj 118 [Z4 xs,.i v] [] (Yn (.b (decide (v∈xs)))):=by
 refine ZE 14 Tryz.func118 (Zy (Y1 2 (ic [] (Z51 xs v) ?_)))
 rintro _ _ ⟨q1,rfl,rfl⟩
 exact Z0 (ar (Zo (BY)))
theorem Zic (am:List X1) (a:X1) (b:Z6) (hal:am.length<=900000000:=by exact ob) (hc:∀s∈b.steps,Yx s.op=true->Cn s) (hf:a.fds.length<=3:=by exact ob) (hq:0<=a.fst/\a.fst<=1000000000:=by exact ob) (hz:b.steps.length<=900000000:=by exact ob):Zj 60 [Xe (am++[a]),Y7 b] [] (Yn (Y7 (VQ b a.mat a.fds a.fst))):=by
 have hrl:=CC b.steps
 have hpl:(b.steps.take (Yq b.steps)).length=Yq b.steps:=by rw [WW];omega
 have hlen:(am++[a]).length=am.length+1:=by simp
 refine ZE 120 Tryz.func60 (ar (iA (Xs b) fun b1=>iA [nl,.i 0] fun b2=>ie (Y1 2 (io (.i (((am++[a]).length:Nat):Int)) (.i (((WL (am++[a])).length:Nat):Int)) (li (by rw [OF])) (ia ((am.length:Int)) (((((am++[a]).length:Nat):Int))-(1)) ?_)))))
 obtain ⟨x1,Z3⟩:=Zs (am++[a]) am.length om
 have hxq:x1=a:=by rw [Bl om] at Z3;simpa using Z3.symm
 have hf1:(x1).fds.length<=3:=by rw [hxq];exact hf
 have hq1:0<=(x1).fst/\(x1).fst<=1000000000:=by rw [hxq];exact hq
 have hhl:=Lp (x1).fds (x1).fst
 refine Zp (Zl none (am.length:Int) 4 (OE Z3)) (Z2 1 (iA [.i 0,.i 0,nl,.b false] fun b3=>ZH 0 b3 [.i x1.mat,.i x1.fst,Z4 x1.fds,.b x1.chg] (ie (Zv 1 [2] (Zx [] (Zcf b) (Z0 (Zy (Yk 2 [0] (iw (Ya x1.fds) (Xv [3,4,5,6,7] [(38,.b (((x1.fds.length:Int)==0)||(!(decide (x1.mat∈X5 15 (b.steps.take (Yq b.steps)))))))] (fun gz=>gz) ?_ ?_))))))))))
 ·refine Z2 2 (ib (b:=((x1.fds.length:Int)==0)) 30 (fun Zb=>?_) (fun Zb=>?_))
  ·have ZY:(x1.fds.length:Int)=0:=(Zq).1 Zb
   exact Z0 (ZG 3 (Zt true Zb fl))
  have Yi:¬((x1.fds.length:Int)=0):=Y6 Zq Zb
  exact ZL 3 [2] (Zp (KH (es:=ZF b.steps) (hv:=none) (l:=0) (m:=(((Yq b.steps):Nat):Int)) (sz:=5) (es':=ZF (b.steps.take (Yq b.steps))) kr om (by simp<;>omega) (by simp<;>omega) (Xt _) (by first|(simp only [VH,Vu,Q9,Q8];done)|(simp only [VH,Vu,Q9,Q8];rfl)|(simp [Q9,Q8];done))) (Z2 1 (Zx [0] (Z6k (b.steps.take (Yq b.steps)) x1 b3 (ha:=(fun s hs h15=>Ni (hc s (Tm hs) (by rw [h15];rfl))))) (Z0 (ZG 3 (Zt (!(decide (x1.mat∈X5 15 (b.steps.take (Yq b.steps))))) Zb fl))))))
 refine ac (((x1.fds.length:Int)==0)||(!(decide (x1.mat∈X5 15 (b.steps.take (Yq b.steps)))))) (p:=((x1.fds.length:Int)=0)∨(¬(x1.mat∈X5 15 (b.steps.take (Yq b.steps))))) (Yh Zq (Yl dq)) (fun Za=>?_) (fun Za=>?_)
 ·exact Zv 1 [2] (ZH 1 b2 (Xs b) (ie (ZB (r3 [] [Y7 b] [0] [(b2,b2)] ⟨rfl,rfl⟩ (Zc.agg (.cons (Zc.sl _ (Yu ZF (Nx (fun z=>Za.elim (fun e=>z.2 (by rw [<-hxq];omega)) (fun e=>e (by rw [hxq];exact z.1)))).symm)) (.cons li .nil)))))))
 refine ak (Zy (Zv 1 [0] (Zx [] (PV x1) (Z0 (Zy (Yk 3 [2] (Zp (KH (es:=ZF b.steps) (hv:=none) (l:=0) (m:=(((Yq b.steps):Nat):Int)) (sz:=5) (es':=ZF (b.steps.take (Yq b.steps))) kr om (by simp<;>omega) (by simp<;>omega) (Xt _) (by first|(simp only [VH,Vu,Q9,Q8];done)|(simp only [VH,Vu,Q9,Q8];rfl)|(simp [Q9,Q8];done))) (io (.i (((b.steps.take (Yq b.steps)).length:Nat):Int)) (.i (((ZF (b.steps.take (Yq b.steps))).length:Nat):Int)) (li (by rw [VR])) (Z0 (ab 0 (Tq 5 (Tq 5 (Y4 (fun fz gz m F h=>∃(k:Nat) (du:List Z5) (dr:List Z5) (lf:LI) (d:Bool) (va:Value) (vb:Value),(k<=Yq b.steps)/\(du.length<=k)/\(dr.length<=k)/\(lf.Pairwise (·<·))/\(lf.length<=3)/\(Qd x1.mat du dr ((b.steps.take (Yq b.steps)).drop k) lf d=Th x1.mat (b.steps.take (Yq b.steps)) (Wb x1.fds x1.fst) false)/\F=sF [3,4,5,6,7,45,46] fz [(8,Xb du va),(9,Xb dr vb),(10,Z4 lf),(11,.b d),(47,.i k)]/\h=[Zd gz 2,Zd gz 3,Zd gz 4,.tail va 5,.tail vb 5]/\m=Yq b.steps-k) _ _ _ ⟨0,[],[],(Wb x1.fds x1.fst),false,(.slice none 0 0),(.slice none 0 0),ob,ob,ob,(Gr _ _),ob,rfl,rfl,rfl,rfl⟩ (wk [2,2,2,0,0] (fc (x:=nl) (Zc.slh _ (by first|rfl|(subst_vars;rfl))) (fc (x:=nl) (Zc.slh _ (by first|rfl|(subst_vars;rfl))) (fw (Yb fl))))) ?_)))))))))))))
 rintro m F h ⟨k,du,dr,lf,d,va,vb,Ye,Zk,Zw,Yy,XU,Tt,rfl,rfl,rfl⟩
 refine Zy (aq (XB ((k:Int)<(((b.steps.take (Yq b.steps)).length:Nat):Int)) (fun Zg=>?_) (fun Zg=>?_)))
 ·obtain ⟨xe,hxe⟩:=Zs (b.steps.take (Yq b.steps)) k om
  have hxm:=Tm (Y0 hxe)
  have hrp:=JB (Y0 hxe)
  have hcn:=hc xe hxm (CZ hrp)
  obtain ⟨xa,hxa1⟩:=Ni hcn
  have hxa2:xe.args[0]? = some xa:=by rw [hxa1];rfl
  have hg:=A3 hxa2
  refine ak (aq (ab 1 (ar (Zp (Zl none (k:Int) 5 (VK hxe)) (Z2 1 (iA [.i 0,.i 0,.i 0,nl,nl] fun b4=>ZH 0 b4 (Xx xe) (ie (ab 2 (ar (XD 11 [3,4,5,6,7,8,9,10,11,13,45,46,47] [(66,.b ((xe.op==14)&&(decide (xa∈lf))))] (fun gz=>gz) ?_ (fun hj1=>?_)))))))))))
  ·refine Z0 (KV (fun fz gz F h=>∃(du2:List Z5) (dr2:List Z5) (lf2:LI) (d2:Bool) (w1:Value) (w2:Value),(du2.length<=k+1)/\(dr2.length<=k+1)/\(lf2.Pairwise (·<·))/\(lf2.length<=3)/\(Qd x1.mat du2 dr2 ((b.steps.take (Yq b.steps)).drop (k+1)) lf2 d2=Th x1.mat (b.steps.take (Yq b.steps)) (Wb x1.fds x1.fst) false)/\F=sF [3,4,5,6,7,45,46,47] fz [(8,Xb du2 w1),(9,Xb dr2 w2),(10,Z4 lf2),(11,.b d2)]/\h=[Zd gz 1,Zd gz 2,Zd gz 3,.tail w1 5,.tail w2 5]) (fun _ _=>rfl) ?_ ?_)
   ·refine ac ((xe.op==14)&&(decide (xa∈lf))) (p:=(xe.op=14)/\(xa∈lf)) (YK Zq dq) (fun ZD=>?_) (fun ZD=>?_)
    ·exact az (ZL 3 [0] (Zp (Zl none 0 1 (ZZ hxa2)) (Z2 1 (Zx [] (Zhj lf xa) (Z0 (ZV ⟨du,dr,(QW lf xa),d,va,vb,ob,ob,(Zet Yy _),(VB (Zes _ _) XU),(by have h:=Zhz hxe ZD.1 (by rw [hg];exact ZD.2) Tt;rw [hg] at h;exact h),rfl,rfl⟩ (wk [1,1,1,1,1] fl)))))))
    refine A1 [0] (ac (xe.op==14) Zq (fun Yj=>?_) (fun Yj=>?_))
    ·exact az (ZL 2 [0] (iL [YF xe] 1 5 fun v1=>ZT 0 [(79,.sl [YF xe] none)] (ip 5 (ZF (du++[xe])) (ZF du) [YF xe] va none 5 (Xt _) (TH rfl) rfl (by simp<;>omega) (by simp [V6,VL]) fun v2=>Z0 (ZV ⟨(du++[xe]),dr,lf,d,v2,vb,(by simp;omega),ob,ob,ob,(Zhx hxe Yj (fun z=>ZD ⟨Yj,by rw [<-hg];exact z⟩) Tt),rfl,rfl⟩ (wk [3,3,3,0,2] fl)))))
    refine Zv 2 [0] (Zx [1] (Z1e xe x1 b3 (ha:=(fun _=>⟨xa,hxa1⟩))) (XD 7 [3,4,5,6,7,8,9,10,11,13,45,46,47] [(88,.b (((xe.op==15)&&(gI xe.args 0==x1.mat))&&(!d)))] (fun gz=>gz) ?_ (fun hj2=>?_)))
    ·refine YD (((xe.op==15)&&(gI xe.args 0==x1.mat))&&(!d)) (p:=((xe.op=15)/\(gI xe.args 0=x1.mat))/\(¬(d=true))) (YK (YK Zq Zq) (Yl Iff.rfl)) (fun Xh=>?_) (fun Xh=>?_)
     ·exact UY (ZV ⟨du,dr,lf,true,va,vb,ob,ob,ob,ob,(Zhw hxe Yj Xh Tt),rfl,rfl⟩ (wk [0,1,1,1,1] fl))
     exact az (ZL 2 [1] (iL [YF xe] 1 5 fun v3=>ZT 0 [(53,.sl [YF xe] none)] (ip 6 (ZF (dr++[xe])) (ZF dr) [YF xe] vb none 5 (Xt _) (TH rfl) rfl (by simp<;>omega) (by simp [V6,VL]) fun v4=>Z0 (ZV ⟨du,(dr++[xe]),lf,d,va,v4,ob,(by simp;omega),ob,ob,(Zi0 hxe Yj Xh Tt),rfl,rfl⟩ (wk [2,3,3,3,0] fl)))))
    refine Z2 1 (ib (b:=((xe.op==15)&&(gI xe.args 0==x1.mat))) 85 (fun Zz=>?_) (fun Zz=>?_))
    ·have YJ:(xe.op=15)/\(gI xe.args 0=x1.mat):=((YK Zq Zq)).1 Zz
     exact Z2 3 (Yp (ZG 6 (Zt (!d) Zz fl)) hj2)
    have YR:¬((xe.op=15)/\(gI xe.args 0=x1.mat)):=Y6 (YK Zq Zq) Zz
    exact Z2 3 (Yp (ZG 6 (Zt false Zz fl)) hj2)
   rintro F h ⟨du2,dr2,lf2,d2,w1,w2,GN,Re,Rf,Zd9,Zm5,rfl,rfl⟩
   exact az (ZJ k (Z0 (ZK ⟨k+1,du2,dr2,lf2,d2,w1,w2,ob,ob,ob,ob,ob,ob,rfl,rfl,rfl⟩ (ZG 5 (fq (ZM k fl))))))
  refine ZL 4 [0] (ib (b:=(xe.op==14)) 59 (fun Yo=>?_) (fun Yo=>?_))
  ·have Xk:xe.op=14:=(Zq).1 Yo
   exact ZL 3 [0] (Zp (Zl none 0 1 (ZZ hxa2)) (Z2 1 (Zx [] (Zhh lf xa (hs:=Yy)) (Z2 1 (Yp (ZG 6 (Zt (decide (xa∈lf)) Yo fl)) hj1)))))
  have XX:¬(xe.op=14):=Y6 Zq Yo
  exact Z2 7 (Yp (ZG 6 (Zt false Yo fl)) hj1)
 have hWe:=Zhy om Tt
 refine ax 0 (Zv 3 [0] (ic [] (PY 16 x1.mat) ?_))
 rintro _ _ ⟨u1,rfl,rfl⟩
 refine ZT 0 [(93,.agg [.i 16,.i 0,.i 0,Z4 [x1.mat],S5 []])] (iL [YF (Z5.mk 16 0 0 [x1.mat] [])] 1 5 fun v5=>ZT 0 [(94,.sl [YF (Z5.mk 16 0 0 [x1.mat] [])] none)] (ip 5 (ZF (du++[Z5.mk 16 0 0 [x1.mat] []])) (ZF du) [YF (Z5.mk 16 0 0 [x1.mat] [])] va none 5 (Xt _) (TH rfl) rfl (by simp<;>omega) (by simp [V6,VL]) fun v6=>Z0 (ar (ZT 2 [(97,Vs dr)] (ip 0 (ZF ((du++[Z5.mk 16 0 0 [x1.mat] []])++dr)) (ZF (du++[Z5.mk 16 0 0 [x1.mat] []])) (ZF dr) v6 none 5 (Xt _) (Xt _) (UF _) (by simp<;>omega) (by simp [V6,ZF]) fun v7=>?_)))))
 refine Z0 (YP 1 (iw (Ya lf) (Z0 (ab 3 (Y4 (fun fz gz m F h=>∃(j:Nat) (u:Value),(j<=lf.length)/\F=sF [3,4,6,99,100] fz [(14,Xb (((du++[ZC 16 x1.mat])++dr)++(lf.take j).map (ZC 15)) u),(101,.i j)]/\h=[Zd gz 4,Zd gz 5,.tail u 5]/\m=lf.length-j) _ _ _ ⟨0,v7,ob,rfl,rfl,rfl⟩ (wk [4,4,0] (fc (x:=Xb ((du++[Z5.mk 16 0 0 [x1.mat] []])++dr) v7) (Zc.slh _ (Yu ZF (by simp [ZC]))) (Yb fl))) ?_)))))
 rintro m F h ⟨j,u,U7,rfl,rfl,rfl⟩
 refine Zy (aq (XB ((j:Int)<(lf.length:Int)) (fun Xl=>?_) (fun Xl=>?_)))
 ·refine ak (aq (ab 4 (ar ?_)))
  obtain ⟨x2,Zr⟩:=Zs lf j om
  have hxl:=Zr
  refine Zp (Zl none (j:Int) 1 (ZZ Zr)) (Z0 (az (Z2 2 (ic [] (PY 15 x2) ?_))))
  rintro _ _ ⟨u2,rfl,rfl⟩
  exact ZT 0 [(107,.agg [.i 15,.i 0,.i 0,Z4 [x2],S5 []])] (iL [YF (Z5.mk 15 0 0 [x2] [])] 1 5 fun v8=>ZT 0 [(108,.sl [YF (Z5.mk 15 0 0 [x2] [])] none)] (ip 4 (ZF (((du++[ZC 16 x1.mat])++dr)++(lf.take (j+1)).map (ZC 15))) (ZF (((du++[ZC 16 x1.mat])++dr)++(lf.take j).map (ZC 15))) [YF (Z5.mk 15 0 0 [x2] [])] u none 5 (Xt _) (TH rfl) rfl (by simp<;>omega) (by rw [V1 hxl,List.map_append,<-UN];simp [V6,VL,ZC]) fun v9=>Z0 (az (ZJ j (Z0 (ZK ⟨j+1,v9,ob,rfl,rfl,rfl⟩ (wk [3,3,0] (fr (ZM j fl)))))))))
 refine ax 3 (aD 10 (ZI 6 10 [0,1,2,3] [1] (dx 4 (KH (es:=ZF b.steps) (hv:=none) (l:=(((Yq b.steps):Nat):Int)) (m:=(((ZF b.steps).length:Nat):Int)) (sz:=5) (es':=ZF (b.steps.drop (Yq b.steps))) kr om (by simp<;>omega) (by simp<;>omega) (Xt _) (by first|(simp only [VH,Vu,Q9,Q8];done)|(simp only [VH,Vu,Q9,Q8];rfl)|(simp [Q9,Q8];done))) (ZI 3 5 [6,7] [1] (Z9 5 (dp 5 2 [1] [b1] (ZF ((((du++[ZC 16 x1.mat])++dr)++(lf.take j).map (ZC 15))++(b.steps.drop (Yq b.steps)))) (ZF (((du++[ZC 16 x1.mat])++dr)++(lf.take j).map (ZC 15))) (ZF (b.steps.drop (Yq b.steps))) u none 5 (Xt _) (Xt _) (UF _) (by simp<;>omega) (by simp [V6,ZF]) fun v10=>Zh 1 2 [8] (Z9 9 (YO 9 1 [] [] b2 [Xb ((((du++[ZC 16 x1.mat])++dr)++(lf.take j).map (ZC 15))++(b.steps.drop (Yq b.steps))) v10,.i b.result] (de ?_)))))))))
 have hE:=Zia hc (Wa.1 fun z=>Za (.inr z)) (fun z=>Za (.inl om)) hWe.symm
 exact ZB (r3 [] [.agg [Xb ((((du++[ZC 16 x1.mat])++dr)++(lf.take j).map (ZC 15))++(b.steps.drop (Yq b.steps))) v10,.i b.result]] [0] [(b2,b2)] ⟨rfl,rfl⟩ (Zc.agg (.cons (Zc.sl _ (Yu ZF (by rw [VA om,<-hxq];exact hE))) (.cons li .nil))))
theorem Z1d (am:List X1) (x:Int) (q:Nat) (fs:LI) (b:Z6) (hal:am.length<=900000000:=by exact ob) (hc:∀s∈b.steps,Yx s.op=true->Cn s) (hf:fs.length<=3:=by exact ob) (hq:q<=1000000000:=by exact ob) (hz:b.steps.length<=900000000:=by exact ob):Zj 60 [Xe (am++[X1.mk x q fs false]),Y7 b] [] (Yn (Y7 (VQ b x fs q))):=Zic am ⟨x,q,fs,false⟩ b hal hc hf ⟨by show 0<=(q:Int);omega,by show (q:Int)<=1000000000;omega⟩ hz
theorem Zcd (n:Zm) (b:Z6) (mm:Nat) (am:List X1) (hn:X4 n) (hw:wB n.decls b) (hal:am.length+b.pz<=800000000) (hb:mm+4*b.pz<=900000000) (ih:∀(b2:Z6) (m2:Nat) (a2:List X1),(wB n.decls b2)->(a2.length+b2.pz<=800000000)->(m2+4*b2.pz<=900000000)->(b2.pz<b.pz)->Zj 46 [.agg [ZP n.decls,YN n],Y7 b2,.i m2,Xe a2,.val (.func (.func 60) #[] #[])] [] (fun r h=>∃(y:XG),r=Qi y/\h=[.many (Vg y)]/\y.er=XA n.decls m2 b2)):Zj 46 [.agg [ZP n.decls,YN n],Y7 b,.i mm,Xe am,.val (.func (.func 60) #[] #[])] [] (fun r h=>∃(y:XG),r=Qi y/\h=[.many (Vg y)]/\y.er=XA n.decls mm b):=by
 have Xz:=hn.decls
 have hbz:=SS b
 refine ZE 98 Tryz.func46 (ar (iA [ZP n.decls,YN n] fun b1=>iA (Xs b) fun b2=>iA [nl,.i 0] fun b3=>ie (Zv 3 [1] (iA [nl,.i 0] fun b4=>?_))))
 refine ZH 0 b4 [nl,.i b.result] (ie (Yk 2 [2] (iw (VR b.steps) (Z0 (ab 0 (Tq 5 (T6 (tB [] [] [] (Vh []) (by simp [Qu,Qp,QM,QN,QO,QP,QL,Vh,WK,Qt,Vg,U1,VV,U2,Qq,Qr,Qs,Td])) (Y4 (fun fz gz m F h=>∃(k:Nat) (q:Nat) (xs:List Wn) (v:Value),(k<=b.steps.length)/\(q<=mm+k)/\(xs.length=k)/\(KY xs++W2 n.decls q (b.steps.drop k)=W2 n.decls mm b.steps)/\F=sF [3,4,5,10,11,23,24] fz [(2,.i q),(25,.i k)]/\h=[.obj b4 [Dw xs v,.i b.result],Zd gz 3,Zd gz 5,.tail v 5,.many (Vh xs)]/\m=b.steps.length-k) _ _ _ ⟨0,mm,[],(.slice none 0 0),ob,ob,ob,rfl,rfl,rfl,rfl⟩ (wk [2,2,3,1,0] (fr (Yb fl))) ?_))))))))
 rintro m F h ⟨k,q,xs,v,Ye,Zk,Zw,Yy,rfl,rfl,rfl⟩
 refine Zy (aq (XB ((k:Int)<(b.steps.length:Int)) (fun Za=>?_) (fun Za=>?_)))
 ·refine ak (aq (ab 1 (ar ?_)))
  obtain ⟨x1,Z3⟩:=Zs b.steps k om
  have Xu:=Zg4 Z3
  have hws:=Z2y hw Z3
  have hkz:=Zg3 x1
  have haz:=Zg1 x1
  refine Zp (Zl none (k:Int) 5 (VK Z3)) (Z2 1 (iA [.i 0,.i 0,.i 0,nl,nl] fun b5=>?_))
  refine ZH 0 b5 (Xx x1) (ie (Zy (Yk 2 [0] (iw (U8 x1.kids) (Z0 (ab 2 (Tq 2 (T6 (tB [] [] [] (WK []) (by simp [Qu,Qp,QM,QN,QO,QP,QL,Vh,WK,Qt,Vg,U1,VV,U2,Qq,Qr,Qs,Td])) (Y4 (fun fz gz m F h=>∃(j:Nat) (ys:List XG) (u:Value),(j<=x1.kids.length)/\(ys.length=j)/\(Ks ys++Wk n.decls q x1.op x1.num x1.args (x1.kids.drop j) j=Wk n.decls q x1.op x1.num x1.args x1.kids 0)/\F=sF [2,3,4,5,10,11,13,23,24,25,30,31] fz [(14,BK ys u),(32,.i j)]/\h=[Zd gz 2,Zd gz 3,Zd gz 4,Zd gz 5,Zd gz 7,.tail u 2,Zd gz 6,.many (WK ys)]/\m=x1.kids.length-j) _ _ _ ⟨0,[],(.slice none 0 0),ob,ob,(by simp [Ks]),rfl,rfl,rfl⟩ (wk [2,2,2,2,3,1,1,0] (fc (x:=nl) (Zc.slh _ (by first|rfl|(subst_vars;rfl))) (Yb fl))) ?_)))))))))
  rintro m F h ⟨j,ys,u,U7,XO,XP,rfl,rfl,rfl⟩
  refine Zy (aq (XB ((j:Int)<(x1.kids.length:Int)) (fun Zg=>?_) (fun Zg=>?_)))
  ·refine ak (aq (ab 3 (Y1 1 ?_)))
   obtain ⟨x2,Zr⟩:=Zs x1.kids j om
   have hkb:=Zr
   have hks:=Zg2 Zr
   have hwk:=N9 hws Zr
   have hst:=SS x2
   refine Zp (Zl none (j:Int) 2 (UV Zr)) (Z2 1 (iA [nl,.i 0] fun b6=>Z2 1 (ZH 0 b6 (Xs x2) (ie (X7 (VX [1] (ac (x1.op != 8) Y3 (fun ZD=>?_) (fun ZD=>?_))))))))
   ·refine Zv 6 [4,0] (ic [] (ih x2 q am (by first|exact hwk|exact HH hwk) (by first|omega|(have h:=AP (x:=x3) (q:=(q:Int)) hxl hwk;simp only [Ys,YW,XJ];omega)) (by first|omega|(have h:=AP (x:=x3) (q:=(q:Int)) hxl hwk;omega)) (by first|omega|(have h:=AP (x:=x3) (q:=(q:Int)) hxl hwk;omega))) ?_)
    rintro _ _ ⟨y1,rfl,rfl,ZY⟩
    have hy:(y1).er=Jd n.decls q x1.op x1.num x1.args j x2:=by
     first
     | (rw [Jd,Z7 om];exact ZY)
     | (rw [Jd,Ze om,hfk,hg1];exact Eq.trans ZY (MJ hwk))
    exact iL [Qi y1] 1 2 fun v1=>ZT 0 [(47,.sl [Qi y1] none)] (ip 8 (Tc (ys++[y1])) (Tc ys) [Qi y1] u none 2 (II _) (TH rfl) rfl (by simp<;>omega) (by simp [IH,Ch]) fun v2=>W8 (tB [10,2] [.many (WK ys),.many (Vg y1)] (WK ys++(Vg y1++[])) (WK (ys++[y1])) (by simp [Qu,Qp,QM,QN,QO,QP,QL,Vh,WK,Qt,Vg,U1,VV,U2,Qq,Qr,Qs,Td])) (Z0 (ax 3 (az (ZJ j (Z0 (ZK ⟨j+1,(ys++[y1]),v2,ob,ob,(by rw [IS,IU,hy];exact Fd hkb XP),rfl,rfl,rfl⟩ (wk [4,4,4,4,4,1,3,0] (fr (ZM j fl))))))))))
   refine ak (aD 15 (ZI 13 15 [0,1] [1] ?_))
   obtain ⟨x3,YG⟩:=Zs x1.args 0 (by obtain ⟨⟨a,ha2,_⟩,_⟩:=Ft hws om;rw [ha2];simp)
   have hg1:=A3 YG
   refine dx 2 (Zl none 0 1 (ZZ YG)) (ZI 6 12 [3,4,5,6,7,9] [4,1] (VJ 8 13 ?_ ?_))
   ·refine Yz 8 [] [1] [b5] (GC _ x1.num) ?_
    obtain ⟨x4,Wy⟩:=Zs ((ZW n.decls x1.num).map (ZX n.decls)) j (by have h:=(Ft hws om).2;rw [QC];omega)
    have hfk:=Ga Wy
    have hxl:(x4).length<=3:=by rw [<-hfk];exact IX Xz _ _
    refine dx 10 (Zl none (j:Int) 1 (Ar Wy)) (Zh 2 4 [11,12] (Z9 13 (dA 13 [1] [b5] [.i 0,.i 0,nl,.b false] fun b7=>Z9 14 (YO 14 0 [] [] b7 [.i x3,.i q,Z4 x4,.b false] (de (Zv 2 [0] (Zx [] (FB am (X1.mk x3 (q:Int) x4 false)) (Z0 (aE 17 (ZI 9 17 [0,1,2,3,4,6,7,8] [5,1,0] (dw 9 (Ya x4) (da 10 (((q+x4.length:Nat):Int)) (((q:Int))+((x4.length:Int))) (Zh 5 7 [11,12] (Z9 5 (Yz 5 [] [0,5] [b7,b1] (Z1d am x3 q x4 x2 (hc:=(HS ((JP _).1 hwk)))) (Z9 13 (dc 13 [] [] [] (ih (VQ x2 x3 x4 q) (q+x4.length) (am++[(X1.mk x3 (q:Int) x4 false)]) (by first|exact hwk|exact HH hwk) (by first|omega|(have h:=AP (x:=x3) (q:=(q:Int)) hxl hwk;simp only [Ys,YW,XJ];omega)) (by first|omega|(have h:=AP (x:=x3) (q:=(q:Int)) hxl hwk;omega)) (by first|omega|(have h:=AP (x:=x3) (q:=(q:Int)) hxl hwk;omega))) ?_)))))))))))))))))
    rintro _ _ ⟨y2,rfl,rfl,Yi⟩
    have hy:(y2).er=Jd n.decls q x1.op x1.num x1.args j x2:=by
     first
     | (rw [Jd,Z7 om];exact Yi)
     | (rw [Jd,Ze om,hfk,hg1];exact Eq.trans Yi (MJ hwk))
    exact Z9 14 (dL 14 [] [] [Qi y2] 1 2 fun v3=>YA 2 2 [] [(79,.sl [Qi y2] none)] (Z9 15 (dp 15 9 [] [] (Tc (ys++[y2])) (Tc ys) [Qi y2] u none 2 (II _) (TH rfl) rfl (by simp<;>omega) (by simp [IH,Ch]) fun v4=>Jp (tB [11,2] [.many (WK ys),.many (Vg y2)] (WK ys++(Vg y2++[])) (WK (ys++[y2])) (by simp [Qu,Qp,QM,QN,QO,QP,QL,Vh,WK,Qt,Vg,U1,VV,U2,Qq,Qr,Qs,Td])) (Zh 0 1 [16] (de (az (ZJ j (Z0 (ZK ⟨j+1,(ys++[y2]),v4,ob,ob,(by rw [IS,IU,hy];exact Fd hkb XP),rfl,rfl,rfl⟩ (wk [5,5,5,5,5,1,4,0] (fr (ZM j fl))))))))))))
   refine dA 13 [1,4,1] [b5,b1,b5] [.i 0,.i 0,nl,.b false] fun b8=>Z9 8 (Yz 8 [] [2] [b5] (GC _ x1.num) ?_)
   obtain ⟨x5,VF⟩:=Zs ((ZW n.decls x1.num).map (ZX n.decls)) j (by have h:=(Ft hws om).2;rw [QC];omega)
   have hfk:=Ga VF
   have hxl:(x5).length<=3:=by rw [<-hfk];exact IX Xz _ _
   refine dx 10 (Zl none (j:Int) 1 (Ar VF)) (Zh 1 3 [11,12] (Z9 14 (YO 14 0 [] [] b8 [.i x3,.i q,Z4 x5,.b false] (de (Zv 2 [0] (Zx [] (FB am (X1.mk x3 (q:Int) x5 false)) (Z0 (aE 17 (ZI 9 17 [0,1,2,3,4,6,7,8] [5,1,0] (dw 9 (Ya x5) (da 10 (((q+x5.length:Nat):Int)) (((q:Int))+((x5.length:Int))) (Zh 5 7 [11,12] (Z9 5 (Yz 5 [] [0,5] [b8,b1] (Z1d am x3 q x5 x2 (hc:=(HS ((JP _).1 hwk)))) (Z9 13 (dc 13 [] [] [] (ih (VQ x2 x3 x5 q) (q+x5.length) (am++[(X1.mk x3 (q:Int) x5 false)]) (by first|exact hwk|exact HH hwk) (by first|omega|(have h:=AP (x:=x3) (q:=(q:Int)) hxl hwk;simp only [Ys,YW,XJ];omega)) (by first|omega|(have h:=AP (x:=x3) (q:=(q:Int)) hxl hwk;omega)) (by first|omega|(have h:=AP (x:=x3) (q:=(q:Int)) hxl hwk;omega))) ?_))))))))))))))))
   rintro _ _ ⟨y3,rfl,rfl,YJ⟩
   have hy:(y3).er=Jd n.decls q x1.op x1.num x1.args j x2:=by
    first
    | (rw [Jd,Z7 om];exact YJ)
    | (rw [Jd,Ze om,hfk,hg1];exact Eq.trans YJ (MJ hwk))
   exact Z9 14 (dL 14 [] [] [Qi y3] 1 2 fun v5=>YA 2 2 [] [(79,.sl [Qi y3] none)] (Z9 15 (dp 15 9 [] [] (Tc (ys++[y3])) (Tc ys) [Qi y3] u none 2 (II _) (TH rfl) rfl (by simp<;>omega) (by simp [IH,Ch]) fun v6=>Jp (tB [11,2] [.many (WK ys),.many (Vg y3)] (WK ys++(Vg y3++[])) (WK (ys++[y3])) (by simp [Qu,Qp,QM,QN,QO,QP,QL,Vh,WK,Qt,Vg,U1,VV,U2,Qq,Qr,Qs,Td])) (Zh 0 1 [16] (de (az (ZJ j (Z0 (ZK ⟨j+1,(ys++[y3]),v6,ob,ob,(by rw [IS,IU,hy];exact Fd hkb XP),rfl,rfl,rfl⟩ (wk [5,5,5,5,5,1,4,0] (fr (ZM j fl))))))))))))
  have hK:=Z17 om XP
  refine ax 2 (aD 9 (ZI 5 9 [0,1,2,3] [1,0] (Z9 4 (dc 4 [] [1] [b4] (Zcn x1 ys u) ?_))))
  rintro _ _ ⟨u1,rfl,rfl⟩
  refine Z9 5 (dL 5 [1] [b4] [E4 (Wn.mk x1.op x1.num x1.into x1.args u1 ys u)] 1 5 fun v7=>YA 3 3 [] [(87,.sl [E4 (Wn.mk x1.op x1.num x1.into x1.args u1 ys u)] none)] (Z9 6 (dp 6 8 [] [] (QG (xs++[Wn.mk x1.op x1.num x1.into x1.args u1 ys u])) (QG xs) [E4 (Wn.mk x1.op x1.num x1.into x1.args u1 ys u)] v none 5 (Z81 _) (TH rfl) rfl (by simp<;>omega) (by simp [Z80,Ek]) fun v8=>?_)))
  refine Jp (tB [7,2,7,6] [.many (Vh xs),.tail u1 1,.many (WK ys),.tail u 2] (Vh xs++((u1,1)::(WK ys++((u,2)::[])))) (Vh (xs++[Wn.mk x1.op x1.num x1.into x1.args u1 ys u])) (by simp [Qu,Qp,QM,QN,QO,QP,QL,Vh,WK,Qt,Vg,U1,VV,U2,Qq,Qr,Qs,Td])) (Zh 1 2 [7] (Z9 8 (YO 8 4 [] [] b4 [Dw (xs++[Wn.mk x1.op x1.num x1.into x1.args u1 ys u]) v8,.i b.result] (de (Zv 2 [4] (Zx [] (EB x1.op) (Z0 (KV (fun fz gz F h=>F=sF [3,4,5,10,11,23,24,25] fz [(2,.i (((if Yx x1.op=true then q else q+1):Nat):Int))]/\h=[Zd gz 0,Zd gz 1,Zd gz 5,Zd gz 6,Zd gz 2]) (fun _ _=>rfl) ?_ ?_))))))))
  ·refine ac (!Yx x1.op) (p:=¬(Yx x1.op=true)) (Yl Iff.rfl) (fun Yj=>?_) (fun Yj=>?_)
   ·exact az (Z2 1 (ZJ q (Z0 (ZV ⟨rfl,rfl⟩ (wk [0,0,3,3,0] (fc (x:=.i (q+1:Nat)) (li (by rw [Z7 Yj])) fl))))))
   exact ak (ZV ⟨rfl,rfl⟩ (wk [0,0,3,3,0] (fc (x:=.i q) (li (by rw [Ze (Wa.1 Yj)])) fl)))
  rintro F h ⟨rfl,rfl⟩
  exact az (ZJ k (Z0 (ZK ⟨k+1,(if Yx x1.op=true then q else q+1),(xs++[Wn.mk x1.op x1.num x1.into x1.args u1 ys u]),v8,ob,(by split<;>omega),ob,(by rw [Z8d,Z8e,Wn.er,hK];exact Z1g Z3 Yy),rfl,rfl,rfl⟩ (wk [0,1,1,1,0] (fr (ZM k fl))))))
 exact ax 0 (Zv 1 [0] (ZH 1 b3 [Dw xs v,.i b.result] (ie (T6 (tB [4,3] [.many (Vh xs),.tail v 5] (Vh xs++((v,5)::[])) (Vg (XG.mk xs v b.result)) (by simp [Qu,Qp,QM,QN,QO,QP,QL,Vh,WK,Qt,Vg,U1,VV,U2,Qq,Qr,Qs,Td])) (ZB (r3 [0] [.agg [Dw xs v,.i b.result]] [1] [(b3,b3)] ⟨(XG.mk xs v b.result),rfl,rfl,(by rw [XG.er,DI,Z1f om Yy])⟩ (lr _)))))))
theorem Zcb (n:Zm) (hn:X4 n) (k:Nat):∀(b2:Z6) (m2:Nat) (a2:List X1),(wB n.decls b2)->(a2.length+b2.pz<=800000000)->(m2+4*b2.pz<=900000000)->(b2.pz<k)->Zj 46 [.agg [ZP n.decls,YN n],Y7 b2,.i m2,Xe a2,.val (.func (.func 60) #[] #[])] [] (fun r h=>∃(y:XG),r=Qi y/\h=[.many (Vg y)]/\y.er=XA n.decls m2 b2):=by
 induction k with
 | zero=>intro b mm am _ _ _ h;omega
 | succ k ih=>intro b mm am h1 h2 h3 h4;exact Zcd n b mm am hn h1 h2 h3 fun b2 m2 a2 k1 k2 k3 k4=>ih b2 m2 a2 k1 k2 k3 om
theorem Zcc (n:Zm) (b:Z6) (mm:Nat) (am:List X1) (hn:X4 n:=by exact ob) (hw:wB n.decls b:=by exact ob) (hal:am.length+b.pz<=800000000:=by exact ob) (hb:mm+4*b.pz<=900000000:=by exact ob):Zj 46 [.agg [ZP n.decls,YN n],Y7 b,.i mm,Xe am,.val (.func (.func 60) #[] #[])] [] (fun r h=>∃(y:XG),r=Qi y/\h=[.many (Vg y)]/\y.er=XA n.decls mm b):=Zcb n hn (b.pz+1) b mm am hw hal hb om
theorem Zci (n:Zm) (rt:Yc) (b:Z6) (bs:Nat) (hn:X4 n:=by exact ob) (hw:wB n.decls b:=by exact ob) (hp:rt.params.length<=4:=by exact ob) (hb:b.pz<=200000000:=by exact ob):Zj 59 [K5 rt,Y7 b,.p bs 0] [.obj bs [ZP n.decls,YN n]] (fun r h=>∃(y:XG),r=Qi y/\h=[.many (Vg y),.obj bs [ZP n.decls,YN n]]/\y.er=XA n.decls rt.params.length b):=by
 refine ZE 12 Tryz.func59 (ar (iA (TG rt) fun b1=>iA (Xs b) fun b2=>iA [nl,.i 0] fun b3=>ie (Zv 4 [3,1,2] (iw (Ya rt.params) (ic [] (Wh.args_le (Zcc n b rt.params.length []) (.cons (lr _) (.cons (lr _) (.cons (lr _) (.cons (Zc.forget [] (some S7)) (.cons (lr _) .nil)))))) ?_)))))
 rintro _ _ ⟨y1,rfl,rfl,ZY⟩
 exact ZH 1 b3 (LJ y1) (ie (ZB (r3 [1,3] [Qi y1] [0] [(b3,b3)] ⟨y1,rfl,rfl,ob⟩ (lr _))))
theorem Zce (n:Zm) (bs:Nat) (hn:X4 n:=by exact ob) (hz:V4 n:=by exact ob) (hbt:∀r∈n.routines,0<=YT n r.params r.body):Zj 44 [Yr n,.val (.func (.func 59) #[] #[.pointer (some ⟨bs,0,none⟩)])] [.obj bs [ZP n.decls,YN n]] (fun r h=>∃(y:Qg),r=E3 y/\h=[.many (Td y),.obj bs [ZP n.decls,YN n]]/\y.er=Zm.mk n.decls (n.routines.map (Uz n.decls))):=by
 have hzl:=hn.len
 refine ZE 40 Tryz.func44 (ar (iA (YZ n) fun b1=>iA [nl,nl] fun b2=>ie (Zv 2 [1] (ic [] (Zc3 n.decls (hd:=hn.decls)) ?_))))
 rintro _ _ ⟨ys1,w1,rfl,rfl,ZY⟩
 have hde:=ZY
 refine Z2 1 (iA [nl,nl] fun b3=>?_)
 refine ZH 0 b3 [Cy ys1 w1,nl] (ie (Yk 2 [4] (iw (U9 n.routines) (Z0 (ab 0 (Tq 5 (T6 (tB [] [] [] (U2 []) (by simp [Qu,Qp,QM,QN,QO,QP,QL,Vh,WK,Qt,Vg,U1,VV,U2,Qq,Qr,Qs,Td])) (Y4 (fun fz gz m F h=>∃(k:Nat) (xs:List Vb) (v:Value),(k<=n.routines.length)/\(xs.map Vb.er=(n.routines.take k).map (Uz n.decls))/\(xs.length=k)/\F=sF [1,4,5,13,14] fz [(15,.i k)]/\h=[.obj b3 [Cy ys1 w1,EQ xs v],Zd gz 3,Zd gz 5,Zd gz 7,.tail v 5,Zd gz 4,.many (U2 xs)]/\m=n.routines.length-k) _ _ _ ⟨0,[],(.slice none 0 0),ob,rfl,rfl,rfl,rfl,rfl⟩ (wk [2,2,3,4,1,1,0] (Yb fl)) ?_))))))))
 rintro m F h ⟨k,xs,v,Ye,Zk,Zw,rfl,rfl,rfl⟩
 refine Zy (aq (XB ((k:Int)<(n.routines.length:Int)) (fun Za=>?_) (fun Za=>?_)))
 ·refine ak (aq (ab 1 (ar ?_)))
  obtain ⟨x1,Z3⟩:=Zs n.routines k om
  have hrm:=Y0 Z3
  have hbz:=hz.body _ hrm
  have hpl:=hn.params_at Z3
  have hll:=hn.lent_at Z3
  have hwb:=HG hn hz hbt _ hrm
  have hpb:=Z6.pz_le (x1).body
  refine Zp (Zl none (k:Int) 5 (WR Z3)) (Z2 1 (iA [nl,nl,.i 0,nl,.i 0] fun b4=>ZH 0 b4 (TG x1) (ie (aE 20 (ZI 8 20 [0,1,2,3,5,6,8,9,10,11,12,13] [1,0,0,0,0,0] (Z9 4 (dc 4 [] [0,0,0,0,1] [b4,b4,b4,b4,b3] (Eb x1.params) ?_)))))))
  rintro _ _ ⟨v1,rfl,rfl⟩
  refine Z9 7 (dc 7 [] [0,0,0,1] [b4,b4,b4,b3] (Eb x1.lent) ?_)
  rintro _ _ ⟨v2,rfl,rfl⟩
  refine Z9 14 (dc 14 [6] [0,1] [b4,b3] (Zci _ x1 x1.body bs (hw:=hwb)) ?_)
  rintro _ _ ⟨y1,rfl,rfl,Yi⟩
  exact Zh 4 5 [15] (Z9 16 (dL 16 [2] [b3] (Q7 [Vb.mk x1.params v1 x1.lent v2 x1.result (XG.mk y1.steps y1.sv y1.result)]) 1 5 fun v3=>YA 3 3 [] [(35,Zeo [Vb.mk x1.params v1 x1.lent v2 x1.result (XG.mk y1.steps y1.sv y1.result)])] (Z9 17 (dp 17 9 [] [] (Q7 (xs++[Vb.mk x1.params v1 x1.lent v2 x1.result (XG.mk y1.steps y1.sv y1.result)])) (Q7 xs) (Q7 [Vb.mk x1.params v1 x1.lent v2 x1.result (XG.mk y1.steps y1.sv y1.result)]) v none 5 (OK _) (OK _) (Z7z _) (by simp<;>omega) (by simp [Z7y,Q7]) fun v4=>Jp (tB [11,5,4,2] [.many (U2 xs),.tail v1 1,.tail v2 1,.many (Vg y1)] (U2 xs++((v1,1)::((v2,1)::(Vg y1++[])))) (U2 (xs++[Vb.mk x1.params v1 x1.lent v2 x1.result (XG.mk y1.steps y1.sv y1.result)])) (by simp [Qu,Qp,QM,QN,QO,QP,QL,Vh,WK,Qt,Vg,U1,VV,U2,Qq,Qr,Qs,Td,Zb5,XG.steps,XG.sv])) (Zh 1 2 [18] (Z9 19 (YO 19 5 [] [] b3 [Cy ys1 w1,EQ (xs++[Vb.mk x1.params v1 x1.lent v2 x1.result (XG.mk y1.steps y1.sv y1.result)]) v4] (de (az (ZJ k (Z0 (ZK ⟨k+1,(xs++[Vb.mk x1.params v1 x1.lent v2 x1.result (XG.mk y1.steps y1.sv y1.result)]),v4,ob,(Zek Zk Z3 (by show Yc.mk _ _ _ (XG.er (XG.mk y1.steps y1.sv y1.result))=Yc.mk _ _ _ _;rw [XG.eta];exact Yu (Yc.mk x1.params x1.lent x1.result) (by assumption))),(by simp [Zw]),rfl,rfl,rfl⟩ (wk [0,5,5,3,1,3,0] (ZM k fl))))))))))))))
 exact ax 0 (Zv 1 [0] (ZH 2 b2 [Cy ys1 w1,EQ xs v] (ie (T6 (tB [2,4,4,3] [.many (VV ys1),.tail w1 3,.many (U2 xs),.tail v 5] (VV ys1++((w1,3)::(U2 xs++((v,5)::[])))) (Td (Qg.mk ys1 w1 xs v)) (by simp [Qu,Qp,QM,QN,QO,QP,QL,Vh,WK,Qt,Vg,U1,VV,U2,Qq,Qr,Qs,Td])) (ZB (r3 [0,2] [.agg [Cy ys1 w1,EQ xs v]] [1] [(b2,b2)] ⟨(Qg.mk ys1 w1 xs v),rfl,rfl,(by show Zm.mk (ys1.map Vm.er) (xs.map Vb.er)=_;rw [hde,Zk,VA om])⟩ (lr _)))))))
theorem Zbw (n:Zm) (hz:V4 n) (hr:∀r∈n.routines,r.body.rng):Zj 20 [Yr n] [] (fun r h=>∃(y:Qg),r=.tup [E3 y,.b ((YC n).2)]/\h=[.many (Td y)]/\y.er=(YC n).1):=by
 refine ZE 24 Tryz.func20 (ar (iA (YZ n) fun b1=>iA [nl,nl] fun b2=>Z0 (Yk 1 [1] (Zx [] (Zbu n (hr:=hr)) (YD (!US n) (p:=¬(US n=true)) (Yl Iff.rfl) (fun Za=>?_) (fun Za=>?_))))))
 ·refine Y1 1 (ZH 0 b2 [nl,nl] (Z0 ?_))
  have hE:YC n=(Ax,false):=Z7 Za
  exact Tq 5 (Tq 3 (T6 (tB [0,0] [.tail (.slice none 0 0) 3,.tail (.slice none 0 0) 5] (((.slice none 0 0),3)::(((.slice none 0 0),5)::[])) (Td (Qg.mk [] (.slice none 0 0) [] (.slice none 0 0))) (by simp [Qu,Qp,QM,QN,QO,QP,QL,Vh,WK,Qt,Vg,U1,VV,U2,Qq,Qr,Qs,Td])) (ZB (r3 [0] [.agg [nl,nl],.b false] [1] [(b2,b2)] ⟨(Qg.mk [] (.slice none 0 0) [] (.slice none 0 0)),rfl,rfl,(by rw [hE];rfl)⟩ (Zc.tup (.cons (lr _) (.cons (lb (by rw [hE])) .nil)))))))
 have hB:US n=true:=Wa.1 Za
 obtain ⟨hn,hsg,hbt⟩:=FE hz hB
 refine ak (Zv 1 [1] (Zx [] (R1 n ob ob) (Z2 3 (iA [nl,nl] fun b3=>ZH 0 b3 [ZP n.decls,YN n] (Z0 (Zv 2 [2] (ic [0] (Zce n b3 (hbt:=hbt)) ?_)))))))
 rintro _ _ ⟨y1,rfl,rfl,ZY⟩
 have hy:y1.er=Wt n:=ZY
 have hnl:=hn.len
 refine iA [nl,nl] fun b4=>ZH 0 b4 (GT y1) (ie (Yk 1 [0] (Zx [] (Zca y1 (hl:=(by rw [hy];simp only [Wt,QC];omega)) (hb:=(by rw [hy];exact Z19 hn hz hbt))) (YD (!KZ y1.er) (p:=¬(KZ y1.er=true)) (Yl Iff.rfl) (fun Zg=>?_) (fun Zg=>?_)))))
 ·refine Y1 1 (ZH 3 b2 [nl,nl] (Z0 ?_))
  have hE:YC n=(Ax,false):=by rw [YC,Ze hB,Z7 (by rw [<-hy];exact Zg)]
  exact Tq 5 (Tq 3 (T6 (tB [0,0] [.tail (.slice none 0 0) 3,.tail (.slice none 0 0) 5] (((.slice none 0 0),3)::(((.slice none 0 0),5)::[])) (Td (Qg.mk [] (.slice none 0 0) [] (.slice none 0 0))) (by simp [Qu,Qp,QM,QN,QO,QP,QL,Vh,WK,Qt,Vg,U1,VV,U2,Qq,Qr,Qs,Td])) (ZB (r3 [0] [.agg [nl,nl],.b false] [1] [(b2,b2)] ⟨(Qg.mk [] (.slice none 0 0) [] (.slice none 0 0)),rfl,rfl,(by rw [hE];rfl)⟩ (Zc.tup (.cons (lr _) (.cons (lb (by rw [hE])) .nil)))))))
 refine ak (Zv 1 [0] (ZH 3 b2 (GT y1) (Z0 ?_)))
 have hE:YC n=(Wt n,true):=by rw [YC,Ze hB,Ze (by rw [<-hy];exact Wa.1 Zg)]
 exact ZB (r3 [2] [E3 y1,.b true] [0] [(b2,b2)] ⟨y1,rfl,rfl,(by rw [hE];exact hy)⟩ (Zc.tup (.cons (lr _) (.cons (lb (by rw [hE])) .nil))))
theorem Z6s (s:Z5) (cc:Nat) (g:Hd) (c0:LI) (q:Int) (hcb:CB c0 q:=by exact ob) (hq:0<=q/\q<=4000000000000:=by exact ob):Zj 55 [YF s,.p cc 0] [.obj cc [.h g],rV g c0] (fun r h=>h=[.obj cc [.h g],rV g (TR s.op c0)]):=by
 refine ZE 14 Tryz.func55 (ar (iA (Xx s) fun b1=>ie (Zv 2 [0] (Zx [] (EB s.op) (ie (ac (Yx s.op) Iff.rfl (fun Za=>?_) (fun Za=>?_)))))))
 ·have hr:=Z6r Za
  have hgx:0<=gI c0 (s.op-14)/\gI c0 (s.op-14)<=q:=hcb.at om
  have hlc:=hcb.len
  refine az (ZL 3 [1,0] (ia ((s.op-14)) ((s.op)-(14)) (Zp (Wg 2 g c0 (s.op-14) ((s.op-14).toNat) (hq:=rfl)) ?_)))
  obtain ⟨x1,Z3⟩:=Zs c0 ((s.op-14).toNat) om
  have hgy:=WS Z3
  exact V7 (VY 2 g c0 ((s.op-14).toNat) x1 Z3) (ia ((x1+1)) ((x1)+(1)) (Zp (Wg 2 g c0 (s.op-14) ((s.op-14).toNat) (hq:=rfl)) (Cs 2 g c0 ((s.op-14).toNat) (x1+1) (ie (r2 [2,0] [] rfl (lr _) (eq:=(rc (rv (xs:=(c0.set ((s.op-14).toNat) (x1+1))) (by rw [Z5v Za,hgy]) rz))))))))
 exact ak (r2 [1,1] [] rfl (lr _) (eq:=(rc (rv (xs:=c0) (Z5t Za).symm rz))))
theorem Zcm (b:Z6) (cc:Nat) (g:Hd) (c0:LI) (q:Int) (hcb:CB c0 q) (hq:0<=q/\q+b.sz<=4000000000000) (hz:b.sz<=1000000000) (ih:∀(b2:Z6) (cc:Nat) (g:Hd) (c2:LI) (q2:Int),(CB c2 q2)->(0<=q2/\q2+b2.sz<=4000000000000)->(b2.sz<=1000000000)->(b2.sz<b.sz)->Zj 54 [Y7 b2,.val (.func (.func 55) #[] #[.pointer (some ⟨cc,0,none⟩)])] [.obj cc [.h g],rV g c2] (fun r h=>h=[.obj cc [.h g],rV g (Tu b2 c2)])):Zj 54 [Y7 b,.val (.func (.func 55) #[] #[.pointer (some ⟨cc,0,none⟩)])] [.obj cc [.h g],rV g c0] (fun r h=>h=[.obj cc [.h g],rV g (Tu b c0)]):=by
 have hbz:=T3 b
 have hbe:=b.sz_eq
 refine ZE 30 Tryz.func54 (ar (iA (Xs b) fun b1=>?_))
 refine ie (Zv 2 [0] (iw (VR b.steps) (Z0 (ab 0 (Y4 (fun fz gz m F h=>∃(k:Nat) (c:LI),(k<=b.steps.length)/\(CB c (q+Yf (b.steps.take k)))/\(T9 (b.steps.drop k) c=T9 b.steps c0)/\F=sF [1,9,10] fz [(11,.i k)]/\h=[Zd gz 1,rV g c]/\m=b.steps.length-k) _ _ _ ⟨0,c0,ob,(hcb.le (by rw [List.take_zero,Yf];omega)),rfl,rfl,rfl,rfl⟩ (wk [1,1] (Yb fl)) ?_)))))
 rintro m F h ⟨k,c,Ye,Zk,Zw,rfl,rfl,rfl⟩
 refine Zy (aq (XB ((k:Int)<(b.steps.length:Int)) (fun Za=>?_) (fun Za=>?_)))
 ·refine ak (aq (ab 1 (ar ?_)))
  obtain ⟨x1,Z3⟩:=Zs b.steps k om
  have Xu:=DM Z3
  have hkz:=Te x1
  have htk:=MT Z3
  have htl:=AA b.steps (k+1)
  have hse:=x1.sz_eq
  refine Zp (Zl none (k:Int) 5 (VK Z3)) (Z2 1 (iA [.i 0,.i 0,.i 0,nl,nl] fun b2=>ZH 0 b2 (Xx x1) (ie (Zv 2 [0] (ic [1,1] (Z6s x1 cc g c (q+Yf (b.steps.take k)) (hcb:=Zk)) ?_)))))
  rintro _ _ rfl
  refine ie (Zv 2 [2] (iw (U8 x1.kids) (Z0 (ab 2 (Y4 (fun fz gz m F h=>∃(j:Nat) (c2:LI),(j<=x1.kids.length)/\(CB c2 (q+Yf (b.steps.take k)+1+X3 (x1.kids.take j)))/\(UC (x1.kids.drop j) c2=UC x1.kids (TR x1.op c))/\F=sF [1,9,10,11,19,20] fz [(21,.i j)]/\h=[Zd gz 0,rV g c2]/\m=x1.kids.length-j) _ _ _ ⟨0,(TR x1.op c),ob,((Zk.one om x1.op).le (by rw [List.take_zero,X3];omega)),rfl,rfl,rfl,rfl⟩ (wk [0,0] (Yb fl)) ?_)))))
  rintro m F h ⟨j,c2,U7,XO,XP,rfl,rfl,rfl⟩
  refine Zy (aq (XB ((j:Int)<(x1.kids.length:Int)) (fun Zg=>?_) (fun Zg=>?_)))
  ·refine ak (aq (ab 3 (ar ?_)))
   obtain ⟨x2,Zr⟩:=Zs x1.kids j om
   have hks:=TF Zr
   have hbt:=E9 Zr
   refine Zp (Zl none (j:Int) 2 (UV Zr)) (Z2 1 (iA [nl,.i 0] fun b3=>ZH 0 b3 (Xs x2) (ie (az (ZL 2 [0] (ic [1,1] (ih x2 cc g c2 (q+Yf (b.steps.take k)+1+X3 (x1.kids.take j)) XO ob ob ob) ?_))))))
   rintro _ _ rfl
   exact ie (az (ZJ j (Z0 (ZK ⟨j+1,(Tu x2 c2),ob,(by rw [V1 Zr,NT];exact ((XO.b x2 om).le om)),(Z5y Zr XP),rfl,rfl,rfl⟩ (wk [0,0] (ZM j fl))))))
  have hKe:=Z5w om XP
  have hbj:=Ic (xs:=x1.kids) (k:=j) om
  exact ax 2 (az (ZJ k (Z0 (ZK ⟨k+1,(UC x1.kids (TR x1.op c)),ob,(by rw [<-hKe];exact XO.le om),(Z64 Z3 Zw),rfl,rfl,rfl⟩ (wk [0,0] (ZM k fl) (e:=(rc (rv (xs:=c2) hKe rz))))))))
 exact ax 0 (r2 [0,0] [] rfl (lr _) (eq:=(rc (rv (xs:=c) (by rw [Z5x];exact Z62 om Zw) rz))))
open Go.Proofs
theorem Zck (k:Nat):∀(b2:Z6) (cc:Nat) (g:Hd) (c2:LI) (q2:Int),(CB c2 q2)->(0<=q2/\q2+b2.sz<=4000000000000)->(b2.sz<=1000000000)->(b2.sz<k)->Zj 54 [Y7 b2,.val (.func (.func 55) #[] #[.pointer (some ⟨cc,0,none⟩)])] [.obj cc [.h g],rV g c2] (fun r h=>h=[.obj cc [.h g],rV g (Tu b2 c2)]):=by
 induction k with
 | zero=>intro b cc g c q _ _ _ h;omega
 | succ k ih=>intro b cc g c q h1 h2 h3 h4;exact Zcm b cc g c q h1 h2 h3 fun b2 cc2 g2 c2 q2 k1 k2 k3 k4=>ih b2 cc2 g2 c2 q2 k1 k2 k3 om
theorem Zcl (b:Z6) (cc:Nat) (g:Hd) (c0:LI) (q:Int) (hcb:CB c0 q:=by exact ob) (hq:0<=q/\q+b.sz<=4000000000000:=by exact ob) (hz:b.sz<=1000000000:=by exact ob):Zj 54 [Y7 b,.val (.func (.func 55) #[] #[.pointer (some ⟨cc,0,none⟩)])] [.obj cc [.h g],rV g c0] (fun r h=>h=[.obj cc [.h g],rV g (Tu b c0)]):=Zck (b.sz+1) b cc g c0 q hcb hq hz om
theorem Zbv (n:Zm) (hz:V4 n:=by exact ob) (hr:∀r∈n.routines,r.body.rng):Zj 16 [Yr n] [] (fun r h=>∃(w:Hd),r=.h w/\h=[rV w (if WC n=true then UD n else [])]):=by
 refine ZE 23 Tryz.func16 (ar (iA (YZ n) fun b1=>Z0 (Yk 1 [0] (Zx [] (PT n (hr:=hr)) (YD (!WC n) (p:=¬(WC n=true)) (Yl Iff.rfl) (fun Za=>?_) (fun Za=>?_))))))
 ·exact Zy (T6 JJ (ZB (r2 [0] [nl] ⟨hN,rfl,rfl⟩ (Zc.hd (v:=hN)) (eq:=(rv (xs:=[]) (by rw [Z7 Za]) rz)))))
 have hV:WC n=true:=Wa.1 Za
 obtain ⟨hn,hvt⟩:=Fs hz hV
 have hzl:=hn.len
 refine ak (ar (iVM 4 fun v1=>iA [nl] fun b2=>?_))
 refine ZH 0 b2 [.h v1] (ie (Yk 2 [2] (iw (U9 n.routines) (Z0 (ab 0 (Y4 (fun fz gz m F h=>∃(k:Nat) (c:LI),(k<=n.routines.length)/\(CB c (10000000*k))/\(TS (n.routines.drop k) c=UD n)/\F=sF [3,11,12] fz [(13,.i k)]/\h=[Zd gz 0,rV v1 c]/\m=n.routines.length-k) _ _ _ ⟨0,(List.replicate 4 0),ob,⟨rfl,fun x hx=>by simp at hx;omega⟩,rfl,rfl,rfl,rfl⟩ (wk [0,0] (Yb fl)) ?_))))))
 rintro m F h ⟨k,c,Ye,Zk,Zw,rfl,rfl,rfl⟩
 refine Zy (aq (XB ((k:Int)<(n.routines.length:Int)) (fun Zg=>?_) (fun Zg=>?_)))
 ·refine ak (aq (ab 1 (ar ?_)))
  obtain ⟨x1,Z3⟩:=Zs n.routines k om
  have hrm:=Y0 Z3
  have hbz:=hz.body _ hrm
  refine Zp (Zl none (k:Int) 5 (WR Z3)) (Z2 1 (iA [nl,nl,.i 0,nl,.i 0] fun b3=>ZH 0 b3 (TG x1) (ie (az (ZL 3 [0] (ic [1,1] (Zcl x1.body b2 v1 c (10000000*(k:Int)) (hcb:=Zk)) ?_))))))
  rintro _ _ rfl
  exact ie (az (ZJ k (Z0 (ZK ⟨k+1,(Tu x1.body c),ob,((Zk.b x1.body om).le om),(Z60 Z3 Zw),rfl,rfl,rfl⟩ (wk [0,0] (ZM k fl))))))
 exact ax 0 (A1 [0] (ZB (r1 [1] ⟨v1,rfl,rfl⟩ (eq:=(rv (xs:=c) (by rw [Ze hV];exact Z5z om Zw) rz)))))
theorem Ziu (n:Zm) (hl:n.routines.length<=4194304:=by exact ob) (hb:∀r∈n.routines,r.body.sz<=1000000000):Zj 62 [Yr n] [] (fun r h=>(r=.tup [Yr n,.b true]/\h=[]/\KZ n=true)∨(r=.tup [.agg [ZP [],KC []],.b false]/\h=[]/\KZ n=false)):=by
 refine ZE 22 Tryz.func62 (ar (iA (YZ n) fun b1=>iA [nl,nl] fun b2=>?_))
 refine Z0 (Ym (ab 0 (Y4 (fun fz gz m F h=>∃(k:Nat),(k<=n.routines.length)/\(J0 (n.routines.drop k)=J0 n.routines)/\F=sF [1,2] fz [(4,.i k)]/\h=gz/\m=n.routines.length-k) _ _ _ ⟨0,ob,ob,rfl,rfl,rfl⟩ (wk [0,0] (Yb fl)) ?_)))
 rintro m F h ⟨k,Ye,Zk,rfl,rfl,rfl⟩
 refine Yk 3 [1] (iw (U9 n.routines) (Y9 ((k:Int)<(n.routines.length:Int)) (fun Za=>?_) (fun Za=>?_)))
 ·refine ak (aq (ab 1 (Zv 3 [1] ?_)))
  obtain ⟨x1,Z3⟩:=Zs n.routines k om
  refine Zp (Zl none (k:Int) 5 (WR Z3)) (Z2 2 (Zx [] (Z1t x1.body (hb:=(hb _ (Y0 Z3)))) (Y9 ((UB x1.body)<0) (fun Zg=>?_) (fun Zg=>?_))))
  ·exact Y1 1 (ZH 0 b2 [nl,nl] (Zo (r3 [] [.agg [nl,nl],.b false] [0] [(b2,b2)] (.inr ⟨rfl,rfl,(by rw [KZ,<-Zk,Y5 Z3,J0,Ze (by assumption)])⟩) (Zc.tup (.cons (Zc.agg (.cons (Zc.sl _ rfl) (.cons (Zc.sl _ rfl) .nil))) (.cons (lr _) .nil))))))
  exact ak (az (Z2 1 (ZJ k (Z0 (ZK ⟨k+1,ob,(by rw [Y5 Z3,J0,Z7 (by assumption)] at Zk;exact Zk),rfl,rfl,rfl⟩ (wk [0,0] (ZM k fl)))))))
 exact ax 0 (Zv 1 [1] (ZH 0 b2 (YZ n) (Zo (r3 [] [Yr n,.b true] [0] [(b2,b2)] (.inl ⟨rfl,rfl,(by rw [KZ,<-Zk,Xj om];rfl)⟩) (lr _)))))
theorem Zj5 (n:Zm) (hn:X4 n:=by exact ob) (hz:V4 n:=by exact ob) (hbt:∀r∈n.routines,0<=YT n r.params r.body):Zj 39 [Yr n] [] (Yn (Yr (Wt n))):=by
 have hzl:=hn.len
 refine ZE 38 Tryz.func39 (ar (iA (YZ n) fun b1=>iA [nl,nl] fun b2=>ie (Zv 2 [1] (Zx [] (Ff n.decls (hd:=hn.decls)) (iL (X6 []) 0 5 fun v1=>Z2 1 (iA [nl,nl] fun b3=>?_))))))
 refine ZH 0 b3 [ZP n.decls,U3 [] v1] (ie (Ym (ab 0 (Y4 (fun fz gz m F h=>∃(k:Nat) (v:Value),(k<=n.routines.length)/\F=sF [1,2,3] fz [(4,.i k)]/\h=[.obj b3 [ZP n.decls,U3 ((n.routines.take k).map (Uz n.decls)) v],Zd gz 2,Zd gz 3,.tail v 5]/\m=n.routines.length-k) _ _ _ ⟨0,v1,ob,rfl,rfl,rfl⟩ (wk [0,1,1,0] (Yb fl)) ?_))))
 rintro m F h ⟨k,v,Ye,rfl,rfl,rfl⟩
 refine Yk 3 [2] (iw (U9 n.routines) (Y9 ((k:Int)<(n.routines.length:Int)) (fun Za=>?_) (fun Za=>?_)))
 ·refine ak (aq (ab 1 (Zv 3 [2] ?_)))
  obtain ⟨x1,Z3⟩:=Zs n.routines k om
  have hrm:=Y0 Z3
  have hbz:=hz.body _ hrm
  have hpl:=hn.params_at Z3
  have hll:=hn.lent_at Z3
  have hwb:=HG hn hz hbt _ hrm
  exact Zp (Zl none (k:Int) 5 (WR Z3)) (Z2 1 (iA [nl,nl,.i 0,nl,.i 0] fun b4=>ZH 0 b4 (TG x1) (ie (aE 15 (ZI 7 15 [0,1,2,3,4,5,6,7] [1,0,3,0,0] (dw 8 (Ya x1.params) (Z9 9 (Yz 9 [] [0,1] [b4,b3] (Zj3 n x1.body x1.params.length (hw:=hwb)) (Z9 10 (Yz 10 [] [1] [b3] (Hu x1 (XA n.decls x1.params.length x1.body)) (Z9 11 (dL 11 [1] [b3] (X6 [Yc.mk x1.params x1.lent x1.result (XA n.decls x1.params.length x1.body)]) 1 5 fun v2=>YA 3 3 [] [(34,KC [Yc.mk x1.params x1.lent x1.result (XA n.decls x1.params.length x1.body)])] (Z9 12 (dp 12 5 [] [] (X6 ((n.routines.take (k+1)).map (Uz n.decls))) (X6 ((n.routines.take k).map (Uz n.decls))) (X6 [Yc.mk x1.params x1.lent x1.result (XA n.decls x1.params.length x1.body)]) v none 5 (Ql _) (Ql _) (Db _) (by simp<;>omega) (by rw [V1 Z3];simp [X6,Uz]) fun v3=>Zh 1 2 [13] (Z9 14 (YO 14 3 [] [] b3 [ZP n.decls,U3 ((n.routines.take (k+1)).map (Uz n.decls)) v3] (de (az (Z2 1 (ZJ k (Z0 (ZK ⟨k+1,v3,ob,rfl,rfl,rfl⟩ (wk [0,3,3,0] (ZM k fl))))))))))))))))))))))))
 exact ax 0 (Zv 1 [0] (ZH 1 b2 [ZP n.decls,U3 ((n.routines.take k).map (Uz n.decls)) v] (ie (ZB (r3 [] [.agg [ZP n.decls,U3 ((n.routines.take k).map (Uz n.decls)) v]] [0] [(b2,b2)] ⟨rfl,rfl⟩ (Zc.agg (.cons (Zc.sl _ (Yu YB ob)) (.cons (Zc.sl _ (Yu X6 (by rw [VA om];rfl))) .nil))))))))
theorem Zii (n:Zm) (hz:V4 n:=by exact ob):Zj 21 [Yr n] [] (Yn (.tup [Yr ((YC n).1),.b ((YC n).2)])):=by
 refine ZE 13 Tryz.func21 (ar (iA (YZ n) fun b1=>iA [nl,nl] fun b2=>Z0 (Yk 1 [1] (Zx [] (Zim n) (YD (!US n) (p:=¬(US n=true)) (Yl Iff.rfl) (fun Za=>?_) (fun Za=>?_))))))
 ·refine Y1 1 (ZH 0 b2 [nl,nl] (Z0 ?_))
  have hE:YC n=(Ax,false):=Z7 Za
  exact ZB (r3 [] [.agg [nl,nl],.b false] [0] [(b2,b2)] ⟨rfl,rfl⟩ (Zc.tup (.cons (Zc.agg (.cons (Zc.sl _ (by rw [hE];rfl)) (.cons (Zc.sl _ (by rw [hE];rfl)) .nil))) (.cons (lb (by rw [hE])) .nil))))
 have hB:US n=true:=Wa.1 Za
 obtain ⟨hn,hsg,hbt⟩:=FE hz hB
 have hnl:=hn.len
 refine ak (Zv 1 [1] (Zx [] (Zj5 n (hbt:=hbt)) (ic [] (Ziu (Wt n) (hl:=(by simp only [Wt,QC];omega)) (hb:=(Z19 hn hz hbt))) ?_)))
 rintro _ _ (⟨rfl,rfl,ZY⟩|⟨rfl,rfl,Yi⟩)
 ·have hE:YC n=(Wt n,true):=by rw [YC,Ze hB,Ze ZY]
  exact Z2 2 (ZH 0 b2 (YZ (Wt n)) (Zo (r3 [] [Yr (Wt n),.b true] [0] [(b2,b2)] ⟨rfl,rfl⟩ (Zc.tup (.cons (Zc.agg (.cons (Zc.sl _ (Yu YB (by rw [hE]))) (.cons (Zc.sl _ (Yu X6 (by rw [hE]))) .nil))) (.cons (lb (by rw [hE])) .nil))))))
 have hE:YC n=(Ax,false):=by rw [YC,Ze hB,Z7 (by rw [Yi];simp)]
 exact Z2 2 (ZH 0 b2 [ZP [],KC []] (Zo (r3 [] [.agg [ZP [],KC []],.b false] [0] [(b2,b2)] ⟨rfl,rfl⟩ (Zc.tup (.cons (Zc.agg (.cons (Zc.sl _ (Yu YB (by rw [hE];rfl))) (.cons (Zc.sl _ (Yu X6 (by rw [hE];rfl))) .nil))) (.cons (lb (by rw [hE])) .nil))))))
theorem Zbx (n:Zm) (hz:V4 n:=by exact ob) (hr:∀r∈n.routines,r.body.rng):Zj 20 [Yr n] [] (Yn (.tup [Yr ((YC n).1),.b ((YC n).2)])):=((Zbw n hz hr).alone fun r h ⟨y,e1,e2,e3⟩=>by rw [e1,<-e3];exact Zc.tup (.cons (NI y) (.cons (Zc.refl _) .nil)))
theorem PR (n:Zm) (hz:V4 n:=by exact ob) (hr:∀r∈n.routines,r.body.rng):Zj 16 [Yr n] [] (Yn (Z4 (cF n))):=(Wh.frzI (Zbv n hz hr))
theorem GU (xs:LI) (ys:LI) (hxl:xs.length<=1000000000:=by exact ob) (hyl:ys.length<=1000000000:=by exact ob):Zj 52 [Z4 xs,Z4 ys] [] (Yn (.b (decide (xs=ys)))):=by
 refine ZE 26 Tryz.func52 (Zy (YP 1 (iw (Ya xs) (Z2 1 (iw (Ya ys) (YD ((xs.length:Int) != (ys.length:Int)) Y3 (fun Za=>?_) (fun Za=>?_)))))))
 ·exact ar (Zo (ZU (.b false) (lb (decide_eq_false (fun z=>Za (by rw [z]))).symm)))
 refine ak (Ym (ab 0 (Y4 (fun fz gz m F h=>∃(k:Nat),(k<=xs.length)/\(∀i,i<k->xs[i]? = ys[i]?)/\F=sF [0,1] fz [(5,.i k)]/\h=gz/\m=xs.length-k) _ _ _ ⟨0,ob,(fun i h=>absurd h om),rfl,rfl,rfl⟩ (wk [] (Yb fl)) ?_)))
 rintro m F h ⟨k,Ye,Zk,rfl,rfl,rfl⟩
 refine YP 2 (iw (Ya xs) (Y9 ((k:Int)<(xs.length:Int)) (fun Zg=>?_) (fun Zg=>?_)))
 ·refine ak (aq (ab 1 (aD 9 (Zh 7 9 [0,1] ?_))))
  obtain ⟨x1,Z3⟩:=Zs xs k om
  refine dx 2 (Zl none (k:Int) 1 (ZZ Z3)) (Zh 3 6 [3,4,5] ?_)
  obtain ⟨x2,Zr⟩:=Zs ys k om
  refine dx 6 (Zl none (k:Int) 1 (ZZ Zr)) (Zh 0 2 [7,8] (de (ac (x1 != x2) Y3 (fun ZD=>?_) (fun ZD=>?_))))
  ·exact ar (Zo (ZU (.b false) (lb (decide_eq_false (fun z=>ZD (by rw [z,Zr] at Z3;cases Z3;rfl))).symm)))
  exact ak (az (Z2 1 (ZJ k (Z0 (ZK ⟨k+1,ob,(fun i h=>(Nat.lt_succ_iff_lt_or_eq.1 h).elim (Zk i) (fun z=>by rw [z,Z3,Zr,Wa.1 ZD])),rfl,rfl,rfl⟩ (wk [] (ZM k fl)))))))
 exact ax 0 (ar (Zo (ZU (.b true) (lb (decide_eq_true (Z8c om (fun i hi=>Zk i om))).symm))))
theorem Zdu (ds:List Zf) (es:List Zf) (hd:KN ds:=by exact ob) (he:KN es:=by exact ob):Zj 51 [ZP ds,ZP es] [] (Yn (.b (decide (ds=es)))):=by
 have hdl:=hd.len
 have hel:=he.len
 refine ZE 87 Tryz.func51 (Zy (YP 1 (iw (Uf ds) (Z2 1 (iw (Uf es) (YD ((ds.length:Int) != (es.length:Int)) Y3 (fun Za=>?_) (fun Za=>?_)))))))
 ·exact ar (Zo (ZU (.b false) (lb (decide_eq_false (fun z=>Za (by rw [z]))).symm)))
 refine ak (Ym (ab 0 (Y4 (fun fz gz m F h=>∃(k:Nat),(k<=ds.length)/\(∀i,i<k->ds[i]? = es[i]?)/\F=sF [0,1] fz [(5,.i k)]/\h=gz/\m=ds.length-k) _ _ _ ⟨0,ob,Fo,rfl,rfl,rfl⟩ (wk [] (Yb fl)) ?_)))
 rintro m F h ⟨k,Ye,Zk,rfl,rfl,rfl⟩
 refine YP 2 (iw (Uf ds) (Y9 ((k:Int)<(ds.length:Int)) (fun Zg=>?_) (fun Zg=>?_)))
 ·refine ak (aq (ab 1 (aq (aD 39 (Zh 37 39 [0,1] ?_)))))
  obtain ⟨x1,Z3⟩:=Zs ds k om
  have hcl:=hd.cons_at Z3
  refine dx 2 (Zl none (k:Int) 3 (WQ Z3)) (Zh 32 36 [3,4,5,6] ?_)
  obtain ⟨x2,Zr⟩:=Zs es k om
  refine dx 7 (Zl none (k:Int) 3 (WQ Zr)) (JZ [0,1,5] [(56,.b ((x1.frm != x2.frm)||((x1.to_ != x2.to_)||((x1.cons.length:Int) != (x2.cons.length:Int)))))] (fun gz=>gz) ?_ ?_)
  ·refine Zh 27 31 [8,9,10,11] (db (b:=(x1.frm != x2.frm)) 29 (fun Zb=>?_) (fun Zb=>?_))
   ·have ZY:x1.frm≠x2.frm:=(Y3).1 Zb
    exact Zh 0 27 [12,13,14,15,16,17,18,19,20,21,22,23,24,25,26,27,28,29,30,31,32,33,34,35,36,37,38] (de (wk [] (Zt true Zb fl)))
   have Yi:¬(x1.frm≠x2.frm):=Y6 Y3 Zb
   refine Zh 25 27 [12,13] (dx 14 (Zl none (k:Int) 3 (WQ Z3)) (Zh 20 24 [15,16,17,18] (dx 19 (Zl none (k:Int) 3 (WQ Zr)) (Zh 14 19 [20,21,22,23,24] (db (b:=(x1.to_ != x2.to_)) 42 (fun Zz=>?_) (fun Zz=>?_))))))
   ·have YJ:x1.to_≠x2.to_:=(Y3).1 Zz
    exact Zh 0 14 [25,26,27,28,29,30,31,32,33,34,35,36,37,38] (de (wk [] (Zt true (And.intro Zb Zz) fl)))
   have YR:¬(x1.to_≠x2.to_):=Y6 Y3 Zz
   exact Zh 12 14 [25,26] (dx 27 (Zl none (k:Int) 3 (WQ Z3)) (Zh 9 11 [28,29] (dw 30 (Uo x1.cons) (Zh 6 8 [31,32] (dx 33 (Zl none (k:Int) 3 (WQ Zr)) (Zh 3 5 [34,35] (dw 36 (Uo x2.cons) (Zh 0 2 [37,38] (de (wk [] (Zt ((x1.cons.length:Int) != (x2.cons.length:Int)) (And.intro Zb Zz) fl)))))))))))
  refine ac ((x1.frm != x2.frm)||((x1.to_ != x2.to_)||((x1.cons.length:Int) != (x2.cons.length:Int)))) (p:=(x1.frm≠x2.frm)∨((x1.to_≠x2.to_)∨((x1.cons.length:Int)≠(x2.cons.length:Int)))) (Yh Y3 (Yh Y3 Y3)) (fun ZD=>?_) (fun ZD=>?_)
  ·exact ar (Zo (ZU (.b false) (lb (decide_eq_false (CP Z3 Zr (fun z=>by rw [z] at ZD;simp at ZD))).symm)))
  simp only [not_or,ne_eq,Wa,decide_eq_true_eq] at ZD
  obtain ⟨hq1,hq2,hq3⟩:=ZD
  refine ak (Zy (ab 2 (Y4 (fun fz gz m F h=>∃(j:Nat),(j<=x1.cons.length)/\(∀i,i<j->x1.cons[i]? = x2.cons[i]?)/\F=sF [0,1,5] fz [(6,.i j)]/\h=gz/\m=x1.cons.length-j) _ _ _ ⟨0,ob,Fo,rfl,rfl,rfl⟩ (wk [] (Yb fl)) ?_)))
  rintro m F h ⟨j,U7,XO,rfl,rfl,rfl⟩
  refine YP 3 (Zp (Zl none (k:Int) 3 (WQ Z3)) (Z2 2 (iw (Uo x1.cons) (Y9 ((j:Int)<(x1.cons.length:Int)) (fun Yj=>?_) (fun Yj=>?_)))))
  ·refine ak (aq (ab 3 (aD 20 (Zh 18 20 [0,1] (dx 2 (Zl none (k:Int) 3 (WQ Z3)) (Zh 14 17 [3,4,5] ?_))))))
   obtain ⟨x3,YG⟩:=Zs x1.cons j om
   refine dx 6 (Zl none (j:Int) 1 (AU YG)) (Zh 9 13 [7,8,9,10] (dx 11 (Zl none (k:Int) 3 (WQ Zr)) (Zh 5 8 [12,13,14] ?_)))
   obtain ⟨x4,Wy⟩:=Zs x2.cons j om
   refine dx 15 (Zl none (j:Int) 1 (AU Wy)) (Zh 2 4 [16,17] (Z9 18 (Yz 18 [] [] [] (GU x3.fields x4.fields (hxl:=(VB (hd.fields_at Z3 YG) (by decide))) (hyl:=(VB (he.fields_at Zr Wy) (by decide)))) (Zh 0 1 [19] (de (ac (!(decide (x3.fields=x4.fields))) (p:=¬(x3.fields=x4.fields)) (Yl dq) (fun Xh=>?_) (fun Xh=>?_)))))))
   ·exact ar (Zo (ZU (.b false) (lb (decide_eq_false (CP Z3 Zr (fun z=>CP YG Wy (fun w=>Xh (Yu Yg.fields w)) (Yu Zf.cons z)))).symm)))
   exact ak (az (Z2 1 (ZJ j (Z0 (ZK ⟨j+1,ob,(Fp XO YG Wy (Yg.ext1 (Wa.1 Xh))),rfl,rfl,rfl⟩ (wk [] (ZM j fl)))))))
  have hE:=En (xs:=x1.cons) (ys:=x2.cons) om (fun i hi=>XO i om)
  exact ax 2 (az (Z2 1 (ZJ k (Z0 (ZK ⟨k+1,ob,(Fp Zk Z3 Zr (Zf.ext3 hq1 hq2 hE)),rfl,rfl,rfl⟩ (wk [] (ZM k fl)))))))
 exact ax 0 (ar (Zo (ZU (.b true) (lb (decide_eq_true (En om (fun i hi=>Zk i om))).symm))))
theorem Zdv (z:Nat) (s:Z5) (t:Z5) (hz:s.sz<=z+1:=by exact ob) (hs:s.sz<=1000000000:=by exact ob) (ht:t.sz<=1000000000:=by exact ob) (ih:∀(a2:Z6) (b2:Z6),(a2.sz<=z)->(a2.sz<=1000000000)->(b2.sz<=1000000000)->Zj 53 [Y7 a2,Y7 b2] [] (Yn (.b (decide (a2=b2))))):Zj 112 [YF s,YF t] [] (Yn (.b (decide (s=t)))):=by
 have hsa:=K6 s
 have hta:=K6 t
 have hsk:=Te s
 have htk:=Te t
 refine ZE 61 Tryz.func112 (ar (iA (Xx s) fun b1=>iA (Xx t) fun b2=>Z0 (X7 (XD 12 [2,3] [(17,.b ((s.op != t.op)||(s.num != t.num)))] (fun gz=>gz) ?_ (fun hj1=>?_)))))
 ·refine XD 19 [2,3] [(24,.b (((s.op != t.op)||(s.num != t.num))||(s.into != t.into)))] (fun gz=>gz) ?_ (fun hj2=>?_)
  ·refine XD 27 [2,3] [(32,.b ((((s.op != t.op)||(s.num != t.num))||(s.into != t.into))||(!(decide (s.args=t.args)))))] (fun gz=>gz) ?_ (fun hj3=>?_)
   ·refine Xv [2,3] [(41,.b (((((s.op != t.op)||(s.num != t.num))||(s.into != t.into))||(!(decide (s.args=t.args))))||((s.kids.length:Int) != (t.kids.length:Int))))] (fun gz=>gz) ?_ ?_
    ·refine Z2 1 (ib (b:=((((s.op != t.op)||(s.num != t.num))||(s.into != t.into))||(!(decide (s.args=t.args))))) 33 (fun Zb=>?_) (fun Zb=>?_))
     ·have ZY:(((s.op≠t.op)∨(s.num≠t.num))∨(s.into≠t.into))∨(¬(s.args=t.args)):=((Yh (Yh (Yh Y3 Y3) Y3) (Yl dq))).1 Zb
      exact Z0 (wk [0,0] (Zt true Zb fl))
     have Yi:¬((((s.op≠t.op)∨(s.num≠t.num))∨(s.into≠t.into))∨(¬(s.args=t.args))):=Y6 (Yh (Yh (Yh Y3 Y3) Y3) (Yl dq)) Zb
     exact ZL 2 [1] (iw (U8 s.kids) (ZL 2 [0] (iw (U8 t.kids) (Z0 (wk [0,0] (Zt ((s.kids.length:Int) != (t.kids.length:Int)) Zb fl))))))
    refine ac (((((s.op != t.op)||(s.num != t.num))||(s.into != t.into))||(!(decide (s.args=t.args))))||((s.kids.length:Int) != (t.kids.length:Int))) (p:=((((s.op≠t.op)∨(s.num≠t.num))∨(s.into≠t.into))∨(¬(s.args=t.args)))∨((s.kids.length:Int)≠(t.kids.length:Int))) (Yh (Yh (Yh (Yh Y3 Y3) Y3) (Yl dq)) Y3) (fun Za=>?_) (fun Za=>?_)
    ·exact ar (Zo (ZU (.b false) (lb (decide_eq_false (fun z=>by rw [z] at Za;simp at Za)).symm)))
    simp only [not_or,ne_eq,Wa,decide_eq_true_eq] at Za
    obtain ⟨⟨⟨⟨hq1,hq2⟩,hq3⟩,hq4⟩,hq5⟩:=Za
    refine ak (Ym (ab 0 (Y4 (fun fz gz m F h=>∃(k:Nat),(k<=s.kids.length)/\(∀i,i<k->s.kids[i]? = t.kids[i]?)/\F=sF [2,3] fz [(5,.i k)]/\h=gz/\m=s.kids.length-k) _ _ _ ⟨0,ob,Fo,rfl,rfl,rfl⟩ (wk [0,0] (Yb fl)) ?_)))
    rintro m F h ⟨k,Ye,Zk,rfl,rfl,rfl⟩
    refine Yk 3 [1] (iw (U8 s.kids) (Y9 ((k:Int)<(s.kids.length:Int)) (fun Zg=>?_) (fun Zg=>?_)))
    ·refine ak (aq (ab 1 (aD 12 (ZI 9 12 [0,1,2] [1] ?_))))
     obtain ⟨x1,Z3⟩:=Zs s.kids k om
     have hk1:=TF Z3
     refine dx 3 (Zl none (k:Int) 2 (UV Z3)) (ZI 4 8 [4,5,6,7] [0] ?_)
     obtain ⟨x2,Zr⟩:=Zs t.kids k om
     have hk2:=TF Zr
     refine dx 8 (Zl none (k:Int) 2 (UV Zr)) (Zh 2 3 [9] (Z9 10 (Yz 10 [] [] [] (ih x1 x2 ob ob ob) (Zh 0 1 [11] (de (ac (!(decide (x1=x2))) (p:=¬(x1=x2)) (Yl dq) (fun ZD=>?_) (fun ZD=>?_)))))))
     ·exact ar (Zo (ZU (.b false) (lb (decide_eq_false (fun z=>CP Z3 Zr ZD (Yu Z5.kids z))).symm)))
     exact ak (az (Z2 1 (ZJ k (Z0 (ZK ⟨k+1,ob,(Fp Zk Z3 Zr (Wa.1 ZD)),rfl,rfl,rfl⟩ (wk [0,0] (ZM k fl)))))))
    exact ax 0 (ar (Zo (ZU (.b true) (lb (decide_eq_true (Z5.ext4 hq1 hq2 hq3 hq4 (En om (fun i hi=>Zk i om)))).symm))))
   refine Z2 1 (ib (b:=(((s.op != t.op)||(s.num != t.num))||(s.into != t.into))) 25 (fun Zz=>?_) (fun Zz=>?_))
   ·have YJ:((s.op≠t.op)∨(s.num≠t.num))∨(s.into≠t.into):=((Yh (Yh Y3 Y3) Y3)).1 Zz
    exact Z2 7 (Yp (wk [0,0] (Zt true Zz fl)) hj3)
   have YR:¬(((s.op≠t.op)∨(s.num≠t.num))∨(s.into≠t.into)):=Y6 (Yh (Yh Y3 Y3) Y3) Zz
   exact ZL 4 [1,0] (Zx [] (GU s.args t.args) (Z2 2 (Yp (wk [0,0] (Zt (!(decide (s.args=t.args))) Zz fl)) hj3)))
  refine Z2 1 (ib (b:=((s.op != t.op)||(s.num != t.num))) 18 (fun Yo=>?_) (fun Yo=>?_))
  ·have Xk:(s.op≠t.op)∨(s.num≠t.num):=((Yh Y3 Y3)).1 Yo
   exact Z2 6 (Yp (wk [0,0] (Zt true Yo fl)) hj2)
  have XX:¬((s.op≠t.op)∨(s.num≠t.num)):=Y6 (Yh Y3 Y3) Yo
  exact ZL 6 [1,0] (Yp (wk [0,0] (Zt (s.into != t.into) Yo fl)) hj2)
 refine ZL 6 [1,0] (ib (b:=(s.op != t.op)) 11 (fun Xg=>?_) (fun Xg=>?_))
 ·have WA:s.op≠t.op:=(Y3).1 Xg
  exact Z2 6 (Yp (wk [0,0] (Zt true Xg fl)) hj1)
 have WY:¬(s.op≠t.op):=Y6 Y3 Xg
 exact ZL 6 [1,0] (Yp (wk [0,0] (Zt (s.num != t.num) Xg fl)) hj1)
theorem Zds (z:Nat) (a:Z6) (b:Z6) (hz:a.sz<=z+1:=by exact ob) (ha:a.sz<=1000000000:=by exact ob) (hb:b.sz<=1000000000:=by exact ob) (ih:∀(a2:Z6) (b2:Z6),(a2.sz<=z)->(a2.sz<=1000000000)->(b2.sz<=1000000000)->Zj 53 [Y7 a2,Y7 b2] [] (Yn (.b (decide (a2=b2))))):Zj 53 [Y7 a,Y7 b] [] (Yn (.b (decide (a=b)))):=by
 have hsa:=T3 a
 have hsb:=T3 b
 refine ZE 39 Tryz.func53 (ar (iA (Xs a) fun b1=>iA (Xs b) fun b2=>Z0 (X7 (Xv [2,3] [(19,.b ((a.result != b.result)||((a.steps.length:Int) != (b.steps.length:Int))))] (fun gz=>gz) ?_ ?_))))
 ·refine ZL 6 [1,0] (ib (b:=(a.result != b.result)) 11 (fun Zb=>?_) (fun Zb=>?_))
  ·have ZY:a.result≠b.result:=(Y3).1 Zb
   exact Z0 (wk [0,0] (Zt true Zb fl))
  have Yi:¬(a.result≠b.result):=Y6 Y3 Zb
  exact ZL 2 [1] (iw (VR a.steps) (ZL 2 [0] (iw (VR b.steps) (Z0 (wk [0,0] (Zt ((a.steps.length:Int) != (b.steps.length:Int)) Zb fl))))))
 refine ac ((a.result != b.result)||((a.steps.length:Int) != (b.steps.length:Int))) (p:=(a.result≠b.result)∨((a.steps.length:Int)≠(b.steps.length:Int))) (Yh Y3 Y3) (fun Za=>?_) (fun Za=>?_)
 ·exact ar (Zo (ZU (.b false) (lb (decide_eq_false (fun z=>by rw [z] at Za;simp at Za)).symm)))
 simp only [not_or,ne_eq,Wa,decide_eq_true_eq] at Za
 obtain ⟨hq1,hq2⟩:=Za
 refine ak (Ym (ab 0 (Y4 (fun fz gz m F h=>∃(k:Nat),(k<=a.steps.length)/\(∀i,i<k->a.steps[i]? = b.steps[i]?)/\F=sF [2,3] fz [(5,.i k)]/\h=gz/\m=a.steps.length-k) _ _ _ ⟨0,ob,Fo,rfl,rfl,rfl⟩ (wk [0,0] (Yb fl)) ?_)))
 rintro m F h ⟨k,Ye,Zk,rfl,rfl,rfl⟩
 refine Yk 3 [1] (iw (VR a.steps) (Y9 ((k:Int)<(a.steps.length:Int)) (fun Zg=>?_) (fun Zg=>?_)))
 ·refine ak (aq (ab 1 (aD 12 (ZI 9 12 [0,1,2] [1] ?_))))
  obtain ⟨x1,Z3⟩:=Zs a.steps k om
  have hk1:=Ab Z3
  refine dx 3 (Zl none (k:Int) 5 (VK Z3)) (ZI 4 8 [4,5,6,7] [0] ?_)
  obtain ⟨x2,Zr⟩:=Zs b.steps k om
  have hk2:=Ab Zr
  refine dx 8 (Zl none (k:Int) 5 (VK Zr)) (Zh 2 3 [9] (Z9 10 (Yz 10 [] [] [] (Zdv z x1 x2 (ih:=ih)) (Zh 0 1 [11] (de (ac (!(decide (x1=x2))) (p:=¬(x1=x2)) (Yl dq) (fun ZD=>?_) (fun ZD=>?_)))))))
  ·exact ar (Zo (ZU (.b false) (lb (decide_eq_false (fun z=>CP Z3 Zr ZD (Yu Z6.steps z))).symm)))
  exact ak (az (Z2 1 (ZJ k (Z0 (ZK ⟨k+1,ob,(Fp Zk Z3 Zr (Wa.1 ZD)),rfl,rfl,rfl⟩ (wk [0,0] (ZM k fl)))))))
 exact ax 0 (ar (Zo (ZU (.b true) (lb (decide_eq_true (Z6.ext2 (En om (fun i hi=>Zk i om)) hq1)).symm))))
theorem Zdt (m:Nat):∀(a2:Z6) (b2:Z6),(a2.sz<=m)->(a2.sz<=1000000000)->(b2.sz<=1000000000)->Zj 53 [Y7 a2,Y7 b2] [] (Yn (.b (decide (a2=b2)))):=by
 induction m with
 | zero=>intro a b h;have:=a.sz_pos;omega
 | succ m ih=>intro a b h1 h2 h3;exact Zds m a b h1 h2 h3 ih
theorem Zdr (a:Z6) (b:Z6) (ha:a.sz<=1000000000:=by exact ob) (hb:b.sz<=1000000000:=by exact ob):Zj 53 [Y7 a,Y7 b] [] (Yn (.b (decide (a=b)))):=Zdt a.sz a b (YU _) ha hb
theorem LL (n:Zm) (t:Zm) (hn:V4 n:=by exact ob) (ht:V4 t:=by exact ob):Zj 15 [Yr n,Yr t] [] (Yn (.b (decide (n=t)))):=by
 have hnl:=hn.len
 have htl:=ht.len
 refine ZE 69 Tryz.func15 (ar (iA (YZ n) fun b1=>iA (YZ t) fun b2=>Z0 (Yk 4 [1,0] (Zx [] (Zdu n.decls t.decls (hd:=hn.decls) (he:=ht.decls)) (Xv [2,3] [(22,.b ((!(decide (n.decls=t.decls)))||((n.routines.length:Int) != (t.routines.length:Int))))] (fun gz=>gz) ?_ ?_)))))
 ·refine Z2 2 (ib (b:=(!(decide (n.decls=t.decls)))) 14 (fun Zb=>?_) (fun Zb=>?_))
  ·have ZY:¬(n.decls=t.decls):=((Yl dq)).1 Zb
   exact Z0 (wk [0,0] (Zt true Zb fl))
  have Yi:¬(¬(n.decls=t.decls)):=Y6 (Yl dq) Zb
  exact ZL 2 [1] (iw (U9 n.routines) (ZL 2 [0] (iw (U9 t.routines) (Z0 (wk [0,0] (Zt ((n.routines.length:Int) != (t.routines.length:Int)) Zb fl))))))
 refine ac ((!(decide (n.decls=t.decls)))||((n.routines.length:Int) != (t.routines.length:Int))) (p:=(¬(n.decls=t.decls))∨((n.routines.length:Int)≠(t.routines.length:Int))) (Yh (Yl dq) Y3) (fun Za=>?_) (fun Za=>?_)
 ·exact ar (Zo (ZU (.b false) (lb (decide_eq_false (fun z=>by rw [z] at Za;simp at Za)).symm)))
 simp only [not_or,ne_eq,Wa,decide_eq_true_eq] at Za
 obtain ⟨hq1,hq2⟩:=Za
 refine ak (Ym (ab 0 (Y4 (fun fz gz m F h=>∃(k:Nat),(k<=n.routines.length)/\(∀i,i<k->n.routines[i]? = t.routines[i]?)/\F=sF [2,3] fz [(5,.i k)]/\h=gz/\m=n.routines.length-k) _ _ _ ⟨0,ob,Fo,rfl,rfl,rfl⟩ (wk [0,0] (Yb fl)) ?_)))
 rintro m F h ⟨k,Ye,Zk,rfl,rfl,rfl⟩
 refine Yk 3 [1] (iw (U9 n.routines) (Y9 ((k:Int)<(n.routines.length:Int)) (fun Zg=>?_) (fun Zg=>?_)))
 ·refine ak (aq (ab 1 (Zv 3 [1] ?_)))
  obtain ⟨x1,Z3⟩:=Zs n.routines k om
  have hm1:=Y0 Z3
  have ha1:=hn.params _ hm1
  have ha2:=hn.lent _ hm1
  have ha3:=hn.body _ hm1
  refine Zp (Zl none (k:Int) 5 (WR Z3)) (Z2 1 (iA [nl,nl,.i 0,nl,.i 0] fun b3=>ZH 0 b3 (TG x1) (ie (Zv 3 [1] ?_))))
  obtain ⟨x2,Zr⟩:=Zs t.routines k om
  have hm2:=Y0 Zr
  have ha4:=ht.params _ hm2
  have ha5:=ht.lent _ hm2
  have ha6:=ht.body _ hm2
  refine Zp (Zl none (k:Int) 5 (WR Zr)) (Z2 1 (iA [nl,nl,.i 0,nl,.i 0] fun b4=>ZH 0 b4 (TG x2) (ie (Zv 4 [1,0] (Zx [] (GU x1.params x2.params) (XD 14 [2,3,5,6,7] [(53,.b ((!(decide (x1.params=x2.params)))||(!(decide (x1.lent=x2.lent)))))] (fun gz=>gz) ?_ (fun hj1=>?_)))))))
  ·refine XD 21 [2,3,5,6,7] [(60,.b (((!(decide (x1.params=x2.params)))||(!(decide (x1.lent=x2.lent))))||(x1.result != x2.result)))] (fun gz=>gz) ?_ (fun hj2=>?_)
   ·refine Xv [2,3,5] [(68,.b ((((!(decide (x1.params=x2.params)))||(!(decide (x1.lent=x2.lent))))||(x1.result != x2.result))||(!(decide (x1.body=x2.body)))))] (fun gz=>gz) ?_ ?_
    ·refine Z2 1 (ib (b:=(((!(decide (x1.params=x2.params)))||(!(decide (x1.lent=x2.lent))))||(x1.result != x2.result))) 61 (fun Zz=>?_) (fun Zz=>?_))
     ·have YJ:((¬(x1.params=x2.params))∨(¬(x1.lent=x2.lent)))∨(x1.result≠x2.result):=((Yh (Yh (Yl dq) (Yl dq)) Y3)).1 Zz
      exact Z0 (ZG 4 (Zt true Zz fl))
     have YR:¬(((¬(x1.params=x2.params))∨(¬(x1.lent=x2.lent)))∨(x1.result≠x2.result)):=Y6 (Yh (Yh (Yl dq) (Yl dq)) Y3) Zz
     exact ZL 4 [1,0] (Zx [] (Zdr x1.body x2.body) (Z0 (ZG 4 (Zt (!(decide (x1.body=x2.body))) Zz fl))))
    refine ac ((((!(decide (x1.params=x2.params)))||(!(decide (x1.lent=x2.lent))))||(x1.result != x2.result))||(!(decide (x1.body=x2.body)))) (p:=(((¬(x1.params=x2.params))∨(¬(x1.lent=x2.lent)))∨(x1.result≠x2.result))∨(¬(x1.body=x2.body))) (Yh (Yh (Yh (Yl dq) (Yl dq)) Y3) (Yl dq)) (fun ZD=>?_) (fun ZD=>?_)
    ·exact ar (Zo (ZU (.b false) (lb (decide_eq_false (fun z=>CP Z3 Zr (fun w=>by rw [w] at ZD;simp at ZD) (Yu Zm.routines z))).symm)))
    simp only [not_or,ne_eq,Wa,decide_eq_true_eq] at ZD
    obtain ⟨⟨⟨hw1,hw2⟩,hw3⟩,hw4⟩:=ZD
    exact ak (az (Z2 1 (ZJ k (Z0 (ZK ⟨k+1,ob,(Fp Zk Z3 Zr (Yc.ext4 hw1 hw2 hw3 hw4)),rfl,rfl,rfl⟩ (wk [2,2] (ZM k fl)))))))
   refine Z2 1 (ib (b:=((!(decide (x1.params=x2.params)))||(!(decide (x1.lent=x2.lent))))) 54 (fun Yo=>?_) (fun Yo=>?_))
   ·have Xk:(¬(x1.params=x2.params))∨(¬(x1.lent=x2.lent)):=((Yh (Yl dq) (Yl dq))).1 Yo
    exact Z2 6 (Yp (ZG 4 (Zt true Yo fl)) hj2)
   have XX:¬((¬(x1.params=x2.params))∨(¬(x1.lent=x2.lent))):=Y6 (Yh (Yl dq) (Yl dq)) Yo
   exact ZL 6 [1,0] (Yp (ZG 4 (Zt (x1.result != x2.result) Yo fl)) hj2)
  refine Z2 2 (ib (b:=(!(decide (x1.params=x2.params)))) 46 (fun Xg=>?_) (fun Xg=>?_))
  ·have WA:¬(x1.params=x2.params):=((Yl dq)).1 Xg
   exact Z2 7 (Yp (ZG 4 (Zt true Xg fl)) hj1)
  have WY:¬(¬(x1.params=x2.params)):=Y6 (Yl dq) Xg
  exact ZL 4 [1,0] (Zx [] (GU x1.lent x2.lent) (Z2 2 (Yp (ZG 4 (Zt (!(decide (x1.lent=x2.lent))) Xg fl)) hj1)))
 exact ax 0 (ar (Zo (ZU (.b true) (lb (decide_eq_true (Zm.ext2 hq1 (En om (fun i hi=>Zk i om)))).symm))))
theorem Z98 (code:LI) (hcl:code.length<=1048576:=by exact ob) (hcb:∀z∈code,0<=z/\z<=255):Zj 58 [Ui code] [] (fun r h=>∃(n2:Zm),r=Yr n2/\h=[]/\ZS n2 814530 11):=by
 refine ZE 22 Tryz.func58 (ar (iA [nl,nl] fun b1=>ie (Y1 1 (ic [] (Zae code (hc:=hcb)) ?_))))
 rintro _ _ ⟨rd1,bs1,rfl,rfl,ZY⟩
 have hnr:=ZY
 refine Z0 (Y1 2 (ic [0] (Z9q rd1 bs1 0 (ZO:=hnr)) ?_))
 rintro _ _ ⟨n1,p21,rfl,rfl,Yi⟩
 have hcf:=((FO.zn Yi.1)).zs
 refine ic [0] (Zau rd1 bs1 p21 n1 16 814510 10 (ZO:=hnr) (hzn:=hcf)) ?_
 rintro _ _ ⟨n21,p22,rfl,rfl,YJ⟩
 have hsf:=YJ
 refine iA [nl,nl] fun b2=>ZH 0 b2 (YZ n21) (ie (YP 1 (ic [1] (Pz rd1 bs1 p22 3 (ZO:=hnr)) ?_)))
 rintro _ _ ⟨YI,rfl,rfl,YR⟩
 refine Z0 (ab 0 (Y4 (fun fz gz m F h=>∃(j:Nat) (nn:Zm) (pp:Nat),(j<=2)/\(ZS nn (814520-4*j) 11)/\(pp+10*j<=1000000000)/\F=sF [2,3,4] fz [(5,.i j)]/\h=[YE rd1 bs1 pp,.obj b2 (YZ nn),Zd gz 2]/\m=j+1) _ _ _ ⟨YI,n21,p22+1,ob,(hsf.1.le om (YU _)),ob,rfl,rfl,rfl⟩ (ZG 3 fl) ?_))
 rintro m F h ⟨j,nn,pp,Ye,Zk,Zw,rfl,rfl,rfl⟩
 refine X7 (Y9 ((j:Int)>0) (fun Za=>?_) (fun Za=>?_))
 ·refine ak (aq (ab 1 (az (ZL 2 [1] (ic [0] (Z9y rd1 bs1 pp nn (ZO:=hnr) (hz:=(Zk.sz om om)) (hl1:=(by have:=Zk.len;omega))) ?_)))))
  rintro _ _ ⟨n22,p23,rfl,rfl,Xk⟩
  have hho:=Xk
  exact ZH 1 b2 (YZ n22) (ie (az (Z2 1 (ia (((j:Int)-1)) (((j:Int))-(1)) (Z0 (ZK ⟨j-1,n22,p23,ob,((Zk.held hho.1).le om (YU _)),ob,rfl,rfl,rfl⟩ (wk [1,0,0] (fc (x:=.i ((j:Int)-1)) li fl))))))))
 exact ax 0 (Zv 1 [1] (ZH 2 b1 (YZ nn) (ie (ZB (r3 [] [Yr nn] [0] [(b1,b1)] ⟨nn,rfl,rfl,(Zk.le om (YU _))⟩ (lr _))))))
theorem Z99 (code:LI) (hcl:code.length<=1048576:=by exact ob) (hcb:∀z∈code,0<=z/\z<=255):Zj 19 [Ui code] [] (fun r h=>∃(n2:Zm),r=Yr n2/\h=[]/\ZS n2 814530 11):=by
 refine ZE 5 Tryz.func19 (ar (iA [nl,nl] fun b1=>ie (Y1 1 (ic [] (Z98 code (hcb:=ob)) ?_))))
 rintro _ _ ⟨n21,rfl,rfl,ZY⟩
 exact ZH 0 b1 (YZ n21) (ie (ZB (r3 [] [Yr n21] [0] [(b1,b1)] ⟨n21,rfl,rfl,ZY⟩ (lr _))))
theorem Zdq (code:LI) (hcb:∀z∈code,0<=z/\z<=255):Zj 7 [Ui code] [] (Yn (.b true)):=by
 refine ZE 97 Tryz.func7 (Zy (YP 1 (iw (Jq code) (Y9 ((code.length:Int)>1048576) (fun Za=>?_) (fun Za=>?_)))))
 ·exact ar (Zo (BY))
 have hcl:code.length<=1048576:=by omega
 refine ak (Y1 1 (ic [] (Z99 code (hcl:=hcl) (hcb:=hcb)) ?_))
 rintro _ _ ⟨n21,rfl,rfl,ZY⟩
 have hzs:=ZY
 have hzn:=hzs.sz om om
 have hln:=hzs.len
 have hrn:∀r∈n21.routines,r.body.rng:=fun r hr=>(hzs.rt r hr).2.2.2
 have huz:=Zih hzn (Q:=814530) (fun r hr=>(hzs.rt r hr).2.2.1) om
 have hur:=Zig hrn
 refine iA [nl,nl] fun b1=>ZH 0 b1 (YZ n21) (ie (Zv 1 [0] (Zx [] (Zbx n21 (hz:=(by first|exact hzn|exact huz)) (hr:=(by first|exact hrn|exact hur))) (Z2 3 (iA [nl,nl] fun b2=>ZH 0 b2 (YZ ((YC n21).1)) (Z0 (Zv 1 [1] (Zx [] (Zii n21) (Z2 3 (iA [nl,nl] fun b3=>ZH 0 b3 (YZ ((YC n21).1)) (Z0 (Yk 2 [1,0] (Zx [] (LL ((YC n21).1) ((YC n21).1) (hn:=(by first|exact huz|assumption|exact DA huz|(rw [h22];exact huz))) (ht:=(by first|exact huz|exact hzn|exact DA hzn))) (XD 9 [3,4,5,6,7] [(33,.b ((!(decide (((YC n21).1)=((YC n21).1))))||(((YC n21).2) != ((YC n21).2))))] (fun gz=>gz) ?_ (fun hj1=>?_)))))))))))))))
 ·refine Xv [3,4,5,6,7] [(37,.b (((!(decide (((YC n21).1)=((YC n21).1))))||(((YC n21).2) != ((YC n21).2)))||(!(YC n21).2)))] (fun gz=>gz) ?_ ?_
  ·refine Z2 1 (ib (b:=((!(decide (((YC n21).1)=((YC n21).1))))||(((YC n21).2) != ((YC n21).2)))) 34 (fun Zb=>?_) (fun Zb=>?_))
   ·have Yi:(¬(((YC n21).1)=((YC n21).1)))∨(((YC n21).2)≠((YC n21).2)):=((Yh (Yl dq) Y3)).1 Zb
    exact Z0 (ZG 3 (fc (x:=.b true) (lb (by rw [Zb];rfl)) fl))
   have YJ:¬((¬(((YC n21).1)=((YC n21).1)))∨(((YC n21).2)≠((YC n21).2))):=Y6 (Yh (Yl dq) Y3) Zb
   exact Z0 (ZG 3 (fc (x:=.b (!(YC n21).2)) (lb (by rw [Zb];rfl)) fl))
  refine ac (((!(decide (((YC n21).1)=((YC n21).1))))||(((YC n21).2) != ((YC n21).2)))||(!(YC n21).2)) (p:=((¬(((YC n21).1)=((YC n21).1)))∨(((YC n21).2)≠((YC n21).2)))∨(¬((YC n21).2=true))) (Yh (Yh (Yl dq) Y3) (Yl Iff.rfl)) (fun Zg=>?_) (fun Zg=>?_)
  ·refine Zv 2 [1,0] (Zx [] (LL ((YC n21).1) ((YC n21).1) (hn:=(by first|exact huz|assumption|exact DA huz|(rw [h22];exact huz))) (ht:=(by first|exact huz|exact hzn|exact DA hzn))) (XD 8 [] [(45,.b ((decide (((YC n21).1)=((YC n21).1)))&&(((YC n21).2)==((YC n21).2))))] (fun gz=>gz) ?_ (fun hj2=>?_)))
   ·exact Zo (ZU (.b ((decide (((YC n21).1)=((YC n21).1)))&&(((YC n21).2)==((YC n21).2)))) (lb (by first|(simp;done)|(exfalso;omega)|exact decide_eq_true (a3 om)|exact (Int.lt_or_le x4 x3).elim (fun hq=>by rw [decide_eq_true hq];rfl) (fun hq=>by rw [decide_eq_true (a3 om),Bool.or_true])|(simp_all;done))))
   refine Z2 1 (ib (b:=(decide (((YC n21).1)=((YC n21).1)))) 41 (fun Zz=>?_) (fun Zz=>?_))
   ·have YR:((YC n21).1)=((YC n21).1):=(dq).1 Zz
    exact Z2 2 (Zp (Zdd ((YC n21).2) ((YC n21).2)) (Z2 1 (Yp (ZG 3 (fc (x:=.b (((YC n21).2)==((YC n21).2))) (lb (by rw [Zz];rfl)) fl)) hj2)))
   have Xk:¬(((YC n21).1)=((YC n21).1)):=Y6 dq Zz
   exact Z2 4 (Yp (ZG 3 (fc (x:=.b false) (lb (by rw [Zz];rfl)) fl)) hj2)
  have hk:(YC n21).2=true:=C2 fun z=>Zg (.inr z)
  have hE:(YC n21).1=Wt n21:=by rw [(Z1h hk).2.2]
  obtain ⟨l1,l2,a0,a1,a2,a3⟩:=Zit hzn hk
  rw [<-hE] at l2 a0 a1 a2 a3
  have hlu:(YC n21).1.routines.length<=4:=by rw [hE];show (n21.routines.map _).length<=4;rw [QC];omega
  refine ak (Zv 1 [2] (Zx [] (PR n21 (hz:=(by first|exact hzn|exact huz)) (hr:=(by first|exact hrn|exact hur))) (Z0 (Zv 1 [1] (Zx [] (PR ((YC n21).1) (hz:=(by first|exact hzn|exact huz)) (hr:=(by first|exact hrn|exact hur))) (Z0 (aq (aD 35 (Zh 34 35 [0] (dn 1 (.i (((cF n21).length:Nat):Int)) (.i (((Z8 (cF n21)).length:Nat):Int)) (li (by rw [Ya])) (Zh 31 33 [2,3] (db (b:=((((cF n21).length:Nat):Int) != 4)) 53 (fun Yo=>?_) (fun Yo=>?_)))))))))))))
  ·have XX:(((cF n21).length:Nat):Int)≠4:=(Y3).1 Yo
   exact Zh 0 31 [4,5,6,7,8,9,10,11,12,13,14,15,16,17,18,19,20,21,22,23,24,25,26,27,28,29,30,31,32,33,34] (de (W6 (ar (Zo (ZU (.b false) (lb (by first|(simp;done)|(exfalso;omega)|exact decide_eq_true (a3 om)|exact (Int.lt_or_le x4 x3).elim (fun hq=>by rw [decide_eq_true hq];rfl) (fun hq=>by rw [decide_eq_true (a3 om),Bool.or_true])|(simp_all;done))))))))
  have WA:¬((((cF n21).length:Nat):Int)≠4):=Y6 Y3 Yo
  refine Zh 30 31 [4] (dn 5 (.i (((cF ((YC n21).1)).length:Nat):Int)) (.i (((Z8 (cF ((YC n21).1))).length:Nat):Int)) (li (by rw [Ya])) (Zh 26 29 [6,7,8] (db (b:=((((cF ((YC n21).1)).length:Nat):Int) != 4)) 58 (fun Xg=>?_) (fun Xg=>?_))))
  ·have WY:(((cF ((YC n21).1)).length:Nat):Int)≠4:=(Y3).1 Xg
   exact Zh 0 26 [9,10,11,12,13,14,15,16,17,18,19,20,21,22,23,24,25,26,27,28,29,30,31,32,33,34] (de (W6 (ar (Zo (ZU (.b false) (lb (by first|(simp;done)|(exfalso;omega)|exact decide_eq_true (a3 om)|exact (Int.lt_or_le x4 x3).elim (fun hq=>by rw [decide_eq_true hq];rfl) (fun hq=>by rw [decide_eq_true (a3 om),Bool.or_true])|(simp_all;done))))))))
  have Vr:¬((((cF ((YC n21).1)).length:Nat):Int)≠4):=Y6 Y3 Xg
  refine Zh 25 26 [9] ?_
  obtain ⟨x1,Z3⟩:=Zs (cF ((YC n21).1)) 0 om
  have hg60:gI (cF (YC n21).1) 0=x1:=WS (i:=0) Z3
  have Zlq:=CX huz om _ (Y0 Z3)
  refine dx 10 (Zl none 0 1 (ZZ Z3)) (Zh 22 24 [11,12] ?_)
  obtain ⟨x2,Zr⟩:=Zs (cF n21) 0 om
  have hg63:gI (cF n21) 0=x2:=WS (i:=0) Zr
  have Zlr:=CX hzn om _ (Y0 Zr)
  refine dx 13 (Zl none 0 1 (ZZ Zr)) (Zh 17 21 [14,15,16,17] (db (b:=(decide (x1>x2))) 67 (fun Wx=>?_) (fun Wx=>?_)))
  ·have UH:x1>x2:=(dq).1 Wx
   exact Zh 0 17 [18,19,20,21,22,23,24,25,26,27,28,29,30,31,32,33,34] (de (W6 (ar (Zo (ZU (.b false) (lb (by first|(simp;done)|(exfalso;omega)|exact decide_eq_true (a3 om)|exact (Int.lt_or_le x4 x3).elim (fun hq=>by rw [decide_eq_true hq];rfl) (fun hq=>by rw [decide_eq_true (a3 om),Bool.or_true])|(simp_all;done))))))))
  have T0:¬(x1>x2):=Y6 dq Wx
  refine Zh 16 17 [18] ?_
  obtain ⟨x3,YG⟩:=Zs (cF ((YC n21).1)) 2 om
  have hg69:gI (cF (YC n21).1) 2=x3:=WS (i:=2) YG
  have Zls:=CX huz om _ (Y0 YG)
  refine dx 19 (Zl none 2 1 (ZZ YG)) (Zh 13 15 [20,21] ?_)
  obtain ⟨x4,Wy⟩:=Zs (cF n21) 2 om
  have hg72:gI (cF n21) 2=x4:=WS (i:=2) Wy
  have Zlt:=CX hzn om _ (Y0 Wy)
  refine dx 22 (Zl none 2 1 (ZZ Wy)) (Zh 8 12 [23,24,25,26] (db (b:=(decide (x3<x4))) 76 (fun WM=>?_) (fun WM=>?_)))
  ·have T1:x3<x4:=(dq).1 WM
   exact Zh 0 8 [27,28,29,30,31,32,33,34] (de (W6 (ar (Zo (ZU (.b false) (lb (by first|(simp;done)|(exfalso;omega)|exact decide_eq_true (a3 om)|exact (Int.lt_or_le x4 x3).elim (fun hq=>by rw [decide_eq_true hq];rfl) (fun hq=>by rw [decide_eq_true (a3 om),Bool.or_true])|(simp_all;done))))))))
  have QQ:¬(x3<x4):=Y6 dq WM
  refine Zh 7 8 [27] ?_
  obtain ⟨x5,VF⟩:=Zs (cF ((YC n21).1)) 3 om
  have hg78:gI (cF (YC n21).1) 3=x5:=WS (i:=3) VF
  have Zlu:=CX huz om _ (Y0 VF)
  refine dx 28 (Zl none 3 1 (ZZ VF)) (Zh 4 6 [29,30] ?_)
  obtain ⟨x6,A7⟩:=Zs (cF n21) 3 om
  have hg81:gI (cF n21) 3=x6:=WS (i:=3) A7
  have Zlv:=CX hzn om _ (Y0 A7)
  refine dx 31 (Zl none 3 1 (ZZ A7)) (Zh 0 3 [32,33,34] (de (ac (x5 != x6) Y3 (fun ZD=>?_) (fun ZD=>?_))))
  ·exact ar (Zo (ZU (.b false) (lb (by first|(simp;done)|(exfalso;omega)|exact decide_eq_true (a3 om)|exact (Int.lt_or_le x4 x3).elim (fun hq=>by rw [decide_eq_true hq];rfl) (fun hq=>by rw [decide_eq_true (a3 om),Bool.or_true])|(simp_all;done)))))
  refine ak (aD 13 (Zh 12 13 [0] (dx 1 (Zl none 2 1 (ZZ YG)) (Zh 9 11 [2,3] (dx 4 (Zl none 2 1 (ZZ Wy)) (JZ [] [(2,.b ((decide (x3>x4))||(decide (((YC n21).1)=n21))))] (fun gz=>gz) ?_ ?_))))))
  ·refine Zh 5 8 [5,6,7] (db (b:=(decide (x3>x4))) 92 (fun WT=>?_) (fun WT=>?_))
   ·have Qv:x3>x4:=(dq).1 WT
    exact Zh 0 5 [8,9,10,11,12] (de (ZG 3 (fc (x:=.b true) (lb (by rw [WT];rfl)) fl)))
   have J2:¬(x3>x4):=Y6 dq WT
   exact ZI 3 5 [8,9] [1,2] (Z9 10 (Yz 10 [] [] [] (LL ((YC n21).1) n21 (hn:=(by first|exact huz|assumption|exact DA huz|(rw [h22];exact huz))) (ht:=(by first|exact huz|exact hzn|exact DA hzn))) (Zh 0 2 [11,12] (de (ZG 3 (fc (x:=.b (decide (((YC n21).1)=n21))) (lb (by rw [WT];rfl)) fl))))))
  exact ZB (ZU (.b ((decide (x3>x4))||(decide (((YC n21).1)=n21)))) (lb (by first|(simp;done)|(exfalso;omega)|exact decide_eq_true (a3 om)|exact (Int.lt_or_le x4 x3).elim (fun hq=>by rw [decide_eq_true hq];rfl) (fun hq=>by rw [decide_eq_true (a3 om),Bool.or_true])|(simp_all;done))))
 refine Z2 2 (ib (b:=(!(decide (((YC n21).1)=((YC n21).1))))) 29 (fun WJ=>?_) (fun WJ=>?_))
 ·have Kw:¬(((YC n21).1)=((YC n21).1)):=((Yl dq)).1 WJ
  exact Z2 4 (Yp (ZG 3 (fc (x:=.b true) (lb (by rw [WJ];rfl)) fl)) hj1)
 have B6:¬(¬(((YC n21).1)=((YC n21).1))):=Y6 (Yl dq) WJ
 exact Z2 2 (Zp (Zde ((YC n21).2) ((YC n21).2)) (Z2 1 (Yp (ZG 3 (fc (x:=.b (((YC n21).2) != ((YC n21).2))) (lb (by rw [WJ];rfl)) fl)) hj1)))
end Go.Abs
