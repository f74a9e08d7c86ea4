/-
  A part of the proofs of several laws (see the last file): no condition.
-/
import Derived.Test.YtfjgjacklgaioaaGreatVhE
set_option linter.all false
set_option linter.unusedVariables false
set_option linter.unusedSimpArgs false
set_option linter.unusedSectionVars false
set_option maxRecDepth 10000
set_option maxHeartbeats 4000000
namespace Go.Abs
open Go.Proofs
theorem Z4n (b:Nat) (ga:Hd) (gb:Hd) (gc:Hd) (n:Zl) (L:Vo) (ln:LI) (am:List X2) (xs:List Z6) (q:Int) (vs:LI) (hn:X4 n:=by exact ob) (hk:X6 n.decls L q:=by exact ob) (har:V1 n.decls L am:=by exact ob) (ht:Xi n xs L.vars=some vs:=by exact ob) (hnn:∀t∈L.vars,0<=t) (hb:L.vars.length+am.length+4*Yj xs<=900000000:=by exact ob) (hq:0<=q/\q+4*Yj xs<=999999980:=by exact ob) (hr:TO xs:=by exact ob) (ih:∀(s2:Z6) (c:Nat) (ra:Hd) (rb:Hd) (rc:Hd) (M:Vo) (a2:List X2) (p:Int),(s2.sz<=Yj xs)->(X6 n.decls M p)->(V1 n.decls M a2)->(0<=ZZ n M.vars s2)->(∀t∈M.vars,0<=t)->(M.vars.length+a2.length+4*s2.sz<=900000000)->(0<=p/\p+4*s2.sz<=999999980)->(s2.rng)->Zk 177 [.p c 0,YG s2] [.obj c [ZP n.decls,YN n,Z4 ln,Xf a2,.h ra,.h rb,.h rc],rV ra M.vars,rV rb M.own,rV rc M.tok] (fun r h=>(∃(wa:Hd) (wb:Hd) (wc:Hd) (M':Vo),r=.b true/\h=[.obj c [ZP n.decls,YN n,Z4 ln,Xf a2,.h wa,.h wb,.h wc],rV wa M'.vars,rV wb M'.own,rV wc M'.tok]/\WI n ln M s2=some M')∨(r=.b false/\h=[]/\WI n ln M s2=none))):Zk 124 [.p b 0,Vu xs] [.obj b [ZP n.decls,YN n,Z4 ln,Xf am,.h ga,.h gb,.h gc],rV ga L.vars,rV gb L.own,rV gc L.tok] (fun r h=>(∃(wa:Hd) (wb:Hd) (wc:Hd) (L':Vo),r=.b true/\h=[.obj b [ZP n.decls,YN n,Z4 ln,Xf am,.h wa,.h wb,.h wc],rV wa L'.vars,rV wb L'.own,rV wc L'.tok]/\Xt n ln L xs=some L')∨(r=.b false/\h=[]/\Xt n ln L xs=none)):=by
 have hxl:=JD xs
 refine ZG 18 Tryz.func124 (Zy (YP 1 (iw (VY xs) (Z0 (ab 0 (Y2 (fun fz gz m F h=>∃(k:Nat) (q2:Int) (L2:Vo) (ka:Hd) (kb:Hd) (kc:Hd),(k<=xs.length)/\(X6 n.decls L2 q2)/\(0<=q2/\q2+4*Yj (xs.drop k)<=999999980)/\(L2.vars.length+am.length+4*Yj (xs.drop k)<=900000000)/\(Xi n (xs.drop k) L2.vars=some vs)/\(Xt n ln L2 (xs.drop k)=Xt n ln L xs)/\(V1 n.decls L2 am)/\(∀t∈L2.vars,0<=t)/\F=sF [0,7,8] fz [(9,.i k)]/\h=[.obj b [ZP n.decls,YN n,Z4 ln,Xf am,.h ka,.h kb,.h kc],rV ka L2.vars,rV kb L2.own,rV kc L2.tok]/\m=xs.length-k) _ _ _ ⟨0,q,L,ga,gb,gc,ob,hk,(by rw [KM];omega),(by rw [KM];omega),ht,rfl,har,hnn,rfl,rfl,rfl⟩ (ZF 4 (Yb fl)) ?_))))))
 rintro m F h ⟨k,q2,L2,ka,kb,kc,Yg,Zj,Zw,Yy,XW,Tz,Ie,NR,rfl,rfl,rfl⟩
 refine Zy (aq (XN ((k:Int)<(xs.length:Int)) (fun Za=>?_) (fun Za=>?_)))
 ·obtain ⟨s1,hs1⟩:=Zu xs k om
  have hdr:=Y6 hs1
  have hz:Yj (xs.drop k)=s1.sz+Yj (xs.drop (k+1)):=by rw [hdr,Yj]
  have Xu:=Z1j hs1
  have hsr:=MJ hr hs1
  rw [hdr] at XW Tz
  obtain ⟨g1,g2⟩:=CH XW
  refine ak (aq (ab 1 (ar (Zr (Zm none (k:Int) 5 (VS hs1)) (Z2 1 (iA [.i 0,.i 0,.i 0,nl,nl] fun b1=>ZH 0 b1 (XE s1) (ie (Zv 2 [0] (ic [1,1,1,1] (ih s1 b ka kb kc L2 am q2 ob Zj Ie g1 NR om om hsr) ?_)))))))))
  rintro _ _ (⟨wa1,wb1,wc1,M'1,rfl,rfl,ZY⟩|⟨rfl,rfl,Yd⟩)
  ·have hP:=ZY
   have kx:=Fa hn Zj Zw.1 g1 hP
   exact Z0 (WC (ak (az (ZJ k (Z0 (ZK ⟨k+1,(q2+4*s1.sz),M'1,wa1,wb1,wc1,ob,kx.1,om,(by rw [kx.2];have:=EY n L2.vars s1;omega),(by rw [kx.2];exact g2),(by rw [<-Tz,Xt,hP];rfl),(Z1w hn Zj Zw.1 g1 hP Ie),(by rw [kx.2];exact Zgp NR g1),rfl,rfl,rfl⟩ (ZF 4 (ZM k fl))))))))
  have hP:=Yd
  exact Z0 (We (ar (Zp (r1 [] (.inr ⟨rfl,rfl,(by rw [<-Tz,Xt,hP];rfl)⟩)))))
 exact ax 0 (ar (Zp (r1 [0,0,0,0] (.inl ⟨ka,kb,kc,L2,rfl,rfl,(by rw [<-Tz,Xq om];rfl)⟩))))
theorem NV (am:List X2) (hl:am.length<=1000000000:=by exact ob):Zk 165 [Xf am] [] (fun r h=>∃(v:Value),r=LY am v/\h=[.tail v 4]):=by
 refine ZG 8 Tryz.func165 (Zy (YP 1 (iN (WM am) (fun hz1=>?_) ?_)))
 ·have hz1:=Z70 hz1
  exact ie (We (Zy (Tx 4 (ZC (r2 [0] [nl] ⟨(.slice none 0 0),rfl,rfl⟩ (Zd.slh _ (by first|rfl|(subst_vars;rfl))))))))
 exact ie (WC (ak (ar (iL (WM []) 0 4 fun v1=>Z2 1 (ip 0 (WM am) (WM []) (WM am) v1 none 4 (D3 _) (D3 _) (Is _) (by simp<;>omega) (by simp [WM]) fun v2=>Zp (r1 [0] ⟨v2,rfl,rfl⟩))))))
theorem FB (am:List X2) (a:X2) (hl:am.length<=900000000:=by exact ob):Zk 99 [Xf am,.agg [.i a.mat,.i a.fst,Z4 a.fds,.b a.chg]] [] (Yr (Xf (am++[a]))):=by
 refine ZG 10 Tryz.func99 (ar (iA [.i a.mat,.i a.fst,Z4 a.fds,.b a.chg] fun b1=>?_))
 refine Z0 (aD 6 (ZI 4 6 [0,2] [0] (Jm (fun fz gz F h=>∃(v3:Value),F=sF [] fz [(4,LY (am++[a]) v3)]/\h=gz) ?_ ?_)))
 ·refine VJ 1 3 ?_ ?_
  ·refine dc 1 [] [0] [b1] (NV am) ?_
   rintro _ _ ⟨v1,rfl,rfl⟩
   exact Z9 3 (dL 3 [] [] (WM [a]) 1 4 fun v2=>YA 2 2 [] [(8,Xf [a])] (Z9 4 (dp 4 1 [] [] (WM (am++[a])) (WM am) (WM [a]) v1 none 4 (D3 _) (D3 _) (Is _) (by simp<;>omega) (by simp [Oj,WM]) fun v3=>Zi 0 1 [5] (de (ZU ⟨v3,rfl,rfl⟩ (wk [2] fl))))))
  refine dL 3 [] [] (WM [a]) 1 4 fun v4=>Z9 1 (dc 1 [] [] [] (NV am) ?_)
  rintro _ _ ⟨v5,rfl,rfl⟩
  exact YA 2 2 [] [(8,Xf [a])] (Z9 4 (dp 4 0 [] [] (WM (am++[a])) (WM am) (WM [a]) v5 none 4 (D3 _) (D3 _) (Is _) (by simp<;>omega) (by simp [Oj,WM]) fun v6=>Zi 0 1 [5] (de (ZU ⟨v6,rfl,rfl⟩ (wk [2] fl)))))
 rintro F h ⟨v3,rfl,rfl⟩
 exact ZC (ZW (LY (am++[a]) v3) (Zd.forget _ _))
theorem Z4g (b:Nat) (ga:Hd) (gb:Hd) (gc:Hd) (n:Zl) (L:Vo) (ln:LI) (am:List X2) (s:Z6) (q:Int) (hn:X4 n:=by exact ob) (hty:KO n:=by exact ob) (hlt:C5 n:=by exact ob) (hk:X6 n.decls L q:=by exact ob) (har:V1 n.decls L am:=by exact ob) (hln:ln.length<=4294967296:=by exact ob) (hf:AB n L.vars s:=by exact ob) (hop:s.op=7∨s.op=8:=by exact ob) (hnn:∀t∈L.vars,0<=t) (hb:L.vars.length+am.length+4*s.sz<=900000000:=by exact ob) (hq:0<=q/\q+4*s.sz<=999999980:=by exact ob) (hr:s.rng:=by exact ob) (ih:∀(ys:List Z6) (c:Nat) (ra:Hd) (rb:Hd) (rc:Hd) (M:Vo) (a2:List X2) (p:Int) (vs:LI),(Yj ys<s.sz)->(X6 n.decls M p)->(V1 n.decls M a2)->(Xi n ys M.vars=some vs)->(∀t∈M.vars,0<=t)->(M.vars.length+a2.length+4*Yj ys<=900000000)->(0<=p/\p+4*Yj ys<=999999980)->(TO ys)->Zk 124 [.p c 0,Vu ys] [.obj c [ZP n.decls,YN n,Z4 ln,Xf a2,.h ra,.h rb,.h rc],rV ra M.vars,rV rb M.own,rV rc M.tok] (fun r h=>(∃(wa:Hd) (wb:Hd) (wc:Hd) (M':Vo),r=.b true/\h=[.obj c [ZP n.decls,YN n,Z4 ln,Xf a2,.h wa,.h wb,.h wc],rV wa M'.vars,rV wb M'.own,rV wc M'.tok]/\Xt n ln M ys=some M')∨(r=.b false/\h=[]/\Xt n ln M ys=none))):Zk 222 [.p b 0,YG s] [.obj b [ZP n.decls,YN n,Z4 ln,Xf am,.h ga,.h gb,.h gc],rV ga L.vars,rV gb L.own,rV gc L.tok] (fun r h=>(∃(wa:Hd) (wb:Hd) (wc:Hd) (L':Vo),r=.b true/\h=[.obj b [ZP n.decls,YN n,Z4 ln,Xf am,.h wa,.h wb,.h wc],rV wa L'.vars,rV wb L'.own,rV wc L'.tok]/\JQ n ln L s=some L')∨(r=.b false/\h=[]/\JQ n ln L s=none)):=by
 have hlk:=hk.len
 obtain ⟨e1,e2,e3,e4,e5⟩:=hk.len
 have XB:=hn.decls
 have hkz:=TL s
 have haz:=K6 s
 obtain ⟨hk1,hk2,hk3⟩:=hf.kids hop
 obtain ⟨kd,hkd⟩:=Zu s.kids 0 om
 obtain ⟨x,hxa⟩:=hf.one om
 have ha:s.args[0]? = some x:=by rw [hxa];rfl
 have hx:=hf.args x (by rw [hxa];simp)
 have hgx:=JU ha
 have hal0:=(Xs.1 ha).1
 have hr2:=hr
 rw [s.rng_eq] at hr2
 refine ZG 156 Tryz.func222 (ar (iA (XE s) fun b1=>Z0 (X9 (Xw [0,3] [(24,.b ((s.op==8)&&(!XR L ln x)))] (fun gz=>[Ze gz 1,Ze gz 2,Ze gz 3,Ze gz 4,Ze gz 0]) ?_ ?_))))
 ·refine ZL 4 [0] (ib (b:=(s.op==8)) 16 (fun Zb=>?_) (fun Zb=>?_))
  ·have ZY:s.op=8:=(Zq).1 Zb
   exact ZL 3 [0] (Zr (Zm none 0 1 (Y1 ha)) (Z2 1 (Zx [1,1,1,1] (I5 b ga gb gc n L ln am x ob ob ob ob ob hk.down ob) (Z0 (ZF 5 (Zt (!XR L ln x) Zb fl))))))
  have Yd:¬(s.op=8):=Y8 Zq Zb
  exact Z0 (wk [1,1,1,1,0] (Zt false Zb fl))
 refine ac ((s.op==8)&&(!XR L ln x)) (p:=(s.op=8)/\(¬(XR L ln x=true))) (YJ Zq (Yl Iff.rfl)) (fun Za=>?_) (fun Za=>?_)
 ·exact ar (Zp (r1 [] (.inr ⟨rfl,rfl,(Z5c Za.1 (by rw [hgx];exact Za.2))⟩)))
 have hgo:=NU (n:=n) (ln:=ln) (L:=L) (s:=s) (by rw [hgx];exact Za) hkd
 refine ak (Zv 2 [4] (iw (Uj s.kids) (iMN s.kids.length s.kids.length fun v1=>?_)))
 refine Z0 (X9 (VW [5] (Wm (fun fz gz F h=>F=sF [0,3] fz [(5,Kz (X7 n.decls s.op s.num))]/\h=[Ze gz 1,Ze gz 2,Ze gz 3,Ze gz 4,Ze gz 5]) ?_ ?_)))
 ·refine ac (s.op==8) Zq (fun Zg=>?_) (fun Zg=>?_)
  ·exact aE 8 (ZI 2 8 [0,1,2,3,4,5] [1,5] (Z9 6 (Yz 6 [] [] [] (GC _ s.num) (Zi 0 1 [7] (de (ZU ⟨rfl,rfl⟩ (wk [1,1,1,1,1] (fc (x:=Kz ((ZV n.decls s.num).map (ZX n.decls))) (Zd.sl _ (Yv Wr (by rw [X7,Z5 om]))) fl))))))))
  exact ak (ZU ⟨rfl,rfl⟩ (wk [1,1,1,1,1] (fc (x:=BD (List.replicate s.kids.length []) v1) (Zd.sl _ (Yv Wr (by rw [show s.kids.length=2 by rw [hk1,X7,Zc om];rfl,X7,Zc om];rfl))) fl)))
 rintro F h ⟨rfl,rfl⟩
 refine Zv 4 [0] (Zr (JJ 1 ga L.vars) (Z0 (Zy (Yk 2 [4] (iw (Uj s.kids) (Z0 (ab 0 (Y2 (fun fz gz m F h=>(∃(k:Nat),(k=0)/\F=sF [0,3,5,6,7,45,46] fz [(47,.i k)]/\h=gz/\m=s.kids.length-k)∨(∃(k:Nat) (c0:Nat) (ua:Hd) (ub:Hd) (uc:Hd) (O:Vo) (aO:List X2),(1<=k/\k<=s.kids.length)/\(Wh n ln (WF n.decls L s.op s.num s.args 0) L.vars.length kd=some (O.take L.vars.length))/\(L.vars.length<=O.own.length/\O.own.length<=1000000000/\L.vars.length<=O.tok.length/\O.tok.length<=1000000000)/\(Uu n ln L s.op s.num s.args (O.take L.vars.length) (s.kids.drop k) k=Uu n ln L s.op s.num s.args (O.take L.vars.length) (s.kids.drop 1) 1)/\F=sF [0,3,5,6,45,46] fz [(7,.p c0 0),(47,.i k)]/\h=[.obj c0 [ZP n.decls,YN n,Z4 ln,Xf aO,.h ua,.h ub,.h uc],rV ua O.vars,rV ub O.own,rV uc O.tok,Ze gz 0,Ze gz 1,Ze gz 2,Ze gz 3,Ze gz 4]/\m=s.kids.length-k)) _ _ _ (.inl ⟨0,rfl,rfl,rfl,rfl⟩) (ZF 5 (Yb fl)) ?_))))))))
 rintro m F h (⟨k,Yg,rfl,rfl,rfl⟩|⟨k,c0,ua,ub,uc,O,aO,d0_0,d0_1,d0_2,d0_3,rfl,rfl,rfl⟩)
 ·refine Zy (aq (XN ((k:Int)<(s.kids.length:Int)) (fun ZE=>?_) (fun ZE=>?_)))
  ·obtain ⟨ke,hke⟩:=Zu s.kids k om
   obtain ⟨mk,hmk⟩:=Zu (X7 n.decls s.op s.num) k om
   have hK:=Cw hk hq.1 hf hop hmk
   have hmk3:=DX XB hmk
   have hks:=TK hke
   have hbt:=hk3 k ke mk hke hmk
   obtain ⟨vs,rt,hvs,hres,hrt⟩:=C9 hbt
   have hri:=KU hres
   have hsrr:TO ke.steps:=by
    have h:=FF hr2.2 hke
    rwa [Z7.rng_eq] at h
   have hbz:=ke.sz_eq
   have hak:=Nt hn har hlk hop (by rw [hgx];exact hx) hmk
   have hsl:=Hu hvs
   rw [Ys] at hsl
   have hkl:=Ns (L:=L) (am:=am) (s:=s) (m:=mk)
   refine ak (aq (ab 1 (Y0 1 (Zr (Zm none (k:Int) 2 (Tf hke)) (Z2 1 (iA [nl,.i 0] fun b2=>Z2 1 (ZH 0 b2 (Xx ke) (ie (Y0 1 (ic [1,1,1,1] (ND b ga gb gc n L ln am) ?_))))))))))
   rintro _ _ ⟨c1,wa1,wb1,wc1,rfl,rfl⟩
   refine Z0 (X9 (VW [9] (Wm (fun fz gz F h=>F=sF [0,3,5,6,7,8,9,10,45,46,47] fz []/\h=[.obj c1 [ZP n.decls,YN n,Z4 ln,Xf (TR L am s mk),.h wa1,.h wb1,.h wc1],Ze gz 1,Ze gz 2,Ze gz 3,Ze gz 4,Ze gz 5,Ze gz 6,Ze gz 7,Ze gz 8,Ze gz 9]) ?_ ?_)))
   ·refine ac (s.op==8) Zq (fun Yi=>?_) (fun Yi=>?_)
    ·exact aE 19 (ZI 12 19 [0,1,2,3,4,5,6] [4,9] (dx 7 (Zm none 0 1 (Y1 ha)) (Zi 7 11 [8,9,10,11] (dx 12 (Zm none (k:Int) 1 (Aj hmk)) (Zi 4 6 [13,14] (Z9 15 (Yz 15 [] [] [] (FB am (X2.mk x (L.vars.length:Int) mk false)) (Zi 1 3 [16,17] (Z9 18 (YO 18 0 [] [] c1 [ZP n.decls,YN n,Z4 ln,Xf (am++[(X2.mk x (L.vars.length:Int) mk false)]),.h wa1,.h wb1,.h wc1] (de (ZU ⟨rfl,rfl⟩ (ZF 10 fl (e:=(ro (ls:=[ZP n.decls,YN n,Z4 ln,Xf (am++[(X2.mk x (L.vars.length:Int) mk false)]),.h wa1,.h wb1,.h wc1]) (by rw [TR,Zc ‹s.op=8›,hgx]) (rc (rc (rc (rc (rc (rc (rc (rc (rc rz))))))))))))))))))))))))
    exact ak (ZU ⟨rfl,rfl⟩ (ZF 10 fl (e:=(ro (ls:=[ZP n.decls,YN n,Z4 ln,Xf am,.h wa1,.h wb1,.h wc1]) (by rw [TR,Z5 ‹¬s.op=8›]) (rc (rc (rc (rc (rc (rc (rc (rc (rc rz)))))))))))))
   rintro F h ⟨rfl,rfl⟩
   refine YP 2 (Zr (Zm none (k:Int) 1 (Aj hmk)) (Z2 1 (iw (Ya mk) (Z0 (ab 2 (Y2 (fun fz gz m F h=>∃(j:Nat) (L3:Vo) (ka:Hd) (kb:Hd) (kc:Hd),(j<=mk.length)/\(WH L3)/\(L3.vars.length=L.vars.length+j)/\(Jq L3 (gI s.args 0) (mk.drop j)=WF n.decls L s.op s.num s.args k)/\F=sF [0,3,5,6,7,9,10,45,46,47,78,79] fz [(80,.i j)]/\h=[.obj c1 [ZP n.decls,YN n,Z4 ln,Xf (TR L am s mk),.h ka,.h kb,.h kc],Ze gz 4,Ze gz 5,Ze gz 6,Ze gz 7,Ze gz 8,Ze gz 9,rV ka L3.vars,rV kb L3.own,rV kc L3.tok]/\m=mk.length-j) _ _ _ ⟨0,(JE n L s k),wa1,wb1,wc1,ob,(Z1u hlk),(by rw [BN];rfl),(by rw [KM];exact Z1t hop hmk),rfl,rfl,rfl⟩ (wk [0,3,3,3,3,3,3,0,0,0] (Yb fl) (e:=(rc (rc (rc (rc (rc (rc (rc (rv (xs:=L.vars) (by first|rw [BN]|rw [DG]|rw [DH]) (rv (xs:=L.own) (by first|rw [BN]|rw [DG]|rw [DH]) (rv (xs:=L.tok) (by first|rw [BN]|rw [DG]|rw [DH]) rz)))))))))))) ?_))))))
   rintro m F h ⟨j,L3,ka,kb,kc,Ug,W8,W4,JP,rfl,rfl,rfl⟩
   refine Zy (aq (XN ((j:Int)<(mk.length:Int)) (fun Xg=>?_) (fun Xg=>?_)))
   ·obtain ⟨xm,hxm⟩:=Zu mk j om
    refine ak (aq (ab 3 (ar (Zr (Zm none (j:Int) 1 (Y1 hxm)) (Z0 (az (Z2 2 (ic [0,6,6,6] (CT c1 ka kb kc n L3 ln (TR L am s mk) xm 0 (hlk:=W8)) ?_))))))))
    rintro _ _ ⟨wa2,wb2,wc2,rfl⟩
    exact ie (az (ZJ j (Z0 (ZK ⟨j+1,(L3.grow xm 0 (gI s.args 0)),wa2,wb2,wc2,ob,(WH.grow W8),(by simp [Zo.grow];omega),(by rw [Y6 hxm,Jq] at JP;exact JP),rfl,rfl,rfl⟩ (wk [0,3,3,3,3,3,3,0,0,0] (ZM j fl) (e:=(rc (rc (rc (rc (rc (rc (rc (rv (xs:=(L3.grow xm 0 (-1)).vars) ob (rv (xs:=(L3.grow xm 0 (-1)).own) ob (rv (xs:=(L3.grow xm 0 (-1)).tok) ob rz))))))))))))))))
   have hE:L3=WF n.decls L s.op s.num s.args k:=by rw [<-JP,Xq om];rfl
   have hL3v:L3.vars=L.vars++mk:=by rw [hE];exact hK.2
   have hL3l:L3.vars.length=L.vars.length+mk.length:=by rw [hL3v,Ys]
   refine ax 2 (Yk 3 [5] (ic [0,6,6,6] (ih ke.steps c1 ka kb kc L3 (TR L am s mk) q vs ob (by rw [hE];exact hK.1) (by rw [hE];exact hak) (by rw [hL3v];exact hvs) (by rw [hL3v];exact EC hnn (Nu hty hmk)) om om hsrr) ?_))
   rintro _ _ (⟨wa3,wb3,wc3,M'1,rfl,rfl,YI⟩|⟨rfl,rfl,YS⟩)
   ·have hP:=YI
    have kx:=Hv hn (by rw [hE];exact hK.1) hq.1 (by rw [hE];exact hak) (by rw [hL3v];exact hvs) hP
    have kl:=kx.1.len
    have hm1:(Wi M'1 ke.result).own.length=vs.length:=by rw [FZ.1,kl.own,kx.2.1]
    have hm2:(Wi M'1 ke.result).tok.length=vs.length:=by rw [FZ.2.1,kl.tok,kx.2.1]
    refine ZL 5 [8] (ic [0,0,0,0] (I6 c1 wa3 wb3 wc3 n M'1 ln (TR L am s mk) ke L.vars.length (hlk:=kl) (hlb:=(by rw [kx.2.1];omega)) (hm:=(by rw [kx.2.1];omega)) (hr:=(by rw [kx.2.1];omega)) (hq:=(fun y hy=>by have h1:=kx.1.nn y hy;have h2:=kx.1.bd y hy;omega))) ?_)
    rintro _ _ (⟨rfl,rfl,Xk⟩|⟨rfl,rfl,XZ⟩)
    ·have hB:=Xk
     rw [<-Hw (f:=Ud L.vars.length ke.result) hP,hE,<-KV] at hB
     exact Z0 (WC (ak (ab 4 (Y0 1 (iQ true (Z0 (We (T0 (az (ZJ k (Z0 (ZK (.inr ⟨k+1,c1,wa3,wb3,wc3,(Wi M'1 ke.result),(TR L am s mk),om,(by subst Yg;have e:=UT (hkd.symm.trans hke);subst e;exact hB),om,(by subst Yg;rfl),rfl,rfl,rfl⟩) (wk [0,0,0,0,0,0,0,0,1] (fr (ZM k fl)))))))))))))))
    have hB:=XZ
    rw [<-Hw (f:=Ud L.vars.length ke.result) hP,hE,<-KV] at hB
    exact Z0 (We (ar (Zp (r1 [] (.inr ⟨rfl,rfl,(by subst Yg;have e:=UT (hkd.symm.trans hke);subst e;rw [hgo,hB];rfl)⟩)))))
   have hB:Wh n ln (WF n.decls L s.op s.num s.args k) L.vars.length ke=none:=by rw [KV,<-hE,YS];rfl
   exact Z0 (We (ar (Zp (r1 [] (.inr ⟨rfl,rfl,(by subst Yg;have e:=UT (hkd.symm.trans hke);subst e;rw [hgo,hB];rfl)⟩)))))
  exact absurd hk2 om
 refine Zy (aq (XN ((k:Int)<(s.kids.length:Int)) (fun Xm=>?_) (fun Xm=>?_)))
 ·obtain ⟨ke,hke⟩:=Zu s.kids k om
  obtain ⟨mk,hmk⟩:=Zu (X7 n.decls s.op s.num) k om
  have hK:=Cw hk hq.1 hf hop hmk
  have hmk3:=DX XB hmk
  have hks:=TK hke
  have hbt:=hk3 k ke mk hke hmk
  obtain ⟨vs,rt,hvs,hres,hrt⟩:=C9 hbt
  have hri:=KU hres
  have hsrr:TO ke.steps:=by
   have h:=FF hr2.2 hke
   rwa [Z7.rng_eq] at h
  have hbz:=ke.sz_eq
  have hak:=Nt hn har hlk hop (by rw [hgx];exact hx) hmk
  have hsl:=Hu hvs
  rw [Ys] at hsl
  have hkl:=Ns (L:=L) (am:=am) (s:=s) (m:=mk)
  refine ak (aq (ab 1 (Y0 1 (Zr (Zm none (k:Int) 2 (Tf hke)) (Z2 1 (iA [nl,.i 0] fun b3=>Z2 1 (ZH 0 b3 (Xx ke) (ie (Y0 1 (ic [5,5,5,5] (ND b ga gb gc n L ln am) ?_))))))))))
  rintro _ _ ⟨c2,wa4,wb4,wc4,rfl,rfl⟩
  refine Z0 (X9 (VW [13] (Wm (fun fz gz F h=>F=sF [0,3,5,6,7,8,9,10,45,46,47] fz []/\h=[.obj c2 [ZP n.decls,YN n,Z4 ln,Xf (TR L am s mk),.h wa4,.h wb4,.h wc4],Ze gz 1,Ze gz 2,Ze gz 3,Ze gz 4,Ze gz 5,Ze gz 6,Ze gz 7,Ze gz 8,Ze gz 9,Ze gz 10,Ze gz 11,Ze gz 12,Ze gz 13]) ?_ ?_)))
  ·refine ac (s.op==8) Zq (fun VZ=>?_) (fun VZ=>?_)
   ·exact aE 19 (ZI 12 19 [0,1,2,3,4,5,6] [4,13] (dx 7 (Zm none 0 1 (Y1 ha)) (Zi 7 11 [8,9,10,11] (dx 12 (Zm none (k:Int) 1 (Aj hmk)) (Zi 4 6 [13,14] (Z9 15 (Yz 15 [] [] [] (FB am (X2.mk x (L.vars.length:Int) mk false)) (Zi 1 3 [16,17] (Z9 18 (YO 18 0 [] [] c2 [ZP n.decls,YN n,Z4 ln,Xf (am++[(X2.mk x (L.vars.length:Int) mk false)]),.h wa4,.h wb4,.h wc4] (de (ZU ⟨rfl,rfl⟩ (ZF 14 fl (e:=(ro (ls:=[ZP n.decls,YN n,Z4 ln,Xf (am++[(X2.mk x (L.vars.length:Int) mk false)]),.h wa4,.h wb4,.h wc4]) (by rw [TR,Zc ‹s.op=8›,hgx]) (rc (rc (rc (rc (rc (rc (rc (rc (rc (rc (rc (rc (rc rz))))))))))))))))))))))))))))
   exact ak (ZU ⟨rfl,rfl⟩ (ZF 14 fl (e:=(ro (ls:=[ZP n.decls,YN n,Z4 ln,Xf am,.h wa4,.h wb4,.h wc4]) (by rw [TR,Z5 ‹¬s.op=8›]) (rc (rc (rc (rc (rc (rc (rc (rc (rc (rc (rc (rc (rc rz)))))))))))))))))
  rintro F h ⟨rfl,rfl⟩
  refine YP 2 (Zr (Zm none (k:Int) 1 (Aj hmk)) (Z2 1 (iw (Ya mk) (Z0 (ab 2 (Y2 (fun fz gz m F h=>∃(j:Nat) (L3:Vo) (ka:Hd) (kb:Hd) (kc:Hd),(j<=mk.length)/\(WH L3)/\(L3.vars.length=L.vars.length+j)/\(Jq L3 (gI s.args 0) (mk.drop j)=WF n.decls L s.op s.num s.args k)/\F=sF [0,3,5,6,7,9,10,45,46,47,78,79] fz [(80,.i j)]/\h=[.obj c2 [ZP n.decls,YN n,Z4 ln,Xf (TR L am s mk),.h ka,.h kb,.h kc],Ze gz 4,Ze gz 5,Ze gz 6,Ze gz 7,Ze gz 8,Ze gz 9,Ze gz 10,Ze gz 11,Ze gz 12,Ze gz 13,rV ka L3.vars,rV kb L3.own,rV kc L3.tok]/\m=mk.length-j) _ _ _ ⟨0,(JE n L s k),wa4,wb4,wc4,ob,(Z1u hlk),(by rw [BN];rfl),(by rw [KM];exact Z1t hop hmk),rfl,rfl,rfl⟩ (wk [0,3,3,3,3,3,3,3,3,3,3,0,0,0] (Yb fl) (e:=(rc (rc (rc (rc (rc (rc (rc (rc (rc (rc (rc (rv (xs:=L.vars) (by first|rw [BN]|rw [DG]|rw [DH]) (rv (xs:=L.own) (by first|rw [BN]|rw [DG]|rw [DH]) (rv (xs:=L.tok) (by first|rw [BN]|rw [DG]|rw [DH]) rz)))))))))))))))) ?_))))))
  rintro m F h ⟨j,L3,ka,kb,kc,Ug,W8,W4,JP,rfl,rfl,rfl⟩
  refine Zy (aq (XN ((j:Int)<(mk.length:Int)) (fun VT=>?_) (fun VT=>?_)))
  ·obtain ⟨xm,hxm⟩:=Zu mk j om
   refine ak (aq (ab 3 (ar (Zr (Zm none (j:Int) 1 (Y1 hxm)) (Z0 (az (Z2 2 (ic [0,10,10,10] (CT c2 ka kb kc n L3 ln (TR L am s mk) xm 0 (hlk:=W8)) ?_))))))))
   rintro _ _ ⟨wa5,wb5,wc5,rfl⟩
   exact ie (az (ZJ j (Z0 (ZK ⟨j+1,(L3.grow xm 0 (gI s.args 0)),wa5,wb5,wc5,ob,(WH.grow W8),(by simp [Zo.grow];omega),(by rw [Y6 hxm,Jq] at JP;exact JP),rfl,rfl,rfl⟩ (wk [0,3,3,3,3,3,3,3,3,3,3,0,0,0] (ZM j fl) (e:=(rc (rc (rc (rc (rc (rc (rc (rc (rc (rc (rc (rv (xs:=(L3.grow xm 0 (-1)).vars) ob (rv (xs:=(L3.grow xm 0 (-1)).own) ob (rv (xs:=(L3.grow xm 0 (-1)).tok) ob rz))))))))))))))))))))
  have hE:L3=WF n.decls L s.op s.num s.args k:=by rw [<-JP,Xq om];rfl
  have hL3v:L3.vars=L.vars++mk:=by rw [hE];exact hK.2
  have hL3l:L3.vars.length=L.vars.length+mk.length:=by rw [hL3v,Ys]
  refine ax 2 (Yk 3 [5] (ic [0,10,10,10] (ih ke.steps c2 ka kb kc L3 (TR L am s mk) q vs ob (by rw [hE];exact hK.1) (by rw [hE];exact hak) (by rw [hL3v];exact hvs) (by rw [hL3v];exact EC hnn (Nu hty hmk)) om om hsrr) ?_))
  rintro _ _ (⟨wa6,wb6,wc6,M'2,rfl,rfl,Wy⟩|⟨rfl,rfl,WW⟩)
  ·have hP:=Wy
   have kx:=Hv hn (by rw [hE];exact hK.1) hq.1 (by rw [hE];exact hak) (by rw [hL3v];exact hvs) hP
   have kl:=kx.1.len
   have hm1:(Wi M'2 ke.result).own.length=vs.length:=by rw [FZ.1,kl.own,kx.2.1]
   have hm2:(Wi M'2 ke.result).tok.length=vs.length:=by rw [FZ.2.1,kl.tok,kx.2.1]
   refine ZL 5 [8] (ic [0,0,0,0] (I6 c2 wa6 wb6 wc6 n M'2 ln (TR L am s mk) ke L.vars.length (hlk:=kl) (hlb:=(by rw [kx.2.1];omega)) (hm:=(by rw [kx.2.1];omega)) (hr:=(by rw [kx.2.1];omega)) (hq:=(fun y hy=>by have h1:=kx.1.nn y hy;have h2:=kx.1.bd y hy;omega))) ?_)
   rintro _ _ (⟨rfl,rfl,Vt⟩|⟨rfl,rfl,T2⟩)
   ·have hB:=Vt
    rw [<-Hw (f:=Ud L.vars.length ke.result) hP,hE,<-KV] at hB
    refine Z0 (WC (ak (ab 4 (Y0 1 (iQ false (Z0 (WC (aD 31 (ZI 26 31 [0,1,2,3,4] [0] (dx 5 (KJ 2 wb6 ((Wi M'2 ke.result).own) L.vars.length) (ZI 20 25 [6,7,8,9,10] [9] (dx 11 (KJ 11 ub O.own L.vars.length) (Z9 12 (Td 12 [2,10] [] [] [rV wb6 ((Wi M'2 ke.result).own),rV ub O.own] (CE (((Wi M'2 ke.result).own).take L.vars.length) (O.own.take L.vars.length)) CX (gC (v:=wb6) (ys:=(Wi M'2 ke.result).own) 0 L.vars.length (gC (v:=ub) (ys:=O.own) 1 L.vars.length gN)) (Uv (Uv Tl)) ?_))))))))))))))
    rintro _ _ ⟨rfl,rfl⟩
    refine Af [0,3,5,6,7,45,46,47] [(104,.b ((!(decide ((((Wi M'2 ke.result).own).take L.vars.length)=(O.own.take L.vars.length))))||(!(decide ((((Wi M'2 ke.result).tok).take L.vars.length)=(O.tok.take L.vars.length))))))] (fun gz=>gz) ?_ ?_
    ·refine Zi 16 18 [13,14] (db (b:=(!(decide ((((Wi M'2 ke.result).own).take L.vars.length)=(O.own.take L.vars.length))))) 119 (fun ZA=>?_) (fun ZA=>?_))
     ·have Tj:¬((((Wi M'2 ke.result).own).take L.vars.length)=(O.own.take L.vars.length)):=((Yl dq)).1 ZA
      exact Zi 0 16 [15,16,17,18,19,20,21,22,23,24,25,26,27,28,29,30] (de (ZF 14 (Zt true ZA fl)))
     have Tk:¬(¬((((Wi M'2 ke.result).own).take L.vars.length)=(O.own.take L.vars.length))):=Y8 (Yl dq) ZA
     refine ZI 11 16 [15,16,17,18,19] [2] (dx 20 (KJ 4 wc6 ((Wi M'2 ke.result).tok) L.vars.length) (ZI 5 10 [21,22,23,24,25] [10] (dx 26 (KJ 12 uc O.tok L.vars.length) (Z9 27 (Td 27 [4,11] [] [] [rV wc6 ((Wi M'2 ke.result).tok),rV uc O.tok] (CE (((Wi M'2 ke.result).tok).take L.vars.length) (O.tok.take L.vars.length)) CX (gC (v:=wc6) (ys:=(Wi M'2 ke.result).tok) 0 L.vars.length (gC (v:=uc) (ys:=O.tok) 1 L.vars.length gN)) (Uv (Uv Tl)) ?_)))))
     rintro _ _ ⟨rfl,rfl⟩
     exact Zi 0 3 [28,29,30] (de (wk [2,2,2,2,0,1,1,1,1,1,1,1,0,0] (Zt (!(decide ((((Wi M'2 ke.result).tok).take L.vars.length)=(O.tok.take L.vars.length)))) ZA fl)))
    refine ac ((!(decide ((((Wi M'2 ke.result).own).take L.vars.length)=(O.own.take L.vars.length))))||(!(decide ((((Wi M'2 ke.result).tok).take L.vars.length)=(O.tok.take L.vars.length))))) (p:=(¬((((Wi M'2 ke.result).own).take L.vars.length)=(O.own.take L.vars.length)))∨(¬((((Wi M'2 ke.result).tok).take L.vars.length)=(O.tok.take L.vars.length)))) (Yf (Yl dq) (Yl dq)) (fun VU=>?_) (fun VU=>?_)
    ·exact ar (Zp (r1 [] (.inr ⟨rfl,rfl,(by rw [hgo,d0_1];exact EB (by rw [<-d0_3,Ey hke,hB];exact Z09 (VU.imp (fun h g=>h g.symm) (fun h g=>h g.symm))))⟩)))
    exact ak (az (ZJ k (Z0 (ZK (.inr ⟨k+1,c0,ua,ub,uc,O,aO,om,d0_1,d0_2,(by rw [Ey hke,hB,Z0a (fun z=>VU (z.imp (fun h g=>h g.symm) (fun h g=>h g.symm)))] at d0_3;exact d0_3),rfl,rfl,rfl⟩) (wk [10,10,1,9,4,4,4,4,5] (fr (ZM k fl)))))))
   have hB:=T2
   rw [<-Hw (f:=Ud L.vars.length ke.result) hP,hE,<-KV] at hB
   exact Z0 (We (ar (Zp (r1 [] (.inr ⟨rfl,rfl,(by rw [hgo,d0_1];exact EB (by rw [<-d0_3,Ey hke,hB];rfl))⟩)))))
  have hB:Wh n ln (WF n.decls L s.op s.num s.args k) L.vars.length ke=none:=by rw [KV,<-hE,WW];rfl
  exact Z0 (We (ar (Zp (r1 [] (.inr ⟨rfl,rfl,(by rw [hgo,d0_1];exact EB (by rw [<-d0_3,Ey hke,hB];rfl))⟩)))))
 refine ax 0 (aD 22 (ZI 15 22 [0,1,2,3,4,5,6] [0] (dx 7 (KJ 2 ub O.own L.vars.length) (ZI 9 14 [9,10,11,12,13] [0] (dx 14 (KJ 3 uc O.tok L.vars.length) (Z9 8 (Td 8 [2] [0] [c0] [rV ub O.own] (E3 (O.own.take L.vars.length)) JR (gC (v:=ub) (ys:=O.own) 0 L.vars.length gN) (Uv Tl) ?_)))))))
 rintro _ _ ⟨v2,rfl,rfl⟩
 refine Z9 15 (Td 15 [4] [] [] [rV uc O.tok] (E3 (O.tok.take L.vars.length)) JR (gC (v:=uc) (ys:=O.tok) 0 L.vars.length gN) (Uv Tl) ?_)
 rintro _ _ ⟨v3,rfl,rfl⟩
 exact Zi 4 6 [16,17] (Z9 18 (YO 18 6 [] [] b [ZP n.decls,YN n,Z4 ln,Xf am,.h ga,.h v2,.h gc] (Zi 1 3 [19,20] (Z9 21 (YO 21 0 [] [] b [ZP n.decls,YN n,Z4 ln,Xf am,.h ga,.h v2,.h v3] (de (ar (Zp (r1 [0,6,2,0] (.inl ⟨ga,v2,v3,(Zo.mk L.vars (O.own.take L.vars.length) L.par L.con L.fst (O.tok.take L.vars.length)),rfl,rfl,(by rw [hgo,d0_1];exact RK (by rw [<-d0_3,Xq om];rfl))⟩) (eq:=(rc (rv (xs:=L.vars) ob (rv (xs:=(O.own.take L.vars.length)) ob (rv (xs:=(O.tok.take L.vars.length)) ob rz))))))))))))))
theorem Lo (n:Zl) (us:LI) (s:Z6) (hn:X4 n) (hty:KO n) (hnn:∀t∈us,0<=t) (hb:us.length+4*s.sz<=1000000000) (hr:s.rng):Zk 127 [.agg [ZP n.decls,YN n],Z4 us,YG s] [] (fun r h=>∃(t:Int),r=.tup [.i t,.b (decide (0<=ZZ n us s))]/\h=[]/\(¬YF s.op=true->0<=ZZ n us s->t=ZZ n us s)):=
 PP n us s hn hty hnn hb hr fun b us2 _ h2 h3 h4=>PI n us2 b hn hty h4 h2 h3
theorem Z4l (b:Nat) (ga:Hd) (gb:Hd) (gc:Hd) (n:Zl) (L:Vo) (ln:LI) (am:List X2) (s:Z6) (q:Int) (hn:X4 n:=by exact ob) (hty:KO n:=by exact ob) (hlt:C5 n:=by exact ob) (hk:X6 n.decls L q:=by exact ob) (har:V1 n.decls L am:=by exact ob) (hln:ln.length<=4294967296:=by exact ob) (ht:0<=ZZ n L.vars s:=by exact ob) (hnn:∀t∈L.vars,0<=t) (hb:L.vars.length+am.length+4*s.sz<=900000000:=by exact ob) (hq:0<=q/\q+4*s.sz<=999999980:=by exact ob) (hr:s.rng:=by exact ob) (ih:∀(ys:List Z6) (c:Nat) (ra:Hd) (rb:Hd) (rc:Hd) (M:Vo) (a2:List X2) (p:Int) (vs:LI),(Yj ys<s.sz)->(X6 n.decls M p)->(V1 n.decls M a2)->(Xi n ys M.vars=some vs)->(∀t∈M.vars,0<=t)->(M.vars.length+a2.length+4*Yj ys<=900000000)->(0<=p/\p+4*Yj ys<=999999980)->(TO ys)->Zk 124 [.p c 0,Vu ys] [.obj c [ZP n.decls,YN n,Z4 ln,Xf a2,.h ra,.h rb,.h rc],rV ra M.vars,rV rb M.own,rV rc M.tok] (fun r h=>(∃(wa:Hd) (wb:Hd) (wc:Hd) (M':Vo),r=.b true/\h=[.obj c [ZP n.decls,YN n,Z4 ln,Xf a2,.h wa,.h wb,.h wc],rV wa M'.vars,rV wb M'.own,rV wc M'.tok]/\Xt n ln M ys=some M')∨(r=.b false/\h=[]/\Xt n ln M ys=none))):Zk 177 [.p b 0,YG s] [.obj b [ZP n.decls,YN n,Z4 ln,Xf am,.h ga,.h gb,.h gc],rV ga L.vars,rV gb L.own,rV gc L.tok] (fun r h=>(∃(wa:Hd) (wb:Hd) (wc:Hd) (L':Vo),r=.b true/\h=[.obj b [ZP n.decls,YN n,Z4 ln,Xf am,.h wa,.h wb,.h wc],rV wa L'.vars,rV wb L'.own,rV wc L'.tok]/\WI n ln L s=some L')∨(r=.b false/\h=[]/\WI n ln L s=none)):=by
 have hlk:=hk.len
 obtain ⟨e1,e2,e3,e4,e5⟩:=hk.len
 have hf:=B9 ht
 have hkz:=TL s
 have haz:=K6 s
 have hlh:=Zdg hlt ht
 refine ZG 58 Tryz.func177 (ar (iA (XE s) fun b1=>Z0 (aq (ab 0 (Zv 2 [0] (Zx [] (Gy s.op) (YD (YF s.op) Iff.rfl (fun Za=>?_) (fun Za=>?_))))))))
 ·obtain ⟨x,hxa⟩:=hf.one (.inr (.inr (by simpa [YF] using Za)))
  have ha:s.args[0]? = some x:=by rw [hxa];rfl
  have hx:=hf.args x (by rw [hxa];simp)
  have hgx:=JU ha
  have hal:=(Xs.1 ha).1
  refine aD 9 (ZI 4 9 [0,1,2,3,4] [0,0] (dx 5 (Zm none 0 1 (Y1 ha)) (Zi 2 3 [6] (Z9 7 (dc 7 [1,1,1,1] [] [] (Z4j b ga gb gc n L ln am s.op x q) ?_)))))
  rintro _ _ (⟨L'1,rfl,rfl,ZY⟩|⟨rfl,rfl,Yd⟩)
  ·exact Zi 0 1 [8] (de (ZC (r1 [0,0,0,0] (.inl ⟨ga,gb,gc,L'1,rfl,rfl,(by rw [Z1y Za hgx];exact ZY)⟩))))
  exact Zi 0 1 [8] (de (ZC (r1 [] (.inr ⟨rfl,rfl,(by rw [Z1y Za hgx];exact Yd)⟩))))
 refine ar (XD 8 [0,3] [(27,.b ((s.op==7)||(s.op==8)))] (fun gz=>gz) ?_ (fun hj1=>?_))
 ·refine YD ((s.op==7)||(s.op==8)) (p:=(s.op=7)∨(s.op=8)) (Yf Zq Zq) (fun Zg=>?_) (fun Zg=>?_)
  ·refine Zv 2 [0] (ic [1,1,1,1] (Z4g b ga gb gc n L ln am s q (hnn:=ob) (ih:=ih)) ?_)
   rintro _ _ (⟨wa1,wb1,wc1,L'2,rfl,rfl,YI⟩|⟨rfl,rfl,YS⟩)
   ·have hP:=(Ha (n:=n) (ln:=ln) (L:=L) Zg).trans YI
    obtain ⟨kx,hxv⟩:=BH hn hk hq.1 hf hP
    refine Z0 (WC (ak (aD 15 (ZI 6 15 [0,1,2,3,4,5,6,7,8] [0,0,4] (Z9 9 (Td 9 [1] [] [] [rV wa1 L'2.vars] (Lo n L'2.vars s ob ob (by rw [hxv];exact hnn) (by rw [hxv];omega) ob) Ih (gS (gL (v:=wa1) 0 (gS gN))) (Uv Tl) ?_))))))
    rintro _ _ ⟨t1,rfl,rfl,Xk⟩
    rw [hxv] at Xk
    have hte:=Xk Za ht
    refine Zi 0 5 [10,11,12,13,14] (de (Y0 3 (iI t1 1 (ic [1,0,0,0] (CT b wa1 wb1 wc1 n L'2 ln am t1 (min t1 1) (hlb:=(by rw [hxv];omega)) (hlk:=kx.len)) ?_))))
    rintro _ _ ⟨wa2,wb2,wc2,rfl⟩
    exact ie (ar (Zp (r1 [0,0,0,0] (.inl ⟨wa2,wb2,wc2,(L'2.grow t1 (min t1 1) (-1)),rfl,rfl,(MM hP ht Za hte)⟩))))
   have hP:=(Ha (n:=n) (ln:=ln) (L:=L) Zg).trans YS
   exact Z0 (We (ar (Zp (r1 [] (.inr ⟨rfl,rfl,(Z1z hP)⟩)))))
  refine Zv 2 [0] (Zx [] (PL s.op) (YD (Tc s.op) Iff.rfl (fun ZE=>?_) (fun ZE=>?_)))
  ·refine Zv 2 [0] (ic [1,1,1,1] (Z4i b ga gb gc n L ln am s q (hlt:=hlh)) ?_)
   rintro _ _ (⟨L'3,rfl,rfl,XZ⟩|⟨rfl,rfl,Wy⟩)
   ·have hP:=(M7 (n:=n) (ln:=ln) (L:=L) Za Zg).trans XZ
    obtain ⟨kx,hxv⟩:=BH hn hk hq.1 hf hP
    refine Z0 (WC (ak (aD 15 (ZI 6 15 [0,1,2,3,4,5,6,7,8] [0,0,4] (Z9 9 (Td 9 [1] [] [] [rV ga L'3.vars] (Lo n L'3.vars s ob ob (by rw [hxv];exact hnn) (by rw [hxv];omega) ob) Ih (gS (gL (v:=ga) 0 (gS gN))) (Uv Tl) ?_))))))
    rintro _ _ ⟨t2,rfl,rfl,WW⟩
    rw [hxv] at WW
    have hte:=WW Za ht
    refine Zi 0 5 [10,11,12,13,14] (de (Y0 3 (iI t2 1 (ic [1,0,0,0] (CT b ga gb gc n L'3 ln am t2 (min t2 1) (hlb:=(by rw [hxv];omega)) (hlk:=kx.len)) ?_))))
    rintro _ _ ⟨wa3,wb3,wc3,rfl⟩
    exact ie (ar (Zp (r1 [0,0,0,0] (.inl ⟨wa3,wb3,wc3,(L'3.grow t2 (min t2 1) (-1)),rfl,rfl,(MM hP ht Za hte)⟩))))
   have hP:=(M7 (n:=n) (ln:=ln) (L:=L) Za Zg).trans Wy
   exact Z0 (We (ar (Zp (r1 [] (.inr ⟨rfl,rfl,(Z1z hP)⟩)))))
  have hP:=Zf2 (ln:=ln) Za Zg ZE ht
  have hxv:L.vars=L.vars:=rfl
  have kx:=hk
  refine ak (aD 15 (ZI 6 15 [0,1,2,3,4,5,6,7,8] [1,1,0] (Z9 9 (Td 9 [2] [] [] [rV ga L.vars] (Lo n L.vars s ob ob (by rw [hxv];exact hnn) (by rw [hxv];omega) ob) Ih (gS (gL (v:=ga) 0 (gS gN))) (Uv Tl) ?_))))
  rintro _ _ ⟨t3,rfl,rfl,Vt⟩
  rw [hxv] at Vt
  have hte:=Vt Za ht
  refine Zi 0 5 [10,11,12,13,14] (de (Y0 3 (iI t3 1 (ic [2,0,1,1] (CT b ga gb gc n L ln am t3 (min t3 1) (hlb:=(by rw [hxv];omega)) (hlk:=kx.len)) ?_))))
  rintro _ _ ⟨wa4,wb4,wc4,rfl⟩
  exact ie (ar (Zp (r1 [0,0,0,0] (.inl ⟨wa4,wb4,wc4,(L.grow t3 (min t3 1) (-1)),rfl,rfl,(MM hP ht Za hte)⟩))))
 refine ZL 4 [0] (ib (b:=(s.op==7)) 23 (fun Zb=>?_) (fun Zb=>?_))
 ·have T2:s.op=7:=(Zq).1 Zb
  exact Z2 4 (Yq (ZF 5 (Zt true Zb fl)) hj1)
 have Tj:¬(s.op=7):=Y8 Zq Zb
 exact ZL 4 [0] (Yq (ZF 5 (Zt (s.op==8) Zb fl)) hj1)
theorem Z4o (n:Zl) (ln:LI) (hn:X4 n) (hty:KO n) (hlt:C5 n) (hln:ln.length<=4294967296) (m:Nat):∀(ys:List Z6) (c:Nat) (ra:Hd) (rb:Hd) (rc:Hd) (M:Vo) (a2:List X2) (p:Int) (vs:LI),(Yj ys<m)->(X6 n.decls M p)->(V1 n.decls M a2)->(Xi n ys M.vars=some vs)->(∀t∈M.vars,0<=t)->(M.vars.length+a2.length+4*Yj ys<=900000000)->(0<=p/\p+4*Yj ys<=999999980)->(TO ys)->Zk 124 [.p c 0,Vu ys] [.obj c [ZP n.decls,YN n,Z4 ln,Xf a2,.h ra,.h rb,.h rc],rV ra M.vars,rV rb M.own,rV rc M.tok] (fun r h=>(∃(wa:Hd) (wb:Hd) (wc:Hd) (M':Vo),r=.b true/\h=[.obj c [ZP n.decls,YN n,Z4 ln,Xf a2,.h wa,.h wb,.h wc],rV wa M'.vars,rV wb M'.own,rV wc M'.tok]/\Xt n ln M ys=some M')∨(r=.b false/\h=[]/\Xt n ln M ys=none)):=by
 induction m with
 | zero=>intro ys c ra rb rc M a2 p vs h;omega
 | succ m ih=>
  intro ys c ra rb rc M a2 p vs h hk har ht hnn hb hp hr
  exact Z4n c ra rb rc n M ln a2 ys p vs hn hk har ht hnn hb hp hr fun s2 c ra rb rc M a2 p h1 hk har ht hnn hb hp hr=>Z4l c ra rb rc n M ln a2 s2 p hn hty hlt hk har hln ht hnn hb hp hr
   fun ys c ra rb rc M a2 p vs h2 hk har ht hnn hb hp hr=>ih ys c ra rb rc M a2 p vs om hk har ht hnn hb hp hr
theorem Z4m (c:Nat) (ra:Hd) (rb:Hd) (rc:Hd) (n:Zl) (M:Vo) (ln:LI) (a2:List X2) (ys:List Z6) (p:Int) (vs:LI) (hn:X4 n) (hty:KO n) (hlt:C5 n) (hln:ln.length<=4294967296) (hk:X6 n.decls M p) (har:V1 n.decls M a2) (ht:Xi n ys M.vars=some vs) (hnn:∀t∈M.vars,0<=t) (hb:M.vars.length+a2.length+4*Yj ys<=900000000) (hp:0<=p/\p+4*Yj ys<=999999980) (hr:TO ys):Zk 124 [.p c 0,Vu ys] [.obj c [ZP n.decls,YN n,Z4 ln,Xf a2,.h ra,.h rb,.h rc],rV ra M.vars,rV rb M.own,rV rc M.tok] (fun r h=>(∃(wa:Hd) (wb:Hd) (wc:Hd) (M':Vo),r=.b true/\h=[.obj c [ZP n.decls,YN n,Z4 ln,Xf a2,.h wa,.h wb,.h wc],rV wa M'.vars,rV wb M'.own,rV wc M'.tok]/\Xt n ln M ys=some M')∨(r=.b false/\h=[]/\Xt n ln M ys=none)):=
 Z4o n ln hn hty hlt hln (Yj ys+1) ys c ra rb rc M a2 p vs om hk har ht hnn hb hp hr
theorem PN (n:Zl) (hz:Vp n) (hs:VA n=true):Zk 43 [Yt n] [] (Yr (.tup [.agg [ZP n.decls,YN n],.b (VA n)])):=by
 refine (PM n hz).mono fun r h q=>?_
 rcases q with ⟨h1,h2,_⟩|⟨_,_,h3⟩
 ·exact ⟨h1,h2⟩
 ·rw [hs] at h3;cases h3
theorem Z4k (n:Zl) (f:Nat) (rt:Yh) (hn:X4 n:=by exact ob) (hz:Vp n:=by exact ob) (hs:VA n=true:=by exact ob) (hr:n.routines[f]? = some rt:=by exact ob):Zk 123 [Yt n,.i f] [] (fun r h=>∃(c:Nat) (wa:Hd) (wb:Hd) (wc:Hd),r=.p c 0/\h=[.obj c [ZP n.decls,YN n,Z4 rt.lent,Xf [],.h wa,.h wb,.h wc],rV wa ((U3 rt).vars),rV wb ((U3 rt).own),rV wc ((U3 rt).tok)]):=by
 have hfl:=(Xs.1 hr).1
 have hpl:=hn.params_at hr
 have hll:=hn.lent_at hr
 refine ZG 58 Tryz.func123 (ar (iA (YY n) fun b1=>Z0 (Zv 1 [0] (Zx [] (PN n ob ob) (Z2 3 (iA [nl,nl] fun b2=>ZH 0 b2 [ZP n.decls,YN n] (Z0 (aD 10 (ZI 6 10 [0,1,2,3] [0,1] (dx 4 (Zm none (f:Int) 5 (WV hr)) (Zi 2 5 [5,6,7] (Z9 8 (dA 8 [] [] [ZP n.decls,YN n,Z4 rt.lent,nl,nl,nl,nl] fun b3=>?_)))))))))))))
 refine Jn (Z27 0 b3 [ZP n.decls,YN n,Z4 rt.lent,nl,nl,nl,nl] [ZP n.decls,YN n,Z4 rt.lent,Xf [],.h hN,.h hN,.h hN] (.cons (lr _) (.cons (lr _) (.cons (lr _) (.cons (Zd.sl _ rfl) (.cons (Zd.hd (v:=hN)) (.cons (Zd.hd (v:=hN)) (.cons (Zd.hd (v:=hN)) .nil)))))))) (Jn (A3) (Jn (A3) (Jn (A3) (Zi 0 1 [9] (de (Yk 3 [5] (Zr (Zm none (f:Int) 5 (WV hr)) (Z2 2 (iw (Ya rt.params) (Z0 (ab 0 (Y2 (fun fz gz m F h=>∃(k:Nat) (L2:Vo) (ka:Hd) (kb:Hd) (kc:Hd),(k<=rt.params.length)/\(WH L2)/\(L2.vars.length=k)/\(KC rt.lent (rt.params.drop k) k L2=U3 rt)/\F=sF [7,29,30] fz [(31,.i k)]/\h=[.obj b3 [ZP n.decls,YN n,Z4 rt.lent,Xf [],.h ka,.h kb,.h kc],rV ka L2.vars,rV kb L2.own,rV kc L2.tok]/\m=rt.params.length-k) _ _ _ ⟨0,(Zo.mk [] [] [] [] [] []),hN,hN,hN,ob,⟨rfl,rfl,rfl,rfl,rfl⟩,rfl,rfl,rfl,rfl,rfl⟩ (wk [3,0,0,0] (Yb fl) (e:=(rc (rv (xs:=[]) ob (rv (xs:=[]) ob (rv (xs:=[]) ob rz)))))) ?_))))))))))))
 rintro m F h ⟨k,L2,ka,kb,kc,Yg,Zj,Zw,Yy,rfl,rfl,rfl⟩
 refine Zy (aq (XN ((k:Int)<(rt.params.length:Int)) (fun Za=>?_) (fun Za=>?_)))
 ·refine ak (aq (ab 1 (Y0 1 ?_)))
  obtain ⟨x1,Z3⟩:=Zu rt.params k om
  have hgl:(L2.grow x1 0 (-1)).own.length=k+1:=by simp [Zo.grow,Zj.own,Zw]
  refine Zr (Zm none (k:Int) 1 (Y1 Z3)) (Z0 (Y0 2 (ic [0,0,0,0] (CT b3 ka kb kc n L2 rt.lent [] x1 0) ?_)))
  rintro _ _ ⟨wa1,wb1,wc1,rfl⟩
  refine ie (ar (Xw [7,8,29,30,31] [(49,.b ((x1 != 0)&&(!(decide ((k:Int)∈rt.lent)))))] (fun gz=>gz) ?_ ?_))
  ·refine Z2 3 (ib (b:=(x1 != 0)) 41 (fun Zb=>?_) (fun Zb=>?_))
   ·have ZY:x1≠0:=(Y4).1 Zb
    exact ZL 5 [0] (Zx [] (MC rt.lent (k:Int)) (Z0 (ZF 4 (Zt (!(decide ((k:Int)∈rt.lent))) Zb fl))))
   have Yd:¬(x1≠0):=Y8 Y4 Zb
   exact Z0 (ZF 4 (Zt false Zb fl))
  refine ac ((x1 != 0)&&(!(decide ((k:Int)∈rt.lent)))) (p:=(x1≠0)/\(¬((k:Int)∈rt.lent))) (YJ Y4 (Yl dq)) (fun Zg=>?_) (fun Zg=>?_)
  ·exact az (ZL 5 [0] (Zr (Wu 2 wb1 ((L2.grow x1 0 (-1)).own) (k:Int) k) (Dl 2 wb1 ((L2.grow x1 0 (-1)).own) k 1 (ie (az (ZJ k (Z0 (ZK ⟨k+1,(L2.grow x1 1 (-1)),wa1,wb1,wc1,ob,(WH.grow Zj),(by simp [Zo.grow];omega),(by rw [Y6 Z3,KC] at Yy;first|(rw [Zc (by assumption)] at Yy;exact Yy)|(rw [Z5 (by assumption)] at Yy;exact Yy)),rfl,rfl,rfl⟩ (wk [1,1,0,0] (ZM k fl) (e:=(rc (rv (xs:=(L2.grow x1 0 (-1)).vars) (by first|rfl|exact Mw (by rw [Zj.own,Zw])) (rv (xs:=(((L2.grow x1 0 (-1)).own).set k 1)) (by first|rfl|exact Mw (by rw [Zj.own,Zw])) (rv (xs:=(L2.grow x1 0 (-1)).tok) (by first|rfl|exact Mw (by rw [Zj.own,Zw])) rz))))))))))))))
  exact ak (az (ZJ k (Z0 (ZK ⟨k+1,(L2.grow x1 0 (-1)),wa1,wb1,wc1,ob,(WH.grow Zj),(by simp [Zo.grow];omega),(by rw [Y6 Z3,KC] at Yy;first|(rw [Zc (by assumption)] at Yy;exact Yy)|(rw [Z5 (by assumption)] at Yy;exact Yy)),rfl,rfl,rfl⟩ (ZF 4 (ZM k fl))))))
 refine ax 0 (Zy ?_)
 have hNl:L2=U3 rt:=by rw [<-Yy,Xq om];rfl
 exact ZC (r1 [0,0,0,0] ⟨b3,ka,kb,kc,rfl,rfl⟩ (eq:=(rc (rv (xs:=L2.vars) (by rw [hNl]) (rv (xs:=L2.own) (by rw [hNl]) (rv (xs:=L2.tok) (by rw [hNl]) rz))))))
theorem Zbc (n:Zl) (f:Nat) (rt:Yh) (hn:X4 n:=by exact ob) (hty:KO n:=by exact ob) (hlt:C5 n:=by exact ob) (hz:Vp n:=by exact ob) (hs:VA n=true:=by exact ob) (hr:n.routines[f]? = some rt:=by exact ob) (ht:0<=YR n rt.params rt.body:=by exact ob) (hrr:rt.body.rng:=by exact ob):Zk 65 [Yt n,.i f] [] (Yr (.b (Tb n rt))):=by
 have hfl:=(Xs.1 hr).1
 have hpl:=hn.params_at hr
 have hll:=hn.lent_at hr
 have hrm:=Y3 hr
 have hbd:=hz.body rt hrm
 have hbz:=rt.body.sz_eq
 obtain ⟨hk,hkv⟩:=H3 n.decls rt
 obtain ⟨vs,t0,hvs,hres,hrt⟩:=C9 ht
 have hri:=KU hres
 have hsl:=Hu hvs
 rw [rt.body.rng_eq] at hrr
 refine ZG 25 Tryz.func65 (ar (iA (YY n) fun b1=>Z0 (Zv 2 [0] (ic [] (Z4k n f rt) ?_))))
 rintro _ _ ⟨c1,wa1,wb1,wc1,rfl,rfl⟩
 refine Z0 (Zv 3 [4] (Zr (Zm none (f:Int) 5 (WV hr)) (Z2 2 (iA [nl,.i 0] fun b2=>ZH 0 b2 (Xx rt.body) (ie (Zv 3 [0] (ic [1,1,1,1] (Z4m c1 wa1 wb1 wc1 n (U3 rt) rt.lent [] rt.body.steps 1 vs ob ob ob ob hk (RQ rt) (by rw [hkv];exact hvs) (by rw [hkv];exact hty.params rt hrm) (by rw [hkv,XL];omega) ob ob) ?_)))))))
 rintro _ _ (⟨wa2,wb2,wc2,M'1,rfl,rfl,ZY⟩|⟨rfl,rfl,Yd⟩)
 ·have hP:=ZY
  have kx:=Hv hn hk om (RQ rt) (by rw [hkv];exact hvs) hP
  have kl:=kx.1.len
  refine ZL 3 [4] (ic [0,0,0,0] (I6 c1 wa2 wb2 wc2 n M'1 rt.lent [] rt.body 0 (hlk:=kl) (hlb:=(by rw [kx.2.1];omega)) (hr:=(by rw [kx.2.1];omega)) (hq:=(fun y hy=>by have h1:=kx.1.nn y hy;have h2:=kx.1.bd y hy;omega))) ?_)
  rintro _ _ (⟨rfl,rfl,YI⟩|⟨rfl,rfl,YS⟩)
  ·have hB:=YI
   exact Zp (ZW (.b true) (lb (by rw [SU hP (by rw [kl.own,kl.tok]),hB];rfl)))
  have hB:=YS
  exact Zp (ZW (.b false) (lb (by rw [SU hP (by rw [kl.own,kl.tok]),hB];rfl)))
 have hP:=Yd
 exact Zp (ZW (.b false) (lb (by rw [Zfv hP])))
theorem Zb7 (n:Zl) (hz:Vp n:=by exact ob) (hr:∀r∈n.routines,r.body.rng):Zk 23 [Yt n] [] (Yr (.b (UJ n))):=by
 have hzl:=hz.len
 refine ZG 18 Tryz.func23 (ar (iA (YY n) fun b1=>Z0 (Yk 1 [0] (Zx [] (Zb9 n (hr:=hr)) (YD (!V7 n) (p:=¬(V7 n=true)) (Yl Iff.rfl) (fun Za=>?_) (fun Za=>?_))))))
 ·exact ar (Zp (ZW (.b false) (lb (by first|rfl|omega|grind [UJ]))))
 have hV:V7 n=true:=Wf.1 Za
 obtain ⟨hok,hall⟩:=HD hz hV
 have hsg:VA n=true:=by rw [V7,Wa] at hV;exact hV.1
 have hty:=RX hsg
 have hlt:=Ze5 hsg
 refine ak (Yk 2 [0] (iw (Ul n.routines) (Z0 (ab 0 (Y2 (fun fz gz m F h=>∃(k:Nat),(k<=n.routines.length)/\(Qm n (n.routines.drop k)=Qm n n.routines)/\F=sF [1,9] fz [(10,.i k)]/\h=gz/\m=n.routines.length-k) _ _ _ ⟨0,ob,ob,rfl,rfl,rfl⟩ (wk [0] (Yb fl)) ?_)))))
 rintro m F h ⟨k,Yg,Zj,rfl,rfl,rfl⟩
 refine Zy (aq (XN ((k:Int)<(n.routines.length:Int)) (fun Zg=>?_) (fun Zg=>?_)))
 ·obtain ⟨rt,hrt⟩:=Zu n.routines k om
  have hrm:=Y3 hrt
  refine ak (aq (ab 1 (Zy (Zv 2 [0] (Zx [] (Zbc n k rt (hr:=hrt) (ht:=(hall rt hrm)) (hrr:=(hr rt hrm))) (YD (!Tb n rt) (p:=¬(Tb n rt=true)) (Yl Iff.rfl) (fun ZE=>?_) (fun ZE=>?_)))))))
  ·refine Zy ?_
   rw [Y6 hrt] at Zj
   exact ZC (ZW (.b false) (lb (by first|rfl|omega|grind [Qm,UJ])))
  refine ak (az (ZJ k (Z0 ?_)))
  have hdr:=Y6 hrt
  exact ZK ⟨k+1,ob,(by rw [hdr] at Zj;clear hdr ;grind [Qm]),rfl,rfl,rfl⟩ (wk [0] (ZM k fl))
 refine ax 0 (Zy ?_)
 try rw [Xq (xs:=n.routines) (k:=k) om] at Zj
 exact ZC (ZW (.b true) (lb (by first|rfl|omega|grind [Qm,UJ])))
theorem PK (op:Int) (v:Int) :Zk 120 [.i op,.i v] [] (fun r h=>∃(u:Value),r=.agg [.i op,.i 0,.i 0,ZQ [v] u,BC [] (.slice none 0 0)]/\h=[.tail u 1]):=by
 exact ZG 9 Tryz.func120 (ar (iA [.i 0,.i 0,.i 0,nl,nl] fun b1=>ie (Y0 2 (iL (Z8 [v]) 1 1 fun v1=>Z2 1 (ZH 1 b1 [.i op,.i 0,.i 0,ZQ [v] v1,nl] (ie (ZC (r3 [1] [.agg [.i op,.i 0,.i 0,ZQ [v] v1,nl]] [0] [(b1,b1)] ⟨v1,rfl,rfl⟩ (Zd.agg (.cons (lr _) (.cons (lr _) (.cons (lr _) (.cons (lr _) (.cons (Zd.slh _ (by first|rfl|(subst_vars;rfl))) .nil))))))))))))))
theorem Zbw (s:Z6) (ys:List XJ) (kv:Value) (hl:s.args.length<=4294967296:=by exact ob):Zk 100 [YG s,BC ys kv] [] (fun r h=>∃(u:Value),r=.agg [.i s.op,.i s.num,.i s.into,ZQ s.args u,BC ys kv]/\h=[.tail u 1]):=by
 refine ZG 12 Tryz.func100 (ar (iA (XE s) fun b1=>iA [.i 0,.i 0,.i 0,nl,nl] fun b2=>ie (Zv 2 [1] (ic [] (E2 s.args) ?_))))
 rintro _ _ ⟨v1,rfl,rfl⟩
 exact Z2 2 (ZH 2 b1 [.i s.op,.i s.num,.i s.into,ZQ s.args v1,Wj s.kids] (Z2 1 (ZH 0 b1 [.i s.op,.i s.num,.i s.into,ZQ s.args v1,BC ys kv] (ie (Zv 1 [0] (ZH 2 b2 [.i s.op,.i s.num,.i s.into,ZQ s.args v1,BC ys kv] (ie (ZC (r3 [2] [.agg [.i s.op,.i s.num,.i s.into,ZQ s.args v1,BC ys kv]] [0] [(b2,b2)] ⟨v1,rfl,rfl⟩ (lr _))))))))))
theorem Z5e (ds:List Zf) (hl_ds:ds.length<=4294967296:=by exact ob):Zk 161 [ZP ds] [] (fun r h=>∃(v:Hd),r=.h v/\h=[rK v 3 (Zh (YB ds))]):=by
 refine ZG 8 Tryz.func161 (Zy (YP 1 (iN (YB ds) (fun hz1=>?_) ?_)))
 ·have hz1:=Z76 hz1
  refine ie (We (Zy (Ty (Hy (k:=3)) ?_)))
  subst hz1
  exact ZC (r2 [0] [nl] ⟨hN,rfl,rfl⟩ (Zd.hd (v:=hN)) (eq:=(rr (ls:=[]) rfl rz)))
 exact ie (WC (ak (ar (Dk 3 fun g1=>Z2 1 (Gw 0 g1 3 (YB ds) none (KZ _) (by simp<;>omega) fun v1=>Zp (r1 [0] ⟨v1,rfl,rfl⟩))))))
theorem Z5d (cs:List Ye) (hl_cs:cs.length<=4294967296:=by exact ob):Zk 162 [J4 cs] [] (fun r h=>∃(v:Hd),r=.h v/\h=[rK v 1 (Zh (XT cs))]):=by
 refine ZG 8 Tryz.func162 (Zy (YP 1 (iN (XT cs) (fun hz1=>?_) ?_)))
 ·have hz1:=Z73 hz1
  refine ie (We (Zy (Ty (Hy (k:=1)) ?_)))
  subst hz1
  exact ZC (r2 [0] [nl] ⟨hN,rfl,rfl⟩ (Zd.hd (v:=hN)) (eq:=(rr (ls:=[]) rfl rz)))
 exact ie (WC (ak (ar (Dk 1 fun g1=>Z2 1 (Gw 0 g1 1 (XT cs) none (E9 _) (by simp<;>omega) fun v1=>Zp (r1 [0] ⟨v1,rfl,rfl⟩))))))
theorem Zbf (ds:List Zf) (hd:Wv ds:=by exact ob):Zk 96 [ZP ds] [] (fun r h=>∃(ys:List Vn) (w:Value),r=Cy ys w/\h=[.many (VV ys),.tail w 3]/\ys.map Vn.er=ds):=by
 have hdl:=hd.len
 refine ZG 46 Tryz.func96 (Zy (Y0 1 (ic [] (Z5e ds) ?_)))
 rintro _ _ ⟨v1,rfl,rfl⟩
 refine Z0 (YP 1 (Zr (R7 0 ds.length v1 3 (Zh (YB ds)) (by rw [OU])) (Z0 (ab 0 (Ty (tB [] [] [] (VV []) (by simp [Qy,Qt,QP,QQ,QR,QS,QO,Vh,WL,Qx,Vg,U0,VV,U1,Qu,Qv,Qw,Ti])) (Y2 (fun fz gz m F h=>∃(k:Nat) (v:Hd) (ys:List Vn),(k<=ds.length)/\(ys.map Vn.er=ds.take k)/\(ys.length=k)/\F=sF [11] fz [(3,.h v),(10,.h v),(12,.i k)]/\h=[rK v 3 (Zh (Vy ys++YB (ds.drop k))),.many (VV ys)]/\m=ds.length-k) _ _ _ ⟨0,v1,[],ob,rfl,rfl,rfl,rfl,rfl⟩ (wk [1,0] (fw (Yb fl)) (e:=(rr (ls:=Zh (YB ds)) (by rfl) (rc rz)))) ?_))))))
 rintro m F h ⟨k,v,ys,Yg,Zj,Zw,rfl,rfl,rfl⟩
 refine Zy (aq (XN ((k:Int)<(ds.length:Int)) (fun Za=>?_) (fun Za=>?_)))
 ·obtain ⟨x1,Z3⟩:=Zu ds k om
  have hcl:=hd.cons_at Z3
  refine R4 0 ds.length (v:=v) (SX Zw Yg) om (fun g1 c1 he1=>?_)
  subst he1
  refine ak (aq (ab 1 (Y0 1 (Zr (Wt g1 ds.length c1 k 3 (k:Int)) (Vi (Vz 0 g1 ds.length c1 3 (k*3) (Zh (Vy ys++YB (ds.drop k))) (TW x1) 121 (AC x1) (by rw [SY Z3];exact Mn (by rw [Cl,Zw]))) (iA [.i 0,.i 0,nl] fun b1=>Z2 1 (ZH 0 b1 (TW x1) (ie (Zv 4 [0] (ic [] (Z5d x1.cons) ?_))))))))))
  rintro _ _ ⟨v2,rfl,rfl⟩
  refine Zr (Wt g1 ds.length c1 k 3 (k:Int)) (Z2 1 (Eu 2 g1 ds.length c1 3 (k*3+2) [.h v2] (Zh (Vy ys++YB (ds.drop k))) (Zh (Vy ys)++([.i x1.frm,.i x1.to_,.h v2]++Zh (YB (ds.drop (k+1))))) (by rw [SX Zw Yg];simp;omega) (by rw [SY Z3];exact Zg2 (by rw [Cl,Zw])) (ie (Zv 2 [2] (iw (Us x1.cons) (Z0 (ab 2 (Ty (tB [] [] [] (U0 []) (by simp [Qy,Qt,QP,QQ,QR,QS,QO,Vh,WL,Qx,Vg,U0,VV,U1,Qu,Qv,Qw,Ti])) (Y2 (fun fz gz m F h=>∃(j:Nat) (u:Hd) (zs:List VD),(j<=x1.cons.length)/\(zs.map VD.er=x1.cons.take j)/\(zs.length=j)/\F=sF [3,4,10,11,12,25,26] fz [(27,.i j)]/\h=[Ze gz 4,rK u 1 (Zh (Ut zs++XT (x1.cons.drop j))),.row (.slice (some ⟨g1,0,none⟩) ds.length c1) 3 (Zh (Vy ys)++([.i x1.frm,.i x1.to_,.h u]++Zh (YB (ds.drop (k+1))))),.many (U0 zs)]/\m=x1.cons.length-j) _ _ _ ⟨0,v2,[],ob,rfl,rfl,rfl,rfl,rfl⟩ (wk [4,2,1,0] (Yb fl) (e:=(rc (rr (ls:=Zh (XT x1.cons)) (by rfl) (rc (rc rz)))))) ?_)))))))))
  rintro m F h ⟨j,u,zs,Ug,W8,W4,rfl,rfl,rfl⟩
  refine Zy (aq (XN ((j:Int)<(x1.cons.length:Int)) (fun Zg=>?_) (fun Zg=>?_)))
  ·obtain ⟨x2,Zs⟩:=Zu x1.cons j om
   have hfl:=hd.fields_at Z3 Zs
   refine R4 1 x1.cons.length (v:=u) (SW W4 Ug) om (fun g2 c2 he2=>?_)
   subst he2
   refine ak (aq (ab 3 (Y0 1 (Zr (Zm none (j:Int) 1 (AL Zs)) (Z2 1 (iA [nl] fun b2=>Z2 1 (ZH 0 b2 (Dp x2) (ie (aE 12 (Zi 10 12 [0,1] (dx 2 (Wt g1 ds.length c1 k 3 (k:Int)) (Zi 8 9 [3] (Ui 4 (Vz 3 g1 ds.length c1 3 (k*3+2) (Zh (Vy ys)++([.i x1.frm,.i x1.to_,.h ⟨some ⟨g2,0,none⟩,x1.cons.length,c2⟩]++Zh (YB (ds.drop (k+1))))) [.h ⟨some ⟨g2,0,none⟩,x1.cons.length,c2⟩] 119 (.ms g2 0 x1.cons.length c2) (Zg3 (by rw [Cl,Zw]))) (ZI 4 7 [5,6,7] [0] (Z9 8 (dc 8 [] [2] [g1] (E2 x2.fields) ?_))))))))))))))))
   rintro _ _ ⟨v3,rfl,rfl⟩
   exact dx 9 (Wt g2 x1.cons.length c2 j 1 (j:Int)) (Zi 1 2 [10] (Z9 11 (Cd 11 3 [] [] g2 x1.cons.length c2 1 (j*1) [ZQ x2.fields v3] (Zh (Ut zs++XT (x1.cons.drop j))) (Zh (Ut zs)++([ZQ x2.fields v3]++Zh (XT (x1.cons.drop (j+1))))) (by rw [SW W4 Ug];simp;omega) (by rw [Zfz Zs];exact EU (by rw [OV,W4,K4]) rfl) (Jn (tB [5,1] [.many (U0 zs),.tail v3 1] (U0 zs++((v3,1)::[])) (U0 (zs++[VD.mk x2.fields v3])) (by simp [Qy,Qt,QP,QQ,QR,QS,QO,Vh,WL,Qx,Vg,U0,VV,U1,Qu,Qv,Qw,Ti])) (de (az (ZJ j (Z0 (ZK ⟨j+1,⟨some ⟨g2,0,none⟩,x1.cons.length,c2⟩,(zs++[VD.mk x2.fields v3]),ob,(by rw [List.map_append,W8,V6 Zs];rfl),(by simp [W4]),rfl,rfl,rfl⟩ (wk [3,1,2,0] (ZM j fl) (e:=(rc (rr (ls:=(Zh (Ut zs)++([ZQ x2.fields v3]++Zh (XT (x1.cons.drop (j+1)))))) Zfy (rr (ls:=(Zh (Vy ys)++([.i x1.frm,.i x1.to_,.h ⟨some ⟨g2,0,none⟩,x1.cons.length,c2⟩]++Zh (YB (ds.drop (k+1)))))) ob (rc rz)))))))))))))))
  refine Ty (DI 1 u.v 1 (Zh (Ut zs++XT (x1.cons.drop j))) (Zh (Ut zs)) (Zfx om)) (Ty (Zjr 0 1 (k*3+2) u.v (.slice (some ⟨g1,0,none⟩) ds.length c1) 1 3 (Ut zs) (Zh (Vy ys)++([.i x1.frm,.i x1.to_,.h u]++Zh (YB (ds.drop (k+1))))) (Oo _) (by rw [Bd (by rw [Cl];omega),Cl,Zw];simp)) ?_)
  exact Ty (DI 0 (.slice (some ⟨g1,0,none⟩) ds.length c1) 3 (List.set ((Zh (Vy ys)++([.i x1.frm,.i x1.to_,.h u]++Zh (YB (ds.drop (k+1))))):List AV) (k*3+2) (EE zs u.v)) (Zh (Vy ys)++([.i x1.frm,.i x1.to_,EE zs u.v]++Zh (YB (ds.drop (k+1))))) (Zg4 (by rw [Cl,Zw]))) (Ty (tB [2,2,1] [.many (VV ys),.many (U0 zs),.tail u.v 1] (VV ys++(U0 zs++((u.v,1)::[]))) (VV (ys++[Vn.mk x1.frm x1.to_ zs u.v])) (by simp [Qy,Qt,QP,QQ,QR,QS,QO,Vh,WL,Qx,Vg,U0,VV,U1,Qu,Qv,Qw,Ti])) (ax 2 (az (ZJ k (Z0 (ZK ⟨k+1,(⟨some ⟨g1,0,none⟩,ds.length,c1⟩:Hd),(ys++[Vn.mk x1.frm x1.to_ zs u.v]),ob,(by rw [List.map_append,Zj,V6 Z3,Z2z (W8.trans (Vw om))]),(by simp [Zw]),rfl,rfl,rfl⟩ (wk [1,0] (fw (ZM k fl)) (e:=(rr (ls:=(Zh (Vy ys)++([.i x1.frm,.i x1.to_,EE zs u.v]++Zh (YB (ds.drop (k+1)))))) Zg1 (rc rz))))))))))
 exact ax 0 (Zy (Ty (DI 0 v.v 3 (Zh (Vy ys++YB (ds.drop k))) (Zh (Vy ys)) (Zg0 om)) (R6 2 0 (v:=v) (Vy ys) (Oq _) (ZC (r1 [1,0] ⟨ys,v.v,rfl,rfl,(by rw [Zj,Vw om])⟩)))))
theorem Zbl (n:Zl) (hl:n.routines.length<=4194304) (hb:∀r∈n.routines,r.body.sz<=1000000000):Zk 61 [Yt n] [] (Yr (.b (Ks n))):=by
 refine ZG 17 Tryz.func61 (ar (iA (YY n) fun b1=>?_))
 refine Z0 (Yk 2 [0] (iw (Ul n.routines) (Z0 (ab 0 (Y2 (fun fz gz m F h=>∃(k:Nat),(k<=n.routines.length)/\(J1 (n.routines.drop k)=J1 n.routines)/\F=sF [6,7] fz [(8,.i k)]/\h=[]/\m=n.routines.length-k) _ _ _ ⟨0,ob,ob,rfl,rfl,rfl⟩ (wk [] (Yb fl)) ?_)))))
 rintro m F h ⟨k,Yg,Zj,rfl,rfl,rfl⟩
 refine Zy (aq (XN ((k:Int)<(n.routines.length:Int)) (fun Za=>?_) (fun Za=>?_)))
 ·refine ak (aq (ab 1 (ar ?_)))
  obtain ⟨x1,Z3⟩:=Zu n.routines k om
  refine Zr (Zm none (k:Int) 5 (WV Z3)) (Z2 1 (iA [nl,nl,.i 0,nl,.i 0] fun b2=>ZH 0 b2 (TX x1) (ie (Zv 2 [0] (Zx [] (PE x1.body (hb:=(hb _ (Y3 Z3)))) (Y7 ((UQ x1.body)<0) (fun Zg=>?_) (fun Zg=>?_)))))))
  ·refine Zy ?_
   rw [Y6 Z3] at Zj
   exact ZC (ZW (.b false) (lb (by clear Z3;first|rfl|omega|grind [J1,Ks])))
  refine ak (az (ZJ k (Z0 ?_)))
  have hdr:=Y6 Z3
  exact ZK ⟨k+1,ob,(by rw [hdr] at Zj;clear hdr Z3;grind [J1]),rfl,rfl,rfl⟩ (wk [] (ZM k fl))
 refine ax 0 (Zy ?_)
 try rw [Xq (xs:=n.routines) (k:=k) om] at Zj
 exact ZC (ZW (.b true) (lb (by first|rfl|omega|grind [J1,Ks])))
theorem Zbm (y:Qj) (hl:y.er.routines.length<=4194304:=by exact ob) (hb:∀r∈y.er.routines,r.body.sz<=1000000000):Zk 61 [DU y] [] (Yr (.b (Ks y.er))):=
 (Zbl y.er hl hb).args_le (.cons (Nx y) .nil)
theorem Zhp (op:Int) :Zk 114 [.i op] [] (Yr (.b ((op==14)||(op==15)))):=by
 refine ZG 9 Tryz.func114 (Zy (ar (XD 6 [] [(8,.b ((op==14)||(op==15)))] (fun gz=>gz) ?_ (fun hj1=>?_))))
 ·exact Zp (BS)
 refine Z2 3 (ib (b:=(op==14)) 5 (fun Zb=>?_) (fun Zb=>?_))
 ·have ZY:op=14:=(Zq).1 Zb
  exact Z2 3 (Yq (wk [] (Zt true Zb fl)) hj1)
 have Yd:¬(op=14):=Y8 Zq Zb
 exact Z2 3 (Yq (wk [] (Zt (op==15) Zb fl)) hj1)
theorem Zf9 (s:Z6) (q:Nat) :Zk 167 [YG s,.p q 0] [.obj q [.val (.func (.func 114) #[] #[])]] (fun r h=>r=.b (!((s.op==14)||(s.op==15)))/\h=[.obj q [.val (.func (.func 114) #[] #[])]]):=by
 exact ZG 9 Tryz.func167 (ar (iA (XE s) fun b1=>Z0 (Zv 3 [1,0] (Zx [] (Zhp s.op) (Zp (r1 [1] ⟨rfl,rfl⟩))))))
theorem Zbz (xs:List Z6) (q:Nat) (hl:xs.length<=1000000000:=by exact ob):Zk 104 [Vu xs,.val (.func (.func 167) #[] #[.pointer (some ⟨q,0,none⟩)])] [.obj q [.val (.func (.func 114) #[] #[])]] (fun r h=>(r=.i (((Ym xs):Nat):Int)/\h=[.obj q [.val (.func (.func 114) #[] #[])]]/\Ym xs<xs.length)∨(r=.i (-1)/\h=[.obj q [.val (.func (.func 114) #[] #[])]]/\Ym xs=xs.length)):=by
 refine ZG 19 Tryz.func104 (Zy (YP 1 (iw (VY xs) (Z0 (ab 0 (Y2 (fun fz gz m F h=>∃(k:Nat),(k<=xs.length)/\(k+Ym (xs.drop k)=Ym xs)/\F=sF [0,1,7] fz [(8,.i k)]/\h=gz/\m=xs.length-k) _ _ _ ⟨0,ob,(by simp),rfl,rfl,rfl⟩ (wk [0] (Yb fl)) ?_))))))
 rintro m F h ⟨k,Yg,Zj,rfl,rfl,rfl⟩
 refine Zy (aq (XN ((k:Int)<(xs.length:Int)) (fun Za=>?_) (fun Za=>?_)))
 ·refine ak (aq (ab 1 (Zy (Y0 3 ?_))))
  obtain ⟨x1,Z3⟩:=Zu xs k om
  refine Zr (Zm none (k:Int) 5 (VS Z3)) (Z2 1 (Zx [0] (Zf9 x1 q) (ie (ac (!((x1.op==14)||(x1.op==15))) (p:=¬((x1.op=14)∨(x1.op=15))) (Yl (Yf Zq Zq)) (fun Zg=>?_) (fun Zg=>?_)))))
  ·refine Zy ?_
   have hE:=Z05 Z3 Zg Zj
   exact ZC (r2 [0] [.i k] (.inl ⟨rfl,rfl,ob⟩) li)
  exact ak (az (ZJ k (Z0 (ZK ⟨k+1,ob,(Z04 Z3 (Wf.1 Zg) Zj),rfl,rfl,rfl⟩ (wk [0] (ZM k fl))))))
 refine ax 0 (Zy ?_)
 have hE:=Z03 om Zj
 exact ZC (r1 [0] (.inr ⟨rfl,rfl,ob⟩))
theorem Zbr (b:Z7) (hz:b.steps.length<=1000000000:=by exact ob):Zk 103 [Y9 b,.val (.func (.func 114) #[] #[])] [] (Yr (.i (((Ym b.steps):Nat):Int))):=by
 refine ZG 16 Tryz.func103 (ar (iA (Xx b) fun b1=>iA [.val (.func (.func 114) #[] #[])] fun b2=>Z0 (Zv 3 [1] (ic [0] (Zbz b.steps b2) ?_))))
 rintro _ _ (⟨rfl,rfl,ZY⟩|⟨rfl,rfl,Yd⟩)
 ·refine Z0 (X9 (Y7 ((((Ym b.steps):Nat):Int)<0) (fun Za=>?_) (fun Za=>?_)))
  ·exact Zv 2 [1] (iw (VY b.steps) (Zp (ZW (.i b.steps.length) li)))
  exact ak (ar (Zp (BS)))
 refine Z0 (X9 (Y7 ((-1)<0) (fun Zg=>?_) (fun Zg=>?_)))
 ·exact Zv 2 [1] (iw (VY b.steps) (Zp (ZW (.i b.steps.length) li)))
 exact ak (ar (Zp (ZW (.i (-1)) li)))
theorem Z10 (s:Z6) (a:X2) (q:Nat) (ha:s.op=15->∃v,s.args=[v]:=by exact ob):Zk 115 [YG s,.p q 0] [.obj q [.i a.mat,.i a.fst,Z4 a.fds,.b a.chg]] (fun r h=>r=.b ((s.op==15)&&(gI s.args 0==a.mat))/\h=[.obj q [.i a.mat,.i a.fst,Z4 a.fds,.b a.chg]]):=by
 refine ZG 16 Tryz.func115 (ar (iA (XE s) fun b1=>Z0 (aD 13 (ZI 9 13 [0,1,2,3] [0] (db (b:=(s.op==15)) 7 (fun Zb=>?_) (fun Zb=>?_))))))
 ·have ZY:s.op=15:=(Zq).1 Zb
  refine ZI 7 9 [4,5] [0] ?_
  obtain ⟨x1,Z3⟩:=Zu s.args 0 (by obtain ⟨v,hv⟩:=ha (by assumption);rw [hv];simp)
  have hg0:=JU Z3
  exact dx 6 (Zm none 0 1 (Y1 Z3)) (ZI 0 6 [7,8,9,10,11,12] [1] (de (ZC (r2 [1] [.b (x1==a.mat)] ⟨rfl,rfl⟩ (lb (by rw [hg0];simp [ZY]))))))
 have Yd:¬(s.op=15):=Y8 Zq Zb
 exact Zi 0 9 [4,5,6,7,8,9,10,11,12] (de (ZC (r2 [1] [.b false] ⟨rfl,rfl⟩ lb)))
theorem Zby (xs:List Z6) (a:X2) (q:Nat) (hl:xs.length<=1000000000:=by exact ob) (ha:∀s∈xs,s.op=15->∃v,s.args=[v]):Zk 104 [Vu xs,.val (.func (.func 115) #[] #[.pointer (some ⟨q,0,none⟩)])] [.obj q [.i a.mat,.i a.fst,Z4 a.fds,.b a.chg]] (fun r h=>(∃(i:Nat),r=.i i/\h=[.obj q [.i a.mat,.i a.fst,Z4 a.fds,.b a.chg]]/\a.mat∈YT 15 xs)∨(r=.i (-1)/\h=[.obj q [.i a.mat,.i a.fst,Z4 a.fds,.b a.chg]]/\¬a.mat∈YT 15 xs)):=by
 refine ZG 19 Tryz.func104 (Zy (YP 1 (iw (VY xs) (Z0 (ab 0 (Y2 (fun fz gz m F h=>∃(k:Nat),(k<=xs.length)/\(∀s∈xs.take k,¬(s.op=15/\gI s.args 0=a.mat))/\F=sF [0,1,7] fz [(8,.i k)]/\h=gz/\m=xs.length-k) _ _ _ ⟨0,ob,(by simp),rfl,rfl,rfl⟩ (wk [0] (Yb fl)) ?_))))))
 rintro m F h ⟨k,Yg,Zj,rfl,rfl,rfl⟩
 refine Zy (aq (XN ((k:Int)<(xs.length:Int)) (fun Za=>?_) (fun Za=>?_)))
 ·refine ak (aq (ab 1 (Zy (Y0 3 ?_))))
  obtain ⟨x1,Z3⟩:=Zu xs k om
  refine Zr (Zm none (k:Int) 5 (VS Z3)) (Z2 1 (Zx [0] (Z10 x1 a q (ha:=(ha _ (Y3 Z3)))) (ie (ac ((x1.op==15)&&(gI x1.args 0==a.mat)) (p:=(x1.op=15)/\(gI x1.args 0=a.mat)) (YJ Zq Zq) (fun Zg=>?_) (fun Zg=>?_)))))
  ·exact ar (Zp (r1 [0] (.inl ⟨k,rfl,rfl,(H1.2 ⟨x1,Y3 Z3,Zg.1,Zg.2⟩)⟩)))
  exact ak (az (ZJ k (Z0 (ZK ⟨k+1,ob,(Zjs Z3 Zj Zg),rfl,rfl,rfl⟩ (wk [0] (ZM k fl))))))
 exact ax 0 (ar (Zp (r1 [0] (.inr ⟨rfl,rfl,(Z41 Zj om)⟩))))
theorem Z60 (xs:List Z6) (a:X2) (q:Nat) (hl:xs.length<=1000000000:=by exact ob) (ha:∀s∈xs,s.op=15->∃v,s.args=[v]):Zk 116 [Vu xs,.val (.func (.func 115) #[] #[.pointer (some ⟨q,0,none⟩)])] [.obj q [.i a.mat,.i a.fst,Z4 a.fds,.b a.chg]] (fun r h=>r=.b (decide (a.mat∈YT 15 xs))/\h=[.obj q [.i a.mat,.i a.fst,Z4 a.fds,.b a.chg]]):=by
 refine ZG 9 Tryz.func116 (Zy (Y0 2 (ic [0] (Zby xs a q (ha:=ha)) ?_)))
 rintro _ _ (⟨i1,rfl,rfl,ZY⟩|⟨rfl,rfl,Yd⟩)
 ·exact Zp (r2 [0] [.b (decide ((i1:Int)>=0))] ⟨rfl,rfl⟩ lb)
 exact Zp (r2 [0] [.b (decide ((-1)>=0))] ⟨rfl,rfl⟩ lb)
theorem Zks (w:Int) (v:Int) (q:Nat) :Zk 174 [.i w,.p q 0] [.obj q [.i v]] (fun r h=>r=.b (w != v)/\h=[.obj q [.i v]]):=by
 exact ZG 7 Tryz.func174 (Zy (Am [0] (ZC (r1 [0] ⟨rfl,rfl⟩))))
theorem Zgr (xs:LI) (v:Int) (q:Nat) (hl_xs:xs.length<=4294967296:=by exact ob):Zk 73 [Z4 xs,.val (.func (.func 174) #[] #[.pointer (some ⟨q,0,none⟩)])] [.obj q [.i v]] (fun r h=>r=Z4 (QY xs v)/\h=[.obj q [.i v]]):=by
 refine ZG 23 Tryz.func73 (Zy (Zy (YP 1 (iw (Ya xs) (Z0 (ab 0 (Tx 1 (Y2 (fun fz gz m F h=>∃(k:Nat) (acc:LI) (u:Value),(k<=xs.length)/\(acc.length<=k)/\(acc++QY (xs.drop k) v=QY xs v)/\F=sF [1,8,9] fz [(5,ZQ acc u),(10,.i k)]/\h=[Ze gz 1,.tail u 1]/\m=xs.length-k) _ _ _ ⟨0,[],(.slice none 0 0),ob,ob,ob,rfl,rfl,rfl⟩ (wk [1,0] (fc (x:=nl) (Zd.slh _ (by first|rfl|(subst_vars;rfl))) (Yb fl))) ?_))))))))
 rintro m F h ⟨k,acc,u,Yg,Zj,Zw,rfl,rfl,rfl⟩
 refine Zy (aq (XN ((k:Int)<(xs.length:Int)) (fun Za=>?_) (fun Za=>?_)))
 ·refine ak (aq (ab 1 (ar ?_)))
  obtain ⟨x1,Z3⟩:=Zu xs k om
  refine Zr (Zm none (k:Int) 1 (Y1 Z3)) (Z0 (Y0 2 (Zx [0] (Zks x1 v q) (ie (KX (fun fz gz F h=>∃(w:Value),F=sF [1,8,9,10] fz [(5,ZQ (if (x1 != v)=true then acc++[x1] else acc) w)]/\h=[Ze gz 0,.tail w 1]) (fun _ _=>rfl) ?_ ?_)))))
  ·refine ac (x1 != v) Y4 (fun Zg=>?_) (fun Zg=>?_)
   ·exact az (Z2 2 (iL (Z8 [x1]) 1 1 fun v1=>ZT 0 [(19,Z4 [x1])] (ip 2 (Z8 (acc++[x1])) (Z8 acc) (Z8 [x1]) u none 1 (YK _) (YK _) (Wx _) (by simp<;>omega) (by simp [Ww,Z8]) fun v2=>Z0 (ZU ⟨v2,rfl,rfl⟩ (wk [2,0] (fc (x:=ZQ (acc++[x1]) v2) (Zd.slh _ (Yv Z8 (by first|rfl|(rw [Zc Zg])|(rw [Z5 Zg])|(simp [Zg];done)|(rw [XK];simp [Zg];done)|omega))) fl))))))
   exact ak (ZU ⟨u,rfl,rfl⟩ (wk [0,0] (fc (x:=ZQ acc u) (Zd.slh _ (Yv Z8 (by first|rfl|(rw [Zc Zg])|(rw [Z5 Zg])|(simp [Zg];done)|(rw [XK];simp [Zg];done)|omega))) fl)))
  rintro F h ⟨w,rfl,rfl⟩
  exact az (ZJ k (Z0 (ZK ⟨k+1,(if (x1 != v)=true then acc++[x1] else acc),w,ob,(by split<;>(try simp)<;>omega),(Ze0 Z3 Zw),rfl,rfl,rfl⟩ (wk [0,0] (fr (ZM k fl))))))
 exact ax 0 (ar (Zp (r2 [0] [ZQ acc u] ⟨rfl,rfl⟩ (Zd.sl _ (Yv Z8 (Zdy om Zw))))))
theorem Zgs (xs:LI) (v:Int) (hl_xs:xs.length<=4294967296:=by exact ob):Zk 119 [Z4 xs,.i v] [] (Yr (Z4 (QY xs v))):=by
 exact ZG 8 Tryz.func119 (ar (iA [.i v] fun b1=>Z0 (Y0 2 (Zx [0] (Zgr xs v b1) (Zp (BS))))))
theorem Z4s (xs:LI) (v:Int) (hl:xs.length<=1000000000:=by exact ob) (hs:xs.Pairwise (·<·):=by exact ob):Zk 130 [Z4 xs,.i v] [] (fun r h=>∃(q:Nat),r=.tup [.i q,.b (decide (v∈xs))]/\h=[]):=by
 refine ZG 54 Tryz.func130 (Zy (Y0 1 (iw (Ya xs) (Z0 (Zy (aq (ab 0 (Y2 (fun fz gz m F h=>∃(lo:Nat) (hi:Nat),(lo<=hi)/\(hi<=xs.length)/\(∀(j:Nat) (x:Int),j<lo->xs[j]? = some x->x<v)/\(∀(j:Nat) (x:Int),hi<=j->xs[j]? = some x->v<=x)/\F=sF [0,1,6] fz [(7,.i lo),(8,.i hi)]/\h=gz/\m=hi-lo) _ _ _ ⟨0,xs.length,ob,ob,(fun j x h=>absurd h om),(fun j x h hx=>absurd (Xs.1 hx).1 om),rfl,rfl,rfl⟩ (wk [] (Yb fl)) ?_))))))))
 rintro m F h ⟨lo,hi,Yg,Zj,Zw,Yy,rfl,rfl,rfl⟩
 refine X9 (Y7 ((lo:Int)<(hi:Int)) (fun Za=>?_) (fun Za=>?_))
 ·refine ak (ab 1 (Y0 2 (ia (((lo+hi:Nat):Int)) (((lo:Int))+((hi:Int))) (Zr (Rb (lo+hi) om) (Zr (R8 (lo+hi)) (Zr (Ra ((lo+hi) / 2) om) (Z0 (Y0 2 ?_))))))))
  obtain ⟨x1,Z3⟩:=Zu xs ((lo+hi) / 2) om
  refine Zr (Zm none (((lo+hi) / 2:Nat):Int) 1 (Y1 Z3)) (Z2 2 (Zx [] (NW x1 v) (ie (XN (x1<v) (fun Zg=>?_) (fun Zg=>?_)))))
  ·exact az (Z2 1 (ia ((((lo+hi) / 2+1:Nat):Int)) (((((lo+hi) / 2:Nat):Int))+(1)) (Z0 (ZK ⟨(lo+hi) / 2+1,hi,ob,ob,(Z4v hs Z3 Zg),Yy,rfl,rfl,rfl⟩ (wk [] (fc (x:=.i (((lo+hi) / 2+1:Nat):Int)) li fl))))))
  exact T0 (ZK ⟨lo,(lo+hi) / 2,ob,ob,Zw,(Z4u hs Z3 Zg),rfl,rfl,rfl⟩ (wk [] (fr (fc (x:=.i (((lo+hi) / 2:Nat):Int)) li fl))))
 refine ax 0 (Y0 5 (ib (b:=(decide ((lo:Int)<(xs.length:Int)))) 35 (fun Zb=>?_) (fun Zb=>?_)))
 ·have ZY:(lo:Int)<(xs.length:Int):=(dq).1 Zb
  refine Z2 2 ?_
  obtain ⟨x2,Zs⟩:=Zu xs lo om
  refine Zr (Zm none (lo:Int) 1 (Y1 Zs)) (Z2 4 (ib (b:=(x2==v)) 42 (fun ZA=>?_) (fun ZA=>?_)))
  ·have Yd:x2=v:=(Zq).1 ZA
   exact Zp (r2 [] [.i lo,.b true] ⟨_,rfl,rfl⟩ (Zd.tup (.cons li (.cons (lb (by have hm:v∈xs:=Yd▸Y3 Zs;simp [hm])) .nil))))
  have YI:¬(x2=v):=Y8 Zq ZA
  exact Z2 2 (Zr (Zm none (lo:Int) 1 (Y1 Zs)) (Z2 1 (Zx [] (Z0o x2) (Zp (r2 [] [.i lo,.b false] ⟨_,rfl,rfl⟩ (Zd.tup (.cons li (.cons (lb (by have hm:=Z4w hs Zw (fun j x hj=>Yy j x om) Zs (by assumption);simp [hm])) .nil))))))))
 have YS:¬((lo:Int)<(xs.length:Int)):=Y8 dq Zb
 exact Zp (r2 [] [.i lo,.b false] ⟨_,rfl,rfl⟩ (Zd.tup (.cons li (.cons (lb (by have hm:=Z4x Zw om;simp [hm])) .nil))))
theorem Zgq (xs:LI) (v:Int) (hl:xs.length<=1000000000:=by exact ob) (hs:xs.Pairwise (·<·):=by exact ob):Zk 118 [Z4 xs,.i v] [] (Yr (.b (decide (v∈xs)))):=by
 refine ZG 14 Tryz.func118 (Zy (Y0 2 (ic [] (Z4s xs v) ?_)))
 rintro _ _ ⟨q1,rfl,rfl⟩
 exact Z0 (ar (Zp (BS)))
theorem Zhn (am:List X2) (a:X2) (b:Z7) (hal:am.length<=900000000:=by exact ob) (hc:∀s∈b.steps,YF s.op=true->Cn s) (hf:a.fds.length<=3:=by exact ob) (hq:0<=a.fst/\a.fst<=1000000000:=by exact ob) (hz:b.steps.length<=900000000:=by exact ob):Zk 60 [Xf (am++[a]),Y9 b] [] (Yr (Y9 (VR b a.mat a.fds a.fst))):=by
 have hrl:=CD b.steps
 have hpl:(b.steps.take (Ym b.steps)).length=Ym b.steps:=by rw [WT];omega
 have hlen:(am++[a]).length=am.length+1:=by simp
 refine ZG 120 Tryz.func60 (ar (iA (Xx b) fun b1=>iA [nl,.i 0] fun b2=>ie (Y0 2 (io (.i (((am++[a]).length:Nat):Int)) (.i (((WM (am++[a])).length:Nat):Int)) (li (by rw [Ol])) (ia ((am.length:Int)) (((((am++[a]).length:Nat):Int))-(1)) ?_)))))
 obtain ⟨x1,Z3⟩:=Zu (am++[a]) am.length om
 have hxq:x1=a:=by rw [Bd om] at Z3;simpa using Z3.symm
 have hf1:(x1).fds.length<=3:=by rw [hxq];exact hf
 have hq1:0<=(x1).fst/\(x1).fst<=1000000000:=by rw [hxq];exact hq
 have hhl:=Lk (x1).fds (x1).fst
 refine Zr (Zm none (am.length:Int) 4 (Ok Z3)) (Z2 1 (iA [.i 0,.i 0,nl,.b false] fun b3=>ZH 0 b3 [.i x1.mat,.i x1.fst,Z4 x1.fds,.b x1.chg] (ie (Zv 1 [2] (Zx [] (Zbr b) (Z0 (Zy (Yk 2 [0] (iw (Ya x1.fds) (Xw [3,4,5,6,7] [(38,.b (((x1.fds.length:Int)==0)||(!(decide (x1.mat∈YT 15 (b.steps.take (Ym b.steps)))))))] (fun gz=>gz) ?_ ?_))))))))))
 ·refine Z2 2 (ib (b:=((x1.fds.length:Int)==0)) 30 (fun Zb=>?_) (fun Zb=>?_))
  ·have ZY:(x1.fds.length:Int)=0:=(Zq).1 Zb
   exact Z0 (ZF 3 (Zt true Zb fl))
  have Yd:¬((x1.fds.length:Int)=0):=Y8 Zq Zb
  exact ZL 3 [2] (Zr (KG (es:=ZD b.steps) (hv:=none) (l:=0) (m:=(((Ym b.steps):Nat):Int)) (sz:=5) (es':=ZD (b.steps.take (Ym b.steps))) kr om (by simp<;>omega) (by simp<;>omega) (Xv _) (by first|(simp only [VC,Vv,Q8,Q7];done)|(simp only [VC,Vv,Q8,Q7];rfl)|(simp [Q8,Q7];done))) (Z2 1 (Zx [0] (Z60 (b.steps.take (Ym b.steps)) x1 b3 (ha:=(fun s hs h15=>N4 (hc s (Tu hs) (by rw [h15];rfl))))) (Z0 (ZF 3 (Zt (!(decide (x1.mat∈YT 15 (b.steps.take (Ym b.steps))))) Zb fl))))))
 refine ac (((x1.fds.length:Int)==0)||(!(decide (x1.mat∈YT 15 (b.steps.take (Ym b.steps)))))) (p:=((x1.fds.length:Int)=0)∨(¬(x1.mat∈YT 15 (b.steps.take (Ym b.steps))))) (Yf Zq (Yl dq)) (fun Za=>?_) (fun Za=>?_)
 ·exact Zv 1 [2] (ZH 1 b2 (Xx b) (ie (ZC (r3 [] [Y9 b] [0] [(b2,b2)] ⟨rfl,rfl⟩ (Zd.agg (.cons (Zd.sl _ (Yv ZD (Nk (fun z=>Za.elim (fun e=>z.2 (by rw [<-hxq];omega)) (fun e=>e (by rw [hxq];exact z.1)))).symm)) (.cons li .nil)))))))
 refine ak (Zy (Zv 1 [0] (Zx [] (PH x1) (Z0 (Zy (Yk 3 [2] (Zr (KG (es:=ZD b.steps) (hv:=none) (l:=0) (m:=(((Ym b.steps):Nat):Int)) (sz:=5) (es':=ZD (b.steps.take (Ym b.steps))) kr om (by simp<;>omega) (by simp<;>omega) (Xv _) (by first|(simp only [VC,Vv,Q8,Q7];done)|(simp only [VC,Vv,Q8,Q7];rfl)|(simp [Q8,Q7];done))) (io (.i (((b.steps.take (Ym b.steps)).length:Nat):Int)) (.i (((ZD (b.steps.take (Ym b.steps))).length:Nat):Int)) (li (by rw [VY])) (Z0 (ab 0 (Tx 5 (Tx 5 (Y2 (fun fz gz m F h=>∃(k:Nat) (du:List Z6) (dr:List Z6) (lf:LI) (d:Bool) (va:Value) (vb:Value),(k<=Ym b.steps)/\(du.length<=k)/\(dr.length<=k)/\(lf.Pairwise (·<·))/\(lf.length<=3)/\(Qg x1.mat du dr ((b.steps.take (Ym b.steps)).drop k) lf d=Tm x1.mat (b.steps.take (Ym b.steps)) (XC x1.fds x1.fst) false)/\F=sF [3,4,5,6,7,45,46] fz [(8,Xe du va),(9,Xe dr vb),(10,Z4 lf),(11,.b d),(47,.i k)]/\h=[Ze gz 2,Ze gz 3,Ze gz 4,.tail va 5,.tail vb 5]/\m=Ym b.steps-k) _ _ _ ⟨0,[],[],(XC x1.fds x1.fst),false,(.slice none 0 0),(.slice none 0 0),ob,ob,ob,(Es _ _),ob,rfl,rfl,rfl,rfl⟩ (wk [2,2,2,0,0] (fc (x:=nl) (Zd.slh _ (by first|rfl|(subst_vars;rfl))) (fc (x:=nl) (Zd.slh _ (by first|rfl|(subst_vars;rfl))) (fw (Yb fl))))) ?_)))))))))))))
 rintro m F h ⟨k,du,dr,lf,d,va,vb,Yg,Zj,Zw,Yy,XW,Tz,rfl,rfl,rfl⟩
 refine Zy (aq (XN ((k:Int)<(((b.steps.take (Ym b.steps)).length:Nat):Int)) (fun Zg=>?_) (fun Zg=>?_)))
 ·obtain ⟨xe,hxe⟩:=Zu (b.steps.take (Ym b.steps)) k om
  have hxm:=Tu (Y3 hxe)
  have hrp:=J8 (Y3 hxe)
  have hcn:=hc xe hxm (CY hrp)
  obtain ⟨xa,hxa1⟩:=N4 hcn
  have hxa2:xe.args[0]? = some xa:=by rw [hxa1];rfl
  have hg:=JU hxa2
  refine ak (aq (ab 1 (ar (Zr (Zm none (k:Int) 5 (VS hxe)) (Z2 1 (iA [.i 0,.i 0,.i 0,nl,nl] fun b4=>ZH 0 b4 (XE xe) (ie (ab 2 (ar (XD 11 [3,4,5,6,7,8,9,10,11,13,45,46,47] [(66,.b ((xe.op==14)&&(decide (xa∈lf))))] (fun gz=>gz) ?_ (fun hj1=>?_)))))))))))
  ·refine Z0 (KX (fun fz gz F h=>∃(du2:List Z6) (dr2:List Z6) (lf2:LI) (d2:Bool) (w1:Value) (w2:Value),(du2.length<=k+1)/\(dr2.length<=k+1)/\(lf2.Pairwise (·<·))/\(lf2.length<=3)/\(Qg x1.mat du2 dr2 ((b.steps.take (Ym b.steps)).drop (k+1)) lf2 d2=Tm x1.mat (b.steps.take (Ym b.steps)) (XC x1.fds x1.fst) false)/\F=sF [3,4,5,6,7,45,46,47] fz [(8,Xe du2 w1),(9,Xe dr2 w2),(10,Z4 lf2),(11,.b d2)]/\h=[Ze gz 1,Ze gz 2,Ze gz 3,.tail w1 5,.tail w2 5]) (fun _ _=>rfl) ?_ ?_)
   ·refine ac ((xe.op==14)&&(decide (xa∈lf))) (p:=(xe.op=14)/\(xa∈lf)) (YJ Zq dq) (fun ZE=>?_) (fun ZE=>?_)
    ·exact az (ZL 3 [0] (Zr (Zm none 0 1 (Y1 hxa2)) (Z2 1 (Zx [] (Zgs lf xa) (Z0 (ZU ⟨du,dr,(QY lf xa),d,va,vb,ob,ob,(Ze2 Yy _),(VH (Ze1 _ _) XW),(by have h:=Zh8 hxe ZE.1 (by rw [hg];exact ZE.2) Tz;rw [hg] at h;exact h),rfl,rfl⟩ (wk [1,1,1,1,1] fl)))))))
    refine Am [0] (ac (xe.op==14) Zq (fun Yi=>?_) (fun Yi=>?_))
    ·exact az (ZL 2 [0] (iL [YG xe] 1 5 fun v1=>ZT 0 [(79,.sl [YG xe] none)] (ip 5 (ZD (du++[xe])) (ZD du) [YG xe] va none 5 (Xv _) (TM rfl) rfl (by simp<;>omega) (by simp [V3,VL]) fun v2=>Z0 (ZU ⟨(du++[xe]),dr,lf,d,v2,vb,(by simp;omega),ob,ob,ob,(Zh6 hxe Yi (fun z=>ZE ⟨Yi,by rw [<-hg];exact z⟩) Tz),rfl,rfl⟩ (wk [3,3,3,0,2] fl)))))
    refine Zv 2 [0] (Zx [1] (Z10 xe x1 b3 (ha:=(fun _=>⟨xa,hxa1⟩))) (XD 7 [3,4,5,6,7,8,9,10,11,13,45,46,47] [(88,.b (((xe.op==15)&&(gI xe.args 0==x1.mat))&&(!d)))] (fun gz=>gz) ?_ (fun hj2=>?_)))
    ·refine YD (((xe.op==15)&&(gI xe.args 0==x1.mat))&&(!d)) (p:=((xe.op=15)/\(gI xe.args 0=x1.mat))/\(¬(d=true))) (YJ (YJ Zq Zq) (Yl Iff.rfl)) (fun Xg=>?_) (fun Xg=>?_)
     ·exact T0 (ZU ⟨du,dr,lf,true,va,vb,ob,ob,ob,ob,(Zh5 hxe Yi Xg Tz),rfl,rfl⟩ (wk [0,1,1,1,1] fl))
     exact az (ZL 2 [1] (iL [YG xe] 1 5 fun v3=>ZT 0 [(53,.sl [YG xe] none)] (ip 6 (ZD (dr++[xe])) (ZD dr) [YG xe] vb none 5 (Xv _) (TM rfl) rfl (by simp<;>omega) (by simp [V3,VL]) fun v4=>Z0 (ZU ⟨du,(dr++[xe]),lf,d,va,v4,ob,(by simp;omega),ob,ob,(Zh9 hxe Yi Xg Tz),rfl,rfl⟩ (wk [2,3,3,3,0] fl)))))
    refine Z2 1 (ib (b:=((xe.op==15)&&(gI xe.args 0==x1.mat))) 85 (fun ZA=>?_) (fun ZA=>?_))
    ·have YI:(xe.op=15)/\(gI xe.args 0=x1.mat):=((YJ Zq Zq)).1 ZA
     exact Z2 3 (Yq (ZF 6 (Zt (!d) ZA fl)) hj2)
    have YS:¬((xe.op=15)/\(gI xe.args 0=x1.mat)):=Y8 (YJ Zq Zq) ZA
    exact Z2 3 (Yq (ZF 6 (Zt false ZA fl)) hj2)
   rintro F h ⟨du2,dr2,lf2,d2,w1,w2,GN,PZ,R0,Zch,Zlg,rfl,rfl⟩
   exact az (ZJ k (Z0 (ZK ⟨k+1,du2,dr2,lf2,d2,w1,w2,ob,ob,ob,ob,ob,ob,rfl,rfl,rfl⟩ (ZF 5 (fq (ZM k fl))))))
  refine ZL 4 [0] (ib (b:=(xe.op==14)) 59 (fun Yp=>?_) (fun Yp=>?_))
  ·have Xk:xe.op=14:=(Zq).1 Yp
   exact ZL 3 [0] (Zr (Zm none 0 1 (Y1 hxa2)) (Z2 1 (Zx [] (Zgq lf xa (hs:=Yy)) (Z2 1 (Yq (ZF 6 (Zt (decide (xa∈lf)) Yp fl)) hj1)))))
  have XZ:¬(xe.op=14):=Y8 Zq Yp
  exact Z2 7 (Yq (ZF 6 (Zt false Yp fl)) hj1)
 have hWe:=Zh7 om Tz
 refine ax 0 (Zv 3 [0] (ic [] (PK 16 x1.mat) ?_))
 rintro _ _ ⟨u1,rfl,rfl⟩
 refine ZT 0 [(93,.agg [.i 16,.i 0,.i 0,Z4 [x1.mat],RP []])] (iL [YG (Z6.mk 16 0 0 [x1.mat] [])] 1 5 fun v5=>ZT 0 [(94,.sl [YG (Z6.mk 16 0 0 [x1.mat] [])] none)] (ip 5 (ZD (du++[Z6.mk 16 0 0 [x1.mat] []])) (ZD du) [YG (Z6.mk 16 0 0 [x1.mat] [])] va none 5 (Xv _) (TM rfl) rfl (by simp<;>omega) (by simp [V3,VL]) fun v6=>Z0 (ar (ZT 2 [(97,Vu dr)] (ip 0 (ZD ((du++[Z6.mk 16 0 0 [x1.mat] []])++dr)) (ZD (du++[Z6.mk 16 0 0 [x1.mat] []])) (ZD dr) v6 none 5 (Xv _) (Xv _) (UK _) (by simp<;>omega) (by simp [V3,ZD]) fun v7=>?_)))))
 refine Z0 (YP 1 (iw (Ya lf) (Z0 (ab 3 (Y2 (fun fz gz m F h=>∃(j:Nat) (u:Value),(j<=lf.length)/\F=sF [3,4,6,99,100] fz [(14,Xe (((du++[Zz 16 x1.mat])++dr)++(lf.take j).map (Zz 15)) u),(101,.i j)]/\h=[Ze gz 4,Ze gz 5,.tail u 5]/\m=lf.length-j) _ _ _ ⟨0,v7,ob,rfl,rfl,rfl⟩ (wk [4,4,0] (fc (x:=Xe ((du++[Z6.mk 16 0 0 [x1.mat] []])++dr) v7) (Zd.slh _ (Yv ZD (by simp [Zz]))) (Yb fl))) ?_)))))
 rintro m F h ⟨j,u,Ug,rfl,rfl,rfl⟩
 refine Zy (aq (XN ((j:Int)<(lf.length:Int)) (fun Xm=>?_) (fun Xm=>?_)))
 ·refine ak (aq (ab 4 (ar ?_)))
  obtain ⟨x2,Zs⟩:=Zu lf j om
  have hxl:=Zs
  refine Zr (Zm none (j:Int) 1 (Y1 Zs)) (Z0 (az (Z2 2 (ic [] (PK 15 x2) ?_))))
  rintro _ _ ⟨u2,rfl,rfl⟩
  exact ZT 0 [(107,.agg [.i 15,.i 0,.i 0,Z4 [x2],RP []])] (iL [YG (Z6.mk 15 0 0 [x2] [])] 1 5 fun v8=>ZT 0 [(108,.sl [YG (Z6.mk 15 0 0 [x2] [])] none)] (ip 4 (ZD (((du++[Zz 16 x1.mat])++dr)++(lf.take (j+1)).map (Zz 15))) (ZD (((du++[Zz 16 x1.mat])++dr)++(lf.take j).map (Zz 15))) [YG (Z6.mk 15 0 0 [x2] [])] u none 5 (Xv _) (TM rfl) rfl (by simp<;>omega) (by rw [V6 hxl,List.map_append,<-UR];simp [V3,VL,Zz]) fun v9=>Z0 (az (ZJ j (Z0 (ZK ⟨j+1,v9,ob,rfl,rfl,rfl⟩ (wk [3,3,0] (fr (ZM j fl)))))))))
 refine ax 3 (aD 10 (ZI 6 10 [0,1,2,3] [1] (dx 4 (KG (es:=ZD b.steps) (hv:=none) (l:=(((Ym b.steps):Nat):Int)) (m:=(((ZD b.steps).length:Nat):Int)) (sz:=5) (es':=ZD (b.steps.drop (Ym b.steps))) kr om (by simp<;>omega) (by simp<;>omega) (Xv _) (by first|(simp only [VC,Vv,Q8,Q7];done)|(simp only [VC,Vv,Q8,Q7];rfl)|(simp [Q8,Q7];done))) (ZI 3 5 [6,7] [1] (Z9 5 (dp 5 2 [1] [b1] (ZD ((((du++[Zz 16 x1.mat])++dr)++(lf.take j).map (Zz 15))++(b.steps.drop (Ym b.steps)))) (ZD (((du++[Zz 16 x1.mat])++dr)++(lf.take j).map (Zz 15))) (ZD (b.steps.drop (Ym b.steps))) u none 5 (Xv _) (Xv _) (UK _) (by simp<;>omega) (by simp [V3,ZD]) fun v10=>Zi 1 2 [8] (Z9 9 (YO 9 1 [] [] b2 [Xe ((((du++[Zz 16 x1.mat])++dr)++(lf.take j).map (Zz 15))++(b.steps.drop (Ym b.steps))) v10,.i b.result] (de ?_)))))))))
 have hE:=Zhk hc (Wf.1 fun z=>Za (.inr z)) (fun z=>Za (.inl om)) hWe.symm
 exact ZC (r3 [] [.agg [Xe ((((du++[Zz 16 x1.mat])++dr)++(lf.take j).map (Zz 15))++(b.steps.drop (Ym b.steps))) v10,.i b.result]] [0] [(b2,b2)] ⟨rfl,rfl⟩ (Zd.agg (.cons (Zd.sl _ (Yv ZD (by rw [Vw om,<-hxq];exact hE))) (.cons li .nil))))
theorem Z0z (am:List X2) (x:Int) (q:Nat) (fs:LI) (b:Z7) (hal:am.length<=900000000:=by exact ob) (hc:∀s∈b.steps,YF s.op=true->Cn s) (hf:fs.length<=3:=by exact ob) (hq:q<=1000000000:=by exact ob) (hz:b.steps.length<=900000000:=by exact ob):Zk 60 [Xf (am++[X2.mk x q fs false]),Y9 b] [] (Yr (Y9 (VR b x fs q))):=Zhn am ⟨x,q,fs,false⟩ b hal hc hf ⟨by show 0<=(q:Int);omega,by show (q:Int)<=1000000000;omega⟩ hz
theorem Zbp (n:Zl) (b:Z7) (mm:Nat) (am:List X2) (hn:X4 n) (hw:wB n.decls b) (hal:am.length+b.pz<=800000000) (hb:mm+4*b.pz<=900000000) (ih:∀(b2:Z7) (m2:Nat) (a2:List X2),(wB n.decls b2)->(a2.length+b2.pz<=800000000)->(m2+4*b2.pz<=900000000)->(b2.pz<b.pz)->Zk 46 [.agg [ZP n.decls,YN n],Y9 b2,.i m2,Xf a2,.val (.func (.func 60) #[] #[])] [] (fun r h=>∃(y:XJ),r=Ql y/\h=[.many (Vg y)]/\y.er=Xz n.decls m2 b2)):Zk 46 [.agg [ZP n.decls,YN n],Y9 b,.i mm,Xf am,.val (.func (.func 60) #[] #[])] [] (fun r h=>∃(y:XJ),r=Ql y/\h=[.many (Vg y)]/\y.er=Xz n.decls mm b):=by
 have XB:=hn.decls
 have hbz:=SD b
 refine ZG 98 Tryz.func46 (ar (iA [ZP n.decls,YN n] fun b1=>iA (Xx b) fun b2=>iA [nl,.i 0] fun b3=>ie (Zv 3 [1] (iA [nl,.i 0] fun b4=>?_))))
 refine ZH 0 b4 [nl,.i b.result] (ie (Yk 2 [2] (iw (VY b.steps) (Z0 (ab 0 (Tx 5 (Ty (tB [] [] [] (Vh []) (by simp [Qy,Qt,QP,QQ,QR,QS,QO,Vh,WL,Qx,Vg,U0,VV,U1,Qu,Qv,Qw,Ti])) (Y2 (fun fz gz m F h=>∃(k:Nat) (q:Nat) (xs:List Wo) (v:Value),(k<=b.steps.length)/\(q<=mm+k)/\(xs.length=k)/\(J0 xs++W7 n.decls q (b.steps.drop k)=W7 n.decls mm b.steps)/\F=sF [3,4,5,10,11,23,24] fz [(2,.i q),(25,.i k)]/\h=[.obj b4 [Dv xs v,.i b.result],Ze gz 3,Ze gz 5,.tail v 5,.many (Vh xs)]/\m=b.steps.length-k) _ _ _ ⟨0,mm,[],(.slice none 0 0),ob,ob,ob,rfl,rfl,rfl,rfl⟩ (wk [2,2,3,1,0] (fr (Yb fl))) ?_))))))))
 rintro m F h ⟨k,q,xs,v,Yg,Zj,Zw,Yy,rfl,rfl,rfl⟩
 refine Zy (aq (XN ((k:Int)<(b.steps.length:Int)) (fun Za=>?_) (fun Za=>?_)))
 ·refine ak (aq (ab 1 (ar ?_)))
  obtain ⟨x1,Z3⟩:=Zu b.steps k om
  have Xu:=Zfg Z3
  have hws:=Z2m hw Z3
  have hkz:=Zff x1
  have haz:=Zfd x1
  refine Zr (Zm none (k:Int) 5 (VS Z3)) (Z2 1 (iA [.i 0,.i 0,.i 0,nl,nl] fun b5=>?_))
  refine ZH 0 b5 (XE x1) (ie (Zy (Yk 2 [0] (iw (Uj x1.kids) (Z0 (ab 2 (Tx 2 (Ty (tB [] [] [] (WL []) (by simp [Qy,Qt,QP,QQ,QR,QS,QO,Vh,WL,Qx,Vg,U0,VV,U1,Qu,Qv,Qw,Ti])) (Y2 (fun fz gz m F h=>∃(j:Nat) (ys:List XJ) (u:Value),(j<=x1.kids.length)/\(ys.length=j)/\(Kr ys++Wd n.decls q x1.op x1.num x1.args (x1.kids.drop j) j=Wd n.decls q x1.op x1.num x1.args x1.kids 0)/\F=sF [2,3,4,5,10,11,13,23,24,25,30,31] fz [(14,BC ys u),(32,.i j)]/\h=[Ze gz 2,Ze gz 3,Ze gz 4,Ze gz 5,Ze gz 7,.tail u 2,Ze gz 6,.many (WL ys)]/\m=x1.kids.length-j) _ _ _ ⟨0,[],(.slice none 0 0),ob,ob,(by simp [Kr]),rfl,rfl,rfl⟩ (wk [2,2,2,2,3,1,1,0] (fc (x:=nl) (Zd.slh _ (by first|rfl|(subst_vars;rfl))) (Yb fl))) ?_)))))))))
  rintro m F h ⟨j,ys,u,Ug,W8,W4,rfl,rfl,rfl⟩
  refine Zy (aq (XN ((j:Int)<(x1.kids.length:Int)) (fun Zg=>?_) (fun Zg=>?_)))
  ·refine ak (aq (ab 3 (Y0 1 ?_)))
   obtain ⟨x2,Zs⟩:=Zu x1.kids j om
   have hkb:=Zs
   have hks:=Zfe Zs
   have hwk:=HH hws Zs
   have hst:=SD x2
   refine Zr (Zm none (j:Int) 2 (Tf Zs)) (Z2 1 (iA [nl,.i 0] fun b6=>Z2 1 (ZH 0 b6 (Xx x2) (ie (X9 (VW [1] (ac (x1.op != 8) Y4 (fun ZE=>?_) (fun ZE=>?_))))))))
   ·refine Zv 6 [4,0] (ic [] (ih x2 q am (by first|exact hwk|exact HG hwk) (by first|omega|(have h:=AG (x:=x3) (q:=(q:Int)) hxl hwk;simp only [Ys,YZ,XL];omega)) (by first|omega|(have h:=AG (x:=x3) (q:=(q:Int)) hxl hwk;omega)) (by first|omega|(have h:=AG (x:=x3) (q:=(q:Int)) hxl hwk;omega))) ?_)
    rintro _ _ ⟨y1,rfl,rfl,ZY⟩
    have hy:(y1).er=Jb n.decls q x1.op x1.num x1.args j x2:=by
     first
     | (rw [Jb,Z5 om];exact ZY)
     | (rw [Jb,Zc om,hfk,hg1];exact Eq.trans ZY (Ho hwk))
    exact iL [Ql y1] 1 2 fun v1=>ZT 0 [(47,.sl [Ql y1] none)] (ip 8 (Tg (ys++[y1])) (Tg ys) [Ql y1] u none 2 (IF _) (TM rfl) rfl (by simp<;>omega) (by simp [IE,Cg]) fun v2=>Wb (tB [10,2] [.many (WL ys),.many (Vg y1)] (WL ys++(Vg y1++[])) (WL (ys++[y1])) (by simp [Qy,Qt,QP,QQ,QR,QS,QO,Vh,WL,Qx,Vg,U0,VV,U1,Qu,Qv,Qw,Ti])) (Z0 (ax 3 (az (ZJ j (Z0 (ZK ⟨j+1,(ys++[y1]),v2,ob,ob,(by rw [IP,IR,hy];exact F5 hkb W4),rfl,rfl,rfl⟩ (wk [4,4,4,4,4,1,3,0] (fr (ZM j fl))))))))))
   refine ak (aD 15 (ZI 13 15 [0,1] [1] ?_))
   obtain ⟨x3,YL⟩:=Zu x1.args 0 (by obtain ⟨⟨a,ha2,_⟩,_⟩:=Fp hws om;rw [ha2];simp)
   have hg1:=JU YL
   refine dx 2 (Zm none 0 1 (Y1 YL)) (ZI 6 12 [3,4,5,6,7,9] [4,1] (VJ 8 13 ?_ ?_))
   ·refine Yz 8 [] [1] [b5] (GC _ x1.num) ?_
    obtain ⟨x4,WO⟩:=Zu ((ZV n.decls x1.num).map (ZX n.decls)) j (by have h:=(Fp hws om).2;rw [Q2];omega)
    have hfk:=G9 WO
    have hxl:(x4).length<=3:=by rw [<-hfk];exact IU XB _ _
    refine dx 10 (Zm none (j:Int) 1 (Aj WO)) (Zi 2 4 [11,12] (Z9 13 (dA 13 [1] [b5] [.i 0,.i 0,nl,.b false] fun b7=>Z9 14 (YO 14 0 [] [] b7 [.i x3,.i q,Z4 x4,.b false] (de (Zv 2 [0] (Zx [] (FB am (X2.mk x3 (q:Int) x4 false)) (Z0 (aE 17 (ZI 9 17 [0,1,2,3,4,6,7,8] [5,1,0] (dw 9 (Ya x4) (da 10 (((q+x4.length:Nat):Int)) (((q:Int))+((x4.length:Int))) (Zi 5 7 [11,12] (Z9 5 (Yz 5 [] [0,5] [b7,b1] (Z0z am x3 q x4 x2 (hc:=(Fv ((Jd _).1 hwk)))) (Z9 13 (dc 13 [] [] [] (ih (VR x2 x3 x4 q) (q+x4.length) (am++[(X2.mk x3 (q:Int) x4 false)]) (by first|exact hwk|exact HG hwk) (by first|omega|(have h:=AG (x:=x3) (q:=(q:Int)) hxl hwk;simp only [Ys,YZ,XL];omega)) (by first|omega|(have h:=AG (x:=x3) (q:=(q:Int)) hxl hwk;omega)) (by first|omega|(have h:=AG (x:=x3) (q:=(q:Int)) hxl hwk;omega))) ?_)))))))))))))))))
    rintro _ _ ⟨y2,rfl,rfl,Yd⟩
    have hy:(y2).er=Jb n.decls q x1.op x1.num x1.args j x2:=by
     first
     | (rw [Jb,Z5 om];exact Yd)
     | (rw [Jb,Zc om,hfk,hg1];exact Eq.trans Yd (Ho hwk))
    exact Z9 14 (dL 14 [] [] [Ql y2] 1 2 fun v3=>YA 2 2 [] [(79,.sl [Ql y2] none)] (Z9 15 (dp 15 9 [] [] (Tg (ys++[y2])) (Tg ys) [Ql y2] u none 2 (IF _) (TM rfl) rfl (by simp<;>omega) (by simp [IE,Cg]) fun v4=>Jn (tB [11,2] [.many (WL ys),.many (Vg y2)] (WL ys++(Vg y2++[])) (WL (ys++[y2])) (by simp [Qy,Qt,QP,QQ,QR,QS,QO,Vh,WL,Qx,Vg,U0,VV,U1,Qu,Qv,Qw,Ti])) (Zi 0 1 [16] (de (az (ZJ j (Z0 (ZK ⟨j+1,(ys++[y2]),v4,ob,ob,(by rw [IP,IR,hy];exact F5 hkb W4),rfl,rfl,rfl⟩ (wk [5,5,5,5,5,1,4,0] (fr (ZM j fl))))))))))))
   refine dA 13 [1,4,1] [b5,b1,b5] [.i 0,.i 0,nl,.b false] fun b8=>Z9 8 (Yz 8 [] [2] [b5] (GC _ x1.num) ?_)
   obtain ⟨x5,Ue⟩:=Zu ((ZV n.decls x1.num).map (ZX n.decls)) j (by have h:=(Fp hws om).2;rw [Q2];omega)
   have hfk:=G9 Ue
   have hxl:(x5).length<=3:=by rw [<-hfk];exact IU XB _ _
   refine dx 10 (Zm none (j:Int) 1 (Aj Ue)) (Zi 1 3 [11,12] (Z9 14 (YO 14 0 [] [] b8 [.i x3,.i q,Z4 x5,.b false] (de (Zv 2 [0] (Zx [] (FB am (X2.mk x3 (q:Int) x5 false)) (Z0 (aE 17 (ZI 9 17 [0,1,2,3,4,6,7,8] [5,1,0] (dw 9 (Ya x5) (da 10 (((q+x5.length:Nat):Int)) (((q:Int))+((x5.length:Int))) (Zi 5 7 [11,12] (Z9 5 (Yz 5 [] [0,5] [b8,b1] (Z0z am x3 q x5 x2 (hc:=(Fv ((Jd _).1 hwk)))) (Z9 13 (dc 13 [] [] [] (ih (VR x2 x3 x5 q) (q+x5.length) (am++[(X2.mk x3 (q:Int) x5 false)]) (by first|exact hwk|exact HG hwk) (by first|omega|(have h:=AG (x:=x3) (q:=(q:Int)) hxl hwk;simp only [Ys,YZ,XL];omega)) (by first|omega|(have h:=AG (x:=x3) (q:=(q:Int)) hxl hwk;omega)) (by first|omega|(have h:=AG (x:=x3) (q:=(q:Int)) hxl hwk;omega))) ?_))))))))))))))))
   rintro _ _ ⟨y3,rfl,rfl,YI⟩
   have hy:(y3).er=Jb n.decls q x1.op x1.num x1.args j x2:=by
    first
    | (rw [Jb,Z5 om];exact YI)
    | (rw [Jb,Zc om,hfk,hg1];exact Eq.trans YI (Ho hwk))
   exact Z9 14 (dL 14 [] [] [Ql y3] 1 2 fun v5=>YA 2 2 [] [(79,.sl [Ql y3] none)] (Z9 15 (dp 15 9 [] [] (Tg (ys++[y3])) (Tg ys) [Ql y3] u none 2 (IF _) (TM rfl) rfl (by simp<;>omega) (by simp [IE,Cg]) fun v6=>Jn (tB [11,2] [.many (WL ys),.many (Vg y3)] (WL ys++(Vg y3++[])) (WL (ys++[y3])) (by simp [Qy,Qt,QP,QQ,QR,QS,QO,Vh,WL,Qx,Vg,U0,VV,U1,Qu,Qv,Qw,Ti])) (Zi 0 1 [16] (de (az (ZJ j (Z0 (ZK ⟨j+1,(ys++[y3]),v6,ob,ob,(by rw [IP,IR,hy];exact F5 hkb W4),rfl,rfl,rfl⟩ (wk [5,5,5,5,5,1,4,0] (fr (ZM j fl))))))))))))
  have hK:=Z0p om W4
  refine ax 2 (aD 9 (ZI 5 9 [0,1,2,3] [1,0] (Z9 4 (dc 4 [] [1] [b4] (Zbw x1 ys u) ?_))))
  rintro _ _ ⟨u1,rfl,rfl⟩
  refine Z9 5 (dL 5 [1] [b4] [DV (Wo.mk x1.op x1.num x1.into x1.args u1 ys u)] 1 5 fun v7=>YA 3 3 [] [(87,.sl [DV (Wo.mk x1.op x1.num x1.into x1.args u1 ys u)] none)] (Z9 6 (dp 6 8 [] [] (QJ (xs++[Wo.mk x1.op x1.num x1.into x1.args u1 ys u])) (QJ xs) [DV (Wo.mk x1.op x1.num x1.into x1.args u1 ys u)] v none 5 (Z7f _) (TM rfl) rfl (by simp<;>omega) (by simp [Z7e,Ea]) fun v8=>?_)))
  refine Jn (tB [7,2,7,6] [.many (Vh xs),.tail u1 1,.many (WL ys),.tail u 2] (Vh xs++((u1,1)::(WL ys++((u,2)::[])))) (Vh (xs++[Wo.mk x1.op x1.num x1.into x1.args u1 ys u])) (by simp [Qy,Qt,QP,QQ,QR,QS,QO,Vh,WL,Qx,Vg,U0,VV,U1,Qu,Qv,Qw,Ti])) (Zi 1 2 [7] (Z9 8 (YO 8 4 [] [] b4 [Dv (xs++[Wo.mk x1.op x1.num x1.into x1.args u1 ys u]) v8,.i b.result] (de (Zv 2 [4] (Zx [] (Gy x1.op) (Z0 (KX (fun fz gz F h=>F=sF [3,4,5,10,11,23,24,25] fz [(2,.i (((if YF x1.op=true then q else q+1):Nat):Int))]/\h=[Ze gz 0,Ze gz 1,Ze gz 5,Ze gz 6,Ze gz 2]) (fun _ _=>rfl) ?_ ?_))))))))
  ·refine ac (!YF x1.op) (p:=¬(YF x1.op=true)) (Yl Iff.rfl) (fun Yi=>?_) (fun Yi=>?_)
   ·exact az (Z2 1 (ZJ q (Z0 (ZU ⟨rfl,rfl⟩ (wk [0,0,3,3,0] (fc (x:=.i (q+1:Nat)) (li (by rw [Z5 Yi])) fl))))))
   exact ak (ZU ⟨rfl,rfl⟩ (wk [0,0,3,3,0] (fc (x:=.i q) (li (by rw [Zc (Wf.1 Yi)])) fl)))
  rintro F h ⟨rfl,rfl⟩
  exact az (ZJ k (Z0 (ZK ⟨k+1,(if YF x1.op=true then q else q+1),(xs++[Wo.mk x1.op x1.num x1.into x1.args u1 ys u]),v8,ob,(by split<;>omega),ob,(by rw [Z7r,Z7s,Wo.er,hK];exact Z12 Z3 Yy),rfl,rfl,rfl⟩ (wk [0,1,1,1,0] (fr (ZM k fl))))))
 exact ax 0 (Zv 1 [0] (ZH 1 b3 [Dv xs v,.i b.result] (ie (Ty (tB [4,3] [.many (Vh xs),.tail v 5] (Vh xs++((v,5)::[])) (Vg (XJ.mk xs v b.result)) (by simp [Qy,Qt,QP,QQ,QR,QS,QO,Vh,WL,Qx,Vg,U0,VV,U1,Qu,Qv,Qw,Ti])) (ZC (r3 [0] [.agg [Dv xs v,.i b.result]] [1] [(b3,b3)] ⟨(XJ.mk xs v b.result),rfl,rfl,(by rw [XJ.er,CF,Z11 om Yy])⟩ (lr _)))))))
theorem Zbn (n:Zl) (hn:X4 n) (k:Nat):∀(b2:Z7) (m2:Nat) (a2:List X2),(wB n.decls b2)->(a2.length+b2.pz<=800000000)->(m2+4*b2.pz<=900000000)->(b2.pz<k)->Zk 46 [.agg [ZP n.decls,YN n],Y9 b2,.i m2,Xf a2,.val (.func (.func 60) #[] #[])] [] (fun r h=>∃(y:XJ),r=Ql y/\h=[.many (Vg y)]/\y.er=Xz n.decls m2 b2):=by
 induction k with
 | zero=>intro b mm am _ _ _ h;omega
 | succ k ih=>intro b mm am h1 h2 h3 h4;exact Zbp n b mm am hn h1 h2 h3 fun b2 m2 a2 k1 k2 k3 k4=>ih b2 m2 a2 k1 k2 k3 om
theorem Zbo (n:Zl) (b:Z7) (mm:Nat) (am:List X2) (hn:X4 n:=by exact ob) (hw:wB n.decls b:=by exact ob) (hal:am.length+b.pz<=800000000:=by exact ob) (hb:mm+4*b.pz<=900000000:=by exact ob):Zk 46 [.agg [ZP n.decls,YN n],Y9 b,.i mm,Xf am,.val (.func (.func 60) #[] #[])] [] (fun r h=>∃(y:XJ),r=Ql y/\h=[.many (Vg y)]/\y.er=Xz n.decls mm b):=Zbn n hn (b.pz+1) b mm am hw hal hb om
theorem Zbu (n:Zl) (rt:Yh) (b:Z7) (bs:Nat) (hn:X4 n:=by exact ob) (hw:wB n.decls b:=by exact ob) (hp:rt.params.length<=4:=by exact ob) (hb:b.pz<=200000000:=by exact ob):Zk 59 [K5 rt,Y9 b,.p bs 0] [.obj bs [ZP n.decls,YN n]] (fun r h=>∃(y:XJ),r=Ql y/\h=[.many (Vg y),.obj bs [ZP n.decls,YN n]]/\y.er=Xz n.decls rt.params.length b):=by
 refine ZG 12 Tryz.func59 (ar (iA (TX rt) fun b1=>iA (Xx b) fun b2=>iA [nl,.i 0] fun b3=>ie (Zv 4 [3,1,2] (iw (Ya rt.params) (ic [] (WA.args_le (Zbo n b rt.params.length []) (.cons (lr _) (.cons (lr _) (.cons (lr _) (.cons (Zd.forget [] (some RR)) (.cons (lr _) .nil)))))) ?_)))))
 rintro _ _ ⟨y1,rfl,rfl,ZY⟩
 exact ZH 1 b3 (LD y1) (ie (ZC (r3 [1,3] [Ql y1] [0] [(b3,b3)] ⟨y1,rfl,rfl,ob⟩ (lr _))))
theorem Zbq (n:Zl) (bs:Nat) (hn:X4 n:=by exact ob) (hz:Vp n:=by exact ob) (hbt:∀r∈n.routines,0<=YR n r.params r.body):Zk 44 [Yt n,.val (.func (.func 59) #[] #[.pointer (some ⟨bs,0,none⟩)])] [.obj bs [ZP n.decls,YN n]] (fun r h=>∃(y:Qj),r=DU y/\h=[.many (Ti y),.obj bs [ZP n.decls,YN n]]/\y.er=Zl.mk n.decls (n.routines.map (T3 n.decls))):=by
 have hzl:=hn.len
 refine ZG 40 Tryz.func44 (ar (iA (YY n) fun b1=>iA [nl,nl] fun b2=>ie (Zv 2 [1] (ic [] (Zbf n.decls (hd:=hn.decls)) ?_))))
 rintro _ _ ⟨ys1,w1,rfl,rfl,ZY⟩
 have hde:=ZY
 refine Z2 1 (iA [nl,nl] fun b3=>?_)
 refine ZH 0 b3 [Cy ys1 w1,nl] (ie (Yk 2 [4] (iw (Ul n.routines) (Z0 (ab 0 (Tx 5 (Ty (tB [] [] [] (U1 []) (by simp [Qy,Qt,QP,QQ,QR,QS,QO,Vh,WL,Qx,Vg,U0,VV,U1,Qu,Qv,Qw,Ti])) (Y2 (fun fz gz m F h=>∃(k:Nat) (xs:List V9) (v:Value),(k<=n.routines.length)/\(xs.map V9.er=(n.routines.take k).map (T3 n.decls))/\(xs.length=k)/\F=sF [1,4,5,13,14] fz [(15,.i k)]/\h=[.obj b3 [Cy ys1 w1,EF xs v],Ze gz 3,Ze gz 5,Ze gz 7,.tail v 5,Ze gz 4,.many (U1 xs)]/\m=n.routines.length-k) _ _ _ ⟨0,[],(.slice none 0 0),ob,rfl,rfl,rfl,rfl,rfl⟩ (wk [2,2,3,4,1,1,0] (Yb fl)) ?_))))))))
 rintro m F h ⟨k,xs,v,Yg,Zj,Zw,rfl,rfl,rfl⟩
 refine Zy (aq (XN ((k:Int)<(n.routines.length:Int)) (fun Za=>?_) (fun Za=>?_)))
 ·refine ak (aq (ab 1 (ar ?_)))
  obtain ⟨x1,Z3⟩:=Zu n.routines k om
  have hrm:=Y3 Z3
  have hbz:=hz.body _ hrm
  have hpl:=hn.params_at Z3
  have hll:=hn.lent_at Z3
  have hwb:=Fl hn hz hbt _ hrm
  have hpb:=Z7.pz_le (x1).body
  refine Zr (Zm none (k:Int) 5 (WV Z3)) (Z2 1 (iA [nl,nl,.i 0,nl,.i 0] fun b4=>ZH 0 b4 (TX x1) (ie (aE 20 (ZI 8 20 [0,1,2,3,5,6,8,9,10,11,12,13] [1,0,0,0,0,0] (Z9 4 (dc 4 [] [0,0,0,0,1] [b4,b4,b4,b4,b3] (E2 x1.params) ?_)))))))
  rintro _ _ ⟨v1,rfl,rfl⟩
  refine Z9 7 (dc 7 [] [0,0,0,1] [b4,b4,b4,b3] (E2 x1.lent) ?_)
  rintro _ _ ⟨v2,rfl,rfl⟩
  refine Z9 14 (dc 14 [6] [0,1] [b4,b3] (Zbu _ x1 x1.body bs (hw:=hwb)) ?_)
  rintro _ _ ⟨y1,rfl,rfl,Yd⟩
  exact Zi 4 5 [15] (Z9 16 (dL 16 [2] [b3] (Q6 [V9.mk x1.params v1 x1.lent v2 x1.result (XJ.mk y1.steps y1.sv y1.result)]) 1 5 fun v3=>YA 3 3 [] [(35,Zdx [V9.mk x1.params v1 x1.lent v2 x1.result (XJ.mk y1.steps y1.sv y1.result)])] (Z9 17 (dp 17 9 [] [] (Q6 (xs++[V9.mk x1.params v1 x1.lent v2 x1.result (XJ.mk y1.steps y1.sv y1.result)])) (Q6 xs) (Q6 [V9.mk x1.params v1 x1.lent v2 x1.result (XJ.mk y1.steps y1.sv y1.result)]) v none 5 (Ot _) (Ot _) (Z7d _) (by simp<;>omega) (by simp [Z7c,Q6]) fun v4=>Jn (tB [11,5,4,2] [.many (U1 xs),.tail v1 1,.tail v2 1,.many (Vg y1)] (U1 xs++((v1,1)::((v2,1)::(Vg y1++[])))) (U1 (xs++[V9.mk x1.params v1 x1.lent v2 x1.result (XJ.mk y1.steps y1.sv y1.result)])) (by simp [Qy,Qt,QP,QQ,QR,QS,QO,Vh,WL,Qx,Vg,U0,VV,U1,Qu,Qv,Qw,Ti,Zaj,XJ.steps,XJ.sv])) (Zi 1 2 [18] (Z9 19 (YO 19 5 [] [] b3 [Cy ys1 w1,EF (xs++[V9.mk x1.params v1 x1.lent v2 x1.result (XJ.mk y1.steps y1.sv y1.result)]) v4] (de (az (ZJ k (Z0 (ZK ⟨k+1,(xs++[V9.mk x1.params v1 x1.lent v2 x1.result (XJ.mk y1.steps y1.sv y1.result)]),v4,ob,(Zdt Zj Z3 (by show Yh.mk _ _ _ (XJ.er (XJ.mk y1.steps y1.sv y1.result))=Yh.mk _ _ _ _;rw [XJ.eta];exact Yv (Yh.mk x1.params x1.lent x1.result) (by assumption))),(by simp [Zw]),rfl,rfl,rfl⟩ (wk [0,5,5,3,1,3,0] (ZM k fl))))))))))))))
 exact ax 0 (Zv 1 [0] (ZH 2 b2 [Cy ys1 w1,EF xs v] (ie (Ty (tB [2,4,4,3] [.many (VV ys1),.tail w1 3,.many (U1 xs),.tail v 5] (VV ys1++((w1,3)::(U1 xs++((v,5)::[])))) (Ti (Qj.mk ys1 w1 xs v)) (by simp [Qy,Qt,QP,QQ,QR,QS,QO,Vh,WL,Qx,Vg,U0,VV,U1,Qu,Qv,Qw,Ti])) (ZC (r3 [0,2] [.agg [Cy ys1 w1,EF xs v]] [1] [(b2,b2)] ⟨(Qj.mk ys1 w1 xs v),rfl,rfl,(by show Zl.mk (ys1.map Vn.er) (xs.map V9.er)=_;rw [hde,Zj,Vw om])⟩ (lr _)))))))
theorem Zb8 (n:Zl) (hz:Vp n) (hr:∀r∈n.routines,r.body.rng):Zk 20 [Yt n] [] (fun r h=>∃(y:Qj),r=.tup [DU y,.b ((Yo n).2)]/\h=[.many (Ti y)]/\y.er=(Yo n).1):=by
 refine ZG 24 Tryz.func20 (ar (iA (YY n) fun b1=>iA [nl,nl] fun b2=>Z0 (Yk 1 [1] (Zx [] (Zb7 n (hr:=hr)) (YD (!UJ n) (p:=¬(UJ n=true)) (Yl Iff.rfl) (fun Za=>?_) (fun Za=>?_))))))
 ·refine Y0 1 (ZH 0 b2 [nl,nl] (Z0 ?_))
  have hE:Yo n=(B1,false):=Z5 Za
  exact Tx 5 (Tx 3 (Ty (tB [0,0] [.tail (.slice none 0 0) 3,.tail (.slice none 0 0) 5] (((.slice none 0 0),3)::(((.slice none 0 0),5)::[])) (Ti (Qj.mk [] (.slice none 0 0) [] (.slice none 0 0))) (by simp [Qy,Qt,QP,QQ,QR,QS,QO,Vh,WL,Qx,Vg,U0,VV,U1,Qu,Qv,Qw,Ti])) (ZC (r3 [0] [.agg [nl,nl],.b false] [1] [(b2,b2)] ⟨(Qj.mk [] (.slice none 0 0) [] (.slice none 0 0)),rfl,rfl,(by rw [hE];rfl)⟩ (Zd.tup (.cons (lr _) (.cons (lb (by rw [hE])) .nil)))))))
 have hB:UJ n=true:=Wf.1 Za
 obtain ⟨hn,hsg,hbt⟩:=DZ hz hB
 refine ak (Zv 1 [1] (Zx [] (PN n ob ob) (Z2 3 (iA [nl,nl] fun b3=>ZH 0 b3 [ZP n.decls,YN n] (Z0 (Zv 2 [2] (ic [0] (Zbq n b3 (hbt:=hbt)) ?_)))))))
 rintro _ _ ⟨y1,rfl,rfl,ZY⟩
 have hy:y1.er=WZ n:=ZY
 have hnl:=hn.len
 refine iA [nl,nl] fun b4=>ZH 0 b4 (GS y1) (ie (Yk 1 [0] (Zx [] (Zbm y1 (hl:=(by rw [hy];simp only [WZ,Q2];omega)) (hb:=(by rw [hy];exact Z0s hn hz hbt))) (YD (!Ks y1.er) (p:=¬(Ks y1.er=true)) (Yl Iff.rfl) (fun Zg=>?_) (fun Zg=>?_)))))
 ·refine Y0 1 (ZH 3 b2 [nl,nl] (Z0 ?_))
  have hE:Yo n=(B1,false):=by rw [Yo,Zc hB,Z5 (by rw [<-hy];exact Zg)]
  exact Tx 5 (Tx 3 (Ty (tB [0,0] [.tail (.slice none 0 0) 3,.tail (.slice none 0 0) 5] (((.slice none 0 0),3)::(((.slice none 0 0),5)::[])) (Ti (Qj.mk [] (.slice none 0 0) [] (.slice none 0 0))) (by simp [Qy,Qt,QP,QQ,QR,QS,QO,Vh,WL,Qx,Vg,U0,VV,U1,Qu,Qv,Qw,Ti])) (ZC (r3 [0] [.agg [nl,nl],.b false] [1] [(b2,b2)] ⟨(Qj.mk [] (.slice none 0 0) [] (.slice none 0 0)),rfl,rfl,(by rw [hE];rfl)⟩ (Zd.tup (.cons (lr _) (.cons (lb (by rw [hE])) .nil)))))))
 refine ak (Zv 1 [0] (ZH 3 b2 (GS y1) (Z0 ?_)))
 have hE:Yo n=(WZ n,true):=by rw [Yo,Zc hB,Zc (by rw [<-hy];exact Wf.1 Zg)]
 exact ZC (r3 [2] [DU y1,.b true] [0] [(b2,b2)] ⟨y1,rfl,rfl,(by rw [hE];exact hy)⟩ (Zd.tup (.cons (lr _) (.cons (lb (by rw [hE])) .nil))))
open Go.Proofs
open Go.Proofs
open Go.Proofs
theorem Zi4 (n:Zl) (hl:n.routines.length<=4194304:=by exact ob) (hb:∀r∈n.routines,r.body.sz<=1000000000):Zk 62 [Yt n] [] (fun r h=>(r=.tup [Yt n,.b true]/\h=[]/\Ks n=true)∨(r=.tup [.agg [ZP [],KA []],.b false]/\h=[]/\Ks n=false)):=by
 refine ZG 22 Tryz.func62 (ar (iA (YY n) fun b1=>iA [nl,nl] fun b2=>?_))
 refine Z0 (Yn (ab 0 (Y2 (fun fz gz m F h=>∃(k:Nat),(k<=n.routines.length)/\(J1 (n.routines.drop k)=J1 n.routines)/\F=sF [1,2] fz [(4,.i k)]/\h=gz/\m=n.routines.length-k) _ _ _ ⟨0,ob,ob,rfl,rfl,rfl⟩ (wk [0,0] (Yb fl)) ?_)))
 rintro m F h ⟨k,Yg,Zj,rfl,rfl,rfl⟩
 refine Yk 3 [1] (iw (Ul n.routines) (Y7 ((k:Int)<(n.routines.length:Int)) (fun Za=>?_) (fun Za=>?_)))
 ·refine ak (aq (ab 1 (Zv 3 [1] ?_)))
  obtain ⟨x1,Z3⟩:=Zu n.routines k om
  refine Zr (Zm none (k:Int) 5 (WV Z3)) (Z2 2 (Zx [] (Z1f x1.body (hb:=(hb _ (Y3 Z3)))) (Y7 ((UQ x1.body)<0) (fun Zg=>?_) (fun Zg=>?_))))
  ·exact Y0 1 (ZH 0 b2 [nl,nl] (Zp (r3 [] [.agg [nl,nl],.b false] [0] [(b2,b2)] (.inr ⟨rfl,rfl,(by rw [Ks,<-Zj,Y6 Z3,J1,Zc (by assumption)])⟩) (Zd.tup (.cons (Zd.agg (.cons (Zd.sl _ rfl) (.cons (Zd.sl _ rfl) .nil))) (.cons (lr _) .nil))))))
  exact ak (az (Z2 1 (ZJ k (Z0 (ZK ⟨k+1,ob,(by rw [Y6 Z3,J1,Z5 (by assumption)] at Zj;exact Zj),rfl,rfl,rfl⟩ (wk [0,0] (ZM k fl)))))))
 exact ax 0 (Zv 1 [1] (ZH 0 b2 (YY n) (Zp (r3 [] [Yt n,.b true] [0] [(b2,b2)] (.inl ⟨rfl,rfl,(by rw [Ks,<-Zj,Xq om];rfl)⟩) (lr _)))))
theorem Zif (n:Zl) (hn:X4 n:=by exact ob) (hz:Vp n:=by exact ob) (hbt:∀r∈n.routines,0<=YR n r.params r.body):Zk 39 [Yt n] [] (Yr (Yt (WZ n))):=by
 have hzl:=hn.len
 refine ZG 38 Tryz.func39 (ar (iA (YY n) fun b1=>iA [nl,nl] fun b2=>ie (Zv 2 [1] (Zx [] (F7 n.decls (hd:=hn.decls)) (iL (X8 []) 0 5 fun v1=>Z2 1 (iA [nl,nl] fun b3=>?_))))))
 refine ZH 0 b3 [ZP n.decls,U4 [] v1] (ie (Yn (ab 0 (Y2 (fun fz gz m F h=>∃(k:Nat) (v:Value),(k<=n.routines.length)/\F=sF [1,2,3] fz [(4,.i k)]/\h=[.obj b3 [ZP n.decls,U4 ((n.routines.take k).map (T3 n.decls)) v],Ze gz 2,Ze gz 3,.tail v 5]/\m=n.routines.length-k) _ _ _ ⟨0,v1,ob,rfl,rfl,rfl⟩ (wk [0,1,1,0] (Yb fl)) ?_))))
 rintro m F h ⟨k,v,Yg,rfl,rfl,rfl⟩
 refine Yk 3 [2] (iw (Ul n.routines) (Y7 ((k:Int)<(n.routines.length:Int)) (fun Za=>?_) (fun Za=>?_)))
 ·refine ak (aq (ab 1 (Zv 3 [2] ?_)))
  obtain ⟨x1,Z3⟩:=Zu n.routines k om
  have hrm:=Y3 Z3
  have hbz:=hz.body _ hrm
  have hpl:=hn.params_at Z3
  have hll:=hn.lent_at Z3
  have hwb:=Fl hn hz hbt _ hrm
  exact Zr (Zm none (k:Int) 5 (WV Z3)) (Z2 1 (iA [nl,nl,.i 0,nl,.i 0] fun b4=>ZH 0 b4 (TX x1) (ie (aE 15 (ZI 7 15 [0,1,2,3,4,5,6,7] [1,0,3,0,0] (dw 8 (Ya x1.params) (Z9 9 (Yz 9 [] [0,1] [b4,b3] (Zid n x1.body x1.params.length (hw:=hwb)) (Z9 10 (Yz 10 [] [1] [b3] (Hs x1 (Xz n.decls x1.params.length x1.body)) (Z9 11 (dL 11 [1] [b3] (X8 [Yh.mk x1.params x1.lent x1.result (Xz n.decls x1.params.length x1.body)]) 1 5 fun v2=>YA 3 3 [] [(34,KA [Yh.mk x1.params x1.lent x1.result (Xz n.decls x1.params.length x1.body)])] (Z9 12 (dp 12 5 [] [] (X8 ((n.routines.take (k+1)).map (T3 n.decls))) (X8 ((n.routines.take k).map (T3 n.decls))) (X8 [Yh.mk x1.params x1.lent x1.result (Xz n.decls x1.params.length x1.body)]) v none 5 (Qp _) (Qp _) (Da _) (by simp<;>omega) (by rw [V6 Z3];simp [X8,T3]) fun v3=>Zi 1 2 [13] (Z9 14 (YO 14 3 [] [] b3 [ZP n.decls,U4 ((n.routines.take (k+1)).map (T3 n.decls)) v3] (de (az (Z2 1 (ZJ k (Z0 (ZK ⟨k+1,v3,ob,rfl,rfl,rfl⟩ (wk [0,3,3,0] (ZM k fl))))))))))))))))))))))))
 exact ax 0 (Zv 1 [0] (ZH 1 b2 [ZP n.decls,U4 ((n.routines.take k).map (T3 n.decls)) v] (ie (ZC (r3 [] [.agg [ZP n.decls,U4 ((n.routines.take k).map (T3 n.decls)) v]] [0] [(b2,b2)] ⟨rfl,rfl⟩ (Zd.agg (.cons (Zd.sl _ (Yv YB ob)) (.cons (Zd.sl _ (Yv X8 (by rw [Vw om];rfl))) .nil))))))))
theorem Zht (n:Zl) (hz:Vp n:=by exact ob):Zk 21 [Yt n] [] (Yr (.tup [Yt ((Yo n).1),.b ((Yo n).2)])):=by
 refine ZG 13 Tryz.func21 (ar (iA (YY n) fun b1=>iA [nl,nl] fun b2=>Z0 (Yk 1 [1] (Zx [] (Zhx n) (YD (!UJ n) (p:=¬(UJ n=true)) (Yl Iff.rfl) (fun Za=>?_) (fun Za=>?_))))))
 ·refine Y0 1 (ZH 0 b2 [nl,nl] (Z0 ?_))
  have hE:Yo n=(B1,false):=Z5 Za
  exact ZC (r3 [] [.agg [nl,nl],.b false] [0] [(b2,b2)] ⟨rfl,rfl⟩ (Zd.tup (.cons (Zd.agg (.cons (Zd.sl _ (by rw [hE];rfl)) (.cons (Zd.sl _ (by rw [hE];rfl)) .nil))) (.cons (lb (by rw [hE])) .nil))))
 have hB:UJ n=true:=Wf.1 Za
 obtain ⟨hn,hsg,hbt⟩:=DZ hz hB
 have hnl:=hn.len
 refine ak (Zv 1 [1] (Zx [] (Zif n (hbt:=hbt)) (ic [] (Zi4 (WZ n) (hl:=(by simp only [WZ,Q2];omega)) (hb:=(Z0s hn hz hbt))) ?_)))
 rintro _ _ (⟨rfl,rfl,ZY⟩|⟨rfl,rfl,Yd⟩)
 ·have hE:Yo n=(WZ n,true):=by rw [Yo,Zc hB,Zc ZY]
  exact Z2 2 (ZH 0 b2 (YY (WZ n)) (Zp (r3 [] [Yt (WZ n),.b true] [0] [(b2,b2)] ⟨rfl,rfl⟩ (Zd.tup (.cons (Zd.agg (.cons (Zd.sl _ (Yv YB (by rw [hE]))) (.cons (Zd.sl _ (Yv X8 (by rw [hE]))) .nil))) (.cons (lb (by rw [hE])) .nil))))))
 have hE:Yo n=(B1,false):=by rw [Yo,Zc hB,Z5 (by rw [Yd];simp)]
 exact Z2 2 (ZH 0 b2 [ZP [],KA []] (Zp (r3 [] [.agg [ZP [],KA []],.b false] [0] [(b2,b2)] ⟨rfl,rfl⟩ (Zd.tup (.cons (Zd.agg (.cons (Zd.sl _ (Yv YB (by rw [hE];rfl))) (.cons (Zd.sl _ (Yv X8 (by rw [hE];rfl))) .nil))) (.cons (lb (by rw [hE])) .nil))))))
theorem PD (n:Zl) (hz:Vp n:=by exact ob) (hr:∀r∈n.routines,r.body.rng):Zk 20 [Yt n] [] (Yr (.tup [Yt ((Yo n).1),.b ((Yo n).2)])):=((Zb8 n hz hr).alone fun r h ⟨y,e1,e2,e3⟩=>by rw [e1,<-e3];exact Zd.tup (.cons (Nx y) (.cons (Zd.refl _) .nil)))
theorem GT (xs:LI) (ys:LI) (hxl:xs.length<=1000000000:=by exact ob) (hyl:ys.length<=1000000000:=by exact ob):Zk 52 [Z4 xs,Z4 ys] [] (Yr (.b (decide (xs=ys)))):=by
 refine ZG 26 Tryz.func52 (Zy (YP 1 (iw (Ya xs) (Z2 1 (iw (Ya ys) (YD ((xs.length:Int) != (ys.length:Int)) Y4 (fun Za=>?_) (fun Za=>?_)))))))
 ·exact ar (Zp (ZW (.b false) (lb (decide_eq_false (fun z=>Za (by rw [z]))).symm)))
 refine ak (Yn (ab 0 (Y2 (fun fz gz m F h=>∃(k:Nat),(k<=xs.length)/\(∀i,i<k->xs[i]? = ys[i]?)/\F=sF [0,1] fz [(5,.i k)]/\h=gz/\m=xs.length-k) _ _ _ ⟨0,ob,(fun i h=>absurd h om),rfl,rfl,rfl⟩ (wk [] (Yb fl)) ?_)))
 rintro m F h ⟨k,Yg,Zj,rfl,rfl,rfl⟩
 refine YP 2 (iw (Ya xs) (Y7 ((k:Int)<(xs.length:Int)) (fun Zg=>?_) (fun Zg=>?_)))
 ·refine ak (aq (ab 1 (aD 9 (Zi 7 9 [0,1] ?_))))
  obtain ⟨x1,Z3⟩:=Zu xs k om
  refine dx 2 (Zm none (k:Int) 1 (Y1 Z3)) (Zi 3 6 [3,4,5] ?_)
  obtain ⟨x2,Zs⟩:=Zu ys k om
  refine dx 6 (Zm none (k:Int) 1 (Y1 Zs)) (Zi 0 2 [7,8] (de (ac (x1 != x2) Y4 (fun ZE=>?_) (fun ZE=>?_))))
  ·exact ar (Zp (ZW (.b false) (lb (decide_eq_false (fun z=>ZE (by rw [z,Zs] at Z3;cases Z3;rfl))).symm)))
  exact ak (az (Z2 1 (ZJ k (Z0 (ZK ⟨k+1,ob,(fun i h=>(Nat.lt_succ_iff_lt_or_eq.1 h).elim (Zj i) (fun z=>by rw [z,Z3,Zs,Wf.1 ZE])),rfl,rfl,rfl⟩ (wk [] (ZM k fl)))))))
 exact ax 0 (ar (Zp (ZW (.b true) (lb (decide_eq_true (Z7q om (fun i hi=>Zj i om))).symm))))
theorem Zd2 (ds:List Zf) (es:List Zf) (hd:KN ds:=by exact ob) (he:KN es:=by exact ob):Zk 51 [ZP ds,ZP es] [] (Yr (.b (decide (ds=es)))):=by
 have hdl:=hd.len
 have hel:=he.len
 refine ZG 87 Tryz.func51 (Zy (YP 1 (iw (Uk ds) (Z2 1 (iw (Uk es) (YD ((ds.length:Int) != (es.length:Int)) Y4 (fun Za=>?_) (fun Za=>?_)))))))
 ·exact ar (Zp (ZW (.b false) (lb (decide_eq_false (fun z=>Za (by rw [z]))).symm)))
 refine ak (Yn (ab 0 (Y2 (fun fz gz m F h=>∃(k:Nat),(k<=ds.length)/\(∀i,i<k->ds[i]? = es[i]?)/\F=sF [0,1] fz [(5,.i k)]/\h=gz/\m=ds.length-k) _ _ _ ⟨0,ob,Fi,rfl,rfl,rfl⟩ (wk [] (Yb fl)) ?_)))
 rintro m F h ⟨k,Yg,Zj,rfl,rfl,rfl⟩
 refine YP 2 (iw (Uk ds) (Y7 ((k:Int)<(ds.length:Int)) (fun Zg=>?_) (fun Zg=>?_)))
 ·refine ak (aq (ab 1 (aq (aD 39 (Zi 37 39 [0,1] ?_)))))
  obtain ⟨x1,Z3⟩:=Zu ds k om
  have hcl:=hd.cons_at Z3
  refine dx 2 (Zm none (k:Int) 3 (WR Z3)) (Zi 32 36 [3,4,5,6] ?_)
  obtain ⟨x2,Zs⟩:=Zu es k om
  refine dx 7 (Zm none (k:Int) 3 (WR Zs)) (Af [0,1,5] [(56,.b ((x1.frm != x2.frm)||((x1.to_ != x2.to_)||((x1.cons.length:Int) != (x2.cons.length:Int)))))] (fun gz=>gz) ?_ ?_)
  ·refine Zi 27 31 [8,9,10,11] (db (b:=(x1.frm != x2.frm)) 29 (fun Zb=>?_) (fun Zb=>?_))
   ·have ZY:x1.frm≠x2.frm:=(Y4).1 Zb
    exact Zi 0 27 [12,13,14,15,16,17,18,19,20,21,22,23,24,25,26,27,28,29,30,31,32,33,34,35,36,37,38] (de (wk [] (Zt true Zb fl)))
   have Yd:¬(x1.frm≠x2.frm):=Y8 Y4 Zb
   refine Zi 25 27 [12,13] (dx 14 (Zm none (k:Int) 3 (WR Z3)) (Zi 20 24 [15,16,17,18] (dx 19 (Zm none (k:Int) 3 (WR Zs)) (Zi 14 19 [20,21,22,23,24] (db (b:=(x1.to_ != x2.to_)) 42 (fun ZA=>?_) (fun ZA=>?_))))))
   ·have YI:x1.to_≠x2.to_:=(Y4).1 ZA
    exact Zi 0 14 [25,26,27,28,29,30,31,32,33,34,35,36,37,38] (de (wk [] (Zt true (And.intro Zb ZA) fl)))
   have YS:¬(x1.to_≠x2.to_):=Y8 Y4 ZA
   exact Zi 12 14 [25,26] (dx 27 (Zm none (k:Int) 3 (WR Z3)) (Zi 9 11 [28,29] (dw 30 (Us x1.cons) (Zi 6 8 [31,32] (dx 33 (Zm none (k:Int) 3 (WR Zs)) (Zi 3 5 [34,35] (dw 36 (Us x2.cons) (Zi 0 2 [37,38] (de (wk [] (Zt ((x1.cons.length:Int) != (x2.cons.length:Int)) (And.intro Zb ZA) fl)))))))))))
  refine ac ((x1.frm != x2.frm)||((x1.to_ != x2.to_)||((x1.cons.length:Int) != (x2.cons.length:Int)))) (p:=(x1.frm≠x2.frm)∨((x1.to_≠x2.to_)∨((x1.cons.length:Int)≠(x2.cons.length:Int)))) (Yf Y4 (Yf Y4 Y4)) (fun ZE=>?_) (fun ZE=>?_)
  ·exact ar (Zp (ZW (.b false) (lb (decide_eq_false (CS Z3 Zs (fun z=>by rw [z] at ZE;simp at ZE))).symm)))
  simp only [not_or,ne_eq,Wf,decide_eq_true_eq] at ZE
  obtain ⟨hq1,hq2,hq3⟩:=ZE
  refine ak (Zy (ab 2 (Y2 (fun fz gz m F h=>∃(j:Nat),(j<=x1.cons.length)/\(∀i,i<j->x1.cons[i]? = x2.cons[i]?)/\F=sF [0,1,5] fz [(6,.i j)]/\h=gz/\m=x1.cons.length-j) _ _ _ ⟨0,ob,Fi,rfl,rfl,rfl⟩ (wk [] (Yb fl)) ?_)))
  rintro m F h ⟨j,Ug,W8,rfl,rfl,rfl⟩
  refine YP 3 (Zr (Zm none (k:Int) 3 (WR Z3)) (Z2 2 (iw (Us x1.cons) (Y7 ((j:Int)<(x1.cons.length:Int)) (fun Yi=>?_) (fun Yi=>?_)))))
  ·refine ak (aq (ab 3 (aD 20 (Zi 18 20 [0,1] (dx 2 (Zm none (k:Int) 3 (WR Z3)) (Zi 14 17 [3,4,5] ?_))))))
   obtain ⟨x3,YL⟩:=Zu x1.cons j om
   refine dx 6 (Zm none (j:Int) 1 (AL YL)) (Zi 9 13 [7,8,9,10] (dx 11 (Zm none (k:Int) 3 (WR Zs)) (Zi 5 8 [12,13,14] ?_)))
   obtain ⟨x4,WO⟩:=Zu x2.cons j om
   refine dx 15 (Zm none (j:Int) 1 (AL WO)) (Zi 2 4 [16,17] (Z9 18 (Yz 18 [] [] [] (GT x3.fields x4.fields (hxl:=(VH (hd.fields_at Z3 YL) (by decide))) (hyl:=(VH (he.fields_at Zs WO) (by decide)))) (Zi 0 1 [19] (de (ac (!(decide (x3.fields=x4.fields))) (p:=¬(x3.fields=x4.fields)) (Yl dq) (fun Xg=>?_) (fun Xg=>?_)))))))
   ·exact ar (Zp (ZW (.b false) (lb (decide_eq_false (CS Z3 Zs (fun z=>CS YL WO (fun w=>Xg (Yv Ye.fields w)) (Yv Zf.cons z)))).symm)))
   exact ak (az (Z2 1 (ZJ j (Z0 (ZK ⟨j+1,ob,(Fj W8 YL WO (Ye.ext1 (Wf.1 Xg))),rfl,rfl,rfl⟩ (wk [] (ZM j fl)))))))
  have hE:=Ed (xs:=x1.cons) (ys:=x2.cons) om (fun i hi=>W8 i om)
  exact ax 2 (az (Z2 1 (ZJ k (Z0 (ZK ⟨k+1,ob,(Fj Zj Z3 Zs (Zf.ext3 hq1 hq2 hE)),rfl,rfl,rfl⟩ (wk [] (ZM k fl)))))))
 exact ax 0 (ar (Zp (ZW (.b true) (lb (decide_eq_true (Ed om (fun i hi=>Zj i om))).symm))))
theorem Zd3 (z:Nat) (s:Z6) (t:Z6) (hz:s.sz<=z+1:=by exact ob) (hs:s.sz<=1000000000:=by exact ob) (ht:t.sz<=1000000000:=by exact ob) (ih:∀(a2:Z7) (b2:Z7),(a2.sz<=z)->(a2.sz<=1000000000)->(b2.sz<=1000000000)->Zk 53 [Y9 a2,Y9 b2] [] (Yr (.b (decide (a2=b2))))):Zk 112 [YG s,YG t] [] (Yr (.b (decide (s=t)))):=by
 have hsa:=K6 s
 have hta:=K6 t
 have hsk:=TL s
 have htk:=TL t
 refine ZG 61 Tryz.func112 (ar (iA (XE s) fun b1=>iA (XE t) fun b2=>Z0 (X9 (XD 12 [2,3] [(17,.b ((s.op != t.op)||(s.num != t.num)))] (fun gz=>gz) ?_ (fun hj1=>?_)))))
 ·refine XD 19 [2,3] [(24,.b (((s.op != t.op)||(s.num != t.num))||(s.into != t.into)))] (fun gz=>gz) ?_ (fun hj2=>?_)
  ·refine XD 27 [2,3] [(32,.b ((((s.op != t.op)||(s.num != t.num))||(s.into != t.into))||(!(decide (s.args=t.args)))))] (fun gz=>gz) ?_ (fun hj3=>?_)
   ·refine Xw [2,3] [(41,.b (((((s.op != t.op)||(s.num != t.num))||(s.into != t.into))||(!(decide (s.args=t.args))))||((s.kids.length:Int) != (t.kids.length:Int))))] (fun gz=>gz) ?_ ?_
    ·refine Z2 1 (ib (b:=((((s.op != t.op)||(s.num != t.num))||(s.into != t.into))||(!(decide (s.args=t.args))))) 33 (fun Zb=>?_) (fun Zb=>?_))
     ·have ZY:(((s.op≠t.op)∨(s.num≠t.num))∨(s.into≠t.into))∨(¬(s.args=t.args)):=((Yf (Yf (Yf Y4 Y4) Y4) (Yl dq))).1 Zb
      exact Z0 (wk [0,0] (Zt true Zb fl))
     have Yd:¬((((s.op≠t.op)∨(s.num≠t.num))∨(s.into≠t.into))∨(¬(s.args=t.args))):=Y8 (Yf (Yf (Yf Y4 Y4) Y4) (Yl dq)) Zb
     exact ZL 2 [1] (iw (Uj s.kids) (ZL 2 [0] (iw (Uj t.kids) (Z0 (wk [0,0] (Zt ((s.kids.length:Int) != (t.kids.length:Int)) Zb fl))))))
    refine ac (((((s.op != t.op)||(s.num != t.num))||(s.into != t.into))||(!(decide (s.args=t.args))))||((s.kids.length:Int) != (t.kids.length:Int))) (p:=((((s.op≠t.op)∨(s.num≠t.num))∨(s.into≠t.into))∨(¬(s.args=t.args)))∨((s.kids.length:Int)≠(t.kids.length:Int))) (Yf (Yf (Yf (Yf Y4 Y4) Y4) (Yl dq)) Y4) (fun Za=>?_) (fun Za=>?_)
    ·exact ar (Zp (ZW (.b false) (lb (decide_eq_false (fun z=>by rw [z] at Za;simp at Za)).symm)))
    simp only [not_or,ne_eq,Wf,decide_eq_true_eq] at Za
    obtain ⟨⟨⟨⟨hq1,hq2⟩,hq3⟩,hq4⟩,hq5⟩:=Za
    refine ak (Yn (ab 0 (Y2 (fun fz gz m F h=>∃(k:Nat),(k<=s.kids.length)/\(∀i,i<k->s.kids[i]? = t.kids[i]?)/\F=sF [2,3] fz [(5,.i k)]/\h=gz/\m=s.kids.length-k) _ _ _ ⟨0,ob,Fi,rfl,rfl,rfl⟩ (wk [0,0] (Yb fl)) ?_)))
    rintro m F h ⟨k,Yg,Zj,rfl,rfl,rfl⟩
    refine Yk 3 [1] (iw (Uj s.kids) (Y7 ((k:Int)<(s.kids.length:Int)) (fun Zg=>?_) (fun Zg=>?_)))
    ·refine ak (aq (ab 1 (aD 12 (ZI 9 12 [0,1,2] [1] ?_))))
     obtain ⟨x1,Z3⟩:=Zu s.kids k om
     have hk1:=TK Z3
     refine dx 3 (Zm none (k:Int) 2 (Tf Z3)) (ZI 4 8 [4,5,6,7] [0] ?_)
     obtain ⟨x2,Zs⟩:=Zu t.kids k om
     have hk2:=TK Zs
     refine dx 8 (Zm none (k:Int) 2 (Tf Zs)) (Zi 2 3 [9] (Z9 10 (Yz 10 [] [] [] (ih x1 x2 ob ob ob) (Zi 0 1 [11] (de (ac (!(decide (x1=x2))) (p:=¬(x1=x2)) (Yl dq) (fun ZE=>?_) (fun ZE=>?_)))))))
     ·exact ar (Zp (ZW (.b false) (lb (decide_eq_false (fun z=>CS Z3 Zs ZE (Yv Z6.kids z))).symm)))
     exact ak (az (Z2 1 (ZJ k (Z0 (ZK ⟨k+1,ob,(Fj Zj Z3 Zs (Wf.1 ZE)),rfl,rfl,rfl⟩ (wk [0,0] (ZM k fl)))))))
    exact ax 0 (ar (Zp (ZW (.b true) (lb (decide_eq_true (Z6.ext4 hq1 hq2 hq3 hq4 (Ed om (fun i hi=>Zj i om)))).symm))))
   refine Z2 1 (ib (b:=(((s.op != t.op)||(s.num != t.num))||(s.into != t.into))) 25 (fun ZA=>?_) (fun ZA=>?_))
   ·have YI:((s.op≠t.op)∨(s.num≠t.num))∨(s.into≠t.into):=((Yf (Yf Y4 Y4) Y4)).1 ZA
    exact Z2 7 (Yq (wk [0,0] (Zt true ZA fl)) hj3)
   have YS:¬(((s.op≠t.op)∨(s.num≠t.num))∨(s.into≠t.into)):=Y8 (Yf (Yf Y4 Y4) Y4) ZA
   exact ZL 4 [1,0] (Zx [] (GT s.args t.args) (Z2 2 (Yq (wk [0,0] (Zt (!(decide (s.args=t.args))) ZA fl)) hj3)))
  refine Z2 1 (ib (b:=((s.op != t.op)||(s.num != t.num))) 18 (fun Yp=>?_) (fun Yp=>?_))
  ·have Xk:(s.op≠t.op)∨(s.num≠t.num):=((Yf Y4 Y4)).1 Yp
   exact Z2 6 (Yq (wk [0,0] (Zt true Yp fl)) hj2)
  have XZ:¬((s.op≠t.op)∨(s.num≠t.num)):=Y8 (Yf Y4 Y4) Yp
  exact ZL 6 [1,0] (Yq (wk [0,0] (Zt (s.into != t.into) Yp fl)) hj2)
 refine ZL 6 [1,0] (ib (b:=(s.op != t.op)) 11 (fun Xd=>?_) (fun Xd=>?_))
 ·have Wy:s.op≠t.op:=(Y4).1 Xd
  exact Z2 6 (Yq (wk [0,0] (Zt true Xd fl)) hj1)
 have WW:¬(s.op≠t.op):=Y8 Y4 Xd
 exact ZL 6 [1,0] (Yq (wk [0,0] (Zt (s.num != t.num) Xd fl)) hj1)
theorem Zd0 (z:Nat) (a:Z7) (b:Z7) (hz:a.sz<=z+1:=by exact ob) (ha:a.sz<=1000000000:=by exact ob) (hb:b.sz<=1000000000:=by exact ob) (ih:∀(a2:Z7) (b2:Z7),(a2.sz<=z)->(a2.sz<=1000000000)->(b2.sz<=1000000000)->Zk 53 [Y9 a2,Y9 b2] [] (Yr (.b (decide (a2=b2))))):Zk 53 [Y9 a,Y9 b] [] (Yr (.b (decide (a=b)))):=by
 have hsa:=To a
 have hsb:=To b
 refine ZG 39 Tryz.func53 (ar (iA (Xx a) fun b1=>iA (Xx b) fun b2=>Z0 (X9 (Xw [2,3] [(19,.b ((a.result != b.result)||((a.steps.length:Int) != (b.steps.length:Int))))] (fun gz=>gz) ?_ ?_))))
 ·refine ZL 6 [1,0] (ib (b:=(a.result != b.result)) 11 (fun Zb=>?_) (fun Zb=>?_))
  ·have ZY:a.result≠b.result:=(Y4).1 Zb
   exact Z0 (wk [0,0] (Zt true Zb fl))
  have Yd:¬(a.result≠b.result):=Y8 Y4 Zb
  exact ZL 2 [1] (iw (VY a.steps) (ZL 2 [0] (iw (VY b.steps) (Z0 (wk [0,0] (Zt ((a.steps.length:Int) != (b.steps.length:Int)) Zb fl))))))
 refine ac ((a.result != b.result)||((a.steps.length:Int) != (b.steps.length:Int))) (p:=(a.result≠b.result)∨((a.steps.length:Int)≠(b.steps.length:Int))) (Yf Y4 Y4) (fun Za=>?_) (fun Za=>?_)
 ·exact ar (Zp (ZW (.b false) (lb (decide_eq_false (fun z=>by rw [z] at Za;simp at Za)).symm)))
 simp only [not_or,ne_eq,Wf,decide_eq_true_eq] at Za
 obtain ⟨hq1,hq2⟩:=Za
 refine ak (Yn (ab 0 (Y2 (fun fz gz m F h=>∃(k:Nat),(k<=a.steps.length)/\(∀i,i<k->a.steps[i]? = b.steps[i]?)/\F=sF [2,3] fz [(5,.i k)]/\h=gz/\m=a.steps.length-k) _ _ _ ⟨0,ob,Fi,rfl,rfl,rfl⟩ (wk [0,0] (Yb fl)) ?_)))
 rintro m F h ⟨k,Yg,Zj,rfl,rfl,rfl⟩
 refine Yk 3 [1] (iw (VY a.steps) (Y7 ((k:Int)<(a.steps.length:Int)) (fun Zg=>?_) (fun Zg=>?_)))
 ·refine ak (aq (ab 1 (aD 12 (ZI 9 12 [0,1,2] [1] ?_))))
  obtain ⟨x1,Z3⟩:=Zu a.steps k om
  have hk1:=A1 Z3
  refine dx 3 (Zm none (k:Int) 5 (VS Z3)) (ZI 4 8 [4,5,6,7] [0] ?_)
  obtain ⟨x2,Zs⟩:=Zu b.steps k om
  have hk2:=A1 Zs
  refine dx 8 (Zm none (k:Int) 5 (VS Zs)) (Zi 2 3 [9] (Z9 10 (Yz 10 [] [] [] (Zd3 z x1 x2 (ih:=ih)) (Zi 0 1 [11] (de (ac (!(decide (x1=x2))) (p:=¬(x1=x2)) (Yl dq) (fun ZE=>?_) (fun ZE=>?_)))))))
  ·exact ar (Zp (ZW (.b false) (lb (decide_eq_false (fun z=>CS Z3 Zs ZE (Yv Z7.steps z))).symm)))
  exact ak (az (Z2 1 (ZJ k (Z0 (ZK ⟨k+1,ob,(Fj Zj Z3 Zs (Wf.1 ZE)),rfl,rfl,rfl⟩ (wk [0,0] (ZM k fl)))))))
 exact ax 0 (ar (Zp (ZW (.b true) (lb (decide_eq_true (Z7.ext2 (Ed om (fun i hi=>Zj i om)) hq1)).symm))))
theorem Zd1 (m:Nat):∀(a2:Z7) (b2:Z7),(a2.sz<=m)->(a2.sz<=1000000000)->(b2.sz<=1000000000)->Zk 53 [Y9 a2,Y9 b2] [] (Yr (.b (decide (a2=b2)))):=by
 induction m with
 | zero=>intro a b h;have:=a.sz_pos;omega
 | succ m ih=>intro a b h1 h2 h3;exact Zd0 m a b h1 h2 h3 ih
theorem Zcz (a:Z7) (b:Z7) (ha:a.sz<=1000000000:=by exact ob) (hb:b.sz<=1000000000:=by exact ob):Zk 53 [Y9 a,Y9 b] [] (Yr (.b (decide (a=b)))):=Zd1 a.sz a b (X5 _) ha hb
theorem LF (n:Zl) (t:Zl) (hn:Vp n:=by exact ob) (ht:Vp t:=by exact ob):Zk 15 [Yt n,Yt t] [] (Yr (.b (decide (n=t)))):=by
 have hnl:=hn.len
 have htl:=ht.len
 refine ZG 69 Tryz.func15 (ar (iA (YY n) fun b1=>iA (YY t) fun b2=>Z0 (Yk 4 [1,0] (Zx [] (Zd2 n.decls t.decls (hd:=hn.decls) (he:=ht.decls)) (Xw [2,3] [(22,.b ((!(decide (n.decls=t.decls)))||((n.routines.length:Int) != (t.routines.length:Int))))] (fun gz=>gz) ?_ ?_)))))
 ·refine Z2 2 (ib (b:=(!(decide (n.decls=t.decls)))) 14 (fun Zb=>?_) (fun Zb=>?_))
  ·have ZY:¬(n.decls=t.decls):=((Yl dq)).1 Zb
   exact Z0 (wk [0,0] (Zt true Zb fl))
  have Yd:¬(¬(n.decls=t.decls)):=Y8 (Yl dq) Zb
  exact ZL 2 [1] (iw (Ul n.routines) (ZL 2 [0] (iw (Ul t.routines) (Z0 (wk [0,0] (Zt ((n.routines.length:Int) != (t.routines.length:Int)) Zb fl))))))
 refine ac ((!(decide (n.decls=t.decls)))||((n.routines.length:Int) != (t.routines.length:Int))) (p:=(¬(n.decls=t.decls))∨((n.routines.length:Int)≠(t.routines.length:Int))) (Yf (Yl dq) Y4) (fun Za=>?_) (fun Za=>?_)
 ·exact ar (Zp (ZW (.b false) (lb (decide_eq_false (fun z=>by rw [z] at Za;simp at Za)).symm)))
 simp only [not_or,ne_eq,Wf,decide_eq_true_eq] at Za
 obtain ⟨hq1,hq2⟩:=Za
 refine ak (Yn (ab 0 (Y2 (fun fz gz m F h=>∃(k:Nat),(k<=n.routines.length)/\(∀i,i<k->n.routines[i]? = t.routines[i]?)/\F=sF [2,3] fz [(5,.i k)]/\h=gz/\m=n.routines.length-k) _ _ _ ⟨0,ob,Fi,rfl,rfl,rfl⟩ (wk [0,0] (Yb fl)) ?_)))
 rintro m F h ⟨k,Yg,Zj,rfl,rfl,rfl⟩
 refine Yk 3 [1] (iw (Ul n.routines) (Y7 ((k:Int)<(n.routines.length:Int)) (fun Zg=>?_) (fun Zg=>?_)))
 ·refine ak (aq (ab 1 (Zv 3 [1] ?_)))
  obtain ⟨x1,Z3⟩:=Zu n.routines k om
  have hm1:=Y3 Z3
  have ha1:=hn.params _ hm1
  have ha2:=hn.lent _ hm1
  have ha3:=hn.body _ hm1
  refine Zr (Zm none (k:Int) 5 (WV Z3)) (Z2 1 (iA [nl,nl,.i 0,nl,.i 0] fun b3=>ZH 0 b3 (TX x1) (ie (Zv 3 [1] ?_))))
  obtain ⟨x2,Zs⟩:=Zu t.routines k om
  have hm2:=Y3 Zs
  have ha4:=ht.params _ hm2
  have ha5:=ht.lent _ hm2
  have ha6:=ht.body _ hm2
  refine Zr (Zm none (k:Int) 5 (WV Zs)) (Z2 1 (iA [nl,nl,.i 0,nl,.i 0] fun b4=>ZH 0 b4 (TX x2) (ie (Zv 4 [1,0] (Zx [] (GT x1.params x2.params) (XD 14 [2,3,5,6,7] [(53,.b ((!(decide (x1.params=x2.params)))||(!(decide (x1.lent=x2.lent)))))] (fun gz=>gz) ?_ (fun hj1=>?_)))))))
  ·refine XD 21 [2,3,5,6,7] [(60,.b (((!(decide (x1.params=x2.params)))||(!(decide (x1.lent=x2.lent))))||(x1.result != x2.result)))] (fun gz=>gz) ?_ (fun hj2=>?_)
   ·refine Xw [2,3,5] [(68,.b ((((!(decide (x1.params=x2.params)))||(!(decide (x1.lent=x2.lent))))||(x1.result != x2.result))||(!(decide (x1.body=x2.body)))))] (fun gz=>gz) ?_ ?_
    ·refine Z2 1 (ib (b:=(((!(decide (x1.params=x2.params)))||(!(decide (x1.lent=x2.lent))))||(x1.result != x2.result))) 61 (fun ZA=>?_) (fun ZA=>?_))
     ·have YI:((¬(x1.params=x2.params))∨(¬(x1.lent=x2.lent)))∨(x1.result≠x2.result):=((Yf (Yf (Yl dq) (Yl dq)) Y4)).1 ZA
      exact Z0 (ZF 4 (Zt true ZA fl))
     have YS:¬(((¬(x1.params=x2.params))∨(¬(x1.lent=x2.lent)))∨(x1.result≠x2.result)):=Y8 (Yf (Yf (Yl dq) (Yl dq)) Y4) ZA
     exact ZL 4 [1,0] (Zx [] (Zcz x1.body x2.body) (Z0 (ZF 4 (Zt (!(decide (x1.body=x2.body))) ZA fl))))
    refine ac ((((!(decide (x1.params=x2.params)))||(!(decide (x1.lent=x2.lent))))||(x1.result != x2.result))||(!(decide (x1.body=x2.body)))) (p:=(((¬(x1.params=x2.params))∨(¬(x1.lent=x2.lent)))∨(x1.result≠x2.result))∨(¬(x1.body=x2.body))) (Yf (Yf (Yf (Yl dq) (Yl dq)) Y4) (Yl dq)) (fun ZE=>?_) (fun ZE=>?_)
    ·exact ar (Zp (ZW (.b false) (lb (decide_eq_false (fun z=>CS Z3 Zs (fun w=>by rw [w] at ZE;simp at ZE) (Yv Zl.routines z))).symm)))
    simp only [not_or,ne_eq,Wf,decide_eq_true_eq] at ZE
    obtain ⟨⟨⟨hw1,hw2⟩,hw3⟩,hw4⟩:=ZE
    exact ak (az (Z2 1 (ZJ k (Z0 (ZK ⟨k+1,ob,(Fj Zj Z3 Zs (Yh.ext4 hw1 hw2 hw3 hw4)),rfl,rfl,rfl⟩ (wk [2,2] (ZM k fl)))))))
   refine Z2 1 (ib (b:=((!(decide (x1.params=x2.params)))||(!(decide (x1.lent=x2.lent))))) 54 (fun Yp=>?_) (fun Yp=>?_))
   ·have Xk:(¬(x1.params=x2.params))∨(¬(x1.lent=x2.lent)):=((Yf (Yl dq) (Yl dq))).1 Yp
    exact Z2 6 (Yq (ZF 4 (Zt true Yp fl)) hj2)
   have XZ:¬((¬(x1.params=x2.params))∨(¬(x1.lent=x2.lent))):=Y8 (Yf (Yl dq) (Yl dq)) Yp
   exact ZL 6 [1,0] (Yq (ZF 4 (Zt (x1.result != x2.result) Yp fl)) hj2)
  refine Z2 2 (ib (b:=(!(decide (x1.params=x2.params)))) 46 (fun Xd=>?_) (fun Xd=>?_))
  ·have Wy:¬(x1.params=x2.params):=((Yl dq)).1 Xd
   exact Z2 7 (Yq (ZF 4 (Zt true Xd fl)) hj1)
  have WW:¬(¬(x1.params=x2.params)):=Y8 (Yl dq) Xd
  exact ZL 4 [1,0] (Zx [] (GT x1.lent x2.lent) (Z2 2 (Yq (ZF 4 (Zt (!(decide (x1.lent=x2.lent))) Xd fl)) hj1)))
 exact ax 0 (ar (Zp (ZW (.b true) (lb (decide_eq_true (Zl.ext2 hq1 (Ed om (fun i hi=>Zj i om)))).symm))))
theorem Z8m (code:LI) (hcl:code.length<=1048576:=by exact ob) (hcb:∀z∈code,0<=z/\z<=255):Zk 58 [Un code] [] (fun r h=>∃(n2:Zl),r=Yt n2/\h=[]/\ZS n2 814530 11):=by
 refine ZG 22 Tryz.func58 (ar (iA [nl,nl] fun b1=>ie (Y0 1 (ic [] (Z9s code (hc:=hcb)) ?_))))
 rintro _ _ ⟨rd1,bs1,rfl,rfl,ZY⟩
 have hnr:=ZY
 refine Z0 (Y0 2 (ic [0] (Z94 rd1 bs1 0 (ZO:=hnr)) ?_))
 rintro _ _ ⟨n1,p21,rfl,rfl,Yd⟩
 have hcf:=((FO.zn Yd.1)).zs
 refine ic [0] (Za8 rd1 bs1 p21 n1 16 814510 10 (ZO:=hnr) (hzn:=hcf)) ?_
 rintro _ _ ⟨n21,p22,rfl,rfl,YI⟩
 have hsf:=YI
 refine iA [nl,nl] fun b2=>ZH 0 b2 (YY n21) (ie (YP 1 (ic [1] (Pl rd1 bs1 p22 3 (ZO:=hnr)) ?_)))
 rintro _ _ ⟨YH,rfl,rfl,YS⟩
 refine Z0 (ab 0 (Y2 (fun fz gz m F h=>∃(j:Nat) (nn:Zl) (pp:Nat),(j<=2)/\(ZS nn (814520-4*j) 11)/\(pp+10*j<=1000000000)/\F=sF [2,3,4] fz [(5,.i j)]/\h=[YC rd1 bs1 pp,.obj b2 (YY nn),Ze gz 2]/\m=j+1) _ _ _ ⟨YH,n21,p22+1,ob,(hsf.1.le om (X5 _)),ob,rfl,rfl,rfl⟩ (ZF 3 fl) ?_))
 rintro m F h ⟨j,nn,pp,Yg,Zj,Zw,rfl,rfl,rfl⟩
 refine X9 (Y7 ((j:Int)>0) (fun Za=>?_) (fun Za=>?_))
 ·refine ak (aq (ab 1 (az (ZL 2 [1] (ic [0] (Z9c rd1 bs1 pp nn (ZO:=hnr) (hz:=(Zj.sz om om)) (hl1:=(by have:=Zj.len;omega))) ?_)))))
  rintro _ _ ⟨n22,p23,rfl,rfl,Xk⟩
  have hho:=Xk
  exact ZH 1 b2 (YY n22) (ie (az (Z2 1 (ia (((j:Int)-1)) (((j:Int))-(1)) (Z0 (ZK ⟨j-1,n22,p23,ob,((Zj.held hho.1).le om (X5 _)),ob,rfl,rfl,rfl⟩ (wk [1,0,0] (fc (x:=.i ((j:Int)-1)) li fl))))))))
 exact ax 0 (Zv 1 [1] (ZH 2 b1 (YY nn) (ie (ZC (r3 [] [Yt nn] [0] [(b1,b1)] ⟨nn,rfl,rfl,(Zj.le om (X5 _))⟩ (lr _))))))
theorem Z8n (code:LI) (hcl:code.length<=1048576:=by exact ob) (hcb:∀z∈code,0<=z/\z<=255):Zk 19 [Un code] [] (fun r h=>∃(n2:Zl),r=Yt n2/\h=[]/\ZS n2 814530 11):=by
 refine ZG 5 Tryz.func19 (ar (iA [nl,nl] fun b1=>ie (Y0 1 (ic [] (Z8m code (hcb:=ob)) ?_))))
 rintro _ _ ⟨n21,rfl,rfl,ZY⟩
 exact ZH 0 b1 (YY n21) (ie (ZC (r3 [] [Yt n21] [0] [(b1,b1)] ⟨n21,rfl,rfl,ZY⟩ (lr _))))
theorem Zcy (code:LI) (hcb:∀z∈code,0<=z/\z<=255):Zk 6 [Un code] [] (Yr (.b true)):=by
 refine ZG 57 Tryz.func6 (Zy (YP 1 (iw (Jo code) (Y7 ((code.length:Int)>1048576) (fun Za=>?_) (fun Za=>?_)))))
 ·exact ar (Zp (BS))
 have hcl:code.length<=1048576:=by omega
 refine ak (Y0 1 (ic [] (Z8n code (hcl:=hcl) (hcb:=hcb)) ?_))
 rintro _ _ ⟨n21,rfl,rfl,ZY⟩
 have hzs:=ZY
 have hzn:=hzs.sz om om
 have hln:=hzs.len
 have hrn:∀r∈n21.routines,r.body.rng:=fun r hr=>(hzs.rt r hr).2.2.2
 have huz:=Zhs hzn (Q:=814530) (fun r hr=>(hzs.rt r hr).2.2.1) om
 have hur:=Zhr hrn
 refine iA [nl,nl] fun b1=>ZH 0 b1 (YY n21) (ie (Zv 1 [0] (Zx [] (PD n21 (hz:=(by first|exact hzn|exact huz)) (hr:=(by first|exact hrn|exact hur))) (Z2 3 (iA [nl,nl] fun b2=>ZH 0 b2 (YY ((Yo n21).1)) (Z0 (Zv 1 [1] (Zx [] (Zht n21) (Z2 3 (iA [nl,nl] fun b3=>ZH 0 b3 (YY ((Yo n21).1)) (Z0 (Yk 2 [1,0] (Zx [] (LF ((Yo n21).1) ((Yo n21).1) (hn:=(by first|exact huz|assumption|exact Dy huz|(rw [h22];exact huz))) (ht:=(by first|exact huz|exact hzn|exact Dy hzn))) (XD 9 [4,5,6,7] [(33,.b ((!(decide (((Yo n21).1)=((Yo n21).1))))||(((Yo n21).2) != ((Yo n21).2))))] (fun gz=>gz) ?_ (fun hj1=>?_)))))))))))))))
 ·refine Xw [4,5,6,7] [(37,.b (((!(decide (((Yo n21).1)=((Yo n21).1))))||(((Yo n21).2) != ((Yo n21).2)))||(!(Yo n21).2)))] (fun gz=>gz) ?_ ?_
  ·refine Z2 1 (ib (b:=((!(decide (((Yo n21).1)=((Yo n21).1))))||(((Yo n21).2) != ((Yo n21).2)))) 34 (fun Zb=>?_) (fun Zb=>?_))
   ·have Yd:(¬(((Yo n21).1)=((Yo n21).1)))∨(((Yo n21).2)≠((Yo n21).2)):=((Yf (Yl dq) Y4)).1 Zb
    exact Z0 (ZF 3 (fc (x:=.b true) (lb (by rw [Zb];rfl)) fl))
   have YI:¬((¬(((Yo n21).1)=((Yo n21).1)))∨(((Yo n21).2)≠((Yo n21).2))):=Y8 (Yf (Yl dq) Y4) Zb
   exact Z0 (ZF 3 (fc (x:=.b (!(Yo n21).2)) (lb (by rw [Zb];rfl)) fl))
  refine ac (((!(decide (((Yo n21).1)=((Yo n21).1))))||(((Yo n21).2) != ((Yo n21).2)))||(!(Yo n21).2)) (p:=((¬(((Yo n21).1)=((Yo n21).1)))∨(((Yo n21).2)≠((Yo n21).2)))∨(¬((Yo n21).2=true))) (Yf (Yf (Yl dq) Y4) (Yl Iff.rfl)) (fun Zg=>?_) (fun Zg=>?_)
  ·refine Zv 2 [1,0] (Zx [] (LF ((Yo n21).1) ((Yo n21).1) (hn:=(by first|exact huz|assumption|exact Dy huz|(rw [h22];exact huz))) (ht:=(by first|exact huz|exact hzn|exact Dy hzn))) (XD 8 [] [(45,.b ((decide (((Yo n21).1)=((Yo n21).1)))&&(((Yo n21).2)==((Yo n21).2))))] (fun gz=>gz) ?_ (fun hj2=>?_)))
   ·exact Zp (ZW (.b ((decide (((Yo n21).1)=((Yo n21).1)))&&(((Yo n21).2)==((Yo n21).2)))) (lb (by first|(simp;done)|(exfalso;omega)|(simp_all;done))))
   refine Z2 1 (ib (b:=(decide (((Yo n21).1)=((Yo n21).1)))) 41 (fun ZA=>?_) (fun ZA=>?_))
   ·have YS:((Yo n21).1)=((Yo n21).1):=(dq).1 ZA
    exact Z2 2 (Zr (Zcl ((Yo n21).2) ((Yo n21).2)) (Z2 1 (Yq (ZF 3 (fc (x:=.b (((Yo n21).2)==((Yo n21).2))) (lb (by rw [ZA];rfl)) fl)) hj2)))
   have Xk:¬(((Yo n21).1)=((Yo n21).1)):=Y8 dq ZA
   exact Z2 4 (Yq (ZF 3 (fc (x:=.b false) (lb (by rw [ZA];rfl)) fl)) hj2)
  have hk:(Yo n21).2=true:=BV fun z=>Zg (.inr z)
  have hE:(Yo n21).1=WZ n21:=by rw [(Z13 hk).2.2]
  have h20:Yo (Yo n21).1=((Yo n21).1,true):=by rw [hE];exact Zii hzn hk
  have h21:(Yo (Yo n21).1).2=true:=by rw [h20]
  have h22:(Yo (Yo n21).1).1=(Yo n21).1:=by rw [h20]
  refine ak (Zv 1 [1] (Zx [] (PD ((Yo n21).1) (hz:=(by first|exact hzn|exact huz)) (hr:=(by first|exact hrn|exact hur))) (Z2 3 (iA [nl,nl] fun b4=>ZH 0 b4 (YY ((Yo ((Yo n21).1)).1)) (Z0 (ar (XD 6 [] [(56,.b ((Yo ((Yo n21).1)).2&&(decide (((Yo ((Yo n21).1)).1)=((Yo n21).1)))))] (fun gz=>gz) ?_ (fun hj3=>?_))))))))
  ·exact Zp (ZW (.b ((Yo ((Yo n21).1)).2&&(decide (((Yo ((Yo n21).1)).1)=((Yo n21).1))))) (lb (by first|(simp;done)|(exfalso;omega)|(simp_all;done))))
  refine Z2 2 (ib (b:=(Yo ((Yo n21).1)).2) 52 (fun Yp=>?_) (fun Yp=>?_))
  ·have XZ:(Yo ((Yo n21).1)).2=true:=(Iff.rfl).1 Yp
   exact ZL 2 [0,2] (Zx [] (LF ((Yo ((Yo n21).1)).1) ((Yo n21).1) (hn:=(by first|exact huz|assumption|exact Dy huz|(rw [h22];exact huz))) (ht:=(by first|exact huz|exact hzn|exact Dy hzn))) (Z2 1 (Yq (ZF 4 (fc (x:=.b (decide (((Yo ((Yo n21).1)).1)=((Yo n21).1)))) (lb (by rw [Yp];rfl)) fl)) hj3)))
  have Wy:¬((Yo ((Yo n21).1)).2=true):=Y8 Iff.rfl Yp
  exact Z2 4 (Yq (ZF 4 (fc (x:=.b false) (lb (by rw [Yp];rfl)) fl)) hj3)
 refine Z2 2 (ib (b:=(!(decide (((Yo n21).1)=((Yo n21).1))))) 29 (fun Xd=>?_) (fun Xd=>?_))
 ·have WW:¬(((Yo n21).1)=((Yo n21).1)):=((Yl dq)).1 Xd
  exact Z2 4 (Yq (ZF 3 (fc (x:=.b true) (lb (by rw [Xd];rfl)) fl)) hj1)
 have Vt:¬(¬(((Yo n21).1)=((Yo n21).1))):=Y8 (Yl dq) Xd
 exact Z2 2 (Zr (Zcm ((Yo n21).2) ((Yo n21).2)) (Z2 1 (Yq (ZF 3 (fc (x:=.b (((Yo n21).2) != ((Yo n21).2))) (lb (by rw [Xd];rfl)) fl)) hj1)))
end Go.Abs
