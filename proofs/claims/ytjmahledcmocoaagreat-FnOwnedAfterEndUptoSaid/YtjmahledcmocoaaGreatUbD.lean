/-
  A part of the proofs of several laws (see the last file): no condition.
-/
import Derived.Test.YtjmahledcmocoaaGreatUbC
set_option linter.all false
set_option linter.unusedVariables false
set_option linter.unusedSimpArgs false
set_option linter.unusedSectionVars false
set_option maxRecDepth 10000
set_option maxHeartbeats 4000000
namespace Go.Abs
open Go.Proofs
theorem Z2n (b:Nat) (ga:Hd) (gb:Hd) (gc:Hd) (n:Zi) (L:V4) (ln:LI) (am:List Xr) (xs:List Z5) (q:Int) (vs:LI) (hn:X3 n:=by exact ob) (hk:Xc n.decls L q:=by exact ob) (har:WY n.decls L am:=by exact ob) (ht:XI n xs L.vars=some vs:=by exact ob) (hnn:∀t∈L.vars,0<=t) (hb:L.vars.length+am.length+4*Y9 xs<=900000000:=by exact ob) (hq:0<=q/\q+4*Y9 xs<=999999980:=by exact ob) (hr:UM xs:=by exact ob) (ih:∀(s2:Z5) (c:Nat) (ra:Hd) (rb:Hd) (rc:Hd) (M:V4) (a2:List Xr) (p:Int),(s2.sz<=Y9 xs)->(Xc n.decls M p)->(WY n.decls M a2)->(0<=Yg n M.vars s2)->(∀t∈M.vars,0<=t)->(M.vars.length+a2.length+4*s2.sz<=900000000)->(0<=p/\p+4*s2.sz<=999999980)->(s2.rng)->Zl 154 [.p c 0,YL s2] [.obj c [ZW n.decls,YW n,Z4 ln,Xf a2,.h ra,.h rb,.h rc],rV ra M.vars,rV rb M.own,rV rc M.tok] (fun r h=>(∃(wa:Hd) (wb:Hd) (wc:Hd) (M':V4),r=.b true/\h=[.obj c [ZW n.decls,YW n,Z4 ln,Xf a2,.h wa,.h wb,.h wc],rV wa M'.vars,rV wb M'.own,rV wc M'.tok]/\Vx n ln M s2=some M')∨(r=.b false/\h=[]/\Vx n ln M s2=none))):Zl 121 [.p b 0,WE xs] [.obj b [ZW n.decls,YW n,Z4 ln,Xf am,.h ga,.h gb,.h gc],rV ga L.vars,rV gb L.own,rV gc L.tok] (fun r h=>(∃(wa:Hd) (wb:Hd) (wc:Hd) (L':V4),r=.b true/\h=[.obj b [ZW n.decls,YW n,Z4 ln,Xf am,.h wa,.h wb,.h wc],rV wa L'.vars,rV wb L'.own,rV wc L'.tok]/\XO n ln L xs=some L')∨(r=.b false/\h=[]/\XO n ln L xs=none)):=by
 have hxl:=J9 xs
 refine ZF 18 Tryz.func121 (ZD (YC 1 (iw (Vp xs) (Z0 (ab 0 (Y5 (fun fz gz m F h=>∃(k:Nat) (q2:Int) (L2:V4) (ka:Hd) (kb:Hd) (kc:Hd),(k<=xs.length)/\(Xc n.decls L2 q2)/\(0<=q2/\q2+4*Y9 (xs.drop k)<=999999980)/\(L2.vars.length+am.length+4*Y9 (xs.drop k)<=900000000)/\(XI n (xs.drop k) L2.vars=some vs)/\(XO n ln L2 (xs.drop k)=XO n ln L xs)/\(WY n.decls L2 am)/\(∀t∈L2.vars,0<=t)/\F=sF [0,7,8] fz [(9,.i k)]/\h=[.obj b [ZW n.decls,YW n,Z4 ln,Xf am,.h ka,.h kb,.h kc],rV ka L2.vars,rV kb L2.own,rV kc L2.tok]/\m=xs.length-k) _ _ _ ⟨0,q,L,ga,gb,gc,ob,hk,(by rw [Qs];omega),(by rw [Qs];omega),ht,rfl,har,hnn,rfl,rfl,rfl⟩ (ZE 4 (Yf fl)) ?_))))))
 rintro m F h ⟨k,q2,L2,ka,kb,kc,Yh,Zj,Zy,Yu,XU,QQ,HW,NC,rfl,rfl,rfl⟩
 refine ZD (aq (W8 ((k:Int)<(xs.length:Int)) (fun Za=>?_) (fun Za=>?_)))
 ·obtain ⟨s1,hs1⟩:=Zt xs k om
  have hdr:=Ya hs1
  have hz:Y9 (xs.drop k)=s1.sz+Y9 (xs.drop (k+1)):=by rw [hdr,Y9]
  have Xo:=SO hs1
  have hsr:=Mn hr hs1
  rw [hdr] at XU QQ
  obtain ⟨g1,g2⟩:=ER XU
  refine ak (aq (ab 1 (ar (Zm (Zh none (k:Int) 5 (Wx hs1)) (Z1 1 (iA [.i 0,.i 0,.i 0,nl,nl] fun b1=>ZH 0 b1 (XC s1) (ie (Zu 2 [0] (ic [1,1,1,1] (ih s1 b ka kb kc L2 am q2 ob Zj HW g1 NC om om hsr) ?_)))))))))
  rintro _ _ (⟨wa1,wb1,wc1,M'1,rfl,rfl,ZT⟩|⟨rfl,rfl,Yd⟩)
  ·have hP:=ZT
   have kx:=EQ hn Zj Zy.1 g1 hP
   exact Z0 (W9 (ak (az (ZJ k (Z0 (ZM ⟨k+1,(q2+4*s1.sz),M'1,wa1,wb1,wc1,ob,kx.1,om,(by rw [kx.2];have:=H0 n L2.vars s1;omega),(by rw [kx.2];exact g2),(by rw [<-QQ,XO,hP];rfl),(SZ hn Zj Zy.1 g1 hP HW),(by rw [kx.2];exact Zdo NC g1),rfl,rfl,rfl⟩ (ZE 4 (ZP k fl))))))))
  have hP:=Yd
  exact Z0 (XM (ar (Zo (r1 [] (.inr ⟨rfl,rfl,(by rw [<-QQ,XO,hP];rfl)⟩)))))
 exact ax 0 (ar (Zo (r1 [0,0,0,0] (.inl ⟨ka,kb,kc,L2,rfl,rfl,(by rw [<-QQ,Xn om];rfl)⟩))))
theorem NJ (am:List Xr) (hl:am.length<=1000000000:=by exact ob):Zl 287 [Xf am] [] (fun r h=>∃(v:Value),r=Ly am v/\h=[.tail v 4]):=by
 refine ZF 8 Tryz.func287 (ZD (YC 1 (iN (WP am) (fun hz1=>?_) ?_)))
 ·have hz1:=Z4r hz1
  exact ie (XM (ZD (QL 4 (ZG (r2 [0] [nl] ⟨(.slice none 0 0),rfl,rfl⟩ (Zd.slh _ (by first|rfl|(subst_vars;rfl))))))))
 exact ie (W9 (ak (ar (iL (WP []) 0 4 fun v1=>Z1 1 (ip 0 (WP am) (WP []) (WP am) v1 none 4 (CV _) (CV _) (I9 _) (by simp<;>omega) (by simp [WP]) fun v2=>Zo (r1 [0] ⟨v2,rfl,rfl⟩))))))
theorem Nh (am:List Xr) (a:Xr) (hl:am.length<=900000000:=by exact ob):Zl 260 [Xf am,.agg [.i a.mat,.i a.fst,Z4 a.fds,.b a.chg]] [] (Yq (Xf (am++[a]))):=by
 refine ZF 10 Tryz.func260 (ar (iA [.i a.mat,.i a.fst,Z4 a.fds,.b a.chg] fun b1=>?_))
 refine Z0 (aD 6 (ZL 4 6 [0,2] [0] (KV (fun fz gz F h=>∃(v3:Value),F=sF [] fz [(4,Ly (am++[a]) v3)]/\h=gz) ?_ ?_)))
 ·refine VI 1 3 ?_ ?_
  ·refine dc 1 [] [0] [b1] (NJ am) ?_
   rintro _ _ ⟨v1,rfl,rfl⟩
   exact Z9 3 (dL 3 [] [] (WP [a]) 1 4 fun v2=>Yv 2 2 [] [(8,Xf [a])] (Z9 4 (dp 4 1 [] [] (WP (am++[a])) (WP am) (WP [a]) v1 none 4 (CV _) (CV _) (I9 _) (by simp<;>omega) (by simp [O0,WP]) fun v3=>Zk 0 1 [5] (de (ZU ⟨v3,rfl,rfl⟩ (wk [2] fl))))))
  refine dL 3 [] [] (WP [a]) 1 4 fun v4=>Z9 1 (dc 1 [] [] [] (NJ am) ?_)
  rintro _ _ ⟨v5,rfl,rfl⟩
  exact Yv 2 2 [] [(8,Xf [a])] (Z9 4 (dp 4 0 [] [] (WP (am++[a])) (WP am) (WP [a]) v5 none 4 (CV _) (CV _) (I9 _) (by simp<;>omega) (by simp [O0,WP]) fun v6=>Zk 0 1 [5] (de (ZU ⟨v6,rfl,rfl⟩ (wk [2] fl)))))
 rintro F h ⟨v3,rfl,rfl⟩
 exact ZG (ZZ (Ly (am++[a]) v3) (Zd.forget _ _))
theorem Z2i (b:Nat) (ga:Hd) (gb:Hd) (gc:Hd) (n:Zi) (L:V4) (ln:LI) (am:List Xr) (s:Z5) (q:Int) (hn:X3 n:=by exact ob) (hty:Kk n:=by exact ob) (hlt:C3 n:=by exact ob) (hk:Xc n.decls L q:=by exact ob) (har:WY n.decls L am:=by exact ob) (hln:ln.length<=4294967296:=by exact ob) (hf:Ae n L.vars s:=by exact ob) (hop:s.op=7∨s.op=8:=by exact ob) (hnn:∀t∈L.vars,0<=t) (hb:L.vars.length+am.length+4*s.sz<=900000000:=by exact ob) (hq:0<=q/\q+4*s.sz<=999999980:=by exact ob) (hr:s.rng:=by exact ob) (ih:∀(ys:List Z5) (c:Nat) (ra:Hd) (rb:Hd) (rc:Hd) (M:V4) (a2:List Xr) (p:Int) (vs:LI),(Y9 ys<s.sz)->(Xc n.decls M p)->(WY n.decls M a2)->(XI n ys M.vars=some vs)->(∀t∈M.vars,0<=t)->(M.vars.length+a2.length+4*Y9 ys<=900000000)->(0<=p/\p+4*Y9 ys<=999999980)->(UM ys)->Zl 121 [.p c 0,WE ys] [.obj c [ZW n.decls,YW n,Z4 ln,Xf a2,.h ra,.h rb,.h rc],rV ra M.vars,rV rb M.own,rV rc M.tok] (fun r h=>(∃(wa:Hd) (wb:Hd) (wc:Hd) (M':V4),r=.b true/\h=[.obj c [ZW n.decls,YW n,Z4 ln,Xf a2,.h wa,.h wb,.h wc],rV wa M'.vars,rV wb M'.own,rV wc M'.tok]/\XO n ln M ys=some M')∨(r=.b false/\h=[]/\XO n ln M ys=none))):Zl 201 [.p b 0,YL s] [.obj b [ZW n.decls,YW n,Z4 ln,Xf am,.h ga,.h gb,.h gc],rV ga L.vars,rV gb L.own,rV gc L.tok] (fun r h=>(∃(wa:Hd) (wb:Hd) (wc:Hd) (L':V4),r=.b true/\h=[.obj b [ZW n.decls,YW n,Z4 ln,Xf am,.h wa,.h wb,.h wc],rV wa L'.vars,rV wb L'.own,rV wc L'.tok]/\Jn n ln L s=some L')∨(r=.b false/\h=[]/\Jn n ln L s=none)):=by
 have hlk:=hk.len
 obtain ⟨e1,e2,e3,e4,e5⟩:=hk.len
 have Xw:=hn.decls
 have hkz:=TK s
 have haz:=Qc s
 obtain ⟨hk1,hk2,hk3⟩:=hf.kids hop
 obtain ⟨kd,hkd⟩:=Zt s.kids 0 om
 obtain ⟨x,hxa⟩:=hf.one om
 have ha:s.args[0]? = some x:=by rw [hxa];rfl
 have hx:=hf.args x (by rw [hxa];simp)
 have hgx:=Ju ha
 have hal0:=(Xi.1 ha).1
 have hr2:=hr
 rw [s.rng_eq] at hr2
 refine ZF 156 Tryz.func201 (ar (iA (XC s) fun b1=>Z0 (X2 (Xj [0,3] [(24,.b ((s.op==8)&&(!Wk L ln x)))] (fun gz=>[Zc gz 1,Zc gz 2,Zc gz 3,Zc gz 4,Zc gz 0]) ?_ ?_))))
 ·refine ZK 4 [0] (ib (b:=(s.op==8)) 16 (fun Zb=>?_) (fun Zb=>?_))
  ·have ZT:s.op=8:=(Zq).1 Zb
   exact ZK 3 [0] (Zm (Zh none 0 1 (Y0 ha)) (Z1 1 (Zw [1,1,1,1] (HQ b ga gb gc n L ln am x ob ob ob ob ob hk.down ob) (Z0 (ZE 5 (Zv (!Wk L ln x) Zb fl))))))
  have Yd:¬(s.op=8):=Y7 Zq Zb
  exact Z0 (wk [1,1,1,1,0] (Zv false Zb fl))
 refine ac ((s.op==8)&&(!Wk L ln x)) (p:=(s.op=8)/\(¬(Wk L ln x=true))) (YG Zq (Yj Iff.rfl)) (fun Za=>?_) (fun Za=>?_)
 ·exact ar (Zo (r1 [] (.inr ⟨rfl,rfl,(Z35 Za.1 (by rw [hgx];exact Za.2))⟩)))
 have hgo:=NH (n:=n) (ln:=ln) (L:=L) (s:=s) (by rw [hgx];exact Za) hkd
 refine ak (Zu 2 [4] (iw (Uw s.kids) (iMN s.kids.length s.kids.length fun v1=>?_)))
 refine Z0 (X2 (VD [5] (XR (fun fz gz F h=>F=sF [0,3] fz [(5,K5 (Xs n.decls s.op s.num))]/\h=[Zc gz 1,Zc gz 2,Zc gz 3,Zc gz 4,Zc gz 5]) ?_ ?_)))
 ·refine ac (s.op==8) Zq (fun Zf=>?_) (fun Zf=>?_)
  ·exact aE 8 (ZL 2 8 [0,1,2,3,4,5] [1,5] (Z9 6 (Yt 6 [] [] [] (P8 _ s.num) (Zk 0 1 [7] (de (ZU ⟨rfl,rfl⟩ (wk [1,1,1,1,1] (fc (x:=K5 ((Y1 n.decls s.num).map (ZX n.decls))) (Zd.sl _ (Yr Wo (by rw [Xs,Z8 om]))) fl))))))))
  exact ak (ZU ⟨rfl,rfl⟩ (wk [1,1,1,1,1] (fc (x:=By (List.replicate s.kids.length []) v1) (Zd.sl _ (Yr Wo (by rw [show s.kids.length=2 by rw [hk1,Xs,Ze om];rfl,Xs,Ze om];rfl))) fl)))
 rintro F h ⟨rfl,rfl⟩
 refine Zu 4 [0] (Zm (Jf 1 ga L.vars) (Z0 (ZD (Yk 2 [4] (iw (Uw s.kids) (Z0 (ab 0 (Y5 (fun fz gz m F h=>(∃(k:Nat),(k=0)/\F=sF [0,3,5,6,7,45,46] fz [(47,.i k)]/\h=gz/\m=s.kids.length-k)∨(∃(k:Nat) (c0:Nat) (ua:Hd) (ub:Hd) (uc:Hd) (O:V4) (aO:List Xr),(1<=k/\k<=s.kids.length)/\(Vg n ln (Vk n.decls L s.op s.num s.args 0) L.vars.length kd=some (O.take L.vars.length))/\(L.vars.length<=O.own.length/\O.own.length<=1000000000/\L.vars.length<=O.tok.length/\O.tok.length<=1000000000)/\(Ky n ln L s.op s.num s.args (O.take L.vars.length) (s.kids.drop k) k=Ky n ln L s.op s.num s.args (O.take L.vars.length) (s.kids.drop 1) 1)/\F=sF [0,3,5,6,45,46] fz [(7,.p c0 0),(47,.i k)]/\h=[.obj c0 [ZW n.decls,YW n,Z4 ln,Xf aO,.h ua,.h ub,.h uc],rV ua O.vars,rV ub O.own,rV uc O.tok,Zc gz 0,Zc gz 1,Zc gz 2,Zc gz 3,Zc gz 4]/\m=s.kids.length-k)) _ _ _ (.inl ⟨0,rfl,rfl,rfl,rfl⟩) (ZE 5 (Yf fl)) ?_))))))))
 rintro m F h (⟨k,Yh,rfl,rfl,rfl⟩|⟨k,c0,ua,ub,uc,O,aO,d0_0,d0_1,d0_2,d0_3,rfl,rfl,rfl⟩)
 ·refine ZD (aq (W8 ((k:Int)<(s.kids.length:Int)) (fun ZB=>?_) (fun ZB=>?_)))
  ·obtain ⟨ke,hke⟩:=Zt s.kids k om
   obtain ⟨mk,hmk⟩:=Zt (Xs n.decls s.op s.num) k om
   have hK:=Dm hk hq.1 hf hop hmk
   have hmk3:=Fc Xw hmk
   have hks:=Tv hke
   have hbt:=hk3 k ke mk hke hmk
   obtain ⟨vs,rt,hvs,hres,hrt⟩:=DW hbt
   have hri:=Kq hres
   have hsrr:UM ke.steps:=by
    have h:=Fh hr2.2 hke
    rwa [Z7.rng_eq] at h
   have hbz:=ke.sz_eq
   have hak:=Nc hn har hlk hop (by rw [hgx];exact hx) hmk
   have hsl:=ES hvs
   rw [Yx] at hsl
   have hkl:=Nb (L:=L) (am:=am) (s:=s) (m:=mk)
   refine ak (aq (ab 1 (Y4 1 (Zm (Zh none (k:Int) 2 (T7 hke)) (Z1 1 (iA [nl,.i 0] fun b2=>Z1 1 (ZH 0 b2 (Xp ke) (ie (Y4 1 (ic [1,1,1,1] (Nr b ga gb gc n L ln am) ?_))))))))))
   rintro _ _ ⟨c1,wa1,wb1,wc1,rfl,rfl⟩
   refine Z0 (X2 (VD [9] (XR (fun fz gz F h=>F=sF [0,3,5,6,7,8,9,10,45,46,47] fz []/\h=[.obj c1 [ZW n.decls,YW n,Z4 ln,Xf (TE L am s mk),.h wa1,.h wb1,.h wc1],Zc gz 1,Zc gz 2,Zc gz 3,Zc gz 4,Zc gz 5,Zc gz 6,Zc gz 7,Zc gz 8,Zc gz 9]) ?_ ?_)))
   ·refine ac (s.op==8) Zq (fun ZV=>?_) (fun ZV=>?_)
    ·exact aE 19 (ZL 12 19 [0,1,2,3,4,5,6] [4,9] (dx 7 (Zh none 0 1 (Y0 ha)) (Zk 7 11 [8,9,10,11] (dx 12 (Zh none (k:Int) 1 (Bg hmk)) (Zk 4 6 [13,14] (Z9 15 (Yt 15 [] [] [] (Nh am (Xr.mk x (L.vars.length:Int) mk false)) (Zk 1 3 [16,17] (Z9 18 (YM 18 0 [] [] c1 [ZW n.decls,YW n,Z4 ln,Xf (am++[(Xr.mk x (L.vars.length:Int) mk false)]),.h wa1,.h wb1,.h wc1] (de (ZU ⟨rfl,rfl⟩ (ZE 10 fl (e:=(ro (ls:=[ZW n.decls,YW n,Z4 ln,Xf (am++[(Xr.mk x (L.vars.length:Int) mk false)]),.h wa1,.h wb1,.h wc1]) (by rw [TE,Ze ‹s.op=8›,hgx]) (rc (rc (rc (rc (rc (rc (rc (rc (rc rz))))))))))))))))))))))))
    exact ak (ZU ⟨rfl,rfl⟩ (ZE 10 fl (e:=(ro (ls:=[ZW n.decls,YW n,Z4 ln,Xf am,.h wa1,.h wb1,.h wc1]) (by rw [TE,Z8 ‹¬s.op=8›]) (rc (rc (rc (rc (rc (rc (rc (rc (rc rz)))))))))))))
   rintro F h ⟨rfl,rfl⟩
   refine YC 2 (Zm (Zh none (k:Int) 1 (Bg hmk)) (Z1 1 (iw (Y6 mk) (Z0 (ab 2 (Y5 (fun fz gz m F h=>∃(j:Nat) (L3:V4) (ka:Hd) (kb:Hd) (kc:Hd),(j<=mk.length)/\(Wv L3)/\(L3.vars.length=L.vars.length+j)/\(QX L3 (gI s.args 0) (mk.drop j)=Vk n.decls L s.op s.num s.args k)/\F=sF [0,3,5,6,7,9,10,45,46,47,78,79] fz [(80,.i j)]/\h=[.obj c1 [ZW n.decls,YW n,Z4 ln,Xf (TE L am s mk),.h ka,.h kb,.h kc],Zc gz 4,Zc gz 5,Zc gz 6,Zc gz 7,Zc gz 8,Zc gz 9,rV ka L3.vars,rV kb L3.own,rV kc L3.tok]/\m=mk.length-j) _ _ _ ⟨0,(Jb n L s k),wa1,wb1,wc1,ob,(SY hlk),(by rw [BK];rfl),(by rw [Qs];exact SX hop hmk),rfl,rfl,rfl⟩ (wk [0,3,3,3,3,3,3,0,0,0] (Yf fl) (e:=(rc (rc (rc (rc (rc (rc (rc (rv (xs:=L.vars) (by first|rw [BK]|rw [DD]|rw [DE]) (rv (xs:=L.own) (by first|rw [BK]|rw [DD]|rw [DE]) (rv (xs:=L.tok) (by first|rw [BK]|rw [DD]|rw [DE]) rz)))))))))))) ?_))))))
   rintro m F h ⟨j,L3,ka,kb,kc,UF,W4,XV,Jm,rfl,rfl,rfl⟩
   refine ZD (aq (W8 ((j:Int)<(mk.length:Int)) (fun Xd=>?_) (fun Xd=>?_)))
   ·obtain ⟨xm,hxm⟩:=Zt mk j om
    refine ak (aq (ab 3 (ar (Zm (Zh none (j:Int) 1 (Y0 hxm)) (Z0 (az (Z1 2 (ic [0,6,6,6] (CM c1 ka kb kc n L3 ln (TE L am s mk) xm 0 (hlk:=W4)) ?_))))))))
    rintro _ _ ⟨wa2,wb2,wc2,rfl⟩
    exact ie (az (ZJ j (Z0 (ZM ⟨j+1,(L3.grow xm 0 (gI s.args 0)),wa2,wb2,wc2,ob,(Wv.grow W4),(by simp [Zr.grow];omega),(by rw [Ya hxm,QX] at Jm;exact Jm),rfl,rfl,rfl⟩ (wk [0,3,3,3,3,3,3,0,0,0] (ZP j fl) (e:=(rc (rc (rc (rc (rc (rc (rc (rv (xs:=(L3.grow xm 0 (-1)).vars) ob (rv (xs:=(L3.grow xm 0 (-1)).own) ob (rv (xs:=(L3.grow xm 0 (-1)).tok) ob rz))))))))))))))))
   have hE:L3=Vk n.decls L s.op s.num s.args k:=by rw [<-Jm,Xn om];rfl
   have hL3v:L3.vars=L.vars++mk:=by rw [hE];exact hK.2
   have hL3l:L3.vars.length=L.vars.length+mk.length:=by rw [hL3v,Yx]
   refine ax 2 (Yk 3 [5] (ic [0,6,6,6] (ih ke.steps c1 ka kb kc L3 (TE L am s mk) q vs ob (by rw [hE];exact hK.1) (by rw [hE];exact hak) (by rw [hL3v];exact hvs) (by rw [hL3v];exact Ev hnn (Nf hty hmk)) om om hsrr) ?_))
   rintro _ _ (⟨wa3,wb3,wc3,M'1,rfl,rfl,YE⟩|⟨rfl,rfl,YI⟩)
   ·have hP:=YE
    have kx:=Hc hn (by rw [hE];exact hK.1) hq.1 (by rw [hE];exact hak) (by rw [hL3v];exact hvs) hP
    have kl:=kx.1.len
    have hm1:(Wf M'1 ke.result).own.length=vs.length:=by rw [FF.1,kl.own,kx.2.1]
    have hm2:(Wf M'1 ke.result).tok.length=vs.length:=by rw [FF.2.1,kl.tok,kx.2.1]
    refine ZK 5 [8] (ic [0,0,0,0] (HR c1 wa3 wb3 wc3 n M'1 ln (TE L am s mk) ke L.vars.length (hlk:=kl) (hlb:=(by rw [kx.2.1];omega)) (hm:=(by rw [kx.2.1];omega)) (hr:=(by rw [kx.2.1];omega)) (hq:=(fun y hy=>by have h1:=kx.1.nn y hy;have h2:=kx.1.bd y hy;omega))) ?_)
    rintro _ _ (⟨rfl,rfl,X9⟩|⟨rfl,rfl,XG⟩)
    ·have hB:=X9
     rw [<-He (f:=VU L.vars.length ke.result) hP,hE,<-Kr] at hB
     exact Z0 (W9 (ak (ab 4 (Y4 1 (iQ true (Z0 (XM (UT (az (ZJ k (Z0 (ZM (.inr ⟨k+1,c1,wa3,wb3,wc3,(Wf M'1 ke.result),(TE L am s mk),om,(by subst Yh;have e:=WB (hkd.symm.trans hke);subst e;exact hB),om,(by subst Yh;rfl),rfl,rfl,rfl⟩) (wk [0,0,0,0,0,0,0,0,1] (fr (ZP k fl)))))))))))))))
    have hB:=XG
    rw [<-He (f:=VU L.vars.length ke.result) hP,hE,<-Kr] at hB
    exact Z0 (XM (ar (Zo (r1 [] (.inr ⟨rfl,rfl,(by subst Yh;have e:=WB (hkd.symm.trans hke);subst e;rw [hgo,hB];rfl)⟩)))))
   have hB:Vg n ln (Vk n.decls L s.op s.num s.args k) L.vars.length ke=none:=by rw [Kr,<-hE,YI];rfl
   exact Z0 (XM (ar (Zo (r1 [] (.inr ⟨rfl,rfl,(by subst Yh;have e:=WB (hkd.symm.trans hke);subst e;rw [hgo,hB];rfl)⟩)))))
  exact absurd hk2 om
 refine ZD (aq (W8 ((k:Int)<(s.kids.length:Int)) (fun Xe=>?_) (fun Xe=>?_)))
 ·obtain ⟨ke,hke⟩:=Zt s.kids k om
  obtain ⟨mk,hmk⟩:=Zt (Xs n.decls s.op s.num) k om
  have hK:=Dm hk hq.1 hf hop hmk
  have hmk3:=Fc Xw hmk
  have hks:=Tv hke
  have hbt:=hk3 k ke mk hke hmk
  obtain ⟨vs,rt,hvs,hres,hrt⟩:=DW hbt
  have hri:=Kq hres
  have hsrr:UM ke.steps:=by
   have h:=Fh hr2.2 hke
   rwa [Z7.rng_eq] at h
  have hbz:=ke.sz_eq
  have hak:=Nc hn har hlk hop (by rw [hgx];exact hx) hmk
  have hsl:=ES hvs
  rw [Yx] at hsl
  have hkl:=Nb (L:=L) (am:=am) (s:=s) (m:=mk)
  refine ak (aq (ab 1 (Y4 1 (Zm (Zh none (k:Int) 2 (T7 hke)) (Z1 1 (iA [nl,.i 0] fun b3=>Z1 1 (ZH 0 b3 (Xp ke) (ie (Y4 1 (ic [5,5,5,5] (Nr b ga gb gc n L ln am) ?_))))))))))
  rintro _ _ ⟨c2,wa4,wb4,wc4,rfl,rfl⟩
  refine Z0 (X2 (VD [13] (XR (fun fz gz F h=>F=sF [0,3,5,6,7,8,9,10,45,46,47] fz []/\h=[.obj c2 [ZW n.decls,YW n,Z4 ln,Xf (TE L am s mk),.h wa4,.h wb4,.h wc4],Zc gz 1,Zc gz 2,Zc gz 3,Zc gz 4,Zc gz 5,Zc gz 6,Zc gz 7,Zc gz 8,Zc gz 9,Zc gz 10,Zc gz 11,Zc gz 12,Zc gz 13]) ?_ ?_)))
  ·refine ac (s.op==8) Zq (fun VW=>?_) (fun VW=>?_)
   ·exact aE 19 (ZL 12 19 [0,1,2,3,4,5,6] [4,13] (dx 7 (Zh none 0 1 (Y0 ha)) (Zk 7 11 [8,9,10,11] (dx 12 (Zh none (k:Int) 1 (Bg hmk)) (Zk 4 6 [13,14] (Z9 15 (Yt 15 [] [] [] (Nh am (Xr.mk x (L.vars.length:Int) mk false)) (Zk 1 3 [16,17] (Z9 18 (YM 18 0 [] [] c2 [ZW n.decls,YW n,Z4 ln,Xf (am++[(Xr.mk x (L.vars.length:Int) mk false)]),.h wa4,.h wb4,.h wc4] (de (ZU ⟨rfl,rfl⟩ (ZE 14 fl (e:=(ro (ls:=[ZW n.decls,YW n,Z4 ln,Xf (am++[(Xr.mk x (L.vars.length:Int) mk false)]),.h wa4,.h wb4,.h wc4]) (by rw [TE,Ze ‹s.op=8›,hgx]) (rc (rc (rc (rc (rc (rc (rc (rc (rc (rc (rc (rc (rc rz))))))))))))))))))))))))))))
   exact ak (ZU ⟨rfl,rfl⟩ (ZE 14 fl (e:=(ro (ls:=[ZW n.decls,YW n,Z4 ln,Xf am,.h wa4,.h wb4,.h wc4]) (by rw [TE,Z8 ‹¬s.op=8›]) (rc (rc (rc (rc (rc (rc (rc (rc (rc (rc (rc (rc (rc rz)))))))))))))))))
  rintro F h ⟨rfl,rfl⟩
  refine YC 2 (Zm (Zh none (k:Int) 1 (Bg hmk)) (Z1 1 (iw (Y6 mk) (Z0 (ab 2 (Y5 (fun fz gz m F h=>∃(j:Nat) (L3:V4) (ka:Hd) (kb:Hd) (kc:Hd),(j<=mk.length)/\(Wv L3)/\(L3.vars.length=L.vars.length+j)/\(QX L3 (gI s.args 0) (mk.drop j)=Vk n.decls L s.op s.num s.args k)/\F=sF [0,3,5,6,7,9,10,45,46,47,78,79] fz [(80,.i j)]/\h=[.obj c2 [ZW n.decls,YW n,Z4 ln,Xf (TE L am s mk),.h ka,.h kb,.h kc],Zc gz 4,Zc gz 5,Zc gz 6,Zc gz 7,Zc gz 8,Zc gz 9,Zc gz 10,Zc gz 11,Zc gz 12,Zc gz 13,rV ka L3.vars,rV kb L3.own,rV kc L3.tok]/\m=mk.length-j) _ _ _ ⟨0,(Jb n L s k),wa4,wb4,wc4,ob,(SY hlk),(by rw [BK];rfl),(by rw [Qs];exact SX hop hmk),rfl,rfl,rfl⟩ (wk [0,3,3,3,3,3,3,3,3,3,3,0,0,0] (Yf fl) (e:=(rc (rc (rc (rc (rc (rc (rc (rc (rc (rc (rc (rv (xs:=L.vars) (by first|rw [BK]|rw [DD]|rw [DE]) (rv (xs:=L.own) (by first|rw [BK]|rw [DD]|rw [DE]) (rv (xs:=L.tok) (by first|rw [BK]|rw [DD]|rw [DE]) rz)))))))))))))))) ?_))))))
  rintro m F h ⟨j,L3,ka,kb,kc,UF,W4,XV,Jm,rfl,rfl,rfl⟩
  refine ZD (aq (W8 ((j:Int)<(mk.length:Int)) (fun VL=>?_) (fun VL=>?_)))
  ·obtain ⟨xm,hxm⟩:=Zt mk j om
   refine ak (aq (ab 3 (ar (Zm (Zh none (j:Int) 1 (Y0 hxm)) (Z0 (az (Z1 2 (ic [0,10,10,10] (CM c2 ka kb kc n L3 ln (TE L am s mk) xm 0 (hlk:=W4)) ?_))))))))
   rintro _ _ ⟨wa5,wb5,wc5,rfl⟩
   exact ie (az (ZJ j (Z0 (ZM ⟨j+1,(L3.grow xm 0 (gI s.args 0)),wa5,wb5,wc5,ob,(Wv.grow W4),(by simp [Zr.grow];omega),(by rw [Ya hxm,QX] at Jm;exact Jm),rfl,rfl,rfl⟩ (wk [0,3,3,3,3,3,3,3,3,3,3,0,0,0] (ZP j fl) (e:=(rc (rc (rc (rc (rc (rc (rc (rc (rc (rc (rc (rv (xs:=(L3.grow xm 0 (-1)).vars) ob (rv (xs:=(L3.grow xm 0 (-1)).own) ob (rv (xs:=(L3.grow xm 0 (-1)).tok) ob rz))))))))))))))))))))
  have hE:L3=Vk n.decls L s.op s.num s.args k:=by rw [<-Jm,Xn om];rfl
  have hL3v:L3.vars=L.vars++mk:=by rw [hE];exact hK.2
  have hL3l:L3.vars.length=L.vars.length+mk.length:=by rw [hL3v,Yx]
  refine ax 2 (Yk 3 [5] (ic [0,10,10,10] (ih ke.steps c2 ka kb kc L3 (TE L am s mk) q vs ob (by rw [hE];exact hK.1) (by rw [hE];exact hak) (by rw [hL3v];exact hvs) (by rw [hL3v];exact Ev hnn (Nf hty hmk)) om om hsrr) ?_))
  rintro _ _ (⟨wa6,wb6,wc6,M'2,rfl,rfl,XY⟩|⟨rfl,rfl,WQ⟩)
  ·have hP:=XY
   have kx:=Hc hn (by rw [hE];exact hK.1) hq.1 (by rw [hE];exact hak) (by rw [hL3v];exact hvs) hP
   have kl:=kx.1.len
   have hm1:(Wf M'2 ke.result).own.length=vs.length:=by rw [FF.1,kl.own,kx.2.1]
   have hm2:(Wf M'2 ke.result).tok.length=vs.length:=by rw [FF.2.1,kl.tok,kx.2.1]
   refine ZK 5 [8] (ic [0,0,0,0] (HR c2 wa6 wb6 wc6 n M'2 ln (TE L am s mk) ke L.vars.length (hlk:=kl) (hlb:=(by rw [kx.2.1];omega)) (hm:=(by rw [kx.2.1];omega)) (hr:=(by rw [kx.2.1];omega)) (hq:=(fun y hy=>by have h1:=kx.1.nn y hy;have h2:=kx.1.bd y hy;omega))) ?_)
   rintro _ _ (⟨rfl,rfl,V8⟩|⟨rfl,rfl,Uy⟩)
   ·have hB:=V8
    rw [<-He (f:=VU L.vars.length ke.result) hP,hE,<-Kr] at hB
    refine Z0 (W9 (ak (ab 4 (Y4 1 (iQ false (Z0 (W9 (aD 31 (ZL 26 31 [0,1,2,3,4] [0] (dx 5 (Kf 2 wb6 ((Wf M'2 ke.result).own) L.vars.length) (ZL 20 25 [6,7,8,9,10] [9] (dx 11 (Kf 11 ub O.own L.vars.length) (Z9 12 (T5 12 [2,10] [] [] [rV wb6 ((Wf M'2 ke.result).own),rV ub O.own] (Cy (((Wf M'2 ke.result).own).take L.vars.length) (O.own.take L.vars.length)) CQ (gC (v:=wb6) (ys:=(Wf M'2 ke.result).own) 0 L.vars.length (gC (v:=ub) (ys:=O.own) 1 L.vars.length gN)) (U5 (U5 UH)) ?_))))))))))))))
    rintro _ _ ⟨rfl,rfl⟩
    refine An [0,3,5,6,7,45,46,47] [(104,.b ((!(decide ((((Wf M'2 ke.result).own).take L.vars.length)=(O.own.take L.vars.length))))||(!(decide ((((Wf M'2 ke.result).tok).take L.vars.length)=(O.tok.take L.vars.length))))))] (fun gz=>gz) ?_ ?_
    ·refine Zk 16 18 [13,14] (db (b:=(!(decide ((((Wf M'2 ke.result).own).take L.vars.length)=(O.own.take L.vars.length))))) 119 (fun Zx=>?_) (fun Zx=>?_))
     ·have UU:¬((((Wf M'2 ke.result).own).take L.vars.length)=(O.own.take L.vars.length)):=((Yj dq)).1 Zx
      exact Zk 0 16 [15,16,17,18,19,20,21,22,23,24,25,26,27,28,29,30] (de (ZE 14 (Zv true Zx fl)))
     have UV:¬(¬((((Wf M'2 ke.result).own).take L.vars.length)=(O.own.take L.vars.length))):=Y7 (Yj dq) Zx
     refine ZL 11 16 [15,16,17,18,19] [2] (dx 20 (Kf 4 wc6 ((Wf M'2 ke.result).tok) L.vars.length) (ZL 5 10 [21,22,23,24,25] [10] (dx 26 (Kf 12 uc O.tok L.vars.length) (Z9 27 (T5 27 [4,11] [] [] [rV wc6 ((Wf M'2 ke.result).tok),rV uc O.tok] (Cy (((Wf M'2 ke.result).tok).take L.vars.length) (O.tok.take L.vars.length)) CQ (gC (v:=wc6) (ys:=(Wf M'2 ke.result).tok) 0 L.vars.length (gC (v:=uc) (ys:=O.tok) 1 L.vars.length gN)) (U5 (U5 UH)) ?_)))))
     rintro _ _ ⟨rfl,rfl⟩
     exact Zk 0 3 [28,29,30] (de (wk [2,2,2,2,0,1,1,1,1,1,1,1,0,0] (Zv (!(decide ((((Wf M'2 ke.result).tok).take L.vars.length)=(O.tok.take L.vars.length)))) Zx fl)))
    refine ac ((!(decide ((((Wf M'2 ke.result).own).take L.vars.length)=(O.own.take L.vars.length))))||(!(decide ((((Wf M'2 ke.result).tok).take L.vars.length)=(O.tok.take L.vars.length))))) (p:=(¬((((Wf M'2 ke.result).own).take L.vars.length)=(O.own.take L.vars.length)))∨(¬((((Wf M'2 ke.result).tok).take L.vars.length)=(O.tok.take L.vars.length)))) (Yi (Yj dq) (Yj dq)) (fun VM=>?_) (fun VM=>?_)
    ·exact ar (Zo (r1 [] (.inr ⟨rfl,rfl,(by rw [hgo,d0_1];exact Et (by rw [<-d0_3,Eo hke,hB];exact Sa (VM.imp (fun h g=>h g.symm) (fun h g=>h g.symm))))⟩)))
    exact ak (az (ZJ k (Z0 (ZM (.inr ⟨k+1,c0,ua,ub,uc,O,aO,om,d0_1,d0_2,(by rw [Eo hke,hB,Sb (fun z=>VM (z.imp (fun h g=>h g.symm) (fun h g=>h g.symm)))] at d0_3;exact d0_3),rfl,rfl,rfl⟩) (wk [10,10,1,9,4,4,4,4,5] (fr (ZP k fl)))))))
   have hB:=Uy
   rw [<-He (f:=VU L.vars.length ke.result) hP,hE,<-Kr] at hB
   exact Z0 (XM (ar (Zo (r1 [] (.inr ⟨rfl,rfl,(by rw [hgo,d0_1];exact Et (by rw [<-d0_3,Eo hke,hB];rfl))⟩)))))
  have hB:Vg n ln (Vk n.decls L s.op s.num s.args k) L.vars.length ke=none:=by rw [Kr,<-hE,WQ];rfl
  exact Z0 (XM (ar (Zo (r1 [] (.inr ⟨rfl,rfl,(by rw [hgo,d0_1];exact Et (by rw [<-d0_3,Eo hke,hB];rfl))⟩)))))
 refine ax 0 (aD 22 (ZL 15 22 [0,1,2,3,4,5,6] [0] (dx 7 (Kf 2 ub O.own L.vars.length) (ZL 9 14 [9,10,11,12,13] [0] (dx 14 (Kf 3 uc O.tok L.vars.length) (Z9 8 (T5 8 [2] [0] [c0] [rV ub O.own] (DZ (O.own.take L.vars.length)) Jo (gC (v:=ub) (ys:=O.own) 0 L.vars.length gN) (U5 UH) ?_)))))))
 rintro _ _ ⟨v2,rfl,rfl⟩
 refine Z9 15 (T5 15 [4] [] [] [rV uc O.tok] (DZ (O.tok.take L.vars.length)) Jo (gC (v:=uc) (ys:=O.tok) 0 L.vars.length gN) (U5 UH) ?_)
 rintro _ _ ⟨v3,rfl,rfl⟩
 exact Zk 4 6 [16,17] (Z9 18 (YM 18 6 [] [] b [ZW n.decls,YW n,Z4 ln,Xf am,.h ga,.h v2,.h gc] (Zk 1 3 [19,20] (Z9 21 (YM 21 0 [] [] b [ZW n.decls,YW n,Z4 ln,Xf am,.h ga,.h v2,.h v3] (de (ar (Zo (r1 [0,6,2,0] (.inl ⟨ga,v2,v3,(Zr.mk L.vars (O.own.take L.vars.length) L.par L.con L.fst (O.tok.take L.vars.length)),rfl,rfl,(by rw [hgo,d0_1];exact PX (by rw [<-d0_3,Xn om];rfl))⟩) (eq:=(rc (rv (xs:=L.vars) ob (rv (xs:=(O.own.take L.vars.length)) ob (rv (xs:=(O.tok.take L.vars.length)) ob rz))))))))))))))
theorem L0 (n:Zi) (us:LI) (s:Z5) (hn:X3 n) (hty:Kk n) (hnn:∀t∈us,0<=t) (hb:us.length+4*s.sz<=1000000000) (hr:s.rng):Zl 124 [.agg [ZW n.decls,YW n],Z4 us,YL s] [] (fun r h=>∃(t:Int),r=.tup [.i t,.b (decide (0<=Yg n us s))]/\h=[]/\(¬YH s.op=true->0<=Yg n us s->t=Yg n us s)):=
 Pa n us s hn hty hnn hb hr fun b us2 _ h2 h3 h4=>P4 n us2 b hn hty h4 h2 h3
theorem Z2m (b:Nat) (ga:Hd) (gb:Hd) (gc:Hd) (n:Zi) (L:V4) (ln:LI) (am:List Xr) (s:Z5) (q:Int) (hn:X3 n:=by exact ob) (hty:Kk n:=by exact ob) (hlt:C3 n:=by exact ob) (hk:Xc n.decls L q:=by exact ob) (har:WY n.decls L am:=by exact ob) (hln:ln.length<=4294967296:=by exact ob) (ht:0<=Yg n L.vars s:=by exact ob) (hnn:∀t∈L.vars,0<=t) (hb:L.vars.length+am.length+4*s.sz<=900000000:=by exact ob) (hq:0<=q/\q+4*s.sz<=999999980:=by exact ob) (hr:s.rng:=by exact ob) (ih:∀(ys:List Z5) (c:Nat) (ra:Hd) (rb:Hd) (rc:Hd) (M:V4) (a2:List Xr) (p:Int) (vs:LI),(Y9 ys<s.sz)->(Xc n.decls M p)->(WY n.decls M a2)->(XI n ys M.vars=some vs)->(∀t∈M.vars,0<=t)->(M.vars.length+a2.length+4*Y9 ys<=900000000)->(0<=p/\p+4*Y9 ys<=999999980)->(UM ys)->Zl 121 [.p c 0,WE ys] [.obj c [ZW n.decls,YW n,Z4 ln,Xf a2,.h ra,.h rb,.h rc],rV ra M.vars,rV rb M.own,rV rc M.tok] (fun r h=>(∃(wa:Hd) (wb:Hd) (wc:Hd) (M':V4),r=.b true/\h=[.obj c [ZW n.decls,YW n,Z4 ln,Xf a2,.h wa,.h wb,.h wc],rV wa M'.vars,rV wb M'.own,rV wc M'.tok]/\XO n ln M ys=some M')∨(r=.b false/\h=[]/\XO n ln M ys=none))):Zl 154 [.p b 0,YL s] [.obj b [ZW n.decls,YW n,Z4 ln,Xf am,.h ga,.h gb,.h gc],rV ga L.vars,rV gb L.own,rV gc L.tok] (fun r h=>(∃(wa:Hd) (wb:Hd) (wc:Hd) (L':V4),r=.b true/\h=[.obj b [ZW n.decls,YW n,Z4 ln,Xf am,.h wa,.h wb,.h wc],rV wa L'.vars,rV wb L'.own,rV wc L'.tok]/\Vx n ln L s=some L')∨(r=.b false/\h=[]/\Vx n ln L s=none)):=by
 have hlk:=hk.len
 obtain ⟨e1,e2,e3,e4,e5⟩:=hk.len
 have hf:=DF ht
 have hkz:=TK s
 have haz:=Qc s
 have hlh:=Zas hlt ht
 refine ZF 58 Tryz.func154 (ar (iA (XC s) fun b1=>Z0 (aq (ab 0 (Zu 2 [0] (Zw [] (IZ s.op) (YD (YH s.op) Iff.rfl (fun Za=>?_) (fun Za=>?_))))))))
 ·obtain ⟨x,hxa⟩:=hf.one (.inr (.inr (by simpa [YH] using Za)))
  have ha:s.args[0]? = some x:=by rw [hxa];rfl
  have hx:=hf.args x (by rw [hxa];simp)
  have hgx:=Ju ha
  have hal:=(Xi.1 ha).1
  refine aD 9 (ZL 4 9 [0,1,2,3,4] [0,0] (dx 5 (Zh none 0 1 (Y0 ha)) (Zk 2 3 [6] (Z9 7 (dc 7 [1,1,1,1] [] [] (Z2k b ga gb gc n L ln am s.op x q) ?_)))))
  rintro _ _ (⟨L'1,rfl,rfl,ZT⟩|⟨rfl,rfl,Yd⟩)
  ·exact Zk 0 1 [8] (de (ZG (r1 [0,0,0,0] (.inl ⟨ga,gb,gc,L'1,rfl,rfl,(by rw [Z01 Za hgx];exact ZT)⟩))))
  exact Zk 0 1 [8] (de (ZG (r1 [] (.inr ⟨rfl,rfl,(by rw [Z01 Za hgx];exact Yd)⟩))))
 refine ar (Xz 8 [0,3] [(27,.b ((s.op==7)||(s.op==8)))] (fun gz=>gz) ?_ (fun hj1=>?_))
 ·refine YD ((s.op==7)||(s.op==8)) (p:=(s.op=7)∨(s.op=8)) (Yi Zq Zq) (fun Zf=>?_) (fun Zf=>?_)
  ·refine Zu 2 [0] (ic [1,1,1,1] (Z2i b ga gb gc n L ln am s q (hnn:=ob) (ih:=ih)) ?_)
   rintro _ _ (⟨wa1,wb1,wc1,L'2,rfl,rfl,YE⟩|⟨rfl,rfl,YI⟩)
   ·have hP:=(GM (n:=n) (ln:=ln) (L:=L) Zf).trans YE
    obtain ⟨kx,hxv⟩:=BC hn hk hq.1 hf hP
    refine Z0 (W9 (ak (aD 15 (ZL 6 15 [0,1,2,3,4,5,6,7,8] [0,0,4] (Z9 9 (T5 9 [1] [] [] [rV wa1 L'2.vars] (L0 n L'2.vars s ob ob (by rw [hxv];exact hnn) (by rw [hxv];omega) ob) HY (gS (gL (v:=wa1) 0 (gS gN))) (U5 UH) ?_))))))
    rintro _ _ ⟨t1,rfl,rfl,X9⟩
    rw [hxv] at X9
    have hte:=X9 Za ht
    refine Zk 0 5 [10,11,12,13,14] (de (Y4 3 (iI t1 1 (ic [1,0,0,0] (CM b wa1 wb1 wc1 n L'2 ln am t1 (min t1 1) (hlb:=(by rw [hxv];omega)) (hlk:=kx.len)) ?_))))
    rintro _ _ ⟨wa2,wb2,wc2,rfl⟩
    exact ie (ar (Zo (r1 [0,0,0,0] (.inl ⟨wa2,wb2,wc2,(L'2.grow t1 (min t1 1) (-1)),rfl,rfl,(Mr hP ht Za hte)⟩))))
   have hP:=(GM (n:=n) (ln:=ln) (L:=L) Zf).trans YI
   exact Z0 (XM (ar (Zo (r1 [] (.inr ⟨rfl,rfl,(Z02 hP)⟩)))))
  refine Zu 2 [0] (Zw [] (P6 s.op) (YD (Tj s.op) Iff.rfl (fun ZB=>?_) (fun ZB=>?_)))
  ·refine Zu 2 [0] (ic [1,1,1,1] (Z2j b ga gb gc n L ln am s q (hlt:=hlh)) ?_)
   rintro _ _ (⟨L'3,rfl,rfl,XG⟩|⟨rfl,rfl,XY⟩)
   ·have hP:=(LK (n:=n) (ln:=ln) (L:=L) Za Zf).trans XG
    obtain ⟨kx,hxv⟩:=BC hn hk hq.1 hf hP
    refine Z0 (W9 (ak (aD 15 (ZL 6 15 [0,1,2,3,4,5,6,7,8] [0,0,4] (Z9 9 (T5 9 [1] [] [] [rV ga L'3.vars] (L0 n L'3.vars s ob ob (by rw [hxv];exact hnn) (by rw [hxv];omega) ob) HY (gS (gL (v:=ga) 0 (gS gN))) (U5 UH) ?_))))))
    rintro _ _ ⟨t2,rfl,rfl,WQ⟩
    rw [hxv] at WQ
    have hte:=WQ Za ht
    refine Zk 0 5 [10,11,12,13,14] (de (Y4 3 (iI t2 1 (ic [1,0,0,0] (CM b ga gb gc n L'3 ln am t2 (min t2 1) (hlb:=(by rw [hxv];omega)) (hlk:=kx.len)) ?_))))
    rintro _ _ ⟨wa3,wb3,wc3,rfl⟩
    exact ie (ar (Zo (r1 [0,0,0,0] (.inl ⟨wa3,wb3,wc3,(L'3.grow t2 (min t2 1) (-1)),rfl,rfl,(Mr hP ht Za hte)⟩))))
   have hP:=(LK (n:=n) (ln:=ln) (L:=L) Za Zf).trans XY
   exact Z0 (XM (ar (Zo (r1 [] (.inr ⟨rfl,rfl,(Z02 hP)⟩)))))
  have hP:=Zc0 (ln:=ln) Za Zf ZB ht
  have hxv:L.vars=L.vars:=rfl
  have kx:=hk
  refine ak (aD 15 (ZL 6 15 [0,1,2,3,4,5,6,7,8] [1,1,0] (Z9 9 (T5 9 [2] [] [] [rV ga L.vars] (L0 n L.vars s ob ob (by rw [hxv];exact hnn) (by rw [hxv];omega) ob) HY (gS (gL (v:=ga) 0 (gS gN))) (U5 UH) ?_))))
  rintro _ _ ⟨t3,rfl,rfl,V8⟩
  rw [hxv] at V8
  have hte:=V8 Za ht
  refine Zk 0 5 [10,11,12,13,14] (de (Y4 3 (iI t3 1 (ic [2,0,1,1] (CM b ga gb gc n L ln am t3 (min t3 1) (hlb:=(by rw [hxv];omega)) (hlk:=kx.len)) ?_))))
  rintro _ _ ⟨wa4,wb4,wc4,rfl⟩
  exact ie (ar (Zo (r1 [0,0,0,0] (.inl ⟨wa4,wb4,wc4,(L.grow t3 (min t3 1) (-1)),rfl,rfl,(Mr hP ht Za hte)⟩))))
 refine ZK 4 [0] (ib (b:=(s.op==7)) 23 (fun Zb=>?_) (fun Zb=>?_))
 ·have Uy:s.op=7:=(Zq).1 Zb
  exact Z1 4 (Yp (ZE 5 (Zv true Zb fl)) hj1)
 have UU:¬(s.op=7):=Y7 Zq Zb
 exact ZK 4 [0] (Yp (ZE 5 (Zv (s.op==8) Zb fl)) hj1)
theorem Z2o (n:Zi) (ln:LI) (hn:X3 n) (hty:Kk n) (hlt:C3 n) (hln:ln.length<=4294967296) (m:Nat):∀(ys:List Z5) (c:Nat) (ra:Hd) (rb:Hd) (rc:Hd) (M:V4) (a2:List Xr) (p:Int) (vs:LI),(Y9 ys<m)->(Xc n.decls M p)->(WY n.decls M a2)->(XI n ys M.vars=some vs)->(∀t∈M.vars,0<=t)->(M.vars.length+a2.length+4*Y9 ys<=900000000)->(0<=p/\p+4*Y9 ys<=999999980)->(UM ys)->Zl 121 [.p c 0,WE ys] [.obj c [ZW n.decls,YW n,Z4 ln,Xf a2,.h ra,.h rb,.h rc],rV ra M.vars,rV rb M.own,rV rc M.tok] (fun r h=>(∃(wa:Hd) (wb:Hd) (wc:Hd) (M':V4),r=.b true/\h=[.obj c [ZW n.decls,YW n,Z4 ln,Xf a2,.h wa,.h wb,.h wc],rV wa M'.vars,rV wb M'.own,rV wc M'.tok]/\XO n ln M ys=some M')∨(r=.b false/\h=[]/\XO n ln M ys=none)):=by
 induction m with
 | zero=>intro ys c ra rb rc M a2 p vs h;omega
 | succ m ih=>
  intro ys c ra rb rc M a2 p vs h hk har ht hnn hb hp hr
  exact Z2n c ra rb rc n M ln a2 ys p vs hn hk har ht hnn hb hp hr fun s2 c ra rb rc M a2 p h1 hk har ht hnn hb hp hr=>Z2m c ra rb rc n M ln a2 s2 p hn hty hlt hk har hln ht hnn hb hp hr
   fun ys c ra rb rc M a2 p vs h2 hk har ht hnn hb hp hr=>ih ys c ra rb rc M a2 p vs om hk har ht hnn hb hp hr
theorem Nu (c:Nat) (ra:Hd) (rb:Hd) (rc:Hd) (n:Zi) (M:V4) (ln:LI) (a2:List Xr) (ys:List Z5) (p:Int) (vs:LI) (hn:X3 n) (hty:Kk n) (hlt:C3 n) (hln:ln.length<=4294967296) (hk:Xc n.decls M p) (har:WY n.decls M a2) (ht:XI n ys M.vars=some vs) (hnn:∀t∈M.vars,0<=t) (hb:M.vars.length+a2.length+4*Y9 ys<=900000000) (hp:0<=p/\p+4*Y9 ys<=999999980) (hr:UM ys):Zl 121 [.p c 0,WE ys] [.obj c [ZW n.decls,YW n,Z4 ln,Xf a2,.h ra,.h rb,.h rc],rV ra M.vars,rV rb M.own,rV rc M.tok] (fun r h=>(∃(wa:Hd) (wb:Hd) (wc:Hd) (M':V4),r=.b true/\h=[.obj c [ZW n.decls,YW n,Z4 ln,Xf a2,.h wa,.h wb,.h wc],rV wa M'.vars,rV wb M'.own,rV wc M'.tok]/\XO n ln M ys=some M')∨(r=.b false/\h=[]/\XO n ln M ys=none)):=
 Z2o n ln hn hty hlt hln (Y9 ys+1) ys c ra rb rc M a2 p vs om hk har ht hnn hb hp hr
theorem Z92 (n:Zi) (hz:Vm n) (hs:VX n=true):Zl 76 [Yo n] [] (Yq (.tup [.agg [ZW n.decls,YW n],.b (VX n)])):=by
 refine (P7 n hz).mono fun r h q=>?_
 rcases q with ⟨h1,h2,_⟩|⟨_,_,h3⟩
 ·exact ⟨h1,h2⟩
 ·rw [hs] at h3;cases h3
theorem Nt (n:Zi) (f:Nat) (rt:Yb) (hn:X3 n:=by exact ob) (hz:Vm n:=by exact ob) (hs:VX n=true:=by exact ob) (hr:n.routines[f]? = some rt:=by exact ob):Zl 120 [Yo n,.i f] [] (fun r h=>∃(c:Nat) (wa:Hd) (wb:Hd) (wc:Hd),r=.p c 0/\h=[.obj c [ZW n.decls,YW n,Z4 rt.lent,Xf [],.h wa,.h wb,.h wc],rV wa ((Va rt).vars),rV wb ((Va rt).own),rV wc ((Va rt).tok)]):=by
 have hfl:=(Xi.1 hr).1
 have hpl:=hn.params_at hr
 have hll:=hn.lent_at hr
 refine ZF 58 Tryz.func120 (ar (iA (YQ n) fun b1=>Z0 (Zu 1 [0] (Zw [] (Z92 n ob ob) (Z1 3 (iA [nl,nl] fun b2=>ZH 0 b2 [ZW n.decls,YW n] (Z0 (aD 10 (ZL 6 10 [0,1,2,3] [0,1] (dx 4 (Zh none (f:Int) 5 (Wp hr)) (Zk 2 5 [5,6,7] (Z9 8 (dA 8 [] [] [ZW n.decls,YW n,Z4 rt.lent,nl,nl,nl,nl] fun b3=>?_)))))))))))))
 refine Ca (Z0g 0 b3 [ZW n.decls,YW n,Z4 rt.lent,nl,nl,nl,nl] [ZW n.decls,YW n,Z4 rt.lent,Xf [],.h hN,.h hN,.h hN] (.cons (lr _) (.cons (lr _) (.cons (lr _) (.cons (Zd.sl _ rfl) (.cons (Zd.hd (v:=hN)) (.cons (Zd.hd (v:=hN)) (.cons (Zd.hd (v:=hN)) .nil)))))))) (Ca (Jz) (Ca (Jz) (Ca (Jz) (Zk 0 1 [9] (de (Yk 3 [5] (Zm (Zh none (f:Int) 5 (Wp hr)) (Z1 2 (iw (Y6 rt.params) (Z0 (ab 0 (Y5 (fun fz gz m F h=>∃(k:Nat) (L2:V4) (ka:Hd) (kb:Hd) (kc:Hd),(k<=rt.params.length)/\(Wv L2)/\(L2.vars.length=k)/\(Uf rt.lent (rt.params.drop k) k L2=Va rt)/\F=sF [7,29,30] fz [(31,.i k)]/\h=[.obj b3 [ZW n.decls,YW n,Z4 rt.lent,Xf [],.h ka,.h kb,.h kc],rV ka L2.vars,rV kb L2.own,rV kc L2.tok]/\m=rt.params.length-k) _ _ _ ⟨0,(Zr.mk [] [] [] [] [] []),hN,hN,hN,ob,⟨rfl,rfl,rfl,rfl,rfl⟩,rfl,rfl,rfl,rfl,rfl⟩ (wk [3,0,0,0] (Yf fl) (e:=(rc (rv (xs:=[]) ob (rv (xs:=[]) ob (rv (xs:=[]) ob rz)))))) ?_))))))))))))
 rintro m F h ⟨k,L2,ka,kb,kc,Yh,Zj,Zy,Yu,rfl,rfl,rfl⟩
 refine ZD (aq (W8 ((k:Int)<(rt.params.length:Int)) (fun Za=>?_) (fun Za=>?_)))
 ·refine ak (aq (ab 1 (Y4 1 ?_)))
  obtain ⟨x1,Z3⟩:=Zt rt.params k om
  have hgl:(L2.grow x1 0 (-1)).own.length=k+1:=by simp [Zr.grow,Zj.own,Zy]
  refine Zm (Zh none (k:Int) 1 (Y0 Z3)) (Z0 (Y4 2 (ic [0,0,0,0] (CM b3 ka kb kc n L2 rt.lent [] x1 0) ?_)))
  rintro _ _ ⟨wa1,wb1,wc1,rfl⟩
  refine ie (ar (Xj [7,8,29,30,31] [(49,.b ((x1 != 0)&&(!(decide ((k:Int)∈rt.lent)))))] (fun gz=>gz) ?_ ?_))
  ·refine Z1 3 (ib (b:=(x1 != 0)) 41 (fun Zb=>?_) (fun Zb=>?_))
   ·have ZT:x1≠0:=(Ym).1 Zb
    exact ZK 5 [0] (Zw [] (Mh rt.lent (k:Int)) (Z0 (ZE 4 (Zv (!(decide ((k:Int)∈rt.lent))) Zb fl))))
   have Yd:¬(x1≠0):=Y7 Ym Zb
   exact Z0 (ZE 4 (Zv false Zb fl))
  refine ac ((x1 != 0)&&(!(decide ((k:Int)∈rt.lent)))) (p:=(x1≠0)/\(¬((k:Int)∈rt.lent))) (YG Ym (Yj dq)) (fun Zf=>?_) (fun Zf=>?_)
  ·exact az (ZK 5 [0] (Zm (Wr 2 wb1 ((L2.grow x1 0 (-1)).own) (k:Int) k) (Df 2 wb1 ((L2.grow x1 0 (-1)).own) k 1 (ie (az (ZJ k (Z0 (ZM ⟨k+1,(L2.grow x1 1 (-1)),wa1,wb1,wc1,ob,(Wv.grow Zj),(by simp [Zr.grow];omega),(by rw [Ya Z3,Uf] at Yu;first|(rw [Ze (by assumption)] at Yu;exact Yu)|(rw [Z8 (by assumption)] at Yu;exact Yu)),rfl,rfl,rfl⟩ (wk [1,1,0,0] (ZP k fl) (e:=(rc (rv (xs:=(L2.grow x1 0 (-1)).vars) (by first|rfl|exact Ma (by rw [Zj.own,Zy])) (rv (xs:=(((L2.grow x1 0 (-1)).own).set k 1)) (by first|rfl|exact Ma (by rw [Zj.own,Zy])) (rv (xs:=(L2.grow x1 0 (-1)).tok) (by first|rfl|exact Ma (by rw [Zj.own,Zy])) rz))))))))))))))
  exact ak (az (ZJ k (Z0 (ZM ⟨k+1,(L2.grow x1 0 (-1)),wa1,wb1,wc1,ob,(Wv.grow Zj),(by simp [Zr.grow];omega),(by rw [Ya Z3,Uf] at Yu;first|(rw [Ze (by assumption)] at Yu;exact Yu)|(rw [Z8 (by assumption)] at Yu;exact Yu)),rfl,rfl,rfl⟩ (ZE 4 (ZP k fl))))))
 refine ax 0 (ZD ?_)
 have hNl:L2=Va rt:=by rw [<-Yu,Xn om];rfl
 exact ZG (r1 [0,0,0,0] ⟨b3,ka,kb,kc,rfl,rfl⟩ (eq:=(rc (rv (xs:=L2.vars) (by rw [hNl]) (rv (xs:=L2.own) (by rw [hNl]) (rv (xs:=L2.tok) (by rw [hNl]) rz))))))
theorem Z8u (n:Zi) (f:Nat) (rt:Yb) (hn:X3 n:=by exact ob) (hty:Kk n:=by exact ob) (hlt:C3 n:=by exact ob) (hz:Vm n:=by exact ob) (hs:VX n=true:=by exact ob) (hr:n.routines[f]? = some rt:=by exact ob) (ht:0<=Xm n rt.params rt.body:=by exact ob) (hrr:rt.body.rng:=by exact ob):Zl 74 [Yo n,.i f] [] (Yq (.b (KS n rt))):=by
 have hfl:=(Xi.1 hr).1
 have hpl:=hn.params_at hr
 have hll:=hn.lent_at hr
 have hrm:=ZY hr
 have hbd:=hz.body rt hrm
 have hbz:=rt.body.sz_eq
 obtain ⟨hk,hkv⟩:=Eu n.decls rt
 obtain ⟨vs,t0,hvs,hres,hrt⟩:=DW ht
 have hri:=Kq hres
 have hsl:=ES hvs
 rw [rt.body.rng_eq] at hrr
 refine ZF 25 Tryz.func74 (ar (iA (YQ n) fun b1=>Z0 (Zu 2 [0] (ic [] (Nt n f rt) ?_))))
 rintro _ _ ⟨c1,wa1,wb1,wc1,rfl,rfl⟩
 refine Z0 (Zu 3 [4] (Zm (Zh none (f:Int) 5 (Wp hr)) (Z1 2 (iA [nl,.i 0] fun b2=>ZH 0 b2 (Xp rt.body) (ie (Zu 3 [0] (ic [1,1,1,1] (Nu c1 wa1 wb1 wc1 n (Va rt) rt.lent [] rt.body.steps 1 vs ob ob ob ob hk (Ls rt) (by rw [hkv];exact hvs) (by rw [hkv];exact hty.params rt hrm) (by rw [hkv,Xv];omega) ob ob) ?_)))))))
 rintro _ _ (⟨wa2,wb2,wc2,M'1,rfl,rfl,ZT⟩|⟨rfl,rfl,Yd⟩)
 ·have hP:=ZT
  have kx:=Hc hn hk om (Ls rt) (by rw [hkv];exact hvs) hP
  have kl:=kx.1.len
  refine ZK 3 [4] (ic [0,0,0,0] (HR c1 wa2 wb2 wc2 n M'1 rt.lent [] rt.body 0 (hlk:=kl) (hlb:=(by rw [kx.2.1];omega)) (hr:=(by rw [kx.2.1];omega)) (hq:=(fun y hy=>by have h1:=kx.1.nn y hy;have h2:=kx.1.bd y hy;omega))) ?_)
  rintro _ _ (⟨rfl,rfl,YE⟩|⟨rfl,rfl,YI⟩)
  ·have hB:=YE
   exact Zo (ZZ (.b true) (lb (by rw [RW hP (by rw [kl.own,kl.tok]),hB];rfl)))
  have hB:=YI
  exact Zo (ZZ (.b false) (lb (by rw [RW hP (by rw [kl.own,kl.tok]),hB];rfl)))
 have hP:=Yd
 exact Zo (ZZ (.b false) (lb (by rw [Zcr hP])))
def Do (g l c m kk:Nat):Value:=.slice (some ⟨g,(if c-m=0 then 0 else m*kk),none⟩) (l-m) (c-m)
def Mg (P:Program) (ops:Array Oper) (F:Fr) (k:Nat):Option (AV × Int × Nat):=
 match (ZC ops k).op with
 | .slice t x (some lo) none none=>match P.underlying t with
  | some (.slice e)=>match P.info? e with
   | some i=>match F.ev lo with
    | .val (.int _ m)=>some (F.ev x,m,i.size)
    | _=>none
   | none=>none
  | _=>none
 | _=>none
section
variable {P:Program} {n:Nat} {ops:Array Oper} {k:Nat} {F:Fr} {h h2:List Res}
theorem Zfj (j:Nat) {g l c m kk:Nat} {ls:List AV} (hi:Mg P ops F k=some (.val (.slice (some ⟨g,0,none⟩) l c),(m:Int),kk)) (hj:h[j]? = some (.row (.slice (some ⟨g,0,none⟩) l c) kk ls)) (hle:m<=l) :
  XA P (ZC ops k) F h [] (.val (Do g l c m kk)):=by
 unfold Mg at hi
 generalize hoo:ZC ops k=o at hi
 obtain ⟨dst,op,type,pos,after,guard⟩:=o
 cases op<;>simp only at hi<;>try (cases hi)
 rename_i t x lo hi' mx
 cases lo with
 | none=>simp at hi
 | some y=>
  cases hi' with
  | some _=>simp at hi
  | none=>
   cases mx with
   | some _=>simp at hi
   | none=>
    simp only at hi
    split at hi
    ·rename_i e ht
     split at hi
     ·rename_i inf hinf
      split at hi
      ·rename_i ik m' hm
       simp only [Wj,Prod.mk.injEq] at hi
       obtain ⟨hx,rfl,hkk⟩:=hi
       intro n w G a hF hh
       have v1:=hF.ev x
       rw [hx] at v1
       have v1:=v1.val_inv
       have v2:=hF.ev y
       rw [hm] at v2
       have v2:=v2.val_inv
       have hcap:l<=c:=by
        rcases hh.ok _ (ZY hj) with ⟨h0,_⟩|⟨g',l',c',cur,el,h0,_,hc,_⟩
        ·cases h0
        ·cases h0;exact hc
       refine ⟨_,.val,fun w' _ _=>?_⟩
       simp only [execOp,v1,v2,BX,Option.map_none]
       refine Vq ?_
       simp only [Instr.sliceAt,Sem.run_bind,VP ht,Result.andThen_ok,Instr.slice]
       have hmm:(Instr.sliceBounds true l c (some (.int ik (m:Int))) none none).run P w'=.ok (m,l,c) w':=by
        have Yl:=Dy (P:=P) (c:=BoundsCode.sliceB) (v:=.int ik (m:Int)) (y:=l) rfl om om w'
        simp [Instr.sliceBounds,Yl]
       rw [hmm]
       simp only [Result.andThen_ok,Qp hinf,Do,hkk]
       by_cases h0:c-m=0
       ·have e0:c=m:=by omega
        simp [e0]
       ·have e0:¬c=m:=fun z=>h0 om
        simp [e0,h0,Addr.add]
        exact fun z=>z.symm
      ·cases hi
     ·cases hi
    ·cases hi
theorem Po (j g l c m kk:Nat) (ls:List AV) (hle:m<=l:=by omega) (hi:Mg P ops F k=some (.val (.slice (some ⟨g,0,none⟩) l c),(m:Int),kk):=by kernel_rfl) (hj:h[j]? = some (.row (.slice (some ⟨g,0,none⟩) l c) kk ls):=by kernel_rfl) :
  XA P (ZC ops k) F h [] (.val (Do g l c m kk)):=Zfj j hi hj hle
theorem Zbm {K:Fr->List Res->Prop} {g len cap i m sz:Nat} {ls:List AV} (hd:Vz n (ZC ops k)=true) (ha:UP P ops F k=some (.val (.slice (some ⟨g,0,none⟩) i cap),.val (Do g len cap m sz),sz))
  (hone:ls.all AV.one=true) (him:i<=m) (hml:m<=len)
  (hK:K (F.put (ZC ops k).dst (.val (.slice (some ⟨g,0,none⟩) (i+(len-m)) cap))) (.row (.slice (some ⟨g,0,none⟩) (i+(len-m)) cap) sz (ls.take (i*sz)++ls.drop (m*sz))::h2)):WD P n (ZC ops k) F (.row (.slice (some ⟨g,0,none⟩) len cap) sz ls::h2) K:=by
 unfold UP at ha
 generalize hoo:ZC ops k=o at ha hd hK
 obtain ⟨dst,op,type,pos,after,guard⟩:=o
 cases op<;>simp only at ha<;>try (cases ha)
 rename_i c
 obtain ⟨callee,args,tys⟩:=c
 simp only at ha
 split at ha
 case h_2=>cases ha
 rename_i s x t t' hargs htys
 split at ha
 case h_2=>cases ha
 rename_i e htt ht
 have:=UN htt
 subst this
 split at ha
 case h_2=>cases ha
 rename_i inf hinfo
 split at ha
 case h_2=>cases ha
 rename_i z hz
 split at ha
 case h_2=>cases ha
 rename_i hb
 simp only [W6] at hb
 simp only [Wj,Prod.mk.injEq] at ha
 obtain ⟨h3,h4,hk1⟩:=ha
 have e1:args=#[s,x]:=by rw [<-Uk (xs:=args),hargs]
 have e2:tys=#[t,t]:=by rw [<-Uk (xs:=tys),htys]
 subst e1;subst e2
 intro Q w G a hF hh
 have v1:=hF.ev s
 have v2:=hF.ev x
 rw [h3] at v1
 rw [h4] at v2
 have v1:=v1.val_inv
 have v2:=v2.val_inv
 rcases hh.ok _ (Xl ..) with ⟨h0,_⟩|⟨g',len',cap',cur,el,h0,hrow,hlc,hcur,hll,hcells⟩
 ·cases h0
 ·cases h0
  have q5:len*sz<=cap*sz:=QJ _ hlc
  have q6:m*sz<=len*sz:=QJ _ hml
  have q7:i*sz<=m*sz:=QJ _ him
  have q8:(len-m)*sz=len*sz-m*sz:=Nat.sub_mul ..
  have q9:(i+(len-m))*sz=i*sz+(len-m)*sz:=Qt ..
  have hcl:cur.toList.length=cap*sz:=by rw [KJ,hcur]
  have h1:(cur.toList.take (len*sz)).length=len*sz:=by rw [WH,hcl,VG q5]
  have hnl:((cur.toList.take (len*sz)).drop (m*sz)).length=(len-m)*sz:=by rw [A7,h1];omega
  have hr:=GU (P:=P) w t type e el inf ht hinfo g i cap cur hrow ⟨g,(if cap-m=0 then 0 else m*sz),none⟩ (len-m) (cap-m) ((cur.toList.take (len*sz)).drop (m*sz)) (by rw [hk1];exact hnl)
   (fun j u hj=>by
    have hjl:=(Xi.1 hj).1
    rw [hnl] at hjl
    have hne:¬cap-m=0:=fun z=>by
     have:len-m=0:=by omega
     rw [this] at hjl;omega
    rw [Z8 hne,KP,cell_of_row w g _ cur el (0,0) hrow]
    rw [BR,TW] at hj
    split at hj
    ·simpa using hj
    ·cases hj)
   (fun u hu=>hcells.one_cells hone u (List.mem_of_mem_drop hu)) om (by rw [hk1,hnl,hcur];omega)
  rw [hk1] at hr
  have hti:(cur.toList.take (i*sz)).length=i*sz:=by rw [WH,hcl,VG om]
  obtain ⟨j1,j2⟩:=hh.rgrow (ls':=ls.take (i*sz)++ls.drop (m*sz)) (len':=i+(len-m)) (cs':=(cur.toList.take (i*sz)++(cur.toList.take (len*sz)).drop (m*sz)++cur.toList.drop (i*sz+((cur.toList.take (len*sz)).drop (m*sz)).length)).toArray) hrow
   (by simp only [DK,Yx,hti,hnl,A7,hcl,hcur];omega) om hcur (by rw [Yx,WH,A7,hll,q9,VG om];omega) (by
    have:(cur.toList.take (i*sz)++(cur.toList.take (len*sz)).drop (m*sz)++cur.toList.drop (i*sz+((cur.toList.take (len*sz)).drop (m*sz)).length)).toArray.toList.take ((i+(len-m))*sz)=cur.toList.take (i*sz)++(cur.toList.take (len*sz)).drop (m*sz):=by
     rw [DL,q9,<-hnl]
     conv=>lhs;arg 1;rw [show i*sz+((cur.toList.take (len*sz)).drop (m*sz)).length=(cur.toList.take (i*sz)++(cur.toList.take (len*sz)).drop (m*sz)).length from by rw [Yx,hti]]
     exact A8
    rw [this]
    have ht1:=hcells.take (i*sz)
    rw [List.take_take,VG om] at ht1
    exact ht1.append (hcells.drop (m*sz)))
  generalize hW:w.setRow g (cur.toList.take (i*sz)++(cur.toList.take (len*sz)).drop (m*sz)++cur.toList.drop (i*sz+((cur.toList.take (len*sz)).drop (m*sz)).length)).toArray=W at hr j1 j2
  have hrun:(execOp a.eval { dst:=dst,op:=.call { callee:=.builtin .append,args:=#[s,x],argTypes:=#[t,t] },type:=type,pos:=pos,after:=after,guard:=guard }).run P w=.ok (.value (.slice (some ⟨g,0,none⟩) (i+(len-m)) cap)) W:=by
   simp only [execOp,resolve,invoke,builtin,Sem.run_bind,Sem.run_pure,Result.andThen_ok,BT,UE,BS,v1,v2,Do]
   rw [hr]
   rfl
  unfold Oper.wp
  rw [hrun]
  exact ⟨_,_,G,hK,(hF.mono (j2.agree hh)).put (T6 hd) .val,j1,j2⟩
end
section
variable {P:Program} {n:Nat} {ops:Array Oper} {B:Fr->List Res->Prop} {T:List (Nat × List Nat)} {fuel:Nat} {done:List Nat} {k:Nat} {F:Fr} {h:List Res}
theorem NV (q j:Nat) (js bs:List Nat) (g len cap i m sz:Nat) (ls:List AV) (hone:ls.all AV.one=true)
  (H:YX P n ops B (T.filter fun t=>!V6 ops q t.1) fuel (done++[q]) (F.put (ZC ops q).dst (.val (.slice (some ⟨g,0,none⟩) (i+(len-m)) cap))) (.row (.slice (some ⟨g,0,none⟩) (i+(len-m)) cap) sz (ls.take (i*sz)++ls.drop (m*sz))::XK [j] h)) (him:i<=m:=by omega) (hml:m<=len:=by omega)
  (hk:Xb n ops F q=true:=by kernel_rfl) (ha:UP P ops F q=some (.val (.slice (some ⟨g,0,none⟩) i cap),.val (Do g len cap m sz),sz):=by kernel_rfl) (hp:Wq [j] h=some [.row (.slice (some ⟨g,0,none⟩) len cap) sz ls]:=by kernel_rfl) (ho:Ue ops q T=bs:=by kernel_rfl)
  (hj:js.map (fun z=>(WM (XK [j] h))[z]?)=bs.map some:=by kernel_rfl):Vy P n ops B T fuel done F h q:=
 Kv [j] js bs hk (Vw hp) ho hj (Zbm (h2:=[]) (VN hk).2.1 ha hone him hml H)
end
theorem Z51 (xs:List Yb) (k:Nat) (d:Yb):YU (xs.set k d)=(YU xs).set k (Km d):=by simp [YU,List.map_set]
theorem FP (xs:List Yb):(Zp (YU xs)).length=xs.length*5:=by rw [TS (k:=5) _ (T9 xs)];simp
theorem Z5p {ds:List Yb} {k:Nat} (d:Yb) (hk:k<ds.length):(Zp (YU ds)).take (k*5)++(Km d).leaves++(Zp (YU ds)).drop (k*5+5)=Zp (YU (ds.set k d)):=by
 rw [Z51];exact FU (y:=Km d) (T9 ds) rfl (by simpa using hk)
theorem Z4t (xs:List Z7) (k:Nat) (d:Z7):YN (xs.set k d)=(YN xs).set k (Y3 d):=by
 simp [Tm,List.map_set]
theorem Eb (xs:List Z7):(Zp (YN xs)).length=xs.length*2:=by rw [TS (k:=2) _ (TY xs)];simp
theorem Z5m {ds:List Z7} {k:Nat} (d:Z7) (hk:k<ds.length):(Zp (YN ds)).take (k*2)++(Y3 d).leaves++(Zp (YN ds)).drop (k*2+2)=Zp (YN (ds.set k d)):=by
 rw [Z4t];exact FU (y:=Y3 d) (TY ds) (by cases d;rfl) (by simpa using hk)
theorem WC.frzN {P:Program} {f:FuncId} {as1:List AV} {h0:List Res} {ds:List Zg} {rs:List Yb} {hs:List Res}
  (H:WC P f as1 h0 (fun r h=>∃g c:Nat,r=.agg [ZW ds,.ms g 0 rs.length c]/\h=.row (.slice (some ⟨g,0,none⟩) rs.length c) 5 (Zp (YU rs))::hs)) :
  WC P f as1 h0 (fun r h=>r=.agg [ZW ds,KC rs]/\h=hs):=by
 intro w G vs hv hh
 refine (H w G vs hv hh).mono ?_
 rintro e w' ⟨u,r,h',G',he,⟨gb,c,rfl,rfl⟩,hr,hh',hx⟩
 obtain ⟨G2,h1,h2,h3⟩:=Cx hh' (T9 _) om
 have hA:U1 G' w' w' G2:=h2.agree hh'
 refine ⟨u,_,hs,G2,he,⟨rfl,rfl⟩,?_,(h1.perm (List.perm_append_comm (l₁:=[_]))).left,(hx.trans h2).sub' (BV _ _)⟩
 cases hr with
 | agg hc=>
  cases hc with
  | cons k1 t1=>
   cases t1 with
   | cons k2 t2=>
    cases t2
    have hv2:=k2.val_inv
    subst hv2
    refine .agg (.cons (k1.mono hA) (.cons ?_ .nil))
    have hw:Zd (.sl (YU rs) (some (.slice (some ⟨gb,0,none⟩) rs.length c))) (KC rs):=Zd.forget _ _
    exact hw _ _ _ h3
theorem Z5u (v:Value) (k:Nat) (ls ks:List AV) (b o:Nat):Res.fp (.row v k ks) b o=Res.fp (.vec v ls) b o:=by
 cases v with
 | slice a _ _=>cases a<;>rfl
 | _=>rfl
theorem Zgs {w:World} {G:Ye} {v:Value} {ls:List AV} {h2:List Res} (hh:Ys w G (.vec v ls::h2)):Ys w G (.row v 1 ls::h2)/\YT w G (.vec v ls::h2) w G (.row v 1 ls::h2):=by
 have hpw:=WU.1 hh.apart
 have hf:∀b o,Res.fp (.row v 1 ls) b o->Res.fp (.vec v ls) b o:=fun b o h=>by rw [Z5u v 1 ls ls] at h;exact h
 refine ⟨⟨fun r hr=>?_,WU.2 ⟨fun r hr b o f1 f2=>hpw.1 r hr b o (hf b o f1) f2,hpw.2⟩,fun r hr b o f1 hg=>?_,hh.lt⟩,⟨rfl,rfl,rfl,X5 _,fun _ _ h=>h,fun _ _=>.inl rfl,fun _ _ _ h=>.inl h,fun b o _ ⟨r,hr,f1⟩=>?_⟩⟩
 ·rcases YF.1 hr with rfl|hr
  ·rcases hh.ok _ (Xl ..) with h0|⟨g,cap,cur,e,h0,h1,h3,h4,h5⟩
   ·exact .inl h0
   ·exact .inr ⟨g,ls.length,cap,cur,e,h0,h1,h3,by rw [h4,QK],by rw [QK],by rw [QK];exact h5⟩
  ·exact hh.ok r (XE _ hr)
 ·rcases YF.1 hr with rfl|hr
  ·exact hh.prot _ (Xl ..) b o (hf b o f1) hg
  ·exact hh.prot r (XE _ hr) b o f1 hg
 ·rcases YF.1 hr with rfl|hr
  ·exact ⟨_,Xl ..,hf b o f1⟩
  ·exact ⟨r,XE _ hr,f1⟩
theorem Oq:∀xs:LI,Zp (Z6 xs)=Z6 xs
 | []=>rfl
 | x::r=>Yr (AV.i x::·) (Oq r)
section
variable {h:List Res}
theorem A1 (j:Nat) (v:Hd) (xs:LI) (hp:Wq [j] h=some [rV v xs]:=by kernel_rfl):TC h (.row v.v 1 (Zp (Z6 xs))::XK [j] h):=by
 have e:Zp (Z6 xs)=Z6 xs:=Oq xs
 rw [e]
 intro w G hh
 have hp':=Us (Vw hp)
 obtain ⟨a,b⟩:=Zgs (hh.perm hp')
 exact ⟨G,a,b.perm hp'.symm (Qr _)⟩
end
def AO (bs:LI) (p:Nat) (mx:Int):Int:=
 if mx<1∨bs.length=0 then 0 else if p<bs.length then (bs[p]?).getD 0 % mx else
  AX ((((bs[p % bs.length]?).getD 0*131+(bs[(p*7+3) % bs.length]?).getD 0*1117)+((p*29:Nat):Int))+(((p / bs.length:Nat):Int)*53))
   (((((bs[p % bs.length]?).getD 0*131+(bs[(p*7+3) % bs.length]?).getD 0*1117)+((p*29:Nat):Int))+(((p / bs.length:Nat):Int)*53)) / 64) % mx
theorem Zc2 {bs:LI} {p:Nat} {mx:Int} (h:0<mx):0<=AO bs p mx/\AO bs p mx<mx:=by
 rw [AO]
 split
 ·omega
 ·split
  ·exact ⟨Int.emod_nonneg _ om,Int.emod_lt_of_pos _ h⟩
  ·exact ⟨Int.emod_nonneg _ om,Int.emod_lt_of_pos _ h⟩
theorem Z5l {xs:List Z7} {k:Nat} {b:Z7} (h:xs[k]? = some b):Zp (YN (xs.take k))++Zp [Y3 b]=Zp (YN (xs.take (k+1))):=by
 rw [Vc h,Aq,Qv]
 congr 1
 rw [Tm];rfl
def Ep (s:Z5) (u:Value):List AV:=[.i s.op,.i s.num,.i s.into,Z4 s.args,.val u]
def Ec (b:Z7) (k:Nat):Z5:=(b.steps[k]?).getD (Zz 0 0)
theorem FY {b:Z7} {k:Nat} {s:Z5} (h:b.steps[k]? = some s):Ec b k=s:=by rw [Ec,h];rfl
def V1 (b:Z7) (kk:Nat) (u:Value) (k:Nat):List AV:=if k<=kk then Zp (ZA (b.steps.take k)) else Zp (ZA (b.steps.take kk))++(Ep (Ec b kk) u++Zp (ZA ((b.steps.take k).drop (kk+1))))
def Tu (b:Z7) (kk k:Nat):List AV:=if k<=kk then [] else Zp (YN (Ec b kk).kids)
theorem Pt {b:Z7} {kk:Nat} {u:Value}:V1 b kk u 0=[]:=by rw [V1,Ze (Ki _),List.take_zero,VJ];rfl
theorem Pw {b:Z7} {kk:Nat}:Tu b kk 0=[]:=Ze (Ki _)
theorem Le {b:Z7} {kk k:Nat} {u:Value} (h:k<=b.steps.length):(V1 b kk u k).length=k*5:=by
 rw [V1]
 split
 ·rw [QU,WH,VG h]
 ·rename_i q
  have e:(Ep (Ec b kk) u).length=5:=rfl
  rw [Yx,Yx,QU,QU,A7,WH,WH,e,VG h,VG om]
  omega
theorem Pr {b:Z7} {kk k:Nat} {u:Value} {s:Z5} (hs:b.steps[k]? = some s) (hk:¬k=kk):V1 b kk u k++Zp [YL s]=V1 b kk u (k+1):=by
 have hkl:=(Xi.1 hs).1
 by_cases q:k<=kk
 ·rw [V1,Ze q,V1,Ze om]
  exact On hs
 ·rw [V1,Z8 q,V1,Z8 om,TV,TV]
  congr 2
  rw [Vc hs,List.drop_append_of_le_length (by rw [WH];omega),V0,Qv]
  congr 1
  rw [VJ];rfl
theorem Pu {b:Z7} {kk k:Nat} (hk:¬k=kk):Tu b kk k=Tu b kk (k+1):=by
 by_cases q:k<=kk
 ·rw [Tu,Ze q,Tu,Ze om]
 ·rw [Tu,Z8 q,Tu,Z8 om]
theorem Ps {b:Z7} {kk:Nat} {u u2:Value} {s:Z5} (hs:b.steps[kk]? = some s):V1 b kk u kk++Ep s u2=V1 b kk u2 (kk+1):=by
 rw [V1,Ze (X5 _),V1,Z8 om,FY hs,Hu (by rw [WH];omega),VJ]
 show _=_++(Ep s u2++Zp [])
 rw [Z5s,A6]
theorem Pv {b:Z7} {kk:Nat} {s:Z5} (hs:b.steps[kk]? = some s):Zp (YN s.kids)=Tu b kk (kk+1):=by
 rw [Tu,Z8 om,FY hs]
theorem Sh {α:Type}:∀(A X:List α) (m:Nat) (y:α),(A++X).set (A.length+m) y=A++X.set m y
 | [],X,m,y=>by simp
 | a::r,X,m,y=>by
  have:=Sh r X m y
  rw [QI,YS,show r.length+1+m=(r.length+m)+1 by omega,List.set_cons_succ,this,QI]
theorem Z7t {α:Type} (A X:List α) (m:Nat):(A++X)[A.length+m]? = X[m]?:=by
 rw [CG om];congr 1;omega
section
variable {b:Z7} {kk:Nat} {u:Value} {s:Z5}
theorem Ld (hs:b.steps[kk]? = some s):V1 b kk u b.steps.length=Zp (ZA (b.steps.take kk))++(Ep s u++Zp (ZA (b.steps.drop (kk+1)))):=by
 have hk:=(Xi.1 hs).1
 rw [V1,Z8 om,FY hs,VF]
theorem Lc (hs:b.steps[kk]? = some s):(Zp (ZA (b.steps.take kk))).length=kk*5:=by
 have hk:=(Xi.1 hs).1
 rw [QU,WH,VG om]
theorem Za1 (hs:b.steps[kk]? = some s):(V1 b kk u b.steps.length)[kk*5+4]? = some (.val u):=by
 rw [Ld hs,<-Lc hs,Z7t];rfl
theorem Gn (hs:b.steps[kk]? = some s):((V1 b kk u b.steps.length).drop (kk*5+4)).take 1=[.val u]:=by
 rw [Ld hs,<-Lc hs,<-List.drop_drop,List.drop_left];rfl
theorem Z5r {xs:List Z5} {k:Nat} {t:Z5} (hk:k<xs.length):Zp (ZA (xs.set k t))=Zp (ZA (xs.take k))++(XC t++Zp (ZA (xs.drop (k+1)))):=by
 rw [F3,Ze hk,V0,Qv,FQ]
theorem Za2 (hs:b.steps[kk]? = some s) (ks:List Z7):(V1 b kk u b.steps.length).set (kk*5+4) (.sl (YN ks) none)=Zp (ZA (b.steps.set kk ⟨s.op,s.num,s.into,s.args,ks⟩)):=by
 have hk:=(Xi.1 hs).1
 rw [Ld hs,<-Lc hs,Sh,Z5r hk];rfl
theorem Lf (hs:b.steps[kk]? = some s):Tu b kk b.steps.length=Zp (YN s.kids):=by
 have hk:=(Xi.1 hs).1
 rw [Tu,Z8 om,FY hs]
theorem Za3 (hs:b.steps[kk]? = some s):b.steps.set kk ⟨s.op,s.num,s.into,s.args,s.kids⟩=b.steps:=by
 have e:Z5.mk s.op s.num s.into s.args s.kids=s:=by cases s;rfl
 rw [e]
 apply List.ext_getElem?
 intro i
 rw [List.getElem?_set]
 split
 ·rename_i q;subst q;rw [Ze (Xi.1 hs).1];exact hs.symm
 ·rfl
end
theorem U8.set:∀(ls:List AV) (p:Nat) {x y:AV},Zd x y->U8 (ls.set p x) (ls.set p y)
 | [],_,_,_,_=>.nil
 | a::r,0,_,_,h=>.cons h (U8.refl r)
 | a::r,p+1,_,_,h=>.cons (Zd.refl a) (U8.set r p h)
theorem U8.len:∀{xs ys:List AV},U8 xs ys->ys.length=xs.length
 | _,_,.nil=>rfl
 | _,_,.cons _ t=>by rw [YS,YS,t.len]
theorem Z5t (v:Value) (k:Nat) (ls ks:List AV):Res.fp (.row v k ks)=Res.fp (.row v k ls):=by
 cases v with
 | slice a _ _=>cases a<;>rfl
 | _=>rfl
theorem Zcu {w:World} {G:Ye} {v:Value} {k:Nat} {ls ls':List AV} {h2:List Res} (hle:U8 ls ls') (hh:Ys w G (.row v k ls::h2)):Ys w G (.row v k ls'::h2)/\YT w G (.row v k ls::h2) w G (.row v k ls'::h2):=by
 have hpw:=WU.1 hh.apart
 have hf:∀b o,Res.fp (.row v k ls') b o->Res.fp (.row v k ls) b o:=fun b o h=>by rw [Z5t v k ls ls'] at h;exact h
 refine ⟨⟨fun r hr=>?_,WU.2 ⟨fun r hr b o f1 f2=>hpw.1 r hr b o (hf b o f1) f2,hpw.2⟩,fun r hr b o f1 hg=>?_,hh.lt⟩,⟨rfl,rfl,rfl,X5 _,fun _ _ h=>h,fun _ _=>.inl rfl,fun _ _ _ h=>.inl h,fun b o _ ⟨r,hr,f1⟩=>?_⟩⟩
 ·rcases YF.1 hr with rfl|hr
  ·rcases hh.ok _ (Xl ..) with ⟨h0,h1⟩|⟨g,len,cap,cur,e,h0,h1,h3,h4,h5,h6⟩
   ·subst h1;cases hle;exact .inl ⟨h0,rfl⟩
   ·exact .inr ⟨g,len,cap,cur,e,h0,h1,h3,h4,by rw [hle.len];exact h5,hle.cs h6⟩
  ·exact hh.ok r (XE _ hr)
 ·rcases YF.1 hr with rfl|hr
  ·exact hh.prot _ (Xl ..) b o (hf b o f1) hg
  ·exact hh.prot r (XE _ hr) b o f1 hg
 ·rcases YF.1 hr with rfl|hr
  ·exact ⟨_,Xl ..,hf b o f1⟩
  ·exact ⟨r,XE _ hr,f1⟩
section
variable {h:List Res}
theorem Z06 (j i:Nat) (b:Z7) (kk:Nat) (s:Z5) (ks:List Z7) (u v:Value) (hs:b.steps[kk]? = some s) (hp:Wq [j,i] h=some [.row u 2 (Zp (YN ks)),.row v 5 (V1 b kk u b.steps.length)]:=by kernel_rfl) :
  TC h (.row v 5 (Zp (ZA (b.steps.set kk ⟨s.op,s.num,s.into,s.args,ks⟩)))::.tail u 2::XK [j,i] h):=by
 intro w G hh
 obtain ⟨G',a1,a2⟩:=Zg9 j i (kk*5+4) hp (TY ks) om (Za1 hs) w G hh
 obtain ⟨b1,b2⟩:=Zcu (U8.set _ (kk*5+4) (Zd.forget (YN ks) (some u))) a1
 rw [Za2 hs] at b1 b2
 exact ⟨G',b1,a2.trans b2⟩
theorem Mw (j i:Nat) (b:Z7) (kk:Nat) (s:Z5) (u v:Value) (hs:b.steps[kk]? = some s) (hp:Wq [j,i] h=some [.row u 2 (Tu b kk b.steps.length),.row v 5 (V1 b kk u b.steps.length)]:=by kernel_rfl) :
  TC h (.row v 5 (Zp (ZA b.steps))::.tail u 2::XK [j,i] h):=by
 have Yd:Wq [j,i] h=some [.row u 2 (Zp (YN s.kids)),.row v 5 (V1 b kk u b.steps.length)]:=by rw [hp,Lf hs]
 have:=Z06 j i b kk s s.kids u v hs Yd
 rwa [Za3 hs] at this
end
theorem Om {xs:List Z5} {k:Nat} (hk:k<xs.length):(Zp (ZA xs)).take (k*5)++(Zp (ZA xs)).drop ((k+1)*5)=Zp (ZA (xs.take k++xs.drop (k+1))):=by
 have h1:(Zp (ZA (xs.take k))).length=k*5:=by rw [QU,WH,VG om]
 have h2:(Zp (ZA (xs.take (k+1)))).length=(k+1)*5:=by rw [QU,WH,VG om]
 have e1:Zp (ZA xs)=Zp (ZA (xs.take k))++Zp (ZA (xs.drop k)):=by rw [<-Qv,<-V0,Uu]
 have e2:Zp (ZA xs)=Zp (ZA (xs.take (k+1)))++Zp (ZA (xs.drop (k+1))):=by rw [<-Qv,<-V0,Uu]
 rw [V0,Qv]
 congr 1
 ·rw [e1,<-h1,A8]
 ·conv=>lhs;rw [e2,<-h2,List.drop_left]
theorem Z5k {xs:List Z7} {i:Nat} {s:Z7} (h:xs[i]? = some s):((Zp (YN xs)).drop (i*2)).take 2=Xp s:=by
 have hi:=(Xi.1 h).1
 have h1:(Zp (YN (xs.take i))).length=i*2:=by rw [Eb,WH,VG om]
 have e1:Zp (YN xs)=Zp (YN (xs.take i))++Zp (YN (xs.drop i)):=by rw [<-Qv,<-Aq,Uu]
 rw [e1,<-h1,List.drop_left,Ya h,Tm,UE]
 rfl
section
variable {rs:List Yb} {k:Nat} {r:Yb}
theorem Ix (hk:k<rs.length) (r:Yb):Zp (YU (rs.set k r))=Zp (YU (rs.take k))++((Km r).leaves++Zp (YU (rs.drop (k+1)))):=by
 rw [F3,Ze hk,Cc,Qv];rfl
theorem Ol (hk:k<rs.length):(Zp (YU (rs.take k))).length=k*5:=by rw [FP,WH,VG om]
theorem Z5o (hk:k<rs.length) (r:Yb):((Zp (YU (rs.set k r))).drop (k*5+1)).take 1=[Z4 r.lent]:=by
 rw [Ix hk,<-Ol hk,<-List.drop_drop,List.drop_left];rfl
theorem Z5q (hk:k<rs.length) (r:Yb) (l:LI):(Zp (YU (rs.set k r))).take (k*5+1)++[Z4 l]++(Zp (YU (rs.set k r))).drop (k*5+1+1)=Zp (YU (rs.set k ⟨r.params,l,r.result,r.body⟩)):=by
 have hl:=Ol hk
 rw [Ix hk,Ix hk]
 have e:(Km r).leaves=[Z4 r.params]++([Z4 r.lent]++[.i r.result,.sl (ZA r.body.steps) none,.i r.body.result]):=rfl
 have e2:(Km ⟨r.params,l,r.result,r.body⟩).leaves=[Z4 r.params]++([Z4 l]++[.i r.result,.sl (ZA r.body.steps) none,.i r.body.result]):=rfl
 rw [e,e2]
 have q:=M0 (A:=Zp (YU (rs.take k))++[Z4 r.params]) (xs:=[Z4 r.lent]) (ys:=[Z4 l]) (B:=[.i r.result,.sl (ZA r.body.steps) none,.i r.body.result]++Zp (YU (rs.drop (k+1)))) (o:=k*5+1) (by rw [Yx,hl];rfl) rfl
 simpa [TV] using q
end
end Go.Abs
section
namespace Go.Abs
theorem US {rs fs:List Func} (hp:fs <+: rs) {i:Nat} {f:Func} (hx:fs[i]? = some f) (c:Nat) {zs:List AV} (hz:((Gp f).drop c).take zs.length=zs) (hl:c+zs.length<=5):((Zp (Xt rs)).drop (i*5+c)).take zs.length=zs:=by
 obtain ⟨ys,rfl⟩:=hp
 have h1:(fs++ys)[i]? = some f:=by rw [CF (Xi.1 hx).1];exact hx
 have e1:=(Uu i (fs++ys)).symm
 rw [Ya h1] at e1
 have hl2:(Zp (Xt ((fs++ys).take i))).length=i*5:=by
  rw [TS (k:=5) _ (FC _),D3,WH,VG (by have:=(Xi.1 h1).1;omega)]
 have e2:Zp (Xt (fs++ys))=Zp (Xt ((fs++ys).take i))++(Gp f++Zp (Xt ((fs++ys).drop (i+1)))):=by
  conv=>lhs;rw [e1]
  simp only [Xt,Zp,List.map_append,UE,List.flatMap_append,AY]
  rfl
 rw [e2,List.drop_append,List.drop_of_length_le om,CH,hl2,Nat.add_sub_cancel_left,List.drop_append_of_le_length (by show c<=5;omega),List.take_append_of_le_length (by rw [A7];show zs.length<=5-c;omega)]
 exact hz
theorem Iv (rs:List Func):(Zp (Xt rs)).length=rs.length*5:=by rw [TS (k:=5) _ (FC _),D3]
end Go.Abs
namespace Go.Abs
abbrev Wy (g:Wd) (gb:Nat):List AV:=[ZW g.decls,.ms gb 0 g.funcs.length 4]
abbrev XQ (gb:Nat) (rs:List Func):Res:=.row (.slice (some ⟨gb,0,none⟩) 4 4) 5 (Zp (Xt rs))
abbrev Yy (rd:Nat) (bs:LI) (p:Nat):Res:=.obj rd [VA bs,.i p]

end Go.Abs
end
namespace Go.Abs
theorem Zcw {w:World} {G:Ye} {g len cap k m:Nat} {ls:List AV} {h2:List Res} (hh:Ys w G (.row (.slice (some ⟨g,0,none⟩) len cap) k ls::h2)) (hle:m<=len) :
  Ys w G (.row (.slice (some ⟨g,0,none⟩) m cap) k (ls.take (m*k))::h2)/\YT w G (.row (.slice (some ⟨g,0,none⟩) len cap) k ls::h2) w G (.row (.slice (some ⟨g,0,none⟩) m cap) k (ls.take (m*k))::h2):=by
 have hpw:=WU.1 hh.apart
 have hfp:∀b o,Res.fp (.row (.slice (some ⟨g,0,none⟩) m cap) k (ls.take (m*k))) b o->Res.fp (.row (.slice (some ⟨g,0,none⟩) len cap) k ls) b o:=fun b o hf=>hf
 refine ⟨⟨fun r hr=>?_,WU.2 ⟨fun r hr b o h1 h2=>hpw.1 r hr b o (hfp b o h1) h2,hpw.2⟩,fun r hr b o hf hg=>?_,hh.lt⟩,⟨rfl,rfl,rfl,X5 _,fun _ _ h=>h,fun _ _=>.inl rfl,fun _ _ _ h=>.inl h,fun b o _ hf=>?_⟩⟩
 ·rcases YF.1 hr with rfl|hr
  ·rcases hh.ok _ (Xl ..) with ⟨h0,_⟩|⟨g',len',cap',cur,e,hv,h1,h3,h4,h5,h6⟩
   ·cases h0
   ·cases hv
    have hmk:m*k<=len*k:=QJ k hle
    refine .inr ⟨g,m,cap,cur,e,rfl,h1,by omega,h4,by rw [WH,h5];omega,?_⟩
    have:=h6.take (m*k)
    rw [List.take_take,VG hmk] at this
    exact this
  ·exact hh.ok r (XE _ hr)
 ·rcases YF.1 hr with rfl|hr
  ·exact hh.prot _ (Xl ..) b o (hfp b o hf) hg
  ·exact hh.prot r (XE _ hr) b o hf hg
 ·obtain ⟨r,hr,hf⟩:=hf
  rcases YF.1 hr with rfl|hr
  ·exact ⟨_,Xl ..,hfp b o hf⟩
  ·exact ⟨r,XE _ hr,hf⟩
theorem Z5n {rs:List Func} {k:Nat} (f:Func) (hk:k<rs.length):(Zp (Xt rs)).take (k*5)++Gp f++(Zp (Xt rs)).drop (k*5+5)=Zp (Xt (rs.set k f)):=by
 rw [show Xt (rs.set k f)=(Xt rs).set k (DP f) by simp [Xt,List.map_set]]
 exact FU (y:=DP f) (FC rs) rfl (by simpa using hk)
theorem WC.frzP {P:Program} {f:FuncId} {as1:List AV} {h0:List Res} {E:Type} {ds:E->List Zg} {rs:E->List Func} {m:E->Nat} {hs:E->List Res} {Q:E->Prop}
  (H:WC P f as1 h0 (fun r h=>∃(e:E) (gb:Nat),r=.agg [ZW (ds e),.ms gb 0 (m e) 4]/\h=.row (.slice (some ⟨gb,0,none⟩) 4 4) 5 (Zp (Xt (rs e)))::hs e/\Q e)) (hm:∀e,Q e->m e<=4/\(rs e).length=4) :
  WC P f as1 h0 (fun r h=>∃e:E,r=.agg [ZW (ds e),Gy ((rs e).take (m e))]/\h=hs e/\Q e):=by
 intro w G vs hv hh
 refine (H w G vs hv hh).mono ?_
 rintro e w' ⟨u,r,h',G',he,⟨x,gb,rfl,rfl,hq⟩,hr,hh',hx⟩
 obtain ⟨hm4,hr4⟩:=hm x hq
 obtain ⟨j1,j2⟩:=Zcw hh' hm4
 have hft:(Zp (Xt (rs x))).take (m x*5)=Zp (Xt ((rs x).take (m x))):=by
  have e1:rs x=(rs x).take (m x)++(rs x).drop (m x):=(Uu _ _).symm
  have e2:Zp (Xt (rs x))=Zp (Xt ((rs x).take (m x)))++Zp (Xt ((rs x).drop (m x))):=by
   conv=>lhs;rw [e1]
   rw [Z4z,Qv]
  rw [e2,List.take_append_of_le_length (by rw [Iv,WH,show min (m x) (rs x).length=m x by omega];exact X5 _),Vd (by rw [Iv,WH];exact QJ 5 (Nat.min_le_left _ _))]
 rw [hft] at j1 j2
 obtain ⟨G2,h1,h2,h3⟩:=Cx j1 (FC _) om
 have hA:U1 G' w' w' G2:=h2.agree j1
 refine ⟨u,_,hs x,G2,he,⟨x,rfl,rfl,hq⟩,?_,(h1.perm (List.perm_append_comm (l₁:=[_]))).left,((hx.trans j2).trans h2).sub' (BV _ _)⟩
 cases hr with
 | agg hc=>
  cases hc with
  | cons k1 t1=>
   cases t1 with
   | cons k2 t2=>
    cases t2
    have hv2:=k2.val_inv
    subst hv2
    refine .agg (.cons (k1.mono hA) (.cons ?_ .nil))
    have hw:Zd (.sl (Xt ((rs x).take (m x))) (some (.slice (some ⟨gb,0,none⟩) (m x) 4))) (Gy ((rs x).take (m x))):=Zd.forget _ _
    exact hw _ _ _ h3
open Go.Proofs
theorem Z75 (code:LI) (hl:code.length<=1048576:=by exact ob) (hc:∀z∈code,0<=z/\z<=255):Zl 52 [VA code] [] (fun r h=>∃(rd:Nat) (bs:LI),r=.p rd 0/\h=[.obj rd [VA bs,.i 0]]/\∀z∈bs,0<=z/\z<=255):=by
 refine ZF 11 Tryz.func52 (ZD (YC 1 (iw (Qf code) (Z0 (XR (fun fz gz F h=>F=sF [] fz [(0,VA (if (code.length:Int)>2000 then (code.take 2000) else code))]/\h=gz) ?_ ?_)))))
 ·refine W8 ((code.length:Int)>2000) (fun Za=>?_) (fun Za=>?_)
  ·exact az (Z1 1 (Zm (Ja (es:=TZ code) (hv:=none) (l:=0) (m:=2000) (sz:=1) (es':=TZ (code.take 2000)) kr om (by simp<;>omega) (by simp<;>omega) (Z4u _) (by first|(simp only [U7,VF,If,Ie];done)|(simp only [U7,VF,If,Ie];rfl)|(simp [If,Ie];done))) (Z0 (ZU ⟨rfl,rfl⟩ (wk [] (fc (x:=VA (code.take 2000)) (Zd.sl _ (Yr TZ (by first|rfl|(rw [Ze Za])|(rw [Z8 Za])|(simp [Za];done)|(rw [Xu];simp [Za];done)|omega))) fl))))))
  exact ak (ZU ⟨rfl,rfl⟩ (wk [] (fc (x:=VA code) (Zd.sl _ (Yr TZ (by first|rfl|(rw [Ze Za])|(rw [Z8 Za])|(simp [Za];done)|(rw [Xu];simp [Za];done)|omega))) fl)))
 rintro F h ⟨rfl,rfl⟩
 exact Y4 2 (iA [VA (if (code.length:Int)>2000 then (code.take 2000) else code),.i 0] fun b1=>Zo (r1 [0] ⟨b1,(if (code.length:Int)>2000 then (code.take 2000) else code),rfl,rfl,(by first|exact hc|exact fun z hz=>hc z (TO hz)|(split<;>first|exact hc|exact fun z hz=>hc z (TO hz)))⟩))
theorem W7 (rd:Nat) (bs:LI) (p:Nat) (mx:Int) (ZI:∀z∈bs,0<=z/\z<=255) (hp:p+1<=1000000000:=by exact ob):Zl 79 [.p rd 0,.i mx] [Yy rd bs p] (fun r h=>∃(k:Int),r=.i k/\h=[.obj rd [VA bs,.i (p+1:Nat)]]/\Pk mx k):=by
 refine ZF 99 Tryz.func79 (ZD (Zu 5 [0] (ZJ p (Z1 2 (ZH 0 rd [VA bs,.i (p+1:Nat)] (ie (X2 (Xj [0,1] [(24,.b ((decide (mx<1))||((bs.length:Int)==0)))] (fun gz=>gz) ?_ ?_))))))))
 ·refine Z1 3 (ib (b:=(decide (mx<1))) 17 (fun Zb=>?_) (fun Zb=>?_))
  ·exact Z0 (wk [0] (Zv true Zb fl))
  exact ZK 4 [0] (iw (Qf bs) (Z0 (wk [0] (Zv ((bs.length:Int)==0) Zb fl))))
 refine ac ((decide (mx<1))||((bs.length:Int)==0)) (p:=(mx<1)∨((bs.length:Int)=0)) (Yi dq Zq) (fun Za=>?_) (fun Za=>?_)
 ·exact ar (Zo (r1 [0] ⟨0,rfl,rfl,Pk.zero⟩))
 refine ak (Zu 4 [0] (ia ((p:Int)) ((((p+1:Nat):Int))-(1)) (Z0 (Yk 5 [0] (iw (Qf bs) (Y2 ((p:Int)<(bs.length:Int)) (fun Zf=>?_) (fun Zf=>?_)))))))
 ·refine Zu 5 [0] ?_
  obtain ⟨x1,Z3⟩:=Zt bs p om
  have hz:=ZI _ (ZY Z3)
  exact Zm (Zh none (p:Int) 1 (CW Z3)) (Z1 1 (Zm (Dl x1 om) (Z1 1 (Zm (En x1 mx om om) (Zo (r1 [0] ⟨(x1 % mx),rfl,rfl,(Pk.rem om om)⟩))))))
 have hq1:p / bs.length<=p:=Nat.div_le_self _ _
 have hq0:(0:Int)<=((p / bs.length:Nat):Int):=Int.natCast_nonneg _
 refine ak (aD 46 (ZL 37 46 [0,1,2,3,4,5,6,7,8] [0,0] (dw 9 (Qf bs) (dx 10 (Gl p bs.length om om) ?_))))
 obtain ⟨x2,Zs⟩:=Zt bs (p % bs.length) (Nat.mod_lt _ om)
 have hz:=ZI _ (ZY Zs)
 refine dx 11 (Zh none ((p % bs.length:Nat):Int) 1 (CW Zs)) (Zk 33 34 [12] (dx 13 (Dl x2 om) (da 14 ((x2*131)) ((x2)*(131)) (ZL 26 31 [15,16,17,18,19] [0] (da 20 (((p*7:Nat):Int)) (((p:Int))*(7)) (da 21 (((p*7+3:Nat):Int)) ((((p*7:Nat):Int))+(3)) (ZL 20 24 [22,23,24,25] [0] (dw 26 (Qf bs) (dx 27 (Gl (p*7+3) bs.length om om) ?_)))))))))
 obtain ⟨x3,YJ⟩:=Zt bs ((p*7+3) % bs.length) (Nat.mod_lt _ om)
 have hz3:=ZI _ (ZY YJ)
 exact dx 28 (Zh none (((p*7+3) % bs.length:Nat):Int) 1 (CW YJ)) (Zk 16 17 [29] (dx 30 (Dl x3 om) (da 31 ((x3*1117)) ((x3)*(1117)) (da 32 (((x2*131)+(x3*1117))) (((x2*131))+((x3*1117))) (Zk 12 13 [33] (da 34 (((p*29:Nat):Int)) (((p:Int))*(29)) (da 35 ((((x2*131)+(x3*1117))+((p*29:Nat):Int))) ((((x2*131)+(x3*1117)))+(((p*29:Nat):Int))) (ZL 5 10 [36,37,38,39,40] [0] (dw 41 (Qf bs) (dx 42 (Cp p bs.length om om) (da 43 ((((p / bs.length:Nat):Int)*53)) ((((p / bs.length:Nat):Int))*(53)) (da 44 (((((x2*131)+(x3*1117))+((p*29:Nat):Int))+(((p / bs.length:Nat):Int)*53))) (((((x2*131)+(x3*1117))+((p*29:Nat):Int)))+((((p / bs.length:Nat):Int)*53))) (Zk 0 1 [45] (de (Y4 2 (Zm (Lb ((((x2*131)+(x3*1117))+((p*29:Nat):Int))+(((p / bs.length:Nat):Int)*53)) 64 om om) (Zm (Pq ((((x2*131)+(x3*1117))+((p*29:Nat):Int))+(((p / bs.length:Nat):Int)*53)) (((((x2*131)+(x3*1117))+((p*29:Nat):Int))+(((p / bs.length:Nat):Int)*53)) / 64)) (Z0 (Y4 2 (Zm (En (AX ((((x2*131)+(x3*1117))+((p*29:Nat):Int))+(((p / bs.length:Nat):Int)*53)) (((((x2*131)+(x3*1117))+((p*29:Nat):Int))+(((p / bs.length:Nat):Int)*53)) / 64)) mx om (Hq ⟨by omega,by omega⟩ ⟨by omega,by omega⟩).1) (Zo (r1 [0] ⟨((AX ((((x2*131)+(x3*1117))+((p*29:Nat):Int))+(((p / bs.length:Nat):Int)*53)) (((((x2*131)+(x3*1117))+((p*29:Nat):Int))+(((p / bs.length:Nat):Int)*53)) / 64)) % mx),rfl,rfl,(Pk.rem (Hq ⟨by omega,by omega⟩ ⟨by omega,by omega⟩).1 om)⟩))))))))))))))))))))))
theorem VV (rd:Nat) (bs:LI) (p:Nat) (xs:LI) (ZI:∀z∈bs,0<=z/\z<=255) (hp:p+1<=1000000000:=by exact ob) (hx:0<xs.length/\xs.length<=1000000:=by exact ob):Zl 62 [.p rd 0,Z4 xs] [Yy rd bs p] (fun r h=>∃(z:Int),r=.i z/\h=[.obj rd [VA bs,.i (p+1:Nat)]]/\z∈xs):=by
 refine ZF 12 Tryz.func62 (ZD (Y4 3 (iw (Y6 xs) (ic [0] (W7 rd bs p (xs.length:Int) (ZI:=ob)) ?_))))
 rintro _ _ ⟨k1,rfl,rfl,ZT⟩
 have hk:=ZT.lt om
 obtain ⟨x1,Z3⟩:=Zt xs k1.toNat om
 exact Zm (Zh none k1 1 (Y0 Z3)) (Zo (r1 [0] ⟨x1,rfl,rfl,(ZY Z3)⟩))
theorem Qh (fs:LI) :Zl 144 [Z4 fs] [] (Yq (DO (Yn.mk fs))):=by
 exact ZF 5 Tryz.func144 (ar (iA [nl] fun b1=>ie (Y4 2 (ZH 0 b1 [Z4 fs] (ie (ZG (r3 [] [.agg [Z4 fs]] [0] [(b1,b1)] ⟨rfl,rfl⟩ (Zd.agg (.cons (Zd.sl _ (Yr Z6 ob)) .nil)))))))))
theorem OD (rd:Nat) (bs:LI) (p:Nat) (ZI:∀z∈bs,0<=z/\z<=255) (hp:p+1<=1000000000:=by exact ob):Zl 143 [.p rd 0] [Yy rd bs p] (fun r h=>∃(ds:List Zg) (v:Hd),r=.h v/\h=[rK v 3 (Zp (X7 ds)),.obj rd [VA bs,.i (p+1:Nat)]]/\GD ds):=by
 refine ZF 51 Tryz.func143 (ZD (ar (iL (Z6 []) 0 1 fun v1=>ZO 0 [(8,Z4 [])] (Zw [] (Qh []) (iL (Z6 [0,1]) 2 1 fun v2=>ZO 0 [(10,Z4 [0,1])] (Zw [] (Qh [0,1]) (iL (WZ [Yn.mk [],Yn.mk [0,1]]) 2 1 fun v3=>Z1 1 (iA [.i 0,.i 0,nl] fun b1=>ZH 0 b1 [.i 0,.i 0,GC [Yn.mk [],Yn.mk [0,1]] v3] (ie (ar (iL (Z6 []) 0 1 fun v4=>ZO 0 [(14,Z4 [])] (Zw [] (Qh []) (iL (Z6 [3,0,3]) 3 1 fun v5=>ZO 0 [(16,Z4 [3,0,3])] (Zw [] (Qh [3,0,3]) (iL (WZ [Yn.mk [],Yn.mk [3,0,3]]) 2 1 fun v6=>Z1 1 (iA [.i 0,.i 0,nl] fun b2=>ZH 0 b2 [.i 0,.i 0,GC [Yn.mk [],Yn.mk [3,0,3]] v6] (ie (ar (iL (Z6 [1,3]) 2 1 fun v7=>ZO 0 [(20,Z4 [1,3])] (Zw [] (Qh [1,3]) (iL (WZ [Yn.mk [1,3]]) 1 1 fun v8=>Z1 2 (iL (Z6 [1,1,0]) 3 1 fun v9=>ZO 0 [(25,Z4 [1,1,0])] (Zw [] (Qh [1,1,0]) (iL (Z6 [0]) 1 1 fun v10=>ZO 0 [(27,Z4 [0])] (Zw [] (Qh [0]) (iL (Z6 [3]) 1 1 fun v11=>ZO 0 [(29,Z4 [3])] (Zw [] (Qh [3]) (iL (WZ [Yn.mk [1,1,0],Yn.mk [0],Yn.mk [3]]) 3 1 fun v12=>ZO 2 [(23,.agg [.i 0,.i 0,J5 [Yn.mk [1,3]]]),(24,.agg [.i 1,.i 0,.sl [] none]),(32,.agg [.i 0,.i 0,J5 [Yn.mk [1,1,0],Yn.mk [0],Yn.mk [3]]]),(33,.agg [.i 0,.i 1,.sl [] none])] (iL (X7 [Zg.mk 0 0 [Yn.mk [1,3]],Zg.mk 1 0 [],Zg.mk 0 0 [Yn.mk [1,1,0],Yn.mk [0],Yn.mk [3]],Zg.mk 0 1 []]) 4 3 fun v13=>Z0 (ar (QC 3 [(35,.agg [.i 0,.i 0,J5 [Yn.mk [],Yn.mk [0,1]]]),(36,.agg [.i 0,.i 0,.sl [] none]),(37,.agg [.i 0,.i 0,J5 [Yn.mk [],Yn.mk [3,0,3]]])] [11,7] (iKN (Zp (X7 [Zg.mk 0 0 [Yn.mk [],Yn.mk [0,1]],Zg.mk 0 0 [],Zg.mk 0 0 [Yn.mk [],Yn.mk [3,0,3]]])) 3 3 fun g1=>Z0 (Y4 1 (ic [16] (W7 rd bs p 5 (ZI:=ob)) ?_))))))))))))))))))))))))))))))))))
 rintro _ _ ⟨k1,rfl,rfl,ZT⟩
 have hk:=ZT.lt om
 refine Z0 (X2 (Y2 (k1<4) (fun Za=>?_) (fun Za=>?_)))
 ·refine az (Z1 3 ?_)
  obtain ⟨x1,Z3⟩:=Zt [Zg.mk 0 0 [Yn.mk [1,3]],Zg.mk 1 0 [],Zg.mk 0 0 [Yn.mk [1,1,0],Yn.mk [0],Yn.mk [3]],Zg.mk 0 1 []] k1.toNat (by show k1.toNat<4;omega)
  exact Zm (Zh (some v13) k1 3 (VT Z3)) (Z1 1 (iL (X7 [x1]) 1 3 fun v14=>ZO 0 [(48,ZW [x1])] (Gc 2 3 (⟨some ⟨g1,0,none⟩,3,3⟩:Hd) 3 (Zp (X7 [Zg.mk 0 0 [Yn.mk [],Yn.mk [0,1]],Zg.mk 0 0 [],Zg.mk 0 0 [Yn.mk [],Yn.mk [3,0,3]]])) (X7 [x1]) none rfl (Jr _) (FA _) (by simp [X7]) (by simp<;>omega) fun v15=>Z0 (ar (Zo (r1 [0,1] ⟨([Ao,Zg.mk 0 0 [],Ap]++[x1]),v15,rfl,rfl,(GD.four Z3)⟩ (eq:=(rr (ls:=Zp (X7 [Zg.mk 0 0 [Yn.mk [],Yn.mk [0,1]],Zg.mk 0 0 [],Zg.mk 0 0 [Yn.mk [],Yn.mk [3,0,3]]])++Zp (X7 [x1])) (Iu _ _) (rc rz)))))))))
 exact ak (ar (Zo (r1 [1,0] ⟨[Ao,Zg.mk 0 0 [],Ap],(⟨some ⟨g1,0,none⟩,3,3⟩:Hd),rfl,rfl,GD.three⟩ (eq:=(rr (ls:=Zp (X7 [Zg.mk 0 0 [Yn.mk [],Yn.mk [0,1]],Zg.mk 0 0 [],Zg.mk 0 0 [Yn.mk [],Yn.mk [3,0,3]]])) rfl (rc rz))))))
theorem Z6m (rd:Nat) (bs:LI) (p:Nat) (ZI:∀z∈bs,0<=z/\z<=255) (hp:p+1<=1000000000:=by exact ob):Zl 143 [.p rd 0] [Yy rd bs p] (fun r h=>∃(ds:List Zg) (v:Value),r=JX ds v/\h=[.tail v 3,.obj rd [VA bs,.i (p+1:Nat)]]/\GD ds):=(OD rd bs p ZI hp).frz (es:=X7) (hs:=fun _=>[.obj rd [VA bs,.i (p+1:Nat)]]) Jr om
theorem Z5x (rd:Nat) (bs:LI) (p:Nat) (ZI:∀z∈bs,0<=z/\z<=255) (hp:p+5<=1000000000:=by exact ob):Zl 113 [.p rd 0] [Yy rd bs p] (fun r h=>∃(dz:List Zg) (p2:Nat),r=ZW dz/\h=[Yy rd bs p2]/\AD dz/\p<=p2/\p2<=p+5):=by
 refine ZF 89 Tryz.func113 (ZD (Y4 1 (ic [0] (OD rd bs p (ZI:=ob)) ?_)))
 rintro _ _ ⟨ds1,v1,rfl,rfl,ZT⟩
 have hgl:=ZT.len
 have hga:=ZT.ad
 refine Ga 0 ds1.length (v:=v1) (Cg _) om (fun g1 c1 he1=>?_)
 subst he1
 refine Z0 (Y4 2 (io (.i ds1.length) (.i ds1.length) (lr _) (ic [1] (W7 rd bs (p+1) (ds1.length:Int) (ZI:=ob)) ?_)))
 rintro _ _ ⟨k1,rfl,rfl,Yd⟩
 have qhp2:=Yd.lt om
 refine Z0 (YC 1 (ic [0] (W7 rd bs ((p+1)+1) 14 (ZI:=ob)) ?_))
 rintro _ _ ⟨k2,rfl,rfl,YE⟩
 have qhp3:=YE.lt om
 refine ie (ab 0 (ZD (JM (fun fz gz F h=>∃(dq:List Zg) (vq:Hd) (pq:Nat),(AD dq)/\(p<=pq/\pq<=p+5)/\F=sF [] fz [(3,.h vq)]/\h=[Yy rd bs pq,rK vq 3 (Zp (X7 dq))]) (fun _ _=>rfl) ?_ ?_)))
 ·refine ac (k2==0) Zq (fun Za=>?_) (fun Za=>?_)
  ·refine az (Z1 3 (iL (Z6 [-1,5,0,2]) 4 1 fun v2=>ZO 0 [(18,Z4 [-1,5,0,2])] (ic [1] (VV rd bs (((p+1)+1)+1) [-1,5,0,2] (ZI:=ob)) ?_)))
   rintro _ _ ⟨z1,rfl,rfl,YI⟩
   refine Z1 1 (iL (Z6 [0,1,5]) 3 1 fun v3=>ZO 0 [(21,Z4 [0,1,5])] (ic [1] (VV rd bs ((((p+1)+1)+1)+1) [0,1,5] (ZI:=ob)) ?_))
   rintro _ _ ⟨z2,rfl,rfl,X9⟩
   exact Z1 1 (Zm (Ws g1 ds1.length c1 k1.toNat 3 k1) (ZO 0 [(23,.agg [.i z1,.i z2,.sl [] none])] (Ej 3 g1 ds1.length c1 3 (k1.toNat * 3) [.i z1,.i z2,.sl [] none] (Zp (X7 ds1)) (Zp (X7 (ds1.set k1.toNat (Zg.mk z1 z2 [])))) (by rw [Cg];simp only [YS,Xv];omega) (FM (Zg.mk z1 z2 []) om) (ie (ZU ⟨(ds1.set k1.toNat (Zg.mk z1 z2 [])),(⟨some ⟨g1,0,none⟩,ds1.length,c1⟩:Hd),((((p+1)+1)+1)+1)+1,(hga.set _ (by simp)),ob,rfl,rfl⟩ (wk [1,0] fl))))))
  refine ar (YD (k2==1) Zq (fun Zf=>?_) (fun Zf=>?_))
  ·refine az (Z1 3 (iL (Z6 [-1,0,4,5]) 4 1 fun v4=>ZO 0 [(30,Z4 [-1,0,4,5])] (ic [1] (VV rd bs (((p+1)+1)+1) [-1,0,4,5] (ZI:=ob)) ?_)))
   rintro _ _ ⟨z3,rfl,rfl,XG⟩
   exact iL (Z6 [z3]) 1 1 fun v5=>ZO 0 [(32,Z4 [z3])] (Zw [] (Qh [z3]) (iL (Z6 [0,0,0,0]) 4 1 fun v6=>ZO 0 [(34,Z4 [0,0,0,0])] (Zw [] (Qh [0,0,0,0]) (iL (Z6 []) 0 1 fun v7=>ZO 0 [(36,Z4 [])] (Zw [] (Qh []) (iL (WZ [Yn.mk [z3],Yn.mk [0,0,0,0],Yn.mk []]) 3 1 fun v8=>Z1 1 (Zm (Ws g1 ds1.length c1 k1.toNat 3 k1) (ZO 0 [(39,.agg [.i 0,.i 0,J5 [Yn.mk [z3],Yn.mk [0,0,0,0],Yn.mk []]])] (Ej 6 g1 ds1.length c1 3 (k1.toNat * 3) [.i 0,.i 0,J5 [Yn.mk [z3],Yn.mk [0,0,0,0],Yn.mk []]] (Zp (X7 ds1)) (Zp (X7 (ds1.set k1.toNat (Zg.mk 0 0 [Yn.mk [z3],Yn.mk [0,0,0,0],Yn.mk []])))) (by rw [Cg];simp only [YS,Xv];omega) (FM (Zg.mk 0 0 [Yn.mk [z3],Yn.mk [0,0,0,0],Yn.mk []]) om) (ie (ZU ⟨(ds1.set k1.toNat (Zg.mk 0 0 [Yn.mk [z3],Yn.mk [0,0,0,0],Yn.mk []])),(⟨some ⟨g1,0,none⟩,ds1.length,c1⟩:Hd),(((p+1)+1)+1)+1,(hga.set _ (by simp)),ob,rfl,rfl⟩ (wk [5,0] fl))))))))))))
  refine ar (YD (k2==2) Zq (fun ZB=>?_) (fun ZB=>?_))
  ·exact az (Z1 3 (ia ((k1+1)) ((k1)+(1)) (iL (Z6 [k1+1]) 1 1 fun v9=>ZO 0 [(47,Z4 [k1+1])] (Zw [] (Qh [k1+1]) (iL (WZ [Yn.mk [k1+1]]) 1 1 fun v10=>Z1 1 (Zm (Ws g1 ds1.length c1 k1.toNat 3 k1) (ZO 0 [(50,.agg [.i 0,.i 0,J5 [Yn.mk [k1+1]]])] (Ej 3 g1 ds1.length c1 3 (k1.toNat * 3) [.i 0,.i 0,J5 [Yn.mk [k1+1]]] (Zp (X7 ds1)) (Zp (X7 (ds1.set k1.toNat (Zg.mk 0 0 [Yn.mk [(k1+1)]])))) (by rw [Cg];simp only [YS,Xv];omega) (FM (Zg.mk 0 0 [Yn.mk [(k1+1)]]) om) (ie (ZU ⟨(ds1.set k1.toNat (Zg.mk 0 0 [Yn.mk [(k1+1)]])),(⟨some ⟨g1,0,none⟩,ds1.length,c1⟩:Hd),((p+1)+1)+1,(hga.set _ (by simp)),ob,rfl,rfl⟩ (wk [3,0] fl)))))))))))
  refine ar (YD (k2==3) Zq (fun ZV=>?_) (fun ZV=>?_))
  ·refine az (Z1 2 (iL (Z6 [0,2,1]) 3 1 fun v11=>ZO 0 [(56,Z4 [0,2,1])] (ic [1] (VV rd bs (((p+1)+1)+1) [0,2,1] (ZI:=ob)) ?_)))
   rintro _ _ ⟨z4,rfl,rfl,XY⟩
   exact ZO 1 [(58,.agg [.i 2,.i z4,.sl [] none])] (iL (X7 [Zg.mk 2 z4 []]) 1 3 fun v12=>ZO 0 [(59,ZW [Zg.mk 2 z4 []])] (Gc 3 ds1.length (⟨some ⟨g1,0,none⟩,ds1.length,c1⟩:Hd) 3 (Zp (X7 ds1)) (X7 [Zg.mk 2 z4 []]) none (Cg _) (Jr _) (FA _) (by simp [X7]) (by simp<;>omega) fun v13=>Z0 (ZU ⟨(ds1++[Zg.mk 2 z4 []]),v13,(((p+1)+1)+1)+1,(hga.app (by simp;omega) (by simp)),ob,rfl,rfl⟩ (wk [2,0] fl (e:=(rc (rr (ls:=Zp (X7 ds1)++Zp (X7 [Zg.mk 2 z4 []])) (Iu _ _) rz)))))))
  refine ar (YD (k2==4) Zq (fun Xd=>?_) (fun Xd=>?_))
  ·refine az (Z1 3 (ic [0] (W7 rd bs (((p+1)+1)+1) 2 (ZI:=ob)) ?_))
   rintro _ _ ⟨k3,rfl,rfl,WQ⟩
   have qhp8:=WQ.lt om
   refine iL (Z6 []) 0 1 fun v14=>ZO 0 [(67,Z4 [])] (Zw [] (Qh []) (iL (Z6 [2]) 1 1 fun v15=>ZO 0 [(69,Z4 [2])] (Zw [] (Qh [2]) (iL (Z6 []) 0 1 fun v16=>ZO 0 [(71,Z4 [])] (Zw [] (Qh []) (iL (Z6 []) 0 1 fun v17=>ZO 0 [(73,Z4 [])] (Zw [] (Qh []) (iL (WZ [Yn.mk [],Yn.mk [2],Yn.mk [],Yn.mk []]) 4 1 fun v18=>Z1 1 (ic [5] (W7 rd bs ((((p+1)+1)+1)+1) 3 (ZI:=ob)) ?_)))))))))
   rintro _ _ ⟨k4,rfl,rfl,V8⟩
   have qhp9:=V8.lt om
   exact Zm (Ja (es:=WZ [Yn.mk [],Yn.mk [2],Yn.mk [],Yn.mk []]) (hv:=some v18) (l:=k4) (m:=(((WZ [Yn.mk [],Yn.mk [2],Yn.mk [],Yn.mk []]).length:Nat):Int)) (sz:=1) (es':=WZ ([Yn.mk [],Yn.mk [2],Yn.mk [],Yn.mk []].drop k4.toNat)) kr om (by simp<;>omega) (by simp<;>omega) (Ih _) (by first|(simp only [U7,VF,Ii,Ig];done)|(simp only [U7,VF,Ii,Ig];rfl)|(simp [Ii,Ig];done))) (Z1 1 (Zm (Ws g1 ds1.length c1 k1.toNat 3 k1) (Ej 6 g1 ds1.length c1 3 (k1.toNat * 3) [.i k3,.i 0,J5 ([Yn.mk [],Yn.mk [2],Yn.mk [],Yn.mk []].drop k4.toNat)] (Zp (X7 ds1)) (Zp (X7 (ds1.set k1.toNat (Zg.mk k3 0 ([Yn.mk [],Yn.mk [2],Yn.mk [],Yn.mk []].drop k4.toNat))))) (by rw [Cg];simp only [YS,Xv];omega) (FM (Zg.mk k3 0 ([Yn.mk [],Yn.mk [2],Yn.mk [],Yn.mk []].drop k4.toNat)) om) (ie (ZU ⟨(ds1.set k1.toNat (Zg.mk k3 0 ([Yn.mk [],Yn.mk [2],Yn.mk [],Yn.mk []].drop k4.toNat))),(⟨some ⟨g1,0,none⟩,ds1.length,c1⟩:Hd),((((p+1)+1)+1)+1)+1,(hga.set _ ⟨by simp,fun c hc=>(by decide:∀c∈[Yn.mk [],Yn.mk [2],Yn.mk [],Yn.mk []],c.fields.length<=4) c (List.mem_of_mem_drop hc)⟩),ob,rfl,rfl⟩ (wk [1,0] fl))))))
  refine ar (YD (k2==5) Zq (fun Xe=>?_) (fun Xe=>?_))
  ·exact az (ZO 3 [(84,.agg [.i 0,.i 0,.sl [] none]),(85,.agg [.i 3,.i 0,.sl [] none])] (iL (X7 [Zg.mk 0 0 [],Zg.mk 3 0 []]) 2 3 fun v19=>ZO 0 [(86,ZW [Zg.mk 0 0 [],Zg.mk 3 0 []])] (Gc 2 ds1.length (⟨some ⟨g1,0,none⟩,ds1.length,c1⟩:Hd) 3 (Zp (X7 ds1)) (X7 [Zg.mk 0 0 [],Zg.mk 3 0 []]) none (Cg _) (Jr _) (FA _) (by simp [X7]) (by simp<;>omega) fun v20=>Z0 (ZU ⟨(ds1++[Zg.mk 0 0 [],Zg.mk 3 0 []]),v20,((p+1)+1)+1,(hga.app (by simp;omega) (by simp)),ob,rfl,rfl⟩ (wk [2,0] fl (e:=(rc (rr (ls:=Zp (X7 ds1)++Zp (X7 [Zg.mk 0 0 [],Zg.mk 3 0 []])) (Iu _ _) rz))))))))
  exact ak (ZU ⟨ds1,(⟨some ⟨g1,0,none⟩,ds1.length,c1⟩:Hd),((p+1)+1)+1,hga,ob,rfl,rfl⟩ (wk [0,0] fl))
 rintro F h ⟨dq,vq,pq,J2,L8,rfl,rfl⟩
 exact ZD (Z9t 2 1 (v:=vq) (X7 dq) (Jr _) (ZG (r2 [1] [JX dq vq.v] ⟨dq,pq,rfl,rfl,⟨J2,L8⟩⟩ (Zd.forget _ _))))
theorem Zey (ds:List Zg) (n:Nat) (hz:Ac ds:=by exact ob) (hn:n<ds.length:=by exact ob):Zl 268 [ZW ds,.i n] [] (Yq (.b (Cb ds n))):=by
 have hl_ds:ds.length<=4294967296:=by have:=hz.len;omega
 refine ZF 100 Tryz.func268 (ZD (Y4 2 ?_))
 obtain ⟨x1,Z3⟩:=Zt ds n om
 have hdo:=E1 Z3
 have hz1:=hz.cons_at Z3
 refine Zm (Zh none (n:Int) 3 (VT Z3)) (Z1 1 (iA [.i 0,.i 0,nl] fun b1=>ZH 0 b1 (K3 x1) (ie (Yk 2 [0] (iw (T8 x1.cons) (Y2 ((x1.cons.length:Int)>0) (fun Za=>?_) (fun Za=>?_)))))))
 ·refine Yk 2 [0] (iw (T8 x1.cons) (Xz 9 [0,5] [(24,.b ((decide ((x1.cons.length:Int)>3))||(x1.frm != 0)))] (fun gz=>gz) ?_ (fun hj1=>?_)))
  ·refine Xj [0,5] [(29,.b (((decide ((x1.cons.length:Int)>3))||(x1.frm != 0))||(x1.to_ != 0)))] (fun gz=>gz) ?_ ?_
   ·refine Z1 1 (ib (b:=((decide ((x1.cons.length:Int)>3))||(x1.frm != 0))) 25 (fun Zb=>?_) (fun Zb=>?_))
    ·have ZT:((x1.cons.length:Int)>3)∨(x1.frm≠0):=((Yi dq Ym)).1 Zb
     exact Z0 (wk [0] (Zv true Zb fl))
    have Yd:¬(((x1.cons.length:Int)>3)∨(x1.frm≠0)):=Y7 (Yi dq Ym) Zb
    exact VD [0] (wk [0] (Zv (x1.to_ != 0) Zb fl))
   refine ac (((decide ((x1.cons.length:Int)>3))||(x1.frm != 0))||(x1.to_ != 0)) (p:=(((x1.cons.length:Int)>3)∨(x1.frm≠0))∨(x1.to_≠0)) (Yi (Yi dq Ym) Ym) (fun Zf=>?_) (fun Zf=>?_)
   ·exact ar (Zo (ZZ (.b false) (lb (by clear Z3;first|rfl|omega|grind [UR]))))
   refine ak (Yc (ab 0 (Y5 (fun fz gz m F h=>∃(k:Nat),(k<=x1.cons.length)/\(TQ ds.length (x1.cons.drop k)=TQ ds.length x1.cons)/\F=sF [0,5] fz [(6,.i k)]/\h=gz/\m=x1.cons.length-k) _ _ _ ⟨0,ob,ob,rfl,rfl,rfl⟩ (wk [0] (Yf fl)) ?_)))
   rintro m F h ⟨k,Yh,Zj,rfl,rfl,rfl⟩
   refine Yk 3 [0] (iw (T8 x1.cons) (Y2 ((k:Int)<(x1.cons.length:Int)) (fun ZB=>?_) (fun ZB=>?_)))
   ·refine ak (aq (ab 1 (Zu 3 [0] ?_)))
    obtain ⟨x2,Zs⟩:=Zt x1.cons k om
    refine Zm (Zh none (k:Int) 1 (CX Zs)) (Z1 2 (iw (Y6 x2.fields) (Xj [0,5,6] [(55,.b ((decide ((x2.fields.length:Int)>3))||(!Wm ds.length x2.fields)))] (fun gz=>gz) ?_ ?_)))
    ·refine Z1 2 (ib (b:=(decide ((x2.fields.length:Int)>3))) 45 (fun Zx=>?_) (fun Zx=>?_))
     ·have YE:(x2.fields.length:Int)>3:=(dq).1 Zx
      exact Z0 (wk [0] (Zv true Zx fl))
     have YI:¬((x2.fields.length:Int)>3):=Y7 dq Zx
     exact ZK 4 [0] (Zm (Zh none (k:Int) 1 (CX Zs)) (Z1 2 (Zw [] (Su ds x2.fields) (Z0 (wk [0] (Zv (!Wm ds.length x2.fields) Zx fl))))))
    refine ac ((decide ((x2.fields.length:Int)>3))||(!Wm ds.length x2.fields)) (p:=((x2.fields.length:Int)>3)∨(¬(Wm ds.length x2.fields=true))) (Yi dq (Yj Iff.rfl)) (fun ZV=>?_) (fun ZV=>?_)
    ·refine ZD ?_
     rw [Ya Zs] at Zj
     exact ZG (ZZ (.b false) (lb (by clear Z3 Zs;first|rfl|omega|grind [TQ,Jp,UR])))
    refine ak (az (Z1 1 (ZJ k (Z0 ?_))))
    have hdr:=Ya Zs
    exact ZM ⟨k+1,ob,(by rw [hdr] at Zj;clear hdr Z3 Zs;grind [TQ,Jp]),rfl,rfl,rfl⟩ (wk [0] (ZP k fl))
   refine ax 0 (ZD ?_)
   try rw [Xn (xs:=x1.cons) (k:=k) om] at Zj
   exact ZG (ZZ (.b true) (lb (by clear Z3;first|rfl|omega|grind [TQ,Jp,UR])))
  refine Z1 2 (ib (b:=(decide ((x1.cons.length:Int)>3))) 20 (fun Yl=>?_) (fun Yl=>?_))
  ·have X9:(x1.cons.length:Int)>3:=(dq).1 Yl
   exact Z1 4 (Yp (wk [0] (Zv true Yl fl)) hj1)
  have XG:¬((x1.cons.length:Int)>3):=Y7 dq Yl
  exact ZK 4 [0] (Yp (wk [0] (Zv (x1.frm != 0) Yl fl)) hj1)
 refine ak (Yc (ab 2 (Y5 (fun fz gz m F h=>∃(j:Nat),(j<=n)/\(QS x1 ((ds.take n).drop j)=QS x1 (ds.take n))/\F=sF [0,1,5] fz [(7,.i j)]/\h=gz/\m=n-j) _ _ _ ⟨0,ob,ob,rfl,rfl,rfl⟩ (wk [0] (Yf fl)) ?_)))
 rintro m F h ⟨j,UF,W4,rfl,rfl,rfl⟩
 refine X2 (Y2 ((j:Int)<(n:Int)) (fun Xd=>?_) (fun Xd=>?_))
 ·refine ak (aq (ab 3 (aD 27 (Zk 25 27 [0,1] ?_))))
  obtain ⟨x3,YJ⟩:=Zt ds j om
  refine dx 2 (Zh none (j:Int) 3 (VT YJ)) (Zk 22 24 [3,4] (dw 5 (T8 x3.cons) (An [0,1,5,7] [(87,.b (((x3.cons.length:Int)==0)&&((x3.frm==x1.frm)&&(x3.to_==x1.to_))))] (fun gz=>gz) ?_ ?_)))
  ·refine Zk 19 21 [6,7] (db (b:=((x3.cons.length:Int)==0)) 68 (fun Xk=>?_) (fun Xk=>?_))
   ·have XY:(x3.cons.length:Int)=0:=(Zq).1 Xk
    refine Zk 17 19 [8,9] (dx 10 (Zh none (j:Int) 3 (VT YJ)) (ZL 9 16 [11,12,13,14,15,16,17] [0] (db (b:=(x3.frm==x1.frm)) 78 (fun Wi=>?_) (fun Wi=>?_))))
    ·have WQ:x3.frm=x1.frm:=(Zq).1 Wi
     exact Zk 7 9 [18,19] (dx 20 (Zh none (j:Int) 3 (VT YJ)) (ZL 0 6 [21,22,23,24,25,26] [0] (de (wk [0] (Zv (x3.to_==x1.to_) (And.intro Xk Wi) fl)))))
    have V8:¬(x3.frm=x1.frm):=Y7 Zq Wi
    exact Zk 0 9 [18,19,20,21,22,23,24,25,26] (de (wk [0] (Zv false (And.intro Xk Wi) fl)))
   have Uy:¬((x3.cons.length:Int)=0):=Y7 Zq Xk
   exact Zk 0 19 [8,9,10,11,12,13,14,15,16,17,18,19,20,21,22,23,24,25,26] (de (wk [0] (Zv false Xk fl)))
  refine ac (((x3.cons.length:Int)==0)&&((x3.frm==x1.frm)&&(x3.to_==x1.to_))) (p:=((x3.cons.length:Int)=0)/\((x3.frm=x1.frm)/\(x3.to_=x1.to_))) (YG Zq (YG Zq Zq)) (fun Xe=>?_) (fun Xe=>?_)
  ·refine ZD ?_
   rw [Ya (show (ds.take n)[j]? = some x3 by rw [TW,Ze om];exact YJ),QS,Ze om] at W4
   exact ZG (ZZ (.b false) (lb (by clear Z3 YJ;first|rfl|omega|grind [UR])))
  refine ak (az (Z1 1 (ZJ j (hb:=(by have:=hz.len;omega)) (Z0 ?_))))
  have hdr:=Ya YJ
  exact ZM ⟨j+1,ob,(by rw [Ya (show (ds.take n)[j]? = some x3 by rw [TW,Ze om];exact YJ),QS,Z8 om] at W4;exact W4),rfl,rfl,rfl⟩ (wk [0] (ZP j fl))
 refine ax 2 (Zu 3 [0] (iw (UG ds) (Zw [] (UZ x1.frm 0 (ds.length:Int)) (Xz 12 [] [(99,.b ((decide (0<=x1.frm/\x1.frm<=(ds.length:Int)))&&(decide (0<=x1.to_/\x1.to_<=(ds.length:Int)))))] (fun gz=>gz) ?_ (fun hj2=>?_)))))
 ·refine Z0 ?_
  rw [Xn (show (ds.take n).length<=j by rw [WH];omega),QS] at W4
  exact ZG (ZZ (.b ((decide (0<=x1.frm/\x1.frm<=(ds.length:Int)))&&(decide (0<=x1.to_/\x1.to_<=(ds.length:Int))))) (lb (by clear Z3;first|rfl|omega|grind [UR])))
 refine Z1 1 (ib (b:=(decide (0<=x1.frm/\x1.frm<=(ds.length:Int)))) 93 (fun WA=>?_) (fun WA=>?_))
 ·have UU:0<=x1.frm/\x1.frm<=(ds.length:Int):=(dq).1 WA
  exact ZK 3 [0] (iw (UG ds) (Zw [] (UZ x1.to_ 0 (ds.length:Int)) (Z1 1 (Yp (wk [0] (Zv (decide (0<=x1.to_/\x1.to_<=(ds.length:Int))) WA fl)) hj2))))
 have UV:¬(0<=x1.frm/\x1.frm<=(ds.length:Int)):=Y7 dq WA
 exact Z1 6 (Yp (wk [0] (Zv false WA fl)) hj2)
theorem Zf3 (ds:List Zg) (hz:Ac ds:=by exact ob):Zl 222 [ZW ds] [] (Yq (.b (WX ds))):=by
 have hzl:=hz.len
 refine ZF 17 Tryz.func222 (ZD (YC 1 (iw (UG ds) (Y2 ((ds.length:Int)>4) (fun Za=>?_) (fun Za=>?_)))))
 ·exact ar (Zo (ZZ (.b false) (lb (by first|rfl|omega|grind [WX]))))
 refine ak (Yc (ab 0 (Y5 (fun fz gz m F h=>∃(k:Nat),(k<=ds.length)/\(Tl ds (ds.drop k) k=Tl ds ds 0)/\F=sF [0] fz [(3,.i k)]/\h=gz/\m=ds.length-k) _ _ _ ⟨0,ob,ob,rfl,rfl,rfl⟩ (wk [] (Yf fl)) ?_)))
 rintro m F h ⟨k,Yh,Zj,rfl,rfl,rfl⟩
 refine YC 2 (iw (UG ds) (Y2 ((k:Int)<(ds.length:Int)) (fun Zf=>?_) (fun Zf=>?_)))
 ·refine ak (aq (ab 1 (Y4 2 (Zw [] (Zey ds k) (YD (!Cb ds k) (p:=¬(Cb ds k=true)) (Yj Iff.rfl) (fun ZB=>?_) (fun ZB=>?_))))))
  ·refine ZD ?_
   try rw [Xn (xs:=ds) (k:=k) om] at Zj
   obtain ⟨x1,Z3⟩:=Zt ds k om
   rw [Ya Z3] at Zj
   exact ZG (ZZ (.b false) (lb (by first|rfl|omega|grind [Tl,WX])))
  refine ak (az (Z1 1 (ZJ k (Z0 ?_))))
  obtain ⟨x1,Z3⟩:=Zt ds k om
  have hdr:=Ya Z3
  exact ZM ⟨k+1,ob,(by rw [hdr] at Zj;clear hdr ;grind [Tl]),rfl,rfl,rfl⟩ (wk [] (ZP k fl))
 refine ax 0 (ZD ?_)
 try rw [Xn (xs:=ds) (k:=k) om] at Zj
 exact ZG (ZZ (.b true) (lb (by first|rfl|omega|grind [Tl,WX])))
theorem Zeq (n:Zi) (hz:n.routines.length<=4194304:=by exact ob):Zl 171 [Yo n] [] (Yq (.agg [ZW n.decls,.sl (Ux (n.routines.map UK)) none])):=by
 refine ZF 35 Tryz.func171 (ar (iA (YQ n) fun b1=>iA [nl,nl] fun b2=>ie (Zu 2 [1] (iL (Ux []) 0 5 fun v1=>Z1 1 (iA [nl,nl] fun b3=>?_)))))
 refine ZH 0 b3 [ZW n.decls,.sl (Ux []) (some v1)] (ie (Yc (ab 0 (Y5 (fun fz gz m F h=>∃(k:Nat) (v:Value),(k<=n.routines.length)/\F=sF [1,2,3] fz [(4,.i k)]/\h=[.obj b3 [ZW n.decls,.sl (Ux ((n.routines.take k).map UK)) (some v)],Zc gz 2,Zc gz 3,.tail v 5]/\m=n.routines.length-k) _ _ _ ⟨0,v1,ob,rfl,rfl,rfl⟩ (wk [0,1,1,0] (Yf fl)) ?_))))
 rintro m F h ⟨k,v,Yh,rfl,rfl,rfl⟩
 refine Yk 3 [2] (iw (Up n.routines) (Y2 ((k:Int)<(n.routines.length:Int)) (fun Za=>?_) (fun Za=>?_)))
 ·refine ak (aq (ab 1 (aE 19 (ZL 14 19 [0,1,2,3,4] [0,2] ?_))))
  obtain ⟨x1,Z3⟩:=Zt n.routines k om
  refine dx 5 (Zh none (k:Int) 5 (Wp Z3)) (ZL 8 13 [6,7,8,9,10] [2] (dx 11 (Zh none (k:Int) 5 (Wp Z3)) (Yv 4 7 [12,13,14] [(30,.agg [Z4 x1.params,.i x1.result,.i 0,.i 0,.sl [] none])] (Z9 15 (dL 15 [0] [b3] (Ux [Sg.mk x1.params x1.result]) 1 5 fun v2=>Yv 3 3 [] [(31,.sl (Ux [Sg.mk x1.params x1.result]) none)] (Z9 16 (dp 16 4 [] [] (Ux ((n.routines.take (k+1)).map UK)) (Ux ((n.routines.take k).map UK)) (Ux [Sg.mk x1.params x1.result]) v none 5 (O3 _) (O3 _) (Z53 _) (by simp<;>omega) (by rw [Vc Z3];simp [Ux,UK]) fun v3=>Zk 1 2 [17] (Z9 18 (YM 18 2 [] [] b3 [ZW n.decls,.sl (Ux ((n.routines.take (k+1)).map UK)) (some v3)] (de (az (Z1 1 (ZJ k (Z0 ?_))))))))))))))
  have hdr:=Ya Z3
  exact ZM ⟨k+1,v3,ob,rfl,rfl,rfl⟩ (wk [0,2,2,0] (ZP k fl))
 exact ax 0 (Zu 1 [0] (ZH 1 b2 [ZW n.decls,.sl (Ux ((n.routines.take k).map UK)) (some v)] (ie (ZG (r3 [] [.agg [ZW n.decls,.sl (Ux ((n.routines.take k).map UK)) (some v)]] [0] [(b2,b2)] ⟨rfl,rfl⟩ (Zd.agg (.cons (lr _) (.cons (Zd.sl _ (Yr Ux (by rw [show k=n.routines.length by omega,VF]))) .nil))))))))
theorem Zf2 (ds:List Zg) (fs:List Sg) (hz:Ac ds:=by exact ob) (hf:∀f∈fs,f.params.length<=4194304):Zl 170 [.agg [ZW ds,.sl (Ux fs) none]] [] (Yq (.b (Kg ds fs))):=by
 have hzl:=hz.len
 refine ZF 64 Tryz.func170 (ar (iA [ZW ds,.sl (Ux fs) none] fun b1=>Z0 (Yk 2 [0] (Zw [] (Zf3 ds) (Xj [1] [(15,.b ((!WX ds)||(!(decide (1<=(fs.length:Int)/\(fs.length:Int)<=4)))))] (fun gz=>gz) ?_ ?_)))))
 ·refine Z1 2 (ib (b:=(!WX ds)) 9 (fun Zb=>?_) (fun Zb=>?_))
  ·have ZT:¬(WX ds=true):=((Yj Iff.rfl)).1 Zb
   exact Z0 (wk [0] (Zv true Zb fl))
  have Yd:¬(¬(WX ds=true)):=Y7 (Yj Iff.rfl) Zb
  exact ZK 2 [0] (iw (O4 fs) (Zw [] (UZ (fs.length:Int) 1 4) (Z0 (wk [0] (Zv (!(decide (1<=(fs.length:Int)/\(fs.length:Int)<=4))) Zb fl)))))
 refine ac ((!WX ds)||(!(decide (1<=(fs.length:Int)/\(fs.length:Int)<=4)))) (p:=(¬(WX ds=true))∨(¬(1<=(fs.length:Int)/\(fs.length:Int)<=4))) (Yi (Yj Iff.rfl) (Yj dq)) (fun Za=>?_) (fun Za=>?_)
 ·exact ar (Zo (ZZ (.b false) (lb (by first|rfl|omega|grind [Kg]))))
 refine ak (Yc (ab 0 (Y5 (fun fz gz m F h=>∃(k:Nat),(k<=fs.length)/\(J7 ds.length (fs.drop k)=J7 ds.length fs)/\F=sF [1] fz [(3,.i k)]/\h=gz/\m=fs.length-k) _ _ _ ⟨0,ob,ob,rfl,rfl,rfl⟩ (wk [0] (Yf fl)) ?_)))
 rintro m F h ⟨k,Yh,Zj,rfl,rfl,rfl⟩
 refine Yk 3 [0] (iw (O4 fs) (Y2 ((k:Int)<(fs.length:Int)) (fun Zf=>?_) (fun Zf=>?_)))
 ·refine ak (aq (ab 1 (Zu 3 [0] ?_)))
  obtain ⟨x1,Z3⟩:=Zt fs k om
  refine Zm (Zh none (k:Int) 5 (In Z3)) (Z1 1 (iA [nl,.i 0,.i 0,.i 0,nl] fun b2=>ZH 0 b2 [Z4 x1.params,.i x1.result,.i 0,.i 0,.sl [] none] (ie (Zu 2 [0] (iw (Y6 x1.params) (Xz 12 [1,3,4] [(39,.b ((decide ((x1.params.length:Int)>3))||(!Wm ds.length x1.params)))] (fun gz=>gz) ?_ (fun hj1=>?_)))))))
  ·refine Xj [1,3] [(48,.b (((decide ((x1.params.length:Int)>3))||(!Wm ds.length x1.params))||(!(decide (0<=x1.result/\x1.result<=(ds.length:Int))))))] (fun gz=>gz) ?_ ?_
   ·refine Z1 1 (ib (b:=((decide ((x1.params.length:Int)>3))||(!Wm ds.length x1.params))) 40 (fun Zx=>?_) (fun Zx=>?_))
    ·have YE:((x1.params.length:Int)>3)∨(¬(Wm ds.length x1.params=true)):=((Yi dq (Yj Iff.rfl))).1 Zx
     exact Z0 (wk [0,0] (Zv true Zx fl))
    have YI:¬(((x1.params.length:Int)>3)∨(¬(Wm ds.length x1.params=true))):=Y7 (Yi dq (Yj Iff.rfl)) Zx
    exact ZK 4 [0,1] (iw (UG ds) (Zw [] (UZ x1.result 0 (ds.length:Int)) (Z0 (wk [0,0] (Zv (!(decide (0<=x1.result/\x1.result<=(ds.length:Int)))) Zx fl)))))
   refine ac (((decide ((x1.params.length:Int)>3))||(!Wm ds.length x1.params))||(!(decide (0<=x1.result/\x1.result<=(ds.length:Int))))) (p:=(((x1.params.length:Int)>3)∨(¬(Wm ds.length x1.params=true)))∨(¬(0<=x1.result/\x1.result<=(ds.length:Int)))) (Yi (Yi dq (Yj Iff.rfl)) (Yj dq)) (fun ZB=>?_) (fun ZB=>?_)
   ·refine ZD ?_
    rw [Ya Z3] at Zj
    exact ZG (ZZ (.b false) (lb (by clear Z3;first|rfl|omega|grind [J7,J6,Kg])))
   refine ak (az (Z1 1 (ZJ k (Z0 ?_))))
   have hdr:=Ya Z3
   exact ZM ⟨k+1,ob,(by rw [hdr] at Zj;clear hdr Z3;grind [J7,J6]),rfl,rfl,rfl⟩ (wk [1] (ZP k fl))
  refine Z1 2 (ib (b:=(decide ((x1.params.length:Int)>3))) 32 (fun Yl=>?_) (fun Yl=>?_))
  ·have X9:(x1.params.length:Int)>3:=(dq).1 Yl
   exact Z1 7 (Yp (wk [0,0] (Zv true Yl fl)) hj1)
  have XG:¬((x1.params.length:Int)>3):=Y7 dq Yl
  exact ZK 4 [1,0] (Zw [] (Su ds x1.params) (Z1 2 (Yp (wk [0,0] (Zv (!Wm ds.length x1.params) Yl fl)) hj1)))
 refine ax 0 (Zu 2 [0] ?_)
 obtain ⟨x2,Zs⟩:=Zt fs 0 om
 have hfo:=Z5j Zs
 refine Zm (Zh none 0 5 (In Zs)) (Z1 2 (iw (Y6 x2.params) (Xz 15 [] [(63,.b (((x2.params.length:Int)==0)&&(x2.result==0)))] (fun gz=>gz) ?_ (fun hj2=>?_))))
 ·refine Z0 ?_
  try rw [Xn (xs:=fs) (k:=k) om] at Zj
  exact ZG (ZZ (.b (((x2.params.length:Int)==0)&&(x2.result==0))) (lb (by clear Zs;first|rfl|omega|grind [J7,J6,Kg])))
 refine Z1 2 (ib (b:=((x2.params.length:Int)==0)) 56 (fun Xk=>?_) (fun Xk=>?_))
 ·have XY:(x2.params.length:Int)=0:=(Zq).1 Xk
  exact ZK 2 [0] (Zm (Zh none 0 5 (In Zs)) (Z1 4 (Yp (wk [0] (Zv (x2.result==0) Xk fl)) hj2)))
 have WQ:¬((x2.params.length:Int)=0):=Y7 Zq Xk
 exact Z1 7 (Yp (wk [0] (Zv false Xk fl)) hj2)
theorem Zf0 (ps:LI) (ls:LI) (hl_ps:ps.length<=4294967296:=by exact ob) (hl_ls:ls.length<=4294967296:=by exact ob):Zl 172 [Z4 ps,Z4 ls] [] (Yq (.b (Jg ps ls))):=by
 refine ZF 47 Tryz.func172 (ZD (Yc (ab 0 (Y5 (fun fz gz m F h=>∃(k:Nat),(k<=ls.length)/\(Qz ps (ls.drop k) (if k=0 then none else ls[k-1]?)=Jg ps ls)/\F=sF [0,1] fz [(5,.i k)]/\h=gz/\m=ls.length-k) _ _ _ ⟨0,ob,ob,rfl,rfl,rfl⟩ (wk [] (Yf fl)) ?_))))
 rintro m F h ⟨k,Yh,Zj,rfl,rfl,rfl⟩
 refine YC 2 (iw (Y6 ls) (Y2 ((k:Int)<(ls.length:Int)) (fun Za=>?_) (fun Za=>?_)))
 ·refine ak (aq (ab 1 (aD 35 (Zk 33 35 [0,1] ?_))))
  obtain ⟨x1,Z3⟩:=Zt ls k om
  refine dx 2 (Zh none (k:Int) 1 (Y0 Z3)) (Zk 30 32 [3,4] (dw 5 (Y6 ps) (da 6 (((ps.length:Int)-1)) (((ps.length:Int))-(1)) (Z9 7 (Yt 7 [] [] [] (UZ x1 0 ((ps.length:Int)-1)) (Zk 25 27 [8,9] (db (b:=(!(decide (0<=x1/\x1<=((ps.length:Int)-1))))) 21 (fun Zb=>?_) (fun Zb=>?_))))))))
  ·have ZT:¬(0<=x1/\x1<=((ps.length:Int)-1)):=((Yj dq)).1 Zb
   refine Zk 0 25 [10,11,12,13,14,15,16,17,18,19,20,21,22,23,24,25,26,27,28,29,30,31,32,33,34] (de (XM (ZD ?_)))
   rw [Ya Z3] at Zj
   exact ZG (ZZ (.b false) (lb (by have hq:=Gu (ps:=ps) (v:=x1) (r:=ls.drop (k+1)) (prev:=if k=0 then none else ls[k-1]?);rw [<-Zj,hq];rintro ⟨q1,q2,q3⟩;first|omega|(rw [hps] at q2;exact q2 (Yr some om))|(have:=q3 _ (by rw [Z8 om,hls]);omega))))
  have Yd:¬(¬(0<=x1/\x1<=((ps.length:Int)-1))):=Y7 (Yj dq) Zb
  refine Zk 22 25 [10,11,12] (dx 13 (Zh none (k:Int) 1 (Y0 Z3)) (Zk 20 21 [14] ?_))
  obtain ⟨x2,Zs⟩:=Zt ps x1.toNat om
  have hps:=Zs
  refine dx 15 (Zh none x1 1 (Y0 Zs)) (Zk 15 19 [16,17,18,19] (db (b:=(x2==0)) 31 (fun Zx=>?_) (fun Zx=>?_)))
  ·have YE:x2=0:=(Zq).1 Zx
   refine Zk 0 15 [20,21,22,23,24,25,26,27,28,29,30,31,32,33,34] (de (XM (ZD ?_)))
   rw [Ya Z3] at Zj
   exact ZG (ZZ (.b false) (lb (by have hq:=Gu (ps:=ps) (v:=x1) (r:=ls.drop (k+1)) (prev:=if k=0 then none else ls[k-1]?);rw [<-Zj,hq];rintro ⟨q1,q2,q3⟩;first|omega|(rw [hps] at q2;exact q2 (Yr some om))|(have:=q3 _ (by rw [Z8 om,hls]);omega))))
  have YI:¬(x2=0):=Y7 Zq Zx
  refine Zk 12 15 [20,21,22] (db (b:=(decide ((k:Int)>0))) 34 (fun Yl=>?_) (fun Yl=>?_))
  ·have X9:(k:Int)>0:=(dq).1 Yl
   refine Zk 10 12 [23,24] (dx 25 (Zh none (k:Int) 1 (Y0 Z3)) (Zk 6 9 [26,27,28] (da 29 (((k-1:Nat):Int)) (((k:Int))-(1)) ?_)))
   obtain ⟨x3,YJ⟩:=Zt ls (k-1) om
   have hls:=YJ
   refine dx 30 (Zh none ((k-1:Nat):Int) 1 (Y0 YJ)) (Zk 0 4 [31,32,33,34] (de (W8 (x1<=x3) (fun Zf=>?_) (fun Zf=>?_))))
   ·refine ZD ?_
    rw [Ya Z3] at Zj
    exact ZG (ZZ (.b false) (lb (by have hq:=Gu (ps:=ps) (v:=x1) (r:=ls.drop (k+1)) (prev:=if k=0 then none else ls[k-1]?);rw [<-Zj,hq];rintro ⟨q1,q2,q3⟩;first|omega|(rw [hps] at q2;exact q2 (Yr some om))|(have:=q3 _ (by rw [Z8 om,hls]);omega))))
   refine ak (az (Z1 1 (ZJ k (Z0 ?_))))
   have hl1:ls[k+1-1]? = some x1:=Z3
   have hlc:(0<=x1/\x1<=(ps.length:Int)-1)/\ps[x1.toNat]?≠some 0/\(∀p,(if k=0 then none else ls[k-1]?)=some p->p<x1):=⟨by omega,by rw [hps];intro q;cases q;omega,fun p hp=>by first|(rw [Z8 om,hls] at hp;cases hp;omega)|(rw [Ze om] at hp;cases hp)⟩
   have hdr:=Ya Z3
   exact ZM ⟨k+1,ob,(by have hq:=Lm (r:=ls.drop (k+1)) hlc;rw [hdr,hq] at Zj;rw [Z8 om,hl1];exact Zj),rfl,rfl,rfl⟩ (wk [] (ZP k fl))
  have XG:¬((k:Int)>0):=Y7 dq Yl
  refine Zk 0 12 [23,24,25,26,27,28,29,30,31,32,33,34] (de (W9 (ak (az (Z1 1 (ZJ k (Z0 ?_)))))))
  have hl1:ls[k+1-1]? = some x1:=Z3
  have hlc:(0<=x1/\x1<=(ps.length:Int)-1)/\ps[x1.toNat]?≠some 0/\(∀p,(if k=0 then none else ls[k-1]?)=some p->p<x1):=⟨by omega,by rw [hps];intro q;cases q;omega,fun p hp=>by first|(rw [Z8 om,hls] at hp;cases hp;omega)|(rw [Ze om] at hp;cases hp)⟩
  have hdr:=Ya Z3
  exact ZM ⟨k+1,ob,(by have hq:=Lm (r:=ls.drop (k+1)) hlc;rw [hdr,hq] at Zj;rw [Z8 om,hl1];exact Zj),rfl,rfl,rfl⟩ (wk [] (ZP k fl))
 refine ax 0 (ZD ?_)
 try rw [Xn (xs:=ls) (k:=k) om] at Zj
 exact ZG (ZZ (.b true) (lb (by first|rfl|omega|grind [Qz])))
theorem Zf1 (n:Zi) (hz:Ac n.decls:=by exact ob) (hr:∀r∈n.routines,r.params.length<=4194304/\r.lent.length<=4194304):Zl 127 [Yo n] [] (Yq (.b (VX n))):=by
 have hzl:=hz.len
 refine ZF 35 Tryz.func127 (ar (iA (YQ n) fun b1=>Z0 (Yk 2 [0] (iw (Up n.routines) (Xj [1] [(13,.b ((decide ((n.routines.length:Int)>4))||(!Kg n.decls (n.routines.map UK))))] (fun gz=>gz) ?_ ?_)))))
 ·refine Z1 2 (ib (b:=(decide ((n.routines.length:Int)>4))) 8 (fun Zb=>?_) (fun Zb=>?_))
  ·have ZT:(n.routines.length:Int)>4:=(dq).1 Zb
   exact Z0 (wk [0] (Zv true Zb fl))
  have Yd:¬((n.routines.length:Int)>4):=Y7 dq Zb
  exact ZK 1 [0] (Zw [] (Zeq n) (Zw [] (Zf2 n.decls (n.routines.map UK) (hf:=(by intro f hf;obtain ⟨r,h1,rfl⟩:=Wc.1 hf;exact (hr r h1).1))) (Z0 (wk [0] (Zv (!Kg n.decls (n.routines.map UK)) Zb fl)))))
 refine ac ((decide ((n.routines.length:Int)>4))||(!Kg n.decls (n.routines.map UK))) (p:=((n.routines.length:Int)>4)∨(¬(Kg n.decls (n.routines.map UK)=true))) (Yi dq (Yj Iff.rfl)) (fun Za=>?_) (fun Za=>?_)
 ·exact ar (Zo (ZZ (.b false) (lb (by first|rfl|omega|grind [VX]))))
 refine ak (Yc (ab 0 (Y5 (fun fz gz m F h=>∃(k:Nat),(k<=n.routines.length)/\(J3 (n.routines.drop k)=J3 n.routines)/\F=sF [1] fz [(3,.i k)]/\h=gz/\m=n.routines.length-k) _ _ _ ⟨0,ob,ob,rfl,rfl,rfl⟩ (wk [0] (Yf fl)) ?_)))
 rintro m F h ⟨k,Yh,Zj,rfl,rfl,rfl⟩
 refine Yk 3 [0] (iw (Up n.routines) (Y2 ((k:Int)<(n.routines.length:Int)) (fun Zf=>?_) (fun Zf=>?_)))
 ·refine ak (aq (ab 1 (aD 14 (ZL 11 14 [0,1,2] [0] ?_))))
  obtain ⟨x1,Z3⟩:=Zt n.routines k om
  refine dx 3 (Zh none (k:Int) 5 (Wp Z3)) (ZL 5 10 [4,5,6,7,8] [0] (dx 9 (Zh none (k:Int) 5 (Wp Z3)) (Zk 2 4 [10,11] (Z9 12 (Yt 12 [] [] [] (Zf0 x1.params x1.lent (hl_ps:=(by have:=hr _ (ZY Z3);omega)) (hl_ls:=(by have:=hr _ (ZY Z3);omega))) (Zk 0 1 [13] (de (ac (!Jg x1.params x1.lent) (p:=¬(Jg x1.params x1.lent=true)) (Yj Iff.rfl) (fun ZB=>?_) (fun ZB=>?_)))))))))
  ·refine ZD ?_
   rw [Ya Z3] at Zj
   exact ZG (ZZ (.b false) (lb (by clear Z3;first|rfl|omega|grind [J3,VX])))
  refine ak (az (Z1 1 (ZJ k (Z0 ?_))))
  have hdr:=Ya Z3
  exact ZM ⟨k+1,ob,(by rw [hdr] at Zj;clear hdr Z3;grind [J3]),rfl,rfl,rfl⟩ (wk [0] (ZP k fl))
 refine ax 0 (ZD ?_)
 try rw [Xn (xs:=n.routines) (k:=k) om] at Zj
 exact ZG (ZZ (.b true) (lb (by first|rfl|omega|grind [J3,VX])))
theorem J8 (op:Int) :Zl 169 [.i op] [] (Yq (.b (XS op))):=by
 exact ZF 5 Tryz.func169 (ZD (Y4 1 (Zw [] (UZ op 0 11) (Zo (ZZ (.b (decide (0<=op/\op<=11))) (lb (by first|rfl|omega|grind [XS])))))))
theorem Zeg (op:Int) :Zl 210 [.i op] [] (Yq (.b (VK op))):=by
 refine ZF 21 Tryz.func210 (ZD (ar (Xz 6 [0] [(8,.b ((op==0)||(op==6)))] (fun gz=>gz) ?_ (fun hj1=>?_))))
 ·refine Xz 10 [0] [(12,.b (((op==0)||(op==6))||(op==8)))] (fun gz=>gz) ?_ (fun hj2=>?_)
  ·refine Xz 14 [0] [(16,.b ((((op==0)||(op==6))||(op==8))||(op==9)))] (fun gz=>gz) ?_ (fun hj3=>?_)
   ·refine Xz 18 [] [(20,.b (((((op==0)||(op==6))||(op==8))||(op==9))||(op==10)))] (fun gz=>gz) ?_ (fun hj4=>?_)
    ·exact Zo (ZZ (.b (((((op==0)||(op==6))||(op==8))||(op==9))||(op==10))) (lb (by rw [VK];simp only [Bool.or_assoc])))
    refine Z1 1 (ib (b:=((((op==0)||(op==6))||(op==8))||(op==9))) 17 (fun Zb=>?_) (fun Zb=>?_))
    ·exact Z1 3 (Yp (wk [] (Zv true Zb fl)) hj4)
    exact Z1 3 (Yp (wk [] (Zv (op==10) Zb fl)) hj4)
   refine Z1 1 (ib (b:=(((op==0)||(op==6))||(op==8))) 13 (fun Zx=>?_) (fun Zx=>?_))
   ·exact Z1 3 (Yp (wk [] (Zv true Zx fl)) hj3)
   exact Z1 3 (Yp (wk [] (Zv (op==9) Zx fl)) hj3)
  refine Z1 1 (ib (b:=((op==0)||(op==6))) 9 (fun Yl=>?_) (fun Yl=>?_))
  ·exact Z1 3 (Yp (wk [] (Zv true Yl fl)) hj2)
  exact Z1 3 (Yp (wk [] (Zv (op==8) Yl fl)) hj2)
 refine Z1 3 (ib (b:=(op==0)) 5 (fun Xk=>?_) (fun Xk=>?_))
 ·exact Z1 3 (Yp (wk [] (Zv true Xk fl)) hj1)
 exact Z1 3 (Yp (wk [] (Zv (op==6) Xk fl)) hj1)
theorem BJ (us:LI) (args:LI) (tys:LI) (hl_us:us.length<=4294967296:=by exact ob) (hl_args:args.length<=4294967296:=by exact ob) (hl_tys:tys.length<=4294967296:=by exact ob):Zl 212 [Z4 us,Z4 args,Z4 tys] [] (Yq (.b (Wg us args tys))):=by
 refine ZF 42 Tryz.func212 (ZD (YC 1 (iw (Y6 args) (Z1 1 (iw (Y6 tys) (YD ((args.length:Int) != (tys.length:Int)) Ym (fun Za=>?_) (fun Za=>?_)))))))
 ·exact ar (Zo (ZZ (.b false) (lb (Z0j om).symm)))
 refine ak (Yc (ab 0 (Y5 (fun fz gz m F h=>∃(k:Nat),(k<=args.length)/\(Td us (args.drop k) (tys.drop k)=Wg us args tys)/\F=sF [0,1,2] fz [(7,.i k)]/\h=gz/\m=args.length-k) _ _ _ ⟨0,ob,ob,rfl,rfl,rfl⟩ (wk [] (Yf fl)) ?_)))
 rintro m F h ⟨k,Yh,Zj,rfl,rfl,rfl⟩
 refine YC 2 (iw (Y6 args) (Y2 ((k:Int)<(args.length:Int)) (fun Zf=>?_) (fun Zf=>?_)))
 ·refine ak (aq (ab 1 (aD 23 (Zk 21 23 [0,1] ?_))))
  obtain ⟨x1,Z3⟩:=Zt args k om
  refine dx 2 (Zh none (k:Int) 1 (Y0 Z3)) (Zk 18 20 [3,4] (dw 5 (Y6 us) (da 6 (((us.length:Int)-1)) (((us.length:Int))-(1)) (Z9 7 (Yt 7 [] [] [] (UZ x1 0 ((us.length:Int)-1)) (Zk 13 15 [8,9] (db (b:=(!(decide (0<=x1/\x1<=((us.length:Int)-1))))) 28 (fun Zb=>?_) (fun Zb=>?_))))))))
  ·have ZT:¬(0<=x1/\x1<=((us.length:Int)-1)):=((Yj dq)).1 Zb
   refine Zk 0 13 [10,11,12,13,14,15,16,17,18,19,20,21,22] (de (XM (ZD ?_)))
   obtain ⟨y,hy⟩:=Zt tys k om
   exact ZG (ZZ (.b false) (lb (by rw [<-Zj];exact (Z0i Z3 hy (by rw [Ko ZT];simp)).symm)))
  have Yd:¬(¬(0<=x1/\x1<=((us.length:Int)-1))):=Y7 (Yj dq) Zb
  refine Zk 10 13 [10,11,12] (dx 13 (Zh none (k:Int) 1 (Y0 Z3)) (Zk 8 9 [14] ?_))
  obtain ⟨x2,Zs⟩:=Zt us x1.toNat om
  refine dx 15 (Zh none x1 1 (Y0 Zs)) (Zk 4 7 [16,17,18] ?_)
  obtain ⟨x3,YJ⟩:=Zt tys k om
  refine dx 19 (Zh none (k:Int) 1 (Y0 YJ)) (Zk 0 3 [20,21,22] (de (ac (x2 != x3) Ym (fun ZB=>?_) (fun ZB=>?_))))
  ·exact ar (Zo (ZZ (.b false) (lb (by rw [<-Zj];exact (Z0i Z3 YJ (by rw [Qd om Zs];simpa using ZB)).symm))))
  refine ak (az (Z1 1 (ZJ k (Z0 ?_))))
  have hdr:=Ya Z3
  exact ZM ⟨k+1,ob,(by rw [<-Zj];exact (Zgd Z3 YJ (by rw [Qd om Zs];congr 1;omega)).symm),rfl,rfl,rfl⟩ (wk [] (ZP k fl))
 exact ax 0 (ar (Zo (ZZ (.b true) (lb (by rw [<-Zj];exact (Zgc om om).symm)))))
theorem Zez (us:LI) (s:Z5) (hl_us:us.length<=4294967296:=by exact ob):Zl 211 [Z4 us,YL s] [] (Yq (.b (Uj us s.op s.into))):=by
 refine ZF 27 Tryz.func211 (ar (iA (XC s) fun b1=>Z0 (X2 (VD [0] (ac (s.into==0) Zq (fun Za=>?_) (fun Za=>?_))))))
 ·exact ar (Zo (ZZ (.b true) (lb (by rw [Uj,Ze Za]))))
 refine ak (ar (Xz 10 [0,3] [(17,.b ((s.op==6)&&(decide (1<=s.into/\s.into<=(us.length:Int)))))] (fun gz=>gz) ?_ (fun hj1=>?_)))
 ·refine Z1 1 (ib (b:=((s.op==6)&&(decide (1<=s.into/\s.into<=(us.length:Int))))) 18 (fun Zb=>?_) (fun Zb=>?_))
  ·have ZT:(s.op=6)/\(1<=s.into/\s.into<=(us.length:Int)):=((YG Zq dq)).1 Zb
   refine ZK 3 [0] (ia ((s.into-1)) ((s.into)-(1)) ?_)
   obtain ⟨x1,Z3⟩:=Zt us ((s.into-1).toNat) om
   exact Zm (Zh none (s.into-1) 1 (Y0 Z3)) (Zo (ZZ (.b (decide (x1>0))) (lb (by rw [Uj,Z8 Za];first|(rw [Ze om,Qd om Z3];rfl)|(rw [Ze om,Ko om];rfl)|(rw [Z8 om])|(by_cases q:s.op=6;rw [Ze q,Ko om];rfl;rw [Z8 q])))))
  have Yd:¬((s.op=6)/\(1<=s.into/\s.into<=(us.length:Int))):=Y7 (YG Zq dq) Zb
  exact Zo (ZZ (.b false) (lb (by rw [Uj,Z8 Za];first|(rw [Ze om,Qd om Z3];rfl)|(rw [Ze om,Ko om];rfl)|(rw [Z8 om])|(by_cases q:s.op=6;rw [Ze q,Ko om];rfl;rw [Z8 q]))))
 refine ZK 4 [0] (ib (b:=(s.op==6)) 11 (fun Zx=>?_) (fun Zx=>?_))
 ·have YE:s.op=6:=(Zq).1 Zx
  exact ZK 3 [0] (iw (Y6 us) (Zw [] (UZ s.into 1 (us.length:Int)) (Z1 1 (Yp (wk [0] (Zv (decide (1<=s.into/\s.into<=(us.length:Int))) Zx fl)) hj1))))
 have YI:¬(s.op=6):=Y7 Zq Zx
 exact Z1 6 (Yp (wk [0] (Zv false Zx fl)) hj1)
theorem Zeo (n:Zi) (us:LI) (s:Z5) (hn:X3 n:=by exact ob) (hl_us:us.length<=4294967296:=by exact ob) (ha:s.args.length<=1000000000:=by exact ob):Zl 215 [Yo n,Z4 us,YL s] [] (Yq (.i (TM n us s.op s.num s.args))):=by
 have hrl:=hn.len
 have hdl:=hn.decls.len
 refine ZF 69 Tryz.func215 (ar (iA (YQ n) fun b1=>iA (XC s) fun b2=>Z0 (Yk 4 [0,1] (iw (Up n.routines) (ia (((n.routines.length:Int)-1)) (((n.routines.length:Int))-(1)) (Zw [] (UZ s.num 0 ((n.routines.length:Int)-1)) (YD (!(decide (0<=s.num/\s.num<=((n.routines.length:Int)-1)))) (p:=¬(0<=s.num/\s.num<=((n.routines.length:Int)-1))) (Yj dq) (fun Za=>?_) (fun Za=>?_))))))))
 ·exact ar (Zo (ZZ (.i (-1)) (li (Zcs om).symm)))
 refine ak (Zu 4 [1,0] ?_)
 obtain ⟨x1,Z3⟩:=Zt n.routines s.num.toNat om
 have hrp:=hn.params_at Z3
 have hrt:=hn.lent_at Z3
 have hre:TM n us s.op s.num s.args=KD n.decls us s.op s.args x1:=Zcq om Z3
 refine Zm (Zh none s.num 5 (Wp Z3)) (Z1 1 (iA [nl,nl,.i 0,nl,.i 0] fun b3=>ZH 0 b3 (K4 x1) (ie (Zu 2 [0] (iw (Y6 x1.params) (Z0 (X2 (VD [1] (ac (s.op==9) Zq (fun Zf=>?_) (fun Zf=>?_))))))))))
 ·refine Yk 5 [1,0] (Zw [] (BJ us s.args x1.params) (YD (!Wg us s.args x1.params) (p:=¬(Wg us s.args x1.params=true)) (Yj Iff.rfl) (fun ZB=>?_) (fun ZB=>?_)))
  ·exact ar (Zo (ZZ (.i (-1)) (li (by clear Z3;first|rfl|omega|grind [KD,KR]))))
  exact ak (JS [0] (ZG (ZZ (.i x1.result) (li (by clear Z3;first|rfl|omega|grind [KD,KR])))))
 refine ak (aq (aD 20 (An [3,7,8] [(57,.b (((x1.params.length:Int)==0)||((decide ((x1.lent.length:Int)>0))||(!Wg us s.args (x1.params.take (x1.params.length-1))))))] (fun gz=>gz) ?_ ?_)))
 ·refine Zk 17 20 [0,1,2] (db (b:=((x1.params.length:Int)==0)) 40 (fun Zb=>?_) (fun Zb=>?_))
  ·have ZT:(x1.params.length:Int)=0:=(Zq).1 Zb
   exact Zk 0 17 [3,4,5,6,7,8,9,10,11,12,13,14,15,16,17,18,19] (de (ZE 3 (Zv true Zb fl)))
  have Yd:¬((x1.params.length:Int)=0):=Y7 Zq Zb
  refine ZL 15 17 [3,4] [0] (dw 5 (Y6 x1.lent) (Zk 11 14 [6,7,8] (db (b:=(decide ((x1.lent.length:Int)>0))) 46 (fun Zx=>?_) (fun Zx=>?_))))
  ·have YE:(x1.lent.length:Int)>0:=(dq).1 Zx
   exact Zk 0 11 [9,10,11,12,13,14,15,16,17,18,19] (de (ZE 3 (Zv true (And.intro Zb Zx) fl)))
  have YI:¬((x1.lent.length:Int)>0):=Y7 dq Zx
  exact ZL 5 11 [9,10,11,12,13,14] [1,0] (da 15 (((x1.params.length-1:Nat):Int)) (((x1.params.length:Int))-(1)) (dx 16 (Ja (es:=Z6 x1.params) (hv:=none) (l:=0) (m:=((x1.params.length-1:Nat):Int)) (sz:=1) (es':=Z6 (x1.params.take (x1.params.length-1))) kr om (by simp<;>omega) (by simp<;>omega) (YB _) (by first|(simp only [U7,VF,Js,Ar];done)|(simp only [U7,VF,Js,Ar];rfl)|(simp [Js,Ar];done))) (Z9 17 (Yt 17 [] [] [] (BJ us s.args (x1.params.take (x1.params.length-1))) (Zk 0 2 [18,19] (de (ZE 3 (Zv (!Wg us s.args (x1.params.take (x1.params.length-1))) (And.intro Zb Zx) fl))))))))
 refine ac (((x1.params.length:Int)==0)||((decide ((x1.lent.length:Int)>0))||(!Wg us s.args (x1.params.take (x1.params.length-1))))) (p:=((x1.params.length:Int)=0)∨(((x1.lent.length:Int)>0)∨(¬(Wg us s.args (x1.params.take (x1.params.length-1))=true)))) (Yi Zq (Yi dq (Yj Iff.rfl))) (fun ZV=>?_) (fun ZV=>?_)
 ·exact ar (Zo (ZZ (.i (-1)) (li (by clear Z3;first|rfl|omega|grind [KD,KR]))))
 refine ak (aD 12 (ZL 7 12 [0,1,2,3,4] [2,0] (da 5 (((x1.params.length-1:Nat):Int)) (((x1.params.length:Int))-(1)) ?_)))
 obtain ⟨x2,Zs⟩:=Zt x1.params (x1.params.length-1) om
 have hgl:=OO Zs
 exact dx 6 (Zh none ((x1.params.length-1:Nat):Int) 1 (Y0 Zs)) (ZL 2 5 [7,8,9] [0] (Z9 10 (Yt 10 [] [] [] (Sw n.decls x2 x1.result) (Zk 0 1 [11] (de (ZG (ZZ (.i (Uv n.decls x2 x1.result)) (li (by clear Z3 Zs;first|rfl|omega|grind [KD,KR])))))))))
theorem Zef (n:Zi) (us:LI) (s:Z5) (hn:X3 n:=by exact ob) (hl_us:us.length<=4294967296:=by exact ob) (ha:s.args.length<=1000000000:=by exact ob):Zl 217 [Yo n,Z4 us,YL s] [] (Yq (.i (Qu n.decls us s.op s.args))):=by
 have Xw:=hn.decls
 refine ZF 52 Tryz.func217 (ar (iA (YQ n) fun b1=>iA (XC s) fun b2=>Z0 (Yk 2 [0] (iw (Y6 s.args) (Z1 2 (ib (b:=((s.args.length:Int) != 1)) 11 (fun Zb=>?_) (fun Zb=>?_)))))))
 ·have ZT:(s.args.length:Int)≠1:=(Ym).1 Zb
  exact Z0 (XM (ar (Zo (ZZ (.i (-1)) (li (by first|assumption|omega|rfl|(rw [CS om])|(rw [CT (KQ om Z3) om])|(rw [CR (KQ om Z3) om Zs];clear Z3 Zs;grind)))))))
 have Yd:¬((s.args.length:Int)≠1):=Y7 Ym Zb
 refine ZK 2 [0] ?_
 obtain ⟨x1,Z3⟩:=Zt s.args 0 om
 refine Zm (Zh none 0 1 (Y0 Z3)) (Z1 2 (iw (Y6 us) (ia (((us.length:Int)-1)) (((us.length:Int))-(1)) (Zw [] (UZ x1 0 ((us.length:Int)-1)) (Z1 3 (ib (b:=(!(decide (0<=x1/\x1<=((us.length:Int)-1))))) 22 (fun Zx=>?_) (fun Zx=>?_)))))))
 ·have YE:¬(0<=x1/\x1<=((us.length:Int)-1)):=((Yj dq)).1 Zx
  exact Z0 (XM (ar (Zo (ZZ (.i (-1)) (li (by first|assumption|omega|rfl|(rw [CS om])|(rw [CT (KQ om Z3) om])|(rw [CR (KQ om Z3) om Zs];clear Z3 Zs;grind)))))))
 have YI:¬(¬(0<=x1/\x1<=((us.length:Int)-1))):=Y7 (Yj dq) Zx
 refine ZK 3 [0] (Zm (Zh none 0 1 (Y0 Z3)) (Z1 1 ?_))
 obtain ⟨x2,Zs⟩:=Zt us x1.toNat om
 refine Zm (Zh none x1 1 (Y0 Zs)) (YD (x2==0) Zq (fun Za=>?_) (fun Za=>?_))
 ·exact ar (Zo (ZZ (.i (-1)) (li (by first|assumption|omega|rfl|(rw [CS om])|(rw [CT (KQ om Z3) om])|(rw [CR (KQ om Z3) om Zs];clear Z3 Zs;grind)))))
 refine ak (aq (aD 20 (An [] [(51,.b ((s.op != 14)&&((s.op != 15)&&W2 n.decls x2)))] (fun gz=>gz) ?_ ?_)))
 ·refine ZL 16 20 [0,1,2,3] [0] (db (b:=(s.op != 14)) 35 (fun Yl=>?_) (fun Yl=>?_))
  ·have X9:s.op≠14:=(Ym).1 Yl
   refine ZL 11 16 [4,5,6,7,8] [0] (db (b:=(s.op != 15)) 40 (fun Xk=>?_) (fun Xk=>?_))
   ·have XG:s.op≠15:=(Ym).1 Xk
    exact ZL 6 11 [9,10,11,12,13] [1,0] (dx 14 (Zh none 0 1 (Y0 Z3)) (Zk 4 5 [15] (dx 16 (Zh none x1 1 (Y0 Zs)) (Zk 2 3 [17] (Z9 18 (Yt 18 [] [] [] (EO n.decls x2 (hd:=(by first|assumption|omega|rfl|(rw [CS om])|(rw [CT (KQ om Z3) om])|(rw [CR (KQ om Z3) om Zs];clear Z3 Zs;grind)))) (Zk 0 1 [19] (de (wk [0,0] (Zv (W2 n.decls x2) (And.intro Yl Xk) fl))))))))))
   have XY:¬(s.op≠15):=Y7 Ym Xk
   exact Zk 0 11 [9,10,11,12,13,14,15,16,17,18,19] (de (wk [0,0] (Zv false (And.intro Yl Xk) fl)))
  have WQ:¬(s.op≠14):=Y7 Ym Yl
  exact Zk 0 16 [4,5,6,7,8,9,10,11,12,13,14,15,16,17,18,19] (de (wk [0,0] (Zv false Yl fl)))
 refine ac ((s.op != 14)&&((s.op != 15)&&W2 n.decls x2)) (p:=(s.op≠14)/\((s.op≠15)/\(W2 n.decls x2=true))) (YG Ym (YG Ym Iff.rfl)) (fun Zf=>?_) (fun Zf=>?_)
 ·exact ar (Zo (ZZ (.i (-1)) (li (by first|assumption|omega|rfl|(rw [CS om])|(rw [CT (KQ om Z3) om])|(rw [CR (KQ om Z3) om Zs];clear Z3 Zs;grind)))))
 exact ak (ar (Zo (ZZ (.i 0) (li (by first|assumption|omega|rfl|(rw [CS om])|(rw [CT (KQ om Z3) om])|(rw [CR (KQ om Z3) om Zs];clear Z3 Zs;grind))))))
theorem SD (n:Zi) (us:LI) (s:Z5) (hn:X3 n:=by exact ob) (hop:s.op=7∨s.op=8:=by exact ob) (hb:us.length+4*s.sz<=1000000000:=by exact ob) (ih:∀(b:Z7) (us:LI),(b.sz<s.sz)->(us.length+4*b.sz<=1000000000)->Zl 128 [Yo n,Z4 us,Y3 b] [] (Yq (.i (Xm n us b)))):Zl 214 [Yo n,Z4 us,YL s] [] (Yq (.i (TJ n us s.op s.num s.kids))):=by
 have Xw:=hn.decls
 have hkz:=TK s
 refine ZF 71 Tryz.func214 (ar (iA (YQ n) fun b1=>iA (XC s) fun b2=>Z0 (Zu 4 [1,0] (ic [] (JZ n.decls s.num) ?_))))
 rintro _ _ ⟨v1,rfl,rfl⟩
 refine Z0 (Y4 1 (io (.i (((Y1 n.decls s.num).length:Nat):Int)) (.i (((Z6 (Y1 n.decls s.num)).length:Nat):Int)) (li (by rw [Y6])) (Z0 (X2 (VD [1] (XR (fun fz gz F h=>F=sF [1,3,5] fz [(7,Z4 (Y1 n.decls s.num)),(8,.i (((Xs n.decls s.op s.num).length:Nat):Int))]/\h=[Zc gz 1,Zc gz 2]) ?_ ?_))))))
 ·refine ac (s.op==7) Zq (fun Za=>?_) (fun Za=>?_)
  ·exact UT (ZU ⟨rfl,rfl⟩ (wk [1,1] (fc (x:=ZQ (Y1 n.decls s.num) v1) (Zd.forget _ _) (fc (x:=.i 2) (li (by rw [Xs,Ze Za];rfl)) fl))))
  exact ak (ZU ⟨rfl,rfl⟩ (wk [1,1] (fc (x:=ZQ (Y1 n.decls s.num) v1) (Zd.forget _ _) (fc (x:=.i (((Y1 n.decls s.num).length:Nat):Int)) (li (by rw [Xs,Z8 Za,AZ])) fl))))
 rintro F h ⟨rfl,rfl⟩
 refine X2 (Xj [1,3,5,7,8] [(31,.b (((((Xs n.decls s.op s.num).length:Nat):Int)==0)||((s.kids.length:Int) != (((Xs n.decls s.op s.num).length:Nat):Int))))] (fun gz=>gz) ?_ ?_)
 ·refine Z1 3 (ib (b:=((((Xs n.decls s.op s.num).length:Nat):Int)==0)) 25 (fun Zb=>?_) (fun Zb=>?_))
  ·exact Z0 (wk [0,0] (Zv true Zb fl))
  exact ZK 2 [0] (iw (Uw s.kids) (Z0 (wk [0,0] (Zv ((s.kids.length:Int) != (((Xs n.decls s.op s.num).length:Nat):Int)) Zb fl))))
 refine ac (((((Xs n.decls s.op s.num).length:Nat):Int)==0)||((s.kids.length:Int) != (((Xs n.decls s.op s.num).length:Nat):Int))) (p:=((((Xs n.decls s.op s.num).length:Nat):Int)=0)∨((s.kids.length:Int)≠(((Xs n.decls s.op s.num).length:Nat):Int))) (Yi Zq Ym) (fun Zf=>?_) (fun Zf=>?_)
 ·exact ar (Zo (ZZ (.i (-1)) (li (by rw [TJ,Ze om]))))
 refine ak (ZD (Yc (ab 0 (Y5 (fun fz gz m F h=>∃(k:Nat) (t:Int),(k<=s.kids.length)/\(V2 n us (s.kids.drop k) ((Xs n.decls s.op s.num).drop k) (decide (k=0)) t=V2 n us s.kids (Xs n.decls s.op s.num) true 0)/\F=sF [1,3,5,7,8] fz [(9,.i t),(10,.i k)]/\h=gz/\m=s.kids.length-k) _ _ _ ⟨0,0,ob,(by rfl),rfl,rfl,rfl⟩ (wk [0,0] (fr (Yf fl))) ?_))))
 rintro m F h ⟨k,t,Yh,Zj,rfl,rfl,rfl⟩
 refine X2 (Y2 ((k:Int)<(((Xs n.decls s.op s.num).length:Nat):Int)) (fun ZB=>?_) (fun ZB=>?_))
 ·refine ak (aq (ab 1 (ZD (X2 (VD [0] (XR (fun fz gz F h=>∃(m:LI),((Xs n.decls s.op s.num)[k]? = some m)/\F=sF [1,3,5,7,8,9,10] fz [(11,Z4 (us++m))]/\h=gz) ?_ ?_))))))
  ·refine ac (s.op==8) Zq (fun ZV=>?_) (fun ZV=>?_)
   ·refine aE 10 (ZL 5 10 [0,1,2,3,4] [1] ?_)
    obtain ⟨x1,Z3⟩:=Zt (Y1 n.decls s.num) k (by rw [Xs,Z8 om,AZ] at ZB;omega)
    refine dx 5 (Zh none (k:Int) 1 (Y0 Z3)) (Zk 3 4 [6] (Z9 7 (Yt 7 [] [] [] (KF n.decls x1) (Z9 8 (dc 8 [] [] [] (Kd us (ZX n.decls x1) (hl:=(by have:=U4 Xw x1;omega))) ?_)))))
    rintro _ _ ⟨v2,rfl,rfl⟩
    exact Zk 0 1 [9] (de (ZU ⟨(ZX n.decls x1),(by rw [show s.op=8 from ZV];exact Z27 Z3),rfl,rfl⟩ (wk [1,1] fl)))
   exact ak (ZU ⟨[],(by rw [Xs,Ze om];have:k=0∨k=1:=(by rw [Xs,Ze om] at ZB;simp at ZB;omega);rcases this with rfl|rfl<;>rfl),rfl,rfl⟩ (wk [0,0] (fc (x:=Z4 us) (Zd.sl _ (Yr Z6 (by simp))) fl)))
  rintro F h ⟨m,K1,rfl,rfl⟩
  refine aD 9 (ZL 4 9 [0,1,2,3,4] [1,0] ?_)
  obtain ⟨x2,Zs⟩:=Zt s.kids k om
  have hks:=Tv Zs
  have hm3:=Fc Xw K1
  refine dx 5 (Zh none (k:Int) 2 (T7 Zs)) (Zk 2 3 [6] (Z9 7 (Yt 7 [] [] [] (ih x2 (us++m) ob (by simp only [Yx];omega)) (Zk 0 1 [8] (de (X2 (Xj [1,3,5,7,8,10,12] [(68,.b ((decide ((Xm n (us++m) x2)<0))||((decide ((k:Int)>0))&&((Xm n (us++m) x2) != t))))] (fun gz=>gz) ?_ ?_)))))))
  ·refine Z1 3 (ib (b:=(decide ((Xm n (us++m) x2)<0))) 60 (fun Zx=>?_) (fun Zx=>?_))
   ·exact Z0 (wk [0,0] (Zv true Zx fl))
   refine Z1 3 (ib (b:=(decide ((k:Int)>0))) 63 (fun Yl=>?_) (fun Yl=>?_))
   ·exact Z0 (wk [0,0] (Zv ((Xm n (us++m) x2) != t) (And.intro Zx Yl) fl))
   exact Z0 (wk [0,0] (Zv false (And.intro Zx Yl) fl))
  refine ac ((decide ((Xm n (us++m) x2)<0))||((decide ((k:Int)>0))&&((Xm n (us++m) x2) != t))) (p:=((Xm n (us++m) x2)<0)∨(((k:Int)>0)/\((Xm n (us++m) x2)≠t))) (Yi dq (YG dq Ym)) (fun Xd=>?_) (fun Xd=>?_)
  ·exact ar (Zo (ZZ (.i (-1)) (li (by rw [TJ,Z8 om,<-Zj];exact (Pz Zs K1 Xd).symm))))
  exact ak (UT (az (Z1 1 (ZJ k (Z0 (ZM ⟨k+1,Xm n (us++m) x2,ob,(by rw [<-Zj];exact (PB Zs K1 Xd).symm),rfl,rfl,rfl⟩ (wk [0,0] (fr (ZP k fl)))))))))
 exact ax 0 (ar (Zo (ZZ (.i t) (li (by rw [TJ,Z8 om,<-Zj];exact (PA om).symm)))))
theorem SJ (n:Zi) (us:LI) (s:Z5) (hn:X3 n:=by exact ob) (hb:us.length+4*s.sz<=1000000000:=by exact ob) (ih:∀(b:Z7) (us:LI),(b.sz<s.sz)->(us.length+4*b.sz<=1000000000)->Zl 128 [Yo n,Z4 us,Y3 b] [] (Yq (.i (Xm n us b)))):Zl 164 [Yo n,Z4 us,YL s] [] (Yq (.i (Yg n us s))):=by
 have Xw:=hn.decls
 have hkz:=TK s
 have haz:=Qc s
 have hdl:=Xw.len
 have hst:=AS n us s
 refine ZF 183 Tryz.func164 (ar (iA (YQ n) fun b1=>iA (XC s) fun b2=>Z0 (X2 (Xz 9 [1,3,5] [(16,.b ((s.num != 0)&&(!VK s.op)))] (fun gz=>gz) ?_ (fun hj1=>?_)))))
 ·refine Xz 15 [1,3,5] [(22,.b (((s.num != 0)&&(!VK s.op))||(!Uj us s.op s.into)))] (fun gz=>gz) ?_ (fun hj2=>?_)
  ·refine Xj [1,3,5] [(38,.b ((((s.num != 0)&&(!VK s.op))||(!Uj us s.op s.into))||((decide ((s.kids.length:Int)>0))&&((s.op != 7)&&(s.op != 8)))))] (fun gz=>gz) ?_ ?_
   ·refine Z1 1 (ib (b:=(((s.num != 0)&&(!VK s.op))||(!Uj us s.op s.into))) 23 (fun Zb=>?_) (fun Zb=>?_))
    ·have ZT:((s.num≠0)/\(¬(VK s.op=true)))∨(¬(Uj us s.op s.into=true)):=((Yi (YG Ym (Yj Iff.rfl)) (Yj Iff.rfl))).1 Zb
     exact Z0 (wk [0,0] (Zv true Zb fl))
    have Yd:¬(((s.num≠0)/\(¬(VK s.op=true)))∨(¬(Uj us s.op s.into=true))):=Y7 (Yi (YG Ym (Yj Iff.rfl)) (Yj Iff.rfl)) Zb
    refine ZK 2 [0] (iw (Uw s.kids) (Z1 2 (ib (b:=(decide ((s.kids.length:Int)>0))) 28 (fun Zx=>?_) (fun Zx=>?_))))
    ·have YE:(s.kids.length:Int)>0:=(dq).1 Zx
     refine ZK 5 [0] (ib (b:=(s.op != 7)) 33 (fun Yl=>?_) (fun Yl=>?_))
     ·have YI:s.op≠7:=(Ym).1 Yl
      exact VD [0] (wk [0,0] (Zv (s.op != 8) (And.intro Zb (And.intro Zx Yl)) fl))
     have X9:¬(s.op≠7):=Y7 Ym Yl
     exact Z0 (wk [0,0] (Zv false (And.intro Zb (And.intro Zx Yl)) fl))
    have XG:¬((s.kids.length:Int)>0):=Y7 dq Zx
    exact Z0 (wk [0,0] (Zv false (And.intro Zb Zx) fl))
   refine ac ((((s.num != 0)&&(!VK s.op))||(!Uj us s.op s.into))||((decide ((s.kids.length:Int)>0))&&((s.op != 7)&&(s.op != 8)))) (p:=(((s.num≠0)/\(¬(VK s.op=true)))∨(¬(Uj us s.op s.into=true)))∨(((s.kids.length:Int)>0)/\((s.op≠7)/\(s.op≠8)))) (Yi (Yi (YG Ym (Yj Iff.rfl)) (Yj Iff.rfl)) (YG dq (YG Ym Ym))) (fun Za=>?_) (fun Za=>?_)
   ·exact ar (Zo (ZZ (.i (-1)) (li (by first|rfl|( grind)|(have q:=T3 (ds:=n.decls) (us:=us) (args:=s.args) om; grind)|(have q:=T4 (ds:=n.decls) (us:=us) (args:=s.args) om ‹s.args[0]? = some _› om; grind)|(have q:=UQ (ds:=n.decls) (us:=us) (args:=s.args) om ‹s.args[0]? = some _› om ‹us[_]? = some _›; grind)))))
   refine ak (X2 (VD [0] (ab 0 (ar (YD (s.op==0) Zq (fun Zf=>?_) (fun Zf=>?_))))))
   ·refine Zu 2 [0] (iw (Y6 s.args) (Xj [] [(51,.b (((s.args.length:Int)==0)&&(decide ((-999)<=s.num/\s.num<=999))))] (fun gz=>gz) ?_ ?_))
    ·refine Z1 2 (ib (b:=((s.args.length:Int)==0)) 47 (fun Xk=>?_) (fun Xk=>?_))
     ·have XY:(s.args.length:Int)=0:=(Zq).1 Xk
      exact ZK 2 [0] (Zw [] (UZ s.num (-999) 999) (Z0 (wk [0,0] (Zv (decide ((-999)<=s.num/\s.num<=999)) Xk fl))))
     have WQ:¬((s.args.length:Int)=0):=Y7 Zq Xk
     exact Z0 (wk [0,0] (Zv false Xk fl))
    refine ac (((s.args.length:Int)==0)&&(decide ((-999)<=s.num/\s.num<=999))) (p:=((s.args.length:Int)=0)/\((-999)<=s.num/\s.num<=999)) (YG Zq dq) (fun ZB=>?_) (fun ZB=>?_)
    ·exact ar (Zo (ZZ (.i 0) (li (by first|rfl|( grind)|(have q:=T3 (ds:=n.decls) (us:=us) (args:=s.args) om; grind)|(have q:=T4 (ds:=n.decls) (us:=us) (args:=s.args) om ‹s.args[0]? = some _› om; grind)|(have q:=UQ (ds:=n.decls) (us:=us) (args:=s.args) om ‹s.args[0]? = some _› om ‹us[_]? = some _›; grind)))))
    exact ak (ar (Zo (ZZ (.i (-1)) (li (by first|rfl|( grind)|(have q:=T3 (ds:=n.decls) (us:=us) (args:=s.args) om; grind)|(have q:=T4 (ds:=n.decls) (us:=us) (args:=s.args) om ‹s.args[0]? = some _› om; grind)|(have q:=UQ (ds:=n.decls) (us:=us) (args:=s.args) om ‹s.args[0]? = some _› om ‹us[_]? = some _›; grind))))))
   refine Yc (XR (fun fz gz F h=>F=sF [1,3,5,40] fz [(52,.b ((s.op==1)||((s.op==2)||((s.op==3)||(s.op==4)))))]/\h=gz) ?_ ?_)
   ·refine ac (s.op==1) Zq (fun ZV=>?_) (fun ZV=>?_)
    ·exact ak (ZU ⟨rfl,rfl⟩ (wk [0,0] (fc (x:=.b (s.op==1)) (lb (by first|rfl|(rw [Ze ZV])|(rw [Z8 ZV])|(simp [ZV];done)|(rw [Xu];simp [ZV];done)|omega)) fl)))
    refine ar (YD (s.op==2) Zq (fun Xd=>?_) (fun Xd=>?_))
    ·exact ak (ZU ⟨rfl,rfl⟩ (wk [0,0] (fc (x:=.b (s.op==2)) (lb (by first|rfl|(rw [Ze ZV])|(rw [Z8 ZV])|(simp [ZV,Xd];done)|(rw [Xu];simp [ZV,Xd];done)|omega)) fl)))
    refine ar (YD (s.op==3) Zq (fun Xe=>?_) (fun Xe=>?_))
    ·exact ak (ZU ⟨rfl,rfl⟩ (wk [0,0] (fc (x:=.b (s.op==3)) (lb (by first|rfl|(rw [Ze ZV])|(rw [Z8 ZV])|(simp [ZV,Xd,Xe];done)|(rw [Xu];simp [ZV,Xd,Xe];done)|omega)) fl)))
    exact UT (ZU ⟨rfl,rfl⟩ (wk [0,0] (fc (x:=.b (s.op==4)) (lb (by first|rfl|(rw [Ze ZV])|(rw [Z8 ZV])|(simp [ZV,Xd,Xe];done)|(rw [Xu];simp [ZV,Xd,Xe];done)|omega)) fl)))
   rintro F h ⟨rfl,rfl⟩
   refine ac ((s.op==1)||((s.op==2)||((s.op==3)||(s.op==4)))) (p:=(s.op=1)∨((s.op=2)∨((s.op=3)∨(s.op=4)))) (Yi Zq (Yi Zq (Yi Zq Zq))) (fun VW=>?_) (fun VW=>?_)
   ·refine Zu 3 [0] (iL (Z6 [0,0]) 2 1 fun v1=>ZO 0 [(60,Z4 [0,0])] (Zw [] (BJ us s.args [0,0] (hl_tys:=(by first|(simp;done)|(have:=U4 Xw s.num;omega)))) (ie (ac (Wg us s.args [0,0]) Iff.rfl (fun VL=>?_) (fun VL=>?_)))))
    ·exact ar (Zo (ZZ (.i 0) (li (by first|rfl|( grind)|(have q:=T3 (ds:=n.decls) (us:=us) (args:=s.args) om; grind)|(have q:=T4 (ds:=n.decls) (us:=us) (args:=s.args) om ‹s.args[0]? = some _› om; grind)|(have q:=UQ (ds:=n.decls) (us:=us) (args:=s.args) om ‹s.args[0]? = some _› om ‹us[_]? = some _›; grind)))))
    exact ak (ar (Zo (ZZ (.i (-1)) (li (by first|rfl|( grind)|(have q:=T3 (ds:=n.decls) (us:=us) (args:=s.args) om; grind)|(have q:=T4 (ds:=n.decls) (us:=us) (args:=s.args) om ‹s.args[0]? = some _› om; grind)|(have q:=UQ (ds:=n.decls) (us:=us) (args:=s.args) om ‹s.args[0]? = some _› om ‹us[_]? = some _›; grind))))))
   refine ar (YD (s.op==5) Zq (fun VM=>?_) (fun VM=>?_))
   ·refine Zu 3 [0] (iL (Z6 [0]) 1 1 fun v2=>ZO 0 [(67,Z4 [0])] (Zw [] (BJ us s.args [0] (hl_tys:=(by first|(simp;done)|(have:=U4 Xw s.num;omega)))) (ie (ac (Wg us s.args [0]) Iff.rfl (fun TF=>?_) (fun TF=>?_)))))
    ·exact ar (Zo (ZZ (.i 0) (li (by first|rfl|( grind)|(have q:=T3 (ds:=n.decls) (us:=us) (args:=s.args) om; grind)|(have q:=T4 (ds:=n.decls) (us:=us) (args:=s.args) om ‹s.args[0]? = some _› om; grind)|(have q:=UQ (ds:=n.decls) (us:=us) (args:=s.args) om ‹s.args[0]? = some _› om ‹us[_]? = some _›; grind)))))
    exact ak (ar (Zo (ZZ (.i (-1)) (li (by first|rfl|( grind)|(have q:=T3 (ds:=n.decls) (us:=us) (args:=s.args) om; grind)|(have q:=T4 (ds:=n.decls) (us:=us) (args:=s.args) om ‹s.args[0]? = some _› om; grind)|(have q:=UQ (ds:=n.decls) (us:=us) (args:=s.args) om ‹s.args[0]? = some _› om ‹us[_]? = some _›; grind))))))
   refine ar (YD (s.op==6) Zq (fun Jv=>?_) (fun Jv=>?_))
   ·refine aD 17 (ZL 13 17 [0,1,2,3] [1,0] (Z9 4 (Yt 4 [] [] [] (Mj n.decls s.num) (An [3,5] [(87,.b ((decide ((Wh n.decls s.num)>0))&&Wg us s.args (ZX n.decls s.num)))] (fun gz=>gz) ?_ ?_))))
    ·refine Zk 10 12 [5,6] (db (b:=(decide ((Wh n.decls s.num)>0))) 77 (fun Wi=>?_) (fun Wi=>?_))
     ·have V8:(Wh n.decls s.num)>0:=(dq).1 Wi
      exact ZL 3 10 [7,8,9,10,11,12,13] [0,1,0] (Z9 14 (Yt 14 [] [0] [b2] (KF n.decls s.num (hd:=Xw)) (Z9 15 (Yt 15 [] [] [] (BJ us s.args (ZX n.decls s.num) (hl_tys:=(by first|(simp;done)|(have:=U4 Xw s.num;omega)))) (Zk 0 1 [16] (de (wk [0,0] (Zv (Wg us s.args (ZX n.decls s.num)) Wi fl))))))))
     have Uy:¬((Wh n.decls s.num)>0):=Y7 dq Wi
     exact Zk 0 10 [7,8,9,10,11,12,13,14,15,16] (de (wk [0,0] (Zv false Wi fl)))
    refine ac ((decide ((Wh n.decls s.num)>0))&&Wg us s.args (ZX n.decls s.num)) (p:=((Wh n.decls s.num)>0)/\(Wg us s.args (ZX n.decls s.num)=true)) (YG dq Iff.rfl) (fun Q1=>?_) (fun Q1=>?_)
    ·exact Zu 4 [1,0] (Zw [] (Mj n.decls s.num) (Zo (ZZ (.i (Wh n.decls s.num)) (li (by first|rfl|( grind)|(have q:=T3 (ds:=n.decls) (us:=us) (args:=s.args) om; grind)|(have q:=T4 (ds:=n.decls) (us:=us) (args:=s.args) om ‹s.args[0]? = some _› om; grind)|(have q:=UQ (ds:=n.decls) (us:=us) (args:=s.args) om ‹s.args[0]? = some _› om ‹us[_]? = some _›; grind))))))
    exact ak (ar (Zo (ZZ (.i (-1)) (li (by first|rfl|( grind)|(have q:=T3 (ds:=n.decls) (us:=us) (args:=s.args) om; grind)|(have q:=T4 (ds:=n.decls) (us:=us) (args:=s.args) om ‹s.args[0]? = some _› om; grind)|(have q:=UQ (ds:=n.decls) (us:=us) (args:=s.args) om ‹s.args[0]? = some _› om ‹us[_]? = some _›; grind))))))
   refine ar (YD (s.op==7) Zq (fun J0=>?_) (fun J0=>?_))
   ·refine Zu 3 [0] (iL (Z6 [0]) 1 1 fun v3=>ZO 0 [(98,Z4 [0])] (Zw [] (BJ us s.args [0] (hl_tys:=(by first|(simp;done)|(have:=U4 Xw s.num;omega)))) (ie (ac (Wg us s.args [0]) Iff.rfl (fun Ck=>?_) (fun Ck=>?_)))))
    ·exact Zu 3 [2,1] (Zw [] (SD n us s (ih:=ob)) (Zo (ZZ (.i (TJ n us s.op s.num s.kids)) (li (by first|rfl|( grind)|(have q:=T3 (ds:=n.decls) (us:=us) (args:=s.args) om; grind)|(have q:=T4 (ds:=n.decls) (us:=us) (args:=s.args) om ‹s.args[0]? = some _› om; grind)|(have q:=UQ (ds:=n.decls) (us:=us) (args:=s.args) om ‹s.args[0]? = some _› om ‹us[_]? = some _›; grind))))))
    exact ak (ar (Zo (ZZ (.i (-1)) (li (by first|rfl|( grind)|(have q:=T3 (ds:=n.decls) (us:=us) (args:=s.args) om; grind)|(have q:=T4 (ds:=n.decls) (us:=us) (args:=s.args) om ‹s.args[0]? = some _› om; grind)|(have q:=UQ (ds:=n.decls) (us:=us) (args:=s.args) om ‹s.args[0]? = some _› om ‹us[_]? = some _›; grind))))))
   refine ar (YD (s.op==8) Zq (fun IQ=>?_) (fun IQ=>?_))
   ·refine Zu 5 [0,0] (iL (Z6 [s.num]) 1 1 fun v4=>ZO 0 [(111,Z4 [s.num])] (Zw [] (BJ us s.args [s.num] (hl_tys:=(by first|(simp;done)|(have:=U4 Xw s.num;omega)))) (ie (ac (Wg us s.args [s.num]) Iff.rfl (fun IR=>?_) (fun IR=>?_)))))
    ·exact Zu 3 [2,1] (Zw [] (SD n us s (ih:=ob)) (Zo (ZZ (.i (TJ n us s.op s.num s.kids)) (li (by first|rfl|( grind)|(have q:=T3 (ds:=n.decls) (us:=us) (args:=s.args) om; grind)|(have q:=T4 (ds:=n.decls) (us:=us) (args:=s.args) om ‹s.args[0]? = some _› om; grind)|(have q:=UQ (ds:=n.decls) (us:=us) (args:=s.args) om ‹s.args[0]? = some _› om ‹us[_]? = some _›; grind))))))
    exact ak (ar (Zo (ZZ (.i (-1)) (li (by first|rfl|( grind)|(have q:=T3 (ds:=n.decls) (us:=us) (args:=s.args) om; grind)|(have q:=T4 (ds:=n.decls) (us:=us) (args:=s.args) om ‹s.args[0]? = some _› om; grind)|(have q:=UQ (ds:=n.decls) (us:=us) (args:=s.args) om ‹s.args[0]? = some _› om ‹us[_]? = some _›; grind))))))
   refine Yc (XR (fun fz gz F h=>F=sF [1,3,5,40] fz [(117,.b ((s.op==9)||(s.op==10)))]/\h=gz) ?_ ?_)
   ·refine ac (s.op==9) Zq (fun Jw=>?_) (fun Jw=>?_)
    ·exact ak (ZU ⟨rfl,rfl⟩ (wk [0,0] (fc (x:=.b (s.op==9)) (lb (by first|rfl|(rw [Ze Jw])|(rw [Z8 Jw])|(simp [Jw];done)|(rw [Xu];simp [Jw];done)|omega)) fl)))
    exact UT (ZU ⟨rfl,rfl⟩ (wk [0,0] (fc (x:=.b (s.op==10)) (lb (by first|rfl|(rw [Ze Jw])|(rw [Z8 Jw])|(simp [Jw];done)|(rw [Xu];simp [Jw];done)|omega)) fl)))
   rintro F h ⟨rfl,rfl⟩
   refine ac ((s.op==9)||(s.op==10)) (p:=(s.op=9)∨(s.op=10)) (Yi Zq Zq) (fun Z7w=>?_) (fun Z7w=>?_)
   ·exact Zu 3 [1,0] (Zw [] (Zeo n us s) (Zo (ZZ (.i (TM n us s.op s.num s.args)) (li (by first|rfl|( grind)|(have q:=T3 (ds:=n.decls) (us:=us) (args:=s.args) om; grind)|(have q:=T4 (ds:=n.decls) (us:=us) (args:=s.args) om ‹s.args[0]? = some _› om; grind)|(have q:=UQ (ds:=n.decls) (us:=us) (args:=s.args) om ‹s.args[0]? = some _› om ‹us[_]? = some _›; grind))))))
   refine ar (YD (s.op==11) Zq (fun Z7x=>?_) (fun Z7x=>?_))
   ·refine aD 26 (ZL 24 26 [0,1] [0] (dw 2 (Y6 s.args) (Zk 21 23 [3,4] (db (b:=((s.args.length:Int)==2)) 130 (fun WA=>?_) (fun WA=>?_)))))
    ·have UU:(s.args.length:Int)=2:=(Zq).1 WA
     refine ZL 19 21 [5,6] [0] ?_
     obtain ⟨x1,Z3⟩:=Zt s.args 0 om
     refine dx 7 (Zh none 0 1 (Y0 Z3)) (Zk 16 18 [8,9] (dw 10 (Y6 us) (da 11 (((us.length:Int)-1)) (((us.length:Int))-(1)) (Z9 12 (Yt 12 [] [] [] (UZ x1 0 ((us.length:Int)-1)) (Zk 11 13 [13,14] (db (b:=(decide (0<=x1/\x1<=((us.length:Int)-1)))) 140 (fun Vt=>?_) (fun Vt=>?_))))))))
     ·have UV:0<=x1/\x1<=((us.length:Int)-1):=(dq).1 Vt
      refine ZL 6 11 [15,16,17,18,19] [1,0] (dx 20 (Zh none 0 1 (Y0 Z3)) (Zk 4 5 [21] ?_))
      obtain ⟨x2,Zs⟩:=Zt us x1.toNat om
      refine dx 22 (Zh none x1 1 (Y0 Zs)) (Zk 2 3 [23] (Z9 24 (Yt 24 [] [] [] (EO n.decls x2) (Zk 0 1 [25] (de (ac (W2 n.decls x2) Iff.rfl (fun Z7y=>?_) (fun Z7y=>?_)))))))
      ·refine aD 14 (ZL 9 14 [0,1,2,3,4] [1,0] (dx 5 (Zh none 0 1 (Y0 Z3)) (Zk 7 8 [6] (dx 7 (Zh none x1 1 (Y0 Zs)) (Zk 5 6 [8] (da 9 ((x2-1)) ((x2)-(1)) (hb:=(by have:=L6 ‹W2 n.decls _=true›;omega)) ?_))))))
       obtain ⟨x3,YJ⟩:=Zt n.decls ((x2-1).toNat) (by have:=L6 ‹W2 n.decls _=true›;omega)
       have had:=Z1z (us:=us) (args:=s.args) om ‹s.args[0]? = some _› om ‹us[_]? = some _› ‹W2 n.decls _=true› YJ
       refine dx 10 (AR (es:=X7 n.decls) (hv:=none) (j:=(x2-1)) (sz:=3) (y:=C4 x3) kr (by have:=L6 ‹W2 n.decls _=true›;omega) (VT YJ) rfl) (Zk 2 3 [11] (Z9 12 (dA 12 [0,1] [b2,b1] [.i 0,.i 0,nl] fun b3=>Z9 13 (YM 13 0 [] [] b3 (K3 x3) (de (aD 8 (ZL 5 8 [0,1,2] [1] (dx 3 (Ja (es:=Z6 s.args) (hv:=none) (l:=1) (m:=(((Z6 s.args).length:Nat):Int)) (sz:=1) (es':=Z6 (s.args.drop 1)) kr om (by simp<;>omega) (by simp<;>omega) (YB _) (by first|(simp only [U7,VF,Js,Ar];done)|(simp only [U7,VF,Js,Ar];rfl)|(simp [Js,Ar];done))) (ZL 2 4 [4,5] [0] (Z9 6 (dL 6 [1] [b2] (Z6 [x3.frm]) 1 1 fun v5=>Yv 1 1 [] [(170,Z4 [x3.frm])] (Z9 7 (Yt 7 [] [] [] (BJ us (s.args.drop 1) [x3.frm] (hl_tys:=(by first|(simp;done)|(have:=U4 Xw s.num;omega)))) (de (ac (Wg us (s.args.drop 1) [x3.frm]) Iff.rfl (fun OR=>?_) (fun OR=>?_))))))))))))))))
       ·exact JS [1] (ZG (ZZ (.i x3.to_) (li (by first|rfl|(clear Z3 Zs YJ;grind)|(have q:=T3 (ds:=n.decls) (us:=us) (args:=s.args) om;clear Z3 Zs YJ;grind)|(have q:=T4 (ds:=n.decls) (us:=us) (args:=s.args) om ‹s.args[0]? = some _› om;clear Z3 Zs YJ;grind)|(have q:=UQ (ds:=n.decls) (us:=us) (args:=s.args) om ‹s.args[0]? = some _› om ‹us[_]? = some _›;clear Z3 Zs YJ;grind)))))
       exact ak (ar (Zo (ZZ (.i (-1)) (li (by first|rfl|(clear Z3 Zs YJ;grind)|(have q:=T3 (ds:=n.decls) (us:=us) (args:=s.args) om;clear Z3 Zs YJ;grind)|(have q:=T4 (ds:=n.decls) (us:=us) (args:=s.args) om ‹s.args[0]? = some _› om;clear Z3 Zs YJ;grind)|(have q:=UQ (ds:=n.decls) (us:=us) (args:=s.args) om ‹s.args[0]? = some _› om ‹us[_]? = some _›;clear Z3 Zs YJ;grind))))))
      exact ak (ar (Zo (ZZ (.i (-1)) (li (by first|rfl|(clear Z3 Zs;grind)|(have q:=T3 (ds:=n.decls) (us:=us) (args:=s.args) om;clear Z3 Zs;grind)|(have q:=T4 (ds:=n.decls) (us:=us) (args:=s.args) om ‹s.args[0]? = some _› om;clear Z3 Zs;grind)|(have q:=UQ (ds:=n.decls) (us:=us) (args:=s.args) om ‹s.args[0]? = some _› om ‹us[_]? = some _›;clear Z3 Zs;grind))))))
     have Qj:¬(0<=x1/\x1<=((us.length:Int)-1)):=Y7 dq Vt
     exact Zk 0 11 [15,16,17,18,19,20,21,22,23,24,25] (de (W9 (ak (ar (Zo (ZZ (.i (-1)) (li (by first|rfl|(clear Z3;grind)|(have q:=T3 (ds:=n.decls) (us:=us) (args:=s.args) om;clear Z3;grind)|(have q:=T4 (ds:=n.decls) (us:=us) (args:=s.args) om ‹s.args[0]? = some _› om;clear Z3;grind)|(have q:=UQ (ds:=n.decls) (us:=us) (args:=s.args) om ‹s.args[0]? = some _› om ‹us[_]? = some _›;clear Z3;grind)))))))))
    have Qk:¬((s.args.length:Int)=2):=Y7 Zq WA
    exact Zk 0 21 [5,6,7,8,9,10,11,12,13,14,15,16,17,18,19,20,21,22,23,24,25] (de (W9 (ak (ar (Zo (ZZ (.i (-1)) (li (by first|rfl|( grind)|(have q:=T3 (ds:=n.decls) (us:=us) (args:=s.args) om; grind)|(have q:=T4 (ds:=n.decls) (us:=us) (args:=s.args) om ‹s.args[0]? = some _› om; grind)|(have q:=UQ (ds:=n.decls) (us:=us) (args:=s.args) om ‹s.args[0]? = some _› om ‹us[_]? = some _›; grind)))))))))
   refine Yc (XR (fun fz gz F h=>F=sF [1,3,5] fz [(174,.b ((s.op==14)||((s.op==15)||((s.op==16)||(s.op==17)))))]/\h=gz) ?_ ?_)
   ·refine ac (s.op==14) Zq (fun TT=>?_) (fun TT=>?_)
    ·exact ak (ZU ⟨rfl,rfl⟩ (wk [0,0] (fc (x:=.b (s.op==14)) (lb (by first|rfl|(rw [Ze TT])|(rw [Z8 TT])|(simp [TT];done)|(rw [Xu];simp [TT];done)|omega)) fl)))
    refine ar (YD (s.op==15) Zq (fun AB=>?_) (fun AB=>?_))
    ·exact ak (ZU ⟨rfl,rfl⟩ (wk [0,0] (fc (x:=.b (s.op==15)) (lb (by first|rfl|(rw [Ze TT])|(rw [Z8 TT])|(simp [TT,AB];done)|(rw [Xu];simp [TT,AB];done)|omega)) fl)))
    refine ar (YD (s.op==16) Zq (fun Eg=>?_) (fun Eg=>?_))
    ·exact ak (ZU ⟨rfl,rfl⟩ (wk [0,0] (fc (x:=.b (s.op==16)) (lb (by first|rfl|(rw [Ze TT])|(rw [Z8 TT])|(simp [TT,AB,Eg];done)|(rw [Xu];simp [TT,AB,Eg];done)|omega)) fl)))
    exact UT (ZU ⟨rfl,rfl⟩ (wk [0,0] (fc (x:=.b (s.op==17)) (lb (by first|rfl|(rw [Ze TT])|(rw [Z8 TT])|(simp [TT,AB,Eg];done)|(rw [Xu];simp [TT,AB,Eg];done)|omega)) fl)))
   rintro F h ⟨rfl,rfl⟩
   refine ac ((s.op==14)||((s.op==15)||((s.op==16)||(s.op==17)))) (p:=(s.op=14)∨((s.op=15)∨((s.op=16)∨(s.op=17)))) (Yi Zq (Yi Zq (Yi Zq Zq))) (fun Z7z=>?_) (fun Z7z=>?_)
   ·exact Zu 3 [1,0] (Zw [] (Zef n us s) (Zo (ZZ (.i (Qu n.decls us s.op s.args)) (li (by first|rfl|( grind)|(have q:=T3 (ds:=n.decls) (us:=us) (args:=s.args) om; grind)|(have q:=T4 (ds:=n.decls) (us:=us) (args:=s.args) om ‹s.args[0]? = some _› om; grind)|(have q:=UQ (ds:=n.decls) (us:=us) (args:=s.args) om ‹s.args[0]? = some _› om ‹us[_]? = some _›; grind))))))
   exact ak (ar (Zo (ZZ (.i (-1)) (li (by first|rfl|( grind)|(have q:=T3 (ds:=n.decls) (us:=us) (args:=s.args) om; grind)|(have q:=T4 (ds:=n.decls) (us:=us) (args:=s.args) om ‹s.args[0]? = some _› om; grind)|(have q:=UQ (ds:=n.decls) (us:=us) (args:=s.args) om ‹s.args[0]? = some _› om ‹us[_]? = some _›; grind))))))
  refine Z1 1 (ib (b:=((s.num != 0)&&(!VK s.op))) 17 (fun Vi=>?_) (fun Vi=>?_))
  ·have J1:(s.num≠0)/\(¬(VK s.op=true)):=((YG Ym (Yj Iff.rfl))).1 Vi
   exact Z1 5 (Yp (wk [0,0] (Zv true Vi fl)) hj2)
  have Kx:¬((s.num≠0)/\(¬(VK s.op=true))):=Y7 (YG Ym (Yj Iff.rfl)) Vi
  exact ZK 2 [0] (Zw [] (Zez us s) (Z1 2 (Yp (wk [0,0] (Zv (!Uj us s.op s.into) Vi fl)) hj2)))
 refine ZK 4 [0] (ib (b:=(s.num != 0)) 11 (fun Vj=>?_) (fun Vj=>?_))
 ·have Bo:s.num≠0:=(Ym).1 Vj
  exact ZK 2 [0] (Zw [] (Zeg s.op) (Z1 2 (Yp (wk [0,0] (Zv (!VK s.op) Vj fl)) hj1)))
 have Jy:¬(s.num≠0):=Y7 Ym Vj
 exact Z1 5 (Yp (wk [0,0] (Zv false Vj fl)) hj1)
theorem Zeb (n:Zi) (us:LI) (b:Z7) (hn:X3 n:=by exact ob) (hb:us.length+4*b.sz<=1000000000:=by exact ob) (ih:∀(s:Z5) (us:LI),(s.sz<b.sz)->(us.length+4*s.sz<=1000000000)->Zl 164 [Yo n,Z4 us,YL s] [] (Yq (.i (Yg n us s)))):Zl 128 [Yo n,Z4 us,Y3 b] [] (Yq (.i (Xm n us b))):=by
 have hbz:=U6 b
 have hbe:=CN n us b
 refine ZF 52 Tryz.func128 (ar (iA (YQ n) fun b1=>iA (Xp b) fun b2=>Z0 (Y4 1 (ic [] (Uh us) ?_))))
 rintro _ _ ⟨v1,rfl,rfl⟩
 refine Z0 (Yc (ab 0 (Y5 (fun fz gz m F h=>∃(k:Nat) (vs:LI) (v:Value),(k<=b.steps.length)/\(vs.length<=us.length+k)/\(XI n (b.steps.drop k) vs=XI n b.steps us)/\F=sF [3,5] fz [(7,ZQ vs v),(8,.i k)]/\h=[Zc gz 1,Zc gz 2,.tail v 1]/\m=b.steps.length-k) _ _ _ ⟨0,us,v1,ob,ob,ob,rfl,rfl,rfl⟩ (wk [1,1,0] (fr (Yf fl))) ?_)))
 rintro m F h ⟨k,vs,v,Yh,Zj,Zy,rfl,rfl,rfl⟩
 refine Yk 3 [0] (iw (Vp b.steps) (Y2 ((k:Int)<(b.steps.length:Int)) (fun Za=>?_) (fun Za=>?_)))
 ·refine ak (aq (ab 1 (aD 9 (ZL 4 9 [0,1,2,3,4] [1,0] ?_))))
  obtain ⟨x1,Z3⟩:=Zt b.steps k om
  have hss:=CA Z3
  refine dx 5 (Zh none (k:Int) 5 (Wx Z3)) (Yv 2 3 [6] [(20,Z4 vs)] (Z9 7 (Yt 7 [] [] [] (ih x1 vs ob ob) (Zk 0 1 [8] (de (X2 (Y2 ((Yg n vs x1)<0) (fun Zf=>?_) (fun Zf=>?_))))))))
  ·refine ZD ?_
   rw [Ya Z3] at Zy
   exact ZG (ZZ (.i (-1)) (li (by clear Z3;first|rfl|omega|grind [XI])))
  refine ak (Zu 3 [0] (Zm (Zh none (k:Int) 5 (Wx Z3)) (Z1 2 (Zw [] (J8 x1.op) (ie (JM (fun fz gz F h=>∃(w:Value),F=sF [3,5,8] fz [(7,ZQ (if XS x1.op=true then vs++[Yg n vs x1] else vs) w)]/\h=[Zc gz 0,Zc gz 1,.tail w 1]) (fun _ _=>rfl) ?_ ?_))))))
  ·refine ac (XS x1.op) Iff.rfl (fun ZB=>?_) (fun ZB=>?_)
   ·exact az (Z1 2 (iL (Z6 [Yg n vs x1]) 1 1 fun v2=>ZO 0 [(38,Z4 [Yg n vs x1])] (ip 3 (Z6 (vs++[Yg n vs x1])) (Z6 vs) (Z6 [Yg n vs x1]) v none 1 (YB _) (YB _) (Wb _) (by simp<;>omega) (by simp [Wa,Z6]) fun v3=>Z0 (ZU ⟨v3,rfl,rfl⟩ (wk [2,2,0] (fc (x:=ZQ (vs++[Yg n vs x1]) v3) (Zd.slh _ (Yr Z6 (by first|rfl|(rw [Ze ZB])|(rw [Z8 ZB])|(simp [ZB];done)|(rw [Xu];simp [ZB];done)|omega))) fl))))))
   exact ak (ZU ⟨v,rfl,rfl⟩ (ZE 3 (fc (x:=ZQ vs v) (Zd.slh _ (Yr Z6 (by first|rfl|(rw [Ze ZB])|(rw [Z8 ZB])|(simp [ZB];done)|(rw [Xu];simp [ZB];done)|omega))) fl)))
  rintro F h ⟨w,rfl,rfl⟩
  refine az (Z1 1 (ZJ k (Z0 ?_)))
  have hdr:=Ya Z3
  exact ZM ⟨k+1,(if XS x1.op=true then vs++[Yg n vs x1] else vs),w,ob,(by split<;>(try simp)<;>omega),(by rw [hdr] at Zy;clear hdr Z3;grind [XI]),rfl,rfl,rfl⟩ (ZE 3 (fr (ZP k fl)))
 refine ax 0 (Yk 3 [0] (iw (Y6 vs) (ia (((vs.length:Int)-1)) (((vs.length:Int))-(1)) (Zw [] (UZ b.result 0 ((vs.length:Int)-1)) (YD (!(decide (0<=b.result/\b.result<=((vs.length:Int)-1)))) (p:=¬(0<=b.result/\b.result<=((vs.length:Int)-1))) (Yj dq) (fun ZV=>?_) (fun ZV=>?_))))))
 ·refine ZD ?_
  try rw [Xn (xs:=b.steps) (k:=k) om] at Zy
  exact ZG (ZZ (.i (-1)) (li (by rw [hbe,<-Zy];show _=(Xy vs b.result).getD (-1);rw [Ko ZV];rfl)))
 refine ak (Zu 3 [0] ?_)
 obtain ⟨x2,Zs⟩:=Zt vs b.result.toNat om
 refine Zm (Zh (some v) b.result 1 (Y0 Zs)) (Z0 ?_)
 try rw [Xn (xs:=b.steps) (k:=k) om] at Zy
 exact ZG (ZZ (.i x2) (li (by rw [hbe,<-Zy];show _=(Xy vs b.result).getD (-1);rw [Qd om Zs];rfl)))
theorem Zev (b:Z7) (l:Int) (hb:b.sz<=1000000000) (hl:0<=l/\l<=600) (ih:∀(b2:Z7) (l:Int),(b2.sz<b.sz)->(0<=l/\l<=600)->Zl 103 [Y3 b2,.i l] [] (Yq (.i (WR b2 l)))):Zl 103 [Y3 b,.i l] [] (Yq (.i (WR b l))):=by
 have hbz:=U6 b
 have hbe:=PN b l
 refine ZF 43 Tryz.func103 (ar (iA (Xp b) fun b1=>?_))
 refine Z0 (Yc (ab 0 (Y5 (fun fz gz m F h=>∃(k:Nat) (q:Int),(k<=b.steps.length)/\(0<=q/\q<=600)/\(Q2 (b.steps.drop k) q=Q2 b.steps l)/\F=sF [2] fz [(1,.i q),(5,.i k)]/\h=gz/\m=b.steps.length-k) _ _ _ ⟨0,l,ob,ob,ob,rfl,rfl,rfl⟩ (wk [0] (fr (Yf fl))) ?_)))
 rintro m F h ⟨k,q,Yh,Zj,Zy,rfl,rfl,rfl⟩
 refine Yk 3 [0] (iw (Vp b.steps) (Y2 ((k:Int)<(b.steps.length:Int)) (fun Za=>?_) (fun Za=>?_)))
 ·refine ak (aq (ab 1 (X2 (Y2 (q<1) (fun Zf=>?_) (fun Zf=>?_)))))
  ·refine ZD ?_
   try rw [Xn (xs:=b.steps) (k:=k) om] at Zy
   obtain ⟨x1,Z3⟩:=Zt b.steps k om
   rw [Ya Z3] at Zy
   clear Z3
   exact ZG (ZZ (.i (-1)) (li (by first|rfl|omega|grind [Q2])))
  obtain ⟨s1,hxs1⟩:=Zt b.steps k om
  have hss:=KI hxs1
  have hkz:=TK s1
  refine ak (Y4 1 (ia ((q-1)) ((q)-(1)) (Z0 (ZD (ab 2 (Y5 (fun fz gz m F h=>∃(j:Nat) (j2:Int),(j<=s1.kids.length)/\(0<=j2/\j2<=600)/\(Qn (s1.kids.drop j) j2=Qn s1.kids (q-1))/\F=sF [2,5] fz [(1,.i j2),(6,.i j)]/\h=gz/\m=s1.kids.length-j) _ _ _ ⟨0,(q-1),ob,ob,ob,rfl,rfl,rfl⟩ (wk [0] (fr (Yf fl))) ?_))))))
  rintro m F h ⟨j,j2,UF,W4,XV,rfl,rfl,rfl⟩
  refine Yk 4 [0] (Zm (Zh none (k:Int) 5 (Wx hxs1)) (Z1 2 (iw (Uw s1.kids) (Y2 ((j:Int)<(s1.kids.length:Int)) (fun ZB=>?_) (fun ZB=>?_)))))
  ·refine ak (aq (ab 3 (Zu 3 [0] (Zm (Zh none (k:Int) 5 (Wx hxs1)) (Z1 3 ?_)))))
   obtain ⟨x1,Z3⟩:=Zt s1.kids j om
   have hks:=Tv Z3
   have hle:=Ll.2 x1 j2 om
   refine Zm (Zh none (j:Int) 2 (T7 Z3)) (Z1 2 (Zw [] (ih x1 j2 ob ob) (Z0 (ar (Y2 ((WR x1 j2)<0) (fun ZV=>?_) (fun ZV=>?_))))))
   ·refine ZD ?_
    rw [Ya hxs1] at Zy
    rw [Ya Z3] at XV
    have hls:=Gs s1 (q-1)
    exact ZG (ZZ (.i (-1)) (li (by clear Z3 hxs1;first|rfl|omega|grind [Q2,Qn])))
   refine ak (az (Z1 1 (ZJ j (Z0 ?_))))
   have hdr:=Ya Z3
   exact ZM ⟨j+1,(WR x1 j2),ob,ob,(by rw [hdr] at XV;clear hdr Z3 hxs1;grind [Qn]),rfl,rfl,rfl⟩ (wk [0] (fr (ZP j fl)))
  refine ax 2 (az (Z1 1 (ZJ k (Z0 ?_))))
  rw [Xn om] at XV
  have hls:=Gs s1 (q-1)
  rw [Qn] at XV
  have hdr:=Ya hxs1
  exact ZM ⟨k+1,j2,ob,ob,(by rw [hdr] at Zy;clear hdr hxs1;grind [Q2]),rfl,rfl,rfl⟩ (wk [0] (fr (ZP k fl)))
 refine ax 0 (ZD ?_)
 try rw [Xn (xs:=b.steps) (k:=k) om] at Zy
 exact ZG (ZZ (.i q) (li (by first|rfl|omega|grind [Q2])))
theorem Zeu (b:Z7) (l:Int) (hb:b.sz<=1000000000) (hl:0<=l/\l<=600):Zl 103 [.agg [.sl (ZA b.steps) none,.i b.result],.i l] [] (Yq (.i (WR b l))):=by
 have key:∀m:Nat,∀(b:Z7) (l:Int),b.sz<=m->b.sz<=1000000000->(0<=l/\l<=600)->Zl 103 [.agg [.sl (ZA b.steps) none,.i b.result],.i l] [] (Yq (.i (WR b l))):=by
  intro m
  induction m with
  | zero=>intro b l h;have:=b.sz_pos;omega
  | succ m ih=>intro b l h1 h2 h3;exact Zev b l h2 h3 fun b2 l2 k1 k2=>ih b2 l2 om om k2
 exact key b.sz b l (X5 _) hb hl
theorem Zea (n:Zi) (hn:X3 n) (m:Nat):∀(b:Z7) (us:LI),(b.sz<=m)->(us.length+4*b.sz<=1000000000)->Zl 128 [Yo n,Z4 us,Y3 b] [] (Yq (.i (Xm n us b))):=by
 induction m with
 | zero=>intro b us h;have:=b.sz_pos;omega
 | succ m ih=>intro b us h1 h2;exact Zeb n us b hn h2 fun s us2 k1 k2=>SJ n us2 s hn k2 fun b2 us3 q1 q2=>ih b2 us3 om q2
theorem Sx (n:Zi) (us:LI) (b:Z7) (hn:X3 n) (hb:us.length+4*b.sz<=1000000000):Zl 128 [Yo n,Z4 us,Y3 b] [] (Yq (.i (Xm n us b))):=
 Zea n hn b.sz b us (X5 _) hb
theorem Mm (n:Zi) (us:LI) (s:Z5) (hn:X3 n) (hb:us.length+4*s.sz<=1000000000):Zl 164 [Yo n,Z4 us,YL s] [] (Yq (.i (Yg n us s))):=
 SJ n us s hn hb fun b2 us3 _ q2=>Sx n us3 b2 hn q2
theorem Zew (b:Z7) (hb:b.sz<=1000000000:=by exact ob):Zl 66 [Y3 b] [] (Yq (.i (TU b))):=by
 have hle:=Ll.2 b 600 om
 refine ZF 10 Tryz.func66 (ar (iA (Xp b) fun b1=>Z0 (Zu 1 [0] (Zw [] (Zeu b 600 ob ob) (Z0 (X2 (Y2 ((WR b 600)<0) (fun Za=>?_) (fun Za=>?_))))))))
 ·exact ar (Zo (ZZ (.i (-1)) (li (by first|rfl|omega|grind [TU]))))
 exact ak (Y4 1 (ia ((600-(WR b 600))) ((600)-(WR b 600)) (Zo (ZZ (.i (600-(WR b 600))) (li (by first|rfl|omega|grind [TU]))))))
theorem Aw (z:Int) :Zl 226 [.i z] [] (Yq (Y8 (Z2.mk 0 z []))):=by
 exact ZF 6 Tryz.func226 (ar (iA [.i 0,.i 0,nl] fun b1=>ie (Y4 1 (iL (Yw []) 0 3 fun v1=>Z1 1 (ZH 1 b1 [.i 0,.i z,QA [] v1] (ie (ZG (r3 [] [.agg [.i 0,.i z,QA [] v1]] [0] [(b1,b1)] ⟨rfl,rfl⟩ (Zd.agg (.cons li (.cons li (.cons (Zd.sl _ (Yr Yw rfl)) .nil))))))))))))
theorem Qi (z:Int) :Zl 273 [.i z] [] (Yq (Y8 (Z2.mk 12 z []))):=by
 exact ZF 6 Tryz.func273 (ar (iA [.i 0,.i 0,nl] fun b1=>ie (Y4 1 (iL (Yw []) 0 3 fun v1=>Z1 1 (ZH 1 b1 [.i 12,.i z,QA [] v1] (ie (ZG (r3 [] [.agg [.i 12,.i z,QA [] v1]] [0] [(b1,b1)] ⟨rfl,rfl⟩ (Zd.agg (.cons li (.cons li (.cons (Zd.sl _ (Yr Yw rfl)) .nil))))))))))))
theorem XT (op:Int) (nm:Int) (ks:List Z2) :Zl 271 [.i op,.i nm,XD ks] [] (Yq (Y8 (Z2.mk op nm ks))):=by
 exact ZF 11 Tryz.func271 (ar (iA [.i 0,.i 0,nl] fun b1=>ie (Y4 4 (ZH 0 b1 [.i op,.i nm,XD ks] (ie (ZG (r3 [] [.agg [.i op,.i nm,XD ks]] [0] [(b1,b1)] ⟨rfl,rfl⟩ (Zd.agg (.cons li (.cons li (.cons (Zd.sl _ (Yr Yw rfl)) .nil)))))))))))
theorem OK (rd:Nat) (bs:LI) (p:Nat) (ZI:∀z∈bs,0<=z/\z<=255) (hp:p+4<=1000000000:=by exact ob):Zl 294 [.p rd 0] [Yy rd bs p] (fun r h=>∃(z:Int),r=.i z/\h=[.obj rd [VA bs,.i (p+4:Nat)]]/\-2000<=z/\z<=2000):=by
 refine ZF 12 Tryz.func294 (ZD (Y4 2 (ic [0] (W7 rd bs p 6 (ZI:=ob)) ?_)))
 rintro _ _ ⟨k1,rfl,rfl,ZT⟩
 have qhp1:=ZT.lt om
 refine Z1 1 (ic [0] (W7 rd bs (p+1) 6 (ZI:=ob)) ?_)
 rintro _ _ ⟨k2,rfl,rfl,Yd⟩
 have qhp2:=Yd.lt om
 refine Z1 1 (ic [0] (W7 rd bs ((p+1)+1) 40 (ZI:=ob)) ?_)
 rintro _ _ ⟨k3,rfl,rfl,YE⟩
 have qhp3:=YE.lt om
 refine iL (Z6 [k1,k2,0,1,2,-1,3,k3,999,-998]) 10 1 fun v1=>ZO 0 [(10,Z4 [k1,k2,0,1,2,-1,3,k3,999,-998])] (ic [1] (VV rd bs (((p+1)+1)+1) [k1,k2,0,1,2,-1,3,k3,999,-998] (ZI:=ob)) ?_)
 rintro _ _ ⟨z1,rfl,rfl,YI⟩
 exact Zo (r1 [0] ⟨z1,rfl,rfl,(by simp at YI;omega)⟩)
theorem Oz (g:Wd) (gb:Nat) (rs:List Func) (t:Int) (hg:GP g:=by exact ob) (Wt:g.funcs <+: rs:=by exact ob):Zl 306 [.agg (Wy g gb),.i t] [XQ gb rs] (fun r h=>∃(xs:LI),r=Z4 xs/\h=[XQ gb rs]/\xs.length<=4/\∀i∈xs,A9 g t i):=by
 have hgl:=hg.len
 have hdl:=hg.decls.len
 refine ZF 53 Tryz.func306 (ar (iA (Wy g gb) fun b1=>Z0 (ar (iL (Z6 []) 0 1 fun v1=>?_))))
 refine Z0 (Yc (ab 0 (Y5 (fun fz gz m F h=>∃(k:Nat) (ys:LI) (u:Value),(k<=g.funcs.length)/\(ys.length<=k)/\(∀i∈ys,A9 g t i)/\F=sF [1,2] fz [(5,ZQ ys u),(6,.i k)]/\h=[Zc gz 1,Zc gz 2,.tail u 1]/\m=g.funcs.length-k) _ _ _ ⟨0,[],v1,ob,ob,(fun i hi=>by cases hi),rfl,rfl,rfl⟩ (wk [1,1,0] (fr (Yf fl))) ?_)))
 rintro m F h ⟨k,ys,u,Yh,Zj,Zy,rfl,rfl,rfl⟩
 refine Yk 3 [0] (io (.i g.funcs.length) (.i g.funcs.length) (lr _) (Y2 ((k:Int)<(g.funcs.length:Int)) (fun Za=>?_) (fun Za=>?_)))
 ·refine ak (aq (ab 1 (Zu 3 [0] ?_)))
  obtain ⟨x1,Z3⟩:=Zt g.funcs k om
  have hso:=(hg.sigs _ (ZY Z3)).bd
  refine Zm (Ws gb g.funcs.length 4 k 5 (k:Int)) (Z1 1 (V9 (Vu 1 gb 4 4 5 (k*5+0) (Zp (Xt rs)) [Z4 x1.params] 31 (Z4 x1.params) (US Wt Z3 0 rfl (Ve rfl))) (iw (Y6 x1.params) (Z0 (aD 25 (Zk 22 25 [0,1,2] (db (b:=(decide ((x1.params.length:Int)>0))) 25 (fun Zb=>?_) (fun Zb=>?_))))))))
  ·have ZT:(x1.params.length:Int)>0:=(dq).1 Zb
   refine ZL 17 22 [3,4,5,6,7] [0,0] (dx 8 (Ws gb g.funcs.length 4 k 5 (k:Int)) (Zk 15 16 [9] (Uo 10 (Vu 1 gb 4 4 5 (k*5+0) (Zp (Xt rs)) [Z4 x1.params] 31 (Z4 x1.params) (US Wt Z3 0 rfl (Ve rfl))) (Zk 13 14 [11] (da 12 ((((x1.params.length-1):Nat):Int)) (((x1.params.length:Int))-(1)) ?_)))))
   obtain ⟨x2,Zs⟩:=Zt x1.params (x1.params.length-1) om
   refine dx 13 (Zh none (((x1.params.length-1):Nat):Int) 1 (Y0 Zs)) (ZL 7 11 [14,15,16,17] [0] (dx 18 (Ws gb g.funcs.length 4 k 5 (k:Int)) (Zk 5 6 [19] (Uo 20 (Vu 1 gb 4 4 5 (k*5+1) (Zp (Xt rs)) [.i x1.result] 3 (.i x1.result) (US Wt Z3 1 rfl (Ve rfl))) (Zk 3 4 [22] (Z9 21 (Yt 21 [] [] [] (Sw g.decls x2 x1.result) (Zk 0 2 [23,24] (de (ac ((Uv g.decls x2 x1.result)==t) Zq (fun Zf=>?_) (fun Zf=>?_)))))))))))
   ·exact az (Z1 2 (iL (Z6 [(k:Int)]) 1 1 fun v2=>ZO 0 [(50,Z4 [(k:Int)])] (ip 3 (Z6 (ys++[(k:Int)])) (Z6 ys) (Z6 [(k:Int)]) u none 1 (YB _) (YB _) (Wb _) (by simp<;>omega) (by simp [Wa,Z6]) fun v3=>Z0 (az (Z1 1 (ZJ k (Z0 (ZM ⟨k+1,(ys++[(k:Int)]),v3,ob,ob,(XF Zy (A9.mk Z3 om Zs Zf)),rfl,rfl,rfl⟩ (wk [2,2,0] (fr (ZP k fl)))))))))))
   exact ak (az (Z1 1 (ZJ k (Z0 (ZM ⟨k+1,ys,u,ob,ob,ob,rfl,rfl,rfl⟩ (ZE 3 (fr (ZP k fl))))))))
  have Yd:¬((x1.params.length:Int)>0):=Y7 dq Zb
  exact Zk 0 22 [3,4,5,6,7,8,9,10,11,12,13,14,15,16,17,18,19,20,21,22,23,24] (de (W9 (ak (az (Z1 1 (ZJ k (Z0 (ZM ⟨k+1,ys,u,ob,ob,ob,rfl,rfl,rfl⟩ (ZE 3 (fr (ZP k fl)))))))))))
 exact ax 0 (ar (Zo (r2 [1] [ZQ ys u] ⟨ys,rfl,rfl,⟨by omega,Zy⟩⟩ (Zd.forget _ _))))
theorem Z7s (vs:LI) (t:Int) (hv:vs.length<=2000:=by exact ob):Zl 295 [Z4 vs,.i t] [] (fun r h=>∃(xs:LI),r=Z4 xs/\h=[]/\xs.length<=vs.length/\∀i∈xs,0<=i/\i<vs.length):=by
 refine ZF 25 Tryz.func295 (ZD (ar (iL (Z6 []) 0 1 fun v1=>?_)))
 refine Z0 (Yc (ab 0 (Y5 (fun fz gz m F h=>∃(k:Nat) (ys:LI) (u:Value),(k<=vs.length)/\(ys.length<=k)/\(∀i∈ys,0<=i/\i<vs.length)/\F=sF [0,1] fz [(5,ZQ ys u),(6,.i k)]/\h=[.tail u 1]/\m=vs.length-k) _ _ _ ⟨0,[],v1,ob,ob,(fun i hi=>by cases hi),rfl,rfl,rfl⟩ (wk [0] (fr (Yf fl))) ?_)))
 rintro m F h ⟨k,ys,u,Yh,Zj,Zy,rfl,rfl,rfl⟩
 refine YC 2 (iw (Y6 vs) (Y2 ((k:Int)<(vs.length:Int)) (fun Za=>?_) (fun Za=>?_)))
 ·refine ak (aq (ab 1 (Y4 2 ?_)))
  obtain ⟨x1,Z3⟩:=Zt vs k om
  refine Zm (Zh none (k:Int) 1 (Y0 Z3)) (YD (x1==t) Zq (fun Zf=>?_) (fun Zf=>?_))
  ·exact az (Z1 2 (iL (Z6 [(k:Int)]) 1 1 fun v2=>ZO 0 [(22,Z4 [(k:Int)])] (ip 1 (Z6 (ys++[(k:Int)])) (Z6 ys) (Z6 [(k:Int)]) u none 1 (YB _) (YB _) (Wb _) (by simp<;>omega) (by simp [Wa,Z6]) fun v3=>Z0 (az (Z1 1 (ZJ k (Z0 (ZM ⟨k+1,(ys++[(k:Int)]),v3,ob,ob,(XF Zy om),rfl,rfl,rfl⟩ (wk [0] (fr (ZP k fl)))))))))))
  exact ak (az (Z1 1 (ZJ k (Z0 (ZM ⟨k+1,ys,u,ob,ob,ob,rfl,rfl,rfl⟩ (wk [0] (fr (ZP k fl))))))))
 exact ax 0 (ar (Zo (r2 [] [ZQ ys u] ⟨ys,rfl,rfl,⟨by omega,Zy⟩⟩ (Zd.forget _ _))))
theorem FZ (g:Wd) (gb:Nat) (rs:List Func) (vs:LI) (t:Int) (hg:GP g:=by exact ob) (Wt:g.funcs <+: rs:=by exact ob) (hv:vs.length<=2000:=by exact ob):Zl 296 [.agg (Wy g gb),Z4 vs,.i t] [XQ gb rs] (fun r h=>∃(w:Bool),r=.b w/\h=[XQ gb rs]):=by
 have Xw:=hg.decls.ok
 refine ZF 24 Tryz.func296 (ar (iA (Wy g gb) fun b1=>Z0 (Zu 3 [0] (Zw [] (EO g.decls t) (Z1 2 (ib (b:=(!W2 g.decls t)) 12 (fun Zb=>?_) (fun Zb=>?_)))))))
 ·exact Zo (r1 [1] ⟨true,rfl,rfl⟩)
 refine ZK 2 [0] (ic [1] (Oz g gb rs t) ?_)
 rintro _ _ ⟨xs1,rfl,rfl,YE⟩
 have qhp3:=YE.1
 refine iw (Y6 xs1) (Z1 3 (ib (b:=(decide ((xs1.length:Int)>0))) 19 (fun Zx=>?_) (fun Zx=>?_)))
 ·exact Zo (r1 [0] ⟨true,rfl,rfl⟩)
 exact Z1 2 (Zw [] (T0 vs t) (Zo (r1 [0] ⟨(decide (t∈vs)),rfl,rfl⟩)))
theorem Z7j (rd:Nat) (bs:LI) (p:Nat) (g:Wd) (gb:Nat) (rs:List Func) (t:Int) (ZI:∀z∈bs,0<=z/\z<=255) (hp:p+5+15*rk t<=1000000000) (hg:GP g) (Wt:g.funcs <+: rs) (ih:∀(rd:Nat) (bs:LI) (p:Nat) (t2:Int),(∀z∈bs,0<=z/\z<=255)->(p+5+15*rk t2<=1000000000)->(rk t2<rk t)->Zl 297 [.p rd 0,.agg (Wy g gb),.i t2] [Yy rd bs p,XQ gb rs] (fun r h=>∃(e:Z2) (p2:Nat),r=Y8 e/\h=[Yy rd bs p2,XQ gb rs]/\SE g (1+3*rk t2) e/\p<=p2/\p2<=p+5+15*rk t2)):Zl 297 [.p rd 0,.agg (Wy g gb),.i t] [Yy rd bs p,XQ gb rs] (fun r h=>∃(e:Z2) (p2:Nat),r=Y8 e/\h=[Yy rd bs p2,XQ gb rs]/\SE g (1+3*rk t) e/\p<=p2/\p2<=p+5+15*rk t):=by
 have Xw:=hg.decls.ok
 have hgl:=hg.len
 have hrk:=LU t
 refine ZF 118 Tryz.func297 (ar (iA (Wy g gb) fun b1=>iA [.i 0,.i 0,nl] fun b2=>ie (Zu 3 [1] (ic [] (JZ g.decls t) ?_))))
 rintro _ _ ⟨v1,rfl,rfl⟩
 refine Z0 (YC 1 (io (.i (((Y1 g.decls t).length:Nat):Int)) (.i (((Z6 (Y1 g.decls t)).length:Nat):Int)) (li (by rw [Y6])) (Y2 ((((Y1 g.decls t).length:Nat):Int)>0) (fun Za=>?_) (fun Za=>?_))))
 ·refine Y4 1 ?_
  obtain ⟨x1,Z3⟩:=Zt (Y1 g.decls t) 0 om
  refine Zm (Zh (some v1) 0 1 (Y0 Z3)) (Z0 (aq (aq (XR (fun fz gz F h=>∃(w1:Bool) (p5:Nat),(w1=true->1<(Y1 g.decls t).length)/\(p<=p5/\p5<=p+1)/\F=sF [0,2,4,6,8] fz [(7,Z4 (Y1 g.decls t)),(34,.b w1)]/\h=[Zc gz 1,Zc gz 2,Yy rd bs p5,Zc gz 4]) ?_ ?_))))
  ·refine az (Z1 1 (io (.i (((Y1 g.decls t).length:Nat):Int)) (.i (((Z6 (Y1 g.decls t)).length:Nat):Int)) (li (by rw [Y6])) (Z1 2 (ib (b:=(decide ((((Y1 g.decls t).length:Nat):Int)>1))) 30 (fun Zb=>?_) (fun Zb=>?_)))))
   ·have ZT:(((Y1 g.decls t).length:Nat):Int)>1:=(dq).1 Zb
    refine Z1 1 (ic [3] (W7 rd bs p 4 (ZI:=ob)) ?_)
    rintro _ _ ⟨k1,rfl,rfl,Yd⟩
    have qhp2:=Yd.lt om
    exact Z0 (ZU ⟨(k1==0),p+1,(by first|exact (fun h=>by cases h)|exact fun _=>by omega),ob,rfl,rfl⟩ (wk [2,2,0,1] fl))
   have YE:¬((((Y1 g.decls t).length:Nat):Int)>1):=Y7 dq Zb
   exact Z0 (ZU ⟨false,p,(by first|exact (fun h=>by cases h)|exact fun _=>by omega),ob,rfl,rfl⟩ (wk [1,1,1,1] fl))
  rintro F h ⟨w1,p5,kR4_0,kR4_1,rfl,rfl⟩
  refine XR (fun fz gz F h=>∃(c1:Int),(c1∈Y1 g.decls t)/\F=sF [0,2,4,6,7] fz [(8,.i c1)]/\h=gz) ?_ ?_
  ·refine ac w1 Iff.rfl (fun Zf=>?_) (fun Zf=>?_)
   ·refine az (Z1 1 ?_)
    obtain ⟨x2,Zs⟩:=Zt (Y1 g.decls t) 1 (kR4_0 (by assumption))
    exact Zm (Zh none 1 1 (Y0 Zs)) (Z0 (ZU ⟨x2,(ZY Zs),rfl,rfl⟩ (ZE 4 fl)))
   exact ak (ZU ⟨x1,(ZY Z3),rfl,rfl⟩ (ZE 4 fl))
  rintro F h ⟨c1,Ud,rfl,rfl⟩
  have hcf:=U4 Xw c1
  refine Yk 3 [1] (Zw [] (KF g.decls c1) (Z1 1 (Zw [] (T0 (ZX g.decls c1) t) (ie (XR (fun fz gz F h=>∃(c2:Int),(B7 g.decls t c2)/\F=sF [0,4,6] fz [(8,.i c2)]/\h=gz) ?_ ?_)))))
  ·refine W8 (t∈(ZX g.decls c1)) (fun ZB=>?_) (fun ZB=>?_)
   ·exact az (Z1 1 (Zm (Zh none 0 1 (Y0 Z3)) (Z0 (ZU ⟨x1,(Zdk hg.decls Ud (by assumption) Z3),rfl,rfl⟩ (ZE 4 fl)))))
   exact ak (ZU ⟨c1,(Zdj hg.decls Ud (by assumption)),rfl,rfl⟩ (ZE 4 fl))
  rintro F h ⟨c2,Dj,rfl,rfl⟩
  obtain ⟨OR,TT,AB⟩:=Dj
  refine ar (iL (Yw []) 0 3 fun v2=>?_)
  refine Z0 (Zu 3 [2] (Zw [] (KF g.decls c2) (Z0 (Yc (ab 0 (Y5 (fun fz gz m F h=>∃(k:Nat) (ys:List Z2) (u:Value) (pq:Nat),(k<=(ZX g.decls c2).length)/\(ys.length=k)/\(∀e∈ys,SE g 1 e)/\(p<=pq/\pq<=p+1+5*k)/\F=sF [0,4,6,8,10] fz [(9,QA ys u),(11,.i k)]/\h=[Zc gz 1,Zc gz 2,Yy rd bs pq,Zc gz 4,.tail u 3]/\m=(ZX g.decls c2).length-k) _ _ _ ⟨0,[],v2,p5,ob,ob,(fun e he=>by cases he),ob,rfl,rfl,rfl⟩ (wk [1,1,1,1,0] (fr (Yf fl))) ?_))))))
  rintro m F h ⟨k,ys,u,pq,Yh,Zj,Zy,Yu,rfl,rfl,rfl⟩
  refine YC 2 (io (.i (((ZX g.decls c2).length:Nat):Int)) (.i (((Z6 (ZX g.decls c2)).length:Nat):Int)) (li (by rw [Y6])) (Y2 ((k:Int)<(((ZX g.decls c2).length:Nat):Int)) (fun ZV=>?_) (fun ZV=>?_)))
  ·refine ak (aq (ab 1 (aE 11 (ZL 6 11 [0,1,2,3,4] [1] ?_))))
   obtain ⟨x3,YJ⟩:=Zt (ZX g.decls c2) k om
   have hz3:=RQ (AB _ (ZY YJ))
   refine dx 5 (Zh none (k:Int) 1 (Y0 YJ)) (Zk 4 5 [6] (Z9 7 (dc 7 [2,2] [] [] (ih rd bs pq x3 ob ob om) ?_)))
   rintro _ _ ⟨e1,p21,rfl,rfl,YI⟩
   have hse:=YI.1
   rw [hz3] at hse
   exact Z9 8 (WJ 8 [] [] [Y8 e1] (Yw [e1]) (XP [e1]).symm 1 3 fun v3=>Yv 2 2 [] [(66,XD [e1])] (Z9 9 (dp 9 5 [] [] (Yw (ys++[e1])) (Yw ys) (Yw [e1]) u none 3 (Tn _) (Tn _) (JQ _) (by simp<;>omega) (by simp [JP,Yw]) fun v4=>Zk 0 1 [10] (de (az (Z1 1 (ZJ k (Z0 (ZM ⟨k+1,(ys++[e1]),v4,p21,ob,ob,(XF Zy hse),ob,rfl,rfl,rfl⟩ (wk [4,4,2,2,0] (fr (ZP k fl))))))))))))
  exact ax 0 (ar (ZO 2 [(69,XD ys)] (Zw [] (XT 6 c2 ys) (ZH 0 b2 (YZ (Z2.mk 6 c2 ys)) (ie (ZG (r3 [2,2] [Y8 (Z2.mk 6 c2 ys)] [0] [(b2,b2)] ⟨(Z2.mk 6 c2 ys),pq,rfl,rfl,⟨SE.node (k:=3*rk t) (.inl rfl) om Zy om om om,by omega⟩⟩ (lr _))))))))
 refine ak (Zu 2 [2] (ic [4] (Oz g gb rs t) ?_))
 rintro _ _ ⟨xs1,rfl,rfl,X9⟩
 have hcl:=X9.2
 have hcn:=X9.1
 refine Z0 (X2 (Xj [0,4,6,12] [(80,.b ((decide (t>0))&&(decide ((xs1.length:Int)>0))))] (fun gz=>gz) ?_ ?_))
 ·refine Z1 3 (ib (b:=(decide (t>0))) 76 (fun Zx=>?_) (fun Zx=>?_))
  ·have XG:t>0:=(dq).1 Zx
   exact Z1 1 (iw (Y6 xs1) (Z0 (ZE 5 (Zv (decide ((xs1.length:Int)>0)) Zx fl))))
  have XY:¬(t>0):=Y7 dq Zx
  exact Z0 (ZE 5 (Zv false Zx fl))
 refine ac ((decide (t>0))&&(decide ((xs1.length:Int)>0))) (p:=(t>0)/\((xs1.length:Int)>0)) (YG dq dq) (fun Xd=>?_) (fun Xd=>?_)
 ·refine Y4 3 (iw (Y6 xs1) (ic [4] (W7 rd bs p (xs1.length:Int) (ZI:=ob)) ?_))
  rintro _ _ ⟨k2,rfl,rfl,WQ⟩
  have qhp8:=WQ.lt om
  obtain ⟨x4,WK⟩:=Zt xs1 k2.toNat om
  have hclo:=hcl _ (ZY WK)
  have hcb:=hclo.lt
  refine Zm (Zh none k2 1 (Y0 WK)) (Z0 (Zu 3 [4] ?_))
  obtain ⟨x5,Uz⟩:=Zt g.funcs x4.toNat om
  have hso:=(hg.sigs _ (ZY Uz)).bd
  have hr1:=Zck (t:=t) hg.decls om om
  have hfu:=Uz
  refine Zm (Ws gb g.funcs.length 4 x4.toNat 5 x4) (Z1 1 (V9 (Vu 1 gb 4 4 5 (x4.toNat * 5+0) (Zp (Xt rs)) [Z4 x5.params] 31 (Z4 x5.params) (US Wt Uz 0 rfl (Ve rfl))) (Z0 (ar (iL (Yw []) 0 3 fun v5=>?_)))))
  refine Z0 (Yc (ab 2 (Y5 (fun fz gz m F h=>∃(k:Nat) (ys:List Z2) (u:Value) (pq:Nat),(k<=x5.params.length)/\(ys.length=k)/\(∀e∈ys,SE g 1 e)/\(p<=pq/\pq<=p+1+5*k)/\F=sF [0,4,6,13,14] fz [(15,QA ys u),(16,.i k)]/\h=[Yy rd bs pq,Zc gz 2,Zc gz 4,Zc gz 5,.tail u 3]/\m=x5.params.length-k) _ _ _ ⟨0,[],v5,p+1,ob,ob,(fun e he=>by cases he),ob,rfl,rfl,rfl⟩ (wk [1,1,2,2,0] (fr (Yf fl))) ?_)))
  rintro m F h ⟨k,ys,u,pq,UF,W4,XV,Jm,rfl,rfl,rfl⟩
  refine YC 1 (ZJ k (Z1 1 (iw (Y6 x5.params) (Y2 (((k+1:Nat):Int)<(x5.params.length:Int)) (fun Xe=>?_) (fun Xe=>?_)))))
  ·refine ak (aq (ab 3 (aE 11 (ZL 6 11 [0,1,2,3,4] [3] ?_))))
   obtain ⟨x6,Cl⟩:=Zt x5.params k om
   have hz3:=hclo.low hg om hfu om Cl
   refine dx 5 (Zh none (k:Int) 1 (Y0 Cl)) (Zk 4 5 [6] (Z9 7 (dc 7 [0,0] [] [] (ih rd bs pq x6 ob ob om) ?_)))
   rintro _ _ ⟨e2,p22,rfl,rfl,V8⟩
   have hse:=V8.1
   rw [hz3] at hse
   exact Z9 8 (WJ 8 [] [] [Y8 e2] (Yw [e2]) (XP [e2]).symm 1 3 fun v6=>Yv 2 2 [] [(110,XD [e2])] (Z9 9 (dp 9 5 [] [] (Yw (ys++[e2])) (Yw ys) (Yw [e2]) u none 3 (Tn _) (Tn _) (JQ _) (by simp<;>omega) (by simp [JP,Yw]) fun v7=>Zk 0 1 [10] (de (az (Z1 1 (ZJ k (Z0 (ZM ⟨k+1,(ys++[e2]),v7,p22,ob,ob,(XF XV hse),ob,rfl,rfl,rfl⟩ (wk [2,2,2,2,0] (fr (ZP k fl))))))))))))
  exact ax 2 (ar (ZO 2 [(113,XD ys)] (Zw [] (XT 10 x4 ys) (ZH 2 b2 (YZ (Z2.mk 10 x4 ys)) (ie (ZG (r3 [1,1] [Y8 (Z2.mk 10 x4 ys)] [0] [(b2,b2)] ⟨(Z2.mk 10 x4 ys),pq,rfl,rfl,⟨SE.node (k:=3) (.inr rfl) om XV om om om,by omega⟩⟩ (lr _))))))))
 refine ak (Y4 1 (ic [4] (OK rd bs p (ZI:=ob)) ?_))
 rintro _ _ ⟨z1,rfl,rfl,Uy⟩
 exact Zw [] (Aw z1) (ZH 3 b2 (YZ (Z2.mk 0 z1 [])) (ie (ZG (r3 [1,1] [Y8 (Z2.mk 0 z1 [])] [0] [(b2,b2)] ⟨(Z2.mk 0 z1 []),p+4,rfl,rfl,⟨SE.int om om,by omega⟩⟩ (lr _)))))
theorem Z7i (rd:Nat) (bs:LI) (p:Nat) (g:Wd) (gb:Nat) (rs:List Func) (t:Int) (ZI:∀z∈bs,0<=z/\z<=255) (hp:p+5+15*rk t<=1000000000:=by exact ob) (hg:GP g:=by exact ob) (Wt:g.funcs <+: rs:=by exact ob):Zl 297 [.p rd 0,.agg (Wy g gb),.i t] [Yy rd bs p,XQ gb rs] (fun r h=>∃(e:Z2) (p2:Nat),r=Y8 e/\h=[Yy rd bs p2,XQ gb rs]/\SE g (1+3*rk t) e/\p<=p2/\p2<=p+5+15*rk t):=by
 have key:∀k:Nat,∀(rd:Nat) (bs:LI) (p:Nat) (t2:Int),(∀z∈bs,0<=z/\z<=255)->(p+5+15*rk t2<=1000000000)->(rk t2<k)->Zl 297 [.p rd 0,.agg (Wy g gb),.i t2] [Yy rd bs p,XQ gb rs] (fun r h=>∃(e:Z2) (p2:Nat),r=Y8 e/\h=[Yy rd bs p2,XQ gb rs]/\SE g (1+3*rk t2) e/\p<=p2/\p2<=p+5+15*rk t2):=by
  intro k
  induction k with
  | zero=>intro rd bs p t2 h1 h2 h3;omega
  | succ k ih=>intro rd bs p t2 h1 h2 h3;exact Z7j rd bs p g gb rs t2 h1 h2 hg Wt fun rd bs p t3 q1 q2 q3=>ih rd bs p t3 q1 q2 om
 exact key 2 rd bs p t ZI hp (by have:=LU t;omega)
theorem D8 (rd:Nat) (bs:LI) (p:Nat) (g:Wd) (gb:Nat) (rs:List Func) (vs:LI) (t:Int) (ZI:∀z∈bs,0<=z/\z<=255) (hp:p+30<=1000000000:=by exact ob) (hg:GP g:=by exact ob) (Wt:g.funcs <+: rs:=by exact ob) (hv:vs.length<=2000:=by exact ob):Zl 274 [.p rd 0,.agg (Wy g gb),Z4 vs,.i t] [Yy rd bs p,XQ gb rs] (fun r h=>∃(e:Z2) (p2:Nat),r=Y8 e/\h=[Yy rd bs p2,XQ gb rs]/\GE g vs.length 4 e/\p<=p2/\p2<=p+30):=by
 have hrk:=LU t
 refine ZF 40 Tryz.func274 (ar (iA (Wy g gb) fun b1=>iA [.i 0,.i 0,nl] fun b2=>ie (Y4 2 (ic [] (Z7s vs t) ?_))))
 rintro _ _ ⟨xs1,rfl,rfl,ZT⟩
 have hxs:=ZT
 refine Z0 (aq (aq (XR (fun fz gz F h=>∃(wb:Bool) (p5:Nat),(wb=true->0<xs1.length)/\(p<=p5/\p5<=p+1)/\F=sF [0,3,5,8,9] fz [(27,.b wb)]/\h=[Zc gz 0,Zc gz 1,Yy rd bs p5,Zc gz 3]) ?_ ?_)))
 ·refine az (Z1 1 (iw (Y6 xs1) (Z1 2 (ib (b:=(decide ((xs1.length:Int)>0))) 16 (fun Zb=>?_) (fun Zb=>?_)))))
  ·have Yd:(xs1.length:Int)>0:=(dq).1 Zb
   refine Z1 1 (ic [2] (W7 rd bs p 6 (ZI:=ob)) ?_)
   rintro _ _ ⟨k1,rfl,rfl,YE⟩
   have qhp3:=YE.lt om
   refine Z1 2 (ib (b:=(decide (k1>0))) 20 (fun Zx=>?_) (fun Zx=>?_))
   ·have YI:k1>0:=(dq).1 Zx
    exact Z0 (ZU ⟨true,p+1,(by first|exact (fun h=>Bool.noConfusion h)|exact fun _=>by omega),ob,rfl,rfl⟩ (wk [1,1,0,0] fl))
   have X9:¬(k1>0):=Y7 dq Zx
   refine ZK 1 [2] (iL (Z6 []) 0 1 fun v1=>ZO 1 [(22,Z4 [])] (ic [4] (FZ g gb rs [] t) ?_))
   rintro _ _ ⟨w1,rfl,rfl⟩
   exact Z0 (ZU ⟨(!w1),p+1,(by first|exact (fun h=>Bool.noConfusion h)|exact fun _=>by omega),ob,rfl,rfl⟩ (wk [3,3,2,0] fl))
  have XG:¬((xs1.length:Int)>0):=Y7 dq Zb
  exact Z0 (ZU ⟨false,p,(by first|exact (fun h=>Bool.noConfusion h)|exact fun _=>by omega),ob,rfl,rfl⟩ (ZE 4 fl))
 rintro F h ⟨wb,p5,kR2_0,kR2_1,rfl,rfl⟩
 refine ac wb Iff.rfl (fun Za=>?_) (fun Za=>?_)
 ·have hk0:=kR2_0 Za
  refine Y4 3 (iw (Y6 xs1) (ic [2] (W7 rd bs p5 (xs1.length:Int) (ZI:=ob)) ?_))
  rintro _ _ ⟨k2,rfl,rfl,XY⟩
  have qhp7:=XY.lt om
  obtain ⟨x1,Z3⟩:=Zt xs1 k2.toNat om
  have hxv:=hxs.2 _ (ZY Z3)
  exact Zm (Zh none k2 1 (Y0 Z3)) (Z1 1 (Zw [] (Qi x1) (ZH 1 b2 (YZ (Z2.mk 12 x1 [])) (ie (ZG (r3 [1,2] [Y8 (Z2.mk 12 x1 [])] [0] [(b2,b2)] ⟨(Z2.mk 12 x1 []),p5+1,rfl,rfl,⟨GE.var hxv om om,by omega⟩⟩ (lr _)))))))
 refine ak (Zu 3 [1] (ic [2,2] (Z7i rd bs p5 g gb rs t (ZI:=ob)) ?_))
 rintro _ _ ⟨e1,p21,rfl,rfl,WQ⟩
 have hse:=WQ.1
 exact ZH 2 b2 (YZ e1) (ie (ZG (r3 [1,1] [Y8 e1] [0] [(b2,b2)] ⟨e1,p21,rfl,rfl,⟨hse.ge om,by omega⟩⟩ (lr _))))
theorem Z5y (rd:Nat) (bs:LI) (p:Nat) (g:Wd) (gb:Nat) (rs:List Func) (vs:LI) (ZI:∀z∈bs,0<=z/\z<=255) (hp:p+1<=1000000000:=by exact ob) (hg:GP g:=by exact ob) (Wt:g.funcs <+: rs:=by exact ob) (hv:vs.length<=2000:=by exact ob):Zl 289 [.p rd 0,.agg (Wy g gb),Z4 vs] [Yy rd bs p,XQ gb rs] (fun r h=>∃(z:Int),r=.i z/\h=[.obj rd [VA bs,.i (p+1:Nat)],XQ gb rs]/\0<=z/\z<=4):=by
 have Xw:=hg.decls.ok
 have hgl:=hg.len
 have hdl:=hg.decls.len
 refine ZF 24 Tryz.func289 (ar (iA (Wy g gb) fun b1=>Z0 (Y4 1 (iL (Z6 [1,1,3,0,2,4,3]) 7 1 fun v1=>ZO 0 [(9,Z4 [1,1,3,0,2,4,3])] (ic [2] (VV rd bs p [1,1,3,0,2,4,3] (ZI:=ob)) ?_)))))
 rintro _ _ ⟨z1,rfl,rfl,ZT⟩
 have hz:=BA (a:=0) (b:=4) ZT (by decide)
 refine Z0 (aq (aq (XR (fun fz gz F h=>∃(wb:Bool),(True)/\F=sF [7] fz [(22,.b wb)]/\h=[Zc gz 0,Zc gz 3]) ?_ ?_)))
 ·refine az (ZK 3 [2] (iw (UG g.decls) (Z1 2 (ib (b:=(decide (z1>(g.decls.length:Int)))) 16 (fun Zb=>?_) (fun Zb=>?_)))))
  ·exact Z0 (ZU ⟨true,True.intro,rfl,rfl⟩ (wk [0,2] fl))
  refine ZK 3 [2] (ic [3] (FZ g gb rs vs z1) ?_)
  rintro _ _ ⟨w1,rfl,rfl⟩
  exact Z0 (ZU ⟨(!w1),True.intro,rfl,rfl⟩ (wk [1,0] fl))
 rintro F h ⟨wb,kR2_0,rfl,rfl⟩
 refine ac wb Iff.rfl (fun Za=>?_) (fun Za=>?_)
 ·exact ar (Zo (r1 [0,0] ⟨1,rfl,rfl,om⟩))
 exact ak (ar (Zo (r1 [0,0] ⟨z1,rfl,rfl,om⟩)))
theorem Z62 (g:Wd) (gb:Nat) (rs:List Func) (t:Int) (hg:GP g:=by exact ob) (Wt:g.funcs <+: rs:=by exact ob):Zl 292 [.agg (Wy g gb),.i t] [XQ gb rs] (fun r h=>∃(xs:LI),r=Z4 xs/\h=[XQ gb rs]/\xs.length<=4/\∀i∈xs,1<=i/\i<g.funcs.length):=by
 have Xw:=hg.decls.ok
 have hgl:=hg.len
 have hdl:=hg.decls.len
 refine ZF 57 Tryz.func292 (ar (iA (Wy g gb) fun b1=>Z0 (ar (iL (Z6 []) 0 1 fun v1=>?_))))
 refine Z0 (Yc (ab 0 (Y5 (fun fz gz m F h=>∃(k:Nat) (ys:LI) (u:Value),(1<=k/\k<=g.funcs.length)/\(ys.length<=k)/\(∀i∈ys,1<=i/\i<g.funcs.length)/\F=sF [1,2] fz [(5,ZQ ys u),(6,.i k)]/\h=[Zc gz 1,Zc gz 2,.tail u 1]/\m=g.funcs.length-k) _ _ _ ⟨1,[],v1,ob,ob,(fun i hi=>by cases hi),rfl,rfl,rfl⟩ (wk [1,1,0] (fr (fc (x:=.i 1) li fl))) ?_)))
 rintro m F h ⟨k,ys,u,Yh,Zj,Zy,rfl,rfl,rfl⟩
 refine Yk 3 [0] (io (.i g.funcs.length) (.i g.funcs.length) (lr _) (Y2 ((k:Int)<(g.funcs.length:Int)) (fun Za=>?_) (fun Za=>?_)))
 ·refine ak (aq (ab 1 (Zu 3 [0] ?_)))
  obtain ⟨x1,Z3⟩:=Zt g.funcs k om
  have hso:=(hg.sigs _ (ZY Z3)).bd
  refine Zm (Ws gb g.funcs.length 4 k 5 (k:Int)) (Z1 1 (V9 (Vu 1 gb 4 4 5 (k*5+1) (Zp (Xt rs)) [.i x1.result] 3 (.i x1.result) (US Wt Z3 1 rfl (Ve rfl))) (Z0 (Yc (ab 2 (Y5 (fun fz gz m F h=>∃(j:Nat) (wo:Bool),(True)/\F=sF [1,2,5,6] fz [(7,.b wo),(8,.i j)]/\h=gz/\m=x1.params.length-j) _ _ _ ⟨0,(x1.result==t),True.intro,rfl,rfl,rfl⟩ (ZE 3 (fr (Yf fl))) ?_))))))
  rintro m F h ⟨j,wo,UF,rfl,rfl,rfl⟩
  refine Yk 4 [0] (Zm (Ws gb g.funcs.length 4 k 5 (k:Int)) (Z1 1 (V9 (Vu 1 gb 4 4 5 (k*5+0) (Zp (Xt rs)) [Z4 x1.params] 31 (Z4 x1.params) (US Wt Z3 0 rfl (Ve rfl))) (iw (Y6 x1.params) (Y2 ((j:Int)<(x1.params.length:Int)) (fun Zf=>?_) (fun Zf=>?_))))))
  ·refine ak (aq (ab 3 (aE 16 (Zk 14 16 [0,1] (db (b:=wo) 37 (fun Zb=>?_) (fun Zb=>?_))))))
   ·refine ZL 10 14 [2,4,5,6] [0,0] (dx 7 (Ws gb g.funcs.length 4 k 5 (k:Int)) (Zk 8 9 [8] (Uo 9 (Vu 1 gb 4 4 5 (k*5+0) (Zp (Xt rs)) [Z4 x1.params] 31 (Z4 x1.params) (US Wt Z3 0 rfl (Ve rfl))) (Zk 6 7 [10] ?_))))
    obtain ⟨x2,Zs⟩:=Zt x1.params j om
    refine dx 11 (Zh none (j:Int) 1 (Y0 Zs)) (Zk 4 5 [12] (Z9 3 (dL 3 [1,0,0] [gb,b1,b1] (Z6 []) 0 1 fun v2=>Yv 3 3 [] [(39,Z4 [])] (Z9 13 (dc 13 [2] [] [] (FZ g gb rs [] x2) ?_)))))
    rintro _ _ ⟨w1,rfl,rfl⟩
    exact Zk 0 2 [14,15] (de (az (Z1 1 (ZJ j (Z0 (ZM ⟨j+1,w1,True.intro,rfl,rfl,rfl⟩ (wk [2,0,1] (fr (ZP j fl)))))))))
   exact Zk 0 14 [2,3,4,5,6,7,8,9,10,11,12,13,14,15] (de (az (Z1 1 (ZJ j (Z0 (ZM ⟨j+1,false,ob,rfl,rfl,rfl⟩ (ZE 3 (fr (ZP j fl)))))))))
  refine ax 2 (ar (YD wo Iff.rfl (fun ZB=>?_) (fun ZB=>?_)))
  ·exact az (Z1 2 (iL (Z6 [(k:Int)]) 1 1 fun v3=>ZO 0 [(54,Z4 [(k:Int)])] (ip 3 (Z6 (ys++[(k:Int)])) (Z6 ys) (Z6 [(k:Int)]) u none 1 (YB _) (YB _) (Wb _) (by simp<;>omega) (by simp [Wa,Z6]) fun v4=>Z0 (az (Z1 1 (ZJ k (Z0 (ZM ⟨k+1,(ys++[(k:Int)]),v4,ob,ob,(XF Zy om),rfl,rfl,rfl⟩ (wk [2,2,0] (fr (ZP k fl)))))))))))
  exact ak (az (Z1 1 (ZJ k (Z0 (ZM ⟨k+1,ys,u,ob,ob,ob,rfl,rfl,rfl⟩ (ZE 3 (fr (ZP k fl))))))))
 exact ax 0 (ar (Zo (r2 [1] [ZQ ys u] ⟨ys,rfl,rfl,⟨by omega,Zy⟩⟩ (Zd.forget _ _))))
theorem Z77 (e:Z2) (left:Int) (hz:e.sz<=1000000:=by exact ob) (hl:0<=left/\left<=1000:=by exact ob) (ih:∀(e2:Z2) (left:Int),(e2.sz<e.sz)->(0<=left/\left<=1000)->Zl 275 [Y8 e2,.i left] [] (fun r h=>∃(w:Int),r=.i w/\h=[]/\NL e2.sz left w)):Zl 275 [Y8 e,.i left] [] (fun r h=>∃(w:Int),r=.i w/\h=[]/\NL e.sz left w):=by
 have hes:=e.sz_eq
 have hel:=Oc (xs:=e.kids)
 refine ZF 27 Tryz.func275 (ar (iA (YZ e) fun b1=>Z0 (X2 (Y2 (left<1) (fun Za=>?_) (fun Za=>?_)))))
 ·exact ar (Zo (r1 [] ⟨(-1),rfl,rfl,(.inr ⟨by omega,rfl⟩)⟩))
 refine ak (Y4 1 (ia ((left-1)) ((left)-(1)) (Z0 (Yc (ab 0 (Y5 (fun fz gz m F h=>∃(k:Nat) (q:Int),(k<=e.kids.length)/\(0<=q/\q+1+XB (e.kids.take k)=left)/\F=sF [2] fz [(1,.i q),(5,.i k)]/\h=gz/\m=e.kids.length-k) _ _ _ ⟨0,(left-1),ob,(by simp [XB];omega),rfl,rfl,rfl⟩ (wk [0] (fr (Yf fl))) ?_))))))
 rintro m F h ⟨k,q,Yh,Zj,rfl,rfl,rfl⟩
 refine Yk 3 [0] (iw (Ik e.kids) (Y2 ((k:Int)<(e.kids.length:Int)) (fun Zf=>?_) (fun Zf=>?_)))
 ·refine ak (aq (ab 1 (Zu 3 [0] ?_)))
  obtain ⟨x1,Z3⟩:=Zt e.kids k om
  have hks:=Cf Z3
  have htk:XB (e.kids.take (k+1))=XB (e.kids.take k)+(x1).sz:=by rw [Vc Z3,E5,XB,XB];rfl
  have htl:XB (e.kids.take (k+1))<=XB e.kids:=by have h:=Yr XB (Uu (k+1) e.kids);rw [E5] at h;omega
  refine Zm (Zh none (k:Int) 3 (D0 Z3)) (Z1 2 (ic [] (ih x1 q ob ob) ?_))
  rintro _ _ ⟨w1,rfl,rfl,ZT⟩
  have hnl:=ZT
  unfold NL at hnl
  refine Z0 (ar (Y2 (w1<0) (fun ZB=>?_) (fun ZB=>?_)))
  ·exact ar (Zo (r1 [] ⟨(-1),rfl,rfl,(.inr ⟨by omega,rfl⟩)⟩))
  exact ak (az (Z1 1 (ZJ k (Z0 (ZM ⟨k+1,w1,ob,ob,rfl,rfl,rfl⟩ (wk [0] (fr (ZP k fl))))))))
 refine ax 0 (ZD ?_)
 have htk:XB (e.kids.take k)=XB e.kids:=by rw [Vd om]
 exact ZG (r1 [] ⟨q,rfl,rfl,(.inl ⟨by omega,by omega⟩)⟩)
theorem Z76 (e:Z2) (left:Int) (hz:e.sz<=1000000:=by exact ob) (hl:0<=left/\left<=1000:=by exact ob):Zl 275 [Y8 e,.i left] [] (fun r h=>∃(w:Int),r=.i w/\h=[]/\NL e.sz left w):=by
 have key:∀k:Nat,∀(e2:Z2) (left:Int),(e2.sz<k)->(e2.sz<=1000000)->(0<=left/\left<=1000)->Zl 275 [Y8 e2,.i left] [] (fun r h=>∃(w:Int),r=.i w/\h=[]/\NL e2.sz left w):=by
  intro k
  induction k with
  | zero=>intro e2 left h;omega
  | succ k ih=>intro e2 left h1 h2 h3;exact Z77 e2 left h2 h3 fun e3 l3 q1 q2=>ih e3 l3 om om q2
 exact key (e.sz+1) e left om hz hl
theorem OI (e:Z2) (hz:e.sz<=1000000:=by exact ob):Zl 232 [Y8 e] [] (fun r h=>∃(w:Int),r=.i w/\h=[]/\((w=e.sz/\e.sz<=30)∨(w=-1/\30<e.sz))):=by
 refine ZF 10 Tryz.func232 (ar (iA (YZ e) fun b1=>Z0 (Zu 1 [0] (ic [] (Z76 e 30) ?_))))
 rintro _ _ ⟨w1,rfl,rfl,ZT⟩
 have hnl:=ZT
 unfold NL at hnl
 refine Z0 (X2 (Y2 (w1<0) (fun Za=>?_) (fun Za=>?_)))
 ·exact ar (Zo (r1 [] ⟨(-1),rfl,rfl,ob⟩))
 exact ak (Y4 1 (ia ((30-w1)) ((30)-(w1)) (Zo (r1 [] ⟨(30-w1),rfl,rfl,ob⟩))))
theorem Ch (rd:Nat) (bs:LI) (p:Nat) (g:Wd) (gb:Nat) (rs:List Func) (vs:LI) (ts:LI) (b:Nat) (bb:Nat) (ZI:∀z∈bs,0<=z/\z<=255) (hp:p+ts.length*bC (b / ts.length)<=1000000000:=by exact ob) (hg:GP g:=by exact ob) (Wt:g.funcs <+: rs:=by exact ob) (hv:vs.length+3*bb<=900:=by exact ob) (ht:ts.length<=3:=by exact ob) (hb:b<bb/\bb<=1000:=by exact ob) (ih:∀(rd:Nat) (bs:LI) (p:Nat) (vs2:LI) (t2:Int) (b2:Nat),(∀z∈bs,0<=z/\z<=255)->(p+bC b2<=1000000000)->(vs2.length+3*b2<=900)->(b2<bb)->Zl 270 [.p rd 0,.agg (Wy g gb),Z4 vs2,.i t2,.i b2] [Yy rd bs p,XQ gb rs] (fun r h=>∃(e:Z2) (p2:Nat),r=Y8 e/\h=[Yy rd bs p2,XQ gb rs]/\GE g vs2.length (bS b2) e/\p<=p2/\p2<=p+bC b2)):Zl 290 [.p rd 0,.agg (Wy g gb),Z4 vs,Z4 ts,.i b] [Yy rd bs p,XQ gb rs] (fun r h=>∃(ys:List Z2) (p2:Nat),r=XD ys/\h=[Yy rd bs p2,XQ gb rs]/\ys.length=ts.length/\(∀e∈ys,GE g vs.length (bS (b / ts.length)) e)/\p<=p2/\p2<=p+ts.length*bC (b / ts.length)):=by
 have hqb:=Nat.div_le_self b ts.length
 refine ZF 36 Tryz.func290 (ar (iA (Wy g gb) fun b1=>Z0 (ar (iL (Yw []) 0 3 fun v1=>?_))))
 refine Z0 (Yc (ab 0 (Y5 (fun fz gz m F h=>∃(k:Nat) (ys:List Z2) (u:Value) (pq:Nat),(k<=ts.length)/\(ys.length=k)/\(∀e∈ys,GE g vs.length (bS (b / ts.length)) e)/\(p<=pq/\pq<=p+k*bC (b / ts.length))/\F=sF [0,2,3,4,6] fz [(11,QA ys u),(12,.i k)]/\h=[Zc gz 1,Yy rd bs pq,Zc gz 3,.tail u 3]/\m=ts.length-k) _ _ _ ⟨0,[],v1,p,ob,ob,(fun e he=>by cases he),(by simp),rfl,rfl,rfl⟩ (wk [1,1,1,0] (fr (Yf fl))) ?_)))
 rintro m F h ⟨k,ys,u,pq,Yh,Zj,Zy,Yu,rfl,rfl,rfl⟩
 refine YC 2 (iw (Y6 ts) (Y2 ((k:Int)<(ts.length:Int)) (fun Za=>?_) (fun Za=>?_)))
 ·obtain ⟨hm1,hm2⟩:=R0 (k:=k) (L:=ts.length) (C:=bC (b / ts.length)) om
  refine ak (aq (ab 1 (aE 16 (ZL 10 16 [0,1,2,3,4,5] [0] ?_))))
  obtain ⟨x1,Z3⟩:=Zt ts k om
  refine dx 6 (Zh none (k:Int) 1 (Y0 Z3)) (Zk 6 9 [7,8,9] (dw 10 (Y6 ts) (dx 11 (Cp b ts.length om om) (Z9 12 (dc 12 [1,1] [] [] (ih rd bs pq vs x1 (b / ts.length) ob ob ob ob) ?_)))))
  rintro _ _ ⟨e1,p21,rfl,rfl,ZT⟩
  have Xh:=ZT.1
  exact Z9 13 (WJ 13 [] [] [Y8 e1] (Yw [e1]) (XP [e1]).symm 1 3 fun v2=>Yv 2 2 [] [(33,XD [e1])] (Z9 14 (dp 14 4 [] [] (Yw (ys++[e1])) (Yw ys) (Yw [e1]) u none 3 (Tn _) (Tn _) (JQ _) (by simp<;>omega) (by simp [JP,Yw]) fun v3=>Zk 0 1 [15] (de (az (Z1 1 (ZJ k (Z0 (ZM ⟨k+1,(ys++[e1]),v3,p21,ob,ob,(XF Zy (by assumption)),om,rfl,rfl,rfl⟩ (wk [4,2,2,0] (fr (ZP k fl))))))))))))
 have hke:k=ts.length:=by omega
 subst hke
 exact ax 0 (ar (Zo (r2 [1,1] [QA ys u] ⟨ys,pq,rfl,rfl,⟨by omega,Zy,by omega⟩⟩ (Zd.forget _ _))))
theorem Z6k (rd:Nat) (bs:LI) (p:Nat) (g:Wd) (gb:Nat) (rs:List Func) (vs:LI) (t:Int) (b:Nat) (ZI:∀z∈bs,0<=z/\z<=255) (hp:p+(bC b-1)<=1000000000:=by exact ob) (hg:GP g:=by exact ob) (Wt:g.funcs <+: rs:=by exact ob) (hv:vs.length+3*b<=900:=by exact ob) (hb:3<=b:=by exact ob) (ih:∀(rd:Nat) (bs:LI) (p:Nat) (vs2:LI) (t2:Int) (b2:Nat),(∀z∈bs,0<=z/\z<=255)->(p+bC b2<=1000000000)->(vs2.length+3*b2<=900)->(b2<b)->Zl 270 [.p rd 0,.agg (Wy g gb),Z4 vs2,.i t2,.i b2] [Yy rd bs p,XQ gb rs] (fun r h=>∃(e:Z2) (p2:Nat),r=Y8 e/\h=[Yy rd bs p2,XQ gb rs]/\GE g vs2.length (bS b2) e/\p<=p2/\p2<=p+bC b2)):Zl 291 [.p rd 0,.agg (Wy g gb),Z4 vs,.i t,.i b] [Yy rd bs p,XQ gb rs] (fun r h=>∃(e:Z2) (p2:Nat),r=Y8 e/\h=[Yy rd bs p2,XQ gb rs]/\GE g vs.length (bS b) e/\p<=p2/\p2<=p+(bC b-1)):=by
 have Xw:=hg.decls.ok
 have hgl:=hg.len
 have hdl:=hg.decls.len
 have hcm:=Nn b
 refine ZF 69 Tryz.func291 (ar (iA (Wy g gb) fun b1=>iA [.i 0,.i 0,nl] fun b2=>ie (Y4 1 (iL (Z6 [1,1,3,4]) 4 1 fun v1=>ZO 0 [(16,Z4 [1,1,3,4])] (ic [3] (VV rd bs p [1,1,3,4] (ZI:=ob)) ?_)))))
 rintro _ _ ⟨z1,rfl,rfl,ZT⟩
 have hz:=BA (a:=1) (b:=4) ZT (by decide)
 refine Z0 (Yk 3 [3] (iw (UG g.decls) (Xj [0,2,3,4,6,10,11] [(28,.b ((decide (z1>(g.decls.length:Int)))||W2 g.decls z1))] (fun gz=>gz) ?_ ?_)))
 ·refine Z1 2 (ib (b:=(decide (z1>(g.decls.length:Int)))) 23 (fun Zb=>?_) (fun Zb=>?_))
  ·exact Z0 (ZE 5 (Zv true Zb fl))
  exact ZK 3 [3] (Zw [] (EO g.decls z1) (Z0 (ZE 5 (Zv (W2 g.decls z1) Zb fl))))
 refine XR (fun fz gz F h=>∃(d:Int),(1<=d/\d<=4)/\F=sF [0,2,3,4,6,10] fz [(11,.i d)]/\h=[Zc gz 0,Zc gz 2,Zc gz 3,Zc gz 4]) ?_ ?_
 ·refine ac ((decide (z1>(g.decls.length:Int)))||W2 g.decls z1) (p:=(z1>(g.decls.length:Int))∨(W2 g.decls z1=true)) (Yi dq Iff.rfl) (fun Za=>?_) (fun Za=>?_)
  ·exact UT (ZU ⟨1,om,rfl,rfl⟩ (wk [0,1,1,1] fl))
  exact ak (ZU ⟨z1,om,rfl,rfl⟩ (wk [0,1,1,1] fl))
 rintro F h ⟨d,J2,rfl,rfl⟩
 have hcl:=Lx Xw d
 have hmc:=Zay (L:=(Y1 g.decls d).length) (q:=((b-2) / (Y1 g.decls d).length)) (b:=b) om hb (Qe _ _)
 have hqb:=Nat.div_le_self (b-2) (Y1 g.decls d).length
 refine Zu 3 [2] (ic [] (JZ g.decls d) ?_)
 rintro _ _ ⟨v2,rfl,rfl⟩
 refine Z0 (Zu 4 [3] (ic [1,3] (D8 rd bs (p+1) g gb rs vs d (ZI:=ob)) ?_))
 rintro _ _ ⟨e1,p21,rfl,rfl,YI⟩
 have hle:=YI.1
 refine UW [Y8 e1] (Yw [e1]) (XP [e1]).symm 1 3 fun v3=>?_
 refine Z0 (Yc (ab 0 (Y5 (fun fz gz m F h=>∃(k:Nat) (ys:List Z2) (u:Value) (pq:Nat),(k<=(Y1 g.decls d).length)/\(ys.length=k)/\(QT g.decls g.funcs.length (Q8 g.decls 8 d vs.length) 1 ys)/\(∀e∈ys,e.sz<=bS ((b-2) / (Y1 g.decls d).length))/\(p<=pq/\pq<=p+31+k*bC ((b-2) / (Y1 g.decls d).length))/\F=sF [0,2,3,4,6,10,11] fz [(12,Z4 (Y1 g.decls d)),(13,QA (e1::ys) u),(14,.i k)]/\h=[Yy rd bs pq,Zc gz 2,Zc gz 4,Zc gz 5,.tail u 3]/\m=(Y1 g.decls d).length-k) _ _ _ ⟨0,[],v3,p21,ob,rfl,True.intro,(fun e he=>by cases he),(by simp only [Nat.zero_mul];omega),rfl,rfl,rfl⟩ (wk [1,1,2,2,0] (fc (x:=ZQ (Y1 g.decls d) v2) (Zd.forget _ _) (fc (x:=QA [e1] v3) (Zd.slh _ (Yr Yw rfl)) (Yf fl)))) ?_)))
 rintro m F h ⟨k,ys,u,pq,Yh,Zj,Zy,Yu,XU,rfl,rfl,rfl⟩
 refine YC 2 (io (.i (((Y1 g.decls d).length:Nat):Int)) (.i (((Z6 (Y1 g.decls d)).length:Nat):Int)) (li (by rw [Y6])) (Y2 ((k:Int)<(((Y1 g.decls d).length:Nat):Int)) (fun Zf=>?_) (fun Zf=>?_)))
 ·refine ak (aq (ab 1 (aE 22 (ZL 14 22 [0,1,2,3,4,5,6,7] [3,3] ?_))))
  obtain ⟨x1,Z3⟩:=Zt (Y1 g.decls d) k om
  have hcf:=U4 Xw x1
  have harm:=Dz (m:=vs.length) Z3
  obtain ⟨hm1,hm2⟩:=R0 (k:=k) (L:=(Y1 g.decls d).length) (C:=bC ((b-2) / (Y1 g.decls d).length)) om
  refine dx 8 (Zh none (k:Int) 1 (Y0 Z3)) (Zk 10 13 [9,12,13] (da 14 (((b-2:Nat):Int)) (((b:Int))-(2)) (Zk 8 9 [15] (dn 16 (.i (((Y1 g.decls d).length:Nat):Int)) (.i (((Z6 (Y1 g.decls d)).length:Nat):Int)) (li (by rw [Y6])) (dx 17 (Cp (b-2) ((Y1 g.decls d).length) om om) (Z9 10 (Yt 10 [] [3] [b1] (KF g.decls x1) (Z9 11 (dc 11 [] [3] [b1] (Kd vs (ZX g.decls x1)) ?_)))))))))
  rintro _ _ ⟨v4,rfl,rfl⟩
  refine Yv 4 4 [] [(56,Z4 (vs++(ZX g.decls x1)))] (Z9 18 (dc 18 [1,1] [] [] (ih rd bs pq (vs++(ZX g.decls x1)) t ((b-2) / ((Y1 g.decls d).length)) ob ob (by simp only [Yx];omega) ob) ?_))
  rintro _ _ ⟨e2,p22,rfl,rfl,X9⟩
  have Xh:=X9.1
  exact Z9 19 (WJ 19 [] [] [Y8 e2] (Yw [e2]) (XP [e2]).symm 1 3 fun v5=>Yv 2 2 [] [(64,XD [e2])] (Z9 20 (dp 20 6 [] [] (Yw ((e1::ys)++[e2])) (Yw (e1::ys)) (Yw [e2]) u none 3 (Tn _) (Tn _) (JQ _) (by simp<;>omega) (by simp [JP,Yw]) fun v6=>Zk 0 1 [21] (de (az (Z1 1 (ZJ k (Z0 (ZM ⟨k+1,(ys++[e2]),v6,p22,ob,ob,(O7.2 ⟨Zy,by rw [Zj,harm,<-Yx];exact Xh.1,True.intro⟩),(XF Yu Xh.2),om,rfl,rfl,rfl⟩ (wk [2,2,3,3,0] (fr (fc (x:=QA ((e1::ys)++[e2]) v6) (Zd.slh _ (Yr Yw rfl)) (ZP k fl)))))))))))))
 refine ax 0 (ar (ZO 2 [(67,XD (e1::ys))] (Zw [] (XT 8 d (e1::ys)) (ZH 2 b2 (YZ (Z2.mk 8 d (e1::ys))) (ie ?_)))))
 have hke:k=(Y1 g.decls d).length:=by omega
 subst hke
 exact ZG (r3 [1,1] [Y8 (Z2.mk 8 d (e1::ys))] [0] [(b2,b2)] ⟨(Z2.mk 8 d (e1::ys)),pq,rfl,rfl,⟨GE.match_ om hle Zy Yu Zj rfl om (Zaz om hb (Qe _ _)),by omega⟩⟩ (lr _))
theorem OC (rd:Nat) (bs:LI) (p:Nat) (g:Wd) (gb:Nat) (rs:List Func) (vs:LI) (t:Int) (b:Nat) (ZI:∀z∈bs,0<=z/\z<=255) (hp:p+(bC b-1)<=1000000000:=by exact ob) (hg:GP g:=by exact ob) (Wt:g.funcs <+: rs:=by exact ob) (hv:vs.length+3*b<=900:=by exact ob) (hb:3<=b:=by exact ob) (ih:∀(rd:Nat) (bs:LI) (p:Nat) (vs2:LI) (t2:Int) (b2:Nat),(∀z∈bs,0<=z/\z<=255)->(p+bC b2<=1000000000)->(vs2.length+3*b2<=900)->(b2<b)->Zl 270 [.p rd 0,.agg (Wy g gb),Z4 vs2,.i t2,.i b2] [Yy rd bs p,XQ gb rs] (fun r h=>∃(e:Z2) (p2:Nat),r=Y8 e/\h=[Yy rd bs p2,XQ gb rs]/\GE g vs2.length (bS b2) e/\p<=p2/\p2<=p+bC b2)):Zl 293 [.p rd 0,.agg (Wy g gb),Z4 vs,.i t,.i b] [Yy rd bs p,XQ gb rs] (fun r h=>∃(e:Z2) (p2:Nat),r=Y8 e/\h=[Yy rd bs p2,XQ gb rs]/\GE g vs.length (bS b) e/\p<=p2/\p2<=p+(bC b-1)):=by
 have Xw:=hg.decls.ok
 have hgl:=hg.len
 have hdl:=hg.decls.len
 have hac:=Z1u hb
 have has:=Z1v hb
 refine ZF 120 Tryz.func293 (ar (iA (Wy g gb) fun b1=>iA [.i 0,.i 0,nl] fun b2=>ie (YC 1 (ic [2] (W7 rd bs p 4 (ZI:=ob)) ?_))))
 rintro _ _ ⟨k1,rfl,rfl,ZT⟩
 have qhp1:=ZT.lt om
 refine Z0 (XR (fun fz gz F h=>∃(p5:Nat),(p<=p5/\p5<=p+1)/\F=sF [0,2,3,4,6,10] fz []/\h=[Yy rd bs p5,Zc gz 1,Zc gz 2,Zc gz 3]) ?_ ?_)
 ·refine ac (k1==0) Zq (fun Za=>?_) (fun Za=>?_)
  ·refine ZD (ab 0 (Y5 (fun fz gz m F h=>∃(a:Nat),(1<=a/\a<=g.decls.length+1)/\F=sF [0,2,3,4,6,10] fz [(11,.i a)]/\h=gz/\m=g.decls.length+1-a) _ _ _ ⟨1,ob,rfl,rfl,rfl⟩ (ZE 4 (fc (x:=.i 1) li fl)) ?_))
   rintro m F h ⟨a,Yh,rfl,rfl,rfl⟩
   refine Yk 3 [2] (iw (UG g.decls) (Y2 ((a:Int)<=(g.decls.length:Int)) (fun Zf=>?_) (fun Zf=>?_)))
   ·refine ak (aq (ab 1 (aq (XR (fun fz gz F h=>∃(wb:Bool),(True)/\F=sF [0,2,3,4,6,10,11] fz [(44,.b wb)]/\h=gz) ?_ ?_))))
    ·refine az (ZK 3 [2] (Zw [] (EO g.decls (a:Int)) (Z1 1 (ib (b:=W2 g.decls (a:Int)) 28 (fun Zb=>?_) (fun Zb=>?_)))))
     ·refine ZK 3 [2] (ia (((a-1:Nat):Int)) (((a:Int))-(1)) ?_)
      obtain ⟨x1,Z3⟩:=Zt g.decls (a-1) om
      refine Zm (Zh none ((a-1:Nat):Int) 3 (VT Z3)) (Z1 6 (ib (b:=(x1.to_==t)) 39 (fun Zx=>?_) (fun Zx=>?_)))
      ·refine ZK 3 [2] (ic [3] (FZ g gb rs vs (a:Int)) ?_)
       rintro _ _ ⟨w1,rfl,rfl⟩
       exact Z0 (ZU ⟨w1,True.intro,rfl,rfl⟩ (wk [1,1,1,0] fl))
      exact Z0 (ZU ⟨false,True.intro,rfl,rfl⟩ (ZE 4 fl))
     exact Z0 (ZU ⟨false,True.intro,rfl,rfl⟩ (ZE 4 fl))
    rintro F h ⟨wb,kR5_0,rfl,rfl⟩
    refine ac wb Iff.rfl (fun ZB=>?_) (fun ZB=>?_)
    ·refine aD 21 (ZL 11 21 [0,1,2,3,5,6,7,8,9,10] [2,2,2] (da 11 (((a-1:Nat):Int)) (((a:Int))-(1)) ?_))
     obtain ⟨x2,Zs⟩:=Zt g.decls (a-1) om
     refine dx 12 (Zh none ((a-1:Nat):Int) 3 (VT Zs)) (Zk 6 9 [13,14,15] (da 16 (((b-2:Nat):Int)) (((b:Int))-(2)) (Z9 4 (dc 4 [0,2] [1,1] [b1,b1] (D8 rd bs (p+1) g gb rs vs (a:Int) (ZI:=ob)) ?_))))
     rintro _ _ ⟨e1,p21,rfl,rfl,XG⟩
     have hle:=XG.1
     refine Z9 17 (dc 17 [0,0] [] [] (ih rd bs p21 vs x2.frm (b-2) ob ob ob ob) ?_)
     rintro _ _ ⟨e2,p22,rfl,rfl,XY⟩
     have Xh:=XY.1
     exact Z9 18 (WJ 18 [] [] [Y8 e1,Y8 e2] (Yw [e1,e2]) (XP [e1,e2]).symm 2 3 fun v1=>Yv 2 2 [] [(63,XD [e1,e2])] (Z9 19 (Yt 19 [] [] [] (XT 11 0 [e1,e2]) (Z9 20 (YM 20 3 [] [] b2 (YZ (Z2.mk 11 0 [e1,e2])) (de (ZG (r3 [2,2] [Y8 (Z2.mk 11 0 [e1,e2])] [0] [(b2,b2)] ⟨(Z2.mk 11 0 [e1,e2]),p22,rfl,rfl,⟨GE.two om om hle Xh om,by omega⟩⟩ (lr _)))))))))
    exact ak (az (Z1 1 (ZJ a (Z0 (ZM ⟨a+1,ob,rfl,rfl,rfl⟩ (ZE 4 (ZP a fl)))))))
   exact ax 0 (ZU ⟨p+1,ob,rfl,rfl⟩ (ZE 4 fl))
  exact ak (ZU ⟨p+1,ob,rfl,rfl⟩ (ZE 4 fl))
 rintro F h ⟨p5,J2,rfl,rfl⟩
 refine Zu 3 [2] (ic [] (JZ g.decls t) ?_)
 rintro _ _ ⟨v2,rfl,rfl⟩
 refine Z0 (YC 1 (io (.i (((Y1 g.decls t).length:Nat):Int)) (.i (((Z6 (Y1 g.decls t)).length:Nat):Int)) (li (by rw [Y6])) (Y2 ((((Y1 g.decls t).length:Nat):Int)>0) (fun ZV=>?_) (fun ZV=>?_))))
 ·refine Y4 3 (io (.i (((Y1 g.decls t).length:Nat):Int)) (.i (((Z6 (Y1 g.decls t)).length:Nat):Int)) (li (by rw [Y6])) (ic [1] (W7 rd bs p5 (((Y1 g.decls t).length:Nat):Int) (ZI:=ob)) ?_))
  rintro _ _ ⟨k2,rfl,rfl,WQ⟩
  have qhp8:=WQ.lt om
  obtain ⟨x3,YJ⟩:=Zt (Y1 g.decls t) k2.toNat om
  have hcc:=hg.decls.cons_cases (ZY YJ)
  refine Zm (Zh (some v2) k2 1 (Y0 YJ)) (Z0 (aD 13 (ZL 5 13 [0,1,2,3,4,5,6,8] [3,3] (da 9 (((b-1:Nat):Int)) (((b:Int))-(1)) (Z9 7 (Yt 7 [] [2] [b1] (KF g.decls x3) (Z9 10 (dc 10 [0,3] [] [] (Ch rd bs (p5+1) g gb rs vs (ZX g.decls x3) (b-1) b (ZI:=ob) (hp:=(Cq (p:=p) (by first|omega|simp) hb om om)) (ht:=(by first|omega|simp)) (hb:=om) (ih:=ih)) ?_))))))))
  rintro _ _ ⟨ys1,p23,rfl,rfl,V8⟩
  have hga1:=V8.1
  have hga2:=V8.2.1
  have hga3:=V8.2.2
  have hnc:=AK (b:=b) (show (ys1).length<=3 by rw [hga1];first|omega|simp) hb (Qe _ (b-1))
  rw [hga1] at hnc
  exact Z9 11 (Yt 11 [] [] [] (XT 6 x3 ys1) (Z9 12 (YM 12 3 [] [] b2 (YZ (Z2.mk 6 x3 ys1)) (de (ZG (r3 [1,1] [Y8 (Z2.mk 6 x3 ys1)] [0] [(b2,b2)] ⟨(Z2.mk 6 x3 ys1),p23,rfl,rfl,⟨GE.node om (fun h=>by omega) om hga2 hga1 (by first|omega|simp) (Ew (by first|omega|simp) hb (Qe _ _)),by omega⟩⟩ (lr _)))))))
 refine ak (X2 (Y2 (t>0) (fun Xd=>?_) (fun Xd=>?_)))
 ·refine Zu 4 [3] (ic [1,3] (D8 rd bs p5 g gb rs vs t (ZI:=ob)) ?_)
  rintro _ _ ⟨e3,p24,rfl,rfl,Uy⟩
  have hle:=Uy.1
  exact ZH 3 b2 (YZ e3) (ie (ZG (r3 [1,1] [Y8 e3] [0] [(b2,b2)] ⟨e3,p24,rfl,rfl,⟨hle.le (Np b),by omega⟩⟩ (lr _))))
 refine ak (YC 1 (ic [1] (W7 rd bs p5 3 (ZI:=ob)) ?_))
 rintro _ _ ⟨k3,rfl,rfl,UU⟩
 have qhp11:=UU.lt om
 refine YD (k3==0) Zq (fun Xe=>?_) (fun Xe=>?_)
 ·refine Zu 3 [3] (iL (Z6 [0]) 1 1 fun v3=>Z1 1 (ia (((b-1:Nat):Int)) (((b:Int))-(1)) (ZO 0 [(104,Z4 [0])] (ic [1,4] (Ch rd bs (p5+1) g gb rs vs [0] (b-1) b (ZI:=ob) (hp:=(Cq (p:=p) (by first|omega|simp) hb om om)) (ht:=(by first|omega|simp)) (hb:=om) (ih:=ih)) ?_))))
  rintro _ _ ⟨ys2,p25,rfl,rfl,UV⟩
  have hga1:=UV.1
  have hga2:=UV.2.1
  have hga3:=UV.2.2
  have hnc:=AK (b:=b) (show (ys2).length<=3 by rw [hga1];first|omega|simp) hb (Qe _ (b-1))
  rw [hga1] at hnc
  exact Zw [] (XT 5 0 ys2) (ZH 4 b2 (YZ (Z2.mk 5 0 ys2)) (ie (ZG (r3 [1,1] [Y8 (Z2.mk 5 0 ys2)] [0] [(b2,b2)] ⟨(Z2.mk 5 0 ys2),p25,rfl,rfl,⟨GE.node om (fun h=>by omega) om hga2 hga1 (by first|omega|simp) (Ew (by first|omega|simp) hb (Qe _ _)),by omega⟩⟩ (lr _)))))
 refine ak (aD 12 (ZL 7 12 [0,3,4,5,7] [3] (da 8 (((b-1:Nat):Int)) (((b:Int))-(1)) (KV (fun fz gz F h=>∃(z1:Int) (ys3:List Z2) (p26:Nat),(z1∈[1,2,3,4])/\(ys3.length=[0,0].length/\(∀e∈ys3,GE g vs.length (bS ((b-1) / [0,0].length)) e)/\((p5+1)+1)<=p26/\p26<=((p5+1)+1)+[0,0].length*bC ((b-1) / [0,0].length))/\F=sF [10] fz []/\h=[.obj b2 (YZ (Z2.mk z1 0 ys3)),Yy rd bs p26,Zc gz 4,Zc gz 1,Zc gz 3]) ?_ ?_))))
 ·refine VI 1 6 ?_ ?_
  ·refine dL 1 [2] [b1] (Z6 [1,2,3,4]) 4 1 fun v4=>Yv 5 5 [] [(110,Z4 [1,2,3,4])] (VI 2 6 ?_ ?_)
   ·refine dc 2 [1] [1] [b1] (VV rd bs (p5+1) [1,2,3,4] (ZI:=ob)) ?_
    rintro _ _ ⟨z1,rfl,rfl,Qj⟩
    have hz:=BA (a:=1) (b:=4) Qj (by decide)
    refine Z9 6 (dL 6 [2] [b1] (Z6 [0,0]) 2 1 fun v5=>Yv 3 3 [] [(115,Z4 [0,0])] (Z9 9 (dc 9 [1,5] [] [] (Ch rd bs ((p5+1)+1) g gb rs vs [0,0] (b-1) b (ZI:=ob) (hp:=(Cq (p:=p) (by first|omega|simp) hb om om)) (ht:=(by first|omega|simp)) (hb:=om) (ih:=ih)) ?_)))
    rintro _ _ ⟨ys3,p26,rfl,rfl,Qk⟩
    have hga1:=Qk.1
    have hga2:=Qk.2.1
    have hga3:=Qk.2.2
    have hnc:=AK (b:=b) (show (ys3).length<=3 by rw [hga1];first|omega|simp) hb (Qe _ (b-1))
    rw [hga1] at hnc
    exact Z9 10 (Yt 10 [] [] [] (XT z1 0 ys3) (Z9 11 (YM 11 5 [] [] b2 (YZ (Z2.mk z1 0 ys3)) (de (ZU ⟨z1,ys3,p26,(by assumption),(by assumption),rfl,rfl⟩ (wk [0,0,0,2,2] fl))))))
   refine dL 6 [2] [b1] (Z6 [0,0]) 2 1 fun v6=>Z9 2 (dc 2 [2] [1] [b1] (VV rd bs (p5+1) [1,2,3,4] (ZI:=ob)) ?_)
   rintro _ _ ⟨z2,rfl,rfl,J1⟩
   have hz:=BA (a:=1) (b:=4) J1 (by decide)
   refine Yv 3 3 [] [(115,Z4 [0,0])] (Z9 9 (dc 9 [0,5] [] [] (Ch rd bs ((p5+1)+1) g gb rs vs [0,0] (b-1) b (ZI:=ob) (hp:=(Cq (p:=p) (by first|omega|simp) hb om om)) (ht:=(by first|omega|simp)) (hb:=om) (ih:=ih)) ?_))
   rintro _ _ ⟨ys4,p27,rfl,rfl,Kx⟩
   have hga1:=Kx.1
   have hga2:=Kx.2.1
   have hga3:=Kx.2.2
   have hnc:=AK (b:=b) (show (ys4).length<=3 by rw [hga1];first|omega|simp) hb (Qe _ (b-1))
   rw [hga1] at hnc
   exact Z9 10 (Yt 10 [] [] [] (XT z2 0 ys4) (Z9 11 (YM 11 5 [] [] b2 (YZ (Z2.mk z2 0 ys4)) (de (ZU ⟨z2,ys4,p27,(by assumption),(by assumption),rfl,rfl⟩ (wk [0,0,0,2,2] fl))))))
  refine dL 6 [2] [b1] (Z6 [0,0]) 2 1 fun v7=>Z9 1 (dL 1 [2] [b1] (Z6 [1,2,3,4]) 4 1 fun v8=>Yv 4 4 [] [(110,Z4 [1,2,3,4])] (Z9 2 (dc 2 [2] [1] [b1] (VV rd bs (p5+1) [1,2,3,4] (ZI:=ob)) ?_)))
  rintro _ _ ⟨z3,rfl,rfl,Bo⟩
  have hz:=BA (a:=1) (b:=4) Bo (by decide)
  refine Yv 3 3 [] [(115,Z4 [0,0])] (Z9 9 (dc 9 [0,5] [] [] (Ch rd bs ((p5+1)+1) g gb rs vs [0,0] (b-1) b (ZI:=ob) (hp:=(Cq (p:=p) (by first|omega|simp) hb om om)) (ht:=(by first|omega|simp)) (hb:=om) (ih:=ih)) ?_))
  rintro _ _ ⟨ys5,p28,rfl,rfl,Jy⟩
  have hga1:=Jy.1
  have hga2:=Jy.2.1
  have hga3:=Jy.2.2
  have hnc:=AK (b:=b) (show (ys5).length<=3 by rw [hga1];first|omega|simp) hb (Qe _ (b-1))
  rw [hga1] at hnc
  exact Z9 10 (Yt 10 [] [] [] (XT z3 0 ys5) (Z9 11 (YM 11 5 [] [] b2 (YZ (Z2.mk z3 0 ys5)) (de (ZU ⟨z3,ys5,p28,(by assumption),(by assumption),rfl,rfl⟩ (wk [0,0,0,2,2] fl))))))
 rintro F h ⟨z1,ys3,p26,Qj,Qk,rfl,rfl⟩
 have hz:=BA (a:=1) (b:=4) Qj (by decide)
 have hga1:=Qk.1
 have hga2:=Qk.2.1
 have hga3:=Qk.2.2
 have hnc:=AK (b:=b) (show (ys3).length<=3 by rw [hga1];first|omega|simp) hb (Qe _ (b-1))
 rw [hga1] at hnc
 exact ZG (r3 [1,1] [Y8 (Z2.mk z1 0 ys3)] [0] [(b2,b2)] ⟨(Z2.mk z1 0 ys3),p26,rfl,rfl,⟨GE.node om (fun h=>by omega) om hga2 hga1 (by first|omega|simp) (Ew (by first|omega|simp) hb (Qe _ _)),by omega⟩⟩ (lr _))
theorem Z6l (rd:Nat) (bs:LI) (p:Nat) (g:Wd) (gb:Nat) (rs:List Func) (vs:LI) (t:Int) (b:Nat) (ZI:∀z∈bs,0<=z/\z<=255) (hp:p+bC b<=1000000000) (hg:GP g) (Wt:g.funcs <+: rs) (hv:vs.length+3*b<=900) (ih:∀(rd:Nat) (bs:LI) (p:Nat) (vs2:LI) (t2:Int) (b2:Nat),(∀z∈bs,0<=z/\z<=255)->(p+bC b2<=1000000000)->(vs2.length+3*b2<=900)->(b2<b)->Zl 270 [.p rd 0,.agg (Wy g gb),Z4 vs2,.i t2,.i b2] [Yy rd bs p,XQ gb rs] (fun r h=>∃(e:Z2) (p2:Nat),r=Y8 e/\h=[Yy rd bs p2,XQ gb rs]/\GE g vs2.length (bS b2) e/\p<=p2/\p2<=p+bC b2)):Zl 270 [.p rd 0,.agg (Wy g gb),Z4 vs,.i t,.i b] [Yy rd bs p,XQ gb rs] (fun r h=>∃(e:Z2) (p2:Nat),r=Y8 e/\h=[Yy rd bs p2,XQ gb rs]/\GE g vs.length (bS b) e/\p<=p2/\p2<=p+bC b):=by
 have Xw:=hg.decls.ok
 have hgl:=hg.len
 have hdl:=hg.decls.len
 have hbm:=Np b
 have hcm:=Nn b
 refine ZF 114 Tryz.func270 (ar (iA (Wy g gb) fun b1=>iA [.i 0,.i 0,nl] fun b2=>ie (X2 (Y2 ((b:Int)<3) (fun Za=>?_) (fun Za=>?_)))))
 ·refine Zu 4 [1] (ic [2,2] (D8 rd bs p g gb rs vs t (ZI:=ob)) ?_)
  rintro _ _ ⟨e1,p21,rfl,rfl,ZT⟩
  have hle:=ZT.1
  exact ZH 2 b2 (YZ e1) (ie (ZG (r3 [1,1] [Y8 e1] [0] [(b2,b2)] ⟨e1,p21,rfl,rfl,⟨hle.le hbm,by omega⟩⟩ (lr _))))
 have hb:3<=b:=by omega
 have hlc:=Zau hb
 have hls:=Zav hb
 refine ak (YC 1 (ic [2] (W7 rd bs p 12 (ZI:=ob)) ?_))
 rintro _ _ ⟨k1,rfl,rfl,Yd⟩
 have qhp2:=Yd.lt om
 refine ie (ab 0 (ar (YD (k1==0) Zq (fun Zf=>?_) (fun Zf=>?_))))
 ·refine Zu 4 [2] (ic [0,2] (D8 rd bs (p+1) g gb rs vs t (ZI:=ob)) ?_)
  rintro _ _ ⟨e2,p22,rfl,rfl,YE⟩
  have hle:=YE.1
  exact ZH 2 b2 (YZ e2) (ie (ZG (r3 [1,1] [Y8 e2] [0] [(b2,b2)] ⟨e2,p22,rfl,rfl,⟨hle.le hbm,by omega⟩⟩ (lr _))))
 refine Yc (XR (fun fz gz F h=>F=sF [0,2,3,4,6,10,22] fz [(30,.b ((k1==1)||(k1==2)))]/\h=gz) ?_ ?_)
 ·refine ac (k1==1) Zq (fun ZB=>?_) (fun ZB=>?_)
  ·exact ak (ZU ⟨rfl,rfl⟩ (ZE 4 (fc (x:=.b (k1==1)) (lb (by first|rfl|(rw [Ze ZB])|(rw [Z8 ZB])|(simp [ZB];done)|(rw [Xu];simp [ZB];done)|omega)) fl)))
  exact UT (ZU ⟨rfl,rfl⟩ (ZE 4 (fc (x:=.b (k1==2)) (lb (by first|rfl|(rw [Ze ZB])|(rw [Z8 ZB])|(simp [ZB];done)|(rw [Xu];simp [ZB];done)|omega)) fl)))
 rintro F h ⟨rfl,rfl⟩
 refine ac ((k1==1)||(k1==2)) (p:=(k1=1)∨(k1=2)) (Yi Zq Zq) (fun ZV=>?_) (fun ZV=>?_)
 ·refine Zu 3 [2] (ic [0,2] (Z5y rd bs (p+1) g gb rs vs (ZI:=ob)) ?_)
  rintro _ _ ⟨z1,rfl,rfl,YI⟩
  refine Z0 (aD 20 (ZL 15 20 [0,1,2,3,4] [3] (dx 5 (Cp b 2 om om) (ZL 8 14 [7,8,9,10,13,14] [3] (dx 15 (Cp b 2 om om) (KV (fun fz gz F h=>∃(e3:Z2) (e4:Z2) (p24:Nat) (p23:Nat),(GE g vs.length (bS (b / 2)) e3/\((p+1)+1)<=p23/\p23<=((p+1)+1)+bC (b / 2))/\(GE g (vs++[z1]).length (bS (b / 2)) e4/\p23<=p24/\p24<=p23+bC (b / 2))/\F=sF [10] fz []/\h=[.obj b2 (YZ (Z2.mk 13 0 [e3,e4])),Yy rd bs p24,Zc gz 1,Zc gz 3]) ?_ ?_))))))
  ·refine VI 6 11 ?_ ?_
   ·refine dc 6 [0,0] [1] [b1] (ih rd bs ((p+1)+1) vs z1 (b / 2) ob ob (by first|omega|(simp only [Yx,YS,Xv];omega)) ob) ?_
    rintro _ _ ⟨e3,p23,rfl,rfl,X9⟩
    have hgehp5:=X9.1
    refine Z9 11 (dL 11 [3] [b1] (Z6 [z1]) 1 1 fun v1=>Yv 5 5 [] [(48,Z4 [z1])] (Z9 12 (dc 12 [] [3] [b1] (Kd vs [z1]) ?_)))
    rintro _ _ ⟨v2,rfl,rfl⟩
    refine Yv 4 4 [] [(49,Z4 (vs++[z1]))] (Z9 16 (dc 16 [2,2] [] [] (ih rd bs p23 (vs++[z1]) t (b / 2) ob ob (by first|omega|(simp only [Yx,YS,Xv];omega)) ob) ?_))
    rintro _ _ ⟨e4,p24,rfl,rfl,XG⟩
    have hgehp6:=XG.1
    exact Z9 17 (WJ 17 [] [] [Y8 e3,Y8 e4] (Yw [e3,e4]) (XP [e3,e4]).symm 2 3 fun v3=>Yv 2 2 [] [(54,XD [e3,e4])] (Z9 18 (Yt 18 [] [] [] (XT 13 0 [e3,e4]) (Z9 19 (YM 19 5 [] [] b2 (YZ (Z2.mk 13 0 [e3,e4])) (de (ZU ⟨e3,e4,p24,_,(by assumption),(by assumption),rfl,rfl⟩ (wk [0,1,1,3] fl))))))))
   refine dL 11 [3,3] [b1,b1] (Z6 [z1]) 1 1 fun v4=>Z9 6 (dc 6 [1,1] [1] [b1] (ih rd bs ((p+1)+1) vs z1 (b / 2) ob ob (by first|omega|(simp only [Yx,YS,Xv];omega)) ob) ?_)
   rintro _ _ ⟨e5,p25,rfl,rfl,XY⟩
   have hgehp7:=XY.1
   refine Yv 5 5 [] [(48,Z4 [z1])] (Z9 12 (dc 12 [] [3] [b1] (Kd vs [z1]) ?_))
   rintro _ _ ⟨v5,rfl,rfl⟩
   refine Yv 4 4 [] [(49,Z4 (vs++[z1]))] (Z9 16 (dc 16 [1,1] [] [] (ih rd bs p25 (vs++[z1]) t (b / 2) ob ob (by first|omega|(simp only [Yx,YS,Xv];omega)) ob) ?_))
   rintro _ _ ⟨e6,p26,rfl,rfl,WQ⟩
   have hgehp8:=WQ.1
   exact Z9 17 (WJ 17 [] [] [Y8 e5,Y8 e6] (Yw [e5,e6]) (XP [e5,e6]).symm 2 3 fun v6=>Yv 2 2 [] [(54,XD [e5,e6])] (Z9 18 (Yt 18 [] [] [] (XT 13 0 [e5,e6]) (Z9 19 (YM 19 5 [] [] b2 (YZ (Z2.mk 13 0 [e5,e6])) (de (ZU ⟨e5,e6,p26,_,(by assumption),(by assumption),rfl,rfl⟩ (wk [0,1,1,3] fl))))))))
  rintro F h ⟨e3,e4,p24,p23,X9,XG,rfl,rfl⟩
  have hgehp5:=X9.1
  have hgehp6:=XG.1
  exact ZG (r3 [1,1] [Y8 (Z2.mk 13 0 [e3,e4])] [0] [(b2,b2)] ⟨(Z2.mk 13 0 [e3,e4]),p24,rfl,rfl,⟨GE.let_ (by assumption) (by have h:=‹GE g (vs++[_]).length (bS (b / 2)) _›;rw [Yx] at h;exact h) hls,by omega⟩⟩ (lr _))
 refine ar (YD (k1==3) Zq (fun Xd=>?_) (fun Xd=>?_))
 ·refine Zu 5 [2] (iL (Z6 [0,t,t]) 3 1 fun v7=>Z1 1 (ia (((b-1:Nat):Int)) (((b:Int))-(1)) (ZO 0 [(63,Z4 [0,t,t])] (ic [1,3] (Ch rd bs (p+1) g gb rs vs [0,t,t] (b-1) b (ZI:=ob) (hp:=(Cq (p:=p) (by first|omega|simp) hb om om)) (ht:=(by first|omega|simp)) (hb:=om) (ih:=ih)) ?_))))
  rintro _ _ ⟨ys1,p27,rfl,rfl,V8⟩
  have hga1:=V8.1
  have hga2:=V8.2.1
  have hga3:=V8.2.2
  have hnc:=AK (b:=b) (show (ys1).length<=3 by rw [hga1];first|omega|simp) hb (Qe _ (b-1))
  rw [hga1] at hnc
  exact Zw [] (XT 7 0 ys1) (ZH 3 b2 (YZ (Z2.mk 7 0 ys1)) (ie (ZG (r3 [1,1] [Y8 (Z2.mk 7 0 ys1)] [0] [(b2,b2)] ⟨(Z2.mk 7 0 ys1),p27,rfl,rfl,⟨GE.if_ om hga2 hga1 (Ew (by simp) hb (Qe 3 _)),by omega⟩⟩ (lr _)))))
 refine Yc (XR (fun fz gz F h=>F=sF [0,2,3,4,6,10,22] fz [(68,.b ((k1==4)||((k1==5)||(k1==6))))]/\h=gz) ?_ ?_)
 ·refine ac (k1==4) Zq (fun Xe=>?_) (fun Xe=>?_)
  ·exact ak (ZU ⟨rfl,rfl⟩ (ZE 4 (fc (x:=.b (k1==4)) (lb (by first|rfl|(rw [Ze Xe])|(rw [Z8 Xe])|(simp [Xe];done)|(rw [Xu];simp [Xe];done)|omega)) fl)))
  refine ar (YD (k1==5) Zq (fun VW=>?_) (fun VW=>?_))
  ·exact ak (ZU ⟨rfl,rfl⟩ (ZE 4 (fc (x:=.b (k1==5)) (lb (by first|rfl|(rw [Ze Xe])|(rw [Z8 Xe])|(simp [Xe,VW];done)|(rw [Xu];simp [Xe,VW];done)|omega)) fl)))
  exact UT (ZU ⟨rfl,rfl⟩ (ZE 4 (fc (x:=.b (k1==6)) (lb (by first|rfl|(rw [Ze Xe])|(rw [Z8 Xe])|(simp [Xe,VW];done)|(rw [Xu];simp [Xe,VW];done)|omega)) fl)))
 rintro F h ⟨rfl,rfl⟩
 refine ac ((k1==4)||((k1==5)||(k1==6))) (p:=(k1=4)∨((k1=5)∨(k1=6))) (Yi Zq (Yi Zq Zq)) (fun VL=>?_) (fun VL=>?_)
 ·refine Zu 5 [2] (ic [0,2] (Z6k rd bs (p+1) g gb rs vs t b (ZI:=ob) (ih:=ih)) ?_)
  rintro _ _ ⟨e7,p28,rfl,rfl,Uy⟩
  have hgm:=Uy.1
  exact ZH 2 b2 (YZ e7) (ie (ZG (r3 [1,1] [Y8 e7] [0] [(b2,b2)] ⟨e7,p28,rfl,rfl,⟨hgm,by omega⟩⟩ (lr _))))
 refine Yc (XR (fun fz gz F h=>F=sF [0,2,3,4,6,10] fz [(78,.b ((k1==7)||(k1==8)))]/\h=gz) ?_ ?_)
 ·refine ac (k1==7) Zq (fun VM=>?_) (fun VM=>?_)
  ·exact ak (ZU ⟨rfl,rfl⟩ (ZE 4 (fc (x:=.b (k1==7)) (lb (by first|rfl|(rw [Ze VM])|(rw [Z8 VM])|(simp [VM];done)|(rw [Xu];simp [VM];done)|omega)) fl)))
  exact UT (ZU ⟨rfl,rfl⟩ (ZE 4 (fc (x:=.b (k1==8)) (lb (by first|rfl|(rw [Ze VM])|(rw [Z8 VM])|(simp [VM];done)|(rw [Xu];simp [VM];done)|omega)) fl)))
 rintro F h ⟨rfl,rfl⟩
 refine ac ((k1==7)||(k1==8)) (p:=(k1=7)∨(k1=8)) (Yi Zq Zq) (fun TF=>?_) (fun TF=>?_)
 ·refine Zu 2 [2] (ic [3] (Z62 g gb rs t) ?_)
  rintro _ _ ⟨xs1,rfl,rfl,UU⟩
  have hcal:=UU
  refine Z0 (Y4 1 (iw (Y6 xs1) (Y2 ((xs1.length:Int)>0) (fun Jv=>?_) (fun Jv=>?_))))
  ·refine Y4 3 (iw (Y6 xs1) (ic [1] (W7 rd bs (p+1) (xs1.length:Int) (ZI:=ob)) ?_))
   rintro _ _ ⟨k2,rfl,rfl,UV⟩
   have qhp12:=UV.lt om
   obtain ⟨x1,Z3⟩:=Zt xs1 k2.toNat om
   have hcv:=hcal.2 _ (ZY Z3)
   refine Zm (Zh none k2 1 (Y0 Z3)) (Z0 (aD 15 (ZL 8 15 [0,1,2,3,4,5,6] [3,3] ?_)))
   obtain ⟨x2,Zs⟩:=Zt g.funcs x1.toNat om
   have hso:=(hg.sigs _ (ZY Zs)).bd
   refine dx 7 (Ws gb g.funcs.length 4 x1.toNat 5 x1) (Zk 6 7 [8] (Uo 9 (Vu 1 gb 4 4 5 (x1.toNat * 5+0) (Zp (Xt rs)) [Z4 x2.params] 31 (Z4 x2.params) (US Wt Zs 0 rfl (Ve rfl))) (Zk 4 5 [10] (da 11 (((b-1:Nat):Int)) (((b:Int))-(1)) (Z9 12 (dc 12 [0,0] [] [] (Ch rd bs ((p+1)+1) g gb rs vs x2.params (b-1) b (ZI:=ob) (hp:=(Cq (p:=p) (by first|omega|simp) hb om om)) (ht:=(by first|omega|simp)) (hb:=om) (ih:=ih)) ?_))))))
   rintro _ _ ⟨ys2,p29,rfl,rfl,Qj⟩
   have hga1:=Qj.1
   have hga2:=Qj.2.1
   have hga3:=Qj.2.2
   have hnc:=AK (b:=b) (show (ys2).length<=3 by rw [hga1];first|omega|simp) hb (Qe _ (b-1))
   rw [hga1] at hnc
   exact Z9 13 (Yt 13 [] [] [] (XT 9 x1 ys2) (Z9 14 (YM 14 2 [] [] b2 (YZ (Z2.mk 9 x1 ys2)) (de (ZG (r3 [1,1] [Y8 (Z2.mk 9 x1 ys2)] [0] [(b2,b2)] ⟨(Z2.mk 9 x1 ys2),p29,rfl,rfl,⟨GE.node om (fun _=>by omega) om hga2 hga1 (by first|omega|simp) (Ew (by first|omega|simp) hb (Qe _ _)),by omega⟩⟩ (lr _)))))))
  refine ak (Zu 5 [3] (ic [1,0] (OC rd bs (p+1) g gb rs vs t b (ZI:=ob) (ih:=ih)) ?_))
  rintro _ _ ⟨e8,p210,rfl,rfl,Qk⟩
  have hgm:=Qk.1
  exact ZH 2 b2 (YZ e8) (ie (ZG (r3 [1,1] [Y8 e8] [0] [(b2,b2)] ⟨e8,p210,rfl,rfl,⟨hgm,by omega⟩⟩ (lr _))))
 refine ak (Zu 5 [2] (ic [0,2] (OC rd bs (p+1) g gb rs vs t b (ZI:=ob) (ih:=ih)) ?_))
 rintro _ _ ⟨e9,p211,rfl,rfl,J1⟩
 have hgm:=J1.1
 exact ZH 2 b2 (YZ e9) (ie (ZG (r3 [1,1] [Y8 e9] [0] [(b2,b2)] ⟨e9,p211,rfl,rfl,⟨hgm,by omega⟩⟩ (lr _))))
theorem QV (rd:Nat) (bs:LI) (p:Nat) (g:Wd) (gb:Nat) (rs:List Func) (vs:LI) (t:Int) (b:Nat) (ZI:∀z∈bs,0<=z/\z<=255) (hp:p+bC b<=1000000000:=by exact ob) (hg:GP g:=by exact ob) (Wt:g.funcs <+: rs:=by exact ob) (hv:vs.length+3*b<=900:=by exact ob):Zl 270 [.p rd 0,.agg (Wy g gb),Z4 vs,.i t,.i b] [Yy rd bs p,XQ gb rs] (fun r h=>∃(e:Z2) (p2:Nat),r=Y8 e/\h=[Yy rd bs p2,XQ gb rs]/\GE g vs.length (bS b) e/\p<=p2/\p2<=p+bC b):=by
 have key:∀k:Nat,∀(rd:Nat) (bs:LI) (p:Nat) (vs:LI) (t:Int) (b2:Nat),(∀z∈bs,0<=z/\z<=255)->(p+bC b2<=1000000000)->(vs.length+3*b2<=900)->(b2<k)->Zl 270 [.p rd 0,.agg (Wy g gb),Z4 vs,.i t,.i b2] [Yy rd bs p,XQ gb rs] (fun r h=>∃(e:Z2) (p2:Nat),r=Y8 e/\h=[Yy rd bs p2,XQ gb rs]/\GE g vs.length (bS b2) e/\p<=p2/\p2<=p+bC b2):=by
  intro k
  induction k with
  | zero=>intro rd bs p vs t b2 h1 h2 h3 h4;omega
  | succ k ih=>intro rd bs p vs t b2 h1 h2 h3 h4;exact Z6l rd bs p g gb rs vs t b2 h1 h2 hg Wt h3 fun rd bs p vs t b3 q1 q2 q3 q4=>ih rd bs p vs t b3 q1 q2 q3 om
 exact key (b+1) rd bs p vs t b ZI hp hv om
theorem OB (rd:Nat) (bs:LI) (p:Nat) (g:Wd) (gb:Nat) (rs:List Func) (vs:LI) (t:Int) (b:Nat) (ZI:∀z∈bs,0<=z/\z<=255) (hp:p+40000<=1000000000:=by exact ob) (hg:GP g:=by exact ob) (Wt:g.funcs <+: rs:=by exact ob) (hv:vs.length+3*b<=900:=by exact ob) (hb:b<=20:=by exact ob):Zl 231 [.p rd 0,.agg (Wy g gb),Z4 vs,.i t,.i b] [Yy rd bs p,XQ gb rs] (fun r h=>∃(e:Z2) (p2:Nat),r=Y8 e/\h=[Yy rd bs p2,XQ gb rs]/\GE g vs.length 30 e/\p<=p2/\p2<=p+40000):=by
 have Dc:=Fd hb
 refine ZF 34 Tryz.func231 (ar (iA (Wy g gb) fun b1=>iA [.i 0,.i 0,nl] fun b2=>ie (Zu 5 [1] (ic [2,2] (QV rd bs p g gb rs vs t b (ZI:=ob)) ?_))))
 rintro _ _ ⟨e1,p21,rfl,rfl,ZT⟩
 have Xh:=ZT.1
 refine iA [.i 0,.i 0,nl] fun b3=>?_
 refine ZH 0 b3 (YZ e1) (ie (aq (ab 0 (Y5 (fun fz gz m F h=>∃(bq:Nat) (eQ:Z2) (pq:Nat),(GE g vs.length (bS bq) eQ)/\(bq<=b)/\(p<=pq/\pq+1900*bq<=p+1900*(b+1))/\F=sF [0,2,3,6,10,11] fz [(4,.i bq)]/\h=[.obj b3 (YZ eQ),Yy rd bs pq,Zc gz 2,Zc gz 3,Zc gz 4]/\m=bq+1) _ _ _ ⟨b,e1,p21,Xh,ob,ob,rfl,rfl,rfl⟩ (ZE 5 fl) ?_))))
 rintro m F h ⟨bq,eQ,pq,Yh,Zj,Zy,rfl,rfl,rfl⟩
 refine Yk 1 [0] (ic [] (OI eQ (hz:=(by have h1:=Yh.2;have h2:=(Fd (b:=bq) om).1;omega))) ?_)
 rintro _ _ ⟨w1,rfl,rfl,Yd⟩
 have Eh:=Yd
 have hq20:=Fd (b:=bq) om
 have hq21:=Fd (b:=bq / 2) om
 have Xo:=Yh.2
 refine Xj [0,2,3,4,6,10,11] [(24,.b ((decide (w1<0))&&(decide ((bq:Int)>2))))] (fun gz=>gz) ?_ ?_
 ·refine Z1 2 (ib (b:=(decide (w1<0))) 21 (fun Zb=>?_) (fun Zb=>?_))
  ·exact Z0 (ZE 5 (Zv (decide ((bq:Int)>2)) Zb fl))
  exact Z0 (ZE 5 (Zv false Zb fl))
 refine ac ((decide (w1<0))&&(decide ((bq:Int)>2))) (p:=(w1<0)/\((bq:Int)>2)) (YG dq dq) (fun Za=>?_) (fun Za=>?_)
 ·refine ak (ab 1 (Y4 1 (Zm (Cp bq 2 om om) (Z0 (az (ZK 5 [4] (ic [1,1] (QV rd bs pq g gb rs vs t (bq / 2) (ZI:=ob)) ?_)))))))
  rintro _ _ ⟨e2,p22,rfl,rfl,X9⟩
  have Xh:=X9.1
  exact ZH 2 b3 (YZ e2) (ie (ZM ⟨(bq / 2),e2,p22,Xh,ob,ob,rfl,rfl,rfl⟩ (ZE 5 (fc (x:=.i (bq / 2:Nat)) li fl))))
 exact ax 0 (Zu 1 [0] (ZH 3 b2 (YZ eQ) (ie (ZG (r3 [2,2] [Y8 eQ] [0] [(b2,b2)] ⟨eQ,pq,rfl,rfl,⟨⟨Yh.1,by omega⟩,by omega⟩⟩ (lr _))))))
theorem Z6z (rd:Nat) (bs:LI) (p:Nat) (t:Int) (ZI:∀z∈bs,0<=z/\z<=255) (hp:p+14<=1000000000:=by exact ob):Zl 272 [.p rd 0,.i t] [Yy rd bs p] (fun r h=>∃(e:Z2) (p2:Nat),r=Y8 e/\h=[Yy rd bs p2]/\(∀g:Wd,SE g 9 e)/\p<=p2/\p2<=p+14):=by
 refine ZF 45 Tryz.func272 (ar (iA [.i 0,.i 0,nl] fun b1=>ie (ar (iL (Yw []) 0 3 fun v1=>ZO 0 [(10,XD [])] (Zw [] (XT 6 0 []) (iA [.i 0,.i 0,nl] fun b2=>ZH 0 b2 (YZ (Z2.mk 6 0 [])) (ie (X2 (YD (t==3) Zq (fun Za=>?_) (fun Za=>?_))))))))))
 ·refine ar (iL (Yw []) 0 3 fun v2=>ZO 0 [(14,XD [])] (Zw [] (XT 6 2 []) (iA [.i 0,.i 0,nl] fun b3=>?_)))
  refine ZH 0 b3 (YZ (Z2.mk 6 2 [])) (ie (aD 9 (ZL 6 9 [0,1,4] [0,0] (KV (fun fz gz F h=>∃(k1:Int) (b4:Nat),(Pk 9 k1)/\F=sF [0,4,6] fz [(7,.p b4 0)]/\h=[.obj b4 (YZ (Z2.mk 6 3 [Z2.mk 6 2 [],Z2.mk 0 k1 [],Z2.mk 6 2 []])),.obj rd [VA bs,.i (p+1:Nat)],Zc gz 0,Zc gz 1,Zc gz 2,Zc gz 3,Zc gz 4]) ?_ ?_))))
  ·refine VI 2 7 ?_ ?_
   ·refine dc 2 [5] [0,0] [b3,b3] (W7 rd bs p 9 (ZI:=ob)) ?_
    rintro _ _ ⟨k1,rfl,rfl,ZT⟩
    have qhp1:=ZT.lt om
    refine VI 3 7 ?_ ?_
    ·refine Yt 3 [] [1,1] [b3,b3] (Aw k1) (VI 5 7 ?_ ?_)
     ·refine WJ 5 [] [] [Y8 (Z2.mk 6 2 []),Y8 (Z2.mk 0 k1 []),Y8 (Z2.mk 6 2 [])] (Yw [Z2.mk 6 2 [],Z2.mk 0 k1 [],Z2.mk 6 2 []]) (XP [Z2.mk 6 2 [],Z2.mk 0 k1 [],Z2.mk 6 2 []]).symm 3 3 fun v3=>Yv 3 3 [] [(21,XD [Z2.mk 6 2 [],Z2.mk 0 k1 [],Z2.mk 6 2 []])] (VI 6 7 ?_ ?_)
      ·exact Yt 6 [] [] [] (XT 6 3 [Z2.mk 6 2 [],Z2.mk 0 k1 [],Z2.mk 6 2 []]) (Z9 7 (dA 7 [] [] [.i 0,.i 0,nl] fun b4=>Z9 8 (YM 8 0 [] [] b4 (YZ (Z2.mk 6 3 [Z2.mk 6 2 [],Z2.mk 0 k1 [],Z2.mk 6 2 []])) (de (ZU ⟨k1,b4,(by assumption),rfl,rfl⟩ (wk [0,1,1,1,1,1,1] fl))))))
      exact dA 7 [] [] [.i 0,.i 0,nl] fun b5=>Z9 6 (Yt 6 [] [] [] (XT 6 3 [Z2.mk 6 2 [],Z2.mk 0 k1 [],Z2.mk 6 2 []]) (Z9 8 (YM 8 0 [] [] b5 (YZ (Z2.mk 6 3 [Z2.mk 6 2 [],Z2.mk 0 k1 [],Z2.mk 6 2 []])) (de (ZU ⟨k1,b5,(by assumption),rfl,rfl⟩ (wk [0,1,1,1,1,1,1] fl))))))
     exact dA 7 [1,1] [b3,b3] [.i 0,.i 0,nl] fun b6=>Z9 5 (WJ 5 [] [] [Y8 (Z2.mk 6 2 []),Y8 (Z2.mk 0 k1 []),Y8 (Z2.mk 6 2 [])] (Yw [Z2.mk 6 2 [],Z2.mk 0 k1 [],Z2.mk 6 2 []]) (XP [Z2.mk 6 2 [],Z2.mk 0 k1 [],Z2.mk 6 2 []]).symm 3 3 fun v4=>Yv 2 2 [] [(21,XD [Z2.mk 6 2 [],Z2.mk 0 k1 [],Z2.mk 6 2 []])] (Z9 6 (Yt 6 [] [] [] (XT 6 3 [Z2.mk 6 2 [],Z2.mk 0 k1 [],Z2.mk 6 2 []]) (Z9 8 (YM 8 1 [] [] b6 (YZ (Z2.mk 6 3 [Z2.mk 6 2 [],Z2.mk 0 k1 [],Z2.mk 6 2 []])) (de (ZU ⟨k1,b6,(by assumption),rfl,rfl⟩ (wk [0,1,1,1,1,1,1] fl))))))))
    exact dA 7 [1,1] [b3,b3] [.i 0,.i 0,nl] fun b7=>Z9 3 (Yt 3 [] [2,2] [b3,b3] (Aw k1) (Z9 5 (WJ 5 [] [] [Y8 (Z2.mk 6 2 []),Y8 (Z2.mk 0 k1 []),Y8 (Z2.mk 6 2 [])] (Yw [Z2.mk 6 2 [],Z2.mk 0 k1 [],Z2.mk 6 2 []]) (XP [Z2.mk 6 2 [],Z2.mk 0 k1 [],Z2.mk 6 2 []]).symm 3 3 fun v5=>Yv 2 2 [] [(21,XD [Z2.mk 6 2 [],Z2.mk 0 k1 [],Z2.mk 6 2 []])] (Z9 6 (Yt 6 [] [] [] (XT 6 3 [Z2.mk 6 2 [],Z2.mk 0 k1 [],Z2.mk 6 2 []]) (Z9 8 (YM 8 1 [] [] b7 (YZ (Z2.mk 6 3 [Z2.mk 6 2 [],Z2.mk 0 k1 [],Z2.mk 6 2 []])) (de (ZU ⟨k1,b7,(by assumption),rfl,rfl⟩ (wk [0,1,1,1,1,1,1] fl))))))))))
   refine dA 7 [0,0] [b3,b3] [.i 0,.i 0,nl] fun b8=>Z9 2 (dc 2 [6] [1,1] [b3,b3] (W7 rd bs p 9 (ZI:=ob)) ?_)
   rintro _ _ ⟨k2,rfl,rfl,Yd⟩
   have qhp2:=Yd.lt om
   exact Z9 3 (Yt 3 [] [2,2] [b3,b3] (Aw k2) (Z9 5 (WJ 5 [] [] [Y8 (Z2.mk 6 2 []),Y8 (Z2.mk 0 k2 []),Y8 (Z2.mk 6 2 [])] (Yw [Z2.mk 6 2 [],Z2.mk 0 k2 [],Z2.mk 6 2 []]) (XP [Z2.mk 6 2 [],Z2.mk 0 k2 [],Z2.mk 6 2 []]).symm 3 3 fun v6=>Yv 2 2 [] [(21,XD [Z2.mk 6 2 [],Z2.mk 0 k2 [],Z2.mk 6 2 []])] (Z9 6 (Yt 6 [] [] [] (XT 6 3 [Z2.mk 6 2 [],Z2.mk 0 k2 [],Z2.mk 6 2 []]) (Z9 8 (YM 8 2 [] [] b8 (YZ (Z2.mk 6 3 [Z2.mk 6 2 [],Z2.mk 0 k2 [],Z2.mk 6 2 []])) (de (ZU ⟨k2,b8,(by assumption),rfl,rfl⟩ (wk [0,1,1,1,1,1,1] fl))))))))))
  rintro F h ⟨k1,b4,ZT,rfl,rfl⟩
  have qhp1:=ZT.lt om
  refine aD 8 (ZL 5 8 [0,1,4] [0,2] (Z9 2 (dc 2 [1] [1,0] [b3,b4] (W7 rd bs (p+1) 9 (ZI:=ob)) ?_)))
  rintro _ _ ⟨k3,rfl,rfl,YE⟩
  have qhp3:=YE.lt om
  exact Z9 3 (Yt 3 [] [2,1] [b3,b4] (Aw k3) (Z9 5 (WJ 5 [] [] [Y8 (Z2.mk 6 3 [Z2.mk 6 2 [],Z2.mk 0 k1 [],Z2.mk 6 2 []]),Y8 (Z2.mk 0 k3 []),Y8 (Z2.mk 6 2 [])] (Yw [Z2.mk 6 3 [Z2.mk 6 2 [],Z2.mk 0 k1 [],Z2.mk 6 2 []],Z2.mk 0 k3 [],Z2.mk 6 2 []]) (XP [Z2.mk 6 3 [Z2.mk 6 2 [],Z2.mk 0 k1 [],Z2.mk 6 2 []],Z2.mk 0 k3 [],Z2.mk 6 2 []]).symm 3 3 fun v7=>Yv 2 2 [] [(28,XD [Z2.mk 6 3 [Z2.mk 6 2 [],Z2.mk 0 k1 [],Z2.mk 6 2 []],Z2.mk 0 k3 [],Z2.mk 6 2 []])] (Z9 6 (Yt 6 [] [] [] (XT 6 3 [Z2.mk 6 3 [Z2.mk 6 2 [],Z2.mk 0 k1 [],Z2.mk 6 2 []],Z2.mk 0 k3 [],Z2.mk 6 2 []]) (Z9 7 (YM 7 7 [] [] b1 (YZ (Z2.mk 6 3 [Z2.mk 6 3 [Z2.mk 6 2 [],Z2.mk 0 k1 [],Z2.mk 6 2 []],Z2.mk 0 k3 [],Z2.mk 6 2 []])) (de (ZG (r3 [2] [Y8 (Z2.mk 6 3 [Z2.mk 6 3 [Z2.mk 6 2 [],Z2.mk 0 k1 [],Z2.mk 6 2 []],Z2.mk 0 k3 [],Z2.mk 6 2 []])] [0] [(b1,b1)] ⟨(Z2.mk 6 3 [Z2.mk 6 3 [Z2.mk 6 2 [],Z2.mk 0 k1 [],Z2.mk 6 2 []],Z2.mk 0 k3 [],Z2.mk 6 2 []]),(p+1)+1,rfl,rfl,⟨fun g=>SE.three (s1:=4) (s2:=1) (s3:=1) om om (SE.three (s1:=1) (s2:=1) (s3:=1) om om (SE.nil om om om) (SE.int om om) (SE.nil om om om) om) (SE.int om om) (SE.nil om om om) om,by omega⟩⟩ (lr _)))))))))))
 refine ak (Zu 1 [0] (iA [.i 0,.i 0,nl] fun b9=>ZH 0 b9 (YZ (Z2.mk 6 0 [])) (ie (YC 1 (ic [4] (W7 rd bs p 3 (ZI:=ob)) ?_)))))
 rintro _ _ ⟨k4,rfl,rfl,YI⟩
 have qhp4:=YI.lt om
 refine ia ((1+k4)) ((1)+(k4)) (Z0 (ab 0 (Y5 (fun fz gz m F h=>∃(j:Int) (eQ:Z2) (pq:Nat),(0<=j/\j<=3)/\(∀g:Wd,SE g (7-2*j.toNat) eQ)/\(p+1<=pq/\pq+4*j.toNat<=p+13)/\F=sF [0,4,8] fz [(9,.i j)]/\h=[Yy rd bs pq,.obj b9 (YZ eQ),Zc gz 4]/\m=j.toNat) _ _ _ ⟨(1+k4),(Z2.mk 6 0 []),p+1,ob,(fun g=>SE.nil om om om),ob,rfl,rfl,rfl⟩ (wk [0,0,2] fl) ?_)))
 rintro m F h ⟨j,eQ,pq,Yh,Zj,Zy,rfl,rfl,rfl⟩
 refine X2 (Y2 (j>0) (fun Zf=>?_) (fun Zf=>?_))
 ·refine ak (aq (ab 1 (aE 7 (ZL 5 7 [0,3] [1] (Z9 1 (dc 1 [0] [0] [b9] (OK rd bs pq (ZI:=ob)) ?_))))))
  rintro _ _ ⟨z1,rfl,rfl,X9⟩
  have hz:=X9
  exact Z9 2 (Yt 2 [] [1] [b9] (Aw z1) (Z9 4 (WJ 4 [] [] [Y8 (Z2.mk 0 z1 []),Y8 eQ] (Yw [Z2.mk 0 z1 [],eQ]) (XP [Z2.mk 0 z1 [],eQ]).symm 2 3 fun v8=>Yv 2 2 [] [(42,XD [Z2.mk 0 z1 [],eQ])] (Z9 5 (Yt 5 [] [] [] (XT 6 1 [Z2.mk 0 z1 [],eQ]) (Z9 6 (YM 6 2 [] [] b9 (YZ (Z2.mk 6 1 [Z2.mk 0 z1 [],eQ])) (de (az (Z1 1 (ia ((j-1)) ((j)-(1)) (Z0 (ZM ⟨(j-1),(Z2.mk 6 1 [Z2.mk 0 z1 [],eQ]),pq+4,ob,(fun g=>SE.two om om (SE.int (q:=1) om om) (Zj g) om),ob,rfl,rfl,rfl⟩ (wk [2,0,1] fl))))))))))))))
 exact ax 0 (Zu 1 [1] (ZH 2 b1 (YZ eQ) (ie (ZG (r3 [1] [Y8 eQ] [0] [(b1,b1)] ⟨eQ,pq,rfl,rfl,⟨fun g=>(⟨(Zj g).1,by have:=(Zj g).2;omega⟩:SE g 9 _),by omega⟩⟩ (lr _))))))
theorem Z72 (rd:Nat) (bs:LI) (p:Nat) (g:Wd) (gb:Nat) (rs:List Func) (ZI:∀z∈bs,0<=z/\z<=255) (hp:p+1600<=1000000000:=by exact ob) (hg:GP g:=by exact ob) (Wt:g.funcs <+: rs:=by exact ob):Zl 227 [.p rd 0,.agg (Wy g gb)] [Yy rd bs p,XQ gb rs] (fun r h=>∃(e:Z2) (p2:Nat),r=Y8 e/\h=[Yy rd bs p2,XQ gb rs]/\GE g 0 200 e/\p<=p2/\p2<=p+1600):=by
 have hbv:=DV
 refine ZF 27 Tryz.func227 (ar (iA (Wy g gb) fun b1=>iA [.i 0,.i 0,nl] fun b2=>ie (Y4 1 (iL (Z6 [1,1,3]) 3 1 fun v1=>ZO 0 [(8,Z4 [1,1,3])] (ic [3] (VV rd bs p [1,1,3] (ZI:=ob)) ?_)))))
 rintro _ _ ⟨z1,rfl,rfl,ZT⟩
 have hz:=BA (a:=1) (b:=3) ZT (by decide)
 refine Z0 (Zu 3 [3] (iL (Z6 [z1]) 1 1 fun v2=>ZO 0 [(13,Z4 [z1])] (ic [1,4] (QV rd bs (p+1) g gb rs [z1] 0 16 (ZI:=ob) (hv:=(by simp))) ?_)))
 rintro _ _ ⟨e1,p21,rfl,rfl,Yd⟩
 have Xh:=Yd.1
 have QZ:=Yd.2
 rw [hbv.2.2.2.1] at Xh
 refine iA [.i 0,.i 0,nl] fun b3=>ZH 0 b3 (YZ e1) (ie (YC 1 (ic [1] (W7 rd bs p21 3 (ZI:=ob)) ?_)))
 rintro _ _ ⟨k1,rfl,rfl,YE⟩
 have qhp3:=YE.lt om
 refine Z0 (XR (fun fz gz F h=>∃(eQ:Z2),(GE g 1 151 eQ)/\F=sF [0,4,5,6] fz []/\h=[Zc gz 0,.obj b3 (YZ eQ),Zc gz 2,Zc gz 5]) ?_ ?_)
 ·refine ac (k1==0) Zq (fun Za=>?_) (fun Za=>?_)
  ·exact az (ZK 1 [1] (UW [Y8 e1] (Yw [e1]) (XP [e1]).symm 1 3 fun v3=>ZO 0 [(19,XD [e1])] (Zw [] (XT 5 0 [e1]) (ZH 2 b3 (YZ (Z2.mk 5 0 [e1])) (ie (ZU ⟨(Z2.mk 5 0 [e1]),(GE.one om om Xh om),rfl,rfl⟩ (wk [2,0,1,3] fl)))))))
  exact ak (ZU ⟨e1,(GE.le Xh om),rfl,rfl⟩ (wk [0,0,0,2] fl))
 rintro F h ⟨eQ,J2,rfl,rfl⟩
 refine aD 7 (ZL 4 7 [0,1,3] [1] (Z9 2 (dc 2 [0] [0] [b3] (Z6z rd bs (p21+1) z1 (ZI:=ob)) ?_)))
 rintro _ _ ⟨e2,p22,rfl,rfl,YI⟩
 have hli:=YI.1
 exact Z9 4 (WJ 4 [] [] [Y8 e2,Y8 eQ] (Yw [e2,eQ]) (XP [e2,eQ]).symm 2 3 fun v4=>Yv 2 2 [] [(25,XD [e2,eQ])] (Z9 5 (Yt 5 [] [] [] (XT 13 0 [e2,eQ]) (Z9 6 (YM 6 4 [] [] b2 (YZ (Z2.mk 13 0 [e2,eQ])) (de (ZG (r3 [2,3] [Y8 (Z2.mk 13 0 [e2,eQ])] [0] [(b2,b2)] ⟨(Z2.mk 13 0 [e2,eQ]),p22,rfl,rfl,⟨GE.letS ((hli g).ge (X5 _)) J2 om,by omega⟩⟩ (lr _)))))))))
theorem Z7a (rd:Nat) (bs:LI) (p:Nat) (g:Wd) (gb:Nat) (rs:List Func) (f:Func) (i:Int) (w:Int) (ZI:∀z∈bs,0<=z/\z<=255) (hp:p+1000<=1000000000:=by exact ob) (hg:GP g:=by exact ob) (Wt:g.funcs <+: rs:=by exact ob) (hi:0<=i:=by exact ob) (hf:g.funcs[i.toNat]? = some f:=by exact ob) (hw:0<=w/\w<f.params.length:=by exact ob):Zl 228 [.p rd 0,.agg (Wy g gb),.i i,.i w] [Yy rd bs p,XQ gb rs] (fun r h=>∃(e:Z2) (p2:Nat),r=Y8 e/\h=[Yy rd bs p2,XQ gb rs]/\GE g f.params.length 200 e/\p<=p2/\p2<=p+1000):=by
 obtain ⟨hil,_⟩:=Xi.1 hf
 have hgl:=hg.len
 have hso:=(hg.sigs f (ZY hf)).bd
 have hbv:=DV
 refine ZF 136 Tryz.func228 (ar (iA (Wy g gb) fun b1=>iA [.i 0,.i 0,nl] fun b2=>ie (Zu 3 [1] (Zm (Ws gb g.funcs.length 4 i.toNat 5 i) (Z1 1 (V9 (Vu 3 gb 4 4 5 (i.toNat * 5+0) (Zp (Xt rs)) [Z4 f.params] 31 (Z4 f.params) (US Wt hf 0 rfl (Ve rfl))) (Z0 (Y4 1 (iw (Y6 f.params) (Z0 (Y4 1 (iL (Z6 [0,1]) 2 1 fun v1=>ZO 0 [(26,Z4 [0,1])] (ic [] (Kd f.params [0,1]) ?_)))))))))))))
 rintro _ _ ⟨v2,rfl,rfl⟩
 refine Z0 (ar (iL (Yw []) 0 3 fun v3=>?_))
 refine Z0 (Yc (ab 0 (Y5 (fun fz gz m F h=>∃(k:Nat) (ys:List Z2) (u:Value) (pq:Nat),(k<=f.params.length)/\(ys.length=k)/\(∀e∈ys,GE g (f.params.length+2) 3 e)/\(p<=pq/\pq<=p+k)/\F=sF [0,2,3,5,8,9,10] fz [(11,Z4 (f.params++[0,1])),(12,QA ys u),(13,.i k)]/\h=[Zc gz 3,Zc gz 4,Yy rd bs pq,Zc gz 6,.tail u 3]/\m=f.params.length-k) _ _ _ ⟨0,[],v3,p,ob,ob,(fun e he=>by cases he),ob,rfl,rfl,rfl⟩ (wk [3,3,3,3,0] (fc (x:=ZQ (f.params++[0,1]) v2) (Zd.forget _ _) (fr (Yf fl)))) ?_)))
 rintro m F h ⟨k,ys,u,pq,Yh,Zj,Zy,Yu,rfl,rfl,rfl⟩
 refine X2 (Y2 ((k:Int)<(f.params.length:Int)) (fun Za=>?_) (fun Za=>?_))
 ·refine ak (aq (ab 1 (ar (YD ((k:Int)==w) Zq (fun Zf=>?_) (fun Zf=>?_)))))
  ·exact az (Z1 2 (ia (((f.params.length+1:Nat):Int)) (((f.params.length:Int))+(1)) (Zw [] (Qi ((f.params.length+1:Nat):Int)) (UW [Y8 (Z2.mk 12 ((f.params.length+1:Nat):Int) [])] (Yw [(Z2.mk 12 ((f.params.length+1:Nat):Int) [])]) (XP [(Z2.mk 12 ((f.params.length+1:Nat):Int) [])]).symm 1 3 fun v4=>ZO 0 [(41,XD [(Z2.mk 12 ((f.params.length+1:Nat):Int) [])])] (ip 5 (Yw (ys++[(Z2.mk 12 ((f.params.length+1:Nat):Int) [])])) (Yw ys) (Yw [(Z2.mk 12 ((f.params.length+1:Nat):Int) [])]) u none 3 (Tn _) (Tn _) (JQ _) (by simp<;>omega) (by simp [JP,Yw]) fun v5=>Z0 (az (Z1 1 (ZJ k (Z0 (ZM ⟨k+1,(ys++[(Z2.mk 12 ((f.params.length+1:Nat):Int) [])]),v5,pq,ob,ob,(XF Zy (GE.var om om om)),ob,rfl,rfl,rfl⟩ (wk [2,2,2,2,0] (fw (ZP k fl)))))))))))))
  refine aq (XR (fun fz gz F h=>∃(wb:Bool) (p5:Nat),(pq<=p5/\p5<=pq+1)/\F=sF [0,2,3,5,8,9,10,11,12,13] fz [(52,.b wb)]/\h=[Zc gz 0,Zc gz 1,Yy rd bs p5,Zc gz 3,Zc gz 4]) ?_ ?_)
  ·refine az (Z1 2 ?_)
   obtain ⟨x1,Z3⟩:=Zt f.params k om
   refine Zm (Zh none (k:Int) 1 (Y0 Z3)) (Z1 3 (ib (b:=(x1==0)) 48 (fun Zb=>?_) (fun Zb=>?_)))
   ·refine Z1 1 (ic [2] (W7 rd bs pq 2 (ZI:=ob)) ?_)
    rintro _ _ ⟨k1,rfl,rfl,Yd⟩
    have qhp2:=Yd.lt om
    exact Z0 (ZU ⟨(k1==0),pq+1,om,rfl,rfl⟩ (wk [1,1,0,0,0] fl))
   exact Z0 (ZU ⟨false,pq,ob,rfl,rfl⟩ (ZE 5 fl))
  rintro F h ⟨wb,p5,kR10_0,rfl,rfl⟩
  refine ac wb Iff.rfl (fun ZB=>?_) (fun ZB=>?_)
  ·exact az (Z1 2 (Zw [] (Qi (k:Int)) (Z1 1 (Zw [] (Qi (f.params.length:Int)) (UW [Y8 (Z2.mk 12 (k:Int) []),Y8 (Z2.mk 12 (f.params.length:Int) [])] (Yw [(Z2.mk 12 (k:Int) []),(Z2.mk 12 (f.params.length:Int) [])]) (XP [(Z2.mk 12 (k:Int) []),(Z2.mk 12 (f.params.length:Int) [])]).symm 2 3 fun v6=>ZO 0 [(58,XD [(Z2.mk 12 (k:Int) []),(Z2.mk 12 (f.params.length:Int) [])])] (Zw [] (XT 1 0 [(Z2.mk 12 (k:Int) []),(Z2.mk 12 (f.params.length:Int) [])]) (UW [Y8 (Z2.mk 1 0 [(Z2.mk 12 (k:Int) []),(Z2.mk 12 (f.params.length:Int) [])])] (Yw [(Z2.mk 1 0 [(Z2.mk 12 (k:Int) []),(Z2.mk 12 (f.params.length:Int) [])])]) (XP [(Z2.mk 1 0 [(Z2.mk 12 (k:Int) []),(Z2.mk 12 (f.params.length:Int) [])])]).symm 1 3 fun v7=>ZO 0 [(60,XD [(Z2.mk 1 0 [(Z2.mk 12 (k:Int) []),(Z2.mk 12 (f.params.length:Int) [])])])] (ip 6 (Yw (ys++[(Z2.mk 1 0 [(Z2.mk 12 (k:Int) []),(Z2.mk 12 (f.params.length:Int) [])])])) (Yw ys) (Yw [(Z2.mk 1 0 [(Z2.mk 12 (k:Int) []),(Z2.mk 12 (f.params.length:Int) [])])]) u none 3 (Tn _) (Tn _) (JQ _) (by simp<;>omega) (by simp [JP,Yw]) fun v8=>Z0 (az (Z1 1 (ZJ k (Z0 (ZM ⟨k+1,(ys++[(Z2.mk 1 0 [(Z2.mk 12 (k:Int) []),(Z2.mk 12 (f.params.length:Int) [])])]),v8,p5,ob,ob,(XF Zy (GE.two (s1:=1) (s2:=1) om om (GE.var om om om) (GE.var om om om) om)),ob,rfl,rfl,rfl⟩ (wk [3,3,3,3,0] (fw (ZP k fl))))))))))))))))
  exact az (Z1 2 (Zw [] (Qi (k:Int)) (UW [Y8 (Z2.mk 12 (k:Int) [])] (Yw [(Z2.mk 12 (k:Int) [])]) (XP [(Z2.mk 12 (k:Int) [])]).symm 1 3 fun v9=>ZO 0 [(65,XD [(Z2.mk 12 (k:Int) [])])] (ip 5 (Yw (ys++[(Z2.mk 12 (k:Int) [])])) (Yw ys) (Yw [(Z2.mk 12 (k:Int) [])]) u none 3 (Tn _) (Tn _) (JQ _) (by simp<;>omega) (by simp [JP,Yw]) fun v10=>Z0 (az (Z1 1 (ZJ k (Z0 (ZM ⟨k+1,(ys++[(Z2.mk 12 (k:Int) [])]),v10,p5,ob,ob,(XF Zy (GE.var om om om)),ob,rfl,rfl,rfl⟩ (wk [2,2,2,2,0] (fw (ZP k fl))))))))))))
 refine ax 0 (ar (ZO 2 [(68,XD ys)] (Zw [] (XT 9 i ys) (iA [.i 0,.i 0,nl] fun b3=>ZH 0 b3 (YZ (Z2.mk 9 i ys)) (ie (Zu 1 [0] (iA [.i 0,.i 0,nl] fun b4=>?_)))))))
 refine ZH 0 b4 (YZ (Z2.mk 9 i ys)) (ie (aq (aq (XR (fun fz gz F h=>∃(wb:Bool) (p5:Nat),(pq<=p5/\p5<=pq+1)/\F=sF [0,2,3,5,8,9,10,11,14,15] fz [(82,.b wb)]/\h=[Zc gz 0,Zc gz 1,Zc gz 2,Zc gz 3,Yy rd bs p5,Zc gz 5]) ?_ ?_))))
 ·refine az (ZK 3 [3] (Zm (Ws gb g.funcs.length 4 i.toNat 5 i) (Z1 1 (V9 (Vu 5 gb 4 4 5 (i.toNat * 5+1) (Zp (Xt rs)) [.i f.result] 3 (.i f.result) (US Wt hf 1 rfl (Ve rfl))) (Z1 2 (ib (b:=(f.result==1)) 78 (fun Zx=>?_) (fun Zx=>?_)))))))
  ·refine Z1 1 (ic [4] (W7 rd bs pq 5 (ZI:=ob)) ?_)
   rintro _ _ ⟨k2,rfl,rfl,X9⟩
   have qhp5:=X9.lt om
   exact Z0 (ZU ⟨(decide (k2>0)),pq+1,ob,rfl,rfl⟩ (wk [1,1,1,1,0,0] fl))
  exact Z0 (ZU ⟨false,pq,ob,rfl,rfl⟩ (ZE 6 fl))
 rintro F h ⟨wb,p5,kR15_0,rfl,rfl⟩
 refine XR (fun fz gz F h=>∃(eQ:Z2) (p6:Nat),(GE g (f.params.length+2) 41 eQ)/\(p5<=p6/\p6<=p5+302)/\F=sF [0,2,3,5,8,9,15] fz []/\h=[.obj b4 (YZ eQ),Zc gz 2,Zc gz 3,Yy rd bs p6,Zc gz 5]) ?_ ?_
 ·refine ac wb Iff.rfl (fun ZV=>?_) (fun ZV=>?_)
  ·refine Zu 3 [3] (ic [4,4] (QV rd bs p5 g gb rs (f.params++[0,1]) 0 4 (ZI:=ob) (hv:=(by first|omega|(simp only [Yx,YS,Xv];omega)))) ?_)
   rintro _ _ ⟨e1,p21,rfl,rfl,XY⟩
   have Xh:=XY.1
   have QZ:=XY.2
   try rw [Yx] at Xh
   rw [hbv.2.1] at Xh
   refine iA [.i 0,.i 0,nl] fun b5=>?_
   refine ZH 0 b5 (YZ e1) (ie (aq (aq (XR (fun fz gz F h=>∃(wc:Bool),(True)/\F=sF [0,2,3,5,8,9,10,14,15,16] fz [(94,.b wc)]/\h=gz) ?_ ?_))))
   ·refine az (Z1 3 (ib (b:=(decide ((f.params.length:Int)>1))) 89 (fun Yl=>?_) (fun Yl=>?_)))
    ·refine Z1 1 ?_
     obtain ⟨x2,Zs⟩:=Zt f.params 0 om
     exact Zm (Zh none 0 1 (Y0 Zs)) (Z0 (ZU ⟨(x2==2),ob,rfl,rfl⟩ (ZE 7 fl)))
    exact Z0 (ZU ⟨false,ob,rfl,rfl⟩ (ZE 7 fl))
   rintro F h ⟨wc,kR17_0,rfl,rfl⟩
   refine XR (fun fz gz F h=>∃(eA:Z2),(GE g (f.params.length+2) 30 eA)/\F=sF [0,2,3,5,8,9,14,15,16] fz []/\h=[.obj b5 (YZ eA),Zc gz 1,Zc gz 2,Zc gz 3,Zc gz 4,Zc gz 5,Zc gz 6]) ?_ ?_
   ·refine ac wc Iff.rfl (fun Xd=>?_) (fun Xd=>?_)
    ·exact az (Zw [] (Qi 0) (Z1 1 (Zw [] (Qi (f.params.length:Int)) (UW [Y8 (Z2.mk 12 0 []),Y8 (Z2.mk 12 (f.params.length:Int) [])] (Yw [Z2.mk 12 0 [],(Z2.mk 12 (f.params.length:Int) [])]) (XP [Z2.mk 12 0 [],(Z2.mk 12 (f.params.length:Int) [])]).symm 2 3 fun v11=>ZO 0 [(98,XD [Z2.mk 12 0 [],(Z2.mk 12 (f.params.length:Int) [])])] (Zw [] (XT 11 0 [Z2.mk 12 0 [],(Z2.mk 12 (f.params.length:Int) [])]) (ZH 1 b5 (YZ (Z2.mk 11 0 [Z2.mk 12 0 [],(Z2.mk 12 (f.params.length:Int) [])])) (ie (ZU ⟨(Z2.mk 11 0 [Z2.mk 12 0 [],(Z2.mk 12 (f.params.length:Int) [])]),(GE.two (s1:=1) (s2:=1) om om (GE.var om om om) (GE.var om om om) om),rfl,rfl⟩ (wk [0,1,1,1,1,1,1] fl)))))))))
    exact ak (ZU ⟨e1,Xh,rfl,rfl⟩ (ZE 7 fl))
   rintro F h ⟨eA,Z9q,rfl,rfl⟩
   exact az (ZK 2 [0,4] (UW [Y8 eA,Y8 (Z2.mk 9 i ys)] (Yw [eA,Z2.mk 9 i ys]) (XP [eA,Z2.mk 9 i ys]).symm 2 3 fun v12=>ZO 0 [(102,XD [eA,Z2.mk 9 i ys])] (Zw [] (XT 6 1 [eA,Z2.mk 9 i ys]) (ZH 4 b4 (YZ (Z2.mk 6 1 [eA,Z2.mk 9 i ys])) (ie (ZU ⟨(Z2.mk 6 1 [eA,Z2.mk 9 i ys]),p21,(GE.two (s1:=30) (s2:=10) om om Z9q (GE.node (L:=f.params.length) (s:=3) (q:=10) om (fun _=>by omega) om Zy om om om) om),ob,rfl,rfl⟩ (wk [0,5,5,2,2] fl)))))))
  refine Zu 3 [3] (Zm (Ws gb g.funcs.length 4 i.toNat 5 i) (Z1 1 (V9 (Vu 5 gb 4 4 5 (i.toNat * 5+1) (Zp (Xt rs)) [.i f.result] 3 (.i f.result) (US Wt hf 1 rfl (Ve rfl))) (YD (f.result==0) Zq (fun Xe=>?_) (fun Xe=>?_)))))
  ·refine aE 11 (ZL 6 11 [0,3,4,5,7] [3,1] (Z9 1 (dL 1 [1,3] [b3,b1] (Z6 [1,2]) 2 1 fun v13=>Yv 5 5 [] [(112,Z4 [1,2])] (Z9 2 (dc 2 [5] [1,3] [b3,b1] (VV rd bs p5 [1,2] (ZI:=ob)) ?_)))))
   rintro _ _ ⟨z1,rfl,rfl,Uy⟩
   have hz:=BA (a:=1) (b:=2) Uy (by decide)
   refine Z9 6 (dc 6 [0,5] [1] [b3] (QV rd bs (p5+1) g gb rs (f.params++[0,1]) 0 4 (ZI:=ob) (hv:=(by first|omega|(simp only [Yx,YS,Xv];omega)))) ?_)
   rintro _ _ ⟨e2,p22,rfl,rfl,UU⟩
   have Xh:=UU.1
   have QZ:=UU.2
   try rw [Yx] at Xh
   rw [hbv.2.1] at Xh
   exact Z9 8 (WJ 8 [] [] [Y8 e2,Y8 (Z2.mk 9 i ys)] (Yw [e2,Z2.mk 9 i ys]) (XP [e2,Z2.mk 9 i ys]).symm 2 3 fun v14=>Yv 2 2 [] [(119,XD [e2,Z2.mk 9 i ys])] (Z9 9 (Yt 9 [] [] [] (XT z1 0 [e2,Z2.mk 9 i ys]) (Z9 10 (YM 10 4 [] [] b4 (YZ (Z2.mk z1 0 [e2,Z2.mk 9 i ys])) (de (ZU ⟨(Z2.mk z1 0 [e2,Z2.mk 9 i ys]),p22,(GE.two (s1:=30) (s2:=10) om om Xh (GE.node (L:=f.params.length) (s:=3) (q:=10) om (fun _=>by omega) om Zy om om om) om),ob,rfl,rfl⟩ (wk [0,5,5,1,1] fl))))))))
  exact ak (ZU ⟨(Z2.mk 9 i ys),p5,(GE.le (GE.node (L:=f.params.length) (s:=3) (q:=10) om (fun _=>by omega) om Zy om om om) om),ob,rfl,rfl⟩ (wk [0,1,1,1,1] fl))
 rintro F h ⟨eQ,p6,K1,Z9p,rfl,rfl⟩
 refine aD 16 (ZL 9 16 [0,2,3,4,5,6,7] [2,2] (dx 8 (Ws gb g.funcs.length 4 i.toNat 5 i) (Zk 7 8 [9] (Uo 10 (Vu 4 gb 4 4 5 (i.toNat * 5+1) (Zp (Xt rs)) [.i f.result] 3 (.i f.result) (US Wt hf 1 rfl (Ve rfl))) (ZL 5 6 [12] [0] (Z9 1 (Yt 1 [] [0,4,2,2] [b4,gb,b1,b1] (Qi w) (Z9 11 (dc 11 [3,3] [0] [b4] (QV rd bs p6 g gb rs f.params f.result 4 (ZI:=ob) (hv:=(by first|omega|(simp only [Yx,YS,Xv];omega)))) ?_)))))))))
 rintro _ _ ⟨e3,p23,rfl,rfl,UV⟩
 have Xh:=UV.1
 have QZ:=UV.2
 try rw [Yx] at Xh
 rw [hbv.2.1] at Xh
 exact Z9 13 (WJ 13 [] [] [Y8 (Z2.mk 12 w []),Y8 e3,Y8 eQ] (Yw [Z2.mk 12 w [],e3,eQ]) (XP [Z2.mk 12 w [],e3,eQ]).symm 3 3 fun v15=>Yv 2 2 [] [(134,XD [Z2.mk 12 w [],e3,eQ])] (Z9 14 (Yt 14 [] [] [] (XT 8 1 [Z2.mk 12 w [],e3,eQ]) (Z9 15 (YM 15 4 [] [] b2 (YZ (Z2.mk 8 1 [Z2.mk 12 w [],e3,eQ])) (de (ZG (r3 [2,2] [Y8 (Z2.mk 8 1 [Z2.mk 12 w [],e3,eQ])] [0] [(b2,b2)] ⟨(Z2.mk 8 1 [Z2.mk 12 w [],e3,eQ]),p23,rfl,rfl,⟨GE.matchL hg (s1:=1) (s2:=30) (s3:=41) (GE.var om om om) Xh K1 om,by omega⟩⟩ (lr _)))))))))
theorem Z7b (rd:Nat) (bs:LI) (p:Nat) (g:Wd) (gb:Nat) (rs:List Func) (f:Func) (i:Int) (ZI:∀z∈bs,0<=z/\z<=255) (hp:p+1000<=1000000000:=by exact ob) (hg:GP g:=by exact ob) (Wt:g.funcs <+: rs:=by exact ob) (hi:0<=i:=by exact ob) (hf:g.funcs[i.toNat]? = some f:=by exact ob) (h0:0<f.params.length:=by exact ob):Zl 229 [.p rd 0,.agg (Wy g gb),.i i] [Yy rd bs p,XQ gb rs] (fun r h=>∃(e:Z2) (p2:Nat),r=Y8 e/\h=[Yy rd bs p2,XQ gb rs]/\GE g f.params.length 200 e/\p<=p2/\p2<=p+1000):=by
 obtain ⟨hil,_⟩:=Xi.1 hf
 have hgl:=hg.len
 have hso:=(hg.sigs f (ZY hf)).bd
 have hbv:=DV
 refine ZF 96 Tryz.func229 (ar (iA (Wy g gb) fun b1=>iA [.i 0,.i 0,nl] fun b2=>ie (Zu 3 [1] (Zm (Ws gb g.funcs.length 4 i.toNat 5 i) (Z1 1 (V9 (Vu 3 gb 4 4 5 (i.toNat * 5+0) (Zp (Xt rs)) [Z4 f.params] 31 (Z4 f.params) (US Wt hf 0 rfl (Ve rfl))) (Z0 (Y4 1 (iw (Y6 f.params) (Z0 (Y4 1 (Zw [] (Qi (f.params.length:Int)) (UW [Y8 (Z2.mk 12 (f.params.length:Int) [])] (Yw [(Z2.mk 12 (f.params.length:Int) [])]) (XP [(Z2.mk 12 (f.params.length:Int) [])]).symm 1 3 fun v1=>Z0 (Y4 1 (ia (((f.params.length+2:Nat):Int)) (((f.params.length:Int))+(2)) (Zw [] (Qi ((f.params.length+2:Nat):Int)) (UW [Y8 (Z2.mk 12 ((f.params.length+2:Nat):Int) [])] (Yw [(Z2.mk 12 ((f.params.length+2:Nat):Int) [])]) (XP [(Z2.mk 12 ((f.params.length+2:Nat):Int) [])]).symm 1 3 fun v2=>?_)))))))))))))))))
 refine Z0 (Yc (ab 0 (Y5 (fun fz gz m F h=>∃(k:Nat) (ys:List Z2) (u:Value) (zs:List Z2) (w:Value),(1<=k/\k<=f.params.length)/\(ys.length=k)/\(zs.length=k)/\(∀e∈ys,GE g (f.params.length+3) 1 e)/\(∀e∈zs,GE g (f.params.length+3) 1 e)/\F=sF [0,2,4,6,7,8] fz [(9,QA ys u),(10,QA zs w),(11,.i k)]/\h=[Zc gz 2,Zc gz 3,Zc gz 4,Zc gz 5,.tail u 3,.tail w 3]/\m=f.params.length-k) _ _ _ ⟨1,[(Z2.mk 12 (f.params.length:Int) [])],v1,[(Z2.mk 12 ((f.params.length+2:Nat):Int) [])],v2,ob,ob,ob,(HM (GE.var om om om)),(HM (GE.var om om om)),rfl,rfl,rfl⟩ (wk [2,2,2,2,1,0] (fw (fc (x:=.i 1) li fl))) ?_)))
 rintro m F h ⟨k,ys,u,zs,w,Yh,Zj,Zy,Yu,XU,rfl,rfl,rfl⟩
 refine X2 (Y2 ((k:Int)<(f.params.length:Int)) (fun Za=>?_) (fun Za=>?_))
 ·exact ak (aq (ab 1 (Y4 2 (Zw [] (Qi (k:Int)) (UW [Y8 (Z2.mk 12 (k:Int) [])] (Yw [(Z2.mk 12 (k:Int) [])]) (XP [(Z2.mk 12 (k:Int) [])]).symm 1 3 fun v3=>ZO 0 [(38,XD [(Z2.mk 12 (k:Int) [])])] (ip 5 (Yw (ys++[(Z2.mk 12 (k:Int) [])])) (Yw ys) (Yw [(Z2.mk 12 (k:Int) [])]) u none 3 (Tn _) (Tn _) (JQ _) (by simp<;>omega) (by simp [JP,Yw]) fun v4=>Z0 (az (Z1 2 (Zw [] (Qi (k:Int)) (UW [Y8 (Z2.mk 12 (k:Int) [])] (Yw [(Z2.mk 12 (k:Int) [])]) (XP [(Z2.mk 12 (k:Int) [])]).symm 1 3 fun v5=>ZO 0 [(43,XD [(Z2.mk 12 (k:Int) [])])] (ip 7 (Yw (zs++[(Z2.mk 12 (k:Int) [])])) (Yw zs) (Yw [(Z2.mk 12 (k:Int) [])]) w none 3 (Tn _) (Tn _) (JQ _) (by simp<;>omega) (by simp [JP,Yw]) fun v6=>Z0 (az (Z1 1 (ZJ k (Z0 (ZM ⟨k+1,(ys++[(Z2.mk 12 (k:Int) [])]),v4,(zs++[(Z2.mk 12 (k:Int) [])]),v6,ob,ob,ob,(XF Yu (GE.var om om om)),(XF XU (GE.var om om om)),rfl,rfl,rfl⟩ (wk [4,4,4,4,2,0] (fw (ZP k fl)))))))))))))))))))
 refine ax 0 (ar (ZO 2 [(46,XD ys)] (Zw [] (XT 9 i ys) (iA [.i 0,.i 0,nl] fun b3=>ZH 0 b3 (YZ (Z2.mk 9 i ys)) (ie (ar (ZO 2 [(49,XD zs)] (Zw [] (XT 9 i zs) (iA [.i 0,.i 0,nl] fun b4=>?_)))))))))
 refine ZH 0 b4 (YZ (Z2.mk 9 i zs)) (ie (aD 14 (ZL 9 14 [0,1,2,3,7] [1,3,0] (KV (fun fz gz F h=>∃(e1:Z2) (p21:Nat) (b5:Nat),(GE g (f.params++[3,0,3]).length (bS 4) e1/\p<=p21/\p21<=p+bC 4)/\F=sF [0,2,4,6,7,8,12] fz [(14,.p b5 0)]/\h=[.obj b5 (YZ (Z2.mk 1 0 [Z2.mk 9 i ys,Z2.mk 1 0 [e1,Z2.mk 9 i zs]])),Yy rd bs p21,Zc gz 5,Zc gz 0,Zc gz 1,Zc gz 2,Zc gz 3,Zc gz 6,Zc gz 7]) ?_ ?_))))
 ·refine VI 4 12 ?_ ?_
  ·refine dL 4 [0,3,1] [b4,b1,b3] (Z6 [3,0,3]) 3 1 fun v7=>Yv 8 8 [] [(55,Z4 [3,0,3])] (VI 5 12 ?_ ?_)
   ·refine dc 5 [] [0,3,1] [b4,b1,b3] (Kd f.params [3,0,3]) ?_
    rintro _ _ ⟨v8,rfl,rfl⟩
    refine Yv 7 7 [] [(56,Z4 (f.params++[3,0,3]))] (VI 6 12 ?_ ?_)
    ·refine dc 6 [6,6] [0,1] [b4,b3] (QV rd bs p g gb rs (f.params++[3,0,3]) 0 4 (ZI:=ob) (hv:=(by first|omega|(simp only [Yx,YS,Xv];omega)))) ?_
     rintro _ _ ⟨e1,p21,rfl,rfl,ZT⟩
     have Xh:=ZT.1
     have QZ:=ZT.2
     try rw [Yx] at Xh
     rw [hbv.2.1] at Xh
     refine VI 8 12 ?_ ?_
     ·refine WJ 8 [3] [b3] [Y8 e1,Y8 (Z2.mk 9 i zs)] (Yw [e1,Z2.mk 9 i zs]) (XP [e1,Z2.mk 9 i zs]).symm 2 3 fun v9=>Yv 5 5 [] [(59,XD [e1,Z2.mk 9 i zs])] (VI 9 12 ?_ ?_)
      ·refine Yt 9 [] [3] [b3] (XT 1 0 [e1,Z2.mk 9 i zs]) (VI 10 12 ?_ ?_)
       ·refine WJ 10 [] [] [Y8 (Z2.mk 9 i ys),Y8 (Z2.mk 1 0 [e1,Z2.mk 9 i zs])] (Yw [Z2.mk 9 i ys,Z2.mk 1 0 [e1,Z2.mk 9 i zs]]) (XP [Z2.mk 9 i ys,Z2.mk 1 0 [e1,Z2.mk 9 i zs]]).symm 2 3 fun v10=>Yv 3 3 [] [(61,XD [Z2.mk 9 i ys,Z2.mk 1 0 [e1,Z2.mk 9 i zs]])] (VI 11 12 ?_ ?_)
        ·exact Yt 11 [] [] [] (XT 1 0 [Z2.mk 9 i ys,Z2.mk 1 0 [e1,Z2.mk 9 i zs]]) (Z9 12 (dA 12 [] [] [.i 0,.i 0,nl] fun b5=>Z9 13 (YM 13 0 [] [] b5 (YZ (Z2.mk 1 0 [Z2.mk 9 i ys,Z2.mk 1 0 [e1,Z2.mk 9 i zs]])) (de (ZU ⟨e1,p21,b5,(by assumption),rfl,rfl⟩ (wk [0,2,2,4,4,4,4,4,4] fl))))))
        exact dA 12 [] [] [.i 0,.i 0,nl] fun b6=>Z9 11 (Yt 11 [] [] [] (XT 1 0 [Z2.mk 9 i ys,Z2.mk 1 0 [e1,Z2.mk 9 i zs]]) (Z9 13 (YM 13 0 [] [] b6 (YZ (Z2.mk 1 0 [Z2.mk 9 i ys,Z2.mk 1 0 [e1,Z2.mk 9 i zs]])) (de (ZU ⟨e1,p21,b6,(by assumption),rfl,rfl⟩ (wk [0,2,2,4,4,4,4,4,4] fl))))))
       exact dA 12 [3] [b3] [.i 0,.i 0,nl] fun b7=>Z9 10 (WJ 10 [] [] [Y8 (Z2.mk 9 i ys),Y8 (Z2.mk 1 0 [e1,Z2.mk 9 i zs])] (Yw [Z2.mk 9 i ys,Z2.mk 1 0 [e1,Z2.mk 9 i zs]]) (XP [Z2.mk 9 i ys,Z2.mk 1 0 [e1,Z2.mk 9 i zs]]).symm 2 3 fun v11=>Yv 2 2 [] [(61,XD [Z2.mk 9 i ys,Z2.mk 1 0 [e1,Z2.mk 9 i zs]])] (Z9 11 (Yt 11 [] [] [] (XT 1 0 [Z2.mk 9 i ys,Z2.mk 1 0 [e1,Z2.mk 9 i zs]]) (Z9 13 (YM 13 1 [] [] b7 (YZ (Z2.mk 1 0 [Z2.mk 9 i ys,Z2.mk 1 0 [e1,Z2.mk 9 i zs]])) (de (ZU ⟨e1,p21,b7,(by assumption),rfl,rfl⟩ (wk [0,2,2,4,4,4,4,4,4] fl))))))))
      exact dA 12 [3] [b3] [.i 0,.i 0,nl] fun b8=>Z9 9 (Yt 9 [] [4] [b3] (XT 1 0 [e1,Z2.mk 9 i zs]) (Z9 10 (WJ 10 [] [] [Y8 (Z2.mk 9 i ys),Y8 (Z2.mk 1 0 [e1,Z2.mk 9 i zs])] (Yw [Z2.mk 9 i ys,Z2.mk 1 0 [e1,Z2.mk 9 i zs]]) (XP [Z2.mk 9 i ys,Z2.mk 1 0 [e1,Z2.mk 9 i zs]]).symm 2 3 fun v12=>Yv 2 2 [] [(61,XD [Z2.mk 9 i ys,Z2.mk 1 0 [e1,Z2.mk 9 i zs]])] (Z9 11 (Yt 11 [] [] [] (XT 1 0 [Z2.mk 9 i ys,Z2.mk 1 0 [e1,Z2.mk 9 i zs]]) (Z9 13 (YM 13 1 [] [] b8 (YZ (Z2.mk 1 0 [Z2.mk 9 i ys,Z2.mk 1 0 [e1,Z2.mk 9 i zs]])) (de (ZU ⟨e1,p21,b8,(by assumption),rfl,rfl⟩ (wk [0,2,2,4,4,4,4,4,4] fl))))))))))
     exact dA 12 [2,3] [b4,b3] [.i 0,.i 0,nl] fun b9=>Z9 8 (WJ 8 [4] [b3] [Y8 e1,Y8 (Z2.mk 9 i zs)] (Yw [e1,Z2.mk 9 i zs]) (XP [e1,Z2.mk 9 i zs]).symm 2 3 fun v13=>Yv 4 4 [] [(59,XD [e1,Z2.mk 9 i zs])] (Z9 9 (Yt 9 [] [4] [b3] (XT 1 0 [e1,Z2.mk 9 i zs]) (Z9 10 (WJ 10 [] [] [Y8 (Z2.mk 9 i ys),Y8 (Z2.mk 1 0 [e1,Z2.mk 9 i zs])] (Yw [Z2.mk 9 i ys,Z2.mk 1 0 [e1,Z2.mk 9 i zs]]) (XP [Z2.mk 9 i ys,Z2.mk 1 0 [e1,Z2.mk 9 i zs]]).symm 2 3 fun v14=>Yv 2 2 [] [(61,XD [Z2.mk 9 i ys,Z2.mk 1 0 [e1,Z2.mk 9 i zs]])] (Z9 11 (Yt 11 [] [] [] (XT 1 0 [Z2.mk 9 i ys,Z2.mk 1 0 [e1,Z2.mk 9 i zs]]) (Z9 13 (YM 13 2 [] [] b9 (YZ (Z2.mk 1 0 [Z2.mk 9 i ys,Z2.mk 1 0 [e1,Z2.mk 9 i zs]])) (de (ZU ⟨e1,p21,b9,(by assumption),rfl,rfl⟩ (wk [0,2,2,4,4,4,4,4,4] fl))))))))))))
    refine dA 12 [0,3,1] [b4,b1,b3] [.i 0,.i 0,nl] fun b10=>Z9 6 (dc 6 [7,7] [1,2] [b4,b3] (QV rd bs p g gb rs (f.params++[3,0,3]) 0 4 (ZI:=ob) (hv:=(by first|omega|(simp only [Yx,YS,Xv];omega)))) ?_)
    rintro _ _ ⟨e2,p22,rfl,rfl,Yd⟩
    have Xh:=Yd.1
    have QZ:=Yd.2
    try rw [Yx] at Xh
    rw [hbv.2.1] at Xh
    exact Z9 8 (WJ 8 [4] [b3] [Y8 e2,Y8 (Z2.mk 9 i zs)] (Yw [e2,Z2.mk 9 i zs]) (XP [e2,Z2.mk 9 i zs]).symm 2 3 fun v15=>Yv 4 4 [] [(59,XD [e2,Z2.mk 9 i zs])] (Z9 9 (Yt 9 [] [4] [b3] (XT 1 0 [e2,Z2.mk 9 i zs]) (Z9 10 (WJ 10 [] [] [Y8 (Z2.mk 9 i ys),Y8 (Z2.mk 1 0 [e2,Z2.mk 9 i zs])] (Yw [Z2.mk 9 i ys,Z2.mk 1 0 [e2,Z2.mk 9 i zs]]) (XP [Z2.mk 9 i ys,Z2.mk 1 0 [e2,Z2.mk 9 i zs]]).symm 2 3 fun v16=>Yv 2 2 [] [(61,XD [Z2.mk 9 i ys,Z2.mk 1 0 [e2,Z2.mk 9 i zs]])] (Z9 11 (Yt 11 [] [] [] (XT 1 0 [Z2.mk 9 i ys,Z2.mk 1 0 [e2,Z2.mk 9 i zs]]) (Z9 13 (YM 13 4 [] [] b10 (YZ (Z2.mk 1 0 [Z2.mk 9 i ys,Z2.mk 1 0 [e2,Z2.mk 9 i zs]])) (de (ZU ⟨e2,p22,b10,(by assumption),rfl,rfl⟩ (wk [0,2,2,4,4,4,4,4,4] fl))))))))))))
   refine dA 12 [0,3,1] [b4,b1,b3] [.i 0,.i 0,nl] fun b11=>Z9 5 (dc 5 [] [1,4,2] [b4,b1,b3] (Kd f.params [3,0,3]) ?_)
   rintro _ _ ⟨v17,rfl,rfl⟩
   refine Yv 6 6 [] [(56,Z4 (f.params++[3,0,3]))] (Z9 6 (dc 6 [7,7] [1,2] [b4,b3] (QV rd bs p g gb rs (f.params++[3,0,3]) 0 4 (ZI:=ob) (hv:=(by first|omega|(simp only [Yx,YS,Xv];omega)))) ?_))
   rintro _ _ ⟨e3,p23,rfl,rfl,YE⟩
   have Xh:=YE.1
   have QZ:=YE.2
   try rw [Yx] at Xh
   rw [hbv.2.1] at Xh
   exact Z9 8 (WJ 8 [4] [b3] [Y8 e3,Y8 (Z2.mk 9 i zs)] (Yw [e3,Z2.mk 9 i zs]) (XP [e3,Z2.mk 9 i zs]).symm 2 3 fun v18=>Yv 4 4 [] [(59,XD [e3,Z2.mk 9 i zs])] (Z9 9 (Yt 9 [] [4] [b3] (XT 1 0 [e3,Z2.mk 9 i zs]) (Z9 10 (WJ 10 [] [] [Y8 (Z2.mk 9 i ys),Y8 (Z2.mk 1 0 [e3,Z2.mk 9 i zs])] (Yw [Z2.mk 9 i ys,Z2.mk 1 0 [e3,Z2.mk 9 i zs]]) (XP [Z2.mk 9 i ys,Z2.mk 1 0 [e3,Z2.mk 9 i zs]]).symm 2 3 fun v19=>Yv 2 2 [] [(61,XD [Z2.mk 9 i ys,Z2.mk 1 0 [e3,Z2.mk 9 i zs]])] (Z9 11 (Yt 11 [] [] [] (XT 1 0 [Z2.mk 9 i ys,Z2.mk 1 0 [e3,Z2.mk 9 i zs]]) (Z9 13 (YM 13 5 [] [] b11 (YZ (Z2.mk 1 0 [Z2.mk 9 i ys,Z2.mk 1 0 [e3,Z2.mk 9 i zs]])) (de (ZU ⟨e3,p23,b11,(by assumption),rfl,rfl⟩ (wk [0,2,2,4,4,4,4,4,4] fl))))))))))))
  refine dA 12 [0,3,1] [b4,b1,b3] [.i 0,.i 0,nl] fun b12=>Z9 4 (dL 4 [1,4,2] [b4,b1,b3] (Z6 [3,0,3]) 3 1 fun v20=>Yv 7 7 [] [(55,Z4 [3,0,3])] (Z9 5 (dc 5 [] [1,4,2] [b4,b1,b3] (Kd f.params [3,0,3]) ?_)))
  rintro _ _ ⟨v21,rfl,rfl⟩
  refine Yv 6 6 [] [(56,Z4 (f.params++[3,0,3]))] (Z9 6 (dc 6 [7,7] [1,2] [b4,b3] (QV rd bs p g gb rs (f.params++[3,0,3]) 0 4 (ZI:=ob) (hv:=(by first|omega|(simp only [Yx,YS,Xv];omega)))) ?_))
  rintro _ _ ⟨e4,p24,rfl,rfl,YI⟩
  have Xh:=YI.1
  have QZ:=YI.2
  try rw [Yx] at Xh
  rw [hbv.2.1] at Xh
  exact Z9 8 (WJ 8 [4] [b3] [Y8 e4,Y8 (Z2.mk 9 i zs)] (Yw [e4,Z2.mk 9 i zs]) (XP [e4,Z2.mk 9 i zs]).symm 2 3 fun v22=>Yv 4 4 [] [(59,XD [e4,Z2.mk 9 i zs])] (Z9 9 (Yt 9 [] [4] [b3] (XT 1 0 [e4,Z2.mk 9 i zs]) (Z9 10 (WJ 10 [] [] [Y8 (Z2.mk 9 i ys),Y8 (Z2.mk 1 0 [e4,Z2.mk 9 i zs])] (Yw [Z2.mk 9 i ys,Z2.mk 1 0 [e4,Z2.mk 9 i zs]]) (XP [Z2.mk 9 i ys,Z2.mk 1 0 [e4,Z2.mk 9 i zs]]).symm 2 3 fun v23=>Yv 2 2 [] [(61,XD [Z2.mk 9 i ys,Z2.mk 1 0 [e4,Z2.mk 9 i zs]])] (Z9 11 (Yt 11 [] [] [] (XT 1 0 [Z2.mk 9 i ys,Z2.mk 1 0 [e4,Z2.mk 9 i zs]]) (Z9 13 (YM 13 6 [] [] b12 (YZ (Z2.mk 1 0 [Z2.mk 9 i ys,Z2.mk 1 0 [e4,Z2.mk 9 i zs]])) (de (ZU ⟨e4,p24,b12,(by assumption),rfl,rfl⟩ (wk [0,2,2,4,4,4,4,4,4] fl))))))))))))
 rintro F h ⟨e1,p21,b5,ZT,rfl,rfl⟩
 have Xh:=ZT.1
 have QZ:=ZT.2
 try rw [Yx] at Xh
 rw [hbv.2.1] at Xh
 refine Yk 3 [6] (Zm (Ws gb g.funcs.length 4 i.toNat 5 i) (Z1 1 (V9 (Vu 2 gb 4 4 5 (i.toNat * 5+1) (Zp (Xt rs)) [.i f.result] 3 (.i f.result) (US Wt hf 1 rfl (Ve rfl))) (Z0 (XR (fun fz gz F h=>∃(eQ:Z2) (p6:Nat),(GE g (f.params.length+3) 52 eQ)/\(p<=p6/\p6<=p+650)/\F=sF [0,2,4,6,7,14] fz []/\h=[.obj b5 (YZ eQ),Yy rd bs p6,Zc gz 2,Zc gz 5,Zc gz 6]) ?_ ?_)))))
 ·refine ac (f.result==3) Zq (fun Zf=>?_) (fun Zf=>?_)
  ·refine aE 13 (ZL 8 13 [0,1,2,3,7] [4,6] (da 8 (((f.params.length+2:Nat):Int)) (((f.params.length:Int))+(2)) (Z9 4 (dL 4 [6,4] [b1,b3] (Z6 [3,0,3]) 3 1 fun v24=>Yv 6 6 [] [(74,Z4 [3,0,3])] (Z9 5 (dc 5 [] [6,4] [b1,b3] (Kd f.params [3,0,3]) ?_))))))
   rintro _ _ ⟨v25,rfl,rfl⟩
   refine Yv 5 5 [] [(75,Z4 (f.params++[3,0,3]))] (Z9 6 (dc 6 [3,3] [2] [b3] (QV rd bs p21 g gb rs (f.params++[3,0,3]) 0 4 (ZI:=ob) (hv:=(by first|omega|(simp only [Yx,YS,Xv];omega)))) ?_))
   rintro _ _ ⟨e5,p25,rfl,rfl,X9⟩
   have Xh:=X9.1
   have QZ:=X9.2
   try rw [Yx] at Xh
   rw [hbv.2.1] at Xh
   exact Z9 9 (Yt 9 [] [4] [b3] (Qi ((f.params.length+2:Nat):Int)) (Z9 10 (WJ 10 [] [] [Y8 (Z2.mk 9 i ys),Y8 e5,Y8 (Z2.mk 12 ((f.params.length+2:Nat):Int) [])] (Yw [Z2.mk 9 i ys,e5,(Z2.mk 12 ((f.params.length+2:Nat):Int) [])]) (XP [Z2.mk 9 i ys,e5,(Z2.mk 12 ((f.params.length+2:Nat):Int) [])]).symm 3 3 fun v26=>Yv 2 2 [] [(80,XD [Z2.mk 9 i ys,e5,(Z2.mk 12 ((f.params.length+2:Nat):Int) [])])] (Z9 11 (Yt 11 [] [] [] (XT 6 3 [Z2.mk 9 i ys,e5,(Z2.mk 12 ((f.params.length+2:Nat):Int) [])]) (Z9 12 (YM 12 5 [] [] b5 (YZ (Z2.mk 6 3 [Z2.mk 9 i ys,e5,(Z2.mk 12 ((f.params.length+2:Nat):Int) [])])) (de (ZU ⟨(Z2.mk 6 3 [Z2.mk 9 i ys,e5,(Z2.mk 12 ((f.params.length+2:Nat):Int) [])]),p25,(GE.three (s1:=10) (s2:=30) (s3:=1) om om (GE.node (L:=f.params.length) (s:=1) (q:=10) om (fun _=>by omega) om Yu om om om) Xh (GE.var om om om) om),ob,rfl,rfl⟩ (wk [0,1,1,5,5] fl))))))))))
  exact ak (ZU ⟨(Z2.mk 1 0 [Z2.mk 9 i ys,Z2.mk 1 0 [e1,Z2.mk 9 i zs]]),p21,(GE.two (s1:=10) (s2:=41) om om (GE.node (L:=f.params.length) (s:=1) (q:=10) om (fun _=>by omega) om Yu om om om) (GE.two (s1:=30) (s2:=10) om om Xh (GE.node (L:=f.params.length) (s:=1) (q:=10) om (fun _=>by omega) om XU om om om) om) om),ob,rfl,rfl⟩ (wk [0,0,0,2,2] fl))
 rintro F h ⟨eQ,p6,Ud,AE,rfl,rfl⟩
 refine aD 15 (ZL 9 15 [1,2,3,4,5,6] [4,4] (dx 7 (Ws gb g.funcs.length 4 i.toNat 5 i) (Zk 7 8 [8] (Uo 9 (Vu 2 gb 4 4 5 (i.toNat * 5+1) (Zp (Xt rs)) [.i f.result] 3 (.i f.result) (US Wt hf 1 rfl (Ve rfl))) (ZL 5 6 [11] [0] (Z9 0 (Yt 0 [] [0,2,4,4] [b5,gb,b1,b1] (Qi 0) (Z9 10 (dc 10 [1,1] [0] [b5] (QV rd bs p6 g gb rs f.params f.result 4 (ZI:=ob) (hv:=(by first|omega|(simp only [Yx,YS,Xv];omega)))) ?_)))))))))
 rintro _ _ ⟨e6,p26,rfl,rfl,XG⟩
 have Xh:=XG.1
 have QZ:=XG.2
 try rw [Yx] at Xh
 rw [hbv.2.1] at Xh
 exact Z9 12 (WJ 12 [] [] [Y8 (Z2.mk 12 0 []),Y8 e6,Y8 eQ] (Yw [Z2.mk 12 0 [],e6,eQ]) (XP [Z2.mk 12 0 [],e6,eQ]).symm 3 3 fun v27=>Yv 2 2 [] [(94,XD [Z2.mk 12 0 [],e6,eQ])] (Z9 13 (Yt 13 [] [] [] (XT 8 3 [Z2.mk 12 0 [],e6,eQ]) (Z9 14 (YM 14 4 [] [] b2 (YZ (Z2.mk 8 3 [Z2.mk 12 0 [],e6,eQ])) (de (ZG (r3 [2,2] [Y8 (Z2.mk 8 3 [Z2.mk 12 0 [],e6,eQ])] [0] [(b2,b2)] ⟨(Z2.mk 8 3 [Z2.mk 12 0 [],e6,eQ]),p26,rfl,rfl,⟨GE.matchT hg (s1:=1) (s2:=30) (s3:=52) (GE.var om om om) Xh Ud om,by omega⟩⟩ (lr _)))))))))
theorem Z6i (rd:Nat) (bs:LI) (p:Nat) (g:Wd) (gb:Nat) (rs:List Func) (f:Func) (i:Int) (ZI:∀z∈bs,0<=z/\z<=255) (hp:p+1000<=1000000000:=by exact ob) (hg:GP g:=by exact ob) (Wt:g.funcs <+: rs:=by exact ob) (hi:0<=i:=by exact ob) (hf:g.funcs[i.toNat]? = some f:=by exact ob) (h0:0<f.params.length:=by exact ob):Zl 230 [.p rd 0,.agg (Wy g gb),.i i] [Yy rd bs p,XQ gb rs] (fun r h=>∃(e:Z2) (p2:Nat),r=Y8 e/\h=[Yy rd bs p2,XQ gb rs]/\GE g f.params.length 200 e/\p<=p2/\p2<=p+1000):=by
 obtain ⟨hil,_⟩:=Xi.1 hf
 have hgl:=hg.len
 have hso:=(hg.sigs f (ZY hf)).bd
 have hbv:=DV
 refine ZF 75 Tryz.func230 (ar (iA (Wy g gb) fun b1=>iA [.i 0,.i 0,nl] fun b2=>ie (Zu 3 [1] (Zm (Ws gb g.funcs.length 4 i.toNat 5 i) (Z1 1 (V9 (Vu 3 gb 4 4 5 (i.toNat * 5+0) (Zp (Xt rs)) [Z4 f.params] 31 (Z4 f.params) (US Wt hf 0 rfl (Ve rfl))) (Z0 (ar (Zw [] (Qi 0) (Zw [] (Aw 1) (UW [Y8 (Z2.mk 12 0 []),Y8 (Z2.mk 0 1 [])] (Yw [Z2.mk 12 0 [],Z2.mk 0 1 []]) (XP [Z2.mk 12 0 [],Z2.mk 0 1 []]).symm 2 3 fun v1=>ZO 0 [(20,XD [Z2.mk 12 0 [],Z2.mk 0 1 []])] (Zw [] (XT 2 0 [Z2.mk 12 0 [],Z2.mk 0 1 []]) (UW [Y8 (Z2.mk 2 0 [Z2.mk 12 0 [],Z2.mk 0 1 []])] (Yw [Z2.mk 2 0 [Z2.mk 12 0 [],Z2.mk 0 1 []]]) (XP [Z2.mk 2 0 [Z2.mk 12 0 [],Z2.mk 0 1 []]]).symm 1 3 fun v2=>?_)))))))))))))
 refine Z0 (Yc (ab 0 (Y5 (fun fz gz m F h=>∃(k:Nat) (ys:List Z2) (u:Value) (pq:Nat),(1<=k/\k<=f.params.length)/\(ys.length=k)/\(∀e∈ys,GE g f.params.length 4 e)/\(p<=pq/\pq<=p+30*k)/\F=sF [0,2,4,6,7] fz [(8,QA ys u),(9,.i k)]/\h=[Zc gz 2,Zc gz 3,Yy rd bs pq,Zc gz 5,.tail u 3]/\m=f.params.length-k) _ _ _ ⟨1,[Z2.mk 2 0 [Z2.mk 12 0 [],Z2.mk 0 1 []]],v2,p,ob,ob,(HM (GE.two (s1:=1) (s2:=1) om om (GE.var om om om) (GE.int om om) om)),ob,rfl,rfl,rfl⟩ (wk [2,2,2,2,0] (fr (fc (x:=.i 1) li fl))) ?_)))
 rintro m F h ⟨k,ys,u,pq,Yh,Zj,Zy,Yu,rfl,rfl,rfl⟩
 refine YC 2 (iw (Y6 f.params) (Y2 ((k:Int)<(f.params.length:Int)) (fun Za=>?_) (fun Za=>?_)))
 ·refine ak (aq (ab 1 (aE 12 (ZL 6 12 [0,1,2,3,4,5] [1] ?_))))
  obtain ⟨x1,Z3⟩:=Zt f.params k om
  refine dx 6 (Zh none (k:Int) 1 (Y0 Z3)) (Zk 4 5 [7] (Z9 8 (dc 8 [2,2] [] [] (D8 rd bs pq g gb rs f.params x1 (ZI:=ob)) ?_)))
  rintro _ _ ⟨e1,p21,rfl,rfl,ZT⟩
  have hle:=ZT.1
  exact Z9 9 (WJ 9 [] [] [Y8 e1] (Yw [e1]) (XP [e1]).symm 1 3 fun v3=>Yv 2 2 [] [(38,XD [e1])] (Z9 10 (dp 10 5 [] [] (Yw (ys++[e1])) (Yw ys) (Yw [e1]) u none 3 (Tn _) (Tn _) (JQ _) (by simp<;>omega) (by simp [JP,Yw]) fun v4=>Zk 0 1 [11] (de (az (Z1 1 (ZJ k (Z0 (ZM ⟨k+1,(ys++[e1]),v4,p21,ob,ob,(XF Zy hle),ob,rfl,rfl,rfl⟩ (wk [4,4,2,2,0] (fr (ZP k fl))))))))))))
 refine ax 0 (ar (ZO 2 [(41,XD ys)] (Zw [] (XT 9 i ys) (iA [.i 0,.i 0,nl] fun b3=>?_))))
 refine ZH 0 b3 (YZ (Z2.mk 9 i ys)) (ie (Yk 3 [2] (Zm (Ws gb g.funcs.length 4 i.toNat 5 i) (Z1 1 (V9 (Vu 4 gb 4 4 5 (i.toNat * 5+1) (Zp (Xt rs)) [.i f.result] 3 (.i f.result) (US Wt hf 1 rfl (Ve rfl))) (Z0 (XR (fun fz gz F h=>∃(eQ:Z2) (p6:Nat),(GE g f.params.length 34 eQ)/\(p<=p6/\p6<=p+350)/\F=sF [0,2,4,6,7,10] fz []/\h=[.obj b3 (YZ eQ),Zc gz 1,Zc gz 2,Yy rd bs p6,Zc gz 4]) ?_ ?_)))))))
 ·refine ac (f.result==1) Zq (fun Zf=>?_) (fun Zf=>?_)
  ·refine aE 8 (ZL 4 8 [0,1,2,4] [2,0] (Z9 3 (dc 3 [3,3] [0] [b3] (QV rd bs pq g gb rs f.params 0 3 (ZI:=ob)) ?_)))
   rintro _ _ ⟨e2,p22,rfl,rfl,Yd⟩
   have Xh:=Yd.1
   have QZ:=Yd.2
   try rw [Yx] at Xh
   first|rw [hbv.2.1] at Xh|rw [hbv.1] at Xh
   exact Z9 5 (WJ 5 [] [] [Y8 e2,Y8 (Z2.mk 9 i ys)] (Yw [e2,Z2.mk 9 i ys]) (XP [e2,Z2.mk 9 i ys]).symm 2 3 fun v5=>Yv 2 2 [] [(55,XD [e2,Z2.mk 9 i ys])] (Z9 6 (Yt 6 [] [] [] (XT 6 1 [e2,Z2.mk 9 i ys]) (Z9 7 (YM 7 3 [] [] b3 (YZ (Z2.mk 6 1 [e2,Z2.mk 9 i ys])) (de (ZU ⟨(Z2.mk 6 1 [e2,Z2.mk 9 i ys]),p22,(GE.two (s1:=20) (s2:=13) om om Xh (GE.node (L:=f.params.length) (s:=4) (q:=13) om (fun _=>by omega) om Zy om om om) om),ob,rfl,rfl⟩ (wk [0,3,3,1,1] fl))))))))
  exact ak (ZU ⟨(Z2.mk 9 i ys),pq,(GE.le (GE.node (L:=f.params.length) (s:=4) (q:=13) om (fun _=>by omega) om Zy om om om) om),ob,rfl,rfl⟩ (ZE 5 fl))
 rintro F h ⟨eQ,p6,Ud,AE,rfl,rfl⟩
 refine ar (Zw [] (Aw 0) (Zw [] (Qi 0) (UW [Y8 (Z2.mk 0 0 []),Y8 (Z2.mk 12 0 [])] (Yw [Z2.mk 0 0 [],Z2.mk 12 0 []]) (XP [Z2.mk 0 0 [],Z2.mk 12 0 []]).symm 2 3 fun v6=>ZO 0 [(59,XD [Z2.mk 0 0 [],Z2.mk 12 0 []])] (Zw [] (XT 4 0 [Z2.mk 0 0 [],Z2.mk 12 0 []]) (iA [.i 0,.i 0,nl] fun b4=>ZH 0 b4 (YZ (Z2.mk 4 0 [Z2.mk 0 0 [],Z2.mk 12 0 []])) (ie (aD 15 (ZL 7 15 [0,1,2,3,4,5,6,7] [0,2,4,4] (dx 8 (Ws gb g.funcs.length 4 i.toNat 5 i) (Zk 5 6 [9] (Uo 10 (Vu 6 gb 4 4 5 (i.toNat * 5+1) (Zp (Xt rs)) [.i f.result] 3 (.i f.result) (US Wt hf 1 rfl (Ve rfl))) (Z9 11 (dc 11 [5,5] [1,0] [b3,b4] (QV rd bs p6 g gb rs f.params f.result 4 (ZI:=ob)) ?_)))))))))))))
 rintro _ _ ⟨e3,p23,rfl,rfl,YE⟩
 have Xh:=YE.1
 have QZ:=YE.2
 try rw [Yx] at Xh
 first|rw [hbv.2.1] at Xh|rw [hbv.1] at Xh
 exact Z9 12 (WJ 12 [] [] [Y8 (Z2.mk 4 0 [Z2.mk 0 0 [],Z2.mk 12 0 []]),Y8 eQ,Y8 e3] (Yw [Z2.mk 4 0 [Z2.mk 0 0 [],Z2.mk 12 0 []],eQ,e3]) (XP [Z2.mk 4 0 [Z2.mk 0 0 [],Z2.mk 12 0 []],eQ,e3]).symm 3 3 fun v7=>Yv 2 2 [] [(73,XD [Z2.mk 4 0 [Z2.mk 0 0 [],Z2.mk 12 0 []],eQ,e3])] (Z9 13 (Yt 13 [] [] [] (XT 7 0 [Z2.mk 4 0 [Z2.mk 0 0 [],Z2.mk 12 0 []],eQ,e3]) (Z9 14 (YM 14 6 [] [] b2 (YZ (Z2.mk 7 0 [Z2.mk 4 0 [Z2.mk 0 0 [],Z2.mk 12 0 []],eQ,e3])) (de (ZG (r3 [2,2] [Y8 (Z2.mk 7 0 [Z2.mk 4 0 [Z2.mk 0 0 [],Z2.mk 12 0 []],eQ,e3])] [0] [(b2,b2)] ⟨(Z2.mk 7 0 [Z2.mk 4 0 [Z2.mk 0 0 [],Z2.mk 12 0 []],eQ,e3]),p23,rfl,rfl,⟨GE.three (s1:=3) (s2:=34) (s3:=30) om om (GE.two (s1:=1) (s2:=1) om om (GE.int om om) (GE.var om om om) om) Ud Xh om,by omega⟩⟩ (lr _)))))))))
theorem Z7f (xs:LI) (t:Int) (hl:xs.length<=1000:=by exact ob):Zl 225 [Z4 xs,.i t] [] (fun r h=>∃(w:Int),r=.i w/\h=[]/\-1<=w/\w<xs.length):=by
 refine ZF 19 Tryz.func225 (ZD (Yc (ab 0 (Y5 (fun fz gz m F h=>∃(k:Nat),(k<=xs.length)/\F=sF [0,1] fz [(5,.i k)]/\h=gz/\m=xs.length-k) _ _ _ ⟨0,ob,rfl,rfl,rfl⟩ (wk [] (Yf fl)) ?_))))
 rintro m F h ⟨k,Yh,rfl,rfl,rfl⟩
 refine YC 2 (iw (Y6 xs) (Y2 ((k:Int)<(xs.length:Int)) (fun Za=>?_) (fun Za=>?_)))
 ·refine ak (aq (ab 1 (Y4 2 ?_)))
  obtain ⟨x1,Z3⟩:=Zt xs k om
  refine Zm (Zh none (k:Int) 1 (Y0 Z3)) (YD (x1==t) Zq (fun Zf=>?_) (fun Zf=>?_))
  ·exact ar (Zo (r1 [] ⟨(k:Int),rfl,rfl,ob⟩))
  exact ak (az (Z1 1 (ZJ k (Z0 (ZM ⟨k+1,ob,rfl,rfl,rfl⟩ (wk [] (ZP k fl)))))))
 exact ax 0 (ar (Zo (r1 [] ⟨(-1),rfl,rfl,ob⟩)))
theorem Z60 (rd:Nat) (bs:LI) (p:Nat) (g:Wd) (gb:Nat) (rs:List Func) (f:Func) (i:Int) (ZI:∀z∈bs,0<=z/\z<=255) (hp:p+90000<=1000000000) (hg:GP g) (Wt:g.funcs <+: rs) (hi:0<=i) (hf:g.funcs[i.toNat]? = some f) (h0:i=0->f.params.length=0):Zl 177 [.p rd 0,.agg (Wy g gb),.i i] [Yy rd bs p,XQ gb rs] (fun r h=>∃(e:Z2) (p2:Nat),r=Y8 e/\h=[Yy rd bs p2,XQ gb rs]/\GE g f.params.length 30 e/\p<=p2/\p2<=p+90000):=by
 obtain ⟨hil,_⟩:=Xi.1 hf
 have hgl:=hg.len
 have hso:=(hg.sigs f (ZY hf)).bd
 have hbv:=DV
 refine ZF 121 Tryz.func177 (ar (iA (Wy g gb) fun b1=>iA [.i 0,.i 0,nl] fun b2=>ie (Zu 3 [1] (Zm (Ws gb g.funcs.length 4 i.toNat 5 i) (Z1 1 (V9 (Vu 3 gb 4 4 5 (i.toNat * 5+0) (Zp (Xt rs)) [Z4 f.params] 31 (Z4 f.params) (US Wt hf 0 rfl (Ve rfl))) (Z0 (Zu 3 [1] (Zm (Ws gb g.funcs.length 4 i.toNat 5 i) (Z1 1 (V9 (Vu 3 gb 4 4 5 (i.toNat * 5+1) (Zp (Xt rs)) [.i f.result] 3 (.i f.result) (US Wt hf 1 rfl (Ve rfl))) (Z0 (Y4 1 (ic [] (Z7f f.params 1) ?_))))))))))))))
 rintro _ _ ⟨w1,rfl,rfl,ZT⟩
 have hpl:=ZT
 refine Z0 (ar (Zw [] (Aw 0) (iA [.i 0,.i 0,nl] fun b3=>ZH 0 b3 (YZ (Z2.mk 0 0 [])) (ie (Y4 1 (ic [3] (W7 rd bs p 4 (ZI:=ob)) ?_))))))
 rintro _ _ ⟨k1,rfl,rfl,Yd⟩
 have qhp2:=Yd.lt om
 refine Z0 (aq (aq (XR (fun fz gz F h=>∃(wb:Bool),(wb=true->i=0)/\F=sF [0,2,4,6,7,8,9,10,11] fz [(34,.b wb)]/\h=gz) ?_ ?_)))
 ·refine az (Z1 3 (ib (b:=(decide (k1<3))) 31 (fun Zb=>?_) (fun Zb=>?_)))
  ·have YE:k1<3:=(dq).1 Zb
   exact Z0 (ZU ⟨(i==0),(by first|exact (fun h=>Bool.noConfusion h)|(intro h;omega)|(intro h;simp at h;omega)),rfl,rfl⟩ (ZE 5 fl))
  have YI:¬(k1<3):=Y7 dq Zb
  exact Z0 (ZU ⟨false,(by first|exact (fun h=>Bool.noConfusion h)|(intro h;omega)|(intro h;simp at h;omega)),rfl,rfl⟩ (ZE 5 fl))
 rintro F h ⟨wb,kR6_0,rfl,rfl⟩
 refine XR (fun fz gz F h=>∃(eQ:Z2) (p6:Nat),(GE g f.params.length 200 eQ)/\(p<=p6/\p6<=p+42000)/\F=sF [0,4,6,7,8,10] fz []/\h=[Yy rd bs p6,.obj b3 (YZ eQ),Zc gz 2,Zc gz 3,Zc gz 4]) ?_ ?_
 ·refine ac wb Iff.rfl (fun Za=>?_) (fun Za=>?_)
  ·refine az (ZK 2 [3] (ic [0,3] (Z72 rd bs (p+1) g gb rs (ZI:=ob)) ?_))
   rintro _ _ ⟨e1,p21,rfl,rfl,X9⟩
   have hbd:=X9.1
   have hbp:=X9.2
   exact ZH 2 b3 (YZ e1) (ie (ZU ⟨e1,p21,(by rw [h0 (kR6_0 (by assumption))];exact hbd),ob,rfl,rfl⟩ (wk [1,0,1,1,0] fl)))
  refine aq (XR (fun fz gz F h=>∃(wb:Bool),(wb=true->0<=w1)/\F=sF [0,2,4,6,7,8,9,10,11] fz [(51,.b wb)]/\h=gz) ?_ ?_)
  ·refine az (Z1 3 (ib (b:=(decide (k1<3))) 40 (fun Zx=>?_) (fun Zx=>?_)))
   ·have XG:k1<3:=(dq).1 Zx
    refine Z1 4 (ib (b:=(decide (w1>=0))) 44 (fun Yl=>?_) (fun Yl=>?_))
    ·have XY:w1>=0:=(dq).1 Yl
     refine Z1 3 (ib (b:=(f.result==0)) 47 (fun Xk=>?_) (fun Xk=>?_))
     ·have WQ:f.result=0:=(Zq).1 Xk
      exact Z0 (ZU ⟨true,(by first|exact (fun h=>Bool.noConfusion h)|(intro h;omega)|(intro h;simp at h;omega)),rfl,rfl⟩ (ZE 5 fl))
     have V8:¬(f.result=0):=Y7 Zq Xk
     exact Z0 (ZU ⟨(f.result==1),(by first|exact (fun h=>Bool.noConfusion h)|(intro h;omega)|(intro h;simp at h;omega)),rfl,rfl⟩ (ZE 5 fl))
    have Uy:¬(w1>=0):=Y7 dq Yl
    exact Z0 (ZU ⟨false,(by first|exact (fun h=>Bool.noConfusion h)|(intro h;omega)|(intro h;simp at h;omega)),rfl,rfl⟩ (ZE 5 fl))
   have UU:¬(k1<3):=Y7 dq Zx
   exact Z0 (ZU ⟨false,(by first|exact (fun h=>Bool.noConfusion h)|(intro h;omega)|(intro h;simp at h;omega)),rfl,rfl⟩ (ZE 5 fl))
  rintro F h ⟨wb,kR8_0,rfl,rfl⟩
  refine ac wb Iff.rfl (fun Zf=>?_) (fun Zf=>?_)
  ·refine az (ZK 4 [3] (ic [0,3] (Z7a rd bs (p+1) g gb rs _ i w1 (ZI:=ob) (hw:=(by have:=kR8_0 (by assumption);omega))) ?_))
   rintro _ _ ⟨e2,p22,rfl,rfl,UV⟩
   have hbd:=UV.1
   have hbp:=UV.2
   exact ZH 2 b3 (YZ e2) (ie (ZU ⟨e2,p22,(GE.le hbd om),ob,rfl,rfl⟩ (wk [1,0,1,1,0] fl)))
  refine aq (XR (fun fz gz F h=>∃(wb:Bool),(wb=true->0<f.params.length)/\F=sF [0,2,4,6,7,8,10,11] fz [(77,.b wb)]/\h=gz) ?_ ?_)
  ·refine az (Z1 3 (ib (b:=(decide (k1<3))) 59 (fun Wi=>?_) (fun Wi=>?_)))
   ·have Qj:k1<3:=(dq).1 Wi
    refine Z1 1 (iw (Y6 f.params) (Z1 3 (ib (b:=(decide ((f.params.length:Int)>0))) 64 (fun WA=>?_) (fun WA=>?_))))
    ·have Qk:(f.params.length:Int)>0:=(dq).1 WA
     refine Z1 1 ?_
     obtain ⟨x1,Z3⟩:=Zt f.params 0 om
     refine Zm (Zh none 0 1 (Y0 Z3)) (Z1 4 (ib (b:=(x1==3)) 70 (fun Vt=>?_) (fun Vt=>?_)))
     ·have J1:x1=3:=(Zq).1 Vt
      refine Z1 3 (ib (b:=(f.result==0)) 73 (fun Vi=>?_) (fun Vi=>?_))
      ·have Kx:f.result=0:=(Zq).1 Vi
       exact Z0 (ZU ⟨true,(by first|exact (fun h=>Bool.noConfusion h)|(intro h;omega)|(intro h;simp at h;omega)),rfl,rfl⟩ (ZE 5 fl))
      have Bo:¬(f.result=0):=Y7 Zq Vi
      exact Z0 (ZU ⟨(f.result==3),(by first|exact (fun h=>Bool.noConfusion h)|(intro h;omega)|(intro h;simp at h;omega)),rfl,rfl⟩ (ZE 5 fl))
     have Jy:¬(x1=3):=Y7 Zq Vt
     exact Z0 (ZU ⟨false,(by first|exact (fun h=>Bool.noConfusion h)|(intro h;omega)|(intro h;simp at h;omega)),rfl,rfl⟩ (ZE 5 fl))
    have OV:¬((f.params.length:Int)>0):=Y7 dq WA
    exact Z0 (ZU ⟨false,(by first|exact (fun h=>Bool.noConfusion h)|(intro h;omega)|(intro h;simp at h;omega)),rfl,rfl⟩ (ZE 5 fl))
   have OW:¬(k1<3):=Y7 dq Wi
   exact Z0 (ZU ⟨false,(by first|exact (fun h=>Bool.noConfusion h)|(intro h;omega)|(intro h;simp at h;omega)),rfl,rfl⟩ (ZE 5 fl))
  rintro F h ⟨wb,kR10_0,rfl,rfl⟩
  refine ac wb Iff.rfl (fun ZB=>?_) (fun ZB=>?_)
  ·refine az (ZK 3 [3] (ic [0,3] (Z7b rd bs (p+1) g gb rs _ i (ZI:=ob) (h0:=(kR10_0 (by assumption)))) ?_))
   rintro _ _ ⟨e3,p23,rfl,rfl,IU⟩
   have hbd:=IU.1
   have hbp:=IU.2
   exact ZH 2 b3 (YZ e3) (ie (ZU ⟨e3,p23,(GE.le hbd om),ob,rfl,rfl⟩ (wk [1,0,1,1,0] fl)))
  refine aq (XR (fun fz gz F h=>∃(wb:Bool),(wb=true->0<f.params.length)/\F=sF [0,2,4,6,7,8,10] fz [(102,.b wb)]/\h=gz) ?_ ?_)
  ·refine az (Z1 3 (ib (b:=(decide (k1<3))) 84 (fun Vj=>?_) (fun Vj=>?_)))
   ·have Z83:k1<3:=(dq).1 Vj
    refine Z1 1 (iw (Y6 f.params) (Z1 3 (ib (b:=(decide ((f.params.length:Int)>0))) 89 (fun Qw=>?_) (fun Qw=>?_))))
    ·have Z84:(f.params.length:Int)>0:=(dq).1 Qw
     refine Z1 1 ?_
     obtain ⟨x2,Zs⟩:=Zt f.params 0 om
     refine Zm (Zh none 0 1 (Y0 Zs)) (Z1 4 (ib (b:=(x2==0)) 95 (fun Az=>?_) (fun Az=>?_)))
     ·have Z85:x2=0:=(Zq).1 Az
      refine Z1 3 (ib (b:=(f.result==0)) 98 (fun AA=>?_) (fun AA=>?_))
      ·have Z86:f.result=0:=(Zq).1 AA
       exact Z0 (ZU ⟨true,(by first|exact (fun h=>Bool.noConfusion h)|(intro h;omega)|(intro h;simp at h;omega)),rfl,rfl⟩ (ZE 5 fl))
      have Z87:¬(f.result=0):=Y7 Zq AA
      exact Z0 (ZU ⟨(f.result==1),(by first|exact (fun h=>Bool.noConfusion h)|(intro h;omega)|(intro h;simp at h;omega)),rfl,rfl⟩ (ZE 5 fl))
     have Z88:¬(x2=0):=Y7 Zq Az
     exact Z0 (ZU ⟨false,(by first|exact (fun h=>Bool.noConfusion h)|(intro h;omega)|(intro h;simp at h;omega)),rfl,rfl⟩ (ZE 5 fl))
    have Z89:¬((f.params.length:Int)>0):=Y7 dq Qw
    exact Z0 (ZU ⟨false,(by first|exact (fun h=>Bool.noConfusion h)|(intro h;omega)|(intro h;simp at h;omega)),rfl,rfl⟩ (ZE 5 fl))
   have Z8a:¬(k1<3):=Y7 dq Vj
   exact Z0 (ZU ⟨false,(by first|exact (fun h=>Bool.noConfusion h)|(intro h;omega)|(intro h;simp at h;omega)),rfl,rfl⟩ (ZE 5 fl))
  rintro F h ⟨wb,kR12_0,rfl,rfl⟩
  refine ac wb Iff.rfl (fun ZV=>?_) (fun ZV=>?_)
  ·refine az (ZK 3 [3] (ic [0,3] (Z6i rd bs (p+1) g gb rs _ i (ZI:=ob) (h0:=(kR12_0 (by assumption)))) ?_))
   rintro _ _ ⟨e4,p24,rfl,rfl,IV⟩
   have hbd:=IV.1
   have hbp:=IV.2
   exact ZH 2 b3 (YZ e4) (ie (ZU ⟨e4,p24,(GE.le hbd om),ob,rfl,rfl⟩ (wk [1,0,1,1,0] fl)))
  refine az (ZK 4 [3] (ic [0,3] (OB rd bs (p+1) g gb rs f.params f.result 18 (ZI:=ob)) ?_))
  rintro _ _ ⟨e5,p25,rfl,rfl,IW⟩
  have hbd:=IW.1
  have hbp:=IW.2
  exact ZH 2 b3 (YZ e5) (ie (ZU ⟨e5,p25,(GE.le hbd om),ob,rfl,rfl⟩ (wk [1,0,1,1,0] fl)))
 rintro F h ⟨eQ,p6,J2,L8,rfl,rfl⟩
 refine Yk 1 [1] (ic [] (OI eQ (hz:=(by have:=J2.2;omega))) ?_)
 rintro _ _ ⟨w2,rfl,rfl,OX⟩
 have Eh:=OX
 have Xo:=J2.2
 refine Y2 (w2<0) (fun Xd=>?_) (fun Xd=>?_)
 ·refine Zu 4 [3] (ic [0,3] (OB rd bs p6 g gb rs f.params f.result 12 (ZI:=ob)) ?_)
  rintro _ _ ⟨e6,p26,rfl,rfl,G8⟩
  have hbd:=G8.1
  have hbp:=G8.2
  exact ZH 3 b2 (YZ e6) (ie (ZG (r3 [1,1] [Y8 e6] [0] [(b2,b2)] ⟨e6,p26,rfl,rfl,⟨hbd,by omega⟩⟩ (lr _))))
 exact ak (Zu 1 [1] (ZH 2 b2 (YZ eQ) (ie (ZG (r3 [1,3] [Y8 eQ] [0] [(b2,b2)] ⟨eQ,p6,rfl,rfl,⟨⟨J2.1,by omega⟩,by omega⟩⟩ (lr _))))))
theorem Q0 (ps:LI) (rt:Int) :Zl 176 [Z4 ps,.i rt] [] (Yq (DP (Func.mk ps rt (Z2.mk 0 0 [])))):=by
 exact ZF 8 Tryz.func176 (ar (iA [nl,.i 0,.i 0,.i 0,nl] fun b1=>ie (Y4 3 (ZH 0 b1 [Z4 ps,.i rt,.i 0,.i 0,nl] (ie (ZG (r3 [] [.agg [Z4 ps,.i rt,.i 0,.i 0,nl]] [0] [(b1,b1)] ⟨rfl,rfl⟩ (Zd.agg (.cons (Zd.sl _ (Yr Z6 ob)) (.cons li (.cons li (.cons li (.cons (Zd.sl _ rfl) .nil)))))))))))))
theorem Z79 (rd:Nat) (bs:LI) (p:Nat) (xs:LI) (ZI:∀z∈bs,0<=z/\z<=255) (hp:p+1<=1000000000:=by exact ob) (hx:0<xs.length/\xs.length<=1000000:=by exact ob) (hy:xs.all (fun x=>decide (0<=x))=true:=by exact ob):Zl 62 [.p rd 0,Z4 xs] [Yy rd bs p] (fun r h=>∃(nn:Nat),r=.i nn/\h=[.obj rd [VA bs,.i (p+1:Nat)]]/\(nn:Int)∈xs):=(VV rd bs p xs ZI hp hx).mono fun r h ⟨z,hr,hh,hz⟩=>by
  have h0:0<=z:=of_decide_eq_true (JC.1 hy z hz)
  exact ⟨z.toNat,by rw [hr,Int.toNat_of_nonneg h0],hh,by rw [Int.toNat_of_nonneg h0];exact hz⟩
theorem Z61 (rd:Nat) (bs:LI) (p:Nat) (g:Wd) (gb:Nat) (rs:List Func) (f:Func) (i:Int) (nl:Nat) (ZI:∀z∈bs,0<=z/\z<=255) (hp:p+90000<=1000000000:=by exact ob) (hg:GP g:=by exact ob) (Wt:g.funcs <+: rs:=by exact ob) (hi:0<=i:=by exact ob) (hf:g.funcs[i.toNat]? = some f:=by exact ob) (h0:i=0->f.params.length=0:=by exact ob) (hn:g.funcs.length=nl:=by exact ob):Zl 177 [.p rd 0,.agg [ZW g.decls,.ms gb 0 nl 4],.i i] [Yy rd bs p,XQ gb rs] (fun r h=>∃(e:Z2) (p2:Nat),r=Y8 e/\h=[Yy rd bs p2,XQ gb rs]/\GE g f.params.length 30 e/\p<=p2/\p2<=p+90000):=(by subst hn;exact Z60 rd bs p g gb rs f i ZI hp hg Wt hi hf h0)
theorem Z6o (rd:Nat) (bs:LI) (p:Nat) (ZI:∀z∈bs,0<=z/\z<=255) (hp:p+400000<=1000000000):Zl 134 [.p rd 0] [Yy rd bs p] (fun r h=>∃(rs:List Func) (ds:List Zg) (m:Nat) (gb:Nat) (p2:Nat),r=.agg [ZW ds,.ms gb 0 m 4]/\h=[XQ gb rs,Yy rd bs p2]/\(GL ds m 0 rs/\GD ds/\1<=m/\m<=4)/\p<=p2/\p2<=p+400000):=by
 refine ZF 110 Tryz.func134 (ar (iA [nl,nl] fun b1=>ie (Y4 1 (ic [1] (Z6m rd bs p (ZI:=ob)) ?_))))
 rintro _ _ ⟨ds1,v1,rfl,rfl,ZT⟩
 have hgd:=ZT
 refine Z1 1 (iA [nl,nl] fun b2=>ZH 0 b2 [JX ds1 v1,nl] (ie (ar (iL (Z6 [1]) 1 1 fun v2=>ZO 0 [(13,Z4 [1])] (Zw [] (Q0 [1] 0) (iL (Z6 [1,1]) 2 1 fun v3=>ZO 0 [(15,Z4 [1,1])] (Zw [] (Q0 [1,1] 1) (iL (Z6 [1]) 1 1 fun v4=>ZO 0 [(17,Z4 [1])] (Zw [] (Q0 [1] 1) (iL (Z6 [1,0]) 2 1 fun v5=>ZO 0 [(19,Z4 [1,0])] (Zw [] (Q0 [1,0] 1) (iL (Z6 [2,1]) 2 1 fun v6=>ZO 0 [(21,Z4 [2,1])] (Zw [] (Q0 [2,1] 1) (iL (Z6 [1,1]) 2 1 fun v7=>ZO 0 [(23,Z4 [1,1])] (Zw [] (Q0 [1,1] 0) (iL (Xt [Func.mk [1] 0 (Z2.mk 0 0 []),Func.mk [1,1] 1 (Z2.mk 0 0 []),Func.mk [1] 1 (Z2.mk 0 0 []),Func.mk [1,0] 1 (Z2.mk 0 0 []),Func.mk [2,1] 1 (Z2.mk 0 0 []),Func.mk [1,1] 0 (Z2.mk 0 0 [])]) 6 5 fun v8=>Z0 (ar (iL (Z6 [3]) 1 1 fun v9=>ZO 0 [(26,Z4 [3])] (Zw [] (Q0 [3] 0) (iL (Z6 [0]) 1 1 fun v10=>ZO 0 [(28,Z4 [0])] (Zw [] (Q0 [0] 1) (iL (Z6 [0,1]) 2 1 fun v11=>ZO 0 [(30,Z4 [0,1])] (Zw [] (Q0 [0,1] 1) (iL (Z6 [3,0]) 2 1 fun v12=>ZO 0 [(32,Z4 [3,0])] (Zw [] (Q0 [3,0] 3) (iL (Z6 [3]) 1 1 fun v13=>ZO 0 [(34,Z4 [3])] (Zw [] (Q0 [3] 1) (iL (Z6 [1,3,0]) 3 1 fun v14=>ZO 0 [(36,Z4 [1,3,0])] (Zw [] (Q0 [1,3,0] 0) (iL (Xt [Func.mk [3] 0 (Z2.mk 0 0 []),Func.mk [0] 1 (Z2.mk 0 0 []),Func.mk [0,1] 1 (Z2.mk 0 0 []),Func.mk [3,0] 3 (Z2.mk 0 0 []),Func.mk [3] 1 (Z2.mk 0 0 []),Func.mk [1,3,0] 0 (Z2.mk 0 0 [])]) 6 5 fun v15=>Z0 (ar (iL (Z6 [0]) 1 1 fun v16=>ZO 0 [(39,Z4 [0])] (Zw [] (Q0 [0] 0) (iL (Z6 [0,0]) 2 1 fun v17=>ZO 0 [(41,Z4 [0,0])] (Zw [] (Q0 [0,0] 0) (iL (Z6 [1,0]) 2 1 fun v18=>ZO 0 [(43,Z4 [1,0])] (Zw [] (Q0 [1,0] 0) (iL (Z6 [0]) 1 1 fun v19=>ZO 0 [(45,Z4 [0])] (Zw [] (Q0 [0] 1) (iL (Xt [Func.mk [0] 0 (Z2.mk 0 0 []),Func.mk [0,0] 0 (Z2.mk 0 0 []),Func.mk [1,0] 0 (Z2.mk 0 0 []),Func.mk [0] 1 (Z2.mk 0 0 [])]) 4 5 fun v20=>Z0 (aD 26 (Zk 23 26 [2,3,4] (dn 5 (.i (([Func.mk [1] 0 (Z2.mk 0 0 []),Func.mk [1,1] 1 (Z2.mk 0 0 []),Func.mk [1] 1 (Z2.mk 0 0 []),Func.mk [1,0] 1 (Z2.mk 0 0 []),Func.mk [2,1] 1 (Z2.mk 0 0 []),Func.mk [1,1] 0 (Z2.mk 0 0 [])].length:Nat):Int)) (.i (((Xt [Func.mk [1] 0 (Z2.mk 0 0 []),Func.mk [1,1] 1 (Z2.mk 0 0 []),Func.mk [1] 1 (Z2.mk 0 0 []),Func.mk [1,0] 1 (Z2.mk 0 0 []),Func.mk [2,1] 1 (Z2.mk 0 0 []),Func.mk [1,1] 0 (Z2.mk 0 0 [])]).length:Nat):Int)) (li (by rw [D3])) (Zk 19 22 [9,10,11] (dn 12 (.i (([Func.mk [3] 0 (Z2.mk 0 0 []),Func.mk [0] 1 (Z2.mk 0 0 []),Func.mk [0,1] 1 (Z2.mk 0 0 []),Func.mk [3,0] 3 (Z2.mk 0 0 []),Func.mk [3] 1 (Z2.mk 0 0 []),Func.mk [1,3,0] 0 (Z2.mk 0 0 [])].length:Nat):Int)) (.i (((Xt [Func.mk [3] 0 (Z2.mk 0 0 []),Func.mk [0] 1 (Z2.mk 0 0 []),Func.mk [0,1] 1 (Z2.mk 0 0 []),Func.mk [3,0] 3 (Z2.mk 0 0 []),Func.mk [3] 1 (Z2.mk 0 0 []),Func.mk [1,3,0] 0 (Z2.mk 0 0 [])]).length:Nat):Int)) (li (by rw [D3])) (Zk 15 18 [16,17,18] (dn 19 (.i (([Func.mk [0] 0 (Z2.mk 0 0 []),Func.mk [0,0] 0 (Z2.mk 0 0 []),Func.mk [1,0] 0 (Z2.mk 0 0 []),Func.mk [0] 1 (Z2.mk 0 0 [])].length:Nat):Int)) (.i (((Xt [Func.mk [0] 0 (Z2.mk 0 0 []),Func.mk [0,0] 0 (Z2.mk 0 0 []),Func.mk [1,0] 0 (Z2.mk 0 0 []),Func.mk [0] 1 (Z2.mk 0 0 [])]).length:Nat):Int)) (li (by rw [D3])) (Z9 0 (dL 0 [] [] (Z6 []) 0 1 fun v21=>Yv 13 13 [] [(48,Z4 [])] (Z9 1 (Yt 1 [] [] [] (Q0 [] 0) (Z9 6 (dc 6 [22] [] [] (W7 rd bs (p+1) (([Func.mk [1] 0 (Z2.mk 0 0 []),Func.mk [1,1] 1 (Z2.mk 0 0 []),Func.mk [1] 1 (Z2.mk 0 0 []),Func.mk [1,0] 1 (Z2.mk 0 0 []),Func.mk [2,1] 1 (Z2.mk 0 0 []),Func.mk [1,1] 0 (Z2.mk 0 0 [])].length:Nat):Int) (ZI:=ob)) ?_)))))))))))))))))))))))))))))))))))))))))))))))))))))
 rintro _ _ ⟨k1,rfl,rfl,Yd⟩
 have qhp2:=Yd.lt (by simp)
 simp only [YS,Xv] at qhp2
 obtain ⟨x1,Z3⟩:=Zt [Func.mk [1] 0 (Z2.mk 0 0 []),Func.mk [1,1] 1 (Z2.mk 0 0 []),Func.mk [1] 1 (Z2.mk 0 0 []),Func.mk [1,0] 1 (Z2.mk 0 0 []),Func.mk [2,1] 1 (Z2.mk 0 0 []),Func.mk [1,1] 0 (Z2.mk 0 0 [])] k1.toNat (by simp only [YS,Xv];omega)
 refine dx 7 (Zh (some v8) k1 5 (FB Z3)) (Zk 9 10 [8] (Z9 13 (dc 13 [0] [] [] (W7 rd bs ((p+1)+1) (([Func.mk [3] 0 (Z2.mk 0 0 []),Func.mk [0] 1 (Z2.mk 0 0 []),Func.mk [0,1] 1 (Z2.mk 0 0 []),Func.mk [3,0] 3 (Z2.mk 0 0 []),Func.mk [3] 1 (Z2.mk 0 0 []),Func.mk [1,3,0] 0 (Z2.mk 0 0 [])].length:Nat):Int) (ZI:=ob)) ?_)))
 rintro _ _ ⟨k2,rfl,rfl,YE⟩
 have qhp3:=YE.lt (by simp)
 simp only [YS,Xv] at qhp3
 obtain ⟨x2,Zs⟩:=Zt [Func.mk [3] 0 (Z2.mk 0 0 []),Func.mk [0] 1 (Z2.mk 0 0 []),Func.mk [0,1] 1 (Z2.mk 0 0 []),Func.mk [3,0] 3 (Z2.mk 0 0 []),Func.mk [3] 1 (Z2.mk 0 0 []),Func.mk [1,3,0] 0 (Z2.mk 0 0 [])] k2.toNat (by simp only [YS,Xv];omega)
 refine dx 14 (Zh (some v15) k2 5 (FB Zs)) (Zk 6 7 [15] (Z9 20 (dc 20 [0] [] [] (W7 rd bs (((p+1)+1)+1) (([Func.mk [0] 0 (Z2.mk 0 0 []),Func.mk [0,0] 0 (Z2.mk 0 0 []),Func.mk [1,0] 0 (Z2.mk 0 0 []),Func.mk [0] 1 (Z2.mk 0 0 [])].length:Nat):Int) (ZI:=ob)) ?_)))
 rintro _ _ ⟨k3,rfl,rfl,YI⟩
 have qhp4:=YI.lt (by simp)
 simp only [YS,Xv] at qhp4
 obtain ⟨x3,YJ⟩:=Zt [Func.mk [0] 0 (Z2.mk 0 0 []),Func.mk [0,0] 0 (Z2.mk 0 0 []),Func.mk [1,0] 0 (Z2.mk 0 0 []),Func.mk [0] 1 (Z2.mk 0 0 [])] k3.toNat (by simp only [YS,Xv];omega)
 refine dx 21 (Zh (some v20) k3 5 (FB YJ)) (Zk 3 4 [22] (Z9 23 (dKN 23 [] [] (Zp (Xt [Func.mk [] 0 (Z2.mk 0 0 []),x1,x2,x3])) 4 5 fun g1=>Zk 1 2 [24] (Z9 25 (YM 25 22 [] [] b2 [JX ds1 v1,.ms g1 0 4 4] (de (Y4 1 (iL (Z6 [4,4,3,2,4]) 5 1 fun v22=>ZO 0 [(74,Z4 [4,4,3,2,4])] (ic [3] (Z79 rd bs ((((p+1)+1)+1)+1) [4,4,3,2,4] (ZI:=ob) (hy:=(by decide))) ?_)))))))))
 rintro _ _ ⟨nn1,rfl,rfl,X9⟩
 have hnn:=Zbb (a:=2) (b:=4) X9 (by decide)
 refine Z0 (Zu 3 [2] (Zm (La 3 g1 4 4 nn1 5 (Zp (Xt [Func.mk [] 0 (Z2.mk 0 0 []),x1,x2,x3]))) (Z1 1 (ZH 2 b2 [JX ds1 v1,.ms g1 0 nn1 4] (ie (YC 1 (ia (((nn1:Int)-1)) (((nn1:Int))-(1)) (Z0 (ab 0 (Y5 (fun fz gz m F h=>∃(j:Nat) (rq:List Func) (pq:Nat),(j<=nn1)/\(GL ds1 nn1 j rq)/\(p<=pq/\pq+90000*j<=p+10+90000*nn1)/\F=sF [0,2,3] fz [(8,.i ((j:Int)-1))]/\h=[Zc gz 0,Yy rd bs pq,Zc gz 25,Zc gz 24,XQ g1 rq]/\m=j+1) _ _ _ ⟨nn1,[Func.mk [] 0 (Z2.mk 0 0 []),x1,x2,x3],((((p+1)+1)+1)+1)+1,ob,(GL.start (Md Z3 (by decide)) (Md Zs (by decide)) (Md YJ (by decide))),ob,rfl,rfl,rfl⟩ (wk [0,0,23,22,1] fl) ?_))))))))))
 rintro m F h ⟨j,rq,pq,Yh,Zj,Zy,rfl,rfl,rfl⟩
 refine X2 (Y2 (((j:Int)-1)>=0) (fun Za=>?_) (fun Za=>?_))
 ·obtain ⟨f1,hf1⟩:=Zt (rq.take nn1) (((j:Int)-1).toNat) (by rw [Zj.len_take om];omega)
  have hfq:rq[j-1]? = some f1:=by have h:=hf1;rw [show ((j:Int)-1).toNat=j-1 by omega,List.getElem?_take_of_lt om] at h;exact h
  refine ak (aq (ab 1 (ar (QC 3 [(88,.agg [ZW ds1,.ms g1 0 nn1 4])] [0] (ic [1,3] (Z61 rd bs pq (Wd.mk ds1 (rq.take nn1)) g1 rq f1 ((j:Int)-1) nn1 (ZI:=ob) (hg:=(Zj.gp hgd om)) (Wt:=(List.take_prefix nn1 rq)) (hf:=hf1) (h0:=(fun h=>Zj.zero f1 (by rw [<-hfq,show j-1=0 by omega]))) (hn:=(Zj.len_take om))) ?_)))))
  rintro _ _ ⟨e1,p21,rfl,rfl,XG⟩
  have hbw:eW ds1 nn1 f1.params.length e1/\(e1).sz<=30:=by have h:=XG.1;unfold GE at h;rw [show (Wd.mk ds1 (rq.take nn1)).funcs.length=nn1 from Zj.len_take om] at h;exact h
  exact iA [.i 0,.i 0,nl] fun b3=>ZH 0 b3 (YZ e1) (ie (aE 19 (ZL 13 19 [0,1,2,3,4,5] [3,3] (dx 6 (Ws g1 nn1 4 (((j:Int)-1).toNat) 5 ((j:Int)-1)) (Zk 11 12 [7] (Uo 8 (Vu 2 g1 4 4 5 ((((j:Int)-1).toNat)*5+0) (Zp (Xt rq)) [Z4 f1.params] 31 (Z4 f1.params) (US (List.take_prefix nn1 rq) hf1 0 rfl (Ve rfl))) (ZL 7 10 [9,10,11] [3] (dx 12 (Ws g1 nn1 4 (((j:Int)-1).toNat) 5 ((j:Int)-1)) (Zk 5 6 [13] (Uo 14 (Vu 2 g1 4 4 5 ((((j:Int)-1).toNat)*5+1) (Zp (Xt rq)) [.i f1.result] 3 (.i f1.result) (US (List.take_prefix nn1 rq) hf1 1 rfl (Ve rfl))) (ZL 2 4 [15,16] [0] (dx 17 (Ws g1 nn1 4 (((j:Int)-1).toNat) 5 ((j:Int)-1)) (Z9 18 (C9 18 2 [] [] g1 4 4 5 ((((j:Int)-1).toNat)*5) [Z4 f1.params,.i f1.result,.i e1.op,.i e1.num,XD e1.kids] (Zp (Xt rq)) (Zp (Xt (rq.set ((j:Int)-1).toNat ⟨f1.params,f1.result,e1⟩))) (by rw [Iv,Zj.len];simp only [YS,Xv];omega) (Z5n ⟨f1.params,f1.result,e1⟩ (by rw [Zj.len];omega)) (de (az (Z1 1 (ia ((((j:Int)-1)-1)) (((j:Int)-1)-(1)) (Z0 (ZM ⟨(j-1),(rq.set ((j:Int)-1).toNat ⟨f1.params,f1.result,e1⟩),p21,ob,(by rw [show ((j:Int)-1).toNat=j-1 by omega];exact Zj.set om hfq hbw),ob,rfl,rfl,rfl⟩ (wk [3,2,2,2,0] (fc (x:=.i (((j:Int)-1)-1)) li fl))))))))))))))))))))))
 exact ax 0 (Zu 1 [0] (ZH 2 b1 [JX ds1 v1,.ms g1 0 nn1 4] (ie (ZG (r3 [4,2] [.agg [JX ds1 v1,.ms g1 0 nn1 4]] [0] [(b1,b1)] ⟨rq,ds1,nn1,g1,pq,rfl,rfl,⟨⟨by rw [show j=0 by omega] at Zj;exact Zj,hgd,by omega,by omega⟩,by omega⟩⟩ (Zd.agg (.cons (Zd.forget _ _) (.cons (lr _) .nil))))))))
theorem Z6n (rd:Nat) (bs:LI) (p:Nat) (ZI:∀z∈bs,0<=z/\z<=255) (hp:p+400000<=1000000000:=by exact ob):Zl 134 [.p rd 0] [Yy rd bs p] (fun r h=>∃(g:Wd) (p2:Nat),r=Af g/\h=[Yy rd bs p2]/\HC g/\p<=p2/\p2<=p+400000):=(WC.frzP (E:=List Func × List Zg × Nat × Nat) (ds:=fun e=>e.2.1) (rs:=fun e=>e.1) (m:=fun e=>e.2.2.1) (hs:=fun e=>[.obj rd [VA bs,.i (e.2.2.2:Nat)]]) (Q:=fun e=>(GL e.2.1 e.2.2.1 0 e.1/\GD e.2.1/\1<=e.2.2.1/\e.2.2.1<=4)/\p<=e.2.2.2/\e.2.2.2<=p+400000)
  ((Z6o rd bs p ZI hp).mono fun r h ⟨rs,ds,m,gb,p2,hr,hh,hq⟩=>⟨(rs,ds,m,p2),gb,hr,hh,hq⟩) fun e hq=>⟨hq.1.2.2.2,hq.1.1.len⟩).mono
  fun r h ⟨e,hr,hh,hq⟩=>⟨⟨e.2.1,e.1.take e.2.2.1⟩,e.2.2.2,hr,hh,hq.1.1.done hq.1.2.1 hq.1.2.2,hq.2⟩
theorem IL (a:Nat) (n:Nat) (ha:a<=1000000:=by exact ob) (hn:n<=1000000:=by exact ob):Zl 175 [.i a,.i n] [] (fun r h=>∃(xs:LI),r=Z4 xs/\h=[]/\xs.length=n/\∀i∈xs,(a:Int)<=i/\i<(a:Int)+n):=by
 refine ZF 20 Tryz.func175 (ZD (ar (iL (Z6 []) 0 1 fun v1=>?_)))
 refine Z0 (Yc (ab 0 (Y5 (fun fz gz m F h=>∃(k:Nat) (ys:LI) (u:Value),(k<=n)/\(ys.length=k)/\(∀i∈ys,(a:Int)<=i/\i<(a:Int)+n)/\F=sF [0,1] fz [(5,ZQ ys u),(6,.i k)]/\h=[.tail u 1]/\m=n-k) _ _ _ ⟨0,[],v1,ob,ob,(fun i hi=>by cases hi),rfl,rfl,rfl⟩ (wk [0] (fr (Yf fl))) ?_)))
 rintro m F h ⟨k,ys,u,Yh,Zj,Zy,rfl,rfl,rfl⟩
 refine X2 (Y2 ((k:Int)<(n:Int)) (fun Za=>?_) (fun Za=>?_))
 ·exact ak (aq (ab 1 (az (Z1 3 (ia (((a+k:Nat):Int)) (((a:Int))+((k:Int))) (iL (Z6 [((a+k:Nat):Int)]) 1 1 fun v2=>ZO 0 [(17,Z4 [((a+k:Nat):Int)])] (ip 1 (Z6 (ys++[((a+k:Nat):Int)])) (Z6 ys) (Z6 [((a+k:Nat):Int)]) u none 1 (YB _) (YB _) (Wb _) (by simp<;>omega) (by simp [Wa,Z6]) fun v3=>Z0 (az (Z1 1 (ZJ k (Z0 (ZM ⟨k+1,(ys++[((a+k:Nat):Int)]),v3,ob,ob,(XF Zy om),rfl,rfl,rfl⟩ (wk [0] (fr (ZP k fl)))))))))))))))
 exact ax 0 (ar (Zo (r2 [] [ZQ ys u] ⟨ys,rfl,rfl,⟨by omega,Zy⟩⟩ (Zd.forget _ _))))
theorem Ox (l:Nat) (xs:List Z5) (w:Value) (q:Nat) (s:Z5) (hl:xs.length<=4000000000:=by exact ob) (hq:q<=1000000:=by exact ob):Zl 269 [.p l 0,YL s] [.obj l [X0 xs w,.i q],.tail w 5] (fun r h=>∃(w2:Value),r=.i q/\h=[.obj l [X0 (xs++[s]) w2,.i (((q+1):Nat):Int)],.tail w2 5]):=by
 exact ZF 28 Tryz.func269 (ar (iA (XC s) fun b1=>Z0 (aD 11 (ZL 5 11 [0,1,2,3,4,5] [1,0] (Z9 6 (WJ 6 [1] [l] [YL s] (ZA [s]) (VJ [s]).symm 1 5 fun v1=>Yv 4 4 [] [(11,WE [s])] (Z9 7 (dp 7 3 [] [] (ZA (xs++[s])) (ZA xs) (ZA [s]) w none 5 (Xq _) (Xq _) (Ua _) (by simp<;>omega) (by simp [V0,ZA]) fun v2=>Zk 1 3 [8,9] (Z9 10 (YM 10 3 [] [] l [X0 (xs++[s]) v2,.i q] (de (Zu 5 [0] (ZJ q (Z1 2 (ZH 0 l [X0 (xs++[s]) v2,.i (q+1:Nat)] (ie (Zu 4 [0] (ia ((((q+1:Nat):Int)-1)) ((((q+1:Nat):Int))-(1)) (Zo (r2 [0,0] [.i (((q+1:Nat):Int)-1)] ⟨v2,rfl,rfl⟩ li))))))))))))))))))))
theorem OH (g:Wd) (e:Z2) (us:LI) (q:Nat) (bb:Nat) (he:eW g.decls g.funcs.length us.length e:=by exact ob) (hu:∀a∈us,0<=a/\a<(q:Int)) (hul:us.length+4*e.sz<=100000:=by exact ob) (hql:q+6*e.sz<=100000:=by exact ob) (hb:e.sz<bb:=by exact ob) (ih:∀(l:Nat) (e2:Z2) (us2:LI) (xs2:List Z5) (w2:Value) (q2:Nat),(eW g.decls g.funcs.length us2.length e2)->(∀a∈us2,0<=a/\a<(q2:Int))->(us2.length+4*e2.sz<=100000)->(xs2.length+6*e2.sz<=100000)->(q2+6*e2.sz<=100000)->(e2.sz<bb)->Zl 224 [.p l 0,Af g,Y8 e2,Z4 us2] [.obj l [X0 xs2 w2,.i q2],.tail w2 5] (fun r h=>∃(ys:List Z5) (v:Int) (w2:Value),r=.i v/\h=[.obj l [X0 (xs2++ys) w2,.i (((q2+X1 ys):Nat):Int)],.tail w2 5]/\LW g.decls g.funcs.length q2 e2 ys v)):Zl 174 [Af g,Y8 e,Z4 us,.i q] [] (fun r h=>∃(b:Z7),r=Y3 b/\h=[]/\LB g.decls g.funcs.length q e b):=by
 refine ZF 26 Tryz.func174 (ar (iA (Lg g) fun b1=>iA (YZ e) fun b2=>iA [nl,.i 0] fun b3=>ie (ar (iL (ZA []) 0 5 fun v1=>Z1 2 (iA [X0 [] v1,.i q] fun b4=>Z0 (Zu 4 [4,3] (ic [0,0] (ih b4 e us [] v1 q he hu ob ob ob ob) ?_)))))))
 rintro _ _ ⟨ys1,v2,w21,rfl,rfl,ZT⟩
 have hlw:=ZT
 exact Z0 (Zu 6 [0] (ZH 2 b3 [X0 ([]++ys1) w21,.i v2] (ie (ZG (r3 [] [.agg [X0 ([]++ys1) w21,.i v2]] [0] [(b3,b3)] ⟨(Z7.mk ([]++ys1) v2),rfl,rfl,(by rw [CH];exact hlw.block)⟩ (Zd.agg (.cons (Zd.forget _ _) (.cons (lr _) .nil))))))))
theorem Z71 (l:Nat) (g:Wd) (e:Z2) (us:LI) (xs:List Z5) (w:Value) (q:Nat) (hd:GD g.decls) (he:eW g.decls g.funcs.length us.length e) (hu:∀a∈us,0<=a/\a<(q:Int)) (hul:us.length+4*e.sz<=100000) (hxl:xs.length+6*e.sz<=100000) (hql:q+6*e.sz<=100000) (ih:∀(l:Nat) (e2:Z2) (us2:LI) (xs2:List Z5) (w2:Value) (q2:Nat),(eW g.decls g.funcs.length us2.length e2)->(∀a∈us2,0<=a/\a<(q2:Int))->(us2.length+4*e2.sz<=100000)->(xs2.length+6*e2.sz<=100000)->(q2+6*e2.sz<=100000)->(e2.sz<e.sz)->Zl 224 [.p l 0,Af g,Y8 e2,Z4 us2] [.obj l [X0 xs2 w2,.i q2],.tail w2 5] (fun r h=>∃(ys:List Z5) (v:Int) (w2:Value),r=.i v/\h=[.obj l [X0 (xs2++ys) w2,.i (((q2+X1 ys):Nat):Int)],.tail w2 5]/\LW g.decls g.funcs.length q2 e2 ys v)):Zl 224 [.p l 0,Af g,Y8 e,Z4 us] [.obj l [X0 xs w,.i q],.tail w 5] (fun r h=>∃(ys:List Z5) (v:Int) (w2:Value),r=.i v/\h=[.obj l [X0 (xs++ys) w2,.i (((q+X1 ys):Nat):Int)],.tail w2 5]/\LW g.decls g.funcs.length q e ys v):=by
 have Xw:=hd.ok
 obtain ⟨ho,h12,h13,h7,h8,h9,hnum,hkl,hks⟩:=(Z55 e).1 he
 have hez:=e.sz_eq
 refine ZF 148 Tryz.func224 (ar (iA (Lg g) fun b1=>iA (YZ e) fun b2=>Z0 (X2 (VD [0] (ab 0 (ar (YD (e.op==12) Zq (fun Za=>?_) (fun Za=>?_))))))))
 ·refine Zu 3 [0] ?_
  obtain ⟨x1,Z3⟩:=Zt us e.num.toNat (by have:=h12 om;omega)
  have huv:=hu _ (ZY Z3)
  exact Zm (Zh none e.num 1 (Y0 Z3)) (Zo (r1 [2,2] ⟨[],x1,w,rfl,rfl,(LW.var huv)⟩ (eq:=(ro (ls:=[X0 xs w,.i q]) (by simp [X1]) (rc rz)))))
 refine ar (YD (e.op==13) Zq (fun Zf=>?_) (fun Zf=>?_))
 ·refine aD 9 (ZL 5 9 [0,1,2,3] [1,0] ?_)
  obtain ⟨x2,Zs⟩:=Zt e.kids 0 (by have:=h13 om;omega)
  have hekx2:=D4 hks Zs
  have hszx2:=Cf Zs
  have htzx2:=Bj Zs
  rw [Vl] at hekx2
  rw [Sc om] at hekx2
  refine dx 4 (Zh none 0 3 (D0 Zs)) (Zk 2 4 [5,6] (Z9 7 (dc 7 [2,2] [] [] (ih l x2 us xs w q (by first|assumption|(rw [Yx];assumption)) (by first|assumption|exact EW hu hlwhp1.v|exact Hm hu) (by first|omega|(simp only [Yx,YS,Xv];omega)) (by first|omega|(simp only [Yx,YS,Xv];omega)) ob ob) ?_)))
  rintro _ _ ⟨ys1,v1,w21,rfl,rfl,ZT⟩
  have hlwhp1:=ZT
  have hldhp1:=ZT.dn
  refine Zk 0 1 [8] (de (aD 12 (ZL 8 12 [0,1,2,3] [3,2] ?_)))
  obtain ⟨x3,YJ⟩:=Zt e.kids 1 (by have:=h13 om;omega)
  have hz2:=Od Zs YJ
  have hz3:=x2.sz_eq
  have hekx3:=D4 hks YJ
  have hszx3:=Cf YJ
  have htzx3:=Bj YJ
  rw [Vl] at hekx3
  rw [Sc om] at hekx3
  refine dx 4 (Zh none 1 3 (D0 YJ)) (Zk 4 7 [5,6,7] (Z9 8 (dL 8 [1,2] [b2,b1] (Z6 [v1]) 1 1 fun v2=>Yv 3 3 [] [(45,Z4 [v1])] (Z9 9 (dc 9 [] [1,2] [b2,b1] (Kd us [v1]) ?_)))))
  rintro _ _ ⟨v3,rfl,rfl⟩
  refine Yv 2 2 [] [(46,Z4 (us++[v1]))] (Z9 10 (dc 10 [2,2] [] [] (ih l x3 (us++[v1]) (xs++ys1) w21 (q+X1 ys1) (by first|assumption|(rw [Yx];assumption)) (by first|assumption|exact EW hu hlwhp1.v|exact Hm hu) (by first|omega|(simp only [Yx,YS,Xv];omega)) (by first|omega|(simp only [Yx,YS,Xv];omega)) ob ob) ?_))
  rintro _ _ ⟨ys2,v4,w22,rfl,rfl,Yd⟩
  have hlwhp2:=Yd
  have hldhp2:=Yd.dn
  exact Zk 0 1 [11] (de (ZG (r1 [0,0] ⟨(ys1++ys2),v4,w22,rfl,rfl,(LW.let_ hlwhp1 hlwhp2 (by have:=Od Zs YJ;omega))⟩ (eq:=(ro (ls:=[X0 ((xs++ys1)++ys2) w22,.i ((((q+X1 ys1)+X1 ys2):Nat):Int)]) (by rw [Jq,<-B1,TV]) (rc rz))))))
 refine Yc (XR (fun fz gz F h=>F=sF [0,3,5,6] fz [(48,.b ((e.op==7)||(e.op==8)))]/\h=gz) ?_ ?_)
 ·refine ac (e.op==7) Zq (fun ZB=>?_) (fun ZB=>?_)
  ·exact ak (ZU ⟨rfl,rfl⟩ (ZE 4 (fc (x:=.b (e.op==7)) (lb (by first|rfl|(rw [Ze ZB])|(rw [Z8 ZB])|(simp [ZB];done)|(rw [Xu];simp [ZB];done)|omega)) fl)))
  exact UT (ZU ⟨rfl,rfl⟩ (ZE 4 (fc (x:=.b (e.op==8)) (lb (by first|rfl|(rw [Ze ZB])|(rw [Z8 ZB])|(simp [ZB];done)|(rw [Xu];simp [ZB];done)|omega)) fl)))
 rintro F h ⟨rfl,rfl⟩
 refine ac ((e.op==7)||(e.op==8)) (p:=(e.op=7)∨(e.op=8)) (Yi Zq Zq) (fun ZV=>?_) (fun ZV=>?_)
 ·refine aD 9 (ZL 5 9 [0,1,2,3] [1,0] ?_)
  obtain ⟨x4,WK⟩:=Zt e.kids 0 om
  have hekx4:=D4 hks WK
  have hszx4:=Cf WK
  have htzx4:=Bj WK
  rw [Vl] at hekx4
  rw [Zdh om] at hekx4
  refine dx 4 (Zh none 0 3 (D0 WK)) (Zk 2 4 [5,6] (Z9 7 (dc 7 [2,2] [] [] (ih l x4 us xs w q (by first|assumption|(rw [Yx];assumption)) (by first|assumption|exact EW hu hlwhp1.v|exact Hm hu) (by first|omega|(simp only [Yx,YS,Xv];omega)) (by first|omega|(simp only [Yx,YS,Xv];omega)) ob ob) ?_)))
  rintro _ _ ⟨ys3,v5,w23,rfl,rfl,YE⟩
  have hlwhp3:=YE
  have hldhp3:=YE.dn
  refine Zk 0 1 [8] (de (ar (iL (YN []) 0 2 fun v6=>Z0 (Zu 4 [4,3] (ic [] (JZ g.decls e.num) ?_)))))
  rintro _ _ ⟨v7,rfl,rfl⟩
  refine Z0 (Yc (ab 1 (Y5 (fun fz gz m F h=>∃(k:Nat) (cs:List Z7) (u:Value),(1<=k/\k<=e.kids.length)/\(cs.length+1=k)/\(TR g.decls g.funcs.length (UY g.decls e.op e.num (q+X1 ys3)) 0 cs)/\(Xa cs+6*x4.sz<=cs.length+6*XB (e.kids.take k))/\(K7 WV cs)/\F=sF [0,3,5,6,10] fz [(11,Tw cs u),(12,Z4 (Y1 g.decls e.num)),(13,.i k)]/\h=[Zc gz 2,Zc gz 4,Zc gz 5,.tail u 2,Zc gz 3]/\m=e.kids.length-k) _ _ _ ⟨1,[],v6,ob,ob,True.intro,(by have h:XB (e.kids.take 1)=XB (e.kids.take 0)+x4.sz:=Bj WK;simp only [Xa,Xv];omega),True.intro,rfl,rfl,rfl⟩ (wk [2,3,3,1,1] (fr (fc (x:=ZQ (Y1 g.decls e.num) v7) (Zd.forget _ _) (fc (x:=.i 1) li fl)))) ?_)))
  rintro m F h ⟨k,cs,u,Yh,Zj,Zy,Yu,XU,rfl,rfl,rfl⟩
  refine Yk 3 [1] (iw (Ik e.kids) (Y2 ((k:Int)<(e.kids.length:Int)) (fun Xd=>?_) (fun Xd=>?_)))
  ·refine ak (aq (ab 2 (ZD (X2 (VD [1] (XR (fun fz gz F h=>∃(mf:Nat),(UY g.decls e.op e.num (q+X1 ys3) cs.length=(q+X1 ys3)+mf)/\(mf<=3)/\(Q8 g.decls e.op e.num us.length k=us.length+mf)/\F=sF [0,3,5,6,10,11,12,13] fz [(14,.i mf)]/\h=gz) ?_ ?_))))))
   ·refine ac (e.op==8) Zq (fun Xe=>?_) (fun Xe=>?_)
    ·refine aE 10 (ZL 6 10 [0,1,2,3] [2] (da 4 (((k-1:Nat):Int)) (((k:Int))-(1)) ?_))
     obtain ⟨x5,Uz⟩:=Zt (Y1 g.decls e.num) (k-1) (by have:=h8 om;omega)
     exact dx 5 (Zh none ((k-1:Nat):Int) 1 (Y0 Uz)) (Zk 3 4 [6] (Z9 7 (Yt 7 [] [] [] (KF g.decls x5) (dn 8 (.i (((ZX g.decls x5).length:Nat):Int)) (.i (((Z6 (ZX g.decls x5)).length:Nat):Int)) (li (by rw [Y6])) (Zk 0 1 [9] (de (ZU ⟨(ZX g.decls x5).length,(M8 om (by rw [show cs.length=k-1 by omega];exact Uz)),(by have:=U4 Xw x5;omega),(Zdi om (show k=(k-1)+1 by omega) Uz),rfl,rfl⟩ (ZE 5 (fc (x:=.i (((ZX g.decls x5).length:Nat):Int)) (li (by first|rfl|(rw [Ze Xe])|(rw [Z8 Xe])|(simp [Xe];done)|(rw [Xu];simp [Xe];done)|omega)) fl)))))))))
    exact ak (ZU ⟨0,(M9 om),om,(Sd om),rfl,rfl⟩ (ZE 5 (fc (x:=.i 0) (li (by first|rfl|(rw [Ze Xe])|(rw [Z8 Xe])|(simp [Xe];done)|(rw [Xu];simp [Xe];done)|omega)) fl)))
   rintro F h ⟨mf,Z9r,Zhj,Z9s,rfl,rfl⟩
   refine aE 25 (ZL 20 25 [0,1,2,3,4] [2,1] ?_)
   obtain ⟨x6,Cl⟩:=Zt e.kids k om
   have hekx6:=D4 hks Cl
   have hszx6:=Cf Cl
   have htzx6:=Bj Cl
   rw [Vl] at hekx6
   rw [Z9s] at hekx6
   have htk:=At (xs:=e.kids) (k+1)
   have hbl:=Fi cs
   refine dx 5 (Zh none (k:Int) 3 (D0 Cl)) (ZL 7 19 [6,7,8,9,10,11,12,15,16,17,18,19] [0,0] (da 20 ((((q+X1 ys3)+mf:Nat):Int)) (((((q+X1 ys3):Nat):Int))+((mf:Int))) (Z9 13 (dc 13 [] [0,1,2] [l,b2,b1] (IL (q+X1 ys3) mf) ?_))))
   rintro _ _ ⟨xs1,rfl,rfl,YI⟩
   have hnx:=YI
   refine Z9 14 (dc 14 [] [0,1,2] [l,b2,b1] (Kd us xs1) ?_)
   rintro _ _ ⟨v8,rfl,rfl⟩
   refine Yv 4 4 [] [(98,Z4 (us++xs1))] (Z9 21 (dc 21 [] [] [] (OH g x6 (us++xs1) ((q+X1 ys3)+mf) e.sz (he:=(by rw [Yx,hnx.1];exact hekx6)) (hu:=(Zgk hu hnx.2)) (hul:=(by rw [Yx,hnx.1];omega)) (hql:=om) (ih:=ih)) ?_))
   rintro _ _ ⟨b3,rfl,rfl,X9⟩
   have hlb:=X9
   exact Z9 22 (WJ 22 [] [] [Y3 b3] (YN [b3]) (Tm [b3]).symm 1 2 fun v9=>Yv 2 2 [] [(106,W5 [b3])] (Z9 23 (dp 23 5 [] [] (YN (cs++[b3])) (YN cs) (YN [b3]) u none 2 (TY _) (TY _) (Fz _) (by simp<;>omega) (by simp [Aq,YN]) fun v10=>Zk 0 1 [24] (de (az (Z1 1 (ZJ k (Z0 (ZM ⟨k+1,(cs++[b3]),v10,ob,ob,(Of Zy (by rw [Z9r];exact hlb.1)),(by have:=hlb.2;rw [DX,Yx];simp only [Xa,YS,Xv];omega),(Ri XU hlb.op),rfl,rfl,rfl⟩ (wk [3,3,3,0,2] (fw (ZP k fl))))))))))))
  refine ax 1 (Zu 6 [1,1] (iL (Z6 [v5]) 1 1 fun v11=>ZO 2 [(116,.agg [.i e.op,.i e.num,.i 0,Z4 [v5],W5 cs])] (ic [1,4] (Ox l (xs++ys3) w23 (q+X1 ys3) (Z5.mk e.op e.num 0 [v5] cs) (hl:=(by first|(have h1:=J9 zs;have h2:=At (xs:=e.kids) k;have h3:=Bf zs;(try simp only [Yx]);omega)|((try simp only [Yx]);omega))) (hq:=(by first|(have h1:=J9 zs;have h2:=At (xs:=e.kids) k;have h3:=Bf zs;(try simp only [Yx]);omega)|((try simp only [Yx]);omega)))) ?_)))
  rintro _ _ ⟨w24,rfl,rfl⟩
  refine Z0 ?_
  have hcb:YH e.op=false:=by simp [YH];omega
  exact ZG (r1 [0,0] ⟨(ys3++[Z5.mk e.op e.num 0 [v5] cs]),(((q+X1 ys3):Nat):Int),w24,rfl,rfl,(LW.branch (s0:=x4.sz) (sr:=XB (e.kids.take k)-x4.sz) om (fun h=>by have:=h7 h;omega) (fun h=>by have:=h8 h;omega) hnum hlwhp3.fs hlwhp3.v Zy om hlwhp3.sz (by have:=Fi cs;omega) (by have:=At (xs:=e.kids) k;omega) hlwhp3.op XU)⟩ (eq:=(ro (ls:=[X0 ((xs++ys3)++[(Z5.mk e.op e.num 0 [v5] cs)]) w24,.i ((((q+X1 ys3)+1):Nat):Int)]) (by rw [E2 (s:=Z5.mk e.op e.num 0 [v5] cs) hcb,<-B1,TV]) (rc rz))))
 refine ak (ar (iL (Z6 []) 0 1 fun v12=>?_))
 refine Z0 (Yc (ab 3 (Y5 (fun fz gz m F h=>∃(k:Nat) (asl:LI) (u:Value) (zs:List Z5) (w3:Value),(k<=e.kids.length)/\(asl.length=k)/\(Tp g.decls g.funcs.length q zs)/\(∀a∈asl,0<=a/\a<((q+X1 zs:Nat):Int))/\(Y9 zs<=6*XB (e.kids.take k))/\(Q3 WV zs)/\F=sF [0,3,5,6] fz [(15,ZQ asl u),(16,.i k)]/\h=[Zc gz 1,Zc gz 2,.obj l [X0 (xs++zs) w3,.i (((q+X1 zs):Nat):Int)],.tail u 1,.tail w3 5]/\m=e.kids.length-k) _ _ _ ⟨0,[],v12,[],w,ob,ob,True.intro,(fun a ha=>by cases ha),(by simp [Y9]),True.intro,rfl,rfl,rfl⟩ (wk [1,1,1,0,0] (fr (Yf fl)) (e:=(rc (rc (ro (ls:=[X0 xs w,.i q]) (by simp [X1]) (rc (rc rz))))))) ?_)))
 rintro m F h ⟨k,asl,u,zs,w3,UF,W4,XV,Jm,Zh7,ND,rfl,rfl,rfl⟩
 refine Yk 3 [0] (iw (Ik e.kids) (Y2 ((k:Int)<(e.kids.length:Int)) (fun VW=>?_) (fun VW=>?_)))
 ·refine ak (aq (ab 4 (aD 10 (ZL 5 10 [0,1,2,3,4] [1,0] ?_))))
  obtain ⟨x7,G9⟩:=Zt e.kids k om
  have hzl:=J9 zs
  have hzd:=Bf zs
  have htk:=At (xs:=e.kids) (k+1)
  have hekx7:=D4 hks G9
  have hszx7:=Cf G9
  have htzx7:=Bj G9
  rw [Vl] at hekx7
  rw [Sd om] at hekx7
  refine dx 5 (Zh none (k:Int) 3 (D0 G9)) (Zk 2 4 [6,7] (Z9 8 (dc 8 [2,3] [] [] (ih l x7 us (xs++zs) w3 (q+X1 zs) (by first|assumption|(rw [Yx];assumption)) (by first|assumption|exact EW hu hlwhp1.v|exact Hm hu) (by first|omega|(simp only [Yx,YS,Xv];omega)) (by first|omega|(simp only [Yx,YS,Xv];omega)) ob ob) ?_)))
  rintro _ _ ⟨ys4,v13,w25,rfl,rfl,XG⟩
  have hlwhp6:=XG
  have hldhp6:=XG.dn
  exact Zk 0 1 [9] (de (az (Z1 2 (iL (Z6 [v13]) 1 1 fun v14=>ZO 0 [(137,Z4 [v13])] (ip 5 (Z6 (asl++[v13])) (Z6 asl) (Z6 [v13]) u none 1 (YB _) (YB _) (Wb _) (by simp<;>omega) (by simp [Wa,Z6]) fun v15=>Z0 (az (Z1 1 (ZJ k (Z0 (ZM ⟨k+1,(asl++[v13]),v15,(zs++ys4),w25,ob,ob,(D6.2 ⟨XV,hlwhp6.fs⟩),(by rw [Jq,<-B1];exact EW Jm hlwhp6.v),(by have:=hlwhp6.sz;rw [TN];omega),(GH.2 ⟨ND,hlwhp6.op⟩),rfl,rfl,rfl⟩ (wk [4,4,2,0,1] (fr (ZP k fl)) (e:=(rc (rc (ro (ls:=[X0 ((xs++zs)++ys4) w25,.i ((((q+X1 zs)+X1 ys4):Nat):Int)]) (by rw [Jq,<-B1,TV]) (rc (rc rz)))))))))))))))))
 refine ax 3 (Zu 6 [0,0] (iL (YN []) 0 2 fun v16=>ZO 1 [(146,.agg [.i e.op,.i e.num,.i 0,Z4 asl,W5 []])] (ic [3,4] (Ox l (xs++zs) w3 (q+X1 zs) (Z5.mk e.op e.num 0 asl []) (hl:=(by first|(have h1:=J9 zs;have h2:=At (xs:=e.kids) k;have h3:=Bf zs;(try simp only [Yx]);omega)|((try simp only [Yx]);omega))) (hq:=(by first|(have h1:=J9 zs;have h2:=At (xs:=e.kids) k;have h3:=Bf zs;(try simp only [Yx]);omega)|((try simp only [Yx]);omega)))) ?_)))
 rintro _ _ ⟨w26,rfl,rfl⟩
 refine Z0 ?_
 have hcb:YH e.op=false:=by simp [YH];omega
 exact ZG (r1 [0,0] ⟨(zs++[Z5.mk e.op e.num 0 asl []]),(((q+X1 zs):Nat):Int),w26,rfl,rfl,(LW.node om h9 hnum XV Jm om (by have:=At (xs:=e.kids) k;omega) ND)⟩ (eq:=(ro (ls:=[X0 ((xs++zs)++[(Z5.mk e.op e.num 0 asl [])]) w26,.i ((((q+X1 zs)+1):Nat):Int)]) (by rw [E2 (s:=Z5.mk e.op e.num 0 asl []) hcb,<-B1,<-TV]) (rc rz))))
theorem Z70 (l:Nat) (g:Wd) (e:Z2) (us:LI) (xs:List Z5) (w:Value) (q:Nat) (hd:GD g.decls) (he:eW g.decls g.funcs.length us.length e) (hu:∀a∈us,0<=a/\a<(q:Int)) (hul:us.length+4*e.sz<=100000) (hxl:xs.length+6*e.sz<=100000) (hql:q+6*e.sz<=100000):Zl 224 [.p l 0,Af g,Y8 e,Z4 us] [.obj l [X0 xs w,.i q],.tail w 5] (fun r h=>∃(ys:List Z5) (v:Int) (w2:Value),r=.i v/\h=[.obj l [X0 (xs++ys) w2,.i (((q+X1 ys):Nat):Int)],.tail w2 5]/\LW g.decls g.funcs.length q e ys v):=by
 have key:∀k:Nat,∀(l:Nat) (e2:Z2) (us2:LI) (xs2:List Z5) (w2:Value) (q2:Nat),(eW g.decls g.funcs.length us2.length e2)->(∀a∈us2,0<=a/\a<(q2:Int))->(us2.length+4*e2.sz<=100000)->(xs2.length+6*e2.sz<=100000)->(q2+6*e2.sz<=100000)->(e2.sz<k)->Zl 224 [.p l 0,Af g,Y8 e2,Z4 us2] [.obj l [X0 xs2 w2,.i q2],.tail w2 5] (fun r h=>∃(ys:List Z5) (v:Int) (w2:Value),r=.i v/\h=[.obj l [X0 (xs2++ys) w2,.i (((q2+X1 ys):Nat):Int)],.tail w2 5]/\LW g.decls g.funcs.length q2 e2 ys v):=by
  intro k
  induction k with
  | zero=>intro l e2 us2 xs2 w2 q2 h1 h2 h3 h4 h5 h6;omega
  | succ k ih=>intro l e2 us2 xs2 w2 q2 h1 h2 h3 h4 h5 h6;exact Z71 l g e2 us2 xs2 w2 q2 hd h1 h2 h3 h4 h5 fun l e3 us3 xs3 w3 q3 a1 a2 a3 a4 a5 a6=>ih l e3 us3 xs3 w3 q3 a1 a2 a3 a4 a5 om
 exact key (e.sz+1) l e us xs w q he hu hul hxl hql om
theorem IK (g:Wd) (e:Z2) (us:LI) (q:Nat) (hd:GD g.decls:=by exact ob) (he:eW g.decls g.funcs.length us.length e:=by exact ob) (hu:∀a∈us,0<=a/\a<(q:Int)) (hul:us.length+4*e.sz<=100000:=by exact ob) (hql:q+6*e.sz<=100000:=by exact ob):Zl 174 [Af g,Y8 e,Z4 us,.i q] [] (fun r h=>∃(b:Z7),r=Y3 b/\h=[]/\LB g.decls g.funcs.length q e b):=(OH g e us q (e.sz+1) he hu hul hql om (fun l e2 us2 xs2 w2 q2 h1 h2 h3 h4 h5 _=>Z70 l g e2 us2 xs2 w2 q2 hd h1 h2 h3 h4 h5))
theorem Cz (ds:List Zg) (hd:Wu ds:=by exact ob):Zl 96 [ZW ds] [] (Yq (ZW ds)):=by
 have hdl:=hd.len
 refine ZF 55 Tryz.func96 (ZD (ar (iL (X7 []) 0 3 fun v1=>?_)))
 refine Z0 (Yc (ab 0 (Y5 (fun fz gz m F h=>∃(k:Nat) (v:Value),(k<=ds.length)/\F=sF [0] fz [(3,JX (ds.take k) v),(4,.i k)]/\h=[.tail v 3]/\m=ds.length-k) _ _ _ ⟨0,v1,ob,rfl,rfl,rfl⟩ (wk [0] (fc (x:=JX [] v1) (Zd.slh _ (Yr X7 rfl)) (Yf fl))) ?_)))
 rintro m F h ⟨k,v,Yh,rfl,rfl,rfl⟩
 refine YC 2 (iw (UG ds) (Y2 ((k:Int)<(ds.length:Int)) (fun Za=>?_) (fun Za=>?_)))
 ·obtain ⟨xd,hxd⟩:=Zt ds k om
  have hcl:=hd.cons_at hxd
  refine ak (aq (ab 1 (ar (iL (WZ []) 0 1 fun v2=>?_))))
  refine Z0 (Yc (ab 2 (Y5 (fun fz gz m F h=>∃(j:Nat) (u:Value),(j<=xd.cons.length)/\F=sF [0,3,4] fz [(5,GC (xd.cons.take j) u),(6,.i j)]/\h=[.tail u 1,Zc gz 1]/\m=xd.cons.length-j) _ _ _ ⟨0,v2,ob,rfl,rfl,rfl⟩ (wk [0,0] (fc (x:=GC [] v2) (Zd.slh _ (Yr WZ rfl)) (Yf fl))) ?_)))
  rintro m F h ⟨j,u,UF,rfl,rfl,rfl⟩
  refine YC 3 (Zm (Zh none (k:Int) 3 (VT hxd)) (Z1 2 (iw (T8 xd.cons) (Y2 ((j:Int)<(xd.cons.length:Int)) (fun Zf=>?_) (fun Zf=>?_)))))
  ·refine ak (aq (ab 3 (az (Z1 3 (Zm (Zh none (k:Int) 3 (VT hxd)) (Z1 3 ?_))))))
   obtain ⟨x1,Z3⟩:=Zt xd.cons j om
   have hfl:=hd.fields_at hxd Z3
   refine Zm (Zh none (j:Int) 1 (CX Z3)) (Z1 2 (ic [] (Uh x1.fields) ?_))
   rintro _ _ ⟨v3,rfl,rfl⟩
   exact ZO 1 [(36,DO x1)] (iL (WZ [x1]) 1 1 fun v4=>ZO 0 [(37,J5 [x1])] (ip 2 (WZ (xd.cons.take (j+1))) (WZ (xd.cons.take j)) (WZ [x1]) u none 1 (Ih _) (Ih _) (Z4v _) (by simp<;>omega) (by rw [Vc Z3];simp [WZ]) fun v5=>Z0 (az (Z1 1 (ZJ j (Z0 (ZM ⟨j+1,v5,ob,rfl,rfl,rfl⟩ (wk [0,2] (fr (ZP j fl))))))))))
  exact ax 2 (aE 16 (Zk 13 16 [0,1,2] (dx 3 (Zh none (k:Int) 3 (VT hxd)) (Zk 8 12 [4,5,6,7] (dx 8 (Zh none (k:Int) 3 (VT hxd)) (Yv 3 7 [9,10,11,12] [(51,.agg [.i xd.frm,.i xd.to_,J5 (xd.cons.take j)])] (Z9 13 (dL 13 [] [] (X7 [Zg.mk xd.frm xd.to_ (xd.cons.take j)]) 1 3 fun v6=>Yv 2 2 [] [(52,ZW [Zg.mk xd.frm xd.to_ (xd.cons.take j)])] (Z9 14 (dp 14 2 [] [] (X7 (ds.take (k+1))) (X7 (ds.take k)) (X7 [Zg.mk xd.frm xd.to_ (xd.cons.take j)]) v none 3 (Jr _) (Jr _) (FA _) (by simp<;>omega) (by rw [Vc hxd];simp [X7,Vd (show xd.cons.length<=j by omega)]) fun v7=>Zk 0 1 [15] (de (az (Z1 1 (ZJ k (Z0 (ZM ⟨k+1,v7,ob,rfl,rfl,rfl⟩ (wk [0] (fr (ZP k fl)))))))))))))))))))
 exact ax 0 (ar (Zo (ZZ (JX (ds.take k) v) (Zd.sl _ (Yr X7 (by rw [Vd om]))))))
theorem Z78 (g:Wd) (hg:HC g:=by exact ob):Zl 133 [Af g] [] (fun r h=>∃(n:Zi),r=Yo n/\h=[]/\FO n 181 WV):=by
 have hgl:=hg.gp.len
 have Xw:=hg.gp.decls.ok
 refine ZF 49 Tryz.func133 (ar (iA (Lg g) fun b1=>iA [nl,nl] fun b2=>ie (Zu 2 [1] (Zw [] (Cz g.decls) (iL (YU []) 0 5 fun v1=>Z1 1 (iA [nl,nl] fun b3=>?_))))))
 refine ZH 0 b3 [ZW g.decls,WL [] v1] (ie (Yc (ab 0 (Y5 (fun fz gz m F h=>∃(k:Nat) (rs:List Yb) (u:Value),(k<=g.funcs.length)/\(rs.length=k)/\(∀r∈rs,RN g.decls g.funcs.length r)/\F=sF [1,2,3] fz [(4,.i k)]/\h=[.obj b3 [ZW g.decls,WL rs u],Zc gz 2,Zc gz 3,.tail u 5]/\m=g.funcs.length-k) _ _ _ ⟨0,[],v1,ob,ob,(fun r hr=>by cases hr),rfl,rfl,rfl⟩ (wk [0,1,1,0] (Yf fl)) ?_))))
 rintro m F h ⟨k,rs,u,Yh,Zj,Zy,rfl,rfl,rfl⟩
 refine Yk 3 [2] (iw (D3 g.funcs) (Y2 ((k:Int)<(g.funcs.length:Int)) (fun Za=>?_) (fun Za=>?_)))
 ·refine ak (aq (ab 1 (Zu 3 [2] ?_)))
  obtain ⟨x1,Z3⟩:=Zt g.funcs k om
  have hso:=(hg.gp.sigs _ (ZY Z3)).bd
  have hsi:=hg.gp.sigs _ (ZY Z3)
  have hbo:=hg.body _ (ZY Z3)
  refine Zm (Zh none (k:Int) 5 (FB Z3)) (Z1 1 (iA [nl,.i 0,.i 0,.i 0,nl] fun b4=>?_))
  refine ZH 0 b4 (Gp x1) (ie (Zu 2 [0] (iw (Y6 x1.params) (Z0 (aD 9 (ZL 4 9 [0,1,2,3,5] [3,0] (KV (fun fz gz F h=>∃(b5:Z7) (b6:Nat) (xs1:LI),(xs1.length=x1.params.length/\∀i∈xs1,(0:Int)<=i/\i<(0:Int)+x1.params.length)/\(LB g.decls g.funcs.length x1.params.length x1.body b5)/\F=sF [1,2,3,4,5] fz [(7,.p b6 0)]/\h=[.obj b6 (Xp b5),Zc gz 0,Zc gz 1,Zc gz 2,Zc gz 3,Zc gz 4]) ?_ ?_)))))))
  ·refine VI 4 7 ?_ ?_
   ·refine dc 4 [] [0,3] [b4,b1] (IL 0 x1.params.length) ?_
    rintro _ _ ⟨xs1,rfl,rfl,ZT⟩
    have hnx:=ZT
    refine VI 6 7 ?_ ?_
    ·refine dc 6 [] [] [] (IK g x1.body xs1 x1.params.length (hd:=hg.gp.decls) (he:=(by rw [hnx.1];exact hbo.1)) (hu:=(fun a ha=>by have:=hnx.2 a ha;omega))) ?_
     rintro _ _ ⟨b5,rfl,rfl,Yd⟩
     have hlb:=Yd
     exact Z9 7 (dA 7 [] [] [nl,.i 0] fun b6=>Z9 8 (YM 8 0 [] [] b6 (Xp b5) (de (ZU ⟨_,b6,_,(by assumption),(by assumption),rfl,rfl⟩ (ZE 6 fl)))))
    refine dA 7 [0,3] [b4,b1] [nl,.i 0] fun b7=>Z9 6 (dc 6 [] [] [] (IK g x1.body xs1 x1.params.length (hd:=hg.gp.decls) (he:=(by rw [hnx.1];exact hbo.1)) (hu:=(fun a ha=>by have:=hnx.2 a ha;omega))) ?_)
    rintro _ _ ⟨b8,rfl,rfl,YE⟩
    have hlb:=YE
    exact Z9 8 (YM 8 0 [] [] b7 (Xp b8) (de (ZU ⟨_,b7,_,(by assumption),(by assumption),rfl,rfl⟩ (ZE 6 fl))))
   refine dA 7 [0,3] [b4,b1] [nl,.i 0] fun b9=>Z9 4 (dc 4 [] [1,4] [b4,b1] (IL 0 x1.params.length) ?_)
   rintro _ _ ⟨xs2,rfl,rfl,YI⟩
   have hnx:=YI
   refine Z9 6 (dc 6 [] [] [] (IK g x1.body xs2 x1.params.length (hd:=hg.gp.decls) (he:=(by rw [hnx.1];exact hbo.1)) (hu:=(fun a ha=>by have:=hnx.2 a ha;omega))) ?_)
   rintro _ _ ⟨b10,rfl,rfl,X9⟩
   have hlb:=X9
   exact Z9 8 (YM 8 0 [] [] b9 (Xp b10) (de (ZU ⟨_,b9,_,(by assumption),(by assumption),rfl,rfl⟩ (ZE 6 fl))))
  rintro F h ⟨b5,b6,xs1,ZT,Yd,rfl,rfl⟩
  have hnx:=ZT
  have hlb:=Yd
  refine aE 14 (ZL 7 14 [0,1,2,3,6,7,8] [2,1,1,0] (VI 4 5 ?_ ?_))
  ·refine dc 4 [] [0,1,2] [b6,b4,b3] (Uh x1.params) ?_
   rintro _ _ ⟨v2,rfl,rfl⟩
   exact Z9 5 (dL 5 [0,1,2] [b6,b4,b3] (Z6 []) 0 1 fun v3=>Yv 4 5 [9] [(44,.agg [Z4 x1.params,Z4 [],.i x1.result,WE b5.steps,.i b5.result])] (Z9 10 (dL 10 [2] [b3] (YU [Yb.mk x1.params [] x1.result (Z7.mk b5.steps b5.result)]) 1 5 fun v4=>Yv 3 3 [] [(45,KC [Yb.mk x1.params [] x1.result (Z7.mk b5.steps b5.result)])] (Z9 11 (dp 11 8 [] [] (YU (rs++[Yb.mk x1.params [] x1.result (Z7.mk b5.steps b5.result)])) (YU rs) (YU [Yb.mk x1.params [] x1.result (Z7.mk b5.steps b5.result)]) u none 5 (T9 _) (T9 _) (Bi _) (by simp<;>omega) (by simp [Cc,YU]) fun v5=>Zk 1 2 [12] (Z9 13 (YM 13 6 [] [] b3 [ZW g.decls,WL (rs++[Yb.mk x1.params [] x1.result (Z7.mk b5.steps b5.result)]) v5] (de (az (Z1 1 (ZJ k (Z0 (ZM ⟨k+1,(rs++[Yb.mk x1.params [] x1.result (Z7.mk b5.steps b5.result)]),v5,ob,ob,(XF Zy (RN.of hsi hlb hbo.2)),rfl,rfl,rfl⟩ (wk [0,6,6,0] (ZP k fl)))))))))))))))
  refine dL 5 [0,1,1,2] [b6,b4,b4,b3] (Z6 []) 0 1 fun v6=>Z9 4 (dc 4 [] [0,1,2] [b6,b4,b3] (Uh x1.params) ?_)
  rintro _ _ ⟨v7,rfl,rfl⟩
  exact Yv 4 5 [9] [(44,.agg [Z4 x1.params,Z4 [],.i x1.result,WE b5.steps,.i b5.result])] (Z9 10 (dL 10 [2] [b3] (YU [Yb.mk x1.params [] x1.result (Z7.mk b5.steps b5.result)]) 1 5 fun v8=>Yv 3 3 [] [(45,KC [Yb.mk x1.params [] x1.result (Z7.mk b5.steps b5.result)])] (Z9 11 (dp 11 8 [] [] (YU (rs++[Yb.mk x1.params [] x1.result (Z7.mk b5.steps b5.result)])) (YU rs) (YU [Yb.mk x1.params [] x1.result (Z7.mk b5.steps b5.result)]) u none 5 (T9 _) (T9 _) (Bi _) (by simp<;>omega) (by simp [Cc,YU]) fun v9=>Zk 1 2 [12] (Z9 13 (YM 13 6 [] [] b3 [ZW g.decls,WL (rs++[Yb.mk x1.params [] x1.result (Z7.mk b5.steps b5.result)]) v9] (de (az (Z1 1 (ZJ k (Z0 (ZM ⟨k+1,(rs++[Yb.mk x1.params [] x1.result (Z7.mk b5.steps b5.result)]),v9,ob,ob,(XF Zy (RN.of hsi hlb hbo.2)),rfl,rfl,rfl⟩ (wk [0,6,6,0] (ZP k fl))))))))))))))
 exact ax 0 (Zu 1 [0] (ZH 1 b2 [ZW g.decls,WL rs u] (ie (ZG (r3 [] [.agg [ZW g.decls,WL rs u]] [0] [(b2,b2)] ⟨(Zi.mk g.decls rs),rfl,rfl,(RN.all hg.gp.decls (by show 1<=rs.length/\rs.length<=4;omega) (by show ∀r∈rs,RN g.decls rs.length r;rw [show rs.length=g.funcs.length by omega];exact Zy) om)⟩ (Zd.agg (.cons (lr _) (.cons (Zd.forget _ _) .nil))))))))
theorem SM (n:Zi) (hz:Vm n:=by exact ob):Zl 83 [Yo n] [] (Yq (.b (X4 n))):=by
 have hzl:=hz.len
 refine ZF 35 Tryz.func83 (ar (iA (YQ n) fun b1=>Z0 (Yk 1 [0] (Zw [] (Zf1 n (hz:=hz.decls) (hr:=(fun r hr=>⟨hz.params r hr,hz.lent r hr⟩))) (YD (!VX n) (p:=¬(VX n=true)) (Yj Iff.rfl) (fun Za=>?_) (fun Za=>?_))))))
 ·exact ar (Zo (ZZ (.b false) (lb (by first|rfl|omega|grind [X4]))))
 have hok:=Lv hz (by simpa using Za)
 refine ak (Yc (ab 0 (Y5 (fun fz gz m F h=>∃(k:Nat),(k<=n.routines.length)/\(Ka n (n.routines.drop k)=Ka n n.routines)/\F=sF [1] fz [(3,.i k)]/\h=gz/\m=n.routines.length-k) _ _ _ ⟨0,ob,ob,rfl,rfl,rfl⟩ (wk [0] (Yf fl)) ?_)))
 rintro m F h ⟨k,Yh,Zj,rfl,rfl,rfl⟩
 refine Yk 3 [0] (iw (Up n.routines) (Y2 ((k:Int)<(n.routines.length:Int)) (fun Zf=>?_) (fun Zf=>?_)))
 ·refine ak (aq (ab 1 (Zu 3 [0] ?_)))
  obtain ⟨x1,Z3⟩:=Zt n.routines k om
  have ZI:=hz.body _ (ZY Z3)
  have hps:=hok.params_at Z3
  refine Zm (Zh none (k:Int) 5 (Wp Z3)) (Z1 1 (iA [nl,nl,.i 0,nl,.i 0] fun b2=>ZH 0 b2 (K4 x1) (ie (aD 15 (ZL 13 15 [0,1] [0] (Z9 2 (Yt 2 [] [] [] (Zew x1.body) (An [1,3] [(34,.b ((decide ((TU x1.body)<0))||((Xm n x1.params x1.body) != x1.result)))] (fun gz=>gz) ?_ ?_))))))))
  ·refine Zk 10 12 [3,4] (db (b:=(decide ((TU x1.body)<0))) 24 (fun Zb=>?_) (fun Zb=>?_))
   ·exact Zk 0 10 [5,6,7,8,9,10,11,12,13,14] (de (wk [0,0] (Zv true Zb fl)))
   exact ZL 3 10 [5,6,7,8,9,11,12] [1,0,0,0] (Z9 10 (Yt 10 [] [0] [b2] (Sx n x1.params x1.body ob ob) (Zk 0 2 [13,14] (de (wk [0,0] (Zv ((Xm n x1.params x1.body) != x1.result) Zb fl))))))
  refine ac ((decide ((TU x1.body)<0))||((Xm n x1.params x1.body) != x1.result)) (p:=((TU x1.body)<0)∨((Xm n x1.params x1.body)≠x1.result)) (Yi dq Ym) (fun ZB=>?_) (fun ZB=>?_)
  ·refine ZD ?_
   rw [Ya Z3] at Zj
   exact ZG (ZZ (.b false) (lb (by clear Z3;first|rfl|omega|grind [Ka,X4])))
  refine ak (az (Z1 1 (ZJ k (Z0 ?_))))
  have hdr:=Ya Z3
  exact ZM ⟨k+1,ob,(by rw [hdr] at Zj;clear hdr Z3;grind [Ka]),rfl,rfl,rfl⟩ (wk [1] (ZP k fl))
 refine ax 0 (ZD ?_)
 try rw [Xn (xs:=n.routines) (k:=k) om] at Zj
 exact ZG (ZZ (.b true) (lb (by first|rfl|omega|grind [Ka,X4])))
end Go.Abs
