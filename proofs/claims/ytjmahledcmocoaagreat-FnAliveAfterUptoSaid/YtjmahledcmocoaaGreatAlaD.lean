/-
  A part of the proof of FnAliveAfterUptoSaid (see the last file): no condition.
-/
import Derived.Test.YtjmahledcmocoaaGreatAlaC
set_option linter.all false
set_option linter.unusedVariables false
set_option linter.unusedSimpArgs false
set_option linter.unusedSectionVars false
set_option maxRecDepth 10000
set_option maxHeartbeats 4000000
namespace Go.Abs
open Go.Proofs
theorem Z1x (b:Nat) (ga:Hd) (gb:Hd) (gc:Hd) (n:Zk) (L:V0) (ln:LI) (am:List Xm) (xs:List Z5) (q:Int) (vs:LI) (hn:X2 n:=by exact ob) (hk:X0 n.decls L q:=by exact ob) (har:WP n.decls L am:=by exact ob) (ht:XB n xs L.vars=some vs:=by exact ob) (hnn:∀t∈L.vars,0<=t) (hb:L.vars.length+am.length+4*Y6 xs<=900000000:=by exact ob) (hq:0<=q/\q+4*Y6 xs<=999999980:=by exact ob) (hr:Uz xs:=by exact ob) (ih:∀(s2:Z5) (c:Nat) (ra:Hd) (rb:Hd) (rc:Hd) (M:V0) (a2:List Xm) (p:Int),(s2.sz<=Y6 xs)->(X0 n.decls M p)->(WP n.decls M a2)->(0<=Yb n M.vars s2)->(∀t∈M.vars,0<=t)->(M.vars.length+a2.length+4*s2.sz<=900000000)->(0<=p/\p+4*s2.sz<=999999980)->(s2.rng)->Zl 154 [.p c 0,YI s2] [.obj c [ZU n.decls,YT n,Z4 ln,Xa a2,.h ra,.h rb,.h rc],rV ra M.vars,rV rb M.own,rV rc M.tok] (fun r h=>(∃(wa:Hd) (wb:Hd) (wc:Hd) (M':V0),r=.b true/\h=[.obj c [ZU n.decls,YT n,Z4 ln,Xa a2,.h wa,.h wb,.h wc],rV wa M'.vars,rV wb M'.own,rV wc M'.tok]/\Vo n ln M s2=some M')∨(r=.b false/\h=[]/\Vo n ln M s2=none))):Zl 121 [.p b 0,Wz xs] [.obj b [ZU n.decls,YT n,Z4 ln,Xa am,.h ga,.h gb,.h gc],rV ga L.vars,rV gb L.own,rV gc L.tok] (fun r h=>(∃(wa:Hd) (wb:Hd) (wc:Hd) (L':V0),r=.b true/\h=[.obj b [ZU n.decls,YT n,Z4 ln,Xa am,.h wa,.h wb,.h wc],rV wa L'.vars,rV wb L'.own,rV wc L'.tok]/\XY n ln L xs=some L')∨(r=.b false/\h=[]/\XY n ln L xs=none)):=by
 have hxl:=J3 xs
 refine ZG 18 Tryz.func121 (ZE (YF 1 (iw (VD xs) (Z0 (ab 0 (Y2 (fun fz gz m F h=>∃(k:Nat) (q2:Int) (L2:V0) (ka:Hd) (kb:Hd) (kc:Hd),(k<=xs.length)/\(X0 n.decls L2 q2)/\(0<=q2/\q2+4*Y6 (xs.drop k)<=999999980)/\(L2.vars.length+am.length+4*Y6 (xs.drop k)<=900000000)/\(XB n (xs.drop k) L2.vars=some vs)/\(XY n ln L2 (xs.drop k)=XY n ln L xs)/\(WP n.decls L2 am)/\(∀t∈L2.vars,0<=t)/\F=sF [0,7,8] fz [(9,.i k)]/\h=[.obj b [ZU n.decls,YT n,Z4 ln,Xa am,.h ka,.h kb,.h kc],rV ka L2.vars,rV kb L2.own,rV kc L2.tok]/\m=xs.length-k) _ _ _ ⟨0,q,L,ga,gb,gc,ob,hk,(by rw [K9];omega),(by rw [K9];omega),ht,rfl,har,hnn,rfl,rfl,rfl⟩ (ZF 4 (Ya fl)) ?_))))))
 rintro m F h ⟨k,q2,L2,ka,kb,kc,Yf,Zh,Zv,Ys,XS,QK,HG,N8,rfl,rfl,rfl⟩
 refine ZE (aq (XZ ((k:Int)<(xs.length:Int)) (fun Za=>?_) (fun Za=>?_)))
 ·obtain ⟨s1,hs1⟩:=Zs xs k om
  have hdr:=Y7 hs1
  have hz:Y6 (xs.drop k)=s1.sz+Y6 (xs.drop (k+1)):=by rw [hdr,Y6]
  have Xi:=Si hs1
  have hsr:=M1 hr hs1
  rw [hdr] at XS QK
  obtain ⟨g1,g2⟩:=Ey XS
  refine ak (aq (ab 1 (ar (Zm (Zi none (k:Int) 5 (WL hs1)) (Z1 1 (iA [.i 0,.i 0,.i 0,nl,nl] fun b1=>ZI 0 b1 (Xz s1) (ie (Zw 2 [0] (ic [1,1,1,1] (ih s1 b ka kb kc L2 am q2 ob Zh HG g1 N8 om om hsr) ?_)))))))))
  rintro _ _ (⟨wa1,wb1,wc1,M'1,rfl,rfl,ZW⟩|⟨rfl,rfl,Yh⟩)
  ·have hP:=ZW
   have kx:=Dp hn Zh Zv.1 g1 hP
   exact Z0 (Wb (ak (az (ZJ k (Z0 (ZL ⟨k+1,(q2+4*s1.sz),M'1,wa1,wb1,wc1,ob,kx.1,om,(by rw [kx.2];have:=GH n L2.vars s1;omega),(by rw [kx.2];exact g2),(by rw [<-QK,XY,hP];rfl),(Ss hn Zh Zv.1 g1 hP HG),(by rw [kx.2];exact Zd7 N8 g1),rfl,rfl,rfl⟩ (ZF 4 (ZO k fl))))))))
  have hP:=Yh
  exact Z0 (XO (ar (Zr (r1 [] (.inr ⟨rfl,rfl,(by rw [<-QK,XY,hP];rfl)⟩)))))
 exact ax 0 (ar (Zr (r1 [0,0,0,0] (.inl ⟨ka,kb,kc,L2,rfl,rfl,(by rw [<-QK,Xh om];rfl)⟩))))
theorem Ng (am:List Xm) (hl:am.length<=1000000000:=by exact ob):Zl 287 [Xa am] [] (fun r h=>∃(v:Value),r=Lc am v/\h=[.tail v 4]):=by
 refine ZG 8 Tryz.func287 (ZE (YF 1 (iN (WK am) (fun hz1=>?_) ?_)))
 ·have hz1:=Z44 hz1
  exact ie (XO (ZE (QG 4 (ZD (r2 [0] [nl] ⟨(.slice none 0 0),rfl,rfl⟩ (Zd.slh _ (by first|rfl|(subst_vars;rfl))))))))
 exact ie (Wb (ak (ar (iL (WK []) 0 4 fun v1=>Z1 1 (ip 0 (WK am) (WK []) (WK am) v1 none 4 (CE _) (CE _) (HS _) (by simp<;>omega) (by simp [WK]) fun v2=>Zr (r1 [0] ⟨v2,rfl,rfl⟩))))))
theorem MR (am:List Xm) (a:Xm) (hl:am.length<=900000000:=by exact ob):Zl 260 [Xa am,.agg [.i a.mat,.i a.fst,Z4 a.fds,.b a.chg]] [] (Yo (Xa (am++[a]))):=by
 refine ZG 10 Tryz.func260 (ar (iA [.i a.mat,.i a.fst,Z4 a.fds,.b a.chg] fun b1=>?_))
 refine Z0 (aD 6 (ZK 4 6 [0,2] [0] (KJ (fun fz gz F h=>∃(v3:Value),F=sF [] fz [(4,Lc (am++[a]) v3)]/\h=gz) ?_ ?_)))
 ·refine VC 1 3 ?_ ?_
  ·refine dc 1 [] [0] [b1] (Ng am) ?_
   rintro _ _ ⟨v1,rfl,rfl⟩
   exact Z9 3 (dL 3 [] [] (WK [a]) 1 4 fun v2=>Yt 2 2 [] [(8,Xa [a])] (Z9 4 (dp 4 1 [] [] (WK (am++[a])) (WK am) (WK [a]) v1 none 4 (CE _) (CE _) (HS _) (by simp<;>omega) (by simp [Ny,WK]) fun v3=>Zj 0 1 [5] (de (ZQ ⟨v3,rfl,rfl⟩ (wk [2] fl))))))
  refine dL 3 [] [] (WK [a]) 1 4 fun v4=>Z9 1 (dc 1 [] [] [] (Ng am) ?_)
  rintro _ _ ⟨v5,rfl,rfl⟩
  exact Yt 2 2 [] [(8,Xa [a])] (Z9 4 (dp 4 0 [] [] (WK (am++[a])) (WK am) (WK [a]) v5 none 4 (CE _) (CE _) (HS _) (by simp<;>omega) (by simp [Ny,WK]) fun v6=>Zj 0 1 [5] (de (ZQ ⟨v6,rfl,rfl⟩ (wk [2] fl)))))
 rintro F h ⟨v3,rfl,rfl⟩
 exact ZD (Y3 (Lc (am++[a]) v3) (Zd.forget _ _))
theorem Z1q (b:Nat) (ga:Hd) (gb:Hd) (gc:Hd) (n:Zk) (L:V0) (ln:LI) (am:List Xm) (s:Z5) (q:Int) (hn:X2 n:=by exact ob) (hty:KA n:=by exact ob) (hlt:Cr n:=by exact ob) (hk:X0 n.decls L q:=by exact ob) (har:WP n.decls L am:=by exact ob) (hln:ln.length<=4294967296:=by exact ob) (hf:A8 n L.vars s:=by exact ob) (hop:s.op=7∨s.op=8:=by exact ob) (hnn:∀t∈L.vars,0<=t) (hb:L.vars.length+am.length+4*s.sz<=900000000:=by exact ob) (hq:0<=q/\q+4*s.sz<=999999980:=by exact ob) (hr:s.rng:=by exact ob) (ih:∀(ys:List Z5) (c:Nat) (ra:Hd) (rb:Hd) (rc:Hd) (M:V0) (a2:List Xm) (p:Int) (vs:LI),(Y6 ys<s.sz)->(X0 n.decls M p)->(WP n.decls M a2)->(XB n ys M.vars=some vs)->(∀t∈M.vars,0<=t)->(M.vars.length+a2.length+4*Y6 ys<=900000000)->(0<=p/\p+4*Y6 ys<=999999980)->(Uz ys)->Zl 121 [.p c 0,Wz ys] [.obj c [ZU n.decls,YT n,Z4 ln,Xa a2,.h ra,.h rb,.h rc],rV ra M.vars,rV rb M.own,rV rc M.tok] (fun r h=>(∃(wa:Hd) (wb:Hd) (wc:Hd) (M':V0),r=.b true/\h=[.obj c [ZU n.decls,YT n,Z4 ln,Xa a2,.h wa,.h wb,.h wc],rV wa M'.vars,rV wb M'.own,rV wc M'.tok]/\XY n ln M ys=some M')∨(r=.b false/\h=[]/\XY n ln M ys=none))):Zl 201 [.p b 0,YI s] [.obj b [ZU n.decls,YT n,Z4 ln,Xa am,.h ga,.h gb,.h gc],rV ga L.vars,rV gb L.own,rV gc L.tok] (fun r h=>(∃(wa:Hd) (wb:Hd) (wc:Hd) (L':V0),r=.b true/\h=[.obj b [ZU n.decls,YT n,Z4 ln,Xa am,.h wa,.h wb,.h wc],rV wa L'.vars,rV wb L'.own,rV wc L'.tok]/\Jg n ln L s=some L')∨(r=.b false/\h=[]/\Jg n ln L s=none)):=by
 have hlk:=hk.len
 obtain ⟨e1,e2,e3,e4,e5⟩:=hk.len
 have Xt:=hn.decls
 have hkz:=Tz s
 have haz:=Qm s
 obtain ⟨hk1,hk2,hk3⟩:=hf.kids hop
 obtain ⟨kd,hkd⟩:=Zs s.kids 0 om
 obtain ⟨x,hxa⟩:=hf.one om
 have ha:s.args[0]? = some x:=by rw [hxa];rfl
 have hx:=hf.args x (by rw [hxa];simp)
 have hgx:=Jn ha
 have hal0:=(Xc.1 ha).1
 have hr2:=hr
 rw [s.rng_eq] at hr2
 refine ZG 156 Tryz.func201 (ar (iA (Xz s) fun b1=>Z0 (X1 (Xp [0,3] [(24,.b ((s.op==8)&&(!Xr L ln x)))] (fun gz=>[Zc gz 1,Zc gz 2,Zc gz 3,Zc gz 4,Zc gz 0]) ?_ ?_))))
 ·refine ZP 4 [0] (ib (b:=(s.op==8)) 16 (fun Zb=>?_) (fun Zb=>?_))
  ·have ZW:s.op=8:=(Zq).1 Zb
   exact ZP 3 [0] (Zm (Zi none 0 1 (ZZ ha)) (Z1 1 (Zz [1,1,1,1] (EU b ga gb gc n L ln am x ob ob ob ob ob hk.down ob) (Z0 (ZF 5 (Zu (!Xr L ln x) Zb fl))))))
  have Yh:¬(s.op=8):=Yd Zq Zb
  exact Z0 (wk [1,1,1,1,0] (Zu false Zb fl))
 refine ac ((s.op==8)&&(!Xr L ln x)) (p:=(s.op=8)/\(¬(Xr L ln x=true))) (YG Zq (Yr Iff.rfl)) (fun Za=>?_) (fun Za=>?_)
 ·exact ar (Zr (r1 [] (.inr ⟨rfl,rfl,(Z2f Za.1 (by rw [hgx];exact Za.2))⟩)))
 have hgo:=Nf (n:=n) (ln:=ln) (L:=L) (s:=s) (by rw [hgx];exact Za) hkd
 refine ak (Zw 2 [4] (iw (Uf s.kids) (iMN s.kids.length s.kids.length fun v1=>?_)))
 refine Z0 (X1 (VI [5] (XP (fun fz gz F h=>F=sF [0,3] fz [(5,QW (Xn n.decls s.op s.num))]/\h=[Zc gz 1,Zc gz 2,Zc gz 3,Zc gz 4,Zc gz 5]) ?_ ?_)))
 ·refine ac (s.op==8) Zq (fun Ze=>?_) (fun Ze=>?_)
  ·exact aE 8 (ZK 2 8 [0,1,2,3,4,5] [1,5] (Z9 6 (Yp 6 [] [] [] (OG _ s.num) (Zj 0 1 [7] (de (ZQ ⟨rfl,rfl⟩ (wk [1,1,1,1,1] (fc (x:=QW ((ZY n.decls s.num).map (ZV n.decls))) (Zd.sl _ (Yj Wm (by rw [Xn,Z8 om]))) fl))))))))
  exact ak (ZQ ⟨rfl,rfl⟩ (wk [1,1,1,1,1] (fc (x:=Bi (List.replicate s.kids.length []) v1) (Zd.sl _ (Yj Wm (by rw [show s.kids.length=2 by rw [hk1,Xn,Zf om];rfl,Xn,Zf om];rfl))) fl)))
 rintro F h ⟨rfl,rfl⟩
 refine Zw 4 [0] (Zm (K7 1 ga L.vars) (Z0 (ZE (Yi 2 [4] (iw (Uf s.kids) (Z0 (ab 0 (Y2 (fun fz gz m F h=>(∃(k:Nat),(k=0)/\F=sF [0,3,5,6,7,45,46] fz [(47,.i k)]/\h=gz/\m=s.kids.length-k)∨(∃(k:Nat) (c0:Nat) (ua:Hd) (ub:Hd) (uc:Hd) (O:V0) (aO:List Xm),(1<=k/\k<=s.kids.length)/\(Vj n ln (V5 n.decls L s.op s.num s.args 0) L.vars.length kd=some (O.take L.vars.length))/\(L.vars.length<=O.own.length/\O.own.length<=1000000000/\L.vars.length<=O.tok.length/\O.tok.length<=1000000000)/\(Km n ln L s.op s.num s.args (O.take L.vars.length) (s.kids.drop k) k=Km n ln L s.op s.num s.args (O.take L.vars.length) (s.kids.drop 1) 1)/\F=sF [0,3,5,6,45,46] fz [(7,.p c0 0),(47,.i k)]/\h=[.obj c0 [ZU n.decls,YT n,Z4 ln,Xa aO,.h ua,.h ub,.h uc],rV ua O.vars,rV ub O.own,rV uc O.tok,Zc gz 0,Zc gz 1,Zc gz 2,Zc gz 3,Zc gz 4]/\m=s.kids.length-k)) _ _ _ (.inl ⟨0,rfl,rfl,rfl,rfl⟩) (ZF 5 (Ya fl)) ?_))))))))
 rintro m F h (⟨k,Yf,rfl,rfl,rfl⟩|⟨k,c0,ua,ub,uc,O,aO,d0_0,d0_1,d0_2,d0_3,rfl,rfl,rfl⟩)
 ·refine ZE (aq (XZ ((k:Int)<(s.kids.length:Int)) (fun ZC=>?_) (fun ZC=>?_)))
  ·obtain ⟨ke,hke⟩:=Zs s.kids k om
   obtain ⟨mk,hmk⟩:=Zs (Xn n.decls s.op s.num) k om
   have hK:=C7 hk hq.1 hf hop hmk
   have hmk3:=ES Xt hmk
   have hks:=Tm hke
   have hbt:=hk3 k ke mk hke hmk
   obtain ⟨vs,rt,hvs,hres,hrt⟩:=EX hbt
   have hri:=KH hres
   have hsrr:Uz ke.steps:=by
    have h:=EY hr2.2 hke
    rwa [Z7.rng_eq] at h
   have hbz:=ke.sz_eq
   have hak:=MO hn har hlk hop (by rw [hgx];exact hx) hmk
   have hsl:=GU hvs
   rw [Yq] at hsl
   have hkl:=MN (L:=L) (am:=am) (s:=s) (m:=mk)
   refine ak (aq (ab 1 (Y5 1 (Zm (Zi none (k:Int) 2 (UV hke)) (Z1 1 (iA [nl,.i 0] fun b2=>Z1 1 (ZI 0 b2 (Xk ke) (ie (Y5 1 (ic [1,1,1,1] (N0 b ga gb gc n L ln am) ?_))))))))))
   rintro _ _ ⟨c1,wa1,wb1,wc1,rfl,rfl⟩
   refine Z0 (X1 (VI [9] (XP (fun fz gz F h=>F=sF [0,3,5,6,7,8,9,10,45,46,47] fz []/\h=[.obj c1 [ZU n.decls,YT n,Z4 ln,Xa (Tu L am s mk),.h wa1,.h wb1,.h wc1],Zc gz 1,Zc gz 2,Zc gz 3,Zc gz 4,Zc gz 5,Zc gz 6,Zc gz 7,Zc gz 8,Zc gz 9]) ?_ ?_)))
   ·refine ac (s.op==8) Zq (fun Ye=>?_) (fun Ye=>?_)
    ·exact aE 19 (ZK 12 19 [0,1,2,3,4,5,6] [4,9] (dx 7 (Zi none 0 1 (ZZ ha)) (Zj 7 11 [8,9,10,11] (dx 12 (Zi none (k:Int) 1 (B4 hmk)) (Zj 4 6 [13,14] (Z9 15 (Yp 15 [] [] [] (MR am (Xm.mk x (L.vars.length:Int) mk false)) (Zj 1 3 [16,17] (Z9 18 (YJ 18 0 [] [] c1 [ZU n.decls,YT n,Z4 ln,Xa (am++[(Xm.mk x (L.vars.length:Int) mk false)]),.h wa1,.h wb1,.h wc1] (de (ZQ ⟨rfl,rfl⟩ (ZF 10 fl (e:=(ro (ls:=[ZU n.decls,YT n,Z4 ln,Xa (am++[(Xm.mk x (L.vars.length:Int) mk false)]),.h wa1,.h wb1,.h wc1]) (by rw [Tu,Zf ‹s.op=8›,hgx]) (rc (rc (rc (rc (rc (rc (rc (rc (rc rz))))))))))))))))))))))))
    exact ak (ZQ ⟨rfl,rfl⟩ (ZF 10 fl (e:=(ro (ls:=[ZU n.decls,YT n,Z4 ln,Xa am,.h wa1,.h wb1,.h wc1]) (by rw [Tu,Z8 ‹¬s.op=8›]) (rc (rc (rc (rc (rc (rc (rc (rc (rc rz)))))))))))))
   rintro F h ⟨rfl,rfl⟩
   refine YF 2 (Zm (Zi none (k:Int) 1 (B4 hmk)) (Z1 1 (iw (Y8 mk) (Z0 (ab 2 (Y2 (fun fz gz m F h=>∃(j:Nat) (L3:V0) (ka:Hd) (kb:Hd) (kc:Hd),(j<=mk.length)/\(Wi L3)/\(L3.vars.length=L.vars.length+j)/\(KO L3 (gI s.args 0) (mk.drop j)=V5 n.decls L s.op s.num s.args k)/\F=sF [0,3,5,6,7,9,10,45,46,47,78,79] fz [(80,.i j)]/\h=[.obj c1 [ZU n.decls,YT n,Z4 ln,Xa (Tu L am s mk),.h ka,.h kb,.h kc],Zc gz 4,Zc gz 5,Zc gz 6,Zc gz 7,Zc gz 8,Zc gz 9,rV ka L3.vars,rV kb L3.own,rV kc L3.tok]/\m=mk.length-j) _ _ _ ⟨0,(J5 n L s k),wa1,wb1,wc1,ob,(Sr hlk),(by rw [Bu];rfl),(by rw [K9];exact Sq hop hmk),rfl,rfl,rfl⟩ (wk [0,3,3,3,3,3,3,0,0,0] (Ya fl) (e:=(rc (rc (rc (rc (rc (rc (rc (rv (xs:=L.vars) (by first|rw [Bu]|rw [Dn]|rw [Do]) (rv (xs:=L.own) (by first|rw [Bu]|rw [Dn]|rw [Do]) (rv (xs:=L.tok) (by first|rw [Bu]|rw [Dn]|rw [Do]) rz)))))))))))) ?_))))))
   rintro m F h ⟨j,L3,ka,kb,kc,Uo,W2,XT,Jf,rfl,rfl,rfl⟩
   refine ZE (aq (XZ ((j:Int)<(mk.length:Int)) (fun Xg=>?_) (fun Xg=>?_)))
   ·obtain ⟨xm,hxm⟩:=Zs mk j om
    refine ak (aq (ab 3 (ar (Zm (Zi none (j:Int) 1 (ZZ hxm)) (Z0 (az (Z1 2 (ic [0,6,6,6] (Cu c1 ka kb kc n L3 ln (Tu L am s mk) xm 0 (hlk:=W2)) ?_))))))))
    rintro _ _ ⟨wa2,wb2,wc2,rfl⟩
    exact ie (az (ZJ j (Z0 (ZL ⟨j+1,(L3.grow xm 0 (gI s.args 0)),wa2,wb2,wc2,ob,(Wi.grow W2),(by simp [Zp.grow];omega),(by rw [Y7 hxm,KO] at Jf;exact Jf),rfl,rfl,rfl⟩ (wk [0,3,3,3,3,3,3,0,0,0] (ZO j fl) (e:=(rc (rc (rc (rc (rc (rc (rc (rv (xs:=(L3.grow xm 0 (-1)).vars) ob (rv (xs:=(L3.grow xm 0 (-1)).own) ob (rv (xs:=(L3.grow xm 0 (-1)).tok) ob rz))))))))))))))))
   have hE:L3=V5 n.decls L s.op s.num s.args k:=by rw [<-Jf,Xh om];rfl
   have hL3v:L3.vars=L.vars++mk:=by rw [hE];exact hK.2
   have hL3l:L3.vars.length=L.vars.length+mk.length:=by rw [hL3v,Yq]
   refine ax 2 (Yi 3 [5] (ic [0,6,6,6] (ih ke.steps c1 ka kb kc L3 (Tu L am s mk) q vs ob (by rw [hE];exact hK.1) (by rw [hE];exact hak) (by rw [hL3v];exact hvs) (by rw [hL3v];exact Ec hnn (MP hty hmk)) om om hsrr) ?_))
   rintro _ _ (⟨wa3,wb3,wc3,M'1,rfl,rfl,YE⟩|⟨rfl,rfl,YK⟩)
   ·have hP:=YE
    have kx:=GV hn (by rw [hE];exact hK.1) hq.1 (by rw [hE];exact hak) (by rw [hL3v];exact hvs) hP
    have kl:=kx.1.len
    have hm1:(Wd M'1 ke.result).own.length=vs.length:=by rw [Fo.1,kl.own,kx.2.1]
    have hm2:(Wd M'1 ke.result).tok.length=vs.length:=by rw [Fo.2.1,kl.tok,kx.2.1]
    refine ZP 5 [8] (ic [0,0,0,0] (N1 c1 wa3 wb3 wc3 n M'1 ln (Tu L am s mk) ke L.vars.length (hlk:=kl) (hlb:=(by rw [kx.2.1];omega)) (hm:=(by rw [kx.2.1];omega)) (hr:=(by rw [kx.2.1];omega)) (hq:=(fun y hy=>by have h1:=kx.1.nn y hy;have h2:=kx.1.bd y hy;omega))) ?_)
    rintro _ _ (⟨rfl,rfl,X9⟩|⟨rfl,rfl,XK⟩)
    ·have hB:=X9
     rw [<-GW (f:=Ur L.vars.length ke.result) hP,hE,<-JG] at hB
     exact Z0 (Wb (ak (ab 4 (Y5 1 (iQ true (Z0 (XO (UZ (az (ZJ k (Z0 (ZL (.inr ⟨k+1,c1,wa3,wb3,wc3,(Wd M'1 ke.result),(Tu L am s mk),om,(by subst Yf;have e:=Q2 (hkd.symm.trans hke);subst e;exact hB),om,(by subst Yf;rfl),rfl,rfl,rfl⟩) (wk [0,0,0,0,0,0,0,0,1] (fr (ZO k fl)))))))))))))))
    have hB:=XK
    rw [<-GW (f:=Ur L.vars.length ke.result) hP,hE,<-JG] at hB
    exact Z0 (XO (ar (Zr (r1 [] (.inr ⟨rfl,rfl,(by subst Yf;have e:=Q2 (hkd.symm.trans hke);subst e;rw [hgo,hB];rfl)⟩)))))
   have hB:Vj n ln (V5 n.decls L s.op s.num s.args k) L.vars.length ke=none:=by rw [JG,<-hE,YK];rfl
   exact Z0 (XO (ar (Zr (r1 [] (.inr ⟨rfl,rfl,(by subst Yf;have e:=Q2 (hkd.symm.trans hke);subst e;rw [hgo,hB];rfl)⟩)))))
  exact absurd hk2 om
 refine ZE (aq (XZ ((k:Int)<(s.kids.length:Int)) (fun Xd=>?_) (fun Xd=>?_)))
 ·obtain ⟨ke,hke⟩:=Zs s.kids k om
  obtain ⟨mk,hmk⟩:=Zs (Xn n.decls s.op s.num) k om
  have hK:=C7 hk hq.1 hf hop hmk
  have hmk3:=ES Xt hmk
  have hks:=Tm hke
  have hbt:=hk3 k ke mk hke hmk
  obtain ⟨vs,rt,hvs,hres,hrt⟩:=EX hbt
  have hri:=KH hres
  have hsrr:Uz ke.steps:=by
   have h:=EY hr2.2 hke
   rwa [Z7.rng_eq] at h
  have hbz:=ke.sz_eq
  have hak:=MO hn har hlk hop (by rw [hgx];exact hx) hmk
  have hsl:=GU hvs
  rw [Yq] at hsl
  have hkl:=MN (L:=L) (am:=am) (s:=s) (m:=mk)
  refine ak (aq (ab 1 (Y5 1 (Zm (Zi none (k:Int) 2 (UV hke)) (Z1 1 (iA [nl,.i 0] fun b3=>Z1 1 (ZI 0 b3 (Xk ke) (ie (Y5 1 (ic [5,5,5,5] (N0 b ga gb gc n L ln am) ?_))))))))))
  rintro _ _ ⟨c2,wa4,wb4,wc4,rfl,rfl⟩
  refine Z0 (X1 (VI [13] (XP (fun fz gz F h=>F=sF [0,3,5,6,7,8,9,10,45,46,47] fz []/\h=[.obj c2 [ZU n.decls,YT n,Z4 ln,Xa (Tu L am s mk),.h wa4,.h wb4,.h wc4],Zc gz 1,Zc gz 2,Zc gz 3,Zc gz 4,Zc gz 5,Zc gz 6,Zc gz 7,Zc gz 8,Zc gz 9,Zc gz 10,Zc gz 11,Zc gz 12,Zc gz 13]) ?_ ?_)))
  ·refine ac (s.op==8) Zq (fun VO=>?_) (fun VO=>?_)
   ·exact aE 19 (ZK 12 19 [0,1,2,3,4,5,6] [4,13] (dx 7 (Zi none 0 1 (ZZ ha)) (Zj 7 11 [8,9,10,11] (dx 12 (Zi none (k:Int) 1 (B4 hmk)) (Zj 4 6 [13,14] (Z9 15 (Yp 15 [] [] [] (MR am (Xm.mk x (L.vars.length:Int) mk false)) (Zj 1 3 [16,17] (Z9 18 (YJ 18 0 [] [] c2 [ZU n.decls,YT n,Z4 ln,Xa (am++[(Xm.mk x (L.vars.length:Int) mk false)]),.h wa4,.h wb4,.h wc4] (de (ZQ ⟨rfl,rfl⟩ (ZF 14 fl (e:=(ro (ls:=[ZU n.decls,YT n,Z4 ln,Xa (am++[(Xm.mk x (L.vars.length:Int) mk false)]),.h wa4,.h wb4,.h wc4]) (by rw [Tu,Zf ‹s.op=8›,hgx]) (rc (rc (rc (rc (rc (rc (rc (rc (rc (rc (rc (rc (rc rz))))))))))))))))))))))))))))
   exact ak (ZQ ⟨rfl,rfl⟩ (ZF 14 fl (e:=(ro (ls:=[ZU n.decls,YT n,Z4 ln,Xa am,.h wa4,.h wb4,.h wc4]) (by rw [Tu,Z8 ‹¬s.op=8›]) (rc (rc (rc (rc (rc (rc (rc (rc (rc (rc (rc (rc (rc rz)))))))))))))))))
  rintro F h ⟨rfl,rfl⟩
  refine YF 2 (Zm (Zi none (k:Int) 1 (B4 hmk)) (Z1 1 (iw (Y8 mk) (Z0 (ab 2 (Y2 (fun fz gz m F h=>∃(j:Nat) (L3:V0) (ka:Hd) (kb:Hd) (kc:Hd),(j<=mk.length)/\(Wi L3)/\(L3.vars.length=L.vars.length+j)/\(KO L3 (gI s.args 0) (mk.drop j)=V5 n.decls L s.op s.num s.args k)/\F=sF [0,3,5,6,7,9,10,45,46,47,78,79] fz [(80,.i j)]/\h=[.obj c2 [ZU n.decls,YT n,Z4 ln,Xa (Tu L am s mk),.h ka,.h kb,.h kc],Zc gz 4,Zc gz 5,Zc gz 6,Zc gz 7,Zc gz 8,Zc gz 9,Zc gz 10,Zc gz 11,Zc gz 12,Zc gz 13,rV ka L3.vars,rV kb L3.own,rV kc L3.tok]/\m=mk.length-j) _ _ _ ⟨0,(J5 n L s k),wa4,wb4,wc4,ob,(Sr hlk),(by rw [Bu];rfl),(by rw [K9];exact Sq hop hmk),rfl,rfl,rfl⟩ (wk [0,3,3,3,3,3,3,3,3,3,3,0,0,0] (Ya fl) (e:=(rc (rc (rc (rc (rc (rc (rc (rc (rc (rc (rc (rv (xs:=L.vars) (by first|rw [Bu]|rw [Dn]|rw [Do]) (rv (xs:=L.own) (by first|rw [Bu]|rw [Dn]|rw [Do]) (rv (xs:=L.tok) (by first|rw [Bu]|rw [Dn]|rw [Do]) rz)))))))))))))))) ?_))))))
  rintro m F h ⟨j,L3,ka,kb,kc,Uo,W2,XT,Jf,rfl,rfl,rfl⟩
  refine ZE (aq (XZ ((j:Int)<(mk.length:Int)) (fun VG=>?_) (fun VG=>?_)))
  ·obtain ⟨xm,hxm⟩:=Zs mk j om
   refine ak (aq (ab 3 (ar (Zm (Zi none (j:Int) 1 (ZZ hxm)) (Z0 (az (Z1 2 (ic [0,10,10,10] (Cu c2 ka kb kc n L3 ln (Tu L am s mk) xm 0 (hlk:=W2)) ?_))))))))
   rintro _ _ ⟨wa5,wb5,wc5,rfl⟩
   exact ie (az (ZJ j (Z0 (ZL ⟨j+1,(L3.grow xm 0 (gI s.args 0)),wa5,wb5,wc5,ob,(Wi.grow W2),(by simp [Zp.grow];omega),(by rw [Y7 hxm,KO] at Jf;exact Jf),rfl,rfl,rfl⟩ (wk [0,3,3,3,3,3,3,3,3,3,3,0,0,0] (ZO j fl) (e:=(rc (rc (rc (rc (rc (rc (rc (rc (rc (rc (rc (rv (xs:=(L3.grow xm 0 (-1)).vars) ob (rv (xs:=(L3.grow xm 0 (-1)).own) ob (rv (xs:=(L3.grow xm 0 (-1)).tok) ob rz))))))))))))))))))))
  have hE:L3=V5 n.decls L s.op s.num s.args k:=by rw [<-Jf,Xh om];rfl
  have hL3v:L3.vars=L.vars++mk:=by rw [hE];exact hK.2
  have hL3l:L3.vars.length=L.vars.length+mk.length:=by rw [hL3v,Yq]
  refine ax 2 (Yi 3 [5] (ic [0,10,10,10] (ih ke.steps c2 ka kb kc L3 (Tu L am s mk) q vs ob (by rw [hE];exact hK.1) (by rw [hE];exact hak) (by rw [hL3v];exact hvs) (by rw [hL3v];exact Ec hnn (MP hty hmk)) om om hsrr) ?_))
  rintro _ _ (⟨wa6,wb6,wc6,M'2,rfl,rfl,Wo⟩|⟨rfl,rfl,WR⟩)
  ·have hP:=Wo
   have kx:=GV hn (by rw [hE];exact hK.1) hq.1 (by rw [hE];exact hak) (by rw [hL3v];exact hvs) hP
   have kl:=kx.1.len
   have hm1:(Wd M'2 ke.result).own.length=vs.length:=by rw [Fo.1,kl.own,kx.2.1]
   have hm2:(Wd M'2 ke.result).tok.length=vs.length:=by rw [Fo.2.1,kl.tok,kx.2.1]
   refine ZP 5 [8] (ic [0,0,0,0] (N1 c2 wa6 wb6 wc6 n M'2 ln (Tu L am s mk) ke L.vars.length (hlk:=kl) (hlb:=(by rw [kx.2.1];omega)) (hm:=(by rw [kx.2.1];omega)) (hr:=(by rw [kx.2.1];omega)) (hq:=(fun y hy=>by have h1:=kx.1.nn y hy;have h2:=kx.1.bd y hy;omega))) ?_)
   rintro _ _ (⟨rfl,rfl,Vc⟩|⟨rfl,rfl,Ut⟩)
   ·have hB:=Vc
    rw [<-GW (f:=Ur L.vars.length ke.result) hP,hE,<-JG] at hB
    refine Z0 (Wb (ak (ab 4 (Y5 1 (iQ false (Z0 (Wb (aD 31 (ZK 26 31 [0,1,2,3,4] [0] (dx 5 (K6 2 wb6 ((Wd M'2 ke.result).own) L.vars.length) (ZK 20 25 [6,7,8,9,10] [9] (dx 11 (K6 11 ub O.own L.vars.length) (Z9 12 (UT 12 [2,10] [] [] [rV wb6 ((Wd M'2 ke.result).own),rV ub O.own] (Cg (((Wd M'2 ke.result).own).take L.vars.length) (O.own.take L.vars.length)) Cy (gC (v:=wb6) (ys:=(Wd M'2 ke.result).own) 0 L.vars.length (gC (v:=ub) (ys:=O.own) 1 L.vars.length gN)) (Uc (Uc T2)) ?_))))))))))))))
    rintro _ _ ⟨rfl,rfl⟩
    refine Ad [0,3,5,6,7,45,46,47] [(104,.b ((!(decide ((((Wd M'2 ke.result).own).take L.vars.length)=(O.own.take L.vars.length))))||(!(decide ((((Wd M'2 ke.result).tok).take L.vars.length)=(O.tok.take L.vars.length))))))] (fun gz=>gz) ?_ ?_
    ·refine Zj 16 18 [13,14] (db (b:=(!(decide ((((Wd M'2 ke.result).own).take L.vars.length)=(O.own.take L.vars.length))))) 119 (fun ZA=>?_) (fun ZA=>?_))
     ·have T0:¬((((Wd M'2 ke.result).own).take L.vars.length)=(O.own.take L.vars.length)):=((Yr dq)).1 ZA
      exact Zj 0 16 [15,16,17,18,19,20,21,22,23,24,25,26,27,28,29,30] (de (ZF 14 (Zu true ZA fl)))
     have T1:¬(¬((((Wd M'2 ke.result).own).take L.vars.length)=(O.own.take L.vars.length))):=Yd (Yr dq) ZA
     refine ZK 11 16 [15,16,17,18,19] [2] (dx 20 (K6 4 wc6 ((Wd M'2 ke.result).tok) L.vars.length) (ZK 5 10 [21,22,23,24,25] [10] (dx 26 (K6 12 uc O.tok L.vars.length) (Z9 27 (UT 27 [4,11] [] [] [rV wc6 ((Wd M'2 ke.result).tok),rV uc O.tok] (Cg (((Wd M'2 ke.result).tok).take L.vars.length) (O.tok.take L.vars.length)) Cy (gC (v:=wc6) (ys:=(Wd M'2 ke.result).tok) 0 L.vars.length (gC (v:=uc) (ys:=O.tok) 1 L.vars.length gN)) (Uc (Uc T2)) ?_)))))
     rintro _ _ ⟨rfl,rfl⟩
     exact Zj 0 3 [28,29,30] (de (wk [2,2,2,2,0,1,1,1,1,1,1,1,0,0] (Zu (!(decide ((((Wd M'2 ke.result).tok).take L.vars.length)=(O.tok.take L.vars.length)))) ZA fl)))
    refine ac ((!(decide ((((Wd M'2 ke.result).own).take L.vars.length)=(O.own.take L.vars.length))))||(!(decide ((((Wd M'2 ke.result).tok).take L.vars.length)=(O.tok.take L.vars.length))))) (p:=(¬((((Wd M'2 ke.result).own).take L.vars.length)=(O.own.take L.vars.length)))∨(¬((((Wd M'2 ke.result).tok).take L.vars.length)=(O.tok.take L.vars.length)))) (Yl (Yr dq) (Yr dq)) (fun VH=>?_) (fun VH=>?_)
    ·exact ar (Zr (r1 [] (.inr ⟨rfl,rfl,(by rw [hgo,d0_1];exact Eb (by rw [<-d0_3,E6 hke,hB];exact RD (VH.imp (fun h g=>h g.symm) (fun h g=>h g.symm))))⟩)))
    exact ak (az (ZJ k (Z0 (ZL (.inr ⟨k+1,c0,ua,ub,uc,O,aO,om,d0_1,d0_2,(by rw [E6 hke,hB,RE (fun z=>VH (z.imp (fun h g=>h g.symm) (fun h g=>h g.symm)))] at d0_3;exact d0_3),rfl,rfl,rfl⟩) (wk [10,10,1,9,4,4,4,4,5] (fr (ZO k fl)))))))
   have hB:=Ut
   rw [<-GW (f:=Ur L.vars.length ke.result) hP,hE,<-JG] at hB
   exact Z0 (XO (ar (Zr (r1 [] (.inr ⟨rfl,rfl,(by rw [hgo,d0_1];exact Eb (by rw [<-d0_3,E6 hke,hB];rfl))⟩)))))
  have hB:Vj n ln (V5 n.decls L s.op s.num s.args k) L.vars.length ke=none:=by rw [JG,<-hE,WR];rfl
  exact Z0 (XO (ar (Zr (r1 [] (.inr ⟨rfl,rfl,(by rw [hgo,d0_1];exact Eb (by rw [<-d0_3,E6 hke,hB];rfl))⟩)))))
 refine ax 0 (aD 22 (ZK 15 22 [0,1,2,3,4,5,6] [0] (dx 7 (K6 2 ub O.own L.vars.length) (ZK 9 14 [9,10,11,12,13] [0] (dx 14 (K6 3 uc O.tok L.vars.length) (Z9 8 (UT 8 [2] [0] [c0] [rV ub O.own] (DJ (O.own.take L.vars.length)) Jh (gC (v:=ub) (ys:=O.own) 0 L.vars.length gN) (Uc T2) ?_)))))))
 rintro _ _ ⟨v2,rfl,rfl⟩
 refine Z9 15 (UT 15 [4] [] [] [rV uc O.tok] (DJ (O.tok.take L.vars.length)) Jh (gC (v:=uc) (ys:=O.tok) 0 L.vars.length gN) (Uc T2) ?_)
 rintro _ _ ⟨v3,rfl,rfl⟩
 exact Zj 4 6 [16,17] (Z9 18 (YJ 18 6 [] [] b [ZU n.decls,YT n,Z4 ln,Xa am,.h ga,.h v2,.h gc] (Zj 1 3 [19,20] (Z9 21 (YJ 21 0 [] [] b [ZU n.decls,YT n,Z4 ln,Xa am,.h ga,.h v2,.h v3] (de (ar (Zr (r1 [0,6,2,0] (.inl ⟨ga,v2,v3,(Zp.mk L.vars (O.own.take L.vars.length) L.par L.con L.fst (O.tok.take L.vars.length)),rfl,rfl,(by rw [hgo,d0_1];exact Pt (by rw [<-d0_3,Xh om];rfl))⟩) (eq:=(rc (rv (xs:=L.vars) ob (rv (xs:=(O.own.take L.vars.length)) ob (rv (xs:=(O.tok.take L.vars.length)) ob rz))))))))))))))
theorem ID (n:Zk) (us:LI) (s:Z5) (hn:X2 n) (hty:KA n) (hnn:∀t∈us,0<=t) (hb:us.length+4*s.sz<=1000000000) (hr:s.rng):Zl 124 [.agg [ZU n.decls,YT n],Z4 us,YI s] [] (fun r h=>∃(t:Int),r=.tup [.i t,.b (decide (0<=Yb n us s))]/\h=[]/\(¬YC s.op=true->0<=Yb n us s->t=Yb n us s)):=
 OI n us s hn hty hnn hb hr fun b us2 _ h2 h3 h4=>OC n us2 b hn hty h4 h2 h3
theorem Z1v (b:Nat) (ga:Hd) (gb:Hd) (gc:Hd) (n:Zk) (L:V0) (ln:LI) (am:List Xm) (s:Z5) (q:Int) (hn:X2 n:=by exact ob) (hty:KA n:=by exact ob) (hlt:Cr n:=by exact ob) (hk:X0 n.decls L q:=by exact ob) (har:WP n.decls L am:=by exact ob) (hln:ln.length<=4294967296:=by exact ob) (ht:0<=Yb n L.vars s:=by exact ob) (hnn:∀t∈L.vars,0<=t) (hb:L.vars.length+am.length+4*s.sz<=900000000:=by exact ob) (hq:0<=q/\q+4*s.sz<=999999980:=by exact ob) (hr:s.rng:=by exact ob) (ih:∀(ys:List Z5) (c:Nat) (ra:Hd) (rb:Hd) (rc:Hd) (M:V0) (a2:List Xm) (p:Int) (vs:LI),(Y6 ys<s.sz)->(X0 n.decls M p)->(WP n.decls M a2)->(XB n ys M.vars=some vs)->(∀t∈M.vars,0<=t)->(M.vars.length+a2.length+4*Y6 ys<=900000000)->(0<=p/\p+4*Y6 ys<=999999980)->(Uz ys)->Zl 121 [.p c 0,Wz ys] [.obj c [ZU n.decls,YT n,Z4 ln,Xa a2,.h ra,.h rb,.h rc],rV ra M.vars,rV rb M.own,rV rc M.tok] (fun r h=>(∃(wa:Hd) (wb:Hd) (wc:Hd) (M':V0),r=.b true/\h=[.obj c [ZU n.decls,YT n,Z4 ln,Xa a2,.h wa,.h wb,.h wc],rV wa M'.vars,rV wb M'.own,rV wc M'.tok]/\XY n ln M ys=some M')∨(r=.b false/\h=[]/\XY n ln M ys=none))):Zl 154 [.p b 0,YI s] [.obj b [ZU n.decls,YT n,Z4 ln,Xa am,.h ga,.h gb,.h gc],rV ga L.vars,rV gb L.own,rV gc L.tok] (fun r h=>(∃(wa:Hd) (wb:Hd) (wc:Hd) (L':V0),r=.b true/\h=[.obj b [ZU n.decls,YT n,Z4 ln,Xa am,.h wa,.h wb,.h wc],rV wa L'.vars,rV wb L'.own,rV wc L'.tok]/\Vo n ln L s=some L')∨(r=.b false/\h=[]/\Vo n ln L s=none)):=by
 have hlk:=hk.len
 obtain ⟨e1,e2,e3,e4,e5⟩:=hk.len
 have hf:=Dq ht
 have hkz:=Tz s
 have haz:=Qm s
 have hlh:=Za6 hlt ht
 refine ZG 58 Tryz.func154 (ar (iA (Xz s) fun b1=>Z0 (aq (ab 0 (Zw 2 [0] (Zz [] (IC s.op) (YD (YC s.op) Iff.rfl (fun Za=>?_) (fun Za=>?_))))))))
 ·obtain ⟨x,hxa⟩:=hf.one (.inr (.inr (by simpa [YC] using Za)))
  have ha:s.args[0]? = some x:=by rw [hxa];rfl
  have hx:=hf.args x (by rw [hxa];simp)
  have hgx:=Jn ha
  have hal:=(Xc.1 ha).1
  refine aD 9 (ZK 4 9 [0,1,2,3,4] [0,0] (dx 5 (Zi none 0 1 (ZZ ha)) (Zj 2 3 [6] (Z9 7 (dc 7 [1,1,1,1] [] [] (Z1s b ga gb gc n L ln am s.op x q) ?_)))))
  rintro _ _ (⟨L'1,rfl,rfl,ZW⟩|⟨rfl,rfl,Yh⟩)
  ·exact Zj 0 1 [8] (de (ZD (r1 [0,0,0,0] (.inl ⟨ga,gb,gc,L'1,rfl,rfl,(by rw [Su Za hgx];exact ZW)⟩))))
  exact Zj 0 1 [8] (de (ZD (r1 [] (.inr ⟨rfl,rfl,(by rw [Su Za hgx];exact Yh)⟩))))
 refine ar (XL 8 [0,3] [(27,.b ((s.op==7)||(s.op==8)))] (fun gz=>gz) ?_ (fun hj1=>?_))
 ·refine YD ((s.op==7)||(s.op==8)) (p:=(s.op=7)∨(s.op=8)) (Yl Zq Zq) (fun Ze=>?_) (fun Ze=>?_)
  ·refine Zw 2 [0] (ic [1,1,1,1] (Z1q b ga gb gc n L ln am s q (hnn:=ob) (ih:=ih)) ?_)
   rintro _ _ (⟨wa1,wb1,wc1,L'2,rfl,rfl,YE⟩|⟨rfl,rfl,YK⟩)
   ·have hP:=(Gq (n:=n) (ln:=ln) (L:=L) Ze).trans YE
    obtain ⟨kx,hxv⟩:=Az hn hk hq.1 hf hP
    refine Z0 (Wb (ak (aD 15 (ZK 6 15 [0,1,2,3,4,5,6,7,8] [0,0,4] (Z9 9 (UT 9 [1] [] [] [rV wa1 L'2.vars] (ID n L'2.vars s ob ob (by rw [hxv];exact hnn) (by rw [hxv];omega) ob) HI (gS (gL (v:=wa1) 0 (gS gN))) (Uc T2) ?_))))))
    rintro _ _ ⟨t1,rfl,rfl,X9⟩
    rw [hxv] at X9
    have hte:=X9 Za ht
    refine Zj 0 5 [10,11,12,13,14] (de (Y5 3 (iI t1 1 (ic [1,0,0,0] (Cu b wa1 wb1 wc1 n L'2 ln am t1 (min t1 1) (hlb:=(by rw [hxv];omega)) (hlk:=kx.len)) ?_))))
    rintro _ _ ⟨wa2,wb2,wc2,rfl⟩
    exact ie (ar (Zr (r1 [0,0,0,0] (.inl ⟨wa2,wb2,wc2,(L'2.grow t1 (min t1 1) (-1)),rfl,rfl,(M5 hP ht Za hte)⟩))))
   have hP:=(Gq (n:=n) (ln:=ln) (L:=L) Ze).trans YK
   exact Z0 (XO (ar (Zr (r1 [] (.inr ⟨rfl,rfl,(Sv hP)⟩)))))
  refine Zw 2 [0] (Zz [] (OE s.op) (YD (Tb s.op) Iff.rfl (fun ZC=>?_) (fun ZC=>?_)))
  ·refine Zw 2 [0] (ic [1,1,1,1] (Z1r b ga gb gc n L ln am s q (hlt:=hlh)) ?_)
   rintro _ _ (⟨L'3,rfl,rfl,XK⟩|⟨rfl,rfl,Wo⟩)
   ·have hP:=(Ll (n:=n) (ln:=ln) (L:=L) Za Ze).trans XK
    obtain ⟨kx,hxv⟩:=Az hn hk hq.1 hf hP
    refine Z0 (Wb (ak (aD 15 (ZK 6 15 [0,1,2,3,4,5,6,7,8] [0,0,4] (Z9 9 (UT 9 [1] [] [] [rV ga L'3.vars] (ID n L'3.vars s ob ob (by rw [hxv];exact hnn) (by rw [hxv];omega) ob) HI (gS (gL (v:=ga) 0 (gS gN))) (Uc T2) ?_))))))
    rintro _ _ ⟨t2,rfl,rfl,WR⟩
    rw [hxv] at WR
    have hte:=WR Za ht
    refine Zj 0 5 [10,11,12,13,14] (de (Y5 3 (iI t2 1 (ic [1,0,0,0] (Cu b ga gb gc n L'3 ln am t2 (min t2 1) (hlb:=(by rw [hxv];omega)) (hlk:=kx.len)) ?_))))
    rintro _ _ ⟨wa3,wb3,wc3,rfl⟩
    exact ie (ar (Zr (r1 [0,0,0,0] (.inl ⟨wa3,wb3,wc3,(L'3.grow t2 (min t2 1) (-1)),rfl,rfl,(M5 hP ht Za hte)⟩))))
   have hP:=(Ll (n:=n) (ln:=ln) (L:=L) Za Ze).trans Wo
   exact Z0 (XO (ar (Zr (r1 [] (.inr ⟨rfl,rfl,(Sv hP)⟩)))))
  have hP:=Zbj (ln:=ln) Za Ze ZC ht
  have hxv:L.vars=L.vars:=rfl
  have kx:=hk
  refine ak (aD 15 (ZK 6 15 [0,1,2,3,4,5,6,7,8] [1,1,0] (Z9 9 (UT 9 [2] [] [] [rV ga L.vars] (ID n L.vars s ob ob (by rw [hxv];exact hnn) (by rw [hxv];omega) ob) HI (gS (gL (v:=ga) 0 (gS gN))) (Uc T2) ?_))))
  rintro _ _ ⟨t3,rfl,rfl,Vc⟩
  rw [hxv] at Vc
  have hte:=Vc Za ht
  refine Zj 0 5 [10,11,12,13,14] (de (Y5 3 (iI t3 1 (ic [2,0,1,1] (Cu b ga gb gc n L ln am t3 (min t3 1) (hlb:=(by rw [hxv];omega)) (hlk:=kx.len)) ?_))))
  rintro _ _ ⟨wa4,wb4,wc4,rfl⟩
  exact ie (ar (Zr (r1 [0,0,0,0] (.inl ⟨wa4,wb4,wc4,(L.grow t3 (min t3 1) (-1)),rfl,rfl,(M5 hP ht Za hte)⟩))))
 refine ZP 4 [0] (ib (b:=(s.op==7)) 23 (fun Zb=>?_) (fun Zb=>?_))
 ·have Ut:s.op=7:=(Zq).1 Zb
  exact Z1 4 (Yx (ZF 5 (Zu true Zb fl)) hj1)
 have T0:¬(s.op=7):=Yd Zq Zb
 exact ZP 4 [0] (Yx (ZF 5 (Zu (s.op==8) Zb fl)) hj1)
theorem Z1y (n:Zk) (ln:LI) (hn:X2 n) (hty:KA n) (hlt:Cr n) (hln:ln.length<=4294967296) (m:Nat):∀(ys:List Z5) (c:Nat) (ra:Hd) (rb:Hd) (rc:Hd) (M:V0) (a2:List Xm) (p:Int) (vs:LI),(Y6 ys<m)->(X0 n.decls M p)->(WP n.decls M a2)->(XB n ys M.vars=some vs)->(∀t∈M.vars,0<=t)->(M.vars.length+a2.length+4*Y6 ys<=900000000)->(0<=p/\p+4*Y6 ys<=999999980)->(Uz ys)->Zl 121 [.p c 0,Wz ys] [.obj c [ZU n.decls,YT n,Z4 ln,Xa a2,.h ra,.h rb,.h rc],rV ra M.vars,rV rb M.own,rV rc M.tok] (fun r h=>(∃(wa:Hd) (wb:Hd) (wc:Hd) (M':V0),r=.b true/\h=[.obj c [ZU n.decls,YT n,Z4 ln,Xa a2,.h wa,.h wb,.h wc],rV wa M'.vars,rV wb M'.own,rV wc M'.tok]/\XY n ln M ys=some M')∨(r=.b false/\h=[]/\XY n ln M ys=none)):=by
 induction m with
 | zero=>intro ys c ra rb rc M a2 p vs h;omega
 | succ m ih=>
  intro ys c ra rb rc M a2 p vs h hk har ht hnn hb hp hr
  exact Z1x c ra rb rc n M ln a2 ys p vs hn hk har ht hnn hb hp hr fun s2 c ra rb rc M a2 p h1 hk har ht hnn hb hp hr=>Z1v c ra rb rc n M ln a2 s2 p hn hty hlt hk har hln ht hnn hb hp hr
   fun ys c ra rb rc M a2 p vs h2 hk har ht hnn hb hp hr=>ih ys c ra rb rc M a2 p vs om hk har ht hnn hb hp hr
theorem Z1w (c:Nat) (ra:Hd) (rb:Hd) (rc:Hd) (n:Zk) (M:V0) (ln:LI) (a2:List Xm) (ys:List Z5) (p:Int) (vs:LI) (hn:X2 n) (hty:KA n) (hlt:Cr n) (hln:ln.length<=4294967296) (hk:X0 n.decls M p) (har:WP n.decls M a2) (ht:XB n ys M.vars=some vs) (hnn:∀t∈M.vars,0<=t) (hb:M.vars.length+a2.length+4*Y6 ys<=900000000) (hp:0<=p/\p+4*Y6 ys<=999999980) (hr:Uz ys):Zl 121 [.p c 0,Wz ys] [.obj c [ZU n.decls,YT n,Z4 ln,Xa a2,.h ra,.h rb,.h rc],rV ra M.vars,rV rb M.own,rV rc M.tok] (fun r h=>(∃(wa:Hd) (wb:Hd) (wc:Hd) (M':V0),r=.b true/\h=[.obj c [ZU n.decls,YT n,Z4 ln,Xa a2,.h wa,.h wb,.h wc],rV wa M'.vars,rV wb M'.own,rV wc M'.tok]/\XY n ln M ys=some M')∨(r=.b false/\h=[]/\XY n ln M ys=none)):=
 Z1y n ln hn hty hlt hln (Y6 ys+1) ys c ra rb rc M a2 p vs om hk har ht hnn hb hp hr
theorem Z8i (n:Zk) (hz:VU n) (hs:VP n=true):Zl 76 [Yn n] [] (Yo (.tup [.agg [ZU n.decls,YT n],.b (VP n)])):=by
 refine (OF n hz).mono fun r h q=>?_
 rcases q with ⟨h1,h2,_⟩|⟨_,_,h3⟩
 ·exact ⟨h1,h2⟩
 ·rw [hs] at h3;cases h3
theorem Z1t (n:Zk) (f:Nat) (rt:Yg) (hn:X2 n:=by exact ob) (hz:VU n:=by exact ob) (hs:VP n=true:=by exact ob) (hr:n.routines[f]? = some rt:=by exact ob):Zl 120 [Yn n,.i f] [] (fun r h=>∃(c:Nat) (wa:Hd) (wb:Hd) (wc:Hd),r=.p c 0/\h=[.obj c [ZU n.decls,YT n,Z4 rt.lent,Xa [],.h wa,.h wb,.h wc],rV wa ((VV rt).vars),rV wb ((VV rt).own),rV wc ((VV rt).tok)]):=by
 have hfl:=(Xc.1 hr).1
 have hpl:=hn.params_at hr
 have hll:=hn.lent_at hr
 refine ZG 58 Tryz.func120 (ar (iA (YS n) fun b1=>Z0 (Zw 1 [0] (Zz [] (Z8i n ob ob) (Z1 3 (iA [nl,nl] fun b2=>ZI 0 b2 [ZU n.decls,YT n] (Z0 (aD 10 (ZK 6 10 [0,1,2,3] [0,1] (dx 4 (Zi none (f:Int) 5 (Ww hr)) (Zj 2 5 [5,6,7] (Z9 8 (dA 8 [] [] [ZU n.decls,YT n,Z4 rt.lent,nl,nl,nl,nl] fun b3=>?_)))))))))))))
 refine BS (SF 0 b3 [ZU n.decls,YT n,Z4 rt.lent,nl,nl,nl,nl] [ZU n.decls,YT n,Z4 rt.lent,Xa [],.h hN,.h hN,.h hN] (.cons (lr _) (.cons (lr _) (.cons (lr _) (.cons (Zd.sl _ rfl) (.cons (Zd.hd (v:=hN)) (.cons (Zd.hd (v:=hN)) (.cons (Zd.hd (v:=hN)) .nil)))))))) (BS (Js) (BS (Js) (BS (Js) (Zj 0 1 [9] (de (Yi 3 [5] (Zm (Zi none (f:Int) 5 (Ww hr)) (Z1 2 (iw (Y8 rt.params) (Z0 (ab 0 (Y2 (fun fz gz m F h=>∃(k:Nat) (L2:V0) (ka:Hd) (kb:Hd) (kc:Hd),(k<=rt.params.length)/\(Wi L2)/\(L2.vars.length=k)/\(Qf rt.lent (rt.params.drop k) k L2=VV rt)/\F=sF [7,29,30] fz [(31,.i k)]/\h=[.obj b3 [ZU n.decls,YT n,Z4 rt.lent,Xa [],.h ka,.h kb,.h kc],rV ka L2.vars,rV kb L2.own,rV kc L2.tok]/\m=rt.params.length-k) _ _ _ ⟨0,(Zp.mk [] [] [] [] [] []),hN,hN,hN,ob,⟨rfl,rfl,rfl,rfl,rfl⟩,rfl,rfl,rfl,rfl,rfl⟩ (wk [3,0,0,0] (Ya fl) (e:=(rc (rv (xs:=[]) ob (rv (xs:=[]) ob (rv (xs:=[]) ob rz)))))) ?_))))))))))))
 rintro m F h ⟨k,L2,ka,kb,kc,Yf,Zh,Zv,Ys,rfl,rfl,rfl⟩
 refine ZE (aq (XZ ((k:Int)<(rt.params.length:Int)) (fun Za=>?_) (fun Za=>?_)))
 ·refine ak (aq (ab 1 (Y5 1 ?_)))
  obtain ⟨x1,Z3⟩:=Zs rt.params k om
  have hgl:(L2.grow x1 0 (-1)).own.length=k+1:=by simp [Zp.grow,Zh.own,Zv]
  refine Zm (Zi none (k:Int) 1 (ZZ Z3)) (Z0 (Y5 2 (ic [0,0,0,0] (Cu b3 ka kb kc n L2 rt.lent [] x1 0) ?_)))
  rintro _ _ ⟨wa1,wb1,wc1,rfl⟩
  refine ie (ar (Xp [7,8,29,30,31] [(49,.b ((x1 != 0)&&(!(decide ((k:Int)∈rt.lent)))))] (fun gz=>gz) ?_ ?_))
  ·refine Z1 3 (ib (b:=(x1 != 0)) 41 (fun Zb=>?_) (fun Zb=>?_))
   ·have ZW:x1≠0:=(Ym).1 Zb
    exact ZP 5 [0] (Zz [] (LT rt.lent (k:Int)) (Z0 (ZF 4 (Zu (!(decide ((k:Int)∈rt.lent))) Zb fl))))
   have Yh:¬(x1≠0):=Yd Ym Zb
   exact Z0 (ZF 4 (Zu false Zb fl))
  refine ac ((x1 != 0)&&(!(decide ((k:Int)∈rt.lent)))) (p:=(x1≠0)/\(¬((k:Int)∈rt.lent))) (YG Ym (Yr dq)) (fun Ze=>?_) (fun Ze=>?_)
  ·exact az (ZP 5 [0] (Zm (Wf 2 wb1 ((L2.grow x1 0 (-1)).own) (k:Int) k) (CZ 2 wb1 ((L2.grow x1 0 (-1)).own) k 1 (ie (az (ZJ k (Z0 (ZL ⟨k+1,(L2.grow x1 1 (-1)),wa1,wb1,wc1,ob,(Wi.grow Zh),(by simp [Zp.grow];omega),(by rw [Y7 Z3,Qf] at Ys;first|(rw [Zf (by assumption)] at Ys;exact Ys)|(rw [Z8 (by assumption)] at Ys;exact Ys)),rfl,rfl,rfl⟩ (wk [1,1,0,0] (ZO k fl) (e:=(rc (rv (xs:=(L2.grow x1 0 (-1)).vars) (by first|rfl|exact LM (by rw [Zh.own,Zv])) (rv (xs:=(((L2.grow x1 0 (-1)).own).set k 1)) (by first|rfl|exact LM (by rw [Zh.own,Zv])) (rv (xs:=(L2.grow x1 0 (-1)).tok) (by first|rfl|exact LM (by rw [Zh.own,Zv])) rz))))))))))))))
  exact ak (az (ZJ k (Z0 (ZL ⟨k+1,(L2.grow x1 0 (-1)),wa1,wb1,wc1,ob,(Wi.grow Zh),(by simp [Zp.grow];omega),(by rw [Y7 Z3,Qf] at Ys;first|(rw [Zf (by assumption)] at Ys;exact Ys)|(rw [Z8 (by assumption)] at Ys;exact Ys)),rfl,rfl,rfl⟩ (ZF 4 (ZO k fl))))))
 refine ax 0 (ZE ?_)
 have hNl:L2=VV rt:=by rw [<-Ys,Xh om];rfl
 exact ZD (r1 [0,0,0,0] ⟨b3,ka,kb,kc,rfl,rfl⟩ (eq:=(rc (rv (xs:=L2.vars) (by rw [hNl]) (rv (xs:=L2.own) (by rw [hNl]) (rv (xs:=L2.tok) (by rw [hNl]) rz))))))
def D9 (g l c m kk:Nat):Value:=.slice (some ⟨g,(if c-m=0 then 0 else m*kk),none⟩) (l-m) (c-m)
def LS (P:Program) (ops:Array Oper) (F:Fr) (k:Nat):Option (AV × Int × Nat):=
 match (ZB ops k).op with
 | .slice t x (some lo) none none=>match P.underlying t with
  | some (.slice e)=>match P.info? e with
   | some i=>match F.ev lo with
    | .val (.int _ m)=>some (F.ev x,m,i.size)
    | _=>none
   | none=>none
  | _=>none
 | _=>none
section
variable {P:Program} {n:Nat} {ops:Array Oper} {k:Nat} {F:Fr} {h h2:List Res}
theorem Zf2 (j:Nat) {g l c m kk:Nat} {ls:List AV} (hi:LS P ops F k=some (.val (.slice (some ⟨g,0,none⟩) l c),(m:Int),kk)) (hj:h[j]? = some (.row (.slice (some ⟨g,0,none⟩) l c) kk ls)) (hle:m<=l) :
  Xw P (ZB ops k) F h [] (.val (D9 g l c m kk)):=by
 unfold LS at hi
 generalize hoo:ZB ops k=o at hi
 obtain ⟨dst,op,type,pos,after,guard⟩:=o
 cases op<;>simp only at hi<;>try (cases hi)
 rename_i t x lo hi' mx
 cases lo with
 | none=>simp at hi
 | some y=>
  cases hi' with
  | some _=>simp at hi
  | none=>
   cases mx with
   | some _=>simp at hi
   | none=>
    simp only at hi
    split at hi
    ·rename_i e ht
     split at hi
     ·rename_i inf hinf
      split at hi
      ·rename_i ik m' hm
       simp only [Wh,Prod.mk.injEq] at hi
       obtain ⟨hx,rfl,hkk⟩:=hi
       intro n w G a hF hh
       have v1:=hF.ev x
       rw [hx] at v1
       have v1:=v1.val_inv
       have v2:=hF.ev y
       rw [hm] at v2
       have v2:=v2.val_inv
       have hcap:l<=c:=by
        rcases hh.ok _ (ZX hj) with ⟨h0,_⟩|⟨g',l',c',cur,el,h0,_,hc,_⟩
        ·cases h0
        ·cases h0;exact hc
       refine ⟨_,.val,fun w' _ _=>?_⟩
       simp only [execOp,v1,v2,BH,Option.map_none]
       refine Vh ?_
       simp only [Instr.sliceAt,Sem.run_bind,VJ ht,Result.andThen_ok,Instr.slice]
       have hmm:(Instr.sliceBounds true l c (some (.int ik (m:Int))) none none).run P w'=.ok (m,l,c) w':=by
        have YA:=Dj (P:=P) (c:=BoundsCode.sliceB) (v:=.int ik (m:Int)) (y:=l) rfl om om w'
        simp [Instr.sliceBounds,YA]
       rw [hmm]
       simp only [Result.andThen_ok,Qh hinf,D9,hkk]
       by_cases h0:c-m=0
       ·have e0:c=m:=by omega
        simp [e0]
       ·have e0:¬c=m:=fun z=>h0 om
        simp [e0,h0,Addr.add]
        exact fun z=>z.symm
      ·cases hi
     ·cases hi
    ·cases hi
theorem OW (j g l c m kk:Nat) (ls:List AV) (hle:m<=l:=by omega) (hi:LS P ops F k=some (.val (.slice (some ⟨g,0,none⟩) l c),(m:Int),kk):=by kernel_rfl) (hj:h[j]? = some (.row (.slice (some ⟨g,0,none⟩) l c) kk ls):=by kernel_rfl) :
  Xw P (ZB ops k) F h [] (.val (D9 g l c m kk)):=Zf2 j hi hj hle
theorem Zb2 {K:Fr->List Res->Prop} {g len cap i m sz:Nat} {ls:List AV} (hd:Vr n (ZB ops k)=true) (ha:UF P ops F k=some (.val (.slice (some ⟨g,0,none⟩) i cap),.val (D9 g len cap m sz),sz))
  (hone:ls.all AV.one=true) (him:i<=m) (hml:m<=len)
  (hK:K (F.put (ZB ops k).dst (.val (.slice (some ⟨g,0,none⟩) (i+(len-m)) cap))) (.row (.slice (some ⟨g,0,none⟩) (i+(len-m)) cap) sz (ls.take (i*sz)++ls.drop (m*sz))::h2)):Wx P n (ZB ops k) F (.row (.slice (some ⟨g,0,none⟩) len cap) sz ls::h2) K:=by
 unfold UF at ha
 generalize hoo:ZB ops k=o at ha hd hK
 obtain ⟨dst,op,type,pos,after,guard⟩:=o
 cases op<;>simp only at ha<;>try (cases ha)
 rename_i c
 obtain ⟨callee,args,tys⟩:=c
 simp only at ha
 split at ha
 case h_2=>cases ha
 rename_i s x t t' hargs htys
 split at ha
 case h_2=>cases ha
 rename_i e htt ht
 have:=UC htt
 subst this
 split at ha
 case h_2=>cases ha
 rename_i inf hinfo
 split at ha
 case h_2=>cases ha
 rename_i z hz
 split at ha
 case h_2=>cases ha
 rename_i hb
 simp only [W7] at hb
 simp only [Wh,Prod.mk.injEq] at ha
 obtain ⟨h3,h4,hk1⟩:=ha
 have e1:args=#[s,x]:=by rw [<-U6 (xs:=args),hargs]
 have e2:tys=#[t,t]:=by rw [<-U6 (xs:=tys),htys]
 subst e1;subst e2
 intro Q w G a hF hh
 have v1:=hF.ev s
 have v2:=hF.ev x
 rw [h3] at v1
 rw [h4] at v2
 have v1:=v1.val_inv
 have v2:=v2.val_inv
 rcases hh.ok _ (Xf ..) with ⟨h0,_⟩|⟨g',len',cap',cur,el,h0,hrow,hlc,hcur,hll,hcells⟩
 ·cases h0
 ·cases h0
  have q5:len*sz<=cap*sz:=QE _ hlc
  have q6:m*sz<=len*sz:=QE _ hml
  have q7:i*sz<=m*sz:=QE _ him
  have q8:(len-m)*sz=len*sz-m*sz:=Nat.sub_mul ..
  have q9:(i+(len-m))*sz=i*sz+(len-m)*sz:=Ql ..
  have hcl:cur.toList.length=cap*sz:=by rw [Kv,hcur]
  have h1:(cur.toList.take (len*sz)).length=len*sz:=by rw [WC,hcl,VA q5]
  have hnl:((cur.toList.take (len*sz)).drop (m*sz)).length=(len-m)*sz:=by rw [BB,h1];omega
  have hr:=Gx (P:=P) w t type e el inf ht hinfo g i cap cur hrow ⟨g,(if cap-m=0 then 0 else m*sz),none⟩ (len-m) (cap-m) ((cur.toList.take (len*sz)).drop (m*sz)) (by rw [hk1];exact hnl)
   (fun j u hj=>by
    have hjl:=(Xc.1 hj).1
    rw [hnl] at hjl
    have hne:¬cap-m=0:=fun z=>by
     have:len-m=0:=by omega
     rw [this] at hjl;omega
    rw [Z8 hne,KD,cell_of_row w g _ cur el (0,0) hrow]
    rw [BA,TE] at hj
    split at hj
    ·simpa using hj
    ·cases hj)
   (fun u hu=>hcells.one_cells hone u (List.mem_of_mem_drop hu)) om (by rw [hk1,hnl,hcur];omega)
  rw [hk1] at hr
  have hti:(cur.toList.take (i*sz)).length=i*sz:=by rw [WC,hcl,VA om]
  obtain ⟨j1,j2⟩:=hh.rgrow (ls':=ls.take (i*sz)++ls.drop (m*sz)) (len':=i+(len-m)) (cs':=(cur.toList.take (i*sz)++(cur.toList.take (len*sz)).drop (m*sz)++cur.toList.drop (i*sz+((cur.toList.take (len*sz)).drop (m*sz)).length)).toArray) hrow
   (by simp only [Dv,Yq,hti,hnl,BB,hcl,hcur];omega) om hcur (by rw [Yq,WC,BB,hll,q9,VA om];omega) (by
    have:(cur.toList.take (i*sz)++(cur.toList.take (len*sz)).drop (m*sz)++cur.toList.drop (i*sz+((cur.toList.take (len*sz)).drop (m*sz)).length)).toArray.toList.take ((i+(len-m))*sz)=cur.toList.take (i*sz)++(cur.toList.take (len*sz)).drop (m*sz):=by
     rw [Dw,q9,<-hnl]
     conv=>lhs;arg 1;rw [show i*sz+((cur.toList.take (len*sz)).drop (m*sz)).length=(cur.toList.take (i*sz)++(cur.toList.take (len*sz)).drop (m*sz)).length from by rw [Yq,hti]]
     exact A0
    rw [this]
    have ht1:=hcells.take (i*sz)
    rw [List.take_take,VA om] at ht1
    exact ht1.append (hcells.drop (m*sz)))
  generalize hW:w.setRow g (cur.toList.take (i*sz)++(cur.toList.take (len*sz)).drop (m*sz)++cur.toList.drop (i*sz+((cur.toList.take (len*sz)).drop (m*sz)).length)).toArray=W at hr j1 j2
  have hrun:(execOp a.eval { dst:=dst,op:=.call { callee:=.builtin .append,args:=#[s,x],argTypes:=#[t,t] },type:=type,pos:=pos,after:=after,guard:=guard }).run P w=.ok (.value (.slice (some ⟨g,0,none⟩) (i+(len-m)) cap)) W:=by
   simp only [execOp,resolve,invoke,builtin,Sem.run_bind,Sem.run_pure,Result.andThen_ok,BD,Un,BC,v1,v2,D9]
   rw [hr]
   rfl
  unfold Oper.wp
  rw [hrun]
  exact ⟨_,_,G,hK,(hF.mono (j2.agree hh)).put (UU hd) .val,j1,j2⟩
end
section
variable {P:Program} {n:Nat} {ops:Array Oper} {B:Fr->List Res->Prop} {T:List (Nat × List Nat)} {fuel:Nat} {done:List Nat} {k:Nat} {F:Fr} {h:List Res}
theorem Nt (q j:Nat) (js bs:List Nat) (g len cap i m sz:Nat) (ls:List AV) (hone:ls.all AV.one=true)
  (H:YU P n ops B (T.filter fun t=>!V2 ops q t.1) fuel (done++[q]) (F.put (ZB ops q).dst (.val (.slice (some ⟨g,0,none⟩) (i+(len-m)) cap))) (.row (.slice (some ⟨g,0,none⟩) (i+(len-m)) cap) sz (ls.take (i*sz)++ls.drop (m*sz))::XJ [j] h)) (him:i<=m:=by omega) (hml:m<=len:=by omega)
  (hk:X8 n ops F q=true:=by kernel_rfl) (ha:UF P ops F q=some (.val (.slice (some ⟨g,0,none⟩) i cap),.val (D9 g len cap m sz),sz):=by kernel_rfl) (hp:Wn [j] h=some [.row (.slice (some ⟨g,0,none⟩) len cap) sz ls]:=by kernel_rfl) (ho:U4 ops q T=bs:=by kernel_rfl)
  (hj:js.map (fun z=>(WG (XJ [j] h))[z]?)=bs.map some:=by kernel_rfl):Vq P n ops B T fuel done F h q:=
 Ki [j] js bs hk (Vv hp) ho hj (Zb2 (h2:=[]) (VQ hk).2.1 ha hone him hml H)
end
theorem Z4e (xs:List Yg) (k:Nat) (d:Yg):YP (xs.set k d)=(YP xs).set k (Kc d):=by simp [YP,List.map_set]
theorem Fx (xs:List Yg):(Zo (YP xs)).length=xs.length*5:=by rw [TJ (k:=5) _ (UX xs)];simp
theorem Z52 {ds:List Yg} {k:Nat} (d:Yg) (hk:k<ds.length):(Zo (YP ds)).take (k*5)++(Kc d).leaves++(Zo (YP ds)).drop (k*5+5)=Zo (YP (ds.set k d)):=by
 rw [Z4e];exact FA (y:=Kc d) (UX ds) rfl (by simpa using hk)
theorem Z46 (xs:List Z7) (k:Nat) (d:Z7):YL (xs.set k d)=(YL xs).set k (Y0 d):=by
 simp [Td,List.map_set]
theorem DV (xs:List Z7):(Zo (YL xs)).length=xs.length*2:=by rw [TJ (k:=2) _ (TP xs)];simp
theorem Z4z {ds:List Z7} {k:Nat} (d:Z7) (hk:k<ds.length):(Zo (YL ds)).take (k*2)++(Y0 d).leaves++(Zo (YL ds)).drop (k*2+2)=Zo (YL (ds.set k d)):=by
 rw [Z46];exact FA (y:=Y0 d) (TP ds) (by cases d;rfl) (by simpa using hk)
theorem WI.frzN {P:Program} {f:FuncId} {as1:List AV} {h0:List Res} {ds:List Zg} {rs:List Yg} {hs:List Res}
  (H:WI P f as1 h0 (fun r h=>∃g c:Nat,r=.agg [ZU ds,.ms g 0 rs.length c]/\h=.row (.slice (some ⟨g,0,none⟩) rs.length c) 5 (Zo (YP rs))::hs)) :
  WI P f as1 h0 (fun r h=>r=.agg [ZU ds,Ko rs]/\h=hs):=by
 intro w G vs hv hh
 refine (H w G vs hv hh).mono ?_
 rintro e w' ⟨u,r,h',G',he,⟨gb,c,rfl,rfl⟩,hr,hh',hx⟩
 obtain ⟨G2,h1,h2,h3⟩:=Cf hh' (UX _) om
 have hA:VT G' w' w' G2:=h2.agree hh'
 refine ⟨u,_,hs,G2,he,⟨rfl,rfl⟩,?_,(h1.perm (List.perm_append_comm (l₁:=[_]))).left,(hx.trans h2).sub' (BF _ _)⟩
 cases hr with
 | agg hc=>
  cases hc with
  | cons k1 t1=>
   cases t1 with
   | cons k2 t2=>
    cases t2
    have hv2:=k2.val_inv
    subst hv2
    refine .agg (.cons (k1.mono hA) (.cons ?_ .nil))
    have hw:Zd (.sl (YP rs) (some (.slice (some ⟨gb,0,none⟩) rs.length c))) (Ko rs):=Zd.forget _ _
    exact hw _ _ _ h3
theorem Z57 (v:Value) (k:Nat) (ls ks:List AV) (b o:Nat):Res.fp (.row v k ks) b o=Res.fp (.vec v ls) b o:=by
 cases v with
 | slice a _ _=>cases a<;>rfl
 | _=>rfl
theorem Zg8 {w:World} {G:Yc} {v:Value} {ls:List AV} {h2:List Res} (hh:Yv w G (.vec v ls::h2)):Yv w G (.row v 1 ls::h2)/\YV w G (.vec v ls::h2) w G (.row v 1 ls::h2):=by
 have hpw:=WH.1 hh.apart
 have hf:∀b o,Res.fp (.row v 1 ls) b o->Res.fp (.vec v ls) b o:=fun b o h=>by rw [Z57 v 1 ls ls] at h;exact h
 refine ⟨⟨fun r hr=>?_,WH.2 ⟨fun r hr b o f1 f2=>hpw.1 r hr b o (hf b o f1) f2,hpw.2⟩,fun r hr b o f1 hg=>?_,hh.lt⟩,⟨rfl,rfl,rfl,X5 _,fun _ _ h=>h,fun _ _=>.inl rfl,fun _ _ _ h=>.inl h,fun b o _ ⟨r,hr,f1⟩=>?_⟩⟩
 ·rcases YB.1 hr with rfl|hr
  ·rcases hh.ok _ (Xf ..) with h0|⟨g,cap,cur,e,h0,h1,h3,h4,h5⟩
   ·exact .inl h0
   ·exact .inr ⟨g,ls.length,cap,cur,e,h0,h1,h3,by rw [h4,QF],by rw [QF],by rw [QF];exact h5⟩
  ·exact hh.ok r (XD _ hr)
 ·rcases YB.1 hr with rfl|hr
  ·exact hh.prot _ (Xf ..) b o (hf b o f1) hg
  ·exact hh.prot r (XD _ hr) b o f1 hg
 ·rcases YB.1 hr with rfl|hr
  ·exact ⟨_,Xf ..,hf b o f1⟩
  ·exact ⟨r,XD _ hr,f1⟩
theorem NY:∀xs:LI,Zo (Z6 xs)=Z6 xs
 | []=>rfl
 | x::r=>Yj (AV.i x::·) (NY r)
section
variable {h:List Res}
theorem JY (j:Nat) (v:Hd) (xs:LI) (hp:Wn [j] h=some [rV v xs]:=by kernel_rfl):Ts h (.row v.v 1 (Zo (Z6 xs))::XJ [j] h):=by
 have e:Zo (Z6 xs)=Z6 xs:=NY xs
 rw [e]
 intro w G hh
 have hp':=Ui (Vv hp)
 obtain ⟨a,b⟩:=Zg8 (hh.perm hp')
 exact ⟨G,a,b.perm hp'.symm (Qk _)⟩
end
def AA (bs:LI) (p:Nat) (mx:Int):Int:=
 if mx<1∨bs.length=0 then 0 else if p<bs.length then (bs[p]?).getD 0 % mx else
  AJ ((((bs[p % bs.length]?).getD 0*131+(bs[(p*7+3) % bs.length]?).getD 0*1117)+((p*29:Nat):Int))+(((p / bs.length:Nat):Int)*53))
   (((((bs[p % bs.length]?).getD 0*131+(bs[(p*7+3) % bs.length]?).getD 0*1117)+((p*29:Nat):Int))+(((p / bs.length:Nat):Int)*53)) / 64) % mx
theorem Zbl {bs:LI} {p:Nat} {mx:Int} (h:0<mx):0<=AA bs p mx/\AA bs p mx<mx:=by
 rw [AA]
 split
 ·omega
 ·split
  ·exact ⟨Int.emod_nonneg _ om,Int.emod_lt_of_pos _ h⟩
  ·exact ⟨Int.emod_nonneg _ om,Int.emod_lt_of_pos _ h⟩
theorem Z4y {xs:List Z7} {k:Nat} {b:Z7} (h:xs[k]? = some b):Zo (YL (xs.take k))++Zo [Y0 b]=Zo (YL (xs.take (k+1))):=by
 rw [V7 h,Ag,Qn]
 congr 1
 rw [Td];rfl
def E7 (s:Z5) (u:Value):List AV:=[.i s.op,.i s.num,.i s.into,Z4 s.args,.val u]
def DW (b:Z7) (k:Nat):Z5:=(b.steps[k]?).getD (Zx 0 0)
theorem FD {b:Z7} {k:Nat} {s:Z5} (h:b.steps[k]? = some s):DW b k=s:=by rw [DW,h];rfl
def WX (b:Z7) (kk:Nat) (u:Value) (k:Nat):List AV:=if k<=kk then Zo (Zy (b.steps.take k)) else Zo (Zy (b.steps.take kk))++(E7 (DW b kk) u++Zo (Zy ((b.steps.take k).drop (kk+1))))
def Tl (b:Z7) (kk k:Nat):List AV:=if k<=kk then [] else Zo (YL (DW b kk).kids)
theorem P1 {b:Z7} {kk:Nat} {u:Value}:WX b kk u 0=[]:=by rw [WX,Zf (Ka _),List.take_zero,VE];rfl
theorem P4 {b:Z7} {kk:Nat}:Tl b kk 0=[]:=Zf (Ka _)
theorem IP {b:Z7} {kk k:Nat} {u:Value} (h:k<=b.steps.length):(WX b kk u k).length=k*5:=by
 rw [WX]
 split
 ·rw [QO,WC,VA h]
 ·rename_i q
  have e:(E7 (DW b kk) u).length=5:=rfl
  rw [Yq,Yq,QO,QO,BB,WC,WC,e,VA h,VA om]
  omega
theorem OZ {b:Z7} {kk k:Nat} {u:Value} {s:Z5} (hs:b.steps[k]? = some s) (hk:¬k=kk):WX b kk u k++Zo [YI s]=WX b kk u (k+1):=by
 have hkl:=(Xc.1 hs).1
 by_cases q:k<=kk
 ·rw [WX,Zf q,WX,Zf om]
  exact NW hs
 ·rw [WX,Z8 q,WX,Z8 om,Q1,Q1]
  congr 2
  rw [V7 hs,List.drop_append_of_le_length (by rw [WC];omega),WW,Qn]
  congr 1
  rw [VE];rfl
theorem P2 {b:Z7} {kk k:Nat} (hk:¬k=kk):Tl b kk k=Tl b kk (k+1):=by
 by_cases q:k<=kk
 ·rw [Tl,Zf q,Tl,Zf om]
 ·rw [Tl,Z8 q,Tl,Z8 om]
theorem P0 {b:Z7} {kk:Nat} {u u2:Value} {s:Z5} (hs:b.steps[kk]? = some s):WX b kk u kk++E7 s u2=WX b kk u2 (kk+1):=by
 rw [WX,Zf (X5 _),WX,Z8 om,FD hs,Ha (by rw [WC];omega),VE]
 show _=_++(E7 s u2++Zo [])
 rw [Z55,Jw]
theorem P3 {b:Z7} {kk:Nat} {s:Z5} (hs:b.steps[kk]? = some s):Zo (YL s.kids)=Tl b kk (kk+1):=by
 rw [Tl,Z8 om,FD hs]
theorem RL {α:Type}:∀(A X:List α) (m:Nat) (y:α),(A++X).set (A.length+m) y=A++X.set m y
 | [],X,m,y=>by simp
 | a::r,X,m,y=>by
  have:=RL r X m y
  rw [QC,YQ,show r.length+1+m=(r.length+m)+1 by omega,List.set_cons_succ,this,QC]
theorem Z7a {α:Type} (A X:List α) (m:Nat):(A++X)[A.length+m]? = X[m]?:=by
 rw [Jy om];congr 1;omega
section
variable {b:Z7} {kk:Nat} {u:Value} {s:Z5}
theorem IN (hs:b.steps[kk]? = some s):WX b kk u b.steps.length=Zo (Zy (b.steps.take kk))++(E7 s u++Zo (Zy (b.steps.drop (kk+1)))):=by
 have hk:=(Xc.1 hs).1
 rw [WX,Z8 om,FD hs,Vy]
theorem IM (hs:b.steps[kk]? = some s):(Zo (Zy (b.steps.take kk))).length=kk*5:=by
 have hk:=(Xc.1 hs).1
 rw [QO,WC,VA om]
theorem Z9g (hs:b.steps[kk]? = some s):(WX b kk u b.steps.length)[kk*5+4]? = some (.val u):=by
 rw [IN hs,<-IM hs,Z7a];rfl
theorem G5 (hs:b.steps[kk]? = some s):((WX b kk u b.steps.length).drop (kk*5+4)).take 1=[.val u]:=by
 rw [IN hs,<-IM hs,<-List.drop_drop,List.drop_left];rfl
theorem Z54 {xs:List Z5} {k:Nat} {t:Z5} (hk:k<xs.length):Zo (Zy (xs.set k t))=Zo (Zy (xs.take k))++(Xz t++Zo (Zy (xs.drop (k+1)))):=by
 rw [EG,Zf hk,WW,Qn,Fy]
theorem Z9h (hs:b.steps[kk]? = some s) (ks:List Z7):(WX b kk u b.steps.length).set (kk*5+4) (.sl (YL ks) none)=Zo (Zy (b.steps.set kk ⟨s.op,s.num,s.into,s.args,ks⟩)):=by
 have hk:=(Xc.1 hs).1
 rw [IN hs,<-IM hs,RL,Z54 hk];rfl
theorem IQ (hs:b.steps[kk]? = some s):Tl b kk b.steps.length=Zo (YL s.kids):=by
 have hk:=(Xc.1 hs).1
 rw [Tl,Z8 om,FD hs]
theorem Z9i (hs:b.steps[kk]? = some s):b.steps.set kk ⟨s.op,s.num,s.into,s.args,s.kids⟩=b.steps:=by
 have e:Z5.mk s.op s.num s.into s.args s.kids=s:=by cases s;rfl
 rw [e]
 apply List.ext_getElem?
 intro i
 rw [List.getElem?_set]
 split
 ·rename_i q;subst q;rw [Zf (Xc.1 hs).1];exact hs.symm
 ·rfl
end
theorem VX.set:∀(ls:List AV) (p:Nat) {x y:AV},Zd x y->VX (ls.set p x) (ls.set p y)
 | [],_,_,_,_=>.nil
 | a::r,0,_,_,h=>.cons h (VX.refl r)
 | a::r,p+1,_,_,h=>.cons (Zd.refl a) (VX.set r p h)
theorem VX.len:∀{xs ys:List AV},VX xs ys->ys.length=xs.length
 | _,_,.nil=>rfl
 | _,_,.cons _ t=>by rw [YQ,YQ,t.len]
theorem Z56 (v:Value) (k:Nat) (ls ks:List AV):Res.fp (.row v k ks)=Res.fp (.row v k ls):=by
 cases v with
 | slice a _ _=>cases a<;>rfl
 | _=>rfl
theorem Zcd {w:World} {G:Yc} {v:Value} {k:Nat} {ls ls':List AV} {h2:List Res} (hle:VX ls ls') (hh:Yv w G (.row v k ls::h2)):Yv w G (.row v k ls'::h2)/\YV w G (.row v k ls::h2) w G (.row v k ls'::h2):=by
 have hpw:=WH.1 hh.apart
 have hf:∀b o,Res.fp (.row v k ls') b o->Res.fp (.row v k ls) b o:=fun b o h=>by rw [Z56 v k ls ls'] at h;exact h
 refine ⟨⟨fun r hr=>?_,WH.2 ⟨fun r hr b o f1 f2=>hpw.1 r hr b o (hf b o f1) f2,hpw.2⟩,fun r hr b o f1 hg=>?_,hh.lt⟩,⟨rfl,rfl,rfl,X5 _,fun _ _ h=>h,fun _ _=>.inl rfl,fun _ _ _ h=>.inl h,fun b o _ ⟨r,hr,f1⟩=>?_⟩⟩
 ·rcases YB.1 hr with rfl|hr
  ·rcases hh.ok _ (Xf ..) with ⟨h0,h1⟩|⟨g,len,cap,cur,e,h0,h1,h3,h4,h5,h6⟩
   ·subst h1;cases hle;exact .inl ⟨h0,rfl⟩
   ·exact .inr ⟨g,len,cap,cur,e,h0,h1,h3,h4,by rw [hle.len];exact h5,hle.cs h6⟩
  ·exact hh.ok r (XD _ hr)
 ·rcases YB.1 hr with rfl|hr
  ·exact hh.prot _ (Xf ..) b o (hf b o f1) hg
  ·exact hh.prot r (XD _ hr) b o f1 hg
 ·rcases YB.1 hr with rfl|hr
  ·exact ⟨_,Xf ..,hf b o f1⟩
  ·exact ⟨r,XD _ hr,f1⟩
section
variable {h:List Res}
theorem Sz (j i:Nat) (b:Z7) (kk:Nat) (s:Z5) (ks:List Z7) (u v:Value) (hs:b.steps[kk]? = some s) (hp:Wn [j,i] h=some [.row u 2 (Zo (YL ks)),.row v 5 (WX b kk u b.steps.length)]:=by kernel_rfl) :
  Ts h (.row v 5 (Zo (Zy (b.steps.set kk ⟨s.op,s.num,s.into,s.args,ks⟩)))::.tail u 2::XJ [j,i] h):=by
 intro w G hh
 obtain ⟨G',a1,a2⟩:=Zfp j i (kk*5+4) hp (TP ks) om (Z9g hs) w G hh
 obtain ⟨b1,b2⟩:=Zcd (VX.set _ (kk*5+4) (Zd.forget (YL ks) (some u))) a1
 rw [Z9h hs] at b1 b2
 exact ⟨G',b1,a2.trans b2⟩
theorem Ma (j i:Nat) (b:Z7) (kk:Nat) (s:Z5) (u v:Value) (hs:b.steps[kk]? = some s) (hp:Wn [j,i] h=some [.row u 2 (Tl b kk b.steps.length),.row v 5 (WX b kk u b.steps.length)]:=by kernel_rfl) :
  Ts h (.row v 5 (Zo (Zy b.steps))::.tail u 2::XJ [j,i] h):=by
 have Yh:Wn [j,i] h=some [.row u 2 (Zo (YL s.kids)),.row v 5 (WX b kk u b.steps.length)]:=by rw [hp,IQ hs]
 have:=Sz j i b kk s s.kids u v hs Yh
 rwa [Z9i hs] at this
end
theorem NV {xs:List Z5} {k:Nat} (hk:k<xs.length):(Zo (Zy xs)).take (k*5)++(Zo (Zy xs)).drop ((k+1)*5)=Zo (Zy (xs.take k++xs.drop (k+1))):=by
 have h1:(Zo (Zy (xs.take k))).length=k*5:=by rw [QO,WC,VA om]
 have h2:(Zo (Zy (xs.take (k+1)))).length=(k+1)*5:=by rw [QO,WC,VA om]
 have e1:Zo (Zy xs)=Zo (Zy (xs.take k))++Zo (Zy (xs.drop k)):=by rw [<-Qn,<-WW,UB]
 have e2:Zo (Zy xs)=Zo (Zy (xs.take (k+1)))++Zo (Zy (xs.drop (k+1))):=by rw [<-Qn,<-WW,UB]
 rw [WW,Qn]
 congr 1
 ·rw [e1,<-h1,A0]
 ·conv=>lhs;rw [e2,<-h2,List.drop_left]
theorem Z4x {xs:List Z7} {i:Nat} {s:Z7} (h:xs[i]? = some s):((Zo (YL xs)).drop (i*2)).take 2=Xk s:=by
 have hi:=(Xc.1 h).1
 have h1:(Zo (YL (xs.take i))).length=i*2:=by rw [DV,WC,VA om]
 have e1:Zo (YL xs)=Zo (YL (xs.take i))++Zo (YL (xs.drop i)):=by rw [<-Qn,<-Ag,UB]
 rw [e1,<-h1,List.drop_left,Y7 h,Td,Un]
 rfl
section
variable {rs:List Yg} {k:Nat} {r:Yg}
theorem Ig (hk:k<rs.length) (r:Yg):Zo (YP (rs.set k r))=Zo (YP (rs.take k))++((Kc r).leaves++Zo (YP (rs.drop (k+1)))):=by
 rw [EG,Zf hk,BU,Qn];rfl
theorem NU (hk:k<rs.length):(Zo (YP (rs.take k))).length=k*5:=by rw [Fx,WC,VA om]
theorem Z51 (hk:k<rs.length) (r:Yg):((Zo (YP (rs.set k r))).drop (k*5+1)).take 1=[Z4 r.lent]:=by
 rw [Ig hk,<-NU hk,<-List.drop_drop,List.drop_left];rfl
theorem Z53 (hk:k<rs.length) (r:Yg) (l:LI):(Zo (YP (rs.set k r))).take (k*5+1)++[Z4 l]++(Zo (YP (rs.set k r))).drop (k*5+1+1)=Zo (YP (rs.set k ⟨r.params,l,r.result,r.body⟩)):=by
 have hl:=NU hk
 rw [Ig hk,Ig hk]
 have e:(Kc r).leaves=[Z4 r.params]++([Z4 r.lent]++[.i r.result,.sl (Zy r.body.steps) none,.i r.body.result]):=rfl
 have e2:(Kc ⟨r.params,l,r.result,r.body⟩).leaves=[Z4 r.params]++([Z4 l]++[.i r.result,.sl (Zy r.body.steps) none,.i r.body.result]):=rfl
 rw [e,e2]
 have q:=LA (A:=Zo (YP (rs.take k))++[Z4 r.params]) (xs:=[Z4 r.lent]) (ys:=[Z4 l]) (B:=[.i r.result,.sl (Zy r.body.steps) none,.i r.body.result]++Zo (YP (rs.drop (k+1)))) (o:=k*5+1) (by rw [Yq,hl];rfl) rfl
 simpa [Q1] using q
end
end Go.Abs
section
namespace Go.Abs
theorem UI {rs fs:List Func} (hp:fs <+: rs) {i:Nat} {f:Func} (hx:fs[i]? = some f) (c:Nat) {zs:List AV} (hz:((G6 f).drop c).take zs.length=zs) (hl:c+zs.length<=5):((Zo (Xs rs)).drop (i*5+c)).take zs.length=zs:=by
 obtain ⟨ys,rfl⟩:=hp
 have h1:(fs++ys)[i]? = some f:=by rw [QD (Xc.1 hx).1];exact hx
 have e1:=(UB i (fs++ys)).symm
 rw [Y7 h1] at e1
 have hl2:(Zo (Xs ((fs++ys).take i))).length=i*5:=by
  rw [TJ (k:=5) _ (Fk _),CK,WC,VA (by have:=(Xc.1 h1).1;omega)]
 have e2:Zo (Xs (fs++ys))=Zo (Xs ((fs++ys).take i))++(G6 f++Zo (Xs ((fs++ys).drop (i+1)))):=by
  conv=>lhs;rw [e1]
  simp only [Xs,Zo,List.map_append,Un,List.flatMap_append,AK]
  rfl
 rw [e2,List.drop_append,List.drop_of_length_le om,Cp,hl2,Nat.add_sub_cancel_left,List.drop_append_of_le_length (by show c<=5;omega),List.take_append_of_le_length (by rw [BB];show zs.length<=5-c;omega)]
 exact hz
theorem Ie (rs:List Func):(Zo (Xs rs)).length=rs.length*5:=by rw [TJ (k:=5) _ (Fk _),CK]
end Go.Abs
namespace Go.Abs
abbrev Wu (g:Wa) (gb:Nat):List AV:=[ZU g.decls,.ms gb 0 g.funcs.length 4]
abbrev XN (gb:Nat) (rs:List Func):Res:=.row (.slice (some ⟨gb,0,none⟩) 4 4) 5 (Zo (Xs rs))
abbrev Yw (rd:Nat) (bs:LI) (p:Nat):Res:=.obj rd [U3 bs,.i p]

end Go.Abs
end
namespace Go.Abs
theorem Zcf {w:World} {G:Yc} {g len cap k m:Nat} {ls:List AV} {h2:List Res} (hh:Yv w G (.row (.slice (some ⟨g,0,none⟩) len cap) k ls::h2)) (hle:m<=len) :
  Yv w G (.row (.slice (some ⟨g,0,none⟩) m cap) k (ls.take (m*k))::h2)/\YV w G (.row (.slice (some ⟨g,0,none⟩) len cap) k ls::h2) w G (.row (.slice (some ⟨g,0,none⟩) m cap) k (ls.take (m*k))::h2):=by
 have hpw:=WH.1 hh.apart
 have hfp:∀b o,Res.fp (.row (.slice (some ⟨g,0,none⟩) m cap) k (ls.take (m*k))) b o->Res.fp (.row (.slice (some ⟨g,0,none⟩) len cap) k ls) b o:=fun b o hf=>hf
 refine ⟨⟨fun r hr=>?_,WH.2 ⟨fun r hr b o h1 h2=>hpw.1 r hr b o (hfp b o h1) h2,hpw.2⟩,fun r hr b o hf hg=>?_,hh.lt⟩,⟨rfl,rfl,rfl,X5 _,fun _ _ h=>h,fun _ _=>.inl rfl,fun _ _ _ h=>.inl h,fun b o _ hf=>?_⟩⟩
 ·rcases YB.1 hr with rfl|hr
  ·rcases hh.ok _ (Xf ..) with ⟨h0,_⟩|⟨g',len',cap',cur,e,hv,h1,h3,h4,h5,h6⟩
   ·cases h0
   ·cases hv
    have hmk:m*k<=len*k:=QE k hle
    refine .inr ⟨g,m,cap,cur,e,rfl,h1,by omega,h4,by rw [WC,h5];omega,?_⟩
    have:=h6.take (m*k)
    rw [List.take_take,VA hmk] at this
    exact this
  ·exact hh.ok r (XD _ hr)
 ·rcases YB.1 hr with rfl|hr
  ·exact hh.prot _ (Xf ..) b o (hfp b o hf) hg
  ·exact hh.prot r (XD _ hr) b o hf hg
 ·obtain ⟨r,hr,hf⟩:=hf
  rcases YB.1 hr with rfl|hr
  ·exact ⟨_,Xf ..,hfp b o hf⟩
  ·exact ⟨r,XD _ hr,hf⟩
theorem Z50 {rs:List Func} {k:Nat} (f:Func) (hk:k<rs.length):(Zo (Xs rs)).take (k*5)++G6 f++(Zo (Xs rs)).drop (k*5+5)=Zo (Xs (rs.set k f)):=by
 rw [show Xs (rs.set k f)=(Xs rs).set k (DC f) by simp [Xs,List.map_set]]
 exact FA (y:=DC f) (Fk rs) rfl (by simpa using hk)
theorem WI.frzP {P:Program} {f:FuncId} {as1:List AV} {h0:List Res} {E:Type} {ds:E->List Zg} {rs:E->List Func} {m:E->Nat} {hs:E->List Res} {Q:E->Prop}
  (H:WI P f as1 h0 (fun r h=>∃(e:E) (gb:Nat),r=.agg [ZU (ds e),.ms gb 0 (m e) 4]/\h=.row (.slice (some ⟨gb,0,none⟩) 4 4) 5 (Zo (Xs (rs e)))::hs e/\Q e)) (hm:∀e,Q e->m e<=4/\(rs e).length=4) :
  WI P f as1 h0 (fun r h=>∃e:E,r=.agg [ZU (ds e),Ge ((rs e).take (m e))]/\h=hs e/\Q e):=by
 intro w G vs hv hh
 refine (H w G vs hv hh).mono ?_
 rintro e w' ⟨u,r,h',G',he,⟨x,gb,rfl,rfl,hq⟩,hr,hh',hx⟩
 obtain ⟨hm4,hr4⟩:=hm x hq
 obtain ⟨j1,j2⟩:=Zcf hh' hm4
 have hft:(Zo (Xs (rs x))).take (m x*5)=Zo (Xs ((rs x).take (m x))):=by
  have e1:rs x=(rs x).take (m x)++(rs x).drop (m x):=(UB _ _).symm
  have e2:Zo (Xs (rs x))=Zo (Xs ((rs x).take (m x)))++Zo (Xs ((rs x).drop (m x))):=by
   conv=>lhs;rw [e1]
   rw [Z4c,Qn]
  rw [e2,List.take_append_of_le_length (by rw [Ie,WC,show min (m x) (rs x).length=m x by omega];exact X5 _),Vi (by rw [Ie,WC];exact QE 5 (Nat.min_le_left _ _))]
 rw [hft] at j1 j2
 obtain ⟨G2,h1,h2,h3⟩:=Cf j1 (Fk _) om
 have hA:VT G' w' w' G2:=h2.agree j1
 refine ⟨u,_,hs x,G2,he,⟨x,rfl,rfl,hq⟩,?_,(h1.perm (List.perm_append_comm (l₁:=[_]))).left,((hx.trans j2).trans h2).sub' (BF _ _)⟩
 cases hr with
 | agg hc=>
  cases hc with
  | cons k1 t1=>
   cases t1 with
   | cons k2 t2=>
    cases t2
    have hv2:=k2.val_inv
    subst hv2
    refine .agg (.cons (k1.mono hA) (.cons ?_ .nil))
    have hw:Zd (.sl (Xs ((rs x).take (m x))) (some (.slice (some ⟨gb,0,none⟩) (m x) 4))) (Ge ((rs x).take (m x))):=Zd.forget _ _
    exact hw _ _ _ h3
open Go.Proofs
theorem Z6m (code:LI) (hl:code.length<=1048576:=by exact ob) (hc:∀z∈code,0<=z/\z<=255):Zl 52 [U3 code] [] (fun r h=>∃(rd:Nat) (bs:LI),r=.p rd 0/\h=[.obj rd [U3 bs,.i 0]]/\∀z∈bs,0<=z/\z<=255):=by
 refine ZG 11 Tryz.func52 (ZE (YF 1 (iw (KL code) (Z0 (XP (fun fz gz F h=>F=sF [] fz [(0,U3 (if (code.length:Int)>2000 then (code.take 2000) else code))]/\h=gz) ?_ ?_)))))
 ·refine XZ ((code.length:Int)>2000) (fun Za=>?_) (fun Za=>?_)
  ·exact az (Z1 1 (Zm (J4 (es:=TQ code) (hv:=none) (l:=0) (m:=2000) (sz:=1) (es':=TQ (code.take 2000)) kr om (by simp<;>omega) (by simp<;>omega) (Z47 _) (by first|(simp only [VS,Vy,HX,HW];done)|(simp only [VS,Vy,HX,HW];rfl)|(simp [HX,HW];done))) (Z0 (ZQ ⟨rfl,rfl⟩ (wk [] (fc (x:=U3 (code.take 2000)) (Zd.sl _ (Yj TQ (by first|rfl|(rw [Zf Za])|(rw [Z8 Za])|(simp [Za];done)|(rw [Xl];simp [Za];done)|omega))) fl))))))
  exact ak (ZQ ⟨rfl,rfl⟩ (wk [] (fc (x:=U3 code) (Zd.sl _ (Yj TQ (by first|rfl|(rw [Zf Za])|(rw [Z8 Za])|(simp [Za];done)|(rw [Xl];simp [Za];done)|omega))) fl)))
 rintro F h ⟨rfl,rfl⟩
 exact Y5 2 (iA [U3 (if (code.length:Int)>2000 then (code.take 2000) else code),.i 0] fun b1=>Zr (r1 [0] ⟨b1,(if (code.length:Int)>2000 then (code.take 2000) else code),rfl,rfl,(by first|exact hc|exact fun z hz=>hc z (TN hz)|(split<;>first|exact hc|exact fun z hz=>hc z (TN hz)))⟩))
theorem W8 (rd:Nat) (bs:LI) (p:Nat) (mx:Int) (ZH:∀z∈bs,0<=z/\z<=255) (hp:p+1<=1000000000:=by exact ob):Zl 79 [.p rd 0,.i mx] [Yw rd bs p] (fun r h=>∃(k:Int),r=.i k/\h=[.obj rd [U3 bs,.i (p+1:Nat)]]/\Pk mx k):=by
 refine ZG 99 Tryz.func79 (ZE (Zw 5 [0] (ZJ p (Z1 2 (ZI 0 rd [U3 bs,.i (p+1:Nat)] (ie (X1 (Xp [0,1] [(24,.b ((decide (mx<1))||((bs.length:Int)==0)))] (fun gz=>gz) ?_ ?_))))))))
 ·refine Z1 3 (ib (b:=(decide (mx<1))) 17 (fun Zb=>?_) (fun Zb=>?_))
  ·exact Z0 (wk [0] (Zu true Zb fl))
  exact ZP 4 [0] (iw (KL bs) (Z0 (wk [0] (Zu ((bs.length:Int)==0) Zb fl))))
 refine ac ((decide (mx<1))||((bs.length:Int)==0)) (p:=(mx<1)∨((bs.length:Int)=0)) (Yl dq Zq) (fun Za=>?_) (fun Za=>?_)
 ·exact ar (Zr (r1 [0] ⟨0,rfl,rfl,Pk.zero⟩))
 refine ak (Zw 4 [0] (ia ((p:Int)) ((((p+1:Nat):Int))-(1)) (Z0 (Yi 5 [0] (iw (KL bs) (Y1 ((p:Int)<(bs.length:Int)) (fun Ze=>?_) (fun Ze=>?_)))))))
 ·refine Zw 5 [0] ?_
  obtain ⟨x1,Z3⟩:=Zs bs p om
  have hz:=ZH _ (ZX Z3)
  exact Zm (Zi none (p:Int) 1 (CF Z3)) (Z1 1 (Zm (D7 x1 om) (Z1 1 (Zm (E5 x1 mx om om) (Zr (r1 [0] ⟨(x1 % mx),rfl,rfl,(Pk.rem om om)⟩))))))
 have hq1:p / bs.length<=p:=Nat.div_le_self _ _
 have hq0:(0:Int)<=((p / bs.length:Nat):Int):=Int.natCast_nonneg _
 refine ak (aD 46 (ZK 37 46 [0,1,2,3,4,5,6,7,8] [0,0] (dw 9 (KL bs) (dx 10 (G3 p bs.length om om) ?_))))
 obtain ⟨x2,Zt⟩:=Zs bs (p % bs.length) (Nat.mod_lt _ om)
 have hz:=ZH _ (ZX Zt)
 refine dx 11 (Zi none ((p % bs.length:Nat):Int) 1 (CF Zt)) (Zj 33 34 [12] (dx 13 (D7 x2 om) (da 14 ((x2*131)) ((x2)*(131)) (ZK 26 31 [15,16,17,18,19] [0] (da 20 (((p*7:Nat):Int)) (((p:Int))*(7)) (da 21 (((p*7+3:Nat):Int)) ((((p*7:Nat):Int))+(3)) (ZK 20 24 [22,23,24,25] [0] (dw 26 (KL bs) (dx 27 (G3 (p*7+3) bs.length om om) ?_)))))))))
 obtain ⟨x3,YO⟩:=Zs bs ((p*7+3) % bs.length) (Nat.mod_lt _ om)
 have hz3:=ZH _ (ZX YO)
 exact dx 28 (Zi none (((p*7+3) % bs.length:Nat):Int) 1 (CF YO)) (Zj 16 17 [29] (dx 30 (D7 x3 om) (da 31 ((x3*1117)) ((x3)*(1117)) (da 32 (((x2*131)+(x3*1117))) (((x2*131))+((x3*1117))) (Zj 12 13 [33] (da 34 (((p*29:Nat):Int)) (((p:Int))*(29)) (da 35 ((((x2*131)+(x3*1117))+((p*29:Nat):Int))) ((((x2*131)+(x3*1117)))+(((p*29:Nat):Int))) (ZK 5 10 [36,37,38,39,40] [0] (dw 41 (KL bs) (dx 42 (C6 p bs.length om om) (da 43 ((((p / bs.length:Nat):Int)*53)) ((((p / bs.length:Nat):Int))*(53)) (da 44 (((((x2*131)+(x3*1117))+((p*29:Nat):Int))+(((p / bs.length:Nat):Int)*53))) (((((x2*131)+(x3*1117))+((p*29:Nat):Int)))+((((p / bs.length:Nat):Int)*53))) (Zj 0 1 [45] (de (Y5 2 (Zm (IL ((((x2*131)+(x3*1117))+((p*29:Nat):Int))+(((p / bs.length:Nat):Int)*53)) 64 om om) (Zm (OY ((((x2*131)+(x3*1117))+((p*29:Nat):Int))+(((p / bs.length:Nat):Int)*53)) (((((x2*131)+(x3*1117))+((p*29:Nat):Int))+(((p / bs.length:Nat):Int)*53)) / 64)) (Z0 (Y5 2 (Zm (E5 (AJ ((((x2*131)+(x3*1117))+((p*29:Nat):Int))+(((p / bs.length:Nat):Int)*53)) (((((x2*131)+(x3*1117))+((p*29:Nat):Int))+(((p / bs.length:Nat):Int)*53)) / 64)) mx om (H6 ⟨by omega,by omega⟩ ⟨by omega,by omega⟩).1) (Zr (r1 [0] ⟨((AJ ((((x2*131)+(x3*1117))+((p*29:Nat):Int))+(((p / bs.length:Nat):Int)*53)) (((((x2*131)+(x3*1117))+((p*29:Nat):Int))+(((p / bs.length:Nat):Int)*53)) / 64)) % mx),rfl,rfl,(Pk.rem (H6 ⟨by omega,by omega⟩ ⟨by omega,by omega⟩).1 om)⟩))))))))))))))))))))))
theorem VN (rd:Nat) (bs:LI) (p:Nat) (xs:LI) (ZH:∀z∈bs,0<=z/\z<=255) (hp:p+1<=1000000000:=by exact ob) (hx:0<xs.length/\xs.length<=1000000:=by exact ob):Zl 62 [.p rd 0,Z4 xs] [Yw rd bs p] (fun r h=>∃(z:Int),r=.i z/\h=[.obj rd [U3 bs,.i (p+1:Nat)]]/\z∈xs):=by
 refine ZG 12 Tryz.func62 (ZE (Y5 3 (iw (Y8 xs) (ic [0] (W8 rd bs p (xs.length:Int) (ZH:=ob)) ?_))))
 rintro _ _ ⟨k1,rfl,rfl,ZW⟩
 have hk:=ZW.lt om
 obtain ⟨x1,Z3⟩:=Zs xs k1.toNat om
 exact Zm (Zi none k1 1 (ZZ Z3)) (Zr (r1 [0] ⟨x1,rfl,rfl,(ZX Z3)⟩))
theorem Q9 (fs:LI) :Zl 144 [Z4 fs] [] (Yo (DB (Yk.mk fs))):=by
 exact ZG 5 Tryz.func144 (ar (iA [nl] fun b1=>ie (Y5 2 (ZI 0 b1 [Z4 fs] (ie (ZD (r3 [] [.agg [Z4 fs]] [0] [(b1,b1)] ⟨rfl,rfl⟩ (Zd.agg (.cons (Zd.sl _ (Yj Z6 ob)) .nil)))))))))
theorem O9 (rd:Nat) (bs:LI) (p:Nat) (ZH:∀z∈bs,0<=z/\z<=255) (hp:p+1<=1000000000:=by exact ob):Zl 143 [.p rd 0] [Yw rd bs p] (fun r h=>∃(ds:List Zg) (v:Hd),r=.h v/\h=[rK v 3 (Zo (X3 ds)),.obj rd [U3 bs,.i (p+1:Nat)]]/\GD ds):=by
 refine ZG 51 Tryz.func143 (ZE (ar (iL (Z6 []) 0 1 fun v1=>ZT 0 [(8,Z4 [])] (Zz [] (Q9 []) (iL (Z6 [0,1]) 2 1 fun v2=>ZT 0 [(10,Z4 [0,1])] (Zz [] (Q9 [0,1]) (iL (WV [Yk.mk [],Yk.mk [0,1]]) 2 1 fun v3=>Z1 1 (iA [.i 0,.i 0,nl] fun b1=>ZI 0 b1 [.i 0,.i 0,Gh [Yk.mk [],Yk.mk [0,1]] v3] (ie (ar (iL (Z6 []) 0 1 fun v4=>ZT 0 [(14,Z4 [])] (Zz [] (Q9 []) (iL (Z6 [3,0,3]) 3 1 fun v5=>ZT 0 [(16,Z4 [3,0,3])] (Zz [] (Q9 [3,0,3]) (iL (WV [Yk.mk [],Yk.mk [3,0,3]]) 2 1 fun v6=>Z1 1 (iA [.i 0,.i 0,nl] fun b2=>ZI 0 b2 [.i 0,.i 0,Gh [Yk.mk [],Yk.mk [3,0,3]] v6] (ie (ar (iL (Z6 [1,3]) 2 1 fun v7=>ZT 0 [(20,Z4 [1,3])] (Zz [] (Q9 [1,3]) (iL (WV [Yk.mk [1,3]]) 1 1 fun v8=>Z1 2 (iL (Z6 [1,1,0]) 3 1 fun v9=>ZT 0 [(25,Z4 [1,1,0])] (Zz [] (Q9 [1,1,0]) (iL (Z6 [0]) 1 1 fun v10=>ZT 0 [(27,Z4 [0])] (Zz [] (Q9 [0]) (iL (Z6 [3]) 1 1 fun v11=>ZT 0 [(29,Z4 [3])] (Zz [] (Q9 [3]) (iL (WV [Yk.mk [1,1,0],Yk.mk [0],Yk.mk [3]]) 3 1 fun v12=>ZT 2 [(23,.agg [.i 0,.i 0,KZ [Yk.mk [1,3]]]),(24,.agg [.i 1,.i 0,.sl [] none]),(32,.agg [.i 0,.i 0,KZ [Yk.mk [1,1,0],Yk.mk [0],Yk.mk [3]]]),(33,.agg [.i 0,.i 1,.sl [] none])] (iL (X3 [Zg.mk 0 0 [Yk.mk [1,3]],Zg.mk 1 0 [],Zg.mk 0 0 [Yk.mk [1,1,0],Yk.mk [0],Yk.mk [3]],Zg.mk 0 1 []]) 4 3 fun v13=>Z0 (ar (Qv 3 [(35,.agg [.i 0,.i 0,KZ [Yk.mk [],Yk.mk [0,1]]]),(36,.agg [.i 0,.i 0,.sl [] none]),(37,.agg [.i 0,.i 0,KZ [Yk.mk [],Yk.mk [3,0,3]]])] [11,7] (iKN (Zo (X3 [Zg.mk 0 0 [Yk.mk [],Yk.mk [0,1]],Zg.mk 0 0 [],Zg.mk 0 0 [Yk.mk [],Yk.mk [3,0,3]]])) 3 3 fun g1=>Z0 (Y5 1 (ic [16] (W8 rd bs p 5 (ZH:=ob)) ?_))))))))))))))))))))))))))))))))))
 rintro _ _ ⟨k1,rfl,rfl,ZW⟩
 have hk:=ZW.lt om
 refine Z0 (X1 (Y1 (k1<4) (fun Za=>?_) (fun Za=>?_)))
 ·refine az (Z1 3 ?_)
  obtain ⟨x1,Z3⟩:=Zs [Zg.mk 0 0 [Yk.mk [1,3]],Zg.mk 1 0 [],Zg.mk 0 0 [Yk.mk [1,1,0],Yk.mk [0],Yk.mk [3]],Zg.mk 0 1 []] k1.toNat (by show k1.toNat<4;omega)
  exact Zm (Zi (some v13) k1 3 (VM Z3)) (Z1 1 (iL (X3 [x1]) 1 3 fun v14=>ZT 0 [(48,ZU [x1])] (FQ 2 3 (⟨some ⟨g1,0,none⟩,3,3⟩:Hd) 3 (Zo (X3 [Zg.mk 0 0 [Yk.mk [],Yk.mk [0,1]],Zg.mk 0 0 [],Zg.mk 0 0 [Yk.mk [],Yk.mk [3,0,3]]])) (X3 [x1]) none rfl (Jk _) (Fi _) (by simp [X3]) (by simp<;>omega) fun v15=>Z0 (ar (Zr (r1 [0,1] ⟨([Ae,Zg.mk 0 0 [],Af]++[x1]),v15,rfl,rfl,(GD.four Z3)⟩ (eq:=(rr (ls:=Zo (X3 [Zg.mk 0 0 [Yk.mk [],Yk.mk [0,1]],Zg.mk 0 0 [],Zg.mk 0 0 [Yk.mk [],Yk.mk [3,0,3]]])++Zo (X3 [x1])) (Ic _ _) (rc rz)))))))))
 exact ak (ar (Zr (r1 [1,0] ⟨[Ae,Zg.mk 0 0 [],Af],(⟨some ⟨g1,0,none⟩,3,3⟩:Hd),rfl,rfl,GD.three⟩ (eq:=(rr (ls:=Zo (X3 [Zg.mk 0 0 [Yk.mk [],Yk.mk [0,1]],Zg.mk 0 0 [],Zg.mk 0 0 [Yk.mk [],Yk.mk [3,0,3]]])) rfl (rc rz))))))
theorem Z63 (rd:Nat) (bs:LI) (p:Nat) (ZH:∀z∈bs,0<=z/\z<=255) (hp:p+1<=1000000000:=by exact ob):Zl 143 [.p rd 0] [Yw rd bs p] (fun r h=>∃(ds:List Zg) (v:Value),r=JT ds v/\h=[.tail v 3,.obj rd [U3 bs,.i (p+1:Nat)]]/\GD ds):=(O9 rd bs p ZH hp).frz (es:=X3) (hs:=fun _=>[.obj rd [U3 bs,.i (p+1:Nat)]]) Jk om
theorem Z5e (rd:Nat) (bs:LI) (p:Nat) (ZH:∀z∈bs,0<=z/\z<=255) (hp:p+5<=1000000000:=by exact ob):Zl 113 [.p rd 0] [Yw rd bs p] (fun r h=>∃(dz:List Zg) (p2:Nat),r=ZU dz/\h=[Yw rd bs p2]/\AD dz/\p<=p2/\p2<=p+5):=by
 refine ZG 89 Tryz.func113 (ZE (Y5 1 (ic [0] (O9 rd bs p (ZH:=ob)) ?_)))
 rintro _ _ ⟨ds1,v1,rfl,rfl,ZW⟩
 have hgl:=ZW.len
 have hga:=ZW.ad
 refine FP 0 ds1.length (v:=v1) (BY _) om (fun g1 c1 he1=>?_)
 subst he1
 refine Z0 (Y5 2 (io (.i ds1.length) (.i ds1.length) (lr _) (ic [1] (W8 rd bs (p+1) (ds1.length:Int) (ZH:=ob)) ?_)))
 rintro _ _ ⟨k1,rfl,rfl,Yh⟩
 have qhp2:=Yh.lt om
 refine Z0 (YF 1 (ic [0] (W8 rd bs ((p+1)+1) 14 (ZH:=ob)) ?_))
 rintro _ _ ⟨k2,rfl,rfl,YE⟩
 have qhp3:=YE.lt om
 refine ie (ab 0 (ZE (KI (fun fz gz F h=>∃(dq:List Zg) (vq:Hd) (pq:Nat),(AD dq)/\(p<=pq/\pq<=p+5)/\F=sF [] fz [(3,.h vq)]/\h=[Yw rd bs pq,rK vq 3 (Zo (X3 dq))]) (fun _ _=>rfl) ?_ ?_)))
 ·refine ac (k2==0) Zq (fun Za=>?_) (fun Za=>?_)
  ·refine az (Z1 3 (iL (Z6 [-1,5,0,2]) 4 1 fun v2=>ZT 0 [(18,Z4 [-1,5,0,2])] (ic [1] (VN rd bs (((p+1)+1)+1) [-1,5,0,2] (ZH:=ob)) ?_)))
   rintro _ _ ⟨z1,rfl,rfl,YK⟩
   refine Z1 1 (iL (Z6 [0,1,5]) 3 1 fun v3=>ZT 0 [(21,Z4 [0,1,5])] (ic [1] (VN rd bs ((((p+1)+1)+1)+1) [0,1,5] (ZH:=ob)) ?_))
   rintro _ _ ⟨z2,rfl,rfl,X9⟩
   exact Z1 1 (Zm (Wp g1 ds1.length c1 k1.toNat 3 k1) (ZT 0 [(23,.agg [.i z1,.i z2,.sl [] none])] (E3 3 g1 ds1.length c1 3 (k1.toNat * 3) [.i z1,.i z2,.sl [] none] (Zo (X3 ds1)) (Zo (X3 (ds1.set k1.toNat (Zg.mk z1 z2 [])))) (by rw [BY];simp only [YQ,Xu];omega) (Fw (Zg.mk z1 z2 []) om) (ie (ZQ ⟨(ds1.set k1.toNat (Zg.mk z1 z2 [])),(⟨some ⟨g1,0,none⟩,ds1.length,c1⟩:Hd),((((p+1)+1)+1)+1)+1,(hga.set _ (by simp)),ob,rfl,rfl⟩ (wk [1,0] fl))))))
  refine ar (YD (k2==1) Zq (fun Ze=>?_) (fun Ze=>?_))
  ·refine az (Z1 3 (iL (Z6 [-1,0,4,5]) 4 1 fun v4=>ZT 0 [(30,Z4 [-1,0,4,5])] (ic [1] (VN rd bs (((p+1)+1)+1) [-1,0,4,5] (ZH:=ob)) ?_)))
   rintro _ _ ⟨z3,rfl,rfl,XK⟩
   exact iL (Z6 [z3]) 1 1 fun v5=>ZT 0 [(32,Z4 [z3])] (Zz [] (Q9 [z3]) (iL (Z6 [0,0,0,0]) 4 1 fun v6=>ZT 0 [(34,Z4 [0,0,0,0])] (Zz [] (Q9 [0,0,0,0]) (iL (Z6 []) 0 1 fun v7=>ZT 0 [(36,Z4 [])] (Zz [] (Q9 []) (iL (WV [Yk.mk [z3],Yk.mk [0,0,0,0],Yk.mk []]) 3 1 fun v8=>Z1 1 (Zm (Wp g1 ds1.length c1 k1.toNat 3 k1) (ZT 0 [(39,.agg [.i 0,.i 0,KZ [Yk.mk [z3],Yk.mk [0,0,0,0],Yk.mk []]])] (E3 6 g1 ds1.length c1 3 (k1.toNat * 3) [.i 0,.i 0,KZ [Yk.mk [z3],Yk.mk [0,0,0,0],Yk.mk []]] (Zo (X3 ds1)) (Zo (X3 (ds1.set k1.toNat (Zg.mk 0 0 [Yk.mk [z3],Yk.mk [0,0,0,0],Yk.mk []])))) (by rw [BY];simp only [YQ,Xu];omega) (Fw (Zg.mk 0 0 [Yk.mk [z3],Yk.mk [0,0,0,0],Yk.mk []]) om) (ie (ZQ ⟨(ds1.set k1.toNat (Zg.mk 0 0 [Yk.mk [z3],Yk.mk [0,0,0,0],Yk.mk []])),(⟨some ⟨g1,0,none⟩,ds1.length,c1⟩:Hd),(((p+1)+1)+1)+1,(hga.set _ (by simp)),ob,rfl,rfl⟩ (wk [5,0] fl))))))))))))
  refine ar (YD (k2==2) Zq (fun ZC=>?_) (fun ZC=>?_))
  ·exact az (Z1 3 (ia ((k1+1)) ((k1)+(1)) (iL (Z6 [k1+1]) 1 1 fun v9=>ZT 0 [(47,Z4 [k1+1])] (Zz [] (Q9 [k1+1]) (iL (WV [Yk.mk [k1+1]]) 1 1 fun v10=>Z1 1 (Zm (Wp g1 ds1.length c1 k1.toNat 3 k1) (ZT 0 [(50,.agg [.i 0,.i 0,KZ [Yk.mk [k1+1]]])] (E3 3 g1 ds1.length c1 3 (k1.toNat * 3) [.i 0,.i 0,KZ [Yk.mk [k1+1]]] (Zo (X3 ds1)) (Zo (X3 (ds1.set k1.toNat (Zg.mk 0 0 [Yk.mk [(k1+1)]])))) (by rw [BY];simp only [YQ,Xu];omega) (Fw (Zg.mk 0 0 [Yk.mk [(k1+1)]]) om) (ie (ZQ ⟨(ds1.set k1.toNat (Zg.mk 0 0 [Yk.mk [(k1+1)]])),(⟨some ⟨g1,0,none⟩,ds1.length,c1⟩:Hd),((p+1)+1)+1,(hga.set _ (by simp)),ob,rfl,rfl⟩ (wk [3,0] fl)))))))))))
  refine ar (YD (k2==3) Zq (fun Ye=>?_) (fun Ye=>?_))
  ·refine az (Z1 2 (iL (Z6 [0,2,1]) 3 1 fun v11=>ZT 0 [(56,Z4 [0,2,1])] (ic [1] (VN rd bs (((p+1)+1)+1) [0,2,1] (ZH:=ob)) ?_)))
   rintro _ _ ⟨z4,rfl,rfl,Wo⟩
   exact ZT 1 [(58,.agg [.i 2,.i z4,.sl [] none])] (iL (X3 [Zg.mk 2 z4 []]) 1 3 fun v12=>ZT 0 [(59,ZU [Zg.mk 2 z4 []])] (FQ 3 ds1.length (⟨some ⟨g1,0,none⟩,ds1.length,c1⟩:Hd) 3 (Zo (X3 ds1)) (X3 [Zg.mk 2 z4 []]) none (BY _) (Jk _) (Fi _) (by simp [X3]) (by simp<;>omega) fun v13=>Z0 (ZQ ⟨(ds1++[Zg.mk 2 z4 []]),v13,(((p+1)+1)+1)+1,(hga.app (by simp;omega) (by simp)),ob,rfl,rfl⟩ (wk [2,0] fl (e:=(rc (rr (ls:=Zo (X3 ds1)++Zo (X3 [Zg.mk 2 z4 []])) (Ic _ _) rz)))))))
  refine ar (YD (k2==4) Zq (fun Xg=>?_) (fun Xg=>?_))
  ·refine az (Z1 3 (ic [0] (W8 rd bs (((p+1)+1)+1) 2 (ZH:=ob)) ?_))
   rintro _ _ ⟨k3,rfl,rfl,WR⟩
   have qhp8:=WR.lt om
   refine iL (Z6 []) 0 1 fun v14=>ZT 0 [(67,Z4 [])] (Zz [] (Q9 []) (iL (Z6 [2]) 1 1 fun v15=>ZT 0 [(69,Z4 [2])] (Zz [] (Q9 [2]) (iL (Z6 []) 0 1 fun v16=>ZT 0 [(71,Z4 [])] (Zz [] (Q9 []) (iL (Z6 []) 0 1 fun v17=>ZT 0 [(73,Z4 [])] (Zz [] (Q9 []) (iL (WV [Yk.mk [],Yk.mk [2],Yk.mk [],Yk.mk []]) 4 1 fun v18=>Z1 1 (ic [5] (W8 rd bs ((((p+1)+1)+1)+1) 3 (ZH:=ob)) ?_)))))))))
   rintro _ _ ⟨k4,rfl,rfl,Vc⟩
   have qhp9:=Vc.lt om
   exact Zm (J4 (es:=WV [Yk.mk [],Yk.mk [2],Yk.mk [],Yk.mk []]) (hv:=some v18) (l:=k4) (m:=(((WV [Yk.mk [],Yk.mk [2],Yk.mk [],Yk.mk []]).length:Nat):Int)) (sz:=1) (es':=WV ([Yk.mk [],Yk.mk [2],Yk.mk [],Yk.mk []].drop k4.toNat)) kr om (by simp<;>omega) (by simp<;>omega) (HZ _) (by first|(simp only [VS,Vy,I0,HY];done)|(simp only [VS,Vy,I0,HY];rfl)|(simp [I0,HY];done))) (Z1 1 (Zm (Wp g1 ds1.length c1 k1.toNat 3 k1) (E3 6 g1 ds1.length c1 3 (k1.toNat * 3) [.i k3,.i 0,KZ ([Yk.mk [],Yk.mk [2],Yk.mk [],Yk.mk []].drop k4.toNat)] (Zo (X3 ds1)) (Zo (X3 (ds1.set k1.toNat (Zg.mk k3 0 ([Yk.mk [],Yk.mk [2],Yk.mk [],Yk.mk []].drop k4.toNat))))) (by rw [BY];simp only [YQ,Xu];omega) (Fw (Zg.mk k3 0 ([Yk.mk [],Yk.mk [2],Yk.mk [],Yk.mk []].drop k4.toNat)) om) (ie (ZQ ⟨(ds1.set k1.toNat (Zg.mk k3 0 ([Yk.mk [],Yk.mk [2],Yk.mk [],Yk.mk []].drop k4.toNat))),(⟨some ⟨g1,0,none⟩,ds1.length,c1⟩:Hd),((((p+1)+1)+1)+1)+1,(hga.set _ ⟨by simp,fun c hc=>(by decide:∀c∈[Yk.mk [],Yk.mk [2],Yk.mk [],Yk.mk []],c.fields.length<=4) c (List.mem_of_mem_drop hc)⟩),ob,rfl,rfl⟩ (wk [1,0] fl))))))
  refine ar (YD (k2==5) Zq (fun Xd=>?_) (fun Xd=>?_))
  ·exact az (ZT 3 [(84,.agg [.i 0,.i 0,.sl [] none]),(85,.agg [.i 3,.i 0,.sl [] none])] (iL (X3 [Zg.mk 0 0 [],Zg.mk 3 0 []]) 2 3 fun v19=>ZT 0 [(86,ZU [Zg.mk 0 0 [],Zg.mk 3 0 []])] (FQ 2 ds1.length (⟨some ⟨g1,0,none⟩,ds1.length,c1⟩:Hd) 3 (Zo (X3 ds1)) (X3 [Zg.mk 0 0 [],Zg.mk 3 0 []]) none (BY _) (Jk _) (Fi _) (by simp [X3]) (by simp<;>omega) fun v20=>Z0 (ZQ ⟨(ds1++[Zg.mk 0 0 [],Zg.mk 3 0 []]),v20,((p+1)+1)+1,(hga.app (by simp;omega) (by simp)),ob,rfl,rfl⟩ (wk [2,0] fl (e:=(rc (rr (ls:=Zo (X3 ds1)++Zo (X3 [Zg.mk 0 0 [],Zg.mk 3 0 []])) (Ic _ _) rz))))))))
  exact ak (ZQ ⟨ds1,(⟨some ⟨g1,0,none⟩,ds1.length,c1⟩:Hd),((p+1)+1)+1,hga,ob,rfl,rfl⟩ (wk [0,0] fl))
 rintro F h ⟨dq,vq,pq,KU,II,rfl,rfl⟩
 exact ZE (Z99 2 1 (v:=vq) (X3 dq) (Jk _) (ZD (r2 [1] [JT dq vq.v] ⟨dq,pq,rfl,rfl,⟨KU,II⟩⟩ (Zd.forget _ _))))
theorem Zeh (ds:List Zg) (n:Nat) (hz:A6 ds:=by exact ob) (hn:n<ds.length:=by exact ob):Zl 268 [ZU ds,.i n] [] (Yo (.b (BT ds n))):=by
 have hl_ds:ds.length<=4294967296:=by have:=hz.len;omega
 refine ZG 100 Tryz.func268 (ZE (Y5 2 ?_))
 obtain ⟨x1,Z3⟩:=Zs ds n om
 have hdo:=DL Z3
 have hz1:=hz.cons_at Z3
 refine Zm (Zi none (n:Int) 3 (VM Z3)) (Z1 1 (iA [.i 0,.i 0,nl] fun b1=>ZI 0 b1 (QV x1) (ie (Yi 2 [0] (iw (UW x1.cons) (Y1 ((x1.cons.length:Int)>0) (fun Za=>?_) (fun Za=>?_)))))))
 ·refine Yi 2 [0] (iw (UW x1.cons) (XL 9 [0,5] [(24,.b ((decide ((x1.cons.length:Int)>3))||(x1.frm != 0)))] (fun gz=>gz) ?_ (fun hj1=>?_)))
  ·refine Xp [0,5] [(29,.b (((decide ((x1.cons.length:Int)>3))||(x1.frm != 0))||(x1.to_ != 0)))] (fun gz=>gz) ?_ ?_
   ·refine Z1 1 (ib (b:=((decide ((x1.cons.length:Int)>3))||(x1.frm != 0))) 25 (fun Zb=>?_) (fun Zb=>?_))
    ·have ZW:((x1.cons.length:Int)>3)∨(x1.frm≠0):=((Yl dq Ym)).1 Zb
     exact Z0 (wk [0] (Zu true Zb fl))
    have Yh:¬(((x1.cons.length:Int)>3)∨(x1.frm≠0)):=Yd (Yl dq Ym) Zb
    exact VI [0] (wk [0] (Zu (x1.to_ != 0) Zb fl))
   refine ac (((decide ((x1.cons.length:Int)>3))||(x1.frm != 0))||(x1.to_ != 0)) (p:=(((x1.cons.length:Int)>3)∨(x1.frm≠0))∨(x1.to_≠0)) (Yl (Yl dq Ym) Ym) (fun Ze=>?_) (fun Ze=>?_)
   ·exact ar (Zr (Y3 (.b false) (lb (by clear Z3;first|rfl|omega|grind [UH]))))
   refine ak (Y9 (ab 0 (Y2 (fun fz gz m F h=>∃(k:Nat),(k<=x1.cons.length)/\(TG ds.length (x1.cons.drop k)=TG ds.length x1.cons)/\F=sF [0,5] fz [(6,.i k)]/\h=gz/\m=x1.cons.length-k) _ _ _ ⟨0,ob,ob,rfl,rfl,rfl⟩ (wk [0] (Ya fl)) ?_)))
   rintro m F h ⟨k,Yf,Zh,rfl,rfl,rfl⟩
   refine Yi 3 [0] (iw (UW x1.cons) (Y1 ((k:Int)<(x1.cons.length:Int)) (fun ZC=>?_) (fun ZC=>?_)))
   ·refine ak (aq (ab 1 (Zw 3 [0] ?_)))
    obtain ⟨x2,Zt⟩:=Zs x1.cons k om
    refine Zm (Zi none (k:Int) 1 (CG Zt)) (Z1 2 (iw (Y8 x2.fields) (Xp [0,5,6] [(55,.b ((decide ((x2.fields.length:Int)>3))||(!Wj ds.length x2.fields)))] (fun gz=>gz) ?_ ?_)))
    ·refine Z1 2 (ib (b:=(decide ((x2.fields.length:Int)>3))) 45 (fun ZA=>?_) (fun ZA=>?_))
     ·have YE:(x2.fields.length:Int)>3:=(dq).1 ZA
      exact Z0 (wk [0] (Zu true ZA fl))
     have YK:¬((x2.fields.length:Int)>3):=Yd dq ZA
     exact ZP 4 [0] (Zm (Zi none (k:Int) 1 (CG Zt)) (Z1 2 (Zz [] (S0 ds x2.fields) (Z0 (wk [0] (Zu (!Wj ds.length x2.fields) ZA fl))))))
    refine ac ((decide ((x2.fields.length:Int)>3))||(!Wj ds.length x2.fields)) (p:=((x2.fields.length:Int)>3)∨(¬(Wj ds.length x2.fields=true))) (Yl dq (Yr Iff.rfl)) (fun Ye=>?_) (fun Ye=>?_)
    ·refine ZE ?_
     rw [Y7 Zt] at Zh
     exact ZD (Y3 (.b false) (lb (by clear Z3 Zt;first|rfl|omega|grind [TG,Ji,UH])))
    refine ak (az (Z1 1 (ZJ k (Z0 ?_))))
    have hdr:=Y7 Zt
    exact ZL ⟨k+1,ob,(by rw [hdr] at Zh;clear hdr Z3 Zt;grind [TG,Ji]),rfl,rfl,rfl⟩ (wk [0] (ZO k fl))
   refine ax 0 (ZE ?_)
   try rw [Xh (xs:=x1.cons) (k:=k) om] at Zh
   exact ZD (Y3 (.b true) (lb (by clear Z3;first|rfl|omega|grind [TG,Ji,UH])))
  refine Z1 2 (ib (b:=(decide ((x1.cons.length:Int)>3))) 20 (fun YA=>?_) (fun YA=>?_))
  ·have X9:(x1.cons.length:Int)>3:=(dq).1 YA
   exact Z1 4 (Yx (wk [0] (Zu true YA fl)) hj1)
  have XK:¬((x1.cons.length:Int)>3):=Yd dq YA
  exact ZP 4 [0] (Yx (wk [0] (Zu (x1.frm != 0) YA fl)) hj1)
 refine ak (Y9 (ab 2 (Y2 (fun fz gz m F h=>∃(j:Nat),(j<=n)/\(QM x1 ((ds.take n).drop j)=QM x1 (ds.take n))/\F=sF [0,1,5] fz [(7,.i j)]/\h=gz/\m=n-j) _ _ _ ⟨0,ob,ob,rfl,rfl,rfl⟩ (wk [0] (Ya fl)) ?_)))
 rintro m F h ⟨j,Uo,W2,rfl,rfl,rfl⟩
 refine X1 (Y1 ((j:Int)<(n:Int)) (fun Xg=>?_) (fun Xg=>?_))
 ·refine ak (aq (ab 3 (aD 27 (Zj 25 27 [0,1] ?_))))
  obtain ⟨x3,YO⟩:=Zs ds j om
  refine dx 2 (Zi none (j:Int) 3 (VM YO)) (Zj 22 24 [3,4] (dw 5 (UW x3.cons) (Ad [0,1,5,7] [(87,.b (((x3.cons.length:Int)==0)&&((x3.frm==x1.frm)&&(x3.to_==x1.to_))))] (fun gz=>gz) ?_ ?_)))
  ·refine Zj 19 21 [6,7] (db (b:=((x3.cons.length:Int)==0)) 68 (fun Xq=>?_) (fun Xq=>?_))
   ·have Wo:(x3.cons.length:Int)=0:=(Zq).1 Xq
    refine Zj 17 19 [8,9] (dx 10 (Zi none (j:Int) 3 (VM YO)) (ZK 9 16 [11,12,13,14,15,16,17] [0] (db (b:=(x3.frm==x1.frm)) 78 (fun Wy=>?_) (fun Wy=>?_))))
    ·have WR:x3.frm=x1.frm:=(Zq).1 Wy
     exact Zj 7 9 [18,19] (dx 20 (Zi none (j:Int) 3 (VM YO)) (ZK 0 6 [21,22,23,24,25,26] [0] (de (wk [0] (Zu (x3.to_==x1.to_) (And.intro Xq Wy) fl)))))
    have Vc:¬(x3.frm=x1.frm):=Yd Zq Wy
    exact Zj 0 9 [18,19,20,21,22,23,24,25,26] (de (wk [0] (Zu false (And.intro Xq Wy) fl)))
   have Ut:¬((x3.cons.length:Int)=0):=Yd Zq Xq
   exact Zj 0 19 [8,9,10,11,12,13,14,15,16,17,18,19,20,21,22,23,24,25,26] (de (wk [0] (Zu false Xq fl)))
  refine ac (((x3.cons.length:Int)==0)&&((x3.frm==x1.frm)&&(x3.to_==x1.to_))) (p:=((x3.cons.length:Int)=0)/\((x3.frm=x1.frm)/\(x3.to_=x1.to_))) (YG Zq (YG Zq Zq)) (fun Xd=>?_) (fun Xd=>?_)
  ·refine ZE ?_
   rw [Y7 (show (ds.take n)[j]? = some x3 by rw [TE,Zf om];exact YO),QM,Zf om] at W2
   exact ZD (Y3 (.b false) (lb (by clear Z3 YO;first|rfl|omega|grind [UH])))
  refine ak (az (Z1 1 (ZJ j (hb:=(by have:=hz.len;omega)) (Z0 ?_))))
  have hdr:=Y7 YO
  exact ZL ⟨j+1,ob,(by rw [Y7 (show (ds.take n)[j]? = some x3 by rw [TE,Zf om];exact YO),QM,Z8 om] at W2;exact W2),rfl,rfl,rfl⟩ (wk [0] (ZO j fl))
 refine ax 2 (Zw 3 [0] (iw (Up ds) (Zz [] (UM x1.frm 0 (ds.length:Int)) (XL 12 [] [(99,.b ((decide (0<=x1.frm/\x1.frm<=(ds.length:Int)))&&(decide (0<=x1.to_/\x1.to_<=(ds.length:Int)))))] (fun gz=>gz) ?_ (fun hj2=>?_)))))
 ·refine Z0 ?_
  rw [Xh (show (ds.take n).length<=j by rw [WC];omega),QM] at W2
  exact ZD (Y3 (.b ((decide (0<=x1.frm/\x1.frm<=(ds.length:Int)))&&(decide (0<=x1.to_/\x1.to_<=(ds.length:Int))))) (lb (by clear Z3;first|rfl|omega|grind [UH])))
 refine Z1 1 (ib (b:=(decide (0<=x1.frm/\x1.frm<=(ds.length:Int)))) 93 (fun V4=>?_) (fun V4=>?_))
 ·have T0:0<=x1.frm/\x1.frm<=(ds.length:Int):=(dq).1 V4
  exact ZP 3 [0] (iw (Up ds) (Zz [] (UM x1.to_ 0 (ds.length:Int)) (Z1 1 (Yx (wk [0] (Zu (decide (0<=x1.to_/\x1.to_<=(ds.length:Int))) V4 fl)) hj2))))
 have T1:¬(0<=x1.frm/\x1.frm<=(ds.length:Int)):=Yd dq V4
 exact Z1 6 (Yx (wk [0] (Zu false V4 fl)) hj2)
theorem Zem (ds:List Zg) (hz:A6 ds:=by exact ob):Zl 222 [ZU ds] [] (Yo (.b (WU ds))):=by
 have hzl:=hz.len
 refine ZG 17 Tryz.func222 (ZE (YF 1 (iw (Up ds) (Y1 ((ds.length:Int)>4) (fun Za=>?_) (fun Za=>?_)))))
 ·exact ar (Zr (Y3 (.b false) (lb (by first|rfl|omega|grind [WU]))))
 refine ak (Y9 (ab 0 (Y2 (fun fz gz m F h=>∃(k:Nat),(k<=ds.length)/\(Tc ds (ds.drop k) k=Tc ds ds 0)/\F=sF [0] fz [(3,.i k)]/\h=gz/\m=ds.length-k) _ _ _ ⟨0,ob,ob,rfl,rfl,rfl⟩ (wk [] (Ya fl)) ?_)))
 rintro m F h ⟨k,Yf,Zh,rfl,rfl,rfl⟩
 refine YF 2 (iw (Up ds) (Y1 ((k:Int)<(ds.length:Int)) (fun Ze=>?_) (fun Ze=>?_)))
 ·refine ak (aq (ab 1 (Y5 2 (Zz [] (Zeh ds k) (YD (!BT ds k) (p:=¬(BT ds k=true)) (Yr Iff.rfl) (fun ZC=>?_) (fun ZC=>?_))))))
  ·refine ZE ?_
   try rw [Xh (xs:=ds) (k:=k) om] at Zh
   obtain ⟨x1,Z3⟩:=Zs ds k om
   rw [Y7 Z3] at Zh
   exact ZD (Y3 (.b false) (lb (by first|rfl|omega|grind [Tc,WU])))
  refine ak (az (Z1 1 (ZJ k (Z0 ?_))))
  obtain ⟨x1,Z3⟩:=Zs ds k om
  have hdr:=Y7 Z3
  exact ZL ⟨k+1,ob,(by rw [hdr] at Zh;clear hdr ;grind [Tc]),rfl,rfl,rfl⟩ (wk [] (ZO k fl))
 refine ax 0 (ZE ?_)
 try rw [Xh (xs:=ds) (k:=k) om] at Zh
 exact ZD (Y3 (.b true) (lb (by first|rfl|omega|grind [Tc,WU])))
theorem Ze9 (n:Zk) (hz:n.routines.length<=4194304:=by exact ob):Zl 171 [Yn n] [] (Yo (.agg [ZU n.decls,.sl (Ug (n.routines.map Ux)) none])):=by
 refine ZG 35 Tryz.func171 (ar (iA (YS n) fun b1=>iA [nl,nl] fun b2=>ie (Zw 2 [1] (iL (Ug []) 0 5 fun v1=>Z1 1 (iA [nl,nl] fun b3=>?_)))))
 refine ZI 0 b3 [ZU n.decls,.sl (Ug []) (some v1)] (ie (Y9 (ab 0 (Y2 (fun fz gz m F h=>∃(k:Nat) (v:Value),(k<=n.routines.length)/\F=sF [1,2,3] fz [(4,.i k)]/\h=[.obj b3 [ZU n.decls,.sl (Ug ((n.routines.take k).map Ux)) (some v)],Zc gz 2,Zc gz 3,.tail v 5]/\m=n.routines.length-k) _ _ _ ⟨0,v1,ob,rfl,rfl,rfl⟩ (wk [0,1,1,0] (Ya fl)) ?_))))
 rintro m F h ⟨k,v,Yf,rfl,rfl,rfl⟩
 refine Yi 3 [2] (iw (Uq n.routines) (Y1 ((k:Int)<(n.routines.length:Int)) (fun Za=>?_) (fun Za=>?_)))
 ·refine ak (aq (ab 1 (aE 19 (ZK 14 19 [0,1,2,3,4] [0,2] ?_))))
  obtain ⟨x1,Z3⟩:=Zs n.routines k om
  refine dx 5 (Zi none (k:Int) 5 (Ww Z3)) (ZK 8 13 [6,7,8,9,10] [2] (dx 11 (Zi none (k:Int) 5 (Ww Z3)) (Yt 4 7 [12,13,14] [(30,.agg [Z4 x1.params,.i x1.result,.i 0,.i 0,.sl [] none])] (Z9 15 (dL 15 [0] [b3] (Ug [Sg.mk x1.params x1.result]) 1 5 fun v2=>Yt 3 3 [] [(31,.sl (Ug [Sg.mk x1.params x1.result]) none)] (Z9 16 (dp 16 4 [] [] (Ug ((n.routines.take (k+1)).map Ux)) (Ug ((n.routines.take k).map Ux)) (Ug [Sg.mk x1.params x1.result]) v none 5 (NB _) (NB _) (Z4g _) (by simp<;>omega) (by rw [V7 Z3];simp [Ug,Ux]) fun v3=>Zj 1 2 [17] (Z9 18 (YJ 18 2 [] [] b3 [ZU n.decls,.sl (Ug ((n.routines.take (k+1)).map Ux)) (some v3)] (de (az (Z1 1 (ZJ k (Z0 ?_))))))))))))))
  have hdr:=Y7 Z3
  exact ZL ⟨k+1,v3,ob,rfl,rfl,rfl⟩ (wk [0,2,2,0] (ZO k fl))
 exact ax 0 (Zw 1 [0] (ZI 1 b2 [ZU n.decls,.sl (Ug ((n.routines.take k).map Ux)) (some v)] (ie (ZD (r3 [] [.agg [ZU n.decls,.sl (Ug ((n.routines.take k).map Ux)) (some v)]] [0] [(b2,b2)] ⟨rfl,rfl⟩ (Zd.agg (.cons (lr _) (.cons (Zd.sl _ (Yj Ug (by rw [show k=n.routines.length by omega,Vy]))) .nil))))))))
theorem Zel (ds:List Zg) (fs:List Sg) (hz:A6 ds:=by exact ob) (hf:∀f∈fs,f.params.length<=4194304):Zl 170 [.agg [ZU ds,.sl (Ug fs) none]] [] (Yo (.b (QA ds fs))):=by
 have hzl:=hz.len
 refine ZG 64 Tryz.func170 (ar (iA [ZU ds,.sl (Ug fs) none] fun b1=>Z0 (Yi 2 [0] (Zz [] (Zem ds) (Xp [1] [(15,.b ((!WU ds)||(!(decide (1<=(fs.length:Int)/\(fs.length:Int)<=4)))))] (fun gz=>gz) ?_ ?_)))))
 ·refine Z1 2 (ib (b:=(!WU ds)) 9 (fun Zb=>?_) (fun Zb=>?_))
  ·have ZW:¬(WU ds=true):=((Yr Iff.rfl)).1 Zb
   exact Z0 (wk [0] (Zu true Zb fl))
  have Yh:¬(¬(WU ds=true)):=Yd (Yr Iff.rfl) Zb
  exact ZP 2 [0] (iw (NC fs) (Zz [] (UM (fs.length:Int) 1 4) (Z0 (wk [0] (Zu (!(decide (1<=(fs.length:Int)/\(fs.length:Int)<=4))) Zb fl)))))
 refine ac ((!WU ds)||(!(decide (1<=(fs.length:Int)/\(fs.length:Int)<=4)))) (p:=(¬(WU ds=true))∨(¬(1<=(fs.length:Int)/\(fs.length:Int)<=4))) (Yl (Yr Iff.rfl) (Yr dq)) (fun Za=>?_) (fun Za=>?_)
 ·exact ar (Zr (Y3 (.b false) (lb (by first|rfl|omega|grind [QA]))))
 refine ak (Y9 (ab 0 (Y2 (fun fz gz m F h=>∃(k:Nat),(k<=fs.length)/\(J1 ds.length (fs.drop k)=J1 ds.length fs)/\F=sF [1] fz [(3,.i k)]/\h=gz/\m=fs.length-k) _ _ _ ⟨0,ob,ob,rfl,rfl,rfl⟩ (wk [0] (Ya fl)) ?_)))
 rintro m F h ⟨k,Yf,Zh,rfl,rfl,rfl⟩
 refine Yi 3 [0] (iw (NC fs) (Y1 ((k:Int)<(fs.length:Int)) (fun Ze=>?_) (fun Ze=>?_)))
 ·refine ak (aq (ab 1 (Zw 3 [0] ?_)))
  obtain ⟨x1,Z3⟩:=Zs fs k om
  refine Zm (Zi none (k:Int) 5 (I5 Z3)) (Z1 1 (iA [nl,.i 0,.i 0,.i 0,nl] fun b2=>ZI 0 b2 [Z4 x1.params,.i x1.result,.i 0,.i 0,.sl [] none] (ie (Zw 2 [0] (iw (Y8 x1.params) (XL 12 [1,3,4] [(39,.b ((decide ((x1.params.length:Int)>3))||(!Wj ds.length x1.params)))] (fun gz=>gz) ?_ (fun hj1=>?_)))))))
  ·refine Xp [1,3] [(48,.b (((decide ((x1.params.length:Int)>3))||(!Wj ds.length x1.params))||(!(decide (0<=x1.result/\x1.result<=(ds.length:Int))))))] (fun gz=>gz) ?_ ?_
   ·refine Z1 1 (ib (b:=((decide ((x1.params.length:Int)>3))||(!Wj ds.length x1.params))) 40 (fun ZA=>?_) (fun ZA=>?_))
    ·have YE:((x1.params.length:Int)>3)∨(¬(Wj ds.length x1.params=true)):=((Yl dq (Yr Iff.rfl))).1 ZA
     exact Z0 (wk [0,0] (Zu true ZA fl))
    have YK:¬(((x1.params.length:Int)>3)∨(¬(Wj ds.length x1.params=true))):=Yd (Yl dq (Yr Iff.rfl)) ZA
    exact ZP 4 [0,1] (iw (Up ds) (Zz [] (UM x1.result 0 (ds.length:Int)) (Z0 (wk [0,0] (Zu (!(decide (0<=x1.result/\x1.result<=(ds.length:Int)))) ZA fl)))))
   refine ac (((decide ((x1.params.length:Int)>3))||(!Wj ds.length x1.params))||(!(decide (0<=x1.result/\x1.result<=(ds.length:Int))))) (p:=(((x1.params.length:Int)>3)∨(¬(Wj ds.length x1.params=true)))∨(¬(0<=x1.result/\x1.result<=(ds.length:Int)))) (Yl (Yl dq (Yr Iff.rfl)) (Yr dq)) (fun ZC=>?_) (fun ZC=>?_)
   ·refine ZE ?_
    rw [Y7 Z3] at Zh
    exact ZD (Y3 (.b false) (lb (by clear Z3;first|rfl|omega|grind [J1,J0,QA])))
   refine ak (az (Z1 1 (ZJ k (Z0 ?_))))
   have hdr:=Y7 Z3
   exact ZL ⟨k+1,ob,(by rw [hdr] at Zh;clear hdr Z3;grind [J1,J0]),rfl,rfl,rfl⟩ (wk [1] (ZO k fl))
  refine Z1 2 (ib (b:=(decide ((x1.params.length:Int)>3))) 32 (fun YA=>?_) (fun YA=>?_))
  ·have X9:(x1.params.length:Int)>3:=(dq).1 YA
   exact Z1 7 (Yx (wk [0,0] (Zu true YA fl)) hj1)
  have XK:¬((x1.params.length:Int)>3):=Yd dq YA
  exact ZP 4 [1,0] (Zz [] (S0 ds x1.params) (Z1 2 (Yx (wk [0,0] (Zu (!Wj ds.length x1.params) YA fl)) hj1)))
 refine ax 0 (Zw 2 [0] ?_)
 obtain ⟨x2,Zt⟩:=Zs fs 0 om
 have hfo:=Z4w Zt
 refine Zm (Zi none 0 5 (I5 Zt)) (Z1 2 (iw (Y8 x2.params) (XL 15 [] [(63,.b (((x2.params.length:Int)==0)&&(x2.result==0)))] (fun gz=>gz) ?_ (fun hj2=>?_))))
 ·refine Z0 ?_
  try rw [Xh (xs:=fs) (k:=k) om] at Zh
  exact ZD (Y3 (.b (((x2.params.length:Int)==0)&&(x2.result==0))) (lb (by clear Zt;first|rfl|omega|grind [J1,J0,QA])))
 refine Z1 2 (ib (b:=((x2.params.length:Int)==0)) 56 (fun Xq=>?_) (fun Xq=>?_))
 ·have Wo:(x2.params.length:Int)=0:=(Zq).1 Xq
  exact ZP 2 [0] (Zm (Zi none 0 5 (I5 Zt)) (Z1 4 (Yx (wk [0] (Zu (x2.result==0) Xq fl)) hj2)))
 have WR:¬((x2.params.length:Int)=0):=Yd Zq Xq
 exact Z1 7 (Yx (wk [0] (Zu false Xq fl)) hj2)
theorem Zej (ps:LI) (ls:LI) (hl_ps:ps.length<=4294967296:=by exact ob) (hl_ls:ls.length<=4294967296:=by exact ob):Zl 172 [Z4 ps,Z4 ls] [] (Yo (.b (J9 ps ls))):=by
 refine ZG 47 Tryz.func172 (ZE (Y9 (ab 0 (Y2 (fun fz gz m F h=>∃(k:Nat),(k<=ls.length)/\(Qs ps (ls.drop k) (if k=0 then none else ls[k-1]?)=J9 ps ls)/\F=sF [0,1] fz [(5,.i k)]/\h=gz/\m=ls.length-k) _ _ _ ⟨0,ob,ob,rfl,rfl,rfl⟩ (wk [] (Ya fl)) ?_))))
 rintro m F h ⟨k,Yf,Zh,rfl,rfl,rfl⟩
 refine YF 2 (iw (Y8 ls) (Y1 ((k:Int)<(ls.length:Int)) (fun Za=>?_) (fun Za=>?_)))
 ·refine ak (aq (ab 1 (aD 35 (Zj 33 35 [0,1] ?_))))
  obtain ⟨x1,Z3⟩:=Zs ls k om
  refine dx 2 (Zi none (k:Int) 1 (ZZ Z3)) (Zj 30 32 [3,4] (dw 5 (Y8 ps) (da 6 (((ps.length:Int)-1)) (((ps.length:Int))-(1)) (Z9 7 (Yp 7 [] [] [] (UM x1 0 ((ps.length:Int)-1)) (Zj 25 27 [8,9] (db (b:=(!(decide (0<=x1/\x1<=((ps.length:Int)-1))))) 21 (fun Zb=>?_) (fun Zb=>?_))))))))
  ·have ZW:¬(0<=x1/\x1<=((ps.length:Int)-1)):=((Yr dq)).1 Zb
   refine Zj 0 25 [10,11,12,13,14,15,16,17,18,19,20,21,22,23,24,25,26,27,28,29,30,31,32,33,34] (de (XO (ZE ?_)))
   rw [Y7 Z3] at Zh
   exact ZD (Y3 (.b false) (lb (by have hq:=G9 (ps:=ps) (v:=x1) (r:=ls.drop (k+1)) (prev:=if k=0 then none else ls[k-1]?);rw [<-Zh,hq];rintro ⟨q1,q2,q3⟩;first|omega|(rw [hps] at q2;exact q2 (Yj some om))|(have:=q3 _ (by rw [Z8 om,hls]);omega))))
  have Yh:¬(¬(0<=x1/\x1<=((ps.length:Int)-1))):=Yd (Yr dq) Zb
  refine Zj 22 25 [10,11,12] (dx 13 (Zi none (k:Int) 1 (ZZ Z3)) (Zj 20 21 [14] ?_))
  obtain ⟨x2,Zt⟩:=Zs ps x1.toNat om
  have hps:=Zt
  refine dx 15 (Zi none x1 1 (ZZ Zt)) (Zj 15 19 [16,17,18,19] (db (b:=(x2==0)) 31 (fun ZA=>?_) (fun ZA=>?_)))
  ·have YE:x2=0:=(Zq).1 ZA
   refine Zj 0 15 [20,21,22,23,24,25,26,27,28,29,30,31,32,33,34] (de (XO (ZE ?_)))
   rw [Y7 Z3] at Zh
   exact ZD (Y3 (.b false) (lb (by have hq:=G9 (ps:=ps) (v:=x1) (r:=ls.drop (k+1)) (prev:=if k=0 then none else ls[k-1]?);rw [<-Zh,hq];rintro ⟨q1,q2,q3⟩;first|omega|(rw [hps] at q2;exact q2 (Yj some om))|(have:=q3 _ (by rw [Z8 om,hls]);omega))))
  have YK:¬(x2=0):=Yd Zq ZA
  refine Zj 12 15 [20,21,22] (db (b:=(decide ((k:Int)>0))) 34 (fun YA=>?_) (fun YA=>?_))
  ·have X9:(k:Int)>0:=(dq).1 YA
   refine Zj 10 12 [23,24] (dx 25 (Zi none (k:Int) 1 (ZZ Z3)) (Zj 6 9 [26,27,28] (da 29 (((k-1:Nat):Int)) (((k:Int))-(1)) ?_)))
   obtain ⟨x3,YO⟩:=Zs ls (k-1) om
   have hls:=YO
   refine dx 30 (Zi none ((k-1:Nat):Int) 1 (ZZ YO)) (Zj 0 4 [31,32,33,34] (de (XZ (x1<=x3) (fun Ze=>?_) (fun Ze=>?_))))
   ·refine ZE ?_
    rw [Y7 Z3] at Zh
    exact ZD (Y3 (.b false) (lb (by have hq:=G9 (ps:=ps) (v:=x1) (r:=ls.drop (k+1)) (prev:=if k=0 then none else ls[k-1]?);rw [<-Zh,hq];rintro ⟨q1,q2,q3⟩;first|omega|(rw [hps] at q2;exact q2 (Yj some om))|(have:=q3 _ (by rw [Z8 om,hls]);omega))))
   refine ak (az (Z1 1 (ZJ k (Z0 ?_))))
   have hl1:ls[k+1-1]? = some x1:=Z3
   have hlc:(0<=x1/\x1<=(ps.length:Int)-1)/\ps[x1.toNat]?≠some 0/\(∀p,(if k=0 then none else ls[k-1]?)=some p->p<x1):=⟨by omega,by rw [hps];intro q;cases q;omega,fun p hp=>by first|(rw [Z8 om,hls] at hp;cases hp;omega)|(rw [Zf om] at hp;cases hp)⟩
   have hdr:=Y7 Z3
   exact ZL ⟨k+1,ob,(by have hq:=IX (r:=ls.drop (k+1)) hlc;rw [hdr,hq] at Zh;rw [Z8 om,hl1];exact Zh),rfl,rfl,rfl⟩ (wk [] (ZO k fl))
  have XK:¬((k:Int)>0):=Yd dq YA
  refine Zj 0 12 [23,24,25,26,27,28,29,30,31,32,33,34] (de (Wb (ak (az (Z1 1 (ZJ k (Z0 ?_)))))))
  have hl1:ls[k+1-1]? = some x1:=Z3
  have hlc:(0<=x1/\x1<=(ps.length:Int)-1)/\ps[x1.toNat]?≠some 0/\(∀p,(if k=0 then none else ls[k-1]?)=some p->p<x1):=⟨by omega,by rw [hps];intro q;cases q;omega,fun p hp=>by first|(rw [Z8 om,hls] at hp;cases hp;omega)|(rw [Zf om] at hp;cases hp)⟩
  have hdr:=Y7 Z3
  exact ZL ⟨k+1,ob,(by have hq:=IX (r:=ls.drop (k+1)) hlc;rw [hdr,hq] at Zh;rw [Z8 om,hl1];exact Zh),rfl,rfl,rfl⟩ (wk [] (ZO k fl))
 refine ax 0 (ZE ?_)
 try rw [Xh (xs:=ls) (k:=k) om] at Zh
 exact ZD (Y3 (.b true) (lb (by first|rfl|omega|grind [Qs])))
theorem Zek (n:Zk) (hz:A6 n.decls:=by exact ob) (hr:∀r∈n.routines,r.params.length<=4194304/\r.lent.length<=4194304):Zl 127 [Yn n] [] (Yo (.b (VP n))):=by
 have hzl:=hz.len
 refine ZG 35 Tryz.func127 (ar (iA (YS n) fun b1=>Z0 (Yi 2 [0] (iw (Uq n.routines) (Xp [1] [(13,.b ((decide ((n.routines.length:Int)>4))||(!QA n.decls (n.routines.map Ux))))] (fun gz=>gz) ?_ ?_)))))
 ·refine Z1 2 (ib (b:=(decide ((n.routines.length:Int)>4))) 8 (fun Zb=>?_) (fun Zb=>?_))
  ·have ZW:(n.routines.length:Int)>4:=(dq).1 Zb
   exact Z0 (wk [0] (Zu true Zb fl))
  have Yh:¬((n.routines.length:Int)>4):=Yd dq Zb
  exact ZP 1 [0] (Zz [] (Ze9 n) (Zz [] (Zel n.decls (n.routines.map Ux) (hf:=(by intro f hf;obtain ⟨r,h1,rfl⟩:=W9.1 hf;exact (hr r h1).1))) (Z0 (wk [0] (Zu (!QA n.decls (n.routines.map Ux)) Zb fl)))))
 refine ac ((decide ((n.routines.length:Int)>4))||(!QA n.decls (n.routines.map Ux))) (p:=((n.routines.length:Int)>4)∨(¬(QA n.decls (n.routines.map Ux)=true))) (Yl dq (Yr Iff.rfl)) (fun Za=>?_) (fun Za=>?_)
 ·exact ar (Zr (Y3 (.b false) (lb (by first|rfl|omega|grind [VP]))))
 refine ak (Y9 (ab 0 (Y2 (fun fz gz m F h=>∃(k:Nat),(k<=n.routines.length)/\(KW (n.routines.drop k)=KW n.routines)/\F=sF [1] fz [(3,.i k)]/\h=gz/\m=n.routines.length-k) _ _ _ ⟨0,ob,ob,rfl,rfl,rfl⟩ (wk [0] (Ya fl)) ?_)))
 rintro m F h ⟨k,Yf,Zh,rfl,rfl,rfl⟩
 refine Yi 3 [0] (iw (Uq n.routines) (Y1 ((k:Int)<(n.routines.length:Int)) (fun Ze=>?_) (fun Ze=>?_)))
 ·refine ak (aq (ab 1 (aD 14 (ZK 11 14 [0,1,2] [0] ?_))))
  obtain ⟨x1,Z3⟩:=Zs n.routines k om
  refine dx 3 (Zi none (k:Int) 5 (Ww Z3)) (ZK 5 10 [4,5,6,7,8] [0] (dx 9 (Zi none (k:Int) 5 (Ww Z3)) (Zj 2 4 [10,11] (Z9 12 (Yp 12 [] [] [] (Zej x1.params x1.lent (hl_ps:=(by have:=hr _ (ZX Z3);omega)) (hl_ls:=(by have:=hr _ (ZX Z3);omega))) (Zj 0 1 [13] (de (ac (!J9 x1.params x1.lent) (p:=¬(J9 x1.params x1.lent=true)) (Yr Iff.rfl) (fun ZC=>?_) (fun ZC=>?_)))))))))
  ·refine ZE ?_
   rw [Y7 Z3] at Zh
   exact ZD (Y3 (.b false) (lb (by clear Z3;first|rfl|omega|grind [KW,VP])))
  refine ak (az (Z1 1 (ZJ k (Z0 ?_))))
  have hdr:=Y7 Z3
  exact ZL ⟨k+1,ob,(by rw [hdr] at Zh;clear hdr Z3;grind [KW]),rfl,rfl,rfl⟩ (wk [0] (ZO k fl))
 refine ax 0 (ZE ?_)
 try rw [Xh (xs:=n.routines) (k:=k) om] at Zh
 exact ZD (Y3 (.b true) (lb (by first|rfl|omega|grind [KW,VP])))
theorem J2 (op:Int) :Zl 169 [.i op] [] (Yo (.b (XQ op))):=by
 exact ZG 5 Tryz.func169 (ZE (Y5 1 (Zz [] (UM op 0 11) (Zr (Y3 (.b (decide (0<=op/\op<=11))) (lb (by first|rfl|omega|grind [XQ])))))))
theorem Zdz (op:Int) :Zl 210 [.i op] [] (Yo (.b (VF op))):=by
 refine ZG 21 Tryz.func210 (ZE (ar (XL 6 [0] [(8,.b ((op==0)||(op==6)))] (fun gz=>gz) ?_ (fun hj1=>?_))))
 ·refine XL 10 [0] [(12,.b (((op==0)||(op==6))||(op==8)))] (fun gz=>gz) ?_ (fun hj2=>?_)
  ·refine XL 14 [0] [(16,.b ((((op==0)||(op==6))||(op==8))||(op==9)))] (fun gz=>gz) ?_ (fun hj3=>?_)
   ·refine XL 18 [] [(20,.b (((((op==0)||(op==6))||(op==8))||(op==9))||(op==10)))] (fun gz=>gz) ?_ (fun hj4=>?_)
    ·exact Zr (Y3 (.b (((((op==0)||(op==6))||(op==8))||(op==9))||(op==10))) (lb (by rw [VF];simp only [Bool.or_assoc])))
    refine Z1 1 (ib (b:=((((op==0)||(op==6))||(op==8))||(op==9))) 17 (fun Zb=>?_) (fun Zb=>?_))
    ·exact Z1 3 (Yx (wk [] (Zu true Zb fl)) hj4)
    exact Z1 3 (Yx (wk [] (Zu (op==10) Zb fl)) hj4)
   refine Z1 1 (ib (b:=(((op==0)||(op==6))||(op==8))) 13 (fun ZA=>?_) (fun ZA=>?_))
   ·exact Z1 3 (Yx (wk [] (Zu true ZA fl)) hj3)
   exact Z1 3 (Yx (wk [] (Zu (op==9) ZA fl)) hj3)
  refine Z1 1 (ib (b:=((op==0)||(op==6))) 9 (fun YA=>?_) (fun YA=>?_))
  ·exact Z1 3 (Yx (wk [] (Zu true YA fl)) hj2)
  exact Z1 3 (Yx (wk [] (Zu (op==8) YA fl)) hj2)
 refine Z1 3 (ib (b:=(op==0)) 5 (fun Xq=>?_) (fun Xq=>?_))
 ·exact Z1 3 (Yx (wk [] (Zu true Xq fl)) hj1)
 exact Z1 3 (Yx (wk [] (Zu (op==6) Xq fl)) hj1)
theorem Bt (us:LI) (args:LI) (tys:LI) (hl_us:us.length<=4294967296:=by exact ob) (hl_args:args.length<=4294967296:=by exact ob) (hl_tys:tys.length<=4294967296:=by exact ob):Zl 212 [Z4 us,Z4 args,Z4 tys] [] (Yo (.b (We us args tys))):=by
 refine ZG 42 Tryz.func212 (ZE (YF 1 (iw (Y8 args) (Z1 1 (iw (Y8 tys) (YD ((args.length:Int) != (tys.length:Int)) Ym (fun Za=>?_) (fun Za=>?_)))))))
 ·exact ar (Zr (Y3 (.b false) (lb (SJ om).symm)))
 refine ak (Y9 (ab 0 (Y2 (fun fz gz m F h=>∃(k:Nat),(k<=args.length)/\(T4 us (args.drop k) (tys.drop k)=We us args tys)/\F=sF [0,1,2] fz [(7,.i k)]/\h=gz/\m=args.length-k) _ _ _ ⟨0,ob,ob,rfl,rfl,rfl⟩ (wk [] (Ya fl)) ?_)))
 rintro m F h ⟨k,Yf,Zh,rfl,rfl,rfl⟩
 refine YF 2 (iw (Y8 args) (Y1 ((k:Int)<(args.length:Int)) (fun Ze=>?_) (fun Ze=>?_)))
 ·refine ak (aq (ab 1 (aD 23 (Zj 21 23 [0,1] ?_))))
  obtain ⟨x1,Z3⟩:=Zs args k om
  refine dx 2 (Zi none (k:Int) 1 (ZZ Z3)) (Zj 18 20 [3,4] (dw 5 (Y8 us) (da 6 (((us.length:Int)-1)) (((us.length:Int))-(1)) (Z9 7 (Yp 7 [] [] [] (UM x1 0 ((us.length:Int)-1)) (Zj 13 15 [8,9] (db (b:=(!(decide (0<=x1/\x1<=((us.length:Int)-1))))) 28 (fun Zb=>?_) (fun Zb=>?_))))))))
  ·have ZW:¬(0<=x1/\x1<=((us.length:Int)-1)):=((Yr dq)).1 Zb
   refine Zj 0 13 [10,11,12,13,14,15,16,17,18,19,20,21,22] (de (XO (ZE ?_)))
   obtain ⟨y,hy⟩:=Zs tys k om
   exact ZD (Y3 (.b false) (lb (by rw [<-Zh];exact (SH Z3 hy (by rw [Ke ZW];simp)).symm)))
  have Yh:¬(¬(0<=x1/\x1<=((us.length:Int)-1))):=Yd (Yr dq) Zb
  refine Zj 10 13 [10,11,12] (dx 13 (Zi none (k:Int) 1 (ZZ Z3)) (Zj 8 9 [14] ?_))
  obtain ⟨x2,Zt⟩:=Zs us x1.toNat om
  refine dx 15 (Zi none x1 1 (ZZ Zt)) (Zj 4 7 [16,17,18] ?_)
  obtain ⟨x3,YO⟩:=Zs tys k om
  refine dx 19 (Zi none (k:Int) 1 (ZZ YO)) (Zj 0 3 [20,21,22] (de (ac (x2 != x3) Ym (fun ZC=>?_) (fun ZC=>?_))))
  ·exact ar (Zr (Y3 (.b false) (lb (by rw [<-Zh];exact (SH Z3 YO (by rw [Q6 om Zt];simpa using ZC)).symm))))
  refine ak (az (Z1 1 (ZJ k (Z0 ?_))))
  have hdr:=Y7 Z3
  exact ZL ⟨k+1,ob,(by rw [<-Zh];exact (Zft Z3 YO (by rw [Q6 om Zt];congr 1;omega)).symm),rfl,rfl,rfl⟩ (wk [] (ZO k fl))
 exact ax 0 (ar (Zr (Y3 (.b true) (lb (by rw [<-Zh];exact (Zfs om om).symm)))))
theorem Zei (us:LI) (s:Z5) (hl_us:us.length<=4294967296:=by exact ob):Zl 211 [Z4 us,YI s] [] (Yo (.b (Um us s.op s.into))):=by
 refine ZG 27 Tryz.func211 (ar (iA (Xz s) fun b1=>Z0 (X1 (VI [0] (ac (s.into==0) Zq (fun Za=>?_) (fun Za=>?_))))))
 ·exact ar (Zr (Y3 (.b true) (lb (by rw [Um,Zf Za]))))
 refine ak (ar (XL 10 [0,3] [(17,.b ((s.op==6)&&(decide (1<=s.into/\s.into<=(us.length:Int)))))] (fun gz=>gz) ?_ (fun hj1=>?_)))
 ·refine Z1 1 (ib (b:=((s.op==6)&&(decide (1<=s.into/\s.into<=(us.length:Int))))) 18 (fun Zb=>?_) (fun Zb=>?_))
  ·have ZW:(s.op=6)/\(1<=s.into/\s.into<=(us.length:Int)):=((YG Zq dq)).1 Zb
   refine ZP 3 [0] (ia ((s.into-1)) ((s.into)-(1)) ?_)
   obtain ⟨x1,Z3⟩:=Zs us ((s.into-1).toNat) om
   exact Zm (Zi none (s.into-1) 1 (ZZ Z3)) (Zr (Y3 (.b (decide (x1>0))) (lb (by rw [Um,Z8 Za];first|(rw [Zf om,Q6 om Z3];rfl)|(rw [Zf om,Ke om];rfl)|(rw [Z8 om])|(by_cases q:s.op=6;rw [Zf q,Ke om];rfl;rw [Z8 q])))))
  have Yh:¬((s.op=6)/\(1<=s.into/\s.into<=(us.length:Int))):=Yd (YG Zq dq) Zb
  exact Zr (Y3 (.b false) (lb (by rw [Um,Z8 Za];first|(rw [Zf om,Q6 om Z3];rfl)|(rw [Zf om,Ke om];rfl)|(rw [Z8 om])|(by_cases q:s.op=6;rw [Zf q,Ke om];rfl;rw [Z8 q]))))
 refine ZP 4 [0] (ib (b:=(s.op==6)) 11 (fun ZA=>?_) (fun ZA=>?_))
 ·have YE:s.op=6:=(Zq).1 ZA
  exact ZP 3 [0] (iw (Y8 us) (Zz [] (UM s.into 1 (us.length:Int)) (Z1 1 (Yx (wk [0] (Zu (decide (1<=s.into/\s.into<=(us.length:Int))) ZA fl)) hj1))))
 have YK:¬(s.op=6):=Yd Zq ZA
 exact Z1 6 (Yx (wk [0] (Zu false ZA fl)) hj1)
theorem Ze7 (n:Zk) (us:LI) (s:Z5) (hn:X2 n:=by exact ob) (hl_us:us.length<=4294967296:=by exact ob) (ha:s.args.length<=1000000000:=by exact ob):Zl 215 [Yn n,Z4 us,YI s] [] (Yo (.i (TC n us s.op s.num s.args))):=by
 have hrl:=hn.len
 have hdl:=hn.decls.len
 refine ZG 69 Tryz.func215 (ar (iA (YS n) fun b1=>iA (Xz s) fun b2=>Z0 (Yi 4 [0,1] (iw (Uq n.routines) (ia (((n.routines.length:Int)-1)) (((n.routines.length:Int))-(1)) (Zz [] (UM s.num 0 ((n.routines.length:Int)-1)) (YD (!(decide (0<=s.num/\s.num<=((n.routines.length:Int)-1)))) (p:=¬(0<=s.num/\s.num<=((n.routines.length:Int)-1))) (Yr dq) (fun Za=>?_) (fun Za=>?_))))))))
 ·exact ar (Zr (Y3 (.i (-1)) (li (Zcb om).symm)))
 refine ak (Zw 4 [1,0] ?_)
 obtain ⟨x1,Z3⟩:=Zs n.routines s.num.toNat om
 have hrp:=hn.params_at Z3
 have hrt:=hn.lent_at Z3
 have hre:TC n us s.op s.num s.args=Kq n.decls us s.op s.args x1:=Zca om Z3
 refine Zm (Zi none s.num 5 (Ww Z3)) (Z1 1 (iA [nl,nl,.i 0,nl,.i 0] fun b3=>ZI 0 b3 (KV x1) (ie (Zw 2 [0] (iw (Y8 x1.params) (Z0 (X1 (VI [1] (ac (s.op==9) Zq (fun Ze=>?_) (fun Ze=>?_))))))))))
 ·refine Yi 5 [1,0] (Zz [] (Bt us s.args x1.params) (YD (!We us s.args x1.params) (p:=¬(We us s.args x1.params=true)) (Yr Iff.rfl) (fun ZC=>?_) (fun ZC=>?_)))
  ·exact ar (Zr (Y3 (.i (-1)) (li (by clear Z3;first|rfl|omega|grind [Kq,KG]))))
  exact ak (Al [0] (ZD (Y3 (.i x1.result) (li (by clear Z3;first|rfl|omega|grind [Kq,KG])))))
 refine ak (aq (aD 20 (Ad [3,7,8] [(57,.b (((x1.params.length:Int)==0)||((decide ((x1.lent.length:Int)>0))||(!We us s.args (x1.params.take (x1.params.length-1))))))] (fun gz=>gz) ?_ ?_)))
 ·refine Zj 17 20 [0,1,2] (db (b:=((x1.params.length:Int)==0)) 40 (fun Zb=>?_) (fun Zb=>?_))
  ·have ZW:(x1.params.length:Int)=0:=(Zq).1 Zb
   exact Zj 0 17 [3,4,5,6,7,8,9,10,11,12,13,14,15,16,17,18,19] (de (ZF 3 (Zu true Zb fl)))
  have Yh:¬((x1.params.length:Int)=0):=Yd Zq Zb
  refine ZK 15 17 [3,4] [0] (dw 5 (Y8 x1.lent) (Zj 11 14 [6,7,8] (db (b:=(decide ((x1.lent.length:Int)>0))) 46 (fun ZA=>?_) (fun ZA=>?_))))
  ·have YE:(x1.lent.length:Int)>0:=(dq).1 ZA
   exact Zj 0 11 [9,10,11,12,13,14,15,16,17,18,19] (de (ZF 3 (Zu true (And.intro Zb ZA) fl)))
  have YK:¬((x1.lent.length:Int)>0):=Yd dq ZA
  exact ZK 5 11 [9,10,11,12,13,14] [1,0] (da 15 (((x1.params.length-1:Nat):Int)) (((x1.params.length:Int))-(1)) (dx 16 (J4 (es:=Z6 x1.params) (hv:=none) (l:=0) (m:=((x1.params.length-1:Nat):Int)) (sz:=1) (es':=Z6 (x1.params.take (x1.params.length-1))) kr om (by simp<;>omega) (by simp<;>omega) (Yy _) (by first|(simp only [VS,Vy,Jl,Ah];done)|(simp only [VS,Vy,Jl,Ah];rfl)|(simp [Jl,Ah];done))) (Z9 17 (Yp 17 [] [] [] (Bt us s.args (x1.params.take (x1.params.length-1))) (Zj 0 2 [18,19] (de (ZF 3 (Zu (!We us s.args (x1.params.take (x1.params.length-1))) (And.intro Zb ZA) fl))))))))
 refine ac (((x1.params.length:Int)==0)||((decide ((x1.lent.length:Int)>0))||(!We us s.args (x1.params.take (x1.params.length-1))))) (p:=((x1.params.length:Int)=0)∨(((x1.lent.length:Int)>0)∨(¬(We us s.args (x1.params.take (x1.params.length-1))=true)))) (Yl Zq (Yl dq (Yr Iff.rfl))) (fun Ye=>?_) (fun Ye=>?_)
 ·exact ar (Zr (Y3 (.i (-1)) (li (by clear Z3;first|rfl|omega|grind [Kq,KG]))))
 refine ak (aD 12 (ZK 7 12 [0,1,2,3,4] [2,0] (da 5 (((x1.params.length-1:Nat):Int)) (((x1.params.length:Int))-(1)) ?_)))
 obtain ⟨x2,Zt⟩:=Zs x1.params (x1.params.length-1) om
 have hgl:=Ok Zt
 exact dx 6 (Zi none ((x1.params.length-1:Nat):Int) 1 (ZZ Zt)) (ZK 2 5 [7,8,9] [0] (Z9 10 (Yp 10 [] [] [] (S2 n.decls x2 x1.result) (Zj 0 1 [11] (de (ZD (Y3 (.i (Ue n.decls x2 x1.result)) (li (by clear Z3 Zt;first|rfl|omega|grind [Kq,KG])))))))))
theorem Zdy (n:Zk) (us:LI) (s:Z5) (hn:X2 n:=by exact ob) (hl_us:us.length<=4294967296:=by exact ob) (ha:s.args.length<=1000000000:=by exact ob):Zl 217 [Yn n,Z4 us,YI s] [] (Yo (.i (TH n.decls us s.op s.args))):=by
 have Xt:=hn.decls
 refine ZG 52 Tryz.func217 (ar (iA (YS n) fun b1=>iA (Xz s) fun b2=>Z0 (Yi 2 [0] (iw (Y8 s.args) (Z1 2 (ib (b:=((s.args.length:Int) != 1)) 11 (fun Zb=>?_) (fun Zb=>?_)))))))
 ·have ZW:(s.args.length:Int)≠1:=(Ym).1 Zb
  exact Z0 (XO (ar (Zr (Y3 (.i (-1)) (li (by first|assumption|omega|rfl|(rw [CA om])|(rw [CC (KE om Z3) om])|(rw [Cz (KE om Z3) om Zt];clear Z3 Zt;grind)))))))
 have Yh:¬((s.args.length:Int)≠1):=Yd Ym Zb
 refine ZP 2 [0] ?_
 obtain ⟨x1,Z3⟩:=Zs s.args 0 om
 refine Zm (Zi none 0 1 (ZZ Z3)) (Z1 2 (iw (Y8 us) (ia (((us.length:Int)-1)) (((us.length:Int))-(1)) (Zz [] (UM x1 0 ((us.length:Int)-1)) (Z1 3 (ib (b:=(!(decide (0<=x1/\x1<=((us.length:Int)-1))))) 22 (fun ZA=>?_) (fun ZA=>?_)))))))
 ·have YE:¬(0<=x1/\x1<=((us.length:Int)-1)):=((Yr dq)).1 ZA
  exact Z0 (XO (ar (Zr (Y3 (.i (-1)) (li (by first|assumption|omega|rfl|(rw [CA om])|(rw [CC (KE om Z3) om])|(rw [Cz (KE om Z3) om Zt];clear Z3 Zt;grind)))))))
 have YK:¬(¬(0<=x1/\x1<=((us.length:Int)-1))):=Yd (Yr dq) ZA
 refine ZP 3 [0] (Zm (Zi none 0 1 (ZZ Z3)) (Z1 1 ?_))
 obtain ⟨x2,Zt⟩:=Zs us x1.toNat om
 refine Zm (Zi none x1 1 (ZZ Zt)) (YD (x2==0) Zq (fun Za=>?_) (fun Za=>?_))
 ·exact ar (Zr (Y3 (.i (-1)) (li (by first|assumption|omega|rfl|(rw [CA om])|(rw [CC (KE om Z3) om])|(rw [Cz (KE om Z3) om Zt];clear Z3 Zt;grind)))))
 refine ak (aq (aD 20 (Ad [] [(51,.b ((s.op != 14)&&((s.op != 15)&&XX n.decls x2)))] (fun gz=>gz) ?_ ?_)))
 ·refine ZK 16 20 [0,1,2,3] [0] (db (b:=(s.op != 14)) 35 (fun YA=>?_) (fun YA=>?_))
  ·have X9:s.op≠14:=(Ym).1 YA
   refine ZK 11 16 [4,5,6,7,8] [0] (db (b:=(s.op != 15)) 40 (fun Xq=>?_) (fun Xq=>?_))
   ·have XK:s.op≠15:=(Ym).1 Xq
    exact ZK 6 11 [9,10,11,12,13] [1,0] (dx 14 (Zi none 0 1 (ZZ Z3)) (Zj 4 5 [15] (dx 16 (Zi none x1 1 (ZZ Zt)) (Zj 2 3 [17] (Z9 18 (Yp 18 [] [] [] (Ew n.decls x2 (hd:=(by first|assumption|omega|rfl|(rw [CA om])|(rw [CC (KE om Z3) om])|(rw [Cz (KE om Z3) om Zt];clear Z3 Zt;grind)))) (Zj 0 1 [19] (de (wk [0,0] (Zu (XX n.decls x2) (And.intro YA Xq) fl))))))))))
   have Wo:¬(s.op≠15):=Yd Ym Xq
   exact Zj 0 11 [9,10,11,12,13,14,15,16,17,18,19] (de (wk [0,0] (Zu false (And.intro YA Xq) fl)))
  have WR:¬(s.op≠14):=Yd Ym YA
  exact Zj 0 16 [4,5,6,7,8,9,10,11,12,13,14,15,16,17,18,19] (de (wk [0,0] (Zu false YA fl)))
 refine ac ((s.op != 14)&&((s.op != 15)&&XX n.decls x2)) (p:=(s.op≠14)/\((s.op≠15)/\(XX n.decls x2=true))) (YG Ym (YG Ym Iff.rfl)) (fun Ze=>?_) (fun Ze=>?_)
 ·exact ar (Zr (Y3 (.i (-1)) (li (by first|assumption|omega|rfl|(rw [CA om])|(rw [CC (KE om Z3) om])|(rw [Cz (KE om Z3) om Zt];clear Z3 Zt;grind)))))
 exact ak (ar (Zr (Y3 (.i 0) (li (by first|assumption|omega|rfl|(rw [CA om])|(rw [CC (KE om Z3) om])|(rw [Cz (KE om Z3) om Zt];clear Z3 Zt;grind))))))
theorem S9 (n:Zk) (us:LI) (s:Z5) (hn:X2 n:=by exact ob) (hop:s.op=7∨s.op=8:=by exact ob) (hb:us.length+4*s.sz<=1000000000:=by exact ob) (ih:∀(b:Z7) (us:LI),(b.sz<s.sz)->(us.length+4*b.sz<=1000000000)->Zl 128 [Yn n,Z4 us,Y0 b] [] (Yo (.i (Xo n us b)))):Zl 214 [Yn n,Z4 us,YI s] [] (Yo (.i (Ty n us s.op s.num s.kids))):=by
 have Xt:=hn.decls
 have hkz:=Tz s
 refine ZG 71 Tryz.func214 (ar (iA (YS n) fun b1=>iA (Xz s) fun b2=>Z0 (Zw 4 [1,0] (ic [] (JV n.decls s.num) ?_))))
 rintro _ _ ⟨v1,rfl,rfl⟩
 refine Z0 (Y5 1 (io (.i (((ZY n.decls s.num).length:Nat):Int)) (.i (((Z6 (ZY n.decls s.num)).length:Nat):Int)) (li (by rw [Y8])) (Z0 (X1 (VI [1] (XP (fun fz gz F h=>F=sF [1,3,5] fz [(7,Z4 (ZY n.decls s.num)),(8,.i (((Xn n.decls s.op s.num).length:Nat):Int))]/\h=[Zc gz 1,Zc gz 2]) ?_ ?_))))))
 ·refine ac (s.op==7) Zq (fun Za=>?_) (fun Za=>?_)
  ·exact UZ (ZQ ⟨rfl,rfl⟩ (wk [1,1] (fc (x:=ZM (ZY n.decls s.num) v1) (Zd.forget _ _) (fc (x:=.i 2) (li (by rw [Xn,Zf Za];rfl)) fl))))
  exact ak (ZQ ⟨rfl,rfl⟩ (wk [1,1] (fc (x:=ZM (ZY n.decls s.num) v1) (Zd.forget _ _) (fc (x:=.i (((ZY n.decls s.num).length:Nat):Int)) (li (by rw [Xn,Z8 Za,AL])) fl))))
 rintro F h ⟨rfl,rfl⟩
 refine X1 (Xp [1,3,5,7,8] [(31,.b (((((Xn n.decls s.op s.num).length:Nat):Int)==0)||((s.kids.length:Int) != (((Xn n.decls s.op s.num).length:Nat):Int))))] (fun gz=>gz) ?_ ?_)
 ·refine Z1 3 (ib (b:=((((Xn n.decls s.op s.num).length:Nat):Int)==0)) 25 (fun Zb=>?_) (fun Zb=>?_))
  ·exact Z0 (wk [0,0] (Zu true Zb fl))
  exact ZP 2 [0] (iw (Uf s.kids) (Z0 (wk [0,0] (Zu ((s.kids.length:Int) != (((Xn n.decls s.op s.num).length:Nat):Int)) Zb fl))))
 refine ac (((((Xn n.decls s.op s.num).length:Nat):Int)==0)||((s.kids.length:Int) != (((Xn n.decls s.op s.num).length:Nat):Int))) (p:=((((Xn n.decls s.op s.num).length:Nat):Int)=0)∨((s.kids.length:Int)≠(((Xn n.decls s.op s.num).length:Nat):Int))) (Yl Zq Ym) (fun Ze=>?_) (fun Ze=>?_)
 ·exact ar (Zr (Y3 (.i (-1)) (li (by rw [Ty,Zf om]))))
 refine ak (ZE (Y9 (ab 0 (Y2 (fun fz gz m F h=>∃(k:Nat) (t:Int),(k<=s.kids.length)/\(WY n us (s.kids.drop k) ((Xn n.decls s.op s.num).drop k) (decide (k=0)) t=WY n us s.kids (Xn n.decls s.op s.num) true 0)/\F=sF [1,3,5,7,8] fz [(9,.i t),(10,.i k)]/\h=gz/\m=s.kids.length-k) _ _ _ ⟨0,0,ob,(by rfl),rfl,rfl,rfl⟩ (wk [0,0] (fr (Ya fl))) ?_))))
 rintro m F h ⟨k,t,Yf,Zh,rfl,rfl,rfl⟩
 refine X1 (Y1 ((k:Int)<(((Xn n.decls s.op s.num).length:Nat):Int)) (fun ZC=>?_) (fun ZC=>?_))
 ·refine ak (aq (ab 1 (ZE (X1 (VI [0] (XP (fun fz gz F h=>∃(m:LI),((Xn n.decls s.op s.num)[k]? = some m)/\F=sF [1,3,5,7,8,9,10] fz [(11,Z4 (us++m))]/\h=gz) ?_ ?_))))))
  ·refine ac (s.op==8) Zq (fun Ye=>?_) (fun Ye=>?_)
   ·refine aE 10 (ZK 5 10 [0,1,2,3,4] [1] ?_)
    obtain ⟨x1,Z3⟩:=Zs (ZY n.decls s.num) k (by rw [Xn,Z8 om,AL] at ZC;omega)
    refine dx 5 (Zi none (k:Int) 1 (ZZ Z3)) (Zj 3 4 [6] (Z9 7 (Yp 7 [] [] [] (Ks n.decls x1) (Z9 8 (dc 8 [] [] [] (K4 us (ZV n.decls x1) (hl:=(by have:=VZ Xt x1;omega))) ?_)))))
    rintro _ _ ⟨v2,rfl,rfl⟩
    exact Zj 0 1 [9] (de (ZQ ⟨(ZV n.decls x1),(by rw [show s.op=8 from Ye];exact Z1f Z3),rfl,rfl⟩ (wk [1,1] fl)))
   exact ak (ZQ ⟨[],(by rw [Xn,Zf om];have:k=0∨k=1:=(by rw [Xn,Zf om] at ZC;simp at ZC;omega);rcases this with rfl|rfl<;>rfl),rfl,rfl⟩ (wk [0,0] (fc (x:=Z4 us) (Zd.sl _ (Yj Z6 (by simp))) fl)))
  rintro F h ⟨m,QU,rfl,rfl⟩
  refine aD 9 (ZK 4 9 [0,1,2,3,4] [1,0] ?_)
  obtain ⟨x2,Zt⟩:=Zs s.kids k om
  have hks:=Tm Zt
  have hm3:=ES Xt QU
  refine dx 5 (Zi none (k:Int) 2 (UV Zt)) (Zj 2 3 [6] (Z9 7 (Yp 7 [] [] [] (ih x2 (us++m) ob (by simp only [Yq];omega)) (Zj 0 1 [8] (de (X1 (Xp [1,3,5,7,8,10,12] [(68,.b ((decide ((Xo n (us++m) x2)<0))||((decide ((k:Int)>0))&&((Xo n (us++m) x2) != t))))] (fun gz=>gz) ?_ ?_)))))))
  ·refine Z1 3 (ib (b:=(decide ((Xo n (us++m) x2)<0))) 60 (fun ZA=>?_) (fun ZA=>?_))
   ·exact Z0 (wk [0,0] (Zu true ZA fl))
   refine Z1 3 (ib (b:=(decide ((k:Int)>0))) 63 (fun YA=>?_) (fun YA=>?_))
   ·exact Z0 (wk [0,0] (Zu ((Xo n (us++m) x2) != t) (And.intro ZA YA) fl))
   exact Z0 (wk [0,0] (Zu false (And.intro ZA YA) fl))
  refine ac ((decide ((Xo n (us++m) x2)<0))||((decide ((k:Int)>0))&&((Xo n (us++m) x2) != t))) (p:=((Xo n (us++m) x2)<0)∨(((k:Int)>0)/\((Xo n (us++m) x2)≠t))) (Yl dq (YG dq Ym)) (fun Xg=>?_) (fun Xg=>?_)
  ·exact ar (Zr (Y3 (.i (-1)) (li (by rw [Ty,Z8 om,<-Zh];exact (P7 Zt QU Xg).symm))))
  exact ak (UZ (az (Z1 1 (ZJ k (Z0 (ZL ⟨k+1,Xo n (us++m) x2,ob,(by rw [<-Zh];exact (P9 Zt QU Xg).symm),rfl,rfl,rfl⟩ (wk [0,0] (fr (ZO k fl)))))))))
 exact ax 0 (ar (Zr (Y3 (.i t) (li (by rw [Ty,Z8 om,<-Zh];exact (P8 om).symm)))))
theorem Sd (n:Zk) (us:LI) (s:Z5) (hn:X2 n:=by exact ob) (hb:us.length+4*s.sz<=1000000000:=by exact ob) (ih:∀(b:Z7) (us:LI),(b.sz<s.sz)->(us.length+4*b.sz<=1000000000)->Zl 128 [Yn n,Z4 us,Y0 b] [] (Yo (.i (Xo n us b)))):Zl 164 [Yn n,Z4 us,YI s] [] (Yo (.i (Yb n us s))):=by
 have Xt:=hn.decls
 have hkz:=Tz s
 have haz:=Qm s
 have hdl:=Xt.len
 have hst:=JX n us s
 refine ZG 183 Tryz.func164 (ar (iA (YS n) fun b1=>iA (Xz s) fun b2=>Z0 (X1 (XL 9 [1,3,5] [(16,.b ((s.num != 0)&&(!VF s.op)))] (fun gz=>gz) ?_ (fun hj1=>?_)))))
 ·refine XL 15 [1,3,5] [(22,.b (((s.num != 0)&&(!VF s.op))||(!Um us s.op s.into)))] (fun gz=>gz) ?_ (fun hj2=>?_)
  ·refine Xp [1,3,5] [(38,.b ((((s.num != 0)&&(!VF s.op))||(!Um us s.op s.into))||((decide ((s.kids.length:Int)>0))&&((s.op != 7)&&(s.op != 8)))))] (fun gz=>gz) ?_ ?_
   ·refine Z1 1 (ib (b:=(((s.num != 0)&&(!VF s.op))||(!Um us s.op s.into))) 23 (fun Zb=>?_) (fun Zb=>?_))
    ·have ZW:((s.num≠0)/\(¬(VF s.op=true)))∨(¬(Um us s.op s.into=true)):=((Yl (YG Ym (Yr Iff.rfl)) (Yr Iff.rfl))).1 Zb
     exact Z0 (wk [0,0] (Zu true Zb fl))
    have Yh:¬(((s.num≠0)/\(¬(VF s.op=true)))∨(¬(Um us s.op s.into=true))):=Yd (Yl (YG Ym (Yr Iff.rfl)) (Yr Iff.rfl)) Zb
    refine ZP 2 [0] (iw (Uf s.kids) (Z1 2 (ib (b:=(decide ((s.kids.length:Int)>0))) 28 (fun ZA=>?_) (fun ZA=>?_))))
    ·have YE:(s.kids.length:Int)>0:=(dq).1 ZA
     refine ZP 5 [0] (ib (b:=(s.op != 7)) 33 (fun YA=>?_) (fun YA=>?_))
     ·have YK:s.op≠7:=(Ym).1 YA
      exact VI [0] (wk [0,0] (Zu (s.op != 8) (And.intro Zb (And.intro ZA YA)) fl))
     have X9:¬(s.op≠7):=Yd Ym YA
     exact Z0 (wk [0,0] (Zu false (And.intro Zb (And.intro ZA YA)) fl))
    have XK:¬((s.kids.length:Int)>0):=Yd dq ZA
    exact Z0 (wk [0,0] (Zu false (And.intro Zb ZA) fl))
   refine ac ((((s.num != 0)&&(!VF s.op))||(!Um us s.op s.into))||((decide ((s.kids.length:Int)>0))&&((s.op != 7)&&(s.op != 8)))) (p:=(((s.num≠0)/\(¬(VF s.op=true)))∨(¬(Um us s.op s.into=true)))∨(((s.kids.length:Int)>0)/\((s.op≠7)/\(s.op≠8)))) (Yl (Yl (YG Ym (Yr Iff.rfl)) (Yr Iff.rfl)) (YG dq (YG Ym Ym))) (fun Za=>?_) (fun Za=>?_)
   ·exact ar (Zr (Y3 (.i (-1)) (li (by first|rfl|( grind)|(have q:=UR (ds:=n.decls) (us:=us) (args:=s.args) om; grind)|(have q:=US (ds:=n.decls) (us:=us) (args:=s.args) om ‹s.args[0]? = some _› om; grind)|(have q:=UG (ds:=n.decls) (us:=us) (args:=s.args) om ‹s.args[0]? = some _› om ‹us[_]? = some _›; grind)))))
   refine ak (X1 (VI [0] (ab 0 (ar (YD (s.op==0) Zq (fun Ze=>?_) (fun Ze=>?_))))))
   ·refine Zw 2 [0] (iw (Y8 s.args) (Xp [] [(51,.b (((s.args.length:Int)==0)&&(decide ((-999)<=s.num/\s.num<=999))))] (fun gz=>gz) ?_ ?_))
    ·refine Z1 2 (ib (b:=((s.args.length:Int)==0)) 47 (fun Xq=>?_) (fun Xq=>?_))
     ·have Wo:(s.args.length:Int)=0:=(Zq).1 Xq
      exact ZP 2 [0] (Zz [] (UM s.num (-999) 999) (Z0 (wk [0,0] (Zu (decide ((-999)<=s.num/\s.num<=999)) Xq fl))))
     have WR:¬((s.args.length:Int)=0):=Yd Zq Xq
     exact Z0 (wk [0,0] (Zu false Xq fl))
    refine ac (((s.args.length:Int)==0)&&(decide ((-999)<=s.num/\s.num<=999))) (p:=((s.args.length:Int)=0)/\((-999)<=s.num/\s.num<=999)) (YG Zq dq) (fun ZC=>?_) (fun ZC=>?_)
    ·exact ar (Zr (Y3 (.i 0) (li (by first|rfl|( grind)|(have q:=UR (ds:=n.decls) (us:=us) (args:=s.args) om; grind)|(have q:=US (ds:=n.decls) (us:=us) (args:=s.args) om ‹s.args[0]? = some _› om; grind)|(have q:=UG (ds:=n.decls) (us:=us) (args:=s.args) om ‹s.args[0]? = some _› om ‹us[_]? = some _›; grind)))))
    exact ak (ar (Zr (Y3 (.i (-1)) (li (by first|rfl|( grind)|(have q:=UR (ds:=n.decls) (us:=us) (args:=s.args) om; grind)|(have q:=US (ds:=n.decls) (us:=us) (args:=s.args) om ‹s.args[0]? = some _› om; grind)|(have q:=UG (ds:=n.decls) (us:=us) (args:=s.args) om ‹s.args[0]? = some _› om ‹us[_]? = some _›; grind))))))
   refine Y9 (XP (fun fz gz F h=>F=sF [1,3,5,40] fz [(52,.b ((s.op==1)||((s.op==2)||((s.op==3)||(s.op==4)))))]/\h=gz) ?_ ?_)
   ·refine ac (s.op==1) Zq (fun Ye=>?_) (fun Ye=>?_)
    ·exact ak (ZQ ⟨rfl,rfl⟩ (wk [0,0] (fc (x:=.b (s.op==1)) (lb (by first|rfl|(rw [Zf Ye])|(rw [Z8 Ye])|(simp [Ye];done)|(rw [Xl];simp [Ye];done)|omega)) fl)))
    refine ar (YD (s.op==2) Zq (fun Xg=>?_) (fun Xg=>?_))
    ·exact ak (ZQ ⟨rfl,rfl⟩ (wk [0,0] (fc (x:=.b (s.op==2)) (lb (by first|rfl|(rw [Zf Ye])|(rw [Z8 Ye])|(simp [Ye,Xg];done)|(rw [Xl];simp [Ye,Xg];done)|omega)) fl)))
    refine ar (YD (s.op==3) Zq (fun Xd=>?_) (fun Xd=>?_))
    ·exact ak (ZQ ⟨rfl,rfl⟩ (wk [0,0] (fc (x:=.b (s.op==3)) (lb (by first|rfl|(rw [Zf Ye])|(rw [Z8 Ye])|(simp [Ye,Xg,Xd];done)|(rw [Xl];simp [Ye,Xg,Xd];done)|omega)) fl)))
    exact UZ (ZQ ⟨rfl,rfl⟩ (wk [0,0] (fc (x:=.b (s.op==4)) (lb (by first|rfl|(rw [Zf Ye])|(rw [Z8 Ye])|(simp [Ye,Xg,Xd];done)|(rw [Xl];simp [Ye,Xg,Xd];done)|omega)) fl)))
   rintro F h ⟨rfl,rfl⟩
   refine ac ((s.op==1)||((s.op==2)||((s.op==3)||(s.op==4)))) (p:=(s.op=1)∨((s.op=2)∨((s.op=3)∨(s.op=4)))) (Yl Zq (Yl Zq (Yl Zq Zq))) (fun VO=>?_) (fun VO=>?_)
   ·refine Zw 3 [0] (iL (Z6 [0,0]) 2 1 fun v1=>ZT 0 [(60,Z4 [0,0])] (Zz [] (Bt us s.args [0,0] (hl_tys:=(by first|(simp;done)|(have:=VZ Xt s.num;omega)))) (ie (ac (We us s.args [0,0]) Iff.rfl (fun VG=>?_) (fun VG=>?_)))))
    ·exact ar (Zr (Y3 (.i 0) (li (by first|rfl|( grind)|(have q:=UR (ds:=n.decls) (us:=us) (args:=s.args) om; grind)|(have q:=US (ds:=n.decls) (us:=us) (args:=s.args) om ‹s.args[0]? = some _› om; grind)|(have q:=UG (ds:=n.decls) (us:=us) (args:=s.args) om ‹s.args[0]? = some _› om ‹us[_]? = some _›; grind)))))
    exact ak (ar (Zr (Y3 (.i (-1)) (li (by first|rfl|( grind)|(have q:=UR (ds:=n.decls) (us:=us) (args:=s.args) om; grind)|(have q:=US (ds:=n.decls) (us:=us) (args:=s.args) om ‹s.args[0]? = some _› om; grind)|(have q:=UG (ds:=n.decls) (us:=us) (args:=s.args) om ‹s.args[0]? = some _› om ‹us[_]? = some _›; grind))))))
   refine ar (YD (s.op==5) Zq (fun VH=>?_) (fun VH=>?_))
   ·refine Zw 3 [0] (iL (Z6 [0]) 1 1 fun v2=>ZT 0 [(67,Z4 [0])] (Zz [] (Bt us s.args [0] (hl_tys:=(by first|(simp;done)|(have:=VZ Xt s.num;omega)))) (ie (ac (We us s.args [0]) Iff.rfl (fun Tv=>?_) (fun Tv=>?_)))))
    ·exact ar (Zr (Y3 (.i 0) (li (by first|rfl|( grind)|(have q:=UR (ds:=n.decls) (us:=us) (args:=s.args) om; grind)|(have q:=US (ds:=n.decls) (us:=us) (args:=s.args) om ‹s.args[0]? = some _› om; grind)|(have q:=UG (ds:=n.decls) (us:=us) (args:=s.args) om ‹s.args[0]? = some _› om ‹us[_]? = some _›; grind)))))
    exact ak (ar (Zr (Y3 (.i (-1)) (li (by first|rfl|( grind)|(have q:=UR (ds:=n.decls) (us:=us) (args:=s.args) om; grind)|(have q:=US (ds:=n.decls) (us:=us) (args:=s.args) om ‹s.args[0]? = some _› om; grind)|(have q:=UG (ds:=n.decls) (us:=us) (args:=s.args) om ‹s.args[0]? = some _› om ‹us[_]? = some _›; grind))))))
   refine ar (YD (s.op==6) Zq (fun Jp=>?_) (fun Jp=>?_))
   ·refine aD 17 (ZK 13 17 [0,1,2,3] [1,0] (Z9 4 (Yp 4 [] [] [] (LX n.decls s.num) (Ad [3,5] [(87,.b ((decide ((Wg n.decls s.num)>0))&&We us s.args (ZV n.decls s.num)))] (fun gz=>gz) ?_ ?_))))
    ·refine Zj 10 12 [5,6] (db (b:=(decide ((Wg n.decls s.num)>0))) 77 (fun Wy=>?_) (fun Wy=>?_))
     ·have Vc:(Wg n.decls s.num)>0:=(dq).1 Wy
      exact ZK 3 10 [7,8,9,10,11,12,13] [0,1,0] (Z9 14 (Yp 14 [] [0] [b2] (Ks n.decls s.num (hd:=Xt)) (Z9 15 (Yp 15 [] [] [] (Bt us s.args (ZV n.decls s.num) (hl_tys:=(by first|(simp;done)|(have:=VZ Xt s.num;omega)))) (Zj 0 1 [16] (de (wk [0,0] (Zu (We us s.args (ZV n.decls s.num)) Wy fl))))))))
     have Ut:¬((Wg n.decls s.num)>0):=Yd dq Wy
     exact Zj 0 10 [7,8,9,10,11,12,13,14,15,16] (de (wk [0,0] (Zu false Wy fl)))
    refine ac ((decide ((Wg n.decls s.num)>0))&&We us s.args (ZV n.decls s.num)) (p:=((Wg n.decls s.num)>0)/\(We us s.args (ZV n.decls s.num)=true)) (YG dq Iff.rfl) (fun TS=>?_) (fun TS=>?_)
    ·exact Zw 4 [1,0] (Zz [] (LX n.decls s.num) (Zr (Y3 (.i (Wg n.decls s.num)) (li (by first|rfl|( grind)|(have q:=UR (ds:=n.decls) (us:=us) (args:=s.args) om; grind)|(have q:=US (ds:=n.decls) (us:=us) (args:=s.args) om ‹s.args[0]? = some _› om; grind)|(have q:=UG (ds:=n.decls) (us:=us) (args:=s.args) om ‹s.args[0]? = some _› om ‹us[_]? = some _›; grind))))))
    exact ak (ar (Zr (Y3 (.i (-1)) (li (by first|rfl|( grind)|(have q:=UR (ds:=n.decls) (us:=us) (args:=s.args) om; grind)|(have q:=US (ds:=n.decls) (us:=us) (args:=s.args) om ‹s.args[0]? = some _› om; grind)|(have q:=UG (ds:=n.decls) (us:=us) (args:=s.args) om ‹s.args[0]? = some _› om ‹us[_]? = some _›; grind))))))
   refine ar (YD (s.op==7) Zq (fun KR=>?_) (fun KR=>?_))
   ·refine Zw 3 [0] (iL (Z6 [0]) 1 1 fun v3=>ZT 0 [(98,Z4 [0])] (Zz [] (Bt us s.args [0] (hl_tys:=(by first|(simp;done)|(have:=VZ Xt s.num;omega)))) (ie (ac (We us s.args [0]) Iff.rfl (fun C2=>?_) (fun C2=>?_)))))
    ·exact Zw 3 [2,1] (Zz [] (S9 n us s (ih:=ob)) (Zr (Y3 (.i (Ty n us s.op s.num s.kids)) (li (by first|rfl|( grind)|(have q:=UR (ds:=n.decls) (us:=us) (args:=s.args) om; grind)|(have q:=US (ds:=n.decls) (us:=us) (args:=s.args) om ‹s.args[0]? = some _› om; grind)|(have q:=UG (ds:=n.decls) (us:=us) (args:=s.args) om ‹s.args[0]? = some _› om ‹us[_]? = some _›; grind))))))
    exact ak (ar (Zr (Y3 (.i (-1)) (li (by first|rfl|( grind)|(have q:=UR (ds:=n.decls) (us:=us) (args:=s.args) om; grind)|(have q:=US (ds:=n.decls) (us:=us) (args:=s.args) om ‹s.args[0]? = some _› om; grind)|(have q:=UG (ds:=n.decls) (us:=us) (args:=s.args) om ‹s.args[0]? = some _› om ‹us[_]? = some _›; grind))))))
   refine ar (YD (s.op==8) Zq (fun Iv=>?_) (fun Iv=>?_))
   ·refine Zw 5 [0,0] (iL (Z6 [s.num]) 1 1 fun v4=>ZT 0 [(111,Z4 [s.num])] (Zz [] (Bt us s.args [s.num] (hl_tys:=(by first|(simp;done)|(have:=VZ Xt s.num;omega)))) (ie (ac (We us s.args [s.num]) Iff.rfl (fun Iw=>?_) (fun Iw=>?_)))))
    ·exact Zw 3 [2,1] (Zz [] (S9 n us s (ih:=ob)) (Zr (Y3 (.i (Ty n us s.op s.num s.kids)) (li (by first|rfl|( grind)|(have q:=UR (ds:=n.decls) (us:=us) (args:=s.args) om; grind)|(have q:=US (ds:=n.decls) (us:=us) (args:=s.args) om ‹s.args[0]? = some _› om; grind)|(have q:=UG (ds:=n.decls) (us:=us) (args:=s.args) om ‹s.args[0]? = some _› om ‹us[_]? = some _›; grind))))))
    exact ak (ar (Zr (Y3 (.i (-1)) (li (by first|rfl|( grind)|(have q:=UR (ds:=n.decls) (us:=us) (args:=s.args) om; grind)|(have q:=US (ds:=n.decls) (us:=us) (args:=s.args) om ‹s.args[0]? = some _› om; grind)|(have q:=UG (ds:=n.decls) (us:=us) (args:=s.args) om ‹s.args[0]? = some _› om ‹us[_]? = some _›; grind))))))
   refine Y9 (XP (fun fz gz F h=>F=sF [1,3,5,40] fz [(117,.b ((s.op==9)||(s.op==10)))]/\h=gz) ?_ ?_)
   ·refine ac (s.op==9) Zq (fun Jq=>?_) (fun Jq=>?_)
    ·exact ak (ZQ ⟨rfl,rfl⟩ (wk [0,0] (fc (x:=.b (s.op==9)) (lb (by first|rfl|(rw [Zf Jq])|(rw [Z8 Jq])|(simp [Jq];done)|(rw [Xl];simp [Jq];done)|omega)) fl)))
    exact UZ (ZQ ⟨rfl,rfl⟩ (wk [0,0] (fc (x:=.b (s.op==10)) (lb (by first|rfl|(rw [Zf Jq])|(rw [Z8 Jq])|(simp [Jq];done)|(rw [Xl];simp [Jq];done)|omega)) fl)))
   rintro F h ⟨rfl,rfl⟩
   refine ac ((s.op==9)||(s.op==10)) (p:=(s.op=9)∨(s.op=10)) (Yl Zq Zq) (fun Z7d=>?_) (fun Z7d=>?_)
   ·exact Zw 3 [1,0] (Zz [] (Ze7 n us s) (Zr (Y3 (.i (TC n us s.op s.num s.args)) (li (by first|rfl|( grind)|(have q:=UR (ds:=n.decls) (us:=us) (args:=s.args) om; grind)|(have q:=US (ds:=n.decls) (us:=us) (args:=s.args) om ‹s.args[0]? = some _› om; grind)|(have q:=UG (ds:=n.decls) (us:=us) (args:=s.args) om ‹s.args[0]? = some _› om ‹us[_]? = some _›; grind))))))
   refine ar (YD (s.op==11) Zq (fun Z7e=>?_) (fun Z7e=>?_))
   ·refine aD 26 (ZK 24 26 [0,1] [0] (dw 2 (Y8 s.args) (Zj 21 23 [3,4] (db (b:=((s.args.length:Int)==2)) 130 (fun V4=>?_) (fun V4=>?_)))))
    ·have T0:(s.args.length:Int)=2:=(Zq).1 V4
     refine ZK 19 21 [5,6] [0] ?_
     obtain ⟨x1,Z3⟩:=Zs s.args 0 om
     refine dx 7 (Zi none 0 1 (ZZ Z3)) (Zj 16 18 [8,9] (dw 10 (Y8 us) (da 11 (((us.length:Int)-1)) (((us.length:Int))-(1)) (Z9 12 (Yp 12 [] [] [] (UM x1 0 ((us.length:Int)-1)) (Zj 11 13 [13,14] (db (b:=(decide (0<=x1/\x1<=((us.length:Int)-1)))) 140 (fun Vl=>?_) (fun Vl=>?_))))))))
     ·have T1:0<=x1/\x1<=((us.length:Int)-1):=(dq).1 Vl
      refine ZK 6 11 [15,16,17,18,19] [1,0] (dx 20 (Zi none 0 1 (ZZ Z3)) (Zj 4 5 [21] ?_))
      obtain ⟨x2,Zt⟩:=Zs us x1.toNat om
      refine dx 22 (Zi none x1 1 (ZZ Zt)) (Zj 2 3 [23] (Z9 24 (Yp 24 [] [] [] (Ew n.decls x2) (Zj 0 1 [25] (de (ac (XX n.decls x2) Iff.rfl (fun Z7f=>?_) (fun Z7f=>?_)))))))
      ·refine aD 14 (ZK 9 14 [0,1,2,3,4] [1,0] (dx 5 (Zi none 0 1 (ZZ Z3)) (Zj 7 8 [6] (dx 7 (Zi none x1 1 (ZZ Zt)) (Zj 5 6 [8] (da 9 ((x2-1)) ((x2)-(1)) (hb:=(by have:=IG ‹XX n.decls _=true›;omega)) ?_))))))
       obtain ⟨x3,YO⟩:=Zs n.decls ((x2-1).toNat) (by have:=IG ‹XX n.decls _=true›;omega)
       have had:=Z16 (us:=us) (args:=s.args) om ‹s.args[0]? = some _› om ‹us[_]? = some _› ‹XX n.decls _=true› YO
       refine dx 10 (AE (es:=X3 n.decls) (hv:=none) (j:=(x2-1)) (sz:=3) (y:=BL x3) kr (by have:=IG ‹XX n.decls _=true›;omega) (VM YO) rfl) (Zj 2 3 [11] (Z9 12 (dA 12 [0,1] [b2,b1] [.i 0,.i 0,nl] fun b3=>Z9 13 (YJ 13 0 [] [] b3 (QV x3) (de (aD 8 (ZK 5 8 [0,1,2] [1] (dx 3 (J4 (es:=Z6 s.args) (hv:=none) (l:=1) (m:=(((Z6 s.args).length:Nat):Int)) (sz:=1) (es':=Z6 (s.args.drop 1)) kr om (by simp<;>omega) (by simp<;>omega) (Yy _) (by first|(simp only [VS,Vy,Jl,Ah];done)|(simp only [VS,Vy,Jl,Ah];rfl)|(simp [Jl,Ah];done))) (ZK 2 4 [4,5] [0] (Z9 6 (dL 6 [1] [b2] (Z6 [x3.frm]) 1 1 fun v5=>Yt 1 1 [] [(170,Z4 [x3.frm])] (Z9 7 (Yp 7 [] [] [] (Bt us (s.args.drop 1) [x3.frm] (hl_tys:=(by first|(simp;done)|(have:=VZ Xt s.num;omega)))) (de (ac (We us (s.args.drop 1) [x3.frm]) Iff.rfl (fun On=>?_) (fun On=>?_))))))))))))))))
       ·exact Al [1] (ZD (Y3 (.i x3.to_) (li (by first|rfl|(clear Z3 Zt YO;grind)|(have q:=UR (ds:=n.decls) (us:=us) (args:=s.args) om;clear Z3 Zt YO;grind)|(have q:=US (ds:=n.decls) (us:=us) (args:=s.args) om ‹s.args[0]? = some _› om;clear Z3 Zt YO;grind)|(have q:=UG (ds:=n.decls) (us:=us) (args:=s.args) om ‹s.args[0]? = some _› om ‹us[_]? = some _›;clear Z3 Zt YO;grind)))))
       exact ak (ar (Zr (Y3 (.i (-1)) (li (by first|rfl|(clear Z3 Zt YO;grind)|(have q:=UR (ds:=n.decls) (us:=us) (args:=s.args) om;clear Z3 Zt YO;grind)|(have q:=US (ds:=n.decls) (us:=us) (args:=s.args) om ‹s.args[0]? = some _› om;clear Z3 Zt YO;grind)|(have q:=UG (ds:=n.decls) (us:=us) (args:=s.args) om ‹s.args[0]? = some _› om ‹us[_]? = some _›;clear Z3 Zt YO;grind))))))
      exact ak (ar (Zr (Y3 (.i (-1)) (li (by first|rfl|(clear Z3 Zt;grind)|(have q:=UR (ds:=n.decls) (us:=us) (args:=s.args) om;clear Z3 Zt;grind)|(have q:=US (ds:=n.decls) (us:=us) (args:=s.args) om ‹s.args[0]? = some _› om;clear Z3 Zt;grind)|(have q:=UG (ds:=n.decls) (us:=us) (args:=s.args) om ‹s.args[0]? = some _› om ‹us[_]? = some _›;clear Z3 Zt;grind))))))
     have Qp:¬(0<=x1/\x1<=((us.length:Int)-1)):=Yd dq Vl
     exact Zj 0 11 [15,16,17,18,19,20,21,22,23,24,25] (de (Wb (ak (ar (Zr (Y3 (.i (-1)) (li (by first|rfl|(clear Z3;grind)|(have q:=UR (ds:=n.decls) (us:=us) (args:=s.args) om;clear Z3;grind)|(have q:=US (ds:=n.decls) (us:=us) (args:=s.args) om ‹s.args[0]? = some _› om;clear Z3;grind)|(have q:=UG (ds:=n.decls) (us:=us) (args:=s.args) om ‹s.args[0]? = some _› om ‹us[_]? = some _›;clear Z3;grind)))))))))
    have Qb:¬((s.args.length:Int)=2):=Yd Zq V4
    exact Zj 0 21 [5,6,7,8,9,10,11,12,13,14,15,16,17,18,19,20,21,22,23,24,25] (de (Wb (ak (ar (Zr (Y3 (.i (-1)) (li (by first|rfl|( grind)|(have q:=UR (ds:=n.decls) (us:=us) (args:=s.args) om; grind)|(have q:=US (ds:=n.decls) (us:=us) (args:=s.args) om ‹s.args[0]? = some _› om; grind)|(have q:=UG (ds:=n.decls) (us:=us) (args:=s.args) om ‹s.args[0]? = some _› om ‹us[_]? = some _›; grind)))))))))
   refine Y9 (XP (fun fz gz F h=>F=sF [1,3,5] fz [(174,.b ((s.op==14)||((s.op==15)||((s.op==16)||(s.op==17)))))]/\h=gz) ?_ ?_)
   ·refine ac (s.op==14) Zq (fun TK=>?_) (fun TK=>?_)
    ·exact ak (ZQ ⟨rfl,rfl⟩ (wk [0,0] (fc (x:=.b (s.op==14)) (lb (by first|rfl|(rw [Zf TK])|(rw [Z8 TK])|(simp [TK];done)|(rw [Xl];simp [TK];done)|omega)) fl)))
    refine ar (YD (s.op==15) Zq (fun Ar=>?_) (fun Ar=>?_))
    ·exact ak (ZQ ⟨rfl,rfl⟩ (wk [0,0] (fc (x:=.b (s.op==15)) (lb (by first|rfl|(rw [Zf TK])|(rw [Z8 TK])|(simp [TK,Ar];done)|(rw [Xl];simp [TK,Ar];done)|omega)) fl)))
    refine ar (YD (s.op==16) Zq (fun E0=>?_) (fun E0=>?_))
    ·exact ak (ZQ ⟨rfl,rfl⟩ (wk [0,0] (fc (x:=.b (s.op==16)) (lb (by first|rfl|(rw [Zf TK])|(rw [Z8 TK])|(simp [TK,Ar,E0];done)|(rw [Xl];simp [TK,Ar,E0];done)|omega)) fl)))
    exact UZ (ZQ ⟨rfl,rfl⟩ (wk [0,0] (fc (x:=.b (s.op==17)) (lb (by first|rfl|(rw [Zf TK])|(rw [Z8 TK])|(simp [TK,Ar,E0];done)|(rw [Xl];simp [TK,Ar,E0];done)|omega)) fl)))
   rintro F h ⟨rfl,rfl⟩
   refine ac ((s.op==14)||((s.op==15)||((s.op==16)||(s.op==17)))) (p:=(s.op=14)∨((s.op=15)∨((s.op=16)∨(s.op=17)))) (Yl Zq (Yl Zq (Yl Zq Zq))) (fun Z7g=>?_) (fun Z7g=>?_)
   ·exact Zw 3 [1,0] (Zz [] (Zdy n us s) (Zr (Y3 (.i (TH n.decls us s.op s.args)) (li (by first|rfl|( grind)|(have q:=UR (ds:=n.decls) (us:=us) (args:=s.args) om; grind)|(have q:=US (ds:=n.decls) (us:=us) (args:=s.args) om ‹s.args[0]? = some _› om; grind)|(have q:=UG (ds:=n.decls) (us:=us) (args:=s.args) om ‹s.args[0]? = some _› om ‹us[_]? = some _›; grind))))))
   exact ak (ar (Zr (Y3 (.i (-1)) (li (by first|rfl|( grind)|(have q:=UR (ds:=n.decls) (us:=us) (args:=s.args) om; grind)|(have q:=US (ds:=n.decls) (us:=us) (args:=s.args) om ‹s.args[0]? = some _› om; grind)|(have q:=UG (ds:=n.decls) (us:=us) (args:=s.args) om ‹s.args[0]? = some _› om ‹us[_]? = some _›; grind))))))
  refine Z1 1 (ib (b:=((s.num != 0)&&(!VF s.op))) 17 (fun Va=>?_) (fun Va=>?_))
  ·have KS:(s.num≠0)/\(¬(VF s.op=true)):=((YG Ym (Yr Iff.rfl))).1 Va
   exact Z1 5 (Yx (wk [0,0] (Zu true Va fl)) hj2)
  have Kl:¬((s.num≠0)/\(¬(VF s.op=true))):=Yd (YG Ym (Yr Iff.rfl)) Va
  exact ZP 2 [0] (Zz [] (Zei us s) (Z1 2 (Yx (wk [0,0] (Zu (!Um us s.op s.into) Va fl)) hj2)))
 refine ZP 4 [0] (ib (b:=(s.num != 0)) 11 (fun Vb=>?_) (fun Vb=>?_))
 ·have Bb:s.num≠0:=(Ym).1 Vb
  exact ZP 2 [0] (Zz [] (Zdz s.op) (Z1 2 (Yx (wk [0,0] (Zu (!VF s.op) Vb fl)) hj1)))
 have Jr:¬(s.num≠0):=Yd Ym Vb
 exact Z1 5 (Yx (wk [0,0] (Zu false Vb fl)) hj1)
theorem Zdu (n:Zk) (us:LI) (b:Z7) (hn:X2 n:=by exact ob) (hb:us.length+4*b.sz<=1000000000:=by exact ob) (ih:∀(s:Z5) (us:LI),(s.sz<b.sz)->(us.length+4*s.sz<=1000000000)->Zl 164 [Yn n,Z4 us,YI s] [] (Yo (.i (Yb n us s)))):Zl 128 [Yn n,Z4 us,Y0 b] [] (Yo (.i (Xo n us b))):=by
 have hbz:=VW b
 have hbe:=Cv n us b
 refine ZG 52 Tryz.func128 (ar (iA (YS n) fun b1=>iA (Xk b) fun b2=>Z0 (Y5 1 (ic [] (Uk us) ?_))))
 rintro _ _ ⟨v1,rfl,rfl⟩
 refine Z0 (Y9 (ab 0 (Y2 (fun fz gz m F h=>∃(k:Nat) (vs:LI) (v:Value),(k<=b.steps.length)/\(vs.length<=us.length+k)/\(XB n (b.steps.drop k) vs=XB n b.steps us)/\F=sF [3,5] fz [(7,ZM vs v),(8,.i k)]/\h=[Zc gz 1,Zc gz 2,.tail v 1]/\m=b.steps.length-k) _ _ _ ⟨0,us,v1,ob,ob,ob,rfl,rfl,rfl⟩ (wk [1,1,0] (fr (Ya fl))) ?_)))
 rintro m F h ⟨k,vs,v,Yf,Zh,Zv,rfl,rfl,rfl⟩
 refine Yi 3 [0] (iw (VD b.steps) (Y1 ((k:Int)<(b.steps.length:Int)) (fun Za=>?_) (fun Za=>?_)))
 ·refine ak (aq (ab 1 (aD 9 (ZK 4 9 [0,1,2,3,4] [1,0] ?_))))
  obtain ⟨x1,Z3⟩:=Zs b.steps k om
  have hss:=Ci Z3
  refine dx 5 (Zi none (k:Int) 5 (WL Z3)) (Yt 2 3 [6] [(20,Z4 vs)] (Z9 7 (Yp 7 [] [] [] (ih x1 vs ob ob) (Zj 0 1 [8] (de (X1 (Y1 ((Yb n vs x1)<0) (fun Ze=>?_) (fun Ze=>?_))))))))
  ·refine ZE ?_
   rw [Y7 Z3] at Zv
   exact ZD (Y3 (.i (-1)) (li (by clear Z3;first|rfl|omega|grind [XB])))
  refine ak (Zw 3 [0] (Zm (Zi none (k:Int) 5 (WL Z3)) (Z1 2 (Zz [] (J2 x1.op) (ie (KI (fun fz gz F h=>∃(w:Value),F=sF [3,5,8] fz [(7,ZM (if XQ x1.op=true then vs++[Yb n vs x1] else vs) w)]/\h=[Zc gz 0,Zc gz 1,.tail w 1]) (fun _ _=>rfl) ?_ ?_))))))
  ·refine ac (XQ x1.op) Iff.rfl (fun ZC=>?_) (fun ZC=>?_)
   ·exact az (Z1 2 (iL (Z6 [Yb n vs x1]) 1 1 fun v2=>ZT 0 [(38,Z4 [Yb n vs x1])] (ip 3 (Z6 (vs++[Yb n vs x1])) (Z6 vs) (Z6 [Yb n vs x1]) v none 1 (Yy _) (Yy _) (W5 _) (by simp<;>omega) (by simp [W4,Z6]) fun v3=>Z0 (ZQ ⟨v3,rfl,rfl⟩ (wk [2,2,0] (fc (x:=ZM (vs++[Yb n vs x1]) v3) (Zd.slh _ (Yj Z6 (by first|rfl|(rw [Zf ZC])|(rw [Z8 ZC])|(simp [ZC];done)|(rw [Xl];simp [ZC];done)|omega))) fl))))))
   exact ak (ZQ ⟨v,rfl,rfl⟩ (ZF 3 (fc (x:=ZM vs v) (Zd.slh _ (Yj Z6 (by first|rfl|(rw [Zf ZC])|(rw [Z8 ZC])|(simp [ZC];done)|(rw [Xl];simp [ZC];done)|omega))) fl)))
  rintro F h ⟨w,rfl,rfl⟩
  refine az (Z1 1 (ZJ k (Z0 ?_)))
  have hdr:=Y7 Z3
  exact ZL ⟨k+1,(if XQ x1.op=true then vs++[Yb n vs x1] else vs),w,ob,(by split<;>(try simp)<;>omega),(by rw [hdr] at Zv;clear hdr Z3;grind [XB]),rfl,rfl,rfl⟩ (ZF 3 (fr (ZO k fl)))
 refine ax 0 (Yi 3 [0] (iw (Y8 vs) (ia (((vs.length:Int)-1)) (((vs.length:Int))-(1)) (Zz [] (UM b.result 0 ((vs.length:Int)-1)) (YD (!(decide (0<=b.result/\b.result<=((vs.length:Int)-1)))) (p:=¬(0<=b.result/\b.result<=((vs.length:Int)-1))) (Yr dq) (fun Ye=>?_) (fun Ye=>?_))))))
 ·refine ZE ?_
  try rw [Xh (xs:=b.steps) (k:=k) om] at Zv
  exact ZD (Y3 (.i (-1)) (li (by rw [hbe,<-Zv];show _=(Xx vs b.result).getD (-1);rw [Ke Ye];rfl)))
 refine ak (Zw 3 [0] ?_)
 obtain ⟨x2,Zt⟩:=Zs vs b.result.toNat om
 refine Zm (Zi (some v) b.result 1 (ZZ Zt)) (Z0 ?_)
 try rw [Xh (xs:=b.steps) (k:=k) om] at Zv
 exact ZD (Y3 (.i x2) (li (by rw [hbe,<-Zv];show _=(Xx vs b.result).getD (-1);rw [Q6 om Zt];rfl)))
theorem Zee (b:Z7) (l:Int) (hb:b.sz<=1000000000) (hl:0<=l/\l<=600) (ih:∀(b2:Z7) (l:Int),(b2.sz<b.sz)->(0<=l/\l<=600)->Zl 103 [Y0 b2,.i l] [] (Yo (.i (WM b2 l)))):Zl 103 [Y0 b,.i l] [] (Yo (.i (WM b l))):=by
 have hbz:=VW b
 have hbe:=Pl b l
 refine ZG 43 Tryz.func103 (ar (iA (Xk b) fun b1=>?_))
 refine Z0 (Y9 (ab 0 (Y2 (fun fz gz m F h=>∃(k:Nat) (q:Int),(k<=b.steps.length)/\(0<=q/\q<=600)/\(TT (b.steps.drop k) q=TT b.steps l)/\F=sF [2] fz [(1,.i q),(5,.i k)]/\h=gz/\m=b.steps.length-k) _ _ _ ⟨0,l,ob,ob,ob,rfl,rfl,rfl⟩ (wk [0] (fr (Ya fl))) ?_)))
 rintro m F h ⟨k,q,Yf,Zh,Zv,rfl,rfl,rfl⟩
 refine Yi 3 [0] (iw (VD b.steps) (Y1 ((k:Int)<(b.steps.length:Int)) (fun Za=>?_) (fun Za=>?_)))
 ·refine ak (aq (ab 1 (X1 (Y1 (q<1) (fun Ze=>?_) (fun Ze=>?_)))))
  ·refine ZE ?_
   try rw [Xh (xs:=b.steps) (k:=k) om] at Zv
   obtain ⟨x1,Z3⟩:=Zs b.steps k om
   rw [Y7 Z3] at Zv
   clear Z3
   exact ZD (Y3 (.i (-1)) (li (by first|rfl|omega|grind [TT])))
  obtain ⟨s1,hxs1⟩:=Zs b.steps k om
  have hss:=J7 hxs1
  have hkz:=Tz s1
  refine ak (Y5 1 (ia ((q-1)) ((q)-(1)) (Z0 (ZE (ab 2 (Y2 (fun fz gz m F h=>∃(j:Nat) (j2:Int),(j<=s1.kids.length)/\(0<=j2/\j2<=600)/\(Qe (s1.kids.drop j) j2=Qe s1.kids (q-1))/\F=sF [2,5] fz [(1,.i j2),(6,.i j)]/\h=gz/\m=s1.kids.length-j) _ _ _ ⟨0,(q-1),ob,ob,ob,rfl,rfl,rfl⟩ (wk [0] (fr (Ya fl))) ?_))))))
  rintro m F h ⟨j,j2,Uo,W2,XT,rfl,rfl,rfl⟩
  refine Yi 4 [0] (Zm (Zi none (k:Int) 5 (WL hxs1)) (Z1 2 (iw (Uf s1.kids) (Y1 ((j:Int)<(s1.kids.length:Int)) (fun ZC=>?_) (fun ZC=>?_)))))
  ·refine ak (aq (ab 3 (Zw 3 [0] (Zm (Zi none (k:Int) 5 (WL hxs1)) (Z1 3 ?_)))))
   obtain ⟨x1,Z3⟩:=Zs s1.kids j om
   have hks:=Tm Z3
   have hle:=IW.2 x1 j2 om
   refine Zm (Zi none (j:Int) 2 (UV Z3)) (Z1 2 (Zz [] (ih x1 j2 ob ob) (Z0 (ar (Y1 ((WM x1 j2)<0) (fun Ye=>?_) (fun Ye=>?_))))))
   ·refine ZE ?_
    rw [Y7 hxs1] at Zv
    rw [Y7 Z3] at XT
    have hls:=G8 s1 (q-1)
    exact ZD (Y3 (.i (-1)) (li (by clear Z3 hxs1;first|rfl|omega|grind [TT,Qe])))
   refine ak (az (Z1 1 (ZJ j (Z0 ?_))))
   have hdr:=Y7 Z3
   exact ZL ⟨j+1,(WM x1 j2),ob,ob,(by rw [hdr] at XT;clear hdr Z3 hxs1;grind [Qe]),rfl,rfl,rfl⟩ (wk [0] (fr (ZO j fl)))
  refine ax 2 (az (Z1 1 (ZJ k (Z0 ?_))))
  rw [Xh om] at XT
  have hls:=G8 s1 (q-1)
  rw [Qe] at XT
  have hdr:=Y7 hxs1
  exact ZL ⟨k+1,j2,ob,ob,(by rw [hdr] at Zv;clear hdr hxs1;grind [TT]),rfl,rfl,rfl⟩ (wk [0] (fr (ZO k fl)))
 refine ax 0 (ZE ?_)
 try rw [Xh (xs:=b.steps) (k:=k) om] at Zv
 exact ZD (Y3 (.i q) (li (by first|rfl|omega|grind [TT])))
theorem Zed (b:Z7) (l:Int) (hb:b.sz<=1000000000) (hl:0<=l/\l<=600):Zl 103 [.agg [.sl (Zy b.steps) none,.i b.result],.i l] [] (Yo (.i (WM b l))):=by
 have key:∀m:Nat,∀(b:Z7) (l:Int),b.sz<=m->b.sz<=1000000000->(0<=l/\l<=600)->Zl 103 [.agg [.sl (Zy b.steps) none,.i b.result],.i l] [] (Yo (.i (WM b l))):=by
  intro m
  induction m with
  | zero=>intro b l h;have:=b.sz_pos;omega
  | succ m ih=>intro b l h1 h2 h3;exact Zee b l h2 h3 fun b2 l2 k1 k2=>ih b2 l2 om om k2
 exact key b.sz b l (X5 _) hb hl
theorem Zdt (n:Zk) (hn:X2 n) (m:Nat):∀(b:Z7) (us:LI),(b.sz<=m)->(us.length+4*b.sz<=1000000000)->Zl 128 [Yn n,Z4 us,Y0 b] [] (Yo (.i (Xo n us b))):=by
 induction m with
 | zero=>intro b us h;have:=b.sz_pos;omega
 | succ m ih=>intro b us h1 h2;exact Zdu n us b hn h2 fun s us2 k1 k2=>Sd n us2 s hn k2 fun b2 us3 q1 q2=>ih b2 us3 om q2
theorem S3 (n:Zk) (us:LI) (b:Z7) (hn:X2 n) (hb:us.length+4*b.sz<=1000000000):Zl 128 [Yn n,Z4 us,Y0 b] [] (Yo (.i (Xo n us b))):=
 Zdt n hn b.sz b us (X5 _) hb
theorem M0 (n:Zk) (us:LI) (s:Z5) (hn:X2 n) (hb:us.length+4*s.sz<=1000000000):Zl 164 [Yn n,Z4 us,YI s] [] (Yo (.i (Yb n us s))):=
 Sd n us s hn hb fun b2 us3 _ q2=>S3 n us3 b2 hn q2
theorem Zef (b:Z7) (hb:b.sz<=1000000000:=by exact ob):Zl 66 [Y0 b] [] (Yo (.i (TM b))):=by
 have hle:=IW.2 b 600 om
 refine ZG 10 Tryz.func66 (ar (iA (Xk b) fun b1=>Z0 (Zw 1 [0] (Zz [] (Zed b 600 ob ob) (Z0 (X1 (Y1 ((WM b 600)<0) (fun Za=>?_) (fun Za=>?_))))))))
 ·exact ar (Zr (Y3 (.i (-1)) (li (by first|rfl|omega|grind [TM]))))
 exact ak (Y5 1 (ia ((600-(WM b 600))) ((600)-(WM b 600)) (Zr (Y3 (.i (600-(WM b 600))) (li (by first|rfl|omega|grind [TM]))))))
theorem Am (z:Int) :Zl 226 [.i z] [] (Yo (Y4 (Z2.mk 0 z []))):=by
 exact ZG 6 Tryz.func226 (ar (iA [.i 0,.i 0,nl] fun b1=>ie (Y5 1 (iL (Yu []) 0 3 fun v1=>Z1 1 (ZI 1 b1 [.i 0,.i z,Qt [] v1] (ie (ZD (r3 [] [.agg [.i 0,.i z,Qt [] v1]] [0] [(b1,b1)] ⟨rfl,rfl⟩ (Zd.agg (.cons li (.cons li (.cons (Zd.sl _ (Yj Yu rfl)) .nil))))))))))))
theorem Qa (z:Int) :Zl 273 [.i z] [] (Yo (Y4 (Z2.mk 12 z []))):=by
 exact ZG 6 Tryz.func273 (ar (iA [.i 0,.i 0,nl] fun b1=>ie (Y5 1 (iL (Yu []) 0 3 fun v1=>Z1 1 (ZI 1 b1 [.i 12,.i z,Qt [] v1] (ie (ZD (r3 [] [.agg [.i 12,.i z,Qt [] v1]] [0] [(b1,b1)] ⟨rfl,rfl⟩ (Zd.agg (.cons li (.cons li (.cons (Zd.sl _ (Yj Yu rfl)) .nil))))))))))))
theorem XR (op:Int) (nm:Int) (ks:List Z2) :Zl 271 [.i op,.i nm,XA ks] [] (Yo (Y4 (Z2.mk op nm ks))):=by
 exact ZG 11 Tryz.func271 (ar (iA [.i 0,.i 0,nl] fun b1=>ie (Y5 4 (ZI 0 b1 [.i op,.i nm,XA ks] (ie (ZD (r3 [] [.agg [.i op,.i nm,XA ks]] [0] [(b1,b1)] ⟨rfl,rfl⟩ (Zd.agg (.cons li (.cons li (.cons (Zd.sl _ (Yj Yu rfl)) .nil)))))))))))
theorem Og (rd:Nat) (bs:LI) (p:Nat) (ZH:∀z∈bs,0<=z/\z<=255) (hp:p+4<=1000000000:=by exact ob):Zl 294 [.p rd 0] [Yw rd bs p] (fun r h=>∃(z:Int),r=.i z/\h=[.obj rd [U3 bs,.i (p+4:Nat)]]/\-2000<=z/\z<=2000):=by
 refine ZG 12 Tryz.func294 (ZE (Y5 2 (ic [0] (W8 rd bs p 6 (ZH:=ob)) ?_)))
 rintro _ _ ⟨k1,rfl,rfl,ZW⟩
 have qhp1:=ZW.lt om
 refine Z1 1 (ic [0] (W8 rd bs (p+1) 6 (ZH:=ob)) ?_)
 rintro _ _ ⟨k2,rfl,rfl,Yh⟩
 have qhp2:=Yh.lt om
 refine Z1 1 (ic [0] (W8 rd bs ((p+1)+1) 40 (ZH:=ob)) ?_)
 rintro _ _ ⟨k3,rfl,rfl,YE⟩
 have qhp3:=YE.lt om
 refine iL (Z6 [k1,k2,0,1,2,-1,3,k3,999,-998]) 10 1 fun v1=>ZT 0 [(10,Z4 [k1,k2,0,1,2,-1,3,k3,999,-998])] (ic [1] (VN rd bs (((p+1)+1)+1) [k1,k2,0,1,2,-1,3,k3,999,-998] (ZH:=ob)) ?_)
 rintro _ _ ⟨z1,rfl,rfl,YK⟩
 exact Zr (r1 [0] ⟨z1,rfl,rfl,(by simp at YK;omega)⟩)
theorem O5 (g:Wa) (gb:Nat) (rs:List Func) (t:Int) (hg:GP g:=by exact ob) (Wq:g.funcs <+: rs:=by exact ob):Zl 306 [.agg (Wu g gb),.i t] [XN gb rs] (fun r h=>∃(xs:LI),r=Z4 xs/\h=[XN gb rs]/\xs.length<=4/\∀i∈xs,A3 g t i):=by
 have hgl:=hg.len
 have hdl:=hg.decls.len
 refine ZG 53 Tryz.func306 (ar (iA (Wu g gb) fun b1=>Z0 (ar (iL (Z6 []) 0 1 fun v1=>?_))))
 refine Z0 (Y9 (ab 0 (Y2 (fun fz gz m F h=>∃(k:Nat) (ys:LI) (u:Value),(k<=g.funcs.length)/\(ys.length<=k)/\(∀i∈ys,A3 g t i)/\F=sF [1,2] fz [(5,ZM ys u),(6,.i k)]/\h=[Zc gz 1,Zc gz 2,.tail u 1]/\m=g.funcs.length-k) _ _ _ ⟨0,[],v1,ob,ob,(fun i hi=>by cases hi),rfl,rfl,rfl⟩ (wk [1,1,0] (fr (Ya fl))) ?_)))
 rintro m F h ⟨k,ys,u,Yf,Zh,Zv,rfl,rfl,rfl⟩
 refine Yi 3 [0] (io (.i g.funcs.length) (.i g.funcs.length) (lr _) (Y1 ((k:Int)<(g.funcs.length:Int)) (fun Za=>?_) (fun Za=>?_)))
 ·refine ak (aq (ab 1 (Zw 3 [0] ?_)))
  obtain ⟨x1,Z3⟩:=Zs g.funcs k om
  have hso:=(hg.sigs _ (ZX Z3)).bd
  refine Zm (Wp gb g.funcs.length 4 k 5 (k:Int)) (Z1 1 (WS (Vm 1 gb 4 4 5 (k*5+0) (Zo (Xs rs)) [Z4 x1.params] 31 (Z4 x1.params) (UI Wq Z3 0 rfl (V8 rfl))) (iw (Y8 x1.params) (Z0 (aD 25 (Zj 22 25 [0,1,2] (db (b:=(decide ((x1.params.length:Int)>0))) 25 (fun Zb=>?_) (fun Zb=>?_))))))))
  ·have ZW:(x1.params.length:Int)>0:=(dq).1 Zb
   refine ZK 17 22 [3,4,5,6,7] [0,0] (dx 8 (Wp gb g.funcs.length 4 k 5 (k:Int)) (Zj 15 16 [9] (Ua 10 (Vm 1 gb 4 4 5 (k*5+0) (Zo (Xs rs)) [Z4 x1.params] 31 (Z4 x1.params) (UI Wq Z3 0 rfl (V8 rfl))) (Zj 13 14 [11] (da 12 ((((x1.params.length-1):Nat):Int)) (((x1.params.length:Int))-(1)) ?_)))))
   obtain ⟨x2,Zt⟩:=Zs x1.params (x1.params.length-1) om
   refine dx 13 (Zi none (((x1.params.length-1):Nat):Int) 1 (ZZ Zt)) (ZK 7 11 [14,15,16,17] [0] (dx 18 (Wp gb g.funcs.length 4 k 5 (k:Int)) (Zj 5 6 [19] (Ua 20 (Vm 1 gb 4 4 5 (k*5+1) (Zo (Xs rs)) [.i x1.result] 3 (.i x1.result) (UI Wq Z3 1 rfl (V8 rfl))) (Zj 3 4 [22] (Z9 21 (Yp 21 [] [] [] (S2 g.decls x2 x1.result) (Zj 0 2 [23,24] (de (ac ((Ue g.decls x2 x1.result)==t) Zq (fun Ze=>?_) (fun Ze=>?_)))))))))))
   ·exact az (Z1 2 (iL (Z6 [(k:Int)]) 1 1 fun v2=>ZT 0 [(50,Z4 [(k:Int)])] (ip 3 (Z6 (ys++[(k:Int)])) (Z6 ys) (Z6 [(k:Int)]) u none 1 (Yy _) (Yy _) (W5 _) (by simp<;>omega) (by simp [W4,Z6]) fun v3=>Z0 (az (Z1 1 (ZJ k (Z0 (ZL ⟨k+1,(ys++[(k:Int)]),v3,ob,ob,(XC Zv (A3.mk Z3 om Zt Ze)),rfl,rfl,rfl⟩ (wk [2,2,0] (fr (ZO k fl)))))))))))
   exact ak (az (Z1 1 (ZJ k (Z0 (ZL ⟨k+1,ys,u,ob,ob,ob,rfl,rfl,rfl⟩ (ZF 3 (fr (ZO k fl))))))))
  have Yh:¬((x1.params.length:Int)>0):=Yd dq Zb
  exact Zj 0 22 [3,4,5,6,7,8,9,10,11,12,13,14,15,16,17,18,19,20,21,22,23,24] (de (Wb (ak (az (Z1 1 (ZJ k (Z0 (ZL ⟨k+1,ys,u,ob,ob,ob,rfl,rfl,rfl⟩ (ZF 3 (fr (ZO k fl)))))))))))
 exact ax 0 (ar (Zr (r2 [1] [ZM ys u] ⟨ys,rfl,rfl,⟨by omega,Zv⟩⟩ (Zd.forget _ _))))
theorem Z79 (vs:LI) (t:Int) (hv:vs.length<=2000:=by exact ob):Zl 295 [Z4 vs,.i t] [] (fun r h=>∃(xs:LI),r=Z4 xs/\h=[]/\xs.length<=vs.length/\∀i∈xs,0<=i/\i<vs.length):=by
 refine ZG 25 Tryz.func295 (ZE (ar (iL (Z6 []) 0 1 fun v1=>?_)))
 refine Z0 (Y9 (ab 0 (Y2 (fun fz gz m F h=>∃(k:Nat) (ys:LI) (u:Value),(k<=vs.length)/\(ys.length<=k)/\(∀i∈ys,0<=i/\i<vs.length)/\F=sF [0,1] fz [(5,ZM ys u),(6,.i k)]/\h=[.tail u 1]/\m=vs.length-k) _ _ _ ⟨0,[],v1,ob,ob,(fun i hi=>by cases hi),rfl,rfl,rfl⟩ (wk [0] (fr (Ya fl))) ?_)))
 rintro m F h ⟨k,ys,u,Yf,Zh,Zv,rfl,rfl,rfl⟩
 refine YF 2 (iw (Y8 vs) (Y1 ((k:Int)<(vs.length:Int)) (fun Za=>?_) (fun Za=>?_)))
 ·refine ak (aq (ab 1 (Y5 2 ?_)))
  obtain ⟨x1,Z3⟩:=Zs vs k om
  refine Zm (Zi none (k:Int) 1 (ZZ Z3)) (YD (x1==t) Zq (fun Ze=>?_) (fun Ze=>?_))
  ·exact az (Z1 2 (iL (Z6 [(k:Int)]) 1 1 fun v2=>ZT 0 [(22,Z4 [(k:Int)])] (ip 1 (Z6 (ys++[(k:Int)])) (Z6 ys) (Z6 [(k:Int)]) u none 1 (Yy _) (Yy _) (W5 _) (by simp<;>omega) (by simp [W4,Z6]) fun v3=>Z0 (az (Z1 1 (ZJ k (Z0 (ZL ⟨k+1,(ys++[(k:Int)]),v3,ob,ob,(XC Zv om),rfl,rfl,rfl⟩ (wk [0] (fr (ZO k fl)))))))))))
  exact ak (az (Z1 1 (ZJ k (Z0 (ZL ⟨k+1,ys,u,ob,ob,ob,rfl,rfl,rfl⟩ (wk [0] (fr (ZO k fl))))))))
 exact ax 0 (ar (Zr (r2 [] [ZM ys u] ⟨ys,rfl,rfl,⟨by omega,Zv⟩⟩ (Zd.forget _ _))))
theorem FE (g:Wa) (gb:Nat) (rs:List Func) (vs:LI) (t:Int) (hg:GP g:=by exact ob) (Wq:g.funcs <+: rs:=by exact ob) (hv:vs.length<=2000:=by exact ob):Zl 296 [.agg (Wu g gb),Z4 vs,.i t] [XN gb rs] (fun r h=>∃(w:Bool),r=.b w/\h=[XN gb rs]):=by
 have Xt:=hg.decls.ok
 refine ZG 24 Tryz.func296 (ar (iA (Wu g gb) fun b1=>Z0 (Zw 3 [0] (Zz [] (Ew g.decls t) (Z1 2 (ib (b:=(!XX g.decls t)) 12 (fun Zb=>?_) (fun Zb=>?_)))))))
 ·exact Zr (r1 [1] ⟨true,rfl,rfl⟩)
 refine ZP 2 [0] (ic [1] (O5 g gb rs t) ?_)
 rintro _ _ ⟨xs1,rfl,rfl,YE⟩
 have qhp3:=YE.1
 refine iw (Y8 xs1) (Z1 3 (ib (b:=(decide ((xs1.length:Int)>0))) 19 (fun ZA=>?_) (fun ZA=>?_)))
 ·exact Zr (r1 [0] ⟨true,rfl,rfl⟩)
 exact Z1 2 (Zz [] (UN vs t) (Zr (r1 [0] ⟨(decide (t∈vs)),rfl,rfl⟩)))
theorem Z70 (rd:Nat) (bs:LI) (p:Nat) (g:Wa) (gb:Nat) (rs:List Func) (t:Int) (ZH:∀z∈bs,0<=z/\z<=255) (hp:p+5+15*rk t<=1000000000) (hg:GP g) (Wq:g.funcs <+: rs) (ih:∀(rd:Nat) (bs:LI) (p:Nat) (t2:Int),(∀z∈bs,0<=z/\z<=255)->(p+5+15*rk t2<=1000000000)->(rk t2<rk t)->Zl 297 [.p rd 0,.agg (Wu g gb),.i t2] [Yw rd bs p,XN gb rs] (fun r h=>∃(e:Z2) (p2:Nat),r=Y4 e/\h=[Yw rd bs p2,XN gb rs]/\SE g (1+3*rk t2) e/\p<=p2/\p2<=p+5+15*rk t2)):Zl 297 [.p rd 0,.agg (Wu g gb),.i t] [Yw rd bs p,XN gb rs] (fun r h=>∃(e:Z2) (p2:Nat),r=Y4 e/\h=[Yw rd bs p2,XN gb rs]/\SE g (1+3*rk t) e/\p<=p2/\p2<=p+5+15*rk t):=by
 have Xt:=hg.decls.ok
 have hgl:=hg.len
 have hrk:=Lw t
 refine ZG 118 Tryz.func297 (ar (iA (Wu g gb) fun b1=>iA [.i 0,.i 0,nl] fun b2=>ie (Zw 3 [1] (ic [] (JV g.decls t) ?_))))
 rintro _ _ ⟨v1,rfl,rfl⟩
 refine Z0 (YF 1 (io (.i (((ZY g.decls t).length:Nat):Int)) (.i (((Z6 (ZY g.decls t)).length:Nat):Int)) (li (by rw [Y8])) (Y1 ((((ZY g.decls t).length:Nat):Int)>0) (fun Za=>?_) (fun Za=>?_))))
 ·refine Y5 1 ?_
  obtain ⟨x1,Z3⟩:=Zs (ZY g.decls t) 0 om
  refine Zm (Zi (some v1) 0 1 (ZZ Z3)) (Z0 (aq (aq (XP (fun fz gz F h=>∃(w1:Bool) (p5:Nat),(w1=true->1<(ZY g.decls t).length)/\(p<=p5/\p5<=p+1)/\F=sF [0,2,4,6,8] fz [(7,Z4 (ZY g.decls t)),(34,.b w1)]/\h=[Zc gz 1,Zc gz 2,Yw rd bs p5,Zc gz 4]) ?_ ?_))))
  ·refine az (Z1 1 (io (.i (((ZY g.decls t).length:Nat):Int)) (.i (((Z6 (ZY g.decls t)).length:Nat):Int)) (li (by rw [Y8])) (Z1 2 (ib (b:=(decide ((((ZY g.decls t).length:Nat):Int)>1))) 30 (fun Zb=>?_) (fun Zb=>?_)))))
   ·have ZW:(((ZY g.decls t).length:Nat):Int)>1:=(dq).1 Zb
    refine Z1 1 (ic [3] (W8 rd bs p 4 (ZH:=ob)) ?_)
    rintro _ _ ⟨k1,rfl,rfl,Yh⟩
    have qhp2:=Yh.lt om
    exact Z0 (ZQ ⟨(k1==0),p+1,(by first|exact (fun h=>by cases h)|exact fun _=>by omega),ob,rfl,rfl⟩ (wk [2,2,0,1] fl))
   have YE:¬((((ZY g.decls t).length:Nat):Int)>1):=Yd dq Zb
   exact Z0 (ZQ ⟨false,p,(by first|exact (fun h=>by cases h)|exact fun _=>by omega),ob,rfl,rfl⟩ (wk [1,1,1,1] fl))
  rintro F h ⟨w1,p5,kR4_0,kR4_1,rfl,rfl⟩
  refine XP (fun fz gz F h=>∃(c1:Int),(c1∈ZY g.decls t)/\F=sF [0,2,4,6,7] fz [(8,.i c1)]/\h=gz) ?_ ?_
  ·refine ac w1 Iff.rfl (fun Ze=>?_) (fun Ze=>?_)
   ·refine az (Z1 1 ?_)
    obtain ⟨x2,Zt⟩:=Zs (ZY g.decls t) 1 (kR4_0 (by assumption))
    exact Zm (Zi none 1 1 (ZZ Zt)) (Z0 (ZQ ⟨x2,(ZX Zt),rfl,rfl⟩ (ZF 4 fl)))
   exact ak (ZQ ⟨x1,(ZX Z3),rfl,rfl⟩ (ZF 4 fl))
  rintro F h ⟨c1,U2,rfl,rfl⟩
  have hcf:=VZ Xt c1
  refine Yi 3 [1] (Zz [] (Ks g.decls c1) (Z1 1 (Zz [] (UN (ZV g.decls c1) t) (ie (XP (fun fz gz F h=>∃(c2:Int),(AR g.decls t c2)/\F=sF [0,4,6] fz [(8,.i c2)]/\h=gz) ?_ ?_)))))
  ·refine XZ (t∈(ZV g.decls c1)) (fun ZC=>?_) (fun ZC=>?_)
   ·exact az (Z1 1 (Zm (Zi none 0 1 (ZZ Z3)) (Z0 (ZQ ⟨x1,(Zd3 hg.decls U2 (by assumption) Z3),rfl,rfl⟩ (ZF 4 fl)))))
   exact ak (ZQ ⟨c1,(Zd2 hg.decls U2 (by assumption)),rfl,rfl⟩ (ZF 4 fl))
  rintro F h ⟨c2,D5,rfl,rfl⟩
  obtain ⟨On,TK,Ar⟩:=D5
  refine ar (iL (Yu []) 0 3 fun v2=>?_)
  refine Z0 (Zw 3 [2] (Zz [] (Ks g.decls c2) (Z0 (Y9 (ab 0 (Y2 (fun fz gz m F h=>∃(k:Nat) (ys:List Z2) (u:Value) (pq:Nat),(k<=(ZV g.decls c2).length)/\(ys.length=k)/\(∀e∈ys,SE g 1 e)/\(p<=pq/\pq<=p+1+5*k)/\F=sF [0,4,6,8,10] fz [(9,Qt ys u),(11,.i k)]/\h=[Zc gz 1,Zc gz 2,Yw rd bs pq,Zc gz 4,.tail u 3]/\m=(ZV g.decls c2).length-k) _ _ _ ⟨0,[],v2,p5,ob,ob,(fun e he=>by cases he),ob,rfl,rfl,rfl⟩ (wk [1,1,1,1,0] (fr (Ya fl))) ?_))))))
  rintro m F h ⟨k,ys,u,pq,Yf,Zh,Zv,Ys,rfl,rfl,rfl⟩
  refine YF 2 (io (.i (((ZV g.decls c2).length:Nat):Int)) (.i (((Z6 (ZV g.decls c2)).length:Nat):Int)) (li (by rw [Y8])) (Y1 ((k:Int)<(((ZV g.decls c2).length:Nat):Int)) (fun Ye=>?_) (fun Ye=>?_)))
  ·refine ak (aq (ab 1 (aE 11 (ZK 6 11 [0,1,2,3,4] [1] ?_))))
   obtain ⟨x3,YO⟩:=Zs (ZV g.decls c2) k om
   have hz3:=Rk (Ar _ (ZX YO))
   refine dx 5 (Zi none (k:Int) 1 (ZZ YO)) (Zj 4 5 [6] (Z9 7 (dc 7 [2,2] [] [] (ih rd bs pq x3 ob ob om) ?_)))
   rintro _ _ ⟨e1,p21,rfl,rfl,YK⟩
   have hse:=YK.1
   rw [hz3] at hse
   exact Z9 8 (WE 8 [] [] [Y4 e1] (Yu [e1]) (XM [e1]).symm 1 3 fun v3=>Yt 2 2 [] [(66,XA [e1])] (Z9 9 (dp 9 5 [] [] (Yu (ys++[e1])) (Yu ys) (Yu [e1]) u none 3 (Te _) (Te _) (JM _) (by simp<;>omega) (by simp [JL,Yu]) fun v4=>Zj 0 1 [10] (de (az (Z1 1 (ZJ k (Z0 (ZL ⟨k+1,(ys++[e1]),v4,p21,ob,ob,(XC Zv hse),ob,rfl,rfl,rfl⟩ (wk [4,4,2,2,0] (fr (ZO k fl))))))))))))
  exact ax 0 (ar (ZT 2 [(69,XA ys)] (Zz [] (XR 6 c2 ys) (ZI 0 b2 (YX (Z2.mk 6 c2 ys)) (ie (ZD (r3 [2,2] [Y4 (Z2.mk 6 c2 ys)] [0] [(b2,b2)] ⟨(Z2.mk 6 c2 ys),pq,rfl,rfl,⟨SE.node (k:=3*rk t) (.inl rfl) om Zv om om om,by omega⟩⟩ (lr _))))))))
 refine ak (Zw 2 [2] (ic [4] (O5 g gb rs t) ?_))
 rintro _ _ ⟨xs1,rfl,rfl,X9⟩
 have hcl:=X9.2
 have hcn:=X9.1
 refine Z0 (X1 (Xp [0,4,6,12] [(80,.b ((decide (t>0))&&(decide ((xs1.length:Int)>0))))] (fun gz=>gz) ?_ ?_))
 ·refine Z1 3 (ib (b:=(decide (t>0))) 76 (fun ZA=>?_) (fun ZA=>?_))
  ·have XK:t>0:=(dq).1 ZA
   exact Z1 1 (iw (Y8 xs1) (Z0 (ZF 5 (Zu (decide ((xs1.length:Int)>0)) ZA fl))))
  have Wo:¬(t>0):=Yd dq ZA
  exact Z0 (ZF 5 (Zu false ZA fl))
 refine ac ((decide (t>0))&&(decide ((xs1.length:Int)>0))) (p:=(t>0)/\((xs1.length:Int)>0)) (YG dq dq) (fun Xg=>?_) (fun Xg=>?_)
 ·refine Y5 3 (iw (Y8 xs1) (ic [4] (W8 rd bs p (xs1.length:Int) (ZH:=ob)) ?_))
  rintro _ _ ⟨k2,rfl,rfl,WR⟩
  have qhp8:=WR.lt om
  obtain ⟨x4,Vs⟩:=Zs xs1 k2.toNat om
  have hclo:=hcl _ (ZX Vs)
  have hcb:=hclo.lt
  refine Zm (Zi none k2 1 (ZZ Vs)) (Z0 (Zw 3 [4] ?_))
  obtain ⟨x5,Uh⟩:=Zs g.funcs x4.toNat om
  have hso:=(hg.sigs _ (ZX Uh)).bd
  have hr1:=Zc4 (t:=t) hg.decls om om
  have hfu:=Uh
  refine Zm (Wp gb g.funcs.length 4 x4.toNat 5 x4) (Z1 1 (WS (Vm 1 gb 4 4 5 (x4.toNat * 5+0) (Zo (Xs rs)) [Z4 x5.params] 31 (Z4 x5.params) (UI Wq Uh 0 rfl (V8 rfl))) (Z0 (ar (iL (Yu []) 0 3 fun v5=>?_)))))
  refine Z0 (Y9 (ab 2 (Y2 (fun fz gz m F h=>∃(k:Nat) (ys:List Z2) (u:Value) (pq:Nat),(k<=x5.params.length)/\(ys.length=k)/\(∀e∈ys,SE g 1 e)/\(p<=pq/\pq<=p+1+5*k)/\F=sF [0,4,6,13,14] fz [(15,Qt ys u),(16,.i k)]/\h=[Yw rd bs pq,Zc gz 2,Zc gz 4,Zc gz 5,.tail u 3]/\m=x5.params.length-k) _ _ _ ⟨0,[],v5,p+1,ob,ob,(fun e he=>by cases he),ob,rfl,rfl,rfl⟩ (wk [1,1,2,2,0] (fr (Ya fl))) ?_)))
  rintro m F h ⟨k,ys,u,pq,Uo,W2,XT,Jf,rfl,rfl,rfl⟩
  refine YF 1 (ZJ k (Z1 1 (iw (Y8 x5.params) (Y1 (((k+1:Nat):Int)<(x5.params.length:Int)) (fun Xd=>?_) (fun Xd=>?_)))))
  ·refine ak (aq (ab 3 (aE 11 (ZK 6 11 [0,1,2,3,4] [3] ?_))))
   obtain ⟨x6,C3⟩:=Zs x5.params k om
   have hz3:=hclo.low hg om hfu om C3
   refine dx 5 (Zi none (k:Int) 1 (ZZ C3)) (Zj 4 5 [6] (Z9 7 (dc 7 [0,0] [] [] (ih rd bs pq x6 ob ob om) ?_)))
   rintro _ _ ⟨e2,p22,rfl,rfl,Vc⟩
   have hse:=Vc.1
   rw [hz3] at hse
   exact Z9 8 (WE 8 [] [] [Y4 e2] (Yu [e2]) (XM [e2]).symm 1 3 fun v6=>Yt 2 2 [] [(110,XA [e2])] (Z9 9 (dp 9 5 [] [] (Yu (ys++[e2])) (Yu ys) (Yu [e2]) u none 3 (Te _) (Te _) (JM _) (by simp<;>omega) (by simp [JL,Yu]) fun v7=>Zj 0 1 [10] (de (az (Z1 1 (ZJ k (Z0 (ZL ⟨k+1,(ys++[e2]),v7,p22,ob,ob,(XC XT hse),ob,rfl,rfl,rfl⟩ (wk [2,2,2,2,0] (fr (ZO k fl))))))))))))
  exact ax 2 (ar (ZT 2 [(113,XA ys)] (Zz [] (XR 10 x4 ys) (ZI 2 b2 (YX (Z2.mk 10 x4 ys)) (ie (ZD (r3 [1,1] [Y4 (Z2.mk 10 x4 ys)] [0] [(b2,b2)] ⟨(Z2.mk 10 x4 ys),pq,rfl,rfl,⟨SE.node (k:=3) (.inr rfl) om XT om om om,by omega⟩⟩ (lr _))))))))
 refine ak (Y5 1 (ic [4] (Og rd bs p (ZH:=ob)) ?_))
 rintro _ _ ⟨z1,rfl,rfl,Ut⟩
 exact Zz [] (Am z1) (ZI 3 b2 (YX (Z2.mk 0 z1 [])) (ie (ZD (r3 [1,1] [Y4 (Z2.mk 0 z1 [])] [0] [(b2,b2)] ⟨(Z2.mk 0 z1 []),p+4,rfl,rfl,⟨SE.int om om,by omega⟩⟩ (lr _)))))
theorem Z6z (rd:Nat) (bs:LI) (p:Nat) (g:Wa) (gb:Nat) (rs:List Func) (t:Int) (ZH:∀z∈bs,0<=z/\z<=255) (hp:p+5+15*rk t<=1000000000:=by exact ob) (hg:GP g:=by exact ob) (Wq:g.funcs <+: rs:=by exact ob):Zl 297 [.p rd 0,.agg (Wu g gb),.i t] [Yw rd bs p,XN gb rs] (fun r h=>∃(e:Z2) (p2:Nat),r=Y4 e/\h=[Yw rd bs p2,XN gb rs]/\SE g (1+3*rk t) e/\p<=p2/\p2<=p+5+15*rk t):=by
 have key:∀k:Nat,∀(rd:Nat) (bs:LI) (p:Nat) (t2:Int),(∀z∈bs,0<=z/\z<=255)->(p+5+15*rk t2<=1000000000)->(rk t2<k)->Zl 297 [.p rd 0,.agg (Wu g gb),.i t2] [Yw rd bs p,XN gb rs] (fun r h=>∃(e:Z2) (p2:Nat),r=Y4 e/\h=[Yw rd bs p2,XN gb rs]/\SE g (1+3*rk t2) e/\p<=p2/\p2<=p+5+15*rk t2):=by
  intro k
  induction k with
  | zero=>intro rd bs p t2 h1 h2 h3;omega
  | succ k ih=>intro rd bs p t2 h1 h2 h3;exact Z70 rd bs p g gb rs t2 h1 h2 hg Wq fun rd bs p t3 q1 q2 q3=>ih rd bs p t3 q1 q2 om
 exact key 2 rd bs p t ZH hp (by have:=Lw t;omega)
theorem CS (rd:Nat) (bs:LI) (p:Nat) (g:Wa) (gb:Nat) (rs:List Func) (vs:LI) (t:Int) (ZH:∀z∈bs,0<=z/\z<=255) (hp:p+30<=1000000000:=by exact ob) (hg:GP g:=by exact ob) (Wq:g.funcs <+: rs:=by exact ob) (hv:vs.length<=2000:=by exact ob):Zl 274 [.p rd 0,.agg (Wu g gb),Z4 vs,.i t] [Yw rd bs p,XN gb rs] (fun r h=>∃(e:Z2) (p2:Nat),r=Y4 e/\h=[Yw rd bs p2,XN gb rs]/\GE g vs.length 4 e/\p<=p2/\p2<=p+30):=by
 have hrk:=Lw t
 refine ZG 40 Tryz.func274 (ar (iA (Wu g gb) fun b1=>iA [.i 0,.i 0,nl] fun b2=>ie (Y5 2 (ic [] (Z79 vs t) ?_))))
 rintro _ _ ⟨xs1,rfl,rfl,ZW⟩
 have hxs:=ZW
 refine Z0 (aq (aq (XP (fun fz gz F h=>∃(wb:Bool) (p5:Nat),(wb=true->0<xs1.length)/\(p<=p5/\p5<=p+1)/\F=sF [0,3,5,8,9] fz [(27,.b wb)]/\h=[Zc gz 0,Zc gz 1,Yw rd bs p5,Zc gz 3]) ?_ ?_)))
 ·refine az (Z1 1 (iw (Y8 xs1) (Z1 2 (ib (b:=(decide ((xs1.length:Int)>0))) 16 (fun Zb=>?_) (fun Zb=>?_)))))
  ·have Yh:(xs1.length:Int)>0:=(dq).1 Zb
   refine Z1 1 (ic [2] (W8 rd bs p 6 (ZH:=ob)) ?_)
   rintro _ _ ⟨k1,rfl,rfl,YE⟩
   have qhp3:=YE.lt om
   refine Z1 2 (ib (b:=(decide (k1>0))) 20 (fun ZA=>?_) (fun ZA=>?_))
   ·have YK:k1>0:=(dq).1 ZA
    exact Z0 (ZQ ⟨true,p+1,(by first|exact (fun h=>Bool.noConfusion h)|exact fun _=>by omega),ob,rfl,rfl⟩ (wk [1,1,0,0] fl))
   have X9:¬(k1>0):=Yd dq ZA
   refine ZP 1 [2] (iL (Z6 []) 0 1 fun v1=>ZT 1 [(22,Z4 [])] (ic [4] (FE g gb rs [] t) ?_))
   rintro _ _ ⟨w1,rfl,rfl⟩
   exact Z0 (ZQ ⟨(!w1),p+1,(by first|exact (fun h=>Bool.noConfusion h)|exact fun _=>by omega),ob,rfl,rfl⟩ (wk [3,3,2,0] fl))
  have XK:¬((xs1.length:Int)>0):=Yd dq Zb
  exact Z0 (ZQ ⟨false,p,(by first|exact (fun h=>Bool.noConfusion h)|exact fun _=>by omega),ob,rfl,rfl⟩ (ZF 4 fl))
 rintro F h ⟨wb,p5,kR2_0,kR2_1,rfl,rfl⟩
 refine ac wb Iff.rfl (fun Za=>?_) (fun Za=>?_)
 ·have hk0:=kR2_0 Za
  refine Y5 3 (iw (Y8 xs1) (ic [2] (W8 rd bs p5 (xs1.length:Int) (ZH:=ob)) ?_))
  rintro _ _ ⟨k2,rfl,rfl,Wo⟩
  have qhp7:=Wo.lt om
  obtain ⟨x1,Z3⟩:=Zs xs1 k2.toNat om
  have hxv:=hxs.2 _ (ZX Z3)
  exact Zm (Zi none k2 1 (ZZ Z3)) (Z1 1 (Zz [] (Qa x1) (ZI 1 b2 (YX (Z2.mk 12 x1 [])) (ie (ZD (r3 [1,2] [Y4 (Z2.mk 12 x1 [])] [0] [(b2,b2)] ⟨(Z2.mk 12 x1 []),p5+1,rfl,rfl,⟨GE.var hxv om om,by omega⟩⟩ (lr _)))))))
 refine ak (Zw 3 [1] (ic [2,2] (Z6z rd bs p5 g gb rs t (ZH:=ob)) ?_))
 rintro _ _ ⟨e1,p21,rfl,rfl,WR⟩
 have hse:=WR.1
 exact ZI 2 b2 (YX e1) (ie (ZD (r3 [1,1] [Y4 e1] [0] [(b2,b2)] ⟨e1,p21,rfl,rfl,⟨hse.ge om,by omega⟩⟩ (lr _))))
theorem Z5f (rd:Nat) (bs:LI) (p:Nat) (g:Wa) (gb:Nat) (rs:List Func) (vs:LI) (ZH:∀z∈bs,0<=z/\z<=255) (hp:p+1<=1000000000:=by exact ob) (hg:GP g:=by exact ob) (Wq:g.funcs <+: rs:=by exact ob) (hv:vs.length<=2000:=by exact ob):Zl 289 [.p rd 0,.agg (Wu g gb),Z4 vs] [Yw rd bs p,XN gb rs] (fun r h=>∃(z:Int),r=.i z/\h=[.obj rd [U3 bs,.i (p+1:Nat)],XN gb rs]/\0<=z/\z<=4):=by
 have Xt:=hg.decls.ok
 have hgl:=hg.len
 have hdl:=hg.decls.len
 refine ZG 24 Tryz.func289 (ar (iA (Wu g gb) fun b1=>Z0 (Y5 1 (iL (Z6 [1,1,3,0,2,4,3]) 7 1 fun v1=>ZT 0 [(9,Z4 [1,1,3,0,2,4,3])] (ic [2] (VN rd bs p [1,1,3,0,2,4,3] (ZH:=ob)) ?_)))))
 rintro _ _ ⟨z1,rfl,rfl,ZW⟩
 have hz:=Bk (a:=0) (b:=4) ZW (by decide)
 refine Z0 (aq (aq (XP (fun fz gz F h=>∃(wb:Bool),(True)/\F=sF [7] fz [(22,.b wb)]/\h=[Zc gz 0,Zc gz 3]) ?_ ?_)))
 ·refine az (ZP 3 [2] (iw (Up g.decls) (Z1 2 (ib (b:=(decide (z1>(g.decls.length:Int)))) 16 (fun Zb=>?_) (fun Zb=>?_)))))
  ·exact Z0 (ZQ ⟨true,True.intro,rfl,rfl⟩ (wk [0,2] fl))
  refine ZP 3 [2] (ic [3] (FE g gb rs vs z1) ?_)
  rintro _ _ ⟨w1,rfl,rfl⟩
  exact Z0 (ZQ ⟨(!w1),True.intro,rfl,rfl⟩ (wk [1,0] fl))
 rintro F h ⟨wb,kR2_0,rfl,rfl⟩
 refine ac wb Iff.rfl (fun Za=>?_) (fun Za=>?_)
 ·exact ar (Zr (r1 [0,0] ⟨1,rfl,rfl,om⟩))
 exact ak (ar (Zr (r1 [0,0] ⟨z1,rfl,rfl,om⟩)))
theorem Z5j (g:Wa) (gb:Nat) (rs:List Func) (t:Int) (hg:GP g:=by exact ob) (Wq:g.funcs <+: rs:=by exact ob):Zl 292 [.agg (Wu g gb),.i t] [XN gb rs] (fun r h=>∃(xs:LI),r=Z4 xs/\h=[XN gb rs]/\xs.length<=4/\∀i∈xs,1<=i/\i<g.funcs.length):=by
 have Xt:=hg.decls.ok
 have hgl:=hg.len
 have hdl:=hg.decls.len
 refine ZG 57 Tryz.func292 (ar (iA (Wu g gb) fun b1=>Z0 (ar (iL (Z6 []) 0 1 fun v1=>?_))))
 refine Z0 (Y9 (ab 0 (Y2 (fun fz gz m F h=>∃(k:Nat) (ys:LI) (u:Value),(1<=k/\k<=g.funcs.length)/\(ys.length<=k)/\(∀i∈ys,1<=i/\i<g.funcs.length)/\F=sF [1,2] fz [(5,ZM ys u),(6,.i k)]/\h=[Zc gz 1,Zc gz 2,.tail u 1]/\m=g.funcs.length-k) _ _ _ ⟨1,[],v1,ob,ob,(fun i hi=>by cases hi),rfl,rfl,rfl⟩ (wk [1,1,0] (fr (fc (x:=.i 1) li fl))) ?_)))
 rintro m F h ⟨k,ys,u,Yf,Zh,Zv,rfl,rfl,rfl⟩
 refine Yi 3 [0] (io (.i g.funcs.length) (.i g.funcs.length) (lr _) (Y1 ((k:Int)<(g.funcs.length:Int)) (fun Za=>?_) (fun Za=>?_)))
 ·refine ak (aq (ab 1 (Zw 3 [0] ?_)))
  obtain ⟨x1,Z3⟩:=Zs g.funcs k om
  have hso:=(hg.sigs _ (ZX Z3)).bd
  refine Zm (Wp gb g.funcs.length 4 k 5 (k:Int)) (Z1 1 (WS (Vm 1 gb 4 4 5 (k*5+1) (Zo (Xs rs)) [.i x1.result] 3 (.i x1.result) (UI Wq Z3 1 rfl (V8 rfl))) (Z0 (Y9 (ab 2 (Y2 (fun fz gz m F h=>∃(j:Nat) (wo:Bool),(True)/\F=sF [1,2,5,6] fz [(7,.b wo),(8,.i j)]/\h=gz/\m=x1.params.length-j) _ _ _ ⟨0,(x1.result==t),True.intro,rfl,rfl,rfl⟩ (ZF 3 (fr (Ya fl))) ?_))))))
  rintro m F h ⟨j,wo,Uo,rfl,rfl,rfl⟩
  refine Yi 4 [0] (Zm (Wp gb g.funcs.length 4 k 5 (k:Int)) (Z1 1 (WS (Vm 1 gb 4 4 5 (k*5+0) (Zo (Xs rs)) [Z4 x1.params] 31 (Z4 x1.params) (UI Wq Z3 0 rfl (V8 rfl))) (iw (Y8 x1.params) (Y1 ((j:Int)<(x1.params.length:Int)) (fun Ze=>?_) (fun Ze=>?_))))))
  ·refine ak (aq (ab 3 (aE 16 (Zj 14 16 [0,1] (db (b:=wo) 37 (fun Zb=>?_) (fun Zb=>?_))))))
   ·refine ZK 10 14 [2,4,5,6] [0,0] (dx 7 (Wp gb g.funcs.length 4 k 5 (k:Int)) (Zj 8 9 [8] (Ua 9 (Vm 1 gb 4 4 5 (k*5+0) (Zo (Xs rs)) [Z4 x1.params] 31 (Z4 x1.params) (UI Wq Z3 0 rfl (V8 rfl))) (Zj 6 7 [10] ?_))))
    obtain ⟨x2,Zt⟩:=Zs x1.params j om
    refine dx 11 (Zi none (j:Int) 1 (ZZ Zt)) (Zj 4 5 [12] (Z9 3 (dL 3 [1,0,0] [gb,b1,b1] (Z6 []) 0 1 fun v2=>Yt 3 3 [] [(39,Z4 [])] (Z9 13 (dc 13 [2] [] [] (FE g gb rs [] x2) ?_)))))
    rintro _ _ ⟨w1,rfl,rfl⟩
    exact Zj 0 2 [14,15] (de (az (Z1 1 (ZJ j (Z0 (ZL ⟨j+1,w1,True.intro,rfl,rfl,rfl⟩ (wk [2,0,1] (fr (ZO j fl)))))))))
   exact Zj 0 14 [2,3,4,5,6,7,8,9,10,11,12,13,14,15] (de (az (Z1 1 (ZJ j (Z0 (ZL ⟨j+1,false,ob,rfl,rfl,rfl⟩ (ZF 3 (fr (ZO j fl)))))))))
  refine ax 2 (ar (YD wo Iff.rfl (fun ZC=>?_) (fun ZC=>?_)))
  ·exact az (Z1 2 (iL (Z6 [(k:Int)]) 1 1 fun v3=>ZT 0 [(54,Z4 [(k:Int)])] (ip 3 (Z6 (ys++[(k:Int)])) (Z6 ys) (Z6 [(k:Int)]) u none 1 (Yy _) (Yy _) (W5 _) (by simp<;>omega) (by simp [W4,Z6]) fun v4=>Z0 (az (Z1 1 (ZJ k (Z0 (ZL ⟨k+1,(ys++[(k:Int)]),v4,ob,ob,(XC Zv om),rfl,rfl,rfl⟩ (wk [2,2,0] (fr (ZO k fl)))))))))))
  exact ak (az (Z1 1 (ZJ k (Z0 (ZL ⟨k+1,ys,u,ob,ob,ob,rfl,rfl,rfl⟩ (ZF 3 (fr (ZO k fl))))))))
 exact ax 0 (ar (Zr (r2 [1] [ZM ys u] ⟨ys,rfl,rfl,⟨by omega,Zv⟩⟩ (Zd.forget _ _))))
theorem Z6o (e:Z2) (left:Int) (hz:e.sz<=1000000:=by exact ob) (hl:0<=left/\left<=1000:=by exact ob) (ih:∀(e2:Z2) (left:Int),(e2.sz<e.sz)->(0<=left/\left<=1000)->Zl 275 [Y4 e2,.i left] [] (fun r h=>∃(w:Int),r=.i w/\h=[]/\NL e2.sz left w)):Zl 275 [Y4 e,.i left] [] (fun r h=>∃(w:Int),r=.i w/\h=[]/\NL e.sz left w):=by
 have hes:=e.sz_eq
 have hel:=NK (xs:=e.kids)
 refine ZG 27 Tryz.func275 (ar (iA (YX e) fun b1=>Z0 (X1 (Y1 (left<1) (fun Za=>?_) (fun Za=>?_)))))
 ·exact ar (Zr (r1 [] ⟨(-1),rfl,rfl,(.inr ⟨by omega,rfl⟩)⟩))
 refine ak (Y5 1 (ia ((left-1)) ((left)-(1)) (Z0 (Y9 (ab 0 (Y2 (fun fz gz m F h=>∃(k:Nat) (q:Int),(k<=e.kids.length)/\(0<=q/\q+1+Xy (e.kids.take k)=left)/\F=sF [2] fz [(1,.i q),(5,.i k)]/\h=gz/\m=e.kids.length-k) _ _ _ ⟨0,(left-1),ob,(by simp [Xy];omega),rfl,rfl,rfl⟩ (wk [0] (fr (Ya fl))) ?_))))))
 rintro m F h ⟨k,q,Yf,Zh,rfl,rfl,rfl⟩
 refine Yi 3 [0] (iw (I2 e.kids) (Y1 ((k:Int)<(e.kids.length:Int)) (fun Ze=>?_) (fun Ze=>?_)))
 ·refine ak (aq (ab 1 (Zw 3 [0] ?_)))
  obtain ⟨x1,Z3⟩:=Zs e.kids k om
  have hks:=BX Z3
  have htk:Xy (e.kids.take (k+1))=Xy (e.kids.take k)+(x1).sz:=by rw [V7 Z3,DP,Xy,Xy];rfl
  have htl:Xy (e.kids.take (k+1))<=Xy e.kids:=by have h:=Yj Xy (UB (k+1) e.kids);rw [DP] at h;omega
  refine Zm (Zi none (k:Int) 3 (CJ Z3)) (Z1 2 (ic [] (ih x1 q ob ob) ?_))
  rintro _ _ ⟨w1,rfl,rfl,ZW⟩
  have hnl:=ZW
  unfold NL at hnl
  refine Z0 (ar (Y1 (w1<0) (fun ZC=>?_) (fun ZC=>?_)))
  ·exact ar (Zr (r1 [] ⟨(-1),rfl,rfl,(.inr ⟨by omega,rfl⟩)⟩))
  exact ak (az (Z1 1 (ZJ k (Z0 (ZL ⟨k+1,w1,ob,ob,rfl,rfl,rfl⟩ (wk [0] (fr (ZO k fl))))))))
 refine ax 0 (ZE ?_)
 have htk:Xy (e.kids.take k)=Xy e.kids:=by rw [Vi om]
 exact ZD (r1 [] ⟨q,rfl,rfl,(.inl ⟨by omega,by omega⟩)⟩)
theorem Z6n (e:Z2) (left:Int) (hz:e.sz<=1000000:=by exact ob) (hl:0<=left/\left<=1000:=by exact ob):Zl 275 [Y4 e,.i left] [] (fun r h=>∃(w:Int),r=.i w/\h=[]/\NL e.sz left w):=by
 have key:∀k:Nat,∀(e2:Z2) (left:Int),(e2.sz<k)->(e2.sz<=1000000)->(0<=left/\left<=1000)->Zl 275 [Y4 e2,.i left] [] (fun r h=>∃(w:Int),r=.i w/\h=[]/\NL e2.sz left w):=by
  intro k
  induction k with
  | zero=>intro e2 left h;omega
  | succ k ih=>intro e2 left h1 h2 h3;exact Z6o e2 left h2 h3 fun e3 l3 q1 q2=>ih e3 l3 om om q2
 exact key (e.sz+1) e left om hz hl
theorem Oe (e:Z2) (hz:e.sz<=1000000:=by exact ob):Zl 232 [Y4 e] [] (fun r h=>∃(w:Int),r=.i w/\h=[]/\((w=e.sz/\e.sz<=30)∨(w=-1/\30<e.sz))):=by
 refine ZG 10 Tryz.func232 (ar (iA (YX e) fun b1=>Z0 (Zw 1 [0] (ic [] (Z6n e 30) ?_))))
 rintro _ _ ⟨w1,rfl,rfl,ZW⟩
 have hnl:=ZW
 unfold NL at hnl
 refine Z0 (X1 (Y1 (w1<0) (fun Za=>?_) (fun Za=>?_)))
 ·exact ar (Zr (r1 [] ⟨(-1),rfl,rfl,ob⟩))
 exact ak (Y5 1 (ia ((30-w1)) ((30)-(w1)) (Zr (r1 [] ⟨(30-w1),rfl,rfl,ob⟩))))
theorem BZ (rd:Nat) (bs:LI) (p:Nat) (g:Wa) (gb:Nat) (rs:List Func) (vs:LI) (ts:LI) (b:Nat) (bb:Nat) (ZH:∀z∈bs,0<=z/\z<=255) (hp:p+ts.length*bC (b / ts.length)<=1000000000:=by exact ob) (hg:GP g:=by exact ob) (Wq:g.funcs <+: rs:=by exact ob) (hv:vs.length+3*bb<=900:=by exact ob) (ht:ts.length<=3:=by exact ob) (hb:b<bb/\bb<=1000:=by exact ob) (ih:∀(rd:Nat) (bs:LI) (p:Nat) (vs2:LI) (t2:Int) (b2:Nat),(∀z∈bs,0<=z/\z<=255)->(p+bC b2<=1000000000)->(vs2.length+3*b2<=900)->(b2<bb)->Zl 270 [.p rd 0,.agg (Wu g gb),Z4 vs2,.i t2,.i b2] [Yw rd bs p,XN gb rs] (fun r h=>∃(e:Z2) (p2:Nat),r=Y4 e/\h=[Yw rd bs p2,XN gb rs]/\GE g vs2.length (bS b2) e/\p<=p2/\p2<=p+bC b2)):Zl 290 [.p rd 0,.agg (Wu g gb),Z4 vs,Z4 ts,.i b] [Yw rd bs p,XN gb rs] (fun r h=>∃(ys:List Z2) (p2:Nat),r=XA ys/\h=[Yw rd bs p2,XN gb rs]/\ys.length=ts.length/\(∀e∈ys,GE g vs.length (bS (b / ts.length)) e)/\p<=p2/\p2<=p+ts.length*bC (b / ts.length)):=by
 have hqb:=Nat.div_le_self b ts.length
 refine ZG 36 Tryz.func290 (ar (iA (Wu g gb) fun b1=>Z0 (ar (iL (Yu []) 0 3 fun v1=>?_))))
 refine Z0 (Y9 (ab 0 (Y2 (fun fz gz m F h=>∃(k:Nat) (ys:List Z2) (u:Value) (pq:Nat),(k<=ts.length)/\(ys.length=k)/\(∀e∈ys,GE g vs.length (bS (b / ts.length)) e)/\(p<=pq/\pq<=p+k*bC (b / ts.length))/\F=sF [0,2,3,4,6] fz [(11,Qt ys u),(12,.i k)]/\h=[Zc gz 1,Yw rd bs pq,Zc gz 3,.tail u 3]/\m=ts.length-k) _ _ _ ⟨0,[],v1,p,ob,ob,(fun e he=>by cases he),(by simp),rfl,rfl,rfl⟩ (wk [1,1,1,0] (fr (Ya fl))) ?_)))
 rintro m F h ⟨k,ys,u,pq,Yf,Zh,Zv,Ys,rfl,rfl,rfl⟩
 refine YF 2 (iw (Y8 ts) (Y1 ((k:Int)<(ts.length:Int)) (fun Za=>?_) (fun Za=>?_)))
 ·obtain ⟨hm1,hm2⟩:=Pw (k:=k) (L:=ts.length) (C:=bC (b / ts.length)) om
  refine ak (aq (ab 1 (aE 16 (ZK 10 16 [0,1,2,3,4,5] [0] ?_))))
  obtain ⟨x1,Z3⟩:=Zs ts k om
  refine dx 6 (Zi none (k:Int) 1 (ZZ Z3)) (Zj 6 9 [7,8,9] (dw 10 (Y8 ts) (dx 11 (C6 b ts.length om om) (Z9 12 (dc 12 [1,1] [] [] (ih rd bs pq vs x1 (b / ts.length) ob ob ob ob) ?_)))))
  rintro _ _ ⟨e1,p21,rfl,rfl,ZW⟩
  have Xe:=ZW.1
  exact Z9 13 (WE 13 [] [] [Y4 e1] (Yu [e1]) (XM [e1]).symm 1 3 fun v2=>Yt 2 2 [] [(33,XA [e1])] (Z9 14 (dp 14 4 [] [] (Yu (ys++[e1])) (Yu ys) (Yu [e1]) u none 3 (Te _) (Te _) (JM _) (by simp<;>omega) (by simp [JL,Yu]) fun v3=>Zj 0 1 [15] (de (az (Z1 1 (ZJ k (Z0 (ZL ⟨k+1,(ys++[e1]),v3,p21,ob,ob,(XC Zv (by assumption)),om,rfl,rfl,rfl⟩ (wk [4,2,2,0] (fr (ZO k fl))))))))))))
 have hke:k=ts.length:=by omega
 subst hke
 exact ax 0 (ar (Zr (r2 [1,1] [Qt ys u] ⟨ys,pq,rfl,rfl,⟨by omega,Zv,by omega⟩⟩ (Zd.forget _ _))))
theorem Z61 (rd:Nat) (bs:LI) (p:Nat) (g:Wa) (gb:Nat) (rs:List Func) (vs:LI) (t:Int) (b:Nat) (ZH:∀z∈bs,0<=z/\z<=255) (hp:p+(bC b-1)<=1000000000:=by exact ob) (hg:GP g:=by exact ob) (Wq:g.funcs <+: rs:=by exact ob) (hv:vs.length+3*b<=900:=by exact ob) (hb:3<=b:=by exact ob) (ih:∀(rd:Nat) (bs:LI) (p:Nat) (vs2:LI) (t2:Int) (b2:Nat),(∀z∈bs,0<=z/\z<=255)->(p+bC b2<=1000000000)->(vs2.length+3*b2<=900)->(b2<b)->Zl 270 [.p rd 0,.agg (Wu g gb),Z4 vs2,.i t2,.i b2] [Yw rd bs p,XN gb rs] (fun r h=>∃(e:Z2) (p2:Nat),r=Y4 e/\h=[Yw rd bs p2,XN gb rs]/\GE g vs2.length (bS b2) e/\p<=p2/\p2<=p+bC b2)):Zl 291 [.p rd 0,.agg (Wu g gb),Z4 vs,.i t,.i b] [Yw rd bs p,XN gb rs] (fun r h=>∃(e:Z2) (p2:Nat),r=Y4 e/\h=[Yw rd bs p2,XN gb rs]/\GE g vs.length (bS b) e/\p<=p2/\p2<=p+(bC b-1)):=by
 have Xt:=hg.decls.ok
 have hgl:=hg.len
 have hdl:=hg.decls.len
 have hcm:=MX b
 refine ZG 69 Tryz.func291 (ar (iA (Wu g gb) fun b1=>iA [.i 0,.i 0,nl] fun b2=>ie (Y5 1 (iL (Z6 [1,1,3,4]) 4 1 fun v1=>ZT 0 [(16,Z4 [1,1,3,4])] (ic [3] (VN rd bs p [1,1,3,4] (ZH:=ob)) ?_)))))
 rintro _ _ ⟨z1,rfl,rfl,ZW⟩
 have hz:=Bk (a:=1) (b:=4) ZW (by decide)
 refine Z0 (Yi 3 [3] (iw (Up g.decls) (Xp [0,2,3,4,6,10,11] [(28,.b ((decide (z1>(g.decls.length:Int)))||XX g.decls z1))] (fun gz=>gz) ?_ ?_)))
 ·refine Z1 2 (ib (b:=(decide (z1>(g.decls.length:Int)))) 23 (fun Zb=>?_) (fun Zb=>?_))
  ·exact Z0 (ZF 5 (Zu true Zb fl))
  exact ZP 3 [3] (Zz [] (Ew g.decls z1) (Z0 (ZF 5 (Zu (XX g.decls z1) Zb fl))))
 refine XP (fun fz gz F h=>∃(d:Int),(1<=d/\d<=4)/\F=sF [0,2,3,4,6,10] fz [(11,.i d)]/\h=[Zc gz 0,Zc gz 2,Zc gz 3,Zc gz 4]) ?_ ?_
 ·refine ac ((decide (z1>(g.decls.length:Int)))||XX g.decls z1) (p:=(z1>(g.decls.length:Int))∨(XX g.decls z1=true)) (Yl dq Iff.rfl) (fun Za=>?_) (fun Za=>?_)
  ·exact UZ (ZQ ⟨1,om,rfl,rfl⟩ (wk [0,1,1,1] fl))
  exact ak (ZQ ⟨z1,om,rfl,rfl⟩ (wk [0,1,1,1] fl))
 rintro F h ⟨d,KU,rfl,rfl⟩
 have hcl:=Lb Xt d
 have hmc:=Zae (L:=(ZY g.decls d).length) (q:=((b-2) / (ZY g.decls d).length)) (b:=b) om hb (Q7 _ _)
 have hqb:=Nat.div_le_self (b-2) (ZY g.decls d).length
 refine Zw 3 [2] (ic [] (JV g.decls d) ?_)
 rintro _ _ ⟨v2,rfl,rfl⟩
 refine Z0 (Zw 4 [3] (ic [1,3] (CS rd bs (p+1) g gb rs vs d (ZH:=ob)) ?_))
 rintro _ _ ⟨e1,p21,rfl,rfl,YK⟩
 have hle:=YK.1
 refine UJ [Y4 e1] (Yu [e1]) (XM [e1]).symm 1 3 fun v3=>?_
 refine Z0 (Y9 (ab 0 (Y2 (fun fz gz m F h=>∃(k:Nat) (ys:List Z2) (u:Value) (pq:Nat),(k<=(ZY g.decls d).length)/\(ys.length=k)/\(QN g.decls g.funcs.length (TZ g.decls 8 d vs.length) 1 ys)/\(∀e∈ys,e.sz<=bS ((b-2) / (ZY g.decls d).length))/\(p<=pq/\pq<=p+31+k*bC ((b-2) / (ZY g.decls d).length))/\F=sF [0,2,3,4,6,10,11] fz [(12,Z4 (ZY g.decls d)),(13,Qt (e1::ys) u),(14,.i k)]/\h=[Yw rd bs pq,Zc gz 2,Zc gz 4,Zc gz 5,.tail u 3]/\m=(ZY g.decls d).length-k) _ _ _ ⟨0,[],v3,p21,ob,rfl,True.intro,(fun e he=>by cases he),(by simp only [Nat.zero_mul];omega),rfl,rfl,rfl⟩ (wk [1,1,2,2,0] (fc (x:=ZM (ZY g.decls d) v2) (Zd.forget _ _) (fc (x:=Qt [e1] v3) (Zd.slh _ (Yj Yu rfl)) (Ya fl)))) ?_)))
 rintro m F h ⟨k,ys,u,pq,Yf,Zh,Zv,Ys,XS,rfl,rfl,rfl⟩
 refine YF 2 (io (.i (((ZY g.decls d).length:Nat):Int)) (.i (((Z6 (ZY g.decls d)).length:Nat):Int)) (li (by rw [Y8])) (Y1 ((k:Int)<(((ZY g.decls d).length:Nat):Int)) (fun Ze=>?_) (fun Ze=>?_)))
 ·refine ak (aq (ab 1 (aE 22 (ZK 14 22 [0,1,2,3,4,5,6,7] [3,3] ?_))))
  obtain ⟨x1,Z3⟩:=Zs (ZY g.decls d) k om
  have hcf:=VZ Xt x1
  have harm:=Dk (m:=vs.length) Z3
  obtain ⟨hm1,hm2⟩:=Pw (k:=k) (L:=(ZY g.decls d).length) (C:=bC ((b-2) / (ZY g.decls d).length)) om
  refine dx 8 (Zi none (k:Int) 1 (ZZ Z3)) (Zj 10 13 [9,12,13] (da 14 (((b-2:Nat):Int)) (((b:Int))-(2)) (Zj 8 9 [15] (dn 16 (.i (((ZY g.decls d).length:Nat):Int)) (.i (((Z6 (ZY g.decls d)).length:Nat):Int)) (li (by rw [Y8])) (dx 17 (C6 (b-2) ((ZY g.decls d).length) om om) (Z9 10 (Yp 10 [] [3] [b1] (Ks g.decls x1) (Z9 11 (dc 11 [] [3] [b1] (K4 vs (ZV g.decls x1)) ?_)))))))))
  rintro _ _ ⟨v4,rfl,rfl⟩
  refine Yt 4 4 [] [(56,Z4 (vs++(ZV g.decls x1)))] (Z9 18 (dc 18 [1,1] [] [] (ih rd bs pq (vs++(ZV g.decls x1)) t ((b-2) / ((ZY g.decls d).length)) ob ob (by simp only [Yq];omega) ob) ?_))
  rintro _ _ ⟨e2,p22,rfl,rfl,X9⟩
  have Xe:=X9.1
  exact Z9 19 (WE 19 [] [] [Y4 e2] (Yu [e2]) (XM [e2]).symm 1 3 fun v5=>Yt 2 2 [] [(64,XA [e2])] (Z9 20 (dp 20 6 [] [] (Yu ((e1::ys)++[e2])) (Yu (e1::ys)) (Yu [e2]) u none 3 (Te _) (Te _) (JM _) (by simp<;>omega) (by simp [JL,Yu]) fun v6=>Zj 0 1 [21] (de (az (Z1 1 (ZJ k (Z0 (ZL ⟨k+1,(ys++[e2]),v6,p22,ob,ob,(NF.2 ⟨Zv,by rw [Zh,harm,<-Yq];exact Xe.1,True.intro⟩),(XC Ys Xe.2),om,rfl,rfl,rfl⟩ (wk [2,2,3,3,0] (fr (fc (x:=Qt ((e1::ys)++[e2]) v6) (Zd.slh _ (Yj Yu rfl)) (ZO k fl)))))))))))))
 refine ax 0 (ar (ZT 2 [(67,XA (e1::ys))] (Zz [] (XR 8 d (e1::ys)) (ZI 2 b2 (YX (Z2.mk 8 d (e1::ys))) (ie ?_)))))
 have hke:k=(ZY g.decls d).length:=by omega
 subst hke
 exact ZD (r3 [1,1] [Y4 (Z2.mk 8 d (e1::ys))] [0] [(b2,b2)] ⟨(Z2.mk 8 d (e1::ys)),pq,rfl,rfl,⟨GE.match_ om hle Zv Ys Zh rfl om (Zaf om hb (Q7 _ _)),by omega⟩⟩ (lr _))
theorem O8 (rd:Nat) (bs:LI) (p:Nat) (g:Wa) (gb:Nat) (rs:List Func) (vs:LI) (t:Int) (b:Nat) (ZH:∀z∈bs,0<=z/\z<=255) (hp:p+(bC b-1)<=1000000000:=by exact ob) (hg:GP g:=by exact ob) (Wq:g.funcs <+: rs:=by exact ob) (hv:vs.length+3*b<=900:=by exact ob) (hb:3<=b:=by exact ob) (ih:∀(rd:Nat) (bs:LI) (p:Nat) (vs2:LI) (t2:Int) (b2:Nat),(∀z∈bs,0<=z/\z<=255)->(p+bC b2<=1000000000)->(vs2.length+3*b2<=900)->(b2<b)->Zl 270 [.p rd 0,.agg (Wu g gb),Z4 vs2,.i t2,.i b2] [Yw rd bs p,XN gb rs] (fun r h=>∃(e:Z2) (p2:Nat),r=Y4 e/\h=[Yw rd bs p2,XN gb rs]/\GE g vs2.length (bS b2) e/\p<=p2/\p2<=p+bC b2)):Zl 293 [.p rd 0,.agg (Wu g gb),Z4 vs,.i t,.i b] [Yw rd bs p,XN gb rs] (fun r h=>∃(e:Z2) (p2:Nat),r=Y4 e/\h=[Yw rd bs p2,XN gb rs]/\GE g vs.length (bS b) e/\p<=p2/\p2<=p+(bC b-1)):=by
 have Xt:=hg.decls.ok
 have hgl:=hg.len
 have hdl:=hg.decls.len
 have hac:=Z11 hb
 have has:=Z12 hb
 refine ZG 120 Tryz.func293 (ar (iA (Wu g gb) fun b1=>iA [.i 0,.i 0,nl] fun b2=>ie (YF 1 (ic [2] (W8 rd bs p 4 (ZH:=ob)) ?_))))
 rintro _ _ ⟨k1,rfl,rfl,ZW⟩
 have qhp1:=ZW.lt om
 refine Z0 (XP (fun fz gz F h=>∃(p5:Nat),(p<=p5/\p5<=p+1)/\F=sF [0,2,3,4,6,10] fz []/\h=[Yw rd bs p5,Zc gz 1,Zc gz 2,Zc gz 3]) ?_ ?_)
 ·refine ac (k1==0) Zq (fun Za=>?_) (fun Za=>?_)
  ·refine ZE (ab 0 (Y2 (fun fz gz m F h=>∃(a:Nat),(1<=a/\a<=g.decls.length+1)/\F=sF [0,2,3,4,6,10] fz [(11,.i a)]/\h=gz/\m=g.decls.length+1-a) _ _ _ ⟨1,ob,rfl,rfl,rfl⟩ (ZF 4 (fc (x:=.i 1) li fl)) ?_))
   rintro m F h ⟨a,Yf,rfl,rfl,rfl⟩
   refine Yi 3 [2] (iw (Up g.decls) (Y1 ((a:Int)<=(g.decls.length:Int)) (fun Ze=>?_) (fun Ze=>?_)))
   ·refine ak (aq (ab 1 (aq (XP (fun fz gz F h=>∃(wb:Bool),(True)/\F=sF [0,2,3,4,6,10,11] fz [(44,.b wb)]/\h=gz) ?_ ?_))))
    ·refine az (ZP 3 [2] (Zz [] (Ew g.decls (a:Int)) (Z1 1 (ib (b:=XX g.decls (a:Int)) 28 (fun Zb=>?_) (fun Zb=>?_)))))
     ·refine ZP 3 [2] (ia (((a-1:Nat):Int)) (((a:Int))-(1)) ?_)
      obtain ⟨x1,Z3⟩:=Zs g.decls (a-1) om
      refine Zm (Zi none ((a-1:Nat):Int) 3 (VM Z3)) (Z1 6 (ib (b:=(x1.to_==t)) 39 (fun ZA=>?_) (fun ZA=>?_)))
      ·refine ZP 3 [2] (ic [3] (FE g gb rs vs (a:Int)) ?_)
       rintro _ _ ⟨w1,rfl,rfl⟩
       exact Z0 (ZQ ⟨w1,True.intro,rfl,rfl⟩ (wk [1,1,1,0] fl))
      exact Z0 (ZQ ⟨false,True.intro,rfl,rfl⟩ (ZF 4 fl))
     exact Z0 (ZQ ⟨false,True.intro,rfl,rfl⟩ (ZF 4 fl))
    rintro F h ⟨wb,kR5_0,rfl,rfl⟩
    refine ac wb Iff.rfl (fun ZC=>?_) (fun ZC=>?_)
    ·refine aD 21 (ZK 11 21 [0,1,2,3,5,6,7,8,9,10] [2,2,2] (da 11 (((a-1:Nat):Int)) (((a:Int))-(1)) ?_))
     obtain ⟨x2,Zt⟩:=Zs g.decls (a-1) om
     refine dx 12 (Zi none ((a-1:Nat):Int) 3 (VM Zt)) (Zj 6 9 [13,14,15] (da 16 (((b-2:Nat):Int)) (((b:Int))-(2)) (Z9 4 (dc 4 [0,2] [1,1] [b1,b1] (CS rd bs (p+1) g gb rs vs (a:Int) (ZH:=ob)) ?_))))
     rintro _ _ ⟨e1,p21,rfl,rfl,XK⟩
     have hle:=XK.1
     refine Z9 17 (dc 17 [0,0] [] [] (ih rd bs p21 vs x2.frm (b-2) ob ob ob ob) ?_)
     rintro _ _ ⟨e2,p22,rfl,rfl,Wo⟩
     have Xe:=Wo.1
     exact Z9 18 (WE 18 [] [] [Y4 e1,Y4 e2] (Yu [e1,e2]) (XM [e1,e2]).symm 2 3 fun v1=>Yt 2 2 [] [(63,XA [e1,e2])] (Z9 19 (Yp 19 [] [] [] (XR 11 0 [e1,e2]) (Z9 20 (YJ 20 3 [] [] b2 (YX (Z2.mk 11 0 [e1,e2])) (de (ZD (r3 [2,2] [Y4 (Z2.mk 11 0 [e1,e2])] [0] [(b2,b2)] ⟨(Z2.mk 11 0 [e1,e2]),p22,rfl,rfl,⟨GE.two om om hle Xe om,by omega⟩⟩ (lr _)))))))))
    exact ak (az (Z1 1 (ZJ a (Z0 (ZL ⟨a+1,ob,rfl,rfl,rfl⟩ (ZF 4 (ZO a fl)))))))
   exact ax 0 (ZQ ⟨p+1,ob,rfl,rfl⟩ (ZF 4 fl))
  exact ak (ZQ ⟨p+1,ob,rfl,rfl⟩ (ZF 4 fl))
 rintro F h ⟨p5,KU,rfl,rfl⟩
 refine Zw 3 [2] (ic [] (JV g.decls t) ?_)
 rintro _ _ ⟨v2,rfl,rfl⟩
 refine Z0 (YF 1 (io (.i (((ZY g.decls t).length:Nat):Int)) (.i (((Z6 (ZY g.decls t)).length:Nat):Int)) (li (by rw [Y8])) (Y1 ((((ZY g.decls t).length:Nat):Int)>0) (fun Ye=>?_) (fun Ye=>?_))))
 ·refine Y5 3 (io (.i (((ZY g.decls t).length:Nat):Int)) (.i (((Z6 (ZY g.decls t)).length:Nat):Int)) (li (by rw [Y8])) (ic [1] (W8 rd bs p5 (((ZY g.decls t).length:Nat):Int) (ZH:=ob)) ?_))
  rintro _ _ ⟨k2,rfl,rfl,WR⟩
  have qhp8:=WR.lt om
  obtain ⟨x3,YO⟩:=Zs (ZY g.decls t) k2.toNat om
  have hcc:=hg.decls.cons_cases (ZX YO)
  refine Zm (Zi (some v2) k2 1 (ZZ YO)) (Z0 (aD 13 (ZK 5 13 [0,1,2,3,4,5,6,8] [3,3] (da 9 (((b-1:Nat):Int)) (((b:Int))-(1)) (Z9 7 (Yp 7 [] [2] [b1] (Ks g.decls x3) (Z9 10 (dc 10 [0,3] [] [] (BZ rd bs (p5+1) g gb rs vs (ZV g.decls x3) (b-1) b (ZH:=ob) (hp:=(C8 (p:=p) (by first|omega|simp) hb om om)) (ht:=(by first|omega|simp)) (hb:=om) (ih:=ih)) ?_))))))))
  rintro _ _ ⟨ys1,p23,rfl,rfl,Vc⟩
  have hga1:=Vc.1
  have hga2:=Vc.2.1
  have hga3:=Vc.2.2
  have hnc:=Ax (b:=b) (show (ys1).length<=3 by rw [hga1];first|omega|simp) hb (Q7 _ (b-1))
  rw [hga1] at hnc
  exact Z9 11 (Yp 11 [] [] [] (XR 6 x3 ys1) (Z9 12 (YJ 12 3 [] [] b2 (YX (Z2.mk 6 x3 ys1)) (de (ZD (r3 [1,1] [Y4 (Z2.mk 6 x3 ys1)] [0] [(b2,b2)] ⟨(Z2.mk 6 x3 ys1),p23,rfl,rfl,⟨GE.node om (fun h=>by omega) om hga2 hga1 (by first|omega|simp) (Ed (by first|omega|simp) hb (Q7 _ _)),by omega⟩⟩ (lr _)))))))
 refine ak (X1 (Y1 (t>0) (fun Xg=>?_) (fun Xg=>?_)))
 ·refine Zw 4 [3] (ic [1,3] (CS rd bs p5 g gb rs vs t (ZH:=ob)) ?_)
  rintro _ _ ⟨e3,p24,rfl,rfl,Ut⟩
  have hle:=Ut.1
  exact ZI 3 b2 (YX e3) (ie (ZD (r3 [1,1] [Y4 e3] [0] [(b2,b2)] ⟨e3,p24,rfl,rfl,⟨hle.le (MY b),by omega⟩⟩ (lr _))))
 refine ak (YF 1 (ic [1] (W8 rd bs p5 3 (ZH:=ob)) ?_))
 rintro _ _ ⟨k3,rfl,rfl,T0⟩
 have qhp11:=T0.lt om
 refine YD (k3==0) Zq (fun Xd=>?_) (fun Xd=>?_)
 ·refine Zw 3 [3] (iL (Z6 [0]) 1 1 fun v3=>Z1 1 (ia (((b-1:Nat):Int)) (((b:Int))-(1)) (ZT 0 [(104,Z4 [0])] (ic [1,4] (BZ rd bs (p5+1) g gb rs vs [0] (b-1) b (ZH:=ob) (hp:=(C8 (p:=p) (by first|omega|simp) hb om om)) (ht:=(by first|omega|simp)) (hb:=om) (ih:=ih)) ?_))))
  rintro _ _ ⟨ys2,p25,rfl,rfl,T1⟩
  have hga1:=T1.1
  have hga2:=T1.2.1
  have hga3:=T1.2.2
  have hnc:=Ax (b:=b) (show (ys2).length<=3 by rw [hga1];first|omega|simp) hb (Q7 _ (b-1))
  rw [hga1] at hnc
  exact Zz [] (XR 5 0 ys2) (ZI 4 b2 (YX (Z2.mk 5 0 ys2)) (ie (ZD (r3 [1,1] [Y4 (Z2.mk 5 0 ys2)] [0] [(b2,b2)] ⟨(Z2.mk 5 0 ys2),p25,rfl,rfl,⟨GE.node om (fun h=>by omega) om hga2 hga1 (by first|omega|simp) (Ed (by first|omega|simp) hb (Q7 _ _)),by omega⟩⟩ (lr _)))))
 refine ak (aD 12 (ZK 7 12 [0,3,4,5,7] [3] (da 8 (((b-1:Nat):Int)) (((b:Int))-(1)) (KJ (fun fz gz F h=>∃(z1:Int) (ys3:List Z2) (p26:Nat),(z1∈[1,2,3,4])/\(ys3.length=[0,0].length/\(∀e∈ys3,GE g vs.length (bS ((b-1) / [0,0].length)) e)/\((p5+1)+1)<=p26/\p26<=((p5+1)+1)+[0,0].length*bC ((b-1) / [0,0].length))/\F=sF [10] fz []/\h=[.obj b2 (YX (Z2.mk z1 0 ys3)),Yw rd bs p26,Zc gz 4,Zc gz 1,Zc gz 3]) ?_ ?_))))
 ·refine VC 1 6 ?_ ?_
  ·refine dL 1 [2] [b1] (Z6 [1,2,3,4]) 4 1 fun v4=>Yt 5 5 [] [(110,Z4 [1,2,3,4])] (VC 2 6 ?_ ?_)
   ·refine dc 2 [1] [1] [b1] (VN rd bs (p5+1) [1,2,3,4] (ZH:=ob)) ?_
    rintro _ _ ⟨z1,rfl,rfl,Qp⟩
    have hz:=Bk (a:=1) (b:=4) Qp (by decide)
    refine Z9 6 (dL 6 [2] [b1] (Z6 [0,0]) 2 1 fun v5=>Yt 3 3 [] [(115,Z4 [0,0])] (Z9 9 (dc 9 [1,5] [] [] (BZ rd bs ((p5+1)+1) g gb rs vs [0,0] (b-1) b (ZH:=ob) (hp:=(C8 (p:=p) (by first|omega|simp) hb om om)) (ht:=(by first|omega|simp)) (hb:=om) (ih:=ih)) ?_)))
    rintro _ _ ⟨ys3,p26,rfl,rfl,Qb⟩
    have hga1:=Qb.1
    have hga2:=Qb.2.1
    have hga3:=Qb.2.2
    have hnc:=Ax (b:=b) (show (ys3).length<=3 by rw [hga1];first|omega|simp) hb (Q7 _ (b-1))
    rw [hga1] at hnc
    exact Z9 10 (Yp 10 [] [] [] (XR z1 0 ys3) (Z9 11 (YJ 11 5 [] [] b2 (YX (Z2.mk z1 0 ys3)) (de (ZQ ⟨z1,ys3,p26,(by assumption),(by assumption),rfl,rfl⟩ (wk [0,0,0,2,2] fl))))))
   refine dL 6 [2] [b1] (Z6 [0,0]) 2 1 fun v6=>Z9 2 (dc 2 [2] [1] [b1] (VN rd bs (p5+1) [1,2,3,4] (ZH:=ob)) ?_)
   rintro _ _ ⟨z2,rfl,rfl,KS⟩
   have hz:=Bk (a:=1) (b:=4) KS (by decide)
   refine Yt 3 3 [] [(115,Z4 [0,0])] (Z9 9 (dc 9 [0,5] [] [] (BZ rd bs ((p5+1)+1) g gb rs vs [0,0] (b-1) b (ZH:=ob) (hp:=(C8 (p:=p) (by first|omega|simp) hb om om)) (ht:=(by first|omega|simp)) (hb:=om) (ih:=ih)) ?_))
   rintro _ _ ⟨ys4,p27,rfl,rfl,Kl⟩
   have hga1:=Kl.1
   have hga2:=Kl.2.1
   have hga3:=Kl.2.2
   have hnc:=Ax (b:=b) (show (ys4).length<=3 by rw [hga1];first|omega|simp) hb (Q7 _ (b-1))
   rw [hga1] at hnc
   exact Z9 10 (Yp 10 [] [] [] (XR z2 0 ys4) (Z9 11 (YJ 11 5 [] [] b2 (YX (Z2.mk z2 0 ys4)) (de (ZQ ⟨z2,ys4,p27,(by assumption),(by assumption),rfl,rfl⟩ (wk [0,0,0,2,2] fl))))))
  refine dL 6 [2] [b1] (Z6 [0,0]) 2 1 fun v7=>Z9 1 (dL 1 [2] [b1] (Z6 [1,2,3,4]) 4 1 fun v8=>Yt 4 4 [] [(110,Z4 [1,2,3,4])] (Z9 2 (dc 2 [2] [1] [b1] (VN rd bs (p5+1) [1,2,3,4] (ZH:=ob)) ?_)))
  rintro _ _ ⟨z3,rfl,rfl,Bb⟩
  have hz:=Bk (a:=1) (b:=4) Bb (by decide)
  refine Yt 3 3 [] [(115,Z4 [0,0])] (Z9 9 (dc 9 [0,5] [] [] (BZ rd bs ((p5+1)+1) g gb rs vs [0,0] (b-1) b (ZH:=ob) (hp:=(C8 (p:=p) (by first|omega|simp) hb om om)) (ht:=(by first|omega|simp)) (hb:=om) (ih:=ih)) ?_))
  rintro _ _ ⟨ys5,p28,rfl,rfl,Jr⟩
  have hga1:=Jr.1
  have hga2:=Jr.2.1
  have hga3:=Jr.2.2
  have hnc:=Ax (b:=b) (show (ys5).length<=3 by rw [hga1];first|omega|simp) hb (Q7 _ (b-1))
  rw [hga1] at hnc
  exact Z9 10 (Yp 10 [] [] [] (XR z3 0 ys5) (Z9 11 (YJ 11 5 [] [] b2 (YX (Z2.mk z3 0 ys5)) (de (ZQ ⟨z3,ys5,p28,(by assumption),(by assumption),rfl,rfl⟩ (wk [0,0,0,2,2] fl))))))
 rintro F h ⟨z1,ys3,p26,Qp,Qb,rfl,rfl⟩
 have hz:=Bk (a:=1) (b:=4) Qp (by decide)
 have hga1:=Qb.1
 have hga2:=Qb.2.1
 have hga3:=Qb.2.2
 have hnc:=Ax (b:=b) (show (ys3).length<=3 by rw [hga1];first|omega|simp) hb (Q7 _ (b-1))
 rw [hga1] at hnc
 exact ZD (r3 [1,1] [Y4 (Z2.mk z1 0 ys3)] [0] [(b2,b2)] ⟨(Z2.mk z1 0 ys3),p26,rfl,rfl,⟨GE.node om (fun h=>by omega) om hga2 hga1 (by first|omega|simp) (Ed (by first|omega|simp) hb (Q7 _ _)),by omega⟩⟩ (lr _))
theorem Z62 (rd:Nat) (bs:LI) (p:Nat) (g:Wa) (gb:Nat) (rs:List Func) (vs:LI) (t:Int) (b:Nat) (ZH:∀z∈bs,0<=z/\z<=255) (hp:p+bC b<=1000000000) (hg:GP g) (Wq:g.funcs <+: rs) (hv:vs.length+3*b<=900) (ih:∀(rd:Nat) (bs:LI) (p:Nat) (vs2:LI) (t2:Int) (b2:Nat),(∀z∈bs,0<=z/\z<=255)->(p+bC b2<=1000000000)->(vs2.length+3*b2<=900)->(b2<b)->Zl 270 [.p rd 0,.agg (Wu g gb),Z4 vs2,.i t2,.i b2] [Yw rd bs p,XN gb rs] (fun r h=>∃(e:Z2) (p2:Nat),r=Y4 e/\h=[Yw rd bs p2,XN gb rs]/\GE g vs2.length (bS b2) e/\p<=p2/\p2<=p+bC b2)):Zl 270 [.p rd 0,.agg (Wu g gb),Z4 vs,.i t,.i b] [Yw rd bs p,XN gb rs] (fun r h=>∃(e:Z2) (p2:Nat),r=Y4 e/\h=[Yw rd bs p2,XN gb rs]/\GE g vs.length (bS b) e/\p<=p2/\p2<=p+bC b):=by
 have Xt:=hg.decls.ok
 have hgl:=hg.len
 have hdl:=hg.decls.len
 have hbm:=MY b
 have hcm:=MX b
 refine ZG 114 Tryz.func270 (ar (iA (Wu g gb) fun b1=>iA [.i 0,.i 0,nl] fun b2=>ie (X1 (Y1 ((b:Int)<3) (fun Za=>?_) (fun Za=>?_)))))
 ·refine Zw 4 [1] (ic [2,2] (CS rd bs p g gb rs vs t (ZH:=ob)) ?_)
  rintro _ _ ⟨e1,p21,rfl,rfl,ZW⟩
  have hle:=ZW.1
  exact ZI 2 b2 (YX e1) (ie (ZD (r3 [1,1] [Y4 e1] [0] [(b2,b2)] ⟨e1,p21,rfl,rfl,⟨hle.le hbm,by omega⟩⟩ (lr _))))
 have hb:3<=b:=by omega
 have hlc:=Za8 hb
 have hls:=Za9 hb
 refine ak (YF 1 (ic [2] (W8 rd bs p 12 (ZH:=ob)) ?_))
 rintro _ _ ⟨k1,rfl,rfl,Yh⟩
 have qhp2:=Yh.lt om
 refine ie (ab 0 (ar (YD (k1==0) Zq (fun Ze=>?_) (fun Ze=>?_))))
 ·refine Zw 4 [2] (ic [0,2] (CS rd bs (p+1) g gb rs vs t (ZH:=ob)) ?_)
  rintro _ _ ⟨e2,p22,rfl,rfl,YE⟩
  have hle:=YE.1
  exact ZI 2 b2 (YX e2) (ie (ZD (r3 [1,1] [Y4 e2] [0] [(b2,b2)] ⟨e2,p22,rfl,rfl,⟨hle.le hbm,by omega⟩⟩ (lr _))))
 refine Y9 (XP (fun fz gz F h=>F=sF [0,2,3,4,6,10,22] fz [(30,.b ((k1==1)||(k1==2)))]/\h=gz) ?_ ?_)
 ·refine ac (k1==1) Zq (fun ZC=>?_) (fun ZC=>?_)
  ·exact ak (ZQ ⟨rfl,rfl⟩ (ZF 4 (fc (x:=.b (k1==1)) (lb (by first|rfl|(rw [Zf ZC])|(rw [Z8 ZC])|(simp [ZC];done)|(rw [Xl];simp [ZC];done)|omega)) fl)))
  exact UZ (ZQ ⟨rfl,rfl⟩ (ZF 4 (fc (x:=.b (k1==2)) (lb (by first|rfl|(rw [Zf ZC])|(rw [Z8 ZC])|(simp [ZC];done)|(rw [Xl];simp [ZC];done)|omega)) fl)))
 rintro F h ⟨rfl,rfl⟩
 refine ac ((k1==1)||(k1==2)) (p:=(k1=1)∨(k1=2)) (Yl Zq Zq) (fun Ye=>?_) (fun Ye=>?_)
 ·refine Zw 3 [2] (ic [0,2] (Z5f rd bs (p+1) g gb rs vs (ZH:=ob)) ?_)
  rintro _ _ ⟨z1,rfl,rfl,YK⟩
  refine Z0 (aD 20 (ZK 15 20 [0,1,2,3,4] [3] (dx 5 (C6 b 2 om om) (ZK 8 14 [7,8,9,10,13,14] [3] (dx 15 (C6 b 2 om om) (KJ (fun fz gz F h=>∃(e3:Z2) (e4:Z2) (p24:Nat) (p23:Nat),(GE g vs.length (bS (b / 2)) e3/\((p+1)+1)<=p23/\p23<=((p+1)+1)+bC (b / 2))/\(GE g (vs++[z1]).length (bS (b / 2)) e4/\p23<=p24/\p24<=p23+bC (b / 2))/\F=sF [10] fz []/\h=[.obj b2 (YX (Z2.mk 13 0 [e3,e4])),Yw rd bs p24,Zc gz 1,Zc gz 3]) ?_ ?_))))))
  ·refine VC 6 11 ?_ ?_
   ·refine dc 6 [0,0] [1] [b1] (ih rd bs ((p+1)+1) vs z1 (b / 2) ob ob (by first|omega|(simp only [Yq,YQ,Xu];omega)) ob) ?_
    rintro _ _ ⟨e3,p23,rfl,rfl,X9⟩
    have hgehp5:=X9.1
    refine Z9 11 (dL 11 [3] [b1] (Z6 [z1]) 1 1 fun v1=>Yt 5 5 [] [(48,Z4 [z1])] (Z9 12 (dc 12 [] [3] [b1] (K4 vs [z1]) ?_)))
    rintro _ _ ⟨v2,rfl,rfl⟩
    refine Yt 4 4 [] [(49,Z4 (vs++[z1]))] (Z9 16 (dc 16 [2,2] [] [] (ih rd bs p23 (vs++[z1]) t (b / 2) ob ob (by first|omega|(simp only [Yq,YQ,Xu];omega)) ob) ?_))
    rintro _ _ ⟨e4,p24,rfl,rfl,XK⟩
    have hgehp6:=XK.1
    exact Z9 17 (WE 17 [] [] [Y4 e3,Y4 e4] (Yu [e3,e4]) (XM [e3,e4]).symm 2 3 fun v3=>Yt 2 2 [] [(54,XA [e3,e4])] (Z9 18 (Yp 18 [] [] [] (XR 13 0 [e3,e4]) (Z9 19 (YJ 19 5 [] [] b2 (YX (Z2.mk 13 0 [e3,e4])) (de (ZQ ⟨e3,e4,p24,_,(by assumption),(by assumption),rfl,rfl⟩ (wk [0,1,1,3] fl))))))))
   refine dL 11 [3,3] [b1,b1] (Z6 [z1]) 1 1 fun v4=>Z9 6 (dc 6 [1,1] [1] [b1] (ih rd bs ((p+1)+1) vs z1 (b / 2) ob ob (by first|omega|(simp only [Yq,YQ,Xu];omega)) ob) ?_)
   rintro _ _ ⟨e5,p25,rfl,rfl,Wo⟩
   have hgehp7:=Wo.1
   refine Yt 5 5 [] [(48,Z4 [z1])] (Z9 12 (dc 12 [] [3] [b1] (K4 vs [z1]) ?_))
   rintro _ _ ⟨v5,rfl,rfl⟩
   refine Yt 4 4 [] [(49,Z4 (vs++[z1]))] (Z9 16 (dc 16 [1,1] [] [] (ih rd bs p25 (vs++[z1]) t (b / 2) ob ob (by first|omega|(simp only [Yq,YQ,Xu];omega)) ob) ?_))
   rintro _ _ ⟨e6,p26,rfl,rfl,WR⟩
   have hgehp8:=WR.1
   exact Z9 17 (WE 17 [] [] [Y4 e5,Y4 e6] (Yu [e5,e6]) (XM [e5,e6]).symm 2 3 fun v6=>Yt 2 2 [] [(54,XA [e5,e6])] (Z9 18 (Yp 18 [] [] [] (XR 13 0 [e5,e6]) (Z9 19 (YJ 19 5 [] [] b2 (YX (Z2.mk 13 0 [e5,e6])) (de (ZQ ⟨e5,e6,p26,_,(by assumption),(by assumption),rfl,rfl⟩ (wk [0,1,1,3] fl))))))))
  rintro F h ⟨e3,e4,p24,p23,X9,XK,rfl,rfl⟩
  have hgehp5:=X9.1
  have hgehp6:=XK.1
  exact ZD (r3 [1,1] [Y4 (Z2.mk 13 0 [e3,e4])] [0] [(b2,b2)] ⟨(Z2.mk 13 0 [e3,e4]),p24,rfl,rfl,⟨GE.let_ (by assumption) (by have h:=‹GE g (vs++[_]).length (bS (b / 2)) _›;rw [Yq] at h;exact h) hls,by omega⟩⟩ (lr _))
 refine ar (YD (k1==3) Zq (fun Xg=>?_) (fun Xg=>?_))
 ·refine Zw 5 [2] (iL (Z6 [0,t,t]) 3 1 fun v7=>Z1 1 (ia (((b-1:Nat):Int)) (((b:Int))-(1)) (ZT 0 [(63,Z4 [0,t,t])] (ic [1,3] (BZ rd bs (p+1) g gb rs vs [0,t,t] (b-1) b (ZH:=ob) (hp:=(C8 (p:=p) (by first|omega|simp) hb om om)) (ht:=(by first|omega|simp)) (hb:=om) (ih:=ih)) ?_))))
  rintro _ _ ⟨ys1,p27,rfl,rfl,Vc⟩
  have hga1:=Vc.1
  have hga2:=Vc.2.1
  have hga3:=Vc.2.2
  have hnc:=Ax (b:=b) (show (ys1).length<=3 by rw [hga1];first|omega|simp) hb (Q7 _ (b-1))
  rw [hga1] at hnc
  exact Zz [] (XR 7 0 ys1) (ZI 3 b2 (YX (Z2.mk 7 0 ys1)) (ie (ZD (r3 [1,1] [Y4 (Z2.mk 7 0 ys1)] [0] [(b2,b2)] ⟨(Z2.mk 7 0 ys1),p27,rfl,rfl,⟨GE.if_ om hga2 hga1 (Ed (by simp) hb (Q7 3 _)),by omega⟩⟩ (lr _)))))
 refine Y9 (XP (fun fz gz F h=>F=sF [0,2,3,4,6,10,22] fz [(68,.b ((k1==4)||((k1==5)||(k1==6))))]/\h=gz) ?_ ?_)
 ·refine ac (k1==4) Zq (fun Xd=>?_) (fun Xd=>?_)
  ·exact ak (ZQ ⟨rfl,rfl⟩ (ZF 4 (fc (x:=.b (k1==4)) (lb (by first|rfl|(rw [Zf Xd])|(rw [Z8 Xd])|(simp [Xd];done)|(rw [Xl];simp [Xd];done)|omega)) fl)))
  refine ar (YD (k1==5) Zq (fun VO=>?_) (fun VO=>?_))
  ·exact ak (ZQ ⟨rfl,rfl⟩ (ZF 4 (fc (x:=.b (k1==5)) (lb (by first|rfl|(rw [Zf Xd])|(rw [Z8 Xd])|(simp [Xd,VO];done)|(rw [Xl];simp [Xd,VO];done)|omega)) fl)))
  exact UZ (ZQ ⟨rfl,rfl⟩ (ZF 4 (fc (x:=.b (k1==6)) (lb (by first|rfl|(rw [Zf Xd])|(rw [Z8 Xd])|(simp [Xd,VO];done)|(rw [Xl];simp [Xd,VO];done)|omega)) fl)))
 rintro F h ⟨rfl,rfl⟩
 refine ac ((k1==4)||((k1==5)||(k1==6))) (p:=(k1=4)∨((k1=5)∨(k1=6))) (Yl Zq (Yl Zq Zq)) (fun VG=>?_) (fun VG=>?_)
 ·refine Zw 5 [2] (ic [0,2] (Z61 rd bs (p+1) g gb rs vs t b (ZH:=ob) (ih:=ih)) ?_)
  rintro _ _ ⟨e7,p28,rfl,rfl,Ut⟩
  have hgm:=Ut.1
  exact ZI 2 b2 (YX e7) (ie (ZD (r3 [1,1] [Y4 e7] [0] [(b2,b2)] ⟨e7,p28,rfl,rfl,⟨hgm,by omega⟩⟩ (lr _))))
 refine Y9 (XP (fun fz gz F h=>F=sF [0,2,3,4,6,10] fz [(78,.b ((k1==7)||(k1==8)))]/\h=gz) ?_ ?_)
 ·refine ac (k1==7) Zq (fun VH=>?_) (fun VH=>?_)
  ·exact ak (ZQ ⟨rfl,rfl⟩ (ZF 4 (fc (x:=.b (k1==7)) (lb (by first|rfl|(rw [Zf VH])|(rw [Z8 VH])|(simp [VH];done)|(rw [Xl];simp [VH];done)|omega)) fl)))
  exact UZ (ZQ ⟨rfl,rfl⟩ (ZF 4 (fc (x:=.b (k1==8)) (lb (by first|rfl|(rw [Zf VH])|(rw [Z8 VH])|(simp [VH];done)|(rw [Xl];simp [VH];done)|omega)) fl)))
 rintro F h ⟨rfl,rfl⟩
 refine ac ((k1==7)||(k1==8)) (p:=(k1=7)∨(k1=8)) (Yl Zq Zq) (fun Tv=>?_) (fun Tv=>?_)
 ·refine Zw 2 [2] (ic [3] (Z5j g gb rs t) ?_)
  rintro _ _ ⟨xs1,rfl,rfl,T0⟩
  have hcal:=T0
  refine Z0 (Y5 1 (iw (Y8 xs1) (Y1 ((xs1.length:Int)>0) (fun Jp=>?_) (fun Jp=>?_))))
  ·refine Y5 3 (iw (Y8 xs1) (ic [1] (W8 rd bs (p+1) (xs1.length:Int) (ZH:=ob)) ?_))
   rintro _ _ ⟨k2,rfl,rfl,T1⟩
   have qhp12:=T1.lt om
   obtain ⟨x1,Z3⟩:=Zs xs1 k2.toNat om
   have hcv:=hcal.2 _ (ZX Z3)
   refine Zm (Zi none k2 1 (ZZ Z3)) (Z0 (aD 15 (ZK 8 15 [0,1,2,3,4,5,6] [3,3] ?_)))
   obtain ⟨x2,Zt⟩:=Zs g.funcs x1.toNat om
   have hso:=(hg.sigs _ (ZX Zt)).bd
   refine dx 7 (Wp gb g.funcs.length 4 x1.toNat 5 x1) (Zj 6 7 [8] (Ua 9 (Vm 1 gb 4 4 5 (x1.toNat * 5+0) (Zo (Xs rs)) [Z4 x2.params] 31 (Z4 x2.params) (UI Wq Zt 0 rfl (V8 rfl))) (Zj 4 5 [10] (da 11 (((b-1:Nat):Int)) (((b:Int))-(1)) (Z9 12 (dc 12 [0,0] [] [] (BZ rd bs ((p+1)+1) g gb rs vs x2.params (b-1) b (ZH:=ob) (hp:=(C8 (p:=p) (by first|omega|simp) hb om om)) (ht:=(by first|omega|simp)) (hb:=om) (ih:=ih)) ?_))))))
   rintro _ _ ⟨ys2,p29,rfl,rfl,Qp⟩
   have hga1:=Qp.1
   have hga2:=Qp.2.1
   have hga3:=Qp.2.2
   have hnc:=Ax (b:=b) (show (ys2).length<=3 by rw [hga1];first|omega|simp) hb (Q7 _ (b-1))
   rw [hga1] at hnc
   exact Z9 13 (Yp 13 [] [] [] (XR 9 x1 ys2) (Z9 14 (YJ 14 2 [] [] b2 (YX (Z2.mk 9 x1 ys2)) (de (ZD (r3 [1,1] [Y4 (Z2.mk 9 x1 ys2)] [0] [(b2,b2)] ⟨(Z2.mk 9 x1 ys2),p29,rfl,rfl,⟨GE.node om (fun _=>by omega) om hga2 hga1 (by first|omega|simp) (Ed (by first|omega|simp) hb (Q7 _ _)),by omega⟩⟩ (lr _)))))))
  refine ak (Zw 5 [3] (ic [1,0] (O8 rd bs (p+1) g gb rs vs t b (ZH:=ob) (ih:=ih)) ?_))
  rintro _ _ ⟨e8,p210,rfl,rfl,Qb⟩
  have hgm:=Qb.1
  exact ZI 2 b2 (YX e8) (ie (ZD (r3 [1,1] [Y4 e8] [0] [(b2,b2)] ⟨e8,p210,rfl,rfl,⟨hgm,by omega⟩⟩ (lr _))))
 refine ak (Zw 5 [2] (ic [0,2] (O8 rd bs (p+1) g gb rs vs t b (ZH:=ob) (ih:=ih)) ?_))
 rintro _ _ ⟨e9,p211,rfl,rfl,KS⟩
 have hgm:=KS.1
 exact ZI 2 b2 (YX e9) (ie (ZD (r3 [1,1] [Y4 e9] [0] [(b2,b2)] ⟨e9,p211,rfl,rfl,⟨hgm,by omega⟩⟩ (lr _))))
theorem QP (rd:Nat) (bs:LI) (p:Nat) (g:Wa) (gb:Nat) (rs:List Func) (vs:LI) (t:Int) (b:Nat) (ZH:∀z∈bs,0<=z/\z<=255) (hp:p+bC b<=1000000000:=by exact ob) (hg:GP g:=by exact ob) (Wq:g.funcs <+: rs:=by exact ob) (hv:vs.length+3*b<=900:=by exact ob):Zl 270 [.p rd 0,.agg (Wu g gb),Z4 vs,.i t,.i b] [Yw rd bs p,XN gb rs] (fun r h=>∃(e:Z2) (p2:Nat),r=Y4 e/\h=[Yw rd bs p2,XN gb rs]/\GE g vs.length (bS b) e/\p<=p2/\p2<=p+bC b):=by
 have key:∀k:Nat,∀(rd:Nat) (bs:LI) (p:Nat) (vs:LI) (t:Int) (b2:Nat),(∀z∈bs,0<=z/\z<=255)->(p+bC b2<=1000000000)->(vs.length+3*b2<=900)->(b2<k)->Zl 270 [.p rd 0,.agg (Wu g gb),Z4 vs,.i t,.i b2] [Yw rd bs p,XN gb rs] (fun r h=>∃(e:Z2) (p2:Nat),r=Y4 e/\h=[Yw rd bs p2,XN gb rs]/\GE g vs.length (bS b2) e/\p<=p2/\p2<=p+bC b2):=by
  intro k
  induction k with
  | zero=>intro rd bs p vs t b2 h1 h2 h3 h4;omega
  | succ k ih=>intro rd bs p vs t b2 h1 h2 h3 h4;exact Z62 rd bs p g gb rs vs t b2 h1 h2 hg Wq h3 fun rd bs p vs t b3 q1 q2 q3 q4=>ih rd bs p vs t b3 q1 q2 q3 om
 exact key (b+1) rd bs p vs t b ZH hp hv om
theorem O7 (rd:Nat) (bs:LI) (p:Nat) (g:Wa) (gb:Nat) (rs:List Func) (vs:LI) (t:Int) (b:Nat) (ZH:∀z∈bs,0<=z/\z<=255) (hp:p+40000<=1000000000:=by exact ob) (hg:GP g:=by exact ob) (Wq:g.funcs <+: rs:=by exact ob) (hv:vs.length+3*b<=900:=by exact ob) (hb:b<=20:=by exact ob):Zl 231 [.p rd 0,.agg (Wu g gb),Z4 vs,.i t,.i b] [Yw rd bs p,XN gb rs] (fun r h=>∃(e:Z2) (p2:Nat),r=Y4 e/\h=[Yw rd bs p2,XN gb rs]/\GE g vs.length 30 e/\p<=p2/\p2<=p+40000):=by
 have CW:=ET hb
 refine ZG 34 Tryz.func231 (ar (iA (Wu g gb) fun b1=>iA [.i 0,.i 0,nl] fun b2=>ie (Zw 5 [1] (ic [2,2] (QP rd bs p g gb rs vs t b (ZH:=ob)) ?_))))
 rintro _ _ ⟨e1,p21,rfl,rfl,ZW⟩
 have Xe:=ZW.1
 refine iA [.i 0,.i 0,nl] fun b3=>?_
 refine ZI 0 b3 (YX e1) (ie (aq (ab 0 (Y2 (fun fz gz m F h=>∃(bq:Nat) (eQ:Z2) (pq:Nat),(GE g vs.length (bS bq) eQ)/\(bq<=b)/\(p<=pq/\pq+1900*bq<=p+1900*(b+1))/\F=sF [0,2,3,6,10,11] fz [(4,.i bq)]/\h=[.obj b3 (YX eQ),Yw rd bs pq,Zc gz 2,Zc gz 3,Zc gz 4]/\m=bq+1) _ _ _ ⟨b,e1,p21,Xe,ob,ob,rfl,rfl,rfl⟩ (ZF 5 fl) ?_))))
 rintro m F h ⟨bq,eQ,pq,Yf,Zh,Zv,rfl,rfl,rfl⟩
 refine Yi 1 [0] (ic [] (Oe eQ (hz:=(by have h1:=Yf.2;have h2:=(ET (b:=bq) om).1;omega))) ?_)
 rintro _ _ ⟨w1,rfl,rfl,Yh⟩
 have E1:=Yh
 have hq20:=ET (b:=bq) om
 have hq21:=ET (b:=bq / 2) om
 have Xi:=Yf.2
 refine Xp [0,2,3,4,6,10,11] [(24,.b ((decide (w1<0))&&(decide ((bq:Int)>2))))] (fun gz=>gz) ?_ ?_
 ·refine Z1 2 (ib (b:=(decide (w1<0))) 21 (fun Zb=>?_) (fun Zb=>?_))
  ·exact Z0 (ZF 5 (Zu (decide ((bq:Int)>2)) Zb fl))
  exact Z0 (ZF 5 (Zu false Zb fl))
 refine ac ((decide (w1<0))&&(decide ((bq:Int)>2))) (p:=(w1<0)/\((bq:Int)>2)) (YG dq dq) (fun Za=>?_) (fun Za=>?_)
 ·refine ak (ab 1 (Y5 1 (Zm (C6 bq 2 om om) (Z0 (az (ZP 5 [4] (ic [1,1] (QP rd bs pq g gb rs vs t (bq / 2) (ZH:=ob)) ?_)))))))
  rintro _ _ ⟨e2,p22,rfl,rfl,X9⟩
  have Xe:=X9.1
  exact ZI 2 b3 (YX e2) (ie (ZL ⟨(bq / 2),e2,p22,Xe,ob,ob,rfl,rfl,rfl⟩ (ZF 5 (fc (x:=.i (bq / 2:Nat)) li fl))))
 exact ax 0 (Zw 1 [0] (ZI 3 b2 (YX eQ) (ie (ZD (r3 [2,2] [Y4 eQ] [0] [(b2,b2)] ⟨eQ,pq,rfl,rfl,⟨⟨Yf.1,by omega⟩,by omega⟩⟩ (lr _))))))
theorem Z6g (rd:Nat) (bs:LI) (p:Nat) (t:Int) (ZH:∀z∈bs,0<=z/\z<=255) (hp:p+14<=1000000000:=by exact ob):Zl 272 [.p rd 0,.i t] [Yw rd bs p] (fun r h=>∃(e:Z2) (p2:Nat),r=Y4 e/\h=[Yw rd bs p2]/\(∀g:Wa,SE g 9 e)/\p<=p2/\p2<=p+14):=by
 refine ZG 45 Tryz.func272 (ar (iA [.i 0,.i 0,nl] fun b1=>ie (ar (iL (Yu []) 0 3 fun v1=>ZT 0 [(10,XA [])] (Zz [] (XR 6 0 []) (iA [.i 0,.i 0,nl] fun b2=>ZI 0 b2 (YX (Z2.mk 6 0 [])) (ie (X1 (YD (t==3) Zq (fun Za=>?_) (fun Za=>?_))))))))))
 ·refine ar (iL (Yu []) 0 3 fun v2=>ZT 0 [(14,XA [])] (Zz [] (XR 6 2 []) (iA [.i 0,.i 0,nl] fun b3=>?_)))
  refine ZI 0 b3 (YX (Z2.mk 6 2 [])) (ie (aD 9 (ZK 6 9 [0,1,4] [0,0] (KJ (fun fz gz F h=>∃(k1:Int) (b4:Nat),(Pk 9 k1)/\F=sF [0,4,6] fz [(7,.p b4 0)]/\h=[.obj b4 (YX (Z2.mk 6 3 [Z2.mk 6 2 [],Z2.mk 0 k1 [],Z2.mk 6 2 []])),.obj rd [U3 bs,.i (p+1:Nat)],Zc gz 0,Zc gz 1,Zc gz 2,Zc gz 3,Zc gz 4]) ?_ ?_))))
  ·refine VC 2 7 ?_ ?_
   ·refine dc 2 [5] [0,0] [b3,b3] (W8 rd bs p 9 (ZH:=ob)) ?_
    rintro _ _ ⟨k1,rfl,rfl,ZW⟩
    have qhp1:=ZW.lt om
    refine VC 3 7 ?_ ?_
    ·refine Yp 3 [] [1,1] [b3,b3] (Am k1) (VC 5 7 ?_ ?_)
     ·refine WE 5 [] [] [Y4 (Z2.mk 6 2 []),Y4 (Z2.mk 0 k1 []),Y4 (Z2.mk 6 2 [])] (Yu [Z2.mk 6 2 [],Z2.mk 0 k1 [],Z2.mk 6 2 []]) (XM [Z2.mk 6 2 [],Z2.mk 0 k1 [],Z2.mk 6 2 []]).symm 3 3 fun v3=>Yt 3 3 [] [(21,XA [Z2.mk 6 2 [],Z2.mk 0 k1 [],Z2.mk 6 2 []])] (VC 6 7 ?_ ?_)
      ·exact Yp 6 [] [] [] (XR 6 3 [Z2.mk 6 2 [],Z2.mk 0 k1 [],Z2.mk 6 2 []]) (Z9 7 (dA 7 [] [] [.i 0,.i 0,nl] fun b4=>Z9 8 (YJ 8 0 [] [] b4 (YX (Z2.mk 6 3 [Z2.mk 6 2 [],Z2.mk 0 k1 [],Z2.mk 6 2 []])) (de (ZQ ⟨k1,b4,(by assumption),rfl,rfl⟩ (wk [0,1,1,1,1,1,1] fl))))))
      exact dA 7 [] [] [.i 0,.i 0,nl] fun b5=>Z9 6 (Yp 6 [] [] [] (XR 6 3 [Z2.mk 6 2 [],Z2.mk 0 k1 [],Z2.mk 6 2 []]) (Z9 8 (YJ 8 0 [] [] b5 (YX (Z2.mk 6 3 [Z2.mk 6 2 [],Z2.mk 0 k1 [],Z2.mk 6 2 []])) (de (ZQ ⟨k1,b5,(by assumption),rfl,rfl⟩ (wk [0,1,1,1,1,1,1] fl))))))
     exact dA 7 [1,1] [b3,b3] [.i 0,.i 0,nl] fun b6=>Z9 5 (WE 5 [] [] [Y4 (Z2.mk 6 2 []),Y4 (Z2.mk 0 k1 []),Y4 (Z2.mk 6 2 [])] (Yu [Z2.mk 6 2 [],Z2.mk 0 k1 [],Z2.mk 6 2 []]) (XM [Z2.mk 6 2 [],Z2.mk 0 k1 [],Z2.mk 6 2 []]).symm 3 3 fun v4=>Yt 2 2 [] [(21,XA [Z2.mk 6 2 [],Z2.mk 0 k1 [],Z2.mk 6 2 []])] (Z9 6 (Yp 6 [] [] [] (XR 6 3 [Z2.mk 6 2 [],Z2.mk 0 k1 [],Z2.mk 6 2 []]) (Z9 8 (YJ 8 1 [] [] b6 (YX (Z2.mk 6 3 [Z2.mk 6 2 [],Z2.mk 0 k1 [],Z2.mk 6 2 []])) (de (ZQ ⟨k1,b6,(by assumption),rfl,rfl⟩ (wk [0,1,1,1,1,1,1] fl))))))))
    exact dA 7 [1,1] [b3,b3] [.i 0,.i 0,nl] fun b7=>Z9 3 (Yp 3 [] [2,2] [b3,b3] (Am k1) (Z9 5 (WE 5 [] [] [Y4 (Z2.mk 6 2 []),Y4 (Z2.mk 0 k1 []),Y4 (Z2.mk 6 2 [])] (Yu [Z2.mk 6 2 [],Z2.mk 0 k1 [],Z2.mk 6 2 []]) (XM [Z2.mk 6 2 [],Z2.mk 0 k1 [],Z2.mk 6 2 []]).symm 3 3 fun v5=>Yt 2 2 [] [(21,XA [Z2.mk 6 2 [],Z2.mk 0 k1 [],Z2.mk 6 2 []])] (Z9 6 (Yp 6 [] [] [] (XR 6 3 [Z2.mk 6 2 [],Z2.mk 0 k1 [],Z2.mk 6 2 []]) (Z9 8 (YJ 8 1 [] [] b7 (YX (Z2.mk 6 3 [Z2.mk 6 2 [],Z2.mk 0 k1 [],Z2.mk 6 2 []])) (de (ZQ ⟨k1,b7,(by assumption),rfl,rfl⟩ (wk [0,1,1,1,1,1,1] fl))))))))))
   refine dA 7 [0,0] [b3,b3] [.i 0,.i 0,nl] fun b8=>Z9 2 (dc 2 [6] [1,1] [b3,b3] (W8 rd bs p 9 (ZH:=ob)) ?_)
   rintro _ _ ⟨k2,rfl,rfl,Yh⟩
   have qhp2:=Yh.lt om
   exact Z9 3 (Yp 3 [] [2,2] [b3,b3] (Am k2) (Z9 5 (WE 5 [] [] [Y4 (Z2.mk 6 2 []),Y4 (Z2.mk 0 k2 []),Y4 (Z2.mk 6 2 [])] (Yu [Z2.mk 6 2 [],Z2.mk 0 k2 [],Z2.mk 6 2 []]) (XM [Z2.mk 6 2 [],Z2.mk 0 k2 [],Z2.mk 6 2 []]).symm 3 3 fun v6=>Yt 2 2 [] [(21,XA [Z2.mk 6 2 [],Z2.mk 0 k2 [],Z2.mk 6 2 []])] (Z9 6 (Yp 6 [] [] [] (XR 6 3 [Z2.mk 6 2 [],Z2.mk 0 k2 [],Z2.mk 6 2 []]) (Z9 8 (YJ 8 2 [] [] b8 (YX (Z2.mk 6 3 [Z2.mk 6 2 [],Z2.mk 0 k2 [],Z2.mk 6 2 []])) (de (ZQ ⟨k2,b8,(by assumption),rfl,rfl⟩ (wk [0,1,1,1,1,1,1] fl))))))))))
  rintro F h ⟨k1,b4,ZW,rfl,rfl⟩
  have qhp1:=ZW.lt om
  refine aD 8 (ZK 5 8 [0,1,4] [0,2] (Z9 2 (dc 2 [1] [1,0] [b3,b4] (W8 rd bs (p+1) 9 (ZH:=ob)) ?_)))
  rintro _ _ ⟨k3,rfl,rfl,YE⟩
  have qhp3:=YE.lt om
  exact Z9 3 (Yp 3 [] [2,1] [b3,b4] (Am k3) (Z9 5 (WE 5 [] [] [Y4 (Z2.mk 6 3 [Z2.mk 6 2 [],Z2.mk 0 k1 [],Z2.mk 6 2 []]),Y4 (Z2.mk 0 k3 []),Y4 (Z2.mk 6 2 [])] (Yu [Z2.mk 6 3 [Z2.mk 6 2 [],Z2.mk 0 k1 [],Z2.mk 6 2 []],Z2.mk 0 k3 [],Z2.mk 6 2 []]) (XM [Z2.mk 6 3 [Z2.mk 6 2 [],Z2.mk 0 k1 [],Z2.mk 6 2 []],Z2.mk 0 k3 [],Z2.mk 6 2 []]).symm 3 3 fun v7=>Yt 2 2 [] [(28,XA [Z2.mk 6 3 [Z2.mk 6 2 [],Z2.mk 0 k1 [],Z2.mk 6 2 []],Z2.mk 0 k3 [],Z2.mk 6 2 []])] (Z9 6 (Yp 6 [] [] [] (XR 6 3 [Z2.mk 6 3 [Z2.mk 6 2 [],Z2.mk 0 k1 [],Z2.mk 6 2 []],Z2.mk 0 k3 [],Z2.mk 6 2 []]) (Z9 7 (YJ 7 7 [] [] b1 (YX (Z2.mk 6 3 [Z2.mk 6 3 [Z2.mk 6 2 [],Z2.mk 0 k1 [],Z2.mk 6 2 []],Z2.mk 0 k3 [],Z2.mk 6 2 []])) (de (ZD (r3 [2] [Y4 (Z2.mk 6 3 [Z2.mk 6 3 [Z2.mk 6 2 [],Z2.mk 0 k1 [],Z2.mk 6 2 []],Z2.mk 0 k3 [],Z2.mk 6 2 []])] [0] [(b1,b1)] ⟨(Z2.mk 6 3 [Z2.mk 6 3 [Z2.mk 6 2 [],Z2.mk 0 k1 [],Z2.mk 6 2 []],Z2.mk 0 k3 [],Z2.mk 6 2 []]),(p+1)+1,rfl,rfl,⟨fun g=>SE.three (s1:=4) (s2:=1) (s3:=1) om om (SE.three (s1:=1) (s2:=1) (s3:=1) om om (SE.nil om om om) (SE.int om om) (SE.nil om om om) om) (SE.int om om) (SE.nil om om om) om,by omega⟩⟩ (lr _)))))))))))
 refine ak (Zw 1 [0] (iA [.i 0,.i 0,nl] fun b9=>ZI 0 b9 (YX (Z2.mk 6 0 [])) (ie (YF 1 (ic [4] (W8 rd bs p 3 (ZH:=ob)) ?_)))))
 rintro _ _ ⟨k4,rfl,rfl,YK⟩
 have qhp4:=YK.lt om
 refine ia ((1+k4)) ((1)+(k4)) (Z0 (ab 0 (Y2 (fun fz gz m F h=>∃(j:Int) (eQ:Z2) (pq:Nat),(0<=j/\j<=3)/\(∀g:Wa,SE g (7-2*j.toNat) eQ)/\(p+1<=pq/\pq+4*j.toNat<=p+13)/\F=sF [0,4,8] fz [(9,.i j)]/\h=[Yw rd bs pq,.obj b9 (YX eQ),Zc gz 4]/\m=j.toNat) _ _ _ ⟨(1+k4),(Z2.mk 6 0 []),p+1,ob,(fun g=>SE.nil om om om),ob,rfl,rfl,rfl⟩ (wk [0,0,2] fl) ?_)))
 rintro m F h ⟨j,eQ,pq,Yf,Zh,Zv,rfl,rfl,rfl⟩
 refine X1 (Y1 (j>0) (fun Ze=>?_) (fun Ze=>?_))
 ·refine ak (aq (ab 1 (aE 7 (ZK 5 7 [0,3] [1] (Z9 1 (dc 1 [0] [0] [b9] (Og rd bs pq (ZH:=ob)) ?_))))))
  rintro _ _ ⟨z1,rfl,rfl,X9⟩
  have hz:=X9
  exact Z9 2 (Yp 2 [] [1] [b9] (Am z1) (Z9 4 (WE 4 [] [] [Y4 (Z2.mk 0 z1 []),Y4 eQ] (Yu [Z2.mk 0 z1 [],eQ]) (XM [Z2.mk 0 z1 [],eQ]).symm 2 3 fun v8=>Yt 2 2 [] [(42,XA [Z2.mk 0 z1 [],eQ])] (Z9 5 (Yp 5 [] [] [] (XR 6 1 [Z2.mk 0 z1 [],eQ]) (Z9 6 (YJ 6 2 [] [] b9 (YX (Z2.mk 6 1 [Z2.mk 0 z1 [],eQ])) (de (az (Z1 1 (ia ((j-1)) ((j)-(1)) (Z0 (ZL ⟨(j-1),(Z2.mk 6 1 [Z2.mk 0 z1 [],eQ]),pq+4,ob,(fun g=>SE.two om om (SE.int (q:=1) om om) (Zh g) om),ob,rfl,rfl,rfl⟩ (wk [2,0,1] fl))))))))))))))
 exact ax 0 (Zw 1 [1] (ZI 2 b1 (YX eQ) (ie (ZD (r3 [1] [Y4 eQ] [0] [(b1,b1)] ⟨eQ,pq,rfl,rfl,⟨fun g=>(⟨(Zh g).1,by have:=(Zh g).2;omega⟩:SE g 9 _),by omega⟩⟩ (lr _))))))
theorem Z6j (rd:Nat) (bs:LI) (p:Nat) (g:Wa) (gb:Nat) (rs:List Func) (ZH:∀z∈bs,0<=z/\z<=255) (hp:p+1600<=1000000000:=by exact ob) (hg:GP g:=by exact ob) (Wq:g.funcs <+: rs:=by exact ob):Zl 227 [.p rd 0,.agg (Wu g gb)] [Yw rd bs p,XN gb rs] (fun r h=>∃(e:Z2) (p2:Nat),r=Y4 e/\h=[Yw rd bs p2,XN gb rs]/\GE g 0 200 e/\p<=p2/\p2<=p+1600):=by
 have hbv:=DG
 refine ZG 27 Tryz.func227 (ar (iA (Wu g gb) fun b1=>iA [.i 0,.i 0,nl] fun b2=>ie (Y5 1 (iL (Z6 [1,1,3]) 3 1 fun v1=>ZT 0 [(8,Z4 [1,1,3])] (ic [3] (VN rd bs p [1,1,3] (ZH:=ob)) ?_)))))
 rintro _ _ ⟨z1,rfl,rfl,ZW⟩
 have hz:=Bk (a:=1) (b:=3) ZW (by decide)
 refine Z0 (Zw 3 [3] (iL (Z6 [z1]) 1 1 fun v2=>ZT 0 [(13,Z4 [z1])] (ic [1,4] (QP rd bs (p+1) g gb rs [z1] 0 16 (ZH:=ob) (hv:=(by simp))) ?_)))
 rintro _ _ ⟨e1,p21,rfl,rfl,Yh⟩
 have Xe:=Yh.1
 have QR:=Yh.2
 rw [hbv.2.2.2.1] at Xe
 refine iA [.i 0,.i 0,nl] fun b3=>ZI 0 b3 (YX e1) (ie (YF 1 (ic [1] (W8 rd bs p21 3 (ZH:=ob)) ?_)))
 rintro _ _ ⟨k1,rfl,rfl,YE⟩
 have qhp3:=YE.lt om
 refine Z0 (XP (fun fz gz F h=>∃(eQ:Z2),(GE g 1 151 eQ)/\F=sF [0,4,5,6] fz []/\h=[Zc gz 0,.obj b3 (YX eQ),Zc gz 2,Zc gz 5]) ?_ ?_)
 ·refine ac (k1==0) Zq (fun Za=>?_) (fun Za=>?_)
  ·exact az (ZP 1 [1] (UJ [Y4 e1] (Yu [e1]) (XM [e1]).symm 1 3 fun v3=>ZT 0 [(19,XA [e1])] (Zz [] (XR 5 0 [e1]) (ZI 2 b3 (YX (Z2.mk 5 0 [e1])) (ie (ZQ ⟨(Z2.mk 5 0 [e1]),(GE.one om om Xe om),rfl,rfl⟩ (wk [2,0,1,3] fl)))))))
  exact ak (ZQ ⟨e1,(GE.le Xe om),rfl,rfl⟩ (wk [0,0,0,2] fl))
 rintro F h ⟨eQ,KU,rfl,rfl⟩
 refine aD 7 (ZK 4 7 [0,1,3] [1] (Z9 2 (dc 2 [0] [0] [b3] (Z6g rd bs (p21+1) z1 (ZH:=ob)) ?_)))
 rintro _ _ ⟨e2,p22,rfl,rfl,YK⟩
 have hli:=YK.1
 exact Z9 4 (WE 4 [] [] [Y4 e2,Y4 eQ] (Yu [e2,eQ]) (XM [e2,eQ]).symm 2 3 fun v4=>Yt 2 2 [] [(25,XA [e2,eQ])] (Z9 5 (Yp 5 [] [] [] (XR 13 0 [e2,eQ]) (Z9 6 (YJ 6 4 [] [] b2 (YX (Z2.mk 13 0 [e2,eQ])) (de (ZD (r3 [2,3] [Y4 (Z2.mk 13 0 [e2,eQ])] [0] [(b2,b2)] ⟨(Z2.mk 13 0 [e2,eQ]),p22,rfl,rfl,⟨GE.letS ((hli g).ge (X5 _)) KU om,by omega⟩⟩ (lr _)))))))))
theorem Z6r (rd:Nat) (bs:LI) (p:Nat) (g:Wa) (gb:Nat) (rs:List Func) (f:Func) (i:Int) (w:Int) (ZH:∀z∈bs,0<=z/\z<=255) (hp:p+1000<=1000000000:=by exact ob) (hg:GP g:=by exact ob) (Wq:g.funcs <+: rs:=by exact ob) (hi:0<=i:=by exact ob) (hf:g.funcs[i.toNat]? = some f:=by exact ob) (hw:0<=w/\w<f.params.length:=by exact ob):Zl 228 [.p rd 0,.agg (Wu g gb),.i i,.i w] [Yw rd bs p,XN gb rs] (fun r h=>∃(e:Z2) (p2:Nat),r=Y4 e/\h=[Yw rd bs p2,XN gb rs]/\GE g f.params.length 200 e/\p<=p2/\p2<=p+1000):=by
 obtain ⟨hil,_⟩:=Xc.1 hf
 have hgl:=hg.len
 have hso:=(hg.sigs f (ZX hf)).bd
 have hbv:=DG
 refine ZG 136 Tryz.func228 (ar (iA (Wu g gb) fun b1=>iA [.i 0,.i 0,nl] fun b2=>ie (Zw 3 [1] (Zm (Wp gb g.funcs.length 4 i.toNat 5 i) (Z1 1 (WS (Vm 3 gb 4 4 5 (i.toNat * 5+0) (Zo (Xs rs)) [Z4 f.params] 31 (Z4 f.params) (UI Wq hf 0 rfl (V8 rfl))) (Z0 (Y5 1 (iw (Y8 f.params) (Z0 (Y5 1 (iL (Z6 [0,1]) 2 1 fun v1=>ZT 0 [(26,Z4 [0,1])] (ic [] (K4 f.params [0,1]) ?_)))))))))))))
 rintro _ _ ⟨v2,rfl,rfl⟩
 refine Z0 (ar (iL (Yu []) 0 3 fun v3=>?_))
 refine Z0 (Y9 (ab 0 (Y2 (fun fz gz m F h=>∃(k:Nat) (ys:List Z2) (u:Value) (pq:Nat),(k<=f.params.length)/\(ys.length=k)/\(∀e∈ys,GE g (f.params.length+2) 3 e)/\(p<=pq/\pq<=p+k)/\F=sF [0,2,3,5,8,9,10] fz [(11,Z4 (f.params++[0,1])),(12,Qt ys u),(13,.i k)]/\h=[Zc gz 3,Zc gz 4,Yw rd bs pq,Zc gz 6,.tail u 3]/\m=f.params.length-k) _ _ _ ⟨0,[],v3,p,ob,ob,(fun e he=>by cases he),ob,rfl,rfl,rfl⟩ (wk [3,3,3,3,0] (fc (x:=ZM (f.params++[0,1]) v2) (Zd.forget _ _) (fr (Ya fl)))) ?_)))
 rintro m F h ⟨k,ys,u,pq,Yf,Zh,Zv,Ys,rfl,rfl,rfl⟩
 refine X1 (Y1 ((k:Int)<(f.params.length:Int)) (fun Za=>?_) (fun Za=>?_))
 ·refine ak (aq (ab 1 (ar (YD ((k:Int)==w) Zq (fun Ze=>?_) (fun Ze=>?_)))))
  ·exact az (Z1 2 (ia (((f.params.length+1:Nat):Int)) (((f.params.length:Int))+(1)) (Zz [] (Qa ((f.params.length+1:Nat):Int)) (UJ [Y4 (Z2.mk 12 ((f.params.length+1:Nat):Int) [])] (Yu [(Z2.mk 12 ((f.params.length+1:Nat):Int) [])]) (XM [(Z2.mk 12 ((f.params.length+1:Nat):Int) [])]).symm 1 3 fun v4=>ZT 0 [(41,XA [(Z2.mk 12 ((f.params.length+1:Nat):Int) [])])] (ip 5 (Yu (ys++[(Z2.mk 12 ((f.params.length+1:Nat):Int) [])])) (Yu ys) (Yu [(Z2.mk 12 ((f.params.length+1:Nat):Int) [])]) u none 3 (Te _) (Te _) (JM _) (by simp<;>omega) (by simp [JL,Yu]) fun v5=>Z0 (az (Z1 1 (ZJ k (Z0 (ZL ⟨k+1,(ys++[(Z2.mk 12 ((f.params.length+1:Nat):Int) [])]),v5,pq,ob,ob,(XC Zv (GE.var om om om)),ob,rfl,rfl,rfl⟩ (wk [2,2,2,2,0] (fw (ZO k fl)))))))))))))
  refine aq (XP (fun fz gz F h=>∃(wb:Bool) (p5:Nat),(pq<=p5/\p5<=pq+1)/\F=sF [0,2,3,5,8,9,10,11,12,13] fz [(52,.b wb)]/\h=[Zc gz 0,Zc gz 1,Yw rd bs p5,Zc gz 3,Zc gz 4]) ?_ ?_)
  ·refine az (Z1 2 ?_)
   obtain ⟨x1,Z3⟩:=Zs f.params k om
   refine Zm (Zi none (k:Int) 1 (ZZ Z3)) (Z1 3 (ib (b:=(x1==0)) 48 (fun Zb=>?_) (fun Zb=>?_)))
   ·refine Z1 1 (ic [2] (W8 rd bs pq 2 (ZH:=ob)) ?_)
    rintro _ _ ⟨k1,rfl,rfl,Yh⟩
    have qhp2:=Yh.lt om
    exact Z0 (ZQ ⟨(k1==0),pq+1,om,rfl,rfl⟩ (wk [1,1,0,0,0] fl))
   exact Z0 (ZQ ⟨false,pq,ob,rfl,rfl⟩ (ZF 5 fl))
  rintro F h ⟨wb,p5,kR10_0,rfl,rfl⟩
  refine ac wb Iff.rfl (fun ZC=>?_) (fun ZC=>?_)
  ·exact az (Z1 2 (Zz [] (Qa (k:Int)) (Z1 1 (Zz [] (Qa (f.params.length:Int)) (UJ [Y4 (Z2.mk 12 (k:Int) []),Y4 (Z2.mk 12 (f.params.length:Int) [])] (Yu [(Z2.mk 12 (k:Int) []),(Z2.mk 12 (f.params.length:Int) [])]) (XM [(Z2.mk 12 (k:Int) []),(Z2.mk 12 (f.params.length:Int) [])]).symm 2 3 fun v6=>ZT 0 [(58,XA [(Z2.mk 12 (k:Int) []),(Z2.mk 12 (f.params.length:Int) [])])] (Zz [] (XR 1 0 [(Z2.mk 12 (k:Int) []),(Z2.mk 12 (f.params.length:Int) [])]) (UJ [Y4 (Z2.mk 1 0 [(Z2.mk 12 (k:Int) []),(Z2.mk 12 (f.params.length:Int) [])])] (Yu [(Z2.mk 1 0 [(Z2.mk 12 (k:Int) []),(Z2.mk 12 (f.params.length:Int) [])])]) (XM [(Z2.mk 1 0 [(Z2.mk 12 (k:Int) []),(Z2.mk 12 (f.params.length:Int) [])])]).symm 1 3 fun v7=>ZT 0 [(60,XA [(Z2.mk 1 0 [(Z2.mk 12 (k:Int) []),(Z2.mk 12 (f.params.length:Int) [])])])] (ip 6 (Yu (ys++[(Z2.mk 1 0 [(Z2.mk 12 (k:Int) []),(Z2.mk 12 (f.params.length:Int) [])])])) (Yu ys) (Yu [(Z2.mk 1 0 [(Z2.mk 12 (k:Int) []),(Z2.mk 12 (f.params.length:Int) [])])]) u none 3 (Te _) (Te _) (JM _) (by simp<;>omega) (by simp [JL,Yu]) fun v8=>Z0 (az (Z1 1 (ZJ k (Z0 (ZL ⟨k+1,(ys++[(Z2.mk 1 0 [(Z2.mk 12 (k:Int) []),(Z2.mk 12 (f.params.length:Int) [])])]),v8,p5,ob,ob,(XC Zv (GE.two (s1:=1) (s2:=1) om om (GE.var om om om) (GE.var om om om) om)),ob,rfl,rfl,rfl⟩ (wk [3,3,3,3,0] (fw (ZO k fl))))))))))))))))
  exact az (Z1 2 (Zz [] (Qa (k:Int)) (UJ [Y4 (Z2.mk 12 (k:Int) [])] (Yu [(Z2.mk 12 (k:Int) [])]) (XM [(Z2.mk 12 (k:Int) [])]).symm 1 3 fun v9=>ZT 0 [(65,XA [(Z2.mk 12 (k:Int) [])])] (ip 5 (Yu (ys++[(Z2.mk 12 (k:Int) [])])) (Yu ys) (Yu [(Z2.mk 12 (k:Int) [])]) u none 3 (Te _) (Te _) (JM _) (by simp<;>omega) (by simp [JL,Yu]) fun v10=>Z0 (az (Z1 1 (ZJ k (Z0 (ZL ⟨k+1,(ys++[(Z2.mk 12 (k:Int) [])]),v10,p5,ob,ob,(XC Zv (GE.var om om om)),ob,rfl,rfl,rfl⟩ (wk [2,2,2,2,0] (fw (ZO k fl))))))))))))
 refine ax 0 (ar (ZT 2 [(68,XA ys)] (Zz [] (XR 9 i ys) (iA [.i 0,.i 0,nl] fun b3=>ZI 0 b3 (YX (Z2.mk 9 i ys)) (ie (Zw 1 [0] (iA [.i 0,.i 0,nl] fun b4=>?_)))))))
 refine ZI 0 b4 (YX (Z2.mk 9 i ys)) (ie (aq (aq (XP (fun fz gz F h=>∃(wb:Bool) (p5:Nat),(pq<=p5/\p5<=pq+1)/\F=sF [0,2,3,5,8,9,10,11,14,15] fz [(82,.b wb)]/\h=[Zc gz 0,Zc gz 1,Zc gz 2,Zc gz 3,Yw rd bs p5,Zc gz 5]) ?_ ?_))))
 ·refine az (ZP 3 [3] (Zm (Wp gb g.funcs.length 4 i.toNat 5 i) (Z1 1 (WS (Vm 5 gb 4 4 5 (i.toNat * 5+1) (Zo (Xs rs)) [.i f.result] 3 (.i f.result) (UI Wq hf 1 rfl (V8 rfl))) (Z1 2 (ib (b:=(f.result==1)) 78 (fun ZA=>?_) (fun ZA=>?_)))))))
  ·refine Z1 1 (ic [4] (W8 rd bs pq 5 (ZH:=ob)) ?_)
   rintro _ _ ⟨k2,rfl,rfl,X9⟩
   have qhp5:=X9.lt om
   exact Z0 (ZQ ⟨(decide (k2>0)),pq+1,ob,rfl,rfl⟩ (wk [1,1,1,1,0,0] fl))
  exact Z0 (ZQ ⟨false,pq,ob,rfl,rfl⟩ (ZF 6 fl))
 rintro F h ⟨wb,p5,kR15_0,rfl,rfl⟩
 refine XP (fun fz gz F h=>∃(eQ:Z2) (p6:Nat),(GE g (f.params.length+2) 41 eQ)/\(p5<=p6/\p6<=p5+302)/\F=sF [0,2,3,5,8,9,15] fz []/\h=[.obj b4 (YX eQ),Zc gz 2,Zc gz 3,Yw rd bs p6,Zc gz 5]) ?_ ?_
 ·refine ac wb Iff.rfl (fun Ye=>?_) (fun Ye=>?_)
  ·refine Zw 3 [3] (ic [4,4] (QP rd bs p5 g gb rs (f.params++[0,1]) 0 4 (ZH:=ob) (hv:=(by first|omega|(simp only [Yq,YQ,Xu];omega)))) ?_)
   rintro _ _ ⟨e1,p21,rfl,rfl,Wo⟩
   have Xe:=Wo.1
   have QR:=Wo.2
   try rw [Yq] at Xe
   rw [hbv.2.1] at Xe
   refine iA [.i 0,.i 0,nl] fun b5=>?_
   refine ZI 0 b5 (YX e1) (ie (aq (aq (XP (fun fz gz F h=>∃(wc:Bool),(True)/\F=sF [0,2,3,5,8,9,10,14,15,16] fz [(94,.b wc)]/\h=gz) ?_ ?_))))
   ·refine az (Z1 3 (ib (b:=(decide ((f.params.length:Int)>1))) 89 (fun YA=>?_) (fun YA=>?_)))
    ·refine Z1 1 ?_
     obtain ⟨x2,Zt⟩:=Zs f.params 0 om
     exact Zm (Zi none 0 1 (ZZ Zt)) (Z0 (ZQ ⟨(x2==2),ob,rfl,rfl⟩ (ZF 7 fl)))
    exact Z0 (ZQ ⟨false,ob,rfl,rfl⟩ (ZF 7 fl))
   rintro F h ⟨wc,kR17_0,rfl,rfl⟩
   refine XP (fun fz gz F h=>∃(eA:Z2),(GE g (f.params.length+2) 30 eA)/\F=sF [0,2,3,5,8,9,14,15,16] fz []/\h=[.obj b5 (YX eA),Zc gz 1,Zc gz 2,Zc gz 3,Zc gz 4,Zc gz 5,Zc gz 6]) ?_ ?_
   ·refine ac wc Iff.rfl (fun Xg=>?_) (fun Xg=>?_)
    ·exact az (Zz [] (Qa 0) (Z1 1 (Zz [] (Qa (f.params.length:Int)) (UJ [Y4 (Z2.mk 12 0 []),Y4 (Z2.mk 12 (f.params.length:Int) [])] (Yu [Z2.mk 12 0 [],(Z2.mk 12 (f.params.length:Int) [])]) (XM [Z2.mk 12 0 [],(Z2.mk 12 (f.params.length:Int) [])]).symm 2 3 fun v11=>ZT 0 [(98,XA [Z2.mk 12 0 [],(Z2.mk 12 (f.params.length:Int) [])])] (Zz [] (XR 11 0 [Z2.mk 12 0 [],(Z2.mk 12 (f.params.length:Int) [])]) (ZI 1 b5 (YX (Z2.mk 11 0 [Z2.mk 12 0 [],(Z2.mk 12 (f.params.length:Int) [])])) (ie (ZQ ⟨(Z2.mk 11 0 [Z2.mk 12 0 [],(Z2.mk 12 (f.params.length:Int) [])]),(GE.two (s1:=1) (s2:=1) om om (GE.var om om om) (GE.var om om om) om),rfl,rfl⟩ (wk [0,1,1,1,1,1,1] fl)))))))))
    exact ak (ZQ ⟨e1,Xe,rfl,rfl⟩ (ZF 7 fl))
   rintro F h ⟨eA,Z96,rfl,rfl⟩
   exact az (ZP 2 [0,4] (UJ [Y4 eA,Y4 (Z2.mk 9 i ys)] (Yu [eA,Z2.mk 9 i ys]) (XM [eA,Z2.mk 9 i ys]).symm 2 3 fun v12=>ZT 0 [(102,XA [eA,Z2.mk 9 i ys])] (Zz [] (XR 6 1 [eA,Z2.mk 9 i ys]) (ZI 4 b4 (YX (Z2.mk 6 1 [eA,Z2.mk 9 i ys])) (ie (ZQ ⟨(Z2.mk 6 1 [eA,Z2.mk 9 i ys]),p21,(GE.two (s1:=30) (s2:=10) om om Z96 (GE.node (L:=f.params.length) (s:=3) (q:=10) om (fun _=>by omega) om Zv om om om) om),ob,rfl,rfl⟩ (wk [0,5,5,2,2] fl)))))))
  refine Zw 3 [3] (Zm (Wp gb g.funcs.length 4 i.toNat 5 i) (Z1 1 (WS (Vm 5 gb 4 4 5 (i.toNat * 5+1) (Zo (Xs rs)) [.i f.result] 3 (.i f.result) (UI Wq hf 1 rfl (V8 rfl))) (YD (f.result==0) Zq (fun Xd=>?_) (fun Xd=>?_)))))
  ·refine aE 11 (ZK 6 11 [0,3,4,5,7] [3,1] (Z9 1 (dL 1 [1,3] [b3,b1] (Z6 [1,2]) 2 1 fun v13=>Yt 5 5 [] [(112,Z4 [1,2])] (Z9 2 (dc 2 [5] [1,3] [b3,b1] (VN rd bs p5 [1,2] (ZH:=ob)) ?_)))))
   rintro _ _ ⟨z1,rfl,rfl,Ut⟩
   have hz:=Bk (a:=1) (b:=2) Ut (by decide)
   refine Z9 6 (dc 6 [0,5] [1] [b3] (QP rd bs (p5+1) g gb rs (f.params++[0,1]) 0 4 (ZH:=ob) (hv:=(by first|omega|(simp only [Yq,YQ,Xu];omega)))) ?_)
   rintro _ _ ⟨e2,p22,rfl,rfl,T0⟩
   have Xe:=T0.1
   have QR:=T0.2
   try rw [Yq] at Xe
   rw [hbv.2.1] at Xe
   exact Z9 8 (WE 8 [] [] [Y4 e2,Y4 (Z2.mk 9 i ys)] (Yu [e2,Z2.mk 9 i ys]) (XM [e2,Z2.mk 9 i ys]).symm 2 3 fun v14=>Yt 2 2 [] [(119,XA [e2,Z2.mk 9 i ys])] (Z9 9 (Yp 9 [] [] [] (XR z1 0 [e2,Z2.mk 9 i ys]) (Z9 10 (YJ 10 4 [] [] b4 (YX (Z2.mk z1 0 [e2,Z2.mk 9 i ys])) (de (ZQ ⟨(Z2.mk z1 0 [e2,Z2.mk 9 i ys]),p22,(GE.two (s1:=30) (s2:=10) om om Xe (GE.node (L:=f.params.length) (s:=3) (q:=10) om (fun _=>by omega) om Zv om om om) om),ob,rfl,rfl⟩ (wk [0,5,5,1,1] fl))))))))
  exact ak (ZQ ⟨(Z2.mk 9 i ys),p5,(GE.le (GE.node (L:=f.params.length) (s:=3) (q:=10) om (fun _=>by omega) om Zv om om om) om),ob,rfl,rfl⟩ (wk [0,1,1,1,1] fl))
 rintro F h ⟨eQ,p6,QU,Z95,rfl,rfl⟩
 refine aD 16 (ZK 9 16 [0,2,3,4,5,6,7] [2,2] (dx 8 (Wp gb g.funcs.length 4 i.toNat 5 i) (Zj 7 8 [9] (Ua 10 (Vm 4 gb 4 4 5 (i.toNat * 5+1) (Zo (Xs rs)) [.i f.result] 3 (.i f.result) (UI Wq hf 1 rfl (V8 rfl))) (ZK 5 6 [12] [0] (Z9 1 (Yp 1 [] [0,4,2,2] [b4,gb,b1,b1] (Qa w) (Z9 11 (dc 11 [3,3] [0] [b4] (QP rd bs p6 g gb rs f.params f.result 4 (ZH:=ob) (hv:=(by first|omega|(simp only [Yq,YQ,Xu];omega)))) ?_)))))))))
 rintro _ _ ⟨e3,p23,rfl,rfl,T1⟩
 have Xe:=T1.1
 have QR:=T1.2
 try rw [Yq] at Xe
 rw [hbv.2.1] at Xe
 exact Z9 13 (WE 13 [] [] [Y4 (Z2.mk 12 w []),Y4 e3,Y4 eQ] (Yu [Z2.mk 12 w [],e3,eQ]) (XM [Z2.mk 12 w [],e3,eQ]).symm 3 3 fun v15=>Yt 2 2 [] [(134,XA [Z2.mk 12 w [],e3,eQ])] (Z9 14 (Yp 14 [] [] [] (XR 8 1 [Z2.mk 12 w [],e3,eQ]) (Z9 15 (YJ 15 4 [] [] b2 (YX (Z2.mk 8 1 [Z2.mk 12 w [],e3,eQ])) (de (ZD (r3 [2,2] [Y4 (Z2.mk 8 1 [Z2.mk 12 w [],e3,eQ])] [0] [(b2,b2)] ⟨(Z2.mk 8 1 [Z2.mk 12 w [],e3,eQ]),p23,rfl,rfl,⟨GE.matchL hg (s1:=1) (s2:=30) (s3:=41) (GE.var om om om) Xe QU om,by omega⟩⟩ (lr _)))))))))
theorem Z6s (rd:Nat) (bs:LI) (p:Nat) (g:Wa) (gb:Nat) (rs:List Func) (f:Func) (i:Int) (ZH:∀z∈bs,0<=z/\z<=255) (hp:p+1000<=1000000000:=by exact ob) (hg:GP g:=by exact ob) (Wq:g.funcs <+: rs:=by exact ob) (hi:0<=i:=by exact ob) (hf:g.funcs[i.toNat]? = some f:=by exact ob) (h0:0<f.params.length:=by exact ob):Zl 229 [.p rd 0,.agg (Wu g gb),.i i] [Yw rd bs p,XN gb rs] (fun r h=>∃(e:Z2) (p2:Nat),r=Y4 e/\h=[Yw rd bs p2,XN gb rs]/\GE g f.params.length 200 e/\p<=p2/\p2<=p+1000):=by
 obtain ⟨hil,_⟩:=Xc.1 hf
 have hgl:=hg.len
 have hso:=(hg.sigs f (ZX hf)).bd
 have hbv:=DG
 refine ZG 96 Tryz.func229 (ar (iA (Wu g gb) fun b1=>iA [.i 0,.i 0,nl] fun b2=>ie (Zw 3 [1] (Zm (Wp gb g.funcs.length 4 i.toNat 5 i) (Z1 1 (WS (Vm 3 gb 4 4 5 (i.toNat * 5+0) (Zo (Xs rs)) [Z4 f.params] 31 (Z4 f.params) (UI Wq hf 0 rfl (V8 rfl))) (Z0 (Y5 1 (iw (Y8 f.params) (Z0 (Y5 1 (Zz [] (Qa (f.params.length:Int)) (UJ [Y4 (Z2.mk 12 (f.params.length:Int) [])] (Yu [(Z2.mk 12 (f.params.length:Int) [])]) (XM [(Z2.mk 12 (f.params.length:Int) [])]).symm 1 3 fun v1=>Z0 (Y5 1 (ia (((f.params.length+2:Nat):Int)) (((f.params.length:Int))+(2)) (Zz [] (Qa ((f.params.length+2:Nat):Int)) (UJ [Y4 (Z2.mk 12 ((f.params.length+2:Nat):Int) [])] (Yu [(Z2.mk 12 ((f.params.length+2:Nat):Int) [])]) (XM [(Z2.mk 12 ((f.params.length+2:Nat):Int) [])]).symm 1 3 fun v2=>?_)))))))))))))))))
 refine Z0 (Y9 (ab 0 (Y2 (fun fz gz m F h=>∃(k:Nat) (ys:List Z2) (u:Value) (zs:List Z2) (w:Value),(1<=k/\k<=f.params.length)/\(ys.length=k)/\(zs.length=k)/\(∀e∈ys,GE g (f.params.length+3) 1 e)/\(∀e∈zs,GE g (f.params.length+3) 1 e)/\F=sF [0,2,4,6,7,8] fz [(9,Qt ys u),(10,Qt zs w),(11,.i k)]/\h=[Zc gz 2,Zc gz 3,Zc gz 4,Zc gz 5,.tail u 3,.tail w 3]/\m=f.params.length-k) _ _ _ ⟨1,[(Z2.mk 12 (f.params.length:Int) [])],v1,[(Z2.mk 12 ((f.params.length+2:Nat):Int) [])],v2,ob,ob,ob,(Hv (GE.var om om om)),(Hv (GE.var om om om)),rfl,rfl,rfl⟩ (wk [2,2,2,2,1,0] (fw (fc (x:=.i 1) li fl))) ?_)))
 rintro m F h ⟨k,ys,u,zs,w,Yf,Zh,Zv,Ys,XS,rfl,rfl,rfl⟩
 refine X1 (Y1 ((k:Int)<(f.params.length:Int)) (fun Za=>?_) (fun Za=>?_))
 ·exact ak (aq (ab 1 (Y5 2 (Zz [] (Qa (k:Int)) (UJ [Y4 (Z2.mk 12 (k:Int) [])] (Yu [(Z2.mk 12 (k:Int) [])]) (XM [(Z2.mk 12 (k:Int) [])]).symm 1 3 fun v3=>ZT 0 [(38,XA [(Z2.mk 12 (k:Int) [])])] (ip 5 (Yu (ys++[(Z2.mk 12 (k:Int) [])])) (Yu ys) (Yu [(Z2.mk 12 (k:Int) [])]) u none 3 (Te _) (Te _) (JM _) (by simp<;>omega) (by simp [JL,Yu]) fun v4=>Z0 (az (Z1 2 (Zz [] (Qa (k:Int)) (UJ [Y4 (Z2.mk 12 (k:Int) [])] (Yu [(Z2.mk 12 (k:Int) [])]) (XM [(Z2.mk 12 (k:Int) [])]).symm 1 3 fun v5=>ZT 0 [(43,XA [(Z2.mk 12 (k:Int) [])])] (ip 7 (Yu (zs++[(Z2.mk 12 (k:Int) [])])) (Yu zs) (Yu [(Z2.mk 12 (k:Int) [])]) w none 3 (Te _) (Te _) (JM _) (by simp<;>omega) (by simp [JL,Yu]) fun v6=>Z0 (az (Z1 1 (ZJ k (Z0 (ZL ⟨k+1,(ys++[(Z2.mk 12 (k:Int) [])]),v4,(zs++[(Z2.mk 12 (k:Int) [])]),v6,ob,ob,ob,(XC Ys (GE.var om om om)),(XC XS (GE.var om om om)),rfl,rfl,rfl⟩ (wk [4,4,4,4,2,0] (fw (ZO k fl)))))))))))))))))))
 refine ax 0 (ar (ZT 2 [(46,XA ys)] (Zz [] (XR 9 i ys) (iA [.i 0,.i 0,nl] fun b3=>ZI 0 b3 (YX (Z2.mk 9 i ys)) (ie (ar (ZT 2 [(49,XA zs)] (Zz [] (XR 9 i zs) (iA [.i 0,.i 0,nl] fun b4=>?_)))))))))
 refine ZI 0 b4 (YX (Z2.mk 9 i zs)) (ie (aD 14 (ZK 9 14 [0,1,2,3,7] [1,3,0] (KJ (fun fz gz F h=>∃(e1:Z2) (p21:Nat) (b5:Nat),(GE g (f.params++[3,0,3]).length (bS 4) e1/\p<=p21/\p21<=p+bC 4)/\F=sF [0,2,4,6,7,8,12] fz [(14,.p b5 0)]/\h=[.obj b5 (YX (Z2.mk 1 0 [Z2.mk 9 i ys,Z2.mk 1 0 [e1,Z2.mk 9 i zs]])),Yw rd bs p21,Zc gz 5,Zc gz 0,Zc gz 1,Zc gz 2,Zc gz 3,Zc gz 6,Zc gz 7]) ?_ ?_))))
 ·refine VC 4 12 ?_ ?_
  ·refine dL 4 [0,3,1] [b4,b1,b3] (Z6 [3,0,3]) 3 1 fun v7=>Yt 8 8 [] [(55,Z4 [3,0,3])] (VC 5 12 ?_ ?_)
   ·refine dc 5 [] [0,3,1] [b4,b1,b3] (K4 f.params [3,0,3]) ?_
    rintro _ _ ⟨v8,rfl,rfl⟩
    refine Yt 7 7 [] [(56,Z4 (f.params++[3,0,3]))] (VC 6 12 ?_ ?_)
    ·refine dc 6 [6,6] [0,1] [b4,b3] (QP rd bs p g gb rs (f.params++[3,0,3]) 0 4 (ZH:=ob) (hv:=(by first|omega|(simp only [Yq,YQ,Xu];omega)))) ?_
     rintro _ _ ⟨e1,p21,rfl,rfl,ZW⟩
     have Xe:=ZW.1
     have QR:=ZW.2
     try rw [Yq] at Xe
     rw [hbv.2.1] at Xe
     refine VC 8 12 ?_ ?_
     ·refine WE 8 [3] [b3] [Y4 e1,Y4 (Z2.mk 9 i zs)] (Yu [e1,Z2.mk 9 i zs]) (XM [e1,Z2.mk 9 i zs]).symm 2 3 fun v9=>Yt 5 5 [] [(59,XA [e1,Z2.mk 9 i zs])] (VC 9 12 ?_ ?_)
      ·refine Yp 9 [] [3] [b3] (XR 1 0 [e1,Z2.mk 9 i zs]) (VC 10 12 ?_ ?_)
       ·refine WE 10 [] [] [Y4 (Z2.mk 9 i ys),Y4 (Z2.mk 1 0 [e1,Z2.mk 9 i zs])] (Yu [Z2.mk 9 i ys,Z2.mk 1 0 [e1,Z2.mk 9 i zs]]) (XM [Z2.mk 9 i ys,Z2.mk 1 0 [e1,Z2.mk 9 i zs]]).symm 2 3 fun v10=>Yt 3 3 [] [(61,XA [Z2.mk 9 i ys,Z2.mk 1 0 [e1,Z2.mk 9 i zs]])] (VC 11 12 ?_ ?_)
        ·exact Yp 11 [] [] [] (XR 1 0 [Z2.mk 9 i ys,Z2.mk 1 0 [e1,Z2.mk 9 i zs]]) (Z9 12 (dA 12 [] [] [.i 0,.i 0,nl] fun b5=>Z9 13 (YJ 13 0 [] [] b5 (YX (Z2.mk 1 0 [Z2.mk 9 i ys,Z2.mk 1 0 [e1,Z2.mk 9 i zs]])) (de (ZQ ⟨e1,p21,b5,(by assumption),rfl,rfl⟩ (wk [0,2,2,4,4,4,4,4,4] fl))))))
        exact dA 12 [] [] [.i 0,.i 0,nl] fun b6=>Z9 11 (Yp 11 [] [] [] (XR 1 0 [Z2.mk 9 i ys,Z2.mk 1 0 [e1,Z2.mk 9 i zs]]) (Z9 13 (YJ 13 0 [] [] b6 (YX (Z2.mk 1 0 [Z2.mk 9 i ys,Z2.mk 1 0 [e1,Z2.mk 9 i zs]])) (de (ZQ ⟨e1,p21,b6,(by assumption),rfl,rfl⟩ (wk [0,2,2,4,4,4,4,4,4] fl))))))
       exact dA 12 [3] [b3] [.i 0,.i 0,nl] fun b7=>Z9 10 (WE 10 [] [] [Y4 (Z2.mk 9 i ys),Y4 (Z2.mk 1 0 [e1,Z2.mk 9 i zs])] (Yu [Z2.mk 9 i ys,Z2.mk 1 0 [e1,Z2.mk 9 i zs]]) (XM [Z2.mk 9 i ys,Z2.mk 1 0 [e1,Z2.mk 9 i zs]]).symm 2 3 fun v11=>Yt 2 2 [] [(61,XA [Z2.mk 9 i ys,Z2.mk 1 0 [e1,Z2.mk 9 i zs]])] (Z9 11 (Yp 11 [] [] [] (XR 1 0 [Z2.mk 9 i ys,Z2.mk 1 0 [e1,Z2.mk 9 i zs]]) (Z9 13 (YJ 13 1 [] [] b7 (YX (Z2.mk 1 0 [Z2.mk 9 i ys,Z2.mk 1 0 [e1,Z2.mk 9 i zs]])) (de (ZQ ⟨e1,p21,b7,(by assumption),rfl,rfl⟩ (wk [0,2,2,4,4,4,4,4,4] fl))))))))
      exact dA 12 [3] [b3] [.i 0,.i 0,nl] fun b8=>Z9 9 (Yp 9 [] [4] [b3] (XR 1 0 [e1,Z2.mk 9 i zs]) (Z9 10 (WE 10 [] [] [Y4 (Z2.mk 9 i ys),Y4 (Z2.mk 1 0 [e1,Z2.mk 9 i zs])] (Yu [Z2.mk 9 i ys,Z2.mk 1 0 [e1,Z2.mk 9 i zs]]) (XM [Z2.mk 9 i ys,Z2.mk 1 0 [e1,Z2.mk 9 i zs]]).symm 2 3 fun v12=>Yt 2 2 [] [(61,XA [Z2.mk 9 i ys,Z2.mk 1 0 [e1,Z2.mk 9 i zs]])] (Z9 11 (Yp 11 [] [] [] (XR 1 0 [Z2.mk 9 i ys,Z2.mk 1 0 [e1,Z2.mk 9 i zs]]) (Z9 13 (YJ 13 1 [] [] b8 (YX (Z2.mk 1 0 [Z2.mk 9 i ys,Z2.mk 1 0 [e1,Z2.mk 9 i zs]])) (de (ZQ ⟨e1,p21,b8,(by assumption),rfl,rfl⟩ (wk [0,2,2,4,4,4,4,4,4] fl))))))))))
     exact dA 12 [2,3] [b4,b3] [.i 0,.i 0,nl] fun b9=>Z9 8 (WE 8 [4] [b3] [Y4 e1,Y4 (Z2.mk 9 i zs)] (Yu [e1,Z2.mk 9 i zs]) (XM [e1,Z2.mk 9 i zs]).symm 2 3 fun v13=>Yt 4 4 [] [(59,XA [e1,Z2.mk 9 i zs])] (Z9 9 (Yp 9 [] [4] [b3] (XR 1 0 [e1,Z2.mk 9 i zs]) (Z9 10 (WE 10 [] [] [Y4 (Z2.mk 9 i ys),Y4 (Z2.mk 1 0 [e1,Z2.mk 9 i zs])] (Yu [Z2.mk 9 i ys,Z2.mk 1 0 [e1,Z2.mk 9 i zs]]) (XM [Z2.mk 9 i ys,Z2.mk 1 0 [e1,Z2.mk 9 i zs]]).symm 2 3 fun v14=>Yt 2 2 [] [(61,XA [Z2.mk 9 i ys,Z2.mk 1 0 [e1,Z2.mk 9 i zs]])] (Z9 11 (Yp 11 [] [] [] (XR 1 0 [Z2.mk 9 i ys,Z2.mk 1 0 [e1,Z2.mk 9 i zs]]) (Z9 13 (YJ 13 2 [] [] b9 (YX (Z2.mk 1 0 [Z2.mk 9 i ys,Z2.mk 1 0 [e1,Z2.mk 9 i zs]])) (de (ZQ ⟨e1,p21,b9,(by assumption),rfl,rfl⟩ (wk [0,2,2,4,4,4,4,4,4] fl))))))))))))
    refine dA 12 [0,3,1] [b4,b1,b3] [.i 0,.i 0,nl] fun b10=>Z9 6 (dc 6 [7,7] [1,2] [b4,b3] (QP rd bs p g gb rs (f.params++[3,0,3]) 0 4 (ZH:=ob) (hv:=(by first|omega|(simp only [Yq,YQ,Xu];omega)))) ?_)
    rintro _ _ ⟨e2,p22,rfl,rfl,Yh⟩
    have Xe:=Yh.1
    have QR:=Yh.2
    try rw [Yq] at Xe
    rw [hbv.2.1] at Xe
    exact Z9 8 (WE 8 [4] [b3] [Y4 e2,Y4 (Z2.mk 9 i zs)] (Yu [e2,Z2.mk 9 i zs]) (XM [e2,Z2.mk 9 i zs]).symm 2 3 fun v15=>Yt 4 4 [] [(59,XA [e2,Z2.mk 9 i zs])] (Z9 9 (Yp 9 [] [4] [b3] (XR 1 0 [e2,Z2.mk 9 i zs]) (Z9 10 (WE 10 [] [] [Y4 (Z2.mk 9 i ys),Y4 (Z2.mk 1 0 [e2,Z2.mk 9 i zs])] (Yu [Z2.mk 9 i ys,Z2.mk 1 0 [e2,Z2.mk 9 i zs]]) (XM [Z2.mk 9 i ys,Z2.mk 1 0 [e2,Z2.mk 9 i zs]]).symm 2 3 fun v16=>Yt 2 2 [] [(61,XA [Z2.mk 9 i ys,Z2.mk 1 0 [e2,Z2.mk 9 i zs]])] (Z9 11 (Yp 11 [] [] [] (XR 1 0 [Z2.mk 9 i ys,Z2.mk 1 0 [e2,Z2.mk 9 i zs]]) (Z9 13 (YJ 13 4 [] [] b10 (YX (Z2.mk 1 0 [Z2.mk 9 i ys,Z2.mk 1 0 [e2,Z2.mk 9 i zs]])) (de (ZQ ⟨e2,p22,b10,(by assumption),rfl,rfl⟩ (wk [0,2,2,4,4,4,4,4,4] fl))))))))))))
   refine dA 12 [0,3,1] [b4,b1,b3] [.i 0,.i 0,nl] fun b11=>Z9 5 (dc 5 [] [1,4,2] [b4,b1,b3] (K4 f.params [3,0,3]) ?_)
   rintro _ _ ⟨v17,rfl,rfl⟩
   refine Yt 6 6 [] [(56,Z4 (f.params++[3,0,3]))] (Z9 6 (dc 6 [7,7] [1,2] [b4,b3] (QP rd bs p g gb rs (f.params++[3,0,3]) 0 4 (ZH:=ob) (hv:=(by first|omega|(simp only [Yq,YQ,Xu];omega)))) ?_))
   rintro _ _ ⟨e3,p23,rfl,rfl,YE⟩
   have Xe:=YE.1
   have QR:=YE.2
   try rw [Yq] at Xe
   rw [hbv.2.1] at Xe
   exact Z9 8 (WE 8 [4] [b3] [Y4 e3,Y4 (Z2.mk 9 i zs)] (Yu [e3,Z2.mk 9 i zs]) (XM [e3,Z2.mk 9 i zs]).symm 2 3 fun v18=>Yt 4 4 [] [(59,XA [e3,Z2.mk 9 i zs])] (Z9 9 (Yp 9 [] [4] [b3] (XR 1 0 [e3,Z2.mk 9 i zs]) (Z9 10 (WE 10 [] [] [Y4 (Z2.mk 9 i ys),Y4 (Z2.mk 1 0 [e3,Z2.mk 9 i zs])] (Yu [Z2.mk 9 i ys,Z2.mk 1 0 [e3,Z2.mk 9 i zs]]) (XM [Z2.mk 9 i ys,Z2.mk 1 0 [e3,Z2.mk 9 i zs]]).symm 2 3 fun v19=>Yt 2 2 [] [(61,XA [Z2.mk 9 i ys,Z2.mk 1 0 [e3,Z2.mk 9 i zs]])] (Z9 11 (Yp 11 [] [] [] (XR 1 0 [Z2.mk 9 i ys,Z2.mk 1 0 [e3,Z2.mk 9 i zs]]) (Z9 13 (YJ 13 5 [] [] b11 (YX (Z2.mk 1 0 [Z2.mk 9 i ys,Z2.mk 1 0 [e3,Z2.mk 9 i zs]])) (de (ZQ ⟨e3,p23,b11,(by assumption),rfl,rfl⟩ (wk [0,2,2,4,4,4,4,4,4] fl))))))))))))
  refine dA 12 [0,3,1] [b4,b1,b3] [.i 0,.i 0,nl] fun b12=>Z9 4 (dL 4 [1,4,2] [b4,b1,b3] (Z6 [3,0,3]) 3 1 fun v20=>Yt 7 7 [] [(55,Z4 [3,0,3])] (Z9 5 (dc 5 [] [1,4,2] [b4,b1,b3] (K4 f.params [3,0,3]) ?_)))
  rintro _ _ ⟨v21,rfl,rfl⟩
  refine Yt 6 6 [] [(56,Z4 (f.params++[3,0,3]))] (Z9 6 (dc 6 [7,7] [1,2] [b4,b3] (QP rd bs p g gb rs (f.params++[3,0,3]) 0 4 (ZH:=ob) (hv:=(by first|omega|(simp only [Yq,YQ,Xu];omega)))) ?_))
  rintro _ _ ⟨e4,p24,rfl,rfl,YK⟩
  have Xe:=YK.1
  have QR:=YK.2
  try rw [Yq] at Xe
  rw [hbv.2.1] at Xe
  exact Z9 8 (WE 8 [4] [b3] [Y4 e4,Y4 (Z2.mk 9 i zs)] (Yu [e4,Z2.mk 9 i zs]) (XM [e4,Z2.mk 9 i zs]).symm 2 3 fun v22=>Yt 4 4 [] [(59,XA [e4,Z2.mk 9 i zs])] (Z9 9 (Yp 9 [] [4] [b3] (XR 1 0 [e4,Z2.mk 9 i zs]) (Z9 10 (WE 10 [] [] [Y4 (Z2.mk 9 i ys),Y4 (Z2.mk 1 0 [e4,Z2.mk 9 i zs])] (Yu [Z2.mk 9 i ys,Z2.mk 1 0 [e4,Z2.mk 9 i zs]]) (XM [Z2.mk 9 i ys,Z2.mk 1 0 [e4,Z2.mk 9 i zs]]).symm 2 3 fun v23=>Yt 2 2 [] [(61,XA [Z2.mk 9 i ys,Z2.mk 1 0 [e4,Z2.mk 9 i zs]])] (Z9 11 (Yp 11 [] [] [] (XR 1 0 [Z2.mk 9 i ys,Z2.mk 1 0 [e4,Z2.mk 9 i zs]]) (Z9 13 (YJ 13 6 [] [] b12 (YX (Z2.mk 1 0 [Z2.mk 9 i ys,Z2.mk 1 0 [e4,Z2.mk 9 i zs]])) (de (ZQ ⟨e4,p24,b12,(by assumption),rfl,rfl⟩ (wk [0,2,2,4,4,4,4,4,4] fl))))))))))))
 rintro F h ⟨e1,p21,b5,ZW,rfl,rfl⟩
 have Xe:=ZW.1
 have QR:=ZW.2
 try rw [Yq] at Xe
 rw [hbv.2.1] at Xe
 refine Yi 3 [6] (Zm (Wp gb g.funcs.length 4 i.toNat 5 i) (Z1 1 (WS (Vm 2 gb 4 4 5 (i.toNat * 5+1) (Zo (Xs rs)) [.i f.result] 3 (.i f.result) (UI Wq hf 1 rfl (V8 rfl))) (Z0 (XP (fun fz gz F h=>∃(eQ:Z2) (p6:Nat),(GE g (f.params.length+3) 52 eQ)/\(p<=p6/\p6<=p+650)/\F=sF [0,2,4,6,7,14] fz []/\h=[.obj b5 (YX eQ),Yw rd bs p6,Zc gz 2,Zc gz 5,Zc gz 6]) ?_ ?_)))))
 ·refine ac (f.result==3) Zq (fun Ze=>?_) (fun Ze=>?_)
  ·refine aE 13 (ZK 8 13 [0,1,2,3,7] [4,6] (da 8 (((f.params.length+2:Nat):Int)) (((f.params.length:Int))+(2)) (Z9 4 (dL 4 [6,4] [b1,b3] (Z6 [3,0,3]) 3 1 fun v24=>Yt 6 6 [] [(74,Z4 [3,0,3])] (Z9 5 (dc 5 [] [6,4] [b1,b3] (K4 f.params [3,0,3]) ?_))))))
   rintro _ _ ⟨v25,rfl,rfl⟩
   refine Yt 5 5 [] [(75,Z4 (f.params++[3,0,3]))] (Z9 6 (dc 6 [3,3] [2] [b3] (QP rd bs p21 g gb rs (f.params++[3,0,3]) 0 4 (ZH:=ob) (hv:=(by first|omega|(simp only [Yq,YQ,Xu];omega)))) ?_))
   rintro _ _ ⟨e5,p25,rfl,rfl,X9⟩
   have Xe:=X9.1
   have QR:=X9.2
   try rw [Yq] at Xe
   rw [hbv.2.1] at Xe
   exact Z9 9 (Yp 9 [] [4] [b3] (Qa ((f.params.length+2:Nat):Int)) (Z9 10 (WE 10 [] [] [Y4 (Z2.mk 9 i ys),Y4 e5,Y4 (Z2.mk 12 ((f.params.length+2:Nat):Int) [])] (Yu [Z2.mk 9 i ys,e5,(Z2.mk 12 ((f.params.length+2:Nat):Int) [])]) (XM [Z2.mk 9 i ys,e5,(Z2.mk 12 ((f.params.length+2:Nat):Int) [])]).symm 3 3 fun v26=>Yt 2 2 [] [(80,XA [Z2.mk 9 i ys,e5,(Z2.mk 12 ((f.params.length+2:Nat):Int) [])])] (Z9 11 (Yp 11 [] [] [] (XR 6 3 [Z2.mk 9 i ys,e5,(Z2.mk 12 ((f.params.length+2:Nat):Int) [])]) (Z9 12 (YJ 12 5 [] [] b5 (YX (Z2.mk 6 3 [Z2.mk 9 i ys,e5,(Z2.mk 12 ((f.params.length+2:Nat):Int) [])])) (de (ZQ ⟨(Z2.mk 6 3 [Z2.mk 9 i ys,e5,(Z2.mk 12 ((f.params.length+2:Nat):Int) [])]),p25,(GE.three (s1:=10) (s2:=30) (s3:=1) om om (GE.node (L:=f.params.length) (s:=1) (q:=10) om (fun _=>by omega) om Ys om om om) Xe (GE.var om om om) om),ob,rfl,rfl⟩ (wk [0,1,1,5,5] fl))))))))))
  exact ak (ZQ ⟨(Z2.mk 1 0 [Z2.mk 9 i ys,Z2.mk 1 0 [e1,Z2.mk 9 i zs]]),p21,(GE.two (s1:=10) (s2:=41) om om (GE.node (L:=f.params.length) (s:=1) (q:=10) om (fun _=>by omega) om Ys om om om) (GE.two (s1:=30) (s2:=10) om om Xe (GE.node (L:=f.params.length) (s:=1) (q:=10) om (fun _=>by omega) om XS om om om) om) om),ob,rfl,rfl⟩ (wk [0,0,0,2,2] fl))
 rintro F h ⟨eQ,p6,U2,At,rfl,rfl⟩
 refine aD 15 (ZK 9 15 [1,2,3,4,5,6] [4,4] (dx 7 (Wp gb g.funcs.length 4 i.toNat 5 i) (Zj 7 8 [8] (Ua 9 (Vm 2 gb 4 4 5 (i.toNat * 5+1) (Zo (Xs rs)) [.i f.result] 3 (.i f.result) (UI Wq hf 1 rfl (V8 rfl))) (ZK 5 6 [11] [0] (Z9 0 (Yp 0 [] [0,2,4,4] [b5,gb,b1,b1] (Qa 0) (Z9 10 (dc 10 [1,1] [0] [b5] (QP rd bs p6 g gb rs f.params f.result 4 (ZH:=ob) (hv:=(by first|omega|(simp only [Yq,YQ,Xu];omega)))) ?_)))))))))
 rintro _ _ ⟨e6,p26,rfl,rfl,XK⟩
 have Xe:=XK.1
 have QR:=XK.2
 try rw [Yq] at Xe
 rw [hbv.2.1] at Xe
 exact Z9 12 (WE 12 [] [] [Y4 (Z2.mk 12 0 []),Y4 e6,Y4 eQ] (Yu [Z2.mk 12 0 [],e6,eQ]) (XM [Z2.mk 12 0 [],e6,eQ]).symm 3 3 fun v27=>Yt 2 2 [] [(94,XA [Z2.mk 12 0 [],e6,eQ])] (Z9 13 (Yp 13 [] [] [] (XR 8 3 [Z2.mk 12 0 [],e6,eQ]) (Z9 14 (YJ 14 4 [] [] b2 (YX (Z2.mk 8 3 [Z2.mk 12 0 [],e6,eQ])) (de (ZD (r3 [2,2] [Y4 (Z2.mk 8 3 [Z2.mk 12 0 [],e6,eQ])] [0] [(b2,b2)] ⟨(Z2.mk 8 3 [Z2.mk 12 0 [],e6,eQ]),p26,rfl,rfl,⟨GE.matchT hg (s1:=1) (s2:=30) (s3:=52) (GE.var om om om) Xe U2 om,by omega⟩⟩ (lr _)))))))))
theorem Z5z (rd:Nat) (bs:LI) (p:Nat) (g:Wa) (gb:Nat) (rs:List Func) (f:Func) (i:Int) (ZH:∀z∈bs,0<=z/\z<=255) (hp:p+1000<=1000000000:=by exact ob) (hg:GP g:=by exact ob) (Wq:g.funcs <+: rs:=by exact ob) (hi:0<=i:=by exact ob) (hf:g.funcs[i.toNat]? = some f:=by exact ob) (h0:0<f.params.length:=by exact ob):Zl 230 [.p rd 0,.agg (Wu g gb),.i i] [Yw rd bs p,XN gb rs] (fun r h=>∃(e:Z2) (p2:Nat),r=Y4 e/\h=[Yw rd bs p2,XN gb rs]/\GE g f.params.length 200 e/\p<=p2/\p2<=p+1000):=by
 obtain ⟨hil,_⟩:=Xc.1 hf
 have hgl:=hg.len
 have hso:=(hg.sigs f (ZX hf)).bd
 have hbv:=DG
 refine ZG 75 Tryz.func230 (ar (iA (Wu g gb) fun b1=>iA [.i 0,.i 0,nl] fun b2=>ie (Zw 3 [1] (Zm (Wp gb g.funcs.length 4 i.toNat 5 i) (Z1 1 (WS (Vm 3 gb 4 4 5 (i.toNat * 5+0) (Zo (Xs rs)) [Z4 f.params] 31 (Z4 f.params) (UI Wq hf 0 rfl (V8 rfl))) (Z0 (ar (Zz [] (Qa 0) (Zz [] (Am 1) (UJ [Y4 (Z2.mk 12 0 []),Y4 (Z2.mk 0 1 [])] (Yu [Z2.mk 12 0 [],Z2.mk 0 1 []]) (XM [Z2.mk 12 0 [],Z2.mk 0 1 []]).symm 2 3 fun v1=>ZT 0 [(20,XA [Z2.mk 12 0 [],Z2.mk 0 1 []])] (Zz [] (XR 2 0 [Z2.mk 12 0 [],Z2.mk 0 1 []]) (UJ [Y4 (Z2.mk 2 0 [Z2.mk 12 0 [],Z2.mk 0 1 []])] (Yu [Z2.mk 2 0 [Z2.mk 12 0 [],Z2.mk 0 1 []]]) (XM [Z2.mk 2 0 [Z2.mk 12 0 [],Z2.mk 0 1 []]]).symm 1 3 fun v2=>?_)))))))))))))
 refine Z0 (Y9 (ab 0 (Y2 (fun fz gz m F h=>∃(k:Nat) (ys:List Z2) (u:Value) (pq:Nat),(1<=k/\k<=f.params.length)/\(ys.length=k)/\(∀e∈ys,GE g f.params.length 4 e)/\(p<=pq/\pq<=p+30*k)/\F=sF [0,2,4,6,7] fz [(8,Qt ys u),(9,.i k)]/\h=[Zc gz 2,Zc gz 3,Yw rd bs pq,Zc gz 5,.tail u 3]/\m=f.params.length-k) _ _ _ ⟨1,[Z2.mk 2 0 [Z2.mk 12 0 [],Z2.mk 0 1 []]],v2,p,ob,ob,(Hv (GE.two (s1:=1) (s2:=1) om om (GE.var om om om) (GE.int om om) om)),ob,rfl,rfl,rfl⟩ (wk [2,2,2,2,0] (fr (fc (x:=.i 1) li fl))) ?_)))
 rintro m F h ⟨k,ys,u,pq,Yf,Zh,Zv,Ys,rfl,rfl,rfl⟩
 refine YF 2 (iw (Y8 f.params) (Y1 ((k:Int)<(f.params.length:Int)) (fun Za=>?_) (fun Za=>?_)))
 ·refine ak (aq (ab 1 (aE 12 (ZK 6 12 [0,1,2,3,4,5] [1] ?_))))
  obtain ⟨x1,Z3⟩:=Zs f.params k om
  refine dx 6 (Zi none (k:Int) 1 (ZZ Z3)) (Zj 4 5 [7] (Z9 8 (dc 8 [2,2] [] [] (CS rd bs pq g gb rs f.params x1 (ZH:=ob)) ?_)))
  rintro _ _ ⟨e1,p21,rfl,rfl,ZW⟩
  have hle:=ZW.1
  exact Z9 9 (WE 9 [] [] [Y4 e1] (Yu [e1]) (XM [e1]).symm 1 3 fun v3=>Yt 2 2 [] [(38,XA [e1])] (Z9 10 (dp 10 5 [] [] (Yu (ys++[e1])) (Yu ys) (Yu [e1]) u none 3 (Te _) (Te _) (JM _) (by simp<;>omega) (by simp [JL,Yu]) fun v4=>Zj 0 1 [11] (de (az (Z1 1 (ZJ k (Z0 (ZL ⟨k+1,(ys++[e1]),v4,p21,ob,ob,(XC Zv hle),ob,rfl,rfl,rfl⟩ (wk [4,4,2,2,0] (fr (ZO k fl))))))))))))
 refine ax 0 (ar (ZT 2 [(41,XA ys)] (Zz [] (XR 9 i ys) (iA [.i 0,.i 0,nl] fun b3=>?_))))
 refine ZI 0 b3 (YX (Z2.mk 9 i ys)) (ie (Yi 3 [2] (Zm (Wp gb g.funcs.length 4 i.toNat 5 i) (Z1 1 (WS (Vm 4 gb 4 4 5 (i.toNat * 5+1) (Zo (Xs rs)) [.i f.result] 3 (.i f.result) (UI Wq hf 1 rfl (V8 rfl))) (Z0 (XP (fun fz gz F h=>∃(eQ:Z2) (p6:Nat),(GE g f.params.length 34 eQ)/\(p<=p6/\p6<=p+350)/\F=sF [0,2,4,6,7,10] fz []/\h=[.obj b3 (YX eQ),Zc gz 1,Zc gz 2,Yw rd bs p6,Zc gz 4]) ?_ ?_)))))))
 ·refine ac (f.result==1) Zq (fun Ze=>?_) (fun Ze=>?_)
  ·refine aE 8 (ZK 4 8 [0,1,2,4] [2,0] (Z9 3 (dc 3 [3,3] [0] [b3] (QP rd bs pq g gb rs f.params 0 3 (ZH:=ob)) ?_)))
   rintro _ _ ⟨e2,p22,rfl,rfl,Yh⟩
   have Xe:=Yh.1
   have QR:=Yh.2
   try rw [Yq] at Xe
   first|rw [hbv.2.1] at Xe|rw [hbv.1] at Xe
   exact Z9 5 (WE 5 [] [] [Y4 e2,Y4 (Z2.mk 9 i ys)] (Yu [e2,Z2.mk 9 i ys]) (XM [e2,Z2.mk 9 i ys]).symm 2 3 fun v5=>Yt 2 2 [] [(55,XA [e2,Z2.mk 9 i ys])] (Z9 6 (Yp 6 [] [] [] (XR 6 1 [e2,Z2.mk 9 i ys]) (Z9 7 (YJ 7 3 [] [] b3 (YX (Z2.mk 6 1 [e2,Z2.mk 9 i ys])) (de (ZQ ⟨(Z2.mk 6 1 [e2,Z2.mk 9 i ys]),p22,(GE.two (s1:=20) (s2:=13) om om Xe (GE.node (L:=f.params.length) (s:=4) (q:=13) om (fun _=>by omega) om Zv om om om) om),ob,rfl,rfl⟩ (wk [0,3,3,1,1] fl))))))))
  exact ak (ZQ ⟨(Z2.mk 9 i ys),pq,(GE.le (GE.node (L:=f.params.length) (s:=4) (q:=13) om (fun _=>by omega) om Zv om om om) om),ob,rfl,rfl⟩ (ZF 5 fl))
 rintro F h ⟨eQ,p6,U2,At,rfl,rfl⟩
 refine ar (Zz [] (Am 0) (Zz [] (Qa 0) (UJ [Y4 (Z2.mk 0 0 []),Y4 (Z2.mk 12 0 [])] (Yu [Z2.mk 0 0 [],Z2.mk 12 0 []]) (XM [Z2.mk 0 0 [],Z2.mk 12 0 []]).symm 2 3 fun v6=>ZT 0 [(59,XA [Z2.mk 0 0 [],Z2.mk 12 0 []])] (Zz [] (XR 4 0 [Z2.mk 0 0 [],Z2.mk 12 0 []]) (iA [.i 0,.i 0,nl] fun b4=>ZI 0 b4 (YX (Z2.mk 4 0 [Z2.mk 0 0 [],Z2.mk 12 0 []])) (ie (aD 15 (ZK 7 15 [0,1,2,3,4,5,6,7] [0,2,4,4] (dx 8 (Wp gb g.funcs.length 4 i.toNat 5 i) (Zj 5 6 [9] (Ua 10 (Vm 6 gb 4 4 5 (i.toNat * 5+1) (Zo (Xs rs)) [.i f.result] 3 (.i f.result) (UI Wq hf 1 rfl (V8 rfl))) (Z9 11 (dc 11 [5,5] [1,0] [b3,b4] (QP rd bs p6 g gb rs f.params f.result 4 (ZH:=ob)) ?_)))))))))))))
 rintro _ _ ⟨e3,p23,rfl,rfl,YE⟩
 have Xe:=YE.1
 have QR:=YE.2
 try rw [Yq] at Xe
 first|rw [hbv.2.1] at Xe|rw [hbv.1] at Xe
 exact Z9 12 (WE 12 [] [] [Y4 (Z2.mk 4 0 [Z2.mk 0 0 [],Z2.mk 12 0 []]),Y4 eQ,Y4 e3] (Yu [Z2.mk 4 0 [Z2.mk 0 0 [],Z2.mk 12 0 []],eQ,e3]) (XM [Z2.mk 4 0 [Z2.mk 0 0 [],Z2.mk 12 0 []],eQ,e3]).symm 3 3 fun v7=>Yt 2 2 [] [(73,XA [Z2.mk 4 0 [Z2.mk 0 0 [],Z2.mk 12 0 []],eQ,e3])] (Z9 13 (Yp 13 [] [] [] (XR 7 0 [Z2.mk 4 0 [Z2.mk 0 0 [],Z2.mk 12 0 []],eQ,e3]) (Z9 14 (YJ 14 6 [] [] b2 (YX (Z2.mk 7 0 [Z2.mk 4 0 [Z2.mk 0 0 [],Z2.mk 12 0 []],eQ,e3])) (de (ZD (r3 [2,2] [Y4 (Z2.mk 7 0 [Z2.mk 4 0 [Z2.mk 0 0 [],Z2.mk 12 0 []],eQ,e3])] [0] [(b2,b2)] ⟨(Z2.mk 7 0 [Z2.mk 4 0 [Z2.mk 0 0 [],Z2.mk 12 0 []],eQ,e3]),p23,rfl,rfl,⟨GE.three (s1:=3) (s2:=34) (s3:=30) om om (GE.two (s1:=1) (s2:=1) om om (GE.int om om) (GE.var om om om) om) U2 Xe om,by omega⟩⟩ (lr _)))))))))
theorem Z6w (xs:LI) (t:Int) (hl:xs.length<=1000:=by exact ob):Zl 225 [Z4 xs,.i t] [] (fun r h=>∃(w:Int),r=.i w/\h=[]/\-1<=w/\w<xs.length):=by
 refine ZG 19 Tryz.func225 (ZE (Y9 (ab 0 (Y2 (fun fz gz m F h=>∃(k:Nat),(k<=xs.length)/\F=sF [0,1] fz [(5,.i k)]/\h=gz/\m=xs.length-k) _ _ _ ⟨0,ob,rfl,rfl,rfl⟩ (wk [] (Ya fl)) ?_))))
 rintro m F h ⟨k,Yf,rfl,rfl,rfl⟩
 refine YF 2 (iw (Y8 xs) (Y1 ((k:Int)<(xs.length:Int)) (fun Za=>?_) (fun Za=>?_)))
 ·refine ak (aq (ab 1 (Y5 2 ?_)))
  obtain ⟨x1,Z3⟩:=Zs xs k om
  refine Zm (Zi none (k:Int) 1 (ZZ Z3)) (YD (x1==t) Zq (fun Ze=>?_) (fun Ze=>?_))
  ·exact ar (Zr (r1 [] ⟨(k:Int),rfl,rfl,ob⟩))
  exact ak (az (Z1 1 (ZJ k (Z0 (ZL ⟨k+1,ob,rfl,rfl,rfl⟩ (wk [] (ZO k fl)))))))
 exact ax 0 (ar (Zr (r1 [] ⟨(-1),rfl,rfl,ob⟩)))
theorem Z5h (rd:Nat) (bs:LI) (p:Nat) (g:Wa) (gb:Nat) (rs:List Func) (f:Func) (i:Int) (ZH:∀z∈bs,0<=z/\z<=255) (hp:p+90000<=1000000000) (hg:GP g) (Wq:g.funcs <+: rs) (hi:0<=i) (hf:g.funcs[i.toNat]? = some f) (h0:i=0->f.params.length=0):Zl 177 [.p rd 0,.agg (Wu g gb),.i i] [Yw rd bs p,XN gb rs] (fun r h=>∃(e:Z2) (p2:Nat),r=Y4 e/\h=[Yw rd bs p2,XN gb rs]/\GE g f.params.length 30 e/\p<=p2/\p2<=p+90000):=by
 obtain ⟨hil,_⟩:=Xc.1 hf
 have hgl:=hg.len
 have hso:=(hg.sigs f (ZX hf)).bd
 have hbv:=DG
 refine ZG 121 Tryz.func177 (ar (iA (Wu g gb) fun b1=>iA [.i 0,.i 0,nl] fun b2=>ie (Zw 3 [1] (Zm (Wp gb g.funcs.length 4 i.toNat 5 i) (Z1 1 (WS (Vm 3 gb 4 4 5 (i.toNat * 5+0) (Zo (Xs rs)) [Z4 f.params] 31 (Z4 f.params) (UI Wq hf 0 rfl (V8 rfl))) (Z0 (Zw 3 [1] (Zm (Wp gb g.funcs.length 4 i.toNat 5 i) (Z1 1 (WS (Vm 3 gb 4 4 5 (i.toNat * 5+1) (Zo (Xs rs)) [.i f.result] 3 (.i f.result) (UI Wq hf 1 rfl (V8 rfl))) (Z0 (Y5 1 (ic [] (Z6w f.params 1) ?_))))))))))))))
 rintro _ _ ⟨w1,rfl,rfl,ZW⟩
 have hpl:=ZW
 refine Z0 (ar (Zz [] (Am 0) (iA [.i 0,.i 0,nl] fun b3=>ZI 0 b3 (YX (Z2.mk 0 0 [])) (ie (Y5 1 (ic [3] (W8 rd bs p 4 (ZH:=ob)) ?_))))))
 rintro _ _ ⟨k1,rfl,rfl,Yh⟩
 have qhp2:=Yh.lt om
 refine Z0 (aq (aq (XP (fun fz gz F h=>∃(wb:Bool),(wb=true->i=0)/\F=sF [0,2,4,6,7,8,9,10,11] fz [(34,.b wb)]/\h=gz) ?_ ?_)))
 ·refine az (Z1 3 (ib (b:=(decide (k1<3))) 31 (fun Zb=>?_) (fun Zb=>?_)))
  ·have YE:k1<3:=(dq).1 Zb
   exact Z0 (ZQ ⟨(i==0),(by first|exact (fun h=>Bool.noConfusion h)|(intro h;omega)|(intro h;simp at h;omega)),rfl,rfl⟩ (ZF 5 fl))
  have YK:¬(k1<3):=Yd dq Zb
  exact Z0 (ZQ ⟨false,(by first|exact (fun h=>Bool.noConfusion h)|(intro h;omega)|(intro h;simp at h;omega)),rfl,rfl⟩ (ZF 5 fl))
 rintro F h ⟨wb,kR6_0,rfl,rfl⟩
 refine XP (fun fz gz F h=>∃(eQ:Z2) (p6:Nat),(GE g f.params.length 200 eQ)/\(p<=p6/\p6<=p+42000)/\F=sF [0,4,6,7,8,10] fz []/\h=[Yw rd bs p6,.obj b3 (YX eQ),Zc gz 2,Zc gz 3,Zc gz 4]) ?_ ?_
 ·refine ac wb Iff.rfl (fun Za=>?_) (fun Za=>?_)
  ·refine az (ZP 2 [3] (ic [0,3] (Z6j rd bs (p+1) g gb rs (ZH:=ob)) ?_))
   rintro _ _ ⟨e1,p21,rfl,rfl,X9⟩
   have hbd:=X9.1
   have hbp:=X9.2
   exact ZI 2 b3 (YX e1) (ie (ZQ ⟨e1,p21,(by rw [h0 (kR6_0 (by assumption))];exact hbd),ob,rfl,rfl⟩ (wk [1,0,1,1,0] fl)))
  refine aq (XP (fun fz gz F h=>∃(wb:Bool),(wb=true->0<=w1)/\F=sF [0,2,4,6,7,8,9,10,11] fz [(51,.b wb)]/\h=gz) ?_ ?_)
  ·refine az (Z1 3 (ib (b:=(decide (k1<3))) 40 (fun ZA=>?_) (fun ZA=>?_)))
   ·have XK:k1<3:=(dq).1 ZA
    refine Z1 4 (ib (b:=(decide (w1>=0))) 44 (fun YA=>?_) (fun YA=>?_))
    ·have Wo:w1>=0:=(dq).1 YA
     refine Z1 3 (ib (b:=(f.result==0)) 47 (fun Xq=>?_) (fun Xq=>?_))
     ·have WR:f.result=0:=(Zq).1 Xq
      exact Z0 (ZQ ⟨true,(by first|exact (fun h=>Bool.noConfusion h)|(intro h;omega)|(intro h;simp at h;omega)),rfl,rfl⟩ (ZF 5 fl))
     have Vc:¬(f.result=0):=Yd Zq Xq
     exact Z0 (ZQ ⟨(f.result==1),(by first|exact (fun h=>Bool.noConfusion h)|(intro h;omega)|(intro h;simp at h;omega)),rfl,rfl⟩ (ZF 5 fl))
    have Ut:¬(w1>=0):=Yd dq YA
    exact Z0 (ZQ ⟨false,(by first|exact (fun h=>Bool.noConfusion h)|(intro h;omega)|(intro h;simp at h;omega)),rfl,rfl⟩ (ZF 5 fl))
   have T0:¬(k1<3):=Yd dq ZA
   exact Z0 (ZQ ⟨false,(by first|exact (fun h=>Bool.noConfusion h)|(intro h;omega)|(intro h;simp at h;omega)),rfl,rfl⟩ (ZF 5 fl))
  rintro F h ⟨wb,kR8_0,rfl,rfl⟩
  refine ac wb Iff.rfl (fun Ze=>?_) (fun Ze=>?_)
  ·refine az (ZP 4 [3] (ic [0,3] (Z6r rd bs (p+1) g gb rs _ i w1 (ZH:=ob) (hw:=(by have:=kR8_0 (by assumption);omega))) ?_))
   rintro _ _ ⟨e2,p22,rfl,rfl,T1⟩
   have hbd:=T1.1
   have hbp:=T1.2
   exact ZI 2 b3 (YX e2) (ie (ZQ ⟨e2,p22,(GE.le hbd om),ob,rfl,rfl⟩ (wk [1,0,1,1,0] fl)))
  refine aq (XP (fun fz gz F h=>∃(wb:Bool),(wb=true->0<f.params.length)/\F=sF [0,2,4,6,7,8,10,11] fz [(77,.b wb)]/\h=gz) ?_ ?_)
  ·refine az (Z1 3 (ib (b:=(decide (k1<3))) 59 (fun Wy=>?_) (fun Wy=>?_)))
   ·have Qp:k1<3:=(dq).1 Wy
    refine Z1 1 (iw (Y8 f.params) (Z1 3 (ib (b:=(decide ((f.params.length:Int)>0))) 64 (fun V4=>?_) (fun V4=>?_))))
    ·have Qb:(f.params.length:Int)>0:=(dq).1 V4
     refine Z1 1 ?_
     obtain ⟨x1,Z3⟩:=Zs f.params 0 om
     refine Zm (Zi none 0 1 (ZZ Z3)) (Z1 4 (ib (b:=(x1==3)) 70 (fun Vl=>?_) (fun Vl=>?_)))
     ·have KS:x1=3:=(Zq).1 Vl
      refine Z1 3 (ib (b:=(f.result==0)) 73 (fun Va=>?_) (fun Va=>?_))
      ·have Kl:f.result=0:=(Zq).1 Va
       exact Z0 (ZQ ⟨true,(by first|exact (fun h=>Bool.noConfusion h)|(intro h;omega)|(intro h;simp at h;omega)),rfl,rfl⟩ (ZF 5 fl))
      have Bb:¬(f.result=0):=Yd Zq Va
      exact Z0 (ZQ ⟨(f.result==3),(by first|exact (fun h=>Bool.noConfusion h)|(intro h;omega)|(intro h;simp at h;omega)),rfl,rfl⟩ (ZF 5 fl))
     have Jr:¬(x1=3):=Yd Zq Vl
     exact Z0 (ZQ ⟨false,(by first|exact (fun h=>Bool.noConfusion h)|(intro h;omega)|(intro h;simp at h;omega)),rfl,rfl⟩ (ZF 5 fl))
    have Ot:¬((f.params.length:Int)>0):=Yd dq V4
    exact Z0 (ZQ ⟨false,(by first|exact (fun h=>Bool.noConfusion h)|(intro h;omega)|(intro h;simp at h;omega)),rfl,rfl⟩ (ZF 5 fl))
   have Ou:¬(k1<3):=Yd dq Wy
   exact Z0 (ZQ ⟨false,(by first|exact (fun h=>Bool.noConfusion h)|(intro h;omega)|(intro h;simp at h;omega)),rfl,rfl⟩ (ZF 5 fl))
  rintro F h ⟨wb,kR10_0,rfl,rfl⟩
  refine ac wb Iff.rfl (fun ZC=>?_) (fun ZC=>?_)
  ·refine az (ZP 3 [3] (ic [0,3] (Z6s rd bs (p+1) g gb rs _ i (ZH:=ob) (h0:=(kR10_0 (by assumption)))) ?_))
   rintro _ _ ⟨e3,p23,rfl,rfl,Iz⟩
   have hbd:=Iz.1
   have hbp:=Iz.2
   exact ZI 2 b3 (YX e3) (ie (ZQ ⟨e3,p23,(GE.le hbd om),ob,rfl,rfl⟩ (wk [1,0,1,1,0] fl)))
  refine aq (XP (fun fz gz F h=>∃(wb:Bool),(wb=true->0<f.params.length)/\F=sF [0,2,4,6,7,8,10] fz [(102,.b wb)]/\h=gz) ?_ ?_)
  ·refine az (Z1 3 (ib (b:=(decide (k1<3))) 84 (fun Vb=>?_) (fun Vb=>?_)))
   ·have Z7k:k1<3:=(dq).1 Vb
    refine Z1 1 (iw (Y8 f.params) (Z1 3 (ib (b:=(decide ((f.params.length:Int)>0))) 89 (fun Qo=>?_) (fun Qo=>?_))))
    ·have Z7l:(f.params.length:Int)>0:=(dq).1 Qo
     refine Z1 1 ?_
     obtain ⟨x2,Zt⟩:=Zs f.params 0 om
     refine Zm (Zi none 0 1 (ZZ Zt)) (Z1 4 (ib (b:=(x2==0)) 95 (fun Ap=>?_) (fun Ap=>?_)))
     ·have Z7m:x2=0:=(Zq).1 Ap
      refine Z1 3 (ib (b:=(f.result==0)) 98 (fun Aq=>?_) (fun Aq=>?_))
      ·have Z7n:f.result=0:=(Zq).1 Aq
       exact Z0 (ZQ ⟨true,(by first|exact (fun h=>Bool.noConfusion h)|(intro h;omega)|(intro h;simp at h;omega)),rfl,rfl⟩ (ZF 5 fl))
      have Z7o:¬(f.result=0):=Yd Zq Aq
      exact Z0 (ZQ ⟨(f.result==1),(by first|exact (fun h=>Bool.noConfusion h)|(intro h;omega)|(intro h;simp at h;omega)),rfl,rfl⟩ (ZF 5 fl))
     have Z7p:¬(x2=0):=Yd Zq Ap
     exact Z0 (ZQ ⟨false,(by first|exact (fun h=>Bool.noConfusion h)|(intro h;omega)|(intro h;simp at h;omega)),rfl,rfl⟩ (ZF 5 fl))
    have Z7q:¬((f.params.length:Int)>0):=Yd dq Qo
    exact Z0 (ZQ ⟨false,(by first|exact (fun h=>Bool.noConfusion h)|(intro h;omega)|(intro h;simp at h;omega)),rfl,rfl⟩ (ZF 5 fl))
   have Z7r:¬(k1<3):=Yd dq Vb
   exact Z0 (ZQ ⟨false,(by first|exact (fun h=>Bool.noConfusion h)|(intro h;omega)|(intro h;simp at h;omega)),rfl,rfl⟩ (ZF 5 fl))
  rintro F h ⟨wb,kR12_0,rfl,rfl⟩
  refine ac wb Iff.rfl (fun Ye=>?_) (fun Ye=>?_)
  ·refine az (ZP 3 [3] (ic [0,3] (Z5z rd bs (p+1) g gb rs _ i (ZH:=ob) (h0:=(kR12_0 (by assumption)))) ?_))
   rintro _ _ ⟨e4,p24,rfl,rfl,IA⟩
   have hbd:=IA.1
   have hbp:=IA.2
   exact ZI 2 b3 (YX e4) (ie (ZQ ⟨e4,p24,(GE.le hbd om),ob,rfl,rfl⟩ (wk [1,0,1,1,0] fl)))
  refine az (ZP 4 [3] (ic [0,3] (O7 rd bs (p+1) g gb rs f.params f.result 18 (ZH:=ob)) ?_))
  rintro _ _ ⟨e5,p25,rfl,rfl,IB⟩
  have hbd:=IB.1
  have hbp:=IB.2
  exact ZI 2 b3 (YX e5) (ie (ZQ ⟨e5,p25,(GE.le hbd om),ob,rfl,rfl⟩ (wk [1,0,1,1,0] fl)))
 rintro F h ⟨eQ,p6,KU,II,rfl,rfl⟩
 refine Yi 1 [1] (ic [] (Oe eQ (hz:=(by have:=KU.2;omega))) ?_)
 rintro _ _ ⟨w2,rfl,rfl,Ov⟩
 have E1:=Ov
 have Xi:=KU.2
 refine Y1 (w2<0) (fun Xg=>?_) (fun Xg=>?_)
 ·refine Zw 4 [3] (ic [0,3] (O7 rd bs p6 g gb rs f.params f.result 12 (ZH:=ob)) ?_)
  rintro _ _ ⟨e6,p26,rfl,rfl,FL⟩
  have hbd:=FL.1
  have hbp:=FL.2
  exact ZI 3 b2 (YX e6) (ie (ZD (r3 [1,1] [Y4 e6] [0] [(b2,b2)] ⟨e6,p26,rfl,rfl,⟨hbd,by omega⟩⟩ (lr _))))
 exact ak (Zw 1 [1] (ZI 2 b2 (YX eQ) (ie (ZD (r3 [1,3] [Y4 eQ] [0] [(b2,b2)] ⟨eQ,p6,rfl,rfl,⟨⟨KU.1,by omega⟩,by omega⟩⟩ (lr _))))))
theorem TR (ps:LI) (rt:Int) :Zl 176 [Z4 ps,.i rt] [] (Yo (DC (Func.mk ps rt (Z2.mk 0 0 [])))):=by
 exact ZG 8 Tryz.func176 (ar (iA [nl,.i 0,.i 0,.i 0,nl] fun b1=>ie (Y5 3 (ZI 0 b1 [Z4 ps,.i rt,.i 0,.i 0,nl] (ie (ZD (r3 [] [.agg [Z4 ps,.i rt,.i 0,.i 0,nl]] [0] [(b1,b1)] ⟨rfl,rfl⟩ (Zd.agg (.cons (Zd.sl _ (Yj Z6 ob)) (.cons li (.cons li (.cons li (.cons (Zd.sl _ rfl) .nil)))))))))))))
theorem Z6q (rd:Nat) (bs:LI) (p:Nat) (xs:LI) (ZH:∀z∈bs,0<=z/\z<=255) (hp:p+1<=1000000000:=by exact ob) (hx:0<xs.length/\xs.length<=1000000:=by exact ob) (hy:xs.all (fun x=>decide (0<=x))=true:=by exact ob):Zl 62 [.p rd 0,Z4 xs] [Yw rd bs p] (fun r h=>∃(nn:Nat),r=.i nn/\h=[.obj rd [U3 bs,.i (p+1:Nat)]]/\(nn:Int)∈xs):=(VN rd bs p xs ZH hp hx).mono fun r h ⟨z,hr,hh,hz⟩=>by
  have h0:0<=z:=of_decide_eq_true (Jv.1 hy z hz)
  exact ⟨z.toNat,by rw [hr,Int.toNat_of_nonneg h0],hh,by rw [Int.toNat_of_nonneg h0];exact hz⟩
theorem Z5i (rd:Nat) (bs:LI) (p:Nat) (g:Wa) (gb:Nat) (rs:List Func) (f:Func) (i:Int) (nl:Nat) (ZH:∀z∈bs,0<=z/\z<=255) (hp:p+90000<=1000000000:=by exact ob) (hg:GP g:=by exact ob) (Wq:g.funcs <+: rs:=by exact ob) (hi:0<=i:=by exact ob) (hf:g.funcs[i.toNat]? = some f:=by exact ob) (h0:i=0->f.params.length=0:=by exact ob) (hn:g.funcs.length=nl:=by exact ob):Zl 177 [.p rd 0,.agg [ZU g.decls,.ms gb 0 nl 4],.i i] [Yw rd bs p,XN gb rs] (fun r h=>∃(e:Z2) (p2:Nat),r=Y4 e/\h=[Yw rd bs p2,XN gb rs]/\GE g f.params.length 30 e/\p<=p2/\p2<=p+90000):=(by subst hn;exact Z5h rd bs p g gb rs f i ZH hp hg Wq hi hf h0)
theorem Z65 (rd:Nat) (bs:LI) (p:Nat) (ZH:∀z∈bs,0<=z/\z<=255) (hp:p+400000<=1000000000):Zl 134 [.p rd 0] [Yw rd bs p] (fun r h=>∃(rs:List Func) (ds:List Zg) (m:Nat) (gb:Nat) (p2:Nat),r=.agg [ZU ds,.ms gb 0 m 4]/\h=[XN gb rs,Yw rd bs p2]/\(GL ds m 0 rs/\GD ds/\1<=m/\m<=4)/\p<=p2/\p2<=p+400000):=by
 refine ZG 110 Tryz.func134 (ar (iA [nl,nl] fun b1=>ie (Y5 1 (ic [1] (Z63 rd bs p (ZH:=ob)) ?_))))
 rintro _ _ ⟨ds1,v1,rfl,rfl,ZW⟩
 have hgd:=ZW
 refine Z1 1 (iA [nl,nl] fun b2=>ZI 0 b2 [JT ds1 v1,nl] (ie (ar (iL (Z6 [1]) 1 1 fun v2=>ZT 0 [(13,Z4 [1])] (Zz [] (TR [1] 0) (iL (Z6 [1,1]) 2 1 fun v3=>ZT 0 [(15,Z4 [1,1])] (Zz [] (TR [1,1] 1) (iL (Z6 [1]) 1 1 fun v4=>ZT 0 [(17,Z4 [1])] (Zz [] (TR [1] 1) (iL (Z6 [1,0]) 2 1 fun v5=>ZT 0 [(19,Z4 [1,0])] (Zz [] (TR [1,0] 1) (iL (Z6 [2,1]) 2 1 fun v6=>ZT 0 [(21,Z4 [2,1])] (Zz [] (TR [2,1] 1) (iL (Z6 [1,1]) 2 1 fun v7=>ZT 0 [(23,Z4 [1,1])] (Zz [] (TR [1,1] 0) (iL (Xs [Func.mk [1] 0 (Z2.mk 0 0 []),Func.mk [1,1] 1 (Z2.mk 0 0 []),Func.mk [1] 1 (Z2.mk 0 0 []),Func.mk [1,0] 1 (Z2.mk 0 0 []),Func.mk [2,1] 1 (Z2.mk 0 0 []),Func.mk [1,1] 0 (Z2.mk 0 0 [])]) 6 5 fun v8=>Z0 (ar (iL (Z6 [3]) 1 1 fun v9=>ZT 0 [(26,Z4 [3])] (Zz [] (TR [3] 0) (iL (Z6 [0]) 1 1 fun v10=>ZT 0 [(28,Z4 [0])] (Zz [] (TR [0] 1) (iL (Z6 [0,1]) 2 1 fun v11=>ZT 0 [(30,Z4 [0,1])] (Zz [] (TR [0,1] 1) (iL (Z6 [3,0]) 2 1 fun v12=>ZT 0 [(32,Z4 [3,0])] (Zz [] (TR [3,0] 3) (iL (Z6 [3]) 1 1 fun v13=>ZT 0 [(34,Z4 [3])] (Zz [] (TR [3] 1) (iL (Z6 [1,3,0]) 3 1 fun v14=>ZT 0 [(36,Z4 [1,3,0])] (Zz [] (TR [1,3,0] 0) (iL (Xs [Func.mk [3] 0 (Z2.mk 0 0 []),Func.mk [0] 1 (Z2.mk 0 0 []),Func.mk [0,1] 1 (Z2.mk 0 0 []),Func.mk [3,0] 3 (Z2.mk 0 0 []),Func.mk [3] 1 (Z2.mk 0 0 []),Func.mk [1,3,0] 0 (Z2.mk 0 0 [])]) 6 5 fun v15=>Z0 (ar (iL (Z6 [0]) 1 1 fun v16=>ZT 0 [(39,Z4 [0])] (Zz [] (TR [0] 0) (iL (Z6 [0,0]) 2 1 fun v17=>ZT 0 [(41,Z4 [0,0])] (Zz [] (TR [0,0] 0) (iL (Z6 [1,0]) 2 1 fun v18=>ZT 0 [(43,Z4 [1,0])] (Zz [] (TR [1,0] 0) (iL (Z6 [0]) 1 1 fun v19=>ZT 0 [(45,Z4 [0])] (Zz [] (TR [0] 1) (iL (Xs [Func.mk [0] 0 (Z2.mk 0 0 []),Func.mk [0,0] 0 (Z2.mk 0 0 []),Func.mk [1,0] 0 (Z2.mk 0 0 []),Func.mk [0] 1 (Z2.mk 0 0 [])]) 4 5 fun v20=>Z0 (aD 26 (Zj 23 26 [2,3,4] (dn 5 (.i (([Func.mk [1] 0 (Z2.mk 0 0 []),Func.mk [1,1] 1 (Z2.mk 0 0 []),Func.mk [1] 1 (Z2.mk 0 0 []),Func.mk [1,0] 1 (Z2.mk 0 0 []),Func.mk [2,1] 1 (Z2.mk 0 0 []),Func.mk [1,1] 0 (Z2.mk 0 0 [])].length:Nat):Int)) (.i (((Xs [Func.mk [1] 0 (Z2.mk 0 0 []),Func.mk [1,1] 1 (Z2.mk 0 0 []),Func.mk [1] 1 (Z2.mk 0 0 []),Func.mk [1,0] 1 (Z2.mk 0 0 []),Func.mk [2,1] 1 (Z2.mk 0 0 []),Func.mk [1,1] 0 (Z2.mk 0 0 [])]).length:Nat):Int)) (li (by rw [CK])) (Zj 19 22 [9,10,11] (dn 12 (.i (([Func.mk [3] 0 (Z2.mk 0 0 []),Func.mk [0] 1 (Z2.mk 0 0 []),Func.mk [0,1] 1 (Z2.mk 0 0 []),Func.mk [3,0] 3 (Z2.mk 0 0 []),Func.mk [3] 1 (Z2.mk 0 0 []),Func.mk [1,3,0] 0 (Z2.mk 0 0 [])].length:Nat):Int)) (.i (((Xs [Func.mk [3] 0 (Z2.mk 0 0 []),Func.mk [0] 1 (Z2.mk 0 0 []),Func.mk [0,1] 1 (Z2.mk 0 0 []),Func.mk [3,0] 3 (Z2.mk 0 0 []),Func.mk [3] 1 (Z2.mk 0 0 []),Func.mk [1,3,0] 0 (Z2.mk 0 0 [])]).length:Nat):Int)) (li (by rw [CK])) (Zj 15 18 [16,17,18] (dn 19 (.i (([Func.mk [0] 0 (Z2.mk 0 0 []),Func.mk [0,0] 0 (Z2.mk 0 0 []),Func.mk [1,0] 0 (Z2.mk 0 0 []),Func.mk [0] 1 (Z2.mk 0 0 [])].length:Nat):Int)) (.i (((Xs [Func.mk [0] 0 (Z2.mk 0 0 []),Func.mk [0,0] 0 (Z2.mk 0 0 []),Func.mk [1,0] 0 (Z2.mk 0 0 []),Func.mk [0] 1 (Z2.mk 0 0 [])]).length:Nat):Int)) (li (by rw [CK])) (Z9 0 (dL 0 [] [] (Z6 []) 0 1 fun v21=>Yt 13 13 [] [(48,Z4 [])] (Z9 1 (Yp 1 [] [] [] (TR [] 0) (Z9 6 (dc 6 [22] [] [] (W8 rd bs (p+1) (([Func.mk [1] 0 (Z2.mk 0 0 []),Func.mk [1,1] 1 (Z2.mk 0 0 []),Func.mk [1] 1 (Z2.mk 0 0 []),Func.mk [1,0] 1 (Z2.mk 0 0 []),Func.mk [2,1] 1 (Z2.mk 0 0 []),Func.mk [1,1] 0 (Z2.mk 0 0 [])].length:Nat):Int) (ZH:=ob)) ?_)))))))))))))))))))))))))))))))))))))))))))))))))))))
 rintro _ _ ⟨k1,rfl,rfl,Yh⟩
 have qhp2:=Yh.lt (by simp)
 simp only [YQ,Xu] at qhp2
 obtain ⟨x1,Z3⟩:=Zs [Func.mk [1] 0 (Z2.mk 0 0 []),Func.mk [1,1] 1 (Z2.mk 0 0 []),Func.mk [1] 1 (Z2.mk 0 0 []),Func.mk [1,0] 1 (Z2.mk 0 0 []),Func.mk [2,1] 1 (Z2.mk 0 0 []),Func.mk [1,1] 0 (Z2.mk 0 0 [])] k1.toNat (by simp only [YQ,Xu];omega)
 refine dx 7 (Zi (some v8) k1 5 (Fj Z3)) (Zj 9 10 [8] (Z9 13 (dc 13 [0] [] [] (W8 rd bs ((p+1)+1) (([Func.mk [3] 0 (Z2.mk 0 0 []),Func.mk [0] 1 (Z2.mk 0 0 []),Func.mk [0,1] 1 (Z2.mk 0 0 []),Func.mk [3,0] 3 (Z2.mk 0 0 []),Func.mk [3] 1 (Z2.mk 0 0 []),Func.mk [1,3,0] 0 (Z2.mk 0 0 [])].length:Nat):Int) (ZH:=ob)) ?_)))
 rintro _ _ ⟨k2,rfl,rfl,YE⟩
 have qhp3:=YE.lt (by simp)
 simp only [YQ,Xu] at qhp3
 obtain ⟨x2,Zt⟩:=Zs [Func.mk [3] 0 (Z2.mk 0 0 []),Func.mk [0] 1 (Z2.mk 0 0 []),Func.mk [0,1] 1 (Z2.mk 0 0 []),Func.mk [3,0] 3 (Z2.mk 0 0 []),Func.mk [3] 1 (Z2.mk 0 0 []),Func.mk [1,3,0] 0 (Z2.mk 0 0 [])] k2.toNat (by simp only [YQ,Xu];omega)
 refine dx 14 (Zi (some v15) k2 5 (Fj Zt)) (Zj 6 7 [15] (Z9 20 (dc 20 [0] [] [] (W8 rd bs (((p+1)+1)+1) (([Func.mk [0] 0 (Z2.mk 0 0 []),Func.mk [0,0] 0 (Z2.mk 0 0 []),Func.mk [1,0] 0 (Z2.mk 0 0 []),Func.mk [0] 1 (Z2.mk 0 0 [])].length:Nat):Int) (ZH:=ob)) ?_)))
 rintro _ _ ⟨k3,rfl,rfl,YK⟩
 have qhp4:=YK.lt (by simp)
 simp only [YQ,Xu] at qhp4
 obtain ⟨x3,YO⟩:=Zs [Func.mk [0] 0 (Z2.mk 0 0 []),Func.mk [0,0] 0 (Z2.mk 0 0 []),Func.mk [1,0] 0 (Z2.mk 0 0 []),Func.mk [0] 1 (Z2.mk 0 0 [])] k3.toNat (by simp only [YQ,Xu];omega)
 refine dx 21 (Zi (some v20) k3 5 (Fj YO)) (Zj 3 4 [22] (Z9 23 (dKN 23 [] [] (Zo (Xs [Func.mk [] 0 (Z2.mk 0 0 []),x1,x2,x3])) 4 5 fun g1=>Zj 1 2 [24] (Z9 25 (YJ 25 22 [] [] b2 [JT ds1 v1,.ms g1 0 4 4] (de (Y5 1 (iL (Z6 [4,4,3,2,4]) 5 1 fun v22=>ZT 0 [(74,Z4 [4,4,3,2,4])] (ic [3] (Z6q rd bs ((((p+1)+1)+1)+1) [4,4,3,2,4] (ZH:=ob) (hy:=(by decide))) ?_)))))))))
 rintro _ _ ⟨nn1,rfl,rfl,X9⟩
 have hnn:=Zar (a:=2) (b:=4) X9 (by decide)
 refine Z0 (Zw 3 [2] (Zm (IK 3 g1 4 4 nn1 5 (Zo (Xs [Func.mk [] 0 (Z2.mk 0 0 []),x1,x2,x3]))) (Z1 1 (ZI 2 b2 [JT ds1 v1,.ms g1 0 nn1 4] (ie (YF 1 (ia (((nn1:Int)-1)) (((nn1:Int))-(1)) (Z0 (ab 0 (Y2 (fun fz gz m F h=>∃(j:Nat) (rq:List Func) (pq:Nat),(j<=nn1)/\(GL ds1 nn1 j rq)/\(p<=pq/\pq+90000*j<=p+10+90000*nn1)/\F=sF [0,2,3] fz [(8,.i ((j:Int)-1))]/\h=[Zc gz 0,Yw rd bs pq,Zc gz 25,Zc gz 24,XN g1 rq]/\m=j+1) _ _ _ ⟨nn1,[Func.mk [] 0 (Z2.mk 0 0 []),x1,x2,x3],((((p+1)+1)+1)+1)+1,ob,(GL.start (LP Z3 (by decide)) (LP Zt (by decide)) (LP YO (by decide))),ob,rfl,rfl,rfl⟩ (wk [0,0,23,22,1] fl) ?_))))))))))
 rintro m F h ⟨j,rq,pq,Yf,Zh,Zv,rfl,rfl,rfl⟩
 refine X1 (Y1 (((j:Int)-1)>=0) (fun Za=>?_) (fun Za=>?_))
 ·obtain ⟨f1,hf1⟩:=Zs (rq.take nn1) (((j:Int)-1).toNat) (by rw [Zh.len_take om];omega)
  have hfq:rq[j-1]? = some f1:=by have h:=hf1;rw [show ((j:Int)-1).toNat=j-1 by omega,List.getElem?_take_of_lt om] at h;exact h
  refine ak (aq (ab 1 (ar (Qv 3 [(88,.agg [ZU ds1,.ms g1 0 nn1 4])] [0] (ic [1,3] (Z5i rd bs pq (Wa.mk ds1 (rq.take nn1)) g1 rq f1 ((j:Int)-1) nn1 (ZH:=ob) (hg:=(Zh.gp hgd om)) (Wq:=(List.take_prefix nn1 rq)) (hf:=hf1) (h0:=(fun h=>Zh.zero f1 (by rw [<-hfq,show j-1=0 by omega]))) (hn:=(Zh.len_take om))) ?_)))))
  rintro _ _ ⟨e1,p21,rfl,rfl,XK⟩
  have hbw:eW ds1 nn1 f1.params.length e1/\(e1).sz<=30:=by have h:=XK.1;unfold GE at h;rw [show (Wa.mk ds1 (rq.take nn1)).funcs.length=nn1 from Zh.len_take om] at h;exact h
  exact iA [.i 0,.i 0,nl] fun b3=>ZI 0 b3 (YX e1) (ie (aE 19 (ZK 13 19 [0,1,2,3,4,5] [3,3] (dx 6 (Wp g1 nn1 4 (((j:Int)-1).toNat) 5 ((j:Int)-1)) (Zj 11 12 [7] (Ua 8 (Vm 2 g1 4 4 5 ((((j:Int)-1).toNat)*5+0) (Zo (Xs rq)) [Z4 f1.params] 31 (Z4 f1.params) (UI (List.take_prefix nn1 rq) hf1 0 rfl (V8 rfl))) (ZK 7 10 [9,10,11] [3] (dx 12 (Wp g1 nn1 4 (((j:Int)-1).toNat) 5 ((j:Int)-1)) (Zj 5 6 [13] (Ua 14 (Vm 2 g1 4 4 5 ((((j:Int)-1).toNat)*5+1) (Zo (Xs rq)) [.i f1.result] 3 (.i f1.result) (UI (List.take_prefix nn1 rq) hf1 1 rfl (V8 rfl))) (ZK 2 4 [15,16] [0] (dx 17 (Wp g1 nn1 4 (((j:Int)-1).toNat) 5 ((j:Int)-1)) (Z9 18 (BR 18 2 [] [] g1 4 4 5 ((((j:Int)-1).toNat)*5) [Z4 f1.params,.i f1.result,.i e1.op,.i e1.num,XA e1.kids] (Zo (Xs rq)) (Zo (Xs (rq.set ((j:Int)-1).toNat ⟨f1.params,f1.result,e1⟩))) (by rw [Ie,Zh.len];simp only [YQ,Xu];omega) (Z50 ⟨f1.params,f1.result,e1⟩ (by rw [Zh.len];omega)) (de (az (Z1 1 (ia ((((j:Int)-1)-1)) (((j:Int)-1)-(1)) (Z0 (ZL ⟨(j-1),(rq.set ((j:Int)-1).toNat ⟨f1.params,f1.result,e1⟩),p21,ob,(by rw [show ((j:Int)-1).toNat=j-1 by omega];exact Zh.set om hfq hbw),ob,rfl,rfl,rfl⟩ (wk [3,2,2,2,0] (fc (x:=.i (((j:Int)-1)-1)) li fl))))))))))))))))))))))
 exact ax 0 (Zw 1 [0] (ZI 2 b1 [JT ds1 v1,.ms g1 0 nn1 4] (ie (ZD (r3 [4,2] [.agg [JT ds1 v1,.ms g1 0 nn1 4]] [0] [(b1,b1)] ⟨rq,ds1,nn1,g1,pq,rfl,rfl,⟨⟨by rw [show j=0 by omega] at Zh;exact Zh,hgd,by omega,by omega⟩,by omega⟩⟩ (Zd.agg (.cons (Zd.forget _ _) (.cons (lr _) .nil))))))))
theorem Z64 (rd:Nat) (bs:LI) (p:Nat) (ZH:∀z∈bs,0<=z/\z<=255) (hp:p+400000<=1000000000:=by exact ob):Zl 134 [.p rd 0] [Yw rd bs p] (fun r h=>∃(g:Wa) (p2:Nat),r=A9 g/\h=[Yw rd bs p2]/\Hk g/\p<=p2/\p2<=p+400000):=(WI.frzP (E:=List Func × List Zg × Nat × Nat) (ds:=fun e=>e.2.1) (rs:=fun e=>e.1) (m:=fun e=>e.2.2.1) (hs:=fun e=>[.obj rd [U3 bs,.i (e.2.2.2:Nat)]]) (Q:=fun e=>(GL e.2.1 e.2.2.1 0 e.1/\GD e.2.1/\1<=e.2.2.1/\e.2.2.1<=4)/\p<=e.2.2.2/\e.2.2.2<=p+400000)
  ((Z65 rd bs p ZH hp).mono fun r h ⟨rs,ds,m,gb,p2,hr,hh,hq⟩=>⟨(rs,ds,m,p2),gb,hr,hh,hq⟩) fun e hq=>⟨hq.1.2.2.2,hq.1.1.len⟩).mono
  fun r h ⟨e,hr,hh,hq⟩=>⟨⟨e.2.1,e.1.take e.2.2.1⟩,e.2.2.2,hr,hh,hq.1.1.done hq.1.2.1 hq.1.2.2,hq.2⟩
theorem Ir (a:Nat) (n:Nat) (ha:a<=1000000:=by exact ob) (hn:n<=1000000:=by exact ob):Zl 175 [.i a,.i n] [] (fun r h=>∃(xs:LI),r=Z4 xs/\h=[]/\xs.length=n/\∀i∈xs,(a:Int)<=i/\i<(a:Int)+n):=by
 refine ZG 20 Tryz.func175 (ZE (ar (iL (Z6 []) 0 1 fun v1=>?_)))
 refine Z0 (Y9 (ab 0 (Y2 (fun fz gz m F h=>∃(k:Nat) (ys:LI) (u:Value),(k<=n)/\(ys.length=k)/\(∀i∈ys,(a:Int)<=i/\i<(a:Int)+n)/\F=sF [0,1] fz [(5,ZM ys u),(6,.i k)]/\h=[.tail u 1]/\m=n-k) _ _ _ ⟨0,[],v1,ob,ob,(fun i hi=>by cases hi),rfl,rfl,rfl⟩ (wk [0] (fr (Ya fl))) ?_)))
 rintro m F h ⟨k,ys,u,Yf,Zh,Zv,rfl,rfl,rfl⟩
 refine X1 (Y1 ((k:Int)<(n:Int)) (fun Za=>?_) (fun Za=>?_))
 ·exact ak (aq (ab 1 (az (Z1 3 (ia (((a+k:Nat):Int)) (((a:Int))+((k:Int))) (iL (Z6 [((a+k:Nat):Int)]) 1 1 fun v2=>ZT 0 [(17,Z4 [((a+k:Nat):Int)])] (ip 1 (Z6 (ys++[((a+k:Nat):Int)])) (Z6 ys) (Z6 [((a+k:Nat):Int)]) u none 1 (Yy _) (Yy _) (W5 _) (by simp<;>omega) (by simp [W4,Z6]) fun v3=>Z0 (az (Z1 1 (ZJ k (Z0 (ZL ⟨k+1,(ys++[((a+k:Nat):Int)]),v3,ob,ob,(XC Zv om),rfl,rfl,rfl⟩ (wk [0] (fr (ZO k fl)))))))))))))))
 exact ax 0 (ar (Zr (r2 [] [ZM ys u] ⟨ys,rfl,rfl,⟨by omega,Zv⟩⟩ (Zd.forget _ _))))
theorem O3 (l:Nat) (xs:List Z5) (w:Value) (q:Nat) (s:Z5) (hl:xs.length<=4000000000:=by exact ob) (hq:q<=1000000:=by exact ob):Zl 269 [.p l 0,YI s] [.obj l [YY xs w,.i q],.tail w 5] (fun r h=>∃(w2:Value),r=.i q/\h=[.obj l [YY (xs++[s]) w2,.i (((q+1):Nat):Int)],.tail w2 5]):=by
 exact ZG 28 Tryz.func269 (ar (iA (Xz s) fun b1=>Z0 (aD 11 (ZK 5 11 [0,1,2,3,4,5] [1,0] (Z9 6 (WE 6 [1] [l] [YI s] (Zy [s]) (VE [s]).symm 1 5 fun v1=>Yt 4 4 [] [(11,Wz [s])] (Z9 7 (dp 7 3 [] [] (Zy (xs++[s])) (Zy xs) (Zy [s]) w none 5 (Xj _) (Xj _) (U0 _) (by simp<;>omega) (by simp [WW,Zy]) fun v2=>Zj 1 3 [8,9] (Z9 10 (YJ 10 3 [] [] l [YY (xs++[s]) v2,.i q] (de (Zw 5 [0] (ZJ q (Z1 2 (ZI 0 l [YY (xs++[s]) v2,.i (q+1:Nat)] (ie (Zw 4 [0] (ia ((((q+1:Nat):Int)-1)) ((((q+1:Nat):Int))-(1)) (Zr (r2 [0,0] [.i (((q+1:Nat):Int)-1)] ⟨v2,rfl,rfl⟩ li))))))))))))))))))))
theorem Od (g:Wa) (e:Z2) (us:LI) (q:Nat) (bb:Nat) (he:eW g.decls g.funcs.length us.length e:=by exact ob) (hu:∀a∈us,0<=a/\a<(q:Int)) (hul:us.length+4*e.sz<=100000:=by exact ob) (hql:q+6*e.sz<=100000:=by exact ob) (hb:e.sz<bb:=by exact ob) (ih:∀(l:Nat) (e2:Z2) (us2:LI) (xs2:List Z5) (w2:Value) (q2:Nat),(eW g.decls g.funcs.length us2.length e2)->(∀a∈us2,0<=a/\a<(q2:Int))->(us2.length+4*e2.sz<=100000)->(xs2.length+6*e2.sz<=100000)->(q2+6*e2.sz<=100000)->(e2.sz<bb)->Zl 224 [.p l 0,A9 g,Y4 e2,Z4 us2] [.obj l [YY xs2 w2,.i q2],.tail w2 5] (fun r h=>∃(ys:List Z5) (v:Int) (w2:Value),r=.i v/\h=[.obj l [YY (xs2++ys) w2,.i (((q2+YZ ys):Nat):Int)],.tail w2 5]/\LW g.decls g.funcs.length q2 e2 ys v)):Zl 174 [A9 g,Y4 e,Z4 us,.i q] [] (fun r h=>∃(b:Z7),r=Y0 b/\h=[]/\LB g.decls g.funcs.length q e b):=by
 refine ZG 26 Tryz.func174 (ar (iA (IR g) fun b1=>iA (YX e) fun b2=>iA [nl,.i 0] fun b3=>ie (ar (iL (Zy []) 0 5 fun v1=>Z1 2 (iA [YY [] v1,.i q] fun b4=>Z0 (Zw 4 [4,3] (ic [0,0] (ih b4 e us [] v1 q he hu ob ob ob ob) ?_)))))))
 rintro _ _ ⟨ys1,v2,w21,rfl,rfl,ZW⟩
 have hlw:=ZW
 exact Z0 (Zw 6 [0] (ZI 2 b3 [YY ([]++ys1) w21,.i v2] (ie (ZD (r3 [] [.agg [YY ([]++ys1) w21,.i v2]] [0] [(b3,b3)] ⟨(Z7.mk ([]++ys1) v2),rfl,rfl,(by rw [Cp];exact hlw.block)⟩ (Zd.agg (.cons (Zd.forget _ _) (.cons (lr _) .nil))))))))
theorem Z6i (l:Nat) (g:Wa) (e:Z2) (us:LI) (xs:List Z5) (w:Value) (q:Nat) (hd:GD g.decls) (he:eW g.decls g.funcs.length us.length e) (hu:∀a∈us,0<=a/\a<(q:Int)) (hul:us.length+4*e.sz<=100000) (hxl:xs.length+6*e.sz<=100000) (hql:q+6*e.sz<=100000) (ih:∀(l:Nat) (e2:Z2) (us2:LI) (xs2:List Z5) (w2:Value) (q2:Nat),(eW g.decls g.funcs.length us2.length e2)->(∀a∈us2,0<=a/\a<(q2:Int))->(us2.length+4*e2.sz<=100000)->(xs2.length+6*e2.sz<=100000)->(q2+6*e2.sz<=100000)->(e2.sz<e.sz)->Zl 224 [.p l 0,A9 g,Y4 e2,Z4 us2] [.obj l [YY xs2 w2,.i q2],.tail w2 5] (fun r h=>∃(ys:List Z5) (v:Int) (w2:Value),r=.i v/\h=[.obj l [YY (xs2++ys) w2,.i (((q2+YZ ys):Nat):Int)],.tail w2 5]/\LW g.decls g.funcs.length q2 e2 ys v)):Zl 224 [.p l 0,A9 g,Y4 e,Z4 us] [.obj l [YY xs w,.i q],.tail w 5] (fun r h=>∃(ys:List Z5) (v:Int) (w2:Value),r=.i v/\h=[.obj l [YY (xs++ys) w2,.i (((q+YZ ys):Nat):Int)],.tail w2 5]/\LW g.decls g.funcs.length q e ys v):=by
 have Xt:=hd.ok
 obtain ⟨ho,h12,h13,h7,h8,h9,hnum,hkl,hks⟩:=(Z4i e).1 he
 have hez:=e.sz_eq
 refine ZG 148 Tryz.func224 (ar (iA (IR g) fun b1=>iA (YX e) fun b2=>Z0 (X1 (VI [0] (ab 0 (ar (YD (e.op==12) Zq (fun Za=>?_) (fun Za=>?_))))))))
 ·refine Zw 3 [0] ?_
  obtain ⟨x1,Z3⟩:=Zs us e.num.toNat (by have:=h12 om;omega)
  have huv:=hu _ (ZX Z3)
  exact Zm (Zi none e.num 1 (ZZ Z3)) (Zr (r1 [2,2] ⟨[],x1,w,rfl,rfl,(LW.var huv)⟩ (eq:=(ro (ls:=[YY xs w,.i q]) (by simp [YZ]) (rc rz)))))
 refine ar (YD (e.op==13) Zq (fun Ze=>?_) (fun Ze=>?_))
 ·refine aD 9 (ZK 5 9 [0,1,2,3] [1,0] ?_)
  obtain ⟨x2,Zt⟩:=Zs e.kids 0 (by have:=h13 om;omega)
  have hekx2:=CM hks Zt
  have hszx2:=BX Zt
  have htzx2:=B7 Zt
  rw [Vd] at hekx2
  rw [RH om] at hekx2
  refine dx 4 (Zi none 0 3 (CJ Zt)) (Zj 2 4 [5,6] (Z9 7 (dc 7 [2,2] [] [] (ih l x2 us xs w q (by first|assumption|(rw [Yq];assumption)) (by first|assumption|exact EC hu hlwhp1.v|exact H1 hu) (by first|omega|(simp only [Yq,YQ,Xu];omega)) (by first|omega|(simp only [Yq,YQ,Xu];omega)) ob ob) ?_)))
  rintro _ _ ⟨ys1,v1,w21,rfl,rfl,ZW⟩
  have hlwhp1:=ZW
  have hldhp1:=ZW.dn
  refine Zj 0 1 [8] (de (aD 12 (ZK 8 12 [0,1,2,3] [3,2] ?_)))
  obtain ⟨x3,YO⟩:=Zs e.kids 1 (by have:=h13 om;omega)
  have hz2:=NM Zt YO
  have hz3:=x2.sz_eq
  have hekx3:=CM hks YO
  have hszx3:=BX YO
  have htzx3:=B7 YO
  rw [Vd] at hekx3
  rw [RH om] at hekx3
  refine dx 4 (Zi none 1 3 (CJ YO)) (Zj 4 7 [5,6,7] (Z9 8 (dL 8 [1,2] [b2,b1] (Z6 [v1]) 1 1 fun v2=>Yt 3 3 [] [(45,Z4 [v1])] (Z9 9 (dc 9 [] [1,2] [b2,b1] (K4 us [v1]) ?_)))))
  rintro _ _ ⟨v3,rfl,rfl⟩
  refine Yt 2 2 [] [(46,Z4 (us++[v1]))] (Z9 10 (dc 10 [2,2] [] [] (ih l x3 (us++[v1]) (xs++ys1) w21 (q+YZ ys1) (by first|assumption|(rw [Yq];assumption)) (by first|assumption|exact EC hu hlwhp1.v|exact H1 hu) (by first|omega|(simp only [Yq,YQ,Xu];omega)) (by first|omega|(simp only [Yq,YQ,Xu];omega)) ob ob) ?_))
  rintro _ _ ⟨ys2,v4,w22,rfl,rfl,Yh⟩
  have hlwhp2:=Yh
  have hldhp2:=Yh.dn
  exact Zj 0 1 [11] (de (ZD (r1 [0,0] ⟨(ys1++ys2),v4,w22,rfl,rfl,(LW.let_ hlwhp1 hlwhp2 (by have:=NM Zt YO;omega))⟩ (eq:=(ro (ls:=[YY ((xs++ys1)++ys2) w22,.i ((((q+YZ ys1)+YZ ys2):Nat):Int)]) (by rw [Jj,<-AM,Q1]) (rc rz))))))
 refine Y9 (XP (fun fz gz F h=>F=sF [0,3,5,6] fz [(48,.b ((e.op==7)||(e.op==8)))]/\h=gz) ?_ ?_)
 ·refine ac (e.op==7) Zq (fun ZC=>?_) (fun ZC=>?_)
  ·exact ak (ZQ ⟨rfl,rfl⟩ (ZF 4 (fc (x:=.b (e.op==7)) (lb (by first|rfl|(rw [Zf ZC])|(rw [Z8 ZC])|(simp [ZC];done)|(rw [Xl];simp [ZC];done)|omega)) fl)))
  exact UZ (ZQ ⟨rfl,rfl⟩ (ZF 4 (fc (x:=.b (e.op==8)) (lb (by first|rfl|(rw [Zf ZC])|(rw [Z8 ZC])|(simp [ZC];done)|(rw [Xl];simp [ZC];done)|omega)) fl)))
 rintro F h ⟨rfl,rfl⟩
 refine ac ((e.op==7)||(e.op==8)) (p:=(e.op=7)∨(e.op=8)) (Yl Zq Zq) (fun Ye=>?_) (fun Ye=>?_)
 ·refine aD 9 (ZK 5 9 [0,1,2,3] [1,0] ?_)
  obtain ⟨x4,Vs⟩:=Zs e.kids 0 om
  have hekx4:=CM hks Vs
  have hszx4:=BX Vs
  have htzx4:=B7 Vs
  rw [Vd] at hekx4
  rw [Zd0 om] at hekx4
  refine dx 4 (Zi none 0 3 (CJ Vs)) (Zj 2 4 [5,6] (Z9 7 (dc 7 [2,2] [] [] (ih l x4 us xs w q (by first|assumption|(rw [Yq];assumption)) (by first|assumption|exact EC hu hlwhp1.v|exact H1 hu) (by first|omega|(simp only [Yq,YQ,Xu];omega)) (by first|omega|(simp only [Yq,YQ,Xu];omega)) ob ob) ?_)))
  rintro _ _ ⟨ys3,v5,w23,rfl,rfl,YE⟩
  have hlwhp3:=YE
  have hldhp3:=YE.dn
  refine Zj 0 1 [8] (de (ar (iL (YL []) 0 2 fun v6=>Z0 (Zw 4 [4,3] (ic [] (JV g.decls e.num) ?_)))))
  rintro _ _ ⟨v7,rfl,rfl⟩
  refine Z0 (Y9 (ab 1 (Y2 (fun fz gz m F h=>∃(k:Nat) (cs:List Z7) (u:Value),(1<=k/\k<=e.kids.length)/\(cs.length+1=k)/\(TI g.decls g.funcs.length (UL g.decls e.op e.num (q+YZ ys3)) 0 cs)/\(X6 cs+6*x4.sz<=cs.length+6*Xy (e.kids.take k))/\(QY WQ cs)/\F=sF [0,3,5,6,10] fz [(11,Tn cs u),(12,Z4 (ZY g.decls e.num)),(13,.i k)]/\h=[Zc gz 2,Zc gz 4,Zc gz 5,.tail u 2,Zc gz 3]/\m=e.kids.length-k) _ _ _ ⟨1,[],v6,ob,ob,True.intro,(by have h:Xy (e.kids.take 1)=Xy (e.kids.take 0)+x4.sz:=B7 Vs;simp only [X6,Xu];omega),True.intro,rfl,rfl,rfl⟩ (wk [2,3,3,1,1] (fr (fc (x:=ZM (ZY g.decls e.num) v7) (Zd.forget _ _) (fc (x:=.i 1) li fl)))) ?_)))
  rintro m F h ⟨k,cs,u,Yf,Zh,Zv,Ys,XS,rfl,rfl,rfl⟩
  refine Yi 3 [1] (iw (I2 e.kids) (Y1 ((k:Int)<(e.kids.length:Int)) (fun Xg=>?_) (fun Xg=>?_)))
  ·refine ak (aq (ab 2 (ZE (X1 (VI [1] (XP (fun fz gz F h=>∃(mf:Nat),(UL g.decls e.op e.num (q+YZ ys3) cs.length=(q+YZ ys3)+mf)/\(mf<=3)/\(TZ g.decls e.op e.num us.length k=us.length+mf)/\F=sF [0,3,5,6,10,11,12,13] fz [(14,.i mf)]/\h=gz) ?_ ?_))))))
   ·refine ac (e.op==8) Zq (fun Xd=>?_) (fun Xd=>?_)
    ·refine aE 10 (ZK 6 10 [0,1,2,3] [2] (da 4 (((k-1:Nat):Int)) (((k:Int))-(1)) ?_))
     obtain ⟨x5,Uh⟩:=Zs (ZY g.decls e.num) (k-1) (by have:=h8 om;omega)
     exact dx 5 (Zi none ((k-1:Nat):Int) 1 (ZZ Uh)) (Zj 3 4 [6] (Z9 7 (Yp 7 [] [] [] (Ks g.decls x5) (dn 8 (.i (((ZV g.decls x5).length:Nat):Int)) (.i (((Z6 (ZV g.decls x5)).length:Nat):Int)) (li (by rw [Y8])) (Zj 0 1 [9] (de (ZQ ⟨(ZV g.decls x5).length,(LK om (by rw [show cs.length=k-1 by omega];exact Uh)),(by have:=VZ Xt x5;omega),(Zd1 om (show k=(k-1)+1 by omega) Uh),rfl,rfl⟩ (ZF 5 (fc (x:=.i (((ZV g.decls x5).length:Nat):Int)) (li (by first|rfl|(rw [Zf Xd])|(rw [Z8 Xd])|(simp [Xd];done)|(rw [Xl];simp [Xd];done)|omega)) fl)))))))))
    exact ak (ZQ ⟨0,(LL om),om,(RI om),rfl,rfl⟩ (ZF 5 (fc (x:=.i 0) (li (by first|rfl|(rw [Zf Xd])|(rw [Z8 Xd])|(simp [Xd];done)|(rw [Xl];simp [Xd];done)|omega)) fl)))
   rintro F h ⟨mf,Z97,Zgz,Z98,rfl,rfl⟩
   refine aE 25 (ZK 20 25 [0,1,2,3,4] [2,1] ?_)
   obtain ⟨x6,C3⟩:=Zs e.kids k om
   have hekx6:=CM hks C3
   have hszx6:=BX C3
   have htzx6:=B7 C3
   rw [Vd] at hekx6
   rw [Z98] at hekx6
   have htk:=Aj (xs:=e.kids) (k+1)
   have hbl:=EZ cs
   refine dx 5 (Zi none (k:Int) 3 (CJ C3)) (ZK 7 19 [6,7,8,9,10,11,12,15,16,17,18,19] [0,0] (da 20 ((((q+YZ ys3)+mf:Nat):Int)) (((((q+YZ ys3):Nat):Int))+((mf:Int))) (Z9 13 (dc 13 [] [0,1,2] [l,b2,b1] (Ir (q+YZ ys3) mf) ?_))))
   rintro _ _ ⟨xs1,rfl,rfl,YK⟩
   have hnx:=YK
   refine Z9 14 (dc 14 [] [0,1,2] [l,b2,b1] (K4 us xs1) ?_)
   rintro _ _ ⟨v8,rfl,rfl⟩
   refine Yt 4 4 [] [(98,Z4 (us++xs1))] (Z9 21 (dc 21 [] [] [] (Od g x6 (us++xs1) ((q+YZ ys3)+mf) e.sz (he:=(by rw [Yq,hnx.1];exact hekx6)) (hu:=(Zg0 hu hnx.2)) (hul:=(by rw [Yq,hnx.1];omega)) (hql:=om) (ih:=ih)) ?_))
   rintro _ _ ⟨b3,rfl,rfl,X9⟩
   have hlb:=X9
   exact Z9 22 (WE 22 [] [] [Y0 b3] (YL [b3]) (Td [b3]).symm 1 2 fun v9=>Yt 2 2 [] [(106,W6 [b3])] (Z9 23 (dp 23 5 [] [] (YL (cs++[b3])) (YL cs) (YL [b3]) u none 2 (TP _) (TP _) (Fh _) (by simp<;>omega) (by simp [Ag,YL]) fun v10=>Zj 0 1 [24] (de (az (Z1 1 (ZJ k (Z0 (ZL ⟨k+1,(cs++[b3]),v10,ob,ob,(NO Zv (by rw [Z97];exact hlb.1)),(by have:=hlb.2;rw [DH,Yq];simp only [X6,YQ,Xu];omega),(PO XS hlb.op),rfl,rfl,rfl⟩ (wk [3,3,3,0,2] (fw (ZO k fl))))))))))))
  refine ax 1 (Zw 6 [1,1] (iL (Z6 [v5]) 1 1 fun v11=>ZT 2 [(116,.agg [.i e.op,.i e.num,.i 0,Z4 [v5],W6 cs])] (ic [1,4] (O3 l (xs++ys3) w23 (q+YZ ys3) (Z5.mk e.op e.num 0 [v5] cs) (hl:=(by first|(have h1:=J3 zs;have h2:=Aj (xs:=e.kids) k;have h3:=B3 zs;(try simp only [Yq]);omega)|((try simp only [Yq]);omega))) (hq:=(by first|(have h1:=J3 zs;have h2:=Aj (xs:=e.kids) k;have h3:=B3 zs;(try simp only [Yq]);omega)|((try simp only [Yq]);omega)))) ?_)))
  rintro _ _ ⟨w24,rfl,rfl⟩
  refine Z0 ?_
  have hcb:YC e.op=false:=by simp [YC];omega
  exact ZD (r1 [0,0] ⟨(ys3++[Z5.mk e.op e.num 0 [v5] cs]),(((q+YZ ys3):Nat):Int),w24,rfl,rfl,(LW.branch (s0:=x4.sz) (sr:=Xy (e.kids.take k)-x4.sz) om (fun h=>by have:=h7 h;omega) (fun h=>by have:=h8 h;omega) hnum hlwhp3.fs hlwhp3.v Zv om hlwhp3.sz (by have:=EZ cs;omega) (by have:=Aj (xs:=e.kids) k;omega) hlwhp3.op XS)⟩ (eq:=(ro (ls:=[YY ((xs++ys3)++[(Z5.mk e.op e.num 0 [v5] cs)]) w24,.i ((((q+YZ ys3)+1):Nat):Int)]) (by rw [DM (s:=Z5.mk e.op e.num 0 [v5] cs) hcb,<-AM,Q1]) (rc rz))))
 refine ak (ar (iL (Z6 []) 0 1 fun v12=>?_))
 refine Z0 (Y9 (ab 3 (Y2 (fun fz gz m F h=>∃(k:Nat) (asl:LI) (u:Value) (zs:List Z5) (w3:Value),(k<=e.kids.length)/\(asl.length=k)/\(Tg g.decls g.funcs.length q zs)/\(∀a∈asl,0<=a/\a<((q+YZ zs:Nat):Int))/\(Y6 zs<=6*Xy (e.kids.take k))/\(TU WQ zs)/\F=sF [0,3,5,6] fz [(15,ZM asl u),(16,.i k)]/\h=[Zc gz 1,Zc gz 2,.obj l [YY (xs++zs) w3,.i (((q+YZ zs):Nat):Int)],.tail u 1,.tail w3 5]/\m=e.kids.length-k) _ _ _ ⟨0,[],v12,[],w,ob,ob,True.intro,(fun a ha=>by cases ha),(by simp [Y6]),True.intro,rfl,rfl,rfl⟩ (wk [1,1,1,0,0] (fr (Ya fl)) (e:=(rc (rc (ro (ls:=[YY xs w,.i q]) (by simp [YZ]) (rc (rc rz))))))) ?_)))
 rintro m F h ⟨k,asl,u,zs,w3,Uo,W2,XT,Jf,Zgn,N9,rfl,rfl,rfl⟩
 refine Yi 3 [0] (iw (I2 e.kids) (Y1 ((k:Int)<(e.kids.length:Int)) (fun VO=>?_) (fun VO=>?_)))
 ·refine ak (aq (ab 4 (aD 10 (ZK 5 10 [0,1,2,3,4] [1,0] ?_))))
  obtain ⟨x7,FM⟩:=Zs e.kids k om
  have hzl:=J3 zs
  have hzd:=B3 zs
  have htk:=Aj (xs:=e.kids) (k+1)
  have hekx7:=CM hks FM
  have hszx7:=BX FM
  have htzx7:=B7 FM
  rw [Vd] at hekx7
  rw [RI om] at hekx7
  refine dx 5 (Zi none (k:Int) 3 (CJ FM)) (Zj 2 4 [6,7] (Z9 8 (dc 8 [2,3] [] [] (ih l x7 us (xs++zs) w3 (q+YZ zs) (by first|assumption|(rw [Yq];assumption)) (by first|assumption|exact EC hu hlwhp1.v|exact H1 hu) (by first|omega|(simp only [Yq,YQ,Xu];omega)) (by first|omega|(simp only [Yq,YQ,Xu];omega)) ob ob) ?_)))
  rintro _ _ ⟨ys4,v13,w25,rfl,rfl,XK⟩
  have hlwhp6:=XK
  have hldhp6:=XK.dn
  exact Zj 0 1 [9] (de (az (Z1 2 (iL (Z6 [v13]) 1 1 fun v14=>ZT 0 [(137,Z4 [v13])] (ip 5 (Z6 (asl++[v13])) (Z6 asl) (Z6 [v13]) u none 1 (Yy _) (Yy _) (W5 _) (by simp<;>omega) (by simp [W4,Z6]) fun v15=>Z0 (az (Z1 1 (ZJ k (Z0 (ZL ⟨k+1,(asl++[v13]),v15,(zs++ys4),w25,ob,ob,(CO.2 ⟨XT,hlwhp6.fs⟩),(by rw [Jj,<-AM];exact EC Jf hlwhp6.v),(by have:=hlwhp6.sz;rw [TD];omega),(Gk.2 ⟨N9,hlwhp6.op⟩),rfl,rfl,rfl⟩ (wk [4,4,2,0,1] (fr (ZO k fl)) (e:=(rc (rc (ro (ls:=[YY ((xs++zs)++ys4) w25,.i ((((q+YZ zs)+YZ ys4):Nat):Int)]) (by rw [Jj,<-AM,Q1]) (rc (rc rz)))))))))))))))))
 refine ax 3 (Zw 6 [0,0] (iL (YL []) 0 2 fun v16=>ZT 1 [(146,.agg [.i e.op,.i e.num,.i 0,Z4 asl,W6 []])] (ic [3,4] (O3 l (xs++zs) w3 (q+YZ zs) (Z5.mk e.op e.num 0 asl []) (hl:=(by first|(have h1:=J3 zs;have h2:=Aj (xs:=e.kids) k;have h3:=B3 zs;(try simp only [Yq]);omega)|((try simp only [Yq]);omega))) (hq:=(by first|(have h1:=J3 zs;have h2:=Aj (xs:=e.kids) k;have h3:=B3 zs;(try simp only [Yq]);omega)|((try simp only [Yq]);omega)))) ?_)))
 rintro _ _ ⟨w26,rfl,rfl⟩
 refine Z0 ?_
 have hcb:YC e.op=false:=by simp [YC];omega
 exact ZD (r1 [0,0] ⟨(zs++[Z5.mk e.op e.num 0 asl []]),(((q+YZ zs):Nat):Int),w26,rfl,rfl,(LW.node om h9 hnum XT Jf om (by have:=Aj (xs:=e.kids) k;omega) N9)⟩ (eq:=(ro (ls:=[YY ((xs++zs)++[(Z5.mk e.op e.num 0 asl [])]) w26,.i ((((q+YZ zs)+1):Nat):Int)]) (by rw [DM (s:=Z5.mk e.op e.num 0 asl []) hcb,<-AM,<-Q1]) (rc rz))))
theorem Z6h (l:Nat) (g:Wa) (e:Z2) (us:LI) (xs:List Z5) (w:Value) (q:Nat) (hd:GD g.decls) (he:eW g.decls g.funcs.length us.length e) (hu:∀a∈us,0<=a/\a<(q:Int)) (hul:us.length+4*e.sz<=100000) (hxl:xs.length+6*e.sz<=100000) (hql:q+6*e.sz<=100000):Zl 224 [.p l 0,A9 g,Y4 e,Z4 us] [.obj l [YY xs w,.i q],.tail w 5] (fun r h=>∃(ys:List Z5) (v:Int) (w2:Value),r=.i v/\h=[.obj l [YY (xs++ys) w2,.i (((q+YZ ys):Nat):Int)],.tail w2 5]/\LW g.decls g.funcs.length q e ys v):=by
 have key:∀k:Nat,∀(l:Nat) (e2:Z2) (us2:LI) (xs2:List Z5) (w2:Value) (q2:Nat),(eW g.decls g.funcs.length us2.length e2)->(∀a∈us2,0<=a/\a<(q2:Int))->(us2.length+4*e2.sz<=100000)->(xs2.length+6*e2.sz<=100000)->(q2+6*e2.sz<=100000)->(e2.sz<k)->Zl 224 [.p l 0,A9 g,Y4 e2,Z4 us2] [.obj l [YY xs2 w2,.i q2],.tail w2 5] (fun r h=>∃(ys:List Z5) (v:Int) (w2:Value),r=.i v/\h=[.obj l [YY (xs2++ys) w2,.i (((q2+YZ ys):Nat):Int)],.tail w2 5]/\LW g.decls g.funcs.length q2 e2 ys v):=by
  intro k
  induction k with
  | zero=>intro l e2 us2 xs2 w2 q2 h1 h2 h3 h4 h5 h6;omega
  | succ k ih=>intro l e2 us2 xs2 w2 q2 h1 h2 h3 h4 h5 h6;exact Z6i l g e2 us2 xs2 w2 q2 hd h1 h2 h3 h4 h5 fun l e3 us3 xs3 w3 q3 a1 a2 a3 a4 a5 a6=>ih l e3 us3 xs3 w3 q3 a1 a2 a3 a4 a5 om
 exact key (e.sz+1) l e us xs w q he hu hul hxl hql om
theorem Iq (g:Wa) (e:Z2) (us:LI) (q:Nat) (hd:GD g.decls:=by exact ob) (he:eW g.decls g.funcs.length us.length e:=by exact ob) (hu:∀a∈us,0<=a/\a<(q:Int)) (hul:us.length+4*e.sz<=100000:=by exact ob) (hql:q+6*e.sz<=100000:=by exact ob):Zl 174 [A9 g,Y4 e,Z4 us,.i q] [] (fun r h=>∃(b:Z7),r=Y0 b/\h=[]/\LB g.decls g.funcs.length q e b):=(Od g e us q (e.sz+1) he hu hul hql om (fun l e2 us2 xs2 w2 q2 h1 h2 h3 h4 h5 _=>Z6h l g e2 us2 xs2 w2 q2 hd h1 h2 h3 h4 h5))
theorem Ch (ds:List Zg) (hd:Wr ds:=by exact ob):Zl 96 [ZU ds] [] (Yo (ZU ds)):=by
 have hdl:=hd.len
 refine ZG 55 Tryz.func96 (ZE (ar (iL (X3 []) 0 3 fun v1=>?_)))
 refine Z0 (Y9 (ab 0 (Y2 (fun fz gz m F h=>∃(k:Nat) (v:Value),(k<=ds.length)/\F=sF [0] fz [(3,JT (ds.take k) v),(4,.i k)]/\h=[.tail v 3]/\m=ds.length-k) _ _ _ ⟨0,v1,ob,rfl,rfl,rfl⟩ (wk [0] (fc (x:=JT [] v1) (Zd.slh _ (Yj X3 rfl)) (Ya fl))) ?_)))
 rintro m F h ⟨k,v,Yf,rfl,rfl,rfl⟩
 refine YF 2 (iw (Up ds) (Y1 ((k:Int)<(ds.length:Int)) (fun Za=>?_) (fun Za=>?_)))
 ·obtain ⟨xd,hxd⟩:=Zs ds k om
  have hcl:=hd.cons_at hxd
  refine ak (aq (ab 1 (ar (iL (WV []) 0 1 fun v2=>?_))))
  refine Z0 (Y9 (ab 2 (Y2 (fun fz gz m F h=>∃(j:Nat) (u:Value),(j<=xd.cons.length)/\F=sF [0,3,4] fz [(5,Gh (xd.cons.take j) u),(6,.i j)]/\h=[.tail u 1,Zc gz 1]/\m=xd.cons.length-j) _ _ _ ⟨0,v2,ob,rfl,rfl,rfl⟩ (wk [0,0] (fc (x:=Gh [] v2) (Zd.slh _ (Yj WV rfl)) (Ya fl))) ?_)))
  rintro m F h ⟨j,u,Uo,rfl,rfl,rfl⟩
  refine YF 3 (Zm (Zi none (k:Int) 3 (VM hxd)) (Z1 2 (iw (UW xd.cons) (Y1 ((j:Int)<(xd.cons.length:Int)) (fun Ze=>?_) (fun Ze=>?_)))))
  ·refine ak (aq (ab 3 (az (Z1 3 (Zm (Zi none (k:Int) 3 (VM hxd)) (Z1 3 ?_))))))
   obtain ⟨x1,Z3⟩:=Zs xd.cons j om
   have hfl:=hd.fields_at hxd Z3
   refine Zm (Zi none (j:Int) 1 (CG Z3)) (Z1 2 (ic [] (Uk x1.fields) ?_))
   rintro _ _ ⟨v3,rfl,rfl⟩
   exact ZT 1 [(36,DB x1)] (iL (WV [x1]) 1 1 fun v4=>ZT 0 [(37,KZ [x1])] (ip 2 (WV (xd.cons.take (j+1))) (WV (xd.cons.take j)) (WV [x1]) u none 1 (HZ _) (HZ _) (Z48 _) (by simp<;>omega) (by rw [V7 Z3];simp [WV]) fun v5=>Z0 (az (Z1 1 (ZJ j (Z0 (ZL ⟨j+1,v5,ob,rfl,rfl,rfl⟩ (wk [0,2] (fr (ZO j fl))))))))))
  exact ax 2 (aE 16 (Zj 13 16 [0,1,2] (dx 3 (Zi none (k:Int) 3 (VM hxd)) (Zj 8 12 [4,5,6,7] (dx 8 (Zi none (k:Int) 3 (VM hxd)) (Yt 3 7 [9,10,11,12] [(51,.agg [.i xd.frm,.i xd.to_,KZ (xd.cons.take j)])] (Z9 13 (dL 13 [] [] (X3 [Zg.mk xd.frm xd.to_ (xd.cons.take j)]) 1 3 fun v6=>Yt 2 2 [] [(52,ZU [Zg.mk xd.frm xd.to_ (xd.cons.take j)])] (Z9 14 (dp 14 2 [] [] (X3 (ds.take (k+1))) (X3 (ds.take k)) (X3 [Zg.mk xd.frm xd.to_ (xd.cons.take j)]) v none 3 (Jk _) (Jk _) (Fi _) (by simp<;>omega) (by rw [V7 hxd];simp [X3,Vi (show xd.cons.length<=j by omega)]) fun v7=>Zj 0 1 [15] (de (az (Z1 1 (ZJ k (Z0 (ZL ⟨k+1,v7,ob,rfl,rfl,rfl⟩ (wk [0] (fr (ZO k fl)))))))))))))))))))
 exact ax 0 (ar (Zr (Y3 (JT (ds.take k) v) (Zd.sl _ (Yj X3 (by rw [Vi om]))))))
theorem Z6p (g:Wa) (hg:Hk g:=by exact ob):Zl 133 [A9 g] [] (fun r h=>∃(n:Zk),r=Yn n/\h=[]/\FO n 181 WQ):=by
 have hgl:=hg.gp.len
 have Xt:=hg.gp.decls.ok
 refine ZG 49 Tryz.func133 (ar (iA (IR g) fun b1=>iA [nl,nl] fun b2=>ie (Zw 2 [1] (Zz [] (Ch g.decls) (iL (YP []) 0 5 fun v1=>Z1 1 (iA [nl,nl] fun b3=>?_))))))
 refine ZI 0 b3 [ZU g.decls,WF [] v1] (ie (Y9 (ab 0 (Y2 (fun fz gz m F h=>∃(k:Nat) (rs:List Yg) (u:Value),(k<=g.funcs.length)/\(rs.length=k)/\(∀r∈rs,RN g.decls g.funcs.length r)/\F=sF [1,2,3] fz [(4,.i k)]/\h=[.obj b3 [ZU g.decls,WF rs u],Zc gz 2,Zc gz 3,.tail u 5]/\m=g.funcs.length-k) _ _ _ ⟨0,[],v1,ob,ob,(fun r hr=>by cases hr),rfl,rfl,rfl⟩ (wk [0,1,1,0] (Ya fl)) ?_))))
 rintro m F h ⟨k,rs,u,Yf,Zh,Zv,rfl,rfl,rfl⟩
 refine Yi 3 [2] (iw (CK g.funcs) (Y1 ((k:Int)<(g.funcs.length:Int)) (fun Za=>?_) (fun Za=>?_)))
 ·refine ak (aq (ab 1 (Zw 3 [2] ?_)))
  obtain ⟨x1,Z3⟩:=Zs g.funcs k om
  have hso:=(hg.gp.sigs _ (ZX Z3)).bd
  have hsi:=hg.gp.sigs _ (ZX Z3)
  have hbo:=hg.body _ (ZX Z3)
  refine Zm (Zi none (k:Int) 5 (Fj Z3)) (Z1 1 (iA [nl,.i 0,.i 0,.i 0,nl] fun b4=>?_))
  refine ZI 0 b4 (G6 x1) (ie (Zw 2 [0] (iw (Y8 x1.params) (Z0 (aD 9 (ZK 4 9 [0,1,2,3,5] [3,0] (KJ (fun fz gz F h=>∃(b5:Z7) (b6:Nat) (xs1:LI),(xs1.length=x1.params.length/\∀i∈xs1,(0:Int)<=i/\i<(0:Int)+x1.params.length)/\(LB g.decls g.funcs.length x1.params.length x1.body b5)/\F=sF [1,2,3,4,5] fz [(7,.p b6 0)]/\h=[.obj b6 (Xk b5),Zc gz 0,Zc gz 1,Zc gz 2,Zc gz 3,Zc gz 4]) ?_ ?_)))))))
  ·refine VC 4 7 ?_ ?_
   ·refine dc 4 [] [0,3] [b4,b1] (Ir 0 x1.params.length) ?_
    rintro _ _ ⟨xs1,rfl,rfl,ZW⟩
    have hnx:=ZW
    refine VC 6 7 ?_ ?_
    ·refine dc 6 [] [] [] (Iq g x1.body xs1 x1.params.length (hd:=hg.gp.decls) (he:=(by rw [hnx.1];exact hbo.1)) (hu:=(fun a ha=>by have:=hnx.2 a ha;omega))) ?_
     rintro _ _ ⟨b5,rfl,rfl,Yh⟩
     have hlb:=Yh
     exact Z9 7 (dA 7 [] [] [nl,.i 0] fun b6=>Z9 8 (YJ 8 0 [] [] b6 (Xk b5) (de (ZQ ⟨_,b6,_,(by assumption),(by assumption),rfl,rfl⟩ (ZF 6 fl)))))
    refine dA 7 [0,3] [b4,b1] [nl,.i 0] fun b7=>Z9 6 (dc 6 [] [] [] (Iq g x1.body xs1 x1.params.length (hd:=hg.gp.decls) (he:=(by rw [hnx.1];exact hbo.1)) (hu:=(fun a ha=>by have:=hnx.2 a ha;omega))) ?_)
    rintro _ _ ⟨b8,rfl,rfl,YE⟩
    have hlb:=YE
    exact Z9 8 (YJ 8 0 [] [] b7 (Xk b8) (de (ZQ ⟨_,b7,_,(by assumption),(by assumption),rfl,rfl⟩ (ZF 6 fl))))
   refine dA 7 [0,3] [b4,b1] [nl,.i 0] fun b9=>Z9 4 (dc 4 [] [1,4] [b4,b1] (Ir 0 x1.params.length) ?_)
   rintro _ _ ⟨xs2,rfl,rfl,YK⟩
   have hnx:=YK
   refine Z9 6 (dc 6 [] [] [] (Iq g x1.body xs2 x1.params.length (hd:=hg.gp.decls) (he:=(by rw [hnx.1];exact hbo.1)) (hu:=(fun a ha=>by have:=hnx.2 a ha;omega))) ?_)
   rintro _ _ ⟨b10,rfl,rfl,X9⟩
   have hlb:=X9
   exact Z9 8 (YJ 8 0 [] [] b9 (Xk b10) (de (ZQ ⟨_,b9,_,(by assumption),(by assumption),rfl,rfl⟩ (ZF 6 fl))))
  rintro F h ⟨b5,b6,xs1,ZW,Yh,rfl,rfl⟩
  have hnx:=ZW
  have hlb:=Yh
  refine aE 14 (ZK 7 14 [0,1,2,3,6,7,8] [2,1,1,0] (VC 4 5 ?_ ?_))
  ·refine dc 4 [] [0,1,2] [b6,b4,b3] (Uk x1.params) ?_
   rintro _ _ ⟨v2,rfl,rfl⟩
   exact Z9 5 (dL 5 [0,1,2] [b6,b4,b3] (Z6 []) 0 1 fun v3=>Yt 4 5 [9] [(44,.agg [Z4 x1.params,Z4 [],.i x1.result,Wz b5.steps,.i b5.result])] (Z9 10 (dL 10 [2] [b3] (YP [Yg.mk x1.params [] x1.result (Z7.mk b5.steps b5.result)]) 1 5 fun v4=>Yt 3 3 [] [(45,Ko [Yg.mk x1.params [] x1.result (Z7.mk b5.steps b5.result)])] (Z9 11 (dp 11 8 [] [] (YP (rs++[Yg.mk x1.params [] x1.result (Z7.mk b5.steps b5.result)])) (YP rs) (YP [Yg.mk x1.params [] x1.result (Z7.mk b5.steps b5.result)]) u none 5 (UX _) (UX _) (B6 _) (by simp<;>omega) (by simp [BU,YP]) fun v5=>Zj 1 2 [12] (Z9 13 (YJ 13 6 [] [] b3 [ZU g.decls,WF (rs++[Yg.mk x1.params [] x1.result (Z7.mk b5.steps b5.result)]) v5] (de (az (Z1 1 (ZJ k (Z0 (ZL ⟨k+1,(rs++[Yg.mk x1.params [] x1.result (Z7.mk b5.steps b5.result)]),v5,ob,ob,(XC Zv (RN.of hsi hlb hbo.2)),rfl,rfl,rfl⟩ (wk [0,6,6,0] (ZO k fl)))))))))))))))
  refine dL 5 [0,1,1,2] [b6,b4,b4,b3] (Z6 []) 0 1 fun v6=>Z9 4 (dc 4 [] [0,1,2] [b6,b4,b3] (Uk x1.params) ?_)
  rintro _ _ ⟨v7,rfl,rfl⟩
  exact Yt 4 5 [9] [(44,.agg [Z4 x1.params,Z4 [],.i x1.result,Wz b5.steps,.i b5.result])] (Z9 10 (dL 10 [2] [b3] (YP [Yg.mk x1.params [] x1.result (Z7.mk b5.steps b5.result)]) 1 5 fun v8=>Yt 3 3 [] [(45,Ko [Yg.mk x1.params [] x1.result (Z7.mk b5.steps b5.result)])] (Z9 11 (dp 11 8 [] [] (YP (rs++[Yg.mk x1.params [] x1.result (Z7.mk b5.steps b5.result)])) (YP rs) (YP [Yg.mk x1.params [] x1.result (Z7.mk b5.steps b5.result)]) u none 5 (UX _) (UX _) (B6 _) (by simp<;>omega) (by simp [BU,YP]) fun v9=>Zj 1 2 [12] (Z9 13 (YJ 13 6 [] [] b3 [ZU g.decls,WF (rs++[Yg.mk x1.params [] x1.result (Z7.mk b5.steps b5.result)]) v9] (de (az (Z1 1 (ZJ k (Z0 (ZL ⟨k+1,(rs++[Yg.mk x1.params [] x1.result (Z7.mk b5.steps b5.result)]),v9,ob,ob,(XC Zv (RN.of hsi hlb hbo.2)),rfl,rfl,rfl⟩ (wk [0,6,6,0] (ZO k fl))))))))))))))
 exact ax 0 (Zw 1 [0] (ZI 1 b2 [ZU g.decls,WF rs u] (ie (ZD (r3 [] [.agg [ZU g.decls,WF rs u]] [0] [(b2,b2)] ⟨(Zk.mk g.decls rs),rfl,rfl,(RN.all hg.gp.decls (by show 1<=rs.length/\rs.length<=4;omega) (by show ∀r∈rs,RN g.decls rs.length r;rw [show rs.length=g.funcs.length by omega];exact Zv) om)⟩ (Zd.agg (.cons (lr _) (.cons (Zd.forget _ _) .nil))))))))
theorem Sf (n:Zk) (hz:VU n:=by exact ob):Zl 83 [Yn n] [] (Yo (.b (XH n))):=by
 have hzl:=hz.len
 refine ZG 35 Tryz.func83 (ar (iA (YS n) fun b1=>Z0 (Yi 1 [0] (Zz [] (Zek n (hz:=hz.decls) (hr:=(fun r hr=>⟨hz.params r hr,hz.lent r hr⟩))) (YD (!VP n) (p:=¬(VP n=true)) (Yr Iff.rfl) (fun Za=>?_) (fun Za=>?_))))))
 ·exact ar (Zr (Y3 (.b false) (lb (by first|rfl|omega|grind [XH]))))
 have hok:=La hz (by simpa using Za)
 refine ak (Y9 (ab 0 (Y2 (fun fz gz m F h=>∃(k:Nat),(k<=n.routines.length)/\(K1 n (n.routines.drop k)=K1 n n.routines)/\F=sF [1] fz [(3,.i k)]/\h=gz/\m=n.routines.length-k) _ _ _ ⟨0,ob,ob,rfl,rfl,rfl⟩ (wk [0] (Ya fl)) ?_)))
 rintro m F h ⟨k,Yf,Zh,rfl,rfl,rfl⟩
 refine Yi 3 [0] (iw (Uq n.routines) (Y1 ((k:Int)<(n.routines.length:Int)) (fun Ze=>?_) (fun Ze=>?_)))
 ·refine ak (aq (ab 1 (Zw 3 [0] ?_)))
  obtain ⟨x1,Z3⟩:=Zs n.routines k om
  have ZH:=hz.body _ (ZX Z3)
  have hps:=hok.params_at Z3
  refine Zm (Zi none (k:Int) 5 (Ww Z3)) (Z1 1 (iA [nl,nl,.i 0,nl,.i 0] fun b2=>ZI 0 b2 (KV x1) (ie (aD 15 (ZK 13 15 [0,1] [0] (Z9 2 (Yp 2 [] [] [] (Zef x1.body) (Ad [1,3] [(34,.b ((decide ((TM x1.body)<0))||((Xo n x1.params x1.body) != x1.result)))] (fun gz=>gz) ?_ ?_))))))))
  ·refine Zj 10 12 [3,4] (db (b:=(decide ((TM x1.body)<0))) 24 (fun Zb=>?_) (fun Zb=>?_))
   ·exact Zj 0 10 [5,6,7,8,9,10,11,12,13,14] (de (wk [0,0] (Zu true Zb fl)))
   exact ZK 3 10 [5,6,7,8,9,11,12] [1,0,0,0] (Z9 10 (Yp 10 [] [0] [b2] (S3 n x1.params x1.body ob ob) (Zj 0 2 [13,14] (de (wk [0,0] (Zu ((Xo n x1.params x1.body) != x1.result) Zb fl))))))
  refine ac ((decide ((TM x1.body)<0))||((Xo n x1.params x1.body) != x1.result)) (p:=((TM x1.body)<0)∨((Xo n x1.params x1.body)≠x1.result)) (Yl dq Ym) (fun ZC=>?_) (fun ZC=>?_)
  ·refine ZE ?_
   rw [Y7 Z3] at Zh
   exact ZD (Y3 (.b false) (lb (by clear Z3;first|rfl|omega|grind [K1,XH])))
  refine ak (az (Z1 1 (ZJ k (Z0 ?_))))
  have hdr:=Y7 Z3
  exact ZL ⟨k+1,ob,(by rw [hdr] at Zh;clear hdr Z3;grind [K1]),rfl,rfl,rfl⟩ (wk [1] (ZO k fl))
 refine ax 0 (ZE ?_)
 try rw [Xh (xs:=n.routines) (k:=k) om] at Zh
 exact ZD (Y3 (.b true) (lb (by first|rfl|omega|grind [K1,XH])))
end Go.Abs
