/-
  A part of the proof of FnBalancedRoutineUptoSaid (see the last file): no condition.
-/
import Derived.Test.YtjmahledcmocoaaGreatBarC
set_option linter.all false
set_option linter.unusedVariables false
set_option linter.unusedSimpArgs false
set_option linter.unusedSectionVars false
set_option maxRecDepth 10000
set_option maxHeartbeats 4000000
namespace Go.Abs
open Go.Proofs
theorem Z2w (b:Nat) (ga:Hd) (gb:Hd) (gc:Hd) (n:Zm) (L:Vg) (ln:LI) (am:List Xp) (xs:List Z5) (q:Int) (vs:LI) (hn:X1 n:=by exact ob) (hk:X8 n.decls L q:=by exact ob) (har:V0 n.decls L am:=by exact ob) (ht:XV n xs L.vars=some vs:=by exact ob) (hnn:∀t∈L.vars,0<=t) (hb:L.vars.length+am.length+4*Y9 xs<=900000000:=by exact ob) (hq:0<=q/\q+4*Y9 xs<=999999980:=by exact ob) (hr:UC xs:=by exact ob) (ih:∀(s2:Z5) (c:Nat) (ra:Hd) (rb:Hd) (rc:Hd) (M:Vg) (a2:List Xp) (p:Int),(s2.sz<=Y9 xs)->(X8 n.decls M p)->(V0 n.decls M a2)->(0<=Y8 n M.vars s2)->(∀t∈M.vars,0<=t)->(M.vars.length+a2.length+4*s2.sz<=900000000)->(0<=p/\p+4*s2.sz<=999999980)->(s2.rng)->Zi 154 [.p c 0,YD s2] [.obj c [ZP n.decls,YY n,Z4 ln,Xi a2,.h ra,.h rb,.h rc],rV ra M.vars,rV rb M.own,rV rc M.tok] (fun r h=>(∃(wa:Hd) (wb:Hd) (wc:Hd) (M':Vg),r=.b true/\h=[.obj c [ZP n.decls,YY n,Z4 ln,Xi a2,.h wa,.h wb,.h wc],rV wa M'.vars,rV wb M'.own,rV wc M'.tok]/\VV n ln M s2=some M')∨(r=.b false/\h=[]/\VV n ln M s2=none))):Zi 121 [.p b 0,WA xs] [.obj b [ZP n.decls,YY n,Z4 ln,Xi am,.h ga,.h gb,.h gc],rV ga L.vars,rV gb L.own,rV gc L.tok] (fun r h=>(∃(wa:Hd) (wb:Hd) (wc:Hd) (L':Vg),r=.b true/\h=[.obj b [ZP n.decls,YY n,Z4 ln,Xi am,.h wa,.h wb,.h wc],rV wa L'.vars,rV wb L'.own,rV wc L'.tok]/\WL n ln L xs=some L')∨(r=.b false/\h=[]/\WL n ln L xs=none)):=by
 have hxl:=Je xs
 refine ZG 18 Tryz.func121 (ZF (YO 1 (iw (VZ xs) (Z0 (ab 0 (Y3 (fun fz gz m F h=>∃(k:Nat) (q2:Int) (L2:Vg) (ka:Hd) (kb:Hd) (kc:Hd),(k<=xs.length)/\(X8 n.decls L2 q2)/\(0<=q2/\q2+4*Y9 (xs.drop k)<=999999980)/\(L2.vars.length+am.length+4*Y9 (xs.drop k)<=900000000)/\(XV n (xs.drop k) L2.vars=some vs)/\(WL n ln L2 (xs.drop k)=WL n ln L xs)/\(V0 n.decls L2 am)/\(∀t∈L2.vars,0<=t)/\F=sF [0,7,8] fz [(9,.i k)]/\h=[.obj b [ZP n.decls,YY n,Z4 ln,Xi am,.h ka,.h kb,.h kc],rV ka L2.vars,rV kb L2.own,rV kc L2.tok]/\m=xs.length-k) _ _ _ ⟨0,q,L,ga,gb,gc,ob,hk,(by rw [Km];omega),(by rw [Km];omega),ht,rfl,har,hnn,rfl,rfl,rfl⟩ (ZI 4 (Yb fl)) ?_))))))
 rintro m F h ⟨k,q2,L2,ka,kb,kc,Ye,Zk,Zu,Yu,XX,QW,HU,Ns,rfl,rfl,rfl⟩
 refine ZF (aq (XW ((k:Int)<(xs.length:Int)) (fun Za=>?_) (fun Za=>?_)))
 ·obtain ⟨s1,hs1⟩:=Zs xs k om
  have hdr:=Y7 hs1
  have hz:Y9 (xs.drop k)=s1.sz+Y9 (xs.drop (k+1)):=by rw [hdr,Y9]
  have Xo:=Z01 hs1
  have hsr:=Mj hr hs1
  rw [hdr] at XX QW
  obtain ⟨g1,g2⟩:=EN XX
  refine ak (aq (ab 1 (ar (Zo (Zj none (k:Int) 5 (WR hs1)) (Z1 1 (iA [.i 0,.i 0,.i 0,nl,nl] fun b1=>ZC 0 b1 (Xv s1) (ie (Zw 2 [0] (ic [1,1,1,1] (ih s1 b ka kb kc L2 am q2 ob Zk HU g1 Ns om om hsr) ?_)))))))))
  rintro _ _ (⟨wa1,wb1,wc1,M'1,rfl,rfl,ZY⟩|⟨rfl,rfl,Yi⟩)
  ·have hP:=ZY
   have kx:=H3 hn Zk Zu.1 g1 hP
   exact Z0 (Wj (ak (az (ZJ k (Z0 (ZK ⟨k+1,(q2+4*s1.sz),M'1,wa1,wb1,wc1,ob,kx.1,om,(by rw [kx.2];have:=GS n L2.vars s1;omega),(by rw [kx.2];exact g2),(by rw [<-QW,WL,hP];rfl),(Z0c hn Zk Zu.1 g1 hP HU),(by rw [kx.2];exact Zfe Ns g1),rfl,rfl,rfl⟩ (ZI 4 (ZO k fl))))))))
  have hP:=Yi
  exact Z0 (Wa (ar (Zq (r1 [] (.inr ⟨rfl,rfl,(by rw [<-QW,WL,hP];rfl)⟩)))))
 exact ax 0 (ar (Zq (r1 [0,0,0,0] (.inl ⟨ka,kb,kc,L2,rfl,rfl,(by rw [<-QW,Xf om];rfl)⟩))))
theorem Ny (am:List Xp) (hl:am.length<=1000000000:=by exact ob):Zi 287 [Xi am] [] (fun r h=>∃(v:Value),r=Lr am v/\h=[.tail v 4]):=by
 refine ZG 8 Tryz.func287 (ZF (YO 1 (iN (WQ am) (fun hz1=>?_) ?_)))
 ·have hz1:=Z58 hz1
  exact ie (Wa (ZF (Kq 4 (ZD (r2 [0] [nl] ⟨(.slice none 0 0),rfl,rfl⟩ (Zc.slh _ (by first|rfl|(subst_vars;rfl))))))))
 exact ie (Wj (ak (ar (iL (WQ []) 0 4 fun v1=>Z1 1 (ip 0 (WQ am) (WQ []) (WQ am) v1 none 4 (CI _) (CI _) (I7 _) (by simp<;>omega) (by simp [WQ]) fun v2=>Zq (r1 [0] ⟨v2,rfl,rfl⟩))))))
theorem N5 (am:List Xp) (a:Xp) (hl:am.length<=900000000:=by exact ob):Zi 260 [Xi am,.agg [.i a.mat,.i a.fst,Z4 a.fds,.b a.chg]] [] (Yj (Xi (am++[a]))):=by
 refine ZG 10 Tryz.func260 (ar (iA [.i a.mat,.i a.fst,Z4 a.fds,.b a.chg] fun b1=>?_))
 refine Z0 (aD 6 (ZH 4 6 [0,2] [0] (KY (fun fz gz F h=>∃(v3:Value),F=sF [] fz [(4,Lr (am++[a]) v3)]/\h=gz) ?_ ?_)))
 ·refine VH 1 3 ?_ ?_
  ·refine dc 1 [] [0] [b1] (Ny am) ?_
   rintro _ _ ⟨v1,rfl,rfl⟩
   exact Z9 3 (dL 3 [] [] (WQ [a]) 1 4 fun v2=>Yt 2 2 [] [(8,Xi [a])] (Z9 4 (dp 4 1 [] [] (WQ (am++[a])) (WQ am) (WQ [a]) v1 none 4 (CI _) (CI _) (I7 _) (by simp<;>omega) (by simp [NP,WQ]) fun v3=>Zl 0 1 [5] (de (ZT ⟨v3,rfl,rfl⟩ (wk [2] fl))))))
  refine dL 3 [] [] (WQ [a]) 1 4 fun v4=>Z9 1 (dc 1 [] [] [] (Ny am) ?_)
  rintro _ _ ⟨v5,rfl,rfl⟩
  exact Yt 2 2 [] [(8,Xi [a])] (Z9 4 (dp 4 0 [] [] (WQ (am++[a])) (WQ am) (WQ [a]) v5 none 4 (CI _) (CI _) (I7 _) (by simp<;>omega) (by simp [NP,WQ]) fun v6=>Zl 0 1 [5] (de (ZT ⟨v6,rfl,rfl⟩ (wk [2] fl)))))
 rintro F h ⟨v3,rfl,rfl⟩
 exact ZD (Y2 (Lr (am++[a]) v3) (Zc.forget _ _))
theorem Z2p (b:Nat) (ga:Hd) (gb:Hd) (gc:Hd) (n:Zm) (L:Vg) (ln:LI) (am:List Xp) (s:Z5) (q:Int) (hn:X1 n:=by exact ob) (hty:Kn n:=by exact ob) (hlt:BW n:=by exact ob) (hk:X8 n.decls L q:=by exact ob) (har:V0 n.decls L am:=by exact ob) (hln:ln.length<=4294967296:=by exact ob) (hf:Ag n L.vars s:=by exact ob) (hop:s.op=7∨s.op=8:=by exact ob) (hnn:∀t∈L.vars,0<=t) (hb:L.vars.length+am.length+4*s.sz<=900000000:=by exact ob) (hq:0<=q/\q+4*s.sz<=999999980:=by exact ob) (hr:s.rng:=by exact ob) (ih:∀(ys:List Z5) (c:Nat) (ra:Hd) (rb:Hd) (rc:Hd) (M:Vg) (a2:List Xp) (p:Int) (vs:LI),(Y9 ys<s.sz)->(X8 n.decls M p)->(V0 n.decls M a2)->(XV n ys M.vars=some vs)->(∀t∈M.vars,0<=t)->(M.vars.length+a2.length+4*Y9 ys<=900000000)->(0<=p/\p+4*Y9 ys<=999999980)->(UC ys)->Zi 121 [.p c 0,WA ys] [.obj c [ZP n.decls,YY n,Z4 ln,Xi a2,.h ra,.h rb,.h rc],rV ra M.vars,rV rb M.own,rV rc M.tok] (fun r h=>(∃(wa:Hd) (wb:Hd) (wc:Hd) (M':Vg),r=.b true/\h=[.obj c [ZP n.decls,YY n,Z4 ln,Xi a2,.h wa,.h wb,.h wc],rV wa M'.vars,rV wb M'.own,rV wc M'.tok]/\WL n ln M ys=some M')∨(r=.b false/\h=[]/\WL n ln M ys=none))):Zi 201 [.p b 0,YD s] [.obj b [ZP n.decls,YY n,Z4 ln,Xi am,.h ga,.h gb,.h gc],rV ga L.vars,rV gb L.own,rV gc L.tok] (fun r h=>(∃(wa:Hd) (wb:Hd) (wc:Hd) (L':Vg),r=.b true/\h=[.obj b [ZP n.decls,YY n,Z4 ln,Xi am,.h wa,.h wb,.h wc],rV wa L'.vars,rV wb L'.own,rV wc L'.tok]/\Js n ln L s=some L')∨(r=.b false/\h=[]/\Js n ln L s=none)):=by
 have hlk:=hk.len
 obtain ⟨e1,e2,e3,e4,e5⟩:=hk.len
 have Xu:=hn.decls
 have hkz:=TF s
 have haz:=Qh s
 obtain ⟨hk1,hk2,hk3⟩:=hf.kids hop
 obtain ⟨kd,hkd⟩:=Zs s.kids 0 om
 obtain ⟨x,hxa⟩:=hf.one om
 have ha:s.args[0]? = some x:=by rw [hxa];rfl
 have hx:=hf.args x (by rw [hxa];simp)
 have hgx:=Jz ha
 have hal0:=(Xk.1 ha).1
 have hr2:=hr
 rw [s.rng_eq] at hr2
 refine ZG 156 Tryz.func201 (ar (iA (Xv s) fun b1=>Z0 (X4 (Xr [0,3] [(24,.b ((s.op==8)&&(!Wk L ln x)))] (fun gz=>[Zd gz 1,Zd gz 2,Zd gz 3,Zd gz 4,Zd gz 0]) ?_ ?_))))
 ·refine ZM 4 [0] (ib (b:=(s.op==8)) 16 (fun Zb=>?_) (fun Zb=>?_))
  ·have ZY:s.op=8:=(Zp).1 Zb
   exact ZM 3 [0] (Zo (Zj none 0 1 (Y1 ha)) (Z1 1 (Zx [1,1,1,1] (HM b ga gb gc n L ln am x ob ob ob ob ob hk.down ob) (Z0 (ZI 5 (Zt (!Wk L ln x) Zb fl))))))
  have Yi:¬(s.op=8):=Yc Zp Zb
  exact Z0 (wk [1,1,1,1,0] (Zt false Zb fl))
 refine ac ((s.op==8)&&(!Wk L ln x)) (p:=(s.op=8)/\(¬(Wk L ln x=true))) (YC Zp (YE Iff.rfl)) (fun Za=>?_) (fun Za=>?_)
 ·exact ar (Zq (r1 [] (.inr ⟨rfl,rfl,(Z3f Za.1 (by rw [hgx];exact Za.2))⟩)))
 have hgo:=Nx (n:=n) (ln:=ln) (L:=L) (s:=s) (by rw [hgx];exact Za) hkd
 refine ak (Zw 2 [4] (iw (Uk s.kids) (iMN s.kids.length s.kids.length fun v1=>?_)))
 refine Z0 (X4 (VL [5] (XR (fun fz gz F h=>F=sF [0,3] fz [(5,K9 (Xj n.decls s.op s.num))]/\h=[Zd gz 1,Zd gz 2,Zd gz 3,Zd gz 4,Zd gz 5]) ?_ ?_)))
 ·refine ac (s.op==8) Zp (fun Zh=>?_) (fun Zh=>?_)
  ·exact aE 8 (ZH 2 8 [0,1,2,3,4,5] [1,5] (Z9 6 (Yo 6 [] [] [] (P2 _ s.num) (Zl 0 1 [7] (de (ZT ⟨rfl,rfl⟩ (wk [1,1,1,1,1] (fc (x:=K9 ((ZX n.decls s.num).map (ZV n.decls))) (Zc.sl _ (Yn Wo (by rw [Xj,Z8 om]))) fl))))))))
  exact ak (ZT ⟨rfl,rfl⟩ (wk [1,1,1,1,1] (fc (x:=Br (List.replicate s.kids.length []) v1) (Zc.sl _ (Yn Wo (by rw [show s.kids.length=2 by rw [hk1,Xj,Ze om];rfl,Xj,Ze om];rfl))) fl)))
 rintro F h ⟨rfl,rfl⟩
 refine Zw 4 [0] (Zo (Ji 1 ga L.vars) (Z0 (ZF (Yk 2 [4] (iw (Uk s.kids) (Z0 (ab 0 (Y3 (fun fz gz m F h=>(∃(k:Nat),(k=0)/\F=sF [0,3,5,6,7,45,46] fz [(47,.i k)]/\h=gz/\m=s.kids.length-k)∨(∃(k:Nat) (c0:Nat) (ua:Hd) (ub:Hd) (uc:Hd) (O:Vg) (aO:List Xp),(1<=k/\k<=s.kids.length)/\(WO n ln (VA n.decls L s.op s.num s.args 0) L.vars.length kd=some (O.take L.vars.length))/\(L.vars.length<=O.own.length/\O.own.length<=1000000000/\L.vars.length<=O.tok.length/\O.tok.length<=1000000000)/\(TN n ln L s.op s.num s.args (O.take L.vars.length) (s.kids.drop k) k=TN n ln L s.op s.num s.args (O.take L.vars.length) (s.kids.drop 1) 1)/\F=sF [0,3,5,6,45,46] fz [(7,.p c0 0),(47,.i k)]/\h=[.obj c0 [ZP n.decls,YY n,Z4 ln,Xi aO,.h ua,.h ub,.h uc],rV ua O.vars,rV ub O.own,rV uc O.tok,Zd gz 0,Zd gz 1,Zd gz 2,Zd gz 3,Zd gz 4]/\m=s.kids.length-k)) _ _ _ (.inl ⟨0,rfl,rfl,rfl,rfl⟩) (ZI 5 (Yb fl)) ?_))))))))
 rintro m F h (⟨k,Ye,rfl,rfl,rfl⟩|⟨k,c0,ua,ub,uc,O,aO,d0_0,d0_1,d0_2,d0_3,rfl,rfl,rfl⟩)
 ·refine ZF (aq (XW ((k:Int)<(s.kids.length:Int)) (fun ZE=>?_) (fun ZE=>?_)))
  ·obtain ⟨ke,hke⟩:=Zs s.kids k om
   obtain ⟨mk,hmk⟩:=Zs (Xj n.decls s.op s.num) k om
   have hK:=Dc hk hq.1 hf hop hmk
   have hmk3:=F3 Xu hmk
   have hks:=TE hke
   have hbt:=hk3 k ke mk hke hmk
   obtain ⟨vs,rt,hvs,hres,hrt⟩:=DK hbt
   have hri:=KX hres
   have hsrr:UC ke.steps:=by
    have h:=F8 hr2.2 hke
    rwa [Z6.rng_eq] at h
   have hbz:=ke.sz_eq
   have hak:=N2 hn har hlk hop (by rw [hgx];exact hx) hmk
   have hsl:=H4 hvs
   rw [Yr] at hsl
   have hkl:=N1 (L:=L) (am:=am) (s:=s) (m:=mk)
   refine ak (aq (ab 1 (Y6 1 (Zo (Zj none (k:Int) 2 (UT hke)) (Z1 1 (iA [nl,.i 0] fun b2=>Z1 1 (ZC 0 b2 (Xd ke) (ie (Y6 1 (ic [1,1,1,1] (Ni b ga gb gc n L ln am) ?_))))))))))
   rintro _ _ ⟨c1,wa1,wb1,wc1,rfl,rfl⟩
   refine Z0 (X4 (VL [9] (XR (fun fz gz F h=>F=sF [0,3,5,6,7,8,9,10,45,46,47] fz []/\h=[.obj c1 [ZP n.decls,YY n,Z4 ln,Xi (TK L am s mk),.h wa1,.h wb1,.h wc1],Zd gz 1,Zd gz 2,Zd gz 3,Zd gz 4,Zd gz 5,Zd gz 6,Zd gz 7,Zd gz 8,Zd gz 9]) ?_ ?_)))
   ·refine ac (s.op==8) Zp (fun Yf=>?_) (fun Yf=>?_)
    ·exact aE 19 (ZH 12 19 [0,1,2,3,4,5,6] [4,9] (dx 7 (Zj none 0 1 (Y1 ha)) (Zl 7 11 [8,9,10,11] (dx 12 (Zj none (k:Int) 1 (Ba hmk)) (Zl 4 6 [13,14] (Z9 15 (Yo 15 [] [] [] (N5 am (Xp.mk x (L.vars.length:Int) mk false)) (Zl 1 3 [16,17] (Z9 18 (YK 18 0 [] [] c1 [ZP n.decls,YY n,Z4 ln,Xi (am++[(Xp.mk x (L.vars.length:Int) mk false)]),.h wa1,.h wb1,.h wc1] (de (ZT ⟨rfl,rfl⟩ (ZI 10 fl (e:=(ro (ls:=[ZP n.decls,YY n,Z4 ln,Xi (am++[(Xp.mk x (L.vars.length:Int) mk false)]),.h wa1,.h wb1,.h wc1]) (by rw [TK,Ze ‹s.op=8›,hgx]) (rc (rc (rc (rc (rc (rc (rc (rc (rc rz))))))))))))))))))))))))
    exact ak (ZT ⟨rfl,rfl⟩ (ZI 10 fl (e:=(ro (ls:=[ZP n.decls,YY n,Z4 ln,Xi am,.h wa1,.h wb1,.h wc1]) (by rw [TK,Z8 ‹¬s.op=8›]) (rc (rc (rc (rc (rc (rc (rc (rc (rc rz)))))))))))))
   rintro F h ⟨rfl,rfl⟩
   refine YO 2 (Zo (Zj none (k:Int) 1 (Ba hmk)) (Z1 1 (iw (Yd mk) (Z0 (ab 2 (Y3 (fun fz gz m F h=>∃(j:Nat) (L3:Vg) (ka:Hd) (kb:Hd) (kc:Hd),(j<=mk.length)/\(WB L3)/\(L3.vars.length=L.vars.length+j)/\(J2 L3 (gI s.args 0) (mk.drop j)=VA n.decls L s.op s.num s.args k)/\F=sF [0,3,5,6,7,9,10,45,46,47,78,79] fz [(80,.i j)]/\h=[.obj c1 [ZP n.decls,YY n,Z4 ln,Xi (TK L am s mk),.h ka,.h kb,.h kc],Zd gz 4,Zd gz 5,Zd gz 6,Zd gz 7,Zd gz 8,Zd gz 9,rV ka L3.vars,rV kb L3.own,rV kc L3.tok]/\m=mk.length-j) _ _ _ ⟨0,(Jf n L s k),wa1,wb1,wc1,ob,(Z0a hlk),(by rw [BG];rfl),(by rw [Km];exact Z09 hop hmk),rfl,rfl,rfl⟩ (wk [0,3,3,3,3,3,3,0,0,0] (Yb fl) (e:=(rc (rc (rc (rc (rc (rc (rc (rv (xs:=L.vars) (by first|rw [BG]|rw [Dt]|rw [Du]) (rv (xs:=L.own) (by first|rw [BG]|rw [Dt]|rw [Du]) (rv (xs:=L.tok) (by first|rw [BG]|rw [Dt]|rw [Du]) rz)))))))))))) ?_))))))
   rintro m F h ⟨j,L3,ka,kb,kc,U3,XY,XJ,Jr,rfl,rfl,rfl⟩
   refine ZF (aq (XW ((j:Int)<(mk.length:Int)) (fun Xb=>?_) (fun Xb=>?_)))
   ·obtain ⟨xm,hxm⟩:=Zs mk j om
    refine ak (aq (ab 3 (ar (Zo (Zj none (j:Int) 1 (Y1 hxm)) (Z0 (az (Z1 2 (ic [0,6,6,6] (Cz c1 ka kb kc n L3 ln (TK L am s mk) xm 0 (hlk:=XY)) ?_))))))))
    rintro _ _ ⟨wa2,wb2,wc2,rfl⟩
    exact ie (az (ZJ j (Z0 (ZK ⟨j+1,(L3.grow xm 0 (gI s.args 0)),wa2,wb2,wc2,ob,(WB.grow XY),(by simp [Zr.grow];omega),(by rw [Y7 hxm,J2] at Jr;exact Jr),rfl,rfl,rfl⟩ (wk [0,3,3,3,3,3,3,0,0,0] (ZO j fl) (e:=(rc (rc (rc (rc (rc (rc (rc (rv (xs:=(L3.grow xm 0 (-1)).vars) ob (rv (xs:=(L3.grow xm 0 (-1)).own) ob (rv (xs:=(L3.grow xm 0 (-1)).tok) ob rz))))))))))))))))
   have hE:L3=VA n.decls L s.op s.num s.args k:=by rw [<-Jr,Xf om];rfl
   have hL3v:L3.vars=L.vars++mk:=by rw [hE];exact hK.2
   have hL3l:L3.vars.length=L.vars.length+mk.length:=by rw [hL3v,Yr]
   refine ax 2 (Yk 3 [5] (ic [0,6,6,6] (ih ke.steps c1 ka kb kc L3 (TK L am s mk) q vs ob (by rw [hE];exact hK.1) (by rw [hE];exact hak) (by rw [hL3v];exact hvs) (by rw [hL3v];exact Eo hnn (N3 hty hmk)) om om hsrr) ?_))
   rintro _ _ (⟨wa3,wb3,wc3,M'1,rfl,rfl,YL⟩|⟨rfl,rfl,YP⟩)
   ·have hP:=YL
    have kx:=H5 hn (by rw [hE];exact hK.1) hq.1 (by rw [hE];exact hak) (by rw [hL3v];exact hvs) hP
    have kl:=kx.1.len
    have hm1:(Wf M'1 ke.result).own.length=vs.length:=by rw [Fv.1,kl.own,kx.2.1]
    have hm2:(Wf M'1 ke.result).tok.length=vs.length:=by rw [Fv.2.1,kl.tok,kx.2.1]
    refine ZM 5 [8] (ic [0,0,0,0] (HN c1 wa3 wb3 wc3 n M'1 ln (TK L am s mk) ke L.vars.length (hlk:=kl) (hlb:=(by rw [kx.2.1];omega)) (hm:=(by rw [kx.2.1];omega)) (hr:=(by rw [kx.2.1];omega)) (hq:=(fun y hy=>by have h1:=kx.1.nn y hy;have h2:=kx.1.bd y hy;omega))) ?_)
    rintro _ _ (⟨rfl,rfl,Xc⟩|⟨rfl,rfl,XT⟩)
    ·have hB:=Xc
     rw [<-H6 (f:=U9 L.vars.length ke.result) hP,hE,<-Jq] at hB
     exact Z0 (Wj (ak (ab 4 (Y6 1 (iQ true (Z0 (Wa (Td (az (ZJ k (Z0 (ZK (.inr ⟨k+1,c1,wa3,wb3,wc3,(Wf M'1 ke.result),(TK L am s mk),om,(by subst Ye;have e:=Q3 (hkd.symm.trans hke);subst e;exact hB),om,(by subst Ye;rfl),rfl,rfl,rfl⟩) (wk [0,0,0,0,0,0,0,0,1] (fr (ZO k fl)))))))))))))))
    have hB:=XT
    rw [<-H6 (f:=U9 L.vars.length ke.result) hP,hE,<-Jq] at hB
    exact Z0 (Wa (ar (Zq (r1 [] (.inr ⟨rfl,rfl,(by subst Ye;have e:=Q3 (hkd.symm.trans hke);subst e;rw [hgo,hB];rfl)⟩)))))
   have hB:WO n ln (VA n.decls L s.op s.num s.args k) L.vars.length ke=none:=by rw [Jq,<-hE,YP];rfl
   exact Z0 (Wa (ar (Zq (r1 [] (.inr ⟨rfl,rfl,(by subst Ye;have e:=Q3 (hkd.symm.trans hke);subst e;rw [hgo,hB];rfl)⟩)))))
  exact absurd hk2 om
 refine ZF (aq (XW ((k:Int)<(s.kids.length:Int)) (fun Xg=>?_) (fun Xg=>?_)))
 ·obtain ⟨ke,hke⟩:=Zs s.kids k om
  obtain ⟨mk,hmk⟩:=Zs (Xj n.decls s.op s.num) k om
  have hK:=Dc hk hq.1 hf hop hmk
  have hmk3:=F3 Xu hmk
  have hks:=TE hke
  have hbt:=hk3 k ke mk hke hmk
  obtain ⟨vs,rt,hvs,hres,hrt⟩:=DK hbt
  have hri:=KX hres
  have hsrr:UC ke.steps:=by
   have h:=F8 hr2.2 hke
   rwa [Z6.rng_eq] at h
  have hbz:=ke.sz_eq
  have hak:=N2 hn har hlk hop (by rw [hgx];exact hx) hmk
  have hsl:=H4 hvs
  rw [Yr] at hsl
  have hkl:=N1 (L:=L) (am:=am) (s:=s) (m:=mk)
  refine ak (aq (ab 1 (Y6 1 (Zo (Zj none (k:Int) 2 (UT hke)) (Z1 1 (iA [nl,.i 0] fun b3=>Z1 1 (ZC 0 b3 (Xd ke) (ie (Y6 1 (ic [5,5,5,5] (Ni b ga gb gc n L ln am) ?_))))))))))
  rintro _ _ ⟨c2,wa4,wb4,wc4,rfl,rfl⟩
  refine Z0 (X4 (VL [13] (XR (fun fz gz F h=>F=sF [0,3,5,6,7,8,9,10,45,46,47] fz []/\h=[.obj c2 [ZP n.decls,YY n,Z4 ln,Xi (TK L am s mk),.h wa4,.h wb4,.h wc4],Zd gz 1,Zd gz 2,Zd gz 3,Zd gz 4,Zd gz 5,Zd gz 6,Zd gz 7,Zd gz 8,Zd gz 9,Zd gz 10,Zd gz 11,Zd gz 12,Zd gz 13]) ?_ ?_)))
  ·refine ac (s.op==8) Zp (fun VS=>?_) (fun VS=>?_)
   ·exact aE 19 (ZH 12 19 [0,1,2,3,4,5,6] [4,13] (dx 7 (Zj none 0 1 (Y1 ha)) (Zl 7 11 [8,9,10,11] (dx 12 (Zj none (k:Int) 1 (Ba hmk)) (Zl 4 6 [13,14] (Z9 15 (Yo 15 [] [] [] (N5 am (Xp.mk x (L.vars.length:Int) mk false)) (Zl 1 3 [16,17] (Z9 18 (YK 18 0 [] [] c2 [ZP n.decls,YY n,Z4 ln,Xi (am++[(Xp.mk x (L.vars.length:Int) mk false)]),.h wa4,.h wb4,.h wc4] (de (ZT ⟨rfl,rfl⟩ (ZI 14 fl (e:=(ro (ls:=[ZP n.decls,YY n,Z4 ln,Xi (am++[(Xp.mk x (L.vars.length:Int) mk false)]),.h wa4,.h wb4,.h wc4]) (by rw [TK,Ze ‹s.op=8›,hgx]) (rc (rc (rc (rc (rc (rc (rc (rc (rc (rc (rc (rc (rc rz))))))))))))))))))))))))))))
   exact ak (ZT ⟨rfl,rfl⟩ (ZI 14 fl (e:=(ro (ls:=[ZP n.decls,YY n,Z4 ln,Xi am,.h wa4,.h wb4,.h wc4]) (by rw [TK,Z8 ‹¬s.op=8›]) (rc (rc (rc (rc (rc (rc (rc (rc (rc (rc (rc (rc (rc rz)))))))))))))))))
  rintro F h ⟨rfl,rfl⟩
  refine YO 2 (Zo (Zj none (k:Int) 1 (Ba hmk)) (Z1 1 (iw (Yd mk) (Z0 (ab 2 (Y3 (fun fz gz m F h=>∃(j:Nat) (L3:Vg) (ka:Hd) (kb:Hd) (kc:Hd),(j<=mk.length)/\(WB L3)/\(L3.vars.length=L.vars.length+j)/\(J2 L3 (gI s.args 0) (mk.drop j)=VA n.decls L s.op s.num s.args k)/\F=sF [0,3,5,6,7,9,10,45,46,47,78,79] fz [(80,.i j)]/\h=[.obj c2 [ZP n.decls,YY n,Z4 ln,Xi (TK L am s mk),.h ka,.h kb,.h kc],Zd gz 4,Zd gz 5,Zd gz 6,Zd gz 7,Zd gz 8,Zd gz 9,Zd gz 10,Zd gz 11,Zd gz 12,Zd gz 13,rV ka L3.vars,rV kb L3.own,rV kc L3.tok]/\m=mk.length-j) _ _ _ ⟨0,(Jf n L s k),wa4,wb4,wc4,ob,(Z0a hlk),(by rw [BG];rfl),(by rw [Km];exact Z09 hop hmk),rfl,rfl,rfl⟩ (wk [0,3,3,3,3,3,3,3,3,3,3,0,0,0] (Yb fl) (e:=(rc (rc (rc (rc (rc (rc (rc (rc (rc (rc (rc (rv (xs:=L.vars) (by first|rw [BG]|rw [Dt]|rw [Du]) (rv (xs:=L.own) (by first|rw [BG]|rw [Dt]|rw [Du]) (rv (xs:=L.tok) (by first|rw [BG]|rw [Dt]|rw [Du]) rz)))))))))))))))) ?_))))))
  rintro m F h ⟨j,L3,ka,kb,kc,U3,XY,XJ,Jr,rfl,rfl,rfl⟩
  refine ZF (aq (XW ((j:Int)<(mk.length:Int)) (fun VJ=>?_) (fun VJ=>?_)))
  ·obtain ⟨xm,hxm⟩:=Zs mk j om
   refine ak (aq (ab 3 (ar (Zo (Zj none (j:Int) 1 (Y1 hxm)) (Z0 (az (Z1 2 (ic [0,10,10,10] (Cz c2 ka kb kc n L3 ln (TK L am s mk) xm 0 (hlk:=XY)) ?_))))))))
   rintro _ _ ⟨wa5,wb5,wc5,rfl⟩
   exact ie (az (ZJ j (Z0 (ZK ⟨j+1,(L3.grow xm 0 (gI s.args 0)),wa5,wb5,wc5,ob,(WB.grow XY),(by simp [Zr.grow];omega),(by rw [Y7 hxm,J2] at Jr;exact Jr),rfl,rfl,rfl⟩ (wk [0,3,3,3,3,3,3,3,3,3,3,0,0,0] (ZO j fl) (e:=(rc (rc (rc (rc (rc (rc (rc (rc (rc (rc (rc (rv (xs:=(L3.grow xm 0 (-1)).vars) ob (rv (xs:=(L3.grow xm 0 (-1)).own) ob (rv (xs:=(L3.grow xm 0 (-1)).tok) ob rz))))))))))))))))))))
  have hE:L3=VA n.decls L s.op s.num s.args k:=by rw [<-Jr,Xf om];rfl
  have hL3v:L3.vars=L.vars++mk:=by rw [hE];exact hK.2
  have hL3l:L3.vars.length=L.vars.length+mk.length:=by rw [hL3v,Yr]
  refine ax 2 (Yk 3 [5] (ic [0,10,10,10] (ih ke.steps c2 ka kb kc L3 (TK L am s mk) q vs ob (by rw [hE];exact hK.1) (by rw [hE];exact hak) (by rw [hL3v];exact hvs) (by rw [hL3v];exact Eo hnn (N3 hty hmk)) om om hsrr) ?_))
  rintro _ _ (⟨wa6,wb6,wc6,M'2,rfl,rfl,Wy⟩|⟨rfl,rfl,WW⟩)
  ·have hP:=Wy
   have kx:=H5 hn (by rw [hE];exact hK.1) hq.1 (by rw [hE];exact hak) (by rw [hL3v];exact hvs) hP
   have kl:=kx.1.len
   have hm1:(Wf M'2 ke.result).own.length=vs.length:=by rw [Fv.1,kl.own,kx.2.1]
   have hm2:(Wf M'2 ke.result).tok.length=vs.length:=by rw [Fv.2.1,kl.tok,kx.2.1]
   refine ZM 5 [8] (ic [0,0,0,0] (HN c2 wa6 wb6 wc6 n M'2 ln (TK L am s mk) ke L.vars.length (hlk:=kl) (hlb:=(by rw [kx.2.1];omega)) (hm:=(by rw [kx.2.1];omega)) (hr:=(by rw [kx.2.1];omega)) (hq:=(fun y hy=>by have h1:=kx.1.nn y hy;have h2:=kx.1.bd y hy;omega))) ?_)
   rintro _ _ (⟨rfl,rfl,Vk⟩|⟨rfl,rfl,UY⟩)
   ·have hB:=Vk
    rw [<-H6 (f:=U9 L.vars.length ke.result) hP,hE,<-Jq] at hB
    refine Z0 (Wj (ak (ab 4 (Y6 1 (iQ false (Z0 (Wj (aD 31 (ZH 26 31 [0,1,2,3,4] [0] (dx 5 (Kk 2 wb6 ((Wf M'2 ke.result).own) L.vars.length) (ZH 20 25 [6,7,8,9,10] [9] (dx 11 (Kk 11 ub O.own L.vars.length) (Z9 12 (T9 12 [2,10] [] [] [rV wb6 ((Wf M'2 ke.result).own),rV ub O.own] (Co (((Wf M'2 ke.result).own).take L.vars.length) (O.own.take L.vars.length)) CD (gC (v:=wb6) (ys:=(Wf M'2 ke.result).own) 0 L.vars.length (gC (v:=ub) (ys:=O.own) 1 L.vars.length gN)) (Uo (Uo Tg)) ?_))))))))))))))
    rintro _ _ ⟨rfl,rfl⟩
    refine Am [0,3,5,6,7,45,46,47] [(104,.b ((!(decide ((((Wf M'2 ke.result).own).take L.vars.length)=(O.own.take L.vars.length))))||(!(decide ((((Wf M'2 ke.result).tok).take L.vars.length)=(O.tok.take L.vars.length))))))] (fun gz=>gz) ?_ ?_
    ·refine Zl 16 18 [13,14] (db (b:=(!(decide ((((Wf M'2 ke.result).own).take L.vars.length)=(O.own.take L.vars.length))))) 119 (fun ZB=>?_) (fun ZB=>?_))
     ·have Te:¬((((Wf M'2 ke.result).own).take L.vars.length)=(O.own.take L.vars.length)):=((YE dq)).1 ZB
      exact Zl 0 16 [15,16,17,18,19,20,21,22,23,24,25,26,27,28,29,30] (de (ZI 14 (Zt true ZB fl)))
     have Tf:¬(¬((((Wf M'2 ke.result).own).take L.vars.length)=(O.own.take L.vars.length))):=Yc (YE dq) ZB
     refine ZH 11 16 [15,16,17,18,19] [2] (dx 20 (Kk 4 wc6 ((Wf M'2 ke.result).tok) L.vars.length) (ZH 5 10 [21,22,23,24,25] [10] (dx 26 (Kk 12 uc O.tok L.vars.length) (Z9 27 (T9 27 [4,11] [] [] [rV wc6 ((Wf M'2 ke.result).tok),rV uc O.tok] (Co (((Wf M'2 ke.result).tok).take L.vars.length) (O.tok.take L.vars.length)) CD (gC (v:=wc6) (ys:=(Wf M'2 ke.result).tok) 0 L.vars.length (gC (v:=uc) (ys:=O.tok) 1 L.vars.length gN)) (Uo (Uo Tg)) ?_)))))
     rintro _ _ ⟨rfl,rfl⟩
     exact Zl 0 3 [28,29,30] (de (wk [2,2,2,2,0,1,1,1,1,1,1,1,0,0] (Zt (!(decide ((((Wf M'2 ke.result).tok).take L.vars.length)=(O.tok.take L.vars.length)))) ZB fl)))
    refine ac ((!(decide ((((Wf M'2 ke.result).own).take L.vars.length)=(O.own.take L.vars.length))))||(!(decide ((((Wf M'2 ke.result).tok).take L.vars.length)=(O.tok.take L.vars.length))))) (p:=(¬((((Wf M'2 ke.result).own).take L.vars.length)=(O.own.take L.vars.length)))∨(¬((((Wf M'2 ke.result).tok).take L.vars.length)=(O.tok.take L.vars.length)))) (Ys (YE dq) (YE dq)) (fun VK=>?_) (fun VK=>?_)
    ·exact ar (Zq (r1 [] (.inr ⟨rfl,rfl,(by rw [hgo,d0_1];exact En (by rw [<-d0_3,Ei hke,hB];exact Sl (VK.imp (fun h g=>h g.symm) (fun h g=>h g.symm))))⟩)))
    exact ak (az (ZJ k (Z0 (ZK (.inr ⟨k+1,c0,ua,ub,uc,O,aO,om,d0_1,d0_2,(by rw [Ei hke,hB,Sm (fun z=>VK (z.imp (fun h g=>h g.symm) (fun h g=>h g.symm)))] at d0_3;exact d0_3),rfl,rfl,rfl⟩) (wk [10,10,1,9,4,4,4,4,5] (fr (ZO k fl)))))))
   have hB:=UY
   rw [<-H6 (f:=U9 L.vars.length ke.result) hP,hE,<-Jq] at hB
   exact Z0 (Wa (ar (Zq (r1 [] (.inr ⟨rfl,rfl,(by rw [hgo,d0_1];exact En (by rw [<-d0_3,Ei hke,hB];rfl))⟩)))))
  have hB:WO n ln (VA n.decls L s.op s.num s.args k) L.vars.length ke=none:=by rw [Jq,<-hE,WW];rfl
  exact Z0 (Wa (ar (Zq (r1 [] (.inr ⟨rfl,rfl,(by rw [hgo,d0_1];exact En (by rw [<-d0_3,Ei hke,hB];rfl))⟩)))))
 refine ax 0 (aD 22 (ZH 15 22 [0,1,2,3,4,5,6] [0] (dx 7 (Kk 2 ub O.own L.vars.length) (ZH 9 14 [9,10,11,12,13] [0] (dx 14 (Kk 3 uc O.tok L.vars.length) (Z9 8 (T9 8 [2] [0] [c0] [rV ub O.own] (DO (O.own.take L.vars.length)) Jt (gC (v:=ub) (ys:=O.own) 0 L.vars.length gN) (Uo Tg) ?_)))))))
 rintro _ _ ⟨v2,rfl,rfl⟩
 refine Z9 15 (T9 15 [4] [] [] [rV uc O.tok] (DO (O.tok.take L.vars.length)) Jt (gC (v:=uc) (ys:=O.tok) 0 L.vars.length gN) (Uo Tg) ?_)
 rintro _ _ ⟨v3,rfl,rfl⟩
 exact Zl 4 6 [16,17] (Z9 18 (YK 18 6 [] [] b [ZP n.decls,YY n,Z4 ln,Xi am,.h ga,.h v2,.h gc] (Zl 1 3 [19,20] (Z9 21 (YK 21 0 [] [] b [ZP n.decls,YY n,Z4 ln,Xi am,.h ga,.h v2,.h v3] (de (ar (Zq (r1 [0,6,2,0] (.inl ⟨ga,v2,v3,(Zr.mk L.vars (O.own.take L.vars.length) L.par L.con L.fst (O.tok.take L.vars.length)),rfl,rfl,(by rw [hgo,d0_1];exact PV (by rw [<-d0_3,Xf om];rfl))⟩) (eq:=(rc (rv (xs:=L.vars) ob (rv (xs:=(O.own.take L.vars.length)) ob (rv (xs:=(O.tok.take L.vars.length)) ob rz))))))))))))))
theorem IU (n:Zm) (us:LI) (s:Z5) (hn:X1 n) (hty:Kn n) (hnn:∀t∈us,0<=t) (hb:us.length+4*s.sz<=1000000000) (hr:s.rng):Zi 124 [.agg [ZP n.decls,YY n],Z4 us,YD s] [] (fun r h=>∃(t:Int),r=.tup [.i t,.b (decide (0<=Y8 n us s))]/\h=[]/\(¬Yp s.op=true->0<=Y8 n us s->t=Y8 n us s)):=
 P4 n us s hn hty hnn hb hr fun b us2 _ h2 h3 h4=>OY n us2 b hn hty h4 h2 h3
theorem Z2u (b:Nat) (ga:Hd) (gb:Hd) (gc:Hd) (n:Zm) (L:Vg) (ln:LI) (am:List Xp) (s:Z5) (q:Int) (hn:X1 n:=by exact ob) (hty:Kn n:=by exact ob) (hlt:BW n:=by exact ob) (hk:X8 n.decls L q:=by exact ob) (har:V0 n.decls L am:=by exact ob) (hln:ln.length<=4294967296:=by exact ob) (ht:0<=Y8 n L.vars s:=by exact ob) (hnn:∀t∈L.vars,0<=t) (hb:L.vars.length+am.length+4*s.sz<=900000000:=by exact ob) (hq:0<=q/\q+4*s.sz<=999999980:=by exact ob) (hr:s.rng:=by exact ob) (ih:∀(ys:List Z5) (c:Nat) (ra:Hd) (rb:Hd) (rc:Hd) (M:Vg) (a2:List Xp) (p:Int) (vs:LI),(Y9 ys<s.sz)->(X8 n.decls M p)->(V0 n.decls M a2)->(XV n ys M.vars=some vs)->(∀t∈M.vars,0<=t)->(M.vars.length+a2.length+4*Y9 ys<=900000000)->(0<=p/\p+4*Y9 ys<=999999980)->(UC ys)->Zi 121 [.p c 0,WA ys] [.obj c [ZP n.decls,YY n,Z4 ln,Xi a2,.h ra,.h rb,.h rc],rV ra M.vars,rV rb M.own,rV rc M.tok] (fun r h=>(∃(wa:Hd) (wb:Hd) (wc:Hd) (M':Vg),r=.b true/\h=[.obj c [ZP n.decls,YY n,Z4 ln,Xi a2,.h wa,.h wb,.h wc],rV wa M'.vars,rV wb M'.own,rV wc M'.tok]/\WL n ln M ys=some M')∨(r=.b false/\h=[]/\WL n ln M ys=none))):Zi 154 [.p b 0,YD s] [.obj b [ZP n.decls,YY n,Z4 ln,Xi am,.h ga,.h gb,.h gc],rV ga L.vars,rV gb L.own,rV gc L.tok] (fun r h=>(∃(wa:Hd) (wb:Hd) (wc:Hd) (L':Vg),r=.b true/\h=[.obj b [ZP n.decls,YY n,Z4 ln,Xi am,.h wa,.h wb,.h wc],rV wa L'.vars,rV wb L'.own,rV wc L'.tok]/\VV n ln L s=some L')∨(r=.b false/\h=[]/\VV n ln L s=none)):=by
 have hlk:=hk.len
 obtain ⟨e1,e2,e3,e4,e5⟩:=hk.len
 have hf:=EM ht
 have hkz:=TF s
 have haz:=Qh s
 have hlh:=Zbo hlt ht
 refine ZG 58 Tryz.func154 (ar (iA (Xv s) fun b1=>Z0 (aq (ab 0 (Zw 2 [0] (Zx [] (G6 s.op) (YG (Yp s.op) Iff.rfl (fun Za=>?_) (fun Za=>?_))))))))
 ·obtain ⟨x,hxa⟩:=hf.one (.inr (.inr (by simpa [Yp] using Za)))
  have ha:s.args[0]? = some x:=by rw [hxa];rfl
  have hx:=hf.args x (by rw [hxa];simp)
  have hgx:=Jz ha
  have hal:=(Xk.1 ha).1
  refine aD 9 (ZH 4 9 [0,1,2,3,4] [0,0] (dx 5 (Zj none 0 1 (Y1 ha)) (Zl 2 3 [6] (Z9 7 (dc 7 [1,1,1,1] [] [] (Z2s b ga gb gc n L ln am s.op x q) ?_)))))
  rintro _ _ (⟨L'1,rfl,rfl,ZY⟩|⟨rfl,rfl,Yi⟩)
  ·exact Zl 0 1 [8] (de (ZD (r1 [0,0,0,0] (.inl ⟨ga,gb,gc,L'1,rfl,rfl,(by rw [Z0e Za hgx];exact ZY)⟩))))
  exact Zl 0 1 [8] (de (ZD (r1 [] (.inr ⟨rfl,rfl,(by rw [Z0e Za hgx];exact Yi)⟩))))
 refine ar (XI 8 [0,3] [(27,.b ((s.op==7)||(s.op==8)))] (fun gz=>gz) ?_ (fun hj1=>?_))
 ·refine YG ((s.op==7)||(s.op==8)) (p:=(s.op=7)∨(s.op=8)) (Ys Zp Zp) (fun Zh=>?_) (fun Zh=>?_)
  ·refine Zw 2 [0] (ic [1,1,1,1] (Z2p b ga gb gc n L ln am s q (hnn:=ob) (ih:=ih)) ?_)
   rintro _ _ (⟨wa1,wb1,wc1,L'2,rfl,rfl,YL⟩|⟨rfl,rfl,YP⟩)
   ·have hP:=(Gy (n:=n) (ln:=ln) (L:=L) Zh).trans YL
    obtain ⟨kx,hxv⟩:=Bw hn hk hq.1 hf hP
    refine Z0 (Wj (ak (aD 15 (ZH 6 15 [0,1,2,3,4,5,6,7,8] [0,0,4] (Z9 9 (T9 9 [1] [] [] [rV wa1 L'2.vars] (IU n L'2.vars s ob ob (by rw [hxv];exact hnn) (by rw [hxv];omega) ob) HW (gS (gL (v:=wa1) 0 (gS gN))) (Uo Tg) ?_))))))
    rintro _ _ ⟨t1,rfl,rfl,Xc⟩
    rw [hxv] at Xc
    have hte:=Xc Za ht
    refine Zl 0 5 [10,11,12,13,14] (de (Y6 3 (iI t1 1 (ic [1,0,0,0] (Cz b wa1 wb1 wc1 n L'2 ln am t1 (min t1 1) (hlb:=(by rw [hxv];omega)) (hlk:=kx.len)) ?_))))
    rintro _ _ ⟨wa2,wb2,wc2,rfl⟩
    exact ie (ar (Zq (r1 [0,0,0,0] (.inl ⟨wa2,wb2,wc2,(L'2.grow t1 (min t1 1) (-1)),rfl,rfl,(Mo hP ht Za hte)⟩))))
   have hP:=(Gy (n:=n) (ln:=ln) (L:=L) Zh).trans YP
   exact Z0 (Wa (ar (Zq (r1 [] (.inr ⟨rfl,rfl,(Z0f hP)⟩)))))
  refine Zw 2 [0] (Zx [] (P0 s.op) (YG (Tv s.op) Iff.rfl (fun ZE=>?_) (fun ZE=>?_)))
  ·refine Zw 2 [0] (ic [1,1,1,1] (Z2r b ga gb gc n L ln am s q (hlt:=hlh)) ?_)
   rintro _ _ (⟨L'3,rfl,rfl,XT⟩|⟨rfl,rfl,Wy⟩)
   ·have hP:=(LD (n:=n) (ln:=ln) (L:=L) Za Zh).trans XT
    obtain ⟨kx,hxv⟩:=Bw hn hk hq.1 hf hP
    refine Z0 (Wj (ak (aD 15 (ZH 6 15 [0,1,2,3,4,5,6,7,8] [0,0,4] (Z9 9 (T9 9 [1] [] [] [rV ga L'3.vars] (IU n L'3.vars s ob ob (by rw [hxv];exact hnn) (by rw [hxv];omega) ob) HW (gS (gL (v:=ga) 0 (gS gN))) (Uo Tg) ?_))))))
    rintro _ _ ⟨t2,rfl,rfl,WW⟩
    rw [hxv] at WW
    have hte:=WW Za ht
    refine Zl 0 5 [10,11,12,13,14] (de (Y6 3 (iI t2 1 (ic [1,0,0,0] (Cz b ga gb gc n L'3 ln am t2 (min t2 1) (hlb:=(by rw [hxv];omega)) (hlk:=kx.len)) ?_))))
    rintro _ _ ⟨wa3,wb3,wc3,rfl⟩
    exact ie (ar (Zq (r1 [0,0,0,0] (.inl ⟨wa3,wb3,wc3,(L'3.grow t2 (min t2 1) (-1)),rfl,rfl,(Mo hP ht Za hte)⟩))))
   have hP:=(LD (n:=n) (ln:=ln) (L:=L) Za Zh).trans Wy
   exact Z0 (Wa (ar (Zq (r1 [] (.inr ⟨rfl,rfl,(Z0f hP)⟩)))))
  have hP:=Zd2 (ln:=ln) Za Zh ZE ht
  have hxv:L.vars=L.vars:=rfl
  have kx:=hk
  refine ak (aD 15 (ZH 6 15 [0,1,2,3,4,5,6,7,8] [1,1,0] (Z9 9 (T9 9 [2] [] [] [rV ga L.vars] (IU n L.vars s ob ob (by rw [hxv];exact hnn) (by rw [hxv];omega) ob) HW (gS (gL (v:=ga) 0 (gS gN))) (Uo Tg) ?_))))
  rintro _ _ ⟨t3,rfl,rfl,Vk⟩
  rw [hxv] at Vk
  have hte:=Vk Za ht
  refine Zl 0 5 [10,11,12,13,14] (de (Y6 3 (iI t3 1 (ic [2,0,1,1] (Cz b ga gb gc n L ln am t3 (min t3 1) (hlb:=(by rw [hxv];omega)) (hlk:=kx.len)) ?_))))
  rintro _ _ ⟨wa4,wb4,wc4,rfl⟩
  exact ie (ar (Zq (r1 [0,0,0,0] (.inl ⟨wa4,wb4,wc4,(L.grow t3 (min t3 1) (-1)),rfl,rfl,(Mo hP ht Za hte)⟩))))
 refine ZM 4 [0] (ib (b:=(s.op==7)) 23 (fun Zb=>?_) (fun Zb=>?_))
 ·have UY:s.op=7:=(Zp).1 Zb
  exact Z1 4 (Yq (ZI 5 (Zt true Zb fl)) hj1)
 have Te:¬(s.op=7):=Yc Zp Zb
 exact ZM 4 [0] (Yq (ZI 5 (Zt (s.op==8) Zb fl)) hj1)
theorem Z2x (n:Zm) (ln:LI) (hn:X1 n) (hty:Kn n) (hlt:BW n) (hln:ln.length<=4294967296) (m:Nat):∀(ys:List Z5) (c:Nat) (ra:Hd) (rb:Hd) (rc:Hd) (M:Vg) (a2:List Xp) (p:Int) (vs:LI),(Y9 ys<m)->(X8 n.decls M p)->(V0 n.decls M a2)->(XV n ys M.vars=some vs)->(∀t∈M.vars,0<=t)->(M.vars.length+a2.length+4*Y9 ys<=900000000)->(0<=p/\p+4*Y9 ys<=999999980)->(UC ys)->Zi 121 [.p c 0,WA ys] [.obj c [ZP n.decls,YY n,Z4 ln,Xi a2,.h ra,.h rb,.h rc],rV ra M.vars,rV rb M.own,rV rc M.tok] (fun r h=>(∃(wa:Hd) (wb:Hd) (wc:Hd) (M':Vg),r=.b true/\h=[.obj c [ZP n.decls,YY n,Z4 ln,Xi a2,.h wa,.h wb,.h wc],rV wa M'.vars,rV wb M'.own,rV wc M'.tok]/\WL n ln M ys=some M')∨(r=.b false/\h=[]/\WL n ln M ys=none)):=by
 induction m with
 | zero=>intro ys c ra rb rc M a2 p vs h;omega
 | succ m ih=>
  intro ys c ra rb rc M a2 p vs h hk har ht hnn hb hp hr
  exact Z2w c ra rb rc n M ln a2 ys p vs hn hk har ht hnn hb hp hr fun s2 c ra rb rc M a2 p h1 hk har ht hnn hb hp hr=>Z2u c ra rb rc n M ln a2 s2 p hn hty hlt hk har hln ht hnn hb hp hr
   fun ys c ra rb rc M a2 p vs h2 hk har ht hnn hb hp hr=>ih ys c ra rb rc M a2 p vs om hk har ht hnn hb hp hr
theorem Z2v (c:Nat) (ra:Hd) (rb:Hd) (rc:Hd) (n:Zm) (M:Vg) (ln:LI) (a2:List Xp) (ys:List Z5) (p:Int) (vs:LI) (hn:X1 n) (hty:Kn n) (hlt:BW n) (hln:ln.length<=4294967296) (hk:X8 n.decls M p) (har:V0 n.decls M a2) (ht:XV n ys M.vars=some vs) (hnn:∀t∈M.vars,0<=t) (hb:M.vars.length+a2.length+4*Y9 ys<=900000000) (hp:0<=p/\p+4*Y9 ys<=999999980) (hr:UC ys):Zi 121 [.p c 0,WA ys] [.obj c [ZP n.decls,YY n,Z4 ln,Xi a2,.h ra,.h rb,.h rc],rV ra M.vars,rV rb M.own,rV rc M.tok] (fun r h=>(∃(wa:Hd) (wb:Hd) (wc:Hd) (M':Vg),r=.b true/\h=[.obj c [ZP n.decls,YY n,Z4 ln,Xi a2,.h wa,.h wb,.h wc],rV wa M'.vars,rV wb M'.own,rV wc M'.tok]/\WL n ln M ys=some M')∨(r=.b false/\h=[]/\WL n ln M ys=none)):=
 Z2x n ln hn hty hlt hln (Y9 ys+1) ys c ra rb rc M a2 p vs om hk har ht hnn hb hp hr
theorem Z9w (n:Zm) (hz:UP n) (hs:Vb n=true):Zi 76 [Yl n] [] (Yj (.tup [.agg [ZP n.decls,YY n],.b (Vb n)])):=by
 refine (P1 n hz).mono fun r h q=>?_
 rcases q with ⟨h1,h2,_⟩|⟨_,_,h3⟩
 ·exact ⟨h1,h2⟩
 ·rw [hs] at h3;cases h3
theorem Z2t (n:Zm) (f:Nat) (rt:Y0) (hn:X1 n:=by exact ob) (hz:UP n:=by exact ob) (hs:Vb n=true:=by exact ob) (hr:n.routines[f]? = some rt:=by exact ob):Zi 120 [Yl n,.i f] [] (fun r h=>∃(c:Nat) (wa:Hd) (wb:Hd) (wc:Hd),r=.p c 0/\h=[.obj c [ZP n.decls,YY n,Z4 rt.lent,Xi [],.h wa,.h wb,.h wc],rV wa ((UG rt).vars),rV wb ((UG rt).own),rV wc ((UG rt).tok)]):=by
 have hfl:=(Xk.1 hr).1
 have hpl:=hn.params_at hr
 have hll:=hn.lent_at hr
 refine ZG 58 Tryz.func120 (ar (iA (YR n) fun b1=>Z0 (Zw 1 [0] (Zx [] (Z9w n ob ob) (Z1 3 (iA [nl,nl] fun b2=>ZC 0 b2 [ZP n.decls,YY n] (Z0 (aD 10 (ZH 6 10 [0,1,2,3] [0,1] (dx 4 (Zj none (f:Int) 5 (WD hr)) (Zl 2 5 [5,6,7] (Z9 8 (dA 8 [] [] [ZP n.decls,YY n,Z4 rt.lent,nl,nl,nl,nl] fun b3=>?_)))))))))))))
 refine B8 (Z0q 0 b3 [ZP n.decls,YY n,Z4 rt.lent,nl,nl,nl,nl] [ZP n.decls,YY n,Z4 rt.lent,Xi [],.h hN,.h hN,.h hN] (.cons (lr _) (.cons (lr _) (.cons (lr _) (.cons (Zc.sl _ rfl) (.cons (Zc.hd (v:=hN)) (.cons (Zc.hd (v:=hN)) (.cons (Zc.hd (v:=hN)) .nil)))))))) (B8 (JF) (B8 (JF) (B8 (JF) (Zl 0 1 [9] (de (Yk 3 [5] (Zo (Zj none (f:Int) 5 (WD hr)) (Z1 2 (iw (Yd rt.params) (Z0 (ab 0 (Y3 (fun fz gz m F h=>∃(k:Nat) (L2:Vg) (ka:Hd) (kb:Hd) (kc:Hd),(k<=rt.params.length)/\(WB L2)/\(L2.vars.length=k)/\(Ke rt.lent (rt.params.drop k) k L2=UG rt)/\F=sF [7,29,30] fz [(31,.i k)]/\h=[.obj b3 [ZP n.decls,YY n,Z4 rt.lent,Xi [],.h ka,.h kb,.h kc],rV ka L2.vars,rV kb L2.own,rV kc L2.tok]/\m=rt.params.length-k) _ _ _ ⟨0,(Zr.mk [] [] [] [] [] []),hN,hN,hN,ob,⟨rfl,rfl,rfl,rfl,rfl⟩,rfl,rfl,rfl,rfl,rfl⟩ (wk [3,0,0,0] (Yb fl) (e:=(rc (rv (xs:=[]) ob (rv (xs:=[]) ob (rv (xs:=[]) ob rz)))))) ?_))))))))))))
 rintro m F h ⟨k,L2,ka,kb,kc,Ye,Zk,Zu,Yu,rfl,rfl,rfl⟩
 refine ZF (aq (XW ((k:Int)<(rt.params.length:Int)) (fun Za=>?_) (fun Za=>?_)))
 ·refine ak (aq (ab 1 (Y6 1 ?_)))
  obtain ⟨x1,Z3⟩:=Zs rt.params k om
  have hgl:(L2.grow x1 0 (-1)).own.length=k+1:=by simp [Zr.grow,Zk.own,Zu]
  refine Zo (Zj none (k:Int) 1 (Y1 Z3)) (Z0 (Y6 2 (ic [0,0,0,0] (Cz b3 ka kb kc n L2 rt.lent [] x1 0) ?_)))
  rintro _ _ ⟨wa1,wb1,wc1,rfl⟩
  refine ie (ar (Xr [7,8,29,30,31] [(49,.b ((x1 != 0)&&(!(decide ((k:Int)∈rt.lent)))))] (fun gz=>gz) ?_ ?_))
  ·refine Z1 3 (ib (b:=(x1 != 0)) 41 (fun Zb=>?_) (fun Zb=>?_))
   ·have ZY:x1≠0:=(Ym).1 Zb
    exact ZM 5 [0] (Zx [] (Md rt.lent (k:Int)) (Z0 (ZI 4 (Zt (!(decide ((k:Int)∈rt.lent))) Zb fl))))
   have Yi:¬(x1≠0):=Yc Ym Zb
   exact Z0 (ZI 4 (Zt false Zb fl))
  refine ac ((x1 != 0)&&(!(decide ((k:Int)∈rt.lent)))) (p:=(x1≠0)/\(¬((k:Int)∈rt.lent))) (YC Ym (YE dq)) (fun Zh=>?_) (fun Zh=>?_)
  ·exact az (ZM 5 [0] (Zo (Wr 2 wb1 ((L2.grow x1 0 (-1)).own) (k:Int) k) (D5 2 wb1 ((L2.grow x1 0 (-1)).own) k 1 (ie (az (ZJ k (Z0 (ZK ⟨k+1,(L2.grow x1 1 (-1)),wa1,wb1,wc1,ob,(WB.grow Zk),(by simp [Zr.grow];omega),(by rw [Y7 Z3,Ke] at Yu;first|(rw [Ze (by assumption)] at Yu;exact Yu)|(rw [Z8 (by assumption)] at Yu;exact Yu)),rfl,rfl,rfl⟩ (wk [1,1,0,0] (ZO k fl) (e:=(rc (rv (xs:=(L2.grow x1 0 (-1)).vars) (by first|rfl|exact M7 (by rw [Zk.own,Zu])) (rv (xs:=(((L2.grow x1 0 (-1)).own).set k 1)) (by first|rfl|exact M7 (by rw [Zk.own,Zu])) (rv (xs:=(L2.grow x1 0 (-1)).tok) (by first|rfl|exact M7 (by rw [Zk.own,Zu])) rz))))))))))))))
  exact ak (az (ZJ k (Z0 (ZK ⟨k+1,(L2.grow x1 0 (-1)),wa1,wb1,wc1,ob,(WB.grow Zk),(by simp [Zr.grow];omega),(by rw [Y7 Z3,Ke] at Yu;first|(rw [Ze (by assumption)] at Yu;exact Yu)|(rw [Z8 (by assumption)] at Yu;exact Yu)),rfl,rfl,rfl⟩ (ZI 4 (ZO k fl))))))
 refine ax 0 (ZF ?_)
 have hNl:L2=UG rt:=by rw [<-Yu,Xf om];rfl
 exact ZD (r1 [0,0,0,0] ⟨b3,ka,kb,kc,rfl,rfl⟩ (eq:=(rc (rv (xs:=L2.vars) (by rw [hNl]) (rv (xs:=L2.own) (by rw [hNl]) (rv (xs:=L2.tok) (by rw [hNl]) rz))))))
theorem Z9k (n:Zm) (f:Nat) (rt:Y0) (hn:X1 n:=by exact ob) (hty:Kn n:=by exact ob) (hlt:BW n:=by exact ob) (hz:UP n:=by exact ob) (hs:Vb n=true:=by exact ob) (hr:n.routines[f]? = some rt:=by exact ob) (ht:0<=X6 n rt.params rt.body:=by exact ob) (hrr:rt.body.rng:=by exact ob):Zi 74 [Yl n,.i f] [] (Yj (.b (TU n rt))):=by
 have hfl:=(Xk.1 hr).1
 have hpl:=hn.params_at hr
 have hll:=hn.lent_at hr
 have hrm:=ZZ hr
 have hbd:=hz.body rt hrm
 have hbz:=rt.body.sz_eq
 obtain ⟨hk,hkv⟩:=Ln n.decls rt
 obtain ⟨vs,t0,hvs,hres,hrt⟩:=DK ht
 have hri:=KX hres
 have hsl:=H4 hvs
 rw [rt.body.rng_eq] at hrr
 refine ZG 25 Tryz.func74 (ar (iA (YR n) fun b1=>Z0 (Zw 2 [0] (ic [] (Z2t n f rt) ?_))))
 rintro _ _ ⟨c1,wa1,wb1,wc1,rfl,rfl⟩
 refine Z0 (Zw 3 [4] (Zo (Zj none (f:Int) 5 (WD hr)) (Z1 2 (iA [nl,.i 0] fun b2=>ZC 0 b2 (Xd rt.body) (ie (Zw 3 [0] (ic [1,1,1,1] (Z2v c1 wa1 wb1 wc1 n (UG rt) rt.lent [] rt.body.steps 1 vs ob ob ob ob hk (PZ rt) (by rw [hkv];exact hvs) (by rw [hkv];exact hty.params rt hrm) (by rw [hkv,Xw];omega) ob ob) ?_)))))))
 rintro _ _ (⟨wa2,wb2,wc2,M'1,rfl,rfl,ZY⟩|⟨rfl,rfl,Yi⟩)
 ·have hP:=ZY
  have kx:=H5 hn hk om (PZ rt) (by rw [hkv];exact hvs) hP
  have kl:=kx.1.len
  refine ZM 3 [4] (ic [0,0,0,0] (HN c1 wa2 wb2 wc2 n M'1 rt.lent [] rt.body 0 (hlk:=kl) (hlb:=(by rw [kx.2.1];omega)) (hr:=(by rw [kx.2.1];omega)) (hq:=(fun y hy=>by have h1:=kx.1.nn y hy;have h2:=kx.1.bd y hy;omega))) ?_)
  rintro _ _ (⟨rfl,rfl,YL⟩|⟨rfl,rfl,YP⟩)
  ·have hB:=YL
   exact Zq (Y2 (.b true) (lb (by rw [S4 hP (by rw [kl.own,kl.tok]),hB];rfl)))
  have hB:=YP
  exact Zq (Y2 (.b false) (lb (by rw [S4 hP (by rw [kl.own,kl.tok]),hB];rfl)))
 have hP:=Yi
 exact Zq (Y2 (.b false) (lb (by rw [Zea hP])))
def Df (g l c m kk:Nat):Value:=.slice (some ⟨g,(if c-m=0 then 0 else m*kk),none⟩) (l-m) (c-m)
def Mc (P:Program) (ops:Array Oper) (F:Fr) (k:Nat):Option (AV × Int × Nat):=
 match (ZA ops k).op with
 | .slice t x (some lo) none none=>match P.underlying t with
  | some (.slice e)=>match P.info? e with
   | some i=>match F.ev lo with
    | .val (.int _ m)=>some (F.ev x,m,i.size)
    | _=>none
   | none=>none
  | _=>none
 | _=>none
section
variable {P:Program} {n:Nat} {ops:Array Oper} {k:Nat} {F:Fr} {h h2:List Res}
theorem Zhb (j:Nat) {g l c m kk:Nat} {ls:List AV} (hi:Mc P ops F k=some (.val (.slice (some ⟨g,0,none⟩) l c),(m:Int),kk)) (hj:h[j]? = some (.row (.slice (some ⟨g,0,none⟩) l c) kk ls)) (hle:m<=l) :
  Xx P (ZA ops k) F h [] (.val (Df g l c m kk)):=by
 unfold Mc at hi
 generalize hoo:ZA ops k=o at hi
 obtain ⟨dst,op,type,pos,after,guard⟩:=o
 cases op<;>simp only at hi<;>try (cases hi)
 rename_i t x lo hi' mx
 cases lo with
 | none=>simp at hi
 | some y=>
  cases hi' with
  | some _=>simp at hi
  | none=>
   cases mx with
   | some _=>simp at hi
   | none=>
    simp only at hi
    split at hi
    ·rename_i e ht
     split at hi
     ·rename_i inf hinf
      split at hi
      ·rename_i ik m' hm
       simp only [Wi,Prod.mk.injEq] at hi
       obtain ⟨hx,rfl,hkk⟩:=hi
       intro n w G a hF hh
       have v1:=hF.ev x
       rw [hx] at v1
       have v1:=v1.val_inv
       have v2:=hF.ev y
       rw [hm] at v2
       have v2:=v2.val_inv
       have hcap:l<=c:=by
        rcases hh.ok _ (ZZ hj) with ⟨h0,_⟩|⟨g',l',c',cur,el,h0,_,hc,_⟩
        ·cases h0
        ·cases h0;exact hc
       refine ⟨_,.val,fun w' _ _=>?_⟩
       simp only [execOp,v1,v2,BR,Option.map_none]
       refine Vc ?_
       simp only [Instr.sliceAt,Sem.run_bind,Vt ht,Result.andThen_ok,Instr.slice]
       have hmm:(Instr.sliceBounds true l c (some (.int ik (m:Int))) none none).run P w'=.ok (m,l,c) w':=by
        have Yy:=Dp (P:=P) (c:=BoundsCode.sliceB) (v:=.int ik (m:Int)) (y:=l) rfl om om w'
        simp [Instr.sliceBounds,Yy]
       rw [hmm]
       simp only [Result.andThen_ok,Qu hinf,Df,hkk]
       by_cases h0:c-m=0
       ·have e0:c=m:=by omega
        simp [e0]
       ·have e0:¬c=m:=fun z=>h0 om
        simp [e0,h0,Addr.add]
        exact fun z=>z.symm
      ·cases hi
     ·cases hi
    ·cases hi
theorem Pj (j g l c m kk:Nat) (ls:List AV) (hle:m<=l:=by omega) (hi:Mc P ops F k=some (.val (.slice (some ⟨g,0,none⟩) l c),(m:Int),kk):=by kernel_rfl) (hj:h[j]? = some (.row (.slice (some ⟨g,0,none⟩) l c) kk ls):=by kernel_rfl) :
  Xx P (ZA ops k) F h [] (.val (Df g l c m kk)):=Zhb j hi hj hle
theorem Zcn {K:Fr->List Res->Prop} {g len cap i m sz:Nat} {ls:List AV} (hd:Vw n (ZA ops k)=true) (ha:UQ P ops F k=some (.val (.slice (some ⟨g,0,none⟩) i cap),.val (Df g len cap m sz),sz))
  (hone:ls.all AV.one=true) (him:i<=m) (hml:m<=len)
  (hK:K (F.put (ZA ops k).dst (.val (.slice (some ⟨g,0,none⟩) (i+(len-m)) cap))) (.row (.slice (some ⟨g,0,none⟩) (i+(len-m)) cap) sz (ls.take (i*sz)++ls.drop (m*sz))::h2)):WE P n (ZA ops k) F (.row (.slice (some ⟨g,0,none⟩) len cap) sz ls::h2) K:=by
 unfold UQ at ha
 generalize hoo:ZA ops k=o at ha hd hK
 obtain ⟨dst,op,type,pos,after,guard⟩:=o
 cases op<;>simp only at ha<;>try (cases ha)
 rename_i c
 obtain ⟨callee,args,tys⟩:=c
 simp only at ha
 split at ha
 case h_2=>cases ha
 rename_i s x t t' hargs htys
 split at ha
 case h_2=>cases ha
 rename_i e htt ht
 have:=UO htt
 subst this
 split at ha
 case h_2=>cases ha
 rename_i inf hinfo
 split at ha
 case h_2=>cases ha
 rename_i z hz
 split at ha
 case h_2=>cases ha
 rename_i hb
 simp only [W7] at hb
 simp only [Wi,Prod.mk.injEq] at ha
 obtain ⟨h3,h4,hk1⟩:=ha
 have e1:args=#[s,x]:=by rw [<-Ug (xs:=args),hargs]
 have e2:tys=#[t,t]:=by rw [<-Ug (xs:=tys),htys]
 subst e1;subst e2
 intro Q w G a hF hh
 have v1:=hF.ev s
 have v2:=hF.ev x
 rw [h3] at v1
 rw [h4] at v2
 have v1:=v1.val_inv
 have v2:=v2.val_inv
 rcases hh.ok _ (Xl ..) with ⟨h0,_⟩|⟨g',len',cap',cur,el,h0,hrow,hlc,hcur,hll,hcells⟩
 ·cases h0
 ·cases h0
  have q5:len*sz<=cap*sz:=QR _ hlc
  have q6:m*sz<=len*sz:=QR _ hml
  have q7:i*sz<=m*sz:=QR _ him
  have q8:(len-m)*sz=len*sz-m*sz:=Nat.sub_mul ..
  have q9:(i+(len-m))*sz=i*sz+(len-m)*sz:=Qx ..
  have hcl:cur.toList.length=cap*sz:=by rw [KL,hcur]
  have h1:(cur.toList.take (len*sz)).length=len*sz:=by rw [WM,hcl,VO q5]
  have hnl:((cur.toList.take (len*sz)).drop (m*sz)).length=(len-m)*sz:=by rw [A9,h1];omega
  have hr:=GK (P:=P) w t type e el inf ht hinfo g i cap cur hrow ⟨g,(if cap-m=0 then 0 else m*sz),none⟩ (len-m) (cap-m) ((cur.toList.take (len*sz)).drop (m*sz)) (by rw [hk1];exact hnl)
   (fun j u hj=>by
    have hjl:=(Xk.1 hj).1
    rw [hnl] at hjl
    have hne:¬cap-m=0:=fun z=>by
     have:len-m=0:=by omega
     rw [this] at hjl;omega
    rw [Z8 hne,KU,cell_of_row w g _ cur el (0,0) hrow]
    rw [BK,Q2] at hj
    split at hj
    ·simpa using hj
    ·cases hj)
   (fun u hu=>hcells.one_cells hone u (List.mem_of_mem_drop hu)) om (by rw [hk1,hnl,hcur];omega)
  rw [hk1] at hr
  have hti:(cur.toList.take (i*sz)).length=i*sz:=by rw [WM,hcl,VO om]
  obtain ⟨j1,j2⟩:=hh.rgrow (ls':=ls.take (i*sz)++ls.drop (m*sz)) (len':=i+(len-m)) (cs':=(cur.toList.take (i*sz)++(cur.toList.take (len*sz)).drop (m*sz)++cur.toList.drop (i*sz+((cur.toList.take (len*sz)).drop (m*sz)).length)).toArray) hrow
   (by simp only [DB,Yr,hti,hnl,A9,hcl,hcur];omega) om hcur (by rw [Yr,WM,A9,hll,q9,VO om];omega) (by
    have:(cur.toList.take (i*sz)++(cur.toList.take (len*sz)).drop (m*sz)++cur.toList.drop (i*sz+((cur.toList.take (len*sz)).drop (m*sz)).length)).toArray.toList.take ((i+(len-m))*sz)=cur.toList.take (i*sz)++(cur.toList.take (len*sz)).drop (m*sz):=by
     rw [DC,q9,<-hnl]
     conv=>lhs;arg 1;rw [show i*sz+((cur.toList.take (len*sz)).drop (m*sz)).length=(cur.toList.take (i*sz)++(cur.toList.take (len*sz)).drop (m*sz)).length from by rw [Yr,hti]]
     exact Aa
    rw [this]
    have ht1:=hcells.take (i*sz)
    rw [List.take_take,VO om] at ht1
    exact ht1.append (hcells.drop (m*sz)))
  generalize hW:w.setRow g (cur.toList.take (i*sz)++(cur.toList.take (len*sz)).drop (m*sz)++cur.toList.drop (i*sz+((cur.toList.take (len*sz)).drop (m*sz)).length)).toArray=W at hr j1 j2
  have hrun:(execOp a.eval { dst:=dst,op:=.call { callee:=.builtin .append,args:=#[s,x],argTypes:=#[t,t] },type:=type,pos:=pos,after:=after,guard:=guard }).run P w=.ok (.value (.slice (some ⟨g,0,none⟩) (i+(len-m)) cap)) W:=by
   simp only [execOp,resolve,invoke,builtin,Sem.run_bind,Sem.run_pure,Result.andThen_ok,BM,Ut,BL,v1,v2,Df]
   rw [hr]
   rfl
  unfold Oper.wp
  rw [hrun]
  exact ⟨_,_,G,hK,(hF.mono (j2.agree hh)).put (Ta hd) .val,j1,j2⟩
end
section
variable {P:Program} {n:Nat} {ops:Array Oper} {B:Fr->List Res->Prop} {T:List (Nat × List Nat)} {fuel:Nat} {done:List Nat} {k:Nat} {F:Fr} {h:List Res}
theorem NJ (q j:Nat) (js bs:List Nat) (g len cap i m sz:Nat) (ls:List AV) (hone:ls.all AV.one=true)
  (H:YV P n ops B (T.filter fun t=>!V8 ops q t.1) fuel (done++[q]) (F.put (ZA ops q).dst (.val (.slice (some ⟨g,0,none⟩) (i+(len-m)) cap))) (.row (.slice (some ⟨g,0,none⟩) (i+(len-m)) cap) sz (ls.take (i*sz)++ls.drop (m*sz))::XL [j] h)) (him:i<=m:=by omega) (hml:m<=len:=by omega)
  (hk:X9 n ops F q=true:=by kernel_rfl) (ha:UQ P ops F q=some (.val (.slice (some ⟨g,0,none⟩) i cap),.val (Df g len cap m sz),sz):=by kernel_rfl) (hp:Wp [j] h=some [.row (.slice (some ⟨g,0,none⟩) len cap) sz ls]:=by kernel_rfl) (ho:Ud ops q T=bs:=by kernel_rfl)
  (hj:js.map (fun z=>(WK (XL [j] h))[z]?)=bs.map some:=by kernel_rfl):Vv P n ops B T fuel done F h q:=
 Kx [j] js bs hk (VD hp) ho hj (Zcn (h2:=[]) (VT hk).2.1 ha hone him hml H)
end
theorem Z5m (xs:List Y0) (k:Nat) (d:Y0):YH (xs.set k d)=(YH xs).set k (QS d):=by simp [YH,List.map_set]
theorem CS (xs:List Y0):(Zf (YH xs)).length=xs.length*5:=by rw [UW (k:=5) _ (Uv xs)];simp
theorem Oe {ds:List Y0} {k:Nat} (d:Y0) (hk:k<ds.length):(Zf (YH ds)).take (k*5)++(QS d).leaves++(Zf (YH ds)).drop (k*5+5)=Zf (YH (ds.set k d)):=by
 rw [Z5m];exact FF (y:=QS d) (Uv ds) rfl (by simpa using hk)
theorem Z5a (xs:List Z6) (k:Nat) (d:Z6):YI (xs.set k d)=(YI xs).set k (ZW d):=by
 simp [Tb,List.map_set]
theorem E1 (xs:List Z6):(Zf (YI xs)).length=xs.length*2:=by rw [UW (k:=2) _ (TX xs)];simp
theorem Z68 {ds:List Z6} {k:Nat} (d:Z6) (hk:k<ds.length):(Zf (YI ds)).take (k*2)++(ZW d).leaves++(Zf (YI ds)).drop (k*2+2)=Zf (YI (ds.set k d)):=by
 rw [Z5a];exact FF (y:=ZW d) (TX ds) (by cases d;rfl) (by simpa using hk)
theorem Wv.frzN {P:Program} {f:FuncId} {as1:List AV} {h0:List Res} {ds:List Zg} {rs:List Y0} {hs:List Res}
  (H:Wv P f as1 h0 (fun r h=>∃g c:Nat,r=.agg [ZP ds,.ms g 0 rs.length c]/\h=.row (.slice (some ⟨g,0,none⟩) rs.length c) 5 (Zf (YH rs))::hs)) :
  Wv P f as1 h0 (fun r h=>r=.agg [ZP ds,Ka rs]/\h=hs):=by
 intro w G vs hv hh
 refine (H w G vs hv hh).mono ?_
 rintro e w' ⟨u,r,h',G',he,⟨gb,c,rfl,rfl⟩,hr,hh',hx⟩
 obtain ⟨G2,h1,h2,h3⟩:=Cm hh' (Uv _) om
 have hA:VY G' w' w' G2:=h2.agree hh'
 refine ⟨u,_,hs,G2,he,⟨rfl,rfl⟩,?_,(h1.perm (List.perm_append_comm (l₁:=[_]))).left,(hx.trans h2).sub' (BO _ _)⟩
 cases hr with
 | agg hc=>
  cases hc with
  | cons k1 t1=>
   cases t1 with
   | cons k2 t2=>
    cases t2
    have hv2:=k2.val_inv
    subst hv2
    refine .agg (.cons (k1.mono hA) (.cons ?_ .nil))
    have hw:Zc (.sl (YH rs) (some (.slice (some ⟨gb,0,none⟩) rs.length c))) (Ka rs):=Zc.forget _ _
    exact hw _ _ _ h3
theorem Z6i (v:Value) (k:Nat) (ls ks:List AV) (b o:Nat):Res.fp (.row v k ks) b o=Res.fp (.vec v ls) b o:=by
 cases v with
 | slice a _ _=>cases a<;>rfl
 | _=>rfl
theorem Zih {w:World} {G:Ya} {v:Value} {ls:List AV} {h2:List Res} (hh:Yx w G (.vec v ls::h2)):Yx w G (.row v 1 ls::h2)/\YW w G (.vec v ls::h2) w G (.row v 1 ls::h2):=by
 have hpw:=WT.1 hh.apart
 have hf:∀b o,Res.fp (.row v 1 ls) b o->Res.fp (.vec v ls) b o:=fun b o h=>by rw [Z6i v 1 ls ls] at h;exact h
 refine ⟨⟨fun r hr=>?_,WT.2 ⟨fun r hr b o f1 f2=>hpw.1 r hr b o (hf b o f1) f2,hpw.2⟩,fun r hr b o f1 hg=>?_,hh.lt⟩,⟨rfl,rfl,rfl,X3 _,fun _ _ h=>h,fun _ _=>.inl rfl,fun _ _ _ h=>.inl h,fun b o _ ⟨r,hr,f1⟩=>?_⟩⟩
 ·rcases YF.1 hr with rfl|hr
  ·rcases hh.ok _ (Xl ..) with h0|⟨g,cap,cur,e,h0,h1,h3,h4,h5⟩
   ·exact .inl h0
   ·exact .inr ⟨g,ls.length,cap,cur,e,h0,h1,h3,by rw [h4,Qy],by rw [Qy],by rw [Qy];exact h5⟩
  ·exact hh.ok r (XC _ hr)
 ·rcases YF.1 hr with rfl|hr
  ·exact hh.prot _ (Xl ..) b o (hf b o f1) hg
  ·exact hh.prot r (XC _ hr) b o f1 hg
 ·rcases YF.1 hr with rfl|hr
  ·exact ⟨_,Xl ..,hf b o f1⟩
  ·exact ⟨r,XC _ hr,f1⟩
theorem Oj:∀xs:LI,Zf (Z7 xs)=Z7 xs
 | []=>rfl
 | x::r=>Yn (AV.i x::·) (Oj r)
section
variable {h:List Res}
theorem A7 (j:Nat) (v:Hd) (xs:LI) (hp:Wp [j] h=some [rV v xs]:=by kernel_rfl):Tq h (.row v.v 1 (Zf (Z7 xs))::XL [j] h):=by
 have e:Zf (Z7 xs)=Z7 xs:=Oj xs
 rw [e]
 intro w G hh
 have hp':=Uz (VD hp)
 obtain ⟨a,b⟩:=Zih (hh.perm hp')
 exact ⟨G,a,b.perm hp'.symm (Qw _)⟩
end
def AK (bs:LI) (p:Nat) (mx:Int):Int:=
 if mx<1∨bs.length=0 then 0 else if p<bs.length then (bs[p]?).getD 0 % mx else
  AS ((((bs[p % bs.length]?).getD 0*131+(bs[(p*7+3) % bs.length]?).getD 0*1117)+((p*29:Nat):Int))+(((p / bs.length:Nat):Int)*53))
   (((((bs[p % bs.length]?).getD 0*131+(bs[(p*7+3) % bs.length]?).getD 0*1117)+((p*29:Nat):Int))+(((p / bs.length:Nat):Int)*53)) / 64) % mx
theorem Zd4 {bs:LI} {p:Nat} {mx:Int} (h:0<mx):0<=AK bs p mx/\AK bs p mx<mx:=by
 rw [AK]
 split
 ·omega
 ·split
  ·exact ⟨Int.emod_nonneg _ om,Int.emod_lt_of_pos _ h⟩
  ·exact ⟨Int.emod_nonneg _ om,Int.emod_lt_of_pos _ h⟩
theorem Z67 {xs:List Z6} {k:Nat} {b:Z6} (h:xs[k]? = some b):Zf (YI (xs.take k))++Zf [ZW b]=Zf (YI (xs.take (k+1))):=by
 rw [WS h,JV,UF]
 congr 1
 rw [Tb];rfl
def Ej (s:Z5) (u:Value):List AV:=[.i s.op,.i s.num,.i s.into,Z4 s.args,.val u]
def E2 (b:Z6) (k:Nat):Z5:=(b.steps[k]?).getD (Zy 0 0)
theorem FJ {b:Z6} {k:Nat} {s:Z5} (h:b.steps[k]? = some s):E2 b k=s:=by rw [E2,h];rfl
def V3 (b:Z6) (kk:Nat) (u:Value) (k:Nat):List AV:=if k<=kk then Zf (Zz (b.steps.take k)) else Zf (Zz (b.steps.take kk))++(Ej (E2 b kk) u++Zf (Zz ((b.steps.take k).drop (kk+1))))
def TD (b:Z6) (kk k:Nat):List AV:=if k<=kk then [] else Zf (YI (E2 b kk).kids)
theorem Pr {b:Z6} {kk:Nat} {u:Value}:V3 b kk u 0=[]:=by rw [V3,Ze (KO _),List.take_zero,Vx];rfl
theorem Pu {b:Z6} {kk:Nat}:TD b kk 0=[]:=Ze (KO _)
theorem L8 {b:Z6} {kk k:Nat} {u:Value} (h:k<=b.steps.length):(V3 b kk u k).length=k*5:=by
 rw [V3]
 split
 ·rw [K0,WM,VO h]
 ·rename_i q
  have e:(Ej (E2 b kk) u).length=5:=rfl
  rw [Yr,Yr,K0,K0,A9,WM,WM,e,VO h,VO om]
  omega
theorem Pp {b:Z6} {kk k:Nat} {u:Value} {s:Z5} (hs:b.steps[k]? = some s) (hk:¬k=kk):V3 b kk u k++Zf [YD s]=V3 b kk u (k+1):=by
 have hkl:=(Xk.1 hs).1
 by_cases q:k<=kk
 ·rw [V3,Ze q,V3,Ze om]
  exact Oh hs
 ·rw [V3,Z8 q,V3,Z8 om,UN,UN]
  congr 2
  rw [WS hs,List.drop_append_of_le_length (by rw [WM];omega),WV,UF]
  congr 1
  rw [Vx];rfl
theorem Ps {b:Z6} {kk k:Nat} (hk:¬k=kk):TD b kk k=TD b kk (k+1):=by
 by_cases q:k<=kk
 ·rw [TD,Ze q,TD,Ze om]
 ·rw [TD,Z8 q,TD,Z8 om]
theorem Pq {b:Z6} {kk:Nat} {u u2:Value} {s:Z5} (hs:b.steps[kk]? = some s):V3 b kk u kk++Ej s u2=V3 b kk u2 (kk+1):=by
 rw [V3,Ze (X3 _),V3,Z8 om,FJ hs,Hr (by rw [WM];omega),Vx]
 show _=_++(Ej s u2++Zf [])
 rw [Z6g,Jn]
theorem Pt {b:Z6} {kk:Nat} {s:Z5} (hs:b.steps[kk]? = some s):Zf (YI s.kids)=TD b kk (kk+1):=by
 rw [TD,Z8 om,FJ hs]
theorem Ss {α:Type}:∀(A X:List α) (m:Nat) (y:α),(A++X).set (A.length+m) y=A++X.set m y
 | [],X,m,y=>by simp
 | a::r,X,m,y=>by
  have:=Ss r X m y
  rw [QQ,YS,show r.length+1+m=(r.length+m)+1 by omega,List.set_cons_succ,this,QQ]
theorem Z8i {α:Type} (A X:List α) (m:Nat):(A++X)[A.length+m]? = X[m]?:=by
 rw [Cu om];congr 1;omega
section
variable {b:Z6} {kk:Nat} {u:Value} {s:Z5}
theorem L7 (hs:b.steps[kk]? = some s):V3 b kk u b.steps.length=Zf (Zz (b.steps.take kk))++(Ej s u++Zf (Zz (b.steps.drop (kk+1)))):=by
 have hk:=(Xk.1 hs).1
 rw [V3,Z8 om,FJ hs,VX]
theorem L6 (hs:b.steps[kk]? = some s):(Zf (Zz (b.steps.take kk))).length=kk*5:=by
 have hk:=(Xk.1 hs).1
 rw [K0,WM,VO om]
theorem Zax (hs:b.steps[kk]? = some s):(V3 b kk u b.steps.length)[kk*5+4]? = some (.val u):=by
 rw [L7 hs,<-L6 hs,Z8i];rfl
theorem Gh (hs:b.steps[kk]? = some s):((V3 b kk u b.steps.length).drop (kk*5+4)).take 1=[.val u]:=by
 rw [L7 hs,<-L6 hs,<-List.drop_drop,List.drop_left];rfl
theorem Z6f {xs:List Z5} {k:Nat} {t:Z5} (hk:k<xs.length):Zf (Zz (xs.set k t))=Zf (Zz (xs.take k))++(Xv t++Zf (Zz (xs.drop (k+1)))):=by
 rw [EU,Ze hk,WV,UF,FD]
theorem Zay (hs:b.steps[kk]? = some s) (ks:List Z6):(V3 b kk u b.steps.length).set (kk*5+4) (.sl (YI ks) none)=Zf (Zz (b.steps.set kk ⟨s.op,s.num,s.into,s.args,ks⟩)):=by
 have hk:=(Xk.1 hs).1
 rw [L7 hs,<-L6 hs,Ss,Z6f hk];rfl
theorem L9 (hs:b.steps[kk]? = some s):TD b kk b.steps.length=Zf (YI s.kids):=by
 have hk:=(Xk.1 hs).1
 rw [TD,Z8 om,FJ hs]
theorem Zaz (hs:b.steps[kk]? = some s):b.steps.set kk ⟨s.op,s.num,s.into,s.args,s.kids⟩=b.steps:=by
 have e:Z5.mk s.op s.num s.into s.args s.kids=s:=by cases s;rfl
 rw [e]
 apply List.ext_getElem?
 intro i
 rw [List.getElem?_set]
 split
 ·rename_i q;subst q;rw [Ze (Xk.1 hs).1];exact hs.symm
 ·rfl
end
theorem VF.set:∀(ls:List AV) (p:Nat) {x y:AV},Zc x y->VF (ls.set p x) (ls.set p y)
 | [],_,_,_,_=>.nil
 | a::r,0,_,_,h=>.cons h (VF.refl r)
 | a::r,p+1,_,_,h=>.cons (Zc.refl a) (VF.set r p h)
theorem VF.len:∀{xs ys:List AV},VF xs ys->ys.length=xs.length
 | _,_,.nil=>rfl
 | _,_,.cons _ t=>by rw [YS,YS,t.len]
theorem Z6h (v:Value) (k:Nat) (ls ks:List AV):Res.fp (.row v k ks)=Res.fp (.row v k ls):=by
 cases v with
 | slice a _ _=>cases a<;>rfl
 | _=>rfl
theorem Zek {w:World} {G:Ya} {v:Value} {k:Nat} {ls ls':List AV} {h2:List Res} (hle:VF ls ls') (hh:Yx w G (.row v k ls::h2)):Yx w G (.row v k ls'::h2)/\YW w G (.row v k ls::h2) w G (.row v k ls'::h2):=by
 have hpw:=WT.1 hh.apart
 have hf:∀b o,Res.fp (.row v k ls') b o->Res.fp (.row v k ls) b o:=fun b o h=>by rw [Z6h v k ls ls'] at h;exact h
 refine ⟨⟨fun r hr=>?_,WT.2 ⟨fun r hr b o f1 f2=>hpw.1 r hr b o (hf b o f1) f2,hpw.2⟩,fun r hr b o f1 hg=>?_,hh.lt⟩,⟨rfl,rfl,rfl,X3 _,fun _ _ h=>h,fun _ _=>.inl rfl,fun _ _ _ h=>.inl h,fun b o _ ⟨r,hr,f1⟩=>?_⟩⟩
 ·rcases YF.1 hr with rfl|hr
  ·rcases hh.ok _ (Xl ..) with ⟨h0,h1⟩|⟨g,len,cap,cur,e,h0,h1,h3,h4,h5,h6⟩
   ·subst h1;cases hle;exact .inl ⟨h0,rfl⟩
   ·exact .inr ⟨g,len,cap,cur,e,h0,h1,h3,h4,by rw [hle.len];exact h5,hle.cs h6⟩
  ·exact hh.ok r (XC _ hr)
 ·rcases YF.1 hr with rfl|hr
  ·exact hh.prot _ (Xl ..) b o (hf b o f1) hg
  ·exact hh.prot r (XC _ hr) b o f1 hg
 ·rcases YF.1 hr with rfl|hr
  ·exact ⟨_,Xl ..,hf b o f1⟩
  ·exact ⟨r,XC _ hr,f1⟩
section
variable {h:List Res}
theorem Z0l (j i:Nat) (b:Z6) (kk:Nat) (s:Z5) (ks:List Z6) (u v:Value) (hs:b.steps[kk]? = some s) (hp:Wp [j,i] h=some [.row u 2 (Zf (YI ks)),.row v 5 (V3 b kk u b.steps.length)]:=by kernel_rfl) :
  Tq h (.row v 5 (Zf (Zz (b.steps.set kk ⟨s.op,s.num,s.into,s.args,ks⟩)))::.tail u 2::XL [j,i] h):=by
 intro w G hh
 obtain ⟨G',a1,a2⟩:=Z0r j i (kk*5+4) hp (TX ks) om (Zax hs) w G hh
 obtain ⟨b1,b2⟩:=Zek (VF.set _ (kk*5+4) (Zc.forget (YI ks) (some u))) a1
 rw [Zay hs] at b1 b2
 exact ⟨G',b1,a2.trans b2⟩
theorem Mr (j i:Nat) (b:Z6) (kk:Nat) (s:Z5) (u v:Value) (hs:b.steps[kk]? = some s) (hp:Wp [j,i] h=some [.row u 2 (TD b kk b.steps.length),.row v 5 (V3 b kk u b.steps.length)]:=by kernel_rfl) :
  Tq h (.row v 5 (Zf (Zz b.steps))::.tail u 2::XL [j,i] h):=by
 have Yi:Wp [j,i] h=some [.row u 2 (Zf (YI s.kids)),.row v 5 (V3 b kk u b.steps.length)]:=by rw [hp,L9 hs]
 have:=Z0l j i b kk s s.kids u v hs Yi
 rwa [Zaz hs] at this
end
theorem Og {xs:List Z5} {k:Nat} (hk:k<xs.length):(Zf (Zz xs)).take (k*5)++(Zf (Zz xs)).drop ((k+1)*5)=Zf (Zz (xs.take k++xs.drop (k+1))):=by
 have h1:(Zf (Zz (xs.take k))).length=k*5:=by rw [K0,WM,VO om]
 have h2:(Zf (Zz (xs.take (k+1)))).length=(k+1)*5:=by rw [K0,WM,VO om]
 have e1:Zf (Zz xs)=Zf (Zz (xs.take k))++Zf (Zz (xs.drop k)):=by rw [<-UF,<-WV,To]
 have e2:Zf (Zz xs)=Zf (Zz (xs.take (k+1)))++Zf (Zz (xs.drop (k+1))):=by rw [<-UF,<-WV,To]
 rw [WV,UF]
 congr 1
 ·rw [e1,<-h1,Aa]
 ·conv=>lhs;rw [e2,<-h2,List.drop_left]
theorem Z66 {xs:List Z6} {i:Nat} {s:Z6} (h:xs[i]? = some s):((Zf (YI xs)).drop (i*2)).take 2=Xd s:=by
 have hi:=(Xk.1 h).1
 have h1:(Zf (YI (xs.take i))).length=i*2:=by rw [E1,WM,VO om]
 have e1:Zf (YI xs)=Zf (YI (xs.take i))++Zf (YI (xs.drop i)):=by rw [<-UF,<-JV,To]
 rw [e1,<-h1,List.drop_left,Y7 h,Tb,Ut]
 rfl
section
variable {rs:List Y0} {k:Nat} {r:Y0}
theorem Iu (hk:k<rs.length) (r:Y0):Zf (YH (rs.set k r))=Zf (YH (rs.take k))++((QS r).leaves++Zf (YH (rs.drop (k+1)))):=by
 rw [EU,Ze hk,Bc,UF];rfl
theorem Of (hk:k<rs.length):(Zf (YH (rs.take k))).length=k*5:=by rw [CS,WM,VO om]
theorem Z6d (hk:k<rs.length) (r:Y0):((Zf (YH (rs.set k r))).drop (k*5+1)).take 1=[Z4 r.lent]:=by
 rw [Iu hk,<-Of hk,<-List.drop_drop,List.drop_left];rfl
theorem Z6e (hk:k<rs.length) (r:Y0) (l:LI):(Zf (YH (rs.set k r))).take (k*5+1)++[Z4 l]++(Zf (YH (rs.set k r))).drop (k*5+1+1)=Zf (YH (rs.set k ⟨r.params,l,r.result,r.body⟩)):=by
 have hl:=Of hk
 rw [Iu hk,Iu hk]
 have e:(QS r).leaves=[Z4 r.params]++([Z4 r.lent]++[.i r.result,.sl (Zz r.body.steps) none,.i r.body.result]):=rfl
 have e2:(QS ⟨r.params,l,r.result,r.body⟩).leaves=[Z4 r.params]++([Z4 l]++[.i r.result,.sl (Zz r.body.steps) none,.i r.body.result]):=rfl
 rw [e,e2]
 have q:=EF (A:=Zf (YH (rs.take k))++[Z4 r.params]) (xs:=[Z4 r.lent]) (ys:=[Z4 l]) (B:=[.i r.result,.sl (Zz r.body.steps) none,.i r.body.result]++Zf (YH (rs.drop (k+1)))) (o:=k*5+1) (by rw [Yr,hl];rfl) rfl
 simpa [UN] using q
end
end Go.Abs
section
namespace Go.Abs
theorem UV {rs fs:List Func} (hp:fs <+: rs) {i:Nat} {f:Func} (hx:fs[i]? = some f) (c:Nat) {zs:List AV} (hz:((Gi f).drop c).take zs.length=zs) (hl:c+zs.length<=5):((Zf (Xs rs)).drop (i*5+c)).take zs.length=zs:=by
 obtain ⟨ys,rfl⟩:=hp
 have h1:(fs++ys)[i]? = some f:=by rw [DA (Xk.1 hx).1];exact hx
 have e1:=(To i (fs++ys)).symm
 rw [Y7 h1] at e1
 have hl2:(Zf (Xs ((fs++ys).take i))).length=i*5:=by
  rw [UW (k:=5) _ (Fs _),CO,WM,VO (by have:=(Xk.1 h1).1;omega)]
 have e2:Zf (Xs (fs++ys))=Zf (Xs ((fs++ys).take i))++(Gi f++Zf (Xs ((fs++ys).drop (i+1)))):=by
  conv=>lhs;rw [e1]
  simp only [Xs,Zf,List.map_append,Ut,List.flatMap_append,AT]
  rfl
 rw [e2,List.drop_append,List.drop_of_length_le om,Cv,hl2,Nat.add_sub_cancel_left,List.drop_append_of_le_length (by show c<=5;omega),List.take_append_of_le_length (by rw [A9];show zs.length<=5-c;omega)]
 exact hz
theorem Is (rs:List Func):(Zf (Xs rs)).length=rs.length*5:=by rw [UW (k:=5) _ (Fs _),CO]
end Go.Abs
namespace Go.Abs
abbrev Wx (g:Wd) (gb:Nat):List AV:=[ZP g.decls,.ms gb 0 g.funcs.length 4]
abbrev XQ (gb:Nat) (rs:List Func):Res:=.row (.slice (some ⟨gb,0,none⟩) 4 4) 5 (Zf (Xs rs))
abbrev Yz (rd:Nat) (bs:LI) (p:Nat):Res:=.obj rd [Up bs,.i p]

end Go.Abs
end
namespace Go.Abs
theorem Zem {w:World} {G:Ya} {g len cap k m:Nat} {ls:List AV} {h2:List Res} (hh:Yx w G (.row (.slice (some ⟨g,0,none⟩) len cap) k ls::h2)) (hle:m<=len) :
  Yx w G (.row (.slice (some ⟨g,0,none⟩) m cap) k (ls.take (m*k))::h2)/\YW w G (.row (.slice (some ⟨g,0,none⟩) len cap) k ls::h2) w G (.row (.slice (some ⟨g,0,none⟩) m cap) k (ls.take (m*k))::h2):=by
 have hpw:=WT.1 hh.apart
 have hfp:∀b o,Res.fp (.row (.slice (some ⟨g,0,none⟩) m cap) k (ls.take (m*k))) b o->Res.fp (.row (.slice (some ⟨g,0,none⟩) len cap) k ls) b o:=fun b o hf=>hf
 refine ⟨⟨fun r hr=>?_,WT.2 ⟨fun r hr b o h1 h2=>hpw.1 r hr b o (hfp b o h1) h2,hpw.2⟩,fun r hr b o hf hg=>?_,hh.lt⟩,⟨rfl,rfl,rfl,X3 _,fun _ _ h=>h,fun _ _=>.inl rfl,fun _ _ _ h=>.inl h,fun b o _ hf=>?_⟩⟩
 ·rcases YF.1 hr with rfl|hr
  ·rcases hh.ok _ (Xl ..) with ⟨h0,_⟩|⟨g',len',cap',cur,e,hv,h1,h3,h4,h5,h6⟩
   ·cases h0
   ·cases hv
    have hmk:m*k<=len*k:=QR k hle
    refine .inr ⟨g,m,cap,cur,e,rfl,h1,by omega,h4,by rw [WM,h5];omega,?_⟩
    have:=h6.take (m*k)
    rw [List.take_take,VO hmk] at this
    exact this
  ·exact hh.ok r (XC _ hr)
 ·rcases YF.1 hr with rfl|hr
  ·exact hh.prot _ (Xl ..) b o (hfp b o hf) hg
  ·exact hh.prot r (XC _ hr) b o hf hg
 ·obtain ⟨r,hr,hf⟩:=hf
  rcases YF.1 hr with rfl|hr
  ·exact ⟨_,Xl ..,hfp b o hf⟩
  ·exact ⟨r,XC _ hr,hf⟩
theorem Z6c {rs:List Func} {k:Nat} (f:Func) (hk:k<rs.length):(Zf (Xs rs)).take (k*5)++Gi f++(Zf (Xs rs)).drop (k*5+5)=Zf (Xs (rs.set k f)):=by
 rw [show Xs (rs.set k f)=(Xs rs).set k (DH f) by simp [Xs,List.map_set]]
 exact FF (y:=DH f) (Fs rs) rfl (by simpa using hk)
theorem Wv.frzP {P:Program} {f:FuncId} {as1:List AV} {h0:List Res} {E:Type} {ds:E->List Zg} {rs:E->List Func} {m:E->Nat} {hs:E->List Res} {Q:E->Prop}
  (H:Wv P f as1 h0 (fun r h=>∃(e:E) (gb:Nat),r=.agg [ZP (ds e),.ms gb 0 (m e) 4]/\h=.row (.slice (some ⟨gb,0,none⟩) 4 4) 5 (Zf (Xs (rs e)))::hs e/\Q e)) (hm:∀e,Q e->m e<=4/\(rs e).length=4) :
  Wv P f as1 h0 (fun r h=>∃e:E,r=.agg [ZP (ds e),Gq ((rs e).take (m e))]/\h=hs e/\Q e):=by
 intro w G vs hv hh
 refine (H w G vs hv hh).mono ?_
 rintro e w' ⟨u,r,h',G',he,⟨x,gb,rfl,rfl,hq⟩,hr,hh',hx⟩
 obtain ⟨hm4,hr4⟩:=hm x hq
 obtain ⟨j1,j2⟩:=Zem hh' hm4
 have hft:(Zf (Xs (rs x))).take (m x*5)=Zf (Xs ((rs x).take (m x))):=by
  have e1:rs x=(rs x).take (m x)++(rs x).drop (m x):=(To _ _).symm
  have e2:Zf (Xs (rs x))=Zf (Xs ((rs x).take (m x)))++Zf (Xs ((rs x).drop (m x))):=by
   conv=>lhs;rw [e1]
   rw [Z5i,UF]
  rw [e2,List.take_append_of_le_length (by rw [Is,WM,show min (m x) (rs x).length=m x by omega];exact X3 _),Ve (by rw [Is,WM];exact QR 5 (Nat.min_le_left _ _))]
 rw [hft] at j1 j2
 obtain ⟨G2,h1,h2,h3⟩:=Cm j1 (Fs _) om
 have hA:VY G' w' w' G2:=h2.agree j1
 refine ⟨u,_,hs x,G2,he,⟨x,rfl,rfl,hq⟩,?_,(h1.perm (List.perm_append_comm (l₁:=[_]))).left,((hx.trans j2).trans h2).sub' (BO _ _)⟩
 cases hr with
 | agg hc=>
  cases hc with
  | cons k1 t1=>
   cases t1 with
   | cons k2 t2=>
    cases t2
    have hv2:=k2.val_inv
    subst hv2
    refine .agg (.cons (k1.mono hA) (.cons ?_ .nil))
    have hw:Zc (.sl (Xs ((rs x).take (m x))) (some (.slice (some ⟨gb,0,none⟩) (m x) 4))) (Gq ((rs x).take (m x))):=Zc.forget _ _
    exact hw _ _ _ h3
open Go.Proofs
theorem Z7u (code:LI) (hl:code.length<=1048576:=by exact ob) (hc:∀z∈code,0<=z/\z<=255):Zi 52 [Up code] [] (fun r h=>∃(rd:Nat) (bs:LI),r=.p rd 0/\h=[.obj rd [Up bs,.i 0]]/\∀z∈bs,0<=z/\z<=255):=by
 refine ZG 11 Tryz.func52 (ZF (YO 1 (iw (KZ code) (Z0 (XR (fun fz gz F h=>F=sF [] fz [(0,Up (if (code.length:Int)>2000 then (code.take 2000) else code))]/\h=gz) ?_ ?_)))))
 ·refine XW ((code.length:Int)>2000) (fun Za=>?_) (fun Za=>?_)
  ·exact az (Z1 1 (Zo (JD (es:=Q5 code) (hv:=none) (l:=0) (m:=2000) (sz:=1) (es':=Q5 (code.take 2000)) kr om (by simp<;>omega) (by simp<;>omega) (Z5b _) (by first|(simp only [Uh,VX,Ic,Ib];done)|(simp only [Uh,VX,Ic,Ib];rfl)|(simp [Ic,Ib];done))) (Z0 (ZT ⟨rfl,rfl⟩ (wk [] (fc (x:=Up (code.take 2000)) (Zc.sl _ (Yn Q5 (by first|rfl|(rw [Ze Za])|(rw [Z8 Za])|(simp [Za];done)|(rw [Xt];simp [Za];done)|omega))) fl))))))
  exact ak (ZT ⟨rfl,rfl⟩ (wk [] (fc (x:=Up code) (Zc.sl _ (Yn Q5 (by first|rfl|(rw [Ze Za])|(rw [Z8 Za])|(simp [Za];done)|(rw [Xt];simp [Za];done)|omega))) fl)))
 rintro F h ⟨rfl,rfl⟩
 exact Y6 2 (iA [Up (if (code.length:Int)>2000 then (code.take 2000) else code),.i 0] fun b1=>Zq (r1 [0] ⟨b1,(if (code.length:Int)>2000 then (code.take 2000) else code),rfl,rfl,(by first|exact hc|exact fun z hz=>hc z (Qe hz)|(split<;>first|exact hc|exact fun z hz=>hc z (Qe hz)))⟩))
theorem Wg (rd:Nat) (bs:LI) (p:Nat) (mx:Int) (ZL:∀z∈bs,0<=z/\z<=255) (hp:p+1<=1000000000:=by exact ob):Zi 79 [.p rd 0,.i mx] [Yz rd bs p] (fun r h=>∃(k:Int),r=.i k/\h=[.obj rd [Up bs,.i (p+1:Nat)]]/\Pk mx k):=by
 refine ZG 99 Tryz.func79 (ZF (Zw 5 [0] (ZJ p (Z1 2 (ZC 0 rd [Up bs,.i (p+1:Nat)] (ie (X4 (Xr [0,1] [(24,.b ((decide (mx<1))||((bs.length:Int)==0)))] (fun gz=>gz) ?_ ?_))))))))
 ·refine Z1 3 (ib (b:=(decide (mx<1))) 17 (fun Zb=>?_) (fun Zb=>?_))
  ·exact Z0 (wk [0] (Zt true Zb fl))
  exact ZM 4 [0] (iw (KZ bs) (Z0 (wk [0] (Zt ((bs.length:Int)==0) Zb fl))))
 refine ac ((decide (mx<1))||((bs.length:Int)==0)) (p:=(mx<1)∨((bs.length:Int)=0)) (Ys dq Zp) (fun Za=>?_) (fun Za=>?_)
 ·exact ar (Zq (r1 [0] ⟨0,rfl,rfl,Pk.zero⟩))
 refine ak (Zw 4 [0] (ia ((p:Int)) ((((p+1:Nat):Int))-(1)) (Z0 (Yk 5 [0] (iw (KZ bs) (Y5 ((p:Int)<(bs.length:Int)) (fun Zh=>?_) (fun Zh=>?_)))))))
 ·refine Zw 5 [0] ?_
  obtain ⟨x1,Z3⟩:=Zs bs p om
  have hz:=ZL _ (ZZ Z3)
  exact Zo (Zj none (p:Int) 1 (CJ Z3)) (Z1 1 (Zo (Db x1 om) (Z1 1 (Zo (Eh x1 mx om om) (Zq (r1 [0] ⟨(x1 % mx),rfl,rfl,(Pk.rem om om)⟩))))))
 have hq1:p / bs.length<=p:=Nat.div_le_self _ _
 have hq0:(0:Int)<=((p / bs.length:Nat):Int):=Int.natCast_nonneg _
 refine ak (aD 46 (ZH 37 46 [0,1,2,3,4,5,6,7,8] [0,0] (dw 9 (KZ bs) (dx 10 (Gf p bs.length om om) ?_))))
 obtain ⟨x2,Zv⟩:=Zs bs (p % bs.length) (Nat.mod_lt _ om)
 have hz:=ZL _ (ZZ Zv)
 refine dx 11 (Zj none ((p % bs.length:Nat):Int) 1 (CJ Zv)) (Zl 33 34 [12] (dx 13 (Db x2 om) (da 14 ((x2*131)) ((x2)*(131)) (ZH 26 31 [15,16,17,18,19] [0] (da 20 (((p*7:Nat):Int)) (((p:Int))*(7)) (da 21 (((p*7+3:Nat):Int)) ((((p*7:Nat):Int))+(3)) (ZH 20 24 [22,23,24,25] [0] (dw 26 (KZ bs) (dx 27 (Gf (p*7+3) bs.length om om) ?_)))))))))
 obtain ⟨x3,YQ⟩:=Zs bs ((p*7+3) % bs.length) (Nat.mod_lt _ om)
 have hz3:=ZL _ (ZZ YQ)
 exact dx 28 (Zj none (((p*7+3) % bs.length:Nat):Int) 1 (CJ YQ)) (Zl 16 17 [29] (dx 30 (Db x3 om) (da 31 ((x3*1117)) ((x3)*(1117)) (da 32 (((x2*131)+(x3*1117))) (((x2*131))+((x3*1117))) (Zl 12 13 [33] (da 34 (((p*29:Nat):Int)) (((p:Int))*(29)) (da 35 ((((x2*131)+(x3*1117))+((p*29:Nat):Int))) ((((x2*131)+(x3*1117)))+(((p*29:Nat):Int))) (ZH 5 10 [36,37,38,39,40] [0] (dw 41 (KZ bs) (dx 42 (Ce p bs.length om om) (da 43 ((((p / bs.length:Nat):Int)*53)) ((((p / bs.length:Nat):Int))*(53)) (da 44 (((((x2*131)+(x3*1117))+((p*29:Nat):Int))+(((p / bs.length:Nat):Int)*53))) (((((x2*131)+(x3*1117))+((p*29:Nat):Int)))+((((p / bs.length:Nat):Int)*53))) (Zl 0 1 [45] (de (Y6 2 (Zo (L5 ((((x2*131)+(x3*1117))+((p*29:Nat):Int))+(((p / bs.length:Nat):Int)*53)) 64 om om) (Zo (Po ((((x2*131)+(x3*1117))+((p*29:Nat):Int))+(((p / bs.length:Nat):Int)*53)) (((((x2*131)+(x3*1117))+((p*29:Nat):Int))+(((p / bs.length:Nat):Int)*53)) / 64)) (Z0 (Y6 2 (Zo (Eh (AS ((((x2*131)+(x3*1117))+((p*29:Nat):Int))+(((p / bs.length:Nat):Int)*53)) (((((x2*131)+(x3*1117))+((p*29:Nat):Int))+(((p / bs.length:Nat):Int)*53)) / 64)) mx om (Hm ⟨by omega,by omega⟩ ⟨by omega,by omega⟩).1) (Zq (r1 [0] ⟨((AS ((((x2*131)+(x3*1117))+((p*29:Nat):Int))+(((p / bs.length:Nat):Int)*53)) (((((x2*131)+(x3*1117))+((p*29:Nat):Int))+(((p / bs.length:Nat):Int)*53)) / 64)) % mx),rfl,rfl,(Pk.rem (Hm ⟨by omega,by omega⟩ ⟨by omega,by omega⟩).1 om)⟩))))))))))))))))))))))
theorem U0 (rd:Nat) (bs:LI) (p:Nat) (xs:LI) (ZL:∀z∈bs,0<=z/\z<=255) (hp:p+1<=1000000000:=by exact ob) (hx:0<xs.length/\xs.length<=1000000:=by exact ob):Zi 62 [.p rd 0,Z4 xs] [Yz rd bs p] (fun r h=>∃(z:Int),r=.i z/\h=[.obj rd [Up bs,.i (p+1:Nat)]]/\z∈xs):=by
 refine ZG 12 Tryz.func62 (ZF (Y6 3 (iw (Yd xs) (ic [0] (Wg rd bs p (xs.length:Int) (ZL:=ob)) ?_))))
 rintro _ _ ⟨k1,rfl,rfl,ZY⟩
 have hk:=ZY.lt om
 obtain ⟨x1,Z3⟩:=Zs xs k1.toNat om
 exact Zo (Zj none k1 1 (Y1 Z3)) (Zq (r1 [0] ⟨x1,rfl,rfl,(ZZ Z3)⟩))
theorem Ql (fs:LI) :Zi 144 [Z4 fs] [] (Yj (Cx (Yh.mk fs))):=by
 exact ZG 5 Tryz.func144 (ar (iA [nl] fun b1=>ie (Y6 2 (ZC 0 b1 [Z4 fs] (ie (ZD (r3 [] [.agg [Z4 fs]] [0] [(b1,b1)] ⟨rfl,rfl⟩ (Zc.agg (.cons (Zc.sl _ (Yn Z7 ob)) .nil)))))))))
theorem Ox (rd:Nat) (bs:LI) (p:Nat) (ZL:∀z∈bs,0<=z/\z<=255) (hp:p+1<=1000000000:=by exact ob):Zi 143 [.p rd 0] [Yz rd bs p] (fun r h=>∃(ds:List Zg) (v:Hd),r=.h v/\h=[rK v 3 (Zf (YA ds)),.obj rd [Up bs,.i (p+1:Nat)]]/\GD ds):=by
 refine ZG 51 Tryz.func143 (ZF (ar (iL (Z7 []) 0 1 fun v1=>ZU 0 [(8,Z4 [])] (Zx [] (Ql []) (iL (Z7 [0,1]) 2 1 fun v2=>ZU 0 [(10,Z4 [0,1])] (Zx [] (Ql [0,1]) (iL (XO [Yh.mk [],Yh.mk [0,1]]) 2 1 fun v3=>Z1 1 (iA [.i 0,.i 0,nl] fun b1=>ZC 0 b1 [.i 0,.i 0,Gs [Yh.mk [],Yh.mk [0,1]] v3] (ie (ar (iL (Z7 []) 0 1 fun v4=>ZU 0 [(14,Z4 [])] (Zx [] (Ql []) (iL (Z7 [3,0,3]) 3 1 fun v5=>ZU 0 [(16,Z4 [3,0,3])] (Zx [] (Ql [3,0,3]) (iL (XO [Yh.mk [],Yh.mk [3,0,3]]) 2 1 fun v6=>Z1 1 (iA [.i 0,.i 0,nl] fun b2=>ZC 0 b2 [.i 0,.i 0,Gs [Yh.mk [],Yh.mk [3,0,3]] v6] (ie (ar (iL (Z7 [1,3]) 2 1 fun v7=>ZU 0 [(20,Z4 [1,3])] (Zx [] (Ql [1,3]) (iL (XO [Yh.mk [1,3]]) 1 1 fun v8=>Z1 2 (iL (Z7 [1,1,0]) 3 1 fun v9=>ZU 0 [(25,Z4 [1,1,0])] (Zx [] (Ql [1,1,0]) (iL (Z7 [0]) 1 1 fun v10=>ZU 0 [(27,Z4 [0])] (Zx [] (Ql [0]) (iL (Z7 [3]) 1 1 fun v11=>ZU 0 [(29,Z4 [3])] (Zx [] (Ql [3]) (iL (XO [Yh.mk [1,1,0],Yh.mk [0],Yh.mk [3]]) 3 1 fun v12=>ZU 2 [(23,.agg [.i 0,.i 0,KC [Yh.mk [1,3]]]),(24,.agg [.i 1,.i 0,.sl [] none]),(32,.agg [.i 0,.i 0,KC [Yh.mk [1,1,0],Yh.mk [0],Yh.mk [3]]]),(33,.agg [.i 0,.i 1,.sl [] none])] (iL (YA [Zg.mk 0 0 [Yh.mk [1,3]],Zg.mk 1 0 [],Zg.mk 0 0 [Yh.mk [1,1,0],Yh.mk [0],Yh.mk [3]],Zg.mk 0 1 []]) 4 3 fun v13=>Z0 (ar (Qt 3 [(35,.agg [.i 0,.i 0,KC [Yh.mk [],Yh.mk [0,1]]]),(36,.agg [.i 0,.i 0,.sl [] none]),(37,.agg [.i 0,.i 0,KC [Yh.mk [],Yh.mk [3,0,3]]])] [11,7] (iKN (Zf (YA [Zg.mk 0 0 [Yh.mk [],Yh.mk [0,1]],Zg.mk 0 0 [],Zg.mk 0 0 [Yh.mk [],Yh.mk [3,0,3]]])) 3 3 fun g1=>Z0 (Y6 1 (ic [16] (Wg rd bs p 5 (ZL:=ob)) ?_))))))))))))))))))))))))))))))))))
 rintro _ _ ⟨k1,rfl,rfl,ZY⟩
 have hk:=ZY.lt om
 refine Z0 (X4 (Y5 (k1<4) (fun Za=>?_) (fun Za=>?_)))
 ·refine az (Z1 3 ?_)
  obtain ⟨x1,Z3⟩:=Zs [Zg.mk 0 0 [Yh.mk [1,3]],Zg.mk 1 0 [],Zg.mk 0 0 [Yh.mk [1,1,0],Yh.mk [0],Yh.mk [3]],Zg.mk 0 1 []] k1.toNat (by show k1.toNat<4;omega)
  exact Zo (Zj (some v13) k1 3 (VR Z3)) (Z1 1 (iL (YA [x1]) 1 3 fun v14=>ZU 0 [(48,ZP [x1])] (G4 2 3 (⟨some ⟨g1,0,none⟩,3,3⟩:Hd) 3 (Zf (YA [Zg.mk 0 0 [Yh.mk [],Yh.mk [0,1]],Zg.mk 0 0 [],Zg.mk 0 0 [Yh.mk [],Yh.mk [3,0,3]]])) (YA [x1]) none rfl (Ky _) (Fp _) (by simp [YA]) (by simp<;>omega) fun v15=>Z0 (ar (Zq (r1 [0,1] ⟨([Ao,Zg.mk 0 0 [],Ap]++[x1]),v15,rfl,rfl,(GD.four Z3)⟩ (eq:=(rr (ls:=Zf (YA [Zg.mk 0 0 [Yh.mk [],Yh.mk [0,1]],Zg.mk 0 0 [],Zg.mk 0 0 [Yh.mk [],Yh.mk [3,0,3]]])++Zf (YA [x1])) (Ir _ _) (rc rz)))))))))
 exact ak (ar (Zq (r1 [1,0] ⟨[Ao,Zg.mk 0 0 [],Ap],(⟨some ⟨g1,0,none⟩,3,3⟩:Hd),rfl,rfl,GD.three⟩ (eq:=(rr (ls:=Zf (YA [Zg.mk 0 0 [Yh.mk [],Yh.mk [0,1]],Zg.mk 0 0 [],Zg.mk 0 0 [Yh.mk [],Yh.mk [3,0,3]]])) rfl (rc rz))))))
theorem Z7b (rd:Nat) (bs:LI) (p:Nat) (ZL:∀z∈bs,0<=z/\z<=255) (hp:p+1<=1000000000:=by exact ob):Zi 143 [.p rd 0] [Yz rd bs p] (fun r h=>∃(ds:List Zg) (v:Value),r=A3 ds v/\h=[.tail v 3,.obj rd [Up bs,.i (p+1:Nat)]]/\GD ds):=(Ox rd bs p ZL hp).frz (es:=YA) (hs:=fun _=>[.obj rd [Up bs,.i (p+1:Nat)]]) Ky om
theorem Z6m (rd:Nat) (bs:LI) (p:Nat) (ZL:∀z∈bs,0<=z/\z<=255) (hp:p+5<=1000000000:=by exact ob):Zi 113 [.p rd 0] [Yz rd bs p] (fun r h=>∃(dz:List Zg) (p2:Nat),r=ZP dz/\h=[Yz rd bs p2]/\AD dz/\p<=p2/\p2<=p+5):=by
 refine ZG 89 Tryz.func113 (ZF (Y6 1 (ic [0] (Ox rd bs p (ZL:=ob)) ?_)))
 rintro _ _ ⟨ds1,v1,rfl,rfl,ZY⟩
 have hgl:=ZY.len
 have hga:=ZY.ad
 refine Ee 0 ds1.length (v:=v1) (C5 _) om (fun g1 c1 he1=>?_)
 subst he1
 refine Z0 (Y6 2 (io (.i ds1.length) (.i ds1.length) (lr _) (ic [1] (Wg rd bs (p+1) (ds1.length:Int) (ZL:=ob)) ?_)))
 rintro _ _ ⟨k1,rfl,rfl,Yi⟩
 have qhp2:=Yi.lt om
 refine Z0 (YO 1 (ic [0] (Wg rd bs ((p+1)+1) 14 (ZL:=ob)) ?_))
 rintro _ _ ⟨k2,rfl,rfl,YL⟩
 have qhp3:=YL.lt om
 refine ie (ab 0 (ZF (JS (fun fz gz F h=>∃(dq:List Zg) (vq:Hd) (pq:Nat),(AD dq)/\(p<=pq/\pq<=p+5)/\F=sF [] fz [(3,.h vq)]/\h=[Yz rd bs pq,rK vq 3 (Zf (YA dq))]) (fun _ _=>rfl) ?_ ?_)))
 ·refine ac (k2==0) Zp (fun Za=>?_) (fun Za=>?_)
  ·refine az (Z1 3 (iL (Z7 [-1,5,0,2]) 4 1 fun v2=>ZU 0 [(18,Z4 [-1,5,0,2])] (ic [1] (U0 rd bs (((p+1)+1)+1) [-1,5,0,2] (ZL:=ob)) ?_)))
   rintro _ _ ⟨z1,rfl,rfl,YP⟩
   refine Z1 1 (iL (Z7 [0,1,5]) 3 1 fun v3=>ZU 0 [(21,Z4 [0,1,5])] (ic [1] (U0 rd bs ((((p+1)+1)+1)+1) [0,1,5] (ZL:=ob)) ?_))
   rintro _ _ ⟨z2,rfl,rfl,Xc⟩
   exact Z1 1 (Zo (W8 g1 ds1.length c1 k1.toNat 3 k1) (ZU 0 [(23,.agg [.i z1,.i z2,.sl [] none])] (D4 3 g1 ds1.length c1 3 (k1.toNat * 3) [.i z1,.i z2,.sl [] none] (Zf (YA ds1)) (Zf (YA (ds1.set k1.toNat (Zg.mk z1 z2 [])))) (by rw [C5];simp only [YS,Xw];omega) (FC (Zg.mk z1 z2 []) om) (ie (ZT ⟨(ds1.set k1.toNat (Zg.mk z1 z2 [])),(⟨some ⟨g1,0,none⟩,ds1.length,c1⟩:Hd),((((p+1)+1)+1)+1)+1,(hga.set _ (by simp)),ob,rfl,rfl⟩ (wk [1,0] fl))))))
  refine ar (YG (k2==1) Zp (fun Zh=>?_) (fun Zh=>?_))
  ·refine az (Z1 3 (iL (Z7 [-1,0,4,5]) 4 1 fun v4=>ZU 0 [(30,Z4 [-1,0,4,5])] (ic [1] (U0 rd bs (((p+1)+1)+1) [-1,0,4,5] (ZL:=ob)) ?_)))
   rintro _ _ ⟨z3,rfl,rfl,XT⟩
   exact iL (Z7 [z3]) 1 1 fun v5=>ZU 0 [(32,Z4 [z3])] (Zx [] (Ql [z3]) (iL (Z7 [0,0,0,0]) 4 1 fun v6=>ZU 0 [(34,Z4 [0,0,0,0])] (Zx [] (Ql [0,0,0,0]) (iL (Z7 []) 0 1 fun v7=>ZU 0 [(36,Z4 [])] (Zx [] (Ql []) (iL (XO [Yh.mk [z3],Yh.mk [0,0,0,0],Yh.mk []]) 3 1 fun v8=>Z1 1 (Zo (W8 g1 ds1.length c1 k1.toNat 3 k1) (ZU 0 [(39,.agg [.i 0,.i 0,KC [Yh.mk [z3],Yh.mk [0,0,0,0],Yh.mk []]])] (D4 6 g1 ds1.length c1 3 (k1.toNat * 3) [.i 0,.i 0,KC [Yh.mk [z3],Yh.mk [0,0,0,0],Yh.mk []]] (Zf (YA ds1)) (Zf (YA (ds1.set k1.toNat (Zg.mk 0 0 [Yh.mk [z3],Yh.mk [0,0,0,0],Yh.mk []])))) (by rw [C5];simp only [YS,Xw];omega) (FC (Zg.mk 0 0 [Yh.mk [z3],Yh.mk [0,0,0,0],Yh.mk []]) om) (ie (ZT ⟨(ds1.set k1.toNat (Zg.mk 0 0 [Yh.mk [z3],Yh.mk [0,0,0,0],Yh.mk []])),(⟨some ⟨g1,0,none⟩,ds1.length,c1⟩:Hd),(((p+1)+1)+1)+1,(hga.set _ (by simp)),ob,rfl,rfl⟩ (wk [5,0] fl))))))))))))
  refine ar (YG (k2==2) Zp (fun ZE=>?_) (fun ZE=>?_))
  ·exact az (Z1 3 (ia ((k1+1)) ((k1)+(1)) (iL (Z7 [k1+1]) 1 1 fun v9=>ZU 0 [(47,Z4 [k1+1])] (Zx [] (Ql [k1+1]) (iL (XO [Yh.mk [k1+1]]) 1 1 fun v10=>Z1 1 (Zo (W8 g1 ds1.length c1 k1.toNat 3 k1) (ZU 0 [(50,.agg [.i 0,.i 0,KC [Yh.mk [k1+1]]])] (D4 3 g1 ds1.length c1 3 (k1.toNat * 3) [.i 0,.i 0,KC [Yh.mk [k1+1]]] (Zf (YA ds1)) (Zf (YA (ds1.set k1.toNat (Zg.mk 0 0 [Yh.mk [(k1+1)]])))) (by rw [C5];simp only [YS,Xw];omega) (FC (Zg.mk 0 0 [Yh.mk [(k1+1)]]) om) (ie (ZT ⟨(ds1.set k1.toNat (Zg.mk 0 0 [Yh.mk [(k1+1)]])),(⟨some ⟨g1,0,none⟩,ds1.length,c1⟩:Hd),((p+1)+1)+1,(hga.set _ (by simp)),ob,rfl,rfl⟩ (wk [3,0] fl)))))))))))
  refine ar (YG (k2==3) Zp (fun Yf=>?_) (fun Yf=>?_))
  ·refine az (Z1 2 (iL (Z7 [0,2,1]) 3 1 fun v11=>ZU 0 [(56,Z4 [0,2,1])] (ic [1] (U0 rd bs (((p+1)+1)+1) [0,2,1] (ZL:=ob)) ?_)))
   rintro _ _ ⟨z4,rfl,rfl,Wy⟩
   exact ZU 1 [(58,.agg [.i 2,.i z4,.sl [] none])] (iL (YA [Zg.mk 2 z4 []]) 1 3 fun v12=>ZU 0 [(59,ZP [Zg.mk 2 z4 []])] (G4 3 ds1.length (⟨some ⟨g1,0,none⟩,ds1.length,c1⟩:Hd) 3 (Zf (YA ds1)) (YA [Zg.mk 2 z4 []]) none (C5 _) (Ky _) (Fp _) (by simp [YA]) (by simp<;>omega) fun v13=>Z0 (ZT ⟨(ds1++[Zg.mk 2 z4 []]),v13,(((p+1)+1)+1)+1,(hga.app (by simp;omega) (by simp)),ob,rfl,rfl⟩ (wk [2,0] fl (e:=(rc (rr (ls:=Zf (YA ds1)++Zf (YA [Zg.mk 2 z4 []])) (Ir _ _) rz)))))))
  refine ar (YG (k2==4) Zp (fun Xb=>?_) (fun Xb=>?_))
  ·refine az (Z1 3 (ic [0] (Wg rd bs (((p+1)+1)+1) 2 (ZL:=ob)) ?_))
   rintro _ _ ⟨k3,rfl,rfl,WW⟩
   have qhp8:=WW.lt om
   refine iL (Z7 []) 0 1 fun v14=>ZU 0 [(67,Z4 [])] (Zx [] (Ql []) (iL (Z7 [2]) 1 1 fun v15=>ZU 0 [(69,Z4 [2])] (Zx [] (Ql [2]) (iL (Z7 []) 0 1 fun v16=>ZU 0 [(71,Z4 [])] (Zx [] (Ql []) (iL (Z7 []) 0 1 fun v17=>ZU 0 [(73,Z4 [])] (Zx [] (Ql []) (iL (XO [Yh.mk [],Yh.mk [2],Yh.mk [],Yh.mk []]) 4 1 fun v18=>Z1 1 (ic [5] (Wg rd bs ((((p+1)+1)+1)+1) 3 (ZL:=ob)) ?_)))))))))
   rintro _ _ ⟨k4,rfl,rfl,Vk⟩
   have qhp9:=Vk.lt om
   exact Zo (JD (es:=XO [Yh.mk [],Yh.mk [2],Yh.mk [],Yh.mk []]) (hv:=some v18) (l:=k4) (m:=(((XO [Yh.mk [],Yh.mk [2],Yh.mk [],Yh.mk []]).length:Nat):Int)) (sz:=1) (es':=XO ([Yh.mk [],Yh.mk [2],Yh.mk [],Yh.mk []].drop k4.toNat)) kr om (by simp<;>omega) (by simp<;>omega) (DS _) (by first|(simp only [Uh,VX,If,Ie];done)|(simp only [Uh,VX,If,Ie];rfl)|(simp [If,Ie];done))) (Z1 1 (Zo (W8 g1 ds1.length c1 k1.toNat 3 k1) (D4 6 g1 ds1.length c1 3 (k1.toNat * 3) [.i k3,.i 0,KC ([Yh.mk [],Yh.mk [2],Yh.mk [],Yh.mk []].drop k4.toNat)] (Zf (YA ds1)) (Zf (YA (ds1.set k1.toNat (Zg.mk k3 0 ([Yh.mk [],Yh.mk [2],Yh.mk [],Yh.mk []].drop k4.toNat))))) (by rw [C5];simp only [YS,Xw];omega) (FC (Zg.mk k3 0 ([Yh.mk [],Yh.mk [2],Yh.mk [],Yh.mk []].drop k4.toNat)) om) (ie (ZT ⟨(ds1.set k1.toNat (Zg.mk k3 0 ([Yh.mk [],Yh.mk [2],Yh.mk [],Yh.mk []].drop k4.toNat))),(⟨some ⟨g1,0,none⟩,ds1.length,c1⟩:Hd),((((p+1)+1)+1)+1)+1,(hga.set _ ⟨by simp,fun c hc=>(by decide:∀c∈[Yh.mk [],Yh.mk [2],Yh.mk [],Yh.mk []],c.fields.length<=4) c (List.mem_of_mem_drop hc)⟩),ob,rfl,rfl⟩ (wk [1,0] fl))))))
  refine ar (YG (k2==5) Zp (fun Xg=>?_) (fun Xg=>?_))
  ·exact az (ZU 3 [(84,.agg [.i 0,.i 0,.sl [] none]),(85,.agg [.i 3,.i 0,.sl [] none])] (iL (YA [Zg.mk 0 0 [],Zg.mk 3 0 []]) 2 3 fun v19=>ZU 0 [(86,ZP [Zg.mk 0 0 [],Zg.mk 3 0 []])] (G4 2 ds1.length (⟨some ⟨g1,0,none⟩,ds1.length,c1⟩:Hd) 3 (Zf (YA ds1)) (YA [Zg.mk 0 0 [],Zg.mk 3 0 []]) none (C5 _) (Ky _) (Fp _) (by simp [YA]) (by simp<;>omega) fun v20=>Z0 (ZT ⟨(ds1++[Zg.mk 0 0 [],Zg.mk 3 0 []]),v20,((p+1)+1)+1,(hga.app (by simp;omega) (by simp)),ob,rfl,rfl⟩ (wk [2,0] fl (e:=(rc (rr (ls:=Zf (YA ds1)++Zf (YA [Zg.mk 0 0 [],Zg.mk 3 0 []])) (Ir _ _) rz))))))))
  exact ak (ZT ⟨ds1,(⟨some ⟨g1,0,none⟩,ds1.length,c1⟩:Hd),((p+1)+1)+1,hga,ob,rfl,rfl⟩ (wk [0,0] fl))
 rintro F h ⟨dq,vq,pq,J7,IZ,rfl,rfl⟩
 exact ZF (Pl 2 1 (v:=vq) (YA dq) (Ky _) (ZD (r2 [1] [A3 dq vq.v] ⟨dq,pq,rfl,rfl,⟨J7,IZ⟩⟩ (Zc.forget _ _))))
theorem Zgr (ds:List Zg) (n:Nat) (hz:Ae ds:=by exact ob) (hn:n<ds.length:=by exact ob):Zi 268 [ZP ds,.i n] [] (Yj (.b (C0 ds n))):=by
 have hl_ds:ds.length<=4294967296:=by have:=hz.len;omega
 refine ZG 100 Tryz.func268 (ZF (Y6 2 ?_))
 obtain ⟨x1,Z3⟩:=Zs ds n om
 have hdo:=DQ Z3
 have hz1:=hz.cons_at Z3
 refine Zo (Zj none (n:Int) 3 (VR Z3)) (Z1 1 (iA [.i 0,.i 0,nl] fun b1=>ZC 0 b1 (TP x1) (ie (Yk 2 [0] (iw (UU x1.cons) (Y5 ((x1.cons.length:Int)>0) (fun Za=>?_) (fun Za=>?_)))))))
 ·refine Yk 2 [0] (iw (UU x1.cons) (XI 9 [0,5] [(24,.b ((decide ((x1.cons.length:Int)>3))||(x1.frm != 0)))] (fun gz=>gz) ?_ (fun hj1=>?_)))
  ·refine Xr [0,5] [(29,.b (((decide ((x1.cons.length:Int)>3))||(x1.frm != 0))||(x1.to_ != 0)))] (fun gz=>gz) ?_ ?_
   ·refine Z1 1 (ib (b:=((decide ((x1.cons.length:Int)>3))||(x1.frm != 0))) 25 (fun Zb=>?_) (fun Zb=>?_))
    ·have ZY:((x1.cons.length:Int)>3)∨(x1.frm≠0):=((Ys dq Ym)).1 Zb
     exact Z0 (wk [0] (Zt true Zb fl))
    have Yi:¬(((x1.cons.length:Int)>3)∨(x1.frm≠0)):=Yc (Ys dq Ym) Zb
    exact VL [0] (wk [0] (Zt (x1.to_ != 0) Zb fl))
   refine ac (((decide ((x1.cons.length:Int)>3))||(x1.frm != 0))||(x1.to_ != 0)) (p:=(((x1.cons.length:Int)>3)∨(x1.frm≠0))∨(x1.to_≠0)) (Ys (Ys dq Ym) Ym) (fun Zh=>?_) (fun Zh=>?_)
   ·exact ar (Zq (Y2 (.b false) (lb (by clear Z3;first|rfl|omega|grind [US]))))
   refine ak (Yg (ab 0 (Y3 (fun fz gz m F h=>∃(k:Nat),(k<=x1.cons.length)/\(TW ds.length (x1.cons.drop k)=TW ds.length x1.cons)/\F=sF [0,5] fz [(6,.i k)]/\h=gz/\m=x1.cons.length-k) _ _ _ ⟨0,ob,ob,rfl,rfl,rfl⟩ (wk [0] (Yb fl)) ?_)))
   rintro m F h ⟨k,Ye,Zk,rfl,rfl,rfl⟩
   refine Yk 3 [0] (iw (UU x1.cons) (Y5 ((k:Int)<(x1.cons.length:Int)) (fun ZE=>?_) (fun ZE=>?_)))
   ·refine ak (aq (ab 1 (Zw 3 [0] ?_)))
    obtain ⟨x2,Zv⟩:=Zs x1.cons k om
    refine Zo (Zj none (k:Int) 1 (C1 Zv)) (Z1 2 (iw (Yd x2.fields) (Xr [0,5,6] [(55,.b ((decide ((x2.fields.length:Int)>3))||(!Wm ds.length x2.fields)))] (fun gz=>gz) ?_ ?_)))
    ·refine Z1 2 (ib (b:=(decide ((x2.fields.length:Int)>3))) 45 (fun ZB=>?_) (fun ZB=>?_))
     ·have YL:(x2.fields.length:Int)>3:=(dq).1 ZB
      exact Z0 (wk [0] (Zt true ZB fl))
     have YP:¬((x2.fields.length:Int)>3):=Yc dq ZB
     exact ZM 4 [0] (Zo (Zj none (k:Int) 1 (C1 Zv)) (Z1 2 (Zx [] (SH ds x2.fields) (Z0 (wk [0] (Zt (!Wm ds.length x2.fields) ZB fl))))))
    refine ac ((decide ((x2.fields.length:Int)>3))||(!Wm ds.length x2.fields)) (p:=((x2.fields.length:Int)>3)∨(¬(Wm ds.length x2.fields=true))) (Ys dq (YE Iff.rfl)) (fun Yf=>?_) (fun Yf=>?_)
    ·refine ZF ?_
     rw [Y7 Zv] at Zk
     exact ZD (Y2 (.b false) (lb (by clear Z3 Zv;first|rfl|omega|grind [TW,Ju,US])))
    refine ak (az (Z1 1 (ZJ k (Z0 ?_))))
    have hdr:=Y7 Zv
    exact ZK ⟨k+1,ob,(by rw [hdr] at Zk;clear hdr Z3 Zv;grind [TW,Ju]),rfl,rfl,rfl⟩ (wk [0] (ZO k fl))
   refine ax 0 (ZF ?_)
   try rw [Xf (xs:=x1.cons) (k:=k) om] at Zk
   exact ZD (Y2 (.b true) (lb (by clear Z3;first|rfl|omega|grind [TW,Ju,US])))
  refine Z1 2 (ib (b:=(decide ((x1.cons.length:Int)>3))) 20 (fun Yy=>?_) (fun Yy=>?_))
  ·have Xc:(x1.cons.length:Int)>3:=(dq).1 Yy
   exact Z1 4 (Yq (wk [0] (Zt true Yy fl)) hj1)
  have XT:¬((x1.cons.length:Int)>3):=Yc dq Yy
  exact ZM 4 [0] (Yq (wk [0] (Zt (x1.frm != 0) Yy fl)) hj1)
 refine ak (Yg (ab 2 (Y3 (fun fz gz m F h=>∃(j:Nat),(j<=n)/\(QY x1 ((ds.take n).drop j)=QY x1 (ds.take n))/\F=sF [0,1,5] fz [(7,.i j)]/\h=gz/\m=n-j) _ _ _ ⟨0,ob,ob,rfl,rfl,rfl⟩ (wk [0] (Yb fl)) ?_)))
 rintro m F h ⟨j,U3,XY,rfl,rfl,rfl⟩
 refine X4 (Y5 ((j:Int)<(n:Int)) (fun Xb=>?_) (fun Xb=>?_))
 ·refine ak (aq (ab 3 (aD 27 (Zl 25 27 [0,1] ?_))))
  obtain ⟨x3,YQ⟩:=Zs ds j om
  refine dx 2 (Zj none (j:Int) 3 (VR YQ)) (Zl 22 24 [3,4] (dw 5 (UU x3.cons) (Am [0,1,5,7] [(87,.b (((x3.cons.length:Int)==0)&&((x3.frm==x1.frm)&&(x3.to_==x1.to_))))] (fun gz=>gz) ?_ ?_)))
  ·refine Zl 19 21 [6,7] (db (b:=((x3.cons.length:Int)==0)) 68 (fun Xq=>?_) (fun Xq=>?_))
   ·have Wy:(x3.cons.length:Int)=0:=(Zp).1 Xq
    refine Zl 17 19 [8,9] (dx 10 (Zj none (j:Int) 3 (VR YQ)) (ZH 9 16 [11,12,13,14,15,16,17] [0] (db (b:=(x3.frm==x1.frm)) 78 (fun WF=>?_) (fun WF=>?_))))
    ·have WW:x3.frm=x1.frm:=(Zp).1 WF
     exact Zl 7 9 [18,19] (dx 20 (Zj none (j:Int) 3 (VR YQ)) (ZH 0 6 [21,22,23,24,25,26] [0] (de (wk [0] (Zt (x3.to_==x1.to_) (And.intro Xq WF) fl)))))
    have Vk:¬(x3.frm=x1.frm):=Yc Zp WF
    exact Zl 0 9 [18,19,20,21,22,23,24,25,26] (de (wk [0] (Zt false (And.intro Xq WF) fl)))
   have UY:¬((x3.cons.length:Int)=0):=Yc Zp Xq
   exact Zl 0 19 [8,9,10,11,12,13,14,15,16,17,18,19,20,21,22,23,24,25,26] (de (wk [0] (Zt false Xq fl)))
  refine ac (((x3.cons.length:Int)==0)&&((x3.frm==x1.frm)&&(x3.to_==x1.to_))) (p:=((x3.cons.length:Int)=0)/\((x3.frm=x1.frm)/\(x3.to_=x1.to_))) (YC Zp (YC Zp Zp)) (fun Xg=>?_) (fun Xg=>?_)
  ·refine ZF ?_
   rw [Y7 (show (ds.take n)[j]? = some x3 by rw [Q2,Ze om];exact YQ),QY,Ze om] at XY
   exact ZD (Y2 (.b false) (lb (by clear Z3 YQ;first|rfl|omega|grind [US])))
  refine ak (az (Z1 1 (ZJ j (hb:=(by have:=hz.len;omega)) (Z0 ?_))))
  have hdr:=Y7 YQ
  exact ZK ⟨j+1,ob,(by rw [Y7 (show (ds.take n)[j]? = some x3 by rw [Q2,Ze om];exact YQ),QY,Z8 om] at XY;exact XY),rfl,rfl,rfl⟩ (wk [0] (ZO j fl))
 refine ax 2 (Zw 3 [0] (iw (UE ds) (Zx [] (Tj x1.frm 0 (ds.length:Int)) (XI 12 [] [(99,.b ((decide (0<=x1.frm/\x1.frm<=(ds.length:Int)))&&(decide (0<=x1.to_/\x1.to_<=(ds.length:Int)))))] (fun gz=>gz) ?_ (fun hj2=>?_)))))
 ·refine Z0 ?_
  rw [Xf (show (ds.take n).length<=j by rw [WM];omega),QY] at XY
  exact ZD (Y2 (.b ((decide (0<=x1.frm/\x1.frm<=(ds.length:Int)))&&(decide (0<=x1.to_/\x1.to_<=(ds.length:Int))))) (lb (by clear Z3;first|rfl|omega|grind [US])))
 refine Z1 1 (ib (b:=(decide (0<=x1.frm/\x1.frm<=(ds.length:Int)))) 93 (fun Va=>?_) (fun Va=>?_))
 ·have Te:0<=x1.frm/\x1.frm<=(ds.length:Int):=(dq).1 Va
  exact ZM 3 [0] (iw (UE ds) (Zx [] (Tj x1.to_ 0 (ds.length:Int)) (Z1 1 (Yq (wk [0] (Zt (decide (0<=x1.to_/\x1.to_<=(ds.length:Int))) Va fl)) hj2))))
 have Tf:¬(0<=x1.frm/\x1.frm<=(ds.length:Int)):=Yc dq Va
 exact Z1 6 (Yq (wk [0] (Zt false Va fl)) hj2)
theorem Zgw (ds:List Zg) (hz:Ae ds:=by exact ob):Zi 222 [ZP ds] [] (Yj (.b (WZ ds))):=by
 have hzl:=hz.len
 refine ZG 17 Tryz.func222 (ZF (YO 1 (iw (UE ds) (Y5 ((ds.length:Int)>4) (fun Za=>?_) (fun Za=>?_)))))
 ·exact ar (Zq (Y2 (.b false) (lb (by first|rfl|omega|grind [WZ]))))
 refine ak (Yg (ab 0 (Y3 (fun fz gz m F h=>∃(k:Nat),(k<=ds.length)/\(Tw ds (ds.drop k) k=Tw ds ds 0)/\F=sF [0] fz [(3,.i k)]/\h=gz/\m=ds.length-k) _ _ _ ⟨0,ob,ob,rfl,rfl,rfl⟩ (wk [] (Yb fl)) ?_)))
 rintro m F h ⟨k,Ye,Zk,rfl,rfl,rfl⟩
 refine YO 2 (iw (UE ds) (Y5 ((k:Int)<(ds.length:Int)) (fun Zh=>?_) (fun Zh=>?_)))
 ·refine ak (aq (ab 1 (Y6 2 (Zx [] (Zgr ds k) (YG (!C0 ds k) (p:=¬(C0 ds k=true)) (YE Iff.rfl) (fun ZE=>?_) (fun ZE=>?_))))))
  ·refine ZF ?_
   try rw [Xf (xs:=ds) (k:=k) om] at Zk
   obtain ⟨x1,Z3⟩:=Zs ds k om
   rw [Y7 Z3] at Zk
   exact ZD (Y2 (.b false) (lb (by first|rfl|omega|grind [Tw,WZ])))
  refine ak (az (Z1 1 (ZJ k (Z0 ?_))))
  obtain ⟨x1,Z3⟩:=Zs ds k om
  have hdr:=Y7 Z3
  exact ZK ⟨k+1,ob,(by rw [hdr] at Zk;clear hdr ;grind [Tw]),rfl,rfl,rfl⟩ (wk [] (ZO k fl))
 refine ax 0 (ZF ?_)
 try rw [Xf (xs:=ds) (k:=k) om] at Zk
 exact ZD (Y2 (.b true) (lb (by first|rfl|omega|grind [Tw,WZ])))
theorem Zgj (n:Zm) (hz:n.routines.length<=4194304:=by exact ob):Zi 171 [Yl n] [] (Yj (.agg [ZP n.decls,.sl (Uw (n.routines.map VM)) none])):=by
 refine ZG 35 Tryz.func171 (ar (iA (YR n) fun b1=>iA [nl,nl] fun b2=>ie (Zw 2 [1] (iL (Uw []) 0 5 fun v1=>Z1 1 (iA [nl,nl] fun b3=>?_)))))
 refine ZC 0 b3 [ZP n.decls,.sl (Uw []) (some v1)] (ie (Yg (ab 0 (Y3 (fun fz gz m F h=>∃(k:Nat) (v:Value),(k<=n.routines.length)/\F=sF [1,2,3] fz [(4,.i k)]/\h=[.obj b3 [ZP n.decls,.sl (Uw ((n.routines.take k).map VM)) (some v)],Zd gz 2,Zd gz 3,.tail v 5]/\m=n.routines.length-k) _ _ _ ⟨0,v1,ob,rfl,rfl,rfl⟩ (wk [0,1,1,0] (Yb fl)) ?_))))
 rintro m F h ⟨k,v,Ye,rfl,rfl,rfl⟩
 refine Yk 3 [2] (iw (U7 n.routines) (Y5 ((k:Int)<(n.routines.length:Int)) (fun Za=>?_) (fun Za=>?_)))
 ·refine ak (aq (ab 1 (aE 19 (ZH 14 19 [0,1,2,3,4] [0,2] ?_))))
  obtain ⟨x1,Z3⟩:=Zs n.routines k om
  refine dx 5 (Zj none (k:Int) 5 (WD Z3)) (ZH 8 13 [6,7,8,9,10] [2] (dx 11 (Zj none (k:Int) 5 (WD Z3)) (Yt 4 7 [12,13,14] [(30,.agg [Z4 x1.params,.i x1.result,.i 0,.i 0,.sl [] none])] (Z9 15 (dL 15 [0] [b3] (Uw [Sg.mk x1.params x1.result]) 1 5 fun v2=>Yt 3 3 [] [(31,.sl (Uw [Sg.mk x1.params x1.result]) none)] (Z9 16 (dp 16 4 [] [] (Uw ((n.routines.take (k+1)).map VM)) (Uw ((n.routines.take k).map VM)) (Uw [Sg.mk x1.params x1.result]) v none 5 (NU _) (NU _) (Z5o _) (by simp<;>omega) (by rw [WS Z3];simp [Uw,VM]) fun v3=>Zl 1 2 [17] (Z9 18 (YK 18 2 [] [] b3 [ZP n.decls,.sl (Uw ((n.routines.take (k+1)).map VM)) (some v3)] (de (az (Z1 1 (ZJ k (Z0 ?_))))))))))))))
  have hdr:=Y7 Z3
  exact ZK ⟨k+1,v3,ob,rfl,rfl,rfl⟩ (wk [0,2,2,0] (ZO k fl))
 exact ax 0 (Zw 1 [0] (ZC 1 b2 [ZP n.decls,.sl (Uw ((n.routines.take k).map VM)) (some v)] (ie (ZD (r3 [] [.agg [ZP n.decls,.sl (Uw ((n.routines.take k).map VM)) (some v)]] [0] [(b2,b2)] ⟨rfl,rfl⟩ (Zc.agg (.cons (lr _) (.cons (Zc.sl _ (Yn Uw (by rw [show k=n.routines.length by omega,VX]))) .nil))))))))
theorem Zgv (ds:List Zg) (fs:List Sg) (hz:Ae ds:=by exact ob) (hf:∀f∈fs,f.params.length<=4194304):Zi 170 [.agg [ZP ds,.sl (Uw fs) none]] [] (Yj (.b (QO ds fs))):=by
 have hzl:=hz.len
 refine ZG 64 Tryz.func170 (ar (iA [ZP ds,.sl (Uw fs) none] fun b1=>Z0 (Yk 2 [0] (Zx [] (Zgw ds) (Xr [1] [(15,.b ((!WZ ds)||(!(decide (1<=(fs.length:Int)/\(fs.length:Int)<=4)))))] (fun gz=>gz) ?_ ?_)))))
 ·refine Z1 2 (ib (b:=(!WZ ds)) 9 (fun Zb=>?_) (fun Zb=>?_))
  ·have ZY:¬(WZ ds=true):=((YE Iff.rfl)).1 Zb
   exact Z0 (wk [0] (Zt true Zb fl))
  have Yi:¬(¬(WZ ds=true)):=Yc (YE Iff.rfl) Zb
  exact ZM 2 [0] (iw (NV fs) (Zx [] (Tj (fs.length:Int) 1 4) (Z0 (wk [0] (Zt (!(decide (1<=(fs.length:Int)/\(fs.length:Int)<=4))) Zb fl)))))
 refine ac ((!WZ ds)||(!(decide (1<=(fs.length:Int)/\(fs.length:Int)<=4)))) (p:=(¬(WZ ds=true))∨(¬(1<=(fs.length:Int)/\(fs.length:Int)<=4))) (Ys (YE Iff.rfl) (YE dq)) (fun Za=>?_) (fun Za=>?_)
 ·exact ar (Zq (Y2 (.b false) (lb (by first|rfl|omega|grind [QO]))))
 refine ak (Yg (ab 0 (Y3 (fun fz gz m F h=>∃(k:Nat),(k<=fs.length)/\(Jc ds.length (fs.drop k)=Jc ds.length fs)/\F=sF [1] fz [(3,.i k)]/\h=gz/\m=fs.length-k) _ _ _ ⟨0,ob,ob,rfl,rfl,rfl⟩ (wk [0] (Yb fl)) ?_)))
 rintro m F h ⟨k,Ye,Zk,rfl,rfl,rfl⟩
 refine Yk 3 [0] (iw (NV fs) (Y5 ((k:Int)<(fs.length:Int)) (fun Zh=>?_) (fun Zh=>?_)))
 ·refine ak (aq (ab 1 (Zw 3 [0] ?_)))
  obtain ⟨x1,Z3⟩:=Zs fs k om
  refine Zo (Zj none (k:Int) 5 (Ik Z3)) (Z1 1 (iA [nl,.i 0,.i 0,.i 0,nl] fun b2=>ZC 0 b2 [Z4 x1.params,.i x1.result,.i 0,.i 0,.sl [] none] (ie (Zw 2 [0] (iw (Yd x1.params) (XI 12 [1,3,4] [(39,.b ((decide ((x1.params.length:Int)>3))||(!Wm ds.length x1.params)))] (fun gz=>gz) ?_ (fun hj1=>?_)))))))
  ·refine Xr [1,3] [(48,.b (((decide ((x1.params.length:Int)>3))||(!Wm ds.length x1.params))||(!(decide (0<=x1.result/\x1.result<=(ds.length:Int))))))] (fun gz=>gz) ?_ ?_
   ·refine Z1 1 (ib (b:=((decide ((x1.params.length:Int)>3))||(!Wm ds.length x1.params))) 40 (fun ZB=>?_) (fun ZB=>?_))
    ·have YL:((x1.params.length:Int)>3)∨(¬(Wm ds.length x1.params=true)):=((Ys dq (YE Iff.rfl))).1 ZB
     exact Z0 (wk [0,0] (Zt true ZB fl))
    have YP:¬(((x1.params.length:Int)>3)∨(¬(Wm ds.length x1.params=true))):=Yc (Ys dq (YE Iff.rfl)) ZB
    exact ZM 4 [0,1] (iw (UE ds) (Zx [] (Tj x1.result 0 (ds.length:Int)) (Z0 (wk [0,0] (Zt (!(decide (0<=x1.result/\x1.result<=(ds.length:Int)))) ZB fl)))))
   refine ac (((decide ((x1.params.length:Int)>3))||(!Wm ds.length x1.params))||(!(decide (0<=x1.result/\x1.result<=(ds.length:Int))))) (p:=(((x1.params.length:Int)>3)∨(¬(Wm ds.length x1.params=true)))∨(¬(0<=x1.result/\x1.result<=(ds.length:Int)))) (Ys (Ys dq (YE Iff.rfl)) (YE dq)) (fun ZE=>?_) (fun ZE=>?_)
   ·refine ZF ?_
    rw [Y7 Z3] at Zk
    exact ZD (Y2 (.b false) (lb (by clear Z3;first|rfl|omega|grind [Jc,KE,QO])))
   refine ak (az (Z1 1 (ZJ k (Z0 ?_))))
   have hdr:=Y7 Z3
   exact ZK ⟨k+1,ob,(by rw [hdr] at Zk;clear hdr Z3;grind [Jc,KE]),rfl,rfl,rfl⟩ (wk [1] (ZO k fl))
  refine Z1 2 (ib (b:=(decide ((x1.params.length:Int)>3))) 32 (fun Yy=>?_) (fun Yy=>?_))
  ·have Xc:(x1.params.length:Int)>3:=(dq).1 Yy
   exact Z1 7 (Yq (wk [0,0] (Zt true Yy fl)) hj1)
  have XT:¬((x1.params.length:Int)>3):=Yc dq Yy
  exact ZM 4 [1,0] (Zx [] (SH ds x1.params) (Z1 2 (Yq (wk [0,0] (Zt (!Wm ds.length x1.params) Yy fl)) hj1)))
 refine ax 0 (Zw 2 [0] ?_)
 obtain ⟨x2,Zv⟩:=Zs fs 0 om
 have hfo:=Z65 Zv
 refine Zo (Zj none 0 5 (Ik Zv)) (Z1 2 (iw (Yd x2.params) (XI 15 [] [(63,.b (((x2.params.length:Int)==0)&&(x2.result==0)))] (fun gz=>gz) ?_ (fun hj2=>?_))))
 ·refine Z0 ?_
  try rw [Xf (xs:=fs) (k:=k) om] at Zk
  exact ZD (Y2 (.b (((x2.params.length:Int)==0)&&(x2.result==0))) (lb (by clear Zv;first|rfl|omega|grind [Jc,KE,QO])))
 refine Z1 2 (ib (b:=((x2.params.length:Int)==0)) 56 (fun Xq=>?_) (fun Xq=>?_))
 ·have Wy:(x2.params.length:Int)=0:=(Zp).1 Xq
  exact ZM 2 [0] (Zo (Zj none 0 5 (Ik Zv)) (Z1 4 (Yq (wk [0] (Zt (x2.result==0) Xq fl)) hj2)))
 have WW:¬((x2.params.length:Int)=0):=Yc Zp Xq
 exact Z1 7 (Yq (wk [0] (Zt false Xq fl)) hj2)
theorem Zgt (ps:LI) (ls:LI) (hl_ps:ps.length<=4294967296:=by exact ob) (hl_ls:ls.length<=4294967296:=by exact ob):Zi 172 [Z4 ps,Z4 ls] [] (Yj (.b (Jj ps ls))):=by
 refine ZG 47 Tryz.func172 (ZF (Yg (ab 0 (Y3 (fun fz gz m F h=>∃(k:Nat),(k<=ls.length)/\(QH ps (ls.drop k) (if k=0 then none else ls[k-1]?)=Jj ps ls)/\F=sF [0,1] fz [(5,.i k)]/\h=gz/\m=ls.length-k) _ _ _ ⟨0,ob,ob,rfl,rfl,rfl⟩ (wk [] (Yb fl)) ?_))))
 rintro m F h ⟨k,Ye,Zk,rfl,rfl,rfl⟩
 refine YO 2 (iw (Yd ls) (Y5 ((k:Int)<(ls.length:Int)) (fun Za=>?_) (fun Za=>?_)))
 ·refine ak (aq (ab 1 (aD 35 (Zl 33 35 [0,1] ?_))))
  obtain ⟨x1,Z3⟩:=Zs ls k om
  refine dx 2 (Zj none (k:Int) 1 (Y1 Z3)) (Zl 30 32 [3,4] (dw 5 (Yd ps) (da 6 (((ps.length:Int)-1)) (((ps.length:Int))-(1)) (Z9 7 (Yo 7 [] [] [] (Tj x1 0 ((ps.length:Int)-1)) (Zl 25 27 [8,9] (db (b:=(!(decide (0<=x1/\x1<=((ps.length:Int)-1))))) 21 (fun Zb=>?_) (fun Zb=>?_))))))))
  ·have ZY:¬(0<=x1/\x1<=((ps.length:Int)-1)):=((YE dq)).1 Zb
   refine Zl 0 25 [10,11,12,13,14,15,16,17,18,19,20,21,22,23,24,25,26,27,28,29,30,31,32,33,34] (de (Wa (ZF ?_)))
   rw [Y7 Z3] at Zk
   exact ZD (Y2 (.b false) (lb (by have hq:=Gm (ps:=ps) (v:=x1) (r:=ls.drop (k+1)) (prev:=if k=0 then none else ls[k-1]?);rw [<-Zk,hq];rintro ⟨q1,q2,q3⟩;first|omega|(rw [hps] at q2;exact q2 (Yn some om))|(have:=q3 _ (by rw [Z8 om,hls]);omega))))
  have Yi:¬(¬(0<=x1/\x1<=((ps.length:Int)-1))):=Yc (YE dq) Zb
  refine Zl 22 25 [10,11,12] (dx 13 (Zj none (k:Int) 1 (Y1 Z3)) (Zl 20 21 [14] ?_))
  obtain ⟨x2,Zv⟩:=Zs ps x1.toNat om
  have hps:=Zv
  refine dx 15 (Zj none x1 1 (Y1 Zv)) (Zl 15 19 [16,17,18,19] (db (b:=(x2==0)) 31 (fun ZB=>?_) (fun ZB=>?_)))
  ·have YL:x2=0:=(Zp).1 ZB
   refine Zl 0 15 [20,21,22,23,24,25,26,27,28,29,30,31,32,33,34] (de (Wa (ZF ?_)))
   rw [Y7 Z3] at Zk
   exact ZD (Y2 (.b false) (lb (by have hq:=Gm (ps:=ps) (v:=x1) (r:=ls.drop (k+1)) (prev:=if k=0 then none else ls[k-1]?);rw [<-Zk,hq];rintro ⟨q1,q2,q3⟩;first|omega|(rw [hps] at q2;exact q2 (Yn some om))|(have:=q3 _ (by rw [Z8 om,hls]);omega))))
  have YP:¬(x2=0):=Yc Zp ZB
  refine Zl 12 15 [20,21,22] (db (b:=(decide ((k:Int)>0))) 34 (fun Yy=>?_) (fun Yy=>?_))
  ·have Xc:(k:Int)>0:=(dq).1 Yy
   refine Zl 10 12 [23,24] (dx 25 (Zj none (k:Int) 1 (Y1 Z3)) (Zl 6 9 [26,27,28] (da 29 (((k-1:Nat):Int)) (((k:Int))-(1)) ?_)))
   obtain ⟨x3,YQ⟩:=Zs ls (k-1) om
   have hls:=YQ
   refine dx 30 (Zj none ((k-1:Nat):Int) 1 (Y1 YQ)) (Zl 0 4 [31,32,33,34] (de (XW (x1<=x3) (fun Zh=>?_) (fun Zh=>?_))))
   ·refine ZF ?_
    rw [Y7 Z3] at Zk
    exact ZD (Y2 (.b false) (lb (by have hq:=Gm (ps:=ps) (v:=x1) (r:=ls.drop (k+1)) (prev:=if k=0 then none else ls[k-1]?);rw [<-Zk,hq];rintro ⟨q1,q2,q3⟩;first|omega|(rw [hps] at q2;exact q2 (Yn some om))|(have:=q3 _ (by rw [Z8 om,hls]);omega))))
   refine ak (az (Z1 1 (ZJ k (Z0 ?_))))
   have hl1:ls[k+1-1]? = some x1:=Z3
   have hlc:(0<=x1/\x1<=(ps.length:Int)-1)/\ps[x1.toNat]?≠some 0/\(∀p,(if k=0 then none else ls[k-1]?)=some p->p<x1):=⟨by omega,by rw [hps];intro q;cases q;omega,fun p hp=>by first|(rw [Z8 om,hls] at hp;cases hp;omega)|(rw [Ze om] at hp;cases hp)⟩
   have hdr:=Y7 Z3
   exact ZK ⟨k+1,ob,(by have hq:=Lh (r:=ls.drop (k+1)) hlc;rw [hdr,hq] at Zk;rw [Z8 om,hl1];exact Zk),rfl,rfl,rfl⟩ (wk [] (ZO k fl))
  have XT:¬((k:Int)>0):=Yc dq Yy
  refine Zl 0 12 [23,24,25,26,27,28,29,30,31,32,33,34] (de (Wj (ak (az (Z1 1 (ZJ k (Z0 ?_)))))))
  have hl1:ls[k+1-1]? = some x1:=Z3
  have hlc:(0<=x1/\x1<=(ps.length:Int)-1)/\ps[x1.toNat]?≠some 0/\(∀p,(if k=0 then none else ls[k-1]?)=some p->p<x1):=⟨by omega,by rw [hps];intro q;cases q;omega,fun p hp=>by first|(rw [Z8 om,hls] at hp;cases hp;omega)|(rw [Ze om] at hp;cases hp)⟩
  have hdr:=Y7 Z3
  exact ZK ⟨k+1,ob,(by have hq:=Lh (r:=ls.drop (k+1)) hlc;rw [hdr,hq] at Zk;rw [Z8 om,hl1];exact Zk),rfl,rfl,rfl⟩ (wk [] (ZO k fl))
 refine ax 0 (ZF ?_)
 try rw [Xf (xs:=ls) (k:=k) om] at Zk
 exact ZD (Y2 (.b true) (lb (by first|rfl|omega|grind [QH])))
theorem Zgu (n:Zm) (hz:Ae n.decls:=by exact ob) (hr:∀r∈n.routines,r.params.length<=4194304/\r.lent.length<=4194304):Zi 127 [Yl n] [] (Yj (.b (Vb n))):=by
 have hzl:=hz.len
 refine ZG 35 Tryz.func127 (ar (iA (YR n) fun b1=>Z0 (Yk 2 [0] (iw (U7 n.routines) (Xr [1] [(13,.b ((decide ((n.routines.length:Int)>4))||(!QO n.decls (n.routines.map VM))))] (fun gz=>gz) ?_ ?_)))))
 ·refine Z1 2 (ib (b:=(decide ((n.routines.length:Int)>4))) 8 (fun Zb=>?_) (fun Zb=>?_))
  ·have ZY:(n.routines.length:Int)>4:=(dq).1 Zb
   exact Z0 (wk [0] (Zt true Zb fl))
  have Yi:¬((n.routines.length:Int)>4):=Yc dq Zb
  exact ZM 1 [0] (Zx [] (Zgj n) (Zx [] (Zgv n.decls (n.routines.map VM) (hf:=(by intro f hf;obtain ⟨r,h1,rfl⟩:=W4.1 hf;exact (hr r h1).1))) (Z0 (wk [0] (Zt (!QO n.decls (n.routines.map VM)) Zb fl)))))
 refine ac ((decide ((n.routines.length:Int)>4))||(!QO n.decls (n.routines.map VM))) (p:=((n.routines.length:Int)>4)∨(¬(QO n.decls (n.routines.map VM)=true))) (Ys dq (YE Iff.rfl)) (fun Za=>?_) (fun Za=>?_)
 ·exact ar (Zq (Y2 (.b false) (lb (by first|rfl|omega|grind [Vb]))))
 refine ak (Yg (ab 0 (Y3 (fun fz gz m F h=>∃(k:Nat),(k<=n.routines.length)/\(T1 (n.routines.drop k)=T1 n.routines)/\F=sF [1] fz [(3,.i k)]/\h=gz/\m=n.routines.length-k) _ _ _ ⟨0,ob,ob,rfl,rfl,rfl⟩ (wk [0] (Yb fl)) ?_)))
 rintro m F h ⟨k,Ye,Zk,rfl,rfl,rfl⟩
 refine Yk 3 [0] (iw (U7 n.routines) (Y5 ((k:Int)<(n.routines.length:Int)) (fun Zh=>?_) (fun Zh=>?_)))
 ·refine ak (aq (ab 1 (aD 14 (ZH 11 14 [0,1,2] [0] ?_))))
  obtain ⟨x1,Z3⟩:=Zs n.routines k om
  refine dx 3 (Zj none (k:Int) 5 (WD Z3)) (ZH 5 10 [4,5,6,7,8] [0] (dx 9 (Zj none (k:Int) 5 (WD Z3)) (Zl 2 4 [10,11] (Z9 12 (Yo 12 [] [] [] (Zgt x1.params x1.lent (hl_ps:=(by have:=hr _ (ZZ Z3);omega)) (hl_ls:=(by have:=hr _ (ZZ Z3);omega))) (Zl 0 1 [13] (de (ac (!Jj x1.params x1.lent) (p:=¬(Jj x1.params x1.lent=true)) (YE Iff.rfl) (fun ZE=>?_) (fun ZE=>?_)))))))))
  ·refine ZF ?_
   rw [Y7 Z3] at Zk
   exact ZD (Y2 (.b false) (lb (by clear Z3;first|rfl|omega|grind [T1,Vb])))
  refine ak (az (Z1 1 (ZJ k (Z0 ?_))))
  have hdr:=Y7 Z3
  exact ZK ⟨k+1,ob,(by rw [hdr] at Zk;clear hdr Z3;grind [T1]),rfl,rfl,rfl⟩ (wk [0] (ZO k fl))
 refine ax 0 (ZF ?_)
 try rw [Xf (xs:=n.routines) (k:=k) om] at Zk
 exact ZD (Y2 (.b true) (lb (by first|rfl|omega|grind [T1,Vb])))
theorem Jd (op:Int) :Zi 169 [.i op] [] (Yj (.b (XF op))):=by
 exact ZG 5 Tryz.func169 (ZF (Y6 1 (Zx [] (Tj op 0 11) (Zq (Y2 (.b (decide (0<=op/\op<=11))) (lb (by first|rfl|omega|grind [XF])))))))
theorem Zg9 (op:Int) :Zi 210 [.i op] [] (Yj (.b (VI op))):=by
 refine ZG 21 Tryz.func210 (ZF (ar (XI 6 [0] [(8,.b ((op==0)||(op==6)))] (fun gz=>gz) ?_ (fun hj1=>?_))))
 ·refine XI 10 [0] [(12,.b (((op==0)||(op==6))||(op==8)))] (fun gz=>gz) ?_ (fun hj2=>?_)
  ·refine XI 14 [0] [(16,.b ((((op==0)||(op==6))||(op==8))||(op==9)))] (fun gz=>gz) ?_ (fun hj3=>?_)
   ·refine XI 18 [] [(20,.b (((((op==0)||(op==6))||(op==8))||(op==9))||(op==10)))] (fun gz=>gz) ?_ (fun hj4=>?_)
    ·exact Zq (Y2 (.b (((((op==0)||(op==6))||(op==8))||(op==9))||(op==10))) (lb (by rw [VI];simp only [Bool.or_assoc])))
    refine Z1 1 (ib (b:=((((op==0)||(op==6))||(op==8))||(op==9))) 17 (fun Zb=>?_) (fun Zb=>?_))
    ·exact Z1 3 (Yq (wk [] (Zt true Zb fl)) hj4)
    exact Z1 3 (Yq (wk [] (Zt (op==10) Zb fl)) hj4)
   refine Z1 1 (ib (b:=(((op==0)||(op==6))||(op==8))) 13 (fun ZB=>?_) (fun ZB=>?_))
   ·exact Z1 3 (Yq (wk [] (Zt true ZB fl)) hj3)
   exact Z1 3 (Yq (wk [] (Zt (op==9) ZB fl)) hj3)
  refine Z1 1 (ib (b:=((op==0)||(op==6))) 9 (fun Yy=>?_) (fun Yy=>?_))
  ·exact Z1 3 (Yq (wk [] (Zt true Yy fl)) hj2)
  exact Z1 3 (Yq (wk [] (Zt (op==8) Yy fl)) hj2)
 refine Z1 3 (ib (b:=(op==0)) 5 (fun Xq=>?_) (fun Xq=>?_))
 ·exact Z1 3 (Yq (wk [] (Zt true Xq fl)) hj1)
 exact Z1 3 (Yq (wk [] (Zt (op==6) Xq fl)) hj1)
theorem BF (us:LI) (args:LI) (tys:LI) (hl_us:us.length<=4294967296:=by exact ob) (hl_args:args.length<=4294967296:=by exact ob) (hl_tys:tys.length<=4294967296:=by exact ob):Zi 212 [Z4 us,Z4 args,Z4 tys] [] (Yj (.b (W9 us args tys))):=by
 refine ZG 42 Tryz.func212 (ZF (YO 1 (iw (Yd args) (Z1 1 (iw (Yd tys) (YG ((args.length:Int) != (tys.length:Int)) Ym (fun Za=>?_) (fun Za=>?_)))))))
 ·exact ar (Zq (Y2 (.b false) (lb (Z0t om).symm)))
 refine ak (Yg (ab 0 (Y3 (fun fz gz m F h=>∃(k:Nat),(k<=args.length)/\(Tl us (args.drop k) (tys.drop k)=W9 us args tys)/\F=sF [0,1,2] fz [(7,.i k)]/\h=gz/\m=args.length-k) _ _ _ ⟨0,ob,ob,rfl,rfl,rfl⟩ (wk [] (Yb fl)) ?_)))
 rintro m F h ⟨k,Ye,Zk,rfl,rfl,rfl⟩
 refine YO 2 (iw (Yd args) (Y5 ((k:Int)<(args.length:Int)) (fun Zh=>?_) (fun Zh=>?_)))
 ·refine ak (aq (ab 1 (aD 23 (Zl 21 23 [0,1] ?_))))
  obtain ⟨x1,Z3⟩:=Zs args k om
  refine dx 2 (Zj none (k:Int) 1 (Y1 Z3)) (Zl 18 20 [3,4] (dw 5 (Yd us) (da 6 (((us.length:Int)-1)) (((us.length:Int))-(1)) (Z9 7 (Yo 7 [] [] [] (Tj x1 0 ((us.length:Int)-1)) (Zl 13 15 [8,9] (db (b:=(!(decide (0<=x1/\x1<=((us.length:Int)-1))))) 28 (fun Zb=>?_) (fun Zb=>?_))))))))
  ·have ZY:¬(0<=x1/\x1<=((us.length:Int)-1)):=((YE dq)).1 Zb
   refine Zl 0 13 [10,11,12,13,14,15,16,17,18,19,20,21,22] (de (Wa (ZF ?_)))
   obtain ⟨y,hy⟩:=Zs tys k om
   exact ZD (Y2 (.b false) (lb (by rw [<-Zk];exact (Z0s Z3 hy (by rw [Kt ZY];simp)).symm)))
  have Yi:¬(¬(0<=x1/\x1<=((us.length:Int)-1))):=Yc (YE dq) Zb
  refine Zl 10 13 [10,11,12] (dx 13 (Zj none (k:Int) 1 (Y1 Z3)) (Zl 8 9 [14] ?_))
  obtain ⟨x2,Zv⟩:=Zs us x1.toNat om
  refine dx 15 (Zj none x1 1 (Y1 Zv)) (Zl 4 7 [16,17,18] ?_)
  obtain ⟨x3,YQ⟩:=Zs tys k om
  refine dx 19 (Zj none (k:Int) 1 (Y1 YQ)) (Zl 0 3 [20,21,22] (de (ac (x2 != x3) Ym (fun ZE=>?_) (fun ZE=>?_))))
  ·exact ar (Zq (Y2 (.b false) (lb (by rw [<-Zk];exact (Z0s Z3 YQ (by rw [Qi om Zv];simpa using ZE)).symm))))
  refine ak (az (Z1 1 (ZJ k (Z0 ?_))))
  have hdr:=Y7 Z3
  exact ZK ⟨k+1,ob,(by rw [<-Zk];exact (Zi2 Z3 YQ (by rw [Qi om Zv];congr 1;omega)).symm),rfl,rfl,rfl⟩ (wk [] (ZO k fl))
 exact ax 0 (ar (Zq (Y2 (.b true) (lb (by rw [<-Zk];exact (Zi1 om om).symm)))))
theorem Zgs (us:LI) (s:Z5) (hl_us:us.length<=4294967296:=by exact ob):Zi 211 [Z4 us,YD s] [] (Yj (.b (Uf us s.op s.into))):=by
 refine ZG 27 Tryz.func211 (ar (iA (Xv s) fun b1=>Z0 (X4 (VL [0] (ac (s.into==0) Zp (fun Za=>?_) (fun Za=>?_))))))
 ·exact ar (Zq (Y2 (.b true) (lb (by rw [Uf,Ze Za]))))
 refine ak (ar (XI 10 [0,3] [(17,.b ((s.op==6)&&(decide (1<=s.into/\s.into<=(us.length:Int)))))] (fun gz=>gz) ?_ (fun hj1=>?_)))
 ·refine Z1 1 (ib (b:=((s.op==6)&&(decide (1<=s.into/\s.into<=(us.length:Int))))) 18 (fun Zb=>?_) (fun Zb=>?_))
  ·have ZY:(s.op=6)/\(1<=s.into/\s.into<=(us.length:Int)):=((YC Zp dq)).1 Zb
   refine ZM 3 [0] (ia ((s.into-1)) ((s.into)-(1)) ?_)
   obtain ⟨x1,Z3⟩:=Zs us ((s.into-1).toNat) om
   exact Zo (Zj none (s.into-1) 1 (Y1 Z3)) (Zq (Y2 (.b (decide (x1>0))) (lb (by rw [Uf,Z8 Za];first|(rw [Ze om,Qi om Z3];rfl)|(rw [Ze om,Kt om];rfl)|(rw [Z8 om])|(by_cases q:s.op=6;rw [Ze q,Kt om];rfl;rw [Z8 q])))))
  have Yi:¬((s.op=6)/\(1<=s.into/\s.into<=(us.length:Int))):=Yc (YC Zp dq) Zb
  exact Zq (Y2 (.b false) (lb (by rw [Uf,Z8 Za];first|(rw [Ze om,Qi om Z3];rfl)|(rw [Ze om,Kt om];rfl)|(rw [Z8 om])|(by_cases q:s.op=6;rw [Ze q,Kt om];rfl;rw [Z8 q]))))
 refine ZM 4 [0] (ib (b:=(s.op==6)) 11 (fun ZB=>?_) (fun ZB=>?_))
 ·have YL:s.op=6:=(Zp).1 ZB
  exact ZM 3 [0] (iw (Yd us) (Zx [] (Tj s.into 1 (us.length:Int)) (Z1 1 (Yq (wk [0] (Zt (decide (1<=s.into/\s.into<=(us.length:Int))) ZB fl)) hj1))))
 have YP:¬(s.op=6):=Yc Zp ZB
 exact Z1 6 (Yq (wk [0] (Zt false ZB fl)) hj1)
theorem Zgh (n:Zm) (us:LI) (s:Z5) (hn:X1 n:=by exact ob) (hl_us:us.length<=4294967296:=by exact ob) (ha:s.args.length<=1000000000:=by exact ob):Zi 215 [Yl n,Z4 us,YD s] [] (Yj (.i (Ur n us s.op s.num s.args))):=by
 have hrl:=hn.len
 have hdl:=hn.decls.len
 refine ZG 69 Tryz.func215 (ar (iA (YR n) fun b1=>iA (Xv s) fun b2=>Z0 (Yk 4 [0,1] (iw (U7 n.routines) (ia (((n.routines.length:Int)-1)) (((n.routines.length:Int))-(1)) (Zx [] (Tj s.num 0 ((n.routines.length:Int)-1)) (YG (!(decide (0<=s.num/\s.num<=((n.routines.length:Int)-1)))) (p:=¬(0<=s.num/\s.num<=((n.routines.length:Int)-1))) (YE dq) (fun Za=>?_) (fun Za=>?_))))))))
 ·exact ar (Zq (Y2 (.i (-1)) (li (Zeb om).symm)))
 refine ak (Zw 4 [1,0] ?_)
 obtain ⟨x1,Z3⟩:=Zs n.routines s.num.toNat om
 have hrp:=hn.params_at Z3
 have hrt:=hn.lent_at Z3
 have hre:Ur n us s.op s.num s.args=KD n.decls us s.op s.args x1:=Ze9 om Z3
 refine Zo (Zj none s.num 5 (WD Z3)) (Z1 1 (iA [nl,nl,.i 0,nl,.i 0] fun b3=>ZC 0 b3 (QF x1) (ie (Zw 2 [0] (iw (Yd x1.params) (Z0 (X4 (VL [1] (ac (s.op==9) Zp (fun Zh=>?_) (fun Zh=>?_))))))))))
 ·refine Yk 5 [1,0] (Zx [] (BF us s.args x1.params) (YG (!W9 us s.args x1.params) (p:=¬(W9 us s.args x1.params=true)) (YE Iff.rfl) (fun ZE=>?_) (fun ZE=>?_)))
  ·exact ar (Zq (Y2 (.i (-1)) (li (by clear Z3;first|rfl|omega|grind [KD,KW]))))
  exact ak (Bf [0] (ZD (Y2 (.i x1.result) (li (by clear Z3;first|rfl|omega|grind [KD,KW])))))
 refine ak (aq (aD 20 (Am [3,7,8] [(57,.b (((x1.params.length:Int)==0)||((decide ((x1.lent.length:Int)>0))||(!W9 us s.args (x1.params.take (x1.params.length-1))))))] (fun gz=>gz) ?_ ?_)))
 ·refine Zl 17 20 [0,1,2] (db (b:=((x1.params.length:Int)==0)) 40 (fun Zb=>?_) (fun Zb=>?_))
  ·have ZY:(x1.params.length:Int)=0:=(Zp).1 Zb
   exact Zl 0 17 [3,4,5,6,7,8,9,10,11,12,13,14,15,16,17,18,19] (de (ZI 3 (Zt true Zb fl)))
  have Yi:¬((x1.params.length:Int)=0):=Yc Zp Zb
  refine ZH 15 17 [3,4] [0] (dw 5 (Yd x1.lent) (Zl 11 14 [6,7,8] (db (b:=(decide ((x1.lent.length:Int)>0))) 46 (fun ZB=>?_) (fun ZB=>?_))))
  ·have YL:(x1.lent.length:Int)>0:=(dq).1 ZB
   exact Zl 0 11 [9,10,11,12,13,14,15,16,17,18,19] (de (ZI 3 (Zt true (And.intro Zb ZB) fl)))
  have YP:¬((x1.lent.length:Int)>0):=Yc dq ZB
  exact ZH 5 11 [9,10,11,12,13,14] [1,0] (da 15 (((x1.params.length-1:Nat):Int)) (((x1.params.length:Int))-(1)) (dx 16 (JD (es:=Z7 x1.params) (hv:=none) (l:=0) (m:=((x1.params.length-1:Nat):Int)) (sz:=1) (es':=Z7 (x1.params.take (x1.params.length-1))) kr om (by simp<;>omega) (by simp<;>omega) (YB _) (by first|(simp only [Uh,VX,Jw,Aq];done)|(simp only [Uh,VX,Jw,Aq];rfl)|(simp [Jw,Aq];done))) (Z9 17 (Yo 17 [] [] [] (BF us s.args (x1.params.take (x1.params.length-1))) (Zl 0 2 [18,19] (de (ZI 3 (Zt (!W9 us s.args (x1.params.take (x1.params.length-1))) (And.intro Zb ZB) fl))))))))
 refine ac (((x1.params.length:Int)==0)||((decide ((x1.lent.length:Int)>0))||(!W9 us s.args (x1.params.take (x1.params.length-1))))) (p:=((x1.params.length:Int)=0)∨(((x1.lent.length:Int)>0)∨(¬(W9 us s.args (x1.params.take (x1.params.length-1))=true)))) (Ys Zp (Ys dq (YE Iff.rfl))) (fun Yf=>?_) (fun Yf=>?_)
 ·exact ar (Zq (Y2 (.i (-1)) (li (by clear Z3;first|rfl|omega|grind [KD,KW]))))
 refine ak (aD 12 (ZH 7 12 [0,1,2,3,4] [2,0] (da 5 (((x1.params.length-1:Nat):Int)) (((x1.params.length:Int))-(1)) ?_)))
 obtain ⟨x2,Zv⟩:=Zs x1.params (x1.params.length-1) om
 have hgl:=OI Zv
 exact dx 6 (Zj none ((x1.params.length-1:Nat):Int) 1 (Y1 Zv)) (ZH 2 5 [7,8,9] [0] (Z9 10 (Yo 10 [] [] [] (SK n.decls x2 x1.result) (Zl 0 1 [11] (de (ZD (Y2 (.i (Uu n.decls x2 x1.result)) (li (by clear Z3 Zv;first|rfl|omega|grind [KD,KW])))))))))
theorem Zg8 (n:Zm) (us:LI) (s:Z5) (hn:X1 n:=by exact ob) (hl_us:us.length<=4294967296:=by exact ob) (ha:s.args.length<=1000000000:=by exact ob):Zi 217 [Yl n,Z4 us,YD s] [] (Yj (.i (QA n.decls us s.op s.args))):=by
 have Xu:=hn.decls
 refine ZG 52 Tryz.func217 (ar (iA (YR n) fun b1=>iA (Xv s) fun b2=>Z0 (Yk 2 [0] (iw (Yd s.args) (Z1 2 (ib (b:=((s.args.length:Int) != 1)) 11 (fun Zb=>?_) (fun Zb=>?_)))))))
 ·have ZY:(s.args.length:Int)≠1:=(Ym).1 Zb
  exact Z0 (Wa (ar (Zq (Y2 (.i (-1)) (li (by first|assumption|omega|rfl|(rw [CF om])|(rw [CG (KV om Z3) om])|(rw [CE (KV om Z3) om Zv];clear Z3 Zv;grind)))))))
 have Yi:¬((s.args.length:Int)≠1):=Yc Ym Zb
 refine ZM 2 [0] ?_
 obtain ⟨x1,Z3⟩:=Zs s.args 0 om
 refine Zo (Zj none 0 1 (Y1 Z3)) (Z1 2 (iw (Yd us) (ia (((us.length:Int)-1)) (((us.length:Int))-(1)) (Zx [] (Tj x1 0 ((us.length:Int)-1)) (Z1 3 (ib (b:=(!(decide (0<=x1/\x1<=((us.length:Int)-1))))) 22 (fun ZB=>?_) (fun ZB=>?_)))))))
 ·have YL:¬(0<=x1/\x1<=((us.length:Int)-1)):=((YE dq)).1 ZB
  exact Z0 (Wa (ar (Zq (Y2 (.i (-1)) (li (by first|assumption|omega|rfl|(rw [CF om])|(rw [CG (KV om Z3) om])|(rw [CE (KV om Z3) om Zv];clear Z3 Zv;grind)))))))
 have YP:¬(¬(0<=x1/\x1<=((us.length:Int)-1))):=Yc (YE dq) ZB
 refine ZM 3 [0] (Zo (Zj none 0 1 (Y1 Z3)) (Z1 1 ?_))
 obtain ⟨x2,Zv⟩:=Zs us x1.toNat om
 refine Zo (Zj none x1 1 (Y1 Zv)) (YG (x2==0) Zp (fun Za=>?_) (fun Za=>?_))
 ·exact ar (Zq (Y2 (.i (-1)) (li (by first|assumption|omega|rfl|(rw [CF om])|(rw [CG (KV om Z3) om])|(rw [CE (KV om Z3) om Zv];clear Z3 Zv;grind)))))
 refine ak (aq (aD 20 (Am [] [(51,.b ((s.op != 14)&&((s.op != 15)&&W6 n.decls x2)))] (fun gz=>gz) ?_ ?_)))
 ·refine ZH 16 20 [0,1,2,3] [0] (db (b:=(s.op != 14)) 35 (fun Yy=>?_) (fun Yy=>?_))
  ·have Xc:s.op≠14:=(Ym).1 Yy
   refine ZH 11 16 [4,5,6,7,8] [0] (db (b:=(s.op != 15)) 40 (fun Xq=>?_) (fun Xq=>?_))
   ·have XT:s.op≠15:=(Ym).1 Xq
    exact ZH 6 11 [9,10,11,12,13] [1,0] (dx 14 (Zj none 0 1 (Y1 Z3)) (Zl 4 5 [15] (dx 16 (Zj none x1 1 (Y1 Zv)) (Zl 2 3 [17] (Z9 18 (Yo 18 [] [] [] (EK n.decls x2 (hd:=(by first|assumption|omega|rfl|(rw [CF om])|(rw [CG (KV om Z3) om])|(rw [CE (KV om Z3) om Zv];clear Z3 Zv;grind)))) (Zl 0 1 [19] (de (wk [0,0] (Zt (W6 n.decls x2) (And.intro Yy Xq) fl))))))))))
   have Wy:¬(s.op≠15):=Yc Ym Xq
   exact Zl 0 11 [9,10,11,12,13,14,15,16,17,18,19] (de (wk [0,0] (Zt false (And.intro Yy Xq) fl)))
  have WW:¬(s.op≠14):=Yc Ym Yy
  exact Zl 0 16 [4,5,6,7,8,9,10,11,12,13,14,15,16,17,18,19] (de (wk [0,0] (Zt false Yy fl)))
 refine ac ((s.op != 14)&&((s.op != 15)&&W6 n.decls x2)) (p:=(s.op≠14)/\((s.op≠15)/\(W6 n.decls x2=true))) (YC Ym (YC Ym Iff.rfl)) (fun Zh=>?_) (fun Zh=>?_)
 ·exact ar (Zq (Y2 (.i (-1)) (li (by first|assumption|omega|rfl|(rw [CF om])|(rw [CG (KV om Z3) om])|(rw [CE (KV om Z3) om Zv];clear Z3 Zv;grind)))))
 exact ak (ar (Zq (Y2 (.i 0) (li (by first|assumption|omega|rfl|(rw [CF om])|(rw [CG (KV om Z3) om])|(rw [CE (KV om Z3) om Zv];clear Z3 Zv;grind))))))
theorem SS (n:Zm) (us:LI) (s:Z5) (hn:X1 n:=by exact ob) (hop:s.op=7∨s.op=8:=by exact ob) (hb:us.length+4*s.sz<=1000000000:=by exact ob) (ih:∀(b:Z6) (us:LI),(b.sz<s.sz)->(us.length+4*b.sz<=1000000000)->Zi 128 [Yl n,Z4 us,ZW b] [] (Yj (.i (X6 n us b)))):Zi 214 [Yl n,Z4 us,YD s] [] (Yj (.i (TO n us s.op s.num s.kids))):=by
 have Xu:=hn.decls
 have hkz:=TF s
 refine ZG 71 Tryz.func214 (ar (iA (YR n) fun b1=>iA (Xv s) fun b2=>Z0 (Zw 4 [1,0] (ic [] (A5 n.decls s.num) ?_))))
 rintro _ _ ⟨v1,rfl,rfl⟩
 refine Z0 (Y6 1 (io (.i (((ZX n.decls s.num).length:Nat):Int)) (.i (((Z7 (ZX n.decls s.num)).length:Nat):Int)) (li (by rw [Yd])) (Z0 (X4 (VL [1] (XR (fun fz gz F h=>F=sF [1,3,5] fz [(7,Z4 (ZX n.decls s.num)),(8,.i (((Xj n.decls s.op s.num).length:Nat):Int))]/\h=[Zd gz 1,Zd gz 2]) ?_ ?_))))))
 ·refine ac (s.op==7) Zp (fun Za=>?_) (fun Za=>?_)
  ·exact Td (ZT ⟨rfl,rfl⟩ (wk [1,1] (fc (x:=ZQ (ZX n.decls s.num) v1) (Zc.forget _ _) (fc (x:=.i 2) (li (by rw [Xj,Ze Za];rfl)) fl))))
  exact ak (ZT ⟨rfl,rfl⟩ (wk [1,1] (fc (x:=ZQ (ZX n.decls s.num) v1) (Zc.forget _ _) (fc (x:=.i (((ZX n.decls s.num).length:Nat):Int)) (li (by rw [Xj,Z8 Za,Jo])) fl))))
 rintro F h ⟨rfl,rfl⟩
 refine X4 (Xr [1,3,5,7,8] [(31,.b (((((Xj n.decls s.op s.num).length:Nat):Int)==0)||((s.kids.length:Int) != (((Xj n.decls s.op s.num).length:Nat):Int))))] (fun gz=>gz) ?_ ?_)
 ·refine Z1 3 (ib (b:=((((Xj n.decls s.op s.num).length:Nat):Int)==0)) 25 (fun Zb=>?_) (fun Zb=>?_))
  ·exact Z0 (wk [0,0] (Zt true Zb fl))
  exact ZM 2 [0] (iw (Uk s.kids) (Z0 (wk [0,0] (Zt ((s.kids.length:Int) != (((Xj n.decls s.op s.num).length:Nat):Int)) Zb fl))))
 refine ac (((((Xj n.decls s.op s.num).length:Nat):Int)==0)||((s.kids.length:Int) != (((Xj n.decls s.op s.num).length:Nat):Int))) (p:=((((Xj n.decls s.op s.num).length:Nat):Int)=0)∨((s.kids.length:Int)≠(((Xj n.decls s.op s.num).length:Nat):Int))) (Ys Zp Ym) (fun Zh=>?_) (fun Zh=>?_)
 ·exact ar (Zq (Y2 (.i (-1)) (li (by rw [TO,Ze om]))))
 refine ak (ZF (Yg (ab 0 (Y3 (fun fz gz m F h=>∃(k:Nat) (t:Int),(k<=s.kids.length)/\(XU n us (s.kids.drop k) ((Xj n.decls s.op s.num).drop k) (decide (k=0)) t=XU n us s.kids (Xj n.decls s.op s.num) true 0)/\F=sF [1,3,5,7,8] fz [(9,.i t),(10,.i k)]/\h=gz/\m=s.kids.length-k) _ _ _ ⟨0,0,ob,(by rfl),rfl,rfl,rfl⟩ (wk [0,0] (fr (Yb fl))) ?_))))
 rintro m F h ⟨k,t,Ye,Zk,rfl,rfl,rfl⟩
 refine X4 (Y5 ((k:Int)<(((Xj n.decls s.op s.num).length:Nat):Int)) (fun ZE=>?_) (fun ZE=>?_))
 ·refine ak (aq (ab 1 (ZF (X4 (VL [0] (XR (fun fz gz F h=>∃(m:LI),((Xj n.decls s.op s.num)[k]? = some m)/\F=sF [1,3,5,7,8,9,10] fz [(11,Z4 (us++m))]/\h=gz) ?_ ?_))))))
  ·refine ac (s.op==8) Zp (fun Yf=>?_) (fun Yf=>?_)
   ·refine aE 10 (ZH 5 10 [0,1,2,3,4] [1] ?_)
    obtain ⟨x1,Z3⟩:=Zs (ZX n.decls s.num) k (by rw [Xj,Z8 om,Jo] at ZE;omega)
    refine dx 5 (Zj none (k:Int) 1 (Y1 Z3)) (Zl 3 4 [6] (Z9 7 (Yo 7 [] [] [] (KG n.decls x1) (Z9 8 (dc 8 [] [] [] (Kh us (ZV n.decls x1) (hl:=(by have:=U5 Xu x1;omega))) ?_)))))
    rintro _ _ ⟨v2,rfl,rfl⟩
    exact Zl 0 1 [9] (de (ZT ⟨(ZV n.decls x1),(by rw [show s.op=8 from Yf];exact Z2f Z3),rfl,rfl⟩ (wk [1,1] fl)))
   exact ak (ZT ⟨[],(by rw [Xj,Ze om];have:k=0∨k=1:=(by rw [Xj,Ze om] at ZE;simp at ZE;omega);rcases this with rfl|rfl<;>rfl),rfl,rfl⟩ (wk [0,0] (fc (x:=Z4 us) (Zc.sl _ (Yn Z7 (by simp))) fl)))
  rintro F h ⟨m,K8,rfl,rfl⟩
  refine aD 9 (ZH 4 9 [0,1,2,3,4] [1,0] ?_)
  obtain ⟨x2,Zv⟩:=Zs s.kids k om
  have hks:=TE Zv
  have hm3:=F3 Xu K8
  refine dx 5 (Zj none (k:Int) 2 (UT Zv)) (Zl 2 3 [6] (Z9 7 (Yo 7 [] [] [] (ih x2 (us++m) ob (by simp only [Yr];omega)) (Zl 0 1 [8] (de (X4 (Xr [1,3,5,7,8,10,12] [(68,.b ((decide ((X6 n (us++m) x2)<0))||((decide ((k:Int)>0))&&((X6 n (us++m) x2) != t))))] (fun gz=>gz) ?_ ?_)))))))
  ·refine Z1 3 (ib (b:=(decide ((X6 n (us++m) x2)<0))) 60 (fun ZB=>?_) (fun ZB=>?_))
   ·exact Z0 (wk [0,0] (Zt true ZB fl))
   refine Z1 3 (ib (b:=(decide ((k:Int)>0))) 63 (fun Yy=>?_) (fun Yy=>?_))
   ·exact Z0 (wk [0,0] (Zt ((X6 n (us++m) x2) != t) (And.intro ZB Yy) fl))
   exact Z0 (wk [0,0] (Zt false (And.intro ZB Yy) fl))
  refine ac ((decide ((X6 n (us++m) x2)<0))||((decide ((k:Int)>0))&&((X6 n (us++m) x2) != t))) (p:=((X6 n (us++m) x2)<0)∨(((k:Int)>0)/\((X6 n (us++m) x2)≠t))) (Ys dq (YC dq Ym)) (fun Xb=>?_) (fun Xb=>?_)
  ·exact ar (Zq (Y2 (.i (-1)) (li (by rw [TO,Z8 om,<-Zk];exact (Pz Zv K8 Xb).symm))))
  exact ak (Td (az (Z1 1 (ZJ k (Z0 (ZK ⟨k+1,X6 n (us++m) x2,ob,(by rw [<-Zk];exact (PB Zv K8 Xb).symm),rfl,rfl,rfl⟩ (wk [0,0] (fr (ZO k fl)))))))))
 exact ax 0 (ar (Zq (Y2 (.i t) (li (by rw [TO,Z8 om,<-Zk];exact (PA om).symm)))))
theorem SX (n:Zm) (us:LI) (s:Z5) (hn:X1 n:=by exact ob) (hb:us.length+4*s.sz<=1000000000:=by exact ob) (ih:∀(b:Z6) (us:LI),(b.sz<s.sz)->(us.length+4*b.sz<=1000000000)->Zi 128 [Yl n,Z4 us,ZW b] [] (Yj (.i (X6 n us b)))):Zi 164 [Yl n,Z4 us,YD s] [] (Yj (.i (Y8 n us s))):=by
 have Xu:=hn.decls
 have hkz:=TF s
 have haz:=Qh s
 have hdl:=Xu.len
 have hst:=AO n us s
 refine ZG 183 Tryz.func164 (ar (iA (YR n) fun b1=>iA (Xv s) fun b2=>Z0 (X4 (XI 9 [1,3,5] [(16,.b ((s.num != 0)&&(!VI s.op)))] (fun gz=>gz) ?_ (fun hj1=>?_)))))
 ·refine XI 15 [1,3,5] [(22,.b (((s.num != 0)&&(!VI s.op))||(!Uf us s.op s.into)))] (fun gz=>gz) ?_ (fun hj2=>?_)
  ·refine Xr [1,3,5] [(38,.b ((((s.num != 0)&&(!VI s.op))||(!Uf us s.op s.into))||((decide ((s.kids.length:Int)>0))&&((s.op != 7)&&(s.op != 8)))))] (fun gz=>gz) ?_ ?_
   ·refine Z1 1 (ib (b:=(((s.num != 0)&&(!VI s.op))||(!Uf us s.op s.into))) 23 (fun Zb=>?_) (fun Zb=>?_))
    ·have ZY:((s.num≠0)/\(¬(VI s.op=true)))∨(¬(Uf us s.op s.into=true)):=((Ys (YC Ym (YE Iff.rfl)) (YE Iff.rfl))).1 Zb
     exact Z0 (wk [0,0] (Zt true Zb fl))
    have Yi:¬(((s.num≠0)/\(¬(VI s.op=true)))∨(¬(Uf us s.op s.into=true))):=Yc (Ys (YC Ym (YE Iff.rfl)) (YE Iff.rfl)) Zb
    refine ZM 2 [0] (iw (Uk s.kids) (Z1 2 (ib (b:=(decide ((s.kids.length:Int)>0))) 28 (fun ZB=>?_) (fun ZB=>?_))))
    ·have YL:(s.kids.length:Int)>0:=(dq).1 ZB
     refine ZM 5 [0] (ib (b:=(s.op != 7)) 33 (fun Yy=>?_) (fun Yy=>?_))
     ·have YP:s.op≠7:=(Ym).1 Yy
      exact VL [0] (wk [0,0] (Zt (s.op != 8) (And.intro Zb (And.intro ZB Yy)) fl))
     have Xc:¬(s.op≠7):=Yc Ym Yy
     exact Z0 (wk [0,0] (Zt false (And.intro Zb (And.intro ZB Yy)) fl))
    have XT:¬((s.kids.length:Int)>0):=Yc dq ZB
    exact Z0 (wk [0,0] (Zt false (And.intro Zb ZB) fl))
   refine ac ((((s.num != 0)&&(!VI s.op))||(!Uf us s.op s.into))||((decide ((s.kids.length:Int)>0))&&((s.op != 7)&&(s.op != 8)))) (p:=(((s.num≠0)/\(¬(VI s.op=true)))∨(¬(Uf us s.op s.into=true)))∨(((s.kids.length:Int)>0)/\((s.op≠7)/\(s.op≠8)))) (Ys (Ys (YC Ym (YE Iff.rfl)) (YE Iff.rfl)) (YC dq (YC Ym Ym))) (fun Za=>?_) (fun Za=>?_)
   ·exact ar (Zq (Y2 (.i (-1)) (li (by first|rfl|( grind)|(have q:=T7 (ds:=n.decls) (us:=us) (args:=s.args) om; grind)|(have q:=T8 (ds:=n.decls) (us:=us) (args:=s.args) om ‹s.args[0]? = some _› om; grind)|(have q:=UR (ds:=n.decls) (us:=us) (args:=s.args) om ‹s.args[0]? = some _› om ‹us[_]? = some _›; grind)))))
   refine ak (X4 (VL [0] (ab 0 (ar (YG (s.op==0) Zp (fun Zh=>?_) (fun Zh=>?_))))))
   ·refine Zw 2 [0] (iw (Yd s.args) (Xr [] [(51,.b (((s.args.length:Int)==0)&&(decide ((-999)<=s.num/\s.num<=999))))] (fun gz=>gz) ?_ ?_))
    ·refine Z1 2 (ib (b:=((s.args.length:Int)==0)) 47 (fun Xq=>?_) (fun Xq=>?_))
     ·have Wy:(s.args.length:Int)=0:=(Zp).1 Xq
      exact ZM 2 [0] (Zx [] (Tj s.num (-999) 999) (Z0 (wk [0,0] (Zt (decide ((-999)<=s.num/\s.num<=999)) Xq fl))))
     have WW:¬((s.args.length:Int)=0):=Yc Zp Xq
     exact Z0 (wk [0,0] (Zt false Xq fl))
    refine ac (((s.args.length:Int)==0)&&(decide ((-999)<=s.num/\s.num<=999))) (p:=((s.args.length:Int)=0)/\((-999)<=s.num/\s.num<=999)) (YC Zp dq) (fun ZE=>?_) (fun ZE=>?_)
    ·exact ar (Zq (Y2 (.i 0) (li (by first|rfl|( grind)|(have q:=T7 (ds:=n.decls) (us:=us) (args:=s.args) om; grind)|(have q:=T8 (ds:=n.decls) (us:=us) (args:=s.args) om ‹s.args[0]? = some _› om; grind)|(have q:=UR (ds:=n.decls) (us:=us) (args:=s.args) om ‹s.args[0]? = some _› om ‹us[_]? = some _›; grind)))))
    exact ak (ar (Zq (Y2 (.i (-1)) (li (by first|rfl|( grind)|(have q:=T7 (ds:=n.decls) (us:=us) (args:=s.args) om; grind)|(have q:=T8 (ds:=n.decls) (us:=us) (args:=s.args) om ‹s.args[0]? = some _› om; grind)|(have q:=UR (ds:=n.decls) (us:=us) (args:=s.args) om ‹s.args[0]? = some _› om ‹us[_]? = some _›; grind))))))
   refine Yg (XR (fun fz gz F h=>F=sF [1,3,5,40] fz [(52,.b ((s.op==1)||((s.op==2)||((s.op==3)||(s.op==4)))))]/\h=gz) ?_ ?_)
   ·refine ac (s.op==1) Zp (fun Yf=>?_) (fun Yf=>?_)
    ·exact ak (ZT ⟨rfl,rfl⟩ (wk [0,0] (fc (x:=.b (s.op==1)) (lb (by first|rfl|(rw [Ze Yf])|(rw [Z8 Yf])|(simp [Yf];done)|(rw [Xt];simp [Yf];done)|omega)) fl)))
    refine ar (YG (s.op==2) Zp (fun Xb=>?_) (fun Xb=>?_))
    ·exact ak (ZT ⟨rfl,rfl⟩ (wk [0,0] (fc (x:=.b (s.op==2)) (lb (by first|rfl|(rw [Ze Yf])|(rw [Z8 Yf])|(simp [Yf,Xb];done)|(rw [Xt];simp [Yf,Xb];done)|omega)) fl)))
    refine ar (YG (s.op==3) Zp (fun Xg=>?_) (fun Xg=>?_))
    ·exact ak (ZT ⟨rfl,rfl⟩ (wk [0,0] (fc (x:=.b (s.op==3)) (lb (by first|rfl|(rw [Ze Yf])|(rw [Z8 Yf])|(simp [Yf,Xb,Xg];done)|(rw [Xt];simp [Yf,Xb,Xg];done)|omega)) fl)))
    exact Td (ZT ⟨rfl,rfl⟩ (wk [0,0] (fc (x:=.b (s.op==4)) (lb (by first|rfl|(rw [Ze Yf])|(rw [Z8 Yf])|(simp [Yf,Xb,Xg];done)|(rw [Xt];simp [Yf,Xb,Xg];done)|omega)) fl)))
   rintro F h ⟨rfl,rfl⟩
   refine ac ((s.op==1)||((s.op==2)||((s.op==3)||(s.op==4)))) (p:=(s.op=1)∨((s.op=2)∨((s.op=3)∨(s.op=4)))) (Ys Zp (Ys Zp (Ys Zp Zp))) (fun VS=>?_) (fun VS=>?_)
   ·refine Zw 3 [0] (iL (Z7 [0,0]) 2 1 fun v1=>ZU 0 [(60,Z4 [0,0])] (Zx [] (BF us s.args [0,0] (hl_tys:=(by first|(simp;done)|(have:=U5 Xu s.num;omega)))) (ie (ac (W9 us s.args [0,0]) Iff.rfl (fun VJ=>?_) (fun VJ=>?_)))))
    ·exact ar (Zq (Y2 (.i 0) (li (by first|rfl|( grind)|(have q:=T7 (ds:=n.decls) (us:=us) (args:=s.args) om; grind)|(have q:=T8 (ds:=n.decls) (us:=us) (args:=s.args) om ‹s.args[0]? = some _› om; grind)|(have q:=UR (ds:=n.decls) (us:=us) (args:=s.args) om ‹s.args[0]? = some _› om ‹us[_]? = some _›; grind)))))
    exact ak (ar (Zq (Y2 (.i (-1)) (li (by first|rfl|( grind)|(have q:=T7 (ds:=n.decls) (us:=us) (args:=s.args) om; grind)|(have q:=T8 (ds:=n.decls) (us:=us) (args:=s.args) om ‹s.args[0]? = some _› om; grind)|(have q:=UR (ds:=n.decls) (us:=us) (args:=s.args) om ‹s.args[0]? = some _› om ‹us[_]? = some _›; grind))))))
   refine ar (YG (s.op==5) Zp (fun VK=>?_) (fun VK=>?_))
   ·refine Zw 3 [0] (iL (Z7 [0]) 1 1 fun v2=>ZU 0 [(67,Z4 [0])] (Zx [] (BF us s.args [0] (hl_tys:=(by first|(simp;done)|(have:=U5 Xu s.num;omega)))) (ie (ac (W9 us s.args [0]) Iff.rfl (fun TL=>?_) (fun TL=>?_)))))
    ·exact ar (Zq (Y2 (.i 0) (li (by first|rfl|( grind)|(have q:=T7 (ds:=n.decls) (us:=us) (args:=s.args) om; grind)|(have q:=T8 (ds:=n.decls) (us:=us) (args:=s.args) om ‹s.args[0]? = some _› om; grind)|(have q:=UR (ds:=n.decls) (us:=us) (args:=s.args) om ‹s.args[0]? = some _› om ‹us[_]? = some _›; grind)))))
    exact ak (ar (Zq (Y2 (.i (-1)) (li (by first|rfl|( grind)|(have q:=T7 (ds:=n.decls) (us:=us) (args:=s.args) om; grind)|(have q:=T8 (ds:=n.decls) (us:=us) (args:=s.args) om ‹s.args[0]? = some _› om; grind)|(have q:=UR (ds:=n.decls) (us:=us) (args:=s.args) om ‹s.args[0]? = some _› om ‹us[_]? = some _›; grind))))))
   refine ar (YG (s.op==6) Zp (fun JA=>?_) (fun JA=>?_))
   ·refine aD 17 (ZH 13 17 [0,1,2,3] [1,0] (Z9 4 (Yo 4 [] [] [] (Mf n.decls s.num) (Am [3,5] [(87,.b ((decide ((Wh n.decls s.num)>0))&&W9 us s.args (ZV n.decls s.num)))] (fun gz=>gz) ?_ ?_))))
    ·refine Zl 10 12 [5,6] (db (b:=(decide ((Wh n.decls s.num)>0))) 77 (fun WF=>?_) (fun WF=>?_))
     ·have Vk:(Wh n.decls s.num)>0:=(dq).1 WF
      exact ZH 3 10 [7,8,9,10,11,12,13] [0,1,0] (Z9 14 (Yo 14 [] [0] [b2] (KG n.decls s.num (hd:=Xu)) (Z9 15 (Yo 15 [] [] [] (BF us s.args (ZV n.decls s.num) (hl_tys:=(by first|(simp;done)|(have:=U5 Xu s.num;omega)))) (Zl 0 1 [16] (de (wk [0,0] (Zt (W9 us s.args (ZV n.decls s.num)) WF fl))))))))
     have UY:¬((Wh n.decls s.num)>0):=Yc dq WF
     exact Zl 0 10 [7,8,9,10,11,12,13,14,15,16] (de (wk [0,0] (Zt false WF fl)))
    refine ac ((decide ((Wh n.decls s.num)>0))&&W9 us s.args (ZV n.decls s.num)) (p:=((Wh n.decls s.num)>0)/\(W9 us s.args (ZV n.decls s.num)=true)) (YC dq Iff.rfl) (fun Q7=>?_) (fun Q7=>?_)
    ·exact Zw 4 [1,0] (Zx [] (Mf n.decls s.num) (Zq (Y2 (.i (Wh n.decls s.num)) (li (by first|rfl|( grind)|(have q:=T7 (ds:=n.decls) (us:=us) (args:=s.args) om; grind)|(have q:=T8 (ds:=n.decls) (us:=us) (args:=s.args) om ‹s.args[0]? = some _› om; grind)|(have q:=UR (ds:=n.decls) (us:=us) (args:=s.args) om ‹s.args[0]? = some _› om ‹us[_]? = some _›; grind))))))
    exact ak (ar (Zq (Y2 (.i (-1)) (li (by first|rfl|( grind)|(have q:=T7 (ds:=n.decls) (us:=us) (args:=s.args) om; grind)|(have q:=T8 (ds:=n.decls) (us:=us) (args:=s.args) om ‹s.args[0]? = some _› om; grind)|(have q:=UR (ds:=n.decls) (us:=us) (args:=s.args) om ‹s.args[0]? = some _› om ‹us[_]? = some _›; grind))))))
   refine ar (YG (s.op==7) Zp (fun J5=>?_) (fun J5=>?_))
   ·refine Zw 3 [0] (iL (Z7 [0]) 1 1 fun v3=>ZU 0 [(98,Z4 [0])] (Zx [] (BF us s.args [0] (hl_tys:=(by first|(simp;done)|(have:=U5 Xu s.num;omega)))) (ie (ac (W9 us s.args [0]) Iff.rfl (fun Ca=>?_) (fun Ca=>?_)))))
    ·exact Zw 3 [2,1] (Zx [] (SS n us s (ih:=ob)) (Zq (Y2 (.i (TO n us s.op s.num s.kids)) (li (by first|rfl|( grind)|(have q:=T7 (ds:=n.decls) (us:=us) (args:=s.args) om; grind)|(have q:=T8 (ds:=n.decls) (us:=us) (args:=s.args) om ‹s.args[0]? = some _› om; grind)|(have q:=UR (ds:=n.decls) (us:=us) (args:=s.args) om ‹s.args[0]? = some _› om ‹us[_]? = some _›; grind))))))
    exact ak (ar (Zq (Y2 (.i (-1)) (li (by first|rfl|( grind)|(have q:=T7 (ds:=n.decls) (us:=us) (args:=s.args) om; grind)|(have q:=T8 (ds:=n.decls) (us:=us) (args:=s.args) om ‹s.args[0]? = some _› om; grind)|(have q:=UR (ds:=n.decls) (us:=us) (args:=s.args) om ‹s.args[0]? = some _› om ‹us[_]? = some _›; grind))))))
   refine ar (YG (s.op==8) Zp (fun IL=>?_) (fun IL=>?_))
   ·refine Zw 5 [0,0] (iL (Z7 [s.num]) 1 1 fun v4=>ZU 0 [(111,Z4 [s.num])] (Zx [] (BF us s.args [s.num] (hl_tys:=(by first|(simp;done)|(have:=U5 Xu s.num;omega)))) (ie (ac (W9 us s.args [s.num]) Iff.rfl (fun IM=>?_) (fun IM=>?_)))))
    ·exact Zw 3 [2,1] (Zx [] (SS n us s (ih:=ob)) (Zq (Y2 (.i (TO n us s.op s.num s.kids)) (li (by first|rfl|( grind)|(have q:=T7 (ds:=n.decls) (us:=us) (args:=s.args) om; grind)|(have q:=T8 (ds:=n.decls) (us:=us) (args:=s.args) om ‹s.args[0]? = some _› om; grind)|(have q:=UR (ds:=n.decls) (us:=us) (args:=s.args) om ‹s.args[0]? = some _› om ‹us[_]? = some _›; grind))))))
    exact ak (ar (Zq (Y2 (.i (-1)) (li (by first|rfl|( grind)|(have q:=T7 (ds:=n.decls) (us:=us) (args:=s.args) om; grind)|(have q:=T8 (ds:=n.decls) (us:=us) (args:=s.args) om ‹s.args[0]? = some _› om; grind)|(have q:=UR (ds:=n.decls) (us:=us) (args:=s.args) om ‹s.args[0]? = some _› om ‹us[_]? = some _›; grind))))))
   refine Yg (XR (fun fz gz F h=>F=sF [1,3,5,40] fz [(117,.b ((s.op==9)||(s.op==10)))]/\h=gz) ?_ ?_)
   ·refine ac (s.op==9) Zp (fun JB=>?_) (fun JB=>?_)
    ·exact ak (ZT ⟨rfl,rfl⟩ (wk [0,0] (fc (x:=.b (s.op==9)) (lb (by first|rfl|(rw [Ze JB])|(rw [Z8 JB])|(simp [JB];done)|(rw [Xt];simp [JB];done)|omega)) fl)))
    exact Td (ZT ⟨rfl,rfl⟩ (wk [0,0] (fc (x:=.b (s.op==10)) (lb (by first|rfl|(rw [Ze JB])|(rw [Z8 JB])|(simp [JB];done)|(rw [Xt];simp [JB];done)|omega)) fl)))
   rintro F h ⟨rfl,rfl⟩
   refine ac ((s.op==9)||(s.op==10)) (p:=(s.op=9)∨(s.op=10)) (Ys Zp Zp) (fun Z8l=>?_) (fun Z8l=>?_)
   ·exact Zw 3 [1,0] (Zx [] (Zgh n us s) (Zq (Y2 (.i (Ur n us s.op s.num s.args)) (li (by first|rfl|( grind)|(have q:=T7 (ds:=n.decls) (us:=us) (args:=s.args) om; grind)|(have q:=T8 (ds:=n.decls) (us:=us) (args:=s.args) om ‹s.args[0]? = some _› om; grind)|(have q:=UR (ds:=n.decls) (us:=us) (args:=s.args) om ‹s.args[0]? = some _› om ‹us[_]? = some _›; grind))))))
   refine ar (YG (s.op==11) Zp (fun Z8m=>?_) (fun Z8m=>?_))
   ·refine aD 26 (ZH 24 26 [0,1] [0] (dw 2 (Yd s.args) (Zl 21 23 [3,4] (db (b:=((s.args.length:Int)==2)) 130 (fun Va=>?_) (fun Va=>?_)))))
    ·have Te:(s.args.length:Int)=2:=(Zp).1 Va
     refine ZH 19 21 [5,6] [0] ?_
     obtain ⟨x1,Z3⟩:=Zs s.args 0 om
     refine dx 7 (Zj none 0 1 (Y1 Z3)) (Zl 16 18 [8,9] (dw 10 (Yd us) (da 11 (((us.length:Int)-1)) (((us.length:Int))-(1)) (Z9 12 (Yo 12 [] [] [] (Tj x1 0 ((us.length:Int)-1)) (Zl 11 13 [13,14] (db (b:=(decide (0<=x1/\x1<=((us.length:Int)-1)))) 140 (fun Vr=>?_) (fun Vr=>?_))))))))
     ·have Tf:0<=x1/\x1<=((us.length:Int)-1):=(dq).1 Vr
      refine ZH 6 11 [15,16,17,18,19] [1,0] (dx 20 (Zj none 0 1 (Y1 Z3)) (Zl 4 5 [21] ?_))
      obtain ⟨x2,Zv⟩:=Zs us x1.toNat om
      refine dx 22 (Zj none x1 1 (Y1 Zv)) (Zl 2 3 [23] (Z9 24 (Yo 24 [] [] [] (EK n.decls x2) (Zl 0 1 [25] (de (ac (W6 n.decls x2) Iff.rfl (fun Z8n=>?_) (fun Z8n=>?_)))))))
      ·refine aD 14 (ZH 9 14 [0,1,2,3,4] [1,0] (dx 5 (Zj none 0 1 (Y1 Z3)) (Zl 7 8 [6] (dx 7 (Zj none x1 1 (Y1 Zv)) (Zl 5 6 [8] (da 9 ((x2-1)) ((x2)-(1)) (hb:=(by have:=IX ‹W6 n.decls _=true›;omega)) ?_))))))
       obtain ⟨x3,YQ⟩:=Zs n.decls ((x2-1).toNat) (by have:=IX ‹W6 n.decls _=true›;omega)
       have had:=Z27 (us:=us) (args:=s.args) om ‹s.args[0]? = some _› om ‹us[_]? = some _› ‹W6 n.decls _=true› YQ
       refine dx 10 (AN (es:=YA n.decls) (hv:=none) (j:=(x2-1)) (sz:=3) (y:=Ah x3) kr (by have:=IX ‹W6 n.decls _=true›;omega) (VR YQ) rfl) (Zl 2 3 [11] (Z9 12 (dA 12 [0,1] [b2,b1] [.i 0,.i 0,nl] fun b3=>Z9 13 (YK 13 0 [] [] b3 (TP x3) (de (aD 8 (ZH 5 8 [0,1,2] [1] (dx 3 (JD (es:=Z7 s.args) (hv:=none) (l:=1) (m:=(((Z7 s.args).length:Nat):Int)) (sz:=1) (es':=Z7 (s.args.drop 1)) kr om (by simp<;>omega) (by simp<;>omega) (YB _) (by first|(simp only [Uh,VX,Jw,Aq];done)|(simp only [Uh,VX,Jw,Aq];rfl)|(simp [Jw,Aq];done))) (ZH 2 4 [4,5] [0] (Z9 6 (dL 6 [1] [b2] (Z7 [x3.frm]) 1 1 fun v5=>Yt 1 1 [] [(170,Z4 [x3.frm])] (Z9 7 (Yo 7 [] [] [] (BF us (s.args.drop 1) [x3.frm] (hl_tys:=(by first|(simp;done)|(have:=U5 Xu s.num;omega)))) (de (ac (W9 us (s.args.drop 1) [x3.frm]) Iff.rfl (fun OM=>?_) (fun OM=>?_))))))))))))))))
       ·exact Bf [1] (ZD (Y2 (.i x3.to_) (li (by first|rfl|(clear Z3 Zv YQ;grind)|(have q:=T7 (ds:=n.decls) (us:=us) (args:=s.args) om;clear Z3 Zv YQ;grind)|(have q:=T8 (ds:=n.decls) (us:=us) (args:=s.args) om ‹s.args[0]? = some _› om;clear Z3 Zv YQ;grind)|(have q:=UR (ds:=n.decls) (us:=us) (args:=s.args) om ‹s.args[0]? = some _› om ‹us[_]? = some _›;clear Z3 Zv YQ;grind)))))
       exact ak (ar (Zq (Y2 (.i (-1)) (li (by first|rfl|(clear Z3 Zv YQ;grind)|(have q:=T7 (ds:=n.decls) (us:=us) (args:=s.args) om;clear Z3 Zv YQ;grind)|(have q:=T8 (ds:=n.decls) (us:=us) (args:=s.args) om ‹s.args[0]? = some _› om;clear Z3 Zv YQ;grind)|(have q:=UR (ds:=n.decls) (us:=us) (args:=s.args) om ‹s.args[0]? = some _› om ‹us[_]? = some _›;clear Z3 Zv YQ;grind))))))
      exact ak (ar (Zq (Y2 (.i (-1)) (li (by first|rfl|(clear Z3 Zv;grind)|(have q:=T7 (ds:=n.decls) (us:=us) (args:=s.args) om;clear Z3 Zv;grind)|(have q:=T8 (ds:=n.decls) (us:=us) (args:=s.args) om ‹s.args[0]? = some _› om;clear Z3 Zv;grind)|(have q:=UR (ds:=n.decls) (us:=us) (args:=s.args) om ‹s.args[0]? = some _› om ‹us[_]? = some _›;clear Z3 Zv;grind))))))
     have QD:¬(0<=x1/\x1<=((us.length:Int)-1)):=Yc dq Vr
     exact Zl 0 11 [15,16,17,18,19,20,21,22,23,24,25] (de (Wj (ak (ar (Zq (Y2 (.i (-1)) (li (by first|rfl|(clear Z3;grind)|(have q:=T7 (ds:=n.decls) (us:=us) (args:=s.args) om;clear Z3;grind)|(have q:=T8 (ds:=n.decls) (us:=us) (args:=s.args) om ‹s.args[0]? = some _› om;clear Z3;grind)|(have q:=UR (ds:=n.decls) (us:=us) (args:=s.args) om ‹s.args[0]? = some _› om ‹us[_]? = some _›;clear Z3;grind)))))))))
    have Qo:¬((s.args.length:Int)=2):=Yc Zp Va
    exact Zl 0 21 [5,6,7,8,9,10,11,12,13,14,15,16,17,18,19,20,21,22,23,24,25] (de (Wj (ak (ar (Zq (Y2 (.i (-1)) (li (by first|rfl|( grind)|(have q:=T7 (ds:=n.decls) (us:=us) (args:=s.args) om; grind)|(have q:=T8 (ds:=n.decls) (us:=us) (args:=s.args) om ‹s.args[0]? = some _› om; grind)|(have q:=UR (ds:=n.decls) (us:=us) (args:=s.args) om ‹s.args[0]? = some _› om ‹us[_]? = some _›; grind)))))))))
   refine Yg (XR (fun fz gz F h=>F=sF [1,3,5] fz [(174,.b ((s.op==14)||((s.op==15)||((s.op==16)||(s.op==17)))))]/\h=gz) ?_ ?_)
   ·refine ac (s.op==14) Zp (fun Q0=>?_) (fun Q0=>?_)
    ·exact ak (ZT ⟨rfl,rfl⟩ (wk [0,0] (fc (x:=.b (s.op==14)) (lb (by first|rfl|(rw [Ze Q0])|(rw [Z8 Q0])|(simp [Q0];done)|(rw [Xt];simp [Q0];done)|omega)) fl)))
    refine ar (YG (s.op==15) Zp (fun AC=>?_) (fun AC=>?_))
    ·exact ak (ZT ⟨rfl,rfl⟩ (wk [0,0] (fc (x:=.b (s.op==15)) (lb (by first|rfl|(rw [Ze Q0])|(rw [Z8 Q0])|(simp [Q0,AC];done)|(rw [Xt];simp [Q0,AC];done)|omega)) fl)))
    refine ar (YG (s.op==16) Zp (fun E6=>?_) (fun E6=>?_))
    ·exact ak (ZT ⟨rfl,rfl⟩ (wk [0,0] (fc (x:=.b (s.op==16)) (lb (by first|rfl|(rw [Ze Q0])|(rw [Z8 Q0])|(simp [Q0,AC,E6];done)|(rw [Xt];simp [Q0,AC,E6];done)|omega)) fl)))
    exact Td (ZT ⟨rfl,rfl⟩ (wk [0,0] (fc (x:=.b (s.op==17)) (lb (by first|rfl|(rw [Ze Q0])|(rw [Z8 Q0])|(simp [Q0,AC,E6];done)|(rw [Xt];simp [Q0,AC,E6];done)|omega)) fl)))
   rintro F h ⟨rfl,rfl⟩
   refine ac ((s.op==14)||((s.op==15)||((s.op==16)||(s.op==17)))) (p:=(s.op=14)∨((s.op=15)∨((s.op=16)∨(s.op=17)))) (Ys Zp (Ys Zp (Ys Zp Zp))) (fun Z8o=>?_) (fun Z8o=>?_)
   ·exact Zw 3 [1,0] (Zx [] (Zg8 n us s) (Zq (Y2 (.i (QA n.decls us s.op s.args)) (li (by first|rfl|( grind)|(have q:=T7 (ds:=n.decls) (us:=us) (args:=s.args) om; grind)|(have q:=T8 (ds:=n.decls) (us:=us) (args:=s.args) om ‹s.args[0]? = some _› om; grind)|(have q:=UR (ds:=n.decls) (us:=us) (args:=s.args) om ‹s.args[0]? = some _› om ‹us[_]? = some _›; grind))))))
   exact ak (ar (Zq (Y2 (.i (-1)) (li (by first|rfl|( grind)|(have q:=T7 (ds:=n.decls) (us:=us) (args:=s.args) om; grind)|(have q:=T8 (ds:=n.decls) (us:=us) (args:=s.args) om ‹s.args[0]? = some _› om; grind)|(have q:=UR (ds:=n.decls) (us:=us) (args:=s.args) om ‹s.args[0]? = some _› om ‹us[_]? = some _›; grind))))))
  refine Z1 1 (ib (b:=((s.num != 0)&&(!VI s.op))) 17 (fun Vi=>?_) (fun Vi=>?_))
  ·have J6:(s.num≠0)/\(¬(VI s.op=true)):=((YC Ym (YE Iff.rfl))).1 Vi
   exact Z1 5 (Yq (wk [0,0] (Zt true Vi fl)) hj2)
  have Kz:¬((s.num≠0)/\(¬(VI s.op=true))):=Yc (YC Ym (YE Iff.rfl)) Vi
  exact ZM 2 [0] (Zx [] (Zgs us s) (Z1 2 (Yq (wk [0,0] (Zt (!Uf us s.op s.into) Vi fl)) hj2)))
 refine ZM 4 [0] (ib (b:=(s.num != 0)) 11 (fun Vj=>?_) (fun Vj=>?_))
 ·have Bj:s.num≠0:=(Ym).1 Vj
  exact ZM 2 [0] (Zx [] (Zg9 s.op) (Z1 2 (Yq (wk [0,0] (Zt (!VI s.op) Vj fl)) hj1)))
 have JC:¬(s.num≠0):=Yc Ym Vj
 exact Z1 5 (Yq (wk [0,0] (Zt false Vj fl)) hj1)
theorem Zg4 (n:Zm) (us:LI) (b:Z6) (hn:X1 n:=by exact ob) (hb:us.length+4*b.sz<=1000000000:=by exact ob) (ih:∀(s:Z5) (us:LI),(s.sz<b.sz)->(us.length+4*s.sz<=1000000000)->Zi 164 [Yl n,Z4 us,YD s] [] (Yj (.i (Y8 n us s)))):Zi 128 [Yl n,Z4 us,ZW b] [] (Yj (.i (X6 n us b))):=by
 have hbz:=U2 b
 have hbe:=F7 n us b
 refine ZG 52 Tryz.func128 (ar (iA (YR n) fun b1=>iA (Xd b) fun b2=>Z0 (Y6 1 (ic [] (UB us) ?_))))
 rintro _ _ ⟨v1,rfl,rfl⟩
 refine Z0 (Yg (ab 0 (Y3 (fun fz gz m F h=>∃(k:Nat) (vs:LI) (v:Value),(k<=b.steps.length)/\(vs.length<=us.length+k)/\(XV n (b.steps.drop k) vs=XV n b.steps us)/\F=sF [3,5] fz [(7,ZQ vs v),(8,.i k)]/\h=[Zd gz 1,Zd gz 2,.tail v 1]/\m=b.steps.length-k) _ _ _ ⟨0,us,v1,ob,ob,ob,rfl,rfl,rfl⟩ (wk [1,1,0] (fr (Yb fl))) ?_)))
 rintro m F h ⟨k,vs,v,Ye,Zk,Zu,rfl,rfl,rfl⟩
 refine Yk 3 [0] (iw (VZ b.steps) (Y5 ((k:Int)<(b.steps.length:Int)) (fun Za=>?_) (fun Za=>?_)))
 ·refine ak (aq (ab 1 (aD 9 (ZH 4 9 [0,1,2,3,4] [1,0] ?_))))
  obtain ⟨x1,Z3⟩:=Zs b.steps k om
  have hss:=Cq Z3
  refine dx 5 (Zj none (k:Int) 5 (WR Z3)) (Yt 2 3 [6] [(20,Z4 vs)] (Z9 7 (Yo 7 [] [] [] (ih x1 vs ob ob) (Zl 0 1 [8] (de (X4 (Y5 ((Y8 n vs x1)<0) (fun Zh=>?_) (fun Zh=>?_))))))))
  ·refine ZF ?_
   rw [Y7 Z3] at Zu
   exact ZD (Y2 (.i (-1)) (li (by clear Z3;first|rfl|omega|grind [XV])))
  refine ak (Zw 3 [0] (Zo (Zj none (k:Int) 5 (WR Z3)) (Z1 2 (Zx [] (Jd x1.op) (ie (JS (fun fz gz F h=>∃(w:Value),F=sF [3,5,8] fz [(7,ZQ (if XF x1.op=true then vs++[Y8 n vs x1] else vs) w)]/\h=[Zd gz 0,Zd gz 1,.tail w 1]) (fun _ _=>rfl) ?_ ?_))))))
  ·refine ac (XF x1.op) Iff.rfl (fun ZE=>?_) (fun ZE=>?_)
   ·exact az (Z1 2 (iL (Z7 [Y8 n vs x1]) 1 1 fun v2=>ZU 0 [(38,Z4 [Y8 n vs x1])] (ip 3 (Z7 (vs++[Y8 n vs x1])) (Z7 vs) (Z7 [Y8 n vs x1]) v none 1 (YB _) (YB _) (Wc _) (by simp<;>omega) (by simp [Wb,Z7]) fun v3=>Z0 (ZT ⟨v3,rfl,rfl⟩ (wk [2,2,0] (fc (x:=ZQ (vs++[Y8 n vs x1]) v3) (Zc.slh _ (Yn Z7 (by first|rfl|(rw [Ze ZE])|(rw [Z8 ZE])|(simp [ZE];done)|(rw [Xt];simp [ZE];done)|omega))) fl))))))
   exact ak (ZT ⟨v,rfl,rfl⟩ (ZI 3 (fc (x:=ZQ vs v) (Zc.slh _ (Yn Z7 (by first|rfl|(rw [Ze ZE])|(rw [Z8 ZE])|(simp [ZE];done)|(rw [Xt];simp [ZE];done)|omega))) fl)))
  rintro F h ⟨w,rfl,rfl⟩
  refine az (Z1 1 (ZJ k (Z0 ?_)))
  have hdr:=Y7 Z3
  exact ZK ⟨k+1,(if XF x1.op=true then vs++[Y8 n vs x1] else vs),w,ob,(by split<;>(try simp)<;>omega),(by rw [hdr] at Zu;clear hdr Z3;grind [XV]),rfl,rfl,rfl⟩ (ZI 3 (fr (ZO k fl)))
 refine ax 0 (Yk 3 [0] (iw (Yd vs) (ia (((vs.length:Int)-1)) (((vs.length:Int))-(1)) (Zx [] (Tj b.result 0 ((vs.length:Int)-1)) (YG (!(decide (0<=b.result/\b.result<=((vs.length:Int)-1)))) (p:=¬(0<=b.result/\b.result<=((vs.length:Int)-1))) (YE dq) (fun Yf=>?_) (fun Yf=>?_))))))
 ·refine ZF ?_
  try rw [Xf (xs:=b.steps) (k:=k) om] at Zu
  exact ZD (Y2 (.i (-1)) (li (by rw [hbe,<-Zu];show _=(Xm vs b.result).getD (-1);rw [Kt Yf];rfl)))
 refine ak (Zw 3 [0] ?_)
 obtain ⟨x2,Zv⟩:=Zs vs b.result.toNat om
 refine Zo (Zj (some v) b.result 1 (Y1 Zv)) (Z0 ?_)
 try rw [Xf (xs:=b.steps) (k:=k) om] at Zu
 exact ZD (Y2 (.i x2) (li (by rw [hbe,<-Zu];show _=(Xm vs b.result).getD (-1);rw [Qi om Zv];rfl)))
theorem Zgo (b:Z6) (l:Int) (hb:b.sz<=1000000000) (hl:0<=l/\l<=600) (ih:∀(b2:Z6) (l:Int),(b2.sz<b.sz)->(0<=l/\l<=600)->Zi 103 [ZW b2,.i l] [] (Yj (.i (Wq b2 l)))):Zi 103 [ZW b,.i l] [] (Yj (.i (Wq b l))):=by
 have hbz:=U2 b
 have hbe:=PK b l
 refine ZG 43 Tryz.func103 (ar (iA (Xd b) fun b1=>?_))
 refine Z0 (Yg (ab 0 (Y3 (fun fz gz m F h=>∃(k:Nat) (q:Int),(k<=b.steps.length)/\(0<=q/\q<=600)/\(Uc (b.steps.drop k) q=Uc b.steps l)/\F=sF [2] fz [(1,.i q),(5,.i k)]/\h=gz/\m=b.steps.length-k) _ _ _ ⟨0,l,ob,ob,ob,rfl,rfl,rfl⟩ (wk [0] (fr (Yb fl))) ?_)))
 rintro m F h ⟨k,q,Ye,Zk,Zu,rfl,rfl,rfl⟩
 refine Yk 3 [0] (iw (VZ b.steps) (Y5 ((k:Int)<(b.steps.length:Int)) (fun Za=>?_) (fun Za=>?_)))
 ·refine ak (aq (ab 1 (X4 (Y5 (q<1) (fun Zh=>?_) (fun Zh=>?_)))))
  ·refine ZF ?_
   try rw [Xf (xs:=b.steps) (k:=k) om] at Zu
   obtain ⟨x1,Z3⟩:=Zs b.steps k om
   rw [Y7 Z3] at Zu
   clear Z3
   exact ZD (Y2 (.i (-1)) (li (by first|rfl|omega|grind [Uc])))
  obtain ⟨s1,hxs1⟩:=Zs b.steps k om
  have hss:=JE hxs1
  have hkz:=TF s1
  refine ak (Y6 1 (ia ((q-1)) ((q)-(1)) (Z0 (ZF (ab 2 (Y3 (fun fz gz m F h=>∃(j:Nat) (j2:Int),(j<=s1.kids.length)/\(0<=j2/\j2<=600)/\(Un (s1.kids.drop j) j2=Un s1.kids (q-1))/\F=sF [2,5] fz [(1,.i j2),(6,.i j)]/\h=gz/\m=s1.kids.length-j) _ _ _ ⟨0,(q-1),ob,ob,ob,rfl,rfl,rfl⟩ (wk [0] (fr (Yb fl))) ?_))))))
  rintro m F h ⟨j,j2,U3,XY,XJ,rfl,rfl,rfl⟩
  refine Yk 4 [0] (Zo (Zj none (k:Int) 5 (WR hxs1)) (Z1 2 (iw (Uk s1.kids) (Y5 ((j:Int)<(s1.kids.length:Int)) (fun ZE=>?_) (fun ZE=>?_)))))
  ·refine ak (aq (ab 3 (Zw 3 [0] (Zo (Zj none (k:Int) 5 (WR hxs1)) (Z1 3 ?_)))))
   obtain ⟨x1,Z3⟩:=Zs s1.kids j om
   have hks:=TE Z3
   have hle:=Em.2 x1 j2 om
   refine Zo (Zj none (j:Int) 2 (UT Z3)) (Z1 2 (Zx [] (ih x1 j2 ob ob) (Z0 (ar (Y5 ((Wq x1 j2)<0) (fun Yf=>?_) (fun Yf=>?_))))))
   ·refine ZF ?_
    rw [Y7 hxs1] at Zu
    rw [Y7 Z3] at XJ
    have hls:=Gl s1 (q-1)
    exact ZD (Y2 (.i (-1)) (li (by clear Z3 hxs1;first|rfl|omega|grind [Uc,Un])))
   refine ak (az (Z1 1 (ZJ j (Z0 ?_))))
   have hdr:=Y7 Z3
   exact ZK ⟨j+1,(Wq x1 j2),ob,ob,(by rw [hdr] at XJ;clear hdr Z3 hxs1;grind [Un]),rfl,rfl,rfl⟩ (wk [0] (fr (ZO j fl)))
  refine ax 2 (az (Z1 1 (ZJ k (Z0 ?_))))
  rw [Xf om] at XJ
  have hls:=Gl s1 (q-1)
  rw [Un] at XJ
  have hdr:=Y7 hxs1
  exact ZK ⟨k+1,j2,ob,ob,(by rw [hdr] at Zu;clear hdr hxs1;grind [Uc]),rfl,rfl,rfl⟩ (wk [0] (fr (ZO k fl)))
 refine ax 0 (ZF ?_)
 try rw [Xf (xs:=b.steps) (k:=k) om] at Zu
 exact ZD (Y2 (.i q) (li (by first|rfl|omega|grind [Uc])))
theorem Zgn (b:Z6) (l:Int) (hb:b.sz<=1000000000) (hl:0<=l/\l<=600):Zi 103 [.agg [.sl (Zz b.steps) none,.i b.result],.i l] [] (Yj (.i (Wq b l))):=by
 have key:∀m:Nat,∀(b:Z6) (l:Int),b.sz<=m->b.sz<=1000000000->(0<=l/\l<=600)->Zi 103 [.agg [.sl (Zz b.steps) none,.i b.result],.i l] [] (Yj (.i (Wq b l))):=by
  intro m
  induction m with
  | zero=>intro b l h;have:=b.sz_pos;omega
  | succ m ih=>intro b l h1 h2 h3;exact Zgo b l h2 h3 fun b2 l2 k1 k2=>ih b2 l2 om om k2
 exact key b.sz b l (X3 _) hb hl
theorem Zg3 (n:Zm) (hn:X1 n) (m:Nat):∀(b:Z6) (us:LI),(b.sz<=m)->(us.length+4*b.sz<=1000000000)->Zi 128 [Yl n,Z4 us,ZW b] [] (Yj (.i (X6 n us b))):=by
 induction m with
 | zero=>intro b us h;have:=b.sz_pos;omega
 | succ m ih=>intro b us h1 h2;exact Zg4 n us b hn h2 fun s us2 k1 k2=>SX n us2 s hn k2 fun b2 us3 q1 q2=>ih b2 us3 om q2
theorem SM (n:Zm) (us:LI) (b:Z6) (hn:X1 n) (hb:us.length+4*b.sz<=1000000000):Zi 128 [Yl n,Z4 us,ZW b] [] (Yj (.i (X6 n us b))):=
 Zg3 n hn b.sz b us (X3 _) hb
theorem Mi (n:Zm) (us:LI) (s:Z5) (hn:X1 n) (hb:us.length+4*s.sz<=1000000000):Zi 164 [Yl n,Z4 us,YD s] [] (Yj (.i (Y8 n us s))):=
 SX n us s hn hb fun b2 us3 _ q2=>SM n us3 b2 hn q2
theorem Zgp (b:Z6) (hb:b.sz<=1000000000:=by exact ob):Zi 66 [ZW b] [] (Yj (.i (Tk b))):=by
 have hle:=Em.2 b 600 om
 refine ZG 10 Tryz.func66 (ar (iA (Xd b) fun b1=>Z0 (Zw 1 [0] (Zx [] (Zgn b 600 ob ob) (Z0 (X4 (Y5 ((Wq b 600)<0) (fun Za=>?_) (fun Za=>?_))))))))
 ·exact ar (Zq (Y2 (.i (-1)) (li (by first|rfl|omega|grind [Tk]))))
 exact ak (Y6 1 (ia ((600-(Wq b 600))) ((600)-(Wq b 600)) (Zq (Y2 (.i (600-(Wq b 600))) (li (by first|rfl|omega|grind [Tk]))))))
theorem Ax (z:Int) :Zi 226 [.i z] [] (Yj (Y4 (Z2.mk 0 z []))):=by
 exact ZG 6 Tryz.func226 (ar (iA [.i 0,.i 0,nl] fun b1=>ie (Y6 1 (iL (Yv []) 0 3 fun v1=>Z1 1 (ZC 1 b1 [.i 0,.i z,QI [] v1] (ie (ZD (r3 [] [.agg [.i 0,.i z,QI [] v1]] [0] [(b1,b1)] ⟨rfl,rfl⟩ (Zc.agg (.cons li (.cons li (.cons (Zc.sl _ (Yn Yv rfl)) .nil))))))))))))
theorem Qm (z:Int) :Zi 273 [.i z] [] (Yj (Y4 (Z2.mk 12 z []))):=by
 exact ZG 6 Tryz.func273 (ar (iA [.i 0,.i 0,nl] fun b1=>ie (Y6 1 (iL (Yv []) 0 3 fun v1=>Z1 1 (ZC 1 b1 [.i 12,.i z,QI [] v1] (ie (ZD (r3 [] [.agg [.i 12,.i z,QI [] v1]] [0] [(b1,b1)] ⟨rfl,rfl⟩ (Zc.agg (.cons li (.cons li (.cons (Zc.sl _ (Yn Yv rfl)) .nil))))))))))))
theorem XS (op:Int) (nm:Int) (ks:List Z2) :Zi 271 [.i op,.i nm,XA ks] [] (Yj (Y4 (Z2.mk op nm ks))):=by
 exact ZG 11 Tryz.func271 (ar (iA [.i 0,.i 0,nl] fun b1=>ie (Y6 4 (ZC 0 b1 [.i op,.i nm,XA ks] (ie (ZD (r3 [] [.agg [.i op,.i nm,XA ks]] [0] [(b1,b1)] ⟨rfl,rfl⟩ (Zc.agg (.cons li (.cons li (.cons (Zc.sl _ (Yn Yv rfl)) .nil)))))))))))
theorem OE (rd:Nat) (bs:LI) (p:Nat) (ZL:∀z∈bs,0<=z/\z<=255) (hp:p+4<=1000000000:=by exact ob):Zi 294 [.p rd 0] [Yz rd bs p] (fun r h=>∃(z:Int),r=.i z/\h=[.obj rd [Up bs,.i (p+4:Nat)]]/\-2000<=z/\z<=2000):=by
 refine ZG 12 Tryz.func294 (ZF (Y6 2 (ic [0] (Wg rd bs p 6 (ZL:=ob)) ?_)))
 rintro _ _ ⟨k1,rfl,rfl,ZY⟩
 have qhp1:=ZY.lt om
 refine Z1 1 (ic [0] (Wg rd bs (p+1) 6 (ZL:=ob)) ?_)
 rintro _ _ ⟨k2,rfl,rfl,Yi⟩
 have qhp2:=Yi.lt om
 refine Z1 1 (ic [0] (Wg rd bs ((p+1)+1) 40 (ZL:=ob)) ?_)
 rintro _ _ ⟨k3,rfl,rfl,YL⟩
 have qhp3:=YL.lt om
 refine iL (Z7 [k1,k2,0,1,2,-1,3,k3,999,-998]) 10 1 fun v1=>ZU 0 [(10,Z4 [k1,k2,0,1,2,-1,3,k3,999,-998])] (ic [1] (U0 rd bs (((p+1)+1)+1) [k1,k2,0,1,2,-1,3,k3,999,-998] (ZL:=ob)) ?_)
 rintro _ _ ⟨z1,rfl,rfl,YP⟩
 exact Zq (r1 [0] ⟨z1,rfl,rfl,(by simp at YP;omega)⟩)
theorem Ot (g:Wd) (gb:Nat) (rs:List Func) (t:Int) (hg:GP g:=by exact ob) (Wt:g.funcs <+: rs:=by exact ob):Zi 306 [.agg (Wx g gb),.i t] [XQ gb rs] (fun r h=>∃(xs:LI),r=Z4 xs/\h=[XQ gb rs]/\xs.length<=4/\∀i∈xs,Ab g t i):=by
 have hgl:=hg.len
 have hdl:=hg.decls.len
 refine ZG 53 Tryz.func306 (ar (iA (Wx g gb) fun b1=>Z0 (ar (iL (Z7 []) 0 1 fun v1=>?_))))
 refine Z0 (Yg (ab 0 (Y3 (fun fz gz m F h=>∃(k:Nat) (ys:LI) (u:Value),(k<=g.funcs.length)/\(ys.length<=k)/\(∀i∈ys,Ab g t i)/\F=sF [1,2] fz [(5,ZQ ys u),(6,.i k)]/\h=[Zd gz 1,Zd gz 2,.tail u 1]/\m=g.funcs.length-k) _ _ _ ⟨0,[],v1,ob,ob,(fun i hi=>by cases hi),rfl,rfl,rfl⟩ (wk [1,1,0] (fr (Yb fl))) ?_)))
 rintro m F h ⟨k,ys,u,Ye,Zk,Zu,rfl,rfl,rfl⟩
 refine Yk 3 [0] (io (.i g.funcs.length) (.i g.funcs.length) (lr _) (Y5 ((k:Int)<(g.funcs.length:Int)) (fun Za=>?_) (fun Za=>?_)))
 ·refine ak (aq (ab 1 (Zw 3 [0] ?_)))
  obtain ⟨x1,Z3⟩:=Zs g.funcs k om
  have hso:=(hg.sigs _ (ZZ Z3)).bd
  refine Zo (W8 gb g.funcs.length 4 k 5 (k:Int)) (Z1 1 (V2 (Vl 1 gb 4 4 5 (k*5+0) (Zf (Xs rs)) [Z4 x1.params] 31 (Z4 x1.params) (UV Wt Z3 0 rfl (Vf rfl))) (iw (Yd x1.params) (Z0 (aD 25 (Zl 22 25 [0,1,2] (db (b:=(decide ((x1.params.length:Int)>0))) 25 (fun Zb=>?_) (fun Zb=>?_))))))))
  ·have ZY:(x1.params.length:Int)>0:=(dq).1 Zb
   refine ZH 17 22 [3,4,5,6,7] [0,0] (dx 8 (W8 gb g.funcs.length 4 k 5 (k:Int)) (Zl 15 16 [9] (U6 10 (Vl 1 gb 4 4 5 (k*5+0) (Zf (Xs rs)) [Z4 x1.params] 31 (Z4 x1.params) (UV Wt Z3 0 rfl (Vf rfl))) (Zl 13 14 [11] (da 12 ((((x1.params.length-1):Nat):Int)) (((x1.params.length:Int))-(1)) ?_)))))
   obtain ⟨x2,Zv⟩:=Zs x1.params (x1.params.length-1) om
   refine dx 13 (Zj none (((x1.params.length-1):Nat):Int) 1 (Y1 Zv)) (ZH 7 11 [14,15,16,17] [0] (dx 18 (W8 gb g.funcs.length 4 k 5 (k:Int)) (Zl 5 6 [19] (U6 20 (Vl 1 gb 4 4 5 (k*5+1) (Zf (Xs rs)) [.i x1.result] 3 (.i x1.result) (UV Wt Z3 1 rfl (Vf rfl))) (Zl 3 4 [22] (Z9 21 (Yo 21 [] [] [] (SK g.decls x2 x1.result) (Zl 0 2 [23,24] (de (ac ((Uu g.decls x2 x1.result)==t) Zp (fun Zh=>?_) (fun Zh=>?_)))))))))))
   ·exact az (Z1 2 (iL (Z7 [(k:Int)]) 1 1 fun v2=>ZU 0 [(50,Z4 [(k:Int)])] (ip 3 (Z7 (ys++[(k:Int)])) (Z7 ys) (Z7 [(k:Int)]) u none 1 (YB _) (YB _) (Wc _) (by simp<;>omega) (by simp [Wb,Z7]) fun v3=>Z0 (az (Z1 1 (ZJ k (Z0 (ZK ⟨k+1,(ys++[(k:Int)]),v3,ob,ob,(XE Zu (Ab.mk Z3 om Zv Zh)),rfl,rfl,rfl⟩ (wk [2,2,0] (fr (ZO k fl)))))))))))
   exact ak (az (Z1 1 (ZJ k (Z0 (ZK ⟨k+1,ys,u,ob,ob,ob,rfl,rfl,rfl⟩ (ZI 3 (fr (ZO k fl))))))))
  have Yi:¬((x1.params.length:Int)>0):=Yc dq Zb
  exact Zl 0 22 [3,4,5,6,7,8,9,10,11,12,13,14,15,16,17,18,19,20,21,22,23,24] (de (Wj (ak (az (Z1 1 (ZJ k (Z0 (ZK ⟨k+1,ys,u,ob,ob,ob,rfl,rfl,rfl⟩ (ZI 3 (fr (ZO k fl)))))))))))
 exact ax 0 (ar (Zq (r2 [1] [ZQ ys u] ⟨ys,rfl,rfl,⟨by omega,Zu⟩⟩ (Zc.forget _ _))))
theorem Z8h (vs:LI) (t:Int) (hv:vs.length<=2000:=by exact ob):Zi 295 [Z4 vs,.i t] [] (fun r h=>∃(xs:LI),r=Z4 xs/\h=[]/\xs.length<=vs.length/\∀i∈xs,0<=i/\i<vs.length):=by
 refine ZG 25 Tryz.func295 (ZF (ar (iL (Z7 []) 0 1 fun v1=>?_)))
 refine Z0 (Yg (ab 0 (Y3 (fun fz gz m F h=>∃(k:Nat) (ys:LI) (u:Value),(k<=vs.length)/\(ys.length<=k)/\(∀i∈ys,0<=i/\i<vs.length)/\F=sF [0,1] fz [(5,ZQ ys u),(6,.i k)]/\h=[.tail u 1]/\m=vs.length-k) _ _ _ ⟨0,[],v1,ob,ob,(fun i hi=>by cases hi),rfl,rfl,rfl⟩ (wk [0] (fr (Yb fl))) ?_)))
 rintro m F h ⟨k,ys,u,Ye,Zk,Zu,rfl,rfl,rfl⟩
 refine YO 2 (iw (Yd vs) (Y5 ((k:Int)<(vs.length:Int)) (fun Za=>?_) (fun Za=>?_)))
 ·refine ak (aq (ab 1 (Y6 2 ?_)))
  obtain ⟨x1,Z3⟩:=Zs vs k om
  refine Zo (Zj none (k:Int) 1 (Y1 Z3)) (YG (x1==t) Zp (fun Zh=>?_) (fun Zh=>?_))
  ·exact az (Z1 2 (iL (Z7 [(k:Int)]) 1 1 fun v2=>ZU 0 [(22,Z4 [(k:Int)])] (ip 1 (Z7 (ys++[(k:Int)])) (Z7 ys) (Z7 [(k:Int)]) u none 1 (YB _) (YB _) (Wc _) (by simp<;>omega) (by simp [Wb,Z7]) fun v3=>Z0 (az (Z1 1 (ZJ k (Z0 (ZK ⟨k+1,(ys++[(k:Int)]),v3,ob,ob,(XE Zu om),rfl,rfl,rfl⟩ (wk [0] (fr (ZO k fl)))))))))))
  exact ak (az (Z1 1 (ZJ k (Z0 (ZK ⟨k+1,ys,u,ob,ob,ob,rfl,rfl,rfl⟩ (wk [0] (fr (ZO k fl))))))))
 exact ax 0 (ar (Zq (r2 [] [ZQ ys u] ⟨ys,rfl,rfl,⟨by omega,Zu⟩⟩ (Zc.forget _ _))))
theorem FK (g:Wd) (gb:Nat) (rs:List Func) (vs:LI) (t:Int) (hg:GP g:=by exact ob) (Wt:g.funcs <+: rs:=by exact ob) (hv:vs.length<=2000:=by exact ob):Zi 296 [.agg (Wx g gb),Z4 vs,.i t] [XQ gb rs] (fun r h=>∃(w:Bool),r=.b w/\h=[XQ gb rs]):=by
 have Xu:=hg.decls.ok
 refine ZG 24 Tryz.func296 (ar (iA (Wx g gb) fun b1=>Z0 (Zw 3 [0] (Zx [] (EK g.decls t) (Z1 2 (ib (b:=(!W6 g.decls t)) 12 (fun Zb=>?_) (fun Zb=>?_)))))))
 ·exact Zq (r1 [1] ⟨true,rfl,rfl⟩)
 refine ZM 2 [0] (ic [1] (Ot g gb rs t) ?_)
 rintro _ _ ⟨xs1,rfl,rfl,YL⟩
 have qhp3:=YL.1
 refine iw (Yd xs1) (Z1 3 (ib (b:=(decide ((xs1.length:Int)>0))) 19 (fun ZB=>?_) (fun ZB=>?_)))
 ·exact Zq (r1 [0] ⟨true,rfl,rfl⟩)
 exact Z1 2 (Zx [] (T4 vs t) (Zq (r1 [0] ⟨(decide (t∈vs)),rfl,rfl⟩)))
theorem Z88 (rd:Nat) (bs:LI) (p:Nat) (g:Wd) (gb:Nat) (rs:List Func) (t:Int) (ZL:∀z∈bs,0<=z/\z<=255) (hp:p+5+15*rk t<=1000000000) (hg:GP g) (Wt:g.funcs <+: rs) (ih:∀(rd:Nat) (bs:LI) (p:Nat) (t2:Int),(∀z∈bs,0<=z/\z<=255)->(p+5+15*rk t2<=1000000000)->(rk t2<rk t)->Zi 297 [.p rd 0,.agg (Wx g gb),.i t2] [Yz rd bs p,XQ gb rs] (fun r h=>∃(e:Z2) (p2:Nat),r=Y4 e/\h=[Yz rd bs p2,XQ gb rs]/\SE g (1+3*rk t2) e/\p<=p2/\p2<=p+5+15*rk t2)):Zi 297 [.p rd 0,.agg (Wx g gb),.i t] [Yz rd bs p,XQ gb rs] (fun r h=>∃(e:Z2) (p2:Nat),r=Y4 e/\h=[Yz rd bs p2,XQ gb rs]/\SE g (1+3*rk t) e/\p<=p2/\p2<=p+5+15*rk t):=by
 have Xu:=hg.decls.ok
 have hgl:=hg.len
 have hrk:=LQ t
 refine ZG 118 Tryz.func297 (ar (iA (Wx g gb) fun b1=>iA [.i 0,.i 0,nl] fun b2=>ie (Zw 3 [1] (ic [] (A5 g.decls t) ?_))))
 rintro _ _ ⟨v1,rfl,rfl⟩
 refine Z0 (YO 1 (io (.i (((ZX g.decls t).length:Nat):Int)) (.i (((Z7 (ZX g.decls t)).length:Nat):Int)) (li (by rw [Yd])) (Y5 ((((ZX g.decls t).length:Nat):Int)>0) (fun Za=>?_) (fun Za=>?_))))
 ·refine Y6 1 ?_
  obtain ⟨x1,Z3⟩:=Zs (ZX g.decls t) 0 om
  refine Zo (Zj (some v1) 0 1 (Y1 Z3)) (Z0 (aq (aq (XR (fun fz gz F h=>∃(w1:Bool) (p5:Nat),(w1=true->1<(ZX g.decls t).length)/\(p<=p5/\p5<=p+1)/\F=sF [0,2,4,6,8] fz [(7,Z4 (ZX g.decls t)),(34,.b w1)]/\h=[Zd gz 1,Zd gz 2,Yz rd bs p5,Zd gz 4]) ?_ ?_))))
  ·refine az (Z1 1 (io (.i (((ZX g.decls t).length:Nat):Int)) (.i (((Z7 (ZX g.decls t)).length:Nat):Int)) (li (by rw [Yd])) (Z1 2 (ib (b:=(decide ((((ZX g.decls t).length:Nat):Int)>1))) 30 (fun Zb=>?_) (fun Zb=>?_)))))
   ·have ZY:(((ZX g.decls t).length:Nat):Int)>1:=(dq).1 Zb
    refine Z1 1 (ic [3] (Wg rd bs p 4 (ZL:=ob)) ?_)
    rintro _ _ ⟨k1,rfl,rfl,Yi⟩
    have qhp2:=Yi.lt om
    exact Z0 (ZT ⟨(k1==0),p+1,(by first|exact (fun h=>by cases h)|exact fun _=>by omega),ob,rfl,rfl⟩ (wk [2,2,0,1] fl))
   have YL:¬((((ZX g.decls t).length:Nat):Int)>1):=Yc dq Zb
   exact Z0 (ZT ⟨false,p,(by first|exact (fun h=>by cases h)|exact fun _=>by omega),ob,rfl,rfl⟩ (wk [1,1,1,1] fl))
  rintro F h ⟨w1,p5,kR4_0,kR4_1,rfl,rfl⟩
  refine XR (fun fz gz F h=>∃(c1:Int),(c1∈ZX g.decls t)/\F=sF [0,2,4,6,7] fz [(8,.i c1)]/\h=gz) ?_ ?_
  ·refine ac w1 Iff.rfl (fun Zh=>?_) (fun Zh=>?_)
   ·refine az (Z1 1 ?_)
    obtain ⟨x2,Zv⟩:=Zs (ZX g.decls t) 1 (kR4_0 (by assumption))
    exact Zo (Zj none 1 1 (Y1 Zv)) (Z0 (ZT ⟨x2,(ZZ Zv),rfl,rfl⟩ (ZI 4 fl)))
   exact ak (ZT ⟨x1,(ZZ Z3),rfl,rfl⟩ (ZI 4 fl))
  rintro F h ⟨c1,Ub,rfl,rfl⟩
  have hcf:=U5 Xu c1
  refine Yk 3 [1] (Zx [] (KG g.decls c1) (Z1 1 (Zx [] (T4 (ZV g.decls c1) t) (ie (XR (fun fz gz F h=>∃(c2:Int),(B1 g.decls t c2)/\F=sF [0,4,6] fz [(8,.i c2)]/\h=gz) ?_ ?_)))))
  ·refine XW (t∈(ZV g.decls c1)) (fun ZE=>?_) (fun ZE=>?_)
   ·exact az (Z1 1 (Zo (Zj none 0 1 (Y1 Z3)) (Z0 (ZT ⟨x1,(Zfa hg.decls Ub (by assumption) Z3),rfl,rfl⟩ (ZI 4 fl)))))
   exact ak (ZT ⟨c1,(Zf9 hg.decls Ub (by assumption)),rfl,rfl⟩ (ZI 4 fl))
  rintro F h ⟨c2,D9,rfl,rfl⟩
  obtain ⟨OM,Q0,AC⟩:=D9
  refine ar (iL (Yv []) 0 3 fun v2=>?_)
  refine Z0 (Zw 3 [2] (Zx [] (KG g.decls c2) (Z0 (Yg (ab 0 (Y3 (fun fz gz m F h=>∃(k:Nat) (ys:List Z2) (u:Value) (pq:Nat),(k<=(ZV g.decls c2).length)/\(ys.length=k)/\(∀e∈ys,SE g 1 e)/\(p<=pq/\pq<=p+1+5*k)/\F=sF [0,4,6,8,10] fz [(9,QI ys u),(11,.i k)]/\h=[Zd gz 1,Zd gz 2,Yz rd bs pq,Zd gz 4,.tail u 3]/\m=(ZV g.decls c2).length-k) _ _ _ ⟨0,[],v2,p5,ob,ob,(fun e he=>by cases he),ob,rfl,rfl,rfl⟩ (wk [1,1,1,1,0] (fr (Yb fl))) ?_))))))
  rintro m F h ⟨k,ys,u,pq,Ye,Zk,Zu,Yu,rfl,rfl,rfl⟩
  refine YO 2 (io (.i (((ZV g.decls c2).length:Nat):Int)) (.i (((Z7 (ZV g.decls c2)).length:Nat):Int)) (li (by rw [Yd])) (Y5 ((k:Int)<(((ZV g.decls c2).length:Nat):Int)) (fun Yf=>?_) (fun Yf=>?_)))
  ·refine ak (aq (ab 1 (aE 11 (ZH 6 11 [0,1,2,3,4] [1] ?_))))
   obtain ⟨x3,YQ⟩:=Zs (ZV g.decls c2) k om
   have hz3:=RZ (AC _ (ZZ YQ))
   refine dx 5 (Zj none (k:Int) 1 (Y1 YQ)) (Zl 4 5 [6] (Z9 7 (dc 7 [2,2] [] [] (ih rd bs pq x3 ob ob om) ?_)))
   rintro _ _ ⟨e1,p21,rfl,rfl,YP⟩
   have hse:=YP.1
   rw [hz3] at hse
   exact Z9 8 (WJ 8 [] [] [Y4 e1] (Yv [e1]) (XP [e1]).symm 1 3 fun v3=>Yt 2 2 [] [(66,XA [e1])] (Z9 9 (dp 9 5 [] [] (Yv (ys++[e1])) (Yv ys) (Yv [e1]) u none 3 (Tx _) (Tx _) (JX _) (by simp<;>omega) (by simp [JW,Yv]) fun v4=>Zl 0 1 [10] (de (az (Z1 1 (ZJ k (Z0 (ZK ⟨k+1,(ys++[e1]),v4,p21,ob,ob,(XE Zu hse),ob,rfl,rfl,rfl⟩ (wk [4,4,2,2,0] (fr (ZO k fl))))))))))))
  exact ax 0 (ar (ZU 2 [(69,XA ys)] (Zx [] (XS 6 c2 ys) (ZC 0 b2 (YZ (Z2.mk 6 c2 ys)) (ie (ZD (r3 [2,2] [Y4 (Z2.mk 6 c2 ys)] [0] [(b2,b2)] ⟨(Z2.mk 6 c2 ys),pq,rfl,rfl,⟨SE.node (k:=3*rk t) (.inl rfl) om Zu om om om,by omega⟩⟩ (lr _))))))))
 refine ak (Zw 2 [2] (ic [4] (Ot g gb rs t) ?_))
 rintro _ _ ⟨xs1,rfl,rfl,Xc⟩
 have hcl:=Xc.2
 have hcn:=Xc.1
 refine Z0 (X4 (Xr [0,4,6,12] [(80,.b ((decide (t>0))&&(decide ((xs1.length:Int)>0))))] (fun gz=>gz) ?_ ?_))
 ·refine Z1 3 (ib (b:=(decide (t>0))) 76 (fun ZB=>?_) (fun ZB=>?_))
  ·have XT:t>0:=(dq).1 ZB
   exact Z1 1 (iw (Yd xs1) (Z0 (ZI 5 (Zt (decide ((xs1.length:Int)>0)) ZB fl))))
  have Wy:¬(t>0):=Yc dq ZB
  exact Z0 (ZI 5 (Zt false ZB fl))
 refine ac ((decide (t>0))&&(decide ((xs1.length:Int)>0))) (p:=(t>0)/\((xs1.length:Int)>0)) (YC dq dq) (fun Xb=>?_) (fun Xb=>?_)
 ·refine Y6 3 (iw (Yd xs1) (ic [4] (Wg rd bs p (xs1.length:Int) (ZL:=ob)) ?_))
  rintro _ _ ⟨k2,rfl,rfl,WW⟩
  have qhp8:=WW.lt om
  obtain ⟨x4,Vz⟩:=Zs xs1 k2.toNat om
  have hclo:=hcl _ (ZZ Vz)
  have hcb:=hclo.lt
  refine Zo (Zj none k2 1 (Y1 Vz)) (Z0 (Zw 3 [4] ?_))
  obtain ⟨x5,Uy⟩:=Zs g.funcs x4.toNat om
  have hso:=(hg.sigs _ (ZZ Uy)).bd
  have hr1:=Ze3 (t:=t) hg.decls om om
  have hfu:=Uy
  refine Zo (W8 gb g.funcs.length 4 x4.toNat 5 x4) (Z1 1 (V2 (Vl 1 gb 4 4 5 (x4.toNat * 5+0) (Zf (Xs rs)) [Z4 x5.params] 31 (Z4 x5.params) (UV Wt Uy 0 rfl (Vf rfl))) (Z0 (ar (iL (Yv []) 0 3 fun v5=>?_)))))
  refine Z0 (Yg (ab 2 (Y3 (fun fz gz m F h=>∃(k:Nat) (ys:List Z2) (u:Value) (pq:Nat),(k<=x5.params.length)/\(ys.length=k)/\(∀e∈ys,SE g 1 e)/\(p<=pq/\pq<=p+1+5*k)/\F=sF [0,4,6,13,14] fz [(15,QI ys u),(16,.i k)]/\h=[Yz rd bs pq,Zd gz 2,Zd gz 4,Zd gz 5,.tail u 3]/\m=x5.params.length-k) _ _ _ ⟨0,[],v5,p+1,ob,ob,(fun e he=>by cases he),ob,rfl,rfl,rfl⟩ (wk [1,1,2,2,0] (fr (Yb fl))) ?_)))
  rintro m F h ⟨k,ys,u,pq,U3,XY,XJ,Jr,rfl,rfl,rfl⟩
  refine YO 1 (ZJ k (Z1 1 (iw (Yd x5.params) (Y5 (((k+1:Nat):Int)<(x5.params.length:Int)) (fun Xg=>?_) (fun Xg=>?_)))))
  ·refine ak (aq (ab 3 (aE 11 (ZH 6 11 [0,1,2,3,4] [3] ?_))))
   obtain ⟨x6,Cb⟩:=Zs x5.params k om
   have hz3:=hclo.low hg om hfu om Cb
   refine dx 5 (Zj none (k:Int) 1 (Y1 Cb)) (Zl 4 5 [6] (Z9 7 (dc 7 [0,0] [] [] (ih rd bs pq x6 ob ob om) ?_)))
   rintro _ _ ⟨e2,p22,rfl,rfl,Vk⟩
   have hse:=Vk.1
   rw [hz3] at hse
   exact Z9 8 (WJ 8 [] [] [Y4 e2] (Yv [e2]) (XP [e2]).symm 1 3 fun v6=>Yt 2 2 [] [(110,XA [e2])] (Z9 9 (dp 9 5 [] [] (Yv (ys++[e2])) (Yv ys) (Yv [e2]) u none 3 (Tx _) (Tx _) (JX _) (by simp<;>omega) (by simp [JW,Yv]) fun v7=>Zl 0 1 [10] (de (az (Z1 1 (ZJ k (Z0 (ZK ⟨k+1,(ys++[e2]),v7,p22,ob,ob,(XE XJ hse),ob,rfl,rfl,rfl⟩ (wk [2,2,2,2,0] (fr (ZO k fl))))))))))))
  exact ax 2 (ar (ZU 2 [(113,XA ys)] (Zx [] (XS 10 x4 ys) (ZC 2 b2 (YZ (Z2.mk 10 x4 ys)) (ie (ZD (r3 [1,1] [Y4 (Z2.mk 10 x4 ys)] [0] [(b2,b2)] ⟨(Z2.mk 10 x4 ys),pq,rfl,rfl,⟨SE.node (k:=3) (.inr rfl) om XJ om om om,by omega⟩⟩ (lr _))))))))
 refine ak (Y6 1 (ic [4] (OE rd bs p (ZL:=ob)) ?_))
 rintro _ _ ⟨z1,rfl,rfl,UY⟩
 exact Zx [] (Ax z1) (ZC 3 b2 (YZ (Z2.mk 0 z1 [])) (ie (ZD (r3 [1,1] [Y4 (Z2.mk 0 z1 [])] [0] [(b2,b2)] ⟨(Z2.mk 0 z1 []),p+4,rfl,rfl,⟨SE.int om om,by omega⟩⟩ (lr _)))))
theorem Z87 (rd:Nat) (bs:LI) (p:Nat) (g:Wd) (gb:Nat) (rs:List Func) (t:Int) (ZL:∀z∈bs,0<=z/\z<=255) (hp:p+5+15*rk t<=1000000000:=by exact ob) (hg:GP g:=by exact ob) (Wt:g.funcs <+: rs:=by exact ob):Zi 297 [.p rd 0,.agg (Wx g gb),.i t] [Yz rd bs p,XQ gb rs] (fun r h=>∃(e:Z2) (p2:Nat),r=Y4 e/\h=[Yz rd bs p2,XQ gb rs]/\SE g (1+3*rk t) e/\p<=p2/\p2<=p+5+15*rk t):=by
 have key:∀k:Nat,∀(rd:Nat) (bs:LI) (p:Nat) (t2:Int),(∀z∈bs,0<=z/\z<=255)->(p+5+15*rk t2<=1000000000)->(rk t2<k)->Zi 297 [.p rd 0,.agg (Wx g gb),.i t2] [Yz rd bs p,XQ gb rs] (fun r h=>∃(e:Z2) (p2:Nat),r=Y4 e/\h=[Yz rd bs p2,XQ gb rs]/\SE g (1+3*rk t2) e/\p<=p2/\p2<=p+5+15*rk t2):=by
  intro k
  induction k with
  | zero=>intro rd bs p t2 h1 h2 h3;omega
  | succ k ih=>intro rd bs p t2 h1 h2 h3;exact Z88 rd bs p g gb rs t2 h1 h2 hg Wt fun rd bs p t3 q1 q2 q3=>ih rd bs p t3 q1 q2 om
 exact key 2 rd bs p t ZL hp (by have:=LQ t;omega)
theorem CU (rd:Nat) (bs:LI) (p:Nat) (g:Wd) (gb:Nat) (rs:List Func) (vs:LI) (t:Int) (ZL:∀z∈bs,0<=z/\z<=255) (hp:p+30<=1000000000:=by exact ob) (hg:GP g:=by exact ob) (Wt:g.funcs <+: rs:=by exact ob) (hv:vs.length<=2000:=by exact ob):Zi 274 [.p rd 0,.agg (Wx g gb),Z4 vs,.i t] [Yz rd bs p,XQ gb rs] (fun r h=>∃(e:Z2) (p2:Nat),r=Y4 e/\h=[Yz rd bs p2,XQ gb rs]/\GE g vs.length 4 e/\p<=p2/\p2<=p+30):=by
 have hrk:=LQ t
 refine ZG 40 Tryz.func274 (ar (iA (Wx g gb) fun b1=>iA [.i 0,.i 0,nl] fun b2=>ie (Y6 2 (ic [] (Z8h vs t) ?_))))
 rintro _ _ ⟨xs1,rfl,rfl,ZY⟩
 have hxs:=ZY
 refine Z0 (aq (aq (XR (fun fz gz F h=>∃(wb:Bool) (p5:Nat),(wb=true->0<xs1.length)/\(p<=p5/\p5<=p+1)/\F=sF [0,3,5,8,9] fz [(27,.b wb)]/\h=[Zd gz 0,Zd gz 1,Yz rd bs p5,Zd gz 3]) ?_ ?_)))
 ·refine az (Z1 1 (iw (Yd xs1) (Z1 2 (ib (b:=(decide ((xs1.length:Int)>0))) 16 (fun Zb=>?_) (fun Zb=>?_)))))
  ·have Yi:(xs1.length:Int)>0:=(dq).1 Zb
   refine Z1 1 (ic [2] (Wg rd bs p 6 (ZL:=ob)) ?_)
   rintro _ _ ⟨k1,rfl,rfl,YL⟩
   have qhp3:=YL.lt om
   refine Z1 2 (ib (b:=(decide (k1>0))) 20 (fun ZB=>?_) (fun ZB=>?_))
   ·have YP:k1>0:=(dq).1 ZB
    exact Z0 (ZT ⟨true,p+1,(by first|exact (fun h=>Bool.noConfusion h)|exact fun _=>by omega),ob,rfl,rfl⟩ (wk [1,1,0,0] fl))
   have Xc:¬(k1>0):=Yc dq ZB
   refine ZM 1 [2] (iL (Z7 []) 0 1 fun v1=>ZU 1 [(22,Z4 [])] (ic [4] (FK g gb rs [] t) ?_))
   rintro _ _ ⟨w1,rfl,rfl⟩
   exact Z0 (ZT ⟨(!w1),p+1,(by first|exact (fun h=>Bool.noConfusion h)|exact fun _=>by omega),ob,rfl,rfl⟩ (wk [3,3,2,0] fl))
  have XT:¬((xs1.length:Int)>0):=Yc dq Zb
  exact Z0 (ZT ⟨false,p,(by first|exact (fun h=>Bool.noConfusion h)|exact fun _=>by omega),ob,rfl,rfl⟩ (ZI 4 fl))
 rintro F h ⟨wb,p5,kR2_0,kR2_1,rfl,rfl⟩
 refine ac wb Iff.rfl (fun Za=>?_) (fun Za=>?_)
 ·have hk0:=kR2_0 Za
  refine Y6 3 (iw (Yd xs1) (ic [2] (Wg rd bs p5 (xs1.length:Int) (ZL:=ob)) ?_))
  rintro _ _ ⟨k2,rfl,rfl,Wy⟩
  have qhp7:=Wy.lt om
  obtain ⟨x1,Z3⟩:=Zs xs1 k2.toNat om
  have hxv:=hxs.2 _ (ZZ Z3)
  exact Zo (Zj none k2 1 (Y1 Z3)) (Z1 1 (Zx [] (Qm x1) (ZC 1 b2 (YZ (Z2.mk 12 x1 [])) (ie (ZD (r3 [1,2] [Y4 (Z2.mk 12 x1 [])] [0] [(b2,b2)] ⟨(Z2.mk 12 x1 []),p5+1,rfl,rfl,⟨GE.var hxv om om,by omega⟩⟩ (lr _)))))))
 refine ak (Zw 3 [1] (ic [2,2] (Z87 rd bs p5 g gb rs t (ZL:=ob)) ?_))
 rintro _ _ ⟨e1,p21,rfl,rfl,WW⟩
 have hse:=WW.1
 exact ZC 2 b2 (YZ e1) (ie (ZD (r3 [1,1] [Y4 e1] [0] [(b2,b2)] ⟨e1,p21,rfl,rfl,⟨hse.ge om,by omega⟩⟩ (lr _))))
theorem Z6n (rd:Nat) (bs:LI) (p:Nat) (g:Wd) (gb:Nat) (rs:List Func) (vs:LI) (ZL:∀z∈bs,0<=z/\z<=255) (hp:p+1<=1000000000:=by exact ob) (hg:GP g:=by exact ob) (Wt:g.funcs <+: rs:=by exact ob) (hv:vs.length<=2000:=by exact ob):Zi 289 [.p rd 0,.agg (Wx g gb),Z4 vs] [Yz rd bs p,XQ gb rs] (fun r h=>∃(z:Int),r=.i z/\h=[.obj rd [Up bs,.i (p+1:Nat)],XQ gb rs]/\0<=z/\z<=4):=by
 have Xu:=hg.decls.ok
 have hgl:=hg.len
 have hdl:=hg.decls.len
 refine ZG 24 Tryz.func289 (ar (iA (Wx g gb) fun b1=>Z0 (Y6 1 (iL (Z7 [1,1,3,0,2,4,3]) 7 1 fun v1=>ZU 0 [(9,Z4 [1,1,3,0,2,4,3])] (ic [2] (U0 rd bs p [1,1,3,0,2,4,3] (ZL:=ob)) ?_)))))
 rintro _ _ ⟨z1,rfl,rfl,ZY⟩
 have hz:=Bu (a:=0) (b:=4) ZY (by decide)
 refine Z0 (aq (aq (XR (fun fz gz F h=>∃(wb:Bool),(True)/\F=sF [7] fz [(22,.b wb)]/\h=[Zd gz 0,Zd gz 3]) ?_ ?_)))
 ·refine az (ZM 3 [2] (iw (UE g.decls) (Z1 2 (ib (b:=(decide (z1>(g.decls.length:Int)))) 16 (fun Zb=>?_) (fun Zb=>?_)))))
  ·exact Z0 (ZT ⟨true,True.intro,rfl,rfl⟩ (wk [0,2] fl))
  refine ZM 3 [2] (ic [3] (FK g gb rs vs z1) ?_)
  rintro _ _ ⟨w1,rfl,rfl⟩
  exact Z0 (ZT ⟨(!w1),True.intro,rfl,rfl⟩ (wk [1,0] fl))
 rintro F h ⟨wb,kR2_0,rfl,rfl⟩
 refine ac wb Iff.rfl (fun Za=>?_) (fun Za=>?_)
 ·exact ar (Zq (r1 [0,0] ⟨1,rfl,rfl,om⟩))
 exact ak (ar (Zq (r1 [0,0] ⟨z1,rfl,rfl,om⟩)))
theorem Z6r (g:Wd) (gb:Nat) (rs:List Func) (t:Int) (hg:GP g:=by exact ob) (Wt:g.funcs <+: rs:=by exact ob):Zi 292 [.agg (Wx g gb),.i t] [XQ gb rs] (fun r h=>∃(xs:LI),r=Z4 xs/\h=[XQ gb rs]/\xs.length<=4/\∀i∈xs,1<=i/\i<g.funcs.length):=by
 have Xu:=hg.decls.ok
 have hgl:=hg.len
 have hdl:=hg.decls.len
 refine ZG 57 Tryz.func292 (ar (iA (Wx g gb) fun b1=>Z0 (ar (iL (Z7 []) 0 1 fun v1=>?_))))
 refine Z0 (Yg (ab 0 (Y3 (fun fz gz m F h=>∃(k:Nat) (ys:LI) (u:Value),(1<=k/\k<=g.funcs.length)/\(ys.length<=k)/\(∀i∈ys,1<=i/\i<g.funcs.length)/\F=sF [1,2] fz [(5,ZQ ys u),(6,.i k)]/\h=[Zd gz 1,Zd gz 2,.tail u 1]/\m=g.funcs.length-k) _ _ _ ⟨1,[],v1,ob,ob,(fun i hi=>by cases hi),rfl,rfl,rfl⟩ (wk [1,1,0] (fr (fc (x:=.i 1) li fl))) ?_)))
 rintro m F h ⟨k,ys,u,Ye,Zk,Zu,rfl,rfl,rfl⟩
 refine Yk 3 [0] (io (.i g.funcs.length) (.i g.funcs.length) (lr _) (Y5 ((k:Int)<(g.funcs.length:Int)) (fun Za=>?_) (fun Za=>?_)))
 ·refine ak (aq (ab 1 (Zw 3 [0] ?_)))
  obtain ⟨x1,Z3⟩:=Zs g.funcs k om
  have hso:=(hg.sigs _ (ZZ Z3)).bd
  refine Zo (W8 gb g.funcs.length 4 k 5 (k:Int)) (Z1 1 (V2 (Vl 1 gb 4 4 5 (k*5+1) (Zf (Xs rs)) [.i x1.result] 3 (.i x1.result) (UV Wt Z3 1 rfl (Vf rfl))) (Z0 (Yg (ab 2 (Y3 (fun fz gz m F h=>∃(j:Nat) (wo:Bool),(True)/\F=sF [1,2,5,6] fz [(7,.b wo),(8,.i j)]/\h=gz/\m=x1.params.length-j) _ _ _ ⟨0,(x1.result==t),True.intro,rfl,rfl,rfl⟩ (ZI 3 (fr (Yb fl))) ?_))))))
  rintro m F h ⟨j,wo,U3,rfl,rfl,rfl⟩
  refine Yk 4 [0] (Zo (W8 gb g.funcs.length 4 k 5 (k:Int)) (Z1 1 (V2 (Vl 1 gb 4 4 5 (k*5+0) (Zf (Xs rs)) [Z4 x1.params] 31 (Z4 x1.params) (UV Wt Z3 0 rfl (Vf rfl))) (iw (Yd x1.params) (Y5 ((j:Int)<(x1.params.length:Int)) (fun Zh=>?_) (fun Zh=>?_))))))
  ·refine ak (aq (ab 3 (aE 16 (Zl 14 16 [0,1] (db (b:=wo) 37 (fun Zb=>?_) (fun Zb=>?_))))))
   ·refine ZH 10 14 [2,4,5,6] [0,0] (dx 7 (W8 gb g.funcs.length 4 k 5 (k:Int)) (Zl 8 9 [8] (U6 9 (Vl 1 gb 4 4 5 (k*5+0) (Zf (Xs rs)) [Z4 x1.params] 31 (Z4 x1.params) (UV Wt Z3 0 rfl (Vf rfl))) (Zl 6 7 [10] ?_))))
    obtain ⟨x2,Zv⟩:=Zs x1.params j om
    refine dx 11 (Zj none (j:Int) 1 (Y1 Zv)) (Zl 4 5 [12] (Z9 3 (dL 3 [1,0,0] [gb,b1,b1] (Z7 []) 0 1 fun v2=>Yt 3 3 [] [(39,Z4 [])] (Z9 13 (dc 13 [2] [] [] (FK g gb rs [] x2) ?_)))))
    rintro _ _ ⟨w1,rfl,rfl⟩
    exact Zl 0 2 [14,15] (de (az (Z1 1 (ZJ j (Z0 (ZK ⟨j+1,w1,True.intro,rfl,rfl,rfl⟩ (wk [2,0,1] (fr (ZO j fl)))))))))
   exact Zl 0 14 [2,3,4,5,6,7,8,9,10,11,12,13,14,15] (de (az (Z1 1 (ZJ j (Z0 (ZK ⟨j+1,false,ob,rfl,rfl,rfl⟩ (ZI 3 (fr (ZO j fl)))))))))
  refine ax 2 (ar (YG wo Iff.rfl (fun ZE=>?_) (fun ZE=>?_)))
  ·exact az (Z1 2 (iL (Z7 [(k:Int)]) 1 1 fun v3=>ZU 0 [(54,Z4 [(k:Int)])] (ip 3 (Z7 (ys++[(k:Int)])) (Z7 ys) (Z7 [(k:Int)]) u none 1 (YB _) (YB _) (Wc _) (by simp<;>omega) (by simp [Wb,Z7]) fun v4=>Z0 (az (Z1 1 (ZJ k (Z0 (ZK ⟨k+1,(ys++[(k:Int)]),v4,ob,ob,(XE Zu om),rfl,rfl,rfl⟩ (wk [2,2,0] (fr (ZO k fl)))))))))))
  exact ak (az (Z1 1 (ZJ k (Z0 (ZK ⟨k+1,ys,u,ob,ob,ob,rfl,rfl,rfl⟩ (ZI 3 (fr (ZO k fl))))))))
 exact ax 0 (ar (Zq (r2 [1] [ZQ ys u] ⟨ys,rfl,rfl,⟨by omega,Zu⟩⟩ (Zc.forget _ _))))
theorem Z7w (e:Z2) (left:Int) (hz:e.sz<=1000000:=by exact ob) (hl:0<=left/\left<=1000:=by exact ob) (ih:∀(e2:Z2) (left:Int),(e2.sz<e.sz)->(0<=left/\left<=1000)->Zi 275 [Y4 e2,.i left] [] (fun r h=>∃(w:Int),r=.i w/\h=[]/\NL e2.sz left w)):Zi 275 [Y4 e,.i left] [] (fun r h=>∃(w:Int),r=.i w/\h=[]/\NL e.sz left w):=by
 have hes:=e.sz_eq
 have hel:=O3 (xs:=e.kids)
 refine ZG 27 Tryz.func275 (ar (iA (YZ e) fun b1=>Z0 (X4 (Y5 (left<1) (fun Za=>?_) (fun Za=>?_)))))
 ·exact ar (Zq (r1 [] ⟨(-1),rfl,rfl,(.inr ⟨by omega,rfl⟩)⟩))
 refine ak (Y6 1 (ia ((left-1)) ((left)-(1)) (Z0 (Yg (ab 0 (Y3 (fun fz gz m F h=>∃(k:Nat) (q:Int),(k<=e.kids.length)/\(0<=q/\q+1+Xz (e.kids.take k)=left)/\F=sF [2] fz [(1,.i q),(5,.i k)]/\h=gz/\m=e.kids.length-k) _ _ _ ⟨0,(left-1),ob,(by simp [Xz];omega),rfl,rfl,rfl⟩ (wk [0] (fr (Yb fl))) ?_))))))
 rintro m F h ⟨k,q,Ye,Zk,rfl,rfl,rfl⟩
 refine Yk 3 [0] (iw (Ih e.kids) (Y5 ((k:Int)<(e.kids.length:Int)) (fun Zh=>?_) (fun Zh=>?_)))
 ·refine ak (aq (ab 1 (Zw 3 [0] ?_)))
  obtain ⟨x1,Z3⟩:=Zs e.kids k om
  have hks:=C4 Z3
  have htk:Xz (e.kids.take (k+1))=Xz (e.kids.take k)+(x1).sz:=by rw [WS Z3,DV,Xz,Xz];rfl
  have htl:Xz (e.kids.take (k+1))<=Xz e.kids:=by have h:=Yn Xz (To (k+1) e.kids);rw [DV] at h;omega
  refine Zo (Zj none (k:Int) 3 (CN Z3)) (Z1 2 (ic [] (ih x1 q ob ob) ?_))
  rintro _ _ ⟨w1,rfl,rfl,ZY⟩
  have hnl:=ZY
  unfold NL at hnl
  refine Z0 (ar (Y5 (w1<0) (fun ZE=>?_) (fun ZE=>?_)))
  ·exact ar (Zq (r1 [] ⟨(-1),rfl,rfl,(.inr ⟨by omega,rfl⟩)⟩))
  exact ak (az (Z1 1 (ZJ k (Z0 (ZK ⟨k+1,w1,ob,ob,rfl,rfl,rfl⟩ (wk [0] (fr (ZO k fl))))))))
 refine ax 0 (ZF ?_)
 have htk:Xz (e.kids.take k)=Xz e.kids:=by rw [Ve om]
 exact ZD (r1 [] ⟨q,rfl,rfl,(.inl ⟨by omega,by omega⟩)⟩)
theorem Z7v (e:Z2) (left:Int) (hz:e.sz<=1000000:=by exact ob) (hl:0<=left/\left<=1000:=by exact ob):Zi 275 [Y4 e,.i left] [] (fun r h=>∃(w:Int),r=.i w/\h=[]/\NL e.sz left w):=by
 have key:∀k:Nat,∀(e2:Z2) (left:Int),(e2.sz<k)->(e2.sz<=1000000)->(0<=left/\left<=1000)->Zi 275 [Y4 e2,.i left] [] (fun r h=>∃(w:Int),r=.i w/\h=[]/\NL e2.sz left w):=by
  intro k
  induction k with
  | zero=>intro e2 left h;omega
  | succ k ih=>intro e2 left h1 h2 h3;exact Z7w e2 left h2 h3 fun e3 l3 q1 q2=>ih e3 l3 om om q2
 exact key (e.sz+1) e left om hz hl
theorem OC (e:Z2) (hz:e.sz<=1000000:=by exact ob):Zi 232 [Y4 e] [] (fun r h=>∃(w:Int),r=.i w/\h=[]/\((w=e.sz/\e.sz<=30)∨(w=-1/\30<e.sz))):=by
 refine ZG 10 Tryz.func232 (ar (iA (YZ e) fun b1=>Z0 (Zw 1 [0] (ic [] (Z7v e 30) ?_))))
 rintro _ _ ⟨w1,rfl,rfl,ZY⟩
 have hnl:=ZY
 unfold NL at hnl
 refine Z0 (X4 (Y5 (w1<0) (fun Za=>?_) (fun Za=>?_)))
 ·exact ar (Zq (r1 [] ⟨(-1),rfl,rfl,ob⟩))
 exact ak (Y6 1 (ia ((30-w1)) ((30)-(w1)) (Zq (r1 [] ⟨(30-w1),rfl,rfl,ob⟩))))
theorem C7 (rd:Nat) (bs:LI) (p:Nat) (g:Wd) (gb:Nat) (rs:List Func) (vs:LI) (ts:LI) (b:Nat) (bb:Nat) (ZL:∀z∈bs,0<=z/\z<=255) (hp:p+ts.length*bC (b / ts.length)<=1000000000:=by exact ob) (hg:GP g:=by exact ob) (Wt:g.funcs <+: rs:=by exact ob) (hv:vs.length+3*bb<=900:=by exact ob) (ht:ts.length<=3:=by exact ob) (hb:b<bb/\bb<=1000:=by exact ob) (ih:∀(rd:Nat) (bs:LI) (p:Nat) (vs2:LI) (t2:Int) (b2:Nat),(∀z∈bs,0<=z/\z<=255)->(p+bC b2<=1000000000)->(vs2.length+3*b2<=900)->(b2<bb)->Zi 270 [.p rd 0,.agg (Wx g gb),Z4 vs2,.i t2,.i b2] [Yz rd bs p,XQ gb rs] (fun r h=>∃(e:Z2) (p2:Nat),r=Y4 e/\h=[Yz rd bs p2,XQ gb rs]/\GE g vs2.length (bS b2) e/\p<=p2/\p2<=p+bC b2)):Zi 290 [.p rd 0,.agg (Wx g gb),Z4 vs,Z4 ts,.i b] [Yz rd bs p,XQ gb rs] (fun r h=>∃(ys:List Z2) (p2:Nat),r=XA ys/\h=[Yz rd bs p2,XQ gb rs]/\ys.length=ts.length/\(∀e∈ys,GE g vs.length (bS (b / ts.length)) e)/\p<=p2/\p2<=p+ts.length*bC (b / ts.length)):=by
 have hqb:=Nat.div_le_self b ts.length
 refine ZG 36 Tryz.func290 (ar (iA (Wx g gb) fun b1=>Z0 (ar (iL (Yv []) 0 3 fun v1=>?_))))
 refine Z0 (Yg (ab 0 (Y3 (fun fz gz m F h=>∃(k:Nat) (ys:List Z2) (u:Value) (pq:Nat),(k<=ts.length)/\(ys.length=k)/\(∀e∈ys,GE g vs.length (bS (b / ts.length)) e)/\(p<=pq/\pq<=p+k*bC (b / ts.length))/\F=sF [0,2,3,4,6] fz [(11,QI ys u),(12,.i k)]/\h=[Zd gz 1,Yz rd bs pq,Zd gz 3,.tail u 3]/\m=ts.length-k) _ _ _ ⟨0,[],v1,p,ob,ob,(fun e he=>by cases he),(by simp),rfl,rfl,rfl⟩ (wk [1,1,1,0] (fr (Yb fl))) ?_)))
 rintro m F h ⟨k,ys,u,pq,Ye,Zk,Zu,Yu,rfl,rfl,rfl⟩
 refine YO 2 (iw (Yd ts) (Y5 ((k:Int)<(ts.length:Int)) (fun Za=>?_) (fun Za=>?_)))
 ·obtain ⟨hm1,hm2⟩:=PY (k:=k) (L:=ts.length) (C:=bC (b / ts.length)) om
  refine ak (aq (ab 1 (aE 16 (ZH 10 16 [0,1,2,3,4,5] [0] ?_))))
  obtain ⟨x1,Z3⟩:=Zs ts k om
  refine dx 6 (Zj none (k:Int) 1 (Y1 Z3)) (Zl 6 9 [7,8,9] (dw 10 (Yd ts) (dx 11 (Ce b ts.length om om) (Z9 12 (dc 12 [1,1] [] [] (ih rd bs pq vs x1 (b / ts.length) ob ob ob ob) ?_)))))
  rintro _ _ ⟨e1,p21,rfl,rfl,ZY⟩
  have Xh:=ZY.1
  exact Z9 13 (WJ 13 [] [] [Y4 e1] (Yv [e1]) (XP [e1]).symm 1 3 fun v2=>Yt 2 2 [] [(33,XA [e1])] (Z9 14 (dp 14 4 [] [] (Yv (ys++[e1])) (Yv ys) (Yv [e1]) u none 3 (Tx _) (Tx _) (JX _) (by simp<;>omega) (by simp [JW,Yv]) fun v3=>Zl 0 1 [15] (de (az (Z1 1 (ZJ k (Z0 (ZK ⟨k+1,(ys++[e1]),v3,p21,ob,ob,(XE Zu (by assumption)),om,rfl,rfl,rfl⟩ (wk [4,2,2,0] (fr (ZO k fl))))))))))))
 have hke:k=ts.length:=by omega
 subst hke
 exact ax 0 (ar (Zq (r2 [1,1] [QI ys u] ⟨ys,pq,rfl,rfl,⟨by omega,Zu,by omega⟩⟩ (Zc.forget _ _))))
theorem Z79 (rd:Nat) (bs:LI) (p:Nat) (g:Wd) (gb:Nat) (rs:List Func) (vs:LI) (t:Int) (b:Nat) (ZL:∀z∈bs,0<=z/\z<=255) (hp:p+(bC b-1)<=1000000000:=by exact ob) (hg:GP g:=by exact ob) (Wt:g.funcs <+: rs:=by exact ob) (hv:vs.length+3*b<=900:=by exact ob) (hb:3<=b:=by exact ob) (ih:∀(rd:Nat) (bs:LI) (p:Nat) (vs2:LI) (t2:Int) (b2:Nat),(∀z∈bs,0<=z/\z<=255)->(p+bC b2<=1000000000)->(vs2.length+3*b2<=900)->(b2<b)->Zi 270 [.p rd 0,.agg (Wx g gb),Z4 vs2,.i t2,.i b2] [Yz rd bs p,XQ gb rs] (fun r h=>∃(e:Z2) (p2:Nat),r=Y4 e/\h=[Yz rd bs p2,XQ gb rs]/\GE g vs2.length (bS b2) e/\p<=p2/\p2<=p+bC b2)):Zi 291 [.p rd 0,.agg (Wx g gb),Z4 vs,.i t,.i b] [Yz rd bs p,XQ gb rs] (fun r h=>∃(e:Z2) (p2:Nat),r=Y4 e/\h=[Yz rd bs p2,XQ gb rs]/\GE g vs.length (bS b) e/\p<=p2/\p2<=p+(bC b-1)):=by
 have Xu:=hg.decls.ok
 have hgl:=hg.len
 have hdl:=hg.decls.len
 have hcm:=Nb b
 refine ZG 69 Tryz.func291 (ar (iA (Wx g gb) fun b1=>iA [.i 0,.i 0,nl] fun b2=>ie (Y6 1 (iL (Z7 [1,1,3,4]) 4 1 fun v1=>ZU 0 [(16,Z4 [1,1,3,4])] (ic [3] (U0 rd bs p [1,1,3,4] (ZL:=ob)) ?_)))))
 rintro _ _ ⟨z1,rfl,rfl,ZY⟩
 have hz:=Bu (a:=1) (b:=4) ZY (by decide)
 refine Z0 (Yk 3 [3] (iw (UE g.decls) (Xr [0,2,3,4,6,10,11] [(28,.b ((decide (z1>(g.decls.length:Int)))||W6 g.decls z1))] (fun gz=>gz) ?_ ?_)))
 ·refine Z1 2 (ib (b:=(decide (z1>(g.decls.length:Int)))) 23 (fun Zb=>?_) (fun Zb=>?_))
  ·exact Z0 (ZI 5 (Zt true Zb fl))
  exact ZM 3 [3] (Zx [] (EK g.decls z1) (Z0 (ZI 5 (Zt (W6 g.decls z1) Zb fl))))
 refine XR (fun fz gz F h=>∃(d:Int),(1<=d/\d<=4)/\F=sF [0,2,3,4,6,10] fz [(11,.i d)]/\h=[Zd gz 0,Zd gz 2,Zd gz 3,Zd gz 4]) ?_ ?_
 ·refine ac ((decide (z1>(g.decls.length:Int)))||W6 g.decls z1) (p:=(z1>(g.decls.length:Int))∨(W6 g.decls z1=true)) (Ys dq Iff.rfl) (fun Za=>?_) (fun Za=>?_)
  ·exact Td (ZT ⟨1,om,rfl,rfl⟩ (wk [0,1,1,1] fl))
  exact ak (ZT ⟨z1,om,rfl,rfl⟩ (wk [0,1,1,1] fl))
 rintro F h ⟨d,J7,rfl,rfl⟩
 have hcl:=Lq Xu d
 have hmc:=Zby (L:=(ZX g.decls d).length) (q:=((b-2) / (ZX g.decls d).length)) (b:=b) om hb (Qj _ _)
 have hqb:=Nat.div_le_self (b-2) (ZX g.decls d).length
 refine Zw 3 [2] (ic [] (A5 g.decls d) ?_)
 rintro _ _ ⟨v2,rfl,rfl⟩
 refine Z0 (Zw 4 [3] (ic [1,3] (CU rd bs (p+1) g gb rs vs d (ZL:=ob)) ?_))
 rintro _ _ ⟨e1,p21,rfl,rfl,YP⟩
 have hle:=YP.1
 refine UZ [Y4 e1] (Yv [e1]) (XP [e1]).symm 1 3 fun v3=>?_
 refine Z0 (Yg (ab 0 (Y3 (fun fz gz m F h=>∃(k:Nat) (ys:List Z2) (u:Value) (pq:Nat),(k<=(ZX g.decls d).length)/\(ys.length=k)/\(QZ g.decls g.funcs.length (Qd g.decls 8 d vs.length) 1 ys)/\(∀e∈ys,e.sz<=bS ((b-2) / (ZX g.decls d).length))/\(p<=pq/\pq<=p+31+k*bC ((b-2) / (ZX g.decls d).length))/\F=sF [0,2,3,4,6,10,11] fz [(12,Z4 (ZX g.decls d)),(13,QI (e1::ys) u),(14,.i k)]/\h=[Yz rd bs pq,Zd gz 2,Zd gz 4,Zd gz 5,.tail u 3]/\m=(ZX g.decls d).length-k) _ _ _ ⟨0,[],v3,p21,ob,rfl,True.intro,(fun e he=>by cases he),(by simp only [Nat.zero_mul];omega),rfl,rfl,rfl⟩ (wk [1,1,2,2,0] (fc (x:=ZQ (ZX g.decls d) v2) (Zc.forget _ _) (fc (x:=QI [e1] v3) (Zc.slh _ (Yn Yv rfl)) (Yb fl)))) ?_)))
 rintro m F h ⟨k,ys,u,pq,Ye,Zk,Zu,Yu,XX,rfl,rfl,rfl⟩
 refine YO 2 (io (.i (((ZX g.decls d).length:Nat):Int)) (.i (((Z7 (ZX g.decls d)).length:Nat):Int)) (li (by rw [Yd])) (Y5 ((k:Int)<(((ZX g.decls d).length:Nat):Int)) (fun Zh=>?_) (fun Zh=>?_)))
 ·refine ak (aq (ab 1 (aE 22 (ZH 14 22 [0,1,2,3,4,5,6,7] [3,3] ?_))))
  obtain ⟨x1,Z3⟩:=Zs (ZX g.decls d) k om
  have hcf:=U5 Xu x1
  have harm:=Dq (m:=vs.length) Z3
  obtain ⟨hm1,hm2⟩:=PY (k:=k) (L:=(ZX g.decls d).length) (C:=bC ((b-2) / (ZX g.decls d).length)) om
  refine dx 8 (Zj none (k:Int) 1 (Y1 Z3)) (Zl 10 13 [9,12,13] (da 14 (((b-2:Nat):Int)) (((b:Int))-(2)) (Zl 8 9 [15] (dn 16 (.i (((ZX g.decls d).length:Nat):Int)) (.i (((Z7 (ZX g.decls d)).length:Nat):Int)) (li (by rw [Yd])) (dx 17 (Ce (b-2) ((ZX g.decls d).length) om om) (Z9 10 (Yo 10 [] [3] [b1] (KG g.decls x1) (Z9 11 (dc 11 [] [3] [b1] (Kh vs (ZV g.decls x1)) ?_)))))))))
  rintro _ _ ⟨v4,rfl,rfl⟩
  refine Yt 4 4 [] [(56,Z4 (vs++(ZV g.decls x1)))] (Z9 18 (dc 18 [1,1] [] [] (ih rd bs pq (vs++(ZV g.decls x1)) t ((b-2) / ((ZX g.decls d).length)) ob ob (by simp only [Yr];omega) ob) ?_))
  rintro _ _ ⟨e2,p22,rfl,rfl,Xc⟩
  have Xh:=Xc.1
  exact Z9 19 (WJ 19 [] [] [Y4 e2] (Yv [e2]) (XP [e2]).symm 1 3 fun v5=>Yt 2 2 [] [(64,XA [e2])] (Z9 20 (dp 20 6 [] [] (Yv ((e1::ys)++[e2])) (Yv (e1::ys)) (Yv [e2]) u none 3 (Tx _) (Tx _) (JX _) (by simp<;>omega) (by simp [JW,Yv]) fun v6=>Zl 0 1 [21] (de (az (Z1 1 (ZJ k (Z0 (ZK ⟨k+1,(ys++[e2]),v6,p22,ob,ob,(NY.2 ⟨Zu,by rw [Zk,harm,<-Yr];exact Xh.1,True.intro⟩),(XE Yu Xh.2),om,rfl,rfl,rfl⟩ (wk [2,2,3,3,0] (fr (fc (x:=QI ((e1::ys)++[e2]) v6) (Zc.slh _ (Yn Yv rfl)) (ZO k fl)))))))))))))
 refine ax 0 (ar (ZU 2 [(67,XA (e1::ys))] (Zx [] (XS 8 d (e1::ys)) (ZC 2 b2 (YZ (Z2.mk 8 d (e1::ys))) (ie ?_)))))
 have hke:k=(ZX g.decls d).length:=by omega
 subst hke
 exact ZD (r3 [1,1] [Y4 (Z2.mk 8 d (e1::ys))] [0] [(b2,b2)] ⟨(Z2.mk 8 d (e1::ys)),pq,rfl,rfl,⟨GE.match_ om hle Zu Yu Zk rfl om (Zbz om hb (Qj _ _)),by omega⟩⟩ (lr _))
theorem Ow (rd:Nat) (bs:LI) (p:Nat) (g:Wd) (gb:Nat) (rs:List Func) (vs:LI) (t:Int) (b:Nat) (ZL:∀z∈bs,0<=z/\z<=255) (hp:p+(bC b-1)<=1000000000:=by exact ob) (hg:GP g:=by exact ob) (Wt:g.funcs <+: rs:=by exact ob) (hv:vs.length+3*b<=900:=by exact ob) (hb:3<=b:=by exact ob) (ih:∀(rd:Nat) (bs:LI) (p:Nat) (vs2:LI) (t2:Int) (b2:Nat),(∀z∈bs,0<=z/\z<=255)->(p+bC b2<=1000000000)->(vs2.length+3*b2<=900)->(b2<b)->Zi 270 [.p rd 0,.agg (Wx g gb),Z4 vs2,.i t2,.i b2] [Yz rd bs p,XQ gb rs] (fun r h=>∃(e:Z2) (p2:Nat),r=Y4 e/\h=[Yz rd bs p2,XQ gb rs]/\GE g vs2.length (bS b2) e/\p<=p2/\p2<=p+bC b2)):Zi 293 [.p rd 0,.agg (Wx g gb),Z4 vs,.i t,.i b] [Yz rd bs p,XQ gb rs] (fun r h=>∃(e:Z2) (p2:Nat),r=Y4 e/\h=[Yz rd bs p2,XQ gb rs]/\GE g vs.length (bS b) e/\p<=p2/\p2<=p+(bC b-1)):=by
 have Xu:=hg.decls.ok
 have hgl:=hg.len
 have hdl:=hg.decls.len
 have hac:=Z22 hb
 have has:=Z23 hb
 refine ZG 120 Tryz.func293 (ar (iA (Wx g gb) fun b1=>iA [.i 0,.i 0,nl] fun b2=>ie (YO 1 (ic [2] (Wg rd bs p 4 (ZL:=ob)) ?_))))
 rintro _ _ ⟨k1,rfl,rfl,ZY⟩
 have qhp1:=ZY.lt om
 refine Z0 (XR (fun fz gz F h=>∃(p5:Nat),(p<=p5/\p5<=p+1)/\F=sF [0,2,3,4,6,10] fz []/\h=[Yz rd bs p5,Zd gz 1,Zd gz 2,Zd gz 3]) ?_ ?_)
 ·refine ac (k1==0) Zp (fun Za=>?_) (fun Za=>?_)
  ·refine ZF (ab 0 (Y3 (fun fz gz m F h=>∃(a:Nat),(1<=a/\a<=g.decls.length+1)/\F=sF [0,2,3,4,6,10] fz [(11,.i a)]/\h=gz/\m=g.decls.length+1-a) _ _ _ ⟨1,ob,rfl,rfl,rfl⟩ (ZI 4 (fc (x:=.i 1) li fl)) ?_))
   rintro m F h ⟨a,Ye,rfl,rfl,rfl⟩
   refine Yk 3 [2] (iw (UE g.decls) (Y5 ((a:Int)<=(g.decls.length:Int)) (fun Zh=>?_) (fun Zh=>?_)))
   ·refine ak (aq (ab 1 (aq (XR (fun fz gz F h=>∃(wb:Bool),(True)/\F=sF [0,2,3,4,6,10,11] fz [(44,.b wb)]/\h=gz) ?_ ?_))))
    ·refine az (ZM 3 [2] (Zx [] (EK g.decls (a:Int)) (Z1 1 (ib (b:=W6 g.decls (a:Int)) 28 (fun Zb=>?_) (fun Zb=>?_)))))
     ·refine ZM 3 [2] (ia (((a-1:Nat):Int)) (((a:Int))-(1)) ?_)
      obtain ⟨x1,Z3⟩:=Zs g.decls (a-1) om
      refine Zo (Zj none ((a-1:Nat):Int) 3 (VR Z3)) (Z1 6 (ib (b:=(x1.to_==t)) 39 (fun ZB=>?_) (fun ZB=>?_)))
      ·refine ZM 3 [2] (ic [3] (FK g gb rs vs (a:Int)) ?_)
       rintro _ _ ⟨w1,rfl,rfl⟩
       exact Z0 (ZT ⟨w1,True.intro,rfl,rfl⟩ (wk [1,1,1,0] fl))
      exact Z0 (ZT ⟨false,True.intro,rfl,rfl⟩ (ZI 4 fl))
     exact Z0 (ZT ⟨false,True.intro,rfl,rfl⟩ (ZI 4 fl))
    rintro F h ⟨wb,kR5_0,rfl,rfl⟩
    refine ac wb Iff.rfl (fun ZE=>?_) (fun ZE=>?_)
    ·refine aD 21 (ZH 11 21 [0,1,2,3,5,6,7,8,9,10] [2,2,2] (da 11 (((a-1:Nat):Int)) (((a:Int))-(1)) ?_))
     obtain ⟨x2,Zv⟩:=Zs g.decls (a-1) om
     refine dx 12 (Zj none ((a-1:Nat):Int) 3 (VR Zv)) (Zl 6 9 [13,14,15] (da 16 (((b-2:Nat):Int)) (((b:Int))-(2)) (Z9 4 (dc 4 [0,2] [1,1] [b1,b1] (CU rd bs (p+1) g gb rs vs (a:Int) (ZL:=ob)) ?_))))
     rintro _ _ ⟨e1,p21,rfl,rfl,XT⟩
     have hle:=XT.1
     refine Z9 17 (dc 17 [0,0] [] [] (ih rd bs p21 vs x2.frm (b-2) ob ob ob ob) ?_)
     rintro _ _ ⟨e2,p22,rfl,rfl,Wy⟩
     have Xh:=Wy.1
     exact Z9 18 (WJ 18 [] [] [Y4 e1,Y4 e2] (Yv [e1,e2]) (XP [e1,e2]).symm 2 3 fun v1=>Yt 2 2 [] [(63,XA [e1,e2])] (Z9 19 (Yo 19 [] [] [] (XS 11 0 [e1,e2]) (Z9 20 (YK 20 3 [] [] b2 (YZ (Z2.mk 11 0 [e1,e2])) (de (ZD (r3 [2,2] [Y4 (Z2.mk 11 0 [e1,e2])] [0] [(b2,b2)] ⟨(Z2.mk 11 0 [e1,e2]),p22,rfl,rfl,⟨GE.two om om hle Xh om,by omega⟩⟩ (lr _)))))))))
    exact ak (az (Z1 1 (ZJ a (Z0 (ZK ⟨a+1,ob,rfl,rfl,rfl⟩ (ZI 4 (ZO a fl)))))))
   exact ax 0 (ZT ⟨p+1,ob,rfl,rfl⟩ (ZI 4 fl))
  exact ak (ZT ⟨p+1,ob,rfl,rfl⟩ (ZI 4 fl))
 rintro F h ⟨p5,J7,rfl,rfl⟩
 refine Zw 3 [2] (ic [] (A5 g.decls t) ?_)
 rintro _ _ ⟨v2,rfl,rfl⟩
 refine Z0 (YO 1 (io (.i (((ZX g.decls t).length:Nat):Int)) (.i (((Z7 (ZX g.decls t)).length:Nat):Int)) (li (by rw [Yd])) (Y5 ((((ZX g.decls t).length:Nat):Int)>0) (fun Yf=>?_) (fun Yf=>?_))))
 ·refine Y6 3 (io (.i (((ZX g.decls t).length:Nat):Int)) (.i (((Z7 (ZX g.decls t)).length:Nat):Int)) (li (by rw [Yd])) (ic [1] (Wg rd bs p5 (((ZX g.decls t).length:Nat):Int) (ZL:=ob)) ?_))
  rintro _ _ ⟨k2,rfl,rfl,WW⟩
  have qhp8:=WW.lt om
  obtain ⟨x3,YQ⟩:=Zs (ZX g.decls t) k2.toNat om
  have hcc:=hg.decls.cons_cases (ZZ YQ)
  refine Zo (Zj (some v2) k2 1 (Y1 YQ)) (Z0 (aD 13 (ZH 5 13 [0,1,2,3,4,5,6,8] [3,3] (da 9 (((b-1:Nat):Int)) (((b:Int))-(1)) (Z9 7 (Yo 7 [] [2] [b1] (KG g.decls x3) (Z9 10 (dc 10 [0,3] [] [] (C7 rd bs (p5+1) g gb rs vs (ZV g.decls x3) (b-1) b (ZL:=ob) (hp:=(Cf (p:=p) (by first|omega|simp) hb om om)) (ht:=(by first|omega|simp)) (hb:=om) (ih:=ih)) ?_))))))))
  rintro _ _ ⟨ys1,p23,rfl,rfl,Vk⟩
  have hga1:=Vk.1
  have hga2:=Vk.2.1
  have hga3:=Vk.2.2
  have hnc:=AI (b:=b) (show (ys1).length<=3 by rw [hga1];first|omega|simp) hb (Qj _ (b-1))
  rw [hga1] at hnc
  exact Z9 11 (Yo 11 [] [] [] (XS 6 x3 ys1) (Z9 12 (YK 12 3 [] [] b2 (YZ (Z2.mk 6 x3 ys1)) (de (ZD (r3 [1,1] [Y4 (Z2.mk 6 x3 ys1)] [0] [(b2,b2)] ⟨(Z2.mk 6 x3 ys1),p23,rfl,rfl,⟨GE.node om (fun h=>by omega) om hga2 hga1 (by first|omega|simp) (Ep (by first|omega|simp) hb (Qj _ _)),by omega⟩⟩ (lr _)))))))
 refine ak (X4 (Y5 (t>0) (fun Xb=>?_) (fun Xb=>?_)))
 ·refine Zw 4 [3] (ic [1,3] (CU rd bs p5 g gb rs vs t (ZL:=ob)) ?_)
  rintro _ _ ⟨e3,p24,rfl,rfl,UY⟩
  have hle:=UY.1
  exact ZC 3 b2 (YZ e3) (ie (ZD (r3 [1,1] [Y4 e3] [0] [(b2,b2)] ⟨e3,p24,rfl,rfl,⟨hle.le (Nc b),by omega⟩⟩ (lr _))))
 refine ak (YO 1 (ic [1] (Wg rd bs p5 3 (ZL:=ob)) ?_))
 rintro _ _ ⟨k3,rfl,rfl,Te⟩
 have qhp11:=Te.lt om
 refine YG (k3==0) Zp (fun Xg=>?_) (fun Xg=>?_)
 ·refine Zw 3 [3] (iL (Z7 [0]) 1 1 fun v3=>Z1 1 (ia (((b-1:Nat):Int)) (((b:Int))-(1)) (ZU 0 [(104,Z4 [0])] (ic [1,4] (C7 rd bs (p5+1) g gb rs vs [0] (b-1) b (ZL:=ob) (hp:=(Cf (p:=p) (by first|omega|simp) hb om om)) (ht:=(by first|omega|simp)) (hb:=om) (ih:=ih)) ?_))))
  rintro _ _ ⟨ys2,p25,rfl,rfl,Tf⟩
  have hga1:=Tf.1
  have hga2:=Tf.2.1
  have hga3:=Tf.2.2
  have hnc:=AI (b:=b) (show (ys2).length<=3 by rw [hga1];first|omega|simp) hb (Qj _ (b-1))
  rw [hga1] at hnc
  exact Zx [] (XS 5 0 ys2) (ZC 4 b2 (YZ (Z2.mk 5 0 ys2)) (ie (ZD (r3 [1,1] [Y4 (Z2.mk 5 0 ys2)] [0] [(b2,b2)] ⟨(Z2.mk 5 0 ys2),p25,rfl,rfl,⟨GE.node om (fun h=>by omega) om hga2 hga1 (by first|omega|simp) (Ep (by first|omega|simp) hb (Qj _ _)),by omega⟩⟩ (lr _)))))
 refine ak (aD 12 (ZH 7 12 [0,3,4,5,7] [3] (da 8 (((b-1:Nat):Int)) (((b:Int))-(1)) (KY (fun fz gz F h=>∃(z1:Int) (ys3:List Z2) (p26:Nat),(z1∈[1,2,3,4])/\(ys3.length=[0,0].length/\(∀e∈ys3,GE g vs.length (bS ((b-1) / [0,0].length)) e)/\((p5+1)+1)<=p26/\p26<=((p5+1)+1)+[0,0].length*bC ((b-1) / [0,0].length))/\F=sF [10] fz []/\h=[.obj b2 (YZ (Z2.mk z1 0 ys3)),Yz rd bs p26,Zd gz 4,Zd gz 1,Zd gz 3]) ?_ ?_))))
 ·refine VH 1 6 ?_ ?_
  ·refine dL 1 [2] [b1] (Z7 [1,2,3,4]) 4 1 fun v4=>Yt 5 5 [] [(110,Z4 [1,2,3,4])] (VH 2 6 ?_ ?_)
   ·refine dc 2 [1] [1] [b1] (U0 rd bs (p5+1) [1,2,3,4] (ZL:=ob)) ?_
    rintro _ _ ⟨z1,rfl,rfl,QD⟩
    have hz:=Bu (a:=1) (b:=4) QD (by decide)
    refine Z9 6 (dL 6 [2] [b1] (Z7 [0,0]) 2 1 fun v5=>Yt 3 3 [] [(115,Z4 [0,0])] (Z9 9 (dc 9 [1,5] [] [] (C7 rd bs ((p5+1)+1) g gb rs vs [0,0] (b-1) b (ZL:=ob) (hp:=(Cf (p:=p) (by first|omega|simp) hb om om)) (ht:=(by first|omega|simp)) (hb:=om) (ih:=ih)) ?_)))
    rintro _ _ ⟨ys3,p26,rfl,rfl,Qo⟩
    have hga1:=Qo.1
    have hga2:=Qo.2.1
    have hga3:=Qo.2.2
    have hnc:=AI (b:=b) (show (ys3).length<=3 by rw [hga1];first|omega|simp) hb (Qj _ (b-1))
    rw [hga1] at hnc
    exact Z9 10 (Yo 10 [] [] [] (XS z1 0 ys3) (Z9 11 (YK 11 5 [] [] b2 (YZ (Z2.mk z1 0 ys3)) (de (ZT ⟨z1,ys3,p26,(by assumption),(by assumption),rfl,rfl⟩ (wk [0,0,0,2,2] fl))))))
   refine dL 6 [2] [b1] (Z7 [0,0]) 2 1 fun v6=>Z9 2 (dc 2 [2] [1] [b1] (U0 rd bs (p5+1) [1,2,3,4] (ZL:=ob)) ?_)
   rintro _ _ ⟨z2,rfl,rfl,J6⟩
   have hz:=Bu (a:=1) (b:=4) J6 (by decide)
   refine Yt 3 3 [] [(115,Z4 [0,0])] (Z9 9 (dc 9 [0,5] [] [] (C7 rd bs ((p5+1)+1) g gb rs vs [0,0] (b-1) b (ZL:=ob) (hp:=(Cf (p:=p) (by first|omega|simp) hb om om)) (ht:=(by first|omega|simp)) (hb:=om) (ih:=ih)) ?_))
   rintro _ _ ⟨ys4,p27,rfl,rfl,Kz⟩
   have hga1:=Kz.1
   have hga2:=Kz.2.1
   have hga3:=Kz.2.2
   have hnc:=AI (b:=b) (show (ys4).length<=3 by rw [hga1];first|omega|simp) hb (Qj _ (b-1))
   rw [hga1] at hnc
   exact Z9 10 (Yo 10 [] [] [] (XS z2 0 ys4) (Z9 11 (YK 11 5 [] [] b2 (YZ (Z2.mk z2 0 ys4)) (de (ZT ⟨z2,ys4,p27,(by assumption),(by assumption),rfl,rfl⟩ (wk [0,0,0,2,2] fl))))))
  refine dL 6 [2] [b1] (Z7 [0,0]) 2 1 fun v7=>Z9 1 (dL 1 [2] [b1] (Z7 [1,2,3,4]) 4 1 fun v8=>Yt 4 4 [] [(110,Z4 [1,2,3,4])] (Z9 2 (dc 2 [2] [1] [b1] (U0 rd bs (p5+1) [1,2,3,4] (ZL:=ob)) ?_)))
  rintro _ _ ⟨z3,rfl,rfl,Bj⟩
  have hz:=Bu (a:=1) (b:=4) Bj (by decide)
  refine Yt 3 3 [] [(115,Z4 [0,0])] (Z9 9 (dc 9 [0,5] [] [] (C7 rd bs ((p5+1)+1) g gb rs vs [0,0] (b-1) b (ZL:=ob) (hp:=(Cf (p:=p) (by first|omega|simp) hb om om)) (ht:=(by first|omega|simp)) (hb:=om) (ih:=ih)) ?_))
  rintro _ _ ⟨ys5,p28,rfl,rfl,JC⟩
  have hga1:=JC.1
  have hga2:=JC.2.1
  have hga3:=JC.2.2
  have hnc:=AI (b:=b) (show (ys5).length<=3 by rw [hga1];first|omega|simp) hb (Qj _ (b-1))
  rw [hga1] at hnc
  exact Z9 10 (Yo 10 [] [] [] (XS z3 0 ys5) (Z9 11 (YK 11 5 [] [] b2 (YZ (Z2.mk z3 0 ys5)) (de (ZT ⟨z3,ys5,p28,(by assumption),(by assumption),rfl,rfl⟩ (wk [0,0,0,2,2] fl))))))
 rintro F h ⟨z1,ys3,p26,QD,Qo,rfl,rfl⟩
 have hz:=Bu (a:=1) (b:=4) QD (by decide)
 have hga1:=Qo.1
 have hga2:=Qo.2.1
 have hga3:=Qo.2.2
 have hnc:=AI (b:=b) (show (ys3).length<=3 by rw [hga1];first|omega|simp) hb (Qj _ (b-1))
 rw [hga1] at hnc
 exact ZD (r3 [1,1] [Y4 (Z2.mk z1 0 ys3)] [0] [(b2,b2)] ⟨(Z2.mk z1 0 ys3),p26,rfl,rfl,⟨GE.node om (fun h=>by omega) om hga2 hga1 (by first|omega|simp) (Ep (by first|omega|simp) hb (Qj _ _)),by omega⟩⟩ (lr _))
theorem Z7a (rd:Nat) (bs:LI) (p:Nat) (g:Wd) (gb:Nat) (rs:List Func) (vs:LI) (t:Int) (b:Nat) (ZL:∀z∈bs,0<=z/\z<=255) (hp:p+bC b<=1000000000) (hg:GP g) (Wt:g.funcs <+: rs) (hv:vs.length+3*b<=900) (ih:∀(rd:Nat) (bs:LI) (p:Nat) (vs2:LI) (t2:Int) (b2:Nat),(∀z∈bs,0<=z/\z<=255)->(p+bC b2<=1000000000)->(vs2.length+3*b2<=900)->(b2<b)->Zi 270 [.p rd 0,.agg (Wx g gb),Z4 vs2,.i t2,.i b2] [Yz rd bs p,XQ gb rs] (fun r h=>∃(e:Z2) (p2:Nat),r=Y4 e/\h=[Yz rd bs p2,XQ gb rs]/\GE g vs2.length (bS b2) e/\p<=p2/\p2<=p+bC b2)):Zi 270 [.p rd 0,.agg (Wx g gb),Z4 vs,.i t,.i b] [Yz rd bs p,XQ gb rs] (fun r h=>∃(e:Z2) (p2:Nat),r=Y4 e/\h=[Yz rd bs p2,XQ gb rs]/\GE g vs.length (bS b) e/\p<=p2/\p2<=p+bC b):=by
 have Xu:=hg.decls.ok
 have hgl:=hg.len
 have hdl:=hg.decls.len
 have hbm:=Nc b
 have hcm:=Nb b
 refine ZG 114 Tryz.func270 (ar (iA (Wx g gb) fun b1=>iA [.i 0,.i 0,nl] fun b2=>ie (X4 (Y5 ((b:Int)<3) (fun Za=>?_) (fun Za=>?_)))))
 ·refine Zw 4 [1] (ic [2,2] (CU rd bs p g gb rs vs t (ZL:=ob)) ?_)
  rintro _ _ ⟨e1,p21,rfl,rfl,ZY⟩
  have hle:=ZY.1
  exact ZC 2 b2 (YZ e1) (ie (ZD (r3 [1,1] [Y4 e1] [0] [(b2,b2)] ⟨e1,p21,rfl,rfl,⟨hle.le hbm,by omega⟩⟩ (lr _))))
 have hb:3<=b:=by omega
 have hlc:=Zbq hb
 have hls:=Zbr hb
 refine ak (YO 1 (ic [2] (Wg rd bs p 12 (ZL:=ob)) ?_))
 rintro _ _ ⟨k1,rfl,rfl,Yi⟩
 have qhp2:=Yi.lt om
 refine ie (ab 0 (ar (YG (k1==0) Zp (fun Zh=>?_) (fun Zh=>?_))))
 ·refine Zw 4 [2] (ic [0,2] (CU rd bs (p+1) g gb rs vs t (ZL:=ob)) ?_)
  rintro _ _ ⟨e2,p22,rfl,rfl,YL⟩
  have hle:=YL.1
  exact ZC 2 b2 (YZ e2) (ie (ZD (r3 [1,1] [Y4 e2] [0] [(b2,b2)] ⟨e2,p22,rfl,rfl,⟨hle.le hbm,by omega⟩⟩ (lr _))))
 refine Yg (XR (fun fz gz F h=>F=sF [0,2,3,4,6,10,22] fz [(30,.b ((k1==1)||(k1==2)))]/\h=gz) ?_ ?_)
 ·refine ac (k1==1) Zp (fun ZE=>?_) (fun ZE=>?_)
  ·exact ak (ZT ⟨rfl,rfl⟩ (ZI 4 (fc (x:=.b (k1==1)) (lb (by first|rfl|(rw [Ze ZE])|(rw [Z8 ZE])|(simp [ZE];done)|(rw [Xt];simp [ZE];done)|omega)) fl)))
  exact Td (ZT ⟨rfl,rfl⟩ (ZI 4 (fc (x:=.b (k1==2)) (lb (by first|rfl|(rw [Ze ZE])|(rw [Z8 ZE])|(simp [ZE];done)|(rw [Xt];simp [ZE];done)|omega)) fl)))
 rintro F h ⟨rfl,rfl⟩
 refine ac ((k1==1)||(k1==2)) (p:=(k1=1)∨(k1=2)) (Ys Zp Zp) (fun Yf=>?_) (fun Yf=>?_)
 ·refine Zw 3 [2] (ic [0,2] (Z6n rd bs (p+1) g gb rs vs (ZL:=ob)) ?_)
  rintro _ _ ⟨z1,rfl,rfl,YP⟩
  refine Z0 (aD 20 (ZH 15 20 [0,1,2,3,4] [3] (dx 5 (Ce b 2 om om) (ZH 8 14 [7,8,9,10,13,14] [3] (dx 15 (Ce b 2 om om) (KY (fun fz gz F h=>∃(e3:Z2) (e4:Z2) (p24:Nat) (p23:Nat),(GE g vs.length (bS (b / 2)) e3/\((p+1)+1)<=p23/\p23<=((p+1)+1)+bC (b / 2))/\(GE g (vs++[z1]).length (bS (b / 2)) e4/\p23<=p24/\p24<=p23+bC (b / 2))/\F=sF [10] fz []/\h=[.obj b2 (YZ (Z2.mk 13 0 [e3,e4])),Yz rd bs p24,Zd gz 1,Zd gz 3]) ?_ ?_))))))
  ·refine VH 6 11 ?_ ?_
   ·refine dc 6 [0,0] [1] [b1] (ih rd bs ((p+1)+1) vs z1 (b / 2) ob ob (by first|omega|(simp only [Yr,YS,Xw];omega)) ob) ?_
    rintro _ _ ⟨e3,p23,rfl,rfl,Xc⟩
    have hgehp5:=Xc.1
    refine Z9 11 (dL 11 [3] [b1] (Z7 [z1]) 1 1 fun v1=>Yt 5 5 [] [(48,Z4 [z1])] (Z9 12 (dc 12 [] [3] [b1] (Kh vs [z1]) ?_)))
    rintro _ _ ⟨v2,rfl,rfl⟩
    refine Yt 4 4 [] [(49,Z4 (vs++[z1]))] (Z9 16 (dc 16 [2,2] [] [] (ih rd bs p23 (vs++[z1]) t (b / 2) ob ob (by first|omega|(simp only [Yr,YS,Xw];omega)) ob) ?_))
    rintro _ _ ⟨e4,p24,rfl,rfl,XT⟩
    have hgehp6:=XT.1
    exact Z9 17 (WJ 17 [] [] [Y4 e3,Y4 e4] (Yv [e3,e4]) (XP [e3,e4]).symm 2 3 fun v3=>Yt 2 2 [] [(54,XA [e3,e4])] (Z9 18 (Yo 18 [] [] [] (XS 13 0 [e3,e4]) (Z9 19 (YK 19 5 [] [] b2 (YZ (Z2.mk 13 0 [e3,e4])) (de (ZT ⟨e3,e4,p24,_,(by assumption),(by assumption),rfl,rfl⟩ (wk [0,1,1,3] fl))))))))
   refine dL 11 [3,3] [b1,b1] (Z7 [z1]) 1 1 fun v4=>Z9 6 (dc 6 [1,1] [1] [b1] (ih rd bs ((p+1)+1) vs z1 (b / 2) ob ob (by first|omega|(simp only [Yr,YS,Xw];omega)) ob) ?_)
   rintro _ _ ⟨e5,p25,rfl,rfl,Wy⟩
   have hgehp7:=Wy.1
   refine Yt 5 5 [] [(48,Z4 [z1])] (Z9 12 (dc 12 [] [3] [b1] (Kh vs [z1]) ?_))
   rintro _ _ ⟨v5,rfl,rfl⟩
   refine Yt 4 4 [] [(49,Z4 (vs++[z1]))] (Z9 16 (dc 16 [1,1] [] [] (ih rd bs p25 (vs++[z1]) t (b / 2) ob ob (by first|omega|(simp only [Yr,YS,Xw];omega)) ob) ?_))
   rintro _ _ ⟨e6,p26,rfl,rfl,WW⟩
   have hgehp8:=WW.1
   exact Z9 17 (WJ 17 [] [] [Y4 e5,Y4 e6] (Yv [e5,e6]) (XP [e5,e6]).symm 2 3 fun v6=>Yt 2 2 [] [(54,XA [e5,e6])] (Z9 18 (Yo 18 [] [] [] (XS 13 0 [e5,e6]) (Z9 19 (YK 19 5 [] [] b2 (YZ (Z2.mk 13 0 [e5,e6])) (de (ZT ⟨e5,e6,p26,_,(by assumption),(by assumption),rfl,rfl⟩ (wk [0,1,1,3] fl))))))))
  rintro F h ⟨e3,e4,p24,p23,Xc,XT,rfl,rfl⟩
  have hgehp5:=Xc.1
  have hgehp6:=XT.1
  exact ZD (r3 [1,1] [Y4 (Z2.mk 13 0 [e3,e4])] [0] [(b2,b2)] ⟨(Z2.mk 13 0 [e3,e4]),p24,rfl,rfl,⟨GE.let_ (by assumption) (by have h:=‹GE g (vs++[_]).length (bS (b / 2)) _›;rw [Yr] at h;exact h) hls,by omega⟩⟩ (lr _))
 refine ar (YG (k1==3) Zp (fun Xb=>?_) (fun Xb=>?_))
 ·refine Zw 5 [2] (iL (Z7 [0,t,t]) 3 1 fun v7=>Z1 1 (ia (((b-1:Nat):Int)) (((b:Int))-(1)) (ZU 0 [(63,Z4 [0,t,t])] (ic [1,3] (C7 rd bs (p+1) g gb rs vs [0,t,t] (b-1) b (ZL:=ob) (hp:=(Cf (p:=p) (by first|omega|simp) hb om om)) (ht:=(by first|omega|simp)) (hb:=om) (ih:=ih)) ?_))))
  rintro _ _ ⟨ys1,p27,rfl,rfl,Vk⟩
  have hga1:=Vk.1
  have hga2:=Vk.2.1
  have hga3:=Vk.2.2
  have hnc:=AI (b:=b) (show (ys1).length<=3 by rw [hga1];first|omega|simp) hb (Qj _ (b-1))
  rw [hga1] at hnc
  exact Zx [] (XS 7 0 ys1) (ZC 3 b2 (YZ (Z2.mk 7 0 ys1)) (ie (ZD (r3 [1,1] [Y4 (Z2.mk 7 0 ys1)] [0] [(b2,b2)] ⟨(Z2.mk 7 0 ys1),p27,rfl,rfl,⟨GE.if_ om hga2 hga1 (Ep (by simp) hb (Qj 3 _)),by omega⟩⟩ (lr _)))))
 refine Yg (XR (fun fz gz F h=>F=sF [0,2,3,4,6,10,22] fz [(68,.b ((k1==4)||((k1==5)||(k1==6))))]/\h=gz) ?_ ?_)
 ·refine ac (k1==4) Zp (fun Xg=>?_) (fun Xg=>?_)
  ·exact ak (ZT ⟨rfl,rfl⟩ (ZI 4 (fc (x:=.b (k1==4)) (lb (by first|rfl|(rw [Ze Xg])|(rw [Z8 Xg])|(simp [Xg];done)|(rw [Xt];simp [Xg];done)|omega)) fl)))
  refine ar (YG (k1==5) Zp (fun VS=>?_) (fun VS=>?_))
  ·exact ak (ZT ⟨rfl,rfl⟩ (ZI 4 (fc (x:=.b (k1==5)) (lb (by first|rfl|(rw [Ze Xg])|(rw [Z8 Xg])|(simp [Xg,VS];done)|(rw [Xt];simp [Xg,VS];done)|omega)) fl)))
  exact Td (ZT ⟨rfl,rfl⟩ (ZI 4 (fc (x:=.b (k1==6)) (lb (by first|rfl|(rw [Ze Xg])|(rw [Z8 Xg])|(simp [Xg,VS];done)|(rw [Xt];simp [Xg,VS];done)|omega)) fl)))
 rintro F h ⟨rfl,rfl⟩
 refine ac ((k1==4)||((k1==5)||(k1==6))) (p:=(k1=4)∨((k1=5)∨(k1=6))) (Ys Zp (Ys Zp Zp)) (fun VJ=>?_) (fun VJ=>?_)
 ·refine Zw 5 [2] (ic [0,2] (Z79 rd bs (p+1) g gb rs vs t b (ZL:=ob) (ih:=ih)) ?_)
  rintro _ _ ⟨e7,p28,rfl,rfl,UY⟩
  have hgm:=UY.1
  exact ZC 2 b2 (YZ e7) (ie (ZD (r3 [1,1] [Y4 e7] [0] [(b2,b2)] ⟨e7,p28,rfl,rfl,⟨hgm,by omega⟩⟩ (lr _))))
 refine Yg (XR (fun fz gz F h=>F=sF [0,2,3,4,6,10] fz [(78,.b ((k1==7)||(k1==8)))]/\h=gz) ?_ ?_)
 ·refine ac (k1==7) Zp (fun VK=>?_) (fun VK=>?_)
  ·exact ak (ZT ⟨rfl,rfl⟩ (ZI 4 (fc (x:=.b (k1==7)) (lb (by first|rfl|(rw [Ze VK])|(rw [Z8 VK])|(simp [VK];done)|(rw [Xt];simp [VK];done)|omega)) fl)))
  exact Td (ZT ⟨rfl,rfl⟩ (ZI 4 (fc (x:=.b (k1==8)) (lb (by first|rfl|(rw [Ze VK])|(rw [Z8 VK])|(simp [VK];done)|(rw [Xt];simp [VK];done)|omega)) fl)))
 rintro F h ⟨rfl,rfl⟩
 refine ac ((k1==7)||(k1==8)) (p:=(k1=7)∨(k1=8)) (Ys Zp Zp) (fun TL=>?_) (fun TL=>?_)
 ·refine Zw 2 [2] (ic [3] (Z6r g gb rs t) ?_)
  rintro _ _ ⟨xs1,rfl,rfl,Te⟩
  have hcal:=Te
  refine Z0 (Y6 1 (iw (Yd xs1) (Y5 ((xs1.length:Int)>0) (fun JA=>?_) (fun JA=>?_))))
  ·refine Y6 3 (iw (Yd xs1) (ic [1] (Wg rd bs (p+1) (xs1.length:Int) (ZL:=ob)) ?_))
   rintro _ _ ⟨k2,rfl,rfl,Tf⟩
   have qhp12:=Tf.lt om
   obtain ⟨x1,Z3⟩:=Zs xs1 k2.toNat om
   have hcv:=hcal.2 _ (ZZ Z3)
   refine Zo (Zj none k2 1 (Y1 Z3)) (Z0 (aD 15 (ZH 8 15 [0,1,2,3,4,5,6] [3,3] ?_)))
   obtain ⟨x2,Zv⟩:=Zs g.funcs x1.toNat om
   have hso:=(hg.sigs _ (ZZ Zv)).bd
   refine dx 7 (W8 gb g.funcs.length 4 x1.toNat 5 x1) (Zl 6 7 [8] (U6 9 (Vl 1 gb 4 4 5 (x1.toNat * 5+0) (Zf (Xs rs)) [Z4 x2.params] 31 (Z4 x2.params) (UV Wt Zv 0 rfl (Vf rfl))) (Zl 4 5 [10] (da 11 (((b-1:Nat):Int)) (((b:Int))-(1)) (Z9 12 (dc 12 [0,0] [] [] (C7 rd bs ((p+1)+1) g gb rs vs x2.params (b-1) b (ZL:=ob) (hp:=(Cf (p:=p) (by first|omega|simp) hb om om)) (ht:=(by first|omega|simp)) (hb:=om) (ih:=ih)) ?_))))))
   rintro _ _ ⟨ys2,p29,rfl,rfl,QD⟩
   have hga1:=QD.1
   have hga2:=QD.2.1
   have hga3:=QD.2.2
   have hnc:=AI (b:=b) (show (ys2).length<=3 by rw [hga1];first|omega|simp) hb (Qj _ (b-1))
   rw [hga1] at hnc
   exact Z9 13 (Yo 13 [] [] [] (XS 9 x1 ys2) (Z9 14 (YK 14 2 [] [] b2 (YZ (Z2.mk 9 x1 ys2)) (de (ZD (r3 [1,1] [Y4 (Z2.mk 9 x1 ys2)] [0] [(b2,b2)] ⟨(Z2.mk 9 x1 ys2),p29,rfl,rfl,⟨GE.node om (fun _=>by omega) om hga2 hga1 (by first|omega|simp) (Ep (by first|omega|simp) hb (Qj _ _)),by omega⟩⟩ (lr _)))))))
  refine ak (Zw 5 [3] (ic [1,0] (Ow rd bs (p+1) g gb rs vs t b (ZL:=ob) (ih:=ih)) ?_))
  rintro _ _ ⟨e8,p210,rfl,rfl,Qo⟩
  have hgm:=Qo.1
  exact ZC 2 b2 (YZ e8) (ie (ZD (r3 [1,1] [Y4 e8] [0] [(b2,b2)] ⟨e8,p210,rfl,rfl,⟨hgm,by omega⟩⟩ (lr _))))
 refine ak (Zw 5 [2] (ic [0,2] (Ow rd bs (p+1) g gb rs vs t b (ZL:=ob) (ih:=ih)) ?_))
 rintro _ _ ⟨e9,p211,rfl,rfl,J6⟩
 have hgm:=J6.1
 exact ZC 2 b2 (YZ e9) (ie (ZD (r3 [1,1] [Y4 e9] [0] [(b2,b2)] ⟨e9,p211,rfl,rfl,⟨hgm,by omega⟩⟩ (lr _))))
theorem K1 (rd:Nat) (bs:LI) (p:Nat) (g:Wd) (gb:Nat) (rs:List Func) (vs:LI) (t:Int) (b:Nat) (ZL:∀z∈bs,0<=z/\z<=255) (hp:p+bC b<=1000000000:=by exact ob) (hg:GP g:=by exact ob) (Wt:g.funcs <+: rs:=by exact ob) (hv:vs.length+3*b<=900:=by exact ob):Zi 270 [.p rd 0,.agg (Wx g gb),Z4 vs,.i t,.i b] [Yz rd bs p,XQ gb rs] (fun r h=>∃(e:Z2) (p2:Nat),r=Y4 e/\h=[Yz rd bs p2,XQ gb rs]/\GE g vs.length (bS b) e/\p<=p2/\p2<=p+bC b):=by
 have key:∀k:Nat,∀(rd:Nat) (bs:LI) (p:Nat) (vs:LI) (t:Int) (b2:Nat),(∀z∈bs,0<=z/\z<=255)->(p+bC b2<=1000000000)->(vs.length+3*b2<=900)->(b2<k)->Zi 270 [.p rd 0,.agg (Wx g gb),Z4 vs,.i t,.i b2] [Yz rd bs p,XQ gb rs] (fun r h=>∃(e:Z2) (p2:Nat),r=Y4 e/\h=[Yz rd bs p2,XQ gb rs]/\GE g vs.length (bS b2) e/\p<=p2/\p2<=p+bC b2):=by
  intro k
  induction k with
  | zero=>intro rd bs p vs t b2 h1 h2 h3 h4;omega
  | succ k ih=>intro rd bs p vs t b2 h1 h2 h3 h4;exact Z7a rd bs p g gb rs vs t b2 h1 h2 hg Wt h3 fun rd bs p vs t b3 q1 q2 q3 q4=>ih rd bs p vs t b3 q1 q2 q3 om
 exact key (b+1) rd bs p vs t b ZL hp hv om
theorem Ov (rd:Nat) (bs:LI) (p:Nat) (g:Wd) (gb:Nat) (rs:List Func) (vs:LI) (t:Int) (b:Nat) (ZL:∀z∈bs,0<=z/\z<=255) (hp:p+40000<=1000000000:=by exact ob) (hg:GP g:=by exact ob) (Wt:g.funcs <+: rs:=by exact ob) (hv:vs.length+3*b<=900:=by exact ob) (hb:b<=20:=by exact ob):Zi 231 [.p rd 0,.agg (Wx g gb),Z4 vs,.i t,.i b] [Yz rd bs p,XQ gb rs] (fun r h=>∃(e:Z2) (p2:Nat),r=Y4 e/\h=[Yz rd bs p2,XQ gb rs]/\GE g vs.length 30 e/\p<=p2/\p2<=p+40000):=by
 have CY:=F4 hb
 refine ZG 34 Tryz.func231 (ar (iA (Wx g gb) fun b1=>iA [.i 0,.i 0,nl] fun b2=>ie (Zw 5 [1] (ic [2,2] (K1 rd bs p g gb rs vs t b (ZL:=ob)) ?_))))
 rintro _ _ ⟨e1,p21,rfl,rfl,ZY⟩
 have Xh:=ZY.1
 refine iA [.i 0,.i 0,nl] fun b3=>?_
 refine ZC 0 b3 (YZ e1) (ie (aq (ab 0 (Y3 (fun fz gz m F h=>∃(bq:Nat) (eQ:Z2) (pq:Nat),(GE g vs.length (bS bq) eQ)/\(bq<=b)/\(p<=pq/\pq+1900*bq<=p+1900*(b+1))/\F=sF [0,2,3,6,10,11] fz [(4,.i bq)]/\h=[.obj b3 (YZ eQ),Yz rd bs pq,Zd gz 2,Zd gz 3,Zd gz 4]/\m=bq+1) _ _ _ ⟨b,e1,p21,Xh,ob,ob,rfl,rfl,rfl⟩ (ZI 5 fl) ?_))))
 rintro m F h ⟨bq,eQ,pq,Ye,Zk,Zu,rfl,rfl,rfl⟩
 refine Yk 1 [0] (ic [] (OC eQ (hz:=(by have h1:=Ye.2;have h2:=(F4 (b:=bq) om).1;omega))) ?_)
 rintro _ _ ⟨w1,rfl,rfl,Yi⟩
 have Ed:=Yi
 have hq20:=F4 (b:=bq) om
 have hq21:=F4 (b:=bq / 2) om
 have Xo:=Ye.2
 refine Xr [0,2,3,4,6,10,11] [(24,.b ((decide (w1<0))&&(decide ((bq:Int)>2))))] (fun gz=>gz) ?_ ?_
 ·refine Z1 2 (ib (b:=(decide (w1<0))) 21 (fun Zb=>?_) (fun Zb=>?_))
  ·exact Z0 (ZI 5 (Zt (decide ((bq:Int)>2)) Zb fl))
  exact Z0 (ZI 5 (Zt false Zb fl))
 refine ac ((decide (w1<0))&&(decide ((bq:Int)>2))) (p:=(w1<0)/\((bq:Int)>2)) (YC dq dq) (fun Za=>?_) (fun Za=>?_)
 ·refine ak (ab 1 (Y6 1 (Zo (Ce bq 2 om om) (Z0 (az (ZM 5 [4] (ic [1,1] (K1 rd bs pq g gb rs vs t (bq / 2) (ZL:=ob)) ?_)))))))
  rintro _ _ ⟨e2,p22,rfl,rfl,Xc⟩
  have Xh:=Xc.1
  exact ZC 2 b3 (YZ e2) (ie (ZK ⟨(bq / 2),e2,p22,Xh,ob,ob,rfl,rfl,rfl⟩ (ZI 5 (fc (x:=.i (bq / 2:Nat)) li fl))))
 exact ax 0 (Zw 1 [0] (ZC 3 b2 (YZ eQ) (ie (ZD (r3 [2,2] [Y4 eQ] [0] [(b2,b2)] ⟨eQ,pq,rfl,rfl,⟨⟨Ye.1,by omega⟩,by omega⟩⟩ (lr _))))))
theorem Z7o (rd:Nat) (bs:LI) (p:Nat) (t:Int) (ZL:∀z∈bs,0<=z/\z<=255) (hp:p+14<=1000000000:=by exact ob):Zi 272 [.p rd 0,.i t] [Yz rd bs p] (fun r h=>∃(e:Z2) (p2:Nat),r=Y4 e/\h=[Yz rd bs p2]/\(∀g:Wd,SE g 9 e)/\p<=p2/\p2<=p+14):=by
 refine ZG 45 Tryz.func272 (ar (iA [.i 0,.i 0,nl] fun b1=>ie (ar (iL (Yv []) 0 3 fun v1=>ZU 0 [(10,XA [])] (Zx [] (XS 6 0 []) (iA [.i 0,.i 0,nl] fun b2=>ZC 0 b2 (YZ (Z2.mk 6 0 [])) (ie (X4 (YG (t==3) Zp (fun Za=>?_) (fun Za=>?_))))))))))
 ·refine ar (iL (Yv []) 0 3 fun v2=>ZU 0 [(14,XA [])] (Zx [] (XS 6 2 []) (iA [.i 0,.i 0,nl] fun b3=>?_)))
  refine ZC 0 b3 (YZ (Z2.mk 6 2 [])) (ie (aD 9 (ZH 6 9 [0,1,4] [0,0] (KY (fun fz gz F h=>∃(k1:Int) (b4:Nat),(Pk 9 k1)/\F=sF [0,4,6] fz [(7,.p b4 0)]/\h=[.obj b4 (YZ (Z2.mk 6 3 [Z2.mk 6 2 [],Z2.mk 0 k1 [],Z2.mk 6 2 []])),.obj rd [Up bs,.i (p+1:Nat)],Zd gz 0,Zd gz 1,Zd gz 2,Zd gz 3,Zd gz 4]) ?_ ?_))))
  ·refine VH 2 7 ?_ ?_
   ·refine dc 2 [5] [0,0] [b3,b3] (Wg rd bs p 9 (ZL:=ob)) ?_
    rintro _ _ ⟨k1,rfl,rfl,ZY⟩
    have qhp1:=ZY.lt om
    refine VH 3 7 ?_ ?_
    ·refine Yo 3 [] [1,1] [b3,b3] (Ax k1) (VH 5 7 ?_ ?_)
     ·refine WJ 5 [] [] [Y4 (Z2.mk 6 2 []),Y4 (Z2.mk 0 k1 []),Y4 (Z2.mk 6 2 [])] (Yv [Z2.mk 6 2 [],Z2.mk 0 k1 [],Z2.mk 6 2 []]) (XP [Z2.mk 6 2 [],Z2.mk 0 k1 [],Z2.mk 6 2 []]).symm 3 3 fun v3=>Yt 3 3 [] [(21,XA [Z2.mk 6 2 [],Z2.mk 0 k1 [],Z2.mk 6 2 []])] (VH 6 7 ?_ ?_)
      ·exact Yo 6 [] [] [] (XS 6 3 [Z2.mk 6 2 [],Z2.mk 0 k1 [],Z2.mk 6 2 []]) (Z9 7 (dA 7 [] [] [.i 0,.i 0,nl] fun b4=>Z9 8 (YK 8 0 [] [] b4 (YZ (Z2.mk 6 3 [Z2.mk 6 2 [],Z2.mk 0 k1 [],Z2.mk 6 2 []])) (de (ZT ⟨k1,b4,(by assumption),rfl,rfl⟩ (wk [0,1,1,1,1,1,1] fl))))))
      exact dA 7 [] [] [.i 0,.i 0,nl] fun b5=>Z9 6 (Yo 6 [] [] [] (XS 6 3 [Z2.mk 6 2 [],Z2.mk 0 k1 [],Z2.mk 6 2 []]) (Z9 8 (YK 8 0 [] [] b5 (YZ (Z2.mk 6 3 [Z2.mk 6 2 [],Z2.mk 0 k1 [],Z2.mk 6 2 []])) (de (ZT ⟨k1,b5,(by assumption),rfl,rfl⟩ (wk [0,1,1,1,1,1,1] fl))))))
     exact dA 7 [1,1] [b3,b3] [.i 0,.i 0,nl] fun b6=>Z9 5 (WJ 5 [] [] [Y4 (Z2.mk 6 2 []),Y4 (Z2.mk 0 k1 []),Y4 (Z2.mk 6 2 [])] (Yv [Z2.mk 6 2 [],Z2.mk 0 k1 [],Z2.mk 6 2 []]) (XP [Z2.mk 6 2 [],Z2.mk 0 k1 [],Z2.mk 6 2 []]).symm 3 3 fun v4=>Yt 2 2 [] [(21,XA [Z2.mk 6 2 [],Z2.mk 0 k1 [],Z2.mk 6 2 []])] (Z9 6 (Yo 6 [] [] [] (XS 6 3 [Z2.mk 6 2 [],Z2.mk 0 k1 [],Z2.mk 6 2 []]) (Z9 8 (YK 8 1 [] [] b6 (YZ (Z2.mk 6 3 [Z2.mk 6 2 [],Z2.mk 0 k1 [],Z2.mk 6 2 []])) (de (ZT ⟨k1,b6,(by assumption),rfl,rfl⟩ (wk [0,1,1,1,1,1,1] fl))))))))
    exact dA 7 [1,1] [b3,b3] [.i 0,.i 0,nl] fun b7=>Z9 3 (Yo 3 [] [2,2] [b3,b3] (Ax k1) (Z9 5 (WJ 5 [] [] [Y4 (Z2.mk 6 2 []),Y4 (Z2.mk 0 k1 []),Y4 (Z2.mk 6 2 [])] (Yv [Z2.mk 6 2 [],Z2.mk 0 k1 [],Z2.mk 6 2 []]) (XP [Z2.mk 6 2 [],Z2.mk 0 k1 [],Z2.mk 6 2 []]).symm 3 3 fun v5=>Yt 2 2 [] [(21,XA [Z2.mk 6 2 [],Z2.mk 0 k1 [],Z2.mk 6 2 []])] (Z9 6 (Yo 6 [] [] [] (XS 6 3 [Z2.mk 6 2 [],Z2.mk 0 k1 [],Z2.mk 6 2 []]) (Z9 8 (YK 8 1 [] [] b7 (YZ (Z2.mk 6 3 [Z2.mk 6 2 [],Z2.mk 0 k1 [],Z2.mk 6 2 []])) (de (ZT ⟨k1,b7,(by assumption),rfl,rfl⟩ (wk [0,1,1,1,1,1,1] fl))))))))))
   refine dA 7 [0,0] [b3,b3] [.i 0,.i 0,nl] fun b8=>Z9 2 (dc 2 [6] [1,1] [b3,b3] (Wg rd bs p 9 (ZL:=ob)) ?_)
   rintro _ _ ⟨k2,rfl,rfl,Yi⟩
   have qhp2:=Yi.lt om
   exact Z9 3 (Yo 3 [] [2,2] [b3,b3] (Ax k2) (Z9 5 (WJ 5 [] [] [Y4 (Z2.mk 6 2 []),Y4 (Z2.mk 0 k2 []),Y4 (Z2.mk 6 2 [])] (Yv [Z2.mk 6 2 [],Z2.mk 0 k2 [],Z2.mk 6 2 []]) (XP [Z2.mk 6 2 [],Z2.mk 0 k2 [],Z2.mk 6 2 []]).symm 3 3 fun v6=>Yt 2 2 [] [(21,XA [Z2.mk 6 2 [],Z2.mk 0 k2 [],Z2.mk 6 2 []])] (Z9 6 (Yo 6 [] [] [] (XS 6 3 [Z2.mk 6 2 [],Z2.mk 0 k2 [],Z2.mk 6 2 []]) (Z9 8 (YK 8 2 [] [] b8 (YZ (Z2.mk 6 3 [Z2.mk 6 2 [],Z2.mk 0 k2 [],Z2.mk 6 2 []])) (de (ZT ⟨k2,b8,(by assumption),rfl,rfl⟩ (wk [0,1,1,1,1,1,1] fl))))))))))
  rintro F h ⟨k1,b4,ZY,rfl,rfl⟩
  have qhp1:=ZY.lt om
  refine aD 8 (ZH 5 8 [0,1,4] [0,2] (Z9 2 (dc 2 [1] [1,0] [b3,b4] (Wg rd bs (p+1) 9 (ZL:=ob)) ?_)))
  rintro _ _ ⟨k3,rfl,rfl,YL⟩
  have qhp3:=YL.lt om
  exact Z9 3 (Yo 3 [] [2,1] [b3,b4] (Ax k3) (Z9 5 (WJ 5 [] [] [Y4 (Z2.mk 6 3 [Z2.mk 6 2 [],Z2.mk 0 k1 [],Z2.mk 6 2 []]),Y4 (Z2.mk 0 k3 []),Y4 (Z2.mk 6 2 [])] (Yv [Z2.mk 6 3 [Z2.mk 6 2 [],Z2.mk 0 k1 [],Z2.mk 6 2 []],Z2.mk 0 k3 [],Z2.mk 6 2 []]) (XP [Z2.mk 6 3 [Z2.mk 6 2 [],Z2.mk 0 k1 [],Z2.mk 6 2 []],Z2.mk 0 k3 [],Z2.mk 6 2 []]).symm 3 3 fun v7=>Yt 2 2 [] [(28,XA [Z2.mk 6 3 [Z2.mk 6 2 [],Z2.mk 0 k1 [],Z2.mk 6 2 []],Z2.mk 0 k3 [],Z2.mk 6 2 []])] (Z9 6 (Yo 6 [] [] [] (XS 6 3 [Z2.mk 6 3 [Z2.mk 6 2 [],Z2.mk 0 k1 [],Z2.mk 6 2 []],Z2.mk 0 k3 [],Z2.mk 6 2 []]) (Z9 7 (YK 7 7 [] [] b1 (YZ (Z2.mk 6 3 [Z2.mk 6 3 [Z2.mk 6 2 [],Z2.mk 0 k1 [],Z2.mk 6 2 []],Z2.mk 0 k3 [],Z2.mk 6 2 []])) (de (ZD (r3 [2] [Y4 (Z2.mk 6 3 [Z2.mk 6 3 [Z2.mk 6 2 [],Z2.mk 0 k1 [],Z2.mk 6 2 []],Z2.mk 0 k3 [],Z2.mk 6 2 []])] [0] [(b1,b1)] ⟨(Z2.mk 6 3 [Z2.mk 6 3 [Z2.mk 6 2 [],Z2.mk 0 k1 [],Z2.mk 6 2 []],Z2.mk 0 k3 [],Z2.mk 6 2 []]),(p+1)+1,rfl,rfl,⟨fun g=>SE.three (s1:=4) (s2:=1) (s3:=1) om om (SE.three (s1:=1) (s2:=1) (s3:=1) om om (SE.nil om om om) (SE.int om om) (SE.nil om om om) om) (SE.int om om) (SE.nil om om om) om,by omega⟩⟩ (lr _)))))))))))
 refine ak (Zw 1 [0] (iA [.i 0,.i 0,nl] fun b9=>ZC 0 b9 (YZ (Z2.mk 6 0 [])) (ie (YO 1 (ic [4] (Wg rd bs p 3 (ZL:=ob)) ?_)))))
 rintro _ _ ⟨k4,rfl,rfl,YP⟩
 have qhp4:=YP.lt om
 refine ia ((1+k4)) ((1)+(k4)) (Z0 (ab 0 (Y3 (fun fz gz m F h=>∃(j:Int) (eQ:Z2) (pq:Nat),(0<=j/\j<=3)/\(∀g:Wd,SE g (7-2*j.toNat) eQ)/\(p+1<=pq/\pq+4*j.toNat<=p+13)/\F=sF [0,4,8] fz [(9,.i j)]/\h=[Yz rd bs pq,.obj b9 (YZ eQ),Zd gz 4]/\m=j.toNat) _ _ _ ⟨(1+k4),(Z2.mk 6 0 []),p+1,ob,(fun g=>SE.nil om om om),ob,rfl,rfl,rfl⟩ (wk [0,0,2] fl) ?_)))
 rintro m F h ⟨j,eQ,pq,Ye,Zk,Zu,rfl,rfl,rfl⟩
 refine X4 (Y5 (j>0) (fun Zh=>?_) (fun Zh=>?_))
 ·refine ak (aq (ab 1 (aE 7 (ZH 5 7 [0,3] [1] (Z9 1 (dc 1 [0] [0] [b9] (OE rd bs pq (ZL:=ob)) ?_))))))
  rintro _ _ ⟨z1,rfl,rfl,Xc⟩
  have hz:=Xc
  exact Z9 2 (Yo 2 [] [1] [b9] (Ax z1) (Z9 4 (WJ 4 [] [] [Y4 (Z2.mk 0 z1 []),Y4 eQ] (Yv [Z2.mk 0 z1 [],eQ]) (XP [Z2.mk 0 z1 [],eQ]).symm 2 3 fun v8=>Yt 2 2 [] [(42,XA [Z2.mk 0 z1 [],eQ])] (Z9 5 (Yo 5 [] [] [] (XS 6 1 [Z2.mk 0 z1 [],eQ]) (Z9 6 (YK 6 2 [] [] b9 (YZ (Z2.mk 6 1 [Z2.mk 0 z1 [],eQ])) (de (az (Z1 1 (ia ((j-1)) ((j)-(1)) (Z0 (ZK ⟨(j-1),(Z2.mk 6 1 [Z2.mk 0 z1 [],eQ]),pq+4,ob,(fun g=>SE.two om om (SE.int (q:=1) om om) (Zk g) om),ob,rfl,rfl,rfl⟩ (wk [2,0,1] fl))))))))))))))
 exact ax 0 (Zw 1 [1] (ZC 2 b1 (YZ eQ) (ie (ZD (r3 [1] [Y4 eQ] [0] [(b1,b1)] ⟨eQ,pq,rfl,rfl,⟨fun g=>(⟨(Zk g).1,by have:=(Zk g).2;omega⟩:SE g 9 _),by omega⟩⟩ (lr _))))))
theorem Z7r (rd:Nat) (bs:LI) (p:Nat) (g:Wd) (gb:Nat) (rs:List Func) (ZL:∀z∈bs,0<=z/\z<=255) (hp:p+1600<=1000000000:=by exact ob) (hg:GP g:=by exact ob) (Wt:g.funcs <+: rs:=by exact ob):Zi 227 [.p rd 0,.agg (Wx g gb)] [Yz rd bs p,XQ gb rs] (fun r h=>∃(e:Z2) (p2:Nat),r=Y4 e/\h=[Yz rd bs p2,XQ gb rs]/\GE g 0 200 e/\p<=p2/\p2<=p+1600):=by
 have hbv:=DJ
 refine ZG 27 Tryz.func227 (ar (iA (Wx g gb) fun b1=>iA [.i 0,.i 0,nl] fun b2=>ie (Y6 1 (iL (Z7 [1,1,3]) 3 1 fun v1=>ZU 0 [(8,Z4 [1,1,3])] (ic [3] (U0 rd bs p [1,1,3] (ZL:=ob)) ?_)))))
 rintro _ _ ⟨z1,rfl,rfl,ZY⟩
 have hz:=Bu (a:=1) (b:=3) ZY (by decide)
 refine Z0 (Zw 3 [3] (iL (Z7 [z1]) 1 1 fun v2=>ZU 0 [(13,Z4 [z1])] (ic [1,4] (K1 rd bs (p+1) g gb rs [z1] 0 16 (ZL:=ob) (hv:=(by simp))) ?_)))
 rintro _ _ ⟨e1,p21,rfl,rfl,Yi⟩
 have Xh:=Yi.1
 have K5:=Yi.2
 rw [hbv.2.2.2.1] at Xh
 refine iA [.i 0,.i 0,nl] fun b3=>ZC 0 b3 (YZ e1) (ie (YO 1 (ic [1] (Wg rd bs p21 3 (ZL:=ob)) ?_)))
 rintro _ _ ⟨k1,rfl,rfl,YL⟩
 have qhp3:=YL.lt om
 refine Z0 (XR (fun fz gz F h=>∃(eQ:Z2),(GE g 1 151 eQ)/\F=sF [0,4,5,6] fz []/\h=[Zd gz 0,.obj b3 (YZ eQ),Zd gz 2,Zd gz 5]) ?_ ?_)
 ·refine ac (k1==0) Zp (fun Za=>?_) (fun Za=>?_)
  ·exact az (ZM 1 [1] (UZ [Y4 e1] (Yv [e1]) (XP [e1]).symm 1 3 fun v3=>ZU 0 [(19,XA [e1])] (Zx [] (XS 5 0 [e1]) (ZC 2 b3 (YZ (Z2.mk 5 0 [e1])) (ie (ZT ⟨(Z2.mk 5 0 [e1]),(GE.one om om Xh om),rfl,rfl⟩ (wk [2,0,1,3] fl)))))))
  exact ak (ZT ⟨e1,(GE.le Xh om),rfl,rfl⟩ (wk [0,0,0,2] fl))
 rintro F h ⟨eQ,J7,rfl,rfl⟩
 refine aD 7 (ZH 4 7 [0,1,3] [1] (Z9 2 (dc 2 [0] [0] [b3] (Z7o rd bs (p21+1) z1 (ZL:=ob)) ?_)))
 rintro _ _ ⟨e2,p22,rfl,rfl,YP⟩
 have hli:=YP.1
 exact Z9 4 (WJ 4 [] [] [Y4 e2,Y4 eQ] (Yv [e2,eQ]) (XP [e2,eQ]).symm 2 3 fun v4=>Yt 2 2 [] [(25,XA [e2,eQ])] (Z9 5 (Yo 5 [] [] [] (XS 13 0 [e2,eQ]) (Z9 6 (YK 6 4 [] [] b2 (YZ (Z2.mk 13 0 [e2,eQ])) (de (ZD (r3 [2,3] [Y4 (Z2.mk 13 0 [e2,eQ])] [0] [(b2,b2)] ⟨(Z2.mk 13 0 [e2,eQ]),p22,rfl,rfl,⟨GE.letS ((hli g).ge (X3 _)) J7 om,by omega⟩⟩ (lr _)))))))))
theorem Z7z (rd:Nat) (bs:LI) (p:Nat) (g:Wd) (gb:Nat) (rs:List Func) (f:Func) (i:Int) (w:Int) (ZL:∀z∈bs,0<=z/\z<=255) (hp:p+1000<=1000000000:=by exact ob) (hg:GP g:=by exact ob) (Wt:g.funcs <+: rs:=by exact ob) (hi:0<=i:=by exact ob) (hf:g.funcs[i.toNat]? = some f:=by exact ob) (hw:0<=w/\w<f.params.length:=by exact ob):Zi 228 [.p rd 0,.agg (Wx g gb),.i i,.i w] [Yz rd bs p,XQ gb rs] (fun r h=>∃(e:Z2) (p2:Nat),r=Y4 e/\h=[Yz rd bs p2,XQ gb rs]/\GE g f.params.length 200 e/\p<=p2/\p2<=p+1000):=by
 obtain ⟨hil,_⟩:=Xk.1 hf
 have hgl:=hg.len
 have hso:=(hg.sigs f (ZZ hf)).bd
 have hbv:=DJ
 refine ZG 136 Tryz.func228 (ar (iA (Wx g gb) fun b1=>iA [.i 0,.i 0,nl] fun b2=>ie (Zw 3 [1] (Zo (W8 gb g.funcs.length 4 i.toNat 5 i) (Z1 1 (V2 (Vl 3 gb 4 4 5 (i.toNat * 5+0) (Zf (Xs rs)) [Z4 f.params] 31 (Z4 f.params) (UV Wt hf 0 rfl (Vf rfl))) (Z0 (Y6 1 (iw (Yd f.params) (Z0 (Y6 1 (iL (Z7 [0,1]) 2 1 fun v1=>ZU 0 [(26,Z4 [0,1])] (ic [] (Kh f.params [0,1]) ?_)))))))))))))
 rintro _ _ ⟨v2,rfl,rfl⟩
 refine Z0 (ar (iL (Yv []) 0 3 fun v3=>?_))
 refine Z0 (Yg (ab 0 (Y3 (fun fz gz m F h=>∃(k:Nat) (ys:List Z2) (u:Value) (pq:Nat),(k<=f.params.length)/\(ys.length=k)/\(∀e∈ys,GE g (f.params.length+2) 3 e)/\(p<=pq/\pq<=p+k)/\F=sF [0,2,3,5,8,9,10] fz [(11,Z4 (f.params++[0,1])),(12,QI ys u),(13,.i k)]/\h=[Zd gz 3,Zd gz 4,Yz rd bs pq,Zd gz 6,.tail u 3]/\m=f.params.length-k) _ _ _ ⟨0,[],v3,p,ob,ob,(fun e he=>by cases he),ob,rfl,rfl,rfl⟩ (wk [3,3,3,3,0] (fc (x:=ZQ (f.params++[0,1]) v2) (Zc.forget _ _) (fr (Yb fl)))) ?_)))
 rintro m F h ⟨k,ys,u,pq,Ye,Zk,Zu,Yu,rfl,rfl,rfl⟩
 refine X4 (Y5 ((k:Int)<(f.params.length:Int)) (fun Za=>?_) (fun Za=>?_))
 ·refine ak (aq (ab 1 (ar (YG ((k:Int)==w) Zp (fun Zh=>?_) (fun Zh=>?_)))))
  ·exact az (Z1 2 (ia (((f.params.length+1:Nat):Int)) (((f.params.length:Int))+(1)) (Zx [] (Qm ((f.params.length+1:Nat):Int)) (UZ [Y4 (Z2.mk 12 ((f.params.length+1:Nat):Int) [])] (Yv [(Z2.mk 12 ((f.params.length+1:Nat):Int) [])]) (XP [(Z2.mk 12 ((f.params.length+1:Nat):Int) [])]).symm 1 3 fun v4=>ZU 0 [(41,XA [(Z2.mk 12 ((f.params.length+1:Nat):Int) [])])] (ip 5 (Yv (ys++[(Z2.mk 12 ((f.params.length+1:Nat):Int) [])])) (Yv ys) (Yv [(Z2.mk 12 ((f.params.length+1:Nat):Int) [])]) u none 3 (Tx _) (Tx _) (JX _) (by simp<;>omega) (by simp [JW,Yv]) fun v5=>Z0 (az (Z1 1 (ZJ k (Z0 (ZK ⟨k+1,(ys++[(Z2.mk 12 ((f.params.length+1:Nat):Int) [])]),v5,pq,ob,ob,(XE Zu (GE.var om om om)),ob,rfl,rfl,rfl⟩ (wk [2,2,2,2,0] (fw (ZO k fl)))))))))))))
  refine aq (XR (fun fz gz F h=>∃(wb:Bool) (p5:Nat),(pq<=p5/\p5<=pq+1)/\F=sF [0,2,3,5,8,9,10,11,12,13] fz [(52,.b wb)]/\h=[Zd gz 0,Zd gz 1,Yz rd bs p5,Zd gz 3,Zd gz 4]) ?_ ?_)
  ·refine az (Z1 2 ?_)
   obtain ⟨x1,Z3⟩:=Zs f.params k om
   refine Zo (Zj none (k:Int) 1 (Y1 Z3)) (Z1 3 (ib (b:=(x1==0)) 48 (fun Zb=>?_) (fun Zb=>?_)))
   ·refine Z1 1 (ic [2] (Wg rd bs pq 2 (ZL:=ob)) ?_)
    rintro _ _ ⟨k1,rfl,rfl,Yi⟩
    have qhp2:=Yi.lt om
    exact Z0 (ZT ⟨(k1==0),pq+1,om,rfl,rfl⟩ (wk [1,1,0,0,0] fl))
   exact Z0 (ZT ⟨false,pq,ob,rfl,rfl⟩ (ZI 5 fl))
  rintro F h ⟨wb,p5,kR10_0,rfl,rfl⟩
  refine ac wb Iff.rfl (fun ZE=>?_) (fun ZE=>?_)
  ·exact az (Z1 2 (Zx [] (Qm (k:Int)) (Z1 1 (Zx [] (Qm (f.params.length:Int)) (UZ [Y4 (Z2.mk 12 (k:Int) []),Y4 (Z2.mk 12 (f.params.length:Int) [])] (Yv [(Z2.mk 12 (k:Int) []),(Z2.mk 12 (f.params.length:Int) [])]) (XP [(Z2.mk 12 (k:Int) []),(Z2.mk 12 (f.params.length:Int) [])]).symm 2 3 fun v6=>ZU 0 [(58,XA [(Z2.mk 12 (k:Int) []),(Z2.mk 12 (f.params.length:Int) [])])] (Zx [] (XS 1 0 [(Z2.mk 12 (k:Int) []),(Z2.mk 12 (f.params.length:Int) [])]) (UZ [Y4 (Z2.mk 1 0 [(Z2.mk 12 (k:Int) []),(Z2.mk 12 (f.params.length:Int) [])])] (Yv [(Z2.mk 1 0 [(Z2.mk 12 (k:Int) []),(Z2.mk 12 (f.params.length:Int) [])])]) (XP [(Z2.mk 1 0 [(Z2.mk 12 (k:Int) []),(Z2.mk 12 (f.params.length:Int) [])])]).symm 1 3 fun v7=>ZU 0 [(60,XA [(Z2.mk 1 0 [(Z2.mk 12 (k:Int) []),(Z2.mk 12 (f.params.length:Int) [])])])] (ip 6 (Yv (ys++[(Z2.mk 1 0 [(Z2.mk 12 (k:Int) []),(Z2.mk 12 (f.params.length:Int) [])])])) (Yv ys) (Yv [(Z2.mk 1 0 [(Z2.mk 12 (k:Int) []),(Z2.mk 12 (f.params.length:Int) [])])]) u none 3 (Tx _) (Tx _) (JX _) (by simp<;>omega) (by simp [JW,Yv]) fun v8=>Z0 (az (Z1 1 (ZJ k (Z0 (ZK ⟨k+1,(ys++[(Z2.mk 1 0 [(Z2.mk 12 (k:Int) []),(Z2.mk 12 (f.params.length:Int) [])])]),v8,p5,ob,ob,(XE Zu (GE.two (s1:=1) (s2:=1) om om (GE.var om om om) (GE.var om om om) om)),ob,rfl,rfl,rfl⟩ (wk [3,3,3,3,0] (fw (ZO k fl))))))))))))))))
  exact az (Z1 2 (Zx [] (Qm (k:Int)) (UZ [Y4 (Z2.mk 12 (k:Int) [])] (Yv [(Z2.mk 12 (k:Int) [])]) (XP [(Z2.mk 12 (k:Int) [])]).symm 1 3 fun v9=>ZU 0 [(65,XA [(Z2.mk 12 (k:Int) [])])] (ip 5 (Yv (ys++[(Z2.mk 12 (k:Int) [])])) (Yv ys) (Yv [(Z2.mk 12 (k:Int) [])]) u none 3 (Tx _) (Tx _) (JX _) (by simp<;>omega) (by simp [JW,Yv]) fun v10=>Z0 (az (Z1 1 (ZJ k (Z0 (ZK ⟨k+1,(ys++[(Z2.mk 12 (k:Int) [])]),v10,p5,ob,ob,(XE Zu (GE.var om om om)),ob,rfl,rfl,rfl⟩ (wk [2,2,2,2,0] (fw (ZO k fl))))))))))))
 refine ax 0 (ar (ZU 2 [(68,XA ys)] (Zx [] (XS 9 i ys) (iA [.i 0,.i 0,nl] fun b3=>ZC 0 b3 (YZ (Z2.mk 9 i ys)) (ie (Zw 1 [0] (iA [.i 0,.i 0,nl] fun b4=>?_)))))))
 refine ZC 0 b4 (YZ (Z2.mk 9 i ys)) (ie (aq (aq (XR (fun fz gz F h=>∃(wb:Bool) (p5:Nat),(pq<=p5/\p5<=pq+1)/\F=sF [0,2,3,5,8,9,10,11,14,15] fz [(82,.b wb)]/\h=[Zd gz 0,Zd gz 1,Zd gz 2,Zd gz 3,Yz rd bs p5,Zd gz 5]) ?_ ?_))))
 ·refine az (ZM 3 [3] (Zo (W8 gb g.funcs.length 4 i.toNat 5 i) (Z1 1 (V2 (Vl 5 gb 4 4 5 (i.toNat * 5+1) (Zf (Xs rs)) [.i f.result] 3 (.i f.result) (UV Wt hf 1 rfl (Vf rfl))) (Z1 2 (ib (b:=(f.result==1)) 78 (fun ZB=>?_) (fun ZB=>?_)))))))
  ·refine Z1 1 (ic [4] (Wg rd bs pq 5 (ZL:=ob)) ?_)
   rintro _ _ ⟨k2,rfl,rfl,Xc⟩
   have qhp5:=Xc.lt om
   exact Z0 (ZT ⟨(decide (k2>0)),pq+1,ob,rfl,rfl⟩ (wk [1,1,1,1,0,0] fl))
  exact Z0 (ZT ⟨false,pq,ob,rfl,rfl⟩ (ZI 6 fl))
 rintro F h ⟨wb,p5,kR15_0,rfl,rfl⟩
 refine XR (fun fz gz F h=>∃(eQ:Z2) (p6:Nat),(GE g (f.params.length+2) 41 eQ)/\(p5<=p6/\p6<=p5+302)/\F=sF [0,2,3,5,8,9,15] fz []/\h=[.obj b4 (YZ eQ),Zd gz 2,Zd gz 3,Yz rd bs p6,Zd gz 5]) ?_ ?_
 ·refine ac wb Iff.rfl (fun Yf=>?_) (fun Yf=>?_)
  ·refine Zw 3 [3] (ic [4,4] (K1 rd bs p5 g gb rs (f.params++[0,1]) 0 4 (ZL:=ob) (hv:=(by first|omega|(simp only [Yr,YS,Xw];omega)))) ?_)
   rintro _ _ ⟨e1,p21,rfl,rfl,Wy⟩
   have Xh:=Wy.1
   have K5:=Wy.2
   try rw [Yr] at Xh
   rw [hbv.2.1] at Xh
   refine iA [.i 0,.i 0,nl] fun b5=>?_
   refine ZC 0 b5 (YZ e1) (ie (aq (aq (XR (fun fz gz F h=>∃(wc:Bool),(True)/\F=sF [0,2,3,5,8,9,10,14,15,16] fz [(94,.b wc)]/\h=gz) ?_ ?_))))
   ·refine az (Z1 3 (ib (b:=(decide ((f.params.length:Int)>1))) 89 (fun Yy=>?_) (fun Yy=>?_)))
    ·refine Z1 1 ?_
     obtain ⟨x2,Zv⟩:=Zs f.params 0 om
     exact Zo (Zj none 0 1 (Y1 Zv)) (Z0 (ZT ⟨(x2==2),ob,rfl,rfl⟩ (ZI 7 fl)))
    exact Z0 (ZT ⟨false,ob,rfl,rfl⟩ (ZI 7 fl))
   rintro F h ⟨wc,kR17_0,rfl,rfl⟩
   refine XR (fun fz gz F h=>∃(eA:Z2),(GE g (f.params.length+2) 30 eA)/\F=sF [0,2,3,5,8,9,14,15,16] fz []/\h=[.obj b5 (YZ eA),Zd gz 1,Zd gz 2,Zd gz 3,Zd gz 4,Zd gz 5,Zd gz 6]) ?_ ?_
   ·refine ac wc Iff.rfl (fun Xb=>?_) (fun Xb=>?_)
    ·exact az (Zx [] (Qm 0) (Z1 1 (Zx [] (Qm (f.params.length:Int)) (UZ [Y4 (Z2.mk 12 0 []),Y4 (Z2.mk 12 (f.params.length:Int) [])] (Yv [Z2.mk 12 0 [],(Z2.mk 12 (f.params.length:Int) [])]) (XP [Z2.mk 12 0 [],(Z2.mk 12 (f.params.length:Int) [])]).symm 2 3 fun v11=>ZU 0 [(98,XA [Z2.mk 12 0 [],(Z2.mk 12 (f.params.length:Int) [])])] (Zx [] (XS 11 0 [Z2.mk 12 0 [],(Z2.mk 12 (f.params.length:Int) [])]) (ZC 1 b5 (YZ (Z2.mk 11 0 [Z2.mk 12 0 [],(Z2.mk 12 (f.params.length:Int) [])])) (ie (ZT ⟨(Z2.mk 11 0 [Z2.mk 12 0 [],(Z2.mk 12 (f.params.length:Int) [])]),(GE.two (s1:=1) (s2:=1) om om (GE.var om om om) (GE.var om om om) om),rfl,rfl⟩ (wk [0,1,1,1,1,1,1] fl)))))))))
    exact ak (ZT ⟨e1,Xh,rfl,rfl⟩ (ZI 7 fl))
   rintro F h ⟨eA,Zao,rfl,rfl⟩
   exact az (ZM 2 [0,4] (UZ [Y4 eA,Y4 (Z2.mk 9 i ys)] (Yv [eA,Z2.mk 9 i ys]) (XP [eA,Z2.mk 9 i ys]).symm 2 3 fun v12=>ZU 0 [(102,XA [eA,Z2.mk 9 i ys])] (Zx [] (XS 6 1 [eA,Z2.mk 9 i ys]) (ZC 4 b4 (YZ (Z2.mk 6 1 [eA,Z2.mk 9 i ys])) (ie (ZT ⟨(Z2.mk 6 1 [eA,Z2.mk 9 i ys]),p21,(GE.two (s1:=30) (s2:=10) om om Zao (GE.node (L:=f.params.length) (s:=3) (q:=10) om (fun _=>by omega) om Zu om om om) om),ob,rfl,rfl⟩ (wk [0,5,5,2,2] fl)))))))
  refine Zw 3 [3] (Zo (W8 gb g.funcs.length 4 i.toNat 5 i) (Z1 1 (V2 (Vl 5 gb 4 4 5 (i.toNat * 5+1) (Zf (Xs rs)) [.i f.result] 3 (.i f.result) (UV Wt hf 1 rfl (Vf rfl))) (YG (f.result==0) Zp (fun Xg=>?_) (fun Xg=>?_)))))
  ·refine aE 11 (ZH 6 11 [0,3,4,5,7] [3,1] (Z9 1 (dL 1 [1,3] [b3,b1] (Z7 [1,2]) 2 1 fun v13=>Yt 5 5 [] [(112,Z4 [1,2])] (Z9 2 (dc 2 [5] [1,3] [b3,b1] (U0 rd bs p5 [1,2] (ZL:=ob)) ?_)))))
   rintro _ _ ⟨z1,rfl,rfl,UY⟩
   have hz:=Bu (a:=1) (b:=2) UY (by decide)
   refine Z9 6 (dc 6 [0,5] [1] [b3] (K1 rd bs (p5+1) g gb rs (f.params++[0,1]) 0 4 (ZL:=ob) (hv:=(by first|omega|(simp only [Yr,YS,Xw];omega)))) ?_)
   rintro _ _ ⟨e2,p22,rfl,rfl,Te⟩
   have Xh:=Te.1
   have K5:=Te.2
   try rw [Yr] at Xh
   rw [hbv.2.1] at Xh
   exact Z9 8 (WJ 8 [] [] [Y4 e2,Y4 (Z2.mk 9 i ys)] (Yv [e2,Z2.mk 9 i ys]) (XP [e2,Z2.mk 9 i ys]).symm 2 3 fun v14=>Yt 2 2 [] [(119,XA [e2,Z2.mk 9 i ys])] (Z9 9 (Yo 9 [] [] [] (XS z1 0 [e2,Z2.mk 9 i ys]) (Z9 10 (YK 10 4 [] [] b4 (YZ (Z2.mk z1 0 [e2,Z2.mk 9 i ys])) (de (ZT ⟨(Z2.mk z1 0 [e2,Z2.mk 9 i ys]),p22,(GE.two (s1:=30) (s2:=10) om om Xh (GE.node (L:=f.params.length) (s:=3) (q:=10) om (fun _=>by omega) om Zu om om om) om),ob,rfl,rfl⟩ (wk [0,5,5,1,1] fl))))))))
  exact ak (ZT ⟨(Z2.mk 9 i ys),p5,(GE.le (GE.node (L:=f.params.length) (s:=3) (q:=10) om (fun _=>by omega) om Zu om om om) om),ob,rfl,rfl⟩ (wk [0,1,1,1,1] fl))
 rintro F h ⟨eQ,p6,K8,Zan,rfl,rfl⟩
 refine aD 16 (ZH 9 16 [0,2,3,4,5,6,7] [2,2] (dx 8 (W8 gb g.funcs.length 4 i.toNat 5 i) (Zl 7 8 [9] (U6 10 (Vl 4 gb 4 4 5 (i.toNat * 5+1) (Zf (Xs rs)) [.i f.result] 3 (.i f.result) (UV Wt hf 1 rfl (Vf rfl))) (ZH 5 6 [12] [0] (Z9 1 (Yo 1 [] [0,4,2,2] [b4,gb,b1,b1] (Qm w) (Z9 11 (dc 11 [3,3] [0] [b4] (K1 rd bs p6 g gb rs f.params f.result 4 (ZL:=ob) (hv:=(by first|omega|(simp only [Yr,YS,Xw];omega)))) ?_)))))))))
 rintro _ _ ⟨e3,p23,rfl,rfl,Tf⟩
 have Xh:=Tf.1
 have K5:=Tf.2
 try rw [Yr] at Xh
 rw [hbv.2.1] at Xh
 exact Z9 13 (WJ 13 [] [] [Y4 (Z2.mk 12 w []),Y4 e3,Y4 eQ] (Yv [Z2.mk 12 w [],e3,eQ]) (XP [Z2.mk 12 w [],e3,eQ]).symm 3 3 fun v15=>Yt 2 2 [] [(134,XA [Z2.mk 12 w [],e3,eQ])] (Z9 14 (Yo 14 [] [] [] (XS 8 1 [Z2.mk 12 w [],e3,eQ]) (Z9 15 (YK 15 4 [] [] b2 (YZ (Z2.mk 8 1 [Z2.mk 12 w [],e3,eQ])) (de (ZD (r3 [2,2] [Y4 (Z2.mk 8 1 [Z2.mk 12 w [],e3,eQ])] [0] [(b2,b2)] ⟨(Z2.mk 8 1 [Z2.mk 12 w [],e3,eQ]),p23,rfl,rfl,⟨GE.matchL hg (s1:=1) (s2:=30) (s3:=41) (GE.var om om om) Xh K8 om,by omega⟩⟩ (lr _)))))))))
theorem Z80 (rd:Nat) (bs:LI) (p:Nat) (g:Wd) (gb:Nat) (rs:List Func) (f:Func) (i:Int) (ZL:∀z∈bs,0<=z/\z<=255) (hp:p+1000<=1000000000:=by exact ob) (hg:GP g:=by exact ob) (Wt:g.funcs <+: rs:=by exact ob) (hi:0<=i:=by exact ob) (hf:g.funcs[i.toNat]? = some f:=by exact ob) (h0:0<f.params.length:=by exact ob):Zi 229 [.p rd 0,.agg (Wx g gb),.i i] [Yz rd bs p,XQ gb rs] (fun r h=>∃(e:Z2) (p2:Nat),r=Y4 e/\h=[Yz rd bs p2,XQ gb rs]/\GE g f.params.length 200 e/\p<=p2/\p2<=p+1000):=by
 obtain ⟨hil,_⟩:=Xk.1 hf
 have hgl:=hg.len
 have hso:=(hg.sigs f (ZZ hf)).bd
 have hbv:=DJ
 refine ZG 96 Tryz.func229 (ar (iA (Wx g gb) fun b1=>iA [.i 0,.i 0,nl] fun b2=>ie (Zw 3 [1] (Zo (W8 gb g.funcs.length 4 i.toNat 5 i) (Z1 1 (V2 (Vl 3 gb 4 4 5 (i.toNat * 5+0) (Zf (Xs rs)) [Z4 f.params] 31 (Z4 f.params) (UV Wt hf 0 rfl (Vf rfl))) (Z0 (Y6 1 (iw (Yd f.params) (Z0 (Y6 1 (Zx [] (Qm (f.params.length:Int)) (UZ [Y4 (Z2.mk 12 (f.params.length:Int) [])] (Yv [(Z2.mk 12 (f.params.length:Int) [])]) (XP [(Z2.mk 12 (f.params.length:Int) [])]).symm 1 3 fun v1=>Z0 (Y6 1 (ia (((f.params.length+2:Nat):Int)) (((f.params.length:Int))+(2)) (Zx [] (Qm ((f.params.length+2:Nat):Int)) (UZ [Y4 (Z2.mk 12 ((f.params.length+2:Nat):Int) [])] (Yv [(Z2.mk 12 ((f.params.length+2:Nat):Int) [])]) (XP [(Z2.mk 12 ((f.params.length+2:Nat):Int) [])]).symm 1 3 fun v2=>?_)))))))))))))))))
 refine Z0 (Yg (ab 0 (Y3 (fun fz gz m F h=>∃(k:Nat) (ys:List Z2) (u:Value) (zs:List Z2) (w:Value),(1<=k/\k<=f.params.length)/\(ys.length=k)/\(zs.length=k)/\(∀e∈ys,GE g (f.params.length+3) 1 e)/\(∀e∈zs,GE g (f.params.length+3) 1 e)/\F=sF [0,2,4,6,7,8] fz [(9,QI ys u),(10,QI zs w),(11,.i k)]/\h=[Zd gz 2,Zd gz 3,Zd gz 4,Zd gz 5,.tail u 3,.tail w 3]/\m=f.params.length-k) _ _ _ ⟨1,[(Z2.mk 12 (f.params.length:Int) [])],v1,[(Z2.mk 12 ((f.params.length+2:Nat):Int) [])],v2,ob,ob,ob,(HH (GE.var om om om)),(HH (GE.var om om om)),rfl,rfl,rfl⟩ (wk [2,2,2,2,1,0] (fw (fc (x:=.i 1) li fl))) ?_)))
 rintro m F h ⟨k,ys,u,zs,w,Ye,Zk,Zu,Yu,XX,rfl,rfl,rfl⟩
 refine X4 (Y5 ((k:Int)<(f.params.length:Int)) (fun Za=>?_) (fun Za=>?_))
 ·exact ak (aq (ab 1 (Y6 2 (Zx [] (Qm (k:Int)) (UZ [Y4 (Z2.mk 12 (k:Int) [])] (Yv [(Z2.mk 12 (k:Int) [])]) (XP [(Z2.mk 12 (k:Int) [])]).symm 1 3 fun v3=>ZU 0 [(38,XA [(Z2.mk 12 (k:Int) [])])] (ip 5 (Yv (ys++[(Z2.mk 12 (k:Int) [])])) (Yv ys) (Yv [(Z2.mk 12 (k:Int) [])]) u none 3 (Tx _) (Tx _) (JX _) (by simp<;>omega) (by simp [JW,Yv]) fun v4=>Z0 (az (Z1 2 (Zx [] (Qm (k:Int)) (UZ [Y4 (Z2.mk 12 (k:Int) [])] (Yv [(Z2.mk 12 (k:Int) [])]) (XP [(Z2.mk 12 (k:Int) [])]).symm 1 3 fun v5=>ZU 0 [(43,XA [(Z2.mk 12 (k:Int) [])])] (ip 7 (Yv (zs++[(Z2.mk 12 (k:Int) [])])) (Yv zs) (Yv [(Z2.mk 12 (k:Int) [])]) w none 3 (Tx _) (Tx _) (JX _) (by simp<;>omega) (by simp [JW,Yv]) fun v6=>Z0 (az (Z1 1 (ZJ k (Z0 (ZK ⟨k+1,(ys++[(Z2.mk 12 (k:Int) [])]),v4,(zs++[(Z2.mk 12 (k:Int) [])]),v6,ob,ob,ob,(XE Yu (GE.var om om om)),(XE XX (GE.var om om om)),rfl,rfl,rfl⟩ (wk [4,4,4,4,2,0] (fw (ZO k fl)))))))))))))))))))
 refine ax 0 (ar (ZU 2 [(46,XA ys)] (Zx [] (XS 9 i ys) (iA [.i 0,.i 0,nl] fun b3=>ZC 0 b3 (YZ (Z2.mk 9 i ys)) (ie (ar (ZU 2 [(49,XA zs)] (Zx [] (XS 9 i zs) (iA [.i 0,.i 0,nl] fun b4=>?_)))))))))
 refine ZC 0 b4 (YZ (Z2.mk 9 i zs)) (ie (aD 14 (ZH 9 14 [0,1,2,3,7] [1,3,0] (KY (fun fz gz F h=>∃(e1:Z2) (p21:Nat) (b5:Nat),(GE g (f.params++[3,0,3]).length (bS 4) e1/\p<=p21/\p21<=p+bC 4)/\F=sF [0,2,4,6,7,8,12] fz [(14,.p b5 0)]/\h=[.obj b5 (YZ (Z2.mk 1 0 [Z2.mk 9 i ys,Z2.mk 1 0 [e1,Z2.mk 9 i zs]])),Yz rd bs p21,Zd gz 5,Zd gz 0,Zd gz 1,Zd gz 2,Zd gz 3,Zd gz 6,Zd gz 7]) ?_ ?_))))
 ·refine VH 4 12 ?_ ?_
  ·refine dL 4 [0,3,1] [b4,b1,b3] (Z7 [3,0,3]) 3 1 fun v7=>Yt 8 8 [] [(55,Z4 [3,0,3])] (VH 5 12 ?_ ?_)
   ·refine dc 5 [] [0,3,1] [b4,b1,b3] (Kh f.params [3,0,3]) ?_
    rintro _ _ ⟨v8,rfl,rfl⟩
    refine Yt 7 7 [] [(56,Z4 (f.params++[3,0,3]))] (VH 6 12 ?_ ?_)
    ·refine dc 6 [6,6] [0,1] [b4,b3] (K1 rd bs p g gb rs (f.params++[3,0,3]) 0 4 (ZL:=ob) (hv:=(by first|omega|(simp only [Yr,YS,Xw];omega)))) ?_
     rintro _ _ ⟨e1,p21,rfl,rfl,ZY⟩
     have Xh:=ZY.1
     have K5:=ZY.2
     try rw [Yr] at Xh
     rw [hbv.2.1] at Xh
     refine VH 8 12 ?_ ?_
     ·refine WJ 8 [3] [b3] [Y4 e1,Y4 (Z2.mk 9 i zs)] (Yv [e1,Z2.mk 9 i zs]) (XP [e1,Z2.mk 9 i zs]).symm 2 3 fun v9=>Yt 5 5 [] [(59,XA [e1,Z2.mk 9 i zs])] (VH 9 12 ?_ ?_)
      ·refine Yo 9 [] [3] [b3] (XS 1 0 [e1,Z2.mk 9 i zs]) (VH 10 12 ?_ ?_)
       ·refine WJ 10 [] [] [Y4 (Z2.mk 9 i ys),Y4 (Z2.mk 1 0 [e1,Z2.mk 9 i zs])] (Yv [Z2.mk 9 i ys,Z2.mk 1 0 [e1,Z2.mk 9 i zs]]) (XP [Z2.mk 9 i ys,Z2.mk 1 0 [e1,Z2.mk 9 i zs]]).symm 2 3 fun v10=>Yt 3 3 [] [(61,XA [Z2.mk 9 i ys,Z2.mk 1 0 [e1,Z2.mk 9 i zs]])] (VH 11 12 ?_ ?_)
        ·exact Yo 11 [] [] [] (XS 1 0 [Z2.mk 9 i ys,Z2.mk 1 0 [e1,Z2.mk 9 i zs]]) (Z9 12 (dA 12 [] [] [.i 0,.i 0,nl] fun b5=>Z9 13 (YK 13 0 [] [] b5 (YZ (Z2.mk 1 0 [Z2.mk 9 i ys,Z2.mk 1 0 [e1,Z2.mk 9 i zs]])) (de (ZT ⟨e1,p21,b5,(by assumption),rfl,rfl⟩ (wk [0,2,2,4,4,4,4,4,4] fl))))))
        exact dA 12 [] [] [.i 0,.i 0,nl] fun b6=>Z9 11 (Yo 11 [] [] [] (XS 1 0 [Z2.mk 9 i ys,Z2.mk 1 0 [e1,Z2.mk 9 i zs]]) (Z9 13 (YK 13 0 [] [] b6 (YZ (Z2.mk 1 0 [Z2.mk 9 i ys,Z2.mk 1 0 [e1,Z2.mk 9 i zs]])) (de (ZT ⟨e1,p21,b6,(by assumption),rfl,rfl⟩ (wk [0,2,2,4,4,4,4,4,4] fl))))))
       exact dA 12 [3] [b3] [.i 0,.i 0,nl] fun b7=>Z9 10 (WJ 10 [] [] [Y4 (Z2.mk 9 i ys),Y4 (Z2.mk 1 0 [e1,Z2.mk 9 i zs])] (Yv [Z2.mk 9 i ys,Z2.mk 1 0 [e1,Z2.mk 9 i zs]]) (XP [Z2.mk 9 i ys,Z2.mk 1 0 [e1,Z2.mk 9 i zs]]).symm 2 3 fun v11=>Yt 2 2 [] [(61,XA [Z2.mk 9 i ys,Z2.mk 1 0 [e1,Z2.mk 9 i zs]])] (Z9 11 (Yo 11 [] [] [] (XS 1 0 [Z2.mk 9 i ys,Z2.mk 1 0 [e1,Z2.mk 9 i zs]]) (Z9 13 (YK 13 1 [] [] b7 (YZ (Z2.mk 1 0 [Z2.mk 9 i ys,Z2.mk 1 0 [e1,Z2.mk 9 i zs]])) (de (ZT ⟨e1,p21,b7,(by assumption),rfl,rfl⟩ (wk [0,2,2,4,4,4,4,4,4] fl))))))))
      exact dA 12 [3] [b3] [.i 0,.i 0,nl] fun b8=>Z9 9 (Yo 9 [] [4] [b3] (XS 1 0 [e1,Z2.mk 9 i zs]) (Z9 10 (WJ 10 [] [] [Y4 (Z2.mk 9 i ys),Y4 (Z2.mk 1 0 [e1,Z2.mk 9 i zs])] (Yv [Z2.mk 9 i ys,Z2.mk 1 0 [e1,Z2.mk 9 i zs]]) (XP [Z2.mk 9 i ys,Z2.mk 1 0 [e1,Z2.mk 9 i zs]]).symm 2 3 fun v12=>Yt 2 2 [] [(61,XA [Z2.mk 9 i ys,Z2.mk 1 0 [e1,Z2.mk 9 i zs]])] (Z9 11 (Yo 11 [] [] [] (XS 1 0 [Z2.mk 9 i ys,Z2.mk 1 0 [e1,Z2.mk 9 i zs]]) (Z9 13 (YK 13 1 [] [] b8 (YZ (Z2.mk 1 0 [Z2.mk 9 i ys,Z2.mk 1 0 [e1,Z2.mk 9 i zs]])) (de (ZT ⟨e1,p21,b8,(by assumption),rfl,rfl⟩ (wk [0,2,2,4,4,4,4,4,4] fl))))))))))
     exact dA 12 [2,3] [b4,b3] [.i 0,.i 0,nl] fun b9=>Z9 8 (WJ 8 [4] [b3] [Y4 e1,Y4 (Z2.mk 9 i zs)] (Yv [e1,Z2.mk 9 i zs]) (XP [e1,Z2.mk 9 i zs]).symm 2 3 fun v13=>Yt 4 4 [] [(59,XA [e1,Z2.mk 9 i zs])] (Z9 9 (Yo 9 [] [4] [b3] (XS 1 0 [e1,Z2.mk 9 i zs]) (Z9 10 (WJ 10 [] [] [Y4 (Z2.mk 9 i ys),Y4 (Z2.mk 1 0 [e1,Z2.mk 9 i zs])] (Yv [Z2.mk 9 i ys,Z2.mk 1 0 [e1,Z2.mk 9 i zs]]) (XP [Z2.mk 9 i ys,Z2.mk 1 0 [e1,Z2.mk 9 i zs]]).symm 2 3 fun v14=>Yt 2 2 [] [(61,XA [Z2.mk 9 i ys,Z2.mk 1 0 [e1,Z2.mk 9 i zs]])] (Z9 11 (Yo 11 [] [] [] (XS 1 0 [Z2.mk 9 i ys,Z2.mk 1 0 [e1,Z2.mk 9 i zs]]) (Z9 13 (YK 13 2 [] [] b9 (YZ (Z2.mk 1 0 [Z2.mk 9 i ys,Z2.mk 1 0 [e1,Z2.mk 9 i zs]])) (de (ZT ⟨e1,p21,b9,(by assumption),rfl,rfl⟩ (wk [0,2,2,4,4,4,4,4,4] fl))))))))))))
    refine dA 12 [0,3,1] [b4,b1,b3] [.i 0,.i 0,nl] fun b10=>Z9 6 (dc 6 [7,7] [1,2] [b4,b3] (K1 rd bs p g gb rs (f.params++[3,0,3]) 0 4 (ZL:=ob) (hv:=(by first|omega|(simp only [Yr,YS,Xw];omega)))) ?_)
    rintro _ _ ⟨e2,p22,rfl,rfl,Yi⟩
    have Xh:=Yi.1
    have K5:=Yi.2
    try rw [Yr] at Xh
    rw [hbv.2.1] at Xh
    exact Z9 8 (WJ 8 [4] [b3] [Y4 e2,Y4 (Z2.mk 9 i zs)] (Yv [e2,Z2.mk 9 i zs]) (XP [e2,Z2.mk 9 i zs]).symm 2 3 fun v15=>Yt 4 4 [] [(59,XA [e2,Z2.mk 9 i zs])] (Z9 9 (Yo 9 [] [4] [b3] (XS 1 0 [e2,Z2.mk 9 i zs]) (Z9 10 (WJ 10 [] [] [Y4 (Z2.mk 9 i ys),Y4 (Z2.mk 1 0 [e2,Z2.mk 9 i zs])] (Yv [Z2.mk 9 i ys,Z2.mk 1 0 [e2,Z2.mk 9 i zs]]) (XP [Z2.mk 9 i ys,Z2.mk 1 0 [e2,Z2.mk 9 i zs]]).symm 2 3 fun v16=>Yt 2 2 [] [(61,XA [Z2.mk 9 i ys,Z2.mk 1 0 [e2,Z2.mk 9 i zs]])] (Z9 11 (Yo 11 [] [] [] (XS 1 0 [Z2.mk 9 i ys,Z2.mk 1 0 [e2,Z2.mk 9 i zs]]) (Z9 13 (YK 13 4 [] [] b10 (YZ (Z2.mk 1 0 [Z2.mk 9 i ys,Z2.mk 1 0 [e2,Z2.mk 9 i zs]])) (de (ZT ⟨e2,p22,b10,(by assumption),rfl,rfl⟩ (wk [0,2,2,4,4,4,4,4,4] fl))))))))))))
   refine dA 12 [0,3,1] [b4,b1,b3] [.i 0,.i 0,nl] fun b11=>Z9 5 (dc 5 [] [1,4,2] [b4,b1,b3] (Kh f.params [3,0,3]) ?_)
   rintro _ _ ⟨v17,rfl,rfl⟩
   refine Yt 6 6 [] [(56,Z4 (f.params++[3,0,3]))] (Z9 6 (dc 6 [7,7] [1,2] [b4,b3] (K1 rd bs p g gb rs (f.params++[3,0,3]) 0 4 (ZL:=ob) (hv:=(by first|omega|(simp only [Yr,YS,Xw];omega)))) ?_))
   rintro _ _ ⟨e3,p23,rfl,rfl,YL⟩
   have Xh:=YL.1
   have K5:=YL.2
   try rw [Yr] at Xh
   rw [hbv.2.1] at Xh
   exact Z9 8 (WJ 8 [4] [b3] [Y4 e3,Y4 (Z2.mk 9 i zs)] (Yv [e3,Z2.mk 9 i zs]) (XP [e3,Z2.mk 9 i zs]).symm 2 3 fun v18=>Yt 4 4 [] [(59,XA [e3,Z2.mk 9 i zs])] (Z9 9 (Yo 9 [] [4] [b3] (XS 1 0 [e3,Z2.mk 9 i zs]) (Z9 10 (WJ 10 [] [] [Y4 (Z2.mk 9 i ys),Y4 (Z2.mk 1 0 [e3,Z2.mk 9 i zs])] (Yv [Z2.mk 9 i ys,Z2.mk 1 0 [e3,Z2.mk 9 i zs]]) (XP [Z2.mk 9 i ys,Z2.mk 1 0 [e3,Z2.mk 9 i zs]]).symm 2 3 fun v19=>Yt 2 2 [] [(61,XA [Z2.mk 9 i ys,Z2.mk 1 0 [e3,Z2.mk 9 i zs]])] (Z9 11 (Yo 11 [] [] [] (XS 1 0 [Z2.mk 9 i ys,Z2.mk 1 0 [e3,Z2.mk 9 i zs]]) (Z9 13 (YK 13 5 [] [] b11 (YZ (Z2.mk 1 0 [Z2.mk 9 i ys,Z2.mk 1 0 [e3,Z2.mk 9 i zs]])) (de (ZT ⟨e3,p23,b11,(by assumption),rfl,rfl⟩ (wk [0,2,2,4,4,4,4,4,4] fl))))))))))))
  refine dA 12 [0,3,1] [b4,b1,b3] [.i 0,.i 0,nl] fun b12=>Z9 4 (dL 4 [1,4,2] [b4,b1,b3] (Z7 [3,0,3]) 3 1 fun v20=>Yt 7 7 [] [(55,Z4 [3,0,3])] (Z9 5 (dc 5 [] [1,4,2] [b4,b1,b3] (Kh f.params [3,0,3]) ?_)))
  rintro _ _ ⟨v21,rfl,rfl⟩
  refine Yt 6 6 [] [(56,Z4 (f.params++[3,0,3]))] (Z9 6 (dc 6 [7,7] [1,2] [b4,b3] (K1 rd bs p g gb rs (f.params++[3,0,3]) 0 4 (ZL:=ob) (hv:=(by first|omega|(simp only [Yr,YS,Xw];omega)))) ?_))
  rintro _ _ ⟨e4,p24,rfl,rfl,YP⟩
  have Xh:=YP.1
  have K5:=YP.2
  try rw [Yr] at Xh
  rw [hbv.2.1] at Xh
  exact Z9 8 (WJ 8 [4] [b3] [Y4 e4,Y4 (Z2.mk 9 i zs)] (Yv [e4,Z2.mk 9 i zs]) (XP [e4,Z2.mk 9 i zs]).symm 2 3 fun v22=>Yt 4 4 [] [(59,XA [e4,Z2.mk 9 i zs])] (Z9 9 (Yo 9 [] [4] [b3] (XS 1 0 [e4,Z2.mk 9 i zs]) (Z9 10 (WJ 10 [] [] [Y4 (Z2.mk 9 i ys),Y4 (Z2.mk 1 0 [e4,Z2.mk 9 i zs])] (Yv [Z2.mk 9 i ys,Z2.mk 1 0 [e4,Z2.mk 9 i zs]]) (XP [Z2.mk 9 i ys,Z2.mk 1 0 [e4,Z2.mk 9 i zs]]).symm 2 3 fun v23=>Yt 2 2 [] [(61,XA [Z2.mk 9 i ys,Z2.mk 1 0 [e4,Z2.mk 9 i zs]])] (Z9 11 (Yo 11 [] [] [] (XS 1 0 [Z2.mk 9 i ys,Z2.mk 1 0 [e4,Z2.mk 9 i zs]]) (Z9 13 (YK 13 6 [] [] b12 (YZ (Z2.mk 1 0 [Z2.mk 9 i ys,Z2.mk 1 0 [e4,Z2.mk 9 i zs]])) (de (ZT ⟨e4,p24,b12,(by assumption),rfl,rfl⟩ (wk [0,2,2,4,4,4,4,4,4] fl))))))))))))
 rintro F h ⟨e1,p21,b5,ZY,rfl,rfl⟩
 have Xh:=ZY.1
 have K5:=ZY.2
 try rw [Yr] at Xh
 rw [hbv.2.1] at Xh
 refine Yk 3 [6] (Zo (W8 gb g.funcs.length 4 i.toNat 5 i) (Z1 1 (V2 (Vl 2 gb 4 4 5 (i.toNat * 5+1) (Zf (Xs rs)) [.i f.result] 3 (.i f.result) (UV Wt hf 1 rfl (Vf rfl))) (Z0 (XR (fun fz gz F h=>∃(eQ:Z2) (p6:Nat),(GE g (f.params.length+3) 52 eQ)/\(p<=p6/\p6<=p+650)/\F=sF [0,2,4,6,7,14] fz []/\h=[.obj b5 (YZ eQ),Yz rd bs p6,Zd gz 2,Zd gz 5,Zd gz 6]) ?_ ?_)))))
 ·refine ac (f.result==3) Zp (fun Zh=>?_) (fun Zh=>?_)
  ·refine aE 13 (ZH 8 13 [0,1,2,3,7] [4,6] (da 8 (((f.params.length+2:Nat):Int)) (((f.params.length:Int))+(2)) (Z9 4 (dL 4 [6,4] [b1,b3] (Z7 [3,0,3]) 3 1 fun v24=>Yt 6 6 [] [(74,Z4 [3,0,3])] (Z9 5 (dc 5 [] [6,4] [b1,b3] (Kh f.params [3,0,3]) ?_))))))
   rintro _ _ ⟨v25,rfl,rfl⟩
   refine Yt 5 5 [] [(75,Z4 (f.params++[3,0,3]))] (Z9 6 (dc 6 [3,3] [2] [b3] (K1 rd bs p21 g gb rs (f.params++[3,0,3]) 0 4 (ZL:=ob) (hv:=(by first|omega|(simp only [Yr,YS,Xw];omega)))) ?_))
   rintro _ _ ⟨e5,p25,rfl,rfl,Xc⟩
   have Xh:=Xc.1
   have K5:=Xc.2
   try rw [Yr] at Xh
   rw [hbv.2.1] at Xh
   exact Z9 9 (Yo 9 [] [4] [b3] (Qm ((f.params.length+2:Nat):Int)) (Z9 10 (WJ 10 [] [] [Y4 (Z2.mk 9 i ys),Y4 e5,Y4 (Z2.mk 12 ((f.params.length+2:Nat):Int) [])] (Yv [Z2.mk 9 i ys,e5,(Z2.mk 12 ((f.params.length+2:Nat):Int) [])]) (XP [Z2.mk 9 i ys,e5,(Z2.mk 12 ((f.params.length+2:Nat):Int) [])]).symm 3 3 fun v26=>Yt 2 2 [] [(80,XA [Z2.mk 9 i ys,e5,(Z2.mk 12 ((f.params.length+2:Nat):Int) [])])] (Z9 11 (Yo 11 [] [] [] (XS 6 3 [Z2.mk 9 i ys,e5,(Z2.mk 12 ((f.params.length+2:Nat):Int) [])]) (Z9 12 (YK 12 5 [] [] b5 (YZ (Z2.mk 6 3 [Z2.mk 9 i ys,e5,(Z2.mk 12 ((f.params.length+2:Nat):Int) [])])) (de (ZT ⟨(Z2.mk 6 3 [Z2.mk 9 i ys,e5,(Z2.mk 12 ((f.params.length+2:Nat):Int) [])]),p25,(GE.three (s1:=10) (s2:=30) (s3:=1) om om (GE.node (L:=f.params.length) (s:=1) (q:=10) om (fun _=>by omega) om Yu om om om) Xh (GE.var om om om) om),ob,rfl,rfl⟩ (wk [0,1,1,5,5] fl))))))))))
  exact ak (ZT ⟨(Z2.mk 1 0 [Z2.mk 9 i ys,Z2.mk 1 0 [e1,Z2.mk 9 i zs]]),p21,(GE.two (s1:=10) (s2:=41) om om (GE.node (L:=f.params.length) (s:=1) (q:=10) om (fun _=>by omega) om Yu om om om) (GE.two (s1:=30) (s2:=10) om om Xh (GE.node (L:=f.params.length) (s:=1) (q:=10) om (fun _=>by omega) om XX om om om) om) om),ob,rfl,rfl⟩ (wk [0,0,0,2,2] fl))
 rintro F h ⟨eQ,p6,Ub,AG,rfl,rfl⟩
 refine aD 15 (ZH 9 15 [1,2,3,4,5,6] [4,4] (dx 7 (W8 gb g.funcs.length 4 i.toNat 5 i) (Zl 7 8 [8] (U6 9 (Vl 2 gb 4 4 5 (i.toNat * 5+1) (Zf (Xs rs)) [.i f.result] 3 (.i f.result) (UV Wt hf 1 rfl (Vf rfl))) (ZH 5 6 [11] [0] (Z9 0 (Yo 0 [] [0,2,4,4] [b5,gb,b1,b1] (Qm 0) (Z9 10 (dc 10 [1,1] [0] [b5] (K1 rd bs p6 g gb rs f.params f.result 4 (ZL:=ob) (hv:=(by first|omega|(simp only [Yr,YS,Xw];omega)))) ?_)))))))))
 rintro _ _ ⟨e6,p26,rfl,rfl,XT⟩
 have Xh:=XT.1
 have K5:=XT.2
 try rw [Yr] at Xh
 rw [hbv.2.1] at Xh
 exact Z9 12 (WJ 12 [] [] [Y4 (Z2.mk 12 0 []),Y4 e6,Y4 eQ] (Yv [Z2.mk 12 0 [],e6,eQ]) (XP [Z2.mk 12 0 [],e6,eQ]).symm 3 3 fun v27=>Yt 2 2 [] [(94,XA [Z2.mk 12 0 [],e6,eQ])] (Z9 13 (Yo 13 [] [] [] (XS 8 3 [Z2.mk 12 0 [],e6,eQ]) (Z9 14 (YK 14 4 [] [] b2 (YZ (Z2.mk 8 3 [Z2.mk 12 0 [],e6,eQ])) (de (ZD (r3 [2,2] [Y4 (Z2.mk 8 3 [Z2.mk 12 0 [],e6,eQ])] [0] [(b2,b2)] ⟨(Z2.mk 8 3 [Z2.mk 12 0 [],e6,eQ]),p26,rfl,rfl,⟨GE.matchT hg (s1:=1) (s2:=30) (s3:=52) (GE.var om om om) Xh Ub om,by omega⟩⟩ (lr _)))))))))
theorem Z77 (rd:Nat) (bs:LI) (p:Nat) (g:Wd) (gb:Nat) (rs:List Func) (f:Func) (i:Int) (ZL:∀z∈bs,0<=z/\z<=255) (hp:p+1000<=1000000000:=by exact ob) (hg:GP g:=by exact ob) (Wt:g.funcs <+: rs:=by exact ob) (hi:0<=i:=by exact ob) (hf:g.funcs[i.toNat]? = some f:=by exact ob) (h0:0<f.params.length:=by exact ob):Zi 230 [.p rd 0,.agg (Wx g gb),.i i] [Yz rd bs p,XQ gb rs] (fun r h=>∃(e:Z2) (p2:Nat),r=Y4 e/\h=[Yz rd bs p2,XQ gb rs]/\GE g f.params.length 200 e/\p<=p2/\p2<=p+1000):=by
 obtain ⟨hil,_⟩:=Xk.1 hf
 have hgl:=hg.len
 have hso:=(hg.sigs f (ZZ hf)).bd
 have hbv:=DJ
 refine ZG 75 Tryz.func230 (ar (iA (Wx g gb) fun b1=>iA [.i 0,.i 0,nl] fun b2=>ie (Zw 3 [1] (Zo (W8 gb g.funcs.length 4 i.toNat 5 i) (Z1 1 (V2 (Vl 3 gb 4 4 5 (i.toNat * 5+0) (Zf (Xs rs)) [Z4 f.params] 31 (Z4 f.params) (UV Wt hf 0 rfl (Vf rfl))) (Z0 (ar (Zx [] (Qm 0) (Zx [] (Ax 1) (UZ [Y4 (Z2.mk 12 0 []),Y4 (Z2.mk 0 1 [])] (Yv [Z2.mk 12 0 [],Z2.mk 0 1 []]) (XP [Z2.mk 12 0 [],Z2.mk 0 1 []]).symm 2 3 fun v1=>ZU 0 [(20,XA [Z2.mk 12 0 [],Z2.mk 0 1 []])] (Zx [] (XS 2 0 [Z2.mk 12 0 [],Z2.mk 0 1 []]) (UZ [Y4 (Z2.mk 2 0 [Z2.mk 12 0 [],Z2.mk 0 1 []])] (Yv [Z2.mk 2 0 [Z2.mk 12 0 [],Z2.mk 0 1 []]]) (XP [Z2.mk 2 0 [Z2.mk 12 0 [],Z2.mk 0 1 []]]).symm 1 3 fun v2=>?_)))))))))))))
 refine Z0 (Yg (ab 0 (Y3 (fun fz gz m F h=>∃(k:Nat) (ys:List Z2) (u:Value) (pq:Nat),(1<=k/\k<=f.params.length)/\(ys.length=k)/\(∀e∈ys,GE g f.params.length 4 e)/\(p<=pq/\pq<=p+30*k)/\F=sF [0,2,4,6,7] fz [(8,QI ys u),(9,.i k)]/\h=[Zd gz 2,Zd gz 3,Yz rd bs pq,Zd gz 5,.tail u 3]/\m=f.params.length-k) _ _ _ ⟨1,[Z2.mk 2 0 [Z2.mk 12 0 [],Z2.mk 0 1 []]],v2,p,ob,ob,(HH (GE.two (s1:=1) (s2:=1) om om (GE.var om om om) (GE.int om om) om)),ob,rfl,rfl,rfl⟩ (wk [2,2,2,2,0] (fr (fc (x:=.i 1) li fl))) ?_)))
 rintro m F h ⟨k,ys,u,pq,Ye,Zk,Zu,Yu,rfl,rfl,rfl⟩
 refine YO 2 (iw (Yd f.params) (Y5 ((k:Int)<(f.params.length:Int)) (fun Za=>?_) (fun Za=>?_)))
 ·refine ak (aq (ab 1 (aE 12 (ZH 6 12 [0,1,2,3,4,5] [1] ?_))))
  obtain ⟨x1,Z3⟩:=Zs f.params k om
  refine dx 6 (Zj none (k:Int) 1 (Y1 Z3)) (Zl 4 5 [7] (Z9 8 (dc 8 [2,2] [] [] (CU rd bs pq g gb rs f.params x1 (ZL:=ob)) ?_)))
  rintro _ _ ⟨e1,p21,rfl,rfl,ZY⟩
  have hle:=ZY.1
  exact Z9 9 (WJ 9 [] [] [Y4 e1] (Yv [e1]) (XP [e1]).symm 1 3 fun v3=>Yt 2 2 [] [(38,XA [e1])] (Z9 10 (dp 10 5 [] [] (Yv (ys++[e1])) (Yv ys) (Yv [e1]) u none 3 (Tx _) (Tx _) (JX _) (by simp<;>omega) (by simp [JW,Yv]) fun v4=>Zl 0 1 [11] (de (az (Z1 1 (ZJ k (Z0 (ZK ⟨k+1,(ys++[e1]),v4,p21,ob,ob,(XE Zu hle),ob,rfl,rfl,rfl⟩ (wk [4,4,2,2,0] (fr (ZO k fl))))))))))))
 refine ax 0 (ar (ZU 2 [(41,XA ys)] (Zx [] (XS 9 i ys) (iA [.i 0,.i 0,nl] fun b3=>?_))))
 refine ZC 0 b3 (YZ (Z2.mk 9 i ys)) (ie (Yk 3 [2] (Zo (W8 gb g.funcs.length 4 i.toNat 5 i) (Z1 1 (V2 (Vl 4 gb 4 4 5 (i.toNat * 5+1) (Zf (Xs rs)) [.i f.result] 3 (.i f.result) (UV Wt hf 1 rfl (Vf rfl))) (Z0 (XR (fun fz gz F h=>∃(eQ:Z2) (p6:Nat),(GE g f.params.length 34 eQ)/\(p<=p6/\p6<=p+350)/\F=sF [0,2,4,6,7,10] fz []/\h=[.obj b3 (YZ eQ),Zd gz 1,Zd gz 2,Yz rd bs p6,Zd gz 4]) ?_ ?_)))))))
 ·refine ac (f.result==1) Zp (fun Zh=>?_) (fun Zh=>?_)
  ·refine aE 8 (ZH 4 8 [0,1,2,4] [2,0] (Z9 3 (dc 3 [3,3] [0] [b3] (K1 rd bs pq g gb rs f.params 0 3 (ZL:=ob)) ?_)))
   rintro _ _ ⟨e2,p22,rfl,rfl,Yi⟩
   have Xh:=Yi.1
   have K5:=Yi.2
   try rw [Yr] at Xh
   first|rw [hbv.2.1] at Xh|rw [hbv.1] at Xh
   exact Z9 5 (WJ 5 [] [] [Y4 e2,Y4 (Z2.mk 9 i ys)] (Yv [e2,Z2.mk 9 i ys]) (XP [e2,Z2.mk 9 i ys]).symm 2 3 fun v5=>Yt 2 2 [] [(55,XA [e2,Z2.mk 9 i ys])] (Z9 6 (Yo 6 [] [] [] (XS 6 1 [e2,Z2.mk 9 i ys]) (Z9 7 (YK 7 3 [] [] b3 (YZ (Z2.mk 6 1 [e2,Z2.mk 9 i ys])) (de (ZT ⟨(Z2.mk 6 1 [e2,Z2.mk 9 i ys]),p22,(GE.two (s1:=20) (s2:=13) om om Xh (GE.node (L:=f.params.length) (s:=4) (q:=13) om (fun _=>by omega) om Zu om om om) om),ob,rfl,rfl⟩ (wk [0,3,3,1,1] fl))))))))
  exact ak (ZT ⟨(Z2.mk 9 i ys),pq,(GE.le (GE.node (L:=f.params.length) (s:=4) (q:=13) om (fun _=>by omega) om Zu om om om) om),ob,rfl,rfl⟩ (ZI 5 fl))
 rintro F h ⟨eQ,p6,Ub,AG,rfl,rfl⟩
 refine ar (Zx [] (Ax 0) (Zx [] (Qm 0) (UZ [Y4 (Z2.mk 0 0 []),Y4 (Z2.mk 12 0 [])] (Yv [Z2.mk 0 0 [],Z2.mk 12 0 []]) (XP [Z2.mk 0 0 [],Z2.mk 12 0 []]).symm 2 3 fun v6=>ZU 0 [(59,XA [Z2.mk 0 0 [],Z2.mk 12 0 []])] (Zx [] (XS 4 0 [Z2.mk 0 0 [],Z2.mk 12 0 []]) (iA [.i 0,.i 0,nl] fun b4=>ZC 0 b4 (YZ (Z2.mk 4 0 [Z2.mk 0 0 [],Z2.mk 12 0 []])) (ie (aD 15 (ZH 7 15 [0,1,2,3,4,5,6,7] [0,2,4,4] (dx 8 (W8 gb g.funcs.length 4 i.toNat 5 i) (Zl 5 6 [9] (U6 10 (Vl 6 gb 4 4 5 (i.toNat * 5+1) (Zf (Xs rs)) [.i f.result] 3 (.i f.result) (UV Wt hf 1 rfl (Vf rfl))) (Z9 11 (dc 11 [5,5] [1,0] [b3,b4] (K1 rd bs p6 g gb rs f.params f.result 4 (ZL:=ob)) ?_)))))))))))))
 rintro _ _ ⟨e3,p23,rfl,rfl,YL⟩
 have Xh:=YL.1
 have K5:=YL.2
 try rw [Yr] at Xh
 first|rw [hbv.2.1] at Xh|rw [hbv.1] at Xh
 exact Z9 12 (WJ 12 [] [] [Y4 (Z2.mk 4 0 [Z2.mk 0 0 [],Z2.mk 12 0 []]),Y4 eQ,Y4 e3] (Yv [Z2.mk 4 0 [Z2.mk 0 0 [],Z2.mk 12 0 []],eQ,e3]) (XP [Z2.mk 4 0 [Z2.mk 0 0 [],Z2.mk 12 0 []],eQ,e3]).symm 3 3 fun v7=>Yt 2 2 [] [(73,XA [Z2.mk 4 0 [Z2.mk 0 0 [],Z2.mk 12 0 []],eQ,e3])] (Z9 13 (Yo 13 [] [] [] (XS 7 0 [Z2.mk 4 0 [Z2.mk 0 0 [],Z2.mk 12 0 []],eQ,e3]) (Z9 14 (YK 14 6 [] [] b2 (YZ (Z2.mk 7 0 [Z2.mk 4 0 [Z2.mk 0 0 [],Z2.mk 12 0 []],eQ,e3])) (de (ZD (r3 [2,2] [Y4 (Z2.mk 7 0 [Z2.mk 4 0 [Z2.mk 0 0 [],Z2.mk 12 0 []],eQ,e3])] [0] [(b2,b2)] ⟨(Z2.mk 7 0 [Z2.mk 4 0 [Z2.mk 0 0 [],Z2.mk 12 0 []],eQ,e3]),p23,rfl,rfl,⟨GE.three (s1:=3) (s2:=34) (s3:=30) om om (GE.two (s1:=1) (s2:=1) om om (GE.int om om) (GE.var om om om) om) Ub Xh om,by omega⟩⟩ (lr _)))))))))
theorem Z84 (xs:LI) (t:Int) (hl:xs.length<=1000:=by exact ob):Zi 225 [Z4 xs,.i t] [] (fun r h=>∃(w:Int),r=.i w/\h=[]/\-1<=w/\w<xs.length):=by
 refine ZG 19 Tryz.func225 (ZF (Yg (ab 0 (Y3 (fun fz gz m F h=>∃(k:Nat),(k<=xs.length)/\F=sF [0,1] fz [(5,.i k)]/\h=gz/\m=xs.length-k) _ _ _ ⟨0,ob,rfl,rfl,rfl⟩ (wk [] (Yb fl)) ?_))))
 rintro m F h ⟨k,Ye,rfl,rfl,rfl⟩
 refine YO 2 (iw (Yd xs) (Y5 ((k:Int)<(xs.length:Int)) (fun Za=>?_) (fun Za=>?_)))
 ·refine ak (aq (ab 1 (Y6 2 ?_)))
  obtain ⟨x1,Z3⟩:=Zs xs k om
  refine Zo (Zj none (k:Int) 1 (Y1 Z3)) (YG (x1==t) Zp (fun Zh=>?_) (fun Zh=>?_))
  ·exact ar (Zq (r1 [] ⟨(k:Int),rfl,rfl,ob⟩))
  exact ak (az (Z1 1 (ZJ k (Z0 (ZK ⟨k+1,ob,rfl,rfl,rfl⟩ (wk [] (ZO k fl)))))))
 exact ax 0 (ar (Zq (r1 [] ⟨(-1),rfl,rfl,ob⟩)))
theorem Z6p (rd:Nat) (bs:LI) (p:Nat) (g:Wd) (gb:Nat) (rs:List Func) (f:Func) (i:Int) (ZL:∀z∈bs,0<=z/\z<=255) (hp:p+90000<=1000000000) (hg:GP g) (Wt:g.funcs <+: rs) (hi:0<=i) (hf:g.funcs[i.toNat]? = some f) (h0:i=0->f.params.length=0):Zi 177 [.p rd 0,.agg (Wx g gb),.i i] [Yz rd bs p,XQ gb rs] (fun r h=>∃(e:Z2) (p2:Nat),r=Y4 e/\h=[Yz rd bs p2,XQ gb rs]/\GE g f.params.length 30 e/\p<=p2/\p2<=p+90000):=by
 obtain ⟨hil,_⟩:=Xk.1 hf
 have hgl:=hg.len
 have hso:=(hg.sigs f (ZZ hf)).bd
 have hbv:=DJ
 refine ZG 121 Tryz.func177 (ar (iA (Wx g gb) fun b1=>iA [.i 0,.i 0,nl] fun b2=>ie (Zw 3 [1] (Zo (W8 gb g.funcs.length 4 i.toNat 5 i) (Z1 1 (V2 (Vl 3 gb 4 4 5 (i.toNat * 5+0) (Zf (Xs rs)) [Z4 f.params] 31 (Z4 f.params) (UV Wt hf 0 rfl (Vf rfl))) (Z0 (Zw 3 [1] (Zo (W8 gb g.funcs.length 4 i.toNat 5 i) (Z1 1 (V2 (Vl 3 gb 4 4 5 (i.toNat * 5+1) (Zf (Xs rs)) [.i f.result] 3 (.i f.result) (UV Wt hf 1 rfl (Vf rfl))) (Z0 (Y6 1 (ic [] (Z84 f.params 1) ?_))))))))))))))
 rintro _ _ ⟨w1,rfl,rfl,ZY⟩
 have hpl:=ZY
 refine Z0 (ar (Zx [] (Ax 0) (iA [.i 0,.i 0,nl] fun b3=>ZC 0 b3 (YZ (Z2.mk 0 0 [])) (ie (Y6 1 (ic [3] (Wg rd bs p 4 (ZL:=ob)) ?_))))))
 rintro _ _ ⟨k1,rfl,rfl,Yi⟩
 have qhp2:=Yi.lt om
 refine Z0 (aq (aq (XR (fun fz gz F h=>∃(wb:Bool),(wb=true->i=0)/\F=sF [0,2,4,6,7,8,9,10,11] fz [(34,.b wb)]/\h=gz) ?_ ?_)))
 ·refine az (Z1 3 (ib (b:=(decide (k1<3))) 31 (fun Zb=>?_) (fun Zb=>?_)))
  ·have YL:k1<3:=(dq).1 Zb
   exact Z0 (ZT ⟨(i==0),(by first|exact (fun h=>Bool.noConfusion h)|(intro h;omega)|(intro h;simp at h;omega)),rfl,rfl⟩ (ZI 5 fl))
  have YP:¬(k1<3):=Yc dq Zb
  exact Z0 (ZT ⟨false,(by first|exact (fun h=>Bool.noConfusion h)|(intro h;omega)|(intro h;simp at h;omega)),rfl,rfl⟩ (ZI 5 fl))
 rintro F h ⟨wb,kR6_0,rfl,rfl⟩
 refine XR (fun fz gz F h=>∃(eQ:Z2) (p6:Nat),(GE g f.params.length 200 eQ)/\(p<=p6/\p6<=p+42000)/\F=sF [0,4,6,7,8,10] fz []/\h=[Yz rd bs p6,.obj b3 (YZ eQ),Zd gz 2,Zd gz 3,Zd gz 4]) ?_ ?_
 ·refine ac wb Iff.rfl (fun Za=>?_) (fun Za=>?_)
  ·refine az (ZM 2 [3] (ic [0,3] (Z7r rd bs (p+1) g gb rs (ZL:=ob)) ?_))
   rintro _ _ ⟨e1,p21,rfl,rfl,Xc⟩
   have hbd:=Xc.1
   have hbp:=Xc.2
   exact ZC 2 b3 (YZ e1) (ie (ZT ⟨e1,p21,(by rw [h0 (kR6_0 (by assumption))];exact hbd),ob,rfl,rfl⟩ (wk [1,0,1,1,0] fl)))
  refine aq (XR (fun fz gz F h=>∃(wb:Bool),(wb=true->0<=w1)/\F=sF [0,2,4,6,7,8,9,10,11] fz [(51,.b wb)]/\h=gz) ?_ ?_)
  ·refine az (Z1 3 (ib (b:=(decide (k1<3))) 40 (fun ZB=>?_) (fun ZB=>?_)))
   ·have XT:k1<3:=(dq).1 ZB
    refine Z1 4 (ib (b:=(decide (w1>=0))) 44 (fun Yy=>?_) (fun Yy=>?_))
    ·have Wy:w1>=0:=(dq).1 Yy
     refine Z1 3 (ib (b:=(f.result==0)) 47 (fun Xq=>?_) (fun Xq=>?_))
     ·have WW:f.result=0:=(Zp).1 Xq
      exact Z0 (ZT ⟨true,(by first|exact (fun h=>Bool.noConfusion h)|(intro h;omega)|(intro h;simp at h;omega)),rfl,rfl⟩ (ZI 5 fl))
     have Vk:¬(f.result=0):=Yc Zp Xq
     exact Z0 (ZT ⟨(f.result==1),(by first|exact (fun h=>Bool.noConfusion h)|(intro h;omega)|(intro h;simp at h;omega)),rfl,rfl⟩ (ZI 5 fl))
    have UY:¬(w1>=0):=Yc dq Yy
    exact Z0 (ZT ⟨false,(by first|exact (fun h=>Bool.noConfusion h)|(intro h;omega)|(intro h;simp at h;omega)),rfl,rfl⟩ (ZI 5 fl))
   have Te:¬(k1<3):=Yc dq ZB
   exact Z0 (ZT ⟨false,(by first|exact (fun h=>Bool.noConfusion h)|(intro h;omega)|(intro h;simp at h;omega)),rfl,rfl⟩ (ZI 5 fl))
  rintro F h ⟨wb,kR8_0,rfl,rfl⟩
  refine ac wb Iff.rfl (fun Zh=>?_) (fun Zh=>?_)
  ·refine az (ZM 4 [3] (ic [0,3] (Z7z rd bs (p+1) g gb rs _ i w1 (ZL:=ob) (hw:=(by have:=kR8_0 (by assumption);omega))) ?_))
   rintro _ _ ⟨e2,p22,rfl,rfl,Tf⟩
   have hbd:=Tf.1
   have hbp:=Tf.2
   exact ZC 2 b3 (YZ e2) (ie (ZT ⟨e2,p22,(GE.le hbd om),ob,rfl,rfl⟩ (wk [1,0,1,1,0] fl)))
  refine aq (XR (fun fz gz F h=>∃(wb:Bool),(wb=true->0<f.params.length)/\F=sF [0,2,4,6,7,8,10,11] fz [(77,.b wb)]/\h=gz) ?_ ?_)
  ·refine az (Z1 3 (ib (b:=(decide (k1<3))) 59 (fun WF=>?_) (fun WF=>?_)))
   ·have QD:k1<3:=(dq).1 WF
    refine Z1 1 (iw (Yd f.params) (Z1 3 (ib (b:=(decide ((f.params.length:Int)>0))) 64 (fun Va=>?_) (fun Va=>?_))))
    ·have Qo:(f.params.length:Int)>0:=(dq).1 Va
     refine Z1 1 ?_
     obtain ⟨x1,Z3⟩:=Zs f.params 0 om
     refine Zo (Zj none 0 1 (Y1 Z3)) (Z1 4 (ib (b:=(x1==3)) 70 (fun Vr=>?_) (fun Vr=>?_)))
     ·have J6:x1=3:=(Zp).1 Vr
      refine Z1 3 (ib (b:=(f.result==0)) 73 (fun Vi=>?_) (fun Vi=>?_))
      ·have Kz:f.result=0:=(Zp).1 Vi
       exact Z0 (ZT ⟨true,(by first|exact (fun h=>Bool.noConfusion h)|(intro h;omega)|(intro h;simp at h;omega)),rfl,rfl⟩ (ZI 5 fl))
      have Bj:¬(f.result=0):=Yc Zp Vi
      exact Z0 (ZT ⟨(f.result==3),(by first|exact (fun h=>Bool.noConfusion h)|(intro h;omega)|(intro h;simp at h;omega)),rfl,rfl⟩ (ZI 5 fl))
     have JC:¬(x1=3):=Yc Zp Vr
     exact Z0 (ZT ⟨false,(by first|exact (fun h=>Bool.noConfusion h)|(intro h;omega)|(intro h;simp at h;omega)),rfl,rfl⟩ (ZI 5 fl))
    have OP:¬((f.params.length:Int)>0):=Yc dq Va
    exact Z0 (ZT ⟨false,(by first|exact (fun h=>Bool.noConfusion h)|(intro h;omega)|(intro h;simp at h;omega)),rfl,rfl⟩ (ZI 5 fl))
   have OQ:¬(k1<3):=Yc dq WF
   exact Z0 (ZT ⟨false,(by first|exact (fun h=>Bool.noConfusion h)|(intro h;omega)|(intro h;simp at h;omega)),rfl,rfl⟩ (ZI 5 fl))
  rintro F h ⟨wb,kR10_0,rfl,rfl⟩
  refine ac wb Iff.rfl (fun ZE=>?_) (fun ZE=>?_)
  ·refine az (ZM 3 [3] (ic [0,3] (Z80 rd bs (p+1) g gb rs _ i (ZL:=ob) (h0:=(kR10_0 (by assumption)))) ?_))
   rintro _ _ ⟨e3,p23,rfl,rfl,IQ⟩
   have hbd:=IQ.1
   have hbp:=IQ.2
   exact ZC 2 b3 (YZ e3) (ie (ZT ⟨e3,p23,(GE.le hbd om),ob,rfl,rfl⟩ (wk [1,0,1,1,0] fl)))
  refine aq (XR (fun fz gz F h=>∃(wb:Bool),(wb=true->0<f.params.length)/\F=sF [0,2,4,6,7,8,10] fz [(102,.b wb)]/\h=gz) ?_ ?_)
  ·refine az (Z1 3 (ib (b:=(decide (k1<3))) 84 (fun Vj=>?_) (fun Vj=>?_)))
   ·have Z8s:k1<3:=(dq).1 Vj
    refine Z1 1 (iw (Yd f.params) (Z1 3 (ib (b:=(decide ((f.params.length:Int)>0))) 89 (fun QB=>?_) (fun QB=>?_))))
    ·have Z8t:(f.params.length:Int)>0:=(dq).1 QB
     refine Z1 1 ?_
     obtain ⟨x2,Zv⟩:=Zs f.params 0 om
     refine Zo (Zj none 0 1 (Y1 Zv)) (Z1 4 (ib (b:=(x2==0)) 95 (fun AA=>?_) (fun AA=>?_)))
     ·have Z8u:x2=0:=(Zp).1 AA
      refine Z1 3 (ib (b:=(f.result==0)) 98 (fun AB=>?_) (fun AB=>?_))
      ·have Z8v:f.result=0:=(Zp).1 AB
       exact Z0 (ZT ⟨true,(by first|exact (fun h=>Bool.noConfusion h)|(intro h;omega)|(intro h;simp at h;omega)),rfl,rfl⟩ (ZI 5 fl))
      have Z8w:¬(f.result=0):=Yc Zp AB
      exact Z0 (ZT ⟨(f.result==1),(by first|exact (fun h=>Bool.noConfusion h)|(intro h;omega)|(intro h;simp at h;omega)),rfl,rfl⟩ (ZI 5 fl))
     have Z8x:¬(x2=0):=Yc Zp AA
     exact Z0 (ZT ⟨false,(by first|exact (fun h=>Bool.noConfusion h)|(intro h;omega)|(intro h;simp at h;omega)),rfl,rfl⟩ (ZI 5 fl))
    have Z8y:¬((f.params.length:Int)>0):=Yc dq QB
    exact Z0 (ZT ⟨false,(by first|exact (fun h=>Bool.noConfusion h)|(intro h;omega)|(intro h;simp at h;omega)),rfl,rfl⟩ (ZI 5 fl))
   have Z8z:¬(k1<3):=Yc dq Vj
   exact Z0 (ZT ⟨false,(by first|exact (fun h=>Bool.noConfusion h)|(intro h;omega)|(intro h;simp at h;omega)),rfl,rfl⟩ (ZI 5 fl))
  rintro F h ⟨wb,kR12_0,rfl,rfl⟩
  refine ac wb Iff.rfl (fun Yf=>?_) (fun Yf=>?_)
  ·refine az (ZM 3 [3] (ic [0,3] (Z77 rd bs (p+1) g gb rs _ i (ZL:=ob) (h0:=(kR12_0 (by assumption)))) ?_))
   rintro _ _ ⟨e4,p24,rfl,rfl,IR⟩
   have hbd:=IR.1
   have hbp:=IR.2
   exact ZC 2 b3 (YZ e4) (ie (ZT ⟨e4,p24,(GE.le hbd om),ob,rfl,rfl⟩ (wk [1,0,1,1,0] fl)))
  refine az (ZM 4 [3] (ic [0,3] (Ov rd bs (p+1) g gb rs f.params f.result 18 (ZL:=ob)) ?_))
  rintro _ _ ⟨e5,p25,rfl,rfl,IS⟩
  have hbd:=IS.1
  have hbp:=IS.2
  exact ZC 2 b3 (YZ e5) (ie (ZT ⟨e5,p25,(GE.le hbd om),ob,rfl,rfl⟩ (wk [1,0,1,1,0] fl)))
 rintro F h ⟨eQ,p6,J7,IZ,rfl,rfl⟩
 refine Yk 1 [1] (ic [] (OC eQ (hz:=(by have:=J7.2;omega))) ?_)
 rintro _ _ ⟨w2,rfl,rfl,OR⟩
 have Ed:=OR
 have Xo:=J7.2
 refine Y5 (w2<0) (fun Xb=>?_) (fun Xb=>?_)
 ·refine Zw 4 [3] (ic [0,3] (Ov rd bs p6 g gb rs f.params f.result 12 (ZL:=ob)) ?_)
  rintro _ _ ⟨e6,p26,rfl,rfl,G0⟩
  have hbd:=G0.1
  have hbp:=G0.2
  exact ZC 3 b2 (YZ e6) (ie (ZD (r3 [1,1] [Y4 e6] [0] [(b2,b2)] ⟨e6,p26,rfl,rfl,⟨hbd,by omega⟩⟩ (lr _))))
 exact ak (Zw 1 [1] (ZC 2 b2 (YZ eQ) (ie (ZD (r3 [1,3] [Y4 eQ] [0] [(b2,b2)] ⟨eQ,p6,rfl,rfl,⟨⟨J7.1,by omega⟩,by omega⟩⟩ (lr _))))))
theorem Q6 (ps:LI) (rt:Int) :Zi 176 [Z4 ps,.i rt] [] (Yj (DH (Func.mk ps rt (Z2.mk 0 0 [])))):=by
 exact ZG 8 Tryz.func176 (ar (iA [nl,.i 0,.i 0,.i 0,nl] fun b1=>ie (Y6 3 (ZC 0 b1 [Z4 ps,.i rt,.i 0,.i 0,nl] (ie (ZD (r3 [] [.agg [Z4 ps,.i rt,.i 0,.i 0,nl]] [0] [(b1,b1)] ⟨rfl,rfl⟩ (Zc.agg (.cons (Zc.sl _ (Yn Z7 ob)) (.cons li (.cons li (.cons li (.cons (Zc.sl _ rfl) .nil)))))))))))))
theorem Z7y (rd:Nat) (bs:LI) (p:Nat) (xs:LI) (ZL:∀z∈bs,0<=z/\z<=255) (hp:p+1<=1000000000:=by exact ob) (hx:0<xs.length/\xs.length<=1000000:=by exact ob) (hy:xs.all (fun x=>decide (0<=x))=true:=by exact ob):Zi 62 [.p rd 0,Z4 xs] [Yz rd bs p] (fun r h=>∃(nn:Nat),r=.i nn/\h=[.obj rd [Up bs,.i (p+1:Nat)]]/\(nn:Int)∈xs):=(U0 rd bs p xs ZL hp hx).mono fun r h ⟨z,hr,hh,hz⟩=>by
  have h0:0<=z:=of_decide_eq_true (JI.1 hy z hz)
  exact ⟨z.toNat,by rw [hr,Int.toNat_of_nonneg h0],hh,by rw [Int.toNat_of_nonneg h0];exact hz⟩
theorem Z6q (rd:Nat) (bs:LI) (p:Nat) (g:Wd) (gb:Nat) (rs:List Func) (f:Func) (i:Int) (nl:Nat) (ZL:∀z∈bs,0<=z/\z<=255) (hp:p+90000<=1000000000:=by exact ob) (hg:GP g:=by exact ob) (Wt:g.funcs <+: rs:=by exact ob) (hi:0<=i:=by exact ob) (hf:g.funcs[i.toNat]? = some f:=by exact ob) (h0:i=0->f.params.length=0:=by exact ob) (hn:g.funcs.length=nl:=by exact ob):Zi 177 [.p rd 0,.agg [ZP g.decls,.ms gb 0 nl 4],.i i] [Yz rd bs p,XQ gb rs] (fun r h=>∃(e:Z2) (p2:Nat),r=Y4 e/\h=[Yz rd bs p2,XQ gb rs]/\GE g f.params.length 30 e/\p<=p2/\p2<=p+90000):=(by subst hn;exact Z6p rd bs p g gb rs f i ZL hp hg Wt hi hf h0)
theorem Z7d (rd:Nat) (bs:LI) (p:Nat) (ZL:∀z∈bs,0<=z/\z<=255) (hp:p+400000<=1000000000):Zi 134 [.p rd 0] [Yz rd bs p] (fun r h=>∃(rs:List Func) (ds:List Zg) (m:Nat) (gb:Nat) (p2:Nat),r=.agg [ZP ds,.ms gb 0 m 4]/\h=[XQ gb rs,Yz rd bs p2]/\(GL ds m 0 rs/\GD ds/\1<=m/\m<=4)/\p<=p2/\p2<=p+400000):=by
 refine ZG 110 Tryz.func134 (ar (iA [nl,nl] fun b1=>ie (Y6 1 (ic [1] (Z7b rd bs p (ZL:=ob)) ?_))))
 rintro _ _ ⟨ds1,v1,rfl,rfl,ZY⟩
 have hgd:=ZY
 refine Z1 1 (iA [nl,nl] fun b2=>ZC 0 b2 [A3 ds1 v1,nl] (ie (ar (iL (Z7 [1]) 1 1 fun v2=>ZU 0 [(13,Z4 [1])] (Zx [] (Q6 [1] 0) (iL (Z7 [1,1]) 2 1 fun v3=>ZU 0 [(15,Z4 [1,1])] (Zx [] (Q6 [1,1] 1) (iL (Z7 [1]) 1 1 fun v4=>ZU 0 [(17,Z4 [1])] (Zx [] (Q6 [1] 1) (iL (Z7 [1,0]) 2 1 fun v5=>ZU 0 [(19,Z4 [1,0])] (Zx [] (Q6 [1,0] 1) (iL (Z7 [2,1]) 2 1 fun v6=>ZU 0 [(21,Z4 [2,1])] (Zx [] (Q6 [2,1] 1) (iL (Z7 [1,1]) 2 1 fun v7=>ZU 0 [(23,Z4 [1,1])] (Zx [] (Q6 [1,1] 0) (iL (Xs [Func.mk [1] 0 (Z2.mk 0 0 []),Func.mk [1,1] 1 (Z2.mk 0 0 []),Func.mk [1] 1 (Z2.mk 0 0 []),Func.mk [1,0] 1 (Z2.mk 0 0 []),Func.mk [2,1] 1 (Z2.mk 0 0 []),Func.mk [1,1] 0 (Z2.mk 0 0 [])]) 6 5 fun v8=>Z0 (ar (iL (Z7 [3]) 1 1 fun v9=>ZU 0 [(26,Z4 [3])] (Zx [] (Q6 [3] 0) (iL (Z7 [0]) 1 1 fun v10=>ZU 0 [(28,Z4 [0])] (Zx [] (Q6 [0] 1) (iL (Z7 [0,1]) 2 1 fun v11=>ZU 0 [(30,Z4 [0,1])] (Zx [] (Q6 [0,1] 1) (iL (Z7 [3,0]) 2 1 fun v12=>ZU 0 [(32,Z4 [3,0])] (Zx [] (Q6 [3,0] 3) (iL (Z7 [3]) 1 1 fun v13=>ZU 0 [(34,Z4 [3])] (Zx [] (Q6 [3] 1) (iL (Z7 [1,3,0]) 3 1 fun v14=>ZU 0 [(36,Z4 [1,3,0])] (Zx [] (Q6 [1,3,0] 0) (iL (Xs [Func.mk [3] 0 (Z2.mk 0 0 []),Func.mk [0] 1 (Z2.mk 0 0 []),Func.mk [0,1] 1 (Z2.mk 0 0 []),Func.mk [3,0] 3 (Z2.mk 0 0 []),Func.mk [3] 1 (Z2.mk 0 0 []),Func.mk [1,3,0] 0 (Z2.mk 0 0 [])]) 6 5 fun v15=>Z0 (ar (iL (Z7 [0]) 1 1 fun v16=>ZU 0 [(39,Z4 [0])] (Zx [] (Q6 [0] 0) (iL (Z7 [0,0]) 2 1 fun v17=>ZU 0 [(41,Z4 [0,0])] (Zx [] (Q6 [0,0] 0) (iL (Z7 [1,0]) 2 1 fun v18=>ZU 0 [(43,Z4 [1,0])] (Zx [] (Q6 [1,0] 0) (iL (Z7 [0]) 1 1 fun v19=>ZU 0 [(45,Z4 [0])] (Zx [] (Q6 [0] 1) (iL (Xs [Func.mk [0] 0 (Z2.mk 0 0 []),Func.mk [0,0] 0 (Z2.mk 0 0 []),Func.mk [1,0] 0 (Z2.mk 0 0 []),Func.mk [0] 1 (Z2.mk 0 0 [])]) 4 5 fun v20=>Z0 (aD 26 (Zl 23 26 [2,3,4] (dn 5 (.i (([Func.mk [1] 0 (Z2.mk 0 0 []),Func.mk [1,1] 1 (Z2.mk 0 0 []),Func.mk [1] 1 (Z2.mk 0 0 []),Func.mk [1,0] 1 (Z2.mk 0 0 []),Func.mk [2,1] 1 (Z2.mk 0 0 []),Func.mk [1,1] 0 (Z2.mk 0 0 [])].length:Nat):Int)) (.i (((Xs [Func.mk [1] 0 (Z2.mk 0 0 []),Func.mk [1,1] 1 (Z2.mk 0 0 []),Func.mk [1] 1 (Z2.mk 0 0 []),Func.mk [1,0] 1 (Z2.mk 0 0 []),Func.mk [2,1] 1 (Z2.mk 0 0 []),Func.mk [1,1] 0 (Z2.mk 0 0 [])]).length:Nat):Int)) (li (by rw [CO])) (Zl 19 22 [9,10,11] (dn 12 (.i (([Func.mk [3] 0 (Z2.mk 0 0 []),Func.mk [0] 1 (Z2.mk 0 0 []),Func.mk [0,1] 1 (Z2.mk 0 0 []),Func.mk [3,0] 3 (Z2.mk 0 0 []),Func.mk [3] 1 (Z2.mk 0 0 []),Func.mk [1,3,0] 0 (Z2.mk 0 0 [])].length:Nat):Int)) (.i (((Xs [Func.mk [3] 0 (Z2.mk 0 0 []),Func.mk [0] 1 (Z2.mk 0 0 []),Func.mk [0,1] 1 (Z2.mk 0 0 []),Func.mk [3,0] 3 (Z2.mk 0 0 []),Func.mk [3] 1 (Z2.mk 0 0 []),Func.mk [1,3,0] 0 (Z2.mk 0 0 [])]).length:Nat):Int)) (li (by rw [CO])) (Zl 15 18 [16,17,18] (dn 19 (.i (([Func.mk [0] 0 (Z2.mk 0 0 []),Func.mk [0,0] 0 (Z2.mk 0 0 []),Func.mk [1,0] 0 (Z2.mk 0 0 []),Func.mk [0] 1 (Z2.mk 0 0 [])].length:Nat):Int)) (.i (((Xs [Func.mk [0] 0 (Z2.mk 0 0 []),Func.mk [0,0] 0 (Z2.mk 0 0 []),Func.mk [1,0] 0 (Z2.mk 0 0 []),Func.mk [0] 1 (Z2.mk 0 0 [])]).length:Nat):Int)) (li (by rw [CO])) (Z9 0 (dL 0 [] [] (Z7 []) 0 1 fun v21=>Yt 13 13 [] [(48,Z4 [])] (Z9 1 (Yo 1 [] [] [] (Q6 [] 0) (Z9 6 (dc 6 [22] [] [] (Wg rd bs (p+1) (([Func.mk [1] 0 (Z2.mk 0 0 []),Func.mk [1,1] 1 (Z2.mk 0 0 []),Func.mk [1] 1 (Z2.mk 0 0 []),Func.mk [1,0] 1 (Z2.mk 0 0 []),Func.mk [2,1] 1 (Z2.mk 0 0 []),Func.mk [1,1] 0 (Z2.mk 0 0 [])].length:Nat):Int) (ZL:=ob)) ?_)))))))))))))))))))))))))))))))))))))))))))))))))))))
 rintro _ _ ⟨k1,rfl,rfl,Yi⟩
 have qhp2:=Yi.lt (by simp)
 simp only [YS,Xw] at qhp2
 obtain ⟨x1,Z3⟩:=Zs [Func.mk [1] 0 (Z2.mk 0 0 []),Func.mk [1,1] 1 (Z2.mk 0 0 []),Func.mk [1] 1 (Z2.mk 0 0 []),Func.mk [1,0] 1 (Z2.mk 0 0 []),Func.mk [2,1] 1 (Z2.mk 0 0 []),Func.mk [1,1] 0 (Z2.mk 0 0 [])] k1.toNat (by simp only [YS,Xw];omega)
 refine dx 7 (Zj (some v8) k1 5 (Fq Z3)) (Zl 9 10 [8] (Z9 13 (dc 13 [0] [] [] (Wg rd bs ((p+1)+1) (([Func.mk [3] 0 (Z2.mk 0 0 []),Func.mk [0] 1 (Z2.mk 0 0 []),Func.mk [0,1] 1 (Z2.mk 0 0 []),Func.mk [3,0] 3 (Z2.mk 0 0 []),Func.mk [3] 1 (Z2.mk 0 0 []),Func.mk [1,3,0] 0 (Z2.mk 0 0 [])].length:Nat):Int) (ZL:=ob)) ?_)))
 rintro _ _ ⟨k2,rfl,rfl,YL⟩
 have qhp3:=YL.lt (by simp)
 simp only [YS,Xw] at qhp3
 obtain ⟨x2,Zv⟩:=Zs [Func.mk [3] 0 (Z2.mk 0 0 []),Func.mk [0] 1 (Z2.mk 0 0 []),Func.mk [0,1] 1 (Z2.mk 0 0 []),Func.mk [3,0] 3 (Z2.mk 0 0 []),Func.mk [3] 1 (Z2.mk 0 0 []),Func.mk [1,3,0] 0 (Z2.mk 0 0 [])] k2.toNat (by simp only [YS,Xw];omega)
 refine dx 14 (Zj (some v15) k2 5 (Fq Zv)) (Zl 6 7 [15] (Z9 20 (dc 20 [0] [] [] (Wg rd bs (((p+1)+1)+1) (([Func.mk [0] 0 (Z2.mk 0 0 []),Func.mk [0,0] 0 (Z2.mk 0 0 []),Func.mk [1,0] 0 (Z2.mk 0 0 []),Func.mk [0] 1 (Z2.mk 0 0 [])].length:Nat):Int) (ZL:=ob)) ?_)))
 rintro _ _ ⟨k3,rfl,rfl,YP⟩
 have qhp4:=YP.lt (by simp)
 simp only [YS,Xw] at qhp4
 obtain ⟨x3,YQ⟩:=Zs [Func.mk [0] 0 (Z2.mk 0 0 []),Func.mk [0,0] 0 (Z2.mk 0 0 []),Func.mk [1,0] 0 (Z2.mk 0 0 []),Func.mk [0] 1 (Z2.mk 0 0 [])] k3.toNat (by simp only [YS,Xw];omega)
 refine dx 21 (Zj (some v20) k3 5 (Fq YQ)) (Zl 3 4 [22] (Z9 23 (dKN 23 [] [] (Zf (Xs [Func.mk [] 0 (Z2.mk 0 0 []),x1,x2,x3])) 4 5 fun g1=>Zl 1 2 [24] (Z9 25 (YK 25 22 [] [] b2 [A3 ds1 v1,.ms g1 0 4 4] (de (Y6 1 (iL (Z7 [4,4,3,2,4]) 5 1 fun v22=>ZU 0 [(74,Z4 [4,4,3,2,4])] (ic [3] (Z7y rd bs ((((p+1)+1)+1)+1) [4,4,3,2,4] (ZL:=ob) (hy:=(by decide))) ?_)))))))))
 rintro _ _ ⟨nn1,rfl,rfl,Xc⟩
 have hnn:=Zcc (a:=2) (b:=4) Xc (by decide)
 refine Z0 (Zw 3 [2] (Zo (L4 3 g1 4 4 nn1 5 (Zf (Xs [Func.mk [] 0 (Z2.mk 0 0 []),x1,x2,x3]))) (Z1 1 (ZC 2 b2 [A3 ds1 v1,.ms g1 0 nn1 4] (ie (YO 1 (ia (((nn1:Int)-1)) (((nn1:Int))-(1)) (Z0 (ab 0 (Y3 (fun fz gz m F h=>∃(j:Nat) (rq:List Func) (pq:Nat),(j<=nn1)/\(GL ds1 nn1 j rq)/\(p<=pq/\pq+90000*j<=p+10+90000*nn1)/\F=sF [0,2,3] fz [(8,.i ((j:Int)-1))]/\h=[Zd gz 0,Yz rd bs pq,Zd gz 25,Zd gz 24,XQ g1 rq]/\m=j+1) _ _ _ ⟨nn1,[Func.mk [] 0 (Z2.mk 0 0 []),x1,x2,x3],((((p+1)+1)+1)+1)+1,ob,(GL.start (Ma Z3 (by decide)) (Ma Zv (by decide)) (Ma YQ (by decide))),ob,rfl,rfl,rfl⟩ (wk [0,0,23,22,1] fl) ?_))))))))))
 rintro m F h ⟨j,rq,pq,Ye,Zk,Zu,rfl,rfl,rfl⟩
 refine X4 (Y5 (((j:Int)-1)>=0) (fun Za=>?_) (fun Za=>?_))
 ·obtain ⟨f1,hf1⟩:=Zs (rq.take nn1) (((j:Int)-1).toNat) (by rw [Zk.len_take om];omega)
  have hfq:rq[j-1]? = some f1:=by have h:=hf1;rw [show ((j:Int)-1).toNat=j-1 by omega,List.getElem?_take_of_lt om] at h;exact h
  refine ak (aq (ab 1 (ar (Qt 3 [(88,.agg [ZP ds1,.ms g1 0 nn1 4])] [0] (ic [1,3] (Z6q rd bs pq (Wd.mk ds1 (rq.take nn1)) g1 rq f1 ((j:Int)-1) nn1 (ZL:=ob) (hg:=(Zk.gp hgd om)) (Wt:=(List.take_prefix nn1 rq)) (hf:=hf1) (h0:=(fun h=>Zk.zero f1 (by rw [<-hfq,show j-1=0 by omega]))) (hn:=(Zk.len_take om))) ?_)))))
  rintro _ _ ⟨e1,p21,rfl,rfl,XT⟩
  have hbw:eW ds1 nn1 f1.params.length e1/\(e1).sz<=30:=by have h:=XT.1;unfold GE at h;rw [show (Wd.mk ds1 (rq.take nn1)).funcs.length=nn1 from Zk.len_take om] at h;exact h
  exact iA [.i 0,.i 0,nl] fun b3=>ZC 0 b3 (YZ e1) (ie (aE 19 (ZH 13 19 [0,1,2,3,4,5] [3,3] (dx 6 (W8 g1 nn1 4 (((j:Int)-1).toNat) 5 ((j:Int)-1)) (Zl 11 12 [7] (U6 8 (Vl 2 g1 4 4 5 ((((j:Int)-1).toNat)*5+0) (Zf (Xs rq)) [Z4 f1.params] 31 (Z4 f1.params) (UV (List.take_prefix nn1 rq) hf1 0 rfl (Vf rfl))) (ZH 7 10 [9,10,11] [3] (dx 12 (W8 g1 nn1 4 (((j:Int)-1).toNat) 5 ((j:Int)-1)) (Zl 5 6 [13] (U6 14 (Vl 2 g1 4 4 5 ((((j:Int)-1).toNat)*5+1) (Zf (Xs rq)) [.i f1.result] 3 (.i f1.result) (UV (List.take_prefix nn1 rq) hf1 1 rfl (Vf rfl))) (ZH 2 4 [15,16] [0] (dx 17 (W8 g1 nn1 4 (((j:Int)-1).toNat) 5 ((j:Int)-1)) (Z9 18 (An 18 2 [] [] g1 4 4 5 ((((j:Int)-1).toNat)*5) [Z4 f1.params,.i f1.result,.i e1.op,.i e1.num,XA e1.kids] (Zf (Xs rq)) (Zf (Xs (rq.set ((j:Int)-1).toNat ⟨f1.params,f1.result,e1⟩))) (by rw [Is,Zk.len];simp only [YS,Xw];omega) (Z6c ⟨f1.params,f1.result,e1⟩ (by rw [Zk.len];omega)) (de (az (Z1 1 (ia ((((j:Int)-1)-1)) (((j:Int)-1)-(1)) (Z0 (ZK ⟨(j-1),(rq.set ((j:Int)-1).toNat ⟨f1.params,f1.result,e1⟩),p21,ob,(by rw [show ((j:Int)-1).toNat=j-1 by omega];exact Zk.set om hfq hbw),ob,rfl,rfl,rfl⟩ (wk [3,2,2,2,0] (fc (x:=.i (((j:Int)-1)-1)) li fl))))))))))))))))))))))
 exact ax 0 (Zw 1 [0] (ZC 2 b1 [A3 ds1 v1,.ms g1 0 nn1 4] (ie (ZD (r3 [4,2] [.agg [A3 ds1 v1,.ms g1 0 nn1 4]] [0] [(b1,b1)] ⟨rq,ds1,nn1,g1,pq,rfl,rfl,⟨⟨by rw [show j=0 by omega] at Zk;exact Zk,hgd,by omega,by omega⟩,by omega⟩⟩ (Zc.agg (.cons (Zc.forget _ _) (.cons (lr _) .nil))))))))
theorem Z7c (rd:Nat) (bs:LI) (p:Nat) (ZL:∀z∈bs,0<=z/\z<=255) (hp:p+400000<=1000000000:=by exact ob):Zi 134 [.p rd 0] [Yz rd bs p] (fun r h=>∃(g:Wd) (p2:Nat),r=Ai g/\h=[Yz rd bs p2]/\Hy g/\p<=p2/\p2<=p+400000):=(Wv.frzP (E:=List Func × List Zg × Nat × Nat) (ds:=fun e=>e.2.1) (rs:=fun e=>e.1) (m:=fun e=>e.2.2.1) (hs:=fun e=>[.obj rd [Up bs,.i (e.2.2.2:Nat)]]) (Q:=fun e=>(GL e.2.1 e.2.2.1 0 e.1/\GD e.2.1/\1<=e.2.2.1/\e.2.2.1<=4)/\p<=e.2.2.2/\e.2.2.2<=p+400000)
  ((Z7d rd bs p ZL hp).mono fun r h ⟨rs,ds,m,gb,p2,hr,hh,hq⟩=>⟨(rs,ds,m,p2),gb,hr,hh,hq⟩) fun e hq=>⟨hq.1.2.2.2,hq.1.1.len⟩).mono
  fun r h ⟨e,hr,hh,hq⟩=>⟨⟨e.2.1,e.1.take e.2.2.1⟩,e.2.2.2,hr,hh,hq.1.1.done hq.1.2.1 hq.1.2.2,hq.2⟩
theorem IG (a:Nat) (n:Nat) (ha:a<=1000000:=by exact ob) (hn:n<=1000000:=by exact ob):Zi 175 [.i a,.i n] [] (fun r h=>∃(xs:LI),r=Z4 xs/\h=[]/\xs.length=n/\∀i∈xs,(a:Int)<=i/\i<(a:Int)+n):=by
 refine ZG 20 Tryz.func175 (ZF (ar (iL (Z7 []) 0 1 fun v1=>?_)))
 refine Z0 (Yg (ab 0 (Y3 (fun fz gz m F h=>∃(k:Nat) (ys:LI) (u:Value),(k<=n)/\(ys.length=k)/\(∀i∈ys,(a:Int)<=i/\i<(a:Int)+n)/\F=sF [0,1] fz [(5,ZQ ys u),(6,.i k)]/\h=[.tail u 1]/\m=n-k) _ _ _ ⟨0,[],v1,ob,ob,(fun i hi=>by cases hi),rfl,rfl,rfl⟩ (wk [0] (fr (Yb fl))) ?_)))
 rintro m F h ⟨k,ys,u,Ye,Zk,Zu,rfl,rfl,rfl⟩
 refine X4 (Y5 ((k:Int)<(n:Int)) (fun Za=>?_) (fun Za=>?_))
 ·exact ak (aq (ab 1 (az (Z1 3 (ia (((a+k:Nat):Int)) (((a:Int))+((k:Int))) (iL (Z7 [((a+k:Nat):Int)]) 1 1 fun v2=>ZU 0 [(17,Z4 [((a+k:Nat):Int)])] (ip 1 (Z7 (ys++[((a+k:Nat):Int)])) (Z7 ys) (Z7 [((a+k:Nat):Int)]) u none 1 (YB _) (YB _) (Wc _) (by simp<;>omega) (by simp [Wb,Z7]) fun v3=>Z0 (az (Z1 1 (ZJ k (Z0 (ZK ⟨k+1,(ys++[((a+k:Nat):Int)]),v3,ob,ob,(XE Zu om),rfl,rfl,rfl⟩ (wk [0] (fr (ZO k fl)))))))))))))))
 exact ax 0 (ar (Zq (r2 [] [ZQ ys u] ⟨ys,rfl,rfl,⟨by omega,Zu⟩⟩ (Zc.forget _ _))))
theorem Oo (l:Nat) (xs:List Z5) (w:Value) (q:Nat) (s:Z5) (hl:xs.length<=4000000000:=by exact ob) (hq:q<=1000000:=by exact ob):Zi 269 [.p l 0,YD s] [.obj l [YU xs w,.i q],.tail w 5] (fun r h=>∃(w2:Value),r=.i q/\h=[.obj l [YU (xs++[s]) w2,.i (((q+1):Nat):Int)],.tail w2 5]):=by
 exact ZG 28 Tryz.func269 (ar (iA (Xv s) fun b1=>Z0 (aD 11 (ZH 5 11 [0,1,2,3,4,5] [1,0] (Z9 6 (WJ 6 [1] [l] [YD s] (Zz [s]) (Vx [s]).symm 1 5 fun v1=>Yt 4 4 [] [(11,WA [s])] (Z9 7 (dp 7 3 [] [] (Zz (xs++[s])) (Zz xs) (Zz [s]) w none 5 (Xn _) (Xn _) (U8 _) (by simp<;>omega) (by simp [WV,Zz]) fun v2=>Zl 1 3 [8,9] (Z9 10 (YK 10 3 [] [] l [YU (xs++[s]) v2,.i q] (de (Zw 5 [0] (ZJ q (Z1 2 (ZC 0 l [YU (xs++[s]) v2,.i (q+1:Nat)] (ie (Zw 4 [0] (ia ((((q+1:Nat):Int)-1)) ((((q+1:Nat):Int))-(1)) (Zq (r2 [0,0] [.i (((q+1:Nat):Int)-1)] ⟨v2,rfl,rfl⟩ li))))))))))))))))))))
theorem OB (g:Wd) (e:Z2) (us:LI) (q:Nat) (bb:Nat) (he:eW g.decls g.funcs.length us.length e:=by exact ob) (hu:∀a∈us,0<=a/\a<(q:Int)) (hul:us.length+4*e.sz<=100000:=by exact ob) (hql:q+6*e.sz<=100000:=by exact ob) (hb:e.sz<bb:=by exact ob) (ih:∀(l:Nat) (e2:Z2) (us2:LI) (xs2:List Z5) (w2:Value) (q2:Nat),(eW g.decls g.funcs.length us2.length e2)->(∀a∈us2,0<=a/\a<(q2:Int))->(us2.length+4*e2.sz<=100000)->(xs2.length+6*e2.sz<=100000)->(q2+6*e2.sz<=100000)->(e2.sz<bb)->Zi 224 [.p l 0,Ai g,Y4 e2,Z4 us2] [.obj l [YU xs2 w2,.i q2],.tail w2 5] (fun r h=>∃(ys:List Z5) (v:Int) (w2:Value),r=.i v/\h=[.obj l [YU (xs2++ys) w2,.i (((q2+X0 ys):Nat):Int)],.tail w2 5]/\LW g.decls g.funcs.length q2 e2 ys v)):Zi 174 [Ai g,Y4 e,Z4 us,.i q] [] (fun r h=>∃(b:Z6),r=ZW b/\h=[]/\LB g.decls g.funcs.length q e b):=by
 refine ZG 26 Tryz.func174 (ar (iA (La g) fun b1=>iA (YZ e) fun b2=>iA [nl,.i 0] fun b3=>ie (ar (iL (Zz []) 0 5 fun v1=>Z1 2 (iA [YU [] v1,.i q] fun b4=>Z0 (Zw 4 [4,3] (ic [0,0] (ih b4 e us [] v1 q he hu ob ob ob ob) ?_)))))))
 rintro _ _ ⟨ys1,v2,w21,rfl,rfl,ZY⟩
 have hlw:=ZY
 exact Z0 (Zw 6 [0] (ZC 2 b3 [YU ([]++ys1) w21,.i v2] (ie (ZD (r3 [] [.agg [YU ([]++ys1) w21,.i v2]] [0] [(b3,b3)] ⟨(Z6.mk ([]++ys1) v2),rfl,rfl,(by rw [Cv];exact hlw.block)⟩ (Zc.agg (.cons (Zc.forget _ _) (.cons (lr _) .nil))))))))
theorem Z7q (l:Nat) (g:Wd) (e:Z2) (us:LI) (xs:List Z5) (w:Value) (q:Nat) (hd:GD g.decls) (he:eW g.decls g.funcs.length us.length e) (hu:∀a∈us,0<=a/\a<(q:Int)) (hul:us.length+4*e.sz<=100000) (hxl:xs.length+6*e.sz<=100000) (hql:q+6*e.sz<=100000) (ih:∀(l:Nat) (e2:Z2) (us2:LI) (xs2:List Z5) (w2:Value) (q2:Nat),(eW g.decls g.funcs.length us2.length e2)->(∀a∈us2,0<=a/\a<(q2:Int))->(us2.length+4*e2.sz<=100000)->(xs2.length+6*e2.sz<=100000)->(q2+6*e2.sz<=100000)->(e2.sz<e.sz)->Zi 224 [.p l 0,Ai g,Y4 e2,Z4 us2] [.obj l [YU xs2 w2,.i q2],.tail w2 5] (fun r h=>∃(ys:List Z5) (v:Int) (w2:Value),r=.i v/\h=[.obj l [YU (xs2++ys) w2,.i (((q2+X0 ys):Nat):Int)],.tail w2 5]/\LW g.decls g.funcs.length q2 e2 ys v)):Zi 224 [.p l 0,Ai g,Y4 e,Z4 us] [.obj l [YU xs w,.i q],.tail w 5] (fun r h=>∃(ys:List Z5) (v:Int) (w2:Value),r=.i v/\h=[.obj l [YU (xs++ys) w2,.i (((q+X0 ys):Nat):Int)],.tail w2 5]/\LW g.decls g.funcs.length q e ys v):=by
 have Xu:=hd.ok
 obtain ⟨ho,h12,h13,h7,h8,h9,hnum,hkl,hks⟩:=(Z5q e).1 he
 have hez:=e.sz_eq
 refine ZG 148 Tryz.func224 (ar (iA (La g) fun b1=>iA (YZ e) fun b2=>Z0 (X4 (VL [0] (ab 0 (ar (YG (e.op==12) Zp (fun Za=>?_) (fun Za=>?_))))))))
 ·refine Zw 3 [0] ?_
  obtain ⟨x1,Z3⟩:=Zs us e.num.toNat (by have:=h12 om;omega)
  have huv:=hu _ (ZZ Z3)
  exact Zo (Zj none e.num 1 (Y1 Z3)) (Zq (r1 [2,2] ⟨[],x1,w,rfl,rfl,(LW.var huv)⟩ (eq:=(ro (ls:=[YU xs w,.i q]) (by simp [X0]) (rc rz)))))
 refine ar (YG (e.op==13) Zp (fun Zh=>?_) (fun Zh=>?_))
 ·refine aD 9 (ZH 5 9 [0,1,2,3] [1,0] ?_)
  obtain ⟨x2,Zv⟩:=Zs e.kids 0 (by have:=h13 om;omega)
  have hekx2:=CP hks Zv
  have hszx2:=C4 Zv
  have htzx2:=Bd Zv
  rw [Vm] at hekx2
  rw [So om] at hekx2
  refine dx 4 (Zj none 0 3 (CN Zv)) (Zl 2 4 [5,6] (Z9 7 (dc 7 [2,2] [] [] (ih l x2 us xs w q (by first|assumption|(rw [Yr];assumption)) (by first|assumption|exact ES hu hlwhp1.v|exact Hc hu) (by first|omega|(simp only [Yr,YS,Xw];omega)) (by first|omega|(simp only [Yr,YS,Xw];omega)) ob ob) ?_)))
  rintro _ _ ⟨ys1,v1,w21,rfl,rfl,ZY⟩
  have hlwhp1:=ZY
  have hldhp1:=ZY.dn
  refine Zl 0 1 [8] (de (aD 12 (ZH 8 12 [0,1,2,3] [3,2] ?_)))
  obtain ⟨x3,YQ⟩:=Zs e.kids 1 (by have:=h13 om;omega)
  have hz2:=O4 Zv YQ
  have hz3:=x2.sz_eq
  have hekx3:=CP hks YQ
  have hszx3:=C4 YQ
  have htzx3:=Bd YQ
  rw [Vm] at hekx3
  rw [So om] at hekx3
  refine dx 4 (Zj none 1 3 (CN YQ)) (Zl 4 7 [5,6,7] (Z9 8 (dL 8 [1,2] [b2,b1] (Z7 [v1]) 1 1 fun v2=>Yt 3 3 [] [(45,Z4 [v1])] (Z9 9 (dc 9 [] [1,2] [b2,b1] (Kh us [v1]) ?_)))))
  rintro _ _ ⟨v3,rfl,rfl⟩
  refine Yt 2 2 [] [(46,Z4 (us++[v1]))] (Z9 10 (dc 10 [2,2] [] [] (ih l x3 (us++[v1]) (xs++ys1) w21 (q+X0 ys1) (by first|assumption|(rw [Yr];assumption)) (by first|assumption|exact ES hu hlwhp1.v|exact Hc hu) (by first|omega|(simp only [Yr,YS,Xw];omega)) (by first|omega|(simp only [Yr,YS,Xw];omega)) ob ob) ?_))
  rintro _ _ ⟨ys2,v4,w22,rfl,rfl,Yi⟩
  have hlwhp2:=Yi
  have hldhp2:=Yi.dn
  exact Zl 0 1 [11] (de (ZD (r1 [0,0] ⟨(ys1++ys2),v4,w22,rfl,rfl,(LW.let_ hlwhp1 hlwhp2 (by have:=O4 Zv YQ;omega))⟩ (eq:=(ro (ls:=[YU ((xs++ys1)++ys2) w22,.i ((((q+X0 ys1)+X0 ys2):Nat):Int)]) (by rw [Jv,<-AU,UN]) (rc rz))))))
 refine Yg (XR (fun fz gz F h=>F=sF [0,3,5,6] fz [(48,.b ((e.op==7)||(e.op==8)))]/\h=gz) ?_ ?_)
 ·refine ac (e.op==7) Zp (fun ZE=>?_) (fun ZE=>?_)
  ·exact ak (ZT ⟨rfl,rfl⟩ (ZI 4 (fc (x:=.b (e.op==7)) (lb (by first|rfl|(rw [Ze ZE])|(rw [Z8 ZE])|(simp [ZE];done)|(rw [Xt];simp [ZE];done)|omega)) fl)))
  exact Td (ZT ⟨rfl,rfl⟩ (ZI 4 (fc (x:=.b (e.op==8)) (lb (by first|rfl|(rw [Ze ZE])|(rw [Z8 ZE])|(simp [ZE];done)|(rw [Xt];simp [ZE];done)|omega)) fl)))
 rintro F h ⟨rfl,rfl⟩
 refine ac ((e.op==7)||(e.op==8)) (p:=(e.op=7)∨(e.op=8)) (Ys Zp Zp) (fun Yf=>?_) (fun Yf=>?_)
 ·refine aD 9 (ZH 5 9 [0,1,2,3] [1,0] ?_)
  obtain ⟨x4,Vz⟩:=Zs e.kids 0 om
  have hekx4:=CP hks Vz
  have hszx4:=C4 Vz
  have htzx4:=Bd Vz
  rw [Vm] at hekx4
  rw [Zf7 om] at hekx4
  refine dx 4 (Zj none 0 3 (CN Vz)) (Zl 2 4 [5,6] (Z9 7 (dc 7 [2,2] [] [] (ih l x4 us xs w q (by first|assumption|(rw [Yr];assumption)) (by first|assumption|exact ES hu hlwhp1.v|exact Hc hu) (by first|omega|(simp only [Yr,YS,Xw];omega)) (by first|omega|(simp only [Yr,YS,Xw];omega)) ob ob) ?_)))
  rintro _ _ ⟨ys3,v5,w23,rfl,rfl,YL⟩
  have hlwhp3:=YL
  have hldhp3:=YL.dn
  refine Zl 0 1 [8] (de (ar (iL (YI []) 0 2 fun v6=>Z0 (Zw 4 [4,3] (ic [] (A5 g.decls e.num) ?_)))))
  rintro _ _ ⟨v7,rfl,rfl⟩
  refine Z0 (Yg (ab 1 (Y3 (fun fz gz m F h=>∃(k:Nat) (cs:List Z6) (u:Value),(1<=k/\k<=e.kids.length)/\(cs.length+1=k)/\(TY g.decls g.funcs.length (T3 g.decls e.op e.num (q+X0 ys3)) 0 cs)/\(X2 cs+6*x4.sz<=cs.length+6*Xz (e.kids.take k))/\(Kc WU cs)/\F=sF [0,3,5,6,10] fz [(11,Th cs u),(12,Z4 (ZX g.decls e.num)),(13,.i k)]/\h=[Zd gz 2,Zd gz 4,Zd gz 5,.tail u 2,Zd gz 3]/\m=e.kids.length-k) _ _ _ ⟨1,[],v6,ob,ob,True.intro,(by have h:Xz (e.kids.take 1)=Xz (e.kids.take 0)+x4.sz:=Bd Vz;simp only [X2,Xw];omega),True.intro,rfl,rfl,rfl⟩ (wk [2,3,3,1,1] (fr (fc (x:=ZQ (ZX g.decls e.num) v7) (Zc.forget _ _) (fc (x:=.i 1) li fl)))) ?_)))
  rintro m F h ⟨k,cs,u,Ye,Zk,Zu,Yu,XX,rfl,rfl,rfl⟩
  refine Yk 3 [1] (iw (Ih e.kids) (Y5 ((k:Int)<(e.kids.length:Int)) (fun Xb=>?_) (fun Xb=>?_)))
  ·refine ak (aq (ab 2 (ZF (X4 (VL [1] (XR (fun fz gz F h=>∃(mf:Nat),(T3 g.decls e.op e.num (q+X0 ys3) cs.length=(q+X0 ys3)+mf)/\(mf<=3)/\(Qd g.decls e.op e.num us.length k=us.length+mf)/\F=sF [0,3,5,6,10,11,12,13] fz [(14,.i mf)]/\h=gz) ?_ ?_))))))
   ·refine ac (e.op==8) Zp (fun Xg=>?_) (fun Xg=>?_)
    ·refine aE 10 (ZH 6 10 [0,1,2,3] [2] (da 4 (((k-1:Nat):Int)) (((k:Int))-(1)) ?_))
     obtain ⟨x5,Uy⟩:=Zs (ZX g.decls e.num) (k-1) (by have:=h8 om;omega)
     exact dx 5 (Zj none ((k-1:Nat):Int) 1 (Y1 Uy)) (Zl 3 4 [6] (Z9 7 (Yo 7 [] [] [] (KG g.decls x5) (dn 8 (.i (((ZV g.decls x5).length:Nat):Int)) (.i (((Z7 (ZV g.decls x5)).length:Nat):Int)) (li (by rw [Yd])) (Zl 0 1 [9] (de (ZT ⟨(ZV g.decls x5).length,(M5 om (by rw [show cs.length=k-1 by omega];exact Uy)),(by have:=U5 Xu x5;omega),(Zf8 om (show k=(k-1)+1 by omega) Uy),rfl,rfl⟩ (ZI 5 (fc (x:=.i (((ZV g.decls x5).length:Nat):Int)) (li (by first|rfl|(rw [Ze Xg])|(rw [Z8 Xg])|(simp [Xg];done)|(rw [Xt];simp [Xg];done)|omega)) fl)))))))))
    exact ak (ZT ⟨0,(M6 om),om,(Sp om),rfl,rfl⟩ (ZI 5 (fc (x:=.i 0) (li (by first|rfl|(rw [Ze Xg])|(rw [Z8 Xg])|(simp [Xg];done)|(rw [Xt];simp [Xg];done)|omega)) fl)))
   rintro F h ⟨mf,Zap,Zjd,Zaq,rfl,rfl⟩
   refine aE 25 (ZH 20 25 [0,1,2,3,4] [2,1] ?_)
   obtain ⟨x6,Cb⟩:=Zs e.kids k om
   have hekx6:=CP hks Cb
   have hszx6:=C4 Cb
   have htzx6:=Bd Cb
   rw [Vm] at hekx6
   rw [Zaq] at hekx6
   have htk:=Av (xs:=e.kids) (k+1)
   have hbl:=F9 cs
   refine dx 5 (Zj none (k:Int) 3 (CN Cb)) (ZH 7 19 [6,7,8,9,10,11,12,15,16,17,18,19] [0,0] (da 20 ((((q+X0 ys3)+mf:Nat):Int)) (((((q+X0 ys3):Nat):Int))+((mf:Int))) (Z9 13 (dc 13 [] [0,1,2] [l,b2,b1] (IG (q+X0 ys3) mf) ?_))))
   rintro _ _ ⟨xs1,rfl,rfl,YP⟩
   have hnx:=YP
   refine Z9 14 (dc 14 [] [0,1,2] [l,b2,b1] (Kh us xs1) ?_)
   rintro _ _ ⟨v8,rfl,rfl⟩
   refine Yt 4 4 [] [(98,Z4 (us++xs1))] (Z9 21 (dc 21 [] [] [] (OB g x6 (us++xs1) ((q+X0 ys3)+mf) e.sz (he:=(by rw [Yr,hnx.1];exact hekx6)) (hu:=(Zi9 hu hnx.2)) (hul:=(by rw [Yr,hnx.1];omega)) (hql:=om) (ih:=ih)) ?_))
   rintro _ _ ⟨b3,rfl,rfl,Xc⟩
   have hlb:=Xc
   exact Z9 22 (WJ 22 [] [] [ZW b3] (YI [b3]) (Tb [b3]).symm 1 2 fun v9=>Yt 2 2 [] [(106,Xy [b3])] (Z9 23 (dp 23 5 [] [] (YI (cs++[b3])) (YI cs) (YI [b3]) u none 2 (TX _) (TX _) (Fo _) (by simp<;>omega) (by simp [JV,YI]) fun v10=>Zl 0 1 [24] (de (az (Z1 1 (ZJ k (Z0 (ZK ⟨k+1,(cs++[b3]),v10,ob,ob,(O6 Zu (by rw [Zap];exact hlb.1)),(by have:=hlb.2;rw [DL,Yr];simp only [X2,YS,Xw];omega),(Rh XX hlb.op),rfl,rfl,rfl⟩ (wk [3,3,3,0,2] (fw (ZO k fl))))))))))))
  refine ax 1 (Zw 6 [1,1] (iL (Z7 [v5]) 1 1 fun v11=>ZU 2 [(116,.agg [.i e.op,.i e.num,.i 0,Z4 [v5],Xy cs])] (ic [1,4] (Oo l (xs++ys3) w23 (q+X0 ys3) (Z5.mk e.op e.num 0 [v5] cs) (hl:=(by first|(have h1:=Je zs;have h2:=Av (xs:=e.kids) k;have h3:=B9 zs;(try simp only [Yr]);omega)|((try simp only [Yr]);omega))) (hq:=(by first|(have h1:=Je zs;have h2:=Av (xs:=e.kids) k;have h3:=B9 zs;(try simp only [Yr]);omega)|((try simp only [Yr]);omega)))) ?_)))
  rintro _ _ ⟨w24,rfl,rfl⟩
  refine Z0 ?_
  have hcb:Yp e.op=false:=by simp [Yp];omega
  exact ZD (r1 [0,0] ⟨(ys3++[Z5.mk e.op e.num 0 [v5] cs]),(((q+X0 ys3):Nat):Int),w24,rfl,rfl,(LW.branch (s0:=x4.sz) (sr:=Xz (e.kids.take k)-x4.sz) om (fun h=>by have:=h7 h;omega) (fun h=>by have:=h8 h;omega) hnum hlwhp3.fs hlwhp3.v Zu om hlwhp3.sz (by have:=F9 cs;omega) (by have:=Av (xs:=e.kids) k;omega) hlwhp3.op XX)⟩ (eq:=(ro (ls:=[YU ((xs++ys3)++[(Z5.mk e.op e.num 0 [v5] cs)]) w24,.i ((((q+X0 ys3)+1):Nat):Int)]) (by rw [DR (s:=Z5.mk e.op e.num 0 [v5] cs) hcb,<-AU,UN]) (rc rz))))
 refine ak (ar (iL (Z7 []) 0 1 fun v12=>?_))
 refine Z0 (Yg (ab 3 (Y3 (fun fz gz m F h=>∃(k:Nat) (asl:LI) (u:Value) (zs:List Z5) (w3:Value),(k<=e.kids.length)/\(asl.length=k)/\(Tz g.decls g.funcs.length q zs)/\(∀a∈asl,0<=a/\a<((q+X0 zs:Nat):Int))/\(Y9 zs<=6*Xz (e.kids.take k))/\(Q9 WU zs)/\F=sF [0,3,5,6] fz [(15,ZQ asl u),(16,.i k)]/\h=[Zd gz 1,Zd gz 2,.obj l [YU (xs++zs) w3,.i (((q+X0 zs):Nat):Int)],.tail u 1,.tail w3 5]/\m=e.kids.length-k) _ _ _ ⟨0,[],v12,[],w,ob,ob,True.intro,(fun a ha=>by cases ha),(by simp [Y9]),True.intro,rfl,rfl,rfl⟩ (wk [1,1,1,0,0] (fr (Yb fl)) (e:=(rc (rc (ro (ls:=[YU xs w,.i q]) (by simp [X0]) (rc (rc rz))))))) ?_)))
 rintro m F h ⟨k,asl,u,zs,w3,U3,XY,XJ,Jr,Ziz,Nt,rfl,rfl,rfl⟩
 refine Yk 3 [0] (iw (Ih e.kids) (Y5 ((k:Int)<(e.kids.length:Int)) (fun VS=>?_) (fun VS=>?_)))
 ·refine ak (aq (ab 4 (aD 10 (ZH 5 10 [0,1,2,3,4] [1,0] ?_))))
  obtain ⟨x7,G3⟩:=Zs e.kids k om
  have hzl:=Je zs
  have hzd:=B9 zs
  have htk:=Av (xs:=e.kids) (k+1)
  have hekx7:=CP hks G3
  have hszx7:=C4 G3
  have htzx7:=Bd G3
  rw [Vm] at hekx7
  rw [Sp om] at hekx7
  refine dx 5 (Zj none (k:Int) 3 (CN G3)) (Zl 2 4 [6,7] (Z9 8 (dc 8 [2,3] [] [] (ih l x7 us (xs++zs) w3 (q+X0 zs) (by first|assumption|(rw [Yr];assumption)) (by first|assumption|exact ES hu hlwhp1.v|exact Hc hu) (by first|omega|(simp only [Yr,YS,Xw];omega)) (by first|omega|(simp only [Yr,YS,Xw];omega)) ob ob) ?_)))
  rintro _ _ ⟨ys4,v13,w25,rfl,rfl,XT⟩
  have hlwhp6:=XT
  have hldhp6:=XT.dn
  exact Zl 0 1 [9] (de (az (Z1 2 (iL (Z7 [v13]) 1 1 fun v14=>ZU 0 [(137,Z4 [v13])] (ip 5 (Z7 (asl++[v13])) (Z7 asl) (Z7 [v13]) u none 1 (YB _) (YB _) (Wc _) (by simp<;>omega) (by simp [Wb,Z7]) fun v15=>Z0 (az (Z1 1 (ZJ k (Z0 (ZK ⟨k+1,(asl++[v13]),v15,(zs++ys4),w25,ob,ob,(CR.2 ⟨XJ,hlwhp6.fs⟩),(by rw [Jv,<-AU];exact ES Jr hlwhp6.v),(by have:=hlwhp6.sz;rw [TT];omega),(Gv.2 ⟨Nt,hlwhp6.op⟩),rfl,rfl,rfl⟩ (wk [4,4,2,0,1] (fr (ZO k fl)) (e:=(rc (rc (ro (ls:=[YU ((xs++zs)++ys4) w25,.i ((((q+X0 zs)+X0 ys4):Nat):Int)]) (by rw [Jv,<-AU,UN]) (rc (rc rz)))))))))))))))))
 refine ax 3 (Zw 6 [0,0] (iL (YI []) 0 2 fun v16=>ZU 1 [(146,.agg [.i e.op,.i e.num,.i 0,Z4 asl,Xy []])] (ic [3,4] (Oo l (xs++zs) w3 (q+X0 zs) (Z5.mk e.op e.num 0 asl []) (hl:=(by first|(have h1:=Je zs;have h2:=Av (xs:=e.kids) k;have h3:=B9 zs;(try simp only [Yr]);omega)|((try simp only [Yr]);omega))) (hq:=(by first|(have h1:=Je zs;have h2:=Av (xs:=e.kids) k;have h3:=B9 zs;(try simp only [Yr]);omega)|((try simp only [Yr]);omega)))) ?_)))
 rintro _ _ ⟨w26,rfl,rfl⟩
 refine Z0 ?_
 have hcb:Yp e.op=false:=by simp [Yp];omega
 exact ZD (r1 [0,0] ⟨(zs++[Z5.mk e.op e.num 0 asl []]),(((q+X0 zs):Nat):Int),w26,rfl,rfl,(LW.node om h9 hnum XJ Jr om (by have:=Av (xs:=e.kids) k;omega) Nt)⟩ (eq:=(ro (ls:=[YU ((xs++zs)++[(Z5.mk e.op e.num 0 asl [])]) w26,.i ((((q+X0 zs)+1):Nat):Int)]) (by rw [DR (s:=Z5.mk e.op e.num 0 asl []) hcb,<-AU,<-UN]) (rc rz))))
theorem Z7p (l:Nat) (g:Wd) (e:Z2) (us:LI) (xs:List Z5) (w:Value) (q:Nat) (hd:GD g.decls) (he:eW g.decls g.funcs.length us.length e) (hu:∀a∈us,0<=a/\a<(q:Int)) (hul:us.length+4*e.sz<=100000) (hxl:xs.length+6*e.sz<=100000) (hql:q+6*e.sz<=100000):Zi 224 [.p l 0,Ai g,Y4 e,Z4 us] [.obj l [YU xs w,.i q],.tail w 5] (fun r h=>∃(ys:List Z5) (v:Int) (w2:Value),r=.i v/\h=[.obj l [YU (xs++ys) w2,.i (((q+X0 ys):Nat):Int)],.tail w2 5]/\LW g.decls g.funcs.length q e ys v):=by
 have key:∀k:Nat,∀(l:Nat) (e2:Z2) (us2:LI) (xs2:List Z5) (w2:Value) (q2:Nat),(eW g.decls g.funcs.length us2.length e2)->(∀a∈us2,0<=a/\a<(q2:Int))->(us2.length+4*e2.sz<=100000)->(xs2.length+6*e2.sz<=100000)->(q2+6*e2.sz<=100000)->(e2.sz<k)->Zi 224 [.p l 0,Ai g,Y4 e2,Z4 us2] [.obj l [YU xs2 w2,.i q2],.tail w2 5] (fun r h=>∃(ys:List Z5) (v:Int) (w2:Value),r=.i v/\h=[.obj l [YU (xs2++ys) w2,.i (((q2+X0 ys):Nat):Int)],.tail w2 5]/\LW g.decls g.funcs.length q2 e2 ys v):=by
  intro k
  induction k with
  | zero=>intro l e2 us2 xs2 w2 q2 h1 h2 h3 h4 h5 h6;omega
  | succ k ih=>intro l e2 us2 xs2 w2 q2 h1 h2 h3 h4 h5 h6;exact Z7q l g e2 us2 xs2 w2 q2 hd h1 h2 h3 h4 h5 fun l e3 us3 xs3 w3 q3 a1 a2 a3 a4 a5 a6=>ih l e3 us3 xs3 w3 q3 a1 a2 a3 a4 a5 om
 exact key (e.sz+1) l e us xs w q he hu hul hxl hql om
theorem IF (g:Wd) (e:Z2) (us:LI) (q:Nat) (hd:GD g.decls:=by exact ob) (he:eW g.decls g.funcs.length us.length e:=by exact ob) (hu:∀a∈us,0<=a/\a<(q:Int)) (hul:us.length+4*e.sz<=100000:=by exact ob) (hql:q+6*e.sz<=100000:=by exact ob):Zi 174 [Ai g,Y4 e,Z4 us,.i q] [] (fun r h=>∃(b:Z6),r=ZW b/\h=[]/\LB g.decls g.funcs.length q e b):=(OB g e us q (e.sz+1) he hu hul hql om (fun l e2 us2 xs2 w2 q2 h1 h2 h3 h4 h5 _=>Z7p l g e2 us2 xs2 w2 q2 hd h1 h2 h3 h4 h5))
theorem Cp (ds:List Zg) (hd:Ws ds:=by exact ob):Zi 96 [ZP ds] [] (Yj (ZP ds)):=by
 have hdl:=hd.len
 refine ZG 55 Tryz.func96 (ZF (ar (iL (YA []) 0 3 fun v1=>?_)))
 refine Z0 (Yg (ab 0 (Y3 (fun fz gz m F h=>∃(k:Nat) (v:Value),(k<=ds.length)/\F=sF [0] fz [(3,A3 (ds.take k) v),(4,.i k)]/\h=[.tail v 3]/\m=ds.length-k) _ _ _ ⟨0,v1,ob,rfl,rfl,rfl⟩ (wk [0] (fc (x:=A3 [] v1) (Zc.slh _ (Yn YA rfl)) (Yb fl))) ?_)))
 rintro m F h ⟨k,v,Ye,rfl,rfl,rfl⟩
 refine YO 2 (iw (UE ds) (Y5 ((k:Int)<(ds.length:Int)) (fun Za=>?_) (fun Za=>?_)))
 ·obtain ⟨xd,hxd⟩:=Zs ds k om
  have hcl:=hd.cons_at hxd
  refine ak (aq (ab 1 (ar (iL (XO []) 0 1 fun v2=>?_))))
  refine Z0 (Yg (ab 2 (Y3 (fun fz gz m F h=>∃(j:Nat) (u:Value),(j<=xd.cons.length)/\F=sF [0,3,4] fz [(5,Gs (xd.cons.take j) u),(6,.i j)]/\h=[.tail u 1,Zd gz 1]/\m=xd.cons.length-j) _ _ _ ⟨0,v2,ob,rfl,rfl,rfl⟩ (wk [0,0] (fc (x:=Gs [] v2) (Zc.slh _ (Yn XO rfl)) (Yb fl))) ?_)))
  rintro m F h ⟨j,u,U3,rfl,rfl,rfl⟩
  refine YO 3 (Zo (Zj none (k:Int) 3 (VR hxd)) (Z1 2 (iw (UU xd.cons) (Y5 ((j:Int)<(xd.cons.length:Int)) (fun Zh=>?_) (fun Zh=>?_)))))
  ·refine ak (aq (ab 3 (az (Z1 3 (Zo (Zj none (k:Int) 3 (VR hxd)) (Z1 3 ?_))))))
   obtain ⟨x1,Z3⟩:=Zs xd.cons j om
   have hfl:=hd.fields_at hxd Z3
   refine Zo (Zj none (j:Int) 1 (C1 Z3)) (Z1 2 (ic [] (UB x1.fields) ?_))
   rintro _ _ ⟨v3,rfl,rfl⟩
   exact ZU 1 [(36,Cx x1)] (iL (XO [x1]) 1 1 fun v4=>ZU 0 [(37,KC [x1])] (ip 2 (XO (xd.cons.take (j+1))) (XO (xd.cons.take j)) (XO [x1]) u none 1 (DS _) (DS _) (Z5d _) (by simp<;>omega) (by rw [WS Z3];simp [XO]) fun v5=>Z0 (az (Z1 1 (ZJ j (Z0 (ZK ⟨j+1,v5,ob,rfl,rfl,rfl⟩ (wk [0,2] (fr (ZO j fl))))))))))
  exact ax 2 (aE 16 (Zl 13 16 [0,1,2] (dx 3 (Zj none (k:Int) 3 (VR hxd)) (Zl 8 12 [4,5,6,7] (dx 8 (Zj none (k:Int) 3 (VR hxd)) (Yt 3 7 [9,10,11,12] [(51,.agg [.i xd.frm,.i xd.to_,KC (xd.cons.take j)])] (Z9 13 (dL 13 [] [] (YA [Zg.mk xd.frm xd.to_ (xd.cons.take j)]) 1 3 fun v6=>Yt 2 2 [] [(52,ZP [Zg.mk xd.frm xd.to_ (xd.cons.take j)])] (Z9 14 (dp 14 2 [] [] (YA (ds.take (k+1))) (YA (ds.take k)) (YA [Zg.mk xd.frm xd.to_ (xd.cons.take j)]) v none 3 (Ky _) (Ky _) (Fp _) (by simp<;>omega) (by rw [WS hxd];simp [YA,Ve (show xd.cons.length<=j by omega)]) fun v7=>Zl 0 1 [15] (de (az (Z1 1 (ZJ k (Z0 (ZK ⟨k+1,v7,ob,rfl,rfl,rfl⟩ (wk [0] (fr (ZO k fl)))))))))))))))))))
 exact ax 0 (ar (Zq (Y2 (A3 (ds.take k) v) (Zc.sl _ (Yn YA (by rw [Ve om]))))))
theorem Z7x (g:Wd) (hg:Hy g:=by exact ob):Zi 133 [Ai g] [] (fun r h=>∃(n:Zm),r=Yl n/\h=[]/\FO n 181 WU):=by
 have hgl:=hg.gp.len
 have Xu:=hg.gp.decls.ok
 refine ZG 49 Tryz.func133 (ar (iA (La g) fun b1=>iA [nl,nl] fun b2=>ie (Zw 2 [1] (Zx [] (Cp g.decls) (iL (YH []) 0 5 fun v1=>Z1 1 (iA [nl,nl] fun b3=>?_))))))
 refine ZC 0 b3 [ZP g.decls,Wu [] v1] (ie (Yg (ab 0 (Y3 (fun fz gz m F h=>∃(k:Nat) (rs:List Y0) (u:Value),(k<=g.funcs.length)/\(rs.length=k)/\(∀r∈rs,RN g.decls g.funcs.length r)/\F=sF [1,2,3] fz [(4,.i k)]/\h=[.obj b3 [ZP g.decls,Wu rs u],Zd gz 2,Zd gz 3,.tail u 5]/\m=g.funcs.length-k) _ _ _ ⟨0,[],v1,ob,ob,(fun r hr=>by cases hr),rfl,rfl,rfl⟩ (wk [0,1,1,0] (Yb fl)) ?_))))
 rintro m F h ⟨k,rs,u,Ye,Zk,Zu,rfl,rfl,rfl⟩
 refine Yk 3 [2] (iw (CO g.funcs) (Y5 ((k:Int)<(g.funcs.length:Int)) (fun Za=>?_) (fun Za=>?_)))
 ·refine ak (aq (ab 1 (Zw 3 [2] ?_)))
  obtain ⟨x1,Z3⟩:=Zs g.funcs k om
  have hso:=(hg.gp.sigs _ (ZZ Z3)).bd
  have hsi:=hg.gp.sigs _ (ZZ Z3)
  have hbo:=hg.body _ (ZZ Z3)
  refine Zo (Zj none (k:Int) 5 (Fq Z3)) (Z1 1 (iA [nl,.i 0,.i 0,.i 0,nl] fun b4=>?_))
  refine ZC 0 b4 (Gi x1) (ie (Zw 2 [0] (iw (Yd x1.params) (Z0 (aD 9 (ZH 4 9 [0,1,2,3,5] [3,0] (KY (fun fz gz F h=>∃(b5:Z6) (b6:Nat) (xs1:LI),(xs1.length=x1.params.length/\∀i∈xs1,(0:Int)<=i/\i<(0:Int)+x1.params.length)/\(LB g.decls g.funcs.length x1.params.length x1.body b5)/\F=sF [1,2,3,4,5] fz [(7,.p b6 0)]/\h=[.obj b6 (Xd b5),Zd gz 0,Zd gz 1,Zd gz 2,Zd gz 3,Zd gz 4]) ?_ ?_)))))))
  ·refine VH 4 7 ?_ ?_
   ·refine dc 4 [] [0,3] [b4,b1] (IG 0 x1.params.length) ?_
    rintro _ _ ⟨xs1,rfl,rfl,ZY⟩
    have hnx:=ZY
    refine VH 6 7 ?_ ?_
    ·refine dc 6 [] [] [] (IF g x1.body xs1 x1.params.length (hd:=hg.gp.decls) (he:=(by rw [hnx.1];exact hbo.1)) (hu:=(fun a ha=>by have:=hnx.2 a ha;omega))) ?_
     rintro _ _ ⟨b5,rfl,rfl,Yi⟩
     have hlb:=Yi
     exact Z9 7 (dA 7 [] [] [nl,.i 0] fun b6=>Z9 8 (YK 8 0 [] [] b6 (Xd b5) (de (ZT ⟨_,b6,_,(by assumption),(by assumption),rfl,rfl⟩ (ZI 6 fl)))))
    refine dA 7 [0,3] [b4,b1] [nl,.i 0] fun b7=>Z9 6 (dc 6 [] [] [] (IF g x1.body xs1 x1.params.length (hd:=hg.gp.decls) (he:=(by rw [hnx.1];exact hbo.1)) (hu:=(fun a ha=>by have:=hnx.2 a ha;omega))) ?_)
    rintro _ _ ⟨b8,rfl,rfl,YL⟩
    have hlb:=YL
    exact Z9 8 (YK 8 0 [] [] b7 (Xd b8) (de (ZT ⟨_,b7,_,(by assumption),(by assumption),rfl,rfl⟩ (ZI 6 fl))))
   refine dA 7 [0,3] [b4,b1] [nl,.i 0] fun b9=>Z9 4 (dc 4 [] [1,4] [b4,b1] (IG 0 x1.params.length) ?_)
   rintro _ _ ⟨xs2,rfl,rfl,YP⟩
   have hnx:=YP
   refine Z9 6 (dc 6 [] [] [] (IF g x1.body xs2 x1.params.length (hd:=hg.gp.decls) (he:=(by rw [hnx.1];exact hbo.1)) (hu:=(fun a ha=>by have:=hnx.2 a ha;omega))) ?_)
   rintro _ _ ⟨b10,rfl,rfl,Xc⟩
   have hlb:=Xc
   exact Z9 8 (YK 8 0 [] [] b9 (Xd b10) (de (ZT ⟨_,b9,_,(by assumption),(by assumption),rfl,rfl⟩ (ZI 6 fl))))
  rintro F h ⟨b5,b6,xs1,ZY,Yi,rfl,rfl⟩
  have hnx:=ZY
  have hlb:=Yi
  refine aE 14 (ZH 7 14 [0,1,2,3,6,7,8] [2,1,1,0] (VH 4 5 ?_ ?_))
  ·refine dc 4 [] [0,1,2] [b6,b4,b3] (UB x1.params) ?_
   rintro _ _ ⟨v2,rfl,rfl⟩
   exact Z9 5 (dL 5 [0,1,2] [b6,b4,b3] (Z7 []) 0 1 fun v3=>Yt 4 5 [9] [(44,.agg [Z4 x1.params,Z4 [],.i x1.result,WA b5.steps,.i b5.result])] (Z9 10 (dL 10 [2] [b3] (YH [Y0.mk x1.params [] x1.result (Z6.mk b5.steps b5.result)]) 1 5 fun v4=>Yt 3 3 [] [(45,Ka [Y0.mk x1.params [] x1.result (Z6.mk b5.steps b5.result)])] (Z9 11 (dp 11 8 [] [] (YH (rs++[Y0.mk x1.params [] x1.result (Z6.mk b5.steps b5.result)])) (YH rs) (YH [Y0.mk x1.params [] x1.result (Z6.mk b5.steps b5.result)]) u none 5 (Uv _) (Uv _) (Ar _) (by simp<;>omega) (by simp [Bc,YH]) fun v5=>Zl 1 2 [12] (Z9 13 (YK 13 6 [] [] b3 [ZP g.decls,Wu (rs++[Y0.mk x1.params [] x1.result (Z6.mk b5.steps b5.result)]) v5] (de (az (Z1 1 (ZJ k (Z0 (ZK ⟨k+1,(rs++[Y0.mk x1.params [] x1.result (Z6.mk b5.steps b5.result)]),v5,ob,ob,(XE Zu (RN.of hsi hlb hbo.2)),rfl,rfl,rfl⟩ (wk [0,6,6,0] (ZO k fl)))))))))))))))
  refine dL 5 [0,1,1,2] [b6,b4,b4,b3] (Z7 []) 0 1 fun v6=>Z9 4 (dc 4 [] [0,1,2] [b6,b4,b3] (UB x1.params) ?_)
  rintro _ _ ⟨v7,rfl,rfl⟩
  exact Yt 4 5 [9] [(44,.agg [Z4 x1.params,Z4 [],.i x1.result,WA b5.steps,.i b5.result])] (Z9 10 (dL 10 [2] [b3] (YH [Y0.mk x1.params [] x1.result (Z6.mk b5.steps b5.result)]) 1 5 fun v8=>Yt 3 3 [] [(45,Ka [Y0.mk x1.params [] x1.result (Z6.mk b5.steps b5.result)])] (Z9 11 (dp 11 8 [] [] (YH (rs++[Y0.mk x1.params [] x1.result (Z6.mk b5.steps b5.result)])) (YH rs) (YH [Y0.mk x1.params [] x1.result (Z6.mk b5.steps b5.result)]) u none 5 (Uv _) (Uv _) (Ar _) (by simp<;>omega) (by simp [Bc,YH]) fun v9=>Zl 1 2 [12] (Z9 13 (YK 13 6 [] [] b3 [ZP g.decls,Wu (rs++[Y0.mk x1.params [] x1.result (Z6.mk b5.steps b5.result)]) v9] (de (az (Z1 1 (ZJ k (Z0 (ZK ⟨k+1,(rs++[Y0.mk x1.params [] x1.result (Z6.mk b5.steps b5.result)]),v9,ob,ob,(XE Zu (RN.of hsi hlb hbo.2)),rfl,rfl,rfl⟩ (wk [0,6,6,0] (ZO k fl))))))))))))))
 exact ax 0 (Zw 1 [0] (ZC 1 b2 [ZP g.decls,Wu rs u] (ie (ZD (r3 [] [.agg [ZP g.decls,Wu rs u]] [0] [(b2,b2)] ⟨(Zm.mk g.decls rs),rfl,rfl,(RN.all hg.gp.decls (by show 1<=rs.length/\rs.length<=4;omega) (by show ∀r∈rs,RN g.decls rs.length r;rw [show rs.length=g.funcs.length by omega];exact Zu) om)⟩ (Zc.agg (.cons (lr _) (.cons (Zc.forget _ _) .nil))))))))
theorem SZ (n:Zm) (hz:UP n:=by exact ob):Zi 83 [Yl n] [] (Yj (.b (X7 n))):=by
 have hzl:=hz.len
 refine ZG 35 Tryz.func83 (ar (iA (YR n) fun b1=>Z0 (Yk 1 [0] (Zx [] (Zgu n (hz:=hz.decls) (hr:=(fun r hr=>⟨hz.params r hr,hz.lent r hr⟩))) (YG (!Vb n) (p:=¬(Vb n=true)) (YE Iff.rfl) (fun Za=>?_) (fun Za=>?_))))))
 ·exact ar (Zq (Y2 (.b false) (lb (by first|rfl|omega|grind [X7]))))
 have hok:=Lp hz (by simpa using Za)
 refine ak (Yg (ab 0 (Y3 (fun fz gz m F h=>∃(k:Nat),(k<=n.routines.length)/\(Qb n (n.routines.drop k)=Qb n n.routines)/\F=sF [1] fz [(3,.i k)]/\h=gz/\m=n.routines.length-k) _ _ _ ⟨0,ob,ob,rfl,rfl,rfl⟩ (wk [0] (Yb fl)) ?_)))
 rintro m F h ⟨k,Ye,Zk,rfl,rfl,rfl⟩
 refine Yk 3 [0] (iw (U7 n.routines) (Y5 ((k:Int)<(n.routines.length:Int)) (fun Zh=>?_) (fun Zh=>?_)))
 ·refine ak (aq (ab 1 (Zw 3 [0] ?_)))
  obtain ⟨x1,Z3⟩:=Zs n.routines k om
  have ZL:=hz.body _ (ZZ Z3)
  have hps:=hok.params_at Z3
  refine Zo (Zj none (k:Int) 5 (WD Z3)) (Z1 1 (iA [nl,nl,.i 0,nl,.i 0] fun b2=>ZC 0 b2 (QF x1) (ie (aD 15 (ZH 13 15 [0,1] [0] (Z9 2 (Yo 2 [] [] [] (Zgp x1.body) (Am [1,3] [(34,.b ((decide ((Tk x1.body)<0))||((X6 n x1.params x1.body) != x1.result)))] (fun gz=>gz) ?_ ?_))))))))
  ·refine Zl 10 12 [3,4] (db (b:=(decide ((Tk x1.body)<0))) 24 (fun Zb=>?_) (fun Zb=>?_))
   ·exact Zl 0 10 [5,6,7,8,9,10,11,12,13,14] (de (wk [0,0] (Zt true Zb fl)))
   exact ZH 3 10 [5,6,7,8,9,11,12] [1,0,0,0] (Z9 10 (Yo 10 [] [0] [b2] (SM n x1.params x1.body ob ob) (Zl 0 2 [13,14] (de (wk [0,0] (Zt ((X6 n x1.params x1.body) != x1.result) Zb fl))))))
  refine ac ((decide ((Tk x1.body)<0))||((X6 n x1.params x1.body) != x1.result)) (p:=((Tk x1.body)<0)∨((X6 n x1.params x1.body)≠x1.result)) (Ys dq Ym) (fun ZE=>?_) (fun ZE=>?_)
  ·refine ZF ?_
   rw [Y7 Z3] at Zk
   exact ZD (Y2 (.b false) (lb (by clear Z3;first|rfl|omega|grind [Qb,X7])))
  refine ak (az (Z1 1 (ZJ k (Z0 ?_))))
  have hdr:=Y7 Z3
  exact ZK ⟨k+1,ob,(by rw [hdr] at Zk;clear hdr Z3;grind [Qb]),rfl,rfl,rfl⟩ (wk [1] (ZO k fl))
 refine ax 0 (ZF ?_)
 try rw [Xf (xs:=n.routines) (k:=k) om] at Zk
 exact ZD (Y2 (.b true) (lb (by first|rfl|omega|grind [Qb,X7])))
end Go.Abs
