/-
  A part of the proofs of several laws (see the last file): no condition.
-/
import Derived.Test.YtfjgjacklgaioaaGreatVgE
set_option linter.all false
set_option linter.unusedVariables false
set_option linter.unusedSimpArgs false
set_option linter.unusedSectionVars false
set_option maxRecDepth 10000
set_option maxHeartbeats 4000000
namespace Go.Abs
open Go.Proofs
theorem Z4r (b:Nat) (ga:Hd) (gb:Hd) (gc:Hd) (n:Zl) (L:Vq) (ln:LI) (am:List X2) (xs:List Z5) (q:Int) (vs:LI) (hn:X3 n:=by exact ob) (hk:X7 n.decls L q:=by exact ob) (har:V6 n.decls L am:=by exact ob) (ht:Xj n xs L.vars=some vs:=by exact ob) (hnn:∀t∈L.vars,0<=t) (hb:L.vars.length+am.length+4*Yk xs<=900000000:=by exact ob) (hq:0<=q/\q+4*Yk xs<=999999980:=by exact ob) (hr:TS xs:=by exact ob) (ih:∀(s2:Z5) (c:Nat) (ra:Hd) (rb:Hd) (rc:Hd) (M:Vq) (a2:List X2) (p:Int),(s2.sz<=Yk xs)->(X7 n.decls M p)->(V6 n.decls M a2)->(0<=Y0 n M.vars s2)->(∀t∈M.vars,0<=t)->(M.vars.length+a2.length+4*s2.sz<=900000000)->(0<=p/\p+4*s2.sz<=999999980)->(s2.rng)->Zi 177 [.p c 0,YD s2] [.obj c [ZM n.decls,YO n,Z4 ln,Xf a2,.h ra,.h rb,.h rc],rV ra M.vars,rV rb M.own,rV rc M.tok] (fun r h=>(∃(wa:Hd) (wb:Hd) (wc:Hd) (M':Vq),r=.b true/\h=[.obj c [ZM n.decls,YO n,Z4 ln,Xf a2,.h wa,.h wb,.h wc],rV wa M'.vars,rV wb M'.own,rV wc M'.tok]/\WM n ln M s2=some M')∨(r=.b false/\h=[]/\WM n ln M s2=none))):Zi 124 [.p b 0,Vl xs] [.obj b [ZM n.decls,YO n,Z4 ln,Xf am,.h ga,.h gb,.h gc],rV ga L.vars,rV gb L.own,rV gc L.tok] (fun r h=>(∃(wa:Hd) (wb:Hd) (wc:Hd) (L':Vq),r=.b true/\h=[.obj b [ZM n.decls,YO n,Z4 ln,Xf am,.h wa,.h wb,.h wc],rV wa L'.vars,rV wb L'.own,rV wc L'.tok]/\Xt n ln L xs=some L')∨(r=.b false/\h=[]/\Xt n ln L xs=none)):=by
 have hxl:=JH xs
 refine ZE 18 Tryz.func124 (Zy (YP 1 (iw (VU xs) (Z0 (ab 0 (Y3 (fun fz gz m F h=>∃(k:Nat) (q2:Int) (L2:Vq) (ka:Hd) (kb:Hd) (kc:Hd),(k<=xs.length)/\(X7 n.decls L2 q2)/\(0<=q2/\q2+4*Yk (xs.drop k)<=999999980)/\(L2.vars.length+am.length+4*Yk (xs.drop k)<=900000000)/\(Xj n (xs.drop k) L2.vars=some vs)/\(Xt n ln L2 (xs.drop k)=Xt n ln L xs)/\(V6 n.decls L2 am)/\(∀t∈L2.vars,0<=t)/\F=sF [0,7,8] fz [(9,.i k)]/\h=[.obj b [ZM n.decls,YO n,Z4 ln,Xf am,.h ka,.h kb,.h kc],rV ka L2.vars,rV kb L2.own,rV kc L2.tok]/\m=xs.length-k) _ _ _ ⟨0,q,L,ga,gb,gc,ob,hk,(by rw [KS];omega),(by rw [KS];omega),ht,rfl,har,hnn,rfl,rfl,rfl⟩ (ZF 4 (Ya fl)) ?_))))))
 rintro m F h ⟨k,q2,L2,ka,kb,kc,Ye,Zk,Zx,Yy,XY,TF,Ih,NV,rfl,rfl,rfl⟩
 refine Zy (aq (XF ((k:Int)<(xs.length:Int)) (fun Za=>?_) (fun Za=>?_)))
 ·obtain ⟨s1,hs1⟩:=Zt xs k om
  have hdr:=Y5 hs1
  have hz:Yk (xs.drop k)=s1.sz+Yk (xs.drop (k+1)):=by rw [hdr,Yk]
  have Xv:=Z1p hs1
  have hsr:=MO hr hs1
  rw [hdr] at XY TF
  obtain ⟨g1,g2⟩:=CS XY
  refine ak (aq (ab 1 (ar (Zq (Zm none (k:Int) 5 (VP hs1)) (Z1 1 (iA [.i 0,.i 0,.i 0,nl,nl] fun b1=>ZA 0 b1 (Xz s1) (ie (Zv 2 [0] (ic [1,1,1,1] (ih s1 b ka kb kc L2 am q2 ob Zk Ih g1 NV om om hsr) ?_)))))))))
  rintro _ _ (⟨wa1,wb1,wc1,M'1,rfl,rfl,ZY⟩|⟨rfl,rfl,Yf⟩)
  ·have hP:=ZY
   have kx:=Fg hn Zk Zx.1 g1 hP
   exact Z0 (WF (ak (az (ZJ k (Z0 (ZK ⟨k+1,(q2+4*s1.sz),M'1,wa1,wb1,wc1,ob,kx.1,om,(by rw [kx.2];have:=F7 n L2.vars s1;omega),(by rw [kx.2];exact g2),(by rw [<-TF,Xt,hP];rfl),(Z22 hn Zk Zx.1 g1 hP Ih),(by rw [kx.2];exact Zh8 NV g1),rfl,rfl,rfl⟩ (ZF 4 (ZO k fl))))))))
  have hP:=Yf
  exact Z0 (Wg (ar (Zp (r1 [] (.inr ⟨rfl,rfl,(by rw [<-TF,Xt,hP];rfl)⟩)))))
 exact ax 0 (ar (Zp (r1 [0,0,0,0] (.inl ⟨ka,kb,kc,L2,rfl,rfl,(by rw [<-TF,Xm om];rfl)⟩))))
theorem NZ (am:List X2) (hl:am.length<=1000000000:=by exact ob):Zi 165 [Xf am] [] (fun r h=>∃(v:Value),r=M1 am v/\h=[.tail v 4]):=by
 refine ZE 8 Tryz.func165 (Zy (YP 1 (iN (WR am) (fun hz1=>?_) ?_)))
 ·have hz1:=Z75 hz1
  exact ie (Wg (Zy (UM 4 (ZB (r2 [0] [nl] ⟨(.slice none 0 0),rfl,rfl⟩ (Zc.slh _ (by first|rfl|(subst_vars;rfl))))))))
 exact ie (WF (ak (ar (iL (WR []) 0 4 fun v1=>Z1 1 (ip 0 (WR am) (WR []) (WR am) v1 none 4 (Dc _) (Dc _) (Iv _) (by simp<;>omega) (by simp [WR]) fun v2=>Zp (r1 [0] ⟨v2,rfl,rfl⟩))))))
theorem FH (am:List X2) (a:X2) (hl:am.length<=900000000:=by exact ob):Zi 99 [Xf am,.agg [.i a.mat,.i a.fst,Z4 a.fds,.b a.chg]] [] (Yl (Xf (am++[a]))):=by
 refine ZE 10 Tryz.func99 (ar (iA [.i a.mat,.i a.fst,Z4 a.fds,.b a.chg] fun b1=>?_))
 refine Z0 (aD 6 (ZI 4 6 [0,2] [0] (Jq (fun fz gz F h=>∃(v3:Value),F=sF [] fz [(4,M1 (am++[a]) v3)]/\h=gz) ?_ ?_)))
 ·refine VN 1 3 ?_ ?_
  ·refine dc 1 [] [0] [b1] (NZ am) ?_
   rintro _ _ ⟨v1,rfl,rfl⟩
   exact Z9 3 (dL 3 [] [] (WR [a]) 1 4 fun v2=>YA 2 2 [] [(8,Xf [a])] (Z9 4 (dp 4 1 [] [] (WR (am++[a])) (WR am) (WR [a]) v1 none 4 (Dc _) (Dc _) (Iv _) (by simp<;>omega) (by simp [On,WR]) fun v3=>Zj 0 1 [5] (de (ZU ⟨v3,rfl,rfl⟩ (wk [2] fl))))))
  refine dL 3 [] [] (WR [a]) 1 4 fun v4=>Z9 1 (dc 1 [] [] [] (NZ am) ?_)
  rintro _ _ ⟨v5,rfl,rfl⟩
  exact YA 2 2 [] [(8,Xf [a])] (Z9 4 (dp 4 0 [] [] (WR (am++[a])) (WR am) (WR [a]) v5 none 4 (Dc _) (Dc _) (Iv _) (by simp<;>omega) (by simp [On,WR]) fun v6=>Zj 0 1 [5] (de (ZU ⟨v6,rfl,rfl⟩ (wk [2] fl)))))
 rintro F h ⟨v3,rfl,rfl⟩
 exact ZB (ZW (M1 (am++[a]) v3) (Zc.forget _ _))
theorem Z4k (b:Nat) (ga:Hd) (gb:Hd) (gc:Hd) (n:Zl) (L:Vq) (ln:LI) (am:List X2) (s:Z5) (q:Int) (hn:X3 n:=by exact ob) (hty:KV n:=by exact ob) (hlt:Cc n:=by exact ob) (hk:X7 n.decls L q:=by exact ob) (har:V6 n.decls L am:=by exact ob) (hln:ln.length<=4294967296:=by exact ob) (hf:AG n L.vars s:=by exact ob) (hop:s.op=7∨s.op=8:=by exact ob) (hnn:∀t∈L.vars,0<=t) (hb:L.vars.length+am.length+4*s.sz<=900000000:=by exact ob) (hq:0<=q/\q+4*s.sz<=999999980:=by exact ob) (hr:s.rng:=by exact ob) (ih:∀(ys:List Z5) (c:Nat) (ra:Hd) (rb:Hd) (rc:Hd) (M:Vq) (a2:List X2) (p:Int) (vs:LI),(Yk ys<s.sz)->(X7 n.decls M p)->(V6 n.decls M a2)->(Xj n ys M.vars=some vs)->(∀t∈M.vars,0<=t)->(M.vars.length+a2.length+4*Yk ys<=900000000)->(0<=p/\p+4*Yk ys<=999999980)->(TS ys)->Zi 124 [.p c 0,Vl ys] [.obj c [ZM n.decls,YO n,Z4 ln,Xf a2,.h ra,.h rb,.h rc],rV ra M.vars,rV rb M.own,rV rc M.tok] (fun r h=>(∃(wa:Hd) (wb:Hd) (wc:Hd) (M':Vq),r=.b true/\h=[.obj c [ZM n.decls,YO n,Z4 ln,Xf a2,.h wa,.h wb,.h wc],rV wa M'.vars,rV wb M'.own,rV wc M'.tok]/\Xt n ln M ys=some M')∨(r=.b false/\h=[]/\Xt n ln M ys=none))):Zi 222 [.p b 0,YD s] [.obj b [ZM n.decls,YO n,Z4 ln,Xf am,.h ga,.h gb,.h gc],rV ga L.vars,rV gb L.own,rV gc L.tok] (fun r h=>(∃(wa:Hd) (wb:Hd) (wc:Hd) (L':Vq),r=.b true/\h=[.obj b [ZM n.decls,YO n,Z4 ln,Xf am,.h wa,.h wb,.h wc],rV wa L'.vars,rV wb L'.own,rV wc L'.tok]/\JV n ln L s=some L')∨(r=.b false/\h=[]/\JV n ln L s=none)):=by
 have hlk:=hk.len
 obtain ⟨e1,e2,e3,e4,e5⟩:=hk.len
 have XC:=hn.decls
 have hkz:=Ts s
 have haz:=QK s
 obtain ⟨hk1,hk2,hk3⟩:=hf.kids hop
 obtain ⟨kd,hkd⟩:=Zt s.kids 0 om
 obtain ⟨x,hxa⟩:=hf.one om
 have ha:s.args[0]? = some x:=by rw [hxa];rfl
 have hx:=hf.args x (by rw [hxa];simp)
 have hgx:=JZ ha
 have hal0:=(Xs.1 ha).1
 have hr2:=hr
 rw [s.rng_eq] at hr2
 refine ZE 156 Tryz.func222 (ar (iA (Xz s) fun b1=>Z0 (Xa (Xx [0,3] [(24,.b ((s.op==8)&&(!XT L ln x)))] (fun gz=>[Ze gz 1,Ze gz 2,Ze gz 3,Ze gz 4,Ze gz 0]) ?_ ?_))))
 ·refine ZL 4 [0] (ib (b:=(s.op==8)) 16 (fun Zb=>?_) (fun Zb=>?_))
  ·have ZY:s.op=8:=(Zr).1 Zb
   exact ZL 3 [0] (Zq (Zm none 0 1 (Y2 ha)) (Z1 1 (Zw [1,1,1,1] (I8 b ga gb gc n L ln am x ob ob ob ob ob hk.down ob) (Z0 (ZF 5 (Zu (!XT L ln x) Zb fl))))))
  have Yf:¬(s.op=8):=Y8 Zr Zb
  exact Z0 (wk [1,1,1,1,0] (Zu false Zb fl))
 refine ac ((s.op==8)&&(!XT L ln x)) (p:=(s.op=8)/\(¬(XT L ln x=true))) (YG Zr (Ym Iff.rfl)) (fun Za=>?_) (fun Za=>?_)
 ·exact ar (Zp (r1 [] (.inr ⟨rfl,rfl,(Z5h Za.1 (by rw [hgx];exact Za.2))⟩)))
 have hgo:=NY (n:=n) (ln:=ln) (L:=L) (s:=s) (by rw [hgx];exact Za) hkd
 refine ak (Zv 2 [4] (iw (Uf s.kids) (iMN s.kids.length s.kids.length fun v1=>?_)))
 refine Z0 (Xa (VY [5] (Wm (fun fz gz F h=>F=sF [0,3] fz [(5,KH (X8 n.decls s.op s.num))]/\h=[Ze gz 1,Ze gz 2,Ze gz 3,Ze gz 4,Ze gz 5]) ?_ ?_)))
 ·refine ac (s.op==8) Zr (fun Zg=>?_) (fun Zg=>?_)
  ·exact aE 8 (ZI 2 8 [0,1,2,3,4,5] [1,5] (Z9 6 (Yz 6 [] [] [] (GJ _ s.num) (Zj 0 1 [7] (de (ZU ⟨rfl,rfl⟩ (wk [1,1,1,1,1] (fc (x:=KH ((ZV n.decls s.num).map (ZX n.decls))) (Zc.sl _ (Yu Wt (by rw [X8,Z6 om]))) fl))))))))
  exact ak (ZU ⟨rfl,rfl⟩ (wk [1,1,1,1,1] (fc (x:=BL (List.replicate s.kids.length []) v1) (Zc.sl _ (Yu Wt (by rw [show s.kids.length=2 by rw [hk1,X8,Zd om];rfl,X8,Zd om];rfl))) fl)))
 rintro F h ⟨rfl,rfl⟩
 refine Zv 4 [0] (Zq (JO 1 ga L.vars) (Z0 (Zy (Yi 2 [4] (iw (Uf s.kids) (Z0 (ab 0 (Y3 (fun fz gz m F h=>(∃(k:Nat),(k=0)/\F=sF [0,3,5,6,7,45,46] fz [(47,.i k)]/\h=gz/\m=s.kids.length-k)∨(∃(k:Nat) (c0:Nat) (ua:Hd) (ub:Hd) (uc:Hd) (O:Vq) (aO:List X2),(1<=k/\k<=s.kids.length)/\(Wi n ln (WI n.decls L s.op s.num s.args 0) L.vars.length kd=some (O.take L.vars.length))/\(L.vars.length<=O.own.length/\O.own.length<=1000000000/\L.vars.length<=O.tok.length/\O.tok.length<=1000000000)/\(Uy n ln L s.op s.num s.args (O.take L.vars.length) (s.kids.drop k) k=Uy n ln L s.op s.num s.args (O.take L.vars.length) (s.kids.drop 1) 1)/\F=sF [0,3,5,6,45,46] fz [(7,.p c0 0),(47,.i k)]/\h=[.obj c0 [ZM n.decls,YO n,Z4 ln,Xf aO,.h ua,.h ub,.h uc],rV ua O.vars,rV ub O.own,rV uc O.tok,Ze gz 0,Ze gz 1,Ze gz 2,Ze gz 3,Ze gz 4]/\m=s.kids.length-k)) _ _ _ (.inl ⟨0,rfl,rfl,rfl,rfl⟩) (ZF 5 (Ya fl)) ?_))))))))
 rintro m F h (⟨k,Ye,rfl,rfl,rfl⟩|⟨k,c0,ua,ub,uc,O,aO,d0_0,d0_1,d0_2,d0_3,rfl,rfl,rfl⟩)
 ·refine Zy (aq (XF ((k:Int)<(s.kids.length:Int)) (fun ZH=>?_) (fun ZH=>?_)))
  ·obtain ⟨ke,hke⟩:=Zt s.kids k om
   obtain ⟨mk,hmk⟩:=Zt (X8 n.decls s.op s.num) k om
   have hK:=CG hk hq.1 hf hop hmk
   have hmk3:=E4 XC hmk
   have hks:=Tq hke
   have hbt:=hk3 k ke mk hke hmk
   obtain ⟨vs,rt,hvs,hres,hrt⟩:=Cg hbt
   have hri:=J0 hres
   have hsrr:TS ke.steps:=by
    have h:=FL hr2.2 hke
    rwa [Z7.rng_eq] at h
   have hbz:=ke.sz_eq
   have hak:=Nx hn har hlk hop (by rw [hgx];exact hx) hmk
   have hsl:=Hy hvs
   rw [Yq] at hsl
   have hkl:=Nw (L:=L) (am:=am) (s:=s) (m:=mk)
   refine ak (aq (ab 1 (Y1 1 (Zq (Zm none (k:Int) 2 (T3 hke)) (Z1 1 (iA [nl,.i 0] fun b2=>Z1 1 (ZA 0 b2 (Xu ke) (ie (Y1 1 (ic [1,1,1,1] (NH b ga gb gc n L ln am) ?_))))))))))
   rintro _ _ ⟨c1,wa1,wb1,wc1,rfl,rfl⟩
   refine Z0 (Xa (VY [9] (Wm (fun fz gz F h=>F=sF [0,3,5,6,7,8,9,10,45,46,47] fz []/\h=[.obj c1 [ZM n.decls,YO n,Z4 ln,Xf (TV L am s mk),.h wa1,.h wb1,.h wc1],Ze gz 1,Ze gz 2,Ze gz 3,Ze gz 4,Ze gz 5,Ze gz 6,Ze gz 7,Ze gz 8,Ze gz 9]) ?_ ?_)))
   ·refine ac (s.op==8) Zr (fun Yj=>?_) (fun Yj=>?_)
    ·exact aE 19 (ZI 12 19 [0,1,2,3,4,5,6] [4,9] (dx 7 (Zm none 0 1 (Y2 ha)) (Zj 7 11 [8,9,10,11] (dx 12 (Zm none (k:Int) 1 (An hmk)) (Zj 4 6 [13,14] (Z9 15 (Yz 15 [] [] [] (FH am (X2.mk x (L.vars.length:Int) mk false)) (Zj 1 3 [16,17] (Z9 18 (YM 18 0 [] [] c1 [ZM n.decls,YO n,Z4 ln,Xf (am++[(X2.mk x (L.vars.length:Int) mk false)]),.h wa1,.h wb1,.h wc1] (de (ZU ⟨rfl,rfl⟩ (ZF 10 fl (e:=(ro (ls:=[ZM n.decls,YO n,Z4 ln,Xf (am++[(X2.mk x (L.vars.length:Int) mk false)]),.h wa1,.h wb1,.h wc1]) (by rw [TV,Zd ‹s.op=8›,hgx]) (rc (rc (rc (rc (rc (rc (rc (rc (rc rz))))))))))))))))))))))))
    exact ak (ZU ⟨rfl,rfl⟩ (ZF 10 fl (e:=(ro (ls:=[ZM n.decls,YO n,Z4 ln,Xf am,.h wa1,.h wb1,.h wc1]) (by rw [TV,Z6 ‹¬s.op=8›]) (rc (rc (rc (rc (rc (rc (rc (rc (rc rz)))))))))))))
   rintro F h ⟨rfl,rfl⟩
   refine YP 2 (Zq (Zm none (k:Int) 1 (An hmk)) (Z1 1 (iw (Yc mk) (Z0 (ab 2 (Y3 (fun fz gz m F h=>∃(j:Nat) (L3:Vq) (ka:Hd) (kb:Hd) (kc:Hd),(j<=mk.length)/\(WK L3)/\(L3.vars.length=L.vars.length+j)/\(Ju L3 (gI s.args 0) (mk.drop j)=WI n.decls L s.op s.num s.args k)/\F=sF [0,3,5,6,7,9,10,45,46,47,78,79] fz [(80,.i j)]/\h=[.obj c1 [ZM n.decls,YO n,Z4 ln,Xf (TV L am s mk),.h ka,.h kb,.h kc],Ze gz 4,Ze gz 5,Ze gz 6,Ze gz 7,Ze gz 8,Ze gz 9,rV ka L3.vars,rV kb L3.own,rV kc L3.tok]/\m=mk.length-j) _ _ _ ⟨0,(JI n L s k),wa1,wb1,wc1,ob,(Z20 hlk),(by rw [BW];rfl),(by rw [KS];exact Z1z hop hmk),rfl,rfl,rfl⟩ (wk [0,3,3,3,3,3,3,0,0,0] (Ya fl) (e:=(rc (rc (rc (rc (rc (rc (rc (rv (xs:=L.vars) (by first|rw [BW]|rw [DN]|rw [DO]) (rv (xs:=L.own) (by first|rw [BW]|rw [DN]|rw [DO]) (rv (xs:=L.tok) (by first|rw [BW]|rw [DN]|rw [DO]) rz)))))))))))) ?_))))))
   rintro m F h ⟨j,L3,ka,kb,kc,Um,Wa,W6,JU,rfl,rfl,rfl⟩
   refine Zy (aq (XF ((j:Int)<(mk.length:Int)) (fun Xh=>?_) (fun Xh=>?_)))
   ·obtain ⟨xm,hxm⟩:=Zt mk j om
    refine ak (aq (ab 3 (ar (Zq (Zm none (j:Int) 1 (Y2 hxm)) (Z0 (az (Z1 2 (ic [0,6,6,6] (D4 c1 ka kb kc n L3 ln (TV L am s mk) xm 0 (hlk:=Wa)) ?_))))))))
    rintro _ _ ⟨wa2,wb2,wc2,rfl⟩
    exact ie (az (ZJ j (Z0 (ZK ⟨j+1,(L3.grow xm 0 (gI s.args 0)),wa2,wb2,wc2,ob,(WK.grow Wa),(by simp [Zo.grow];omega),(by rw [Y5 hxm,Ju] at JU;exact JU),rfl,rfl,rfl⟩ (wk [0,3,3,3,3,3,3,0,0,0] (ZO j fl) (e:=(rc (rc (rc (rc (rc (rc (rc (rv (xs:=(L3.grow xm 0 (-1)).vars) ob (rv (xs:=(L3.grow xm 0 (-1)).own) ob (rv (xs:=(L3.grow xm 0 (-1)).tok) ob rz))))))))))))))))
   have hE:L3=WI n.decls L s.op s.num s.args k:=by rw [<-JU,Xm om];rfl
   have hL3v:L3.vars=L.vars++mk:=by rw [hE];exact hK.2
   have hL3l:L3.vars.length=L.vars.length+mk.length:=by rw [hL3v,Yq]
   refine ax 2 (Yi 3 [5] (ic [0,6,6,6] (ih ke.steps c1 ka kb kc L3 (TV L am s mk) q vs ob (by rw [hE];exact hK.1) (by rw [hE];exact hak) (by rw [hL3v];exact hvs) (by rw [hL3v];exact EJ hnn (Ny hty hmk)) om om hsrr) ?_))
   rintro _ _ (⟨wa3,wb3,wc3,M'1,rfl,rfl,YJ⟩|⟨rfl,rfl,YT⟩)
   ·have hP:=YJ
    have kx:=Hz hn (by rw [hE];exact hK.1) hq.1 (by rw [hE];exact hak) (by rw [hL3v];exact hvs) hP
    have kl:=kx.1.len
    have hm1:(Wj M'1 ke.result).own.length=vs.length:=by rw [G7.1,kl.own,kx.2.1]
    have hm2:(Wj M'1 ke.result).tok.length=vs.length:=by rw [G7.2.1,kl.tok,kx.2.1]
    refine ZL 5 [8] (ic [0,0,0,0] (I9 c1 wa3 wb3 wc3 n M'1 ln (TV L am s mk) ke L.vars.length (hlk:=kl) (hlb:=(by rw [kx.2.1];omega)) (hm:=(by rw [kx.2.1];omega)) (hr:=(by rw [kx.2.1];omega)) (hq:=(fun y hy=>by have h1:=kx.1.nn y hy;have h2:=kx.1.bd y hy;omega))) ?_)
    rintro _ _ (⟨rfl,rfl,Xk⟩|⟨rfl,rfl,W4⟩)
    ·have hB:=Xk
     rw [<-HA (f:=Uh L.vars.length ke.result) hP,hE,<-J1] at hB
     exact Z0 (WF (ak (ab 4 (Y1 1 (iQ true (Z0 (Wg (T6 (az (ZJ k (Z0 (ZK (.inr ⟨k+1,c1,wa3,wb3,wc3,(Wj M'1 ke.result),(TV L am s mk),om,(by subst Ye;have e:=UY (hkd.symm.trans hke);subst e;exact hB),om,(by subst Ye;rfl),rfl,rfl,rfl⟩) (wk [0,0,0,0,0,0,0,0,1] (fr (ZO k fl)))))))))))))))
    have hB:=W4
    rw [<-HA (f:=Uh L.vars.length ke.result) hP,hE,<-J1] at hB
    exact Z0 (Wg (ar (Zp (r1 [] (.inr ⟨rfl,rfl,(by subst Ye;have e:=UY (hkd.symm.trans hke);subst e;rw [hgo,hB];rfl)⟩)))))
   have hB:Wi n ln (WI n.decls L s.op s.num s.args k) L.vars.length ke=none:=by rw [J1,<-hE,YT];rfl
   exact Z0 (Wg (ar (Zp (r1 [] (.inr ⟨rfl,rfl,(by subst Ye;have e:=UY (hkd.symm.trans hke);subst e;rw [hgo,hB];rfl)⟩)))))
  exact absurd hk2 om
 refine Zy (aq (XF ((k:Int)<(s.kids.length:Int)) (fun Xn=>?_) (fun Xn=>?_)))
 ·obtain ⟨ke,hke⟩:=Zt s.kids k om
  obtain ⟨mk,hmk⟩:=Zt (X8 n.decls s.op s.num) k om
  have hK:=CG hk hq.1 hf hop hmk
  have hmk3:=E4 XC hmk
  have hks:=Tq hke
  have hbt:=hk3 k ke mk hke hmk
  obtain ⟨vs,rt,hvs,hres,hrt⟩:=Cg hbt
  have hri:=J0 hres
  have hsrr:TS ke.steps:=by
   have h:=FL hr2.2 hke
   rwa [Z7.rng_eq] at h
  have hbz:=ke.sz_eq
  have hak:=Nx hn har hlk hop (by rw [hgx];exact hx) hmk
  have hsl:=Hy hvs
  rw [Yq] at hsl
  have hkl:=Nw (L:=L) (am:=am) (s:=s) (m:=mk)
  refine ak (aq (ab 1 (Y1 1 (Zq (Zm none (k:Int) 2 (T3 hke)) (Z1 1 (iA [nl,.i 0] fun b3=>Z1 1 (ZA 0 b3 (Xu ke) (ie (Y1 1 (ic [5,5,5,5] (NH b ga gb gc n L ln am) ?_))))))))))
  rintro _ _ ⟨c2,wa4,wb4,wc4,rfl,rfl⟩
  refine Z0 (Xa (VY [13] (Wm (fun fz gz F h=>F=sF [0,3,5,6,7,8,9,10,45,46,47] fz []/\h=[.obj c2 [ZM n.decls,YO n,Z4 ln,Xf (TV L am s mk),.h wa4,.h wb4,.h wc4],Ze gz 1,Ze gz 2,Ze gz 3,Ze gz 4,Ze gz 5,Ze gz 6,Ze gz 7,Ze gz 8,Ze gz 9,Ze gz 10,Ze gz 11,Ze gz 12,Ze gz 13]) ?_ ?_)))
  ·refine ac (s.op==8) Zr (fun U2=>?_) (fun U2=>?_)
   ·exact aE 19 (ZI 12 19 [0,1,2,3,4,5,6] [4,13] (dx 7 (Zm none 0 1 (Y2 ha)) (Zj 7 11 [8,9,10,11] (dx 12 (Zm none (k:Int) 1 (An hmk)) (Zj 4 6 [13,14] (Z9 15 (Yz 15 [] [] [] (FH am (X2.mk x (L.vars.length:Int) mk false)) (Zj 1 3 [16,17] (Z9 18 (YM 18 0 [] [] c2 [ZM n.decls,YO n,Z4 ln,Xf (am++[(X2.mk x (L.vars.length:Int) mk false)]),.h wa4,.h wb4,.h wc4] (de (ZU ⟨rfl,rfl⟩ (ZF 14 fl (e:=(ro (ls:=[ZM n.decls,YO n,Z4 ln,Xf (am++[(X2.mk x (L.vars.length:Int) mk false)]),.h wa4,.h wb4,.h wc4]) (by rw [TV,Zd ‹s.op=8›,hgx]) (rc (rc (rc (rc (rc (rc (rc (rc (rc (rc (rc (rc (rc rz))))))))))))))))))))))))))))
   exact ak (ZU ⟨rfl,rfl⟩ (ZF 14 fl (e:=(ro (ls:=[ZM n.decls,YO n,Z4 ln,Xf am,.h wa4,.h wb4,.h wc4]) (by rw [TV,Z6 ‹¬s.op=8›]) (rc (rc (rc (rc (rc (rc (rc (rc (rc (rc (rc (rc (rc rz)))))))))))))))))
  rintro F h ⟨rfl,rfl⟩
  refine YP 2 (Zq (Zm none (k:Int) 1 (An hmk)) (Z1 1 (iw (Yc mk) (Z0 (ab 2 (Y3 (fun fz gz m F h=>∃(j:Nat) (L3:Vq) (ka:Hd) (kb:Hd) (kc:Hd),(j<=mk.length)/\(WK L3)/\(L3.vars.length=L.vars.length+j)/\(Ju L3 (gI s.args 0) (mk.drop j)=WI n.decls L s.op s.num s.args k)/\F=sF [0,3,5,6,7,9,10,45,46,47,78,79] fz [(80,.i j)]/\h=[.obj c2 [ZM n.decls,YO n,Z4 ln,Xf (TV L am s mk),.h ka,.h kb,.h kc],Ze gz 4,Ze gz 5,Ze gz 6,Ze gz 7,Ze gz 8,Ze gz 9,Ze gz 10,Ze gz 11,Ze gz 12,Ze gz 13,rV ka L3.vars,rV kb L3.own,rV kc L3.tok]/\m=mk.length-j) _ _ _ ⟨0,(JI n L s k),wa4,wb4,wc4,ob,(Z20 hlk),(by rw [BW];rfl),(by rw [KS];exact Z1z hop hmk),rfl,rfl,rfl⟩ (wk [0,3,3,3,3,3,3,3,3,3,3,0,0,0] (Ya fl) (e:=(rc (rc (rc (rc (rc (rc (rc (rc (rc (rc (rc (rv (xs:=L.vars) (by first|rw [BW]|rw [DN]|rw [DO]) (rv (xs:=L.own) (by first|rw [BW]|rw [DN]|rw [DO]) (rv (xs:=L.tok) (by first|rw [BW]|rw [DN]|rw [DO]) rz)))))))))))))))) ?_))))))
  rintro m F h ⟨j,L3,ka,kb,kc,Um,Wa,W6,JU,rfl,rfl,rfl⟩
  refine Zy (aq (XF ((j:Int)<(mk.length:Int)) (fun VV=>?_) (fun VV=>?_)))
  ·obtain ⟨xm,hxm⟩:=Zt mk j om
   refine ak (aq (ab 3 (ar (Zq (Zm none (j:Int) 1 (Y2 hxm)) (Z0 (az (Z1 2 (ic [0,10,10,10] (D4 c2 ka kb kc n L3 ln (TV L am s mk) xm 0 (hlk:=Wa)) ?_))))))))
   rintro _ _ ⟨wa5,wb5,wc5,rfl⟩
   exact ie (az (ZJ j (Z0 (ZK ⟨j+1,(L3.grow xm 0 (gI s.args 0)),wa5,wb5,wc5,ob,(WK.grow Wa),(by simp [Zo.grow];omega),(by rw [Y5 hxm,Ju] at JU;exact JU),rfl,rfl,rfl⟩ (wk [0,3,3,3,3,3,3,3,3,3,3,0,0,0] (ZO j fl) (e:=(rc (rc (rc (rc (rc (rc (rc (rc (rc (rc (rc (rv (xs:=(L3.grow xm 0 (-1)).vars) ob (rv (xs:=(L3.grow xm 0 (-1)).own) ob (rv (xs:=(L3.grow xm 0 (-1)).tok) ob rz))))))))))))))))))))
  have hE:L3=WI n.decls L s.op s.num s.args k:=by rw [<-JU,Xm om];rfl
  have hL3v:L3.vars=L.vars++mk:=by rw [hE];exact hK.2
  have hL3l:L3.vars.length=L.vars.length+mk.length:=by rw [hL3v,Yq]
  refine ax 2 (Yi 3 [5] (ic [0,10,10,10] (ih ke.steps c2 ka kb kc L3 (TV L am s mk) q vs ob (by rw [hE];exact hK.1) (by rw [hE];exact hak) (by rw [hL3v];exact hvs) (by rw [hL3v];exact EJ hnn (Ny hty hmk)) om om hsrr) ?_))
  rintro _ _ (⟨wa6,wb6,wc6,M'2,rfl,rfl,WB⟩|⟨rfl,rfl,V1⟩)
  ·have hP:=WB
   have kx:=Hz hn (by rw [hE];exact hK.1) hq.1 (by rw [hE];exact hak) (by rw [hL3v];exact hvs) hP
   have kl:=kx.1.len
   have hm1:(Wj M'2 ke.result).own.length=vs.length:=by rw [G7.1,kl.own,kx.2.1]
   have hm2:(Wj M'2 ke.result).tok.length=vs.length:=by rw [G7.2.1,kl.tok,kx.2.1]
   refine ZL 5 [8] (ic [0,0,0,0] (I9 c2 wa6 wb6 wc6 n M'2 ln (TV L am s mk) ke L.vars.length (hlk:=kl) (hlb:=(by rw [kx.2.1];omega)) (hm:=(by rw [kx.2.1];omega)) (hr:=(by rw [kx.2.1];omega)) (hq:=(fun y hy=>by have h1:=kx.1.nn y hy;have h2:=kx.1.bd y hy;omega))) ?_)
   rintro _ _ (⟨rfl,rfl,Vu⟩|⟨rfl,rfl,UR⟩)
   ·have hB:=Vu
    rw [<-HA (f:=Uh L.vars.length ke.result) hP,hE,<-J1] at hB
    refine Z0 (WF (ak (ab 4 (Y1 1 (iQ false (Z0 (WF (aD 31 (ZI 26 31 [0,1,2,3,4] [0] (dx 5 (KR 2 wb6 ((Wj M'2 ke.result).own) L.vars.length) (ZI 20 25 [6,7,8,9,10] [9] (dx 11 (KR 11 ub O.own L.vars.length) (Z9 12 (Tl 12 [2,10] [] [] [rV wb6 ((Wj M'2 ke.result).own),rV ub O.own] (CO (((Wj M'2 ke.result).own).take L.vars.length) (O.own.take L.vars.length)) D8 (gC (v:=wb6) (ys:=(Wj M'2 ke.result).own) 0 L.vars.length (gC (v:=ub) (ys:=O.own) 1 L.vars.length gN)) (Uz (Uz Tu)) ?_))))))))))))))
    rintro _ _ ⟨rfl,rfl⟩
    refine Aj [0,3,5,6,7,45,46,47] [(104,.b ((!(decide ((((Wj M'2 ke.result).own).take L.vars.length)=(O.own.take L.vars.length))))||(!(decide ((((Wj M'2 ke.result).tok).take L.vars.length)=(O.tok.take L.vars.length))))))] (fun gz=>gz) ?_ ?_
    ·refine Zj 16 18 [13,14] (db (b:=(!(decide ((((Wj M'2 ke.result).own).take L.vars.length)=(O.own.take L.vars.length))))) 119 (fun Zz=>?_) (fun Zz=>?_))
     ·have T8:¬((((Wj M'2 ke.result).own).take L.vars.length)=(O.own.take L.vars.length)):=((Ym dq)).1 Zz
      exact Zj 0 16 [15,16,17,18,19,20,21,22,23,24,25,26,27,28,29,30] (de (ZF 14 (Zu true Zz fl)))
     have T9:¬(¬((((Wj M'2 ke.result).own).take L.vars.length)=(O.own.take L.vars.length))):=Y8 (Ym dq) Zz
     refine ZI 11 16 [15,16,17,18,19] [2] (dx 20 (KR 4 wc6 ((Wj M'2 ke.result).tok) L.vars.length) (ZI 5 10 [21,22,23,24,25] [10] (dx 26 (KR 12 uc O.tok L.vars.length) (Z9 27 (Tl 27 [4,11] [] [] [rV wc6 ((Wj M'2 ke.result).tok),rV uc O.tok] (CO (((Wj M'2 ke.result).tok).take L.vars.length) (O.tok.take L.vars.length)) D8 (gC (v:=wc6) (ys:=(Wj M'2 ke.result).tok) 0 L.vars.length (gC (v:=uc) (ys:=O.tok) 1 L.vars.length gN)) (Uz (Uz Tu)) ?_)))))
     rintro _ _ ⟨rfl,rfl⟩
     exact Zj 0 3 [28,29,30] (de (wk [2,2,2,2,0,1,1,1,1,1,1,1,0,0] (Zu (!(decide ((((Wj M'2 ke.result).tok).take L.vars.length)=(O.tok.take L.vars.length)))) Zz fl)))
    refine ac ((!(decide ((((Wj M'2 ke.result).own).take L.vars.length)=(O.own.take L.vars.length))))||(!(decide ((((Wj M'2 ke.result).tok).take L.vars.length)=(O.tok.take L.vars.length))))) (p:=(¬((((Wj M'2 ke.result).own).take L.vars.length)=(O.own.take L.vars.length)))∨(¬((((Wj M'2 ke.result).tok).take L.vars.length)=(O.tok.take L.vars.length)))) (Yh (Ym dq) (Ym dq)) (fun VW=>?_) (fun VW=>?_)
    ·exact ar (Zp (r1 [] (.inr ⟨rfl,rfl,(by rw [hgo,d0_1];exact EI (by rw [<-d0_3,EF hke,hB];exact Z0h (VW.imp (fun h g=>h g.symm) (fun h g=>h g.symm))))⟩)))
    exact ak (az (ZJ k (Z0 (ZK (.inr ⟨k+1,c0,ua,ub,uc,O,aO,om,d0_1,d0_2,(by rw [EF hke,hB,Z0i (fun z=>VW (z.imp (fun h g=>h g.symm) (fun h g=>h g.symm)))] at d0_3;exact d0_3),rfl,rfl,rfl⟩) (wk [10,10,1,9,4,4,4,4,5] (fr (ZO k fl)))))))
   have hB:=UR
   rw [<-HA (f:=Uh L.vars.length ke.result) hP,hE,<-J1] at hB
   exact Z0 (Wg (ar (Zp (r1 [] (.inr ⟨rfl,rfl,(by rw [hgo,d0_1];exact EI (by rw [<-d0_3,EF hke,hB];rfl))⟩)))))
  have hB:Wi n ln (WI n.decls L s.op s.num s.args k) L.vars.length ke=none:=by rw [J1,<-hE,V1];rfl
  exact Z0 (Wg (ar (Zp (r1 [] (.inr ⟨rfl,rfl,(by rw [hgo,d0_1];exact EI (by rw [<-d0_3,EF hke,hB];rfl))⟩)))))
 refine ax 0 (aD 22 (ZI 15 22 [0,1,2,3,4,5,6] [0] (dx 7 (KR 2 ub O.own L.vars.length) (ZI 9 14 [9,10,11,12,13] [0] (dx 14 (KR 3 uc O.tok L.vars.length) (Z9 8 (Tl 8 [2] [0] [c0] [rV ub O.own] (E9 (O.own.take L.vars.length)) JW (gC (v:=ub) (ys:=O.own) 0 L.vars.length gN) (Uz Tu) ?_)))))))
 rintro _ _ ⟨v2,rfl,rfl⟩
 refine Z9 15 (Tl 15 [4] [] [] [rV uc O.tok] (E9 (O.tok.take L.vars.length)) JW (gC (v:=uc) (ys:=O.tok) 0 L.vars.length gN) (Uz Tu) ?_)
 rintro _ _ ⟨v3,rfl,rfl⟩
 exact Zj 4 6 [16,17] (Z9 18 (YM 18 6 [] [] b [ZM n.decls,YO n,Z4 ln,Xf am,.h ga,.h v2,.h gc] (Zj 1 3 [19,20] (Z9 21 (YM 21 0 [] [] b [ZM n.decls,YO n,Z4 ln,Xf am,.h ga,.h v2,.h v3] (de (ar (Zp (r1 [0,6,2,0] (.inl ⟨ga,v2,v3,(Zo.mk L.vars (O.own.take L.vars.length) L.par L.con L.fst (O.tok.take L.vars.length)),rfl,rfl,(by rw [hgo,d0_1];exact RT (by rw [<-d0_3,Xm om];rfl))⟩) (eq:=(rc (rv (xs:=L.vars) ob (rv (xs:=(O.own.take L.vars.length)) ob (rv (xs:=(O.tok.take L.vars.length)) ob rz))))))))))))))
theorem Lr (n:Zl) (us:LI) (s:Z5) (hn:X3 n) (hty:KV n) (hnn:∀t∈us,0<=t) (hb:us.length+4*s.sz<=1000000000) (hr:s.rng):Zi 127 [.agg [ZM n.decls,YO n],Z4 us,YD s] [] (fun r h=>∃(t:Int),r=.tup [.i t,.b (decide (0<=Y0 n us s))]/\h=[]/\(¬YC s.op=true->0<=Y0 n us s->t=Y0 n us s)):=
 PX n us s hn hty hnn hb hr fun b us2 _ h2 h3 h4=>PP n us2 b hn hty h4 h2 h3
theorem Z4p (b:Nat) (ga:Hd) (gb:Hd) (gc:Hd) (n:Zl) (L:Vq) (ln:LI) (am:List X2) (s:Z5) (q:Int) (hn:X3 n:=by exact ob) (hty:KV n:=by exact ob) (hlt:Cc n:=by exact ob) (hk:X7 n.decls L q:=by exact ob) (har:V6 n.decls L am:=by exact ob) (hln:ln.length<=4294967296:=by exact ob) (ht:0<=Y0 n L.vars s:=by exact ob) (hnn:∀t∈L.vars,0<=t) (hb:L.vars.length+am.length+4*s.sz<=900000000:=by exact ob) (hq:0<=q/\q+4*s.sz<=999999980:=by exact ob) (hr:s.rng:=by exact ob) (ih:∀(ys:List Z5) (c:Nat) (ra:Hd) (rb:Hd) (rc:Hd) (M:Vq) (a2:List X2) (p:Int) (vs:LI),(Yk ys<s.sz)->(X7 n.decls M p)->(V6 n.decls M a2)->(Xj n ys M.vars=some vs)->(∀t∈M.vars,0<=t)->(M.vars.length+a2.length+4*Yk ys<=900000000)->(0<=p/\p+4*Yk ys<=999999980)->(TS ys)->Zi 124 [.p c 0,Vl ys] [.obj c [ZM n.decls,YO n,Z4 ln,Xf a2,.h ra,.h rb,.h rc],rV ra M.vars,rV rb M.own,rV rc M.tok] (fun r h=>(∃(wa:Hd) (wb:Hd) (wc:Hd) (M':Vq),r=.b true/\h=[.obj c [ZM n.decls,YO n,Z4 ln,Xf a2,.h wa,.h wb,.h wc],rV wa M'.vars,rV wb M'.own,rV wc M'.tok]/\Xt n ln M ys=some M')∨(r=.b false/\h=[]/\Xt n ln M ys=none))):Zi 177 [.p b 0,YD s] [.obj b [ZM n.decls,YO n,Z4 ln,Xf am,.h ga,.h gb,.h gc],rV ga L.vars,rV gb L.own,rV gc L.tok] (fun r h=>(∃(wa:Hd) (wb:Hd) (wc:Hd) (L':Vq),r=.b true/\h=[.obj b [ZM n.decls,YO n,Z4 ln,Xf am,.h wa,.h wb,.h wc],rV wa L'.vars,rV wb L'.own,rV wc L'.tok]/\WM n ln L s=some L')∨(r=.b false/\h=[]/\WM n ln L s=none)):=by
 have hlk:=hk.len
 obtain ⟨e1,e2,e3,e4,e5⟩:=hk.len
 have hf:=Be ht
 have hkz:=Ts s
 have haz:=QK s
 have hlh:=Zdq hlt ht
 refine ZE 58 Tryz.func177 (ar (iA (Xz s) fun b1=>Z0 (aq (ab 0 (Zv 2 [0] (Zw [] (EB s.op) (YE (YC s.op) Iff.rfl (fun Za=>?_) (fun Za=>?_))))))))
 ·obtain ⟨x,hxa⟩:=hf.one (.inr (.inr (by simpa [YC] using Za)))
  have ha:s.args[0]? = some x:=by rw [hxa];rfl
  have hx:=hf.args x (by rw [hxa];simp)
  have hgx:=JZ ha
  have hal:=(Xs.1 ha).1
  refine aD 9 (ZI 4 9 [0,1,2,3,4] [0,0] (dx 5 (Zm none 0 1 (Y2 ha)) (Zj 2 3 [6] (Z9 7 (dc 7 [1,1,1,1] [] [] (Z4n b ga gb gc n L ln am s.op x q) ?_)))))
  rintro _ _ (⟨L'1,rfl,rfl,ZY⟩|⟨rfl,rfl,Yf⟩)
  ·exact Zj 0 1 [8] (de (ZB (r1 [0,0,0,0] (.inl ⟨ga,gb,gc,L'1,rfl,rfl,(by rw [Z24 Za hgx];exact ZY)⟩))))
  exact Zj 0 1 [8] (de (ZB (r1 [] (.inr ⟨rfl,rfl,(by rw [Z24 Za hgx];exact Yf)⟩))))
 refine ar (XA 8 [0,3] [(27,.b ((s.op==7)||(s.op==8)))] (fun gz=>gz) ?_ (fun hj1=>?_))
 ·refine YE ((s.op==7)||(s.op==8)) (p:=(s.op=7)∨(s.op=8)) (Yh Zr Zr) (fun Zg=>?_) (fun Zg=>?_)
  ·refine Zv 2 [0] (ic [1,1,1,1] (Z4k b ga gb gc n L ln am s q (hnn:=ob) (ih:=ih)) ?_)
   rintro _ _ (⟨wa1,wb1,wc1,L'2,rfl,rfl,YJ⟩|⟨rfl,rfl,YT⟩)
   ·have hP:=(Hg (n:=n) (ln:=ln) (L:=L) Zg).trans YJ
    obtain ⟨kx,hxv⟩:=BP hn hk hq.1 hf hP
    refine Z0 (WF (ak (aD 15 (ZI 6 15 [0,1,2,3,4,5,6,7,8] [0,0,4] (Z9 9 (Tl 9 [1] [] [] [rV wa1 L'2.vars] (Lr n L'2.vars s ob ob (by rw [hxv];exact hnn) (by rw [hxv];omega) ob) Ik (gS (gL (v:=wa1) 0 (gS gN))) (Uz Tu) ?_))))))
    rintro _ _ ⟨t1,rfl,rfl,Xk⟩
    rw [hxv] at Xk
    have hte:=Xk Za ht
    refine Zj 0 5 [10,11,12,13,14] (de (Y1 3 (iI t1 1 (ic [1,0,0,0] (D4 b wa1 wb1 wc1 n L'2 ln am t1 (min t1 1) (hlb:=(by rw [hxv];omega)) (hlk:=kx.len)) ?_))))
    rintro _ _ ⟨wa2,wb2,wc2,rfl⟩
    exact ie (ar (Zp (r1 [0,0,0,0] (.inl ⟨wa2,wb2,wc2,(L'2.grow t1 (min t1 1) (-1)),rfl,rfl,(MR hP ht Za hte)⟩))))
   have hP:=(Hg (n:=n) (ln:=ln) (L:=L) Zg).trans YT
   exact Z0 (Wg (ar (Zp (r1 [] (.inr ⟨rfl,rfl,(Z25 hP)⟩)))))
  refine Zv 2 [0] (Zw [] (PT s.op) (YE (Tk s.op) Iff.rfl (fun ZH=>?_) (fun ZH=>?_)))
  ·refine Zv 2 [0] (ic [1,1,1,1] (Z4m b ga gb gc n L ln am s q (hlt:=hlh)) ?_)
   rintro _ _ (⟨L'3,rfl,rfl,W4⟩|⟨rfl,rfl,WB⟩)
   ·have hP:=(Ma (n:=n) (ln:=ln) (L:=L) Za Zg).trans W4
    obtain ⟨kx,hxv⟩:=BP hn hk hq.1 hf hP
    refine Z0 (WF (ak (aD 15 (ZI 6 15 [0,1,2,3,4,5,6,7,8] [0,0,4] (Z9 9 (Tl 9 [1] [] [] [rV ga L'3.vars] (Lr n L'3.vars s ob ob (by rw [hxv];exact hnn) (by rw [hxv];omega) ob) Ik (gS (gL (v:=ga) 0 (gS gN))) (Uz Tu) ?_))))))
    rintro _ _ ⟨t2,rfl,rfl,V1⟩
    rw [hxv] at V1
    have hte:=V1 Za ht
    refine Zj 0 5 [10,11,12,13,14] (de (Y1 3 (iI t2 1 (ic [1,0,0,0] (D4 b ga gb gc n L'3 ln am t2 (min t2 1) (hlb:=(by rw [hxv];omega)) (hlk:=kx.len)) ?_))))
    rintro _ _ ⟨wa3,wb3,wc3,rfl⟩
    exact ie (ar (Zp (r1 [0,0,0,0] (.inl ⟨wa3,wb3,wc3,(L'3.grow t2 (min t2 1) (-1)),rfl,rfl,(MR hP ht Za hte)⟩))))
   have hP:=(Ma (n:=n) (ln:=ln) (L:=L) Za Zg).trans WB
   exact Z0 (Wg (ar (Zp (r1 [] (.inr ⟨rfl,rfl,(Z25 hP)⟩)))))
  have hP:=Zfc (ln:=ln) Za Zg ZH ht
  have hxv:L.vars=L.vars:=rfl
  have kx:=hk
  refine ak (aD 15 (ZI 6 15 [0,1,2,3,4,5,6,7,8] [1,1,0] (Z9 9 (Tl 9 [2] [] [] [rV ga L.vars] (Lr n L.vars s ob ob (by rw [hxv];exact hnn) (by rw [hxv];omega) ob) Ik (gS (gL (v:=ga) 0 (gS gN))) (Uz Tu) ?_))))
  rintro _ _ ⟨t3,rfl,rfl,Vu⟩
  rw [hxv] at Vu
  have hte:=Vu Za ht
  refine Zj 0 5 [10,11,12,13,14] (de (Y1 3 (iI t3 1 (ic [2,0,1,1] (D4 b ga gb gc n L ln am t3 (min t3 1) (hlb:=(by rw [hxv];omega)) (hlk:=kx.len)) ?_))))
  rintro _ _ ⟨wa4,wb4,wc4,rfl⟩
  exact ie (ar (Zp (r1 [0,0,0,0] (.inl ⟨wa4,wb4,wc4,(L.grow t3 (min t3 1) (-1)),rfl,rfl,(MR hP ht Za hte)⟩))))
 refine ZL 4 [0] (ib (b:=(s.op==7)) 23 (fun Zb=>?_) (fun Zb=>?_))
 ·have UR:s.op=7:=(Zr).1 Zb
  exact Z1 4 (Yn (ZF 5 (Zu true Zb fl)) hj1)
 have T8:¬(s.op=7):=Y8 Zr Zb
 exact ZL 4 [0] (Yn (ZF 5 (Zu (s.op==8) Zb fl)) hj1)
theorem Z4s (n:Zl) (ln:LI) (hn:X3 n) (hty:KV n) (hlt:Cc n) (hln:ln.length<=4294967296) (m:Nat):∀(ys:List Z5) (c:Nat) (ra:Hd) (rb:Hd) (rc:Hd) (M:Vq) (a2:List X2) (p:Int) (vs:LI),(Yk ys<m)->(X7 n.decls M p)->(V6 n.decls M a2)->(Xj n ys M.vars=some vs)->(∀t∈M.vars,0<=t)->(M.vars.length+a2.length+4*Yk ys<=900000000)->(0<=p/\p+4*Yk ys<=999999980)->(TS ys)->Zi 124 [.p c 0,Vl ys] [.obj c [ZM n.decls,YO n,Z4 ln,Xf a2,.h ra,.h rb,.h rc],rV ra M.vars,rV rb M.own,rV rc M.tok] (fun r h=>(∃(wa:Hd) (wb:Hd) (wc:Hd) (M':Vq),r=.b true/\h=[.obj c [ZM n.decls,YO n,Z4 ln,Xf a2,.h wa,.h wb,.h wc],rV wa M'.vars,rV wb M'.own,rV wc M'.tok]/\Xt n ln M ys=some M')∨(r=.b false/\h=[]/\Xt n ln M ys=none)):=by
 induction m with
 | zero=>intro ys c ra rb rc M a2 p vs h;omega
 | succ m ih=>
  intro ys c ra rb rc M a2 p vs h hk har ht hnn hb hp hr
  exact Z4r c ra rb rc n M ln a2 ys p vs hn hk har ht hnn hb hp hr fun s2 c ra rb rc M a2 p h1 hk har ht hnn hb hp hr=>Z4p c ra rb rc n M ln a2 s2 p hn hty hlt hk har hln ht hnn hb hp hr
   fun ys c ra rb rc M a2 p vs h2 hk har ht hnn hb hp hr=>ih ys c ra rb rc M a2 p vs om hk har ht hnn hb hp hr
theorem Z4q (c:Nat) (ra:Hd) (rb:Hd) (rc:Hd) (n:Zl) (M:Vq) (ln:LI) (a2:List X2) (ys:List Z5) (p:Int) (vs:LI) (hn:X3 n) (hty:KV n) (hlt:Cc n) (hln:ln.length<=4294967296) (hk:X7 n.decls M p) (har:V6 n.decls M a2) (ht:Xj n ys M.vars=some vs) (hnn:∀t∈M.vars,0<=t) (hb:M.vars.length+a2.length+4*Yk ys<=900000000) (hp:0<=p/\p+4*Yk ys<=999999980) (hr:TS ys):Zi 124 [.p c 0,Vl ys] [.obj c [ZM n.decls,YO n,Z4 ln,Xf a2,.h ra,.h rb,.h rc],rV ra M.vars,rV rb M.own,rV rc M.tok] (fun r h=>(∃(wa:Hd) (wb:Hd) (wc:Hd) (M':Vq),r=.b true/\h=[.obj c [ZM n.decls,YO n,Z4 ln,Xf a2,.h wa,.h wb,.h wc],rV wa M'.vars,rV wb M'.own,rV wc M'.tok]/\Xt n ln M ys=some M')∨(r=.b false/\h=[]/\Xt n ln M ys=none)):=
 Z4s n ln hn hty hlt hln (Yk ys+1) ys c ra rb rc M a2 p vs om hk har ht hnn hb hp hr
theorem PV (n:Zl) (hz:V7 n) (hs:VC n=true):Zi 43 [Yr n] [] (Yl (.tup [.agg [ZM n.decls,YO n],.b (VC n)])):=by
 refine (PU n hz).mono fun r h q=>?_
 rcases q with ⟨h1,h2,_⟩|⟨_,_,h3⟩
 ·exact ⟨h1,h2⟩
 ·rw [hs] at h3;cases h3
theorem Z4o (n:Zl) (f:Nat) (rt:Yb) (hn:X3 n:=by exact ob) (hz:V7 n:=by exact ob) (hs:VC n=true:=by exact ob) (hr:n.routines[f]? = some rt:=by exact ob):Zi 123 [Yr n,.i f] [] (fun r h=>∃(c:Nat) (wa:Hd) (wb:Hd) (wc:Hd),r=.p c 0/\h=[.obj c [ZM n.decls,YO n,Z4 rt.lent,Xf [],.h wa,.h wb,.h wc],rV wa ((U6 rt).vars),rV wb ((U6 rt).own),rV wc ((U6 rt).tok)]):=by
 have hfl:=(Xs.1 hr).1
 have hpl:=hn.params_at hr
 have hll:=hn.lent_at hr
 refine ZE 58 Tryz.func123 (ar (iA (YV n) fun b1=>Z0 (Zv 1 [0] (Zw [] (PV n ob ob) (Z1 3 (iA [nl,nl] fun b2=>ZA 0 b2 [ZM n.decls,YO n] (Z0 (aD 10 (ZI 6 10 [0,1,2,3] [0,1] (dx 4 (Zm none (f:Int) 5 (WW hr)) (Zj 2 5 [5,6,7] (Z9 8 (dA 8 [] [] [ZM n.decls,YO n,Z4 rt.lent,nl,nl,nl,nl] fun b3=>?_)))))))))))))
 refine Jr (Z2d 0 b3 [ZM n.decls,YO n,Z4 rt.lent,nl,nl,nl,nl] [ZM n.decls,YO n,Z4 rt.lent,Xf [],.h hN,.h hN,.h hN] (.cons (lr _) (.cons (lr _) (.cons (lr _) (.cons (Zc.sl _ rfl) (.cons (Zc.hd (v:=hN)) (.cons (Zc.hd (v:=hN)) (.cons (Zc.hd (v:=hN)) .nil)))))))) (Jr (A7) (Jr (A7) (Jr (A7) (Zj 0 1 [9] (de (Yi 3 [5] (Zq (Zm none (f:Int) 5 (WW hr)) (Z1 2 (iw (Yc rt.params) (Z0 (ab 0 (Y3 (fun fz gz m F h=>∃(k:Nat) (L2:Vq) (ka:Hd) (kb:Hd) (kc:Hd),(k<=rt.params.length)/\(WK L2)/\(L2.vars.length=k)/\(KI rt.lent (rt.params.drop k) k L2=U6 rt)/\F=sF [7,29,30] fz [(31,.i k)]/\h=[.obj b3 [ZM n.decls,YO n,Z4 rt.lent,Xf [],.h ka,.h kb,.h kc],rV ka L2.vars,rV kb L2.own,rV kc L2.tok]/\m=rt.params.length-k) _ _ _ ⟨0,(Zo.mk [] [] [] [] [] []),hN,hN,hN,ob,⟨rfl,rfl,rfl,rfl,rfl⟩,rfl,rfl,rfl,rfl,rfl⟩ (wk [3,0,0,0] (Ya fl) (e:=(rc (rv (xs:=[]) ob (rv (xs:=[]) ob (rv (xs:=[]) ob rz)))))) ?_))))))))))))
 rintro m F h ⟨k,L2,ka,kb,kc,Ye,Zk,Zx,Yy,rfl,rfl,rfl⟩
 refine Zy (aq (XF ((k:Int)<(rt.params.length:Int)) (fun Za=>?_) (fun Za=>?_)))
 ·refine ak (aq (ab 1 (Y1 1 ?_)))
  obtain ⟨x1,Z3⟩:=Zt rt.params k om
  have hgl:(L2.grow x1 0 (-1)).own.length=k+1:=by simp [Zo.grow,Zk.own,Zx]
  refine Zq (Zm none (k:Int) 1 (Y2 Z3)) (Z0 (Y1 2 (ic [0,0,0,0] (D4 b3 ka kb kc n L2 rt.lent [] x1 0) ?_)))
  rintro _ _ ⟨wa1,wb1,wc1,rfl⟩
  refine ie (ar (Xx [7,8,29,30,31] [(49,.b ((x1 != 0)&&(!(decide ((k:Int)∈rt.lent)))))] (fun gz=>gz) ?_ ?_))
  ·refine Z1 3 (ib (b:=(x1 != 0)) 41 (fun Zb=>?_) (fun Zb=>?_))
   ·have ZY:x1≠0:=(Y6).1 Zb
    exact ZL 5 [0] (Zw [] (MH rt.lent (k:Int)) (Z0 (ZF 4 (Zu (!(decide ((k:Int)∈rt.lent))) Zb fl))))
   have Yf:¬(x1≠0):=Y8 Y6 Zb
   exact Z0 (ZF 4 (Zu false Zb fl))
  refine ac ((x1 != 0)&&(!(decide ((k:Int)∈rt.lent)))) (p:=(x1≠0)/\(¬((k:Int)∈rt.lent))) (YG Y6 (Ym dq)) (fun Zg=>?_) (fun Zg=>?_)
  ·exact az (ZL 5 [0] (Zq (Wy 2 wb1 ((L2.grow x1 0 (-1)).own) (k:Int) k) (Ds 2 wb1 ((L2.grow x1 0 (-1)).own) k 1 (ie (az (ZJ k (Z0 (ZK ⟨k+1,(L2.grow x1 1 (-1)),wa1,wb1,wc1,ob,(WK.grow Zk),(by simp [Zo.grow];omega),(by rw [Y5 Z3,KI] at Yy;first|(rw [Zd (by assumption)] at Yy;exact Yy)|(rw [Z6 (by assumption)] at Yy;exact Yy)),rfl,rfl,rfl⟩ (wk [1,1,0,0] (ZO k fl) (e:=(rc (rv (xs:=(L2.grow x1 0 (-1)).vars) (by first|rfl|exact MB (by rw [Zk.own,Zx])) (rv (xs:=(((L2.grow x1 0 (-1)).own).set k 1)) (by first|rfl|exact MB (by rw [Zk.own,Zx])) (rv (xs:=(L2.grow x1 0 (-1)).tok) (by first|rfl|exact MB (by rw [Zk.own,Zx])) rz))))))))))))))
  exact ak (az (ZJ k (Z0 (ZK ⟨k+1,(L2.grow x1 0 (-1)),wa1,wb1,wc1,ob,(WK.grow Zk),(by simp [Zo.grow];omega),(by rw [Y5 Z3,KI] at Yy;first|(rw [Zd (by assumption)] at Yy;exact Yy)|(rw [Z6 (by assumption)] at Yy;exact Yy)),rfl,rfl,rfl⟩ (ZF 4 (ZO k fl))))))
 refine ax 0 (Zy ?_)
 have hNl:L2=U6 rt:=by rw [<-Yy,Xm om];rfl
 exact ZB (r1 [0,0,0,0] ⟨b3,ka,kb,kc,rfl,rfl⟩ (eq:=(rc (rv (xs:=L2.vars) (by rw [hNl]) (rv (xs:=L2.own) (by rw [hNl]) (rv (xs:=L2.tok) (by rw [hNl]) rz))))))
theorem Zbg (n:Zl) (f:Nat) (rt:Yb) (hn:X3 n:=by exact ob) (hty:KV n:=by exact ob) (hlt:Cc n:=by exact ob) (hz:V7 n:=by exact ob) (hs:VC n=true:=by exact ob) (hr:n.routines[f]? = some rt:=by exact ob) (ht:0<=YS n rt.params rt.body:=by exact ob) (hrr:rt.body.rng:=by exact ob):Zi 65 [Yr n,.i f] [] (Yl (.b (Tj n rt))):=by
 have hfl:=(Xs.1 hr).1
 have hpl:=hn.params_at hr
 have hll:=hn.lent_at hr
 have hrm:=Y4 hr
 have hbd:=hz.body rt hrm
 have hbz:=rt.body.sz_eq
 obtain ⟨hk,hkv⟩:=H8 n.decls rt
 obtain ⟨vs,t0,hvs,hres,hrt⟩:=Cg ht
 have hri:=J0 hres
 have hsl:=Hy hvs
 rw [rt.body.rng_eq] at hrr
 refine ZE 25 Tryz.func65 (ar (iA (YV n) fun b1=>Z0 (Zv 2 [0] (ic [] (Z4o n f rt) ?_))))
 rintro _ _ ⟨c1,wa1,wb1,wc1,rfl,rfl⟩
 refine Z0 (Zv 3 [4] (Zq (Zm none (f:Int) 5 (WW hr)) (Z1 2 (iA [nl,.i 0] fun b2=>ZA 0 b2 (Xu rt.body) (ie (Zv 3 [0] (ic [1,1,1,1] (Z4q c1 wa1 wb1 wc1 n (U6 rt) rt.lent [] rt.body.steps 1 vs ob ob ob ob hk (RZ rt) (by rw [hkv];exact hvs) (by rw [hkv];exact hty.params rt hrm) (by rw [hkv,XP];omega) ob ob) ?_)))))))
 rintro _ _ (⟨wa2,wb2,wc2,M'1,rfl,rfl,ZY⟩|⟨rfl,rfl,Yf⟩)
 ·have hP:=ZY
  have kx:=Hz hn hk om (RZ rt) (by rw [hkv];exact hvs) hP
  have kl:=kx.1.len
  refine ZL 3 [4] (ic [0,0,0,0] (I9 c1 wa2 wb2 wc2 n M'1 rt.lent [] rt.body 0 (hlk:=kl) (hlb:=(by rw [kx.2.1];omega)) (hr:=(by rw [kx.2.1];omega)) (hq:=(fun y hy=>by have h1:=kx.1.nn y hy;have h2:=kx.1.bd y hy;omega))) ?_)
  rintro _ _ (⟨rfl,rfl,YJ⟩|⟨rfl,rfl,YT⟩)
  ·have hB:=YJ
   exact Zp (ZW (.b true) (lb (by rw [Z03 hP (by rw [kl.own,kl.tok]),hB];rfl)))
  have hB:=YT
  exact Zp (ZW (.b false) (lb (by rw [Z03 hP (by rw [kl.own,kl.tok]),hB];rfl)))
 have hP:=Yf
 exact Zp (ZW (.b false) (lb (by rw [Zge hP])))
theorem PJ (n:Zl) (hz:V7 n:=by exact ob) (hr:∀r∈n.routines,r.body.rng):Zi 23 [Yr n] [] (Yl (.b (WP n))):=by
 have hzl:=hz.len
 refine ZE 18 Tryz.func23 (ar (iA (YV n) fun b1=>Z0 (Yi 1 [0] (Zw [] (PM n (hr:=hr)) (YE (!XK n) (p:=¬(XK n=true)) (Ym Iff.rfl) (fun Za=>?_) (fun Za=>?_))))))
 ·exact ar (Zp (ZW (.b false) (lb (by first|rfl|omega|grind [WP]))))
 have hV:XK n=true:=Wc.1 Za
 obtain ⟨hok,hall⟩:=Ft hz hV
 have hsg:VC n=true:=by rw [XK,W9] at hV;exact hV.1
 have hty:=S5 hsg
 have hlt:=Zef hsg
 refine ak (Yi 2 [0] (iw (Ug n.routines) (Z0 (ab 0 (Y3 (fun fz gz m F h=>∃(k:Nat),(k<=n.routines.length)/\(Qp n (n.routines.drop k)=Qp n n.routines)/\F=sF [1,9] fz [(10,.i k)]/\h=gz/\m=n.routines.length-k) _ _ _ ⟨0,ob,ob,rfl,rfl,rfl⟩ (wk [0] (Ya fl)) ?_)))))
 rintro m F h ⟨k,Ye,Zk,rfl,rfl,rfl⟩
 refine Zy (aq (XF ((k:Int)<(n.routines.length:Int)) (fun Zg=>?_) (fun Zg=>?_)))
 ·obtain ⟨rt,hrt⟩:=Zt n.routines k om
  have hrm:=Y4 hrt
  refine ak (aq (ab 1 (Zy (Zv 2 [0] (Zw [] (Zbg n k rt (hr:=hrt) (ht:=(hall rt hrm)) (hrr:=(hr rt hrm))) (YE (!Tj n rt) (p:=¬(Tj n rt=true)) (Ym Iff.rfl) (fun ZH=>?_) (fun ZH=>?_)))))))
  ·refine Zy ?_
   rw [Y5 hrt] at Zk
   exact ZB (ZW (.b false) (lb (by first|rfl|omega|grind [Qp,WP])))
  refine ak (az (ZJ k (Z0 ?_)))
  have hdr:=Y5 hrt
  exact ZK ⟨k+1,ob,(by rw [hdr] at Zk;clear hdr ;grind [Qp]),rfl,rfl,rfl⟩ (wk [0] (ZO k fl))
 refine ax 0 (Zy ?_)
 try rw [Xm (xs:=n.routines) (k:=k) om] at Zk
 exact ZB (ZW (.b true) (lb (by first|rfl|omega|grind [Qp,WP])))
theorem PS (op:Int) (v:Int) :Zi 120 [.i op,.i v] [] (fun r h=>∃(u:Value),r=.agg [.i op,.i 0,.i 0,ZQ [v] u,BK [] (.slice none 0 0)]/\h=[.tail u 1]):=by
 exact ZE 9 Tryz.func120 (ar (iA [.i 0,.i 0,.i 0,nl,nl] fun b1=>ie (Y1 2 (iL (Z8 [v]) 1 1 fun v1=>Z1 1 (ZA 1 b1 [.i op,.i 0,.i 0,ZQ [v] v1,nl] (ie (ZB (r3 [1] [.agg [.i op,.i 0,.i 0,ZQ [v] v1,nl]] [0] [(b1,b1)] ⟨v1,rfl,rfl⟩ (Zc.agg (.cons (lr _) (.cons (lr _) (.cons (lr _) (.cons (lr _) (.cons (Zc.slh _ (by first|rfl|(subst_vars;rfl))) .nil))))))))))))))
theorem Zc5 (s:Z5) (ys:List XL) (kv:Value) (hl:s.args.length<=4294967296:=by exact ob):Zi 100 [YD s,BK ys kv] [] (fun r h=>∃(u:Value),r=.agg [.i s.op,.i s.num,.i s.into,ZQ s.args u,BK ys kv]/\h=[.tail u 1]):=by
 refine ZE 12 Tryz.func100 (ar (iA (Xz s) fun b1=>iA [.i 0,.i 0,.i 0,nl,nl] fun b2=>ie (Zv 2 [1] (ic [] (By s.args) ?_))))
 rintro _ _ ⟨v1,rfl,rfl⟩
 exact Z1 2 (ZA 2 b1 [.i s.op,.i s.num,.i s.into,ZQ s.args v1,XO s.kids] (Z1 1 (ZA 0 b1 [.i s.op,.i s.num,.i s.into,ZQ s.args v1,BK ys kv] (ie (Zv 1 [0] (ZA 2 b2 [.i s.op,.i s.num,.i s.into,ZQ s.args v1,BK ys kv] (ie (ZB (r3 [2] [.agg [.i s.op,.i s.num,.i s.into,ZQ s.args v1,BK ys kv]] [0] [(b2,b2)] ⟨v1,rfl,rfl⟩ (lr _))))))))))
theorem Z5j (ds:List Zf) (hl_ds:ds.length<=4294967296:=by exact ob):Zi 161 [ZM ds] [] (fun r h=>∃(v:Hd),r=.h v/\h=[rK v 3 (Zh (YB ds))]):=by
 refine ZE 8 Tryz.func161 (Zy (YP 1 (iN (YB ds) (fun hz1=>?_) ?_)))
 ·have hz1:=Z7b hz1
  refine ie (Wg (Zy (TE (HC (k:=3)) ?_)))
  subst hz1
  exact ZB (r2 [0] [nl] ⟨hN,rfl,rfl⟩ (Zc.hd (v:=hN)) (eq:=(rr (ls:=[]) rfl rz)))
 exact ie (WF (ak (ar (Dr 3 fun g1=>Z1 1 (GG 0 g1 3 (YB ds) none (J5 _) (by simp<;>omega) fun v1=>Zp (r1 [0] ⟨v1,rfl,rfl⟩))))))
theorem Z5i (cs:List Yg) (hl_cs:cs.length<=4294967296:=by exact ob):Zi 162 [Ja cs] [] (fun r h=>∃(v:Hd),r=.h v/\h=[rK v 1 (Zh (XV cs))]):=by
 refine ZE 8 Tryz.func162 (Zy (YP 1 (iN (XV cs) (fun hz1=>?_) ?_)))
 ·have hz1:=Z78 hz1
  refine ie (Wg (Zy (TE (HC (k:=1)) ?_)))
  subst hz1
  exact ZB (r2 [0] [nl] ⟨hN,rfl,rfl⟩ (Zc.hd (v:=hN)) (eq:=(rr (ls:=[]) rfl rz)))
 exact ie (WF (ak (ar (Dr 1 fun g1=>Z1 1 (GG 0 g1 1 (XV cs) none (Ef _) (by simp<;>omega) fun v1=>Zp (r1 [0] ⟨v1,rfl,rfl⟩))))))
theorem PQ (ds:List Zf) (hd:Wp ds:=by exact ob):Zi 96 [ZM ds] [] (fun r h=>∃(ys:List Vp) (w:Value),r=CI ys w/\h=[.many (VX ys),.tail w 3]/\ys.map Vp.er=ds):=by
 have hdl:=hd.len
 refine ZE 46 Tryz.func96 (Zy (Y1 1 (ic [] (Z5j ds) ?_)))
 rintro _ _ ⟨v1,rfl,rfl⟩
 refine Z0 (YP 1 (Zq (Rf 0 ds.length v1 3 (Zh (YB ds)) (by rw [OZ])) (Z0 (ab 0 (TE (tB [] [] [] (VX []) (by simp [QA,Qv,QS,QT,QU,QV,QR,Vj,WQ,Qz,Vi,U3,VX,U4,Qw,Qx,Qy,Tp])) (Y3 (fun fz gz m F h=>∃(k:Nat) (v:Hd) (ys:List Vp),(k<=ds.length)/\(ys.map Vp.er=ds.take k)/\(ys.length=k)/\F=sF [11] fz [(3,.h v),(10,.h v),(12,.i k)]/\h=[rK v 3 (Zh (VA ys++YB (ds.drop k))),.many (VX ys)]/\m=ds.length-k) _ _ _ ⟨0,v1,[],ob,rfl,rfl,rfl,rfl,rfl⟩ (wk [1,0] (fw (Ya fl)) (e:=(rr (ls:=Zh (YB ds)) (by rfl) (rc rz)))) ?_))))))
 rintro m F h ⟨k,v,ys,Ye,Zk,Zx,rfl,rfl,rfl⟩
 refine Zy (aq (XF ((k:Int)<(ds.length:Int)) (fun Za=>?_) (fun Za=>?_)))
 ·obtain ⟨x1,Z3⟩:=Zt ds k om
  have hcl:=hd.cons_at Z3
  refine Rc 0 ds.length (v:=v) (Z06 Zx Ye) om (fun g1 c1 he1=>?_)
  subst he1
  refine ak (aq (ab 1 (Y1 1 (Zq (Wv g1 ds.length c1 k 3 (k:Int)) (Vk (VB 0 g1 ds.length c1 3 (k*3) (Zh (VA ys++YB (ds.drop k))) (Q2 x1) 121 (AH x1) (by rw [Z07 Z3];exact Ms (by rw [Cv,Zx]))) (iA [.i 0,.i 0,nl] fun b1=>Z1 1 (ZA 0 b1 (Q2 x1) (ie (Zv 4 [0] (ic [] (Z5i x1.cons) ?_))))))))))
  rintro _ _ ⟨v2,rfl,rfl⟩
  refine Zq (Wv g1 ds.length c1 k 3 (k:Int)) (Z1 1 (EA 2 g1 ds.length c1 3 (k*3+2) [.h v2] (Zh (VA ys++YB (ds.drop k))) (Zh (VA ys)++([.i x1.frm,.i x1.to_,.h v2]++Zh (YB (ds.drop (k+1))))) (by rw [Z06 Zx Ye];simp;omega) (by rw [Z07 Z3];exact Zgl (by rw [Cv,Zx])) (ie (Zv 2 [2] (iw (Uw x1.cons) (Z0 (ab 2 (TE (tB [] [] [] (U3 []) (by simp [QA,Qv,QS,QT,QU,QV,QR,Vj,WQ,Qz,Vi,U3,VX,U4,Qw,Qx,Qy,Tp])) (Y3 (fun fz gz m F h=>∃(j:Nat) (u:Hd) (zs:List VG),(j<=x1.cons.length)/\(zs.map VG.er=x1.cons.take j)/\(zs.length=j)/\F=sF [3,4,10,11,12,25,26] fz [(27,.i j)]/\h=[Ze gz 4,rK u 1 (Zh (Ux zs++XV (x1.cons.drop j))),.row (.slice (some ⟨g1,0,none⟩) ds.length c1) 3 (Zh (VA ys)++([.i x1.frm,.i x1.to_,.h u]++Zh (YB (ds.drop (k+1))))),.many (U3 zs)]/\m=x1.cons.length-j) _ _ _ ⟨0,v2,[],ob,rfl,rfl,rfl,rfl,rfl⟩ (wk [4,2,1,0] (Ya fl) (e:=(rc (rr (ls:=Zh (XV x1.cons)) (by rfl) (rc (rc rz)))))) ?_)))))))))
  rintro m F h ⟨j,u,zs,Um,Wa,W6,rfl,rfl,rfl⟩
  refine Zy (aq (XF ((j:Int)<(x1.cons.length:Int)) (fun Zg=>?_) (fun Zg=>?_)))
  ·obtain ⟨x2,Zs⟩:=Zt x1.cons j om
   have hfl:=hd.fields_at Z3 Zs
   refine Rc 1 x1.cons.length (v:=u) (Z05 W6 Um) om (fun g2 c2 he2=>?_)
   subst he2
   refine ak (aq (ab 3 (Y1 1 (Zq (Zm none (j:Int) 1 (AP Zs)) (Z1 1 (iA [nl] fun b2=>Z1 1 (ZA 0 b2 (Dw x2) (ie (aE 12 (Zj 10 12 [0,1] (dx 2 (Wv g1 ds.length c1 k 3 (k:Int)) (Zj 8 9 [3] (Uo 4 (VB 3 g1 ds.length c1 3 (k*3+2) (Zh (VA ys)++([.i x1.frm,.i x1.to_,.h ⟨some ⟨g2,0,none⟩,x1.cons.length,c2⟩]++Zh (YB (ds.drop (k+1))))) [.h ⟨some ⟨g2,0,none⟩,x1.cons.length,c2⟩] 119 (.ms g2 0 x1.cons.length c2) (Zgm (by rw [Cv,Zx]))) (ZI 4 7 [5,6,7] [0] (Z9 8 (dc 8 [] [2] [g1] (By x2.fields) ?_))))))))))))))))
   rintro _ _ ⟨v3,rfl,rfl⟩
   exact dx 9 (Wv g2 x1.cons.length c2 j 1 (j:Int)) (Zj 1 2 [10] (Z9 11 (Cl 11 3 [] [] g2 x1.cons.length c2 1 (j*1) [ZQ x2.fields v3] (Zh (Ux zs++XV (x1.cons.drop j))) (Zh (Ux zs)++([ZQ x2.fields v3]++Zh (XV (x1.cons.drop (j+1))))) (by rw [Z05 W6 Um];simp;omega) (by rw [Zgi Zs];exact F3 (by rw [P0,W6,Kc]) rfl) (Jr (tB [5,1] [.many (U3 zs),.tail v3 1] (U3 zs++((v3,1)::[])) (U3 (zs++[VG.mk x2.fields v3])) (by simp [QA,Qv,QS,QT,QU,QV,QR,Vj,WQ,Qz,Vi,U3,VX,U4,Qw,Qx,Qy,Tp])) (de (az (ZJ j (Z0 (ZK ⟨j+1,⟨some ⟨g2,0,none⟩,x1.cons.length,c2⟩,(zs++[VG.mk x2.fields v3]),ob,(by rw [List.map_append,Wa,V4 Zs];rfl),(by simp [W6]),rfl,rfl,rfl⟩ (wk [3,1,2,0] (ZO j fl) (e:=(rc (rr (ls:=(Zh (Ux zs)++([ZQ x2.fields v3]++Zh (XV (x1.cons.drop (j+1)))))) Zgh (rr (ls:=(Zh (VA ys)++([.i x1.frm,.i x1.to_,.h ⟨some ⟨g2,0,none⟩,x1.cons.length,c2⟩]++Zh (YB (ds.drop (k+1)))))) ob (rc rz)))))))))))))))
  refine TE (DP 1 u.v 1 (Zh (Ux zs++XV (x1.cons.drop j))) (Zh (Ux zs)) (Zgg om)) (TE (Zk8 0 1 (k*3+2) u.v (.slice (some ⟨g1,0,none⟩) ds.length c1) 1 3 (Ux zs) (Zh (VA ys)++([.i x1.frm,.i x1.to_,.h u]++Zh (YB (ds.drop (k+1))))) (Ov _) (by rw [Bi (by rw [Cv];omega),Cv,Zx];simp)) ?_)
  exact TE (DP 0 (.slice (some ⟨g1,0,none⟩) ds.length c1) 3 (List.set ((Zh (VA ys)++([.i x1.frm,.i x1.to_,.h u]++Zh (YB (ds.drop (k+1))))):List AV) (k*3+2) (EL zs u.v)) (Zh (VA ys)++([.i x1.frm,.i x1.to_,EL zs u.v]++Zh (YB (ds.drop (k+1))))) (Zgn (by rw [Cv,Zx]))) (TE (tB [2,2,1] [.many (VX ys),.many (U3 zs),.tail u.v 1] (VX ys++(U3 zs++((u.v,1)::[]))) (VX (ys++[Vp.mk x1.frm x1.to_ zs u.v])) (by simp [QA,Qv,QS,QT,QU,QV,QR,Vj,WQ,Qz,Vi,U3,VX,U4,Qw,Qx,Qy,Tp])) (ax 2 (az (ZJ k (Z0 (ZK ⟨k+1,(⟨some ⟨g1,0,none⟩,ds.length,c1⟩:Hd),(ys++[Vp.mk x1.frm x1.to_ zs u.v]),ob,(by rw [List.map_append,Zk,V4 Z3,Z35 (Wa.trans (Vx om))]),(by simp [Zx]),rfl,rfl,rfl⟩ (wk [1,0] (fw (ZO k fl)) (e:=(rr (ls:=(Zh (VA ys)++([.i x1.frm,.i x1.to_,EL zs u.v]++Zh (YB (ds.drop (k+1)))))) Zgk (rc rz))))))))))
 exact ax 0 (Zy (TE (DP 0 v.v 3 (Zh (VA ys++YB (ds.drop k))) (Zh (VA ys)) (Zgj om)) (Re 2 0 (v:=v) (VA ys) (Ow _) (ZB (r1 [1,0] ⟨ys,v.v,rfl,rfl,(by rw [Zk,Vx om])⟩)))))
theorem Zbp (n:Zl) (hl:n.routines.length<=4194304) (hb:∀r∈n.routines,r.body.sz<=1000000000):Zi 61 [Yr n] [] (Yl (.b (Kz n))):=by
 refine ZE 17 Tryz.func61 (ar (iA (YV n) fun b1=>?_))
 refine Z0 (Yi 2 [0] (iw (Ug n.routines) (Z0 (ab 0 (Y3 (fun fz gz m F h=>∃(k:Nat),(k<=n.routines.length)/\(J7 (n.routines.drop k)=J7 n.routines)/\F=sF [6,7] fz [(8,.i k)]/\h=[]/\m=n.routines.length-k) _ _ _ ⟨0,ob,ob,rfl,rfl,rfl⟩ (wk [] (Ya fl)) ?_)))))
 rintro m F h ⟨k,Ye,Zk,rfl,rfl,rfl⟩
 refine Zy (aq (XF ((k:Int)<(n.routines.length:Int)) (fun Za=>?_) (fun Za=>?_)))
 ·refine ak (aq (ab 1 (ar ?_)))
  obtain ⟨x1,Z3⟩:=Zt n.routines k om
  refine Zq (Zm none (k:Int) 5 (WW Z3)) (Z1 1 (iA [nl,nl,.i 0,nl,.i 0] fun b2=>ZA 0 b2 (Tt x1) (ie (Zv 2 [0] (Zw [] (PL x1.body (hb:=(hb _ (Y4 Z3)))) (Y9 ((UV x1.body)<0) (fun Zg=>?_) (fun Zg=>?_)))))))
  ·refine Zy ?_
   rw [Y5 Z3] at Zk
   exact ZB (ZW (.b false) (lb (by clear Z3;first|rfl|omega|grind [J7,Kz])))
  refine ak (az (ZJ k (Z0 ?_)))
  have hdr:=Y5 Z3
  exact ZK ⟨k+1,ob,(by rw [hdr] at Zk;clear hdr Z3;grind [J7]),rfl,rfl,rfl⟩ (wk [] (ZO k fl))
 refine ax 0 (Zy ?_)
 try rw [Xm (xs:=n.routines) (k:=k) om] at Zk
 exact ZB (ZW (.b true) (lb (by first|rfl|omega|grind [J7,Kz])))
theorem Zbq (y:Qm) (hl:y.er.routines.length<=4194304:=by exact ob) (hb:∀r∈y.er.routines,r.body.sz<=1000000000):Zi 61 [E1 y] [] (Yl (.b (Kz y.er))):=
 (Zbp y.er hl hb).args_le (.cons (NB y) .nil)
theorem Zi6 (op:Int) :Zi 114 [.i op] [] (Yl (.b ((op==14)||(op==15)))):=by
 refine ZE 9 Tryz.func114 (Zy (ar (XA 6 [] [(8,.b ((op==14)||(op==15)))] (fun gz=>gz) ?_ (fun hj1=>?_))))
 ·exact Zp (C1)
 refine Z1 3 (ib (b:=(op==14)) 5 (fun Zb=>?_) (fun Zb=>?_))
 ·have ZY:op=14:=(Zr).1 Zb
  exact Z1 3 (Yn (wk [] (Zu true Zb fl)) hj1)
 have Yf:¬(op=14):=Y8 Zr Zb
 exact Z1 3 (Yn (wk [] (Zu (op==15) Zb fl)) hj1)
theorem Zfi (s:Z5) (q:Nat) :Zi 167 [YD s,.p q 0] [.obj q [.val (.func (.func 114) #[] #[])]] (fun r h=>r=.b (!((s.op==14)||(s.op==15)))/\h=[.obj q [.val (.func (.func 114) #[] #[])]]):=by
 exact ZE 9 Tryz.func167 (ar (iA (Xz s) fun b1=>Z0 (Zv 3 [1,0] (Zw [] (Zi6 s.op) (Zp (r1 [1] ⟨rfl,rfl⟩))))))
theorem Zc9 (xs:List Z5) (q:Nat) (hl:xs.length<=1000000000:=by exact ob):Zi 104 [Vl xs,.val (.func (.func 167) #[] #[.pointer (some ⟨q,0,none⟩)])] [.obj q [.val (.func (.func 114) #[] #[])]] (fun r h=>(r=.i (((Ys xs):Nat):Int)/\h=[.obj q [.val (.func (.func 114) #[] #[])]]/\Ys xs<xs.length)∨(r=.i (-1)/\h=[.obj q [.val (.func (.func 114) #[] #[])]]/\Ys xs=xs.length)):=by
 refine ZE 19 Tryz.func104 (Zy (YP 1 (iw (VU xs) (Z0 (ab 0 (Y3 (fun fz gz m F h=>∃(k:Nat),(k<=xs.length)/\(k+Ys (xs.drop k)=Ys xs)/\F=sF [0,1,7] fz [(8,.i k)]/\h=gz/\m=xs.length-k) _ _ _ ⟨0,ob,(by simp),rfl,rfl,rfl⟩ (wk [0] (Ya fl)) ?_))))))
 rintro m F h ⟨k,Ye,Zk,rfl,rfl,rfl⟩
 refine Zy (aq (XF ((k:Int)<(xs.length:Int)) (fun Za=>?_) (fun Za=>?_)))
 ·refine ak (aq (ab 1 (Zy (Y1 3 ?_))))
  obtain ⟨x1,Z3⟩:=Zt xs k om
  refine Zq (Zm none (k:Int) 5 (VP Z3)) (Z1 1 (Zw [0] (Zfi x1 q) (ie (ac (!((x1.op==14)||(x1.op==15))) (p:=¬((x1.op=14)∨(x1.op=15))) (Ym (Yh Zr Zr)) (fun Zg=>?_) (fun Zg=>?_)))))
  ·refine Zy ?_
   have hE:=Z0d Z3 Zg Zk
   exact ZB (r2 [0] [.i k] (.inl ⟨rfl,rfl,ob⟩) li)
  exact ak (az (ZJ k (Z0 (ZK ⟨k+1,ob,(Z0c Z3 (Wc.1 Zg) Zk),rfl,rfl,rfl⟩ (wk [0] (ZO k fl))))))
 refine ax 0 (Zy ?_)
 have hE:=Z0b om Zk
 exact ZB (r1 [0] (.inr ⟨rfl,rfl,ob⟩))
theorem Zc0 (b:Z7) (hz:b.steps.length<=1000000000:=by exact ob):Zi 103 [ZZ b,.val (.func (.func 114) #[] #[])] [] (Yl (.i (((Ys b.steps):Nat):Int))):=by
 refine ZE 16 Tryz.func103 (ar (iA (Xu b) fun b1=>iA [.val (.func (.func 114) #[] #[])] fun b2=>Z0 (Zv 3 [1] (ic [0] (Zc9 b.steps b2) ?_))))
 rintro _ _ (⟨rfl,rfl,ZY⟩|⟨rfl,rfl,Yf⟩)
 ·refine Z0 (Xa (Y9 ((((Ys b.steps):Nat):Int)<0) (fun Za=>?_) (fun Za=>?_)))
  ·exact Zv 2 [1] (iw (VU b.steps) (Zp (ZW (.i b.steps.length) li)))
  exact ak (ar (Zp (C1)))
 refine Z0 (Xa (Y9 ((-1)<0) (fun Zg=>?_) (fun Zg=>?_)))
 ·exact Zv 2 [1] (iw (VU b.steps) (Zp (ZW (.i b.steps.length) li)))
 exact ak (ar (Zp (ZW (.i (-1)) li)))
theorem Z16 (s:Z5) (a:X2) (q:Nat) (ha:s.op=15->∃v,s.args=[v]:=by exact ob):Zi 115 [YD s,.p q 0] [.obj q [.i a.mat,.i a.fst,Z4 a.fds,.b a.chg]] (fun r h=>r=.b ((s.op==15)&&(gI s.args 0==a.mat))/\h=[.obj q [.i a.mat,.i a.fst,Z4 a.fds,.b a.chg]]):=by
 refine ZE 16 Tryz.func115 (ar (iA (Xz s) fun b1=>Z0 (aD 13 (ZI 9 13 [0,1,2,3] [0] (db (b:=(s.op==15)) 7 (fun Zb=>?_) (fun Zb=>?_))))))
 ·have ZY:s.op=15:=(Zr).1 Zb
  refine ZI 7 9 [4,5] [0] ?_
  obtain ⟨x1,Z3⟩:=Zt s.args 0 (by obtain ⟨v,hv⟩:=ha (by assumption);rw [hv];simp)
  have hg0:=JZ Z3
  exact dx 6 (Zm none 0 1 (Y2 Z3)) (ZI 0 6 [7,8,9,10,11,12] [1] (de (ZB (r2 [1] [.b (x1==a.mat)] ⟨rfl,rfl⟩ (lb (by rw [hg0];simp [ZY]))))))
 have Yf:¬(s.op=15):=Y8 Zr Zb
 exact Zj 0 9 [4,5,6,7,8,9,10,11,12] (de (ZB (r2 [1] [.b false] ⟨rfl,rfl⟩ lb)))
theorem Zc8 (xs:List Z5) (a:X2) (q:Nat) (hl:xs.length<=1000000000:=by exact ob) (ha:∀s∈xs,s.op=15->∃v,s.args=[v]):Zi 104 [Vl xs,.val (.func (.func 115) #[] #[.pointer (some ⟨q,0,none⟩)])] [.obj q [.i a.mat,.i a.fst,Z4 a.fds,.b a.chg]] (fun r h=>(∃(i:Nat),r=.i i/\h=[.obj q [.i a.mat,.i a.fst,Z4 a.fds,.b a.chg]]/\a.mat∈YU 15 xs)∨(r=.i (-1)/\h=[.obj q [.i a.mat,.i a.fst,Z4 a.fds,.b a.chg]]/\¬a.mat∈YU 15 xs)):=by
 refine ZE 19 Tryz.func104 (Zy (YP 1 (iw (VU xs) (Z0 (ab 0 (Y3 (fun fz gz m F h=>∃(k:Nat),(k<=xs.length)/\(∀s∈xs.take k,¬(s.op=15/\gI s.args 0=a.mat))/\F=sF [0,1,7] fz [(8,.i k)]/\h=gz/\m=xs.length-k) _ _ _ ⟨0,ob,(by simp),rfl,rfl,rfl⟩ (wk [0] (Ya fl)) ?_))))))
 rintro m F h ⟨k,Ye,Zk,rfl,rfl,rfl⟩
 refine Zy (aq (XF ((k:Int)<(xs.length:Int)) (fun Za=>?_) (fun Za=>?_)))
 ·refine ak (aq (ab 1 (Zy (Y1 3 ?_))))
  obtain ⟨x1,Z3⟩:=Zt xs k om
  refine Zq (Zm none (k:Int) 5 (VP Z3)) (Z1 1 (Zw [0] (Z16 x1 a q (ha:=(ha _ (Y4 Z3)))) (ie (ac ((x1.op==15)&&(gI x1.args 0==a.mat)) (p:=(x1.op=15)/\(gI x1.args 0=a.mat)) (YG Zr Zr) (fun Zg=>?_) (fun Zg=>?_)))))
  ·exact ar (Zp (r1 [0] (.inl ⟨k,rfl,rfl,(H6.2 ⟨x1,Y4 Z3,Zg.1,Zg.2⟩)⟩)))
  exact ak (az (ZJ k (Z0 (ZK ⟨k+1,ob,(Zk9 Z3 Zk Zg),rfl,rfl,rfl⟩ (wk [0] (ZO k fl))))))
 exact ax 0 (ar (Zp (r1 [0] (.inr ⟨rfl,rfl,(Z45 Zk om)⟩))))
theorem Z65 (xs:List Z5) (a:X2) (q:Nat) (hl:xs.length<=1000000000:=by exact ob) (ha:∀s∈xs,s.op=15->∃v,s.args=[v]):Zi 116 [Vl xs,.val (.func (.func 115) #[] #[.pointer (some ⟨q,0,none⟩)])] [.obj q [.i a.mat,.i a.fst,Z4 a.fds,.b a.chg]] (fun r h=>r=.b (decide (a.mat∈YU 15 xs))/\h=[.obj q [.i a.mat,.i a.fst,Z4 a.fds,.b a.chg]]):=by
 refine ZE 9 Tryz.func116 (Zy (Y1 2 (ic [0] (Zc8 xs a q (ha:=ha)) ?_)))
 rintro _ _ (⟨i1,rfl,rfl,ZY⟩|⟨rfl,rfl,Yf⟩)
 ·exact Zp (r2 [0] [.b (decide ((i1:Int)>=0))] ⟨rfl,rfl⟩ lb)
 exact Zp (r2 [0] [.b (decide ((-1)>=0))] ⟨rfl,rfl⟩ lb)
theorem Zla (w:Int) (v:Int) (q:Nat) :Zi 174 [.i w,.p q 0] [.obj q [.i v]] (fun r h=>r=.b (w != v)/\h=[.obj q [.i v]]):=by
 exact ZE 7 Tryz.func174 (Zy (Aq [0] (ZB (r1 [0] ⟨rfl,rfl⟩))))
theorem Zha (xs:LI) (v:Int) (q:Nat) (hl_xs:xs.length<=4294967296:=by exact ob):Zi 73 [Z4 xs,.val (.func (.func 174) #[] #[.pointer (some ⟨q,0,none⟩)])] [.obj q [.i v]] (fun r h=>r=Z4 (K3 xs v)/\h=[.obj q [.i v]]):=by
 refine ZE 23 Tryz.func73 (Zy (Zy (YP 1 (iw (Yc xs) (Z0 (ab 0 (UM 1 (Y3 (fun fz gz m F h=>∃(k:Nat) (acc:LI) (u:Value),(k<=xs.length)/\(acc.length<=k)/\(acc++K3 (xs.drop k) v=K3 xs v)/\F=sF [1,8,9] fz [(5,ZQ acc u),(10,.i k)]/\h=[Ze gz 1,.tail u 1]/\m=xs.length-k) _ _ _ ⟨0,[],(.slice none 0 0),ob,ob,ob,rfl,rfl,rfl⟩ (wk [1,0] (fc (x:=nl) (Zc.slh _ (by first|rfl|(subst_vars;rfl))) (Ya fl))) ?_))))))))
 rintro m F h ⟨k,acc,u,Ye,Zk,Zx,rfl,rfl,rfl⟩
 refine Zy (aq (XF ((k:Int)<(xs.length:Int)) (fun Za=>?_) (fun Za=>?_)))
 ·refine ak (aq (ab 1 (ar ?_)))
  obtain ⟨x1,Z3⟩:=Zt xs k om
  refine Zq (Zm none (k:Int) 1 (Y2 Z3)) (Z0 (Y1 2 (Zw [0] (Zla x1 v q) (ie (J3 (fun fz gz F h=>∃(w:Value),F=sF [1,8,9,10] fz [(5,ZQ (if (x1 != v)=true then acc++[x1] else acc) w)]/\h=[Ze gz 0,.tail w 1]) (fun _ _=>rfl) ?_ ?_)))))
  ·refine ac (x1 != v) Y6 (fun Zg=>?_) (fun Zg=>?_)
   ·exact az (Z1 2 (iL (Z8 [x1]) 1 1 fun v1=>ZT 0 [(19,Z4 [x1])] (ip 2 (Z8 (acc++[x1])) (Z8 acc) (Z8 [x1]) u none 1 (YK _) (YK _) (WA _) (by simp<;>omega) (by simp [Wz,Z8]) fun v2=>Z0 (ZU ⟨v2,rfl,rfl⟩ (wk [2,0] (fc (x:=ZQ (acc++[x1]) v2) (Zc.slh _ (Yu Z8 (by first|rfl|(rw [Zd Zg])|(rw [Z6 Zg])|(simp [Zg];done)|(rw [XM];simp [Zg];done)|omega))) fl))))))
   exact ak (ZU ⟨u,rfl,rfl⟩ (wk [0,0] (fc (x:=ZQ acc u) (Zc.slh _ (Yu Z8 (by first|rfl|(rw [Zd Zg])|(rw [Z6 Zg])|(simp [Zg];done)|(rw [XM];simp [Zg];done)|omega))) fl)))
  rintro F h ⟨w,rfl,rfl⟩
  exact az (ZJ k (Z0 (ZK ⟨k+1,(if (x1 != v)=true then acc++[x1] else acc),w,ob,(by split<;>(try simp)<;>omega),(Zea Z3 Zx),rfl,rfl,rfl⟩ (wk [0,0] (fr (ZO k fl))))))
 exact ax 0 (ar (Zp (r2 [0] [ZQ acc u] ⟨rfl,rfl⟩ (Zc.sl _ (Yu Z8 (Ze8 om Zx))))))
theorem Zhb (xs:LI) (v:Int) (hl_xs:xs.length<=4294967296:=by exact ob):Zi 119 [Z4 xs,.i v] [] (Yl (Z4 (K3 xs v))):=by
 exact ZE 8 Tryz.func119 (ar (iA [.i v] fun b1=>Z0 (Y1 2 (Zw [0] (Zha xs v b1) (Zp (C1))))))
theorem Z4x (xs:LI) (v:Int) (hl:xs.length<=1000000000:=by exact ob) (hs:xs.Pairwise (·<·):=by exact ob):Zi 130 [Z4 xs,.i v] [] (fun r h=>∃(q:Nat),r=.tup [.i q,.b (decide (v∈xs))]/\h=[]):=by
 refine ZE 54 Tryz.func130 (Zy (Y1 1 (iw (Yc xs) (Z0 (Zy (aq (ab 0 (Y3 (fun fz gz m F h=>∃(lo:Nat) (hi:Nat),(lo<=hi)/\(hi<=xs.length)/\(∀(j:Nat) (x:Int),j<lo->xs[j]? = some x->x<v)/\(∀(j:Nat) (x:Int),hi<=j->xs[j]? = some x->v<=x)/\F=sF [0,1,6] fz [(7,.i lo),(8,.i hi)]/\h=gz/\m=hi-lo) _ _ _ ⟨0,xs.length,ob,ob,(fun j x h=>absurd h om),(fun j x h hx=>absurd (Xs.1 hx).1 om),rfl,rfl,rfl⟩ (wk [] (Ya fl)) ?_))))))))
 rintro m F h ⟨lo,hi,Ye,Zk,Zx,Yy,rfl,rfl,rfl⟩
 refine Xa (Y9 ((lo:Int)<(hi:Int)) (fun Za=>?_) (fun Za=>?_))
 ·refine ak (ab 1 (Y1 2 (ia (((lo+hi:Nat):Int)) (((lo:Int))+((hi:Int))) (Zq (Rj (lo+hi) om) (Zq (Rg (lo+hi)) (Zq (Ri ((lo+hi) / 2) om) (Z0 (Y1 2 ?_))))))))
  obtain ⟨x1,Z3⟩:=Zt xs ((lo+hi) / 2) om
  refine Zq (Zm none (((lo+hi) / 2:Nat):Int) 1 (Y2 Z3)) (Z1 2 (Zw [] (O0 x1 v) (ie (XF (x1<v) (fun Zg=>?_) (fun Zg=>?_)))))
  ·exact az (Z1 1 (ia ((((lo+hi) / 2+1:Nat):Int)) (((((lo+hi) / 2:Nat):Int))+(1)) (Z0 (ZK ⟨(lo+hi) / 2+1,hi,ob,ob,(Z50 hs Z3 Zg),Yy,rfl,rfl,rfl⟩ (wk [] (fc (x:=.i (((lo+hi) / 2+1:Nat):Int)) li fl))))))
  exact T6 (ZK ⟨lo,(lo+hi) / 2,ob,ob,Zx,(Z4z hs Z3 Zg),rfl,rfl,rfl⟩ (wk [] (fr (fc (x:=.i (((lo+hi) / 2:Nat):Int)) li fl))))
 refine ax 0 (Y1 5 (ib (b:=(decide ((lo:Int)<(xs.length:Int)))) 35 (fun Zb=>?_) (fun Zb=>?_)))
 ·have ZY:(lo:Int)<(xs.length:Int):=(dq).1 Zb
  refine Z1 2 ?_
  obtain ⟨x2,Zs⟩:=Zt xs lo om
  refine Zq (Zm none (lo:Int) 1 (Y2 Zs)) (Z1 4 (ib (b:=(x2==v)) 42 (fun Zz=>?_) (fun Zz=>?_)))
  ·have Yf:x2=v:=(Zr).1 Zz
   exact Zp (r2 [] [.i lo,.b true] ⟨_,rfl,rfl⟩ (Zc.tup (.cons li (.cons (lb (by have hm:v∈xs:=Yf▸Y4 Zs;simp [hm])) .nil))))
  have YJ:¬(x2=v):=Y8 Zr Zz
  exact Z1 2 (Zq (Zm none (lo:Int) 1 (Y2 Zs)) (Z1 1 (Zw [] (Z0w x2) (Zp (r2 [] [.i lo,.b false] ⟨_,rfl,rfl⟩ (Zc.tup (.cons li (.cons (lb (by have hm:=Z51 hs Zx (fun j x hj=>Yy j x om) Zs (by assumption);simp [hm])) .nil))))))))
 have YT:¬((lo:Int)<(xs.length:Int)):=Y8 dq Zb
 exact Zp (r2 [] [.i lo,.b false] ⟨_,rfl,rfl⟩ (Zc.tup (.cons li (.cons (lb (by have hm:=Z52 Zx om;simp [hm])) .nil))))
theorem Zh9 (xs:LI) (v:Int) (hl:xs.length<=1000000000:=by exact ob) (hs:xs.Pairwise (·<·):=by exact ob):Zi 118 [Z4 xs,.i v] [] (Yl (.b (decide (v∈xs)))):=by
 refine ZE 14 Tryz.func118 (Zy (Y1 2 (ic [] (Z4x xs v) ?_)))
 rintro _ _ ⟨q1,rfl,rfl⟩
 exact Z0 (ar (Zp (C1)))
theorem Zi4 (am:List X2) (a:X2) (b:Z7) (hal:am.length<=900000000:=by exact ob) (hc:∀s∈b.steps,YC s.op=true->Cn s) (hf:a.fds.length<=3:=by exact ob) (hq:0<=a.fst/\a.fst<=1000000000:=by exact ob) (hz:b.steps.length<=900000000:=by exact ob):Zi 60 [Xf (am++[a]),ZZ b] [] (Yl (ZZ (Ue b a.mat a.fds a.fst))):=by
 have hrl:=CN b.steps
 have hpl:(b.steps.take (Ys b.steps)).length=Ys b.steps:=by rw [WY];omega
 have hlen:(am++[a]).length=am.length+1:=by simp
 refine ZE 120 Tryz.func60 (ar (iA (Xu b) fun b1=>iA [nl,.i 0] fun b2=>ie (Y1 2 (io (.i (((am++[a]).length:Nat):Int)) (.i (((WR (am++[a])).length:Nat):Int)) (li (by rw [Oq])) (ia ((am.length:Int)) (((((am++[a]).length:Nat):Int))-(1)) ?_)))))
 obtain ⟨x1,Z3⟩:=Zt (am++[a]) am.length om
 have hxq:x1=a:=by rw [Bi om] at Z3;simpa using Z3.symm
 have hf1:(x1).fds.length<=3:=by rw [hxq];exact hf
 have hq1:0<=(x1).fst/\(x1).fst<=1000000000:=by rw [hxq];exact hq
 have hhl:=Ln (x1).fds (x1).fst
 refine Zq (Zm none (am.length:Int) 4 (Oo Z3)) (Z1 1 (iA [.i 0,.i 0,nl,.b false] fun b3=>ZA 0 b3 [.i x1.mat,.i x1.fst,Z4 x1.fds,.b x1.chg] (ie (Zv 1 [2] (Zw [] (Zc0 b) (Z0 (Zy (Yi 2 [0] (iw (Yc x1.fds) (Xx [3,4,5,6,7] [(38,.b (((x1.fds.length:Int)==0)||(!(decide (x1.mat∈YU 15 (b.steps.take (Ys b.steps)))))))] (fun gz=>gz) ?_ ?_))))))))))
 ·refine Z1 2 (ib (b:=((x1.fds.length:Int)==0)) 30 (fun Zb=>?_) (fun Zb=>?_))
  ·have ZY:(x1.fds.length:Int)=0:=(Zr).1 Zb
   exact Z0 (ZF 3 (Zu true Zb fl))
  have Yf:¬((x1.fds.length:Int)=0):=Y8 Zr Zb
  exact ZL 3 [2] (Zq (KO (es:=ZG b.steps) (hv:=none) (l:=0) (m:=(((Ys b.steps):Nat):Int)) (sz:=5) (es':=ZG (b.steps.take (Ys b.steps))) kr om (by simp<;>omega) (by simp<;>omega) (Xw _) (by first|(simp only [VF,Vw,Qc,Qb];done)|(simp only [VF,Vw,Qc,Qb];rfl)|(simp [Qc,Qb];done))) (Z1 1 (Zw [0] (Z65 (b.steps.take (Ys b.steps)) x1 b3 (ha:=(fun s hs h15=>N9 (hc s (TB hs) (by rw [h15];rfl))))) (Z0 (ZF 3 (Zu (!(decide (x1.mat∈YU 15 (b.steps.take (Ys b.steps))))) Zb fl))))))
 refine ac (((x1.fds.length:Int)==0)||(!(decide (x1.mat∈YU 15 (b.steps.take (Ys b.steps)))))) (p:=((x1.fds.length:Int)=0)∨(¬(x1.mat∈YU 15 (b.steps.take (Ys b.steps))))) (Yh Zr (Ym dq)) (fun Za=>?_) (fun Za=>?_)
 ·exact Zv 1 [2] (ZA 1 b2 (Xu b) (ie (ZB (r3 [] [ZZ b] [0] [(b2,b2)] ⟨rfl,rfl⟩ (Zc.agg (.cons (Zc.sl _ (Yu ZG (Nq (fun z=>Za.elim (fun e=>z.2 (by rw [<-hxq];omega)) (fun e=>e (by rw [hxq];exact z.1)))).symm)) (.cons li .nil)))))))
 refine ak (Zy (Zv 1 [0] (Zw [] (PO x1) (Z0 (Zy (Yi 3 [2] (Zq (KO (es:=ZG b.steps) (hv:=none) (l:=0) (m:=(((Ys b.steps):Nat):Int)) (sz:=5) (es':=ZG (b.steps.take (Ys b.steps))) kr om (by simp<;>omega) (by simp<;>omega) (Xw _) (by first|(simp only [VF,Vw,Qc,Qb];done)|(simp only [VF,Vw,Qc,Qb];rfl)|(simp [Qc,Qb];done))) (io (.i (((b.steps.take (Ys b.steps)).length:Nat):Int)) (.i (((ZG (b.steps.take (Ys b.steps))).length:Nat):Int)) (li (by rw [VU])) (Z0 (ab 0 (UM 5 (UM 5 (Y3 (fun fz gz m F h=>∃(k:Nat) (du:List Z5) (dr:List Z5) (lf:LI) (d:Bool) (va:Value) (vb:Value),(k<=Ys b.steps)/\(du.length<=k)/\(dr.length<=k)/\(lf.Pairwise (·<·))/\(lf.length<=3)/\(Qj x1.mat du dr ((b.steps.take (Ys b.steps)).drop k) lf d=Tv x1.mat (b.steps.take (Ys b.steps)) (XE x1.fds x1.fst) false)/\F=sF [3,4,5,6,7,45,46] fz [(8,X9 du va),(9,X9 dr vb),(10,Z4 lf),(11,.b d),(47,.i k)]/\h=[Ze gz 2,Ze gz 3,Ze gz 4,.tail va 5,.tail vb 5]/\m=Ys b.steps-k) _ _ _ ⟨0,[],[],(XE x1.fds x1.fst),false,(.slice none 0 0),(.slice none 0 0),ob,ob,ob,(Ey _ _),ob,rfl,rfl,rfl,rfl⟩ (wk [2,2,2,0,0] (fc (x:=nl) (Zc.slh _ (by first|rfl|(subst_vars;rfl))) (fc (x:=nl) (Zc.slh _ (by first|rfl|(subst_vars;rfl))) (fw (Ya fl))))) ?_)))))))))))))
 rintro m F h ⟨k,du,dr,lf,d,va,vb,Ye,Zk,Zx,Yy,XY,TF,rfl,rfl,rfl⟩
 refine Zy (aq (XF ((k:Int)<(((b.steps.take (Ys b.steps)).length:Nat):Int)) (fun Zg=>?_) (fun Zg=>?_)))
 ·obtain ⟨xe,hxe⟩:=Zt (b.steps.take (Ys b.steps)) k om
  have hxm:=TB (Y4 hxe)
  have hrp:=KM (Y4 hxe)
  have hcn:=hc xe hxm (Cj hrp)
  obtain ⟨xa,hxa1⟩:=N9 hcn
  have hxa2:xe.args[0]? = some xa:=by rw [hxa1];rfl
  have hg:=JZ hxa2
  refine ak (aq (ab 1 (ar (Zq (Zm none (k:Int) 5 (VP hxe)) (Z1 1 (iA [.i 0,.i 0,.i 0,nl,nl] fun b4=>ZA 0 b4 (Xz xe) (ie (ab 2 (ar (XA 11 [3,4,5,6,7,8,9,10,11,13,45,46,47] [(66,.b ((xe.op==14)&&(decide (xa∈lf))))] (fun gz=>gz) ?_ (fun hj1=>?_)))))))))))
  ·refine Z0 (J3 (fun fz gz F h=>∃(du2:List Z5) (dr2:List Z5) (lf2:LI) (d2:Bool) (w1:Value) (w2:Value),(du2.length<=k+1)/\(dr2.length<=k+1)/\(lf2.Pairwise (·<·))/\(lf2.length<=3)/\(Qj x1.mat du2 dr2 ((b.steps.take (Ys b.steps)).drop (k+1)) lf2 d2=Tv x1.mat (b.steps.take (Ys b.steps)) (XE x1.fds x1.fst) false)/\F=sF [3,4,5,6,7,45,46,47] fz [(8,X9 du2 w1),(9,X9 dr2 w2),(10,Z4 lf2),(11,.b d2)]/\h=[Ze gz 1,Ze gz 2,Ze gz 3,.tail w1 5,.tail w2 5]) (fun _ _=>rfl) ?_ ?_)
   ·refine ac ((xe.op==14)&&(decide (xa∈lf))) (p:=(xe.op=14)/\(xa∈lf)) (YG Zr dq) (fun ZH=>?_) (fun ZH=>?_)
    ·exact az (ZL 3 [0] (Zq (Zm none 0 1 (Y2 hxa2)) (Z1 1 (Zw [] (Zhb lf xa) (Z0 (ZU ⟨du,dr,(K3 lf xa),d,va,vb,ob,ob,(Zec Yy _),(VL (Zeb _ _) XY),(by have h:=Zhr hxe ZH.1 (by rw [hg];exact ZH.2) TF;rw [hg] at h;exact h),rfl,rfl⟩ (wk [1,1,1,1,1] fl)))))))
    refine Aq [0] (ac (xe.op==14) Zr (fun Yj=>?_) (fun Yj=>?_))
    ·exact az (ZL 2 [0] (iL [YD xe] 1 5 fun v1=>ZT 0 [(79,.sl [YD xe] none)] (ip 5 (ZG (du++[xe])) (ZG du) [YD xe] va none 5 (Xw _) (Ta rfl) rfl (by simp<;>omega) (by simp [V0,VH]) fun v2=>Z0 (ZU ⟨(du++[xe]),dr,lf,d,v2,vb,(by simp;omega),ob,ob,ob,(Zhp hxe Yj (fun z=>ZH ⟨Yj,by rw [<-hg];exact z⟩) TF),rfl,rfl⟩ (wk [3,3,3,0,2] fl)))))
    refine Zv 2 [0] (Zw [1] (Z16 xe x1 b3 (ha:=(fun _=>⟨xa,hxa1⟩))) (XA 7 [3,4,5,6,7,8,9,10,11,13,45,46,47] [(88,.b (((xe.op==15)&&(gI xe.args 0==x1.mat))&&(!d)))] (fun gz=>gz) ?_ (fun hj2=>?_)))
    ·refine YE (((xe.op==15)&&(gI xe.args 0==x1.mat))&&(!d)) (p:=((xe.op=15)/\(gI xe.args 0=x1.mat))/\(¬(d=true))) (YG (YG Zr Zr) (Ym Iff.rfl)) (fun Xh=>?_) (fun Xh=>?_)
     ·exact T6 (ZU ⟨du,dr,lf,true,va,vb,ob,ob,ob,ob,(Zho hxe Yj Xh TF),rfl,rfl⟩ (wk [0,1,1,1,1] fl))
     exact az (ZL 2 [1] (iL [YD xe] 1 5 fun v3=>ZT 0 [(53,.sl [YD xe] none)] (ip 6 (ZG (dr++[xe])) (ZG dr) [YD xe] vb none 5 (Xw _) (Ta rfl) rfl (by simp<;>omega) (by simp [V0,VH]) fun v4=>Z0 (ZU ⟨du,(dr++[xe]),lf,d,va,v4,ob,(by simp;omega),ob,ob,(Zhs hxe Yj Xh TF),rfl,rfl⟩ (wk [2,3,3,3,0] fl)))))
    refine Z1 1 (ib (b:=((xe.op==15)&&(gI xe.args 0==x1.mat))) 85 (fun Zz=>?_) (fun Zz=>?_))
    ·have YJ:(xe.op=15)/\(gI xe.args 0=x1.mat):=((YG Zr Zr)).1 Zz
     exact Z1 3 (Yn (ZF 6 (Zu (!d) Zz fl)) hj2)
    have YT:¬((xe.op=15)/\(gI xe.args 0=x1.mat)):=Y8 (YG Zr Zr) Zz
    exact Z1 3 (Yn (ZF 6 (Zu false Zz fl)) hj2)
   rintro F h ⟨du2,dr2,lf2,d2,w1,w2,GT,R8,R9,Zcr,Zly,rfl,rfl⟩
   exact az (ZJ k (Z0 (ZK ⟨k+1,du2,dr2,lf2,d2,w1,w2,ob,ob,ob,ob,ob,ob,rfl,rfl,rfl⟩ (ZF 5 (fq (ZO k fl))))))
  refine ZL 4 [0] (ib (b:=(xe.op==14)) 59 (fun Yp=>?_) (fun Yp=>?_))
  ·have Xk:xe.op=14:=(Zr).1 Yp
   exact ZL 3 [0] (Zq (Zm none 0 1 (Y2 hxa2)) (Z1 1 (Zw [] (Zh9 lf xa (hs:=Yy)) (Z1 1 (Yn (ZF 6 (Zu (decide (xa∈lf)) Yp fl)) hj1)))))
  have W4:¬(xe.op=14):=Y8 Zr Yp
  exact Z1 7 (Yn (ZF 6 (Zu false Yp fl)) hj1)
 have hWe:=Zhq om TF
 refine ax 0 (Zv 3 [0] (ic [] (PS 16 x1.mat) ?_))
 rintro _ _ ⟨u1,rfl,rfl⟩
 refine ZT 0 [(93,.agg [.i 16,.i 0,.i 0,Z4 [x1.mat],RY []])] (iL [YD (Z5.mk 16 0 0 [x1.mat] [])] 1 5 fun v5=>ZT 0 [(94,.sl [YD (Z5.mk 16 0 0 [x1.mat] [])] none)] (ip 5 (ZG (du++[Z5.mk 16 0 0 [x1.mat] []])) (ZG du) [YD (Z5.mk 16 0 0 [x1.mat] [])] va none 5 (Xw _) (Ta rfl) rfl (by simp<;>omega) (by simp [V0,VH]) fun v6=>Z0 (ar (ZT 2 [(97,Vl dr)] (ip 0 (ZG ((du++[Z5.mk 16 0 0 [x1.mat] []])++dr)) (ZG (du++[Z5.mk 16 0 0 [x1.mat] []])) (ZG dr) v6 none 5 (Xw _) (Xw _) (UO _) (by simp<;>omega) (by simp [V0,ZG]) fun v7=>?_)))))
 refine Z0 (YP 1 (iw (Yc lf) (Z0 (ab 3 (Y3 (fun fz gz m F h=>∃(j:Nat) (u:Value),(j<=lf.length)/\F=sF [3,4,6,99,100] fz [(14,X9 (((du++[ZC 16 x1.mat])++dr)++(lf.take j).map (ZC 15)) u),(101,.i j)]/\h=[Ze gz 4,Ze gz 5,.tail u 5]/\m=lf.length-j) _ _ _ ⟨0,v7,ob,rfl,rfl,rfl⟩ (wk [4,4,0] (fc (x:=X9 ((du++[Z5.mk 16 0 0 [x1.mat] []])++dr) v7) (Zc.slh _ (Yu ZG (by simp [ZC]))) (Ya fl))) ?_)))))
 rintro m F h ⟨j,u,Um,rfl,rfl,rfl⟩
 refine Zy (aq (XF ((j:Int)<(lf.length:Int)) (fun Xn=>?_) (fun Xn=>?_)))
 ·refine ak (aq (ab 4 (ar ?_)))
  obtain ⟨x2,Zs⟩:=Zt lf j om
  have hxl:=Zs
  refine Zq (Zm none (j:Int) 1 (Y2 Zs)) (Z0 (az (Z1 2 (ic [] (PS 15 x2) ?_))))
  rintro _ _ ⟨u2,rfl,rfl⟩
  exact ZT 0 [(107,.agg [.i 15,.i 0,.i 0,Z4 [x2],RY []])] (iL [YD (Z5.mk 15 0 0 [x2] [])] 1 5 fun v8=>ZT 0 [(108,.sl [YD (Z5.mk 15 0 0 [x2] [])] none)] (ip 4 (ZG (((du++[ZC 16 x1.mat])++dr)++(lf.take (j+1)).map (ZC 15))) (ZG (((du++[ZC 16 x1.mat])++dr)++(lf.take j).map (ZC 15))) [YD (Z5.mk 15 0 0 [x2] [])] u none 5 (Xw _) (Ta rfl) rfl (by simp<;>omega) (by rw [V4 hxl,List.map_append,<-UC];simp [V0,VH,ZC]) fun v9=>Z0 (az (ZJ j (Z0 (ZK ⟨j+1,v9,ob,rfl,rfl,rfl⟩ (wk [3,3,0] (fr (ZO j fl)))))))))
 refine ax 3 (aD 10 (ZI 6 10 [0,1,2,3] [1] (dx 4 (KO (es:=ZG b.steps) (hv:=none) (l:=(((Ys b.steps):Nat):Int)) (m:=(((ZG b.steps).length:Nat):Int)) (sz:=5) (es':=ZG (b.steps.drop (Ys b.steps))) kr om (by simp<;>omega) (by simp<;>omega) (Xw _) (by first|(simp only [VF,Vw,Qc,Qb];done)|(simp only [VF,Vw,Qc,Qb];rfl)|(simp [Qc,Qb];done))) (ZI 3 5 [6,7] [1] (Z9 5 (dp 5 2 [1] [b1] (ZG ((((du++[ZC 16 x1.mat])++dr)++(lf.take j).map (ZC 15))++(b.steps.drop (Ys b.steps)))) (ZG (((du++[ZC 16 x1.mat])++dr)++(lf.take j).map (ZC 15))) (ZG (b.steps.drop (Ys b.steps))) u none 5 (Xw _) (Xw _) (UO _) (by simp<;>omega) (by simp [V0,ZG]) fun v10=>Zj 1 2 [8] (Z9 9 (YM 9 1 [] [] b2 [X9 ((((du++[ZC 16 x1.mat])++dr)++(lf.take j).map (ZC 15))++(b.steps.drop (Ys b.steps))) v10,.i b.result] (de ?_)))))))))
 have hE:=Zi1 hc (Wc.1 fun z=>Za (.inr z)) (fun z=>Za (.inl om)) hWe.symm
 exact ZB (r3 [] [.agg [X9 ((((du++[ZC 16 x1.mat])++dr)++(lf.take j).map (ZC 15))++(b.steps.drop (Ys b.steps))) v10,.i b.result]] [0] [(b2,b2)] ⟨rfl,rfl⟩ (Zc.agg (.cons (Zc.sl _ (Yu ZG (by rw [Vx om,<-hxq];exact hE))) (.cons li .nil))))
theorem Z15 (am:List X2) (x:Int) (q:Nat) (fs:LI) (b:Z7) (hal:am.length<=900000000:=by exact ob) (hc:∀s∈b.steps,YC s.op=true->Cn s) (hf:fs.length<=3:=by exact ob) (hq:q<=1000000000:=by exact ob) (hz:b.steps.length<=900000000:=by exact ob):Zi 60 [Xf (am++[X2.mk x q fs false]),ZZ b] [] (Yl (ZZ (Ue b x fs q))):=Zi4 am ⟨x,q,fs,false⟩ b hal hc hf ⟨by show 0<=(q:Int);omega,by show (q:Int)<=1000000000;omega⟩ hz
theorem Zbt (n:Zl) (b:Z7) (mm:Nat) (am:List X2) (hn:X3 n) (hw:wB n.decls b) (hal:am.length+b.pz<=800000000) (hb:mm+4*b.pz<=900000000) (ih:∀(b2:Z7) (m2:Nat) (a2:List X2),(wB n.decls b2)->(a2.length+b2.pz<=800000000)->(m2+4*b2.pz<=900000000)->(b2.pz<b.pz)->Zi 46 [.agg [ZM n.decls,YO n],ZZ b2,.i m2,Xf a2,.val (.func (.func 60) #[] #[])] [] (fun r h=>∃(y:XL),r=Qo y/\h=[.many (Vi y)]/\y.er=XD n.decls m2 b2)):Zi 46 [.agg [ZM n.decls,YO n],ZZ b,.i mm,Xf am,.val (.func (.func 60) #[] #[])] [] (fun r h=>∃(y:XL),r=Qo y/\h=[.many (Vi y)]/\y.er=XD n.decls mm b):=by
 have XC:=hn.decls
 have hbz:=SP b
 refine ZE 98 Tryz.func46 (ar (iA [ZM n.decls,YO n] fun b1=>iA (Xu b) fun b2=>iA [nl,.i 0] fun b3=>ie (Zv 3 [1] (iA [nl,.i 0] fun b4=>?_))))
 refine ZA 0 b4 [nl,.i b.result] (ie (Yi 2 [2] (iw (VU b.steps) (Z0 (ab 0 (UM 5 (TE (tB [] [] [] (Vj []) (by simp [QA,Qv,QS,QT,QU,QV,QR,Vj,WQ,Qz,Vi,U3,VX,U4,Qw,Qx,Qy,Tp])) (Y3 (fun fz gz m F h=>∃(k:Nat) (q:Nat) (xs:List Wq) (v:Value),(k<=b.steps.length)/\(q<=mm+k)/\(xs.length=k)/\(J6 xs++We n.decls q (b.steps.drop k)=We n.decls mm b.steps)/\F=sF [3,4,5,10,11,23,24] fz [(2,.i q),(25,.i k)]/\h=[.obj b4 [DC xs v,.i b.result],Ze gz 3,Ze gz 5,.tail v 5,.many (Vj xs)]/\m=b.steps.length-k) _ _ _ ⟨0,mm,[],(.slice none 0 0),ob,ob,ob,rfl,rfl,rfl,rfl⟩ (wk [2,2,3,1,0] (fr (Ya fl))) ?_))))))))
 rintro m F h ⟨k,q,xs,v,Ye,Zk,Zx,Yy,rfl,rfl,rfl⟩
 refine Zy (aq (XF ((k:Int)<(b.steps.length:Int)) (fun Za=>?_) (fun Za=>?_)))
 ·refine ak (aq (ab 1 (ar ?_)))
  obtain ⟨x1,Z3⟩:=Zt b.steps k om
  have Xv:=Zfz Z3
  have hws:=Z2s hw Z3
  have hkz:=Zfy x1
  have haz:=Zfw x1
  refine Zq (Zm none (k:Int) 5 (VP Z3)) (Z1 1 (iA [.i 0,.i 0,.i 0,nl,nl] fun b5=>?_))
  refine ZA 0 b5 (Xz x1) (ie (Zy (Yi 2 [0] (iw (Uf x1.kids) (Z0 (ab 2 (UM 2 (TE (tB [] [] [] (WQ []) (by simp [QA,Qv,QS,QT,QU,QV,QR,Vj,WQ,Qz,Vi,U3,VX,U4,Qw,Qx,Qy,Tp])) (Y3 (fun fz gz m F h=>∃(j:Nat) (ys:List XL) (u:Value),(j<=x1.kids.length)/\(ys.length=j)/\(Ky ys++Wx n.decls q x1.op x1.num x1.args (x1.kids.drop j) j=Wx n.decls q x1.op x1.num x1.args x1.kids 0)/\F=sF [2,3,4,5,10,11,13,23,24,25,30,31] fz [(14,BK ys u),(32,.i j)]/\h=[Ze gz 2,Ze gz 3,Ze gz 4,Ze gz 5,Ze gz 7,.tail u 2,Ze gz 6,.many (WQ ys)]/\m=x1.kids.length-j) _ _ _ ⟨0,[],(.slice none 0 0),ob,ob,(by simp [Ky]),rfl,rfl,rfl⟩ (wk [2,2,2,2,3,1,1,0] (fc (x:=nl) (Zc.slh _ (by first|rfl|(subst_vars;rfl))) (Ya fl))) ?_)))))))))
  rintro m F h ⟨j,ys,u,Um,Wa,W6,rfl,rfl,rfl⟩
  refine Zy (aq (XF ((j:Int)<(x1.kids.length:Int)) (fun Zg=>?_) (fun Zg=>?_)))
  ·refine ak (aq (ab 3 (Y1 1 ?_)))
   obtain ⟨x2,Zs⟩:=Zt x1.kids j om
   have hkb:=Zs
   have hks:=Zfx Zs
   have hwk:=HL hws Zs
   have hst:=SP x2
   refine Zq (Zm none (j:Int) 2 (T3 Zs)) (Z1 1 (iA [nl,.i 0] fun b6=>Z1 1 (ZA 0 b6 (Xu x2) (ie (Xa (VY [1] (ac (x1.op != 8) Y6 (fun ZH=>?_) (fun ZH=>?_))))))))
   ·refine Zv 6 [4,0] (ic [] (ih x2 q am (by first|exact hwk|exact HJ hwk) (by first|omega|(have h:=AK (x:=x3) (q:=(q:Int)) hxl hwk;simp only [Yq,X5,XP];omega)) (by first|omega|(have h:=AK (x:=x3) (q:=(q:Int)) hxl hwk;omega)) (by first|omega|(have h:=AK (x:=x3) (q:=(q:Int)) hxl hwk;omega))) ?_)
    rintro _ _ ⟨y1,rfl,rfl,ZY⟩
    have hy:(y1).er=Jg n.decls q x1.op x1.num x1.args j x2:=by
     first
     | (rw [Jg,Z6 om];exact ZY)
     | (rw [Jg,Zd om,hfk,hg1];exact Eq.trans ZY (MI hwk))
    exact iL [Qo y1] 1 2 fun v1=>ZT 0 [(47,.sl [Qo y1] none)] (ip 8 (Tn (ys++[y1])) (Tn ys) [Qo y1] u none 2 (II _) (Ta rfl) rfl (by simp<;>omega) (by simp [IH,Co]) fun v2=>Wd (tB [10,2] [.many (WQ ys),.many (Vi y1)] (WQ ys++(Vi y1++[])) (WQ (ys++[y1])) (by simp [QA,Qv,QS,QT,QU,QV,QR,Vj,WQ,Qz,Vi,U3,VX,U4,Qw,Qx,Qy,Tp])) (Z0 (ax 3 (az (ZJ j (Z0 (ZK ⟨j+1,(ys++[y1]),v2,ob,ob,(by rw [IS,IU,hy];exact Fb hkb W6),rfl,rfl,rfl⟩ (wk [4,4,4,4,4,1,3,0] (fr (ZO j fl))))))))))
   refine ak (aD 15 (ZI 13 15 [0,1] [1] ?_))
   obtain ⟨x3,YL⟩:=Zt x1.args 0 (by obtain ⟨⟨a,ha2,_⟩,_⟩:=Fw hws om;rw [ha2];simp)
   have hg1:=JZ YL
   refine dx 2 (Zm none 0 1 (Y2 YL)) (ZI 6 12 [3,4,5,6,7,9] [4,1] (VN 8 13 ?_ ?_))
   ·refine Yz 8 [] [1] [b5] (GJ _ x1.num) ?_
    obtain ⟨x4,WS⟩:=Zt ((ZV n.decls x1.num).map (ZX n.decls)) j (by have h:=(Fw hws om).2;rw [Ka];omega)
    have hfk:=Gg WS
    have hxl:(x4).length<=3:=by rw [<-hfk];exact IX XC _ _
    refine dx 10 (Zm none (j:Int) 1 (An WS)) (Zj 2 4 [11,12] (Z9 13 (dA 13 [1] [b5] [.i 0,.i 0,nl,.b false] fun b7=>Z9 14 (YM 14 0 [] [] b7 [.i x3,.i q,Z4 x4,.b false] (de (Zv 2 [0] (Zw [] (FH am (X2.mk x3 (q:Int) x4 false)) (Z0 (aE 17 (ZI 9 17 [0,1,2,3,4,6,7,8] [5,1,0] (dw 9 (Yc x4) (da 10 (((q+x4.length:Nat):Int)) (((q:Int))+((x4.length:Int))) (Zj 5 7 [11,12] (Z9 5 (Yz 5 [] [0,5] [b7,b1] (Z15 am x3 q x4 x2 (hc:=(FB ((Ji _).1 hwk)))) (Z9 13 (dc 13 [] [] [] (ih (Ue x2 x3 x4 q) (q+x4.length) (am++[(X2.mk x3 (q:Int) x4 false)]) (by first|exact hwk|exact HJ hwk) (by first|omega|(have h:=AK (x:=x3) (q:=(q:Int)) hxl hwk;simp only [Yq,X5,XP];omega)) (by first|omega|(have h:=AK (x:=x3) (q:=(q:Int)) hxl hwk;omega)) (by first|omega|(have h:=AK (x:=x3) (q:=(q:Int)) hxl hwk;omega))) ?_)))))))))))))))))
    rintro _ _ ⟨y2,rfl,rfl,Yf⟩
    have hy:(y2).er=Jg n.decls q x1.op x1.num x1.args j x2:=by
     first
     | (rw [Jg,Z6 om];exact Yf)
     | (rw [Jg,Zd om,hfk,hg1];exact Eq.trans Yf (MI hwk))
    exact Z9 14 (dL 14 [] [] [Qo y2] 1 2 fun v3=>YA 2 2 [] [(79,.sl [Qo y2] none)] (Z9 15 (dp 15 9 [] [] (Tn (ys++[y2])) (Tn ys) [Qo y2] u none 2 (II _) (Ta rfl) rfl (by simp<;>omega) (by simp [IH,Co]) fun v4=>Jr (tB [11,2] [.many (WQ ys),.many (Vi y2)] (WQ ys++(Vi y2++[])) (WQ (ys++[y2])) (by simp [QA,Qv,QS,QT,QU,QV,QR,Vj,WQ,Qz,Vi,U3,VX,U4,Qw,Qx,Qy,Tp])) (Zj 0 1 [16] (de (az (ZJ j (Z0 (ZK ⟨j+1,(ys++[y2]),v4,ob,ob,(by rw [IS,IU,hy];exact Fb hkb W6),rfl,rfl,rfl⟩ (wk [5,5,5,5,5,1,4,0] (fr (ZO j fl))))))))))))
   refine dA 13 [1,4,1] [b5,b1,b5] [.i 0,.i 0,nl,.b false] fun b8=>Z9 8 (Yz 8 [] [2] [b5] (GJ _ x1.num) ?_)
   obtain ⟨x5,Ui⟩:=Zt ((ZV n.decls x1.num).map (ZX n.decls)) j (by have h:=(Fw hws om).2;rw [Ka];omega)
   have hfk:=Gg Ui
   have hxl:(x5).length<=3:=by rw [<-hfk];exact IX XC _ _
   refine dx 10 (Zm none (j:Int) 1 (An Ui)) (Zj 1 3 [11,12] (Z9 14 (YM 14 0 [] [] b8 [.i x3,.i q,Z4 x5,.b false] (de (Zv 2 [0] (Zw [] (FH am (X2.mk x3 (q:Int) x5 false)) (Z0 (aE 17 (ZI 9 17 [0,1,2,3,4,6,7,8] [5,1,0] (dw 9 (Yc x5) (da 10 (((q+x5.length:Nat):Int)) (((q:Int))+((x5.length:Int))) (Zj 5 7 [11,12] (Z9 5 (Yz 5 [] [0,5] [b8,b1] (Z15 am x3 q x5 x2 (hc:=(FB ((Ji _).1 hwk)))) (Z9 13 (dc 13 [] [] [] (ih (Ue x2 x3 x5 q) (q+x5.length) (am++[(X2.mk x3 (q:Int) x5 false)]) (by first|exact hwk|exact HJ hwk) (by first|omega|(have h:=AK (x:=x3) (q:=(q:Int)) hxl hwk;simp only [Yq,X5,XP];omega)) (by first|omega|(have h:=AK (x:=x3) (q:=(q:Int)) hxl hwk;omega)) (by first|omega|(have h:=AK (x:=x3) (q:=(q:Int)) hxl hwk;omega))) ?_))))))))))))))))
   rintro _ _ ⟨y3,rfl,rfl,YJ⟩
   have hy:(y3).er=Jg n.decls q x1.op x1.num x1.args j x2:=by
    first
    | (rw [Jg,Z6 om];exact YJ)
    | (rw [Jg,Zd om,hfk,hg1];exact Eq.trans YJ (MI hwk))
   exact Z9 14 (dL 14 [] [] [Qo y3] 1 2 fun v5=>YA 2 2 [] [(79,.sl [Qo y3] none)] (Z9 15 (dp 15 9 [] [] (Tn (ys++[y3])) (Tn ys) [Qo y3] u none 2 (II _) (Ta rfl) rfl (by simp<;>omega) (by simp [IH,Co]) fun v6=>Jr (tB [11,2] [.many (WQ ys),.many (Vi y3)] (WQ ys++(Vi y3++[])) (WQ (ys++[y3])) (by simp [QA,Qv,QS,QT,QU,QV,QR,Vj,WQ,Qz,Vi,U3,VX,U4,Qw,Qx,Qy,Tp])) (Zj 0 1 [16] (de (az (ZJ j (Z0 (ZK ⟨j+1,(ys++[y3]),v6,ob,ob,(by rw [IS,IU,hy];exact Fb hkb W6),rfl,rfl,rfl⟩ (wk [5,5,5,5,5,1,4,0] (fr (ZO j fl))))))))))))
  have hK:=Z0x om W6
  refine ax 2 (aD 9 (ZI 5 9 [0,1,2,3] [1,0] (Z9 4 (dc 4 [] [1] [b4] (Zc5 x1 ys u) ?_))))
  rintro _ _ ⟨u1,rfl,rfl⟩
  refine Z9 5 (dL 5 [1] [b4] [E2 (Wq.mk x1.op x1.num x1.into x1.args u1 ys u)] 1 5 fun v7=>YA 3 3 [] [(87,.sl [E2 (Wq.mk x1.op x1.num x1.into x1.args u1 ys u)] none)] (Z9 6 (dp 6 8 [] [] (QM (xs++[Wq.mk x1.op x1.num x1.into x1.args u1 ys u])) (QM xs) [E2 (Wq.mk x1.op x1.num x1.into x1.args u1 ys u)] v none 5 (Z7k _) (Ta rfl) rfl (by simp<;>omega) (by simp [Z7j,Eg]) fun v8=>?_)))
  refine Jr (tB [7,2,7,6] [.many (Vj xs),.tail u1 1,.many (WQ ys),.tail u 2] (Vj xs++((u1,1)::(WQ ys++((u,2)::[])))) (Vj (xs++[Wq.mk x1.op x1.num x1.into x1.args u1 ys u])) (by simp [QA,Qv,QS,QT,QU,QV,QR,Vj,WQ,Qz,Vi,U3,VX,U4,Qw,Qx,Qy,Tp])) (Zj 1 2 [7] (Z9 8 (YM 8 4 [] [] b4 [DC (xs++[Wq.mk x1.op x1.num x1.into x1.args u1 ys u]) v8,.i b.result] (de (Zv 2 [4] (Zw [] (EB x1.op) (Z0 (J3 (fun fz gz F h=>F=sF [3,4,5,10,11,23,24,25] fz [(2,.i (((if YC x1.op=true then q else q+1):Nat):Int))]/\h=[Ze gz 0,Ze gz 1,Ze gz 5,Ze gz 6,Ze gz 2]) (fun _ _=>rfl) ?_ ?_))))))))
  ·refine ac (!YC x1.op) (p:=¬(YC x1.op=true)) (Ym Iff.rfl) (fun Yj=>?_) (fun Yj=>?_)
   ·exact az (Z1 1 (ZJ q (Z0 (ZU ⟨rfl,rfl⟩ (wk [0,0,3,3,0] (fc (x:=.i (q+1:Nat)) (li (by rw [Z6 Yj])) fl))))))
   exact ak (ZU ⟨rfl,rfl⟩ (wk [0,0,3,3,0] (fc (x:=.i q) (li (by rw [Zd (Wc.1 Yj)])) fl)))
  rintro F h ⟨rfl,rfl⟩
  exact az (ZJ k (Z0 (ZK ⟨k+1,(if YC x1.op=true then q else q+1),(xs++[Wq.mk x1.op x1.num x1.into x1.args u1 ys u]),v8,ob,(by split<;>omega),ob,(by rw [Z7w,Z7x,Wq.er,hK];exact Z18 Z3 Yy),rfl,rfl,rfl⟩ (wk [0,1,1,1,0] (fr (ZO k fl))))))
 exact ax 0 (Zv 1 [0] (ZA 1 b3 [DC xs v,.i b.result] (ie (TE (tB [4,3] [.many (Vj xs),.tail v 5] (Vj xs++((v,5)::[])) (Vi (XL.mk xs v b.result)) (by simp [QA,Qv,QS,QT,QU,QV,QR,Vj,WQ,Qz,Vi,U3,VX,U4,Qw,Qx,Qy,Tp])) (ZB (r3 [0] [.agg [DC xs v,.i b.result]] [1] [(b3,b3)] ⟨(XL.mk xs v b.result),rfl,rfl,(by rw [XL.er,CP,Z17 om Yy])⟩ (lr _)))))))
theorem Zbr (n:Zl) (hn:X3 n) (k:Nat):∀(b2:Z7) (m2:Nat) (a2:List X2),(wB n.decls b2)->(a2.length+b2.pz<=800000000)->(m2+4*b2.pz<=900000000)->(b2.pz<k)->Zi 46 [.agg [ZM n.decls,YO n],ZZ b2,.i m2,Xf a2,.val (.func (.func 60) #[] #[])] [] (fun r h=>∃(y:XL),r=Qo y/\h=[.many (Vi y)]/\y.er=XD n.decls m2 b2):=by
 induction k with
 | zero=>intro b mm am _ _ _ h;omega
 | succ k ih=>intro b mm am h1 h2 h3 h4;exact Zbt n b mm am hn h1 h2 h3 fun b2 m2 a2 k1 k2 k3 k4=>ih b2 m2 a2 k1 k2 k3 om
theorem Zbs (n:Zl) (b:Z7) (mm:Nat) (am:List X2) (hn:X3 n:=by exact ob) (hw:wB n.decls b:=by exact ob) (hal:am.length+b.pz<=800000000:=by exact ob) (hb:mm+4*b.pz<=900000000:=by exact ob):Zi 46 [.agg [ZM n.decls,YO n],ZZ b,.i mm,Xf am,.val (.func (.func 60) #[] #[])] [] (fun r h=>∃(y:XL),r=Qo y/\h=[.many (Vi y)]/\y.er=XD n.decls mm b):=Zbr n hn (b.pz+1) b mm am hw hal hb om
theorem Zc3 (n:Zl) (rt:Yb) (b:Z7) (bs:Nat) (hn:X3 n:=by exact ob) (hw:wB n.decls b:=by exact ob) (hp:rt.params.length<=4:=by exact ob) (hb:b.pz<=200000000:=by exact ob):Zi 59 [QJ rt,ZZ b,.p bs 0] [.obj bs [ZM n.decls,YO n]] (fun r h=>∃(y:XL),r=Qo y/\h=[.many (Vi y),.obj bs [ZM n.decls,YO n]]/\y.er=XD n.decls rt.params.length b):=by
 refine ZE 12 Tryz.func59 (ar (iA (Tt rt) fun b1=>iA (Xu b) fun b2=>iA [nl,.i 0] fun b3=>ie (Zv 4 [3,1,2] (iw (Yc rt.params) (ic [] (WD.args_le (Zbs n b rt.params.length []) (.cons (lr _) (.cons (lr _) (.cons (lr _) (.cons (Zc.forget [] (some S0)) (.cons (lr _) .nil)))))) ?_)))))
 rintro _ _ ⟨y1,rfl,rfl,ZY⟩
 exact ZA 1 b3 (LG y1) (ie (ZB (r3 [1,3] [Qo y1] [0] [(b3,b3)] ⟨y1,rfl,rfl,ob⟩ (lr _))))
theorem Zbv (n:Zl) (bs:Nat) (hn:X3 n:=by exact ob) (hz:V7 n:=by exact ob) (hbt:∀r∈n.routines,0<=YS n r.params r.body):Zi 44 [Yr n,.val (.func (.func 59) #[] #[.pointer (some ⟨bs,0,none⟩)])] [.obj bs [ZM n.decls,YO n]] (fun r h=>∃(y:Qm),r=E1 y/\h=[.many (Tp y),.obj bs [ZM n.decls,YO n]]/\y.er=Zl.mk n.decls (n.routines.map (Tb n.decls))):=by
 have hzl:=hn.len
 refine ZE 40 Tryz.func44 (ar (iA (YV n) fun b1=>iA [nl,nl] fun b2=>ie (Zv 2 [1] (ic [] (PQ n.decls (hd:=hn.decls)) ?_))))
 rintro _ _ ⟨ys1,w1,rfl,rfl,ZY⟩
 have hde:=ZY
 refine Z1 1 (iA [nl,nl] fun b3=>?_)
 refine ZA 0 b3 [CI ys1 w1,nl] (ie (Yi 2 [4] (iw (Ug n.routines) (Z0 (ab 0 (UM 5 (TE (tB [] [] [] (U4 []) (by simp [QA,Qv,QS,QT,QU,QV,QR,Vj,WQ,Qz,Vi,U3,VX,U4,Qw,Qx,Qy,Tp])) (Y3 (fun fz gz m F h=>∃(k:Nat) (xs:List Vd) (v:Value),(k<=n.routines.length)/\(xs.map Vd.er=(n.routines.take k).map (Tb n.decls))/\(xs.length=k)/\F=sF [1,4,5,13,14] fz [(15,.i k)]/\h=[.obj b3 [CI ys1 w1,EM xs v],Ze gz 3,Ze gz 5,Ze gz 7,.tail v 5,Ze gz 4,.many (U4 xs)]/\m=n.routines.length-k) _ _ _ ⟨0,[],(.slice none 0 0),ob,rfl,rfl,rfl,rfl,rfl⟩ (wk [2,2,3,4,1,1,0] (Ya fl)) ?_))))))))
 rintro m F h ⟨k,xs,v,Ye,Zk,Zx,rfl,rfl,rfl⟩
 refine Zy (aq (XF ((k:Int)<(n.routines.length:Int)) (fun Za=>?_) (fun Za=>?_)))
 ·refine ak (aq (ab 1 (ar ?_)))
  obtain ⟨x1,Z3⟩:=Zt n.routines k om
  have hrm:=Y4 Z3
  have hbz:=hz.body _ hrm
  have hpl:=hn.params_at Z3
  have hll:=hn.lent_at Z3
  have hwb:=Fu hn hz hbt _ hrm
  have hpb:=Z7.pz_le (x1).body
  refine Zq (Zm none (k:Int) 5 (WW Z3)) (Z1 1 (iA [nl,nl,.i 0,nl,.i 0] fun b4=>ZA 0 b4 (Tt x1) (ie (aE 20 (ZI 8 20 [0,1,2,3,5,6,8,9,10,11,12,13] [1,0,0,0,0,0] (Z9 4 (dc 4 [] [0,0,0,0,1] [b4,b4,b4,b4,b3] (By x1.params) ?_)))))))
  rintro _ _ ⟨v1,rfl,rfl⟩
  refine Z9 7 (dc 7 [] [0,0,0,1] [b4,b4,b4,b3] (By x1.lent) ?_)
  rintro _ _ ⟨v2,rfl,rfl⟩
  refine Z9 14 (dc 14 [6] [0,1] [b4,b3] (Zc3 _ x1 x1.body bs (hw:=hwb)) ?_)
  rintro _ _ ⟨y1,rfl,rfl,Yf⟩
  exact Zj 4 5 [15] (Z9 16 (dL 16 [2] [b3] (Qa [Vd.mk x1.params v1 x1.lent v2 x1.result (XL.mk y1.steps y1.sv y1.result)]) 1 5 fun v3=>YA 3 3 [] [(35,Ze7 [Vd.mk x1.params v1 x1.lent v2 x1.result (XL.mk y1.steps y1.sv y1.result)])] (Z9 17 (dp 17 9 [] [] (Qa (xs++[Vd.mk x1.params v1 x1.lent v2 x1.result (XL.mk y1.steps y1.sv y1.result)])) (Qa xs) (Qa [Vd.mk x1.params v1 x1.lent v2 x1.result (XL.mk y1.steps y1.sv y1.result)]) v none 5 (Ox _) (Ox _) (Z7i _) (by simp<;>omega) (by simp [Z7h,Qa]) fun v4=>Jr (tB [11,5,4,2] [.many (U4 xs),.tail v1 1,.tail v2 1,.many (Vi y1)] (U4 xs++((v1,1)::((v2,1)::(Vi y1++[])))) (U4 (xs++[Vd.mk x1.params v1 x1.lent v2 x1.result (XL.mk y1.steps y1.sv y1.result)])) (by simp [QA,Qv,QS,QT,QU,QV,QR,Vj,WQ,Qz,Vi,U3,VX,U4,Qw,Qx,Qy,Tp,Zan,XL.steps,XL.sv])) (Zj 1 2 [18] (Z9 19 (YM 19 5 [] [] b3 [CI ys1 w1,EM (xs++[Vd.mk x1.params v1 x1.lent v2 x1.result (XL.mk y1.steps y1.sv y1.result)]) v4] (de (az (ZJ k (Z0 (ZK ⟨k+1,(xs++[Vd.mk x1.params v1 x1.lent v2 x1.result (XL.mk y1.steps y1.sv y1.result)]),v4,ob,(Ze3 Zk Z3 (by show Yb.mk _ _ _ (XL.er (XL.mk y1.steps y1.sv y1.result))=Yb.mk _ _ _ _;rw [XL.eta];exact Yu (Yb.mk x1.params x1.lent x1.result) (by assumption))),(by simp [Zx]),rfl,rfl,rfl⟩ (wk [0,5,5,3,1,3,0] (ZO k fl))))))))))))))
 exact ax 0 (Zv 1 [0] (ZA 2 b2 [CI ys1 w1,EM xs v] (ie (TE (tB [2,4,4,3] [.many (VX ys1),.tail w1 3,.many (U4 xs),.tail v 5] (VX ys1++((w1,3)::(U4 xs++((v,5)::[])))) (Tp (Qm.mk ys1 w1 xs v)) (by simp [QA,Qv,QS,QT,QU,QV,QR,Vj,WQ,Qz,Vi,U3,VX,U4,Qw,Qx,Qy,Tp])) (ZB (r3 [0,2] [.agg [CI ys1 w1,EM xs v]] [1] [(b2,b2)] ⟨(Qm.mk ys1 w1 xs v),rfl,rfl,(by show Zl.mk (ys1.map Vp.er) (xs.map Vd.er)=_;rw [hde,Zk,Vx om])⟩ (lr _)))))))
theorem Zbc (n:Zl) (hz:V7 n) (hr:∀r∈n.routines,r.body.rng):Zi 20 [Yr n] [] (fun r h=>∃(y:Qm),r=.tup [E1 y,.b ((Yt n).2)]/\h=[.many (Tp y)]/\y.er=(Yt n).1):=by
 refine ZE 24 Tryz.func20 (ar (iA (YV n) fun b1=>iA [nl,nl] fun b2=>Z0 (Yi 1 [1] (Zw [] (PJ n (hr:=hr)) (YE (!WP n) (p:=¬(WP n=true)) (Ym Iff.rfl) (fun Za=>?_) (fun Za=>?_))))))
 ·refine Y1 1 (ZA 0 b2 [nl,nl] (Z0 ?_))
  have hE:Yt n=(B5,false):=Z6 Za
  exact UM 5 (UM 3 (TE (tB [0,0] [.tail (.slice none 0 0) 3,.tail (.slice none 0 0) 5] (((.slice none 0 0),3)::(((.slice none 0 0),5)::[])) (Tp (Qm.mk [] (.slice none 0 0) [] (.slice none 0 0))) (by simp [QA,Qv,QS,QT,QU,QV,QR,Vj,WQ,Qz,Vi,U3,VX,U4,Qw,Qx,Qy,Tp])) (ZB (r3 [0] [.agg [nl,nl],.b false] [1] [(b2,b2)] ⟨(Qm.mk [] (.slice none 0 0) [] (.slice none 0 0)),rfl,rfl,(by rw [hE];rfl)⟩ (Zc.tup (.cons (lr _) (.cons (lb (by rw [hE])) .nil)))))))
 have hB:WP n=true:=Wc.1 Za
 obtain ⟨hn,hsg,hbt⟩:=E6 hz hB
 refine ak (Zv 1 [1] (Zw [] (PV n ob ob) (Z1 3 (iA [nl,nl] fun b3=>ZA 0 b3 [ZM n.decls,YO n] (Z0 (Zv 2 [2] (ic [0] (Zbv n b3 (hbt:=hbt)) ?_)))))))
 rintro _ _ ⟨y1,rfl,rfl,ZY⟩
 have hy:y1.er=Vb n:=ZY
 have hnl:=hn.len
 refine iA [nl,nl] fun b4=>ZA 0 b4 (GX y1) (ie (Yi 1 [0] (Zw [] (Zbq y1 (hl:=(by rw [hy];simp only [Vb,Ka];omega)) (hb:=(by rw [hy];exact Z0z hn hz hbt))) (YE (!Kz y1.er) (p:=¬(Kz y1.er=true)) (Ym Iff.rfl) (fun Zg=>?_) (fun Zg=>?_)))))
 ·refine Y1 1 (ZA 3 b2 [nl,nl] (Z0 ?_))
  have hE:Yt n=(B5,false):=by rw [Yt,Zd hB,Z6 (by rw [<-hy];exact Zg)]
  exact UM 5 (UM 3 (TE (tB [0,0] [.tail (.slice none 0 0) 3,.tail (.slice none 0 0) 5] (((.slice none 0 0),3)::(((.slice none 0 0),5)::[])) (Tp (Qm.mk [] (.slice none 0 0) [] (.slice none 0 0))) (by simp [QA,Qv,QS,QT,QU,QV,QR,Vj,WQ,Qz,Vi,U3,VX,U4,Qw,Qx,Qy,Tp])) (ZB (r3 [0] [.agg [nl,nl],.b false] [1] [(b2,b2)] ⟨(Qm.mk [] (.slice none 0 0) [] (.slice none 0 0)),rfl,rfl,(by rw [hE];rfl)⟩ (Zc.tup (.cons (lr _) (.cons (lb (by rw [hE])) .nil)))))))
 refine ak (Zv 1 [0] (ZA 3 b2 (GX y1) (Z0 ?_)))
 have hE:Yt n=(Vb n,true):=by rw [Yt,Zd hB,Zd (by rw [<-hy];exact Wc.1 Zg)]
 exact ZB (r3 [2] [E1 y1,.b true] [0] [(b2,b2)] ⟨y1,rfl,rfl,(by rw [hE];exact hy)⟩ (Zc.tup (.cons (lr _) (.cons (lb (by rw [hE])) .nil))))
open Go.Proofs
open Go.Proofs
open Go.Proofs
theorem Zim (n:Zl) (hl:n.routines.length<=4194304:=by exact ob) (hb:∀r∈n.routines,r.body.sz<=1000000000):Zi 62 [Yr n] [] (fun r h=>(r=.tup [Yr n,.b true]/\h=[]/\Kz n=true)∨(r=.tup [.agg [ZM [],Kh []],.b false]/\h=[]/\Kz n=false)):=by
 refine ZE 22 Tryz.func62 (ar (iA (YV n) fun b1=>iA [nl,nl] fun b2=>?_))
 refine Z0 (Yo (ab 0 (Y3 (fun fz gz m F h=>∃(k:Nat),(k<=n.routines.length)/\(J7 (n.routines.drop k)=J7 n.routines)/\F=sF [1,2] fz [(4,.i k)]/\h=gz/\m=n.routines.length-k) _ _ _ ⟨0,ob,ob,rfl,rfl,rfl⟩ (wk [0,0] (Ya fl)) ?_)))
 rintro m F h ⟨k,Ye,Zk,rfl,rfl,rfl⟩
 refine Yi 3 [1] (iw (Ug n.routines) (Y9 ((k:Int)<(n.routines.length:Int)) (fun Za=>?_) (fun Za=>?_)))
 ·refine ak (aq (ab 1 (Zv 3 [1] ?_)))
  obtain ⟨x1,Z3⟩:=Zt n.routines k om
  refine Zq (Zm none (k:Int) 5 (WW Z3)) (Z1 2 (Zw [] (Z1l x1.body (hb:=(hb _ (Y4 Z3)))) (Y9 ((UV x1.body)<0) (fun Zg=>?_) (fun Zg=>?_))))
  ·exact Y1 1 (ZA 0 b2 [nl,nl] (Zp (r3 [] [.agg [nl,nl],.b false] [0] [(b2,b2)] (.inr ⟨rfl,rfl,(by rw [Kz,<-Zk,Y5 Z3,J7,Zd (by assumption)])⟩) (Zc.tup (.cons (Zc.agg (.cons (Zc.sl _ rfl) (.cons (Zc.sl _ rfl) .nil))) (.cons (lr _) .nil))))))
  exact ak (az (Z1 1 (ZJ k (Z0 (ZK ⟨k+1,ob,(by rw [Y5 Z3,J7,Z6 (by assumption)] at Zk;exact Zk),rfl,rfl,rfl⟩ (wk [0,0] (ZO k fl)))))))
 exact ax 0 (Zv 1 [1] (ZA 0 b2 (YV n) (Zp (r3 [] [Yr n,.b true] [0] [(b2,b2)] (.inl ⟨rfl,rfl,(by rw [Kz,<-Zk,Xm om];rfl)⟩) (lr _)))))
theorem Zix (n:Zl) (hn:X3 n:=by exact ob) (hz:V7 n:=by exact ob) (hbt:∀r∈n.routines,0<=YS n r.params r.body):Zi 39 [Yr n] [] (Yl (Yr (Vb n))):=by
 have hzl:=hn.len
 refine ZE 38 Tryz.func39 (ar (iA (YV n) fun b1=>iA [nl,nl] fun b2=>ie (Zv 2 [1] (Zw [] (Fd n.decls (hd:=hn.decls)) (iL (YX []) 0 5 fun v1=>Z1 1 (iA [nl,nl] fun b3=>?_))))))
 refine ZA 0 b3 [ZM n.decls,VD [] v1] (ie (Yo (ab 0 (Y3 (fun fz gz m F h=>∃(k:Nat) (v:Value),(k<=n.routines.length)/\F=sF [1,2,3] fz [(4,.i k)]/\h=[.obj b3 [ZM n.decls,VD ((n.routines.take k).map (Tb n.decls)) v],Ze gz 2,Ze gz 3,.tail v 5]/\m=n.routines.length-k) _ _ _ ⟨0,v1,ob,rfl,rfl,rfl⟩ (wk [0,1,1,0] (Ya fl)) ?_))))
 rintro m F h ⟨k,v,Ye,rfl,rfl,rfl⟩
 refine Yi 3 [2] (iw (Ug n.routines) (Y9 ((k:Int)<(n.routines.length:Int)) (fun Za=>?_) (fun Za=>?_)))
 ·refine ak (aq (ab 1 (Zv 3 [2] ?_)))
  obtain ⟨x1,Z3⟩:=Zt n.routines k om
  have hrm:=Y4 Z3
  have hbz:=hz.body _ hrm
  have hpl:=hn.params_at Z3
  have hll:=hn.lent_at Z3
  have hwb:=Fu hn hz hbt _ hrm
  exact Zq (Zm none (k:Int) 5 (WW Z3)) (Z1 1 (iA [nl,nl,.i 0,nl,.i 0] fun b4=>ZA 0 b4 (Tt x1) (ie (aE 15 (ZI 7 15 [0,1,2,3,4,5,6,7] [1,0,3,0,0] (dw 8 (Yc x1.params) (Z9 9 (Yz 9 [] [0,1] [b4,b3] (Ziv n x1.body x1.params.length (hw:=hwb)) (Z9 10 (Yz 10 [] [1] [b3] (Hw x1 (XD n.decls x1.params.length x1.body)) (Z9 11 (dL 11 [1] [b3] (YX [Yb.mk x1.params x1.lent x1.result (XD n.decls x1.params.length x1.body)]) 1 5 fun v2=>YA 3 3 [] [(34,Kh [Yb.mk x1.params x1.lent x1.result (XD n.decls x1.params.length x1.body)])] (Z9 12 (dp 12 5 [] [] (YX ((n.routines.take (k+1)).map (Tb n.decls))) (YX ((n.routines.take k).map (Tb n.decls))) (YX [Yb.mk x1.params x1.lent x1.result (XD n.decls x1.params.length x1.body)]) v none 5 (TX _) (TX _) (Cq _) (by simp<;>omega) (by rw [V4 Z3];simp [YX,Tb]) fun v3=>Zj 1 2 [13] (Z9 14 (YM 14 3 [] [] b3 [ZM n.decls,VD ((n.routines.take (k+1)).map (Tb n.decls)) v3] (de (az (Z1 1 (ZJ k (Z0 (ZK ⟨k+1,v3,ob,rfl,rfl,rfl⟩ (wk [0,3,3,0] (ZO k fl))))))))))))))))))))))))
 exact ax 0 (Zv 1 [0] (ZA 1 b2 [ZM n.decls,VD ((n.routines.take k).map (Tb n.decls)) v] (ie (ZB (r3 [] [.agg [ZM n.decls,VD ((n.routines.take k).map (Tb n.decls)) v]] [0] [(b2,b2)] ⟨rfl,rfl⟩ (Zc.agg (.cons (Zc.sl _ (Yu YB ob)) (.cons (Zc.sl _ (Yu YX (by rw [Vx om];rfl))) .nil))))))))
theorem Zia (n:Zl) (hz:V7 n:=by exact ob):Zi 21 [Yr n] [] (Yl (.tup [Yr ((Yt n).1),.b ((Yt n).2)])):=by
 refine ZE 13 Tryz.func21 (ar (iA (YV n) fun b1=>iA [nl,nl] fun b2=>Z0 (Yi 1 [1] (Zw [] (Zif n) (YE (!WP n) (p:=¬(WP n=true)) (Ym Iff.rfl) (fun Za=>?_) (fun Za=>?_))))))
 ·refine Y1 1 (ZA 0 b2 [nl,nl] (Z0 ?_))
  have hE:Yt n=(B5,false):=Z6 Za
  exact ZB (r3 [] [.agg [nl,nl],.b false] [0] [(b2,b2)] ⟨rfl,rfl⟩ (Zc.tup (.cons (Zc.agg (.cons (Zc.sl _ (by rw [hE];rfl)) (.cons (Zc.sl _ (by rw [hE];rfl)) .nil))) (.cons (lb (by rw [hE])) .nil))))
 have hB:WP n=true:=Wc.1 Za
 obtain ⟨hn,hsg,hbt⟩:=E6 hz hB
 have hnl:=hn.len
 refine ak (Zv 1 [1] (Zw [] (Zix n (hbt:=hbt)) (ic [] (Zim (Vb n) (hl:=(by simp only [Vb,Ka];omega)) (hb:=(Z0z hn hz hbt))) ?_)))
 rintro _ _ (⟨rfl,rfl,ZY⟩|⟨rfl,rfl,Yf⟩)
 ·have hE:Yt n=(Vb n,true):=by rw [Yt,Zd hB,Zd ZY]
  exact Z1 2 (ZA 0 b2 (YV (Vb n)) (Zp (r3 [] [Yr (Vb n),.b true] [0] [(b2,b2)] ⟨rfl,rfl⟩ (Zc.tup (.cons (Zc.agg (.cons (Zc.sl _ (Yu YB (by rw [hE]))) (.cons (Zc.sl _ (Yu YX (by rw [hE]))) .nil))) (.cons (lb (by rw [hE])) .nil))))))
 have hE:Yt n=(B5,false):=by rw [Yt,Zd hB,Z6 (by rw [Yf];simp)]
 exact Z1 2 (ZA 0 b2 [ZM [],Kh []] (Zp (r3 [] [.agg [ZM [],Kh []],.b false] [0] [(b2,b2)] ⟨rfl,rfl⟩ (Zc.tup (.cons (Zc.agg (.cons (Zc.sl _ (Yu YB (by rw [hE];rfl))) (.cons (Zc.sl _ (Yu YX (by rw [hE];rfl))) .nil))) (.cons (lb (by rw [hE])) .nil))))))
theorem Zbd (n:Zl) (hz:V7 n:=by exact ob) (hr:∀r∈n.routines,r.body.rng):Zi 20 [Yr n] [] (Yl (.tup [Yr ((Yt n).1),.b ((Yt n).2)])):=((Zbc n hz hr).alone fun r h ⟨y,e1,e2,e3⟩=>by rw [e1,<-e3];exact Zc.tup (.cons (NB y) (.cons (Zc.refl _) .nil)))
theorem GY (xs:LI) (ys:LI) (hxl:xs.length<=1000000000:=by exact ob) (hyl:ys.length<=1000000000:=by exact ob):Zi 52 [Z4 xs,Z4 ys] [] (Yl (.b (decide (xs=ys)))):=by
 refine ZE 26 Tryz.func52 (Zy (YP 1 (iw (Yc xs) (Z1 1 (iw (Yc ys) (YE ((xs.length:Int) != (ys.length:Int)) Y6 (fun Za=>?_) (fun Za=>?_)))))))
 ·exact ar (Zp (ZW (.b false) (lb (decide_eq_false (fun z=>Za (by rw [z]))).symm)))
 refine ak (Yo (ab 0 (Y3 (fun fz gz m F h=>∃(k:Nat),(k<=xs.length)/\(∀i,i<k->xs[i]? = ys[i]?)/\F=sF [0,1] fz [(5,.i k)]/\h=gz/\m=xs.length-k) _ _ _ ⟨0,ob,(fun i h=>absurd h om),rfl,rfl,rfl⟩ (wk [] (Ya fl)) ?_)))
 rintro m F h ⟨k,Ye,Zk,rfl,rfl,rfl⟩
 refine YP 2 (iw (Yc xs) (Y9 ((k:Int)<(xs.length:Int)) (fun Zg=>?_) (fun Zg=>?_)))
 ·refine ak (aq (ab 1 (aD 9 (Zj 7 9 [0,1] ?_))))
  obtain ⟨x1,Z3⟩:=Zt xs k om
  refine dx 2 (Zm none (k:Int) 1 (Y2 Z3)) (Zj 3 6 [3,4,5] ?_)
  obtain ⟨x2,Zs⟩:=Zt ys k om
  refine dx 6 (Zm none (k:Int) 1 (Y2 Zs)) (Zj 0 2 [7,8] (de (ac (x1 != x2) Y6 (fun ZH=>?_) (fun ZH=>?_))))
  ·exact ar (Zp (ZW (.b false) (lb (decide_eq_false (fun z=>ZH (by rw [z,Zs] at Z3;cases Z3;rfl))).symm)))
  exact ak (az (Z1 1 (ZJ k (Z0 (ZK ⟨k+1,ob,(fun i h=>(Nat.lt_succ_iff_lt_or_eq.1 h).elim (Zk i) (fun z=>by rw [z,Z3,Zs,Wc.1 ZH])),rfl,rfl,rfl⟩ (wk [] (ZO k fl)))))))
 exact ax 0 (ar (Zp (ZW (.b true) (lb (decide_eq_true (Z7v om (fun i hi=>Zk i om))).symm))))
theorem Zdc (ds:List Zf) (es:List Zf) (hd:KU ds:=by exact ob) (he:KU es:=by exact ob):Zi 51 [ZM ds,ZM es] [] (Yl (.b (decide (ds=es)))):=by
 have hdl:=hd.len
 have hel:=he.len
 refine ZE 87 Tryz.func51 (Zy (YP 1 (iw (Up ds) (Z1 1 (iw (Up es) (YE ((ds.length:Int) != (es.length:Int)) Y6 (fun Za=>?_) (fun Za=>?_)))))))
 ·exact ar (Zp (ZW (.b false) (lb (decide_eq_false (fun z=>Za (by rw [z]))).symm)))
 refine ak (Yo (ab 0 (Y3 (fun fz gz m F h=>∃(k:Nat),(k<=ds.length)/\(∀i,i<k->ds[i]? = es[i]?)/\F=sF [0,1] fz [(5,.i k)]/\h=gz/\m=ds.length-k) _ _ _ ⟨0,ob,Fp,rfl,rfl,rfl⟩ (wk [] (Ya fl)) ?_)))
 rintro m F h ⟨k,Ye,Zk,rfl,rfl,rfl⟩
 refine YP 2 (iw (Up ds) (Y9 ((k:Int)<(ds.length:Int)) (fun Zg=>?_) (fun Zg=>?_)))
 ·refine ak (aq (ab 1 (aq (aD 39 (Zj 37 39 [0,1] ?_)))))
  obtain ⟨x1,Z3⟩:=Zt ds k om
  have hcl:=hd.cons_at Z3
  refine dx 2 (Zm none (k:Int) 3 (WV Z3)) (Zj 32 36 [3,4,5,6] ?_)
  obtain ⟨x2,Zs⟩:=Zt es k om
  refine dx 7 (Zm none (k:Int) 3 (WV Zs)) (Aj [0,1,5] [(56,.b ((x1.frm != x2.frm)||((x1.to_ != x2.to_)||((x1.cons.length:Int) != (x2.cons.length:Int)))))] (fun gz=>gz) ?_ ?_)
  ·refine Zj 27 31 [8,9,10,11] (db (b:=(x1.frm != x2.frm)) 29 (fun Zb=>?_) (fun Zb=>?_))
   ·have ZY:x1.frm≠x2.frm:=(Y6).1 Zb
    exact Zj 0 27 [12,13,14,15,16,17,18,19,20,21,22,23,24,25,26,27,28,29,30,31,32,33,34,35,36,37,38] (de (wk [] (Zu true Zb fl)))
   have Yf:¬(x1.frm≠x2.frm):=Y8 Y6 Zb
   refine Zj 25 27 [12,13] (dx 14 (Zm none (k:Int) 3 (WV Z3)) (Zj 20 24 [15,16,17,18] (dx 19 (Zm none (k:Int) 3 (WV Zs)) (Zj 14 19 [20,21,22,23,24] (db (b:=(x1.to_ != x2.to_)) 42 (fun Zz=>?_) (fun Zz=>?_))))))
   ·have YJ:x1.to_≠x2.to_:=(Y6).1 Zz
    exact Zj 0 14 [25,26,27,28,29,30,31,32,33,34,35,36,37,38] (de (wk [] (Zu true (And.intro Zb Zz) fl)))
   have YT:¬(x1.to_≠x2.to_):=Y8 Y6 Zz
   exact Zj 12 14 [25,26] (dx 27 (Zm none (k:Int) 3 (WV Z3)) (Zj 9 11 [28,29] (dw 30 (Uw x1.cons) (Zj 6 8 [31,32] (dx 33 (Zm none (k:Int) 3 (WV Zs)) (Zj 3 5 [34,35] (dw 36 (Uw x2.cons) (Zj 0 2 [37,38] (de (wk [] (Zu ((x1.cons.length:Int) != (x2.cons.length:Int)) (And.intro Zb Zz) fl)))))))))))
  refine ac ((x1.frm != x2.frm)||((x1.to_ != x2.to_)||((x1.cons.length:Int) != (x2.cons.length:Int)))) (p:=(x1.frm≠x2.frm)∨((x1.to_≠x2.to_)∨((x1.cons.length:Int)≠(x2.cons.length:Int)))) (Yh Y6 (Yh Y6 Y6)) (fun ZH=>?_) (fun ZH=>?_)
  ·exact ar (Zp (ZW (.b false) (lb (decide_eq_false (D3 Z3 Zs (fun z=>by rw [z] at ZH;simp at ZH))).symm)))
  simp only [not_or,ne_eq,Wc,decide_eq_true_eq] at ZH
  obtain ⟨hq1,hq2,hq3⟩:=ZH
  refine ak (Zy (ab 2 (Y3 (fun fz gz m F h=>∃(j:Nat),(j<=x1.cons.length)/\(∀i,i<j->x1.cons[i]? = x2.cons[i]?)/\F=sF [0,1,5] fz [(6,.i j)]/\h=gz/\m=x1.cons.length-j) _ _ _ ⟨0,ob,Fp,rfl,rfl,rfl⟩ (wk [] (Ya fl)) ?_)))
  rintro m F h ⟨j,Um,Wa,rfl,rfl,rfl⟩
  refine YP 3 (Zq (Zm none (k:Int) 3 (WV Z3)) (Z1 2 (iw (Uw x1.cons) (Y9 ((j:Int)<(x1.cons.length:Int)) (fun Yj=>?_) (fun Yj=>?_)))))
  ·refine ak (aq (ab 3 (aD 20 (Zj 18 20 [0,1] (dx 2 (Zm none (k:Int) 3 (WV Z3)) (Zj 14 17 [3,4,5] ?_))))))
   obtain ⟨x3,YL⟩:=Zt x1.cons j om
   refine dx 6 (Zm none (j:Int) 1 (AP YL)) (Zj 9 13 [7,8,9,10] (dx 11 (Zm none (k:Int) 3 (WV Zs)) (Zj 5 8 [12,13,14] ?_)))
   obtain ⟨x4,WS⟩:=Zt x2.cons j om
   refine dx 15 (Zm none (j:Int) 1 (AP WS)) (Zj 2 4 [16,17] (Z9 18 (Yz 18 [] [] [] (GY x3.fields x4.fields (hxl:=(VL (hd.fields_at Z3 YL) (by decide))) (hyl:=(VL (he.fields_at Zs WS) (by decide)))) (Zj 0 1 [19] (de (ac (!(decide (x3.fields=x4.fields))) (p:=¬(x3.fields=x4.fields)) (Ym dq) (fun Xh=>?_) (fun Xh=>?_)))))))
   ·exact ar (Zp (ZW (.b false) (lb (decide_eq_false (D3 Z3 Zs (fun z=>D3 YL WS (fun w=>Xh (Yu Yg.fields w)) (Yu Zf.cons z)))).symm)))
   exact ak (az (Z1 1 (ZJ j (Z0 (ZK ⟨j+1,ob,(Fq Wa YL WS (Yg.ext1 (Wc.1 Xh))),rfl,rfl,rfl⟩ (wk [] (ZO j fl)))))))
  have hE:=Ej (xs:=x1.cons) (ys:=x2.cons) om (fun i hi=>Wa i om)
  exact ax 2 (az (Z1 1 (ZJ k (Z0 (ZK ⟨k+1,ob,(Fq Zk Z3 Zs (Zf.ext3 hq1 hq2 hE)),rfl,rfl,rfl⟩ (wk [] (ZO k fl)))))))
 exact ax 0 (ar (Zp (ZW (.b true) (lb (decide_eq_true (Ej om (fun i hi=>Zk i om))).symm))))
theorem Zdd (z:Nat) (s:Z5) (t:Z5) (hz:s.sz<=z+1:=by exact ob) (hs:s.sz<=1000000000:=by exact ob) (ht:t.sz<=1000000000:=by exact ob) (ih:∀(a2:Z7) (b2:Z7),(a2.sz<=z)->(a2.sz<=1000000000)->(b2.sz<=1000000000)->Zi 53 [ZZ a2,ZZ b2] [] (Yl (.b (decide (a2=b2))))):Zi 112 [YD s,YD t] [] (Yl (.b (decide (s=t)))):=by
 have hsa:=QK s
 have hta:=QK t
 have hsk:=Ts s
 have htk:=Ts t
 refine ZE 61 Tryz.func112 (ar (iA (Xz s) fun b1=>iA (Xz t) fun b2=>Z0 (Xa (XA 12 [2,3] [(17,.b ((s.op != t.op)||(s.num != t.num)))] (fun gz=>gz) ?_ (fun hj1=>?_)))))
 ·refine XA 19 [2,3] [(24,.b (((s.op != t.op)||(s.num != t.num))||(s.into != t.into)))] (fun gz=>gz) ?_ (fun hj2=>?_)
  ·refine XA 27 [2,3] [(32,.b ((((s.op != t.op)||(s.num != t.num))||(s.into != t.into))||(!(decide (s.args=t.args)))))] (fun gz=>gz) ?_ (fun hj3=>?_)
   ·refine Xx [2,3] [(41,.b (((((s.op != t.op)||(s.num != t.num))||(s.into != t.into))||(!(decide (s.args=t.args))))||((s.kids.length:Int) != (t.kids.length:Int))))] (fun gz=>gz) ?_ ?_
    ·refine Z1 1 (ib (b:=((((s.op != t.op)||(s.num != t.num))||(s.into != t.into))||(!(decide (s.args=t.args))))) 33 (fun Zb=>?_) (fun Zb=>?_))
     ·have ZY:(((s.op≠t.op)∨(s.num≠t.num))∨(s.into≠t.into))∨(¬(s.args=t.args)):=((Yh (Yh (Yh Y6 Y6) Y6) (Ym dq))).1 Zb
      exact Z0 (wk [0,0] (Zu true Zb fl))
     have Yf:¬((((s.op≠t.op)∨(s.num≠t.num))∨(s.into≠t.into))∨(¬(s.args=t.args))):=Y8 (Yh (Yh (Yh Y6 Y6) Y6) (Ym dq)) Zb
     exact ZL 2 [1] (iw (Uf s.kids) (ZL 2 [0] (iw (Uf t.kids) (Z0 (wk [0,0] (Zu ((s.kids.length:Int) != (t.kids.length:Int)) Zb fl))))))
    refine ac (((((s.op != t.op)||(s.num != t.num))||(s.into != t.into))||(!(decide (s.args=t.args))))||((s.kids.length:Int) != (t.kids.length:Int))) (p:=((((s.op≠t.op)∨(s.num≠t.num))∨(s.into≠t.into))∨(¬(s.args=t.args)))∨((s.kids.length:Int)≠(t.kids.length:Int))) (Yh (Yh (Yh (Yh Y6 Y6) Y6) (Ym dq)) Y6) (fun Za=>?_) (fun Za=>?_)
    ·exact ar (Zp (ZW (.b false) (lb (decide_eq_false (fun z=>by rw [z] at Za;simp at Za)).symm)))
    simp only [not_or,ne_eq,Wc,decide_eq_true_eq] at Za
    obtain ⟨⟨⟨⟨hq1,hq2⟩,hq3⟩,hq4⟩,hq5⟩:=Za
    refine ak (Yo (ab 0 (Y3 (fun fz gz m F h=>∃(k:Nat),(k<=s.kids.length)/\(∀i,i<k->s.kids[i]? = t.kids[i]?)/\F=sF [2,3] fz [(5,.i k)]/\h=gz/\m=s.kids.length-k) _ _ _ ⟨0,ob,Fp,rfl,rfl,rfl⟩ (wk [0,0] (Ya fl)) ?_)))
    rintro m F h ⟨k,Ye,Zk,rfl,rfl,rfl⟩
    refine Yi 3 [1] (iw (Uf s.kids) (Y9 ((k:Int)<(s.kids.length:Int)) (fun Zg=>?_) (fun Zg=>?_)))
    ·refine ak (aq (ab 1 (aD 12 (ZI 9 12 [0,1,2] [1] ?_))))
     obtain ⟨x1,Z3⟩:=Zt s.kids k om
     have hk1:=Tq Z3
     refine dx 3 (Zm none (k:Int) 2 (T3 Z3)) (ZI 4 8 [4,5,6,7] [0] ?_)
     obtain ⟨x2,Zs⟩:=Zt t.kids k om
     have hk2:=Tq Zs
     refine dx 8 (Zm none (k:Int) 2 (T3 Zs)) (Zj 2 3 [9] (Z9 10 (Yz 10 [] [] [] (ih x1 x2 ob ob ob) (Zj 0 1 [11] (de (ac (!(decide (x1=x2))) (p:=¬(x1=x2)) (Ym dq) (fun ZH=>?_) (fun ZH=>?_)))))))
     ·exact ar (Zp (ZW (.b false) (lb (decide_eq_false (fun z=>D3 Z3 Zs ZH (Yu Z5.kids z))).symm)))
     exact ak (az (Z1 1 (ZJ k (Z0 (ZK ⟨k+1,ob,(Fq Zk Z3 Zs (Wc.1 ZH)),rfl,rfl,rfl⟩ (wk [0,0] (ZO k fl)))))))
    exact ax 0 (ar (Zp (ZW (.b true) (lb (decide_eq_true (Z5.ext4 hq1 hq2 hq3 hq4 (Ej om (fun i hi=>Zk i om)))).symm))))
   refine Z1 1 (ib (b:=(((s.op != t.op)||(s.num != t.num))||(s.into != t.into))) 25 (fun Zz=>?_) (fun Zz=>?_))
   ·have YJ:((s.op≠t.op)∨(s.num≠t.num))∨(s.into≠t.into):=((Yh (Yh Y6 Y6) Y6)).1 Zz
    exact Z1 7 (Yn (wk [0,0] (Zu true Zz fl)) hj3)
   have YT:¬(((s.op≠t.op)∨(s.num≠t.num))∨(s.into≠t.into)):=Y8 (Yh (Yh Y6 Y6) Y6) Zz
   exact ZL 4 [1,0] (Zw [] (GY s.args t.args) (Z1 2 (Yn (wk [0,0] (Zu (!(decide (s.args=t.args))) Zz fl)) hj3)))
  refine Z1 1 (ib (b:=((s.op != t.op)||(s.num != t.num))) 18 (fun Yp=>?_) (fun Yp=>?_))
  ·have Xk:(s.op≠t.op)∨(s.num≠t.num):=((Yh Y6 Y6)).1 Yp
   exact Z1 6 (Yn (wk [0,0] (Zu true Yp fl)) hj2)
  have W4:¬((s.op≠t.op)∨(s.num≠t.num)):=Y8 (Yh Y6 Y6) Yp
  exact ZL 6 [1,0] (Yn (wk [0,0] (Zu (s.into != t.into) Yp fl)) hj2)
 refine ZL 6 [1,0] (ib (b:=(s.op != t.op)) 11 (fun Xe=>?_) (fun Xe=>?_))
 ·have WB:s.op≠t.op:=(Y6).1 Xe
  exact Z1 6 (Yn (wk [0,0] (Zu true Xe fl)) hj1)
 have V1:¬(s.op≠t.op):=Y8 Y6 Xe
 exact ZL 6 [1,0] (Yn (wk [0,0] (Zu (s.num != t.num) Xe fl)) hj1)
theorem Zda (z:Nat) (a:Z7) (b:Z7) (hz:a.sz<=z+1:=by exact ob) (ha:a.sz<=1000000000:=by exact ob) (hb:b.sz<=1000000000:=by exact ob) (ih:∀(a2:Z7) (b2:Z7),(a2.sz<=z)->(a2.sz<=1000000000)->(b2.sz<=1000000000)->Zi 53 [ZZ a2,ZZ b2] [] (Yl (.b (decide (a2=b2))))):Zi 53 [ZZ a,ZZ b] [] (Yl (.b (decide (a=b)))):=by
 have hsa:=Td a
 have hsb:=Td b
 refine ZE 39 Tryz.func53 (ar (iA (Xu a) fun b1=>iA (Xu b) fun b2=>Z0 (Xa (Xx [2,3] [(19,.b ((a.result != b.result)||((a.steps.length:Int) != (b.steps.length:Int))))] (fun gz=>gz) ?_ ?_))))
 ·refine ZL 6 [1,0] (ib (b:=(a.result != b.result)) 11 (fun Zb=>?_) (fun Zb=>?_))
  ·have ZY:a.result≠b.result:=(Y6).1 Zb
   exact Z0 (wk [0,0] (Zu true Zb fl))
  have Yf:¬(a.result≠b.result):=Y8 Y6 Zb
  exact ZL 2 [1] (iw (VU a.steps) (ZL 2 [0] (iw (VU b.steps) (Z0 (wk [0,0] (Zu ((a.steps.length:Int) != (b.steps.length:Int)) Zb fl))))))
 refine ac ((a.result != b.result)||((a.steps.length:Int) != (b.steps.length:Int))) (p:=(a.result≠b.result)∨((a.steps.length:Int)≠(b.steps.length:Int))) (Yh Y6 Y6) (fun Za=>?_) (fun Za=>?_)
 ·exact ar (Zp (ZW (.b false) (lb (decide_eq_false (fun z=>by rw [z] at Za;simp at Za)).symm)))
 simp only [not_or,ne_eq,Wc,decide_eq_true_eq] at Za
 obtain ⟨hq1,hq2⟩:=Za
 refine ak (Yo (ab 0 (Y3 (fun fz gz m F h=>∃(k:Nat),(k<=a.steps.length)/\(∀i,i<k->a.steps[i]? = b.steps[i]?)/\F=sF [2,3] fz [(5,.i k)]/\h=gz/\m=a.steps.length-k) _ _ _ ⟨0,ob,Fp,rfl,rfl,rfl⟩ (wk [0,0] (Ya fl)) ?_)))
 rintro m F h ⟨k,Ye,Zk,rfl,rfl,rfl⟩
 refine Yi 3 [1] (iw (VU a.steps) (Y9 ((k:Int)<(a.steps.length:Int)) (fun Zg=>?_) (fun Zg=>?_)))
 ·refine ak (aq (ab 1 (aD 12 (ZI 9 12 [0,1,2] [1] ?_))))
  obtain ⟨x1,Z3⟩:=Zt a.steps k om
  have hk1:=JK Z3
  refine dx 3 (Zm none (k:Int) 5 (VP Z3)) (ZI 4 8 [4,5,6,7] [0] ?_)
  obtain ⟨x2,Zs⟩:=Zt b.steps k om
  have hk2:=JK Zs
  refine dx 8 (Zm none (k:Int) 5 (VP Zs)) (Zj 2 3 [9] (Z9 10 (Yz 10 [] [] [] (Zdd z x1 x2 (ih:=ih)) (Zj 0 1 [11] (de (ac (!(decide (x1=x2))) (p:=¬(x1=x2)) (Ym dq) (fun ZH=>?_) (fun ZH=>?_)))))))
  ·exact ar (Zp (ZW (.b false) (lb (decide_eq_false (fun z=>D3 Z3 Zs ZH (Yu Z7.steps z))).symm)))
  exact ak (az (Z1 1 (ZJ k (Z0 (ZK ⟨k+1,ob,(Fq Zk Z3 Zs (Wc.1 ZH)),rfl,rfl,rfl⟩ (wk [0,0] (ZO k fl)))))))
 exact ax 0 (ar (Zp (ZW (.b true) (lb (decide_eq_true (Z7.ext2 (Ej om (fun i hi=>Zk i om)) hq1)).symm))))
theorem Zdb (m:Nat):∀(a2:Z7) (b2:Z7),(a2.sz<=m)->(a2.sz<=1000000000)->(b2.sz<=1000000000)->Zi 53 [ZZ a2,ZZ b2] [] (Yl (.b (decide (a2=b2)))):=by
 induction m with
 | zero=>intro a b h;have:=a.sz_pos;omega
 | succ m ih=>intro a b h1 h2 h3;exact Zda m a b h1 h2 h3 ih
theorem Zd9 (a:Z7) (b:Z7) (ha:a.sz<=1000000000:=by exact ob) (hb:b.sz<=1000000000:=by exact ob):Zi 53 [ZZ a,ZZ b] [] (Yl (.b (decide (a=b)))):=Zdb a.sz a b (X6 _) ha hb
theorem LJ (n:Zl) (t:Zl) (hn:V7 n:=by exact ob) (ht:V7 t:=by exact ob):Zi 15 [Yr n,Yr t] [] (Yl (.b (decide (n=t)))):=by
 have hnl:=hn.len
 have htl:=ht.len
 refine ZE 69 Tryz.func15 (ar (iA (YV n) fun b1=>iA (YV t) fun b2=>Z0 (Yi 4 [1,0] (Zw [] (Zdc n.decls t.decls (hd:=hn.decls) (he:=ht.decls)) (Xx [2,3] [(22,.b ((!(decide (n.decls=t.decls)))||((n.routines.length:Int) != (t.routines.length:Int))))] (fun gz=>gz) ?_ ?_)))))
 ·refine Z1 2 (ib (b:=(!(decide (n.decls=t.decls)))) 14 (fun Zb=>?_) (fun Zb=>?_))
  ·have ZY:¬(n.decls=t.decls):=((Ym dq)).1 Zb
   exact Z0 (wk [0,0] (Zu true Zb fl))
  have Yf:¬(¬(n.decls=t.decls)):=Y8 (Ym dq) Zb
  exact ZL 2 [1] (iw (Ug n.routines) (ZL 2 [0] (iw (Ug t.routines) (Z0 (wk [0,0] (Zu ((n.routines.length:Int) != (t.routines.length:Int)) Zb fl))))))
 refine ac ((!(decide (n.decls=t.decls)))||((n.routines.length:Int) != (t.routines.length:Int))) (p:=(¬(n.decls=t.decls))∨((n.routines.length:Int)≠(t.routines.length:Int))) (Yh (Ym dq) Y6) (fun Za=>?_) (fun Za=>?_)
 ·exact ar (Zp (ZW (.b false) (lb (decide_eq_false (fun z=>by rw [z] at Za;simp at Za)).symm)))
 simp only [not_or,ne_eq,Wc,decide_eq_true_eq] at Za
 obtain ⟨hq1,hq2⟩:=Za
 refine ak (Yo (ab 0 (Y3 (fun fz gz m F h=>∃(k:Nat),(k<=n.routines.length)/\(∀i,i<k->n.routines[i]? = t.routines[i]?)/\F=sF [2,3] fz [(5,.i k)]/\h=gz/\m=n.routines.length-k) _ _ _ ⟨0,ob,Fp,rfl,rfl,rfl⟩ (wk [0,0] (Ya fl)) ?_)))
 rintro m F h ⟨k,Ye,Zk,rfl,rfl,rfl⟩
 refine Yi 3 [1] (iw (Ug n.routines) (Y9 ((k:Int)<(n.routines.length:Int)) (fun Zg=>?_) (fun Zg=>?_)))
 ·refine ak (aq (ab 1 (Zv 3 [1] ?_)))
  obtain ⟨x1,Z3⟩:=Zt n.routines k om
  have hm1:=Y4 Z3
  have ha1:=hn.params _ hm1
  have ha2:=hn.lent _ hm1
  have ha3:=hn.body _ hm1
  refine Zq (Zm none (k:Int) 5 (WW Z3)) (Z1 1 (iA [nl,nl,.i 0,nl,.i 0] fun b3=>ZA 0 b3 (Tt x1) (ie (Zv 3 [1] ?_))))
  obtain ⟨x2,Zs⟩:=Zt t.routines k om
  have hm2:=Y4 Zs
  have ha4:=ht.params _ hm2
  have ha5:=ht.lent _ hm2
  have ha6:=ht.body _ hm2
  refine Zq (Zm none (k:Int) 5 (WW Zs)) (Z1 1 (iA [nl,nl,.i 0,nl,.i 0] fun b4=>ZA 0 b4 (Tt x2) (ie (Zv 4 [1,0] (Zw [] (GY x1.params x2.params) (XA 14 [2,3,5,6,7] [(53,.b ((!(decide (x1.params=x2.params)))||(!(decide (x1.lent=x2.lent)))))] (fun gz=>gz) ?_ (fun hj1=>?_)))))))
  ·refine XA 21 [2,3,5,6,7] [(60,.b (((!(decide (x1.params=x2.params)))||(!(decide (x1.lent=x2.lent))))||(x1.result != x2.result)))] (fun gz=>gz) ?_ (fun hj2=>?_)
   ·refine Xx [2,3,5] [(68,.b ((((!(decide (x1.params=x2.params)))||(!(decide (x1.lent=x2.lent))))||(x1.result != x2.result))||(!(decide (x1.body=x2.body)))))] (fun gz=>gz) ?_ ?_
    ·refine Z1 1 (ib (b:=(((!(decide (x1.params=x2.params)))||(!(decide (x1.lent=x2.lent))))||(x1.result != x2.result))) 61 (fun Zz=>?_) (fun Zz=>?_))
     ·have YJ:((¬(x1.params=x2.params))∨(¬(x1.lent=x2.lent)))∨(x1.result≠x2.result):=((Yh (Yh (Ym dq) (Ym dq)) Y6)).1 Zz
      exact Z0 (ZF 4 (Zu true Zz fl))
     have YT:¬(((¬(x1.params=x2.params))∨(¬(x1.lent=x2.lent)))∨(x1.result≠x2.result)):=Y8 (Yh (Yh (Ym dq) (Ym dq)) Y6) Zz
     exact ZL 4 [1,0] (Zw [] (Zd9 x1.body x2.body) (Z0 (ZF 4 (Zu (!(decide (x1.body=x2.body))) Zz fl))))
    refine ac ((((!(decide (x1.params=x2.params)))||(!(decide (x1.lent=x2.lent))))||(x1.result != x2.result))||(!(decide (x1.body=x2.body)))) (p:=(((¬(x1.params=x2.params))∨(¬(x1.lent=x2.lent)))∨(x1.result≠x2.result))∨(¬(x1.body=x2.body))) (Yh (Yh (Yh (Ym dq) (Ym dq)) Y6) (Ym dq)) (fun ZH=>?_) (fun ZH=>?_)
    ·exact ar (Zp (ZW (.b false) (lb (decide_eq_false (fun z=>D3 Z3 Zs (fun w=>by rw [w] at ZH;simp at ZH) (Yu Zl.routines z))).symm)))
    simp only [not_or,ne_eq,Wc,decide_eq_true_eq] at ZH
    obtain ⟨⟨⟨hw1,hw2⟩,hw3⟩,hw4⟩:=ZH
    exact ak (az (Z1 1 (ZJ k (Z0 (ZK ⟨k+1,ob,(Fq Zk Z3 Zs (Yb.ext4 hw1 hw2 hw3 hw4)),rfl,rfl,rfl⟩ (wk [2,2] (ZO k fl)))))))
   refine Z1 1 (ib (b:=((!(decide (x1.params=x2.params)))||(!(decide (x1.lent=x2.lent))))) 54 (fun Yp=>?_) (fun Yp=>?_))
   ·have Xk:(¬(x1.params=x2.params))∨(¬(x1.lent=x2.lent)):=((Yh (Ym dq) (Ym dq))).1 Yp
    exact Z1 6 (Yn (ZF 4 (Zu true Yp fl)) hj2)
   have W4:¬((¬(x1.params=x2.params))∨(¬(x1.lent=x2.lent))):=Y8 (Yh (Ym dq) (Ym dq)) Yp
   exact ZL 6 [1,0] (Yn (ZF 4 (Zu (x1.result != x2.result) Yp fl)) hj2)
  refine Z1 2 (ib (b:=(!(decide (x1.params=x2.params)))) 46 (fun Xe=>?_) (fun Xe=>?_))
  ·have WB:¬(x1.params=x2.params):=((Ym dq)).1 Xe
   exact Z1 7 (Yn (ZF 4 (Zu true Xe fl)) hj1)
  have V1:¬(¬(x1.params=x2.params)):=Y8 (Ym dq) Xe
  exact ZL 4 [1,0] (Zw [] (GY x1.lent x2.lent) (Z1 2 (Yn (ZF 4 (Zu (!(decide (x1.lent=x2.lent))) Xe fl)) hj1)))
 exact ax 0 (ar (Zp (ZW (.b true) (lb (decide_eq_true (Zl.ext2 hq1 (Ej om (fun i hi=>Zk i om)))).symm))))
theorem Zbj (ds:List Zf) (hd:Wp ds:=by exact ob):Zi 96 [ZM ds] [] (Yl (ZM ds)):=((PQ ds hd).alone fun r h ⟨ys,w,e1,_,e3⟩=>by rw [e1,<-e3];exact Zc.els _ (OM ys))
theorem Zc6 (s:Z5) (ks:List Z7) (hl:s.sz<=1000000000:=by exact ob):Zi 100 [YD s,XO ks] [] (Yl (.agg [.i s.op,.i s.num,.i s.into,Z4 s.args,XO ks])):=by
 have hal:=QK s
 refine ZE 12 Tryz.func100 (ar (iA (Xz s) fun b1=>iA [.i 0,.i 0,.i 0,nl,nl] fun b2=>ie (Zv 2 [1] (ic [] (By s.args) ?_))))
 rintro _ _ ⟨v1,rfl,rfl⟩
 exact Z1 2 (ZA 2 b1 [.i s.op,.i s.num,.i s.into,ZQ s.args v1,XO s.kids] (Z1 1 (ZA 0 b1 [.i s.op,.i s.num,.i s.into,ZQ s.args v1,XO ks] (ie (Zv 1 [0] (ZA 2 b2 [.i s.op,.i s.num,.i s.into,ZQ s.args v1,XO ks] (ie (ZB (r3 [] [.agg [.i s.op,.i s.num,.i s.into,ZQ s.args v1,XO ks]] [0] [(b2,b2)] ⟨rfl,rfl⟩ (Zc.agg (.cons (lr _) (.cons (lr _) (.cons (lr _) (.cons (Zc.forget _ _) (.cons (lr _) .nil)))))))))))))))
theorem Zbw (z:Nat) (s:Z5) (hz:s.sz<=z+1:=by exact ob) (hl:s.sz<=1000000000:=by exact ob) (ih:∀(b2:Z7),(b2.sz<=z)->(b2.sz<=1000000000)->Zi 64 [ZZ b2] [] (Yl (ZZ (Ww b2)))):Zi 122 [YD s,.val (.func (.func 64) #[] #[])] [] (Yl (.agg [.i s.op,.i s.num,.i s.into,Z4 s.args,XO (Uj s.kids)])):=by
 have hkz:=Ts s
 refine ZE 25 Tryz.func122 (ar (iA (Xz s) fun b1=>iA [.i 0,.i 0,.i 0,nl,nl] fun b2=>?_))
 refine ie (Zy (Yi 2 [1] (iw (Uf s.kids) (Z0 (ab 0 (UM 2 (Y3 (fun fz gz m F h=>∃(k:Nat) (ks:List Z7) (u:Value),(k<=s.kids.length)/\(ks.length=k)/\(ks++Uj (s.kids.drop k)=Uj s.kids)/\F=sF [1,2,4,9,10] fz [(5,Q4 ks u),(11,.i k)]/\h=[Ze gz 1,Ze gz 2,.tail u 2]/\m=s.kids.length-k) _ _ _ ⟨0,[],(.slice none 0 0),ob,ob,ob,rfl,rfl,rfl⟩ (wk [1,1,0] (fc (x:=nl) (Zc.slh _ (by first|rfl|(subst_vars;rfl))) (Ya fl))) ?_)))))))
 rintro m F h ⟨k,ks,u,Ye,Zk,Zx,rfl,rfl,rfl⟩
 refine Zy (aq (XF ((k:Int)<(s.kids.length:Int)) (fun Za=>?_) (fun Za=>?_)))
 ·refine ak (aq (ab 1 (ar ?_)))
  obtain ⟨x1,Z3⟩:=Zt s.kids k om
  have hks:=Tq Z3
  exact Zq (Zm none (k:Int) 2 (T3 Z3)) (Z1 1 (iA [nl,.i 0] fun b3=>ZA 0 b3 (Xu x1) (ie (az (ZL 3 [0] (Zw [] (ih x1 ob ob) (iL [ZZ (Ww x1)] 1 2 fun v1=>ZT 0 [(19,.sl [ZZ (Ww x1)] none)] (ip 4 (YR (ks++[Ww x1])) (YR ks) [ZZ (Ww x1)] u none 2 (Kd _) (Ta rfl) rfl (by simp<;>omega) (by simp [BA,TW]) fun v2=>Z0 (az (ZJ k (Z0 (ZK ⟨k+1,(ks++[Ww x1]),v2,ob,(by rw [Yq,Zk];rfl),(Zft Z3 Zx),rfl,rfl,rfl⟩ (wk [3,3,0] (fr (ZO k fl)))))))))))))))
 exact ax 0 (ar (K6 2 [(23,XO ks)] [1] (Zw [] (Zc6 s ks) (ZA 0 b2 [.i s.op,.i s.num,.i s.into,Z4 s.args,XO ks] (ie (ZB (r3 [] [.agg [.i s.op,.i s.num,.i s.into,Z4 s.args,XO ks]] [0] [(b2,b2)] ⟨rfl,rfl⟩ (Zc.agg (.cons (lr _) (.cons (lr _) (.cons (lr _) (.cons (lr _) (.cons (Zc.sl _ (Yu YR (Zfs om Zx))) .nil)))))))))))))
theorem Zbx (z:Nat) (b:Z7) (hz:b.sz<=z+1:=by exact ob) (hl:b.sz<=1000000000:=by exact ob) (ih:∀(b2:Z7),(b2.sz<=z)->(b2.sz<=1000000000)->Zi 64 [ZZ b2] [] (Yl (ZZ (Ww b2)))):Zi 64 [ZZ b] [] (Yl (ZZ (Ww b))):=by
 have hbz:=Td b
 refine ZE 31 Tryz.func64 (ar (iA (Xu b) fun b1=>iA [nl,.i 0] fun b2=>ie (Zv 3 [1] (iA [nl,.i 0] fun b3=>?_))))
 refine ZA 0 b3 [nl,.i b.result] (ie (Yi 2 [2] (iw (VU b.steps) (Z0 (ab 0 (UM 5 (Y3 (fun fz gz m F h=>∃(k:Nat) (xs:List Z5) (v:Value),(k<=b.steps.length)/\(xs.length<=k)/\(xs++Vv (b.steps.drop k)=Vv b.steps)/\F=sF [2,3,10,11] fz [(12,.i k)]/\h=[.obj b3 [X9 xs v,.i b.result],Ze gz 2,.tail v 5]/\m=b.steps.length-k) _ _ _ ⟨0,[],(.slice none 0 0),ob,ob,ob,rfl,rfl,rfl⟩ (wk [1,1,0] (Ya fl)) ?_)))))))
 rintro m F h ⟨k,xs,v,Ye,Zk,Zx,rfl,rfl,rfl⟩
 refine Zy (aq (XF ((k:Int)<(b.steps.length:Int)) (fun Za=>?_) (fun Za=>?_)))
 ·refine ak (aq (ab 1 (ar ?_)))
  obtain ⟨x1,Z3⟩:=Zt b.steps k om
  have Xv:=JK Z3
  refine Zq (Zm none (k:Int) 5 (VP Z3)) (Z1 1 (iA [.i 0,.i 0,.i 0,nl,nl] fun b4=>ZA 0 b4 (Xz x1) (ie (Zv 2 [0] (Zw [] (EB x1.op) (YE (!YC x1.op) (p:=¬(YC x1.op=true)) (Ym Iff.rfl) (fun Zg=>?_) (fun Zg=>?_)))))))
  ·exact Zv 1 [0] (Zw [] (Zbw z x1 (ih:=ih)) (ZA 0 b4 [.i x1.op,.i x1.num,.i x1.into,Z4 x1.args,XO (Uj x1.kids)] (ie (Y1 1 (ZA 0 b4 [.i x1.op,.i x1.num,.i 0,Z4 x1.args,XO (Uj x1.kids)] (ie (az (ZL 3 [1,0] (iL [YD (Z5.mk x1.op x1.num 0 x1.args (Uj x1.kids))] 1 5 fun v1=>ZT 0 [(26,.sl [YD (Z5.mk x1.op x1.num 0 x1.args (Uj x1.kids))] none)] (ip 4 (ZG (xs++[Z5.mk x1.op x1.num 0 x1.args (Uj x1.kids)])) (ZG xs) [YD (Z5.mk x1.op x1.num 0 x1.args (Uj x1.kids))] v none 5 (Xw _) (Ta rfl) rfl (by simp<;>omega) (by simp [V0,VH]) fun v2=>Z1 1 (ZA 3 b3 [X9 (xs++[Z5.mk x1.op x1.num 0 x1.args (Uj x1.kids)]) v2,.i b.result] (ie (az (ZJ k (Z0 (ZK ⟨k+1,(xs++[Z5.mk x1.op x1.num 0 x1.args (Uj x1.kids)]),v2,ob,(by simp;omega),(Zfq Z3 Zg Zx),rfl,rfl,rfl⟩ (wk [0,3,0] (ZO k fl))))))))))))))))))
  exact ak (az (ZJ k (Z0 (ZK ⟨k+1,xs,v,ob,ob,(Zfr Z3 (Wc.1 Zg) Zx),rfl,rfl,rfl⟩ (wk [1,1,1] (ZO k fl))))))
 exact ax 0 (Zv 1 [0] (ZA 1 b2 [X9 xs v,.i b.result] (ie (ZB (r3 [] [.agg [X9 xs v,.i b.result]] [0] [(b2,b2)] ⟨rfl,rfl⟩ (Zc.agg (.cons (Zc.sl _ (Yu ZG (by rw [Zfk];exact Zfp om Zx))) (.cons (li (by rw [Zfj])) .nil))))))))
theorem Zby (m:Nat):∀(b2:Z7),(b2.sz<=m)->(b2.sz<=1000000000)->Zi 64 [ZZ b2] [] (Yl (ZZ (Ww b2))):=by
 induction m with
 | zero=>intro b h;have:=b.sz_pos;omega
 | succ m ih=>intro b h1 h2;exact Zbx m b h1 h2 ih
theorem Zbz (b:Z7) (hl:b.sz<=1000000000:=by exact ob):Zi 64 [ZZ b] [] (Yl (ZZ (Ww b))):=Zby b.sz b (X6 _) hl
theorem Zbb (rt:Yb) (b:Z7) (hl:b.sz<=1000000000:=by exact ob):Zi 63 [QJ rt,ZZ b] [] (Yl (ZZ (Ww b))):=by
 exact ZE 7 Tryz.func63 (ar (iA (Tt rt) fun b1=>iA (Xu b) fun b2=>iA [nl,.i 0] fun b3=>ie (Zv 1 [1] (Zw [] (Zbz b) (ZA 0 b3 (Xu (Ww b)) (ie (ZB (r3 [] [ZZ (Ww b)] [0] [(b3,b3)] ⟨rfl,rfl⟩ (lr _)))))))))
theorem Zbu (n:Zl) (hn:X3 n:=by exact ob) (hz:V7 n:=by exact ob):Zi 44 [Yr n,.val (.func (.func 63) #[] #[])] [] (Yl (Yr (BQ n))):=by
 have hzl:=hz.len
 refine ZE 40 Tryz.func44 (ar (iA (YV n) fun b1=>iA [nl,nl] fun b2=>ie (Zv 2 [1] (Zw [] (Zbj n.decls (hd:=hn.decls)) (Z1 1 (iA [nl,nl] fun b3=>?_))))))
 refine ZA 0 b3 [ZM n.decls,nl] (ie (Yi 2 [2] (iw (Ug n.routines) (Z0 (ab 0 (UM 5 (Y3 (fun fz gz m F h=>∃(k:Nat) (xs:List Yb) (v:Value),(k<=n.routines.length)/\(xs=(n.routines.take k).map DF)/\(xs.length=k)/\F=sF [1,4,5,13,14] fz [(15,.i k)]/\h=[.obj b3 [ZM n.decls,VD xs v],Ze gz 2,.tail v 5]/\m=n.routines.length-k) _ _ _ ⟨0,[],(.slice none 0 0),ob,rfl,ob,rfl,rfl,rfl⟩ (wk [1,1,0] (Ya fl)) ?_)))))))
 rintro m F h ⟨k,xs,v,Ye,Zk,Zx,rfl,rfl,rfl⟩
 refine Zy (aq (XF ((k:Int)<(n.routines.length:Int)) (fun Za=>?_) (fun Za=>?_)))
 ·refine ak (aq (ab 1 (ar ?_)))
  obtain ⟨x1,Z3⟩:=Zt n.routines k om
  have hrm:=Y4 Z3
  have hbz:=hz.body _ hrm
  have hpl:=hz.params _ hrm
  have hll:=hz.lent _ hrm
  refine Zq (Zm none (k:Int) 5 (WW Z3)) (Z1 1 (iA [nl,nl,.i 0,nl,.i 0] fun b4=>ZA 0 b4 (Tt x1) (ie (aE 20 (ZI 8 20 [0,1,2,3,5,6,8,9,10,11,12,13] [1,0,0,0,0,0] (Z9 4 (dc 4 [] [0,0,0,0,1] [b4,b4,b4,b4,b3] (By x1.params) ?_)))))))
  rintro _ _ ⟨v1,rfl,rfl⟩
  refine Z9 7 (dc 7 [] [0,0,0,1] [b4,b4,b4,b3] (By x1.lent) ?_)
  rintro _ _ ⟨v2,rfl,rfl⟩
  exact Z9 14 (Yz 14 [] [0,1] [b4,b3] (Zbb x1 x1.body) (YA 4 5 [15] [(34,.agg [Z4 x1.params,Z4 x1.lent,.i x1.result,Vl ((Ww x1.body).steps),.i ((Ww x1.body).result)])] (Z9 16 (dL 16 [1] [b3] (YX [Yb.mk x1.params x1.lent x1.result (Z7.mk ((Ww x1.body).steps) ((Ww x1.body).result))]) 1 5 fun v3=>YA 3 3 [] [(35,Kh [Yb.mk x1.params x1.lent x1.result (Z7.mk ((Ww x1.body).steps) ((Ww x1.body).result))])] (Z9 17 (dp 17 6 [] [] (YX (xs++[Yb.mk x1.params x1.lent x1.result (Z7.mk ((Ww x1.body).steps) ((Ww x1.body).result))])) (YX xs) (YX [Yb.mk x1.params x1.lent x1.result (Z7.mk ((Ww x1.body).steps) ((Ww x1.body).result))]) v none 5 (TX _) (TX _) (Cq _) (by simp<;>omega) (by simp [Cp,YX]) fun v4=>Zj 1 2 [18] (Z9 19 (YM 19 5 [] [] b3 [ZM n.decls,VD (xs++[Yb.mk x1.params x1.lent x1.result (Z7.mk ((Ww x1.body).steps) ((Ww x1.body).result))]) v4] (de (az (ZJ k (Z0 (ZK ⟨k+1,(xs++[Yb.mk x1.params x1.lent x1.result (Z7.mk ((Ww x1.body).steps) ((Ww x1.body).result))]),v4,ob,(by rw [show Z7.mk (Ww x1.body).steps (Ww x1.body).result=Ww x1.body by cases Ww x1.body;rfl,Zk,V4 Z3,List.map_append];rfl),(by rw [Yq,Zx];rfl),rfl,rfl,rfl⟩ (wk [0,5,0] (ZO k fl)))))))))))))))
 exact ax 0 (Zv 1 [0] (ZA 1 b2 [ZM n.decls,VD xs v] (ie (ZB (r3 [] [.agg [ZM n.decls,VD xs v]] [0] [(b2,b2)] ⟨rfl,rfl⟩ (Zc.agg (.cons (Zc.sl _ (Yu YB (by rfl))) (.cons (Zc.sl _ (Yu YX (by rw [Zk,Vx om];rfl))) .nil))))))))
theorem PK (n:Zl) (hz:V7 n:=by exact ob) (hr:∀r∈n.routines,r.body.rng):Zi 22 [Yr n] [] (Yl (.tup [Yr (K5 n),.b (XK n)])):=by
 refine ZE 10 Tryz.func22 (ar (iA (YV n) fun b1=>iA [nl,nl] fun b2=>Z0 (Yi 1 [1] (Zw [] (PM n (hr:=hr)) (YE (!XK n) (p:=¬(XK n=true)) (Ym Iff.rfl) (fun Za=>?_) (fun Za=>?_))))))
 ·exact Y1 1 (ZA 0 b2 [nl,nl] (Zp (r3 [] [.agg [nl,nl],.b false] [0] [(b2,b2)] ⟨rfl,rfl⟩ (Zc.tup (.cons (Zc.agg (.cons (Zc.sl _ (by rw [Md Za];rfl)) (.cons (Zc.sl _ (by rw [Md Za];rfl)) .nil))) (.cons (lb (Kn.2 Za).symm) .nil))))))
 have hV:XK n=true:=Wc.1 Za
 obtain ⟨hn,hvt⟩:=Ft hz hV
 exact ak (Zv 1 [1] (Zw [] (Zbu n) (ZA 0 b2 (YV (BQ n)) (Zp (r3 [] [Yr (BQ n),.b true] [0] [(b2,b2)] ⟨rfl,rfl⟩ (Zc.tup (.cons (Zc.agg (.cons (Zc.sl _ (Yu YB (by rw [EV (Wc.1 Za)]))) (.cons (Zc.sl _ (Yu YX (by rw [EV (Wc.1 Za)]))) .nil))) (.cons (lb (Wc.1 Za).symm) .nil))))))))
theorem Z8q (code:LI) (hcl:code.length<=1048576:=by exact ob) (hcb:∀z∈code,0<=z/\z<=255):Zi 58 [Ur code] [] (fun r h=>∃(n2:Zl),r=Yr n2/\h=[]/\ZS n2 814530 11):=by
 refine ZE 22 Tryz.func58 (ar (iA [nl,nl] fun b1=>ie (Y1 1 (ic [] (Z9w code (hc:=hcb)) ?_))))
 rintro _ _ ⟨rd1,bs1,rfl,rfl,ZY⟩
 have hnr:=ZY
 refine Z0 (Y1 2 (ic [0] (Z98 rd1 bs1 0 (ZP:=hnr)) ?_))
 rintro _ _ ⟨n1,p21,rfl,rfl,Yf⟩
 have hcf:=((FO.zn Yf.1)).zs
 refine ic [0] (Zac rd1 bs1 p21 n1 16 814510 10 (ZP:=hnr) (hzn:=hcf)) ?_
 rintro _ _ ⟨n21,p22,rfl,rfl,YJ⟩
 have hsf:=YJ
 refine iA [nl,nl] fun b2=>ZA 0 b2 (YV n21) (ie (YP 1 (ic [1] (Pq rd1 bs1 p22 3 (ZP:=hnr)) ?_)))
 rintro _ _ ⟨YI,rfl,rfl,YT⟩
 refine Z0 (ab 0 (Y3 (fun fz gz m F h=>∃(j:Nat) (nn:Zl) (pp:Nat),(j<=2)/\(ZS nn (814520-4*j) 11)/\(pp+10*j<=1000000000)/\F=sF [2,3,4] fz [(5,.i j)]/\h=[YF rd1 bs1 pp,.obj b2 (YV nn),Ze gz 2]/\m=j+1) _ _ _ ⟨YI,n21,p22+1,ob,(hsf.1.le om (X6 _)),ob,rfl,rfl,rfl⟩ (ZF 3 fl) ?_))
 rintro m F h ⟨j,nn,pp,Ye,Zk,Zx,rfl,rfl,rfl⟩
 refine Xa (Y9 ((j:Int)>0) (fun Za=>?_) (fun Za=>?_))
 ·refine ak (aq (ab 1 (az (ZL 2 [1] (ic [0] (Z9g rd1 bs1 pp nn (ZP:=hnr) (hz:=(Zk.sz om om)) (hl1:=(by have:=Zk.len;omega))) ?_)))))
  rintro _ _ ⟨n22,p23,rfl,rfl,Xk⟩
  have hho:=Xk
  exact ZA 1 b2 (YV n22) (ie (az (Z1 1 (ia (((j:Int)-1)) (((j:Int))-(1)) (Z0 (ZK ⟨j-1,n22,p23,ob,((Zk.held hho.1).le om (X6 _)),ob,rfl,rfl,rfl⟩ (wk [1,0,0] (fc (x:=.i ((j:Int)-1)) li fl))))))))
 exact ax 0 (Zv 1 [1] (ZA 2 b1 (YV nn) (ie (ZB (r3 [] [Yr nn] [0] [(b1,b1)] ⟨nn,rfl,rfl,(Zk.le om (X6 _))⟩ (lr _))))))
theorem Z8r (code:LI) (hcl:code.length<=1048576:=by exact ob) (hcb:∀z∈code,0<=z/\z<=255):Zi 19 [Ur code] [] (fun r h=>∃(n2:Zl),r=Yr n2/\h=[]/\ZS n2 814530 11):=by
 refine ZE 5 Tryz.func19 (ar (iA [nl,nl] fun b1=>ie (Y1 1 (ic [] (Z8q code (hcb:=ob)) ?_))))
 rintro _ _ ⟨n21,rfl,rfl,ZY⟩
 exact ZA 0 b1 (YV n21) (ie (ZB (r3 [] [Yr n21] [0] [(b1,b1)] ⟨n21,rfl,rfl,ZY⟩ (lr _))))
theorem Zd8 (code:LI) (hcb:∀z∈code,0<=z/\z<=255):Zi 5 [Ur code] [] (Yl (.b true)):=by
 refine ZE 71 Tryz.func5 (Zy (YP 1 (iw (Js code) (Y9 ((code.length:Int)>1048576) (fun Za=>?_) (fun Za=>?_)))))
 ·exact ar (Zp (C1))
 have hcl:code.length<=1048576:=by omega
 refine ak (Y1 1 (ic [] (Z8r code (hcl:=hcl) (hcb:=hcb)) ?_))
 rintro _ _ ⟨n21,rfl,rfl,ZY⟩
 have hzs:=ZY
 have hzn:=hzs.sz om om
 have hln:=hzs.len
 have hrn:∀r∈n21.routines,r.body.rng:=fun r hr=>(hzs.rt r hr).2.2.2
 have huz:=Zi9 hzn (Q:=814530) (fun r hr=>(hzs.rt r hr).2.2.1) om
 have hur:=Zi8 hrn
 refine iA [nl,nl] fun b1=>ZA 0 b1 (YV n21) (ie (Zv 1 [0] (Zw [] (Zbd n21 (hz:=(by first|exact hzn|exact huz)) (hr:=(by first|exact hrn|exact hur))) (Z1 3 (iA [nl,nl] fun b2=>ZA 0 b2 (YV ((Yt n21).1)) (Z0 (Zv 1 [1] (Zw [] (Zia n21) (Z1 3 (iA [nl,nl] fun b3=>ZA 0 b3 (YV ((Yt n21).1)) (Z0 (Yi 2 [1,0] (Zw [] (LJ ((Yt n21).1) ((Yt n21).1) (hn:=(by first|exact huz|assumption|exact DG huz|(rw [h22];exact huz))) (ht:=(by first|exact huz|exact hzn|exact DG hzn))) (XA 9 [3,4,5,6,7] [(35,.b ((!(decide (((Yt n21).1)=((Yt n21).1))))||(((Yt n21).2) != ((Yt n21).2))))] (fun gz=>gz) ?_ (fun hj1=>?_)))))))))))))))
 ·refine Xx [3,4,5,6,7] [(39,.b (((!(decide (((Yt n21).1)=((Yt n21).1))))||(((Yt n21).2) != ((Yt n21).2)))||(!(Yt n21).2)))] (fun gz=>gz) ?_ ?_
  ·refine Z1 1 (ib (b:=((!(decide (((Yt n21).1)=((Yt n21).1))))||(((Yt n21).2) != ((Yt n21).2)))) 36 (fun Zb=>?_) (fun Zb=>?_))
   ·have Yf:(¬(((Yt n21).1)=((Yt n21).1)))∨(((Yt n21).2)≠((Yt n21).2)):=((Yh (Ym dq) Y6)).1 Zb
    exact Z0 (ZF 3 (fc (x:=.b true) (lb (by rw [Zb];rfl)) fl))
   have YJ:¬((¬(((Yt n21).1)=((Yt n21).1)))∨(((Yt n21).2)≠((Yt n21).2))):=Y8 (Yh (Ym dq) Y6) Zb
   exact Z0 (ZF 3 (fc (x:=.b (!(Yt n21).2)) (lb (by rw [Zb];rfl)) fl))
  refine ac (((!(decide (((Yt n21).1)=((Yt n21).1))))||(((Yt n21).2) != ((Yt n21).2)))||(!(Yt n21).2)) (p:=((¬(((Yt n21).1)=((Yt n21).1)))∨(((Yt n21).2)≠((Yt n21).2)))∨(¬((Yt n21).2=true))) (Yh (Yh (Ym dq) Y6) (Ym Iff.rfl)) (fun Zg=>?_) (fun Zg=>?_)
  ·refine Zv 2 [1,0] (Zw [] (LJ ((Yt n21).1) ((Yt n21).1) (hn:=(by first|exact huz|assumption|exact DG huz|(rw [h22];exact huz))) (ht:=(by first|exact huz|exact hzn|exact DG hzn))) (XA 8 [] [(47,.b ((decide (((Yt n21).1)=((Yt n21).1)))&&(((Yt n21).2)==((Yt n21).2))))] (fun gz=>gz) ?_ (fun hj2=>?_)))
   ·exact Zp (ZW (.b ((decide (((Yt n21).1)=((Yt n21).1)))&&(((Yt n21).2)==((Yt n21).2)))) (lb (by first|(simp;done)|(exfalso;omega)|(simp_all;done))))
   refine Z1 1 (ib (b:=(decide (((Yt n21).1)=((Yt n21).1)))) 43 (fun Zz=>?_) (fun Zz=>?_))
   ·have YT:((Yt n21).1)=((Yt n21).1):=(dq).1 Zz
    exact Z1 2 (Zq (Zcv ((Yt n21).2) ((Yt n21).2)) (Z1 1 (Yn (ZF 3 (fc (x:=.b (((Yt n21).2)==((Yt n21).2))) (lb (by rw [Zz];rfl)) fl)) hj2)))
   have Xk:¬(((Yt n21).1)=((Yt n21).1)):=Y8 dq Zz
   exact Z1 4 (Yn (ZF 3 (fc (x:=.b false) (lb (by rw [Zz];rfl)) fl)) hj2)
  have hk:(Yt n21).2=true:=C4 fun z=>Zg (.inr z)
  have hE:(Yt n21).1=Vb n21:=by rw [(Z19 hk).2.2]
  obtain ⟨h1,h2,h3,h4⟩:=Zid hzn hk
  rw [<-hE] at h1 h2 h4
  refine ak (Zv 1 [1] (Zw [] (PK ((Yt n21).1) (hz:=(by first|exact hzn|exact huz)) (hr:=(by first|exact hrn|exact hur))) (Z1 3 (iA [nl,nl] fun b4=>ZA 0 b4 (YV (K5 ((Yt n21).1))) (Z0 (Zv 1 [3] (Zw [] (PK n21 (hz:=(by first|exact hzn|exact huz)) (hr:=(by first|exact hrn|exact hur))) (Z1 3 (iA [nl,nl] fun b5=>ZA 0 b5 (YV (K5 n21)) (Z0 (Zv 1 [3] (Zw [] (PJ ((Yt n21).1) (hz:=huz) (hr:=hur)) (XA 5 [8,10,11] [(62,.b (WP ((Yt n21).1)&&(XK ((Yt n21).1))))] (fun gz=>gz) ?_ (fun hj3=>?_))))))))))))))
  ·refine XA 8 [8,10] [(65,.b ((WP ((Yt n21).1)&&(XK ((Yt n21).1)))&&(XK n21)))] (fun gz=>gz) ?_ (fun hj4=>?_)
   ·refine XA 13 [] [(70,.b (((WP ((Yt n21).1)&&(XK ((Yt n21).1)))&&(XK n21))&&(decide ((K5 ((Yt n21).1))=(K5 n21)))))] (fun gz=>gz) ?_ (fun hj5=>?_)
    ·exact Zp (ZW (.b (((WP ((Yt n21).1)&&(XK ((Yt n21).1)))&&(XK n21))&&(decide ((K5 ((Yt n21).1))=(K5 n21))))) (lb (by first|(simp;done)|(exfalso;omega)|(simp_all;done))))
    refine Z1 1 (ib (b:=((WP ((Yt n21).1)&&(XK ((Yt n21).1)))&&(XK n21))) 66 (fun Yp=>?_) (fun Yp=>?_))
    ·have W4:((WP ((Yt n21).1)=true)/\((XK ((Yt n21).1))=true))/\((XK n21)=true):=((YG (YG Iff.rfl Iff.rfl) Iff.rfl)).1 Yp
     exact ZL 2 [1,0] (Zw [] (LJ (K5 ((Yt n21).1)) (K5 n21) (hn:=(by first|exact huz|assumption|exact DG huz|(rw [h22];exact huz))) (ht:=(by first|exact huz|exact hzn|exact DG hzn))) (Z1 1 (Yn (ZF 5 (fc (x:=.b (decide ((K5 ((Yt n21).1))=(K5 n21)))) (lb (by rw [Yp];rfl)) fl)) hj5)))
    have WB:¬(((WP ((Yt n21).1)=true)/\((XK ((Yt n21).1))=true))/\((XK n21)=true)):=Y8 (YG (YG Iff.rfl Iff.rfl) Iff.rfl) Yp
    exact Z1 4 (Yn (ZF 5 (fc (x:=.b false) (lb (by rw [Yp];rfl)) fl)) hj5)
   refine Z1 1 (ib (b:=(WP ((Yt n21).1)&&(XK ((Yt n21).1)))) 63 (fun Xe=>?_) (fun Xe=>?_))
   ·have V1:(WP ((Yt n21).1)=true)/\((XK ((Yt n21).1))=true):=((YG Iff.rfl Iff.rfl)).1 Xe
    exact Z1 2 (Yn (ZF 5 (fc (x:=.b (XK n21)) (lb (by rw [Xe];rfl)) fl)) hj4)
   have Vu:¬((WP ((Yt n21).1)=true)/\((XK ((Yt n21).1))=true)):=Y8 (YG Iff.rfl Iff.rfl) Xe
   exact Z1 2 (Yn (ZF 5 (fc (x:=.b false) (lb (by rw [Xe];rfl)) fl)) hj4)
  refine Z1 1 (ib (b:=WP ((Yt n21).1)) 60 (fun Wn=>?_) (fun Wn=>?_))
  ·have UR:WP ((Yt n21).1)=true:=(Iff.rfl).1 Wn
   exact Z1 2 (Yn (ZF 5 (fc (x:=.b (XK ((Yt n21).1))) (lb (by rw [Wn];rfl)) fl)) hj3)
  have T8:¬(WP ((Yt n21).1)=true):=Y8 Iff.rfl Wn
  exact Z1 2 (Yn (ZF 5 (fc (x:=.b false) (lb (by rw [Wn];rfl)) fl)) hj3)
 refine Z1 2 (ib (b:=(!(decide (((Yt n21).1)=((Yt n21).1))))) 31 (fun WL=>?_) (fun WL=>?_))
 ·have T9:¬(((Yt n21).1)=((Yt n21).1)):=((Ym dq)).1 WL
  exact Z1 4 (Yn (ZF 3 (fc (x:=.b true) (lb (by rw [WL];rfl)) fl)) hj1)
 have QW:¬(¬(((Yt n21).1)=((Yt n21).1))):=Y8 (Ym dq) WL
 exact Z1 2 (Zq (Zcw ((Yt n21).2) ((Yt n21).2)) (Z1 1 (Yn (ZF 3 (fc (x:=.b (((Yt n21).2) != ((Yt n21).2))) (lb (by rw [WL];rfl)) fl)) hj1)))
end Go.Abs
