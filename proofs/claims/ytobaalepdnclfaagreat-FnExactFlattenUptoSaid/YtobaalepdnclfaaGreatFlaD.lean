/-
  A part of the proof of FnExactFlattenUptoSaid (see the last file): no condition.
-/
import Derived.Test.YtobaalepdnclfaaGreatFlaC
set_option linter.all false
set_option linter.unusedVariables false
set_option linter.unusedSimpArgs false
set_option linter.unusedSectionVars false
set_option maxRecDepth 10000
set_option maxHeartbeats 4000000
namespace Go.Abs
open Go.Proofs
theorem Zmt (b:Nat) (ga:Hd) (gb:Hd) (gc:Hd) (n:Normal) (L:XG) (ln:List Int) (am:List Arm) (xs:List Step) (q:Int) (vs:List Int) (hn:NOk n:=by exact ob) (hk:LOk n.decls L q:=by exact ob) (har:ArmR n.decls L am:=by exact ob) (ht:X7 n xs L.vars=some vs:=by exact ob) (hnn:∀t∈L.vars,0<=t) (hb:L.vars.length+am.length+4*ZR xs<=900000000:=by exact ob) (hq:0<=q/\q+4*ZR xs<=999999980:=by exact ob) (hr:UF xs:=by exact ob) (ih:∀(s2:Step) (c:Nat) (ra:Hd) (rb:Hd) (rc:Hd) (M:XG) (a2:List Arm) (p:Int),(s2.sz<=ZR xs)->(LOk n.decls M p)->(ArmR n.decls M a2)->(0<=Zp n M.vars s2)->(∀t∈M.vars,0<=t)->(M.vars.length+a2.length+4*s2.sz<=900000000)->(0<=p/\p+4*s2.sz<=999999980)->(s2.rng)->Zd Tryz.prog 122 [.p c 0,ZN s2] [.obj c [Z3 n.decls,Zh n,Z1 ln,Zq a2,.h ra,.h rb,.h rc],rV ra M.vars,rV rb M.own,rV rc M.tok] (fun r h=>(∃(wa:Hd) (wb:Hd) (wc:Hd) (M':XG),r=.b true/\h=[.obj c [Z3 n.decls,Zh n,Z1 ln,Zq a2,.h wa,.h wb,.h wc],rV wa M'.vars,rV wb M'.own,rV wc M'.tok]/\Vc n ln M s2=some M')∨(r=.b false/\h=[]/\Vc n ln M s2=none))):Zd Tryz.prog 85 [.p b 0,ZX xs] [.obj b [Z3 n.decls,Zh n,Z1 ln,Zq am,.h ga,.h gb,.h gc],rV ga L.vars,rV gb L.own,rV gc L.tok] (fun r h=>(∃(wa:Hd) (wb:Hd) (wc:Hd) (L':XG),r=.b true/\h=[.obj b [Z3 n.decls,Zh n,Z1 ln,Zq am,.h wa,.h wb,.h wc],rV wa L'.vars,rV wb L'.own,rV wc L'.tok]/\Xz n ln L xs=some L')∨(r=.b false/\h=[]/\Xz n ln L xs=none)):=by
 have hxl:=Zk5 xs
 refine enter Tryz.func85 kr (n:=18) kr kr (ar (ir 1 [(0,.p b 0),(1,ZX xs)] (ie (aq (ar (Z0 1 (.n 7 (ZX xs) .r) (iw (UK xs) (Z0 1 (.n 9 (.i 0) .r) (ie (ab 0 (al (fun m F h=>∃(k:Nat) (q2:Int) (L2:XG) (ka:Hd) (kb:Hd) (kc:Hd),(k<=xs.length)/\(LOk n.decls L2 q2)/\(0<=q2/\q2+4*ZR (xs.drop k)<=999999980)/\(L2.vars.length+am.length+4*ZR (xs.drop k)<=900000000)/\(X7 n (xs.drop k) L2.vars=some vs)/\(Xz n ln L2 (xs.drop k)=Xz n ln L xs)/\(ArmR n.decls L2 am)/\(∀t∈L2.vars,0<=t)/\F=[(0,.p b 0),(7,ZX xs),(8,.i xs.length),(9,.i k)]/\h=[.obj b [Z3 n.decls,Zh n,Z1 ln,Zq am,.h ka,.h kb,.h kc],rV ka L2.vars,rV kb L2.own,rV kc L2.tok]/\m=xs.length-k) _ _ _ ⟨0,q,L,ga,gb,gc,ob,hk,(by rw [VR];omega),(by rw [VR];omega),ht,rfl,har,hnn,rfl,rfl,rfl⟩ (wk [0,0,0,0] (fw (fr (fc (x:=.i 0) li fl)))) ?_)))))))))))
 rintro m F h ⟨k,q2,L2,ka,kb,kc,c0_0,c0_1,c0_2,c0_3,c0_4,c0_5,c0_6,c0_7,rfl,rfl,rfl⟩
 refine ar (Z0 1 (.n 10 (.b (decide ((k:Int)<(xs.length:Int)))) .r) (ie (aq (ac (decide ((k:Int)<(xs.length:Int))) dq (fun hc1=>?_) (fun hc1=>?_)))))
 ·obtain ⟨s1,hs1⟩:=Zl (xs:=xs) (j:=k) om
  have hdr:=Zu hs1
  have hz:ZR (xs.drop k)=s1.sz+ZR (xs.drop (k+1)):=by rw [hdr,ZR]
  have hsz:=Z32 hs1
  have hsr:=Zb0 hr hs1
  rw [hdr] at c0_4 c0_5
  obtain ⟨g1,g2⟩:=KA c0_4
  refine ak (aq (ab 1 (ar (Zf (Zj (es:=Wg xs) (hv:=none) (j:=(k:Int)) (sz:=5) (y:=ZN s1) kr om (T6 hs1) rfl) (Z0 1 (.n 12 (ZN s1) .r) (iA [.i 0,.i 0,.i 0,nl,nl] ?_))))))
  intro b1
  refine iS 0 b1 0 (ZE s1) [.i 0,.i 0,.i 0,nl,nl] (ZE s1) (ie (ar (Za 2 (.n 13 (.p b 0) (.n 14 (ZN s1) .r)) [0] [b1] (ic [1,1,1,1] (ih s1 b ka kb kc L2 am q2 ob c0_1 c0_6 g1 c0_7 om om hsr) ?_))))
  rintro _ _ (⟨wa1,wb1,wc1,M'1,rfl,rfl,hp1⟩|⟨rfl,rfl,hp2⟩)
  ·have hP:=hp1
   have kx:=Z5x hn c0_1 c0_2.1 g1 hP
   refine Z0 1 (.n 16 (.b false) .r) (ie (YA (ak (az (ia (((k+1:Nat):Int)) (((k:Int))+(1)) (ir 1 [(0,.p b 0),(7,ZX xs),(8,.i xs.length),(9,.i (k+1:Nat))] (ie ?_)))))))
   exact ⟨_,_,_,ob,⟨k+1,(q2+4*s1.sz),M'1,wa1,wb1,wc1,ob,kx.1,om,(by rw [kx.2];have:=Jc n L2.vars s1;omega),(by rw [kx.2];exact g2),(by rw [<-c0_5,Xz,hP];rfl),(Zb2 hn c0_1 c0_2.1 g1 hP c0_6),(by rw [kx.2];exact Zx4 c0_7 g1),rfl,rfl,rfl⟩,(wk [0,0,0,0] (fw (fr (fc (x:=.i (k+1:Nat)) li fl))))⟩
  have hP:=hp2
  refine Z0 1 (.n 16 (.b true) .r) (ie (X8 (ar (ir 1 [(4,.b false)] (ie ?_)))))
  exact Z5 (r1 [] (.inr ⟨rfl,rfl,(by rw [<-c0_5,Xz,hP];rfl)⟩))
 refine ax 0 (ar (ir 1 [(4,.b true)] (ie ?_)))
 exact Z5 (r1 [0,0,0,0] (.inl ⟨ka,kb,kc,L2,rfl,rfl,(by rw [<-c0_5,Ye om];rfl)⟩))
theorem Zdc (am:List Arm) (hl:am.length<=1000000000:=by exact ob):Zd Tryz.prog 126 [Zq am] [] (fun r h=>∃(v:Value),r=J5 am v/\h=[.tail v 4]):=by
 refine enter Tryz.func126 kr (n:=8) kr kr (ar (ir 1 [(0,Zq am)] (ie (aq (ar (Z0 1 (.n 3 (Zq am) .r) (iN (Xo am) (fun hz1=>?_) ?_)))))))
 ·have hz1:=Zou hz1
  refine ie (X8 (ar (ir 1 [(2,nl)] (ie (U7 4 ?_)))))
  exact Z5 (r2 [0] [nl] ⟨(.slice none 0 0),rfl,rfl⟩ (Zg.slh _ (by first|rfl|(subst_vars;rfl))))
 refine ie (YA (ak (ar (iL (Xo []) 0 4 ?_))))
 intro v1
 refine Z0 1 (.n 6 (Zq am) .r) (ip 0 (Xo am) (Xo []) (Xo am) v1 none 4 (Z0l _) (Z0l _) (Z7o _) (by simp<;>omega) (by simp [Xo]) ?_)
 intro v2
 refine ir 1 [(2,J5 am v2)] (ie ?_)
 exact Z5 (r1 [0] ⟨v2,rfl,rfl⟩)
theorem Z73 (am:List Arm) (a:Arm) (hl:am.length<=900000000:=by exact ob):Zd Tryz.prog 92 [Zq am,.agg [.i a.mat,.i a.fst,Z1 a.fds,.b a.chg]] [] (fun r h=>r=Zq (am++[a])/\h=[]):=by
 refine enter Tryz.func92 kr (n:=10) kr kr (ar (iA [.i a.mat,.i a.fst,Z1 a.fds,.b a.chg] ?_))
 intro b1
 refine ir 1 [(0,Zq am),(3,.p b1 0)] (ie (aD 6 (dT (fuel:=4) 6 [0,2] [(5,Zq am),(7,.agg [.i a.mat,.i a.fst,Z1 a.fds,.b a.chg])] [0] [b1] (dK (fun F h=>∃(v3:Value),F=[(4,J5 (am++[a]) v3)]/\h=[.obj b1 [.i a.mat,.i a.fst,Z1 a.fds,.b a.chg]]) ?_ ?_))))
 ·refine Z21 1 3 ?_ ?_
  ·refine dc 1 [] [0] [b1] (Zdc am) ?_
   rintro _ _ ⟨v1,rfl,rfl⟩
   refine Zm 3 (dL 3 [] [] (Xo [a]) 1 4 ?_)
   intro v2
   refine dt (fuel:=2) 2 [] [(6,J5 am v1),(8,Zq [a])] (Zm 4 (dp 4 1 [] [] (Xo (am++[a])) (Xo am) (Xo [a]) v1 none 4 (Z0l _) (Z0l _) (Z7o _) (by simp<;>omega) (by simp [Zdo,Xo]) ?_))
   intro v3
   refine dt (fuel:=0) 1 [5] [(4,J5 (am++[a]) v3)] (de ?_)
   exact ⟨_,_,⟨v3,rfl,rfl⟩,(wk [2] fl)⟩
  refine dL 3 [] [] (Xo [a]) 1 4 ?_
  intro v4
  refine Zm 1 (dc 1 [] [] [] (Zdc am) ?_)
  rintro _ _ ⟨v5,rfl,rfl⟩
  refine dt (fuel:=2) 2 [] [(6,J5 am v5),(8,Zq [a])] (Zm 4 (dp 4 0 [] [] (Xo (am++[a])) (Xo am) (Xo [a]) v5 none 4 (Z0l _) (Z0l _) (Z7o _) (by simp<;>omega) (by simp [Zdo,Xo]) ?_))
  intro v6
  refine dt (fuel:=0) 1 [5] [(4,J5 (am++[a]) v6)] (de ?_)
  exact ⟨_,_,⟨v6,rfl,rfl⟩,(wk [2] fl)⟩
 rintro F h ⟨v3,rfl,rfl⟩
 exact Z5 (r2 [] [J5 (am++[a]) v3] ⟨rfl,rfl⟩ (Zg.forget _ _))
theorem Zmn (b:Nat) (ga:Hd) (gb:Hd) (gc:Hd) (n:Normal) (L:XG) (ln:List Int) (am:List Arm) (s:Step) (q:Int) (hn:NOk n:=by exact ob) (hty:NTy n:=by exact ob) (hlt:Jz n:=by exact ob) (hk:LOk n.decls L q:=by exact ob) (har:ArmR n.decls L am:=by exact ob) (hln:ln.length<=4294967296:=by exact ob) (hf:SFacts n L.vars s:=by exact ob) (hop:s.op=7∨s.op=8:=by exact ob) (hnn:∀t∈L.vars,0<=t) (hb:L.vars.length+am.length+4*s.sz<=900000000:=by exact ob) (hq:0<=q/\q+4*s.sz<=999999980:=by exact ob) (hr:s.rng:=by exact ob) (ih:∀(ys:List Step) (c:Nat) (ra:Hd) (rb:Hd) (rc:Hd) (M:XG) (a2:List Arm) (p:Int) (vs:List Int),(ZR ys<s.sz)->(LOk n.decls M p)->(ArmR n.decls M a2)->(X7 n ys M.vars=some vs)->(∀t∈M.vars,0<=t)->(M.vars.length+a2.length+4*ZR ys<=900000000)->(0<=p/\p+4*ZR ys<=999999980)->(UF ys)->Zd Tryz.prog 85 [.p c 0,ZX ys] [.obj c [Z3 n.decls,Zh n,Z1 ln,Zq a2,.h ra,.h rb,.h rc],rV ra M.vars,rV rb M.own,rV rc M.tok] (fun r h=>(∃(wa:Hd) (wb:Hd) (wc:Hd) (M':XG),r=.b true/\h=[.obj c [Z3 n.decls,Zh n,Z1 ln,Zq a2,.h wa,.h wb,.h wc],rV wa M'.vars,rV wb M'.own,rV wc M'.tok]/\Xz n ln M ys=some M')∨(r=.b false/\h=[]/\Xz n ln M ys=none))):Zd Tryz.prog 151 [.p b 0,ZN s] [.obj b [Z3 n.decls,Zh n,Z1 ln,Zq am,.h ga,.h gb,.h gc],rV ga L.vars,rV gb L.own,rV gc L.tok] (fun r h=>(∃(wa:Hd) (wb:Hd) (wc:Hd) (L':XG),r=.b true/\h=[.obj b [Z3 n.decls,Zh n,Z1 ln,Zq am,.h wa,.h wb,.h wc],rV wa L'.vars,rV wb L'.own,rV wc L'.tok]/\Tq n ln L s=some L')∨(r=.b false/\h=[]/\Tq n ln L s=none)):=by
 have hlk:=hk.len
 obtain ⟨e1,e2,e3,e4,e5⟩:=hk.len
 have hdk:=hn.decls
 have hkz:=UO s
 have haz:=TR s
 obtain ⟨hk1,hk2,hk3⟩:=hf.kids hop
 obtain ⟨kd,hkd⟩:=Zl (xs:=s.kids) (j:=0) om
 obtain ⟨x,hxa⟩:=hf.one om
 have ha:s.args[0]? = some x:=by rw [hxa];rfl
 have hx:=hf.args x (by rw [hxa];simp)
 have hgx:=QO ha
 have hal0:=(Yg.1 ha).1
 have hr2:=hr
 rw [s.rng_eq] at hr2
 refine enter Tryz.func151 kr (n:=156) kr kr (ar (iA (ZE s) ?_))
 intro b1
 refine ir 1 [(0,.p b 0),(3,.p b1 0)] (ie (aq (ar (Xl [(0,.p b 0),(3,.p b1 0),(24,.b ((s.op==8)&&(!YG L ln x)))] [.obj b [Z3 n.decls,Zh n,Z1 ln,Zq am,.h ga,.h gb,.h gc],rV ga L.vars,rV gb L.own,rV gc L.tok,.obj b1 (ZE s)] ?_ ?_))))
 ·refine iR 4 [(0,.p b 0),(3,.p b1 0),(16,.b (s.op==8))] [0] [b1] (ib (b:=(s.op==8)) 16 (fun hb1=>?_) (fun hb1=>?_))
  ·have hp1:s.op=8:=(Ze).1 hb1
   refine Za 3 (.n 17 (.p b 0) (.n 19 (Z1 s.args) (.k (.k (.k .z))))) [0] [b1] (Zf (Zj (es:=Z6 s.args) (hv:=none) (j:=0) (sz:=1) (y:=.i x) kr om (ZH ha) rfl) (Z0 1 (.n 21 (.i x) .r) (ic [1,1,1,1] (Z75 b ga gb gc n L ln am x ob ob ob ob ob hk.down ob) ?_)))
   rintro _ _ ⟨rfl,rfl⟩
   refine Z0 2 (.n 24 (.b (!YG L ln x)) .r) (ie ?_)
   exact wk [0,0,0,0,0] (fw (fc (x:=.b (!YG L ln x)) (lb (by simp only [hb1];rfl)) fl))
  have hp2:¬(s.op=8):=Zv Ze hb1
  refine Z0 8 (.n 24 (.b false) (.d (.k (.k .z)))) (ie ?_)
  exact wk [1,1,1,1,0] (fw (fc (x:=.b false) (lb (by simp only [hb1];rfl)) fl))
 refine ac ((s.op==8)&&(!YG L ln x)) (p:=(s.op=8)/\(¬(YG L ln x=true))) (ZZ Ze (ZP Iff.rfl)) (fun hc1=>?_) (fun hc1=>?_)
 ·refine ar (ir 1 [(4,.b false)] (ie ?_))
  exact Z5 (r1 [] (.inr ⟨rfl,rfl,(Znd hc1.1 (by rw [hgx];exact hc1.2))⟩))
 have hgo:=Zdb (n:=n) (ln:=ln) (L:=L) (s:=s) (by rw [hgx];exact hc1) hkd
 refine ak (ar (iR 2 [(0,.p b 0),(3,.p b1 0),(26,ZT s.kids)] [4] [b1] (iw (VJ s.kids) (iMN s.kids.length s.kids.length ?_))))
 intro v1
 refine Z0 1 (.n 5 (QV (List.replicate s.kids.length []) v1) .r) (ie (aq (ar (Za 3 (.n 31 (.b (s.op==8)) .r) [5] [b1] (ie (Ug (fun F h=>F=[(0,.p b 0),(3,.p b1 0),(5,YL (Zy n.decls s.op s.num))]/\h=[.obj b [Z3 n.decls,Zh n,Z1 ln,Zq am,.h ga,.h gb,.h gc],rV ga L.vars,rV gb L.own,rV gc L.tok,.obj b1 (ZE s)]) ?_ ?_))))))
 ·refine ac (s.op==8) Ze (fun hc2=>?_) (fun hc2=>?_)
  ·refine aE 8 (dT (fuel:=2) 8 [0,1,2,3,4,5] [(0,.p b 0),(3,.p b1 0),(5,QV (List.replicate s.kids.length []) v1),(35,.agg [Z3 n.decls,Zh n]),(37,.i s.num)] [1,5] [b,b1] (Zm 6 (dc 6 [] [] [] (Z8t _ s.num) ?_)))
   rintro _ _ ⟨rfl,rfl⟩
   refine Zi (fuel:=0) 1 [7] (.n 5 (YL ((Zt n.decls s.num).map (Zc n.decls))) (.p (.k (.k .z)))) (de ?_)
   exact ⟨_,_,⟨rfl,rfl⟩,(wk [1,1,1,1,1] (fw (fc (x:=YL ((Zt n.decls s.num).map (Zc n.decls))) (Zg.sl _ (Y1 XO (by rw [Zy,Z4 om]))) fl)))⟩
  refine ak ?_
  exact ⟨_,_,⟨rfl,rfl⟩,(wk [1,1,1,1,1] (fw (fc (x:=QV (List.replicate s.kids.length []) v1) (Zg.sl _ (Y1 XO (by rw [show s.kids.length=2 by rw [hk1,Zy,Z8 om];rfl,Zy,Z8 om];rfl))) fl)))⟩
 rintro F h ⟨rfl,rfl⟩
 refine ar (iR 4 [(0,.p b 0),(3,.p b1 0),(5,YL (Zy n.decls s.op s.num)),(42,.h ga)] [0] [b] (Zf (Z04 1 ga L.vars) (Z0 1 (.n 6 (.i L.vars.length) .r) (ie (ar (Z0 1 (.n 7 (.val (.pointer none)) .r) (ie (aq (ar (Za 2 (.n 45 (ZT s.kids) .r) [4] [b1] (iw (VJ s.kids) (Z0 1 (.n 47 (.i 0) .r) (ie (ab 0 (al (fun m F h=>(∃(k:Nat),(k=0)/\F=[(0,.p b 0),(3,.p b1 0),(5,YL (Zy n.decls s.op s.num)),(6,.i L.vars.length),(7,.val (.pointer none)),(45,ZT s.kids),(46,.i s.kids.length),(47,.i k)]/\h=[.obj b [Z3 n.decls,Zh n,Z1 ln,Zq am,.h ga,.h gb,.h gc],rV ga L.vars,rV gb L.own,rV gc L.tok,.obj b1 (ZE s)]/\m=s.kids.length-k)∨(∃(k:Nat) (c0:Nat) (ua:Hd) (ub:Hd) (uc:Hd) (O:XG) (aO:List Arm),(1<=k/\k<=s.kids.length)/\(Xv n ln (Xr n.decls L s.op s.num s.args 0) L.vars.length kd=some (O.take L.vars.length))/\(L.vars.length<=O.own.length/\O.own.length<=1000000000/\L.vars.length<=O.tok.length/\O.tok.length<=1000000000)/\(UA n ln L s.op s.num s.args (O.take L.vars.length) (s.kids.drop k) k=UA n ln L s.op s.num s.args (O.take L.vars.length) (s.kids.drop 1) 1)/\F=[(0,.p b 0),(3,.p b1 0),(5,YL (Zy n.decls s.op s.num)),(6,.i L.vars.length),(7,.p c0 0),(45,ZT s.kids),(46,.i s.kids.length),(47,.i k)]/\h=[.obj c0 [Z3 n.decls,Zh n,Z1 ln,Zq aO,.h ua,.h ub,.h uc],rV ua O.vars,rV ub O.own,rV uc O.tok,.obj b [Z3 n.decls,Zh n,Z1 ln,Zq am,.h ga,.h gb,.h gc],rV ga L.vars,rV gb L.own,rV gc L.tok,.obj b1 (ZE s)]/\m=s.kids.length-k)) _ _ _ (.inl ⟨0,rfl,rfl,rfl,rfl⟩) (wk [0,0,0,0,0] (fq (fw (fr (fc (x:=.i 0) li fl))))) ?_)))))))))))))))
 rintro m F h (⟨k,c0_0,rfl,rfl,rfl⟩|⟨k,c0,ua,ub,uc,O,aO,d0_0,d0_1,d0_2,d0_3,rfl,rfl,rfl⟩)
 ·refine ar (ir 1 [(0,.p b 0),(3,.p b1 0),(5,YL (Zy n.decls s.op s.num)),(6,.i L.vars.length),(7,.val (.pointer none)),(45,ZT s.kids),(46,.i s.kids.length),(47,.i k),(48,.b (decide ((k:Int)<(s.kids.length:Int))))] (ie (aq (ac (decide ((k:Int)<(s.kids.length:Int))) dq (fun hc3=>?_) (fun hc3=>?_)))))
  ·obtain ⟨ke,hke⟩:=Zl (xs:=s.kids) (j:=k) om
   obtain ⟨mk,hmk⟩:=Zl (xs:=Zy n.decls s.op s.num) (j:=k) om
   have hK:=JS hk hq.1 hf hop hmk
   have hmk3:=Z0d hdk hmk
   have hks:=UN hke
   have hbt:=hk3 k ke mk hke hmk
   obtain ⟨vs,rt,hvs,hres,hrt⟩:=QF hbt
   have hri:=Tn hres
   have hsrr:UF ke.steps:=by
    have h:=Z40 hr2.2 hke
    rwa [Block.rng_eq] at h
   have hbz:=ke.sz_eq
   have hak:=Z72 hn har hlk hop (by rw [hgx];exact hx) hmk
   have hsl:=Z34 hvs
   rw [ZC] at hsl
   have hkl:=Zcs (L:=L) (am:=am) (s:=s) (m:=mk)
   refine ak (aq (ab 1 (ar (Z0 1 (.n 49 (.i k) .r) (Zf (Zj (es:=Xw s.kids) (hv:=none) (j:=(k:Int)) (sz:=2) (y:=Zx ke) kr om (WY hke) rfl) (Z0 1 (.n 51 (Zx ke) .r) (iA [nl,.i 0] ?_)))))))
   intro b2
   refine Z0 1 (.n 8 (.i k) .r) (iS 0 b2 0 (YY ke) [nl,.i 0] (YY ke) (ie (ar (Z0 1 (.n 52 (.p b 0) .r) (ic [1,1,1,1] (Zcz b ga gb gc n L ln am) ?_)))))
   rintro _ _ ⟨c1,wa1,wb1,wc1,rfl,rfl⟩
   refine Z0 1 (.n 10 (.p c1 0) .r) (ie (aq (ar (Za 3 (.n 56 (.b (s.op==8)) .r) [9] [b1] (ie (Ug (fun F h=>F=[(0,.p b 0),(3,.p b1 0),(5,YL (Zy n.decls s.op s.num)),(6,.i L.vars.length),(7,.val (.pointer none)),(8,.i k),(9,.p b2 0),(10,.p c1 0),(45,ZT s.kids),(46,.i s.kids.length),(47,.i k)]/\h=[.obj c1 [Z3 n.decls,Zh n,Z1 ln,Zq (V6 L am s mk),.h wa1,.h wb1,.h wc1],rV wa1 L.vars,rV wb1 L.own,rV wc1 L.tok,.obj b [Z3 n.decls,Zh n,Z1 ln,Zq am,.h ga,.h gb,.h gc],rV ga L.vars,rV gb L.own,rV gc L.tok,.obj b2 (YY ke),.obj b1 (ZE s)]) ?_ ?_))))))
   ·refine ac (s.op==8) Ze (fun hc4=>?_) (fun hc4=>?_)
    ·refine aE 19 (dT (fuel:=12) 19 [0,1,2,3,4,5,6] [(0,.p b 0),(3,.p b1 0),(5,YL (Zy n.decls s.op s.num)),(6,.i L.vars.length),(7,.val (.pointer none)),(8,.i k),(9,.p b2 0),(10,.p c1 0),(45,ZT s.kids),(46,.i s.kids.length),(47,.i k),(57,.p c1 0),(61,Zq am),(63,Z1 s.args)] [4,9] [b,b1] (dx 7 (Zj (es:=Z6 s.args) (hv:=none) (j:=0) (sz:=1) (y:=.i x) kr om (ZH ha) rfl) (Zi (fuel:=7) 11 [8,9,10,11] (.n 65 (.i x) (.n 66 (.i L.vars.length) (.n 67 (YL (Zy n.decls s.op s.num)) (.n 68 (.i k) .r)))) (dx 12 (Zj (es:=XO (Zy n.decls s.op s.num)) (hv:=none) (j:=(k:Int)) (sz:=1) (y:=Z1 mk) kr om (KS hmk) rfl) (Zi (fuel:=4) 6 [13,14] (.n 71 (.agg [.i x,.i L.vars.length,Z1 mk,.b false]) .r) (Zm 15 (dc 15 [] [] [] (Z73 am (Arm.mk x (L.vars.length:Int) mk false)) ?_)))))))
     rintro _ _ ⟨rfl,rfl⟩
     refine Zi (fuel:=1) 3 [16,17] (.n 74 (.p c1 3) .r) (Zm 18 (dS 18 0 [] [] c1 3 [Zq (am++[(Arm.mk x (L.vars.length:Int) mk false)])] [Z3 n.decls,Zh n,Z1 ln,Zq am,.h wa1,.h wb1,.h wc1] [Z3 n.decls,Zh n,Z1 ln,Zq (am++[(Arm.mk x (L.vars.length:Int) mk false)]),.h wa1,.h wb1,.h wc1] (de ?_)))
     exact ⟨_,_,⟨rfl,rfl⟩,(wk [0,0,0,0,0,0,0,0,0,0] fl (e:=(ro (ls:=[Z3 n.decls,Zh n,Z1 ln,Zq (am++[(Arm.mk x (L.vars.length:Int) mk false)]),.h wa1,.h wb1,.h wc1]) (by rw [V6,Z8 ‹s.op=8›,hgx]) (rc (rc (rc (rc (rc (rc (rc (rc (rc rz))))))))))))⟩
    refine ak ?_
    exact ⟨_,_,⟨rfl,rfl⟩,(wk [0,0,0,0,0,0,0,0,0,0] fl (e:=(ro (ls:=[Z3 n.decls,Zh n,Z1 ln,Zq am,.h wa1,.h wb1,.h wc1]) (by rw [V6,Z4 ‹¬s.op=8›]) (rc (rc (rc (rc (rc (rc (rc (rc (rc rz))))))))))))⟩
   rintro F h ⟨rfl,rfl⟩
   refine aq (ar (ir 2 [(0,.p b 0),(3,.p b1 0),(5,YL (Zy n.decls s.op s.num)),(6,.i L.vars.length),(7,.val (.pointer none)),(9,.p b2 0),(10,.p c1 0),(45,ZT s.kids),(46,.i s.kids.length),(47,.i k),(75,YL (Zy n.decls s.op s.num)),(76,.i k)] (Zf (Zj (es:=XO (Zy n.decls s.op s.num)) (hv:=none) (j:=(k:Int)) (sz:=1) (y:=Z1 mk) kr om (KS hmk) rfl) (Z0 1 (.n 78 (Z1 mk) .r) (iw (ZD mk) (Z0 1 (.n 80 (.i 0) .r) (ie (ab 2 (al (fun m F h=>∃(j:Nat) (L3:XG) (ka:Hd) (kb:Hd) (kc:Hd),(j<=mk.length)/\(LLen L3)/\(L3.vars.length=L.vars.length+j)/\(TW L3 (gI s.args 0) (mk.drop j)=Xr n.decls L s.op s.num s.args k)/\F=[(0,.p b 0),(3,.p b1 0),(5,YL (Zy n.decls s.op s.num)),(6,.i L.vars.length),(7,.val (.pointer none)),(9,.p b2 0),(10,.p c1 0),(45,ZT s.kids),(46,.i s.kids.length),(47,.i k),(78,Z1 mk),(79,.i mk.length),(80,.i j)]/\h=[.obj c1 [Z3 n.decls,Zh n,Z1 ln,Zq (V6 L am s mk),.h ka,.h kb,.h kc],.obj b [Z3 n.decls,Zh n,Z1 ln,Zq am,.h ga,.h gb,.h gc],rV ga L.vars,rV gb L.own,rV gc L.tok,.obj b2 (YY ke),.obj b1 (ZE s),rV ka L3.vars,rV kb L3.own,rV kc L3.tok]/\m=mk.length-j) _ _ _ ⟨0,(Qb n L s k),wa1,wb1,wc1,ob,(Zkd hlk),(by rw [Jk];rfl),(by rw [VR];exact Zkc hop hmk),rfl,rfl,rfl⟩ (wk [0,3,3,3,3,3,3,0,0,0] (fq (fq (fq (fc (x:=.i 0) li fl)))) (e:=(rc (rc (rc (rc (rc (rc (rc (rv (xs:=L.vars) (by first|rw [Jk]|rw [Z1d]|rw [Z1e]) (rv (xs:=L.own) (by first|rw [Jk]|rw [Z1d]|rw [Z1e]) (rv (xs:=L.tok) (by first|rw [Jk]|rw [Z1d]|rw [Z1e]) rz)))))))))))) ?_)))))))))
   rintro m F h ⟨j,L3,ka,kb,kc,c1_0,c1_1,c1_2,c1_3,rfl,rfl,rfl⟩
   refine ar (Z0 1 (.n 81 (.b (decide ((j:Int)<(mk.length:Int)))) .r) (ie (aq (ac (decide ((j:Int)<(mk.length:Int))) dq (fun hc5=>?_) (fun hc5=>?_)))))
   ·obtain ⟨xm,hxm⟩:=Zl (xs:=mk) (j:=j) om
    refine ak (aq (ab 3 (ar (Zf (Zj (es:=Z6 mk) (hv:=none) (j:=(j:Int)) (sz:=1) (y:=.i xm) kr om (ZH hxm) rfl) (Z0 2 (.n 12 (.i xm) .r) (ie (az (Z0 2 (.n 84 (.p c1 0) (.n 85 (.i xm) .r)) (ic [0,6,6,6] (Z0e c1 ka kb kc n L3 ln (V6 L am s mk) xm 0 (hlk:=c1_1)) ?_)))))))))
    rintro _ _ ⟨wa2,wb2,wc2,rfl⟩
    refine ie (az (ia (((j+1:Nat):Int)) (((j:Int))+(1)) (Z0 1 (.n 80 (.i (j+1:Nat)) (.p (.p (.d (.d (.d (.p (.d (.w (.w (.w .z))))))))))) (ie ?_))))
    exact ⟨_,_,_,ob,⟨j+1,(L3.grow xm 0 (gI s.args 0)),wa2,wb2,wc2,ob,(LLen.grow c1_1),(by simp [Led.grow];omega),(by rw [Zu hxm,TW] at c1_3;exact c1_3),rfl,rfl,rfl⟩,(wk [0,3,3,3,3,3,3,0,0,0] (fq (fq (fq (fc (x:=.i (j+1:Nat)) li fl)))) (e:=(rc (rc (rc (rc (rc (rc (rc (rv (xs:=(L3.grow xm 0 (-1)).vars) ob (rv (xs:=(L3.grow xm 0 (-1)).own) ob (rv (xs:=(L3.grow xm 0 (-1)).tok) ob rz))))))))))))⟩
   have hE:L3=Xr n.decls L s.op s.num s.args k:=by rw [<-c1_3,Ye om];rfl
   have hL3v:L3.vars=L.vars++mk:=by rw [hE];exact hK.2
   have hL3l:L3.vars.length=L.vars.length+mk.length:=by rw [hL3v,ZC]
   refine ax 2 (aq (ar (Za 3 (.n 88 (.p c1 0) (.n 90 (ZX ke.steps) .r)) [5] [b2] (ic [0,6,6,6] (ih ke.steps c1 ka kb kc L3 (V6 L am s mk) q vs ob (by rw [hE];exact hK.1) (by rw [hE];exact hak) (by rw [hL3v];exact hvs) (by rw [hL3v];exact Z2r hnn (Zct hty hmk)) om om hsrr) ?_))))
   rintro _ _ (⟨wa3,wb3,wc3,M'1,rfl,rfl,hp3⟩|⟨rfl,rfl,hp4⟩)
   ·have hP:=hp3
    have kx:=Z5z hn (by rw [hE];exact hK.1) hq.1 (by rw [hE];exact hak) (by rw [hL3v];exact hvs) hP
    have kl:=kx.1.len
    have hm1:(YI M'1 ke.result).own.length=vs.length:=by rw [Z4g.1,kl.own,kx.2.1]
    have hm2:(YI M'1 ke.result).tok.length=vs.length:=by rw [Z4g.2.1,kl.tok,kx.2.1]
    refine Za 5 (.n 93 (.b false) (.n 94 (.p c1 0) (.n 95 (Zx ke) (.n 96 (.i L.vars.length) .r)))) [8] [b2] (ic [0,0,0,0] (Z76 c1 wa3 wb3 wc3 n M'1 ln (V6 L am s mk) ke L.vars.length (hlk:=kl) (hlb:=(by rw [kx.2.1];omega)) (hm:=(by rw [kx.2.1];omega)) (hr:=(by rw [kx.2.1];omega)) (hq:=(fun y hy=>by have h1:=kx.1.nn y hy;have h2:=kx.1.bd y hy;omega))) ?_)
    rintro _ _ (⟨rfl,rfl,hp5⟩|⟨rfl,rfl,hp6⟩)
    ·have hB:=hp5
     rw [<-Z61 (f:=WE L.vars.length ke.result) hP,hE,<-To] at hB
     refine Z0 2 (.n 99 (.b false) .r) (ie (YA (ak (ab 4 (ar (Z0 1 (.n 101 (.val (.pointer none)) .r) (iQ true (Z0 1 (.n 100 (.b true) .r) (ie (X8 (az (Z0 2 (.n 7 (.p c1 0) (.k (.q 102 (.k (.k (.q 97 (.w (.q 91 (.w (.k (.k (.k (.d .r))))))))))))) (ie (az (ia (((k+1:Nat):Int)) (((k:Int))+(1)) (Z0 1 (.n 47 (.i (k+1:Nat)) (.p (.k (.d (.d (.d (.d (.d (.d (.d (.d (.d (.d (.d (.d (.d (.w (.d (.d (.k (.k .z))))))))))))))))))))) (ie ?_)))))))))))))))))
     exact ⟨_,_,_,ob,(.inr ⟨k+1,c1,wa3,wb3,wc3,(YI M'1 ke.result),(V6 L am s mk),om,(by subst c0_0;have e:=U6 (hkd.symm.trans hke);subst e;exact hB),om,(by subst c0_0;rfl),rfl,rfl,rfl⟩),(wk [0,0,0,0,0,0,0,0,1] (fq (fw (fr (fc (x:=.i (k+1:Nat)) li fl)))))⟩
    have hB:=hp6
    rw [<-Z61 (f:=WE L.vars.length ke.result) hP,hE,<-To] at hB
    refine Z0 2 (.n 99 (.b true) .r) (ie (X8 (ar (ir 1 [(4,.b false)] (ie ?_)))))
    exact Z5 (r1 [] (.inr ⟨rfl,rfl,(by subst c0_0;have e:=U6 (hkd.symm.trans hke);subst e;rw [hgo,hB];rfl)⟩))
   have hB:Xv n ln (Xr n.decls L s.op s.num s.args k) L.vars.length ke=none:=by rw [To,<-hE,hp4];rfl
   refine Z0 8 (.n 99 (.b true) .r) (ie (X8 (ar (ir 1 [(4,.b false)] (ie ?_)))))
   exact Z5 (r1 [] (.inr ⟨rfl,rfl,(by subst c0_0;have e:=U6 (hkd.symm.trans hke);subst e;rw [hgo,hB];rfl)⟩))
  exact absurd hk2 om
 refine ar (ir 1 [(0,.p b 0),(3,.p b1 0),(5,YL (Zy n.decls s.op s.num)),(6,.i L.vars.length),(7,.p c0 0),(45,ZT s.kids),(46,.i s.kids.length),(47,.i k),(48,.b (decide ((k:Int)<(s.kids.length:Int))))] (ie (aq (ac (decide ((k:Int)<(s.kids.length:Int))) dq (fun hc6=>?_) (fun hc6=>?_)))))
 ·obtain ⟨ke,hke⟩:=Zl (xs:=s.kids) (j:=k) om
  obtain ⟨mk,hmk⟩:=Zl (xs:=Zy n.decls s.op s.num) (j:=k) om
  have hK:=JS hk hq.1 hf hop hmk
  have hmk3:=Z0d hdk hmk
  have hks:=UN hke
  have hbt:=hk3 k ke mk hke hmk
  obtain ⟨vs,rt,hvs,hres,hrt⟩:=QF hbt
  have hri:=Tn hres
  have hsrr:UF ke.steps:=by
   have h:=Z40 hr2.2 hke
   rwa [Block.rng_eq] at h
  have hbz:=ke.sz_eq
  have hak:=Z72 hn har hlk hop (by rw [hgx];exact hx) hmk
  have hsl:=Z34 hvs
  rw [ZC] at hsl
  have hkl:=Zcs (L:=L) (am:=am) (s:=s) (m:=mk)
  refine ak (aq (ab 1 (ar (Z0 1 (.n 49 (.i k) .r) (Zf (Zj (es:=Xw s.kids) (hv:=none) (j:=(k:Int)) (sz:=2) (y:=Zx ke) kr om (WY hke) rfl) (Z0 1 (.n 51 (Zx ke) .r) (iA [nl,.i 0] ?_)))))))
  intro b3
  refine Z0 1 (.n 8 (.i k) .r) (iS 0 b3 0 (YY ke) [nl,.i 0] (YY ke) (ie (ar (Z0 1 (.n 52 (.p b 0) .r) (ic [5,5,5,5] (Zcz b ga gb gc n L ln am) ?_)))))
  rintro _ _ ⟨c2,wa4,wb4,wc4,rfl,rfl⟩
  refine Z0 1 (.n 10 (.p c2 0) .r) (ie (aq (ar (Za 3 (.n 56 (.b (s.op==8)) .r) [13] [b1] (ie (Ug (fun F h=>F=[(0,.p b 0),(3,.p b1 0),(5,YL (Zy n.decls s.op s.num)),(6,.i L.vars.length),(7,.p c0 0),(8,.i k),(9,.p b3 0),(10,.p c2 0),(45,ZT s.kids),(46,.i s.kids.length),(47,.i k)]/\h=[.obj c2 [Z3 n.decls,Zh n,Z1 ln,Zq (V6 L am s mk),.h wa4,.h wb4,.h wc4],rV wa4 L.vars,rV wb4 L.own,rV wc4 L.tok,.obj b [Z3 n.decls,Zh n,Z1 ln,Zq am,.h ga,.h gb,.h gc],rV ga L.vars,rV gb L.own,rV gc L.tok,.obj b3 (YY ke),.obj c0 [Z3 n.decls,Zh n,Z1 ln,Zq aO,.h ua,.h ub,.h uc],rV ua O.vars,rV ub O.own,rV uc O.tok,.obj b1 (ZE s)]) ?_ ?_))))))
  ·refine ac (s.op==8) Ze (fun hc7=>?_) (fun hc7=>?_)
   ·refine aE 19 (dT (fuel:=12) 19 [0,1,2,3,4,5,6] [(0,.p b 0),(3,.p b1 0),(5,YL (Zy n.decls s.op s.num)),(6,.i L.vars.length),(7,.p c0 0),(8,.i k),(9,.p b3 0),(10,.p c2 0),(45,ZT s.kids),(46,.i s.kids.length),(47,.i k),(57,.p c2 0),(61,Zq am),(63,Z1 s.args)] [4,13] [b,b1] (dx 7 (Zj (es:=Z6 s.args) (hv:=none) (j:=0) (sz:=1) (y:=.i x) kr om (ZH ha) rfl) (Zi (fuel:=7) 11 [8,9,10,11] (.n 65 (.i x) (.n 66 (.i L.vars.length) (.n 67 (YL (Zy n.decls s.op s.num)) (.n 68 (.i k) .r)))) (dx 12 (Zj (es:=XO (Zy n.decls s.op s.num)) (hv:=none) (j:=(k:Int)) (sz:=1) (y:=Z1 mk) kr om (KS hmk) rfl) (Zi (fuel:=4) 6 [13,14] (.n 71 (.agg [.i x,.i L.vars.length,Z1 mk,.b false]) .r) (Zm 15 (dc 15 [] [] [] (Z73 am (Arm.mk x (L.vars.length:Int) mk false)) ?_)))))))
    rintro _ _ ⟨rfl,rfl⟩
    refine Zi (fuel:=1) 3 [16,17] (.n 74 (.p c2 3) .r) (Zm 18 (dS 18 0 [] [] c2 3 [Zq (am++[(Arm.mk x (L.vars.length:Int) mk false)])] [Z3 n.decls,Zh n,Z1 ln,Zq am,.h wa4,.h wb4,.h wc4] [Z3 n.decls,Zh n,Z1 ln,Zq (am++[(Arm.mk x (L.vars.length:Int) mk false)]),.h wa4,.h wb4,.h wc4] (de ?_)))
    exact ⟨_,_,⟨rfl,rfl⟩,(wk [0,0,0,0,0,0,0,0,0,0,0,0,0,0] fl (e:=(ro (ls:=[Z3 n.decls,Zh n,Z1 ln,Zq (am++[(Arm.mk x (L.vars.length:Int) mk false)]),.h wa4,.h wb4,.h wc4]) (by rw [V6,Z8 ‹s.op=8›,hgx]) (rc (rc (rc (rc (rc (rc (rc (rc (rc (rc (rc (rc (rc rz))))))))))))))))⟩
   refine ak ?_
   exact ⟨_,_,⟨rfl,rfl⟩,(wk [0,0,0,0,0,0,0,0,0,0,0,0,0,0] fl (e:=(ro (ls:=[Z3 n.decls,Zh n,Z1 ln,Zq am,.h wa4,.h wb4,.h wc4]) (by rw [V6,Z4 ‹¬s.op=8›]) (rc (rc (rc (rc (rc (rc (rc (rc (rc (rc (rc (rc (rc rz))))))))))))))))⟩
  rintro F h ⟨rfl,rfl⟩
  refine aq (ar (ir 2 [(0,.p b 0),(3,.p b1 0),(5,YL (Zy n.decls s.op s.num)),(6,.i L.vars.length),(7,.p c0 0),(9,.p b3 0),(10,.p c2 0),(45,ZT s.kids),(46,.i s.kids.length),(47,.i k),(75,YL (Zy n.decls s.op s.num)),(76,.i k)] (Zf (Zj (es:=XO (Zy n.decls s.op s.num)) (hv:=none) (j:=(k:Int)) (sz:=1) (y:=Z1 mk) kr om (KS hmk) rfl) (Z0 1 (.n 78 (Z1 mk) .r) (iw (ZD mk) (Z0 1 (.n 80 (.i 0) .r) (ie (ab 2 (al (fun m F h=>∃(j:Nat) (L3:XG) (ka:Hd) (kb:Hd) (kc:Hd),(j<=mk.length)/\(LLen L3)/\(L3.vars.length=L.vars.length+j)/\(TW L3 (gI s.args 0) (mk.drop j)=Xr n.decls L s.op s.num s.args k)/\F=[(0,.p b 0),(3,.p b1 0),(5,YL (Zy n.decls s.op s.num)),(6,.i L.vars.length),(7,.p c0 0),(9,.p b3 0),(10,.p c2 0),(45,ZT s.kids),(46,.i s.kids.length),(47,.i k),(78,Z1 mk),(79,.i mk.length),(80,.i j)]/\h=[.obj c2 [Z3 n.decls,Zh n,Z1 ln,Zq (V6 L am s mk),.h ka,.h kb,.h kc],.obj b [Z3 n.decls,Zh n,Z1 ln,Zq am,.h ga,.h gb,.h gc],rV ga L.vars,rV gb L.own,rV gc L.tok,.obj b3 (YY ke),.obj c0 [Z3 n.decls,Zh n,Z1 ln,Zq aO,.h ua,.h ub,.h uc],rV ua O.vars,rV ub O.own,rV uc O.tok,.obj b1 (ZE s),rV ka L3.vars,rV kb L3.own,rV kc L3.tok]/\m=mk.length-j) _ _ _ ⟨0,(Qb n L s k),wa4,wb4,wc4,ob,(Zkd hlk),(by rw [Jk];rfl),(by rw [VR];exact Zkc hop hmk),rfl,rfl,rfl⟩ (wk [0,3,3,3,3,3,3,3,3,3,3,0,0,0] (fq (fq (fq (fc (x:=.i 0) li fl)))) (e:=(rc (rc (rc (rc (rc (rc (rc (rc (rc (rc (rc (rv (xs:=L.vars) (by first|rw [Jk]|rw [Z1d]|rw [Z1e]) (rv (xs:=L.own) (by first|rw [Jk]|rw [Z1d]|rw [Z1e]) (rv (xs:=L.tok) (by first|rw [Jk]|rw [Z1d]|rw [Z1e]) rz)))))))))))))))) ?_)))))))))
  rintro m F h ⟨j,L3,ka,kb,kc,c1_0,c1_1,c1_2,c1_3,rfl,rfl,rfl⟩
  refine ar (Z0 1 (.n 81 (.b (decide ((j:Int)<(mk.length:Int)))) .r) (ie (aq (ac (decide ((j:Int)<(mk.length:Int))) dq (fun hc8=>?_) (fun hc8=>?_)))))
  ·obtain ⟨xm,hxm⟩:=Zl (xs:=mk) (j:=j) om
   refine ak (aq (ab 3 (ar (Zf (Zj (es:=Z6 mk) (hv:=none) (j:=(j:Int)) (sz:=1) (y:=.i xm) kr om (ZH hxm) rfl) (Z0 2 (.n 12 (.i xm) .r) (ie (az (Z0 2 (.n 84 (.p c2 0) (.n 85 (.i xm) .r)) (ic [0,10,10,10] (Z0e c2 ka kb kc n L3 ln (V6 L am s mk) xm 0 (hlk:=c1_1)) ?_)))))))))
   rintro _ _ ⟨wa5,wb5,wc5,rfl⟩
   refine ie (az (ia (((j+1:Nat):Int)) (((j:Int))+(1)) (Z0 1 (.n 80 (.i (j+1:Nat)) (.p (.p (.d (.d (.d (.p (.d (.w (.w (.w .z))))))))))) (ie ?_))))
   exact ⟨_,_,_,ob,⟨j+1,(L3.grow xm 0 (gI s.args 0)),wa5,wb5,wc5,ob,(LLen.grow c1_1),(by simp [Led.grow];omega),(by rw [Zu hxm,TW] at c1_3;exact c1_3),rfl,rfl,rfl⟩,(wk [0,3,3,3,3,3,3,3,3,3,3,0,0,0] (fq (fq (fq (fc (x:=.i (j+1:Nat)) li fl)))) (e:=(rc (rc (rc (rc (rc (rc (rc (rc (rc (rc (rc (rv (xs:=(L3.grow xm 0 (-1)).vars) ob (rv (xs:=(L3.grow xm 0 (-1)).own) ob (rv (xs:=(L3.grow xm 0 (-1)).tok) ob rz))))))))))))))))⟩
  have hE:L3=Xr n.decls L s.op s.num s.args k:=by rw [<-c1_3,Ye om];rfl
  have hL3v:L3.vars=L.vars++mk:=by rw [hE];exact hK.2
  have hL3l:L3.vars.length=L.vars.length+mk.length:=by rw [hL3v,ZC]
  refine ax 2 (aq (ar (Za 3 (.n 88 (.p c2 0) (.n 90 (ZX ke.steps) .r)) [5] [b3] (ic [0,10,10,10] (ih ke.steps c2 ka kb kc L3 (V6 L am s mk) q vs ob (by rw [hE];exact hK.1) (by rw [hE];exact hak) (by rw [hL3v];exact hvs) (by rw [hL3v];exact Z2r hnn (Zct hty hmk)) om om hsrr) ?_))))
  rintro _ _ (⟨wa6,wb6,wc6,M'2,rfl,rfl,hp7⟩|⟨rfl,rfl,hp8⟩)
  ·have hP:=hp7
   have kx:=Z5z hn (by rw [hE];exact hK.1) hq.1 (by rw [hE];exact hak) (by rw [hL3v];exact hvs) hP
   have kl:=kx.1.len
   have hm1:(YI M'2 ke.result).own.length=vs.length:=by rw [Z4g.1,kl.own,kx.2.1]
   have hm2:(YI M'2 ke.result).tok.length=vs.length:=by rw [Z4g.2.1,kl.tok,kx.2.1]
   refine Za 5 (.n 93 (.b false) (.n 94 (.p c2 0) (.n 95 (Zx ke) (.n 96 (.i L.vars.length) .r)))) [8] [b3] (ic [0,0,0,0] (Z76 c2 wa6 wb6 wc6 n M'2 ln (V6 L am s mk) ke L.vars.length (hlk:=kl) (hlb:=(by rw [kx.2.1];omega)) (hm:=(by rw [kx.2.1];omega)) (hr:=(by rw [kx.2.1];omega)) (hq:=(fun y hy=>by have h1:=kx.1.nn y hy;have h2:=kx.1.bd y hy;omega))) ?_)
   rintro _ _ (⟨rfl,rfl,hp9⟩|⟨rfl,rfl,hp10⟩)
   ·have hB:=hp9
    rw [<-Z61 (f:=WE L.vars.length ke.result) hP,hE,<-To] at hB
    refine Z0 2 (.n 99 (.b false) .r) (ie (YA (ak (ab 4 (ar (Z0 1 (.n 101 (.p c0 0) .r) (iQ false (Z0 1 (.n 100 (.b false) .r) (ie (YA (aD 31 (ZI (fuel:=26) 31 [0,1,2,3,4] (.n 108 (.h wb6) (.n 109 (.i L.vars.length) .r)) [0] [c2] (dx 5 (Td 2 wb6 ((YI M'2 ke.result).own) L.vars.length) (ZI (fuel:=20) 25 [6,7,8,9,10] (.n 114 (.h ub) (.n 115 (.i L.vars.length) .r)) [9] [c0] (dx 11 (Td 11 ub O.own L.vars.length) (Zm 12 (Vs 12 [2,10] [] [] [rV wb6 ((YI M'2 ke.result).own),rV ub O.own] (Z00 (((YI M'2 ke.result).own).take L.vars.length) (O.own.take L.vars.length)) cl0 (gC (v:=wb6) (ys:=(YI M'2 ke.result).own) 0 L.vars.length (gC (v:=ub) (ys:=O.own) 1 L.vars.length gN)) (WS (WS Vx)) ?_)))))))))))))))))
    rintro _ _ ⟨rfl,rfl⟩
    refine Ke [(0,.p b 0),(3,.p b1 0),(5,YL (Zy n.decls s.op s.num)),(6,.i L.vars.length),(7,.p c0 0),(45,ZT s.kids),(46,.i s.kids.length),(47,.i k),(104,.b ((!(decide ((((YI M'2 ke.result).own).take L.vars.length)=(O.own.take L.vars.length))))||(!(decide ((((YI M'2 ke.result).tok).take L.vars.length)=(O.tok.take L.vars.length))))))] [rV wb6 ((YI M'2 ke.result).own),rV ub O.own,.obj c2 [Z3 n.decls,Zh n,Z1 ln,Zq (V6 L am s mk),.h wa6,.h wb6,.h wc6],rV wa6 ((YI M'2 ke.result).vars),rV wc6 ((YI M'2 ke.result).tok),.obj b [Z3 n.decls,Zh n,Z1 ln,Zq am,.h ga,.h gb,.h gc],rV ga L.vars,rV gb L.own,rV gc L.tok,.obj b3 (YY ke),.obj c0 [Z3 n.decls,Zh n,Z1 ln,Zq aO,.h ua,.h ub,.h uc],rV ua O.vars,rV uc O.tok,.obj b1 (ZE s)] ?_ ?_
    ·refine dt (fuel:=16) 18 [13,14] [(0,.p b 0),(3,.p b1 0),(5,YL (Zy n.decls s.op s.num)),(6,.i L.vars.length),(7,.p c0 0),(10,.p c2 0),(45,ZT s.kids),(46,.i s.kids.length),(47,.i k),(119,.b (!(decide ((((YI M'2 ke.result).own).take L.vars.length)=(O.own.take L.vars.length)))))] (db (b:=(!(decide ((((YI M'2 ke.result).own).take L.vars.length)=(O.own.take L.vars.length))))) 119 (fun hb2=>?_) (fun hb2=>?_))
     ·have hp11:¬((((YI M'2 ke.result).own).take L.vars.length)=(O.own.take L.vars.length)):=((ZP dq)).1 hb2
      refine Zi (fuel:=0) 16 [15,16,17,18,19,20,21,22,23,24,25,26,27,28,29,30] (.n 104 (.b true) (.d (.w (.k (.d (.k (.k (.k .z)))))))) (de ?_)
      exact wk [0,0,0,0,0,0,0,0,0,0,0,0,0,0] (fq (fq (fc (x:=.b true) (lb (by simp only [hb2];rfl)) fl)))
     have hp12:¬(¬((((YI M'2 ke.result).own).take L.vars.length)=(O.own.take L.vars.length))):=Zv (ZP dq) hb2
     refine ZI (fuel:=11) 16 [15,16,17,18,19] (.n 123 (.h wc6) (.n 124 (.i L.vars.length) (.w (.k (.k (.d (.k (.k (.k .z))))))))) [2] [c2] (dx 20 (Td 4 wc6 ((YI M'2 ke.result).tok) L.vars.length) (ZI (fuel:=5) 10 [21,22,23,24,25] (.n 129 (.h uc) (.n 130 (.i L.vars.length) .r)) [10] [c0] (dx 26 (Td 12 uc O.tok L.vars.length) (Zm 27 (Vs 27 [4,11] [] [] [rV wc6 ((YI M'2 ke.result).tok),rV uc O.tok] (Z00 (((YI M'2 ke.result).tok).take L.vars.length) (O.tok.take L.vars.length)) cl0 (gC (v:=wc6) (ys:=(YI M'2 ke.result).tok) 0 L.vars.length (gC (v:=uc) (ys:=O.tok) 1 L.vars.length gN)) (WS (WS Vx)) ?_)))))
     rintro _ _ ⟨rfl,rfl⟩
     refine Zi (fuel:=0) 3 [28,29,30] (.n 104 (.b (!(decide ((((YI M'2 ke.result).tok).take L.vars.length)=(O.tok.take L.vars.length))))) .r) (de ?_)
     exact wk [2,2,2,2,0,1,1,1,1,1,1,1,0,0] (fq (fq (fc (x:=.b (!(decide ((((YI M'2 ke.result).tok).take L.vars.length)=(O.tok.take L.vars.length))))) (lb (by simp only [hb2];rfl)) fl)))
    refine ac ((!(decide ((((YI M'2 ke.result).own).take L.vars.length)=(O.own.take L.vars.length))))||(!(decide ((((YI M'2 ke.result).tok).take L.vars.length)=(O.tok.take L.vars.length))))) (p:=(¬((((YI M'2 ke.result).own).take L.vars.length)=(O.own.take L.vars.length)))∨(¬((((YI M'2 ke.result).tok).take L.vars.length)=(O.tok.take L.vars.length)))) (Zz (ZP dq) (ZP dq)) (fun hc9=>?_) (fun hc9=>?_)
    ·refine ar (ir 1 [(4,.b false)] (ie ?_))
     exact Z5 (r1 [] (.inr ⟨rfl,rfl,(by rw [hgo,d0_1];exact Z2q (by rw [<-d0_3,Z2m hke,hB];exact Zj0 (hc9.imp (fun h g=>h g.symm) (fun h g=>h g.symm))))⟩))
    refine ak (az (ia (((k+1:Nat):Int)) (((k:Int))+(1)) (ir 1 [(0,.p b 0),(3,.p b1 0),(5,YL (Zy n.decls s.op s.num)),(6,.i L.vars.length),(7,.p c0 0),(45,ZT s.kids),(46,.i s.kids.length),(47,.i (k+1:Nat))] (ie ?_))))
    exact ⟨_,_,_,ob,(.inr ⟨k+1,c0,ua,ub,uc,O,aO,om,d0_1,d0_2,(by rw [Z2m hke,hB,Zj2 (fun z=>hc9 (z.imp (fun h g=>h g.symm) (fun h g=>h g.symm)))] at d0_3;exact d0_3),rfl,rfl,rfl⟩),(wk [10,10,1,9,4,4,4,4,5] (fq (fw (fr (fc (x:=.i (k+1:Nat)) li fl)))))⟩
   have hB:=hp10
   rw [<-Z61 (f:=WE L.vars.length ke.result) hP,hE,<-To] at hB
   refine Z0 2 (.n 99 (.b true) .r) (ie (X8 (ar (ir 1 [(4,.b false)] (ie ?_)))))
   exact Z5 (r1 [] (.inr ⟨rfl,rfl,(by rw [hgo,d0_1];exact Z2q (by rw [<-d0_3,Z2m hke,hB];rfl))⟩))
  have hB:Xv n ln (Xr n.decls L s.op s.num s.args k) L.vars.length ke=none:=by rw [To,<-hE,hp8];rfl
  refine Z0 8 (.n 99 (.b true) .r) (ie (X8 (ar (ir 1 [(4,.b false)] (ie ?_)))))
  exact Z5 (r1 [] (.inr ⟨rfl,rfl,(by rw [hgo,d0_1];exact Z2q (by rw [<-d0_3,Z2m hke,hB];rfl))⟩))
 refine ax 0 (aD 22 (ZI (fuel:=15) 22 [0,1,2,3,4,5,6] (.n 136 (.p b 0) (.n 137 (.p b 0) (.n 141 (.h ub) (.n 142 (.i L.vars.length) .r)))) [0] [c0] (dx 7 (Td 2 ub O.own L.vars.length) (ZI (fuel:=9) 14 [9,10,11,12,13] (.n 148 (.h uc) (.n 149 (.i L.vars.length) .r)) [0] [c0] (dx 14 (Td 3 uc O.tok L.vars.length) (Zm 8 (Vs 8 [2] [0] [c0] [rV ub O.own] (Z1y (O.own.take L.vars.length)) Qm (gC (v:=ub) (ys:=O.own) 0 L.vars.length gN) (WS Vx) ?_)))))))
 rintro _ _ ⟨v2,rfl,rfl⟩
 refine Zm 15 (Vs 15 [4] [] [] [rV uc O.tok] (Z1y (O.tok.take L.vars.length)) Qm (gC (v:=uc) (ys:=O.tok) 0 L.vars.length gN) (WS Vx) ?_)
 rintro _ _ ⟨v3,rfl,rfl⟩
 refine Zi (fuel:=4) 6 [16,17] (.n 153 (.p b 5) .r) (Zm 18 (dS 18 6 [] [] b 5 [.h v2] [Z3 n.decls,Zh n,Z1 ln,Zq am,.h ga,.h gb,.h gc] [Z3 n.decls,Zh n,Z1 ln,Zq am,.h ga,.h v2,.h gc] (Zi (fuel:=1) 3 [19,20] (.n 155 (.p b 6) .r) (Zm 21 (dS 21 0 [] [] b 6 [.h v3] [Z3 n.decls,Zh n,Z1 ln,Zq am,.h ga,.h v2,.h gc] [Z3 n.decls,Zh n,Z1 ln,Zq am,.h ga,.h v2,.h v3] (de (ar (ir 1 [(4,.b true)] (ie ?_)))))))))
 exact Z5 (r1 [0,6,2,0] (.inl ⟨ga,v2,v3,(Led.mk L.vars (O.own.take L.vars.length) L.par L.con L.fst (O.tok.take L.vars.length)),rfl,rfl,(by rw [hgo,d0_1];exact Zhc (by rw [<-d0_3,Ye om];rfl))⟩) (eq:=(rc (rv (xs:=L.vars) ob (rv (xs:=(O.own.take L.vars.length)) ob (rv (xs:=(O.tok.take L.vars.length)) ob rz))))))
theorem Z8u (n:Normal) (us:List Int) (s:Step) (hn:NOk n) (hty:NTy n) (hnn:∀t∈us,0<=t) (hb:us.length+4*s.sz<=1000000000) (hr:s.rng):Zd Tryz.prog 119 [.agg [Z3 n.decls,Zh n],Z1 us,ZN s] [] (fun r h=>∃(t:Int),r=.tup [.i t,.b (decide (0<=Zp n us s))]/\h=[]/\(¬Y2 s.op=true->0<=Zp n us s->t=Zp n us s)):=
 Zg2 n us s hn hty hnn hb hr fun b us2 _ h2 h3 h4=>Zfv n us2 b hn hty h4 h2 h3
theorem Zmr (b:Nat) (ga:Hd) (gb:Hd) (gc:Hd) (n:Normal) (L:XG) (ln:List Int) (am:List Arm) (s:Step) (q:Int) (hn:NOk n:=by exact ob) (hty:NTy n:=by exact ob) (hlt:Jz n:=by exact ob) (hk:LOk n.decls L q:=by exact ob) (har:ArmR n.decls L am:=by exact ob) (hln:ln.length<=4294967296:=by exact ob) (ht:0<=Zp n L.vars s:=by exact ob) (hnn:∀t∈L.vars,0<=t) (hb:L.vars.length+am.length+4*s.sz<=900000000:=by exact ob) (hq:0<=q/\q+4*s.sz<=999999980:=by exact ob) (hr:s.rng:=by exact ob) (ih:∀(ys:List Step) (c:Nat) (ra:Hd) (rb:Hd) (rc:Hd) (M:XG) (a2:List Arm) (p:Int) (vs:List Int),(ZR ys<s.sz)->(LOk n.decls M p)->(ArmR n.decls M a2)->(X7 n ys M.vars=some vs)->(∀t∈M.vars,0<=t)->(M.vars.length+a2.length+4*ZR ys<=900000000)->(0<=p/\p+4*ZR ys<=999999980)->(UF ys)->Zd Tryz.prog 85 [.p c 0,ZX ys] [.obj c [Z3 n.decls,Zh n,Z1 ln,Zq a2,.h ra,.h rb,.h rc],rV ra M.vars,rV rb M.own,rV rc M.tok] (fun r h=>(∃(wa:Hd) (wb:Hd) (wc:Hd) (M':XG),r=.b true/\h=[.obj c [Z3 n.decls,Zh n,Z1 ln,Zq a2,.h wa,.h wb,.h wc],rV wa M'.vars,rV wb M'.own,rV wc M'.tok]/\Xz n ln M ys=some M')∨(r=.b false/\h=[]/\Xz n ln M ys=none))):Zd Tryz.prog 122 [.p b 0,ZN s] [.obj b [Z3 n.decls,Zh n,Z1 ln,Zq am,.h ga,.h gb,.h gc],rV ga L.vars,rV gb L.own,rV gc L.tok] (fun r h=>(∃(wa:Hd) (wb:Hd) (wc:Hd) (L':XG),r=.b true/\h=[.obj b [Z3 n.decls,Zh n,Z1 ln,Zq am,.h wa,.h wb,.h wc],rV wa L'.vars,rV wb L'.own,rV wc L'.tok]/\Vc n ln L s=some L')∨(r=.b false/\h=[]/\Vc n ln L s=none)):=by
 have hlk:=hk.len
 obtain ⟨e1,e2,e3,e4,e5⟩:=hk.len
 have hf:=TG ht
 have hkz:=UO s
 have haz:=TR s
 have hlh:=Zu1 hlt ht
 refine enter Tryz.func122 kr (n:=58) kr kr (ar (iA (ZE s) ?_))
 intro b1
 refine ir 1 [(0,.p b 0),(3,.p b1 0)] (ie (aq (ab 0 (ar (Za 2 (.n 9 (.i s.op) .r) [0] [b1] (ic [] (Z4w s.op) ?_))))))
 rintro _ _ ⟨rfl,rfl⟩
 refine Z0 1 (.n 7 (.b (Y2 s.op)) .r) (ie (ac (Y2 s.op) Iff.rfl (fun hc1=>?_) (fun hc1=>?_)))
 ·obtain ⟨x,hxa⟩:=hf.one (.inr (.inr (by simpa [Y2] using hc1)))
  have ha:s.args[0]? = some x:=by rw [hxa];rfl
  have hx:=hf.args x (by rw [hxa];simp)
  have hgx:=QO ha
  have hal:=(Yg.1 ha).1
  refine aD 9 (dT (fuel:=4) 9 [0,1,2,3,4] [(11,.p b 0),(13,.i s.op),(15,Z1 s.args)] [0,0] [b1,b1] (dx 5 (Zj (es:=Z6 s.args) (hv:=none) (j:=0) (sz:=1) (y:=.i x) kr om (ZH ha) rfl) (Zi (fuel:=2) 3 [6] (.n 17 (.i x) .r) (Zm 7 (dc 7 [1,1,1,1] [] [] (Zmp b ga gb gc n L ln am s.op x q) ?_)))))
  rintro _ _ (⟨L'1,rfl,rfl,hp1⟩|⟨rfl,rfl,hp2⟩)
  ·refine dt (fuel:=0) 1 [8] [(4,.b true)] (de ?_)
   exact Z5 (r1 [0,0,0,0] (.inl ⟨ga,gb,gc,L'1,rfl,rfl,(by rw [Zkf hc1 hgx];exact hp1)⟩))
  refine dt (fuel:=0) 1 [8] [(4,.b false)] (de ?_)
  exact Z5 (r1 [] (.inr ⟨rfl,rfl,(by rw [Zkf hc1 hgx];exact hp2)⟩))
 refine ar (YV 8 [(0,.p b 0),(3,.p b1 0),(27,.b ((s.op==7)||(s.op==8)))] [.obj b1 (ZE s),.obj b [Z3 n.decls,Zh n,Z1 ln,Zq am,.h ga,.h gb,.h gc],rV ga L.vars,rV gb L.own,rV gc L.tok] ?_ (fun hj1=>?_))
 ·refine ir 1 [(0,.p b 0),(3,.p b1 0),(19,.b ((s.op==7)||(s.op==8)))] (ie (ac ((s.op==7)||(s.op==8)) (p:=(s.op=7)∨(s.op=8)) (Zz Ze Ze) (fun hc2=>?_) (fun hc2=>?_)))
  ·refine ar (Za 2 (.n 28 (.p b 0) (.n 29 (ZN s) .r)) [0] [b1] (ic [1,1,1,1] (Zmn b ga gb gc n L ln am s q (hnn:=ob) (ih:=ih)) ?_))
   rintro _ _ (⟨wa1,wb1,wc1,L'2,rfl,rfl,hp3⟩|⟨rfl,rfl,hp4⟩)
   ·have hP:=(Z2v (n:=n) (ln:=ln) (L:=L) hc2).trans hp3
    obtain ⟨kx,hxv⟩:=J8 hn hk hq.1 hf hP
    refine Z0 1 (.n 31 (.b false) .r) (ie (YA (ak (aD 15 (ZI (fuel:=6) 15 [0,1,2,3,4,5,6,7,8] (.n 44 (.agg [Z3 n.decls,Zh n]) (.n 48 (.h wa1) (.n 49 (ZN s) .r))) [0,0,4] [b,b,b1] (Zm 9 (Vs 9 [1] [] [] [rV wa1 L'2.vars] (Z8u n L'2.vars s ob ob (by rw [hxv];exact hnn) (by rw [hxv];omega) ob) clT (gS (gL (v:=wa1) 0 (gS gN))) (WS Vx) ?_)))))))
    rintro _ _ ⟨t1,rfl,rfl,hp5⟩
    rw [hxv] at hp5
    have hte:=hp5 hc1 ht
    refine Zi (fuel:=0) 5 [10,11,12,13,14] (.n 5 (.i t1) .r) (de (ar (ir 3 [(53,.p b 0),(54,.i t1),(55,.i t1)] (iI t1 1 (ic [1,0,0,0] (Z0e b wa1 wb1 wc1 n L'2 ln am t1 (min t1 1) (hlb:=(by rw [hxv];omega)) (hlk:=kx.len)) ?_)))))
    rintro _ _ ⟨wa2,wb2,wc2,rfl⟩
    refine ie (ar (ir 1 [(4,.b true)] (ie ?_)))
    exact Z5 (r1 [0,0,0,0] (.inl ⟨wa2,wb2,wc2,(L'2.grow t1 (min t1 1) (-1)),rfl,rfl,(Zb3 hP ht hc1 hte)⟩))
   have hP:=(Z2v (n:=n) (ln:=ln) (L:=L) hc2).trans hp4
   refine Z0 1 (.n 31 (.b true) .r) (ie (X8 (ar (ir 1 [(4,.b false)] (ie ?_)))))
   exact Z5 (r1 [] (.inr ⟨rfl,rfl,(Zkg hP)⟩))
  refine ar (Za 2 (.n 34 (.i s.op) .r) [0] [b1] (ic [] (Zfy s.op) ?_))
  rintro _ _ ⟨rfl,rfl⟩
  refine Z0 1 (.n 32 (.b (VW s.op)) .r) (ie (ac (VW s.op) Iff.rfl (fun hc3=>?_) (fun hc3=>?_)))
  ·refine ar (Za 2 (.n 36 (.p b 0) (.n 37 (ZN s) .r)) [0] [b1] (ic [1,1,1,1] (Zmo b ga gb gc n L ln am s q (hlt:=hlh)) ?_))
   rintro _ _ (⟨L'3,rfl,rfl,hp6⟩|⟨rfl,rfl,hp7⟩)
   ·have hP:=(Z9q (n:=n) (ln:=ln) (L:=L) hc1 hc2).trans hp6
    obtain ⟨kx,hxv⟩:=J8 hn hk hq.1 hf hP
    refine Z0 1 (.n 39 (.b false) .r) (ie (YA (ak (aD 15 (ZI (fuel:=6) 15 [0,1,2,3,4,5,6,7,8] (.n 44 (.agg [Z3 n.decls,Zh n]) (.n 48 (.h ga) (.n 49 (ZN s) .r))) [0,0,4] [b,b,b1] (Zm 9 (Vs 9 [1] [] [] [rV ga L'3.vars] (Z8u n L'3.vars s ob ob (by rw [hxv];exact hnn) (by rw [hxv];omega) ob) clT (gS (gL (v:=ga) 0 (gS gN))) (WS Vx) ?_)))))))
    rintro _ _ ⟨t2,rfl,rfl,hp8⟩
    rw [hxv] at hp8
    have hte:=hp8 hc1 ht
    refine Zi (fuel:=0) 5 [10,11,12,13,14] (.n 5 (.i t2) .r) (de (ar (ir 3 [(53,.p b 0),(54,.i t2),(55,.i t2)] (iI t2 1 (ic [1,0,0,0] (Z0e b ga gb gc n L'3 ln am t2 (min t2 1) (hlb:=(by rw [hxv];omega)) (hlk:=kx.len)) ?_)))))
    rintro _ _ ⟨wa3,wb3,wc3,rfl⟩
    refine ie (ar (ir 1 [(4,.b true)] (ie ?_)))
    exact Z5 (r1 [0,0,0,0] (.inl ⟨wa3,wb3,wc3,(L'3.grow t2 (min t2 1) (-1)),rfl,rfl,(Zb3 hP ht hc1 hte)⟩))
   have hP:=(Z9q (n:=n) (ln:=ln) (L:=L) hc1 hc2).trans hp7
   refine Z0 1 (.n 39 (.b true) .r) (ie (X8 (ar (ir 1 [(4,.b false)] (ie ?_)))))
   exact Z5 (r1 [] (.inr ⟨rfl,rfl,(Zkg hP)⟩))
  have hP:=Zvq (ln:=ln) hc1 hc2 hc3 ht
  have hxv:L.vars=L.vars:=rfl
  have kx:=hk
  refine ak (aD 15 (ZI (fuel:=6) 15 [0,1,2,3,4,5,6,7,8] (.n 44 (.agg [Z3 n.decls,Zh n]) (.n 48 (.h ga) (.n 49 (ZN s) .r))) [1,1,0] [b,b,b1] (Zm 9 (Vs 9 [2] [] [] [rV ga L.vars] (Z8u n L.vars s ob ob (by rw [hxv];exact hnn) (by rw [hxv];omega) ob) clT (gS (gL (v:=ga) 0 (gS gN))) (WS Vx) ?_))))
  rintro _ _ ⟨t3,rfl,rfl,hp9⟩
  rw [hxv] at hp9
  have hte:=hp9 hc1 ht
  refine Zi (fuel:=0) 5 [10,11,12,13,14] (.n 5 (.i t3) .r) (de (ar (ir 3 [(53,.p b 0),(54,.i t3),(55,.i t3)] (iI t3 1 (ic [2,0,1,1] (Z0e b ga gb gc n L ln am t3 (min t3 1) (hlb:=(by rw [hxv];omega)) (hlk:=kx.len)) ?_)))))
  rintro _ _ ⟨wa4,wb4,wc4,rfl⟩
  refine ie (ar (ir 1 [(4,.b true)] (ie ?_)))
  exact Z5 (r1 [0,0,0,0] (.inl ⟨wa4,wb4,wc4,(L.grow t3 (min t3 1) (-1)),rfl,rfl,(Zb3 hP ht hc1 hte)⟩))
 refine iR 4 [(0,.p b 0),(3,.p b1 0),(23,.b (s.op==7))] [0] [b1] (ib (b:=(s.op==7)) 23 (fun hb1=>?_) (fun hb1=>?_))
 ·have hp10:s.op=7:=(Ze).1 hb1
  refine Z0 4 (.n 27 (.b true) (.d (.k (.k .z)))) ?_
  exact ZL (wk [0,0,0,0,0] (fw (fc (x:=.b true) (lb (by simp only [hb1];rfl)) fl))) hj1
 have hp11:¬(s.op=7):=Zv Ze hb1
 refine Za 4 (.n 27 (.b (s.op==8)) (.d (.k (.k .z)))) [0] [b1] ?_
 exact ZL (wk [0,0,0,0,0] (fw (fc (x:=.b (s.op==8)) (lb (by simp only [hb1];rfl)) fl))) hj1
theorem Zmu (n:Normal) (ln:List Int) (hn:NOk n) (hty:NTy n) (hlt:Jz n) (hln:ln.length<=4294967296) (m:Nat):∀(ys:List Step) (c:Nat) (ra:Hd) (rb:Hd) (rc:Hd) (M:XG) (a2:List Arm) (p:Int) (vs:List Int),(ZR ys<m)->(LOk n.decls M p)->(ArmR n.decls M a2)->(X7 n ys M.vars=some vs)->(∀t∈M.vars,0<=t)->(M.vars.length+a2.length+4*ZR ys<=900000000)->(0<=p/\p+4*ZR ys<=999999980)->(UF ys)->Zd Tryz.prog 85 [.p c 0,ZX ys] [.obj c [Z3 n.decls,Zh n,Z1 ln,Zq a2,.h ra,.h rb,.h rc],rV ra M.vars,rV rb M.own,rV rc M.tok] (fun r h=>(∃(wa:Hd) (wb:Hd) (wc:Hd) (M':XG),r=.b true/\h=[.obj c [Z3 n.decls,Zh n,Z1 ln,Zq a2,.h wa,.h wb,.h wc],rV wa M'.vars,rV wb M'.own,rV wc M'.tok]/\Xz n ln M ys=some M')∨(r=.b false/\h=[]/\Xz n ln M ys=none)):=by
 induction m with
 | zero=>intro ys c ra rb rc M a2 p vs h;omega
 | succ m ih=>
  intro ys c ra rb rc M a2 p vs h hk har ht hnn hb hp hr
  exact Zmt c ra rb rc n M ln a2 ys p vs hn hk har ht hnn hb hp hr fun s2 c ra rb rc M a2 p h1 hk har ht hnn hb hp hr=>Zmr c ra rb rc n M ln a2 s2 p hn hty hlt hk har hln ht hnn hb hp hr
   fun ys c ra rb rc M a2 p vs h2 hk har ht hnn hb hp hr=>ih ys c ra rb rc M a2 p vs om hk har ht hnn hb hp hr
theorem Zms (c:Nat) (ra:Hd) (rb:Hd) (rc:Hd) (n:Normal) (M:XG) (ln:List Int) (a2:List Arm) (ys:List Step) (p:Int) (vs:List Int) (hn:NOk n) (hty:NTy n) (hlt:Jz n) (hln:ln.length<=4294967296) (hk:LOk n.decls M p) (har:ArmR n.decls M a2) (ht:X7 n ys M.vars=some vs) (hnn:∀t∈M.vars,0<=t) (hb:M.vars.length+a2.length+4*ZR ys<=900000000) (hp:0<=p/\p+4*ZR ys<=999999980) (hr:UF ys):Zd Tryz.prog 85 [.p c 0,ZX ys] [.obj c [Z3 n.decls,Zh n,Z1 ln,Zq a2,.h ra,.h rb,.h rc],rV ra M.vars,rV rb M.own,rV rc M.tok] (fun r h=>(∃(wa:Hd) (wb:Hd) (wc:Hd) (M':XG),r=.b true/\h=[.obj c [Z3 n.decls,Zh n,Z1 ln,Zq a2,.h wa,.h wb,.h wc],rV wa M'.vars,rV wb M'.own,rV wc M'.tok]/\Xz n ln M ys=some M')∨(r=.b false/\h=[]/\Xz n ln M ys=none)):=
 Zmu n ln hn hty hlt hln (ZR ys+1) ys c ra rb rc M a2 p vs om hk har ht hnn hb hp hr
theorem Zg0 (n:Normal) (hz:NSz n) (hs:XF n=true):Zd Tryz.prog 20 [ZJ n] [] (fun r h=>r=.tup [.agg [Z3 n.decls,Zh n],.b (XF n)]/\h=[]):=by
 refine (Zfz n hz).mono fun r h q=>?_
 rcases q with ⟨h1,h2,_⟩|⟨_,_,h3⟩
 ·exact ⟨h1,h2⟩
 ·rw [hs] at h3;cases h3
theorem Zmq (n:Normal) (f:Nat) (rt:Routine) (hn:NOk n:=by exact ob) (hz:NSz n:=by exact ob) (hs:XF n=true:=by exact ob) (hr:n.routines[f]? = some rt:=by exact ob):Zd Tryz.prog 84 [ZJ n,.i f] [] (fun r h=>∃(c:Nat) (wa:Hd) (wb:Hd) (wc:Hd),r=.p c 0/\h=[.obj c [Z3 n.decls,Zh n,Z1 rt.lent,Zq [],.h wa,.h wb,.h wc],rV wa ((XM rt).vars),rV wb ((XM rt).own),rV wc ((XM rt).tok)]):=by
 have hfl:=(Yg.1 hr).1
 have hpl:=hn.params_at hr
 have hll:=hn.lent_at hr
 refine enter Tryz.func84 kr (n:=58) kr kr (ar (iA (ZU n) ?_))
 intro b1
 refine ir 1 [(1,.i f),(2,.p b1 0)] (ie (ar (Za 1 (.n 11 (ZJ n) .r) [0] [b1] (ic [] (Zg0 n ob ob) ?_))))
 rintro _ _ ⟨rfl,rfl⟩
 refine Z0 3 (.n 13 (.agg [Z3 n.decls,Zh n]) (.n 14 (.b (XF n)) .r)) (iA [nl,nl] ?_)
 intro b2
 refine iS 0 b2 0 [Z3 n.decls,Zh n] [nl,nl] [Z3 n.decls,Zh n] (Z0 1 .r (ie (aD 10 (ZI (fuel:=6) 10 [0,1,2,3] (.n 15 (.agg [Z3 n.decls,Zh n]) (.n 17 (Yh n.routines) (.n 18 (.i f) .r))) [0,1] [b2,b1] (dx 4 (Zj (es:=WD n.routines) (hv:=none) (j:=(f:Int)) (sz:=5) (y:=Xc rt) kr om (VX hr) rfl) (Zi (fuel:=2) 5 [5,6,7] (.n 22 (.agg [Z3 n.decls,Zh n,Z1 rt.lent,nl,nl,nl,nl]) .r) (Zm 8 (dA 8 [] [] [Z3 n.decls,Zh n,Z1 rt.lent,nl,nl,nl,nl] ?_))))))))
 intro b3
 refine Kf (Zb7 0 b3 [Z3 n.decls,Zh n,Z1 rt.lent,nl,nl,nl,nl] [Z3 n.decls,Zh n,Z1 rt.lent,Zq [],.h hN,.h hN,.h hN] (.cons (lr _) (.cons (lr _) (.cons (lr _) (.cons (Zg.sl _ rfl) (.cons (Zg.hd (v:=hN)) (.cons (Zg.hd (v:=hN)) (.cons (Zg.hd (v:=hN)) .nil)))))))) (Kf (Qy) (Kf (Qy) (Kf (Qy) (Zi (fuel:=0) 1 [9] (.n 7 (.p b3 0) .r) (de (aq (ar (Za 3 (.n 25 (Yh n.routines) (.n 26 (.i f) .r)) [5] [b1] (Zf (Zj (es:=WD n.routines) (hv:=none) (j:=(f:Int)) (sz:=5) (y:=Xc rt) kr om (VX hr) rfl) (Z0 2 (.n 29 (Z1 rt.params) .r) (iw (ZD rt.params) (Z0 1 (.n 31 (.i 0) .r) (ie (ab 0 (al (fun m F h=>∃(k:Nat) (L2:XG) (ka:Hd) (kb:Hd) (kc:Hd),(k<=rt.params.length)/\(LLen L2)/\(L2.vars.length=k)/\(U3 rt.lent (rt.params.drop k) k L2=XM rt)/\F=[(7,.p b3 0),(29,Z1 rt.params),(30,.i rt.params.length),(31,.i k)]/\h=[.obj b3 [Z3 n.decls,Zh n,Z1 rt.lent,Zq [],.h ka,.h kb,.h kc],rV ka L2.vars,rV kb L2.own,rV kc L2.tok]/\m=rt.params.length-k) _ _ _ ⟨0,(Led.mk [] [] [] [] [] []),hN,hN,hN,ob,⟨rfl,rfl,rfl,rfl,rfl⟩,rfl,rfl,rfl,rfl,rfl⟩ (wk [3,0,0,0] (fw (fr (fc (x:=.i 0) li fl))) (e:=(rc (rv (xs:=[]) ob (rv (xs:=[]) ob (rv (xs:=[]) ob rz)))))) ?_)))))))))))))))
 rintro m F h ⟨k,L2,ka,kb,kc,c0_0,c0_1,c0_2,c0_3,rfl,rfl,rfl⟩
 refine ar (Z0 1 (.n 32 (.b (decide ((k:Int)<(rt.params.length:Int)))) .r) (ie (aq (ac (decide ((k:Int)<(rt.params.length:Int))) dq (fun hc1=>?_) (fun hc1=>?_)))))
 ·refine ak (aq (ab 1 (ar (Z0 1 (.n 33 (.i k) .r) ?_))))
  obtain ⟨x1,hx1⟩:=Zl (xs:=rt.params) (j:=k) om
  have hgl:(L2.grow x1 0 (-1)).own.length=k+1:=by simp [Led.grow,c0_1.own,c0_2]
  refine Zf (Zj (es:=Z6 rt.params) (hv:=none) (j:=(k:Int)) (sz:=1) (y:=.i x1) kr om (ZH hx1) rfl) (Z0 3 (.n 8 (.i k) (.n 9 (.i x1) .r)) (ie (ar (Z0 2 (.n 36 (.p b3 0) (.n 37 (.i x1) .r)) (ic [0,0,0,0] (Z0e b3 ka kb kc n L2 rt.lent [] x1 0) ?_)))))
  rintro _ _ ⟨wa1,wb1,wc1,rfl⟩
  refine ie (ar (Xl [(7,.p b3 0),(8,.i k),(29,Z1 rt.params),(30,.i rt.params.length),(31,.i k),(49,.b ((x1 != 0)&&(!(decide ((k:Int)∈rt.lent)))))] [.obj b3 [Z3 n.decls,Zh n,Z1 rt.lent,Zq [],.h wa1,.h wb1,.h wc1],rV wa1 ((L2.grow x1 0 (-1)).vars),rV wb1 ((L2.grow x1 0 (-1)).own),rV wc1 ((L2.grow x1 0 (-1)).tok)] ?_ ?_))
  ·refine ir 3 [(7,.p b3 0),(8,.i k),(29,Z1 rt.params),(30,.i rt.params.length),(31,.i k),(41,.b (x1 != 0))] (ib (b:=(x1 != 0)) 41 (fun hb1=>?_) (fun hb1=>?_))
   ·have hp1:x1≠0:=(Zw).1 hb1
    refine Za 5 (.n 45 (Z1 rt.lent) (.n 46 (.i k) (.w (.k (.k .z))))) [0] [b3] (ic [] (Zas rt.lent (k:Int)) ?_)
    rintro _ _ ⟨rfl,rfl⟩
    refine Z0 2 (.n 49 (.b (!(decide ((k:Int)∈rt.lent)))) .r) (ie ?_)
    exact wk [0,0,0,0] (fq (fr (fc (x:=.b (!(decide ((k:Int)∈rt.lent)))) (lb (by simp only [hb1];rfl)) fl)))
   have hp2:¬(x1≠0):=Zv Zw hb1
   refine Z0 8 (.n 49 (.b false) (.d (.w (.k .z)))) (ie ?_)
   exact wk [0,0,0,0] (fq (fr (fc (x:=.b false) (lb (by simp only [hb1];rfl)) fl)))
  refine ac ((x1 != 0)&&(!(decide ((k:Int)∈rt.lent)))) (p:=(x1≠0)/\(¬((k:Int)∈rt.lent))) (ZZ Zw (ZP dq)) (fun hc2=>?_) (fun hc2=>?_)
  ·refine az (iR 5 [(7,.p b3 0),(29,Z1 rt.params),(30,.i rt.params.length),(31,.i k),(53,.h wb1),(54,.i k)] [0] [b3] (Zf (Xb 2 wb1 ((L2.grow x1 0 (-1)).own) (k:Int) k) (iVS 2 wb1 ((L2.grow x1 0 (-1)).own) k 1 (ie (az (ia (((k+1:Nat):Int)) (((k:Int))+(1)) (Z0 1 (.n 31 (.i (k+1:Nat)) (.p (.p (.k (.k (.k .z)))))) (ie ?_))))))))
   exact ⟨_,_,_,ob,⟨k+1,(L2.grow x1 1 (-1)),wa1,wb1,wc1,ob,(LLen.grow c0_1),(by simp [Led.grow];omega),(by rw [Zu hx1,U3] at c0_3;first|(rw [Z8 (by assumption)] at c0_3;exact c0_3)|(rw [Z4 (by assumption)] at c0_3;exact c0_3)),rfl,rfl,rfl⟩,(wk [1,1,0,0] (fw (fr (fc (x:=.i (k+1:Nat)) li fl))) (e:=(rc (rv (xs:=(L2.grow x1 0 (-1)).vars) (by first|rfl|exact Za8 (by rw [c0_1.own,c0_2])) (rv (xs:=(((L2.grow x1 0 (-1)).own).set k 1)) (by first|rfl|exact Za8 (by rw [c0_1.own,c0_2])) (rv (xs:=(L2.grow x1 0 (-1)).tok) (by first|rfl|exact Za8 (by rw [c0_1.own,c0_2])) rz))))))⟩
  refine ak (az (ia (((k+1:Nat):Int)) (((k:Int))+(1)) (ir 1 [(7,.p b3 0),(29,Z1 rt.params),(30,.i rt.params.length),(31,.i (k+1:Nat))] (ie ?_))))
  exact ⟨_,_,_,ob,⟨k+1,(L2.grow x1 0 (-1)),wa1,wb1,wc1,ob,(LLen.grow c0_1),(by simp [Led.grow];omega),(by rw [Zu hx1,U3] at c0_3;first|(rw [Z8 (by assumption)] at c0_3;exact c0_3)|(rw [Z4 (by assumption)] at c0_3;exact c0_3)),rfl,rfl,rfl⟩,(wk [0,0,0,0] (fw (fr (fc (x:=.i (k+1:Nat)) li fl))))⟩
 refine ax 0 (ar (ir 2 [(4,.p b3 0)] (ie ?_)))
 have hNl:L2=XM rt:=by rw [<-c0_3,Ye om];rfl
 exact Z5 (r1 [0,0,0,0] ⟨b3,ka,kb,kc,rfl,rfl⟩ (eq:=(rc (rv (xs:=L2.vars) (by rw [hNl]) (rv (xs:=L2.own) (by rw [hNl]) (rv (xs:=L2.tok) (by rw [hNl]) rz))))))
theorem Zrs (n:Normal) (f:Nat) (rt:Routine) (hn:NOk n:=by exact ob) (hty:NTy n:=by exact ob) (hlt:Jz n:=by exact ob) (hz:NSz n:=by exact ob) (hs:XF n=true:=by exact ob) (hr:n.routines[f]? = some rt:=by exact ob) (ht:0<=ZF n rt.params rt.body:=by exact ob) (hrr:rt.body.rng:=by exact ob):Zd Tryz.prog 46 [ZJ n,.i f] [] (fun r h=>r=.b (VU n rt)/\h=[]):=by
 have hfl:=(Yg.1 hr).1
 have hpl:=hn.params_at hr
 have hll:=hn.lent_at hr
 have hrm:=ZV hr
 have hbd:=hz.body rt hrm
 have hbz:=rt.body.sz_eq
 obtain ⟨hk,hkv⟩:=Z9g n.decls rt
 obtain ⟨vs,t0,hvs,hres,hrt⟩:=QF ht
 have hri:=Tn hres
 have hsl:=Z34 hvs
 rw [rt.body.rng_eq] at hrr
 refine enter Tryz.func46 kr (n:=25) kr kr (ar (iA (ZU n) ?_))
 intro b1
 refine ir 1 [(1,.i f),(2,.p b1 0)] (ie (ar (Za 2 (.n 7 (ZJ n) (.n 8 (.i f) .r)) [0] [b1] (ic [] (Zmq n f rt) ?_))))
 rintro _ _ ⟨c1,wa1,wb1,wc1,rfl,rfl⟩
 refine Z0 1 (.n 5 (.p c1 0) .r) (ie (ar (Za 3 (.n 11 (Yh n.routines) (.n 12 (.i f) .r)) [4] [b1] (Zf (Zj (es:=WD n.routines) (hv:=none) (j:=(f:Int)) (sz:=5) (y:=Xc rt) kr om (VX hr) rfl) (Z0 2 (.n 15 (Zx rt.body) .r) (iA [nl,.i 0] ?_))))))
 intro b2
 refine iS 0 b2 0 (YY rt.body) [nl,.i 0] (YY rt.body) (ie (ar (Za 3 (.n 16 (.p c1 0) (.n 18 (ZX rt.body.steps) .r)) [0] [b2] (ic [1,1,1,1] (Zms c1 wa1 wb1 wc1 n (XM rt) rt.lent [] rt.body.steps 1 vs ob ob ob ob hk (Z9f rt) (by rw [hkv];exact hvs) (by rw [hkv];exact hty.params rt hrm) (by rw [hkv,Yk];omega) ob ob) ?_))))
 rintro _ _ (⟨wa2,wb2,wc2,M'1,rfl,rfl,hp1⟩|⟨rfl,rfl,hp2⟩)
 ·have hP:=hp1
  have kx:=Z5z hn hk om (Z9f rt) (by rw [hkv];exact hvs) hP
  have kl:=kx.1.len
  refine iR 3 [(20,.b true),(21,.p c1 0),(22,Zx rt.body)] [4] [b2] (ic [0,0,0,0] (Z76 c1 wa2 wb2 wc2 n M'1 rt.lent [] rt.body 0 (hlk:=kl) (hlb:=(by rw [kx.2.1];omega)) (hr:=(by rw [kx.2.1];omega)) (hq:=(fun y hy=>by have h1:=kx.1.nn y hy;have h2:=kx.1.bd y hy;omega))) ?_)
  rintro _ _ (⟨rfl,rfl,hp3⟩|⟨rfl,rfl,hp4⟩)
  ·have hB:=hp3
   refine ir 2 [(4,.b true)] (ie ?_)
   exact Z5 (r2 [] [.b true] ⟨rfl,rfl⟩ (lb (by rw [Zin hP (by rw [kl.own,kl.tok]),hB];rfl)))
  have hB:=hp4
  refine ir 2 [(4,.b false)] (ie ?_)
  exact Z5 (r2 [] [.b false] ⟨rfl,rfl⟩ (lb (by rw [Zin hP (by rw [kl.own,kl.tok]),hB];rfl)))
 have hP:=hp2
 refine ir 6 [(4,.b false)] (ie ?_)
 exact Z5 (r2 [] [.b false] ⟨rfl,rfl⟩ (lb (by rw [Zwc hP])))
theorem Zrm (n:Normal) (hz:NSz n:=by exact ob) (hr:∀r∈n.routines,r.body.rng):Zd Tryz.prog 19 [ZJ n] [] (fun r h=>r=.b (Ws n)/\h=[]):=by
 have hzl:=hz.len
 refine enter Tryz.func19 kr (n:=18) kr kr (ar (iA (ZU n) ?_))
 intro b1
 refine ir 1 [(1,.p b1 0)] (ie (aq (ar (Za 1 (.n 4 (ZJ n) .r) [0] [b1] (ic [] (Zrp n (hr:=hr)) ?_)))))
 rintro _ _ ⟨rfl,rfl⟩
 refine Z0 1 (.n 6 (.b (!Vm n)) .r) (ie (ac (!Vm n) (p:=¬(Vm n=true)) (ZP Iff.rfl) (fun hc1=>?_) (fun hc1=>?_)))
 ·refine ar (ir 1 [(2,.b false)] (ie ?_))
  exact Z5 (r2 [] [.b false] ⟨rfl,rfl⟩ (lb (by first|rfl|omega|grind [Ws])))
 have hV:Vm n=true:=XE.1 hc1
 obtain ⟨hok,hall⟩:=Zbb hz hV
 have hsg:XF n=true:=by rw [Vm,YN] at hV;exact hV.1
 have hty:=Zhj hsg
 have hlt:=Zux hsg
 refine ak (aq (ar (Za 2 (.n 8 (Yh n.routines) .r) [0] [b1] (iw (VY n.routines) (Z0 1 (.n 10 (.i 0) .r) (ie (ab 0 (al (fun m F h=>∃(k:Nat),(k<=n.routines.length)/\(T2 n (n.routines.drop k)=T2 n n.routines)/\F=[(1,.p b1 0),(9,.i n.routines.length),(10,.i k)]/\h=[.obj b1 (ZU n)]/\m=n.routines.length-k) _ _ _ ⟨0,ob,ob,rfl,rfl,rfl⟩ (wk [0] (fw (fc (x:=.i 0) li fl))) ?_))))))))
 rintro m F h ⟨k,c0_0,c0_1,rfl,rfl,rfl⟩
 refine ar (Z0 1 (.n 11 (.b (decide ((k:Int)<(n.routines.length:Int)))) .r) (ie (aq (ac (decide ((k:Int)<(n.routines.length:Int))) dq (fun hc2=>?_) (fun hc2=>?_)))))
 ·obtain ⟨rt,hrt⟩:=Zl (xs:=n.routines) (j:=k) om
  have hrm:=ZV hrt
  refine ak (aq (ab 1 (ar (Z0 2 (.n 3 (.i k) .r) (ie (ar (Za 2 (.n 13 (ZJ n) (.n 14 (.i k) .r)) [0] [b1] (ic [] (Zrs n k rt (hr:=hrt) (ht:=(hall rt hrm)) (hrr:=(hr rt hrm))) ?_))))))))
  rintro _ _ ⟨rfl,rfl⟩
  refine Z0 1 (.n 16 (.b (!VU n rt)) .r) (ie (ac (!VU n rt) (p:=¬(VU n rt=true)) (ZP Iff.rfl) (fun hc3=>?_) (fun hc3=>?_)))
  ·refine ar (ir 1 [(2,.b false)] (ie ?_))
   rw [Zu hrt] at c0_1
   exact Z5 (r2 [] [.b false] ⟨rfl,rfl⟩ (lb (by first|rfl|omega|grind [T2,Ws])))
  refine ak (az (ia (((k+1:Nat):Int)) (((k:Int))+(1)) (Z0 1 (.n 10 (.i (k+1:Nat)) (.p (.d (.p (.d (.d (.d (.d (.k (.k .z)))))))))) (ie ?_))))
  have hdr:=Zu hrt
  exact ⟨_,_,_,ob,⟨k+1,ob,(by rw [hdr] at c0_1;clear hdr ;grind [T2]),rfl,rfl,rfl⟩,(wk [0] (fw (fc (x:=.i (k+1:Nat)) li fl)))⟩
 refine ax 0 (ar (ir 1 [(2,.b true)] (ie ?_)))
 try rw [Ye (xs:=n.routines) (k:=k) om] at c0_1
 exact Z5 (r2 [] [.b true] ⟨rfl,rfl⟩ (lb (by first|rfl|omega|grind [T2,Ws])))
theorem Z54 (xs:List Int) (left:Int) (hlf:0<=left/\left<=1048576:=by exact ob) (hl:xs.length<=9223372036854775807:=by exact ob):Zd Tryz.prog 66 [Z1 xs,.i left] [] (fun r h=>r=.i (Zo xs.length left)/\h=[]):=by
 refine enter Tryz.func66 kr (n:=12) kr kr (ar (ir 1 [(0,Z1 xs),(1,.i left)] (ie (ar (ir 2 [(5,.i left),(6,Z1 xs)] (iw (ZD xs) (ia ((left-(xs.length:Int))) ((left)-((xs.length:Int))) (ir 1 [(1,.i (left-(xs.length:Int)))] (ie (aq (ar (Z0 2 (.n 10 (.b (decide ((left-(xs.length:Int))<0))) .r) (ie (ac (decide ((left-(xs.length:Int))<0)) dq (fun hc1=>?_) (fun hc1=>?_)))))))))))))))
 ·refine ar (ir 1 [(4,.i (-1))] (ie ?_))
  exact Z5 (r2 [] [.i (-1)] ⟨rfl,rfl⟩ (li (by rw [Zo,Z8 om])))
 refine ak (ar (ir 2 [(4,.i (left-(xs.length:Int)))] (ie ?_)))
 exact Z5 (r2 [] [.i (left-(xs.length:Int))] ⟨rfl,rfl⟩ (li (by rw [Zo,Z4 om])))
theorem Zti (c:Con) (left:Int) (hlf:0<=left/\left<=1048576:=by exact ob) (hl:Vr c<=9223372036854775807:=by exact ob):Zd Tryz.prog 99 [Wm c,.i left] [] (fun r h=>r=.i (Zo (Vr c) left)/\h=[]):=by
 have hl2:=hl
 unfold Vr at hl2
 refine enter Tryz.func99 kr (n:=12) kr kr (ar (iA (UP c) ?_))
 intro b1
 refine ir 1 [(1,.i left),(2,.p b1 0)] (ie (ar (iR 3 [(6,Z1 c.fields),(7,.i left)] [0] [b1] (ic [] (Z54 c.fields left) ?_))))
 rintro _ _ ⟨rfl,rfl⟩
 refine ir 1 [(1,.i (Zo c.fields.length left))] (ie (aq (ar (Z0 2 (.n 10 (.b (decide ((Zo c.fields.length left)<0))) .r) (ie (ac (decide ((Zo c.fields.length left)<0)) dq (fun hc1=>?_) (fun hc1=>?_)))))))
 ·refine ar (ir 1 [(4,.i (-1))] (ie ?_))
  exact Z5 (r2 [] [.i (-1)] ⟨rfl,rfl⟩ (li (by rw [Vr];unfold Zo at *;split at hc1<;>omega)))
 refine ak (ar (ir 2 [(4,.i (Zo c.fields.length left))] (ie ?_)))
 exact Z5 (r2 [] [.i (Zo c.fields.length left)] ⟨rfl,rfl⟩ (li rfl))
theorem Zth (cs:List Con) (left:Int) (hlf:0<=left/\left<=1048576:=by exact ob) (hl:WC cs<=9223372036854775807:=by exact ob):Zd Tryz.prog 65 [Y8 cs,.i left] [] (fun r h=>r=.i (Zo (WC cs) left)/\h=[]):=by
 have hl2:=hl
 unfold WC at hl2
 refine enter Tryz.func65 kr (n:=27) kr kr (ar (ir 1 [(0,Y8 cs),(1,.i left)] (ie (ar (Z0 2 (.n 6 (.i left) (.n 7 (Y8 cs) .r)) (iw (Wc cs) (ia ((left-(cs.length:Int))) ((left)-((cs.length:Int))) (ir 1 [(0,Y8 cs),(1,.i (left-(cs.length:Int)))] (ie (aq (ar (Z0 2 (.n 11 (.b (decide ((left-(cs.length:Int))<0))) .r) (ie (ac (decide ((left-(cs.length:Int))<0)) dq (fun hc1=>?_) (fun hc1=>?_)))))))))))))))
 ·refine ar (ir 1 [(4,.i (-1))] (ie ?_))
  exact Z5 (r2 [] [.i (-1)] ⟨rfl,rfl⟩ (li (by rw [WC];exact Z3b hc1)))
 refine ak (aq (ar (Z0 1 (.n 5 (.i 0) .r) (ie (ab 0 (al (fun m F h=>∃(k:Nat) (lf:Int),(k<=cs.length)/\(0<=lf/\lf<=1048576)/\(Zo (U9 (cs.drop k)) lf=Zo (WC cs) left)/\F=[(0,Y8 cs),(1,.i lf),(5,.i k)]/\h=[]/\m=cs.length-k) _ _ _ ⟨0,(left-(cs.length:Int)),ob,om,(by rw [VR,WC];exact Z38 hc1),rfl,rfl,rfl⟩ (wk [] (fw (fc (x:=.i 0) li fl))) ?_))))))
 rintro m F h ⟨k,lf,c0_0,c0_1,c0_2,rfl,rfl,rfl⟩
 refine aq (ar (Z0 2 (.n 12 (.i k) (.n 13 (Y8 cs) .r)) (iw (Wc cs) (Z0 1 (.n 15 (.b (decide ((k:Int)<(cs.length:Int)))) .r) (ie (ac (decide ((k:Int)<(cs.length:Int))) dq (fun hc2=>?_) (fun hc2=>?_)))))))
 ·refine ak (aq (ab 1 (ar (Z0 2 (.n 18 (Y8 cs) (.n 19 (.i k) .r)) ?_))))
  obtain ⟨x1,hx1⟩:=Zl (xs:=cs) (j:=k) om
  have hcl:=Z42 hx1
  have hle:=KB (c:=Vr x1) c0_1.1
  refine Zf (Zj (es:=YH cs) (hv:=none) (j:=(k:Int)) (sz:=1) (y:=Wm x1) kr om (Qq hx1) rfl) (Z0 2 (.n 21 (Wm x1) (.n 22 (.i lf) .r)) (ic [] (Zti x1 lf) ?_))
  rintro _ _ ⟨rfl,rfl⟩
  refine ir 1 [(0,Y8 cs),(1,.i (Zo (Vr x1) lf)),(5,.i k)] (ie (ar (Z0 2 (.n 25 (.b (decide ((Zo (Vr x1) lf)<0))) .r) (ie (ac (decide ((Zo (Vr x1) lf)<0)) dq (fun hc3=>?_) (fun hc3=>?_))))))
  ·refine ar (ir 1 [(4,.i (-1))] (ie ?_))
   exact Z5 (r2 [] [.i (-1)] ⟨rfl,rfl⟩ (li (Z36 (Zdj hx1) hc3 c0_2)))
  refine ak (az (Z0 1 (.n 16 (.i k) .r) (ia (((k+1:Nat):Int)) (((k:Int))+(1)) (Z0 1 (.n 5 (.i (k+1:Nat)) (.p (.d (.d (.k (.k .z)))))) (ie ?_)))))
  exact ⟨_,_,_,ob,⟨k+1,(Zo (Vr x1) lf),ob,om,(Z3a (left:=0) (Zdj hx1) hc3 c0_2),rfl,rfl,rfl⟩,(wk [] (fw (fc (x:=.i (k+1:Nat)) li fl)))⟩
 refine ax 0 (ar (ir 2 [(4,.i lf)] (ie ?_)))
 exact Z5 (r2 [] [.i lf] ⟨rfl,rfl⟩ (li (Z37 (Zny om) c0_1.1 c0_2)))
theorem Ztk (d:Decl) (left:Int) (hlf:0<=left/\left<=1048576:=by exact ob) (hl:Wn d<=9223372036854775807:=by exact ob):Zd Tryz.prog 33 [Yw d,.i left] [] (fun r h=>r=.i (Zo (Wn d) left)/\h=[]):=by
 have hl2:=hl
 unfold Wn at hl2
 refine enter Tryz.func33 kr (n:=12) kr kr (ar (iA (Ys d) ?_))
 intro b1
 refine ir 1 [(1,.i left),(2,.p b1 0)] (ie (ar (iR 3 [(6,Y8 d.cons),(7,.i left)] [0] [b1] (ic [] (Zth d.cons left) ?_))))
 rintro _ _ ⟨rfl,rfl⟩
 refine ir 1 [(1,.i (Zo (WC d.cons) left))] (ie (aq (ar (Z0 2 (.n 10 (.b (decide ((Zo (WC d.cons) left)<0))) .r) (ie (ac (decide ((Zo (WC d.cons) left)<0)) dq (fun hc1=>?_) (fun hc1=>?_)))))))
 ·refine ar (ir 1 [(4,.i (-1))] (ie ?_))
  exact Z5 (r2 [] [.i (-1)] ⟨rfl,rfl⟩ (li (by rw [Wn];unfold Zo at *;split at hc1<;>omega)))
 refine ak (ar (ir 2 [(4,.i (Zo (WC d.cons) left))] (ie ?_)))
 exact Z5 (r2 [] [.i (Zo (WC d.cons) left)] ⟨rfl,rfl⟩ (li rfl))
theorem Ztj (cs:List Decl) (left:Int) (hlf:0<=left/\left<=1048576:=by exact ob) (hl:X1 cs<=9223372036854775807:=by exact ob):Zd Tryz.prog 13 [Z3 cs,.i left] [] (fun r h=>r=.i (Zo (X1 cs) left)/\h=[]):=by
 have hl2:=hl
 unfold X1 at hl2
 refine enter Tryz.func13 kr (n:=27) kr kr (ar (ir 1 [(0,Z3 cs),(1,.i left)] (ie (ar (Z0 2 (.n 6 (.i left) (.n 7 (Z3 cs) .r)) (iw (Wv cs) (ia ((left-(cs.length:Int))) ((left)-((cs.length:Int))) (ir 1 [(0,Z3 cs),(1,.i (left-(cs.length:Int)))] (ie (aq (ar (Z0 2 (.n 11 (.b (decide ((left-(cs.length:Int))<0))) .r) (ie (ac (decide ((left-(cs.length:Int))<0)) dq (fun hc1=>?_) (fun hc1=>?_)))))))))))))))
 ·refine ar (ir 1 [(4,.i (-1))] (ie ?_))
  exact Z5 (r2 [] [.i (-1)] ⟨rfl,rfl⟩ (li (by rw [X1];exact Z3b hc1)))
 refine ak (aq (ar (Z0 1 (.n 5 (.i 0) .r) (ie (ab 0 (al (fun m F h=>∃(k:Nat) (lf:Int),(k<=cs.length)/\(0<=lf/\lf<=1048576)/\(Zo (Uh (cs.drop k)) lf=Zo (X1 cs) left)/\F=[(0,Z3 cs),(1,.i lf),(5,.i k)]/\h=[]/\m=cs.length-k) _ _ _ ⟨0,(left-(cs.length:Int)),ob,om,(by rw [VR,X1];exact Z38 hc1),rfl,rfl,rfl⟩ (wk [] (fw (fc (x:=.i 0) li fl))) ?_))))))
 rintro m F h ⟨k,lf,c0_0,c0_1,c0_2,rfl,rfl,rfl⟩
 refine aq (ar (Z0 2 (.n 12 (.i k) (.n 13 (Z3 cs) .r)) (iw (Wv cs) (Z0 1 (.n 15 (.b (decide ((k:Int)<(cs.length:Int)))) .r) (ie (ac (decide ((k:Int)<(cs.length:Int))) dq (fun hc2=>?_) (fun hc2=>?_)))))))
 ·refine ak (aq (ab 1 (ar (Z0 2 (.n 18 (Z3 cs) (.n 19 (.i k) .r)) ?_))))
  obtain ⟨x1,hx1⟩:=Zl (xs:=cs) (j:=k) om
  have hcl:=Z47 hx1
  have hle:=KB (c:=Wn x1) c0_1.1
  refine Zf (Zj (es:=ZQ cs) (hv:=none) (j:=(k:Int)) (sz:=3) (y:=Yw x1) kr om (Wd hx1) rfl) (Z0 2 (.n 21 (Yw x1) (.n 22 (.i lf) .r)) (ic [] (Ztk x1 lf) ?_))
  rintro _ _ ⟨rfl,rfl⟩
  refine ir 1 [(0,Z3 cs),(1,.i (Zo (Wn x1) lf)),(5,.i k)] (ie (ar (Z0 2 (.n 25 (.b (decide ((Zo (Wn x1) lf)<0))) .r) (ie (ac (decide ((Zo (Wn x1) lf)<0)) dq (fun hc3=>?_) (fun hc3=>?_))))))
  ·refine ar (ir 1 [(4,.i (-1))] (ie ?_))
   exact Z5 (r2 [] [.i (-1)] ⟨rfl,rfl⟩ (li (Z36 (Zdn hx1) hc3 c0_2)))
  refine ak (az (Z0 1 (.n 16 (.i k) .r) (ia (((k+1:Nat):Int)) (((k:Int))+(1)) (Z0 1 (.n 5 (.i (k+1:Nat)) (.p (.d (.d (.k (.k .z)))))) (ie ?_)))))
  exact ⟨_,_,_,ob,⟨k+1,(Zo (Wn x1) lf),ob,om,(Z3a (left:=0) (Zdn hx1) hc3 c0_2),rfl,rfl,rfl⟩,(wk [] (fw (fc (x:=.i (k+1:Nat)) li fl)))⟩
 refine ax 0 (ar (ir 2 [(4,.i lf)] (ie ?_)))
 exact Z5 (r2 [] [.i lf] ⟨rfl,rfl⟩ (li (Z37 (Zon om) c0_1.1 c0_2)))
theorem Zzw (z:Nat) (cs:List Block) (left:Int) (hlf:0<=left/\left<=1048576:=by exact ob) (hl:Wt cs<=9223372036854775807:=by exact ob) (hz:Yx cs<=z:=by exact ob) (ih:∀(b2:Block) (left:Int),(b2.sz<=z)->(0<=left/\left<=1048576)->(b2.cst<=9223372036854775807)->Zd Tryz.prog 67 [Zx b2,.i left] [] (fun r h=>r=.i (Zo b2.cst left)/\h=[])):Zd Tryz.prog 157 [ZT cs,.i left] [] (fun r h=>r=.i (Zo (Wt cs) left)/\h=[]):=by
 have hl2:=hl
 unfold Wt at hl2
 refine enter Tryz.func157 kr (n:=27) kr kr (ar (ir 1 [(0,ZT cs),(1,.i left)] (ie (ar (Z0 2 (.n 6 (.i left) (.n 7 (ZT cs) .r)) (iw (VJ cs) (ia ((left-(cs.length:Int))) ((left)-((cs.length:Int))) (ir 1 [(0,ZT cs),(1,.i (left-(cs.length:Int)))] (ie (aq (ar (Z0 2 (.n 11 (.b (decide ((left-(cs.length:Int))<0))) .r) (ie (ac (decide ((left-(cs.length:Int))<0)) dq (fun hc1=>?_) (fun hc1=>?_)))))))))))))))
 ·refine ar (ir 1 [(4,.i (-1))] (ie ?_))
  exact Z5 (r2 [] [.i (-1)] ⟨rfl,rfl⟩ (li (by rw [Wt];exact Z3b hc1)))
 refine ak (aq (ar (Z0 1 (.n 5 (.i 0) .r) (ie (ab 0 (al (fun m F h=>∃(k:Nat) (lf:Int),(k<=cs.length)/\(0<=lf/\lf<=1048576)/\(Zo (Vq (cs.drop k)) lf=Zo (Wt cs) left)/\F=[(0,ZT cs),(1,.i lf),(5,.i k)]/\h=[]/\m=cs.length-k) _ _ _ ⟨0,(left-(cs.length:Int)),ob,om,(by rw [VR,Wt];exact Z38 hc1),rfl,rfl,rfl⟩ (wk [] (fw (fc (x:=.i 0) li fl))) ?_))))))
 rintro m F h ⟨k,lf,c0_0,c0_1,c0_2,rfl,rfl,rfl⟩
 refine aq (ar (Z0 2 (.n 12 (.i k) (.n 13 (ZT cs) .r)) (iw (VJ cs) (Z0 1 (.n 15 (.b (decide ((k:Int)<(cs.length:Int)))) .r) (ie (ac (decide ((k:Int)<(cs.length:Int))) dq (fun hc2=>?_) (fun hc2=>?_)))))))
 ·refine ak (aq (ab 1 (ar (Z0 2 (.n 18 (ZT cs) (.n 19 (.i k) .r)) ?_))))
  obtain ⟨x1,hx1⟩:=Zl (xs:=cs) (j:=k) om
  have hcl:=Z77 hx1
  have hsz:=Z0f hx1
  have hle:=KB (c:=x1.cst) c0_1.1
  refine Zf (Zj (es:=Xw cs) (hv:=none) (j:=(k:Int)) (sz:=2) (y:=Zx x1) kr om (WY hx1) rfl) (Z0 2 (.n 21 (Zx x1) (.n 22 (.i lf) .r)) (ic [] (ih x1 lf ob ob ob) ?_))
  rintro _ _ ⟨rfl,rfl⟩
  refine ir 1 [(0,ZT cs),(1,.i (Zo x1.cst lf)),(5,.i k)] (ie (ar (Z0 2 (.n 25 (.b (decide ((Zo x1.cst lf)<0))) .r) (ie (ac (decide ((Zo x1.cst lf)<0)) dq (fun hc3=>?_) (fun hc3=>?_))))))
  ·refine ar (ir 1 [(4,.i (-1))] (ie ?_))
   exact Z5 (r2 [] [.i (-1)] ⟨rfl,rfl⟩ (li (Z36 (Zd0 hx1) hc3 c0_2)))
  refine ak (az (Z0 1 (.n 16 (.i k) .r) (ia (((k+1:Nat):Int)) (((k:Int))+(1)) (Z0 1 (.n 5 (.i (k+1:Nat)) (.p (.d (.d (.k (.k .z)))))) (ie ?_)))))
  exact ⟨_,_,_,ob,⟨k+1,(Zo x1.cst lf),ob,om,(Z3a (left:=0) (Zd0 hx1) hc3 c0_2),rfl,rfl,rfl⟩,(wk [] (fw (fc (x:=.i (k+1:Nat)) li fl)))⟩
 refine ax 0 (ar (ir 2 [(4,.i lf)] (ie ?_)))
 exact Z5 (r2 [] [.i lf] ⟨rfl,rfl⟩ (li (Z37 (Zmw om) c0_1.1 c0_2)))
theorem Zzx (z:Nat) (s:Step) (left:Int) (hlf:0<=left/\left<=1048576:=by exact ob) (hl:s.cst<=9223372036854775807:=by exact ob) (hz:s.sz<=z+1:=by exact ob) (ih:∀(b2:Block) (left:Int),(b2.sz<=z)->(0<=left/\left<=1048576)->(b2.cst<=9223372036854775807)->Zd Tryz.prog 67 [Zx b2,.i left] [] (fun r h=>r=.i (Zo b2.cst left)/\h=[])):Zd Tryz.prog 131 [ZN s,.i left] [] (fun r h=>r=.i (Zo s.cst left)/\h=[]):=by
 have hse:=s.sz_eq
 have hce:=s.cst_eq
 have hle:=KB (c:=s.args.length) hlf.1
 have hbc:Wt s.kids=s.kids.length+Vq s.kids:=rfl
 refine enter Tryz.func131 kr (n:=18) kr kr (ar (iA (ZE s) ?_))
 intro b1
 refine ir 1 [(1,.i left),(2,.p b1 0)] (ie (ar (Za 3 (.n 6 (Z1 s.args) (.n 7 (.i left) .r)) [0] [b1] (ic [] (Z54 s.args left) ?_))))
 rintro _ _ ⟨rfl,rfl⟩
 refine ir 1 [(1,.i (Zo s.args.length left)),(2,.p b1 0)] (ie (aq (ar (Z0 2 (.n 10 (.b (decide ((Zo s.args.length left)<0))) .r) (ie (ac (decide ((Zo s.args.length left)<0)) dq (fun hc1=>?_) (fun hc1=>?_)))))))
 ·refine ar (ir 1 [(4,.i (-1))] (ie ?_))
  exact Z5 (r2 [] [.i (-1)] ⟨rfl,rfl⟩ (li (by rw [hce,Z39 hc1])))
 refine ak (ar (iR 3 [(12,ZT s.kids),(13,.i (Zo s.args.length left))] [0] [b1] (ic [] (Zzw z s.kids (Zo s.args.length left) (ih:=ih)) ?_)))
 rintro _ _ ⟨rfl,rfl⟩
 refine ir 1 [(1,.i (Zo (Wt s.kids) (Zo s.args.length left)))] (ie (aq (ar (Z0 2 (.n 16 (.b (decide ((Zo (Wt s.kids) (Zo s.args.length left))<0))) .r) (ie (ac (decide ((Zo (Wt s.kids) (Zo s.args.length left))<0)) dq (fun hc2=>?_) (fun hc2=>?_)))))))
 ·refine ar (ir 1 [(4,.i (-1))] (ie ?_))
  exact Z5 (r2 [] [.i (-1)] ⟨rfl,rfl⟩ (li (by have h:=Z35 (a:=s.args.length) (b:=Wt s.kids) (left:=left) om;rw [hce,<-hbc,<-h];unfold Zo at *;split at hc2<;>omega)))
 refine ak (ar (ir 2 [(4,.i (Zo (Wt s.kids) (Zo s.args.length left)))] (ie ?_)))
 exact Z5 (r2 [] [.i (Zo (Wt s.kids) (Zo s.args.length left))] ⟨rfl,rfl⟩ (li (by have h:=Z35 (a:=s.args.length) (b:=Wt s.kids) (left:=left) om;rw [hce,<-hbc,<-h])))
theorem Zzy (z:Nat) (cs:List Step) (left:Int) (hlf:0<=left/\left<=1048576:=by exact ob) (hl:WT cs<=9223372036854775807:=by exact ob) (hz:ZR cs<=z+1:=by exact ob) (ih:∀(b2:Block) (left:Int),(b2.sz<=z)->(0<=left/\left<=1048576)->(b2.cst<=9223372036854775807)->Zd Tryz.prog 67 [Zx b2,.i left] [] (fun r h=>r=.i (Zo b2.cst left)/\h=[])):Zd Tryz.prog 100 [ZX cs,.i left] [] (fun r h=>r=.i (Zo (WT cs) left)/\h=[]):=by
 have hl2:=hl
 unfold WT at hl2
 refine enter Tryz.func100 kr (n:=27) kr kr (ar (ir 1 [(0,ZX cs),(1,.i left)] (ie (ar (Z0 2 (.n 6 (.i left) (.n 7 (ZX cs) .r)) (iw (UK cs) (ia ((left-(cs.length:Int))) ((left)-((cs.length:Int))) (ir 1 [(0,ZX cs),(1,.i (left-(cs.length:Int)))] (ie (aq (ar (Z0 2 (.n 11 (.b (decide ((left-(cs.length:Int))<0))) .r) (ie (ac (decide ((left-(cs.length:Int))<0)) dq (fun hc1=>?_) (fun hc1=>?_)))))))))))))))
 ·refine ar (ir 1 [(4,.i (-1))] (ie ?_))
  exact Z5 (r2 [] [.i (-1)] ⟨rfl,rfl⟩ (li (by rw [WT];exact Z3b hc1)))
 refine ak (aq (ar (Z0 1 (.n 5 (.i 0) .r) (ie (ab 0 (al (fun m F h=>∃(k:Nat) (lf:Int),(k<=cs.length)/\(0<=lf/\lf<=1048576)/\(Zo (Vz (cs.drop k)) lf=Zo (WT cs) left)/\F=[(0,ZX cs),(1,.i lf),(5,.i k)]/\h=[]/\m=cs.length-k) _ _ _ ⟨0,(left-(cs.length:Int)),ob,om,(by rw [VR,WT];exact Z38 hc1),rfl,rfl,rfl⟩ (wk [] (fw (fc (x:=.i 0) li fl))) ?_))))))
 rintro m F h ⟨k,lf,c0_0,c0_1,c0_2,rfl,rfl,rfl⟩
 refine aq (ar (Z0 2 (.n 12 (.i k) (.n 13 (ZX cs) .r)) (iw (UK cs) (Z0 1 (.n 15 (.b (decide ((k:Int)<(cs.length:Int)))) .r) (ie (ac (decide ((k:Int)<(cs.length:Int))) dq (fun hc2=>?_) (fun hc2=>?_)))))))
 ·refine ak (aq (ab 1 (ar (Z0 2 (.n 18 (ZX cs) (.n 19 (.i k) .r)) ?_))))
  obtain ⟨x1,hx1⟩:=Zl (xs:=cs) (j:=k) om
  have hcl:=Za7 hx1
  have hsz:=Z32 hx1
  have hle:=KB (c:=x1.cst) c0_1.1
  refine Zf (Zj (es:=Wg cs) (hv:=none) (j:=(k:Int)) (sz:=5) (y:=ZN x1) kr om (T6 hx1) rfl) (Z0 2 (.n 21 (ZN x1) (.n 22 (.i lf) .r)) (ic [] (Zzx z x1 lf (ih:=ih)) ?_))
  rintro _ _ ⟨rfl,rfl⟩
  refine ir 1 [(0,ZX cs),(1,.i (Zo x1.cst lf)),(5,.i k)] (ie (ar (Z0 2 (.n 25 (.b (decide ((Zo x1.cst lf)<0))) .r) (ie (ac (decide ((Zo x1.cst lf)<0)) dq (fun hc3=>?_) (fun hc3=>?_))))))
  ·refine ar (ir 1 [(4,.i (-1))] (ie ?_))
   exact Z5 (r2 [] [.i (-1)] ⟨rfl,rfl⟩ (li (Z36 (Zj4 hx1) hc3 c0_2)))
  refine ak (az (Z0 1 (.n 16 (.i k) .r) (ia (((k+1:Nat):Int)) (((k:Int))+(1)) (Z0 1 (.n 5 (.i (k+1:Nat)) (.p (.d (.d (.k (.k .z)))))) (ie ?_)))))
  exact ⟨_,_,_,ob,⟨k+1,(Zo x1.cst lf),ob,om,(Z3a (left:=0) (Zj4 hx1) hc3 c0_2),rfl,rfl,rfl⟩,(wk [] (fw (fc (x:=.i (k+1:Nat)) li fl)))⟩
 refine ax 0 (ar (ir 2 [(4,.i lf)] (ie ?_)))
 exact Z5 (r2 [] [.i lf] ⟨rfl,rfl⟩ (li (Z37 (Zx5 om) c0_1.1 c0_2)))
theorem Zzu (z:Nat) (b:Block) (left:Int) (hlf:0<=left/\left<=1048576:=by exact ob) (hl:b.cst<=9223372036854775807:=by exact ob) (hz:b.sz<=z+1:=by exact ob) (ih:∀(b2:Block) (left:Int),(b2.sz<=z)->(0<=left/\left<=1048576)->(b2.cst<=9223372036854775807)->Zd Tryz.prog 67 [Zx b2,.i left] [] (fun r h=>r=.i (Zo b2.cst left)/\h=[])):Zd Tryz.prog 67 [Zx b,.i left] [] (fun r h=>r=.i (Zo b.cst left)/\h=[]):=by
 have hse:=b.sz_eq
 have hce:=b.cst_eq
 have hbc:WT b.steps=b.steps.length+Vz b.steps:=rfl
 refine enter Tryz.func67 kr (n:=12) kr kr (ar (iA (YY b) ?_))
 intro b1
 refine ir 1 [(1,.i left),(2,.p b1 0)] (ie (ar (iR 3 [(6,ZX b.steps),(7,.i left)] [0] [b1] (ic [] (Zzy z b.steps left (ih:=ih)) ?_))))
 rintro _ _ ⟨rfl,rfl⟩
 refine ir 1 [(1,.i (Zo (WT b.steps) left))] (ie (aq (ar (Z0 2 (.n 10 (.b (decide ((Zo (WT b.steps) left)<0))) .r) (ie (ac (decide ((Zo (WT b.steps) left)<0)) dq (fun hc1=>?_) (fun hc1=>?_)))))))
 ·refine ar (ir 1 [(4,.i (-1))] (ie ?_))
  exact Z5 (r2 [] [.i (-1)] ⟨rfl,rfl⟩ (li (by rw [hce,<-hbc];unfold Zo at *;split at hc1<;>omega)))
 refine ak (ar (ir 2 [(4,.i (Zo (WT b.steps) left))] (ie ?_)))
 exact Z5 (r2 [] [.i (Zo (WT b.steps) left)] ⟨rfl,rfl⟩ (li (by rw [hce,<-hbc])))
theorem Zzv (m:Nat):∀(b2:Block) (left:Int),(b2.sz<=m)->(0<=left/\left<=1048576)->(b2.cst<=9223372036854775807)->Zd Tryz.prog 67 [Zx b2,.i left] [] (fun r h=>r=.i (Zo b2.cst left)/\h=[]):=by
 induction m with
 | zero=>intro b left h;have:=b.sz_pos;omega
 | succ m ih=>intro b left h1 h2 h3;exact Zzu m b left h2 h3 h1 ih
theorem Zzt (b2:Block) (left:Int) (hlf:0<=left/\left<=1048576) (hl:b2.cst<=9223372036854775807):Zd Tryz.prog 67 [Zx b2,.i left] [] (fun r h=>r=.i (Zo b2.cst left)/\h=[]):=
 Zzv b2.sz b2 left (Yp _) hlf hl
theorem Ztn (rt:Routine) (left:Int) (hlf:0<=left/\left<=1048576:=by exact ob) (hl:Wy rt<=9223372036854775807:=by exact ob):Zd Tryz.prog 34 [Xc rt,.i left] [] (fun r h=>r=.i (Zo (Wy rt) left)/\h=[]):=by
 have hl2:=hl
 unfold Wy at hl2
 have hle:=KB (c:=rt.params.length) hlf.1
 refine enter Tryz.func34 kr (n:=24) kr kr (ar (iA (WI rt) ?_))
 intro b1
 refine ir 1 [(1,.i left),(2,.p b1 0)] (ie (ar (Za 3 (.n 6 (Z1 rt.params) (.n 7 (.i left) .r)) [0] [b1] (ic [] (Z54 rt.params left) ?_))))
 rintro _ _ ⟨rfl,rfl⟩
 refine ir 1 [(1,.i (Zo rt.params.length left)),(2,.p b1 0)] (ie (aq (ar (Z0 2 (.n 10 (.b (decide ((Zo rt.params.length left)<0))) .r) (ie (ac (decide ((Zo rt.params.length left)<0)) dq (fun hc1=>?_) (fun hc1=>?_)))))))
 ·refine ar (ir 1 [(4,.i (-1))] (ie ?_))
  exact Z5 (r2 [] [.i (-1)] ⟨rfl,rfl⟩ (li (by rw [Wy,Z39 hc1])))
 have h1:=Zb5 (b:=rt.lent.length) hc1
 have hle2:=KB (c:=rt.params.length+rt.lent.length) hlf.1
 refine ak (ar (Za 3 (.n 12 (Z1 rt.lent) (.n 13 (.i (Zo rt.params.length left)) .r)) [0] [b1] (ic [] (Z54 rt.lent (Zo rt.params.length left)) ?_)))
 rintro _ _ ⟨rfl,rfl⟩
 refine ir 1 [(1,.i (Zo rt.lent.length (Zo rt.params.length left))),(2,.p b1 0)] (ie (aq (ar (Z0 2 (.n 16 (.b (decide ((Zo rt.lent.length (Zo rt.params.length left))<0))) .r) (ie (ac (decide ((Zo rt.lent.length (Zo rt.params.length left))<0)) dq (fun hc2=>?_) (fun hc2=>?_)))))))
 ·refine ar (ir 1 [(4,.i (-1))] (ie ?_))
  exact Z5 (r2 [] [.i (-1)] ⟨rfl,rfl⟩ (li (by rw [h1] at hc2;rw [Wy,<-Z6f,Z39 hc2])))
 have h2:=Zb5 (b:=rt.body.cst) (a:=rt.params.length+rt.lent.length) (left:=left) (by rw [<-h1];exact hc2)
 refine ak (ar (iR 3 [(18,Zx rt.body),(19,.i (Zo rt.lent.length (Zo rt.params.length left)))] [0] [b1] (ic [] (Zzt rt.body (Zo rt.lent.length (Zo rt.params.length left)) ob ob) ?_)))
 rintro _ _ ⟨rfl,rfl⟩
 refine ir 1 [(1,.i (Zo rt.body.cst (Zo rt.lent.length (Zo rt.params.length left))))] (ie (aq (ar (Z0 2 (.n 22 (.b (decide ((Zo rt.body.cst (Zo rt.lent.length (Zo rt.params.length left)))<0))) .r) (ie (ac (decide ((Zo rt.body.cst (Zo rt.lent.length (Zo rt.params.length left)))<0)) dq (fun hc3=>?_) (fun hc3=>?_)))))))
 ·refine ar (ir 1 [(4,.i (-1))] (ie ?_))
  exact Z5 (r2 [] [.i (-1)] ⟨rfl,rfl⟩ (li (by rw [h1,h2] at hc3;rw [Wy,<-Z6f];exact Zkn hc3)))
 refine ak (ar (ir 2 [(4,.i (Zo rt.body.cst (Zo rt.lent.length (Zo rt.params.length left))))] (ie ?_)))
 exact Z5 (r2 [] [.i (Zo rt.body.cst (Zo rt.lent.length (Zo rt.params.length left)))] ⟨rfl,rfl⟩ (li (by rw [h1,h2,Wy,<-Z6f])))
theorem Ztm (cs:List Routine) (left:Int) (hlf:0<=left/\left<=1048576:=by exact ob) (hl:Wq cs<=9223372036854775807:=by exact ob):Zd Tryz.prog 14 [Yh cs,.i left] [] (fun r h=>r=.i (Zo (Wq cs) left)/\h=[]):=by
 have hl2:=hl
 unfold Wq at hl2
 refine enter Tryz.func14 kr (n:=27) kr kr (ar (ir 1 [(0,Yh cs),(1,.i left)] (ie (ar (Z0 2 (.n 6 (.i left) (.n 7 (Yh cs) .r)) (iw (VY cs) (ia ((left-(cs.length:Int))) ((left)-((cs.length:Int))) (ir 1 [(0,Yh cs),(1,.i (left-(cs.length:Int)))] (ie (aq (ar (Z0 2 (.n 11 (.b (decide ((left-(cs.length:Int))<0))) .r) (ie (ac (decide ((left-(cs.length:Int))<0)) dq (fun hc1=>?_) (fun hc1=>?_)))))))))))))))
 ·refine ar (ir 1 [(4,.i (-1))] (ie ?_))
  exact Z5 (r2 [] [.i (-1)] ⟨rfl,rfl⟩ (li (by rw [Wq];exact Z3b hc1)))
 refine ak (aq (ar (Z0 1 (.n 5 (.i 0) .r) (ie (ab 0 (al (fun m F h=>∃(k:Nat) (lf:Int),(k<=cs.length)/\(0<=lf/\lf<=1048576)/\(Zo (Ta (cs.drop k)) lf=Zo (Wq cs) left)/\F=[(0,Yh cs),(1,.i lf),(5,.i k)]/\h=[]/\m=cs.length-k) _ _ _ ⟨0,(left-(cs.length:Int)),ob,om,(by rw [VR,Wq];exact Z38 hc1),rfl,rfl,rfl⟩ (wk [] (fw (fc (x:=.i 0) li fl))) ?_))))))
 rintro m F h ⟨k,lf,c0_0,c0_1,c0_2,rfl,rfl,rfl⟩
 refine aq (ar (Z0 2 (.n 12 (.i k) (.n 13 (Yh cs) .r)) (iw (VY cs) (Z0 1 (.n 15 (.b (decide ((k:Int)<(cs.length:Int)))) .r) (ie (ac (decide ((k:Int)<(cs.length:Int))) dq (fun hc2=>?_) (fun hc2=>?_)))))))
 ·refine ak (aq (ab 1 (ar (Z0 2 (.n 18 (Yh cs) (.n 19 (.i k) .r)) ?_))))
  obtain ⟨x1,hx1⟩:=Zl (xs:=cs) (j:=k) om
  have hcl:=Z5l hx1
  have hle:=KB (c:=Wy x1) c0_1.1
  refine Zf (Zj (es:=WD cs) (hv:=none) (j:=(k:Int)) (sz:=5) (y:=Xc x1) kr om (VX hx1) rfl) (Z0 2 (.n 21 (Xc x1) (.n 22 (.i lf) .r)) (ic [] (Ztn x1 lf) ?_))
  rintro _ _ ⟨rfl,rfl⟩
  refine ir 1 [(0,Yh cs),(1,.i (Zo (Wy x1) lf)),(5,.i k)] (ie (ar (Z0 2 (.n 25 (.b (decide ((Zo (Wy x1) lf)<0))) .r) (ie (ac (decide ((Zo (Wy x1) lf)<0)) dq (fun hc3=>?_) (fun hc3=>?_))))))
  ·refine ar (ir 1 [(4,.i (-1))] (ie ?_))
   exact Z5 (r2 [] [.i (-1)] ⟨rfl,rfl⟩ (li (Z36 (Ziu hx1) hc3 c0_2)))
  refine ak (az (Z0 1 (.n 16 (.i k) .r) (ia (((k+1:Nat):Int)) (((k:Int))+(1)) (Z0 1 (.n 5 (.i (k+1:Nat)) (.p (.d (.d (.k (.k .z)))))) (ie ?_)))))
  exact ⟨_,_,_,ob,⟨k+1,(Zo (Wy x1) lf),ob,om,(Z3a (left:=0) (Ziu hx1) hc3 c0_2),rfl,rfl,rfl⟩,(wk [] (fw (fc (x:=.i (k+1:Nat)) li fl)))⟩
 refine ax 0 (ar (ir 2 [(4,.i lf)] (ie ?_)))
 exact Z5 (r2 [] [.i lf] ⟨rfl,rfl⟩ (li (Z37 (Zwu om) c0_1.1 c0_2)))
theorem Ztl (n:Normal) (left:Int) (hlf:0<=left/\left<=1048576) (hl:W5 n<=9223372036854775807):Zd Tryz.prog 4 [ZJ n,.i left] [] (fun r h=>r=.i (Zo (W5 n) left)/\h=[]):=by
 have hl2:=hl
 unfold W5 at hl2
 have hle:=KB (c:=X1 n.decls) hlf.1
 refine enter Tryz.func4 kr (n:=18) kr kr (ar (iA (ZU n) ?_))
 intro b1
 refine ir 1 [(1,.i left),(2,.p b1 0)] (ie (ar (Za 3 (.n 6 (Z3 n.decls) (.n 7 (.i left) .r)) [0] [b1] (ic [] (Ztj n.decls left) ?_))))
 rintro _ _ ⟨rfl,rfl⟩
 refine ir 1 [(1,.i (Zo (X1 n.decls) left)),(2,.p b1 0)] (ie (aq (ar (Z0 2 (.n 10 (.b (decide ((Zo (X1 n.decls) left)<0))) .r) (ie (ac (decide ((Zo (X1 n.decls) left)<0)) dq (fun hc1=>?_) (fun hc1=>?_)))))))
 ·refine ar (ir 1 [(4,.i (-1))] (ie ?_))
  exact Z5 (r2 [] [.i (-1)] ⟨rfl,rfl⟩ (li (by rw [W5,Z39 hc1])))
 have h1:=Zb5 (b:=Wq n.routines) hc1
 refine ak (ar (iR 3 [(12,Yh n.routines),(13,.i (Zo (X1 n.decls) left))] [0] [b1] (ic [] (Ztm n.routines (Zo (X1 n.decls) left)) ?_)))
 rintro _ _ ⟨rfl,rfl⟩
 refine ir 1 [(1,.i (Zo (Wq n.routines) (Zo (X1 n.decls) left)))] (ie (aq (ar (Z0 2 (.n 16 (.b (decide ((Zo (Wq n.routines) (Zo (X1 n.decls) left))<0))) .r) (ie (ac (decide ((Zo (Wq n.routines) (Zo (X1 n.decls) left))<0)) dq (fun hc2=>?_) (fun hc2=>?_)))))))
 ·refine ar (ir 1 [(4,.i (-1))] (ie ?_))
  exact Z5 (r2 [] [.i (-1)] ⟨rfl,rfl⟩ (li (by rw [h1] at hc2;rw [W5];exact Zkn hc2)))
 refine ak (ar (ir 2 [(4,.i (Zo (Wq n.routines) (Zo (X1 n.decls) left)))] (ie ?_)))
 exact Z5 (r2 [] [.i (Zo (Wq n.routines) (Zo (X1 n.decls) left))] ⟨rfl,rfl⟩ (li (by rw [h1,W5])))
theorem J1 (cs:List Int) (hl:cs.length<=1000000000:=by exact ob):Zd Tryz.prog 95 [Z1 cs,Z1 cs] [] (fun r h=>r=.b true/\h=[]):=by
 refine enter Tryz.func95 kr (n:=26) kr kr (ar (ir 1 [(0,Z1 cs),(1,Z1 cs)] (ie (aq (ar (Z0 1 (.n 6 (Z1 cs) .r) (iw (ZD cs) (Z0 1 (.n 8 (Z1 cs) .r) (iw (ZD cs) (Z0 1 (.n 10 (.b ((cs.length:Int) != (cs.length:Int))) .r) (ie (ac ((cs.length:Int) != (cs.length:Int)) Zw (fun hc1=>?_) (fun hc1=>?_)))))))))))))
 ·refine ar (ir 1 [(4,.b false)] (ie ?_))
  exact Z5 (r2 [] [.b false] ⟨rfl,rfl⟩ lb)
 refine ak (aq (ar (Z0 1 (.n 5 (.i 0) .r) (ie (ab 0 (al (fun m F h=>∃(k:Nat),(k<=cs.length)/\F=[(0,Z1 cs),(1,Z1 cs),(5,.i k)]/\h=[]/\m=cs.length-k) _ _ _ ⟨0,ob,rfl,rfl,rfl⟩ (wk [] (fw (fc (x:=.i 0) li fl))) ?_))))))
 rintro m F h ⟨k,c0_0,rfl,rfl,rfl⟩
 refine aq (ar (Z0 2 (.n 11 (.i k) (.n 12 (Z1 cs) .r)) (iw (ZD cs) (Z0 1 (.n 14 (.b (decide ((k:Int)<(cs.length:Int)))) .r) (ie (ac (decide ((k:Int)<(cs.length:Int))) dq (fun hc2=>?_) (fun hc2=>?_)))))))
 ·refine ak (aq (ab 1 (aD 9 (Zi (fuel:=7) 9 [0,1] (.n 17 (Z1 cs) (.n 18 (.i k) .r)) ?_))))
  obtain ⟨x1,hx1⟩:=Zl (xs:=cs) (j:=k) om
  refine dx 2 (Zj (es:=Z6 cs) (hv:=none) (j:=(k:Int)) (sz:=1) (y:=.i x1) kr om (ZH hx1) rfl) (Zi (fuel:=3) 6 [3,4,5] (.n 20 (.i x1) (.n 21 (Z1 cs) (.n 22 (.i k) .r))) (dx 6 (Zj (es:=Z6 cs) (hv:=none) (j:=(k:Int)) (sz:=1) (y:=.i x1) kr om (ZH hx1) rfl) (Zi (fuel:=0) 2 [7,8] (.n 25 (.b (x1 != x1)) .r) (de (ac (x1 != x1) Zw (fun hc3=>?_) (fun hc3=>?_))))))
  ·refine ar (ir 1 [(4,.b false)] (ie ?_))
   exact Z5 (r2 [] [.b false] ⟨rfl,rfl⟩ lb)
  refine ak (az (Z0 1 (.n 15 (.i k) .r) (ia (((k+1:Nat):Int)) (((k:Int))+(1)) (ir 1 [(0,Z1 cs),(1,Z1 cs),(5,.i (k+1:Nat))] (ie ?_)))))
  exact ⟨_,_,_,ob,⟨k+1,ob,rfl,rfl,rfl⟩,(wk [] (fw (fc (x:=.i (k+1:Nat)) li fl)))⟩
 refine ax 0 (ar (ir 1 [(4,.b true)] (ie ?_)))
 exact Z5 (r1 [] ⟨rfl,rfl⟩)
theorem Ztc (c:Con) (hl:Vr c<=1000000000:=by exact ob):Zd Tryz.prog 128 [Wm c,Wm c] [] (fun r h=>r=.b true/\h=[]):=by
 unfold Vr at hl
 refine enter Tryz.func128 kr (n:=11) kr kr (ar (iA (UP c) ?_))
 intro b1
 refine iA (UP c) ?_
 intro b2
 refine ir 1 [(2,.p b1 0),(3,.p b2 0)] (ie (aq (ar (iR 4 [(6,Z1 c.fields),(8,Z1 c.fields)] [1,0] [b1,b2] (ic [] (J1 c.fields) ?_)))))
 rintro _ _ ⟨rfl,rfl⟩
 refine ir 1 [(10,.b false)] (ie (YA (ak (ar (ir 1 [(4,.b true)] (ie ?_))))))
 exact Z5 (r1 [] ⟨rfl,rfl⟩)
theorem Ztb (cs:List Con) (hl:WC cs<=1000000000:=by exact ob):Zd Tryz.prog 94 [Y8 cs,Y8 cs] [] (fun r h=>r=.b true/\h=[]):=by
 have hl2:=hl
 unfold WC at hl2
 refine enter Tryz.func94 kr (n:=27) kr kr (ar (ir 1 [(0,Y8 cs),(1,Y8 cs)] (ie (aq (ar (Z0 1 (.n 6 (Y8 cs) .r) (iw (Wc cs) (Z0 1 (.n 8 (Y8 cs) .r) (iw (Wc cs) (Z0 1 (.n 10 (.b ((cs.length:Int) != (cs.length:Int))) .r) (ie (ac ((cs.length:Int) != (cs.length:Int)) Zw (fun hc1=>?_) (fun hc1=>?_)))))))))))))
 ·refine ar (ir 1 [(4,.b false)] (ie ?_))
  exact Z5 (r2 [] [.b false] ⟨rfl,rfl⟩ lb)
 refine ak (aq (ar (Z0 1 (.n 5 (.i 0) .r) (ie (ab 0 (al (fun m F h=>∃(k:Nat),(k<=cs.length)/\F=[(0,Y8 cs),(1,Y8 cs),(5,.i k)]/\h=[]/\m=cs.length-k) _ _ _ ⟨0,ob,rfl,rfl,rfl⟩ (wk [] (fw (fc (x:=.i 0) li fl))) ?_))))))
 rintro m F h ⟨k,c0_0,rfl,rfl,rfl⟩
 refine aq (ar (Z0 2 (.n 11 (.i k) (.n 12 (Y8 cs) .r)) (iw (Wc cs) (Z0 1 (.n 14 (.b (decide ((k:Int)<(cs.length:Int)))) .r) (ie (ac (decide ((k:Int)<(cs.length:Int))) dq (fun hc2=>?_) (fun hc2=>?_)))))))
 ·refine ak (aq (ab 1 (aD 10 (Zi (fuel:=8) 10 [0,1] (.n 17 (Y8 cs) (.n 18 (.i k) .r)) ?_))))
  obtain ⟨x1,hx1⟩:=Zl (xs:=cs) (j:=k) om
  have hcl:=Z42 hx1
  refine dx 2 (Zj (es:=YH cs) (hv:=none) (j:=(k:Int)) (sz:=1) (y:=Wm x1) kr om (Qq hx1) rfl) (Zi (fuel:=4) 7 [3,4,5] (.n 20 (Wm x1) (.n 21 (Y8 cs) (.n 22 (.i k) .r))) (dx 6 (Zj (es:=YH cs) (hv:=none) (j:=(k:Int)) (sz:=1) (y:=Wm x1) kr om (Qq hx1) rfl) (Zi (fuel:=2) 3 [7] (.n 24 (Wm x1) .r) (Zm 8 (dc 8 [] [] [] (Ztc x1) ?_)))))
  rintro _ _ ⟨rfl,rfl⟩
  refine Zi (fuel:=0) 1 [9] (.n 26 (.b false) .r) (de (YA (ak (az (Z0 1 (.n 15 (.i k) .r) (ia (((k+1:Nat):Int)) (((k:Int))+(1)) (ir 1 [(0,Y8 cs),(1,Y8 cs),(5,.i (k+1:Nat))] (ie ?_))))))))
  exact ⟨_,_,_,ob,⟨k+1,ob,rfl,rfl,rfl⟩,(wk [] (fw (fc (x:=.i (k+1:Nat)) li fl)))⟩
 refine ax 0 (ar (ir 1 [(4,.b true)] (ie ?_)))
 exact Z5 (r1 [] ⟨rfl,rfl⟩)
theorem Ztd (d:Decl) (hl:Wn d<=1000000000:=by exact ob):Zd Tryz.prog 55 [Yw d,Yw d] [] (fun r h=>r=.b true/\h=[]):=by
 unfold Wn at hl
 refine enter Tryz.func55 kr (n:=21) kr kr (ar (iA (Ys d) ?_))
 intro b1
 refine iA (Ys d) ?_
 intro b2
 refine ir 1 [(2,.p b1 0),(3,.p b2 0)] (ie (aq (ar (Za 5 (.n 9 (.b (d.frm != d.frm)) .r) [1,0] [b1,b2] (ie (ac (d.frm != d.frm) Zw (fun hc1=>?_) (fun hc1=>?_)))))))
 ·refine ar (ir 1 [(4,.b false)] (ie ?_))
  exact Z5 (r2 [] [.b false] ⟨rfl,rfl⟩ lb)
 refine ak (aq (ar (Za 5 (.n 14 (.b (d.to_ != d.to_)) .r) [1,0] [b1,b2] (ie (ac (d.to_ != d.to_) Zw (fun hc2=>?_) (fun hc2=>?_))))))
 ·refine ar (ir 1 [(4,.b false)] (ie ?_))
  exact Z5 (r2 [] [.b false] ⟨rfl,rfl⟩ lb)
 refine ak (aq (ar (iR 4 [(16,Y8 d.cons),(18,Y8 d.cons)] [1,0] [b1,b2] (ic [] (Ztb d.cons) ?_))))
 rintro _ _ ⟨rfl,rfl⟩
 refine ir 1 [(20,.b false)] (ie (YA (ak (ar (ir 1 [(4,.b true)] (ie ?_))))))
 exact Z5 (r1 [] ⟨rfl,rfl⟩)
theorem Zgp (cs:List Decl) (hl:X1 cs<=1000000000:=by exact ob):Zd Tryz.prog 25 [Z3 cs,Z3 cs] [] (fun r h=>r=.b true/\h=[]):=by
 have hl2:=hl
 unfold X1 at hl2
 refine enter Tryz.func25 kr (n:=27) kr kr (ar (ir 1 [(0,Z3 cs),(1,Z3 cs)] (ie (aq (ar (Z0 1 (.n 6 (Z3 cs) .r) (iw (Wv cs) (Z0 1 (.n 8 (Z3 cs) .r) (iw (Wv cs) (Z0 1 (.n 10 (.b ((cs.length:Int) != (cs.length:Int))) .r) (ie (ac ((cs.length:Int) != (cs.length:Int)) Zw (fun hc1=>?_) (fun hc1=>?_)))))))))))))
 ·refine ar (ir 1 [(4,.b false)] (ie ?_))
  exact Z5 (r2 [] [.b false] ⟨rfl,rfl⟩ lb)
 refine ak (aq (ar (Z0 1 (.n 5 (.i 0) .r) (ie (ab 0 (al (fun m F h=>∃(k:Nat),(k<=cs.length)/\F=[(0,Z3 cs),(1,Z3 cs),(5,.i k)]/\h=[]/\m=cs.length-k) _ _ _ ⟨0,ob,rfl,rfl,rfl⟩ (wk [] (fw (fc (x:=.i 0) li fl))) ?_))))))
 rintro m F h ⟨k,c0_0,rfl,rfl,rfl⟩
 refine aq (ar (Z0 2 (.n 11 (.i k) (.n 12 (Z3 cs) .r)) (iw (Wv cs) (Z0 1 (.n 14 (.b (decide ((k:Int)<(cs.length:Int)))) .r) (ie (ac (decide ((k:Int)<(cs.length:Int))) dq (fun hc2=>?_) (fun hc2=>?_)))))))
 ·refine ak (aq (ab 1 (aD 10 (Zi (fuel:=8) 10 [0,1] (.n 17 (Z3 cs) (.n 18 (.i k) .r)) ?_))))
  obtain ⟨x1,hx1⟩:=Zl (xs:=cs) (j:=k) om
  have hcl:=Z47 hx1
  refine dx 2 (Zj (es:=ZQ cs) (hv:=none) (j:=(k:Int)) (sz:=3) (y:=Yw x1) kr om (Wd hx1) rfl) (Zi (fuel:=4) 7 [3,4,5] (.n 20 (Yw x1) (.n 21 (Z3 cs) (.n 22 (.i k) .r))) (dx 6 (Zj (es:=ZQ cs) (hv:=none) (j:=(k:Int)) (sz:=3) (y:=Yw x1) kr om (Wd hx1) rfl) (Zi (fuel:=2) 3 [7] (.n 24 (Yw x1) .r) (Zm 8 (dc 8 [] [] [] (Ztd x1) ?_)))))
  rintro _ _ ⟨rfl,rfl⟩
  refine Zi (fuel:=0) 1 [9] (.n 26 (.b false) .r) (de (YA (ak (az (Z0 1 (.n 15 (.i k) .r) (ia (((k+1:Nat):Int)) (((k:Int))+(1)) (ir 1 [(0,Z3 cs),(1,Z3 cs),(5,.i (k+1:Nat))] (ie ?_))))))))
  exact ⟨_,_,_,ob,⟨k+1,ob,rfl,rfl,rfl⟩,(wk [] (fw (fc (x:=.i (k+1:Nat)) li fl)))⟩
 refine ax 0 (ar (ir 1 [(4,.b true)] (ie ?_)))
 exact Z5 (r1 [] ⟨rfl,rfl⟩)
theorem Zpl (z:Nat) (cs:List Block) (hl:Wt cs<=1000000000:=by exact ob) (hz:Yx cs<=z:=by exact ob) (ih:∀(b2:Block),(b2.sz<=z)->(b2.cst<=1000000000)->Zd Tryz.prog 97 [Zx b2,Zx b2] [] (fun r h=>r=.b true/\h=[])):Zd Tryz.prog 171 [ZT cs,ZT cs] [] (fun r h=>r=.b true/\h=[]):=by
 have hl2:=hl
 unfold Wt at hl2
 refine enter Tryz.func171 kr (n:=27) kr kr (ar (ir 1 [(0,ZT cs),(1,ZT cs)] (ie (aq (ar (Z0 1 (.n 6 (ZT cs) .r) (iw (VJ cs) (Z0 1 (.n 8 (ZT cs) .r) (iw (VJ cs) (Z0 1 (.n 10 (.b ((cs.length:Int) != (cs.length:Int))) .r) (ie (ac ((cs.length:Int) != (cs.length:Int)) Zw (fun hc1=>?_) (fun hc1=>?_)))))))))))))
 ·refine ar (ir 1 [(4,.b false)] (ie ?_))
  exact Z5 (r2 [] [.b false] ⟨rfl,rfl⟩ lb)
 refine ak (aq (ar (Z0 1 (.n 5 (.i 0) .r) (ie (ab 0 (al (fun m F h=>∃(k:Nat),(k<=cs.length)/\F=[(0,ZT cs),(1,ZT cs),(5,.i k)]/\h=[]/\m=cs.length-k) _ _ _ ⟨0,ob,rfl,rfl,rfl⟩ (wk [] (fw (fc (x:=.i 0) li fl))) ?_))))))
 rintro m F h ⟨k,c0_0,rfl,rfl,rfl⟩
 refine aq (ar (Z0 2 (.n 11 (.i k) (.n 12 (ZT cs) .r)) (iw (VJ cs) (Z0 1 (.n 14 (.b (decide ((k:Int)<(cs.length:Int)))) .r) (ie (ac (decide ((k:Int)<(cs.length:Int))) dq (fun hc2=>?_) (fun hc2=>?_)))))))
 ·refine ak (aq (ab 1 (aD 10 (Zi (fuel:=8) 10 [0,1] (.n 17 (ZT cs) (.n 18 (.i k) .r)) ?_))))
  obtain ⟨x1,hx1⟩:=Zl (xs:=cs) (j:=k) om
  have hcl:=Z77 hx1
  have hsz:=Z0f hx1
  refine dx 2 (Zj (es:=Xw cs) (hv:=none) (j:=(k:Int)) (sz:=2) (y:=Zx x1) kr om (WY hx1) rfl) (Zi (fuel:=4) 7 [3,4,5] (.n 20 (Zx x1) (.n 21 (ZT cs) (.n 22 (.i k) .r))) (dx 6 (Zj (es:=Xw cs) (hv:=none) (j:=(k:Int)) (sz:=2) (y:=Zx x1) kr om (WY hx1) rfl) (Zi (fuel:=2) 3 [7] (.n 24 (Zx x1) .r) (Zm 8 (dc 8 [] [] [] (ih x1 ob ob) ?_)))))
  rintro _ _ ⟨rfl,rfl⟩
  refine Zi (fuel:=0) 1 [9] (.n 26 (.b false) .r) (de (YA (ak (az (Z0 1 (.n 15 (.i k) .r) (ia (((k+1:Nat):Int)) (((k:Int))+(1)) (ir 1 [(0,ZT cs),(1,ZT cs),(5,.i (k+1:Nat))] (ie ?_))))))))
  exact ⟨_,_,_,ob,⟨k+1,ob,rfl,rfl,rfl⟩,(wk [] (fw (fc (x:=.i (k+1:Nat)) li fl)))⟩
 refine ax 0 (ar (ir 1 [(4,.b true)] (ie ?_)))
 exact Z5 (r1 [] ⟨rfl,rfl⟩)
theorem Zpt (z:Nat) (s:Step) (hl:s.cst<=1000000000:=by exact ob) (hz:s.sz<=z+1:=by exact ob) (ih:∀(b2:Block),(b2.sz<=z)->(b2.cst<=1000000000)->Zd Tryz.prog 97 [Zx b2,Zx b2] [] (fun r h=>r=.b true/\h=[])):Zd Tryz.prog 156 [ZN s,ZN s] [] (fun r h=>r=.b true/\h=[]):=by
 have hse:=s.sz_eq
 have hce:=s.cst_eq
 have hbc:Wt s.kids=s.kids.length+Vq s.kids:=rfl
 refine enter Tryz.func156 kr (n:=32) kr kr (ar (iA (ZE s) ?_))
 intro b1
 refine iA (ZE s) ?_
 intro b2
 refine ir 1 [(2,.p b1 0),(3,.p b2 0)] (ie (aq (ar (Za 5 (.n 9 (.b (s.op != s.op)) .r) [1,0] [b1,b2] (ie (ac (s.op != s.op) Zw (fun hc1=>?_) (fun hc1=>?_)))))))
 ·refine ar (ir 1 [(4,.b false)] (ie ?_))
  exact Z5 (r2 [] [.b false] ⟨rfl,rfl⟩ lb)
 refine ak (aq (ar (Za 5 (.n 14 (.b (s.num != s.num)) .r) [1,0] [b1,b2] (ie (ac (s.num != s.num) Zw (fun hc2=>?_) (fun hc2=>?_))))))
 ·refine ar (ir 1 [(4,.b false)] (ie ?_))
  exact Z5 (r2 [] [.b false] ⟨rfl,rfl⟩ lb)
 refine ak (aq (ar (Za 5 (.n 19 (.b (s.into != s.into)) .r) [1,0] [b1,b2] (ie (ac (s.into != s.into) Zw (fun hc3=>?_) (fun hc3=>?_))))))
 ·refine ar (ir 1 [(4,.b false)] (ie ?_))
  exact Z5 (r2 [] [.b false] ⟨rfl,rfl⟩ lb)
 refine ak (aq (ar (Za 4 (.n 21 (Z1 s.args) (.n 23 (Z1 s.args) .r)) [1,0] [b1,b2] (ic [] (J1 s.args) ?_))))
 rintro _ _ ⟨rfl,rfl⟩
 refine Z0 1 (.n 25 (.b false) .r) (ie (YA (ak (aq (ar (iR 4 [(27,ZT s.kids),(29,ZT s.kids)] [1,0] [b1,b2] (ic [] (Zpl z s.kids (ih:=ih)) ?_)))))))
 rintro _ _ ⟨rfl,rfl⟩
 refine ir 1 [(31,.b false)] (ie (YA (ak (ar (ir 1 [(4,.b true)] (ie ?_))))))
 exact Z5 (r1 [] ⟨rfl,rfl⟩)
theorem Zpu (z:Nat) (cs:List Step) (hl:WT cs<=1000000000:=by exact ob) (hz:ZR cs<=z+1:=by exact ob) (ih:∀(b2:Block),(b2.sz<=z)->(b2.cst<=1000000000)->Zd Tryz.prog 97 [Zx b2,Zx b2] [] (fun r h=>r=.b true/\h=[])):Zd Tryz.prog 130 [ZX cs,ZX cs] [] (fun r h=>r=.b true/\h=[]):=by
 have hl2:=hl
 unfold WT at hl2
 refine enter Tryz.func130 kr (n:=27) kr kr (ar (ir 1 [(0,ZX cs),(1,ZX cs)] (ie (aq (ar (Z0 1 (.n 6 (ZX cs) .r) (iw (UK cs) (Z0 1 (.n 8 (ZX cs) .r) (iw (UK cs) (Z0 1 (.n 10 (.b ((cs.length:Int) != (cs.length:Int))) .r) (ie (ac ((cs.length:Int) != (cs.length:Int)) Zw (fun hc1=>?_) (fun hc1=>?_)))))))))))))
 ·refine ar (ir 1 [(4,.b false)] (ie ?_))
  exact Z5 (r2 [] [.b false] ⟨rfl,rfl⟩ lb)
 refine ak (aq (ar (Z0 1 (.n 5 (.i 0) .r) (ie (ab 0 (al (fun m F h=>∃(k:Nat),(k<=cs.length)/\F=[(0,ZX cs),(1,ZX cs),(5,.i k)]/\h=[]/\m=cs.length-k) _ _ _ ⟨0,ob,rfl,rfl,rfl⟩ (wk [] (fw (fc (x:=.i 0) li fl))) ?_))))))
 rintro m F h ⟨k,c0_0,rfl,rfl,rfl⟩
 refine aq (ar (Z0 2 (.n 11 (.i k) (.n 12 (ZX cs) .r)) (iw (UK cs) (Z0 1 (.n 14 (.b (decide ((k:Int)<(cs.length:Int)))) .r) (ie (ac (decide ((k:Int)<(cs.length:Int))) dq (fun hc2=>?_) (fun hc2=>?_)))))))
 ·refine ak (aq (ab 1 (aD 10 (Zi (fuel:=8) 10 [0,1] (.n 17 (ZX cs) (.n 18 (.i k) .r)) ?_))))
  obtain ⟨x1,hx1⟩:=Zl (xs:=cs) (j:=k) om
  have hcl:=Za7 hx1
  have hsz:=Z32 hx1
  refine dx 2 (Zj (es:=Wg cs) (hv:=none) (j:=(k:Int)) (sz:=5) (y:=ZN x1) kr om (T6 hx1) rfl) (Zi (fuel:=4) 7 [3,4,5] (.n 20 (ZN x1) (.n 21 (ZX cs) (.n 22 (.i k) .r))) (dx 6 (Zj (es:=Wg cs) (hv:=none) (j:=(k:Int)) (sz:=5) (y:=ZN x1) kr om (T6 hx1) rfl) (Zi (fuel:=2) 3 [7] (.n 24 (ZN x1) .r) (Zm 8 (dc 8 [] [] [] (Zpt z x1 (ih:=ih)) ?_)))))
  rintro _ _ ⟨rfl,rfl⟩
  refine Zi (fuel:=0) 1 [9] (.n 26 (.b false) .r) (de (YA (ak (az (Z0 1 (.n 15 (.i k) .r) (ia (((k+1:Nat):Int)) (((k:Int))+(1)) (ir 1 [(0,ZX cs),(1,ZX cs),(5,.i (k+1:Nat))] (ie ?_))))))))
  exact ⟨_,_,_,ob,⟨k+1,ob,rfl,rfl,rfl⟩,(wk [] (fw (fc (x:=.i (k+1:Nat)) li fl)))⟩
 refine ax 0 (ar (ir 1 [(4,.b true)] (ie ?_)))
 exact Z5 (r1 [] ⟨rfl,rfl⟩)
theorem Zpj (z:Nat) (b:Block) (hl:b.cst<=1000000000:=by exact ob) (hz:b.sz<=z+1:=by exact ob) (ih:∀(b2:Block),(b2.sz<=z)->(b2.cst<=1000000000)->Zd Tryz.prog 97 [Zx b2,Zx b2] [] (fun r h=>r=.b true/\h=[])):Zd Tryz.prog 97 [Zx b,Zx b] [] (fun r h=>r=.b true/\h=[]):=by
 have hse:=b.sz_eq
 have hce:=b.cst_eq
 have hbc:WT b.steps=b.steps.length+Vz b.steps:=rfl
 refine enter Tryz.func97 kr (n:=16) kr kr (ar (iA (YY b) ?_))
 intro b1
 refine iA (YY b) ?_
 intro b2
 refine ir 1 [(2,.p b1 0),(3,.p b2 0)] (ie (aq (ar (Za 4 (.n 6 (ZX b.steps) (.n 8 (ZX b.steps) .r)) [1,0] [b1,b2] (ic [] (Zpu z b.steps (ih:=ih)) ?_)))))
 rintro _ _ ⟨rfl,rfl⟩
 refine Z0 1 (.n 10 (.b false) .r) (ie (YA (ak (aq (ar (iR 5 [(15,.b (b.result != b.result))] [1,0] [b1,b2] (ie (ac (b.result != b.result) Zw (fun hc1=>?_) (fun hc1=>?_)))))))))
 ·refine ar (ir 1 [(4,.b false)] (ie ?_))
  exact Z5 (r2 [] [.b false] ⟨rfl,rfl⟩ lb)
 refine ak (ar (ir 1 [(4,.b true)] (ie ?_)))
 exact Z5 (r1 [] ⟨rfl,rfl⟩)
theorem Zpk (m:Nat):∀(b2:Block),(b2.sz<=m)->(b2.cst<=1000000000)->Zd Tryz.prog 97 [Zx b2,Zx b2] [] (fun r h=>r=.b true/\h=[]):=by
 induction m with
 | zero=>intro b h;have:=b.sz_pos;omega
 | succ m ih=>intro b h1 h2;exact Zpj m b h2 h1 ih
theorem Zpi (b2:Block) (hl:b2.cst<=1000000000):Zd Tryz.prog 97 [Zx b2,Zx b2] [] (fun r h=>r=.b true/\h=[]):=
 Zpk b2.sz b2 (Yp _) hl
theorem Ztg (rt:Routine) (hl:Wy rt<=1000000000:=by exact ob):Zd Tryz.prog 57 [Xc rt,Xc rt] [] (fun r h=>r=.b true/\h=[]):=by
 unfold Wy at hl
 refine enter Tryz.func57 kr (n:=28) kr kr (ar (iA (WI rt) ?_))
 intro b1
 refine iA (WI rt) ?_
 intro b2
 refine ir 1 [(2,.p b1 0),(3,.p b2 0)] (ie (aq (ar (Za 4 (.n 6 (Z1 rt.params) (.n 8 (Z1 rt.params) .r)) [1,0] [b1,b2] (ic [] (J1 rt.params) ?_)))))
 rintro _ _ ⟨rfl,rfl⟩
 refine Z0 1 (.n 10 (.b false) .r) (ie (YA (ak (aq (ar (Za 4 (.n 12 (Z1 rt.lent) (.n 14 (Z1 rt.lent) .r)) [1,0] [b1,b2] (ic [] (J1 rt.lent) ?_)))))))
 rintro _ _ ⟨rfl,rfl⟩
 refine Z0 1 (.n 16 (.b false) .r) (ie (YA (ak (aq (ar (Za 5 (.n 21 (.b (rt.result != rt.result)) .r) [1,0] [b1,b2] (ie (ac (rt.result != rt.result) Zw (fun hc1=>?_) (fun hc1=>?_)))))))))
 ·refine ar (ir 1 [(4,.b false)] (ie ?_))
  exact Z5 (r2 [] [.b false] ⟨rfl,rfl⟩ lb)
 refine ak (aq (ar (iR 4 [(23,Zx rt.body),(25,Zx rt.body)] [1,0] [b1,b2] (ic [] (Zpi rt.body ob) ?_))))
 rintro _ _ ⟨rfl,rfl⟩
 refine ir 1 [(27,.b false)] (ie (YA (ak (ar (ir 1 [(4,.b true)] (ie ?_))))))
 exact Z5 (r1 [] ⟨rfl,rfl⟩)
theorem Ztf (cs:List Routine) (hl:Wq cs<=1000000000:=by exact ob):Zd Tryz.prog 27 [Yh cs,Yh cs] [] (fun r h=>r=.b true/\h=[]):=by
 have hl2:=hl
 unfold Wq at hl2
 refine enter Tryz.func27 kr (n:=27) kr kr (ar (ir 1 [(0,Yh cs),(1,Yh cs)] (ie (aq (ar (Z0 1 (.n 6 (Yh cs) .r) (iw (VY cs) (Z0 1 (.n 8 (Yh cs) .r) (iw (VY cs) (Z0 1 (.n 10 (.b ((cs.length:Int) != (cs.length:Int))) .r) (ie (ac ((cs.length:Int) != (cs.length:Int)) Zw (fun hc1=>?_) (fun hc1=>?_)))))))))))))
 ·refine ar (ir 1 [(4,.b false)] (ie ?_))
  exact Z5 (r2 [] [.b false] ⟨rfl,rfl⟩ lb)
 refine ak (aq (ar (Z0 1 (.n 5 (.i 0) .r) (ie (ab 0 (al (fun m F h=>∃(k:Nat),(k<=cs.length)/\F=[(0,Yh cs),(1,Yh cs),(5,.i k)]/\h=[]/\m=cs.length-k) _ _ _ ⟨0,ob,rfl,rfl,rfl⟩ (wk [] (fw (fc (x:=.i 0) li fl))) ?_))))))
 rintro m F h ⟨k,c0_0,rfl,rfl,rfl⟩
 refine aq (ar (Z0 2 (.n 11 (.i k) (.n 12 (Yh cs) .r)) (iw (VY cs) (Z0 1 (.n 14 (.b (decide ((k:Int)<(cs.length:Int)))) .r) (ie (ac (decide ((k:Int)<(cs.length:Int))) dq (fun hc2=>?_) (fun hc2=>?_)))))))
 ·refine ak (aq (ab 1 (aD 10 (Zi (fuel:=8) 10 [0,1] (.n 17 (Yh cs) (.n 18 (.i k) .r)) ?_))))
  obtain ⟨x1,hx1⟩:=Zl (xs:=cs) (j:=k) om
  have hcl:=Z5l hx1
  refine dx 2 (Zj (es:=WD cs) (hv:=none) (j:=(k:Int)) (sz:=5) (y:=Xc x1) kr om (VX hx1) rfl) (Zi (fuel:=4) 7 [3,4,5] (.n 20 (Xc x1) (.n 21 (Yh cs) (.n 22 (.i k) .r))) (dx 6 (Zj (es:=WD cs) (hv:=none) (j:=(k:Int)) (sz:=5) (y:=Xc x1) kr om (VX hx1) rfl) (Zi (fuel:=2) 3 [7] (.n 24 (Xc x1) .r) (Zm 8 (dc 8 [] [] [] (Ztg x1) ?_)))))
  rintro _ _ ⟨rfl,rfl⟩
  refine Zi (fuel:=0) 1 [9] (.n 26 (.b false) .r) (de (YA (ak (az (Z0 1 (.n 15 (.i k) .r) (ia (((k+1:Nat):Int)) (((k:Int))+(1)) (ir 1 [(0,Yh cs),(1,Yh cs),(5,.i (k+1:Nat))] (ie ?_))))))))
  exact ⟨_,_,_,ob,⟨k+1,ob,rfl,rfl,rfl⟩,(wk [] (fw (fc (x:=.i (k+1:Nat)) li fl)))⟩
 refine ax 0 (ar (ir 1 [(4,.b true)] (ie ?_)))
 exact Z5 (r1 [] ⟨rfl,rfl⟩)
theorem Zte (n:Normal) (hl:W5 n<=1000000000):Zd Tryz.prog 9 [ZJ n,ZJ n] [] (fun r h=>r=.b true/\h=[]):=by
 unfold W5 at hl
 refine enter Tryz.func9 kr (n:=17) kr kr (ar (iA (ZU n) ?_))
 intro b1
 refine iA (ZU n) ?_
 intro b2
 refine ir 1 [(2,.p b1 0),(3,.p b2 0)] (ie (aq (ar (Za 4 (.n 6 (Z3 n.decls) (.n 8 (Z3 n.decls) .r)) [1,0] [b1,b2] (ic [] (Zgp n.decls) ?_)))))
 rintro _ _ ⟨rfl,rfl⟩
 refine Z0 1 (.n 10 (.b false) .r) (ie (YA (ak (aq (ar (iR 4 [(12,Yh n.routines),(14,Yh n.routines)] [1,0] [b1,b2] (ic [] (Ztf n.routines) ?_)))))))
 rintro _ _ ⟨rfl,rfl⟩
 refine ir 1 [(16,.b false)] (ie (YA (ak (ar (ir 1 [(4,.b true)] (ie ?_))))))
 exact Z5 (r1 [] ⟨rfl,rfl⟩)
end Go.Abs
section
namespace Go.Abs
theorem HOk.rgrow {w:World} {G:Zs} {h2:List Res} {g len len' cap k:Nat} {ls ls':List AV} (hh:HOk w G (.row (.slice (some ⟨g,0,none⟩) len cap) k ls::h2)) {cs cs':Array Value} {e:TypeId}
  (hb:w.heap[g]? = some (.cells cs e (0,0))) (hsz:cs'.size=cs.size) (hle:len'<=cap) (hcap:cs.size=cap*k) (hl:ls'.length=len'*k) (hls:RCs w G ls' (cs'.toList.take (len'*k))) :
  HOk (w.setRow g cs') G (.row (.slice (some ⟨g,0,none⟩) len' cap) k ls'::h2) /\
   Ext w G (.row (.slice (some ⟨g,0,none⟩) len cap) k ls::h2) (w.setRow g cs') G (.row (.slice (some ⟨g,0,none⟩) len' cap) k ls'::h2):=by
 have hmem:Res.row (.slice (some ⟨g,0,none⟩) len cap) k ls∈Res.row (.slice (some ⟨g,0,none⟩) len cap) k ls::h2:=Yd ..
 have hA:Agree G w (w.setRow g cs') G:=⟨fun c j hg=>by
  have hne:c≠g:=fun he=>hh.prot _ hmem c j he hg
  simp [World.cell?,XV w g c cs' hne],fun _ _ h=>h⟩
 have e1:Ext w G [.row (.slice (some ⟨g,0,none⟩) len cap) k ls] (w.setRow g cs') G [.row (.slice (some ⟨g,0,none⟩) len' cap) k ls']:=by
  refine ⟨rfl,rfl,rfl,by simp [World.setRow],fun _ _ h=>h,?_,fun _ _ _ h=>.inl h,?_⟩
  ·intro c hc
   by_cases hcb:c=g
   ·subst hcb
    exact .inr ⟨cs,cs',e,(0,0),hb,setRow_heap w c cs cs' e (0,0) hb,hsz,fun j hj=>absurd ⟨_,Yd ..,rfl⟩ hj⟩
   ·exact .inl (XV w g c cs' hcb)
  ·rintro c j _ ⟨r,hr,hf⟩
   rw [ZW.1 hr] at hf
   exact ⟨_,Yd ..,hf⟩
 have e2:HOk (w.setRow g cs') G [.row (.slice (some ⟨g,0,none⟩) len' cap) k ls']:=by
  refine ⟨fun r hr=>?_,Qz _ _,fun r hr c j hf hg=>?_,fun c j hg=>?_⟩
  ·rw [ZW.1 hr]
   exact .inr ⟨g,len',cap,cs',e,rfl,setRow_heap w g cs cs' e (0,0) hb,hle,hsz.trans hcap,hl,hls.mono hA⟩
  ·rw [ZW.1 hr] at hf
   exact hh.prot _ hmem c j hf hg
  ·have:=hh.lt c j hg
   simpa [World.setRow] using this
 exact HOk.frame (h:=[.row (.slice (some ⟨g,0,none⟩) len cap) k ls]) (k:=h2) hh e1 e2
section
variable {P:Program} {n:Nat} {ops:Array Oper} {k:Nat} {F:Fr} {h2:List Res}
theorem Zvh {K:Fr->List Res->Prop} {v:Hd} {sz m:Nat} {ls xs:List AV} {hx:Option Value} (hd:Wb n (Zk ops k)=true) (ha:Us P ops F k=some (.val v.v,.sl xs hx,sz))
  (hxs:∀y∈xs,y.leaves.length=sz) (hone:(Z9 xs).all AV.one=true) (hm0:ls.length=m*sz) (hk0:0<sz) (hne:xs≠[]) (hbound:m+xs.length<=4294967296)
  (hK:∀v':Hd,K (F.put (Zk ops k).dst (.val v'.v)) (.row v'.v sz (ls++Z9 xs)::h2)):Xg P n (Zk ops k) F (.row v.v sz ls::h2) K:=by
 unfold Us at ha
 generalize hoo:Zk ops k=o at ha hd hK
 obtain ⟨dst,op,type,pos,after,guard⟩:=o
 cases op<;>simp only at ha<;>try (cases ha)
 rename_i c
 obtain ⟨callee,args,tys⟩:=c
 simp only at ha
 split at ha
 case h_2=>cases ha
 rename_i s x t t' hargs htys
 split at ha
 case h_2=>cases ha
 rename_i e htt ht
 have:=Vf htt
 subst this
 split at ha
 case h_2=>cases ha
 rename_i i hinfo
 split at ha
 case h_2=>cases ha
 rename_i z hz
 split at ha
 case h_2=>cases ha
 rename_i hb
 simp only [YN] at hb
 simp only [YF,Prod.mk.injEq] at ha
 obtain ⟨h3,h4,hk1⟩:=ha
 have e1:args=#[s,x]:=by rw [<-WB (xs:=args),hargs]
 have e2:tys=#[t,t]:=by rw [<-WB (xs:=tys),htys]
 subst e1;subst e2
 have hzs:z.cells.size=sz:=by rw [Vf hb.1,hk1]
 have hby:=TM hb.2
 have hfl:=Vv xs hxs
 intro Q w G a hF hh
 have v1:=hF.ev s
 have v2:=hF.ev x
 rw [h3] at v1
 rw [h4] at v2
 have v1:=v1.val_inv
 have v2:=v2.forget
 have finish:∀(v':Hd) w',(Builtin.append_ #[t,t] type #[v.v,a.eval x]).run P w=.ok v'.v w'->HOk w' G (.row v'.v sz (ls++Z9 xs)::h2)->Ext w G (.row v.v sz ls::h2) w' G (.row v'.v sz (ls++Z9 xs)::h2) ->
   ({ dst:=dst,op:=.call { callee:=.builtin .append,args:=#[s,x],argTypes:=#[t,t] },type:=type,pos:=pos,after:=after,guard:=guard }:Oper).wp P a w
    (fun a' w'=>∃F' h' G',K F' h'/\FR w' G' n F' a'/\HOk w' G' h'/\Ext w G (.row v.v sz ls::h2) w' G' h') Q:=by
  intro v' w' hr j1 j2
  have hrun:(execOp a.eval { dst:=dst,op:=.call { callee:=.builtin .append,args:=#[s,x],argTypes:=#[t,t] },type:=type,pos:=pos,after:=after,guard:=guard }).run P w=.ok (.value v'.v) w':=by
   simp only [execOp,resolve,invoke,builtin,Sem.run_bind,Sem.run_pure,Result.andThen_ok,Js,XW,Th,v1,hr]
  unfold Oper.wp
  rw [hrun]
  exact ⟨_,_,G,hK v',(hF.mono (j2.agree hh)).put (VI hd) .val,j1,j2⟩
 have hrow0:=hh.ok (.row v.v sz ls) (Yd ..)
 have hsub2:∀r:Res,List.Sublist (r::h2) (r::.row v.v sz ls::h2):=fun r=>List.Sublist.cons_cons _ (Z1q _ _)
 have grown:∀(olds news:List Value) (old:Nat),RCs w G ls olds->RCs w G (Z9 xs) news ->
   HOk (w.drew.alloc (.cells (olds.toArray++news.toArray++Builtin.zeroCells z.cells (grownCap w (m+xs.length) old e-(m+xs.length))) e)) G
    (.row (.slice (some ⟨w.heap.size,0,none⟩) (m+xs.length) (grownCap w (m+xs.length) old e)) sz (ls++Z9 xs)::h2) /\
   Ext w G (.row v.v sz ls::h2) (w.drew.alloc (.cells (olds.toArray++news.toArray++Builtin.zeroCells z.cells (grownCap w (m+xs.length) old e-(m+xs.length))) e)) G
    (.row (.slice (some ⟨w.heap.size,0,none⟩) (m+xs.length) (grownCap w (m+xs.length) old e)) sz (ls++Z9 xs)::h2):=by
  intro olds news old ho hn
  have hge:=grownCap_ge w (m+xs.length) old e
  have hol:=ho.length
  have hnl:=hn.length
  have hlen:(ls++Z9 xs).length=(m+xs.length)*sz:=by rw [ZC,hm0,hfl,Up]
  obtain ⟨j1,j2⟩:=hh.drew.alloc_rrow (olds.toArray++news.toArray++Builtin.zeroCells z.cells (grownCap w (m+xs.length) old e-(m+xs.length))) e
   (ls:=ls++Z9 xs) (len:=m+xs.length) (cap:=grownCap w (m+xs.length) old e) (k:=sz) hge
   (by
    have q2:(grownCap w (m+xs.length) old e-(m+xs.length))*sz=grownCap w (m+xs.length) old e*sz-(m+xs.length)*sz:=Nat.sub_mul ..
    have q3:(m+xs.length)*sz<=grownCap w (m+xs.length) old e*sz:=KG _ hge
    have q4:(m+xs.length)*sz=m*sz+xs.length*sz:=Up ..
    simp only [Array.size_append,Z3l,size_zeroCells,hzs,hol,hnl,hm0,hfl]
    omega) hlen
   (by
    have:(olds.toArray++news.toArray++Builtin.zeroCells z.cells (grownCap w (m+xs.length) old e-(m+xs.length))).toList.take ((m+xs.length)*sz)=olds++news:=by
     simp only [Z1j]
     rw [<-hlen,ZC,<-hol,<-hnl,<-ZC]
     exact Jt
    rw [this]
    exact (ho.append hn).mono (KL w G))
  exact ⟨j1.sub (hsub2 _),(Ext.drew w G _).trans (j2.sub' (hsub2 _))⟩
 generalize hax:a.eval x=ax at v2 finish
 cases v2 with
 | nil _=>exact absurd rfl hne
 | sl hq hcc hm=>
  rename_i b o' k' c
  have hpos:0<xs.length:=Z3g.2 hne
  have hfm:=hm.flat_mem
  obtain ⟨news,hn,hnc⟩:=hfm.cells
  have hnl:news.length=xs.length*i.size:=by rw [hn.length,hfl,hk1]
  have hone':=hn.one_cells hone
  have hnews:∀j u,news[j]? = some u->w.cell? ((⟨b,o',none⟩:Addr).add j)=some u:=fun j u hj=>by rw [Qk];exact (hnc j u hj).1
  have hbb:(m+xs.length)*i.bytes<=140737488355328:=by
   have:=Nat.mul_le_mul hbound hby
   omega
  rcases hrow0 with ⟨hv0,hl0⟩|⟨g,len,cap,cur,el,hv0,hrow,hlc,hcur,hll,hcells⟩
  ·subst hl0
   have hm1:m=0:=by
    have:m*sz=0:=by simpa using hm0.symm
    rcases Nat.mul_eq_zero.1 this with h|h
    ·exact h
    ·omega
   subst hm1
   rw [hv0] at finish hh ⊢
   have hr:=run_append_nil (P:=P) w t type e i z ht hinfo hz ⟨b,o',none⟩ xs.length c news hnl hnews hpos om (by simp only [XQ] at hbb;omega)
   obtain ⟨j1,j2⟩:=grown [] news 0 .nil hn
   simp only [XQ,Array.empty_append,Zbg] at j1 j2
   rw [hv0] at j2
   exact finish ⟨some ⟨w.heap.size,0,none⟩,xs.length,grownCap w xs.length 0 e⟩ _ hr (by simpa using j1) (by simpa using j2)
  ·have hlm:len=m:=Z6g hk0 (hll.symm.trans hm0)
   subst hlm
   rw [hv0] at finish hh ⊢
   have q5:len*sz<=cap*sz:=KG _ hlc
   have h1:(cur.toList.take (len*sz)).length=len*sz:=by rw [TL,TJ,hcur,Qi q5]
   have hcl:cur.toList.length=cap*sz:=by rw [TJ,hcur]
   by_cases hroom:len+xs.length<=cap
   ·have q1:(len+xs.length)*sz<=cap*sz:=KG _ hroom
    have q2:(len+xs.length)*sz=len*sz+xs.length*sz:=Up ..
    have hfit:len*i.size+news.length<=cur.size:=by rw [hnl,hcur,hk1];omega
    have hr:=Za2 (P:=P) w t type e el i ht hinfo g len cap cur hrow ⟨b,o',none⟩ xs.length c news hnl hnews hone' hroom hfit
    rw [hk1] at hr
    have hnl':news.length=xs.length*sz:=by rw [hnl,hk1]
    obtain ⟨j1,j2⟩:=hh.rgrow (ls':=ls++Z9 xs) (len':=len+xs.length) (cs':=(cur.toList.take (len*sz)++news++cur.toList.drop (len*sz+news.length)).toArray) hrow
     (by simp only [Z3l,ZC,h1,hnl',Z6e,hcl,hcur];omega) hroom hcur (by rw [ZC,hll,hfl,q2]) (by
      have:(cur.toList.take (len*sz)++news++cur.toList.drop (len*sz+news.length)).toArray.toList.take ((len+xs.length)*sz)=cur.toList.take (len*sz)++news:=by
       rw [Z3o,q2,<-hnl']
       conv=>lhs;arg 1;rw [show len*sz+news.length=(cur.toList.take (len*sz)++news).length from by rw [ZC,h1]]
       exact Jt
      rw [this]
      exact hcells.append hn)
    exact finish ⟨some ⟨g,0,none⟩,len+xs.length,cap⟩ _ hr j1 j2
   ·have hr:=run_append_grow (P:=P) w t type e i z ht hinfo hz ⟨g,0,none⟩ len cap (cur.toList.take (len*sz)) (by rw [hk1];exact h1) (fun j u hj=>by
     rw [Qk,cell_of_row w g _ cur el (0,0) hrow]
     rw [Uo] at hj
     split at hj
     ·simpa using hj
     ·cases hj) ⟨b,o',none⟩ xs.length c news hnl hnews om om (growslice_fits om hbb)
    obtain ⟨j1,j2⟩:=grown (cur.toList.take (len*sz)) news cap hcells hn
    rw [hv0] at j2
    exact finish ⟨some ⟨w.heap.size,0,none⟩,len+xs.length,grownCap w (len+xs.length) cap e⟩ _ hr j1 j2
end
section
variable {P:Program} {n:Nat} {ops:Array Oper} {B:Fr->List Res->Prop} {k:Nat} {F:Fr} {h:List Res}
end
end Go.Abs
namespace Go.Abs
section
variable {P:Program} {n:Nat} {ops:Array Oper} {B:Fr->List Res->Prop} {T:List (Nat × List Nat)} {fuel:Nat} {done:List Nat} {F:Fr} {h:List Res}
theorem dKA (i j m:Nat) (js bs:List Nat) (v:Hd) (sz:Nat) (ls xs:List AV) (hx:Option Value) (hm0:ls.length=m*sz) (hxs:∀y∈xs,y.leaves.length=sz) (hone:(Z9 xs).all AV.one=true) (hne:xs≠[]) (hbound:m+xs.length<=4294967296)
  (hK:∀v':Hd,Y6 P n ops B (T.filter fun t=>!Wu ops i t.1) fuel (done++[i]) (F.put (Zk ops i).dst (.h v')) (rK v' sz (ls++Z9 xs)::YZ [j] h)) (hk0:0<sz:=by omega) (hk:Yj n ops F i=true:=by kernel_rfl)
  (ha:Us P ops F i=some (.h v,.sl xs hx,sz):=by kernel_rfl) (hp:XC [j] h=some [rK v sz ls]:=by kernel_rfl) (ho:U2 ops i T=bs:=by kernel_rfl)
  (hj:js.map (fun q=>(XU (YZ [j] h))[q]?)=bs.map some:=by kernel_rfl):V5 P n ops B T fuel done F h i:=
 QI [j] js bs hk (Wp hp) ho hj (Zvh (h2:=[]) (V0 hk).2.1 ha hxs hone hm0 hk0 hne hbound hK)
end
theorem Zd.form {P:Program} {f:FuncId} {as1:List AV} {h0:List Res} {T:Hd->AV} {kk m:Nat} {ls:List AV} {hs:List Res} (H:Zd P f as1 h0 (fun r h=>∃v:Hd,r=T v/\h=rK v kk ls::hs)) (hm:ls.length=m*kk) (hk:0<kk) (h1:0<m) :
  Zd P f as1 h0 (fun r h=>∃(g c:Nat),r=T ⟨some ⟨g,0,none⟩,m,c⟩/\h=rK ⟨some ⟨g,0,none⟩,m,c⟩ kk ls::hs):=by
 intro w G vs hv hh
 refine (H w G vs hv hh).mono ?_
 rintro e w' ⟨u,r,h',G',he,⟨v,rfl,rfl⟩,hr,hh',hx⟩
 obtain ⟨g,c,rfl⟩:=Z5j (hh'.ok _ (Yd ..)) hm hk h1
 exact ⟨u,_,_,G',he,⟨g,c,rfl,rfl⟩,hr,hh',hx⟩
end Go.Abs
namespace Go.Abs
section
variable {h:List Res}
theorem Y0i (j i p:Nat) {u:Value} {kk b:Nat} {es ls:List AV} (hp:XC [j,i] h=some [.row u kk (Z9 es),.obj b ls]) (hes:∀y∈es,y.leaves.length=kk) (hk:0<kk) (hl:ls[p]? = some (.val u)) :
  VT h (.obj b (ls.set p (.sl es (some u)))::.tail u kk::YZ [j,i] h):=by
 intro w G hh
 have hp':=Va (Wp hp)
 have hh':=hh.perm hp'
 obtain ⟨G',h1,h2',h3⟩:=Z5k (h2:=.obj b ls::YZ [j,i] h) hh' hes hk
 have e:=h2'.perm hp'.symm (Tf _)
 have h1:HOk w G' (.tail u kk::.obj b ls::YZ [j,i] h):=h1
 have perm:(Res.tail u kk::.obj b ls::YZ [j,i] h).Perm (.obj b ls::.tail u kk::YZ [j,i] h):=List.Perm.swap ..
 have h4:=h1.perm perm
 have e4:=e.perm (Tf _) perm
 have hset:∀{w:World} {G:Zs},RV w G (.sl es (some u)) u->Vg w G (.obj b ls)->Vg w G (.obj b (ls.set p (.sl es (some u)))):=by
  intro w G hu hr
  obtain ⟨cs,el,k1,k5⟩:=hr
  refine ⟨cs,el,k1,?_⟩
  obtain ⟨c,c1,c2⟩:=k5.get p _ hl
  have:=c2.val_inv
  subst this
  have h6:=k5.set p hu
  rwa [show cs.toList.set p c=cs.toList from by
   apply List.ext_getElem?
   intro q
   rw [List.getElem?_set]
   split
   ·rename_i hq;subst hq;split
    ·exact c1.symm
    ·rename_i hq2;rw [Z3e om]
   ·rfl] at h6
 refine ⟨G',⟨fun r hr=>?_,?_,fun r hr=>?_,h4.lt⟩,⟨e4.os,e4.tape,e4.output,e4.size,e4.sub,e4.same,e4.newG,fun b' o hb ⟨r,hr,hf⟩=>e4.newfp b' o hb ?_⟩⟩
 ·rcases ZM.1 hr with rfl|hr
  ·exact hset h3 (h4.ok _ (Yd ..))
  ·exact h4.ok r (Yy _ hr)
 ·have:=XX.1 h4.apart
  exact XX.2 ⟨fun r hr b' o f1 f2=>this.1 r hr b' o f1 f2,this.2⟩
 ·rcases ZM.1 hr with rfl|hr
  ·exact fun b' o f1 hg=>h4.prot (.obj b ls) (Yd ..) b' o f1 hg
  ·exact h4.prot r (Yy _ hr)
 ·rcases ZM.1 hr with rfl|hr
  ·exact ⟨.obj b ls,Yd ..,hf⟩
  ·exact ⟨r,Yy _ hr,hf⟩
theorem Zko (j i p:Nat) (u:Value) (kk b:Nat) (es ls:List AV) (hes:∀y∈es,y.leaves.length=kk) (hl:ls[p]? = some (.val u)) (hk:0<kk:=by omega) (hp:XC [j,i] h=some [.row u kk (Z9 es),.obj b ls]:=by kernel_rfl) :
  VT h (.obj b (ls.set p (.sl es (some u)))::.tail u kk::YZ [j,i] h):=Y0i j i p hp hes hk hl
end
end Go.Abs
namespace Go.Abs
section
variable {P:Program} {n:Nat} {ops:Array Oper} {k:Nat} {F:Fr} {h:List Res}
variable {B:Fr->List Res->Prop}
end
end Go.Abs
end
section
namespace Go.Abs
section
variable {h:List Res}
theorem Y0l (j i:Nat) {A B:List (Value × Nat)} {u w:Value} {k k':Nat} (hp:XC [j,i] h=some [.many (A++(u,k')::B),.tail w k]):VT h (.many (A++(w,k)::B)::YZ [j,i] h):=by
 intro W G hh
 have hp':=Va (Wp hp)
 have hh':=hh.perm hp'
 have hpw:=Ti.1 hh'.apart
 have hm:Vg W G (.many (A++(u,k')::B)):=hh'.ok _ (ZG.2 (.inl (Yd ..)))
 have ht:Vg W G (.tail w k):=hh'.ok _ (ZG.2 (.inl (Yy _ (Yd ..))))
 have hdis:QB (.many (A++(u,k')::B)) (.tail w k):=(XX.1 hpw.1).1 _ (Yd ..)
 have tfp:∀{b o:Nat},Res.fp (.tail w k) b o↔Jo w k b o:=by
  intro b o
  cases w with
  | slice a _ _=>cases a<;>exact Iff.rfl
  | _=>exact Iff.rfl
 obtain ⟨m1,m2⟩:=hm
 obtain ⟨p1,p2,p3⟩:=Ti.1 m2
 obtain ⟨p4,p5⟩:=XX.1 p2
 have sub:∀{b o:Nat},Res.fp (.many (A++(w,k)::B)) b o->X9 [.many (A++(u,k')::B),.tail w k] b o:=by
  rintro b o ⟨p,hp,hf⟩
  rcases ZG.1 hp with hp|hp
  ·exact ⟨_,Yd ..,⟨p,ZG.2 (.inl hp),hf⟩⟩
  rcases ZM.1 hp with rfl|hp
  ·exact ⟨_,Yy _ (Yd ..),tfp.2 hf⟩
  ·exact ⟨_,Yd ..,⟨p,ZG.2 (.inr (Yy _ hp)),hf⟩⟩
 have hmany:Vg W G (.many (A++(w,k)::B)):=by
  refine ⟨fun p hp=>?_,Ti.2 ⟨p1,XX.2 ⟨fun p hp b o f1 f2=>?_,p5⟩,fun p hp q hq b o f1 f2=>?_⟩⟩
  ·rcases ZG.1 hp with hp|hp
   ·exact m1 p (ZG.2 (.inl hp))
   rcases ZM.1 hp with rfl|hp
   ·exact ht
   ·exact m1 p (ZG.2 (.inr (Yy _ hp)))
  ·exact hdis b o ⟨p,ZG.2 (.inr (Yy _ hp)),f2⟩ (tfp.2 f1)
  ·rcases ZM.1 hq with rfl|hq
   ·exact hdis b o ⟨p,ZG.2 (.inl hp),f1⟩ (tfp.2 f2)
   ·exact p3 p hp q (Yy _ hq) b o f1 f2
 refine ⟨G,⟨fun r hr=>?_,XX.2 ⟨fun r hr b o f1 f2=>?_,hpw.2.1⟩,fun r hr b o hf hg=>?_,hh'.lt⟩,
  ⟨rfl,rfl,rfl,Yp _,fun _ _ h=>h,fun _ _=>.inl rfl,fun _ _ _ h=>.inl h,fun b o _ ⟨r,hr,hf⟩=>?_⟩⟩
 ·rcases ZM.1 hr with rfl|hr
  ·exact hmany
  ·exact hh'.ok r (ZG.2 (.inr hr))
 ·exact hh'.cross (sub f1) ⟨r,hr,f2⟩
 ·rcases ZM.1 hr with rfl|hr
  ·obtain ⟨q,hq,hf⟩:=sub hf
   exact hh'.prot q (ZG.2 (.inl hq)) b o hf hg
  ·exact hh'.prot r (ZG.2 (.inr hr)) b o hf hg
 ·refine (Kk hp').2 ?_
  rcases ZM.1 hr with rfl|hr
  ·exact TV.2 (.inl (sub hf))
  ·exact TV.2 (.inr ⟨r,hr,hf⟩)
theorem Y00 (j i:Nat) (A B:List (Value × Nat)) (u w:Value) (k k':Nat) {L L':List (Value × Nat)} (h1:L=A++(u,k')::B) (h2:A++(w,k)::B=L') (hp:XC [j,i] h=some [.many L,.tail w k]:=by kernel_rfl):VT h (.many L'::YZ [j,i] h):=by
 subst h1 h2
 exact Y0l j i hp
end
end Go.Abs
namespace Go.Abs
section
variable {P:Program} {ops:Array Oper} {k:Nat} {F:Fr} {h:List Res}
def Z9d (ops:Array Oper) (F:Fr) (k:Nat):Option (Int × Int):=
 match (Zk ops k).op with
 | .call c=>match c.callee,c.args.toList with
  | .builtin .max,[x,y]=>match F.ev x,F.ev y with
   | .val (.int .i64 a),.val (.int .i64 b)=>some (a,b)
   | _,_=>none
  | _,_=>none
 | _=>none
theorem Zz8 {a b:Int} (hl:Z9d ops F k=some (a,b)):Yz P (Zk ops k) F h [] (.i (max a b)):=by
 unfold Z9d at hl
 generalize hoo:Zk ops k=o at hl
 obtain ⟨dst,op,type,pos,after,guard⟩:=o
 cases op<;>simp only at hl<;>try (cases hl)
 rename_i c
 obtain ⟨callee,args,tys⟩:=c
 simp only at hl
 split at hl
 case h_2=>cases hl
 rename_i x y hargs
 split at hl
 case h_2=>cases hl
 rename_i u v hx hy
 cases hl
 have e1:args=#[x,y]:=by rw [<-WB (xs:=args),hargs]
 subst e1
 intro n w G a' hF hh
 have vx:=hF.ev x
 have vy:=hF.ev y
 rw [hx] at vx
 rw [hy] at vy
 have vx:=vx.val_inv
 have vy:=vy.val_inv
 refine ⟨_,.val,fun w' _ _=>?_⟩
 simp only [execOp,resolve,invoke,builtin,Sem.run_bind,Sem.run_pure,Result.andThen_ok,Js,XW,Th,vx,vy]
 have e:(if b>a then b else a)=max a b:=by
  rw [Int.max_def]
  split<;>split<;>omega
 simp [Builtin.max_,Builtin.max2,Sem.run_pure,List.foldlM,e]
theorem Z2l (a b:Int) (ha:Z9d ops F k=some (a,b):=by kernel_rfl):Yz P (Zk ops k) F h [] (.i (max a b)):=Zz8 ha
end
end Go.Abs
end
namespace Go.Abs
structure Instr where
 op:Int
 dst:Int
 num:Int
 into:Int
 args:List Int
 jumps:List Int
structure Proc where
 params:List Int
 lent:List Int
 result:Int
 regs:Int
 code:List Instr
structure Image where
 decls:List Decl
 procs:List Proc
abbrev UQ (x:Instr):List AV:=[.i x.op,.i x.dst,.i x.num,.i x.into,Z1 x.args,Z1 x.jumps]
abbrev UJ (x:Instr):AV:=.agg (UQ x)
def ZS (xs:List Instr):List AV:=xs.map UJ
abbrev XT (xs:List Instr):AV:=.sl (ZS xs) none
abbrev Zhn (xs:List Instr) (v:Value):AV:=.sl (ZS xs) (some v)
abbrev Z53 (x:Proc):List AV:=[Z1 x.params,Z1 x.lent,.i x.result,.i x.regs,XT x.code]
abbrev QD (x:Proc):AV:=.agg (Z53 x)
def V9 (xs:List Proc):List AV:=xs.map QD
abbrev U1 (xs:List Proc):AV:=.sl (V9 xs) none
abbrev Q4 (xs:List Proc) (v:Value):AV:=.sl (V9 xs) (some v)
abbrev Tv (x:Image):List AV:=[Z3 x.decls,U1 x.procs]
abbrev UI (x:Image):AV:=.agg (Tv x)
structure HInstr where
 op:Int
 dst:Int
 num:Int
 into:Int
 args:List Int
 av:Value
 jumps:List Int
 jv:Value
structure HProc where
 params:List Int
 pv:Value
 lent:List Int
 lv:Value
 result:Int
 regs:Int
 code:List HInstr
 cv:Value
structure HImage where
 decls:List HDecl
 dv:Value
 procs:List HProc
 pv:Value
abbrev JT (x:HInstr):List AV:=[.i x.op,.i x.dst,.i x.num,.i x.into,Zb x.args x.av,Zb x.jumps x.jv]
abbrev Zbj (x:HInstr):AV:=.agg (JT x)
def ZO (xs:List HInstr):List AV:=xs.map Zbj
abbrev Zut (xs:List HInstr):AV:=.sl (ZO xs) none
abbrev Z5e (xs:List HInstr) (v:Value):AV:=.sl (ZO xs) (some v)
abbrev Z52 (x:HProc):List AV:=[Zb x.params x.pv,Zb x.lent x.lv,.i x.result,.i x.regs,Z5e x.code x.cv]
abbrev Zbk (x:HProc):AV:=.agg (Z52 x)
def Vt (xs:List HProc):List AV:=xs.map Zbk
abbrev Zuu (xs:List HProc):AV:=.sl (Vt xs) none
abbrev QU (xs:List HProc) (v:Value):AV:=.sl (Vt xs) (some v)
abbrev Z51 (x:HImage):List AV:=[Vk x.decls x.dv,QU x.procs x.pv]
abbrev UH (x:HImage):AV:=.agg (Z51 x)
theorem Z25 {xs:List Instr} {j:Nat} {x:Instr} (h:xs[j]? = some x):(ZS xs)[j]? = some (UJ x):=by simp [ZS,h]
@[simp] theorem Z26 (xs:List Instr):(ZS xs).length=xs.length:=by simp [ZS]
theorem Z7v (xs ys:List Instr):ZS (xs++ys)=ZS xs++ZS ys:=by simp [ZS]
theorem Z7w (xs:List Instr):∀y∈ZS xs,y.leaves.length=6:=by intro y hy;simp only [ZS,YJ] at hy;obtain ⟨x,_,rfl⟩:=hy;rfl
theorem Zp9 (xs:List Instr):(Z9 (ZS xs)).all AV.one=true:=Qt fun y hy=>by simp only [ZS,YJ] at hy;obtain ⟨x,_,rfl⟩:=hy;rfl
theorem QN (xs:List Instr):(Z9 (ZS xs)).length=xs.length*6:=by rw [Vv _ (Z7w _)];simp
theorem Zqo (xs:List Instr) (x:Instr):Z9 (ZS xs)++Z9 (ZS [x])=Z9 (ZS (xs++[x])):=by rw [Z7v,Vu]
theorem Zff {xs:List Instr} {i:Nat} {s:Instr} (h:xs[i]? = some s):Z9 (ZS xs)=Z9 (ZS (xs.take i))++(UQ s++Z9 (ZS (xs.drop (i+1)))):=by
 have hk:=(Yg.1 h).1
 have hd:xs.drop i=s::xs.drop (i+1):=by
  rw [Z6c hk]
  congr 1
  rw [UX hk] at h
  exact U6 h
 have e:xs=xs.take i++(s::xs.drop (i+1)):=by rw [<-hd,Z3m]
 conv=>lhs;rw [e,Z7v,Vu]
 rfl
theorem Zqn {xs:List Instr} {i:Nat} {s:Instr} (h:xs[i]? = some s):((Z9 (ZS xs)).drop (i*6)).take (UQ s).length=UQ s:=by
 have hi:=(Yg.1 h).1
 have hl:(Z9 (ZS (xs.take i))).length=i*6:=by rw [QN,TL,Qi om]
 rw [Zff h]
 exact Z9z hl
theorem Zfe {xs:List Instr} {i:Nat} {s t:Instr} (h:xs[i]? = some s):(Z9 (ZS xs)).take (i*6)++UQ t++(Z9 (ZS xs)).drop (i*6+(UQ t).length)=Z9 (ZS (xs.set i t)):=by
 have hi:=(Yg.1 h).1
 have hl:(Z9 (ZS (xs.take i))).length=i*6:=by rw [QN,TL,Qi om]
 rw [Zff h,Qu (xs:=UQ s) (ys:=UQ t) hl rfl]
 have e:xs.set i t=xs.take i++(t::xs.drop (i+1)):=by rw [Z1p,Z8 hi]
 rw [e,Z7v,Vu]
 rfl
theorem Z7y {xs:List Proc} {j:Nat} {x:Proc} (h:xs[j]? = some x):(V9 xs)[j]? = some (QD x):=by simp [V9,h]
@[simp] theorem Z4e (xs:List Proc):(V9 xs).length=xs.length:=by simp [V9]
theorem Ze1 (xs:List Proc):∀y∈V9 xs,y.leaves.length=5:=by intro y hy;simp only [V9,YJ] at hy;obtain ⟨x,_,rfl⟩:=hy;rfl
theorem Zpc (xs:List Proc):(Z9 (V9 xs)).all AV.one=true:=Qt fun y hy=>by simp only [V9,YJ] at hy;obtain ⟨x,_,rfl⟩:=hy;rfl
@[simp] theorem Zdu (xs:List HInstr):(ZO xs).length=xs.length:=by simp [ZO]
theorem Z4c (xs ys:List HInstr):ZO (xs++ys)=ZO xs++ZO ys:=by simp [ZO]
theorem Z7t (xs:List HInstr):∀y∈ZO xs,y.leaves.length=6:=by intro y hy;simp only [ZO,YJ] at hy;obtain ⟨x,_,rfl⟩:=hy;rfl
theorem Zp2 (xs:List HInstr):(Z9 (ZO xs)).all AV.one=true:=Qt fun y hy=>by simp only [ZO,YJ] at hy;obtain ⟨x,_,rfl⟩:=hy;rfl
theorem T7 (xs:List HInstr):(Z9 (ZO xs)).length=xs.length*6:=by rw [Vv _ (Z7t _)];simp
theorem Zfa {xs:List HInstr} {i:Nat} {s:HInstr} (h:xs[i]? = some s):Z9 (ZO xs)=Z9 (ZO (xs.take i))++(JT s++Z9 (ZO (xs.drop (i+1)))):=by
 have hk:=(Yg.1 h).1
 have hd:xs.drop i=s::xs.drop (i+1):=by
  rw [Z6c hk]
  congr 1
  rw [UX hk] at h
  exact U6 h
 have e:xs=xs.take i++(s::xs.drop (i+1)):=by rw [<-hd,Z3m]
 conv=>lhs;rw [e,Z4c,Vu]
 rfl
@[simp] theorem Zp4 (xs:List HProc):(Vt xs).length=xs.length:=by simp [Vt]
theorem Zp3 (xs ys:List HProc):Vt (xs++ys)=Vt xs++Vt ys:=by simp [Vt]
theorem Zdv (xs:List HProc):∀y∈Vt xs,y.leaves.length=5:=by intro y hy;simp only [Vt,YJ] at hy;obtain ⟨x,_,rfl⟩:=hy;rfl
theorem Zp5 (xs:List HProc):(Z9 (Vt xs)).all AV.one=true:=Qt fun y hy=>by simp only [Vt,YJ] at hy;obtain ⟨x,_,rfl⟩:=hy;rfl
def Tt (x:HInstr):List (Value × Nat):=[(x.av,1),(x.jv,1)]
def ZY (xs:List HInstr):List (Value × Nat):=xs.flatMap Tt
def Ko (x:HProc):List (Value × Nat):=(x.pv,1)::(x.lv,1)::(ZY x.code++[(x.cv,6)])
def Wx (xs:List HProc):List (Value × Nat):=xs.flatMap Ko
def WG (x:HImage):List (Value × Nat):=Yn x.decls++((x.dv,3)::(Wx x.procs++[(x.pv,5)]))
theorem Kn (xs ys:List HInstr):ZY (xs++ys)=ZY xs++ZY ys:=by simp [ZY]
theorem Z2g (xs ys:List HProc):Wx (xs++ys)=Wx xs++Wx ys:=by simp [Wx]
def HInstr.er (x:HInstr):Instr:=⟨x.op,x.dst,x.num,x.into,x.args,x.jumps⟩
def HProc.er (x:HProc):Proc:=⟨x.params,x.lent,x.result,x.regs,x.code.map HInstr.er⟩
def HImage.er (x:HImage):Image:=⟨x.decls.map HDecl.er,x.procs.map HProc.er⟩
theorem Zu9 (x:HInstr):LsLe (JT x) (UQ x.er):=.cons (Zg.refl _) (.cons (Zg.refl _) (.cons (Zg.refl _) (.cons (Zg.refl _) (.cons (Zg.forget _ _) (.cons (Zg.forget _ _) .nil)))))
theorem Zpx (xs:List HInstr):EsLe (ZO xs) (ZS (xs.map HInstr.er)):=EsLe.map (f:=Zbj) (g:=UJ) (e:=HInstr.er) (fun c=>⟨rfl,Zu9 c⟩) xs
theorem Zub (x:HProc):LsLe (Z52 x) (Z53 x.er):=.cons (Zg.forget _ _) (.cons (Zg.forget _ _) (.cons (Zg.refl _) (.cons (Zg.refl _) (.cons (Zg.els _ (Zpx _)) .nil))))
theorem Zpy (xs:List HProc):EsLe (Vt xs) (V9 (xs.map HProc.er)):=EsLe.map (f:=Zbk) (g:=QD) (e:=HProc.er) (fun c=>⟨rfl,Zub c⟩) xs
theorem Zu8 (x:HImage):LsLe (Z51 x) (Tv x.er):=.cons (Zg.els _ (Zej _)) (.cons (Zg.els _ (Zpy _)) .nil)
theorem Zcw (x:HImage):Zg (UH x) (UI x.er):=Zg.agg (Zu8 x)
def ZB (op dst num into:Int) (args:List Int):Instr:=⟨op,dst,num,into,args,[]⟩
def Instr.goto (x:Instr) (v:Int):Instr:=⟨x.op,x.dst,v,x.into,x.args,x.jumps⟩
def Instr.fan (x:Instr) (js:List Int):Instr:=⟨x.op,x.dst,x.num,x.into,x.args,js⟩
def XH (c:List Instr) (i:Nat):List Instr:=match c[i]? with
 | none=>c
 | some x=>c.set i (x.goto c.length)
def U0 (c:List Instr) (i:Nat) (js:List Int):List Instr:=match c[i]? with
 | none=>c
 | some x=>c.set i (x.fan js)
def Ur (c:List Instr):List Nat->List Instr
 | []=>c
 | i::r=>Ur (XH c i) r
structure FEnv (E:Type) where
 res:E->Int->List Int
 len:E->Nat
 nxt:E->E
 arm:E->Int->Int->Nat->E
def YE (m many:Nat) (x:Int):List Instr:=(List.range many).map fun i=>ZB 19 ((m+i:Nat):Int) (i:Int) 0 [x]
def Z1w (r:List Block) (c:List Instr):List Instr:=match r with|[]=>c|_::_=>c++[ZB 22 0 0 0 []]
def Zcr (r:List Block) (es:List Nat) (l:Nat):List Nat:=match r with|[]=>es|_::_=>es++[l+1]
section
variable {E:Type} (X:FEnv E) (ds:List Decl)
mutual
def Xj (e:E):Step->List Instr->List Instr
 | .mk op num into args kids,c=>
  if op=7 then Ua e args kids c
  else if op=8 then Wh e num (gI args 0) c.length kids 0 (c++[ZB 21 0 num 0 args]) [] []
  else if op=14∨op=15 then c++[ZB op 0 0 0 args]
  else if op=16∨op=17 then c++[ZB op 0 0 0 (args++X.res e (gI args 0))]
  else c++[ZB op (X.len e) num into args]
def Ua (e:E) (args:List Int):List Block->List Instr->List Instr
 | b::r,c=>Ui e (c.length) r (flB e b (c++[ZB 20 0 0 0 args])++[ZB 18 (X.len e) 0 0 [b.result]])
 | [],c=>c
def Ui (e:E) (Z5:Nat):List Block->List Instr->List Instr
 | b::_,c=>XH (flB e b (XH (c++[ZB 22 0 0 0 []]) Z5)++[ZB 18 (X.len e) 0 0 [b.result]]) c.length
 | [],c=>c
def Wh (e:E) (num x:Int) (Z5:Nat):List Block->Nat->List Instr->List Int->List Nat->List Instr
 | [],_,c,ts,es=>Ur (U0 c Z5 ts) es
 | b::r,k,c,ts,es=>
  Wh e num x Z5 r (k+1) (Z1w r (flB (X.arm e x num k) b (c++YE (X.len e) (XZ ds num k).length x)++[ZB 18 (X.len e) 0 0 [b.result]])) (ts++[(c.length:Int)])
   (Zcr r es (flB (X.arm e x num k) b (c++YE (X.len e) (XZ ds num k).length x)).length)
def Ww (e:E):List Step->List Instr->List Instr
 | [],c=>c
 | s::r,c=>Ww (if Y2 s.op=true then e else X.nxt e) r (Xj e s c)
def flB (e:E):Block->List Instr->List Instr
 | .mk steps _,c=>Ww e steps c
end
end

end Go.Abs
section
namespace Go.Abs
section
variable {ds:List Decl} {m:Nat}
end
mutual
def wS (ds:List Decl):Step->Prop
 | .mk op num into args kids=>(Yl op=!Y2 op)/\(Y2 op=true->num=0/\into=0/\kids=[]/\∃a,args=[a])/\(op=8->(∃a,args=[a]/\0<=a/\a<=900000000)/\kids.length=(Zt ds num).length)/\KD ds kids
def KD (ds:List Decl):List Block->Prop
 | []=>True
 | b::r=>wB ds b/\KD ds r
def wSs (ds:List Decl):List Step->Prop
 | []=>True
 | s::r=>wS ds s/\wSs ds r
def wB (ds:List Decl):Block->Prop
 | .mk steps _=>wSs ds steps
end
section
variable {ds:List Decl}
end
section
variable {n:Normal}
theorem Zv1 {us:List Int} {s:Step} (g:0<=Zp n us s) (h:Y2 s.op=true):s.num=0/\s.into=0/\s.kids=[]:=by
 have ho:14<=s.op/\s.op<=17:=by simpa [Y2] using h
 rw [Qd] at g
 split at g
 ·omega
 ·rename_i q
  refine ⟨Z6b fun z=>q (.inl ⟨z,?_⟩),Z6b fun z=>q (.inr (.inl ?_)),Z6b fun z=>q (.inr (.inr ⟨Z3g.2 z,by omega,by omega⟩))⟩
  ·rw [XI];simp;omega
  ·rw [Wl,Z4 z,Z4 om];simp
mutual
theorem Y10:∀(s:Step) {us:List Int},us.length+4*s.sz<=900000000->DOk n.decls->0<=Zp n us s->wS n.decls s
 | .mk op num into args kids,us,hu,hd,g=>by
  have hf:=TG g
  rw [wS]
  refine ⟨KR g,fun hc=>?_,fun h8=>?_,?_⟩
  ·obtain ⟨h1,h2,h3⟩:=Zv1 g hc
   have ho:14<=op/\op<=17:=by simpa [Y2] using hc
   exact ⟨h1,h2,h3,hf.one (.inr (.inr ho))⟩
  ·obtain ⟨k1,k2,k3⟩:=hf.kids (.inr h8)
   obtain ⟨a,ha⟩:=hf.one (.inr (.inl h8))
   have hb:=hf.args a (by rw [ha];exact ZW.2 rfl)
   refine ⟨⟨a,ha,hb.1,by omega⟩,?_⟩
   have e:Zy n.decls op num=(Zt n.decls num).map (Zc n.decls):=by rw [Zy,Z4 om]
   have k1':kids.length=(Zy n.decls op num).length:=k1
   rw [k1',e,TK]
  ·refine Zky kids hd fun i b hb=>?_
   have hl:0<kids.length:=by have:=(Yg.1 hb).1;omega
   obtain ⟨k1,k2,k3⟩:=hf.kids (Z91 g hl)
   have k1':kids.length=(Zy n.decls op num).length:=k1
   have hi:=(Yg.1 hb).1
   obtain ⟨mk,hmk⟩:=Zl (xs:=Zy n.decls op num) (j:=i) om
   have hk3:=Z0d hd hmk
   have hbs:=Z0f hb
   rw [Step.sz] at hu
   exact ⟨us++mk,by rw [ZC];omega,k3 i b mk hb hmk⟩
theorem Zky:∀(bs:List Block),DOk n.decls->(∀(i:Nat) (b:Block),bs[i]? = some b->∃us:List Int,us.length+4*b.sz<=900000000/\0<=ZF n us b)->KD n.decls bs
 | [],_,_=>True.intro
 | b::r,hd,h=>by
  obtain ⟨us,hq,hu⟩:=h 0 b rfl
  exact ⟨Zkx b hq hd hu,Zky r hd fun i x hx=>h (i+1) x (by simpa using hx)⟩
theorem Zkz:∀(xs:List Step) {us vs:List Int},us.length+4*ZR xs<=900000000->DOk n.decls->X7 n xs us=some vs->wSs n.decls xs
 | [],_,_,_,_,_=>True.intro
 | s::r,us,vs,hu,hd,h=>by
  obtain ⟨g1,g2⟩:=KA h
  rw [ZR] at hu
  have h1:=s.sz_pos
  have h2:=Jc n us s
  exact ⟨Y10 s om hd g1,Zkz r om hd g2⟩
theorem Zkx:∀(b:Block) {us:List Int},us.length+4*b.sz<=900000000->DOk n.decls->0<=ZF n us b->wB n.decls b
 | .mk steps result,us,hu,hd,h=>by
  obtain ⟨fvs,t0,hvs,_,_⟩:=QF h
  rw [Block.sz] at hu
  rw [wB];exact Zkz steps om hd hvs
end
end
section
variable {ds:List Decl}
variable (hd:DOk ds)
include hd
end
section
variable {ds:List Decl} {m:Nat}
end
theorem Zkw {n:Normal} (hn:NOk n) (hz:NSz n) (hbt:∀r∈n.routines,0<=ZF n r.params r.body):∀r∈n.routines,wB n.decls r.body:=fun r hr=>Zkx r.body (by have:=hz.body r hr;have:=hn.params r hr;omega) hn.decls (hbt r hr)
end Go.Abs
namespace Go.Abs
section
variable {fs D R:List Int} {q k:Nat} {f:Int} {r:List Int × List Int}
end
end Go.Abs
end
namespace Go.Abs
def Ya (ds:List Decl):FEnv (List Int × List Int):=
 ⟨fun e x=>Y7 (Zc ds (gI e.1 x)) (gI e.2 x),fun e=>e.1.length,fun e=>(e.1++[0],e.2++[0]),
 fun e x num k=>(e.1.set x.toNat (QH ds num k)++Y0 (Zc ds (QH ds num k)).length,e.2.set x.toNat e.1.length++Y0 (Zc ds (QH ds num k)).length)⟩
def Y4 (ds:List Decl):FEnv (List Arm × Nat):=
 ⟨fun e x=>Y7 (W9 e.1 x).fds (W9 e.1 x).fst,fun e=>e.2,fun e=>(e.1,e.2+1),
 fun e x num k=>(e.1++[⟨x,(e.2:Int),XZ ds num k,false⟩],e.2+(XZ ds num k).length)⟩
theorem Zde {x:Int}:∀{D1 D2:List Int} {R1 R2:List Step},D1.map (Qn 14)++[Qn 15 x]++R1=D2.map (Qn 14)++[Qn 15 x]++R2->D1=D2/\R1=R2
 | [],[],R1,R2,h=>by simpa using h
 | a::D1,[],R1,R2,h=>by
  have:=Y1 Step.op (Z07 h).1
  exact absurd this (by show (14:Int)≠15;decide)
 | [],b::D2,R1,R2,h=>by
  have:=Y1 Step.op (Z07 h).1
  exact absurd this (by show (15:Int)≠14;decide)
 | a::D1,b::D2,R1,R2,h=>by
  have h1:=Z07 h
  have h2:a=b:=by have:=Y1 Step.args h1.1;simpa [Qn,Step.args] using this
  obtain ⟨h3,h4⟩:=Zde (D1:=D1) (D2:=D2) h1.2
  exact ⟨by rw [h2,h3],h4⟩
def SEq (ds:List Decl) (cons first:List Int) (am:List Arm) (m:Nat) (s:Step):Prop:=
 (s.op=16∨s.op=17->Y7 (Zc ds (gI cons (gI s.args 0))) (gI first (gI s.args 0))=Y7 (W9 am (gI s.args 0)).fds (W9 am (gI s.args 0)).fst) /\
  (¬Y2 s.op=true->UV ds cons first s.op s.num s.args s.kids 0=Uy ds am m s.op s.num s.args s.kids 0)
theorem Zyw {ds:List Decl} {cons first:List Int} {am:List Arm} {m:Nat} {s:Step} {r:List Step} (h:K2 ds cons first (s::r)=QM ds am m (s::r)) :
  SEq ds cons first am m s/\K2 ds (if Y2 s.op=true then cons else cons++[0]) (if Y2 s.op=true then first else first++[0]) r=QM ds am (if Y2 s.op=true then m else m+1) r:=by
 rw [K2,QM,Zau,Z84] at h
 by_cases hc:Y2 s.op=true
 ·have ho:14<=s.op/\s.op<=17:=by simpa [Y2] using hc
  rw [Z8 hc,Z8 hc,Z8 hc,Z5u] at h
  rw [Z8 hc,Z8 hc,Z8 hc]
  rw [Z8 hc] at h
  by_cases h1:s.op=14∨s.op=15
  ·rw [Z8 h1,Z4 om] at h
   exact ⟨⟨fun q=>by omega,fun q=>absurd hc q⟩,(Z07 h).2⟩
  ·rw [Z4 h1,Z8 om] at h
   obtain ⟨h2,h3⟩:=Zde h
   exact ⟨⟨fun _=>h2,fun q=>absurd hc q⟩,h3⟩
 ·have ho:¬(14<=s.op/\s.op<=17):=by simpa [Y2] using hc
  rw [Z4 hc,Z4 hc,Z4 hc,Z4 hc,Z4 om] at h
  rw [Z4 hc,Z4 hc,Z4 hc]
  have h1:=Z07 h
  refine ⟨⟨fun q=>by omega,fun _=>?_⟩,h1.2⟩
  have:=Y1 Step.kids h1.1
  exact this
section
variable {ds:List Decl}
mutual
theorem Zqe:∀(s:Step) {cons first:List Int} {am:List Arm} {m:Nat} (c:List Instr),wS ds s->cons.length=m->SEq ds cons first am m s->Xj (Ya ds) ds (cons,first) s c=Xj (Y4 ds) ds (am,m) s c
 | .mk op num into args kids,cons,first,am,m,c,hw,hl,he=>by
  have hl':((Ya ds).len (cons,first):Nat)=(Y4 ds).len (am,m):=hl
  rw [Xj,Xj]
  by_cases h7:op=7
  ·have hk:UV ds cons first op num args kids 0=Uy ds am m op num args kids 0:=he.2 (by show ¬Y2 op=true;rw [h7];decide)
   rw [Z8 h7,Z8 h7]
   exact Zqa kids c hw.2.2.2 hl (Zt7 h7 hk)
  rw [Z4 h7,Z4 h7]
  by_cases h8:op=8
  ·have hk:UV ds cons first op num args kids 0=Uy ds am m op num args kids 0:=he.2 (by show ¬Y2 op=true;rw [h8];decide)
   rw [Z8 h8,Z8 h8]
   rw [h8] at hk
   exact Zeu kids 0 _ _ _ hw.2.2.2 hl (by rw [XQ];exact (hw.2.2.1 h8).2) hk
  rw [Z4 h8,Z4 h8]
  by_cases h1:op=14∨op=15
  ·rw [Z8 h1,Z8 h1]
  rw [Z4 h1,Z4 h1]
  by_cases h2:op=16∨op=17
  ·have h3:(Ya ds).res (cons,first) (gI args 0)=(Y4 ds).res (am,m) (gI args 0):=he.1 h2
   rw [Z8 h2,Z8 h2,h3]
  rw [Z4 h2,Z4 h2,hl']
theorem Zt7 {cons first:List Int} {am:List Arm} {m:Nat} {op num:Int} {args:List Int} {kids:List Block} (h7:op=7) (h:UV ds cons first op num args kids 0=Uy ds am m op num args kids 0):∀b∈kids,K1 ds cons first b=QL ds am m b:=by
 have key:∀(bs:List Block) (k:Nat),UV ds cons first op num args bs k=Uy ds am m op num args bs k->∀b∈bs,K1 ds cons first b=QL ds am m b:=by
  intro bs
  induction bs with
  | nil=>intro k _ b hb;cases hb
  | cons x r ih=>
   intro k h b hb
   rw [UV,Uy,Z20,Z4 om,Z2e,Z4 om,JI,Z4 om,JV,Z4 om] at h
   have h1:=Z07 h
   rcases ZM.1 hb with rfl|hb
   ·exact h1.1
   ·exact ih (k+1) h1.2 b hb
 exact key kids 0 h
theorem Zqa:∀(bs:List Block) {cons first:List Int} {am:List Arm} {m:Nat} {args:List Int} (c:List Instr),KD ds bs->cons.length=m->(∀b∈bs,K1 ds cons first b=QL ds am m b)->Ua (Ya ds) ds (cons,first) args bs c=Ua (Y4 ds) ds (am,m) args bs c
 | [],_,_,_,_,_,_,_,_,_=>by rw [Ua,Ua]
 | b::r,cons,first,am,m,args,c,hw,hl,h=>by
  have hl':((Ya ds).len (cons,first):Nat)=(Y4 ds).len (am,m):=hl
  rw [Ua,Ua,Z4j b _ hw.1 hl (h b (Yd ..)),hl']
  exact Zq6 r _ _ hw.2 hl fun x hx=>h x (Yy _ hx)
theorem Zq6:∀(bs:List Block) {cons first:List Int} {am:List Arm} {m:Nat} (a:Nat) (c:List Instr),KD ds bs->cons.length=m->(∀b∈bs,K1 ds cons first b=QL ds am m b)->Ui (Ya ds) ds (cons,first) a bs c=Ui (Y4 ds) ds (am,m) a bs c
 | [],_,_,_,_,_,_,_,_,_=>by rw [Ui,Ui]
 | b::r,cons,first,am,m,a,c,hw,hl,h=>by
  have hl':((Ya ds).len (cons,first):Nat)=(Y4 ds).len (am,m):=hl
  rw [Ui,Ui,Z4j b _ hw.1 hl (h b (Yd ..)),hl']
theorem Zeu:∀(bs:List Block) {cons first:List Int} {am:List Arm} {m:Nat} {num:Int} {args:List Int} {a:Nat} (k:Nat) (c:List Instr) (ts:List Int) (es:List Nat),KD ds bs->cons.length=m->k+bs.length=(Zt ds num).length->UV ds cons first 8 num args bs k=Uy ds am m 8 num args bs k ->
  Wh (Ya ds) ds (cons,first) num (gI args 0) a bs k c ts es=Wh (Y4 ds) ds (am,m) num (gI args 0) a bs k c ts es
 | [],_,_,_,_,_,_,_,_,_,_,_,_,_,_,_=>by rw [Wh,Wh]
 | b::r,cons,first,am,m,num,args,a,k,c,ts,es,hw,hl,hn,h=>by
  have hl':((Ya ds).len (cons,first):Nat)=(Y4 ds).len (am,m):=hl
  rw [Y5] at hn
  obtain ⟨x,hx⟩:=Zl (xs:=Zt ds num) (j:=k) om
  have hck:QH ds num k=x:=XR (by simpa using hx)
  have hfk:XZ ds num k=Zc ds x:=Z85 (by rw [VC,hx];rfl)
  rw [UV,Uy,Z20,Z8 rfl,Z2e,Z8 rfl,JI,Z8 rfl,JV,Z8 rfl] at h
  have h1:=Z07 h
  have hlen:(cons.set (gI args 0).toNat (QH ds num k)++Y0 (Zc ds (QH ds num k)).length).length=m+(XZ ds num k).length:=by
   rw [ZC,VD,QS,hck,hfk,hl]
  have h2:=fun c'=>Z4j b c' hw.1 hlen h1.1
  have h2':∀c',flB (Ya ds) ds ((Ya ds).arm (cons,first) (gI args 0) num k) b c'=flB (Y4 ds) ds ((Y4 ds).arm (am,m) (gI args 0) num k) b c':=h2
  rw [Wh,Wh,h2',hl']
  exact Zeu r (k+1) _ _ _ hw.2 hl om h1.2
theorem Z8a:∀(xs:List Step) {cons first:List Int} {am:List Arm} {m:Nat} (c:List Instr),wSs ds xs->cons.length=m->K2 ds cons first xs=QM ds am m xs->Ww (Ya ds) ds (cons,first) xs c=Ww (Y4 ds) ds (am,m) xs c
 | [],_,_,_,_,_,_,_,_=>by rw [Ww,Ww]
 | s::r,cons,first,am,m,c,hw,hl,h=>by
  obtain ⟨h1,h2⟩:=Zyw h
  rw [Ww,Ww,Zqe s c hw.1 hl h1]
  by_cases hc:Y2 s.op=true
  ·rw [Z8 hc,Z8 hc,Z8 hc] at h2
   rw [Z8 hc,Z8 hc]
   exact Z8a r _ hw.2 hl h2
  ·rw [Z4 hc,Z4 hc,Z4 hc] at h2
   rw [Z4 hc,Z4 hc]
   exact Z8a r (cons:=cons++[0]) (first:=first++[0]) (m:=m+1) _ hw.2 (by simp [hl]) h2
theorem Z4j:∀(b:Block) {cons first:List Int} {am:List Arm} {m:Nat} (c:List Instr),wB ds b->cons.length=m->K1 ds cons first b=QL ds am m b->flB (Ya ds) ds (cons,first) b c=flB (Y4 ds) ds (am,m) b c
 | .mk steps result,cons,first,am,m,c,hw,hl,h=>by
  rw [K1,QL] at h
  have h1:=Y1 Block.steps h
  rw [flB,flB]
  exact Z8a steps c hw hl h1
end
end
theorem Uq (c:List Instr) (i:Nat):(XH c i).length=c.length:=by rw [XH];split<;>simp
theorem UL (c:List Instr) (i:Nat) (js:List Int):(U0 c i js).length=c.length:=by rw [U0];split<;>simp
theorem Zcf:∀(es:List Nat) (c:List Instr),(Ur c es).length=c.length
 | [],_=>rfl
 | i::r,c=>by rw [Ur,Zcf r,Uq]
theorem Zj6 {c t:List Instr} {i:Nat} {x:Instr} (h:c.length<=i):(c++t).set i x=c++t.set (i-c.length) x:=List.set_append_right _ _ h
theorem Z6z {c t:List Instr} {i:Nat} (h:c.length<=i):∃t',XH (c++t) i=c++t'/\t'.length=t.length:=by
 rw [XH]
 split
 ·exact ⟨t,rfl,rfl⟩
 ·exact ⟨_,Zj6 h,by simp⟩
theorem Zq1 {c t:List Instr} {i:Nat} {js:List Int} (h:c.length<=i):∃t',U0 (c++t) i js=c++t'/\t'.length=t.length:=by
 rw [U0]
 split
 ·exact ⟨t,rfl,rfl⟩
 ·exact ⟨_,Zj6 h,by simp⟩
theorem Zce {c:List Instr}:∀{es:List Nat} {t:List Instr},(∀i∈es,c.length<=i)->∃t',Ur (c++t) es=c++t'/\t'.length=t.length
 | [],t,_=>⟨t,rfl,rfl⟩
 | i::r,t,h=>by
  obtain ⟨t1,e1,l1⟩:=Z6z (t:=t) (h i (Yd ..))
  obtain ⟨t2,e2,l2⟩:=Zce (es:=r) (t:=t1) fun j hj=>h j (Yy _ hj)
  exact ⟨t2,by rw [Ur,e1,e2],by rw [l2,l1]⟩
theorem Zma (r:List Block) (c:List Instr):∃t,Z1w r c=c++t:=by
 cases r with
 | nil=>exact ⟨[],by rw [Qg];rfl⟩
 | cons _ _=>exact ⟨_,rfl⟩
section
variable {E:Type} (X:FEnv E) (ds:List Decl)
mutual
theorem Zqf:∀(s:Step) (e:E) (c:List Instr),∃t,Xj X ds e s c=c++t
 | .mk op num into args kids,e,c=>by
  rw [Xj]
  split
  ·exact Zqc kids e c
  split
  ·obtain ⟨t,h⟩:=Zey kids e 0 c [ZB 21 0 num 0 args] [] [] (Yp _) (fun i hi=>by cases hi) (num:=num) (x:=gI args 0)
   exact ⟨t,h⟩
  split
  ·exact ⟨_,rfl⟩
  split
  ·exact ⟨_,rfl⟩
  ·exact ⟨_,rfl⟩
theorem Zqc:∀(bs:List Block) (e:E) (c:List Instr) {args:List Int},∃t,Ua X ds e args bs c=c++t
 | [],e,c,_=>⟨[],by rw [Ua,Qg]⟩
 | b::r,e,c,args=>by
  rw [Ua]
  obtain ⟨t,h⟩:=Z0q b e (c++[ZB 20 0 0 0 args])
  rw [h,Xs,Xs]
  exact Zq8 r e c _ (Yp _)
theorem Zq8:∀(bs:List Block) (e:E) (c t0:List Instr) {a:Nat},c.length<=a->∃t,Ui X ds e a bs (c++t0)=c++t
 | [],e,c,t0,_,_=>⟨t0,by rw [Ui]⟩
 | b::r,e,c,t0,a,ha=>by
  rw [Ui,Xs]
  obtain ⟨t1,h1,_⟩:=Z6z (t:=t0++[ZB 22 0 0 0 []]) ha
  rw [h1]
  obtain ⟨t2,h2⟩:=Z0q b e (c++t1)
  rw [h2,Xs,Xs]
  obtain ⟨t3,h3,_⟩:=Z6z (c:=c) (t:=t1++(t2++[ZB 18 (X.len e) 0 0 [b.result]])) (i:=(c++t0).length) (by rw [ZC];exact Nat.le_add_right _ _)
  exact ⟨t3,h3⟩
theorem Zey:∀(bs:List Block) (e:E) (k:Nat) (c t0:List Instr) (ts:List Int) (es:List Nat) {num x:Int} {a:Nat},c.length<=a->(∀i∈es,c.length<=i)->∃t,Wh X ds e num x a bs k (c++t0) ts es=c++t
 | [],e,k,c,t0,ts,es,num,x,a,ha,he=>by
  rw [Wh]
  obtain ⟨t1,h1,_⟩:=Zq1 (t:=t0) (js:=ts) ha
  obtain ⟨t2,h2,_⟩:=Zce (t:=t1) he
  exact ⟨t2,by rw [h1,h2]⟩
 | b::r,e,k,c,t0,ts,es,num,x,a,ha,he=>by
  rw [Wh]
  obtain ⟨t1,h1⟩:=Z0q b (X.arm e x num k) ((c++t0)++YE (X.len e) (XZ ds num k).length x)
  rw [h1]
  obtain ⟨t2,h2⟩:=Zma r ((((c++t0)++YE (X.len e) (XZ ds num k).length x)++t1)++[ZB 18 (X.len e) 0 0 [b.result]])
  rw [h2,Xs,Xs,Xs,Xs]
  refine Zey r e (k+1) c _ _ _ ha fun i hi=>?_
  cases r with
  | nil=>exact he i hi
  | cons _ _=>
   rcases ZG.1 hi with hi|hi
   ·exact he i hi
   ·rw [ZW.1 hi]
    simp only [ZC]
    omega
theorem Zf4:∀(xs:List Step) (e:E) (c:List Instr),∃t,Ww X ds e xs c=c++t
 | [],e,c=>⟨[],by rw [Ww,Qg]⟩
 | s::r,e,c=>by
  obtain ⟨t1,h1⟩:=Zqf s e c
  obtain ⟨t2,h2⟩:=Zf4 r (if Y2 s.op=true then e else X.nxt e) (c++t1)
  exact ⟨t1++t2,by rw [Ww,h1,h2,Xs]⟩
theorem Z0q:∀(b:Block) (e:E) (c:List Instr),∃t,flB X ds e b c=c++t
 | .mk steps result,e,c=>by rw [flB];exact Zf4 steps e c
end
theorem Zq5 {b:Block} {e:E} {c:List Instr} {i:Nat} (h:i<c.length):(flB X ds e b c)[i]? = c[i]?:=by
 obtain ⟨t,ht⟩:=Z0q X ds b e c
 rw [ht,Jr h]
theorem Z88 {b:Block} {e:E} {c:List Instr}:c.length<=(flB X ds e b c).length:=by
 obtain ⟨t,ht⟩:=Z0q X ds b e c
 rw [ht,ZC];omega
variable {ds} (hd:DOk ds)
include hd
mutual
theorem Z89:∀(s:Step) (e:E) (c:List Instr),(Xj X ds e s c).length<=c.length+16*s.sz
 | .mk op num into args kids,e,c=>by
  rw [Xj,Step.sz]
  split
  ·have:=Zqb kids e c (args:=args);omega
  split
  ·have:=Zex kids e 0 (c++[ZB 21 0 num 0 args]) [] [] (num:=num) (x:=gI args 0) (a:=c.length)
   simp only [ZC,Y5,Yk] at this
   omega
  split
  ·simp;omega
  split
  ·simp;omega
  ·simp;omega
theorem Zqb:∀(bs:List Block) (e:E) (c:List Instr) {args:List Int},(Ua X ds e args bs c).length<=c.length+16*Yx bs+3
 | [],e,c,_=>by rw [Ua];omega
 | b::r,e,c,args=>by
  have h1:=TU b e (c++[ZB 20 0 0 0 args])
  have h2:=Zq7 r e (flB X ds e b (c++[ZB 20 0 0 0 args])++[ZB 18 (X.len e) 0 0 [b.result]]) (a:=c.length)
  rw [Ua,Yx]
  simp only [ZC,Y5,Yk] at h1 h2
  omega
theorem Zq7:∀(bs:List Block) (e:E) (c:List Instr) {a:Nat},(Ui X ds e a bs c).length<=c.length+16*Yx bs+1
 | [],e,c,_=>by rw [Ui];omega
 | b::r,e,c,a=>by
  have h1:=TU b e (XH (c++[ZB 22 0 0 0 []]) a)
  rw [Ui,Uq,Yx]
  rw [Uq] at h1
  simp only [ZC,Y5,Yk] at h1 ⊢
  omega
theorem Zex:∀(bs:List Block) (e:E) (k:Nat) (c:List Instr) (ts:List Int) (es:List Nat) {num x:Int} {a:Nat},(Wh X ds e num x a bs k c ts es).length<=c.length+16*Yx bs
 | [],e,k,c,ts,es,num,x,a=>by rw [Wh,Zcf,UL];simp [Yx]
 | b::r,e,k,c,ts,es,num,x,a=>by
  have h1:=TU b (X.arm e x num k) (c++YE (X.len e) (XZ ds num k).length x)
  have h2:=Zex r e (k+1) (Z1w r (flB X ds (X.arm e x num k) b (c++YE (X.len e) (XZ ds num k).length x)++[ZB 18 (X.len e) 0 0 [b.result]])) (ts++[(c.length:Int)])
   (Zcr r es (flB X ds (X.arm e x num k) b (c++YE (X.len e) (XZ ds num k).length x)).length) (num:=num) (x:=x) (a:=a)
  have h3:∀c':List Instr,(Z1w r c').length<=c'.length+1:=fun c'=>by cases r with
   | nil=>exact Nat.le_succ _
   | cons _ _=>show (c'++[ZB 22 0 0 0 []]).length<=_;simp
  have h4:=h3 (flB X ds (X.arm e x num k) b (c++YE (X.len e) (XZ ds num k).length x)++[ZB 18 (X.len e) 0 0 [b.result]])
  have h5:=Z2c hd num k
  have h6:(YE (X.len e) (XZ ds num k).length x).length=(XZ ds num k).length:=by simp [YE]
  rw [Wh,Yx]
  simp only [ZC,Y5,Yk,h6] at h1 h2 h4 ⊢
  omega
theorem Zf3:∀(xs:List Step) (e:E) (c:List Instr),(Ww X ds e xs c).length<=c.length+16*ZR xs
 | [],e,c=>by rw [Ww,ZR];omega
 | s::r,e,c=>by
  have h1:=Z89 s e c
  have h2:=Zf3 r (if Y2 s.op=true then e else X.nxt e) (Xj X ds e s c)
  rw [Ww,ZR];omega
theorem TU:∀(b:Block) (e:E) (c:List Instr),(flB X ds e b c).length+16<=c.length+16*b.sz
 | .mk steps result,e,c=>by
  have:=Zf3 steps e c
  rw [flB,Block.sz];omega
end
end
def U4 (m:Int) (x:Instr):Int:=x.args.foldl (fun m a=>max m (a+1)) (max m (x.dst+1))
def XP (m:Int) (c:List Instr):Int:=c.foldl U4 m
structure RgI (x:Instr):Prop where
 dst:0<=x.dst/\x.dst<=1000000000
 len:x.args.length<=10000200
 args:∀a∈x.args,0<=a/\a<=1000000000
 js:x.jumps.length<=300000000
def Rg (c:List Instr):Prop:=∀x∈c,RgI x
theorem Zw4 (m:Int) (c:List Instr) (x:Instr):XP m (c++[x])=U4 (XP m c) x:=by simp [XP]
theorem Zhb:∀(l:List Int) (a m:Int),l.foldl (fun m a=>max m (a+1)) (max a m)=max a (l.foldl (fun m a=>max m (a+1)) m)
 | [],_,_=>rfl
 | x::r,a,m=>by rw [List.foldl_cons,List.foldl_cons,<-Zhb r];congr 1;omega
theorem Zw0 (x:Instr) (a m:Int):U4 (max a m) x=max a (U4 m x):=by
 rw [U4,U4,<-Zhb];congr 1;omega
theorem Zig:∀(c:List Instr) (a m:Int),XP (max a m) c=max a (XP m c)
 | [],_,_=>rfl
 | x::r,a,m=>by
  show XP (U4 (max a m) x) r=max a (XP (U4 m x) r)
  rw [Zw0,Zig r]
theorem Zw2 (c:List Instr) {a:Int} (h:0<=a):XP a c=max a (XP 0 c):=by
 rw [<-Zig];congr 1;omega
theorem Zw1 {m:Int} {x y:Instr} (h1:y.dst=x.dst) (h2:y.args=x.args):U4 m y=U4 m x:=by rw [U4,U4,h1,h2]
theorem Z9x {x y:Instr} (h1:y.dst=x.dst) (h2:y.args=x.args):∀{c:List Instr} {i:Nat} {m:Int},c[i]? = some x->XP m (c.set i y)=XP m c
 | [],_,_,h=>by simp at h
 | z::r,0,m,h=>by
  have h:z=x:=by simpa using h
  subst h
  show XP (U4 m y) r=XP (U4 m z) r
  rw [Zw1 h1 h2]
 | z::r,i+1,m,h=>Z9x h1 h2 (c:=r) (i:=i) (m:=U4 m z) (by simpa using h)
theorem Zie (m:Int) (c:List Instr) (i:Nat):XP m (XH c i)=XP m c:=by
 rw [XH]
 split
 ·rfl
 ·rename_i x h;exact Z9x (x:=x) (y:=x.goto c.length) rfl rfl h
theorem Zif (m:Int) (c:List Instr) (i:Nat) (js:List Int):XP m (U0 c i js)=XP m c:=by
 rw [U0]
 split
 ·rfl
 ·rename_i x h;exact Z9x (x:=x) (y:=x.fan js) rfl rfl h
theorem Rg.nil:Rg []:=fun _ h=>by cases h
theorem Rg.app {c d:List Instr} (h1:Rg c) (h2:Rg d):Rg (c++d):=fun x hx=>(ZG.1 hx).elim (h1 x) (h2 x)
theorem Rg.one {x:Instr} (h:RgI x):Rg [x]:=fun y hy=>by rw [ZW.1 hy];exact h
theorem Rg.snoc {c:List Instr} {x:Instr} (h1:Rg c) (h2:RgI x):Rg (c++[x]):=h1.app (.one h2)
theorem Rg.set {c:List Instr} {x y:Instr} {i:Nat} (hx:c[i]? = some x) (h:Rg c) (h1:y.dst=x.dst) (h2:y.args=x.args) (h3:y.jumps.length<=300000000):Rg (c.set i y):=fun z hz=>by
 have hr:=h x (ZV hx)
 rcases List.mem_or_eq_of_mem_set hz with hz|rfl
 ·exact h z hz
 ·exact ⟨by rw [h1];exact hr.dst,by rw [h2];exact hr.len,by rw [h2];exact hr.args,h3⟩
theorem Rg.aim {c:List Instr} (h:Rg c) (i:Nat):Rg (XH c i):=by
 rw [XH]
 split
 ·exact h
 ·rename_i x hx;exact h.set hx rfl rfl (h x (ZV hx)).js
theorem Rg.fan {c:List Instr} (h:Rg c) (i:Nat) {js:List Int} (hj:js.length<=300000000):Rg (U0 c i js):=by
 rw [U0]
 split
 ·exact h
 ·rename_i x hx;exact h.set hx rfl rfl hj
theorem Rg.aims:∀{es:List Nat} {c:List Instr},Rg c->Rg (Ur c es)
 | [],_,h=>h
 | i::r,c,h=>by rw [Ur];exact Rg.aims (h.aim i)
theorem RgI.mk' {op dst num into:Int} {args:List Int} (h1:0<=dst/\dst<=1000000000) (h2:args.length<=10000200) (h3:∀a∈args,0<=a/\a<=1000000000):RgI (ZB op dst num into args):=⟨h1,h2,h3,Tj _⟩
mutual
def rgS:Step->Prop
 | .mk _ _ _ args kids=>(args.length<=10000100/\∀a∈args,0<=a/\a<=900000000)/\JZ kids
def JZ:List Block->Prop
 | []=>True
 | b::r=>JY b/\JZ r
def Z2x:List Step->Prop
 | []=>True
 | s::r=>rgS s/\Z2x r
def JY:Block->Prop
 | .mk steps result=>Z2x steps/\0<=result/\result<=900000000
end
theorem Zw9 (s:Step):rgS s↔(s.args.length<=10000100/\∀a∈s.args,0<=a/\a<=900000000)/\JZ s.kids:=by cases s;rw [rgS];rfl
theorem QW (b:Block):JY b↔Z2x b.steps/\0<=b.result/\b.result<=900000000:=by cases b;rw [JY];rfl
section
variable {n:Normal}
mutual
theorem Zwa:∀(s:Step) {us:List Int},us.length+4*s.sz<=40000100->DOk n.decls->0<=Zp n us s->rgS s
 | .mk op num into args kids,us,hu,hd,g=>by
  have hf:=TG g
  have hsz:=hu
  rw [Step.sz] at hsz
  rw [rgS]
  refine ⟨⟨by omega,fun a ha=>?_⟩,?_⟩
  ·have:=hf.args a ha;omega
  ·refine Zik kids hd fun i b hb=>?_
   have hl:0<kids.length:=by have:=(Yg.1 hb).1;omega
   obtain ⟨k1,k2,k3⟩:=hf.kids (Z91 g hl)
   have k1':kids.length=(Zy n.decls op num).length:=k1
   have hi:=(Yg.1 hb).1
   obtain ⟨mk,hmk⟩:=Zl (xs:=Zy n.decls op num) (j:=i) om
   have hk3:=Z0d hd hmk
   have hbs:=Z0f hb
   exact ⟨us++mk,by rw [ZC];omega,k3 i b mk hb hmk⟩
theorem Zik:∀(bs:List Block),DOk n.decls->(∀(i:Nat) (b:Block),bs[i]? = some b->∃us:List Int,us.length+4*b.sz<=40000100/\0<=ZF n us b)->JZ bs
 | [],_,_=>True.intro
 | b::r,hd,h=>by
  obtain ⟨us,hq,hu⟩:=h 0 b rfl
  exact ⟨Jb b hq hd hu,Zik r hd fun i x hx=>h (i+1) x (by simpa using hx)⟩
theorem Zil:∀(xs:List Step) {us vs:List Int},us.length+4*ZR xs<=40000100->DOk n.decls->X7 n xs us=some vs->Z2x xs
 | [],_,_,_,_,_=>True.intro
 | s::r,us,vs,hu,hd,h=>by
  obtain ⟨g1,g2⟩:=KA h
  rw [ZR] at hu
  have h1:=s.sz_pos
  have h2:=Jc n us s
  exact ⟨Zwa s om hd g1,Zil r om hd g2⟩
theorem Jb:∀(b:Block) {us:List Int},us.length+4*b.sz<=40000100->DOk n.decls->0<=ZF n us b->JY b
 | .mk steps result,us,hu,hd,h=>by
  obtain ⟨fvs,t0,hvs,hr,_⟩:=QF h
  have h1:=Z34 hvs
  have h2:=(Tn hr).1
  rw [Block.sz] at hu
  have h1':fvs.length<=us.length+ZR steps:=h1.2
  have h2':0<=result/\result<=(fvs.length:Int)-1:=h2
  rw [JY];exact ⟨Zil steps om hd hvs,by omega,by omega⟩
end
end
structure FOk {E:Type} (X:FEnv E) (G:E->Nat->Prop):Prop where
 len:∀{e q},G e q->X.len e<=q
 res:∀{e q},G e q->∀x,(∀v∈X.res e x,0<=v/\v<=q+3)/\(X.res e x).length<=3
 nxt:∀{e q},G e q->G (X.nxt e) (q+1)
 up:∀{e q q'},G e q->q<=q'->G e q'
 arm:∀{e q},G e q->∀x num k,G (X.arm e x num k) (q+3)
theorem Zl8 {m many:Nat} {x:Int} (hm:many<=3) (h:m<=900000000) (hx:0<=x/\x<=900000000):Rg (YE m many x):=fun y hy=>by
 rw [YE] at hy
 obtain ⟨i,hi,rfl⟩:=YJ.1 hy
 have:=List.mem_range.1 hi
 exact .mk' om (by simp) fun a ha=>by rw [ZW.1 ha];omega
theorem Z3q {m:Nat} {r:Int} (h:m<=900000000) (hr:0<=r/\r<=900000000):RgI (ZB 18 m 0 0 [r]):=.mk' om (by simp) fun a ha=>by rw [ZW.1 ha];omega
theorem JB {op num:Int}:RgI (ZB op 0 num 0 []):=.mk' om (by simp) fun a ha=>by cases ha
theorem UG {op dst num into:Int} {args:List Int} (hd:0<=dst/\dst<=900000000) (h:args.length<=10000100/\∀a∈args,0<=a/\a<=900000000):RgI (ZB op dst num into args):=.mk' om om fun a ha=>by have:=h.2 a ha;omega
theorem Zl7 {r:List Block} {c:List Instr} (h:Rg c):Rg (Z1w r c):=by
 cases r with
 | nil=>exact h
 | cons _ _=>exact h.snoc JB
section
variable {E:Type} {X:FEnv E} {ds:List Decl} {G:E->Nat->Prop} (hX:FOk X G) (hd:DOk ds)
include hX hd
mutual
theorem Zqg:∀(s:Step) {e:E} {q:Nat} {c:List Instr},wS ds s->G e q->q+4*s.sz<=900000000->rgS s->Rg c->Rg (Xj X ds e s c)
 | .mk op num into args kids,e,q,c,hw,hg,hq,hs,hc=>by
  have hl:=hX.len hg
  obtain ⟨h1,h2⟩:=(Zw9 _).1 hs
  have h1':args.length<=10000100/\∀a∈args,0<=a/\a<=900000000:=h1
  rw [Step.sz] at hq
  rw [Xj]
  split
  ·exact Zqd kids hw.2.2.2 hg om h2 h1' hc
  split
  ·rename_i h8
   obtain ⟨a,ha,ha2⟩:=(hw.2.2.1 h8).1
   have hkl:=Z79 kids
   exact Zez kids hw.2.2.2 hg om h2 (by rw [ha];exact ha2) (by rw [Yk];omega) (hc.snoc (UG om h1'))
  split
  ·exact hc.snoc (UG om h1')
  split
  ·have h3:=hX.res hg (gI args 0)
   refine hc.snoc (.mk' om (by rw [ZC];omega) fun a ha=>?_)
   rcases ZG.1 ha with ha|ha
   ·have:=h1'.2 a ha;omega
   ·have:=h3.1 a ha;omega
  ·exact hc.snoc (UG om h1')
theorem Zqd:∀(bs:List Block) {e:E} {q:Nat} {c:List Instr} {args:List Int},KD ds bs->G e q->q+4*Yx bs<=900000000->JZ bs->args.length<=10000100/\(∀a∈args,0<=a/\a<=900000000)->Rg c->Rg (Ua X ds e args bs c)
 | [],e,q,c,args,_,_,_,_,_,hc=>by rw [Ua];exact hc
 | b::r,e,q,c,args,hw,hg,hq,hs,ha,hc=>by
  rw [Yx] at hq
  have hl:=hX.len hg
  rw [Ua]
  exact Zq9 r hw.2 hg om hs.2 ((Z4k b hw.1 hg om hs.1 (hc.snoc (UG om ha))).snoc (Z3q om ((QW b).1 hs.1).2))
theorem Zq9:∀(bs:List Block) {e:E} {q:Nat} {c:List Instr} {a:Nat},KD ds bs->G e q->q+4*Yx bs<=900000000->JZ bs->Rg c->Rg (Ui X ds e a bs c)
 | [],e,q,c,a,_,_,_,_,hc=>by rw [Ui];exact hc
 | b::r,e,q,c,a,hw,hg,hq,hs,hc=>by
  rw [Yx] at hq
  have hl:=hX.len hg
  rw [Ui]
  exact ((Z4k b hw.1 hg om hs.1 ((hc.snoc JB).aim a)).snoc (Z3q om ((QW b).1 hs.1).2)).aim _
theorem Zez:∀(bs:List Block) {e:E} {q:Nat} {k:Nat} {c:List Instr} {ts:List Int} {es:List Nat} {num x:Int} {a:Nat},KD ds bs->G e q->q+4*Yx bs<=900000000->JZ bs->0<=x/\x<=900000000->ts.length+bs.length<=300000000->Rg c->Rg (Wh X ds e num x a bs k c ts es)
 | [],e,q,k,c,ts,es,num,x,a,_,_,_,_,_,ht,hc=>by rw [Wh];exact (hc.fan _ ht).aims
 | b::r,e,q,k,c,ts,es,num,x,a,hw,hg,hq,hs,hx,ht,hc=>by
  rw [Y5] at ht
  rw [Yx] at hq
  have hl:=hX.len hg
  have hp:=b.sz_eq
  rw [Wh]
  exact Zez r hw.2 hg om hs.2 hx (by rw [ZC,Z3h];omega) (Zl7 ((Z4k b hw.1 (hX.arm hg x num k) om hs.1 (hc.app (Zl8 (Z2c hd num k) om hx))).snoc (Z3q om ((QW b).1 hs.1).2)))
theorem Zf5:∀(xs:List Step) {e:E} {q:Nat} {c:List Instr},wSs ds xs->G e q->q+4*ZR xs<=900000000->Z2x xs->Rg c->Rg (Ww X ds e xs c)
 | [],e,q,c,_,_,_,_,hc=>by rw [Ww];exact hc
 | s::r,e,q,c,hw,hg,hq,hs,hc=>by
  rw [ZR] at hq
  have hp:=s.sz_pos
  rw [Ww]
  refine Zf5 r (q:=q+1) hw.2 ?_ om hs.2 (Zqg s hw.1 hg om hs.1 hc)
  split
  ·exact hX.up hg om
  ·exact hX.nxt hg
theorem Z4k:∀(b:Block) {e:E} {q:Nat} {c:List Instr},wB ds b->G e q->q+4*b.sz<=900000004->JY b->Rg c->Rg (flB X ds e b c)
 | .mk steps result,e,q,c,hw,hg,hq,hs,hc=>by
  rw [Block.sz] at hq
  rw [flB]
  exact Zf5 steps hw hg om hs.1 hc
end
end
theorem Zri {ds:List Decl} (hd:DOk ds):FOk (Y4 ds) (fun e q=>e.2<=q/\∀a∈e.1,(0<=a.fst/\a.fst<=q)/\a.fds.length<=3):=by
 refine ⟨fun h=>h.1,fun {e q} h x=>?_,fun {e q} h=>⟨by show e.2+1<=q+1;have:=h.1;omega,fun v hv=>?_⟩,fun h hq=>⟨by have:=h.1;omega,fun v hv=>by have:=h.2 v hv;omega⟩,fun {e q} h x num k=>⟨?_,fun v hv=>?_⟩⟩
 ·have h1:(0<=(W9 e.1 x).fst/\(W9 e.1 x).fst<=q)/\(W9 e.1 x).fds.length<=3:=by
   rw [W9]
   cases ho:Wo e.1 x with
   | none=>simp
   | some a=>exact h.2 a (Z5f ho).1
  exact ⟨fun v hv=>by have:=QP hv;omega,QA (Z0t _ _) h1.2⟩
 ·have:=h.2 v hv;omega
 ·have h1:=Z2c hd num k
  have h2:=h.1
  show e.2+(XZ ds num k).length<=_
  omega
 ·have h1:=Z2c hd num k
  have h2:=h.1
  rcases ZG.1 hv with hv|hv
  ·have:=h.2 v hv;omega
  ·rw [ZW.1 hv]
   exact ⟨⟨by show (0:Int)<=(e.2:Int);omega,by show (e.2:Int)<=_;omega⟩,h1⟩
def KK (g o:Nat) (x:HInstr):List Xt:=(g,o)::(g,o+1)::(g,o+2)::(g,o+3)::(Z7 (Z2 x.av) 0 x.args.length++Z7 (Z2 x.jv) 0 x.jumps.length)
def Xi (g:Nat):Nat->List HInstr->List Xt
 | _,[]=>[]
 | o,x::r=>KK g o x++Xi g (o+6) r
def Kb (g o:Nat) (x:HProc):List Xt:=Z7 (Z2 x.pv) 0 x.params.length++(Z7 (Z2 x.lv) 0 x.lent.length++((g,o+2)::(g,o+3)::Xi (Z2 x.cv) 0 x.code))
def Xn (g:Nat):Nat->List HProc->List Xt
 | _,[]=>[]
 | o,x::r=>Kb g o x++Xn g (o+5) r
def Xd (y:HImage):List Xt:=Ym (Z2 y.dv) 0 y.decls++Xn (Z2 y.pv) 0 y.procs
def Z1a (m:ZK) (B:List Nat) (g o:Nat) (x:HInstr):Prop:=
 (Xq m (g,o)/\Xq m (g,o+1)/\Xq m (g,o+2)/\Xq m (g,o+3))/\(VQ m B g (o+4) x.av x.args.length/\V1 m (Z2 x.av) x.args.length)/\(VQ m B g (o+5) x.jv x.jumps.length/\V1 m (Z2 x.jv) x.jumps.length)
def Qx (m:ZK) (B:List Nat) (g:Nat):Nat->List HInstr->Prop
 | _,[]=>True
 | o,x::r=>Z1a m B g o x/\Qx m B g (o+6) r
def Z5t (m:ZK) (B:List Nat) (g o:Nat) (x:HProc):Prop:=
 (VQ m B g o x.pv x.params.length/\V1 m (Z2 x.pv) x.params.length)/\(VQ m B g (o+1) x.lv x.lent.length/\V1 m (Z2 x.lv) x.lent.length)/\(Xq m (g,o+2)/\Xq m (g,o+3))/\(VQ m B g (o+4) x.cv x.code.length/\Qx m B (Z2 x.cv) 0 x.code)
def K0 (m:ZK) (B:List Nat) (g:Nat):Nat->List HProc->Prop
 | _,[]=>True
 | o,x::r=>Z5t m B g o x/\K0 m B g (o+5) r
def TE (m:ZK) (B:List Nat) (y:HImage):Prop:=(Xu B y.dv y.decls.length/\Qw m B (Z2 y.dv) 0 y.decls)/\(Xu B y.pv y.procs.length/\K0 m B (Z2 y.pv) 0 y.procs)
section
variable {m m':ZK} {B:List Nat}
theorem Zxg (kq:Kp m m') {g o:Nat} {x:HInstr} (h:Z1a m B g o x):Z1a m' B g o x:=
 ⟨⟨kq.i h.1.1,kq.i h.1.2.1,kq.i h.1.2.2.1,kq.i h.1.2.2.2⟩,⟨TD kq h.2.1.1,Jf kq h.2.1.2⟩,⟨TD kq h.2.2.1,Jf kq h.2.2.2⟩⟩
theorem Zak (kq:Kp m m') {g:Nat}:∀{o:Nat} {xs:List HInstr},Qx m B g o xs->Qx m' B g o xs
 | _,[],_=>trivial
 | _,_::_,h=>⟨Zxg kq h.1,Zak kq h.2⟩
theorem Zam (kq:Kp m m') {g:Nat}:∀{o:Nat} {xs:List HProc},K0 m B g o xs->K0 m' B g o xs
 | _,[],_=>trivial
 | _,_::_,h=>⟨⟨⟨TD kq h.1.1.1,Jf kq h.1.1.2⟩,⟨TD kq h.1.2.1.1,Jf kq h.1.2.1.2⟩,⟨kq.i h.1.2.2.1.1,kq.i h.1.2.2.1.2⟩,⟨TD kq h.1.2.2.2.1,Zak kq h.1.2.2.2.2⟩⟩,Zam kq h.2⟩
theorem Zjj {y:HImage} (k:Kp m m') (h:TE m B y):TE m' B y:=⟨⟨h.1.1,Zji k h.1.2⟩,⟨h.2.1,Zam k h.2.2⟩⟩
theorem Zaj {g:Nat}:∀{o i:Nat} {cs:List HInstr} {c:HInstr},Qx m B g o cs->cs[i]? = some c->Z1a m B g (o+i*6) c
 | _,_,[],_,_,h=>by simp at h
 | _,0,_::_,_,h,hc=>by simp at hc;subst hc;simpa using h.1
 | o,i+1,_::_,_,h,hc=>by rw [show o+(i+1)*6=o+6+i*6 by omega];exact Zaj h.2 (by simpa using hc)
theorem Zal {g:Nat}:∀{o i:Nat} {cs:List HProc} {c:HProc},K0 m B g o cs->cs[i]? = some c->Z5t m B g (o+i*5) c
 | _,_,[],_,_,h=>by simp at h
 | _,0,_::_,_,h,hc=>by simp at hc;subst hc;simpa using h.1
 | o,i+1,_::_,_,h,hc=>by rw [show o+(i+1)*5=o+5+i*5 by omega];exact Zal h.2 (by simpa using hc)
theorem Zlo {g o:Nat} {x:HInstr} (h:Z1a m B g o x):∀a∈KK g o x,Xq m a:=by
 intro a ha
 rcases ZM.1 ha with rfl|ha
 ·exact h.1.1
 rcases ZM.1 ha with rfl|ha
 ·exact h.1.2.1
 rcases ZM.1 ha with rfl|ha
 ·exact h.1.2.2.1
 rcases ZM.1 ha with rfl|ha
 ·exact h.1.2.2.2
 exact (ZG.1 ha).elim (UZ h.2.1.2 a) (UZ h.2.2.2 a)
theorem Z6s {g:Nat}:∀{o:Nat} {xs:List HInstr},Qx m B g o xs->∀a∈Xi g o xs,Xq m a
 | _,[],_,a,ha=>by cases ha
 | _,_::_,h,a,ha=>(ZG.1 ha).elim (Zlo h.1 a) (Z6s h.2 a)
theorem Zlr {g o:Nat} {x:HProc} (h:Z5t m B g o x):∀a∈Kb g o x,Xq m a:=by
 intro a ha
 rcases ZG.1 ha with ha|ha
 ·exact UZ h.1.2 a ha
 rcases ZG.1 ha with ha|ha
 ·exact UZ h.2.1.2 a ha
 rcases ZM.1 ha with rfl|ha
 ·exact h.2.2.1.1
 rcases ZM.1 ha with rfl|ha
 ·exact h.2.2.1.2
 exact Z6s h.2.2.2.2 a ha
theorem Zc6 {g:Nat}:∀{o:Nat} {xs:List HProc},K0 m B g o xs->∀a∈Xn g o xs,Xq m a
 | _,[],_,a,ha=>by cases ha
 | _,_::_,h,a,ha=>(ZG.1 ha).elim (Zlr h.1 a) (Zc6 h.2 a)
theorem Zc0 {y:HImage} (h:TE m B y):∀a∈Xd y,Xq m a:=fun a ha=>(ZG.1 ha).elim (Z3s h.1.2 a) (Zc6 h.2.2 a)
theorem Zc3 {g:Nat}:∀{o:Nat} {xs:List HInstr},Qx m B g o xs->Nd g o (o+6*xs.length) (Y3 (ZY xs)) (Xi g o xs)
 | o,[],_=>Nd.nil g o
 | o,x::r,h=>by
  have e:ZY (x::r)=([(x.av,1)]++[(x.jv,1)])++ZY r:=rfl
  rw [e,WW,WW]
  have h4:Nd g (o+4) (o+4) (Y3 [(x.av,1)]) (Z7 (Z2 x.av) 0 x.args.length):=Jn h.1.2.1.1.2
  have h5:Nd g (o+5) (o+5) (Y3 [(x.jv,1)]) (Z7 (Z2 x.jv) 0 x.jumps.length):=Jn h.1.2.2.1.2
  have h1:=(Nd.one g (o+3)).app (h4.app h5 om om om) om om om
  have h2:=(Nd.one g o).app ((Nd.one g (o+1)).app ((Nd.one g (o+2)).app h1 om om om) om om om) om om om
  have h6:=h2.app (Zc3 (o:=o+6) h.2) om om om
  rw [show o+6+6*r.length=o+6*(x::r).length by simp;omega] at h6
  exact h6
theorem Zc7 {g:Nat}:∀{o:Nat} {xs:List HProc},K0 m B g o xs->Nd g o (o+5*xs.length) (Y3 (Wx xs)) (Xn g o xs)
 | o,[],_=>Nd.nil g o
 | o,x::r,h=>by
  have e:Wx (x::r)=([(x.pv,1)]++([(x.lv,1)]++(ZY x.code++[(x.cv,6)])))++Wx r:=rfl
  rw [e,WW,WW,WW,WW]
  have h1:Nd g (o+4) (o+4) (Y3 (ZY x.code)++Y3 [(x.cv,6)]) (Xi (Z2 x.cv) 0 x.code):=by
   refine Nd.sub (v:=x.cv) (Zc3 h.1.2.2.2.2) h.1.2.2.2.1.2 fun q=>?_
   rw [K6.1 q,Xi]
  have h3:=(Nd.one g (o+2)).app ((Nd.one g (o+3)).app h1 om om om) om om om
  have h4:Nd g (o+1) (o+1) (Y3 [(x.lv,1)]) (Z7 (Z2 x.lv) 0 x.lent.length):=Jn h.1.2.1.1.2
  have h5:Nd g o o (Y3 [(x.pv,1)]) (Z7 (Z2 x.pv) 0 x.params.length):=Jn h.1.1.1.2
  have h6:=(h5.app (h4.app h3 om om om) om om om).app (Zc7 (o:=o+5) h.2) om om om
  rw [show o+5+5*r.length=o+5*(x::r).length by simp;omega] at h6
  exact h6
theorem Zln {y:HImage} (h:TE m B y) (hn:(Y3 (WG y)).Nodup):(Xd y).Nodup:=by
 have e:WG y=(Yn y.decls++[(y.dv,3)])++(Wx y.procs++[(y.pv,5)]):=by simp [WG]
 rw [e,WW,WW,WW] at hn
 obtain ⟨g,hg⟩:∃g,g∉(Y3 (Yn y.decls)++Y3 [(y.dv,3)])++(Y3 (Wx y.procs)++Y3 [(y.pv,5)]):=by
  generalize (Y3 (Yn y.decls)++Y3 [(y.dv,3)])++(Y3 (Wx y.procs)++Y3 [(y.pv,5)])=l
  refine ⟨l.sum+1,fun q=>?_⟩
  have:∀(l:List Nat) (x:Nat),x∈l->x<=l.sum:=by
   intro l
   induction l with
   | nil=>intro x hx;cases hx
   | cons a r ih=>
    intro x hx
    rw [KF]
    rcases ZM.1 hx with rfl|hx
    ·omega
    ·have:=ih x hx;omega
  have:=this l _ q
  omega
 have h1:Nd g 0 0 (Y3 (Yn y.decls)++Y3 [(y.dv,3)]) (Ym (Z2 y.dv) 0 y.decls):=by
  refine Nd.sub (v:=y.dv) (Z6q h.1.2) h.1.1 fun q=>?_
  rw [K6.1 q];rfl
 have h2:Nd g 0 0 (Y3 (Wx y.procs)++Y3 [(y.pv,5)]) (Xn (Z2 y.pv) 0 y.procs):=by
  refine Nd.sub (v:=y.pv) (Zc7 h.2.2) h.2.1 fun q=>?_
  rw [K6.1 q];rfl
 exact (h1.app h2 om om om).nd ⟨hn,hg⟩
end
section
variable {w:World} {G:Zs} {B:List Nat}
theorem Zsg {x:HInstr} (h:Yu w B (Tt x)):Vn w G B (JT x):=
 W2 (T8 _) (W2 (T8 _) (W2 (T8 _) (W2 (T8 _) (W2 (KV h.head.2) (W2 (KV h.tail.head.2) Ks)))))
theorem Zsh {xs:List HInstr} (h:Yu w B (ZY xs)):∀y∈ZO xs,Vn w G B y.leaves:=by
 intro y hy
 simp only [ZO,YJ] at hy
 obtain ⟨c,hc,rfl⟩:=hy
 exact Zsg fun p hp=>h p (Z1o.2 ⟨c,hc,hp⟩)
theorem Zsi {x:HProc} (h:Yu w B (Ko x)):Vn w G B (Z52 x):=
 W2 (KV h.head.2) (W2 (KV h.tail.head.2) (W2 (T8 _) (W2 (T8 _) (W2 (Kr h.tail.tail.right.head.2 (Zsh h.tail.tail.left)) Ks))))
theorem Zsj {xs:List HProc} (h:Yu w B (Wx xs)):∀y∈Vt xs,Vn w G B y.leaves:=by
 intro y hy
 simp only [Vt,YJ] at hy
 obtain ⟨c,hc,rfl⟩:=hy
 exact Zsi fun p hp=>h p (Z1o.2 ⟨c,hc,hp⟩)
theorem Zsb {y:HImage} (h:Yu w B (WG y)):K9 w G B (UH y):=
 Zg3 (W2 (Kr h.right.head.2 (Zg6 h.left)) (W2 (Kr h.right.tail.right.head.2 (Zsj h.right.tail.left)) Ks))
theorem Zxn {g o:Nat} {x:HInstr} (h:RMem w G g o (JT x)) (ha:Yu w B (Tt x)):Z1a (XS w) B g o x:=by
 obtain ⟨h1,h⟩:=UT h
 obtain ⟨h2,h⟩:=UT h
 obtain ⟨h3,h⟩:=UT h
 obtain ⟨h4,h⟩:=UT h
 obtain ⟨h5,h⟩:=Ji h ha.head
 obtain ⟨h6,h⟩:=Ji h ha.tail.head
 exact ⟨⟨h1,h2,h3,h4⟩,h5,h6⟩
theorem Zjp {g kk:Nat}:∀{o:Nat} {cs:List HInstr},REls w G kk g o (ZO cs)->Yu w B (ZY cs)->Qx (XS w) B g o cs
 | _,[],_,_=>trivial
 | _,c::r,.cons hl h t,ha=>by
  have ha:Yu w B (Tt c++ZY r):=ha
  have hk:6=kk:=hl
  subst hk
  exact ⟨Zxn h ha.left,Zjp t ha.right⟩
theorem Zxq {g o:Nat} {x:HProc} (h:RMem w G g o (Z52 x)) (ha:Yu w B (Ko x)):Z5t (XS w) B g o x:=by
 obtain ⟨h1,h⟩:=Ji h ha.head
 obtain ⟨h2,h⟩:=Ji h ha.tail.head
 obtain ⟨h3,h⟩:=UT h
 obtain ⟨h4,h⟩:=UT h
 obtain ⟨h5,⟨_,h6⟩,h⟩:=Z11 h ha.tail.tail.right.head.1 ha.tail.tail.right.head.2
 rw [Zdu] at h5
 exact ⟨h1,h2,⟨h3,h4⟩,h5,Zjp h6 ha.tail.tail.left⟩
theorem Zjq {g kk:Nat}:∀{o:Nat} {cs:List HProc},REls w G kk g o (Vt cs)->Yu w B (Wx cs)->K0 (XS w) B g o cs
 | _,[],_,_=>trivial
 | _,c::r,.cons hl h t,ha=>by
  have ha:Yu w B (Ko c++Wx r):=ha
  have hk:5=kk:=hl
  subst hk
  exact ⟨Zxq h ha.left,Zjq t ha.right⟩
def iv (y:HImage):Value:=.agg #[y.dv,y.pv]
abbrev JJ (y:HImage):AV:=.agg [.h (YU y.dv),.h (YU y.pv)]
def HdI (y:HImage):Prop:=(YU y.dv).v=y.dv/\(YU y.pv).v=y.pv
theorem Z4s {m:ZK} {B:List Nat} {y:HImage} (h:TE m B y):HdI y:=⟨h.1.1.of,h.2.1.of⟩
theorem Z3v {y:HImage} (h:HdI y):JJ y=.agg [.val y.dv,.val y.pv]:=by
 show AV.agg [.val (YU y.dv).v,.val (YU y.pv).v]=_
 rw [h.1,h.2]
theorem Ziy {y:HImage} {u:Value} (h:RV w G (UH y) u):u=iv y:=by
 cases h with
 | agg hc=>cases hc with
  | cons h1 t=>cases t with
   | cons h2 t=>cases t;rw [h1.header,h2.header];rfl
theorem Zxm {y:HImage} {u:Value} (h:RV w G (UH y) u) (ha:Yu w B (WG y)):TE (XS w) B y:=by
 cases h with
 | agg hc=>cases hc with
  | cons h1 t=>cases t with
   | cons h2 t=>
    obtain ⟨a1,_,a2⟩:=Z31 h1 ha.right.head.1 ha.right.head.2
    obtain ⟨b1,_,b2⟩:=Z31 h2 ha.right.tail.right.head.1 ha.right.tail.right.head.2
    rw [Zdt] at a1
    rw [Zp4] at b1
    exact ⟨⟨a1,Zao a2 ha.left⟩,b1,Zjq b2 ha.right.tail.left⟩
end
def Z3p (S:List Nat) (M:ZK) (y:HImage):Prop:=JA S M (UH y) (iv y)/\HdI y
theorem thawI {w0 w:World} {G0 G':Zs} {y:HImage} {u:Value} (hh0:HOk w0 G0 []) (hx:Ext w0 G0 [] w G' [.many (WG y)]) (hh:HOk w G' [.many (WG y)]) (hv:RV w G' (UH y) u) :
  HOk w G0 [.own (Y3 (WG y)) (XS w)]/\Ext w0 G0 [] w G0 [.own (Y3 (WG y)) (XS w)]/\TE (XS w) (Y3 (WG y)) y/\(Xd y).Nodup /\
   JA (Y3 (WG y)) (XS w) (UH y) (iv y):=by
 obtain ⟨t1,t2⟩:=hh.ok _ (ZW.2 rfl)
 have ha:Yu w (Y3 (WG y)) (WG y):=fun p hp=>⟨t1 p hp,Zd1 hp⟩
 have hcells:∀b∈Y3 (WG y),∃cs e,w.heap[b]? = some (.cells cs e (0,0))/\∀o,cs[o]? = XS w b o:=by
  intro b hb
  obtain ⟨p,hp,hpb⟩:=Z3i.1 hb
  rcases t1 p hp with e|⟨g,len,cap,cur,el,e,h1,_⟩
  ·rw [e] at hpb;simp [Value.ownBlock] at hpb
  ·rw [e] at hpb
   simp only [Value.ownBlock,YF] at hpb
   subst hpb
   exact ⟨cur,el,h1,fun o=>(cell_of_row w g o cur el (0,0) h1).symm⟩
 have hfresh:∀b∈Y3 (WG y),w0.heap.size<=b:=by
  intro b hb
  obtain ⟨p,hp,hpb⟩:=Z3i.1 hb
  rcases t1 p hp with e|⟨g,len,cap,cur,el,e,h1,_⟩
  ·rw [e] at hpb;simp [Value.ownBlock] at hpb
  ·have e':=e
   rw [e] at hpb
   simp only [Value.ownBlock,YF] at hpb
   subst hpb
   refine Nat.le_of_not_lt fun hlt=>?_
   obtain ⟨r,hr,_⟩:=hx.newfp g (len*p.2) hlt ⟨_,ZW.2 rfl,p,hp,by rw [e'];exact ⟨rfl,Yp _⟩⟩
   cases hr
 have hsk:=Zxm hv ha
 have hrv:=Zsb ha _ hv
 rw [Ziy hv] at hrv
 refine ⟨⟨fun r hr=>?_,Qz _ _,fun r hr b o hf hg=>?_,fun b o hg=>Z1r (hh0.lt b o hg) hx.size⟩,
  ⟨hx.os,hx.tape,hx.output,hx.size,fun _ _ h=>h,hx.same,fun _ _ _ h=>.inl h,fun b o hb hf=>?_⟩,hsk,Zln hsk (Zd2 t1 t2),fun w' hw'=>?_⟩
 ·rw [ZW.1 hr]
  exact hcells
 ·rw [ZW.1 hr] at hf
  have h1:=hfresh b hf
  have h2:=hh0.lt b o hg
  omega
 ·obtain ⟨r,hr,hf⟩:=hf
  rw [ZW.1 hr] at hf
  have h1:=hfresh b hf
  omega
 ·refine hrv.mono ⟨fun b o hb=>?_,fun _ _ h=>h⟩
  obtain ⟨cs,e,h1,h2⟩:=hcells b hb
  obtain ⟨cs',e',h1',h2'⟩:=hw' b hb
  rw [cell_of_row w b o cs e (0,0) h1,cell_of_row w' b o cs' e' (0,0) h1',h2,h2']
theorem Zd.thawI2 {P:Program} {f:FuncId} {args:List AV} {c:Bool} {Q:HImage->Prop} (H:Zd P f args [] (fun r h=>∃y:HImage,r=.tup [UH y,.b c]/\h=[.many (WG y)]/\Q y)) :
  Zd P f args [] (fun r h=>∃(y:HImage) (S:List Nat) (M:ZK),r=.tup [JJ y,.b c]/\h=[.own S M]/\(Q y/\TE M S y/\(Xd y).Nodup/\Z3p S M y)):=by
 intro w G vs ha hh
 refine (H w G vs ha hh).mono ?_
 rintro e w' ⟨v,r,h',G',rfl,⟨y,rfl,rfl,hq⟩,hv,hh',hx⟩
 cases hv with
 | tup hc=>cases hc with
  | cons h1 t=>
   obtain ⟨a1,a2,a3,a4,a5⟩:=Go.Abs.thawI hh hx hh' h1
   refine ⟨_,_,_,_,rfl,⟨y,_,_,rfl,rfl,hq,a3,a4,a5,Z4s a3⟩,.tup (.cons ?_ ?_),a1,a2⟩
   ·rw [Ziy h1,Z3v (Z4s a3)];exact .agg (.cons .val (.cons .val .nil))
   ·cases t with
    | cons h2 t=>cases t;cases h2;exact .cons .val .nil
theorem ArgO.lentI {bs:List Res} {B:List Nat} {m:Nat->Nat->Option Value} {y:HImage} {as1 xs:List AV} (h:Res.own B m∈bs) (hr:Z3p B m y) (t:ArgO bs as1 xs):ArgO bs (JJ y::as1) (UH y::xs):=
 .gen h hr.1 (fun w G v h=>by
  rw [Z3v hr.2] at h
  cases h with
  | agg hc=>cases hc with
   | cons h1 t=>cases t with
    | cons h2 t=>cases t;cases h1;cases h2;rfl) t
def Zij (r:Int):Instr:=ZB 23 0 0 0 [r]
def Wa (ds:List Decl) (rt:Routine):List Instr:=flB (Y4 ds) ds ([],rt.params.length) rt.body []++[Zij rt.body.result]
def Zdg (ds:List Decl) (rt:Routine):List Instr:=flB (Ya ds) ds (Y0 rt.params.length,Y0 rt.params.length) rt.body []++[Zij rt.body.result]
def Vb (ds:List Decl) (rt:Routine):Proc:=⟨rt.params,rt.lent,rt.result,max (XP 0 (Wa ds rt)) rt.params.length,Wa ds rt⟩
def WZ (n:Normal):Image:=⟨n.decls,n.routines.map (Vb n.decls)⟩
def noI:Image:=⟨[],[]⟩
def U5 (ds:List Decl):List Routine->Bool
 | []=>true
 | r::rs=>if (Wa ds r).length>2000 then false else U5 ds rs
def Yb (n:Normal):Image × Bool:=if Ws n=true then (if U5 n.decls n.routines=true then (WZ n,true) else (noI,false)) else (noI,false)
section
variable {ds:List Decl} {b:Bool}
theorem Zjd {rs:List Routine} {k:Nat} {r:Routine} (h:rs[k]? = some r) (hs:¬(Wa ds r).length>2000) (ha:U5 ds (rs.drop k)=b):U5 ds (rs.drop (k+1))=b:=by
 rw [Zu h,U5,Z4 hs] at ha;exact ha
theorem Zje {rs:List Routine} {k:Nat} {r:Routine} (h:rs[k]? = some r) (hs:(Wa ds r).length>2000) (ha:U5 ds (rs.drop k)=b):b=false:=by
 rw [Zu h,U5,Z8 hs] at ha;exact ha.symm
theorem Zjc {rs:List Routine} {k:Nat} (h:rs.length<=k) (ha:U5 ds (rs.drop k)=b):b=true:=by
 rw [Ye h,U5] at ha;exact ha.symm
theorem Zjb:∀{rs:List Routine},U5 ds rs=true->∀r∈rs,(Wa ds r).length<=2000
 | [],_,r,h=>by cases h
 | x::rs,h,r,hr=>by
  rw [U5] at h
  split at h
  ·cases h
  ·rcases ZM.1 hr with rfl|hr
   ·omega
   ·exact Zjb h r hr
end
theorem Z8f {n:Normal} (h:¬Ws n=true):Yb n=(noI,false):=Z4 h
theorem Z8e {n:Normal} (h:U5 n.decls n.routines=false):Yb n=(noI,false):=by
 rw [Yb,h];split<;>rfl
theorem Z8h {n:Normal} (h:Ws n=true) (hs:U5 n.decls n.routines=true):Yb n=(WZ n,true):=by rw [Yb,Z8 h,Z8 hs]
theorem Znp {n:Normal} (hz:NSz n) (hB:Ws n=true):∀r∈n.routines,Zdg n.decls r=Wa n.decls r:=fun r hr=>by
 obtain ⟨hn,hsg,hbt⟩:=KN hz hB
 have h:=Y1 Normal.routines (Zxy hz hB)
 have h:=List.map_inj_left.1 h r hr
 have h:=Y1 Routine.body h
 rw [Zdg,Wa,Z4j r.body [] (Zkw hn hz hbt r hr) (QS _) h]
section
variable {n:Normal} (hn:NOk n) (hz:NSz n) (hbt:∀r∈n.routines,0<=ZF n r.params r.body)
include hn hz hbt
theorem Zw8:∀r∈n.routines,JY r.body:=fun r hr=>by
 have h1:=hz.body r hr
 have h2:=hn.params r hr
 exact Jb (us:=r.params) r.body om hn.decls (hbt r hr)
end
theorem Zc2 {g:Nat} {cs:List HInstr} {k:Nat} {c:HInstr} (h:cs[k]? = some c):Xi g (k*6) (cs.drop k)=KK g (k*6) c++Xi g ((k+1)*6) (cs.drop (k+1)):=by
 rw [Zu h,Xi,show k*6+6=(k+1)*6 by omega]
theorem Zc5 {g:Nat} {cs:List HProc} {k:Nat} {c:HProc} (h:cs[k]? = some c):Xn g (k*5) (cs.drop k)=Kb g (k*5) c++Xn g ((k+1)*5) (cs.drop (k+1)):=by
 rw [Zu h,Xn,show k*5+5=(k+1)*5 by omega]
section
variable {N:ZK} {g o:Nat} {z:Int}
theorem Y18 {s:HInstr}:wr N (KK g o s) z=wr (wr (upd (upd (upd (upd N (g,o) z) (g,o+1) (z+1)) (g,o+2) (z+1+1)) (g,o+3) (z+1+1+1)) (Z7 (Z2 s.av) 0 s.args.length) (z+1+1+1+1)) (Z7 (Z2 s.jv) 0 s.jumps.length) (z+1+1+1+1+(Z7 (Z2 s.av) 0 s.args.length).length):=by
 rw [KK,wr,wr,wr,wr,Qf]
theorem Z58 {s:HInstr}:(KK g o s).length=(Z7 (Z2 s.av) 0 s.args.length).length+(Z7 (Z2 s.jv) 0 s.jumps.length).length+4:=by simp [KK]
theorem Zr1 {s:HInstr} (h:YQ N (KK g o s) z):N g o=some (.int .i64 z)/\N g (o+1)=some (.int .i64 (z+1))/\N g (o+2)=some (.int .i64 (z+1+1))/\N g (o+3)=some (.int .i64 (z+1+1+1))/\YQ N (Z7 (Z2 s.av) 0 s.args.length) (z+1+1+1+1) /\
  YQ N (Z7 (Z2 s.jv) 0 s.jumps.length) (z+1+1+1+1+(Z7 (Z2 s.av) 0 s.args.length).length):=by
 obtain ⟨h1,h2,h3,h4,h5⟩:=h
 obtain ⟨h6,h7⟩:=(Kq _ _ _ _).1 h5
 exact ⟨h1,h2,h3,h4,h6,h7⟩
theorem Y1a {r:HProc}:wr N (Kb g o r) z=wr (upd (upd (wr (wr N (Z7 (Z2 r.pv) 0 r.params.length) z) (Z7 (Z2 r.lv) 0 r.lent.length) (z+(Z7 (Z2 r.pv) 0 r.params.length).length)) (g,o+2) (z+(Z7 (Z2 r.pv) 0 r.params.length).length+(Z7 (Z2 r.lv) 0 r.lent.length).length))
  (g,o+3) (z+(Z7 (Z2 r.pv) 0 r.params.length).length+(Z7 (Z2 r.lv) 0 r.lent.length).length+1)) (Xi (Z2 r.cv) 0 r.code) (z+(Z7 (Z2 r.pv) 0 r.params.length).length+(Z7 (Z2 r.lv) 0 r.lent.length).length+1+1):=by
 rw [Kb,Qf,Qf,wr,wr]
theorem Z59 {r:HProc}:(Kb g o r).length=(Z7 (Z2 r.pv) 0 r.params.length).length+(Z7 (Z2 r.lv) 0 r.lent.length).length+(Xi (Z2 r.cv) 0 r.code).length+2:=by rw [Kb];simp;omega
theorem Zr2 {r:HProc} (h:YQ N (Kb g o r) z):YQ N (Z7 (Z2 r.pv) 0 r.params.length) z/\YQ N (Z7 (Z2 r.lv) 0 r.lent.length) (z+(Z7 (Z2 r.pv) 0 r.params.length).length) /\
  N g (o+2)=some (.int .i64 (z+(Z7 (Z2 r.pv) 0 r.params.length).length+(Z7 (Z2 r.lv) 0 r.lent.length).length)) /\
  N g (o+3)=some (.int .i64 (z+(Z7 (Z2 r.pv) 0 r.params.length).length+(Z7 (Z2 r.lv) 0 r.lent.length).length+1)) /\
  YQ N (Xi (Z2 r.cv) 0 r.code) (z+(Z7 (Z2 r.pv) 0 r.params.length).length+(Z7 (Z2 r.lv) 0 r.lent.length).length+1+1):=by
 rw [Kb] at h
 obtain ⟨h1,h2⟩:=(Kq _ _ _ _).1 h
 obtain ⟨h3,h4,h5,h6⟩:=(Kq _ _ _ _).1 h2
 exact ⟨h1,h3,h4,h5,h6⟩
end
theorem Z6r {g:Nat}:∀{o:Nat} {xs:List HInstr},xs.length<=(Xi g o xs).length
 | _,[]=>Tj _
 | o,d::r=>by
  have:=Z6r (g:=g) (o:=o+6) (xs:=r)
  have h2:=Z58 (g:=g) (o:=o) (s:=d)
  rw [Xi,ZC,Y5]
  omega
theorem Z6t {g:Nat}:∀{o:Nat} {xs:List HProc},xs.length<=(Xn g o xs).length
 | _,[]=>Tj _
 | o,d::r=>by
  have:=Z6t (g:=g) (o:=o+5) (xs:=r)
  have h2:=Z59 (g:=g) (o:=o) (r:=d)
  rw [Xn,ZC,Y5]
  omega
theorem Z96 {y:HImage}:(Xd y).length=(Ym (Z2 y.dv) 0 y.decls).length+(Xn (Z2 y.pv) 0 y.procs).length:=by rw [Xd,ZC]
theorem Y17 {M:ZK} {y:HImage} {q:Int}:wr (wr M (Ym (Z2 y.dv) 0 y.decls) q) (Xn (Z2 y.pv) 0 y.procs) (q+((Ym (Z2 y.dv) 0 y.decls).length:Nat))=wr M (Xd y) q:=by rw [Xd,Qf]
structure ImOk (im:Image):Prop where
 decls:X1 im.decls<=1000000000
 procs:im.procs.length<=4
 params:∀p∈im.procs,p.params.length<=1000000000
 lent:∀p∈im.procs,p.lent.length<=1000000000
 code:∀p∈im.procs,p.code.length<=2000
 args:∀p∈im.procs,∀x∈p.code,x.args.length<=10000200
 jumps:∀p∈im.procs,∀x∈p.code,x.jumps.length<=300000000
theorem Zc1 {g:Nat} {a:Nat}:∀{o:Nat} {xs:List HInstr},(∀x∈xs,x.args.length+x.jumps.length+4<=a)->(Xi g o xs).length<=a*xs.length
 | _,[],_=>Tj _
 | o,d::r,h=>by
  have h1:=Zc1 (g:=g) (o:=o+6) (xs:=r) fun x hx=>h x (Yy _ hx)
  have h2:=Z58 (g:=g) (o:=o) (s:=d)
  have h3:=h d (Yd ..)
  rw [Qj,Qj] at h2
  rw [Xi,ZC,Y5,Nat.mul_add]
  omega
theorem Zc4 {g:Nat} {a:Nat}:∀{o:Nat} {xs:List HProc},(∀x∈xs,x.params.length+x.lent.length+(Xi (Z2 x.cv) 0 x.code).length+2<=a)->(Xn g o xs).length<=a*xs.length
 | _,[],_=>Tj _
 | o,d::r,h=>by
  have h1:=Zc4 (g:=g) (o:=o+5) (xs:=r) fun x hx=>h x (Yy _ hx)
  have h2:=Z59 (g:=g) (o:=o) (r:=d)
  have h3:=h d (Yd ..)
  rw [Qj,Qj] at h2
  rw [Xn,ZC,Y5,Nat.mul_add]
  omega
theorem Zlm {y:HImage} (h:ImOk y.er):(Xd y).length<=3999999999999:=by
 have h1:=Z6o (g:=Z2 y.dv) 0 y.decls
 have hd:X1 (y.decls.map HDecl.er)<=1000000000:=h.decls
 have hp:(y.procs.map HProc.er).length<=4:=h.procs
 have h2:=Zc4 (g:=Z2 y.pv) (o:=0) (xs:=y.procs) (a:=630000000000) fun x hx=>by
  have hm:x.er∈y.er.procs:=List.mem_map_of_mem hx
  have k1:x.params.length<=1000000000:=h.params _ hm
  have k2:x.lent.length<=1000000000:=h.lent _ hm
  have k3:(x.code.map HInstr.er).length<=2000:=h.code _ hm
  have k4:=Zc1 (g:=Z2 x.cv) (o:=0) (xs:=x.code) (a:=310000300) fun i hi=>by
   have hmi:i.er∈x.er.code:=List.mem_map_of_mem hi
   have q1:i.args.length<=10000200:=h.args _ hm _ hmi
   have q2:i.jumps.length<=300000000:=h.jumps _ hm _ hmi
   omega
  rw [TK] at k3
  omega
 rw [TK] at hp
 rw [Z96]
 omega
theorem Znx {y:HImage} (h:ImOk y.er):∀d∈y.decls,d.cons.length<=4000000000000:=by
 intro d hd
 have h1:=Z48 (List.mem_map_of_mem (f:=HDecl.er) hd)
 have h2:Wn d.er=d.cons.length+U9 (d.cons.map HCon.er):=by unfold Wn WC HDecl.er;simp
 have h3:X1 (y.decls.map HDecl.er)<=1000000000:=h.decls
 have:X1 (y.decls.map HDecl.er)=y.decls.length+Uh (y.decls.map HDecl.er):=by unfold X1;simp
 omega
section
variable {n:Normal} (hz:NSz n) (hB:Ws n=true)
include hz hB
theorem Z7f:∀r∈n.routines,Rg (Wa n.decls r):=fun r hr=>by
 obtain ⟨hn,hsg,hbt⟩:=KN hz hB
 have h1:=hn.params r hr
 have h2:=hz.body r hr
 have h3:=Zw8 hn hz hbt r hr
 rw [Wa]
 exact (Z4k (Zri hn.decls) hn.decls r.body (q:=r.params.length) (Zkw hn hz hbt r hr) ⟨Yp _,fun a ha=>by cases ha⟩ om h3 .nil).snoc (.mk' om (by simp) fun a ha=>by rw [ZW.1 ha];have:=((QW _).1 h3).2;omega)
theorem Z7e:∀r∈n.routines,(Wa n.decls r).length<=160000001:=fun r hr=>by
 obtain ⟨hn,hsg,hbt⟩:=KN hz hB
 have h2:=hz.body r hr
 have h3:=TU (Y4 n.decls) hn.decls r.body ([],r.params.length) []
 rw [Wa,ZC]
 simp only [Y5,Yk] at h3 ⊢
 omega
theorem Zrl (hs:U5 n.decls n.routines=true) (hd:X1 n.decls<=1000000000):ImOk (WZ n):=by
 obtain ⟨hn,hsg,hbt⟩:=KN hz hB
 have key:∀p∈(WZ n).procs,∃r∈n.routines,p=Vb n.decls r:=fun p hp=>by
  obtain ⟨r,hr,rfl⟩:=YJ.1 hp
  exact ⟨r,hr,rfl⟩
 refine ⟨hd,by show (n.routines.map _).length<=4;rw [TK];exact hn.len,fun p hp=>?_,fun p hp=>?_,fun p hp=>?_,fun p hp x hx=>?_,fun p hp x hx=>?_⟩<;>obtain ⟨r,hr,rfl⟩:=key p hp
 ·have:=hn.params r hr;show r.params.length<=_;omega
 ·have:=hn.lent r hr;show r.lent.length<=_;omega
 ·exact Zjb hs r hr
 ·exact (Z7f hz hB r hr x hx).len
 ·exact (Z7f hz hB r hr x hx).js
end
theorem Zhg:ImOk noI:=by
 refine ⟨?_,Tj _,fun p hp=>?_,fun p hp=>?_,fun p hp=>?_,fun p hp=>?_,fun p hp=>?_⟩
 ·show X1 []<=_;unfold X1;simp [Uh]
 all_goals cases hp
theorem Zqk {n:Normal} (hz:NSz n) (hd:X1 n.decls<=1000000000):ImOk (Yb n).1:=by
 by_cases hB:Ws n=true
 ·cases hs:U5 n.decls n.routines with
  | true=>rw [Z8h hB hs];exact Zrl hz hB hs hd
  | false=>rw [Z8e hs];exact Zhg
 ·rw [Z8f hB];exact Zhg
end Go.Abs
section
namespace Go.Abs
def Zr (c:List Instr) (i:Nat):Prop:=∃x,c[i]? = some x/\x.dst=0/\x.into=0
section
variable {c t:List Instr} {i j:Nat}
theorem Zr.lt (h:Zr c i):i<c.length:=by obtain ⟨x,hx,_⟩:=h;exact (Yg.1 hx).1
theorem Zr.new {x:Instr} (h1:x.dst=0) (h2:x.into=0):Zr (c++[x]) c.length:=⟨x,by simp,h1,h2⟩
theorem Zr.app (h:Zr c i):Zr (c++t) i:=by
 obtain ⟨x,hx,h1⟩:=h
 exact ⟨x,by rw [Jr ((Yg.1 hx).1)];exact hx,h1⟩
theorem Zr.flB {E:Type} {X:FEnv E} {ds:List Decl} {e:E} {b:Block} (h:Zr c i):Zr (flB X ds e b c) i:=by
 obtain ⟨t,ht⟩:=Z0q X ds b e c
 rw [ht];exact h.app
theorem Zr.set {x y:Instr} (h:Zr c i) (hx:c[j]? = some x) (h1:y.dst=x.dst) (h2:y.into=x.into):Zr (c.set j y) i:=by
 obtain ⟨z,hz,h3,h4⟩:=h
 by_cases e:j=i
 ·subst e
  rw [hx] at hz
  cases hz
  exact ⟨y,by rw [List.getElem?_set_self (Yg.1 hx).1],h1.trans h3,h2.trans h4⟩
 ·exact ⟨z,by rw [List.getElem?_set_ne e];exact hz,h3,h4⟩
theorem Zr.aim (h:Zr c i):Zr (XH c j) i:=by
 rw [XH]
 split
 ·exact h
 ·rename_i x hx;exact h.set hx rfl rfl
theorem Zr.fan {js:List Int} (h:Zr c i):Zr (U0 c j js) i:=by
 rw [U0]
 split
 ·exact h
 ·rename_i x hx;exact h.set hx rfl rfl
end
theorem Z2f {c t:List Instr} {i:Nat} {x:Instr} (h:c[i]? = some x):(c++t)[i]? = some x:=by rw [Jr (Yg.1 h).1];exact h
theorem Zfl {c:List Instr} {i:Nat} {x:Instr} {E:Type} {X:FEnv E} {ds:List Decl} {e:E} {b:Block} (h:c[i]? = some x):(flB X ds e b c)[i]? = some x:=by
 rw [Zq5 X ds (Yg.1 h).1];exact h
theorem Zcd {c:List Instr} {i:Nat} {x:Instr} (h:c[i]? = some x):XH c i=c.set i (x.goto c.length):=by rw [XH,h]
theorem Zeo {c:List Instr} {i:Nat} {x:Instr} {js:List Int} (h:c[i]? = some x):U0 c i js=c.set i (x.fan js):=by rw [U0,h]
theorem Zly {c:List Instr} {i:Nat} {x:Instr} (h:c[i]? = some x) (h1:x.dst=0) (h2:x.into=0):c.set i ⟨x.op,0,c.length,0,x.args,x.jumps⟩=XH c i:=by
 rw [Zcd h,Instr.goto,h1,h2]
theorem Zq2 {c:List Instr} {i:Nat} {num:Int} {args js:List Int} (h:c[i]? = some (ZB 21 0 num 0 args)):c.set i ⟨21,0,num,0,args,js⟩=U0 c i js:=by
 rw [Zeo h];rfl
def X6 (es:List Nat):List Int:=es.map Int.ofNat
theorem JX (es:List Nat):(X6 es).length=es.length:=by simp [X6]
theorem Zhr {es:List Nat} {k e:Nat} (h:es[k]? = some e):(X6 es)[k]? = some (e:Int):=by simp [X6,h]
theorem Zhs (es:List Nat) (e:Nat):X6 es++[(e:Int)]=X6 (es++[e]):=by simp [X6]
theorem Zh3 (m k:Nat) (x:Int):YE m (k+1) x=YE m k x++[ZB 19 ((m+k:Nat):Int) (k:Int) 0 [x]]:=by simp [YE,List.range_succ]
theorem Q2 (m k:Nat) (x:Int):(YE m k x).length=k:=by simp [YE]
theorem Zch {es:List Nat} {k e:Nat} {c d:List Instr} (h:es[k]? = some e) (ha:Ur c (es.drop k)=d):Ur (XH c e) (es.drop (k+1))=d:=by rw [Zu h,Ur] at ha;exact ha
theorem Zcg {es:List Nat} {k:Nat} {c d:List Instr} (h:es.length<=k) (ha:Ur c (es.drop k)=d):c=d:=by rw [Ye h,Ur] at ha;exact ha
section
variable {E:Type} {X:FEnv E} {ds:List Decl} {e:E}
theorem Z2d (s:Step) (c:List Instr):Xj X ds e s c=(if s.op=7 then Ua X ds e s.args s.kids c
  else if s.op=8 then Wh X ds e s.num (gI s.args 0) c.length s.kids 0 (c++[ZB 21 0 s.num 0 s.args]) [] []
  else if s.op=14∨s.op=15 then c++[ZB s.op 0 0 0 s.args]
  else if s.op=16∨s.op=17 then c++[ZB s.op 0 0 0 (s.args++X.res e (gI s.args 0))]
  else c++[ZB s.op (X.len e) s.num s.into s.args]):=by cases s;rw [Xj];rfl
theorem Zf1 {s:Step} {c:List Instr} {k0 k1:Block} (h:s.op=7) (hk:s.kids=[k0,k1]):Xj X ds e s c =
  XH (flB X ds e k1 (XH ((flB X ds e k0 (c++[ZB 20 0 0 0 s.args])++[ZB 18 (X.len e) 0 0 [k0.result]])++[ZB 22 0 0 0 []]) c.length)++[ZB 18 (X.len e) 0 0 [k1.result]]) (flB X ds e k0 (c++[ZB 20 0 0 0 s.args])++[ZB 18 (X.len e) 0 0 [k0.result]]).length:=by
 rw [Z2d,Z8 h,hk,Ua,Ui]
theorem Zf2 {s:Step} {c:List Instr} (h:s.op=8):Xj X ds e s c=Wh X ds e s.num (gI s.args 0) c.length s.kids 0 (c++[ZB 21 0 s.num 0 s.args]) [] []:=by
 rw [Z2d,Z4 om,Z8 h]
theorem JM {s:Step} {c:List Instr} (h:s.op=14∨s.op=15):Xj X ds e s c=c++[ZB s.op 0 0 0 s.args]:=by
 rw [Z2d,Z4 om,Z4 om,Z8 h]
theorem JO {s:Step} {c:List Instr} (h:s.op=16∨s.op=17):Xj X ds e s c=c++[ZB s.op 0 0 0 (s.args++X.res e (gI s.args 0))]:=by
 rw [Z2d,Z4 om,Z4 om,Z4 om,Z8 h]
theorem JN {s:Step} {c:List Instr} (h7:s.op≠7) (h8:s.op≠8) (h1:¬(s.op=14∨s.op=15)) (h2:¬(s.op=16∨s.op=17)):Xj X ds e s c=c++[ZB s.op (X.len e) s.num s.into s.args]:=by
 rw [Z2d,Z4 h7,Z4 h8,Z4 h1,Z4 h2]
theorem Zf0 (b:Block) (c:List Instr):flB X ds e b c=Ww X ds e b.steps c:=by cases b;rw [flB];rfl
theorem Z4l {xs:List Step} {k:Nat} {s:Step} {c d:List Instr} (h:xs[k]? = some s) (ha:Ww X ds e (xs.drop k) c=d):Ww X ds (if Y2 s.op=true then e else X.nxt e) (xs.drop (k+1)) (Xj X ds e s c)=d:=by
 rw [Zu h,Ww] at ha;exact ha
theorem Zf6 {xs:List Step} {k:Nat} {c d:List Instr} (h:xs.length<=k) (ha:Ww X ds e (xs.drop k) c=d):c=d:=by
 rw [Ye h,Ww] at ha;exact ha
theorem Zet {bs:List Block} {num x:Int} {a k j:Nat} {c d:List Instr} {ts:List Int} {es:List Nat} (h:bs.length<=k) (ha:Wh X ds e num x a (bs.drop k) j c ts es=d):Ur (U0 c a ts) es=d:=by
 rw [Ye h,Wh] at ha;exact ha
theorem Zev {bs:List Block} {b:Block} {num x:Int} {a k:Nat} {c d:List Instr} {ts:List Int} {es:List Nat} (hb:bs[k]? = some b) (hl:k+1<bs.length) (ha:Wh X ds e num x a (bs.drop k) k c ts es=d) :
  Wh X ds e num x a (bs.drop (k+1)) (k+1) ((flB X ds (X.arm e x num k) b (c++YE (X.len e) (XZ ds num k).length x)++[ZB 18 (X.len e) 0 0 [b.result]])++[ZB 22 0 0 0 []]) (ts++[(c.length:Int)])
   (es++[(flB X ds (X.arm e x num k) b (c++YE (X.len e) (XZ ds num k).length x)++[ZB 18 (X.len e) 0 0 [b.result]]).length])=d:=by
 rw [Zu hb,Wh] at ha
 rw [ZC (bs:=[ZB 18 (X.len e) 0 0 [b.result]])]
 obtain ⟨y,hy⟩:=Zl (xs:=bs) (j:=k+1) om
 have hd:=Zu hy
 rw [hd] at ha ⊢
 exact ha
theorem Zew {bs:List Block} {b:Block} {num x:Int} {a k:Nat} {c d:List Instr} {ts:List Int} {es:List Nat} (hb:bs[k]? = some b) (hl:bs.length=k+1) (ha:Wh X ds e num x a (bs.drop k) k c ts es=d) :
  Wh X ds e num x a (bs.drop (k+1)) (k+1) (flB X ds (X.arm e x num k) b (c++YE (X.len e) (XZ ds num k).length x)++[ZB 18 (X.len e) 0 0 [b.result]]) (ts++[(c.length:Int)]) es=d:=by
 rw [Zu hb,Wh] at ha
 rw [Ye om] at ha ⊢
 exact ha
end
def VZ (c:List HInstr):List Instr:=c.map HInstr.er
theorem Zef (c:List HInstr):(VZ c).length=c.length:=by simp [VZ]
theorem Zpv (c d:List HInstr):VZ (c++d)=VZ c++VZ d:=by simp [VZ]
theorem Zed {c:List HInstr} {i:Nat} {x:HInstr} (h:c[i]? = some x):(VZ c)[i]? = some x.er:=by simp [VZ,h]
def HInstr.goto (x:HInstr) (v:Int):HInstr:=⟨x.op,x.dst,v,x.into,x.args,x.av,x.jumps,x.jv⟩
def HInstr.fan (x:HInstr) (js:List Int) (u:Value):HInstr:=⟨x.op,x.dst,x.num,x.into,x.args,x.av,js,u⟩
theorem Zee {c:List HInstr} {i:Nat} {x:HInstr} (h:c[i]? = some x):VZ (c.set i (x.goto c.length))=XH (VZ c) i:=by
 rw [Zcd (Zed h),Zef,VZ,List.map_set];rfl
theorem Zec {c:List HInstr} {i:Nat} {x:HInstr} {js:List Int} {u:Value} (h:c[i]? = some x):VZ (c.set i (x.fan js u))=U0 (VZ c) i js:=by
 rw [Zeo (Zed h),VZ,List.map_set];rfl
theorem Zfo {c:List HInstr} {i:Nat} {x:HInstr} (h:c[i]? = some x):ZY c=(ZY (c.take i)++[(x.av,1)])++(x.jv,1)::ZY (c.drop (i+1)):=by
 have hk:=(Yg.1 h).1
 have e:c=c.take i++(x::c.drop (i+1)):=by rw [<-Zu h,Z3m]
 conv=>lhs;rw [e,Kn]
 simp [ZY,Tt]
theorem Z8o {c:List HInstr} {i:Nat} {x:HInstr} {v:Int} (h:c[i]? = some x):ZY (c.set i (x.goto v))=ZY c:=by
 have hk:=(Yg.1 h).1
 rw [Zfo h,Z1p,Z8 hk,Kn]
 simp [ZY,Tt,HInstr.goto]
theorem Zqt {c:List HInstr} {i:Nat} {x:HInstr} {js:List Int} {u:Value} (h:c[i]? = some x):(ZY (c.take i)++[(x.av,1)])++(u,1)::ZY (c.drop (i+1))=ZY (c.set i (x.fan js u)):=by
 have hk:=(Yg.1 h).1
 rw [Z1p,Z8 hk,Kn]
 simp [ZY,Tt,HInstr.fan]
theorem Z8c {c:List HInstr} {i:Nat} {x:HInstr} (v:Int) (h:c[i]? = some x):(Z9 (ZO c)).take (i*6+2)++[.i v]++(Z9 (ZO c)).drop (i*6+2+1)=Z9 (ZO (c.set i (x.goto v))):=by
 have hi:=(Yg.1 h).1
 have hl:(Z9 (ZO (c.take i))).length=i*6:=by rw [T7,TL,Qi om]
 have e:JT x=[.i x.op,.i x.dst]++([.i x.num]++[.i x.into,Zb x.args x.av,Zb x.jumps x.jv]):=rfl
 rw [Zfa h,e,Xs [AV.i x.op,.i x.dst],<-Xs (Z9 (ZO (c.take i)))]
 have q:=Qu (A:=Z9 (ZO (c.take i))++[.i x.op,.i x.dst]) (xs:=[.i x.num]) (ys:=[.i v]) (B:=[.i x.into,Zb x.args x.av,Zb x.jumps x.jv]++Z9 (ZO (c.drop (i+1)))) (o:=i*6+2) (by simp [hl]) rfl
 rw [Xs [AV.i x.num]]
 refine q.trans ?_
 have e2:c.set i (x.goto v)=c.take i++(x.goto v::c.drop (i+1)):=by rw [Z1p,Z8 hi]
 rw [e2,Z4c,Vu,Xs]
 rfl
theorem Zql {c:List HInstr} {i:Nat} {x:HInstr} (js:List Int) (u:Value) (h:c[i]? = some x):(Z9 (ZO c)).take (i*6+5)++[Zb js u]++(Z9 (ZO c)).drop (i*6+5+1)=Z9 (ZO (c.set i (x.fan js u))):=by
 have hi:=(Yg.1 h).1
 have hl:(Z9 (ZO (c.take i))).length=i*6:=by rw [T7,TL,Qi om]
 have e:JT x=[.i x.op,.i x.dst,.i x.num,.i x.into,Zb x.args x.av]++([Zb x.jumps x.jv]++[]):=rfl
 rw [Zfa h,e,Xs [AV.i x.op,.i x.dst,.i x.num,.i x.into,Zb x.args x.av],<-Xs (Z9 (ZO (c.take i)))]
 have q:=Qu (A:=Z9 (ZO (c.take i))++[.i x.op,.i x.dst,.i x.num,.i x.into,Zb x.args x.av]) (xs:=[Zb x.jumps x.jv]) (ys:=[Zb js u]) (B:=[]++Z9 (ZO (c.drop (i+1)))) (o:=i*6+5) (by simp [hl]) rfl
 rw [Xs [Zb x.jumps x.jv]]
 refine q.trans ?_
 have e2:c.set i (x.fan js u)=c.take i++(x.fan js u::c.drop (i+1)):=by rw [Z1p,Z8 hi]
 rw [e2,Z4c,Vu,Xs]
 rfl
end Go.Abs
namespace Go.Abs
theorem Zgk {n:Normal} {us:List Int} {s:Step} (hf:SFacts n us s) (h7:s.op=7):∃k0 k1,s.kids=[k0,k1]/\0<=ZF n us k0/\0<=ZF n us k1:=by
 obtain ⟨h1,_,h3⟩:=hf.kids (.inl h7)
 have e:Zy n.decls s.op s.num=[[],[]]:=by rw [Zy,Z8 h7]
 rw [e] at h1 h3
 obtain ⟨k0,q0⟩:=Zl (xs:=s.kids) (j:=0) (by rw [h1];decide)
 obtain ⟨k1,q1⟩:=Zl (xs:=s.kids) (j:=1) (by rw [h1];decide)
 have t0:=h3 0 k0 [] q0 rfl
 have t1:=h3 1 k1 [] q1 rfl
 rw [Qg] at t0 t1
 refine ⟨k0,k1,?_,t0,t1⟩
 cases hk:s.kids with
 | nil=>rw [hk] at h1;cases h1
 | cons a r=>cases r with
  | nil=>rw [hk] at h1;cases h1
  | cons b r=>cases r with
   | nil=>
    rw [hk] at q0 q1
    cases q0;cases q1;rfl
   | cons _ _=>rw [hk] at h1;simp at h1
theorem Zgl {n:Normal} {us:List Int} {s:Step} (hf:SFacts n us s) (h8:s.op=8):s.kids.length=(Zt n.decls s.num).length/\∀(k:Nat) (b:Block) (x:Int),s.kids[k]? = some b->(Zt n.decls s.num)[k]? = some x->0<=ZF n (us++Zc n.decls x) b/\QH n.decls s.num k=x/\XZ n.decls s.num k=Zc n.decls x:=by
 obtain ⟨h1,_,h3⟩:=hf.kids (.inr h8)
 have e:Zy n.decls s.op s.num=(Zt n.decls s.num).map (Zc n.decls):=by rw [Zy,Z4 om]
 rw [e] at h1 h3
 refine ⟨by rw [h1,TK],fun k b x hb hx=>?_⟩
 have hm:((Zt n.decls s.num).map (Zc n.decls))[k]? = some (Zc n.decls x):=by rw [VC,hx];rfl
 exact ⟨h3 k b _ hb hm,XR (by simpa using hx),Z85 hm⟩
theorem Z7a:∀{bs:List Block} {k:Nat} {b:Block},bs[k]? = some b->Yx (bs.take (k+1))=Yx (bs.take k)+b.sz/\Yx (bs.take k)+b.sz<=Yx bs
 | [],_,_,h=>by simp at h
 | x::r,0,b,h=>by simp at h;subst h;simp [Yx]
 | x::r,k+1,b,h=>by
  obtain ⟨h1,h2⟩:=Z7a (bs:=r) (k:=k) (b:=b) (by simpa using h)
  simp only [Z3n,Yx]
  omega
theorem Zw6 {c:List Instr} {k:Nat} {x:Instr} {m q R:Int} (h:c[k]? = some x) (hq:q=U4 m x) (ha:XP m (c.drop k)=R):XP q (c.drop (k+1))=R:=by
 subst hq;rw [Zu h] at ha;exact ha
theorem Zw5 {c:List Instr} {k:Nat} {m R:Int} (h:c.length<=k) (ha:XP m (c.drop k)=R):m=R:=by rw [Ye h] at ha;exact ha
theorem Zha {l:List Int} {j:Nat} {a m R:Int} (h:l[j]? = some a) (ha:(l.drop j).foldl (fun m a=>max m (a+1)) m=R):(l.drop (j+1)).foldl (fun m a=>max m (a+1)) (max m (a+1))=R:=by
 rw [Zu h] at ha;exact ha
theorem Zh9 {l:List Int} {j:Nat} {m R:Int} (h:l.length<=j) (ha:(l.drop j).foldl (fun m a=>max m (a+1)) m=R):m=R:=by rw [Ye h] at ha;exact ha
theorem Zl5 (k:Nat) (h:k<=1000000000):VE (Y0 k):=fun f hf=>by have:=Zhm k f hf;omega
theorem Zrj {n:Normal} {k:Nat} {r:Routine} (h:n.routines[k]? = some r):(WZ n).procs[k]? = some (Vb n.decls r):=by simp [WZ,h]
theorem Zrk (n:Normal):(WZ n).procs.length=n.routines.length:=by simp [WZ]
theorem Zw3 (c:List Instr) (p:Nat):XP (p:Int) c=max (XP 0 c) (p:Int):=by rw [Zw2 c om];omega
theorem Yf {p:Prop} (h:p:=by first|omega|(simp only [Uq,UL,ZC,Y5,Yk,Q2,JX,QS,VD];omega)):p:=h
end Go.Abs
end
namespace Go.Abs
open Go.Proofs
theorem Zyp (ds:List Decl) (n:Nat) (hz:DSz ds:=by exact ob) (hn:n<ds.length:=by exact ob):Zd Tryz.prog 158 [Z3 ds,.i n] [] (fun r h=>r=.b (KQ ds n)/\h=[]):=by
 have hl_ds:ds.length<=4294967296:=by have:=hz.len;omega
 refine enter Tryz.func158 kr (n:=100) kr kr (ar (ir 1 [(0,Z3 ds),(1,.i n)] (ie (ar (Z0 2 (.n 8 (Z3 ds) (.n 9 (.i n) .r)) ?_)))))
 obtain ⟨x1,hx1⟩:=Zl (xs:=ds) (j:=n) om
 have hdo:=Z22 hx1
 have hz1:=hz.cons_at hx1
 refine Zf (Zj (es:=ZQ ds) (hv:=none) (j:=(n:Int)) (sz:=3) (y:=Yw x1) kr om (Wd hx1) rfl) (Z0 1 (.n 11 (Yw x1) .r) (iA [.i 0,.i 0,nl] ?_))
 intro b1
 refine iS 0 b1 0 (Ys x1) [.i 0,.i 0,nl] (Ys x1) (ie (aq (ar (Za 2 (.n 13 (Y8 x1.cons) .r) [0] [b1] (iw (Wc x1.cons) (Z0 1 (.n 15 (.b (decide ((x1.cons.length:Int)>0))) .r) (ie (ac (decide ((x1.cons.length:Int)>0)) dq (fun hc1=>?_) (fun hc1=>?_)))))))))
 ·refine aq (ar (Za 2 (.n 17 (Y8 x1.cons) .r) [0] [b1] (iw (Wc x1.cons) (YV 9 [(0,Z3 ds),(5,.p b1 0),(24,.b ((decide ((x1.cons.length:Int)>3))||(x1.frm != 0)))] [.obj b1 (Ys x1)] ?_ (fun hj1=>?_)))))
  ·refine Xl [(0,Z3 ds),(5,.p b1 0),(29,.b (((decide ((x1.cons.length:Int)>3))||(x1.frm != 0))||(x1.to_ != 0)))] [.obj b1 (Ys x1)] ?_ ?_
   ·refine ir 1 [(0,Z3 ds),(5,.p b1 0),(25,.b ((decide ((x1.cons.length:Int)>3))||(x1.frm != 0)))] (ib (b:=((decide ((x1.cons.length:Int)>3))||(x1.frm != 0))) 25 (fun hb1=>?_) (fun hb1=>?_))
    ·have hp1:((x1.cons.length:Int)>3)∨(x1.frm≠0):=((Zz dq Zw)).1 hb1
     refine Z0 4 (.n 29 (.b true) (.d (.k (.k .z)))) (ie ?_)
     exact wk [0] (fw (fc (x:=.b true) (lb (by simp only [hb1];rfl)) fl))
    have hp2:¬(((x1.cons.length:Int)>3)∨(x1.frm≠0)):=Zv (Zz dq Zw) hb1
    refine Za 4 (.n 29 (.b (x1.to_ != 0)) (.d (.k (.k .z)))) [0] [b1] (ie ?_)
    exact wk [0] (fw (fc (x:=.b (x1.to_ != 0)) (lb (by simp only [hb1];rfl)) fl))
   refine ac (((decide ((x1.cons.length:Int)>3))||(x1.frm != 0))||(x1.to_ != 0)) (p:=(((x1.cons.length:Int)>3)∨(x1.frm≠0))∨(x1.to_≠0)) (Zz (Zz dq Zw) Zw) (fun hc2=>?_) (fun hc2=>?_)
   ·refine ar (ir 1 [(4,.b false)] (ie ?_))
    exact Z5 (r2 [] [.b false] ⟨rfl,rfl⟩ (lb (by clear hx1;first|rfl|omega|grind [Vi])))
   refine ak (aq (ar (ir 1 [(0,Z3 ds),(5,.p b1 0),(6,.i 0)] (ie (ab 0 (al (fun m F h=>∃(k:Nat),(k<=x1.cons.length)/\(U8 ds.length (x1.cons.drop k)=U8 ds.length x1.cons)/\F=[(0,Z3 ds),(5,.p b1 0),(6,.i k)]/\h=[.obj b1 (Ys x1)]/\m=x1.cons.length-k) _ _ _ ⟨0,ob,ob,rfl,rfl,rfl⟩ (wk [0] (fw (fc (x:=.i 0) li fl))) ?_))))))
   rintro m F h ⟨k,c0_0,c0_1,rfl,rfl,rfl⟩
   refine aq (ar (Za 3 (.n 30 (.i k) (.n 32 (Y8 x1.cons) .r)) [0] [b1] (iw (Wc x1.cons) (Z0 1 (.n 34 (.b (decide ((k:Int)<(x1.cons.length:Int)))) .r) (ie (ac (decide ((k:Int)<(x1.cons.length:Int))) dq (fun hc3=>?_) (fun hc3=>?_)))))))
   ·refine ak (aq (ab 1 (ar (Za 3 (.n 38 (Y8 x1.cons) (.n 39 (.i k) .r)) [0] [b1] ?_))))
    obtain ⟨x2,hx2⟩:=Zl (xs:=x1.cons) (j:=k) om
    refine Zf (Zj (es:=YH x1.cons) (hv:=none) (j:=(k:Int)) (sz:=1) (y:=Wm x2) kr om (Qq hx2) rfl) (Z0 2 (.n 42 (Z1 x2.fields) .r) (iw (ZD x2.fields) (Xl [(0,Z3 ds),(5,.p b1 0),(6,.i k),(55,.b ((decide ((x2.fields.length:Int)>3))||(!YK ds.length x2.fields)))] [.obj b1 (Ys x1)] ?_ ?_)))
    ·refine ir 2 [(0,Z3 ds),(5,.p b1 0),(6,.i k),(45,.b (decide ((x2.fields.length:Int)>3)))] (ib (b:=(decide ((x2.fields.length:Int)>3))) 45 (fun hb2=>?_) (fun hb2=>?_))
     ·have hp3:(x2.fields.length:Int)>3:=(dq).1 hb2
      refine Z0 10 (.n 55 (.b true) (.d (.k (.k (.k .z))))) (ie ?_)
      exact wk [0] (fw (fr (fc (x:=.b true) (lb (by simp only [hb2];rfl)) fl)))
     have hp4:¬((x2.fields.length:Int)>3):=Zv dq hb2
     refine Za 4 (.n 46 (Z3 ds) (.n 48 (Y8 x1.cons) (.n 49 (.i k) (.w .z)))) [0] [b1] (Zf (Zj (es:=YH x1.cons) (hv:=none) (j:=(k:Int)) (sz:=1) (y:=Wm x2) kr om (Qq hx2) rfl) (Z0 2 (.n 52 (Z1 x2.fields) .r) (ic [] (Zjv ds x2.fields) ?_)))
     rintro _ _ ⟨rfl,rfl⟩
     refine Z0 2 (.n 55 (.b (!YK ds.length x2.fields)) .r) (ie ?_)
     exact wk [0] (fw (fr (fc (x:=.b (!YK ds.length x2.fields)) (lb (by simp only [hb2];rfl)) fl)))
    refine ac ((decide ((x2.fields.length:Int)>3))||(!YK ds.length x2.fields)) (p:=((x2.fields.length:Int)>3)∨(¬(YK ds.length x2.fields=true))) (Zz dq (ZP Iff.rfl)) (fun hc4=>?_) (fun hc4=>?_)
    ·refine ar (ir 1 [(4,.b false)] (ie ?_))
     rw [Zu hx2] at c0_1
     exact Z5 (r2 [] [.b false] ⟨rfl,rfl⟩ (lb (by clear hx1 hx2;first|rfl|omega|grind [U8,Qo,Vi])))
    refine ak (az (ir 1 [(0,Z3 ds),(5,.p b1 0),(35,.i k)] (ia (((k+1:Nat):Int)) (((k:Int))+(1)) (Z0 1 (.n 6 (.i (k+1:Nat)) .r) (ie ?_)))))
    have hdr:=Zu hx2
    exact ⟨_,_,_,ob,⟨k+1,ob,(by rw [hdr] at c0_1;clear hdr hx1 hx2;grind [U8,Qo]),rfl,rfl,rfl⟩,(wk [0] (fw (fc (x:=.i (k+1:Nat)) li fl)))⟩
   refine ax 0 (ar (ir 1 [(4,.b true)] (ie ?_)))
   try rw [Ye (xs:=x1.cons) (k:=k) om] at c0_1
   exact Z5 (r2 [] [.b true] ⟨rfl,rfl⟩ (lb (by clear hx1;first|rfl|omega|grind [U8,Qo,Vi])))
  refine ir 2 [(0,Z3 ds),(5,.p b1 0),(20,.b (decide ((x1.cons.length:Int)>3)))] (ib (b:=(decide ((x1.cons.length:Int)>3))) 20 (fun hb3=>?_) (fun hb3=>?_))
  ·have hp5:(x1.cons.length:Int)>3:=(dq).1 hb3
   refine Z0 4 (.n 24 (.b true) (.d (.k (.k .z)))) ?_
   exact ZL (wk [0] (fw (fc (x:=.b true) (lb (by simp only [hb3];rfl)) fl))) hj1
  have hp6:¬((x1.cons.length:Int)>3):=Zv dq hb3
  refine Za 4 (.n 24 (.b (x1.frm != 0)) (.d (.k (.k .z)))) [0] [b1] ?_
  exact ZL (wk [0] (fw (fc (x:=.b (x1.frm != 0)) (lb (by simp only [hb3];rfl)) fl))) hj1
 refine ak (aq (ar (Z0 1 (.n 7 (.i 0) .r) (ie (ab 2 (al (fun m F h=>∃(j:Nat),(j<=n)/\(T5 x1 ((ds.take n).drop j)=T5 x1 (ds.take n))/\F=[(0,Z3 ds),(1,.i n),(5,.p b1 0),(7,.i j)]/\h=[.obj b1 (Ys x1)]/\m=n-j) _ _ _ ⟨0,ob,ob,rfl,rfl,rfl⟩ (wk [0] (fw (fr (fc (x:=.i 0) li fl)))) ?_))))))
 rintro m F h ⟨j,c1_0,c1_1,rfl,rfl,rfl⟩
 refine aq (ar (Z0 3 (.n 58 (.b (decide ((j:Int)<(n:Int)))) .r) (ie (ac (decide ((j:Int)<(n:Int))) dq (fun hc5=>?_) (fun hc5=>?_)))))
 ·refine ak (aq (ab 3 (aD 27 (Zi (fuel:=25) 27 [0,1] (.n 61 (Z3 ds) (.n 62 (.i j) .r)) ?_))))
  obtain ⟨x3,hx3⟩:=Zl (xs:=ds) (j:=j) om
  refine dx 2 (Zj (es:=ZQ ds) (hv:=none) (j:=(j:Int)) (sz:=3) (y:=Yw x3) kr om (Wd hx3) rfl) (Zi (fuel:=22) 24 [3,4] (.n 65 (Y8 x3.cons) .r) (dw 5 (Wc x3.cons) (Ke [(0,Z3 ds),(1,.i n),(5,.p b1 0),(7,.i j),(87,.b (((x3.cons.length:Int)==0)&&((x3.frm==x1.frm)&&(x3.to_==x1.to_))))] [.obj b1 (Ys x1)] ?_ ?_)))
  ·refine dt (fuel:=19) 21 [6,7] [(0,Z3 ds),(1,.i n),(5,.p b1 0),(7,.i j),(68,.b ((x3.cons.length:Int)==0))] (db (b:=((x3.cons.length:Int)==0)) 68 (fun hb4=>?_) (fun hb4=>?_))
   ·have hp7:(x3.cons.length:Int)=0:=(Ze).1 hb4
    refine Zi (fuel:=17) 19 [8,9] (.n 69 (Z3 ds) (.n 70 (.i j) (.w (.k .z)))) (dx 10 (Zj (es:=ZQ ds) (hv:=none) (j:=(j:Int)) (sz:=3) (y:=Yw x3) kr om (Wd hx3) rfl) (ZI (fuel:=9) 16 [11,12,13,14,15,16,17] (.n 78 (.b (x3.frm==x1.frm)) .r) [0] [b1] (db (b:=(x3.frm==x1.frm)) 78 (fun hb5=>?_) (fun hb5=>?_))))
    ·have hp8:x3.frm=x1.frm:=(Ze).1 hb5
     refine Zi (fuel:=7) 9 [18,19] (.n 79 (Z3 ds) (.n 80 (.i j) (.k (.d .r)))) (dx 20 (Zj (es:=ZQ ds) (hv:=none) (j:=(j:Int)) (sz:=3) (y:=Yw x3) kr om (Wd hx3) rfl) (ZI (fuel:=0) 6 [21,22,23,24,25,26] (.n 87 (.b (x3.to_==x1.to_)) .r) [0] [b1] (de ?_)))
     exact wk [0] (fq (fc (x:=.b (x3.to_==x1.to_)) (lb (by simp only [hb4,hb5];rfl)) fl))
    have hp9:¬(x3.frm=x1.frm):=Zv Ze hb5
    refine Zi (fuel:=0) 9 [18,19,20,21,22,23,24,25,26] (.n 87 (.b false) (.k (.d .r))) (de ?_)
    exact wk [0] (fq (fc (x:=.b false) (lb (by simp only [hb4,hb5];rfl)) fl))
   have hp10:¬((x3.cons.length:Int)=0):=Zv Ze hb4
   refine Zi (fuel:=0) 19 [8,9,10,11,12,13,14,15,16,17,18,19,20,21,22,23,24,25,26] (.n 87 (.b false) (.d (.w .z))) (de ?_)
   exact wk [0] (fq (fc (x:=.b false) (lb (by simp only [hb4];rfl)) fl))
  refine ac (((x3.cons.length:Int)==0)&&((x3.frm==x1.frm)&&(x3.to_==x1.to_))) (p:=((x3.cons.length:Int)=0)/\((x3.frm=x1.frm)/\(x3.to_=x1.to_))) (ZZ Ze (ZZ Ze Ze)) (fun hc6=>?_) (fun hc6=>?_)
  ·refine ar (ir 1 [(4,.b false)] (ie ?_))
   rw [Zu (show (ds.take n)[j]? = some x3 by rw [Uo,Z8 om];exact hx3),T5,Z8 om] at c1_1
   exact Z5 (r2 [] [.b false] ⟨rfl,rfl⟩ (lb (by clear hx1 hx3;first|rfl|omega|grind [Vi])))
  refine ak (az (ir 1 [(0,Z3 ds),(1,.i n),(5,.p b1 0),(59,.i j)] (ia (((j+1:Nat):Int)) (((j:Int))+(1)) (hb:=(by have:=hz.len;omega)) (Z0 1 (.n 7 (.i (j+1:Nat)) .r) (ie ?_)))))
  have hdr:=Zu hx3
  exact ⟨_,_,_,ob,⟨j+1,ob,(by rw [Zu (show (ds.take n)[j]? = some x3 by rw [Uo,Z8 om];exact hx3),T5,Z4 om] at c1_1;exact c1_1),rfl,rfl,rfl⟩,(wk [0] (fw (fr (fc (x:=.i (j+1:Nat)) li fl))))⟩
 refine ax 2 (ar (Za 3 (.n 89 (.i x1.frm) (.n 90 (Z3 ds) .r)) [0] [b1] (iw (Wv ds) (ic [] (Un x1.frm 0 (ds.length:Int)) ?_))))
 rintro _ _ ⟨rfl,rfl⟩
 refine YV 12 [(99,.b ((decide (0<=x1.frm/\x1.frm<=(ds.length:Int)))&&(decide (0<=x1.to_/\x1.to_<=(ds.length:Int)))))] [.obj b1 (Ys x1)] ?_ (fun hj2=>?_)
 ·refine ir 1 [(4,.b ((decide (0<=x1.frm/\x1.frm<=(ds.length:Int)))&&(decide (0<=x1.to_/\x1.to_<=(ds.length:Int)))))] (ie ?_)
  rw [Ye (show (ds.take n).length<=j by rw [TL];omega),T5] at c1_1
  exact Z5 (r2 [] [.b ((decide (0<=x1.frm/\x1.frm<=(ds.length:Int)))&&(decide (0<=x1.to_/\x1.to_<=(ds.length:Int))))] ⟨rfl,rfl⟩ (lb (by clear hx1;first|rfl|omega|grind [Vi])))
 refine ir 1 [(0,Z3 ds),(5,.p b1 0),(93,.b (decide (0<=x1.frm/\x1.frm<=(ds.length:Int))))] (ib (b:=(decide (0<=x1.frm/\x1.frm<=(ds.length:Int)))) 93 (fun hb6=>?_) (fun hb6=>?_))
 ·have hp11:0<=x1.frm/\x1.frm<=(ds.length:Int):=(dq).1 hb6
  refine Za 3 (.n 95 (.i x1.to_) (.n 96 (Z3 ds) (.k .z))) [0] [b1] (iw (Wv ds) (ic [] (Un x1.to_ 0 (ds.length:Int)) ?_))
  rintro _ _ ⟨rfl,rfl⟩
  refine ir 1 [(99,.b (decide (0<=x1.to_/\x1.to_<=(ds.length:Int))))] ?_
  exact ZL (wk [0] (fc (x:=.b (decide (0<=x1.to_/\x1.to_<=(ds.length:Int)))) (lb (by simp only [hb6];rfl)) fl)) hj2
 have hp12:¬(0<=x1.frm/\x1.frm<=(ds.length:Int)):=Zv dq hb6
 refine ir 6 [(99,.b false)] ?_
 exact ZL (wk [0] (fc (x:=.b false) (lb (by simp only [hb6];rfl)) fl)) hj2
theorem Zyv (ds:List Decl) (hz:DSz ds:=by exact ob):Zd Tryz.prog 132 [Z3 ds] [] (fun r h=>r=.b (Xf ds)/\h=[]):=by
 have hzl:=hz.len
 refine enter Tryz.func132 kr (n:=17) kr kr (ar (ir 1 [(0,Z3 ds)] (ie (aq (ar (Z0 1 (.n 4 (Z3 ds) .r) (iw (Wv ds) (Z0 1 (.n 6 (.b (decide ((ds.length:Int)>4))) .r) (ie (ac (decide ((ds.length:Int)>4)) dq (fun hc1=>?_) (fun hc1=>?_)))))))))))
 ·refine ar (ir 1 [(2,.b false)] (ie ?_))
  exact Z5 (r2 [] [.b false] ⟨rfl,rfl⟩ (lb (by first|rfl|omega|grind [Xf])))
 refine ak (aq (ar (Z0 1 (.n 3 (.i 0) .r) (ie (ab 0 (al (fun m F h=>∃(k:Nat),(k<=ds.length)/\(VH ds (ds.drop k) k=VH ds ds 0)/\F=[(0,Z3 ds),(3,.i k)]/\h=[]/\m=ds.length-k) _ _ _ ⟨0,ob,ob,rfl,rfl,rfl⟩ (wk [] (fr (fc (x:=.i 0) li fl))) ?_))))))
 rintro m F h ⟨k,c0_0,c0_1,rfl,rfl,rfl⟩
 refine aq (ar (Z0 2 (.n 7 (.i k) (.n 8 (Z3 ds) .r)) (iw (Wv ds) (Z0 1 (.n 10 (.b (decide ((k:Int)<(ds.length:Int)))) .r) (ie (ac (decide ((k:Int)<(ds.length:Int))) dq (fun hc2=>?_) (fun hc2=>?_)))))))
 ·refine ak (aq (ab 1 (ar (Z0 2 (.n 13 (Z3 ds) (.n 14 (.i k) .r)) (ic [] (Zyp ds k) ?_)))))
  rintro _ _ ⟨rfl,rfl⟩
  refine Z0 1 (.n 16 (.b (!KQ ds k)) .r) (ie (ac (!KQ ds k) (p:=¬(KQ ds k=true)) (ZP Iff.rfl) (fun hc3=>?_) (fun hc3=>?_)))
  ·refine ar (ir 1 [(2,.b false)] (ie ?_))
   try rw [Ye (xs:=ds) (k:=k) om] at c0_1
   obtain ⟨x1,hx1⟩:=Zl (xs:=ds) (j:=k) om
   rw [Zu hx1] at c0_1
   exact Z5 (r2 [] [.b false] ⟨rfl,rfl⟩ (lb (by first|rfl|omega|grind [VH,Xf])))
  refine ak (az (Z0 1 (.n 11 (.i k) .r) (ia (((k+1:Nat):Int)) (((k:Int))+(1)) (ir 1 [(0,Z3 ds),(3,.i (k+1:Nat))] (ie ?_)))))
  obtain ⟨x1,hx1⟩:=Zl (xs:=ds) (j:=k) om
  have hdr:=Zu hx1
  exact ⟨_,_,_,ob,⟨k+1,ob,(by rw [hdr] at c0_1;clear hdr ;grind [VH]),rfl,rfl,rfl⟩,(wk [] (fr (fc (x:=.i (k+1:Nat)) li fl)))⟩
 refine ax 0 (ar (ir 1 [(2,.b true)] (ie ?_)))
 try rw [Ye (xs:=ds) (k:=k) om] at c0_1
 exact Z5 (r2 [] [.b true] ⟨rfl,rfl⟩ (lb (by first|rfl|omega|grind [VH,Xf])))
theorem Zyk (n:Normal) (hz:n.routines.length<=4194304:=by exact ob):Zd Tryz.prog 102 [ZJ n] [] (fun r h=>r=.agg [Z3 n.decls,.sl (X3 (n.routines.map Wk)) none]/\h=[]):=by
 refine enter Tryz.func102 kr (n:=35) kr kr (ar (iA (ZU n) ?_))
 intro b1
 refine iA [nl,nl] ?_
 intro b2
 refine ie (ar (iR 2 [(1,.p b1 0),(2,.p b2 0),(6,Z3 n.decls)] [1] [b1] (iL (X3 []) 0 5 ?_)))
 intro v1
 refine Z0 1 (.n 8 (.agg [Z3 n.decls,.sl (X3 []) (some v1)]) .r) (iA [nl,nl] ?_)
 intro b3
 refine iS 0 b3 0 [Z3 n.decls,.sl (X3 []) (some v1)] [nl,nl] [Z3 n.decls,.sl (X3 []) (some v1)] (ie (aq (ar (Z0 1 (.n 4 (.i 0) .r) (ie (ab 0 (al (fun m F h=>∃(k:Nat) (v:Value),(k<=n.routines.length)/\F=[(1,.p b1 0),(2,.p b2 0),(3,.p b3 0),(4,.i k)]/\h=[.obj b3 [Z3 n.decls,.sl (X3 ((n.routines.take k).map Wk)) (some v)],.obj b2 [nl,nl],.obj b1 (ZU n),.tail v 5]/\m=n.routines.length-k) _ _ _ ⟨0,v1,ob,rfl,rfl,rfl⟩ (wk [0,1,1,0] (fw (fr (fc (x:=.i 0) li fl)))) ?_)))))))
 rintro m F h ⟨k,v,c0_0,rfl,rfl,rfl⟩
 refine aq (ar (Za 3 (.n 9 (.i k) (.n 11 (Yh n.routines) .r)) [2] [b1] (iw (VY n.routines) (Z0 1 (.n 13 (.b (decide ((k:Int)<(n.routines.length:Int)))) .r) (ie (ac (decide ((k:Int)<(n.routines.length:Int))) dq (fun hc1=>?_) (fun hc1=>?_)))))))
 ·refine ak (aq (ab 1 (aE 19 (ZI (fuel:=14) 19 [0,1,2,3,4] (.n 17 (.sl (X3 ((n.routines.take k).map Wk)) (some v)) (.n 19 (Yh n.routines) (.n 20 (.i k) .r))) [0,2] [b3,b1] ?_))))
  obtain ⟨x1,hx1⟩:=Zl (xs:=n.routines) (j:=k) om
  refine dx 5 (Zj (es:=WD n.routines) (hv:=none) (j:=(k:Int)) (sz:=5) (y:=Xc x1) kr om (VX hx1) rfl) (ZI (fuel:=8) 13 [6,7,8,9,10] (.n 23 (Z1 x1.params) (.n 25 (Yh n.routines) (.n 26 (.i k) .r))) [2] [b1] (dx 11 (Zj (es:=WD n.routines) (hv:=none) (j:=(k:Int)) (sz:=5) (y:=Xc x1) kr om (VX hx1) rfl) (Zi (fuel:=4) 7 [12,13,14] (.n 30 (.agg [Z1 x1.params,.i x1.result,.i 0,.i 0,.sl [] none]) .r) (Zm 15 (dL 15 [0] [b3] (X3 [Sg.mk x1.params x1.result]) 1 5 ?_)))))
  intro v2
  refine Zi (fuel:=3) 3 [] (.n 31 (.sl (X3 [Sg.mk x1.params x1.result]) none) (.p .r)) (Zm 16 (dp 16 4 [] [] (X3 ((n.routines.take (k+1)).map Wk)) (X3 ((n.routines.take k).map Wk)) (X3 [Sg.mk x1.params x1.result]) v none 5 (Ze3 _) (Ze3 _) (Zpe _) (by simp<;>omega) (by rw [V3 hx1];simp [X3,Wk]) ?_))
  intro v3
  refine Zi (fuel:=1) 2 [17] (.n 33 (.p b3 1) .r) (Zm 18 (dS 18 2 [] [] b3 1 [.sl (X3 ((n.routines.take (k+1)).map Wk)) (some v3)] [Z3 n.decls,.sl (X3 ((n.routines.take k).map Wk)) (some v)] [Z3 n.decls,.sl (X3 ((n.routines.take (k+1)).map Wk)) (some v3)] (de (az (Z0 1 (.n 14 (.i k) .r) (ia (((k+1:Nat):Int)) (((k:Int))+(1)) (ir 1 [(1,.p b1 0),(2,.p b2 0),(3,.p b3 0),(4,.i (k+1:Nat))] (ie ?_))))))))
  have hdr:=Zu hx1
  exact ⟨_,_,_,ob,⟨k+1,v3,ob,rfl,rfl,rfl⟩,(wk [0,2,2,0] (fw (fr (fc (x:=.i (k+1:Nat)) li fl))))⟩
 refine ax 0 (ar (Za 1 (.n 34 (.agg [Z3 n.decls,.sl (X3 ((n.routines.take k).map Wk)) (some v)]) .r) [0] [b3] (iS 1 b2 0 [Z3 n.decls,.sl (X3 ((n.routines.take k).map Wk)) (some v)] [nl,nl] [Z3 n.decls,.sl (X3 ((n.routines.take k).map Wk)) (some v)] (ie ?_))))
 exact Z5 (r3 [] [.agg [Z3 n.decls,.sl (X3 ((n.routines.take k).map Wk)) (some v)]] [0] [(b2,b2)] ⟨rfl,rfl⟩ (Zg.agg (.cons (lr _) (.cons (Zg.sl _ (Y1 X3 (by rw [show k=n.routines.length by omega,Qh]))) .nil))))
theorem Zyu (ds:List Decl) (fs:List Sg) (hz:DSz ds:=by exact ob) (hf:∀f∈fs,f.params.length<=4194304):Zd Tryz.prog 101 [.agg [Z3 ds,.sl (X3 fs) none]] [] (fun r h=>r=.b (UW ds fs)/\h=[]):=by
 have hzl:=hz.len
 refine enter Tryz.func101 kr (n:=64) kr kr (ar (iA [Z3 ds,.sl (X3 fs) none] ?_))
 intro b1
 refine ir 1 [(1,.p b1 0)] (ie (aq (ar (Za 2 (.n 6 (Z3 ds) .r) [0] [b1] (ic [] (Zyv ds) ?_)))))
 rintro _ _ ⟨rfl,rfl⟩
 refine Xl [(1,.p b1 0),(15,.b ((!Xf ds)||(!(decide (1<=(fs.length:Int)/\(fs.length:Int)<=4)))))] [.obj b1 [Z3 ds,.sl (X3 fs) none]] ?_ ?_
 ·refine ir 2 [(1,.p b1 0),(9,.b (!Xf ds))] (ib (b:=(!Xf ds)) 9 (fun hb1=>?_) (fun hb1=>?_))
  ·have hp1:¬(Xf ds=true):=((ZP Iff.rfl)).1 hb1
   refine ir 6 [(1,.p b1 0),(15,.b true)] (ie ?_)
   exact wk [0] (fr (fc (x:=.b true) (lb (by simp only [hb1];rfl)) fl))
  have hp2:¬(¬(Xf ds=true)):=Zv (ZP Iff.rfl) hb1
  refine Za 2 (.n 11 (.sl (X3 fs) none) (.k (.k .z))) [0] [b1] (iw (Ze4 fs) (ic [] (Un (fs.length:Int) 1 4) ?_))
  rintro _ _ ⟨rfl,rfl⟩
  refine Z0 2 (.n 15 (.b (!(decide (1<=(fs.length:Int)/\(fs.length:Int)<=4)))) .r) (ie ?_)
  exact wk [0] (fr (fc (x:=.b (!(decide (1<=(fs.length:Int)/\(fs.length:Int)<=4)))) (lb (by simp only [hb1];rfl)) fl))
 refine ac ((!Xf ds)||(!(decide (1<=(fs.length:Int)/\(fs.length:Int)<=4)))) (p:=(¬(Xf ds=true))∨(¬(1<=(fs.length:Int)/\(fs.length:Int)<=4))) (Zz (ZP Iff.rfl) (ZP dq)) (fun hc1=>?_) (fun hc1=>?_)
 ·refine ar (ir 1 [(2,.b false)] (ie ?_))
  exact Z5 (r2 [] [.b false] ⟨rfl,rfl⟩ (lb (by first|rfl|omega|grind [UW])))
 refine ak (aq (ar (ir 1 [(1,.p b1 0),(3,.i 0)] (ie (ab 0 (al (fun m F h=>∃(k:Nat),(k<=fs.length)/\(Q8 ds.length (fs.drop k)=Q8 ds.length fs)/\F=[(1,.p b1 0),(3,.i k)]/\h=[.obj b1 [Z3 ds,.sl (X3 fs) none]]/\m=fs.length-k) _ _ _ ⟨0,ob,ob,rfl,rfl,rfl⟩ (wk [0] (fr (fc (x:=.i 0) li fl))) ?_))))))
 rintro m F h ⟨k,c0_0,c0_1,rfl,rfl,rfl⟩
 refine aq (ar (Za 3 (.n 16 (.i k) (.n 18 (.sl (X3 fs) none) .r)) [0] [b1] (iw (Ze4 fs) (Z0 1 (.n 20 (.b (decide ((k:Int)<(fs.length:Int)))) .r) (ie (ac (decide ((k:Int)<(fs.length:Int))) dq (fun hc2=>?_) (fun hc2=>?_)))))))
 ·refine ak (aq (ab 1 (ar (Za 3 (.n 24 (.sl (X3 fs) none) (.n 25 (.i k) .r)) [0] [b1] ?_))))
  obtain ⟨x1,hx1⟩:=Zl (xs:=fs) (j:=k) om
  refine Zf (Zj (es:=X3 fs) (hv:=none) (j:=(k:Int)) (sz:=5) (y:=.agg [Z1 x1.params,.i x1.result,.i 0,.i 0,.sl [] none]) kr om (Z7z hx1) rfl) (Z0 1 (.n 27 (.agg [Z1 x1.params,.i x1.result,.i 0,.i 0,.sl [] none]) .r) (iA [nl,.i 0,.i 0,.i 0,nl] ?_))
  intro b2
  refine iS 0 b2 0 [Z1 x1.params,.i x1.result,.i 0,.i 0,.sl [] none] [nl,.i 0,.i 0,.i 0,nl] [Z1 x1.params,.i x1.result,.i 0,.i 0,.sl [] none] (ie (ar (Za 2 (.n 29 (Z1 x1.params) .r) [0] [b2] (iw (ZD x1.params) (YV 12 [(1,.p b1 0),(3,.i k),(4,.p b2 0),(39,.b ((decide ((x1.params.length:Int)>3))||(!YK ds.length x1.params)))] [.obj b2 [Z1 x1.params,.i x1.result,.i 0,.i 0,.sl [] none],.obj b1 [Z3 ds,.sl (X3 fs) none]] ?_ (fun hj1=>?_))))))
  ·refine Xl [(1,.p b1 0),(3,.i k),(48,.b (((decide ((x1.params.length:Int)>3))||(!YK ds.length x1.params))||(!(decide (0<=x1.result/\x1.result<=(ds.length:Int))))))] [.obj b2 [Z1 x1.params,.i x1.result,.i 0,.i 0,.sl [] none],.obj b1 [Z3 ds,.sl (X3 fs) none]] ?_ ?_
   ·refine ir 1 [(1,.p b1 0),(3,.i k),(4,.p b2 0),(40,.b ((decide ((x1.params.length:Int)>3))||(!YK ds.length x1.params)))] (ib (b:=((decide ((x1.params.length:Int)>3))||(!YK ds.length x1.params))) 40 (fun hb2=>?_) (fun hb2=>?_))
    ·have hp3:((x1.params.length:Int)>3)∨(¬(YK ds.length x1.params=true)):=((Zz dq (ZP Iff.rfl))).1 hb2
     refine Z0 8 (.n 48 (.b true) (.d (.k (.k .z)))) (ie ?_)
     exact wk [0,0] (fw (fc (x:=.b true) (lb (by simp only [hb2];rfl)) fl))
    have hp4:¬(((x1.params.length:Int)>3)∨(¬(YK ds.length x1.params=true))):=Zv (Zz dq (ZP Iff.rfl)) hb2
    refine Za 4 (.n 42 (.i x1.result) (.n 44 (Z3 ds) (.k (.k (.k .z))))) [0,1] [b2,b1] (iw (Wv ds) (ic [] (Un x1.result 0 (ds.length:Int)) ?_))
    rintro _ _ ⟨rfl,rfl⟩
    refine Z0 2 (.n 48 (.b (!(decide (0<=x1.result/\x1.result<=(ds.length:Int))))) .r) (ie ?_)
    exact wk [0,0] (fw (fc (x:=.b (!(decide (0<=x1.result/\x1.result<=(ds.length:Int))))) (lb (by simp only [hb2];rfl)) fl))
   refine ac (((decide ((x1.params.length:Int)>3))||(!YK ds.length x1.params))||(!(decide (0<=x1.result/\x1.result<=(ds.length:Int))))) (p:=(((x1.params.length:Int)>3)∨(¬(YK ds.length x1.params=true)))∨(¬(0<=x1.result/\x1.result<=(ds.length:Int)))) (Zz (Zz dq (ZP Iff.rfl)) (ZP dq)) (fun hc3=>?_) (fun hc3=>?_)
   ·refine ar (ir 1 [(2,.b false)] (ie ?_))
    rw [Zu hx1] at c0_1
    exact Z5 (r2 [] [.b false] ⟨rfl,rfl⟩ (lb (by clear hx1;first|rfl|omega|grind [Q8,Q7,UW])))
   refine ak (az (ir 1 [(1,.p b1 0),(21,.i k)] (ia (((k+1:Nat):Int)) (((k:Int))+(1)) (Z0 1 (.n 3 (.i (k+1:Nat)) .r) (ie ?_)))))
   have hdr:=Zu hx1
   exact ⟨_,_,_,ob,⟨k+1,ob,(by rw [hdr] at c0_1;clear hdr hx1;grind [Q8,Q7]),rfl,rfl,rfl⟩,(wk [1] (fr (fc (x:=.i (k+1:Nat)) li fl)))⟩
  refine ir 2 [(1,.p b1 0),(3,.i k),(4,.p b2 0),(32,.b (decide ((x1.params.length:Int)>3)))] (ib (b:=(decide ((x1.params.length:Int)>3))) 32 (fun hb3=>?_) (fun hb3=>?_))
  ·have hp5:(x1.params.length:Int)>3:=(dq).1 hb3
   refine Z0 7 (.n 39 (.b true) (.d (.k (.k (.k .z))))) ?_
   exact ZL (wk [0,0] (fw (fr (fc (x:=.b true) (lb (by simp only [hb3];rfl)) fl)))) hj1
  have hp6:¬((x1.params.length:Int)>3):=Zv dq hb3
  refine Za 4 (.n 34 (Z3 ds) (.n 36 (Z1 x1.params) (.w .z))) [1,0] [b1,b2] (ic [] (Zjv ds x1.params) ?_)
  rintro _ _ ⟨rfl,rfl⟩
  refine Z0 2 (.n 39 (.b (!YK ds.length x1.params)) .r) ?_
  exact ZL (wk [0,0] (fw (fr (fc (x:=.b (!YK ds.length x1.params)) (lb (by simp only [hb3];rfl)) fl)))) hj1
 refine ax 0 (ar (Za 2 (.n 50 (.sl (X3 fs) none) .r) [0] [b1] ?_))
 obtain ⟨x2,hx2⟩:=Zl (xs:=fs) (j:=0) om
 have hfo:=Zq4 hx2
 refine Zf (Zj (es:=X3 fs) (hv:=none) (j:=0) (sz:=5) (y:=.agg [Z1 x2.params,.i x2.result,.i 0,.i 0,.sl [] none]) kr om (Z7z hx2) rfl) (Z0 2 (.n 53 (Z1 x2.params) .r) (iw (ZD x2.params) (YV 15 [(63,.b (((x2.params.length:Int)==0)&&(x2.result==0)))] [.obj b1 [Z3 ds,.sl (X3 fs) none]] ?_ (fun hj2=>?_))))
 ·refine ir 1 [(2,.b (((x2.params.length:Int)==0)&&(x2.result==0)))] (ie ?_)
  try rw [Ye (xs:=fs) (k:=k) om] at c0_1
  exact Z5 (r2 [] [.b (((x2.params.length:Int)==0)&&(x2.result==0))] ⟨rfl,rfl⟩ (lb (by clear hx2;first|rfl|omega|grind [Q8,Q7,UW])))
 refine ir 2 [(1,.p b1 0),(56,.b ((x2.params.length:Int)==0))] (ib (b:=((x2.params.length:Int)==0)) 56 (fun hb4=>?_) (fun hb4=>?_))
 ·have hp7:(x2.params.length:Int)=0:=(Ze).1 hb4
  refine Za 2 (.n 58 (.sl (X3 fs) none) (.k .z)) [0] [b1] (Zf (Zj (es:=X3 fs) (hv:=none) (j:=0) (sz:=5) (y:=.agg [Z1 x2.params,.i x2.result,.i 0,.i 0,.sl [] none]) kr om (Z7z hx2) rfl) (ir 4 [(63,.b (x2.result==0))] ?_))
  exact ZL (wk [0] (fc (x:=.b (x2.result==0)) (lb (by simp only [hb4];rfl)) fl)) hj2
 have hp8:¬((x2.params.length:Int)=0):=Zv Ze hb4
 refine ir 7 [(63,.b false)] ?_
 exact ZL (wk [0] (fc (x:=.b false) (lb (by simp only [hb4];rfl)) fl)) hj2
theorem Zyr (ps:List Int) (ls:List Int) (hl_ps:ps.length<=4294967296:=by exact ob) (hl_ls:ls.length<=4294967296:=by exact ob):Zd Tryz.prog 103 [Z1 ps,Z1 ls] [] (fun r h=>r=.b (TH ps ls)/\h=[]):=by
 refine enter Tryz.func103 kr (n:=47) kr kr (ar (ir 1 [(0,Z1 ps),(1,Z1 ls)] (ie (aq (ar (Z0 1 (.n 5 (.i 0) .r) (ie (ab 0 (al (fun m F h=>∃(k:Nat),(k<=ls.length)/\(UR ps (ls.drop k) (if k=0 then none else ls[k-1]?)=TH ps ls)/\F=[(0,Z1 ps),(1,Z1 ls),(5,.i k)]/\h=[]/\m=ls.length-k) _ _ _ ⟨0,ob,ob,rfl,rfl,rfl⟩ (wk [] (fw (fc (x:=.i 0) li fl))) ?_)))))))))
 rintro m F h ⟨k,c0_0,c0_1,rfl,rfl,rfl⟩
 refine aq (ar (Z0 2 (.n 6 (.i k) (.n 7 (Z1 ls) .r)) (iw (ZD ls) (Z0 1 (.n 9 (.b (decide ((k:Int)<(ls.length:Int)))) .r) (ie (ac (decide ((k:Int)<(ls.length:Int))) dq (fun hc1=>?_) (fun hc1=>?_)))))))
 ·refine ak (aq (ab 1 (aD 35 (Zi (fuel:=33) 35 [0,1] (.n 12 (Z1 ls) (.n 13 (.i k) .r)) ?_))))
  obtain ⟨x1,hx1⟩:=Zl (xs:=ls) (j:=k) om
  refine dx 2 (Zj (es:=Z6 ls) (hv:=none) (j:=(k:Int)) (sz:=1) (y:=.i x1) kr om (ZH hx1) rfl) (Zi (fuel:=30) 32 [3,4] (.n 15 (.i x1) (.n 16 (Z1 ps) .r)) (dw 5 (ZD ps) (da 6 (((ps.length:Int)-1)) (((ps.length:Int))-(1)) (Zm 7 (dc 7 [] [] [] (Un x1 0 ((ps.length:Int)-1)) ?_)))))
  rintro _ _ ⟨rfl,rfl⟩
  refine Zi (fuel:=25) 27 [8,9] (.n 21 (.b (!(decide (0<=x1/\x1<=((ps.length:Int)-1))))) .r) (db (b:=(!(decide (0<=x1/\x1<=((ps.length:Int)-1))))) 21 (fun hb1=>?_) (fun hb1=>?_))
  ·have hp1:¬(0<=x1/\x1<=((ps.length:Int)-1)):=((ZP dq)).1 hb1
   refine Zi (fuel:=0) 25 [10,11,12,13,14,15,16,17,18,19,20,21,22,23,24,25,26,27,28,29,30,31,32,33,34] (.n 46 (.b true) (.k (.d .r))) (de (X8 (ar (ir 1 [(4,.b false)] (ie ?_)))))
   rw [Zu hx1] at c0_1
   exact Z5 (r2 [] [.b false] ⟨rfl,rfl⟩ (lb (by have hq:=Z5a (ps:=ps) (v:=x1) (r:=ls.drop (k+1)) (prev:=if k=0 then none else ls[k-1]?);rw [<-c0_1,hq];rintro ⟨q1,q2,q3⟩;first|omega|(rw [hps] at q2;exact q2 (Y1 some om))|(have:=q3 _ (by rw [Z4 om,hls]);omega))))
  have hp2:¬(¬(0<=x1/\x1<=((ps.length:Int)-1))):=Zv (ZP dq) hb1
  refine Zi (fuel:=22) 25 [10,11,12] (.n 22 (Z1 ps) (.n 23 (Z1 ls) (.n 24 (.i k) (.k (.d .r))))) (dx 13 (Zj (es:=Z6 ls) (hv:=none) (j:=(k:Int)) (sz:=1) (y:=.i x1) kr om (ZH hx1) rfl) (Zi (fuel:=20) 21 [14] (.n 26 (.i x1) .r) ?_))
  obtain ⟨x2,hx2⟩:=Zl (xs:=ps) (j:=x1.toNat) om
  have hps:=hx2
  refine dx 15 (Zj (es:=Z6 ps) (hv:=none) (j:=x1) (sz:=1) (y:=.i x2) kr om (ZH hx2) rfl) (Zi (fuel:=15) 19 [16,17,18,19] (.n 31 (.b (x2==0)) .r) (db (b:=(x2==0)) 31 (fun hb2=>?_) (fun hb2=>?_)))
  ·have hp3:x2=0:=(Ze).1 hb2
   refine Zi (fuel:=0) 15 [20,21,22,23,24,25,26,27,28,29,30,31,32,33,34] (.n 46 (.b true) (.k (.d .r))) (de (X8 (ar (ir 1 [(4,.b false)] (ie ?_)))))
   rw [Zu hx1] at c0_1
   exact Z5 (r2 [] [.b false] ⟨rfl,rfl⟩ (lb (by have hq:=Z5a (ps:=ps) (v:=x1) (r:=ls.drop (k+1)) (prev:=if k=0 then none else ls[k-1]?);rw [<-c0_1,hq];rintro ⟨q1,q2,q3⟩;first|omega|(rw [hps] at q2;exact q2 (Y1 some om))|(have:=q3 _ (by rw [Z4 om,hls]);omega))))
  have hp4:¬(x2=0):=Zv Ze hb2
  refine Zi (fuel:=12) 15 [20,21,22] (.n 34 (.b (decide ((k:Int)>0))) (.k (.d .r))) (db (b:=(decide ((k:Int)>0))) 34 (fun hb3=>?_) (fun hb3=>?_))
  ·have hp5:(k:Int)>0:=(dq).1 hb3
   refine Zi (fuel:=10) 12 [23,24] (.n 35 (Z1 ls) (.n 36 (.i k) (.k (.d .r)))) (dx 25 (Zj (es:=Z6 ls) (hv:=none) (j:=(k:Int)) (sz:=1) (y:=.i x1) kr om (ZH hx1) rfl) (Zi (fuel:=6) 9 [26,27,28] (.n 38 (.i x1) (.n 39 (Z1 ls) (.n 40 (.i k) .r))) (da 29 (((k-1:Nat):Int)) (((k:Int))-(1)) ?_)))
   obtain ⟨x3,hx3⟩:=Zl (xs:=ls) (j:=k-1) om
   have hls:=hx3
   refine dx 30 (Zj (es:=Z6 ls) (hv:=none) (j:=((k-1:Nat):Int)) (sz:=1) (y:=.i x3) kr om (ZH hx3) rfl) (Zi (fuel:=0) 4 [31,32,33,34] (.n 46 (.b (decide (x1<=x3))) .r) (de (ac (decide (x1<=x3)) dq (fun hc2=>?_) (fun hc2=>?_))))
   ·refine ar (ir 1 [(4,.b false)] (ie ?_))
    rw [Zu hx1] at c0_1
    exact Z5 (r2 [] [.b false] ⟨rfl,rfl⟩ (lb (by have hq:=Z5a (ps:=ps) (v:=x1) (r:=ls.drop (k+1)) (prev:=if k=0 then none else ls[k-1]?);rw [<-c0_1,hq];rintro ⟨q1,q2,q3⟩;first|omega|(rw [hps] at q2;exact q2 (Y1 some om))|(have:=q3 _ (by rw [Z4 om,hls]);omega))))
   refine ak (az (Z0 1 (.n 10 (.i k) .r) (ia (((k+1:Nat):Int)) (((k:Int))+(1)) (ir 1 [(0,Z1 ps),(1,Z1 ls),(5,.i (k+1:Nat))] (ie ?_)))))
   have hl1:ls[k+1-1]? = some x1:=hx1
   have hlc:(0<=x1/\x1<=(ps.length:Int)-1)/\ps[x1.toNat]?≠some 0/\(∀p,(if k=0 then none else ls[k-1]?)=some p->p<x1):=⟨by omega,by rw [hps];intro q;cases q;omega,fun p hp=>by first|(rw [Z4 om,hls] at hp;cases hp;omega)|(rw [Z8 om] at hp;cases hp)⟩
   have hdr:=Zu hx1
   exact ⟨_,_,_,ob,⟨k+1,ob,(by have hq:=Z98 (r:=ls.drop (k+1)) hlc;rw [hdr,hq] at c0_1;rw [Z4 om,hl1];exact c0_1),rfl,rfl,rfl⟩,(wk [] (fw (fc (x:=.i (k+1:Nat)) li fl)))⟩
  have hp6:¬((k:Int)>0):=Zv dq hb3
  refine Zi (fuel:=0) 12 [23,24,25,26,27,28,29,30,31,32,33,34] (.n 46 (.b false) (.k (.d .r))) (de (YA (ak (az (Z0 1 (.n 10 (.i k) .r) (ia (((k+1:Nat):Int)) (((k:Int))+(1)) (ir 1 [(0,Z1 ps),(1,Z1 ls),(5,.i (k+1:Nat))] (ie ?_))))))))
  have hl1:ls[k+1-1]? = some x1:=hx1
  have hlc:(0<=x1/\x1<=(ps.length:Int)-1)/\ps[x1.toNat]?≠some 0/\(∀p,(if k=0 then none else ls[k-1]?)=some p->p<x1):=⟨by omega,by rw [hps];intro q;cases q;omega,fun p hp=>by first|(rw [Z4 om,hls] at hp;cases hp;omega)|(rw [Z8 om] at hp;cases hp)⟩
  have hdr:=Zu hx1
  exact ⟨_,_,_,ob,⟨k+1,ob,(by have hq:=Z98 (r:=ls.drop (k+1)) hlc;rw [hdr,hq] at c0_1;rw [Z4 om,hl1];exact c0_1),rfl,rfl,rfl⟩,(wk [] (fw (fc (x:=.i (k+1:Nat)) li fl)))⟩
 refine ax 0 (ar (ir 1 [(4,.b true)] (ie ?_)))
 try rw [Ye (xs:=ls) (k:=k) om] at c0_1
 exact Z5 (r2 [] [.b true] ⟨rfl,rfl⟩ (lb (by first|rfl|omega|grind [UR])))
theorem Zys (n:Normal) (hz:DSz n.decls:=by exact ob) (hr:∀r∈n.routines,r.params.length<=4194304/\r.lent.length<=4194304):Zd Tryz.prog 68 [ZJ n] [] (fun r h=>r=.b (XF n)/\h=[]):=by
 have hzl:=hz.len
 refine enter Tryz.func68 kr (n:=35) kr kr (ar (iA (ZU n) ?_))
 intro b1
 refine ir 1 [(1,.p b1 0)] (ie (aq (ar (Za 2 (.n 5 (Yh n.routines) .r) [0] [b1] (iw (VY n.routines) (Xl [(1,.p b1 0),(13,.b ((decide ((n.routines.length:Int)>4))||(!UW n.decls (n.routines.map Wk))))] [.obj b1 (ZU n)] ?_ ?_))))))
 ·refine ir 2 [(1,.p b1 0),(8,.b (decide ((n.routines.length:Int)>4)))] (ib (b:=(decide ((n.routines.length:Int)>4))) 8 (fun hb1=>?_) (fun hb1=>?_))
  ·have hp1:(n.routines.length:Int)>4:=(dq).1 hb1
   refine ir 5 [(1,.p b1 0),(13,.b true)] (ie ?_)
   exact wk [0] (fr (fc (x:=.b true) (lb (by simp only [hb1];rfl)) fl))
  have hp2:¬((n.routines.length:Int)>4):=Zv dq hb1
  refine Za 1 (.n 9 (ZJ n) (.k (.k .z))) [0] [b1] (ic [] (Zyk n) ?_)
  rintro _ _ ⟨rfl,rfl⟩
  refine ic [] (Zyu n.decls (n.routines.map Wk) (hf:=(by intro f hf;obtain ⟨r,h1,rfl⟩:=YJ.1 hf;exact (hr r h1).1))) ?_
  rintro _ _ ⟨rfl,rfl⟩
  refine Z0 2 (.n 13 (.b (!UW n.decls (n.routines.map Wk))) .r) (ie ?_)
  exact wk [0] (fr (fc (x:=.b (!UW n.decls (n.routines.map Wk))) (lb (by simp only [hb1];rfl)) fl))
 refine ac ((decide ((n.routines.length:Int)>4))||(!UW n.decls (n.routines.map Wk))) (p:=((n.routines.length:Int)>4)∨(¬(UW n.decls (n.routines.map Wk)=true))) (Zz dq (ZP Iff.rfl)) (fun hc1=>?_) (fun hc1=>?_)
 ·refine ar (ir 1 [(2,.b false)] (ie ?_))
  exact Z5 (r2 [] [.b false] ⟨rfl,rfl⟩ (lb (by first|rfl|omega|grind [XF])))
 refine ak (aq (ar (ir 1 [(1,.p b1 0),(3,.i 0)] (ie (ab 0 (al (fun m F h=>∃(k:Nat),(k<=n.routines.length)/\(Q1 (n.routines.drop k)=Q1 n.routines)/\F=[(1,.p b1 0),(3,.i k)]/\h=[.obj b1 (ZU n)]/\m=n.routines.length-k) _ _ _ ⟨0,ob,ob,rfl,rfl,rfl⟩ (wk [0] (fr (fc (x:=.i 0) li fl))) ?_))))))
 rintro m F h ⟨k,c0_0,c0_1,rfl,rfl,rfl⟩
 refine aq (ar (Za 3 (.n 14 (.i k) (.n 16 (Yh n.routines) .r)) [0] [b1] (iw (VY n.routines) (Z0 1 (.n 18 (.b (decide ((k:Int)<(n.routines.length:Int)))) .r) (ie (ac (decide ((k:Int)<(n.routines.length:Int))) dq (fun hc2=>?_) (fun hc2=>?_)))))))
 ·refine ak (aq (ab 1 (aD 14 (ZI (fuel:=11) 14 [0,1,2] (.n 22 (Yh n.routines) (.n 23 (.i k) .r)) [0] [b1] ?_))))
  obtain ⟨x1,hx1⟩:=Zl (xs:=n.routines) (j:=k) om
  refine dx 3 (Zj (es:=WD n.routines) (hv:=none) (j:=(k:Int)) (sz:=5) (y:=Xc x1) kr om (VX hx1) rfl) (ZI (fuel:=5) 10 [4,5,6,7,8] (.n 26 (Z1 x1.params) (.n 28 (Yh n.routines) (.n 29 (.i k) .r))) [0] [b1] (dx 9 (Zj (es:=WD n.routines) (hv:=none) (j:=(k:Int)) (sz:=5) (y:=Xc x1) kr om (VX hx1) rfl) (Zi (fuel:=2) 4 [10,11] (.n 32 (Z1 x1.lent) .r) (Zm 12 (dc 12 [] [] [] (Zyr x1.params x1.lent (hl_ps:=(by have:=hr _ (ZV hx1);omega)) (hl_ls:=(by have:=hr _ (ZV hx1);omega))) ?_)))))
  rintro _ _ ⟨rfl,rfl⟩
  refine Zi (fuel:=0) 1 [13] (.n 34 (.b (!TH x1.params x1.lent)) .r) (de (ac (!TH x1.params x1.lent) (p:=¬(TH x1.params x1.lent=true)) (ZP Iff.rfl) (fun hc3=>?_) (fun hc3=>?_)))
  ·refine ar (ir 1 [(2,.b false)] (ie ?_))
   rw [Zu hx1] at c0_1
   exact Z5 (r2 [] [.b false] ⟨rfl,rfl⟩ (lb (by clear hx1;first|rfl|omega|grind [Q1,XF])))
  refine ak (az (Z0 1 (.n 19 (.i k) .r) (ia (((k+1:Nat):Int)) (((k:Int))+(1)) (ir 1 [(1,.p b1 0),(3,.i (k+1:Nat))] (ie ?_)))))
  have hdr:=Zu hx1
  exact ⟨_,_,_,ob,⟨k+1,ob,(by rw [hdr] at c0_1;clear hdr hx1;grind [Q1]),rfl,rfl,rfl⟩,(wk [0] (fr (fc (x:=.i (k+1:Nat)) li fl)))⟩
 refine ax 0 (ar (ir 1 [(2,.b true)] (ie ?_)))
 try rw [Ye (xs:=n.routines) (k:=k) om] at c0_1
 exact Z5 (r2 [] [.b true] ⟨rfl,rfl⟩ (lb (by first|rfl|omega|grind [Q1,XF])))
theorem Q9 (op:Int) :Zd Tryz.prog 78 [.i op] [] (fun r h=>r=.b (Yl op)/\h=[]):=by
 refine enter Tryz.func78 kr (n:=5) kr kr (ar (ir 1 [(0,.i op)] (ie (ar (ir 1 [(3,.i op)] (ic [] (Un op 0 11) ?_))))))
 rintro _ _ ⟨rfl,rfl⟩
 refine ir 1 [(2,.b (decide (0<=op/\op<=11)))] (ie ?_)
 exact Z5 (r2 [] [.b (decide (0<=op/\op<=11))] ⟨rfl,rfl⟩ (lb (by first|rfl|omega|grind [Yl])))
theorem Zye (op:Int) :Zd Tryz.prog 134 [.i op] [] (fun r h=>r=.b (XI op)/\h=[]):=by
 refine enter Tryz.func134 kr (n:=21) kr kr (ar (ir 1 [(0,.i op)] (ie (ar (YV 6 [(0,.i op),(8,.b ((op==0)||(op==6)))] [] ?_ (fun hj1=>?_))))))
 ·refine YV 10 [(0,.i op),(12,.b (((op==0)||(op==6))||(op==8)))] [] ?_ (fun hj2=>?_)
  ·refine YV 14 [(0,.i op),(16,.b ((((op==0)||(op==6))||(op==8))||(op==9)))] [] ?_ (fun hj3=>?_)
   ·refine YV 18 [(20,.b (((((op==0)||(op==6))||(op==8))||(op==9))||(op==10)))] [] ?_ (fun hj4=>?_)
    ·refine ir 1 [(2,.b (((((op==0)||(op==6))||(op==8))||(op==9))||(op==10)))] (ie ?_)
     exact Z5 (r2 [] [.b (((((op==0)||(op==6))||(op==8))||(op==9))||(op==10))] ⟨rfl,rfl⟩ (lb (by rw [XI];simp only [Bool.or_assoc])))
    refine ir 1 [(0,.i op),(17,.b ((((op==0)||(op==6))||(op==8))||(op==9)))] (ib (b:=((((op==0)||(op==6))||(op==8))||(op==9))) 17 (fun hb1=>?_) (fun hb1=>?_))
    ·have hp1:(((op=0)∨(op=6))∨(op=8))∨(op=9):=((Zz (Zz (Zz Ze Ze) Ze) Ze)).1 hb1
     refine ir 3 [(20,.b true)] ?_
     exact ZL (wk [] (fc (x:=.b true) (lb (by simp only [hb1];rfl)) fl)) hj4
    have hp2:¬((((op=0)∨(op=6))∨(op=8))∨(op=9)):=Zv (Zz (Zz (Zz Ze Ze) Ze) Ze) hb1
    refine ir 3 [(20,.b (op==10))] ?_
    exact ZL (wk [] (fc (x:=.b (op==10)) (lb (by simp only [hb1];rfl)) fl)) hj4
   refine ir 1 [(0,.i op),(13,.b (((op==0)||(op==6))||(op==8)))] (ib (b:=(((op==0)||(op==6))||(op==8))) 13 (fun hb2=>?_) (fun hb2=>?_))
   ·have hp3:((op=0)∨(op=6))∨(op=8):=((Zz (Zz Ze Ze) Ze)).1 hb2
    refine ir 3 [(0,.i op),(16,.b true)] ?_
    exact ZL (wk [] (fr (fc (x:=.b true) (lb (by simp only [hb2];rfl)) fl))) hj3
   have hp4:¬(((op=0)∨(op=6))∨(op=8)):=Zv (Zz (Zz Ze Ze) Ze) hb2
   refine ir 3 [(0,.i op),(16,.b (op==9))] ?_
   exact ZL (wk [] (fr (fc (x:=.b (op==9)) (lb (by simp only [hb2];rfl)) fl))) hj3
  refine ir 1 [(0,.i op),(9,.b ((op==0)||(op==6)))] (ib (b:=((op==0)||(op==6))) 9 (fun hb3=>?_) (fun hb3=>?_))
  ·have hp5:(op=0)∨(op=6):=((Zz Ze Ze)).1 hb3
   refine ir 3 [(0,.i op),(12,.b true)] ?_
   exact ZL (wk [] (fr (fc (x:=.b true) (lb (by simp only [hb3];rfl)) fl))) hj2
  have hp6:¬((op=0)∨(op=6)):=Zv (Zz Ze Ze) hb3
  refine ir 3 [(0,.i op),(12,.b (op==8))] ?_
  exact ZL (wk [] (fr (fc (x:=.b (op==8)) (lb (by simp only [hb3];rfl)) fl))) hj2
 refine ir 3 [(0,.i op),(5,.b (op==0))] (ib (b:=(op==0)) 5 (fun hb4=>?_) (fun hb4=>?_))
 ·have hp7:op=0:=(Ze).1 hb4
  refine ir 3 [(0,.i op),(8,.b true)] ?_
  exact ZL (wk [] (fr (fc (x:=.b true) (lb (by simp only [hb4];rfl)) fl))) hj1
 have hp8:¬(op=0):=Zv Ze hb4
 refine ir 3 [(0,.i op),(8,.b (op==6))] ?_
 exact ZL (wk [] (fr (fc (x:=.b (op==6)) (lb (by simp only [hb4];rfl)) fl))) hj1
theorem Jj (us:List Int) (args:List Int) (tys:List Int) (hl_us:us.length<=4294967296:=by exact ob) (hl_args:args.length<=4294967296:=by exact ob) (hl_tys:tys.length<=4294967296:=by exact ob):Zd Tryz.prog 136 [Z1 us,Z1 args,Z1 tys] [] (fun r h=>r=.b (YM us args tys)/\h=[]):=by
 refine enter Tryz.func136 kr (n:=42) kr kr (ar (ir 1 [(0,Z1 us),(1,Z1 args),(2,Z1 tys)] (ie (aq (ar (Z0 1 (.n 8 (Z1 args) .r) (iw (ZD args) (Z0 1 (.n 10 (Z1 tys) .r) (iw (ZD tys) (Z0 1 (.n 12 (.b ((args.length:Int) != (tys.length:Int))) .r) (ie (ac ((args.length:Int) != (tys.length:Int)) Zw (fun hc1=>?_) (fun hc1=>?_)))))))))))))
 ·refine ar (ir 1 [(6,.b false)] (ie ?_))
  exact Z5 (r2 [] [.b false] ⟨rfl,rfl⟩ (lb (Zkr om).symm))
 refine ak (aq (ar (Z0 1 (.n 7 (.i 0) .r) (ie (ab 0 (al (fun m F h=>∃(k:Nat),(k<=args.length)/\(VB us (args.drop k) (tys.drop k)=YM us args tys)/\F=[(0,Z1 us),(1,Z1 args),(2,Z1 tys),(7,.i k)]/\h=[]/\m=args.length-k) _ _ _ ⟨0,ob,ob,rfl,rfl,rfl⟩ (wk [] (fw (fr (fc (x:=.i 0) li fl)))) ?_))))))
 rintro m F h ⟨k,c0_0,c0_1,rfl,rfl,rfl⟩
 refine aq (ar (Z0 2 (.n 13 (.i k) (.n 14 (Z1 args) .r)) (iw (ZD args) (Z0 1 (.n 16 (.b (decide ((k:Int)<(args.length:Int)))) .r) (ie (ac (decide ((k:Int)<(args.length:Int))) dq (fun hc2=>?_) (fun hc2=>?_)))))))
 ·refine ak (aq (ab 1 (aD 23 (Zi (fuel:=21) 23 [0,1] (.n 19 (Z1 args) (.n 20 (.i k) .r)) ?_))))
  obtain ⟨x1,hx1⟩:=Zl (xs:=args) (j:=k) om
  refine dx 2 (Zj (es:=Z6 args) (hv:=none) (j:=(k:Int)) (sz:=1) (y:=.i x1) kr om (ZH hx1) rfl) (Zi (fuel:=18) 20 [3,4] (.n 22 (.i x1) (.n 23 (Z1 us) .r)) (dw 5 (ZD us) (da 6 (((us.length:Int)-1)) (((us.length:Int))-(1)) (Zm 7 (dc 7 [] [] [] (Un x1 0 ((us.length:Int)-1)) ?_)))))
  rintro _ _ ⟨rfl,rfl⟩
  refine Zi (fuel:=13) 15 [8,9] (.n 28 (.b (!(decide (0<=x1/\x1<=((us.length:Int)-1))))) .r) (db (b:=(!(decide (0<=x1/\x1<=((us.length:Int)-1))))) 28 (fun hb1=>?_) (fun hb1=>?_))
  ·have hp1:¬(0<=x1/\x1<=((us.length:Int)-1)):=((ZP dq)).1 hb1
   refine Zi (fuel:=0) 13 [10,11,12,13,14,15,16,17,18,19,20,21,22] (.n 41 (.b true) (.k (.d .r))) (de (X8 (ar (ir 1 [(6,.b false)] (ie ?_)))))
   obtain ⟨y,hy⟩:=Zl (xs:=tys) (j:=k) om
   exact Z5 (r2 [] [.b false] ⟨rfl,rfl⟩ (lb (by rw [<-c0_1];exact (Zkq hx1 hy (by rw [Tm hp1];simp)).symm)))
  have hp2:¬(¬(0<=x1/\x1<=((us.length:Int)-1))):=Zv (ZP dq) hb1
  refine Zi (fuel:=10) 13 [10,11,12] (.n 29 (Z1 us) (.n 30 (Z1 args) (.n 31 (.i k) (.k (.d .r))))) (dx 13 (Zj (es:=Z6 args) (hv:=none) (j:=(k:Int)) (sz:=1) (y:=.i x1) kr om (ZH hx1) rfl) (Zi (fuel:=8) 9 [14] (.n 33 (.i x1) .r) ?_))
  obtain ⟨x2,hx2⟩:=Zl (xs:=us) (j:=x1.toNat) om
  refine dx 15 (Zj (es:=Z6 us) (hv:=none) (j:=x1) (sz:=1) (y:=.i x2) kr om (ZH hx2) rfl) (Zi (fuel:=4) 7 [16,17,18] (.n 35 (.i x2) (.n 36 (Z1 tys) (.n 37 (.i k) .r))) ?_)
  obtain ⟨x3,hx3⟩:=Zl (xs:=tys) (j:=k) om
  refine dx 19 (Zj (es:=Z6 tys) (hv:=none) (j:=(k:Int)) (sz:=1) (y:=.i x3) kr om (ZH hx3) rfl) (Zi (fuel:=0) 3 [20,21,22] (.n 41 (.b (x2 != x3)) .r) (de (ac (x2 != x3) Zw (fun hc3=>?_) (fun hc3=>?_))))
  ·refine ar (ir 1 [(6,.b false)] (ie ?_))
   exact Z5 (r2 [] [.b false] ⟨rfl,rfl⟩ (lb (by rw [<-c0_1];exact (Zkq hx1 hx3 (by rw [Ut om hx2];simpa using hc3)).symm)))
  refine ak (az (Z0 1 (.n 17 (.i k) .r) (ia (((k+1:Nat):Int)) (((k:Int))+(1)) (ir 1 [(0,Z1 us),(1,Z1 args),(2,Z1 tys),(7,.i (k+1:Nat))] (ie ?_)))))
  have hdr:=Zu hx1
  exact ⟨_,_,_,ob,⟨k+1,ob,(by rw [<-c0_1];exact (Y0p hx1 hx3 (by rw [Ut om hx2];congr 1;omega)).symm),rfl,rfl,rfl⟩,(wk [] (fw (fr (fc (x:=.i (k+1:Nat)) li fl))))⟩
 refine ax 0 (ar (ir 1 [(6,.b true)] (ie ?_)))
 exact Z5 (r2 [] [.b true] ⟨rfl,rfl⟩ (lb (by rw [<-c0_1];exact (Y0o om om).symm)))
theorem Zyq (us:List Int) (s:Step) (hl_us:us.length<=4294967296:=by exact ob):Zd Tryz.prog 135 [Z1 us,ZN s] [] (fun r h=>r=.b (Wl us s.op s.into)/\h=[]):=by
 refine enter Tryz.func135 kr (n:=27) kr kr (ar (iA (ZE s) ?_))
 intro b1
 refine ir 1 [(0,Z1 us),(3,.p b1 0)] (ie (aq (ar (Za 3 (.n 7 (.b (s.into==0)) .r) [0] [b1] (ie (ac (s.into==0) Ze (fun hc1=>?_) (fun hc1=>?_)))))))
 ·refine ar (ir 1 [(4,.b true)] (ie ?_))
  exact Z5 (r2 [] [.b true] ⟨rfl,rfl⟩ (lb (by rw [Wl,Z8 hc1])))
 refine ak (ar (YV 10 [(0,Z1 us),(3,.p b1 0),(17,.b ((s.op==6)&&(decide (1<=s.into/\s.into<=(us.length:Int)))))] [.obj b1 (ZE s)] ?_ (fun hj1=>?_)))
 ·refine ir 1 [(0,Z1 us),(3,.p b1 0),(18,.b ((s.op==6)&&(decide (1<=s.into/\s.into<=(us.length:Int)))))] (ib (b:=((s.op==6)&&(decide (1<=s.into/\s.into<=(us.length:Int))))) 18 (fun hb1=>?_) (fun hb1=>?_))
  ·have hp1:(s.op=6)/\(1<=s.into/\s.into<=(us.length:Int)):=((ZZ Ze dq)).1 hb1
   refine Za 3 (.n 19 (Z1 us) (.n 21 (.i s.into) (.k .z))) [0] [b1] (ia ((s.into-1)) ((s.into)-(1)) ?_)
   obtain ⟨x1,hx1⟩:=Zl (xs:=us) (j:=(s.into-1).toNat) om
   refine Zf (Zj (es:=Z6 us) (hv:=none) (j:=(s.into-1)) (sz:=1) (y:=.i x1) kr om (ZH hx1) rfl) (ir 4 [(4,.b (decide (x1>0)))] (ie ?_))
   exact Z5 (r2 [] [.b (decide (x1>0))] ⟨rfl,rfl⟩ (lb (by rw [Wl,Z4 hc1];first|(rw [Z8 om,Ut om hx1];rfl)|(rw [Z8 om,Tm om];rfl)|(rw [Z4 om])|(by_cases q:s.op=6;rw [Z8 q,Tm om];rfl;rw [Z4 q]))))
  have hp2:¬((s.op=6)/\(1<=s.into/\s.into<=(us.length:Int))):=Zv (ZZ Ze dq) hb1
  refine ir 9 [(4,.b false)] (ie ?_)
  exact Z5 (r2 [] [.b false] ⟨rfl,rfl⟩ (lb (by rw [Wl,Z4 hc1];first|(rw [Z8 om,Ut om hx1];rfl)|(rw [Z8 om,Tm om];rfl)|(rw [Z4 om])|(by_cases q:s.op=6;rw [Z8 q,Tm om];rfl;rw [Z4 q]))))
 refine iR 4 [(0,Z1 us),(3,.p b1 0),(11,.b (s.op==6))] [0] [b1] (ib (b:=(s.op==6)) 11 (fun hb2=>?_) (fun hb2=>?_))
 ·have hp3:s.op=6:=(Ze).1 hb2
  refine Za 3 (.n 13 (.i s.into) (.n 14 (Z1 us) (.k (.k (.k .z))))) [0] [b1] (iw (ZD us) (ic [] (Un s.into 1 (us.length:Int)) ?_))
  rintro _ _ ⟨rfl,rfl⟩
  refine Z0 1 (.n 17 (.b (decide (1<=s.into/\s.into<=(us.length:Int)))) .r) ?_
  exact ZL (wk [0] (fw (fc (x:=.b (decide (1<=s.into/\s.into<=(us.length:Int)))) (lb (by simp only [hb2];rfl)) fl))) hj1
 have hp4:¬(s.op=6):=Zv Ze hb2
 refine Z0 6 (.n 17 (.b false) (.d (.k (.k .z)))) ?_
 exact ZL (wk [0] (fw (fc (x:=.b false) (lb (by simp only [hb2];rfl)) fl))) hj1
theorem Zyj (n:Normal) (us:List Int) (s:Step) (hn:NOk n:=by exact ob) (hl_us:us.length<=4294967296:=by exact ob) (ha:s.args.length<=1000000000:=by exact ob):Zd Tryz.prog 138 [ZJ n,Z1 us,ZN s] [] (fun r h=>r=.i (UE n us s.op s.num s.args)/\h=[]):=by
 have hrl:=hn.len
 have hdl:=hn.decls.len
 refine enter Tryz.func138 kr (n:=69) kr kr (ar (iA (ZU n) ?_))
 intro b1
 refine iA (ZE s) ?_
 intro b2
 refine ir 1 [(1,Z1 us),(3,.p b1 0),(5,.p b2 0)] (ie (aq (ar (Za 4 (.n 10 (.i s.num) (.n 12 (Yh n.routines) .r)) [0,1] [b2,b1] (iw (VY n.routines) (ia (((n.routines.length:Int)-1)) (((n.routines.length:Int))-(1)) (ic [] (Un s.num 0 ((n.routines.length:Int)-1)) ?_)))))))
 rintro _ _ ⟨rfl,rfl⟩
 refine Z0 1 (.n 16 (.b (!(decide (0<=s.num/\s.num<=((n.routines.length:Int)-1))))) .r) (ie (ac (!(decide (0<=s.num/\s.num<=((n.routines.length:Int)-1)))) (p:=¬(0<=s.num/\s.num<=((n.routines.length:Int)-1))) (ZP dq) (fun hc1=>?_) (fun hc1=>?_)))
 ·refine ar (ir 1 [(6,.i (-1))] (ie ?_))
  exact Z5 (r2 [] [.i (-1)] ⟨rfl,rfl⟩ (li (Zwd om).symm))
 refine ak (ar (Za 4 (.n 18 (Yh n.routines) (.n 20 (.i s.num) .r)) [1,0] [b1,b2] ?_))
 obtain ⟨x1,hx1⟩:=Zl (xs:=n.routines) (j:=s.num.toNat) om
 have hrp:=hn.params_at hx1
 have hrt:=hn.lent_at hx1
 have hre:UE n us s.op s.num s.args=TA n.decls us s.op s.args x1:=Zwb om hx1
 refine Zf (Zj (es:=WD n.routines) (hv:=none) (j:=s.num) (sz:=5) (y:=Xc x1) kr om (VX hx1) rfl) (Z0 1 (.n 22 (Xc x1) .r) (iA [nl,nl,.i 0,nl,.i 0] ?_))
 intro b3
 refine iS 0 b3 0 (WI x1) [nl,nl,.i 0,nl,.i 0] (WI x1) (ie (ar (Za 2 (.n 24 (Z1 x1.params) .r) [0] [b3] (iw (ZD x1.params) (Z0 1 (.n 8 (.i x1.params.length) .r) (ie (aq (ar (Za 3 (.n 28 (.b (s.op==9)) .r) [1] [b2] (ie (ac (s.op==9) Ze (fun hc2=>?_) (fun hc2=>?_))))))))))))
 ·refine aq (ar (Za 5 (.n 29 (Z1 us) (.n 31 (Z1 s.args) (.n 33 (Z1 x1.params) .r))) [1,0] [b2,b3] (ic [] (Jj us s.args x1.params) ?_)))
  rintro _ _ ⟨rfl,rfl⟩
  refine Z0 1 (.n 35 (.b (!YM us s.args x1.params)) .r) (ie (ac (!YM us s.args x1.params) (p:=¬(YM us s.args x1.params=true)) (ZP Iff.rfl) (fun hc3=>?_) (fun hc3=>?_)))
  ·refine ar (ir 1 [(6,.i (-1))] (ie ?_))
   exact Z5 (r2 [] [.i (-1)] ⟨rfl,rfl⟩ (li (by clear hx1;first|rfl|omega|grind [TA,TT])))
  refine ak (ar (iR 3 [(6,.i x1.result)] [0] [b3] (ie ?_)))
  exact Z5 (r2 [] [.i x1.result] ⟨rfl,rfl⟩ (li (by clear hx1;first|rfl|omega|grind [TA,TT])))
 refine ak (aq (aD 20 (Ke [(3,.p b1 0),(7,.p b3 0),(8,.i x1.params.length),(57,.b (((x1.params.length:Int)==0)||((decide ((x1.lent.length:Int)>0))||(!YM us s.args (x1.params.take (x1.params.length-1))))))] [.obj b3 (WI x1),.obj b2 (ZE s),.obj b1 (ZU n)] ?_ ?_)))
 ·refine dt (fuel:=17) 20 [0,1,2] [(1,Z1 us),(3,.p b1 0),(5,.p b2 0),(7,.p b3 0),(8,.i x1.params.length),(40,.b ((x1.params.length:Int)==0))] (db (b:=((x1.params.length:Int)==0)) 40 (fun hb1=>?_) (fun hb1=>?_))
  ·have hp1:(x1.params.length:Int)=0:=(Ze).1 hb1
   refine Zi (fuel:=0) 17 [3,4,5,6,7,8,9,10,11,12,13,14,15,16,17,18,19] (.n 57 (.b true) (.d (.d (.k (.d (.k (.k .z))))))) (de ?_)
   exact wk [0,0,0] (fw (fr (fc (x:=.b true) (lb (by simp only [hb1];rfl)) fl)))
  have hp2:¬((x1.params.length:Int)=0):=Zv Ze hb1
  refine ZI (fuel:=15) 17 [3,4] (.n 42 (Z1 x1.lent) (.w (.k (.k .z)))) [0] [b3] (dw 5 (ZD x1.lent) (Zi (fuel:=11) 14 [6,7,8] (.n 46 (.b (decide ((x1.lent.length:Int)>0))) .r) (db (b:=(decide ((x1.lent.length:Int)>0))) 46 (fun hb2=>?_) (fun hb2=>?_))))
  ·have hp3:(x1.lent.length:Int)>0:=(dq).1 hb2
   refine Zi (fuel:=0) 11 [9,10,11,12,13,14,15,16,17,18,19] (.n 57 (.b true) (.k (.d .r))) (de ?_)
   exact wk [0,0,0] (fw (fr (fc (x:=.b true) (lb (by simp only [hb1,hb2];rfl)) fl)))
  have hp4:¬((x1.lent.length:Int)>0):=Zv dq hb2
  refine ZI (fuel:=5) 11 [9,10,11,12,13,14] (.n 47 (Z1 us) (.n 49 (Z1 s.args) (.n 51 (Z1 x1.params) (.n 52 (.i x1.params.length) (.k (.d .r)))))) [1,0] [b2,b3] (da 15 (((x1.params.length-1:Nat):Int)) (((x1.params.length:Int))-(1)) (dx 16 (Z33 (es:=Z6 x1.params) (hv:=none) (l:=0) (m:=((x1.params.length-1:Nat):Int)) (sz:=1) (es':=Z6 (x1.params.take (x1.params.length-1))) kr om (by simp<;>omega) (by simp<;>omega) (YS _) (by first|(simp only [Te,Qh,Qr,Kg];done)|(simp only [Te,Qh,Qr,Kg];rfl)|(simp [Qr,Kg];done))) (Zm 17 (dc 17 [] [] [] (Jj us s.args (x1.params.take (x1.params.length-1))) ?_))))
  rintro _ _ ⟨rfl,rfl⟩
  refine Zi (fuel:=0) 2 [18,19] (.n 57 (.b (!YM us s.args (x1.params.take (x1.params.length-1)))) .r) (de ?_)
  exact wk [0,0,0] (fw (fr (fc (x:=.b (!YM us s.args (x1.params.take (x1.params.length-1)))) (lb (by simp only [hb1,hb2];rfl)) fl)))
 refine ac (((x1.params.length:Int)==0)||((decide ((x1.lent.length:Int)>0))||(!YM us s.args (x1.params.take (x1.params.length-1))))) (p:=((x1.params.length:Int)=0)∨(((x1.lent.length:Int)>0)∨(¬(YM us s.args (x1.params.take (x1.params.length-1))=true)))) (Zz Ze (Zz dq (ZP Iff.rfl))) (fun hc4=>?_) (fun hc4=>?_)
 ·refine ar (ir 1 [(6,.i (-1))] (ie ?_))
  exact Z5 (r2 [] [.i (-1)] ⟨rfl,rfl⟩ (li (by clear hx1;first|rfl|omega|grind [TA,TT])))
 refine ak (aD 12 (dT (fuel:=7) 12 [0,1,2,3,4] [(7,.p b3 0),(59,Z3 n.decls),(61,Z1 x1.params),(62,.i x1.params.length)] [2,0] [b1,b3] (da 5 (((x1.params.length-1:Nat):Int)) (((x1.params.length:Int))-(1)) ?_)))
 obtain ⟨x2,hx2⟩:=Zl (xs:=x1.params) (j:=x1.params.length-1) om
 have hgl:=Zfk hx2
 refine dx 6 (Zj (es:=Z6 x1.params) (hv:=none) (j:=((x1.params.length-1:Nat):Int)) (sz:=1) (y:=.i x2) kr om (ZH hx2) rfl) (ZI (fuel:=2) 5 [7,8,9] (.n 65 (.i x2) (.n 67 (.i x1.result) .r)) [0] [b3] (Zm 10 (dc 10 [] [] [] (Zy0 n.decls x2 x1.result) ?_)))
 rintro _ _ ⟨rfl,rfl⟩
 refine dt (fuel:=0) 1 [11] [(6,.i (WV n.decls x2 x1.result))] (de ?_)
 exact Z5 (r2 [] [.i (WV n.decls x2 x1.result)] ⟨rfl,rfl⟩ (li (by clear hx1 hx2;first|rfl|omega|grind [TA,TT])))
theorem Zy8 (n:Normal) (us:List Int) (s:Step) (hn:NOk n:=by exact ob) (hl_us:us.length<=4294967296:=by exact ob) (ha:s.args.length<=1000000000:=by exact ob):Zd Tryz.prog 140 [ZJ n,Z1 us,ZN s] [] (fun r h=>r=.i (Uw n.decls us s.op s.args)/\h=[]):=by
 have hdk:=hn.decls
 refine enter Tryz.func140 kr (n:=52) kr kr (ar (iA (ZU n) ?_))
 intro b1
 refine iA (ZE s) ?_
 intro b2
 refine ir 1 [(1,Z1 us),(3,.p b1 0),(5,.p b2 0)] (ie (aq (ar (Za 2 (.n 8 (Z1 s.args) .r) [0] [b2] (iw (ZD s.args) (Z0 2 (.n 11 (.b ((s.args.length:Int) != 1)) .r) (ib (b:=((s.args.length:Int) != 1)) 11 (fun hb1=>?_) (fun hb1=>?_))))))))
 ·have hp1:(s.args.length:Int)≠1:=(Zw).1 hb1
  refine Z0 20 (.n 31 (.b true) (.k (.d .r))) (ie (X8 (ar (ir 1 [(6,.i (-1))] (ie ?_)))))
  exact Z5 (r2 [] [.i (-1)] ⟨rfl,rfl⟩ (li (by first|assumption|omega|rfl|(rw [Z0j om])|(rw [Z0k (TQ om hx1) om])|(rw [Z0i (TQ om hx1) om hx2];clear hx1 hx2;grind))))
 have hp2:¬((s.args.length:Int)≠1):=Zv Zw hb1
 refine Za 2 (.n 13 (Z1 s.args) (.k (.d .r))) [0] [b2] ?_
 obtain ⟨x1,hx1⟩:=Zl (xs:=s.args) (j:=0) om
 refine Zf (Zj (es:=Z6 s.args) (hv:=none) (j:=0) (sz:=1) (y:=.i x1) kr om (ZH hx1) rfl) (Z0 2 (.n 15 (.i x1) (.n 16 (Z1 us) .r)) (iw (ZD us) (ia (((us.length:Int)-1)) (((us.length:Int))-(1)) (ic [] (Un x1 0 ((us.length:Int)-1)) ?_))))
 rintro _ _ ⟨rfl,rfl⟩
 refine Z0 3 (.n 22 (.b (!(decide (0<=x1/\x1<=((us.length:Int)-1))))) .r) (ib (b:=(!(decide (0<=x1/\x1<=((us.length:Int)-1))))) 22 (fun hb2=>?_) (fun hb2=>?_))
 ·have hp3:¬(0<=x1/\x1<=((us.length:Int)-1)):=((ZP dq)).1 hb2
  refine Z0 9 (.n 31 (.b true) (.k (.d .r))) (ie (X8 (ar (ir 1 [(6,.i (-1))] (ie ?_)))))
  exact Z5 (r2 [] [.i (-1)] ⟨rfl,rfl⟩ (li (by first|assumption|omega|rfl|(rw [Z0j om])|(rw [Z0k (TQ om hx1) om])|(rw [Z0i (TQ om hx1) om hx2];clear hx1 hx2;grind))))
 have hp4:¬(¬(0<=x1/\x1<=((us.length:Int)-1))):=Zv (ZP dq) hb2
 refine Za 3 (.n 23 (Z1 us) (.n 25 (Z1 s.args) (.k (.d .r)))) [0] [b2] (Zf (Zj (es:=Z6 s.args) (hv:=none) (j:=0) (sz:=1) (y:=.i x1) kr om (ZH hx1) rfl) (Z0 1 (.n 27 (.i x1) .r) ?_))
 obtain ⟨x2,hx2⟩:=Zl (xs:=us) (j:=x1.toNat) om
 refine Zf (Zj (es:=Z6 us) (hv:=none) (j:=x1) (sz:=1) (y:=.i x2) kr om (ZH hx2) rfl) (Z0 3 (.n 31 (.b (x2==0)) .r) (ie (ac (x2==0) Ze (fun hc1=>?_) (fun hc1=>?_))))
 ·refine ar (ir 1 [(6,.i (-1))] (ie ?_))
  exact Z5 (r2 [] [.i (-1)] ⟨rfl,rfl⟩ (li (by first|assumption|omega|rfl|(rw [Z0j om])|(rw [Z0k (TQ om hx1) om])|(rw [Z0i (TQ om hx1) om hx2];clear hx1 hx2;grind))))
 refine ak (aq (aD 20 (Ke [(51,.b ((s.op != 14)&&((s.op != 15)&&Yv n.decls x2)))] [.obj b2 (ZE s),.obj b1 (ZU n)] ?_ ?_)))
 ·refine dT (fuel:=16) 20 [0,1,2,3] [(1,Z1 us),(3,.p b1 0),(5,.p b2 0),(35,.b (s.op != 14))] [0] [b2] (db (b:=(s.op != 14)) 35 (fun hb3=>?_) (fun hb3=>?_))
  ·have hp5:s.op≠14:=(Zw).1 hb3
   refine ZI (fuel:=11) 16 [4,5,6,7,8] (.n 40 (.b (s.op != 15)) (.d (.k (.k (.k .z))))) [0] [b2] (db (b:=(s.op != 15)) 40 (fun hb4=>?_) (fun hb4=>?_))
   ·have hp6:s.op≠15:=(Zw).1 hb4
    refine dT (fuel:=6) 11 [9,10,11,12,13] [(40,.b true),(42,Z3 n.decls),(43,Z1 us),(45,Z1 s.args)] [1,0] [b1,b2] (dx 14 (Zj (es:=Z6 s.args) (hv:=none) (j:=0) (sz:=1) (y:=.i x1) kr om (ZH hx1) rfl) (Zi (fuel:=4) 5 [15] (.n 47 (.i x1) .r) (dx 16 (Zj (es:=Z6 us) (hv:=none) (j:=x1) (sz:=1) (y:=.i x2) kr om (ZH hx2) rfl) (Zi (fuel:=2) 3 [17] (.n 49 (.i x2) .r) (Zm 18 (dc 18 [] [] [] (Zjx n.decls x2 (hd:=(by first|assumption|omega|rfl|(rw [Z0j om])|(rw [Z0k (TQ om hx1) om])|(rw [Z0i (TQ om hx1) om hx2];clear hx1 hx2;grind)))) ?_))))))
    rintro _ _ ⟨rfl,rfl⟩
    refine dt (fuel:=0) 1 [19] [(51,.b (Yv n.decls x2))] (de ?_)
    exact wk [0,0] (fc (x:=.b (Yv n.decls x2)) (lb (by simp only [hb3,hb4];rfl)) fl)
   have hp7:¬(s.op≠15):=Zv Zw hb4
   refine dt (fuel:=0) 11 [9,10,11,12,13,14,15,16,17,18,19] [(51,.b false)] (de ?_)
   exact wk [0,0] (fc (x:=.b false) (lb (by simp only [hb3,hb4];rfl)) fl)
  have hp8:¬(s.op≠14):=Zv Zw hb3
  refine dt (fuel:=0) 16 [4,5,6,7,8,9,10,11,12,13,14,15,16,17,18,19] [(51,.b false)] (de ?_)
  exact wk [0,0] (fc (x:=.b false) (lb (by simp only [hb3];rfl)) fl)
 refine ac ((s.op != 14)&&((s.op != 15)&&Yv n.decls x2)) (p:=(s.op≠14)/\((s.op≠15)/\(Yv n.decls x2=true))) (ZZ Zw (ZZ Zw Iff.rfl)) (fun hc2=>?_) (fun hc2=>?_)
 ·refine ar (ir 1 [(6,.i (-1))] (ie ?_))
  exact Z5 (r2 [] [.i (-1)] ⟨rfl,rfl⟩ (li (by first|assumption|omega|rfl|(rw [Z0j om])|(rw [Z0k (TQ om hx1) om])|(rw [Z0i (TQ om hx1) om hx2];clear hx1 hx2;grind))))
 refine ak (ar (ir 1 [(6,.i 0)] (ie ?_)))
 exact Z5 (r2 [] [.i 0] ⟨rfl,rfl⟩ (li (by first|assumption|omega|rfl|(rw [Z0j om])|(rw [Z0k (TQ om hx1) om])|(rw [Z0i (TQ om hx1) om hx2];clear hx1 hx2;grind))))
theorem Zjy (n:Normal) (us:List Int) (s:Step) (hn:NOk n:=by exact ob) (hop:s.op=7∨s.op=8:=by exact ob) (hb:us.length+4*s.sz<=1000000000:=by exact ob) (ih:∀(b:Block) (us:List Int),(b.sz<s.sz)->(us.length+4*b.sz<=1000000000)->Zd Tryz.prog 70 [ZJ n,Z1 us,Zx b] [] (fun r h=>r=.i (ZF n us b)/\h=[])):Zd Tryz.prog 137 [ZJ n,Z1 us,ZN s] [] (fun r h=>r=.i (Vw n us s.op s.num s.kids)/\h=[]):=by
 have hdk:=hn.decls
 have hkz:=UO s
 refine enter Tryz.func137 kr (n:=71) kr kr (ar (iA (ZU n) ?_))
 intro b1
 refine iA (ZE s) ?_
 intro b2
 refine ir 1 [(1,Z1 us),(3,.p b1 0),(5,.p b2 0)] (ie (ar (Za 4 (.n 14 (Z3 n.decls) (.n 16 (.i s.num) .r)) [1,0] [b1,b2] (ic [] (Zax n.decls s.num) ?_))))
 rintro _ _ ⟨v1,rfl,rfl⟩
 refine Z0 1 (.n 7 (Zb (Zt n.decls s.num) v1) .r) (ie (ar (Z0 1 (.n 18 (Zb (Zt n.decls s.num) v1) .r) (io (.i (((Zt n.decls s.num).length:Nat):Int)) (.i (((Z6 (Zt n.decls s.num)).length:Nat):Int)) (li (by rw [ZD])) (Z0 1 (.n 8 (.i (((Zt n.decls s.num).length:Nat):Int)) .r) (ie (aq (ar (Za 3 (.n 22 (.b (s.op==7)) .r) [1] [b2] (ie (Ug (fun F h=>F=[(1,Z1 us),(3,.p b1 0),(5,.p b2 0),(7,Z1 (Zt n.decls s.num)),(8,.i (((Zy n.decls s.op s.num).length:Nat):Int))]/\h=[.obj b2 (ZE s),.obj b1 (ZU n)]) ?_ ?_)))))))))))
 ·refine ac (s.op==7) Ze (fun hc1=>?_) (fun hc1=>?_)
  ·refine az (ir 1 [(1,Z1 us),(3,.p b1 0),(5,.p b2 0),(7,Zb (Zt n.decls s.num) v1),(8,.i 2)] (ie ?_))
   exact ⟨_,_,⟨rfl,rfl⟩,(wk [1,1] (fw (fr (fc (x:=Zb (Zt n.decls s.num) v1) (Zg.forget _ _) (fc (x:=.i 2) (li (by rw [Zy,Z8 hc1];rfl)) fl)))))⟩
  refine ak ?_
  exact ⟨_,_,⟨rfl,rfl⟩,(wk [1,1] (fw (fr (fc (x:=Zb (Zt n.decls s.num) v1) (Zg.forget _ _) (fc (x:=.i (((Zt n.decls s.num).length:Nat):Int)) (li (by rw [Zy,Z4 hc1,TK])) fl)))))⟩
 rintro F h ⟨rfl,rfl⟩
 refine aq (ar (Xl [(1,Z1 us),(3,.p b1 0),(5,.p b2 0),(7,Z1 (Zt n.decls s.num)),(8,.i (((Zy n.decls s.op s.num).length:Nat):Int)),(31,.b (((((Zy n.decls s.op s.num).length:Nat):Int)==0)||((s.kids.length:Int) != (((Zy n.decls s.op s.num).length:Nat):Int))))] [.obj b2 (ZE s),.obj b1 (ZU n)] ?_ ?_))
 ·refine ir 3 [(1,Z1 us),(3,.p b1 0),(5,.p b2 0),(7,Z1 (Zt n.decls s.num)),(8,.i (((Zy n.decls s.op s.num).length:Nat):Int)),(25,.b ((((Zy n.decls s.op s.num).length:Nat):Int)==0))] (ib (b:=((((Zy n.decls s.op s.num).length:Nat):Int)==0)) 25 (fun hb1=>?_) (fun hb1=>?_))
  ·have hp1:(((Zy n.decls s.op s.num).length:Nat):Int)=0:=(Ze).1 hb1
   refine Z0 6 (.n 31 (.b true) (.d (.w (.k .z)))) (ie ?_)
   exact wk [0,0] (fq (fr (fc (x:=.b true) (lb (by simp only [hb1];rfl)) fl)))
  have hp2:¬((((Zy n.decls s.op s.num).length:Nat):Int)=0):=Zv Ze hb1
  refine Za 2 (.n 27 (ZT s.kids) (.w (.k (.k .z)))) [0] [b2] (iw (VJ s.kids) (Z0 3 (.n 31 (.b ((s.kids.length:Int) != (((Zy n.decls s.op s.num).length:Nat):Int))) .r) (ie ?_)))
  exact wk [0,0] (fq (fr (fc (x:=.b ((s.kids.length:Int) != (((Zy n.decls s.op s.num).length:Nat):Int))) (lb (by simp only [hb1];rfl)) fl)))
 refine ac (((((Zy n.decls s.op s.num).length:Nat):Int)==0)||((s.kids.length:Int) != (((Zy n.decls s.op s.num).length:Nat):Int))) (p:=((((Zy n.decls s.op s.num).length:Nat):Int)=0)∨((s.kids.length:Int)≠(((Zy n.decls s.op s.num).length:Nat):Int))) (Zz Ze Zw) (fun hc2=>?_) (fun hc2=>?_)
 ·refine ar (ir 1 [(6,.i (-1))] (ie ?_))
  exact Z5 (r2 [] [.i (-1)] ⟨rfl,rfl⟩ (li (by rw [Vw,Z8 om])))
 refine ak (ar (ir 1 [(1,Z1 us),(3,.p b1 0),(5,.p b2 0),(7,Z1 (Zt n.decls s.num)),(8,.i (((Zy n.decls s.op s.num).length:Nat):Int)),(9,.i 0)] (ie (aq (ar (Z0 1 (.n 10 (.i 0) .r) (ie (ab 0 (al (fun m F h=>∃(k:Nat) (t:Int),(k<=s.kids.length)/\(Xm n us (s.kids.drop k) ((Zy n.decls s.op s.num).drop k) (decide (k=0)) t=Xm n us s.kids (Zy n.decls s.op s.num) true 0)/\F=[(1,Z1 us),(3,.p b1 0),(5,.p b2 0),(7,Z1 (Zt n.decls s.num)),(8,.i (((Zy n.decls s.op s.num).length:Nat):Int)),(9,.i t),(10,.i k)]/\h=[.obj b2 (ZE s),.obj b1 (ZU n)]/\m=s.kids.length-k) _ _ _ ⟨0,0,ob,(by rfl),rfl,rfl,rfl⟩ (wk [0,0] (fq (fw (fc (x:=.i 0) li fl)))) ?_)))))))))
 rintro m F h ⟨k,t,c0_0,c0_1,rfl,rfl,rfl⟩
 refine aq (ar (Z0 3 (.n 34 (.b (decide ((k:Int)<(((Zy n.decls s.op s.num).length:Nat):Int)))) .r) (ie (ac (decide ((k:Int)<(((Zy n.decls s.op s.num).length:Nat):Int))) dq (fun hc3=>?_) (fun hc3=>?_)))))
 ·refine ak (aq (ab 1 (ar (Z0 2 (.n 11 (Z1 us) .r) (ie (aq (ar (Za 3 (.n 40 (.b (s.op==8)) .r) [0] [b2] (ie (Ug (fun F h=>∃(m:List Int),((Zy n.decls s.op s.num)[k]? = some m)/\F=[(1,Z1 us),(3,.p b1 0),(5,.p b2 0),(7,Z1 (Zt n.decls s.num)),(8,.i (((Zy n.decls s.op s.num).length:Nat):Int)),(9,.i t),(10,.i k),(11,Z1 (us++m))]/\h=[.obj b2 (ZE s),.obj b1 (ZU n)]) ?_ ?_))))))))))
  ·refine ac (s.op==8) Ze (fun hc4=>?_) (fun hc4=>?_)
   ·refine aE 10 (dT (fuel:=5) 10 [0,1,2,3,4] [(1,Z1 us),(3,.p b1 0),(5,.p b2 0),(7,Z1 (Zt n.decls s.num)),(8,.i (((Zy n.decls s.op s.num).length:Nat):Int)),(9,.i t),(10,.i k),(11,Z1 us),(41,Z1 us),(43,Z3 n.decls),(44,Z1 (Zt n.decls s.num)),(45,.i k)] [1] [b1] ?_)
    obtain ⟨x1,hx1⟩:=Zl (xs:=Zt n.decls s.num) (j:=k) (by rw [Zy,Z4 om,TK] at hc3;omega)
    refine dx 5 (Zj (es:=Z6 (Zt n.decls s.num)) (hv:=none) (j:=(k:Int)) (sz:=1) (y:=.i x1) kr om (ZH hx1) rfl) (Zi (fuel:=3) 4 [6] (.n 47 (.i x1) .r) (Zm 7 (dc 7 [] [] [] (Z1b n.decls x1) ?_)))
    rintro _ _ ⟨rfl,rfl⟩
    refine Zm 8 (dc 8 [] [] [] (Z1c us (Zc n.decls x1) (hl:=(by have:=VV hdk x1;omega))) ?_)
    rintro _ _ ⟨v2,rfl,rfl⟩
    refine Zi (fuel:=0) 1 [9] (.n 11 (Zb (us++(Zc n.decls x1)) v2) (.p (.p (.d (.p (.w (.k (.k (.k .z))))))))) (de ?_)
    exact ⟨_,_,⟨(Zc n.decls x1),(by rw [show s.op=8 from hc4];exact Zmf hx1),rfl,rfl⟩,(wk [1,1] fl)⟩
   refine ak ?_
   exact ⟨_,_,⟨[],(by rw [Zy,Z8 om];have:k=0∨k=1:=(by rw [Zy,Z8 om] at hc3;simp at hc3;omega);rcases this with rfl|rfl<;>rfl),rfl,rfl⟩,(wk [0,0] (fq (fw (fr (fc (x:=Z1 us) (Zg.sl _ (Y1 Z6 (by simp))) fl)))))⟩
  rintro F h ⟨m,k3_0,rfl,rfl⟩
  refine aD 9 (dT (fuel:=4) 9 [0,1,2,3,4] [(1,Z1 us),(3,.p b1 0),(5,.p b2 0),(7,Z1 (Zt n.decls s.num)),(8,.i (((Zy n.decls s.op s.num).length:Nat):Int)),(9,.i t),(10,.i k),(50,ZJ n),(51,Z1 (us++m)),(53,ZT s.kids),(54,.i k)] [1,0] [b1,b2] ?_)
  obtain ⟨x2,hx2⟩:=Zl (xs:=s.kids) (j:=k) om
  have hks:=UN hx2
  have hm3:=Z0d hdk k3_0
  refine dx 5 (Zj (es:=Xw s.kids) (hv:=none) (j:=(k:Int)) (sz:=2) (y:=Zx x2) kr om (WY hx2) rfl) (Zi (fuel:=2) 3 [6] (.n 56 (Zx x2) .r) (Zm 7 (dc 7 [] [] [] (ih x2 (us++m) ob (by simp only [ZC];omega)) ?_)))
  rintro _ _ ⟨rfl,rfl⟩
  refine Zi (fuel:=0) 1 [8] (.n 12 (.i (ZF n (us++m) x2)) .r) (de (aq (ar (Xl [(1,Z1 us),(3,.p b1 0),(5,.p b2 0),(7,Z1 (Zt n.decls s.num)),(8,.i (((Zy n.decls s.op s.num).length:Nat):Int)),(10,.i k),(12,.i (ZF n (us++m) x2)),(68,.b ((decide ((ZF n (us++m) x2)<0))||((decide ((k:Int)>0))&&((ZF n (us++m) x2) != t))))] [.obj b2 (ZE s),.obj b1 (ZU n)] ?_ ?_))))
  ·refine ir 3 [(1,Z1 us),(3,.p b1 0),(5,.p b2 0),(7,Z1 (Zt n.decls s.num)),(8,.i (((Zy n.decls s.op s.num).length:Nat):Int)),(9,.i t),(10,.i k),(12,.i (ZF n (us++m) x2)),(60,.b (decide ((ZF n (us++m) x2)<0)))] (ib (b:=(decide ((ZF n (us++m) x2)<0))) 60 (fun hb2=>?_) (fun hb2=>?_))
   ·have hp3:(ZF n (us++m) x2)<0:=(dq).1 hb2
    refine Z0 8 (.n 68 (.b true) (.d (.w (.k (.d (.k (.k .z))))))) (ie ?_)
    exact wk [0,0] (fq (fw (fr (fc (x:=.b true) (lb (by simp only [hb2];rfl)) fl))))
   have hp4:¬((ZF n (us++m) x2)<0):=Zv dq hb2
   refine Z0 3 (.n 63 (.b (decide ((k:Int)>0))) (.w (.w (.k .z)))) (ib (b:=(decide ((k:Int)>0))) 63 (fun hb3=>?_) (fun hb3=>?_))
   ·have hp5:(k:Int)>0:=(dq).1 hb3
    refine Z0 5 (.n 68 (.b ((ZF n (us++m) x2) != t)) (.k (.d .r))) (ie ?_)
    exact wk [0,0] (fq (fw (fr (fc (x:=.b ((ZF n (us++m) x2) != t)) (lb (by simp only [hb2,hb3];rfl)) fl))))
   have hp6:¬((k:Int)>0):=Zv dq hb3
   refine Z0 5 (.n 68 (.b false) (.k (.d .r))) (ie ?_)
   exact wk [0,0] (fq (fw (fr (fc (x:=.b false) (lb (by simp only [hb2,hb3];rfl)) fl))))
  refine ac ((decide ((ZF n (us++m) x2)<0))||((decide ((k:Int)>0))&&((ZF n (us++m) x2) != t))) (p:=((ZF n (us++m) x2)<0)∨(((k:Int)>0)/\((ZF n (us++m) x2)≠t))) (Zz dq (ZZ dq Zw)) (fun hc5=>?_) (fun hc5=>?_)
  ·refine ar (ir 1 [(6,.i (-1))] (ie ?_))
   exact Z5 (r2 [] [.i (-1)] ⟨rfl,rfl⟩ (li (by rw [Vw,Z4 om,<-c0_1];exact (Zgi hx2 k3_0 hc5).symm)))
  refine ak (az (ir 2 [(1,Z1 us),(3,.p b1 0),(5,.p b2 0),(7,Z1 (Zt n.decls s.num)),(8,.i (((Zy n.decls s.op s.num).length:Nat):Int)),(9,.i (ZF n (us++m) x2)),(10,.i k)] (ie (az (Z0 1 (.n 35 (.i k) .r) (ia (((k+1:Nat):Int)) (((k:Int))+(1)) (Z0 1 (.n 10 (.i (k+1:Nat)) (.p (.d (.w (.k (.k .z)))))) (ie ?_))))))))
  exact ⟨_,_,_,ob,⟨k+1,ZF n (us++m) x2,ob,(by rw [<-c0_1];exact (Zgm hx2 k3_0 hc5).symm),rfl,rfl,rfl⟩,(wk [0,0] (fq (fw (fc (x:=.i (k+1:Nat)) li fl))))⟩
 refine ax 0 (ar (ir 2 [(6,.i t)] (ie ?_)))
 exact Z5 (r2 [] [.i t] ⟨rfl,rfl⟩ (li (by rw [Vw,Z4 om,<-c0_1];exact (Zgj om).symm)))
end Go.Abs
