/-
  A part of the proof of FnBlockTypeUptoSaid (see the last file): no condition.
-/
import Derived.Test.YthllacimcjakdaaGreatBktD
set_option linter.all false
set_option linter.unusedVariables false
set_option linter.unusedSimpArgs false
set_option linter.unusedSectionVars false
set_option maxRecDepth 10000
set_option maxHeartbeats 4000000
namespace Go.Abs
open Go.Proofs
theorem LN (b:Nat) (ga:Hd) (gb:Hd) (gc:Hd) (gd:Hd) (ge:Hd) (gf:Hd) (n:Zx) (s:Z4) (L:ZG) (ln:List Int) (q:Int) (i:Nat) (kb0:Z6) (m:List Int) (hn:Xf n:=by exact ob) (hk:Xx n.decls L q:=by exact ob) (hf:Ar n L.vars s:=by exact ob) (hop:s.op=7∨s.op=8:=by exact ob) (hkb:s.kids[i]? = some kb0:=by exact ob) (harm:(X2 n.decls s.op s.num)[i]? = some m:=by exact ob) (hbt:0<=YR n (L.vars++m) kb0:=by exact ob) (hb:L.vars.length+4*s.sz<=1000000000:=by exact ob) (hq:0<=q/\q+4*s.sz<=999999990:=by exact ob) (hln:ln.length<=4294967296:=by exact ob) (ih:∀(b2:Z6) (c:Nat) (ra:Hd) (rb:Hd) (rc:Hd) (rd:Hd) (re:Hd) (rf:Hd) (M:ZG) (mm:Nat) (p:Int),(b2.sz<s.sz)->(Xx n.decls M p)->(0<=YR n M.vars b2)->(mm<=M.vars.length)->(M.vars.length+4*b2.sz<=1000000000)->(0<=p/\p+4*b2.sz<=999999990)->Zj Tryz.prog 270 [.p c 0,ZB n,Zq b2,.i mm] [.obj c [.h ra,.h rb,.h rc,.h rd,.h re,.h rf,Z0 ln],rV ra M.vars,rV rb M.own,rV rc M.par,rV rd M.con,rV re M.fst,rV rf M.tok] (fun r h=>(∃(wa:Hd) (wb:Hd) (wc:Hd) (wd:Hd) (we:Hd) (wf:Hd) (M':ZG),r=.b true/\h=[.obj c [.h wa,.h wb,.h wc,.h wd,.h we,.h wf,Z0 ln],rV wa M'.vars,rV wb M'.own,rV wc M'.par,rV wd M'.con,rV we M'.fst,rV wf M'.tok]/\VA n ln M mm b2=some M')∨(r=.b false/\h=[]/\VA n ln M mm b2=none))):Zj Tryz.prog 262 [.p b 0,ZB n,Y2 s,.i i] [.obj b [.h ga,.h gb,.h gc,.h gd,.h ge,.h gf,Z0 ln],rV ga L.vars,rV gb L.own,rV gc L.par,rV gd L.con,rV ge L.fst,rV gf L.tok] (fun r h=>(∃(c:Nat) (wa:Hd) (wb:Hd) (wc:Hd) (wd:Hd) (we:Hd) (wf:Hd) (L':ZG),r=.tup [.p c 0,.b true]/\h=[.obj c [.h wa,.h wb,.h wc,.h wd,.h we,.h wf,Z0 ln],rV wa L'.vars,rV wb L'.own,rV wc L'.par,rV wd L'.con,rV we L'.fst,rV wf L'.tok,.obj b [.h ga,.h gb,.h gc,.h gd,.h ge,.h gf,Z0 ln],rV ga L.vars,rV gb L.own,rV gc L.par,rV gd L.con,rV ge L.fst,rV gf L.tok]/\VA n ln (UU n.decls L s.op s.num s.args i) L.vars.length kb0=some L')∨(r=.tup [.any,.b false]/\h=[.obj b [.h ga,.h gb,.h gc,.h gd,.h ge,.h gf,Z0 ln],rV ga L.vars,rV gb L.own,rV gc L.par,rV gd L.con,rV ge L.fst,rV gf L.tok]/\VA n ln (UU n.decls L s.op s.num s.args i) L.vars.length kb0=none)):=by
 obtain ⟨e1,e2,e3,e4,e5⟩:=hk.len
 have Xu:=hn.decls
 have hkz:=Ta s
 have haz:=Q5 s
 have hK:=DY hk hq.1 hf hop harm
 have hm3:=HO Xu harm
 have hkl:=(XG.1 hkb).1
 have hks:=T9 hkb
 refine ZL 83 Tryz.func262 (ar (iA (ZP n) ?_))
 intro b1
 refine iA (Ye s) ?_
 intro b2
 refine ir 2 [(0,.p b 0),(3,.i i),(5,.p b1 0),(6,.p b2 0)] (ie (ar (Yl 4 18 (.h ga) [2] [b] (Zp (Jq 3 ga L.vars) (Z1 1 10 (.i L.vars.length) (ie (ar (Z1 1 20 (.p b 0) (ic [2,2,2,2,2,2,2] (Z1o b ga gb gc gd ge gf L ln (hlk:=hk.len)) ?_)))))))))
 rintro _ _ ⟨c1,wa1,wb1,wc1,wd1,we1,wf1,rfl,rfl⟩
 refine Z1 1 11 (.p c1 0) (ie (aq (ar (Yl 3 24 (.b (s.op==8)) [14] [b2] (ie (ac (s.op==8) Zh (fun Ze=>?_) (fun Ze=>?_)))))))
 ·obtain ⟨x,hxa⟩:=hf.one om
  have ha:s.args[0]? = some x:=by rw [hxa];rfl
  have hx:=hf.args x (by rw [hxa];simp)
  obtain ⟨cc,hcc,hmc⟩:=OF Ze harm
  have hal:=(XG.1 ha).1
  have hcl:=(XG.1 hcc).1
  have hm4:=hm3
  rw [hmc] at hm4
  refine ar (ZY 4 26 (Zd n.decls) 28 (.i s.num) [15,14] [b1,b2] (ic [] (KH n.decls s.num) ?_))
  rintro _ _ ⟨v1,rfl,rfl⟩
  refine Z1 1 30 (.i i) (Zp (Zn (some v1) (i:Int) 1 (Y3 hcc)) (Z1 2 12 (.i cc) (ie (ar (ZY 3 34 (Zd n.decls) 35 (.i cc) [16] [b1] (ZA [] (Qi n.decls cc) (Z1 1 13 (Z0 (Zw n.decls cc)) (ie (aD 11 (Y5 5 11 [0,1,2,3,4,5] (.n 40 (.h wd1) (.n 42 (Z0 s.args) .r)) [1,15] [c1,b2] (dx 6 (Zn none 0 1 (Y3 ha)) (ZZ 2 4 [7,8] (.n 44 (.i x) (.n 45 (.i cc) .r)) (dx 9 (Vx 5 wd1 L.con x x.toNat (hq:=rfl)) (Z9 10 (JO 10 5 [] [] wd1 L.con x.toNat cc (de (aD 11 (Y5 5 11 [0,1,2,3,4,5] (.n 50 (.h we1) (.n 52 (Z0 s.args) .r)) [2,15] [c1,b2] (dx 6 (Zn none 0 1 (Y3 ha)) (ZZ 2 4 [7,8] (.n 54 (.i x) (.n 55 (.i L.vars.length) .r)) (dx 9 (Vx 6 we1 L.fst x x.toNat (hq:=rfl)) (Z9 10 (JO 10 6 [] [] we1 L.fst x.toNat (L.vars.length:Int) (de (ar (Z1 1 14 (.i 0) (ie (ab 0 (al (fun m F h=>∃(k:Nat) (L3:ZG) (ka:Hd) (kb:Hd) (kc:Hd) (kd:Hd) (ke:Hd) (kf:Hd),(k<=(Zw n.decls cc).length)/\(U3 L3)/\(L3.vars.length=L.vars.length+k)/\(AI L3 x ((Zw n.decls cc).drop k)=KW n.decls L x cc)/\F=[(3,.i i),(5,.p b1 0),(6,.p b2 0),(10,.i L.vars.length),(11,.p c1 0),(13,Z0 (Zw n.decls cc)),(14,.i k)]/\h=[.obj c1 [.h ka,.h kb,.h kc,.h kd,.h ke,.h kf,Z0 ln],.obj b [.h ga,.h gb,.h gc,.h gd,.h ge,.h gf,Z0 ln],rV ga L.vars,rV gb L.own,rV gc L.par,rV gd L.con,rV ge L.fst,rV gf L.tok,.obj b2 (Ye s),.obj b1 (ZP n),rV ka L3.vars,rV kb L3.own,rV kc L3.par,rV kd L3.con,rV ke L3.fst,rV kf L3.tok]/\m=(Zw n.decls cc).length-k) _ _ _ ⟨0,(ZG.mk L.vars L.own L.par (L.con.set x.toNat cc) (L.fst.set x.toNat (L.vars.length:Int)) L.tok),wa1,wb1,wc1,wd1,we1,wf1,ob,(U3.arm hk.len),ob,(by rw [KW];rfl),rfl,rfl,rfl⟩ (wk [3,7,7,7,7,7,7,7,7,7,3,3,3,1,0,1] (fq (fw (Yf fl))) (e:=(rc (rc (rc (rc (rc (rc (rc (rc (rc (rc (rv (xs:=L.vars) ob (rv (xs:=L.own) ob (rv (xs:=L.par) ob (rv (xs:=(L.con.set x.toNat cc)) ob (rv (xs:=(L.fst.set x.toNat (L.vars.length:Int))) ob (rv (xs:=L.tok) ob rz)))))))))))))))))) ?_)))))))))))))))))))))))))))))
  rintro m F h ⟨k,L3,ka,kb,kc,kd,ke,kf,Ym,Zo,Zz,YJ,rfl,rfl,rfl⟩
  refine aq (ar (Yn 2 57 (.i k) 58 (Z0 (Zw n.decls cc)) (io (.i (((Zw n.decls cc).length:Nat):Int)) (.i (((Z8 (Zw n.decls cc)).length:Nat):Int)) (li (by rw [Yd])) (Z1 1 60 (.b (decide ((k:Int)<(((Zw n.decls cc).length:Nat):Int)))) (ie (ZQ ((k:Int)<(((Zw n.decls cc).length:Nat):Int)) (fun Zm=>?_) (fun Zm=>?_)))))))
  ·refine ak (aq (ab 1 (aE 10 (ZZ 7 10 [0,1,2] (.n 63 (.p c1 0) (.n 64 (Z0 (Zw n.decls cc)) (.n 65 (.i k) .r))) ?_))))
   obtain ⟨x1,Z3⟩:=Zt (xs:=Zw n.decls cc) (j:=k) om
   refine dx 3 (Zn none (k:Int) 1 (Y3 Z3)) (Y5 3 6 [4,5,6] (.n 67 (.i x1) (.n 69 (Z0 s.args) .r)) [8] [b2] (dx 7 (Zn none 0 1 (Y3 ha)) (ZX 1 2 [8] 71 (.i x) (Z9 9 (dc 9 [0,9,9,9,9,9,9] [] [] (Qc c1 ka kb kc kd ke kf L3 ln x1 0 x (hlk:=Zo)) ?_)))))
   rintro _ _ ⟨wa2,wb2,wc2,wd2,we2,wf2,rfl⟩
   refine de (az (Z5 1 (.n 61 (.i k) (.p .r)) (ZM k (Z5 1 (.n 14 (.i (k+1:Nat)) (.p (.d (.d (.p (.d (.d (.p (.d (.d (.d (.d (.p (.d (.d (.w (.k (.k .z)))))))))))))))))) (ie ?_)))))
   exact ZT ⟨k+1,(L3.grow x1 0 x),wa2,wb2,wc2,wd2,we2,wf2,ob,(U3.grow Zo),(by simp [ZG.grow];omega),(by rw [Yb Z3,AI] at YJ;exact YJ),rfl,rfl,rfl⟩ (wk [0,6,6,6,6,6,6,6,6,6,0,0,0,0,0,0] (fq (fw (ZW k fl))))
  have hE:UU n.decls L s.op s.num s.args i=L3:=by rw [Z17 Ze ha hcc,<-YJ,Xz om];rfl
  refine ax 0 (aD 12 (Y5 6 12 [0,1,2,3,4,5] (.n 73 (.p c1 0) (.n 74 (.p c1 0) (.n 75 (ZB n) (.n 77 (Yx s.kids) (.n 78 (.i i) .r))))) [9,8] [b1,b2] (dx 6 (Zn none (i:Int) 2 (Uz hkb)) (ZZ 3 5 [7,8] (.n 80 (Zq kb0) (.n 81 (.i L.vars.length) .r)) (Z9 9 (dc 9 [0,9,9,9,9,9,9] [] [] (ih kb0 c1 ka kb kc kd ke kf L3 L.vars.length q ob (by rw [<-hE];exact hK.1) (by rw [<-hE,hK.2];exact hbt) (by rw [<-hE,hK.2];simp) (by rw [<-hE,hK.2,Yu];omega) ob) ?_))))))
  rintro _ _ (⟨wa3,wb3,wc3,wd3,we3,wf3,M'1,rfl,rfl,ZO⟩|⟨rfl,rfl,Y0⟩)
  ·refine Xd 0 2 [10,11] [(8,.p c1 0),(9,.b true)] (de ?_)
   exact Zc (r2 [0,0,0,0,0,0,0,0,0,0,0,0,0,0] [.p c1 0,.b true] (.inl ⟨c1,wa3,wb3,wc3,wd3,we3,wf3,M'1,rfl,rfl,(by rw [hE];exact ZO)⟩) (lr _))
  refine Xd 0 2 [10,11] [(8,.p c1 0),(9,.b false)] (de ?_)
  exact Zc (r2 [0,0,0,0,0,0,0] [.p c1 0,.b false] (.inr ⟨rfl,rfl,(by rw [hE];exact Y0)⟩) (Zg.tup (.cons (Zg.any _) (.cons (lr _) .nil))))
 have hE:=Z18 (ds:=n.decls) (L:=L) (num:=s.num) (args:=s.args) (i:=i) Ze
 refine ak (aD 12 (Y5 6 12 [0,1,2,3,4,5] (.n 73 (.p c1 0) (.n 74 (.p c1 0) (.n 75 (ZB n) (.n 77 (Yx s.kids) (.n 78 (.i i) .r))))) [15,14] [b1,b2] (dx 6 (Zn none (i:Int) 2 (Uz hkb)) (ZZ 3 5 [7,8] (.n 80 (Zq kb0) (.n 81 (.i L.vars.length) .r)) (Z9 9 (dc 9 [0,0,0,0,0,0,0] [] [] (ih kb0 c1 wa1 wb1 wc1 wd1 we1 wf1 L L.vars.length q ob (by rw [<-hE];exact hK.1) (by rw [<-hE,hK.2];exact hbt) (by rw [<-hE,hK.2];simp) (by rw [<-hE,hK.2,Yu];omega) ob) ?_))))))
 rintro _ _ (⟨wa4,wb4,wc4,wd4,we4,wf4,M'2,rfl,rfl,Yz⟩|⟨rfl,rfl,YM⟩)
 ·refine Xd 0 2 [10,11] [(8,.p c1 0),(9,.b true)] (de ?_)
  exact Zc (r2 [0,0,0,0,0,0,0,0,0,0,0,0,0,0] [.p c1 0,.b true] (.inl ⟨c1,wa4,wb4,wc4,wd4,we4,wf4,M'2,rfl,rfl,(by rw [hE];exact Yz)⟩) (lr _))
 refine Xd 0 2 [10,11] [(8,.p c1 0),(9,.b false)] (de ?_)
 exact Zc (r2 [0,0,0,0,0,0,0] [.p c1 0,.b false] (.inr ⟨rfl,rfl,(by rw [hE];exact YM)⟩) (Zg.tup (.cons (Zg.any _) (.cons (lr _) .nil))))
theorem Z1n (b:Nat) (ga:Hd) (gb:Hd) (gc:Hd) (gd:Hd) (ge:Hd) (gf:Hd) (n:Zx) (s:Z4) (L:ZG) (ln:List Int) (q:Int) (hn:Xf n:=by exact ob) (hk:Xx n.decls L q:=by exact ob) (hf:Ar n L.vars s:=by exact ob) (hop:s.op=7∨s.op=8:=by exact ob) (hb:L.vars.length+4*s.sz<=1000000000:=by exact ob) (hq:0<=q/\q+4*s.sz<=999999990:=by exact ob) (hln:ln.length<=4294967296:=by exact ob) (ih:∀(b2:Z6) (c:Nat) (ra:Hd) (rb:Hd) (rc:Hd) (rd:Hd) (re:Hd) (rf:Hd) (M:ZG) (mm:Nat) (p:Int),(b2.sz<s.sz)->(Xx n.decls M p)->(0<=YR n M.vars b2)->(mm<=M.vars.length)->(M.vars.length+4*b2.sz<=1000000000)->(0<=p/\p+4*b2.sz<=999999990)->Zj Tryz.prog 270 [.p c 0,ZB n,Zq b2,.i mm] [.obj c [.h ra,.h rb,.h rc,.h rd,.h re,.h rf,Z0 ln],rV ra M.vars,rV rb M.own,rV rc M.par,rV rd M.con,rV re M.fst,rV rf M.tok] (fun r h=>(∃(wa:Hd) (wb:Hd) (wc:Hd) (wd:Hd) (we:Hd) (wf:Hd) (M':ZG),r=.b true/\h=[.obj c [.h wa,.h wb,.h wc,.h wd,.h we,.h wf,Z0 ln],rV wa M'.vars,rV wb M'.own,rV wc M'.par,rV wd M'.con,rV we M'.fst,rV wf M'.tok]/\VA n ln M mm b2=some M')∨(r=.b false/\h=[]/\VA n ln M mm b2=none))):Zj Tryz.prog 235 [.p b 0,ZB n,Y2 s] [.obj b [.h ga,.h gb,.h gc,.h gd,.h ge,.h gf,Z0 ln],rV ga L.vars,rV gb L.own,rV gc L.par,rV gd L.con,rV ge L.fst,rV gf L.tok] (fun r h=>(∃(wa:Hd) (wb:Hd) (wc:Hd) (wd:Hd) (we:Hd) (wf:Hd) (L':ZG),r=.b true/\h=[.obj b [.h wa,.h wb,.h wc,.h wd,.h we,.h wf,Z0 ln],rV wa L'.vars,rV wb L'.own,rV wc L'.par,rV wd L'.con,rV we L'.fst,rV wf L'.tok]/\Aw n ln L s=some L')∨(r=.b false/\h=[]/\Aw n ln L s=none)):=by
 obtain ⟨e1,e2,e3,e4,e5⟩:=hk.len
 have Xu:=hn.decls
 have hkz:=Ta s
 have haz:=Q5 s
 obtain ⟨hk1,hk2,hk3⟩:=hf.kids hop
 obtain ⟨kd,hkd⟩:=Zt (xs:=s.kids) (j:=0) om
 obtain ⟨m0,hm0⟩:=Zt (xs:=X2 n.decls s.op s.num) (j:=0) om
 obtain ⟨x,hxa⟩:=hf.one om
 have ha:s.args[0]? = some x:=by rw [hxa];rfl
 have hx:=hf.args x (by rw [hxa];simp)
 have hgx:=J8 ha
 have hal:=(XG.1 ha).1
 refine ZL 88 Tryz.func235 (ar (iA (ZP n) ?_))
 intro b1
 refine iA (Ye s) ?_
 intro b2
 refine ir 1 [(0,.p b 0),(4,.p b1 0),(5,.p b2 0)] (ie (aq (ar (Xm [(0,.p b 0),(4,.p b1 0),(5,.p b2 0),(23,.b ((s.op==8)&&(!Vz L ln x)))] [.obj b [.h ga,.h gb,.h gc,.h gd,.h ge,.h gf,Z0 ln],rV ga L.vars,rV gb L.own,rV gc L.par,rV gd L.con,rV ge L.fst,rV gf L.tok,.obj b2 (Ye s),.obj b1 (ZP n)] ?_ ?_))))
 ·refine iR 4 [(0,.p b 0),(4,.p b1 0),(5,.p b2 0),(15,.b (s.op==8))] [0] [b2] (ib (b:=(s.op==8)) 15 (fun Zb=>?_) (fun Zb=>?_))
  ·have ZO:s.op=8:=(Zh).1 Zb
   refine Y1 3 (.n 16 (.p b 0) (.n 18 (Z0 s.args) (.w .z))) [0] [b2] (Zp (Zn none 0 1 (Y3 ha)) (Z1 1 20 (.i x) (ZA [2,2,2,2,2,2,2] (E0 b ga gb gc gd ge gf L ln x (hlk:=hk.len) (hd:=hk.down)) (Z1 2 23 (.b (!Vz L ln x)) (ie ?_)))))
   exact ZJ 9 (fw (fr (Zr (!Vz L ln x) Zb fl)))
  have Y0:¬(s.op=8):=ZH Zh Zb
  refine Z5 8 (.n 23 (.b false) (.d (.k (.k (.k .z))))) (ie ?_)
  exact wk [2,2,2,2,2,2,2,0,0] (fw (fr (Zr false Zb fl)))
 refine ac ((s.op==8)&&(!Vz L ln x)) (p:=(s.op=8)/\(¬(Vz L ln x=true))) (YE Zh (Yo Iff.rfl)) (fun Ze=>?_) (fun Ze=>?_)
 ·refine ar (ir 1 [(6,.b false)] (ie ?_))
  exact Zc (r1 [] (.inr ⟨rfl,rfl,(by rw [Aw,Zk (by rw [hgx];exact Ze)])⟩))
 have hgo:=OY (n:=n) (ln:=ln) (L:=L) (s:=s) (by rw [hgx];exact Ze) hkd
 refine ak (ar (iR 3 [(0,.p b 0),(4,.p b1 0),(5,.p b2 0),(25,.p b 0),(26,ZB n),(27,Y2 s)] [8,7] [b1,b2] (ic [0,0,0,0,0,0,0] (LN b ga gb gc gd ge gf n s L ln q 0 kd m0 (hkb:=hkd) (harm:=hm0) (hbt:=(hk3 0 kd m0 hkd hm0)) (ih:=ob)) ?_)))
 rintro _ _ (⟨c1,wa1,wb1,wc1,wd1,we1,wf1,L'1,rfl,rfl,Yz⟩|⟨rfl,rfl,YM⟩)
 ·have hone:=Yz
  obtain ⟨l1,l2⟩:=LF hn hk hq.1 hf hop hkd hm0 (hk3 0 kd m0 hkd hm0) hone
  refine Yn 5 7 (.p c1 0) 8 (.b true) (ie (aq (ar (Z1 2 32 (.b false) (ie (WT (ak (aq (ar (Z1 1 9 (.i 1) (ie (ab 0 (al (fun m F h=>∃(k:Nat),(1<=k/\k<=s.kids.length)/\(K6 n ln L s.op s.num s.args L'1 (s.kids.drop k) k=K6 n ln L s.op s.num s.args L'1 (s.kids.drop 1) 1)/\F=[(0,.p b 0),(4,.p b1 0),(5,.p b2 0),(7,.p c1 0),(9,.i k)]/\h=[.obj c1 [.h wa1,.h wb1,.h wc1,.h wd1,.h we1,.h wf1,Z0 ln],rV wa1 L'1.vars,rV wb1 L'1.own,rV wc1 L'1.par,rV wd1 L'1.con,rV we1 L'1.fst,rV wf1 L'1.tok,.obj b [.h ga,.h gb,.h gc,.h gd,.h ge,.h gf,Z0 ln],rV ga L.vars,rV gb L.own,rV gc L.par,rV gd L.con,rV ge L.fst,rV gf L.tok,.obj b2 (Ye s),.obj b1 (ZP n)]/\m=s.kids.length-k) _ _ _ ⟨1,ob,ob,rfl,rfl,rfl⟩ (ZJ 16 (fq (fc (x:=.i 1) li fl))) ?_)))))))))))))
  rintro m F h ⟨k,Ym,Zo,rfl,rfl,rfl⟩
  refine aq (ar (ZY 3 33 (.i k) 35 (Yx s.kids) [14] [b2] (iw (VX s.kids) (Z1 1 37 (.b (decide ((k:Int)<(s.kids.length:Int)))) (ie (ZQ ((k:Int)<(s.kids.length:Int)) (fun Zm=>?_) (fun Zm=>?_)))))))
  ·obtain ⟨ke,hke⟩:=Zt (xs:=s.kids) (j:=k) om
   obtain ⟨mk,hmk⟩:=Zt (xs:=X2 n.decls s.op s.num) (j:=k) om
   have hcs:=Z1d (n:=n) (ln:=ln) (L:=L) (op:=s.op) (num:=s.num) (args:=s.args) (one:=L'1) hke
   refine ak (aq (ab 1 (ar (Y1 4 (.n 41 (.p b 0) (.n 42 (ZB n) (.n 43 (Y2 s) (.n 44 (.i k) .r)))) [15,14] [b1,b2] (ic [7,7,7,7,7,7,7] (LN b ga gb gc gd ge gf n s L ln q k ke mk (hkb:=hke) (harm:=hmk) (hbt:=(hk3 k ke mk hke hmk)) (ih:=ob)) ?_)))))
   rintro _ _ (⟨c2,wa2,wb2,wc2,wd2,we2,wf2,L'2,rfl,rfl,YX⟩|⟨rfl,rfl,Xw⟩)
   ·have htwo:=YX
    obtain ⟨l3,l4⟩:=LF hn hk hq.1 hf hop hke hmk (hk3 k ke mk hke hmk) htwo
    refine Yn 5 10 (.p c2 0) 11 (.b true) (ie (aD 26 (Y5 15 26 [0,1,2,3,4,5,6,7,8,9,10] (.n 50 (.b false) (.n 54 (.h wb1) (.n 58 (.h wb2) .r))) [14,0] [c1,c2] (Z9 11 (Kp 11 [16,2] [] [] [rV wb1 L'1.own,rV wb2 L'2.own] (Nm L'1.own L'2.own) Df (gL (v:=wb1) 0 (gL (v:=wb2) 1 gN)) (QH (QH Kx)) ?_)))))
    rintro _ _ ⟨rfl,rfl⟩
    refine Ay [(0,.p b 0),(4,.p b1 0),(5,.p b2 0),(7,.p c1 0),(9,.i k),(73,.b ((!(decide (L'1.own=L'2.own)))||(!(decide (L'1.tok=L'2.tok)))))] [rV wb1 L'1.own,rV wb2 L'2.own,.obj c2 [.h wa2,.h wb2,.h wc2,.h wd2,.h we2,.h wf2,Z0 ln],rV wa2 L'2.vars,rV wc2 L'2.par,rV wd2 L'2.con,rV we2 L'2.fst,rV wf2 L'2.tok,.obj b [.h ga,.h gb,.h gc,.h gd,.h ge,.h gf,Z0 ln],rV ga L.vars,rV gb L.own,rV gc L.par,rV gd L.con,rV ge L.fst,rV gf L.tok,.obj c1 [.h wa1,.h wb1,.h wc1,.h wd1,.h we1,.h wf1,Z0 ln],rV wa1 L'1.vars,rV wc1 L'1.par,rV wd1 L'1.con,rV we1 L'1.fst,rV wf1 L'1.tok,.obj b2 (Ye s),.obj b1 (ZP n)] ?_ ?_
    ·refine Xd 11 14 [12,13,14] [(0,.p b 0),(4,.p b1 0),(5,.p b2 0),(7,.p c1 0),(9,.i k),(10,.p c2 0),(62,.b (!(decide (L'1.own=L'2.own))))] (db (b:=(!(decide (L'1.own=L'2.own)))) 62 (fun Zv=>?_) (fun Zv=>?_))
     ·have Wh:¬(L'1.own=L'2.own):=((Yo dq)).1 Zv
      refine ZZ 0 11 [15,16,17,18,19,20,21,22,23,24,25] (.n 73 (.b true) (.d (.w (.k .z)))) (de ?_)
      exact ZJ 23 (fq (fr (Zr true Zv fl)))
     have WC:¬(¬(L'1.own=L'2.own)):=ZH (Yo dq) Zv
     refine Y5 3 11 [15,16,17,18,19,20,21,22] (.n 66 (.h wf1) (.n 70 (.h wf2) (.w (.k (.k .z))))) [15,2] [c1,c2] (Z9 23 (Kp 23 [20,7] [] [] [rV wf1 L'1.tok,rV wf2 L'2.tok] (Nm L'1.tok L'2.tok) Df (gL (v:=wf1) 0 (gL (v:=wf2) 1 gN)) (QH (QH Kx)) ?_))
     rintro _ _ ⟨rfl,rfl⟩
     refine ZX 0 2 [24,25] 73 (.b (!(decide (L'1.tok=L'2.tok)))) (de ?_)
     exact wk [2,2,2,2,2,2,2,1,1,1,1,1,1,1,1,1,1,1,1,1,0,0,0] (fq (fr (Zr (!(decide (L'1.tok=L'2.tok))) Zv fl)))
    refine ac ((!(decide (L'1.own=L'2.own)))||(!(decide (L'1.tok=L'2.tok)))) (p:=(¬(L'1.own=L'2.own))∨(¬(L'1.tok=L'2.tok))) (Yc (Yo dq) (Yo dq)) (fun ZI=>?_) (fun ZI=>?_)
    ·refine ar (ir 1 [(6,.b false)] (ie ?_))
     exact Zc (r1 [] (.inr ⟨rfl,rfl,(by rw [hgo,hone];exact LX (by rw [<-Zo,hcs,htwo];exact Z49 ZI))⟩))
    refine ak (az (ir 1 [(0,.p b 0),(4,.p b1 0),(5,.p b2 0),(7,.p c1 0),(38,.i k)] (ZM k (Z1 1 9 (.i (k+1:Nat)) (ie ?_)))))
    exact ZT ⟨k+1,ob,(by rw [hcs,htwo,Z4a ZI] at Zo;exact Zo),rfl,rfl,rfl⟩ (wk [15,15,0,14,14,14,14,7,7,7,7,7,7,7,7,7] (fq (ZW k fl)))
   have htwo:=Xw
   refine Z1 5 11 (.b false) (ie (aD 26 (ZX 0 26 [0,1,2,3,4,5,6,7,8,9,10,11,12,13,14,15,16,17,18,19,20,21,22,23,24,25] 73 (.b true) (de (WU (ar (ir 1 [(6,.b false)] (ie ?_))))))))
   exact Zc (r1 [] (.inr ⟨rfl,rfl,(by rw [hgo,hone];exact LX (by rw [<-Zo,hcs,htwo];rfl))⟩))
  have hE:K6 n ln L s.op s.num s.args L'1 (s.kids.drop 1) 1=true:=by rw [<-Zo,Xz om,K6]
  refine ax 0 (ar (ZY 7 78 (.h wb1) 80 (.p b 1) [0] [c1] (ZF 7 b [.h ga,.h wb1,.h gc,.h gd,.h ge,.h gf,Z0 ln] (ie (ar (iR 7 [(85,.h wf1),(87,.p b 5)] [1] [c1] (ZF 0 b [.h ga,.h wb1,.h gc,.h gd,.h ge,.h wf1,Z0 ln] (ie (ar (ir 1 [(6,.b true)] (ie ?_)))))))))))
  exact Zc (r1 [0,7,2,7,7,7,5] (.inl ⟨ga,wb1,gc,gd,ge,wf1,(ZG.mk L.vars L'1.own L.par L.con L.fst L'1.tok),rfl,rfl,(by rw [hgo,hone];exact Z22 hE)⟩) (eq:=(rc (rv (xs:=L.vars) ob (rv (xs:=L'1.own) ob (rv (xs:=L.par) ob (rv (xs:=L.con) ob (rv (xs:=L.fst) ob (rv (xs:=L'1.tok) ob rz)))))))))
 have hone:=YM
 refine Z1 5 8 (.b false) (ie (aq (ar (Z1 2 32 (.b true) (ie (WU (ar (ir 1 [(6,.b false)] (ie ?_)))))))))
 exact Zc (r1 [] (.inr ⟨rfl,rfl,(by rw [hgo,hone];rfl)⟩))
theorem LO (b:Nat) (ga:Hd) (gb:Hd) (gc:Hd) (gd:Hd) (ge:Hd) (gf:Hd) (n:Zx) (s:Z4) (L:ZG) (ln:List Int) (q:Int) (hn:Xf n:=by exact ob) (hk:Xx n.decls L q:=by exact ob) (ht:0<=ZK n L.vars s:=by exact ob) (hb:L.vars.length+4*s.sz<=1000000000:=by exact ob) (hq:0<=q/\q+4*s.sz<=999999990:=by exact ob) (hln:ln.length<=4294967296:=by exact ob) (ih:∀(b2:Z6) (c:Nat) (ra:Hd) (rb:Hd) (rc:Hd) (rd:Hd) (re:Hd) (rf:Hd) (M:ZG) (mm:Nat) (p:Int),(b2.sz<s.sz)->(Xx n.decls M p)->(0<=YR n M.vars b2)->(mm<=M.vars.length)->(M.vars.length+4*b2.sz<=1000000000)->(0<=p/\p+4*b2.sz<=999999990)->Zj Tryz.prog 270 [.p c 0,ZB n,Zq b2,.i mm] [.obj c [.h ra,.h rb,.h rc,.h rd,.h re,.h rf,Z0 ln],rV ra M.vars,rV rb M.own,rV rc M.par,rV rd M.con,rV re M.fst,rV rf M.tok] (fun r h=>(∃(wa:Hd) (wb:Hd) (wc:Hd) (wd:Hd) (we:Hd) (wf:Hd) (M':ZG),r=.b true/\h=[.obj c [.h wa,.h wb,.h wc,.h wd,.h we,.h wf,Z0 ln],rV wa M'.vars,rV wb M'.own,rV wc M'.par,rV wd M'.con,rV we M'.fst,rV wf M'.tok]/\VA n ln M mm b2=some M')∨(r=.b false/\h=[]/\VA n ln M mm b2=none))):Zj Tryz.prog 204 [.p b 0,ZB n,Y2 s] [.obj b [.h ga,.h gb,.h gc,.h gd,.h ge,.h gf,Z0 ln],rV ga L.vars,rV gb L.own,rV gc L.par,rV gd L.con,rV ge L.fst,rV gf L.tok] (fun r h=>(∃(wa:Hd) (wb:Hd) (wc:Hd) (wd:Hd) (we:Hd) (wf:Hd) (L':ZG),r=.b true/\h=[.obj b [.h wa,.h wb,.h wc,.h wd,.h we,.h wf,Z0 ln],rV wa L'.vars,rV wb L'.own,rV wc L'.par,rV wd L'.con,rV we L'.fst,rV wf L'.tok]/\TF n ln L s=some L')∨(r=.b false/\h=[]/\TF n ln L s=none)):=by
 obtain ⟨e1,e2,e3,e4,e5⟩:=hk.len
 have Xu:=hn.decls
 have hkz:=Ta s
 have haz:=Q5 s
 have hf:=ND ht
 refine ZL 89 Tryz.func204 (ar (iA (ZP n) ?_))
 intro b1
 refine iA (Ye s) ?_
 intro b2
 refine ir 1 [(0,.p b 0),(4,.p b1 0),(5,.p b2 0)] (ie (aD 8 (Y5 2 8 [0,1,2,3,4,5] (.n 9 (ZB n) (.n 13 (.h ga) (.n 14 (Y2 s) .r))) [1,2,0] [b1,b,b2] (Z9 6 (Kp 6 [3] [] [] [rV ga L.vars] (Hb n L.vars s ob ob) Df (gS (gL (v:=ga) 0 (gS gN))) (QH Kx) ?_)))))
 rintro _ _ ⟨rfl,rfl⟩
 refine ZX 0 1 [7] 7 (.i (ZK n L.vars s)) (de (ar (Z5 1 .r (ie (aq (ar (Yl 2 17 (.i s.op) [1] [b2] (ie (ab 0 (ar (Z1 2 22 (.b (s.op==14)) (ie (ac (s.op==14) Zh (fun Ze=>?_) (fun Ze=>?_))))))))))))))
 ·obtain ⟨x,hxa⟩:=hf.one om
  have ha:s.args[0]? = some x:=by rw [hxa];rfl
  have hx:=hf.args x (by rw [hxa];simp)
  have hgx:=J8 ha
  have hal:=(XG.1 ha).1
  obtain ⟨xo,hxo⟩:=Zt (xs:=L.own) (j:=x.toNat) om
  have hgo:=US hxo
  have hob:=hk.bd xo (Y6 hxo)
  have hon:=hk.nn xo (Y6 hxo)
  refine ar (ZY 3 24 (.p b 0) 26 (Z0 s.args) [1] [b2] (Zp (Zn none 0 1 (Y3 ha)) (Z1 1 28 (.i x) (ZA [3,0,2,2,2,2,2] (E0 b ga gb gc gd ge gf L ln x (hlk:=hk.len) (hd:=hk.down)) (Z1 1 8 (.b (Vz L ln x)) (ie (aE 21 (Y5 15 21 [0,1,2,3,4,5] (.n 33 (.h gb) (.n 35 (Z0 s.args) .r)) [0,7] [b,b2] (dx 6 (Zn none 0 1 (Y3 ha)) (Y5 7 14 [7,8,9,10,11,12,13] (.n 37 (.i x) (.n 41 (.h gb) (.n 43 (Z0 s.args) .r))) [0,7] [b,b2] (dx 14 (Zn none 0 1 (Y3 ha)) (ZX 5 6 [15] 45 (.i x) (dx 16 (Vx 2 gb L.own x x.toNat (hq:=rfl)) (VO 17 (Tu 2 gb L.own x.toNat xo hxo) (da 18 ((xo+1)) ((xo)+(1)) (dx 19 (Vx 2 gb L.own x x.toNat (hq:=rfl)) (Z9 20 (JO 20 2 [] [] gb L.own x.toNat (xo+1) (de (aq (ar (Z1 2 73 (.b (!Vz L ln x)) (ie (ac (!Vz L ln x) (p:=¬(Vz L ln x=true)) (Yo Iff.rfl) (fun Zm=>?_) (fun Zm=>?_)))))))))))))))))))))))))
  ·have hP:=(Ms (n:=n) (ln:=ln) (L:=L) Ze hgx).trans (PP Zm)
   refine ar (ir 1 [(6,.b false)] (ie ?_))
   exact Zc (r1 [] (.inr ⟨rfl,rfl,(by rw [Uw,hP];first|rfl|exact Uo (by assumption)|exact Up (by assumption) (by assumption)|exact Uq (by assumption))⟩))
  have hP:=(Ms (n:=n) (ln:=ln) (L:=L) Ze hgx).trans (PQ Zm hgo)
  obtain ⟨kx,hxv⟩:=CH hn hk hq.1 hf hP
  refine ak (aq (ar (Yl 2 75 (.i s.op) [7] [b2] (ZA [] (QP s.op) (Xm [(0,.p b 0),(5,.p b2 0),(7,.i (ZK n L.vars s)),(80,.b (Xb s.op&&((ZK n L.vars s) != 0)))] [rV gb (L.own.set x.toNat (xo+1)),.obj b [.h ga,.h gb,.h gc,.h gd,.h ge,.h gf,Z0 ln],rV ga L.vars,rV gc L.par,rV gd L.con,rV ge L.fst,rV gf L.tok,.obj b2 (Ye s),.obj b1 (ZP n)] ?_ ?_)))))
  ·refine ir 1 [(0,.p b 0),(5,.p b2 0),(7,.i (ZK n L.vars s)),(77,.b (Xb s.op))] (ib (b:=Xb s.op) 77 (fun Zb=>?_) (fun Zb=>?_))
   ·have ZO:Xb s.op=true:=(Iff.rfl).1 Zb
    refine Z5 3 (.n 80 (.b ((ZK n L.vars s) != 0)) (.d (.k (.k (.k .z))))) (ie ?_)
    exact ZJ 9 (fw (fr (Zr ((ZK n L.vars s) != 0) Zb fl)))
   have Y0:¬(Xb s.op=true):=ZH Iff.rfl Zb
   refine Z5 3 (.n 80 (.b false) (.d (.k (.k (.k .z))))) (ie ?_)
   exact ZJ 9 (fw (fr (Zr false Zb fl)))
  refine ac (Xb s.op&&((ZK n L.vars s) != 0)) (p:=(Xb s.op=true)/\((ZK n L.vars s)≠0)) (YE Iff.rfl Yg) (fun ZI=>?_) (fun ZI=>?_)
  ·refine az (ir 2 [(81,.p b 0),(82,.i (ZK n L.vars s))] (ic [1,1,0,0,0,0,0] (Qc b ga gb gc gd ge gf (ZG.mk L.vars (L.own.set x.toNat (xo+1)) L.par L.con L.fst L.tok) ln (ZK n L.vars s) 1 (-1) (hlb:=(by rw [hxv];omega)) (hlk:=kx.len)) ?_))
   rintro _ _ ⟨wa1,wb1,wc1,wd1,we1,wf1,rfl⟩
   refine ie (ar (ir 1 [(6,.b true)] (ie ?_)))
   exact Zc (r1 [0,0,0,0,0,0,0] (.inl ⟨wa1,wb1,wc1,wd1,we1,wf1,((ZG.mk L.vars (L.own.set x.toNat (xo+1)) L.par L.con L.fst L.tok).grow (ZK n L.vars s) 1 (-1)),rfl,rfl,(by rw [Uw,hP];first|rfl|exact Uo (by assumption)|exact Up (by assumption) (by assumption)|exact Uq (by assumption))⟩))
  refine ar (iR 2 [(0,.p b 0),(85,.i s.op)] [7] [b2] (ZA [] (QP s.op) (ie (ac (Xb s.op) Iff.rfl (fun Yh=>?_) (fun Yh=>?_)))))
  ·refine az (ir 1 [(87,.p b 0)] (ic [1,1,0,0,0,0,0] (Qc b ga gb gc gd ge gf (ZG.mk L.vars (L.own.set x.toNat (xo+1)) L.par L.con L.fst L.tok) ln 0 0 (-1) (hlb:=(by rw [hxv];omega)) (hlk:=kx.len)) ?_))
   rintro _ _ ⟨wa2,wb2,wc2,wd2,we2,wf2,rfl⟩
   refine ie (ar (ir 1 [(6,.b true)] (ie ?_)))
   exact Zc (r1 [0,0,0,0,0,0,0] (.inl ⟨wa2,wb2,wc2,wd2,we2,wf2,((ZG.mk L.vars (L.own.set x.toNat (xo+1)) L.par L.con L.fst L.tok).grow 0 0 (-1)),rfl,rfl,(by rw [Uw,hP];first|rfl|exact Uo (by assumption)|exact Up (by assumption) (by assumption)|exact Uq (by assumption))⟩))
  refine ak (ar (ir 1 [(6,.b true)] (ie ?_)))
  exact Zc (r1 [1,1,0,0,0,0,0] (.inl ⟨ga,gb,gc,gd,ge,gf,(ZG.mk L.vars (L.own.set x.toNat (xo+1)) L.par L.con L.fst L.tok),rfl,rfl,(by rw [Uw,hP];first|rfl|exact Uo (by assumption)|exact Up (by assumption) (by assumption)|exact Uq (by assumption))⟩) (eq:=(rc (rv (xs:=L.vars) ob (rv (xs:=(L.own.set x.toNat (xo+1))) ob (rv (xs:=L.par) ob (rv (xs:=L.con) ob (rv (xs:=L.fst) ob (rv (xs:=L.tok) ob rz)))))))))
 refine ar (Z1 2 50 (.b (s.op==15)) (ie (ac (s.op==15) Zh (fun Xk=>?_) (fun Xk=>?_))))
 ·obtain ⟨x,hxa⟩:=hf.one om
  have ha:s.args[0]? = some x:=by rw [hxa];rfl
  have hx:=hf.args x (by rw [hxa];simp)
  have hgx:=J8 ha
  have hal:=(XG.1 ha).1
  refine az (ZY 3 52 (.p b 0) 54 (Z0 s.args) [1] [b2] (Zp (Zn none 0 1 (Y3 ha)) (Z1 1 56 (.i x) (ic [3,0,2,2,2,2,2] (E1 b ga gb gc gd ge gf L ln x (hlk:=hk.len) (hq:=(fun y hy=>⟨hk.nn y hy,by have:=hk.bd y hy;omega⟩))) ?_))))
  rintro _ _ (⟨wa3,wb3,wc3,wd3,we3,wf3,L'1,rfl,rfl,Yz⟩|⟨rfl,rfl,YM⟩)
  ·have hP:=(Mt (n:=n) (ln:=ln) (L:=L) Xk hgx).trans (Yz)
   obtain ⟨kx,hxv⟩:=CH hn hk hq.1 hf hP
   refine Z1 1 8 (.b true) (ie (aq (ar (Z1 2 73 (.b false) (ie (WT (ak (aq (ar (Yl 2 75 (.i s.op) [7] [b2] (ZA [] (QP s.op) (Xm [(0,.p b 0),(5,.p b2 0),(7,.i (ZK n L.vars s)),(80,.b (Xb s.op&&((ZK n L.vars s) != 0)))] [.obj b [.h wa3,.h wb3,.h wc3,.h wd3,.h we3,.h wf3,Z0 ln],rV wa3 L'1.vars,rV wb3 L'1.own,rV wc3 L'1.par,rV wd3 L'1.con,rV we3 L'1.fst,rV wf3 L'1.tok,.obj b2 (Ye s),.obj b1 (ZP n)] ?_ ?_))))))))))))
   ·refine ir 1 [(0,.p b 0),(5,.p b2 0),(7,.i (ZK n L.vars s)),(77,.b (Xb s.op))] (ib (b:=Xb s.op) 77 (fun Zv=>?_) (fun Zv=>?_))
    ·have YX:Xb s.op=true:=(Iff.rfl).1 Zv
     refine Z5 3 (.n 80 (.b ((ZK n L.vars s) != 0)) (.d (.k (.k (.k .z))))) (ie ?_)
     exact ZJ 9 (fw (fr (Zr ((ZK n L.vars s) != 0) Zv fl)))
    have Xw:¬(Xb s.op=true):=ZH Iff.rfl Zv
    refine Z5 3 (.n 80 (.b false) (.d (.k (.k (.k .z))))) (ie ?_)
    exact ZJ 9 (fw (fr (Zr false Zv fl)))
   refine ac (Xb s.op&&((ZK n L.vars s) != 0)) (p:=(Xb s.op=true)/\((ZK n L.vars s)≠0)) (YE Iff.rfl Yg) (fun Xl=>?_) (fun Xl=>?_)
   ·refine az (ir 2 [(81,.p b 0),(82,.i (ZK n L.vars s))] (ic [0,0,0,0,0,0,0] (Qc b wa3 wb3 wc3 wd3 we3 wf3 L'1 ln (ZK n L.vars s) 1 (-1) (hlb:=(by rw [hxv];omega)) (hlk:=kx.len)) ?_))
    rintro _ _ ⟨wa4,wb4,wc4,wd4,we4,wf4,rfl⟩
    refine ie (ar (ir 1 [(6,.b true)] (ie ?_)))
    exact Zc (r1 [0,0,0,0,0,0,0] (.inl ⟨wa4,wb4,wc4,wd4,we4,wf4,(L'1.grow (ZK n L.vars s) 1 (-1)),rfl,rfl,(by rw [Uw,hP];first|rfl|exact Uo (by assumption)|exact Up (by assumption) (by assumption)|exact Uq (by assumption))⟩))
   refine ar (iR 2 [(0,.p b 0),(85,.i s.op)] [7] [b2] (ZA [] (QP s.op) (ie (ac (Xb s.op) Iff.rfl (fun Vs=>?_) (fun Vs=>?_)))))
   ·refine az (ir 1 [(87,.p b 0)] (ic [0,0,0,0,0,0,0] (Qc b wa3 wb3 wc3 wd3 we3 wf3 L'1 ln 0 0 (-1) (hlb:=(by rw [hxv];omega)) (hlk:=kx.len)) ?_))
    rintro _ _ ⟨wa5,wb5,wc5,wd5,we5,wf5,rfl⟩
    refine ie (ar (ir 1 [(6,.b true)] (ie ?_)))
    exact Zc (r1 [0,0,0,0,0,0,0] (.inl ⟨wa5,wb5,wc5,wd5,we5,wf5,(L'1.grow 0 0 (-1)),rfl,rfl,(by rw [Uw,hP];first|rfl|exact Uo (by assumption)|exact Up (by assumption) (by assumption)|exact Uq (by assumption))⟩))
   refine ak (ar (ir 1 [(6,.b true)] (ie ?_)))
   exact Zc (r1 [0,0,0,0,0,0,0] (.inl ⟨wa3,wb3,wc3,wd3,we3,wf3,L'1,rfl,rfl,(by rw [Uw,hP];first|rfl|exact Uo (by assumption)|exact Up (by assumption) (by assumption)|exact Uq (by assumption))⟩))
  have hP:=(Mt (n:=n) (ln:=ln) (L:=L) Xk hgx).trans (YM)
  refine Z1 1 8 (.b false) (ie (aq (ar (Z1 2 73 (.b true) (ie (WU (ar (ir 1 [(6,.b false)] (ie ?_)))))))))
  exact Zc (r1 [] (.inr ⟨rfl,rfl,(by rw [Uw,hP];first|rfl|exact Uo (by assumption)|exact Up (by assumption) (by assumption)|exact Uq (by assumption))⟩))
 refine aq (ar (Z1 2 58 (.b (s.op==16)) (ie (XK (fun F h=>F=[(0,.p b 0),(4,.p b1 0),(5,.p b2 0),(7,.i (ZK n L.vars s)),(17,.i s.op),(58,.b ((s.op==16)||(s.op==17)))]/\h=[rV ga L.vars,.obj b2 (Ye s),.obj b1 (ZP n),.obj b [.h ga,.h gb,.h gc,.h gd,.h ge,.h gf,Z0 ln],rV gb L.own,rV gc L.par,rV gd L.con,rV ge L.fst,rV gf L.tok]) ?_ ?_))))
 ·refine ac (s.op==16) Zh (fun Vl=>?_) (fun Vl=>?_)
  ·refine ak ?_
   exact ZU ⟨rfl,rfl⟩ (ZJ 9 (fq (fr (fc (x:=.b (s.op==16)) (lb (by first|rfl|(rw [Zk Vl])|(rw [Za Vl])|(simp [Vl];done)|(rw [Xo];simp [Vl];done)|omega)) fl))))
  refine az (ir 2 [(0,.p b 0),(4,.p b1 0),(5,.p b2 0),(7,.i (ZK n L.vars s)),(17,.i s.op),(58,.b (s.op==17))] (ie ?_))
  exact ZU ⟨rfl,rfl⟩ (ZJ 9 (fq (fr (fc (x:=.b (s.op==17)) (lb (by first|rfl|(rw [Zk Vl])|(rw [Za Vl])|(simp [Vl];done)|(rw [Xo];simp [Vl];done)|omega)) fl))))
 rintro F h ⟨rfl,rfl⟩
 refine ac ((s.op==16)||(s.op==17)) (p:=(s.op=16)∨(s.op=17)) (Yc Zh Zh) (fun VF=>?_) (fun VF=>?_)
 ·obtain ⟨x,hxa⟩:=hf.one om
  have ha:s.args[0]? = some x:=by rw [hxa];rfl
  have hx:=hf.args x (by rw [hxa];simp)
  have hgx:=J8 ha
  have hal:=(XG.1 ha).1
  refine az (iR 3 [(0,.p b 0),(5,.p b2 0),(7,.i (ZK n L.vars s)),(61,.p b 0),(62,ZB n),(63,Y2 s)] [2,1] [b1,b2] (ic [3,0,2,2,2,2,2] (Z1q b ga gb gc gd ge gf n s L ln q x) ?_))
  rintro _ _ (⟨wa6,wb6,wc6,wd6,we6,wf6,L'2,rfl,rfl,Wh⟩|⟨rfl,rfl,WC⟩)
  ·have hP:=(Mu (n:=n) (ln:=ln) (L:=L) VF hgx).trans (Wh)
   obtain ⟨kx,hxv⟩:=CH hn hk hq.1 hf hP
   refine Z1 1 8 (.b true) (ie (aq (ar (Z1 2 73 (.b false) (ie (WT (ak (aq (ar (Yl 2 75 (.i s.op) [7] [b2] (ZA [] (QP s.op) (Xm [(0,.p b 0),(5,.p b2 0),(7,.i (ZK n L.vars s)),(80,.b (Xb s.op&&((ZK n L.vars s) != 0)))] [.obj b [.h wa6,.h wb6,.h wc6,.h wd6,.h we6,.h wf6,Z0 ln],rV wa6 L'2.vars,rV wb6 L'2.own,rV wc6 L'2.par,rV wd6 L'2.con,rV we6 L'2.fst,rV wf6 L'2.tok,.obj b2 (Ye s),.obj b1 (ZP n)] ?_ ?_))))))))))))
   ·refine ir 1 [(0,.p b 0),(5,.p b2 0),(7,.i (ZK n L.vars s)),(77,.b (Xb s.op))] (ib (b:=Xb s.op) 77 (fun YC=>?_) (fun YC=>?_))
    ·have WP:Xb s.op=true:=(Iff.rfl).1 YC
     refine Z5 3 (.n 80 (.b ((ZK n L.vars s) != 0)) (.d (.k (.k (.k .z))))) (ie ?_)
     exact ZJ 9 (fw (fr (Zr ((ZK n L.vars s) != 0) YC fl)))
    have U9:¬(Xb s.op=true):=ZH Iff.rfl YC
    refine Z5 3 (.n 80 (.b false) (.d (.k (.k (.k .z))))) (ie ?_)
    exact ZJ 9 (fw (fr (Zr false YC fl)))
   refine ac (Xb s.op&&((ZK n L.vars s) != 0)) (p:=(Xb s.op=true)/\((ZK n L.vars s)≠0)) (YE Iff.rfl Yg) (fun UC=>?_) (fun UC=>?_)
   ·refine az (ir 2 [(81,.p b 0),(82,.i (ZK n L.vars s))] (ic [0,0,0,0,0,0,0] (Qc b wa6 wb6 wc6 wd6 we6 wf6 L'2 ln (ZK n L.vars s) 1 (-1) (hlb:=(by rw [hxv];omega)) (hlk:=kx.len)) ?_))
    rintro _ _ ⟨wa7,wb7,wc7,wd7,we7,wf7,rfl⟩
    refine ie (ar (ir 1 [(6,.b true)] (ie ?_)))
    exact Zc (r1 [0,0,0,0,0,0,0] (.inl ⟨wa7,wb7,wc7,wd7,we7,wf7,(L'2.grow (ZK n L.vars s) 1 (-1)),rfl,rfl,(by rw [Uw,hP];first|rfl|exact Uo (by assumption)|exact Up (by assumption) (by assumption)|exact Uq (by assumption))⟩))
   refine ar (iR 2 [(0,.p b 0),(85,.i s.op)] [7] [b2] (ZA [] (QP s.op) (ie (ac (Xb s.op) Iff.rfl (fun K4=>?_) (fun K4=>?_)))))
   ·refine az (ir 1 [(87,.p b 0)] (ic [0,0,0,0,0,0,0] (Qc b wa6 wb6 wc6 wd6 we6 wf6 L'2 ln 0 0 (-1) (hlb:=(by rw [hxv];omega)) (hlk:=kx.len)) ?_))
    rintro _ _ ⟨wa8,wb8,wc8,wd8,we8,wf8,rfl⟩
    refine ie (ar (ir 1 [(6,.b true)] (ie ?_)))
    exact Zc (r1 [0,0,0,0,0,0,0] (.inl ⟨wa8,wb8,wc8,wd8,we8,wf8,(L'2.grow 0 0 (-1)),rfl,rfl,(by rw [Uw,hP];first|rfl|exact Uo (by assumption)|exact Up (by assumption) (by assumption)|exact Uq (by assumption))⟩))
   refine ak (ar (ir 1 [(6,.b true)] (ie ?_)))
   exact Zc (r1 [0,0,0,0,0,0,0] (.inl ⟨wa6,wb6,wc6,wd6,we6,wf6,L'2,rfl,rfl,(by rw [Uw,hP];first|rfl|exact Uo (by assumption)|exact Up (by assumption) (by assumption)|exact Uq (by assumption))⟩))
  have hP:=(Mu (n:=n) (ln:=ln) (L:=L) VF hgx).trans (WC)
  refine Z1 1 8 (.b false) (ie (aq (ar (Z1 2 73 (.b true) (ie (WU (ar (ir 1 [(6,.b false)] (ie ?_)))))))))
  exact Zc (r1 [] (.inr ⟨rfl,rfl,(by rw [Uw,hP];first|rfl|exact Uo (by assumption)|exact Up (by assumption) (by assumption)|exact Uq (by assumption))⟩))
 refine aq (ar (ir 2 [(0,.p b 0),(4,.p b1 0),(5,.p b2 0),(7,.i (ZK n L.vars s)),(17,.i s.op),(65,.b (s.op==7))] (ie (XK (fun F h=>F=[(0,.p b 0),(4,.p b1 0),(5,.p b2 0),(7,.i (ZK n L.vars s)),(65,.b ((s.op==7)||(s.op==8)))]/\h=[rV ga L.vars,.obj b2 (Ye s),.obj b1 (ZP n),.obj b [.h ga,.h gb,.h gc,.h gd,.h ge,.h gf,Z0 ln],rV gb L.own,rV gc L.par,rV gd L.con,rV ge L.fst,rV gf L.tok]) ?_ ?_))))
 ·refine ac (s.op==7) Zh (fun T6=>?_) (fun T6=>?_)
  ·refine ak ?_
   exact ZU ⟨rfl,rfl⟩ (ZJ 9 (fq (fc (x:=.b (s.op==7)) (lb (by first|rfl|(rw [Zk T6])|(rw [Za T6])|(simp [T6];done)|(rw [Xo];simp [T6];done)|omega)) fl)))
  refine az (ir 2 [(0,.p b 0),(4,.p b1 0),(5,.p b2 0),(7,.i (ZK n L.vars s)),(65,.b (s.op==8))] (ie ?_))
  exact ZU ⟨rfl,rfl⟩ (ZJ 9 (fq (fc (x:=.b (s.op==8)) (lb (by first|rfl|(rw [Zk T6])|(rw [Za T6])|(simp [T6];done)|(rw [Xo];simp [T6];done)|omega)) fl)))
 rintro F h ⟨rfl,rfl⟩
 refine ac ((s.op==7)||(s.op==8)) (p:=(s.op=7)∨(s.op=8)) (Yc Zh Zh) (fun QB=>?_) (fun QB=>?_)
 ·refine az (iR 3 [(0,.p b 0),(5,.p b2 0),(7,.i (ZK n L.vars s)),(68,.p b 0),(69,ZB n),(70,Y2 s)] [2,1] [b1,b2] (ic [3,0,2,2,2,2,2] (Z1n b ga gb gc gd ge gf n s L ln q (ih:=ob)) ?_))
  rintro _ _ (⟨wa9,wb9,wc9,wd9,we9,wf9,L'3,rfl,rfl,UD⟩|⟨rfl,rfl,Ur⟩)
  ·have hP:=(Mv (n:=n) (ln:=ln) (L:=L) QB).trans (UD)
   obtain ⟨kx,hxv⟩:=CH hn hk hq.1 hf hP
   refine Z1 1 8 (.b true) (ie (aq (ar (Z1 2 73 (.b false) (ie (WT (ak (aq (ar (Yl 2 75 (.i s.op) [7] [b2] (ZA [] (QP s.op) (Xm [(0,.p b 0),(5,.p b2 0),(7,.i (ZK n L.vars s)),(80,.b (Xb s.op&&((ZK n L.vars s) != 0)))] [.obj b [.h wa9,.h wb9,.h wc9,.h wd9,.h we9,.h wf9,Z0 ln],rV wa9 L'3.vars,rV wb9 L'3.own,rV wc9 L'3.par,rV wd9 L'3.con,rV we9 L'3.fst,rV wf9 L'3.tok,.obj b2 (Ye s),.obj b1 (ZP n)] ?_ ?_))))))))))))
   ·refine ir 1 [(0,.p b 0),(5,.p b2 0),(7,.i (ZK n L.vars s)),(77,.b (Xb s.op))] (ib (b:=Xb s.op) 77 (fun Xh=>?_) (fun Xh=>?_))
    ·have Tq:Xb s.op=true:=(Iff.rfl).1 Xh
     refine Z5 3 (.n 80 (.b ((ZK n L.vars s) != 0)) (.d (.k (.k (.k .z))))) (ie ?_)
     exact ZJ 9 (fw (fr (Zr ((ZK n L.vars s) != 0) Xh fl)))
    have T7:¬(Xb s.op=true):=ZH Iff.rfl Xh
    refine Z5 3 (.n 80 (.b false) (.d (.k (.k (.k .z))))) (ie ?_)
    exact ZJ 9 (fw (fr (Zr false Xh fl)))
   refine ac (Xb s.op&&((ZK n L.vars s) != 0)) (p:=(Xb s.op=true)/\((ZK n L.vars s)≠0)) (YE Iff.rfl Yg) (fun AL=>?_) (fun AL=>?_)
   ·refine az (ir 2 [(81,.p b 0),(82,.i (ZK n L.vars s))] (ic [0,0,0,0,0,0,0] (Qc b wa9 wb9 wc9 wd9 we9 wf9 L'3 ln (ZK n L.vars s) 1 (-1) (hlb:=(by rw [hxv];omega)) (hlk:=kx.len)) ?_))
    rintro _ _ ⟨wa10,wb10,wc10,wd10,we10,wf10,rfl⟩
    refine ie (ar (ir 1 [(6,.b true)] (ie ?_)))
    exact Zc (r1 [0,0,0,0,0,0,0] (.inl ⟨wa10,wb10,wc10,wd10,we10,wf10,(L'3.grow (ZK n L.vars s) 1 (-1)),rfl,rfl,(by rw [Uw,hP];first|rfl|exact Uo (by assumption)|exact Up (by assumption) (by assumption)|exact Uq (by assumption))⟩))
   refine ar (iR 2 [(0,.p b 0),(85,.i s.op)] [7] [b2] (ZA [] (QP s.op) (ie (ac (Xb s.op) Iff.rfl (fun G6=>?_) (fun G6=>?_)))))
   ·refine az (ir 1 [(87,.p b 0)] (ic [0,0,0,0,0,0,0] (Qc b wa9 wb9 wc9 wd9 we9 wf9 L'3 ln 0 0 (-1) (hlb:=(by rw [hxv];omega)) (hlk:=kx.len)) ?_))
    rintro _ _ ⟨wa11,wb11,wc11,wd11,we11,wf11,rfl⟩
    refine ie (ar (ir 1 [(6,.b true)] (ie ?_)))
    exact Zc (r1 [0,0,0,0,0,0,0] (.inl ⟨wa11,wb11,wc11,wd11,we11,wf11,(L'3.grow 0 0 (-1)),rfl,rfl,(by rw [Uw,hP];first|rfl|exact Uo (by assumption)|exact Up (by assumption) (by assumption)|exact Uq (by assumption))⟩))
   refine ak (ar (ir 1 [(6,.b true)] (ie ?_)))
   exact Zc (r1 [0,0,0,0,0,0,0] (.inl ⟨wa9,wb9,wc9,wd9,we9,wf9,L'3,rfl,rfl,(by rw [Uw,hP];first|rfl|exact Uo (by assumption)|exact Up (by assumption) (by assumption)|exact Uq (by assumption))⟩))
  have hP:=(Mv (n:=n) (ln:=ln) (L:=L) QB).trans (Ur)
  refine Z1 1 8 (.b false) (ie (aq (ar (Z1 2 73 (.b true) (ie (WU (ar (ir 1 [(6,.b false)] (ie ?_)))))))))
  exact Zc (r1 [] (.inr ⟨rfl,rfl,(by rw [Uw,hP];first|rfl|exact Uo (by assumption)|exact Up (by assumption) (by assumption)|exact Uq (by assumption))⟩))
 refine az (iR 3 [(0,.p b 0),(5,.p b2 0),(7,.i (ZK n L.vars s)),(18,.p b 0),(19,ZB n),(20,Y2 s)] [2,1] [b1,b2] (ic [3,0,2,2,2,2,2] (Z1p b ga gb gc gd ge gf n s L ln q (hnum:=hf.num) (hargs:=hf.args) (hinto:=(fun q=>(hf.into om).2))) ?_))
 rintro _ _ (⟨wa12,wb12,wc12,wd12,we12,wf12,L'4,rfl,rfl,QC⟩|⟨rfl,rfl,QD⟩)
 ·have hP:=(Mw (n:=n) (ln:=ln) (L:=L) Ze Xk VF QB).trans (QC)
  obtain ⟨kx,hxv⟩:=CH hn hk hq.1 hf hP
  refine Z1 1 8 (.b true) (ie (aq (ar (Z1 2 73 (.b false) (ie (WT (ak (aq (ar (Yl 2 75 (.i s.op) [7] [b2] (ZA [] (QP s.op) (Xm [(0,.p b 0),(5,.p b2 0),(7,.i (ZK n L.vars s)),(80,.b (Xb s.op&&((ZK n L.vars s) != 0)))] [.obj b [.h wa12,.h wb12,.h wc12,.h wd12,.h we12,.h wf12,Z0 ln],rV wa12 L'4.vars,rV wb12 L'4.own,rV wc12 L'4.par,rV wd12 L'4.con,rV we12 L'4.fst,rV wf12 L'4.tok,.obj b2 (Ye s),.obj b1 (ZP n)] ?_ ?_))))))))))))
  ·refine ir 1 [(0,.p b 0),(5,.p b2 0),(7,.i (ZK n L.vars s)),(77,.b (Xb s.op))] (ib (b:=Xb s.op) 77 (fun W9=>?_) (fun W9=>?_))
   ·have Jf:Xb s.op=true:=(Iff.rfl).1 W9
    refine Z5 3 (.n 80 (.b ((ZK n L.vars s) != 0)) (.d (.k (.k (.k .z))))) (ie ?_)
    exact ZJ 9 (fw (fr (Zr ((ZK n L.vars s) != 0) W9 fl)))
   have QE:¬(Xb s.op=true):=ZH Iff.rfl W9
   refine Z5 3 (.n 80 (.b false) (.d (.k (.k (.k .z))))) (ie ?_)
   exact ZJ 9 (fw (fr (Zr false W9 fl)))
  refine ac (Xb s.op&&((ZK n L.vars s) != 0)) (p:=(Xb s.op=true)/\((ZK n L.vars s)≠0)) (YE Iff.rfl Yg) (fun G7=>?_) (fun G7=>?_)
  ·refine az (ir 2 [(81,.p b 0),(82,.i (ZK n L.vars s))] (ic [0,0,0,0,0,0,0] (Qc b wa12 wb12 wc12 wd12 we12 wf12 L'4 ln (ZK n L.vars s) 1 (-1) (hlb:=(by rw [hxv];omega)) (hlk:=kx.len)) ?_))
   rintro _ _ ⟨wa13,wb13,wc13,wd13,we13,wf13,rfl⟩
   refine ie (ar (ir 1 [(6,.b true)] (ie ?_)))
   exact Zc (r1 [0,0,0,0,0,0,0] (.inl ⟨wa13,wb13,wc13,wd13,we13,wf13,(L'4.grow (ZK n L.vars s) 1 (-1)),rfl,rfl,(by rw [Uw,hP];first|rfl|exact Uo (by assumption)|exact Up (by assumption) (by assumption)|exact Uq (by assumption))⟩))
  refine ar (iR 2 [(0,.p b 0),(85,.i s.op)] [7] [b2] (ZA [] (QP s.op) (ie (ac (Xb s.op) Iff.rfl (fun K5=>?_) (fun K5=>?_)))))
  ·refine az (ir 1 [(87,.p b 0)] (ic [0,0,0,0,0,0,0] (Qc b wa12 wb12 wc12 wd12 we12 wf12 L'4 ln 0 0 (-1) (hlb:=(by rw [hxv];omega)) (hlk:=kx.len)) ?_))
   rintro _ _ ⟨wa14,wb14,wc14,wd14,we14,wf14,rfl⟩
   refine ie (ar (ir 1 [(6,.b true)] (ie ?_)))
   exact Zc (r1 [0,0,0,0,0,0,0] (.inl ⟨wa14,wb14,wc14,wd14,we14,wf14,(L'4.grow 0 0 (-1)),rfl,rfl,(by rw [Uw,hP];first|rfl|exact Uo (by assumption)|exact Up (by assumption) (by assumption)|exact Uq (by assumption))⟩))
  refine ak (ar (ir 1 [(6,.b true)] (ie ?_)))
  exact Zc (r1 [0,0,0,0,0,0,0] (.inl ⟨wa12,wb12,wc12,wd12,we12,wf12,L'4,rfl,rfl,(by rw [Uw,hP];first|rfl|exact Uo (by assumption)|exact Up (by assumption) (by assumption)|exact Uq (by assumption))⟩))
 have hP:=(Mw (n:=n) (ln:=ln) (L:=L) Ze Xk VF QB).trans (QD)
 refine Z1 1 8 (.b false) (ie (aq (ar (Z1 2 73 (.b true) (ie (WU (ar (ir 1 [(6,.b false)] (ie ?_)))))))))
 exact Zc (r1 [] (.inr ⟨rfl,rfl,(by rw [Uw,hP];first|rfl|exact Uo (by assumption)|exact Up (by assumption) (by assumption)|exact Uq (by assumption))⟩))
theorem Z1l (c:Nat) (ga:Hd) (gb:Hd) (gc:Hd) (gd:Hd) (ge:Hd) (gf:Hd) (n:Zx) (b:Z6) (L:ZG) (ln:List Int) (q:Int) (mm:Nat) (hn:Xf n) (hk:Xx n.decls L q) (ht:0<=YR n L.vars b) (hm:mm<=L.vars.length) (hb:L.vars.length+4*b.sz<=1000000000) (hq:0<=q/\q+4*b.sz<=999999990) (hln:ln.length<=4294967296) (ih:∀(s2:Z4) (c:Nat) (ra:Hd) (rb:Hd) (rc:Hd) (rd:Hd) (re:Hd) (rf:Hd) (M:ZG) (p:Int),(s2.sz<b.sz)->(Xx n.decls M p)->(0<=ZK n M.vars s2)->(M.vars.length+4*s2.sz<=1000000000)->(0<=p/\p+4*s2.sz<=999999990)->Zj Tryz.prog 204 [.p c 0,ZB n,Y2 s2] [.obj c [.h ra,.h rb,.h rc,.h rd,.h re,.h rf,Z0 ln],rV ra M.vars,rV rb M.own,rV rc M.par,rV rd M.con,rV re M.fst,rV rf M.tok] (fun r h=>(∃(wa:Hd) (wb:Hd) (wc:Hd) (wd:Hd) (we:Hd) (wf:Hd) (M':ZG),r=.b true/\h=[.obj c [.h wa,.h wb,.h wc,.h wd,.h we,.h wf,Z0 ln],rV wa M'.vars,rV wb M'.own,rV wc M'.par,rV wd M'.con,rV we M'.fst,rV wf M'.tok]/\TF n ln M s2=some M')∨(r=.b false/\h=[]/\TF n ln M s2=none))):Zj Tryz.prog 270 [.p c 0,ZB n,Zq b,.i mm] [.obj c [.h ga,.h gb,.h gc,.h gd,.h ge,.h gf,Z0 ln],rV ga L.vars,rV gb L.own,rV gc L.par,rV gd L.con,rV ge L.fst,rV gf L.tok] (fun r h=>(∃(wa:Hd) (wb:Hd) (wc:Hd) (wd:Hd) (we:Hd) (wf:Hd) (L':ZG),r=.b true/\h=[.obj c [.h wa,.h wb,.h wc,.h wd,.h we,.h wf,Z0 ln],rV wa L'.vars,rV wb L'.own,rV wc L'.par,rV wd L'.con,rV we L'.fst,rV wf L'.tok]/\VA n ln L mm b=some L')∨(r=.b false/\h=[]/\VA n ln L mm b=none)):=by
 have hbz:=b.sz_eq
 obtain ⟨vs,rt,hvs,hres,hrt⟩:=I0 ht
 have hri:=JK hres
 have XA:=Vv b
 refine ZL 45 Tryz.func270 (ar (iA (ZP n) ?_))
 intro b1
 refine iA (Y9 b) ?_
 intro b2
 refine ir 1 [(0,.p c 0),(3,.i mm),(5,.p b1 0),(6,.p b2 0)] (ie (aq (ar (Z1 1 9 (.i 0) (ie (ab 0 (al (fun m F h=>∃(k:Nat) (q2:Int) (L2:ZG) (ka:Hd) (kb:Hd) (kc:Hd) (kd:Hd) (ke:Hd) (kf:Hd),(k<=b.steps.length)/\(Xx n.decls L2 q2)/\(0<=q2/\q2+4*Ys (b.steps.drop k)<=999999990)/\(L2.vars.length+4*Ys (b.steps.drop k)<=1000000000)/\(Wu n (b.steps.drop k) L2.vars=some vs)/\(Kc n ln L2 (b.steps.drop k)=Kc n ln L b.steps)/\(L.vars.length<=L2.vars.length)/\F=[(0,.p c 0),(3,.i mm),(5,.p b1 0),(6,.p b2 0),(9,.i k)]/\h=[.obj b2 (Y9 b),.obj b1 (ZP n),.obj c [.h ka,.h kb,.h kc,.h kd,.h ke,.h kf,Z0 ln],rV ka L2.vars,rV kb L2.own,rV kc L2.par,rV kd L2.con,rV ke L2.fst,rV kf L2.tok]/\m=b.steps.length-k) _ _ _ ⟨0,q,L,ga,gb,gc,gd,ge,gf,ob,hk,(by rw [Jt];omega),(by rw [Jt];omega),hvs,rfl,om,rfl,rfl,rfl⟩ (ZJ 9 (fq (Yf fl))) ?_)))))))
 rintro m F h ⟨k,q2,L2,ka,kb,kc,kd,ke,kf,Ym,Zo,Zz,YJ,Wf,KX,Z7q,rfl,rfl,rfl⟩
 refine aq (ar (ZY 3 10 (.i k) 12 (Yi b.steps) [0] [b2] (iw (VD b.steps) (Z1 1 14 (.b (decide ((k:Int)<(b.steps.length:Int)))) (ie (ZQ ((k:Int)<(b.steps.length:Int)) (fun Ze=>?_) (fun Ze=>?_)))))))
 ·obtain ⟨s1,hs1⟩:=Zt (xs:=b.steps) (j:=k) om
  have hss:=KJ hs1
  have hdr:=Yb hs1
  have hz:Ys (b.steps.drop k)=s1.sz+Ys (b.steps.drop (k+1)):=by rw [hdr,Ys]
  rw [hdr] at Wf KX
  obtain ⟨g1,g2⟩:=NH Wf
  refine ak (aq (ab 1 (aD 9 (Y5 4 9 [0,1,2,3,4] (.n 17 (.p c 0) (.n 18 (ZB n) (.n 20 (Yi b.steps) (.n 21 (.i k) .r)))) [1,0] [b1,b2] (dx 5 (Zn none (k:Int) 5 (Wy hs1)) (ZX 2 3 [6] 23 (Y2 s1) (Z9 7 (dc 7 [2,2,2,2,2,2,2] [] [] (ih s1 c ka kb kc kd ke kf L2 q2 ob Zo g1 om om) ?_))))))))
  rintro _ _ (⟨wa1,wb1,wc1,wd1,we1,wf1,M'1,rfl,rfl,ZO⟩|⟨rfl,rfl,Y0⟩)
  ·have hP:=ZO
   have kx:=NC hn Zo Zz.1 g1 hP
   refine ZX 0 1 [8] 25 (.b false) (de (WT (ak (az (Z1 1 15 (.i k) (ZM k (ir 1 [(0,.p c 0),(3,.i mm),(5,.p b1 0),(6,.p b2 0),(9,.i (k+1:Nat))] (ie ?_))))))))
   exact ZT ⟨k+1,(q2+4*s1.sz),M'1,wa1,wb1,wc1,wd1,we1,wf1,ob,kx.1,om,(by rw [kx.2];have:=MZ n L2.vars s1;omega),(by rw [kx.2];exact g2),(by rw [<-KX,Kc,hP];rfl),(by rw [kx.2];have:=MZ n L2.vars s1;omega),rfl,rfl,rfl⟩ (wk [7,7,0,0,0,0,0,0,0] (fq (ZW k fl)))
  have hP:=Y0
  refine ZX 0 1 [8] 25 (.b true) (de (WU (ar (ir 1 [(8,.b false)] (ie ?_)))))
  exact Zc (r1 [] (.inr ⟨rfl,rfl,(by rw [F6,<-KX,Kc,hP];rfl)⟩))
 rw [Xz om] at Wf KX
 have hvv:L2.vars=vs:=by rw [Wu] at Wf;exact Jy Wf
 have hB:VA n ln L mm b=Kt mm b.result L2:=by rw [F6,<-KX,Kc];rfl
 obtain ⟨xr,hxr⟩:=Zt (xs:=L2.vars) (j:=b.result.toNat) (by rw [hvv];omega)
 have hgr:=US hxr
 have hrl:0<=b.result/\b.result<L2.vars.length:=by rw [hvv];omega
 rw [Wu] at Wf
 refine ax 0 (aq (aD 16 (Y5 10 16 [0,1,2,3,4,5] (.n 29 (.h ka) (.n 31 (.i b.result) .r)) [2,0] [c,b2] (dx 6 (Vx 3 ka L2.vars b.result b.result.toNat (hq:=rfl)) (VO 7 (Tu 3 ka L2.vars b.result.toNat xr hxr) (ZX 6 8 [8,9] 35 (.b (xr != 0)) (db (b:=(xr != 0)) 35 (fun Zb=>?_) (fun Zb=>?_))))))))
 ·have Yz:xr≠0:=(Yg).1 Zb
  refine Y5 3 6 [10,11,12] (.n 36 (.p c 0) (.n 38 (.i b.result) (.k (.d .r)))) [0] [b2] (Z9 13 (dc 13 [2,2,2,2,2,2,2] [] [] (E1 c ka kb kc kd ke kf L2 ln b.result (hlk:=Zo.len) (hq:=(fun y hy=>⟨Zo.nn y hy,by have:=Zo.bd y hy;omega⟩))) ?_))
  rintro _ _ (⟨wa2,wb2,wc2,wd2,we2,wf2,L'1,rfl,rfl,YM⟩|⟨rfl,rfl,YX⟩)
  ·have hE:=hB.trans (Rc hgr (by assumption) YM)
   have kx:=Zo.take YM
   have hxv:L'1.vars.length=L2.vars.length:=by rw [(Kd YM).2.1]
   refine ZX 0 2 [14,15] 41 (.b false) (de (WT (ak (ar (ir 2 [(42,.p c 0),(43,.i mm)] (ic [0,0,0,0,0,0,0] (LM c wa2 wb2 wc2 wd2 we2 wf2 L'1 ln mm (hlk:=(by first|exact kx.len|exact Zo.len)) (hlb:=om) (hm:=om)) ?_))))))
   rintro _ _ (⟨wa3,wb3,wc3,wd3,we3,wf3,L'2,rfl,rfl,Xw⟩|⟨rfl,rfl,Wh⟩)
   ·refine ir 1 [(8,.b true)] (ie ?_)
    exact Zc (r1 [0,0,0,0,0,0,0] (.inl ⟨wa3,wb3,wc3,wd3,we3,wf3,L'2,rfl,rfl,(by first|exact hE|(rw [hE];exact Xw)|(rw [hB,C8 hgr (by assumption)];exact Xw))⟩))
   refine ir 1 [(8,.b false)] (ie ?_)
   exact Zc (r1 [] (.inr ⟨rfl,rfl,(by first|exact hE|(rw [hE];exact Wh)|(rw [hB,C8 hgr (by assumption)];exact Wh))⟩))
  have hE:=hB.trans (Rb hgr (by assumption) YX)
  refine ZX 0 2 [14,15] 41 (.b true) (de (WU (ar (ir 1 [(8,.b false)] (ie ?_)))))
  exact Zc (r1 [] (.inr ⟨rfl,rfl,(by first|exact hE|(rw [hE];exact YX)|(rw [hB,C8 hgr (by assumption)];exact YX))⟩))
 have WC:¬(xr≠0):=ZH Yg Zb
 refine ZZ 0 6 [10,11,12,13,14,15] (.n 41 (.b false) (.k (.d .r))) (de (WT (ak (ar (ir 2 [(42,.p c 0),(43,.i mm)] (ic [2,2,2,2,2,2,2] (LM c ka kb kc kd ke kf L2 ln mm (hlk:=(by first|exact kx.len|exact Zo.len)) (hlb:=om) (hm:=om)) ?_))))))
 rintro _ _ (⟨wa4,wb4,wc4,wd4,we4,wf4,L'3,rfl,rfl,WP⟩|⟨rfl,rfl,U9⟩)
 ·refine ir 1 [(8,.b true)] (ie ?_)
  exact Zc (r1 [0,0,0,0,0,0,0] (.inl ⟨wa4,wb4,wc4,wd4,we4,wf4,L'3,rfl,rfl,(by first|exact hE|(rw [hE];exact WP)|(rw [hB,C8 hgr (by assumption)];exact WP))⟩))
 refine ir 1 [(8,.b false)] (ie ?_)
 exact Zc (r1 [] (.inr ⟨rfl,rfl,(by first|exact hE|(rw [hE];exact U9)|(rw [hB,C8 hgr (by assumption)];exact U9))⟩))
theorem Z1m (n:Zx) (ln:List Int) (hn:Xf n) (hln:ln.length<=4294967296) (m:Nat):∀(b2:Z6) (c:Nat) (ra:Hd) (rb:Hd) (rc:Hd) (rd:Hd) (re:Hd) (rf:Hd) (M:ZG) (mm:Nat) (p:Int),(b2.sz<m+1)->(Xx n.decls M p)->(0<=YR n M.vars b2)->(mm<=M.vars.length)->(M.vars.length+4*b2.sz<=1000000000)->(0<=p/\p+4*b2.sz<=999999990)->Zj Tryz.prog 270 [.p c 0,ZB n,Zq b2,.i mm] [.obj c [.h ra,.h rb,.h rc,.h rd,.h re,.h rf,Z0 ln],rV ra M.vars,rV rb M.own,rV rc M.par,rV rd M.con,rV re M.fst,rV rf M.tok] (fun r h=>(∃(wa:Hd) (wb:Hd) (wc:Hd) (wd:Hd) (we:Hd) (wf:Hd) (M':ZG),r=.b true/\h=[.obj c [.h wa,.h wb,.h wc,.h wd,.h we,.h wf,Z0 ln],rV wa M'.vars,rV wb M'.own,rV wc M'.par,rV wd M'.con,rV we M'.fst,rV wf M'.tok]/\VA n ln M mm b2=some M')∨(r=.b false/\h=[]/\VA n ln M mm b2=none)):=by
 induction m with
 | zero=>intro b c ga gb gc gd ge gf L mm q h;have:=b.sz_pos;omega
 | succ m ih=>
  intro b c ga gb gc gd ge gf L mm q h1 hk ht hm hb hp
  exact Z1l c ga gb gc gd ge gf n b L ln q mm hn hk ht hm hb hp hln fun s c ga gb gc gd ge gf L q h2 hk ht hb hp=>LO c ga gb gc gd ge gf n s L ln q hn hk ht hb hp hln
   fun b2 c ga gb gc gd ge gf L mm q h3 hk ht hm hb hp=>ih b2 c ga gb gc gd ge gf L mm q om hk ht hm hb hp
theorem Z1s (n:Zx) (ln:List Int) (hn:Xf n) (hln:ln.length<=4294967296) (m:Nat):∀(s2:Z4) (c:Nat) (ra:Hd) (rb:Hd) (rc:Hd) (rd:Hd) (re:Hd) (rf:Hd) (M:ZG) (p:Int),(s2.sz<m+1)->(Xx n.decls M p)->(0<=ZK n M.vars s2)->(M.vars.length+4*s2.sz<=1000000000)->(0<=p/\p+4*s2.sz<=999999990)->Zj Tryz.prog 204 [.p c 0,ZB n,Y2 s2] [.obj c [.h ra,.h rb,.h rc,.h rd,.h re,.h rf,Z0 ln],rV ra M.vars,rV rb M.own,rV rc M.par,rV rd M.con,rV re M.fst,rV rf M.tok] (fun r h=>(∃(wa:Hd) (wb:Hd) (wc:Hd) (wd:Hd) (we:Hd) (wf:Hd) (M':ZG),r=.b true/\h=[.obj c [.h wa,.h wb,.h wc,.h wd,.h we,.h wf,Z0 ln],rV wa M'.vars,rV wb M'.own,rV wc M'.par,rV wd M'.con,rV we M'.fst,rV wf M'.tok]/\TF n ln M s2=some M')∨(r=.b false/\h=[]/\TF n ln M s2=none)):=by
 intro s c ga gb gc gd ge gf L q h2 hk ht hb hp
 exact LO c ga gb gc gd ge gf n s L ln q hn hk ht hb hp hln fun b2 c ga gb gc gd ge gf L mm q h3 hk ht hm hb hp=>Z1m n ln hn hln m b2 c ga gb gc gd ge gf L mm q om hk ht hm hb hp
theorem Z1r (c:Nat) (ra:Hd) (rb:Hd) (rc:Hd) (rd:Hd) (re:Hd) (rf:Hd) (n:Zx) (s2:Z4) (M:ZG) (ln:List Int) (p:Int) (hn:Xf n) (hln:ln.length<=4294967296) (hk:Xx n.decls M p) (ht:0<=ZK n M.vars s2) (hb:M.vars.length+4*s2.sz<=1000000000) (hp:0<=p/\p+4*s2.sz<=999999990):Zj Tryz.prog 204 [.p c 0,ZB n,Y2 s2] [.obj c [.h ra,.h rb,.h rc,.h rd,.h re,.h rf,Z0 ln],rV ra M.vars,rV rb M.own,rV rc M.par,rV rd M.con,rV re M.fst,rV rf M.tok] (fun r h=>(∃(wa:Hd) (wb:Hd) (wc:Hd) (wd:Hd) (we:Hd) (wf:Hd) (M':ZG),r=.b true/\h=[.obj c [.h wa,.h wb,.h wc,.h wd,.h we,.h wf,Z0 ln],rV wa M'.vars,rV wb M'.own,rV wc M'.par,rV wd M'.con,rV we M'.fst,rV wf M'.tok]/\TF n ln M s2=some M')∨(r=.b false/\h=[]/\TF n ln M s2=none)):=Z1s n ln hn hln s2.sz s2 c ra rb rc rd re rf M p om hk ht hb hp
theorem Z58 (rt:Yj) (hp:rt.params.length<=1000000:=by exact ob) (hl:rt.lent.length<=4294967296:=by exact ob):Zj Tryz.prog 203 [Vd rt] [] (fun r h=>∃(c:Nat) (wa:Hd) (wb:Hd) (wc:Hd) (wd:Hd) (we:Hd) (wf:Hd),r=.p c 0/\h=[.obj c [.h wa,.h wb,.h wc,.h wd,.h we,.h wf,Z0 rt.lent],rV wa ((QK rt).vars),rV wb ((QK rt).own),rV wc ((QK rt).par),rV wd ((QK rt).con),rV we ((QK rt).fst),rV wf ((QK rt).tok)]):=by
 refine ZL 45 Tryz.func203 (ar (iA (UG rt) ?_))
 intro b1
 refine ir 1 [(1,.p b1 0)] (ie (ar (Yl 2 6 (Z0 rt.lent) [0] [b1] (ic [] (VH rt.lent) ?_))))
 rintro _ _ ⟨v1,rfl,rfl⟩
 refine Z1 1 8 (.agg [nl,nl,nl,nl,nl,nl,Z0 rt.lent]) (iA [nl,nl,nl,nl,nl,nl,Z0 rt.lent] ?_)
 intro b2
 refine XM (Z6q 0 b2 [nl,nl,nl,nl,nl,nl,Z0 rt.lent] [.h hN,.h hN,.h hN,.h hN,.h hN,.h hN,Z0 rt.lent] (.cons (Zg.hd (v:=hN)) (.cons (Zg.hd (v:=hN)) (.cons (Zg.hd (v:=hN)) (.cons (Zg.hd (v:=hN)) (.cons (Zg.hd (v:=hN)) (.cons (Zg.hd (v:=hN)) (.cons (lr _) .nil)))))))) (XM (B0) (XM (B0) (XM (B0) (XM (B0) (XM (B0) (XM (B0) (Z1 1 3 (.p b2 0) (ie (aq (ar (Z1 1 4 (.i 0) (ie (ab 0 (al (fun m F h=>∃(k:Nat) (L2:ZG) (ka:Hd) (kb:Hd) (kc:Hd) (kd:Hd) (ke:Hd) (kf:Hd),(k<=rt.params.length)/\(U3 L2)/\(L2.vars.length=k)/\(Jn rt.lent (rt.params.drop k) k L2=QK rt)/\F=[(1,.p b1 0),(3,.p b2 0),(4,.i k)]/\h=[.obj b2 [.h ka,.h kb,.h kc,.h kd,.h ke,.h kf,Z0 rt.lent],.obj b1 (UG rt),rV ka L2.vars,rV kb L2.own,rV kc L2.par,rV kd L2.con,rV ke L2.fst,rV kf L2.tok]/\m=rt.params.length-k) _ _ _ ⟨0,(ZG.mk [] [] [] [] [] []),hN,hN,hN,hN,hN,hN,ob,⟨rfl,rfl,rfl,rfl,rfl⟩,rfl,rfl,rfl,rfl,rfl⟩ (wk [6,7,0,0,0,0,0,0] (fw (Yf fl)) (e:=(rc (rc (rv (xs:=[]) ob (rv (xs:=[]) ob (rv (xs:=[]) ob (rv (xs:=[]) ob (rv (xs:=[]) ob (rv (xs:=[]) ob rz)))))))))) ?_))))))))))))))
 rintro m F h ⟨k,L2,ka,kb,kc,kd,ke,kf,Ym,Zo,Zz,YJ,rfl,rfl,rfl⟩
 refine aq (ar (ZY 3 10 (.i k) 12 (Z0 rt.params) [1] [b1] (iw (Yd rt.params) (Z1 1 14 (.b (decide ((k:Int)<(rt.params.length:Int)))) (ie (ZQ ((k:Int)<(rt.params.length:Int)) (fun Ze=>?_) (fun Ze=>?_)))))))
 ·refine ak (aq (ab 1 (ar (ZY 3 18 (Z0 rt.params) 19 (.i k) [1] [b1] ?_))))
  obtain ⟨x1,Z3⟩:=Zt (xs:=rt.params) (j:=k) om
  refine Zp (Zn none (k:Int) 1 (Y3 Z3)) (Xm [(1,.p b1 0),(3,.p b2 0),(4,.i k),(29,.b ((x1 != 0)&&(!(decide ((k:Int)∈rt.lent)))))] [.obj b2 [.h ka,.h kb,.h kc,.h kd,.h ke,.h kf,Z0 rt.lent],.obj b1 (UG rt),rV ka L2.vars,rV kb L2.own,rV kc L2.par,rV kd L2.con,rV ke L2.fst,rV kf L2.tok] ?_ ?_)
  ·refine ir 3 [(1,.p b1 0),(3,.p b2 0),(4,.i k),(23,.b (x1 != 0))] (ib (b:=(x1 != 0)) 23 (fun Zb=>?_) (fun Zb=>?_))
   ·have ZO:x1≠0:=(Yg).1 Zb
    refine Y1 3 (.n 25 (Z0 rt.lent) (.n 26 (.i k) (.w .z))) [1] [b1] (ZA [] (U0 rt.lent (k:Int)) (Z1 2 29 (.b (!(decide ((k:Int)∈rt.lent)))) (ie ?_)))
    exact ZJ 8 (fw (fr (Zr (!(decide ((k:Int)∈rt.lent))) Zb fl)))
   have Y0:¬(x1≠0):=ZH Yg Zb
   refine Z5 6 (.n 29 (.b false) (.d (.k (.k (.k .z))))) (ie ?_)
   exact ZJ 8 (fw (fr (Zr false Zb fl)))
  refine ac ((x1 != 0)&&(!(decide ((k:Int)∈rt.lent)))) (p:=(x1≠0)/\(¬((k:Int)∈rt.lent))) (YE Yg (Yo dq)) (fun Zm=>?_) (fun Zm=>?_)
  ·refine az (iR 4 [(1,.p b1 0),(3,.p b2 0),(4,.i k),(30,.p b2 0),(32,Z0 rt.params),(33,.i k)] [1] [b1] (Zp (Zn none (k:Int) 1 (Y3 Z3)) (Z1 1 35 (.i x1) (ic [0,1,1,1,1,1,1] (Qc b2 ka kb kc kd ke kf L2 rt.lent x1 1 (-1) (hlk:=Zo)) ?_))))
   rintro _ _ ⟨wa1,wb1,wc1,wd1,we1,wf1,rfl⟩
   refine ie (az (Z5 1 (.n 15 (.i k) (.p .r)) (ZM k (ir 1 [(1,.p b1 0),(3,.p b2 0),(4,.i (k+1:Nat))] (ie ?_)))))
   exact ZT ⟨k+1,(L2.grow x1 1 (-1)),wa1,wb1,wc1,wd1,we1,wf1,ob,(U3.grow Zo),(by simp [ZG.grow];omega),(by rw [Yb Z3,Jn] at YJ;first|(rw [Zk Zm] at YJ;exact YJ)|(rw [Za Zm] at YJ;exact YJ)),rfl,rfl,rfl⟩ (wk [0,6,0,0,0,0,0,0] (fw (ZW k fl)))
  refine az (iR 4 [(1,.p b1 0),(3,.p b2 0),(4,.i k),(37,.p b2 0),(39,Z0 rt.params),(40,.i k)] [1] [b1] (Zp (Zn none (k:Int) 1 (Y3 Z3)) (Z1 1 42 (.i x1) (ic [0,1,1,1,1,1,1] (Qc b2 ka kb kc kd ke kf L2 rt.lent x1 0 (-1) (hlk:=Zo)) ?_))))
  rintro _ _ ⟨wa2,wb2,wc2,wd2,we2,wf2,rfl⟩
  refine ie (az (Z5 1 (.n 15 (.i k) (.p .r)) (ZM k (ir 1 [(1,.p b1 0),(3,.p b2 0),(4,.i (k+1:Nat))] (ie ?_)))))
  exact ZT ⟨k+1,(L2.grow x1 0 (-1)),wa2,wb2,wc2,wd2,we2,wf2,ob,(U3.grow Zo),(by simp [ZG.grow];omega),(by rw [Yb Z3,Jn] at YJ;first|(rw [Zk Zm] at YJ;exact YJ)|(rw [Za Zm] at YJ;exact YJ)),rfl,rfl,rfl⟩ (wk [0,6,0,0,0,0,0,0] (fw (ZW k fl)))
 refine ax 0 (ar (ir 2 [(2,.p b2 0)] (ie ?_)))
 have hNl:L2=QK rt:=by rw [<-YJ,Xz om];rfl
 exact Zc (r1 [0,1,1,1,1,1,1] ⟨b2,ka,kb,kc,kd,ke,kf,rfl,rfl⟩ (eq:=(rc (rv (xs:=L2.vars) (by rw [hNl]) (rv (xs:=L2.own) (by rw [hNl]) (rv (xs:=L2.par) (by rw [hNl]) (rv (xs:=L2.con) (by rw [hNl]) (rv (xs:=L2.fst) (by rw [hNl]) (rv (xs:=L2.tok) (by rw [hNl]) rz)))))))))
theorem S9 (n:Zx) (f0:Nat) (k0:Nat) (rt:Yj) (hz:Qt n:=by exact ob) (hr:n.routines[f0]? = some rt:=by exact ob) (hk0:k0<=rt.body.steps.length:=by exact ob):Zj Tryz.prog 161 [ZB n,.i f0,.i k0] [] (fun r h=>(∃(c:Nat) (wa:Hd) (wb:Hd) (wc:Hd) (wd:Hd) (we:Hd) (wf:Hd) (L:ZG) (q:Int),r=.tup [.p c 0,.b true]/\h=[.obj c [.h wa,.h wb,.h wc,.h wd,.h we,.h wf,Z0 rt.lent],rV wa L.vars,rV wb L.own,rV wc L.par,rV wd L.con,rV we L.fst,rV wf L.tok]/\Xx n.decls L q/\L.vars.length=rt.params.length+YN (rt.body.steps.take k0)/\L.vars.length<=500000000/\rt.lent.length<=4194304)∨(r=.tup [.any,.b false]/\h=[]/\True)):=by
 have hzl:=hz.len
 have hfl:=(XG.1 hr).1
 have hrm:=Y6 hr
 have hbz:=hz.body _ hrm
 have ZD:=Vv rt.body
 have hbe:=rt.body.sz_eq
 obtain ⟨hk,hkv⟩:=Z25 n.decls rt
 refine ZL 64 Tryz.func161 (ar (iA (ZP n) ?_))
 intro b1
 refine ir 2 [(1,.i f0),(2,.i k0),(3,.p b1 0)] (ie (aq (ar (Yl 1 10 (ZB n) [0] [b1] (ZA [] (Z5r n) (XS 12 [(1,.i f0),(2,.i k0),(3,.p b1 0),(21,.b ((!UL n)||(!(decide (0<=(f0:Int)/\(f0:Int)<=((n.routines.length:Int)-1))))))] [.obj b1 (ZP n)] ?_ (fun hj1=>?_)))))))
 ·refine Xm [(1,.i f0),(2,.i k0),(3,.p b1 0),(34,.b (((!UL n)||(!(decide (0<=(f0:Int)/\(f0:Int)<=((n.routines.length:Int)-1)))))||(!(decide (0<=(k0:Int)/\(k0:Int)<=(rt.body.steps.length:Int))))))] [.obj b1 (ZP n)] ?_ ?_
  ·refine ir 1 [(1,.i f0),(2,.i k0),(3,.p b1 0),(22,.b ((!UL n)||(!(decide (0<=(f0:Int)/\(f0:Int)<=((n.routines.length:Int)-1))))))] (ib (b:=((!UL n)||(!(decide (0<=(f0:Int)/\(f0:Int)<=((n.routines.length:Int)-1)))))) 22 (fun Zb=>?_) (fun Zb=>?_))
   ·have ZO:(¬(UL n=true))∨(¬(0<=(f0:Int)/\(f0:Int)<=((n.routines.length:Int)-1))):=((Yc (Yo Iff.rfl) (Yo dq))).1 Zb
    refine Z5 12 (.n 34 (.b true) (.d (.k (.k (.k .z))))) (ie ?_)
    exact wk [0] (fw (fr (Zr true Zb fl)))
   have Y0:¬((¬(UL n=true))∨(¬(0<=(f0:Int)/\(f0:Int)<=((n.routines.length:Int)-1)))):=ZH (Yc (Yo Iff.rfl) (Yo dq)) Zb
   refine Y1 4 (.n 23 (.i k0) (.n 25 (X6 n.routines) (.n 26 (.i f0) (.w .z)))) [0] [b1] (Zp (Zn none (f0:Int) 5 (WH hr)) (Z1 3 30 (Yi rt.body.steps) (iw (VD rt.body.steps) (ZA [] (Uv (k0:Int) 0 (rt.body.steps.length:Int)) (Z1 2 34 (.b (!(decide (0<=(k0:Int)/\(k0:Int)<=(rt.body.steps.length:Int))))) (ie ?_))))))
   exact wk [0] (fw (fr (Zr (!(decide (0<=(k0:Int)/\(k0:Int)<=(rt.body.steps.length:Int)))) Zb fl)))
  refine ac (((!UL n)||(!(decide (0<=(f0:Int)/\(f0:Int)<=((n.routines.length:Int)-1)))))||(!(decide (0<=(k0:Int)/\(k0:Int)<=(rt.body.steps.length:Int))))) (p:=((¬(UL n=true))∨(¬(0<=(f0:Int)/\(f0:Int)<=((n.routines.length:Int)-1))))∨(¬(0<=(k0:Int)/\(k0:Int)<=(rt.body.steps.length:Int)))) (Yc (Yc (Yo Iff.rfl) (Yo dq)) (Yo dq)) (fun Ze=>?_) (fun Ze=>?_)
  ·refine ar (ir 1 [(35,.agg [.sl [] none,.sl [] none,.sl [] none,.sl [] none,.sl [] none,.sl [] none,.sl [] none])] (iA [.sl [] none,.sl [] none,.sl [] none,.sl [] none,.sl [] none,.sl [] none,.sl [] none] ?_))
   intro b2
   refine ir 2 [(6,.p b2 0),(7,.b false)] (ie ?_)
   exact Zc (r2 [] [.p b2 0,.b false] (.inr ⟨rfl,rfl,(by first|exact True.intro|exact ⟨Zo,by rw [show k0=j by omega];exact KX,by omega,hll⟩)⟩) (Zg.tup (.cons (Zg.any _) (.cons (lr _) .nil))))
  have hV:UL n=true:=B3 fun z=>Ze (.inl (.inl z))
  obtain ⟨hok,hall⟩:=Z75 hz hV
  have hty:=hall rt hrm
  obtain ⟨vs,t0,hvs,hres,hrt0⟩:=I0 hty
  have hpl:=hok.params_at hr
  have hll:=hok.lent_at hr
  refine ak (ar (iR 3 [(1,.i f0),(2,.i k0),(3,.p b1 0),(38,X6 n.routines),(39,.i f0)] [0] [b1] (Zp (Zn none (f0:Int) 5 (WH hr)) (Z1 1 41 (Vd rt) (ic [] (Z58 rt) ?_)))))
  rintro _ _ ⟨c1,wa1,wb1,wc1,wd1,we1,wf1,rfl,rfl⟩
  refine Z1 1 8 (.p c1 0) (ie (aq (ar (Z1 1 9 (.i 0) (ie (ab 0 (al (fun m F h=>∃(j:Nat) (q2:Int) (L2:ZG) (ka:Hd) (kb:Hd) (kc:Hd) (kd:Hd) (ke:Hd) (kf:Hd),(j<=k0)/\(Xx n.decls L2 q2)/\(0<=q2/\q2+4*Ys (rt.body.steps.drop j)<=999999990)/\(L2.vars.length+4*Ys (rt.body.steps.drop j)<=400000000)/\(Wu n (rt.body.steps.drop j) L2.vars=some vs)/\(L2.vars.length=rt.params.length+YN (rt.body.steps.take j))/\F=[(1,.i f0),(2,.i k0),(3,.p b1 0),(8,.p c1 0),(9,.i j)]/\h=[.obj c1 [.h ka,.h kb,.h kc,.h kd,.h ke,.h kf,Z0 rt.lent],.obj b1 (ZP n),rV ka L2.vars,rV kb L2.own,rV kc L2.par,rV kd L2.con,rV ke L2.fst,rV kf L2.tok]/\m=k0-j) _ _ _ ⟨0,1,(QK rt),wa1,wb1,wc1,wd1,we1,wf1,ob,hk,(by rw [Jt];omega),(by rw [Jt,hkv];omega),(by rw [Jt,hkv];exact hvs),(by rw [hkv];rfl),rfl,rfl,rfl⟩ (wk [0,6,0,0,0,0,0,0] (fq (Yf fl))) ?_)))))))
  rintro m F h ⟨j,q2,L2,ka,kb,kc,kd,ke,kf,Ym,Zo,Zz,YJ,Wf,KX,rfl,rfl,rfl⟩
  refine aq (ar (Z1 3 45 (.b (decide ((j:Int)<(k0:Int)))) (ie (ZQ ((j:Int)<(k0:Int)) (fun Zm=>?_) (fun Zm=>?_)))))
  ·obtain ⟨s1,hs1⟩:=Zt (xs:=rt.body.steps) (j:=j) om
   have hss:=KJ hs1
   have hsp:=s1.sz_pos
   have hzd:=Nu hs1
   have hdt:=In hs1
   have hdr:=Yb hs1
   rw [hdr] at Wf
   obtain ⟨g1,g2⟩:=NH Wf
   refine ak (aq (ab 1 (aD 14 (Y5 9 14 [0,1,2,3,4] (.n 48 (.p c1 0) (.n 49 (ZB n) (.n 51 (X6 n.routines) (.n 52 (.i f0) .r)))) [1,1] [b1,b1] (dx 5 (Zn none (f0:Int) 5 (WH hr)) (ZZ 4 8 [6,7,8,9] (.n 56 (Yi rt.body.steps) (.n 57 (.i j) .r)) (dx 10 (Zn none (j:Int) 5 (Wy hs1)) (ZX 2 3 [11] 59 (Y2 s1) (Z9 12 (dc 12 [0,1,1,1,1,1,1] [] [] (Z1r c1 ka kb kc kd ke kf n s1 L2 rt.lent q2 hok ob Zo g1 om om) ?_))))))))))
   rintro _ _ (⟨wa2,wb2,wc2,wd2,we2,wf2,M'1,rfl,rfl,Yz⟩|⟨rfl,rfl,YM⟩)
   ·have hP:=Yz
    have kx:=NC hok Zo Zz.1 g1 hP
    have hsf:=Z4h g1
    refine ZX 0 1 [13] 61 (.b false) (de (WT (ak (az (Z1 1 46 (.i j) (ZM j (ir 1 [(1,.i f0),(2,.i k0),(3,.p b1 0),(8,.p c1 0),(9,.i (j+1:Nat))] (ie ?_))))))))
    exact ZT ⟨j+1,(q2+4*s1.sz),M'1,wa2,wb2,wc2,wd2,we2,wf2,ob,kx.1,om,(by rw [kx.2,hsf];split<;>omega),(by rw [kx.2];exact g2),(by rw [kx.2,hsf,hdt];split<;>omega),rfl,rfl,rfl⟩ (wk [0,6,0,0,0,0,0,0] (fq (ZW j fl)))
   refine ZX 0 1 [13] 61 (.b true) (de (WU (ar (ir 3 [(6,.p c1 0),(7,.b false)] (ie ?_)))))
   exact Zc (r2 [] [.p c1 0,.b false] (.inr ⟨rfl,rfl,(by first|exact True.intro|exact ⟨Zo,by rw [show k0=j by omega];exact KX,by omega,hll⟩)⟩) (Zg.tup (.cons (Zg.any _) (.cons (lr _) .nil))))
  refine ax 0 (ar (ir 3 [(6,.p c1 0),(7,.b true)] (ie ?_)))
  exact Zc (r2 [0,1,1,1,1,1,1] [.p c1 0,.b true] (.inl ⟨c1,ka,kb,kc,kd,ke,kf,L2,_,rfl,rfl,(by first|exact True.intro|exact ⟨Zo,by rw [show k0=j by omega];exact KX,by omega,hll⟩)⟩) (lr _))
 refine ir 2 [(1,.i f0),(2,.i k0),(3,.p b1 0),(13,.b (!UL n))] (ib (b:=(!UL n)) 13 (fun Zv=>?_) (fun Zv=>?_))
 ·have YX:¬(UL n=true):=((Yo Iff.rfl)).1 Zv
  refine Z5 8 (.n 21 (.b true) (.d (.k (.k (.k .z))))) ?_
  exact YG (wk [0] (fw (fr (Zr true Zv fl)))) hj1
 have Xw:¬(¬(UL n=true)):=ZH (Yo Iff.rfl) Zv
 refine Y1 3 (.n 14 (.i f0) (.n 16 (X6 n.routines) (.w .z))) [0] [b1] (iw (Un n.routines) (ia (((n.routines.length:Int)-1)) (((n.routines.length:Int))-(1)) (ZA [] (Uv (f0:Int) 0 ((n.routines.length:Int)-1)) (Z1 2 21 (.b (!(decide (0<=(f0:Int)/\(f0:Int)<=((n.routines.length:Int)-1))))) ?_))))
 exact YG (wk [0] (fw (fr (Zr (!(decide (0<=(f0:Int)/\(f0:Int)<=((n.routines.length:Int)-1)))) Zv fl)))) hj1
theorem DI (b:Z6) (i0:Nat) (s:Z4) (hi:i0<=b.steps.length:=by exact ob) (hz:b.sz<=100000000:=by exact ob):Zj Tryz.prog 87 [Zq b,.i i0,Y2 s] [] (fun r h=>r=Zq (Z6.mk (Wb b.steps i0 s) b.result)/\h=[]):=by
 have ZD:=Vv b
 refine ZL 26 Tryz.func87 (ar (iA (Y9 b) ?_))
 intro b1
 refine iA (Ye s) ?_
 intro b2
 refine iA [nl,.i 0] ?_
 intro b3
 refine ie (ar (iL (Zs []) 0 5 ?_))
 intro v1
 refine iR 3 [(1,.i i0),(3,.p b1 0),(5,.p b2 0),(6,.p b3 0),(8,ZV [] v1),(10,Yi b.steps),(11,.i i0)] [3] [b1] (Zp (Kb (es:=Zs b.steps) (hv:=none) (l:=0) (m:=(i0:Int)) (sz:=5) (es':=Zs (b.steps.take i0)) kr om (by simp<;>omega) (by simp<;>omega) (X9 _) (by first|(simp only [VJ,Vj,J4,J3];done)|(simp only [VJ,Vj,J4,J3];rfl)|(simp [J4,J3];done))) (ip 0 (Zs (b.steps.take i0)) (Zs []) (Zs (b.steps.take i0)) v1 none 5 (X9 _) (X9 _) (Vq _) (by simp<;>omega) (by simp [V8]) ?_))
 intro v2
 refine Z1 1 7 (ZV (b.steps.take i0) v2) (ie (aD 13 (Y5 8 13 [0,1,4,5,6] (.n 14 (ZV (b.steps.take i0) v2) (.n 15 (Y2 s) (.n 19 (Yi b.steps) (.n 20 (.i i0) .r)))) [2,3] [b2,b1] (dx 7 (Kb (es:=Zs b.steps) (hv:=none) (l:=(i0:Int)) (m:=(((Zs b.steps).length:Nat):Int)) (sz:=5) (es':=Zs (b.steps.drop i0)) kr om (by simp<;>omega) (by simp<;>omega) (X9 _) (by first|(simp only [VJ,Vj,J4,J3];done)|(simp only [VJ,Vj,J4,J3];rfl)|(simp [J4,J3];done))) (Y5 5 7 [9,10] (.n 24 (.i b.result) .r) [3] [b1] (Z9 2 (dL 2 [2,2] [b1,b1] [Y2 s] 1 5 ?_)))))))
 intro v3
 refine ZZ 4 4 [] (.n 16 (.sl [Y2 s] none) (.p .r)) (Z9 3 (dp 3 1 [2,2] [b1,b1] (Zs ((b.steps.take i0)++[s])) (Zs (b.steps.take i0)) [Y2 s] v2 none 5 (X9 _) (TC rfl) rfl (by simp<;>omega) (by simp [Wx,V8]) ?_))
 intro v4
 refine Z9 8 (dp 8 0 [2] [b1] (Zs (Wb b.steps i0 s)) (Zs ((b.steps.take i0)++[s])) (Zs (b.steps.drop i0)) v4 none 5 (X9 _) (X9 _) (Vq _) (by simp<;>omega) (by simp only [Wb,Wx]) ?_)
 intro v5
 refine ZX 1 2 [11] 25 (.agg [ZV (Wb b.steps i0 s) v5,.i b.result]) (Z9 12 (YF 12 2 [] [] b3 [ZV (Wb b.steps i0 s) v5,.i b.result] (de ?_)))
 exact Zc (r3 [] [.agg [ZV (Wb b.steps i0 s) v5,.i b.result]] [0] [(b3,b3)] ⟨rfl,rfl⟩ (Zg.agg (.cons (Zg.sl _ (Yv Zs rfl)) (.cons li .nil))))
theorem G0 (n:Zx) (f0:Nat) (b:Z6) (rt:Yj) (hr:n.routines[f0]? = some rt:=by exact ob) (hl:n.routines.length<=1000000:=by exact ob) (hp:rt.params.length<=4294967296:=by exact ob) (hl2:rt.lent.length<=4294967296:=by exact ob):Zj Tryz.prog 100 [ZB n,.i f0,Zq b] [] (fun r h=>∃(g:Nat) (c:Nat),r=.agg [Zd n.decls,.ms g 0 n.routines.length c]/\h=[.row (.slice (some ⟨g,0,none⟩) n.routines.length c) 5 (Zl (YL (n.routines.set f0 (Yj.mk rt.params rt.lent rt.result b))))]):=by
 have hfl:=(XG.1 hr).1
 refine ZL 26 Tryz.func100 (ar (iA (ZP n) ?_))
 intro b1
 refine iA (Y9 b) ?_
 intro b2
 refine iA [nl,nl] ?_
 intro b3
 refine ie (ar (DP 5 ?_))
 intro g1
 refine iR 2 [(1,.i f0),(3,.p b1 0),(5,.p b2 0),(6,.p b3 0),(8,.ms g1 0 0 0),(10,X6 n.routines)] [3] [b1] (SV 0 g1 5 (YL n.routines) none (U8 _) (by simp<;>omega) ?_)
 intro v1
 refine DN 0 n.routines.length (v:=v1) (Dz _) om (fun g2 c1 he1=>?_)
 subst he1
 refine ir 1 [(1,.i f0),(3,.p b1 0),(5,.p b2 0),(6,.p b3 0),(7,.ms g2 0 n.routines.length c1)] (ie (aD 11 (Y5 6 11 [0,1,2,3,4] (.n 12 (.ms g2 0 n.routines.length c1) (.n 13 (.i f0) (.n 15 (X6 n.routines) (.n 16 (.i f0) .r)))) [3] [b1] (dx 5 (Zn none (f0:Int) 5 (WH hr)) (Y5 3 5 [6,7] (.n 18 (Vd rt) (.n 19 (Zq b) .r)) [2] [b2] (Z9 8 (Yt 8 [] [] [] (BP rt b) (dx 9 (W4 g2 n.routines.length c1 f0 5 (f0:Int)) (Z9 10 (Ax 10 0 [] [] g2 n.routines.length c1 5 (f0*5) (UG (Yj.mk rt.params rt.lent rt.result b)) (Zl (YL n.routines)) (Zl (YL (n.routines.set f0 (Yj.mk rt.params rt.lent rt.result b)))) (by rw [Dz];simp only [YQ,Xp];omega) (Ro (Yj.mk rt.params rt.lent rt.result b) hfl) (de (ar (Yl 4 25 (.agg [Zd n.decls,.ms g2 0 n.routines.length c1]) [3] [b1] (ZF 1 b3 [Zd n.decls,.ms g2 0 n.routines.length c1] (ie ?_)))))))))))))))
 exact Zc (r3 [1] [.agg [Zd n.decls,.ms g2 0 n.routines.length c1]] [0] [(b3,b3)] ⟨g2,c1,rfl,rfl⟩ (lr _))
theorem Lc (n:Zx) (f0:Nat) (b:Z6) (rt:Yj) (hr:n.routines[f0]? = some rt:=by exact ob) (hl:n.routines.length<=1000000:=by exact ob) (hp:rt.params.length<=4294967296:=by exact ob) (hl2:rt.lent.length<=4294967296:=by exact ob):Zj Tryz.prog 100 [ZB n,.i f0,Zq b] [] (fun r h=>r=ZB (withR n f0 rt b)/\h=[]):=(Zj.frzN (ds:=n.decls) (rs:=(n.routines.set f0 (Yj.mk rt.params rt.lent rt.result b))) (hs:=[]) ((G0 n f0 b rt hr hl hp hl2).mono fun r h ⟨g,c,e1,e2⟩=>⟨g,c,by rw [e1];simp only [UM],by rw [e2];simp only [UM]⟩))
theorem K1 (rd:Nat) (bs:List Int) (p:Nat) (mx:Nat) (ZD:∀z∈bs,0<=z/\z<=255) (hp:p+1<=1000000000:=by exact ob) (hmx:0<mx:=by exact ob):Zj Tryz.prog 50 [.p rd 0,.i mx] [Yk rd bs p] (fun r h=>∃(kn:Nat),r=.i kn/\h=[.obj rd [X8 bs,.i (p+1:Nat)]]/\kn<mx):=(XP rd bs p mx ZD hp).mono fun r h ⟨z,hr,hh,hz⟩=>by
  have h0:=hz.lt om
  exact ⟨z.toNat,by rw [hr,Int.toNat_of_nonneg h0.1],hh,by omega⟩
theorem IZ (rd:Nat) (bs:List Int) (p:Nat) (n:Zx) (ZD:∀z∈bs,0<=z/\z<=255) (hp:p+4<=1000000000:=by exact ob) (hz:Qt n:=by exact ob) (hl1:1<=n.routines.length/\n.routines.length<=1000000:=by exact ob):Zj Tryz.prog 123 [.p rd 0,ZB n] [Yk rd bs p] (fun r h=>∃(n2:Zx) (p2:Nat),r=ZB n2/\h=[Yk rd bs p2]/\ES n n2/\p<=p2/\p2<=p+4):=by
 refine ZL 102 Tryz.func123 (ar (iA (ZP n) ?_))
 intro b1
 refine iA [nl,nl] ?_
 intro b2
 refine ie (ar (iR 3 [(0,.p rd 0),(3,.p b1 0),(4,.p b2 0),(14,.p rd 0),(16,X6 n.routines)] [1] [b1] (iw (Un n.routines) (ic [2] (K1 rd bs p n.routines.length (ZD:=ob)) ?_))))
 rintro _ _ ⟨Y7,rfl,rfl,ZO⟩
 refine Z1 1 5 (.i Y7) (ie (ar (ZY 3 20 (X6 n.routines) 21 (.i Y7) [2] [b1] ?_)))
 obtain ⟨x1,Z3⟩:=Zt (xs:=n.routines) (j:=Y7) om
 have hrm:=Y6 Z3
 have hbz:=hz.body _ hrm
 have ZD:=Vv (x1).body
 have hpl:=hz.params _ hrm
 have hll:=hz.lent _ hrm
 have hrx:=Z3
 refine Zp (Zn none (Y7:Int) 5 (WH Z3)) (Z1 2 24 (Zq x1.body) (iA [nl,.i 0] ?_))
 intro b3
 refine ZF 0 b3 (Y9 x1.body) (ie (ar (ZY 3 25 (.p rd 0) 27 (Yi x1.body.steps) [0] [b3] (iw (VD x1.body.steps) (ia (((x1.body.steps.length+1:Nat):Int)) (((x1.body.steps.length:Int))+(1)) (ic [1] (K1 rd bs (p+1) (x1.body.steps.length+1) (ZD:=ob)) ?_))))))
 rintro _ _ ⟨YA,rfl,rfl,Y0⟩
 refine Z1 1 7 (.i YA) (ie (ar (Y1 3 (.n 32 (ZB n) (.n 33 (.i Y7) (.n 34 (.i YA) .r))) [3] [b1] (ic [] (S9 n Y7 YA x1 (hr:=hrx)) ?_))))
 rintro _ _ (⟨c1,wa1,wb1,wc1,wd1,we1,wf1,L1,q1,rfl,rfl,Yz⟩|⟨rfl,rfl,YM⟩)
 ·obtain ⟨hLO,hLv,hLb,hLl⟩:=Yz
  have hLn:=hLO.len
  obtain ⟨e1,e2,e3,e4,e5⟩:=hLO.len
  refine Yn 5 8 (.p c1 0) 9 (.b true) (ie (aq (ar (Z1 2 39 (.b false) (ie (WT (ak (ar (iL (Z8 []) 0 1 ?_)))))))))
  intro v1
  refine Z1 1 10 (Z7 [] v1) (ie (aq (ar (Z1 1 11 (.i 0) (ie (ab 0 (al (fun m F h=>∃(k:Nat) (vl:List Int) (u:Value),(k<=L1.vars.length)/\(vl.length<=k)/\(∀v∈vl,0<=v/\v<(L1.vars.length:Int))/\F=[(0,.p rd 0),(3,.p b1 0),(4,.p b2 0),(5,.i Y7),(6,.p b3 0),(7,.i YA),(8,.p c1 0),(10,Z7 vl u),(11,.i k)]/\h=[.obj c1 [.h wa1,.h wb1,.h wc1,.h wd1,.h we1,.h wf1,Z0 x1.lent],rV wa1 L1.vars,rV wb1 L1.own,rV wc1 L1.par,rV wd1 L1.con,rV we1 L1.fst,rV wf1 L1.tok,.obj rd [X8 bs,.i (((p+1)+1:Nat):Int)],.obj b3 (Y9 x1.body),.obj b2 [nl,nl],.obj b1 (ZP n),.tail u 1]/\m=L1.vars.length-k) _ _ _ ⟨0,[],v1,ob,ob,(fun v hv=>by cases hv),rfl,rfl,rfl⟩ (wk [1,1,1,1,1,1,1,1,1,1,1,0] (fq (fq (Yf fl)))) ?_)))))))
  rintro m F h ⟨k,vl,u,Ym,Zo,Zz,rfl,rfl,rfl⟩
  refine aq (ar (ZY 5 42 (.i k) 46 (.h wa1) [0] [c1] (Zp (Jq 1 wa1 L1.vars) (Z1 1 48 (.b (decide ((k:Int)<(L1.vars.length:Int)))) (ie (ZQ ((k:Int)<(L1.vars.length:Int)) (fun Ze=>?_) (fun Ze=>?_)))))))
  ·refine ak (aq (ab 1 (ar (ZY 5 54 (.h wa1) 55 (.i k) [0] [c1] (Zp (Vx 1 wa1 L1.vars (k:Int) k) ?_)))))
   obtain ⟨x2,Zy⟩:=Zt (xs:=L1.vars) (j:=k) om
   refine VM (Tu 1 wa1 L1.vars k x2 Zy) (Z1 2 59 (.b (x2 != 0)) (ib (b:=(x2 != 0)) 59 (fun Zb=>?_) (fun Zb=>?_)))
   ·have YX:x2≠0:=(Yg).1 Zb
    refine Z5 2 (.n 60 (.p c1 0) (.n 61 (.i k) (.k (.d .r)))) (ZA [0,0,0,0,0,0,0] (E0 c1 wa1 wb1 wc1 wd1 we1 wf1 L1 x1.lent (k:Int) (hlk:=hLO.len) (hd:=hLO.down)) (Z1 1 63 (.b (Vz L1 x1.lent (k:Int))) (ie (ac (Vz L1 x1.lent (k:Int)) Iff.rfl (fun Zm=>?_) (fun Zm=>?_)))))
    ·refine az (Yn 2 64 (Z7 vl u) 65 (.i k) (iL (Z8 [(k:Int)]) 1 1 ?_))
     intro v2
     refine Z5 0 (.n 66 (Z0 [(k:Int)]) (.p .r)) (ip 12 (Z8 (vl++[(k:Int)])) (Z8 vl) (Z8 [(k:Int)]) u none 1 (YD _) (YD _) (XZ _) (by simp<;>omega) (by simp [XY,Z8]) ?_)
     intro v3
     refine Z5 1 (.n 10 (Z7 (vl++[(k:Int)]) v3) (.p (.d (.d (.d (.d (.p (.d (.d (.d (.p (.p (.d (.d (.d (.p (.d (.d (.w (.k (.k (.k (.d .r))))))))))))))))))))))) (ie (az (Z1 1 49 (.i k) (ZM k (Z5 1 (.n 11 (.i (k+1:Nat)) (.p (.d (.w (.w .z))))) (ie ?_))))))
     exact ZT ⟨k+1,(vl++[(k:Int)]),v3,ob,ob,(by first|exact Zz|exact Xs Zz om),rfl,rfl,rfl⟩ (wk [2,2,2,2,2,2,2,2,2,2,2,0] (fq (fq (ZW k fl))))
    refine ak (az (Z1 1 49 (.i k) (ZM k (Z5 1 (.n 11 (.i (k+1:Nat)) (.p (.d (.d (.p (.d (.d (.d (.p (.p (.d (.d (.d (.p (.d (.d (.w (.w .z)))))))))))))))))) (ie ?_)))))
    exact ZT ⟨k+1,vl,u,ob,ob,(by first|exact Zz|exact Xs Zz om),rfl,rfl,rfl⟩ (ZJ 12 (fq (fq (ZW k fl))))
   have Xw:¬(x2≠0):=ZH Yg Zb
   refine Z5 4 (.n 63 (.b false) (.k (.d .r))) (ie (WT (ak (az (Z1 1 49 (.i k) (ZM k (Z5 1 (.n 11 (.i (k+1:Nat)) (.p (.d (.d (.d (.p (.p (.d (.d (.d (.p (.d (.d (.w (.w .z))))))))))))))) (ie ?_))))))))
   exact ZT ⟨k+1,vl,u,ob,ob,(by first|exact Zz|exact Xs Zz om),rfl,rfl,rfl⟩ (ZJ 12 (fq (fq (ZW k fl))))
  refine ax 0 (aq (ar (Z1 1 68 (Z7 vl u) (iw (Yd vl) (Z1 1 70 (.b ((vl.length:Int)==0)) (ie (ac ((vl.length:Int)==0) Zh (fun ZI=>?_) (fun ZI=>?_))))))))
  ·refine ar (Yl 1 71 (ZB n) [10] [b1] (ZF 9 b2 (ZP n) (ie ?_)))
   exact Zc (r3 [8] [ZB n] [0] [(b2,b2)] ⟨n,(p+1)+1,rfl,rfl,(by first|exact ⟨.inl rfl,by omega,by omega⟩|(have hv:=Zz x3 (Y6 YS);exact ⟨.inr ⟨Y7,x1,YA,YA+UF,x3,hrx,by omega,by omega,hv.1,by omega,rfl⟩,by omega,by omega⟩))⟩ (lr _))
  refine ak (ar (Z5 3 (.n 72 (Z7 vl u) (.n 73 (.p rd 0) (.n 74 (Z7 vl u) .r))) (iw (Yd vl) (ic [7] (K1 rd bs ((p+1)+1) vl.length (ZD:=ob)) ?_))))
  rintro _ _ ⟨LL,rfl,rfl,Wh⟩
  obtain ⟨x3,YS⟩:=Zt (xs:=vl) (j:=LL) om
  refine Zp (Zn (some u) (LL:Int) 1 (Y3 YS)) (Z1 2 12 (.i x3) (ie (ar (Y1 4 (.n 79 (.i YA) (.n 80 (.p rd 0) (.n 82 (Yi x1.body.steps) .r))) [8] [b3] (iw (VD x1.body.steps) (Z1 1 84 (.i YA) (ia ((((x1.body.steps.length-YA):Nat):Int)) (((x1.body.steps.length:Int))-((YA:Int))) (ia ((((x1.body.steps.length-YA)+1:Nat):Int)) (((((x1.body.steps.length-YA):Nat):Int))+(1)) (ic [0] (K1 rd bs (((p+1)+1)+1) ((x1.body.steps.length-YA)+1) (ZD:=ob)) ?_)))))))))
  rintro _ _ ⟨UF,rfl,rfl,WC⟩
  refine ia (((YA+UF:Nat):Int)) (((YA:Int))+((UF:Int))) (Z1 1 13 (.i (YA+UF:Nat)) (ie (aD 6 (Y5 3 6 [0,1,2] (.n 89 (Zq x1.body) (.n 90 (.i (YA+UF:Nat)) (.n 91 (.i x3) .r))) [8] [b3] (Z9 3 (Yt 3 [] [2] [b3] (KI 15 x3) (Z9 4 (Yt 4 [] [] [] (DI x1.body (YA+UF) (Zi 15 x3) (hi:=(by first|omega|(show YA<=(Wb _ _ _).length;rw [Mx om];omega))) (hz:=(by first|omega|(rw [Z6.sz,CJ];have e:(Zi 15 x3).sz=2:=rfl;have e2:=x1.body.sz_eq;omega)))) (Z9 5 (YF 5 8 [] [] b3 (Y9 (Z6.mk (Wb x1.body.steps (YA+UF) (Zi 15 x3)) x1.body.result)) (de (aD 9 (W3 4 9 [0,1,2,3,4] [(4,.p b2 0),(94,ZB n),(95,.i Y7),(96,Zq (Z6.mk (Wb x1.body.steps (YA+UF) (Zi 15 x3)) x1.body.result)),(97,.i YA),(98,.i x3)] [10,0] [b1,b3] (Z9 5 (Yt 5 [] [0,4] [b3,b1] (KI 14 x3) (Z9 6 (Yt 6 [] [4] [b1] (DI (Z6.mk (Wb x1.body.steps (YA+UF) (Zi 15 x3)) x1.body.result) YA (Zi 14 x3) (hi:=(by first|omega|(show YA<=(Wb _ _ _).length;rw [Mx om];omega))) (hz:=(by first|omega|(rw [Z6.sz,CJ];have e:(Zi 15 x3).sz=2:=rfl;have e2:=x1.body.sz_eq;omega)))) (Z9 7 (Yt 7 [] [] [] (Lc n Y7 (Z6.mk (Wb (Z6.mk (Wb x1.body.steps (YA+UF) (Zi 15 x3)) x1.body.result).steps YA (Zi 14 x3)) (Z6.mk (Wb x1.body.steps (YA+UF) (Zi 15 x3)) x1.body.result).result) x1 (hr:=hrx)) (Z9 8 (YF 8 9 [] [] b2 (ZP (withR n Y7 x1 (Z6.mk (Wb (Z6.mk (Wb x1.body.steps (YA+UF) (Zi 15 x3)) x1.body.result).steps YA (Zi 14 x3)) (Z6.mk (Wb x1.body.steps (YA+UF) (Zi 15 x3)) x1.body.result).result))) (de ?_))))))))))))))))))))))
  exact Zc (r3 [2] [ZB (withR n Y7 x1 (Z6.mk (Wb (Z6.mk (Wb x1.body.steps (YA+UF) (Zi 15 x3)) x1.body.result).steps YA (Zi 14 x3)) (Z6.mk (Wb x1.body.steps (YA+UF) (Zi 15 x3)) x1.body.result).result))] [0] [(b2,b2)] ⟨(withR n Y7 x1 (Z6.mk (Wb (Z6.mk (Wb x1.body.steps (YA+UF) (Zi 15 x3)) x1.body.result).steps YA (Zi 14 x3)) (Z6.mk (Wb x1.body.steps (YA+UF) (Zi 15 x3)) x1.body.result).result)),(((p+1)+1)+1)+1,rfl,rfl,(by first|exact ⟨.inl rfl,by omega,by omega⟩|(have hv:=Zz x3 (Y6 YS);exact ⟨.inr ⟨Y7,x1,YA,YA+UF,x3,hrx,by omega,by omega,hv.1,by omega,rfl⟩,by omega,by omega⟩))⟩ (lr _))
 refine Z1 5 9 (.b false) (ie (aq (ar (Z1 2 39 (.b true) (ie (WU (ar (Yl 1 40 (ZB n) [3] [b1] (ZF 2 b2 (ZP n) (ie ?_))))))))))
 exact Zc (r3 [1] [ZB n] [0] [(b2,b2)] ⟨n,(p+1)+1,rfl,rfl,(by first|exact ⟨.inl rfl,by omega,by omega⟩|(have hv:=Zz x3 (Y6 YS);exact ⟨.inr ⟨Y7,x1,YA,YA+UF,x3,hrx,by omega,by omega,hv.1,by omega,rfl⟩,by omega,by omega⟩))⟩ (lr _))
theorem Z5g (b:Z6) (hz:b.sz<=1000000000:=by exact ob):Zj Tryz.prog 239 [Zq b] [] (fun r h=>r=.i (((YV b.steps):Nat):Int)/\h=[]):=by
 have hbz:=Vv b
 refine ZL 20 Tryz.func239 (ar (iA (Y9 b) ?_))
 intro b1
 refine ir 1 [(1,.p b1 0)] (ie (ar (Z1 1 3 (.i 0) (ie (aq (ab 0 (al (fun m F h=>∃(k:Nat),(k<=b.steps.length)/\(k+YV (b.steps.drop k)=YV b.steps)/\F=[(1,.p b1 0),(3,.i k)]/\h=[.obj b1 (Y9 b)]/\m=b.steps.length-k) _ _ _ ⟨0,ob,(by simp),rfl,rfl,rfl⟩ (wk [0] (fr (Yf fl))) ?_)))))))
 rintro m F h ⟨k,Ym,Zo,rfl,rfl,rfl⟩
 refine aq (ar (ZY 3 4 (.i k) 6 (Yi b.steps) [0] [b1] (iw (VD b.steps) (Z1 2 9 (.b (decide ((k:Int)<(b.steps.length:Int)))) (ib (b:=(decide ((k:Int)<(b.steps.length:Int)))) 9 (fun Zb=>?_) (fun Zb=>?_))))))
 ·have ZO:(k:Int)<(b.steps.length:Int):=(dq).1 Zb
  refine Y1 3 (.n 11 (Yi b.steps) (.n 12 (.i k) (.k (.d .r)))) [0] [b1] ?_
  obtain ⟨x1,Z3⟩:=Zt (xs:=b.steps) (j:=k) om
  refine Zp (Zn none (k:Int) 5 (Wy Z3)) (Z1 1 14 (Y2 x1) (ZA [] (Nk x1) (Z1 1 16 (.b ((x1.op==14)||(x1.op==15))) (ie (ac ((x1.op==14)||(x1.op==15)) (p:=(x1.op=14)∨(x1.op=15)) (Yc Zh Zh) (fun Ze=>?_) (fun Ze=>?_))))))
  ·refine ak (ab 1 (az (Z1 1 17 (.i k) (ZM k (ir 1 [(1,.p b1 0),(3,.i (k+1:Nat))] (ie ?_))))))
   exact ZT ⟨k+1,ob,(Z3z Z3 Ze Zo),rfl,rfl,rfl⟩ (wk [0] (fr (ZW k fl)))
  refine ax 0 (ar (ir 2 [(2,.i k)] (ie ?_)))
  exact Zc (r2 [] [.i k] ⟨rfl,rfl⟩ (li (by have:=Z40 Z3 Ze Zo;omega)))
 have Y0:¬((k:Int)<(b.steps.length:Int)):=ZH dq Zb
 refine Z5 7 (.n 16 (.b false) (.k (.d .r))) (ie (WT (ax 0 (ar (ir 2 [(2,.i k)] (ie ?_))))))
 exact Zc (r2 [] [.i k] ⟨rfl,rfl⟩ (li (by have:=Z3y om Zo;omega)))
theorem Nd (b:Z6) (mm:Nat) (op:Int) (hm:mm<=b.steps.length:=by exact ob) (ha:∀s∈b.steps.take mm,s.op=op->∃a,s.args=[a]) (hz:b.sz<=1000000000:=by exact ob):Zj Tryz.prog 240 [Zq b,.i mm,.i op] [] (fun r h=>∃(v:Value),r=Z7 (XO op (b.steps.take mm)) v/\h=[.tail v 1]):=by
 have hbz:=Vv b
 refine ZL 35 Tryz.func240 (ar (iA (Y9 b) ?_))
 intro b1
 refine ir 1 [(1,.i mm),(2,.i op),(3,.p b1 0)] (ie (ar (iL (Z8 []) 0 1 ?_)))
 intro v1
 refine Z1 1 7 (Z7 [] v1) (ie (aq (ar (Z1 1 8 (.i 0) (ie (ab 0 (al (fun m F h=>∃(k:Nat) (acc:List Int) (v:Value),(k<=mm)/\(acc.length<=k)/\(acc++XO op ((b.steps.take mm).drop k)=XO op (b.steps.take mm))/\F=[(1,.i mm),(2,.i op),(3,.p b1 0),(7,Z7 acc v),(8,.i k)]/\h=[.obj b1 (Y9 b),.tail v 1]/\m=mm-k) _ _ _ ⟨0,[],v1,ob,ob,(by simp),rfl,rfl,rfl⟩ (wk [1,0] (fq (Yf fl))) ?_)))))))
 rintro m F h ⟨k,acc,v,Ym,Zo,Zz,rfl,rfl,rfl⟩
 refine aq (ar (Z1 3 12 (.b (decide ((k:Int)<(mm:Int)))) (ie (ZQ ((k:Int)<(mm:Int)) (fun Ze=>?_) (fun Ze=>?_)))))
 ·refine ak (aq (ab 1 (ar (ZY 3 16 (Yi b.steps) 17 (.i k) [0] [b1] ?_))))
  obtain ⟨x1,Z3⟩:=Zt (xs:=b.steps) (j:=k) om
  have hxt:(b.steps.take mm)[k]? = some x1:=by rw [List.getElem?_take_of_lt om];exact Z3
  have hxm:=Y6 hxt
  refine Zp (Zn none (k:Int) 5 (Wy Z3)) (Z1 4 22 (.b (x1.op==op)) (ie (ac (x1.op==op) Zh (fun Zm=>?_) (fun Zm=>?_))))
  ·refine az (Y1 4 (.n 23 (Z7 acc v) (.n 25 (Yi b.steps) (.n 26 (.i k) .r))) [0] [b1] (Zp (Zn none (k:Int) 5 (Wy Z3)) (Z1 2 29 (Z0 x1.args) ?_)))
   obtain ⟨x2,Zy⟩:=Zt (xs:=x1.args) (j:=0) (by obtain ⟨a,ha2⟩:=ha x1 hxm Zm;rw [ha2];simp)
   have hg0:=J8 Zy
   refine Zp (Zn none 0 1 (Y3 Zy)) (Z1 1 31 (.i x2) (iL (Z8 [x2]) 1 1 ?_))
   intro v2
   refine Z5 0 (.n 32 (Z0 [x2]) (.p .r)) (ip 2 (Z8 (acc++[x2])) (Z8 acc) (Z8 [x2]) v none 1 (YD _) (YD _) (XZ _) (by simp<;>omega) (by simp [XY,Z8]) ?_)
   intro v3
   refine ir 1 [(1,.i mm),(2,.i op),(3,.p b1 0),(7,Z7 (acc++[x2]) v3),(8,.i k)] (ie (az (Z1 1 13 (.i k) (ZM k (Z5 1 (.n 8 (.i (k+1:Nat)) (.p (.d (.w .z)))) (ie ?_))))))
   exact ZT ⟨k+1,(acc++[x2]),v3,ob,(by simp;omega),(by have h:=OD hxt Zm Zz;rw [hg0] at h;exact h),rfl,rfl,rfl⟩ (wk [2,0] (fq (ZW k fl)))
  refine ak (az (Z1 1 13 (.i k) (ZM k (Z5 1 (.n 8 (.i (k+1:Nat)) (.p (.d (.d (.p (.d (.d (.d (.w .z))))))))) (ie ?_)))))
  exact ZT ⟨k+1,acc,v,ob,ob,(OC hxt Zm Zz),rfl,rfl,rfl⟩ (wk [0,0] (fq (ZW k fl)))
 refine ax 0 (ar (ir 2 [(6,Z7 acc v)] (ie ?_)))
 exact Zc (r2 [1] [Z7 acc v] ⟨v,rfl,rfl⟩ (Zg.slh _ (Yv Z8 (OB (by rw [Wv];omega) Zz))))
theorem Ns (xs:List Int) (y:Int) (hl:xs.length<=1000000000:=by exact ob):Zj Tryz.prog 241 [Z0 xs,.i y] [] (fun r h=>∃(v:Value),r=Z7 (xs.erase y) v/\h=[.tail v 1]):=by
 refine ZL 33 Tryz.func241 (ar (ir 1 [(0,Z0 xs),(1,.i y)] (ie (ar (iL (Z8 []) 0 1 ?_)))))
 intro v1
 refine Z1 1 5 (Z7 [] v1) (ie (ar (Z1 1 6 (.b false) (ie (aq (ar (Z1 1 7 (.i 0) (ie (ab 0 (al (fun m F h=>∃(k:Nat) (acc:List Int) (d:Bool) (v:Value),(k<=xs.length)/\(acc.length<=k)/\(acc++(if d=true then xs.drop k else (xs.drop k).erase y)=xs.erase y)/\F=[(0,Z0 xs),(1,.i y),(5,Z7 acc v),(6,.b d),(7,.i k)]/\h=[.tail v 1]/\m=xs.length-k) _ _ _ ⟨0,[],false,v1,ob,ob,(by simp),rfl,rfl,rfl⟩ (wk [0] (fq (Yf fl))) ?_))))))))))
 rintro m F h ⟨k,acc,d,v,Ym,Zo,Zz,rfl,rfl,rfl⟩
 refine aq (ar (Yn 2 9 (.i k) 10 (Z0 xs) (iw (Yd xs) (Z1 1 12 (.b (decide ((k:Int)<(xs.length:Int)))) (ie (ZQ ((k:Int)<(xs.length:Int)) (fun Ze=>?_) (fun Ze=>?_)))))))
 ·refine ak (aq (ab 1 (ar (Yn 2 15 (Z0 xs) 16 (.i k) ?_))))
  obtain ⟨x1,Z3⟩:=Zt (xs:=xs) (j:=k) om
  refine Zp (Zn none (k:Int) 1 (Y3 Z3)) (Xm [(0,Z0 xs),(1,.i y),(5,Z7 acc v),(6,.b d),(7,.i k),(24,.b ((x1==y)&&(!d)))] [.tail v 1] ?_ ?_)
  ·refine ir 4 [(0,Z0 xs),(1,.i y),(5,Z7 acc v),(6,.b d),(7,.i k),(21,.b (x1==y))] (ib (b:=(x1==y)) 21 (fun Zb=>?_) (fun Zb=>?_))
   ·have ZO:x1=y:=(Zh).1 Zb
    refine Z5 3 (.n 24 (.b (!d)) (.d (.w (.k .z)))) (ie ?_)
    exact wk [0] (fq (fr (Zr (!d) Zb fl)))
   have Y0:¬(x1=y):=ZH Zh Zb
   refine Z5 3 (.n 24 (.b false) (.d (.w (.k .z)))) (ie ?_)
   exact wk [0] (fq (fr (Zr false Zb fl)))
  refine JG (fun F h=>∃(w:Value),F=[(0,Z0 xs),(1,.i y),(5,Z7 (if (x1=y)/\(¬(d=true)) then acc else (acc++[x1])) w),(6,.b (((x1==y)&&(!d))||d)),(7,.i k)]/\h=[.tail w 1]) (fun _ _=>rfl) ?_ ?_
  ·refine ac ((x1==y)&&(!d)) (p:=(x1=y)/\(¬(d=true))) (YE Zh (Yo Iff.rfl)) (fun Zm=>?_) (fun Zm=>?_)
   ·refine az (ir 1 [(0,Z0 xs),(1,.i y),(5,Z7 acc v),(6,.b true),(7,.i k)] (ie ?_))
    exact ZU ⟨v,rfl,rfl⟩ (wk [0] (fw (fc (x:=Z7 acc v) (Zg.slh _ (Yv Z8 (by first|rfl|(rw [Zk Zm])|(rw [Za Zm])|(simp [Zm];done)|(rw [Xo];simp [Zm];done)|omega))) (fc (x:=.b true) (lb (by first|rfl|(rw [Zk Zm])|(rw [Za Zm])|(simp [Zm];done)|(rw [Xo];simp [Zm];done)|omega)) fl))))
   refine az (ir 3 [(0,Z0 xs),(1,.i y),(6,.b d),(7,.i k),(25,Z7 acc v),(26,Z0 xs),(27,.i k)] (Zp (Zn none (k:Int) 1 (Y3 Z3)) (Z1 1 29 (.i x1) (iL (Z8 [x1]) 1 1 ?_))))
   intro v2
   refine Z5 0 (.n 30 (Z0 [x1]) (.p .r)) (ip 1 (Z8 (acc++[x1])) (Z8 acc) (Z8 [x1]) v none 1 (YD _) (YD _) (XZ _) (by simp<;>omega) (by simp [XY,Z8]) ?_)
   intro v3
   refine Z1 1 5 (Z7 (acc++[x1]) v3) (ie ?_)
   exact ZU ⟨v3,rfl,rfl⟩ (wk [0] (fw (fc (x:=Z7 (acc++[x1]) v3) (Zg.slh _ (Yv Z8 (by first|rfl|(rw [Zk Zm])|(rw [Za Zm])|(simp [Zm];done)|(rw [Xo];simp [Zm];done)|omega))) (fc (x:=.b d) (lb (by cases d<;>simp_all)) fl))))
  rintro F h ⟨w,rfl,rfl⟩
  refine az (ir 1 [(0,Z0 xs),(1,.i y),(5,Z7 (if (x1=y)/\(¬(d=true)) then acc else (acc++[x1])) w),(6,.b (((x1==y)&&(!d))||d)),(13,.i k)] (ZM k (Z1 1 7 (.i (k+1:Nat)) (ie ?_))))
  exact ZT ⟨k+1,(if (x1=y)/\(¬(d=true)) then acc else (acc++[x1])),(((x1==y)&&(!d))||d),w,ob,(by split<;>(try simp)<;>omega),(Re Z3 Zz),rfl,rfl,rfl⟩ (wk [0] (fq (ZW k fl)))
 refine ax 0 (ar (ir 2 [(4,Z7 acc v)] (ie ?_)))
 exact Zc (r2 [0] [Z7 acc v] ⟨v,rfl,rfl⟩ (Zg.slh _ (Yv Z8 (Rd om Zz))))
theorem Z59 (b:Z6) (x:Int) (fs:List Int) (q:Nat) (ha:∀s∈b.steps,YB s.op=true->∃a,s.args=[a]) (hf:fs.length<=3:=by exact ob) (hq:q<=1000000000:=by exact ob) (hz:b.sz<=900000000:=by exact ob):Zj Tryz.prog 208 [Zq b,.i x,Z0 fs,.i q] [] (fun r h=>r=Zq (QY b x fs q)/\h=[]):=by
 have hbz:=Vv b
 have hrl:=Ei b.steps
 have hal:=F5 (b.steps.take (YV b.steps))
 rw [Wv] at hal
 have her:=List.length_erase_le (a:=x) (l:=XO 15 (b.steps.take (YV b.steps)))
 have har:∀op:Int,YB op=true->∀s∈b.steps.take (YV b.steps),s.op=op->∃a,s.args=[a]:=fun op ho s hs e=>ha s (TL hs) (by rw [e];exact ho)
 refine ZL 88 Tryz.func208 (ar (iA (Y9 b) ?_))
 intro b1
 refine iA [nl,.i 0] ?_
 intro b2
 refine ie (ar (iR 1 [(1,.i x),(2,Z0 fs),(3,.i q),(4,.p b1 0),(8,.p b2 0),(14,Zq b)] [1] [b1] (ZA [] (Z5g b) (Z1 1 9 (.i (((YV b.steps):Nat):Int)) (ie (ar (ZY 2 16 (Zq b) 17 (.i (((YV b.steps):Nat):Int)) [1] [b1] (ic [] (Nd b (YV b.steps) 14 (ha:=(har _ rfl))) ?_))))))))
 rintro _ _ ⟨v1,rfl,rfl⟩
 refine Z1 1 10 (Z7 (XO 14 (b.steps.take (YV b.steps))) v1) (ie (ar (ZY 2 19 (Zq b) 20 (.i (((YV b.steps):Nat):Int)) [2] [b1] (ic [] (Nd b (YV b.steps) 15 (ha:=(har _ rfl))) ?_))))
 rintro _ _ ⟨v2,rfl,rfl⟩
 refine Z1 1 11 (Z7 (XO 15 (b.steps.take (YV b.steps))) v2) (ie (aq (ar (Yn 2 22 (Z0 (XO 15 (b.steps.take (YV b.steps)))) 23 (.i x) (ZA [] (U0 (XO 15 (b.steps.take (YV b.steps))) x) (Xm [(1,.i x),(2,Z0 fs),(3,.i q),(4,.p b1 0),(8,.p b2 0),(9,.i (((YV b.steps):Nat):Int)),(10,Z7 (XO 14 (b.steps.take (YV b.steps))) v1),(11,Z7 (XO 15 (b.steps.take (YV b.steps))) v2),(30,.b ((!(decide (x∈(XO 15 (b.steps.take (YV b.steps))))))||((fs.length:Int)==0)))] [.tail v2 1,.tail v1 1,.obj b2 [nl,.i 0],.obj b1 (Y9 b)] ?_ ?_))))))
 ·refine ir 2 [(1,.i x),(2,Z0 fs),(3,.i q),(4,.p b1 0),(8,.p b2 0),(9,.i (((YV b.steps):Nat):Int)),(10,Z7 (XO 14 (b.steps.take (YV b.steps))) v1),(11,Z7 (XO 15 (b.steps.take (YV b.steps))) v2),(26,.b (!(decide (x∈(XO 15 (b.steps.take (YV b.steps)))))))] (ib (b:=(!(decide (x∈(XO 15 (b.steps.take (YV b.steps))))))) 26 (fun Zb=>?_) (fun Zb=>?_))
  ·have ZO:¬(x∈(XO 15 (b.steps.take (YV b.steps)))):=((Yo dq)).1 Zb
   refine Z5 4 (.n 30 (.b true) (.d (.w (.w .z)))) (ie ?_)
   exact ZJ 4 (fq (fq (Zr true Zb fl)))
  have Y0:¬(¬(x∈(XO 15 (b.steps.take (YV b.steps))))):=ZH (Yo dq) Zb
  refine Z5 1 (.n 27 (Z0 fs) (.w (.w (.k .z)))) (iw (Yd fs) (Z1 2 30 (.b ((fs.length:Int)==0)) (ie ?_)))
  exact ZJ 4 (fq (fq (Zr ((fs.length:Int)==0) Zb fl)))
 refine ac ((!(decide (x∈(XO 15 (b.steps.take (YV b.steps))))))||((fs.length:Int)==0)) (p:=(¬(x∈(XO 15 (b.steps.take (YV b.steps)))))∨((fs.length:Int)=0)) (Yc (Yo dq) Zh) (fun Ze=>?_) (fun Ze=>?_)
 ·refine ar (iR 1 [(8,.p b2 0),(31,Zq b)] [3] [b1] (ZF 2 b2 (Y9 b) (ie ?_)))
  exact Zc (r3 [] [Zq b] [0] [(b2,b2)] ⟨rfl,rfl⟩ (Zg.agg (.cons (Zg.sl _ (Yv Zs (On (fun z=>Ze.elim (fun e=>e z.1) (fun e=>z.2 om))).symm)) (.cons li .nil))))
 refine ak (ar (ir 2 [(1,.i x),(2,Z0 fs),(3,.i q),(4,.p b1 0),(8,.p b2 0),(9,.i (((YV b.steps):Nat):Int)),(10,Z7 (XO 14 (b.steps.take (YV b.steps))) v1),(32,Z0 (XO 15 (b.steps.take (YV b.steps)))),(33,.i x)] (ic [] (Ns (XO 15 (b.steps.take (YV b.steps))) x) ?_)))
 rintro _ _ ⟨v3,rfl,rfl⟩
 refine Z1 1 11 (Z7 ((XO 15 (b.steps.take (YV b.steps))).erase x) v3) (ie (aq (ar (Z1 1 12 (.i 0) (ie (ab 0 (al (fun m F h=>∃(k:Nat) (D:List Int) (R:List Int) (v:Value),(k<=fs.length)/\(D.length<=b.steps.length)/\(R.length<=b.steps.length+k)/\(Ud (fs.drop k) (q+k) D R=Jm b.steps x fs q)/\F=[(1,.i x),(2,Z0 fs),(3,.i q),(4,.p b1 0),(8,.p b2 0),(9,.i (((YV b.steps):Nat):Int)),(10,Z0 D),(11,Z7 R v),(12,.i k)]/\h=[.obj b2 [nl,.i 0],.obj b1 (Y9 b),.tail v 1]/\m=fs.length-k) _ _ _ ⟨0,(XO 14 (b.steps.take (YV b.steps))),((XO 15 (b.steps.take (YV b.steps))).erase x),v3,ob,om,om,(by simp [Jm]),rfl,rfl,rfl⟩ (wk [3,3,0] (fq (fw (fc (x:=Z7 (XO 14 (b.steps.take (YV b.steps))) v1) (Zg.forget _ _) (fr (Yf fl)))))) ?_)))))))
 rintro m F h ⟨k,D,R,v,Ym,Zo,Zz,YJ,rfl,rfl,rfl⟩
 refine aq (ar (Yn 2 35 (.i k) 36 (Z0 fs) (iw (Yd fs) (Z1 1 38 (.b (decide ((k:Int)<(fs.length:Int)))) (ie (ZQ ((k:Int)<(fs.length:Int)) (fun Zm=>?_) (fun Zm=>?_)))))))
 ·refine ak (aq (ab 1 (ar (Yn 2 41 (Z0 fs) 42 (.i k) ?_))))
  obtain ⟨x1,Z3⟩:=Zt (xs:=fs) (j:=k) om
  refine Zp (Zn none (k:Int) 1 (Y3 Z3)) (Xm [(1,.i x),(2,Z0 fs),(3,.i q),(4,.p b1 0),(8,.p b2 0),(9,.i (((YV b.steps):Nat):Int)),(10,Z0 D),(11,Z7 R v),(12,.i k),(52,.b ((x1 != 0)&&(decide (((q+k:Nat):Int)∈D))))] [.obj b2 [nl,.i 0],.obj b1 (Y9 b),.tail v 1] ?_ ?_)
  ·refine ir 3 [(1,.i x),(2,Z0 fs),(3,.i q),(4,.p b1 0),(8,.p b2 0),(9,.i (((YV b.steps):Nat):Int)),(10,Z0 D),(11,Z7 R v),(12,.i k),(46,.b (x1 != 0))] (ib (b:=(x1 != 0)) 46 (fun Zv=>?_) (fun Zv=>?_))
   ·have Yz:x1≠0:=(Yg).1 Zv
    refine Z5 3 (.n 47 (Z0 D) (.n 48 (.i q) (.n 49 (.i k) (.w (.w (.k (.k .z))))))) (ia (((q+k:Nat):Int)) (((q:Int))+((k:Int))) (ZA [] (U0 D ((q+k:Nat):Int)) (Z1 1 52 (.b (decide (((q+k:Nat):Int)∈D))) (ie ?_))))
    exact ZJ 3 (fq (fq (fr (Zr (decide (((q+k:Nat):Int)∈D)) Zv fl))))
   have YM:¬(x1≠0):=ZH Yg Zv
   refine Z5 6 (.n 52 (.b false) (.d (.w (.w (.k .z))))) (ie ?_)
   exact ZJ 3 (fq (fq (fr (Zr false Zv fl))))
  refine JG (fun F h=>∃(D2:List Int) (R2:List Int) (w:Value),(Ud (fs.drop (k+1)) (q+((k+1:Nat):Int)) D2 R2=Jm b.steps x fs q)/\(D2.length<=b.steps.length)/\(R2.length<=b.steps.length+(k+1))/\F=[(1,.i x),(2,Z0 fs),(3,.i q),(4,.p b1 0),(8,.p b2 0),(9,.i (((YV b.steps):Nat):Int)),(10,Z0 D2),(11,Z7 R2 w),(12,.i k)]/\h=[.obj b2 [nl,.i 0],.obj b1 (Y9 b),.tail w 1]) (fun _ _=>rfl) ?_ ?_
  ·refine ac ((x1 != 0)&&(decide (((q+k:Nat):Int)∈D))) (p:=(x1≠0)/\(((q+k:Nat):Int)∈D)) (YE Yg dq) (fun ZI=>?_) (fun ZI=>?_)
   ·refine az (ir 3 [(1,.i x),(2,Z0 fs),(3,.i q),(4,.p b1 0),(8,.p b2 0),(9,.i (((YV b.steps):Nat):Int)),(11,Z7 R v),(12,.i k),(53,Z0 D),(54,.i q),(55,.i k)] (ia (((q+k:Nat):Int)) (((q:Int))+((k:Int))) (ic [] (Ns D ((q+k:Nat):Int)) ?_)))
    rintro _ _ ⟨v4,rfl,rfl⟩
    refine Z1 1 10 (Z7 (D.erase ((q+k:Nat):Int)) v4) (ie ?_)
    exact ZU ⟨(D.erase ((q+k:Nat):Int)),R,v,(Z2x Z3 ZI.1 ZI.2 YJ),(Vc List.length_erase_le Zo),ob,rfl,rfl⟩ (wk [1,1,1] fl)
   refine ar (ir 2 [(1,.i x),(2,Z0 fs),(3,.i q),(4,.p b1 0),(8,.p b2 0),(9,.i (((YV b.steps):Nat):Int)),(10,Z0 D),(11,Z7 R v),(12,.i k),(58,Z0 fs),(59,.i k)] (Zp (Zn none (k:Int) 1 (Y3 Z3)) (Z1 2 62 (.b (x1 != 0)) (ie (ac (x1 != 0) Yg (fun Yh=>?_) (fun Yh=>?_))))))
   ·refine az (Z5 3 (.n 63 (Z7 R v) (.n 64 (.i q) (.n 65 (.i k) .r))) (ia (((q+k:Nat):Int)) (((q:Int))+((k:Int))) (iL (Z8 [((q+k:Nat):Int)]) 1 1 ?_)))
    intro v5
    refine Z5 0 (.n 67 (Z0 [((q+k:Nat):Int)]) (.p .r)) (ip 3 (Z8 (R++[((q+k:Nat):Int)])) (Z8 R) (Z8 [((q+k:Nat):Int)]) v none 1 (YD _) (YD _) (XZ _) (by simp<;>omega) (by simp [XY,Z8]) ?_)
    intro v6
    refine Z5 1 (.n 11 (Z7 (R++[((q+k:Nat):Int)]) v6) (.p (.d (.p (.d (.d (.d (.d (.p (.w (.k (.k (.k (.d (.k .z))))))))))))))) (ie ?_)
    exact ZU ⟨D,(R++[((q+k:Nat):Int)]),v6,(Z2y Z3 Yh (fun z=>ZI ⟨Yh,z⟩) YJ),ob,(by simp;omega),rfl,rfl⟩ (wk [2,2,0] fl)
   refine ak ?_
   exact ZU ⟨D,R,v,(Z2z Z3 Yh YJ),ob,ob,rfl,rfl⟩ (ZJ 3 fl)
  rintro F h ⟨D2,R2,w,Cr,Cs,Z10,rfl,rfl⟩
  refine az (ir 1 [(1,.i x),(2,Z0 fs),(3,.i q),(4,.p b1 0),(8,.p b2 0),(9,.i (((YV b.steps):Nat):Int)),(10,Z0 D2),(11,Z7 R2 w),(39,.i k)] (ZM k (Z1 1 12 (.i (k+1:Nat)) (ie ?_))))
  exact ZT ⟨k+1,D2,R2,w,ob,ob,ob,ob,rfl,rfl,rfl⟩ (ZJ 3 (fq (fq (ZW k fl))))
 refine ax 0 (ar (Z1 1 69 (Z0 D) (ic [] (Qj 14 D) ?_)))
 rintro _ _ ⟨v7,rfl,rfl⟩
 refine Z1 1 71 (.i x) (ZA [] (KI 16 x) (iL [Y2 (Zi 16 x)] 1 5 ?_))
 intro v8
 refine Z5 0 (.n 73 (.sl [Y2 (Zi 16 x)] none) (.p .r)) (ip 1 (Zs ((D.map (Zi 14))++[Zi 16 x])) (Zs (D.map (Zi 14))) [Y2 (Zi 16 x)] v7 none 5 (X9 _) (TC rfl) rfl (by simp<;>omega) (by simp [Wx,V8]) ?_)
 intro v9
 refine Z1 1 13 (ZV ((D.map (Zi 14))++[Zi 16 x]) v9) (ie (ar (Yn 2 75 (ZV ((D.map (Zi 14))++[Zi 16 x]) v9) 76 (Z0 R) (ic [] (Qj 15 R) ?_))))
 rintro _ _ ⟨v10,rfl,rfl⟩
 refine Z5 0 (.n 77 (Yi (R.map (Zi 15))) (.p .r)) (ip 1 (Zs (((D.map (Zi 14))++[Zi 16 x])++(R.map (Zi 15)))) (Zs ((D.map (Zi 14))++[Zi 16 x])) (Zs (R.map (Zi 15))) v9 none 5 (X9 _) (X9 _) (Vq _) (by simp<;>omega) (by simp [Wx,Zs]) ?_)
 intro v11
 refine Z5 1 (.n 13 (ZV (((D.map (Zi 14))++[Zi 16 x])++(R.map (Zi 15))) v11) (.q 78 (.k (.k (.k (.d .r)))))) (ie (aD 10 (Y5 6 10 [0,1,2,3] (.n 79 (ZV (((D.map (Zi 14))++[Zi 16 x])++(R.map (Zi 15))) v11) (.n 81 (Yi b.steps) (.n 82 (.i (((YV b.steps):Nat):Int)) .r))) [4] [b1] (dx 4 (Kb (es:=Zs b.steps) (hv:=none) (l:=(((YV b.steps):Nat):Int)) (m:=(((Zs b.steps).length:Nat):Int)) (sz:=5) (es':=Zs (b.steps.drop (YV b.steps))) kr om (by simp<;>omega) (by simp<;>omega) (X9 _) (by first|(simp only [VJ,Vj,J4,J3];done)|(simp only [VJ,Vj,J4,J3];rfl)|(simp [J4,J3];done))) (Y5 3 5 [6,7] (.n 86 (.i b.result) .r) [4] [b1] (Z9 5 (dp 5 0 [1] [b1] (Zs ((((D.map (Zi 14))++[Zi 16 x])++(R.map (Zi 15)))++(b.steps.drop (YV b.steps)))) (Zs (((D.map (Zi 14))++[Zi 16 x])++(R.map (Zi 15)))) (Zs (b.steps.drop (YV b.steps))) v11 none 5 (X9 _) (X9 _) (Vq _) (by simp<;>omega) (by simp [Wx,Zs]) ?_)))))))
 intro v12
 refine ZX 1 2 [8] 87 (.agg [ZV ((((D.map (Zi 14))++[Zi 16 x])++(R.map (Zi 15)))++(b.steps.drop (YV b.steps))) v12,.i b.result]) (Z9 9 (YF 9 3 [] [] b2 [ZV ((((D.map (Zi 14))++[Zi 16 x])++(R.map (Zi 15)))++(b.steps.drop (YV b.steps))) v12,.i b.result] (de ?_)))
 have hE:=Oq (U2.1 fun z=>Ze (.inl z)) (fun z=>Ze (.inr om)) (Z2w om YJ)
 exact Zc (r3 [] [.agg [ZV ((((D.map (Zi 14))++[Zi 16 x])++(R.map (Zi 15)))++(b.steps.drop (YV b.steps))) v12,.i b.result]] [0] [(b2,b2)] ⟨rfl,rfl⟩ (Zg.agg (.cons (Zg.sl _ (Yv Zs hE)) (.cons li .nil))))
theorem Z5k (n:Zx) (b:Z6) (mm:Nat) (hn:Xf n) (hw:wB n.decls b) (hb:mm+9*b.sz<=900000000) (ih:∀(b2:Z6) (m2:Nat),(wB n.decls b2)->(m2+9*b2.sz<=900000000)->(b2.sz<b.sz)->Zj Tryz.prog 164 [ZB n,Zq b2,.i m2] [] (fun r h=>r=Zq (WE n.decls m2 b2)/\h=[])):Zj Tryz.prog 164 [ZB n,Zq b,.i mm] [] (fun r h=>r=Zq (WE n.decls mm b)/\h=[]):=by
 have Xu:=hn.decls
 have hbz:=Vv b
 have ZD:=(QV b).1 hw
 refine ZL 107 Tryz.func164 (ar (iA (ZP n) ?_))
 intro b1
 refine iA (Y9 b) ?_
 intro b2
 refine iA [nl,.i 0] ?_
 intro b3
 refine ie (ar (iL (Zs []) 0 5 ?_))
 intro v1
 refine iR 3 [(2,.i mm),(3,.p b1 0),(4,.p b2 0),(6,.p b3 0),(17,.agg [ZV [] v1,.i b.result])] [2] [b2] (iA [nl,.i 0] ?_)
 intro b4
 refine ZF 0 b4 [ZV [] v1,.i b.result] (ie (aq (ar (Z1 1 8 (.i 0) (ie (ab 0 (al (fun m F h=>∃(k:Nat) (q:Nat) (xs:List Z4) (v:Value),(k<=b.steps.length)/\(q<=mm+k)/\(xs.length=k)/\(xs++Uu n.decls q (b.steps.drop k)=Uu n.decls mm b.steps)/\F=[(2,.i q),(3,.p b1 0),(4,.p b2 0),(6,.p b3 0),(7,.p b4 0),(8,.i k)]/\h=[.obj b4 [ZV xs v,.i b.result],.obj b3 [nl,.i 0],.obj b2 (Y9 b),.obj b1 (ZP n),.tail v 5]/\m=b.steps.length-k) _ _ _ ⟨0,mm,[],v1,ob,ob,ob,rfl,rfl,rfl,rfl⟩ (wk [0,1,1,1,0] (fq (fr (Yf fl)))) ?_)))))))
 rintro m F h ⟨k,q,xs,v,Ym,Zo,Zz,YJ,rfl,rfl,rfl⟩
 refine aq (ar (ZY 3 18 (.i k) 20 (Yi b.steps) [2] [b2] (iw (VD b.steps) (Z1 1 22 (.b (decide ((k:Int)<(b.steps.length:Int)))) (ie (ZQ ((k:Int)<(b.steps.length:Int)) (fun Ze=>?_) (fun Ze=>?_)))))))
 ·refine ak (aq (ab 1 (ar (ZY 3 26 (Yi b.steps) 27 (.i k) [2] [b2] ?_))))
  obtain ⟨x1,Z3⟩:=Zt (xs:=b.steps) (j:=k) om
  have XA:=AY Z3
  have hws:=NY hw Z3
  have hkz:=Ta x1
  have haz:=Q5 x1
  have hdf:=Z7j hws
  refine Zp (Zn none (k:Int) 5 (Wy Z3)) (Z1 1 29 (Y2 x1) (iA [.i 0,.i 0,.i 0,nl,nl] ?_))
  intro b5
  refine ZF 0 b5 (Ye x1) (ie (ar (iL (YH []) 0 2 ?_)))
  intro v2
  refine Z1 1 10 (X5 [] v2) (ie (ar (ZY 4 32 (Zd n.decls) 34 (.i x1.num) [5,1] [b1,b5] (ic [] (KH n.decls x1.num) ?_))))
  rintro _ _ ⟨v3,rfl,rfl⟩
  refine Z1 1 11 (Z7 (Zu n.decls x1.num) v3) (ie (aq (ar (Z1 1 12 (.i 0) (ie (ab 2 (al (fun m F h=>∃(j:Nat) (u:Value) (ks:List Z6),(j<=x1.kids.length)/\(ks.length=j)/\(ks++Tg n.decls q x1.op x1.num x1.args (x1.kids.drop j) j=Tg n.decls q x1.op x1.num x1.args x1.kids 0)/\F=[(2,.i q),(3,.p b1 0),(4,.p b2 0),(6,.p b3 0),(7,.p b4 0),(8,.i k),(9,.p b5 0),(10,X5 ks u),(11,Z7 (Zu n.decls x1.num) v3),(12,.i j)]/\h=[.obj b5 (Ye x1),.obj b4 [ZV xs v,.i b.result],.obj b3 [nl,.i 0],.obj b2 (Y9 b),.obj b1 (ZP n),.tail u 2,.tail v 5,.tail v3 1]/\m=x1.kids.length-j) _ _ _ ⟨0,v2,[],ob,ob,(by simp),rfl,rfl,rfl⟩ (wk [2,2,2,2,2,1,1,0] (fq (fq (fr (Yf fl))))) ?_)))))))
  rintro m F h ⟨j,u,ks,Ui,Wg,XL,rfl,rfl,rfl⟩
  refine aq (ar (ZY 3 36 (.i j) 38 (Yx x1.kids) [0] [b5] (iw (VX x1.kids) (Z1 1 40 (.b (decide ((j:Int)<(x1.kids.length:Int)))) (ie (ZQ ((j:Int)<(x1.kids.length:Int)) (fun Zm=>?_) (fun Zm=>?_)))))))
  ·refine ak (aq (ab 3 (ar (Yl 3 45 (.b (x1.op==8)) [0] [b5] (ie (ac (x1.op==8) Zh (fun ZI=>?_) (fun ZI=>?_)))))))
   ·refine aD 8 (Y5 4 8 [0,1,2,3] (.n 47 (Zd n.decls) (.n 48 (Z7 (Zu n.decls x1.num) v3) (.n 49 (.i j) .r))) [4] [b1] ?_)
    obtain ⟨x2,Zy⟩:=Zt (xs:=Zu n.decls x1.num) (j:=j) (by have h:=(CV hws (by assumption)).2;omega)
    have hfk:VE n.decls x1.num j=Zw n.decls x2:=IE (by rw [Kg,Zy];rfl)
    have hcf:=VK Xu x2
    refine dx 4 (Zn (some v3) (j:Int) 1 (Y3 Zy)) (ZX 2 3 [5] 51 (.i x2) (Z9 6 (Yt 6 [] [] [] (Qi n.decls x2) (ZX 0 1 [7] 13 (Z0 (Zw n.decls x2)) (de (aE 22 (Y5 17 22 [0,1,2,3,4] (.n 53 (X5 ks u) (.n 54 (ZB n) (.n 56 (Yx x1.kids) (.n 57 (.i j) .r)))) [4,0] [b1,b5] ?_)))))))
    obtain ⟨x3,YS⟩:=Zt (xs:=x1.kids) (j:=j) om
    have hkb:=YS
    have hks:=T9 YS
    have hwk:=Hw hws YS
    have hpk:=Z6.pz_le x3
    refine dx 5 (Zn none (j:Int) 2 (Uz YS)) (ZZ 13 16 [6,7,8] (.n 59 (Zq x3) (.n 60 (.i q) (.n 61 (Z0 (Zw n.decls x2)) .r))) (dn 9 (.i (((Zw n.decls x2).length:Nat):Int)) (.i (((Z8 (Zw n.decls x2)).length:Nat):Int)) (li (by rw [Yd])) (da 10 (((q+((Zw n.decls x2).length):Nat):Int)) (((q:Int))+((((Zw n.decls x2).length:Nat):Int))) (Y5 9 11 [12,13] (.n 66 (Z0 x1.args) .r) [0] [b5] ?_))))
    obtain ⟨x4,Ua⟩:=Zt (xs:=x1.args) (j:=0) (by obtain ⟨⟨a,ha2,_⟩,_⟩:=CV hws (by assumption);rw [ha2];simp)
    have hg1:=J8 Ua
    refine dx 14 (Zn none 0 1 (Y3 Ua)) (ZZ 5 8 [15,16,17] (.n 68 (.i x4) (.n 69 (Z0 (Zw n.decls x2)) (.n 70 (.i q) .r))) (Z9 11 (Yt 11 [] [0] [b5] (ih x3 (q+((Zw n.decls x2).length)) hwk ob ob) (Z9 18 (Yt 18 [] [] [] (Z59 (WE n.decls (q+((Zw n.decls x2).length)) x3) x4 (Zw n.decls x2) q (ha:=(by rw [Es];exact Z4u ((QV _).1 hwk))) (hz:=(Vc (Et Xu _ hwk) om))) (Z9 19 (dL 19 [] [] [Zq (QY (WE n.decls (q+((Zw n.decls x2).length)) x3) x4 (Zw n.decls x2) q)] 1 2 ?_)))))))
    intro v4
    refine ZZ 2 2 [] (.n 72 (.sl [Zq (QY (WE n.decls (q+((Zw n.decls x2).length)) x3) x4 (Zw n.decls x2) q)] none) (.p .r)) (Z9 20 (dp 20 6 [] [] (YH (ks++[QY (WE n.decls (q+((Zw n.decls x2).length)) x3) x4 (Zw n.decls x2) q])) (YH ks) [Zq (QY (WE n.decls (q+((Zw n.decls x2).length)) x3) x4 (Zw n.decls x2) q)] u none 2 (T2 _) (TC rfl) rfl (by simp<;>omega) (by simp [J1,Ul]) ?_))
    intro v5
    refine Xd 0 1 [21] [(2,.i q),(3,.p b1 0),(4,.p b2 0),(6,.p b3 0),(7,.p b4 0),(8,.i k),(9,.p b5 0),(10,X5 (ks++[QY (WE n.decls (q+((Zw n.decls x2).length)) x3) x4 (Zw n.decls x2) q]) v5),(11,Z7 (Zu n.decls x1.num) v3),(12,.i j)] (de (az (Z1 1 41 (.i j) (ZM j (Z5 1 (.n 12 (.i (j+1:Nat)) (.p (.d (.w (.w (.k .z)))))) (ie ?_))))))
    exact ZT ⟨j+1,v5,(ks++[QY (WE n.decls (q+((Zw n.decls x2).length)) x3) x4 (Zw n.decls x2) q]),ob,(by simp;omega),(by have h:=N7 hkb XL;rw [Eu,Zk (by assumption),hfk,hg1] at h;exact h),rfl,rfl,rfl⟩ (wk [2,2,2,2,2,0,1,1] (fq (fq (fr (ZW j fl)))))
   refine aE 12 (Y5 7 12 [0,1,2,3,4] (.n 74 (X5 ks u) (.n 75 (ZB n) (.n 77 (Yx x1.kids) (.n 78 (.i j) .r)))) [4,0] [b1,b5] ?_)
   obtain ⟨x5,UE⟩:=Zt (xs:=x1.kids) (j:=j) om
   have hkb:=UE
   have hks:=T9 UE
   have hwk:=Hw hws UE
   have hpk:=Z6.pz_le x5
   refine dx 5 (Zn none (j:Int) 2 (Uz UE)) (ZZ 4 6 [6,7] (.n 80 (Zq x5) (.n 81 (.i q) .r)) (Z9 8 (Yt 8 [] [] [] (ih x5 q hwk ob ob) (Z9 9 (dL 9 [] [] [Zq (WE n.decls q x5)] 1 2 ?_)))))
   intro v6
   refine ZZ 2 2 [] (.n 83 (.sl [Zq (WE n.decls q x5)] none) (.p .r)) (Z9 10 (dp 10 6 [] [] (YH (ks++[WE n.decls q x5])) (YH ks) [Zq (WE n.decls q x5)] u none 2 (T2 _) (TC rfl) rfl (by simp<;>omega) (by simp [J1,Ul]) ?_))
   intro v7
   refine ZZ 0 1 [11] (.n 10 (X5 (ks++[WE n.decls q x5]) v7) (.p (.d (.p (.d (.d (.p (.d (.d (.d (.d (.d (.d (.p (.d (.d (.w (.k (.k (.k (.d .r))))))))))))))))))))) (de (az (Z1 1 41 (.i j) (ZM j (Z5 1 (.n 12 (.i (j+1:Nat)) (.p (.d (.w (.w (.k .z)))))) (ie ?_))))))
   exact ZT ⟨j+1,v7,(ks++[WE n.decls q x5]),ob,(by simp;omega),(by have h:=N7 hkb XL;rw [Eu,Za (by assumption)] at h;exact h),rfl,rfl,rfl⟩ (wk [2,2,2,2,2,0,1,1] (fq (fq (fr (ZW j fl)))))
  have hK:=Z4s om XL
  refine ax 2 (aD 17 (Y5 6 17 [0,1,2,3,4,5,6,7,8,9,11] (.n 86 (ZV xs v) (.n 88 (.i x1.op) (.n 90 (.i x1.num) (.n 92 (.i x1.into) (.n 94 (Z0 x1.args) (.n 96 (X5 ks u) .r)))))) [1,0,0,0,0] [b4,b5,b5,b5,b5] (Z9 10 (dc 10 [] [0,0,0,1] [b5,b5,b5,b4] (VH x1.args) ?_))))
  rintro _ _ ⟨v8,rfl,rfl⟩
  refine ZX 4 5 [12] 97 (.agg [.i x1.op,.i x1.num,.i x1.into,Z0 x1.args,Yx ks]) (Z9 13 (dL 13 [1] [b4] [Y2 (Z4.mk x1.op x1.num x1.into x1.args ks)] 1 5 ?_))
  intro v9
  refine ZZ 3 3 [] (.n 98 (.sl [Y2 (Z4.mk x1.op x1.num x1.into x1.args ks)] none) (.p .r)) (Z9 14 (dp 14 8 [] [] (Zs (xs++[Z4.mk x1.op x1.num x1.into x1.args ks])) (Zs xs) [Y2 (Z4.mk x1.op x1.num x1.into x1.args ks)] v none 5 (X9 _) (TC rfl) rfl (by simp<;>omega) (by simp [Wx,V8]) ?_))
  intro v10
  refine ZX 1 2 [15] 100 (.p b4 0) (Z9 16 (YF 16 4 [] [] b4 [ZV (xs++[Z4.mk x1.op x1.num x1.into x1.args ks]) v10,.i b.result] (de (ar (Yl 2 102 (.i x1.op) [4] [b5] (ZA [] (QP x1.op) (ie (JG (fun F h=>F=[(2,.i (((if YB x1.op=true then q else q+1):Nat):Int)),(3,.p b1 0),(4,.p b2 0),(6,.p b3 0),(7,.p b4 0),(8,.i k)]/\h=[.obj b4 [ZV (xs++[Z4.mk x1.op x1.num x1.into x1.args ks]) v10,.i b.result],.obj b3 [nl,.i 0],.obj b2 (Y9 b),.obj b1 (ZP n),.tail v10 5]) (fun _ _=>rfl) ?_ ?_))))))))
  ·refine ac (Xb x1.op) Iff.rfl (fun Yh=>?_) (fun Yh=>?_)
   ·refine az (ir 1 [(3,.p b1 0),(4,.p b2 0),(6,.p b3 0),(7,.p b4 0),(8,.i k),(104,.i q)] (ZM q (Z1 1 2 (.i (q+1:Nat)) (ie ?_))))
    exact ZU ⟨rfl,rfl⟩ (wk [0,4,4,4,0] (fc (x:=.i (q+1:Nat)) (li (by rw [Za (fun z=>by rw [hdf,z] at Yh;cases Yh)])) fl))
   refine ak ?_
   exact ZU ⟨rfl,rfl⟩ (wk [0,4,4,4,0] (fc (x:=.i q) (li (by rw [Zk (B3 fun z=>Yh (by rw [hdf,KN.2 z];rfl))])) fl))
  rintro F h ⟨rfl,rfl⟩
  refine az (ir 1 [(2,.i (((if YB x1.op=true then q else q+1):Nat):Int)),(3,.p b1 0),(4,.p b2 0),(6,.p b3 0),(7,.p b4 0),(23,.i k)] (ZM k (Z1 1 8 (.i (k+1:Nat)) (ie ?_))))
  exact ZT ⟨k+1,(if YB x1.op=true then q else q+1),(xs++[Z4.mk x1.op x1.num x1.into x1.args ks]),v10,ob,(by split<;>omega),(by simp;omega),(by have h:=Z4w Z3 YJ;rw [<-hK] at h;exact h),rfl,rfl,rfl⟩ (ZJ 5 (fq (fr (ZW k fl))))
 refine ax 0 (ar (Yl 1 106 (.agg [ZV xs v,.i b.result]) [0] [b4] (ZF 1 b3 [ZV xs v,.i b.result] (ie ?_))))
 exact Zc (r3 [] [.agg [ZV xs v,.i b.result]] [0] [(b3,b3)] ⟨rfl,rfl⟩ (Zg.agg (.cons (Zg.sl _ (Yv Zs (by rw [Es];exact Z4v om YJ))) (.cons (li (by rw [Es];rfl)) .nil))))
theorem Z5i (n:Zx) (hn:Xf n) (k:Nat):∀(b2:Z6) (m2:Nat),(wB n.decls b2)->(m2+9*b2.sz<=900000000)->(b2.sz<k)->Zj Tryz.prog 164 [ZB n,Zq b2,.i m2] [] (fun r h=>r=Zq (WE n.decls m2 b2)/\h=[]):=by
 induction k with
 | zero=>intro b mm _ _ h;omega
 | succ k ih=>intro b mm h1 h2 h3;exact Z5k n b mm hn h1 h2 fun b2 m2 k1 k2 k3=>ih b2 m2 k1 k2 om
theorem Z5j (n:Zx) (b:Z6) (mm:Nat) (hn:Xf n:=by exact ob) (hw:wB n.decls b:=by exact ob) (hb:mm+9*b.sz<=900000000:=by exact ob):Zj Tryz.prog 164 [ZB n,Zq b,.i mm] [] (fun r h=>r=Zq (WE n.decls mm b)/\h=[]):=Z5i n hn (b.sz+1) b mm hw hb om
theorem Ha (b:Z6) (hz:b.sz<=1000000000:=by exact ob):Zj Tryz.prog 243 [Zq b] [] (fun r h=>r=.i (((Yr b.steps):Nat):Int)/\h=[]):=by
 have hbz:=Vv b
 refine ZL 21 Tryz.func243 (ar (iA (Y9 b) ?_))
 intro b1
 refine ir 1 [(1,.p b1 0)] (ie (ar (Z1 1 3 (.i 0) (ie (aq (ab 0 (al (fun m F h=>∃(k:Nat),(k<=b.steps.length)/\(k+Yr (b.steps.drop k)=Yr b.steps)/\F=[(1,.p b1 0),(3,.i k)]/\h=[.obj b1 (Y9 b)]/\m=b.steps.length-k) _ _ _ ⟨0,ob,(by simp),rfl,rfl,rfl⟩ (wk [0] (fr (Yf fl))) ?_)))))))
 rintro m F h ⟨k,Ym,Zo,rfl,rfl,rfl⟩
 refine aq (ar (ZY 3 4 (.i k) 6 (Yi b.steps) [0] [b1] (iw (VD b.steps) (Z1 2 9 (.b (decide ((k:Int)<(b.steps.length:Int)))) (ib (b:=(decide ((k:Int)<(b.steps.length:Int)))) 9 (fun Zb=>?_) (fun Zb=>?_))))))
 ·have ZO:(k:Int)<(b.steps.length:Int):=(dq).1 Zb
  refine Y1 3 (.n 11 (Yi b.steps) (.n 12 (.i k) (.k (.d .r)))) [0] [b1] ?_
  obtain ⟨x1,Z3⟩:=Zt (xs:=b.steps) (j:=k) om
  refine Zp (Zn none (k:Int) 5 (Wy Z3)) (Z1 2 15 (.i x1.op) (ZA [] (Nj x1.op) (Z1 1 17 (.b (YB x1.op)) (ie (ac (YB x1.op) Iff.rfl (fun Ze=>?_) (fun Ze=>?_))))))
  ·refine ak (ab 1 (az (Z1 1 18 (.i k) (ZM k (ir 1 [(1,.p b1 0),(3,.i (k+1:Nat))] (ie ?_))))))
   exact ZT ⟨k+1,ob,(Z1i Z3 Ze Zo),rfl,rfl,rfl⟩ (wk [0] (fr (ZW k fl)))
  refine ax 0 (ar (ir 2 [(2,.i k)] (ie ?_)))
  exact Zc (r2 [] [.i k] ⟨rfl,rfl⟩ (li (by have:=Z1j Z3 Ze Zo;omega)))
 have Y0:¬((k:Int)<(b.steps.length:Int)):=ZH dq Zb
 refine Z5 8 (.n 17 (.b false) (.k (.d .r))) (ie (WT (ax 0 (ar (ir 2 [(2,.i k)] (ie ?_))))))
 exact Zc (r2 [] [.i k] ⟨rfl,rfl⟩ (li (by have:=Z1h om Zo;omega)))
theorem Nn (b:Z6) (mm:Nat) (op:Int) (x:Int) (hm:mm<=b.steps.length:=by exact ob) (ha:∀s∈b.steps.take mm,s.op=op->∃a,s.args=[a]) (hz:b.sz<=1000000000:=by exact ob):Zj Tryz.prog 244 [Zq b,.i mm,.i op,.i x] [] (fun r h=>r=.i (Xy op x (b.steps.take mm) 0)/\h=[]):=by
 have hbz:=Vv b
 refine ZL 36 Tryz.func244 (ar (iA (Y9 b) ?_))
 intro b1
 refine ir 1 [(1,.i mm),(2,.i op),(3,.i x),(4,.p b1 0)] (ie (aq (ar (Z1 1 9 (.i 0) (ie (ab 0 (al (fun m F h=>∃(k:Nat),(k<=mm)/\(Xy op x ((b.steps.take mm).drop k) k=Xy op x (b.steps.take mm) 0)/\F=[(1,.i mm),(2,.i op),(3,.i x),(4,.p b1 0),(9,.i k)]/\h=[.obj b1 (Y9 b)]/\m=mm-k) _ _ _ ⟨0,ob,(by simp),rfl,rfl,rfl⟩ (wk [0] (fq (Yf fl))) ?_)))))))
 rintro m F h ⟨k,Ym,Zo,rfl,rfl,rfl⟩
 refine aq (ar (Z1 3 12 (.b (decide ((k:Int)<(mm:Int)))) (ie (ZQ ((k:Int)<(mm:Int)) (fun Ze=>?_) (fun Ze=>?_)))))
 ·refine ak (aq (ab 1 (ar (ZY 3 16 (Yi b.steps) 17 (.i k) [0] [b1] ?_))))
  obtain ⟨x1,Z3⟩:=Zt (xs:=b.steps) (j:=k) om
  have hxt:(b.steps.take mm)[k]? = some x1:=by rw [List.getElem?_take_of_lt om];exact Z3
  have hxm:=Y6 hxt
  refine Zp (Zn none (k:Int) 5 (Wy Z3)) (Z1 5 23 (.b (x1.op==op)) (ib (b:=(x1.op==op)) 23 (fun Zb=>?_) (fun Zb=>?_)))
  ·have ZO:x1.op=op:=(Zh).1 Zb
   refine Y1 3 (.n 25 (Yi b.steps) (.n 26 (.i k) (.k (.d .r)))) [0] [b1] (Zp (Zn none (k:Int) 5 (Wy Z3)) (Z1 2 29 (Z0 x1.args) ?_))
   obtain ⟨x2,Zy⟩:=Zt (xs:=x1.args) (j:=0) (by obtain ⟨a,ha2⟩:=ha x1 hxm (by assumption);rw [ha2];simp)
   have hg0:=J8 Zy
   refine Zp (Zn none 0 1 (Y3 Zy)) (Z1 4 34 (.b (x2==x)) (ie (ac (x2==x) Zh (fun Zm=>?_) (fun Zm=>?_))))
   ·refine ar (ir 2 [(8,.i k)] (ie ?_))
    exact Zc (r2 [] [.i k] ⟨rfl,rfl⟩ (li (by have h:=OK hxt ⟨by assumption,by rw [hg0];assumption⟩ Zo;omega)))
   refine ak (az (Z1 1 13 (.i k) (ZM k (ir 1 [(1,.i mm),(2,.i op),(3,.i x),(4,.p b1 0),(9,.i (k+1:Nat))] (ie ?_)))))
   exact ZT ⟨k+1,ob,(HT hxt (fun z=>Zm (by rw [<-hg0];exact z.2)) Zo),rfl,rfl,rfl⟩ (wk [0] (fq (ZW k fl)))
  have Y0:¬(x1.op=op):=ZH Zh Zb
  refine Z5 11 (.n 34 (.b false) (.k (.d .r))) (ie (WT (ak (az (Z1 1 13 (.i k) (ZM k (ir 1 [(1,.i mm),(2,.i op),(3,.i x),(4,.p b1 0),(9,.i (k+1:Nat))] (ie ?_))))))))
  exact ZT ⟨k+1,ob,(HT hxt (fun z=>absurd z.1 (by assumption)) Zo),rfl,rfl,rfl⟩ (wk [0] (fq (ZW k fl)))
 refine ax 0 (ar (ir 1 [(8,.i (-1))] (ie ?_)))
 exact Zc (r2 [] [.i (-1)] ⟨rfl,rfl⟩ (li (by have h:=OJ (by rw [Wv];omega) Zo;omega)))
theorem Z52 (b:Z6) (frm0:Nat) (many:Nat) (hm:frm0<=b.steps.length:=by exact ob) (hz:b.sz<=1000000000:=by exact ob):Zj Tryz.prog 264 [Zq b,.i frm0,.i many] [] (fun r h=>r=.i (XR many (b.steps.drop frm0) frm0)/\h=[]):=by
 have hbz:=Vv b
 refine ZL 44 Tryz.func264 (ar (iA (Y9 b) ?_))
 intro b1
 refine ir 1 [(1,.i frm0),(2,.i many),(3,.p b1 0)] (ie (aq (ar (Z1 2 7 (.i frm0) (ie (ab 0 (al (fun m F h=>∃(k:Nat),(k<=b.steps.length)/\(XR many (b.steps.drop k) k=XR many (b.steps.drop frm0) frm0)/\F=[(2,.i many),(3,.p b1 0),(7,.i k)]/\h=[.obj b1 (Y9 b)]/\m=b.steps.length-k) _ _ _ ⟨frm0,ob,rfl,rfl,rfl,rfl⟩ (wk [0] fl) ?_)))))))
 rintro m F h ⟨k,Ym,Zo,rfl,rfl,rfl⟩
 refine aq (ar (ZY 3 9 (.i k) 11 (Yi b.steps) [0] [b1] (iw (VD b.steps) (Z1 1 13 (.b (decide ((k:Int)<(b.steps.length:Int)))) (ie (ZQ ((k:Int)<(b.steps.length:Int)) (fun Ze=>?_) (fun Ze=>?_)))))))
 ·refine ak (aq (ab 1 (ar (ZY 3 17 (Yi b.steps) 18 (.i k) [0] [b1] ?_))))
  obtain ⟨x1,Z3⟩:=Zt (xs:=b.steps) (j:=k) om
  refine Zp (Zn none (k:Int) 5 (Wy Z3)) (XS 16 [(2,.i many),(3,.p b1 0),(7,.i k),(31,.b ((x1.op==6)&&(x1.into==0)))] [.obj b1 (Y9 b)] ?_ (fun hj1=>?_))
  ·refine Xm [(2,.i many),(3,.p b1 0),(7,.i k),(42,.b (((x1.op==6)&&(x1.into==0))&&((x1.args.length:Int)==(many:Int))))] [.obj b1 (Y9 b)] ?_ ?_
   ·refine ir 1 [(2,.i many),(3,.p b1 0),(7,.i k),(32,.b ((x1.op==6)&&(x1.into==0)))] (ib (b:=((x1.op==6)&&(x1.into==0))) 32 (fun Zb=>?_) (fun Zb=>?_))
    ·have ZO:(x1.op=6)/\(x1.into=0):=((YE Zh Zh)).1 Zb
     refine Y1 3 (.n 34 (Yi b.steps) (.n 35 (.i k) (.w .z))) [0] [b1] (Zp (Zn none (k:Int) 5 (Wy Z3)) (Z1 2 38 (Z0 x1.args) (iw (Yd x1.args) (Z1 3 42 (.b ((x1.args.length:Int)==(many:Int))) (ie ?_)))))
     exact wk [0] (fw (fr (Zr ((x1.args.length:Int)==(many:Int)) Zb fl)))
    have Y0:¬((x1.op=6)/\(x1.into=0)):=ZH (YE Zh Zh) Zb
    refine Z5 10 (.n 42 (.b false) (.d (.k (.k (.k .z))))) (ie ?_)
    exact wk [0] (fw (fr (Zr false Zb fl)))
   refine ac (((x1.op==6)&&(x1.into==0))&&((x1.args.length:Int)==(many:Int))) (p:=((x1.op=6)/\(x1.into=0))/\((x1.args.length:Int)=(many:Int))) (YE (YE Zh Zh) Zh) (fun Zm=>?_) (fun Zm=>?_)
   ·refine ar (ir 2 [(6,.i k)] (ie ?_))
    exact Zc (r2 [] [.i k] ⟨rfl,rfl⟩ (li (by have h:=P9 Z3 (show Q9 many x1 from ⟨Zm.1,by omega⟩) Zo;omega)))
   refine ak (az (ir 1 [(2,.i many),(3,.p b1 0),(14,.i k)] (ZM k (Z1 1 7 (.i (k+1:Nat)) (ie ?_)))))
   exact ZT ⟨k+1,ob,(P8 Z3 (fun z=>Zm ⟨z.1,by have:=z.2;omega⟩) Zo),rfl,rfl,rfl⟩ (wk [0] (fw (ZW k fl)))
  refine ir 4 [(2,.i many),(3,.p b1 0),(7,.i k),(23,.b (x1.op==6))] (ib (b:=(x1.op==6)) 23 (fun Zv=>?_) (fun Zv=>?_))
  ·have Yz:x1.op=6:=(Zh).1 Zv
   refine Y1 3 (.n 25 (Yi b.steps) (.n 26 (.i k) (.w .z))) [0] [b1] (Zp (Zn none (k:Int) 5 (Wy Z3)) (Z1 4 31 (.b (x1.into==0)) ?_))
   exact YG (wk [0] (fw (fr (Zr (x1.into==0) Zv fl)))) hj1
  have YM:¬(x1.op=6):=ZH Zh Zv
  refine Z5 8 (.n 31 (.b false) (.d (.k (.k (.k .z))))) ?_
  exact YG (wk [0] (fw (fr (Zr false Zv fl)))) hj1
 refine ax 0 (ar (ir 1 [(6,.i (-1))] (ie ?_)))
 exact Zc (r2 [] [.i (-1)] ⟨rfl,rfl⟩ (li (by have h:=P7 om Zo;omega)))
theorem Pn (b:Z6) (hz:b.sz<=1000000000):Zj Tryz.prog 86 [Zq b] [] (fun r h=>∃(v:Hd),r=.agg [.h v,.i b.result]/\h=[rK v 5 (Zl (Zs b.steps))]):=by
 have hbz:=Vv b
 refine ZL 28 Tryz.func86 (ar (iA (Y9 b) ?_))
 intro b1
 refine iA [nl,.i 0] ?_
 intro b2
 refine ie (ar (DP 5 ?_))
 intro g1
 refine iR 3 [(1,.p b1 0),(2,.p b2 0),(8,.agg [.ms g1 0 0 0,.i b.result])] [2] [b1] (iA [nl,.i 0] ?_)
 intro b3
 refine ZF 0 b3 [.ms g1 0 0 0,.i b.result] (ie (aq (ar (Z1 1 4 (.i 0) (ie (ab 0 (al (fun m F h=>∃(k:Nat) (v:Hd),(k<=b.steps.length)/\F=[(1,.p b1 0),(2,.p b2 0),(3,.p b3 0),(4,.i k)]/\h=[.obj b3 [.h v,.i b.result],.obj b2 [nl,.i 0],.obj b1 (Y9 b),rK v 5 (Zl (Zs (b.steps.take k)))]/\m=b.steps.length-k) _ _ _ ⟨0,(⟨some ⟨g1,0,none⟩,0,0⟩:Hd),ob,rfl,rfl,rfl⟩ (wk [0,1,1,0] (fw (fr (Yf fl))) (e:=(rc (rc (rc (rr (ls:=[]) ob rz)))))) ?_)))))))
 rintro m F h ⟨k,v,Ym,rfl,rfl,rfl⟩
 refine aq (ar (ZY 3 9 (.i k) 11 (Yi b.steps) [2] [b1] (iw (VD b.steps) (Z1 1 13 (.b (decide ((k:Int)<(b.steps.length:Int)))) (ie (ZQ ((k:Int)<(b.steps.length:Int)) (fun Ze=>?_) (fun Ze=>?_)))))))
 ·refine ak (aq (ab 1 (aE 12 (Y5 7 12 [0,1,2,3,4] (.n 17 (.h v) (.n 19 (Yi b.steps) (.n 20 (.i k) .r))) [0,2] [b3,b1] ?_))))
  obtain ⟨x1,Z3⟩:=Zt (xs:=b.steps) (j:=k) om
  have hss:=KJ Z3
  refine dx 5 (Zn none (k:Int) 5 (Wy Z3)) (ZX 5 6 [6] 22 (Y2 x1) (Z9 7 (Yt 7 [] [0] [b3] (Nh x1) (Z9 8 (dL 8 [0] [b3] [Y2 x1] 1 5 ?_)))))
  intro v1
  refine ZZ 3 3 [] (.n 24 (.sl [Y2 x1] none) (.p .r)) (Z9 9 (Fh 9 4 k [] [] v 5 (Zl (Zs (b.steps.take k))) [Y2 x1] none (by rw [TS,Wv,Vo om]) (TC rfl) rfl (List.cons_ne_nil _ _) (by simp<;>omega) ?_))
  intro v2
  refine ZX 1 2 [10] 26 (.p b3 0) (Z9 11 (YF 11 2 [] [] b3 [.h v2,.i b.result] (de (az (Z1 1 14 (.i k) (ZM k (ir 1 [(1,.p b1 0),(2,.p b2 0),(3,.p b3 0),(4,.i (k+1:Nat))] (ie ?_))))))))
  exact ZT ⟨k+1,v2,ob,rfl,rfl,rfl⟩ (wk [0,2,2,0] (fw (fr (ZW k fl))) (e:=(rc (rc (rc (rr (ls:=Zl (Zs (b.steps.take k))++Zl [Y2 x1]) (IK Z3) rz))))))
 refine ax 0 (ar (Yl 1 27 (.agg [.h v,.i b.result]) [0] [b3] (ZF 1 b2 [.h v,.i b.result] (ie ?_))))
 exact Zc (r3 [3] [.agg [.h v,.i b.result]] [0] [(b2,b2)] ⟨v,rfl,rfl⟩ (lr _) (eq:=(rr (ls:=Zl (Zs (b.steps.take k))) (by rw [Vb om]) rz)))
theorem Pm (b:Z6) (hz:b.sz<=1000000000:=by exact ob) (h0:0<b.steps.length:=by exact ob):Zj Tryz.prog 86 [Zq b] [] (fun r h=>∃(g:Nat) (c:Nat),r=.agg [.ms g 0 b.steps.length c,.i b.result]/\h=[.row (.slice (some ⟨g,0,none⟩) b.steps.length c) 5 (Zl (Zs b.steps))]):=(Pn b hz).form (T:=fun v=>.agg [.h v,.i b.result]) (m:=b.steps.length) (TS _) om h0
theorem Z5a (ds:List Zf) (b:Z6) (x:Int) (many:Nat) (hw:wB ds b:=by exact ob) (hx:0<=x/\x<=900000000:=by exact ob) (hz:b.sz<=1000000000:=by exact ob):Zj Tryz.prog 242 [Zq b,.i x,.i many] [] (fun r h=>r=Zq (V3 b x many)/\h=[]):=by
 have hbz:=Vv b
 have ZD:=(QV b).1 hw
 have hrl:=Cw b.steps
 refine ZL 57 Tryz.func242 (ar (iA (Y9 b) ?_))
 intro b1
 refine iA [nl,.i 0] ?_
 intro b2
 refine ie (aD 6 (W3 3 6 [0,1,3] [(1,.i x),(2,.i many),(3,.p b1 0),(6,.p b2 0),(11,Zq b),(12,Zq b),(14,.i x)] [1,1] [b1,b1] (Z9 2 (Yt 2 [] [1] [b1] (Ha b) (Z9 4 (Yt 4 [] [] [] (Nn b (Yr b.steps) 16 x (ha:=(fun s hs h16=>HC (EP ZD s (TL hs) (by rw [h16];rfl))))) (ZX 0 1 [5] 7 (.i (Xy 16 x (b.steps.take (Yr b.steps)) 0)) (de (aD 6 (Y5 3 6 [0,1,3] (.n 16 (Zq b) (.n 17 (Zq b) (.n 19 (.i many) .r))) [1,1] [b1,b1] (Z9 2 (Yt 2 [] [1] [b1] (Ha b) (Z9 4 (Yt 4 [] [] [] (Z52 b (Yr b.steps) many) (ZX 0 1 [5] 8 (.i (XR many (b.steps.drop (Yr b.steps)) (Yr b.steps))) (de (aq (ar (Xm [(1,.i x),(3,.p b1 0),(6,.p b2 0),(7,.i (Xy 16 x (b.steps.take (Yr b.steps)) 0)),(8,.i (XR many (b.steps.drop (Yr b.steps)) (Yr b.steps))),(26,.b ((decide ((Xy 16 x (b.steps.take (Yr b.steps)) 0)<0))||(decide ((XR many (b.steps.drop (Yr b.steps)) (Yr b.steps))<0))))] [.obj b2 [nl,.i 0],.obj b1 (Y9 b)] ?_ ?_)))))))))))))))))))
 ·refine ir 3 [(1,.i x),(3,.p b1 0),(6,.p b2 0),(7,.i (Xy 16 x (b.steps.take (Yr b.steps)) 0)),(8,.i (XR many (b.steps.drop (Yr b.steps)) (Yr b.steps))),(23,.b (decide ((Xy 16 x (b.steps.take (Yr b.steps)) 0)<0)))] (ib (b:=(decide ((Xy 16 x (b.steps.take (Yr b.steps)) 0)<0))) 23 (fun Zb=>?_) (fun Zb=>?_))
  ·have ZO:(Xy 16 x (b.steps.take (Yr b.steps)) 0)<0:=(dq).1 Zb
   refine Z5 3 (.n 26 (.b true) (.d (.w (.k .z)))) (ie ?_)
   exact wk [0,0] (fq (fr (Zr true Zb fl)))
  have Y0:¬((Xy 16 x (b.steps.take (Yr b.steps)) 0)<0):=ZH dq Zb
  refine Z5 3 (.n 26 (.b (decide ((XR many (b.steps.drop (Yr b.steps)) (Yr b.steps))<0))) (.d (.w (.k .z)))) (ie ?_)
  exact wk [0,0] (fq (fr (Zr (decide ((XR many (b.steps.drop (Yr b.steps)) (Yr b.steps))<0)) Zb fl)))
 refine ac ((decide ((Xy 16 x (b.steps.take (Yr b.steps)) 0)<0))||(decide ((XR many (b.steps.drop (Yr b.steps)) (Yr b.steps))<0))) (p:=((Xy 16 x (b.steps.take (Yr b.steps)) 0)<0)∨((XR many (b.steps.drop (Yr b.steps)) (Yr b.steps))<0)) (Yc dq dq) (fun Ze=>?_) (fun Ze=>?_)
 ·refine ar (iR 1 [(6,.p b2 0),(27,Zq b)] [1] [b1] (ZF 0 b2 (Y9 b) (ie ?_)))
  exact Zc (r3 [] [Zq b] [0] [(b2,b2)] ⟨rfl,rfl⟩ (Zg.agg (.cons (Zg.sl _ (Yv Zs (Z3b Ze).symm)) (.cons li .nil))))
 obtain ⟨o1,o2,so,o3,o4⟩:=CF (xs:=b.steps) (x:=x) (fun z=>Ze (.inl z))
 obtain ⟨p1,p2,sc,p3,p4,p5⟩:=JN (xs:=b.steps) (many:=many) (fun z=>Ze (.inr z))
 rw [show V2 b.steps x=(Xy 16 x (b.steps.take (Yr b.steps)) 0) from rfl] at o1 o2
 rw [show Wm b.steps many=(XR many (b.steps.drop (Yr b.steps)) (Yr b.steps)) from rfl] at p1 p2
 refine ak (ar (iR 1 [(1,.i x),(6,.p b2 0),(7,.i (Xy 16 x (b.steps.take (Yr b.steps)) 0)),(8,.i (XR many (b.steps.drop (Yr b.steps)) (Yr b.steps))),(28,Zq b)] [1] [b1] (ic [] (Pm b) ?_)))
 rintro _ _ ⟨g1,c1,rfl,rfl⟩
 refine iA [nl,.i 0] ?_
 intro b3
 refine ZF 0 b3 [.ms g1 0 b.steps.length c1,.i b.result] (ie (aD 7 (Y5 3 7 [0,1,2,3] (.n 31 (.ms g1 0 b.steps.length c1) (.n 32 (.i (Xy 16 x (b.steps.take (Yr b.steps)) 0)) (.n 33 (.i x) .r))) [0] [b3] (Z9 4 (Yt 4 [] [0] [b3] (KI 17 x) (dx 5 (W4 g1 b.steps.length c1 ((Xy 16 x (b.steps.take (Yr b.steps)) 0).toNat) 5 (Xy 16 x (b.steps.take (Yr b.steps)) 0)) (Z9 6 (Ax 6 1 [] [] g1 b.steps.length c1 5 (((Xy 16 x (b.steps.take (Yr b.steps)) 0).toNat)*5) (Ye (Zi 17 x)) (Zl (Zs b.steps)) (Zl (Zs (b.steps.set (Xy 16 x (b.steps.take (Yr b.steps)) 0).toNat (Zi 17 x)))) (by have:(Ye (Zi 17 x)).length=5:=rfl;rw [TS];omega) (DB o3) (de (ar (ZY 3 37 (.ms g1 0 b.steps.length c1) 38 (.i (XR many (b.steps.drop (Yr b.steps)) (Yr b.steps))) [1] [b3] (Zp (W4 g1 b.steps.length c1 ((XR many (b.steps.drop (Yr b.steps)) (Yr b.steps)).toNat) 5 (XR many (b.steps.drop (Yr b.steps)) (Yr b.steps))) (VM (WW 0 g1 b.steps.length c1 5 (((XR many (b.steps.drop (Yr b.steps)) (Yr b.steps)).toNat)*5) (Zl (Zs (b.steps.set (Xy 16 x (b.steps.take (Yr b.steps)) 0).toNat (Zi 17 x)))) (Ye sc) 44 (Y2 sc) (FK (Ee Ze p3))) (iA [.i 0,.i 0,.i 0,nl,nl] ?_))))))))))))))
 intro b4
 refine ZF 0 b4 (Ye sc) (ie (ar (Y1 8 (.n 42 (.ms g1 0 b.steps.length c1) (.n 43 (.i (XR many (b.steps.drop (Yr b.steps)) (Yr b.steps))) (.n 45 (.i sc.op) (.n 47 (.i sc.num) (.n 48 (.i x) .r))))) [2,0,0] [b3,b4,b4] (ia ((1+x)) ((1)+(x)) (Yl 5 54 (.agg [.i sc.op,.i sc.num,.i (1+x),Z0 sc.args,Yx sc.kids]) [0,0] [b4,b4] (Zp (W4 g1 b.steps.length c1 ((XR many (b.steps.drop (Yr b.steps)) (Yr b.steps)).toNat) 5 (XR many (b.steps.drop (Yr b.steps)) (Yr b.steps))) (Co 1 g1 b.steps.length c1 5 (((XR many (b.steps.drop (Yr b.steps)) (Yr b.steps)).toNat)*5) [.i sc.op,.i sc.num,.i (1+x),Z0 sc.args,Yx sc.kids] (Zl (Zs (b.steps.set (Xy 16 x (b.steps.take (Yr b.steps)) 0).toNat (Zi 17 x)))) (Zl (Zs ((b.steps.set (Xy 16 x (b.steps.take (Yr b.steps)) 0).toNat (Zi 17 x)).set (XR many (b.steps.drop (Yr b.steps)) (Yr b.steps)).toNat (TB (1+x) sc)))) (by rw [TS,UM];simp only [YQ,Xp];omega) (DB (t:=TB (1+x) sc) (Ee Ze p3)) (XM (Ux 0 1 0 (.slice (some ⟨g1,0,none⟩) b.steps.length c1) 5 b3 (Zs ((b.steps.set (Xy 16 x (b.steps.take (Yr b.steps)) 0).toNat (Zi 17 x)).set (XR many (b.steps.drop (Yr b.steps)) (Yr b.steps)).toNat (TB (1+x) sc))) [.ms g1 0 b.steps.length c1,.i b.result] (X9 _) rfl) (ie (ar (Yl 1 56 (.agg [ZV ((b.steps.set (Xy 16 x (b.steps.take (Yr b.steps)) 0).toNat (Zi 17 x)).set (XR many (b.steps.drop (Yr b.steps)) (Yr b.steps)).toNat (TB (1+x) sc)) (.slice (some ⟨g1,0,none⟩) b.steps.length c1),.i b.result]) [0] [b3] (ZF 3 b2 [ZV ((b.steps.set (Xy 16 x (b.steps.take (Yr b.steps)) 0).toNat (Zi 17 x)).set (XR many (b.steps.drop (Yr b.steps)) (Yr b.steps)).toNat (TB (1+x) sc)) (.slice (some ⟨g1,0,none⟩) b.steps.length c1),.i b.result] (ie ?_)))))))))))))
 exact Zc (r3 [] [.agg [ZV ((b.steps.set (Xy 16 x (b.steps.take (Yr b.steps)) 0).toNat (Zi 17 x)).set (XR many (b.steps.drop (Yr b.steps)) (Yr b.steps)).toNat (TB (1+x) sc)) (.slice (some ⟨g1,0,none⟩) b.steps.length c1),.i b.result]] [0] [(b2,b2)] ⟨rfl,rfl⟩ (Zg.agg (.cons (Zg.sl _ (Yv Zs (Z3c Ze p5))) (.cons li .nil))))
theorem Z57 (xs:List Int) (y:Int) (hl:xs.length<=1000000000:=by exact ob):Zj Tryz.prog 118 [Z0 xs,.i y] [] (fun r h=>∃(ys:List Int),r=Z0 ys/\h=[]/\(ys.length<=xs.length+1/\∀z,z∈ys↔z∈xs∨z=y)):=by
 refine ZL 49 Tryz.func118 (ar (ir 1 [(0,Z0 xs),(1,.i y)] (ie (ar (iL (Z8 []) 0 1 ?_)))))
 intro v1
 refine Z1 1 5 (Z7 [] v1) (ie (ar (Z1 1 6 (.b false) (ie (aq (ar (Z1 1 7 (.i 0) (ie (ab 0 (al (fun m F h=>∃(k:Nat) (acc:List Int) (d:Bool) (v:Value),(k<=xs.length)/\(Qs xs y k acc d)/\F=[(0,Z0 xs),(1,.i y),(5,Z7 acc v),(6,.b d),(7,.i k)]/\h=[.tail v 1]/\m=xs.length-k) _ _ _ ⟨0,[],false,v1,ob,(Qs.zero xs y),rfl,rfl,rfl⟩ (wk [0] (fq (Yf fl))) ?_))))))))))
 rintro m F h ⟨k,acc,d,v,Ym,Zo,rfl,rfl,rfl⟩
 refine aq (ar (Yn 2 9 (.i k) 10 (Z0 xs) (iw (Yd xs) (Z1 1 12 (.b (decide ((k:Int)<(xs.length:Int)))) (ie (ZQ ((k:Int)<(xs.length:Int)) (fun Ze=>?_) (fun Ze=>?_)))))))
 ·obtain ⟨x1,Z3⟩:=Zt (xs:=xs) (j:=k) om
  have hil:acc.length<=k+1:=Vc Zo.len (by split<;>omega)
  refine ak (aq (ab 1 (aq (ar (Xm [(0,Z0 xs),(1,.i y),(5,Z7 acc v),(6,.b d),(7,.i k),(24,.b ((!d)&&(decide (x1>=y))))] [.tail v 1] ?_ ?_)))))
  ·refine ir 3 [(0,Z0 xs),(1,.i y),(5,Z7 acc v),(6,.b d),(7,.i k),(17,.b (!d))] (ib (b:=(!d)) 17 (fun Zb=>?_) (fun Zb=>?_))
   ·have ZO:¬(d=true):=((Yo Iff.rfl)).1 Zb
    refine Z5 2 (.n 18 (Z0 xs) (.n 19 (.i k) (.w (.k (.k .z))))) (Zp (Zn none (k:Int) 1 (Y3 Z3)) (Z1 4 24 (.b (decide (x1>=y))) (ie ?_)))
    exact wk [0] (fq (fr (Zr (decide (x1>=y)) Zb fl)))
   have Y0:¬(¬(d=true)):=ZH (Yo Iff.rfl) Zb
   refine Z5 7 (.n 24 (.b false) (.d (.w (.k .z)))) (ie ?_)
   exact wk [0] (fq (fr (Zr false Zb fl)))
  refine XK (fun F h=>∃(acc2:List Int) (d2:Bool) (w:Value),((acc2=acc/\d2=d)∨(acc2=acc++[y]/\d2=true/\¬d=true)∨(acc2=acc/\d2=true/\x1=y))/\(acc2.length<=acc.length+1)/\F=[(0,Z0 xs),(1,.i y),(5,Z7 acc2 w),(6,.b d2),(7,.i k)]/\h=[.tail w 1]) ?_ ?_
  ·refine ac ((!d)&&(decide (x1>=y))) (p:=(¬(d=true))/\(x1>=y)) (YE (Yo Iff.rfl) dq) (fun Zm=>?_) (fun Zm=>?_)
   ·refine aq (ar (ir 2 [(0,Z0 xs),(1,.i y),(5,Z7 acc v),(7,.i k),(25,Z0 xs),(26,.i k)] (Zp (Zn none (k:Int) 1 (Y3 Z3)) (Z1 3 30 (.b (decide (x1>y))) (ie (XK (fun F h=>∃(w3:Value),F=[(0,Z0 xs),(1,.i y),(5,Z7 (if x1>y then (acc++[y]) else acc) w3),(7,.i k)]/\h=[.tail w3 1]) ?_ ?_))))))
    ·refine ZQ (x1>y) (fun ZI=>?_) (fun ZI=>?_)
     ·refine az (ir 2 [(0,Z0 xs),(1,.i y),(7,.i k),(31,Z7 acc v),(32,.i y)] (iL (Z8 [y]) 1 1 ?_))
      intro v2
      refine Z5 0 (.n 33 (Z0 [y]) (.p .r)) (ip 1 (Z8 (acc++[y])) (Z8 acc) (Z8 [y]) v none 1 (YD _) (YD _) (XZ _) (by simp<;>omega) (by simp [XY,Z8]) ?_)
      intro v3
      refine Z1 1 5 (Z7 (acc++[y]) v3) (ie ?_)
      exact ZU ⟨v3,rfl,rfl⟩ (wk [0] (fw (fc (x:=Z7 (acc++[y]) v3) (Zg.slh _ (Yv Z8 (by first|rfl|(rw [Zk ZI])|(rw [Za ZI])|(simp [ZI];done)|(rw [Xo];simp [ZI];done)|omega))) fl)))
     refine ak ?_
     exact ZU ⟨v,rfl,rfl⟩ (wk [0] (fw (fc (x:=Z7 acc v) (Zg.slh _ (Yv Z8 (by first|rfl|(rw [Zk ZI])|(rw [Za ZI])|(simp [ZI];done)|(rw [Xo];simp [ZI];done)|omega))) fl)))
    rintro F h ⟨w3,rfl,rfl⟩
    refine az (ir 1 [(0,Z0 xs),(1,.i y),(5,Z7 (if x1>y then (acc++[y]) else acc) w3),(6,.b true),(7,.i k)] (ie ?_))
    exact ZU ⟨(if x1>y then (acc++[y]) else acc),true,w3,(if h:x1>y then (by rw [Zk h];exact .inr (.inl ⟨rfl,rfl,Zm.1⟩)) else (by rw [Za h];exact .inr (.inr ⟨rfl,rfl,by have:=Zm.2;omega⟩))),(by split<;>simp),rfl,rfl⟩ (wk [0] fl)
   refine ak ?_
   exact ZU ⟨acc,d,v,(.inl ⟨rfl,rfl⟩),ob,rfl,rfl⟩ (wk [0] fl)
  rintro F h ⟨acc2,d2,w,Vt,Jh,rfl,rfl⟩
  refine az (ir 3 [(0,Z0 xs),(1,.i y),(6,.b d2),(7,.i k),(35,Z7 acc2 w),(36,Z0 xs),(37,.i k)] (Zp (Zn none (k:Int) 1 (Y3 Z3)) (Z1 1 39 (.i x1) (iL (Z8 [x1]) 1 1 ?_))))
  intro v4
  refine Z5 0 (.n 40 (Z0 [x1]) (.p .r)) (ip 1 (Z8 (acc2++[x1])) (Z8 acc2) (Z8 [x1]) w none 1 (YD _) (YD _) (XZ _) (by simp<;>omega) (by simp [XY,Z8]) ?_)
  intro v5
  refine Z1 1 5 (Z7 (acc2++[x1]) v5) (ie (az (Z1 1 13 (.i k) (ZM k (Z5 1 (.n 7 (.i (k+1:Nat)) (.p (.d (.k (.p (.d (.d (.p (.k (.k (.k .z))))))))))) (ie ?_))))))
  exact ZT ⟨k+1,(acc2++[x1]),d2,v5,ob,(Zo.go Z3 Vt),rfl,rfl,rfl⟩ (wk [0] (fq (ZW k fl)))
 have hil:acc.length<=k+1:=Vc Zo.len (by split<;>omega)
 refine ax 0 (aq (ar (Z1 2 43 (.b (!d)) (ie (XK (fun F h=>∃(w4:Value),F=[(5,Z7 (if d=true then acc else (acc++[y])) w4)]/\h=[.tail w4 1]) ?_ ?_)))))
 ·refine ac (!d) (p:=¬(d=true)) (Yo Iff.rfl) (fun Yh=>?_) (fun Yh=>?_)
  ·refine az (ir 2 [(44,Z7 acc v),(45,.i y)] (iL (Z8 [y]) 1 1 ?_))
   intro v6
   refine Z5 0 (.n 46 (Z0 [y]) (.p .r)) (ip 1 (Z8 (acc++[y])) (Z8 acc) (Z8 [y]) v none 1 (YD _) (YD _) (XZ _) (by simp<;>omega) (by simp [XY,Z8]) ?_)
   intro v7
   refine ir 1 [(5,Z7 (acc++[y]) v7)] (ie ?_)
   exact ZU ⟨v7,rfl,rfl⟩ (wk [0] (fc (x:=Z7 (acc++[y]) v7) (Zg.slh _ (Yv Z8 (by first|rfl|(rw [Zk Yh])|(rw [Za Yh])|(simp [Yh];done)|(rw [Xo];simp [Yh];done)|omega))) fl))
  refine ak ?_
  exact ZU ⟨v,rfl,rfl⟩ (wk [0] (fc (x:=Z7 acc v) (Zg.slh _ (Yv Z8 (by first|rfl|(rw [Zk Yh])|(rw [Za Yh])|(simp [Yh];done)|(rw [Xo];simp [Yh];done)|omega))) fl))
 rintro F h ⟨w4,rfl,rfl⟩
 refine ar (ir 2 [(4,Z7 (if d=true then acc else (acc++[y])) w4)] (ie ?_))
 exact Zc (r2 [] [Z7 (if d=true then acc else (acc++[y])) w4] ⟨(if d=true then acc else (acc++[y])),rfl,rfl,(if hd:d=true then (by rw [Zk hd];exact (Zo.fin om).1 hd) else (by rw [Za hd];exact (Zo.fin om).2 hd))⟩ (Zg.forget _ _))
theorem Z5d (n:Zx) (s:Z4) (j:Nat) (kept:List Int) (kd:Z6) (hn:Xf n) (hws:wS n.decls s) (hkd:s.kids[j]? = some kd) (hnk:TW kd) (hK:kept.length+s.sz<=900000000) (ih:∀(b2:Z6) (K2:List Int),(wB n.decls b2)->(A5 b2)->(K2.length+b2.sz<=900000000)->(b2.sz<s.sz)->Zj Tryz.prog 165 [ZB n,Zq b2,Z0 K2] [] (fun r h=>r=Zq (Wo n.decls K2 b2)/\h=[])):Zj Tryz.prog 209 [ZB n,Y2 s,.i j,Z0 kept] [] (fun r h=>r=Zq (UW n.decls kept s.op s.num s.args j kd)/\h=[]):=by
 have Xu:=hn.decls
 have hks:=T9 hkd
 have hwk:=Hw hws hkd
 have haz:=Q5 s
 have hjl:=(XG.1 hkd).1
 refine ZL 65 Tryz.func209 (ar (iA (ZP n) ?_))
 intro b1
 refine iA (Ye s) ?_
 intro b2
 refine iA [nl,.i 0] ?_
 intro b3
 refine ie (aq (ar (iR 3 [(2,.i j),(3,Z0 kept),(4,.p b1 0),(5,.p b2 0),(8,.p b3 0),(14,.b (s.op != 8))] [1] [b2] (ie (ac (s.op != 8) Yg (fun Ze=>?_) (fun Ze=>?_))))))
 ·refine aD 9 (Y5 5 9 [0,1,2,3] (.n 15 (ZB n) (.n 17 (Yx s.kids) (.n 18 (.i j) .r))) [2,1] [b1,b2] (dx 4 (Zn none (j:Int) 2 (Uz hkd)) (ZZ 2 4 [5,6] (.n 20 (Zq kd) (.n 21 (Z0 kept) .r)) (Z9 7 (Yt 7 [] [] [] (ih kd kept (by first|exact hwk|exact Jh) (by first|exact AR hnk|exact Gi) ob ob) (Z9 8 (YF 8 0 [] [] b3 (Y9 (Wo n.decls kept kd)) (de ?_))))))))
  have hE:=MM (ds:=n.decls) (kept:=kept) (op:=s.op) (num:=s.num) (args:=s.args) (j:=j) (kd:=kd) (fun z=>Ze z.1)
  exact Zc (r3 [] [Zq (Wo n.decls kept kd)] [0] [(b3,b3)] ⟨rfl,rfl⟩ (Zg.agg (.cons (Zg.sl _ (Yv Zs (by rw [hE]))) (.cons (li (by rw [hE])) .nil))))
 refine ak (ar (Yl 2 24 (Z0 s.args) [1] [b2] ?_))
 obtain ⟨x1,Z3⟩:=Zt (xs:=s.args) (j:=0) (by obtain ⟨⟨a,ha2,_⟩,_⟩:=CV hws om;rw [ha2];simp)
 have hg1:=J8 Z3
 have hxb:0<=x1/\x1<=900000000:=by obtain ⟨⟨a,ha2,ha3⟩,_⟩:=CV hws om;rw [ha2] at hg1;have:a=x1:=hg1;omega
 refine Zp (Zn none 0 1 (Y3 Z3)) (Z1 2 9 (.i x1) (ie (ar (ZY 3 28 (Yx s.kids) 29 (.i j) [1] [b2] (Zp (Zn none (j:Int) 2 (Uz hkd)) (Z1 1 31 (Zq kd) (iA [nl,.i 0] ?_)))))))
 intro b4
 refine ZF 0 b4 (Y9 kd) (ie (aq (ar (Yn 2 32 (Z0 kept) 33 (.i x1) (ZA [] (U0 kept x1) (Z1 1 35 (.b (!(decide (x1∈kept)))) (ie (XK (fun F h=>∃(B2:Z6) (K2:List Int),(Wo n.decls K2 B2=UW n.decls kept s.op s.num s.args j kd)/\(wB n.decls B2)/\(A5 B2)/\(B2.sz<=kd.sz)/\(K2.length<=kept.length+1)/\F=[(3,Z0 K2),(4,.p b1 0),(8,.p b3 0),(10,.p b4 0)]/\h=[.obj b4 (Y9 B2),.obj b3 [nl,.i 0],.obj b1 (ZP n)]) ?_ ?_))))))))
 ·refine ac (!(decide (x1∈kept))) (p:=¬(x1∈kept)) (Yo dq) (fun Zm=>?_) (fun Zm=>?_)
  ·refine aD 16 (W3 7 16 [0,1,2,3,4,5,6,7,9] [(3,Z0 kept),(4,.p b1 0),(8,.p b3 0),(9,.i x1),(10,.p b4 0),(36,Zq kd),(37,.i x1),(39,Zd n.decls),(41,Zd n.decls),(43,.i s.num),(45,.i j)] [0,3,3,2] [b4,b1,b1,b2] (Z9 8 (dc 8 [] [3,0] [b1,b4] (KH n.decls s.num) ?_)))
   rintro _ _ ⟨v1,rfl,rfl⟩
   obtain ⟨x2,Zy⟩:=Zt (xs:=Zu n.decls s.num) (j:=j) (by have h:=(CV hws om).2;omega)
   have hfl:(VE n.decls s.num j).length=(Zw n.decls x2).length:=by rw [IE (by rw [Kg,Zy];rfl)]
   have hcf:=VK Xu x2
   refine dx 10 (Zn (some v1) (j:Int) 1 (Y3 Zy)) (ZX 4 5 [11] 47 (.i x2) (Z9 12 (Yt 12 [] [0] [b4] (Qi n.decls x2) (dn 13 (.i (((Zw n.decls x2).length:Nat):Int)) (.i (((Z8 (Zw n.decls x2)).length:Nat):Int)) (li (by rw [Yd])) (Z9 14 (Yt 14 [] [] [] (Z5a n.decls kd x1 ((Zw n.decls x2).length) (hw:=hwk) (hx:=hxb)) ?_))))))
   have hwr:=Z7f (x:=x1) (many:=(Zw n.decls x2).length) hwk
   have hsr:=Z39 (x:=x1) (many:=(Zw n.decls x2).length) hwk
   refine Z9 15 (YF 15 1 [] [] b4 (Y9 (V3 kd x1 ((Zw n.decls x2).length))) (de (ar (Yl 1 51 (Zq (V3 kd x1 ((Zw n.decls x2).length))) [0] [b4] (ZA [] (Ha (V3 kd x1 ((Zw n.decls x2).length))) (Z1 1 11 (.i (((Yr (V3 kd x1 ((Zw n.decls x2).length)).steps):Nat):Int)) (ie (ar (Y1 3 (.n 53 (Zq (V3 kd x1 ((Zw n.decls x2).length))) (.n 54 (.i (((Yr (V3 kd x1 ((Zw n.decls x2).length)).steps):Nat):Int)) (.n 55 (.i x1) .r))) [0] [b4] (ZA [] (Nn (V3 kd x1 ((Zw n.decls x2).length)) (Yr (V3 kd x1 ((Zw n.decls x2).length)).steps) 17 x1 (hm:=(Cw _)) (ha:=(fun s2 hs2 h17=>HC (EP ((QV _).1 hwr) s2 (TL hs2) (by rw [h17];rfl))))) (Z1 1 57 (.b (decide ((Xy 17 x1 ((V3 kd x1 ((Zw n.decls x2).length)).steps.take (Yr (V3 kd x1 ((Zw n.decls x2).length)).steps)) 0)>=0))) (ie (ZQ ((Xy 17 x1 ((V3 kd x1 ((Zw n.decls x2).length)).steps.take (Yr (V3 kd x1 ((Zw n.decls x2).length)).steps)) 0)>=0) (fun ZI=>?_) (fun ZI=>?_))))))))))))))
   ·refine az (Yn 2 58 (Z0 kept) 59 (.i x1) (ic [] (Z57 kept x1) ?_))
    rintro _ _ ⟨ys1,rfl,rfl,ZO⟩
    have hin:=ZO
    refine ir 1 [(3,Z0 ys1),(4,.p b1 0),(8,.p b3 0),(10,.p b4 0)] (ie ?_)
    exact ZU ⟨_,_,(Z3s om hg1 Zm hfl ((NN ((CA kd).1 hnk)).1 ZI) hin.2),hwr,(M5 hnk),ob,hin.1,rfl,rfl⟩ (wk [0,1,2] (fc (x:=Z0 ys1) (Zg.sl _ (Yv Z8 (by first|rfl|(rw [Zk Zm])|(rw [Za Zm])|(simp [Zm,ZI,ZO];done)|(rw [Xo];simp [Zm,ZI,ZO];done)|omega))) fl))
   refine ak ?_
   exact ZU ⟨_,_,(Z3t om hg1 Zm hfl (B3 fun z=>ZI ((NN ((CA kd).1 hnk)).2 z))),hwr,(M5 hnk),ob,ob,rfl,rfl⟩ (wk [0,1,2] (fc (x:=Z0 kept) (Zg.sl _ (Yv Z8 (by first|rfl|(rw [Zk Zm])|(rw [Za Zm])|(simp [Zm,ZI];done)|(rw [Xo];simp [Zm,ZI];done)|omega))) fl))
  refine ak ?_
  exact ZU ⟨_,_,(MM (fun z=>Zm (hg1▸z.2))),hwk,(AR hnk),ob,ob,rfl,rfl⟩ (wk [0,0,1] (fc (x:=Z0 kept) (Zg.sl _ (Yv Z8 (by first|rfl|(rw [Zk Zm])|(rw [Za Zm])|(simp [Zm];done)|(rw [Xo];simp [Zm];done)|omega))) fl))
 rintro F h ⟨B2,K2,Vt,Jh,Gi,Z80,Z81,rfl,rfl⟩
 refine ar (iR 3 [(8,.p b3 0),(61,ZB n),(62,Zq B2),(63,Z0 K2)] [2,0] [b1,b4] (ZA [] (ih B2 K2 (by first|exact hwk|exact Jh) (by first|exact AR hnk|exact Gi) ob ob) (ZF 1 b3 (Y9 (Wo n.decls K2 B2)) (ie ?_))))
 exact Zc (r3 [] [Zq (Wo n.decls K2 B2)] [0] [(b3,b3)] ⟨rfl,rfl⟩ (Zg.agg (.cons (Zg.sl _ (Yv Zs (by rw [Vt]))) (.cons (li (by rw [Vt])) .nil))))
theorem Z5c (n:Zx) (b:Z6) (kept:List Int) (hn:Xf n) (hw:wB n.decls b) (hn2:A5 b) (hK:kept.length+b.sz<=900000000) (ih:∀(s:Z4) (j:Nat) (kept:List Int) (kd:Z6),(wS n.decls s)->(s.kids[j]? = some kd)->(TW kd)->(kept.length+s.sz<=900000000)->(s.sz<b.sz)->Zj Tryz.prog 209 [ZB n,Y2 s,.i j,Z0 kept] [] (fun r h=>r=Zq (UW n.decls kept s.op s.num s.args j kd)/\h=[])):Zj Tryz.prog 165 [ZB n,Zq b,Z0 kept] [] (fun r h=>r=Zq (Wo n.decls kept b)/\h=[]):=by
 have Xu:=hn.decls
 have hbz:=Vv b
 refine ZL 61 Tryz.func165 (ar (iA (ZP n) ?_))
 intro b1
 refine iA (Y9 b) ?_
 intro b2
 refine iA [nl,.i 0] ?_
 intro b3
 refine ie (ar (iL (Zs []) 0 5 ?_))
 intro v1
 refine iR 3 [(2,Z0 kept),(3,.p b1 0),(4,.p b2 0),(6,.p b3 0),(15,.agg [ZV [] v1,.i b.result])] [2] [b2] (iA [nl,.i 0] ?_)
 intro b4
 refine ZF 0 b4 [ZV [] v1,.i b.result] (ie (aq (ar (Z1 1 8 (.i 0) (ie (ab 0 (al (fun m F h=>∃(k:Nat) (xs:List Z4) (v:Value),(k<=b.steps.length)/\(xs.length=k)/\(xs++Uf n.decls kept (b.steps.drop k)=Uf n.decls kept b.steps)/\F=[(2,Z0 kept),(3,.p b1 0),(4,.p b2 0),(6,.p b3 0),(7,.p b4 0),(8,.i k)]/\h=[.obj b4 [ZV xs v,.i b.result],.obj b3 [nl,.i 0],.obj b2 (Y9 b),.obj b1 (ZP n),.tail v 5]/\m=b.steps.length-k) _ _ _ ⟨0,[],v1,ob,ob,rfl,rfl,rfl,rfl⟩ (wk [0,1,1,1,0] (fq (fr (Yf fl)))) ?_)))))))
 rintro m F h ⟨k,xs,v,Ym,Zo,Zz,rfl,rfl,rfl⟩
 refine aq (ar (ZY 3 16 (.i k) 18 (Yi b.steps) [2] [b2] (iw (VD b.steps) (Z1 1 20 (.b (decide ((k:Int)<(b.steps.length:Int)))) (ie (ZQ ((k:Int)<(b.steps.length:Int)) (fun Ze=>?_) (fun Ze=>?_)))))))
 ·refine ak (aq (ab 1 (ar (ZY 3 24 (Yi b.steps) 25 (.i k) [2] [b2] ?_))))
  obtain ⟨x1,Z3⟩:=Zt (xs:=b.steps) (j:=k) om
  have XA:=AY Z3
  have hws:=NY hw Z3
  have hkz:=Ta x1
  have haz:=Q5 x1
  refine Zp (Zn none (k:Int) 5 (Wy Z3)) (Z1 1 27 (Y2 x1) (iA [.i 0,.i 0,.i 0,nl,nl] ?_))
  intro b5
  refine ZF 0 b5 (Ye x1) (ie (ar (iL (YH []) 0 2 ?_)))
  intro v2
  refine Z1 1 10 (X5 [] v2) (ie (aq (ar (Z1 1 11 (.i 0) (ie (ab 2 (al (fun m F h=>∃(j:Nat) (u:Value) (ks:List Z6),(j<=x1.kids.length)/\(ks.length=j)/\(ks++Ue n.decls kept x1.op x1.num x1.args (x1.kids.drop j) j=Ue n.decls kept x1.op x1.num x1.args x1.kids 0)/\F=[(2,Z0 kept),(3,.p b1 0),(4,.p b2 0),(6,.p b3 0),(7,.p b4 0),(8,.i k),(9,.p b5 0),(10,X5 ks u),(11,.i j)]/\h=[.obj b5 (Ye x1),.obj b4 [ZV xs v,.i b.result],.obj b3 [nl,.i 0],.obj b2 (Y9 b),.obj b1 (ZP n),.tail u 2,.tail v 5]/\m=x1.kids.length-j) _ _ _ ⟨0,v2,[],ob,ob,(by simp),rfl,rfl,rfl⟩ (wk [1,1,1,1,1,0,0] (fq (fq (Yf fl)))) ?_)))))))
  rintro m F h ⟨j,u,ks,Ui,Wg,XL,rfl,rfl,rfl⟩
  refine aq (ar (ZY 3 29 (.i j) 31 (Yx x1.kids) [0] [b5] (iw (VX x1.kids) (Z1 1 33 (.b (decide ((j:Int)<(x1.kids.length:Int)))) (ie (ZQ ((j:Int)<(x1.kids.length:Int)) (fun Zm=>?_) (fun Zm=>?_)))))))
  ·obtain ⟨kd,hkd⟩:=Zt (xs:=x1.kids) (j:=j) om
   refine ak (aq (ab 3 (az (Y1 5 (.n 36 (X5 ks u) (.n 37 (ZB n) (.n 38 (Y2 x1) (.n 39 (.i j) (.n 40 (Z0 kept) .r))))) [4,0] [b1,b5] (ZA [] (ih x1 j kept kd hws hkd (Z2c hn2 Z3 hkd) ob ob) (iL [Zq (UW n.decls kept x1.op x1.num x1.args j kd)] 1 2 ?_))))))
   intro v3
   refine Z5 0 (.n 42 (.sl [Zq (UW n.decls kept x1.op x1.num x1.args j kd)] none) (.p .r)) (ip 6 (YH (ks++[UW n.decls kept x1.op x1.num x1.args j kd])) (YH ks) [Zq (UW n.decls kept x1.op x1.num x1.args j kd)] u none 2 (T2 _) (TC rfl) rfl (by simp<;>omega) (by simp [J1,Ul]) ?_)
   intro v4
   refine Z5 1 (.n 10 (X5 (ks++[UW n.decls kept x1.op x1.num x1.args j kd]) v4) (.p (.d (.p (.d (.d (.d (.d (.d (.d (.p (.d (.d (.w (.k (.k (.k (.d .r)))))))))))))))))) (ie (az (Z1 1 34 (.i j) (ZM j (Z5 1 (.n 11 (.i (j+1:Nat)) (.p (.d (.w (.w .z))))) (ie ?_))))))
   exact ZT ⟨j+1,v4,(ks++[UW n.decls kept x1.op x1.num x1.args j kd]),ob,(by simp;omega),(Z3r hkd XL),rfl,rfl,rfl⟩ (wk [2,2,2,2,2,0,1] (fq (fq (ZW j fl))))
  have hK:=Z3q om XL
  refine ax 2 (aE 17 (Y5 6 17 [0,1,2,3,4,5,6,7,8,9,11] (.n 45 (ZV xs v) (.n 47 (.i x1.op) (.n 49 (.i x1.num) (.n 51 (.i x1.into) (.n 53 (Z0 x1.args) (.n 55 (X5 ks u) .r)))))) [1,0,0,0,0] [b4,b5,b5,b5,b5] (Z9 10 (dc 10 [] [0,0,0,1] [b5,b5,b5,b4] (VH x1.args) ?_))))
  rintro _ _ ⟨v5,rfl,rfl⟩
  refine ZX 4 5 [12] 56 (.agg [.i x1.op,.i x1.num,.i x1.into,Z0 x1.args,Yx ks]) (Z9 13 (dL 13 [1] [b4] [Y2 (Z4.mk x1.op x1.num x1.into x1.args ks)] 1 5 ?_))
  intro v6
  refine ZZ 3 3 [] (.n 57 (.sl [Y2 (Z4.mk x1.op x1.num x1.into x1.args ks)] none) (.p .r)) (Z9 14 (dp 14 8 [] [] (Zs (xs++[Z4.mk x1.op x1.num x1.into x1.args ks])) (Zs xs) [Y2 (Z4.mk x1.op x1.num x1.into x1.args ks)] v none 5 (X9 _) (TC rfl) rfl (by simp<;>omega) (by simp [Wx,V8]) ?_))
  intro v7
  refine ZX 1 2 [15] 59 (.p b4 0) (Z9 16 (YF 16 4 [] [] b4 [ZV (xs++[Z4.mk x1.op x1.num x1.into x1.args ks]) v7,.i b.result] (de (az (Z1 1 21 (.i k) (ZM k (ir 1 [(2,Z0 kept),(3,.p b1 0),(4,.p b2 0),(6,.p b3 0),(7,.p b4 0),(8,.i (k+1:Nat))] (ie ?_))))))))
  exact ZT ⟨k+1,(xs++[Z4.mk x1.op x1.num x1.into x1.args ks]),v7,ob,(by simp;omega),(by have h:=Z3x Z3 Zz;rw [<-hK] at h;exact h),rfl,rfl,rfl⟩ (wk [0,4,4,4,0] (fq (fr (ZW k fl))))
 refine ax 0 (ar (Yl 1 60 (.agg [ZV xs v,.i b.result]) [0] [b4] (ZF 1 b3 [ZV xs v,.i b.result] (ie ?_))))
 exact Zc (r3 [] [.agg [ZV xs v,.i b.result]] [0] [(b3,b3)] ⟨rfl,rfl⟩ (Zg.agg (.cons (Zg.sl _ (Yv Zs (by rw [Ef];exact Z3w om Zz))) (.cons (li (by rw [Ef];rfl)) .nil))))
theorem Z5e (n:Zx) (hn:Xf n) (k:Nat):(∀(s:Z4) (j:Nat) (kept:List Int) (kd:Z6),(wS n.decls s)->(s.kids[j]? = some kd)->(TW kd)->(kept.length+s.sz<=900000000)->(s.sz<=k)->Zj Tryz.prog 209 [ZB n,Y2 s,.i j,Z0 kept] [] (fun r h=>r=Zq (UW n.decls kept s.op s.num s.args j kd)/\h=[]))/\(∀(b:Z6) (kept:List Int),(wB n.decls b)->(A5 b)->(kept.length+b.sz<=900000000)->(b.sz<=k)->Zj Tryz.prog 165 [ZB n,Zq b,Z0 kept] [] (fun r h=>r=Zq (Wo n.decls kept b)/\h=[])):=by
 induction k with
 | zero=>exact ⟨fun s j K kd h1 h2 h3 h4 h5=>by have:=s.sz_pos;omega,fun b K h1 h2 h3 h4=>by have:=b.sz_eq;omega⟩
 | succ k ih=>exact ⟨fun s j K kd h1 h2 h3 h4 h5=>Z5d n s j K kd hn h1 h2 h3 h4 fun b2 K2 q1 q2 q3 q4=>ih.2 b2 K2 q1 q2 q3 om,fun b K h1 h2 h3 h4=>Z5c n b K hn h1 h2 h3 fun s j K2 kd q1 q2 q3 q4 q5=>ih.1 s j K2 kd q1 q2 q3 q4 om⟩
theorem Z5b (n:Zx) (b:Z6) (kept:List Int) (hn:Xf n:=by exact ob) (hw:wB n.decls b:=by exact ob) (hn2:A5 b:=by exact ob) (hK:kept.length+b.sz<=900000000:=by exact ob):Zj Tryz.prog 165 [ZB n,Zq b,Z0 kept] [] (fun r h=>r=Zq (Wo n.decls kept b)/\h=[]):=(Z5e n hn b.sz).2 b kept hw hn2 hK (X7 _)
theorem Sy (n:Zx) (hn:Xf n:=by exact ob) (hz:Qt n:=by exact ob) (hwb:∀r∈n.routines,wB n.decls r.body):Zj Tryz.prog 125 [ZB n] [] (fun r h=>r=ZB (Ev n)/\h=[]):=by
 have hzl:=hn.len
 refine ZL 38 Tryz.func125 (ar (iA (ZP n) ?_))
 intro b1
 refine iA [nl,nl] ?_
 intro b2
 refine ie (ar (iR 2 [(1,.p b1 0),(2,.p b2 0),(7,Zd n.decls)] [1] [b1] (ZA [] (AW n.decls (hd:=hn.decls)) (iL (YL []) 0 5 ?_))))
 intro v1
 refine Z1 1 10 (.agg [Zd n.decls,Xi [] v1]) (iA [nl,nl] ?_)
 intro b3
 refine ZF 0 b3 [Zd n.decls,Xi [] v1] (ie (aq (ar (Z1 1 4 (.i 0) (ie (ab 0 (al (fun m F h=>∃(k:Nat) (v:Value),(k<=n.routines.length)/\F=[(1,.p b1 0),(2,.p b2 0),(3,.p b3 0),(4,.i k)]/\h=[.obj b3 [Zd n.decls,Xi ((n.routines.take k).map (KG n.decls)) v],.obj b2 [nl,nl],.obj b1 (ZP n),.tail v 5]/\m=n.routines.length-k) _ _ _ ⟨0,v1,ob,rfl,rfl,rfl⟩ (wk [0,1,1,0] (fw (fr (Yf fl)))) ?_)))))))
 rintro m F h ⟨k,v,Ym,rfl,rfl,rfl⟩
 refine aq (ar (ZY 3 11 (.i k) 13 (X6 n.routines) [2] [b1] (iw (Un n.routines) (Z1 1 15 (.b (decide ((k:Int)<(n.routines.length:Int)))) (ie (ZQ ((k:Int)<(n.routines.length:Int)) (fun Ze=>?_) (fun Ze=>?_)))))))
 ·refine ak (aq (ab 1 (ar (ZY 3 19 (X6 n.routines) 20 (.i k) [2] [b1] ?_))))
  obtain ⟨x1,Z3⟩:=Zt (xs:=n.routines) (j:=k) om
  have hrm:=Y6 Z3
  have hbz:=hz.body _ hrm
  have hpl:=hn.params_at Z3
  have hll:=hn.lent_at Z3
  have hww:=hwb _ hrm
  refine Zp (Zn none (k:Int) 5 (WH Z3)) (Z1 1 22 (Vd x1) (iA [nl,nl,.i 0,nl,.i 0] ?_))
  intro b4
  refine ZF 0 b4 (UG x1) (ie (aE 15 (Y5 7 15 [0,1,2,3,4,5,6,7] (.n 24 (Xi ((n.routines.take k).map (KG n.decls)) v) (.n 25 (Vd x1) (.n 26 (ZB n) (.n 28 (Zq x1.body) (.n 30 (Z0 x1.params) .r))))) [1,0,3,0,0] [b3,b4,b1,b4,b4] (dw 8 (Yd x1.params) (Z9 9 (Yt 9 [] [0,1] [b4,b3] (Z5j n x1.body x1.params.length (hw:=hww)) (Z9 10 (Yt 10 [] [1] [b3] (BP x1 (WE n.decls x1.params.length x1.body)) (Z9 11 (dL 11 [1] [b3] (YL [Yj.mk x1.params x1.lent x1.result (WE n.decls x1.params.length x1.body)]) 1 5 ?_))))))))))
  intro v2
  refine ZZ 3 3 [] (.n 34 (X6 [Yj.mk x1.params x1.lent x1.result (WE n.decls x1.params.length x1.body)]) (.p .r)) (Z9 12 (dp 12 5 [] [] (YL ((n.routines.take (k+1)).map (KG n.decls))) (YL ((n.routines.take k).map (KG n.decls))) (YL [Yj.mk x1.params x1.lent x1.result (WE n.decls x1.params.length x1.body)]) v none 5 (U8 _) (U8 _) (JR _) (by simp<;>omega) (by rw [WQ Z3];simp [YL,KG]) ?_))
  intro v3
  refine ZX 1 2 [13] 36 (.p b3 1) (Z9 14 (YF 14 3 [] [] b3 [Zd n.decls,Xi ((n.routines.take (k+1)).map (KG n.decls)) v3] (de (az (Z1 1 16 (.i k) (ZM k (ir 1 [(1,.p b1 0),(2,.p b2 0),(3,.p b3 0),(4,.i (k+1:Nat))] (ie ?_))))))))
  exact ZT ⟨k+1,v3,ob,rfl,rfl,rfl⟩ (wk [0,3,3,0] (fw (fr (ZW k fl))))
 refine ax 0 (ar (Yl 1 37 (.agg [Zd n.decls,Xi ((n.routines.take k).map (KG n.decls)) v]) [0] [b3] (ZF 1 b2 [Zd n.decls,Xi ((n.routines.take k).map (KG n.decls)) v] (ie ?_))))
 exact Zc (r3 [] [.agg [Zd n.decls,Xi ((n.routines.take k).map (KG n.decls)) v]] [0] [(b2,b2)] ⟨rfl,rfl⟩ (Zg.agg (.cons (Zg.sl _ (Yv YU ob)) (.cons (Zg.sl _ (Yv YL (by rw [Vb om];rfl))) .nil))))
theorem Sv (n:Zx) (hn:Xf n:=by exact ob) (hz:Qt n:=by exact ob) (hwb:∀r∈n.routines,wB n.decls r.body) (hnr:∀r∈n.routines,TW r.body):Zj Tryz.prog 126 [ZB n] [] (fun r h=>r=ZB (Eg n)/\h=[]):=by
 have hzl:=hn.len
 refine ZL 38 Tryz.func126 (ar (iA (ZP n) ?_))
 intro b1
 refine iA [nl,nl] ?_
 intro b2
 refine ie (ar (iR 2 [(1,.p b1 0),(2,.p b2 0),(6,Zd n.decls)] [1] [b1] (ZA [] (AW n.decls (hd:=hn.decls)) (iL (YL []) 0 5 ?_))))
 intro v1
 refine Z1 1 9 (.agg [Zd n.decls,Xi [] v1]) (iA [nl,nl] ?_)
 intro b3
 refine ZF 0 b3 [Zd n.decls,Xi [] v1] (ie (aq (ar (Z1 1 4 (.i 0) (ie (ab 0 (al (fun m F h=>∃(k:Nat) (v:Value),(k<=n.routines.length)/\F=[(1,.p b1 0),(2,.p b2 0),(3,.p b3 0),(4,.i k)]/\h=[.obj b3 [Zd n.decls,Xi ((n.routines.take k).map (KC n.decls)) v],.obj b2 [nl,nl],.obj b1 (ZP n),.tail v 5]/\m=n.routines.length-k) _ _ _ ⟨0,v1,ob,rfl,rfl,rfl⟩ (wk [0,1,1,0] (fw (fr (Yf fl)))) ?_)))))))
 rintro m F h ⟨k,v,Ym,rfl,rfl,rfl⟩
 refine aq (ar (ZY 3 10 (.i k) 12 (X6 n.routines) [2] [b1] (iw (Un n.routines) (Z1 1 14 (.b (decide ((k:Int)<(n.routines.length:Int)))) (ie (ZQ ((k:Int)<(n.routines.length:Int)) (fun Ze=>?_) (fun Ze=>?_)))))))
 ·refine ak (aq (ab 1 (aE 21 (Y5 16 21 [0,1,2,3,4] (.n 18 (Xi ((n.routines.take k).map (KC n.decls)) v) (.n 20 (X6 n.routines) (.n 21 (.i k) .r))) [0,2] [b3,b1] ?_))))
  obtain ⟨x1,Z3⟩:=Zt (xs:=n.routines) (j:=k) om
  have hrm:=Y6 Z3
  have hbz:=hz.body _ hrm
  have hpl:=hn.params_at Z3
  have hll:=hn.lent_at Z3
  have hww:=hwb _ hrm
  refine dx 5 (Zn none (k:Int) 5 (WH Z3)) (Y5 10 15 [6,7,8,9,10] (.n 23 (Vd x1) (.n 24 (ZB n) (.n 26 (X6 n.routines) (.n 27 (.i k) .r)))) [2,2] [b1,b1] (dx 11 (Zn none (k:Int) 5 (WH Z3)) (ZX 7 9 [12,13] 30 (Zq x1.body) (Z9 14 (dL 14 [2,2,2,0] [b1,b1,b1,b3] (Z8 []) 0 1 ?_)))))
  intro v2
  refine ZZ 6 6 [] (.n 31 (Z0 []) (.p .r)) (Z9 15 (Yt 15 [] [2,0] [b1,b3] (Z5b n x1.body [] (hw:=hww) (hn2:=(AR (hnr _ hrm)))) (Z9 16 (Yt 16 [] [0] [b3] (BP x1 (Wo n.decls [] x1.body)) (Z9 17 (dL 17 [0] [b3] (YL [Yj.mk x1.params x1.lent x1.result (Wo n.decls [] x1.body)]) 1 5 ?_))))))
  intro v3
  refine ZZ 3 3 [] (.n 34 (X6 [Yj.mk x1.params x1.lent x1.result (Wo n.decls [] x1.body)]) (.p .r)) (Z9 18 (dp 18 5 [] [] (YL ((n.routines.take (k+1)).map (KC n.decls))) (YL ((n.routines.take k).map (KC n.decls))) (YL [Yj.mk x1.params x1.lent x1.result (Wo n.decls [] x1.body)]) v none 5 (U8 _) (U8 _) (JR _) (by simp<;>omega) (by rw [WQ Z3];simp [YL,KC]) ?_))
  intro v4
  refine ZX 1 2 [19] 36 (.p b3 1) (Z9 20 (YF 20 3 [] [] b3 [Zd n.decls,Xi ((n.routines.take (k+1)).map (KC n.decls)) v4] (de (az (Z1 1 15 (.i k) (ZM k (ir 1 [(1,.p b1 0),(2,.p b2 0),(3,.p b3 0),(4,.i (k+1:Nat))] (ie ?_))))))))
  exact ZT ⟨k+1,v4,ob,rfl,rfl,rfl⟩ (wk [0,3,3,0] (fw (fr (ZW k fl))))
 refine ax 0 (ar (Yl 1 37 (.agg [Zd n.decls,Xi ((n.routines.take k).map (KC n.decls)) v]) [0] [b3] (ZF 1 b2 [Zd n.decls,Xi ((n.routines.take k).map (KC n.decls)) v] (ie ?_))))
 exact Zc (r3 [] [.agg [Zd n.decls,Xi ((n.routines.take k).map (KC n.decls)) v]] [0] [(b2,b2)] ⟨rfl,rfl⟩ (Zg.agg (.cons (Zg.sl _ (Yv YU ob)) (.cons (Zg.sl _ (Yv YL (by rw [Vb om];rfl))) .nil))))
theorem L6 (rd:Nat) (bs:List Int) (p:Nat) (ZD:∀z∈bs,0<=z/\z<=255) (hp:p+400001<=1000000000:=by exact ob):Zj Tryz.prog 84 [.p rd 0] [Yk rd bs p] (fun r h=>∃(n:Zx) (p2:Nat),r=ZB n/\h=[Yk rd bs p2]/\FO n 181 Wp/\p<=p2/\p2<=p+400001):=by
 refine ZL 13 Tryz.func84 (ar (iA [nl,nl] ?_))
 intro b1
 refine ie (ar (ir 1 [(0,.p rd 0),(2,.p b1 0),(4,.p rd 0)] (ic [1] (S1 rd bs p (ZD:=ob)) ?_)))
 rintro _ _ ⟨g1,p21,rfl,rfl,ZO⟩
 have TU:=ZO
 refine ic [] (Sn g1 (hg:=TU.1)) ?_
 rintro _ _ ⟨n1,rfl,rfl,Y0⟩
 have hnm:=Y0
 refine iA [nl,nl] ?_
 intro b2
 refine ZF 0 b2 (ZP n1) (ie (aq (ar (Z1 1 7 (.p rd 0) (ic [1] (XP rd bs p21 3 (ZD:=ob)) ?_)))))
 rintro _ _ ⟨k1,rfl,rfl,Yz⟩
 refine Z1 1 9 (.b (k1==0)) (ie (ac (k1==0) Zh (fun Ze=>?_) (fun Ze=>?_)))
 ·refine ar (Yl 1 10 (ZB n1) [1] [b2] (ic [] (Sc n1 181 (hn:=hnm)) ?_))
  rintro _ _ ⟨n21,rfl,rfl,YM⟩
  have hlm:=YM
  refine ZF 2 b1 (ZP n21) (ie ?_)
  exact Zc (r3 [1] [ZB n21] [0] [(b1,b1)] ⟨n21,p21+1,rfl,rfl,(by first|exact ⟨hlm,by omega,by omega⟩|exact ⟨hnm,by omega,by omega⟩)⟩ (lr _))
 refine ak (ar (Yl 1 12 (ZB n1) [1] [b2] (ZF 2 b1 (ZP n1) (ie ?_))))
 exact Zc (r3 [1] [ZB n1] [0] [(b1,b1)] ⟨n1,p21+1,rfl,rfl,(by first|exact ⟨hlm,by omega,by omega⟩|exact ⟨hnm,by omega,by omega⟩)⟩ (lr _))
theorem RU (rd:Nat) (bs:List Int) (p:Nat) (ZD:∀z∈bs,0<=z/\z<=255) (hp:p+400002<=1000000000:=by exact ob):Zj Tryz.prog 122 [.p rd 0] [Yk rd bs p] (fun r h=>∃(n:Zx) (p2:Nat),r=ZB n/\h=[Yk rd bs p2]/\FO n 814510 V6/\p<=p2/\p2<=p+400002):=by
 refine ZL 15 Tryz.func122 (ar (iA [nl,nl] ?_))
 intro b1
 refine ie (ar (ir 1 [(0,.p rd 0),(2,.p b1 0),(5,.p rd 0)] (ic [1] (L6 rd bs p (ZD:=ob)) ?_)))
 rintro _ _ ⟨n1,p21,rfl,rfl,ZO⟩
 have hpf:=ZO
 refine iA [nl,nl] ?_
 intro b2
 refine ZF 0 b2 (ZP n1) (ie (ar (Yl 1 7 (ZB n1) [0] [b2] (ic [] (RT n1 181 (hn:=hpf.1)) ?_))))
 rintro _ _ ⟨n21,rfl,rfl,Y0⟩
 have hcf:=FO.le Y0 (show 4500*181+10<=814510 by omega)
 refine iA [nl,nl] ?_
 intro b3
 refine ZF 0 b3 (ZP n21) (ie (aq (ar (Z1 1 9 (.p rd 0) (ic [2] (XP rd bs p21 4 (ZD:=ob)) ?_)))))
 rintro _ _ ⟨k1,rfl,rfl,Yz⟩
 refine Z1 1 11 (.b (k1==0)) (ie (ac (k1==0) Zh (fun Ze=>?_) (fun Ze=>?_)))
 ·refine az (Yl 1 12 (ZB n1) [2] [b2] (ic [] (S5 n1 181 (hn:=hpf.1)) ?_))
  rintro _ _ ⟨n22,rfl,rfl,YM⟩
  have hlf:=FO.le YM (show 60*181<=814510 by omega)
  refine ZF 1 b3 (ZP n22) (ie (ar (Yl 1 14 (ZB n22) [0] [b3] (ZF 3 b1 (ZP n22) (ie ?_)))))
  exact Zc (r3 [2] [ZB n22] [0] [(b1,b1)] ⟨n22,p21+1,rfl,rfl,(by first|exact ⟨hlf,by omega,by omega⟩|exact ⟨hcf,by omega,by omega⟩)⟩ (lr _))
 refine ak (ar (Yl 1 14 (ZB n21) [1] [b3] (ZF 3 b1 (ZP n21) (ie ?_))))
 exact Zc (r3 [1] [ZB n21] [0] [(b1,b1)] ⟨n21,p21+1,rfl,rfl,(by first|exact ⟨hlf,by omega,by omega⟩|exact ⟨hcf,by omega,by omega⟩)⟩ (lr _))
theorem RA (rd:Nat) (bs:List Int) (p:Nat) (ZD:∀z∈bs,0<=z/\z<=255) (hp:p+400030<=1000000000:=by exact ob):Zj Tryz.prog 85 [.p rd 0] [Yk rd bs p] (fun r h=>∃(n:Zx) (p2:Nat),r=ZB n/\h=[Yk rd bs p2]/\ZN n 7330630/\p<=p2/\p2<=p+400030):=by
 refine ZL 35 Tryz.func85 (ar (iA [nl,nl] ?_))
 intro b1
 refine ie (ar (ir 1 [(0,.p rd 0),(2,.p b1 0),(5,.p rd 0)] (ic [1] (RU rd bs p (ZD:=ob)) ?_)))
 rintro _ _ ⟨n1,p21,rfl,rfl,ZO⟩
 have hcf:=FO.le ZO.1 (show 814510<=814514 by omega)
 have hcp:=ZO
 refine iA [nl,nl] ?_
 intro b2
 refine ZF 0 b2 (ZP n1) (ie (aq (ar (Z1 1 7 (.p rd 0) (ic [1] (XP rd bs p21 4 (ZD:=ob)) ?_)))))
 rintro _ _ ⟨k1,rfl,rfl,Y0⟩
 refine Z1 1 9 (.b (k1==0)) (ie (XK (fun F h=>∃(na:Zx) (pa:Nat),(FO na 814514 V6)/\(p<=pa/\pa<=p+400010)/\F=[(0,.p rd 0),(2,.p b1 0),(3,.p b2 0)]/\h=[Yk rd bs pa,.obj b2 (ZP na),.obj b1 [nl,nl]]) ?_ ?_))
 ·refine ac (k1==0) Zh (fun Ze=>?_) (fun Ze=>?_)
  ·refine az (iR 2 [(0,.p rd 0),(2,.p b1 0),(3,.p b2 0),(10,.p rd 0),(11,ZB n1)] [1] [b2] (ic [0] (IZ rd bs (p21+1) n1 (ZD:=ob) (hz:=(by first|exact (FO.zn hcp.1).sz om|exact TV.sz om)) (hl1:=(by first|(have:=hcp.1.fn.len;omega)|(have:=TV.len;omega)))) ?_))
   rintro _ _ ⟨n21,p22,rfl,rfl,Yz⟩
   have hho:=Yz
   refine ZF 1 b2 (ZP n21) (ie ?_)
   exact ZU ⟨n21,p22,(FO.held hcp.1 hho.1),ob,rfl,rfl⟩ (wk [1,0,0] fl)
  refine ak ?_
  exact ZU ⟨n1,p21+1,hcf,ob,rfl,rfl⟩ (ZJ 3 fl)
 rintro F h ⟨na,pa,QF,Gh,rfl,rfl⟩
 refine aq (ar (ir 1 [(0,.p rd 0),(2,.p b1 0),(3,.p b2 0),(13,.p rd 0)] (ic [0] (XP rd bs pa 4 (ZD:=ob)) ?_)))
 rintro _ _ ⟨k2,rfl,rfl,YM⟩
 refine Z1 1 15 (.b (k2==0)) (ie (XK (fun F h=>∃(nb:Zx) (pb:Nat),(FO nb 814514 V6)/\(p<=pb/\pb<=p+400012)/\F=[(0,.p rd 0),(2,.p b1 0),(3,.p b2 0)]/\h=[Yk rd bs pb,.obj b2 (ZP nb),.obj b1 [nl,nl]]) ?_ ?_))
 ·refine ac (k2==0) Zh (fun Zm=>?_) (fun Zm=>?_)
  ·refine az (iR 1 [(0,.p rd 0),(2,.p b1 0),(3,.p b2 0),(16,ZB na)] [1] [b2] (ic [] (RH na 814514 (hn:=QF)) ?_))
   rintro _ _ ⟨n22,rfl,rfl,YX⟩
   have hca:=YX
   refine ZF 1 b2 (ZP n22) (ie ?_)
   exact ZU ⟨n22,pa+1,hca,ob,rfl,rfl⟩ (wk [1,0,0] fl)
  refine ak ?_
  exact ZU ⟨na,pa+1,QF,ob,rfl,rfl⟩ (ZJ 3 fl)
 rintro F h ⟨nb,pb,Vt,Jh,rfl,rfl⟩
 refine ar (ir 1 [(0,.p rd 0),(2,.p b1 0),(3,.p b2 0),(18,.p rd 0)] (ic [0] (XP rd bs pb 3 (ZD:=ob)) ?_))
 rintro _ _ ⟨k3,rfl,rfl,Xw⟩
 refine Z1 1 4 (.i k3) (ie (aq (ar (Z1 2 21 (.b (decide (k3>0))) (ie (XK (fun F h=>∃(nc:Zx) (pc:Nat),(ZN nc 7330626)/\(k3>1->WN nc 7330626)/\(p<=pc/\pc<=p+400014)/\F=[(0,.p rd 0),(2,.p b1 0),(3,.p b2 0),(4,.i k3)]/\h=[Yk rd bs pc,.obj b2 (ZP nc),.obj b1 [nl,nl]]) ?_ ?_))))))
 ·refine ZQ (k3>0) (fun ZI=>?_) (fun ZI=>?_)
  ·refine az (iR 1 [(0,.p rd 0),(2,.p b1 0),(3,.p b2 0),(4,.i k3),(22,ZB nb)] [1] [b2] (ZA [] (Sy nb (hn:=Vt.fn.ok) (hz:=(Vt.zn.sz om)) (hwb:=(fun r hr=>(Vt.wl om r hr).w))) (ZF 1 b2 (ZP (Ev nb)) (ie ?_))))
   exact ZU ⟨(Ev nb),pb+1,((Vt.wn om).sp.zn),(fun _=>(Vt.wn om).sp),ob,rfl,rfl⟩ (wk [1,0,0] fl)
  refine ak ?_
  exact ZU ⟨nb,pb+1,(Vt.zn.le om),(fun h=>by omega),ob,rfl,rfl⟩ (ZJ 3 fl)
 rintro F h ⟨nc,pc,Cr,Cs,Z10,rfl,rfl⟩
 refine aq (ar (ir 2 [(0,.p rd 0),(2,.p b1 0),(3,.p b2 0),(25,.b (decide (k3>1)))] (ie (XK (fun F h=>∃(nd:Zx) (pd:Nat),(ZN nd 7330626)/\(p<=pd/\pd<=p+400014)/\F=[(0,.p rd 0),(2,.p b1 0),(3,.p b2 0)]/\h=[Yk rd bs pd,.obj b2 (ZP nd),.obj b1 [nl,nl]]) ?_ ?_))))
 ·refine ZQ (k3>1) (fun Yh=>?_) (fun Yh=>?_)
  ·refine az (iR 1 [(0,.p rd 0),(2,.p b1 0),(3,.p b2 0),(26,ZB nc)] [1] [b2] (ZA [] (Sv nc (hn:=(Cs (by assumption)).ok) (hz:=(Cr.sz om)) (hwb:=(fun r hr=>((Cs (by assumption)).wl r hr).w)) (hnr:=(fun r hr=>((Cs (by assumption)).wl r hr).nr))) (ZF 1 b2 (ZP (Eg nc)) (ie ?_))))
   exact ZU ⟨(Eg nc),pc,(Cs (by assumption)).ru,ob,rfl,rfl⟩ (wk [1,0,0] fl)
  refine ak ?_
  exact ZU ⟨nc,pc,Cr,ob,rfl,rfl⟩ (ZJ 3 fl)
 rintro F h ⟨nd,pd,TV,Z11,rfl,rfl⟩
 refine aq (ar (ir 1 [(0,.p rd 0),(2,.p b1 0),(3,.p b2 0),(28,.p rd 0)] (ic [0] (XP rd bs pd 6 (ZD:=ob)) ?_)))
 rintro _ _ ⟨k4,rfl,rfl,Wh⟩
 refine Z1 1 30 (.b (k4==0)) (ie (ac (k4==0) Zh (fun Xk=>?_) (fun Xk=>?_)))
 ·refine az (ZY 2 31 (.p rd 0) 32 (ZB nd) [1] [b2] (ic [0] (IZ rd bs (pd+1) nd (ZD:=ob) (hz:=(by first|exact (FO.zn hcp.1).sz om|exact TV.sz om)) (hl1:=(by first|(have:=hcp.1.fn.len;omega)|(have:=TV.len;omega)))) ?_))
  rintro _ _ ⟨n23,p23,rfl,rfl,WC⟩
  have hho:=WC
  refine ZF 1 b2 (ZP n23) (ie (ar (Yl 1 34 (ZB n23) [0] [b2] (ZF 2 b1 (ZP n23) (ie ?_)))))
  exact Zc (r3 [2] [ZB n23] [0] [(b1,b1)] ⟨n23,p23,rfl,rfl,(by first|exact ⟨TV.held hho.1,by omega,by omega⟩|exact ⟨TV.le om,by omega,by omega⟩)⟩ (lr _))
 refine ak (ar (Yl 1 34 (ZB nd) [1] [b2] (ZF 2 b1 (ZP nd) (ie ?_))))
 exact Zc (r3 [1] [ZB nd] [0] [(b1,b1)] ⟨nd,pd+1,rfl,rfl,(by first|exact ⟨TV.held hho.1,by omega,by omega⟩|exact ⟨TV.le om,by omega,by omega⟩)⟩ (lr _))
theorem La (rd:Nat) (bs:List Int) (p:Nat) (xs:List Int) (ZD:∀z∈bs,0<=z/\z<=255) (hp:p+3<=1000000000:=by exact ob) (hl:xs.length<=1000000:=by exact ob):Zj Tryz.prog 52 [.p rd 0,Z0 xs] [Yk rd bs p] (fun r h=>∃(zs:List Int) (p2:Nat),r=Z0 zs/\h=[Yk rd bs p2]/\zs.length<=xs.length+1/\p<=p2/\p2<=p+3):=by
 refine ZL 32 Tryz.func52 (ar (ir 1 [(0,.p rd 0),(1,Z0 xs)] (ie (ar (Z1 1 6 (Z0 xs) (ic [] (Ac xs) ?_))))))
 rintro _ _ ⟨v1,rfl,rfl⟩
 refine Z1 1 5 (.h v1) (ie (aq (ar (Z1 1 8 (.h v1) (Zp (Jq 0 v1 xs) (Z1 2 11 (.b (decide ((xs.length:Int)>0))) (ib (b:=(decide ((xs.length:Int)>0))) 11 (fun Zb=>?_) (fun Zb=>?_))))))))
 ·have ZO:(xs.length:Int)>0:=(dq).1 Zb
  refine Z5 1 (.n 12 (.p rd 0) (.k (.d .r))) (ic [1] (XP rd bs p 2 (ZD:=ob)) ?_)
  rintro _ _ ⟨k1,rfl,rfl,Y0⟩
  refine Z1 2 15 (.b (k1==0)) (ie (ac (k1==0) Zh (fun Ze=>?_) (fun Ze=>?_)))
  ·refine ar (Z5 3 (.n 16 (.h v1) (.n 17 (.p rd 0) (.n 18 (.h v1) .r))) (Zp (Jq 1 v1 xs) (ic [0] (K1 rd bs (p+1) xs.length (ZD:=ob)) ?_)))
   rintro _ _ ⟨Y7,rfl,rfl,Yz⟩
   refine Z1 1 21 (.p rd 0) (iL (Z8 [0,1,-1,7,1000,1001]) 6 1 ?_)
   intro v2
   refine Z5 0 (.n 22 (Z0 [0,1,-1,7,1000,1001]) (.p .r)) (ic [1] (Vr rd bs ((p+1)+1) [0,1,-1,7,1000,1001] (ZD:=ob)) ?_)
   rintro _ _ ⟨z1,rfl,rfl,YM⟩
   refine Zp (Vx 2 v1 xs (Y7:Int) Y7) (Lk 2 v1 xs Y7 z1 (ie (ar (ir 2 [(4,.h v1)] (ie (D4 4 0 (v:=v1) (xs:=(xs.set Y7 z1)) ?_))))))
   exact Zc (r2 [1] [Z7 (xs.set Y7 z1) v1.v] ⟨(xs.set Y7 z1),((p+1)+1)+1,rfl,rfl,⟨by simp,by omega,by omega⟩⟩ (Zg.forget _ _))
  refine ak (ar (ir 2 [(26,.h v1),(27,.p rd 0)] (iL (Z8 [0,1,2,-1,1000]) 5 1 ?_)))
  intro v3
  refine Z5 0 (.n 28 (Z0 [0,1,2,-1,1000]) (.p .r)) (ic [1] (Vr rd bs (p+1) [0,1,2,-1,1000] (ZD:=ob)) ?_)
  rintro _ _ ⟨z2,rfl,rfl,YX⟩
  refine iL (Z8 [z2]) 1 1 ?_
  intro v4
  refine Z5 0 (.n 30 (Z0 [z2]) (.p .r)) (Kw 3 v1 xs [z2] none ?_)
  intro v5
  refine ir 1 [(4,.h v5)] (ie (D4 4 0 (v:=v5) (xs:=(xs++[z2])) ?_))
  exact Zc (r2 [2] [Z7 (xs++[z2]) v5.v] ⟨(xs++[z2]),(p+1)+1,rfl,rfl,⟨by simp,by omega,by omega⟩⟩ (Zg.forget _ _))
 have Xw:¬((xs.length:Int)>0):=ZH dq Zb
 refine Z5 4 (.n 15 (.b false) (.k (.d .r))) (ie (WT (ak (ar (ir 2 [(26,.h v1),(27,.p rd 0)] (iL (Z8 [0,1,2,-1,1000]) 5 1 ?_))))))
 intro v6
 refine Z5 0 (.n 28 (Z0 [0,1,2,-1,1000]) (.p .r)) (ic [2] (Vr rd bs p [0,1,2,-1,1000] (ZD:=ob)) ?_)
 rintro _ _ ⟨z3,rfl,rfl,Wh⟩
 refine iL (Z8 [z3]) 1 1 ?_
 intro v7
 refine Z5 0 (.n 30 (Z0 [z3]) (.p .r)) (Kw 3 v1 xs [z3] none ?_)
 intro v8
 refine ir 1 [(4,.h v8)] (ie (D4 4 0 (v:=v8) (xs:=(xs++[z3])) ?_))
 exact Zc (r2 [2] [Z7 (xs++[z3]) v8.v] ⟨(xs++[z3]),p+1,rfl,rfl,⟨by simp,by omega,by omega⟩⟩ (Zg.forget _ _))
theorem Pq (s:Z4) (hz:s.sz<=1000000000:=by exact ob):Zj Tryz.prog 127 [Y2 s] [] (fun r h=>∃(v:Hd),r=.agg [.i s.op,.i s.num,.i s.into,.h v,Yx s.kids]/\h=[rV v s.args]):=by
 have hkz:=Ta s
 have haz:=Q5 s
 refine ZL 33 Tryz.func127 (ar (iA (Ye s) ?_))
 intro b1
 refine iA [.i 0,.i 0,.i 0,nl,nl] ?_
 intro b2
 refine ie (ar (iL (YH []) 0 2 ?_))
 intro v1
 refine ir 1 [(1,.p b1 0),(2,.p b2 0),(3,X5 [] v1)] (ie (aq (ar (Z1 1 4 (.i 0) (ie (ab 0 (al (fun m F h=>∃(k:Nat) (v:Value),(k<=s.kids.length)/\F=[(1,.p b1 0),(2,.p b2 0),(3,X5 (s.kids.take k) v),(4,.i k)]/\h=[.obj b2 [.i 0,.i 0,.i 0,nl,nl],.obj b1 (Ye s),.tail v 2]/\m=s.kids.length-k) _ _ _ ⟨0,v1,ob,rfl,rfl,rfl⟩ (wk [1,1,0] (fw (fc (x:=X5 [] v1) (Zg.slh _ (Yv YH rfl)) (Yf fl)))) ?_)))))))
 rintro m F h ⟨k,v,Ym,rfl,rfl,rfl⟩
 refine aq (ar (ZY 3 6 (.i k) 8 (Yx s.kids) [1] [b1] (iw (VX s.kids) (Z1 1 10 (.b (decide ((k:Int)<(s.kids.length:Int)))) (ie (ZQ ((k:Int)<(s.kids.length:Int)) (fun Ze=>?_) (fun Ze=>?_)))))))
 ·refine ak (aq (ab 1 (az (Y1 4 (.n 13 (X5 (s.kids.take k) v) (.n 15 (Yx s.kids) (.n 16 (.i k) .r))) [1] [b1] ?_))))
  obtain ⟨x1,Z3⟩:=Zt (xs:=s.kids) (j:=k) om
  have hks:=T9 Z3
  refine Zp (Zn none (k:Int) 2 (Uz Z3)) (Z1 1 18 (Zq x1) (ZA [] (Ew x1) (iL [Zq x1] 1 2 ?_)))
  intro v2
  refine Z5 0 (.n 20 (.sl [Zq x1] none) (.p .r)) (ip 3 (YH (s.kids.take (k+1))) (YH (s.kids.take k)) [Zq x1] v none 2 (T2 _) (TC rfl) rfl (by simp<;>omega) (by rw [WQ Z3];simp [Ul]) ?_)
  intro v3
  refine ir 1 [(1,.p b1 0),(2,.p b2 0),(3,X5 (s.kids.take (k+1)) v3),(4,.i k)] (ie (az (Z1 1 11 (.i k) (ZM k (Z5 1 (.n 4 (.i (k+1:Nat)) (.p (.d (.k (.k (.k .z)))))) (ie ?_))))))
  exact ZT ⟨k+1,v3,ob,rfl,rfl,rfl⟩ (wk [2,2,0] (fw (fr (ZW k fl))))
 refine ax 0 (aD 12 (W3 3 12 [0,1,2,3,4,5,6,7,9] [(2,.p b2 0),(23,.i s.op),(25,.i s.num),(27,.i s.into),(29,Z0 s.args),(31,X5 (s.kids.take k) v)] [1,1,1,1] [b1,b1,b1,b1] (Z9 8 (dc 8 [] [1,1,1] [b1,b1,b1] (Ac s.args) ?_))))
 rintro _ _ ⟨v4,rfl,rfl⟩
 refine ZX 1 2 [10] 32 (.agg [.i s.op,.i s.num,.i s.into,.h v4,X5 (s.kids.take k) v]) (Z9 11 (YF 11 1 [] [] b2 [.i s.op,.i s.num,.i s.into,.h v4,X5 (s.kids.take k) v] (de ?_)))
 exact Zc (r3 [1] [.agg [.i s.op,.i s.num,.i s.into,.h v4,X5 (s.kids.take k) v]] [0] [(b2,b2)] ⟨v4,rfl,rfl⟩ (Zg.agg (.cons (lr _) (.cons (lr _) (.cons (lr _) (.cons (lr _) (.cons (Zg.sl _ (Yv YH (by rw [Vb om]))) .nil)))))))
theorem Lb (rd:Nat) (bs:List Int) (p:Nat) (s:Z4) (ZD:∀z∈bs,0<=z/\z<=255) (hp:p+3<=1000000000:=by exact ob) (hz:s.sz<=100000000:=by exact ob) (hg:s.rng:=by exact ob):Zj Tryz.prog 89 [.p rd 0,Y2 s] [Yk rd bs p] (fun r h=>∃(y:Z4) (p2:Nat),r=Y2 y/\h=[Yk rd bs p2]/\Vy s y/\p<=p2/\p2<=p+3):=by
 have haz:=Q5 s
 have hkz:=Ta s
 refine ZL 66 Tryz.func89 (ar (iA (Ye s) ?_))
 intro b1
 refine iA [.i 0,.i 0,.i 0,nl,nl] ?_
 intro b2
 refine ie (ar (iR 1 [(0,.p rd 0),(4,.p b2 0),(6,Y2 s)] [1] [b1] (ic [] (Pq s) ?_)))
 rintro _ _ ⟨v1,rfl,rfl⟩
 refine iA [.i 0,.i 0,.i 0,nl,nl] ?_
 intro b3
 refine ZF 0 b3 [.i s.op,.i s.num,.i s.into,.h v1,Yx s.kids] (ie (aq (ar (Z1 1 8 (.p rd 0) (ic [4] (XP rd bs p 6 (ZD:=ob)) ?_)))))
 rintro _ _ ⟨k1,rfl,rfl,ZO⟩
 refine ie (ab 0 (ar (Z1 2 10 (.b (k1==0)) (ie (ac (k1==0) Zh (fun Ze=>?_) (fun Ze=>?_))))))
 ·refine az (Z1 1 12 (.p rd 0) (iL (Z8 [14,15,16,17,6,9,12,0,1]) 9 1 ?_))
  intro v2
  refine Z5 0 (.n 13 (Z0 [14,15,16,17,6,9,12,0,1]) (.p .r)) (ic [1] (Vr rd bs (p+1) [14,15,16,17,6,9,12,0,1] (ZD:=ob)) ?_)
  rintro _ _ ⟨z1,rfl,rfl,Y0⟩
  have hon:=Y0
  refine Z1 1 15 (.p b3 0) (ZF 2 b3 [.i z1,.i s.num,.i s.into,.h v1,Yx s.kids] (ie (ar (XM (KL 3 v1 s.args) (XM (Ux 0 0 3 v1.v 1 b3 (Z8 s.args) [.i z1,.i s.num,.i s.into,.h v1,Yx s.kids] (YD _) rfl) (Yl 1 65 (.agg [.i z1,.i s.num,.i s.into,Z7 s.args v1.v,Yx s.kids]) [0] [b3] (ZF 4 b2 [.i z1,.i s.num,.i s.into,Z7 s.args v1.v,Yx s.kids] (ie ?_))))))))
  exact Zc (r3 [3] [.agg [.i z1,.i s.num,.i s.into,Z7 s.args v1.v,Yx s.kids]] [0] [(b2,b2)] ⟨(Z4.mk z1 s.num s.into s.args s.kids),(p+1)+1,rfl,rfl,⟨by first|exact Vy.refl hg|exact Vy.of hg (by first|exact .inl rfl|exact .inr hon) (by first|exact Nat.le_succ _|(simp<;>omega)) (by first|exact .inl rfl|exact .inr rfl),by omega,by omega⟩⟩ (Zg.agg (.cons (lr _) (.cons (lr _) (.cons (lr _) (.cons (Zg.forget _ _) (.cons (lr _) .nil)))))))
 refine ar (Z1 2 16 (.b (k1==1)) (ie (ac (k1==1) Zh (fun Zm=>?_) (fun Zm=>?_))))
 ·refine az (Z1 1 18 (.p rd 0) (iL (Z8 [0,1,2,3,-1,1000]) 6 1 ?_))
  intro v3
  refine Z5 0 (.n 19 (Z0 [0,1,2,3,-1,1000]) (.p .r)) (ic [1] (Vr rd bs (p+1) [0,1,2,3,-1,1000] (ZD:=ob)) ?_)
  rintro _ _ ⟨z2,rfl,rfl,Yz⟩
  have hon:=Yz
  refine Z1 1 21 (.p b3 1) (ZF 2 b3 [.i s.op,.i z2,.i s.into,.h v1,Yx s.kids] (ie (ar (XM (KL 3 v1 s.args) (XM (Ux 0 0 3 v1.v 1 b3 (Z8 s.args) [.i s.op,.i z2,.i s.into,.h v1,Yx s.kids] (YD _) rfl) (Yl 1 65 (.agg [.i s.op,.i z2,.i s.into,Z7 s.args v1.v,Yx s.kids]) [0] [b3] (ZF 4 b2 [.i s.op,.i z2,.i s.into,Z7 s.args v1.v,Yx s.kids] (ie ?_))))))))
  exact Zc (r3 [3] [.agg [.i s.op,.i z2,.i s.into,Z7 s.args v1.v,Yx s.kids]] [0] [(b2,b2)] ⟨(Z4.mk s.op z2 s.into s.args s.kids),(p+1)+1,rfl,rfl,⟨by first|exact Vy.refl hg|exact Vy.of hg (by first|exact .inl rfl|exact .inr hon) (by first|exact Nat.le_succ _|(simp<;>omega)) (by first|exact .inl rfl|exact .inr rfl),by omega,by omega⟩⟩ (Zg.agg (.cons (lr _) (.cons (lr _) (.cons (lr _) (.cons (Zg.forget _ _) (.cons (lr _) .nil)))))))
 refine ar (Z1 2 22 (.b (k1==2)) (ie (ac (k1==2) Zh (fun ZI=>?_) (fun ZI=>?_))))
 ·refine az (Z1 1 24 (.p rd 0) (iL (Z8 [1,2,0,-1,90]) 5 1 ?_))
  intro v4
  refine Z5 0 (.n 25 (Z0 [1,2,0,-1,90]) (.p .r)) (ic [1] (Vr rd bs (p+1) [1,2,0,-1,90] (ZD:=ob)) ?_)
  rintro _ _ ⟨z3,rfl,rfl,YM⟩
  have hon:=YM
  refine Z1 1 27 (.p b3 2) (ZF 2 b3 [.i s.op,.i s.num,.i z3,.h v1,Yx s.kids] (ie (ar (XM (KL 3 v1 s.args) (XM (Ux 0 0 3 v1.v 1 b3 (Z8 s.args) [.i s.op,.i s.num,.i z3,.h v1,Yx s.kids] (YD _) rfl) (Yl 1 65 (.agg [.i s.op,.i s.num,.i z3,Z7 s.args v1.v,Yx s.kids]) [0] [b3] (ZF 4 b2 [.i s.op,.i s.num,.i z3,Z7 s.args v1.v,Yx s.kids] (ie ?_))))))))
  exact Zc (r3 [3] [.agg [.i s.op,.i s.num,.i z3,Z7 s.args v1.v,Yx s.kids]] [0] [(b2,b2)] ⟨(Z4.mk s.op s.num z3 s.args s.kids),(p+1)+1,rfl,rfl,⟨by first|exact Vy.refl hg|exact Vy.of hg (by first|exact .inl rfl|exact .inr hon) (by first|exact Nat.le_succ _|(simp<;>omega)) (by first|exact .inl rfl|exact .inr rfl),by omega,by omega⟩⟩ (Zg.agg (.cons (lr _) (.cons (lr _) (.cons (lr _) (.cons (Zg.forget _ _) (.cons (lr _) .nil)))))))
 refine ar (Z1 2 28 (.b (k1==3)) (ie (ac (k1==3) Zh (fun Yh=>?_) (fun Yh=>?_))))
 ·refine aE 9 (Y5 6 9 [0,1,2] (.n 31 (.h v1) (.n 32 (.p rd 0) .r)) [1] [b3] (Z9 3 (dL 3 [1] [b3] (Z8 [0,1,-1]) 3 1 ?_)))
  intro v5
  refine ZZ 5 5 [] (.n 33 (Z0 [0,1,-1]) (.p .r)) (Z9 4 (dc 4 [1] [0] [b3] (Vr rd bs (p+1) [0,1,-1] (ZD:=ob)) ?_))
  rintro _ _ ⟨z4,rfl,rfl,YX⟩
  have hon:=YX
  refine Z9 5 (dL 5 [1] [b3] (Z8 [z4]) 1 1 ?_)
  intro v6
  refine ZZ 3 3 [] (.n 35 (Z0 [z4]) (.p .r)) (Z9 6 (Pv 6 4 [] [] v1 s.args [z4] none ?_))
  intro v7
  refine ZX 1 2 [7] 37 (.p b3 3) (Z9 8 (YF 8 4 [] [] b3 [.i s.op,.i s.num,.i s.into,.h v7,Yx s.kids] (de (ar (XM (KL 1 v7 (s.args++[z4])) (XM (Ux 0 0 3 v7.v 1 b3 (Z8 (s.args++[z4])) [.i s.op,.i s.num,.i s.into,.h v7,Yx s.kids] (YD _) rfl) (Yl 1 65 (.agg [.i s.op,.i s.num,.i s.into,Z7 (s.args++[z4]) v7.v,Yx s.kids]) [0] [b3] (ZF 5 b2 [.i s.op,.i s.num,.i s.into,Z7 (s.args++[z4]) v7.v,Yx s.kids] (ie ?_)))))))))
  exact Zc (r3 [4] [.agg [.i s.op,.i s.num,.i s.into,Z7 (s.args++[z4]) v7.v,Yx s.kids]] [0] [(b2,b2)] ⟨(Z4.mk s.op s.num s.into (s.args++[z4]) s.kids),(p+1)+1,rfl,rfl,⟨by first|exact Vy.refl hg|exact Vy.of hg (by first|exact .inl rfl|exact .inr hon) (by first|exact Nat.le_succ _|(simp<;>omega)) (by first|exact .inl rfl|exact .inr rfl),by omega,by omega⟩⟩ (Zg.agg (.cons (lr _) (.cons (lr _) (.cons (lr _) (.cons (Zg.forget _ _) (.cons (lr _) .nil)))))))
 refine ar (Z1 2 38 (.b (k1==4)) (ie (ac (k1==4) Zh (fun Xk=>?_) (fun Xk=>?_))))
 ·refine ar (Yl 2 41 (.h v1) [1] [b3] (Zp (Jq 2 v1 s.args) (Z1 1 43 (.b (decide ((s.args.length:Int)>0))) (ie (ZQ ((s.args.length:Int)>0) (fun Xl=>?_) (fun Xl=>?_))))))
  ·refine aE 12 (Y5 7 12 [0,1,2,3,4] (.n 45 (.h v1) (.n 46 (.p rd 0) (.n 48 (.h v1) .r))) [1,1] [b3,b3] (dx 5 (Jq 2 v1 s.args) (ZX 5 6 [7] 51 (.p rd 0) (Vf 6 8 ?_ ?_))))
   ·refine dc 6 [0] [0] [b3] (K1 rd bs (p+1) s.args.length (ZD:=ob)) ?_
    rintro _ _ ⟨Y7,rfl,rfl,Xw⟩
    refine Z9 8 (dL 8 [1] [b3] (Z8 [0,1,2,3,-1,99]) 6 1 ?_)
    intro v8
    refine Xd 3 3 [] [(4,.p b2 0),(5,.p b3 0),(45,.h v1),(50,.i Y7),(51,.p rd 0),(52,Z0 [0,1,2,3,-1,99])] (Z9 9 (dc 9 [1] [0] [b3] (Vr rd bs ((p+1)+1) [0,1,2,3,-1,99] (ZD:=ob)) ?_))
    rintro _ _ ⟨z5,rfl,rfl,Wh⟩
    have hon:=Wh
    refine dx 10 (Vx 3 v1 s.args (Y7:Int) Y7) (Z9 11 (JO 11 3 [] [] v1 s.args Y7 z5 (de (ar (XM (KL 0 v1 (s.args.set Y7 z5)) (XM (Ux 0 2 3 v1.v 1 b3 (Z8 (s.args.set Y7 z5)) [.i s.op,.i s.num,.i s.into,.h v1,Yx s.kids] (YD _) rfl) (Yl 1 65 (.agg [.i s.op,.i s.num,.i s.into,Z7 (s.args.set Y7 z5) v1.v,Yx s.kids]) [0] [b3] (ZF 4 b2 [.i s.op,.i s.num,.i s.into,Z7 (s.args.set Y7 z5) v1.v,Yx s.kids] (ie ?_)))))))))
    exact Zc (r3 [3] [.agg [.i s.op,.i s.num,.i s.into,Z7 (s.args.set Y7 z5) v1.v,Yx s.kids]] [0] [(b2,b2)] ⟨(Z4.mk s.op s.num s.into (s.args.set Y7 z5) s.kids),((p+1)+1)+1,rfl,rfl,⟨by first|exact Vy.refl hg|exact Vy.of hg (by first|exact .inl rfl|exact .inr hon) (by first|exact Nat.le_succ _|(simp<;>omega)) (by first|exact .inl rfl|exact .inr rfl),by omega,by omega⟩⟩ (Zg.agg (.cons (lr _) (.cons (lr _) (.cons (lr _) (.cons (Zg.forget _ _) (.cons (lr _) .nil)))))))
   refine dL 8 [1,1] [b3,b3] (Z8 [0,1,2,3,-1,99]) 6 1 ?_
   intro v9
   refine Z9 6 (dc 6 [1] [0] [b3] (K1 rd bs (p+1) s.args.length (ZD:=ob)) ?_)
   rintro _ _ ⟨YA,rfl,rfl,WC⟩
   refine Xd 3 3 [] [(4,.p b2 0),(5,.p b3 0),(45,.h v1),(50,.i YA),(51,.p rd 0),(52,Z0 [0,1,2,3,-1,99])] (Z9 9 (dc 9 [0] [0] [b3] (Vr rd bs ((p+1)+1) [0,1,2,3,-1,99] (ZD:=ob)) ?_))
   rintro _ _ ⟨z6,rfl,rfl,WP⟩
   have hon:=WP
   refine dx 10 (Vx 3 v1 s.args (YA:Int) YA) (Z9 11 (JO 11 3 [] [] v1 s.args YA z6 (de (ar (XM (KL 0 v1 (s.args.set YA z6)) (XM (Ux 0 2 3 v1.v 1 b3 (Z8 (s.args.set YA z6)) [.i s.op,.i s.num,.i s.into,.h v1,Yx s.kids] (YD _) rfl) (Yl 1 65 (.agg [.i s.op,.i s.num,.i s.into,Z7 (s.args.set YA z6) v1.v,Yx s.kids]) [0] [b3] (ZF 4 b2 [.i s.op,.i s.num,.i s.into,Z7 (s.args.set YA z6) v1.v,Yx s.kids] (ie ?_)))))))))
   exact Zc (r3 [3] [.agg [.i s.op,.i s.num,.i s.into,Z7 (s.args.set YA z6) v1.v,Yx s.kids]] [0] [(b2,b2)] ⟨(Z4.mk s.op s.num s.into (s.args.set YA z6) s.kids),((p+1)+1)+1,rfl,rfl,⟨by first|exact Vy.refl hg|exact Vy.of hg (by first|exact .inl rfl|exact .inr hon) (by first|exact Nat.le_succ _|(simp<;>omega)) (by first|exact .inl rfl|exact .inr rfl),by omega,by omega⟩⟩ (Zg.agg (.cons (lr _) (.cons (lr _) (.cons (lr _) (.cons (Zg.forget _ _) (.cons (lr _) .nil)))))))
  refine ak (ar (XM (KL 2 v1 s.args) (XM (Ux 0 1 3 v1.v 1 b3 (Z8 s.args) [.i s.op,.i s.num,.i s.into,.h v1,Yx s.kids] (YD _) rfl) (Yl 1 65 (.agg [.i s.op,.i s.num,.i s.into,Z7 s.args v1.v,Yx s.kids]) [0] [b3] (ZF 3 b2 [.i s.op,.i s.num,.i s.into,Z7 s.args v1.v,Yx s.kids] (ie ?_))))))
  exact Zc (r3 [3] [.agg [.i s.op,.i s.num,.i s.into,Z7 s.args v1.v,Yx s.kids]] [0] [(b2,b2)] ⟨s,p+1,rfl,rfl,⟨by first|exact Vy.refl hg|exact Vy.of hg (by first|exact .inl rfl|exact .inr hon) (by first|exact Nat.le_succ _|(simp<;>omega)) (by first|exact .inl rfl|exact .inr rfl),by omega,by omega⟩⟩ (Zg.agg (.cons (lr _) (.cons (lr _) (.cons (lr _) (.cons (Zg.forget _ _) (.cons (lr _) .nil)))))))
 refine ar (Z1 2 55 (.b (k1==5)) (ie (ac (k1==5) Zh (fun Vs=>?_) (fun Vs=>?_))))
 ·refine ar (Yl 2 58 (Yx s.kids) [1] [b3] (iw (VX s.kids) (Z1 1 60 (.b (decide ((s.kids.length:Int)>0))) (ie (ZQ ((s.kids.length:Int)>0) (fun Vl=>?_) (fun Vl=>?_))))))
  ·refine az (Yl 2 62 (Yx s.kids) [1] [b3] (Zp (Kb (es:=YH s.kids) (hv:=none) (l:=1) (m:=(((YH s.kids).length:Nat):Int)) (sz:=2) (es':=YH (s.kids.drop 1)) kr om (by simp<;>omega) (by simp<;>omega) (T2 _) (by first|(simp only [VJ,Vj,Fq,Fp];done)|(simp only [VJ,Vj,Fq,Fp];rfl)|(simp [Fq,Fp];done))) (Z1 1 64 (.p b3 4) (ZF 1 b3 [.i s.op,.i s.num,.i s.into,.h v1,Yx (s.kids.drop 1)] (ie (ar (XM (KL 2 v1 s.args) (XM (Ux 0 0 3 v1.v 1 b3 (Z8 s.args) [.i s.op,.i s.num,.i s.into,.h v1,Yx (s.kids.drop 1)] (YD _) rfl) (Yl 1 65 (.agg [.i s.op,.i s.num,.i s.into,Z7 s.args v1.v,Yx (s.kids.drop 1)]) [0] [b3] (ZF 3 b2 [.i s.op,.i s.num,.i s.into,Z7 s.args v1.v,Yx (s.kids.drop 1)] (ie ?_)))))))))))
   exact Zc (r3 [3] [.agg [.i s.op,.i s.num,.i s.into,Z7 s.args v1.v,Yx (s.kids.drop 1)]] [0] [(b2,b2)] ⟨(Z4.mk s.op s.num s.into s.args (s.kids.drop 1)),p+1,rfl,rfl,⟨by first|exact Vy.refl hg|exact Vy.of hg (by first|exact .inl rfl|exact .inr hon) (by first|exact Nat.le_succ _|(simp<;>omega)) (by first|exact .inl rfl|exact .inr rfl),by omega,by omega⟩⟩ (Zg.agg (.cons (lr _) (.cons (lr _) (.cons (lr _) (.cons (Zg.forget _ _) (.cons (lr _) .nil)))))))
  refine ak (ar (XM (KL 2 v1 s.args) (XM (Ux 0 1 3 v1.v 1 b3 (Z8 s.args) [.i s.op,.i s.num,.i s.into,.h v1,Yx s.kids] (YD _) rfl) (Yl 1 65 (.agg [.i s.op,.i s.num,.i s.into,Z7 s.args v1.v,Yx s.kids]) [0] [b3] (ZF 3 b2 [.i s.op,.i s.num,.i s.into,Z7 s.args v1.v,Yx s.kids] (ie ?_))))))
  exact Zc (r3 [3] [.agg [.i s.op,.i s.num,.i s.into,Z7 s.args v1.v,Yx s.kids]] [0] [(b2,b2)] ⟨s,p+1,rfl,rfl,⟨by first|exact Vy.refl hg|exact Vy.of hg (by first|exact .inl rfl|exact .inr hon) (by first|exact Nat.le_succ _|(simp<;>omega)) (by first|exact .inl rfl|exact .inr rfl),by omega,by omega⟩⟩ (Zg.agg (.cons (lr _) (.cons (lr _) (.cons (lr _) (.cons (Zg.forget _ _) (.cons (lr _) .nil)))))))
 refine ak (ar (XM (KL 2 v1 s.args) (XM (Ux 0 1 3 v1.v 1 b3 (Z8 s.args) [.i s.op,.i s.num,.i s.into,.h v1,Yx s.kids] (YD _) rfl) (Yl 1 65 (.agg [.i s.op,.i s.num,.i s.into,Z7 s.args v1.v,Yx s.kids]) [0] [b3] (ZF 3 b2 [.i s.op,.i s.num,.i s.into,Z7 s.args v1.v,Yx s.kids] (ie ?_))))))
 exact Zc (r3 [3] [.agg [.i s.op,.i s.num,.i s.into,Z7 s.args v1.v,Yx s.kids]] [0] [(b2,b2)] ⟨s,p+1,rfl,rfl,⟨by first|exact Vy.refl hg|exact Vy.of hg (by first|exact .inl rfl|exact .inr hon) (by first|exact Nat.le_succ _|(simp<;>omega)) (by first|exact .inl rfl|exact .inr rfl),by omega,by omega⟩⟩ (Zg.agg (.cons (lr _) (.cons (lr _) (.cons (lr _) (.cons (Zg.forget _ _) (.cons (lr _) .nil)))))))
theorem Ss (rd:Nat) (bs:List Int) (p:Nat) (mx:Int) (ZD:∀z∈bs,0<=z/\z<=255) (hp:p+1<=1000000000):Zj Tryz.prog 50 [.p rd 0,.i mx] [Yk rd bs p] (fun r h=>∃(k:Int),r=.i k/\h=[.obj rd [X8 bs,.i (p+1:Nat)]]/\Pk mx k/\k=Jo bs p mx):=by
 refine ZL 99 Tryz.func50 (ar (ir 1 [(0,.p rd 0),(1,.i mx)] (ie (ar (ZY 5 7 (.p rd 0) 11 (.i p) [0] [rd] (ZM p (Z1 2 14 (.p rd 1) (ZF 0 rd [X8 bs,.i (p+1:Nat)] (ie (aq (ar (Xm [(0,.p rd 0),(1,.i mx),(24,.b ((decide (mx<1))||((bs.length:Int)==0)))] [.obj rd [X8 bs,.i (p+1:Nat)]] ?_ ?_))))))))))))
 ·refine ir 3 [(0,.p rd 0),(1,.i mx),(17,.b (decide (mx<1)))] (ib (b:=(decide (mx<1))) 17 (fun Zb=>?_) (fun Zb=>?_))
  ·have ZO:mx<1:=(dq).1 Zb
   refine Z5 7 (.n 24 (.b true) (.d (.k (.k .z)))) (ie ?_)
   exact wk [0] (fw (Zr true Zb fl))
  have Y0:¬(mx<1):=ZH dq Zb
  refine Y1 4 (.n 21 (X8 bs) (.k (.k (.k .z)))) [0] [rd] (iw (Qz bs) (Z1 2 24 (.b ((bs.length:Int)==0)) (ie ?_)))
  exact wk [0] (fw (Zr ((bs.length:Int)==0) Zb fl))
 refine ac ((decide (mx<1))||((bs.length:Int)==0)) (p:=(mx<1)∨((bs.length:Int)=0)) (Yc dq Zh) (fun Ze=>?_) (fun Ze=>?_)
 ·refine ar (ir 1 [(4,.i 0)] (ie ?_))
  exact Zc (r1 [0] ⟨0,rfl,rfl,⟨Pk.zero,by rw [Jo,Zk om]⟩⟩)
 refine ak (ar (iR 4 [(0,.p rd 0),(1,.i mx),(28,.i (p+1:Nat))] [0] [rd] (ia ((p:Int)) ((((p+1:Nat):Int))-(1)) (Z1 1 5 (.i p) (ie (aq (ar (ZY 5 30 (.i p) 34 (X8 bs) [0] [rd] (iw (Qz bs) (Z1 1 36 (.b (decide ((p:Int)<(bs.length:Int)))) (ie (ZQ ((p:Int)<(bs.length:Int)) (fun Zm=>?_) (fun Zm=>?_)))))))))))))
 ·refine ar (ZY 5 40 (X8 bs) 41 (.i p) [0] [rd] ?_)
  obtain ⟨x1,Z3⟩:=Zt (xs:=bs) (j:=p) om
  have hz:=ZD _ (Y6 Z3)
  refine Zp (Zn none (p:Int) 1 (Bh Z3)) (Z1 1 43 (.val (.int .u8 x1)) (Zp (Bz x1 om) (Z1 1 45 (.i mx) (Zp (Ct x1 mx om om) (ir 1 [(4,.i (x1 % mx))] (ie ?_))))))
  exact Zc (r1 [0] ⟨(x1 % mx),rfl,rfl,⟨Pk.rem om om,by rw [Jo,Za om,Zk om,Z3];rfl⟩⟩)
 have hq1:p / bs.length<=p:=Nat.div_le_self _ _
 have hq0:(0:Int)<=((p / bs.length:Nat):Int):=Int.natCast_nonneg _
 refine ak (aD 46 (Y5 37 46 [0,1,2,3,4,5,6,7,8] (.n 50 (X8 bs) (.n 51 (.i p) (.n 55 (X8 bs) .r))) [0,0] [rd,rd] (dw 9 (Qz bs) (dx 10 (DW p bs.length om om) ?_))))
 obtain ⟨x2,Zy⟩:=Zt (xs:=bs) (j:=p % bs.length) (Nat.mod_lt _ om)
 have hz:=ZD _ (Y6 Zy)
 have hy2:=Zy
 refine dx 11 (Zn none ((p % bs.length:Nat):Int) 1 (Bh Zy)) (ZX 33 34 [12] 59 (.val (.int .u8 x2)) (dx 13 (Bz x2 om) (da 14 ((x2*131)) ((x2)*(131)) (Y5 26 31 [15,16,17,18,19] (.n 65 (X8 bs) (.n 66 (.i p) .r)) [0] [rd] (da 20 (((p*7:Nat):Int)) (((p:Int))*(7)) (da 21 (((p*7+3:Nat):Int)) ((((p*7:Nat):Int))+(3)) (Y5 20 24 [22,23,24,25] (.n 72 (X8 bs) .r) [0] [rd] (dw 26 (Qz bs) (dx 27 (DW (p*7+3) bs.length om om) ?_)))))))))
 obtain ⟨x3,YS⟩:=Zt (xs:=bs) (j:=(p*7+3) % bs.length) (Nat.mod_lt _ om)
 have hz3:=ZD _ (Y6 YS)
 have hy3:=YS
 refine dx 28 (Zn none (((p*7+3) % bs.length:Nat):Int) 1 (Bh YS)) (ZX 16 17 [29] 76 (.val (.int .u8 x3)) (dx 30 (Bz x3 om) (da 31 ((x3*1117)) ((x3)*(1117)) (da 32 (((x2*131)+(x3*1117))) (((x2*131))+((x3*1117))) (ZX 12 13 [33] 80 (.i p) (da 34 (((p*29:Nat):Int)) (((p:Int))*(29)) (da 35 ((((x2*131)+(x3*1117))+((p*29:Nat):Int))) ((((x2*131)+(x3*1117)))+(((p*29:Nat):Int))) (Y5 5 10 [36,37,38,39,40] (.n 83 (.i p) (.n 87 (X8 bs) .r)) [0] [rd] (dw 41 (Qz bs) (dx 42 (AO p bs.length om om) (da 43 ((((p / bs.length:Nat):Int)*53)) ((((p / bs.length:Nat):Int))*(53)) (da 44 (((((x2*131)+(x3*1117))+((p*29:Nat):Int))+(((p / bs.length:Nat):Int)*53))) (((((x2*131)+(x3*1117))+((p*29:Nat):Int)))+((((p / bs.length:Nat):Int)*53))) (ZX 0 1 [45] 6 (.i ((((x2*131)+(x3*1117))+((p*29:Nat):Int))+(((p / bs.length:Nat):Int)*53))) (de (ar (Yn 2 92 (.i ((((x2*131)+(x3*1117))+((p*29:Nat):Int))+(((p / bs.length:Nat):Int)*53))) 93 (.i ((((x2*131)+(x3*1117))+((p*29:Nat):Int))+(((p / bs.length:Nat):Int)*53))) (Zp (Gk ((((x2*131)+(x3*1117))+((p*29:Nat):Int))+(((p / bs.length:Nat):Int)*53)) 64 om om) (Zp (Lw ((((x2*131)+(x3*1117))+((p*29:Nat):Int))+(((p / bs.length:Nat):Int)*53)) (((((x2*131)+(x3*1117))+((p*29:Nat):Int))+(((p / bs.length:Nat):Int)*53)) / 64)) (ir 1 [(1,.i mx),(6,.i (TJ ((((x2*131)+(x3*1117))+((p*29:Nat):Int))+(((p / bs.length:Nat):Int)*53)) (((((x2*131)+(x3*1117))+((p*29:Nat):Int))+(((p / bs.length:Nat):Int)*53)) / 64)))] (ie (ar (ir 2 [(96,.i (TJ ((((x2*131)+(x3*1117))+((p*29:Nat):Int))+(((p / bs.length:Nat):Int)*53)) (((((x2*131)+(x3*1117))+((p*29:Nat):Int))+(((p / bs.length:Nat):Int)*53)) / 64))),(97,.i mx)] (Zp (Ct (TJ ((((x2*131)+(x3*1117))+((p*29:Nat):Int))+(((p / bs.length:Nat):Int)*53)) (((((x2*131)+(x3*1117))+((p*29:Nat):Int))+(((p / bs.length:Nat):Int)*53)) / 64)) mx om (EG ⟨by omega,by omega⟩ ⟨by omega,by omega⟩).1) (ir 1 [(4,.i ((TJ ((((x2*131)+(x3*1117))+((p*29:Nat):Int))+(((p / bs.length:Nat):Int)*53)) (((((x2*131)+(x3*1117))+((p*29:Nat):Int))+(((p / bs.length:Nat):Int)*53)) / 64)) % mx))] (ie ?_)))))))))))))))))))))))))
 exact Zc (r1 [0] ⟨((TJ ((((x2*131)+(x3*1117))+((p*29:Nat):Int))+(((p / bs.length:Nat):Int)*53)) (((((x2*131)+(x3*1117))+((p*29:Nat):Int))+(((p / bs.length:Nat):Int)*53)) / 64)) % mx),rfl,rfl,⟨Pk.rem (EG ⟨by omega,by omega⟩ ⟨by omega,by omega⟩).1 om,by rw [Jo,Za om,Za om,hy2,hy3];rfl⟩⟩)
theorem St (rd:Nat) (bs:List Int) (p:Nat) (mx:Nat) (ZD:∀z∈bs,0<=z/\z<=255) (hp:p+1<=1000000000:=by exact ob) (hmx:0<mx:=by exact ob):Zj Tryz.prog 50 [.p rd 0,.i mx] [Yk rd bs p] (fun r h=>∃(kn:Nat),r=.i kn/\h=[.obj rd [X8 bs,.i (p+1:Nat)]]/\kn<mx/\kn=(Jo bs p mx).toNat):=(Ss rd bs p mx ZD hp).mono fun r h ⟨z,hr,hh,hz,he⟩=>by
  have h0:=hz.lt om
  exact ⟨z.toNat,by rw [hr,Int.toNat_of_nonneg h0.1],hh,by omega,by rw [he]⟩
theorem Pp (s:Z4) (hz:s.sz<=1000000000):Zj Tryz.prog 127 [Y2 s] [] (fun r h=>∃(v:Hd),r=.agg [.i s.op,.i s.num,.i s.into,Z0 s.args,.h v]/\h=[rK v 2 (Zl (YH s.kids))]):=by
 have hkz:=Ta s
 have haz:=Q5 s
 refine ZL 33 Tryz.func127 (ar (iA (Ye s) ?_))
 intro b1
 refine iA [.i 0,.i 0,.i 0,nl,nl] ?_
 intro b2
 refine ie (ar (DP 2 ?_))
 intro g1
 refine ir 1 [(1,.p b1 0),(2,.p b2 0),(3,.ms g1 0 0 0)] (ie (aq (ar (Z1 1 4 (.i 0) (ie (ab 0 (al (fun m F h=>∃(k:Nat) (v:Hd),(k<=s.kids.length)/\F=[(1,.p b1 0),(2,.p b2 0),(3,.h v),(4,.i k)]/\h=[.obj b2 [.i 0,.i 0,.i 0,nl,nl],.obj b1 (Ye s),rK v 2 (Zl (YH (s.kids.take k)))]/\m=s.kids.length-k) _ _ _ ⟨0,(⟨some ⟨g1,0,none⟩,0,0⟩:Hd),ob,rfl,rfl,rfl⟩ (wk [1,1,0] (fw (fr (Yf fl))) (e:=(rc (rc (rr (ls:=[]) ob rz))))) ?_)))))))
 rintro m F h ⟨k,v,Ym,rfl,rfl,rfl⟩
 refine aq (ar (ZY 3 6 (.i k) 8 (Yx s.kids) [1] [b1] (iw (VX s.kids) (Z1 1 10 (.b (decide ((k:Int)<(s.kids.length:Int)))) (ie (ZQ ((k:Int)<(s.kids.length:Int)) (fun Ze=>?_) (fun Ze=>?_)))))))
 ·refine ak (aq (ab 1 (az (Y1 4 (.n 13 (.h v) (.n 15 (Yx s.kids) (.n 16 (.i k) .r))) [1] [b1] ?_))))
  obtain ⟨x1,Z3⟩:=Zt (xs:=s.kids) (j:=k) om
  have hks:=T9 Z3
  refine Zp (Zn none (k:Int) 2 (Uz Z3)) (Z1 1 18 (Zq x1) (ZA [] (Ew x1) (iL [Zq x1] 1 2 ?_)))
  intro v1
  refine Z5 0 (.n 20 (.sl [Zq x1] none) (.p .r)) (DO 3 k v 2 (Zl (YH (s.kids.take k))) [Zq x1] none (by rw [Cf,Wv,Vo om]) (TC rfl) rfl (List.cons_ne_nil _ _) (by simp<;>omega) ?_)
  intro v2
  refine ir 1 [(1,.p b1 0),(2,.p b2 0),(3,.h v2),(4,.i k)] (ie (az (Z1 1 11 (.i k) (ZM k (Z5 1 (.n 4 (.i (k+1:Nat)) (.p (.d (.k (.k (.k .z)))))) (ie ?_))))))
  exact ZT ⟨k+1,v2,ob,rfl,rfl,rfl⟩ (wk [2,2,0] (fw (fr (ZW k fl))) (e:=(rc (rc (rr (ls:=Zl (YH (s.kids.take k))++Zl [Zq x1]) (Rk Z3) rz)))))
 refine ax 0 (aD 12 (W3 3 12 [0,1,2,3,4,5,6,7,9] [(2,.p b2 0),(23,.i s.op),(25,.i s.num),(27,.i s.into),(29,Z0 s.args),(31,.h v)] [1,1,1,1] [b1,b1,b1,b1] (Z9 8 (dc 8 [] [1,1,1] [b1,b1,b1] (VH s.args) ?_))))
 rintro _ _ ⟨v3,rfl,rfl⟩
 refine ZX 1 2 [10] 32 (.agg [.i s.op,.i s.num,.i s.into,Z7 s.args v3,.h v]) (Z9 11 (YF 11 1 [] [] b2 [.i s.op,.i s.num,.i s.into,Z7 s.args v3,.h v] (de ?_)))
 exact Zc (r3 [3] [.agg [.i s.op,.i s.num,.i s.into,Z7 s.args v3,.h v]] [0] [(b2,b2)] ⟨v,rfl,rfl⟩ (Zg.agg (.cons (lr _) (.cons (lr _) (.cons (lr _) (.cons (Zg.forget _ _) (.cons (lr _) .nil)))))) (eq:=(rr (ls:=Zl (YH (s.kids.take k))) (by rw [Vb om]) rz)))
theorem Po (s:Z4) (fl:Bool) (hz:s.sz<=1000000000:=by exact ob):Zj Tryz.prog 127 [Y2 s] [] (fun r h=>(∃(v:Hd),r=.agg [.i s.op,.i s.num,.i s.into,Z0 s.args,.h v]/\h=[rK v 2 (Zl (YH s.kids))]/\fl=true)∨(r=Y2 s/\h=[]/\fl=false)):=by
 cases fl with
 | true=>exact (Pp s hz).mono fun r h ⟨v,hr,hh⟩=>.inl ⟨v,hr,hh,rfl⟩
 | false=>exact (Nh s hz).mono fun r h ⟨hr,hh⟩=>.inr ⟨hr,hh,rfl⟩
theorem Pl (b:Z6) (kk:Nat) (hz:b.sz<=1000000000:=by exact ob) (hkk:kk<b.steps.length:=by exact ob):Zj Tryz.prog 86 [Zq b] [] (fun r h=>∃(v:Hd) (u:Hd),r=.agg [.h v,.i b.result]/\h=[rK v 5 (Wz b kk u.v b.steps.length),rK u 2 (Us b kk b.steps.length)]):=by
 have hbz:=Vv b
 refine ZL 28 Tryz.func86 (ar (iA (Y9 b) ?_))
 intro b1
 refine iA [nl,.i 0] ?_
 intro b2
 refine ie (ar (DP 5 ?_))
 intro g1
 refine iR 3 [(1,.p b1 0),(2,.p b2 0),(8,.agg [.ms g1 0 0 0,.i b.result])] [2] [b1] (iA [nl,.i 0] ?_)
 intro b3
 refine ZF 0 b3 [.ms g1 0 0 0,.i b.result] (ie (aq (ar (XM (Z6t (k:=2)) (Z1 1 4 (.i 0) (ie (ab 0 (al (fun m F h=>∃(k:Nat) (v:Hd) (u:Hd),(k<=b.steps.length)/\F=[(1,.p b1 0),(2,.p b2 0),(3,.p b3 0),(4,.i k)]/\h=[.obj b3 [.h v,.i b.result],.obj b2 [nl,.i 0],.obj b1 (Y9 b),rK v 5 (Wz b kk u.v k),rK u 2 (Us b kk k)]/\m=b.steps.length-k) _ _ _ ⟨0,(⟨some ⟨g1,0,none⟩,0,0⟩:Hd),hN,ob,rfl,rfl,rfl⟩ (wk [1,2,2,1,0] (fw (fr (Yf fl))) (e:=(rc (rc (rc (rr (ls:=[]) (by first|exact Lz.symm|exact LE.symm) (rr (ls:=[]) (by first|exact Lz.symm|exact LE.symm) rz))))))) ?_))))))))
 rintro m F h ⟨k,v,u,Ym,rfl,rfl,rfl⟩
 refine aq (ar (ZY 3 9 (.i k) 11 (Yi b.steps) [2] [b1] (iw (VD b.steps) (Z1 1 13 (.b (decide ((k:Int)<(b.steps.length:Int)))) (ie (ZQ ((k:Int)<(b.steps.length:Int)) (fun Ze=>?_) (fun Ze=>?_)))))))
 ·refine ak (aq (ab 1 (aE 12 (Y5 7 12 [0,1,2,3,4] (.n 17 (.h v) (.n 19 (Yi b.steps) (.n 20 (.i k) .r))) [0,2] [b3,b1] ?_))))
  obtain ⟨x1,Z3⟩:=Zt (xs:=b.steps) (j:=k) om
  have hss:=KJ Z3
  refine dx 5 (Zn none (k:Int) 5 (Wy Z3)) (ZX 5 6 [6] 22 (Y2 x1) (Z9 7 (dc 7 [] [0] [b3] (Po x1 (decide (k=kk))) ?_)))
  rintro _ _ (⟨v1,rfl,rfl,ZO⟩|⟨rfl,rfl,Y0⟩)
  ·have hke:k=kk:=of_decide_eq_true ZO
   refine Fk (NO [1,1,1,0,0,0] (h':=[.obj b3 [.h v,.i b.result],.obj b2 [nl,.i 0],.obj b1 (Y9 b),rK v1 2 (Zl (YH x1.kids)),rK v 5 (Wz b kk u.v k),rK u 2 (Us b kk k)]) (d:=[]) kr) (Z9 8 (dL 8 [0] [b3] [.agg [.i x1.op,.i x1.num,.i x1.into,Z0 x1.args,.h v1]] 1 5 ?_))
   intro v2
   refine ZZ 3 3 [] (.n 24 (.sl [.agg [.i x1.op,.i x1.num,.i x1.into,Z0 x1.args,.h v1]] none) (.p .r)) (Z9 9 (Fh 9 5 k [] [] v 5 (Wz b kk u.v k) [.agg [.i x1.op,.i x1.num,.i x1.into,Z0 x1.args,.h v1]] none (Gn om) (TC rfl) rfl (List.cons_ne_nil _ _) (by simp<;>omega) ?_))
   intro v3
   refine ZX 1 2 [10] 26 (.p b3 0) (Z9 11 (YF 11 2 [] [] b3 [.h v3,.i b.result] (de (az (Z1 1 14 (.i k) (ZM k (ir 1 [(1,.p b1 0),(2,.p b2 0),(3,.p b3 0),(4,.i (k+1:Nat))] (ie ?_))))))))
   exact ZT ⟨k+1,v3,v1,ob,rfl,rfl,rfl⟩ (wk [0,2,2,0,1] (fw (fr (ZW k fl))) (e:=(rc (rc (rc (rr (ls:=Wz b kk u.v k++Zl [.agg [.i x1.op,.i x1.num,.i x1.into,Z0 x1.args,.h v1]]) (by first|(subst hke;exact Ly Z3)|(subst hke;exact LD Z3)) (rr (ls:=Zl (YH x1.kids)) (by first|(subst hke;exact Ly Z3)|(subst hke;exact LD Z3)) rz)))))))
  have hke:¬k=kk:=of_decide_eq_false Y0
  refine Z9 8 (dL 8 [0] [b3] [Y2 x1] 1 5 ?_)
  intro v4
  refine ZZ 3 3 [] (.n 24 (.sl [Y2 x1] none) (.p .r)) (Z9 9 (Fh 9 4 k [] [] v 5 (Wz b kk u.v k) [Y2 x1] none (Gn om) (TC rfl) rfl (List.cons_ne_nil _ _) (by simp<;>omega) ?_))
  intro v5
  refine ZX 1 2 [10] 26 (.p b3 0) (Z9 11 (YF 11 2 [] [] b3 [.h v5,.i b.result] (de (az (Z1 1 14 (.i k) (ZM k (ir 1 [(1,.p b1 0),(2,.p b2 0),(3,.p b3 0),(4,.i (k+1:Nat))] (ie ?_))))))))
  exact ZT ⟨k+1,v5,u,ob,rfl,rfl,rfl⟩ (wk [0,2,2,0,1] (fw (fr (ZW k fl))) (e:=(rc (rc (rc (rr (ls:=Wz b kk u.v k++Zl [Y2 x1]) (by first|exact Lx Z3 hke|exact LA hke) (rr (ls:=Us b kk k) (by first|exact Lx Z3 hke|exact LA hke) rz)))))))
 refine ax 0 (ar (Yl 1 27 (.agg [.h v,.i b.result]) [0] [b3] (ZF 1 b2 [.h v,.i b.result] (ie ?_))))
 exact Zc (r3 [3,3] [.agg [.h v,.i b.result]] [0] [(b2,b2)] ⟨v,u,rfl,rfl⟩ (lr _) (eq:=(rr (ls:=Wz b kk u.v k) (by rw [show k=b.steps.length by omega]) (rr (ls:=Us b kk k) (by rw [show k=b.steps.length by omega]) rz))))
theorem Sz (rd:Nat) (bs:List Int) (p:Nat) (b:Z6) (ZD:∀z∈bs,0<=z/\z<=255) (hp:p+(10*b.sz)<=1000000000) (hz:b.sz<=20000000) (hg:b.rng) (h0:b.steps.length=0):Zj Tryz.prog 53 [.p rd 0,Zq b] [Yk rd bs p] (fun r h=>∃(y:Z6) (p2:Nat),r=Zq y/\h=[Yk rd bs p2]/\Xt b y/\p<=p2/\p2<=p+(10*b.sz)):=by
 have hbp:=b.sz_pos
 refine ZL 109 Tryz.func53 (ar (iA (Y9 b) ?_))
 intro b1
 refine iA [nl,.i 0] ?_
 intro b2
 refine ie (ar (iR 1 [(0,.p rd 0),(4,.p b2 0),(8,Zq b)] [1] [b1] (ZA [] (Ew b) (iA [nl,.i 0] ?_))))
 intro b3
 refine ZF 0 b3 (Y9 b) (ie (aq (ar (Yl 2 11 (Yi b.steps) [0] [b3] (iw (VD b.steps) (Z1 2 14 (.b ((b.steps.length:Int)==0)) (ib (b:=((b.steps.length:Int)==0)) 14 (fun Zb=>?_) (fun Zb=>?_))))))))
 ·have ZO:(b.steps.length:Int)=0:=(Zh).1 Zb
  refine Z5 4 (.n 18 (.b true) (.k (.d .r))) (ie (WU (ar (Z1 1 19 (.p rd 0) (iL (Z8 [0,1,2,3,-1,99]) 6 1 ?_)))))
  intro v1
  refine Z5 0 (.n 20 (Z0 [0,1,2,3,-1,99]) (.p .r)) (ic [4] (Vr rd bs p [0,1,2,3,-1,99] (ZD:=ob)) ?_)
  rintro _ _ ⟨z1,rfl,rfl,Y0⟩
  refine Z1 1 22 (.p b3 1) (ZF 2 b3 [Yi b.steps,.i z1] (ie (ar (Yl 1 23 (.agg [Yi b.steps,.i z1]) [0] [b3] (ZF 3 b2 [Yi b.steps,.i z1] (ie ?_))))))
  exact Zc (r3 [2] [.agg [Yi b.steps,.i z1]] [0] [(b2,b2)] ⟨(Z6.mk b.steps z1),p+1,rfl,rfl,⟨Xt.result hg _,by have:=b.sz_pos;omega,by have:=b.sz_pos;omega⟩⟩ (lr _))
 have Yz:¬((b.steps.length:Int)=0):=ZH Zh Zb
 exact absurd (show (b.steps.length:Int)=0 by omega) Yz
theorem SA (rd:Nat) (bs:List Int) (p:Nat) (b:Z6) (ZD:∀z∈bs,0<=z/\z<=255) (hp:p+(10*b.sz)<=1000000000) (hz:b.sz<=20000000) (hg:b.rng) (h0:0<b.steps.length) (ih:∀(rd:Nat) (bs:List Int) (p:Nat) (b2:Z6),(∀z∈bs,0<=z/\z<=255)->(p+(10*b2.sz)<=1000000000)->(b2.sz<=20000000)->(b2.rng)->(b2.sz<b.sz)->Zj Tryz.prog 53 [.p rd 0,Zq b2] [Yk rd bs p] (fun r h=>∃(y:Z6) (p2:Nat),r=Zq y/\h=[Yk rd bs p2]/\Xt b2 y/\p<=p2/\p2<=p+(10*b2.sz))):Zj Tryz.prog 53 [.p rd 0,Zq b] [Yk rd bs p] (fun r h=>∃(y:Z6) (p2:Nat),r=Zq y/\h=[Yk rd bs p2]/\Xt b y/\p<=p2/\p2<=p+(10*b.sz)):=by
 have hbp:=b.sz_pos
 obtain ⟨kk,hkk⟩:∃kk,kk=(Jo bs (p+1) (b.steps.length:Int)).toNat:=⟨_,rfl⟩
 have hkl:kk<b.steps.length:=by have:=Z33 (bs:=bs) (p:=p+1) (mx:=(b.steps.length:Int)) om;omega
 obtain ⟨sk,hsk⟩:=Zt (xs:=b.steps) (j:=kk) hkl
 have hsb:=KJ hsk
 have hsg:=Z3i hg hsk
 have hst:=Vv b
 refine ZL 109 Tryz.func53 (ar (iA (Y9 b) ?_))
 intro b1
 refine iA [nl,.i 0] ?_
 intro b2
 refine ie (ar (iR 1 [(0,.p rd 0),(4,.p b2 0),(8,Zq b)] [1] [b1] (ic [] (Pl b kk) ?_)))
 rintro _ _ ⟨v1,u1,rfl,rfl⟩
 refine DN 0 b.steps.length (v:=v1) (Gn (kk:=kk) (u:=u1.v) (X7 b.steps.length)) om (fun g1 c1 he1=>?_)
 subst he1
 refine XM (NO [0,1,1,1,0] (h':=[.row (.slice (some ⟨g1,0,none⟩) b.steps.length c1) 5 (Wz b kk u1.v b.steps.length),.obj b2 [nl,.i 0],.obj b1 (Y9 b),Yk rd bs p,rK u1 2 (Us b kk b.steps.length)]) (d:=[]) kr) (iA [nl,.i 0] ?_)
 intro b3
 refine ZF 0 b3 [.ms g1 0 b.steps.length c1,.i b.result] (ie (aq (ar (iR 2 [(0,.p rd 0),(4,.p b2 0),(5,.p b3 0),(11,.ms g1 0 b.steps.length c1)] [0] [b3] (io (.i b.steps.length) (.i b.steps.length) (lr _) (Z1 2 14 (.b ((b.steps.length:Int)==0)) (ib (b:=((b.steps.length:Int)==0)) 14 (fun Zb=>?_) (fun Zb=>?_))))))))
 ·have ZO:(b.steps.length:Int)=0:=(Zh).1 Zb
  exact absurd ZO om
 have Y0:¬((b.steps.length:Int)=0):=ZH Zh Zb
 refine Z5 1 (.n 15 (.p rd 0) (.k (.d .r))) (ic [4] (XP rd bs p 5 (ZD:=ob)) ?_)
 rintro _ _ ⟨k1,rfl,rfl,Yz⟩
 refine Z1 2 18 (.b (k1==0)) (ie (ac (k1==0) Zh (fun Ze=>?_) (fun Ze=>?_)))
 ·refine ar (XM (Hk 5 2 b kk sk u1.v (.slice (some ⟨g1,0,none⟩) b.steps.length c1) hsk) (XM (Ux 0 2 0 (.slice (some ⟨g1,0,none⟩) b.steps.length c1) 5 b3 (Zs b.steps) [.ms g1 0 b.steps.length c1,.i b.result] (X9 _) rfl) (Z1 1 19 (.p rd 0) (iL (Z8 [0,1,2,3,-1,99]) 6 1 ?_))))
  intro v2
  refine Z5 0 (.n 20 (Z0 [0,1,2,3,-1,99]) (.p .r)) (ic [4] (Vr rd bs (p+1) [0,1,2,3,-1,99] (ZD:=ob)) ?_)
  rintro _ _ ⟨z1,rfl,rfl,YM⟩
  refine Z1 1 22 (.p b3 1) (ZF 2 b3 [ZV b.steps (.slice (some ⟨g1,0,none⟩) b.steps.length c1),.i z1] (ie (ar (Yl 1 23 (.agg [ZV b.steps (.slice (some ⟨g1,0,none⟩) b.steps.length c1),.i z1]) [0] [b3] (ZF 5 b2 [ZV b.steps (.slice (some ⟨g1,0,none⟩) b.steps.length c1),.i z1] (ie ?_))))))
  exact Zc (r3 [2] [.agg [ZV b.steps (.slice (some ⟨g1,0,none⟩) b.steps.length c1),.i z1]] [0] [(b2,b2)] ⟨(Z6.mk b.steps z1),(p+1)+1,rfl,rfl,(by first|exact ⟨Xt.result hg _,by omega,by omega⟩|exact ⟨Xt.kid hg hsk hck hyb.1,by omega,by omega⟩|exact ⟨Xt.del hg,by omega,by omega⟩|exact ⟨Xt.put hg,by omega,by omega⟩|exact ⟨Xt.set hg hsk ⟨by have:=hys.1.1;omega,hys.1.2⟩,by omega,by omega⟩)⟩ (Zg.agg (.cons (Zg.forget _ _) (.cons (lr _) .nil))))
 refine ak (ar (ZY 3 24 (.p rd 0) 26 (.ms g1 0 b.steps.length c1) [1] [b3] (io (.i b.steps.length) (.i b.steps.length) (lr _) (ic [0] (St rd bs (p+1) b.steps.length (ZD:=ob)) ?_))))
 rintro _ _ ⟨Y7,rfl,rfl,YX⟩
 have hkn:Y7=kk:=by have:=YX.2;omega
 refine Z1 1 6 (.i Y7) (ie (aq (ar (ZY 3 30 (.ms g1 0 b.steps.length c1) 31 (.i Y7) [1] [b3] (Zp (W4 g1 b.steps.length c1 Y7 5 (Y7:Int)) (Z1 1 33 (.val (.pointer (some ⟨g1,Y7*5+4,none⟩))) (VM (WW 2 g1 b.steps.length c1 5 (Y7*5+4) (Wz b kk u1.v b.steps.length) [.h u1] 42 (.h u1) (by rw [hkn];exact DZ hsk)) (Zp (Z16 5 sk.kids.length u1 2 (Us b kk b.steps.length) (by rw [Gp hsk];exact Cf _)) (Z1 2 37 (.b (decide ((sk.kids.length:Int)>0))) (ib (b:=(decide ((sk.kids.length:Int)>0))) 37 (fun Zv=>?_) (fun Zv=>?_)))))))))))
 ·have Xw:(sk.kids.length:Int)>0:=(dq).1 Zv
  refine Z5 1 (.n 38 (.p rd 0) (.k (.d .r))) (ic [0] (XP rd bs ((p+1)+1) 3 (ZD:=ob)) ?_)
  rintro _ _ ⟨k2,rfl,rfl,Wh⟩
  refine Z1 2 41 (.b (decide (k2>0))) (ie (ZQ (k2>0) (fun Zm=>?_) (fun Zm=>?_)))
  ·refine ar (XM (Hl 5 u1.v 2 (Us b kk b.steps.length) (Zl (YH sk.kids)) (Gp hsk)) (DN 0 sk.kids.length (v:=u1) (Cf _) om (fun g2 c2 he2=>?_)))
   subst he2
   refine iR 4 [(0,.p rd 0),(4,.p b2 0),(5,.p b3 0),(6,.i Y7),(42,.p rd 0),(44,.ms g1 0 b.steps.length c1),(45,.i Y7)] [2] [b3] (Zp (W4 g1 b.steps.length c1 Y7 5 (Y7:Int)) (Z1 1 47 (.val (.pointer (some ⟨g1,Y7*5+4,none⟩))) (VM (WW 3 g1 b.steps.length c1 5 (Y7*5+4) (Wz b kk (.slice (some ⟨g2,0,none⟩) sk.kids.length c2) b.steps.length) [.ms g2 0 sk.kids.length c2] 42 (.ms g2 0 sk.kids.length c2) (by rw [hkn];exact DZ hsk)) (io (.i sk.kids.length) (.i sk.kids.length) (lr _) (ic [1] (K1 rd bs (((p+1)+1)+1) sk.kids.length (ZD:=ob)) ?_)))))
   rintro _ _ ⟨YA,rfl,rfl,WC⟩
   obtain ⟨ck,hck⟩:=Zt (xs:=sk.kids) (j:=YA) om
   have hckz:=T9 hck
   have hckb:=KJ hsk
   have hckg:=Z3f hg hsk hck
   refine Z1 1 7 (.i YA) (ie (aD 20 (Y5 17 20 [0,1,2] (.n 52 (.ms g1 0 b.steps.length c1) (.n 53 (.i Y7) .r)) [2] [b3] (dx 3 (W4 g1 b.steps.length c1 Y7 5 (Y7:Int)) (ZX 15 16 [4] 55 (.val (.pointer (some ⟨g1,Y7*5+4,none⟩))) (VO 5 (WW 3 g1 b.steps.length c1 5 (Y7*5+4) (Wz b kk (.slice (some ⟨g2,0,none⟩) sk.kids.length c2) b.steps.length) [.ms g2 0 sk.kids.length c2] 42 (.ms g2 0 sk.kids.length c2) (by rw [hkn];exact DZ hsk)) (Y5 9 14 [6,7,8,9,10] (.n 57 (.i YA) (.n 58 (.p rd 0) (.n 60 (.ms g1 0 b.steps.length c1) (.n 61 (.i Y7) .r)))) [2] [b3] (dx 11 (W4 g1 b.steps.length c1 Y7 5 (Y7:Int)) (ZX 7 8 [12] 63 (.val (.pointer (some ⟨g1,Y7*5+4,none⟩))) (VO 13 (WW 3 g1 b.steps.length c1 5 (Y7*5+4) (Wz b kk (.slice (some ⟨g2,0,none⟩) sk.kids.length c2) b.steps.length) [.ms g2 0 sk.kids.length c2] 42 (.ms g2 0 sk.kids.length c2) (by rw [hkn];exact DZ hsk)) (ZX 5 6 [14] 65 (.i YA) (dx 15 (W4 g2 sk.kids.length c2 YA 2 (YA:Int)) (VO 16 (WW 1 g2 sk.kids.length c2 2 (YA*2) (Zl (YH sk.kids)) (Y9 ck) 30 (Zq ck) (Rj hck)) (Z9 17 (dc 17 [0] [2,1] [g1,b3] (ih rd bs ((((p+1)+1)+1)+1) ck ob ob ob ob ob) ?_)))))))))))))))
   rintro _ _ ⟨y1,p21,rfl,rfl,WP⟩
   have hyb:=WP
   refine dx 18 (W4 g2 sk.kids.length c2 YA 2 (YA:Int)) (Z9 19 (Ax 19 1 [] [] g2 sk.kids.length c2 2 (YA*2) (Y9 y1) (Zl (YH sk.kids)) (Zl (YH (sk.kids.set YA y1))) (by rw [Cf];simp only [YQ,Xp];omega) (Rl y1 om) (de (ar (XM (NK 0 2 b kk sk (sk.kids.set YA y1) (.slice (some ⟨g2,0,none⟩) sk.kids.length c2) (.slice (some ⟨g1,0,none⟩) b.steps.length c1) hsk) (XM (Ux 0 2 0 (.slice (some ⟨g1,0,none⟩) b.steps.length c1) 5 b3 (Zs (b.steps.set kk (Z4.mk sk.op sk.num sk.into sk.args (sk.kids.set YA y1)))) [.ms g1 0 b.steps.length c1,.i b.result] (X9 _) rfl) (Yl 1 70 (.agg [ZV (b.steps.set kk (Z4.mk sk.op sk.num sk.into sk.args (sk.kids.set YA y1))) (.slice (some ⟨g1,0,none⟩) b.steps.length c1),.i b.result]) [0] [b3] (ZF 4 b2 [ZV (b.steps.set kk (Z4.mk sk.op sk.num sk.into sk.args (sk.kids.set YA y1))) (.slice (some ⟨g1,0,none⟩) b.steps.length c1),.i b.result] (ie ?_)))))))))
   exact Zc (r3 [4] [.agg [ZV (b.steps.set kk (Z4.mk sk.op sk.num sk.into sk.args (sk.kids.set YA y1))) (.slice (some ⟨g1,0,none⟩) b.steps.length c1),.i b.result]] [0] [(b2,b2)] ⟨(Z6.mk (b.steps.set kk (Z4.mk sk.op sk.num sk.into sk.args (sk.kids.set YA y1))) b.result),p21,rfl,rfl,(by first|exact ⟨Xt.result hg _,by omega,by omega⟩|exact ⟨Xt.kid hg hsk hck hyb.1,by omega,by omega⟩|exact ⟨Xt.del hg,by omega,by omega⟩|exact ⟨Xt.put hg,by omega,by omega⟩|exact ⟨Xt.set hg hsk ⟨by have:=hys.1.1;omega,hys.1.2⟩,by omega,by omega⟩)⟩ (Zg.agg (.cons (Zg.forget _ _) (.cons (lr _) .nil))))
  refine ak (aq (ar (XM (Hk 5 2 b kk sk u1.v (.slice (some ⟨g1,0,none⟩) b.steps.length c1) hsk) (Z1 1 71 (.p rd 0) (ic [2] (XP rd bs (((p+1)+1)+1) 4 (ZD:=ob)) ?_)))))
  rintro _ _ ⟨k3,rfl,rfl,U9⟩
  refine ie (ab 0 (ar (Z1 2 84 (.b (k3==0)) (ie (ac (k3==0) Zh (fun ZI=>?_) (fun ZI=>?_))))))
  ·refine aE 12 (Y5 9 12 [0,1,2] (.n 87 (.ms g1 0 b.steps.length c1) (.n 88 (.i Y7) .r)) [3] [b3] (dx 3 (Gj 1 g1 b.steps.length c1 Y7 5 (Zl (Zs b.steps))) (Y5 5 8 [4,5,6] (.n 91 (.ms g1 0 b.steps.length c1) (.n 92 (.i Y7) .r)) [3] [b3] (da 7 (((Y7+1:Nat):Int)) (((Y7:Int))+(1)) (dx 8 (Lv 1 g1 b.steps.length c1 (Y7+1) 5 (Zl (Zs b.steps))) (Z9 9 (Ij 9 1 [] [] g1 b.steps.length c1 Y7 (Y7+1) 5 (Zl (Zs b.steps)) (Vq _) (ZX 1 2 [10] 96 (.p b3 0) (Z9 11 (YF 11 3 [] [] b3 [.ms g1 0 (Y7+(b.steps.length-(Y7+1))) c1,.i b.result] (de (ar (XM (Hl 1 (.slice (some ⟨g1,0,none⟩) (Y7+(b.steps.length-(Y7+1))) c1) 5 (((Zl (Zs b.steps)).take (Y7*5))++((Zl (Zs b.steps)).drop ((Y7+1)*5))) (Zl (Zs (b.steps.take kk++b.steps.drop (kk+1)))) (by rw [hkn];exact IJ hkl)) (XM (Ux 0 0 0 (.slice (some ⟨g1,0,none⟩) (Y7+(b.steps.length-(Y7+1))) c1) 5 b3 (Zs (b.steps.take kk++b.steps.drop (kk+1))) [.ms g1 0 (Y7+(b.steps.length-(Y7+1))) c1,.i b.result] (X9 _) rfl) (Yl 1 108 (.agg [ZV (b.steps.take kk++b.steps.drop (kk+1)) (.slice (some ⟨g1,0,none⟩) (Y7+(b.steps.length-(Y7+1))) c1),.i b.result]) [0] [b3] (ZF 4 b2 [ZV (b.steps.take kk++b.steps.drop (kk+1)) (.slice (some ⟨g1,0,none⟩) (Y7+(b.steps.length-(Y7+1))) c1),.i b.result] (ie ?_)))))))))))))))))
   exact Zc (r3 [3] [.agg [ZV (b.steps.take kk++b.steps.drop (kk+1)) (.slice (some ⟨g1,0,none⟩) (Y7+(b.steps.length-(Y7+1))) c1),.i b.result]] [0] [(b2,b2)] ⟨(Z6.mk (b.steps.take kk++b.steps.drop (kk+1)) b.result),(((p+1)+1)+1)+1,rfl,rfl,(by first|exact ⟨Xt.result hg _,by omega,by omega⟩|exact ⟨Xt.kid hg hsk hck hyb.1,by omega,by omega⟩|exact ⟨Xt.del hg,by omega,by omega⟩|exact ⟨Xt.put hg,by omega,by omega⟩|exact ⟨Xt.set hg hsk ⟨by have:=hys.1.1;omega,hys.1.2⟩,by omega,by omega⟩)⟩ (Zg.agg (.cons (Zg.forget _ _) (.cons (lr _) .nil))))
  refine ar (Z1 2 97 (.b (k3==1)) (ie (ac (k3==1) Zh (fun Yh=>?_) (fun Yh=>?_))))
  ·refine aD 10 (Fk (Ux 1 2 0 (.slice (some ⟨g1,0,none⟩) b.steps.length c1) 5 b3 (Zs b.steps) [.ms g1 0 b.steps.length c1,.i b.result] (X9 _) rfl) (W3 6 10 [0,1,2,5] [(4,.p b2 0),(99,.agg [ZV b.steps (.slice (some ⟨g1,0,none⟩) b.steps.length c1),.i b.result]),(100,.i Y7),(101,.p rd 0),(104,.p rd 0)] [0] [b3] (Z9 3 (dL 3 [0] [b3] (Z8 [14,15,15,16,17]) 5 1 ?_))))
   intro v3
   refine ZZ 5 5 [] (.n 102 (Z0 [14,15,15,16,17]) (.p .r)) (Z9 4 (dc 4 [3] [0] [b3] (Vr rd bs ((((p+1)+1)+1)+1) [14,15,15,16,17] (ZD:=ob)) ?_))
   rintro _ _ ⟨z2,rfl,rfl,UD⟩
   refine Z9 6 (dc 6 [0] [0] [b3] (XP rd bs (((((p+1)+1)+1)+1)+1) 4 (ZD:=ob)) ?_)
   rintro _ _ ⟨k4,rfl,rfl,Ur⟩
   refine Z9 7 (Yt 7 [] [1] [b3] (KI z2 k4) (ZZ 2 2 [] (.n 99 (Zq b) (.q 106 (.p (.p (.d (.k (.d (.k .z)))))))) (Z9 8 (Yt 8 [] [] [] (DI b Y7 (Zi z2 k4)) (Z9 9 (YF 9 5 [] [] b2 (Y9 (Z6.mk (Wb b.steps Y7 (Zi z2 k4)) b.result)) (de ?_)))))))
   exact Zc (r3 [1] [Zq (Z6.mk (Wb b.steps Y7 (Zi z2 k4)) b.result)] [0] [(b2,b2)] ⟨(Z6.mk (Wb b.steps Y7 (Zi z2 k4)) b.result),(((((p+1)+1)+1)+1)+1)+1,rfl,rfl,(by first|exact ⟨Xt.result hg _,by omega,by omega⟩|exact ⟨Xt.kid hg hsk hck hyb.1,by omega,by omega⟩|exact ⟨Xt.del hg,by omega,by omega⟩|exact ⟨Xt.put hg,by omega,by omega⟩|exact ⟨Xt.set hg hsk ⟨by have:=hys.1.1;omega,hys.1.2⟩,by omega,by omega⟩)⟩ (lr _))
  refine aE 12 (Y5 5 12 [0,1,2,3,4,5,6] (.n 74 (.ms g1 0 b.steps.length c1) (.n 75 (.i Y7) (.n 76 (.p rd 0) (.n 78 (.ms g1 0 b.steps.length c1) (.n 79 (.i Y7) .r))))) [3,3] [b3,b3] (dx 7 (W4 g1 b.steps.length c1 Y7 5 (Y7:Int)) (VO 8 (WW 1 g1 b.steps.length c1 5 (Y7*5) (Zl (Zs b.steps)) (Ye sk) 44 (Y2 sk) (by rw [hkn];exact FK hsk)) (Z9 9 (dc 9 [0] [1] [b3] (Lb rd bs ((((p+1)+1)+1)+1) sk (ZD:=ob)) ?_)))))
  rintro _ _ ⟨y2,p22,rfl,rfl,Tq⟩
  have hys:=Tq
  refine dx 10 (W4 g1 b.steps.length c1 Y7 5 (Y7:Int)) (Z9 11 (Ax 11 1 [] [] g1 b.steps.length c1 5 (Y7*5) (Ye y2) (Zl (Zs b.steps)) (Zl (Zs (b.steps.set kk y2))) (by rw [TS];simp only [YQ,Xp];omega) (by rw [hkn];exact DB hsk) (de (ar (XM (Ux 0 2 0 (.slice (some ⟨g1,0,none⟩) b.steps.length c1) 5 b3 (Zs (b.steps.set kk y2)) [.ms g1 0 b.steps.length c1,.i b.result] (X9 _) rfl) (Yl 1 108 (.agg [ZV (b.steps.set kk y2) (.slice (some ⟨g1,0,none⟩) b.steps.length c1),.i b.result]) [0] [b3] (ZF 4 b2 [ZV (b.steps.set kk y2) (.slice (some ⟨g1,0,none⟩) b.steps.length c1),.i b.result] (ie ?_))))))))
  exact Zc (r3 [3] [.agg [ZV (b.steps.set kk y2) (.slice (some ⟨g1,0,none⟩) b.steps.length c1),.i b.result]] [0] [(b2,b2)] ⟨(Z6.mk (b.steps.set kk y2) b.result),p22,rfl,rfl,(by first|exact ⟨Xt.result hg _,by omega,by omega⟩|exact ⟨Xt.kid hg hsk hck hyb.1,by omega,by omega⟩|exact ⟨Xt.del hg,by omega,by omega⟩|exact ⟨Xt.put hg,by omega,by omega⟩|exact ⟨Xt.set hg hsk ⟨by have:=hys.1.1;omega,hys.1.2⟩,by omega,by omega⟩)⟩ (Zg.agg (.cons (Zg.forget _ _) (.cons (lr _) .nil))))
 have T7:¬((sk.kids.length:Int)>0):=ZH dq Zv
 refine Z5 4 (.n 41 (.b false) (.k (.d .r))) (ie (WT (ak (aq (ar (XM (Hk 5 2 b kk sk u1.v (.slice (some ⟨g1,0,none⟩) b.steps.length c1) hsk) (Z1 1 71 (.p rd 0) (ic [2] (XP rd bs ((p+1)+1) 4 (ZD:=ob)) ?_))))))))
 rintro _ _ ⟨k5,rfl,rfl,QC⟩
 refine ie (ab 0 (ar (Z1 2 84 (.b (k5==0)) (ie (ac (k5==0) Zh (fun Xk=>?_) (fun Xk=>?_))))))
 ·refine aE 12 (Y5 9 12 [0,1,2] (.n 87 (.ms g1 0 b.steps.length c1) (.n 88 (.i Y7) .r)) [3] [b3] (dx 3 (Gj 1 g1 b.steps.length c1 Y7 5 (Zl (Zs b.steps))) (Y5 5 8 [4,5,6] (.n 91 (.ms g1 0 b.steps.length c1) (.n 92 (.i Y7) .r)) [3] [b3] (da 7 (((Y7+1:Nat):Int)) (((Y7:Int))+(1)) (dx 8 (Lv 1 g1 b.steps.length c1 (Y7+1) 5 (Zl (Zs b.steps))) (Z9 9 (Ij 9 1 [] [] g1 b.steps.length c1 Y7 (Y7+1) 5 (Zl (Zs b.steps)) (Vq _) (ZX 1 2 [10] 96 (.p b3 0) (Z9 11 (YF 11 3 [] [] b3 [.ms g1 0 (Y7+(b.steps.length-(Y7+1))) c1,.i b.result] (de (ar (XM (Hl 1 (.slice (some ⟨g1,0,none⟩) (Y7+(b.steps.length-(Y7+1))) c1) 5 (((Zl (Zs b.steps)).take (Y7*5))++((Zl (Zs b.steps)).drop ((Y7+1)*5))) (Zl (Zs (b.steps.take kk++b.steps.drop (kk+1)))) (by rw [hkn];exact IJ hkl)) (XM (Ux 0 0 0 (.slice (some ⟨g1,0,none⟩) (Y7+(b.steps.length-(Y7+1))) c1) 5 b3 (Zs (b.steps.take kk++b.steps.drop (kk+1))) [.ms g1 0 (Y7+(b.steps.length-(Y7+1))) c1,.i b.result] (X9 _) rfl) (Yl 1 108 (.agg [ZV (b.steps.take kk++b.steps.drop (kk+1)) (.slice (some ⟨g1,0,none⟩) (Y7+(b.steps.length-(Y7+1))) c1),.i b.result]) [0] [b3] (ZF 4 b2 [ZV (b.steps.take kk++b.steps.drop (kk+1)) (.slice (some ⟨g1,0,none⟩) (Y7+(b.steps.length-(Y7+1))) c1),.i b.result] (ie ?_)))))))))))))))))
  exact Zc (r3 [3] [.agg [ZV (b.steps.take kk++b.steps.drop (kk+1)) (.slice (some ⟨g1,0,none⟩) (Y7+(b.steps.length-(Y7+1))) c1),.i b.result]] [0] [(b2,b2)] ⟨(Z6.mk (b.steps.take kk++b.steps.drop (kk+1)) b.result),((p+1)+1)+1,rfl,rfl,(by first|exact ⟨Xt.result hg _,by omega,by omega⟩|exact ⟨Xt.kid hg hsk hck hyb.1,by omega,by omega⟩|exact ⟨Xt.del hg,by omega,by omega⟩|exact ⟨Xt.put hg,by omega,by omega⟩|exact ⟨Xt.set hg hsk ⟨by have:=hys.1.1;omega,hys.1.2⟩,by omega,by omega⟩)⟩ (Zg.agg (.cons (Zg.forget _ _) (.cons (lr _) .nil))))
 refine ar (Z1 2 97 (.b (k5==1)) (ie (ac (k5==1) Zh (fun Xl=>?_) (fun Xl=>?_))))
 ·refine aD 10 (Fk (Ux 1 2 0 (.slice (some ⟨g1,0,none⟩) b.steps.length c1) 5 b3 (Zs b.steps) [.ms g1 0 b.steps.length c1,.i b.result] (X9 _) rfl) (W3 6 10 [0,1,2,5] [(4,.p b2 0),(99,.agg [ZV b.steps (.slice (some ⟨g1,0,none⟩) b.steps.length c1),.i b.result]),(100,.i Y7),(101,.p rd 0),(104,.p rd 0)] [0] [b3] (Z9 3 (dL 3 [0] [b3] (Z8 [14,15,15,16,17]) 5 1 ?_))))
  intro v4
  refine ZZ 5 5 [] (.n 102 (Z0 [14,15,15,16,17]) (.p .r)) (Z9 4 (dc 4 [3] [0] [b3] (Vr rd bs (((p+1)+1)+1) [14,15,15,16,17] (ZD:=ob)) ?_))
  rintro _ _ ⟨z3,rfl,rfl,QD⟩
  refine Z9 6 (dc 6 [0] [0] [b3] (XP rd bs ((((p+1)+1)+1)+1) 4 (ZD:=ob)) ?_)
  rintro _ _ ⟨k6,rfl,rfl,Jf⟩
  refine Z9 7 (Yt 7 [] [1] [b3] (KI z3 k6) (ZZ 2 2 [] (.n 99 (Zq b) (.q 106 (.p (.p (.d (.k (.d (.k .z)))))))) (Z9 8 (Yt 8 [] [] [] (DI b Y7 (Zi z3 k6)) (Z9 9 (YF 9 5 [] [] b2 (Y9 (Z6.mk (Wb b.steps Y7 (Zi z3 k6)) b.result)) (de ?_)))))))
  exact Zc (r3 [1] [Zq (Z6.mk (Wb b.steps Y7 (Zi z3 k6)) b.result)] [0] [(b2,b2)] ⟨(Z6.mk (Wb b.steps Y7 (Zi z3 k6)) b.result),((((p+1)+1)+1)+1)+1,rfl,rfl,(by first|exact ⟨Xt.result hg _,by omega,by omega⟩|exact ⟨Xt.kid hg hsk hck hyb.1,by omega,by omega⟩|exact ⟨Xt.del hg,by omega,by omega⟩|exact ⟨Xt.put hg,by omega,by omega⟩|exact ⟨Xt.set hg hsk ⟨by have:=hys.1.1;omega,hys.1.2⟩,by omega,by omega⟩)⟩ (lr _))
 refine aE 12 (Y5 5 12 [0,1,2,3,4,5,6] (.n 74 (.ms g1 0 b.steps.length c1) (.n 75 (.i Y7) (.n 76 (.p rd 0) (.n 78 (.ms g1 0 b.steps.length c1) (.n 79 (.i Y7) .r))))) [3,3] [b3,b3] (dx 7 (W4 g1 b.steps.length c1 Y7 5 (Y7:Int)) (VO 8 (WW 1 g1 b.steps.length c1 5 (Y7*5) (Zl (Zs b.steps)) (Ye sk) 44 (Y2 sk) (by rw [hkn];exact FK hsk)) (Z9 9 (dc 9 [0] [1] [b3] (Lb rd bs (((p+1)+1)+1) sk (ZD:=ob)) ?_)))))
 rintro _ _ ⟨y3,p23,rfl,rfl,QE⟩
 have hys:=QE
 refine dx 10 (W4 g1 b.steps.length c1 Y7 5 (Y7:Int)) (Z9 11 (Ax 11 1 [] [] g1 b.steps.length c1 5 (Y7*5) (Ye y3) (Zl (Zs b.steps)) (Zl (Zs (b.steps.set kk y3))) (by rw [TS];simp only [YQ,Xp];omega) (by rw [hkn];exact DB hsk) (de (ar (XM (Ux 0 2 0 (.slice (some ⟨g1,0,none⟩) b.steps.length c1) 5 b3 (Zs (b.steps.set kk y3)) [.ms g1 0 b.steps.length c1,.i b.result] (X9 _) rfl) (Yl 1 108 (.agg [ZV (b.steps.set kk y3) (.slice (some ⟨g1,0,none⟩) b.steps.length c1),.i b.result]) [0] [b3] (ZF 4 b2 [ZV (b.steps.set kk y3) (.slice (some ⟨g1,0,none⟩) b.steps.length c1),.i b.result] (ie ?_))))))))
 exact Zc (r3 [3] [.agg [ZV (b.steps.set kk y3) (.slice (some ⟨g1,0,none⟩) b.steps.length c1),.i b.result]] [0] [(b2,b2)] ⟨(Z6.mk (b.steps.set kk y3) b.result),p23,rfl,rfl,(by first|exact ⟨Xt.result hg _,by omega,by omega⟩|exact ⟨Xt.kid hg hsk hck hyb.1,by omega,by omega⟩|exact ⟨Xt.del hg,by omega,by omega⟩|exact ⟨Xt.put hg,by omega,by omega⟩|exact ⟨Xt.set hg hsk ⟨by have:=hys.1.1;omega,hys.1.2⟩,by omega,by omega⟩)⟩ (Zg.agg (.cons (Zg.forget _ _) (.cons (lr _) .nil))))
theorem FZ (rd:Nat) (bs:List Int) (p:Nat) (b:Z6) (ZD:∀z∈bs,0<=z/\z<=255) (hp:p+10*b.sz<=1000000000:=by exact ob) (hz:b.sz<=20000000:=by exact ob) (hg:b.rng:=by exact ob):Zj Tryz.prog 53 [.p rd 0,Zq b] [Yk rd bs p] (fun r h=>∃(y:Z6) (p2:Nat),r=Zq y/\h=[Yk rd bs p2]/\Xt b y/\p<=p2/\p2<=p+(10*b.sz)):=by
 have key:∀k:Nat,∀(rd:Nat) (bs:List Int) (p:Nat) (b2:Z6),(∀z∈bs,0<=z/\z<=255)->(p+(10*b2.sz)<=1000000000)->(b2.sz<=20000000)->(b2.rng)->(b2.sz<k)->Zj Tryz.prog 53 [.p rd 0,Zq b2] [Yk rd bs p] (fun r h=>∃(y:Z6) (p2:Nat),r=Zq y/\h=[Yk rd bs p2]/\Xt b2 y/\p<=p2/\p2<=p+(10*b2.sz)):=by
  intro k
  induction k with
  | zero=>intro rd bs p b2 h1 h2 h3 h4 h5;omega
  | succ k ih=>
   intro rd bs p b2 h1 h2 h3 h4 h5
   by_cases h0:b2.steps.length=0
   ·exact Sz rd bs p b2 h1 h2 h3 h4 h0
   ·exact SA rd bs p b2 h1 h2 h3 h4 om fun rd bs p b3 q1 q2 q3 q4 q5=>ih rd bs p b3 q1 q2 q3 q4 om
 exact key (b.sz+1) rd bs p b ZD hp hz hg om
theorem L9 (rd:Nat) (bs:List Int) (p:Nat) (n:Zx) (often:Nat) (q:Nat) (l:Nat) (ZD:∀z∈bs,0<=z/\z<=255) (hp:p+(10*q+20)<=1000000000:=by exact ob) (hzn:ZS n q l:=by exact ob) (hq:q<=9999000:=by exact ob) (hl:l<=100:=by exact ob) (ho:0<often:=by exact ob):Zj Tryz.prog 61 [.p rd 0,ZB n,.i often] [Yk rd bs p] (fun r h=>∃(n2:Zx) (p2:Nat),r=ZB n2/\h=[Yk rd bs p2]/\ZS n2 (q+2) (l+1)/\p<=p2/\p2<=p+(10*q+20)):=by
 have hnl:=hzn.len
 refine ZL 64 Tryz.func61 (ar (iA (ZP n) ?_))
 intro b1
 refine iA [nl,nl] ?_
 intro b2
 refine ie (aq (ar (ir 2 [(0,.p rd 0),(4,.p b1 0),(6,.p b2 0),(9,.p rd 0),(10,.i often)] (ic [2] (K1 rd bs p often (ZD:=ob)) ?_))))
 rintro _ _ ⟨Y7,rfl,rfl,ZO⟩
 refine Z1 1 12 (.b (decide ((Y7:Int)>0))) (ie (ZQ ((Y7:Int)>0) (fun Ze=>?_) (fun Ze=>?_)))
 ·refine ar (Yl 1 13 (ZB n) [2] [b1] (ZF 1 b2 (ZP n) (ie ?_)))
  exact Zc (r3 [1] [ZB n] [0] [(b2,b2)] ⟨n,p+1,rfl,rfl,(by first|exact ⟨hzn.le om om,by omega,by omega⟩|exact ⟨hzn.set hx1k om om om om hz1.2.2.2,by omega,by omega⟩|exact ⟨(hzn.le om om).ds had.1,by omega,by omega⟩|exact ⟨hzn.set hx2k om om om (by have:=hsb.1.1;omega) hsb.1.2,by omega,by omega⟩)⟩ (lr _))
 refine ak (ar (ZY 3 14 (.p rd 0) 16 (X6 n.routines) [2] [b1] (iw (Un n.routines) (ic [0] (K1 rd bs (p+1) n.routines.length (ZD:=ob)) ?_))))
 rintro _ _ ⟨YA,rfl,rfl,Y0⟩
 refine Z1 1 7 (.i YA) (ie (aq (ar (Z1 1 19 (.p rd 0) (ic [0] (XP rd bs ((p+1)+1) 8 (ZD:=ob)) ?_)))))
 rintro _ _ ⟨k1,rfl,rfl,Yz⟩
 refine ie (ab 0 (ar (Z1 2 21 (.b (k1==0)) (ie (ac (k1==0) Zh (fun Zm=>?_) (fun Zm=>?_))))))
 ·refine aD 11 (Y5 6 11 [0,1,2,3,4] (.n 23 (ZB n) (.n 24 (.i YA) (.n 26 (X6 n.routines) (.n 27 (.i YA) .r)))) [2,2] [b1,b1] ?_)
  obtain ⟨x1,Z3⟩:=Zt (xs:=n.routines) (j:=YA) om
  have hx1k:=Z3
  have hz1:=hzn.rt _ (Y6 Z3)
  refine dx 5 (Zn none (YA:Int) 5 (WH Z3)) (ZX 3 5 [6,7] 30 (Zq x1.body) (dK (fun F h=>∃(g1:Nat) (c1:Nat) (b3:Nat),F=[(0,.p rd 0),(6,.p b2 0),(7,.i YA),(8,.p b3 0)]/\h=[.obj b3 [Zd n.decls,.ms g1 0 n.routines.length c1],.row (.slice (some ⟨g1,0,none⟩) n.routines.length c1) 5 (Zl (YL (n.routines.set YA (Yj.mk x1.params x1.lent x1.result x1.body)))),.obj rd [X8 bs,.i ((((p+1)+1)+1:Nat):Int)],.obj b2 [nl,nl],.obj b1 (ZP n)]) ?_ ?_))
  ·refine Vf 8 9 ?_ ?_
   ·refine dc 8 [] [] [] (G0 n YA x1.body x1 (hr:=Z3)) ?_
    rintro _ _ ⟨g1,c1,rfl,rfl⟩
    refine Z9 9 (dA 9 [] [] [nl,nl] ?_)
    intro b3
    refine Z9 10 (YF 10 0 [] [] b3 [Zd n.decls,.ms g1 0 n.routines.length c1] (de ?_))
    exact ZU ⟨g1,c1,b3,rfl,rfl⟩ (ZJ 5 fl)
   refine dA 9 [2,2] [b1,b1] [nl,nl] ?_
   intro b4
   refine Z9 8 (dc 8 [] [] [] (G0 n YA x1.body x1 (hr:=Z3)) ?_)
   rintro _ _ ⟨g2,c2,rfl,rfl⟩
   refine Z9 10 (YF 10 1 [] [] b4 [Zd n.decls,.ms g2 0 n.routines.length c2] (de ?_))
   exact ZU ⟨g2,c2,b4,rfl,rfl⟩ (ZJ 5 fl)
  rintro F h ⟨g1,c1,b3,rfl,rfl⟩
  refine aD 14 (W3 7 14 [0,1,2,3,4,5,6] [(6,.p b2 0),(8,.p b3 0),(33,.ms g1 0 n.routines.length c1),(34,.i YA),(35,.p rd 0),(37,.ms g1 0 n.routines.length c1),(38,.i YA)] [0,0] [b3,b3] (dx 7 (W4 g1 n.routines.length c1 YA 5 (YA:Int)) (ZX 5 6 [8] 40 (.val (.pointer (some ⟨g1,YA*5+1,none⟩))) (VO 9 (WW 1 g1 n.routines.length c1 5 (YA*5+1) (Zl (YL (n.routines.set YA (Yj.mk x1.params x1.lent x1.result x1.body)))) [Z0 x1.lent] 27 (Z0 x1.lent) (Rn om _)) (Z9 10 (dc 10 [2] [0] [b3] (La rd bs (((p+1)+1)+1) x1.lent (ZD:=ob)) ?_))))))
  rintro _ _ ⟨zs1,p21,rfl,rfl,YM⟩
  have hsi:=YM
  refine dx 11 (W4 g1 n.routines.length c1 YA 5 (YA:Int)) (ZX 1 2 [12] 44 (.val (.pointer (some ⟨g1,YA*5+1,none⟩))) (Z9 13 (Ax 13 2 [] [] g1 n.routines.length c1 5 (YA*5+1) [Z0 zs1] (Zl (YL (n.routines.set YA (Yj.mk x1.params x1.lent x1.result x1.body)))) (Zl (YL (n.routines.set YA (Yj.mk x1.params zs1 x1.result x1.body)))) (by rw [Dz,UM];simp only [YQ,Xp];omega) (Rp om _ _) (de (ar (XM (Ux 0 1 1 (.slice (some ⟨g1,0,none⟩) n.routines.length c1) 5 b3 (YL (n.routines.set YA (Yj.mk x1.params zs1 x1.result x1.body))) [Zd n.decls,.ms g1 0 n.routines.length c1] (U8 _) rfl) (Yl 1 45 (.agg [Zd n.decls,Xi (n.routines.set YA (Yj.mk x1.params zs1 x1.result x1.body)) (.slice (some ⟨g1,0,none⟩) n.routines.length c1)]) [0] [b3] (ZF 3 b2 [Zd n.decls,Xi (n.routines.set YA (Yj.mk x1.params zs1 x1.result x1.body)) (.slice (some ⟨g1,0,none⟩) n.routines.length c1)] (ie ?_)))))))))
  exact Zc (r3 [3] [.agg [Zd n.decls,Xi (n.routines.set YA (Yj.mk x1.params zs1 x1.result x1.body)) (.slice (some ⟨g1,0,none⟩) n.routines.length c1)]] [0] [(b2,b2)] ⟨(Zx.mk n.decls (n.routines.set YA (Yj.mk x1.params zs1 x1.result x1.body))),p21,rfl,rfl,(by first|exact ⟨hzn.le om om,by omega,by omega⟩|exact ⟨hzn.set hx1k om om om om hz1.2.2.2,by omega,by omega⟩|exact ⟨(hzn.le om om).ds had.1,by omega,by omega⟩|exact ⟨hzn.set hx2k om om om (by have:=hsb.1.1;omega) hsb.1.2,by omega,by omega⟩)⟩ (Zg.agg (.cons (lr _) (.cons (Zg.forget _ _) .nil))))
 refine ar (Z1 2 46 (.b (k1==1)) (ie (ac (k1==1) Zh (fun ZI=>?_) (fun ZI=>?_))))
 ·refine aD 6 (Y5 3 6 [0,2,3] (.n 48 (.p rd 0) (.n 51 (X6 n.routines) .r)) [2] [b1] (Z9 1 (dc 1 [0] [1] [b1] (Rx rd bs (((p+1)+1)+1) (ZD:=ob)) ?_)))
  rintro _ _ ⟨dz1,p22,rfl,rfl,YX⟩
  have had:=YX
  refine ZX 1 2 [4] 52 (.agg [Zd dz1,X6 n.routines]) (Z9 5 (YF 5 1 [] [] b2 [Zd dz1,X6 n.routines] (de ?_)))
  exact Zc (r3 [1] [.agg [Zd dz1,X6 n.routines]] [0] [(b2,b2)] ⟨(Zx.mk dz1 n.routines),p22,rfl,rfl,(by first|exact ⟨hzn.le om om,by omega,by omega⟩|exact ⟨hzn.set hx1k om om om om hz1.2.2.2,by omega,by omega⟩|exact ⟨(hzn.le om om).ds had.1,by omega,by omega⟩|exact ⟨hzn.set hx2k om om om (by have:=hsb.1.1;omega) hsb.1.2,by omega,by omega⟩)⟩ (lr _))
 refine ak (aD 12 (W3 6 12 [0,1,2,3,4,5] [(6,.p b2 0),(53,ZB n),(54,.i YA),(55,.p rd 0),(57,X6 n.routines),(58,.i YA)] [2,2] [b1,b1] ?_))
 obtain ⟨x2,Zy⟩:=Zt (xs:=n.routines) (j:=YA) om
 have hx2k:=Zy
 have hz2:=hzn.rt _ (Y6 Zy)
 refine dx 6 (Zn none (YA:Int) 5 (WH Zy)) (ZX 3 5 [7,8] 61 (Zq x2.body) (Z9 9 (dc 9 [0] [1] [b1] (FZ rd bs (((p+1)+1)+1) x2.body (ZD:=ob) (hg:=hz2.2.2.2)) ?_)))
 rintro _ _ ⟨y1,p23,rfl,rfl,Xw⟩
 have hsb:=Xw
 refine Z9 10 (Yt 10 [] [] [] (Lc n YA y1 x2 (hr:=Zy)) (Z9 11 (YF 11 1 [] [] b2 (ZP (withR n YA x2 y1)) (de ?_))))
 exact Zc (r3 [1] [ZB (withR n YA x2 y1)] [0] [(b2,b2)] ⟨(withR n YA x2 y1),p23,rfl,rfl,(by first|exact ⟨hzn.le om om,by omega,by omega⟩|exact ⟨hzn.set hx1k om om om om hz1.2.2.2,by omega,by omega⟩|exact ⟨(hzn.le om om).ds had.1,by omega,by omega⟩|exact ⟨hzn.set hx2k om om om (by have:=hsb.1.1;omega) hsb.1.2,by omega,by omega⟩)⟩ (lr _))
theorem Ry (rd:Nat) (bs:List Int) (p:Nat) (ZD:∀z∈bs,0<=z/\z<=255) (hp:p+73706400<=1000000000:=by exact ob):Zj Tryz.prog 49 [.p rd 0] [Yk rd bs p] (fun r h=>∃(n2:Zx) (p2:Nat),r=ZB n2/\h=[Yk rd bs p2]/\ZS n2 7330632 11/\p<=p2/\p2<=p+73706400):=by
 refine ZL 14 Tryz.func49 (ar (iA [nl,nl] ?_))
 intro b1
 refine ie (aq (ar (ir 1 [(0,.p rd 0),(2,.p b1 0),(3,.p rd 0)] (ic [1] (XP rd bs p 4 (ZD:=ob)) ?_))))
 rintro _ _ ⟨k1,rfl,rfl,ZO⟩
 refine Z1 1 5 (.b (k1==0)) (ie (ac (k1==0) Zh (fun Ze=>?_) (fun Ze=>?_)))
 ·refine ar (Yn 2 6 (.p rd 0) 7 (.p rd 0) (ic [0] (L6 rd bs (p+1) (ZD:=ob)) ?_))
  rintro _ _ ⟨n1,p21,rfl,rfl,Y0⟩
  have hpf:=((FO.zn Y0.1).le (show 181<=7330630 by omega)).zs
  refine ic [0] (L9 rd bs p21 n1 8 7330630 10 (ZD:=ob) (hzn:=(by first|exact hpf|exact hbf))) ?_
  rintro _ _ ⟨n21,p22,rfl,rfl,Yz⟩
  have hsf:=Yz
  refine ZF 1 b1 (ZP n21) (ie ?_)
  exact Zc (r3 [1] [ZB n21] [0] [(b1,b1)] ⟨n21,p22,rfl,rfl,⟨hsf.1,by omega,by omega⟩⟩ (lr _))
 refine ak (ar (Yn 2 10 (.p rd 0) 11 (.p rd 0) (ic [0] (RA rd bs (p+1) (ZD:=ob)) ?_)))
 rintro _ _ ⟨n2,p23,rfl,rfl,YM⟩
 have hbf:=YM.1.zs
 refine ic [0] (L9 rd bs p23 n2 8 7330630 10 (ZD:=ob) (hzn:=(by first|exact hpf|exact hbf))) ?_
 rintro _ _ ⟨n22,p24,rfl,rfl,YX⟩
 have hsf:=YX
 refine ZF 1 b1 (ZP n22) (ie ?_)
 exact Zc (r3 [1] [ZB n22] [0] [(b1,b1)] ⟨n22,p24,rfl,rfl,⟨hsf.1,by omega,by omega⟩⟩ (lr _))
theorem Rw (code:List Int) (hcl:code.length<=1048576:=by exact ob) (hcb:∀z∈code,0<=z/\z<=255):Zj Tryz.prog 15 [X8 code] [] (fun r h=>∃(n2:Zx) (us:List Int) (b:Z6),r=.tup [ZB n2,Z0 us,Zq b]/\h=[]/\ZS n2 7330632 11/\us.length<=4/\b.sz<=7330634/\b.rng):=by
 refine ZL 47 Tryz.func15 (ar (iA [nl,nl] ?_))
 intro b1
 refine ir 1 [(0,X8 code),(2,.p b1 0)] (iA [nl,.i 0] ?_)
 intro b2
 refine ie (ar (Z1 1 10 (X8 code) (ic [] (Sk code (hc:=hcb)) ?_)))
 rintro _ _ ⟨rd1,bs1,rfl,rfl,ZO⟩
 have hnr:=ZO
 refine Z1 1 5 (.p rd1 0) (ie (ar (Z1 1 12 (.p rd1 0) (ic [0] (Ry rd1 bs1 0 (ZD:=hnr)) ?_))))
 rintro _ _ ⟨n21,p21,rfl,rfl,Y0⟩
 have haf:=Y0
 refine iA [nl,nl] ?_
 intro b3
 refine ZF 0 b3 (ZP n21) (ie (ar (ZY 3 14 (.p rd1 0) 16 (X6 n21.routines) [0] [b3] (iw (Un n21.routines) (ic [1] (K1 rd1 bs1 p21 n21.routines.length (ZD:=hnr) (hmx:=(by have:=haf.1.len;omega))) ?_)))))
 rintro _ _ ⟨Y7,rfl,rfl,Yz⟩
 refine Z1 1 7 (.i Y7) (ie (ar (ZY 3 20 (X6 n21.routines) 21 (.i Y7) [1] [b3] ?_)))
 obtain ⟨x1,Z3⟩:=Zt (xs:=n21.routines) (j:=Y7) om
 have hz1:=haf.1.rt _ (Y6 Z3)
 refine Zp (Zn none (Y7:Int) 5 (WH Z3)) (Z1 2 24 (Z0 x1.params) (ic [] (VH x1.params) ?_))
 rintro _ _ ⟨v1,rfl,rfl⟩
 refine Z1 1 8 (Z7 x1.params v1) (ie (aq (ar (Z1 1 26 (.p rd1 0) (ic [1] (XP rd1 bs1 (p21+1) 8 (ZD:=hnr)) ?_)))))
 rintro _ _ ⟨k1,rfl,rfl,YM⟩
 refine Z1 1 28 (.b (k1==0)) (ie (ac (k1==0) Zh (fun Ze=>?_) (fun Ze=>?_)))
 ·refine az (Yn 2 29 (.p rd1 0) 30 (Z0 x1.params) (ic [0] (La rd1 bs1 ((p21+1)+1) x1.params (ZD:=hnr)) ?_))
  rintro _ _ ⟨zs1,p22,rfl,rfl,YX⟩
  have hsi:=YX
  refine Z5 1 (.n 8 (Z0 zs1) (.q 31 (.k (.k (.k (.q 27 (.k (.d .r)))))))) (ie (ar (ZY 3 33 (X6 n21.routines) 34 (.i Y7) [2] [b3] (Zp (Zn none (Y7:Int) 5 (WH Z3)) (Z1 2 37 (Zq x1.body) (iA [nl,.i 0] ?_))))))
  intro b4
  refine ZF 0 b4 (Y9 x1.body) (ie (aq (ar (Z1 1 38 (.p rd1 0) (ic [1] (XP rd1 bs1 p22 6 (ZD:=hnr)) ?_)))))
  rintro _ _ ⟨k2,rfl,rfl,Xw⟩
  refine Z1 1 40 (.b (k2==0)) (ie (ac (k2==0) Zh (fun Zm=>?_) (fun Zm=>?_)))
  ·refine az (ZY 2 41 (.p rd1 0) 42 (Zq x1.body) [1] [b4] (ic [0] (FZ rd1 bs1 (p22+1) x1.body (ZD:=hnr) (hg:=hz1.2.2.2)) ?_))
   rintro _ _ ⟨y1,p23,rfl,rfl,Wh⟩
   have hsb:=Wh
   refine ZF 1 b4 (Y9 y1) (ie (aD 6 (Y5 3 6 [0,1,2] (.n 44 (ZB n21) (.n 45 (Z0 zs1) (.n 46 (Zq y1) .r))) [3,0] [b3,b4] (Z9 3 (YF 3 5 [0] [b4] b1 (ZP n21) (ZX 1 2 [4] 3 (Z0 zs1) (Z9 5 (YF 5 5 [] [] b2 (Y9 y1) (de ?_)))))))))
   exact Zc (r3 [] [ZB n21,Z0 zs1,Zq y1] [1,0] [(b1,b1),(b2,b2)] ⟨n21,zs1,y1,rfl,rfl,⟨haf.1,by omega,by first|omega|(have:=hsb.1.1;omega),by first|exact hz1.2.2.2|exact hsb.1.2⟩⟩ (lr _))
  refine ak (aD 6 (Y5 3 6 [0,1,2] (.n 44 (ZB n21) (.n 45 (Z0 zs1) (.n 46 (Zq x1.body) .r))) [3,1] [b3,b4] (Z9 3 (YF 3 5 [1] [b4] b1 (ZP n21) (ZX 1 2 [4] 3 (Z0 zs1) (Z9 5 (YF 5 5 [] [] b2 (Y9 x1.body) (de ?_))))))))
  exact Zc (r3 [] [ZB n21,Z0 zs1,Zq x1.body] [1,0] [(b1,b1),(b2,b2)] ⟨n21,zs1,x1.body,rfl,rfl,⟨haf.1,by omega,by first|omega|(have:=hsb.1.1;omega),by first|exact hz1.2.2.2|exact hsb.1.2⟩⟩ (lr _))
 refine ak (ar (ZY 3 33 (X6 n21.routines) 34 (.i Y7) [2] [b3] (Zp (Zn none (Y7:Int) 5 (WH Z3)) (Z1 2 37 (Zq x1.body) (iA [nl,.i 0] ?_)))))
 intro b5
 refine ZF 0 b5 (Y9 x1.body) (ie (aq (ar (Z1 1 38 (.p rd1 0) (ic [1] (XP rd1 bs1 ((p21+1)+1) 6 (ZD:=hnr)) ?_)))))
 rintro _ _ ⟨k3,rfl,rfl,WC⟩
 refine Z1 1 40 (.b (k3==0)) (ie (ac (k3==0) Zh (fun ZI=>?_) (fun ZI=>?_)))
 ·refine az (ZY 2 41 (.p rd1 0) 42 (Zq x1.body) [1] [b5] (ic [0] (FZ rd1 bs1 (((p21+1)+1)+1) x1.body (ZD:=hnr) (hg:=hz1.2.2.2)) ?_))
  rintro _ _ ⟨y2,p24,rfl,rfl,WP⟩
  have hsb:=WP
  refine ZF 1 b5 (Y9 y2) (ie (aD 6 (Y5 3 6 [0,1,2] (.n 44 (ZB n21) (.n 45 (Z7 x1.params v1) (.n 46 (Zq y2) .r))) [3,0] [b3,b5] (Z9 3 (YF 3 5 [0] [b5] b1 (ZP n21) (ZX 1 2 [4] 3 (Z7 x1.params v1) (Z9 5 (YF 5 5 [] [] b2 (Y9 y2) (de ?_)))))))))
  exact Zc (r3 [] [ZB n21,Z7 x1.params v1,Zq y2] [1,0] [(b1,b1),(b2,b2)] ⟨n21,x1.params,y2,rfl,rfl,⟨haf.1,by omega,by first|omega|(have:=hsb.1.1;omega),by first|exact hz1.2.2.2|exact hsb.1.2⟩⟩ (Zg.tup (.cons (lr _) (.cons (Zg.forget _ _) (.cons (lr _) .nil)))))
 refine ak (aD 6 (Y5 3 6 [0,1,2] (.n 44 (ZB n21) (.n 45 (Z7 x1.params v1) (.n 46 (Zq x1.body) .r))) [3,1] [b3,b5] (Z9 3 (YF 3 5 [1] [b5] b1 (ZP n21) (ZX 1 2 [4] 3 (Z7 x1.params v1) (Z9 5 (YF 5 5 [] [] b2 (Y9 x1.body) (de ?_))))))))
 exact Zc (r3 [] [ZB n21,Z7 x1.params v1,Zq x1.body] [1,0] [(b1,b1),(b2,b2)] ⟨n21,x1.params,x1.body,rfl,rfl,⟨haf.1,by omega,by first|omega|(have:=hsb.1.1;omega),by first|exact hz1.2.2.2|exact hsb.1.2⟩⟩ (Zg.tup (.cons (lr _) (.cons (Zg.forget _ _) (.cons (lr _) .nil)))))
theorem OZ (xs:List Int) (hl_xs:xs.length<=4294967296:=by exact ob):Zj Tryz.prog 92 [Z0 xs] [] (fun r h=>∃(v:Value),r=Z7 xs v/\h=[.tail v 1]):=by
 refine ZL 8 Tryz.func92 (ar (ir 1 [(0,Z0 xs)] (ie (aq (ar (Z1 1 3 (Z0 xs) (iN (Z8 xs) (fun hz1=>?_) ?_)))))))
 ·have hz1:=PZ hz1
  refine ie (WU (ar (ir 1 [(2,nl)] (ie (D5 1 ?_)))))
  exact Zc (r2 [0] [nl] ⟨(.slice none 0 0),rfl,rfl⟩ (Zg.slh _ (by first|rfl|(subst_vars;rfl))))
 refine ie (WT (ak (ar (iL (Z8 []) 0 1 ?_))))
 intro v1
 refine Z1 1 6 (Z0 xs) (ip 0 (Z8 xs) (Z8 []) (Z8 xs) v1 none 1 (YD _) (YD _) (XZ _) (by simp<;>omega) (by simp [Z8]) ?_)
 intro v2
 refine ir 1 [(2,Z7 xs v2)] (ie ?_)
 exact Zc (r1 [0] ⟨v2,rfl,rfl⟩)
theorem CP (xs:List Int) (ys:List Int) (hl_xs:xs.length<=4294967296:=by exact ob) (hl_ys:ys.length<=4294967296:=by exact ob):Zj Tryz.prog 170 [Z0 xs,Z0 ys] [] (fun r h=>r=.b (decide (xs=ys))/\h=[]):=by
 refine ZL 26 Tryz.func170 (ar (ir 1 [(0,Z0 xs),(1,Z0 ys)] (ie (aq (ar (Z1 1 6 (Z0 xs) (iw (Yd xs) (Z1 1 8 (Z0 ys) (iw (Yd ys) (Z1 1 10 (.b ((xs.length:Int) != (ys.length:Int))) (ie (ac ((xs.length:Int) != (ys.length:Int)) Yg (fun Ze=>?_) (fun Ze=>?_)))))))))))))
 ·refine ar (ir 1 [(4,.b false)] (ie ?_))
  exact Zc (r2 [] [.b false] ⟨rfl,rfl⟩ (lb (eq_comm.1 (decide_eq_false (fun q=>by rw [q] at Ze;exact Ze rfl)))))
 refine ak (aq (ar (Z1 1 11 (Z0 xs) (iw (Yd xs) (Z1 1 13 (.i 0) (ie (ab 0 (al (fun m F h=>∃(k:Nat),(k<=xs.length)/\(xs.take k=ys.take k)/\F=[(0,Z0 xs),(1,Z0 ys),(12,.i xs.length),(13,.i k)]/\h=[]/\m=xs.length-k) _ _ _ ⟨0,ob,ob,rfl,rfl,rfl⟩ (wk [] (fw (fr (Yf fl)))) ?_))))))))
 rintro m F h ⟨k,Ym,Zo,rfl,rfl,rfl⟩
 refine ar (Z1 1 14 (.b (decide ((k:Int)<(xs.length:Int)))) (ie (aq (ZQ ((k:Int)<(xs.length:Int)) (fun Zm=>?_) (fun Zm=>?_)))))
 ·refine ak (aq (ab 1 (ar (Z1 2 5 (.i k) (ie (aD 9 (ZZ 7 9 [0,1] (.n 16 (Z0 xs) (.n 17 (.i k) .r)) ?_)))))))
  obtain ⟨x1,Z3⟩:=Zt (xs:=xs) (j:=k) om
  refine dx 2 (Zn none (k:Int) 1 (Y3 Z3)) (ZZ 3 6 [3,4,5] (.n 19 (.i x1) (.n 20 (Z0 ys) (.n 21 (.i k) .r))) ?_)
  obtain ⟨x2,Zy⟩:=Zt (xs:=ys) (j:=k) om
  refine dx 6 (Zn none (k:Int) 1 (Y3 Zy)) (ZX 0 2 [7,8] 24 (.b (x1 != x2)) (de (ac (x1 != x2) Yg (fun ZI=>?_) (fun ZI=>?_))))
  ·refine ar (ir 1 [(4,.b false)] (ie ?_))
   exact Zc (r2 [] [.b false] ⟨rfl,rfl⟩ (lb (eq_comm.1 (decide_eq_false (fun q=>by subst q;rw [Z3] at Zy;cases Zy;exact ZI rfl)))))
  refine ak (az (ZM k (ir 1 [(0,Z0 xs),(1,Z0 ys),(12,.i xs.length),(13,.i (k+1:Nat))] (ie ?_))))
  have hdr:=Yb Z3
  exact ZT ⟨k+1,ob,(by rw [WQ Z3,WQ Zy,Zo];have hxx:x1=x2:=om;rw [hxx]),rfl,rfl,rfl⟩ (wk [] (fw (fr (ZW k fl))))
 refine ax 0 (ar (ir 1 [(4,.b true)] (ie ?_)))
 exact Zc (r2 [] [.b true] ⟨rfl,rfl⟩ (lb (eq_comm.1 (decide_eq_true (by rw [Vb om,Vb om] at Zo;exact Zo)))))
theorem Z4r (m:Nat) (hm:m<=4294967296:=by exact ob):Zj Tryz.prog 210 [nl,.i m] [] (fun r h=>∃(v:Hd),r=.h v/\h=[rV v []]):=by
 refine ZL 27 Tryz.func210 (HI B0 (At (F':=[(0,.h hN),(1,.i m)]) (h':=[rV hN []]) (wk [0] (fc (x:=nl) (Zg.hd (v:=hN)) ( fc (x:=.i m) (lr _) (IP _)))) (ar (ir 1 [(0,.h hN),(1,.i m)] (ie (aq (ar (Z1 2 6 (.b (decide ((m:Int)<0))) (ie (ZQ ((m:Int)<0) (fun Ze=>?_) (fun Ze=>?_)))))))))))
 ·exfalso;omega
 refine ak (aq (ar (Yn 2 8 (.i m) 9 (.h hN) (Zp (XD.le (Nz hN) (li (by rfl))) (Z1 1 11 (.h hN) (Zp (XD.le (Jq 0 hN []) (li (by rfl))) (ia ((0-0)) ((0)-(0)) (ia ((m:Int)) (((m:Int))-((0-0))) (ir 1 [(0,.h hN),(1,.i m)] (ie (ar (Z1 2 16 (.b (decide ((m:Int)>0))) (ie (ZQ ((m:Int)>0) (fun Zm=>?_) (fun Zm=>?_)))))))))))))))
 ·refine az (Yn 2 17 (.h hN) 18 (.h hN) (Zp (XD.le (Nz hN) (li (by rfl))) (Zp (Ah 0 hN [] 0) (Z1 1 21 (.i m) (iZ m ?_)))))
  intro v1
  refine Z1 1 23 (.h hN) (Zp (XD.le (Jq 1 hN []) (li (by rfl))) (Zp (Ah 0 v1 (List.replicate m 0) 0) (ir 1 [(0,.h (v1.cut 0))] (ie (ar (ir 2 [(4,.h (v1.cut 0))] (ie (HI (AZ 0 0 v1 (List.replicate m 0)) ?_))))))))
  exact Zc (r1 [0] ⟨(v1.cut 0),rfl,rfl⟩ (eq:=(rv (xs:=((List.replicate m 0).take 0)) ob rz)))
 refine ak (ar (ir 2 [(4,.h hN)] (ie ?_)))
 exact Zc (r1 [0] ⟨hN,rfl,rfl⟩)
theorem Z4q (xss:List (List Int)) (hl_xss:xss.length<=4294967296:=by exact ob) (hf:xss.flatten.length<=4294967296:=by exact ob):Zj Tryz.prog 166 [WD xss] [] (fun r h=>∃(v:Value),r=Z7 xss.flatten v/\h=[.tail v 1]):=by
 have hft:=IO xss
 refine ZL 36 Tryz.func166 (ar (ir 1 [(0,WD xss)] (ie (ar (Z1 1 3 (.i 0) (ie (aq (ar (Z1 1 9 (WD xss) (iw (Dr xss) (Z1 1 11 (.i 0) (ie (ab 0 (al (fun m F h=>∃(k:Nat) (q:Nat),(k<=xss.length)/\(q=(xss.take k).flatten.length)/\F=[(0,WD xss),(3,.i q),(9,WD xss),(10,.i xss.length),(11,.i k)]/\h=[]/\m=xss.length-k) _ _ _ ⟨0,0,ob,(by simp),rfl,rfl,rfl⟩ (wk [] (fr (Yf (fw (Yf fl))))) ?_))))))))))))))
 rintro m F h ⟨k,q,Ym,Zo,rfl,rfl,rfl⟩
 refine ar (Z1 1 12 (.b (decide ((k:Int)<(xss.length:Int)))) (ie (aq (ZQ ((k:Int)<(xss.length:Int)) (fun Ze=>?_) (fun Ze=>?_)))))
 ·refine ak (aq (ab 1 (ar ?_)))
  obtain ⟨x1,Z3⟩:=Zt (xs:=xss) (j:=k) om
  refine Zp (Zn none (k:Int) 1 (Dq Z3)) (Z1 2 5 (Z0 x1) (ie (ar (Yn 2 15 (.i q) 16 (Z0 x1) (iw (Yd x1) (ia (((q+x1.length:Nat):Int)) (((q:Int))+((x1.length:Int))) (hb:=(by have:=IN Z3;omega)) (Z5 1 (.n 3 (.i (q+x1.length:Nat)) (.p (.p (.d (.d (.d (.p (.d (.k (.d .r)))))))))) (ie (ar (Z1 2 20 (.b (decide (((q+x1.length:Nat):Int)<0))) (ie (ZQ (((q+x1.length:Nat):Int)<0) (fun Zm=>?_) (fun Zm=>?_)))))))))))))
  ·exfalso;omega
  refine ak (az (ZM k (Z5 1 (.n 11 (.i (k+1:Nat)) (.p (.d (.w .z)))) (ie ?_))))
  have hdr:=Yb Z3
  exact ZT ⟨k+1,q+x1.length,ob,(by rw [FL Z3,Yu,Zo]),rfl,rfl,rfl⟩ (wk [] (fr (fc (x:=.i (q+x1.length:Nat)) li (fw (ZW k fl)))))
 refine ax 0 (ar (Z1 1 23 (.i q) (ic [] (Z4r q (hm:=(by have:=hft k;omega))) ?_)))
 rintro _ _ ⟨v1,rfl,rfl⟩
 refine Z1 1 6 (.h v1) (ie (aq (ar (Z1 1 25 (WD xss) (iw (Dr xss) (Z1 1 27 (.i 0) (ie (ab 2 (al (fun m F h=>∃(j:Nat) (v:Hd),(j<=xss.length)/\F=[(6,.h v),(25,WD xss),(26,.i xss.length),(27,.i j)]/\h=[rV v ((xss.take j).flatten)]/\m=xss.length-j) _ _ _ ⟨0,v1,ob,rfl,rfl,rfl⟩ (wk [0] (fw (fr (Yf fl))) (e:=(rv (xs:=[]) ob rz))) ?_)))))))))
 rintro m F h ⟨j,v,Ui,rfl,rfl,rfl⟩
 refine ar (Z1 1 28 (.b (decide ((j:Int)<(xss.length:Int)))) (ie (aq (ZQ ((j:Int)<(xss.length:Int)) (fun ZI=>?_) (fun ZI=>?_)))))
 ·refine ak (aq (ab 3 (ar ?_)))
  obtain ⟨x2,Zy⟩:=Zt (xs:=xss) (j:=j) om
  refine Zp (Zn none (j:Int) 1 (Dq Zy)) (Z1 2 8 (Z0 x2) (ie (az (Yn 2 31 (.h v) 32 (Z0 x2) (Kw 0 v ((xss.take j).flatten) x2 none (hbound:=(by have:=IN Zy;omega)) ?_)))))
  intro v2
  refine Z5 1 (.n 6 (.h v2) (.p (.d (.d (.d (.p (.d (.d .r)))))))) (ie (az (ZM j (Z5 1 (.n 27 (.i (j+1:Nat)) (.p (.k (.k (.k .z))))) (ie ?_)))))
  have hdr:=Yb Zy
  exact ZT ⟨j+1,v2,ob,rfl,rfl,rfl⟩ (wk [0] (fw (fr (ZW j fl))) (e:=(rv (xs:=((xss.take j).flatten++x2)) (FL Zy).symm rz)))
 refine ax 2 (ar (ir 2 [(2,.h v)] (ie (D4 2 0 (v:=v) (xs:=(xss.take j).flatten) ?_))))
 exact Zc (r2 [0] [Z7 ((xss.take j).flatten) v.v] ⟨v.v,rfl,rfl⟩ (Zg.slh _ (Yv Z8 (by rw [Vb om]))))
theorem DS (ds:List Zf) (t:Int) (hl_ds:ds.length<=4294967296:=by exact ob):Zj Tryz.prog 91 [Zd ds,.i t] [] (fun r h=>r=.b (decide (0<=t/\t<=ds.length))/\h=[]):=by
 refine ZL 13 Tryz.func91 (ar (ir 1 [(0,Zd ds),(1,.i t)] (ie (ar (XS 8 [(12,.b ((decide (t>=0))&&(decide (t<=(ds.length:Int)))))] [] ?_ (fun hj1=>?_))))))
 ·refine ir 1 [(4,.b ((decide (t>=0))&&(decide (t<=(ds.length:Int)))))] (ie ?_)
  exact Zc (r2 [] [.b ((decide (t>=0))&&(decide (t<=(ds.length:Int))))] ⟨rfl,rfl⟩ (lb (by rw [Xo];simp)))
 refine ir 3 [(0,Zd ds),(1,.i t),(7,.b (decide (t>=0)))] (ib (b:=(decide (t>=0))) 7 (fun Zb=>?_) (fun Zb=>?_))
 ·have ZO:t>=0:=(dq).1 Zb
  refine Z5 2 (.n 8 (.i t) (.n 9 (Zd ds) (.k .z))) (iw (VL ds) (ir 2 [(12,.b (decide (t<=(ds.length:Int))))] ?_))
  exact YG (wk [] (Zr (decide (t<=(ds.length:Int))) Zb fl)) hj1
 have Y0:¬(t>=0):=ZH dq Zb
 refine ir 5 [(12,.b false)] ?_
 exact YG (wk [] (Zr false Zb fl)) hj1
theorem Gd (ds:List Zf) (xs:List Int) (hl_ds:ds.length<=4294967296:=by exact ob) (hl_xs:xs.length<=4294967296:=by exact ob):Zj Tryz.prog 55 [Zd ds,Z0 xs] [] (fun r h=>r=.b (YZ ds.length xs)/\h=[]):=by
 refine ZL 18 Tryz.func55 (ar (ir 1 [(0,Zd ds),(1,Z0 xs)] (ie (aq (ar (Z1 1 7 (Z0 xs) (iw (Yd xs) (Z1 1 9 (.i 0) (ie (ab 0 (al (fun m F h=>∃(k:Nat),(k<=xs.length)/\(YZ ds.length (xs.drop k)=YZ ds.length xs)/\F=[(0,Zd ds),(7,Z0 xs),(8,.i xs.length),(9,.i k)]/\h=[]/\m=xs.length-k) _ _ _ ⟨0,ob,ob,rfl,rfl,rfl⟩ (wk [] (fw (fr (Yf fl)))) ?_)))))))))))
 rintro m F h ⟨k,Ym,Zo,rfl,rfl,rfl⟩
 refine ar (Z1 1 10 (.b (decide ((k:Int)<(xs.length:Int)))) (ie (aq (ZQ ((k:Int)<(xs.length:Int)) (fun Ze=>?_) (fun Ze=>?_)))))
 ·refine ak (aq (ab 1 (ar ?_)))
  obtain ⟨x1,Z3⟩:=Zt (xs:=xs) (j:=k) om
  refine Zp (Zn none (k:Int) 1 (Y3 Z3)) (Z1 2 6 (.i x1) (ie (ar (Yn 2 13 (Zd ds) 14 (.i x1) (ZA [] (DS ds x1) (Z1 1 16 (.b (!(decide (0<=x1/\x1<=ds.length)))) (ie (ac (!(decide (0<=x1/\x1<=ds.length))) (p:=¬(0<=x1/\x1<=ds.length)) (Yo dq) (fun Zm=>?_) (fun Zm=>?_)))))))))
  ·refine ar (ir 1 [(4,.b false)] (ie ?_))
   rw [Yb Z3] at Zo
   exact Zc (r2 [] [.b false] ⟨rfl,rfl⟩ (lb (by clear Z3;first|rfl|omega|grind [YZ])))
  refine ak (az (ZM k (Z5 1 (.n 9 (.i (k+1:Nat)) (.p (.d (.p (.d (.d (.d (.p (.d (.k (.k (.k .z)))))))))))) (ie ?_))))
  have hdr:=Yb Z3
  exact ZT ⟨k+1,ob,(by rw [hdr] at Zo;clear hdr Z3;grind [YZ]),rfl,rfl,rfl⟩ (wk [] (fw (fr (ZW k fl))))
 refine ax 0 (ar (ir 1 [(4,.b true)] (ie ?_)))
 try rw [Xz (xs:=xs) (k:=k) om] at Zo
 exact Zc (r2 [] [.b true] ⟨rfl,rfl⟩ (lb (by first|rfl|omega|grind [YZ])))
theorem Z0h (ds:List Zf) (hd:Wd ds:=by exact ob):Zj Tryz.prog 211 [Zd ds] [] (fun r h=>r=.i (Yq ds:Nat)/\h=[]):=by
 have hdl:=hd.len
 refine ZL 19 Tryz.func211 (ar (ir 1 [(0,Zd ds)] (ie (ar (Z1 1 3 (.i 0) (ie (aq (ar (Z1 1 6 (Zd ds) (iw (VL ds) (Z1 1 8 (.i 0) (ie (ab 0 (al (fun m F h=>∃(k:Nat),(k<=ds.length)/\F=[(3,.i ((Yq (ds.take k):Nat):Int)),(6,Zd ds),(7,.i ds.length),(8,.i k)]/\h=[]/\m=ds.length-k) _ _ _ ⟨0,ob,rfl,rfl,rfl⟩ (wk [] (Yf (fw (Yf fl)))) ?_))))))))))))))
 rintro m F h ⟨k,Ym,rfl,rfl,rfl⟩
 refine ar (Z1 1 9 (.b (decide ((k:Int)<(ds.length:Int)))) (ie (aq (ZQ ((k:Int)<(ds.length:Int)) (fun Ze=>?_) (fun Ze=>?_)))))
 ·refine ak (aq (ab 1 (ar ?_)))
  obtain ⟨x1,Z3⟩:=Zt (xs:=ds) (j:=k) om
  refine Zp (Zn none (k:Int) 3 (Vg Z3)) (Z1 1 11 (Uh x1) (iA [.i 0,.i 0,nl] ?_))
  intro b1
  refine ZF 0 b1 (Wr x1) (ie (az (ZY 3 12 (.i ((Yq (ds.take k):Nat):Int)) 14 (W6 x1.cons) [0] [b1] (iw (U7 x1.cons) (ia (((Yq (ds.take k)+x1.cons.length:Nat):Int)) ((((Yq (ds.take k):Nat):Int))+((x1.cons.length:Int))) (hb:=(by have h1:=hd.cons_at Z3;have h2:=(hd.take k).sum;omega)) (Z5 1 (.n 3 (.i ((Yq (ds.take k)+x1.cons.length:Nat):Int)) (.p (.p (.d (.d (.p (.d (.p (.d (.d .r)))))))))) (ie (az (ZM k (Z5 1 (.n 8 (.i (k+1:Nat)) (.p (.k (.k (.k .z))))) (ie ?_)))))))))))
  have hdr:=Yb Z3
  exact ZT ⟨k+1,ob,rfl,rfl,rfl⟩ (wk [] (fc (x:=.i ((Yq (ds.take k)+x1.cons.length:Nat):Int)) (li (by rw [WQ Z3,C4];simp [Yq])) (fw (ZW k fl))))
 refine ax 0 (ar (ir 2 [(2,.i ((Yq (ds.take k):Nat):Int))] (ie ?_)))
 exact Zc (r2 [] [.i ((Yq (ds.take k):Nat):Int)] ⟨rfl,rfl⟩ (li (by rw [Vb om])))
theorem Ln (ds:List Zf) (c:Int) (hd:Wd ds:=by exact ob) (hc:-9223372036854775808<=c/\c<=9223372036854775807:=by exact ob):Zj Tryz.prog 169 [Zd ds,.i c] [] (fun r h=>r=.tup [.i (Xj ds c),.agg [Z0 (Zw ds c)]]/\h=[]):=by
 have hdl:=hd.len
 refine ZL 38 Tryz.func169 (ar (ir 1 [(0,Zd ds),(1,.i c)] (iA [nl] ?_)))
 intro b1
 refine ie (aq (ar (Z1 1 8 (Zd ds) (iw (VL ds) (Z1 1 10 (.i 0) (ie (ab 0 (al (fun m F h=>∃(k:Nat) (cv:Int),(k<=ds.length)/\(Jz c (Yq (ds.take k)) cv)/\(Uj c (ds.drop k) k (Yq (ds.take k))=Uj c ds 0 0)/\F=[(1,.i cv),(5,.p b1 0),(8,Zd ds),(9,.i ds.length),(10,.i k)]/\h=[.obj b1 [nl]]/\m=ds.length-k) _ _ _ ⟨0,c,ob,(.inl (by simp [Yq])),rfl,rfl,rfl,rfl⟩ (wk [0] (fq (Yf fl))) ?_))))))))
 rintro m F h ⟨k,cv,Ym,Zo,Zz,rfl,rfl,rfl⟩
 refine ar (Z1 1 11 (.b (decide ((k:Int)<(ds.length:Int)))) (ie (aq (ZQ ((k:Int)<(ds.length:Int)) (fun Ze=>?_) (fun Ze=>?_)))))
 ·refine ak (aq (ab 1 (ar (Z1 1 12 (.i k) ?_))))
  obtain ⟨x1,Z3⟩:=Zt (xs:=ds) (j:=k) om
  refine Zp (Zn none (k:Int) 3 (Vg Z3)) (Z1 1 14 (Uh x1) (iA [.i 0,.i 0,nl] ?_))
  intro b2
  refine Z1 1 6 (.i k) (ZF 0 b2 (Wr x1) (ie (aq (ar (Xm [(1,.i cv),(5,.p b1 0),(6,.i k),(7,.p b2 0),(8,Zd ds),(9,.i ds.length),(10,.i k),(23,.b ((decide (cv>=0))&&(decide (cv<(x1.cons.length:Int)))))] [.obj b2 (Wr x1),.obj b1 [nl]] ?_ ?_)))))
  ·refine ir 3 [(1,.i cv),(5,.p b1 0),(6,.i k),(7,.p b2 0),(8,Zd ds),(9,.i ds.length),(10,.i k),(17,.b (decide (cv>=0)))] (ib (b:=(decide (cv>=0))) 17 (fun Zb=>?_) (fun Zb=>?_))
   ·have ZO:cv>=0:=(dq).1 Zb
    refine Y1 3 (.n 18 (.i cv) (.n 20 (W6 x1.cons) (.w (.w .z)))) [0] [b2] (iw (U7 x1.cons) (Z1 2 23 (.b (decide (cv<(x1.cons.length:Int)))) (ie ?_)))
    exact wk [0,0] (fq (fw (fr (Zr (decide (cv<(x1.cons.length:Int))) Zb fl))))
   have Y0:¬(cv>=0):=ZH dq Zb
   refine Z5 6 (.n 23 (.b false) (.d (.w (.k (.k (.k .z)))))) (ie ?_)
   exact wk [0,0] (fq (fw (fr (Zr false Zb fl))))
  refine ac ((decide (cv>=0))&&(decide (cv<(x1.cons.length:Int)))) (p:=(cv>=0)/\(cv<(x1.cons.length:Int))) (YE dq dq) (fun Zm=>?_) (fun Zm=>?_)
  ·refine aD 9 (Xd 8 9 [0] [(1,.i cv),(5,.p b1 0),(7,.p b2 0),(24,.i k)] (da 1 (((k+1:Nat):Int)) (((k:Int))+(1)) (Y5 4 7 [2,3,4] (.n 27 (W6 x1.cons) (.n 28 (.i cv) .r)) [0] [b2] ?_)))
   obtain ⟨x2,Zy⟩:=Zt (xs:=x1.cons) (j:=cv.toNat) om
   refine dx 5 (Zn none cv 1 (Bi Zy)) (ZZ 1 3 [6,7] (.n 4 (.i (k+1:Nat)) (.n 30 (As x2) .r)) (Z9 8 (YF 8 1 [] [] b1 (Gq x2) (de ?_))))
   have hz:=(hd.take k).sum
   have h3:=hd.cons_at Z3
   have hH:=Zz.symm.trans (Pd Z3 Zo om h3 hc.1 Zm Zy)
   exact Zc (r3 [] [.i (k+1:Nat),As x2] [0] [(b1,b1)] ⟨rfl,rfl⟩ (Zg.tup (.cons (li (by rw [Xj,hH];omega)) (.cons (Zg.agg (.cons (Zg.sl _ (Yv Z8 (by rw [Zw,hH]))) .nil)) .nil))))
  refine ak (az (iR 3 [(5,.p b1 0),(8,Zd ds),(9,.i ds.length),(10,.i k),(31,.i cv),(33,W6 x1.cons)] [0] [b2] (iw (U7 x1.cons) (iW ((cv)-((x1.cons.length:Int))) (Z1 1 1 (.i (Ai ((cv)-((x1.cons.length:Int))))) (ie (az (ZM k (Z5 1 (.n 10 (.i (k+1:Nat)) (.p (.k (.p (.p (.k (.k (.k .z)))))))) (ie ?_))))))))))
  have hdr:=Yb Z3
  exact ZT ⟨k+1,(Ai ((cv)-((x1.cons.length:Int)))),ob,(by have hz:=(hd.take k).sum;have h3:=hd.cons_at Z3;rw [WQ Z3,C4];simpa [Yq] using OI Zo om h3 hc),(Pb Z3 Zo Zm Zz),rfl,rfl,rfl⟩ (wk [1] (fq (ZW k fl)))
 refine ax 0 (ar (Yn 2 4 (.i (-1)) 37 (.agg [nl]) (ZF 0 b1 [nl] (ie ?_))))
 have hH:Uj c ds 0 0=(-1,[]):=by rw [<-Zz,Xz om];rfl
 exact Zc (r3 [] [.i (-1),.agg [nl]] [0] [(b1,b1)] ⟨rfl,rfl⟩ (Zg.tup (.cons (li (by rw [Xj,hH])) (.cons (Zg.agg (.cons (Zg.sl _ (by rw [Zw,hH];rfl)) .nil)) .nil))))
theorem Z0l (ds:List Zf) (c:Int) (hd:Wd ds:=by exact ob) (hc:-9223372036854775808<=c/\c<=9223372036854775807:=by exact ob):Zj Tryz.prog 168 [Zd ds,.i c] [] (fun r h=>r=Z0 (Zw ds c)/\h=[]):=by
 refine ZL 15 Tryz.func168 (ar (ir 1 [(0,Zd ds),(1,.i c)] (ie (ar (ir 2 [(8,Zd ds),(9,.i c)] (ZA [] (Ln ds c) (ir 3 [(11,.i (Xj ds c)),(12,.agg [Z0 (Zw ds c)])] (iA [nl] ?_))))))))
 intro b1
 refine Z5 1 .r (ZF 0 b1 [Z0 (Zw ds c)] (ie (ar (iR 3 [(4,Z0 (Zw ds c))] [0] [b1] (ie ?_)))))
 exact Zc (r1 [] ⟨rfl,rfl⟩)
theorem Z0i (ds:List Zf) (t:Int) (hd:Wd ds:=by exact ob):Zj Tryz.prog 167 [Zd ds,.i t] [] (fun r h=>r=Z0 (Zu ds t)/\h=[]):=by
 have hdl:=hd.len
 refine ZL 39 Tryz.func167 (ar (ir 1 [(0,Zd ds),(1,.i t)] (ie (aq (ar (Xm [(0,Zd ds),(1,.i t),(15,.b ((decide (t<1))||(decide (t>(ds.length:Int)))))] [] ?_ ?_))))))
 ·refine ir 3 [(0,Zd ds),(1,.i t),(10,.b (decide (t<1)))] (ib (b:=(decide (t<1))) 10 (fun Zb=>?_) (fun Zb=>?_))
  ·have ZO:t<1:=(dq).1 Zb
   refine Z5 5 (.n 15 (.b true) (.d (.k (.k .z)))) (ie ?_)
   exact wk [] (fw (Zr true Zb fl))
  have Y0:¬(t<1):=ZH dq Zb
  refine Z5 2 (.n 11 (.i t) (.n 12 (Zd ds) (.k (.k (.k .z))))) (iw (VL ds) (Z1 2 15 (.b (decide (t>(ds.length:Int)))) (ie ?_)))
  exact wk [] (fw (Zr (decide (t>(ds.length:Int))) Zb fl))
 refine ac ((decide (t<1))||(decide (t>(ds.length:Int)))) (p:=(t<1)∨(t>(ds.length:Int))) (Yc dq dq) (fun Ze=>?_) (fun Ze=>?_)
 ·refine ar (ir 1 [(4,nl)] (ie ?_))
  exact Zc (r2 [] [nl] ⟨rfl,rfl⟩ (Zg.sl _ (by rw [Zu,Za om];rfl)))
 have hti:1<=t/\t<=ds.length:=by omega
 obtain ⟨d,hd1⟩:=Zt (xs:=ds) (j:=(t-1).toNat) om
 have hdc:=hd.cons_at hd1
 have hsm:=(hd.take (t-1).toNat).sum
 refine ak (ar (ir 2 [(0,Zd ds),(1,.i t),(16,Zd ds),(17,.i t)] (ia ((((t-1).toNat:Nat):Int)) ((t)-(1)) (Zp (Kb (es:=YU ds) (hv:=none) (l:=0) (m:=(((t-1).toNat:Nat):Int)) (sz:=3) (es':=YU (ds.take ((t-1).toNat))) kr om (by simp<;>omega) (by simp<;>omega) (K0 _) (by first|(simp only [VJ,Vj,Bk,Bj];done)|(simp only [VJ,Vj,Bk,Bj];rfl)|(simp [Bk,Bj];done))) (ZA [] (Z0h (ds.take ((t-1).toNat)) (hd:=(hd.take _))) (Z1 1 5 (.i ((Yq (ds.take ((t-1).toNat)):Nat):Int)) (ie (ar (Z1 1 6 (nl) (ie (aq (ar (Yn 2 21 (Zd ds) 22 (.i t) (ia ((((t-1).toNat:Nat):Int)) ((t)-(1)) (Zp (Zn none (((t-1).toNat:Nat):Int) 3 (Vg hd1)) (Z1 2 26 (W6 d.cons) (iw (U7 d.cons) (Z1 1 28 (.i 0) (ie (ab 0 (D5 1 (al (fun m F h=>∃(k:Nat) (v:Value),(k<=d.cons.length)/\F=[(5,.i ((Yq (ds.take ((t-1).toNat)):Nat):Int)),(6,Z7 (Wt (Yq (ds.take (t-1).toNat)) k) v),(27,.i d.cons.length),(28,.i k)]/\h=[.tail v 1]/\m=d.cons.length-k) _ _ _ ⟨0,(.slice none 0 0),ob,rfl,rfl,rfl⟩ (wk [0] (fr (fc (x:=nl) (Zg.slh _ rfl) (fr (Yf fl))))) ?_))))))))))))))))))))))
 rintro m F h ⟨k,v,Ym,rfl,rfl,rfl⟩
 refine ar (Z1 1 29 (.b (decide ((k:Int)<(d.cons.length:Int)))) (ie (aq (ZQ ((k:Int)<(d.cons.length:Int)) (fun Zm=>?_) (fun Zm=>?_)))))
 ·refine ak (aq (ab 1 (ar (Z1 2 7 (.i k) (ie (az (Z5 3 (.n 31 (Z7 (Wt (Yq (ds.take (t-1).toNat)) k) v) (.n 32 (.i ((Yq (ds.take ((t-1).toNat)):Nat):Int)) (.n 33 (.i k) .r))) (ia ((((Yq (ds.take ((t-1).toNat)))+k:Nat):Int)) ((((Yq (ds.take ((t-1).toNat)):Nat):Int))+((k:Int))) (iL (Z8 [(((Yq (ds.take ((t-1).toNat)))+k:Nat):Int)]) 1 1 ?_)))))))))
  intro v1
  refine Z5 0 (.n 35 (Z0 [(((Yq (ds.take ((t-1).toNat)))+k:Nat):Int)]) (.p .r)) (ip 1 (Z8 (Wt (Yq (ds.take (t-1).toNat)) k++[(((Yq (ds.take ((t-1).toNat)))+k:Nat):Int)])) (Z8 (Wt (Yq (ds.take (t-1).toNat)) k)) (Z8 [(((Yq (ds.take ((t-1).toNat)))+k:Nat):Int)]) v none 1 (YD _) (YD _) (XZ _) (by simp;omega) (by simp [XY,Z8]) ?_)
  intro v2
  refine Z5 1 (.n 6 (Z7 (Wt (Yq (ds.take (t-1).toNat)) k++[(((Yq (ds.take ((t-1).toNat)))+k:Nat):Int)]) v2) (.p (.d (.p (.d (.d (.d (.d (.d (.k (.d .r))))))))))) (ie (az (ZM k (Z5 1 (.n 28 (.i (k+1:Nat)) (.p (.k (.k (.k .z))))) (ie ?_)))))
  exact ZT ⟨k+1,v2,ob,rfl,rfl,rfl⟩ (wk [0] (fr (fc (x:=Z7 (Wt (Yq (ds.take (t-1).toNat)) k++[(((Yq (ds.take ((t-1).toNat)))+k:Nat):Int)]) v2) (Zg.slh _ (Yv Z8 (M7 _ _).symm)) (fr (ZW k fl)))))
 refine ax 0 (ar (ir 2 [(4,Z7 (Wt (Yq (ds.take (t-1).toNat)) k) v)] (ie ?_)))
 exact Zc (r2 [] [Z7 (Wt (Yq (ds.take (t-1).toNat)) k) v] ⟨rfl,rfl⟩ (Zg.sl _ (Yv Z8 (by rw [Zu,Zk hti,hd1,show k=d.cons.length by omega];rfl))))
theorem DR (ds:List Zf) (t:Int) (hd:Wd ds:=by exact ob):Zj Tryz.prog 129 [Zd ds,.i t] [] (fun r h=>r=.tup [Uh (Wq ds t),.b (X0 ds t)]/\h=[]):=by
 have hdl:=hd.len
 refine ZL 30 Tryz.func129 (ar (iA [.i 0,.i 0,nl] ?_))
 intro b1
 refine ir 1 [(0,Zd ds),(1,.i t),(4,.p b1 0)] (ie (aq (ar (XS 8 [(0,Zd ds),(1,.i t),(4,.p b1 0),(13,.b ((decide (t<1))||(decide (t>(ds.length:Int)))))] [.obj b1 [.i 0,.i 0,nl]] ?_ (fun hj1=>?_)))))
 ·refine ir 1 [(0,Zd ds),(1,.i t),(4,.p b1 0),(14,.b ((decide (t<1))||(decide (t>(ds.length:Int)))))] (ib (b:=((decide (t<1))||(decide (t>(ds.length:Int))))) 14 (fun Zb=>?_) (fun Zb=>?_))
  ·have ZO:(t<1)∨(t>(ds.length:Int)):=((Yc dq dq)).1 Zb
   refine Z5 9 (.n 23 (.b true) (.d (.k (.k (.k .z))))) (ie (WU (ar (Z1 1 24 (.agg [.i 0,.i 0,nl]) (ZF 0 b1 [.i 0,.i 0,nl] (Z1 1 5 (.b false) (ie ?_)))))))
   have hA:X0 ds t=false:=(Ge om).symm
   have hD:Wq ds t=⟨0,0,[]⟩:=by rw [Wq,hA];rfl
   exact Zc (r3 [] [.agg [.i 0,.i 0,nl],.b false] [0] [(b1,b1)] ⟨rfl,rfl⟩ (Zg.tup (.cons (Zg.agg (.cons (li (by rw [hD])) (.cons (li (by rw [hD])) (.cons (Zg.sl _ (by rw [hD];rfl)) .nil)))) (.cons (lb (by rw [hA])) .nil))))
  have Y0:¬((t<1)∨(t>(ds.length:Int))):=ZH (Yc dq dq) Zb
  refine Z5 2 (.n 15 (Zd ds) (.n 16 (.i t) (.w .z))) (ia ((t-1)) ((t)-(1)) ?_)
  obtain ⟨x1,Z3⟩:=Zt (xs:=ds) (j:=(t-1).toNat) om
  refine Zp (Zn none (t-1) 3 (Vg Z3)) (Z1 2 20 (W6 x1.cons) (iw (U7 x1.cons) (Z1 2 23 (.b (decide ((x1.cons.length:Int)>0))) (ie (ZQ ((x1.cons.length:Int)>0) (fun Ze=>?_) (fun Ze=>?_))))))
  ·refine ar (Z1 1 24 (.agg [.i 0,.i 0,nl]) (ZF 0 b1 [.i 0,.i 0,nl] (Z1 1 5 (.b false) (ie ?_))))
   have hA:X0 ds t=false:=(DV om Z3).symm.trans (beq_eq_false_iff_ne.2 om)
   have hD:Wq ds t=⟨0,0,[]⟩:=by rw [Wq,hA];rfl
   exact Zc (r3 [] [.agg [.i 0,.i 0,nl],.b false] [0] [(b1,b1)] ⟨rfl,rfl⟩ (Zg.tup (.cons (Zg.agg (.cons (li (by rw [hD])) (.cons (li (by rw [hD])) (.cons (Zg.sl _ (by rw [hD];rfl)) .nil)))) (.cons (lb (by rw [hA])) .nil))))
  refine ak (ar (Yn 2 25 (Zd ds) 26 (.i t) (ia ((t-1)) ((t)-(1)) (Zp (Zn none (t-1) 3 (Vg Z3)) (Z1 1 29 (Uh x1) (ZF 0 b1 (Wr x1) (Z1 1 5 (.b true) (ie ?_))))))))
  have hA:X0 ds t=true:=(DV om Z3).symm.trans (Zh.2 om)
  have hD:Wq ds t=x1:=by rw [Wq,hA,Z3];rfl
  exact Zc (r3 [] [Uh x1,.b true] [0] [(b1,b1)] ⟨rfl,rfl⟩ (Zg.tup (.cons (Zg.agg (.cons (li (by rw [hD])) (.cons (li (by rw [hD])) (.cons (Zg.sl _ (Yv Ww (by rw [hD]))) .nil)))) (.cons (lb (by rw [hA])) .nil))))
 refine ir 3 [(0,Zd ds),(1,.i t),(4,.p b1 0),(8,.b (decide (t<1)))] (ib (b:=(decide (t<1))) 8 (fun Zv=>?_) (fun Zv=>?_))
 ·have Yz:t<1:=(dq).1 Zv
  refine Z5 5 (.n 13 (.b true) (.d (.k (.k (.k .z))))) ?_
  exact YG (wk [0] (fw (fr (Zr true Zv fl)))) hj1
 have YM:¬(t<1):=ZH dq Zv
 refine Z5 2 (.n 9 (.i t) (.n 10 (Zd ds) (.w .z))) (iw (VL ds) (Z1 2 13 (.b (decide (t>(ds.length:Int)))) ?_))
 exact YG (wk [0] (fw (fr (Zr (decide (t>(ds.length:Int))) Zv fl)))) hj1
theorem Z0d (ds:List Zf) (frm:Int) (to_:Int) (hl_ds:ds.length<=4294967296:=by exact ob):Zj Tryz.prog 171 [Zd ds,.i frm,.i to_] [] (fun r h=>r=.i (WM ds frm to_)/\h=[]):=by
 refine ZL 35 Tryz.func171 (ar (ir 1 [(0,Zd ds),(1,.i frm),(2,.i to_)] (ie (aq (ar (Z1 1 9 (Zd ds) (iw (VL ds) (Z1 1 11 (.i 0) (ie (ab 0 (al (fun m F h=>∃(k:Nat),(k<=ds.length)/\(Tk frm to_ (ds.drop k) k=WM ds frm to_)/\F=[(1,.i frm),(2,.i to_),(9,Zd ds),(10,.i ds.length),(11,.i k)]/\h=[]/\m=ds.length-k) _ _ _ ⟨0,ob,rfl,rfl,rfl,rfl⟩ (wk [] (fq (Yf fl))) ?_)))))))))))
 rintro m F h ⟨k,Ym,Zo,rfl,rfl,rfl⟩
 refine ar (Z1 1 12 (.b (decide ((k:Int)<(ds.length:Int)))) (ie (aq (ZQ ((k:Int)<(ds.length:Int)) (fun Ze=>?_) (fun Ze=>?_)))))
 ·refine ak (aq (ab 1 (ar (Z1 1 13 (.i k) ?_))))
  obtain ⟨x1,Z3⟩:=Zt (xs:=ds) (j:=k) om
  refine Zp (Zn none (k:Int) 3 (Vg Z3)) (Z1 1 15 (Uh x1) (iA [.i 0,.i 0,nl] ?_))
  intro b1
  refine Z1 1 7 (.i k) (ZF 0 b1 (Wr x1) (ie (ar (Yl 2 17 (W6 x1.cons) [0] [b1] (iw (U7 x1.cons) (XS 10 [(1,.i frm),(2,.i to_),(7,.i k),(8,.p b1 0),(9,Zd ds),(10,.i ds.length),(11,.i k),(25,.b (((x1.cons.length:Int)==0)&&(x1.frm==frm)))] [.obj b1 (Wr x1)] ?_ (fun hj1=>?_)))))))
  ·refine Xm [(1,.i frm),(2,.i to_),(7,.i k),(9,Zd ds),(10,.i ds.length),(11,.i k),(31,.b ((((x1.cons.length:Int)==0)&&(x1.frm==frm))&&(x1.to_==to_)))] [.obj b1 (Wr x1)] ?_ ?_
   ·refine ir 1 [(1,.i frm),(2,.i to_),(7,.i k),(8,.p b1 0),(9,Zd ds),(10,.i ds.length),(11,.i k),(26,.b (((x1.cons.length:Int)==0)&&(x1.frm==frm)))] (ib (b:=(((x1.cons.length:Int)==0)&&(x1.frm==frm))) 26 (fun Zb=>?_) (fun Zb=>?_))
    ·have ZO:((x1.cons.length:Int)=0)/\(x1.frm=frm):=((YE Zh Zh)).1 Zb
     refine Y1 5 (.n 31 (.b (x1.to_==to_)) (.d (.k (.k (.k (.d (.k (.k (.k .z))))))))) [0] [b1] (ie ?_)
     exact wk [0] (fq (fw (Zr (x1.to_==to_) Zb fl)))
    have Y0:¬(((x1.cons.length:Int)=0)/\(x1.frm=frm)):=ZH (YE Zh Zh) Zb
    refine Z5 5 (.n 31 (.b false) (.d (.k (.k (.k (.d (.k (.k (.k .z))))))))) (ie ?_)
    exact wk [0] (fq (fw (Zr false Zb fl)))
   refine ac ((((x1.cons.length:Int)==0)&&(x1.frm==frm))&&(x1.to_==to_)) (p:=(((x1.cons.length:Int)=0)/\(x1.frm=frm))/\(x1.to_=to_)) (YE (YE Zh Zh) Zh) (fun Zm=>?_) (fun Zm=>?_)
   ·refine ar (ir 1 [(32,.i k)] (ZM k (ir 1 [(6,.i (k+1:Nat))] (ie ?_))))
    rw [Yb Z3] at Zo
    exact Zc (r2 [] [.i (k+1:Nat)] ⟨rfl,rfl⟩ (li (by clear Z3;first|rfl|omega|grind [Tk])))
   refine ak (az (ZM k (ir 1 [(1,.i frm),(2,.i to_),(9,Zd ds),(10,.i ds.length),(11,.i (k+1:Nat))] (ie ?_))))
   have hdr:=Yb Z3
   exact ZT ⟨k+1,ob,(by rw [hdr] at Zo;clear hdr Z3;grind [Tk]),rfl,rfl,rfl⟩ (wk [] (fq (ZW k fl)))
  refine ir 2 [(1,.i frm),(2,.i to_),(7,.i k),(8,.p b1 0),(9,Zd ds),(10,.i ds.length),(11,.i k),(20,.b ((x1.cons.length:Int)==0))] (ib (b:=((x1.cons.length:Int)==0)) 20 (fun Zv=>?_) (fun Zv=>?_))
  ·have Yz:(x1.cons.length:Int)=0:=(Zh).1 Zv
   refine Y1 5 (.n 25 (.b (x1.frm==frm)) (.d (.w (.k (.k (.k .z)))))) [0] [b1] ?_
   exact YG (wk [0] (fq (fw (fr (Zr (x1.frm==frm) Zv fl))))) hj1
  have YM:¬((x1.cons.length:Int)=0):=ZH Zh Zv
  refine Z5 5 (.n 25 (.b false) (.d (.w (.k (.k (.k .z)))))) ?_
  exact YG (wk [0] (fq (fw (fr (Zr false Zv fl))))) hj1
 refine ax 0 (ar (ir 1 [(6,.i (-1))] (ie ?_)))
 try rw [Xz (xs:=ds) (k:=k) om] at Zo
 exact Zc (r2 [] [.i (-1)] ⟨rfl,rfl⟩ (li (by first|rfl|omega|grind [Tk])))
theorem Z0c (ds:List Zf) (hz:Qr ds:=by exact ob):Zj Tryz.prog 128 [Zd ds] [] (fun r h=>r=.b (Wc ds)/\h=[]):=by
 have hzl:=hz.len
 refine ZL 106 Tryz.func128 (ar (ir 1 [(0,Zd ds)] (ie (aq (ar (Z1 1 9 (Zd ds) (iw (VL ds) (Z1 1 11 (.b (decide ((ds.length:Int)>4))) (ie (ZQ ((ds.length:Int)>4) (fun Ze=>?_) (fun Ze=>?_)))))))))))
 ·refine ar (ir 1 [(2,.b false)] (ie ?_))
  exact Zc (r2 [] [.b false] ⟨rfl,rfl⟩ (lb (by rw [Wc,decide_eq_false om];rfl)))
 refine ak (aq (ar (Z1 1 12 (Zd ds) (iw (VL ds) (Z1 1 14 (.i 0) (ie (ab 0 (al (fun m F h=>∃(k:Nat),(k<=ds.length)/\(Uk ds (ds.drop k) k=Uk ds ds 0)/\F=[(0,Zd ds),(12,Zd ds),(13,.i ds.length),(14,.i k)]/\h=[]/\m=ds.length-k) _ _ _ ⟨0,ob,rfl,rfl,rfl,rfl⟩ (wk [] (fw (fr (Yf fl)))) ?_))))))))
 rintro m F h ⟨k,Ym,Zo,rfl,rfl,rfl⟩
 refine ar (Z1 1 15 (.b (decide ((k:Int)<(ds.length:Int)))) (ie (aq (ZQ ((k:Int)<(ds.length:Int)) (fun Zm=>?_) (fun Zm=>?_)))))
 ·refine ak (aq (ab 1 (ar (Z1 1 16 (.i k) ?_))))
  obtain ⟨x1,Z3⟩:=Zt (xs:=ds) (j:=k) om
  have hz1:=hz.cons_at Z3
  refine Zp (Zn none (k:Int) 3 (Vg Z3)) (Z1 1 18 (Uh x1) (iA [.i 0,.i 0,nl] ?_))
  intro b1
  refine Z1 1 3 (.i k) (ZF 0 b1 (Wr x1) (ie (aq (ar (ZY 3 19 (Zd ds) 21 (.i x1.frm) [0] [b1] (ZA [] (DS ds x1.frm) (XS 12 [(0,Zd ds),(3,.i k),(4,.p b1 0),(12,Zd ds),(13,.i ds.length),(14,.i k),(30,.b ((!(decide (0<=x1.frm/\x1.frm<=ds.length)))||(!(decide (0<=x1.to_/\x1.to_<=ds.length)))))] [.obj b1 (Wr x1)] ?_ (fun hj1=>?_))))))))
  ·refine XS 18 [(0,Zd ds),(3,.i k),(4,.p b1 0),(12,Zd ds),(13,.i ds.length),(14,.i k),(36,.b (((!(decide (0<=x1.frm/\x1.frm<=ds.length)))||(!(decide (0<=x1.to_/\x1.to_<=ds.length))))||(decide ((x1.cons.length:Int)>3))))] [.obj b1 (Wr x1)] ?_ (fun hj2=>?_)
   ·refine Xm [(0,Zd ds),(3,.i k),(4,.p b1 0),(12,Zd ds),(13,.i ds.length),(14,.i k),(52,.b ((((!(decide (0<=x1.frm/\x1.frm<=ds.length)))||(!(decide (0<=x1.to_/\x1.to_<=ds.length))))||(decide ((x1.cons.length:Int)>3)))||((decide ((x1.cons.length:Int)>0))&&((x1.frm != 0)||(x1.to_ != 0)))))] [.obj b1 (Wr x1)] ?_ ?_
    ·refine ir 1 [(0,Zd ds),(3,.i k),(4,.p b1 0),(12,Zd ds),(13,.i ds.length),(14,.i k),(37,.b (((!(decide (0<=x1.frm/\x1.frm<=ds.length)))||(!(decide (0<=x1.to_/\x1.to_<=ds.length))))||(decide ((x1.cons.length:Int)>3))))] (ib (b:=(((!(decide (0<=x1.frm/\x1.frm<=ds.length)))||(!(decide (0<=x1.to_/\x1.to_<=ds.length))))||(decide ((x1.cons.length:Int)>3)))) 37 (fun Zb=>?_) (fun Zb=>?_))
     ·have ZO:((¬(0<=x1.frm/\x1.frm<=ds.length))∨(¬(0<=x1.to_/\x1.to_<=ds.length)))∨((x1.cons.length:Int)>3):=((Yc (Yc (Yo dq) (Yo dq)) dq)).1 Zb
      refine Z5 15 (.n 52 (.b true) (.d (.w (.k (.k .z))))) (ie ?_)
      exact wk [0] (fq (fw (Zr true Zb fl)))
     have Y0:¬(((¬(0<=x1.frm/\x1.frm<=ds.length))∨(¬(0<=x1.to_/\x1.to_<=ds.length)))∨((x1.cons.length:Int)>3)):=ZH (Yc (Yc (Yo dq) (Yo dq)) dq) Zb
     refine Y1 2 (.n 39 (W6 x1.cons) (.w (.k (.k (.k .z))))) [0] [b1] (iw (U7 x1.cons) (Z1 2 42 (.b (decide ((x1.cons.length:Int)>0))) (ib (b:=(decide ((x1.cons.length:Int)>0))) 42 (fun Zv=>?_) (fun Zv=>?_))))
     ·have Yz:(x1.cons.length:Int)>0:=(dq).1 Zv
      refine Y1 4 (.n 46 (.b (x1.frm != 0)) (.k (.d .r))) [0] [b1] (ib (b:=(x1.frm != 0)) 46 (fun YC=>?_) (fun YC=>?_))
      ·have YM:x1.frm≠0:=(Yg).1 YC
       refine Z5 6 (.n 52 (.b true) (.k (.d .r))) (ie ?_)
       exact wk [0] (fq (fw (Zr true (And.intro Zb (And.intro Zv YC)) fl)))
      have YX:¬(x1.frm≠0):=ZH Yg YC
      refine Y1 6 (.n 52 (.b (x1.to_ != 0)) (.k (.d .r))) [0] [b1] (ie ?_)
      exact wk [0] (fq (fw (Zr (x1.to_ != 0) (And.intro Zb (And.intro Zv YC)) fl)))
     have Xw:¬((x1.cons.length:Int)>0):=ZH dq Zv
     refine Z5 10 (.n 52 (.b false) (.k (.d .r))) (ie ?_)
     exact wk [0] (fq (fw (Zr false (And.intro Zb Zv) fl)))
    refine ac ((((!(decide (0<=x1.frm/\x1.frm<=ds.length)))||(!(decide (0<=x1.to_/\x1.to_<=ds.length))))||(decide ((x1.cons.length:Int)>3)))||((decide ((x1.cons.length:Int)>0))&&((x1.frm != 0)||(x1.to_ != 0)))) (p:=(((¬(0<=x1.frm/\x1.frm<=ds.length))∨(¬(0<=x1.to_/\x1.to_<=ds.length)))∨((x1.cons.length:Int)>3))∨(((x1.cons.length:Int)>0)/\((x1.frm≠0)∨(x1.to_≠0)))) (Yc (Yc (Yc (Yo dq) (Yo dq)) dq) (YE dq (Yc Yg Yg))) (fun ZI=>?_) (fun ZI=>?_)
    ·refine ar (ir 1 [(2,.b false)] (ie ?_))
     exact Zc (r2 [] [.b false] ⟨rfl,rfl⟩ (lb (Hu Z3 (PJ ZI) Zo)))
    refine ak (aq (ar (iR 2 [(0,Zd ds),(3,.i k),(4,.p b1 0),(12,Zd ds),(13,.i ds.length),(14,.i k),(54,W6 x1.cons)] [0] [b1] (iw (U7 x1.cons) (Z1 1 56 (.i 0) (ie (ab 2 (al (fun m F h=>∃(q:Nat),(q<=x1.cons.length)/\(UP ds.length (x1.cons.drop q)=UP ds.length x1.cons)/\F=[(0,Zd ds),(3,.i k),(4,.p b1 0),(12,Zd ds),(13,.i ds.length),(14,.i k),(54,W6 x1.cons),(55,.i x1.cons.length),(56,.i q)]/\h=[.obj b1 (Wr x1)]/\m=x1.cons.length-q) _ _ _ ⟨0,ob,rfl,rfl,rfl,rfl⟩ (wk [0] (fq (fq (Yf fl)))) ?_))))))))
    rintro m F h ⟨q,Ui,Wg,rfl,rfl,rfl⟩
    refine ar (Z1 1 57 (.b (decide ((q:Int)<(x1.cons.length:Int)))) (ie (aq (ZQ ((q:Int)<(x1.cons.length:Int)) (fun Yh=>?_) (fun Yh=>?_)))))
    ·refine ak (aq (ab 3 (ar ?_)))
     obtain ⟨x2,Zy⟩:=Zt (xs:=x1.cons) (j:=q) om
     refine Zp (Zn none (q:Int) 1 (Bi Zy)) (Z1 1 59 (As x2) (iA [nl] ?_))
     intro b2
     refine ZF 0 b2 (Gq x2) (ie (ar (Yl 2 61 (Z0 x2.fields) [0] [b2] (iw (Yd x2.fields) (Xm [(0,Zd ds),(3,.i k),(4,.p b1 0),(12,Zd ds),(13,.i ds.length),(14,.i k),(54,W6 x1.cons),(55,.i x1.cons.length),(56,.i q),(70,.b ((decide ((x2.fields.length:Int)>3))||(!YZ ds.length x2.fields)))] [.obj b2 (Gq x2),.obj b1 (Wr x1)] ?_ ?_)))))
     ·refine ir 2 [(0,Zd ds),(3,.i k),(4,.p b1 0),(6,.p b2 0),(12,Zd ds),(13,.i ds.length),(14,.i k),(54,W6 x1.cons),(55,.i x1.cons.length),(56,.i q),(64,.b (decide ((x2.fields.length:Int)>3)))] (ib (b:=(decide ((x2.fields.length:Int)>3))) 64 (fun Xh=>?_) (fun Xh=>?_))
      ·have Wh:(x2.fields.length:Int)>3:=(dq).1 Xh
       refine Z5 6 (.n 70 (.b true) (.d (.k (.k (.k (.d (.w (.k (.k .z))))))))) (ie ?_)
       exact wk [0,0] (fq (fq (fr (Zr true Xh fl))))
      have WC:¬((x2.fields.length:Int)>3):=ZH dq Xh
      refine Y1 3 (.n 65 (Zd ds) (.n 67 (Z0 x2.fields) (.w (.d (.w (.k (.k .z))))))) [0] [b2] (ZA [] (Gd ds x2.fields) (Z1 2 70 (.b (!YZ ds.length x2.fields)) (ie ?_)))
      exact wk [0,0] (fq (fq (fr (Zr (!YZ ds.length x2.fields) Xh fl))))
     refine ac ((decide ((x2.fields.length:Int)>3))||(!YZ ds.length x2.fields)) (p:=((x2.fields.length:Int)>3)∨(¬(YZ ds.length x2.fields=true))) (Yc dq (Yo Iff.rfl)) (fun Xk=>?_) (fun Xk=>?_)
     ·refine ar (ir 1 [(2,.b false)] (ie ?_))
      exact Zc (r2 [] [.b false] ⟨rfl,rfl⟩ (lb (Hu Z3 (PK om (by rw [<-Wg,Yb Zy,UP,Za (by rw [Pe Xk];simp)])) Zo)))
     refine ak (az (ZM q (ir 1 [(0,Zd ds),(3,.i k),(4,.p b1 0),(12,Zd ds),(13,.i ds.length),(14,.i k),(54,W6 x1.cons),(55,.i x1.cons.length),(56,.i (q+1:Nat))] (ie ?_))))
     have hdr:=Yb Zy
     exact ZT ⟨q+1,ob,(by rw [Yb Zy,UP,Zk (Pf Xk)] at Wg;exact Wg),rfl,rfl,rfl⟩ (wk [1] (fq (fq (ZW q fl))))
    have hC:UP ds.length x1.cons=true:=by rw [<-Wg,Xz om];rfl
    refine ax 2 (ar (Yn 2 72 (Zd ds) 73 (.i k) (Zp (Kb (es:=YU ds) (hv:=none) (l:=0) (m:=(k:Int)) (sz:=3) (es':=YU (ds.take k)) kr om (by simp<;>omega) (by simp<;>omega) (K0 _) (by first|(simp only [VJ,Vj,Bk,Bj];done)|(simp only [VJ,Vj,Bk,Bj];rfl)|(simp [Bk,Bj];done))) (io (.i (((ds.take k).length:Nat):Int)) (.i (((YU (ds.take k)).length:Nat):Int)) (li (by rw [VL])) (Z1 1 76 (.i 0) (ie (ab 4 (al (fun m F h=>∃(j:Nat),(j<=k)/\(x1.cons.length=0->TQ x1 ((ds.take k).drop j)=TQ x1 (ds.take k))/\F=[(0,Zd ds),(4,.p b1 0),(12,Zd ds),(13,.i ds.length),(14,.i k),(74,Zd (ds.take k)),(75,.i (((ds.take k).length:Nat):Int)),(76,.i j)]/\h=[.obj b1 (Wr x1)]/\m=k-j) _ _ _ ⟨0,ob,ob,rfl,rfl,rfl⟩ (wk [0] (fq (fw (fr (Yf fl))))) ?_))))))))
    rintro m F h ⟨j,I8,Dd,rfl,rfl,rfl⟩
    refine ar (Z1 1 77 (.b (decide ((j:Int)<(((ds.take k).length:Nat):Int)))) (ie (aq (ZQ ((j:Int)<(((ds.take k).length:Nat):Int)) (fun Xl=>?_) (fun Xl=>?_)))))
    ·have htl:(ds.take k).length<=k:=by rw [Wv];omega
     refine ak (aq (ab 5 (ar ?_)))
     obtain ⟨x3,YS⟩:=Zt (xs:=(ds.take k)) (j:=j) om
     refine Zp (Zn none (j:Int) 3 (Vg YS)) (Z1 1 79 (Uh x3) (iA [.i 0,.i 0,nl] ?_))
     intro b3
     refine ZF 0 b3 (Wr x3) (ie (ar (Yl 2 81 (W6 x1.cons) [1] [b1] (iw (U7 x1.cons) (XS 10 [(0,Zd ds),(4,.p b1 0),(8,.p b3 0),(12,Zd ds),(13,.i ds.length),(14,.i k),(74,Zd (ds.take k)),(75,.i (((ds.take k).length:Nat):Int)),(76,.i j),(89,.b (((x1.cons.length:Int)==0)&&((x3.cons.length:Int)==0)))] [.obj b3 (Wr x3),.obj b1 (Wr x1)] ?_ (fun hj3=>?_))))))
     ·refine XS 17 [(0,Zd ds),(4,.p b1 0),(8,.p b3 0),(12,Zd ds),(13,.i ds.length),(14,.i k),(74,Zd (ds.take k)),(75,.i (((ds.take k).length:Nat):Int)),(76,.i j),(96,.b ((((x1.cons.length:Int)==0)&&((x3.cons.length:Int)==0))&&(x3.frm==x1.frm)))] [.obj b3 (Wr x3),.obj b1 (Wr x1)] ?_ (fun hj4=>?_)
      ·refine Xm [(0,Zd ds),(4,.p b1 0),(12,Zd ds),(13,.i ds.length),(14,.i k),(74,Zd (ds.take k)),(75,.i (((ds.take k).length:Nat):Int)),(76,.i j),(103,.b (((((x1.cons.length:Int)==0)&&((x3.cons.length:Int)==0))&&(x3.frm==x1.frm))&&(x3.to_==x1.to_)))] [.obj b3 (Wr x3),.obj b1 (Wr x1)] ?_ ?_
       ·refine ir 1 [(0,Zd ds),(4,.p b1 0),(8,.p b3 0),(12,Zd ds),(13,.i ds.length),(14,.i k),(74,Zd (ds.take k)),(75,.i (((ds.take k).length:Nat):Int)),(76,.i j),(97,.b ((((x1.cons.length:Int)==0)&&((x3.cons.length:Int)==0))&&(x3.frm==x1.frm)))] (ib (b:=((((x1.cons.length:Int)==0)&&((x3.cons.length:Int)==0))&&(x3.frm==x1.frm))) 97 (fun W9=>?_) (fun W9=>?_))
        ·have WP:(((x1.cons.length:Int)=0)/\((x3.cons.length:Int)=0))/\(x3.frm=x1.frm):=((YE (YE Zh Zh) Zh)).1 W9
         refine Y1 6 (.n 103 (.b (x3.to_==x1.to_)) (.d (.k (.k (.d (.w (.k (.k .z)))))))) [0,1] [b3,b1] (ie ?_)
         exact wk [0,0] (fq (fq (Zr (x3.to_==x1.to_) W9 fl)))
        have U9:¬((((x1.cons.length:Int)=0)/\((x3.cons.length:Int)=0))/\(x3.frm=x1.frm)):=ZH (YE (YE Zh Zh) Zh) W9
        refine Z5 6 (.n 103 (.b false) (.d (.k (.k (.d (.w (.k (.k .z)))))))) (ie ?_)
        exact wk [0,0] (fq (fq (Zr false W9 fl)))
       refine ac (((((x1.cons.length:Int)==0)&&((x3.cons.length:Int)==0))&&(x3.frm==x1.frm))&&(x3.to_==x1.to_)) (p:=((((x1.cons.length:Int)=0)/\((x3.cons.length:Int)=0))/\(x3.frm=x1.frm))/\(x3.to_=x1.to_)) (YE (YE (YE Zh Zh) Zh) Zh) (fun Vs=>?_) (fun Vs=>?_)
       ·refine ar (ir 1 [(2,.b false)] (ie ?_))
        exact Zc (r2 [] [.b false] ⟨rfl,rfl⟩ (lb (Hu Z3 (PL om (by rw [<-Dd om,Yb YS,TQ,Zk om])) Zo)))
       refine ak (az (ZM j (ir 1 [(0,Zd ds),(4,.p b1 0),(12,Zd ds),(13,.i ds.length),(14,.i k),(74,Zd (ds.take k)),(75,.i (((ds.take k).length:Nat):Int)),(76,.i (j+1:Nat))] (ie ?_))))
       exact ZT ⟨j+1,ob,(fun q=>by have hq:=Dd q;rw [Yb YS,TQ,Za om] at hq;exact hq),rfl,rfl,rfl⟩ (wk [1] (fq (fw (fr (ZW j fl)))))
      refine ir 1 [(0,Zd ds),(4,.p b1 0),(8,.p b3 0),(12,Zd ds),(13,.i ds.length),(14,.i k),(74,Zd (ds.take k)),(75,.i (((ds.take k).length:Nat):Int)),(76,.i j),(90,.b (((x1.cons.length:Int)==0)&&((x3.cons.length:Int)==0)))] (ib (b:=(((x1.cons.length:Int)==0)&&((x3.cons.length:Int)==0))) 90 (fun WB=>?_) (fun WB=>?_))
      ·have UD:((x1.cons.length:Int)=0)/\((x3.cons.length:Int)=0):=((YE Zh Zh)).1 WB
       refine Y1 6 (.n 96 (.b (x3.frm==x1.frm)) (.d (.w (.w (.k .z))))) [0,1] [b3,b1] ?_
       exact YG (wk [0,0] (fq (fq (fr (Zr (x3.frm==x1.frm) WB fl))))) hj4
      have Ur:¬(((x1.cons.length:Int)=0)/\((x3.cons.length:Int)=0)):=ZH (YE Zh Zh) WB
      refine Z5 6 (.n 96 (.b false) (.d (.w (.w (.k .z))))) ?_
      exact YG (wk [0,0] (fq (fq (fr (Zr false WB fl))))) hj4
     refine ir 2 [(0,Zd ds),(4,.p b1 0),(8,.p b3 0),(12,Zd ds),(13,.i ds.length),(14,.i k),(74,Zd (ds.take k)),(75,.i (((ds.take k).length:Nat):Int)),(76,.i j),(84,.b ((x1.cons.length:Int)==0))] (ib (b:=((x1.cons.length:Int)==0)) 84 (fun WV=>?_) (fun WV=>?_))
     ·have Tq:(x1.cons.length:Int)=0:=(Zh).1 WV
      refine Y1 2 (.n 86 (W6 x3.cons) (.w (.w (.k (.k .z))))) [0] [b3] (iw (U7 x3.cons) (Z1 2 89 (.b ((x3.cons.length:Int)==0)) ?_))
      exact YG (wk [0,0] (fq (fq (fr (Zr ((x3.cons.length:Int)==0) WV fl))))) hj3
     have T7:¬((x1.cons.length:Int)=0):=ZH Zh WV
     refine Z5 5 (.n 89 (.b false) (.d (.w (.w (.k .z))))) ?_
     exact YG (wk [0,0] (fq (fq (fr (Zr false WV fl))))) hj3
    have htl:(ds.take k).length=k:=by rw [Wv];omega
    have hD:x1.cons.length=0->TQ x1 (ds.take k)=false:=fun q=>by rw [<-Dd q,Xz om];rfl
    refine ax 4 (az (ZM k (Z5 1 (.n 14 (.i (k+1:Nat)) (.p (.d (.k (.d (.k (.k .z))))))) (ie ?_))))
    have hdr:=Yb Z3
    exact ZT ⟨k+1,ob,(Z78 Z3 (PM ZI hC hD) Zo),rfl,rfl,rfl⟩ (wk [] (fw (fr (ZW k fl))))
   refine ir 1 [(0,Zd ds),(3,.i k),(4,.p b1 0),(12,Zd ds),(13,.i ds.length),(14,.i k),(31,.b ((!(decide (0<=x1.frm/\x1.frm<=ds.length)))||(!(decide (0<=x1.to_/\x1.to_<=ds.length)))))] (ib (b:=((!(decide (0<=x1.frm/\x1.frm<=ds.length)))||(!(decide (0<=x1.to_/\x1.to_<=ds.length))))) 31 (fun WI=>?_) (fun WI=>?_))
   ·have QC:(¬(0<=x1.frm/\x1.frm<=ds.length))∨(¬(0<=x1.to_/\x1.to_<=ds.length)):=((Yc (Yo dq) (Yo dq))).1 WI
    refine Z5 5 (.n 36 (.b true) (.d (.w (.k (.k .z))))) ?_
    exact YG (wk [0] (fq (fw (Zr true WI fl)))) hj2
   have QD:¬((¬(0<=x1.frm/\x1.frm<=ds.length))∨(¬(0<=x1.to_/\x1.to_<=ds.length))):=ZH (Yc (Yo dq) (Yo dq)) WI
   refine Y1 2 (.n 33 (W6 x1.cons) (.w (.k (.k (.k .z))))) [0] [b1] (iw (U7 x1.cons) (Z1 2 36 (.b (decide ((x1.cons.length:Int)>3))) ?_))
   exact YG (wk [0] (fq (fw (Zr (decide ((x1.cons.length:Int)>3)) WI fl)))) hj2
  refine ir 2 [(0,Zd ds),(3,.i k),(4,.p b1 0),(12,Zd ds),(13,.i ds.length),(14,.i k),(24,.b (!(decide (0<=x1.frm/\x1.frm<=ds.length))))] (ib (b:=(!(decide (0<=x1.frm/\x1.frm<=ds.length)))) 24 (fun WJ=>?_) (fun WJ=>?_))
  ·have Jf:¬(0<=x1.frm/\x1.frm<=ds.length):=((Yo dq)).1 WJ
   refine Z5 6 (.n 30 (.b true) (.d (.w (.k (.k .z))))) ?_
   exact YG (wk [0] (fq (fw (Zr true WJ fl)))) hj1
  have QE:¬(¬(0<=x1.frm/\x1.frm<=ds.length)):=ZH (Yo dq) WJ
  refine Y1 3 (.n 25 (Zd ds) (.n 27 (.i x1.to_) (.w (.k (.k (.k .z)))))) [0] [b1] (ZA [] (DS ds x1.to_) (Z1 2 30 (.b (!(decide (0<=x1.to_/\x1.to_<=ds.length)))) ?_))
  exact YG (wk [0] (fq (fw (Zr (!(decide (0<=x1.to_/\x1.to_<=ds.length))) WJ fl)))) hj1
 refine ax 0 (ar (ir 1 [(2,.b true)] (ie ?_)))
 exact Zc (r2 [] [.b true] ⟨rfl,rfl⟩ (lb (Z77 om om Zo)))
theorem Lo (op:Int) :Zj Tryz.prog 66 [.i op] [] (fun r h=>r=.b (YB op)/\h=[]):=by
 refine ZL 9 Tryz.func66 (ar (ir 1 [(0,.i op)] (ie (ar (XS 6 [(8,.b ((decide (op>=14))&&(decide (op<=17))))] [] ?_ (fun hj1=>?_))))))
 ·refine ir 1 [(2,.b ((decide (op>=14))&&(decide (op<=17))))] (ie ?_)
  exact Zc (r2 [] [.b ((decide (op>=14))&&(decide (op<=17)))] ⟨rfl,rfl⟩ (lb (by rw [YB,Xo];simp)))
 refine ir 3 [(0,.i op),(5,.b (decide (op>=14)))] (ib (b:=(decide (op>=14))) 5 (fun Zb=>?_) (fun Zb=>?_))
 ·have ZO:op>=14:=(dq).1 Zb
  refine ir 3 [(8,.b (decide (op<=17)))] ?_
  exact YG (wk [] (Zr (decide (op<=17)) Zb fl)) hj1
 have Y0:¬(op>=14):=ZH dq Zb
 refine ir 3 [(8,.b false)] ?_
 exact YG (wk [] (Zr false Zb fl)) hj1
theorem Z0k (b:Z6) (c:Nat) (v:Int) (hb:b.sz<=1000000000:=by exact ob) (hv:0<=v/\v<=600:=by exact ob) (ih:∀(b2:Z6) (c:Nat) (v:Int),(b2.sz<b.sz)->(0<=v/\v<=600)->Zj Tryz.prog 63 [Zq b2,.p c 0] [.obj c [.i v]] (fun r h=>(r=.b true/\h=[.obj c [.i (600-W2 b2 (600-v))]]/\0<=W2 b2 (600-v))∨(r=.b false/\h=[]/\W2 b2 (600-v)<0))):Zj Tryz.prog 63 [Zq b,.p c 0] [.obj c [.i v]] (fun r h=>(r=.b true/\h=[.obj c [.i (600-W2 b (600-v))]]/\0<=W2 b (600-v))∨(r=.b false/\h=[]/\W2 b (600-v)<0)):=by
 have hbz:=Vv b
 have hbe:=LQ b (600-v)
 refine ZL 38 Tryz.func63 (ar (iA (Y9 b) ?_))
 intro b1
 refine ir 1 [(1,.p c 0),(2,.p b1 0)] (ie (aq (ar (Yl 2 10 (Yi b.steps) [0] [b1] (iw (VD b.steps) (Z1 1 12 (.i 0) (ie (ab 0 (al (fun m F h=>∃(k:Nat) (q:Int),(k<=b.steps.length)/\(0<=q/\q<=600)/\(Tb (b.steps.drop k) (600-q)=Tb b.steps (600-v))/\F=[(1,.p c 0),(10,Yi b.steps),(11,.i b.steps.length),(12,.i k)]/\h=[.obj c [.i q]]/\m=b.steps.length-k) _ _ _ ⟨0,v,ob,ob,rfl,rfl,rfl,rfl⟩ (wk [1] (fw (fr (Yf fl)))) ?_)))))))))
 rintro m F h ⟨k,q,Ym,Zo,Zz,rfl,rfl,rfl⟩
 refine ar (Z1 1 13 (.b (decide ((k:Int)<(b.steps.length:Int)))) (ie (aq (ZQ ((k:Int)<(b.steps.length:Int)) (fun Ze=>?_) (fun Ze=>?_)))))
 ·refine ak (aq (ab 1 (ar ?_)))
  obtain ⟨x1,Z3⟩:=Zt (xs:=b.steps) (j:=k) om
  have hss:=KJ Z3
  have hkz:=Ta x1
  refine Zp (Zn none (k:Int) 5 (Wy Z3)) (Z1 1 15 (Y2 x1) (iA [.i 0,.i 0,.i 0,nl,nl] ?_))
  intro b2
  refine ZF 0 b2 (Ye x1) (ie (aq (ar (ZY 3 16 (.p c 0) 18 (.i q) [1] [c] (ia ((q+1)) ((q)+(1)) (Z1 1 20 (.p c 0) (ZF 1 c [.i (q+1)] (ie (ar (Yl 4 24 (.b (decide ((q+1)>600))) [0] [c] (ie (ZQ ((q+1)>600) (fun Zm=>?_) (fun Zm=>?_)))))))))))))
  ·refine ar (ir 1 [(4,.b false)] (ie ?_))
   exact Zc (r1 [] (.inr ⟨rfl,rfl,(by rw [hbe,<-Zz,Yb Z3,Tb,Zk om];omega)⟩))
  refine ak (ar (Yl 2 26 (Yx x1.kids) [1] [b2] (iw (VX x1.kids) (Z1 1 28 (.i 0) (ie (ab 2 (al (fun m F h=>∃(j:Nat) (j2:Int),(j<=x1.kids.length)/\(0<=j2/\j2<=600)/\(Tt (x1.kids.drop j) (600-j2)=Tt x1.kids (600-(q+1)))/\F=[(1,.p c 0),(10,Yi b.steps),(11,.i b.steps.length),(12,.i k),(26,Yx x1.kids),(27,.i x1.kids.length),(28,.i j)]/\h=[.obj c [.i j2]]/\m=x1.kids.length-j) _ _ _ ⟨0,(q+1),ob,ob,rfl,rfl,rfl,rfl⟩ (wk [0] (fq (fw (Yf fl)))) ?_)))))))
  rintro m F h ⟨j,j2,Ui,Wg,XL,rfl,rfl,rfl⟩
  refine ar (Z1 1 29 (.b (decide ((j:Int)<(x1.kids.length:Int)))) (ie (aq (ZQ ((j:Int)<(x1.kids.length:Int)) (fun ZI=>?_) (fun ZI=>?_)))))
  ·refine ak (aq (ab 3 (ar ?_)))
   obtain ⟨x2,Zy⟩:=Zt (xs:=x1.kids) (j:=j) om
   have hks:=T9 Zy
   have hle:=Gu.2 x2 (600-j2) om
   refine Zp (Zn none (j:Int) 2 (Uz Zy)) (Z1 1 31 (Zq x2) (iA [nl,.i 0] ?_))
   intro b3
   refine ZF 0 b3 (Y9 x2) (ie (ar (ZY 2 32 (Zq x2) 33 (.p c 0) [0] [b3] (ic [1] (ih x2 c j2 ob ob) ?_))))
   rintro _ _ (⟨rfl,rfl,ZO⟩|⟨rfl,rfl,Y0⟩)
   ·refine Z1 1 35 (.b false) (ie (WT (ak (az (ZM j (Z5 1 (.n 28 (.i (j+1:Nat)) (.p (.d (.p (.d (.d (.p (.d (.p (.d (.w (.k (.k .z))))))))))))) (ie ?_)))))))
    have hdr:=Yb Zy
    exact ZT ⟨j+1,(600-W2 x2 (600-j2)),ob,ob,(by rw [Yb Zy,Tt,Za om] at XL;rw [show 600-(600-W2 x2 (600-j2))=W2 x2 (600-j2) by omega];exact XL),rfl,rfl,rfl⟩ (wk [0] (fq (fw (ZW j fl))))
   refine Z1 1 35 (.b true) (ie (WU (ar (ir 1 [(4,.b false)] (ie ?_)))))
   exact Zc (r1 [] (.inr ⟨rfl,rfl,(by rw [hbe,<-Zz,Yb Z3,Tb,Za om,Zk (by rw [E2,show (600-q-1:Int)=600-(q+1) by omega,<-XL,Yb Zy,Tt,Zk Y0];omega)];omega)⟩))
  have hE:Tt x1.kids (600-(q+1))=600-j2:=by rw [<-XL,Xz om,Tt]
  refine ax 2 (az (ZM k (Z5 1 (.n 12 (.i (k+1:Nat)) (.p (.d (.k (.k (.k .z)))))) (ie ?_))))
  have hdr:=Yb Z3
  exact ZT ⟨k+1,j2,ob,ob,(by rw [Yb Z3,Tb,Za om,E2,show (600-q-1:Int)=600-(q+1) by omega,hE,Za om] at Zz;exact Zz),rfl,rfl,rfl⟩ (wk [0] (fw (fr (ZW k fl))))
 refine ax 0 (ar (ir 1 [(4,.b true)] (ie ?_)))
 have hF:W2 b (600-v)=600-q:=by rw [hbe,<-Zz,Xz om,Tb]
 exact Zc (r1 [0] (.inl ⟨rfl,rfl,om⟩) (eq:=(ro (ls:=[.i q]) (by rw [hF,show (600-(600-q):Int)=q by omega]) rz)))
theorem Z0j:∀(b:Z6) (c:Nat) (v:Int),(b.sz<=1000000000)->(0<=v/\v<=600)->Zj Tryz.prog 63 [Zq b,.p c 0] [.obj c [.i v]] (fun r h=>(r=.b true/\h=[.obj c [.i (600-W2 b (600-v))]]/\0<=W2 b (600-v))∨(r=.b false/\h=[]/\W2 b (600-v)<0)):=by
 have key:∀m:Nat,∀(b:Z6) (c:Nat) (v:Int),(b.sz<=m)->(b.sz<=1000000000)->(0<=v/\v<=600)->Zj Tryz.prog 63 [Zq b,.p c 0] [.obj c [.i v]] (fun r h=>(r=.b true/\h=[.obj c [.i (600-W2 b (600-v))]]/\0<=W2 b (600-v))∨(r=.b false/\h=[]/\W2 b (600-v)<0)):=by
  intro m
  induction m with
  | zero=>intro b c v h;have:=b.sz_pos;omega
  | succ m ih=>intro b c v h1 h2 h3;exact Z0k b c v h2 h3 fun b2 c2 v2 k1 k2=>ih b2 c2 v2 om om k2
 intro b c v h2 h3
 exact key b.sz b c v (X7 _) h2 h3
theorem Z0b (b:Z6) (hb:b.sz<=1000000000:=by exact ob):Zj Tryz.prog 22 [Zq b] [] (fun r h=>r=.i (V4 b)/\h=[]):=by
 refine ZL 8 Tryz.func22 (ar (iA (Y9 b) ?_))
 intro b1
 refine ir 1 [(1,.p b1 0)] (ie (ar (iA [.i 0] ?_)))
 intro b2
 refine ZF 0 b2 [.i 0] (ie (aq (ar (Yl 1 4 (Zq b) [1] [b1] (ic [0] (Z0j b b2 0 ob ob) ?_)))))
 rintro _ _ (⟨rfl,rfl,ZO⟩|⟨rfl,rfl,Y0⟩)
 ·have h0:=ZO
  rw [show (600-0:Int)=600 from rfl] at h0
  refine Z1 1 6 (.b false) (ie (WT (ak (ar (iR 2 [(2,.i (600-W2 b (600-0)))] [0] [b2] (ie ?_))))))
  exact Zc (r2 [] [.i (600-W2 b (600-0))] ⟨rfl,rfl⟩ (li (by rw [show (600-0:Int)=600 from rfl,V4,Za om])))
 have h0:=Y0
 rw [show (600-0:Int)=600 from rfl] at h0
 refine Z1 1 6 (.b true) (ie (WU (ar (ir 1 [(2,.i (-1))] (ie ?_)))))
 exact Zc (r2 [] [.i (-1)] ⟨rfl,rfl⟩ (li (by rw [V4,Zk h0])))
theorem Z0q (ds:List Zf) (fs:List WG) (hz:Qr ds:=by exact ob) (hf:∀f∈fs,f.pms.length<=4194304/\f.lnt.length<=4194304) (hfl:fs.length<=4194304:=by exact ob):Zj Tryz.prog 90 [Zd ds,Vh fs] [] (fun r h=>r=.b (Qm ds fs)/\h=[]):=by
 have hzl:=hz.len
 refine ZL 102 Tryz.func90 (ar (ir 1 [(0,Zd ds),(1,Vh fs)] (ie (aq (ar (Z1 1 9 (Zd ds) (ZA [] (Z0c ds) (XS 8 [(0,Zd ds),(1,Vh fs),(16,.b ((!Wc ds)||(decide ((fs.length:Int)<1))))] [] ?_ (fun hj1=>?_)))))))))
 ·refine XS 13 [(0,Zd ds),(1,Vh fs),(21,.b (((!Wc ds)||(decide ((fs.length:Int)<1)))||(decide ((fs.length:Int)>4))))] [] ?_ (fun hj2=>?_)
  ·refine ir 1 [(0,Zd ds),(1,Vh fs),(22,.b (((!Wc ds)||(decide ((fs.length:Int)<1)))||(decide ((fs.length:Int)>4))))] (ib (b:=(((!Wc ds)||(decide ((fs.length:Int)<1)))||(decide ((fs.length:Int)>4)))) 22 (fun Zb=>?_) (fun Zb=>?_))
   ·have ZO:((¬(Wc ds=true))∨((fs.length:Int)<1))∨((fs.length:Int)>4):=((Yc (Yc (Yo Iff.rfl) dq) dq)).1 Zb
    refine Z5 14 (.n 36 (.b true) (.d (.k (.k .z)))) (ie (WU (ar (ir 1 [(4,.b false)] (ie ?_)))))
    exact Zc (r2 [] [.b false] ⟨rfl,rfl⟩ (lb (Z7d (by assumption))))
   have Y0:¬(((¬(Wc ds=true))∨((fs.length:Int)<1))∨((fs.length:Int)>4)):=ZH (Yc (Yc (Yo Iff.rfl) dq) dq) Zb
   refine Z5 1 (.n 23 (Vh fs) (.k (.k (.k .z)))) ?_
   obtain ⟨x1,Z3⟩:=Zt (xs:=fs) (j:=0) om
   refine Zp (Zn none 0 3 (Bn Z3)) (Z1 2 26 (Z0 x1.pms) (iw (Yd x1.pms) (Z1 3 30 (.b (decide ((x1.pms.length:Int)>0))) (ib (b:=(decide ((x1.pms.length:Int)>0))) 30 (fun Zv=>?_) (fun Zv=>?_)))))
   ·have Yz:(x1.pms.length:Int)>0:=(dq).1 Zv
    refine Z5 6 (.n 36 (.b true) (.k (.d .r))) (ie (WU (ar (ir 1 [(4,.b false)] (ie ?_)))))
    exact Zc (r2 [] [.b false] ⟨rfl,rfl⟩ (lb (NX Z3 (.inl (by assumption)))))
   have YM:¬((x1.pms.length:Int)>0):=ZH dq Zv
   refine Z5 1 (.n 31 (Vh fs) (.k (.d .r))) (Zp (Zn none 0 3 (Bn Z3)) (Z1 4 36 (.b (x1.res != 0)) (ie (ac (x1.res != 0) Yg (fun Ze=>?_) (fun Ze=>?_)))))
   ·refine ar (ir 1 [(4,.b false)] (ie ?_))
    exact Zc (r2 [] [.b false] ⟨rfl,rfl⟩ (lb (NX Z3 (.inr Ze))))
   refine ak (aq (ar (Z1 1 37 (Vh fs) (iw (C7 fs) (Z1 1 39 (.i 0) (ie (ab 0 (al (fun m F h=>∃(k:Nat),(k<=fs.length)/\(Qh ds.length (fs.drop k)=Qh ds.length fs)/\F=[(0,Zd ds),(37,Vh fs),(38,.i fs.length),(39,.i k)]/\h=[]/\m=fs.length-k) _ _ _ ⟨0,ob,ob,rfl,rfl,rfl⟩ (wk [] (fw (fr (Yf fl)))) ?_))))))))
   rintro m F h ⟨k,Ym,Zo,rfl,rfl,rfl⟩
   refine ar (Z1 1 40 (.b (decide ((k:Int)<(fs.length:Int)))) (ie (aq (ZQ ((k:Int)<(fs.length:Int)) (fun Zm=>?_) (fun Zm=>?_)))))
   ·refine ak (aq (ab 1 (ar ?_)))
    obtain ⟨x2,Zy⟩:=Zt (xs:=fs) (j:=k) om
    have hf2:=hf _ (Y6 Zy)
    refine Zp (Zn none (k:Int) 3 (Bn Zy)) (Z1 1 42 (D3 x2) (iA [nl,nl,.i 0] ?_))
    intro b1
    refine ZF 0 b1 (BA x2) (ie (aq (ar (Yl 2 44 (Z0 x2.pms) [0] [b1] (iw (Yd x2.pms) (XS 11 [(0,Zd ds),(6,.p b1 0),(37,Vh fs),(38,.i fs.length),(39,.i k),(53,.b ((decide ((x2.pms.length:Int)>3))||(!YZ ds.length x2.pms)))] [.obj b1 (BA x2)] ?_ (fun hj3=>?_)))))))
    ·refine Xm [(0,Zd ds),(6,.p b1 0),(37,Vh fs),(38,.i fs.length),(39,.i k),(60,.b (((decide ((x2.pms.length:Int)>3))||(!YZ ds.length x2.pms))||(!(decide (0<=x2.res/\x2.res<=ds.length)))))] [.obj b1 (BA x2)] ?_ ?_
     ·refine ir 1 [(0,Zd ds),(6,.p b1 0),(37,Vh fs),(38,.i fs.length),(39,.i k),(54,.b ((decide ((x2.pms.length:Int)>3))||(!YZ ds.length x2.pms)))] (ib (b:=((decide ((x2.pms.length:Int)>3))||(!YZ ds.length x2.pms))) 54 (fun YC=>?_) (fun YC=>?_))
      ·have YX:((x2.pms.length:Int)>3)∨(¬(YZ ds.length x2.pms=true)):=((Yc dq (Yo Iff.rfl))).1 YC
       refine Z5 6 (.n 60 (.b true) (.d (.w (.k .z)))) (ie ?_)
       exact wk [0] (fq (fr (Zr true YC fl)))
      have Xw:¬(((x2.pms.length:Int)>3)∨(¬(YZ ds.length x2.pms=true))):=ZH (Yc dq (Yo Iff.rfl)) YC
      refine Y1 3 (.n 55 (Zd ds) (.n 57 (.i x2.res) (.w (.k (.k .z))))) [0] [b1] (ZA [] (DS ds x2.res) (Z1 2 60 (.b (!(decide (0<=x2.res/\x2.res<=ds.length)))) (ie ?_)))
      exact wk [0] (fq (fr (Zr (!(decide (0<=x2.res/\x2.res<=ds.length))) YC fl)))
     refine ac (((decide ((x2.pms.length:Int)>3))||(!YZ ds.length x2.pms))||(!(decide (0<=x2.res/\x2.res<=ds.length)))) (p:=(((x2.pms.length:Int)>3)∨(¬(YZ ds.length x2.pms=true)))∨(¬(0<=x2.res/\x2.res<=ds.length))) (Yc (Yc dq (Yo Iff.rfl)) (Yo dq)) (fun ZI=>?_) (fun ZI=>?_)
     ·refine ar (ir 1 [(4,.b false)] (ie ?_))
      exact Zc (r2 [] [.b false] ⟨rfl,rfl⟩ (lb (ED (Eq Zy (Z44 ZI) Zo))))
     refine ak (ar (iR 2 [(0,Zd ds),(6,.p b1 0),(37,Vh fs),(38,.i fs.length),(39,.i k),(62,Z0 x2.lnt)] [0] [b1] (iw (Yd x2.lnt) (Z1 1 64 (.i 0) (ie (ab 2 (al (fun m F h=>∃(j:Nat),(j<=x2.lnt.length)/\(Qd x2.pms (x2.lnt.drop j) (if j=0 then none else x2.lnt[j-1]?)=QT x2.pms x2.lnt)/\F=[(0,Zd ds),(6,.p b1 0),(37,Vh fs),(38,.i fs.length),(39,.i k),(62,Z0 x2.lnt),(63,.i x2.lnt.length),(64,.i j)]/\h=[.obj b1 (BA x2)]/\m=x2.lnt.length-j) _ _ _ ⟨0,ob,(by rfl),rfl,rfl,rfl⟩ (wk [0] (fq (fw (fr (Yf fl))))) ?_)))))))
     rintro m F h ⟨j,Ui,Wg,rfl,rfl,rfl⟩
     refine ar (Z1 1 65 (.b (decide ((j:Int)<(x2.lnt.length:Int)))) (ie (aq (ZQ ((j:Int)<(x2.lnt.length:Int)) (fun Yh=>?_) (fun Yh=>?_)))))
     ·refine ak (aq (ab 3 (ar (Z1 1 66 (.i j) ?_))))
      obtain ⟨x3,YS⟩:=Zt (xs:=x2.lnt) (j:=j) om
      refine Zp (Zn none (j:Int) 1 (Y3 YS)) (Yn 3 7 (.i j) 8 (.i x3) (ie (ar (XS 9 [(0,Zd ds),(6,.p b1 0),(7,.i j),(8,.i x3),(37,Vh fs),(38,.i fs.length),(39,.i k),(62,Z0 x2.lnt),(63,.i x2.lnt.length),(64,.i j),(77,.b ((decide (x3<0))||(decide (x3>=(x2.pms.length:Int)))))] [.obj b1 (BA x2)] ?_ (fun hj4=>?_)))))
      ·refine ir 1 [(0,Zd ds),(6,.p b1 0),(7,.i j),(8,.i x3),(37,Vh fs),(38,.i fs.length),(39,.i k),(62,Z0 x2.lnt),(63,.i x2.lnt.length),(64,.i j),(78,.b ((decide (x3<0))||(decide (x3>=(x2.pms.length:Int)))))] (ib (b:=((decide (x3<0))||(decide (x3>=(x2.pms.length:Int))))) 78 (fun Xh=>?_) (fun Xh=>?_))
       ·have Wh:(x3<0)∨(x3>=(x2.pms.length:Int)):=((Yc dq dq)).1 Xh
        refine Z5 21 (.n 99 (.b true) (.d (.k (.k (.d (.d (.w (.k (.k .z))))))))) (ie (WU (ar (ir 1 [(4,.b false)] (ie ?_)))))
        exact Zc (r2 [] [.b false] ⟨rfl,rfl⟩ (lb (ED (Eq Zy (GW (Gw YS (by rintro ⟨q1,q2,q3⟩;first|omega|(rw [Ua] at q2;exact q2 (Yv some om))|(have:=q3 _ (by rw [Za om];exact UE);omega)) Wg)) Zo))))
       have WC:¬((x3<0)∨(x3>=(x2.pms.length:Int))):=ZH (Yc dq dq) Xh
       refine Y1 3 (.n 80 (Z0 x2.pms) (.n 81 (.i x3) (.w (.w (.k (.k (.k .z))))))) [0] [b1] ?_
       obtain ⟨x4,Ua⟩:=Zt (xs:=x2.pms) (j:=x3.toNat) om
       refine Zp (Zn none x3 1 (Y3 Ua)) (Z1 4 86 (.b (x4==0)) (ib (b:=(x4==0)) 86 (fun W9=>?_) (fun W9=>?_)))
       ·have WP:x4=0:=(Zh).1 W9
        refine Z5 13 (.n 99 (.b true) (.k (.d .r))) (ie (WU (ar (ir 1 [(4,.b false)] (ie ?_)))))
        exact Zc (r2 [] [.b false] ⟨rfl,rfl⟩ (lb (ED (Eq Zy (GW (Gw YS (by rintro ⟨q1,q2,q3⟩;first|omega|(rw [Ua] at q2;exact q2 (Yv some om))|(have:=q3 _ (by rw [Za om];exact UE);omega)) Wg)) Zo))))
       have U9:¬(x4=0):=ZH Zh W9
       refine Z5 3 (.n 89 (.b (decide ((j:Int)>0))) (.k (.d .r))) (ib (b:=(decide ((j:Int)>0))) 89 (fun WB=>?_) (fun WB=>?_))
       ·have UD:(j:Int)>0:=(dq).1 WB
        refine Y1 4 (.n 90 (.i x3) (.n 92 (Z0 x2.lnt) (.n 93 (.i j) (.k (.d .r))))) [0] [b1] (ia (((j-1:Nat):Int)) (((j:Int))-(1)) ?_)
        obtain ⟨x5,UE⟩:=Zt (xs:=x2.lnt) (j:=j-1) om
        refine Zp (Zn none ((j-1:Nat):Int) 1 (Y3 UE)) (Z1 4 99 (.b (decide (x3<=x5))) (ie (ZQ (x3<=x5) (fun Xk=>?_) (fun Xk=>?_))))
        ·refine ar (ir 1 [(4,.b false)] (ie ?_))
         exact Zc (r2 [] [.b false] ⟨rfl,rfl⟩ (lb (ED (Eq Zy (GW (Gw YS (by rintro ⟨q1,q2,q3⟩;first|omega|(rw [Ua] at q2;exact q2 (Yv some om))|(have:=q3 _ (by rw [Za om];exact UE);omega)) Wg)) Zo))))
        refine ak (az (ZM j (Z5 1 (.n 64 (.i (j+1:Nat)) (.p (.d (.p (.p (.d (.d (.d (.d (.d (.p (.d (.d (.d (.k (.k (.d (.d (.w (.k .z)))))))))))))))))))) (ie ?_))))
        have hdr:=Yb YS
        exact ZT ⟨j+1,ob,(LS YS ⟨by omega,(by rw [Ua];intro q;cases q;omega),fun p hp=>by first|(rw [Zk om] at hp;cases hp;done)|(rw [Za om,UE] at hp;cases hp;omega)⟩ Wg),rfl,rfl,rfl⟩ (wk [0] (fq (fw (fr (ZW j fl)))))
       have Ur:¬((j:Int)>0):=ZH dq WB
       refine Z5 10 (.n 99 (.b false) (.k (.d .r))) (ie (WT (ak (az (ZM j (Z5 1 (.n 64 (.i (j+1:Nat)) (.p (.d (.d (.d (.p (.d (.d (.d (.k (.k (.d (.d (.w (.k .z))))))))))))))) (ie ?_)))))))
       have hdr:=Yb YS
       exact ZT ⟨j+1,ob,(LS YS ⟨by omega,(by rw [Ua];intro q;cases q;omega),fun p hp=>by first|(rw [Zk om] at hp;cases hp;done)|(rw [Za om,UE] at hp;cases hp;omega)⟩ Wg),rfl,rfl,rfl⟩ (wk [0] (fq (fw (fr (ZW j fl)))))
      refine ir 3 [(0,Zd ds),(6,.p b1 0),(7,.i j),(8,.i x3),(37,Vh fs),(38,.i fs.length),(39,.i k),(62,Z0 x2.lnt),(63,.i x2.lnt.length),(64,.i j),(71,.b (decide (x3<0)))] (ib (b:=(decide (x3<0))) 71 (fun WV=>?_) (fun WV=>?_))
      ·have Tq:x3<0:=(dq).1 WV
       refine Z5 6 (.n 77 (.b true) (.d (.w (.w (.k (.k .z)))))) ?_
       exact YG (wk [0] (fq (fq (fw (Zr true WV fl))))) hj4
      have T7:¬(x3<0):=ZH dq WV
      refine Y1 3 (.n 72 (.i x3) (.n 74 (Z0 x2.pms) (.w (.w (.k (.k (.k .z))))))) [0] [b1] (iw (Yd x2.pms) (Z1 2 77 (.b (decide (x3>=(x2.pms.length:Int)))) ?_))
      exact YG (wk [0] (fq (fq (fw (Zr (decide (x3>=(x2.pms.length:Int))) WV fl))))) hj4
     have hL:QT x2.pms x2.lnt=true:=by rw [<-Wg,Xz om];rfl
     have hS:=Z45 ZI hL
     refine ax 2 (az (ZM k (Z5 1 (.n 39 (.i (k+1:Nat)) (.p (.d (.k (.d (.k (.k .z))))))) (ie ?_))))
     have hdr:=Yb Zy
     exact ZT ⟨k+1,ob,(Z4o Zy hS Zo),rfl,rfl,rfl⟩ (wk [] (fw (fr (ZW k fl))))
    refine ir 2 [(0,Zd ds),(6,.p b1 0),(37,Vh fs),(38,.i fs.length),(39,.i k),(47,.b (decide ((x2.pms.length:Int)>3)))] (ib (b:=(decide ((x2.pms.length:Int)>3))) 47 (fun WI=>?_) (fun WI=>?_))
    ·have QC:(x2.pms.length:Int)>3:=(dq).1 WI
     refine Z5 6 (.n 53 (.b true) (.d (.w (.k .z)))) ?_
     exact YG (wk [0] (fq (fr (Zr true WI fl)))) hj3
    have QD:¬((x2.pms.length:Int)>3):=ZH dq WI
    refine Y1 3 (.n 48 (Zd ds) (.n 50 (Z0 x2.pms) (.w (.k (.k .z))))) [0] [b1] (ZA [] (Gd ds x2.pms) (Z1 2 53 (.b (!YZ ds.length x2.pms)) ?_))
    exact YG (wk [0] (fq (fr (Zr (!YZ ds.length x2.pms) WI fl)))) hj3
   refine ax 0 (ar (ir 1 [(4,.b true)] (ie ?_)))
   exact Zc (r2 [] [.b true] ⟨rfl,rfl⟩ (lb (Z7e (by assumption) Z3 (by assumption) Ze (by rw [<-Zo,Xz om];rfl))))
  refine ir 1 [(0,Zd ds),(1,Vh fs),(17,.b ((!Wc ds)||(decide ((fs.length:Int)<1))))] (ib (b:=((!Wc ds)||(decide ((fs.length:Int)<1)))) 17 (fun WJ=>?_) (fun WJ=>?_))
  ·have Jf:(¬(Wc ds=true))∨((fs.length:Int)<1):=((Yc (Yo Iff.rfl) dq)).1 WJ
   refine Z5 4 (.n 21 (.b true) (.d (.k (.k .z)))) ?_
   exact YG (wk [] (fw (Zr true WJ fl))) hj2
  have QE:¬((¬(Wc ds=true))∨((fs.length:Int)<1)):=ZH (Yc (Yo Iff.rfl) dq) WJ
  refine Z5 1 (.n 18 (Vh fs) (.k (.k (.k .z)))) (iw (C7 fs) (Z1 2 21 (.b (decide ((fs.length:Int)>4))) ?_))
  exact YG (wk [] (fw (Zr (decide ((fs.length:Int)>4)) WJ fl))) hj2
 refine ir 2 [(0,Zd ds),(1,Vh fs),(12,.b (!Wc ds))] (ib (b:=(!Wc ds)) 12 (fun TA=>?_) (fun TA=>?_))
 ·have Lh:¬(Wc ds=true):=((Yo Iff.rfl)).1 TA
  refine Z5 4 (.n 16 (.b true) (.d (.k (.k .z)))) ?_
  exact YG (wk [] (fw (Zr true TA fl))) hj1
 have Li:¬(¬(Wc ds=true)):=ZH (Yo Iff.rfl) TA
 refine Z5 1 (.n 13 (Vh fs) (.k (.k (.k .z)))) (iw (C7 fs) (Z1 2 16 (.b (decide ((fs.length:Int)<1))) ?_))
 exact YG (wk [] (fw (Zr (decide ((fs.length:Int)<1)) TA fl))) hj1
theorem Z0m (n:Zx) (hz:Qt n:=by exact ob):Zj Tryz.prog 54 [ZB n] [] (fun r h=>(r=.tup [.agg [Zd n.decls,Xn n],.b (XI n)]/\h=[]/\n.routines.length<=4)∨(r=.tup [.agg [Zd [],Vh []],.b false]/\h=[]/\XI n=false)):=by
 have hzl:=hz.len
 refine ZL 41 Tryz.func54 (ar (iA (ZP n) ?_))
 intro b1
 refine iA [nl,nl] ?_
 intro b2
 refine ir 1 [(1,.p b1 0),(2,.p b2 0)] (ie (aq (ar (Yl 2 8 (X6 n.routines) [1] [b1] (iw (Un n.routines) (Z1 1 10 (.b (decide ((n.routines.length:Int)>4))) (ie (ZQ ((n.routines.length:Int)>4) (fun Ze=>?_) (fun Ze=>?_)))))))))
 ·refine ar (Z1 1 11 (.agg [nl,nl]) (ZF 0 b2 [nl,nl] (Z1 1 3 (.b false) (ie ?_))))
  exact Zc (r3 [] [.agg [nl,nl],.b false] [0] [(b2,b2)] (.inr ⟨rfl,rfl,(by rw [M1,decide_eq_false om];rfl)⟩) (Zg.tup (.cons (Zg.agg (.cons (Zg.sl _ rfl) (.cons (Zg.sl _ rfl) .nil))) (.cons (lr _) .nil))))
 refine ak (ar (Yl 3 14 (.agg [Zd n.decls,nl]) [1] [b1] (iA [nl,nl] ?_)))
 intro b3
 refine ZF 0 b3 [Zd n.decls,nl] (ie (aq (ar (Yl 2 16 (X6 n.routines) [2] [b1] (iw (Un n.routines) (Z1 1 18 (.i 0) (ie (ab 0 (D5 3 (al (fun m F h=>∃(k:Nat) (v:Value),(k<=n.routines.length)/\F=[(1,.p b1 0),(2,.p b2 0),(4,.p b3 0),(16,X6 n.routines),(17,.i n.routines.length),(18,.i k)]/\h=[.obj b3 [Zd n.decls,BF ((n.routines.take k).map XB) v],.obj b2 [nl,nl],.obj b1 (ZP n),.tail v 3]/\m=n.routines.length-k) _ _ _ ⟨0,(.slice none 0 0),ob,rfl,rfl,rfl⟩ (wk [1,1,1,0] (fq (fr (Yf fl)))) ?_))))))))))
 rintro m F h ⟨k,v,Ym,rfl,rfl,rfl⟩
 refine ar (Z1 1 19 (.b (decide ((k:Int)<(n.routines.length:Int)))) (ie (aq (ZQ ((k:Int)<(n.routines.length:Int)) (fun Zm=>?_) (fun Zm=>?_)))))
 ·refine ak (aq (ab 1 (ar ?_)))
  obtain ⟨x1,Z3⟩:=Zt (xs:=n.routines) (j:=k) om
  refine Zp (Zn none (k:Int) 5 (WH Z3)) (Z1 1 21 (Vd x1) (iA [nl,nl,.i 0,nl,.i 0] ?_))
  intro b4
  refine ZF 0 b4 (UG x1) (ie (az (ZY 9 23 (BF ((n.routines.take k).map XB) v) 30 (.agg [Z0 x1.params,Z0 x1.lent,.i x1.result]) [1,0,0,0] [b3,b4,b4,b4] (iL (UA [WG.mk x1.params x1.lent x1.result]) 1 3 ?_))))
  intro v1
  refine Z5 0 (.n 31 (Vh [WG.mk x1.params x1.lent x1.result]) (.p .r)) (ip 5 (UA ((n.routines.take (k+1)).map XB)) (UA ((n.routines.take k).map XB)) (UA [WG.mk x1.params x1.lent x1.result]) v none 3 (Ip _) (Ip _) (R5 _) (by simp<;>omega) (by rw [WQ Z3];simp [UA,XB]) ?_)
  intro v2
  refine Z1 1 33 (.p b3 1) (ZF 3 b3 [Zd n.decls,BF ((n.routines.take (k+1)).map XB) v2] (ie (az (ZM k (Z5 1 (.n 18 (.i (k+1:Nat)) (.p (.d (.p (.d (.d (.d (.p (.d (.p (.d (.w (.k .z))))))))))))) (ie ?_))))))
  have hdr:=Yb Z3
  exact ZT ⟨k+1,v2,ob,rfl,rfl,rfl⟩ (wk [0,3,3,0] (fq (fr (ZW k fl))))
 refine ax 0 (aD 8 (Y5 3 8 [0,1,2,3,4] (.n 35 (.agg [Zd n.decls,BF ((n.routines.take k).map XB) v]) (.n 37 (Zd n.decls) (.n 39 (Vh ((n.routines.take k).map XB)) .r))) [0,2,0] [b3,b1,b3] (Z9 5 (Yt 5 [] [0] [b3] (Z0q n.decls ((n.routines.take k).map XB) (hz:=hz.decls) (hf:=(by intro f hf;obtain ⟨r,h1,rfl⟩:=XW.1 hf;have:=TL h1;exact ⟨hz.params r this,hz.lent r this⟩))) (Z9 6 (YF 6 1 [] [] b2 [Zd n.decls,BF ((n.routines.take k).map XB) v] (ZX 0 1 [7] 3 (.b (Qm n.decls ((n.routines.take k).map XB))) (de ?_))))))))
 have htk:n.routines.take k=n.routines:=Vb om
 exact Zc (r3 [] [.agg [Zd n.decls,BF ((n.routines.take k).map XB) v],.b (Qm n.decls ((n.routines.take k).map XB))] [0] [(b2,b2)] (.inl ⟨rfl,rfl,om⟩) (Zg.tup (.cons (Zg.agg (.cons (lr _) (.cons (Zg.sl _ (Yv UA (by rw [htk]))) .nil))) (.cons (lb (by rw [htk,M1,decide_eq_true (p:=n.routines.length<=4) om,Bool.true_and])) .nil))))
end Go.Abs
