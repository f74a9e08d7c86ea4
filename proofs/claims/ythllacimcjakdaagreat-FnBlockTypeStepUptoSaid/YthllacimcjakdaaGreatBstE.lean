/-
  A part of the proof of FnBlockTypeStepUptoSaid (see the last file): no condition.
-/
import Derived.Test.YthllacimcjakdaaGreatBstD
set_option linter.all false
set_option linter.unusedVariables false
set_option linter.unusedSimpArgs false
set_option linter.unusedSectionVars false
set_option maxRecDepth 10000
set_option maxHeartbeats 4000000
namespace Go.Abs
open Go.Proofs
theorem LP (b:Nat) (ga:Hd) (gb:Hd) (gc:Hd) (gd:Hd) (ge:Hd) (gf:Hd) (n:Zx) (s:Z4) (L:ZH) (ln:List Int) (q:Int) (i:Nat) (kb0:Z5) (m:List Int) (hn:Xf n:=by exact ob) (hk:Xx n.decls L q:=by exact ob) (hf:Av n L.vars s:=by exact ob) (hop:s.op=7∨s.op=8:=by exact ob) (hkb:s.kids[i]? = some kb0:=by exact ob) (harm:(X8 n.decls s.op s.num)[i]? = some m:=by exact ob) (hbt:0<=YR n (L.vars++m) kb0:=by exact ob) (hb:L.vars.length+4*s.sz<=1000000000:=by exact ob) (hq:0<=q/\q+4*s.sz<=999999990:=by exact ob) (hln:ln.length<=4294967296:=by exact ob) (ih:∀(b2:Z5) (c:Nat) (ra:Hd) (rb:Hd) (rc:Hd) (rd:Hd) (re:Hd) (rf:Hd) (M:ZH) (mm:Nat) (p:Int),(b2.sz<s.sz)->(Xx n.decls M p)->(0<=YR n M.vars b2)->(mm<=M.vars.length)->(M.vars.length+4*b2.sz<=1000000000)->(0<=p/\p+4*b2.sz<=999999990)->Zk Tryz.prog 270 [.p c 0,ZB n,Zr b2,.i mm] [.obj c [.h ra,.h rb,.h rc,.h rd,.h re,.h rf,Z0 ln],rV ra M.vars,rV rb M.own,rV rc M.par,rV rd M.con,rV re M.fst,rV rf M.tok] (fun r h=>(∃(wa:Hd) (wb:Hd) (wc:Hd) (wd:Hd) (we:Hd) (wf:Hd) (M':ZH),r=.b true/\h=[.obj c [.h wa,.h wb,.h wc,.h wd,.h we,.h wf,Z0 ln],rV wa M'.vars,rV wb M'.own,rV wc M'.par,rV wd M'.con,rV we M'.fst,rV wf M'.tok]/\VE n ln M mm b2=some M')∨(r=.b false/\h=[]/\VE n ln M mm b2=none))):Zk Tryz.prog 262 [.p b 0,ZB n,Y2 s,.i i] [.obj b [.h ga,.h gb,.h gc,.h gd,.h ge,.h gf,Z0 ln],rV ga L.vars,rV gb L.own,rV gc L.par,rV gd L.con,rV ge L.fst,rV gf L.tok] (fun r h=>(∃(c:Nat) (wa:Hd) (wb:Hd) (wc:Hd) (wd:Hd) (we:Hd) (wf:Hd) (L':ZH),r=.tup [.p c 0,.b true]/\h=[.obj c [.h wa,.h wb,.h wc,.h wd,.h we,.h wf,Z0 ln],rV wa L'.vars,rV wb L'.own,rV wc L'.par,rV wd L'.con,rV we L'.fst,rV wf L'.tok,.obj b [.h ga,.h gb,.h gc,.h gd,.h ge,.h gf,Z0 ln],rV ga L.vars,rV gb L.own,rV gc L.par,rV gd L.con,rV ge L.fst,rV gf L.tok]/\VE n ln (UX n.decls L s.op s.num s.args i) L.vars.length kb0=some L')∨(r=.tup [.any,.b false]/\h=[.obj b [.h ga,.h gb,.h gc,.h gd,.h ge,.h gf,Z0 ln],rV ga L.vars,rV gb L.own,rV gc L.par,rV gd L.con,rV ge L.fst,rV gf L.tok]/\VE n ln (UX n.decls L s.op s.num s.args i) L.vars.length kb0=none)):=by
 obtain ⟨e1,e2,e3,e4,e5⟩:=hk.len
 have Xu:=hn.decls
 have hkz:=Td s
 have haz:=Qa s
 have hK:=DZ hk hq.1 hf hop harm
 have hm3:=HT Xu harm
 have hkl:=(XM.1 hkb).1
 have hks:=Tc hkb
 refine ZL 83 Tryz.func262 (ar (iA (ZM n) ?_))
 intro b1
 refine iA (Ye s) ?_
 intro b2
 refine ir 2 [(0,.p b 0),(3,.i i),(5,.p b1 0),(6,.p b2 0)] (ie (ar (Yn 4 18 (.h ga) [2] [b] (Zq (Jw 3 ga L.vars) (Z1 1 10 (.i L.vars.length) (ie (ar (Z1 1 20 (.p b 0) (ic [2,2,2,2,2,2,2] (Z1t b ga gb gc gd ge gf L ln (hlk:=hk.len)) ?_)))))))))
 rintro _ _ ⟨c1,wa1,wb1,wc1,wd1,we1,wf1,rfl,rfl⟩
 refine Z1 1 11 (.p c1 0) (ie (aq (ar (Yn 3 24 (.b (s.op==8)) [14] [b2] (ie (ac (s.op==8) Zh (fun Ze=>?_) (fun Ze=>?_)))))))
 ·obtain ⟨x,hxa⟩:=hf.one om
  have ha:s.args[0]? = some x:=by rw [hxa];rfl
  have hx:=hf.args x (by rw [hxa];simp)
  obtain ⟨cc,hcc,hmc⟩:=OM Ze harm
  have hal:=(XM.1 ha).1
  have hcl:=(XM.1 hcc).1
  have hm4:=hm3
  rw [hmc] at hm4
  refine ar (ZY 4 26 (Zd n.decls) 28 (.i s.num) [15,14] [b1,b2] (ic [] (KO n.decls s.num) ?_))
  rintro _ _ ⟨v1,rfl,rfl⟩
  refine Z1 1 30 (.i i) (Zq (Zn (some v1) (i:Int) 1 (Y4 hcc)) (Z1 2 12 (.i cc) (ie (ar (ZY 3 34 (Zd n.decls) 35 (.i cc) [16] [b1] (Zz [] (Ql n.decls cc) (Z1 1 13 (Z0 (Zw n.decls cc)) (ie (aD 11 (Y5 5 11 [0,1,2,3,4,5] (.n 40 (.h wd1) (.n 42 (Z0 s.args) .r)) [1,15] [c1,b2] (dx 6 (Zn none 0 1 (Y4 ha)) (ZZ 2 4 [7,8] (.n 44 (.i x) (.n 45 (.i cc) .r)) (dx 9 (VB 5 wd1 L.con x x.toNat (hq:=rfl)) (Z9 10 (JU 10 5 [] [] wd1 L.con x.toNat cc (de (aD 11 (Y5 5 11 [0,1,2,3,4,5] (.n 50 (.h we1) (.n 52 (Z0 s.args) .r)) [2,15] [c1,b2] (dx 6 (Zn none 0 1 (Y4 ha)) (ZZ 2 4 [7,8] (.n 54 (.i x) (.n 55 (.i L.vars.length) .r)) (dx 9 (VB 6 we1 L.fst x x.toNat (hq:=rfl)) (Z9 10 (JU 10 6 [] [] we1 L.fst x.toNat (L.vars.length:Int) (de (ar (Z1 1 14 (.i 0) (ie (ab 0 (al (fun m F h=>∃(k:Nat) (L3:ZH) (ka:Hd) (kb:Hd) (kc:Hd) (kd:Hd) (ke:Hd) (kf:Hd),(k<=(Zw n.decls cc).length)/\(U6 L3)/\(L3.vars.length=L.vars.length+k)/\(AM L3 x ((Zw n.decls cc).drop k)=J3 n.decls L x cc)/\F=[(3,.i i),(5,.p b1 0),(6,.p b2 0),(10,.i L.vars.length),(11,.p c1 0),(13,Z0 (Zw n.decls cc)),(14,.i k)]/\h=[.obj c1 [.h ka,.h kb,.h kc,.h kd,.h ke,.h kf,Z0 ln],.obj b [.h ga,.h gb,.h gc,.h gd,.h ge,.h gf,Z0 ln],rV ga L.vars,rV gb L.own,rV gc L.par,rV gd L.con,rV ge L.fst,rV gf L.tok,.obj b2 (Ye s),.obj b1 (ZM n),rV ka L3.vars,rV kb L3.own,rV kc L3.par,rV kd L3.con,rV ke L3.fst,rV kf L3.tok]/\m=(Zw n.decls cc).length-k) _ _ _ ⟨0,(ZH.mk L.vars L.own L.par (L.con.set x.toNat cc) (L.fst.set x.toNat (L.vars.length:Int)) L.tok),wa1,wb1,wc1,wd1,we1,wf1,ob,(U6.arm hk.len),ob,(by rw [J3];rfl),rfl,rfl,rfl⟩ (wk [3,7,7,7,7,7,7,7,7,7,3,3,3,1,0,1] (fq (fw (Yh fl))) (e:=(rc (rc (rc (rc (rc (rc (rc (rc (rc (rc (rv (xs:=L.vars) ob (rv (xs:=L.own) ob (rv (xs:=L.par) ob (rv (xs:=(L.con.set x.toNat cc)) ob (rv (xs:=(L.fst.set x.toNat (L.vars.length:Int))) ob (rv (xs:=L.tok) ob rz)))))))))))))))))) ?_)))))))))))))))))))))))))))))
  rintro m F h ⟨k,L3,ka,kb,kc,kd,ke,kf,Yo,Zp,ZA,YJ,rfl,rfl,rfl⟩
  refine aq (ar (Yq 2 57 (.i k) 58 (Z0 (Zw n.decls cc)) (io (.i (((Zw n.decls cc).length:Nat):Int)) (.i (((Z8 (Zw n.decls cc)).length:Nat):Int)) (li (by rw [Yf])) (Z1 1 60 (.b (decide ((k:Int)<(((Zw n.decls cc).length:Nat):Int)))) (ie (ZT ((k:Int)<(((Zw n.decls cc).length:Nat):Int)) (fun Zl=>?_) (fun Zl=>?_)))))))
  ·refine ak (aq (ab 1 (aE 10 (ZZ 7 10 [0,1,2] (.n 63 (.p c1 0) (.n 64 (Z0 (Zw n.decls cc)) (.n 65 (.i k) .r))) ?_))))
   obtain ⟨x1,Z3⟩:=Zu (xs:=Zw n.decls cc) (j:=k) om
   refine dx 3 (Zn none (k:Int) 1 (Y4 Z3)) (Y5 3 6 [4,5,6] (.n 67 (.i x1) (.n 69 (Z0 s.args) .r)) [8] [b2] (dx 7 (Zn none 0 1 (Y4 ha)) (ZX 1 2 [8] 71 (.i x) (Z9 9 (dc 9 [0,9,9,9,9,9,9] [] [] (Qh c1 ka kb kc kd ke kf L3 ln x1 0 x (hlk:=Zp)) ?_)))))
   rintro _ _ ⟨wa2,wb2,wc2,wd2,we2,wf2,rfl⟩
   refine de (az (Z6 1 (.n 61 (.i k) (.p .r)) (ZO k (Z6 1 (.n 14 (.i (k+1:Nat)) (.p (.d (.d (.p (.d (.d (.p (.d (.d (.d (.d (.p (.d (.d (.w (.k (.k .z)))))))))))))))))) (ie ?_)))))
   exact ZU ⟨k+1,(L3.grow x1 0 x),wa2,wb2,wc2,wd2,we2,wf2,ob,(U6.grow Zp),(by simp [ZH.grow];omega),(by rw [Yd Z3,AM] at YJ;exact YJ),rfl,rfl,rfl⟩ (wk [0,6,6,6,6,6,6,6,6,6,0,0,0,0,0,0] (fq (fw (ZW k fl))))
  have hE:UX n.decls L s.op s.num s.args i=L3:=by rw [Z1a Ze ha hcc,<-YJ,Xz om];rfl
  refine ax 0 (aD 12 (Y5 6 12 [0,1,2,3,4,5] (.n 73 (.p c1 0) (.n 74 (.p c1 0) (.n 75 (ZB n) (.n 77 (Yz s.kids) (.n 78 (.i i) .r))))) [9,8] [b1,b2] (dx 6 (Zn none (i:Int) 2 (UD hkb)) (ZZ 3 5 [7,8] (.n 80 (Zr kb0) (.n 81 (.i L.vars.length) .r)) (Z9 9 (dc 9 [0,9,9,9,9,9,9] [] [] (ih kb0 c1 ka kb kc kd ke kf L3 L.vars.length q ob (by rw [<-hE];exact hK.1) (by rw [<-hE,hK.2];exact hbt) (by rw [<-hE,hK.2];simp) (by rw [<-hE,hK.2,Yu];omega) ob) ?_))))))
  rintro _ _ (⟨wa3,wb3,wc3,wd3,we3,wf3,M'1,rfl,rfl,ZP⟩|⟨rfl,rfl,Y1⟩)
  ·refine Xd 0 2 [10,11] [(8,.p c1 0),(9,.b true)] (de ?_)
   exact Zc (r2 [0,0,0,0,0,0,0,0,0,0,0,0,0,0] [.p c1 0,.b true] (.inl ⟨c1,wa3,wb3,wc3,wd3,we3,wf3,M'1,rfl,rfl,(by rw [hE];exact ZP)⟩) (lr _))
  refine Xd 0 2 [10,11] [(8,.p c1 0),(9,.b false)] (de ?_)
  exact Zc (r2 [0,0,0,0,0,0,0] [.p c1 0,.b false] (.inr ⟨rfl,rfl,(by rw [hE];exact Y1)⟩) (Zg.tup (.cons (Zg.any _) (.cons (lr _) .nil))))
 have hE:=Z1b (ds:=n.decls) (L:=L) (num:=s.num) (args:=s.args) (i:=i) Ze
 refine ak (aD 12 (Y5 6 12 [0,1,2,3,4,5] (.n 73 (.p c1 0) (.n 74 (.p c1 0) (.n 75 (ZB n) (.n 77 (Yz s.kids) (.n 78 (.i i) .r))))) [15,14] [b1,b2] (dx 6 (Zn none (i:Int) 2 (UD hkb)) (ZZ 3 5 [7,8] (.n 80 (Zr kb0) (.n 81 (.i L.vars.length) .r)) (Z9 9 (dc 9 [0,0,0,0,0,0,0] [] [] (ih kb0 c1 wa1 wb1 wc1 wd1 we1 wf1 L L.vars.length q ob (by rw [<-hE];exact hK.1) (by rw [<-hE,hK.2];exact hbt) (by rw [<-hE,hK.2];simp) (by rw [<-hE,hK.2,Yu];omega) ob) ?_))))))
 rintro _ _ (⟨wa4,wb4,wc4,wd4,we4,wf4,M'2,rfl,rfl,YB⟩|⟨rfl,rfl,YM⟩)
 ·refine Xd 0 2 [10,11] [(8,.p c1 0),(9,.b true)] (de ?_)
  exact Zc (r2 [0,0,0,0,0,0,0,0,0,0,0,0,0,0] [.p c1 0,.b true] (.inl ⟨c1,wa4,wb4,wc4,wd4,we4,wf4,M'2,rfl,rfl,(by rw [hE];exact YB)⟩) (lr _))
 refine Xd 0 2 [10,11] [(8,.p c1 0),(9,.b false)] (de ?_)
 exact Zc (r2 [0,0,0,0,0,0,0] [.p c1 0,.b false] (.inr ⟨rfl,rfl,(by rw [hE];exact YM)⟩) (Zg.tup (.cons (Zg.any _) (.cons (lr _) .nil))))
theorem Z1s (b:Nat) (ga:Hd) (gb:Hd) (gc:Hd) (gd:Hd) (ge:Hd) (gf:Hd) (n:Zx) (s:Z4) (L:ZH) (ln:List Int) (q:Int) (hn:Xf n:=by exact ob) (hk:Xx n.decls L q:=by exact ob) (hf:Av n L.vars s:=by exact ob) (hop:s.op=7∨s.op=8:=by exact ob) (hb:L.vars.length+4*s.sz<=1000000000:=by exact ob) (hq:0<=q/\q+4*s.sz<=999999990:=by exact ob) (hln:ln.length<=4294967296:=by exact ob) (ih:∀(b2:Z5) (c:Nat) (ra:Hd) (rb:Hd) (rc:Hd) (rd:Hd) (re:Hd) (rf:Hd) (M:ZH) (mm:Nat) (p:Int),(b2.sz<s.sz)->(Xx n.decls M p)->(0<=YR n M.vars b2)->(mm<=M.vars.length)->(M.vars.length+4*b2.sz<=1000000000)->(0<=p/\p+4*b2.sz<=999999990)->Zk Tryz.prog 270 [.p c 0,ZB n,Zr b2,.i mm] [.obj c [.h ra,.h rb,.h rc,.h rd,.h re,.h rf,Z0 ln],rV ra M.vars,rV rb M.own,rV rc M.par,rV rd M.con,rV re M.fst,rV rf M.tok] (fun r h=>(∃(wa:Hd) (wb:Hd) (wc:Hd) (wd:Hd) (we:Hd) (wf:Hd) (M':ZH),r=.b true/\h=[.obj c [.h wa,.h wb,.h wc,.h wd,.h we,.h wf,Z0 ln],rV wa M'.vars,rV wb M'.own,rV wc M'.par,rV wd M'.con,rV we M'.fst,rV wf M'.tok]/\VE n ln M mm b2=some M')∨(r=.b false/\h=[]/\VE n ln M mm b2=none))):Zk Tryz.prog 235 [.p b 0,ZB n,Y2 s] [.obj b [.h ga,.h gb,.h gc,.h gd,.h ge,.h gf,Z0 ln],rV ga L.vars,rV gb L.own,rV gc L.par,rV gd L.con,rV ge L.fst,rV gf L.tok] (fun r h=>(∃(wa:Hd) (wb:Hd) (wc:Hd) (wd:Hd) (we:Hd) (wf:Hd) (L':ZH),r=.b true/\h=[.obj b [.h wa,.h wb,.h wc,.h wd,.h we,.h wf,Z0 ln],rV wa L'.vars,rV wb L'.own,rV wc L'.par,rV wd L'.con,rV we L'.fst,rV wf L'.tok]/\AA n ln L s=some L')∨(r=.b false/\h=[]/\AA n ln L s=none)):=by
 obtain ⟨e1,e2,e3,e4,e5⟩:=hk.len
 have Xu:=hn.decls
 have hkz:=Td s
 have haz:=Qa s
 obtain ⟨hk1,hk2,hk3⟩:=hf.kids hop
 obtain ⟨kd,hkd⟩:=Zu (xs:=s.kids) (j:=0) om
 obtain ⟨m0,hm0⟩:=Zu (xs:=X8 n.decls s.op s.num) (j:=0) om
 obtain ⟨x,hxa⟩:=hf.one om
 have ha:s.args[0]? = some x:=by rw [hxa];rfl
 have hx:=hf.args x (by rw [hxa];simp)
 have hgx:=Jd ha
 have hal:=(XM.1 ha).1
 refine ZL 88 Tryz.func235 (ar (iA (ZM n) ?_))
 intro b1
 refine iA (Ye s) ?_
 intro b2
 refine ir 1 [(0,.p b 0),(4,.p b1 0),(5,.p b2 0)] (ie (aq (ar (Xm [(0,.p b 0),(4,.p b1 0),(5,.p b2 0),(23,.b ((s.op==8)&&(!VD L ln x)))] [.obj b [.h ga,.h gb,.h gc,.h gd,.h ge,.h gf,Z0 ln],rV ga L.vars,rV gb L.own,rV gc L.par,rV gd L.con,rV ge L.fst,rV gf L.tok,.obj b2 (Ye s),.obj b1 (ZM n)] ?_ ?_))))
 ·refine iR 4 [(0,.p b 0),(4,.p b1 0),(5,.p b2 0),(15,.b (s.op==8))] [0] [b2] (ib (b:=(s.op==8)) 15 (fun Zb=>?_) (fun Zb=>?_))
  ·have ZP:s.op=8:=(Zh).1 Zb
   refine Y0 3 (.n 16 (.p b 0) (.n 18 (Z0 s.args) (.w .z))) [0] [b2] (Zq (Zn none 0 1 (Y4 ha)) (Z1 1 20 (.i x) (Zz [2,2,2,2,2,2,2] (E1 b ga gb gc gd ge gf L ln x (hlk:=hk.len) (hd:=hk.down)) (Z1 2 23 (.b (!VD L ln x)) (ie ?_)))))
   exact ZK 9 (fw (fr (Zs (!VD L ln x) Zb fl)))
  have Y1:¬(s.op=8):=ZF Zh Zb
  refine Z6 8 (.n 23 (.b false) (.d (.k (.k (.k .z))))) (ie ?_)
  exact wk [2,2,2,2,2,2,2,0,0] (fw (fr (Zs false Zb fl)))
 refine ac ((s.op==8)&&(!VD L ln x)) (p:=(s.op=8)/\(¬(VD L ln x=true))) (YF Zh (Yp Iff.rfl)) (fun Ze=>?_) (fun Ze=>?_)
 ·refine ar (ir 1 [(6,.b false)] (ie ?_))
  exact Zc (r1 [] (.inr ⟨rfl,rfl,(by rw [AA,Zj (by rw [hgx];exact Ze)])⟩))
 have hgo:=P6 (n:=n) (ln:=ln) (L:=L) (s:=s) (by rw [hgx];exact Ze) hkd
 refine ak (ar (iR 3 [(0,.p b 0),(4,.p b1 0),(5,.p b2 0),(25,.p b 0),(26,ZB n),(27,Y2 s)] [8,7] [b1,b2] (ic [0,0,0,0,0,0,0] (LP b ga gb gc gd ge gf n s L ln q 0 kd m0 (hkb:=hkd) (harm:=hm0) (hbt:=(hk3 0 kd m0 hkd hm0)) (ih:=ob)) ?_)))
 rintro _ _ (⟨c1,wa1,wb1,wc1,wd1,we1,wf1,L'1,rfl,rfl,YB⟩|⟨rfl,rfl,YM⟩)
 ·have hone:=YB
  obtain ⟨l1,l2⟩:=LI hn hk hq.1 hf hop hkd hm0 (hk3 0 kd m0 hkd hm0) hone
  refine Yq 5 7 (.p c1 0) 8 (.b true) (ie (aq (ar (Z1 2 32 (.b false) (ie (WV (ak (aq (ar (Z1 1 9 (.i 1) (ie (ab 0 (al (fun m F h=>∃(k:Nat),(1<=k/\k<=s.kids.length)/\(Kb n ln L s.op s.num s.args L'1 (s.kids.drop k) k=Kb n ln L s.op s.num s.args L'1 (s.kids.drop 1) 1)/\F=[(0,.p b 0),(4,.p b1 0),(5,.p b2 0),(7,.p c1 0),(9,.i k)]/\h=[.obj c1 [.h wa1,.h wb1,.h wc1,.h wd1,.h we1,.h wf1,Z0 ln],rV wa1 L'1.vars,rV wb1 L'1.own,rV wc1 L'1.par,rV wd1 L'1.con,rV we1 L'1.fst,rV wf1 L'1.tok,.obj b [.h ga,.h gb,.h gc,.h gd,.h ge,.h gf,Z0 ln],rV ga L.vars,rV gb L.own,rV gc L.par,rV gd L.con,rV ge L.fst,rV gf L.tok,.obj b2 (Ye s),.obj b1 (ZM n)]/\m=s.kids.length-k) _ _ _ ⟨1,ob,ob,rfl,rfl,rfl⟩ (ZK 16 (fq (fc (x:=.i 1) li fl))) ?_)))))))))))))
  rintro m F h ⟨k,Yo,Zp,rfl,rfl,rfl⟩
  refine aq (ar (ZY 3 33 (.i k) 35 (Yz s.kids) [14] [b2] (iw (U1 s.kids) (Z1 1 37 (.b (decide ((k:Int)<(s.kids.length:Int)))) (ie (ZT ((k:Int)<(s.kids.length:Int)) (fun Zl=>?_) (fun Zl=>?_)))))))
  ·obtain ⟨ke,hke⟩:=Zu (xs:=s.kids) (j:=k) om
   obtain ⟨mk,hmk⟩:=Zu (xs:=X8 n.decls s.op s.num) (j:=k) om
   have hcs:=Z1g (n:=n) (ln:=ln) (L:=L) (op:=s.op) (num:=s.num) (args:=s.args) (one:=L'1) hke
   refine ak (aq (ab 1 (ar (Y0 4 (.n 41 (.p b 0) (.n 42 (ZB n) (.n 43 (Y2 s) (.n 44 (.i k) .r)))) [15,14] [b1,b2] (ic [7,7,7,7,7,7,7] (LP b ga gb gc gd ge gf n s L ln q k ke mk (hkb:=hke) (harm:=hmk) (hbt:=(hk3 k ke mk hke hmk)) (ih:=ob)) ?_)))))
   rintro _ _ (⟨c2,wa2,wb2,wc2,wd2,we2,wf2,L'2,rfl,rfl,YX⟩|⟨rfl,rfl,Xv⟩)
   ·have htwo:=YX
    obtain ⟨l3,l4⟩:=LI hn hk hq.1 hf hop hke hmk (hk3 k ke mk hke hmk) htwo
    refine Yq 5 10 (.p c2 0) 11 (.b true) (ie (aD 26 (Y5 15 26 [0,1,2,3,4,5,6,7,8,9,10] (.n 50 (.b false) (.n 54 (.h wb1) (.n 58 (.h wb2) .r))) [14,0] [c1,c2] (Z9 11 (Ku 11 [16,2] [] [] [rV wb1 L'1.own,rV wb2 L'2.own] (Nr L'1.own L'2.own) Di (gL (v:=wb1) 0 (gL (v:=wb2) 1 gN)) (QK (QK KE)) ?_)))))
    rintro _ _ ⟨rfl,rfl⟩
    refine AC [(0,.p b 0),(4,.p b1 0),(5,.p b2 0),(7,.p c1 0),(9,.i k),(73,.b ((!(decide (L'1.own=L'2.own)))||(!(decide (L'1.tok=L'2.tok)))))] [rV wb1 L'1.own,rV wb2 L'2.own,.obj c2 [.h wa2,.h wb2,.h wc2,.h wd2,.h we2,.h wf2,Z0 ln],rV wa2 L'2.vars,rV wc2 L'2.par,rV wd2 L'2.con,rV we2 L'2.fst,rV wf2 L'2.tok,.obj b [.h ga,.h gb,.h gc,.h gd,.h ge,.h gf,Z0 ln],rV ga L.vars,rV gb L.own,rV gc L.par,rV gd L.con,rV ge L.fst,rV gf L.tok,.obj c1 [.h wa1,.h wb1,.h wc1,.h wd1,.h we1,.h wf1,Z0 ln],rV wa1 L'1.vars,rV wc1 L'1.par,rV wd1 L'1.con,rV we1 L'1.fst,rV wf1 L'1.tok,.obj b2 (Ye s),.obj b1 (ZM n)] ?_ ?_
    ·refine Xd 11 14 [12,13,14] [(0,.p b 0),(4,.p b1 0),(5,.p b2 0),(7,.p c1 0),(9,.i k),(10,.p c2 0),(62,.b (!(decide (L'1.own=L'2.own))))] (db (b:=(!(decide (L'1.own=L'2.own)))) 62 (fun Zv=>?_) (fun Zv=>?_))
     ·have Wb:¬(L'1.own=L'2.own):=((Yp dq)).1 Zv
      refine ZZ 0 11 [15,16,17,18,19,20,21,22,23,24,25] (.n 73 (.b true) (.d (.w (.k .z)))) (de ?_)
      exact ZK 23 (fq (fr (Zs true Zv fl)))
     have WE:¬(¬(L'1.own=L'2.own)):=ZF (Yp dq) Zv
     refine Y5 3 11 [15,16,17,18,19,20,21,22] (.n 66 (.h wf1) (.n 70 (.h wf2) (.w (.k (.k .z))))) [15,2] [c1,c2] (Z9 23 (Ku 23 [20,7] [] [] [rV wf1 L'1.tok,rV wf2 L'2.tok] (Nr L'1.tok L'2.tok) Di (gL (v:=wf1) 0 (gL (v:=wf2) 1 gN)) (QK (QK KE)) ?_))
     rintro _ _ ⟨rfl,rfl⟩
     refine ZX 0 2 [24,25] 73 (.b (!(decide (L'1.tok=L'2.tok)))) (de ?_)
     exact wk [2,2,2,2,2,2,2,1,1,1,1,1,1,1,1,1,1,1,1,1,0,0,0] (fq (fr (Zs (!(decide (L'1.tok=L'2.tok))) Zv fl)))
    refine ac ((!(decide (L'1.own=L'2.own)))||(!(decide (L'1.tok=L'2.tok)))) (p:=(¬(L'1.own=L'2.own))∨(¬(L'1.tok=L'2.tok))) (Yc (Yp dq) (Yp dq)) (fun ZI=>?_) (fun ZI=>?_)
    ·refine ar (ir 1 [(6,.b false)] (ie ?_))
     exact Zc (r1 [] (.inr ⟨rfl,rfl,(by rw [hgo,hone];exact M1 (by rw [<-Zp,hcs,htwo];exact Z4f ZI))⟩))
    refine ak (az (ir 1 [(0,.p b 0),(4,.p b1 0),(5,.p b2 0),(7,.p c1 0),(38,.i k)] (ZO k (Z1 1 9 (.i (k+1:Nat)) (ie ?_)))))
    exact ZU ⟨k+1,ob,(by rw [hcs,htwo,Z4g ZI] at Zp;exact Zp),rfl,rfl,rfl⟩ (wk [15,15,0,14,14,14,14,7,7,7,7,7,7,7,7,7] (fq (ZW k fl)))
   have htwo:=Xv
   refine Z1 5 11 (.b false) (ie (aD 26 (ZX 0 26 [0,1,2,3,4,5,6,7,8,9,10,11,12,13,14,15,16,17,18,19,20,21,22,23,24,25] 73 (.b true) (de (WW (ar (ir 1 [(6,.b false)] (ie ?_))))))))
   exact Zc (r1 [] (.inr ⟨rfl,rfl,(by rw [hgo,hone];exact M1 (by rw [<-Zp,hcs,htwo];rfl))⟩))
  have hE:Kb n ln L s.op s.num s.args L'1 (s.kids.drop 1) 1=true:=by rw [<-Zp,Xz om,Kb]
  refine ax 0 (ar (ZY 7 78 (.h wb1) 80 (.p b 1) [0] [c1] (ZG 7 b [.h ga,.h wb1,.h gc,.h gd,.h ge,.h gf,Z0 ln] (ie (ar (iR 7 [(85,.h wf1),(87,.p b 5)] [1] [c1] (ZG 0 b [.h ga,.h wb1,.h gc,.h gd,.h ge,.h wf1,Z0 ln] (ie (ar (ir 1 [(6,.b true)] (ie ?_)))))))))))
  exact Zc (r1 [0,7,2,7,7,7,5] (.inl ⟨ga,wb1,gc,gd,ge,wf1,(ZH.mk L.vars L'1.own L.par L.con L.fst L'1.tok),rfl,rfl,(by rw [hgo,hone];exact Z28 hE)⟩) (eq:=(rc (rv (xs:=L.vars) ob (rv (xs:=L'1.own) ob (rv (xs:=L.par) ob (rv (xs:=L.con) ob (rv (xs:=L.fst) ob (rv (xs:=L'1.tok) ob rz)))))))))
 have hone:=YM
 refine Z1 5 8 (.b false) (ie (aq (ar (Z1 2 32 (.b true) (ie (WW (ar (ir 1 [(6,.b false)] (ie ?_)))))))))
 exact Zc (r1 [] (.inr ⟨rfl,rfl,(by rw [hgo,hone];rfl)⟩))
theorem LQ (b:Nat) (ga:Hd) (gb:Hd) (gc:Hd) (gd:Hd) (ge:Hd) (gf:Hd) (n:Zx) (s:Z4) (L:ZH) (ln:List Int) (q:Int) (hn:Xf n:=by exact ob) (hk:Xx n.decls L q:=by exact ob) (ht:0<=ZJ n L.vars s:=by exact ob) (hb:L.vars.length+4*s.sz<=1000000000:=by exact ob) (hq:0<=q/\q+4*s.sz<=999999990:=by exact ob) (hln:ln.length<=4294967296:=by exact ob) (ih:∀(b2:Z5) (c:Nat) (ra:Hd) (rb:Hd) (rc:Hd) (rd:Hd) (re:Hd) (rf:Hd) (M:ZH) (mm:Nat) (p:Int),(b2.sz<s.sz)->(Xx n.decls M p)->(0<=YR n M.vars b2)->(mm<=M.vars.length)->(M.vars.length+4*b2.sz<=1000000000)->(0<=p/\p+4*b2.sz<=999999990)->Zk Tryz.prog 270 [.p c 0,ZB n,Zr b2,.i mm] [.obj c [.h ra,.h rb,.h rc,.h rd,.h re,.h rf,Z0 ln],rV ra M.vars,rV rb M.own,rV rc M.par,rV rd M.con,rV re M.fst,rV rf M.tok] (fun r h=>(∃(wa:Hd) (wb:Hd) (wc:Hd) (wd:Hd) (we:Hd) (wf:Hd) (M':ZH),r=.b true/\h=[.obj c [.h wa,.h wb,.h wc,.h wd,.h we,.h wf,Z0 ln],rV wa M'.vars,rV wb M'.own,rV wc M'.par,rV wd M'.con,rV we M'.fst,rV wf M'.tok]/\VE n ln M mm b2=some M')∨(r=.b false/\h=[]/\VE n ln M mm b2=none))):Zk Tryz.prog 204 [.p b 0,ZB n,Y2 s] [.obj b [.h ga,.h gb,.h gc,.h gd,.h ge,.h gf,Z0 ln],rV ga L.vars,rV gb L.own,rV gc L.par,rV gd L.con,rV ge L.fst,rV gf L.tok] (fun r h=>(∃(wa:Hd) (wb:Hd) (wc:Hd) (wd:Hd) (we:Hd) (wf:Hd) (L':ZH),r=.b true/\h=[.obj b [.h wa,.h wb,.h wc,.h wd,.h we,.h wf,Z0 ln],rV wa L'.vars,rV wb L'.own,rV wc L'.par,rV wd L'.con,rV we L'.fst,rV wf L'.tok]/\TK n ln L s=some L')∨(r=.b false/\h=[]/\TK n ln L s=none)):=by
 obtain ⟨e1,e2,e3,e4,e5⟩:=hk.len
 have Xu:=hn.decls
 have hkz:=Td s
 have haz:=Qa s
 have hf:=NK ht
 refine ZL 89 Tryz.func204 (ar (iA (ZM n) ?_))
 intro b1
 refine iA (Ye s) ?_
 intro b2
 refine ir 1 [(0,.p b 0),(4,.p b1 0),(5,.p b2 0)] (ie (aD 8 (Y5 2 8 [0,1,2,3,4,5] (.n 9 (ZB n) (.n 13 (.h ga) (.n 14 (Y2 s) .r))) [1,2,0] [b1,b,b2] (Z9 6 (Ku 6 [3] [] [] [rV ga L.vars] (Hh n L.vars s ob ob) Di (gS (gL (v:=ga) 0 (gS gN))) (QK KE) ?_)))))
 rintro _ _ ⟨rfl,rfl⟩
 refine ZX 0 1 [7] 7 (.i (ZJ n L.vars s)) (de (ar (Z6 1 .r (ie (aq (ar (Yn 2 17 (.i s.op) [1] [b2] (ie (ab 0 (ar (Z1 2 22 (.b (s.op==14)) (ie (ac (s.op==14) Zh (fun Ze=>?_) (fun Ze=>?_))))))))))))))
 ·obtain ⟨x,hxa⟩:=hf.one om
  have ha:s.args[0]? = some x:=by rw [hxa];rfl
  have hx:=hf.args x (by rw [hxa];simp)
  have hgx:=Jd ha
  have hal:=(XM.1 ha).1
  obtain ⟨xo,hxo⟩:=Zu (xs:=L.own) (j:=x.toNat) om
  have hgo:=UV hxo
  have hob:=hk.bd xo (Y7 hxo)
  have hon:=hk.nn xo (Y7 hxo)
  refine ar (ZY 3 24 (.p b 0) 26 (Z0 s.args) [1] [b2] (Zq (Zn none 0 1 (Y4 ha)) (Z1 1 28 (.i x) (Zz [3,0,2,2,2,2,2] (E1 b ga gb gc gd ge gf L ln x (hlk:=hk.len) (hd:=hk.down)) (Z1 1 8 (.b (VD L ln x)) (ie (aE 21 (Y5 15 21 [0,1,2,3,4,5] (.n 33 (.h gb) (.n 35 (Z0 s.args) .r)) [0,7] [b,b2] (dx 6 (Zn none 0 1 (Y4 ha)) (Y5 7 14 [7,8,9,10,11,12,13] (.n 37 (.i x) (.n 41 (.h gb) (.n 43 (Z0 s.args) .r))) [0,7] [b,b2] (dx 14 (Zn none 0 1 (Y4 ha)) (ZX 5 6 [15] 45 (.i x) (dx 16 (VB 2 gb L.own x x.toNat (hq:=rfl)) (VP 17 (Tv 2 gb L.own x.toNat xo hxo) (da 18 ((xo+1)) ((xo)+(1)) (dx 19 (VB 2 gb L.own x x.toNat (hq:=rfl)) (Z9 20 (JU 20 2 [] [] gb L.own x.toNat (xo+1) (de (aq (ar (Z1 2 73 (.b (!VD L ln x)) (ie (ac (!VD L ln x) (p:=¬(VD L ln x=true)) (Yp Iff.rfl) (fun Zl=>?_) (fun Zl=>?_)))))))))))))))))))))))))
  ·have hP:=(Mx (n:=n) (ln:=ln) (L:=L) Ze hgx).trans (PW Zl)
   refine ar (ir 1 [(6,.b false)] (ie ?_))
   exact Zc (r1 [] (.inr ⟨rfl,rfl,(by rw [UA,hP];first|rfl|exact Us (by assumption)|exact Ut (by assumption) (by assumption)|exact Uu (by assumption))⟩))
  have hP:=(Mx (n:=n) (ln:=ln) (L:=L) Ze hgx).trans (PX Zl hgo)
  obtain ⟨kx,hxv⟩:=CI hn hk hq.1 hf hP
  refine ak (aq (ar (Yn 2 75 (.i s.op) [7] [b2] (Zz [] (QU s.op) (Xm [(0,.p b 0),(5,.p b2 0),(7,.i (ZJ n L.vars s)),(80,.b (X3 s.op&&((ZJ n L.vars s) != 0)))] [rV gb (L.own.set x.toNat (xo+1)),.obj b [.h ga,.h gb,.h gc,.h gd,.h ge,.h gf,Z0 ln],rV ga L.vars,rV gc L.par,rV gd L.con,rV ge L.fst,rV gf L.tok,.obj b2 (Ye s),.obj b1 (ZM n)] ?_ ?_)))))
  ·refine ir 1 [(0,.p b 0),(5,.p b2 0),(7,.i (ZJ n L.vars s)),(77,.b (X3 s.op))] (ib (b:=X3 s.op) 77 (fun Zb=>?_) (fun Zb=>?_))
   ·have ZP:X3 s.op=true:=(Iff.rfl).1 Zb
    refine Z6 3 (.n 80 (.b ((ZJ n L.vars s) != 0)) (.d (.k (.k (.k .z))))) (ie ?_)
    exact ZK 9 (fw (fr (Zs ((ZJ n L.vars s) != 0) Zb fl)))
   have Y1:¬(X3 s.op=true):=ZF Iff.rfl Zb
   refine Z6 3 (.n 80 (.b false) (.d (.k (.k (.k .z))))) (ie ?_)
   exact ZK 9 (fw (fr (Zs false Zb fl)))
  refine ac (X3 s.op&&((ZJ n L.vars s) != 0)) (p:=(X3 s.op=true)/\((ZJ n L.vars s)≠0)) (YF Iff.rfl Yg) (fun ZI=>?_) (fun ZI=>?_)
  ·refine az (ir 2 [(81,.p b 0),(82,.i (ZJ n L.vars s))] (ic [1,1,0,0,0,0,0] (Qh b ga gb gc gd ge gf (ZH.mk L.vars (L.own.set x.toNat (xo+1)) L.par L.con L.fst L.tok) ln (ZJ n L.vars s) 1 (-1) (hlb:=(by rw [hxv];omega)) (hlk:=kx.len)) ?_))
   rintro _ _ ⟨wa1,wb1,wc1,wd1,we1,wf1,rfl⟩
   refine ie (ar (ir 1 [(6,.b true)] (ie ?_)))
   exact Zc (r1 [0,0,0,0,0,0,0] (.inl ⟨wa1,wb1,wc1,wd1,we1,wf1,((ZH.mk L.vars (L.own.set x.toNat (xo+1)) L.par L.con L.fst L.tok).grow (ZJ n L.vars s) 1 (-1)),rfl,rfl,(by rw [UA,hP];first|rfl|exact Us (by assumption)|exact Ut (by assumption) (by assumption)|exact Uu (by assumption))⟩))
  refine ar (iR 2 [(0,.p b 0),(85,.i s.op)] [7] [b2] (Zz [] (QU s.op) (ie (ac (X3 s.op) Iff.rfl (fun Yi=>?_) (fun Yi=>?_)))))
  ·refine az (ir 1 [(87,.p b 0)] (ic [1,1,0,0,0,0,0] (Qh b ga gb gc gd ge gf (ZH.mk L.vars (L.own.set x.toNat (xo+1)) L.par L.con L.fst L.tok) ln 0 0 (-1) (hlb:=(by rw [hxv];omega)) (hlk:=kx.len)) ?_))
   rintro _ _ ⟨wa2,wb2,wc2,wd2,we2,wf2,rfl⟩
   refine ie (ar (ir 1 [(6,.b true)] (ie ?_)))
   exact Zc (r1 [0,0,0,0,0,0,0] (.inl ⟨wa2,wb2,wc2,wd2,we2,wf2,((ZH.mk L.vars (L.own.set x.toNat (xo+1)) L.par L.con L.fst L.tok).grow 0 0 (-1)),rfl,rfl,(by rw [UA,hP];first|rfl|exact Us (by assumption)|exact Ut (by assumption) (by assumption)|exact Uu (by assumption))⟩))
  refine ak (ar (ir 1 [(6,.b true)] (ie ?_)))
  exact Zc (r1 [1,1,0,0,0,0,0] (.inl ⟨ga,gb,gc,gd,ge,gf,(ZH.mk L.vars (L.own.set x.toNat (xo+1)) L.par L.con L.fst L.tok),rfl,rfl,(by rw [UA,hP];first|rfl|exact Us (by assumption)|exact Ut (by assumption) (by assumption)|exact Uu (by assumption))⟩) (eq:=(rc (rv (xs:=L.vars) ob (rv (xs:=(L.own.set x.toNat (xo+1))) ob (rv (xs:=L.par) ob (rv (xs:=L.con) ob (rv (xs:=L.fst) ob (rv (xs:=L.tok) ob rz)))))))))
 refine ar (Z1 2 50 (.b (s.op==15)) (ie (ac (s.op==15) Zh (fun Xk=>?_) (fun Xk=>?_))))
 ·obtain ⟨x,hxa⟩:=hf.one om
  have ha:s.args[0]? = some x:=by rw [hxa];rfl
  have hx:=hf.args x (by rw [hxa];simp)
  have hgx:=Jd ha
  have hal:=(XM.1 ha).1
  refine az (ZY 3 52 (.p b 0) 54 (Z0 s.args) [1] [b2] (Zq (Zn none 0 1 (Y4 ha)) (Z1 1 56 (.i x) (ic [3,0,2,2,2,2,2] (E2 b ga gb gc gd ge gf L ln x (hlk:=hk.len) (hq:=(fun y hy=>⟨hk.nn y hy,by have:=hk.bd y hy;omega⟩))) ?_))))
  rintro _ _ (⟨wa3,wb3,wc3,wd3,we3,wf3,L'1,rfl,rfl,YB⟩|⟨rfl,rfl,YM⟩)
  ·have hP:=(My (n:=n) (ln:=ln) (L:=L) Xk hgx).trans (YB)
   obtain ⟨kx,hxv⟩:=CI hn hk hq.1 hf hP
   refine Z1 1 8 (.b true) (ie (aq (ar (Z1 2 73 (.b false) (ie (WV (ak (aq (ar (Yn 2 75 (.i s.op) [7] [b2] (Zz [] (QU s.op) (Xm [(0,.p b 0),(5,.p b2 0),(7,.i (ZJ n L.vars s)),(80,.b (X3 s.op&&((ZJ n L.vars s) != 0)))] [.obj b [.h wa3,.h wb3,.h wc3,.h wd3,.h we3,.h wf3,Z0 ln],rV wa3 L'1.vars,rV wb3 L'1.own,rV wc3 L'1.par,rV wd3 L'1.con,rV we3 L'1.fst,rV wf3 L'1.tok,.obj b2 (Ye s),.obj b1 (ZM n)] ?_ ?_))))))))))))
   ·refine ir 1 [(0,.p b 0),(5,.p b2 0),(7,.i (ZJ n L.vars s)),(77,.b (X3 s.op))] (ib (b:=X3 s.op) 77 (fun Zv=>?_) (fun Zv=>?_))
    ·have YX:X3 s.op=true:=(Iff.rfl).1 Zv
     refine Z6 3 (.n 80 (.b ((ZJ n L.vars s) != 0)) (.d (.k (.k (.k .z))))) (ie ?_)
     exact ZK 9 (fw (fr (Zs ((ZJ n L.vars s) != 0) Zv fl)))
    have Xv:¬(X3 s.op=true):=ZF Iff.rfl Zv
    refine Z6 3 (.n 80 (.b false) (.d (.k (.k (.k .z))))) (ie ?_)
    exact ZK 9 (fw (fr (Zs false Zv fl)))
   refine ac (X3 s.op&&((ZJ n L.vars s) != 0)) (p:=(X3 s.op=true)/\((ZJ n L.vars s)≠0)) (YF Iff.rfl Yg) (fun Xl=>?_) (fun Xl=>?_)
   ·refine az (ir 2 [(81,.p b 0),(82,.i (ZJ n L.vars s))] (ic [0,0,0,0,0,0,0] (Qh b wa3 wb3 wc3 wd3 we3 wf3 L'1 ln (ZJ n L.vars s) 1 (-1) (hlb:=(by rw [hxv];omega)) (hlk:=kx.len)) ?_))
    rintro _ _ ⟨wa4,wb4,wc4,wd4,we4,wf4,rfl⟩
    refine ie (ar (ir 1 [(6,.b true)] (ie ?_)))
    exact Zc (r1 [0,0,0,0,0,0,0] (.inl ⟨wa4,wb4,wc4,wd4,we4,wf4,(L'1.grow (ZJ n L.vars s) 1 (-1)),rfl,rfl,(by rw [UA,hP];first|rfl|exact Us (by assumption)|exact Ut (by assumption) (by assumption)|exact Uu (by assumption))⟩))
   refine ar (iR 2 [(0,.p b 0),(85,.i s.op)] [7] [b2] (Zz [] (QU s.op) (ie (ac (X3 s.op) Iff.rfl (fun Vv=>?_) (fun Vv=>?_)))))
   ·refine az (ir 1 [(87,.p b 0)] (ic [0,0,0,0,0,0,0] (Qh b wa3 wb3 wc3 wd3 we3 wf3 L'1 ln 0 0 (-1) (hlb:=(by rw [hxv];omega)) (hlk:=kx.len)) ?_))
    rintro _ _ ⟨wa5,wb5,wc5,wd5,we5,wf5,rfl⟩
    refine ie (ar (ir 1 [(6,.b true)] (ie ?_)))
    exact Zc (r1 [0,0,0,0,0,0,0] (.inl ⟨wa5,wb5,wc5,wd5,we5,wf5,(L'1.grow 0 0 (-1)),rfl,rfl,(by rw [UA,hP];first|rfl|exact Us (by assumption)|exact Ut (by assumption) (by assumption)|exact Uu (by assumption))⟩))
   refine ak (ar (ir 1 [(6,.b true)] (ie ?_)))
   exact Zc (r1 [0,0,0,0,0,0,0] (.inl ⟨wa3,wb3,wc3,wd3,we3,wf3,L'1,rfl,rfl,(by rw [UA,hP];first|rfl|exact Us (by assumption)|exact Ut (by assumption) (by assumption)|exact Uu (by assumption))⟩))
  have hP:=(My (n:=n) (ln:=ln) (L:=L) Xk hgx).trans (YM)
  refine Z1 1 8 (.b false) (ie (aq (ar (Z1 2 73 (.b true) (ie (WW (ar (ir 1 [(6,.b false)] (ie ?_)))))))))
  exact Zc (r1 [] (.inr ⟨rfl,rfl,(by rw [UA,hP];first|rfl|exact Us (by assumption)|exact Ut (by assumption) (by assumption)|exact Uu (by assumption))⟩))
 refine aq (ar (Z1 2 58 (.b (s.op==16)) (ie (XJ (fun F h=>F=[(0,.p b 0),(4,.p b1 0),(5,.p b2 0),(7,.i (ZJ n L.vars s)),(17,.i s.op),(58,.b ((s.op==16)||(s.op==17)))]/\h=[rV ga L.vars,.obj b2 (Ye s),.obj b1 (ZM n),.obj b [.h ga,.h gb,.h gc,.h gd,.h ge,.h gf,Z0 ln],rV gb L.own,rV gc L.par,rV gd L.con,rV ge L.fst,rV gf L.tok]) ?_ ?_))))
 ·refine ac (s.op==16) Zh (fun Vq=>?_) (fun Vq=>?_)
  ·refine ak ?_
   exact ZV ⟨rfl,rfl⟩ (ZK 9 (fq (fr (fc (x:=.b (s.op==16)) (lb (by first|rfl|(rw [Zj Vq])|(rw [Za Vq])|(simp [Vq];done)|(rw [Xo];simp [Vq];done)|omega)) fl))))
  refine az (ir 2 [(0,.p b 0),(4,.p b1 0),(5,.p b2 0),(7,.i (ZJ n L.vars s)),(17,.i s.op),(58,.b (s.op==17))] (ie ?_))
  exact ZV ⟨rfl,rfl⟩ (ZK 9 (fq (fr (fc (x:=.b (s.op==17)) (lb (by first|rfl|(rw [Zj Vq])|(rw [Za Vq])|(simp [Vq];done)|(rw [Xo];simp [Vq];done)|omega)) fl))))
 rintro F h ⟨rfl,rfl⟩
 refine ac ((s.op==16)||(s.op==17)) (p:=(s.op=16)∨(s.op=17)) (Yc Zh Zh) (fun VH=>?_) (fun VH=>?_)
 ·obtain ⟨x,hxa⟩:=hf.one om
  have ha:s.args[0]? = some x:=by rw [hxa];rfl
  have hx:=hf.args x (by rw [hxa];simp)
  have hgx:=Jd ha
  have hal:=(XM.1 ha).1
  refine az (iR 3 [(0,.p b 0),(5,.p b2 0),(7,.i (ZJ n L.vars s)),(61,.p b 0),(62,ZB n),(63,Y2 s)] [2,1] [b1,b2] (ic [3,0,2,2,2,2,2] (Z1v b ga gb gc gd ge gf n s L ln q x) ?_))
  rintro _ _ (⟨wa6,wb6,wc6,wd6,we6,wf6,L'2,rfl,rfl,Wb⟩|⟨rfl,rfl,WE⟩)
  ·have hP:=(Mz (n:=n) (ln:=ln) (L:=L) VH hgx).trans (Wb)
   obtain ⟨kx,hxv⟩:=CI hn hk hq.1 hf hP
   refine Z1 1 8 (.b true) (ie (aq (ar (Z1 2 73 (.b false) (ie (WV (ak (aq (ar (Yn 2 75 (.i s.op) [7] [b2] (Zz [] (QU s.op) (Xm [(0,.p b 0),(5,.p b2 0),(7,.i (ZJ n L.vars s)),(80,.b (X3 s.op&&((ZJ n L.vars s) != 0)))] [.obj b [.h wa6,.h wb6,.h wc6,.h wd6,.h we6,.h wf6,Z0 ln],rV wa6 L'2.vars,rV wb6 L'2.own,rV wc6 L'2.par,rV wd6 L'2.con,rV we6 L'2.fst,rV wf6 L'2.tok,.obj b2 (Ye s),.obj b1 (ZM n)] ?_ ?_))))))))))))
   ·refine ir 1 [(0,.p b 0),(5,.p b2 0),(7,.i (ZJ n L.vars s)),(77,.b (X3 s.op))] (ib (b:=X3 s.op) 77 (fun Yx=>?_) (fun Yx=>?_))
    ·have WR:X3 s.op=true:=(Iff.rfl).1 Yx
     refine Z6 3 (.n 80 (.b ((ZJ n L.vars s) != 0)) (.d (.k (.k (.k .z))))) (ie ?_)
     exact ZK 9 (fw (fr (Zs ((ZJ n L.vars s) != 0) Yx fl)))
    have Uc:¬(X3 s.op=true):=ZF Iff.rfl Yx
    refine Z6 3 (.n 80 (.b false) (.d (.k (.k (.k .z))))) (ie ?_)
    exact ZK 9 (fw (fr (Zs false Yx fl)))
   refine ac (X3 s.op&&((ZJ n L.vars s) != 0)) (p:=(X3 s.op=true)/\((ZJ n L.vars s)≠0)) (YF Iff.rfl Yg) (fun UG=>?_) (fun UG=>?_)
   ·refine az (ir 2 [(81,.p b 0),(82,.i (ZJ n L.vars s))] (ic [0,0,0,0,0,0,0] (Qh b wa6 wb6 wc6 wd6 we6 wf6 L'2 ln (ZJ n L.vars s) 1 (-1) (hlb:=(by rw [hxv];omega)) (hlk:=kx.len)) ?_))
    rintro _ _ ⟨wa7,wb7,wc7,wd7,we7,wf7,rfl⟩
    refine ie (ar (ir 1 [(6,.b true)] (ie ?_)))
    exact Zc (r1 [0,0,0,0,0,0,0] (.inl ⟨wa7,wb7,wc7,wd7,we7,wf7,(L'2.grow (ZJ n L.vars s) 1 (-1)),rfl,rfl,(by rw [UA,hP];first|rfl|exact Us (by assumption)|exact Ut (by assumption) (by assumption)|exact Uu (by assumption))⟩))
   refine ar (iR 2 [(0,.p b 0),(85,.i s.op)] [7] [b2] (Zz [] (QU s.op) (ie (ac (X3 s.op) Iff.rfl (fun K9=>?_) (fun K9=>?_)))))
   ·refine az (ir 1 [(87,.p b 0)] (ic [0,0,0,0,0,0,0] (Qh b wa6 wb6 wc6 wd6 we6 wf6 L'2 ln 0 0 (-1) (hlb:=(by rw [hxv];omega)) (hlk:=kx.len)) ?_))
    rintro _ _ ⟨wa8,wb8,wc8,wd8,we8,wf8,rfl⟩
    refine ie (ar (ir 1 [(6,.b true)] (ie ?_)))
    exact Zc (r1 [0,0,0,0,0,0,0] (.inl ⟨wa8,wb8,wc8,wd8,we8,wf8,(L'2.grow 0 0 (-1)),rfl,rfl,(by rw [UA,hP];first|rfl|exact Us (by assumption)|exact Ut (by assumption) (by assumption)|exact Uu (by assumption))⟩))
   refine ak (ar (ir 1 [(6,.b true)] (ie ?_)))
   exact Zc (r1 [0,0,0,0,0,0,0] (.inl ⟨wa6,wb6,wc6,wd6,we6,wf6,L'2,rfl,rfl,(by rw [UA,hP];first|rfl|exact Us (by assumption)|exact Ut (by assumption) (by assumption)|exact Uu (by assumption))⟩))
  have hP:=(Mz (n:=n) (ln:=ln) (L:=L) VH hgx).trans (WE)
  refine Z1 1 8 (.b false) (ie (aq (ar (Z1 2 73 (.b true) (ie (WW (ar (ir 1 [(6,.b false)] (ie ?_)))))))))
  exact Zc (r1 [] (.inr ⟨rfl,rfl,(by rw [UA,hP];first|rfl|exact Us (by assumption)|exact Ut (by assumption) (by assumption)|exact Uu (by assumption))⟩))
 refine aq (ar (ir 2 [(0,.p b 0),(4,.p b1 0),(5,.p b2 0),(7,.i (ZJ n L.vars s)),(17,.i s.op),(65,.b (s.op==7))] (ie (XJ (fun F h=>F=[(0,.p b 0),(4,.p b1 0),(5,.p b2 0),(7,.i (ZJ n L.vars s)),(65,.b ((s.op==7)||(s.op==8)))]/\h=[rV ga L.vars,.obj b2 (Ye s),.obj b1 (ZM n),.obj b [.h ga,.h gb,.h gc,.h gd,.h ge,.h gf,Z0 ln],rV gb L.own,rV gc L.par,rV gd L.con,rV ge L.fst,rV gf L.tok]) ?_ ?_))))
 ·refine ac (s.op==7) Zh (fun T9=>?_) (fun T9=>?_)
  ·refine ak ?_
   exact ZV ⟨rfl,rfl⟩ (ZK 9 (fq (fc (x:=.b (s.op==7)) (lb (by first|rfl|(rw [Zj T9])|(rw [Za T9])|(simp [T9];done)|(rw [Xo];simp [T9];done)|omega)) fl)))
  refine az (ir 2 [(0,.p b 0),(4,.p b1 0),(5,.p b2 0),(7,.i (ZJ n L.vars s)),(65,.b (s.op==8))] (ie ?_))
  exact ZV ⟨rfl,rfl⟩ (ZK 9 (fq (fc (x:=.b (s.op==8)) (lb (by first|rfl|(rw [Zj T9])|(rw [Za T9])|(simp [T9];done)|(rw [Xo];simp [T9];done)|omega)) fl)))
 rintro F h ⟨rfl,rfl⟩
 refine ac ((s.op==7)||(s.op==8)) (p:=(s.op=7)∨(s.op=8)) (Yc Zh Zh) (fun QE=>?_) (fun QE=>?_)
 ·refine az (iR 3 [(0,.p b 0),(5,.p b2 0),(7,.i (ZJ n L.vars s)),(68,.p b 0),(69,ZB n),(70,Y2 s)] [2,1] [b1,b2] (ic [3,0,2,2,2,2,2] (Z1s b ga gb gc gd ge gf n s L ln q (ih:=ob)) ?_))
  rintro _ _ (⟨wa9,wb9,wc9,wd9,we9,wf9,L'3,rfl,rfl,UH⟩|⟨rfl,rfl,Uv⟩)
  ·have hP:=(MA (n:=n) (ln:=ln) (L:=L) QE).trans (UH)
   obtain ⟨kx,hxv⟩:=CI hn hk hq.1 hf hP
   refine Z1 1 8 (.b true) (ie (aq (ar (Z1 2 73 (.b false) (ie (WV (ak (aq (ar (Yn 2 75 (.i s.op) [7] [b2] (Zz [] (QU s.op) (Xm [(0,.p b 0),(5,.p b2 0),(7,.i (ZJ n L.vars s)),(80,.b (X3 s.op&&((ZJ n L.vars s) != 0)))] [.obj b [.h wa9,.h wb9,.h wc9,.h wd9,.h we9,.h wf9,Z0 ln],rV wa9 L'3.vars,rV wb9 L'3.own,rV wc9 L'3.par,rV wd9 L'3.con,rV we9 L'3.fst,rV wf9 L'3.tok,.obj b2 (Ye s),.obj b1 (ZM n)] ?_ ?_))))))))))))
   ·refine ir 1 [(0,.p b 0),(5,.p b2 0),(7,.i (ZJ n L.vars s)),(77,.b (X3 s.op))] (ib (b:=X3 s.op) 77 (fun Xh=>?_) (fun Xh=>?_))
    ·have Tt:X3 s.op=true:=(Iff.rfl).1 Xh
     refine Z6 3 (.n 80 (.b ((ZJ n L.vars s) != 0)) (.d (.k (.k (.k .z))))) (ie ?_)
     exact ZK 9 (fw (fr (Zs ((ZJ n L.vars s) != 0) Xh fl)))
    have Ta:¬(X3 s.op=true):=ZF Iff.rfl Xh
    refine Z6 3 (.n 80 (.b false) (.d (.k (.k (.k .z))))) (ie ?_)
    exact ZK 9 (fw (fr (Zs false Xh fl)))
   refine ac (X3 s.op&&((ZJ n L.vars s) != 0)) (p:=(X3 s.op=true)/\((ZJ n L.vars s)≠0)) (YF Iff.rfl Yg) (fun AP=>?_) (fun AP=>?_)
   ·refine az (ir 2 [(81,.p b 0),(82,.i (ZJ n L.vars s))] (ic [0,0,0,0,0,0,0] (Qh b wa9 wb9 wc9 wd9 we9 wf9 L'3 ln (ZJ n L.vars s) 1 (-1) (hlb:=(by rw [hxv];omega)) (hlk:=kx.len)) ?_))
    rintro _ _ ⟨wa10,wb10,wc10,wd10,we10,wf10,rfl⟩
    refine ie (ar (ir 1 [(6,.b true)] (ie ?_)))
    exact Zc (r1 [0,0,0,0,0,0,0] (.inl ⟨wa10,wb10,wc10,wd10,we10,wf10,(L'3.grow (ZJ n L.vars s) 1 (-1)),rfl,rfl,(by rw [UA,hP];first|rfl|exact Us (by assumption)|exact Ut (by assumption) (by assumption)|exact Uu (by assumption))⟩))
   refine ar (iR 2 [(0,.p b 0),(85,.i s.op)] [7] [b2] (Zz [] (QU s.op) (ie (ac (X3 s.op) Iff.rfl (fun G8=>?_) (fun G8=>?_)))))
   ·refine az (ir 1 [(87,.p b 0)] (ic [0,0,0,0,0,0,0] (Qh b wa9 wb9 wc9 wd9 we9 wf9 L'3 ln 0 0 (-1) (hlb:=(by rw [hxv];omega)) (hlk:=kx.len)) ?_))
    rintro _ _ ⟨wa11,wb11,wc11,wd11,we11,wf11,rfl⟩
    refine ie (ar (ir 1 [(6,.b true)] (ie ?_)))
    exact Zc (r1 [0,0,0,0,0,0,0] (.inl ⟨wa11,wb11,wc11,wd11,we11,wf11,(L'3.grow 0 0 (-1)),rfl,rfl,(by rw [UA,hP];first|rfl|exact Us (by assumption)|exact Ut (by assumption) (by assumption)|exact Uu (by assumption))⟩))
   refine ak (ar (ir 1 [(6,.b true)] (ie ?_)))
   exact Zc (r1 [0,0,0,0,0,0,0] (.inl ⟨wa9,wb9,wc9,wd9,we9,wf9,L'3,rfl,rfl,(by rw [UA,hP];first|rfl|exact Us (by assumption)|exact Ut (by assumption) (by assumption)|exact Uu (by assumption))⟩))
  have hP:=(MA (n:=n) (ln:=ln) (L:=L) QE).trans (Uv)
  refine Z1 1 8 (.b false) (ie (aq (ar (Z1 2 73 (.b true) (ie (WW (ar (ir 1 [(6,.b false)] (ie ?_)))))))))
  exact Zc (r1 [] (.inr ⟨rfl,rfl,(by rw [UA,hP];first|rfl|exact Us (by assumption)|exact Ut (by assumption) (by assumption)|exact Uu (by assumption))⟩))
 refine az (iR 3 [(0,.p b 0),(5,.p b2 0),(7,.i (ZJ n L.vars s)),(18,.p b 0),(19,ZB n),(20,Y2 s)] [2,1] [b1,b2] (ic [3,0,2,2,2,2,2] (Z1u b ga gb gc gd ge gf n s L ln q (hnum:=hf.num) (hargs:=hf.args) (hinto:=(fun q=>(hf.into om).2))) ?_))
 rintro _ _ (⟨wa12,wb12,wc12,wd12,we12,wf12,L'4,rfl,rfl,QF⟩|⟨rfl,rfl,QG⟩)
 ·have hP:=(MB (n:=n) (ln:=ln) (L:=L) Ze Xk VH QE).trans (QF)
  obtain ⟨kx,hxv⟩:=CI hn hk hq.1 hf hP
  refine Z1 1 8 (.b true) (ie (aq (ar (Z1 2 73 (.b false) (ie (WV (ak (aq (ar (Yn 2 75 (.i s.op) [7] [b2] (Zz [] (QU s.op) (Xm [(0,.p b 0),(5,.p b2 0),(7,.i (ZJ n L.vars s)),(80,.b (X3 s.op&&((ZJ n L.vars s) != 0)))] [.obj b [.h wa12,.h wb12,.h wc12,.h wd12,.h we12,.h wf12,Z0 ln],rV wa12 L'4.vars,rV wb12 L'4.own,rV wc12 L'4.par,rV wd12 L'4.con,rV we12 L'4.fst,rV wf12 L'4.tok,.obj b2 (Ye s),.obj b1 (ZM n)] ?_ ?_))))))))))))
  ·refine ir 1 [(0,.p b 0),(5,.p b2 0),(7,.i (ZJ n L.vars s)),(77,.b (X3 s.op))] (ib (b:=X3 s.op) 77 (fun W9=>?_) (fun W9=>?_))
   ·have Jk:X3 s.op=true:=(Iff.rfl).1 W9
    refine Z6 3 (.n 80 (.b ((ZJ n L.vars s) != 0)) (.d (.k (.k (.k .z))))) (ie ?_)
    exact ZK 9 (fw (fr (Zs ((ZJ n L.vars s) != 0) W9 fl)))
   have QH:¬(X3 s.op=true):=ZF Iff.rfl W9
   refine Z6 3 (.n 80 (.b false) (.d (.k (.k (.k .z))))) (ie ?_)
   exact ZK 9 (fw (fr (Zs false W9 fl)))
  refine ac (X3 s.op&&((ZJ n L.vars s) != 0)) (p:=(X3 s.op=true)/\((ZJ n L.vars s)≠0)) (YF Iff.rfl Yg) (fun G9=>?_) (fun G9=>?_)
  ·refine az (ir 2 [(81,.p b 0),(82,.i (ZJ n L.vars s))] (ic [0,0,0,0,0,0,0] (Qh b wa12 wb12 wc12 wd12 we12 wf12 L'4 ln (ZJ n L.vars s) 1 (-1) (hlb:=(by rw [hxv];omega)) (hlk:=kx.len)) ?_))
   rintro _ _ ⟨wa13,wb13,wc13,wd13,we13,wf13,rfl⟩
   refine ie (ar (ir 1 [(6,.b true)] (ie ?_)))
   exact Zc (r1 [0,0,0,0,0,0,0] (.inl ⟨wa13,wb13,wc13,wd13,we13,wf13,(L'4.grow (ZJ n L.vars s) 1 (-1)),rfl,rfl,(by rw [UA,hP];first|rfl|exact Us (by assumption)|exact Ut (by assumption) (by assumption)|exact Uu (by assumption))⟩))
  refine ar (iR 2 [(0,.p b 0),(85,.i s.op)] [7] [b2] (Zz [] (QU s.op) (ie (ac (X3 s.op) Iff.rfl (fun Ka=>?_) (fun Ka=>?_)))))
  ·refine az (ir 1 [(87,.p b 0)] (ic [0,0,0,0,0,0,0] (Qh b wa12 wb12 wc12 wd12 we12 wf12 L'4 ln 0 0 (-1) (hlb:=(by rw [hxv];omega)) (hlk:=kx.len)) ?_))
   rintro _ _ ⟨wa14,wb14,wc14,wd14,we14,wf14,rfl⟩
   refine ie (ar (ir 1 [(6,.b true)] (ie ?_)))
   exact Zc (r1 [0,0,0,0,0,0,0] (.inl ⟨wa14,wb14,wc14,wd14,we14,wf14,(L'4.grow 0 0 (-1)),rfl,rfl,(by rw [UA,hP];first|rfl|exact Us (by assumption)|exact Ut (by assumption) (by assumption)|exact Uu (by assumption))⟩))
  refine ak (ar (ir 1 [(6,.b true)] (ie ?_)))
  exact Zc (r1 [0,0,0,0,0,0,0] (.inl ⟨wa12,wb12,wc12,wd12,we12,wf12,L'4,rfl,rfl,(by rw [UA,hP];first|rfl|exact Us (by assumption)|exact Ut (by assumption) (by assumption)|exact Uu (by assumption))⟩))
 have hP:=(MB (n:=n) (ln:=ln) (L:=L) Ze Xk VH QE).trans (QG)
 refine Z1 1 8 (.b false) (ie (aq (ar (Z1 2 73 (.b true) (ie (WW (ar (ir 1 [(6,.b false)] (ie ?_)))))))))
 exact Zc (r1 [] (.inr ⟨rfl,rfl,(by rw [UA,hP];first|rfl|exact Us (by assumption)|exact Ut (by assumption) (by assumption)|exact Uu (by assumption))⟩))
theorem Z1q (c:Nat) (ga:Hd) (gb:Hd) (gc:Hd) (gd:Hd) (ge:Hd) (gf:Hd) (n:Zx) (b:Z5) (L:ZH) (ln:List Int) (q:Int) (mm:Nat) (hn:Xf n) (hk:Xx n.decls L q) (ht:0<=YR n L.vars b) (hm:mm<=L.vars.length) (hb:L.vars.length+4*b.sz<=1000000000) (hq:0<=q/\q+4*b.sz<=999999990) (hln:ln.length<=4294967296) (ih:∀(s2:Z4) (c:Nat) (ra:Hd) (rb:Hd) (rc:Hd) (rd:Hd) (re:Hd) (rf:Hd) (M:ZH) (p:Int),(s2.sz<b.sz)->(Xx n.decls M p)->(0<=ZJ n M.vars s2)->(M.vars.length+4*s2.sz<=1000000000)->(0<=p/\p+4*s2.sz<=999999990)->Zk Tryz.prog 204 [.p c 0,ZB n,Y2 s2] [.obj c [.h ra,.h rb,.h rc,.h rd,.h re,.h rf,Z0 ln],rV ra M.vars,rV rb M.own,rV rc M.par,rV rd M.con,rV re M.fst,rV rf M.tok] (fun r h=>(∃(wa:Hd) (wb:Hd) (wc:Hd) (wd:Hd) (we:Hd) (wf:Hd) (M':ZH),r=.b true/\h=[.obj c [.h wa,.h wb,.h wc,.h wd,.h we,.h wf,Z0 ln],rV wa M'.vars,rV wb M'.own,rV wc M'.par,rV wd M'.con,rV we M'.fst,rV wf M'.tok]/\TK n ln M s2=some M')∨(r=.b false/\h=[]/\TK n ln M s2=none))):Zk Tryz.prog 270 [.p c 0,ZB n,Zr b,.i mm] [.obj c [.h ga,.h gb,.h gc,.h gd,.h ge,.h gf,Z0 ln],rV ga L.vars,rV gb L.own,rV gc L.par,rV gd L.con,rV ge L.fst,rV gf L.tok] (fun r h=>(∃(wa:Hd) (wb:Hd) (wc:Hd) (wd:Hd) (we:Hd) (wf:Hd) (L':ZH),r=.b true/\h=[.obj c [.h wa,.h wb,.h wc,.h wd,.h we,.h wf,Z0 ln],rV wa L'.vars,rV wb L'.own,rV wc L'.par,rV wd L'.con,rV we L'.fst,rV wf L'.tok]/\VE n ln L mm b=some L')∨(r=.b false/\h=[]/\VE n ln L mm b=none)):=by
 have hbz:=b.sz_eq
 obtain ⟨vs,rt,hvs,hres,hrt⟩:=I3 ht
 have hri:=JQ hres
 have XA:=Vz b
 refine ZL 45 Tryz.func270 (ar (iA (ZM n) ?_))
 intro b1
 refine iA (Y8 b) ?_
 intro b2
 refine ir 1 [(0,.p c 0),(3,.i mm),(5,.p b1 0),(6,.p b2 0)] (ie (aq (ar (Z1 1 9 (.i 0) (ie (ab 0 (al (fun m F h=>∃(k:Nat) (q2:Int) (L2:ZH) (ka:Hd) (kb:Hd) (kc:Hd) (kd:Hd) (ke:Hd) (kf:Hd),(k<=b.steps.length)/\(Xx n.decls L2 q2)/\(0<=q2/\q2+4*Yk (b.steps.drop k)<=999999990)/\(L2.vars.length+4*Yk (b.steps.drop k)<=1000000000)/\(Wh n (b.steps.drop k) L2.vars=some vs)/\(Kg n ln L2 (b.steps.drop k)=Kg n ln L b.steps)/\(L.vars.length<=L2.vars.length)/\F=[(0,.p c 0),(3,.i mm),(5,.p b1 0),(6,.p b2 0),(9,.i k)]/\h=[.obj b2 (Y8 b),.obj b1 (ZM n),.obj c [.h ka,.h kb,.h kc,.h kd,.h ke,.h kf,Z0 ln],rV ka L2.vars,rV kb L2.own,rV kc L2.par,rV kd L2.con,rV ke L2.fst,rV kf L2.tok]/\m=b.steps.length-k) _ _ _ ⟨0,q,L,ga,gb,gc,gd,ge,gf,ob,hk,(by rw [JA];omega),(by rw [JA];omega),hvs,rfl,om,rfl,rfl,rfl⟩ (ZK 9 (fq (Yh fl))) ?_)))))))
 rintro m F h ⟨k,q2,L2,ka,kb,kc,kd,ke,kf,Yo,Zp,ZA,YJ,Wf,J4,Z7u,rfl,rfl,rfl⟩
 refine aq (ar (ZY 3 10 (.i k) 12 (Ya b.steps) [0] [b2] (iw (Vp b.steps) (Z1 1 14 (.b (decide ((k:Int)<(b.steps.length:Int)))) (ie (ZT ((k:Int)<(b.steps.length:Int)) (fun Ze=>?_) (fun Ze=>?_)))))))
 ·obtain ⟨s1,hs1⟩:=Zu (xs:=b.steps) (j:=k) om
  have hss:=KQ hs1
  have hdr:=Yd hs1
  have hz:Yk (b.steps.drop k)=s1.sz+Yk (b.steps.drop (k+1)):=by rw [hdr,Yk]
  rw [hdr] at Wf J4
  obtain ⟨g1,g2⟩:=NP Wf
  refine ak (aq (ab 1 (aD 9 (Y5 4 9 [0,1,2,3,4] (.n 17 (.p c 0) (.n 18 (ZB n) (.n 20 (Ya b.steps) (.n 21 (.i k) .r)))) [1,0] [b1,b2] (dx 5 (Zn none (k:Int) 5 (Ww hs1)) (ZX 2 3 [6] 23 (Y2 s1) (Z9 7 (dc 7 [2,2,2,2,2,2,2] [] [] (ih s1 c ka kb kc kd ke kf L2 q2 ob Zp g1 om om) ?_))))))))
  rintro _ _ (⟨wa1,wb1,wc1,wd1,we1,wf1,M'1,rfl,rfl,ZP⟩|⟨rfl,rfl,Y1⟩)
  ·have hP:=ZP
   have kx:=NJ hn Zp ZA.1 g1 hP
   refine ZX 0 1 [8] 25 (.b false) (de (WV (ak (az (Z1 1 15 (.i k) (ZO k (ir 1 [(0,.p c 0),(3,.i mm),(5,.p b1 0),(6,.p b2 0),(9,.i (k+1:Nat))] (ie ?_))))))))
   exact ZU ⟨k+1,(q2+4*s1.sz),M'1,wa1,wb1,wc1,wd1,we1,wf1,ob,kx.1,om,(by rw [kx.2];have:=N4 n L2.vars s1;omega),(by rw [kx.2];exact g2),(by rw [<-J4,Kg,hP];rfl),(by rw [kx.2];have:=N4 n L2.vars s1;omega),rfl,rfl,rfl⟩ (wk [7,7,0,0,0,0,0,0,0] (fq (ZW k fl)))
  have hP:=Y1
  refine ZX 0 1 [8] 25 (.b true) (de (WW (ar (ir 1 [(8,.b false)] (ie ?_)))))
  exact Zc (r1 [] (.inr ⟨rfl,rfl,(by rw [F6,<-J4,Kg,hP];rfl)⟩))
 rw [Xz om] at Wf J4
 have hvv:L2.vars=vs:=by rw [Wh] at Wf;exact JE Wf
 have hB:VE n ln L mm b=Ky mm b.result L2:=by rw [F6,<-J4,Kg];rfl
 obtain ⟨xr,hxr⟩:=Zu (xs:=L2.vars) (j:=b.result.toNat) (by rw [hvv];omega)
 have hgr:=UV hxr
 have hrl:0<=b.result/\b.result<L2.vars.length:=by rw [hvv];omega
 rw [Wh] at Wf
 refine ax 0 (aq (aD 16 (Y5 10 16 [0,1,2,3,4,5] (.n 29 (.h ka) (.n 31 (.i b.result) .r)) [2,0] [c,b2] (dx 6 (VB 3 ka L2.vars b.result b.result.toNat (hq:=rfl)) (VP 7 (Tv 3 ka L2.vars b.result.toNat xr hxr) (ZX 6 8 [8,9] 35 (.b (xr != 0)) (db (b:=(xr != 0)) 35 (fun Zb=>?_) (fun Zb=>?_))))))))
 ·have YB:xr≠0:=(Yg).1 Zb
  refine Y5 3 6 [10,11,12] (.n 36 (.p c 0) (.n 38 (.i b.result) (.k (.d .r)))) [0] [b2] (Z9 13 (dc 13 [2,2,2,2,2,2,2] [] [] (E2 c ka kb kc kd ke kf L2 ln b.result (hlk:=Zp.len) (hq:=(fun y hy=>⟨Zp.nn y hy,by have:=Zp.bd y hy;omega⟩))) ?_))
  rintro _ _ (⟨wa2,wb2,wc2,wd2,we2,wf2,L'1,rfl,rfl,YM⟩|⟨rfl,rfl,YX⟩)
  ·have hE:=hB.trans (Rj hgr (by assumption) YM)
   have kx:=Zp.take YM
   have hxv:L'1.vars.length=L2.vars.length:=by rw [(Kh YM).2.1]
   refine ZX 0 2 [14,15] 41 (.b false) (de (WV (ak (ar (ir 2 [(42,.p c 0),(43,.i mm)] (ic [0,0,0,0,0,0,0] (LO c wa2 wb2 wc2 wd2 we2 wf2 L'1 ln mm (hlk:=(by first|exact kx.len|exact Zp.len)) (hlb:=om) (hm:=om)) ?_))))))
   rintro _ _ (⟨wa3,wb3,wc3,wd3,we3,wf3,L'2,rfl,rfl,Xv⟩|⟨rfl,rfl,Wb⟩)
   ·refine ir 1 [(8,.b true)] (ie ?_)
    exact Zc (r1 [0,0,0,0,0,0,0] (.inl ⟨wa3,wb3,wc3,wd3,we3,wf3,L'2,rfl,rfl,(by first|exact hE|(rw [hE];exact Xv)|(rw [hB,C9 hgr (by assumption)];exact Xv))⟩))
   refine ir 1 [(8,.b false)] (ie ?_)
   exact Zc (r1 [] (.inr ⟨rfl,rfl,(by first|exact hE|(rw [hE];exact Wb)|(rw [hB,C9 hgr (by assumption)];exact Wb))⟩))
  have hE:=hB.trans (Ri hgr (by assumption) YX)
  refine ZX 0 2 [14,15] 41 (.b true) (de (WW (ar (ir 1 [(8,.b false)] (ie ?_)))))
  exact Zc (r1 [] (.inr ⟨rfl,rfl,(by first|exact hE|(rw [hE];exact YX)|(rw [hB,C9 hgr (by assumption)];exact YX))⟩))
 have WE:¬(xr≠0):=ZF Yg Zb
 refine ZZ 0 6 [10,11,12,13,14,15] (.n 41 (.b false) (.k (.d .r))) (de (WV (ak (ar (ir 2 [(42,.p c 0),(43,.i mm)] (ic [2,2,2,2,2,2,2] (LO c ka kb kc kd ke kf L2 ln mm (hlk:=(by first|exact kx.len|exact Zp.len)) (hlb:=om) (hm:=om)) ?_))))))
 rintro _ _ (⟨wa4,wb4,wc4,wd4,we4,wf4,L'3,rfl,rfl,WR⟩|⟨rfl,rfl,Uc⟩)
 ·refine ir 1 [(8,.b true)] (ie ?_)
  exact Zc (r1 [0,0,0,0,0,0,0] (.inl ⟨wa4,wb4,wc4,wd4,we4,wf4,L'3,rfl,rfl,(by first|exact hE|(rw [hE];exact WR)|(rw [hB,C9 hgr (by assumption)];exact WR))⟩))
 refine ir 1 [(8,.b false)] (ie ?_)
 exact Zc (r1 [] (.inr ⟨rfl,rfl,(by first|exact hE|(rw [hE];exact Uc)|(rw [hB,C9 hgr (by assumption)];exact Uc))⟩))
theorem Z1r (n:Zx) (ln:List Int) (hn:Xf n) (hln:ln.length<=4294967296) (m:Nat):∀(b2:Z5) (c:Nat) (ra:Hd) (rb:Hd) (rc:Hd) (rd:Hd) (re:Hd) (rf:Hd) (M:ZH) (mm:Nat) (p:Int),(b2.sz<m+1)->(Xx n.decls M p)->(0<=YR n M.vars b2)->(mm<=M.vars.length)->(M.vars.length+4*b2.sz<=1000000000)->(0<=p/\p+4*b2.sz<=999999990)->Zk Tryz.prog 270 [.p c 0,ZB n,Zr b2,.i mm] [.obj c [.h ra,.h rb,.h rc,.h rd,.h re,.h rf,Z0 ln],rV ra M.vars,rV rb M.own,rV rc M.par,rV rd M.con,rV re M.fst,rV rf M.tok] (fun r h=>(∃(wa:Hd) (wb:Hd) (wc:Hd) (wd:Hd) (we:Hd) (wf:Hd) (M':ZH),r=.b true/\h=[.obj c [.h wa,.h wb,.h wc,.h wd,.h we,.h wf,Z0 ln],rV wa M'.vars,rV wb M'.own,rV wc M'.par,rV wd M'.con,rV we M'.fst,rV wf M'.tok]/\VE n ln M mm b2=some M')∨(r=.b false/\h=[]/\VE n ln M mm b2=none)):=by
 induction m with
 | zero=>intro b c ga gb gc gd ge gf L mm q h;have:=b.sz_pos;omega
 | succ m ih=>
  intro b c ga gb gc gd ge gf L mm q h1 hk ht hm hb hp
  exact Z1q c ga gb gc gd ge gf n b L ln q mm hn hk ht hm hb hp hln fun s c ga gb gc gd ge gf L q h2 hk ht hb hp=>LQ c ga gb gc gd ge gf n s L ln q hn hk ht hb hp hln
   fun b2 c ga gb gc gd ge gf L mm q h3 hk ht hm hb hp=>ih b2 c ga gb gc gd ge gf L mm q om hk ht hm hb hp
theorem Z1x (n:Zx) (ln:List Int) (hn:Xf n) (hln:ln.length<=4294967296) (m:Nat):∀(s2:Z4) (c:Nat) (ra:Hd) (rb:Hd) (rc:Hd) (rd:Hd) (re:Hd) (rf:Hd) (M:ZH) (p:Int),(s2.sz<m+1)->(Xx n.decls M p)->(0<=ZJ n M.vars s2)->(M.vars.length+4*s2.sz<=1000000000)->(0<=p/\p+4*s2.sz<=999999990)->Zk Tryz.prog 204 [.p c 0,ZB n,Y2 s2] [.obj c [.h ra,.h rb,.h rc,.h rd,.h re,.h rf,Z0 ln],rV ra M.vars,rV rb M.own,rV rc M.par,rV rd M.con,rV re M.fst,rV rf M.tok] (fun r h=>(∃(wa:Hd) (wb:Hd) (wc:Hd) (wd:Hd) (we:Hd) (wf:Hd) (M':ZH),r=.b true/\h=[.obj c [.h wa,.h wb,.h wc,.h wd,.h we,.h wf,Z0 ln],rV wa M'.vars,rV wb M'.own,rV wc M'.par,rV wd M'.con,rV we M'.fst,rV wf M'.tok]/\TK n ln M s2=some M')∨(r=.b false/\h=[]/\TK n ln M s2=none)):=by
 intro s c ga gb gc gd ge gf L q h2 hk ht hb hp
 exact LQ c ga gb gc gd ge gf n s L ln q hn hk ht hb hp hln fun b2 c ga gb gc gd ge gf L mm q h3 hk ht hm hb hp=>Z1r n ln hn hln m b2 c ga gb gc gd ge gf L mm q om hk ht hm hb hp
theorem Z1w (c:Nat) (ra:Hd) (rb:Hd) (rc:Hd) (rd:Hd) (re:Hd) (rf:Hd) (n:Zx) (s2:Z4) (M:ZH) (ln:List Int) (p:Int) (hn:Xf n) (hln:ln.length<=4294967296) (hk:Xx n.decls M p) (ht:0<=ZJ n M.vars s2) (hb:M.vars.length+4*s2.sz<=1000000000) (hp:0<=p/\p+4*s2.sz<=999999990):Zk Tryz.prog 204 [.p c 0,ZB n,Y2 s2] [.obj c [.h ra,.h rb,.h rc,.h rd,.h re,.h rf,Z0 ln],rV ra M.vars,rV rb M.own,rV rc M.par,rV rd M.con,rV re M.fst,rV rf M.tok] (fun r h=>(∃(wa:Hd) (wb:Hd) (wc:Hd) (wd:Hd) (we:Hd) (wf:Hd) (M':ZH),r=.b true/\h=[.obj c [.h wa,.h wb,.h wc,.h wd,.h we,.h wf,Z0 ln],rV wa M'.vars,rV wb M'.own,rV wc M'.par,rV wd M'.con,rV we M'.fst,rV wf M'.tok]/\TK n ln M s2=some M')∨(r=.b false/\h=[]/\TK n ln M s2=none)):=Z1x n ln hn hln s2.sz s2 c ra rb rc rd re rf M p om hk ht hb hp
theorem Z5e (rt:Yj) (hp:rt.params.length<=1000000:=by exact ob) (hl:rt.lent.length<=4294967296:=by exact ob):Zk Tryz.prog 203 [Vi rt] [] (fun r h=>∃(c:Nat) (wa:Hd) (wb:Hd) (wc:Hd) (wd:Hd) (we:Hd) (wf:Hd),r=.p c 0/\h=[.obj c [.h wa,.h wb,.h wc,.h wd,.h we,.h wf,Z0 rt.lent],rV wa ((QN rt).vars),rV wb ((QN rt).own),rV wc ((QN rt).par),rV wd ((QN rt).con),rV we ((QN rt).fst),rV wf ((QN rt).tok)]):=by
 refine ZL 45 Tryz.func203 (ar (iA (UK rt) ?_))
 intro b1
 refine ir 1 [(1,.p b1 0)] (ie (ar (Yn 2 6 (Z0 rt.lent) [0] [b1] (ic [] (VJ rt.lent) ?_))))
 rintro _ _ ⟨v1,rfl,rfl⟩
 refine Z1 1 8 (.agg [nl,nl,nl,nl,nl,nl,Z0 rt.lent]) (iA [nl,nl,nl,nl,nl,nl,Z0 rt.lent] ?_)
 intro b2
 refine XL (Z6u 0 b2 [nl,nl,nl,nl,nl,nl,Z0 rt.lent] [.h hN,.h hN,.h hN,.h hN,.h hN,.h hN,Z0 rt.lent] (.cons (Zg.hd (v:=hN)) (.cons (Zg.hd (v:=hN)) (.cons (Zg.hd (v:=hN)) (.cons (Zg.hd (v:=hN)) (.cons (Zg.hd (v:=hN)) (.cons (Zg.hd (v:=hN)) (.cons (lr _) .nil)))))))) (XL (B5) (XL (B5) (XL (B5) (XL (B5) (XL (B5) (XL (B5) (Z1 1 3 (.p b2 0) (ie (aq (ar (Z1 1 4 (.i 0) (ie (ab 0 (al (fun m F h=>∃(k:Nat) (L2:ZH) (ka:Hd) (kb:Hd) (kc:Hd) (kd:Hd) (ke:Hd) (kf:Hd),(k<=rt.params.length)/\(U6 L2)/\(L2.vars.length=k)/\(Jt rt.lent (rt.params.drop k) k L2=QN rt)/\F=[(1,.p b1 0),(3,.p b2 0),(4,.i k)]/\h=[.obj b2 [.h ka,.h kb,.h kc,.h kd,.h ke,.h kf,Z0 rt.lent],.obj b1 (UK rt),rV ka L2.vars,rV kb L2.own,rV kc L2.par,rV kd L2.con,rV ke L2.fst,rV kf L2.tok]/\m=rt.params.length-k) _ _ _ ⟨0,(ZH.mk [] [] [] [] [] []),hN,hN,hN,hN,hN,hN,ob,⟨rfl,rfl,rfl,rfl,rfl⟩,rfl,rfl,rfl,rfl,rfl⟩ (wk [6,7,0,0,0,0,0,0] (fw (Yh fl)) (e:=(rc (rc (rv (xs:=[]) ob (rv (xs:=[]) ob (rv (xs:=[]) ob (rv (xs:=[]) ob (rv (xs:=[]) ob (rv (xs:=[]) ob rz)))))))))) ?_))))))))))))))
 rintro m F h ⟨k,L2,ka,kb,kc,kd,ke,kf,Yo,Zp,ZA,YJ,rfl,rfl,rfl⟩
 refine aq (ar (ZY 3 10 (.i k) 12 (Z0 rt.params) [1] [b1] (iw (Yf rt.params) (Z1 1 14 (.b (decide ((k:Int)<(rt.params.length:Int)))) (ie (ZT ((k:Int)<(rt.params.length:Int)) (fun Ze=>?_) (fun Ze=>?_)))))))
 ·refine ak (aq (ab 1 (ar (ZY 3 18 (Z0 rt.params) 19 (.i k) [1] [b1] ?_))))
  obtain ⟨x1,Z3⟩:=Zu (xs:=rt.params) (j:=k) om
  refine Zq (Zn none (k:Int) 1 (Y4 Z3)) (Xm [(1,.p b1 0),(3,.p b2 0),(4,.i k),(29,.b ((x1 != 0)&&(!(decide ((k:Int)∈rt.lent)))))] [.obj b2 [.h ka,.h kb,.h kc,.h kd,.h ke,.h kf,Z0 rt.lent],.obj b1 (UK rt),rV ka L2.vars,rV kb L2.own,rV kc L2.par,rV kd L2.con,rV ke L2.fst,rV kf L2.tok] ?_ ?_)
  ·refine ir 3 [(1,.p b1 0),(3,.p b2 0),(4,.i k),(23,.b (x1 != 0))] (ib (b:=(x1 != 0)) 23 (fun Zb=>?_) (fun Zb=>?_))
   ·have ZP:x1≠0:=(Yg).1 Zb
    refine Y0 3 (.n 25 (Z0 rt.lent) (.n 26 (.i k) (.w .z))) [1] [b1] (Zz [] (U3 rt.lent (k:Int)) (Z1 2 29 (.b (!(decide ((k:Int)∈rt.lent)))) (ie ?_)))
    exact ZK 8 (fw (fr (Zs (!(decide ((k:Int)∈rt.lent))) Zb fl)))
   have Y1:¬(x1≠0):=ZF Yg Zb
   refine Z6 6 (.n 29 (.b false) (.d (.k (.k (.k .z))))) (ie ?_)
   exact ZK 8 (fw (fr (Zs false Zb fl)))
  refine ac ((x1 != 0)&&(!(decide ((k:Int)∈rt.lent)))) (p:=(x1≠0)/\(¬((k:Int)∈rt.lent))) (YF Yg (Yp dq)) (fun Zl=>?_) (fun Zl=>?_)
  ·refine az (iR 4 [(1,.p b1 0),(3,.p b2 0),(4,.i k),(30,.p b2 0),(32,Z0 rt.params),(33,.i k)] [1] [b1] (Zq (Zn none (k:Int) 1 (Y4 Z3)) (Z1 1 35 (.i x1) (ic [0,1,1,1,1,1,1] (Qh b2 ka kb kc kd ke kf L2 rt.lent x1 1 (-1) (hlk:=Zp)) ?_))))
   rintro _ _ ⟨wa1,wb1,wc1,wd1,we1,wf1,rfl⟩
   refine ie (az (Z6 1 (.n 15 (.i k) (.p .r)) (ZO k (ir 1 [(1,.p b1 0),(3,.p b2 0),(4,.i (k+1:Nat))] (ie ?_)))))
   exact ZU ⟨k+1,(L2.grow x1 1 (-1)),wa1,wb1,wc1,wd1,we1,wf1,ob,(U6.grow Zp),(by simp [ZH.grow];omega),(by rw [Yd Z3,Jt] at YJ;first|(rw [Zj Zl] at YJ;exact YJ)|(rw [Za Zl] at YJ;exact YJ)),rfl,rfl,rfl⟩ (wk [0,6,0,0,0,0,0,0] (fw (ZW k fl)))
  refine az (iR 4 [(1,.p b1 0),(3,.p b2 0),(4,.i k),(37,.p b2 0),(39,Z0 rt.params),(40,.i k)] [1] [b1] (Zq (Zn none (k:Int) 1 (Y4 Z3)) (Z1 1 42 (.i x1) (ic [0,1,1,1,1,1,1] (Qh b2 ka kb kc kd ke kf L2 rt.lent x1 0 (-1) (hlk:=Zp)) ?_))))
  rintro _ _ ⟨wa2,wb2,wc2,wd2,we2,wf2,rfl⟩
  refine ie (az (Z6 1 (.n 15 (.i k) (.p .r)) (ZO k (ir 1 [(1,.p b1 0),(3,.p b2 0),(4,.i (k+1:Nat))] (ie ?_)))))
  exact ZU ⟨k+1,(L2.grow x1 0 (-1)),wa2,wb2,wc2,wd2,we2,wf2,ob,(U6.grow Zp),(by simp [ZH.grow];omega),(by rw [Yd Z3,Jt] at YJ;first|(rw [Zj Zl] at YJ;exact YJ)|(rw [Za Zl] at YJ;exact YJ)),rfl,rfl,rfl⟩ (wk [0,6,0,0,0,0,0,0] (fw (ZW k fl)))
 refine ax 0 (ar (ir 2 [(2,.p b2 0)] (ie ?_)))
 have hNl:L2=QN rt:=by rw [<-YJ,Xz om];rfl
 exact Zc (r1 [0,1,1,1,1,1,1] ⟨b2,ka,kb,kc,kd,ke,kf,rfl,rfl⟩ (eq:=(rc (rv (xs:=L2.vars) (by rw [hNl]) (rv (xs:=L2.own) (by rw [hNl]) (rv (xs:=L2.par) (by rw [hNl]) (rv (xs:=L2.con) (by rw [hNl]) (rv (xs:=L2.fst) (by rw [hNl]) (rv (xs:=L2.tok) (by rw [hNl]) rz)))))))))
theorem Sh (n:Zx) (f0:Nat) (k0:Nat) (rt:Yj) (hz:Qw n:=by exact ob) (hr:n.routines[f0]? = some rt:=by exact ob) (hk0:k0<=rt.body.steps.length:=by exact ob):Zk Tryz.prog 161 [ZB n,.i f0,.i k0] [] (fun r h=>(∃(c:Nat) (wa:Hd) (wb:Hd) (wc:Hd) (wd:Hd) (we:Hd) (wf:Hd) (L:ZH) (q:Int),r=.tup [.p c 0,.b true]/\h=[.obj c [.h wa,.h wb,.h wc,.h wd,.h we,.h wf,Z0 rt.lent],rV wa L.vars,rV wb L.own,rV wc L.par,rV wd L.con,rV we L.fst,rV wf L.tok]/\Xx n.decls L q/\L.vars.length=rt.params.length+YN (rt.body.steps.take k0)/\L.vars.length<=500000000/\rt.lent.length<=4194304)∨(r=.tup [.any,.b false]/\h=[]/\True)):=by
 have hzl:=hz.len
 have hfl:=(XM.1 hr).1
 have hrm:=Y7 hr
 have hbz:=hz.body _ hrm
 have ZD:=Vz rt.body
 have hbe:=rt.body.sz_eq
 obtain ⟨hk,hkv⟩:=Z2d n.decls rt
 refine ZL 64 Tryz.func161 (ar (iA (ZM n) ?_))
 intro b1
 refine ir 2 [(1,.i f0),(2,.i k0),(3,.p b1 0)] (ie (aq (ar (Yn 1 10 (ZB n) [0] [b1] (Zz [] (Z5x n) (XH 12 [(1,.i f0),(2,.i k0),(3,.p b1 0),(21,.b ((!UP n)||(!(decide (0<=(f0:Int)/\(f0:Int)<=((n.routines.length:Int)-1))))))] [.obj b1 (ZM n)] ?_ (fun hj1=>?_)))))))
 ·refine Xm [(1,.i f0),(2,.i k0),(3,.p b1 0),(34,.b (((!UP n)||(!(decide (0<=(f0:Int)/\(f0:Int)<=((n.routines.length:Int)-1)))))||(!(decide (0<=(k0:Int)/\(k0:Int)<=(rt.body.steps.length:Int))))))] [.obj b1 (ZM n)] ?_ ?_
  ·refine ir 1 [(1,.i f0),(2,.i k0),(3,.p b1 0),(22,.b ((!UP n)||(!(decide (0<=(f0:Int)/\(f0:Int)<=((n.routines.length:Int)-1))))))] (ib (b:=((!UP n)||(!(decide (0<=(f0:Int)/\(f0:Int)<=((n.routines.length:Int)-1)))))) 22 (fun Zb=>?_) (fun Zb=>?_))
   ·have ZP:(¬(UP n=true))∨(¬(0<=(f0:Int)/\(f0:Int)<=((n.routines.length:Int)-1))):=((Yc (Yp Iff.rfl) (Yp dq))).1 Zb
    refine Z6 12 (.n 34 (.b true) (.d (.k (.k (.k .z))))) (ie ?_)
    exact wk [0] (fw (fr (Zs true Zb fl)))
   have Y1:¬((¬(UP n=true))∨(¬(0<=(f0:Int)/\(f0:Int)<=((n.routines.length:Int)-1)))):=ZF (Yc (Yp Iff.rfl) (Yp dq)) Zb
   refine Y0 4 (.n 23 (.i k0) (.n 25 (X9 n.routines) (.n 26 (.i f0) (.w .z)))) [0] [b1] (Zq (Zn none (f0:Int) 5 (WJ hr)) (Z1 3 30 (Ya rt.body.steps) (iw (Vp rt.body.steps) (Zz [] (Uz (k0:Int) 0 (rt.body.steps.length:Int)) (Z1 2 34 (.b (!(decide (0<=(k0:Int)/\(k0:Int)<=(rt.body.steps.length:Int))))) (ie ?_))))))
   exact wk [0] (fw (fr (Zs (!(decide (0<=(k0:Int)/\(k0:Int)<=(rt.body.steps.length:Int)))) Zb fl)))
  refine ac (((!UP n)||(!(decide (0<=(f0:Int)/\(f0:Int)<=((n.routines.length:Int)-1)))))||(!(decide (0<=(k0:Int)/\(k0:Int)<=(rt.body.steps.length:Int))))) (p:=((¬(UP n=true))∨(¬(0<=(f0:Int)/\(f0:Int)<=((n.routines.length:Int)-1))))∨(¬(0<=(k0:Int)/\(k0:Int)<=(rt.body.steps.length:Int)))) (Yc (Yc (Yp Iff.rfl) (Yp dq)) (Yp dq)) (fun Ze=>?_) (fun Ze=>?_)
  ·refine ar (ir 1 [(35,.agg [.sl [] none,.sl [] none,.sl [] none,.sl [] none,.sl [] none,.sl [] none,.sl [] none])] (iA [.sl [] none,.sl [] none,.sl [] none,.sl [] none,.sl [] none,.sl [] none,.sl [] none] ?_))
   intro b2
   refine ir 2 [(6,.p b2 0),(7,.b false)] (ie ?_)
   exact Zc (r2 [] [.p b2 0,.b false] (.inr ⟨rfl,rfl,(by first|exact True.intro|exact ⟨Zp,by rw [show k0=j by omega];exact J4,by omega,hll⟩)⟩) (Zg.tup (.cons (Zg.any _) (.cons (lr _) .nil))))
  have hV:UP n=true:=B7 fun z=>Ze (.inl (.inl z))
  obtain ⟨hok,hall⟩:=Z79 hz hV
  have hty:=hall rt hrm
  obtain ⟨vs,t0,hvs,hres,hrt0⟩:=I3 hty
  have hpl:=hok.params_at hr
  have hll:=hok.lent_at hr
  refine ak (ar (iR 3 [(1,.i f0),(2,.i k0),(3,.p b1 0),(38,X9 n.routines),(39,.i f0)] [0] [b1] (Zq (Zn none (f0:Int) 5 (WJ hr)) (Z1 1 41 (Vi rt) (ic [] (Z5e rt) ?_)))))
  rintro _ _ ⟨c1,wa1,wb1,wc1,wd1,we1,wf1,rfl,rfl⟩
  refine Z1 1 8 (.p c1 0) (ie (aq (ar (Z1 1 9 (.i 0) (ie (ab 0 (al (fun m F h=>∃(j:Nat) (q2:Int) (L2:ZH) (ka:Hd) (kb:Hd) (kc:Hd) (kd:Hd) (ke:Hd) (kf:Hd),(j<=k0)/\(Xx n.decls L2 q2)/\(0<=q2/\q2+4*Yk (rt.body.steps.drop j)<=999999990)/\(L2.vars.length+4*Yk (rt.body.steps.drop j)<=400000000)/\(Wh n (rt.body.steps.drop j) L2.vars=some vs)/\(L2.vars.length=rt.params.length+YN (rt.body.steps.take j))/\F=[(1,.i f0),(2,.i k0),(3,.p b1 0),(8,.p c1 0),(9,.i j)]/\h=[.obj c1 [.h ka,.h kb,.h kc,.h kd,.h ke,.h kf,Z0 rt.lent],.obj b1 (ZM n),rV ka L2.vars,rV kb L2.own,rV kc L2.par,rV kd L2.con,rV ke L2.fst,rV kf L2.tok]/\m=k0-j) _ _ _ ⟨0,1,(QN rt),wa1,wb1,wc1,wd1,we1,wf1,ob,hk,(by rw [JA];omega),(by rw [JA,hkv];omega),(by rw [JA,hkv];exact hvs),(by rw [hkv];rfl),rfl,rfl,rfl⟩ (wk [0,6,0,0,0,0,0,0] (fq (Yh fl))) ?_)))))))
  rintro m F h ⟨j,q2,L2,ka,kb,kc,kd,ke,kf,Yo,Zp,ZA,YJ,Wf,J4,rfl,rfl,rfl⟩
  refine aq (ar (Z1 3 45 (.b (decide ((j:Int)<(k0:Int)))) (ie (ZT ((j:Int)<(k0:Int)) (fun Zl=>?_) (fun Zl=>?_)))))
  ·obtain ⟨s1,hs1⟩:=Zu (xs:=rt.body.steps) (j:=j) om
   have hss:=KQ hs1
   have hsp:=s1.sz_pos
   have hzd:=NB hs1
   have hdt:=Iq hs1
   have hdr:=Yd hs1
   rw [hdr] at Wf
   obtain ⟨g1,g2⟩:=NP Wf
   refine ak (aq (ab 1 (aD 14 (Y5 9 14 [0,1,2,3,4] (.n 48 (.p c1 0) (.n 49 (ZB n) (.n 51 (X9 n.routines) (.n 52 (.i f0) .r)))) [1,1] [b1,b1] (dx 5 (Zn none (f0:Int) 5 (WJ hr)) (ZZ 4 8 [6,7,8,9] (.n 56 (Ya rt.body.steps) (.n 57 (.i j) .r)) (dx 10 (Zn none (j:Int) 5 (Ww hs1)) (ZX 2 3 [11] 59 (Y2 s1) (Z9 12 (dc 12 [0,1,1,1,1,1,1] [] [] (Z1w c1 ka kb kc kd ke kf n s1 L2 rt.lent q2 hok ob Zp g1 om om) ?_))))))))))
   rintro _ _ (⟨wa2,wb2,wc2,wd2,we2,wf2,M'1,rfl,rfl,YB⟩|⟨rfl,rfl,YM⟩)
   ·have hP:=YB
    have kx:=NJ hok Zp ZA.1 g1 hP
    have hsf:=Z4n g1
    refine ZX 0 1 [13] 61 (.b false) (de (WV (ak (az (Z1 1 46 (.i j) (ZO j (ir 1 [(1,.i f0),(2,.i k0),(3,.p b1 0),(8,.p c1 0),(9,.i (j+1:Nat))] (ie ?_))))))))
    exact ZU ⟨j+1,(q2+4*s1.sz),M'1,wa2,wb2,wc2,wd2,we2,wf2,ob,kx.1,om,(by rw [kx.2,hsf];split<;>omega),(by rw [kx.2];exact g2),(by rw [kx.2,hsf,hdt];split<;>omega),rfl,rfl,rfl⟩ (wk [0,6,0,0,0,0,0,0] (fq (ZW j fl)))
   refine ZX 0 1 [13] 61 (.b true) (de (WW (ar (ir 3 [(6,.p c1 0),(7,.b false)] (ie ?_)))))
   exact Zc (r2 [] [.p c1 0,.b false] (.inr ⟨rfl,rfl,(by first|exact True.intro|exact ⟨Zp,by rw [show k0=j by omega];exact J4,by omega,hll⟩)⟩) (Zg.tup (.cons (Zg.any _) (.cons (lr _) .nil))))
  refine ax 0 (ar (ir 3 [(6,.p c1 0),(7,.b true)] (ie ?_)))
  exact Zc (r2 [0,1,1,1,1,1,1] [.p c1 0,.b true] (.inl ⟨c1,ka,kb,kc,kd,ke,kf,L2,_,rfl,rfl,(by first|exact True.intro|exact ⟨Zp,by rw [show k0=j by omega];exact J4,by omega,hll⟩)⟩) (lr _))
 refine ir 2 [(1,.i f0),(2,.i k0),(3,.p b1 0),(13,.b (!UP n))] (ib (b:=(!UP n)) 13 (fun Zv=>?_) (fun Zv=>?_))
 ·have YX:¬(UP n=true):=((Yp Iff.rfl)).1 Zv
  refine Z6 8 (.n 21 (.b true) (.d (.k (.k (.k .z))))) ?_
  exact YC (wk [0] (fw (fr (Zs true Zv fl)))) hj1
 have Xv:¬(¬(UP n=true)):=ZF (Yp Iff.rfl) Zv
 refine Y0 3 (.n 14 (.i f0) (.n 16 (X9 n.routines) (.w .z))) [0] [b1] (iw (Ur n.routines) (ia (((n.routines.length:Int)-1)) (((n.routines.length:Int))-(1)) (Zz [] (Uz (f0:Int) 0 ((n.routines.length:Int)-1)) (Z1 2 21 (.b (!(decide (0<=(f0:Int)/\(f0:Int)<=((n.routines.length:Int)-1))))) ?_))))
 exact YC (wk [0] (fw (fr (Zs (!(decide (0<=(f0:Int)/\(f0:Int)<=((n.routines.length:Int)-1)))) Zv fl)))) hj1
theorem DJ (b:Z5) (i0:Nat) (s:Z4) (hi:i0<=b.steps.length:=by exact ob) (hz:b.sz<=100000000:=by exact ob):Zk Tryz.prog 87 [Zr b,.i i0,Y2 s] [] (fun r h=>r=Zr (Z5.mk (Wc b.steps i0 s) b.result)/\h=[]):=by
 have ZD:=Vz b
 refine ZL 26 Tryz.func87 (ar (iA (Y8 b) ?_))
 intro b1
 refine iA (Ye s) ?_
 intro b2
 refine iA [nl,.i 0] ?_
 intro b3
 refine ie (ar (iL (Zo []) 0 5 ?_))
 intro v1
 refine iR 3 [(1,.i i0),(3,.p b1 0),(5,.p b2 0),(6,.p b3 0),(8,ZQ [] v1),(10,Ya b.steps),(11,.i i0)] [3] [b1] (Zq (Qo (es:=Zo b.steps) (hv:=none) (l:=0) (m:=(i0:Int)) (sz:=5) (es':=Zo (b.steps.take i0)) kr om (by simp<;>omega) (by simp<;>omega) (YZ _) (by first|(simp only [Vh,WP,TC,TB];done)|(simp only [Vh,WP,TC,TB];rfl)|(simp [TC,TB];done))) (ip 0 (Zo (b.steps.take i0)) (Zo []) (Zo (b.steps.take i0)) v1 none 5 (YZ _) (YZ _) (Ve _) (by simp<;>omega) (by simp [WY]) ?_))
 intro v2
 refine Z1 1 7 (ZQ (b.steps.take i0) v2) (ie (aD 13 (Y5 8 13 [0,1,4,5,6] (.n 14 (ZQ (b.steps.take i0) v2) (.n 15 (Y2 s) (.n 19 (Ya b.steps) (.n 20 (.i i0) .r)))) [2,3] [b2,b1] (dx 7 (Qo (es:=Zo b.steps) (hv:=none) (l:=(i0:Int)) (m:=(((Zo b.steps).length:Nat):Int)) (sz:=5) (es':=Zo (b.steps.drop i0)) kr om (by simp<;>omega) (by simp<;>omega) (YZ _) (by first|(simp only [Vh,WP,TC,TB];done)|(simp only [Vh,WP,TC,TB];rfl)|(simp [TC,TB];done))) (Y5 5 7 [9,10] (.n 24 (.i b.result) .r) [3] [b1] (Z9 2 (dL 2 [2,2] [b1,b1] [Y2 s] 1 5 ?_)))))))
 intro v3
 refine ZZ 4 4 [] (.n 16 (.sl [Y2 s] none) (.p .r)) (Z9 3 (dp 3 1 [2,2] [b1,b1] (Zo ((b.steps.take i0)++[s])) (Zo (b.steps.take i0)) [Y2 s] v2 none 5 (YZ _) (TG rfl) rfl (by simp<;>omega) (by simp [Ws,WY]) ?_))
 intro v4
 refine Z9 8 (dp 8 0 [2] [b1] (Zo (Wc b.steps i0 s)) (Zo ((b.steps.take i0)++[s])) (Zo (b.steps.drop i0)) v4 none 5 (YZ _) (YZ _) (Ve _) (by simp<;>omega) (by simp only [Wc,Ws]) ?_)
 intro v5
 refine ZX 1 2 [11] 25 (.agg [ZQ (Wc b.steps i0 s) v5,.i b.result]) (Z9 12 (YG 12 2 [] [] b3 [ZQ (Wc b.steps i0 s) v5,.i b.result] (de ?_)))
 exact Zc (r3 [] [.agg [ZQ (Wc b.steps i0 s) v5,.i b.result]] [0] [(b3,b3)] ⟨rfl,rfl⟩ (Zg.agg (.cons (Zg.sl _ (Yw Zo rfl)) (.cons li .nil))))
theorem G4 (n:Zx) (f0:Nat) (b:Z5) (rt:Yj) (hr:n.routines[f0]? = some rt:=by exact ob) (hl:n.routines.length<=1000000:=by exact ob) (hp:rt.params.length<=4294967296:=by exact ob) (hl2:rt.lent.length<=4294967296:=by exact ob):Zk Tryz.prog 100 [ZB n,.i f0,Zr b] [] (fun r h=>∃(g:Nat) (c:Nat),r=.agg [Zd n.decls,.ms g 0 n.routines.length c]/\h=[.row (.slice (some ⟨g,0,none⟩) n.routines.length c) 5 (Zm (YL (n.routines.set f0 (Yj.mk rt.params rt.lent rt.result b))))]):=by
 have hfl:=(XM.1 hr).1
 refine ZL 26 Tryz.func100 (ar (iA (ZM n) ?_))
 intro b1
 refine iA (Y8 b) ?_
 intro b2
 refine iA [nl,nl] ?_
 intro b3
 refine ie (ar (DQ 5 ?_))
 intro g1
 refine iR 2 [(1,.i f0),(3,.p b1 0),(5,.p b2 0),(6,.p b3 0),(8,.ms g1 0 0 0),(10,X9 n.routines)] [3] [b1] (iKC 0 g1 5 (YL n.routines) none (Ub _) (by simp<;>omega) ?_)
 intro v1
 refine DO 0 n.routines.length (v:=v1) (DA _) om (fun g2 c1 he1=>?_)
 subst he1
 refine ir 1 [(1,.i f0),(3,.p b1 0),(5,.p b2 0),(6,.p b3 0),(7,.ms g2 0 n.routines.length c1)] (ie (aD 11 (Y5 6 11 [0,1,2,3,4] (.n 12 (.ms g2 0 n.routines.length c1) (.n 13 (.i f0) (.n 15 (X9 n.routines) (.n 16 (.i f0) .r)))) [3] [b1] (dx 5 (Zn none (f0:Int) 5 (WJ hr)) (Y5 3 5 [6,7] (.n 18 (Vi rt) (.n 19 (Zr b) .r)) [2] [b2] (Z9 8 (Yv 8 [] [] [] (BR rt b) (dx 9 (W5 g2 n.routines.length c1 f0 5 (f0:Int)) (Z9 10 (AB 10 0 [] [] g2 n.routines.length c1 5 (f0*5) (UK (Yj.mk rt.params rt.lent rt.result b)) (Zm (YL n.routines)) (Zm (YL (n.routines.set f0 (Yj.mk rt.params rt.lent rt.result b)))) (by rw [DA];simp only [YQ,Xp];omega) (Rv (Yj.mk rt.params rt.lent rt.result b) hfl) (de (ar (Yn 4 25 (.agg [Zd n.decls,.ms g2 0 n.routines.length c1]) [3] [b1] (ZG 1 b3 [Zd n.decls,.ms g2 0 n.routines.length c1] (ie ?_)))))))))))))))
 exact Zc (r3 [1] [.agg [Zd n.decls,.ms g2 0 n.routines.length c1]] [0] [(b3,b3)] ⟨g2,c1,rfl,rfl⟩ (lr _))
theorem Lf (n:Zx) (f0:Nat) (b:Z5) (rt:Yj) (hr:n.routines[f0]? = some rt:=by exact ob) (hl:n.routines.length<=1000000:=by exact ob) (hp:rt.params.length<=4294967296:=by exact ob) (hl2:rt.lent.length<=4294967296:=by exact ob):Zk Tryz.prog 100 [ZB n,.i f0,Zr b] [] (fun r h=>r=ZB (withR n f0 rt b)/\h=[]):=(Zk.frzN (ds:=n.decls) (rs:=(n.routines.set f0 (Yj.mk rt.params rt.lent rt.result b))) (hs:=[]) ((G4 n f0 b rt hr hl hp hl2).mono fun r h ⟨g,c,e1,e2⟩=>⟨g,c,by rw [e1];simp only [UQ],by rw [e2];simp only [UQ]⟩))
theorem K7 (rd:Nat) (bs:List Int) (p:Nat) (mx:Nat) (ZD:∀z∈bs,0<=z/\z<=255) (hp:p+1<=1000000000:=by exact ob) (hmx:0<mx:=by exact ob):Zk Tryz.prog 50 [.p rd 0,.i mx] [Yl rd bs p] (fun r h=>∃(kn:Nat),r=.i kn/\h=[.obj rd [Xb bs,.i (p+1:Nat)]]/\kn<mx):=(XP rd bs p mx ZD hp).mono fun r h ⟨z,hr,hh,hz⟩=>by
  have h0:=hz.lt om
  exact ⟨z.toNat,by rw [hr,Int.toNat_of_nonneg h0.1],hh,by omega⟩
theorem L5 (rd:Nat) (bs:List Int) (p:Nat) (n:Zx) (ZD:∀z∈bs,0<=z/\z<=255) (hp:p+4<=1000000000:=by exact ob) (hz:Qw n:=by exact ob) (hl1:1<=n.routines.length/\n.routines.length<=1000000:=by exact ob):Zk Tryz.prog 123 [.p rd 0,ZB n] [Yl rd bs p] (fun r h=>∃(n2:Zx) (p2:Nat),r=ZB n2/\h=[Yl rd bs p2]/\ER n n2/\p<=p2/\p2<=p+4):=by
 refine ZL 102 Tryz.func123 (ar (iA (ZM n) ?_))
 intro b1
 refine iA [nl,nl] ?_
 intro b2
 refine ie (ar (iR 3 [(0,.p rd 0),(3,.p b1 0),(4,.p b2 0),(14,.p rd 0),(16,X9 n.routines)] [1] [b1] (iw (Ur n.routines) (ic [2] (K7 rd bs p n.routines.length (ZD:=ob)) ?_))))
 rintro _ _ ⟨Y6,rfl,rfl,ZP⟩
 refine Z1 1 5 (.i Y6) (ie (ar (ZY 3 20 (X9 n.routines) 21 (.i Y6) [2] [b1] ?_)))
 obtain ⟨x1,Z3⟩:=Zu (xs:=n.routines) (j:=Y6) om
 have hrm:=Y7 Z3
 have hbz:=hz.body _ hrm
 have ZD:=Vz (x1).body
 have hpl:=hz.params _ hrm
 have hll:=hz.lent _ hrm
 have hrx:=Z3
 refine Zq (Zn none (Y6:Int) 5 (WJ Z3)) (Z1 2 24 (Zr x1.body) (iA [nl,.i 0] ?_))
 intro b3
 refine ZG 0 b3 (Y8 x1.body) (ie (ar (ZY 3 25 (.p rd 0) 27 (Ya x1.body.steps) [0] [b3] (iw (Vp x1.body.steps) (ia (((x1.body.steps.length+1:Nat):Int)) (((x1.body.steps.length:Int))+(1)) (ic [1] (K7 rd bs (p+1) (x1.body.steps.length+1) (ZD:=ob)) ?_))))))
 rintro _ _ ⟨YD,rfl,rfl,Y1⟩
 refine Z1 1 7 (.i YD) (ie (ar (Y0 3 (.n 32 (ZB n) (.n 33 (.i Y6) (.n 34 (.i YD) .r))) [3] [b1] (ic [] (Sh n Y6 YD x1 (hr:=hrx)) ?_))))
 rintro _ _ (⟨c1,wa1,wb1,wc1,wd1,we1,wf1,L1,q1,rfl,rfl,YB⟩|⟨rfl,rfl,YM⟩)
 ·obtain ⟨hLO,hLv,hLb,hLl⟩:=YB
  have hLn:=hLO.len
  obtain ⟨e1,e2,e3,e4,e5⟩:=hLO.len
  refine Yq 5 8 (.p c1 0) 9 (.b true) (ie (aq (ar (Z1 2 39 (.b false) (ie (WV (ak (ar (iL (Z8 []) 0 1 ?_)))))))))
  intro v1
  refine Z1 1 10 (Z7 [] v1) (ie (aq (ar (Z1 1 11 (.i 0) (ie (ab 0 (al (fun m F h=>∃(k:Nat) (vl:List Int) (u:Value),(k<=L1.vars.length)/\(vl.length<=k)/\(∀v∈vl,0<=v/\v<(L1.vars.length:Int))/\F=[(0,.p rd 0),(3,.p b1 0),(4,.p b2 0),(5,.i Y6),(6,.p b3 0),(7,.i YD),(8,.p c1 0),(10,Z7 vl u),(11,.i k)]/\h=[.obj c1 [.h wa1,.h wb1,.h wc1,.h wd1,.h we1,.h wf1,Z0 x1.lent],rV wa1 L1.vars,rV wb1 L1.own,rV wc1 L1.par,rV wd1 L1.con,rV we1 L1.fst,rV wf1 L1.tok,.obj rd [Xb bs,.i (((p+1)+1:Nat):Int)],.obj b3 (Y8 x1.body),.obj b2 [nl,nl],.obj b1 (ZM n),.tail u 1]/\m=L1.vars.length-k) _ _ _ ⟨0,[],v1,ob,ob,(fun v hv=>by cases hv),rfl,rfl,rfl⟩ (wk [1,1,1,1,1,1,1,1,1,1,1,0] (fq (fq (Yh fl)))) ?_)))))))
  rintro m F h ⟨k,vl,u,Yo,Zp,ZA,rfl,rfl,rfl⟩
  refine aq (ar (ZY 5 42 (.i k) 46 (.h wa1) [0] [c1] (Zq (Jw 1 wa1 L1.vars) (Z1 1 48 (.b (decide ((k:Int)<(L1.vars.length:Int)))) (ie (ZT ((k:Int)<(L1.vars.length:Int)) (fun Ze=>?_) (fun Ze=>?_)))))))
  ·refine ak (aq (ab 1 (ar (ZY 5 54 (.h wa1) 55 (.i k) [0] [c1] (Zq (VB 1 wa1 L1.vars (k:Int) k) ?_)))))
   obtain ⟨x2,Zy⟩:=Zu (xs:=L1.vars) (j:=k) om
   refine VO (Tv 1 wa1 L1.vars k x2 Zy) (Z1 2 59 (.b (x2 != 0)) (ib (b:=(x2 != 0)) 59 (fun Zb=>?_) (fun Zb=>?_)))
   ·have YX:x2≠0:=(Yg).1 Zb
    refine Z6 2 (.n 60 (.p c1 0) (.n 61 (.i k) (.k (.d .r)))) (Zz [0,0,0,0,0,0,0] (E1 c1 wa1 wb1 wc1 wd1 we1 wf1 L1 x1.lent (k:Int) (hlk:=hLO.len) (hd:=hLO.down)) (Z1 1 63 (.b (VD L1 x1.lent (k:Int))) (ie (ac (VD L1 x1.lent (k:Int)) Iff.rfl (fun Zl=>?_) (fun Zl=>?_)))))
    ·refine az (Yq 2 64 (Z7 vl u) 65 (.i k) (iL (Z8 [(k:Int)]) 1 1 ?_))
     intro v2
     refine Z6 0 (.n 66 (Z0 [(k:Int)]) (.p .r)) (ip 12 (Z8 (vl++[(k:Int)])) (Z8 vl) (Z8 [(k:Int)]) u none 1 (YE _) (YE _) (XY _) (by simp<;>omega) (by simp [XX,Z8]) ?_)
     intro v3
     refine Z6 1 (.n 10 (Z7 (vl++[(k:Int)]) v3) (.p (.d (.d (.d (.d (.p (.d (.d (.d (.p (.p (.d (.d (.d (.p (.d (.d (.w (.k (.k (.k (.d .r))))))))))))))))))))))) (ie (az (Z1 1 49 (.i k) (ZO k (Z6 1 (.n 11 (.i (k+1:Nat)) (.p (.d (.w (.w .z))))) (ie ?_))))))
     exact ZU ⟨k+1,(vl++[(k:Int)]),v3,ob,ob,(by first|exact ZA|exact Xr ZA om),rfl,rfl,rfl⟩ (wk [2,2,2,2,2,2,2,2,2,2,2,0] (fq (fq (ZW k fl))))
    refine ak (az (Z1 1 49 (.i k) (ZO k (Z6 1 (.n 11 (.i (k+1:Nat)) (.p (.d (.d (.p (.d (.d (.d (.p (.p (.d (.d (.d (.p (.d (.d (.w (.w .z)))))))))))))))))) (ie ?_)))))
    exact ZU ⟨k+1,vl,u,ob,ob,(by first|exact ZA|exact Xr ZA om),rfl,rfl,rfl⟩ (ZK 12 (fq (fq (ZW k fl))))
   have Xv:¬(x2≠0):=ZF Yg Zb
   refine Z6 4 (.n 63 (.b false) (.k (.d .r))) (ie (WV (ak (az (Z1 1 49 (.i k) (ZO k (Z6 1 (.n 11 (.i (k+1:Nat)) (.p (.d (.d (.d (.p (.p (.d (.d (.d (.p (.d (.d (.w (.w .z))))))))))))))) (ie ?_))))))))
   exact ZU ⟨k+1,vl,u,ob,ob,(by first|exact ZA|exact Xr ZA om),rfl,rfl,rfl⟩ (ZK 12 (fq (fq (ZW k fl))))
  refine ax 0 (aq (ar (Z1 1 68 (Z7 vl u) (iw (Yf vl) (Z1 1 70 (.b ((vl.length:Int)==0)) (ie (ac ((vl.length:Int)==0) Zh (fun ZI=>?_) (fun ZI=>?_))))))))
  ·refine ar (Yn 1 71 (ZB n) [10] [b1] (ZG 9 b2 (ZM n) (ie ?_)))
   exact Zc (r3 [8] [ZB n] [0] [(b2,b2)] ⟨n,(p+1)+1,rfl,rfl,(by first|exact ⟨.inl rfl,by omega,by omega⟩|(have hv:=ZA x3 (Y7 YT);exact ⟨.inr ⟨Y6,x1,YD,YD+UJ,x3,hrx,by omega,by omega,hv.1,by omega,rfl⟩,by omega,by omega⟩))⟩ (lr _))
  refine ak (ar (Z6 3 (.n 72 (Z7 vl u) (.n 73 (.p rd 0) (.n 74 (Z7 vl u) .r))) (iw (Yf vl) (ic [7] (K7 rd bs ((p+1)+1) vl.length (ZD:=ob)) ?_))))
  rintro _ _ ⟨LN,rfl,rfl,Wb⟩
  obtain ⟨x3,YT⟩:=Zu (xs:=vl) (j:=LN) om
  refine Zq (Zn (some u) (LN:Int) 1 (Y4 YT)) (Z1 2 12 (.i x3) (ie (ar (Y0 4 (.n 79 (.i YD) (.n 80 (.p rd 0) (.n 82 (Ya x1.body.steps) .r))) [8] [b3] (iw (Vp x1.body.steps) (Z1 1 84 (.i YD) (ia ((((x1.body.steps.length-YD):Nat):Int)) (((x1.body.steps.length:Int))-((YD:Int))) (ia ((((x1.body.steps.length-YD)+1:Nat):Int)) (((((x1.body.steps.length-YD):Nat):Int))+(1)) (ic [0] (K7 rd bs (((p+1)+1)+1) ((x1.body.steps.length-YD)+1) (ZD:=ob)) ?_)))))))))
  rintro _ _ ⟨UJ,rfl,rfl,WE⟩
  refine ia (((YD+UJ:Nat):Int)) (((YD:Int))+((UJ:Int))) (Z1 1 13 (.i (YD+UJ:Nat)) (ie (aD 6 (Y5 3 6 [0,1,2] (.n 89 (Zr x1.body) (.n 90 (.i (YD+UJ:Nat)) (.n 91 (.i x3) .r))) [8] [b3] (Z9 3 (Yv 3 [] [2] [b3] (KP 15 x3) (Z9 4 (Yv 4 [] [] [] (DJ x1.body (YD+UJ) (Zi 15 x3) (hi:=(by first|omega|(show YD<=(Wc _ _ _).length;rw [MC om];omega))) (hz:=(by first|omega|(rw [Z5.sz,CK];have e:(Zi 15 x3).sz=2:=rfl;have e2:=x1.body.sz_eq;omega)))) (Z9 5 (YG 5 8 [] [] b3 (Y8 (Z5.mk (Wc x1.body.steps (YD+UJ) (Zi 15 x3)) x1.body.result)) (de (aD 9 (W2 4 9 [0,1,2,3,4] [(4,.p b2 0),(94,ZB n),(95,.i Y6),(96,Zr (Z5.mk (Wc x1.body.steps (YD+UJ) (Zi 15 x3)) x1.body.result)),(97,.i YD),(98,.i x3)] [10,0] [b1,b3] (Z9 5 (Yv 5 [] [0,4] [b3,b1] (KP 14 x3) (Z9 6 (Yv 6 [] [4] [b1] (DJ (Z5.mk (Wc x1.body.steps (YD+UJ) (Zi 15 x3)) x1.body.result) YD (Zi 14 x3) (hi:=(by first|omega|(show YD<=(Wc _ _ _).length;rw [MC om];omega))) (hz:=(by first|omega|(rw [Z5.sz,CK];have e:(Zi 15 x3).sz=2:=rfl;have e2:=x1.body.sz_eq;omega)))) (Z9 7 (Yv 7 [] [] [] (Lf n Y6 (Z5.mk (Wc (Z5.mk (Wc x1.body.steps (YD+UJ) (Zi 15 x3)) x1.body.result).steps YD (Zi 14 x3)) (Z5.mk (Wc x1.body.steps (YD+UJ) (Zi 15 x3)) x1.body.result).result) x1 (hr:=hrx)) (Z9 8 (YG 8 9 [] [] b2 (ZM (withR n Y6 x1 (Z5.mk (Wc (Z5.mk (Wc x1.body.steps (YD+UJ) (Zi 15 x3)) x1.body.result).steps YD (Zi 14 x3)) (Z5.mk (Wc x1.body.steps (YD+UJ) (Zi 15 x3)) x1.body.result).result))) (de ?_))))))))))))))))))))))
  exact Zc (r3 [2] [ZB (withR n Y6 x1 (Z5.mk (Wc (Z5.mk (Wc x1.body.steps (YD+UJ) (Zi 15 x3)) x1.body.result).steps YD (Zi 14 x3)) (Z5.mk (Wc x1.body.steps (YD+UJ) (Zi 15 x3)) x1.body.result).result))] [0] [(b2,b2)] ⟨(withR n Y6 x1 (Z5.mk (Wc (Z5.mk (Wc x1.body.steps (YD+UJ) (Zi 15 x3)) x1.body.result).steps YD (Zi 14 x3)) (Z5.mk (Wc x1.body.steps (YD+UJ) (Zi 15 x3)) x1.body.result).result)),(((p+1)+1)+1)+1,rfl,rfl,(by first|exact ⟨.inl rfl,by omega,by omega⟩|(have hv:=ZA x3 (Y7 YT);exact ⟨.inr ⟨Y6,x1,YD,YD+UJ,x3,hrx,by omega,by omega,hv.1,by omega,rfl⟩,by omega,by omega⟩))⟩ (lr _))
 refine Z1 5 9 (.b false) (ie (aq (ar (Z1 2 39 (.b true) (ie (WW (ar (Yn 1 40 (ZB n) [3] [b1] (ZG 2 b2 (ZM n) (ie ?_))))))))))
 exact Zc (r3 [1] [ZB n] [0] [(b2,b2)] ⟨n,(p+1)+1,rfl,rfl,(by first|exact ⟨.inl rfl,by omega,by omega⟩|(have hv:=ZA x3 (Y7 YT);exact ⟨.inr ⟨Y6,x1,YD,YD+UJ,x3,hrx,by omega,by omega,hv.1,by omega,rfl⟩,by omega,by omega⟩))⟩ (lr _))
theorem Z5m (b:Z5) (hz:b.sz<=1000000000:=by exact ob):Zk Tryz.prog 239 [Zr b] [] (fun r h=>r=.i (((YY b.steps):Nat):Int)/\h=[]):=by
 have hbz:=Vz b
 refine ZL 20 Tryz.func239 (ar (iA (Y8 b) ?_))
 intro b1
 refine ir 1 [(1,.p b1 0)] (ie (ar (Z1 1 3 (.i 0) (ie (aq (ab 0 (al (fun m F h=>∃(k:Nat),(k<=b.steps.length)/\(k+YY (b.steps.drop k)=YY b.steps)/\F=[(1,.p b1 0),(3,.i k)]/\h=[.obj b1 (Y8 b)]/\m=b.steps.length-k) _ _ _ ⟨0,ob,(by simp),rfl,rfl,rfl⟩ (wk [0] (fr (Yh fl))) ?_)))))))
 rintro m F h ⟨k,Yo,Zp,rfl,rfl,rfl⟩
 refine aq (ar (ZY 3 4 (.i k) 6 (Ya b.steps) [0] [b1] (iw (Vp b.steps) (Z1 2 9 (.b (decide ((k:Int)<(b.steps.length:Int)))) (ib (b:=(decide ((k:Int)<(b.steps.length:Int)))) 9 (fun Zb=>?_) (fun Zb=>?_))))))
 ·have ZP:(k:Int)<(b.steps.length:Int):=(dq).1 Zb
  refine Y0 3 (.n 11 (Ya b.steps) (.n 12 (.i k) (.k (.d .r)))) [0] [b1] ?_
  obtain ⟨x1,Z3⟩:=Zu (xs:=b.steps) (j:=k) om
  refine Zq (Zn none (k:Int) 5 (Ww Z3)) (Z1 1 14 (Y2 x1) (Zz [] (Np x1) (Z1 1 16 (.b ((x1.op==14)||(x1.op==15))) (ie (ac ((x1.op==14)||(x1.op==15)) (p:=(x1.op=14)∨(x1.op=15)) (Yc Zh Zh) (fun Ze=>?_) (fun Ze=>?_))))))
  ·refine ak (ab 1 (az (Z1 1 17 (.i k) (ZO k (ir 1 [(1,.p b1 0),(3,.i (k+1:Nat))] (ie ?_))))))
   exact ZU ⟨k+1,ob,(Z45 Z3 Ze Zp),rfl,rfl,rfl⟩ (wk [0] (fr (ZW k fl)))
  refine ax 0 (ar (ir 2 [(2,.i k)] (ie ?_)))
  exact Zc (r2 [] [.i k] ⟨rfl,rfl⟩ (li (by have:=Z46 Z3 Ze Zp;omega)))
 have Y1:¬((k:Int)<(b.steps.length:Int)):=ZF dq Zb
 refine Z6 7 (.n 16 (.b false) (.k (.d .r))) (ie (WV (ax 0 (ar (ir 2 [(2,.i k)] (ie ?_))))))
 exact Zc (r2 [] [.i k] ⟨rfl,rfl⟩ (li (by have:=Z44 om Zp;omega)))
theorem Nj (b:Z5) (mm:Nat) (op:Int) (hm:mm<=b.steps.length:=by exact ob) (ha:∀s∈b.steps.take mm,s.op=op->∃a,s.args=[a]) (hz:b.sz<=1000000000:=by exact ob):Zk Tryz.prog 240 [Zr b,.i mm,.i op] [] (fun r h=>∃(v:Value),r=Z7 (XO op (b.steps.take mm)) v/\h=[.tail v 1]):=by
 have hbz:=Vz b
 refine ZL 35 Tryz.func240 (ar (iA (Y8 b) ?_))
 intro b1
 refine ir 1 [(1,.i mm),(2,.i op),(3,.p b1 0)] (ie (ar (iL (Z8 []) 0 1 ?_)))
 intro v1
 refine Z1 1 7 (Z7 [] v1) (ie (aq (ar (Z1 1 8 (.i 0) (ie (ab 0 (al (fun m F h=>∃(k:Nat) (acc:List Int) (v:Value),(k<=mm)/\(acc.length<=k)/\(acc++XO op ((b.steps.take mm).drop k)=XO op (b.steps.take mm))/\F=[(1,.i mm),(2,.i op),(3,.p b1 0),(7,Z7 acc v),(8,.i k)]/\h=[.obj b1 (Y8 b),.tail v 1]/\m=mm-k) _ _ _ ⟨0,[],v1,ob,ob,(by simp),rfl,rfl,rfl⟩ (wk [1,0] (fq (Yh fl))) ?_)))))))
 rintro m F h ⟨k,acc,v,Yo,Zp,ZA,rfl,rfl,rfl⟩
 refine aq (ar (Z1 3 12 (.b (decide ((k:Int)<(mm:Int)))) (ie (ZT ((k:Int)<(mm:Int)) (fun Ze=>?_) (fun Ze=>?_)))))
 ·refine ak (aq (ab 1 (ar (ZY 3 16 (Ya b.steps) 17 (.i k) [0] [b1] ?_))))
  obtain ⟨x1,Z3⟩:=Zu (xs:=b.steps) (j:=k) om
  have hxt:(b.steps.take mm)[k]? = some x1:=by rw [List.getElem?_take_of_lt om];exact Z3
  have hxm:=Y7 hxt
  refine Zq (Zn none (k:Int) 5 (Ww Z3)) (Z1 4 22 (.b (x1.op==op)) (ie (ac (x1.op==op) Zh (fun Zl=>?_) (fun Zl=>?_))))
  ·refine az (Y0 4 (.n 23 (Z7 acc v) (.n 25 (Ya b.steps) (.n 26 (.i k) .r))) [0] [b1] (Zq (Zn none (k:Int) 5 (Ww Z3)) (Z1 2 29 (Z0 x1.args) ?_)))
   obtain ⟨x2,Zy⟩:=Zu (xs:=x1.args) (j:=0) (by obtain ⟨a,ha2⟩:=ha x1 hxm Zl;rw [ha2];simp)
   have hg0:=Jd Zy
   refine Zq (Zn none 0 1 (Y4 Zy)) (Z1 1 31 (.i x2) (iL (Z8 [x2]) 1 1 ?_))
   intro v2
   refine Z6 0 (.n 32 (Z0 [x2]) (.p .r)) (ip 2 (Z8 (acc++[x2])) (Z8 acc) (Z8 [x2]) v none 1 (YE _) (YE _) (XY _) (by simp<;>omega) (by simp [XX,Z8]) ?_)
   intro v3
   refine ir 1 [(1,.i mm),(2,.i op),(3,.p b1 0),(7,Z7 (acc++[x2]) v3),(8,.i k)] (ie (az (Z1 1 13 (.i k) (ZO k (Z6 1 (.n 8 (.i (k+1:Nat)) (.p (.d (.w .z)))) (ie ?_))))))
   exact ZU ⟨k+1,(acc++[x2]),v3,ob,(by simp;omega),(by have h:=OK hxt Zl ZA;rw [hg0] at h;exact h),rfl,rfl,rfl⟩ (wk [2,0] (fq (ZW k fl)))
  refine ak (az (Z1 1 13 (.i k) (ZO k (Z6 1 (.n 8 (.i (k+1:Nat)) (.p (.d (.d (.p (.d (.d (.d (.w .z))))))))) (ie ?_)))))
  exact ZU ⟨k+1,acc,v,ob,ob,(OJ hxt Zl ZA),rfl,rfl,rfl⟩ (wk [0,0] (fq (ZW k fl)))
 refine ax 0 (ar (ir 2 [(6,Z7 acc v)] (ie ?_)))
 exact Zc (r2 [1] [Z7 acc v] ⟨v,rfl,rfl⟩ (Zg.slh _ (Yw Z8 (OI (by rw [Wp];omega) ZA))))
theorem Nx (xs:List Int) (y:Int) (hl:xs.length<=1000000000:=by exact ob):Zk Tryz.prog 241 [Z0 xs,.i y] [] (fun r h=>∃(v:Value),r=Z7 (xs.erase y) v/\h=[.tail v 1]):=by
 refine ZL 33 Tryz.func241 (ar (ir 1 [(0,Z0 xs),(1,.i y)] (ie (ar (iL (Z8 []) 0 1 ?_)))))
 intro v1
 refine Z1 1 5 (Z7 [] v1) (ie (ar (Z1 1 6 (.b false) (ie (aq (ar (Z1 1 7 (.i 0) (ie (ab 0 (al (fun m F h=>∃(k:Nat) (acc:List Int) (d:Bool) (v:Value),(k<=xs.length)/\(acc.length<=k)/\(acc++(if d=true then xs.drop k else (xs.drop k).erase y)=xs.erase y)/\F=[(0,Z0 xs),(1,.i y),(5,Z7 acc v),(6,.b d),(7,.i k)]/\h=[.tail v 1]/\m=xs.length-k) _ _ _ ⟨0,[],false,v1,ob,ob,(by simp),rfl,rfl,rfl⟩ (wk [0] (fq (Yh fl))) ?_))))))))))
 rintro m F h ⟨k,acc,d,v,Yo,Zp,ZA,rfl,rfl,rfl⟩
 refine aq (ar (Yq 2 9 (.i k) 10 (Z0 xs) (iw (Yf xs) (Z1 1 12 (.b (decide ((k:Int)<(xs.length:Int)))) (ie (ZT ((k:Int)<(xs.length:Int)) (fun Ze=>?_) (fun Ze=>?_)))))))
 ·refine ak (aq (ab 1 (ar (Yq 2 15 (Z0 xs) 16 (.i k) ?_))))
  obtain ⟨x1,Z3⟩:=Zu (xs:=xs) (j:=k) om
  refine Zq (Zn none (k:Int) 1 (Y4 Z3)) (Xm [(0,Z0 xs),(1,.i y),(5,Z7 acc v),(6,.b d),(7,.i k),(24,.b ((x1==y)&&(!d)))] [.tail v 1] ?_ ?_)
  ·refine ir 4 [(0,Z0 xs),(1,.i y),(5,Z7 acc v),(6,.b d),(7,.i k),(21,.b (x1==y))] (ib (b:=(x1==y)) 21 (fun Zb=>?_) (fun Zb=>?_))
   ·have ZP:x1=y:=(Zh).1 Zb
    refine Z6 3 (.n 24 (.b (!d)) (.d (.w (.k .z)))) (ie ?_)
    exact wk [0] (fq (fr (Zs (!d) Zb fl)))
   have Y1:¬(x1=y):=ZF Zh Zb
   refine Z6 3 (.n 24 (.b false) (.d (.w (.k .z)))) (ie ?_)
   exact wk [0] (fq (fr (Zs false Zb fl)))
  refine JM (fun F h=>∃(w:Value),F=[(0,Z0 xs),(1,.i y),(5,Z7 (if (x1=y)/\(¬(d=true)) then acc else (acc++[x1])) w),(6,.b (((x1==y)&&(!d))||d)),(7,.i k)]/\h=[.tail w 1]) (fun _ _=>rfl) ?_ ?_
  ·refine ac ((x1==y)&&(!d)) (p:=(x1=y)/\(¬(d=true))) (YF Zh (Yp Iff.rfl)) (fun Zl=>?_) (fun Zl=>?_)
   ·refine az (ir 1 [(0,Z0 xs),(1,.i y),(5,Z7 acc v),(6,.b true),(7,.i k)] (ie ?_))
    exact ZV ⟨v,rfl,rfl⟩ (wk [0] (fw (fc (x:=Z7 acc v) (Zg.slh _ (Yw Z8 (by first|rfl|(rw [Zj Zl])|(rw [Za Zl])|(simp [Zl];done)|(rw [Xo];simp [Zl];done)|omega))) (fc (x:=.b true) (lb (by first|rfl|(rw [Zj Zl])|(rw [Za Zl])|(simp [Zl];done)|(rw [Xo];simp [Zl];done)|omega)) fl))))
   refine az (ir 3 [(0,Z0 xs),(1,.i y),(6,.b d),(7,.i k),(25,Z7 acc v),(26,Z0 xs),(27,.i k)] (Zq (Zn none (k:Int) 1 (Y4 Z3)) (Z1 1 29 (.i x1) (iL (Z8 [x1]) 1 1 ?_))))
   intro v2
   refine Z6 0 (.n 30 (Z0 [x1]) (.p .r)) (ip 1 (Z8 (acc++[x1])) (Z8 acc) (Z8 [x1]) v none 1 (YE _) (YE _) (XY _) (by simp<;>omega) (by simp [XX,Z8]) ?_)
   intro v3
   refine Z1 1 5 (Z7 (acc++[x1]) v3) (ie ?_)
   exact ZV ⟨v3,rfl,rfl⟩ (wk [0] (fw (fc (x:=Z7 (acc++[x1]) v3) (Zg.slh _ (Yw Z8 (by first|rfl|(rw [Zj Zl])|(rw [Za Zl])|(simp [Zl];done)|(rw [Xo];simp [Zl];done)|omega))) (fc (x:=.b d) (lb (by cases d<;>simp_all)) fl))))
  rintro F h ⟨w,rfl,rfl⟩
  refine az (ir 1 [(0,Z0 xs),(1,.i y),(5,Z7 (if (x1=y)/\(¬(d=true)) then acc else (acc++[x1])) w),(6,.b (((x1==y)&&(!d))||d)),(13,.i k)] (ZO k (Z1 1 7 (.i (k+1:Nat)) (ie ?_))))
  exact ZU ⟨k+1,(if (x1=y)/\(¬(d=true)) then acc else (acc++[x1])),(((x1==y)&&(!d))||d),w,ob,(by split<;>(try simp)<;>omega),(Rl Z3 ZA),rfl,rfl,rfl⟩ (wk [0] (fq (ZW k fl)))
 refine ax 0 (ar (ir 2 [(4,Z7 acc v)] (ie ?_)))
 exact Zc (r2 [0] [Z7 acc v] ⟨v,rfl,rfl⟩ (Zg.slh _ (Yw Z8 (Rk om ZA))))
theorem Z5f (b:Z5) (x:Int) (fs:List Int) (q:Nat) (ha:∀s∈b.steps,Ym s.op=true->∃a,s.args=[a]) (hf:fs.length<=3:=by exact ob) (hq:q<=1000000000:=by exact ob) (hz:b.sz<=900000000:=by exact ob):Zk Tryz.prog 208 [Zr b,.i x,Z0 fs,.i q] [] (fun r h=>r=Zr (K3 b x fs q)/\h=[]):=by
 have hbz:=Vz b
 have hrl:=Ek b.steps
 have hal:=F5 (b.steps.take (YY b.steps))
 rw [Wp] at hal
 have her:=List.length_erase_le (a:=x) (l:=XO 15 (b.steps.take (YY b.steps)))
 have har:∀op:Int,Ym op=true->∀s∈b.steps.take (YY b.steps),s.op=op->∃a,s.args=[a]:=fun op ho s hs e=>ha s (TP hs) (by rw [e];exact ho)
 refine ZL 88 Tryz.func208 (ar (iA (Y8 b) ?_))
 intro b1
 refine iA [nl,.i 0] ?_
 intro b2
 refine ie (ar (iR 1 [(1,.i x),(2,Z0 fs),(3,.i q),(4,.p b1 0),(8,.p b2 0),(14,Zr b)] [1] [b1] (Zz [] (Z5m b) (Z1 1 9 (.i (((YY b.steps):Nat):Int)) (ie (ar (ZY 2 16 (Zr b) 17 (.i (((YY b.steps):Nat):Int)) [1] [b1] (ic [] (Nj b (YY b.steps) 14 (ha:=(har _ rfl))) ?_))))))))
 rintro _ _ ⟨v1,rfl,rfl⟩
 refine Z1 1 10 (Z7 (XO 14 (b.steps.take (YY b.steps))) v1) (ie (ar (ZY 2 19 (Zr b) 20 (.i (((YY b.steps):Nat):Int)) [2] [b1] (ic [] (Nj b (YY b.steps) 15 (ha:=(har _ rfl))) ?_))))
 rintro _ _ ⟨v2,rfl,rfl⟩
 refine Z1 1 11 (Z7 (XO 15 (b.steps.take (YY b.steps))) v2) (ie (aq (ar (Yq 2 22 (Z0 (XO 15 (b.steps.take (YY b.steps)))) 23 (.i x) (Zz [] (U3 (XO 15 (b.steps.take (YY b.steps))) x) (Xm [(1,.i x),(2,Z0 fs),(3,.i q),(4,.p b1 0),(8,.p b2 0),(9,.i (((YY b.steps):Nat):Int)),(10,Z7 (XO 14 (b.steps.take (YY b.steps))) v1),(11,Z7 (XO 15 (b.steps.take (YY b.steps))) v2),(30,.b ((!(decide (x∈(XO 15 (b.steps.take (YY b.steps))))))||((fs.length:Int)==0)))] [.tail v2 1,.tail v1 1,.obj b2 [nl,.i 0],.obj b1 (Y8 b)] ?_ ?_))))))
 ·refine ir 2 [(1,.i x),(2,Z0 fs),(3,.i q),(4,.p b1 0),(8,.p b2 0),(9,.i (((YY b.steps):Nat):Int)),(10,Z7 (XO 14 (b.steps.take (YY b.steps))) v1),(11,Z7 (XO 15 (b.steps.take (YY b.steps))) v2),(26,.b (!(decide (x∈(XO 15 (b.steps.take (YY b.steps)))))))] (ib (b:=(!(decide (x∈(XO 15 (b.steps.take (YY b.steps))))))) 26 (fun Zb=>?_) (fun Zb=>?_))
  ·have ZP:¬(x∈(XO 15 (b.steps.take (YY b.steps)))):=((Yp dq)).1 Zb
   refine Z6 4 (.n 30 (.b true) (.d (.w (.w .z)))) (ie ?_)
   exact ZK 4 (fq (fq (Zs true Zb fl)))
  have Y1:¬(¬(x∈(XO 15 (b.steps.take (YY b.steps))))):=ZF (Yp dq) Zb
  refine Z6 1 (.n 27 (Z0 fs) (.w (.w (.k .z)))) (iw (Yf fs) (Z1 2 30 (.b ((fs.length:Int)==0)) (ie ?_)))
  exact ZK 4 (fq (fq (Zs ((fs.length:Int)==0) Zb fl)))
 refine ac ((!(decide (x∈(XO 15 (b.steps.take (YY b.steps))))))||((fs.length:Int)==0)) (p:=(¬(x∈(XO 15 (b.steps.take (YY b.steps)))))∨((fs.length:Int)=0)) (Yc (Yp dq) Zh) (fun Ze=>?_) (fun Ze=>?_)
 ·refine ar (iR 1 [(8,.p b2 0),(31,Zr b)] [3] [b1] (ZG 2 b2 (Y8 b) (ie ?_)))
  exact Zc (r3 [] [Zr b] [0] [(b2,b2)] ⟨rfl,rfl⟩ (Zg.agg (.cons (Zg.sl _ (Yw Zo (Oy (fun z=>Ze.elim (fun e=>e z.1) (fun e=>z.2 om))).symm)) (.cons li .nil))))
 refine ak (ar (ir 2 [(1,.i x),(2,Z0 fs),(3,.i q),(4,.p b1 0),(8,.p b2 0),(9,.i (((YY b.steps):Nat):Int)),(10,Z7 (XO 14 (b.steps.take (YY b.steps))) v1),(32,Z0 (XO 15 (b.steps.take (YY b.steps)))),(33,.i x)] (ic [] (Nx (XO 15 (b.steps.take (YY b.steps))) x) ?_)))
 rintro _ _ ⟨v3,rfl,rfl⟩
 refine Z1 1 11 (Z7 ((XO 15 (b.steps.take (YY b.steps))).erase x) v3) (ie (aq (ar (Z1 1 12 (.i 0) (ie (ab 0 (al (fun m F h=>∃(k:Nat) (D:List Int) (R:List Int) (v:Value),(k<=fs.length)/\(D.length<=b.steps.length)/\(R.length<=b.steps.length+k)/\(Ug (fs.drop k) (q+k) D R=Js b.steps x fs q)/\F=[(1,.i x),(2,Z0 fs),(3,.i q),(4,.p b1 0),(8,.p b2 0),(9,.i (((YY b.steps):Nat):Int)),(10,Z0 D),(11,Z7 R v),(12,.i k)]/\h=[.obj b2 [nl,.i 0],.obj b1 (Y8 b),.tail v 1]/\m=fs.length-k) _ _ _ ⟨0,(XO 14 (b.steps.take (YY b.steps))),((XO 15 (b.steps.take (YY b.steps))).erase x),v3,ob,om,om,(by simp [Js]),rfl,rfl,rfl⟩ (wk [3,3,0] (fq (fw (fc (x:=Z7 (XO 14 (b.steps.take (YY b.steps))) v1) (Zg.forget _ _) (fr (Yh fl)))))) ?_)))))))
 rintro m F h ⟨k,D,R,v,Yo,Zp,ZA,YJ,rfl,rfl,rfl⟩
 refine aq (ar (Yq 2 35 (.i k) 36 (Z0 fs) (iw (Yf fs) (Z1 1 38 (.b (decide ((k:Int)<(fs.length:Int)))) (ie (ZT ((k:Int)<(fs.length:Int)) (fun Zl=>?_) (fun Zl=>?_)))))))
 ·refine ak (aq (ab 1 (ar (Yq 2 41 (Z0 fs) 42 (.i k) ?_))))
  obtain ⟨x1,Z3⟩:=Zu (xs:=fs) (j:=k) om
  refine Zq (Zn none (k:Int) 1 (Y4 Z3)) (Xm [(1,.i x),(2,Z0 fs),(3,.i q),(4,.p b1 0),(8,.p b2 0),(9,.i (((YY b.steps):Nat):Int)),(10,Z0 D),(11,Z7 R v),(12,.i k),(52,.b ((x1 != 0)&&(decide (((q+k:Nat):Int)∈D))))] [.obj b2 [nl,.i 0],.obj b1 (Y8 b),.tail v 1] ?_ ?_)
  ·refine ir 3 [(1,.i x),(2,Z0 fs),(3,.i q),(4,.p b1 0),(8,.p b2 0),(9,.i (((YY b.steps):Nat):Int)),(10,Z0 D),(11,Z7 R v),(12,.i k),(46,.b (x1 != 0))] (ib (b:=(x1 != 0)) 46 (fun Zv=>?_) (fun Zv=>?_))
   ·have YB:x1≠0:=(Yg).1 Zv
    refine Z6 3 (.n 47 (Z0 D) (.n 48 (.i q) (.n 49 (.i k) (.w (.w (.k (.k .z))))))) (ia (((q+k:Nat):Int)) (((q:Int))+((k:Int))) (Zz [] (U3 D ((q+k:Nat):Int)) (Z1 1 52 (.b (decide (((q+k:Nat):Int)∈D))) (ie ?_))))
    exact ZK 3 (fq (fq (fr (Zs (decide (((q+k:Nat):Int)∈D)) Zv fl))))
   have YM:¬(x1≠0):=ZF Yg Zv
   refine Z6 6 (.n 52 (.b false) (.d (.w (.w (.k .z))))) (ie ?_)
   exact ZK 3 (fq (fq (fr (Zs false Zv fl))))
  refine JM (fun F h=>∃(D2:List Int) (R2:List Int) (w:Value),(Ug (fs.drop (k+1)) (q+((k+1:Nat):Int)) D2 R2=Js b.steps x fs q)/\(D2.length<=b.steps.length)/\(R2.length<=b.steps.length+(k+1))/\F=[(1,.i x),(2,Z0 fs),(3,.i q),(4,.p b1 0),(8,.p b2 0),(9,.i (((YY b.steps):Nat):Int)),(10,Z0 D2),(11,Z7 R2 w),(12,.i k)]/\h=[.obj b2 [nl,.i 0],.obj b1 (Y8 b),.tail w 1]) (fun _ _=>rfl) ?_ ?_
  ·refine ac ((x1 != 0)&&(decide (((q+k:Nat):Int)∈D))) (p:=(x1≠0)/\(((q+k:Nat):Int)∈D)) (YF Yg dq) (fun ZI=>?_) (fun ZI=>?_)
   ·refine az (ir 3 [(1,.i x),(2,Z0 fs),(3,.i q),(4,.p b1 0),(8,.p b2 0),(9,.i (((YY b.steps):Nat):Int)),(11,Z7 R v),(12,.i k),(53,Z0 D),(54,.i q),(55,.i k)] (ia (((q+k:Nat):Int)) (((q:Int))+((k:Int))) (ic [] (Nx D ((q+k:Nat):Int)) ?_)))
    rintro _ _ ⟨v4,rfl,rfl⟩
    refine Z1 1 10 (Z7 (D.erase ((q+k:Nat):Int)) v4) (ie ?_)
    exact ZV ⟨(D.erase ((q+k:Nat):Int)),R,v,(Z34 Z3 ZI.1 ZI.2 YJ),(V3 List.length_erase_le Zp),ob,rfl,rfl⟩ (wk [1,1,1] fl)
   refine ar (ir 2 [(1,.i x),(2,Z0 fs),(3,.i q),(4,.p b1 0),(8,.p b2 0),(9,.i (((YY b.steps):Nat):Int)),(10,Z0 D),(11,Z7 R v),(12,.i k),(58,Z0 fs),(59,.i k)] (Zq (Zn none (k:Int) 1 (Y4 Z3)) (Z1 2 62 (.b (x1 != 0)) (ie (ac (x1 != 0) Yg (fun Yi=>?_) (fun Yi=>?_))))))
   ·refine az (Z6 3 (.n 63 (Z7 R v) (.n 64 (.i q) (.n 65 (.i k) .r))) (ia (((q+k:Nat):Int)) (((q:Int))+((k:Int))) (iL (Z8 [((q+k:Nat):Int)]) 1 1 ?_)))
    intro v5
    refine Z6 0 (.n 67 (Z0 [((q+k:Nat):Int)]) (.p .r)) (ip 3 (Z8 (R++[((q+k:Nat):Int)])) (Z8 R) (Z8 [((q+k:Nat):Int)]) v none 1 (YE _) (YE _) (XY _) (by simp<;>omega) (by simp [XX,Z8]) ?_)
    intro v6
    refine Z6 1 (.n 11 (Z7 (R++[((q+k:Nat):Int)]) v6) (.p (.d (.p (.d (.d (.d (.d (.p (.w (.k (.k (.k (.d (.k .z))))))))))))))) (ie ?_)
    exact ZV ⟨D,(R++[((q+k:Nat):Int)]),v6,(Z35 Z3 Yi (fun z=>ZI ⟨Yi,z⟩) YJ),ob,(by simp;omega),rfl,rfl⟩ (wk [2,2,0] fl)
   refine ak ?_
   exact ZV ⟨D,R,v,(Z36 Z3 Yi YJ),ob,ob,rfl,rfl⟩ (ZK 3 fl)
  rintro F h ⟨D2,R2,w,Cs,Ct,Z13,rfl,rfl⟩
  refine az (ir 1 [(1,.i x),(2,Z0 fs),(3,.i q),(4,.p b1 0),(8,.p b2 0),(9,.i (((YY b.steps):Nat):Int)),(10,Z0 D2),(11,Z7 R2 w),(39,.i k)] (ZO k (Z1 1 12 (.i (k+1:Nat)) (ie ?_))))
  exact ZU ⟨k+1,D2,R2,w,ob,ob,ob,ob,rfl,rfl,rfl⟩ (ZK 3 (fq (fq (ZW k fl))))
 refine ax 0 (ar (Z1 1 69 (Z0 D) (ic [] (Qm 14 D) ?_)))
 rintro _ _ ⟨v7,rfl,rfl⟩
 refine Z1 1 71 (.i x) (Zz [] (KP 16 x) (iL [Y2 (Zi 16 x)] 1 5 ?_))
 intro v8
 refine Z6 0 (.n 73 (.sl [Y2 (Zi 16 x)] none) (.p .r)) (ip 1 (Zo ((D.map (Zi 14))++[Zi 16 x])) (Zo (D.map (Zi 14))) [Y2 (Zi 16 x)] v7 none 5 (YZ _) (TG rfl) rfl (by simp<;>omega) (by simp [Ws,WY]) ?_)
 intro v9
 refine Z1 1 13 (ZQ ((D.map (Zi 14))++[Zi 16 x]) v9) (ie (ar (Yq 2 75 (ZQ ((D.map (Zi 14))++[Zi 16 x]) v9) 76 (Z0 R) (ic [] (Qm 15 R) ?_))))
 rintro _ _ ⟨v10,rfl,rfl⟩
 refine Z6 0 (.n 77 (Ya (R.map (Zi 15))) (.p .r)) (ip 1 (Zo (((D.map (Zi 14))++[Zi 16 x])++(R.map (Zi 15)))) (Zo ((D.map (Zi 14))++[Zi 16 x])) (Zo (R.map (Zi 15))) v9 none 5 (YZ _) (YZ _) (Ve _) (by simp<;>omega) (by simp [Ws,Zo]) ?_)
 intro v11
 refine Z6 1 (.n 13 (ZQ (((D.map (Zi 14))++[Zi 16 x])++(R.map (Zi 15))) v11) (.q 78 (.k (.k (.k (.d .r)))))) (ie (aD 10 (Y5 6 10 [0,1,2,3] (.n 79 (ZQ (((D.map (Zi 14))++[Zi 16 x])++(R.map (Zi 15))) v11) (.n 81 (Ya b.steps) (.n 82 (.i (((YY b.steps):Nat):Int)) .r))) [4] [b1] (dx 4 (Qo (es:=Zo b.steps) (hv:=none) (l:=(((YY b.steps):Nat):Int)) (m:=(((Zo b.steps).length:Nat):Int)) (sz:=5) (es':=Zo (b.steps.drop (YY b.steps))) kr om (by simp<;>omega) (by simp<;>omega) (YZ _) (by first|(simp only [Vh,WP,TC,TB];done)|(simp only [Vh,WP,TC,TB];rfl)|(simp [TC,TB];done))) (Y5 3 5 [6,7] (.n 86 (.i b.result) .r) [4] [b1] (Z9 5 (dp 5 0 [1] [b1] (Zo ((((D.map (Zi 14))++[Zi 16 x])++(R.map (Zi 15)))++(b.steps.drop (YY b.steps)))) (Zo (((D.map (Zi 14))++[Zi 16 x])++(R.map (Zi 15)))) (Zo (b.steps.drop (YY b.steps))) v11 none 5 (YZ _) (YZ _) (Ve _) (by simp<;>omega) (by simp [Ws,Zo]) ?_)))))))
 intro v12
 refine ZX 1 2 [8] 87 (.agg [ZQ ((((D.map (Zi 14))++[Zi 16 x])++(R.map (Zi 15)))++(b.steps.drop (YY b.steps))) v12,.i b.result]) (Z9 9 (YG 9 3 [] [] b2 [ZQ ((((D.map (Zi 14))++[Zi 16 x])++(R.map (Zi 15)))++(b.steps.drop (YY b.steps))) v12,.i b.result] (de ?_)))
 have hE:=OA (U5.1 fun z=>Ze (.inl z)) (fun z=>Ze (.inr om)) (Z33 om YJ)
 exact Zc (r3 [] [.agg [ZQ ((((D.map (Zi 14))++[Zi 16 x])++(R.map (Zi 15)))++(b.steps.drop (YY b.steps))) v12,.i b.result]] [0] [(b2,b2)] ⟨rfl,rfl⟩ (Zg.agg (.cons (Zg.sl _ (Yw Zo hE)) (.cons li .nil))))
theorem Z5q (n:Zx) (b:Z5) (mm:Nat) (hn:Xf n) (hw:wB n.decls b) (hb:mm+9*b.sz<=900000000) (ih:∀(b2:Z5) (m2:Nat),(wB n.decls b2)->(m2+9*b2.sz<=900000000)->(b2.sz<b.sz)->Zk Tryz.prog 164 [ZB n,Zr b2,.i m2] [] (fun r h=>r=Zr (WG n.decls m2 b2)/\h=[])):Zk Tryz.prog 164 [ZB n,Zr b,.i mm] [] (fun r h=>r=Zr (WG n.decls mm b)/\h=[]):=by
 have Xu:=hn.decls
 have hbz:=Vz b
 have ZD:=(K0 b).1 hw
 refine ZL 107 Tryz.func164 (ar (iA (ZM n) ?_))
 intro b1
 refine iA (Y8 b) ?_
 intro b2
 refine iA [nl,.i 0] ?_
 intro b3
 refine ie (ar (iL (Zo []) 0 5 ?_))
 intro v1
 refine iR 3 [(2,.i mm),(3,.p b1 0),(4,.p b2 0),(6,.p b3 0),(17,.agg [ZQ [] v1,.i b.result])] [2] [b2] (iA [nl,.i 0] ?_)
 intro b4
 refine ZG 0 b4 [ZQ [] v1,.i b.result] (ie (aq (ar (Z1 1 8 (.i 0) (ie (ab 0 (al (fun m F h=>∃(k:Nat) (q:Nat) (xs:List Z4) (v:Value),(k<=b.steps.length)/\(q<=mm+k)/\(xs.length=k)/\(xs++Uy n.decls q (b.steps.drop k)=Uy n.decls mm b.steps)/\F=[(2,.i q),(3,.p b1 0),(4,.p b2 0),(6,.p b3 0),(7,.p b4 0),(8,.i k)]/\h=[.obj b4 [ZQ xs v,.i b.result],.obj b3 [nl,.i 0],.obj b2 (Y8 b),.obj b1 (ZM n),.tail v 5]/\m=b.steps.length-k) _ _ _ ⟨0,mm,[],v1,ob,ob,ob,rfl,rfl,rfl,rfl⟩ (wk [0,1,1,1,0] (fq (fr (Yh fl)))) ?_)))))))
 rintro m F h ⟨k,q,xs,v,Yo,Zp,ZA,YJ,rfl,rfl,rfl⟩
 refine aq (ar (ZY 3 18 (.i k) 20 (Ya b.steps) [2] [b2] (iw (Vp b.steps) (Z1 1 22 (.b (decide ((k:Int)<(b.steps.length:Int)))) (ie (ZT ((k:Int)<(b.steps.length:Int)) (fun Ze=>?_) (fun Ze=>?_)))))))
 ·refine ak (aq (ab 1 (ar (ZY 3 26 (Ya b.steps) 27 (.i k) [2] [b2] ?_))))
  obtain ⟨x1,Z3⟩:=Zu (xs:=b.steps) (j:=k) om
  have XA:=B3 Z3
  have hws:=O5 hw Z3
  have hkz:=Td x1
  have haz:=Qa x1
  have hdf:=Z7n hws
  refine Zq (Zn none (k:Int) 5 (Ww Z3)) (Z1 1 29 (Y2 x1) (iA [.i 0,.i 0,.i 0,nl,nl] ?_))
  intro b5
  refine ZG 0 b5 (Ye x1) (ie (ar (iL (YH []) 0 2 ?_)))
  intro v2
  refine Z1 1 10 (X6 [] v2) (ie (ar (ZY 4 32 (Zd n.decls) 34 (.i x1.num) [5,1] [b1,b5] (ic [] (KO n.decls x1.num) ?_))))
  rintro _ _ ⟨v3,rfl,rfl⟩
  refine Z1 1 11 (Z7 (Zt n.decls x1.num) v3) (ie (aq (ar (Z1 1 12 (.i 0) (ie (ab 2 (al (fun m F h=>∃(j:Nat) (u:Value) (ks:List Z5),(j<=x1.kids.length)/\(ks.length=j)/\(ks++Ti n.decls q x1.op x1.num x1.args (x1.kids.drop j) j=Ti n.decls q x1.op x1.num x1.args x1.kids 0)/\F=[(2,.i q),(3,.p b1 0),(4,.p b2 0),(6,.p b3 0),(7,.p b4 0),(8,.i k),(9,.p b5 0),(10,X6 ks u),(11,Z7 (Zt n.decls x1.num) v3),(12,.i j)]/\h=[.obj b5 (Ye x1),.obj b4 [ZQ xs v,.i b.result],.obj b3 [nl,.i 0],.obj b2 (Y8 b),.obj b1 (ZM n),.tail u 2,.tail v 5,.tail v3 1]/\m=x1.kids.length-j) _ _ _ ⟨0,v2,[],ob,ob,(by simp),rfl,rfl,rfl⟩ (wk [2,2,2,2,2,1,1,0] (fq (fq (fr (Yh fl))))) ?_)))))))
  rintro m F h ⟨j,u,ks,Um,Wg,XK,rfl,rfl,rfl⟩
  refine aq (ar (ZY 3 36 (.i j) 38 (Yz x1.kids) [0] [b5] (iw (U1 x1.kids) (Z1 1 40 (.b (decide ((j:Int)<(x1.kids.length:Int)))) (ie (ZT ((j:Int)<(x1.kids.length:Int)) (fun Zl=>?_) (fun Zl=>?_)))))))
  ·refine ak (aq (ab 3 (ar (Yn 3 45 (.b (x1.op==8)) [0] [b5] (ie (ac (x1.op==8) Zh (fun ZI=>?_) (fun ZI=>?_)))))))
   ·refine aD 8 (Y5 4 8 [0,1,2,3] (.n 47 (Zd n.decls) (.n 48 (Z7 (Zt n.decls x1.num) v3) (.n 49 (.i j) .r))) [4] [b1] ?_)
    obtain ⟨x2,Zy⟩:=Zu (xs:=Zt n.decls x1.num) (j:=j) (by have h:=(CW hws (by assumption)).2;omega)
    have hfk:VG n.decls x1.num j=Zw n.decls x2:=IH (by rw [Kk,Zy];rfl)
    have hcf:=VN Xu x2
    refine dx 4 (Zn (some v3) (j:Int) 1 (Y4 Zy)) (ZX 2 3 [5] 51 (.i x2) (Z9 6 (Yv 6 [] [] [] (Ql n.decls x2) (ZX 0 1 [7] 13 (Z0 (Zw n.decls x2)) (de (aE 22 (Y5 17 22 [0,1,2,3,4] (.n 53 (X6 ks u) (.n 54 (ZB n) (.n 56 (Yz x1.kids) (.n 57 (.i j) .r)))) [4,0] [b1,b5] ?_)))))))
    obtain ⟨x3,YT⟩:=Zu (xs:=x1.kids) (j:=j) om
    have hkb:=YT
    have hks:=Tc YT
    have hwk:=HB hws YT
    have hpk:=Z5.pz_le x3
    refine dx 5 (Zn none (j:Int) 2 (UD YT)) (ZZ 13 16 [6,7,8] (.n 59 (Zr x3) (.n 60 (.i q) (.n 61 (Z0 (Zw n.decls x2)) .r))) (dn 9 (.i (((Zw n.decls x2).length:Nat):Int)) (.i (((Z8 (Zw n.decls x2)).length:Nat):Int)) (li (by rw [Yf])) (da 10 (((q+((Zw n.decls x2).length):Nat):Int)) (((q:Int))+((((Zw n.decls x2).length:Nat):Int))) (Y5 9 11 [12,13] (.n 66 (Z0 x1.args) .r) [0] [b5] ?_))))
    obtain ⟨x4,Ud⟩:=Zu (xs:=x1.args) (j:=0) (by obtain ⟨⟨a,ha2,_⟩,_⟩:=CW hws (by assumption);rw [ha2];simp)
    have hg1:=Jd Ud
    refine dx 14 (Zn none 0 1 (Y4 Ud)) (ZZ 5 8 [15,16,17] (.n 68 (.i x4) (.n 69 (Z0 (Zw n.decls x2)) (.n 70 (.i q) .r))) (Z9 11 (Yv 11 [] [0] [b5] (ih x3 (q+((Zw n.decls x2).length)) hwk ob ob) (Z9 18 (Yv 18 [] [] [] (Z5f (WG n.decls (q+((Zw n.decls x2).length)) x3) x4 (Zw n.decls x2) q (ha:=(by rw [Et];exact Z50 ((K0 _).1 hwk))) (hz:=(V3 (Eu Xu _ hwk) om))) (Z9 19 (dL 19 [] [] [Zr (K3 (WG n.decls (q+((Zw n.decls x2).length)) x3) x4 (Zw n.decls x2) q)] 1 2 ?_)))))))
    intro v4
    refine ZZ 2 2 [] (.n 72 (.sl [Zr (K3 (WG n.decls (q+((Zw n.decls x2).length)) x3) x4 (Zw n.decls x2) q)] none) (.p .r)) (Z9 20 (dp 20 6 [] [] (YH (ks++[K3 (WG n.decls (q+((Zw n.decls x2).length)) x3) x4 (Zw n.decls x2) q])) (YH ks) [Zr (K3 (WG n.decls (q+((Zw n.decls x2).length)) x3) x4 (Zw n.decls x2) q)] u none 2 (T5 _) (TG rfl) rfl (by simp<;>omega) (by simp [J8,Up]) ?_))
    intro v5
    refine Xd 0 1 [21] [(2,.i q),(3,.p b1 0),(4,.p b2 0),(6,.p b3 0),(7,.p b4 0),(8,.i k),(9,.p b5 0),(10,X6 (ks++[K3 (WG n.decls (q+((Zw n.decls x2).length)) x3) x4 (Zw n.decls x2) q]) v5),(11,Z7 (Zt n.decls x1.num) v3),(12,.i j)] (de (az (Z1 1 41 (.i j) (ZO j (Z6 1 (.n 12 (.i (j+1:Nat)) (.p (.d (.w (.w (.k .z)))))) (ie ?_))))))
    exact ZU ⟨j+1,v5,(ks++[K3 (WG n.decls (q+((Zw n.decls x2).length)) x3) x4 (Zw n.decls x2) q]),ob,(by simp;omega),(by have h:=Nc hkb XK;rw [Ev,Zj (by assumption),hfk,hg1] at h;exact h),rfl,rfl,rfl⟩ (wk [2,2,2,2,2,0,1,1] (fq (fq (fr (ZW j fl)))))
   refine aE 12 (Y5 7 12 [0,1,2,3,4] (.n 74 (X6 ks u) (.n 75 (ZB n) (.n 77 (Yz x1.kids) (.n 78 (.i j) .r)))) [4,0] [b1,b5] ?_)
   obtain ⟨x5,UI⟩:=Zu (xs:=x1.kids) (j:=j) om
   have hkb:=UI
   have hks:=Tc UI
   have hwk:=HB hws UI
   have hpk:=Z5.pz_le x5
   refine dx 5 (Zn none (j:Int) 2 (UD UI)) (ZZ 4 6 [6,7] (.n 80 (Zr x5) (.n 81 (.i q) .r)) (Z9 8 (Yv 8 [] [] [] (ih x5 q hwk ob ob) (Z9 9 (dL 9 [] [] [Zr (WG n.decls q x5)] 1 2 ?_)))))
   intro v6
   refine ZZ 2 2 [] (.n 83 (.sl [Zr (WG n.decls q x5)] none) (.p .r)) (Z9 10 (dp 10 6 [] [] (YH (ks++[WG n.decls q x5])) (YH ks) [Zr (WG n.decls q x5)] u none 2 (T5 _) (TG rfl) rfl (by simp<;>omega) (by simp [J8,Up]) ?_))
   intro v7
   refine ZZ 0 1 [11] (.n 10 (X6 (ks++[WG n.decls q x5]) v7) (.p (.d (.p (.d (.d (.p (.d (.d (.d (.d (.d (.d (.p (.d (.d (.w (.k (.k (.k (.d .r))))))))))))))))))))) (de (az (Z1 1 41 (.i j) (ZO j (Z6 1 (.n 12 (.i (j+1:Nat)) (.p (.d (.w (.w (.k .z)))))) (ie ?_))))))
   exact ZU ⟨j+1,v7,(ks++[WG n.decls q x5]),ob,(by simp;omega),(by have h:=Nc hkb XK;rw [Ev,Za (by assumption)] at h;exact h),rfl,rfl,rfl⟩ (wk [2,2,2,2,2,0,1,1] (fq (fq (fr (ZW j fl)))))
  have hK:=Z4y om XK
  refine ax 2 (aD 17 (Y5 6 17 [0,1,2,3,4,5,6,7,8,9,11] (.n 86 (ZQ xs v) (.n 88 (.i x1.op) (.n 90 (.i x1.num) (.n 92 (.i x1.into) (.n 94 (Z0 x1.args) (.n 96 (X6 ks u) .r)))))) [1,0,0,0,0] [b4,b5,b5,b5,b5] (Z9 10 (dc 10 [] [0,0,0,1] [b5,b5,b5,b4] (VJ x1.args) ?_))))
  rintro _ _ ⟨v8,rfl,rfl⟩
  refine ZX 4 5 [12] 97 (.agg [.i x1.op,.i x1.num,.i x1.into,Z0 x1.args,Yz ks]) (Z9 13 (dL 13 [1] [b4] [Y2 (Z4.mk x1.op x1.num x1.into x1.args ks)] 1 5 ?_))
  intro v9
  refine ZZ 3 3 [] (.n 98 (.sl [Y2 (Z4.mk x1.op x1.num x1.into x1.args ks)] none) (.p .r)) (Z9 14 (dp 14 8 [] [] (Zo (xs++[Z4.mk x1.op x1.num x1.into x1.args ks])) (Zo xs) [Y2 (Z4.mk x1.op x1.num x1.into x1.args ks)] v none 5 (YZ _) (TG rfl) rfl (by simp<;>omega) (by simp [Ws,WY]) ?_))
  intro v10
  refine ZX 1 2 [15] 100 (.p b4 0) (Z9 16 (YG 16 4 [] [] b4 [ZQ (xs++[Z4.mk x1.op x1.num x1.into x1.args ks]) v10,.i b.result] (de (ar (Yn 2 102 (.i x1.op) [4] [b5] (Zz [] (QU x1.op) (ie (JM (fun F h=>F=[(2,.i (((if Ym x1.op=true then q else q+1):Nat):Int)),(3,.p b1 0),(4,.p b2 0),(6,.p b3 0),(7,.p b4 0),(8,.i k)]/\h=[.obj b4 [ZQ (xs++[Z4.mk x1.op x1.num x1.into x1.args ks]) v10,.i b.result],.obj b3 [nl,.i 0],.obj b2 (Y8 b),.obj b1 (ZM n),.tail v10 5]) (fun _ _=>rfl) ?_ ?_))))))))
  ·refine ac (X3 x1.op) Iff.rfl (fun Yi=>?_) (fun Yi=>?_)
   ·refine az (ir 1 [(3,.p b1 0),(4,.p b2 0),(6,.p b3 0),(7,.p b4 0),(8,.i k),(104,.i q)] (ZO q (Z1 1 2 (.i (q+1:Nat)) (ie ?_))))
    exact ZV ⟨rfl,rfl⟩ (wk [0,4,4,4,0] (fc (x:=.i (q+1:Nat)) (li (by rw [Za (fun z=>by rw [hdf,z] at Yi;cases Yi)])) fl))
   refine ak ?_
   exact ZV ⟨rfl,rfl⟩ (wk [0,4,4,4,0] (fc (x:=.i q) (li (by rw [Zj (B7 fun z=>Yi (by rw [hdf,KU.2 z];rfl))])) fl))
  rintro F h ⟨rfl,rfl⟩
  refine az (ir 1 [(2,.i (((if Ym x1.op=true then q else q+1):Nat):Int)),(3,.p b1 0),(4,.p b2 0),(6,.p b3 0),(7,.p b4 0),(23,.i k)] (ZO k (Z1 1 8 (.i (k+1:Nat)) (ie ?_))))
  exact ZU ⟨k+1,(if Ym x1.op=true then q else q+1),(xs++[Z4.mk x1.op x1.num x1.into x1.args ks]),v10,ob,(by split<;>omega),(by simp;omega),(by have h:=Z52 Z3 YJ;rw [<-hK] at h;exact h),rfl,rfl,rfl⟩ (ZK 5 (fq (fr (ZW k fl))))
 refine ax 0 (ar (Yn 1 106 (.agg [ZQ xs v,.i b.result]) [0] [b4] (ZG 1 b3 [ZQ xs v,.i b.result] (ie ?_))))
 exact Zc (r3 [] [.agg [ZQ xs v,.i b.result]] [0] [(b3,b3)] ⟨rfl,rfl⟩ (Zg.agg (.cons (Zg.sl _ (Yw Zo (by rw [Et];exact Z51 om YJ))) (.cons (li (by rw [Et];rfl)) .nil))))
theorem Z5o (n:Zx) (hn:Xf n) (k:Nat):∀(b2:Z5) (m2:Nat),(wB n.decls b2)->(m2+9*b2.sz<=900000000)->(b2.sz<k)->Zk Tryz.prog 164 [ZB n,Zr b2,.i m2] [] (fun r h=>r=Zr (WG n.decls m2 b2)/\h=[]):=by
 induction k with
 | zero=>intro b mm _ _ h;omega
 | succ k ih=>intro b mm h1 h2 h3;exact Z5q n b mm hn h1 h2 fun b2 m2 k1 k2 k3=>ih b2 m2 k1 k2 om
theorem Z5p (n:Zx) (b:Z5) (mm:Nat) (hn:Xf n:=by exact ob) (hw:wB n.decls b:=by exact ob) (hb:mm+9*b.sz<=900000000:=by exact ob):Zk Tryz.prog 164 [ZB n,Zr b,.i mm] [] (fun r h=>r=Zr (WG n.decls mm b)/\h=[]):=Z5o n hn (b.sz+1) b mm hw hb om
theorem Hg (b:Z5) (hz:b.sz<=1000000000:=by exact ob):Zk Tryz.prog 243 [Zr b] [] (fun r h=>r=.i (((Yt b.steps):Nat):Int)/\h=[]):=by
 have hbz:=Vz b
 refine ZL 21 Tryz.func243 (ar (iA (Y8 b) ?_))
 intro b1
 refine ir 1 [(1,.p b1 0)] (ie (ar (Z1 1 3 (.i 0) (ie (aq (ab 0 (al (fun m F h=>∃(k:Nat),(k<=b.steps.length)/\(k+Yt (b.steps.drop k)=Yt b.steps)/\F=[(1,.p b1 0),(3,.i k)]/\h=[.obj b1 (Y8 b)]/\m=b.steps.length-k) _ _ _ ⟨0,ob,(by simp),rfl,rfl,rfl⟩ (wk [0] (fr (Yh fl))) ?_)))))))
 rintro m F h ⟨k,Yo,Zp,rfl,rfl,rfl⟩
 refine aq (ar (ZY 3 4 (.i k) 6 (Ya b.steps) [0] [b1] (iw (Vp b.steps) (Z1 2 9 (.b (decide ((k:Int)<(b.steps.length:Int)))) (ib (b:=(decide ((k:Int)<(b.steps.length:Int)))) 9 (fun Zb=>?_) (fun Zb=>?_))))))
 ·have ZP:(k:Int)<(b.steps.length:Int):=(dq).1 Zb
  refine Y0 3 (.n 11 (Ya b.steps) (.n 12 (.i k) (.k (.d .r)))) [0] [b1] ?_
  obtain ⟨x1,Z3⟩:=Zu (xs:=b.steps) (j:=k) om
  refine Zq (Zn none (k:Int) 5 (Ww Z3)) (Z1 2 15 (.i x1.op) (Zz [] (No x1.op) (Z1 1 17 (.b (Ym x1.op)) (ie (ac (Ym x1.op) Iff.rfl (fun Ze=>?_) (fun Ze=>?_))))))
  ·refine ak (ab 1 (az (Z1 1 18 (.i k) (ZO k (ir 1 [(1,.p b1 0),(3,.i (k+1:Nat))] (ie ?_))))))
   exact ZU ⟨k+1,ob,(Z1n Z3 Ze Zp),rfl,rfl,rfl⟩ (wk [0] (fr (ZW k fl)))
  refine ax 0 (ar (ir 2 [(2,.i k)] (ie ?_)))
  exact Zc (r2 [] [.i k] ⟨rfl,rfl⟩ (li (by have:=Z1o Z3 Ze Zp;omega)))
 have Y1:¬((k:Int)<(b.steps.length:Int)):=ZF dq Zb
 refine Z6 8 (.n 17 (.b false) (.k (.d .r))) (ie (WV (ax 0 (ar (ir 2 [(2,.i k)] (ie ?_))))))
 exact Zc (r2 [] [.i k] ⟨rfl,rfl⟩ (li (by have:=Z1m om Zp;omega)))
theorem Ns (b:Z5) (mm:Nat) (op:Int) (x:Int) (hm:mm<=b.steps.length:=by exact ob) (ha:∀s∈b.steps.take mm,s.op=op->∃a,s.args=[a]) (hz:b.sz<=1000000000:=by exact ob):Zk Tryz.prog 244 [Zr b,.i mm,.i op,.i x] [] (fun r h=>r=.i (Xy op x (b.steps.take mm) 0)/\h=[]):=by
 have hbz:=Vz b
 refine ZL 36 Tryz.func244 (ar (iA (Y8 b) ?_))
 intro b1
 refine ir 1 [(1,.i mm),(2,.i op),(3,.i x),(4,.p b1 0)] (ie (aq (ar (Z1 1 9 (.i 0) (ie (ab 0 (al (fun m F h=>∃(k:Nat),(k<=mm)/\(Xy op x ((b.steps.take mm).drop k) k=Xy op x (b.steps.take mm) 0)/\F=[(1,.i mm),(2,.i op),(3,.i x),(4,.p b1 0),(9,.i k)]/\h=[.obj b1 (Y8 b)]/\m=mm-k) _ _ _ ⟨0,ob,(by simp),rfl,rfl,rfl⟩ (wk [0] (fq (Yh fl))) ?_)))))))
 rintro m F h ⟨k,Yo,Zp,rfl,rfl,rfl⟩
 refine aq (ar (Z1 3 12 (.b (decide ((k:Int)<(mm:Int)))) (ie (ZT ((k:Int)<(mm:Int)) (fun Ze=>?_) (fun Ze=>?_)))))
 ·refine ak (aq (ab 1 (ar (ZY 3 16 (Ya b.steps) 17 (.i k) [0] [b1] ?_))))
  obtain ⟨x1,Z3⟩:=Zu (xs:=b.steps) (j:=k) om
  have hxt:(b.steps.take mm)[k]? = some x1:=by rw [List.getElem?_take_of_lt om];exact Z3
  have hxm:=Y7 hxt
  refine Zq (Zn none (k:Int) 5 (Ww Z3)) (Z1 5 23 (.b (x1.op==op)) (ib (b:=(x1.op==op)) 23 (fun Zb=>?_) (fun Zb=>?_)))
  ·have ZP:x1.op=op:=(Zh).1 Zb
   refine Y0 3 (.n 25 (Ya b.steps) (.n 26 (.i k) (.k (.d .r)))) [0] [b1] (Zq (Zn none (k:Int) 5 (Ww Z3)) (Z1 2 29 (Z0 x1.args) ?_))
   obtain ⟨x2,Zy⟩:=Zu (xs:=x1.args) (j:=0) (by obtain ⟨a,ha2⟩:=ha x1 hxm (by assumption);rw [ha2];simp)
   have hg0:=Jd Zy
   refine Zq (Zn none 0 1 (Y4 Zy)) (Z1 4 34 (.b (x2==x)) (ie (ac (x2==x) Zh (fun Zl=>?_) (fun Zl=>?_))))
   ·refine ar (ir 2 [(8,.i k)] (ie ?_))
    exact Zc (r2 [] [.i k] ⟨rfl,rfl⟩ (li (by have h:=OR hxt ⟨by assumption,by rw [hg0];assumption⟩ Zp;omega)))
   refine ak (az (Z1 1 13 (.i k) (ZO k (ir 1 [(1,.i mm),(2,.i op),(3,.i x),(4,.p b1 0),(9,.i (k+1:Nat))] (ie ?_)))))
   exact ZU ⟨k+1,ob,(HX hxt (fun z=>Zl (by rw [<-hg0];exact z.2)) Zp),rfl,rfl,rfl⟩ (wk [0] (fq (ZW k fl)))
  have Y1:¬(x1.op=op):=ZF Zh Zb
  refine Z6 11 (.n 34 (.b false) (.k (.d .r))) (ie (WV (ak (az (Z1 1 13 (.i k) (ZO k (ir 1 [(1,.i mm),(2,.i op),(3,.i x),(4,.p b1 0),(9,.i (k+1:Nat))] (ie ?_))))))))
  exact ZU ⟨k+1,ob,(HX hxt (fun z=>absurd z.1 (by assumption)) Zp),rfl,rfl,rfl⟩ (wk [0] (fq (ZW k fl)))
 refine ax 0 (ar (ir 1 [(8,.i (-1))] (ie ?_)))
 exact Zc (r2 [] [.i (-1)] ⟨rfl,rfl⟩ (li (by have h:=OQ (by rw [Wp];omega) Zp;omega)))
theorem Z58 (b:Z5) (frm0:Nat) (many:Nat) (hm:frm0<=b.steps.length:=by exact ob) (hz:b.sz<=1000000000:=by exact ob):Zk Tryz.prog 264 [Zr b,.i frm0,.i many] [] (fun r h=>r=.i (XQ many (b.steps.drop frm0) frm0)/\h=[]):=by
 have hbz:=Vz b
 refine ZL 44 Tryz.func264 (ar (iA (Y8 b) ?_))
 intro b1
 refine ir 1 [(1,.i frm0),(2,.i many),(3,.p b1 0)] (ie (aq (ar (Z1 2 7 (.i frm0) (ie (ab 0 (al (fun m F h=>∃(k:Nat),(k<=b.steps.length)/\(XQ many (b.steps.drop k) k=XQ many (b.steps.drop frm0) frm0)/\F=[(2,.i many),(3,.p b1 0),(7,.i k)]/\h=[.obj b1 (Y8 b)]/\m=b.steps.length-k) _ _ _ ⟨frm0,ob,rfl,rfl,rfl,rfl⟩ (wk [0] fl) ?_)))))))
 rintro m F h ⟨k,Yo,Zp,rfl,rfl,rfl⟩
 refine aq (ar (ZY 3 9 (.i k) 11 (Ya b.steps) [0] [b1] (iw (Vp b.steps) (Z1 1 13 (.b (decide ((k:Int)<(b.steps.length:Int)))) (ie (ZT ((k:Int)<(b.steps.length:Int)) (fun Ze=>?_) (fun Ze=>?_)))))))
 ·refine ak (aq (ab 1 (ar (ZY 3 17 (Ya b.steps) 18 (.i k) [0] [b1] ?_))))
  obtain ⟨x1,Z3⟩:=Zu (xs:=b.steps) (j:=k) om
  refine Zq (Zn none (k:Int) 5 (Ww Z3)) (XH 16 [(2,.i many),(3,.p b1 0),(7,.i k),(31,.b ((x1.op==6)&&(x1.into==0)))] [.obj b1 (Y8 b)] ?_ (fun hj1=>?_))
  ·refine Xm [(2,.i many),(3,.p b1 0),(7,.i k),(42,.b (((x1.op==6)&&(x1.into==0))&&((x1.args.length:Int)==(many:Int))))] [.obj b1 (Y8 b)] ?_ ?_
   ·refine ir 1 [(2,.i many),(3,.p b1 0),(7,.i k),(32,.b ((x1.op==6)&&(x1.into==0)))] (ib (b:=((x1.op==6)&&(x1.into==0))) 32 (fun Zb=>?_) (fun Zb=>?_))
    ·have ZP:(x1.op=6)/\(x1.into=0):=((YF Zh Zh)).1 Zb
     refine Y0 3 (.n 34 (Ya b.steps) (.n 35 (.i k) (.w .z))) [0] [b1] (Zq (Zn none (k:Int) 5 (Ww Z3)) (Z1 2 38 (Z0 x1.args) (iw (Yf x1.args) (Z1 3 42 (.b ((x1.args.length:Int)==(many:Int))) (ie ?_)))))
     exact wk [0] (fw (fr (Zs ((x1.args.length:Int)==(many:Int)) Zb fl)))
    have Y1:¬((x1.op=6)/\(x1.into=0)):=ZF (YF Zh Zh) Zb
    refine Z6 10 (.n 42 (.b false) (.d (.k (.k (.k .z))))) (ie ?_)
    exact wk [0] (fw (fr (Zs false Zb fl)))
   refine ac (((x1.op==6)&&(x1.into==0))&&((x1.args.length:Int)==(many:Int))) (p:=((x1.op=6)/\(x1.into=0))/\((x1.args.length:Int)=(many:Int))) (YF (YF Zh Zh) Zh) (fun Zl=>?_) (fun Zl=>?_)
   ·refine ar (ir 2 [(6,.i k)] (ie ?_))
    exact Zc (r2 [] [.i k] ⟨rfl,rfl⟩ (li (by have h:=Ph Z3 (show Qe many x1 from ⟨Zl.1,by omega⟩) Zp;omega)))
   refine ak (az (ir 1 [(2,.i many),(3,.p b1 0),(14,.i k)] (ZO k (Z1 1 7 (.i (k+1:Nat)) (ie ?_)))))
   exact ZU ⟨k+1,ob,(Pg Z3 (fun z=>Zl ⟨z.1,by have:=z.2;omega⟩) Zp),rfl,rfl,rfl⟩ (wk [0] (fw (ZW k fl)))
  refine ir 4 [(2,.i many),(3,.p b1 0),(7,.i k),(23,.b (x1.op==6))] (ib (b:=(x1.op==6)) 23 (fun Zv=>?_) (fun Zv=>?_))
  ·have YB:x1.op=6:=(Zh).1 Zv
   refine Y0 3 (.n 25 (Ya b.steps) (.n 26 (.i k) (.w .z))) [0] [b1] (Zq (Zn none (k:Int) 5 (Ww Z3)) (Z1 4 31 (.b (x1.into==0)) ?_))
   exact YC (wk [0] (fw (fr (Zs (x1.into==0) Zv fl)))) hj1
  have YM:¬(x1.op=6):=ZF Zh Zv
  refine Z6 8 (.n 31 (.b false) (.d (.k (.k (.k .z))))) ?_
  exact YC (wk [0] (fw (fr (Zs false Zv fl)))) hj1
 refine ax 0 (ar (ir 1 [(6,.i (-1))] (ie ?_)))
 exact Zc (r2 [] [.i (-1)] ⟨rfl,rfl⟩ (li (by have h:=Pf om Zp;omega)))
theorem Pu (b:Z5) (hz:b.sz<=1000000000):Zk Tryz.prog 86 [Zr b] [] (fun r h=>∃(v:Hd),r=.agg [.h v,.i b.result]/\h=[rK v 5 (Zm (Zo b.steps))]):=by
 have hbz:=Vz b
 refine ZL 28 Tryz.func86 (ar (iA (Y8 b) ?_))
 intro b1
 refine iA [nl,.i 0] ?_
 intro b2
 refine ie (ar (DQ 5 ?_))
 intro g1
 refine iR 3 [(1,.p b1 0),(2,.p b2 0),(8,.agg [.ms g1 0 0 0,.i b.result])] [2] [b1] (iA [nl,.i 0] ?_)
 intro b3
 refine ZG 0 b3 [.ms g1 0 0 0,.i b.result] (ie (aq (ar (Z1 1 4 (.i 0) (ie (ab 0 (al (fun m F h=>∃(k:Nat) (v:Hd),(k<=b.steps.length)/\F=[(1,.p b1 0),(2,.p b2 0),(3,.p b3 0),(4,.i k)]/\h=[.obj b3 [.h v,.i b.result],.obj b2 [nl,.i 0],.obj b1 (Y8 b),rK v 5 (Zm (Zo (b.steps.take k)))]/\m=b.steps.length-k) _ _ _ ⟨0,(⟨some ⟨g1,0,none⟩,0,0⟩:Hd),ob,rfl,rfl,rfl⟩ (wk [0,1,1,0] (fw (fr (Yh fl))) (e:=(rc (rc (rc (rr (ls:=[]) ob rz)))))) ?_)))))))
 rintro m F h ⟨k,v,Yo,rfl,rfl,rfl⟩
 refine aq (ar (ZY 3 9 (.i k) 11 (Ya b.steps) [2] [b1] (iw (Vp b.steps) (Z1 1 13 (.b (decide ((k:Int)<(b.steps.length:Int)))) (ie (ZT ((k:Int)<(b.steps.length:Int)) (fun Ze=>?_) (fun Ze=>?_)))))))
 ·refine ak (aq (ab 1 (aE 12 (Y5 7 12 [0,1,2,3,4] (.n 17 (.h v) (.n 19 (Ya b.steps) (.n 20 (.i k) .r))) [0,2] [b3,b1] ?_))))
  obtain ⟨x1,Z3⟩:=Zu (xs:=b.steps) (j:=k) om
  have hss:=KQ Z3
  refine dx 5 (Zn none (k:Int) 5 (Ww Z3)) (ZX 5 6 [6] 22 (Y2 x1) (Z9 7 (Yv 7 [] [0] [b3] (Nm x1) (Z9 8 (dL 8 [0] [b3] [Y2 x1] 1 5 ?_)))))
  intro v1
  refine ZZ 3 3 [] (.n 24 (.sl [Y2 x1] none) (.p .r)) (Z9 9 (Fi 9 4 k [] [] v 5 (Zm (Zo (b.steps.take k))) [Y2 x1] none (by rw [TW,Wp,Vs om]) (TG rfl) rfl (List.cons_ne_nil _ _) (by simp<;>omega) ?_))
  intro v2
  refine ZX 1 2 [10] 26 (.p b3 0) (Z9 11 (YG 11 2 [] [] b3 [.h v2,.i b.result] (de (az (Z1 1 14 (.i k) (ZO k (ir 1 [(1,.p b1 0),(2,.p b2 0),(3,.p b3 0),(4,.i (k+1:Nat))] (ie ?_))))))))
  exact ZU ⟨k+1,v2,ob,rfl,rfl,rfl⟩ (wk [0,2,2,0] (fw (fr (ZW k fl))) (e:=(rc (rc (rc (rr (ls:=Zm (Zo (b.steps.take k))++Zm [Y2 x1]) (IN Z3) rz))))))
 refine ax 0 (ar (Yn 1 27 (.agg [.h v,.i b.result]) [0] [b3] (ZG 1 b2 [.h v,.i b.result] (ie ?_))))
 exact Zc (r3 [3] [.agg [.h v,.i b.result]] [0] [(b2,b2)] ⟨v,rfl,rfl⟩ (lr _) (eq:=(rr (ls:=Zm (Zo (b.steps.take k))) (by rw [Vb om]) rz)))
theorem Pt (b:Z5) (hz:b.sz<=1000000000:=by exact ob) (h0:0<b.steps.length:=by exact ob):Zk Tryz.prog 86 [Zr b] [] (fun r h=>∃(g:Nat) (c:Nat),r=.agg [.ms g 0 b.steps.length c,.i b.result]/\h=[.row (.slice (some ⟨g,0,none⟩) b.steps.length c) 5 (Zm (Zo b.steps))]):=(Pu b hz).form (T:=fun v=>.agg [.h v,.i b.result]) (m:=b.steps.length) (TW _) om h0
theorem Z5g (ds:List Zf) (b:Z5) (x:Int) (many:Nat) (hw:wB ds b:=by exact ob) (hx:0<=x/\x<=900000000:=by exact ob) (hz:b.sz<=1000000000:=by exact ob):Zk Tryz.prog 242 [Zr b,.i x,.i many] [] (fun r h=>r=Zr (V9 b x many)/\h=[]):=by
 have hbz:=Vz b
 have ZD:=(K0 b).1 hw
 have hrl:=Cx b.steps
 refine ZL 57 Tryz.func242 (ar (iA (Y8 b) ?_))
 intro b1
 refine iA [nl,.i 0] ?_
 intro b2
 refine ie (aD 6 (W2 3 6 [0,1,3] [(1,.i x),(2,.i many),(3,.p b1 0),(6,.p b2 0),(11,Zr b),(12,Zr b),(14,.i x)] [1,1] [b1,b1] (Z9 2 (Yv 2 [] [1] [b1] (Hg b) (Z9 4 (Yv 4 [] [] [] (Ns b (Yt b.steps) 16 x (ha:=(fun s hs h16=>HI (EO ZD s (TP hs) (by rw [h16];rfl))))) (ZX 0 1 [5] 7 (.i (Xy 16 x (b.steps.take (Yt b.steps)) 0)) (de (aD 6 (Y5 3 6 [0,1,3] (.n 16 (Zr b) (.n 17 (Zr b) (.n 19 (.i many) .r))) [1,1] [b1,b1] (Z9 2 (Yv 2 [] [1] [b1] (Hg b) (Z9 4 (Yv 4 [] [] [] (Z58 b (Yt b.steps) many) (ZX 0 1 [5] 8 (.i (XQ many (b.steps.drop (Yt b.steps)) (Yt b.steps))) (de (aq (ar (Xm [(1,.i x),(3,.p b1 0),(6,.p b2 0),(7,.i (Xy 16 x (b.steps.take (Yt b.steps)) 0)),(8,.i (XQ many (b.steps.drop (Yt b.steps)) (Yt b.steps))),(26,.b ((decide ((Xy 16 x (b.steps.take (Yt b.steps)) 0)<0))||(decide ((XQ many (b.steps.drop (Yt b.steps)) (Yt b.steps))<0))))] [.obj b2 [nl,.i 0],.obj b1 (Y8 b)] ?_ ?_)))))))))))))))))))
 ·refine ir 3 [(1,.i x),(3,.p b1 0),(6,.p b2 0),(7,.i (Xy 16 x (b.steps.take (Yt b.steps)) 0)),(8,.i (XQ many (b.steps.drop (Yt b.steps)) (Yt b.steps))),(23,.b (decide ((Xy 16 x (b.steps.take (Yt b.steps)) 0)<0)))] (ib (b:=(decide ((Xy 16 x (b.steps.take (Yt b.steps)) 0)<0))) 23 (fun Zb=>?_) (fun Zb=>?_))
  ·have ZP:(Xy 16 x (b.steps.take (Yt b.steps)) 0)<0:=(dq).1 Zb
   refine Z6 3 (.n 26 (.b true) (.d (.w (.k .z)))) (ie ?_)
   exact wk [0,0] (fq (fr (Zs true Zb fl)))
  have Y1:¬((Xy 16 x (b.steps.take (Yt b.steps)) 0)<0):=ZF dq Zb
  refine Z6 3 (.n 26 (.b (decide ((XQ many (b.steps.drop (Yt b.steps)) (Yt b.steps))<0))) (.d (.w (.k .z)))) (ie ?_)
  exact wk [0,0] (fq (fr (Zs (decide ((XQ many (b.steps.drop (Yt b.steps)) (Yt b.steps))<0)) Zb fl)))
 refine ac ((decide ((Xy 16 x (b.steps.take (Yt b.steps)) 0)<0))||(decide ((XQ many (b.steps.drop (Yt b.steps)) (Yt b.steps))<0))) (p:=((Xy 16 x (b.steps.take (Yt b.steps)) 0)<0)∨((XQ many (b.steps.drop (Yt b.steps)) (Yt b.steps))<0)) (Yc dq dq) (fun Ze=>?_) (fun Ze=>?_)
 ·refine ar (iR 1 [(6,.p b2 0),(27,Zr b)] [1] [b1] (ZG 0 b2 (Y8 b) (ie ?_)))
  exact Zc (r3 [] [Zr b] [0] [(b2,b2)] ⟨rfl,rfl⟩ (Zg.agg (.cons (Zg.sl _ (Yw Zo (Z3i Ze).symm)) (.cons li .nil))))
 obtain ⟨o1,o2,so,o3,o4⟩:=CG (xs:=b.steps) (x:=x) (fun z=>Ze (.inl z))
 obtain ⟨p1,p2,sc,p3,p4,p5⟩:=JT (xs:=b.steps) (many:=many) (fun z=>Ze (.inr z))
 rw [show V8 b.steps x=(Xy 16 x (b.steps.take (Yt b.steps)) 0) from rfl] at o1 o2
 rw [show Wq b.steps many=(XQ many (b.steps.drop (Yt b.steps)) (Yt b.steps)) from rfl] at p1 p2
 refine ak (ar (iR 1 [(1,.i x),(6,.p b2 0),(7,.i (Xy 16 x (b.steps.take (Yt b.steps)) 0)),(8,.i (XQ many (b.steps.drop (Yt b.steps)) (Yt b.steps))),(28,Zr b)] [1] [b1] (ic [] (Pt b) ?_)))
 rintro _ _ ⟨g1,c1,rfl,rfl⟩
 refine iA [nl,.i 0] ?_
 intro b3
 refine ZG 0 b3 [.ms g1 0 b.steps.length c1,.i b.result] (ie (aD 7 (Y5 3 7 [0,1,2,3] (.n 31 (.ms g1 0 b.steps.length c1) (.n 32 (.i (Xy 16 x (b.steps.take (Yt b.steps)) 0)) (.n 33 (.i x) .r))) [0] [b3] (Z9 4 (Yv 4 [] [0] [b3] (KP 17 x) (dx 5 (W5 g1 b.steps.length c1 ((Xy 16 x (b.steps.take (Yt b.steps)) 0).toNat) 5 (Xy 16 x (b.steps.take (Yt b.steps)) 0)) (Z9 6 (AB 6 1 [] [] g1 b.steps.length c1 5 (((Xy 16 x (b.steps.take (Yt b.steps)) 0).toNat)*5) (Ye (Zi 17 x)) (Zm (Zo b.steps)) (Zm (Zo (b.steps.set (Xy 16 x (b.steps.take (Yt b.steps)) 0).toNat (Zi 17 x)))) (by have:(Ye (Zi 17 x)).length=5:=rfl;rw [TW];omega) (DC o3) (de (ar (ZY 3 37 (.ms g1 0 b.steps.length c1) 38 (.i (XQ many (b.steps.drop (Yt b.steps)) (Yt b.steps))) [1] [b3] (Zq (W5 g1 b.steps.length c1 ((XQ many (b.steps.drop (Yt b.steps)) (Yt b.steps)).toNat) 5 (XQ many (b.steps.drop (Yt b.steps)) (Yt b.steps))) (VO (V0 0 g1 b.steps.length c1 5 (((XQ many (b.steps.drop (Yt b.steps)) (Yt b.steps)).toNat)*5) (Zm (Zo (b.steps.set (Xy 16 x (b.steps.take (Yt b.steps)) 0).toNat (Zi 17 x)))) (Ye sc) 44 (Y2 sc) (FM (Eg Ze p3))) (iA [.i 0,.i 0,.i 0,nl,nl] ?_))))))))))))))
 intro b4
 refine ZG 0 b4 (Ye sc) (ie (ar (Y0 8 (.n 42 (.ms g1 0 b.steps.length c1) (.n 43 (.i (XQ many (b.steps.drop (Yt b.steps)) (Yt b.steps))) (.n 45 (.i sc.op) (.n 47 (.i sc.num) (.n 48 (.i x) .r))))) [2,0,0] [b3,b4,b4] (ia ((1+x)) ((1)+(x)) (Yn 5 54 (.agg [.i sc.op,.i sc.num,.i (1+x),Z0 sc.args,Yz sc.kids]) [0,0] [b4,b4] (Zq (W5 g1 b.steps.length c1 ((XQ many (b.steps.drop (Yt b.steps)) (Yt b.steps)).toNat) 5 (XQ many (b.steps.drop (Yt b.steps)) (Yt b.steps))) (Cp 1 g1 b.steps.length c1 5 (((XQ many (b.steps.drop (Yt b.steps)) (Yt b.steps)).toNat)*5) [.i sc.op,.i sc.num,.i (1+x),Z0 sc.args,Yz sc.kids] (Zm (Zo (b.steps.set (Xy 16 x (b.steps.take (Yt b.steps)) 0).toNat (Zi 17 x)))) (Zm (Zo ((b.steps.set (Xy 16 x (b.steps.take (Yt b.steps)) 0).toNat (Zi 17 x)).set (XQ many (b.steps.drop (Yt b.steps)) (Yt b.steps)).toNat (TF (1+x) sc)))) (by rw [TW,UQ];simp only [YQ,Xp];omega) (DC (t:=TF (1+x) sc) (Eg Ze p3)) (XL (UB 0 1 0 (.slice (some ⟨g1,0,none⟩) b.steps.length c1) 5 b3 (Zo ((b.steps.set (Xy 16 x (b.steps.take (Yt b.steps)) 0).toNat (Zi 17 x)).set (XQ many (b.steps.drop (Yt b.steps)) (Yt b.steps)).toNat (TF (1+x) sc))) [.ms g1 0 b.steps.length c1,.i b.result] (YZ _) rfl) (ie (ar (Yn 1 56 (.agg [ZQ ((b.steps.set (Xy 16 x (b.steps.take (Yt b.steps)) 0).toNat (Zi 17 x)).set (XQ many (b.steps.drop (Yt b.steps)) (Yt b.steps)).toNat (TF (1+x) sc)) (.slice (some ⟨g1,0,none⟩) b.steps.length c1),.i b.result]) [0] [b3] (ZG 3 b2 [ZQ ((b.steps.set (Xy 16 x (b.steps.take (Yt b.steps)) 0).toNat (Zi 17 x)).set (XQ many (b.steps.drop (Yt b.steps)) (Yt b.steps)).toNat (TF (1+x) sc)) (.slice (some ⟨g1,0,none⟩) b.steps.length c1),.i b.result] (ie ?_)))))))))))))
 exact Zc (r3 [] [.agg [ZQ ((b.steps.set (Xy 16 x (b.steps.take (Yt b.steps)) 0).toNat (Zi 17 x)).set (XQ many (b.steps.drop (Yt b.steps)) (Yt b.steps)).toNat (TF (1+x) sc)) (.slice (some ⟨g1,0,none⟩) b.steps.length c1),.i b.result]] [0] [(b2,b2)] ⟨rfl,rfl⟩ (Zg.agg (.cons (Zg.sl _ (Yw Zo (Z3j Ze p5))) (.cons li .nil))))
theorem Z5d (xs:List Int) (y:Int) (hl:xs.length<=1000000000:=by exact ob):Zk Tryz.prog 118 [Z0 xs,.i y] [] (fun r h=>∃(ys:List Int),r=Z0 ys/\h=[]/\(ys.length<=xs.length+1/\∀z,z∈ys↔z∈xs∨z=y)):=by
 refine ZL 49 Tryz.func118 (ar (ir 1 [(0,Z0 xs),(1,.i y)] (ie (ar (iL (Z8 []) 0 1 ?_)))))
 intro v1
 refine Z1 1 5 (Z7 [] v1) (ie (ar (Z1 1 6 (.b false) (ie (aq (ar (Z1 1 7 (.i 0) (ie (ab 0 (al (fun m F h=>∃(k:Nat) (acc:List Int) (d:Bool) (v:Value),(k<=xs.length)/\(Qv xs y k acc d)/\F=[(0,Z0 xs),(1,.i y),(5,Z7 acc v),(6,.b d),(7,.i k)]/\h=[.tail v 1]/\m=xs.length-k) _ _ _ ⟨0,[],false,v1,ob,(Qv.zero xs y),rfl,rfl,rfl⟩ (wk [0] (fq (Yh fl))) ?_))))))))))
 rintro m F h ⟨k,acc,d,v,Yo,Zp,rfl,rfl,rfl⟩
 refine aq (ar (Yq 2 9 (.i k) 10 (Z0 xs) (iw (Yf xs) (Z1 1 12 (.b (decide ((k:Int)<(xs.length:Int)))) (ie (ZT ((k:Int)<(xs.length:Int)) (fun Ze=>?_) (fun Ze=>?_)))))))
 ·obtain ⟨x1,Z3⟩:=Zu (xs:=xs) (j:=k) om
  have hil:acc.length<=k+1:=V3 Zp.len (by split<;>omega)
  refine ak (aq (ab 1 (aq (ar (Xm [(0,Z0 xs),(1,.i y),(5,Z7 acc v),(6,.b d),(7,.i k),(24,.b ((!d)&&(decide (x1>=y))))] [.tail v 1] ?_ ?_)))))
  ·refine ir 3 [(0,Z0 xs),(1,.i y),(5,Z7 acc v),(6,.b d),(7,.i k),(17,.b (!d))] (ib (b:=(!d)) 17 (fun Zb=>?_) (fun Zb=>?_))
   ·have ZP:¬(d=true):=((Yp Iff.rfl)).1 Zb
    refine Z6 2 (.n 18 (Z0 xs) (.n 19 (.i k) (.w (.k (.k .z))))) (Zq (Zn none (k:Int) 1 (Y4 Z3)) (Z1 4 24 (.b (decide (x1>=y))) (ie ?_)))
    exact wk [0] (fq (fr (Zs (decide (x1>=y)) Zb fl)))
   have Y1:¬(¬(d=true)):=ZF (Yp Iff.rfl) Zb
   refine Z6 7 (.n 24 (.b false) (.d (.w (.k .z)))) (ie ?_)
   exact wk [0] (fq (fr (Zs false Zb fl)))
  refine XJ (fun F h=>∃(acc2:List Int) (d2:Bool) (w:Value),((acc2=acc/\d2=d)∨(acc2=acc++[y]/\d2=true/\¬d=true)∨(acc2=acc/\d2=true/\x1=y))/\(acc2.length<=acc.length+1)/\F=[(0,Z0 xs),(1,.i y),(5,Z7 acc2 w),(6,.b d2),(7,.i k)]/\h=[.tail w 1]) ?_ ?_
  ·refine ac ((!d)&&(decide (x1>=y))) (p:=(¬(d=true))/\(x1>=y)) (YF (Yp Iff.rfl) dq) (fun Zl=>?_) (fun Zl=>?_)
   ·refine aq (ar (ir 2 [(0,Z0 xs),(1,.i y),(5,Z7 acc v),(7,.i k),(25,Z0 xs),(26,.i k)] (Zq (Zn none (k:Int) 1 (Y4 Z3)) (Z1 3 30 (.b (decide (x1>y))) (ie (XJ (fun F h=>∃(w3:Value),F=[(0,Z0 xs),(1,.i y),(5,Z7 (if x1>y then (acc++[y]) else acc) w3),(7,.i k)]/\h=[.tail w3 1]) ?_ ?_))))))
    ·refine ZT (x1>y) (fun ZI=>?_) (fun ZI=>?_)
     ·refine az (ir 2 [(0,Z0 xs),(1,.i y),(7,.i k),(31,Z7 acc v),(32,.i y)] (iL (Z8 [y]) 1 1 ?_))
      intro v2
      refine Z6 0 (.n 33 (Z0 [y]) (.p .r)) (ip 1 (Z8 (acc++[y])) (Z8 acc) (Z8 [y]) v none 1 (YE _) (YE _) (XY _) (by simp<;>omega) (by simp [XX,Z8]) ?_)
      intro v3
      refine Z1 1 5 (Z7 (acc++[y]) v3) (ie ?_)
      exact ZV ⟨v3,rfl,rfl⟩ (wk [0] (fw (fc (x:=Z7 (acc++[y]) v3) (Zg.slh _ (Yw Z8 (by first|rfl|(rw [Zj ZI])|(rw [Za ZI])|(simp [ZI];done)|(rw [Xo];simp [ZI];done)|omega))) fl)))
     refine ak ?_
     exact ZV ⟨v,rfl,rfl⟩ (wk [0] (fw (fc (x:=Z7 acc v) (Zg.slh _ (Yw Z8 (by first|rfl|(rw [Zj ZI])|(rw [Za ZI])|(simp [ZI];done)|(rw [Xo];simp [ZI];done)|omega))) fl)))
    rintro F h ⟨w3,rfl,rfl⟩
    refine az (ir 1 [(0,Z0 xs),(1,.i y),(5,Z7 (if x1>y then (acc++[y]) else acc) w3),(6,.b true),(7,.i k)] (ie ?_))
    exact ZV ⟨(if x1>y then (acc++[y]) else acc),true,w3,(if h:x1>y then (by rw [Zj h];exact .inr (.inl ⟨rfl,rfl,Zl.1⟩)) else (by rw [Za h];exact .inr (.inr ⟨rfl,rfl,by have:=Zl.2;omega⟩))),(by split<;>simp),rfl,rfl⟩ (wk [0] fl)
   refine ak ?_
   exact ZV ⟨acc,d,v,(.inl ⟨rfl,rfl⟩),ob,rfl,rfl⟩ (wk [0] fl)
  rintro F h ⟨acc2,d2,w,Vw,Jn,rfl,rfl⟩
  refine az (ir 3 [(0,Z0 xs),(1,.i y),(6,.b d2),(7,.i k),(35,Z7 acc2 w),(36,Z0 xs),(37,.i k)] (Zq (Zn none (k:Int) 1 (Y4 Z3)) (Z1 1 39 (.i x1) (iL (Z8 [x1]) 1 1 ?_))))
  intro v4
  refine Z6 0 (.n 40 (Z0 [x1]) (.p .r)) (ip 1 (Z8 (acc2++[x1])) (Z8 acc2) (Z8 [x1]) w none 1 (YE _) (YE _) (XY _) (by simp<;>omega) (by simp [XX,Z8]) ?_)
  intro v5
  refine Z1 1 5 (Z7 (acc2++[x1]) v5) (ie (az (Z1 1 13 (.i k) (ZO k (Z6 1 (.n 7 (.i (k+1:Nat)) (.p (.d (.k (.p (.d (.d (.p (.k (.k (.k .z))))))))))) (ie ?_))))))
  exact ZU ⟨k+1,(acc2++[x1]),d2,v5,ob,(Zp.go Z3 Vw),rfl,rfl,rfl⟩ (wk [0] (fq (ZW k fl)))
 have hil:acc.length<=k+1:=V3 Zp.len (by split<;>omega)
 refine ax 0 (aq (ar (Z1 2 43 (.b (!d)) (ie (XJ (fun F h=>∃(w4:Value),F=[(5,Z7 (if d=true then acc else (acc++[y])) w4)]/\h=[.tail w4 1]) ?_ ?_)))))
 ·refine ac (!d) (p:=¬(d=true)) (Yp Iff.rfl) (fun Yi=>?_) (fun Yi=>?_)
  ·refine az (ir 2 [(44,Z7 acc v),(45,.i y)] (iL (Z8 [y]) 1 1 ?_))
   intro v6
   refine Z6 0 (.n 46 (Z0 [y]) (.p .r)) (ip 1 (Z8 (acc++[y])) (Z8 acc) (Z8 [y]) v none 1 (YE _) (YE _) (XY _) (by simp<;>omega) (by simp [XX,Z8]) ?_)
   intro v7
   refine ir 1 [(5,Z7 (acc++[y]) v7)] (ie ?_)
   exact ZV ⟨v7,rfl,rfl⟩ (wk [0] (fc (x:=Z7 (acc++[y]) v7) (Zg.slh _ (Yw Z8 (by first|rfl|(rw [Zj Yi])|(rw [Za Yi])|(simp [Yi];done)|(rw [Xo];simp [Yi];done)|omega))) fl))
  refine ak ?_
  exact ZV ⟨v,rfl,rfl⟩ (wk [0] (fc (x:=Z7 acc v) (Zg.slh _ (Yw Z8 (by first|rfl|(rw [Zj Yi])|(rw [Za Yi])|(simp [Yi];done)|(rw [Xo];simp [Yi];done)|omega))) fl))
 rintro F h ⟨w4,rfl,rfl⟩
 refine ar (ir 2 [(4,Z7 (if d=true then acc else (acc++[y])) w4)] (ie ?_))
 exact Zc (r2 [] [Z7 (if d=true then acc else (acc++[y])) w4] ⟨(if d=true then acc else (acc++[y])),rfl,rfl,(if hd:d=true then (by rw [Zj hd];exact (Zp.fin om).1 hd) else (by rw [Za hd];exact (Zp.fin om).2 hd))⟩ (Zg.forget _ _))
theorem Z5j (n:Zx) (s:Z4) (j:Nat) (kept:List Int) (kd:Z5) (hn:Xf n) (hws:wS n.decls s) (hkd:s.kids[j]? = some kd) (hnk:Q0 kd) (hK:kept.length+s.sz<=900000000) (ih:∀(b2:Z5) (K2:List Int),(wB n.decls b2)->(Aa b2)->(K2.length+b2.sz<=900000000)->(b2.sz<s.sz)->Zk Tryz.prog 165 [ZB n,Zr b2,Z0 K2] [] (fun r h=>r=Zr (Wt n.decls K2 b2)/\h=[])):Zk Tryz.prog 209 [ZB n,Y2 s,.i j,Z0 kept] [] (fun r h=>r=Zr (UZ n.decls kept s.op s.num s.args j kd)/\h=[]):=by
 have Xu:=hn.decls
 have hks:=Tc hkd
 have hwk:=HB hws hkd
 have haz:=Qa s
 have hjl:=(XM.1 hkd).1
 refine ZL 65 Tryz.func209 (ar (iA (ZM n) ?_))
 intro b1
 refine iA (Ye s) ?_
 intro b2
 refine iA [nl,.i 0] ?_
 intro b3
 refine ie (aq (ar (iR 3 [(2,.i j),(3,Z0 kept),(4,.p b1 0),(5,.p b2 0),(8,.p b3 0),(14,.b (s.op != 8))] [1] [b2] (ie (ac (s.op != 8) Yg (fun Ze=>?_) (fun Ze=>?_))))))
 ·refine aD 9 (Y5 5 9 [0,1,2,3] (.n 15 (ZB n) (.n 17 (Yz s.kids) (.n 18 (.i j) .r))) [2,1] [b1,b2] (dx 4 (Zn none (j:Int) 2 (UD hkd)) (ZZ 2 4 [5,6] (.n 20 (Zr kd) (.n 21 (Z0 kept) .r)) (Z9 7 (Yv 7 [] [] [] (ih kd kept (by first|exact hwk|exact Jn) (by first|exact AW hnk|exact Gl) ob ob) (Z9 8 (YG 8 0 [] [] b3 (Y8 (Wt n.decls kept kd)) (de ?_))))))))
  have hE:=MR (ds:=n.decls) (kept:=kept) (op:=s.op) (num:=s.num) (args:=s.args) (j:=j) (kd:=kd) (fun z=>Ze z.1)
  exact Zc (r3 [] [Zr (Wt n.decls kept kd)] [0] [(b3,b3)] ⟨rfl,rfl⟩ (Zg.agg (.cons (Zg.sl _ (Yw Zo (by rw [hE]))) (.cons (li (by rw [hE])) .nil))))
 refine ak (ar (Yn 2 24 (Z0 s.args) [1] [b2] ?_))
 obtain ⟨x1,Z3⟩:=Zu (xs:=s.args) (j:=0) (by obtain ⟨⟨a,ha2,_⟩,_⟩:=CW hws om;rw [ha2];simp)
 have hg1:=Jd Z3
 have hxb:0<=x1/\x1<=900000000:=by obtain ⟨⟨a,ha2,ha3⟩,_⟩:=CW hws om;rw [ha2] at hg1;have:a=x1:=hg1;omega
 refine Zq (Zn none 0 1 (Y4 Z3)) (Z1 2 9 (.i x1) (ie (ar (ZY 3 28 (Yz s.kids) 29 (.i j) [1] [b2] (Zq (Zn none (j:Int) 2 (UD hkd)) (Z1 1 31 (Zr kd) (iA [nl,.i 0] ?_)))))))
 intro b4
 refine ZG 0 b4 (Y8 kd) (ie (aq (ar (Yq 2 32 (Z0 kept) 33 (.i x1) (Zz [] (U3 kept x1) (Z1 1 35 (.b (!(decide (x1∈kept)))) (ie (XJ (fun F h=>∃(B2:Z5) (K2:List Int),(Wt n.decls K2 B2=UZ n.decls kept s.op s.num s.args j kd)/\(wB n.decls B2)/\(Aa B2)/\(B2.sz<=kd.sz)/\(K2.length<=kept.length+1)/\F=[(3,Z0 K2),(4,.p b1 0),(8,.p b3 0),(10,.p b4 0)]/\h=[.obj b4 (Y8 B2),.obj b3 [nl,.i 0],.obj b1 (ZM n)]) ?_ ?_))))))))
 ·refine ac (!(decide (x1∈kept))) (p:=¬(x1∈kept)) (Yp dq) (fun Zl=>?_) (fun Zl=>?_)
  ·refine aD 16 (W2 7 16 [0,1,2,3,4,5,6,7,9] [(3,Z0 kept),(4,.p b1 0),(8,.p b3 0),(9,.i x1),(10,.p b4 0),(36,Zr kd),(37,.i x1),(39,Zd n.decls),(41,Zd n.decls),(43,.i s.num),(45,.i j)] [0,3,3,2] [b4,b1,b1,b2] (Z9 8 (dc 8 [] [3,0] [b1,b4] (KO n.decls s.num) ?_)))
   rintro _ _ ⟨v1,rfl,rfl⟩
   obtain ⟨x2,Zy⟩:=Zu (xs:=Zt n.decls s.num) (j:=j) (by have h:=(CW hws om).2;omega)
   have hfl:(VG n.decls s.num j).length=(Zw n.decls x2).length:=by rw [IH (by rw [Kk,Zy];rfl)]
   have hcf:=VN Xu x2
   refine dx 10 (Zn (some v1) (j:Int) 1 (Y4 Zy)) (ZX 4 5 [11] 47 (.i x2) (Z9 12 (Yv 12 [] [0] [b4] (Ql n.decls x2) (dn 13 (.i (((Zw n.decls x2).length:Nat):Int)) (.i (((Z8 (Zw n.decls x2)).length:Nat):Int)) (li (by rw [Yf])) (Z9 14 (Yv 14 [] [] [] (Z5g n.decls kd x1 ((Zw n.decls x2).length) (hw:=hwk) (hx:=hxb)) ?_))))))
   have hwr:=Z7j (x:=x1) (many:=(Zw n.decls x2).length) hwk
   have hsr:=Z3g (x:=x1) (many:=(Zw n.decls x2).length) hwk
   refine Z9 15 (YG 15 1 [] [] b4 (Y8 (V9 kd x1 ((Zw n.decls x2).length))) (de (ar (Yn 1 51 (Zr (V9 kd x1 ((Zw n.decls x2).length))) [0] [b4] (Zz [] (Hg (V9 kd x1 ((Zw n.decls x2).length))) (Z1 1 11 (.i (((Yt (V9 kd x1 ((Zw n.decls x2).length)).steps):Nat):Int)) (ie (ar (Y0 3 (.n 53 (Zr (V9 kd x1 ((Zw n.decls x2).length))) (.n 54 (.i (((Yt (V9 kd x1 ((Zw n.decls x2).length)).steps):Nat):Int)) (.n 55 (.i x1) .r))) [0] [b4] (Zz [] (Ns (V9 kd x1 ((Zw n.decls x2).length)) (Yt (V9 kd x1 ((Zw n.decls x2).length)).steps) 17 x1 (hm:=(Cx _)) (ha:=(fun s2 hs2 h17=>HI (EO ((K0 _).1 hwr) s2 (TP hs2) (by rw [h17];rfl))))) (Z1 1 57 (.b (decide ((Xy 17 x1 ((V9 kd x1 ((Zw n.decls x2).length)).steps.take (Yt (V9 kd x1 ((Zw n.decls x2).length)).steps)) 0)>=0))) (ie (ZT ((Xy 17 x1 ((V9 kd x1 ((Zw n.decls x2).length)).steps.take (Yt (V9 kd x1 ((Zw n.decls x2).length)).steps)) 0)>=0) (fun ZI=>?_) (fun ZI=>?_))))))))))))))
   ·refine az (Yq 2 58 (Z0 kept) 59 (.i x1) (ic [] (Z5d kept x1) ?_))
    rintro _ _ ⟨ys1,rfl,rfl,ZP⟩
    have hin:=ZP
    refine ir 1 [(3,Z0 ys1),(4,.p b1 0),(8,.p b3 0),(10,.p b4 0)] (ie ?_)
    exact ZV ⟨_,_,(Z3y om hg1 Zl hfl ((NU ((CC kd).1 hnk)).1 ZI) hin.2),hwr,(Ma hnk),ob,hin.1,rfl,rfl⟩ (wk [0,1,2] (fc (x:=Z0 ys1) (Zg.sl _ (Yw Z8 (by first|rfl|(rw [Zj Zl])|(rw [Za Zl])|(simp [Zl,ZI,ZP];done)|(rw [Xo];simp [Zl,ZI,ZP];done)|omega))) fl))
   refine ak ?_
   exact ZV ⟨_,_,(Z3z om hg1 Zl hfl (B7 fun z=>ZI ((NU ((CC kd).1 hnk)).2 z))),hwr,(Ma hnk),ob,ob,rfl,rfl⟩ (wk [0,1,2] (fc (x:=Z0 kept) (Zg.sl _ (Yw Z8 (by first|rfl|(rw [Zj Zl])|(rw [Za Zl])|(simp [Zl,ZI];done)|(rw [Xo];simp [Zl,ZI];done)|omega))) fl))
  refine ak ?_
  exact ZV ⟨_,_,(MR (fun z=>Zl (hg1▸z.2))),hwk,(AW hnk),ob,ob,rfl,rfl⟩ (wk [0,0,1] (fc (x:=Z0 kept) (Zg.sl _ (Yw Z8 (by first|rfl|(rw [Zj Zl])|(rw [Za Zl])|(simp [Zl];done)|(rw [Xo];simp [Zl];done)|omega))) fl))
 rintro F h ⟨B2,K2,Vw,Jn,Gl,Z84,Z85,rfl,rfl⟩
 refine ar (iR 3 [(8,.p b3 0),(61,ZB n),(62,Zr B2),(63,Z0 K2)] [2,0] [b1,b4] (Zz [] (ih B2 K2 (by first|exact hwk|exact Jn) (by first|exact AW hnk|exact Gl) ob ob) (ZG 1 b3 (Y8 (Wt n.decls K2 B2)) (ie ?_))))
 exact Zc (r3 [] [Zr (Wt n.decls K2 B2)] [0] [(b3,b3)] ⟨rfl,rfl⟩ (Zg.agg (.cons (Zg.sl _ (Yw Zo (by rw [Vw]))) (.cons (li (by rw [Vw])) .nil))))
theorem Z5i (n:Zx) (b:Z5) (kept:List Int) (hn:Xf n) (hw:wB n.decls b) (hn2:Aa b) (hK:kept.length+b.sz<=900000000) (ih:∀(s:Z4) (j:Nat) (kept:List Int) (kd:Z5),(wS n.decls s)->(s.kids[j]? = some kd)->(Q0 kd)->(kept.length+s.sz<=900000000)->(s.sz<b.sz)->Zk Tryz.prog 209 [ZB n,Y2 s,.i j,Z0 kept] [] (fun r h=>r=Zr (UZ n.decls kept s.op s.num s.args j kd)/\h=[])):Zk Tryz.prog 165 [ZB n,Zr b,Z0 kept] [] (fun r h=>r=Zr (Wt n.decls kept b)/\h=[]):=by
 have Xu:=hn.decls
 have hbz:=Vz b
 refine ZL 61 Tryz.func165 (ar (iA (ZM n) ?_))
 intro b1
 refine iA (Y8 b) ?_
 intro b2
 refine iA [nl,.i 0] ?_
 intro b3
 refine ie (ar (iL (Zo []) 0 5 ?_))
 intro v1
 refine iR 3 [(2,Z0 kept),(3,.p b1 0),(4,.p b2 0),(6,.p b3 0),(15,.agg [ZQ [] v1,.i b.result])] [2] [b2] (iA [nl,.i 0] ?_)
 intro b4
 refine ZG 0 b4 [ZQ [] v1,.i b.result] (ie (aq (ar (Z1 1 8 (.i 0) (ie (ab 0 (al (fun m F h=>∃(k:Nat) (xs:List Z4) (v:Value),(k<=b.steps.length)/\(xs.length=k)/\(xs++Ui n.decls kept (b.steps.drop k)=Ui n.decls kept b.steps)/\F=[(2,Z0 kept),(3,.p b1 0),(4,.p b2 0),(6,.p b3 0),(7,.p b4 0),(8,.i k)]/\h=[.obj b4 [ZQ xs v,.i b.result],.obj b3 [nl,.i 0],.obj b2 (Y8 b),.obj b1 (ZM n),.tail v 5]/\m=b.steps.length-k) _ _ _ ⟨0,[],v1,ob,ob,rfl,rfl,rfl,rfl⟩ (wk [0,1,1,1,0] (fq (fr (Yh fl)))) ?_)))))))
 rintro m F h ⟨k,xs,v,Yo,Zp,ZA,rfl,rfl,rfl⟩
 refine aq (ar (ZY 3 16 (.i k) 18 (Ya b.steps) [2] [b2] (iw (Vp b.steps) (Z1 1 20 (.b (decide ((k:Int)<(b.steps.length:Int)))) (ie (ZT ((k:Int)<(b.steps.length:Int)) (fun Ze=>?_) (fun Ze=>?_)))))))
 ·refine ak (aq (ab 1 (ar (ZY 3 24 (Ya b.steps) 25 (.i k) [2] [b2] ?_))))
  obtain ⟨x1,Z3⟩:=Zu (xs:=b.steps) (j:=k) om
  have XA:=B3 Z3
  have hws:=O5 hw Z3
  have hkz:=Td x1
  have haz:=Qa x1
  refine Zq (Zn none (k:Int) 5 (Ww Z3)) (Z1 1 27 (Y2 x1) (iA [.i 0,.i 0,.i 0,nl,nl] ?_))
  intro b5
  refine ZG 0 b5 (Ye x1) (ie (ar (iL (YH []) 0 2 ?_)))
  intro v2
  refine Z1 1 10 (X6 [] v2) (ie (aq (ar (Z1 1 11 (.i 0) (ie (ab 2 (al (fun m F h=>∃(j:Nat) (u:Value) (ks:List Z5),(j<=x1.kids.length)/\(ks.length=j)/\(ks++Uh n.decls kept x1.op x1.num x1.args (x1.kids.drop j) j=Uh n.decls kept x1.op x1.num x1.args x1.kids 0)/\F=[(2,Z0 kept),(3,.p b1 0),(4,.p b2 0),(6,.p b3 0),(7,.p b4 0),(8,.i k),(9,.p b5 0),(10,X6 ks u),(11,.i j)]/\h=[.obj b5 (Ye x1),.obj b4 [ZQ xs v,.i b.result],.obj b3 [nl,.i 0],.obj b2 (Y8 b),.obj b1 (ZM n),.tail u 2,.tail v 5]/\m=x1.kids.length-j) _ _ _ ⟨0,v2,[],ob,ob,(by simp),rfl,rfl,rfl⟩ (wk [1,1,1,1,1,0,0] (fq (fq (Yh fl)))) ?_)))))))
  rintro m F h ⟨j,u,ks,Um,Wg,XK,rfl,rfl,rfl⟩
  refine aq (ar (ZY 3 29 (.i j) 31 (Yz x1.kids) [0] [b5] (iw (U1 x1.kids) (Z1 1 33 (.b (decide ((j:Int)<(x1.kids.length:Int)))) (ie (ZT ((j:Int)<(x1.kids.length:Int)) (fun Zl=>?_) (fun Zl=>?_)))))))
  ·obtain ⟨kd,hkd⟩:=Zu (xs:=x1.kids) (j:=j) om
   refine ak (aq (ab 3 (az (Y0 5 (.n 36 (X6 ks u) (.n 37 (ZB n) (.n 38 (Y2 x1) (.n 39 (.i j) (.n 40 (Z0 kept) .r))))) [4,0] [b1,b5] (Zz [] (ih x1 j kept kd hws hkd (Z2j hn2 Z3 hkd) ob ob) (iL [Zr (UZ n.decls kept x1.op x1.num x1.args j kd)] 1 2 ?_))))))
   intro v3
   refine Z6 0 (.n 42 (.sl [Zr (UZ n.decls kept x1.op x1.num x1.args j kd)] none) (.p .r)) (ip 6 (YH (ks++[UZ n.decls kept x1.op x1.num x1.args j kd])) (YH ks) [Zr (UZ n.decls kept x1.op x1.num x1.args j kd)] u none 2 (T5 _) (TG rfl) rfl (by simp<;>omega) (by simp [J8,Up]) ?_)
   intro v4
   refine Z6 1 (.n 10 (X6 (ks++[UZ n.decls kept x1.op x1.num x1.args j kd]) v4) (.p (.d (.p (.d (.d (.d (.d (.d (.d (.p (.d (.d (.w (.k (.k (.k (.d .r)))))))))))))))))) (ie (az (Z1 1 34 (.i j) (ZO j (Z6 1 (.n 11 (.i (j+1:Nat)) (.p (.d (.w (.w .z))))) (ie ?_))))))
   exact ZU ⟨j+1,v4,(ks++[UZ n.decls kept x1.op x1.num x1.args j kd]),ob,(by simp;omega),(Z3x hkd XK),rfl,rfl,rfl⟩ (wk [2,2,2,2,2,0,1] (fq (fq (ZW j fl))))
  have hK:=Z3w om XK
  refine ax 2 (aE 17 (Y5 6 17 [0,1,2,3,4,5,6,7,8,9,11] (.n 45 (ZQ xs v) (.n 47 (.i x1.op) (.n 49 (.i x1.num) (.n 51 (.i x1.into) (.n 53 (Z0 x1.args) (.n 55 (X6 ks u) .r)))))) [1,0,0,0,0] [b4,b5,b5,b5,b5] (Z9 10 (dc 10 [] [0,0,0,1] [b5,b5,b5,b4] (VJ x1.args) ?_))))
  rintro _ _ ⟨v5,rfl,rfl⟩
  refine ZX 4 5 [12] 56 (.agg [.i x1.op,.i x1.num,.i x1.into,Z0 x1.args,Yz ks]) (Z9 13 (dL 13 [1] [b4] [Y2 (Z4.mk x1.op x1.num x1.into x1.args ks)] 1 5 ?_))
  intro v6
  refine ZZ 3 3 [] (.n 57 (.sl [Y2 (Z4.mk x1.op x1.num x1.into x1.args ks)] none) (.p .r)) (Z9 14 (dp 14 8 [] [] (Zo (xs++[Z4.mk x1.op x1.num x1.into x1.args ks])) (Zo xs) [Y2 (Z4.mk x1.op x1.num x1.into x1.args ks)] v none 5 (YZ _) (TG rfl) rfl (by simp<;>omega) (by simp [Ws,WY]) ?_))
  intro v7
  refine ZX 1 2 [15] 59 (.p b4 0) (Z9 16 (YG 16 4 [] [] b4 [ZQ (xs++[Z4.mk x1.op x1.num x1.into x1.args ks]) v7,.i b.result] (de (az (Z1 1 21 (.i k) (ZO k (ir 1 [(2,Z0 kept),(3,.p b1 0),(4,.p b2 0),(6,.p b3 0),(7,.p b4 0),(8,.i (k+1:Nat))] (ie ?_))))))))
  exact ZU ⟨k+1,(xs++[Z4.mk x1.op x1.num x1.into x1.args ks]),v7,ob,(by simp;omega),(by have h:=Z43 Z3 ZA;rw [<-hK] at h;exact h),rfl,rfl,rfl⟩ (wk [0,4,4,4,0] (fq (fr (ZW k fl))))
 refine ax 0 (ar (Yn 1 60 (.agg [ZQ xs v,.i b.result]) [0] [b4] (ZG 1 b3 [ZQ xs v,.i b.result] (ie ?_))))
 exact Zc (r3 [] [.agg [ZQ xs v,.i b.result]] [0] [(b3,b3)] ⟨rfl,rfl⟩ (Zg.agg (.cons (Zg.sl _ (Yw Zo (by rw [Eh];exact Z42 om ZA))) (.cons (li (by rw [Eh];rfl)) .nil))))
theorem Z5k (n:Zx) (hn:Xf n) (k:Nat):(∀(s:Z4) (j:Nat) (kept:List Int) (kd:Z5),(wS n.decls s)->(s.kids[j]? = some kd)->(Q0 kd)->(kept.length+s.sz<=900000000)->(s.sz<=k)->Zk Tryz.prog 209 [ZB n,Y2 s,.i j,Z0 kept] [] (fun r h=>r=Zr (UZ n.decls kept s.op s.num s.args j kd)/\h=[]))/\(∀(b:Z5) (kept:List Int),(wB n.decls b)->(Aa b)->(kept.length+b.sz<=900000000)->(b.sz<=k)->Zk Tryz.prog 165 [ZB n,Zr b,Z0 kept] [] (fun r h=>r=Zr (Wt n.decls kept b)/\h=[])):=by
 induction k with
 | zero=>exact ⟨fun s j K kd h1 h2 h3 h4 h5=>by have:=s.sz_pos;omega,fun b K h1 h2 h3 h4=>by have:=b.sz_eq;omega⟩
 | succ k ih=>exact ⟨fun s j K kd h1 h2 h3 h4 h5=>Z5j n s j K kd hn h1 h2 h3 h4 fun b2 K2 q1 q2 q3 q4=>ih.2 b2 K2 q1 q2 q3 om,fun b K h1 h2 h3 h4=>Z5i n b K hn h1 h2 h3 fun s j K2 kd q1 q2 q3 q4 q5=>ih.1 s j K2 kd q1 q2 q3 q4 om⟩
theorem Z5h (n:Zx) (b:Z5) (kept:List Int) (hn:Xf n:=by exact ob) (hw:wB n.decls b:=by exact ob) (hn2:Aa b:=by exact ob) (hK:kept.length+b.sz<=900000000:=by exact ob):Zk Tryz.prog 165 [ZB n,Zr b,Z0 kept] [] (fun r h=>r=Zr (Wt n.decls kept b)/\h=[]):=(Z5k n hn b.sz).2 b kept hw hn2 hK (Xa _)
theorem SG (n:Zx) (hn:Xf n:=by exact ob) (hz:Qw n:=by exact ob) (hwb:∀r∈n.routines,wB n.decls r.body):Zk Tryz.prog 125 [ZB n] [] (fun r h=>r=ZB (Ew n)/\h=[]):=by
 have hzl:=hn.len
 refine ZL 38 Tryz.func125 (ar (iA (ZM n) ?_))
 intro b1
 refine iA [nl,nl] ?_
 intro b2
 refine ie (ar (iR 2 [(1,.p b1 0),(2,.p b2 0),(7,Zd n.decls)] [1] [b1] (Zz [] (B0 n.decls (hd:=hn.decls)) (iL (YL []) 0 5 ?_))))
 intro v1
 refine Z1 1 10 (.agg [Zd n.decls,Xi [] v1]) (iA [nl,nl] ?_)
 intro b3
 refine ZG 0 b3 [Zd n.decls,Xi [] v1] (ie (aq (ar (Z1 1 4 (.i 0) (ie (ab 0 (al (fun m F h=>∃(k:Nat) (v:Value),(k<=n.routines.length)/\F=[(1,.p b1 0),(2,.p b2 0),(3,.p b3 0),(4,.i k)]/\h=[.obj b3 [Zd n.decls,Xi ((n.routines.take k).map (KN n.decls)) v],.obj b2 [nl,nl],.obj b1 (ZM n),.tail v 5]/\m=n.routines.length-k) _ _ _ ⟨0,v1,ob,rfl,rfl,rfl⟩ (wk [0,1,1,0] (fw (fr (Yh fl)))) ?_)))))))
 rintro m F h ⟨k,v,Yo,rfl,rfl,rfl⟩
 refine aq (ar (ZY 3 11 (.i k) 13 (X9 n.routines) [2] [b1] (iw (Ur n.routines) (Z1 1 15 (.b (decide ((k:Int)<(n.routines.length:Int)))) (ie (ZT ((k:Int)<(n.routines.length:Int)) (fun Ze=>?_) (fun Ze=>?_)))))))
 ·refine ak (aq (ab 1 (ar (ZY 3 19 (X9 n.routines) 20 (.i k) [2] [b1] ?_))))
  obtain ⟨x1,Z3⟩:=Zu (xs:=n.routines) (j:=k) om
  have hrm:=Y7 Z3
  have hbz:=hz.body _ hrm
  have hpl:=hn.params_at Z3
  have hll:=hn.lent_at Z3
  have hww:=hwb _ hrm
  refine Zq (Zn none (k:Int) 5 (WJ Z3)) (Z1 1 22 (Vi x1) (iA [nl,nl,.i 0,nl,.i 0] ?_))
  intro b4
  refine ZG 0 b4 (UK x1) (ie (aE 15 (Y5 7 15 [0,1,2,3,4,5,6,7] (.n 24 (Xi ((n.routines.take k).map (KN n.decls)) v) (.n 25 (Vi x1) (.n 26 (ZB n) (.n 28 (Zr x1.body) (.n 30 (Z0 x1.params) .r))))) [1,0,3,0,0] [b3,b4,b1,b4,b4] (dw 8 (Yf x1.params) (Z9 9 (Yv 9 [] [0,1] [b4,b3] (Z5p n x1.body x1.params.length (hw:=hww)) (Z9 10 (Yv 10 [] [1] [b3] (BR x1 (WG n.decls x1.params.length x1.body)) (Z9 11 (dL 11 [1] [b3] (YL [Yj.mk x1.params x1.lent x1.result (WG n.decls x1.params.length x1.body)]) 1 5 ?_))))))))))
  intro v2
  refine ZZ 3 3 [] (.n 34 (X9 [Yj.mk x1.params x1.lent x1.result (WG n.decls x1.params.length x1.body)]) (.p .r)) (Z9 12 (dp 12 5 [] [] (YL ((n.routines.take (k+1)).map (KN n.decls))) (YL ((n.routines.take k).map (KN n.decls))) (YL [Yj.mk x1.params x1.lent x1.result (WG n.decls x1.params.length x1.body)]) v none 5 (Ub _) (Ub _) (JX _) (by simp<;>omega) (by rw [WS Z3];simp [YL,KN]) ?_))
  intro v3
  refine ZX 1 2 [13] 36 (.p b3 1) (Z9 14 (YG 14 3 [] [] b3 [Zd n.decls,Xi ((n.routines.take (k+1)).map (KN n.decls)) v3] (de (az (Z1 1 16 (.i k) (ZO k (ir 1 [(1,.p b1 0),(2,.p b2 0),(3,.p b3 0),(4,.i (k+1:Nat))] (ie ?_))))))))
  exact ZU ⟨k+1,v3,ob,rfl,rfl,rfl⟩ (wk [0,3,3,0] (fw (fr (ZW k fl))))
 refine ax 0 (ar (Yn 1 37 (.agg [Zd n.decls,Xi ((n.routines.take k).map (KN n.decls)) v]) [0] [b3] (ZG 1 b2 [Zd n.decls,Xi ((n.routines.take k).map (KN n.decls)) v] (ie ?_))))
 exact Zc (r3 [] [.agg [Zd n.decls,Xi ((n.routines.take k).map (KN n.decls)) v]] [0] [(b2,b2)] ⟨rfl,rfl⟩ (Zg.agg (.cons (Zg.sl _ (Yw YV ob)) (.cons (Zg.sl _ (Yw YL (by rw [Vb om];rfl))) .nil))))
theorem SC (n:Zx) (hn:Xf n:=by exact ob) (hz:Qw n:=by exact ob) (hwb:∀r∈n.routines,wB n.decls r.body) (hnr:∀r∈n.routines,Q0 r.body):Zk Tryz.prog 126 [ZB n] [] (fun r h=>r=ZB (Ei n)/\h=[]):=by
 have hzl:=hn.len
 refine ZL 38 Tryz.func126 (ar (iA (ZM n) ?_))
 intro b1
 refine iA [nl,nl] ?_
 intro b2
 refine ie (ar (iR 2 [(1,.p b1 0),(2,.p b2 0),(6,Zd n.decls)] [1] [b1] (Zz [] (B0 n.decls (hd:=hn.decls)) (iL (YL []) 0 5 ?_))))
 intro v1
 refine Z1 1 9 (.agg [Zd n.decls,Xi [] v1]) (iA [nl,nl] ?_)
 intro b3
 refine ZG 0 b3 [Zd n.decls,Xi [] v1] (ie (aq (ar (Z1 1 4 (.i 0) (ie (ab 0 (al (fun m F h=>∃(k:Nat) (v:Value),(k<=n.routines.length)/\F=[(1,.p b1 0),(2,.p b2 0),(3,.p b3 0),(4,.i k)]/\h=[.obj b3 [Zd n.decls,Xi ((n.routines.take k).map (KI n.decls)) v],.obj b2 [nl,nl],.obj b1 (ZM n),.tail v 5]/\m=n.routines.length-k) _ _ _ ⟨0,v1,ob,rfl,rfl,rfl⟩ (wk [0,1,1,0] (fw (fr (Yh fl)))) ?_)))))))
 rintro m F h ⟨k,v,Yo,rfl,rfl,rfl⟩
 refine aq (ar (ZY 3 10 (.i k) 12 (X9 n.routines) [2] [b1] (iw (Ur n.routines) (Z1 1 14 (.b (decide ((k:Int)<(n.routines.length:Int)))) (ie (ZT ((k:Int)<(n.routines.length:Int)) (fun Ze=>?_) (fun Ze=>?_)))))))
 ·refine ak (aq (ab 1 (aE 21 (Y5 16 21 [0,1,2,3,4] (.n 18 (Xi ((n.routines.take k).map (KI n.decls)) v) (.n 20 (X9 n.routines) (.n 21 (.i k) .r))) [0,2] [b3,b1] ?_))))
  obtain ⟨x1,Z3⟩:=Zu (xs:=n.routines) (j:=k) om
  have hrm:=Y7 Z3
  have hbz:=hz.body _ hrm
  have hpl:=hn.params_at Z3
  have hll:=hn.lent_at Z3
  have hww:=hwb _ hrm
  refine dx 5 (Zn none (k:Int) 5 (WJ Z3)) (Y5 10 15 [6,7,8,9,10] (.n 23 (Vi x1) (.n 24 (ZB n) (.n 26 (X9 n.routines) (.n 27 (.i k) .r)))) [2,2] [b1,b1] (dx 11 (Zn none (k:Int) 5 (WJ Z3)) (ZX 7 9 [12,13] 30 (Zr x1.body) (Z9 14 (dL 14 [2,2,2,0] [b1,b1,b1,b3] (Z8 []) 0 1 ?_)))))
  intro v2
  refine ZZ 6 6 [] (.n 31 (Z0 []) (.p .r)) (Z9 15 (Yv 15 [] [2,0] [b1,b3] (Z5h n x1.body [] (hw:=hww) (hn2:=(AW (hnr _ hrm)))) (Z9 16 (Yv 16 [] [0] [b3] (BR x1 (Wt n.decls [] x1.body)) (Z9 17 (dL 17 [0] [b3] (YL [Yj.mk x1.params x1.lent x1.result (Wt n.decls [] x1.body)]) 1 5 ?_))))))
  intro v3
  refine ZZ 3 3 [] (.n 34 (X9 [Yj.mk x1.params x1.lent x1.result (Wt n.decls [] x1.body)]) (.p .r)) (Z9 18 (dp 18 5 [] [] (YL ((n.routines.take (k+1)).map (KI n.decls))) (YL ((n.routines.take k).map (KI n.decls))) (YL [Yj.mk x1.params x1.lent x1.result (Wt n.decls [] x1.body)]) v none 5 (Ub _) (Ub _) (JX _) (by simp<;>omega) (by rw [WS Z3];simp [YL,KI]) ?_))
  intro v4
  refine ZX 1 2 [19] 36 (.p b3 1) (Z9 20 (YG 20 3 [] [] b3 [Zd n.decls,Xi ((n.routines.take (k+1)).map (KI n.decls)) v4] (de (az (Z1 1 15 (.i k) (ZO k (ir 1 [(1,.p b1 0),(2,.p b2 0),(3,.p b3 0),(4,.i (k+1:Nat))] (ie ?_))))))))
  exact ZU ⟨k+1,v4,ob,rfl,rfl,rfl⟩ (wk [0,3,3,0] (fw (fr (ZW k fl))))
 refine ax 0 (ar (Yn 1 37 (.agg [Zd n.decls,Xi ((n.routines.take k).map (KI n.decls)) v]) [0] [b3] (ZG 1 b2 [Zd n.decls,Xi ((n.routines.take k).map (KI n.decls)) v] (ie ?_))))
 exact Zc (r3 [] [.agg [Zd n.decls,Xi ((n.routines.take k).map (KI n.decls)) v]] [0] [(b2,b2)] ⟨rfl,rfl⟩ (Zg.agg (.cons (Zg.sl _ (Yw YV ob)) (.cons (Zg.sl _ (Yw YL (by rw [Vb om];rfl))) .nil))))
theorem L9 (rd:Nat) (bs:List Int) (p:Nat) (ZD:∀z∈bs,0<=z/\z<=255) (hp:p+400001<=1000000000:=by exact ob):Zk Tryz.prog 84 [.p rd 0] [Yl rd bs p] (fun r h=>∃(n:Zx) (p2:Nat),r=ZB n/\h=[Yl rd bs p2]/\FO n 181 Wu/\p<=p2/\p2<=p+400001):=by
 refine ZL 13 Tryz.func84 (ar (iA [nl,nl] ?_))
 intro b1
 refine ie (ar (ir 1 [(0,.p rd 0),(2,.p b1 0),(4,.p rd 0)] (ic [1] (S8 rd bs p (ZD:=ob)) ?_)))
 rintro _ _ ⟨g1,p21,rfl,rfl,ZP⟩
 have TY:=ZP
 refine ic [] (Su g1 (hg:=TY.1)) ?_
 rintro _ _ ⟨n1,rfl,rfl,Y1⟩
 have hnm:=Y1
 refine iA [nl,nl] ?_
 intro b2
 refine ZG 0 b2 (ZM n1) (ie (aq (ar (Z1 1 7 (.p rd 0) (ic [1] (XP rd bs p21 3 (ZD:=ob)) ?_)))))
 rintro _ _ ⟨k1,rfl,rfl,YB⟩
 refine Z1 1 9 (.b (k1==0)) (ie (ac (k1==0) Zh (fun Ze=>?_) (fun Ze=>?_)))
 ·refine ar (Yn 1 10 (ZB n1) [1] [b2] (ic [] (Sk n1 181 (hn:=hnm)) ?_))
  rintro _ _ ⟨n21,rfl,rfl,YM⟩
  have hlm:=YM
  refine ZG 2 b1 (ZM n21) (ie ?_)
  exact Zc (r3 [1] [ZB n21] [0] [(b1,b1)] ⟨n21,p21+1,rfl,rfl,(by first|exact ⟨hlm,by omega,by omega⟩|exact ⟨hnm,by omega,by omega⟩)⟩ (lr _))
 refine ak (ar (Yn 1 12 (ZB n1) [1] [b2] (ZG 2 b1 (ZM n1) (ie ?_))))
 exact Zc (r3 [1] [ZB n1] [0] [(b1,b1)] ⟨n1,p21+1,rfl,rfl,(by first|exact ⟨hlm,by omega,by omega⟩|exact ⟨hnm,by omega,by omega⟩)⟩ (lr _))
theorem S2 (rd:Nat) (bs:List Int) (p:Nat) (ZD:∀z∈bs,0<=z/\z<=255) (hp:p+400002<=1000000000:=by exact ob):Zk Tryz.prog 122 [.p rd 0] [Yl rd bs p] (fun r h=>∃(n:Zx) (p2:Nat),r=ZB n/\h=[Yl rd bs p2]/\FO n 814510 Vc/\p<=p2/\p2<=p+400002):=by
 refine ZL 15 Tryz.func122 (ar (iA [nl,nl] ?_))
 intro b1
 refine ie (ar (ir 1 [(0,.p rd 0),(2,.p b1 0),(5,.p rd 0)] (ic [1] (L9 rd bs p (ZD:=ob)) ?_)))
 rintro _ _ ⟨n1,p21,rfl,rfl,ZP⟩
 have hpf:=ZP
 refine iA [nl,nl] ?_
 intro b2
 refine ZG 0 b2 (ZM n1) (ie (ar (Yn 1 7 (ZB n1) [0] [b2] (ic [] (S1 n1 181 (hn:=hpf.1)) ?_))))
 rintro _ _ ⟨n21,rfl,rfl,Y1⟩
 have hcf:=FO.le Y1 (show 4500*181+10<=814510 by omega)
 refine iA [nl,nl] ?_
 intro b3
 refine ZG 0 b3 (ZM n21) (ie (aq (ar (Z1 1 9 (.p rd 0) (ic [2] (XP rd bs p21 4 (ZD:=ob)) ?_)))))
 rintro _ _ ⟨k1,rfl,rfl,YB⟩
 refine Z1 1 11 (.b (k1==0)) (ie (ac (k1==0) Zh (fun Ze=>?_) (fun Ze=>?_)))
 ·refine az (Yn 1 12 (ZB n1) [2] [b2] (ic [] (Sc n1 181 (hn:=hpf.1)) ?_))
  rintro _ _ ⟨n22,rfl,rfl,YM⟩
  have hlf:=FO.le YM (show 60*181<=814510 by omega)
  refine ZG 1 b3 (ZM n22) (ie (ar (Yn 1 14 (ZB n22) [0] [b3] (ZG 3 b1 (ZM n22) (ie ?_)))))
  exact Zc (r3 [2] [ZB n22] [0] [(b1,b1)] ⟨n22,p21+1,rfl,rfl,(by first|exact ⟨hlf,by omega,by omega⟩|exact ⟨hcf,by omega,by omega⟩)⟩ (lr _))
 refine ak (ar (Yn 1 14 (ZB n21) [1] [b3] (ZG 3 b1 (ZM n21) (ie ?_))))
 exact Zc (r3 [1] [ZB n21] [0] [(b1,b1)] ⟨n21,p21+1,rfl,rfl,(by first|exact ⟨hlf,by omega,by omega⟩|exact ⟨hcf,by omega,by omega⟩)⟩ (lr _))
theorem RI (rd:Nat) (bs:List Int) (p:Nat) (ZD:∀z∈bs,0<=z/\z<=255) (hp:p+400030<=1000000000:=by exact ob):Zk Tryz.prog 85 [.p rd 0] [Yl rd bs p] (fun r h=>∃(n:Zx) (p2:Nat),r=ZB n/\h=[Yl rd bs p2]/\ZN n 7330630/\p<=p2/\p2<=p+400030):=by
 refine ZL 35 Tryz.func85 (ar (iA [nl,nl] ?_))
 intro b1
 refine ie (ar (ir 1 [(0,.p rd 0),(2,.p b1 0),(5,.p rd 0)] (ic [1] (S2 rd bs p (ZD:=ob)) ?_)))
 rintro _ _ ⟨n1,p21,rfl,rfl,ZP⟩
 have hcf:=FO.le ZP.1 (show 814510<=814514 by omega)
 have hcp:=ZP
 refine iA [nl,nl] ?_
 intro b2
 refine ZG 0 b2 (ZM n1) (ie (aq (ar (Z1 1 7 (.p rd 0) (ic [1] (XP rd bs p21 4 (ZD:=ob)) ?_)))))
 rintro _ _ ⟨k1,rfl,rfl,Y1⟩
 refine Z1 1 9 (.b (k1==0)) (ie (XJ (fun F h=>∃(na:Zx) (pa:Nat),(FO na 814514 Vc)/\(p<=pa/\pa<=p+400010)/\F=[(0,.p rd 0),(2,.p b1 0),(3,.p b2 0)]/\h=[Yl rd bs pa,.obj b2 (ZM na),.obj b1 [nl,nl]]) ?_ ?_))
 ·refine ac (k1==0) Zh (fun Ze=>?_) (fun Ze=>?_)
  ·refine az (iR 2 [(0,.p rd 0),(2,.p b1 0),(3,.p b2 0),(10,.p rd 0),(11,ZB n1)] [1] [b2] (ic [0] (L5 rd bs (p21+1) n1 (ZD:=ob) (hz:=(by first|exact (FO.zn hcp.1).sz om|exact TZ.sz om)) (hl1:=(by first|(have:=hcp.1.fn.len;omega)|(have:=TZ.len;omega)))) ?_))
   rintro _ _ ⟨n21,p22,rfl,rfl,YB⟩
   have hho:=YB
   refine ZG 1 b2 (ZM n21) (ie ?_)
   exact ZV ⟨n21,p22,(FO.held hcp.1 hho.1),ob,rfl,rfl⟩ (wk [1,0,0] fl)
  refine ak ?_
  exact ZV ⟨n1,p21+1,hcf,ob,rfl,rfl⟩ (ZK 3 fl)
 rintro F h ⟨na,pa,QI,Gk,rfl,rfl⟩
 refine aq (ar (ir 1 [(0,.p rd 0),(2,.p b1 0),(3,.p b2 0),(13,.p rd 0)] (ic [0] (XP rd bs pa 4 (ZD:=ob)) ?_)))
 rintro _ _ ⟨k2,rfl,rfl,YM⟩
 refine Z1 1 15 (.b (k2==0)) (ie (XJ (fun F h=>∃(nb:Zx) (pb:Nat),(FO nb 814514 Vc)/\(p<=pb/\pb<=p+400012)/\F=[(0,.p rd 0),(2,.p b1 0),(3,.p b2 0)]/\h=[Yl rd bs pb,.obj b2 (ZM nb),.obj b1 [nl,nl]]) ?_ ?_))
 ·refine ac (k2==0) Zh (fun Zl=>?_) (fun Zl=>?_)
  ·refine az (iR 1 [(0,.p rd 0),(2,.p b1 0),(3,.p b2 0),(16,ZB na)] [1] [b2] (ic [] (RP na 814514 (hn:=QI)) ?_))
   rintro _ _ ⟨n22,rfl,rfl,YX⟩
   have hca:=YX
   refine ZG 1 b2 (ZM n22) (ie ?_)
   exact ZV ⟨n22,pa+1,hca,ob,rfl,rfl⟩ (wk [1,0,0] fl)
  refine ak ?_
  exact ZV ⟨na,pa+1,QI,ob,rfl,rfl⟩ (ZK 3 fl)
 rintro F h ⟨nb,pb,Vw,Jn,rfl,rfl⟩
 refine ar (ir 1 [(0,.p rd 0),(2,.p b1 0),(3,.p b2 0),(18,.p rd 0)] (ic [0] (XP rd bs pb 3 (ZD:=ob)) ?_))
 rintro _ _ ⟨k3,rfl,rfl,Xv⟩
 refine Z1 1 4 (.i k3) (ie (aq (ar (Z1 2 21 (.b (decide (k3>0))) (ie (XJ (fun F h=>∃(nc:Zx) (pc:Nat),(ZN nc 7330626)/\(k3>1->WN nc 7330626)/\(p<=pc/\pc<=p+400014)/\F=[(0,.p rd 0),(2,.p b1 0),(3,.p b2 0),(4,.i k3)]/\h=[Yl rd bs pc,.obj b2 (ZM nc),.obj b1 [nl,nl]]) ?_ ?_))))))
 ·refine ZT (k3>0) (fun ZI=>?_) (fun ZI=>?_)
  ·refine az (iR 1 [(0,.p rd 0),(2,.p b1 0),(3,.p b2 0),(4,.i k3),(22,ZB nb)] [1] [b2] (Zz [] (SG nb (hn:=Vw.fn.ok) (hz:=(Vw.zn.sz om)) (hwb:=(fun r hr=>(Vw.wl om r hr).w))) (ZG 1 b2 (ZM (Ew nb)) (ie ?_))))
   exact ZV ⟨(Ew nb),pb+1,((Vw.wn om).sp.zn),(fun _=>(Vw.wn om).sp),ob,rfl,rfl⟩ (wk [1,0,0] fl)
  refine ak ?_
  exact ZV ⟨nb,pb+1,(Vw.zn.le om),(fun h=>by omega),ob,rfl,rfl⟩ (ZK 3 fl)
 rintro F h ⟨nc,pc,Cs,Ct,Z13,rfl,rfl⟩
 refine aq (ar (ir 2 [(0,.p rd 0),(2,.p b1 0),(3,.p b2 0),(25,.b (decide (k3>1)))] (ie (XJ (fun F h=>∃(nd:Zx) (pd:Nat),(ZN nd 7330626)/\(p<=pd/\pd<=p+400014)/\F=[(0,.p rd 0),(2,.p b1 0),(3,.p b2 0)]/\h=[Yl rd bs pd,.obj b2 (ZM nd),.obj b1 [nl,nl]]) ?_ ?_))))
 ·refine ZT (k3>1) (fun Yi=>?_) (fun Yi=>?_)
  ·refine az (iR 1 [(0,.p rd 0),(2,.p b1 0),(3,.p b2 0),(26,ZB nc)] [1] [b2] (Zz [] (SC nc (hn:=(Ct (by assumption)).ok) (hz:=(Cs.sz om)) (hwb:=(fun r hr=>((Ct (by assumption)).wl r hr).w)) (hnr:=(fun r hr=>((Ct (by assumption)).wl r hr).nr))) (ZG 1 b2 (ZM (Ei nc)) (ie ?_))))
   exact ZV ⟨(Ei nc),pc,(Ct (by assumption)).ru,ob,rfl,rfl⟩ (wk [1,0,0] fl)
  refine ak ?_
  exact ZV ⟨nc,pc,Cs,ob,rfl,rfl⟩ (ZK 3 fl)
 rintro F h ⟨nd,pd,TZ,Z14,rfl,rfl⟩
 refine aq (ar (ir 1 [(0,.p rd 0),(2,.p b1 0),(3,.p b2 0),(28,.p rd 0)] (ic [0] (XP rd bs pd 6 (ZD:=ob)) ?_)))
 rintro _ _ ⟨k4,rfl,rfl,Wb⟩
 refine Z1 1 30 (.b (k4==0)) (ie (ac (k4==0) Zh (fun Xk=>?_) (fun Xk=>?_)))
 ·refine az (ZY 2 31 (.p rd 0) 32 (ZB nd) [1] [b2] (ic [0] (L5 rd bs (pd+1) nd (ZD:=ob) (hz:=(by first|exact (FO.zn hcp.1).sz om|exact TZ.sz om)) (hl1:=(by first|(have:=hcp.1.fn.len;omega)|(have:=TZ.len;omega)))) ?_))
  rintro _ _ ⟨n23,p23,rfl,rfl,WE⟩
  have hho:=WE
  refine ZG 1 b2 (ZM n23) (ie (ar (Yn 1 34 (ZB n23) [0] [b2] (ZG 2 b1 (ZM n23) (ie ?_)))))
  exact Zc (r3 [2] [ZB n23] [0] [(b1,b1)] ⟨n23,p23,rfl,rfl,(by first|exact ⟨TZ.held hho.1,by omega,by omega⟩|exact ⟨TZ.le om,by omega,by omega⟩)⟩ (lr _))
 refine ak (ar (Yn 1 34 (ZB nd) [1] [b2] (ZG 2 b1 (ZM nd) (ie ?_))))
 exact Zc (r3 [1] [ZB nd] [0] [(b1,b1)] ⟨nd,pd+1,rfl,rfl,(by first|exact ⟨TZ.held hho.1,by omega,by omega⟩|exact ⟨TZ.le om,by omega,by omega⟩)⟩ (lr _))
theorem Ld (rd:Nat) (bs:List Int) (p:Nat) (xs:List Int) (ZD:∀z∈bs,0<=z/\z<=255) (hp:p+3<=1000000000:=by exact ob) (hl:xs.length<=1000000:=by exact ob):Zk Tryz.prog 52 [.p rd 0,Z0 xs] [Yl rd bs p] (fun r h=>∃(zs:List Int) (p2:Nat),r=Z0 zs/\h=[Yl rd bs p2]/\zs.length<=xs.length+1/\p<=p2/\p2<=p+3):=by
 refine ZL 32 Tryz.func52 (ar (ir 1 [(0,.p rd 0),(1,Z0 xs)] (ie (ar (Z1 1 6 (Z0 xs) (ic [] (Ah xs) ?_))))))
 rintro _ _ ⟨v1,rfl,rfl⟩
 refine Z1 1 5 (.h v1) (ie (aq (ar (Z1 1 8 (.h v1) (Zq (Jw 0 v1 xs) (Z1 2 11 (.b (decide ((xs.length:Int)>0))) (ib (b:=(decide ((xs.length:Int)>0))) 11 (fun Zb=>?_) (fun Zb=>?_))))))))
 ·have ZP:(xs.length:Int)>0:=(dq).1 Zb
  refine Z6 1 (.n 12 (.p rd 0) (.k (.d .r))) (ic [1] (XP rd bs p 2 (ZD:=ob)) ?_)
  rintro _ _ ⟨k1,rfl,rfl,Y1⟩
  refine Z1 2 15 (.b (k1==0)) (ie (ac (k1==0) Zh (fun Ze=>?_) (fun Ze=>?_)))
  ·refine ar (Z6 3 (.n 16 (.h v1) (.n 17 (.p rd 0) (.n 18 (.h v1) .r))) (Zq (Jw 1 v1 xs) (ic [0] (K7 rd bs (p+1) xs.length (ZD:=ob)) ?_)))
   rintro _ _ ⟨Y6,rfl,rfl,YB⟩
   refine Z1 1 21 (.p rd 0) (iL (Z8 [0,1,-1,7,1000,1001]) 6 1 ?_)
   intro v2
   refine Z6 0 (.n 22 (Z0 [0,1,-1,7,1000,1001]) (.p .r)) (ic [1] (Vu rd bs ((p+1)+1) [0,1,-1,7,1000,1001] (ZD:=ob)) ?_)
   rintro _ _ ⟨z1,rfl,rfl,YM⟩
   refine Zq (VB 2 v1 xs (Y6:Int) Y6) (Ln 2 v1 xs Y6 z1 (ie (ar (ir 2 [(4,.h v1)] (ie (D7 4 0 (v:=v1) (xs:=(xs.set Y6 z1)) ?_))))))
   exact Zc (r2 [1] [Z7 (xs.set Y6 z1) v1.v] ⟨(xs.set Y6 z1),((p+1)+1)+1,rfl,rfl,⟨by simp,by omega,by omega⟩⟩ (Zg.forget _ _))
  refine ak (ar (ir 2 [(26,.h v1),(27,.p rd 0)] (iL (Z8 [0,1,2,-1,1000]) 5 1 ?_)))
  intro v3
  refine Z6 0 (.n 28 (Z0 [0,1,2,-1,1000]) (.p .r)) (ic [1] (Vu rd bs (p+1) [0,1,2,-1,1000] (ZD:=ob)) ?_)
  rintro _ _ ⟨z2,rfl,rfl,YX⟩
  refine iL (Z8 [z2]) 1 1 ?_
  intro v4
  refine Z6 0 (.n 30 (Z0 [z2]) (.p .r)) (KC 3 v1 xs [z2] none ?_)
  intro v5
  refine ir 1 [(4,.h v5)] (ie (D7 4 0 (v:=v5) (xs:=(xs++[z2])) ?_))
  exact Zc (r2 [2] [Z7 (xs++[z2]) v5.v] ⟨(xs++[z2]),(p+1)+1,rfl,rfl,⟨by simp,by omega,by omega⟩⟩ (Zg.forget _ _))
 have Xv:¬((xs.length:Int)>0):=ZF dq Zb
 refine Z6 4 (.n 15 (.b false) (.k (.d .r))) (ie (WV (ak (ar (ir 2 [(26,.h v1),(27,.p rd 0)] (iL (Z8 [0,1,2,-1,1000]) 5 1 ?_))))))
 intro v6
 refine Z6 0 (.n 28 (Z0 [0,1,2,-1,1000]) (.p .r)) (ic [2] (Vu rd bs p [0,1,2,-1,1000] (ZD:=ob)) ?_)
 rintro _ _ ⟨z3,rfl,rfl,Wb⟩
 refine iL (Z8 [z3]) 1 1 ?_
 intro v7
 refine Z6 0 (.n 30 (Z0 [z3]) (.p .r)) (KC 3 v1 xs [z3] none ?_)
 intro v8
 refine ir 1 [(4,.h v8)] (ie (D7 4 0 (v:=v8) (xs:=(xs++[z3])) ?_))
 exact Zc (r2 [2] [Z7 (xs++[z3]) v8.v] ⟨(xs++[z3]),p+1,rfl,rfl,⟨by simp,by omega,by omega⟩⟩ (Zg.forget _ _))
theorem Px (s:Z4) (hz:s.sz<=1000000000:=by exact ob):Zk Tryz.prog 127 [Y2 s] [] (fun r h=>∃(v:Hd),r=.agg [.i s.op,.i s.num,.i s.into,.h v,Yz s.kids]/\h=[rV v s.args]):=by
 have hkz:=Td s
 have haz:=Qa s
 refine ZL 33 Tryz.func127 (ar (iA (Ye s) ?_))
 intro b1
 refine iA [.i 0,.i 0,.i 0,nl,nl] ?_
 intro b2
 refine ie (ar (iL (YH []) 0 2 ?_))
 intro v1
 refine ir 1 [(1,.p b1 0),(2,.p b2 0),(3,X6 [] v1)] (ie (aq (ar (Z1 1 4 (.i 0) (ie (ab 0 (al (fun m F h=>∃(k:Nat) (v:Value),(k<=s.kids.length)/\F=[(1,.p b1 0),(2,.p b2 0),(3,X6 (s.kids.take k) v),(4,.i k)]/\h=[.obj b2 [.i 0,.i 0,.i 0,nl,nl],.obj b1 (Ye s),.tail v 2]/\m=s.kids.length-k) _ _ _ ⟨0,v1,ob,rfl,rfl,rfl⟩ (wk [1,1,0] (fw (fc (x:=X6 [] v1) (Zg.slh _ (Yw YH rfl)) (Yh fl)))) ?_)))))))
 rintro m F h ⟨k,v,Yo,rfl,rfl,rfl⟩
 refine aq (ar (ZY 3 6 (.i k) 8 (Yz s.kids) [1] [b1] (iw (U1 s.kids) (Z1 1 10 (.b (decide ((k:Int)<(s.kids.length:Int)))) (ie (ZT ((k:Int)<(s.kids.length:Int)) (fun Ze=>?_) (fun Ze=>?_)))))))
 ·refine ak (aq (ab 1 (az (Y0 4 (.n 13 (X6 (s.kids.take k) v) (.n 15 (Yz s.kids) (.n 16 (.i k) .r))) [1] [b1] ?_))))
  obtain ⟨x1,Z3⟩:=Zu (xs:=s.kids) (j:=k) om
  have hks:=Tc Z3
  refine Zq (Zn none (k:Int) 2 (UD Z3)) (Z1 1 18 (Zr x1) (Zz [] (Ex x1) (iL [Zr x1] 1 2 ?_)))
  intro v2
  refine Z6 0 (.n 20 (.sl [Zr x1] none) (.p .r)) (ip 3 (YH (s.kids.take (k+1))) (YH (s.kids.take k)) [Zr x1] v none 2 (T5 _) (TG rfl) rfl (by simp<;>omega) (by rw [WS Z3];simp [Up]) ?_)
  intro v3
  refine ir 1 [(1,.p b1 0),(2,.p b2 0),(3,X6 (s.kids.take (k+1)) v3),(4,.i k)] (ie (az (Z1 1 11 (.i k) (ZO k (Z6 1 (.n 4 (.i (k+1:Nat)) (.p (.d (.k (.k (.k .z)))))) (ie ?_))))))
  exact ZU ⟨k+1,v3,ob,rfl,rfl,rfl⟩ (wk [2,2,0] (fw (fr (ZW k fl))))
 refine ax 0 (aD 12 (W2 3 12 [0,1,2,3,4,5,6,7,9] [(2,.p b2 0),(23,.i s.op),(25,.i s.num),(27,.i s.into),(29,Z0 s.args),(31,X6 (s.kids.take k) v)] [1,1,1,1] [b1,b1,b1,b1] (Z9 8 (dc 8 [] [1,1,1] [b1,b1,b1] (Ah s.args) ?_))))
 rintro _ _ ⟨v4,rfl,rfl⟩
 refine ZX 1 2 [10] 32 (.agg [.i s.op,.i s.num,.i s.into,.h v4,X6 (s.kids.take k) v]) (Z9 11 (YG 11 1 [] [] b2 [.i s.op,.i s.num,.i s.into,.h v4,X6 (s.kids.take k) v] (de ?_)))
 exact Zc (r3 [1] [.agg [.i s.op,.i s.num,.i s.into,.h v4,X6 (s.kids.take k) v]] [0] [(b2,b2)] ⟨v4,rfl,rfl⟩ (Zg.agg (.cons (lr _) (.cons (lr _) (.cons (lr _) (.cons (lr _) (.cons (Zg.sl _ (Yw YH (by rw [Vb om]))) .nil)))))))
theorem Le (rd:Nat) (bs:List Int) (p:Nat) (s:Z4) (ZD:∀z∈bs,0<=z/\z<=255) (hp:p+3<=1000000000:=by exact ob) (hz:s.sz<=100000000:=by exact ob) (hg:s.rng:=by exact ob):Zk Tryz.prog 89 [.p rd 0,Y2 s] [Yl rd bs p] (fun r h=>∃(y:Z4) (p2:Nat),r=Y2 y/\h=[Yl rd bs p2]/\VC s y/\p<=p2/\p2<=p+3):=by
 have haz:=Qa s
 have hkz:=Td s
 refine ZL 66 Tryz.func89 (ar (iA (Ye s) ?_))
 intro b1
 refine iA [.i 0,.i 0,.i 0,nl,nl] ?_
 intro b2
 refine ie (ar (iR 1 [(0,.p rd 0),(4,.p b2 0),(6,Y2 s)] [1] [b1] (ic [] (Px s) ?_)))
 rintro _ _ ⟨v1,rfl,rfl⟩
 refine iA [.i 0,.i 0,.i 0,nl,nl] ?_
 intro b3
 refine ZG 0 b3 [.i s.op,.i s.num,.i s.into,.h v1,Yz s.kids] (ie (aq (ar (Z1 1 8 (.p rd 0) (ic [4] (XP rd bs p 6 (ZD:=ob)) ?_)))))
 rintro _ _ ⟨k1,rfl,rfl,ZP⟩
 refine ie (ab 0 (ar (Z1 2 10 (.b (k1==0)) (ie (ac (k1==0) Zh (fun Ze=>?_) (fun Ze=>?_))))))
 ·refine az (Z1 1 12 (.p rd 0) (iL (Z8 [14,15,16,17,6,9,12,0,1]) 9 1 ?_))
  intro v2
  refine Z6 0 (.n 13 (Z0 [14,15,16,17,6,9,12,0,1]) (.p .r)) (ic [1] (Vu rd bs (p+1) [14,15,16,17,6,9,12,0,1] (ZD:=ob)) ?_)
  rintro _ _ ⟨z1,rfl,rfl,Y1⟩
  have hon:=Y1
  refine Z1 1 15 (.p b3 0) (ZG 2 b3 [.i z1,.i s.num,.i s.into,.h v1,Yz s.kids] (ie (ar (XL (KR 3 v1 s.args) (XL (UB 0 0 3 v1.v 1 b3 (Z8 s.args) [.i z1,.i s.num,.i s.into,.h v1,Yz s.kids] (YE _) rfl) (Yn 1 65 (.agg [.i z1,.i s.num,.i s.into,Z7 s.args v1.v,Yz s.kids]) [0] [b3] (ZG 4 b2 [.i z1,.i s.num,.i s.into,Z7 s.args v1.v,Yz s.kids] (ie ?_))))))))
  exact Zc (r3 [3] [.agg [.i z1,.i s.num,.i s.into,Z7 s.args v1.v,Yz s.kids]] [0] [(b2,b2)] ⟨(Z4.mk z1 s.num s.into s.args s.kids),(p+1)+1,rfl,rfl,⟨by first|exact VC.refl hg|exact VC.of hg (by first|exact .inl rfl|exact .inr hon) (by first|exact Nat.le_succ _|(simp<;>omega)) (by first|exact .inl rfl|exact .inr rfl),by omega,by omega⟩⟩ (Zg.agg (.cons (lr _) (.cons (lr _) (.cons (lr _) (.cons (Zg.forget _ _) (.cons (lr _) .nil)))))))
 refine ar (Z1 2 16 (.b (k1==1)) (ie (ac (k1==1) Zh (fun Zl=>?_) (fun Zl=>?_))))
 ·refine az (Z1 1 18 (.p rd 0) (iL (Z8 [0,1,2,3,-1,1000]) 6 1 ?_))
  intro v3
  refine Z6 0 (.n 19 (Z0 [0,1,2,3,-1,1000]) (.p .r)) (ic [1] (Vu rd bs (p+1) [0,1,2,3,-1,1000] (ZD:=ob)) ?_)
  rintro _ _ ⟨z2,rfl,rfl,YB⟩
  have hon:=YB
  refine Z1 1 21 (.p b3 1) (ZG 2 b3 [.i s.op,.i z2,.i s.into,.h v1,Yz s.kids] (ie (ar (XL (KR 3 v1 s.args) (XL (UB 0 0 3 v1.v 1 b3 (Z8 s.args) [.i s.op,.i z2,.i s.into,.h v1,Yz s.kids] (YE _) rfl) (Yn 1 65 (.agg [.i s.op,.i z2,.i s.into,Z7 s.args v1.v,Yz s.kids]) [0] [b3] (ZG 4 b2 [.i s.op,.i z2,.i s.into,Z7 s.args v1.v,Yz s.kids] (ie ?_))))))))
  exact Zc (r3 [3] [.agg [.i s.op,.i z2,.i s.into,Z7 s.args v1.v,Yz s.kids]] [0] [(b2,b2)] ⟨(Z4.mk s.op z2 s.into s.args s.kids),(p+1)+1,rfl,rfl,⟨by first|exact VC.refl hg|exact VC.of hg (by first|exact .inl rfl|exact .inr hon) (by first|exact Nat.le_succ _|(simp<;>omega)) (by first|exact .inl rfl|exact .inr rfl),by omega,by omega⟩⟩ (Zg.agg (.cons (lr _) (.cons (lr _) (.cons (lr _) (.cons (Zg.forget _ _) (.cons (lr _) .nil)))))))
 refine ar (Z1 2 22 (.b (k1==2)) (ie (ac (k1==2) Zh (fun ZI=>?_) (fun ZI=>?_))))
 ·refine az (Z1 1 24 (.p rd 0) (iL (Z8 [1,2,0,-1,90]) 5 1 ?_))
  intro v4
  refine Z6 0 (.n 25 (Z0 [1,2,0,-1,90]) (.p .r)) (ic [1] (Vu rd bs (p+1) [1,2,0,-1,90] (ZD:=ob)) ?_)
  rintro _ _ ⟨z3,rfl,rfl,YM⟩
  have hon:=YM
  refine Z1 1 27 (.p b3 2) (ZG 2 b3 [.i s.op,.i s.num,.i z3,.h v1,Yz s.kids] (ie (ar (XL (KR 3 v1 s.args) (XL (UB 0 0 3 v1.v 1 b3 (Z8 s.args) [.i s.op,.i s.num,.i z3,.h v1,Yz s.kids] (YE _) rfl) (Yn 1 65 (.agg [.i s.op,.i s.num,.i z3,Z7 s.args v1.v,Yz s.kids]) [0] [b3] (ZG 4 b2 [.i s.op,.i s.num,.i z3,Z7 s.args v1.v,Yz s.kids] (ie ?_))))))))
  exact Zc (r3 [3] [.agg [.i s.op,.i s.num,.i z3,Z7 s.args v1.v,Yz s.kids]] [0] [(b2,b2)] ⟨(Z4.mk s.op s.num z3 s.args s.kids),(p+1)+1,rfl,rfl,⟨by first|exact VC.refl hg|exact VC.of hg (by first|exact .inl rfl|exact .inr hon) (by first|exact Nat.le_succ _|(simp<;>omega)) (by first|exact .inl rfl|exact .inr rfl),by omega,by omega⟩⟩ (Zg.agg (.cons (lr _) (.cons (lr _) (.cons (lr _) (.cons (Zg.forget _ _) (.cons (lr _) .nil)))))))
 refine ar (Z1 2 28 (.b (k1==3)) (ie (ac (k1==3) Zh (fun Yi=>?_) (fun Yi=>?_))))
 ·refine aE 9 (Y5 6 9 [0,1,2] (.n 31 (.h v1) (.n 32 (.p rd 0) .r)) [1] [b3] (Z9 3 (dL 3 [1] [b3] (Z8 [0,1,-1]) 3 1 ?_)))
  intro v5
  refine ZZ 5 5 [] (.n 33 (Z0 [0,1,-1]) (.p .r)) (Z9 4 (dc 4 [1] [0] [b3] (Vu rd bs (p+1) [0,1,-1] (ZD:=ob)) ?_))
  rintro _ _ ⟨z4,rfl,rfl,YX⟩
  have hon:=YX
  refine Z9 5 (dL 5 [1] [b3] (Z8 [z4]) 1 1 ?_)
  intro v6
  refine ZZ 3 3 [] (.n 35 (Z0 [z4]) (.p .r)) (Z9 6 (PB 6 4 [] [] v1 s.args [z4] none ?_))
  intro v7
  refine ZX 1 2 [7] 37 (.p b3 3) (Z9 8 (YG 8 4 [] [] b3 [.i s.op,.i s.num,.i s.into,.h v7,Yz s.kids] (de (ar (XL (KR 1 v7 (s.args++[z4])) (XL (UB 0 0 3 v7.v 1 b3 (Z8 (s.args++[z4])) [.i s.op,.i s.num,.i s.into,.h v7,Yz s.kids] (YE _) rfl) (Yn 1 65 (.agg [.i s.op,.i s.num,.i s.into,Z7 (s.args++[z4]) v7.v,Yz s.kids]) [0] [b3] (ZG 5 b2 [.i s.op,.i s.num,.i s.into,Z7 (s.args++[z4]) v7.v,Yz s.kids] (ie ?_)))))))))
  exact Zc (r3 [4] [.agg [.i s.op,.i s.num,.i s.into,Z7 (s.args++[z4]) v7.v,Yz s.kids]] [0] [(b2,b2)] ⟨(Z4.mk s.op s.num s.into (s.args++[z4]) s.kids),(p+1)+1,rfl,rfl,⟨by first|exact VC.refl hg|exact VC.of hg (by first|exact .inl rfl|exact .inr hon) (by first|exact Nat.le_succ _|(simp<;>omega)) (by first|exact .inl rfl|exact .inr rfl),by omega,by omega⟩⟩ (Zg.agg (.cons (lr _) (.cons (lr _) (.cons (lr _) (.cons (Zg.forget _ _) (.cons (lr _) .nil)))))))
 refine ar (Z1 2 38 (.b (k1==4)) (ie (ac (k1==4) Zh (fun Xk=>?_) (fun Xk=>?_))))
 ·refine ar (Yn 2 41 (.h v1) [1] [b3] (Zq (Jw 2 v1 s.args) (Z1 1 43 (.b (decide ((s.args.length:Int)>0))) (ie (ZT ((s.args.length:Int)>0) (fun Xl=>?_) (fun Xl=>?_))))))
  ·refine aE 12 (Y5 7 12 [0,1,2,3,4] (.n 45 (.h v1) (.n 46 (.p rd 0) (.n 48 (.h v1) .r))) [1,1] [b3,b3] (dx 5 (Jw 2 v1 s.args) (ZX 5 6 [7] 51 (.p rd 0) (Vk 6 8 ?_ ?_))))
   ·refine dc 6 [0] [0] [b3] (K7 rd bs (p+1) s.args.length (ZD:=ob)) ?_
    rintro _ _ ⟨Y6,rfl,rfl,Xv⟩
    refine Z9 8 (dL 8 [1] [b3] (Z8 [0,1,2,3,-1,99]) 6 1 ?_)
    intro v8
    refine Xd 3 3 [] [(4,.p b2 0),(5,.p b3 0),(45,.h v1),(50,.i Y6),(51,.p rd 0),(52,Z0 [0,1,2,3,-1,99])] (Z9 9 (dc 9 [1] [0] [b3] (Vu rd bs ((p+1)+1) [0,1,2,3,-1,99] (ZD:=ob)) ?_))
    rintro _ _ ⟨z5,rfl,rfl,Wb⟩
    have hon:=Wb
    refine dx 10 (VB 3 v1 s.args (Y6:Int) Y6) (Z9 11 (JU 11 3 [] [] v1 s.args Y6 z5 (de (ar (XL (KR 0 v1 (s.args.set Y6 z5)) (XL (UB 0 2 3 v1.v 1 b3 (Z8 (s.args.set Y6 z5)) [.i s.op,.i s.num,.i s.into,.h v1,Yz s.kids] (YE _) rfl) (Yn 1 65 (.agg [.i s.op,.i s.num,.i s.into,Z7 (s.args.set Y6 z5) v1.v,Yz s.kids]) [0] [b3] (ZG 4 b2 [.i s.op,.i s.num,.i s.into,Z7 (s.args.set Y6 z5) v1.v,Yz s.kids] (ie ?_)))))))))
    exact Zc (r3 [3] [.agg [.i s.op,.i s.num,.i s.into,Z7 (s.args.set Y6 z5) v1.v,Yz s.kids]] [0] [(b2,b2)] ⟨(Z4.mk s.op s.num s.into (s.args.set Y6 z5) s.kids),((p+1)+1)+1,rfl,rfl,⟨by first|exact VC.refl hg|exact VC.of hg (by first|exact .inl rfl|exact .inr hon) (by first|exact Nat.le_succ _|(simp<;>omega)) (by first|exact .inl rfl|exact .inr rfl),by omega,by omega⟩⟩ (Zg.agg (.cons (lr _) (.cons (lr _) (.cons (lr _) (.cons (Zg.forget _ _) (.cons (lr _) .nil)))))))
   refine dL 8 [1,1] [b3,b3] (Z8 [0,1,2,3,-1,99]) 6 1 ?_
   intro v9
   refine Z9 6 (dc 6 [1] [0] [b3] (K7 rd bs (p+1) s.args.length (ZD:=ob)) ?_)
   rintro _ _ ⟨YD,rfl,rfl,WE⟩
   refine Xd 3 3 [] [(4,.p b2 0),(5,.p b3 0),(45,.h v1),(50,.i YD),(51,.p rd 0),(52,Z0 [0,1,2,3,-1,99])] (Z9 9 (dc 9 [0] [0] [b3] (Vu rd bs ((p+1)+1) [0,1,2,3,-1,99] (ZD:=ob)) ?_))
   rintro _ _ ⟨z6,rfl,rfl,WR⟩
   have hon:=WR
   refine dx 10 (VB 3 v1 s.args (YD:Int) YD) (Z9 11 (JU 11 3 [] [] v1 s.args YD z6 (de (ar (XL (KR 0 v1 (s.args.set YD z6)) (XL (UB 0 2 3 v1.v 1 b3 (Z8 (s.args.set YD z6)) [.i s.op,.i s.num,.i s.into,.h v1,Yz s.kids] (YE _) rfl) (Yn 1 65 (.agg [.i s.op,.i s.num,.i s.into,Z7 (s.args.set YD z6) v1.v,Yz s.kids]) [0] [b3] (ZG 4 b2 [.i s.op,.i s.num,.i s.into,Z7 (s.args.set YD z6) v1.v,Yz s.kids] (ie ?_)))))))))
   exact Zc (r3 [3] [.agg [.i s.op,.i s.num,.i s.into,Z7 (s.args.set YD z6) v1.v,Yz s.kids]] [0] [(b2,b2)] ⟨(Z4.mk s.op s.num s.into (s.args.set YD z6) s.kids),((p+1)+1)+1,rfl,rfl,⟨by first|exact VC.refl hg|exact VC.of hg (by first|exact .inl rfl|exact .inr hon) (by first|exact Nat.le_succ _|(simp<;>omega)) (by first|exact .inl rfl|exact .inr rfl),by omega,by omega⟩⟩ (Zg.agg (.cons (lr _) (.cons (lr _) (.cons (lr _) (.cons (Zg.forget _ _) (.cons (lr _) .nil)))))))
  refine ak (ar (XL (KR 2 v1 s.args) (XL (UB 0 1 3 v1.v 1 b3 (Z8 s.args) [.i s.op,.i s.num,.i s.into,.h v1,Yz s.kids] (YE _) rfl) (Yn 1 65 (.agg [.i s.op,.i s.num,.i s.into,Z7 s.args v1.v,Yz s.kids]) [0] [b3] (ZG 3 b2 [.i s.op,.i s.num,.i s.into,Z7 s.args v1.v,Yz s.kids] (ie ?_))))))
  exact Zc (r3 [3] [.agg [.i s.op,.i s.num,.i s.into,Z7 s.args v1.v,Yz s.kids]] [0] [(b2,b2)] ⟨s,p+1,rfl,rfl,⟨by first|exact VC.refl hg|exact VC.of hg (by first|exact .inl rfl|exact .inr hon) (by first|exact Nat.le_succ _|(simp<;>omega)) (by first|exact .inl rfl|exact .inr rfl),by omega,by omega⟩⟩ (Zg.agg (.cons (lr _) (.cons (lr _) (.cons (lr _) (.cons (Zg.forget _ _) (.cons (lr _) .nil)))))))
 refine ar (Z1 2 55 (.b (k1==5)) (ie (ac (k1==5) Zh (fun Vv=>?_) (fun Vv=>?_))))
 ·refine ar (Yn 2 58 (Yz s.kids) [1] [b3] (iw (U1 s.kids) (Z1 1 60 (.b (decide ((s.kids.length:Int)>0))) (ie (ZT ((s.kids.length:Int)>0) (fun Vq=>?_) (fun Vq=>?_))))))
  ·refine az (Yn 2 62 (Yz s.kids) [1] [b3] (Zq (Qo (es:=YH s.kids) (hv:=none) (l:=1) (m:=(((YH s.kids).length:Nat):Int)) (sz:=2) (es':=YH (s.kids.drop 1)) kr om (by simp<;>omega) (by simp<;>omega) (T5 _) (by first|(simp only [Vh,WP,Ft,Fs];done)|(simp only [Vh,WP,Ft,Fs];rfl)|(simp [Ft,Fs];done))) (Z1 1 64 (.p b3 4) (ZG 1 b3 [.i s.op,.i s.num,.i s.into,.h v1,Yz (s.kids.drop 1)] (ie (ar (XL (KR 2 v1 s.args) (XL (UB 0 0 3 v1.v 1 b3 (Z8 s.args) [.i s.op,.i s.num,.i s.into,.h v1,Yz (s.kids.drop 1)] (YE _) rfl) (Yn 1 65 (.agg [.i s.op,.i s.num,.i s.into,Z7 s.args v1.v,Yz (s.kids.drop 1)]) [0] [b3] (ZG 3 b2 [.i s.op,.i s.num,.i s.into,Z7 s.args v1.v,Yz (s.kids.drop 1)] (ie ?_)))))))))))
   exact Zc (r3 [3] [.agg [.i s.op,.i s.num,.i s.into,Z7 s.args v1.v,Yz (s.kids.drop 1)]] [0] [(b2,b2)] ⟨(Z4.mk s.op s.num s.into s.args (s.kids.drop 1)),p+1,rfl,rfl,⟨by first|exact VC.refl hg|exact VC.of hg (by first|exact .inl rfl|exact .inr hon) (by first|exact Nat.le_succ _|(simp<;>omega)) (by first|exact .inl rfl|exact .inr rfl),by omega,by omega⟩⟩ (Zg.agg (.cons (lr _) (.cons (lr _) (.cons (lr _) (.cons (Zg.forget _ _) (.cons (lr _) .nil)))))))
  refine ak (ar (XL (KR 2 v1 s.args) (XL (UB 0 1 3 v1.v 1 b3 (Z8 s.args) [.i s.op,.i s.num,.i s.into,.h v1,Yz s.kids] (YE _) rfl) (Yn 1 65 (.agg [.i s.op,.i s.num,.i s.into,Z7 s.args v1.v,Yz s.kids]) [0] [b3] (ZG 3 b2 [.i s.op,.i s.num,.i s.into,Z7 s.args v1.v,Yz s.kids] (ie ?_))))))
  exact Zc (r3 [3] [.agg [.i s.op,.i s.num,.i s.into,Z7 s.args v1.v,Yz s.kids]] [0] [(b2,b2)] ⟨s,p+1,rfl,rfl,⟨by first|exact VC.refl hg|exact VC.of hg (by first|exact .inl rfl|exact .inr hon) (by first|exact Nat.le_succ _|(simp<;>omega)) (by first|exact .inl rfl|exact .inr rfl),by omega,by omega⟩⟩ (Zg.agg (.cons (lr _) (.cons (lr _) (.cons (lr _) (.cons (Zg.forget _ _) (.cons (lr _) .nil)))))))
 refine ak (ar (XL (KR 2 v1 s.args) (XL (UB 0 1 3 v1.v 1 b3 (Z8 s.args) [.i s.op,.i s.num,.i s.into,.h v1,Yz s.kids] (YE _) rfl) (Yn 1 65 (.agg [.i s.op,.i s.num,.i s.into,Z7 s.args v1.v,Yz s.kids]) [0] [b3] (ZG 3 b2 [.i s.op,.i s.num,.i s.into,Z7 s.args v1.v,Yz s.kids] (ie ?_))))))
 exact Zc (r3 [3] [.agg [.i s.op,.i s.num,.i s.into,Z7 s.args v1.v,Yz s.kids]] [0] [(b2,b2)] ⟨s,p+1,rfl,rfl,⟨by first|exact VC.refl hg|exact VC.of hg (by first|exact .inl rfl|exact .inr hon) (by first|exact Nat.le_succ _|(simp<;>omega)) (by first|exact .inl rfl|exact .inr rfl),by omega,by omega⟩⟩ (Zg.agg (.cons (lr _) (.cons (lr _) (.cons (lr _) (.cons (Zg.forget _ _) (.cons (lr _) .nil)))))))
theorem Sz (rd:Nat) (bs:List Int) (p:Nat) (mx:Int) (ZD:∀z∈bs,0<=z/\z<=255) (hp:p+1<=1000000000):Zk Tryz.prog 50 [.p rd 0,.i mx] [Yl rd bs p] (fun r h=>∃(k:Int),r=.i k/\h=[.obj rd [Xb bs,.i (p+1:Nat)]]/\Pk mx k/\k=Ju bs p mx):=by
 refine ZL 99 Tryz.func50 (ar (ir 1 [(0,.p rd 0),(1,.i mx)] (ie (ar (ZY 5 7 (.p rd 0) 11 (.i p) [0] [rd] (ZO p (Z1 2 14 (.p rd 1) (ZG 0 rd [Xb bs,.i (p+1:Nat)] (ie (aq (ar (Xm [(0,.p rd 0),(1,.i mx),(24,.b ((decide (mx<1))||((bs.length:Int)==0)))] [.obj rd [Xb bs,.i (p+1:Nat)]] ?_ ?_))))))))))))
 ·refine ir 3 [(0,.p rd 0),(1,.i mx),(17,.b (decide (mx<1)))] (ib (b:=(decide (mx<1))) 17 (fun Zb=>?_) (fun Zb=>?_))
  ·have ZP:mx<1:=(dq).1 Zb
   refine Z6 7 (.n 24 (.b true) (.d (.k (.k .z)))) (ie ?_)
   exact wk [0] (fw (Zs true Zb fl))
  have Y1:¬(mx<1):=ZF dq Zb
  refine Y0 4 (.n 21 (Xb bs) (.k (.k (.k .z)))) [0] [rd] (iw (QC bs) (Z1 2 24 (.b ((bs.length:Int)==0)) (ie ?_)))
  exact wk [0] (fw (Zs ((bs.length:Int)==0) Zb fl))
 refine ac ((decide (mx<1))||((bs.length:Int)==0)) (p:=(mx<1)∨((bs.length:Int)=0)) (Yc dq Zh) (fun Ze=>?_) (fun Ze=>?_)
 ·refine ar (ir 1 [(4,.i 0)] (ie ?_))
  exact Zc (r1 [0] ⟨0,rfl,rfl,⟨Pk.zero,by rw [Ju,Zj om]⟩⟩)
 refine ak (ar (iR 4 [(0,.p rd 0),(1,.i mx),(28,.i (p+1:Nat))] [0] [rd] (ia ((p:Int)) ((((p+1:Nat):Int))-(1)) (Z1 1 5 (.i p) (ie (aq (ar (ZY 5 30 (.i p) 34 (Xb bs) [0] [rd] (iw (QC bs) (Z1 1 36 (.b (decide ((p:Int)<(bs.length:Int)))) (ie (ZT ((p:Int)<(bs.length:Int)) (fun Zl=>?_) (fun Zl=>?_)))))))))))))
 ·refine ar (ZY 5 40 (Xb bs) 41 (.i p) [0] [rd] ?_)
  obtain ⟨x1,Z3⟩:=Zu (xs:=bs) (j:=p) om
  have hz:=ZD _ (Y7 Z3)
  refine Zq (Zn none (p:Int) 1 (Bj Z3)) (Z1 1 43 (.val (.int .u8 x1)) (Zq (BB x1 om) (Z1 1 45 (.i mx) (Zq (Cu x1 mx om om) (ir 1 [(4,.i (x1 % mx))] (ie ?_))))))
  exact Zc (r1 [0] ⟨(x1 % mx),rfl,rfl,⟨Pk.rem om om,by rw [Ju,Za om,Zj om,Z3];rfl⟩⟩)
 have hq1:p / bs.length<=p:=Nat.div_le_self _ _
 have hq0:(0:Int)<=((p / bs.length:Nat):Int):=Int.natCast_nonneg _
 refine ak (aD 46 (Y5 37 46 [0,1,2,3,4,5,6,7,8] (.n 50 (Xb bs) (.n 51 (.i p) (.n 55 (Xb bs) .r))) [0,0] [rd,rd] (dw 9 (QC bs) (dx 10 (DX p bs.length om om) ?_))))
 obtain ⟨x2,Zy⟩:=Zu (xs:=bs) (j:=p % bs.length) (Nat.mod_lt _ om)
 have hz:=ZD _ (Y7 Zy)
 have hy2:=Zy
 refine dx 11 (Zn none ((p % bs.length:Nat):Int) 1 (Bj Zy)) (ZX 33 34 [12] 59 (.val (.int .u8 x2)) (dx 13 (BB x2 om) (da 14 ((x2*131)) ((x2)*(131)) (Y5 26 31 [15,16,17,18,19] (.n 65 (Xb bs) (.n 66 (.i p) .r)) [0] [rd] (da 20 (((p*7:Nat):Int)) (((p:Int))*(7)) (da 21 (((p*7+3:Nat):Int)) ((((p*7:Nat):Int))+(3)) (Y5 20 24 [22,23,24,25] (.n 72 (Xb bs) .r) [0] [rd] (dw 26 (QC bs) (dx 27 (DX (p*7+3) bs.length om om) ?_)))))))))
 obtain ⟨x3,YT⟩:=Zu (xs:=bs) (j:=(p*7+3) % bs.length) (Nat.mod_lt _ om)
 have hz3:=ZD _ (Y7 YT)
 have hy3:=YT
 refine dx 28 (Zn none (((p*7+3) % bs.length:Nat):Int) 1 (Bj YT)) (ZX 16 17 [29] 76 (.val (.int .u8 x3)) (dx 30 (BB x3 om) (da 31 ((x3*1117)) ((x3)*(1117)) (da 32 (((x2*131)+(x3*1117))) (((x2*131))+((x3*1117))) (ZX 12 13 [33] 80 (.i p) (da 34 (((p*29:Nat):Int)) (((p:Int))*(29)) (da 35 ((((x2*131)+(x3*1117))+((p*29:Nat):Int))) ((((x2*131)+(x3*1117)))+(((p*29:Nat):Int))) (Y5 5 10 [36,37,38,39,40] (.n 83 (.i p) (.n 87 (Xb bs) .r)) [0] [rd] (dw 41 (QC bs) (dx 42 (AS p bs.length om om) (da 43 ((((p / bs.length:Nat):Int)*53)) ((((p / bs.length:Nat):Int))*(53)) (da 44 (((((x2*131)+(x3*1117))+((p*29:Nat):Int))+(((p / bs.length:Nat):Int)*53))) (((((x2*131)+(x3*1117))+((p*29:Nat):Int)))+((((p / bs.length:Nat):Int)*53))) (ZX 0 1 [45] 6 (.i ((((x2*131)+(x3*1117))+((p*29:Nat):Int))+(((p / bs.length:Nat):Int)*53))) (de (ar (Yq 2 92 (.i ((((x2*131)+(x3*1117))+((p*29:Nat):Int))+(((p / bs.length:Nat):Int)*53))) 93 (.i ((((x2*131)+(x3*1117))+((p*29:Nat):Int))+(((p / bs.length:Nat):Int)*53))) (Zq (Gn ((((x2*131)+(x3*1117))+((p*29:Nat):Int))+(((p / bs.length:Nat):Int)*53)) 64 om om) (Zq (Lz ((((x2*131)+(x3*1117))+((p*29:Nat):Int))+(((p / bs.length:Nat):Int)*53)) (((((x2*131)+(x3*1117))+((p*29:Nat):Int))+(((p / bs.length:Nat):Int)*53)) / 64)) (ir 1 [(1,.i mx),(6,.i (TN ((((x2*131)+(x3*1117))+((p*29:Nat):Int))+(((p / bs.length:Nat):Int)*53)) (((((x2*131)+(x3*1117))+((p*29:Nat):Int))+(((p / bs.length:Nat):Int)*53)) / 64)))] (ie (ar (ir 2 [(96,.i (TN ((((x2*131)+(x3*1117))+((p*29:Nat):Int))+(((p / bs.length:Nat):Int)*53)) (((((x2*131)+(x3*1117))+((p*29:Nat):Int))+(((p / bs.length:Nat):Int)*53)) / 64))),(97,.i mx)] (Zq (Cu (TN ((((x2*131)+(x3*1117))+((p*29:Nat):Int))+(((p / bs.length:Nat):Int)*53)) (((((x2*131)+(x3*1117))+((p*29:Nat):Int))+(((p / bs.length:Nat):Int)*53)) / 64)) mx om (EH ⟨by omega,by omega⟩ ⟨by omega,by omega⟩).1) (ir 1 [(4,.i ((TN ((((x2*131)+(x3*1117))+((p*29:Nat):Int))+(((p / bs.length:Nat):Int)*53)) (((((x2*131)+(x3*1117))+((p*29:Nat):Int))+(((p / bs.length:Nat):Int)*53)) / 64)) % mx))] (ie ?_)))))))))))))))))))))))))
 exact Zc (r1 [0] ⟨((TN ((((x2*131)+(x3*1117))+((p*29:Nat):Int))+(((p / bs.length:Nat):Int)*53)) (((((x2*131)+(x3*1117))+((p*29:Nat):Int))+(((p / bs.length:Nat):Int)*53)) / 64)) % mx),rfl,rfl,⟨Pk.rem (EH ⟨by omega,by omega⟩ ⟨by omega,by omega⟩).1 om,by rw [Ju,Za om,Za om,hy2,hy3];rfl⟩⟩)
theorem SA (rd:Nat) (bs:List Int) (p:Nat) (mx:Nat) (ZD:∀z∈bs,0<=z/\z<=255) (hp:p+1<=1000000000:=by exact ob) (hmx:0<mx:=by exact ob):Zk Tryz.prog 50 [.p rd 0,.i mx] [Yl rd bs p] (fun r h=>∃(kn:Nat),r=.i kn/\h=[.obj rd [Xb bs,.i (p+1:Nat)]]/\kn<mx/\kn=(Ju bs p mx).toNat):=(Sz rd bs p mx ZD hp).mono fun r h ⟨z,hr,hh,hz,he⟩=>by
  have h0:=hz.lt om
  exact ⟨z.toNat,by rw [hr,Int.toNat_of_nonneg h0.1],hh,by omega,by rw [he]⟩
theorem Pw (s:Z4) (hz:s.sz<=1000000000):Zk Tryz.prog 127 [Y2 s] [] (fun r h=>∃(v:Hd),r=.agg [.i s.op,.i s.num,.i s.into,Z0 s.args,.h v]/\h=[rK v 2 (Zm (YH s.kids))]):=by
 have hkz:=Td s
 have haz:=Qa s
 refine ZL 33 Tryz.func127 (ar (iA (Ye s) ?_))
 intro b1
 refine iA [.i 0,.i 0,.i 0,nl,nl] ?_
 intro b2
 refine ie (ar (DQ 2 ?_))
 intro g1
 refine ir 1 [(1,.p b1 0),(2,.p b2 0),(3,.ms g1 0 0 0)] (ie (aq (ar (Z1 1 4 (.i 0) (ie (ab 0 (al (fun m F h=>∃(k:Nat) (v:Hd),(k<=s.kids.length)/\F=[(1,.p b1 0),(2,.p b2 0),(3,.h v),(4,.i k)]/\h=[.obj b2 [.i 0,.i 0,.i 0,nl,nl],.obj b1 (Ye s),rK v 2 (Zm (YH (s.kids.take k)))]/\m=s.kids.length-k) _ _ _ ⟨0,(⟨some ⟨g1,0,none⟩,0,0⟩:Hd),ob,rfl,rfl,rfl⟩ (wk [1,1,0] (fw (fr (Yh fl))) (e:=(rc (rc (rr (ls:=[]) ob rz))))) ?_)))))))
 rintro m F h ⟨k,v,Yo,rfl,rfl,rfl⟩
 refine aq (ar (ZY 3 6 (.i k) 8 (Yz s.kids) [1] [b1] (iw (U1 s.kids) (Z1 1 10 (.b (decide ((k:Int)<(s.kids.length:Int)))) (ie (ZT ((k:Int)<(s.kids.length:Int)) (fun Ze=>?_) (fun Ze=>?_)))))))
 ·refine ak (aq (ab 1 (az (Y0 4 (.n 13 (.h v) (.n 15 (Yz s.kids) (.n 16 (.i k) .r))) [1] [b1] ?_))))
  obtain ⟨x1,Z3⟩:=Zu (xs:=s.kids) (j:=k) om
  have hks:=Tc Z3
  refine Zq (Zn none (k:Int) 2 (UD Z3)) (Z1 1 18 (Zr x1) (Zz [] (Ex x1) (iL [Zr x1] 1 2 ?_)))
  intro v1
  refine Z6 0 (.n 20 (.sl [Zr x1] none) (.p .r)) (DP 3 k v 2 (Zm (YH (s.kids.take k))) [Zr x1] none (by rw [Cg,Wp,Vs om]) (TG rfl) rfl (List.cons_ne_nil _ _) (by simp<;>omega) ?_)
  intro v2
  refine ir 1 [(1,.p b1 0),(2,.p b2 0),(3,.h v2),(4,.i k)] (ie (az (Z1 1 11 (.i k) (ZO k (Z6 1 (.n 4 (.i (k+1:Nat)) (.p (.d (.k (.k (.k .z)))))) (ie ?_))))))
  exact ZU ⟨k+1,v2,ob,rfl,rfl,rfl⟩ (wk [2,2,0] (fw (fr (ZW k fl))) (e:=(rc (rc (rr (ls:=Zm (YH (s.kids.take k))++Zm [Zr x1]) (Rr Z3) rz)))))
 refine ax 0 (aD 12 (W2 3 12 [0,1,2,3,4,5,6,7,9] [(2,.p b2 0),(23,.i s.op),(25,.i s.num),(27,.i s.into),(29,Z0 s.args),(31,.h v)] [1,1,1,1] [b1,b1,b1,b1] (Z9 8 (dc 8 [] [1,1,1] [b1,b1,b1] (VJ s.args) ?_))))
 rintro _ _ ⟨v3,rfl,rfl⟩
 refine ZX 1 2 [10] 32 (.agg [.i s.op,.i s.num,.i s.into,Z7 s.args v3,.h v]) (Z9 11 (YG 11 1 [] [] b2 [.i s.op,.i s.num,.i s.into,Z7 s.args v3,.h v] (de ?_)))
 exact Zc (r3 [3] [.agg [.i s.op,.i s.num,.i s.into,Z7 s.args v3,.h v]] [0] [(b2,b2)] ⟨v,rfl,rfl⟩ (Zg.agg (.cons (lr _) (.cons (lr _) (.cons (lr _) (.cons (Zg.forget _ _) (.cons (lr _) .nil)))))) (eq:=(rr (ls:=Zm (YH (s.kids.take k))) (by rw [Vb om]) rz)))
theorem Pv (s:Z4) (fl:Bool) (hz:s.sz<=1000000000:=by exact ob):Zk Tryz.prog 127 [Y2 s] [] (fun r h=>(∃(v:Hd),r=.agg [.i s.op,.i s.num,.i s.into,Z0 s.args,.h v]/\h=[rK v 2 (Zm (YH s.kids))]/\fl=true)∨(r=Y2 s/\h=[]/\fl=false)):=by
 cases fl with
 | true=>exact (Pw s hz).mono fun r h ⟨v,hr,hh⟩=>.inl ⟨v,hr,hh,rfl⟩
 | false=>exact (Nm s hz).mono fun r h ⟨hr,hh⟩=>.inr ⟨hr,hh,rfl⟩
theorem Ps (b:Z5) (kk:Nat) (hz:b.sz<=1000000000:=by exact ob) (hkk:kk<b.steps.length:=by exact ob):Zk Tryz.prog 86 [Zr b] [] (fun r h=>∃(v:Hd) (u:Hd),r=.agg [.h v,.i b.result]/\h=[rK v 5 (WC b kk u.v b.steps.length),rK u 2 (Uw b kk b.steps.length)]):=by
 have hbz:=Vz b
 refine ZL 28 Tryz.func86 (ar (iA (Y8 b) ?_))
 intro b1
 refine iA [nl,.i 0] ?_
 intro b2
 refine ie (ar (DQ 5 ?_))
 intro g1
 refine iR 3 [(1,.p b1 0),(2,.p b2 0),(8,.agg [.ms g1 0 0 0,.i b.result])] [2] [b1] (iA [nl,.i 0] ?_)
 intro b3
 refine ZG 0 b3 [.ms g1 0 0 0,.i b.result] (ie (aq (ar (XL (Z6x (k:=2)) (Z1 1 4 (.i 0) (ie (ab 0 (al (fun m F h=>∃(k:Nat) (v:Hd) (u:Hd),(k<=b.steps.length)/\F=[(1,.p b1 0),(2,.p b2 0),(3,.p b3 0),(4,.i k)]/\h=[.obj b3 [.h v,.i b.result],.obj b2 [nl,.i 0],.obj b1 (Y8 b),rK v 5 (WC b kk u.v k),rK u 2 (Uw b kk k)]/\m=b.steps.length-k) _ _ _ ⟨0,(⟨some ⟨g1,0,none⟩,0,0⟩:Hd),hN,ob,rfl,rfl,rfl⟩ (wk [1,2,2,1,0] (fw (fr (Yh fl))) (e:=(rc (rc (rc (rr (ls:=[]) (by first|exact LE.symm|exact LH.symm) (rr (ls:=[]) (by first|exact LE.symm|exact LH.symm) rz))))))) ?_))))))))
 rintro m F h ⟨k,v,u,Yo,rfl,rfl,rfl⟩
 refine aq (ar (ZY 3 9 (.i k) 11 (Ya b.steps) [2] [b1] (iw (Vp b.steps) (Z1 1 13 (.b (decide ((k:Int)<(b.steps.length:Int)))) (ie (ZT ((k:Int)<(b.steps.length:Int)) (fun Ze=>?_) (fun Ze=>?_)))))))
 ·refine ak (aq (ab 1 (aE 12 (Y5 7 12 [0,1,2,3,4] (.n 17 (.h v) (.n 19 (Ya b.steps) (.n 20 (.i k) .r))) [0,2] [b3,b1] ?_))))
  obtain ⟨x1,Z3⟩:=Zu (xs:=b.steps) (j:=k) om
  have hss:=KQ Z3
  refine dx 5 (Zn none (k:Int) 5 (Ww Z3)) (ZX 5 6 [6] 22 (Y2 x1) (Z9 7 (dc 7 [] [0] [b3] (Pv x1 (decide (k=kk))) ?_)))
  rintro _ _ (⟨v1,rfl,rfl,ZP⟩|⟨rfl,rfl,Y1⟩)
  ·have hke:k=kk:=of_decide_eq_true ZP
   refine Fl (NV [1,1,1,0,0,0] (h':=[.obj b3 [.h v,.i b.result],.obj b2 [nl,.i 0],.obj b1 (Y8 b),rK v1 2 (Zm (YH x1.kids)),rK v 5 (WC b kk u.v k),rK u 2 (Uw b kk k)]) (d:=[]) kr) (Z9 8 (dL 8 [0] [b3] [.agg [.i x1.op,.i x1.num,.i x1.into,Z0 x1.args,.h v1]] 1 5 ?_))
   intro v2
   refine ZZ 3 3 [] (.n 24 (.sl [.agg [.i x1.op,.i x1.num,.i x1.into,Z0 x1.args,.h v1]] none) (.p .r)) (Z9 9 (Fi 9 5 k [] [] v 5 (WC b kk u.v k) [.agg [.i x1.op,.i x1.num,.i x1.into,Z0 x1.args,.h v1]] none (Gr om) (TG rfl) rfl (List.cons_ne_nil _ _) (by simp<;>omega) ?_))
   intro v3
   refine ZX 1 2 [10] 26 (.p b3 0) (Z9 11 (YG 11 2 [] [] b3 [.h v3,.i b.result] (de (az (Z1 1 14 (.i k) (ZO k (ir 1 [(1,.p b1 0),(2,.p b2 0),(3,.p b3 0),(4,.i (k+1:Nat))] (ie ?_))))))))
   exact ZU ⟨k+1,v3,v1,ob,rfl,rfl,rfl⟩ (wk [0,2,2,0,1] (fw (fr (ZW k fl))) (e:=(rc (rc (rc (rr (ls:=WC b kk u.v k++Zm [.agg [.i x1.op,.i x1.num,.i x1.into,Z0 x1.args,.h v1]]) (by first|(subst hke;exact LD Z3)|(subst hke;exact LG Z3)) (rr (ls:=Zm (YH x1.kids)) (by first|(subst hke;exact LD Z3)|(subst hke;exact LG Z3)) rz)))))))
  have hke:¬k=kk:=of_decide_eq_false Y1
  refine Z9 8 (dL 8 [0] [b3] [Y2 x1] 1 5 ?_)
  intro v4
  refine ZZ 3 3 [] (.n 24 (.sl [Y2 x1] none) (.p .r)) (Z9 9 (Fi 9 4 k [] [] v 5 (WC b kk u.v k) [Y2 x1] none (Gr om) (TG rfl) rfl (List.cons_ne_nil _ _) (by simp<;>omega) ?_))
  intro v5
  refine ZX 1 2 [10] 26 (.p b3 0) (Z9 11 (YG 11 2 [] [] b3 [.h v5,.i b.result] (de (az (Z1 1 14 (.i k) (ZO k (ir 1 [(1,.p b1 0),(2,.p b2 0),(3,.p b3 0),(4,.i (k+1:Nat))] (ie ?_))))))))
  exact ZU ⟨k+1,v5,u,ob,rfl,rfl,rfl⟩ (wk [0,2,2,0,1] (fw (fr (ZW k fl))) (e:=(rc (rc (rc (rr (ls:=WC b kk u.v k++Zm [Y2 x1]) (by first|exact LA Z3 hke|exact LF hke) (rr (ls:=Uw b kk k) (by first|exact LA Z3 hke|exact LF hke) rz)))))))
 refine ax 0 (ar (Yn 1 27 (.agg [.h v,.i b.result]) [0] [b3] (ZG 1 b2 [.h v,.i b.result] (ie ?_))))
 exact Zc (r3 [3,3] [.agg [.h v,.i b.result]] [0] [(b2,b2)] ⟨v,u,rfl,rfl⟩ (lr _) (eq:=(rr (ls:=WC b kk u.v k) (by rw [show k=b.steps.length by omega]) (rr (ls:=Uw b kk k) (by rw [show k=b.steps.length by omega]) rz))))
theorem SH (rd:Nat) (bs:List Int) (p:Nat) (b:Z5) (ZD:∀z∈bs,0<=z/\z<=255) (hp:p+(10*b.sz)<=1000000000) (hz:b.sz<=20000000) (hg:b.rng) (h0:b.steps.length=0):Zk Tryz.prog 53 [.p rd 0,Zr b] [Yl rd bs p] (fun r h=>∃(y:Z5) (p2:Nat),r=Zr y/\h=[Yl rd bs p2]/\Xs b y/\p<=p2/\p2<=p+(10*b.sz)):=by
 have hbp:=b.sz_pos
 refine ZL 109 Tryz.func53 (ar (iA (Y8 b) ?_))
 intro b1
 refine iA [nl,.i 0] ?_
 intro b2
 refine ie (ar (iR 1 [(0,.p rd 0),(4,.p b2 0),(8,Zr b)] [1] [b1] (Zz [] (Ex b) (iA [nl,.i 0] ?_))))
 intro b3
 refine ZG 0 b3 (Y8 b) (ie (aq (ar (Yn 2 11 (Ya b.steps) [0] [b3] (iw (Vp b.steps) (Z1 2 14 (.b ((b.steps.length:Int)==0)) (ib (b:=((b.steps.length:Int)==0)) 14 (fun Zb=>?_) (fun Zb=>?_))))))))
 ·have ZP:(b.steps.length:Int)=0:=(Zh).1 Zb
  refine Z6 4 (.n 18 (.b true) (.k (.d .r))) (ie (WW (ar (Z1 1 19 (.p rd 0) (iL (Z8 [0,1,2,3,-1,99]) 6 1 ?_)))))
  intro v1
  refine Z6 0 (.n 20 (Z0 [0,1,2,3,-1,99]) (.p .r)) (ic [4] (Vu rd bs p [0,1,2,3,-1,99] (ZD:=ob)) ?_)
  rintro _ _ ⟨z1,rfl,rfl,Y1⟩
  refine Z1 1 22 (.p b3 1) (ZG 2 b3 [Ya b.steps,.i z1] (ie (ar (Yn 1 23 (.agg [Ya b.steps,.i z1]) [0] [b3] (ZG 3 b2 [Ya b.steps,.i z1] (ie ?_))))))
  exact Zc (r3 [2] [.agg [Ya b.steps,.i z1]] [0] [(b2,b2)] ⟨(Z5.mk b.steps z1),p+1,rfl,rfl,⟨Xs.result hg _,by have:=b.sz_pos;omega,by have:=b.sz_pos;omega⟩⟩ (lr _))
 have YB:¬((b.steps.length:Int)=0):=ZF Zh Zb
 exact absurd (show (b.steps.length:Int)=0 by omega) YB
theorem SJ (rd:Nat) (bs:List Int) (p:Nat) (b:Z5) (ZD:∀z∈bs,0<=z/\z<=255) (hp:p+(10*b.sz)<=1000000000) (hz:b.sz<=20000000) (hg:b.rng) (h0:0<b.steps.length) (ih:∀(rd:Nat) (bs:List Int) (p:Nat) (b2:Z5),(∀z∈bs,0<=z/\z<=255)->(p+(10*b2.sz)<=1000000000)->(b2.sz<=20000000)->(b2.rng)->(b2.sz<b.sz)->Zk Tryz.prog 53 [.p rd 0,Zr b2] [Yl rd bs p] (fun r h=>∃(y:Z5) (p2:Nat),r=Zr y/\h=[Yl rd bs p2]/\Xs b2 y/\p<=p2/\p2<=p+(10*b2.sz))):Zk Tryz.prog 53 [.p rd 0,Zr b] [Yl rd bs p] (fun r h=>∃(y:Z5) (p2:Nat),r=Zr y/\h=[Yl rd bs p2]/\Xs b y/\p<=p2/\p2<=p+(10*b.sz)):=by
 have hbp:=b.sz_pos
 obtain ⟨kk,hkk⟩:∃kk,kk=(Ju bs (p+1) (b.steps.length:Int)).toNat:=⟨_,rfl⟩
 have hkl:kk<b.steps.length:=by have:=Z3a (bs:=bs) (p:=p+1) (mx:=(b.steps.length:Int)) om;omega
 obtain ⟨sk,hsk⟩:=Zu (xs:=b.steps) (j:=kk) hkl
 have hsb:=KQ hsk
 have hsg:=Z3p hg hsk
 have hst:=Vz b
 refine ZL 109 Tryz.func53 (ar (iA (Y8 b) ?_))
 intro b1
 refine iA [nl,.i 0] ?_
 intro b2
 refine ie (ar (iR 1 [(0,.p rd 0),(4,.p b2 0),(8,Zr b)] [1] [b1] (ic [] (Ps b kk) ?_)))
 rintro _ _ ⟨v1,u1,rfl,rfl⟩
 refine DO 0 b.steps.length (v:=v1) (Gr (kk:=kk) (u:=u1.v) (Xa b.steps.length)) om (fun g1 c1 he1=>?_)
 subst he1
 refine XL (NV [0,1,1,1,0] (h':=[.row (.slice (some ⟨g1,0,none⟩) b.steps.length c1) 5 (WC b kk u1.v b.steps.length),.obj b2 [nl,.i 0],.obj b1 (Y8 b),Yl rd bs p,rK u1 2 (Uw b kk b.steps.length)]) (d:=[]) kr) (iA [nl,.i 0] ?_)
 intro b3
 refine ZG 0 b3 [.ms g1 0 b.steps.length c1,.i b.result] (ie (aq (ar (iR 2 [(0,.p rd 0),(4,.p b2 0),(5,.p b3 0),(11,.ms g1 0 b.steps.length c1)] [0] [b3] (io (.i b.steps.length) (.i b.steps.length) (lr _) (Z1 2 14 (.b ((b.steps.length:Int)==0)) (ib (b:=((b.steps.length:Int)==0)) 14 (fun Zb=>?_) (fun Zb=>?_))))))))
 ·have ZP:(b.steps.length:Int)=0:=(Zh).1 Zb
  exact absurd ZP om
 have Y1:¬((b.steps.length:Int)=0):=ZF Zh Zb
 refine Z6 1 (.n 15 (.p rd 0) (.k (.d .r))) (ic [4] (XP rd bs p 5 (ZD:=ob)) ?_)
 rintro _ _ ⟨k1,rfl,rfl,YB⟩
 refine Z1 2 18 (.b (k1==0)) (ie (ac (k1==0) Zh (fun Ze=>?_) (fun Ze=>?_)))
 ·refine ar (XL (Hp 5 2 b kk sk u1.v (.slice (some ⟨g1,0,none⟩) b.steps.length c1) hsk) (XL (UB 0 2 0 (.slice (some ⟨g1,0,none⟩) b.steps.length c1) 5 b3 (Zo b.steps) [.ms g1 0 b.steps.length c1,.i b.result] (YZ _) rfl) (Z1 1 19 (.p rd 0) (iL (Z8 [0,1,2,3,-1,99]) 6 1 ?_))))
  intro v2
  refine Z6 0 (.n 20 (Z0 [0,1,2,3,-1,99]) (.p .r)) (ic [4] (Vu rd bs (p+1) [0,1,2,3,-1,99] (ZD:=ob)) ?_)
  rintro _ _ ⟨z1,rfl,rfl,YM⟩
  refine Z1 1 22 (.p b3 1) (ZG 2 b3 [ZQ b.steps (.slice (some ⟨g1,0,none⟩) b.steps.length c1),.i z1] (ie (ar (Yn 1 23 (.agg [ZQ b.steps (.slice (some ⟨g1,0,none⟩) b.steps.length c1),.i z1]) [0] [b3] (ZG 5 b2 [ZQ b.steps (.slice (some ⟨g1,0,none⟩) b.steps.length c1),.i z1] (ie ?_))))))
  exact Zc (r3 [2] [.agg [ZQ b.steps (.slice (some ⟨g1,0,none⟩) b.steps.length c1),.i z1]] [0] [(b2,b2)] ⟨(Z5.mk b.steps z1),(p+1)+1,rfl,rfl,(by first|exact ⟨Xs.result hg _,by omega,by omega⟩|exact ⟨Xs.kid hg hsk hck hyb.1,by omega,by omega⟩|exact ⟨Xs.del hg,by omega,by omega⟩|exact ⟨Xs.put hg,by omega,by omega⟩|exact ⟨Xs.set hg hsk ⟨by have:=hys.1.1;omega,hys.1.2⟩,by omega,by omega⟩)⟩ (Zg.agg (.cons (Zg.forget _ _) (.cons (lr _) .nil))))
 refine ak (ar (ZY 3 24 (.p rd 0) 26 (.ms g1 0 b.steps.length c1) [1] [b3] (io (.i b.steps.length) (.i b.steps.length) (lr _) (ic [0] (SA rd bs (p+1) b.steps.length (ZD:=ob)) ?_))))
 rintro _ _ ⟨Y6,rfl,rfl,YX⟩
 have hkn:Y6=kk:=by have:=YX.2;omega
 refine Z1 1 6 (.i Y6) (ie (aq (ar (ZY 3 30 (.ms g1 0 b.steps.length c1) 31 (.i Y6) [1] [b3] (Zq (W5 g1 b.steps.length c1 Y6 5 (Y6:Int)) (Z1 1 33 (.val (.pointer (some ⟨g1,Y6*5+4,none⟩))) (VO (V0 2 g1 b.steps.length c1 5 (Y6*5+4) (WC b kk u1.v b.steps.length) [.h u1] 42 (.h u1) (by rw [hkn];exact E0 hsk)) (Zq (Z19 5 sk.kids.length u1 2 (Uw b kk b.steps.length) (by rw [Gs hsk];exact Cg _)) (Z1 2 37 (.b (decide ((sk.kids.length:Int)>0))) (ib (b:=(decide ((sk.kids.length:Int)>0))) 37 (fun Zv=>?_) (fun Zv=>?_)))))))))))
 ·have Xv:(sk.kids.length:Int)>0:=(dq).1 Zv
  refine Z6 1 (.n 38 (.p rd 0) (.k (.d .r))) (ic [0] (XP rd bs ((p+1)+1) 3 (ZD:=ob)) ?_)
  rintro _ _ ⟨k2,rfl,rfl,Wb⟩
  refine Z1 2 41 (.b (decide (k2>0))) (ie (ZT (k2>0) (fun Zl=>?_) (fun Zl=>?_)))
  ·refine ar (XL (Hq 5 u1.v 2 (Uw b kk b.steps.length) (Zm (YH sk.kids)) (Gs hsk)) (DO 0 sk.kids.length (v:=u1) (Cg _) om (fun g2 c2 he2=>?_)))
   subst he2
   refine iR 4 [(0,.p rd 0),(4,.p b2 0),(5,.p b3 0),(6,.i Y6),(42,.p rd 0),(44,.ms g1 0 b.steps.length c1),(45,.i Y6)] [2] [b3] (Zq (W5 g1 b.steps.length c1 Y6 5 (Y6:Int)) (Z1 1 47 (.val (.pointer (some ⟨g1,Y6*5+4,none⟩))) (VO (V0 3 g1 b.steps.length c1 5 (Y6*5+4) (WC b kk (.slice (some ⟨g2,0,none⟩) sk.kids.length c2) b.steps.length) [.ms g2 0 sk.kids.length c2] 42 (.ms g2 0 sk.kids.length c2) (by rw [hkn];exact E0 hsk)) (io (.i sk.kids.length) (.i sk.kids.length) (lr _) (ic [1] (K7 rd bs (((p+1)+1)+1) sk.kids.length (ZD:=ob)) ?_)))))
   rintro _ _ ⟨YD,rfl,rfl,WE⟩
   obtain ⟨ck,hck⟩:=Zu (xs:=sk.kids) (j:=YD) om
   have hckz:=Tc hck
   have hckb:=KQ hsk
   have hckg:=Z3m hg hsk hck
   refine Z1 1 7 (.i YD) (ie (aD 20 (Y5 17 20 [0,1,2] (.n 52 (.ms g1 0 b.steps.length c1) (.n 53 (.i Y6) .r)) [2] [b3] (dx 3 (W5 g1 b.steps.length c1 Y6 5 (Y6:Int)) (ZX 15 16 [4] 55 (.val (.pointer (some ⟨g1,Y6*5+4,none⟩))) (VP 5 (V0 3 g1 b.steps.length c1 5 (Y6*5+4) (WC b kk (.slice (some ⟨g2,0,none⟩) sk.kids.length c2) b.steps.length) [.ms g2 0 sk.kids.length c2] 42 (.ms g2 0 sk.kids.length c2) (by rw [hkn];exact E0 hsk)) (Y5 9 14 [6,7,8,9,10] (.n 57 (.i YD) (.n 58 (.p rd 0) (.n 60 (.ms g1 0 b.steps.length c1) (.n 61 (.i Y6) .r)))) [2] [b3] (dx 11 (W5 g1 b.steps.length c1 Y6 5 (Y6:Int)) (ZX 7 8 [12] 63 (.val (.pointer (some ⟨g1,Y6*5+4,none⟩))) (VP 13 (V0 3 g1 b.steps.length c1 5 (Y6*5+4) (WC b kk (.slice (some ⟨g2,0,none⟩) sk.kids.length c2) b.steps.length) [.ms g2 0 sk.kids.length c2] 42 (.ms g2 0 sk.kids.length c2) (by rw [hkn];exact E0 hsk)) (ZX 5 6 [14] 65 (.i YD) (dx 15 (W5 g2 sk.kids.length c2 YD 2 (YD:Int)) (VP 16 (V0 1 g2 sk.kids.length c2 2 (YD*2) (Zm (YH sk.kids)) (Y8 ck) 30 (Zr ck) (Rq hck)) (Z9 17 (dc 17 [0] [2,1] [g1,b3] (ih rd bs ((((p+1)+1)+1)+1) ck ob ob ob ob ob) ?_)))))))))))))))
   rintro _ _ ⟨y1,p21,rfl,rfl,WR⟩
   have hyb:=WR
   refine dx 18 (W5 g2 sk.kids.length c2 YD 2 (YD:Int)) (Z9 19 (AB 19 1 [] [] g2 sk.kids.length c2 2 (YD*2) (Y8 y1) (Zm (YH sk.kids)) (Zm (YH (sk.kids.set YD y1))) (by rw [Cg];simp only [YQ,Xp];omega) (Rs y1 om) (de (ar (XL (NS 0 2 b kk sk (sk.kids.set YD y1) (.slice (some ⟨g2,0,none⟩) sk.kids.length c2) (.slice (some ⟨g1,0,none⟩) b.steps.length c1) hsk) (XL (UB 0 2 0 (.slice (some ⟨g1,0,none⟩) b.steps.length c1) 5 b3 (Zo (b.steps.set kk (Z4.mk sk.op sk.num sk.into sk.args (sk.kids.set YD y1)))) [.ms g1 0 b.steps.length c1,.i b.result] (YZ _) rfl) (Yn 1 70 (.agg [ZQ (b.steps.set kk (Z4.mk sk.op sk.num sk.into sk.args (sk.kids.set YD y1))) (.slice (some ⟨g1,0,none⟩) b.steps.length c1),.i b.result]) [0] [b3] (ZG 4 b2 [ZQ (b.steps.set kk (Z4.mk sk.op sk.num sk.into sk.args (sk.kids.set YD y1))) (.slice (some ⟨g1,0,none⟩) b.steps.length c1),.i b.result] (ie ?_)))))))))
   exact Zc (r3 [4] [.agg [ZQ (b.steps.set kk (Z4.mk sk.op sk.num sk.into sk.args (sk.kids.set YD y1))) (.slice (some ⟨g1,0,none⟩) b.steps.length c1),.i b.result]] [0] [(b2,b2)] ⟨(Z5.mk (b.steps.set kk (Z4.mk sk.op sk.num sk.into sk.args (sk.kids.set YD y1))) b.result),p21,rfl,rfl,(by first|exact ⟨Xs.result hg _,by omega,by omega⟩|exact ⟨Xs.kid hg hsk hck hyb.1,by omega,by omega⟩|exact ⟨Xs.del hg,by omega,by omega⟩|exact ⟨Xs.put hg,by omega,by omega⟩|exact ⟨Xs.set hg hsk ⟨by have:=hys.1.1;omega,hys.1.2⟩,by omega,by omega⟩)⟩ (Zg.agg (.cons (Zg.forget _ _) (.cons (lr _) .nil))))
  refine ak (aq (ar (XL (Hp 5 2 b kk sk u1.v (.slice (some ⟨g1,0,none⟩) b.steps.length c1) hsk) (Z1 1 71 (.p rd 0) (ic [2] (XP rd bs (((p+1)+1)+1) 4 (ZD:=ob)) ?_)))))
  rintro _ _ ⟨k3,rfl,rfl,Uc⟩
  refine ie (ab 0 (ar (Z1 2 84 (.b (k3==0)) (ie (ac (k3==0) Zh (fun ZI=>?_) (fun ZI=>?_))))))
  ·refine aE 12 (Y5 9 12 [0,1,2] (.n 87 (.ms g1 0 b.steps.length c1) (.n 88 (.i Y6) .r)) [3] [b3] (dx 3 (Gm 1 g1 b.steps.length c1 Y6 5 (Zm (Zo b.steps))) (Y5 5 8 [4,5,6] (.n 91 (.ms g1 0 b.steps.length c1) (.n 92 (.i Y6) .r)) [3] [b3] (da 7 (((Y6+1:Nat):Int)) (((Y6:Int))+(1)) (dx 8 (Ly 1 g1 b.steps.length c1 (Y6+1) 5 (Zm (Zo b.steps))) (Z9 9 (Im 9 1 [] [] g1 b.steps.length c1 Y6 (Y6+1) 5 (Zm (Zo b.steps)) (Ve _) (ZX 1 2 [10] 96 (.p b3 0) (Z9 11 (YG 11 3 [] [] b3 [.ms g1 0 (Y6+(b.steps.length-(Y6+1))) c1,.i b.result] (de (ar (XL (Hq 1 (.slice (some ⟨g1,0,none⟩) (Y6+(b.steps.length-(Y6+1))) c1) 5 (((Zm (Zo b.steps)).take (Y6*5))++((Zm (Zo b.steps)).drop ((Y6+1)*5))) (Zm (Zo (b.steps.take kk++b.steps.drop (kk+1)))) (by rw [hkn];exact IM hkl)) (XL (UB 0 0 0 (.slice (some ⟨g1,0,none⟩) (Y6+(b.steps.length-(Y6+1))) c1) 5 b3 (Zo (b.steps.take kk++b.steps.drop (kk+1))) [.ms g1 0 (Y6+(b.steps.length-(Y6+1))) c1,.i b.result] (YZ _) rfl) (Yn 1 108 (.agg [ZQ (b.steps.take kk++b.steps.drop (kk+1)) (.slice (some ⟨g1,0,none⟩) (Y6+(b.steps.length-(Y6+1))) c1),.i b.result]) [0] [b3] (ZG 4 b2 [ZQ (b.steps.take kk++b.steps.drop (kk+1)) (.slice (some ⟨g1,0,none⟩) (Y6+(b.steps.length-(Y6+1))) c1),.i b.result] (ie ?_)))))))))))))))))
   exact Zc (r3 [3] [.agg [ZQ (b.steps.take kk++b.steps.drop (kk+1)) (.slice (some ⟨g1,0,none⟩) (Y6+(b.steps.length-(Y6+1))) c1),.i b.result]] [0] [(b2,b2)] ⟨(Z5.mk (b.steps.take kk++b.steps.drop (kk+1)) b.result),(((p+1)+1)+1)+1,rfl,rfl,(by first|exact ⟨Xs.result hg _,by omega,by omega⟩|exact ⟨Xs.kid hg hsk hck hyb.1,by omega,by omega⟩|exact ⟨Xs.del hg,by omega,by omega⟩|exact ⟨Xs.put hg,by omega,by omega⟩|exact ⟨Xs.set hg hsk ⟨by have:=hys.1.1;omega,hys.1.2⟩,by omega,by omega⟩)⟩ (Zg.agg (.cons (Zg.forget _ _) (.cons (lr _) .nil))))
  refine ar (Z1 2 97 (.b (k3==1)) (ie (ac (k3==1) Zh (fun Yi=>?_) (fun Yi=>?_))))
  ·refine aD 10 (Fl (UB 1 2 0 (.slice (some ⟨g1,0,none⟩) b.steps.length c1) 5 b3 (Zo b.steps) [.ms g1 0 b.steps.length c1,.i b.result] (YZ _) rfl) (W2 6 10 [0,1,2,5] [(4,.p b2 0),(99,.agg [ZQ b.steps (.slice (some ⟨g1,0,none⟩) b.steps.length c1),.i b.result]),(100,.i Y6),(101,.p rd 0),(104,.p rd 0)] [0] [b3] (Z9 3 (dL 3 [0] [b3] (Z8 [14,15,15,16,17]) 5 1 ?_))))
   intro v3
   refine ZZ 5 5 [] (.n 102 (Z0 [14,15,15,16,17]) (.p .r)) (Z9 4 (dc 4 [3] [0] [b3] (Vu rd bs ((((p+1)+1)+1)+1) [14,15,15,16,17] (ZD:=ob)) ?_))
   rintro _ _ ⟨z2,rfl,rfl,UH⟩
   refine Z9 6 (dc 6 [0] [0] [b3] (XP rd bs (((((p+1)+1)+1)+1)+1) 4 (ZD:=ob)) ?_)
   rintro _ _ ⟨k4,rfl,rfl,Uv⟩
   refine Z9 7 (Yv 7 [] [1] [b3] (KP z2 k4) (ZZ 2 2 [] (.n 99 (Zr b) (.q 106 (.p (.p (.d (.k (.d (.k .z)))))))) (Z9 8 (Yv 8 [] [] [] (DJ b Y6 (Zi z2 k4)) (Z9 9 (YG 9 5 [] [] b2 (Y8 (Z5.mk (Wc b.steps Y6 (Zi z2 k4)) b.result)) (de ?_)))))))
   exact Zc (r3 [1] [Zr (Z5.mk (Wc b.steps Y6 (Zi z2 k4)) b.result)] [0] [(b2,b2)] ⟨(Z5.mk (Wc b.steps Y6 (Zi z2 k4)) b.result),(((((p+1)+1)+1)+1)+1)+1,rfl,rfl,(by first|exact ⟨Xs.result hg _,by omega,by omega⟩|exact ⟨Xs.kid hg hsk hck hyb.1,by omega,by omega⟩|exact ⟨Xs.del hg,by omega,by omega⟩|exact ⟨Xs.put hg,by omega,by omega⟩|exact ⟨Xs.set hg hsk ⟨by have:=hys.1.1;omega,hys.1.2⟩,by omega,by omega⟩)⟩ (lr _))
  refine aE 12 (Y5 5 12 [0,1,2,3,4,5,6] (.n 74 (.ms g1 0 b.steps.length c1) (.n 75 (.i Y6) (.n 76 (.p rd 0) (.n 78 (.ms g1 0 b.steps.length c1) (.n 79 (.i Y6) .r))))) [3,3] [b3,b3] (dx 7 (W5 g1 b.steps.length c1 Y6 5 (Y6:Int)) (VP 8 (V0 1 g1 b.steps.length c1 5 (Y6*5) (Zm (Zo b.steps)) (Ye sk) 44 (Y2 sk) (by rw [hkn];exact FM hsk)) (Z9 9 (dc 9 [0] [1] [b3] (Le rd bs ((((p+1)+1)+1)+1) sk (ZD:=ob)) ?_)))))
  rintro _ _ ⟨y2,p22,rfl,rfl,Tt⟩
  have hys:=Tt
  refine dx 10 (W5 g1 b.steps.length c1 Y6 5 (Y6:Int)) (Z9 11 (AB 11 1 [] [] g1 b.steps.length c1 5 (Y6*5) (Ye y2) (Zm (Zo b.steps)) (Zm (Zo (b.steps.set kk y2))) (by rw [TW];simp only [YQ,Xp];omega) (by rw [hkn];exact DC hsk) (de (ar (XL (UB 0 2 0 (.slice (some ⟨g1,0,none⟩) b.steps.length c1) 5 b3 (Zo (b.steps.set kk y2)) [.ms g1 0 b.steps.length c1,.i b.result] (YZ _) rfl) (Yn 1 108 (.agg [ZQ (b.steps.set kk y2) (.slice (some ⟨g1,0,none⟩) b.steps.length c1),.i b.result]) [0] [b3] (ZG 4 b2 [ZQ (b.steps.set kk y2) (.slice (some ⟨g1,0,none⟩) b.steps.length c1),.i b.result] (ie ?_))))))))
  exact Zc (r3 [3] [.agg [ZQ (b.steps.set kk y2) (.slice (some ⟨g1,0,none⟩) b.steps.length c1),.i b.result]] [0] [(b2,b2)] ⟨(Z5.mk (b.steps.set kk y2) b.result),p22,rfl,rfl,(by first|exact ⟨Xs.result hg _,by omega,by omega⟩|exact ⟨Xs.kid hg hsk hck hyb.1,by omega,by omega⟩|exact ⟨Xs.del hg,by omega,by omega⟩|exact ⟨Xs.put hg,by omega,by omega⟩|exact ⟨Xs.set hg hsk ⟨by have:=hys.1.1;omega,hys.1.2⟩,by omega,by omega⟩)⟩ (Zg.agg (.cons (Zg.forget _ _) (.cons (lr _) .nil))))
 have Ta:¬((sk.kids.length:Int)>0):=ZF dq Zv
 refine Z6 4 (.n 41 (.b false) (.k (.d .r))) (ie (WV (ak (aq (ar (XL (Hp 5 2 b kk sk u1.v (.slice (some ⟨g1,0,none⟩) b.steps.length c1) hsk) (Z1 1 71 (.p rd 0) (ic [2] (XP rd bs ((p+1)+1) 4 (ZD:=ob)) ?_))))))))
 rintro _ _ ⟨k5,rfl,rfl,QF⟩
 refine ie (ab 0 (ar (Z1 2 84 (.b (k5==0)) (ie (ac (k5==0) Zh (fun Xk=>?_) (fun Xk=>?_))))))
 ·refine aE 12 (Y5 9 12 [0,1,2] (.n 87 (.ms g1 0 b.steps.length c1) (.n 88 (.i Y6) .r)) [3] [b3] (dx 3 (Gm 1 g1 b.steps.length c1 Y6 5 (Zm (Zo b.steps))) (Y5 5 8 [4,5,6] (.n 91 (.ms g1 0 b.steps.length c1) (.n 92 (.i Y6) .r)) [3] [b3] (da 7 (((Y6+1:Nat):Int)) (((Y6:Int))+(1)) (dx 8 (Ly 1 g1 b.steps.length c1 (Y6+1) 5 (Zm (Zo b.steps))) (Z9 9 (Im 9 1 [] [] g1 b.steps.length c1 Y6 (Y6+1) 5 (Zm (Zo b.steps)) (Ve _) (ZX 1 2 [10] 96 (.p b3 0) (Z9 11 (YG 11 3 [] [] b3 [.ms g1 0 (Y6+(b.steps.length-(Y6+1))) c1,.i b.result] (de (ar (XL (Hq 1 (.slice (some ⟨g1,0,none⟩) (Y6+(b.steps.length-(Y6+1))) c1) 5 (((Zm (Zo b.steps)).take (Y6*5))++((Zm (Zo b.steps)).drop ((Y6+1)*5))) (Zm (Zo (b.steps.take kk++b.steps.drop (kk+1)))) (by rw [hkn];exact IM hkl)) (XL (UB 0 0 0 (.slice (some ⟨g1,0,none⟩) (Y6+(b.steps.length-(Y6+1))) c1) 5 b3 (Zo (b.steps.take kk++b.steps.drop (kk+1))) [.ms g1 0 (Y6+(b.steps.length-(Y6+1))) c1,.i b.result] (YZ _) rfl) (Yn 1 108 (.agg [ZQ (b.steps.take kk++b.steps.drop (kk+1)) (.slice (some ⟨g1,0,none⟩) (Y6+(b.steps.length-(Y6+1))) c1),.i b.result]) [0] [b3] (ZG 4 b2 [ZQ (b.steps.take kk++b.steps.drop (kk+1)) (.slice (some ⟨g1,0,none⟩) (Y6+(b.steps.length-(Y6+1))) c1),.i b.result] (ie ?_)))))))))))))))))
  exact Zc (r3 [3] [.agg [ZQ (b.steps.take kk++b.steps.drop (kk+1)) (.slice (some ⟨g1,0,none⟩) (Y6+(b.steps.length-(Y6+1))) c1),.i b.result]] [0] [(b2,b2)] ⟨(Z5.mk (b.steps.take kk++b.steps.drop (kk+1)) b.result),((p+1)+1)+1,rfl,rfl,(by first|exact ⟨Xs.result hg _,by omega,by omega⟩|exact ⟨Xs.kid hg hsk hck hyb.1,by omega,by omega⟩|exact ⟨Xs.del hg,by omega,by omega⟩|exact ⟨Xs.put hg,by omega,by omega⟩|exact ⟨Xs.set hg hsk ⟨by have:=hys.1.1;omega,hys.1.2⟩,by omega,by omega⟩)⟩ (Zg.agg (.cons (Zg.forget _ _) (.cons (lr _) .nil))))
 refine ar (Z1 2 97 (.b (k5==1)) (ie (ac (k5==1) Zh (fun Xl=>?_) (fun Xl=>?_))))
 ·refine aD 10 (Fl (UB 1 2 0 (.slice (some ⟨g1,0,none⟩) b.steps.length c1) 5 b3 (Zo b.steps) [.ms g1 0 b.steps.length c1,.i b.result] (YZ _) rfl) (W2 6 10 [0,1,2,5] [(4,.p b2 0),(99,.agg [ZQ b.steps (.slice (some ⟨g1,0,none⟩) b.steps.length c1),.i b.result]),(100,.i Y6),(101,.p rd 0),(104,.p rd 0)] [0] [b3] (Z9 3 (dL 3 [0] [b3] (Z8 [14,15,15,16,17]) 5 1 ?_))))
  intro v4
  refine ZZ 5 5 [] (.n 102 (Z0 [14,15,15,16,17]) (.p .r)) (Z9 4 (dc 4 [3] [0] [b3] (Vu rd bs (((p+1)+1)+1) [14,15,15,16,17] (ZD:=ob)) ?_))
  rintro _ _ ⟨z3,rfl,rfl,QG⟩
  refine Z9 6 (dc 6 [0] [0] [b3] (XP rd bs ((((p+1)+1)+1)+1) 4 (ZD:=ob)) ?_)
  rintro _ _ ⟨k6,rfl,rfl,Jk⟩
  refine Z9 7 (Yv 7 [] [1] [b3] (KP z3 k6) (ZZ 2 2 [] (.n 99 (Zr b) (.q 106 (.p (.p (.d (.k (.d (.k .z)))))))) (Z9 8 (Yv 8 [] [] [] (DJ b Y6 (Zi z3 k6)) (Z9 9 (YG 9 5 [] [] b2 (Y8 (Z5.mk (Wc b.steps Y6 (Zi z3 k6)) b.result)) (de ?_)))))))
  exact Zc (r3 [1] [Zr (Z5.mk (Wc b.steps Y6 (Zi z3 k6)) b.result)] [0] [(b2,b2)] ⟨(Z5.mk (Wc b.steps Y6 (Zi z3 k6)) b.result),((((p+1)+1)+1)+1)+1,rfl,rfl,(by first|exact ⟨Xs.result hg _,by omega,by omega⟩|exact ⟨Xs.kid hg hsk hck hyb.1,by omega,by omega⟩|exact ⟨Xs.del hg,by omega,by omega⟩|exact ⟨Xs.put hg,by omega,by omega⟩|exact ⟨Xs.set hg hsk ⟨by have:=hys.1.1;omega,hys.1.2⟩,by omega,by omega⟩)⟩ (lr _))
 refine aE 12 (Y5 5 12 [0,1,2,3,4,5,6] (.n 74 (.ms g1 0 b.steps.length c1) (.n 75 (.i Y6) (.n 76 (.p rd 0) (.n 78 (.ms g1 0 b.steps.length c1) (.n 79 (.i Y6) .r))))) [3,3] [b3,b3] (dx 7 (W5 g1 b.steps.length c1 Y6 5 (Y6:Int)) (VP 8 (V0 1 g1 b.steps.length c1 5 (Y6*5) (Zm (Zo b.steps)) (Ye sk) 44 (Y2 sk) (by rw [hkn];exact FM hsk)) (Z9 9 (dc 9 [0] [1] [b3] (Le rd bs (((p+1)+1)+1) sk (ZD:=ob)) ?_)))))
 rintro _ _ ⟨y3,p23,rfl,rfl,QH⟩
 have hys:=QH
 refine dx 10 (W5 g1 b.steps.length c1 Y6 5 (Y6:Int)) (Z9 11 (AB 11 1 [] [] g1 b.steps.length c1 5 (Y6*5) (Ye y3) (Zm (Zo b.steps)) (Zm (Zo (b.steps.set kk y3))) (by rw [TW];simp only [YQ,Xp];omega) (by rw [hkn];exact DC hsk) (de (ar (XL (UB 0 2 0 (.slice (some ⟨g1,0,none⟩) b.steps.length c1) 5 b3 (Zo (b.steps.set kk y3)) [.ms g1 0 b.steps.length c1,.i b.result] (YZ _) rfl) (Yn 1 108 (.agg [ZQ (b.steps.set kk y3) (.slice (some ⟨g1,0,none⟩) b.steps.length c1),.i b.result]) [0] [b3] (ZG 4 b2 [ZQ (b.steps.set kk y3) (.slice (some ⟨g1,0,none⟩) b.steps.length c1),.i b.result] (ie ?_))))))))
 exact Zc (r3 [3] [.agg [ZQ (b.steps.set kk y3) (.slice (some ⟨g1,0,none⟩) b.steps.length c1),.i b.result]] [0] [(b2,b2)] ⟨(Z5.mk (b.steps.set kk y3) b.result),p23,rfl,rfl,(by first|exact ⟨Xs.result hg _,by omega,by omega⟩|exact ⟨Xs.kid hg hsk hck hyb.1,by omega,by omega⟩|exact ⟨Xs.del hg,by omega,by omega⟩|exact ⟨Xs.put hg,by omega,by omega⟩|exact ⟨Xs.set hg hsk ⟨by have:=hys.1.1;omega,hys.1.2⟩,by omega,by omega⟩)⟩ (Zg.agg (.cons (Zg.forget _ _) (.cons (lr _) .nil))))
theorem G3 (rd:Nat) (bs:List Int) (p:Nat) (b:Z5) (ZD:∀z∈bs,0<=z/\z<=255) (hp:p+10*b.sz<=1000000000:=by exact ob) (hz:b.sz<=20000000:=by exact ob) (hg:b.rng:=by exact ob):Zk Tryz.prog 53 [.p rd 0,Zr b] [Yl rd bs p] (fun r h=>∃(y:Z5) (p2:Nat),r=Zr y/\h=[Yl rd bs p2]/\Xs b y/\p<=p2/\p2<=p+(10*b.sz)):=by
 have key:∀k:Nat,∀(rd:Nat) (bs:List Int) (p:Nat) (b2:Z5),(∀z∈bs,0<=z/\z<=255)->(p+(10*b2.sz)<=1000000000)->(b2.sz<=20000000)->(b2.rng)->(b2.sz<k)->Zk Tryz.prog 53 [.p rd 0,Zr b2] [Yl rd bs p] (fun r h=>∃(y:Z5) (p2:Nat),r=Zr y/\h=[Yl rd bs p2]/\Xs b2 y/\p<=p2/\p2<=p+(10*b2.sz)):=by
  intro k
  induction k with
  | zero=>intro rd bs p b2 h1 h2 h3 h4 h5;omega
  | succ k ih=>
   intro rd bs p b2 h1 h2 h3 h4 h5
   by_cases h0:b2.steps.length=0
   ·exact SH rd bs p b2 h1 h2 h3 h4 h0
   ·exact SJ rd bs p b2 h1 h2 h3 h4 om fun rd bs p b3 q1 q2 q3 q4 q5=>ih rd bs p b3 q1 q2 q3 q4 om
 exact key (b.sz+1) rd bs p b ZD hp hz hg om
theorem Lc (rd:Nat) (bs:List Int) (p:Nat) (n:Zx) (often:Nat) (q:Nat) (l:Nat) (ZD:∀z∈bs,0<=z/\z<=255) (hp:p+(10*q+20)<=1000000000:=by exact ob) (hzn:ZS n q l:=by exact ob) (hq:q<=9999000:=by exact ob) (hl:l<=100:=by exact ob) (ho:0<often:=by exact ob):Zk Tryz.prog 61 [.p rd 0,ZB n,.i often] [Yl rd bs p] (fun r h=>∃(n2:Zx) (p2:Nat),r=ZB n2/\h=[Yl rd bs p2]/\ZS n2 (q+2) (l+1)/\p<=p2/\p2<=p+(10*q+20)):=by
 have hnl:=hzn.len
 refine ZL 64 Tryz.func61 (ar (iA (ZM n) ?_))
 intro b1
 refine iA [nl,nl] ?_
 intro b2
 refine ie (aq (ar (ir 2 [(0,.p rd 0),(4,.p b1 0),(6,.p b2 0),(9,.p rd 0),(10,.i often)] (ic [2] (K7 rd bs p often (ZD:=ob)) ?_))))
 rintro _ _ ⟨Y6,rfl,rfl,ZP⟩
 refine Z1 1 12 (.b (decide ((Y6:Int)>0))) (ie (ZT ((Y6:Int)>0) (fun Ze=>?_) (fun Ze=>?_)))
 ·refine ar (Yn 1 13 (ZB n) [2] [b1] (ZG 1 b2 (ZM n) (ie ?_)))
  exact Zc (r3 [1] [ZB n] [0] [(b2,b2)] ⟨n,p+1,rfl,rfl,(by first|exact ⟨hzn.le om om,by omega,by omega⟩|exact ⟨hzn.set hx1k om om om om hz1.2.2.2,by omega,by omega⟩|exact ⟨(hzn.le om om).ds had.1,by omega,by omega⟩|exact ⟨hzn.set hx2k om om om (by have:=hsb.1.1;omega) hsb.1.2,by omega,by omega⟩)⟩ (lr _))
 refine ak (ar (ZY 3 14 (.p rd 0) 16 (X9 n.routines) [2] [b1] (iw (Ur n.routines) (ic [0] (K7 rd bs (p+1) n.routines.length (ZD:=ob)) ?_))))
 rintro _ _ ⟨YD,rfl,rfl,Y1⟩
 refine Z1 1 7 (.i YD) (ie (aq (ar (Z1 1 19 (.p rd 0) (ic [0] (XP rd bs ((p+1)+1) 8 (ZD:=ob)) ?_)))))
 rintro _ _ ⟨k1,rfl,rfl,YB⟩
 refine ie (ab 0 (ar (Z1 2 21 (.b (k1==0)) (ie (ac (k1==0) Zh (fun Zl=>?_) (fun Zl=>?_))))))
 ·refine aD 11 (Y5 6 11 [0,1,2,3,4] (.n 23 (ZB n) (.n 24 (.i YD) (.n 26 (X9 n.routines) (.n 27 (.i YD) .r)))) [2,2] [b1,b1] ?_)
  obtain ⟨x1,Z3⟩:=Zu (xs:=n.routines) (j:=YD) om
  have hx1k:=Z3
  have hz1:=hzn.rt _ (Y7 Z3)
  refine dx 5 (Zn none (YD:Int) 5 (WJ Z3)) (ZX 3 5 [6,7] 30 (Zr x1.body) (dK (fun F h=>∃(g1:Nat) (c1:Nat) (b3:Nat),F=[(0,.p rd 0),(6,.p b2 0),(7,.i YD),(8,.p b3 0)]/\h=[.obj b3 [Zd n.decls,.ms g1 0 n.routines.length c1],.row (.slice (some ⟨g1,0,none⟩) n.routines.length c1) 5 (Zm (YL (n.routines.set YD (Yj.mk x1.params x1.lent x1.result x1.body)))),.obj rd [Xb bs,.i ((((p+1)+1)+1:Nat):Int)],.obj b2 [nl,nl],.obj b1 (ZM n)]) ?_ ?_))
  ·refine Vk 8 9 ?_ ?_
   ·refine dc 8 [] [] [] (G4 n YD x1.body x1 (hr:=Z3)) ?_
    rintro _ _ ⟨g1,c1,rfl,rfl⟩
    refine Z9 9 (dA 9 [] [] [nl,nl] ?_)
    intro b3
    refine Z9 10 (YG 10 0 [] [] b3 [Zd n.decls,.ms g1 0 n.routines.length c1] (de ?_))
    exact ZV ⟨g1,c1,b3,rfl,rfl⟩ (ZK 5 fl)
   refine dA 9 [2,2] [b1,b1] [nl,nl] ?_
   intro b4
   refine Z9 8 (dc 8 [] [] [] (G4 n YD x1.body x1 (hr:=Z3)) ?_)
   rintro _ _ ⟨g2,c2,rfl,rfl⟩
   refine Z9 10 (YG 10 1 [] [] b4 [Zd n.decls,.ms g2 0 n.routines.length c2] (de ?_))
   exact ZV ⟨g2,c2,b4,rfl,rfl⟩ (ZK 5 fl)
  rintro F h ⟨g1,c1,b3,rfl,rfl⟩
  refine aD 14 (W2 7 14 [0,1,2,3,4,5,6] [(6,.p b2 0),(8,.p b3 0),(33,.ms g1 0 n.routines.length c1),(34,.i YD),(35,.p rd 0),(37,.ms g1 0 n.routines.length c1),(38,.i YD)] [0,0] [b3,b3] (dx 7 (W5 g1 n.routines.length c1 YD 5 (YD:Int)) (ZX 5 6 [8] 40 (.val (.pointer (some ⟨g1,YD*5+1,none⟩))) (VP 9 (V0 1 g1 n.routines.length c1 5 (YD*5+1) (Zm (YL (n.routines.set YD (Yj.mk x1.params x1.lent x1.result x1.body)))) [Z0 x1.lent] 27 (Z0 x1.lent) (Ru om _)) (Z9 10 (dc 10 [2] [0] [b3] (Ld rd bs (((p+1)+1)+1) x1.lent (ZD:=ob)) ?_))))))
  rintro _ _ ⟨zs1,p21,rfl,rfl,YM⟩
  have hsi:=YM
  refine dx 11 (W5 g1 n.routines.length c1 YD 5 (YD:Int)) (ZX 1 2 [12] 44 (.val (.pointer (some ⟨g1,YD*5+1,none⟩))) (Z9 13 (AB 13 2 [] [] g1 n.routines.length c1 5 (YD*5+1) [Z0 zs1] (Zm (YL (n.routines.set YD (Yj.mk x1.params x1.lent x1.result x1.body)))) (Zm (YL (n.routines.set YD (Yj.mk x1.params zs1 x1.result x1.body)))) (by rw [DA,UQ];simp only [YQ,Xp];omega) (Rw om _ _) (de (ar (XL (UB 0 1 1 (.slice (some ⟨g1,0,none⟩) n.routines.length c1) 5 b3 (YL (n.routines.set YD (Yj.mk x1.params zs1 x1.result x1.body))) [Zd n.decls,.ms g1 0 n.routines.length c1] (Ub _) rfl) (Yn 1 45 (.agg [Zd n.decls,Xi (n.routines.set YD (Yj.mk x1.params zs1 x1.result x1.body)) (.slice (some ⟨g1,0,none⟩) n.routines.length c1)]) [0] [b3] (ZG 3 b2 [Zd n.decls,Xi (n.routines.set YD (Yj.mk x1.params zs1 x1.result x1.body)) (.slice (some ⟨g1,0,none⟩) n.routines.length c1)] (ie ?_)))))))))
  exact Zc (r3 [3] [.agg [Zd n.decls,Xi (n.routines.set YD (Yj.mk x1.params zs1 x1.result x1.body)) (.slice (some ⟨g1,0,none⟩) n.routines.length c1)]] [0] [(b2,b2)] ⟨(Zx.mk n.decls (n.routines.set YD (Yj.mk x1.params zs1 x1.result x1.body))),p21,rfl,rfl,(by first|exact ⟨hzn.le om om,by omega,by omega⟩|exact ⟨hzn.set hx1k om om om om hz1.2.2.2,by omega,by omega⟩|exact ⟨(hzn.le om om).ds had.1,by omega,by omega⟩|exact ⟨hzn.set hx2k om om om (by have:=hsb.1.1;omega) hsb.1.2,by omega,by omega⟩)⟩ (Zg.agg (.cons (lr _) (.cons (Zg.forget _ _) .nil))))
 refine ar (Z1 2 46 (.b (k1==1)) (ie (ac (k1==1) Zh (fun ZI=>?_) (fun ZI=>?_))))
 ·refine aD 6 (Y5 3 6 [0,2,3] (.n 48 (.p rd 0) (.n 51 (X9 n.routines) .r)) [2] [b1] (Z9 1 (dc 1 [0] [1] [b1] (RE rd bs (((p+1)+1)+1) (ZD:=ob)) ?_)))
  rintro _ _ ⟨dz1,p22,rfl,rfl,YX⟩
  have had:=YX
  refine ZX 1 2 [4] 52 (.agg [Zd dz1,X9 n.routines]) (Z9 5 (YG 5 1 [] [] b2 [Zd dz1,X9 n.routines] (de ?_)))
  exact Zc (r3 [1] [.agg [Zd dz1,X9 n.routines]] [0] [(b2,b2)] ⟨(Zx.mk dz1 n.routines),p22,rfl,rfl,(by first|exact ⟨hzn.le om om,by omega,by omega⟩|exact ⟨hzn.set hx1k om om om om hz1.2.2.2,by omega,by omega⟩|exact ⟨(hzn.le om om).ds had.1,by omega,by omega⟩|exact ⟨hzn.set hx2k om om om (by have:=hsb.1.1;omega) hsb.1.2,by omega,by omega⟩)⟩ (lr _))
 refine ak (aD 12 (W2 6 12 [0,1,2,3,4,5] [(6,.p b2 0),(53,ZB n),(54,.i YD),(55,.p rd 0),(57,X9 n.routines),(58,.i YD)] [2,2] [b1,b1] ?_))
 obtain ⟨x2,Zy⟩:=Zu (xs:=n.routines) (j:=YD) om
 have hx2k:=Zy
 have hz2:=hzn.rt _ (Y7 Zy)
 refine dx 6 (Zn none (YD:Int) 5 (WJ Zy)) (ZX 3 5 [7,8] 61 (Zr x2.body) (Z9 9 (dc 9 [0] [1] [b1] (G3 rd bs (((p+1)+1)+1) x2.body (ZD:=ob) (hg:=hz2.2.2.2)) ?_)))
 rintro _ _ ⟨y1,p23,rfl,rfl,Xv⟩
 have hsb:=Xv
 refine Z9 10 (Yv 10 [] [] [] (Lf n YD y1 x2 (hr:=Zy)) (Z9 11 (YG 11 1 [] [] b2 (ZM (withR n YD x2 y1)) (de ?_))))
 exact Zc (r3 [1] [ZB (withR n YD x2 y1)] [0] [(b2,b2)] ⟨(withR n YD x2 y1),p23,rfl,rfl,(by first|exact ⟨hzn.le om om,by omega,by omega⟩|exact ⟨hzn.set hx1k om om om om hz1.2.2.2,by omega,by omega⟩|exact ⟨(hzn.le om om).ds had.1,by omega,by omega⟩|exact ⟨hzn.set hx2k om om om (by have:=hsb.1.1;omega) hsb.1.2,by omega,by omega⟩)⟩ (lr _))
theorem RG (rd:Nat) (bs:List Int) (p:Nat) (ZD:∀z∈bs,0<=z/\z<=255) (hp:p+73706400<=1000000000:=by exact ob):Zk Tryz.prog 49 [.p rd 0] [Yl rd bs p] (fun r h=>∃(n2:Zx) (p2:Nat),r=ZB n2/\h=[Yl rd bs p2]/\ZS n2 7330632 11/\p<=p2/\p2<=p+73706400):=by
 refine ZL 14 Tryz.func49 (ar (iA [nl,nl] ?_))
 intro b1
 refine ie (aq (ar (ir 1 [(0,.p rd 0),(2,.p b1 0),(3,.p rd 0)] (ic [1] (XP rd bs p 4 (ZD:=ob)) ?_))))
 rintro _ _ ⟨k1,rfl,rfl,ZP⟩
 refine Z1 1 5 (.b (k1==0)) (ie (ac (k1==0) Zh (fun Ze=>?_) (fun Ze=>?_)))
 ·refine ar (Yq 2 6 (.p rd 0) 7 (.p rd 0) (ic [0] (L9 rd bs (p+1) (ZD:=ob)) ?_))
  rintro _ _ ⟨n1,p21,rfl,rfl,Y1⟩
  have hpf:=((FO.zn Y1.1).le (show 181<=7330630 by omega)).zs
  refine ic [0] (Lc rd bs p21 n1 8 7330630 10 (ZD:=ob) (hzn:=(by first|exact hpf|exact hbf))) ?_
  rintro _ _ ⟨n21,p22,rfl,rfl,YB⟩
  have hsf:=YB
  refine ZG 1 b1 (ZM n21) (ie ?_)
  exact Zc (r3 [1] [ZB n21] [0] [(b1,b1)] ⟨n21,p22,rfl,rfl,⟨hsf.1,by omega,by omega⟩⟩ (lr _))
 refine ak (ar (Yq 2 10 (.p rd 0) 11 (.p rd 0) (ic [0] (RI rd bs (p+1) (ZD:=ob)) ?_)))
 rintro _ _ ⟨n2,p23,rfl,rfl,YM⟩
 have hbf:=YM.1.zs
 refine ic [0] (Lc rd bs p23 n2 8 7330630 10 (ZD:=ob) (hzn:=(by first|exact hpf|exact hbf))) ?_
 rintro _ _ ⟨n22,p24,rfl,rfl,YX⟩
 have hsf:=YX
 refine ZG 1 b1 (ZM n22) (ie ?_)
 exact Zc (r3 [1] [ZB n22] [0] [(b1,b1)] ⟨n22,p24,rfl,rfl,⟨hsf.1,by omega,by omega⟩⟩ (lr _))
theorem RD (code:List Int) (hcl:code.length<=1048576:=by exact ob) (hcb:∀z∈code,0<=z/\z<=255):Zk Tryz.prog 15 [Xb code] [] (fun r h=>∃(n2:Zx) (us:List Int) (b:Z5),r=.tup [ZB n2,Z0 us,Zr b]/\h=[]/\ZS n2 7330632 11/\us.length<=4/\b.sz<=7330634/\b.rng):=by
 refine ZL 47 Tryz.func15 (ar (iA [nl,nl] ?_))
 intro b1
 refine ir 1 [(0,Xb code),(2,.p b1 0)] (iA [nl,.i 0] ?_)
 intro b2
 refine ie (ar (Z1 1 10 (Xb code) (ic [] (Sr code (hc:=hcb)) ?_)))
 rintro _ _ ⟨rd1,bs1,rfl,rfl,ZP⟩
 have hnr:=ZP
 refine Z1 1 5 (.p rd1 0) (ie (ar (Z1 1 12 (.p rd1 0) (ic [0] (RG rd1 bs1 0 (ZD:=hnr)) ?_))))
 rintro _ _ ⟨n21,p21,rfl,rfl,Y1⟩
 have haf:=Y1
 refine iA [nl,nl] ?_
 intro b3
 refine ZG 0 b3 (ZM n21) (ie (ar (ZY 3 14 (.p rd1 0) 16 (X9 n21.routines) [0] [b3] (iw (Ur n21.routines) (ic [1] (K7 rd1 bs1 p21 n21.routines.length (ZD:=hnr) (hmx:=(by have:=haf.1.len;omega))) ?_)))))
 rintro _ _ ⟨Y6,rfl,rfl,YB⟩
 refine Z1 1 7 (.i Y6) (ie (ar (ZY 3 20 (X9 n21.routines) 21 (.i Y6) [1] [b3] ?_)))
 obtain ⟨x1,Z3⟩:=Zu (xs:=n21.routines) (j:=Y6) om
 have hz1:=haf.1.rt _ (Y7 Z3)
 refine Zq (Zn none (Y6:Int) 5 (WJ Z3)) (Z1 2 24 (Z0 x1.params) (ic [] (VJ x1.params) ?_))
 rintro _ _ ⟨v1,rfl,rfl⟩
 refine Z1 1 8 (Z7 x1.params v1) (ie (aq (ar (Z1 1 26 (.p rd1 0) (ic [1] (XP rd1 bs1 (p21+1) 8 (ZD:=hnr)) ?_)))))
 rintro _ _ ⟨k1,rfl,rfl,YM⟩
 refine Z1 1 28 (.b (k1==0)) (ie (ac (k1==0) Zh (fun Ze=>?_) (fun Ze=>?_)))
 ·refine az (Yq 2 29 (.p rd1 0) 30 (Z0 x1.params) (ic [0] (Ld rd1 bs1 ((p21+1)+1) x1.params (ZD:=hnr)) ?_))
  rintro _ _ ⟨zs1,p22,rfl,rfl,YX⟩
  have hsi:=YX
  refine Z6 1 (.n 8 (Z0 zs1) (.q 31 (.k (.k (.k (.q 27 (.k (.d .r)))))))) (ie (ar (ZY 3 33 (X9 n21.routines) 34 (.i Y6) [2] [b3] (Zq (Zn none (Y6:Int) 5 (WJ Z3)) (Z1 2 37 (Zr x1.body) (iA [nl,.i 0] ?_))))))
  intro b4
  refine ZG 0 b4 (Y8 x1.body) (ie (aq (ar (Z1 1 38 (.p rd1 0) (ic [1] (XP rd1 bs1 p22 6 (ZD:=hnr)) ?_)))))
  rintro _ _ ⟨k2,rfl,rfl,Xv⟩
  refine Z1 1 40 (.b (k2==0)) (ie (ac (k2==0) Zh (fun Zl=>?_) (fun Zl=>?_)))
  ·refine az (ZY 2 41 (.p rd1 0) 42 (Zr x1.body) [1] [b4] (ic [0] (G3 rd1 bs1 (p22+1) x1.body (ZD:=hnr) (hg:=hz1.2.2.2)) ?_))
   rintro _ _ ⟨y1,p23,rfl,rfl,Wb⟩
   have hsb:=Wb
   refine ZG 1 b4 (Y8 y1) (ie (aD 6 (Y5 3 6 [0,1,2] (.n 44 (ZB n21) (.n 45 (Z0 zs1) (.n 46 (Zr y1) .r))) [3,0] [b3,b4] (Z9 3 (YG 3 5 [0] [b4] b1 (ZM n21) (ZX 1 2 [4] 3 (Z0 zs1) (Z9 5 (YG 5 5 [] [] b2 (Y8 y1) (de ?_)))))))))
   exact Zc (r3 [] [ZB n21,Z0 zs1,Zr y1] [1,0] [(b1,b1),(b2,b2)] ⟨n21,zs1,y1,rfl,rfl,⟨haf.1,by omega,by first|omega|(have:=hsb.1.1;omega),by first|exact hz1.2.2.2|exact hsb.1.2⟩⟩ (lr _))
  refine ak (aD 6 (Y5 3 6 [0,1,2] (.n 44 (ZB n21) (.n 45 (Z0 zs1) (.n 46 (Zr x1.body) .r))) [3,1] [b3,b4] (Z9 3 (YG 3 5 [1] [b4] b1 (ZM n21) (ZX 1 2 [4] 3 (Z0 zs1) (Z9 5 (YG 5 5 [] [] b2 (Y8 x1.body) (de ?_))))))))
  exact Zc (r3 [] [ZB n21,Z0 zs1,Zr x1.body] [1,0] [(b1,b1),(b2,b2)] ⟨n21,zs1,x1.body,rfl,rfl,⟨haf.1,by omega,by first|omega|(have:=hsb.1.1;omega),by first|exact hz1.2.2.2|exact hsb.1.2⟩⟩ (lr _))
 refine ak (ar (ZY 3 33 (X9 n21.routines) 34 (.i Y6) [2] [b3] (Zq (Zn none (Y6:Int) 5 (WJ Z3)) (Z1 2 37 (Zr x1.body) (iA [nl,.i 0] ?_)))))
 intro b5
 refine ZG 0 b5 (Y8 x1.body) (ie (aq (ar (Z1 1 38 (.p rd1 0) (ic [1] (XP rd1 bs1 ((p21+1)+1) 6 (ZD:=hnr)) ?_)))))
 rintro _ _ ⟨k3,rfl,rfl,WE⟩
 refine Z1 1 40 (.b (k3==0)) (ie (ac (k3==0) Zh (fun ZI=>?_) (fun ZI=>?_)))
 ·refine az (ZY 2 41 (.p rd1 0) 42 (Zr x1.body) [1] [b5] (ic [0] (G3 rd1 bs1 (((p21+1)+1)+1) x1.body (ZD:=hnr) (hg:=hz1.2.2.2)) ?_))
  rintro _ _ ⟨y2,p24,rfl,rfl,WR⟩
  have hsb:=WR
  refine ZG 1 b5 (Y8 y2) (ie (aD 6 (Y5 3 6 [0,1,2] (.n 44 (ZB n21) (.n 45 (Z7 x1.params v1) (.n 46 (Zr y2) .r))) [3,0] [b3,b5] (Z9 3 (YG 3 5 [0] [b5] b1 (ZM n21) (ZX 1 2 [4] 3 (Z7 x1.params v1) (Z9 5 (YG 5 5 [] [] b2 (Y8 y2) (de ?_)))))))))
  exact Zc (r3 [] [ZB n21,Z7 x1.params v1,Zr y2] [1,0] [(b1,b1),(b2,b2)] ⟨n21,x1.params,y2,rfl,rfl,⟨haf.1,by omega,by first|omega|(have:=hsb.1.1;omega),by first|exact hz1.2.2.2|exact hsb.1.2⟩⟩ (Zg.tup (.cons (lr _) (.cons (Zg.forget _ _) (.cons (lr _) .nil)))))
 refine ak (aD 6 (Y5 3 6 [0,1,2] (.n 44 (ZB n21) (.n 45 (Z7 x1.params v1) (.n 46 (Zr x1.body) .r))) [3,1] [b3,b5] (Z9 3 (YG 3 5 [1] [b5] b1 (ZM n21) (ZX 1 2 [4] 3 (Z7 x1.params v1) (Z9 5 (YG 5 5 [] [] b2 (Y8 x1.body) (de ?_))))))))
 exact Zc (r3 [] [ZB n21,Z7 x1.params v1,Zr x1.body] [1,0] [(b1,b1),(b2,b2)] ⟨n21,x1.params,x1.body,rfl,rfl,⟨haf.1,by omega,by first|omega|(have:=hsb.1.1;omega),by first|exact hz1.2.2.2|exact hsb.1.2⟩⟩ (Zg.tup (.cons (lr _) (.cons (Zg.forget _ _) (.cons (lr _) .nil)))))
theorem P7 (xs:List Int) (hl_xs:xs.length<=4294967296:=by exact ob):Zk Tryz.prog 92 [Z0 xs] [] (fun r h=>∃(v:Value),r=Z7 xs v/\h=[.tail v 1]):=by
 refine ZL 8 Tryz.func92 (ar (ir 1 [(0,Z0 xs)] (ie (aq (ar (Z1 1 3 (Z0 xs) (iN (Z8 xs) (fun hz1=>?_) ?_)))))))
 ·have hz1:=R8 hz1
  refine ie (WW (ar (ir 1 [(2,nl)] (ie (D8 1 ?_)))))
  exact Zc (r2 [0] [nl] ⟨(.slice none 0 0),rfl,rfl⟩ (Zg.slh _ (by first|rfl|(subst_vars;rfl))))
 refine ie (WV (ak (ar (iL (Z8 []) 0 1 ?_))))
 intro v1
 refine Z1 1 6 (Z0 xs) (ip 0 (Z8 xs) (Z8 []) (Z8 xs) v1 none 1 (YE _) (YE _) (XY _) (by simp<;>omega) (by simp [Z8]) ?_)
 intro v2
 refine ir 1 [(2,Z7 xs v2)] (ie ?_)
 exact Zc (r1 [0] ⟨v2,rfl,rfl⟩)
theorem CQ (xs:List Int) (ys:List Int) (hl_xs:xs.length<=4294967296:=by exact ob) (hl_ys:ys.length<=4294967296:=by exact ob):Zk Tryz.prog 170 [Z0 xs,Z0 ys] [] (fun r h=>r=.b (decide (xs=ys))/\h=[]):=by
 refine ZL 26 Tryz.func170 (ar (ir 1 [(0,Z0 xs),(1,Z0 ys)] (ie (aq (ar (Z1 1 6 (Z0 xs) (iw (Yf xs) (Z1 1 8 (Z0 ys) (iw (Yf ys) (Z1 1 10 (.b ((xs.length:Int) != (ys.length:Int))) (ie (ac ((xs.length:Int) != (ys.length:Int)) Yg (fun Ze=>?_) (fun Ze=>?_)))))))))))))
 ·refine ar (ir 1 [(4,.b false)] (ie ?_))
  exact Zc (r2 [] [.b false] ⟨rfl,rfl⟩ (lb (eq_comm.1 (decide_eq_false (fun q=>by rw [q] at Ze;exact Ze rfl)))))
 refine ak (aq (ar (Z1 1 11 (Z0 xs) (iw (Yf xs) (Z1 1 13 (.i 0) (ie (ab 0 (al (fun m F h=>∃(k:Nat),(k<=xs.length)/\(xs.take k=ys.take k)/\F=[(0,Z0 xs),(1,Z0 ys),(12,.i xs.length),(13,.i k)]/\h=[]/\m=xs.length-k) _ _ _ ⟨0,ob,ob,rfl,rfl,rfl⟩ (wk [] (fw (fr (Yh fl)))) ?_))))))))
 rintro m F h ⟨k,Yo,Zp,rfl,rfl,rfl⟩
 refine ar (Z1 1 14 (.b (decide ((k:Int)<(xs.length:Int)))) (ie (aq (ZT ((k:Int)<(xs.length:Int)) (fun Zl=>?_) (fun Zl=>?_)))))
 ·refine ak (aq (ab 1 (ar (Z1 2 5 (.i k) (ie (aD 9 (ZZ 7 9 [0,1] (.n 16 (Z0 xs) (.n 17 (.i k) .r)) ?_)))))))
  obtain ⟨x1,Z3⟩:=Zu (xs:=xs) (j:=k) om
  refine dx 2 (Zn none (k:Int) 1 (Y4 Z3)) (ZZ 3 6 [3,4,5] (.n 19 (.i x1) (.n 20 (Z0 ys) (.n 21 (.i k) .r))) ?_)
  obtain ⟨x2,Zy⟩:=Zu (xs:=ys) (j:=k) om
  refine dx 6 (Zn none (k:Int) 1 (Y4 Zy)) (ZX 0 2 [7,8] 24 (.b (x1 != x2)) (de (ac (x1 != x2) Yg (fun ZI=>?_) (fun ZI=>?_))))
  ·refine ar (ir 1 [(4,.b false)] (ie ?_))
   exact Zc (r2 [] [.b false] ⟨rfl,rfl⟩ (lb (eq_comm.1 (decide_eq_false (fun q=>by subst q;rw [Z3] at Zy;cases Zy;exact ZI rfl)))))
  refine ak (az (ZO k (ir 1 [(0,Z0 xs),(1,Z0 ys),(12,.i xs.length),(13,.i (k+1:Nat))] (ie ?_))))
  have hdr:=Yd Z3
  exact ZU ⟨k+1,ob,(by rw [WS Z3,WS Zy,Zp];have hxx:x1=x2:=om;rw [hxx]),rfl,rfl,rfl⟩ (wk [] (fw (fr (ZW k fl))))
 refine ax 0 (ar (ir 1 [(4,.b true)] (ie ?_)))
 exact Zc (r2 [] [.b true] ⟨rfl,rfl⟩ (lb (eq_comm.1 (decide_eq_true (by rw [Vb om,Vb om] at Zp;exact Zp)))))
theorem Z4x (m:Nat) (hm:m<=4294967296:=by exact ob):Zk Tryz.prog 210 [nl,.i m] [] (fun r h=>∃(v:Hd),r=.h v/\h=[rV v []]):=by
 refine ZL 27 Tryz.func210 (HN B5 (Ax (F':=[(0,.h hN),(1,.i m)]) (h':=[rV hN []]) (wk [0] (fc (x:=nl) (Zg.hd (v:=hN)) ( fc (x:=.i m) (lr _) (IS _)))) (ar (ir 1 [(0,.h hN),(1,.i m)] (ie (aq (ar (Z1 2 6 (.b (decide ((m:Int)<0))) (ie (ZT ((m:Int)<0) (fun Ze=>?_) (fun Ze=>?_)))))))))))
 ·exfalso;omega
 refine ak (aq (ar (Yq 2 8 (.i m) 9 (.h hN) (Zq (XD.le (NG hN) (li (by rfl))) (Z1 1 11 (.h hN) (Zq (XD.le (Jw 0 hN []) (li (by rfl))) (ia ((0-0)) ((0)-(0)) (ia ((m:Int)) (((m:Int))-((0-0))) (ir 1 [(0,.h hN),(1,.i m)] (ie (ar (Z1 2 16 (.b (decide ((m:Int)>0))) (ie (ZT ((m:Int)>0) (fun Zl=>?_) (fun Zl=>?_)))))))))))))))
 ·refine az (Yq 2 17 (.h hN) 18 (.h hN) (Zq (XD.le (NG hN) (li (by rfl))) (Zq (Am 0 hN [] 0) (Z1 1 21 (.i m) (iZ m ?_)))))
  intro v1
  refine Z1 1 23 (.h hN) (Zq (XD.le (Jw 1 hN []) (li (by rfl))) (Zq (Am 0 v1 (List.replicate m 0) 0) (ir 1 [(0,.h (v1.cut 0))] (ie (ar (ir 2 [(4,.h (v1.cut 0))] (ie (HN (B4 0 0 v1 (List.replicate m 0)) ?_))))))))
  exact Zc (r1 [0] ⟨(v1.cut 0),rfl,rfl⟩ (eq:=(rv (xs:=((List.replicate m 0).take 0)) ob rz)))
 refine ak (ar (ir 2 [(4,.h hN)] (ie ?_)))
 exact Zc (r1 [0] ⟨hN,rfl,rfl⟩)
theorem Z4w (xss:List (List Int)) (hl_xss:xss.length<=4294967296:=by exact ob) (hf:xss.flatten.length<=4294967296:=by exact ob):Zk Tryz.prog 166 [WF xss] [] (fun r h=>∃(v:Value),r=Z7 xss.flatten v/\h=[.tail v 1]):=by
 have hft:=IR xss
 refine ZL 36 Tryz.func166 (ar (ir 1 [(0,WF xss)] (ie (ar (Z1 1 3 (.i 0) (ie (aq (ar (Z1 1 9 (WF xss) (iw (Ds xss) (Z1 1 11 (.i 0) (ie (ab 0 (al (fun m F h=>∃(k:Nat) (q:Nat),(k<=xss.length)/\(q=(xss.take k).flatten.length)/\F=[(0,WF xss),(3,.i q),(9,WF xss),(10,.i xss.length),(11,.i k)]/\h=[]/\m=xss.length-k) _ _ _ ⟨0,0,ob,(by simp),rfl,rfl,rfl⟩ (wk [] (fr (Yh (fw (Yh fl))))) ?_))))))))))))))
 rintro m F h ⟨k,q,Yo,Zp,rfl,rfl,rfl⟩
 refine ar (Z1 1 12 (.b (decide ((k:Int)<(xss.length:Int)))) (ie (aq (ZT ((k:Int)<(xss.length:Int)) (fun Ze=>?_) (fun Ze=>?_)))))
 ·refine ak (aq (ab 1 (ar ?_)))
  obtain ⟨x1,Z3⟩:=Zu (xs:=xss) (j:=k) om
  refine Zq (Zn none (k:Int) 1 (Dr Z3)) (Z1 2 5 (Z0 x1) (ie (ar (Yq 2 15 (.i q) 16 (Z0 x1) (iw (Yf x1) (ia (((q+x1.length:Nat):Int)) (((q:Int))+((x1.length:Int))) (hb:=(by have:=IQ Z3;omega)) (Z6 1 (.n 3 (.i (q+x1.length:Nat)) (.p (.p (.d (.d (.d (.p (.d (.k (.d .r)))))))))) (ie (ar (Z1 2 20 (.b (decide (((q+x1.length:Nat):Int)<0))) (ie (ZT (((q+x1.length:Nat):Int)<0) (fun Zl=>?_) (fun Zl=>?_)))))))))))))
  ·exfalso;omega
  refine ak (az (ZO k (Z6 1 (.n 11 (.i (k+1:Nat)) (.p (.d (.w .z)))) (ie ?_))))
  have hdr:=Yd Z3
  exact ZU ⟨k+1,q+x1.length,ob,(by rw [FP Z3,Yu,Zp]),rfl,rfl,rfl⟩ (wk [] (fr (fc (x:=.i (q+x1.length:Nat)) li (fw (ZW k fl)))))
 refine ax 0 (ar (Z1 1 23 (.i q) (ic [] (Z4x q (hm:=(by have:=hft k;omega))) ?_)))
 rintro _ _ ⟨v1,rfl,rfl⟩
 refine Z1 1 6 (.h v1) (ie (aq (ar (Z1 1 25 (WF xss) (iw (Ds xss) (Z1 1 27 (.i 0) (ie (ab 2 (al (fun m F h=>∃(j:Nat) (v:Hd),(j<=xss.length)/\F=[(6,.h v),(25,WF xss),(26,.i xss.length),(27,.i j)]/\h=[rV v ((xss.take j).flatten)]/\m=xss.length-j) _ _ _ ⟨0,v1,ob,rfl,rfl,rfl⟩ (wk [0] (fw (fr (Yh fl))) (e:=(rv (xs:=[]) ob rz))) ?_)))))))))
 rintro m F h ⟨j,v,Um,rfl,rfl,rfl⟩
 refine ar (Z1 1 28 (.b (decide ((j:Int)<(xss.length:Int)))) (ie (aq (ZT ((j:Int)<(xss.length:Int)) (fun ZI=>?_) (fun ZI=>?_)))))
 ·refine ak (aq (ab 3 (ar ?_)))
  obtain ⟨x2,Zy⟩:=Zu (xs:=xss) (j:=j) om
  refine Zq (Zn none (j:Int) 1 (Dr Zy)) (Z1 2 8 (Z0 x2) (ie (az (Yq 2 31 (.h v) 32 (Z0 x2) (KC 0 v ((xss.take j).flatten) x2 none (hbound:=(by have:=IQ Zy;omega)) ?_)))))
  intro v2
  refine Z6 1 (.n 6 (.h v2) (.p (.d (.d (.d (.p (.d (.d .r)))))))) (ie (az (ZO j (Z6 1 (.n 27 (.i (j+1:Nat)) (.p (.k (.k (.k .z))))) (ie ?_)))))
  have hdr:=Yd Zy
  exact ZU ⟨j+1,v2,ob,rfl,rfl,rfl⟩ (wk [0] (fw (fr (ZW j fl))) (e:=(rv (xs:=((xss.take j).flatten++x2)) (FP Zy).symm rz)))
 refine ax 2 (ar (ir 2 [(2,.h v)] (ie (D7 2 0 (v:=v) (xs:=(xss.take j).flatten) ?_))))
 exact Zc (r2 [0] [Z7 ((xss.take j).flatten) v.v] ⟨v.v,rfl,rfl⟩ (Zg.slh _ (Yw Z8 (by rw [Vb om]))))
theorem DT (ds:List Zf) (t:Int) (hl_ds:ds.length<=4294967296:=by exact ob):Zk Tryz.prog 91 [Zd ds,.i t] [] (fun r h=>r=.b (decide (0<=t/\t<=ds.length))/\h=[]):=by
 refine ZL 13 Tryz.func91 (ar (ir 1 [(0,Zd ds),(1,.i t)] (ie (ar (XH 8 [(12,.b ((decide (t>=0))&&(decide (t<=(ds.length:Int)))))] [] ?_ (fun hj1=>?_))))))
 ·refine ir 1 [(4,.b ((decide (t>=0))&&(decide (t<=(ds.length:Int)))))] (ie ?_)
  exact Zc (r2 [] [.b ((decide (t>=0))&&(decide (t<=(ds.length:Int))))] ⟨rfl,rfl⟩ (lb (by rw [Xo];simp)))
 refine ir 3 [(0,Zd ds),(1,.i t),(7,.b (decide (t>=0)))] (ib (b:=(decide (t>=0))) 7 (fun Zb=>?_) (fun Zb=>?_))
 ·have ZP:t>=0:=(dq).1 Zb
  refine Z6 2 (.n 8 (.i t) (.n 9 (Zd ds) (.k .z))) (iw (VQ ds) (ir 2 [(12,.b (decide (t<=(ds.length:Int))))] ?_))
  exact YC (wk [] (Zs (decide (t<=(ds.length:Int))) Zb fl)) hj1
 have Y1:¬(t>=0):=ZF dq Zb
 refine ir 5 [(12,.b false)] ?_
 exact YC (wk [] (Zs false Zb fl)) hj1
theorem Gg (ds:List Zf) (xs:List Int) (hl_ds:ds.length<=4294967296:=by exact ob) (hl_xs:xs.length<=4294967296:=by exact ob):Zk Tryz.prog 55 [Zd ds,Z0 xs] [] (fun r h=>r=.b (X1 ds.length xs)/\h=[]):=by
 refine ZL 18 Tryz.func55 (ar (ir 1 [(0,Zd ds),(1,Z0 xs)] (ie (aq (ar (Z1 1 7 (Z0 xs) (iw (Yf xs) (Z1 1 9 (.i 0) (ie (ab 0 (al (fun m F h=>∃(k:Nat),(k<=xs.length)/\(X1 ds.length (xs.drop k)=X1 ds.length xs)/\F=[(0,Zd ds),(7,Z0 xs),(8,.i xs.length),(9,.i k)]/\h=[]/\m=xs.length-k) _ _ _ ⟨0,ob,ob,rfl,rfl,rfl⟩ (wk [] (fw (fr (Yh fl)))) ?_)))))))))))
 rintro m F h ⟨k,Yo,Zp,rfl,rfl,rfl⟩
 refine ar (Z1 1 10 (.b (decide ((k:Int)<(xs.length:Int)))) (ie (aq (ZT ((k:Int)<(xs.length:Int)) (fun Ze=>?_) (fun Ze=>?_)))))
 ·refine ak (aq (ab 1 (ar ?_)))
  obtain ⟨x1,Z3⟩:=Zu (xs:=xs) (j:=k) om
  refine Zq (Zn none (k:Int) 1 (Y4 Z3)) (Z1 2 6 (.i x1) (ie (ar (Yq 2 13 (Zd ds) 14 (.i x1) (Zz [] (DT ds x1) (Z1 1 16 (.b (!(decide (0<=x1/\x1<=ds.length)))) (ie (ac (!(decide (0<=x1/\x1<=ds.length))) (p:=¬(0<=x1/\x1<=ds.length)) (Yp dq) (fun Zl=>?_) (fun Zl=>?_)))))))))
  ·refine ar (ir 1 [(4,.b false)] (ie ?_))
   rw [Yd Z3] at Zp
   exact Zc (r2 [] [.b false] ⟨rfl,rfl⟩ (lb (by clear Z3;first|rfl|omega|grind [X1])))
  refine ak (az (ZO k (Z6 1 (.n 9 (.i (k+1:Nat)) (.p (.d (.p (.d (.d (.d (.p (.d (.k (.k (.k .z)))))))))))) (ie ?_))))
  have hdr:=Yd Z3
  exact ZU ⟨k+1,ob,(by rw [hdr] at Zp;clear hdr Z3;grind [X1]),rfl,rfl,rfl⟩ (wk [] (fw (fr (ZW k fl))))
 refine ax 0 (ar (ir 1 [(4,.b true)] (ie ?_)))
 try rw [Xz (xs:=xs) (k:=k) om] at Zp
 exact Zc (r2 [] [.b true] ⟨rfl,rfl⟩ (lb (by first|rfl|omega|grind [X1])))
theorem Z0k (ds:List Zf) (hd:Wd ds:=by exact ob):Zk Tryz.prog 211 [Zd ds] [] (fun r h=>r=.i (Ys ds:Nat)/\h=[]):=by
 have hdl:=hd.len
 refine ZL 19 Tryz.func211 (ar (ir 1 [(0,Zd ds)] (ie (ar (Z1 1 3 (.i 0) (ie (aq (ar (Z1 1 6 (Zd ds) (iw (VQ ds) (Z1 1 8 (.i 0) (ie (ab 0 (al (fun m F h=>∃(k:Nat),(k<=ds.length)/\F=[(3,.i ((Ys (ds.take k):Nat):Int)),(6,Zd ds),(7,.i ds.length),(8,.i k)]/\h=[]/\m=ds.length-k) _ _ _ ⟨0,ob,rfl,rfl,rfl⟩ (wk [] (Yh (fw (Yh fl)))) ?_))))))))))))))
 rintro m F h ⟨k,Yo,rfl,rfl,rfl⟩
 refine ar (Z1 1 9 (.b (decide ((k:Int)<(ds.length:Int)))) (ie (aq (ZT ((k:Int)<(ds.length:Int)) (fun Ze=>?_) (fun Ze=>?_)))))
 ·refine ak (aq (ab 1 (ar ?_)))
  obtain ⟨x1,Z3⟩:=Zu (xs:=ds) (j:=k) om
  refine Zq (Zn none (k:Int) 3 (Vl Z3)) (Z1 1 11 (Ul x1) (iA [.i 0,.i 0,nl] ?_))
  intro b1
  refine ZG 0 b1 (Wy x1) (ie (az (ZY 3 12 (.i ((Ys (ds.take k):Nat):Int)) 14 (W6 x1.cons) [0] [b1] (iw (Ua x1.cons) (ia (((Ys (ds.take k)+x1.cons.length:Nat):Int)) ((((Ys (ds.take k):Nat):Int))+((x1.cons.length:Int))) (hb:=(by have h1:=hd.cons_at Z3;have h2:=(hd.take k).sum;omega)) (Z6 1 (.n 3 (.i ((Ys (ds.take k)+x1.cons.length:Nat):Int)) (.p (.p (.d (.d (.p (.d (.p (.d (.d .r)))))))))) (ie (az (ZO k (Z6 1 (.n 8 (.i (k+1:Nat)) (.p (.k (.k (.k .z))))) (ie ?_)))))))))))
  have hdr:=Yd Z3
  exact ZU ⟨k+1,ob,rfl,rfl,rfl⟩ (wk [] (fc (x:=.i ((Ys (ds.take k)+x1.cons.length:Nat):Int)) (li (by rw [WS Z3,C5];simp [Ys])) (fw (ZW k fl))))
 refine ax 0 (ar (ir 2 [(2,.i ((Ys (ds.take k):Nat):Int))] (ie ?_)))
 exact Zc (r2 [] [.i ((Ys (ds.take k):Nat):Int)] ⟨rfl,rfl⟩ (li (by rw [Vb om])))
theorem Lq (ds:List Zf) (c:Int) (hd:Wd ds:=by exact ob) (hc:-9223372036854775808<=c/\c<=9223372036854775807:=by exact ob):Zk Tryz.prog 169 [Zd ds,.i c] [] (fun r h=>r=.tup [.i (Xt ds c),.agg [Z0 (Zw ds c)]]/\h=[]):=by
 have hdl:=hd.len
 refine ZL 38 Tryz.func169 (ar (ir 1 [(0,Zd ds),(1,.i c)] (iA [nl] ?_)))
 intro b1
 refine ie (aq (ar (Z1 1 8 (Zd ds) (iw (VQ ds) (Z1 1 10 (.i 0) (ie (ab 0 (al (fun m F h=>∃(k:Nat) (cv:Int),(k<=ds.length)/\(JF c (Ys (ds.take k)) cv)/\(Un c (ds.drop k) k (Ys (ds.take k))=Un c ds 0 0)/\F=[(1,.i cv),(5,.p b1 0),(8,Zd ds),(9,.i ds.length),(10,.i k)]/\h=[.obj b1 [nl]]/\m=ds.length-k) _ _ _ ⟨0,c,ob,(.inl (by simp [Ys])),rfl,rfl,rfl,rfl⟩ (wk [0] (fq (Yh fl))) ?_))))))))
 rintro m F h ⟨k,cv,Yo,Zp,ZA,rfl,rfl,rfl⟩
 refine ar (Z1 1 11 (.b (decide ((k:Int)<(ds.length:Int)))) (ie (aq (ZT ((k:Int)<(ds.length:Int)) (fun Ze=>?_) (fun Ze=>?_)))))
 ·refine ak (aq (ab 1 (ar (Z1 1 12 (.i k) ?_))))
  obtain ⟨x1,Z3⟩:=Zu (xs:=ds) (j:=k) om
  refine Zq (Zn none (k:Int) 3 (Vl Z3)) (Z1 1 14 (Ul x1) (iA [.i 0,.i 0,nl] ?_))
  intro b2
  refine Z1 1 6 (.i k) (ZG 0 b2 (Wy x1) (ie (aq (ar (Xm [(1,.i cv),(5,.p b1 0),(6,.i k),(7,.p b2 0),(8,Zd ds),(9,.i ds.length),(10,.i k),(23,.b ((decide (cv>=0))&&(decide (cv<(x1.cons.length:Int)))))] [.obj b2 (Wy x1),.obj b1 [nl]] ?_ ?_)))))
  ·refine ir 3 [(1,.i cv),(5,.p b1 0),(6,.i k),(7,.p b2 0),(8,Zd ds),(9,.i ds.length),(10,.i k),(17,.b (decide (cv>=0)))] (ib (b:=(decide (cv>=0))) 17 (fun Zb=>?_) (fun Zb=>?_))
   ·have ZP:cv>=0:=(dq).1 Zb
    refine Y0 3 (.n 18 (.i cv) (.n 20 (W6 x1.cons) (.w (.w .z)))) [0] [b2] (iw (Ua x1.cons) (Z1 2 23 (.b (decide (cv<(x1.cons.length:Int)))) (ie ?_)))
    exact wk [0,0] (fq (fw (fr (Zs (decide (cv<(x1.cons.length:Int))) Zb fl))))
   have Y1:¬(cv>=0):=ZF dq Zb
   refine Z6 6 (.n 23 (.b false) (.d (.w (.k (.k (.k .z)))))) (ie ?_)
   exact wk [0,0] (fq (fw (fr (Zs false Zb fl))))
  refine ac ((decide (cv>=0))&&(decide (cv<(x1.cons.length:Int)))) (p:=(cv>=0)/\(cv<(x1.cons.length:Int))) (YF dq dq) (fun Zl=>?_) (fun Zl=>?_)
  ·refine aD 9 (Xd 8 9 [0] [(1,.i cv),(5,.p b1 0),(7,.p b2 0),(24,.i k)] (da 1 (((k+1:Nat):Int)) (((k:Int))+(1)) (Y5 4 7 [2,3,4] (.n 27 (W6 x1.cons) (.n 28 (.i cv) .r)) [0] [b2] ?_)))
   obtain ⟨x2,Zy⟩:=Zu (xs:=x1.cons) (j:=cv.toNat) om
   refine dx 5 (Zn none cv 1 (Bk Zy)) (ZZ 1 3 [6,7] (.n 4 (.i (k+1:Nat)) (.n 30 (Aw x2) .r)) (Z9 8 (YG 8 1 [] [] b1 (Gt x2) (de ?_))))
   have hz:=(hd.take k).sum
   have h3:=hd.cons_at Z3
   have hH:=ZA.symm.trans (Pm Z3 Zp om h3 hc.1 Zl Zy)
   exact Zc (r3 [] [.i (k+1:Nat),Aw x2] [0] [(b1,b1)] ⟨rfl,rfl⟩ (Zg.tup (.cons (li (by rw [Xt,hH];omega)) (.cons (Zg.agg (.cons (Zg.sl _ (Yw Z8 (by rw [Zw,hH]))) .nil)) .nil))))
  refine ak (az (iR 3 [(5,.p b1 0),(8,Zd ds),(9,.i ds.length),(10,.i k),(31,.i cv),(33,W6 x1.cons)] [0] [b2] (iw (Ua x1.cons) (iW ((cv)-((x1.cons.length:Int))) (Z1 1 1 (.i (An ((cv)-((x1.cons.length:Int))))) (ie (az (ZO k (Z6 1 (.n 10 (.i (k+1:Nat)) (.p (.k (.p (.p (.k (.k (.k .z)))))))) (ie ?_))))))))))
  have hdr:=Yd Z3
  exact ZU ⟨k+1,(An ((cv)-((x1.cons.length:Int)))),ob,(by have hz:=(hd.take k).sum;have h3:=hd.cons_at Z3;rw [WS Z3,C5];simpa [Ys] using OP Zp om h3 hc),(Pj Z3 Zp Zl ZA),rfl,rfl,rfl⟩ (wk [1] (fq (ZW k fl)))
 refine ax 0 (ar (Yq 2 4 (.i (-1)) 37 (.agg [nl]) (ZG 0 b1 [nl] (ie ?_))))
 have hH:Un c ds 0 0=(-1,[]):=by rw [<-ZA,Xz om];rfl
 exact Zc (r3 [] [.i (-1),.agg [nl]] [0] [(b1,b1)] ⟨rfl,rfl⟩ (Zg.tup (.cons (li (by rw [Xt,hH])) (.cons (Zg.agg (.cons (Zg.sl _ (by rw [Zw,hH];rfl)) .nil)) .nil))))
theorem Z0o (ds:List Zf) (c:Int) (hd:Wd ds:=by exact ob) (hc:-9223372036854775808<=c/\c<=9223372036854775807:=by exact ob):Zk Tryz.prog 168 [Zd ds,.i c] [] (fun r h=>r=Z0 (Zw ds c)/\h=[]):=by
 refine ZL 15 Tryz.func168 (ar (ir 1 [(0,Zd ds),(1,.i c)] (ie (ar (ir 2 [(8,Zd ds),(9,.i c)] (Zz [] (Lq ds c) (ir 3 [(11,.i (Xt ds c)),(12,.agg [Z0 (Zw ds c)])] (iA [nl] ?_))))))))
 intro b1
 refine Z6 1 .r (ZG 0 b1 [Z0 (Zw ds c)] (ie (ar (iR 3 [(4,Z0 (Zw ds c))] [0] [b1] (ie ?_)))))
 exact Zc (r1 [] ⟨rfl,rfl⟩)
theorem Z0l (ds:List Zf) (t:Int) (hd:Wd ds:=by exact ob):Zk Tryz.prog 167 [Zd ds,.i t] [] (fun r h=>r=Z0 (Zt ds t)/\h=[]):=by
 have hdl:=hd.len
 refine ZL 39 Tryz.func167 (ar (ir 1 [(0,Zd ds),(1,.i t)] (ie (aq (ar (Xm [(0,Zd ds),(1,.i t),(15,.b ((decide (t<1))||(decide (t>(ds.length:Int)))))] [] ?_ ?_))))))
 ·refine ir 3 [(0,Zd ds),(1,.i t),(10,.b (decide (t<1)))] (ib (b:=(decide (t<1))) 10 (fun Zb=>?_) (fun Zb=>?_))
  ·have ZP:t<1:=(dq).1 Zb
   refine Z6 5 (.n 15 (.b true) (.d (.k (.k .z)))) (ie ?_)
   exact wk [] (fw (Zs true Zb fl))
  have Y1:¬(t<1):=ZF dq Zb
  refine Z6 2 (.n 11 (.i t) (.n 12 (Zd ds) (.k (.k (.k .z))))) (iw (VQ ds) (Z1 2 15 (.b (decide (t>(ds.length:Int)))) (ie ?_)))
  exact wk [] (fw (Zs (decide (t>(ds.length:Int))) Zb fl))
 refine ac ((decide (t<1))||(decide (t>(ds.length:Int)))) (p:=(t<1)∨(t>(ds.length:Int))) (Yc dq dq) (fun Ze=>?_) (fun Ze=>?_)
 ·refine ar (ir 1 [(4,nl)] (ie ?_))
  exact Zc (r2 [] [nl] ⟨rfl,rfl⟩ (Zg.sl _ (by rw [Zt,Za om];rfl)))
 have hti:1<=t/\t<=ds.length:=by omega
 obtain ⟨d,hd1⟩:=Zu (xs:=ds) (j:=(t-1).toNat) om
 have hdc:=hd.cons_at hd1
 have hsm:=(hd.take (t-1).toNat).sum
 refine ak (ar (ir 2 [(0,Zd ds),(1,.i t),(16,Zd ds),(17,.i t)] (ia ((((t-1).toNat:Nat):Int)) ((t)-(1)) (Zq (Qo (es:=YV ds) (hv:=none) (l:=0) (m:=(((t-1).toNat:Nat):Int)) (sz:=3) (es':=YV (ds.take ((t-1).toNat))) kr om (by simp<;>omega) (by simp<;>omega) (K6 _) (by first|(simp only [Vh,WP,Bm,Bl];done)|(simp only [Vh,WP,Bm,Bl];rfl)|(simp [Bm,Bl];done))) (Zz [] (Z0k (ds.take ((t-1).toNat)) (hd:=(hd.take _))) (Z1 1 5 (.i ((Ys (ds.take ((t-1).toNat)):Nat):Int)) (ie (ar (Z1 1 6 (nl) (ie (aq (ar (Yq 2 21 (Zd ds) 22 (.i t) (ia ((((t-1).toNat:Nat):Int)) ((t)-(1)) (Zq (Zn none (((t-1).toNat:Nat):Int) 3 (Vl hd1)) (Z1 2 26 (W6 d.cons) (iw (Ua d.cons) (Z1 1 28 (.i 0) (ie (ab 0 (D8 1 (al (fun m F h=>∃(k:Nat) (v:Value),(k<=d.cons.length)/\F=[(5,.i ((Ys (ds.take ((t-1).toNat)):Nat):Int)),(6,Z7 (WA (Ys (ds.take (t-1).toNat)) k) v),(27,.i d.cons.length),(28,.i k)]/\h=[.tail v 1]/\m=d.cons.length-k) _ _ _ ⟨0,(.slice none 0 0),ob,rfl,rfl,rfl⟩ (wk [0] (fr (fc (x:=nl) (Zg.slh _ rfl) (fr (Yh fl))))) ?_))))))))))))))))))))))
 rintro m F h ⟨k,v,Yo,rfl,rfl,rfl⟩
 refine ar (Z1 1 29 (.b (decide ((k:Int)<(d.cons.length:Int)))) (ie (aq (ZT ((k:Int)<(d.cons.length:Int)) (fun Zl=>?_) (fun Zl=>?_)))))
 ·refine ak (aq (ab 1 (ar (Z1 2 7 (.i k) (ie (az (Z6 3 (.n 31 (Z7 (WA (Ys (ds.take (t-1).toNat)) k) v) (.n 32 (.i ((Ys (ds.take ((t-1).toNat)):Nat):Int)) (.n 33 (.i k) .r))) (ia ((((Ys (ds.take ((t-1).toNat)))+k:Nat):Int)) ((((Ys (ds.take ((t-1).toNat)):Nat):Int))+((k:Int))) (iL (Z8 [(((Ys (ds.take ((t-1).toNat)))+k:Nat):Int)]) 1 1 ?_)))))))))
  intro v1
  refine Z6 0 (.n 35 (Z0 [(((Ys (ds.take ((t-1).toNat)))+k:Nat):Int)]) (.p .r)) (ip 1 (Z8 (WA (Ys (ds.take (t-1).toNat)) k++[(((Ys (ds.take ((t-1).toNat)))+k:Nat):Int)])) (Z8 (WA (Ys (ds.take (t-1).toNat)) k)) (Z8 [(((Ys (ds.take ((t-1).toNat)))+k:Nat):Int)]) v none 1 (YE _) (YE _) (XY _) (by simp;omega) (by simp [XX,Z8]) ?_)
  intro v2
  refine Z6 1 (.n 6 (Z7 (WA (Ys (ds.take (t-1).toNat)) k++[(((Ys (ds.take ((t-1).toNat)))+k:Nat):Int)]) v2) (.p (.d (.p (.d (.d (.d (.d (.d (.k (.d .r))))))))))) (ie (az (ZO k (Z6 1 (.n 28 (.i (k+1:Nat)) (.p (.k (.k (.k .z))))) (ie ?_)))))
  exact ZU ⟨k+1,v2,ob,rfl,rfl,rfl⟩ (wk [0] (fr (fc (x:=Z7 (WA (Ys (ds.take (t-1).toNat)) k++[(((Ys (ds.take ((t-1).toNat)))+k:Nat):Int)]) v2) (Zg.slh _ (Yw Z8 (Mc _ _).symm)) (fr (ZW k fl)))))
 refine ax 0 (ar (ir 2 [(4,Z7 (WA (Ys (ds.take (t-1).toNat)) k) v)] (ie ?_)))
 exact Zc (r2 [] [Z7 (WA (Ys (ds.take (t-1).toNat)) k) v] ⟨rfl,rfl⟩ (Zg.sl _ (Yw Z8 (by rw [Zt,Zj hti,hd1,show k=d.cons.length by omega];rfl))))
theorem DS (ds:List Zf) (t:Int) (hd:Wd ds:=by exact ob):Zk Tryz.prog 129 [Zd ds,.i t] [] (fun r h=>r=.tup [Ul (Wv ds t),.b (X7 ds t)]/\h=[]):=by
 have hdl:=hd.len
 refine ZL 30 Tryz.func129 (ar (iA [.i 0,.i 0,nl] ?_))
 intro b1
 refine ir 1 [(0,Zd ds),(1,.i t),(4,.p b1 0)] (ie (aq (ar (XH 8 [(0,Zd ds),(1,.i t),(4,.p b1 0),(13,.b ((decide (t<1))||(decide (t>(ds.length:Int)))))] [.obj b1 [.i 0,.i 0,nl]] ?_ (fun hj1=>?_)))))
 ·refine ir 1 [(0,Zd ds),(1,.i t),(4,.p b1 0),(14,.b ((decide (t<1))||(decide (t>(ds.length:Int)))))] (ib (b:=((decide (t<1))||(decide (t>(ds.length:Int))))) 14 (fun Zb=>?_) (fun Zb=>?_))
  ·have ZP:(t<1)∨(t>(ds.length:Int)):=((Yc dq dq)).1 Zb
   refine Z6 9 (.n 23 (.b true) (.d (.k (.k (.k .z))))) (ie (WW (ar (Z1 1 24 (.agg [.i 0,.i 0,nl]) (ZG 0 b1 [.i 0,.i 0,nl] (Z1 1 5 (.b false) (ie ?_)))))))
   have hA:X7 ds t=false:=(Gh om).symm
   have hD:Wv ds t=⟨0,0,[]⟩:=by rw [Wv,hA];rfl
   exact Zc (r3 [] [.agg [.i 0,.i 0,nl],.b false] [0] [(b1,b1)] ⟨rfl,rfl⟩ (Zg.tup (.cons (Zg.agg (.cons (li (by rw [hD])) (.cons (li (by rw [hD])) (.cons (Zg.sl _ (by rw [hD];rfl)) .nil)))) (.cons (lb (by rw [hA])) .nil))))
  have Y1:¬((t<1)∨(t>(ds.length:Int))):=ZF (Yc dq dq) Zb
  refine Z6 2 (.n 15 (Zd ds) (.n 16 (.i t) (.w .z))) (ia ((t-1)) ((t)-(1)) ?_)
  obtain ⟨x1,Z3⟩:=Zu (xs:=ds) (j:=(t-1).toNat) om
  refine Zq (Zn none (t-1) 3 (Vl Z3)) (Z1 2 20 (W6 x1.cons) (iw (Ua x1.cons) (Z1 2 23 (.b (decide ((x1.cons.length:Int)>0))) (ie (ZT ((x1.cons.length:Int)>0) (fun Ze=>?_) (fun Ze=>?_))))))
  ·refine ar (Z1 1 24 (.agg [.i 0,.i 0,nl]) (ZG 0 b1 [.i 0,.i 0,nl] (Z1 1 5 (.b false) (ie ?_))))
   have hA:X7 ds t=false:=(DW om Z3).symm.trans (beq_eq_false_iff_ne.2 om)
   have hD:Wv ds t=⟨0,0,[]⟩:=by rw [Wv,hA];rfl
   exact Zc (r3 [] [.agg [.i 0,.i 0,nl],.b false] [0] [(b1,b1)] ⟨rfl,rfl⟩ (Zg.tup (.cons (Zg.agg (.cons (li (by rw [hD])) (.cons (li (by rw [hD])) (.cons (Zg.sl _ (by rw [hD];rfl)) .nil)))) (.cons (lb (by rw [hA])) .nil))))
  refine ak (ar (Yq 2 25 (Zd ds) 26 (.i t) (ia ((t-1)) ((t)-(1)) (Zq (Zn none (t-1) 3 (Vl Z3)) (Z1 1 29 (Ul x1) (ZG 0 b1 (Wy x1) (Z1 1 5 (.b true) (ie ?_))))))))
  have hA:X7 ds t=true:=(DW om Z3).symm.trans (Zh.2 om)
  have hD:Wv ds t=x1:=by rw [Wv,hA,Z3];rfl
  exact Zc (r3 [] [Ul x1,.b true] [0] [(b1,b1)] ⟨rfl,rfl⟩ (Zg.tup (.cons (Zg.agg (.cons (li (by rw [hD])) (.cons (li (by rw [hD])) (.cons (Zg.sl _ (Yw WB (by rw [hD]))) .nil)))) (.cons (lb (by rw [hA])) .nil))))
 refine ir 3 [(0,Zd ds),(1,.i t),(4,.p b1 0),(8,.b (decide (t<1)))] (ib (b:=(decide (t<1))) 8 (fun Zv=>?_) (fun Zv=>?_))
 ·have YB:t<1:=(dq).1 Zv
  refine Z6 5 (.n 13 (.b true) (.d (.k (.k (.k .z))))) ?_
  exact YC (wk [0] (fw (fr (Zs true Zv fl)))) hj1
 have YM:¬(t<1):=ZF dq Zv
 refine Z6 2 (.n 9 (.i t) (.n 10 (Zd ds) (.w .z))) (iw (VQ ds) (Z1 2 13 (.b (decide (t>(ds.length:Int)))) ?_))
 exact YC (wk [0] (fw (fr (Zs (decide (t>(ds.length:Int))) Zv fl)))) hj1
theorem Z0g (ds:List Zf) (frm:Int) (to_:Int) (hl_ds:ds.length<=4294967296:=by exact ob):Zk Tryz.prog 171 [Zd ds,.i frm,.i to_] [] (fun r h=>r=.i (WX ds frm to_)/\h=[]):=by
 refine ZL 35 Tryz.func171 (ar (ir 1 [(0,Zd ds),(1,.i frm),(2,.i to_)] (ie (aq (ar (Z1 1 9 (Zd ds) (iw (VQ ds) (Z1 1 11 (.i 0) (ie (ab 0 (al (fun m F h=>∃(k:Nat),(k<=ds.length)/\(Qb frm to_ (ds.drop k) k=WX ds frm to_)/\F=[(1,.i frm),(2,.i to_),(9,Zd ds),(10,.i ds.length),(11,.i k)]/\h=[]/\m=ds.length-k) _ _ _ ⟨0,ob,rfl,rfl,rfl,rfl⟩ (wk [] (fq (Yh fl))) ?_)))))))))))
 rintro m F h ⟨k,Yo,Zp,rfl,rfl,rfl⟩
 refine ar (Z1 1 12 (.b (decide ((k:Int)<(ds.length:Int)))) (ie (aq (ZT ((k:Int)<(ds.length:Int)) (fun Ze=>?_) (fun Ze=>?_)))))
 ·refine ak (aq (ab 1 (ar (Z1 1 13 (.i k) ?_))))
  obtain ⟨x1,Z3⟩:=Zu (xs:=ds) (j:=k) om
  refine Zq (Zn none (k:Int) 3 (Vl Z3)) (Z1 1 15 (Ul x1) (iA [.i 0,.i 0,nl] ?_))
  intro b1
  refine Z1 1 7 (.i k) (ZG 0 b1 (Wy x1) (ie (ar (Yn 2 17 (W6 x1.cons) [0] [b1] (iw (Ua x1.cons) (XH 10 [(1,.i frm),(2,.i to_),(7,.i k),(8,.p b1 0),(9,Zd ds),(10,.i ds.length),(11,.i k),(25,.b (((x1.cons.length:Int)==0)&&(x1.frm==frm)))] [.obj b1 (Wy x1)] ?_ (fun hj1=>?_)))))))
  ·refine Xm [(1,.i frm),(2,.i to_),(7,.i k),(9,Zd ds),(10,.i ds.length),(11,.i k),(31,.b ((((x1.cons.length:Int)==0)&&(x1.frm==frm))&&(x1.to_==to_)))] [.obj b1 (Wy x1)] ?_ ?_
   ·refine ir 1 [(1,.i frm),(2,.i to_),(7,.i k),(8,.p b1 0),(9,Zd ds),(10,.i ds.length),(11,.i k),(26,.b (((x1.cons.length:Int)==0)&&(x1.frm==frm)))] (ib (b:=(((x1.cons.length:Int)==0)&&(x1.frm==frm))) 26 (fun Zb=>?_) (fun Zb=>?_))
    ·have ZP:((x1.cons.length:Int)=0)/\(x1.frm=frm):=((YF Zh Zh)).1 Zb
     refine Y0 5 (.n 31 (.b (x1.to_==to_)) (.d (.k (.k (.k (.d (.k (.k (.k .z))))))))) [0] [b1] (ie ?_)
     exact wk [0] (fq (fw (Zs (x1.to_==to_) Zb fl)))
    have Y1:¬(((x1.cons.length:Int)=0)/\(x1.frm=frm)):=ZF (YF Zh Zh) Zb
    refine Z6 5 (.n 31 (.b false) (.d (.k (.k (.k (.d (.k (.k (.k .z))))))))) (ie ?_)
    exact wk [0] (fq (fw (Zs false Zb fl)))
   refine ac ((((x1.cons.length:Int)==0)&&(x1.frm==frm))&&(x1.to_==to_)) (p:=(((x1.cons.length:Int)=0)/\(x1.frm=frm))/\(x1.to_=to_)) (YF (YF Zh Zh) Zh) (fun Zl=>?_) (fun Zl=>?_)
   ·refine ar (ir 1 [(32,.i k)] (ZO k (ir 1 [(6,.i (k+1:Nat))] (ie ?_))))
    rw [Yd Z3] at Zp
    exact Zc (r2 [] [.i (k+1:Nat)] ⟨rfl,rfl⟩ (li (by clear Z3;first|rfl|omega|grind [Qb])))
   refine ak (az (ZO k (ir 1 [(1,.i frm),(2,.i to_),(9,Zd ds),(10,.i ds.length),(11,.i (k+1:Nat))] (ie ?_))))
   have hdr:=Yd Z3
   exact ZU ⟨k+1,ob,(by rw [hdr] at Zp;clear hdr Z3;grind [Qb]),rfl,rfl,rfl⟩ (wk [] (fq (ZW k fl)))
  refine ir 2 [(1,.i frm),(2,.i to_),(7,.i k),(8,.p b1 0),(9,Zd ds),(10,.i ds.length),(11,.i k),(20,.b ((x1.cons.length:Int)==0))] (ib (b:=((x1.cons.length:Int)==0)) 20 (fun Zv=>?_) (fun Zv=>?_))
  ·have YB:(x1.cons.length:Int)=0:=(Zh).1 Zv
   refine Y0 5 (.n 25 (.b (x1.frm==frm)) (.d (.w (.k (.k (.k .z)))))) [0] [b1] ?_
   exact YC (wk [0] (fq (fw (fr (Zs (x1.frm==frm) Zv fl))))) hj1
  have YM:¬((x1.cons.length:Int)=0):=ZF Zh Zv
  refine Z6 5 (.n 25 (.b false) (.d (.w (.k (.k (.k .z)))))) ?_
  exact YC (wk [0] (fq (fw (fr (Zs false Zv fl))))) hj1
 refine ax 0 (ar (ir 1 [(6,.i (-1))] (ie ?_)))
 try rw [Xz (xs:=ds) (k:=k) om] at Zp
 exact Zc (r2 [] [.i (-1)] ⟨rfl,rfl⟩ (li (by first|rfl|omega|grind [Qb])))
theorem Z0f (ds:List Zf) (hz:Qu ds:=by exact ob):Zk Tryz.prog 128 [Zd ds] [] (fun r h=>r=.b (Wi ds)/\h=[]):=by
 have hzl:=hz.len
 refine ZL 106 Tryz.func128 (ar (ir 1 [(0,Zd ds)] (ie (aq (ar (Z1 1 9 (Zd ds) (iw (VQ ds) (Z1 1 11 (.b (decide ((ds.length:Int)>4))) (ie (ZT ((ds.length:Int)>4) (fun Ze=>?_) (fun Ze=>?_)))))))))))
 ·refine ar (ir 1 [(2,.b false)] (ie ?_))
  exact Zc (r2 [] [.b false] ⟨rfl,rfl⟩ (lb (by rw [Wi,decide_eq_false om];rfl)))
 refine ak (aq (ar (Z1 1 12 (Zd ds) (iw (VQ ds) (Z1 1 14 (.i 0) (ie (ab 0 (al (fun m F h=>∃(k:Nat),(k<=ds.length)/\(Uo ds (ds.drop k) k=Uo ds ds 0)/\F=[(0,Zd ds),(12,Zd ds),(13,.i ds.length),(14,.i k)]/\h=[]/\m=ds.length-k) _ _ _ ⟨0,ob,rfl,rfl,rfl,rfl⟩ (wk [] (fw (fr (Yh fl)))) ?_))))))))
 rintro m F h ⟨k,Yo,Zp,rfl,rfl,rfl⟩
 refine ar (Z1 1 15 (.b (decide ((k:Int)<(ds.length:Int)))) (ie (aq (ZT ((k:Int)<(ds.length:Int)) (fun Zl=>?_) (fun Zl=>?_)))))
 ·refine ak (aq (ab 1 (ar (Z1 1 16 (.i k) ?_))))
  obtain ⟨x1,Z3⟩:=Zu (xs:=ds) (j:=k) om
  have hz1:=hz.cons_at Z3
  refine Zq (Zn none (k:Int) 3 (Vl Z3)) (Z1 1 18 (Ul x1) (iA [.i 0,.i 0,nl] ?_))
  intro b1
  refine Z1 1 3 (.i k) (ZG 0 b1 (Wy x1) (ie (aq (ar (ZY 3 19 (Zd ds) 21 (.i x1.frm) [0] [b1] (Zz [] (DT ds x1.frm) (XH 12 [(0,Zd ds),(3,.i k),(4,.p b1 0),(12,Zd ds),(13,.i ds.length),(14,.i k),(30,.b ((!(decide (0<=x1.frm/\x1.frm<=ds.length)))||(!(decide (0<=x1.to_/\x1.to_<=ds.length)))))] [.obj b1 (Wy x1)] ?_ (fun hj1=>?_))))))))
  ·refine XH 18 [(0,Zd ds),(3,.i k),(4,.p b1 0),(12,Zd ds),(13,.i ds.length),(14,.i k),(36,.b (((!(decide (0<=x1.frm/\x1.frm<=ds.length)))||(!(decide (0<=x1.to_/\x1.to_<=ds.length))))||(decide ((x1.cons.length:Int)>3))))] [.obj b1 (Wy x1)] ?_ (fun hj2=>?_)
   ·refine Xm [(0,Zd ds),(3,.i k),(4,.p b1 0),(12,Zd ds),(13,.i ds.length),(14,.i k),(52,.b ((((!(decide (0<=x1.frm/\x1.frm<=ds.length)))||(!(decide (0<=x1.to_/\x1.to_<=ds.length))))||(decide ((x1.cons.length:Int)>3)))||((decide ((x1.cons.length:Int)>0))&&((x1.frm != 0)||(x1.to_ != 0)))))] [.obj b1 (Wy x1)] ?_ ?_
    ·refine ir 1 [(0,Zd ds),(3,.i k),(4,.p b1 0),(12,Zd ds),(13,.i ds.length),(14,.i k),(37,.b (((!(decide (0<=x1.frm/\x1.frm<=ds.length)))||(!(decide (0<=x1.to_/\x1.to_<=ds.length))))||(decide ((x1.cons.length:Int)>3))))] (ib (b:=(((!(decide (0<=x1.frm/\x1.frm<=ds.length)))||(!(decide (0<=x1.to_/\x1.to_<=ds.length))))||(decide ((x1.cons.length:Int)>3)))) 37 (fun Zb=>?_) (fun Zb=>?_))
     ·have ZP:((¬(0<=x1.frm/\x1.frm<=ds.length))∨(¬(0<=x1.to_/\x1.to_<=ds.length)))∨((x1.cons.length:Int)>3):=((Yc (Yc (Yp dq) (Yp dq)) dq)).1 Zb
      refine Z6 15 (.n 52 (.b true) (.d (.w (.k (.k .z))))) (ie ?_)
      exact wk [0] (fq (fw (Zs true Zb fl)))
     have Y1:¬(((¬(0<=x1.frm/\x1.frm<=ds.length))∨(¬(0<=x1.to_/\x1.to_<=ds.length)))∨((x1.cons.length:Int)>3)):=ZF (Yc (Yc (Yp dq) (Yp dq)) dq) Zb
     refine Y0 2 (.n 39 (W6 x1.cons) (.w (.k (.k (.k .z))))) [0] [b1] (iw (Ua x1.cons) (Z1 2 42 (.b (decide ((x1.cons.length:Int)>0))) (ib (b:=(decide ((x1.cons.length:Int)>0))) 42 (fun Zv=>?_) (fun Zv=>?_))))
     ·have YB:(x1.cons.length:Int)>0:=(dq).1 Zv
      refine Y0 4 (.n 46 (.b (x1.frm != 0)) (.k (.d .r))) [0] [b1] (ib (b:=(x1.frm != 0)) 46 (fun Yx=>?_) (fun Yx=>?_))
      ·have YM:x1.frm≠0:=(Yg).1 Yx
       refine Z6 6 (.n 52 (.b true) (.k (.d .r))) (ie ?_)
       exact wk [0] (fq (fw (Zs true (And.intro Zb (And.intro Zv Yx)) fl)))
      have YX:¬(x1.frm≠0):=ZF Yg Yx
      refine Y0 6 (.n 52 (.b (x1.to_ != 0)) (.k (.d .r))) [0] [b1] (ie ?_)
      exact wk [0] (fq (fw (Zs (x1.to_ != 0) (And.intro Zb (And.intro Zv Yx)) fl)))
     have Xv:¬((x1.cons.length:Int)>0):=ZF dq Zv
     refine Z6 10 (.n 52 (.b false) (.k (.d .r))) (ie ?_)
     exact wk [0] (fq (fw (Zs false (And.intro Zb Zv) fl)))
    refine ac ((((!(decide (0<=x1.frm/\x1.frm<=ds.length)))||(!(decide (0<=x1.to_/\x1.to_<=ds.length))))||(decide ((x1.cons.length:Int)>3)))||((decide ((x1.cons.length:Int)>0))&&((x1.frm != 0)||(x1.to_ != 0)))) (p:=(((¬(0<=x1.frm/\x1.frm<=ds.length))∨(¬(0<=x1.to_/\x1.to_<=ds.length)))∨((x1.cons.length:Int)>3))∨(((x1.cons.length:Int)>0)/\((x1.frm≠0)∨(x1.to_≠0)))) (Yc (Yc (Yc (Yp dq) (Yp dq)) dq) (YF dq (Yc Yg Yg))) (fun ZI=>?_) (fun ZI=>?_)
    ·refine ar (ir 1 [(2,.b false)] (ie ?_))
     exact Zc (r2 [] [.b false] ⟨rfl,rfl⟩ (lb (Hz Z3 (PP ZI) Zp)))
    refine ak (aq (ar (iR 2 [(0,Zd ds),(3,.i k),(4,.p b1 0),(12,Zd ds),(13,.i ds.length),(14,.i k),(54,W6 x1.cons)] [0] [b1] (iw (Ua x1.cons) (Z1 1 56 (.i 0) (ie (ab 2 (al (fun m F h=>∃(q:Nat),(q<=x1.cons.length)/\(UT ds.length (x1.cons.drop q)=UT ds.length x1.cons)/\F=[(0,Zd ds),(3,.i k),(4,.p b1 0),(12,Zd ds),(13,.i ds.length),(14,.i k),(54,W6 x1.cons),(55,.i x1.cons.length),(56,.i q)]/\h=[.obj b1 (Wy x1)]/\m=x1.cons.length-q) _ _ _ ⟨0,ob,rfl,rfl,rfl,rfl⟩ (wk [0] (fq (fq (Yh fl)))) ?_))))))))
    rintro m F h ⟨q,Um,Wg,rfl,rfl,rfl⟩
    refine ar (Z1 1 57 (.b (decide ((q:Int)<(x1.cons.length:Int)))) (ie (aq (ZT ((q:Int)<(x1.cons.length:Int)) (fun Yi=>?_) (fun Yi=>?_)))))
    ·refine ak (aq (ab 3 (ar ?_)))
     obtain ⟨x2,Zy⟩:=Zu (xs:=x1.cons) (j:=q) om
     refine Zq (Zn none (q:Int) 1 (Bk Zy)) (Z1 1 59 (Aw x2) (iA [nl] ?_))
     intro b2
     refine ZG 0 b2 (Gt x2) (ie (ar (Yn 2 61 (Z0 x2.fields) [0] [b2] (iw (Yf x2.fields) (Xm [(0,Zd ds),(3,.i k),(4,.p b1 0),(12,Zd ds),(13,.i ds.length),(14,.i k),(54,W6 x1.cons),(55,.i x1.cons.length),(56,.i q),(70,.b ((decide ((x2.fields.length:Int)>3))||(!X1 ds.length x2.fields)))] [.obj b2 (Gt x2),.obj b1 (Wy x1)] ?_ ?_)))))
     ·refine ir 2 [(0,Zd ds),(3,.i k),(4,.p b1 0),(6,.p b2 0),(12,Zd ds),(13,.i ds.length),(14,.i k),(54,W6 x1.cons),(55,.i x1.cons.length),(56,.i q),(64,.b (decide ((x2.fields.length:Int)>3)))] (ib (b:=(decide ((x2.fields.length:Int)>3))) 64 (fun Xh=>?_) (fun Xh=>?_))
      ·have Wb:(x2.fields.length:Int)>3:=(dq).1 Xh
       refine Z6 6 (.n 70 (.b true) (.d (.k (.k (.k (.d (.w (.k (.k .z))))))))) (ie ?_)
       exact wk [0,0] (fq (fq (fr (Zs true Xh fl))))
      have WE:¬((x2.fields.length:Int)>3):=ZF dq Xh
      refine Y0 3 (.n 65 (Zd ds) (.n 67 (Z0 x2.fields) (.w (.d (.w (.k (.k .z))))))) [0] [b2] (Zz [] (Gg ds x2.fields) (Z1 2 70 (.b (!X1 ds.length x2.fields)) (ie ?_)))
      exact wk [0,0] (fq (fq (fr (Zs (!X1 ds.length x2.fields) Xh fl))))
     refine ac ((decide ((x2.fields.length:Int)>3))||(!X1 ds.length x2.fields)) (p:=((x2.fields.length:Int)>3)∨(¬(X1 ds.length x2.fields=true))) (Yc dq (Yp Iff.rfl)) (fun Xk=>?_) (fun Xk=>?_)
     ·refine ar (ir 1 [(2,.b false)] (ie ?_))
      exact Zc (r2 [] [.b false] ⟨rfl,rfl⟩ (lb (Hz Z3 (PQ om (by rw [<-Wg,Yd Zy,UT,Za (by rw [Pn Xk];simp)])) Zp)))
     refine ak (az (ZO q (ir 1 [(0,Zd ds),(3,.i k),(4,.p b1 0),(12,Zd ds),(13,.i ds.length),(14,.i k),(54,W6 x1.cons),(55,.i x1.cons.length),(56,.i (q+1:Nat))] (ie ?_))))
     have hdr:=Yd Zy
     exact ZU ⟨q+1,ob,(by rw [Yd Zy,UT,Zj (Po Xk)] at Wg;exact Wg),rfl,rfl,rfl⟩ (wk [1] (fq (fq (ZW q fl))))
    have hC:UT ds.length x1.cons=true:=by rw [<-Wg,Xz om];rfl
    refine ax 2 (ar (Yq 2 72 (Zd ds) 73 (.i k) (Zq (Qo (es:=YV ds) (hv:=none) (l:=0) (m:=(k:Int)) (sz:=3) (es':=YV (ds.take k)) kr om (by simp<;>omega) (by simp<;>omega) (K6 _) (by first|(simp only [Vh,WP,Bm,Bl];done)|(simp only [Vh,WP,Bm,Bl];rfl)|(simp [Bm,Bl];done))) (io (.i (((ds.take k).length:Nat):Int)) (.i (((YV (ds.take k)).length:Nat):Int)) (li (by rw [VQ])) (Z1 1 76 (.i 0) (ie (ab 4 (al (fun m F h=>∃(j:Nat),(j<=k)/\(x1.cons.length=0->TU x1 ((ds.take k).drop j)=TU x1 (ds.take k))/\F=[(0,Zd ds),(4,.p b1 0),(12,Zd ds),(13,.i ds.length),(14,.i k),(74,Zd (ds.take k)),(75,.i (((ds.take k).length:Nat):Int)),(76,.i j)]/\h=[.obj b1 (Wy x1)]/\m=k-j) _ _ _ ⟨0,ob,ob,rfl,rfl,rfl⟩ (wk [0] (fq (fw (fr (Yh fl))))) ?_))))))))
    rintro m F h ⟨j,Ia,Dg,rfl,rfl,rfl⟩
    refine ar (Z1 1 77 (.b (decide ((j:Int)<(((ds.take k).length:Nat):Int)))) (ie (aq (ZT ((j:Int)<(((ds.take k).length:Nat):Int)) (fun Xl=>?_) (fun Xl=>?_)))))
    ·have htl:(ds.take k).length<=k:=by rw [Wp];omega
     refine ak (aq (ab 5 (ar ?_)))
     obtain ⟨x3,YT⟩:=Zu (xs:=(ds.take k)) (j:=j) om
     refine Zq (Zn none (j:Int) 3 (Vl YT)) (Z1 1 79 (Ul x3) (iA [.i 0,.i 0,nl] ?_))
     intro b3
     refine ZG 0 b3 (Wy x3) (ie (ar (Yn 2 81 (W6 x1.cons) [1] [b1] (iw (Ua x1.cons) (XH 10 [(0,Zd ds),(4,.p b1 0),(8,.p b3 0),(12,Zd ds),(13,.i ds.length),(14,.i k),(74,Zd (ds.take k)),(75,.i (((ds.take k).length:Nat):Int)),(76,.i j),(89,.b (((x1.cons.length:Int)==0)&&((x3.cons.length:Int)==0)))] [.obj b3 (Wy x3),.obj b1 (Wy x1)] ?_ (fun hj3=>?_))))))
     ·refine XH 17 [(0,Zd ds),(4,.p b1 0),(8,.p b3 0),(12,Zd ds),(13,.i ds.length),(14,.i k),(74,Zd (ds.take k)),(75,.i (((ds.take k).length:Nat):Int)),(76,.i j),(96,.b ((((x1.cons.length:Int)==0)&&((x3.cons.length:Int)==0))&&(x3.frm==x1.frm)))] [.obj b3 (Wy x3),.obj b1 (Wy x1)] ?_ (fun hj4=>?_)
      ·refine Xm [(0,Zd ds),(4,.p b1 0),(12,Zd ds),(13,.i ds.length),(14,.i k),(74,Zd (ds.take k)),(75,.i (((ds.take k).length:Nat):Int)),(76,.i j),(103,.b (((((x1.cons.length:Int)==0)&&((x3.cons.length:Int)==0))&&(x3.frm==x1.frm))&&(x3.to_==x1.to_)))] [.obj b3 (Wy x3),.obj b1 (Wy x1)] ?_ ?_
       ·refine ir 1 [(0,Zd ds),(4,.p b1 0),(8,.p b3 0),(12,Zd ds),(13,.i ds.length),(14,.i k),(74,Zd (ds.take k)),(75,.i (((ds.take k).length:Nat):Int)),(76,.i j),(97,.b ((((x1.cons.length:Int)==0)&&((x3.cons.length:Int)==0))&&(x3.frm==x1.frm)))] (ib (b:=((((x1.cons.length:Int)==0)&&((x3.cons.length:Int)==0))&&(x3.frm==x1.frm))) 97 (fun W9=>?_) (fun W9=>?_))
        ·have WR:(((x1.cons.length:Int)=0)/\((x3.cons.length:Int)=0))/\(x3.frm=x1.frm):=((YF (YF Zh Zh) Zh)).1 W9
         refine Y0 6 (.n 103 (.b (x3.to_==x1.to_)) (.d (.k (.k (.d (.w (.k (.k .z)))))))) [0,1] [b3,b1] (ie ?_)
         exact wk [0,0] (fq (fq (Zs (x3.to_==x1.to_) W9 fl)))
        have Uc:¬((((x1.cons.length:Int)=0)/\((x3.cons.length:Int)=0))/\(x3.frm=x1.frm)):=ZF (YF (YF Zh Zh) Zh) W9
        refine Z6 6 (.n 103 (.b false) (.d (.k (.k (.d (.w (.k (.k .z)))))))) (ie ?_)
        exact wk [0,0] (fq (fq (Zs false W9 fl)))
       refine ac (((((x1.cons.length:Int)==0)&&((x3.cons.length:Int)==0))&&(x3.frm==x1.frm))&&(x3.to_==x1.to_)) (p:=((((x1.cons.length:Int)=0)/\((x3.cons.length:Int)=0))/\(x3.frm=x1.frm))/\(x3.to_=x1.to_)) (YF (YF (YF Zh Zh) Zh) Zh) (fun Vv=>?_) (fun Vv=>?_)
       ·refine ar (ir 1 [(2,.b false)] (ie ?_))
        exact Zc (r2 [] [.b false] ⟨rfl,rfl⟩ (lb (Hz Z3 (PR om (by rw [<-Dg om,Yd YT,TU,Zj om])) Zp)))
       refine ak (az (ZO j (ir 1 [(0,Zd ds),(4,.p b1 0),(12,Zd ds),(13,.i ds.length),(14,.i k),(74,Zd (ds.take k)),(75,.i (((ds.take k).length:Nat):Int)),(76,.i (j+1:Nat))] (ie ?_))))
       exact ZU ⟨j+1,ob,(fun q=>by have hq:=Dg q;rw [Yd YT,TU,Za om] at hq;exact hq),rfl,rfl,rfl⟩ (wk [1] (fq (fw (fr (ZW j fl)))))
      refine ir 1 [(0,Zd ds),(4,.p b1 0),(8,.p b3 0),(12,Zd ds),(13,.i ds.length),(14,.i k),(74,Zd (ds.take k)),(75,.i (((ds.take k).length:Nat):Int)),(76,.i j),(90,.b (((x1.cons.length:Int)==0)&&((x3.cons.length:Int)==0)))] (ib (b:=(((x1.cons.length:Int)==0)&&((x3.cons.length:Int)==0))) 90 (fun Wx=>?_) (fun Wx=>?_))
      ·have UH:((x1.cons.length:Int)=0)/\((x3.cons.length:Int)=0):=((YF Zh Zh)).1 Wx
       refine Y0 6 (.n 96 (.b (x3.frm==x1.frm)) (.d (.w (.w (.k .z))))) [0,1] [b3,b1] ?_
       exact YC (wk [0,0] (fq (fq (fr (Zs (x3.frm==x1.frm) Wx fl))))) hj4
      have Uv:¬(((x1.cons.length:Int)=0)/\((x3.cons.length:Int)=0)):=ZF (YF Zh Zh) Wx
      refine Z6 6 (.n 96 (.b false) (.d (.w (.w (.k .z))))) ?_
      exact YC (wk [0,0] (fq (fq (fr (Zs false Wx fl))))) hj4
     refine ir 2 [(0,Zd ds),(4,.p b1 0),(8,.p b3 0),(12,Zd ds),(13,.i ds.length),(14,.i k),(74,Zd (ds.take k)),(75,.i (((ds.take k).length:Nat):Int)),(76,.i j),(84,.b ((x1.cons.length:Int)==0))] (ib (b:=((x1.cons.length:Int)==0)) 84 (fun WZ=>?_) (fun WZ=>?_))
     ·have Tt:(x1.cons.length:Int)=0:=(Zh).1 WZ
      refine Y0 2 (.n 86 (W6 x3.cons) (.w (.w (.k (.k .z))))) [0] [b3] (iw (Ua x3.cons) (Z1 2 89 (.b ((x3.cons.length:Int)==0)) ?_))
      exact YC (wk [0,0] (fq (fq (fr (Zs ((x3.cons.length:Int)==0) WZ fl))))) hj3
     have Ta:¬((x1.cons.length:Int)=0):=ZF Zh WZ
     refine Z6 5 (.n 89 (.b false) (.d (.w (.w (.k .z))))) ?_
     exact YC (wk [0,0] (fq (fq (fr (Zs false WZ fl))))) hj3
    have htl:(ds.take k).length=k:=by rw [Wp];omega
    have hD:x1.cons.length=0->TU x1 (ds.take k)=false:=fun q=>by rw [<-Dg q,Xz om];rfl
    refine ax 4 (az (ZO k (Z6 1 (.n 14 (.i (k+1:Nat)) (.p (.d (.k (.d (.k (.k .z))))))) (ie ?_))))
    have hdr:=Yd Z3
    exact ZU ⟨k+1,ob,(Z7c Z3 (PS ZI hC hD) Zp),rfl,rfl,rfl⟩ (wk [] (fw (fr (ZW k fl))))
   refine ir 1 [(0,Zd ds),(3,.i k),(4,.p b1 0),(12,Zd ds),(13,.i ds.length),(14,.i k),(31,.b ((!(decide (0<=x1.frm/\x1.frm<=ds.length)))||(!(decide (0<=x1.to_/\x1.to_<=ds.length)))))] (ib (b:=((!(decide (0<=x1.frm/\x1.frm<=ds.length)))||(!(decide (0<=x1.to_/\x1.to_<=ds.length))))) 31 (fun WL=>?_) (fun WL=>?_))
   ·have QF:(¬(0<=x1.frm/\x1.frm<=ds.length))∨(¬(0<=x1.to_/\x1.to_<=ds.length)):=((Yc (Yp dq) (Yp dq))).1 WL
    refine Z6 5 (.n 36 (.b true) (.d (.w (.k (.k .z))))) ?_
    exact YC (wk [0] (fq (fw (Zs true WL fl)))) hj2
   have QG:¬((¬(0<=x1.frm/\x1.frm<=ds.length))∨(¬(0<=x1.to_/\x1.to_<=ds.length))):=ZF (Yc (Yp dq) (Yp dq)) WL
   refine Y0 2 (.n 33 (W6 x1.cons) (.w (.k (.k (.k .z))))) [0] [b1] (iw (Ua x1.cons) (Z1 2 36 (.b (decide ((x1.cons.length:Int)>3))) ?_))
   exact YC (wk [0] (fq (fw (Zs (decide ((x1.cons.length:Int)>3)) WL fl)))) hj2
  refine ir 2 [(0,Zd ds),(3,.i k),(4,.p b1 0),(12,Zd ds),(13,.i ds.length),(14,.i k),(24,.b (!(decide (0<=x1.frm/\x1.frm<=ds.length))))] (ib (b:=(!(decide (0<=x1.frm/\x1.frm<=ds.length)))) 24 (fun WM=>?_) (fun WM=>?_))
  ·have Jk:¬(0<=x1.frm/\x1.frm<=ds.length):=((Yp dq)).1 WM
   refine Z6 6 (.n 30 (.b true) (.d (.w (.k (.k .z))))) ?_
   exact YC (wk [0] (fq (fw (Zs true WM fl)))) hj1
  have QH:¬(¬(0<=x1.frm/\x1.frm<=ds.length)):=ZF (Yp dq) WM
  refine Y0 3 (.n 25 (Zd ds) (.n 27 (.i x1.to_) (.w (.k (.k (.k .z)))))) [0] [b1] (Zz [] (DT ds x1.to_) (Z1 2 30 (.b (!(decide (0<=x1.to_/\x1.to_<=ds.length)))) ?_))
  exact YC (wk [0] (fq (fw (Zs (!(decide (0<=x1.to_/\x1.to_<=ds.length))) WM fl)))) hj1
 refine ax 0 (ar (ir 1 [(2,.b true)] (ie ?_)))
 exact Zc (r2 [] [.b true] ⟨rfl,rfl⟩ (lb (Z7b om om Zp)))
theorem Lr (op:Int) :Zk Tryz.prog 66 [.i op] [] (fun r h=>r=.b (Ym op)/\h=[]):=by
 refine ZL 9 Tryz.func66 (ar (ir 1 [(0,.i op)] (ie (ar (XH 6 [(8,.b ((decide (op>=14))&&(decide (op<=17))))] [] ?_ (fun hj1=>?_))))))
 ·refine ir 1 [(2,.b ((decide (op>=14))&&(decide (op<=17))))] (ie ?_)
  exact Zc (r2 [] [.b ((decide (op>=14))&&(decide (op<=17)))] ⟨rfl,rfl⟩ (lb (by rw [Ym,Xo];simp)))
 refine ir 3 [(0,.i op),(5,.b (decide (op>=14)))] (ib (b:=(decide (op>=14))) 5 (fun Zb=>?_) (fun Zb=>?_))
 ·have ZP:op>=14:=(dq).1 Zb
  refine ir 3 [(8,.b (decide (op<=17)))] ?_
  exact YC (wk [] (Zs (decide (op<=17)) Zb fl)) hj1
 have Y1:¬(op>=14):=ZF dq Zb
 refine ir 3 [(8,.b false)] ?_
 exact YC (wk [] (Zs false Zb fl)) hj1
theorem Z0n (b:Z5) (c:Nat) (v:Int) (hb:b.sz<=1000000000:=by exact ob) (hv:0<=v/\v<=600:=by exact ob) (ih:∀(b2:Z5) (c:Nat) (v:Int),(b2.sz<b.sz)->(0<=v/\v<=600)->Zk Tryz.prog 63 [Zr b2,.p c 0] [.obj c [.i v]] (fun r h=>(r=.b true/\h=[.obj c [.i (600-XU b2 (600-v))]]/\0<=XU b2 (600-v))∨(r=.b false/\h=[]/\XU b2 (600-v)<0))):Zk Tryz.prog 63 [Zr b,.p c 0] [.obj c [.i v]] (fun r h=>(r=.b true/\h=[.obj c [.i (600-XU b (600-v))]]/\0<=XU b (600-v))∨(r=.b false/\h=[]/\XU b (600-v)<0)):=by
 have hbz:=Vz b
 have hbe:=LS b (600-v)
 refine ZL 38 Tryz.func63 (ar (iA (Y8 b) ?_))
 intro b1
 refine ir 1 [(1,.p c 0),(2,.p b1 0)] (ie (aq (ar (Yn 2 10 (Ya b.steps) [0] [b1] (iw (Vp b.steps) (Z1 1 12 (.i 0) (ie (ab 0 (al (fun m F h=>∃(k:Nat) (q:Int),(k<=b.steps.length)/\(0<=q/\q<=600)/\(V1 (b.steps.drop k) (600-q)=V1 b.steps (600-v))/\F=[(1,.p c 0),(10,Ya b.steps),(11,.i b.steps.length),(12,.i k)]/\h=[.obj c [.i q]]/\m=b.steps.length-k) _ _ _ ⟨0,v,ob,ob,rfl,rfl,rfl,rfl⟩ (wk [1] (fw (fr (Yh fl)))) ?_)))))))))
 rintro m F h ⟨k,q,Yo,Zp,ZA,rfl,rfl,rfl⟩
 refine ar (Z1 1 13 (.b (decide ((k:Int)<(b.steps.length:Int)))) (ie (aq (ZT ((k:Int)<(b.steps.length:Int)) (fun Ze=>?_) (fun Ze=>?_)))))
 ·refine ak (aq (ab 1 (ar ?_)))
  obtain ⟨x1,Z3⟩:=Zu (xs:=b.steps) (j:=k) om
  have hss:=KQ Z3
  have hkz:=Td x1
  refine Zq (Zn none (k:Int) 5 (Ww Z3)) (Z1 1 15 (Y2 x1) (iA [.i 0,.i 0,.i 0,nl,nl] ?_))
  intro b2
  refine ZG 0 b2 (Ye x1) (ie (aq (ar (ZY 3 16 (.p c 0) 18 (.i q) [1] [c] (ia ((q+1)) ((q)+(1)) (Z1 1 20 (.p c 0) (ZG 1 c [.i (q+1)] (ie (ar (Yn 4 24 (.b (decide ((q+1)>600))) [0] [c] (ie (ZT ((q+1)>600) (fun Zl=>?_) (fun Zl=>?_)))))))))))))
  ·refine ar (ir 1 [(4,.b false)] (ie ?_))
   exact Zc (r1 [] (.inr ⟨rfl,rfl,(by rw [hbe,<-ZA,Yd Z3,V1,Zj om];omega)⟩))
  refine ak (ar (Yn 2 26 (Yz x1.kids) [1] [b2] (iw (U1 x1.kids) (Z1 1 28 (.i 0) (ie (ab 2 (al (fun m F h=>∃(j:Nat) (j2:Int),(j<=x1.kids.length)/\(0<=j2/\j2<=600)/\(Te (x1.kids.drop j) (600-j2)=Te x1.kids (600-(q+1)))/\F=[(1,.p c 0),(10,Ya b.steps),(11,.i b.steps.length),(12,.i k),(26,Yz x1.kids),(27,.i x1.kids.length),(28,.i j)]/\h=[.obj c [.i j2]]/\m=x1.kids.length-j) _ _ _ ⟨0,(q+1),ob,ob,rfl,rfl,rfl,rfl⟩ (wk [0] (fq (fw (Yh fl)))) ?_)))))))
  rintro m F h ⟨j,j2,Um,Wg,XK,rfl,rfl,rfl⟩
  refine ar (Z1 1 29 (.b (decide ((j:Int)<(x1.kids.length:Int)))) (ie (aq (ZT ((j:Int)<(x1.kids.length:Int)) (fun ZI=>?_) (fun ZI=>?_)))))
  ·refine ak (aq (ab 3 (ar ?_)))
   obtain ⟨x2,Zy⟩:=Zu (xs:=x1.kids) (j:=j) om
   have hks:=Tc Zy
   have hle:=E3.2 x2 (600-j2) om
   refine Zq (Zn none (j:Int) 2 (UD Zy)) (Z1 1 31 (Zr x2) (iA [nl,.i 0] ?_))
   intro b3
   refine ZG 0 b3 (Y8 x2) (ie (ar (ZY 2 32 (Zr x2) 33 (.p c 0) [0] [b3] (ic [1] (ih x2 c j2 ob ob) ?_))))
   rintro _ _ (⟨rfl,rfl,ZP⟩|⟨rfl,rfl,Y1⟩)
   ·refine Z1 1 35 (.b false) (ie (WV (ak (az (ZO j (Z6 1 (.n 28 (.i (j+1:Nat)) (.p (.d (.p (.d (.d (.p (.d (.p (.d (.w (.k (.k .z))))))))))))) (ie ?_)))))))
    have hdr:=Yd Zy
    exact ZU ⟨j+1,(600-XU x2 (600-j2)),ob,ob,(by rw [Yd Zy,Te,Za om] at XK;rw [show 600-(600-XU x2 (600-j2))=XU x2 (600-j2) by omega];exact XK),rfl,rfl,rfl⟩ (wk [0] (fq (fw (ZW j fl))))
   refine Z1 1 35 (.b true) (ie (WW (ar (ir 1 [(4,.b false)] (ie ?_)))))
   exact Zc (r1 [] (.inr ⟨rfl,rfl,(by rw [hbe,<-ZA,Yd Z3,V1,Za om,Zj (by rw [E4,show (600-q-1:Int)=600-(q+1) by omega,<-XK,Yd Zy,Te,Zj Y1];omega)];omega)⟩))
  have hE:Te x1.kids (600-(q+1))=600-j2:=by rw [<-XK,Xz om,Te]
  refine ax 2 (az (ZO k (Z6 1 (.n 12 (.i (k+1:Nat)) (.p (.d (.k (.k (.k .z)))))) (ie ?_))))
  have hdr:=Yd Z3
  exact ZU ⟨k+1,j2,ob,ob,(by rw [Yd Z3,V1,Za om,E4,show (600-q-1:Int)=600-(q+1) by omega,hE,Za om] at ZA;exact ZA),rfl,rfl,rfl⟩ (wk [0] (fw (fr (ZW k fl))))
 refine ax 0 (ar (ir 1 [(4,.b true)] (ie ?_)))
 have hF:XU b (600-v)=600-q:=by rw [hbe,<-ZA,Xz om,V1]
 exact Zc (r1 [0] (.inl ⟨rfl,rfl,om⟩) (eq:=(ro (ls:=[.i q]) (by rw [hF,show (600-(600-q):Int)=q by omega]) rz)))
theorem Z0m:∀(b:Z5) (c:Nat) (v:Int),(b.sz<=1000000000)->(0<=v/\v<=600)->Zk Tryz.prog 63 [Zr b,.p c 0] [.obj c [.i v]] (fun r h=>(r=.b true/\h=[.obj c [.i (600-XU b (600-v))]]/\0<=XU b (600-v))∨(r=.b false/\h=[]/\XU b (600-v)<0)):=by
 have key:∀m:Nat,∀(b:Z5) (c:Nat) (v:Int),(b.sz<=m)->(b.sz<=1000000000)->(0<=v/\v<=600)->Zk Tryz.prog 63 [Zr b,.p c 0] [.obj c [.i v]] (fun r h=>(r=.b true/\h=[.obj c [.i (600-XU b (600-v))]]/\0<=XU b (600-v))∨(r=.b false/\h=[]/\XU b (600-v)<0)):=by
  intro m
  induction m with
  | zero=>intro b c v h;have:=b.sz_pos;omega
  | succ m ih=>intro b c v h1 h2 h3;exact Z0n b c v h2 h3 fun b2 c2 v2 k1 k2=>ih b2 c2 v2 om om k2
 intro b c v h2 h3
 exact key b.sz b c v (Xa _) h2 h3
theorem Lp (b:Z5) (hb:b.sz<=1000000000:=by exact ob):Zk Tryz.prog 22 [Zr b] [] (fun r h=>r=.i (Wm b)/\h=[]):=by
 refine ZL 8 Tryz.func22 (ar (iA (Y8 b) ?_))
 intro b1
 refine ir 1 [(1,.p b1 0)] (ie (ar (iA [.i 0] ?_)))
 intro b2
 refine ZG 0 b2 [.i 0] (ie (aq (ar (Yn 1 4 (Zr b) [1] [b1] (ic [0] (Z0m b b2 0 ob ob) ?_)))))
 rintro _ _ (⟨rfl,rfl,ZP⟩|⟨rfl,rfl,Y1⟩)
 ·have h0:=ZP
  rw [show (600-0:Int)=600 from rfl] at h0
  refine Z1 1 6 (.b false) (ie (WV (ak (ar (iR 2 [(2,.i (600-XU b (600-0)))] [0] [b2] (ie ?_))))))
  exact Zc (r2 [] [.i (600-XU b (600-0))] ⟨rfl,rfl⟩ (li (by rw [show (600-0:Int)=600 from rfl,Wm,Za om])))
 have h0:=Y1
 rw [show (600-0:Int)=600 from rfl] at h0
 refine Z1 1 6 (.b true) (ie (WW (ar (ir 1 [(2,.i (-1))] (ie ?_)))))
 exact Zc (r2 [] [.i (-1)] ⟨rfl,rfl⟩ (li (by rw [Wm,Zj h0])))
theorem Z0t (ds:List Zf) (fs:List WI) (hz:Qu ds:=by exact ob) (hf:∀f∈fs,f.pms.length<=4194304/\f.lnt.length<=4194304) (hfl:fs.length<=4194304:=by exact ob):Zk Tryz.prog 90 [Zd ds,Vm fs] [] (fun r h=>r=.b (Qp ds fs)/\h=[]):=by
 have hzl:=hz.len
 refine ZL 102 Tryz.func90 (ar (ir 1 [(0,Zd ds),(1,Vm fs)] (ie (aq (ar (Z1 1 9 (Zd ds) (Zz [] (Z0f ds) (XH 8 [(0,Zd ds),(1,Vm fs),(16,.b ((!Wi ds)||(decide ((fs.length:Int)<1))))] [] ?_ (fun hj1=>?_)))))))))
 ·refine XH 13 [(0,Zd ds),(1,Vm fs),(21,.b (((!Wi ds)||(decide ((fs.length:Int)<1)))||(decide ((fs.length:Int)>4))))] [] ?_ (fun hj2=>?_)
  ·refine ir 1 [(0,Zd ds),(1,Vm fs),(22,.b (((!Wi ds)||(decide ((fs.length:Int)<1)))||(decide ((fs.length:Int)>4))))] (ib (b:=(((!Wi ds)||(decide ((fs.length:Int)<1)))||(decide ((fs.length:Int)>4)))) 22 (fun Zb=>?_) (fun Zb=>?_))
   ·have ZP:((¬(Wi ds=true))∨((fs.length:Int)<1))∨((fs.length:Int)>4):=((Yc (Yc (Yp Iff.rfl) dq) dq)).1 Zb
    refine Z6 14 (.n 36 (.b true) (.d (.k (.k .z)))) (ie (WW (ar (ir 1 [(4,.b false)] (ie ?_)))))
    exact Zc (r2 [] [.b false] ⟨rfl,rfl⟩ (lb (Z7h (by assumption))))
   have Y1:¬(((¬(Wi ds=true))∨((fs.length:Int)<1))∨((fs.length:Int)>4)):=ZF (Yc (Yc (Yp Iff.rfl) dq) dq) Zb
   refine Z6 1 (.n 23 (Vm fs) (.k (.k (.k .z)))) ?_
   obtain ⟨x1,Z3⟩:=Zu (xs:=fs) (j:=0) om
   refine Zq (Zn none 0 3 (Bp Z3)) (Z1 2 26 (Z0 x1.pms) (iw (Yf x1.pms) (Z1 3 30 (.b (decide ((x1.pms.length:Int)>0))) (ib (b:=(decide ((x1.pms.length:Int)>0))) 30 (fun Zv=>?_) (fun Zv=>?_)))))
   ·have YB:(x1.pms.length:Int)>0:=(dq).1 Zv
    refine Z6 6 (.n 36 (.b true) (.k (.d .r))) (ie (WW (ar (ir 1 [(4,.b false)] (ie ?_)))))
    exact Zc (r2 [] [.b false] ⟨rfl,rfl⟩ (lb (O4 Z3 (.inl (by assumption)))))
   have YM:¬((x1.pms.length:Int)>0):=ZF dq Zv
   refine Z6 1 (.n 31 (Vm fs) (.k (.d .r))) (Zq (Zn none 0 3 (Bp Z3)) (Z1 4 36 (.b (x1.res != 0)) (ie (ac (x1.res != 0) Yg (fun Ze=>?_) (fun Ze=>?_)))))
   ·refine ar (ir 1 [(4,.b false)] (ie ?_))
    exact Zc (r2 [] [.b false] ⟨rfl,rfl⟩ (lb (O4 Z3 (.inr Ze))))
   refine ak (aq (ar (Z1 1 37 (Vm fs) (iw (C8 fs) (Z1 1 39 (.i 0) (ie (ab 0 (al (fun m F h=>∃(k:Nat),(k<=fs.length)/\(Qk ds.length (fs.drop k)=Qk ds.length fs)/\F=[(0,Zd ds),(37,Vm fs),(38,.i fs.length),(39,.i k)]/\h=[]/\m=fs.length-k) _ _ _ ⟨0,ob,ob,rfl,rfl,rfl⟩ (wk [] (fw (fr (Yh fl)))) ?_))))))))
   rintro m F h ⟨k,Yo,Zp,rfl,rfl,rfl⟩
   refine ar (Z1 1 40 (.b (decide ((k:Int)<(fs.length:Int)))) (ie (aq (ZT ((k:Int)<(fs.length:Int)) (fun Zl=>?_) (fun Zl=>?_)))))
   ·refine ak (aq (ab 1 (ar ?_)))
    obtain ⟨x2,Zy⟩:=Zu (xs:=fs) (j:=k) om
    have hf2:=hf _ (Y7 Zy)
    refine Zq (Zn none (k:Int) 3 (Bp Zy)) (Z1 1 42 (D6 x2) (iA [nl,nl,.i 0] ?_))
    intro b1
    refine ZG 0 b1 (BC x2) (ie (aq (ar (Yn 2 44 (Z0 x2.pms) [0] [b1] (iw (Yf x2.pms) (XH 11 [(0,Zd ds),(6,.p b1 0),(37,Vm fs),(38,.i fs.length),(39,.i k),(53,.b ((decide ((x2.pms.length:Int)>3))||(!X1 ds.length x2.pms)))] [.obj b1 (BC x2)] ?_ (fun hj3=>?_)))))))
    ·refine Xm [(0,Zd ds),(6,.p b1 0),(37,Vm fs),(38,.i fs.length),(39,.i k),(60,.b (((decide ((x2.pms.length:Int)>3))||(!X1 ds.length x2.pms))||(!(decide (0<=x2.res/\x2.res<=ds.length)))))] [.obj b1 (BC x2)] ?_ ?_
     ·refine ir 1 [(0,Zd ds),(6,.p b1 0),(37,Vm fs),(38,.i fs.length),(39,.i k),(54,.b ((decide ((x2.pms.length:Int)>3))||(!X1 ds.length x2.pms)))] (ib (b:=((decide ((x2.pms.length:Int)>3))||(!X1 ds.length x2.pms))) 54 (fun Yx=>?_) (fun Yx=>?_))
      ·have YX:((x2.pms.length:Int)>3)∨(¬(X1 ds.length x2.pms=true)):=((Yc dq (Yp Iff.rfl))).1 Yx
       refine Z6 6 (.n 60 (.b true) (.d (.w (.k .z)))) (ie ?_)
       exact wk [0] (fq (fr (Zs true Yx fl)))
      have Xv:¬(((x2.pms.length:Int)>3)∨(¬(X1 ds.length x2.pms=true))):=ZF (Yc dq (Yp Iff.rfl)) Yx
      refine Y0 3 (.n 55 (Zd ds) (.n 57 (.i x2.res) (.w (.k (.k .z))))) [0] [b1] (Zz [] (DT ds x2.res) (Z1 2 60 (.b (!(decide (0<=x2.res/\x2.res<=ds.length)))) (ie ?_)))
      exact wk [0] (fq (fr (Zs (!(decide (0<=x2.res/\x2.res<=ds.length))) Yx fl)))
     refine ac (((decide ((x2.pms.length:Int)>3))||(!X1 ds.length x2.pms))||(!(decide (0<=x2.res/\x2.res<=ds.length)))) (p:=(((x2.pms.length:Int)>3)∨(¬(X1 ds.length x2.pms=true)))∨(¬(0<=x2.res/\x2.res<=ds.length))) (Yc (Yc dq (Yp Iff.rfl)) (Yp dq)) (fun ZI=>?_) (fun ZI=>?_)
     ·refine ar (ir 1 [(4,.b false)] (ie ?_))
      exact Zc (r2 [] [.b false] ⟨rfl,rfl⟩ (lb (EE (Es Zy (Z4a ZI) Zp))))
     refine ak (ar (iR 2 [(0,Zd ds),(6,.p b1 0),(37,Vm fs),(38,.i fs.length),(39,.i k),(62,Z0 x2.lnt)] [0] [b1] (iw (Yf x2.lnt) (Z1 1 64 (.i 0) (ie (ab 2 (al (fun m F h=>∃(j:Nat),(j<=x2.lnt.length)/\(Qi x2.pms (x2.lnt.drop j) (if j=0 then none else x2.lnt[j-1]?)=QY x2.pms x2.lnt)/\F=[(0,Zd ds),(6,.p b1 0),(37,Vm fs),(38,.i fs.length),(39,.i k),(62,Z0 x2.lnt),(63,.i x2.lnt.length),(64,.i j)]/\h=[.obj b1 (BC x2)]/\m=x2.lnt.length-j) _ _ _ ⟨0,ob,(by rfl),rfl,rfl,rfl⟩ (wk [0] (fq (fw (fr (Yh fl))))) ?_)))))))
     rintro m F h ⟨j,Um,Wg,rfl,rfl,rfl⟩
     refine ar (Z1 1 65 (.b (decide ((j:Int)<(x2.lnt.length:Int)))) (ie (aq (ZT ((j:Int)<(x2.lnt.length:Int)) (fun Yi=>?_) (fun Yi=>?_)))))
     ·refine ak (aq (ab 3 (ar (Z1 1 66 (.i j) ?_))))
      obtain ⟨x3,YT⟩:=Zu (xs:=x2.lnt) (j:=j) om
      refine Zq (Zn none (j:Int) 1 (Y4 YT)) (Yq 3 7 (.i j) 8 (.i x3) (ie (ar (XH 9 [(0,Zd ds),(6,.p b1 0),(7,.i j),(8,.i x3),(37,Vm fs),(38,.i fs.length),(39,.i k),(62,Z0 x2.lnt),(63,.i x2.lnt.length),(64,.i j),(77,.b ((decide (x3<0))||(decide (x3>=(x2.pms.length:Int)))))] [.obj b1 (BC x2)] ?_ (fun hj4=>?_)))))
      ·refine ir 1 [(0,Zd ds),(6,.p b1 0),(7,.i j),(8,.i x3),(37,Vm fs),(38,.i fs.length),(39,.i k),(62,Z0 x2.lnt),(63,.i x2.lnt.length),(64,.i j),(78,.b ((decide (x3<0))||(decide (x3>=(x2.pms.length:Int)))))] (ib (b:=((decide (x3<0))||(decide (x3>=(x2.pms.length:Int))))) 78 (fun Xh=>?_) (fun Xh=>?_))
       ·have Wb:(x3<0)∨(x3>=(x2.pms.length:Int)):=((Yc dq dq)).1 Xh
        refine Z6 21 (.n 99 (.b true) (.d (.k (.k (.d (.d (.w (.k (.k .z))))))))) (ie (WW (ar (ir 1 [(4,.b false)] (ie ?_)))))
        exact Zc (r2 [] [.b false] ⟨rfl,rfl⟩ (lb (EE (Es Zy (H0 (Gy YT (by rintro ⟨q1,q2,q3⟩;first|omega|(rw [Ud] at q2;exact q2 (Yw some om))|(have:=q3 _ (by rw [Za om];exact UI);omega)) Wg)) Zp))))
       have WE:¬((x3<0)∨(x3>=(x2.pms.length:Int))):=ZF (Yc dq dq) Xh
       refine Y0 3 (.n 80 (Z0 x2.pms) (.n 81 (.i x3) (.w (.w (.k (.k (.k .z))))))) [0] [b1] ?_
       obtain ⟨x4,Ud⟩:=Zu (xs:=x2.pms) (j:=x3.toNat) om
       refine Zq (Zn none x3 1 (Y4 Ud)) (Z1 4 86 (.b (x4==0)) (ib (b:=(x4==0)) 86 (fun W9=>?_) (fun W9=>?_)))
       ·have WR:x4=0:=(Zh).1 W9
        refine Z6 13 (.n 99 (.b true) (.k (.d .r))) (ie (WW (ar (ir 1 [(4,.b false)] (ie ?_)))))
        exact Zc (r2 [] [.b false] ⟨rfl,rfl⟩ (lb (EE (Es Zy (H0 (Gy YT (by rintro ⟨q1,q2,q3⟩;first|omega|(rw [Ud] at q2;exact q2 (Yw some om))|(have:=q3 _ (by rw [Za om];exact UI);omega)) Wg)) Zp))))
       have Uc:¬(x4=0):=ZF Zh W9
       refine Z6 3 (.n 89 (.b (decide ((j:Int)>0))) (.k (.d .r))) (ib (b:=(decide ((j:Int)>0))) 89 (fun Wx=>?_) (fun Wx=>?_))
       ·have UH:(j:Int)>0:=(dq).1 Wx
        refine Y0 4 (.n 90 (.i x3) (.n 92 (Z0 x2.lnt) (.n 93 (.i j) (.k (.d .r))))) [0] [b1] (ia (((j-1:Nat):Int)) (((j:Int))-(1)) ?_)
        obtain ⟨x5,UI⟩:=Zu (xs:=x2.lnt) (j:=j-1) om
        refine Zq (Zn none ((j-1:Nat):Int) 1 (Y4 UI)) (Z1 4 99 (.b (decide (x3<=x5))) (ie (ZT (x3<=x5) (fun Xk=>?_) (fun Xk=>?_))))
        ·refine ar (ir 1 [(4,.b false)] (ie ?_))
         exact Zc (r2 [] [.b false] ⟨rfl,rfl⟩ (lb (EE (Es Zy (H0 (Gy YT (by rintro ⟨q1,q2,q3⟩;first|omega|(rw [Ud] at q2;exact q2 (Yw some om))|(have:=q3 _ (by rw [Za om];exact UI);omega)) Wg)) Zp))))
        refine ak (az (ZO j (Z6 1 (.n 64 (.i (j+1:Nat)) (.p (.d (.p (.p (.d (.d (.d (.d (.d (.p (.d (.d (.d (.k (.k (.d (.d (.w (.k .z)))))))))))))))))))) (ie ?_))))
        have hdr:=Yd YT
        exact ZU ⟨j+1,ob,(LX YT ⟨by omega,(by rw [Ud];intro q;cases q;omega),fun p hp=>by first|(rw [Zj om] at hp;cases hp;done)|(rw [Za om,UI] at hp;cases hp;omega)⟩ Wg),rfl,rfl,rfl⟩ (wk [0] (fq (fw (fr (ZW j fl)))))
       have Uv:¬((j:Int)>0):=ZF dq Wx
       refine Z6 10 (.n 99 (.b false) (.k (.d .r))) (ie (WV (ak (az (ZO j (Z6 1 (.n 64 (.i (j+1:Nat)) (.p (.d (.d (.d (.p (.d (.d (.d (.k (.k (.d (.d (.w (.k .z))))))))))))))) (ie ?_)))))))
       have hdr:=Yd YT
       exact ZU ⟨j+1,ob,(LX YT ⟨by omega,(by rw [Ud];intro q;cases q;omega),fun p hp=>by first|(rw [Zj om] at hp;cases hp;done)|(rw [Za om,UI] at hp;cases hp;omega)⟩ Wg),rfl,rfl,rfl⟩ (wk [0] (fq (fw (fr (ZW j fl)))))
      refine ir 3 [(0,Zd ds),(6,.p b1 0),(7,.i j),(8,.i x3),(37,Vm fs),(38,.i fs.length),(39,.i k),(62,Z0 x2.lnt),(63,.i x2.lnt.length),(64,.i j),(71,.b (decide (x3<0)))] (ib (b:=(decide (x3<0))) 71 (fun WZ=>?_) (fun WZ=>?_))
      ·have Tt:x3<0:=(dq).1 WZ
       refine Z6 6 (.n 77 (.b true) (.d (.w (.w (.k (.k .z)))))) ?_
       exact YC (wk [0] (fq (fq (fw (Zs true WZ fl))))) hj4
      have Ta:¬(x3<0):=ZF dq WZ
      refine Y0 3 (.n 72 (.i x3) (.n 74 (Z0 x2.pms) (.w (.w (.k (.k (.k .z))))))) [0] [b1] (iw (Yf x2.pms) (Z1 2 77 (.b (decide (x3>=(x2.pms.length:Int)))) ?_))
      exact YC (wk [0] (fq (fq (fw (Zs (decide (x3>=(x2.pms.length:Int))) WZ fl))))) hj4
     have hL:QY x2.pms x2.lnt=true:=by rw [<-Wg,Xz om];rfl
     have hS:=Z4b ZI hL
     refine ax 2 (az (ZO k (Z6 1 (.n 39 (.i (k+1:Nat)) (.p (.d (.k (.d (.k (.k .z))))))) (ie ?_))))
     have hdr:=Yd Zy
     exact ZU ⟨k+1,ob,(Z4u Zy hS Zp),rfl,rfl,rfl⟩ (wk [] (fw (fr (ZW k fl))))
    refine ir 2 [(0,Zd ds),(6,.p b1 0),(37,Vm fs),(38,.i fs.length),(39,.i k),(47,.b (decide ((x2.pms.length:Int)>3)))] (ib (b:=(decide ((x2.pms.length:Int)>3))) 47 (fun WL=>?_) (fun WL=>?_))
    ·have QF:(x2.pms.length:Int)>3:=(dq).1 WL
     refine Z6 6 (.n 53 (.b true) (.d (.w (.k .z)))) ?_
     exact YC (wk [0] (fq (fr (Zs true WL fl)))) hj3
    have QG:¬((x2.pms.length:Int)>3):=ZF dq WL
    refine Y0 3 (.n 48 (Zd ds) (.n 50 (Z0 x2.pms) (.w (.k (.k .z))))) [0] [b1] (Zz [] (Gg ds x2.pms) (Z1 2 53 (.b (!X1 ds.length x2.pms)) ?_))
    exact YC (wk [0] (fq (fr (Zs (!X1 ds.length x2.pms) WL fl)))) hj3
   refine ax 0 (ar (ir 1 [(4,.b true)] (ie ?_)))
   exact Zc (r2 [] [.b true] ⟨rfl,rfl⟩ (lb (Z7i (by assumption) Z3 (by assumption) Ze (by rw [<-Zp,Xz om];rfl))))
  refine ir 1 [(0,Zd ds),(1,Vm fs),(17,.b ((!Wi ds)||(decide ((fs.length:Int)<1))))] (ib (b:=((!Wi ds)||(decide ((fs.length:Int)<1)))) 17 (fun WM=>?_) (fun WM=>?_))
  ·have Jk:(¬(Wi ds=true))∨((fs.length:Int)<1):=((Yc (Yp Iff.rfl) dq)).1 WM
   refine Z6 4 (.n 21 (.b true) (.d (.k (.k .z)))) ?_
   exact YC (wk [] (fw (Zs true WM fl))) hj2
  have QH:¬((¬(Wi ds=true))∨((fs.length:Int)<1)):=ZF (Yc (Yp Iff.rfl) dq) WM
  refine Z6 1 (.n 18 (Vm fs) (.k (.k (.k .z)))) (iw (C8 fs) (Z1 2 21 (.b (decide ((fs.length:Int)>4))) ?_))
  exact YC (wk [] (fw (Zs (decide ((fs.length:Int)>4)) WM fl))) hj2
 refine ir 2 [(0,Zd ds),(1,Vm fs),(12,.b (!Wi ds))] (ib (b:=(!Wi ds)) 12 (fun TE=>?_) (fun TE=>?_))
 ·have Lk:¬(Wi ds=true):=((Yp Iff.rfl)).1 TE
  refine Z6 4 (.n 16 (.b true) (.d (.k (.k .z)))) ?_
  exact YC (wk [] (fw (Zs true TE fl))) hj1
 have Ll:¬(¬(Wi ds=true)):=ZF (Yp Iff.rfl) TE
 refine Z6 1 (.n 13 (Vm fs) (.k (.k (.k .z)))) (iw (C8 fs) (Z1 2 16 (.b (decide ((fs.length:Int)<1))) ?_))
 exact YC (wk [] (fw (Zs (decide ((fs.length:Int)<1)) TE fl))) hj1
theorem Z0p (n:Zx) (hz:Qw n:=by exact ob):Zk Tryz.prog 54 [ZB n] [] (fun r h=>(r=.tup [.agg [Zd n.decls,Xn n],.b (XI n)]/\h=[]/\n.routines.length<=4)∨(r=.tup [.agg [Zd [],Vm []],.b false]/\h=[]/\XI n=false)):=by
 have hzl:=hz.len
 refine ZL 41 Tryz.func54 (ar (iA (ZM n) ?_))
 intro b1
 refine iA [nl,nl] ?_
 intro b2
 refine ir 1 [(1,.p b1 0),(2,.p b2 0)] (ie (aq (ar (Yn 2 8 (X9 n.routines) [1] [b1] (iw (Ur n.routines) (Z1 1 10 (.b (decide ((n.routines.length:Int)>4))) (ie (ZT ((n.routines.length:Int)>4) (fun Ze=>?_) (fun Ze=>?_)))))))))
 ·refine ar (Z1 1 11 (.agg [nl,nl]) (ZG 0 b2 [nl,nl] (Z1 1 3 (.b false) (ie ?_))))
  exact Zc (r3 [] [.agg [nl,nl],.b false] [0] [(b2,b2)] (.inr ⟨rfl,rfl,(by rw [M6,decide_eq_false om];rfl)⟩) (Zg.tup (.cons (Zg.agg (.cons (Zg.sl _ rfl) (.cons (Zg.sl _ rfl) .nil))) (.cons (lr _) .nil))))
 refine ak (ar (Yn 3 14 (.agg [Zd n.decls,nl]) [1] [b1] (iA [nl,nl] ?_)))
 intro b3
 refine ZG 0 b3 [Zd n.decls,nl] (ie (aq (ar (Yn 2 16 (X9 n.routines) [2] [b1] (iw (Ur n.routines) (Z1 1 18 (.i 0) (ie (ab 0 (D8 3 (al (fun m F h=>∃(k:Nat) (v:Value),(k<=n.routines.length)/\F=[(1,.p b1 0),(2,.p b2 0),(4,.p b3 0),(16,X9 n.routines),(17,.i n.routines.length),(18,.i k)]/\h=[.obj b3 [Zd n.decls,BH ((n.routines.take k).map XB) v],.obj b2 [nl,nl],.obj b1 (ZM n),.tail v 3]/\m=n.routines.length-k) _ _ _ ⟨0,(.slice none 0 0),ob,rfl,rfl,rfl⟩ (wk [1,1,1,0] (fq (fr (Yh fl)))) ?_))))))))))
 rintro m F h ⟨k,v,Yo,rfl,rfl,rfl⟩
 refine ar (Z1 1 19 (.b (decide ((k:Int)<(n.routines.length:Int)))) (ie (aq (ZT ((k:Int)<(n.routines.length:Int)) (fun Zl=>?_) (fun Zl=>?_)))))
 ·refine ak (aq (ab 1 (ar ?_)))
  obtain ⟨x1,Z3⟩:=Zu (xs:=n.routines) (j:=k) om
  refine Zq (Zn none (k:Int) 5 (WJ Z3)) (Z1 1 21 (Vi x1) (iA [nl,nl,.i 0,nl,.i 0] ?_))
  intro b4
  refine ZG 0 b4 (UK x1) (ie (az (ZY 9 23 (BH ((n.routines.take k).map XB) v) 30 (.agg [Z0 x1.params,Z0 x1.lent,.i x1.result]) [1,0,0,0] [b3,b4,b4,b4] (iL (UE [WI.mk x1.params x1.lent x1.result]) 1 3 ?_))))
  intro v1
  refine Z6 0 (.n 31 (Vm [WI.mk x1.params x1.lent x1.result]) (.p .r)) (ip 5 (UE ((n.routines.take (k+1)).map XB)) (UE ((n.routines.take k).map XB)) (UE [WI.mk x1.params x1.lent x1.result]) v none 3 (Is _) (Is _) (Rc _) (by simp<;>omega) (by rw [WS Z3];simp [UE,XB]) ?_)
  intro v2
  refine Z1 1 33 (.p b3 1) (ZG 3 b3 [Zd n.decls,BH ((n.routines.take (k+1)).map XB) v2] (ie (az (ZO k (Z6 1 (.n 18 (.i (k+1:Nat)) (.p (.d (.p (.d (.d (.d (.p (.d (.p (.d (.w (.k .z))))))))))))) (ie ?_))))))
  have hdr:=Yd Z3
  exact ZU ⟨k+1,v2,ob,rfl,rfl,rfl⟩ (wk [0,3,3,0] (fq (fr (ZW k fl))))
 refine ax 0 (aD 8 (Y5 3 8 [0,1,2,3,4] (.n 35 (.agg [Zd n.decls,BH ((n.routines.take k).map XB) v]) (.n 37 (Zd n.decls) (.n 39 (Vm ((n.routines.take k).map XB)) .r))) [0,2,0] [b3,b1,b3] (Z9 5 (Yv 5 [] [0] [b3] (Z0t n.decls ((n.routines.take k).map XB) (hz:=hz.decls) (hf:=(by intro f hf;obtain ⟨r,h1,rfl⟩:=W4.1 hf;have:=TP h1;exact ⟨hz.params r this,hz.lent r this⟩))) (Z9 6 (YG 6 1 [] [] b2 [Zd n.decls,BH ((n.routines.take k).map XB) v] (ZX 0 1 [7] 3 (.b (Qp n.decls ((n.routines.take k).map XB))) (de ?_))))))))
 have htk:n.routines.take k=n.routines:=Vb om
 exact Zc (r3 [] [.agg [Zd n.decls,BH ((n.routines.take k).map XB) v],.b (Qp n.decls ((n.routines.take k).map XB))] [0] [(b2,b2)] (.inl ⟨rfl,rfl,om⟩) (Zg.tup (.cons (Zg.agg (.cons (lr _) (.cons (Zg.sl _ (Yw UE (by rw [htk]))) .nil))) (.cons (lb (by rw [htk,M6,decide_eq_true (p:=n.routines.length<=4) om,Bool.true_and])) .nil))))
end Go.Abs
