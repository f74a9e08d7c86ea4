/-
  A part of the proof of FnValidNormalUptoSaid (see the last file): no condition.
-/
import Derived.Test.YthllacimcjakdaaGreatVnlD
set_option linter.all false
set_option linter.unusedVariables false
set_option linter.unusedSimpArgs false
set_option linter.unusedSectionVars false
set_option maxRecDepth 10000
set_option maxHeartbeats 4000000
namespace Go.Abs
open Go.Proofs
theorem LJ (b:Nat) (ga:Hd) (gb:Hd) (gc:Hd) (gd:Hd) (ge:Hd) (gf:Hd) (n:Zy) (s:Z4) (L:ZJ) (ln:List Int) (q:Int) (i:Nat) (kb0:Z7) (m:List Int) (hn:Xe n:=by exact ob) (hk:Xz n.decls L q:=by exact ob) (hf:Am n L.vars s:=by exact ob) (hop:s.op=7∨s.op=8:=by exact ob) (hkb:s.kids[i]? = some kb0:=by exact ob) (harm:(X6 n.decls s.op s.num)[i]? = some m:=by exact ob) (hbt:0<=YR n (L.vars++m) kb0:=by exact ob) (hb:L.vars.length+4*s.sz<=1000000000:=by exact ob) (hq:0<=q/\q+4*s.sz<=999999990:=by exact ob) (hln:ln.length<=4294967296:=by exact ob) (ih:∀(b2:Z7) (c:Nat) (ra:Hd) (rb:Hd) (rc:Hd) (rd:Hd) (re:Hd) (rf:Hd) (M:ZJ) (mm:Nat) (p:Int),(b2.sz<s.sz)->(Xz n.decls M p)->(0<=YR n M.vars b2)->(mm<=M.vars.length)->(M.vars.length+4*b2.sz<=1000000000)->(0<=p/\p+4*b2.sz<=999999990)->Zj Tryz.prog 270 [.p c 0,ZE n,Zx b2,.i mm] [.obj c [.h ra,.h rb,.h rc,.h rd,.h re,.h rf,Z0 ln],rV ra M.vars,rV rb M.own,rV rc M.par,rV rd M.con,rV re M.fst,rV rf M.tok] (fun r h=>(∃(wa:Hd) (wb:Hd) (wc:Hd) (wd:Hd) (we:Hd) (wf:Hd) (M':ZJ),r=.b true/\h=[.obj c [.h wa,.h wb,.h wc,.h wd,.h we,.h wf,Z0 ln],rV wa M'.vars,rV wb M'.own,rV wc M'.par,rV wd M'.con,rV we M'.fst,rV wf M'.tok]/\VC n ln M mm b2=some M')∨(r=.b false/\h=[]/\VC n ln M mm b2=none))):Zj Tryz.prog 262 [.p b 0,ZE n,Y4 s,.i i] [.obj b [.h ga,.h gb,.h gc,.h gd,.h ge,.h gf,Z0 ln],rV ga L.vars,rV gb L.own,rV gc L.par,rV gd L.con,rV ge L.fst,rV gf L.tok] (fun r h=>(∃(c:Nat) (wa:Hd) (wb:Hd) (wc:Hd) (wd:Hd) (we:Hd) (wf:Hd) (L':ZJ),r=.tup [.p c 0,.b true]/\h=[.obj c [.h wa,.h wb,.h wc,.h wd,.h we,.h wf,Z0 ln],rV wa L'.vars,rV wb L'.own,rV wc L'.par,rV wd L'.con,rV we L'.fst,rV wf L'.tok,.obj b [.h ga,.h gb,.h gc,.h gd,.h ge,.h gf,Z0 ln],rV ga L.vars,rV gb L.own,rV gc L.par,rV gd L.con,rV ge L.fst,rV gf L.tok]/\VC n ln (US n.decls L s.op s.num s.args i) L.vars.length kb0=some L')∨(r=.tup [.any,.b false]/\h=[.obj b [.h ga,.h gb,.h gc,.h gd,.h ge,.h gf,Z0 ln],rV ga L.vars,rV gb L.own,rV gc L.par,rV gd L.con,rV ge L.fst,rV gf L.tok]/\VC n ln (US n.decls L s.op s.num s.args i) L.vars.length kb0=none)):=by
 obtain ⟨e1,e2,e3,e4,e5⟩:=hk.len
 have Xu:=hn.decls
 have hkz:=T8 s
 have haz:=Q7 s
 have hK:=DQ hk hq.1 hf hop harm
 have hm3:=HD Xu harm
 have hkl:=(XM.1 hkb).1
 have hks:=T7 hkb
 refine ZK 83 Tryz.func262 (ar (iA (ZU n) ?_))
 intro b1
 refine iA (Yg s) ?_
 intro b2
 refine ir 2 [(0,.p b 0),(3,.i i),(5,.p b1 0),(6,.p b2 0)] (ie (ar (Yk 4 18 (.h ga) [2] [b] (Zq (Jo 3 ga L.vars) (Z1 1 10 (.i L.vars.length) (ie (ar (Z1 1 20 (.p b 0) (ic [2,2,2,2,2,2,2] (Z1p b ga gb gc gd ge gf L ln (hlk:=hk.len)) ?_)))))))))
 rintro _ _ ⟨c1,wa1,wb1,wc1,wd1,we1,wf1,rfl,rfl⟩
 refine Z1 1 11 (.p c1 0) (ie (aq (ar (Yk 3 24 (.b (s.op==8)) [14] [b2] (ie (ac (s.op==8) Zh (fun Ze=>?_) (fun Ze=>?_)))))))
 ·obtain ⟨x,hxa⟩:=hf.one om
  have ha:s.args[0]? = some x:=by rw [hxa];rfl
  have hx:=hf.args x (by rw [hxa];simp)
  obtain ⟨cc,hcc,hmc⟩:=OE Ze harm
  have hal:=(XM.1 ha).1
  have hcl:=(XM.1 hcc).1
  have hm4:=hm3
  rw [hmc] at hm4
  refine ar (Y1 4 26 (Zd n.decls) 28 (.i s.num) [15,14] [b1,b2] (ic [] (KH n.decls s.num) ?_))
  rintro _ _ ⟨v1,rfl,rfl⟩
  refine Z1 1 30 (.i i) (Zq (Zo (some v1) (i:Int) 1 (Y3 hcc)) (Z1 2 12 (.i cc) (ie (ar (Y1 3 34 (Zd n.decls) 35 (.i cc) [16] [b1] (ZA [] (Qh n.decls cc) (Z1 1 13 (Z0 (ZB n.decls cc)) (ie (aD 11 (Y6 5 11 [0,1,2,3,4,5] (.n 40 (.h wd1) (.n 42 (Z0 s.args) .r)) [1,15] [c1,b2] (dx 6 (Zo none 0 1 (Y3 ha)) (ZZ 2 4 [7,8] (.n 44 (.i x) (.n 45 (.i cc) .r)) (dx 9 (Vz 5 wd1 L.con x x.toNat (hq:=rfl)) (Z9 10 (JJ 10 5 [] [] wd1 L.con x.toNat cc (de (aD 11 (Y6 5 11 [0,1,2,3,4,5] (.n 50 (.h we1) (.n 52 (Z0 s.args) .r)) [2,15] [c1,b2] (dx 6 (Zo none 0 1 (Y3 ha)) (ZZ 2 4 [7,8] (.n 54 (.i x) (.n 55 (.i L.vars.length) .r)) (dx 9 (Vz 6 we1 L.fst x x.toNat (hq:=rfl)) (Z9 10 (JJ 10 6 [] [] we1 L.fst x.toNat (L.vars.length:Int) (de (ar (Z1 1 14 (.i 0) (ie (ab 0 (al (fun m F h=>∃(k:Nat) (L3:ZJ) (ka:Hd) (kb:Hd) (kc:Hd) (kd:Hd) (ke:Hd) (kf:Hd),(k<=(ZB n.decls cc).length)/\(Uz L3)/\(L3.vars.length=L.vars.length+k)/\(AC L3 x ((ZB n.decls cc).drop k)=Aq n.decls L x cc)/\F=[(3,.i i),(5,.p b1 0),(6,.p b2 0),(10,.i L.vars.length),(11,.p c1 0),(13,Z0 (ZB n.decls cc)),(14,.i k)]/\h=[.obj c1 [.h ka,.h kb,.h kc,.h kd,.h ke,.h kf,Z0 ln],.obj b [.h ga,.h gb,.h gc,.h gd,.h ge,.h gf,Z0 ln],rV ga L.vars,rV gb L.own,rV gc L.par,rV gd L.con,rV ge L.fst,rV gf L.tok,.obj b2 (Yg s),.obj b1 (ZU n),rV ka L3.vars,rV kb L3.own,rV kc L3.par,rV kd L3.con,rV ke L3.fst,rV kf L3.tok]/\m=(ZB n.decls cc).length-k) _ _ _ ⟨0,(ZJ.mk L.vars L.own L.par (L.con.set x.toNat cc) (L.fst.set x.toNat (L.vars.length:Int)) L.tok),wa1,wb1,wc1,wd1,we1,wf1,ob,(Uz.arm hk.len),ob,(by rw [Aq];rfl),rfl,rfl,rfl⟩ (wk [3,7,7,7,7,7,7,7,7,7,3,3,3,1,0,1] (fq (fw (Ye fl))) (e:=(rc (rc (rc (rc (rc (rc (rc (rc (rc (rc (rv (xs:=L.vars) ob (rv (xs:=L.own) ob (rv (xs:=L.par) ob (rv (xs:=(L.con.set x.toNat cc)) ob (rv (xs:=(L.fst.set x.toNat (L.vars.length:Int))) ob (rv (xs:=L.tok) ob rz)))))))))))))))))) ?_)))))))))))))))))))))))))))))
  rintro m F h ⟨k,L3,ka,kb,kc,kd,ke,kf,Ym,Zp,Zz,YJ,rfl,rfl,rfl⟩
  refine aq (ar (Yo 2 57 (.i k) 58 (Z0 (ZB n.decls cc)) (io (.i (((ZB n.decls cc).length:Nat):Int)) (.i (((Z8 (ZB n.decls cc)).length:Nat):Int)) (li (by rw [Yd])) (Z1 1 60 (.b (decide ((k:Int)<(((ZB n.decls cc).length:Nat):Int)))) (ie (ZM ((k:Int)<(((ZB n.decls cc).length:Nat):Int)) (fun Zk=>?_) (fun Zk=>?_)))))))
  ·refine ak (aq (ab 1 (aE 10 (ZZ 7 10 [0,1,2] (.n 63 (.p c1 0) (.n 64 (Z0 (ZB n.decls cc)) (.n 65 (.i k) .r))) ?_))))
   obtain ⟨x1,Z3⟩:=Zs (xs:=ZB n.decls cc) (j:=k) om
   refine dx 3 (Zo none (k:Int) 1 (Y3 Z3)) (Y6 3 6 [4,5,6] (.n 67 (.i x1) (.n 69 (Z0 s.args) .r)) [8] [b2] (dx 7 (Zo none 0 1 (Y3 ha)) (ZY 1 2 [8] 71 (.i x) (Z9 9 (dc 9 [0,9,9,9,9,9,9] [] [] (Qe c1 ka kb kc kd ke kf L3 ln x1 0 x (hlk:=Zp)) ?_)))))
   rintro _ _ ⟨wa2,wb2,wc2,wd2,we2,wf2,rfl⟩
   refine de (az (Z5 1 (.n 61 (.i k) (.p .r)) (ZO k (Z5 1 (.n 14 (.i (k+1:Nat)) (.p (.d (.d (.p (.d (.d (.p (.d (.d (.d (.d (.p (.d (.d (.w (.k (.k .z)))))))))))))))))) (ie ?_)))))
   exact ZQ ⟨k+1,(L3.grow x1 0 x),wa2,wb2,wc2,wd2,we2,wf2,ob,(Uz.grow Zp),(by simp [ZJ.grow];omega),(by rw [Yb Z3,AC] at YJ;exact YJ),rfl,rfl,rfl⟩ (wk [0,6,6,6,6,6,6,6,6,6,0,0,0,0,0,0] (fq (fw (ZW k fl))))
  have hE:US n.decls L s.op s.num s.args i=L3:=by rw [Z17 Ze ha hcc,<-YJ,Xx om];rfl
  refine ax 0 (aD 12 (Y6 6 12 [0,1,2,3,4,5] (.n 73 (.p c1 0) (.n 74 (.p c1 0) (.n 75 (ZE n) (.n 77 (Yz s.kids) (.n 78 (.i i) .r))))) [9,8] [b1,b2] (dx 6 (Zo none (i:Int) 2 (UA hkb)) (ZZ 3 5 [7,8] (.n 80 (Zx kb0) (.n 81 (.i L.vars.length) .r)) (Z9 9 (dc 9 [0,9,9,9,9,9,9] [] [] (ih kb0 c1 ka kb kc kd ke kf L3 L.vars.length q ob (by rw [<-hE];exact hK.1) (by rw [<-hE,hK.2];exact hbt) (by rw [<-hE,hK.2];simp) (by rw [<-hE,hK.2,Yx];omega) ob) ?_))))))
  rintro _ _ (⟨wa3,wb3,wc3,wd3,we3,wf3,M'1,rfl,rfl,ZP⟩|⟨rfl,rfl,Y0⟩)
  ·refine Xa 0 2 [10,11] [(8,.p c1 0),(9,.b true)] (de ?_)
   exact Zc (r2 [0,0,0,0,0,0,0,0,0,0,0,0,0,0] [.p c1 0,.b true] (.inl ⟨c1,wa3,wb3,wc3,wd3,we3,wf3,M'1,rfl,rfl,(by rw [hE];exact ZP)⟩) (lr _))
  refine Xa 0 2 [10,11] [(8,.p c1 0),(9,.b false)] (de ?_)
  exact Zc (r2 [0,0,0,0,0,0,0] [.p c1 0,.b false] (.inr ⟨rfl,rfl,(by rw [hE];exact Y0)⟩) (Zg.tup (.cons (Zg.any _) (.cons (lr _) .nil))))
 have hE:=Z18 (ds:=n.decls) (L:=L) (num:=s.num) (args:=s.args) (i:=i) Ze
 refine ak (aD 12 (Y6 6 12 [0,1,2,3,4,5] (.n 73 (.p c1 0) (.n 74 (.p c1 0) (.n 75 (ZE n) (.n 77 (Yz s.kids) (.n 78 (.i i) .r))))) [15,14] [b1,b2] (dx 6 (Zo none (i:Int) 2 (UA hkb)) (ZZ 3 5 [7,8] (.n 80 (Zx kb0) (.n 81 (.i L.vars.length) .r)) (Z9 9 (dc 9 [0,0,0,0,0,0,0] [] [] (ih kb0 c1 wa1 wb1 wc1 wd1 we1 wf1 L L.vars.length q ob (by rw [<-hE];exact hK.1) (by rw [<-hE,hK.2];exact hbt) (by rw [<-hE,hK.2];simp) (by rw [<-hE,hK.2,Yx];omega) ob) ?_))))))
 rintro _ _ (⟨wa4,wb4,wc4,wd4,we4,wf4,M'2,rfl,rfl,YB⟩|⟨rfl,rfl,YN⟩)
 ·refine Xa 0 2 [10,11] [(8,.p c1 0),(9,.b true)] (de ?_)
  exact Zc (r2 [0,0,0,0,0,0,0,0,0,0,0,0,0,0] [.p c1 0,.b true] (.inl ⟨c1,wa4,wb4,wc4,wd4,we4,wf4,M'2,rfl,rfl,(by rw [hE];exact YB)⟩) (lr _))
 refine Xa 0 2 [10,11] [(8,.p c1 0),(9,.b false)] (de ?_)
 exact Zc (r2 [0,0,0,0,0,0,0] [.p c1 0,.b false] (.inr ⟨rfl,rfl,(by rw [hE];exact YN)⟩) (Zg.tup (.cons (Zg.any _) (.cons (lr _) .nil))))
theorem Z1o (b:Nat) (ga:Hd) (gb:Hd) (gc:Hd) (gd:Hd) (ge:Hd) (gf:Hd) (n:Zy) (s:Z4) (L:ZJ) (ln:List Int) (q:Int) (hn:Xe n:=by exact ob) (hk:Xz n.decls L q:=by exact ob) (hf:Am n L.vars s:=by exact ob) (hop:s.op=7∨s.op=8:=by exact ob) (hb:L.vars.length+4*s.sz<=1000000000:=by exact ob) (hq:0<=q/\q+4*s.sz<=999999990:=by exact ob) (hln:ln.length<=4294967296:=by exact ob) (ih:∀(b2:Z7) (c:Nat) (ra:Hd) (rb:Hd) (rc:Hd) (rd:Hd) (re:Hd) (rf:Hd) (M:ZJ) (mm:Nat) (p:Int),(b2.sz<s.sz)->(Xz n.decls M p)->(0<=YR n M.vars b2)->(mm<=M.vars.length)->(M.vars.length+4*b2.sz<=1000000000)->(0<=p/\p+4*b2.sz<=999999990)->Zj Tryz.prog 270 [.p c 0,ZE n,Zx b2,.i mm] [.obj c [.h ra,.h rb,.h rc,.h rd,.h re,.h rf,Z0 ln],rV ra M.vars,rV rb M.own,rV rc M.par,rV rd M.con,rV re M.fst,rV rf M.tok] (fun r h=>(∃(wa:Hd) (wb:Hd) (wc:Hd) (wd:Hd) (we:Hd) (wf:Hd) (M':ZJ),r=.b true/\h=[.obj c [.h wa,.h wb,.h wc,.h wd,.h we,.h wf,Z0 ln],rV wa M'.vars,rV wb M'.own,rV wc M'.par,rV wd M'.con,rV we M'.fst,rV wf M'.tok]/\VC n ln M mm b2=some M')∨(r=.b false/\h=[]/\VC n ln M mm b2=none))):Zj Tryz.prog 235 [.p b 0,ZE n,Y4 s] [.obj b [.h ga,.h gb,.h gc,.h gd,.h ge,.h gf,Z0 ln],rV ga L.vars,rV gb L.own,rV gc L.par,rV gd L.con,rV ge L.fst,rV gf L.tok] (fun r h=>(∃(wa:Hd) (wb:Hd) (wc:Hd) (wd:Hd) (we:Hd) (wf:Hd) (L':ZJ),r=.b true/\h=[.obj b [.h wa,.h wb,.h wc,.h wd,.h we,.h wf,Z0 ln],rV wa L'.vars,rV wb L'.own,rV wc L'.par,rV wd L'.con,rV we L'.fst,rV wf L'.tok]/\As n ln L s=some L')∨(r=.b false/\h=[]/\As n ln L s=none)):=by
 obtain ⟨e1,e2,e3,e4,e5⟩:=hk.len
 have Xu:=hn.decls
 have hkz:=T8 s
 have haz:=Q7 s
 obtain ⟨hk1,hk2,hk3⟩:=hf.kids hop
 obtain ⟨kd,hkd⟩:=Zs (xs:=s.kids) (j:=0) om
 obtain ⟨m0,hm0⟩:=Zs (xs:=X6 n.decls s.op s.num) (j:=0) om
 obtain ⟨x,hxa⟩:=hf.one om
 have ha:s.args[0]? = some x:=by rw [hxa];rfl
 have hx:=hf.args x (by rw [hxa];simp)
 have hgx:=J7 ha
 have hal:=(XM.1 ha).1
 refine ZK 88 Tryz.func235 (ar (iA (ZU n) ?_))
 intro b1
 refine iA (Yg s) ?_
 intro b2
 refine ir 1 [(0,.p b 0),(4,.p b1 0),(5,.p b2 0)] (ie (aq (ar (Xp [(0,.p b 0),(4,.p b1 0),(5,.p b2 0),(23,.b ((s.op==8)&&(!VB L ln x)))] [.obj b [.h ga,.h gb,.h gc,.h gd,.h ge,.h gf,Z0 ln],rV ga L.vars,rV gb L.own,rV gc L.par,rV gd L.con,rV ge L.fst,rV gf L.tok,.obj b2 (Yg s),.obj b1 (ZU n)] ?_ ?_))))
 ·refine iR 4 [(0,.p b 0),(4,.p b1 0),(5,.p b2 0),(15,.b (s.op==8))] [0] [b2] (ib (b:=(s.op==8)) 15 (fun Za=>?_) (fun Za=>?_))
  ·have ZP:s.op=8:=(Zh).1 Za
   refine Y2 3 (.n 16 (.p b 0) (.n 18 (Z0 s.args) (.w .z))) [0] [b2] (Zq (Zo none 0 1 (Y3 ha)) (Z1 1 20 (.i x) (ZA [2,2,2,2,2,2,2] (DS b ga gb gc gd ge gf L ln x (hlk:=hk.len) (hd:=hk.down)) (Z1 2 23 (.b (!VB L ln x)) (ie ?_)))))
   exact ZL 9 (fw (fr (Zr (!VB L ln x) Za fl)))
  have Y0:¬(s.op=8):=ZG Zh Za
  refine Z5 8 (.n 23 (.b false) (.d (.k (.k (.k .z))))) (ie ?_)
  exact wk [2,2,2,2,2,2,2,0,0] (fw (fr (Zr false Za fl)))
 refine ac ((s.op==8)&&(!VB L ln x)) (p:=(s.op=8)/\(¬(VB L ln x=true))) (YE Zh (Yt Iff.rfl)) (fun Ze=>?_) (fun Ze=>?_)
 ·refine ar (ir 1 [(6,.b false)] (ie ?_))
  exact Zc (r1 [] (.inr ⟨rfl,rfl,(by rw [As,Zm (by rw [hgx];exact Ze)])⟩))
 have hgo:=OW (n:=n) (ln:=ln) (L:=L) (s:=s) (by rw [hgx];exact Ze) hkd
 refine ak (ar (iR 3 [(0,.p b 0),(4,.p b1 0),(5,.p b2 0),(25,.p b 0),(26,ZE n),(27,Y4 s)] [8,7] [b1,b2] (ic [0,0,0,0,0,0,0] (LJ b ga gb gc gd ge gf n s L ln q 0 kd m0 (hkb:=hkd) (harm:=hm0) (hbt:=(hk3 0 kd m0 hkd hm0)) (ih:=ob)) ?_)))
 rintro _ _ (⟨c1,wa1,wb1,wc1,wd1,we1,wf1,L'1,rfl,rfl,YB⟩|⟨rfl,rfl,YN⟩)
 ·have hone:=YB
  obtain ⟨l1,l2⟩:=LA hn hk hq.1 hf hop hkd hm0 (hk3 0 kd m0 hkd hm0) hone
  refine Yo 5 7 (.p c1 0) 8 (.b true) (ie (aq (ar (Z1 2 32 (.b false) (ie (WS (ak (aq (ar (Z1 1 9 (.i 1) (ie (ab 0 (al (fun m F h=>∃(k:Nat),(1<=k/\k<=s.kids.length)/\(K4 n ln L s.op s.num s.args L'1 (s.kids.drop k) k=K4 n ln L s.op s.num s.args L'1 (s.kids.drop 1) 1)/\F=[(0,.p b 0),(4,.p b1 0),(5,.p b2 0),(7,.p c1 0),(9,.i k)]/\h=[.obj c1 [.h wa1,.h wb1,.h wc1,.h wd1,.h we1,.h wf1,Z0 ln],rV wa1 L'1.vars,rV wb1 L'1.own,rV wc1 L'1.par,rV wd1 L'1.con,rV we1 L'1.fst,rV wf1 L'1.tok,.obj b [.h ga,.h gb,.h gc,.h gd,.h ge,.h gf,Z0 ln],rV ga L.vars,rV gb L.own,rV gc L.par,rV gd L.con,rV ge L.fst,rV gf L.tok,.obj b2 (Yg s),.obj b1 (ZU n)]/\m=s.kids.length-k) _ _ _ ⟨1,ob,ob,rfl,rfl,rfl⟩ (ZL 16 (fq (fc (x:=.i 1) li fl))) ?_)))))))))))))
  rintro m F h ⟨k,Ym,Zp,rfl,rfl,rfl⟩
  refine aq (ar (Y1 3 33 (.i k) 35 (Yz s.kids) [14] [b2] (iw (VX s.kids) (Z1 1 37 (.b (decide ((k:Int)<(s.kids.length:Int)))) (ie (ZM ((k:Int)<(s.kids.length:Int)) (fun Zk=>?_) (fun Zk=>?_)))))))
  ·obtain ⟨ke,hke⟩:=Zs (xs:=s.kids) (j:=k) om
   obtain ⟨mk,hmk⟩:=Zs (xs:=X6 n.decls s.op s.num) (j:=k) om
   have hcs:=Z1d (n:=n) (ln:=ln) (L:=L) (op:=s.op) (num:=s.num) (args:=s.args) (one:=L'1) hke
   refine ak (aq (ab 1 (ar (Y2 4 (.n 41 (.p b 0) (.n 42 (ZE n) (.n 43 (Y4 s) (.n 44 (.i k) .r)))) [15,14] [b1,b2] (ic [7,7,7,7,7,7,7] (LJ b ga gb gc gd ge gf n s L ln q k ke mk (hkb:=hke) (harm:=hmk) (hbt:=(hk3 k ke mk hke hmk)) (ih:=ob)) ?_)))))
   rintro _ _ (⟨c2,wa2,wb2,wc2,wd2,we2,wf2,L'2,rfl,rfl,YX⟩|⟨rfl,rfl,Xy⟩)
   ·have htwo:=YX
    obtain ⟨l3,l4⟩:=LA hn hk hq.1 hf hop hke hmk (hk3 k ke mk hke hmk) htwo
    refine Yo 5 10 (.p c2 0) 11 (.b true) (ie (aD 26 (Y6 15 26 [0,1,2,3,4,5,6,7,8,9,10] (.n 50 (.b false) (.n 54 (.h wb1) (.n 58 (.h wb2) .r))) [14,0] [c1,c2] (Z9 11 (Kn 11 [16,2] [] [] [rV wb1 L'1.own,rV wb2 L'2.own] (Nl L'1.own L'2.own) Da (gL (v:=wb1) 0 (gL (v:=wb2) 1 gN)) (QE (QE Kx)) ?_)))))
    rintro _ _ ⟨rfl,rfl⟩
    refine KY [(0,.p b 0),(4,.p b1 0),(5,.p b2 0),(7,.p c1 0),(9,.i k),(73,.b ((!(decide (L'1.own=L'2.own)))||(!(decide (L'1.tok=L'2.tok)))))] [rV wb1 L'1.own,rV wb2 L'2.own,.obj c2 [.h wa2,.h wb2,.h wc2,.h wd2,.h we2,.h wf2,Z0 ln],rV wa2 L'2.vars,rV wc2 L'2.par,rV wd2 L'2.con,rV we2 L'2.fst,rV wf2 L'2.tok,.obj b [.h ga,.h gb,.h gc,.h gd,.h ge,.h gf,Z0 ln],rV ga L.vars,rV gb L.own,rV gc L.par,rV gd L.con,rV ge L.fst,rV gf L.tok,.obj c1 [.h wa1,.h wb1,.h wc1,.h wd1,.h we1,.h wf1,Z0 ln],rV wa1 L'1.vars,rV wc1 L'1.par,rV wd1 L'1.con,rV we1 L'1.fst,rV wf1 L'1.tok,.obj b2 (Yg s),.obj b1 (ZU n)] ?_ ?_
    ·refine Xa 11 14 [12,13,14] [(0,.p b 0),(4,.p b1 0),(5,.p b2 0),(7,.p c1 0),(9,.i k),(10,.p c2 0),(62,.b (!(decide (L'1.own=L'2.own))))] (db (b:=(!(decide (L'1.own=L'2.own)))) 62 (fun Zw=>?_) (fun Zw=>?_))
     ·have Wh:¬(L'1.own=L'2.own):=((Yt dq)).1 Zw
      refine ZZ 0 11 [15,16,17,18,19,20,21,22,23,24,25] (.n 73 (.b true) (.d (.w (.k .z)))) (de ?_)
      exact ZL 23 (fq (fr (Zr true Zw fl)))
     have WJ:¬(¬(L'1.own=L'2.own)):=ZG (Yt dq) Zw
     refine Y6 3 11 [15,16,17,18,19,20,21,22] (.n 66 (.h wf1) (.n 70 (.h wf2) (.w (.k (.k .z))))) [15,2] [c1,c2] (Z9 23 (Kn 23 [20,7] [] [] [rV wf1 L'1.tok,rV wf2 L'2.tok] (Nl L'1.tok L'2.tok) Da (gL (v:=wf1) 0 (gL (v:=wf2) 1 gN)) (QE (QE Kx)) ?_))
     rintro _ _ ⟨rfl,rfl⟩
     refine ZY 0 2 [24,25] 73 (.b (!(decide (L'1.tok=L'2.tok)))) (de ?_)
     exact wk [2,2,2,2,2,2,2,1,1,1,1,1,1,1,1,1,1,1,1,1,0,0,0] (fq (fr (Zr (!(decide (L'1.tok=L'2.tok))) Zw fl)))
    refine ac ((!(decide (L'1.own=L'2.own)))||(!(decide (L'1.tok=L'2.tok)))) (p:=(¬(L'1.own=L'2.own))∨(¬(L'1.tok=L'2.tok))) (Yh (Yt dq) (Yt dq)) (fun ZI=>?_) (fun ZI=>?_)
    ·refine ar (ir 1 [(6,.b false)] (ie ?_))
     exact Zc (r1 [] (.inr ⟨rfl,rfl,(by rw [hgo,hone];exact LT (by rw [<-Zp,hcs,htwo];exact Z46 ZI))⟩))
    refine ak (az (ir 1 [(0,.p b 0),(4,.p b1 0),(5,.p b2 0),(7,.p c1 0),(38,.i k)] (ZO k (Z1 1 9 (.i (k+1:Nat)) (ie ?_)))))
    exact ZQ ⟨k+1,ob,(by rw [hcs,htwo,Z47 ZI] at Zp;exact Zp),rfl,rfl,rfl⟩ (wk [15,15,0,14,14,14,14,7,7,7,7,7,7,7,7,7] (fq (ZW k fl)))
   have htwo:=Xy
   refine Z1 5 11 (.b false) (ie (aD 26 (ZY 0 26 [0,1,2,3,4,5,6,7,8,9,10,11,12,13,14,15,16,17,18,19,20,21,22,23,24,25] 73 (.b true) (de (WL (ar (ir 1 [(6,.b false)] (ie ?_))))))))
   exact Zc (r1 [] (.inr ⟨rfl,rfl,(by rw [hgo,hone];exact LT (by rw [<-Zp,hcs,htwo];rfl))⟩))
  have hE:K4 n ln L s.op s.num s.args L'1 (s.kids.drop 1) 1=true:=by rw [<-Zp,Xx om,K4]
  refine ax 0 (ar (Y1 7 78 (.h wb1) 80 (.p b 1) [0] [c1] (ZH 7 b [.h ga,.h wb1,.h gc,.h gd,.h ge,.h gf,Z0 ln] (ie (ar (iR 7 [(85,.h wf1),(87,.p b 5)] [1] [c1] (ZH 0 b [.h ga,.h wb1,.h gc,.h gd,.h ge,.h wf1,Z0 ln] (ie (ar (ir 1 [(6,.b true)] (ie ?_)))))))))))
  exact Zc (r1 [0,7,2,7,7,7,5] (.inl ⟨ga,wb1,gc,gd,ge,wf1,(ZJ.mk L.vars L'1.own L.par L.con L.fst L'1.tok),rfl,rfl,(by rw [hgo,hone];exact Z23 hE)⟩) (eq:=(rc (rv (xs:=L.vars) ob (rv (xs:=L'1.own) ob (rv (xs:=L.par) ob (rv (xs:=L.con) ob (rv (xs:=L.fst) ob (rv (xs:=L'1.tok) ob rz)))))))))
 have hone:=YN
 refine Z1 5 8 (.b false) (ie (aq (ar (Z1 2 32 (.b true) (ie (WL (ar (ir 1 [(6,.b false)] (ie ?_)))))))))
 exact Zc (r1 [] (.inr ⟨rfl,rfl,(by rw [hgo,hone];rfl)⟩))
theorem LK (b:Nat) (ga:Hd) (gb:Hd) (gc:Hd) (gd:Hd) (ge:Hd) (gf:Hd) (n:Zy) (s:Z4) (L:ZJ) (ln:List Int) (q:Int) (hn:Xe n:=by exact ob) (hk:Xz n.decls L q:=by exact ob) (ht:0<=ZT n L.vars s:=by exact ob) (hb:L.vars.length+4*s.sz<=1000000000:=by exact ob) (hq:0<=q/\q+4*s.sz<=999999990:=by exact ob) (hln:ln.length<=4294967296:=by exact ob) (ih:∀(b2:Z7) (c:Nat) (ra:Hd) (rb:Hd) (rc:Hd) (rd:Hd) (re:Hd) (rf:Hd) (M:ZJ) (mm:Nat) (p:Int),(b2.sz<s.sz)->(Xz n.decls M p)->(0<=YR n M.vars b2)->(mm<=M.vars.length)->(M.vars.length+4*b2.sz<=1000000000)->(0<=p/\p+4*b2.sz<=999999990)->Zj Tryz.prog 270 [.p c 0,ZE n,Zx b2,.i mm] [.obj c [.h ra,.h rb,.h rc,.h rd,.h re,.h rf,Z0 ln],rV ra M.vars,rV rb M.own,rV rc M.par,rV rd M.con,rV re M.fst,rV rf M.tok] (fun r h=>(∃(wa:Hd) (wb:Hd) (wc:Hd) (wd:Hd) (we:Hd) (wf:Hd) (M':ZJ),r=.b true/\h=[.obj c [.h wa,.h wb,.h wc,.h wd,.h we,.h wf,Z0 ln],rV wa M'.vars,rV wb M'.own,rV wc M'.par,rV wd M'.con,rV we M'.fst,rV wf M'.tok]/\VC n ln M mm b2=some M')∨(r=.b false/\h=[]/\VC n ln M mm b2=none))):Zj Tryz.prog 204 [.p b 0,ZE n,Y4 s] [.obj b [.h ga,.h gb,.h gc,.h gd,.h ge,.h gf,Z0 ln],rV ga L.vars,rV gb L.own,rV gc L.par,rV gd L.con,rV ge L.fst,rV gf L.tok] (fun r h=>(∃(wa:Hd) (wb:Hd) (wc:Hd) (wd:Hd) (we:Hd) (wf:Hd) (L':ZJ),r=.b true/\h=[.obj b [.h wa,.h wb,.h wc,.h wd,.h we,.h wf,Z0 ln],rV wa L'.vars,rV wb L'.own,rV wc L'.par,rV wd L'.con,rV we L'.fst,rV wf L'.tok]/\TE n ln L s=some L')∨(r=.b false/\h=[]/\TE n ln L s=none)):=by
 obtain ⟨e1,e2,e3,e4,e5⟩:=hk.len
 have Xu:=hn.decls
 have hkz:=T8 s
 have haz:=Q7 s
 have hf:=NC ht
 refine ZK 89 Tryz.func204 (ar (iA (ZU n) ?_))
 intro b1
 refine iA (Yg s) ?_
 intro b2
 refine ir 1 [(0,.p b 0),(4,.p b1 0),(5,.p b2 0)] (ie (aD 8 (Y6 2 8 [0,1,2,3,4,5] (.n 9 (ZE n) (.n 13 (.h ga) (.n 14 (Y4 s) .r))) [1,2,0] [b1,b,b2] (Z9 6 (Kn 6 [3] [] [] [rV ga L.vars] (H0 n L.vars s ob ob) Da (gS (gL (v:=ga) 0 (gS gN))) (QE Kx) ?_)))))
 rintro _ _ ⟨rfl,rfl⟩
 refine ZY 0 1 [7] 7 (.i (ZT n L.vars s)) (de (ar (Z5 1 .r (ie (aq (ar (Yk 2 17 (.i s.op) [1] [b2] (ie (ab 0 (ar (Z1 2 22 (.b (s.op==14)) (ie (ac (s.op==14) Zh (fun Ze=>?_) (fun Ze=>?_))))))))))))))
 ·obtain ⟨x,hxa⟩:=hf.one om
  have ha:s.args[0]? = some x:=by rw [hxa];rfl
  have hx:=hf.args x (by rw [hxa];simp)
  have hgx:=J7 ha
  have hal:=(XM.1 ha).1
  obtain ⟨xo,hxo⟩:=Zs (xs:=L.own) (j:=x.toNat) om
  have hgo:=UQ hxo
  have hob:=hk.bd xo (Y7 hxo)
  have hon:=hk.nn xo (Y7 hxo)
  refine ar (Y1 3 24 (.p b 0) 26 (Z0 s.args) [1] [b2] (Zq (Zo none 0 1 (Y3 ha)) (Z1 1 28 (.i x) (ZA [3,0,2,2,2,2,2] (DS b ga gb gc gd ge gf L ln x (hlk:=hk.len) (hd:=hk.down)) (Z1 1 8 (.b (VB L ln x)) (ie (aE 21 (Y6 15 21 [0,1,2,3,4,5] (.n 33 (.h gb) (.n 35 (Z0 s.args) .r)) [0,7] [b,b2] (dx 6 (Zo none 0 1 (Y3 ha)) (Y6 7 14 [7,8,9,10,11,12,13] (.n 37 (.i x) (.n 41 (.h gb) (.n 43 (Z0 s.args) .r))) [0,7] [b,b2] (dx 14 (Zo none 0 1 (Y3 ha)) (ZY 5 6 [15] 45 (.i x) (dx 16 (Vz 2 gb L.own x x.toNat (hq:=rfl)) (VM 17 (Tp 2 gb L.own x.toNat xo hxo) (da 18 ((xo+1)) ((xo)+(1)) (dx 19 (Vz 2 gb L.own x x.toNat (hq:=rfl)) (Z9 20 (JJ 20 2 [] [] gb L.own x.toNat (xo+1) (de (aq (ar (Z1 2 73 (.b (!VB L ln x)) (ie (ac (!VB L ln x) (p:=¬(VB L ln x=true)) (Yt Iff.rfl) (fun Zk=>?_) (fun Zk=>?_)))))))))))))))))))))))))
  ·have hP:=(Mp (n:=n) (ln:=ln) (L:=L) Ze hgx).trans (PL Zk)
   refine ar (ir 1 [(6,.b false)] (ie ?_))
   exact Zc (r1 [] (.inr ⟨rfl,rfl,(by rw [Uw,hP];first|rfl|exact Uo (by assumption)|exact Up (by assumption) (by assumption)|exact Uq (by assumption))⟩))
  have hP:=(Mp (n:=n) (ln:=ln) (L:=L) Ze hgx).trans (PM Zk hgo)
  obtain ⟨kx,hxv⟩:=CA hn hk hq.1 hf hP
  refine ak (aq (ar (Yk 2 75 (.i s.op) [7] [b2] (ZA [] (QN s.op) (Xp [(0,.p b 0),(5,.p b2 0),(7,.i (ZT n L.vars s)),(80,.b (Xf s.op&&((ZT n L.vars s) != 0)))] [rV gb (L.own.set x.toNat (xo+1)),.obj b [.h ga,.h gb,.h gc,.h gd,.h ge,.h gf,Z0 ln],rV ga L.vars,rV gc L.par,rV gd L.con,rV ge L.fst,rV gf L.tok,.obj b2 (Yg s),.obj b1 (ZU n)] ?_ ?_)))))
  ·refine ir 1 [(0,.p b 0),(5,.p b2 0),(7,.i (ZT n L.vars s)),(77,.b (Xf s.op))] (ib (b:=Xf s.op) 77 (fun Za=>?_) (fun Za=>?_))
   ·have ZP:Xf s.op=true:=(Iff.rfl).1 Za
    refine Z5 3 (.n 80 (.b ((ZT n L.vars s) != 0)) (.d (.k (.k (.k .z))))) (ie ?_)
    exact ZL 9 (fw (fr (Zr ((ZT n L.vars s) != 0) Za fl)))
   have Y0:¬(Xf s.op=true):=ZG Iff.rfl Za
   refine Z5 3 (.n 80 (.b false) (.d (.k (.k (.k .z))))) (ie ?_)
   exact ZL 9 (fw (fr (Zr false Za fl)))
  refine ac (Xf s.op&&((ZT n L.vars s) != 0)) (p:=(Xf s.op=true)/\((ZT n L.vars s)≠0)) (YE Iff.rfl Yc) (fun ZI=>?_) (fun ZI=>?_)
  ·refine az (ir 2 [(81,.p b 0),(82,.i (ZT n L.vars s))] (ic [1,1,0,0,0,0,0] (Qe b ga gb gc gd ge gf (ZJ.mk L.vars (L.own.set x.toNat (xo+1)) L.par L.con L.fst L.tok) ln (ZT n L.vars s) 1 (-1) (hlb:=(by rw [hxv];omega)) (hlk:=kx.len)) ?_))
   rintro _ _ ⟨wa1,wb1,wc1,wd1,we1,wf1,rfl⟩
   refine ie (ar (ir 1 [(6,.b true)] (ie ?_)))
   exact Zc (r1 [0,0,0,0,0,0,0] (.inl ⟨wa1,wb1,wc1,wd1,we1,wf1,((ZJ.mk L.vars (L.own.set x.toNat (xo+1)) L.par L.con L.fst L.tok).grow (ZT n L.vars s) 1 (-1)),rfl,rfl,(by rw [Uw,hP];first|rfl|exact Uo (by assumption)|exact Up (by assumption) (by assumption)|exact Uq (by assumption))⟩))
  refine ar (iR 2 [(0,.p b 0),(85,.i s.op)] [7] [b2] (ZA [] (QN s.op) (ie (ac (Xf s.op) Iff.rfl (fun Yi=>?_) (fun Yi=>?_)))))
  ·refine az (ir 1 [(87,.p b 0)] (ic [1,1,0,0,0,0,0] (Qe b ga gb gc gd ge gf (ZJ.mk L.vars (L.own.set x.toNat (xo+1)) L.par L.con L.fst L.tok) ln 0 0 (-1) (hlb:=(by rw [hxv];omega)) (hlk:=kx.len)) ?_))
   rintro _ _ ⟨wa2,wb2,wc2,wd2,we2,wf2,rfl⟩
   refine ie (ar (ir 1 [(6,.b true)] (ie ?_)))
   exact Zc (r1 [0,0,0,0,0,0,0] (.inl ⟨wa2,wb2,wc2,wd2,we2,wf2,((ZJ.mk L.vars (L.own.set x.toNat (xo+1)) L.par L.con L.fst L.tok).grow 0 0 (-1)),rfl,rfl,(by rw [Uw,hP];first|rfl|exact Uo (by assumption)|exact Up (by assumption) (by assumption)|exact Uq (by assumption))⟩))
  refine ak (ar (ir 1 [(6,.b true)] (ie ?_)))
  exact Zc (r1 [1,1,0,0,0,0,0] (.inl ⟨ga,gb,gc,gd,ge,gf,(ZJ.mk L.vars (L.own.set x.toNat (xo+1)) L.par L.con L.fst L.tok),rfl,rfl,(by rw [Uw,hP];first|rfl|exact Uo (by assumption)|exact Up (by assumption) (by assumption)|exact Uq (by assumption))⟩) (eq:=(rc (rv (xs:=L.vars) ob (rv (xs:=(L.own.set x.toNat (xo+1))) ob (rv (xs:=L.par) ob (rv (xs:=L.con) ob (rv (xs:=L.fst) ob (rv (xs:=L.tok) ob rz)))))))))
 refine ar (Z1 2 50 (.b (s.op==15)) (ie (ac (s.op==15) Zh (fun Xk=>?_) (fun Xk=>?_))))
 ·obtain ⟨x,hxa⟩:=hf.one om
  have ha:s.args[0]? = some x:=by rw [hxa];rfl
  have hx:=hf.args x (by rw [hxa];simp)
  have hgx:=J7 ha
  have hal:=(XM.1 ha).1
  refine az (Y1 3 52 (.p b 0) 54 (Z0 s.args) [1] [b2] (Zq (Zo none 0 1 (Y3 ha)) (Z1 1 56 (.i x) (ic [3,0,2,2,2,2,2] (DT b ga gb gc gd ge gf L ln x (hlk:=hk.len) (hq:=(fun y hy=>⟨hk.nn y hy,by have:=hk.bd y hy;omega⟩))) ?_))))
  rintro _ _ (⟨wa3,wb3,wc3,wd3,we3,wf3,L'1,rfl,rfl,YB⟩|⟨rfl,rfl,YN⟩)
  ·have hP:=(Mq (n:=n) (ln:=ln) (L:=L) Xk hgx).trans (YB)
   obtain ⟨kx,hxv⟩:=CA hn hk hq.1 hf hP
   refine Z1 1 8 (.b true) (ie (aq (ar (Z1 2 73 (.b false) (ie (WS (ak (aq (ar (Yk 2 75 (.i s.op) [7] [b2] (ZA [] (QN s.op) (Xp [(0,.p b 0),(5,.p b2 0),(7,.i (ZT n L.vars s)),(80,.b (Xf s.op&&((ZT n L.vars s) != 0)))] [.obj b [.h wa3,.h wb3,.h wc3,.h wd3,.h we3,.h wf3,Z0 ln],rV wa3 L'1.vars,rV wb3 L'1.own,rV wc3 L'1.par,rV wd3 L'1.con,rV we3 L'1.fst,rV wf3 L'1.tok,.obj b2 (Yg s),.obj b1 (ZU n)] ?_ ?_))))))))))))
   ·refine ir 1 [(0,.p b 0),(5,.p b2 0),(7,.i (ZT n L.vars s)),(77,.b (Xf s.op))] (ib (b:=Xf s.op) 77 (fun Zw=>?_) (fun Zw=>?_))
    ·have YX:Xf s.op=true:=(Iff.rfl).1 Zw
     refine Z5 3 (.n 80 (.b ((ZT n L.vars s) != 0)) (.d (.k (.k (.k .z))))) (ie ?_)
     exact ZL 9 (fw (fr (Zr ((ZT n L.vars s) != 0) Zw fl)))
    have Xy:¬(Xf s.op=true):=ZG Iff.rfl Zw
    refine Z5 3 (.n 80 (.b false) (.d (.k (.k (.k .z))))) (ie ?_)
    exact ZL 9 (fw (fr (Zr false Zw fl)))
   refine ac (Xf s.op&&((ZT n L.vars s) != 0)) (p:=(Xf s.op=true)/\((ZT n L.vars s)≠0)) (YE Iff.rfl Yc) (fun Xl=>?_) (fun Xl=>?_)
   ·refine az (ir 2 [(81,.p b 0),(82,.i (ZT n L.vars s))] (ic [0,0,0,0,0,0,0] (Qe b wa3 wb3 wc3 wd3 we3 wf3 L'1 ln (ZT n L.vars s) 1 (-1) (hlb:=(by rw [hxv];omega)) (hlk:=kx.len)) ?_))
    rintro _ _ ⟨wa4,wb4,wc4,wd4,we4,wf4,rfl⟩
    refine ie (ar (ir 1 [(6,.b true)] (ie ?_)))
    exact Zc (r1 [0,0,0,0,0,0,0] (.inl ⟨wa4,wb4,wc4,wd4,we4,wf4,(L'1.grow (ZT n L.vars s) 1 (-1)),rfl,rfl,(by rw [Uw,hP];first|rfl|exact Uo (by assumption)|exact Up (by assumption) (by assumption)|exact Uq (by assumption))⟩))
   refine ar (iR 2 [(0,.p b 0),(85,.i s.op)] [7] [b2] (ZA [] (QN s.op) (ie (ac (Xf s.op) Iff.rfl (fun Vu=>?_) (fun Vu=>?_)))))
   ·refine az (ir 1 [(87,.p b 0)] (ic [0,0,0,0,0,0,0] (Qe b wa3 wb3 wc3 wd3 we3 wf3 L'1 ln 0 0 (-1) (hlb:=(by rw [hxv];omega)) (hlk:=kx.len)) ?_))
    rintro _ _ ⟨wa5,wb5,wc5,wd5,we5,wf5,rfl⟩
    refine ie (ar (ir 1 [(6,.b true)] (ie ?_)))
    exact Zc (r1 [0,0,0,0,0,0,0] (.inl ⟨wa5,wb5,wc5,wd5,we5,wf5,(L'1.grow 0 0 (-1)),rfl,rfl,(by rw [Uw,hP];first|rfl|exact Uo (by assumption)|exact Up (by assumption) (by assumption)|exact Uq (by assumption))⟩))
   refine ak (ar (ir 1 [(6,.b true)] (ie ?_)))
   exact Zc (r1 [0,0,0,0,0,0,0] (.inl ⟨wa3,wb3,wc3,wd3,we3,wf3,L'1,rfl,rfl,(by rw [Uw,hP];first|rfl|exact Uo (by assumption)|exact Up (by assumption) (by assumption)|exact Uq (by assumption))⟩))
  have hP:=(Mq (n:=n) (ln:=ln) (L:=L) Xk hgx).trans (YN)
  refine Z1 1 8 (.b false) (ie (aq (ar (Z1 2 73 (.b true) (ie (WL (ar (ir 1 [(6,.b false)] (ie ?_)))))))))
  exact Zc (r1 [] (.inr ⟨rfl,rfl,(by rw [Uw,hP];first|rfl|exact Uo (by assumption)|exact Up (by assumption) (by assumption)|exact Uq (by assumption))⟩))
 refine aq (ar (Z1 2 58 (.b (s.op==16)) (ie (XI (fun F h=>F=[(0,.p b 0),(4,.p b1 0),(5,.p b2 0),(7,.i (ZT n L.vars s)),(17,.i s.op),(58,.b ((s.op==16)||(s.op==17)))]/\h=[rV ga L.vars,.obj b2 (Yg s),.obj b1 (ZU n),.obj b [.h ga,.h gb,.h gc,.h gd,.h ge,.h gf,Z0 ln],rV gb L.own,rV gc L.par,rV gd L.con,rV ge L.fst,rV gf L.tok]) ?_ ?_))))
 ·refine ac (s.op==16) Zh (fun Vm=>?_) (fun Vm=>?_)
  ·refine ak ?_
   exact ZV ⟨rfl,rfl⟩ (ZL 9 (fq (fr (fc (x:=.b (s.op==16)) (lb (by first|rfl|(rw [Zm Vm])|(rw [Zb Vm])|(simp [Vm];done)|(rw [Xm];simp [Vm];done)|omega)) fl))))
  refine az (ir 2 [(0,.p b 0),(4,.p b1 0),(5,.p b2 0),(7,.i (ZT n L.vars s)),(17,.i s.op),(58,.b (s.op==17))] (ie ?_))
  exact ZV ⟨rfl,rfl⟩ (ZL 9 (fq (fr (fc (x:=.b (s.op==17)) (lb (by first|rfl|(rw [Zm Vm])|(rw [Zb Vm])|(simp [Vm];done)|(rw [Xm];simp [Vm];done)|omega)) fl))))
 rintro F h ⟨rfl,rfl⟩
 refine ac ((s.op==16)||(s.op==17)) (p:=(s.op=16)∨(s.op=17)) (Yh Zh Zh) (fun VF=>?_) (fun VF=>?_)
 ·obtain ⟨x,hxa⟩:=hf.one om
  have ha:s.args[0]? = some x:=by rw [hxa];rfl
  have hx:=hf.args x (by rw [hxa];simp)
  have hgx:=J7 ha
  have hal:=(XM.1 ha).1
  refine az (iR 3 [(0,.p b 0),(5,.p b2 0),(7,.i (ZT n L.vars s)),(61,.p b 0),(62,ZE n),(63,Y4 s)] [2,1] [b1,b2] (ic [3,0,2,2,2,2,2] (Z1r b ga gb gc gd ge gf n s L ln q x) ?_))
  rintro _ _ (⟨wa6,wb6,wc6,wd6,we6,wf6,L'2,rfl,rfl,Wh⟩|⟨rfl,rfl,WJ⟩)
  ·have hP:=(Mr (n:=n) (ln:=ln) (L:=L) VF hgx).trans (Wh)
   obtain ⟨kx,hxv⟩:=CA hn hk hq.1 hf hP
   refine Z1 1 8 (.b true) (ie (aq (ar (Z1 2 73 (.b false) (ie (WS (ak (aq (ar (Yk 2 75 (.i s.op) [7] [b2] (ZA [] (QN s.op) (Xp [(0,.p b 0),(5,.p b2 0),(7,.i (ZT n L.vars s)),(80,.b (Xf s.op&&((ZT n L.vars s) != 0)))] [.obj b [.h wa6,.h wb6,.h wc6,.h wd6,.h we6,.h wf6,Z0 ln],rV wa6 L'2.vars,rV wb6 L'2.own,rV wc6 L'2.par,rV wd6 L'2.con,rV we6 L'2.fst,rV wf6 L'2.tok,.obj b2 (Yg s),.obj b1 (ZU n)] ?_ ?_))))))))))))
   ·refine ir 1 [(0,.p b 0),(5,.p b2 0),(7,.i (ZT n L.vars s)),(77,.b (Xf s.op))] (ib (b:=Xf s.op) 77 (fun Yw=>?_) (fun Yw=>?_))
    ·have V2:Xf s.op=true:=(Iff.rfl).1 Yw
     refine Z5 3 (.n 80 (.b ((ZT n L.vars s) != 0)) (.d (.k (.k (.k .z))))) (ie ?_)
     exact ZL 9 (fw (fr (Zr ((ZT n L.vars s) != 0) Yw fl)))
    have Ua:¬(Xf s.op=true):=ZG Iff.rfl Yw
    refine Z5 3 (.n 80 (.b false) (.d (.k (.k (.k .z))))) (ie ?_)
    exact ZL 9 (fw (fr (Zr false Yw fl)))
   refine ac (Xf s.op&&((ZT n L.vars s) != 0)) (p:=(Xf s.op=true)/\((ZT n L.vars s)≠0)) (YE Iff.rfl Yc) (fun UD=>?_) (fun UD=>?_)
   ·refine az (ir 2 [(81,.p b 0),(82,.i (ZT n L.vars s))] (ic [0,0,0,0,0,0,0] (Qe b wa6 wb6 wc6 wd6 we6 wf6 L'2 ln (ZT n L.vars s) 1 (-1) (hlb:=(by rw [hxv];omega)) (hlk:=kx.len)) ?_))
    rintro _ _ ⟨wa7,wb7,wc7,wd7,we7,wf7,rfl⟩
    refine ie (ar (ir 1 [(6,.b true)] (ie ?_)))
    exact Zc (r1 [0,0,0,0,0,0,0] (.inl ⟨wa7,wb7,wc7,wd7,we7,wf7,(L'2.grow (ZT n L.vars s) 1 (-1)),rfl,rfl,(by rw [Uw,hP];first|rfl|exact Uo (by assumption)|exact Up (by assumption) (by assumption)|exact Uq (by assumption))⟩))
   refine ar (iR 2 [(0,.p b 0),(85,.i s.op)] [7] [b2] (ZA [] (QN s.op) (ie (ac (Xf s.op) Iff.rfl (fun K1=>?_) (fun K1=>?_)))))
   ·refine az (ir 1 [(87,.p b 0)] (ic [0,0,0,0,0,0,0] (Qe b wa6 wb6 wc6 wd6 we6 wf6 L'2 ln 0 0 (-1) (hlb:=(by rw [hxv];omega)) (hlk:=kx.len)) ?_))
    rintro _ _ ⟨wa8,wb8,wc8,wd8,we8,wf8,rfl⟩
    refine ie (ar (ir 1 [(6,.b true)] (ie ?_)))
    exact Zc (r1 [0,0,0,0,0,0,0] (.inl ⟨wa8,wb8,wc8,wd8,we8,wf8,(L'2.grow 0 0 (-1)),rfl,rfl,(by rw [Uw,hP];first|rfl|exact Uo (by assumption)|exact Up (by assumption) (by assumption)|exact Uq (by assumption))⟩))
   refine ak (ar (ir 1 [(6,.b true)] (ie ?_)))
   exact Zc (r1 [0,0,0,0,0,0,0] (.inl ⟨wa6,wb6,wc6,wd6,we6,wf6,L'2,rfl,rfl,(by rw [Uw,hP];first|rfl|exact Uo (by assumption)|exact Up (by assumption) (by assumption)|exact Uq (by assumption))⟩))
  have hP:=(Mr (n:=n) (ln:=ln) (L:=L) VF hgx).trans (WJ)
  refine Z1 1 8 (.b false) (ie (aq (ar (Z1 2 73 (.b true) (ie (WL (ar (ir 1 [(6,.b false)] (ie ?_)))))))))
  exact Zc (r1 [] (.inr ⟨rfl,rfl,(by rw [Uw,hP];first|rfl|exact Uo (by assumption)|exact Up (by assumption) (by assumption)|exact Uq (by assumption))⟩))
 refine aq (ar (ir 2 [(0,.p b 0),(4,.p b1 0),(5,.p b2 0),(7,.i (ZT n L.vars s)),(17,.i s.op),(65,.b (s.op==7))] (ie (XI (fun F h=>F=[(0,.p b 0),(4,.p b1 0),(5,.p b2 0),(7,.i (ZT n L.vars s)),(65,.b ((s.op==7)||(s.op==8)))]/\h=[rV ga L.vars,.obj b2 (Yg s),.obj b1 (ZU n),.obj b [.h ga,.h gb,.h gc,.h gd,.h ge,.h gf,Z0 ln],rV gb L.own,rV gc L.par,rV gd L.con,rV ge L.fst,rV gf L.tok]) ?_ ?_))))
 ·refine ac (s.op==7) Zh (fun T4=>?_) (fun T4=>?_)
  ·refine ak ?_
   exact ZV ⟨rfl,rfl⟩ (ZL 9 (fq (fc (x:=.b (s.op==7)) (lb (by first|rfl|(rw [Zm T4])|(rw [Zb T4])|(simp [T4];done)|(rw [Xm];simp [T4];done)|omega)) fl)))
  refine az (ir 2 [(0,.p b 0),(4,.p b1 0),(5,.p b2 0),(7,.i (ZT n L.vars s)),(65,.b (s.op==8))] (ie ?_))
  exact ZV ⟨rfl,rfl⟩ (ZL 9 (fq (fc (x:=.b (s.op==8)) (lb (by first|rfl|(rw [Zm T4])|(rw [Zb T4])|(simp [T4];done)|(rw [Xm];simp [T4];done)|omega)) fl)))
 rintro F h ⟨rfl,rfl⟩
 refine ac ((s.op==7)||(s.op==8)) (p:=(s.op=7)∨(s.op=8)) (Yh Zh Zh) (fun Qy=>?_) (fun Qy=>?_)
 ·refine az (iR 3 [(0,.p b 0),(5,.p b2 0),(7,.i (ZT n L.vars s)),(68,.p b 0),(69,ZE n),(70,Y4 s)] [2,1] [b1,b2] (ic [3,0,2,2,2,2,2] (Z1o b ga gb gc gd ge gf n s L ln q (ih:=ob)) ?_))
  rintro _ _ (⟨wa9,wb9,wc9,wd9,we9,wf9,L'3,rfl,rfl,UE⟩|⟨rfl,rfl,Ur⟩)
  ·have hP:=(Ms (n:=n) (ln:=ln) (L:=L) Qy).trans (UE)
   obtain ⟨kx,hxv⟩:=CA hn hk hq.1 hf hP
   refine Z1 1 8 (.b true) (ie (aq (ar (Z1 2 73 (.b false) (ie (WS (ak (aq (ar (Yk 2 75 (.i s.op) [7] [b2] (ZA [] (QN s.op) (Xp [(0,.p b 0),(5,.p b2 0),(7,.i (ZT n L.vars s)),(80,.b (Xf s.op&&((ZT n L.vars s) != 0)))] [.obj b [.h wa9,.h wb9,.h wc9,.h wd9,.h we9,.h wf9,Z0 ln],rV wa9 L'3.vars,rV wb9 L'3.own,rV wc9 L'3.par,rV wd9 L'3.con,rV we9 L'3.fst,rV wf9 L'3.tok,.obj b2 (Yg s),.obj b1 (ZU n)] ?_ ?_))))))))))))
   ·refine ir 1 [(0,.p b 0),(5,.p b2 0),(7,.i (ZT n L.vars s)),(77,.b (Xf s.op))] (ib (b:=Xf s.op) 77 (fun Xg=>?_) (fun Xg=>?_))
    ·have Tm:Xf s.op=true:=(Iff.rfl).1 Xg
     refine Z5 3 (.n 80 (.b ((ZT n L.vars s) != 0)) (.d (.k (.k (.k .z))))) (ie ?_)
     exact ZL 9 (fw (fr (Zr ((ZT n L.vars s) != 0) Xg fl)))
    have T5:¬(Xf s.op=true):=ZG Iff.rfl Xg
    refine Z5 3 (.n 80 (.b false) (.d (.k (.k (.k .z))))) (ie ?_)
    exact ZL 9 (fw (fr (Zr false Xg fl)))
   refine ac (Xf s.op&&((ZT n L.vars s) != 0)) (p:=(Xf s.op=true)/\((ZT n L.vars s)≠0)) (YE Iff.rfl Yc) (fun AG=>?_) (fun AG=>?_)
   ·refine az (ir 2 [(81,.p b 0),(82,.i (ZT n L.vars s))] (ic [0,0,0,0,0,0,0] (Qe b wa9 wb9 wc9 wd9 we9 wf9 L'3 ln (ZT n L.vars s) 1 (-1) (hlb:=(by rw [hxv];omega)) (hlk:=kx.len)) ?_))
    rintro _ _ ⟨wa10,wb10,wc10,wd10,we10,wf10,rfl⟩
    refine ie (ar (ir 1 [(6,.b true)] (ie ?_)))
    exact Zc (r1 [0,0,0,0,0,0,0] (.inl ⟨wa10,wb10,wc10,wd10,we10,wf10,(L'3.grow (ZT n L.vars s) 1 (-1)),rfl,rfl,(by rw [Uw,hP];first|rfl|exact Uo (by assumption)|exact Up (by assumption) (by assumption)|exact Uq (by assumption))⟩))
   refine ar (iR 2 [(0,.p b 0),(85,.i s.op)] [7] [b2] (ZA [] (QN s.op) (ie (ac (Xf s.op) Iff.rfl (fun FW=>?_) (fun FW=>?_)))))
   ·refine az (ir 1 [(87,.p b 0)] (ic [0,0,0,0,0,0,0] (Qe b wa9 wb9 wc9 wd9 we9 wf9 L'3 ln 0 0 (-1) (hlb:=(by rw [hxv];omega)) (hlk:=kx.len)) ?_))
    rintro _ _ ⟨wa11,wb11,wc11,wd11,we11,wf11,rfl⟩
    refine ie (ar (ir 1 [(6,.b true)] (ie ?_)))
    exact Zc (r1 [0,0,0,0,0,0,0] (.inl ⟨wa11,wb11,wc11,wd11,we11,wf11,(L'3.grow 0 0 (-1)),rfl,rfl,(by rw [Uw,hP];first|rfl|exact Uo (by assumption)|exact Up (by assumption) (by assumption)|exact Uq (by assumption))⟩))
   refine ak (ar (ir 1 [(6,.b true)] (ie ?_)))
   exact Zc (r1 [0,0,0,0,0,0,0] (.inl ⟨wa9,wb9,wc9,wd9,we9,wf9,L'3,rfl,rfl,(by rw [Uw,hP];first|rfl|exact Uo (by assumption)|exact Up (by assumption) (by assumption)|exact Uq (by assumption))⟩))
  have hP:=(Ms (n:=n) (ln:=ln) (L:=L) Qy).trans (Ur)
  refine Z1 1 8 (.b false) (ie (aq (ar (Z1 2 73 (.b true) (ie (WL (ar (ir 1 [(6,.b false)] (ie ?_)))))))))
  exact Zc (r1 [] (.inr ⟨rfl,rfl,(by rw [Uw,hP];first|rfl|exact Uo (by assumption)|exact Up (by assumption) (by assumption)|exact Uq (by assumption))⟩))
 refine az (iR 3 [(0,.p b 0),(5,.p b2 0),(7,.i (ZT n L.vars s)),(18,.p b 0),(19,ZE n),(20,Y4 s)] [2,1] [b1,b2] (ic [3,0,2,2,2,2,2] (Z1q b ga gb gc gd ge gf n s L ln q (hnum:=hf.num) (hargs:=hf.args) (hinto:=(fun q=>(hf.into om).2))) ?_))
 rintro _ _ (⟨wa12,wb12,wc12,wd12,we12,wf12,L'4,rfl,rfl,Qz⟩|⟨rfl,rfl,QA⟩)
 ·have hP:=(Mt (n:=n) (ln:=ln) (L:=L) Ze Xk VF Qy).trans (Qz)
  obtain ⟨kx,hxv⟩:=CA hn hk hq.1 hf hP
  refine Z1 1 8 (.b true) (ie (aq (ar (Z1 2 73 (.b false) (ie (WS (ak (aq (ar (Yk 2 75 (.i s.op) [7] [b2] (ZA [] (QN s.op) (Xp [(0,.p b 0),(5,.p b2 0),(7,.i (ZT n L.vars s)),(80,.b (Xf s.op&&((ZT n L.vars s) != 0)))] [.obj b [.h wa12,.h wb12,.h wc12,.h wd12,.h we12,.h wf12,Z0 ln],rV wa12 L'4.vars,rV wb12 L'4.own,rV wc12 L'4.par,rV wd12 L'4.con,rV we12 L'4.fst,rV wf12 L'4.tok,.obj b2 (Yg s),.obj b1 (ZU n)] ?_ ?_))))))))))))
  ·refine ir 1 [(0,.p b 0),(5,.p b2 0),(7,.i (ZT n L.vars s)),(77,.b (Xf s.op))] (ib (b:=Xf s.op) 77 (fun W9=>?_) (fun W9=>?_))
   ·have Je:Xf s.op=true:=(Iff.rfl).1 W9
    refine Z5 3 (.n 80 (.b ((ZT n L.vars s) != 0)) (.d (.k (.k (.k .z))))) (ie ?_)
    exact ZL 9 (fw (fr (Zr ((ZT n L.vars s) != 0) W9 fl)))
   have QB:¬(Xf s.op=true):=ZG Iff.rfl W9
   refine Z5 3 (.n 80 (.b false) (.d (.k (.k (.k .z))))) (ie ?_)
   exact ZL 9 (fw (fr (Zr false W9 fl)))
  refine ac (Xf s.op&&((ZT n L.vars s) != 0)) (p:=(Xf s.op=true)/\((ZT n L.vars s)≠0)) (YE Iff.rfl Yc) (fun FX=>?_) (fun FX=>?_)
  ·refine az (ir 2 [(81,.p b 0),(82,.i (ZT n L.vars s))] (ic [0,0,0,0,0,0,0] (Qe b wa12 wb12 wc12 wd12 we12 wf12 L'4 ln (ZT n L.vars s) 1 (-1) (hlb:=(by rw [hxv];omega)) (hlk:=kx.len)) ?_))
   rintro _ _ ⟨wa13,wb13,wc13,wd13,we13,wf13,rfl⟩
   refine ie (ar (ir 1 [(6,.b true)] (ie ?_)))
   exact Zc (r1 [0,0,0,0,0,0,0] (.inl ⟨wa13,wb13,wc13,wd13,we13,wf13,(L'4.grow (ZT n L.vars s) 1 (-1)),rfl,rfl,(by rw [Uw,hP];first|rfl|exact Uo (by assumption)|exact Up (by assumption) (by assumption)|exact Uq (by assumption))⟩))
  refine ar (iR 2 [(0,.p b 0),(85,.i s.op)] [7] [b2] (ZA [] (QN s.op) (ie (ac (Xf s.op) Iff.rfl (fun K3=>?_) (fun K3=>?_)))))
  ·refine az (ir 1 [(87,.p b 0)] (ic [0,0,0,0,0,0,0] (Qe b wa12 wb12 wc12 wd12 we12 wf12 L'4 ln 0 0 (-1) (hlb:=(by rw [hxv];omega)) (hlk:=kx.len)) ?_))
   rintro _ _ ⟨wa14,wb14,wc14,wd14,we14,wf14,rfl⟩
   refine ie (ar (ir 1 [(6,.b true)] (ie ?_)))
   exact Zc (r1 [0,0,0,0,0,0,0] (.inl ⟨wa14,wb14,wc14,wd14,we14,wf14,(L'4.grow 0 0 (-1)),rfl,rfl,(by rw [Uw,hP];first|rfl|exact Uo (by assumption)|exact Up (by assumption) (by assumption)|exact Uq (by assumption))⟩))
  refine ak (ar (ir 1 [(6,.b true)] (ie ?_)))
  exact Zc (r1 [0,0,0,0,0,0,0] (.inl ⟨wa12,wb12,wc12,wd12,we12,wf12,L'4,rfl,rfl,(by rw [Uw,hP];first|rfl|exact Uo (by assumption)|exact Up (by assumption) (by assumption)|exact Uq (by assumption))⟩))
 have hP:=(Mt (n:=n) (ln:=ln) (L:=L) Ze Xk VF Qy).trans (QA)
 refine Z1 1 8 (.b false) (ie (aq (ar (Z1 2 73 (.b true) (ie (WL (ar (ir 1 [(6,.b false)] (ie ?_)))))))))
 exact Zc (r1 [] (.inr ⟨rfl,rfl,(by rw [Uw,hP];first|rfl|exact Uo (by assumption)|exact Up (by assumption) (by assumption)|exact Uq (by assumption))⟩))
theorem Z1m (c:Nat) (ga:Hd) (gb:Hd) (gc:Hd) (gd:Hd) (ge:Hd) (gf:Hd) (n:Zy) (b:Z7) (L:ZJ) (ln:List Int) (q:Int) (mm:Nat) (hn:Xe n) (hk:Xz n.decls L q) (ht:0<=YR n L.vars b) (hm:mm<=L.vars.length) (hb:L.vars.length+4*b.sz<=1000000000) (hq:0<=q/\q+4*b.sz<=999999990) (hln:ln.length<=4294967296) (ih:∀(s2:Z4) (c:Nat) (ra:Hd) (rb:Hd) (rc:Hd) (rd:Hd) (re:Hd) (rf:Hd) (M:ZJ) (p:Int),(s2.sz<b.sz)->(Xz n.decls M p)->(0<=ZT n M.vars s2)->(M.vars.length+4*s2.sz<=1000000000)->(0<=p/\p+4*s2.sz<=999999990)->Zj Tryz.prog 204 [.p c 0,ZE n,Y4 s2] [.obj c [.h ra,.h rb,.h rc,.h rd,.h re,.h rf,Z0 ln],rV ra M.vars,rV rb M.own,rV rc M.par,rV rd M.con,rV re M.fst,rV rf M.tok] (fun r h=>(∃(wa:Hd) (wb:Hd) (wc:Hd) (wd:Hd) (we:Hd) (wf:Hd) (M':ZJ),r=.b true/\h=[.obj c [.h wa,.h wb,.h wc,.h wd,.h we,.h wf,Z0 ln],rV wa M'.vars,rV wb M'.own,rV wc M'.par,rV wd M'.con,rV we M'.fst,rV wf M'.tok]/\TE n ln M s2=some M')∨(r=.b false/\h=[]/\TE n ln M s2=none))):Zj Tryz.prog 270 [.p c 0,ZE n,Zx b,.i mm] [.obj c [.h ga,.h gb,.h gc,.h gd,.h ge,.h gf,Z0 ln],rV ga L.vars,rV gb L.own,rV gc L.par,rV gd L.con,rV ge L.fst,rV gf L.tok] (fun r h=>(∃(wa:Hd) (wb:Hd) (wc:Hd) (wd:Hd) (we:Hd) (wf:Hd) (L':ZJ),r=.b true/\h=[.obj c [.h wa,.h wb,.h wc,.h wd,.h we,.h wf,Z0 ln],rV wa L'.vars,rV wb L'.own,rV wc L'.par,rV wd L'.con,rV we L'.fst,rV wf L'.tok]/\VC n ln L mm b=some L')∨(r=.b false/\h=[]/\VC n ln L mm b=none)):=by
 have hbz:=b.sz_eq
 obtain ⟨vs,rt,hvs,hres,hrt⟩:=HM ht
 have hri:=JF hres
 have XC:=Vx b
 refine ZK 45 Tryz.func270 (ar (iA (ZU n) ?_))
 intro b1
 refine iA (Yn b) ?_
 intro b2
 refine ir 1 [(0,.p c 0),(3,.i mm),(5,.p b1 0),(6,.p b2 0)] (ie (aq (ar (Z1 1 9 (.i 0) (ie (ab 0 (al (fun m F h=>∃(k:Nat) (q2:Int) (L2:ZJ) (ka:Hd) (kb:Hd) (kc:Hd) (kd:Hd) (ke:Hd) (kf:Hd),(k<=b.steps.length)/\(Xz n.decls L2 q2)/\(0<=q2/\q2+4*Yu (b.steps.drop k)<=999999990)/\(L2.vars.length+4*Yu (b.steps.drop k)<=1000000000)/\(V7 n (b.steps.drop k) L2.vars=some vs)/\(Ka n ln L2 (b.steps.drop k)=Ka n ln L b.steps)/\(L.vars.length<=L2.vars.length)/\F=[(0,.p c 0),(3,.i mm),(5,.p b1 0),(6,.p b2 0),(9,.i k)]/\h=[.obj b2 (Yn b),.obj b1 (ZU n),.obj c [.h ka,.h kb,.h kc,.h kd,.h ke,.h kf,Z0 ln],rV ka L2.vars,rV kb L2.own,rV kc L2.par,rV kd L2.con,rV ke L2.fst,rV kf L2.tok]/\m=b.steps.length-k) _ _ _ ⟨0,q,L,ga,gb,gc,gd,ge,gf,ob,hk,(by rw [Jr];omega),(by rw [Jr];omega),hvs,rfl,om,rfl,rfl,rfl⟩ (ZL 9 (fq (Ye fl))) ?_)))))))
 rintro m F h ⟨k,q2,L2,ka,kb,kc,kd,ke,kf,Ym,Zp,Zz,YJ,Wd,KV,Z7p,rfl,rfl,rfl⟩
 refine aq (ar (Y1 3 10 (.i k) 12 (Yj b.steps) [0] [b2] (iw (VE b.steps) (Z1 1 14 (.b (decide ((k:Int)<(b.steps.length:Int)))) (ie (ZM ((k:Int)<(b.steps.length:Int)) (fun Ze=>?_) (fun Ze=>?_)))))))
 ·obtain ⟨s1,hs1⟩:=Zs (xs:=b.steps) (j:=k) om
  have hss:=KJ hs1
  have hdr:=Yb hs1
  have hz:Yu (b.steps.drop k)=s1.sz+Yu (b.steps.drop (k+1)):=by rw [hdr,Yu]
  rw [hdr] at Wd KV
  obtain ⟨g1,g2⟩:=NE Wd
  refine ak (aq (ab 1 (aD 9 (Y6 4 9 [0,1,2,3,4] (.n 17 (.p c 0) (.n 18 (ZE n) (.n 20 (Yj b.steps) (.n 21 (.i k) .r)))) [1,0] [b1,b2] (dx 5 (Zo none (k:Int) 5 (Wy hs1)) (ZY 2 3 [6] 23 (Y4 s1) (Z9 7 (dc 7 [2,2,2,2,2,2,2] [] [] (ih s1 c ka kb kc kd ke kf L2 q2 ob Zp g1 om om) ?_))))))))
  rintro _ _ (⟨wa1,wb1,wc1,wd1,we1,wf1,M'1,rfl,rfl,ZP⟩|⟨rfl,rfl,Y0⟩)
  ·have hP:=ZP
   have kx:=NB hn Zp Zz.1 g1 hP
   refine ZY 0 1 [8] 25 (.b false) (de (WS (ak (az (Z1 1 15 (.i k) (ZO k (ir 1 [(0,.p c 0),(3,.i mm),(5,.p b1 0),(6,.p b2 0),(9,.i (k+1:Nat))] (ie ?_))))))))
   exact ZQ ⟨k+1,(q2+4*s1.sz),M'1,wa1,wb1,wc1,wd1,we1,wf1,ob,kx.1,om,(by rw [kx.2];have:=MV n L2.vars s1;omega),(by rw [kx.2];exact g2),(by rw [<-KV,Ka,hP];rfl),(by rw [kx.2];have:=MV n L2.vars s1;omega),rfl,rfl,rfl⟩ (wk [7,7,0,0,0,0,0,0,0] (fq (ZW k fl)))
  have hP:=Y0
  refine ZY 0 1 [8] 25 (.b true) (de (WL (ar (ir 1 [(8,.b false)] (ie ?_)))))
  exact Zc (r1 [] (.inr ⟨rfl,rfl,(by rw [EY,<-KV,Ka,hP];rfl)⟩))
 rw [Xx om] at Wd KV
 have hvv:L2.vars=vs:=by rw [V7] at Wd;exact Jv Wd
 have hB:VC n ln L mm b=Ks mm b.result L2:=by rw [EY,<-KV,Ka];rfl
 obtain ⟨xr,hxr⟩:=Zs (xs:=L2.vars) (j:=b.result.toNat) (by rw [hvv];omega)
 have hgr:=UQ hxr
 have hrl:0<=b.result/\b.result<L2.vars.length:=by rw [hvv];omega
 rw [V7] at Wd
 refine ax 0 (aq (aD 16 (Y6 10 16 [0,1,2,3,4,5] (.n 29 (.h ka) (.n 31 (.i b.result) .r)) [2,0] [c,b2] (dx 6 (Vz 3 ka L2.vars b.result b.result.toNat (hq:=rfl)) (VM 7 (Tp 3 ka L2.vars b.result.toNat xr hxr) (ZY 6 8 [8,9] 35 (.b (xr != 0)) (db (b:=(xr != 0)) 35 (fun Za=>?_) (fun Za=>?_))))))))
 ·have YB:xr≠0:=(Yc).1 Za
  refine Y6 3 6 [10,11,12] (.n 36 (.p c 0) (.n 38 (.i b.result) (.k (.d .r)))) [0] [b2] (Z9 13 (dc 13 [2,2,2,2,2,2,2] [] [] (DT c ka kb kc kd ke kf L2 ln b.result (hlk:=Zp.len) (hq:=(fun y hy=>⟨Zp.nn y hy,by have:=Zp.bd y hy;omega⟩))) ?_))
  rintro _ _ (⟨wa2,wb2,wc2,wd2,we2,wf2,L'1,rfl,rfl,YN⟩|⟨rfl,rfl,YX⟩)
  ·have hE:=hB.trans (R8 hgr (by assumption) YN)
   have kx:=Zp.take YN
   have hxv:L'1.vars.length=L2.vars.length:=by rw [(Kb YN).2.1]
   refine ZY 0 2 [14,15] 41 (.b false) (de (WS (ak (ar (ir 2 [(42,.p c 0),(43,.i mm)] (ic [0,0,0,0,0,0,0] (LI c wa2 wb2 wc2 wd2 we2 wf2 L'1 ln mm (hlk:=(by first|exact kx.len|exact Zp.len)) (hlb:=om) (hm:=om)) ?_))))))
   rintro _ _ (⟨wa3,wb3,wc3,wd3,we3,wf3,L'2,rfl,rfl,Xy⟩|⟨rfl,rfl,Wh⟩)
   ·refine ir 1 [(8,.b true)] (ie ?_)
    exact Zc (r1 [0,0,0,0,0,0,0] (.inl ⟨wa3,wb3,wc3,wd3,we3,wf3,L'2,rfl,rfl,(by first|exact hE|(rw [hE];exact Xy)|(rw [hB,C1 hgr (by assumption)];exact Xy))⟩))
   refine ir 1 [(8,.b false)] (ie ?_)
   exact Zc (r1 [] (.inr ⟨rfl,rfl,(by first|exact hE|(rw [hE];exact Wh)|(rw [hB,C1 hgr (by assumption)];exact Wh))⟩))
  have hE:=hB.trans (R7 hgr (by assumption) YX)
  refine ZY 0 2 [14,15] 41 (.b true) (de (WL (ar (ir 1 [(8,.b false)] (ie ?_)))))
  exact Zc (r1 [] (.inr ⟨rfl,rfl,(by first|exact hE|(rw [hE];exact YX)|(rw [hB,C1 hgr (by assumption)];exact YX))⟩))
 have WJ:¬(xr≠0):=ZG Yc Za
 refine ZZ 0 6 [10,11,12,13,14,15] (.n 41 (.b false) (.k (.d .r))) (de (WS (ak (ar (ir 2 [(42,.p c 0),(43,.i mm)] (ic [2,2,2,2,2,2,2] (LI c ka kb kc kd ke kf L2 ln mm (hlk:=(by first|exact kx.len|exact Zp.len)) (hlb:=om) (hm:=om)) ?_))))))
 rintro _ _ (⟨wa4,wb4,wc4,wd4,we4,wf4,L'3,rfl,rfl,V2⟩|⟨rfl,rfl,Ua⟩)
 ·refine ir 1 [(8,.b true)] (ie ?_)
  exact Zc (r1 [0,0,0,0,0,0,0] (.inl ⟨wa4,wb4,wc4,wd4,we4,wf4,L'3,rfl,rfl,(by first|exact hE|(rw [hE];exact V2)|(rw [hB,C1 hgr (by assumption)];exact V2))⟩))
 refine ir 1 [(8,.b false)] (ie ?_)
 exact Zc (r1 [] (.inr ⟨rfl,rfl,(by first|exact hE|(rw [hE];exact Ua)|(rw [hB,C1 hgr (by assumption)];exact Ua))⟩))
theorem Z1n (n:Zy) (ln:List Int) (hn:Xe n) (hln:ln.length<=4294967296) (m:Nat):∀(b2:Z7) (c:Nat) (ra:Hd) (rb:Hd) (rc:Hd) (rd:Hd) (re:Hd) (rf:Hd) (M:ZJ) (mm:Nat) (p:Int),(b2.sz<m+1)->(Xz n.decls M p)->(0<=YR n M.vars b2)->(mm<=M.vars.length)->(M.vars.length+4*b2.sz<=1000000000)->(0<=p/\p+4*b2.sz<=999999990)->Zj Tryz.prog 270 [.p c 0,ZE n,Zx b2,.i mm] [.obj c [.h ra,.h rb,.h rc,.h rd,.h re,.h rf,Z0 ln],rV ra M.vars,rV rb M.own,rV rc M.par,rV rd M.con,rV re M.fst,rV rf M.tok] (fun r h=>(∃(wa:Hd) (wb:Hd) (wc:Hd) (wd:Hd) (we:Hd) (wf:Hd) (M':ZJ),r=.b true/\h=[.obj c [.h wa,.h wb,.h wc,.h wd,.h we,.h wf,Z0 ln],rV wa M'.vars,rV wb M'.own,rV wc M'.par,rV wd M'.con,rV we M'.fst,rV wf M'.tok]/\VC n ln M mm b2=some M')∨(r=.b false/\h=[]/\VC n ln M mm b2=none)):=by
 induction m with
 | zero=>intro b c ga gb gc gd ge gf L mm q h;have:=b.sz_pos;omega
 | succ m ih=>
  intro b c ga gb gc gd ge gf L mm q h1 hk ht hm hb hp
  exact Z1m c ga gb gc gd ge gf n b L ln q mm hn hk ht hm hb hp hln fun s c ga gb gc gd ge gf L q h2 hk ht hb hp=>LK c ga gb gc gd ge gf n s L ln q hn hk ht hb hp hln
   fun b2 c ga gb gc gd ge gf L mm q h3 hk ht hm hb hp=>ih b2 c ga gb gc gd ge gf L mm q om hk ht hm hb hp
theorem Z1t (n:Zy) (ln:List Int) (hn:Xe n) (hln:ln.length<=4294967296) (m:Nat):∀(s2:Z4) (c:Nat) (ra:Hd) (rb:Hd) (rc:Hd) (rd:Hd) (re:Hd) (rf:Hd) (M:ZJ) (p:Int),(s2.sz<m+1)->(Xz n.decls M p)->(0<=ZT n M.vars s2)->(M.vars.length+4*s2.sz<=1000000000)->(0<=p/\p+4*s2.sz<=999999990)->Zj Tryz.prog 204 [.p c 0,ZE n,Y4 s2] [.obj c [.h ra,.h rb,.h rc,.h rd,.h re,.h rf,Z0 ln],rV ra M.vars,rV rb M.own,rV rc M.par,rV rd M.con,rV re M.fst,rV rf M.tok] (fun r h=>(∃(wa:Hd) (wb:Hd) (wc:Hd) (wd:Hd) (we:Hd) (wf:Hd) (M':ZJ),r=.b true/\h=[.obj c [.h wa,.h wb,.h wc,.h wd,.h we,.h wf,Z0 ln],rV wa M'.vars,rV wb M'.own,rV wc M'.par,rV wd M'.con,rV we M'.fst,rV wf M'.tok]/\TE n ln M s2=some M')∨(r=.b false/\h=[]/\TE n ln M s2=none)):=by
 intro s c ga gb gc gd ge gf L q h2 hk ht hb hp
 exact LK c ga gb gc gd ge gf n s L ln q hn hk ht hb hp hln fun b2 c ga gb gc gd ge gf L mm q h3 hk ht hm hb hp=>Z1n n ln hn hln m b2 c ga gb gc gd ge gf L mm q om hk ht hm hb hp
theorem Z1s (c:Nat) (ra:Hd) (rb:Hd) (rc:Hd) (rd:Hd) (re:Hd) (rf:Hd) (n:Zy) (s2:Z4) (M:ZJ) (ln:List Int) (p:Int) (hn:Xe n) (hln:ln.length<=4294967296) (hk:Xz n.decls M p) (ht:0<=ZT n M.vars s2) (hb:M.vars.length+4*s2.sz<=1000000000) (hp:0<=p/\p+4*s2.sz<=999999990):Zj Tryz.prog 204 [.p c 0,ZE n,Y4 s2] [.obj c [.h ra,.h rb,.h rc,.h rd,.h re,.h rf,Z0 ln],rV ra M.vars,rV rb M.own,rV rc M.par,rV rd M.con,rV re M.fst,rV rf M.tok] (fun r h=>(∃(wa:Hd) (wb:Hd) (wc:Hd) (wd:Hd) (we:Hd) (wf:Hd) (M':ZJ),r=.b true/\h=[.obj c [.h wa,.h wb,.h wc,.h wd,.h we,.h wf,Z0 ln],rV wa M'.vars,rV wb M'.own,rV wc M'.par,rV wd M'.con,rV we M'.fst,rV wf M'.tok]/\TE n ln M s2=some M')∨(r=.b false/\h=[]/\TE n ln M s2=none)):=Z1t n ln hn hln s2.sz s2 c ra rb rc rd re rf M p om hk ht hb hp
theorem Z55 (rt:Yf) (hp:rt.params.length<=1000000:=by exact ob) (hl:rt.lent.length<=4294967296:=by exact ob):Zj Tryz.prog 203 [WZ rt] [] (fun r h=>∃(c:Nat) (wa:Hd) (wb:Hd) (wc:Hd) (wd:Hd) (we:Hd) (wf:Hd),r=.p c 0/\h=[.obj c [.h wa,.h wb,.h wc,.h wd,.h we,.h wf,Z0 rt.lent],rV wa ((QH rt).vars),rV wb ((QH rt).own),rV wc ((QH rt).par),rV wd ((QH rt).con),rV we ((QH rt).fst),rV wf ((QH rt).tok)]):=by
 refine ZK 45 Tryz.func203 (ar (iA (VO rt) ?_))
 intro b1
 refine ir 1 [(1,.p b1 0)] (ie (ar (Yk 2 6 (Z0 rt.lent) [0] [b1] (ic [] (VJ rt.lent) ?_))))
 rintro _ _ ⟨v1,rfl,rfl⟩
 refine Z1 1 8 (.agg [nl,nl,nl,nl,nl,nl,Z0 rt.lent]) (iA [nl,nl,nl,nl,nl,nl,Z0 rt.lent] ?_)
 intro b2
 refine XK (Z6m 0 b2 [nl,nl,nl,nl,nl,nl,Z0 rt.lent] [.h hN,.h hN,.h hN,.h hN,.h hN,.h hN,Z0 rt.lent] (.cons (Zg.hd (v:=hN)) (.cons (Zg.hd (v:=hN)) (.cons (Zg.hd (v:=hN)) (.cons (Zg.hd (v:=hN)) (.cons (Zg.hd (v:=hN)) (.cons (Zg.hd (v:=hN)) (.cons (lr _) .nil)))))))) (XK (AU) (XK (AU) (XK (AU) (XK (AU) (XK (AU) (XK (AU) (Z1 1 3 (.p b2 0) (ie (aq (ar (Z1 1 4 (.i 0) (ie (ab 0 (al (fun m F h=>∃(k:Nat) (L2:ZJ) (ka:Hd) (kb:Hd) (kc:Hd) (kd:Hd) (ke:Hd) (kf:Hd),(k<=rt.params.length)/\(Uz L2)/\(L2.vars.length=k)/\(Jm rt.lent (rt.params.drop k) k L2=QH rt)/\F=[(1,.p b1 0),(3,.p b2 0),(4,.i k)]/\h=[.obj b2 [.h ka,.h kb,.h kc,.h kd,.h ke,.h kf,Z0 rt.lent],.obj b1 (VO rt),rV ka L2.vars,rV kb L2.own,rV kc L2.par,rV kd L2.con,rV ke L2.fst,rV kf L2.tok]/\m=rt.params.length-k) _ _ _ ⟨0,(ZJ.mk [] [] [] [] [] []),hN,hN,hN,hN,hN,hN,ob,⟨rfl,rfl,rfl,rfl,rfl⟩,rfl,rfl,rfl,rfl,rfl⟩ (wk [6,7,0,0,0,0,0,0] (fw (Ye fl)) (e:=(rc (rc (rv (xs:=[]) ob (rv (xs:=[]) ob (rv (xs:=[]) ob (rv (xs:=[]) ob (rv (xs:=[]) ob (rv (xs:=[]) ob rz)))))))))) ?_))))))))))))))
 rintro m F h ⟨k,L2,ka,kb,kc,kd,ke,kf,Ym,Zp,Zz,YJ,rfl,rfl,rfl⟩
 refine aq (ar (Y1 3 10 (.i k) 12 (Z0 rt.params) [1] [b1] (iw (Yd rt.params) (Z1 1 14 (.b (decide ((k:Int)<(rt.params.length:Int)))) (ie (ZM ((k:Int)<(rt.params.length:Int)) (fun Ze=>?_) (fun Ze=>?_)))))))
 ·refine ak (aq (ab 1 (ar (Y1 3 18 (Z0 rt.params) 19 (.i k) [1] [b1] ?_))))
  obtain ⟨x1,Z3⟩:=Zs (xs:=rt.params) (j:=k) om
  refine Zq (Zo none (k:Int) 1 (Y3 Z3)) (Xp [(1,.p b1 0),(3,.p b2 0),(4,.i k),(29,.b ((x1 != 0)&&(!(decide ((k:Int)∈rt.lent)))))] [.obj b2 [.h ka,.h kb,.h kc,.h kd,.h ke,.h kf,Z0 rt.lent],.obj b1 (VO rt),rV ka L2.vars,rV kb L2.own,rV kc L2.par,rV kd L2.con,rV ke L2.fst,rV kf L2.tok] ?_ ?_)
  ·refine ir 3 [(1,.p b1 0),(3,.p b2 0),(4,.i k),(23,.b (x1 != 0))] (ib (b:=(x1 != 0)) 23 (fun Za=>?_) (fun Za=>?_))
   ·have ZP:x1≠0:=(Yc).1 Za
    refine Y2 3 (.n 25 (Z0 rt.lent) (.n 26 (.i k) (.w .z))) [1] [b1] (ZA [] (U0 rt.lent (k:Int)) (Z1 2 29 (.b (!(decide ((k:Int)∈rt.lent)))) (ie ?_)))
    exact ZL 8 (fw (fr (Zr (!(decide ((k:Int)∈rt.lent))) Za fl)))
   have Y0:¬(x1≠0):=ZG Yc Za
   refine Z5 6 (.n 29 (.b false) (.d (.k (.k (.k .z))))) (ie ?_)
   exact ZL 8 (fw (fr (Zr false Za fl)))
  refine ac ((x1 != 0)&&(!(decide ((k:Int)∈rt.lent)))) (p:=(x1≠0)/\(¬((k:Int)∈rt.lent))) (YE Yc (Yt dq)) (fun Zk=>?_) (fun Zk=>?_)
  ·refine az (iR 4 [(1,.p b1 0),(3,.p b2 0),(4,.i k),(30,.p b2 0),(32,Z0 rt.params),(33,.i k)] [1] [b1] (Zq (Zo none (k:Int) 1 (Y3 Z3)) (Z1 1 35 (.i x1) (ic [0,1,1,1,1,1,1] (Qe b2 ka kb kc kd ke kf L2 rt.lent x1 1 (-1) (hlk:=Zp)) ?_))))
   rintro _ _ ⟨wa1,wb1,wc1,wd1,we1,wf1,rfl⟩
   refine ie (az (Z5 1 (.n 15 (.i k) (.p .r)) (ZO k (ir 1 [(1,.p b1 0),(3,.p b2 0),(4,.i (k+1:Nat))] (ie ?_)))))
   exact ZQ ⟨k+1,(L2.grow x1 1 (-1)),wa1,wb1,wc1,wd1,we1,wf1,ob,(Uz.grow Zp),(by simp [ZJ.grow];omega),(by rw [Yb Z3,Jm] at YJ;first|(rw [Zm Zk] at YJ;exact YJ)|(rw [Zb Zk] at YJ;exact YJ)),rfl,rfl,rfl⟩ (wk [0,6,0,0,0,0,0,0] (fw (ZW k fl)))
  refine az (iR 4 [(1,.p b1 0),(3,.p b2 0),(4,.i k),(37,.p b2 0),(39,Z0 rt.params),(40,.i k)] [1] [b1] (Zq (Zo none (k:Int) 1 (Y3 Z3)) (Z1 1 42 (.i x1) (ic [0,1,1,1,1,1,1] (Qe b2 ka kb kc kd ke kf L2 rt.lent x1 0 (-1) (hlk:=Zp)) ?_))))
  rintro _ _ ⟨wa2,wb2,wc2,wd2,we2,wf2,rfl⟩
  refine ie (az (Z5 1 (.n 15 (.i k) (.p .r)) (ZO k (ir 1 [(1,.p b1 0),(3,.p b2 0),(4,.i (k+1:Nat))] (ie ?_)))))
  exact ZQ ⟨k+1,(L2.grow x1 0 (-1)),wa2,wb2,wc2,wd2,we2,wf2,ob,(Uz.grow Zp),(by simp [ZJ.grow];omega),(by rw [Yb Z3,Jm] at YJ;first|(rw [Zm Zk] at YJ;exact YJ)|(rw [Zb Zk] at YJ;exact YJ)),rfl,rfl,rfl⟩ (wk [0,6,0,0,0,0,0,0] (fw (ZW k fl)))
 refine ax 0 (ar (ir 2 [(2,.p b2 0)] (ie ?_)))
 have hNl:L2=QH rt:=by rw [<-YJ,Xx om];rfl
 exact Zc (r1 [0,1,1,1,1,1,1] ⟨b2,ka,kb,kc,kd,ke,kf,rfl,rfl⟩ (eq:=(rc (rv (xs:=L2.vars) (by rw [hNl]) (rv (xs:=L2.own) (by rw [hNl]) (rv (xs:=L2.par) (by rw [hNl]) (rv (xs:=L2.con) (by rw [hNl]) (rv (xs:=L2.fst) (by rw [hNl]) (rv (xs:=L2.tok) (by rw [hNl]) rz)))))))))
theorem S5 (n:Zy) (f0:Nat) (k0:Nat) (rt:Yf) (hz:Q5 n:=by exact ob) (hr:n.routines[f0]? = some rt:=by exact ob) (hk0:k0<=rt.body.steps.length:=by exact ob):Zj Tryz.prog 161 [ZE n,.i f0,.i k0] [] (fun r h=>(∃(c:Nat) (wa:Hd) (wb:Hd) (wc:Hd) (wd:Hd) (we:Hd) (wf:Hd) (L:ZJ) (q:Int),r=.tup [.p c 0,.b true]/\h=[.obj c [.h wa,.h wb,.h wc,.h wd,.h we,.h wf,Z0 rt.lent],rV wa L.vars,rV wb L.own,rV wc L.par,rV wd L.con,rV we L.fst,rV wf L.tok]/\Xz n.decls L q/\L.vars.length=rt.params.length+YO (rt.body.steps.take k0)/\L.vars.length<=500000000/\rt.lent.length<=4194304)∨(r=.tup [.any,.b false]/\h=[]/\True)):=by
 have hzl:=hz.len
 have hfl:=(XM.1 hr).1
 have hrm:=Y7 hr
 have hbz:=hz.body _ hrm
 have ZD:=Vx rt.body
 have hbe:=rt.body.sz_eq
 obtain ⟨hk,hkv⟩:=Z26 n.decls rt
 refine ZK 64 Tryz.func161 (ar (iA (ZU n) ?_))
 intro b1
 refine ir 2 [(1,.i f0),(2,.i k0),(3,.p b1 0)] (ie (aq (ar (Yk 1 10 (ZE n) [0] [b1] (ZA [] (Nq n) (XP 12 [(1,.i f0),(2,.i k0),(3,.p b1 0),(21,.b ((!Xd n)||(!(decide (0<=(f0:Int)/\(f0:Int)<=((n.routines.length:Int)-1))))))] [.obj b1 (ZU n)] ?_ (fun hj1=>?_)))))))
 ·refine Xp [(1,.i f0),(2,.i k0),(3,.p b1 0),(34,.b (((!Xd n)||(!(decide (0<=(f0:Int)/\(f0:Int)<=((n.routines.length:Int)-1)))))||(!(decide (0<=(k0:Int)/\(k0:Int)<=(rt.body.steps.length:Int))))))] [.obj b1 (ZU n)] ?_ ?_
  ·refine ir 1 [(1,.i f0),(2,.i k0),(3,.p b1 0),(22,.b ((!Xd n)||(!(decide (0<=(f0:Int)/\(f0:Int)<=((n.routines.length:Int)-1))))))] (ib (b:=((!Xd n)||(!(decide (0<=(f0:Int)/\(f0:Int)<=((n.routines.length:Int)-1)))))) 22 (fun Za=>?_) (fun Za=>?_))
   ·have ZP:(¬(Xd n=true))∨(¬(0<=(f0:Int)/\(f0:Int)<=((n.routines.length:Int)-1))):=((Yh (Yt Iff.rfl) (Yt dq))).1 Za
    refine Z5 12 (.n 34 (.b true) (.d (.k (.k (.k .z))))) (ie ?_)
    exact wk [0] (fw (fr (Zr true Za fl)))
   have Y0:¬((¬(Xd n=true))∨(¬(0<=(f0:Int)/\(f0:Int)<=((n.routines.length:Int)-1)))):=ZG (Yh (Yt Iff.rfl) (Yt dq)) Za
   refine Y2 4 (.n 23 (.i k0) (.n 25 (YZ n.routines) (.n 26 (.i f0) (.w .z)))) [0] [b1] (Zq (Zo none (f0:Int) 5 (WB hr)) (Z1 3 30 (Yj rt.body.steps) (iw (VE rt.body.steps) (ZA [] (Uv (k0:Int) 0 (rt.body.steps.length:Int)) (Z1 2 34 (.b (!(decide (0<=(k0:Int)/\(k0:Int)<=(rt.body.steps.length:Int))))) (ie ?_))))))
   exact wk [0] (fw (fr (Zr (!(decide (0<=(k0:Int)/\(k0:Int)<=(rt.body.steps.length:Int)))) Za fl)))
  refine ac (((!Xd n)||(!(decide (0<=(f0:Int)/\(f0:Int)<=((n.routines.length:Int)-1)))))||(!(decide (0<=(k0:Int)/\(k0:Int)<=(rt.body.steps.length:Int))))) (p:=((¬(Xd n=true))∨(¬(0<=(f0:Int)/\(f0:Int)<=((n.routines.length:Int)-1))))∨(¬(0<=(k0:Int)/\(k0:Int)<=(rt.body.steps.length:Int)))) (Yh (Yh (Yt Iff.rfl) (Yt dq)) (Yt dq)) (fun Ze=>?_) (fun Ze=>?_)
  ·refine ar (ir 1 [(35,.agg [.sl [] none,.sl [] none,.sl [] none,.sl [] none,.sl [] none,.sl [] none,.sl [] none])] (iA [.sl [] none,.sl [] none,.sl [] none,.sl [] none,.sl [] none,.sl [] none,.sl [] none] ?_))
   intro b2
   refine ir 2 [(6,.p b2 0),(7,.b false)] (ie ?_)
   exact Zc (r2 [] [.p b2 0,.b false] (.inr ⟨rfl,rfl,(by first|exact True.intro|exact ⟨Zp,by rw [show k0=j by omega];exact KV,by omega,hll⟩)⟩) (Zg.tup (.cons (Zg.any _) (.cons (lr _) .nil))))
  have hV:Xd n=true:=BN fun z=>Ze (.inl (.inl z))
  obtain ⟨hok,hall⟩:=Z71 hz hV
  have hty:=hall rt hrm
  obtain ⟨vs,t0,hvs,hres,hrt0⟩:=HM hty
  have hpl:=hok.params_at hr
  have hll:=hok.lent_at hr
  refine ak (ar (iR 3 [(1,.i f0),(2,.i k0),(3,.p b1 0),(38,YZ n.routines),(39,.i f0)] [0] [b1] (Zq (Zo none (f0:Int) 5 (WB hr)) (Z1 1 41 (WZ rt) (ic [] (Z55 rt) ?_)))))
  rintro _ _ ⟨c1,wa1,wb1,wc1,wd1,we1,wf1,rfl,rfl⟩
  refine Z1 1 8 (.p c1 0) (ie (aq (ar (Z1 1 9 (.i 0) (ie (ab 0 (al (fun m F h=>∃(j:Nat) (q2:Int) (L2:ZJ) (ka:Hd) (kb:Hd) (kc:Hd) (kd:Hd) (ke:Hd) (kf:Hd),(j<=k0)/\(Xz n.decls L2 q2)/\(0<=q2/\q2+4*Yu (rt.body.steps.drop j)<=999999990)/\(L2.vars.length+4*Yu (rt.body.steps.drop j)<=400000000)/\(V7 n (rt.body.steps.drop j) L2.vars=some vs)/\(L2.vars.length=rt.params.length+YO (rt.body.steps.take j))/\F=[(1,.i f0),(2,.i k0),(3,.p b1 0),(8,.p c1 0),(9,.i j)]/\h=[.obj c1 [.h ka,.h kb,.h kc,.h kd,.h ke,.h kf,Z0 rt.lent],.obj b1 (ZU n),rV ka L2.vars,rV kb L2.own,rV kc L2.par,rV kd L2.con,rV ke L2.fst,rV kf L2.tok]/\m=k0-j) _ _ _ ⟨0,1,(QH rt),wa1,wb1,wc1,wd1,we1,wf1,ob,hk,(by rw [Jr];omega),(by rw [Jr,hkv];omega),(by rw [Jr,hkv];exact hvs),(by rw [hkv];rfl),rfl,rfl,rfl⟩ (wk [0,6,0,0,0,0,0,0] (fq (Ye fl))) ?_)))))))
  rintro m F h ⟨j,q2,L2,ka,kb,kc,kd,ke,kf,Ym,Zp,Zz,YJ,Wd,KV,rfl,rfl,rfl⟩
  refine aq (ar (Z1 3 45 (.b (decide ((j:Int)<(k0:Int)))) (ie (ZM ((j:Int)<(k0:Int)) (fun Zk=>?_) (fun Zk=>?_)))))
  ·obtain ⟨s1,hs1⟩:=Zs (xs:=rt.body.steps) (j:=j) om
   have hss:=KJ hs1
   have hsp:=s1.sz_pos
   have hzd:=Nt hs1
   have hdt:=Ib hs1
   have hdr:=Yb hs1
   rw [hdr] at Wd
   obtain ⟨g1,g2⟩:=NE Wd
   refine ak (aq (ab 1 (aD 14 (Y6 9 14 [0,1,2,3,4] (.n 48 (.p c1 0) (.n 49 (ZE n) (.n 51 (YZ n.routines) (.n 52 (.i f0) .r)))) [1,1] [b1,b1] (dx 5 (Zo none (f0:Int) 5 (WB hr)) (ZZ 4 8 [6,7,8,9] (.n 56 (Yj rt.body.steps) (.n 57 (.i j) .r)) (dx 10 (Zo none (j:Int) 5 (Wy hs1)) (ZY 2 3 [11] 59 (Y4 s1) (Z9 12 (dc 12 [0,1,1,1,1,1,1] [] [] (Z1s c1 ka kb kc kd ke kf n s1 L2 rt.lent q2 hok ob Zp g1 om om) ?_))))))))))
   rintro _ _ (⟨wa2,wb2,wc2,wd2,we2,wf2,M'1,rfl,rfl,YB⟩|⟨rfl,rfl,YN⟩)
   ·have hP:=YB
    have kx:=NB hok Zp Zz.1 g1 hP
    have hsf:=Z4e g1
    refine ZY 0 1 [13] 61 (.b false) (de (WS (ak (az (Z1 1 46 (.i j) (ZO j (ir 1 [(1,.i f0),(2,.i k0),(3,.p b1 0),(8,.p c1 0),(9,.i (j+1:Nat))] (ie ?_))))))))
    exact ZQ ⟨j+1,(q2+4*s1.sz),M'1,wa2,wb2,wc2,wd2,we2,wf2,ob,kx.1,om,(by rw [kx.2,hsf];split<;>omega),(by rw [kx.2];exact g2),(by rw [kx.2,hsf,hdt];split<;>omega),rfl,rfl,rfl⟩ (wk [0,6,0,0,0,0,0,0] (fq (ZW j fl)))
   refine ZY 0 1 [13] 61 (.b true) (de (WL (ar (ir 3 [(6,.p c1 0),(7,.b false)] (ie ?_)))))
   exact Zc (r2 [] [.p c1 0,.b false] (.inr ⟨rfl,rfl,(by first|exact True.intro|exact ⟨Zp,by rw [show k0=j by omega];exact KV,by omega,hll⟩)⟩) (Zg.tup (.cons (Zg.any _) (.cons (lr _) .nil))))
  refine ax 0 (ar (ir 3 [(6,.p c1 0),(7,.b true)] (ie ?_)))
  exact Zc (r2 [0,1,1,1,1,1,1] [.p c1 0,.b true] (.inl ⟨c1,ka,kb,kc,kd,ke,kf,L2,_,rfl,rfl,(by first|exact True.intro|exact ⟨Zp,by rw [show k0=j by omega];exact KV,by omega,hll⟩)⟩) (lr _))
 refine ir 2 [(1,.i f0),(2,.i k0),(3,.p b1 0),(13,.b (!Xd n))] (ib (b:=(!Xd n)) 13 (fun Zw=>?_) (fun Zw=>?_))
 ·have YX:¬(Xd n=true):=((Yt Iff.rfl)).1 Zw
  refine Z5 8 (.n 21 (.b true) (.d (.k (.k (.k .z))))) ?_
  exact YG (wk [0] (fw (fr (Zr true Zw fl)))) hj1
 have Xy:¬(¬(Xd n=true)):=ZG (Yt Iff.rfl) Zw
 refine Y2 3 (.n 14 (.i f0) (.n 16 (YZ n.routines) (.w .z))) [0] [b1] (iw (U8 n.routines) (ia (((n.routines.length:Int)-1)) (((n.routines.length:Int))-(1)) (ZA [] (Uv (f0:Int) 0 ((n.routines.length:Int)-1)) (Z1 2 21 (.b (!(decide (0<=(f0:Int)/\(f0:Int)<=((n.routines.length:Int)-1))))) ?_))))
 exact YG (wk [0] (fw (fr (Zr (!(decide (0<=(f0:Int)/\(f0:Int)<=((n.routines.length:Int)-1)))) Zw fl)))) hj1
theorem Dz (b:Z7) (i0:Nat) (s:Z4) (hi:i0<=b.steps.length:=by exact ob) (hz:b.sz<=100000000:=by exact ob):Zj Tryz.prog 87 [Zx b,.i i0,Y4 s] [] (fun r h=>r=Zx (Z7.mk (Wb b.steps i0 s) b.result)/\h=[]):=by
 have ZD:=Vx b
 refine ZK 26 Tryz.func87 (ar (iA (Yn b) ?_))
 intro b1
 refine iA (Yg s) ?_
 intro b2
 refine iA [nl,.i 0] ?_
 intro b3
 refine ie (ar (iL (Zt []) 0 5 ?_))
 intro v1
 refine iR 3 [(1,.i i0),(3,.p b1 0),(5,.p b2 0),(6,.p b3 0),(8,ZX [] v1),(10,Yj b.steps),(11,.i i0)] [3] [b1] (Zq (K9 (es:=Zt b.steps) (hv:=none) (l:=0) (m:=(i0:Int)) (sz:=5) (es':=Zt (b.steps.take i0)) kr om (by simp<;>omega) (by simp<;>omega) (X8 _) (by first|(simp only [VL,Vl,J3,J2];done)|(simp only [VL,Vl,J3,J2];rfl)|(simp [J3,J2];done))) (ip 0 (Zt (b.steps.take i0)) (Zt []) (Zt (b.steps.take i0)) v1 none 5 (X8 _) (X8 _) (Vs _) (by simp<;>omega) (by simp [Vb]) ?_))
 intro v2
 refine Z1 1 7 (ZX (b.steps.take i0) v2) (ie (aD 13 (Y6 8 13 [0,1,4,5,6] (.n 14 (ZX (b.steps.take i0) v2) (.n 15 (Y4 s) (.n 19 (Yj b.steps) (.n 20 (.i i0) .r)))) [2,3] [b2,b1] (dx 7 (K9 (es:=Zt b.steps) (hv:=none) (l:=(i0:Int)) (m:=(((Zt b.steps).length:Nat):Int)) (sz:=5) (es':=Zt (b.steps.drop i0)) kr om (by simp<;>omega) (by simp<;>omega) (X8 _) (by first|(simp only [VL,Vl,J3,J2];done)|(simp only [VL,Vl,J3,J2];rfl)|(simp [J3,J2];done))) (Y6 5 7 [9,10] (.n 24 (.i b.result) .r) [3] [b1] (Z9 2 (dL 2 [2,2] [b1,b1] [Y4 s] 1 5 ?_)))))))
 intro v3
 refine ZZ 4 4 [] (.n 16 (.sl [Y4 s] none) (.p .r)) (Z9 3 (dp 3 1 [2,2] [b1,b1] (Zt ((b.steps.take i0)++[s])) (Zt (b.steps.take i0)) [Y4 s] v2 none 5 (X8 _) (TA rfl) rfl (by simp<;>omega) (by simp [Wx,Vb]) ?_))
 intro v4
 refine Z9 8 (dp 8 0 [2] [b1] (Zt (Wb b.steps i0 s)) (Zt ((b.steps.take i0)++[s])) (Zt (b.steps.drop i0)) v4 none 5 (X8 _) (X8 _) (Vs _) (by simp<;>omega) (by simp only [Wb,Wx]) ?_)
 intro v5
 refine ZY 1 2 [11] 25 (.agg [ZX (Wb b.steps i0 s) v5,.i b.result]) (Z9 12 (YK 12 2 [] [] b3 [ZX (Wb b.steps i0 s) v5,.i b.result] (de ?_)))
 exact Zc (r3 [] [.agg [ZX (Wb b.steps i0 s) v5,.i b.result]] [0] [(b3,b3)] ⟨rfl,rfl⟩ (Zg.agg (.cons (Zg.sl _ (Yv Zt rfl)) (.cons li .nil))))
theorem FT (n:Zy) (f0:Nat) (b:Z7) (rt:Yf) (hr:n.routines[f0]? = some rt:=by exact ob) (hl:n.routines.length<=1000000:=by exact ob) (hp:rt.params.length<=4294967296:=by exact ob) (hl2:rt.lent.length<=4294967296:=by exact ob):Zj Tryz.prog 100 [ZE n,.i f0,Zx b] [] (fun r h=>∃(g:Nat) (c:Nat),r=.agg [Zd n.decls,.ms g 0 n.routines.length c]/\h=[.row (.slice (some ⟨g,0,none⟩) n.routines.length c) 5 (Zl (YM (n.routines.set f0 (Yf.mk rt.params rt.lent rt.result b))))]):=by
 have hfl:=(XM.1 hr).1
 refine ZK 26 Tryz.func100 (ar (iA (ZU n) ?_))
 intro b1
 refine iA (Yn b) ?_
 intro b2
 refine iA [nl,nl] ?_
 intro b3
 refine ie (ar (DH 5 ?_))
 intro g1
 refine iR 2 [(1,.i f0),(3,.p b1 0),(5,.p b2 0),(6,.p b3 0),(8,.ms g1 0 0 0),(10,YZ n.routines)] [3] [b1] (SU 0 g1 5 (YM n.routines) none (U7 _) (by simp<;>omega) ?_)
 intro v1
 refine DF 0 n.routines.length (v:=v1) (Ds _) om (fun g2 c1 he1=>?_)
 subst he1
 refine ir 1 [(1,.i f0),(3,.p b1 0),(5,.p b2 0),(6,.p b3 0),(7,.ms g2 0 n.routines.length c1)] (ie (aD 11 (Y6 6 11 [0,1,2,3,4] (.n 12 (.ms g2 0 n.routines.length c1) (.n 13 (.i f0) (.n 15 (YZ n.routines) (.n 16 (.i f0) .r)))) [3] [b1] (dx 5 (Zo none (f0:Int) 5 (WB hr)) (Y6 3 5 [6,7] (.n 18 (WZ rt) (.n 19 (Zx b) .r)) [2] [b2] (Z9 8 (Ys 8 [] [] [] (BK rt b) (dx 9 (W5 g2 n.routines.length c1 f0 5 (f0:Int)) (Z9 10 (At 10 0 [] [] g2 n.routines.length c1 5 (f0*5) (VO (Yf.mk rt.params rt.lent rt.result b)) (Zl (YM n.routines)) (Zl (YM (n.routines.set f0 (Yf.mk rt.params rt.lent rt.result b)))) (by rw [Ds];simp only [YS,Xn];omega) (Rk (Yf.mk rt.params rt.lent rt.result b) hfl) (de (ar (Yk 4 25 (.agg [Zd n.decls,.ms g2 0 n.routines.length c1]) [3] [b1] (ZH 1 b3 [Zd n.decls,.ms g2 0 n.routines.length c1] (ie ?_)))))))))))))))
 exact Zc (r3 [1] [.agg [Zd n.decls,.ms g2 0 n.routines.length c1]] [0] [(b3,b3)] ⟨g2,c1,rfl,rfl⟩ (lr _))
theorem L4 (n:Zy) (f0:Nat) (b:Z7) (rt:Yf) (hr:n.routines[f0]? = some rt:=by exact ob) (hl:n.routines.length<=1000000:=by exact ob) (hp:rt.params.length<=4294967296:=by exact ob) (hl2:rt.lent.length<=4294967296:=by exact ob):Zj Tryz.prog 100 [ZE n,.i f0,Zx b] [] (fun r h=>r=ZE (withR n f0 rt b)/\h=[]):=(Zj.frzN (ds:=n.decls) (rs:=(n.routines.set f0 (Yf.mk rt.params rt.lent rt.result b))) (hs:=[]) ((FT n f0 b rt hr hl hp hl2).mono fun r h ⟨g,c,e1,e2⟩=>⟨g,c,by rw [e1];simp only [UV],by rw [e2];simp only [UV]⟩))
theorem Kv (rd:Nat) (bs:List Int) (p:Nat) (mx:Nat) (ZD:∀z∈bs,0<=z/\z<=255) (hp:p+1<=1000000000:=by exact ob) (hmx:0<mx:=by exact ob):Zj Tryz.prog 50 [.p rd 0,.i mx] [Yl rd bs p] (fun r h=>∃(kn:Nat),r=.i kn/\h=[.obj rd [X9 bs,.i (p+1:Nat)]]/\kn<mx):=(XU rd bs p mx ZD hp).mono fun r h ⟨z,hr,hh,hz⟩=>by
  have h0:=hz.lt om
  exact ⟨z.toNat,by rw [hr,Int.toNat_of_nonneg h0.1],hh,by omega⟩
theorem IT (rd:Nat) (bs:List Int) (p:Nat) (n:Zy) (ZD:∀z∈bs,0<=z/\z<=255) (hp:p+4<=1000000000:=by exact ob) (hz:Q5 n:=by exact ob) (hl1:1<=n.routines.length/\n.routines.length<=1000000:=by exact ob):Zj Tryz.prog 123 [.p rd 0,ZE n] [Yl rd bs p] (fun r h=>∃(n2:Zy) (p2:Nat),r=ZE n2/\h=[Yl rd bs p2]/\EM n n2/\p<=p2/\p2<=p+4):=by
 refine ZK 102 Tryz.func123 (ar (iA (ZU n) ?_))
 intro b1
 refine iA [nl,nl] ?_
 intro b2
 refine ie (ar (iR 3 [(0,.p rd 0),(3,.p b1 0),(4,.p b2 0),(14,.p rd 0),(16,YZ n.routines)] [1] [b1] (iw (U8 n.routines) (ic [2] (Kv rd bs p n.routines.length (ZD:=ob)) ?_))))
 rintro _ _ ⟨Ya,rfl,rfl,ZP⟩
 refine Z1 1 5 (.i Ya) (ie (ar (Y1 3 20 (YZ n.routines) 21 (.i Ya) [2] [b1] ?_)))
 obtain ⟨x1,Z3⟩:=Zs (xs:=n.routines) (j:=Ya) om
 have hrm:=Y7 Z3
 have hbz:=hz.body _ hrm
 have ZD:=Vx (x1).body
 have hpl:=hz.params _ hrm
 have hll:=hz.lent _ hrm
 have hrx:=Z3
 refine Zq (Zo none (Ya:Int) 5 (WB Z3)) (Z1 2 24 (Zx x1.body) (iA [nl,.i 0] ?_))
 intro b3
 refine ZH 0 b3 (Yn x1.body) (ie (ar (Y1 3 25 (.p rd 0) 27 (Yj x1.body.steps) [0] [b3] (iw (VE x1.body.steps) (ia (((x1.body.steps.length+1:Nat):Int)) (((x1.body.steps.length:Int))+(1)) (ic [1] (Kv rd bs (p+1) (x1.body.steps.length+1) (ZD:=ob)) ?_))))))
 rintro _ _ ⟨YC,rfl,rfl,Y0⟩
 refine Z1 1 7 (.i YC) (ie (ar (Y2 3 (.n 32 (ZE n) (.n 33 (.i Ya) (.n 34 (.i YC) .r))) [3] [b1] (ic [] (S5 n Ya YC x1 (hr:=hrx)) ?_))))
 rintro _ _ (⟨c1,wa1,wb1,wc1,wd1,we1,wf1,L1,q1,rfl,rfl,YB⟩|⟨rfl,rfl,YN⟩)
 ·obtain ⟨hLO,hLv,hLb,hLl⟩:=YB
  have hLn:=hLO.len
  obtain ⟨e1,e2,e3,e4,e5⟩:=hLO.len
  refine Yo 5 8 (.p c1 0) 9 (.b true) (ie (aq (ar (Z1 2 39 (.b false) (ie (WS (ak (ar (iL (Z8 []) 0 1 ?_)))))))))
  intro v1
  refine Z1 1 10 (Z6 [] v1) (ie (aq (ar (Z1 1 11 (.i 0) (ie (ab 0 (al (fun m F h=>∃(k:Nat) (vl:List Int) (u:Value),(k<=L1.vars.length)/\(vl.length<=k)/\(∀v∈vl,0<=v/\v<(L1.vars.length:Int))/\F=[(0,.p rd 0),(3,.p b1 0),(4,.p b2 0),(5,.i Ya),(6,.p b3 0),(7,.i YC),(8,.p c1 0),(10,Z6 vl u),(11,.i k)]/\h=[.obj c1 [.h wa1,.h wb1,.h wc1,.h wd1,.h we1,.h wf1,Z0 x1.lent],rV wa1 L1.vars,rV wb1 L1.own,rV wc1 L1.par,rV wd1 L1.con,rV we1 L1.fst,rV wf1 L1.tok,.obj rd [X9 bs,.i (((p+1)+1:Nat):Int)],.obj b3 (Yn x1.body),.obj b2 [nl,nl],.obj b1 (ZU n),.tail u 1]/\m=L1.vars.length-k) _ _ _ ⟨0,[],v1,ob,ob,(fun v hv=>by cases hv),rfl,rfl,rfl⟩ (wk [1,1,1,1,1,1,1,1,1,1,1,0] (fq (fq (Ye fl)))) ?_)))))))
  rintro m F h ⟨k,vl,u,Ym,Zp,Zz,rfl,rfl,rfl⟩
  refine aq (ar (Y1 5 42 (.i k) 46 (.h wa1) [0] [c1] (Zq (Jo 1 wa1 L1.vars) (Z1 1 48 (.b (decide ((k:Int)<(L1.vars.length:Int)))) (ie (ZM ((k:Int)<(L1.vars.length:Int)) (fun Ze=>?_) (fun Ze=>?_)))))))
  ·refine ak (aq (ab 1 (ar (Y1 5 54 (.h wa1) 55 (.i k) [0] [c1] (Zq (Vz 1 wa1 L1.vars (k:Int) k) ?_)))))
   obtain ⟨x2,Zv⟩:=Zs (xs:=L1.vars) (j:=k) om
   refine VI (Tp 1 wa1 L1.vars k x2 Zv) (Z1 2 59 (.b (x2 != 0)) (ib (b:=(x2 != 0)) 59 (fun Za=>?_) (fun Za=>?_)))
   ·have YX:x2≠0:=(Yc).1 Za
    refine Z5 2 (.n 60 (.p c1 0) (.n 61 (.i k) (.k (.d .r)))) (ZA [0,0,0,0,0,0,0] (DS c1 wa1 wb1 wc1 wd1 we1 wf1 L1 x1.lent (k:Int) (hlk:=hLO.len) (hd:=hLO.down)) (Z1 1 63 (.b (VB L1 x1.lent (k:Int))) (ie (ac (VB L1 x1.lent (k:Int)) Iff.rfl (fun Zk=>?_) (fun Zk=>?_)))))
    ·refine az (Yo 2 64 (Z6 vl u) 65 (.i k) (iL (Z8 [(k:Int)]) 1 1 ?_))
     intro v2
     refine Z5 0 (.n 66 (Z0 [(k:Int)]) (.p .r)) (ip 12 (Z8 (vl++[(k:Int)])) (Z8 vl) (Z8 [(k:Int)]) u none 1 (YD _) (YD _) (XY _) (by simp<;>omega) (by simp [XX,Z8]) ?_)
     intro v3
     refine Z5 1 (.n 10 (Z6 (vl++[(k:Int)]) v3) (.p (.d (.d (.d (.d (.p (.d (.d (.d (.p (.p (.d (.d (.d (.p (.d (.d (.w (.k (.k (.k (.d .r))))))))))))))))))))))) (ie (az (Z1 1 49 (.i k) (ZO k (Z5 1 (.n 11 (.i (k+1:Nat)) (.p (.d (.w (.w .z))))) (ie ?_))))))
     exact ZQ ⟨k+1,(vl++[(k:Int)]),v3,ob,ob,(by first|exact Zz|exact Xq Zz om),rfl,rfl,rfl⟩ (wk [2,2,2,2,2,2,2,2,2,2,2,0] (fq (fq (ZW k fl))))
    refine ak (az (Z1 1 49 (.i k) (ZO k (Z5 1 (.n 11 (.i (k+1:Nat)) (.p (.d (.d (.p (.d (.d (.d (.p (.p (.d (.d (.d (.p (.d (.d (.w (.w .z)))))))))))))))))) (ie ?_)))))
    exact ZQ ⟨k+1,vl,u,ob,ob,(by first|exact Zz|exact Xq Zz om),rfl,rfl,rfl⟩ (ZL 12 (fq (fq (ZW k fl))))
   have Xy:¬(x2≠0):=ZG Yc Za
   refine Z5 4 (.n 63 (.b false) (.k (.d .r))) (ie (WS (ak (az (Z1 1 49 (.i k) (ZO k (Z5 1 (.n 11 (.i (k+1:Nat)) (.p (.d (.d (.d (.p (.p (.d (.d (.d (.p (.d (.d (.w (.w .z))))))))))))))) (ie ?_))))))))
   exact ZQ ⟨k+1,vl,u,ob,ob,(by first|exact Zz|exact Xq Zz om),rfl,rfl,rfl⟩ (ZL 12 (fq (fq (ZW k fl))))
  refine ax 0 (aq (ar (Z1 1 68 (Z6 vl u) (iw (Yd vl) (Z1 1 70 (.b ((vl.length:Int)==0)) (ie (ac ((vl.length:Int)==0) Zh (fun ZI=>?_) (fun ZI=>?_))))))))
  ·refine ar (Yk 1 71 (ZE n) [10] [b1] (ZH 9 b2 (ZU n) (ie ?_)))
   exact Zc (r3 [8] [ZE n] [0] [(b2,b2)] ⟨n,(p+1)+1,rfl,rfl,(by first|exact ⟨.inl rfl,by omega,by omega⟩|(have hv:=Zz x3 (Y7 YT);exact ⟨.inr ⟨Ya,x1,YC,YC+UG,x3,hrx,by omega,by omega,hv.1,by omega,rfl⟩,by omega,by omega⟩))⟩ (lr _))
  refine ak (ar (Z5 3 (.n 72 (Z6 vl u) (.n 73 (.p rd 0) (.n 74 (Z6 vl u) .r))) (iw (Yd vl) (ic [7] (Kv rd bs ((p+1)+1) vl.length (ZD:=ob)) ?_))))
  rintro _ _ ⟨LH,rfl,rfl,Wh⟩
  obtain ⟨x3,YT⟩:=Zs (xs:=vl) (j:=LH) om
  refine Zq (Zo (some u) (LH:Int) 1 (Y3 YT)) (Z1 2 12 (.i x3) (ie (ar (Y2 4 (.n 79 (.i YC) (.n 80 (.p rd 0) (.n 82 (Yj x1.body.steps) .r))) [8] [b3] (iw (VE x1.body.steps) (Z1 1 84 (.i YC) (ia ((((x1.body.steps.length-YC):Nat):Int)) (((x1.body.steps.length:Int))-((YC:Int))) (ia ((((x1.body.steps.length-YC)+1:Nat):Int)) (((((x1.body.steps.length-YC):Nat):Int))+(1)) (ic [0] (Kv rd bs (((p+1)+1)+1) ((x1.body.steps.length-YC)+1) (ZD:=ob)) ?_)))))))))
  rintro _ _ ⟨UG,rfl,rfl,WJ⟩
  refine ia (((YC+UG:Nat):Int)) (((YC:Int))+((UG:Int))) (Z1 1 13 (.i (YC+UG:Nat)) (ie (aD 6 (Y6 3 6 [0,1,2] (.n 89 (Zx x1.body) (.n 90 (.i (YC+UG:Nat)) (.n 91 (.i x3) .r))) [8] [b3] (Z9 3 (Ys 3 [] [2] [b3] (KI 15 x3) (Z9 4 (Ys 4 [] [] [] (Dz x1.body (YC+UG) (Zi 15 x3) (hi:=(by first|omega|(show YC<=(Wb _ _ _).length;rw [Mu om];omega))) (hz:=(by first|omega|(rw [Z7.sz,CD];have e:(Zi 15 x3).sz=2:=rfl;have e2:=x1.body.sz_eq;omega)))) (Z9 5 (YK 5 8 [] [] b3 (Yn (Z7.mk (Wb x1.body.steps (YC+UG) (Zi 15 x3)) x1.body.result)) (de (aD 9 (W2 4 9 [0,1,2,3,4] [(4,.p b2 0),(94,ZE n),(95,.i Ya),(96,Zx (Z7.mk (Wb x1.body.steps (YC+UG) (Zi 15 x3)) x1.body.result)),(97,.i YC),(98,.i x3)] [10,0] [b1,b3] (Z9 5 (Ys 5 [] [0,4] [b3,b1] (KI 14 x3) (Z9 6 (Ys 6 [] [4] [b1] (Dz (Z7.mk (Wb x1.body.steps (YC+UG) (Zi 15 x3)) x1.body.result) YC (Zi 14 x3) (hi:=(by first|omega|(show YC<=(Wb _ _ _).length;rw [Mu om];omega))) (hz:=(by first|omega|(rw [Z7.sz,CD];have e:(Zi 15 x3).sz=2:=rfl;have e2:=x1.body.sz_eq;omega)))) (Z9 7 (Ys 7 [] [] [] (L4 n Ya (Z7.mk (Wb (Z7.mk (Wb x1.body.steps (YC+UG) (Zi 15 x3)) x1.body.result).steps YC (Zi 14 x3)) (Z7.mk (Wb x1.body.steps (YC+UG) (Zi 15 x3)) x1.body.result).result) x1 (hr:=hrx)) (Z9 8 (YK 8 9 [] [] b2 (ZU (withR n Ya x1 (Z7.mk (Wb (Z7.mk (Wb x1.body.steps (YC+UG) (Zi 15 x3)) x1.body.result).steps YC (Zi 14 x3)) (Z7.mk (Wb x1.body.steps (YC+UG) (Zi 15 x3)) x1.body.result).result))) (de ?_))))))))))))))))))))))
  exact Zc (r3 [2] [ZE (withR n Ya x1 (Z7.mk (Wb (Z7.mk (Wb x1.body.steps (YC+UG) (Zi 15 x3)) x1.body.result).steps YC (Zi 14 x3)) (Z7.mk (Wb x1.body.steps (YC+UG) (Zi 15 x3)) x1.body.result).result))] [0] [(b2,b2)] ⟨(withR n Ya x1 (Z7.mk (Wb (Z7.mk (Wb x1.body.steps (YC+UG) (Zi 15 x3)) x1.body.result).steps YC (Zi 14 x3)) (Z7.mk (Wb x1.body.steps (YC+UG) (Zi 15 x3)) x1.body.result).result)),(((p+1)+1)+1)+1,rfl,rfl,(by first|exact ⟨.inl rfl,by omega,by omega⟩|(have hv:=Zz x3 (Y7 YT);exact ⟨.inr ⟨Ya,x1,YC,YC+UG,x3,hrx,by omega,by omega,hv.1,by omega,rfl⟩,by omega,by omega⟩))⟩ (lr _))
 refine Z1 5 9 (.b false) (ie (aq (ar (Z1 2 39 (.b true) (ie (WL (ar (Yk 1 40 (ZE n) [3] [b1] (ZH 2 b2 (ZU n) (ie ?_))))))))))
 exact Zc (r3 [1] [ZE n] [0] [(b2,b2)] ⟨n,(p+1)+1,rfl,rfl,(by first|exact ⟨.inl rfl,by omega,by omega⟩|(have hv:=Zz x3 (Y7 YT);exact ⟨.inr ⟨Ya,x1,YC,YC+UG,x3,hrx,by omega,by omega,hv.1,by omega,rfl⟩,by omega,by omega⟩))⟩ (lr _))
theorem Z5d (b:Z7) (hz:b.sz<=1000000000:=by exact ob):Zj Tryz.prog 239 [Zx b] [] (fun r h=>r=.i (((YW b.steps):Nat):Int)/\h=[]):=by
 have hbz:=Vx b
 refine ZK 20 Tryz.func239 (ar (iA (Yn b) ?_))
 intro b1
 refine ir 1 [(1,.p b1 0)] (ie (ar (Z1 1 3 (.i 0) (ie (aq (ab 0 (al (fun m F h=>∃(k:Nat),(k<=b.steps.length)/\(k+YW (b.steps.drop k)=YW b.steps)/\F=[(1,.p b1 0),(3,.i k)]/\h=[.obj b1 (Yn b)]/\m=b.steps.length-k) _ _ _ ⟨0,ob,(by simp),rfl,rfl,rfl⟩ (wk [0] (fr (Ye fl))) ?_)))))))
 rintro m F h ⟨k,Ym,Zp,rfl,rfl,rfl⟩
 refine aq (ar (Y1 3 4 (.i k) 6 (Yj b.steps) [0] [b1] (iw (VE b.steps) (Z1 2 9 (.b (decide ((k:Int)<(b.steps.length:Int)))) (ib (b:=(decide ((k:Int)<(b.steps.length:Int)))) 9 (fun Za=>?_) (fun Za=>?_))))))
 ·have ZP:(k:Int)<(b.steps.length:Int):=(dq).1 Za
  refine Y2 3 (.n 11 (Yj b.steps) (.n 12 (.i k) (.k (.d .r)))) [0] [b1] ?_
  obtain ⟨x1,Z3⟩:=Zs (xs:=b.steps) (j:=k) om
  refine Zq (Zo none (k:Int) 5 (Wy Z3)) (Z1 1 14 (Y4 x1) (ZA [] (Nj x1) (Z1 1 16 (.b ((x1.op==14)||(x1.op==15))) (ie (ac ((x1.op==14)||(x1.op==15)) (p:=(x1.op=14)∨(x1.op=15)) (Yh Zh Zh) (fun Ze=>?_) (fun Ze=>?_))))))
  ·refine ak (ab 1 (az (Z1 1 17 (.i k) (ZO k (ir 1 [(1,.p b1 0),(3,.i (k+1:Nat))] (ie ?_))))))
   exact ZQ ⟨k+1,ob,(Z3w Z3 Ze Zp),rfl,rfl,rfl⟩ (wk [0] (fr (ZW k fl)))
  refine ax 0 (ar (ir 2 [(2,.i k)] (ie ?_)))
  exact Zc (r2 [] [.i k] ⟨rfl,rfl⟩ (li (by have:=Z3x Z3 Ze Zp;omega)))
 have Y0:¬((k:Int)<(b.steps.length:Int)):=ZG dq Za
 refine Z5 7 (.n 16 (.b false) (.k (.d .r))) (ie (WS (ax 0 (ar (ir 2 [(2,.i k)] (ie ?_))))))
 exact Zc (r2 [] [.i k] ⟨rfl,rfl⟩ (li (by have:=Z3v om Zp;omega)))
theorem Na (b:Z7) (mm:Nat) (op:Int) (hm:mm<=b.steps.length:=by exact ob) (ha:∀s∈b.steps.take mm,s.op=op->∃a,s.args=[a]) (hz:b.sz<=1000000000:=by exact ob):Zj Tryz.prog 240 [Zx b,.i mm,.i op] [] (fun r h=>∃(v:Value),r=Z6 (XN op (b.steps.take mm)) v/\h=[.tail v 1]):=by
 have hbz:=Vx b
 refine ZK 35 Tryz.func240 (ar (iA (Yn b) ?_))
 intro b1
 refine ir 1 [(1,.i mm),(2,.i op),(3,.p b1 0)] (ie (ar (iL (Z8 []) 0 1 ?_)))
 intro v1
 refine Z1 1 7 (Z6 [] v1) (ie (aq (ar (Z1 1 8 (.i 0) (ie (ab 0 (al (fun m F h=>∃(k:Nat) (acc:List Int) (v:Value),(k<=mm)/\(acc.length<=k)/\(acc++XN op ((b.steps.take mm).drop k)=XN op (b.steps.take mm))/\F=[(1,.i mm),(2,.i op),(3,.p b1 0),(7,Z6 acc v),(8,.i k)]/\h=[.obj b1 (Yn b),.tail v 1]/\m=mm-k) _ _ _ ⟨0,[],v1,ob,ob,(by simp),rfl,rfl,rfl⟩ (wk [1,0] (fq (Ye fl))) ?_)))))))
 rintro m F h ⟨k,acc,v,Ym,Zp,Zz,rfl,rfl,rfl⟩
 refine aq (ar (Z1 3 12 (.b (decide ((k:Int)<(mm:Int)))) (ie (ZM ((k:Int)<(mm:Int)) (fun Ze=>?_) (fun Ze=>?_)))))
 ·refine ak (aq (ab 1 (ar (Y1 3 16 (Yj b.steps) 17 (.i k) [0] [b1] ?_))))
  obtain ⟨x1,Z3⟩:=Zs (xs:=b.steps) (j:=k) om
  have hxt:(b.steps.take mm)[k]? = some x1:=by rw [List.getElem?_take_of_lt om];exact Z3
  have hxm:=Y7 hxt
  refine Zq (Zo none (k:Int) 5 (Wy Z3)) (Z1 4 22 (.b (x1.op==op)) (ie (ac (x1.op==op) Zh (fun Zk=>?_) (fun Zk=>?_))))
  ·refine az (Y2 4 (.n 23 (Z6 acc v) (.n 25 (Yj b.steps) (.n 26 (.i k) .r))) [0] [b1] (Zq (Zo none (k:Int) 5 (Wy Z3)) (Z1 2 29 (Z0 x1.args) ?_)))
   obtain ⟨x2,Zv⟩:=Zs (xs:=x1.args) (j:=0) (by obtain ⟨a,ha2⟩:=ha x1 hxm Zk;rw [ha2];simp)
   have hg0:=J7 Zv
   refine Zq (Zo none 0 1 (Y3 Zv)) (Z1 1 31 (.i x2) (iL (Z8 [x2]) 1 1 ?_))
   intro v2
   refine Z5 0 (.n 32 (Z0 [x2]) (.p .r)) (ip 2 (Z8 (acc++[x2])) (Z8 acc) (Z8 [x2]) v none 1 (YD _) (YD _) (XY _) (by simp<;>omega) (by simp [XX,Z8]) ?_)
   intro v3
   refine ir 1 [(1,.i mm),(2,.i op),(3,.p b1 0),(7,Z6 (acc++[x2]) v3),(8,.i k)] (ie (az (Z1 1 13 (.i k) (ZO k (Z5 1 (.n 8 (.i (k+1:Nat)) (.p (.d (.w .z)))) (ie ?_))))))
   exact ZQ ⟨k+1,(acc++[x2]),v3,ob,(by simp;omega),(by have h:=OC hxt Zk Zz;rw [hg0] at h;exact h),rfl,rfl,rfl⟩ (wk [2,0] (fq (ZW k fl)))
  refine ak (az (Z1 1 13 (.i k) (ZO k (Z5 1 (.n 8 (.i (k+1:Nat)) (.p (.d (.d (.p (.d (.d (.d (.w .z))))))))) (ie ?_)))))
  exact ZQ ⟨k+1,acc,v,ob,ob,(OB hxt Zk Zz),rfl,rfl,rfl⟩ (wk [0,0] (fq (ZW k fl)))
 refine ax 0 (ar (ir 2 [(6,Z6 acc v)] (ie ?_)))
 exact Zc (r2 [1] [Z6 acc v] ⟨v,rfl,rfl⟩ (Zg.slh _ (Yv Z8 (OA (by rw [Wv];omega) Zz))))
theorem Nr (xs:List Int) (y:Int) (hl:xs.length<=1000000000:=by exact ob):Zj Tryz.prog 241 [Z0 xs,.i y] [] (fun r h=>∃(v:Value),r=Z6 (xs.erase y) v/\h=[.tail v 1]):=by
 refine ZK 33 Tryz.func241 (ar (ir 1 [(0,Z0 xs),(1,.i y)] (ie (ar (iL (Z8 []) 0 1 ?_)))))
 intro v1
 refine Z1 1 5 (Z6 [] v1) (ie (ar (Z1 1 6 (.b false) (ie (aq (ar (Z1 1 7 (.i 0) (ie (ab 0 (al (fun m F h=>∃(k:Nat) (acc:List Int) (d:Bool) (v:Value),(k<=xs.length)/\(acc.length<=k)/\(acc++(if d=true then xs.drop k else (xs.drop k).erase y)=xs.erase y)/\F=[(0,Z0 xs),(1,.i y),(5,Z6 acc v),(6,.b d),(7,.i k)]/\h=[.tail v 1]/\m=xs.length-k) _ _ _ ⟨0,[],false,v1,ob,ob,(by simp),rfl,rfl,rfl⟩ (wk [0] (fq (Ye fl))) ?_))))))))))
 rintro m F h ⟨k,acc,d,v,Ym,Zp,Zz,rfl,rfl,rfl⟩
 refine aq (ar (Yo 2 9 (.i k) 10 (Z0 xs) (iw (Yd xs) (Z1 1 12 (.b (decide ((k:Int)<(xs.length:Int)))) (ie (ZM ((k:Int)<(xs.length:Int)) (fun Ze=>?_) (fun Ze=>?_)))))))
 ·refine ak (aq (ab 1 (ar (Yo 2 15 (Z0 xs) 16 (.i k) ?_))))
  obtain ⟨x1,Z3⟩:=Zs (xs:=xs) (j:=k) om
  refine Zq (Zo none (k:Int) 1 (Y3 Z3)) (Xp [(0,Z0 xs),(1,.i y),(5,Z6 acc v),(6,.b d),(7,.i k),(24,.b ((x1==y)&&(!d)))] [.tail v 1] ?_ ?_)
  ·refine ir 4 [(0,Z0 xs),(1,.i y),(5,Z6 acc v),(6,.b d),(7,.i k),(21,.b (x1==y))] (ib (b:=(x1==y)) 21 (fun Za=>?_) (fun Za=>?_))
   ·have ZP:x1=y:=(Zh).1 Za
    refine Z5 3 (.n 24 (.b (!d)) (.d (.w (.k .z)))) (ie ?_)
    exact wk [0] (fq (fr (Zr (!d) Za fl)))
   have Y0:¬(x1=y):=ZG Zh Za
   refine Z5 3 (.n 24 (.b false) (.d (.w (.k .z)))) (ie ?_)
   exact wk [0] (fq (fr (Zr false Za fl)))
  refine JB (fun F h=>∃(w:Value),F=[(0,Z0 xs),(1,.i y),(5,Z6 (if (x1=y)/\(¬(d=true)) then acc else (acc++[x1])) w),(6,.b (((x1==y)&&(!d))||d)),(7,.i k)]/\h=[.tail w 1]) (fun _ _=>rfl) ?_ ?_
  ·refine ac ((x1==y)&&(!d)) (p:=(x1=y)/\(¬(d=true))) (YE Zh (Yt Iff.rfl)) (fun Zk=>?_) (fun Zk=>?_)
   ·refine az (ir 1 [(0,Z0 xs),(1,.i y),(5,Z6 acc v),(6,.b true),(7,.i k)] (ie ?_))
    exact ZV ⟨v,rfl,rfl⟩ (wk [0] (fw (fc (x:=Z6 acc v) (Zg.slh _ (Yv Z8 (by first|rfl|(rw [Zm Zk])|(rw [Zb Zk])|(simp [Zk];done)|(rw [Xm];simp [Zk];done)|omega))) (fc (x:=.b true) (lb (by first|rfl|(rw [Zm Zk])|(rw [Zb Zk])|(simp [Zk];done)|(rw [Xm];simp [Zk];done)|omega)) fl))))
   refine az (ir 3 [(0,Z0 xs),(1,.i y),(6,.b d),(7,.i k),(25,Z6 acc v),(26,Z0 xs),(27,.i k)] (Zq (Zo none (k:Int) 1 (Y3 Z3)) (Z1 1 29 (.i x1) (iL (Z8 [x1]) 1 1 ?_))))
   intro v2
   refine Z5 0 (.n 30 (Z0 [x1]) (.p .r)) (ip 1 (Z8 (acc++[x1])) (Z8 acc) (Z8 [x1]) v none 1 (YD _) (YD _) (XY _) (by simp<;>omega) (by simp [XX,Z8]) ?_)
   intro v3
   refine Z1 1 5 (Z6 (acc++[x1]) v3) (ie ?_)
   exact ZV ⟨v3,rfl,rfl⟩ (wk [0] (fw (fc (x:=Z6 (acc++[x1]) v3) (Zg.slh _ (Yv Z8 (by first|rfl|(rw [Zm Zk])|(rw [Zb Zk])|(simp [Zk];done)|(rw [Xm];simp [Zk];done)|omega))) (fc (x:=.b d) (lb (by cases d<;>simp_all)) fl))))
  rintro F h ⟨w,rfl,rfl⟩
  refine az (ir 1 [(0,Z0 xs),(1,.i y),(5,Z6 (if (x1=y)/\(¬(d=true)) then acc else (acc++[x1])) w),(6,.b (((x1==y)&&(!d))||d)),(13,.i k)] (ZO k (Z1 1 7 (.i (k+1:Nat)) (ie ?_))))
  exact ZQ ⟨k+1,(if (x1=y)/\(¬(d=true)) then acc else (acc++[x1])),(((x1==y)&&(!d))||d),w,ob,(by split<;>(try simp)<;>omega),(Ra Z3 Zz),rfl,rfl,rfl⟩ (wk [0] (fq (ZW k fl)))
 refine ax 0 (ar (ir 2 [(4,Z6 acc v)] (ie ?_)))
 exact Zc (r2 [0] [Z6 acc v] ⟨v,rfl,rfl⟩ (Zg.slh _ (Yv Z8 (R9 om Zz))))
theorem Z56 (b:Z7) (x:Int) (fs:List Int) (q:Nat) (ha:∀s∈b.steps,YF s.op=true->∃a,s.args=[a]) (hf:fs.length<=3:=by exact ob) (hq:q<=1000000000:=by exact ob) (hz:b.sz<=900000000:=by exact ob):Zj Tryz.prog 208 [Zx b,.i x,Z0 fs,.i q] [] (fun r h=>r=Zx (QW b x fs q)/\h=[]):=by
 have hbz:=Vx b
 have hrl:=Ea b.steps
 have hal:=EX (b.steps.take (YW b.steps))
 rw [Wv] at hal
 have her:=List.length_erase_le (a:=x) (l:=XN 15 (b.steps.take (YW b.steps)))
 have har:∀op:Int,YF op=true->∀s∈b.steps.take (YW b.steps),s.op=op->∃a,s.args=[a]:=fun op ho s hs e=>ha s (TJ hs) (by rw [e];exact ho)
 refine ZK 88 Tryz.func208 (ar (iA (Yn b) ?_))
 intro b1
 refine iA [nl,.i 0] ?_
 intro b2
 refine ie (ar (iR 1 [(1,.i x),(2,Z0 fs),(3,.i q),(4,.p b1 0),(8,.p b2 0),(14,Zx b)] [1] [b1] (ZA [] (Z5d b) (Z1 1 9 (.i (((YW b.steps):Nat):Int)) (ie (ar (Y1 2 16 (Zx b) 17 (.i (((YW b.steps):Nat):Int)) [1] [b1] (ic [] (Na b (YW b.steps) 14 (ha:=(har _ rfl))) ?_))))))))
 rintro _ _ ⟨v1,rfl,rfl⟩
 refine Z1 1 10 (Z6 (XN 14 (b.steps.take (YW b.steps))) v1) (ie (ar (Y1 2 19 (Zx b) 20 (.i (((YW b.steps):Nat):Int)) [2] [b1] (ic [] (Na b (YW b.steps) 15 (ha:=(har _ rfl))) ?_))))
 rintro _ _ ⟨v2,rfl,rfl⟩
 refine Z1 1 11 (Z6 (XN 15 (b.steps.take (YW b.steps))) v2) (ie (aq (ar (Yo 2 22 (Z0 (XN 15 (b.steps.take (YW b.steps)))) 23 (.i x) (ZA [] (U0 (XN 15 (b.steps.take (YW b.steps))) x) (Xp [(1,.i x),(2,Z0 fs),(3,.i q),(4,.p b1 0),(8,.p b2 0),(9,.i (((YW b.steps):Nat):Int)),(10,Z6 (XN 14 (b.steps.take (YW b.steps))) v1),(11,Z6 (XN 15 (b.steps.take (YW b.steps))) v2),(30,.b ((!(decide (x∈(XN 15 (b.steps.take (YW b.steps))))))||((fs.length:Int)==0)))] [.tail v2 1,.tail v1 1,.obj b2 [nl,.i 0],.obj b1 (Yn b)] ?_ ?_))))))
 ·refine ir 2 [(1,.i x),(2,Z0 fs),(3,.i q),(4,.p b1 0),(8,.p b2 0),(9,.i (((YW b.steps):Nat):Int)),(10,Z6 (XN 14 (b.steps.take (YW b.steps))) v1),(11,Z6 (XN 15 (b.steps.take (YW b.steps))) v2),(26,.b (!(decide (x∈(XN 15 (b.steps.take (YW b.steps)))))))] (ib (b:=(!(decide (x∈(XN 15 (b.steps.take (YW b.steps))))))) 26 (fun Za=>?_) (fun Za=>?_))
  ·have ZP:¬(x∈(XN 15 (b.steps.take (YW b.steps)))):=((Yt dq)).1 Za
   refine Z5 4 (.n 30 (.b true) (.d (.w (.w .z)))) (ie ?_)
   exact ZL 4 (fq (fq (Zr true Za fl)))
  have Y0:¬(¬(x∈(XN 15 (b.steps.take (YW b.steps))))):=ZG (Yt dq) Za
  refine Z5 1 (.n 27 (Z0 fs) (.w (.w (.k .z)))) (iw (Yd fs) (Z1 2 30 (.b ((fs.length:Int)==0)) (ie ?_)))
  exact ZL 4 (fq (fq (Zr ((fs.length:Int)==0) Za fl)))
 refine ac ((!(decide (x∈(XN 15 (b.steps.take (YW b.steps))))))||((fs.length:Int)==0)) (p:=(¬(x∈(XN 15 (b.steps.take (YW b.steps)))))∨((fs.length:Int)=0)) (Yh (Yt dq) Zh) (fun Ze=>?_) (fun Ze=>?_)
 ·refine ar (iR 1 [(8,.p b2 0),(31,Zx b)] [3] [b1] (ZH 2 b2 (Yn b) (ie ?_)))
  exact Zc (r3 [] [Zx b] [0] [(b2,b2)] ⟨rfl,rfl⟩ (Zg.agg (.cons (Zg.sl _ (Yv Zt (On (fun z=>Ze.elim (fun e=>e z.1) (fun e=>z.2 om))).symm)) (.cons li .nil))))
 refine ak (ar (ir 2 [(1,.i x),(2,Z0 fs),(3,.i q),(4,.p b1 0),(8,.p b2 0),(9,.i (((YW b.steps):Nat):Int)),(10,Z6 (XN 14 (b.steps.take (YW b.steps))) v1),(32,Z0 (XN 15 (b.steps.take (YW b.steps)))),(33,.i x)] (ic [] (Nr (XN 15 (b.steps.take (YW b.steps))) x) ?_)))
 rintro _ _ ⟨v3,rfl,rfl⟩
 refine Z1 1 11 (Z6 ((XN 15 (b.steps.take (YW b.steps))).erase x) v3) (ie (aq (ar (Z1 1 12 (.i 0) (ie (ab 0 (al (fun m F h=>∃(k:Nat) (D:List Int) (R:List Int) (v:Value),(k<=fs.length)/\(D.length<=b.steps.length)/\(R.length<=b.steps.length+k)/\(Ue (fs.drop k) (q+k) D R=Jl b.steps x fs q)/\F=[(1,.i x),(2,Z0 fs),(3,.i q),(4,.p b1 0),(8,.p b2 0),(9,.i (((YW b.steps):Nat):Int)),(10,Z0 D),(11,Z6 R v),(12,.i k)]/\h=[.obj b2 [nl,.i 0],.obj b1 (Yn b),.tail v 1]/\m=fs.length-k) _ _ _ ⟨0,(XN 14 (b.steps.take (YW b.steps))),((XN 15 (b.steps.take (YW b.steps))).erase x),v3,ob,om,om,(by simp [Jl]),rfl,rfl,rfl⟩ (wk [3,3,0] (fq (fw (fc (x:=Z6 (XN 14 (b.steps.take (YW b.steps))) v1) (Zg.forget _ _) (fr (Ye fl)))))) ?_)))))))
 rintro m F h ⟨k,D,R,v,Ym,Zp,Zz,YJ,rfl,rfl,rfl⟩
 refine aq (ar (Yo 2 35 (.i k) 36 (Z0 fs) (iw (Yd fs) (Z1 1 38 (.b (decide ((k:Int)<(fs.length:Int)))) (ie (ZM ((k:Int)<(fs.length:Int)) (fun Zk=>?_) (fun Zk=>?_)))))))
 ·refine ak (aq (ab 1 (ar (Yo 2 41 (Z0 fs) 42 (.i k) ?_))))
  obtain ⟨x1,Z3⟩:=Zs (xs:=fs) (j:=k) om
  refine Zq (Zo none (k:Int) 1 (Y3 Z3)) (Xp [(1,.i x),(2,Z0 fs),(3,.i q),(4,.p b1 0),(8,.p b2 0),(9,.i (((YW b.steps):Nat):Int)),(10,Z0 D),(11,Z6 R v),(12,.i k),(52,.b ((x1 != 0)&&(decide (((q+k:Nat):Int)∈D))))] [.obj b2 [nl,.i 0],.obj b1 (Yn b),.tail v 1] ?_ ?_)
  ·refine ir 3 [(1,.i x),(2,Z0 fs),(3,.i q),(4,.p b1 0),(8,.p b2 0),(9,.i (((YW b.steps):Nat):Int)),(10,Z0 D),(11,Z6 R v),(12,.i k),(46,.b (x1 != 0))] (ib (b:=(x1 != 0)) 46 (fun Zw=>?_) (fun Zw=>?_))
   ·have YB:x1≠0:=(Yc).1 Zw
    refine Z5 3 (.n 47 (Z0 D) (.n 48 (.i q) (.n 49 (.i k) (.w (.w (.k (.k .z))))))) (ia (((q+k:Nat):Int)) (((q:Int))+((k:Int))) (ZA [] (U0 D ((q+k:Nat):Int)) (Z1 1 52 (.b (decide (((q+k:Nat):Int)∈D))) (ie ?_))))
    exact ZL 3 (fq (fq (fr (Zr (decide (((q+k:Nat):Int)∈D)) Zw fl))))
   have YN:¬(x1≠0):=ZG Yc Zw
   refine Z5 6 (.n 52 (.b false) (.d (.w (.w (.k .z))))) (ie ?_)
   exact ZL 3 (fq (fq (fr (Zr false Zw fl))))
  refine JB (fun F h=>∃(D2:List Int) (R2:List Int) (w:Value),(Ue (fs.drop (k+1)) (q+((k+1:Nat):Int)) D2 R2=Jl b.steps x fs q)/\(D2.length<=b.steps.length)/\(R2.length<=b.steps.length+(k+1))/\F=[(1,.i x),(2,Z0 fs),(3,.i q),(4,.p b1 0),(8,.p b2 0),(9,.i (((YW b.steps):Nat):Int)),(10,Z0 D2),(11,Z6 R2 w),(12,.i k)]/\h=[.obj b2 [nl,.i 0],.obj b1 (Yn b),.tail w 1]) (fun _ _=>rfl) ?_ ?_
  ·refine ac ((x1 != 0)&&(decide (((q+k:Nat):Int)∈D))) (p:=(x1≠0)/\(((q+k:Nat):Int)∈D)) (YE Yc dq) (fun ZI=>?_) (fun ZI=>?_)
   ·refine az (ir 3 [(1,.i x),(2,Z0 fs),(3,.i q),(4,.p b1 0),(8,.p b2 0),(9,.i (((YW b.steps):Nat):Int)),(11,Z6 R v),(12,.i k),(53,Z0 D),(54,.i q),(55,.i k)] (ia (((q+k:Nat):Int)) (((q:Int))+((k:Int))) (ic [] (Nr D ((q+k:Nat):Int)) ?_)))
    rintro _ _ ⟨v4,rfl,rfl⟩
    refine Z1 1 10 (Z6 (D.erase ((q+k:Nat):Int)) v4) (ie ?_)
    exact ZV ⟨(D.erase ((q+k:Nat):Int)),R,v,(Z2v Z3 ZI.1 ZI.2 YJ),(Vf List.length_erase_le Zp),ob,rfl,rfl⟩ (wk [1,1,1] fl)
   refine ar (ir 2 [(1,.i x),(2,Z0 fs),(3,.i q),(4,.p b1 0),(8,.p b2 0),(9,.i (((YW b.steps):Nat):Int)),(10,Z0 D),(11,Z6 R v),(12,.i k),(58,Z0 fs),(59,.i k)] (Zq (Zo none (k:Int) 1 (Y3 Z3)) (Z1 2 62 (.b (x1 != 0)) (ie (ac (x1 != 0) Yc (fun Yi=>?_) (fun Yi=>?_))))))
   ·refine az (Z5 3 (.n 63 (Z6 R v) (.n 64 (.i q) (.n 65 (.i k) .r))) (ia (((q+k:Nat):Int)) (((q:Int))+((k:Int))) (iL (Z8 [((q+k:Nat):Int)]) 1 1 ?_)))
    intro v5
    refine Z5 0 (.n 67 (Z0 [((q+k:Nat):Int)]) (.p .r)) (ip 3 (Z8 (R++[((q+k:Nat):Int)])) (Z8 R) (Z8 [((q+k:Nat):Int)]) v none 1 (YD _) (YD _) (XY _) (by simp<;>omega) (by simp [XX,Z8]) ?_)
    intro v6
    refine Z5 1 (.n 11 (Z6 (R++[((q+k:Nat):Int)]) v6) (.p (.d (.p (.d (.d (.d (.d (.p (.w (.k (.k (.k (.d (.k .z))))))))))))))) (ie ?_)
    exact ZV ⟨D,(R++[((q+k:Nat):Int)]),v6,(Z2w Z3 Yi (fun z=>ZI ⟨Yi,z⟩) YJ),ob,(by simp;omega),rfl,rfl⟩ (wk [2,2,0] fl)
   refine ak ?_
   exact ZV ⟨D,R,v,(Z2x Z3 Yi YJ),ob,ob,rfl,rfl⟩ (ZL 3 fl)
  rintro F h ⟨D2,R2,w,Cj,Ck,Z0y,rfl,rfl⟩
  refine az (ir 1 [(1,.i x),(2,Z0 fs),(3,.i q),(4,.p b1 0),(8,.p b2 0),(9,.i (((YW b.steps):Nat):Int)),(10,Z0 D2),(11,Z6 R2 w),(39,.i k)] (ZO k (Z1 1 12 (.i (k+1:Nat)) (ie ?_))))
  exact ZQ ⟨k+1,D2,R2,w,ob,ob,ob,ob,rfl,rfl,rfl⟩ (ZL 3 (fq (fq (ZW k fl))))
 refine ax 0 (ar (Z1 1 69 (Z0 D) (ic [] (Qi 14 D) ?_)))
 rintro _ _ ⟨v7,rfl,rfl⟩
 refine Z1 1 71 (.i x) (ZA [] (KI 16 x) (iL [Y4 (Zi 16 x)] 1 5 ?_))
 intro v8
 refine Z5 0 (.n 73 (.sl [Y4 (Zi 16 x)] none) (.p .r)) (ip 1 (Zt ((D.map (Zi 14))++[Zi 16 x])) (Zt (D.map (Zi 14))) [Y4 (Zi 16 x)] v7 none 5 (X8 _) (TA rfl) rfl (by simp<;>omega) (by simp [Wx,Vb]) ?_)
 intro v9
 refine Z1 1 13 (ZX ((D.map (Zi 14))++[Zi 16 x]) v9) (ie (ar (Yo 2 75 (ZX ((D.map (Zi 14))++[Zi 16 x]) v9) 76 (Z0 R) (ic [] (Qi 15 R) ?_))))
 rintro _ _ ⟨v10,rfl,rfl⟩
 refine Z5 0 (.n 77 (Yj (R.map (Zi 15))) (.p .r)) (ip 1 (Zt (((D.map (Zi 14))++[Zi 16 x])++(R.map (Zi 15)))) (Zt ((D.map (Zi 14))++[Zi 16 x])) (Zt (R.map (Zi 15))) v9 none 5 (X8 _) (X8 _) (Vs _) (by simp<;>omega) (by simp [Wx,Zt]) ?_)
 intro v11
 refine Z5 1 (.n 13 (ZX (((D.map (Zi 14))++[Zi 16 x])++(R.map (Zi 15))) v11) (.q 78 (.k (.k (.k (.d .r)))))) (ie (aD 10 (Y6 6 10 [0,1,2,3] (.n 79 (ZX (((D.map (Zi 14))++[Zi 16 x])++(R.map (Zi 15))) v11) (.n 81 (Yj b.steps) (.n 82 (.i (((YW b.steps):Nat):Int)) .r))) [4] [b1] (dx 4 (K9 (es:=Zt b.steps) (hv:=none) (l:=(((YW b.steps):Nat):Int)) (m:=(((Zt b.steps).length:Nat):Int)) (sz:=5) (es':=Zt (b.steps.drop (YW b.steps))) kr om (by simp<;>omega) (by simp<;>omega) (X8 _) (by first|(simp only [VL,Vl,J3,J2];done)|(simp only [VL,Vl,J3,J2];rfl)|(simp [J3,J2];done))) (Y6 3 5 [6,7] (.n 86 (.i b.result) .r) [4] [b1] (Z9 5 (dp 5 0 [1] [b1] (Zt ((((D.map (Zi 14))++[Zi 16 x])++(R.map (Zi 15)))++(b.steps.drop (YW b.steps)))) (Zt (((D.map (Zi 14))++[Zi 16 x])++(R.map (Zi 15)))) (Zt (b.steps.drop (YW b.steps))) v11 none 5 (X8 _) (X8 _) (Vs _) (by simp<;>omega) (by simp [Wx,Zt]) ?_)))))))
 intro v12
 refine ZY 1 2 [8] 87 (.agg [ZX ((((D.map (Zi 14))++[Zi 16 x])++(R.map (Zi 15)))++(b.steps.drop (YW b.steps))) v12,.i b.result]) (Z9 9 (YK 9 3 [] [] b2 [ZX ((((D.map (Zi 14))++[Zi 16 x])++(R.map (Zi 15)))++(b.steps.drop (YW b.steps))) v12,.i b.result] (de ?_)))
 have hE:=Oq (U2.1 fun z=>Ze (.inl z)) (fun z=>Ze (.inr om)) (Z2u om YJ)
 exact Zc (r3 [] [.agg [ZX ((((D.map (Zi 14))++[Zi 16 x])++(R.map (Zi 15)))++(b.steps.drop (YW b.steps))) v12,.i b.result]] [0] [(b2,b2)] ⟨rfl,rfl⟩ (Zg.agg (.cons (Zg.sl _ (Yv Zt hE)) (.cons li .nil))))
theorem Z5h (n:Zy) (b:Z7) (mm:Nat) (hn:Xe n) (hw:wB n.decls b) (hb:mm+9*b.sz<=900000000) (ih:∀(b2:Z7) (m2:Nat),(wB n.decls b2)->(m2+9*b2.sz<=900000000)->(b2.sz<b.sz)->Zj Tryz.prog 164 [ZE n,Zx b2,.i m2] [] (fun r h=>r=Zx (WE n.decls m2 b2)/\h=[])):Zj Tryz.prog 164 [ZE n,Zx b,.i mm] [] (fun r h=>r=Zx (WE n.decls mm b)/\h=[]):=by
 have Xu:=hn.decls
 have hbz:=Vx b
 have ZD:=(QS b).1 hw
 refine ZK 107 Tryz.func164 (ar (iA (ZU n) ?_))
 intro b1
 refine iA (Yn b) ?_
 intro b2
 refine iA [nl,.i 0] ?_
 intro b3
 refine ie (ar (iL (Zt []) 0 5 ?_))
 intro v1
 refine iR 3 [(2,.i mm),(3,.p b1 0),(4,.p b2 0),(6,.p b3 0),(17,.agg [ZX [] v1,.i b.result])] [2] [b2] (iA [nl,.i 0] ?_)
 intro b4
 refine ZH 0 b4 [ZX [] v1,.i b.result] (ie (aq (ar (Z1 1 8 (.i 0) (ie (ab 0 (al (fun m F h=>∃(k:Nat) (q:Nat) (xs:List Z4) (v:Value),(k<=b.steps.length)/\(q<=mm+k)/\(xs.length=k)/\(xs++Uu n.decls q (b.steps.drop k)=Uu n.decls mm b.steps)/\F=[(2,.i q),(3,.p b1 0),(4,.p b2 0),(6,.p b3 0),(7,.p b4 0),(8,.i k)]/\h=[.obj b4 [ZX xs v,.i b.result],.obj b3 [nl,.i 0],.obj b2 (Yn b),.obj b1 (ZU n),.tail v 5]/\m=b.steps.length-k) _ _ _ ⟨0,mm,[],v1,ob,ob,ob,rfl,rfl,rfl,rfl⟩ (wk [0,1,1,1,0] (fq (fr (Ye fl)))) ?_)))))))
 rintro m F h ⟨k,q,xs,v,Ym,Zp,Zz,YJ,rfl,rfl,rfl⟩
 refine aq (ar (Y1 3 18 (.i k) 20 (Yj b.steps) [2] [b2] (iw (VE b.steps) (Z1 1 22 (.b (decide ((k:Int)<(b.steps.length:Int)))) (ie (ZM ((k:Int)<(b.steps.length:Int)) (fun Ze=>?_) (fun Ze=>?_)))))))
 ·refine ak (aq (ab 1 (ar (Y1 3 26 (Yj b.steps) 27 (.i k) [2] [b2] ?_))))
  obtain ⟨x1,Z3⟩:=Zs (xs:=b.steps) (j:=k) om
  have XC:=AS Z3
  have hws:=NV hw Z3
  have hkz:=T8 x1
  have haz:=Q7 x1
  have hdf:=Z7i hws
  refine Zq (Zo none (k:Int) 5 (Wy Z3)) (Z1 1 29 (Y4 x1) (iA [.i 0,.i 0,.i 0,nl,nl] ?_))
  intro b5
  refine ZH 0 b5 (Yg x1) (ie (ar (iL (YH []) 0 2 ?_)))
  intro v2
  refine Z1 1 10 (X4 [] v2) (ie (ar (Y1 4 32 (Zd n.decls) 34 (.i x1.num) [5,1] [b1,b5] (ic [] (KH n.decls x1.num) ?_))))
  rintro _ _ ⟨v3,rfl,rfl⟩
  refine Z1 1 11 (Z6 (Zu n.decls x1.num) v3) (ie (aq (ar (Z1 1 12 (.i 0) (ie (ab 2 (al (fun m F h=>∃(j:Nat) (u:Value) (ks:List Z7),(j<=x1.kids.length)/\(ks.length=j)/\(ks++Td n.decls q x1.op x1.num x1.args (x1.kids.drop j) j=Td n.decls q x1.op x1.num x1.args x1.kids 0)/\F=[(2,.i q),(3,.p b1 0),(4,.p b2 0),(6,.p b3 0),(7,.p b4 0),(8,.i k),(9,.p b5 0),(10,X4 ks u),(11,Z6 (Zu n.decls x1.num) v3),(12,.i j)]/\h=[.obj b5 (Yg x1),.obj b4 [ZX xs v,.i b.result],.obj b3 [nl,.i 0],.obj b2 (Yn b),.obj b1 (ZU n),.tail u 2,.tail v 5,.tail v3 1]/\m=x1.kids.length-j) _ _ _ ⟨0,v2,[],ob,ob,(by simp),rfl,rfl,rfl⟩ (wk [2,2,2,2,2,1,1,0] (fq (fq (fr (Ye fl))))) ?_)))))))
  rintro m F h ⟨j,u,ks,Uj,We,XJ,rfl,rfl,rfl⟩
  refine aq (ar (Y1 3 36 (.i j) 38 (Yz x1.kids) [0] [b5] (iw (VX x1.kids) (Z1 1 40 (.b (decide ((j:Int)<(x1.kids.length:Int)))) (ie (ZM ((j:Int)<(x1.kids.length:Int)) (fun Zk=>?_) (fun Zk=>?_)))))))
  ·refine ak (aq (ab 3 (ar (Yk 3 45 (.b (x1.op==8)) [0] [b5] (ie (ac (x1.op==8) Zh (fun ZI=>?_) (fun ZI=>?_)))))))
   ·refine aD 8 (Y6 4 8 [0,1,2,3] (.n 47 (Zd n.decls) (.n 48 (Z6 (Zu n.decls x1.num) v3) (.n 49 (.i j) .r))) [4] [b1] ?_)
    obtain ⟨x2,Zv⟩:=Zs (xs:=Zu n.decls x1.num) (j:=j) (by have h:=(CP hws (by assumption)).2;omega)
    have hfk:U9 n.decls x1.num j=ZB n.decls x2:=It (by rw [QU,Zv];rfl)
    have hcf:=VH Xu x2
    refine dx 4 (Zo (some v3) (j:Int) 1 (Y3 Zv)) (ZY 2 3 [5] 51 (.i x2) (Z9 6 (Ys 6 [] [] [] (Qh n.decls x2) (ZY 0 1 [7] 13 (Z0 (ZB n.decls x2)) (de (aE 22 (Y6 17 22 [0,1,2,3,4] (.n 53 (X4 ks u) (.n 54 (ZE n) (.n 56 (Yz x1.kids) (.n 57 (.i j) .r)))) [4,0] [b1,b5] ?_)))))))
    obtain ⟨x3,YT⟩:=Zs (xs:=x1.kids) (j:=j) om
    have hkb:=YT
    have hks:=T7 YT
    have hwk:=Hl hws YT
    have hpk:=Z7.pz_le x3
    refine dx 5 (Zo none (j:Int) 2 (UA YT)) (ZZ 13 16 [6,7,8] (.n 59 (Zx x3) (.n 60 (.i q) (.n 61 (Z0 (ZB n.decls x2)) .r))) (dn 9 (.i (((ZB n.decls x2).length:Nat):Int)) (.i (((Z8 (ZB n.decls x2)).length:Nat):Int)) (li (by rw [Yd])) (da 10 (((q+((ZB n.decls x2).length):Nat):Int)) (((q:Int))+((((ZB n.decls x2).length:Nat):Int))) (Y6 9 11 [12,13] (.n 66 (Z0 x1.args) .r) [0] [b5] ?_))))
    obtain ⟨x4,Ub⟩:=Zs (xs:=x1.args) (j:=0) (by obtain ⟨⟨a,ha2,_⟩,_⟩:=CP hws (by assumption);rw [ha2];simp)
    have hg1:=J7 Ub
    refine dx 14 (Zo none 0 1 (Y3 Ub)) (ZZ 5 8 [15,16,17] (.n 68 (.i x4) (.n 69 (Z0 (ZB n.decls x2)) (.n 70 (.i q) .r))) (Z9 11 (Ys 11 [] [0] [b5] (ih x3 (q+((ZB n.decls x2).length)) hwk ob ob) (Z9 18 (Ys 18 [] [] [] (Z56 (WE n.decls (q+((ZB n.decls x2).length)) x3) x4 (ZB n.decls x2) q (ha:=(by rw [Ek];exact Z4r ((QS _).1 hwk))) (hz:=(Vf (El Xu _ hwk) om))) (Z9 19 (dL 19 [] [] [Zx (QW (WE n.decls (q+((ZB n.decls x2).length)) x3) x4 (ZB n.decls x2) q)] 1 2 ?_)))))))
    intro v4
    refine ZZ 2 2 [] (.n 72 (.sl [Zx (QW (WE n.decls (q+((ZB n.decls x2).length)) x3) x4 (ZB n.decls x2) q)] none) (.p .r)) (Z9 20 (dp 20 6 [] [] (YH (ks++[QW (WE n.decls (q+((ZB n.decls x2).length)) x3) x4 (ZB n.decls x2) q])) (YH ks) [Zx (QW (WE n.decls (q+((ZB n.decls x2).length)) x3) x4 (ZB n.decls x2) q)] u none 2 (T0 _) (TA rfl) rfl (by simp<;>omega) (by simp [J0,Um]) ?_))
    intro v5
    refine Xa 0 1 [21] [(2,.i q),(3,.p b1 0),(4,.p b2 0),(6,.p b3 0),(7,.p b4 0),(8,.i k),(9,.p b5 0),(10,X4 (ks++[QW (WE n.decls (q+((ZB n.decls x2).length)) x3) x4 (ZB n.decls x2) q]) v5),(11,Z6 (Zu n.decls x1.num) v3),(12,.i j)] (de (az (Z1 1 41 (.i j) (ZO j (Z5 1 (.n 12 (.i (j+1:Nat)) (.p (.d (.w (.w (.k .z)))))) (ie ?_))))))
    exact ZQ ⟨j+1,v5,(ks++[QW (WE n.decls (q+((ZB n.decls x2).length)) x3) x4 (ZB n.decls x2) q]),ob,(by simp;omega),(by have h:=N3 hkb XJ;rw [Em,Zm (by assumption),hfk,hg1] at h;exact h),rfl,rfl,rfl⟩ (wk [2,2,2,2,2,0,1,1] (fq (fq (fr (ZW j fl)))))
   refine aE 12 (Y6 7 12 [0,1,2,3,4] (.n 74 (X4 ks u) (.n 75 (ZE n) (.n 77 (Yz x1.kids) (.n 78 (.i j) .r)))) [4,0] [b1,b5] ?_)
   obtain ⟨x5,UF⟩:=Zs (xs:=x1.kids) (j:=j) om
   have hkb:=UF
   have hks:=T7 UF
   have hwk:=Hl hws UF
   have hpk:=Z7.pz_le x5
   refine dx 5 (Zo none (j:Int) 2 (UA UF)) (ZZ 4 6 [6,7] (.n 80 (Zx x5) (.n 81 (.i q) .r)) (Z9 8 (Ys 8 [] [] [] (ih x5 q hwk ob ob) (Z9 9 (dL 9 [] [] [Zx (WE n.decls q x5)] 1 2 ?_)))))
   intro v6
   refine ZZ 2 2 [] (.n 83 (.sl [Zx (WE n.decls q x5)] none) (.p .r)) (Z9 10 (dp 10 6 [] [] (YH (ks++[WE n.decls q x5])) (YH ks) [Zx (WE n.decls q x5)] u none 2 (T0 _) (TA rfl) rfl (by simp<;>omega) (by simp [J0,Um]) ?_))
   intro v7
   refine ZZ 0 1 [11] (.n 10 (X4 (ks++[WE n.decls q x5]) v7) (.p (.d (.p (.d (.d (.p (.d (.d (.d (.d (.d (.d (.p (.d (.d (.w (.k (.k (.k (.d .r))))))))))))))))))))) (de (az (Z1 1 41 (.i j) (ZO j (Z5 1 (.n 12 (.i (j+1:Nat)) (.p (.d (.w (.w (.k .z)))))) (ie ?_))))))
   exact ZQ ⟨j+1,v7,(ks++[WE n.decls q x5]),ob,(by simp;omega),(by have h:=N3 hkb XJ;rw [Em,Zb (by assumption)] at h;exact h),rfl,rfl,rfl⟩ (wk [2,2,2,2,2,0,1,1] (fq (fq (fr (ZW j fl)))))
  have hK:=Z4p om XJ
  refine ax 2 (aD 17 (Y6 6 17 [0,1,2,3,4,5,6,7,8,9,11] (.n 86 (ZX xs v) (.n 88 (.i x1.op) (.n 90 (.i x1.num) (.n 92 (.i x1.into) (.n 94 (Z0 x1.args) (.n 96 (X4 ks u) .r)))))) [1,0,0,0,0] [b4,b5,b5,b5,b5] (Z9 10 (dc 10 [] [0,0,0,1] [b5,b5,b5,b4] (VJ x1.args) ?_))))
  rintro _ _ ⟨v8,rfl,rfl⟩
  refine ZY 4 5 [12] 97 (.agg [.i x1.op,.i x1.num,.i x1.into,Z0 x1.args,Yz ks]) (Z9 13 (dL 13 [1] [b4] [Y4 (Z4.mk x1.op x1.num x1.into x1.args ks)] 1 5 ?_))
  intro v9
  refine ZZ 3 3 [] (.n 98 (.sl [Y4 (Z4.mk x1.op x1.num x1.into x1.args ks)] none) (.p .r)) (Z9 14 (dp 14 8 [] [] (Zt (xs++[Z4.mk x1.op x1.num x1.into x1.args ks])) (Zt xs) [Y4 (Z4.mk x1.op x1.num x1.into x1.args ks)] v none 5 (X8 _) (TA rfl) rfl (by simp<;>omega) (by simp [Wx,Vb]) ?_))
  intro v10
  refine ZY 1 2 [15] 100 (.p b4 0) (Z9 16 (YK 16 4 [] [] b4 [ZX (xs++[Z4.mk x1.op x1.num x1.into x1.args ks]) v10,.i b.result] (de (ar (Yk 2 102 (.i x1.op) [4] [b5] (ZA [] (QN x1.op) (ie (JB (fun F h=>F=[(2,.i (((if YF x1.op=true then q else q+1):Nat):Int)),(3,.p b1 0),(4,.p b2 0),(6,.p b3 0),(7,.p b4 0),(8,.i k)]/\h=[.obj b4 [ZX (xs++[Z4.mk x1.op x1.num x1.into x1.args ks]) v10,.i b.result],.obj b3 [nl,.i 0],.obj b2 (Yn b),.obj b1 (ZU n),.tail v10 5]) (fun _ _=>rfl) ?_ ?_))))))))
  ·refine ac (Xf x1.op) Iff.rfl (fun Yi=>?_) (fun Yi=>?_)
   ·refine az (ir 1 [(3,.p b1 0),(4,.p b2 0),(6,.p b3 0),(7,.p b4 0),(8,.i k),(104,.i q)] (ZO q (Z1 1 2 (.i (q+1:Nat)) (ie ?_))))
    exact ZV ⟨rfl,rfl⟩ (wk [0,4,4,4,0] (fc (x:=.i (q+1:Nat)) (li (by rw [Zb (fun z=>by rw [hdf,z] at Yi;cases Yi)])) fl))
   refine ak ?_
   exact ZV ⟨rfl,rfl⟩ (wk [0,4,4,4,0] (fc (x:=.i q) (li (by rw [Zm (BN fun z=>Yi (by rw [hdf,Kd.2 z];rfl))])) fl))
  rintro F h ⟨rfl,rfl⟩
  refine az (ir 1 [(2,.i (((if YF x1.op=true then q else q+1):Nat):Int)),(3,.p b1 0),(4,.p b2 0),(6,.p b3 0),(7,.p b4 0),(23,.i k)] (ZO k (Z1 1 8 (.i (k+1:Nat)) (ie ?_))))
  exact ZQ ⟨k+1,(if YF x1.op=true then q else q+1),(xs++[Z4.mk x1.op x1.num x1.into x1.args ks]),v10,ob,(by split<;>omega),(by simp;omega),(by have h:=Z4t Z3 YJ;rw [<-hK] at h;exact h),rfl,rfl,rfl⟩ (ZL 5 (fq (fr (ZW k fl))))
 refine ax 0 (ar (Yk 1 106 (.agg [ZX xs v,.i b.result]) [0] [b4] (ZH 1 b3 [ZX xs v,.i b.result] (ie ?_))))
 exact Zc (r3 [] [.agg [ZX xs v,.i b.result]] [0] [(b3,b3)] ⟨rfl,rfl⟩ (Zg.agg (.cons (Zg.sl _ (Yv Zt (by rw [Ek];exact Z4s om YJ))) (.cons (li (by rw [Ek];rfl)) .nil))))
theorem Z5f (n:Zy) (hn:Xe n) (k:Nat):∀(b2:Z7) (m2:Nat),(wB n.decls b2)->(m2+9*b2.sz<=900000000)->(b2.sz<k)->Zj Tryz.prog 164 [ZE n,Zx b2,.i m2] [] (fun r h=>r=Zx (WE n.decls m2 b2)/\h=[]):=by
 induction k with
 | zero=>intro b mm _ _ h;omega
 | succ k ih=>intro b mm h1 h2 h3;exact Z5h n b mm hn h1 h2 fun b2 m2 k1 k2 k3=>ih b2 m2 k1 k2 om
theorem Z5g (n:Zy) (b:Z7) (mm:Nat) (hn:Xe n:=by exact ob) (hw:wB n.decls b:=by exact ob) (hb:mm+9*b.sz<=900000000:=by exact ob):Zj Tryz.prog 164 [ZE n,Zx b,.i mm] [] (fun r h=>r=Zx (WE n.decls mm b)/\h=[]):=Z5f n hn (b.sz+1) b mm hw hb om
theorem GZ (b:Z7) (hz:b.sz<=1000000000:=by exact ob):Zj Tryz.prog 243 [Zx b] [] (fun r h=>r=.i (((Yr b.steps):Nat):Int)/\h=[]):=by
 have hbz:=Vx b
 refine ZK 21 Tryz.func243 (ar (iA (Yn b) ?_))
 intro b1
 refine ir 1 [(1,.p b1 0)] (ie (ar (Z1 1 3 (.i 0) (ie (aq (ab 0 (al (fun m F h=>∃(k:Nat),(k<=b.steps.length)/\(k+Yr (b.steps.drop k)=Yr b.steps)/\F=[(1,.p b1 0),(3,.i k)]/\h=[.obj b1 (Yn b)]/\m=b.steps.length-k) _ _ _ ⟨0,ob,(by simp),rfl,rfl,rfl⟩ (wk [0] (fr (Ye fl))) ?_)))))))
 rintro m F h ⟨k,Ym,Zp,rfl,rfl,rfl⟩
 refine aq (ar (Y1 3 4 (.i k) 6 (Yj b.steps) [0] [b1] (iw (VE b.steps) (Z1 2 9 (.b (decide ((k:Int)<(b.steps.length:Int)))) (ib (b:=(decide ((k:Int)<(b.steps.length:Int)))) 9 (fun Za=>?_) (fun Za=>?_))))))
 ·have ZP:(k:Int)<(b.steps.length:Int):=(dq).1 Za
  refine Y2 3 (.n 11 (Yj b.steps) (.n 12 (.i k) (.k (.d .r)))) [0] [b1] ?_
  obtain ⟨x1,Z3⟩:=Zs (xs:=b.steps) (j:=k) om
  refine Zq (Zo none (k:Int) 5 (Wy Z3)) (Z1 2 15 (.i x1.op) (ZA [] (Ni x1.op) (Z1 1 17 (.b (YF x1.op)) (ie (ac (YF x1.op) Iff.rfl (fun Ze=>?_) (fun Ze=>?_))))))
  ·refine ak (ab 1 (az (Z1 1 18 (.i k) (ZO k (ir 1 [(1,.p b1 0),(3,.i (k+1:Nat))] (ie ?_))))))
   exact ZQ ⟨k+1,ob,(Z1j Z3 Ze Zp),rfl,rfl,rfl⟩ (wk [0] (fr (ZW k fl)))
  refine ax 0 (ar (ir 2 [(2,.i k)] (ie ?_)))
  exact Zc (r2 [] [.i k] ⟨rfl,rfl⟩ (li (by have:=Z1k Z3 Ze Zp;omega)))
 have Y0:¬((k:Int)<(b.steps.length:Int)):=ZG dq Za
 refine Z5 8 (.n 17 (.b false) (.k (.d .r))) (ie (WS (ax 0 (ar (ir 2 [(2,.i k)] (ie ?_))))))
 exact Zc (r2 [] [.i k] ⟨rfl,rfl⟩ (li (by have:=Z1i om Zp;omega)))
theorem Nm (b:Z7) (mm:Nat) (op:Int) (x:Int) (hm:mm<=b.steps.length:=by exact ob) (ha:∀s∈b.steps.take mm,s.op=op->∃a,s.args=[a]) (hz:b.sz<=1000000000:=by exact ob):Zj Tryz.prog 244 [Zx b,.i mm,.i op,.i x] [] (fun r h=>r=.i (XB op x (b.steps.take mm) 0)/\h=[]):=by
 have hbz:=Vx b
 refine ZK 36 Tryz.func244 (ar (iA (Yn b) ?_))
 intro b1
 refine ir 1 [(1,.i mm),(2,.i op),(3,.i x),(4,.p b1 0)] (ie (aq (ar (Z1 1 9 (.i 0) (ie (ab 0 (al (fun m F h=>∃(k:Nat),(k<=mm)/\(XB op x ((b.steps.take mm).drop k) k=XB op x (b.steps.take mm) 0)/\F=[(1,.i mm),(2,.i op),(3,.i x),(4,.p b1 0),(9,.i k)]/\h=[.obj b1 (Yn b)]/\m=mm-k) _ _ _ ⟨0,ob,(by simp),rfl,rfl,rfl⟩ (wk [0] (fq (Ye fl))) ?_)))))))
 rintro m F h ⟨k,Ym,Zp,rfl,rfl,rfl⟩
 refine aq (ar (Z1 3 12 (.b (decide ((k:Int)<(mm:Int)))) (ie (ZM ((k:Int)<(mm:Int)) (fun Ze=>?_) (fun Ze=>?_)))))
 ·refine ak (aq (ab 1 (ar (Y1 3 16 (Yj b.steps) 17 (.i k) [0] [b1] ?_))))
  obtain ⟨x1,Z3⟩:=Zs (xs:=b.steps) (j:=k) om
  have hxt:(b.steps.take mm)[k]? = some x1:=by rw [List.getElem?_take_of_lt om];exact Z3
  have hxm:=Y7 hxt
  refine Zq (Zo none (k:Int) 5 (Wy Z3)) (Z1 5 23 (.b (x1.op==op)) (ib (b:=(x1.op==op)) 23 (fun Za=>?_) (fun Za=>?_)))
  ·have ZP:x1.op=op:=(Zh).1 Za
   refine Y2 3 (.n 25 (Yj b.steps) (.n 26 (.i k) (.k (.d .r)))) [0] [b1] (Zq (Zo none (k:Int) 5 (Wy Z3)) (Z1 2 29 (Z0 x1.args) ?_))
   obtain ⟨x2,Zv⟩:=Zs (xs:=x1.args) (j:=0) (by obtain ⟨a,ha2⟩:=ha x1 hxm (by assumption);rw [ha2];simp)
   have hg0:=J7 Zv
   refine Zq (Zo none 0 1 (Y3 Zv)) (Z1 4 34 (.b (x2==x)) (ie (ac (x2==x) Zh (fun Zk=>?_) (fun Zk=>?_))))
   ·refine ar (ir 2 [(8,.i k)] (ie ?_))
    exact Zc (r2 [] [.i k] ⟨rfl,rfl⟩ (li (by have h:=OJ hxt ⟨by assumption,by rw [hg0];assumption⟩ Zp;omega)))
   refine ak (az (Z1 1 13 (.i k) (ZO k (ir 1 [(1,.i mm),(2,.i op),(3,.i x),(4,.p b1 0),(9,.i (k+1:Nat))] (ie ?_)))))
   exact ZQ ⟨k+1,ob,(HG hxt (fun z=>Zk (by rw [<-hg0];exact z.2)) Zp),rfl,rfl,rfl⟩ (wk [0] (fq (ZW k fl)))
  have Y0:¬(x1.op=op):=ZG Zh Za
  refine Z5 11 (.n 34 (.b false) (.k (.d .r))) (ie (WS (ak (az (Z1 1 13 (.i k) (ZO k (ir 1 [(1,.i mm),(2,.i op),(3,.i x),(4,.p b1 0),(9,.i (k+1:Nat))] (ie ?_))))))))
  exact ZQ ⟨k+1,ob,(HG hxt (fun z=>absurd z.1 (by assumption)) Zp),rfl,rfl,rfl⟩ (wk [0] (fq (ZW k fl)))
 refine ax 0 (ar (ir 1 [(8,.i (-1))] (ie ?_)))
 exact Zc (r2 [] [.i (-1)] ⟨rfl,rfl⟩ (li (by have h:=OI (by rw [Wv];omega) Zp;omega)))
theorem Z4z (b:Z7) (frm0:Nat) (many:Nat) (hm:frm0<=b.steps.length:=by exact ob) (hz:b.sz<=1000000000:=by exact ob):Zj Tryz.prog 264 [Zx b,.i frm0,.i many] [] (fun r h=>r=.i (XO many (b.steps.drop frm0) frm0)/\h=[]):=by
 have hbz:=Vx b
 refine ZK 44 Tryz.func264 (ar (iA (Yn b) ?_))
 intro b1
 refine ir 1 [(1,.i frm0),(2,.i many),(3,.p b1 0)] (ie (aq (ar (Z1 2 7 (.i frm0) (ie (ab 0 (al (fun m F h=>∃(k:Nat),(k<=b.steps.length)/\(XO many (b.steps.drop k) k=XO many (b.steps.drop frm0) frm0)/\F=[(2,.i many),(3,.p b1 0),(7,.i k)]/\h=[.obj b1 (Yn b)]/\m=b.steps.length-k) _ _ _ ⟨frm0,ob,rfl,rfl,rfl,rfl⟩ (wk [0] fl) ?_)))))))
 rintro m F h ⟨k,Ym,Zp,rfl,rfl,rfl⟩
 refine aq (ar (Y1 3 9 (.i k) 11 (Yj b.steps) [0] [b1] (iw (VE b.steps) (Z1 1 13 (.b (decide ((k:Int)<(b.steps.length:Int)))) (ie (ZM ((k:Int)<(b.steps.length:Int)) (fun Ze=>?_) (fun Ze=>?_)))))))
 ·refine ak (aq (ab 1 (ar (Y1 3 17 (Yj b.steps) 18 (.i k) [0] [b1] ?_))))
  obtain ⟨x1,Z3⟩:=Zs (xs:=b.steps) (j:=k) om
  refine Zq (Zo none (k:Int) 5 (Wy Z3)) (XP 16 [(2,.i many),(3,.p b1 0),(7,.i k),(31,.b ((x1.op==6)&&(x1.into==0)))] [.obj b1 (Yn b)] ?_ (fun hj1=>?_))
  ·refine Xp [(2,.i many),(3,.p b1 0),(7,.i k),(42,.b (((x1.op==6)&&(x1.into==0))&&((x1.args.length:Int)==(many:Int))))] [.obj b1 (Yn b)] ?_ ?_
   ·refine ir 1 [(2,.i many),(3,.p b1 0),(7,.i k),(32,.b ((x1.op==6)&&(x1.into==0)))] (ib (b:=((x1.op==6)&&(x1.into==0))) 32 (fun Za=>?_) (fun Za=>?_))
    ·have ZP:(x1.op=6)/\(x1.into=0):=((YE Zh Zh)).1 Za
     refine Y2 3 (.n 34 (Yj b.steps) (.n 35 (.i k) (.w .z))) [0] [b1] (Zq (Zo none (k:Int) 5 (Wy Z3)) (Z1 2 38 (Z0 x1.args) (iw (Yd x1.args) (Z1 3 42 (.b ((x1.args.length:Int)==(many:Int))) (ie ?_)))))
     exact wk [0] (fw (fr (Zr ((x1.args.length:Int)==(many:Int)) Za fl)))
    have Y0:¬((x1.op=6)/\(x1.into=0)):=ZG (YE Zh Zh) Za
    refine Z5 10 (.n 42 (.b false) (.d (.k (.k (.k .z))))) (ie ?_)
    exact wk [0] (fw (fr (Zr false Za fl)))
   refine ac (((x1.op==6)&&(x1.into==0))&&((x1.args.length:Int)==(many:Int))) (p:=((x1.op=6)/\(x1.into=0))/\((x1.args.length:Int)=(many:Int))) (YE (YE Zh Zh) Zh) (fun Zk=>?_) (fun Zk=>?_)
   ·refine ar (ir 2 [(6,.i k)] (ie ?_))
    exact Zc (r2 [] [.i k] ⟨rfl,rfl⟩ (li (by have h:=P7 Z3 (show Qb many x1 from ⟨Zk.1,by omega⟩) Zp;omega)))
   refine ak (az (ir 1 [(2,.i many),(3,.p b1 0),(14,.i k)] (ZO k (Z1 1 7 (.i (k+1:Nat)) (ie ?_)))))
   exact ZQ ⟨k+1,ob,(P6 Z3 (fun z=>Zk ⟨z.1,by have:=z.2;omega⟩) Zp),rfl,rfl,rfl⟩ (wk [0] (fw (ZW k fl)))
  refine ir 4 [(2,.i many),(3,.p b1 0),(7,.i k),(23,.b (x1.op==6))] (ib (b:=(x1.op==6)) 23 (fun Zw=>?_) (fun Zw=>?_))
  ·have YB:x1.op=6:=(Zh).1 Zw
   refine Y2 3 (.n 25 (Yj b.steps) (.n 26 (.i k) (.w .z))) [0] [b1] (Zq (Zo none (k:Int) 5 (Wy Z3)) (Z1 4 31 (.b (x1.into==0)) ?_))
   exact YG (wk [0] (fw (fr (Zr (x1.into==0) Zw fl)))) hj1
  have YN:¬(x1.op=6):=ZG Zh Zw
  refine Z5 8 (.n 31 (.b false) (.d (.k (.k (.k .z))))) ?_
  exact YG (wk [0] (fw (fr (Zr false Zw fl)))) hj1
 refine ax 0 (ar (ir 1 [(6,.i (-1))] (ie ?_)))
 exact Zc (r2 [] [.i (-1)] ⟨rfl,rfl⟩ (li (by have h:=P5 om Zp;omega)))
theorem Pj (b:Z7) (hz:b.sz<=1000000000):Zj Tryz.prog 86 [Zx b] [] (fun r h=>∃(v:Hd),r=.agg [.h v,.i b.result]/\h=[rK v 5 (Zl (Zt b.steps))]):=by
 have hbz:=Vx b
 refine ZK 28 Tryz.func86 (ar (iA (Yn b) ?_))
 intro b1
 refine iA [nl,.i 0] ?_
 intro b2
 refine ie (ar (DH 5 ?_))
 intro g1
 refine iR 3 [(1,.p b1 0),(2,.p b2 0),(8,.agg [.ms g1 0 0 0,.i b.result])] [2] [b1] (iA [nl,.i 0] ?_)
 intro b3
 refine ZH 0 b3 [.ms g1 0 0 0,.i b.result] (ie (aq (ar (Z1 1 4 (.i 0) (ie (ab 0 (al (fun m F h=>∃(k:Nat) (v:Hd),(k<=b.steps.length)/\F=[(1,.p b1 0),(2,.p b2 0),(3,.p b3 0),(4,.i k)]/\h=[.obj b3 [.h v,.i b.result],.obj b2 [nl,.i 0],.obj b1 (Yn b),rK v 5 (Zl (Zt (b.steps.take k)))]/\m=b.steps.length-k) _ _ _ ⟨0,(⟨some ⟨g1,0,none⟩,0,0⟩:Hd),ob,rfl,rfl,rfl⟩ (wk [0,1,1,0] (fw (fr (Ye fl))) (e:=(rc (rc (rc (rr (ls:=[]) ob rz)))))) ?_)))))))
 rintro m F h ⟨k,v,Ym,rfl,rfl,rfl⟩
 refine aq (ar (Y1 3 9 (.i k) 11 (Yj b.steps) [2] [b1] (iw (VE b.steps) (Z1 1 13 (.b (decide ((k:Int)<(b.steps.length:Int)))) (ie (ZM ((k:Int)<(b.steps.length:Int)) (fun Ze=>?_) (fun Ze=>?_)))))))
 ·refine ak (aq (ab 1 (aE 12 (Y6 7 12 [0,1,2,3,4] (.n 17 (.h v) (.n 19 (Yj b.steps) (.n 20 (.i k) .r))) [0,2] [b3,b1] ?_))))
  obtain ⟨x1,Z3⟩:=Zs (xs:=b.steps) (j:=k) om
  have hss:=KJ Z3
  refine dx 5 (Zo none (k:Int) 5 (Wy Z3)) (ZY 5 6 [6] 22 (Y4 x1) (Z9 7 (Ys 7 [] [0] [b3] (Ng x1) (Z9 8 (dL 8 [0] [b3] [Y4 x1] 1 5 ?_)))))
  intro v1
  refine ZZ 3 3 [] (.n 24 (.sl [Y4 x1] none) (.p .r)) (Z9 9 (Fa 9 4 k [] [] v 5 (Zl (Zt (b.steps.take k))) [Y4 x1] none (by rw [TR,Wv,Vp om]) (TA rfl) rfl (List.cons_ne_nil _ _) (by simp<;>omega) ?_))
  intro v2
  refine ZY 1 2 [10] 26 (.p b3 0) (Z9 11 (YK 11 2 [] [] b3 [.h v2,.i b.result] (de (az (Z1 1 14 (.i k) (ZO k (ir 1 [(1,.p b1 0),(2,.p b2 0),(3,.p b3 0),(4,.i (k+1:Nat))] (ie ?_))))))))
  exact ZQ ⟨k+1,v2,ob,rfl,rfl,rfl⟩ (wk [0,2,2,0] (fw (fr (ZW k fl))) (e:=(rc (rc (rc (rr (ls:=Zl (Zt (b.steps.take k))++Zl [Y4 x1]) (Iz Z3) rz))))))
 refine ax 0 (ar (Yk 1 27 (.agg [.h v,.i b.result]) [0] [b3] (ZH 1 b2 [.h v,.i b.result] (ie ?_))))
 exact Zc (r3 [3] [.agg [.h v,.i b.result]] [0] [(b2,b2)] ⟨v,rfl,rfl⟩ (lr _) (eq:=(rr (ls:=Zl (Zt (b.steps.take k))) (by rw [Ve om]) rz)))
theorem Pi (b:Z7) (hz:b.sz<=1000000000:=by exact ob) (h0:0<b.steps.length:=by exact ob):Zj Tryz.prog 86 [Zx b] [] (fun r h=>∃(g:Nat) (c:Nat),r=.agg [.ms g 0 b.steps.length c,.i b.result]/\h=[.row (.slice (some ⟨g,0,none⟩) b.steps.length c) 5 (Zl (Zt b.steps))]):=(Pj b hz).form (T:=fun v=>.agg [.h v,.i b.result]) (m:=b.steps.length) (TR _) om h0
theorem Z57 (ds:List Zf) (b:Z7) (x:Int) (many:Nat) (hw:wB ds b:=by exact ob) (hx:0<=x/\x<=900000000:=by exact ob) (hz:b.sz<=1000000000:=by exact ob):Zj Tryz.prog 242 [Zx b,.i x,.i many] [] (fun r h=>r=Zx (V6 b x many)/\h=[]):=by
 have hbz:=Vx b
 have ZD:=(QS b).1 hw
 have hrl:=Cp b.steps
 refine ZK 57 Tryz.func242 (ar (iA (Yn b) ?_))
 intro b1
 refine iA [nl,.i 0] ?_
 intro b2
 refine ie (aD 6 (W2 3 6 [0,1,3] [(1,.i x),(2,.i many),(3,.p b1 0),(6,.p b2 0),(11,Zx b),(12,Zx b),(14,.i x)] [1,1] [b1,b1] (Z9 2 (Ys 2 [] [1] [b1] (GZ b) (Z9 4 (Ys 4 [] [] [] (Nm b (Yr b.steps) 16 x (ha:=(fun s hs h16=>Hr (EI ZD s (TJ hs) (by rw [h16];rfl))))) (ZY 0 1 [5] 7 (.i (XB 16 x (b.steps.take (Yr b.steps)) 0)) (de (aD 6 (Y6 3 6 [0,1,3] (.n 16 (Zx b) (.n 17 (Zx b) (.n 19 (.i many) .r))) [1,1] [b1,b1] (Z9 2 (Ys 2 [] [1] [b1] (GZ b) (Z9 4 (Ys 4 [] [] [] (Z4z b (Yr b.steps) many) (ZY 0 1 [5] 8 (.i (XO many (b.steps.drop (Yr b.steps)) (Yr b.steps))) (de (aq (ar (Xp [(1,.i x),(3,.p b1 0),(6,.p b2 0),(7,.i (XB 16 x (b.steps.take (Yr b.steps)) 0)),(8,.i (XO many (b.steps.drop (Yr b.steps)) (Yr b.steps))),(26,.b ((decide ((XB 16 x (b.steps.take (Yr b.steps)) 0)<0))||(decide ((XO many (b.steps.drop (Yr b.steps)) (Yr b.steps))<0))))] [.obj b2 [nl,.i 0],.obj b1 (Yn b)] ?_ ?_)))))))))))))))))))
 ·refine ir 3 [(1,.i x),(3,.p b1 0),(6,.p b2 0),(7,.i (XB 16 x (b.steps.take (Yr b.steps)) 0)),(8,.i (XO many (b.steps.drop (Yr b.steps)) (Yr b.steps))),(23,.b (decide ((XB 16 x (b.steps.take (Yr b.steps)) 0)<0)))] (ib (b:=(decide ((XB 16 x (b.steps.take (Yr b.steps)) 0)<0))) 23 (fun Za=>?_) (fun Za=>?_))
  ·have ZP:(XB 16 x (b.steps.take (Yr b.steps)) 0)<0:=(dq).1 Za
   refine Z5 3 (.n 26 (.b true) (.d (.w (.k .z)))) (ie ?_)
   exact wk [0,0] (fq (fr (Zr true Za fl)))
  have Y0:¬((XB 16 x (b.steps.take (Yr b.steps)) 0)<0):=ZG dq Za
  refine Z5 3 (.n 26 (.b (decide ((XO many (b.steps.drop (Yr b.steps)) (Yr b.steps))<0))) (.d (.w (.k .z)))) (ie ?_)
  exact wk [0,0] (fq (fr (Zr (decide ((XO many (b.steps.drop (Yr b.steps)) (Yr b.steps))<0)) Za fl)))
 refine ac ((decide ((XB 16 x (b.steps.take (Yr b.steps)) 0)<0))||(decide ((XO many (b.steps.drop (Yr b.steps)) (Yr b.steps))<0))) (p:=((XB 16 x (b.steps.take (Yr b.steps)) 0)<0)∨((XO many (b.steps.drop (Yr b.steps)) (Yr b.steps))<0)) (Yh dq dq) (fun Ze=>?_) (fun Ze=>?_)
 ·refine ar (iR 1 [(6,.p b2 0),(27,Zx b)] [1] [b1] (ZH 0 b2 (Yn b) (ie ?_)))
  exact Zc (r3 [] [Zx b] [0] [(b2,b2)] ⟨rfl,rfl⟩ (Zg.agg (.cons (Zg.sl _ (Yv Zt (Z39 Ze).symm)) (.cons li .nil))))
 obtain ⟨o1,o2,so,o3,o4⟩:=Cy (xs:=b.steps) (x:=x) (fun z=>Ze (.inl z))
 obtain ⟨p1,p2,sc,p3,p4,p5⟩:=JI (xs:=b.steps) (many:=many) (fun z=>Ze (.inr z))
 rw [show V5 b.steps x=(XB 16 x (b.steps.take (Yr b.steps)) 0) from rfl] at o1 o2
 rw [show Wn b.steps many=(XO many (b.steps.drop (Yr b.steps)) (Yr b.steps)) from rfl] at p1 p2
 refine ak (ar (iR 1 [(1,.i x),(6,.p b2 0),(7,.i (XB 16 x (b.steps.take (Yr b.steps)) 0)),(8,.i (XO many (b.steps.drop (Yr b.steps)) (Yr b.steps))),(28,Zx b)] [1] [b1] (ic [] (Pi b) ?_)))
 rintro _ _ ⟨g1,c1,rfl,rfl⟩
 refine iA [nl,.i 0] ?_
 intro b3
 refine ZH 0 b3 [.ms g1 0 b.steps.length c1,.i b.result] (ie (aD 7 (Y6 3 7 [0,1,2,3] (.n 31 (.ms g1 0 b.steps.length c1) (.n 32 (.i (XB 16 x (b.steps.take (Yr b.steps)) 0)) (.n 33 (.i x) .r))) [0] [b3] (Z9 4 (Ys 4 [] [0] [b3] (KI 17 x) (dx 5 (W5 g1 b.steps.length c1 ((XB 16 x (b.steps.take (Yr b.steps)) 0).toNat) 5 (XB 16 x (b.steps.take (Yr b.steps)) 0)) (Z9 6 (At 6 1 [] [] g1 b.steps.length c1 5 (((XB 16 x (b.steps.take (Yr b.steps)) 0).toNat)*5) (Yg (Zi 17 x)) (Zl (Zt b.steps)) (Zl (Zt (b.steps.set (XB 16 x (b.steps.take (Yr b.steps)) 0).toNat (Zi 17 x)))) (by have:(Yg (Zi 17 x)).length=5:=rfl;rw [TR];omega) (Du o3) (de (ar (Y1 3 37 (.ms g1 0 b.steps.length c1) 38 (.i (XO many (b.steps.drop (Yr b.steps)) (Yr b.steps))) [1] [b3] (Zq (W5 g1 b.steps.length c1 ((XO many (b.steps.drop (Yr b.steps)) (Yr b.steps)).toNat) 5 (XO many (b.steps.drop (Yr b.steps)) (Yr b.steps))) (VI (WV 0 g1 b.steps.length c1 5 (((XO many (b.steps.drop (Yr b.steps)) (Yr b.steps)).toNat)*5) (Zl (Zt (b.steps.set (XB 16 x (b.steps.take (Yr b.steps)) 0).toNat (Zi 17 x)))) (Yg sc) 44 (Y4 sc) (FF (E6 Ze p3))) (iA [.i 0,.i 0,.i 0,nl,nl] ?_))))))))))))))
 intro b4
 refine ZH 0 b4 (Yg sc) (ie (ar (Y2 8 (.n 42 (.ms g1 0 b.steps.length c1) (.n 43 (.i (XO many (b.steps.drop (Yr b.steps)) (Yr b.steps))) (.n 45 (.i sc.op) (.n 47 (.i sc.num) (.n 48 (.i x) .r))))) [2,0,0] [b3,b4,b4] (ia ((1+x)) ((1)+(x)) (Yk 5 54 (.agg [.i sc.op,.i sc.num,.i (1+x),Z0 sc.args,Yz sc.kids]) [0,0] [b4,b4] (Zq (W5 g1 b.steps.length c1 ((XO many (b.steps.drop (Yr b.steps)) (Yr b.steps)).toNat) 5 (XO many (b.steps.drop (Yr b.steps)) (Yr b.steps))) (Cg 1 g1 b.steps.length c1 5 (((XO many (b.steps.drop (Yr b.steps)) (Yr b.steps)).toNat)*5) [.i sc.op,.i sc.num,.i (1+x),Z0 sc.args,Yz sc.kids] (Zl (Zt (b.steps.set (XB 16 x (b.steps.take (Yr b.steps)) 0).toNat (Zi 17 x)))) (Zl (Zt ((b.steps.set (XB 16 x (b.steps.take (Yr b.steps)) 0).toNat (Zi 17 x)).set (XO many (b.steps.drop (Yr b.steps)) (Yr b.steps)).toNat (Tz (1+x) sc)))) (by rw [TR,UV];simp only [YS,Xn];omega) (Du (t:=Tz (1+x) sc) (E6 Ze p3)) (XK (Ux 0 1 0 (.slice (some ⟨g1,0,none⟩) b.steps.length c1) 5 b3 (Zt ((b.steps.set (XB 16 x (b.steps.take (Yr b.steps)) 0).toNat (Zi 17 x)).set (XO many (b.steps.drop (Yr b.steps)) (Yr b.steps)).toNat (Tz (1+x) sc))) [.ms g1 0 b.steps.length c1,.i b.result] (X8 _) rfl) (ie (ar (Yk 1 56 (.agg [ZX ((b.steps.set (XB 16 x (b.steps.take (Yr b.steps)) 0).toNat (Zi 17 x)).set (XO many (b.steps.drop (Yr b.steps)) (Yr b.steps)).toNat (Tz (1+x) sc)) (.slice (some ⟨g1,0,none⟩) b.steps.length c1),.i b.result]) [0] [b3] (ZH 3 b2 [ZX ((b.steps.set (XB 16 x (b.steps.take (Yr b.steps)) 0).toNat (Zi 17 x)).set (XO many (b.steps.drop (Yr b.steps)) (Yr b.steps)).toNat (Tz (1+x) sc)) (.slice (some ⟨g1,0,none⟩) b.steps.length c1),.i b.result] (ie ?_)))))))))))))
 exact Zc (r3 [] [.agg [ZX ((b.steps.set (XB 16 x (b.steps.take (Yr b.steps)) 0).toNat (Zi 17 x)).set (XO many (b.steps.drop (Yr b.steps)) (Yr b.steps)).toNat (Tz (1+x) sc)) (.slice (some ⟨g1,0,none⟩) b.steps.length c1),.i b.result]] [0] [(b2,b2)] ⟨rfl,rfl⟩ (Zg.agg (.cons (Zg.sl _ (Yv Zt (Z3a Ze p5))) (.cons li .nil))))
theorem Z54 (xs:List Int) (y:Int) (hl:xs.length<=1000000000:=by exact ob):Zj Tryz.prog 118 [Z0 xs,.i y] [] (fun r h=>∃(ys:List Int),r=Z0 ys/\h=[]/\(ys.length<=xs.length+1/\∀z,z∈ys↔z∈xs∨z=y)):=by
 refine ZK 49 Tryz.func118 (ar (ir 1 [(0,Z0 xs),(1,.i y)] (ie (ar (iL (Z8 []) 0 1 ?_)))))
 intro v1
 refine Z1 1 5 (Z6 [] v1) (ie (ar (Z1 1 6 (.b false) (ie (aq (ar (Z1 1 7 (.i 0) (ie (ab 0 (al (fun m F h=>∃(k:Nat) (acc:List Int) (d:Bool) (v:Value),(k<=xs.length)/\(Qq xs y k acc d)/\F=[(0,Z0 xs),(1,.i y),(5,Z6 acc v),(6,.b d),(7,.i k)]/\h=[.tail v 1]/\m=xs.length-k) _ _ _ ⟨0,[],false,v1,ob,(Qq.zero xs y),rfl,rfl,rfl⟩ (wk [0] (fq (Ye fl))) ?_))))))))))
 rintro m F h ⟨k,acc,d,v,Ym,Zp,rfl,rfl,rfl⟩
 refine aq (ar (Yo 2 9 (.i k) 10 (Z0 xs) (iw (Yd xs) (Z1 1 12 (.b (decide ((k:Int)<(xs.length:Int)))) (ie (ZM ((k:Int)<(xs.length:Int)) (fun Ze=>?_) (fun Ze=>?_)))))))
 ·obtain ⟨x1,Z3⟩:=Zs (xs:=xs) (j:=k) om
  have hil:acc.length<=k+1:=Vf Zp.len (by split<;>omega)
  refine ak (aq (ab 1 (aq (ar (Xp [(0,Z0 xs),(1,.i y),(5,Z6 acc v),(6,.b d),(7,.i k),(24,.b ((!d)&&(decide (x1>=y))))] [.tail v 1] ?_ ?_)))))
  ·refine ir 3 [(0,Z0 xs),(1,.i y),(5,Z6 acc v),(6,.b d),(7,.i k),(17,.b (!d))] (ib (b:=(!d)) 17 (fun Za=>?_) (fun Za=>?_))
   ·have ZP:¬(d=true):=((Yt Iff.rfl)).1 Za
    refine Z5 2 (.n 18 (Z0 xs) (.n 19 (.i k) (.w (.k (.k .z))))) (Zq (Zo none (k:Int) 1 (Y3 Z3)) (Z1 4 24 (.b (decide (x1>=y))) (ie ?_)))
    exact wk [0] (fq (fr (Zr (decide (x1>=y)) Za fl)))
   have Y0:¬(¬(d=true)):=ZG (Yt Iff.rfl) Za
   refine Z5 7 (.n 24 (.b false) (.d (.w (.k .z)))) (ie ?_)
   exact wk [0] (fq (fr (Zr false Za fl)))
  refine XI (fun F h=>∃(acc2:List Int) (d2:Bool) (w:Value),((acc2=acc/\d2=d)∨(acc2=acc++[y]/\d2=true/\¬d=true)∨(acc2=acc/\d2=true/\x1=y))/\(acc2.length<=acc.length+1)/\F=[(0,Z0 xs),(1,.i y),(5,Z6 acc2 w),(6,.b d2),(7,.i k)]/\h=[.tail w 1]) ?_ ?_
  ·refine ac ((!d)&&(decide (x1>=y))) (p:=(¬(d=true))/\(x1>=y)) (YE (Yt Iff.rfl) dq) (fun Zk=>?_) (fun Zk=>?_)
   ·refine aq (ar (ir 2 [(0,Z0 xs),(1,.i y),(5,Z6 acc v),(7,.i k),(25,Z0 xs),(26,.i k)] (Zq (Zo none (k:Int) 1 (Y3 Z3)) (Z1 3 30 (.b (decide (x1>y))) (ie (XI (fun F h=>∃(w3:Value),F=[(0,Z0 xs),(1,.i y),(5,Z6 (if x1>y then (acc++[y]) else acc) w3),(7,.i k)]/\h=[.tail w3 1]) ?_ ?_))))))
    ·refine ZM (x1>y) (fun ZI=>?_) (fun ZI=>?_)
     ·refine az (ir 2 [(0,Z0 xs),(1,.i y),(7,.i k),(31,Z6 acc v),(32,.i y)] (iL (Z8 [y]) 1 1 ?_))
      intro v2
      refine Z5 0 (.n 33 (Z0 [y]) (.p .r)) (ip 1 (Z8 (acc++[y])) (Z8 acc) (Z8 [y]) v none 1 (YD _) (YD _) (XY _) (by simp<;>omega) (by simp [XX,Z8]) ?_)
      intro v3
      refine Z1 1 5 (Z6 (acc++[y]) v3) (ie ?_)
      exact ZV ⟨v3,rfl,rfl⟩ (wk [0] (fw (fc (x:=Z6 (acc++[y]) v3) (Zg.slh _ (Yv Z8 (by first|rfl|(rw [Zm ZI])|(rw [Zb ZI])|(simp [ZI];done)|(rw [Xm];simp [ZI];done)|omega))) fl)))
     refine ak ?_
     exact ZV ⟨v,rfl,rfl⟩ (wk [0] (fw (fc (x:=Z6 acc v) (Zg.slh _ (Yv Z8 (by first|rfl|(rw [Zm ZI])|(rw [Zb ZI])|(simp [ZI];done)|(rw [Xm];simp [ZI];done)|omega))) fl)))
    rintro F h ⟨w3,rfl,rfl⟩
    refine az (ir 1 [(0,Z0 xs),(1,.i y),(5,Z6 (if x1>y then (acc++[y]) else acc) w3),(6,.b true),(7,.i k)] (ie ?_))
    exact ZV ⟨(if x1>y then (acc++[y]) else acc),true,w3,(if h:x1>y then (by rw [Zm h];exact .inr (.inl ⟨rfl,rfl,Zk.1⟩)) else (by rw [Zb h];exact .inr (.inr ⟨rfl,rfl,by have:=Zk.2;omega⟩))),(by split<;>simp),rfl,rfl⟩ (wk [0] fl)
   refine ak ?_
   exact ZV ⟨acc,d,v,(.inl ⟨rfl,rfl⟩),ob,rfl,rfl⟩ (wk [0] fl)
  rintro F h ⟨acc2,d2,w,Vv,Jg,rfl,rfl⟩
  refine az (ir 3 [(0,Z0 xs),(1,.i y),(6,.b d2),(7,.i k),(35,Z6 acc2 w),(36,Z0 xs),(37,.i k)] (Zq (Zo none (k:Int) 1 (Y3 Z3)) (Z1 1 39 (.i x1) (iL (Z8 [x1]) 1 1 ?_))))
  intro v4
  refine Z5 0 (.n 40 (Z0 [x1]) (.p .r)) (ip 1 (Z8 (acc2++[x1])) (Z8 acc2) (Z8 [x1]) w none 1 (YD _) (YD _) (XY _) (by simp<;>omega) (by simp [XX,Z8]) ?_)
  intro v5
  refine Z1 1 5 (Z6 (acc2++[x1]) v5) (ie (az (Z1 1 13 (.i k) (ZO k (Z5 1 (.n 7 (.i (k+1:Nat)) (.p (.d (.k (.p (.d (.d (.p (.k (.k (.k .z))))))))))) (ie ?_))))))
  exact ZQ ⟨k+1,(acc2++[x1]),d2,v5,ob,(Zp.go Z3 Vv),rfl,rfl,rfl⟩ (wk [0] (fq (ZW k fl)))
 have hil:acc.length<=k+1:=Vf Zp.len (by split<;>omega)
 refine ax 0 (aq (ar (Z1 2 43 (.b (!d)) (ie (XI (fun F h=>∃(w4:Value),F=[(5,Z6 (if d=true then acc else (acc++[y])) w4)]/\h=[.tail w4 1]) ?_ ?_)))))
 ·refine ac (!d) (p:=¬(d=true)) (Yt Iff.rfl) (fun Yi=>?_) (fun Yi=>?_)
  ·refine az (ir 2 [(44,Z6 acc v),(45,.i y)] (iL (Z8 [y]) 1 1 ?_))
   intro v6
   refine Z5 0 (.n 46 (Z0 [y]) (.p .r)) (ip 1 (Z8 (acc++[y])) (Z8 acc) (Z8 [y]) v none 1 (YD _) (YD _) (XY _) (by simp<;>omega) (by simp [XX,Z8]) ?_)
   intro v7
   refine ir 1 [(5,Z6 (acc++[y]) v7)] (ie ?_)
   exact ZV ⟨v7,rfl,rfl⟩ (wk [0] (fc (x:=Z6 (acc++[y]) v7) (Zg.slh _ (Yv Z8 (by first|rfl|(rw [Zm Yi])|(rw [Zb Yi])|(simp [Yi];done)|(rw [Xm];simp [Yi];done)|omega))) fl))
  refine ak ?_
  exact ZV ⟨v,rfl,rfl⟩ (wk [0] (fc (x:=Z6 acc v) (Zg.slh _ (Yv Z8 (by first|rfl|(rw [Zm Yi])|(rw [Zb Yi])|(simp [Yi];done)|(rw [Xm];simp [Yi];done)|omega))) fl))
 rintro F h ⟨w4,rfl,rfl⟩
 refine ar (ir 2 [(4,Z6 (if d=true then acc else (acc++[y])) w4)] (ie ?_))
 exact Zc (r2 [] [Z6 (if d=true then acc else (acc++[y])) w4] ⟨(if d=true then acc else (acc++[y])),rfl,rfl,(if hd:d=true then (by rw [Zm hd];exact (Zp.fin om).1 hd) else (by rw [Zb hd];exact (Zp.fin om).2 hd))⟩ (Zg.forget _ _))
theorem Z5a (n:Zy) (s:Z4) (j:Nat) (kept:List Int) (kd:Z7) (hn:Xe n) (hws:wS n.decls s) (hkd:s.kids[j]? = some kd) (hnk:TW kd) (hK:kept.length+s.sz<=900000000) (ih:∀(b2:Z7) (K2:List Int),(wB n.decls b2)->(JY b2)->(K2.length+b2.sz<=900000000)->(b2.sz<s.sz)->Zj Tryz.prog 165 [ZE n,Zx b2,Z0 K2] [] (fun r h=>r=Zx (Wp n.decls K2 b2)/\h=[])):Zj Tryz.prog 209 [ZE n,Y4 s,.i j,Z0 kept] [] (fun r h=>r=Zx (UU n.decls kept s.op s.num s.args j kd)/\h=[]):=by
 have Xu:=hn.decls
 have hks:=T7 hkd
 have hwk:=Hl hws hkd
 have haz:=Q7 s
 have hjl:=(XM.1 hkd).1
 refine ZK 65 Tryz.func209 (ar (iA (ZU n) ?_))
 intro b1
 refine iA (Yg s) ?_
 intro b2
 refine iA [nl,.i 0] ?_
 intro b3
 refine ie (aq (ar (iR 3 [(2,.i j),(3,Z0 kept),(4,.p b1 0),(5,.p b2 0),(8,.p b3 0),(14,.b (s.op != 8))] [1] [b2] (ie (ac (s.op != 8) Yc (fun Ze=>?_) (fun Ze=>?_))))))
 ·refine aD 9 (Y6 5 9 [0,1,2,3] (.n 15 (ZE n) (.n 17 (Yz s.kids) (.n 18 (.i j) .r))) [2,1] [b1,b2] (dx 4 (Zo none (j:Int) 2 (UA hkd)) (ZZ 2 4 [5,6] (.n 20 (Zx kd) (.n 21 (Z0 kept) .r)) (Z9 7 (Ys 7 [] [] [] (ih kd kept (by first|exact hwk|exact Jg) (by first|exact AM hnk|exact G9) ob ob) (Z9 8 (YK 8 0 [] [] b3 (Yn (Wp n.decls kept kd)) (de ?_))))))))
  have hE:=MI (ds:=n.decls) (kept:=kept) (op:=s.op) (num:=s.num) (args:=s.args) (j:=j) (kd:=kd) (fun z=>Ze z.1)
  exact Zc (r3 [] [Zx (Wp n.decls kept kd)] [0] [(b3,b3)] ⟨rfl,rfl⟩ (Zg.agg (.cons (Zg.sl _ (Yv Zt (by rw [hE]))) (.cons (li (by rw [hE])) .nil))))
 refine ak (ar (Yk 2 24 (Z0 s.args) [1] [b2] ?_))
 obtain ⟨x1,Z3⟩:=Zs (xs:=s.args) (j:=0) (by obtain ⟨⟨a,ha2,_⟩,_⟩:=CP hws om;rw [ha2];simp)
 have hg1:=J7 Z3
 have hxb:0<=x1/\x1<=900000000:=by obtain ⟨⟨a,ha2,ha3⟩,_⟩:=CP hws om;rw [ha2] at hg1;have:a=x1:=hg1;omega
 refine Zq (Zo none 0 1 (Y3 Z3)) (Z1 2 9 (.i x1) (ie (ar (Y1 3 28 (Yz s.kids) 29 (.i j) [1] [b2] (Zq (Zo none (j:Int) 2 (UA hkd)) (Z1 1 31 (Zx kd) (iA [nl,.i 0] ?_)))))))
 intro b4
 refine ZH 0 b4 (Yn kd) (ie (aq (ar (Yo 2 32 (Z0 kept) 33 (.i x1) (ZA [] (U0 kept x1) (Z1 1 35 (.b (!(decide (x1∈kept)))) (ie (XI (fun F h=>∃(B2:Z7) (K2:List Int),(Wp n.decls K2 B2=UU n.decls kept s.op s.num s.args j kd)/\(wB n.decls B2)/\(JY B2)/\(B2.sz<=kd.sz)/\(K2.length<=kept.length+1)/\F=[(3,Z0 K2),(4,.p b1 0),(8,.p b3 0),(10,.p b4 0)]/\h=[.obj b4 (Yn B2),.obj b3 [nl,.i 0],.obj b1 (ZU n)]) ?_ ?_))))))))
 ·refine ac (!(decide (x1∈kept))) (p:=¬(x1∈kept)) (Yt dq) (fun Zk=>?_) (fun Zk=>?_)
  ·refine aD 16 (W2 7 16 [0,1,2,3,4,5,6,7,9] [(3,Z0 kept),(4,.p b1 0),(8,.p b3 0),(9,.i x1),(10,.p b4 0),(36,Zx kd),(37,.i x1),(39,Zd n.decls),(41,Zd n.decls),(43,.i s.num),(45,.i j)] [0,3,3,2] [b4,b1,b1,b2] (Z9 8 (dc 8 [] [3,0] [b1,b4] (KH n.decls s.num) ?_)))
   rintro _ _ ⟨v1,rfl,rfl⟩
   obtain ⟨x2,Zv⟩:=Zs (xs:=Zu n.decls s.num) (j:=j) (by have h:=(CP hws om).2;omega)
   have hfl:(U9 n.decls s.num j).length=(ZB n.decls x2).length:=by rw [It (by rw [QU,Zv];rfl)]
   have hcf:=VH Xu x2
   refine dx 10 (Zo (some v1) (j:Int) 1 (Y3 Zv)) (ZY 4 5 [11] 47 (.i x2) (Z9 12 (Ys 12 [] [0] [b4] (Qh n.decls x2) (dn 13 (.i (((ZB n.decls x2).length:Nat):Int)) (.i (((Z8 (ZB n.decls x2)).length:Nat):Int)) (li (by rw [Yd])) (Z9 14 (Ys 14 [] [] [] (Z57 n.decls kd x1 ((ZB n.decls x2).length) (hw:=hwk) (hx:=hxb)) ?_))))))
   have hwr:=Z7e (x:=x1) (many:=(ZB n.decls x2).length) hwk
   have hsr:=Z37 (x:=x1) (many:=(ZB n.decls x2).length) hwk
   refine Z9 15 (YK 15 1 [] [] b4 (Yn (V6 kd x1 ((ZB n.decls x2).length))) (de (ar (Yk 1 51 (Zx (V6 kd x1 ((ZB n.decls x2).length))) [0] [b4] (ZA [] (GZ (V6 kd x1 ((ZB n.decls x2).length))) (Z1 1 11 (.i (((Yr (V6 kd x1 ((ZB n.decls x2).length)).steps):Nat):Int)) (ie (ar (Y2 3 (.n 53 (Zx (V6 kd x1 ((ZB n.decls x2).length))) (.n 54 (.i (((Yr (V6 kd x1 ((ZB n.decls x2).length)).steps):Nat):Int)) (.n 55 (.i x1) .r))) [0] [b4] (ZA [] (Nm (V6 kd x1 ((ZB n.decls x2).length)) (Yr (V6 kd x1 ((ZB n.decls x2).length)).steps) 17 x1 (hm:=(Cp _)) (ha:=(fun s2 hs2 h17=>Hr (EI ((QS _).1 hwr) s2 (TJ hs2) (by rw [h17];rfl))))) (Z1 1 57 (.b (decide ((XB 17 x1 ((V6 kd x1 ((ZB n.decls x2).length)).steps.take (Yr (V6 kd x1 ((ZB n.decls x2).length)).steps)) 0)>=0))) (ie (ZM ((XB 17 x1 ((V6 kd x1 ((ZB n.decls x2).length)).steps.take (Yr (V6 kd x1 ((ZB n.decls x2).length)).steps)) 0)>=0) (fun ZI=>?_) (fun ZI=>?_))))))))))))))
   ·refine az (Yo 2 58 (Z0 kept) 59 (.i x1) (ic [] (Z54 kept x1) ?_))
    rintro _ _ ⟨ys1,rfl,rfl,ZP⟩
    have hin:=ZP
    refine ir 1 [(3,Z0 ys1),(4,.p b1 0),(8,.p b3 0),(10,.p b4 0)] (ie ?_)
    exact ZV ⟨_,_,(Z3p om hg1 Zk hfl ((NJ ((Cu kd).1 hnk)).1 ZI) hin.2),hwr,(M3 hnk),ob,hin.1,rfl,rfl⟩ (wk [0,1,2] (fc (x:=Z0 ys1) (Zg.sl _ (Yv Z8 (by first|rfl|(rw [Zm Zk])|(rw [Zb Zk])|(simp [Zk,ZI,ZP];done)|(rw [Xm];simp [Zk,ZI,ZP];done)|omega))) fl))
   refine ak ?_
   exact ZV ⟨_,_,(Z3q om hg1 Zk hfl (BN fun z=>ZI ((NJ ((Cu kd).1 hnk)).2 z))),hwr,(M3 hnk),ob,ob,rfl,rfl⟩ (wk [0,1,2] (fc (x:=Z0 kept) (Zg.sl _ (Yv Z8 (by first|rfl|(rw [Zm Zk])|(rw [Zb Zk])|(simp [Zk,ZI];done)|(rw [Xm];simp [Zk,ZI];done)|omega))) fl))
  refine ak ?_
  exact ZV ⟨_,_,(MI (fun z=>Zk (hg1▸z.2))),hwk,(AM hnk),ob,ob,rfl,rfl⟩ (wk [0,0,1] (fc (x:=Z0 kept) (Zg.sl _ (Yv Z8 (by first|rfl|(rw [Zm Zk])|(rw [Zb Zk])|(simp [Zk];done)|(rw [Xm];simp [Zk];done)|omega))) fl))
 rintro F h ⟨B2,K2,Vv,Jg,G9,Z7z,Z80,rfl,rfl⟩
 refine ar (iR 3 [(8,.p b3 0),(61,ZE n),(62,Zx B2),(63,Z0 K2)] [2,0] [b1,b4] (ZA [] (ih B2 K2 (by first|exact hwk|exact Jg) (by first|exact AM hnk|exact G9) ob ob) (ZH 1 b3 (Yn (Wp n.decls K2 B2)) (ie ?_))))
 exact Zc (r3 [] [Zx (Wp n.decls K2 B2)] [0] [(b3,b3)] ⟨rfl,rfl⟩ (Zg.agg (.cons (Zg.sl _ (Yv Zt (by rw [Vv]))) (.cons (li (by rw [Vv])) .nil))))
theorem Z59 (n:Zy) (b:Z7) (kept:List Int) (hn:Xe n) (hw:wB n.decls b) (hn2:JY b) (hK:kept.length+b.sz<=900000000) (ih:∀(s:Z4) (j:Nat) (kept:List Int) (kd:Z7),(wS n.decls s)->(s.kids[j]? = some kd)->(TW kd)->(kept.length+s.sz<=900000000)->(s.sz<b.sz)->Zj Tryz.prog 209 [ZE n,Y4 s,.i j,Z0 kept] [] (fun r h=>r=Zx (UU n.decls kept s.op s.num s.args j kd)/\h=[])):Zj Tryz.prog 165 [ZE n,Zx b,Z0 kept] [] (fun r h=>r=Zx (Wp n.decls kept b)/\h=[]):=by
 have Xu:=hn.decls
 have hbz:=Vx b
 refine ZK 61 Tryz.func165 (ar (iA (ZU n) ?_))
 intro b1
 refine iA (Yn b) ?_
 intro b2
 refine iA [nl,.i 0] ?_
 intro b3
 refine ie (ar (iL (Zt []) 0 5 ?_))
 intro v1
 refine iR 3 [(2,Z0 kept),(3,.p b1 0),(4,.p b2 0),(6,.p b3 0),(15,.agg [ZX [] v1,.i b.result])] [2] [b2] (iA [nl,.i 0] ?_)
 intro b4
 refine ZH 0 b4 [ZX [] v1,.i b.result] (ie (aq (ar (Z1 1 8 (.i 0) (ie (ab 0 (al (fun m F h=>∃(k:Nat) (xs:List Z4) (v:Value),(k<=b.steps.length)/\(xs.length=k)/\(xs++Ug n.decls kept (b.steps.drop k)=Ug n.decls kept b.steps)/\F=[(2,Z0 kept),(3,.p b1 0),(4,.p b2 0),(6,.p b3 0),(7,.p b4 0),(8,.i k)]/\h=[.obj b4 [ZX xs v,.i b.result],.obj b3 [nl,.i 0],.obj b2 (Yn b),.obj b1 (ZU n),.tail v 5]/\m=b.steps.length-k) _ _ _ ⟨0,[],v1,ob,ob,rfl,rfl,rfl,rfl⟩ (wk [0,1,1,1,0] (fq (fr (Ye fl)))) ?_)))))))
 rintro m F h ⟨k,xs,v,Ym,Zp,Zz,rfl,rfl,rfl⟩
 refine aq (ar (Y1 3 16 (.i k) 18 (Yj b.steps) [2] [b2] (iw (VE b.steps) (Z1 1 20 (.b (decide ((k:Int)<(b.steps.length:Int)))) (ie (ZM ((k:Int)<(b.steps.length:Int)) (fun Ze=>?_) (fun Ze=>?_)))))))
 ·refine ak (aq (ab 1 (ar (Y1 3 24 (Yj b.steps) 25 (.i k) [2] [b2] ?_))))
  obtain ⟨x1,Z3⟩:=Zs (xs:=b.steps) (j:=k) om
  have XC:=AS Z3
  have hws:=NV hw Z3
  have hkz:=T8 x1
  have haz:=Q7 x1
  refine Zq (Zo none (k:Int) 5 (Wy Z3)) (Z1 1 27 (Y4 x1) (iA [.i 0,.i 0,.i 0,nl,nl] ?_))
  intro b5
  refine ZH 0 b5 (Yg x1) (ie (ar (iL (YH []) 0 2 ?_)))
  intro v2
  refine Z1 1 10 (X4 [] v2) (ie (aq (ar (Z1 1 11 (.i 0) (ie (ab 2 (al (fun m F h=>∃(j:Nat) (u:Value) (ks:List Z7),(j<=x1.kids.length)/\(ks.length=j)/\(ks++Uf n.decls kept x1.op x1.num x1.args (x1.kids.drop j) j=Uf n.decls kept x1.op x1.num x1.args x1.kids 0)/\F=[(2,Z0 kept),(3,.p b1 0),(4,.p b2 0),(6,.p b3 0),(7,.p b4 0),(8,.i k),(9,.p b5 0),(10,X4 ks u),(11,.i j)]/\h=[.obj b5 (Yg x1),.obj b4 [ZX xs v,.i b.result],.obj b3 [nl,.i 0],.obj b2 (Yn b),.obj b1 (ZU n),.tail u 2,.tail v 5]/\m=x1.kids.length-j) _ _ _ ⟨0,v2,[],ob,ob,(by simp),rfl,rfl,rfl⟩ (wk [1,1,1,1,1,0,0] (fq (fq (Ye fl)))) ?_)))))))
  rintro m F h ⟨j,u,ks,Uj,We,XJ,rfl,rfl,rfl⟩
  refine aq (ar (Y1 3 29 (.i j) 31 (Yz x1.kids) [0] [b5] (iw (VX x1.kids) (Z1 1 33 (.b (decide ((j:Int)<(x1.kids.length:Int)))) (ie (ZM ((j:Int)<(x1.kids.length:Int)) (fun Zk=>?_) (fun Zk=>?_)))))))
  ·obtain ⟨kd,hkd⟩:=Zs (xs:=x1.kids) (j:=j) om
   refine ak (aq (ab 3 (az (Y2 5 (.n 36 (X4 ks u) (.n 37 (ZE n) (.n 38 (Y4 x1) (.n 39 (.i j) (.n 40 (Z0 kept) .r))))) [4,0] [b1,b5] (ZA [] (ih x1 j kept kd hws hkd (Z2b hn2 Z3 hkd) ob ob) (iL [Zx (UU n.decls kept x1.op x1.num x1.args j kd)] 1 2 ?_))))))
   intro v3
   refine Z5 0 (.n 42 (.sl [Zx (UU n.decls kept x1.op x1.num x1.args j kd)] none) (.p .r)) (ip 6 (YH (ks++[UU n.decls kept x1.op x1.num x1.args j kd])) (YH ks) [Zx (UU n.decls kept x1.op x1.num x1.args j kd)] u none 2 (T0 _) (TA rfl) rfl (by simp<;>omega) (by simp [J0,Um]) ?_)
   intro v4
   refine Z5 1 (.n 10 (X4 (ks++[UU n.decls kept x1.op x1.num x1.args j kd]) v4) (.p (.d (.p (.d (.d (.d (.d (.d (.d (.p (.d (.d (.w (.k (.k (.k (.d .r)))))))))))))))))) (ie (az (Z1 1 34 (.i j) (ZO j (Z5 1 (.n 11 (.i (j+1:Nat)) (.p (.d (.w (.w .z))))) (ie ?_))))))
   exact ZQ ⟨j+1,v4,(ks++[UU n.decls kept x1.op x1.num x1.args j kd]),ob,(by simp;omega),(Z3o hkd XJ),rfl,rfl,rfl⟩ (wk [2,2,2,2,2,0,1] (fq (fq (ZW j fl))))
  have hK:=Z3n om XJ
  refine ax 2 (aE 17 (Y6 6 17 [0,1,2,3,4,5,6,7,8,9,11] (.n 45 (ZX xs v) (.n 47 (.i x1.op) (.n 49 (.i x1.num) (.n 51 (.i x1.into) (.n 53 (Z0 x1.args) (.n 55 (X4 ks u) .r)))))) [1,0,0,0,0] [b4,b5,b5,b5,b5] (Z9 10 (dc 10 [] [0,0,0,1] [b5,b5,b5,b4] (VJ x1.args) ?_))))
  rintro _ _ ⟨v5,rfl,rfl⟩
  refine ZY 4 5 [12] 56 (.agg [.i x1.op,.i x1.num,.i x1.into,Z0 x1.args,Yz ks]) (Z9 13 (dL 13 [1] [b4] [Y4 (Z4.mk x1.op x1.num x1.into x1.args ks)] 1 5 ?_))
  intro v6
  refine ZZ 3 3 [] (.n 57 (.sl [Y4 (Z4.mk x1.op x1.num x1.into x1.args ks)] none) (.p .r)) (Z9 14 (dp 14 8 [] [] (Zt (xs++[Z4.mk x1.op x1.num x1.into x1.args ks])) (Zt xs) [Y4 (Z4.mk x1.op x1.num x1.into x1.args ks)] v none 5 (X8 _) (TA rfl) rfl (by simp<;>omega) (by simp [Wx,Vb]) ?_))
  intro v7
  refine ZY 1 2 [15] 59 (.p b4 0) (Z9 16 (YK 16 4 [] [] b4 [ZX (xs++[Z4.mk x1.op x1.num x1.into x1.args ks]) v7,.i b.result] (de (az (Z1 1 21 (.i k) (ZO k (ir 1 [(2,Z0 kept),(3,.p b1 0),(4,.p b2 0),(6,.p b3 0),(7,.p b4 0),(8,.i (k+1:Nat))] (ie ?_))))))))
  exact ZQ ⟨k+1,(xs++[Z4.mk x1.op x1.num x1.into x1.args ks]),v7,ob,(by simp;omega),(by have h:=Z3u Z3 Zz;rw [<-hK] at h;exact h),rfl,rfl,rfl⟩ (wk [0,4,4,4,0] (fq (fr (ZW k fl))))
 refine ax 0 (ar (Yk 1 60 (.agg [ZX xs v,.i b.result]) [0] [b4] (ZH 1 b3 [ZX xs v,.i b.result] (ie ?_))))
 exact Zc (r3 [] [.agg [ZX xs v,.i b.result]] [0] [(b3,b3)] ⟨rfl,rfl⟩ (Zg.agg (.cons (Zg.sl _ (Yv Zt (by rw [E7];exact Z3t om Zz))) (.cons (li (by rw [E7];rfl)) .nil))))
theorem Z5b (n:Zy) (hn:Xe n) (k:Nat):(∀(s:Z4) (j:Nat) (kept:List Int) (kd:Z7),(wS n.decls s)->(s.kids[j]? = some kd)->(TW kd)->(kept.length+s.sz<=900000000)->(s.sz<=k)->Zj Tryz.prog 209 [ZE n,Y4 s,.i j,Z0 kept] [] (fun r h=>r=Zx (UU n.decls kept s.op s.num s.args j kd)/\h=[]))/\(∀(b:Z7) (kept:List Int),(wB n.decls b)->(JY b)->(kept.length+b.sz<=900000000)->(b.sz<=k)->Zj Tryz.prog 165 [ZE n,Zx b,Z0 kept] [] (fun r h=>r=Zx (Wp n.decls kept b)/\h=[])):=by
 induction k with
 | zero=>exact ⟨fun s j K kd h1 h2 h3 h4 h5=>by have:=s.sz_pos;omega,fun b K h1 h2 h3 h4=>by have:=b.sz_eq;omega⟩
 | succ k ih=>exact ⟨fun s j K kd h1 h2 h3 h4 h5=>Z5a n s j K kd hn h1 h2 h3 h4 fun b2 K2 q1 q2 q3 q4=>ih.2 b2 K2 q1 q2 q3 om,fun b K h1 h2 h3 h4=>Z59 n b K hn h1 h2 h3 fun s j K2 kd q1 q2 q3 q4 q5=>ih.1 s j K2 kd q1 q2 q3 q4 om⟩
theorem Z58 (n:Zy) (b:Z7) (kept:List Int) (hn:Xe n:=by exact ob) (hw:wB n.decls b:=by exact ob) (hn2:JY b:=by exact ob) (hK:kept.length+b.sz<=900000000:=by exact ob):Zj Tryz.prog 165 [ZE n,Zx b,Z0 kept] [] (fun r h=>r=Zx (Wp n.decls kept b)/\h=[]):=(Z5b n hn b.sz).2 b kept hw hn2 hK (X7 _)
theorem Su (n:Zy) (hn:Xe n:=by exact ob) (hz:Q5 n:=by exact ob) (hwb:∀r∈n.routines,wB n.decls r.body):Zj Tryz.prog 125 [ZE n] [] (fun r h=>r=ZE (En n)/\h=[]):=by
 have hzl:=hn.len
 refine ZK 38 Tryz.func125 (ar (iA (ZU n) ?_))
 intro b1
 refine iA [nl,nl] ?_
 intro b2
 refine ie (ar (iR 2 [(1,.p b1 0),(2,.p b2 0),(7,Zd n.decls)] [1] [b1] (ZA [] (AQ n.decls (hd:=hn.decls)) (iL (YM []) 0 5 ?_))))
 intro v1
 refine Z1 1 10 (.agg [Zd n.decls,Xh [] v1]) (iA [nl,nl] ?_)
 intro b3
 refine ZH 0 b3 [Zd n.decls,Xh [] v1] (ie (aq (ar (Z1 1 4 (.i 0) (ie (ab 0 (al (fun m F h=>∃(k:Nat) (v:Value),(k<=n.routines.length)/\F=[(1,.p b1 0),(2,.p b2 0),(3,.p b3 0),(4,.i k)]/\h=[.obj b3 [Zd n.decls,Xh ((n.routines.take k).map (KG n.decls)) v],.obj b2 [nl,nl],.obj b1 (ZU n),.tail v 5]/\m=n.routines.length-k) _ _ _ ⟨0,v1,ob,rfl,rfl,rfl⟩ (wk [0,1,1,0] (fw (fr (Ye fl)))) ?_)))))))
 rintro m F h ⟨k,v,Ym,rfl,rfl,rfl⟩
 refine aq (ar (Y1 3 11 (.i k) 13 (YZ n.routines) [2] [b1] (iw (U8 n.routines) (Z1 1 15 (.b (decide ((k:Int)<(n.routines.length:Int)))) (ie (ZM ((k:Int)<(n.routines.length:Int)) (fun Ze=>?_) (fun Ze=>?_)))))))
 ·refine ak (aq (ab 1 (ar (Y1 3 19 (YZ n.routines) 20 (.i k) [2] [b1] ?_))))
  obtain ⟨x1,Z3⟩:=Zs (xs:=n.routines) (j:=k) om
  have hrm:=Y7 Z3
  have hbz:=hz.body _ hrm
  have hpl:=hn.params_at Z3
  have hll:=hn.lent_at Z3
  have hww:=hwb _ hrm
  refine Zq (Zo none (k:Int) 5 (WB Z3)) (Z1 1 22 (WZ x1) (iA [nl,nl,.i 0,nl,.i 0] ?_))
  intro b4
  refine ZH 0 b4 (VO x1) (ie (aE 15 (Y6 7 15 [0,1,2,3,4,5,6,7] (.n 24 (Xh ((n.routines.take k).map (KG n.decls)) v) (.n 25 (WZ x1) (.n 26 (ZE n) (.n 28 (Zx x1.body) (.n 30 (Z0 x1.params) .r))))) [1,0,3,0,0] [b3,b4,b1,b4,b4] (dw 8 (Yd x1.params) (Z9 9 (Ys 9 [] [0,1] [b4,b3] (Z5g n x1.body x1.params.length (hw:=hww)) (Z9 10 (Ys 10 [] [1] [b3] (BK x1 (WE n.decls x1.params.length x1.body)) (Z9 11 (dL 11 [1] [b3] (YM [Yf.mk x1.params x1.lent x1.result (WE n.decls x1.params.length x1.body)]) 1 5 ?_))))))))))
  intro v2
  refine ZZ 3 3 [] (.n 34 (YZ [Yf.mk x1.params x1.lent x1.result (WE n.decls x1.params.length x1.body)]) (.p .r)) (Z9 12 (dp 12 5 [] [] (YM ((n.routines.take (k+1)).map (KG n.decls))) (YM ((n.routines.take k).map (KG n.decls))) (YM [Yf.mk x1.params x1.lent x1.result (WE n.decls x1.params.length x1.body)]) v none 5 (U7 _) (U7 _) (JM _) (by simp<;>omega) (by rw [WO Z3];simp [YM,KG]) ?_))
  intro v3
  refine ZY 1 2 [13] 36 (.p b3 1) (Z9 14 (YK 14 3 [] [] b3 [Zd n.decls,Xh ((n.routines.take (k+1)).map (KG n.decls)) v3] (de (az (Z1 1 16 (.i k) (ZO k (ir 1 [(1,.p b1 0),(2,.p b2 0),(3,.p b3 0),(4,.i (k+1:Nat))] (ie ?_))))))))
  exact ZQ ⟨k+1,v3,ob,rfl,rfl,rfl⟩ (wk [0,3,3,0] (fw (fr (ZW k fl))))
 refine ax 0 (ar (Yk 1 37 (.agg [Zd n.decls,Xh ((n.routines.take k).map (KG n.decls)) v]) [0] [b3] (ZH 1 b2 [Zd n.decls,Xh ((n.routines.take k).map (KG n.decls)) v] (ie ?_))))
 exact Zc (r3 [] [.agg [Zd n.decls,Xh ((n.routines.take k).map (KG n.decls)) v]] [0] [(b2,b2)] ⟨rfl,rfl⟩ (Zg.agg (.cons (Zg.sl _ (Yv YV ob)) (.cons (Zg.sl _ (Yv YM (by rw [Ve om];rfl))) .nil))))
theorem Sr (n:Zy) (hn:Xe n:=by exact ob) (hz:Q5 n:=by exact ob) (hwb:∀r∈n.routines,wB n.decls r.body) (hnr:∀r∈n.routines,TW r.body):Zj Tryz.prog 126 [ZE n] [] (fun r h=>r=ZE (E8 n)/\h=[]):=by
 have hzl:=hn.len
 refine ZK 38 Tryz.func126 (ar (iA (ZU n) ?_))
 intro b1
 refine iA [nl,nl] ?_
 intro b2
 refine ie (ar (iR 2 [(1,.p b1 0),(2,.p b2 0),(6,Zd n.decls)] [1] [b1] (ZA [] (AQ n.decls (hd:=hn.decls)) (iL (YM []) 0 5 ?_))))
 intro v1
 refine Z1 1 9 (.agg [Zd n.decls,Xh [] v1]) (iA [nl,nl] ?_)
 intro b3
 refine ZH 0 b3 [Zd n.decls,Xh [] v1] (ie (aq (ar (Z1 1 4 (.i 0) (ie (ab 0 (al (fun m F h=>∃(k:Nat) (v:Value),(k<=n.routines.length)/\F=[(1,.p b1 0),(2,.p b2 0),(3,.p b3 0),(4,.i k)]/\h=[.obj b3 [Zd n.decls,Xh ((n.routines.take k).map (KC n.decls)) v],.obj b2 [nl,nl],.obj b1 (ZU n),.tail v 5]/\m=n.routines.length-k) _ _ _ ⟨0,v1,ob,rfl,rfl,rfl⟩ (wk [0,1,1,0] (fw (fr (Ye fl)))) ?_)))))))
 rintro m F h ⟨k,v,Ym,rfl,rfl,rfl⟩
 refine aq (ar (Y1 3 10 (.i k) 12 (YZ n.routines) [2] [b1] (iw (U8 n.routines) (Z1 1 14 (.b (decide ((k:Int)<(n.routines.length:Int)))) (ie (ZM ((k:Int)<(n.routines.length:Int)) (fun Ze=>?_) (fun Ze=>?_)))))))
 ·refine ak (aq (ab 1 (aE 21 (Y6 16 21 [0,1,2,3,4] (.n 18 (Xh ((n.routines.take k).map (KC n.decls)) v) (.n 20 (YZ n.routines) (.n 21 (.i k) .r))) [0,2] [b3,b1] ?_))))
  obtain ⟨x1,Z3⟩:=Zs (xs:=n.routines) (j:=k) om
  have hrm:=Y7 Z3
  have hbz:=hz.body _ hrm
  have hpl:=hn.params_at Z3
  have hll:=hn.lent_at Z3
  have hww:=hwb _ hrm
  refine dx 5 (Zo none (k:Int) 5 (WB Z3)) (Y6 10 15 [6,7,8,9,10] (.n 23 (WZ x1) (.n 24 (ZE n) (.n 26 (YZ n.routines) (.n 27 (.i k) .r)))) [2,2] [b1,b1] (dx 11 (Zo none (k:Int) 5 (WB Z3)) (ZY 7 9 [12,13] 30 (Zx x1.body) (Z9 14 (dL 14 [2,2,2,0] [b1,b1,b1,b3] (Z8 []) 0 1 ?_)))))
  intro v2
  refine ZZ 6 6 [] (.n 31 (Z0 []) (.p .r)) (Z9 15 (Ys 15 [] [2,0] [b1,b3] (Z58 n x1.body [] (hw:=hww) (hn2:=(AM (hnr _ hrm)))) (Z9 16 (Ys 16 [] [0] [b3] (BK x1 (Wp n.decls [] x1.body)) (Z9 17 (dL 17 [0] [b3] (YM [Yf.mk x1.params x1.lent x1.result (Wp n.decls [] x1.body)]) 1 5 ?_))))))
  intro v3
  refine ZZ 3 3 [] (.n 34 (YZ [Yf.mk x1.params x1.lent x1.result (Wp n.decls [] x1.body)]) (.p .r)) (Z9 18 (dp 18 5 [] [] (YM ((n.routines.take (k+1)).map (KC n.decls))) (YM ((n.routines.take k).map (KC n.decls))) (YM [Yf.mk x1.params x1.lent x1.result (Wp n.decls [] x1.body)]) v none 5 (U7 _) (U7 _) (JM _) (by simp<;>omega) (by rw [WO Z3];simp [YM,KC]) ?_))
  intro v4
  refine ZY 1 2 [19] 36 (.p b3 1) (Z9 20 (YK 20 3 [] [] b3 [Zd n.decls,Xh ((n.routines.take (k+1)).map (KC n.decls)) v4] (de (az (Z1 1 15 (.i k) (ZO k (ir 1 [(1,.p b1 0),(2,.p b2 0),(3,.p b3 0),(4,.i (k+1:Nat))] (ie ?_))))))))
  exact ZQ ⟨k+1,v4,ob,rfl,rfl,rfl⟩ (wk [0,3,3,0] (fw (fr (ZW k fl))))
 refine ax 0 (ar (Yk 1 37 (.agg [Zd n.decls,Xh ((n.routines.take k).map (KC n.decls)) v]) [0] [b3] (ZH 1 b2 [Zd n.decls,Xh ((n.routines.take k).map (KC n.decls)) v] (ie ?_))))
 exact Zc (r3 [] [.agg [Zd n.decls,Xh ((n.routines.take k).map (KC n.decls)) v]] [0] [(b2,b2)] ⟨rfl,rfl⟩ (Zg.agg (.cons (Zg.sl _ (Yv YV ob)) (.cons (Zg.sl _ (Yv YM (by rw [Ve om];rfl))) .nil))))
theorem IX (rd:Nat) (bs:List Int) (p:Nat) (ZD:∀z∈bs,0<=z/\z<=255) (hp:p+400001<=1000000000:=by exact ob):Zj Tryz.prog 84 [.p rd 0] [Yl rd bs p] (fun r h=>∃(n:Zy) (p2:Nat),r=ZE n/\h=[Yl rd bs p2]/\FO n 181 Wq/\p<=p2/\p2<=p+400001):=by
 refine ZK 13 Tryz.func84 (ar (iA [nl,nl] ?_))
 intro b1
 refine ie (ar (ir 1 [(0,.p rd 0),(2,.p b1 0),(4,.p rd 0)] (ic [1] (RX rd bs p (ZD:=ob)) ?_)))
 rintro _ _ ⟨g1,p21,rfl,rfl,ZP⟩
 have TT:=ZP
 refine ic [] (Sj g1 (hg:=TT.1)) ?_
 rintro _ _ ⟨n1,rfl,rfl,Y0⟩
 have hnm:=Y0
 refine iA [nl,nl] ?_
 intro b2
 refine ZH 0 b2 (ZU n1) (ie (aq (ar (Z1 1 7 (.p rd 0) (ic [1] (XU rd bs p21 3 (ZD:=ob)) ?_)))))
 rintro _ _ ⟨k1,rfl,rfl,YB⟩
 refine Z1 1 9 (.b (k1==0)) (ie (ac (k1==0) Zh (fun Ze=>?_) (fun Ze=>?_)))
 ·refine ar (Yk 1 10 (ZE n1) [1] [b2] (ic [] (S8 n1 181 (hn:=hnm)) ?_))
  rintro _ _ ⟨n21,rfl,rfl,YN⟩
  have hlm:=YN
  refine ZH 2 b1 (ZU n21) (ie ?_)
  exact Zc (r3 [1] [ZE n21] [0] [(b1,b1)] ⟨n21,p21+1,rfl,rfl,(by first|exact ⟨hlm,by omega,by omega⟩|exact ⟨hnm,by omega,by omega⟩)⟩ (lr _))
 refine ak (ar (Yk 1 12 (ZE n1) [1] [b2] (ZH 2 b1 (ZU n1) (ie ?_))))
 exact Zc (r3 [1] [ZE n1] [0] [(b1,b1)] ⟨n1,p21+1,rfl,rfl,(by first|exact ⟨hlm,by omega,by omega⟩|exact ⟨hnm,by omega,by omega⟩)⟩ (lr _))
theorem RQ (rd:Nat) (bs:List Int) (p:Nat) (ZD:∀z∈bs,0<=z/\z<=255) (hp:p+400002<=1000000000:=by exact ob):Zj Tryz.prog 122 [.p rd 0] [Yl rd bs p] (fun r h=>∃(n:Zy) (p2:Nat),r=ZE n/\h=[Yl rd bs p2]/\FO n 814510 V9/\p<=p2/\p2<=p+400002):=by
 refine ZK 15 Tryz.func122 (ar (iA [nl,nl] ?_))
 intro b1
 refine ie (ar (ir 1 [(0,.p rd 0),(2,.p b1 0),(5,.p rd 0)] (ic [1] (IX rd bs p (ZD:=ob)) ?_)))
 rintro _ _ ⟨n1,p21,rfl,rfl,ZP⟩
 have hpf:=ZP
 refine iA [nl,nl] ?_
 intro b2
 refine ZH 0 b2 (ZU n1) (ie (ar (Yk 1 7 (ZE n1) [0] [b2] (ic [] (RP n1 181 (hn:=hpf.1)) ?_))))
 rintro _ _ ⟨n21,rfl,rfl,Y0⟩
 have hcf:=FO.le Y0 (show 4500*181+10<=814510 by omega)
 refine iA [nl,nl] ?_
 intro b3
 refine ZH 0 b3 (ZU n21) (ie (aq (ar (Z1 1 9 (.p rd 0) (ic [2] (XU rd bs p21 4 (ZD:=ob)) ?_)))))
 rintro _ _ ⟨k1,rfl,rfl,YB⟩
 refine Z1 1 11 (.b (k1==0)) (ie (ac (k1==0) Zh (fun Ze=>?_) (fun Ze=>?_)))
 ·refine az (Yk 1 12 (ZE n1) [2] [b2] (ic [] (S1 n1 181 (hn:=hpf.1)) ?_))
  rintro _ _ ⟨n22,rfl,rfl,YN⟩
  have hlf:=FO.le YN (show 60*181<=814510 by omega)
  refine ZH 1 b3 (ZU n22) (ie (ar (Yk 1 14 (ZE n22) [0] [b3] (ZH 3 b1 (ZU n22) (ie ?_)))))
  exact Zc (r3 [2] [ZE n22] [0] [(b1,b1)] ⟨n22,p21+1,rfl,rfl,(by first|exact ⟨hlf,by omega,by omega⟩|exact ⟨hcf,by omega,by omega⟩)⟩ (lr _))
 refine ak (ar (Yk 1 14 (ZE n21) [1] [b3] (ZH 3 b1 (ZU n21) (ie ?_))))
 exact Zc (r3 [1] [ZE n21] [0] [(b1,b1)] ⟨n21,p21+1,rfl,rfl,(by first|exact ⟨hlf,by omega,by omega⟩|exact ⟨hcf,by omega,by omega⟩)⟩ (lr _))
theorem Rw (rd:Nat) (bs:List Int) (p:Nat) (ZD:∀z∈bs,0<=z/\z<=255) (hp:p+400030<=1000000000:=by exact ob):Zj Tryz.prog 85 [.p rd 0] [Yl rd bs p] (fun r h=>∃(n:Zy) (p2:Nat),r=ZE n/\h=[Yl rd bs p2]/\ZN n 7330630/\p<=p2/\p2<=p+400030):=by
 refine ZK 35 Tryz.func85 (ar (iA [nl,nl] ?_))
 intro b1
 refine ie (ar (ir 1 [(0,.p rd 0),(2,.p b1 0),(5,.p rd 0)] (ic [1] (RQ rd bs p (ZD:=ob)) ?_)))
 rintro _ _ ⟨n1,p21,rfl,rfl,ZP⟩
 have hcf:=FO.le ZP.1 (show 814510<=814514 by omega)
 have hcp:=ZP
 refine iA [nl,nl] ?_
 intro b2
 refine ZH 0 b2 (ZU n1) (ie (aq (ar (Z1 1 7 (.p rd 0) (ic [1] (XU rd bs p21 4 (ZD:=ob)) ?_)))))
 rintro _ _ ⟨k1,rfl,rfl,Y0⟩
 refine Z1 1 9 (.b (k1==0)) (ie (XI (fun F h=>∃(na:Zy) (pa:Nat),(FO na 814514 V9)/\(p<=pa/\pa<=p+400010)/\F=[(0,.p rd 0),(2,.p b1 0),(3,.p b2 0)]/\h=[Yl rd bs pa,.obj b2 (ZU na),.obj b1 [nl,nl]]) ?_ ?_))
 ·refine ac (k1==0) Zh (fun Ze=>?_) (fun Ze=>?_)
  ·refine az (iR 2 [(0,.p rd 0),(2,.p b1 0),(3,.p b2 0),(10,.p rd 0),(11,ZE n1)] [1] [b2] (ic [0] (IT rd bs (p21+1) n1 (ZD:=ob) (hz:=(by first|exact (FO.zn hcp.1).sz om|exact TU.sz om)) (hl1:=(by first|(have:=hcp.1.fn.len;omega)|(have:=TU.len;omega)))) ?_))
   rintro _ _ ⟨n21,p22,rfl,rfl,YB⟩
   have hho:=YB
   refine ZH 1 b2 (ZU n21) (ie ?_)
   exact ZV ⟨n21,p22,(FO.held hcp.1 hho.1),ob,rfl,rfl⟩ (wk [1,0,0] fl)
  refine ak ?_
  exact ZV ⟨n1,p21+1,hcf,ob,rfl,rfl⟩ (ZL 3 fl)
 rintro F h ⟨na,pa,QC,G8,rfl,rfl⟩
 refine aq (ar (ir 1 [(0,.p rd 0),(2,.p b1 0),(3,.p b2 0),(13,.p rd 0)] (ic [0] (XU rd bs pa 4 (ZD:=ob)) ?_)))
 rintro _ _ ⟨k2,rfl,rfl,YN⟩
 refine Z1 1 15 (.b (k2==0)) (ie (XI (fun F h=>∃(nb:Zy) (pb:Nat),(FO nb 814514 V9)/\(p<=pb/\pb<=p+400012)/\F=[(0,.p rd 0),(2,.p b1 0),(3,.p b2 0)]/\h=[Yl rd bs pb,.obj b2 (ZU nb),.obj b1 [nl,nl]]) ?_ ?_))
 ·refine ac (k2==0) Zh (fun Zk=>?_) (fun Zk=>?_)
  ·refine az (iR 1 [(0,.p rd 0),(2,.p b1 0),(3,.p b2 0),(16,ZE na)] [1] [b2] (ic [] (RC na 814514 (hn:=QC)) ?_))
   rintro _ _ ⟨n22,rfl,rfl,YX⟩
   have hca:=YX
   refine ZH 1 b2 (ZU n22) (ie ?_)
   exact ZV ⟨n22,pa+1,hca,ob,rfl,rfl⟩ (wk [1,0,0] fl)
  refine ak ?_
  exact ZV ⟨na,pa+1,QC,ob,rfl,rfl⟩ (ZL 3 fl)
 rintro F h ⟨nb,pb,Vv,Jg,rfl,rfl⟩
 refine ar (ir 1 [(0,.p rd 0),(2,.p b1 0),(3,.p b2 0),(18,.p rd 0)] (ic [0] (XU rd bs pb 3 (ZD:=ob)) ?_))
 rintro _ _ ⟨k3,rfl,rfl,Xy⟩
 refine Z1 1 4 (.i k3) (ie (aq (ar (Z1 2 21 (.b (decide (k3>0))) (ie (XI (fun F h=>∃(nc:Zy) (pc:Nat),(ZN nc 7330626)/\(k3>1->WN nc 7330626)/\(p<=pc/\pc<=p+400014)/\F=[(0,.p rd 0),(2,.p b1 0),(3,.p b2 0),(4,.i k3)]/\h=[Yl rd bs pc,.obj b2 (ZU nc),.obj b1 [nl,nl]]) ?_ ?_))))))
 ·refine ZM (k3>0) (fun ZI=>?_) (fun ZI=>?_)
  ·refine az (iR 1 [(0,.p rd 0),(2,.p b1 0),(3,.p b2 0),(4,.i k3),(22,ZE nb)] [1] [b2] (ZA [] (Su nb (hn:=Vv.fn.ok) (hz:=(Vv.zn.sz om)) (hwb:=(fun r hr=>(Vv.wl om r hr).w))) (ZH 1 b2 (ZU (En nb)) (ie ?_))))
   exact ZV ⟨(En nb),pb+1,((Vv.wn om).sp.zn),(fun _=>(Vv.wn om).sp),ob,rfl,rfl⟩ (wk [1,0,0] fl)
  refine ak ?_
  exact ZV ⟨nb,pb+1,(Vv.zn.le om),(fun h=>by omega),ob,rfl,rfl⟩ (ZL 3 fl)
 rintro F h ⟨nc,pc,Cj,Ck,Z0y,rfl,rfl⟩
 refine aq (ar (ir 2 [(0,.p rd 0),(2,.p b1 0),(3,.p b2 0),(25,.b (decide (k3>1)))] (ie (XI (fun F h=>∃(nd:Zy) (pd:Nat),(ZN nd 7330626)/\(p<=pd/\pd<=p+400014)/\F=[(0,.p rd 0),(2,.p b1 0),(3,.p b2 0)]/\h=[Yl rd bs pd,.obj b2 (ZU nd),.obj b1 [nl,nl]]) ?_ ?_))))
 ·refine ZM (k3>1) (fun Yi=>?_) (fun Yi=>?_)
  ·refine az (iR 1 [(0,.p rd 0),(2,.p b1 0),(3,.p b2 0),(26,ZE nc)] [1] [b2] (ZA [] (Sr nc (hn:=(Ck (by assumption)).ok) (hz:=(Cj.sz om)) (hwb:=(fun r hr=>((Ck (by assumption)).wl r hr).w)) (hnr:=(fun r hr=>((Ck (by assumption)).wl r hr).nr))) (ZH 1 b2 (ZU (E8 nc)) (ie ?_))))
   exact ZV ⟨(E8 nc),pc,(Ck (by assumption)).ru,ob,rfl,rfl⟩ (wk [1,0,0] fl)
  refine ak ?_
  exact ZV ⟨nc,pc,Cj,ob,rfl,rfl⟩ (ZL 3 fl)
 rintro F h ⟨nd,pd,TU,Z0z,rfl,rfl⟩
 refine aq (ar (ir 1 [(0,.p rd 0),(2,.p b1 0),(3,.p b2 0),(28,.p rd 0)] (ic [0] (XU rd bs pd 6 (ZD:=ob)) ?_)))
 rintro _ _ ⟨k4,rfl,rfl,Wh⟩
 refine Z1 1 30 (.b (k4==0)) (ie (ac (k4==0) Zh (fun Xk=>?_) (fun Xk=>?_)))
 ·refine az (Y1 2 31 (.p rd 0) 32 (ZE nd) [1] [b2] (ic [0] (IT rd bs (pd+1) nd (ZD:=ob) (hz:=(by first|exact (FO.zn hcp.1).sz om|exact TU.sz om)) (hl1:=(by first|(have:=hcp.1.fn.len;omega)|(have:=TU.len;omega)))) ?_))
  rintro _ _ ⟨n23,p23,rfl,rfl,WJ⟩
  have hho:=WJ
  refine ZH 1 b2 (ZU n23) (ie (ar (Yk 1 34 (ZE n23) [0] [b2] (ZH 2 b1 (ZU n23) (ie ?_)))))
  exact Zc (r3 [2] [ZE n23] [0] [(b1,b1)] ⟨n23,p23,rfl,rfl,(by first|exact ⟨TU.held hho.1,by omega,by omega⟩|exact ⟨TU.le om,by omega,by omega⟩)⟩ (lr _))
 refine ak (ar (Yk 1 34 (ZE nd) [1] [b2] (ZH 2 b1 (ZU nd) (ie ?_))))
 exact Zc (r3 [1] [ZE nd] [0] [(b1,b1)] ⟨nd,pd+1,rfl,rfl,(by first|exact ⟨TU.held hho.1,by omega,by omega⟩|exact ⟨TU.le om,by omega,by omega⟩)⟩ (lr _))
theorem Sy (rd:Nat) (bs:List Int) (p:Nat) (xs:List Int) (ZD:∀z∈bs,0<=z/\z<=255) (hp:p+3<=1000000000:=by exact ob) (hl:xs.length<=1000000:=by exact ob):Zj Tryz.prog 52 [.p rd 0,Z0 xs] [Yl rd bs p] (fun r h=>∃(zs:List Int) (p2:Nat),r=Z0 zs/\h=[Yl rd bs p2]/\zs.length<=xs.length+1/\p<=p2/\p2<=p+3):=by
 refine ZK 32 Tryz.func52 (ar (ir 1 [(0,.p rd 0),(1,Z0 xs)] (ie (ar (Z1 1 6 (Z0 xs) (ic [] (A6 xs) ?_))))))
 rintro _ _ ⟨v1,rfl,rfl⟩
 refine Z1 1 5 (.h v1) (ie (aq (ar (Z1 1 8 (.h v1) (Zq (Jo 0 v1 xs) (Z1 2 11 (.b (decide ((xs.length:Int)>0))) (ib (b:=(decide ((xs.length:Int)>0))) 11 (fun Za=>?_) (fun Za=>?_))))))))
 ·have ZP:(xs.length:Int)>0:=(dq).1 Za
  refine Z5 1 (.n 12 (.p rd 0) (.k (.d .r))) (ic [1] (XU rd bs p 2 (ZD:=ob)) ?_)
  rintro _ _ ⟨k1,rfl,rfl,Y0⟩
  refine Z1 2 15 (.b (k1==0)) (ie (ac (k1==0) Zh (fun Ze=>?_) (fun Ze=>?_)))
  ·refine ar (Z5 3 (.n 16 (.h v1) (.n 17 (.p rd 0) (.n 18 (.h v1) .r))) (Zq (Jo 1 v1 xs) (ic [0] (Kv rd bs (p+1) xs.length (ZD:=ob)) ?_)))
   rintro _ _ ⟨Ya,rfl,rfl,YB⟩
   refine Z1 1 21 (.p rd 0) (iL (Z8 [0,1,-1,7,1000,1001]) 6 1 ?_)
   intro v2
   refine Z5 0 (.n 22 (Z0 [0,1,-1,7,1000,1001]) (.p .r)) (ic [1] (Vt rd bs ((p+1)+1) [0,1,-1,7,1000,1001] (ZD:=ob)) ?_)
   rintro _ _ ⟨z1,rfl,rfl,YN⟩
   refine Zq (Vz 2 v1 xs (Ya:Int) Ya) (Le 2 v1 xs Ya z1 (ie (ar (ir 2 [(4,.h v1)] (ie (CX 4 0 (v:=v1) (xs:=(xs.set Ya z1)) ?_))))))
   exact Zc (r2 [1] [Z6 (xs.set Ya z1) v1.v] ⟨(xs.set Ya z1),((p+1)+1)+1,rfl,rfl,⟨by simp,by omega,by omega⟩⟩ (Zg.forget _ _))
  refine ak (ar (ir 2 [(26,.h v1),(27,.p rd 0)] (iL (Z8 [0,1,2,-1,1000]) 5 1 ?_)))
  intro v3
  refine Z5 0 (.n 28 (Z0 [0,1,2,-1,1000]) (.p .r)) (ic [1] (Vt rd bs (p+1) [0,1,2,-1,1000] (ZD:=ob)) ?_)
  rintro _ _ ⟨z2,rfl,rfl,YX⟩
  refine iL (Z8 [z2]) 1 1 ?_
  intro v4
  refine Z5 0 (.n 30 (Z0 [z2]) (.p .r)) (Kw 3 v1 xs [z2] none ?_)
  intro v5
  refine ir 1 [(4,.h v5)] (ie (CX 4 0 (v:=v5) (xs:=(xs++[z2])) ?_))
  exact Zc (r2 [2] [Z6 (xs++[z2]) v5.v] ⟨(xs++[z2]),(p+1)+1,rfl,rfl,⟨by simp,by omega,by omega⟩⟩ (Zg.forget _ _))
 have Xy:¬((xs.length:Int)>0):=ZG dq Za
 refine Z5 4 (.n 15 (.b false) (.k (.d .r))) (ie (WS (ak (ar (ir 2 [(26,.h v1),(27,.p rd 0)] (iL (Z8 [0,1,2,-1,1000]) 5 1 ?_))))))
 intro v6
 refine Z5 0 (.n 28 (Z0 [0,1,2,-1,1000]) (.p .r)) (ic [2] (Vt rd bs p [0,1,2,-1,1000] (ZD:=ob)) ?_)
 rintro _ _ ⟨z3,rfl,rfl,Wh⟩
 refine iL (Z8 [z3]) 1 1 ?_
 intro v7
 refine Z5 0 (.n 30 (Z0 [z3]) (.p .r)) (Kw 3 v1 xs [z3] none ?_)
 intro v8
 refine ir 1 [(4,.h v8)] (ie (CX 4 0 (v:=v8) (xs:=(xs++[z3])) ?_))
 exact Zc (r2 [2] [Z6 (xs++[z3]) v8.v] ⟨(xs++[z3]),p+1,rfl,rfl,⟨by simp,by omega,by omega⟩⟩ (Zg.forget _ _))
theorem Pn (s:Z4) (hz:s.sz<=1000000000:=by exact ob):Zj Tryz.prog 127 [Y4 s] [] (fun r h=>∃(v:Hd),r=.agg [.i s.op,.i s.num,.i s.into,.h v,Yz s.kids]/\h=[rV v s.args]):=by
 have hkz:=T8 s
 have haz:=Q7 s
 refine ZK 33 Tryz.func127 (ar (iA (Yg s) ?_))
 intro b1
 refine iA [.i 0,.i 0,.i 0,nl,nl] ?_
 intro b2
 refine ie (ar (iL (YH []) 0 2 ?_))
 intro v1
 refine ir 1 [(1,.p b1 0),(2,.p b2 0),(3,X4 [] v1)] (ie (aq (ar (Z1 1 4 (.i 0) (ie (ab 0 (al (fun m F h=>∃(k:Nat) (v:Value),(k<=s.kids.length)/\F=[(1,.p b1 0),(2,.p b2 0),(3,X4 (s.kids.take k) v),(4,.i k)]/\h=[.obj b2 [.i 0,.i 0,.i 0,nl,nl],.obj b1 (Yg s),.tail v 2]/\m=s.kids.length-k) _ _ _ ⟨0,v1,ob,rfl,rfl,rfl⟩ (wk [1,1,0] (fw (fc (x:=X4 [] v1) (Zg.slh _ (Yv YH rfl)) (Ye fl)))) ?_)))))))
 rintro m F h ⟨k,v,Ym,rfl,rfl,rfl⟩
 refine aq (ar (Y1 3 6 (.i k) 8 (Yz s.kids) [1] [b1] (iw (VX s.kids) (Z1 1 10 (.b (decide ((k:Int)<(s.kids.length:Int)))) (ie (ZM ((k:Int)<(s.kids.length:Int)) (fun Ze=>?_) (fun Ze=>?_)))))))
 ·refine ak (aq (ab 1 (az (Y2 4 (.n 13 (X4 (s.kids.take k) v) (.n 15 (Yz s.kids) (.n 16 (.i k) .r))) [1] [b1] ?_))))
  obtain ⟨x1,Z3⟩:=Zs (xs:=s.kids) (j:=k) om
  have hks:=T7 Z3
  refine Zq (Zo none (k:Int) 2 (UA Z3)) (Z1 1 18 (Zx x1) (ZA [] (Eo x1) (iL [Zx x1] 1 2 ?_)))
  intro v2
  refine Z5 0 (.n 20 (.sl [Zx x1] none) (.p .r)) (ip 3 (YH (s.kids.take (k+1))) (YH (s.kids.take k)) [Zx x1] v none 2 (T0 _) (TA rfl) rfl (by simp<;>omega) (by rw [WO Z3];simp [Um]) ?_)
  intro v3
  refine ir 1 [(1,.p b1 0),(2,.p b2 0),(3,X4 (s.kids.take (k+1)) v3),(4,.i k)] (ie (az (Z1 1 11 (.i k) (ZO k (Z5 1 (.n 4 (.i (k+1:Nat)) (.p (.d (.k (.k (.k .z)))))) (ie ?_))))))
  exact ZQ ⟨k+1,v3,ob,rfl,rfl,rfl⟩ (wk [2,2,0] (fw (fr (ZW k fl))))
 refine ax 0 (aD 12 (W2 3 12 [0,1,2,3,4,5,6,7,9] [(2,.p b2 0),(23,.i s.op),(25,.i s.num),(27,.i s.into),(29,Z0 s.args),(31,X4 (s.kids.take k) v)] [1,1,1,1] [b1,b1,b1,b1] (Z9 8 (dc 8 [] [1,1,1] [b1,b1,b1] (A6 s.args) ?_))))
 rintro _ _ ⟨v4,rfl,rfl⟩
 refine ZY 1 2 [10] 32 (.agg [.i s.op,.i s.num,.i s.into,.h v4,X4 (s.kids.take k) v]) (Z9 11 (YK 11 1 [] [] b2 [.i s.op,.i s.num,.i s.into,.h v4,X4 (s.kids.take k) v] (de ?_)))
 exact Zc (r3 [1] [.agg [.i s.op,.i s.num,.i s.into,.h v4,X4 (s.kids.take k) v]] [0] [(b2,b2)] ⟨v4,rfl,rfl⟩ (Zg.agg (.cons (lr _) (.cons (lr _) (.cons (lr _) (.cons (lr _) (.cons (Zg.sl _ (Yv YH (by rw [Ve om]))) .nil)))))))
theorem L0 (rd:Nat) (bs:List Int) (p:Nat) (s:Z4) (ZD:∀z∈bs,0<=z/\z<=255) (hp:p+3<=1000000000:=by exact ob) (hz:s.sz<=100000000:=by exact ob) (hg:s.rng:=by exact ob):Zj Tryz.prog 89 [.p rd 0,Y4 s] [Yl rd bs p] (fun r h=>∃(y:Z4) (p2:Nat),r=Y4 y/\h=[Yl rd bs p2]/\VA s y/\p<=p2/\p2<=p+3):=by
 have haz:=Q7 s
 have hkz:=T8 s
 refine ZK 66 Tryz.func89 (ar (iA (Yg s) ?_))
 intro b1
 refine iA [.i 0,.i 0,.i 0,nl,nl] ?_
 intro b2
 refine ie (ar (iR 1 [(0,.p rd 0),(4,.p b2 0),(6,Y4 s)] [1] [b1] (ic [] (Pn s) ?_)))
 rintro _ _ ⟨v1,rfl,rfl⟩
 refine iA [.i 0,.i 0,.i 0,nl,nl] ?_
 intro b3
 refine ZH 0 b3 [.i s.op,.i s.num,.i s.into,.h v1,Yz s.kids] (ie (aq (ar (Z1 1 8 (.p rd 0) (ic [4] (XU rd bs p 6 (ZD:=ob)) ?_)))))
 rintro _ _ ⟨k1,rfl,rfl,ZP⟩
 refine ie (ab 0 (ar (Z1 2 10 (.b (k1==0)) (ie (ac (k1==0) Zh (fun Ze=>?_) (fun Ze=>?_))))))
 ·refine az (Z1 1 12 (.p rd 0) (iL (Z8 [14,15,16,17,6,9,12,0,1]) 9 1 ?_))
  intro v2
  refine Z5 0 (.n 13 (Z0 [14,15,16,17,6,9,12,0,1]) (.p .r)) (ic [1] (Vt rd bs (p+1) [14,15,16,17,6,9,12,0,1] (ZD:=ob)) ?_)
  rintro _ _ ⟨z1,rfl,rfl,Y0⟩
  have hon:=Y0
  refine Z1 1 15 (.p b3 0) (ZH 2 b3 [.i z1,.i s.num,.i s.into,.h v1,Yz s.kids] (ie (ar (XK (KL 3 v1 s.args) (XK (Ux 0 0 3 v1.v 1 b3 (Z8 s.args) [.i z1,.i s.num,.i s.into,.h v1,Yz s.kids] (YD _) rfl) (Yk 1 65 (.agg [.i z1,.i s.num,.i s.into,Z6 s.args v1.v,Yz s.kids]) [0] [b3] (ZH 4 b2 [.i z1,.i s.num,.i s.into,Z6 s.args v1.v,Yz s.kids] (ie ?_))))))))
  exact Zc (r3 [3] [.agg [.i z1,.i s.num,.i s.into,Z6 s.args v1.v,Yz s.kids]] [0] [(b2,b2)] ⟨(Z4.mk z1 s.num s.into s.args s.kids),(p+1)+1,rfl,rfl,⟨by first|exact VA.refl hg|exact VA.of hg (by first|exact .inl rfl|exact .inr hon) (by first|exact Nat.le_succ _|(simp<;>omega)) (by first|exact .inl rfl|exact .inr rfl),by omega,by omega⟩⟩ (Zg.agg (.cons (lr _) (.cons (lr _) (.cons (lr _) (.cons (Zg.forget _ _) (.cons (lr _) .nil)))))))
 refine ar (Z1 2 16 (.b (k1==1)) (ie (ac (k1==1) Zh (fun Zk=>?_) (fun Zk=>?_))))
 ·refine az (Z1 1 18 (.p rd 0) (iL (Z8 [0,1,2,3,-1,1000]) 6 1 ?_))
  intro v3
  refine Z5 0 (.n 19 (Z0 [0,1,2,3,-1,1000]) (.p .r)) (ic [1] (Vt rd bs (p+1) [0,1,2,3,-1,1000] (ZD:=ob)) ?_)
  rintro _ _ ⟨z2,rfl,rfl,YB⟩
  have hon:=YB
  refine Z1 1 21 (.p b3 1) (ZH 2 b3 [.i s.op,.i z2,.i s.into,.h v1,Yz s.kids] (ie (ar (XK (KL 3 v1 s.args) (XK (Ux 0 0 3 v1.v 1 b3 (Z8 s.args) [.i s.op,.i z2,.i s.into,.h v1,Yz s.kids] (YD _) rfl) (Yk 1 65 (.agg [.i s.op,.i z2,.i s.into,Z6 s.args v1.v,Yz s.kids]) [0] [b3] (ZH 4 b2 [.i s.op,.i z2,.i s.into,Z6 s.args v1.v,Yz s.kids] (ie ?_))))))))
  exact Zc (r3 [3] [.agg [.i s.op,.i z2,.i s.into,Z6 s.args v1.v,Yz s.kids]] [0] [(b2,b2)] ⟨(Z4.mk s.op z2 s.into s.args s.kids),(p+1)+1,rfl,rfl,⟨by first|exact VA.refl hg|exact VA.of hg (by first|exact .inl rfl|exact .inr hon) (by first|exact Nat.le_succ _|(simp<;>omega)) (by first|exact .inl rfl|exact .inr rfl),by omega,by omega⟩⟩ (Zg.agg (.cons (lr _) (.cons (lr _) (.cons (lr _) (.cons (Zg.forget _ _) (.cons (lr _) .nil)))))))
 refine ar (Z1 2 22 (.b (k1==2)) (ie (ac (k1==2) Zh (fun ZI=>?_) (fun ZI=>?_))))
 ·refine az (Z1 1 24 (.p rd 0) (iL (Z8 [1,2,0,-1,90]) 5 1 ?_))
  intro v4
  refine Z5 0 (.n 25 (Z0 [1,2,0,-1,90]) (.p .r)) (ic [1] (Vt rd bs (p+1) [1,2,0,-1,90] (ZD:=ob)) ?_)
  rintro _ _ ⟨z3,rfl,rfl,YN⟩
  have hon:=YN
  refine Z1 1 27 (.p b3 2) (ZH 2 b3 [.i s.op,.i s.num,.i z3,.h v1,Yz s.kids] (ie (ar (XK (KL 3 v1 s.args) (XK (Ux 0 0 3 v1.v 1 b3 (Z8 s.args) [.i s.op,.i s.num,.i z3,.h v1,Yz s.kids] (YD _) rfl) (Yk 1 65 (.agg [.i s.op,.i s.num,.i z3,Z6 s.args v1.v,Yz s.kids]) [0] [b3] (ZH 4 b2 [.i s.op,.i s.num,.i z3,Z6 s.args v1.v,Yz s.kids] (ie ?_))))))))
  exact Zc (r3 [3] [.agg [.i s.op,.i s.num,.i z3,Z6 s.args v1.v,Yz s.kids]] [0] [(b2,b2)] ⟨(Z4.mk s.op s.num z3 s.args s.kids),(p+1)+1,rfl,rfl,⟨by first|exact VA.refl hg|exact VA.of hg (by first|exact .inl rfl|exact .inr hon) (by first|exact Nat.le_succ _|(simp<;>omega)) (by first|exact .inl rfl|exact .inr rfl),by omega,by omega⟩⟩ (Zg.agg (.cons (lr _) (.cons (lr _) (.cons (lr _) (.cons (Zg.forget _ _) (.cons (lr _) .nil)))))))
 refine ar (Z1 2 28 (.b (k1==3)) (ie (ac (k1==3) Zh (fun Yi=>?_) (fun Yi=>?_))))
 ·refine aE 9 (Y6 6 9 [0,1,2] (.n 31 (.h v1) (.n 32 (.p rd 0) .r)) [1] [b3] (Z9 3 (dL 3 [1] [b3] (Z8 [0,1,-1]) 3 1 ?_)))
  intro v5
  refine ZZ 5 5 [] (.n 33 (Z0 [0,1,-1]) (.p .r)) (Z9 4 (dc 4 [1] [0] [b3] (Vt rd bs (p+1) [0,1,-1] (ZD:=ob)) ?_))
  rintro _ _ ⟨z4,rfl,rfl,YX⟩
  have hon:=YX
  refine Z9 5 (dL 5 [1] [b3] (Z8 [z4]) 1 1 ?_)
  intro v6
  refine ZZ 3 3 [] (.n 35 (Z0 [z4]) (.p .r)) (Z9 6 (Pr 6 4 [] [] v1 s.args [z4] none ?_))
  intro v7
  refine ZY 1 2 [7] 37 (.p b3 3) (Z9 8 (YK 8 4 [] [] b3 [.i s.op,.i s.num,.i s.into,.h v7,Yz s.kids] (de (ar (XK (KL 1 v7 (s.args++[z4])) (XK (Ux 0 0 3 v7.v 1 b3 (Z8 (s.args++[z4])) [.i s.op,.i s.num,.i s.into,.h v7,Yz s.kids] (YD _) rfl) (Yk 1 65 (.agg [.i s.op,.i s.num,.i s.into,Z6 (s.args++[z4]) v7.v,Yz s.kids]) [0] [b3] (ZH 5 b2 [.i s.op,.i s.num,.i s.into,Z6 (s.args++[z4]) v7.v,Yz s.kids] (ie ?_)))))))))
  exact Zc (r3 [4] [.agg [.i s.op,.i s.num,.i s.into,Z6 (s.args++[z4]) v7.v,Yz s.kids]] [0] [(b2,b2)] ⟨(Z4.mk s.op s.num s.into (s.args++[z4]) s.kids),(p+1)+1,rfl,rfl,⟨by first|exact VA.refl hg|exact VA.of hg (by first|exact .inl rfl|exact .inr hon) (by first|exact Nat.le_succ _|(simp<;>omega)) (by first|exact .inl rfl|exact .inr rfl),by omega,by omega⟩⟩ (Zg.agg (.cons (lr _) (.cons (lr _) (.cons (lr _) (.cons (Zg.forget _ _) (.cons (lr _) .nil)))))))
 refine ar (Z1 2 38 (.b (k1==4)) (ie (ac (k1==4) Zh (fun Xk=>?_) (fun Xk=>?_))))
 ·refine ar (Yk 2 41 (.h v1) [1] [b3] (Zq (Jo 2 v1 s.args) (Z1 1 43 (.b (decide ((s.args.length:Int)>0))) (ie (ZM ((s.args.length:Int)>0) (fun Xl=>?_) (fun Xl=>?_))))))
  ·refine aE 12 (Y6 7 12 [0,1,2,3,4] (.n 45 (.h v1) (.n 46 (.p rd 0) (.n 48 (.h v1) .r))) [1,1] [b3,b3] (dx 5 (Jo 2 v1 s.args) (ZY 5 6 [7] 51 (.p rd 0) (Vh 6 8 ?_ ?_))))
   ·refine dc 6 [0] [0] [b3] (Kv rd bs (p+1) s.args.length (ZD:=ob)) ?_
    rintro _ _ ⟨Ya,rfl,rfl,Xy⟩
    refine Z9 8 (dL 8 [1] [b3] (Z8 [0,1,2,3,-1,99]) 6 1 ?_)
    intro v8
    refine Xa 3 3 [] [(4,.p b2 0),(5,.p b3 0),(45,.h v1),(50,.i Ya),(51,.p rd 0),(52,Z0 [0,1,2,3,-1,99])] (Z9 9 (dc 9 [1] [0] [b3] (Vt rd bs ((p+1)+1) [0,1,2,3,-1,99] (ZD:=ob)) ?_))
    rintro _ _ ⟨z5,rfl,rfl,Wh⟩
    have hon:=Wh
    refine dx 10 (Vz 3 v1 s.args (Ya:Int) Ya) (Z9 11 (JJ 11 3 [] [] v1 s.args Ya z5 (de (ar (XK (KL 0 v1 (s.args.set Ya z5)) (XK (Ux 0 2 3 v1.v 1 b3 (Z8 (s.args.set Ya z5)) [.i s.op,.i s.num,.i s.into,.h v1,Yz s.kids] (YD _) rfl) (Yk 1 65 (.agg [.i s.op,.i s.num,.i s.into,Z6 (s.args.set Ya z5) v1.v,Yz s.kids]) [0] [b3] (ZH 4 b2 [.i s.op,.i s.num,.i s.into,Z6 (s.args.set Ya z5) v1.v,Yz s.kids] (ie ?_)))))))))
    exact Zc (r3 [3] [.agg [.i s.op,.i s.num,.i s.into,Z6 (s.args.set Ya z5) v1.v,Yz s.kids]] [0] [(b2,b2)] ⟨(Z4.mk s.op s.num s.into (s.args.set Ya z5) s.kids),((p+1)+1)+1,rfl,rfl,⟨by first|exact VA.refl hg|exact VA.of hg (by first|exact .inl rfl|exact .inr hon) (by first|exact Nat.le_succ _|(simp<;>omega)) (by first|exact .inl rfl|exact .inr rfl),by omega,by omega⟩⟩ (Zg.agg (.cons (lr _) (.cons (lr _) (.cons (lr _) (.cons (Zg.forget _ _) (.cons (lr _) .nil)))))))
   refine dL 8 [1,1] [b3,b3] (Z8 [0,1,2,3,-1,99]) 6 1 ?_
   intro v9
   refine Z9 6 (dc 6 [1] [0] [b3] (Kv rd bs (p+1) s.args.length (ZD:=ob)) ?_)
   rintro _ _ ⟨YC,rfl,rfl,WJ⟩
   refine Xa 3 3 [] [(4,.p b2 0),(5,.p b3 0),(45,.h v1),(50,.i YC),(51,.p rd 0),(52,Z0 [0,1,2,3,-1,99])] (Z9 9 (dc 9 [0] [0] [b3] (Vt rd bs ((p+1)+1) [0,1,2,3,-1,99] (ZD:=ob)) ?_))
   rintro _ _ ⟨z6,rfl,rfl,V2⟩
   have hon:=V2
   refine dx 10 (Vz 3 v1 s.args (YC:Int) YC) (Z9 11 (JJ 11 3 [] [] v1 s.args YC z6 (de (ar (XK (KL 0 v1 (s.args.set YC z6)) (XK (Ux 0 2 3 v1.v 1 b3 (Z8 (s.args.set YC z6)) [.i s.op,.i s.num,.i s.into,.h v1,Yz s.kids] (YD _) rfl) (Yk 1 65 (.agg [.i s.op,.i s.num,.i s.into,Z6 (s.args.set YC z6) v1.v,Yz s.kids]) [0] [b3] (ZH 4 b2 [.i s.op,.i s.num,.i s.into,Z6 (s.args.set YC z6) v1.v,Yz s.kids] (ie ?_)))))))))
   exact Zc (r3 [3] [.agg [.i s.op,.i s.num,.i s.into,Z6 (s.args.set YC z6) v1.v,Yz s.kids]] [0] [(b2,b2)] ⟨(Z4.mk s.op s.num s.into (s.args.set YC z6) s.kids),((p+1)+1)+1,rfl,rfl,⟨by first|exact VA.refl hg|exact VA.of hg (by first|exact .inl rfl|exact .inr hon) (by first|exact Nat.le_succ _|(simp<;>omega)) (by first|exact .inl rfl|exact .inr rfl),by omega,by omega⟩⟩ (Zg.agg (.cons (lr _) (.cons (lr _) (.cons (lr _) (.cons (Zg.forget _ _) (.cons (lr _) .nil)))))))
  refine ak (ar (XK (KL 2 v1 s.args) (XK (Ux 0 1 3 v1.v 1 b3 (Z8 s.args) [.i s.op,.i s.num,.i s.into,.h v1,Yz s.kids] (YD _) rfl) (Yk 1 65 (.agg [.i s.op,.i s.num,.i s.into,Z6 s.args v1.v,Yz s.kids]) [0] [b3] (ZH 3 b2 [.i s.op,.i s.num,.i s.into,Z6 s.args v1.v,Yz s.kids] (ie ?_))))))
  exact Zc (r3 [3] [.agg [.i s.op,.i s.num,.i s.into,Z6 s.args v1.v,Yz s.kids]] [0] [(b2,b2)] ⟨s,p+1,rfl,rfl,⟨by first|exact VA.refl hg|exact VA.of hg (by first|exact .inl rfl|exact .inr hon) (by first|exact Nat.le_succ _|(simp<;>omega)) (by first|exact .inl rfl|exact .inr rfl),by omega,by omega⟩⟩ (Zg.agg (.cons (lr _) (.cons (lr _) (.cons (lr _) (.cons (Zg.forget _ _) (.cons (lr _) .nil)))))))
 refine ar (Z1 2 55 (.b (k1==5)) (ie (ac (k1==5) Zh (fun Vu=>?_) (fun Vu=>?_))))
 ·refine ar (Yk 2 58 (Yz s.kids) [1] [b3] (iw (VX s.kids) (Z1 1 60 (.b (decide ((s.kids.length:Int)>0))) (ie (ZM ((s.kids.length:Int)>0) (fun Vm=>?_) (fun Vm=>?_))))))
  ·refine az (Yk 2 62 (Yz s.kids) [1] [b3] (Zq (K9 (es:=YH s.kids) (hv:=none) (l:=1) (m:=(((YH s.kids).length:Nat):Int)) (sz:=2) (es':=YH (s.kids.drop 1)) kr om (by simp<;>omega) (by simp<;>omega) (T0 _) (by first|(simp only [VL,Vl,Fk,Fj];done)|(simp only [VL,Vl,Fk,Fj];rfl)|(simp [Fk,Fj];done))) (Z1 1 64 (.p b3 4) (ZH 1 b3 [.i s.op,.i s.num,.i s.into,.h v1,Yz (s.kids.drop 1)] (ie (ar (XK (KL 2 v1 s.args) (XK (Ux 0 0 3 v1.v 1 b3 (Z8 s.args) [.i s.op,.i s.num,.i s.into,.h v1,Yz (s.kids.drop 1)] (YD _) rfl) (Yk 1 65 (.agg [.i s.op,.i s.num,.i s.into,Z6 s.args v1.v,Yz (s.kids.drop 1)]) [0] [b3] (ZH 3 b2 [.i s.op,.i s.num,.i s.into,Z6 s.args v1.v,Yz (s.kids.drop 1)] (ie ?_)))))))))))
   exact Zc (r3 [3] [.agg [.i s.op,.i s.num,.i s.into,Z6 s.args v1.v,Yz (s.kids.drop 1)]] [0] [(b2,b2)] ⟨(Z4.mk s.op s.num s.into s.args (s.kids.drop 1)),p+1,rfl,rfl,⟨by first|exact VA.refl hg|exact VA.of hg (by first|exact .inl rfl|exact .inr hon) (by first|exact Nat.le_succ _|(simp<;>omega)) (by first|exact .inl rfl|exact .inr rfl),by omega,by omega⟩⟩ (Zg.agg (.cons (lr _) (.cons (lr _) (.cons (lr _) (.cons (Zg.forget _ _) (.cons (lr _) .nil)))))))
  refine ak (ar (XK (KL 2 v1 s.args) (XK (Ux 0 1 3 v1.v 1 b3 (Z8 s.args) [.i s.op,.i s.num,.i s.into,.h v1,Yz s.kids] (YD _) rfl) (Yk 1 65 (.agg [.i s.op,.i s.num,.i s.into,Z6 s.args v1.v,Yz s.kids]) [0] [b3] (ZH 3 b2 [.i s.op,.i s.num,.i s.into,Z6 s.args v1.v,Yz s.kids] (ie ?_))))))
  exact Zc (r3 [3] [.agg [.i s.op,.i s.num,.i s.into,Z6 s.args v1.v,Yz s.kids]] [0] [(b2,b2)] ⟨s,p+1,rfl,rfl,⟨by first|exact VA.refl hg|exact VA.of hg (by first|exact .inl rfl|exact .inr hon) (by first|exact Nat.le_succ _|(simp<;>omega)) (by first|exact .inl rfl|exact .inr rfl),by omega,by omega⟩⟩ (Zg.agg (.cons (lr _) (.cons (lr _) (.cons (lr _) (.cons (Zg.forget _ _) (.cons (lr _) .nil)))))))
 refine ak (ar (XK (KL 2 v1 s.args) (XK (Ux 0 1 3 v1.v 1 b3 (Z8 s.args) [.i s.op,.i s.num,.i s.into,.h v1,Yz s.kids] (YD _) rfl) (Yk 1 65 (.agg [.i s.op,.i s.num,.i s.into,Z6 s.args v1.v,Yz s.kids]) [0] [b3] (ZH 3 b2 [.i s.op,.i s.num,.i s.into,Z6 s.args v1.v,Yz s.kids] (ie ?_))))))
 exact Zc (r3 [3] [.agg [.i s.op,.i s.num,.i s.into,Z6 s.args v1.v,Yz s.kids]] [0] [(b2,b2)] ⟨s,p+1,rfl,rfl,⟨by first|exact VA.refl hg|exact VA.of hg (by first|exact .inl rfl|exact .inr hon) (by first|exact Nat.le_succ _|(simp<;>omega)) (by first|exact .inl rfl|exact .inr rfl),by omega,by omega⟩⟩ (Zg.agg (.cons (lr _) (.cons (lr _) (.cons (lr _) (.cons (Zg.forget _ _) (.cons (lr _) .nil)))))))
theorem So (rd:Nat) (bs:List Int) (p:Nat) (mx:Int) (ZD:∀z∈bs,0<=z/\z<=255) (hp:p+1<=1000000000):Zj Tryz.prog 50 [.p rd 0,.i mx] [Yl rd bs p] (fun r h=>∃(k:Int),r=.i k/\h=[.obj rd [X9 bs,.i (p+1:Nat)]]/\Pk mx k/\k=Jn bs p mx):=by
 refine ZK 99 Tryz.func50 (ar (ir 1 [(0,.p rd 0),(1,.i mx)] (ie (ar (Y1 5 7 (.p rd 0) 11 (.i p) [0] [rd] (ZO p (Z1 2 14 (.p rd 1) (ZH 0 rd [X9 bs,.i (p+1:Nat)] (ie (aq (ar (Xp [(0,.p rd 0),(1,.i mx),(24,.b ((decide (mx<1))||((bs.length:Int)==0)))] [.obj rd [X9 bs,.i (p+1:Nat)]] ?_ ?_))))))))))))
 ·refine ir 3 [(0,.p rd 0),(1,.i mx),(17,.b (decide (mx<1)))] (ib (b:=(decide (mx<1))) 17 (fun Za=>?_) (fun Za=>?_))
  ·have ZP:mx<1:=(dq).1 Za
   refine Z5 7 (.n 24 (.b true) (.d (.k (.k .z)))) (ie ?_)
   exact wk [0] (fw (Zr true Za fl))
  have Y0:¬(mx<1):=ZG dq Za
  refine Y2 4 (.n 21 (X9 bs) (.k (.k (.k .z)))) [0] [rd] (iw (Qw bs) (Z1 2 24 (.b ((bs.length:Int)==0)) (ie ?_)))
  exact wk [0] (fw (Zr ((bs.length:Int)==0) Za fl))
 refine ac ((decide (mx<1))||((bs.length:Int)==0)) (p:=(mx<1)∨((bs.length:Int)=0)) (Yh dq Zh) (fun Ze=>?_) (fun Ze=>?_)
 ·refine ar (ir 1 [(4,.i 0)] (ie ?_))
  exact Zc (r1 [0] ⟨0,rfl,rfl,⟨Pk.zero,by rw [Jn,Zm om]⟩⟩)
 refine ak (ar (iR 4 [(0,.p rd 0),(1,.i mx),(28,.i (p+1:Nat))] [0] [rd] (ia ((p:Int)) ((((p+1:Nat):Int))-(1)) (Z1 1 5 (.i p) (ie (aq (ar (Y1 5 30 (.i p) 34 (X9 bs) [0] [rd] (iw (Qw bs) (Z1 1 36 (.b (decide ((p:Int)<(bs.length:Int)))) (ie (ZM ((p:Int)<(bs.length:Int)) (fun Zk=>?_) (fun Zk=>?_)))))))))))))
 ·refine ar (Y1 5 40 (X9 bs) 41 (.i p) [0] [rd] ?_)
  obtain ⟨x1,Z3⟩:=Zs (xs:=bs) (j:=p) om
  have hz:=ZD _ (Y7 Z3)
  refine Zq (Zo none (p:Int) 1 (Bb Z3)) (Z1 1 43 (.val (.int .u8 x1)) (Zq (Bu x1 om) (Z1 1 45 (.i mx) (Zq (Cl x1 mx om om) (ir 1 [(4,.i (x1 % mx))] (ie ?_))))))
  exact Zc (r1 [0] ⟨(x1 % mx),rfl,rfl,⟨Pk.rem om om,by rw [Jn,Zb om,Zm om,Z3];rfl⟩⟩)
 have hq1:p / bs.length<=p:=Nat.div_le_self _ _
 have hq0:(0:Int)<=((p / bs.length:Nat):Int):=Int.natCast_nonneg _
 refine ak (aD 46 (Y6 37 46 [0,1,2,3,4,5,6,7,8] (.n 50 (X9 bs) (.n 51 (.i p) (.n 55 (X9 bs) .r))) [0,0] [rd,rd] (dw 9 (Qw bs) (dx 10 (DO p bs.length om om) ?_))))
 obtain ⟨x2,Zv⟩:=Zs (xs:=bs) (j:=p % bs.length) (Nat.mod_lt _ om)
 have hz:=ZD _ (Y7 Zv)
 have hy2:=Zv
 refine dx 11 (Zo none ((p % bs.length:Nat):Int) 1 (Bb Zv)) (ZY 33 34 [12] 59 (.val (.int .u8 x2)) (dx 13 (Bu x2 om) (da 14 ((x2*131)) ((x2)*(131)) (Y6 26 31 [15,16,17,18,19] (.n 65 (X9 bs) (.n 66 (.i p) .r)) [0] [rd] (da 20 (((p*7:Nat):Int)) (((p:Int))*(7)) (da 21 (((p*7+3:Nat):Int)) ((((p*7:Nat):Int))+(3)) (Y6 20 24 [22,23,24,25] (.n 72 (X9 bs) .r) [0] [rd] (dw 26 (Qw bs) (dx 27 (DO (p*7+3) bs.length om om) ?_)))))))))
 obtain ⟨x3,YT⟩:=Zs (xs:=bs) (j:=(p*7+3) % bs.length) (Nat.mod_lt _ om)
 have hz3:=ZD _ (Y7 YT)
 have hy3:=YT
 refine dx 28 (Zo none (((p*7+3) % bs.length:Nat):Int) 1 (Bb YT)) (ZY 16 17 [29] 76 (.val (.int .u8 x3)) (dx 30 (Bu x3 om) (da 31 ((x3*1117)) ((x3)*(1117)) (da 32 (((x2*131)+(x3*1117))) (((x2*131))+((x3*1117))) (ZY 12 13 [33] 80 (.i p) (da 34 (((p*29:Nat):Int)) (((p:Int))*(29)) (da 35 ((((x2*131)+(x3*1117))+((p*29:Nat):Int))) ((((x2*131)+(x3*1117)))+(((p*29:Nat):Int))) (Y6 5 10 [36,37,38,39,40] (.n 83 (.i p) (.n 87 (X9 bs) .r)) [0] [rd] (dw 41 (Qw bs) (dx 42 (AJ p bs.length om om) (da 43 ((((p / bs.length:Nat):Int)*53)) ((((p / bs.length:Nat):Int))*(53)) (da 44 (((((x2*131)+(x3*1117))+((p*29:Nat):Int))+(((p / bs.length:Nat):Int)*53))) (((((x2*131)+(x3*1117))+((p*29:Nat):Int)))+((((p / bs.length:Nat):Int)*53))) (ZY 0 1 [45] 6 (.i ((((x2*131)+(x3*1117))+((p*29:Nat):Int))+(((p / bs.length:Nat):Int)*53))) (de (ar (Yo 2 92 (.i ((((x2*131)+(x3*1117))+((p*29:Nat):Int))+(((p / bs.length:Nat):Int)*53))) 93 (.i ((((x2*131)+(x3*1117))+((p*29:Nat):Int))+(((p / bs.length:Nat):Int)*53))) (Zq (Gc ((((x2*131)+(x3*1117))+((p*29:Nat):Int))+(((p / bs.length:Nat):Int)*53)) 64 om om) (Zq (Ls ((((x2*131)+(x3*1117))+((p*29:Nat):Int))+(((p / bs.length:Nat):Int)*53)) (((((x2*131)+(x3*1117))+((p*29:Nat):Int))+(((p / bs.length:Nat):Int)*53)) / 64)) (ir 1 [(1,.i mx),(6,.i (TH ((((x2*131)+(x3*1117))+((p*29:Nat):Int))+(((p / bs.length:Nat):Int)*53)) (((((x2*131)+(x3*1117))+((p*29:Nat):Int))+(((p / bs.length:Nat):Int)*53)) / 64)))] (ie (ar (ir 2 [(96,.i (TH ((((x2*131)+(x3*1117))+((p*29:Nat):Int))+(((p / bs.length:Nat):Int)*53)) (((((x2*131)+(x3*1117))+((p*29:Nat):Int))+(((p / bs.length:Nat):Int)*53)) / 64))),(97,.i mx)] (Zq (Cl (TH ((((x2*131)+(x3*1117))+((p*29:Nat):Int))+(((p / bs.length:Nat):Int)*53)) (((((x2*131)+(x3*1117))+((p*29:Nat):Int))+(((p / bs.length:Nat):Int)*53)) / 64)) mx om (Ez ⟨by omega,by omega⟩ ⟨by omega,by omega⟩).1) (ir 1 [(4,.i ((TH ((((x2*131)+(x3*1117))+((p*29:Nat):Int))+(((p / bs.length:Nat):Int)*53)) (((((x2*131)+(x3*1117))+((p*29:Nat):Int))+(((p / bs.length:Nat):Int)*53)) / 64)) % mx))] (ie ?_)))))))))))))))))))))))))
 exact Zc (r1 [0] ⟨((TH ((((x2*131)+(x3*1117))+((p*29:Nat):Int))+(((p / bs.length:Nat):Int)*53)) (((((x2*131)+(x3*1117))+((p*29:Nat):Int))+(((p / bs.length:Nat):Int)*53)) / 64)) % mx),rfl,rfl,⟨Pk.rem (Ez ⟨by omega,by omega⟩ ⟨by omega,by omega⟩).1 om,by rw [Jn,Zb om,Zb om,hy2,hy3];rfl⟩⟩)
theorem Sp (rd:Nat) (bs:List Int) (p:Nat) (mx:Nat) (ZD:∀z∈bs,0<=z/\z<=255) (hp:p+1<=1000000000:=by exact ob) (hmx:0<mx:=by exact ob):Zj Tryz.prog 50 [.p rd 0,.i mx] [Yl rd bs p] (fun r h=>∃(kn:Nat),r=.i kn/\h=[.obj rd [X9 bs,.i (p+1:Nat)]]/\kn<mx/\kn=(Jn bs p mx).toNat):=(So rd bs p mx ZD hp).mono fun r h ⟨z,hr,hh,hz,he⟩=>by
  have h0:=hz.lt om
  exact ⟨z.toNat,by rw [hr,Int.toNat_of_nonneg h0.1],hh,by omega,by rw [he]⟩
theorem Pm (s:Z4) (hz:s.sz<=1000000000):Zj Tryz.prog 127 [Y4 s] [] (fun r h=>∃(v:Hd),r=.agg [.i s.op,.i s.num,.i s.into,Z0 s.args,.h v]/\h=[rK v 2 (Zl (YH s.kids))]):=by
 have hkz:=T8 s
 have haz:=Q7 s
 refine ZK 33 Tryz.func127 (ar (iA (Yg s) ?_))
 intro b1
 refine iA [.i 0,.i 0,.i 0,nl,nl] ?_
 intro b2
 refine ie (ar (DH 2 ?_))
 intro g1
 refine ir 1 [(1,.p b1 0),(2,.p b2 0),(3,.ms g1 0 0 0)] (ie (aq (ar (Z1 1 4 (.i 0) (ie (ab 0 (al (fun m F h=>∃(k:Nat) (v:Hd),(k<=s.kids.length)/\F=[(1,.p b1 0),(2,.p b2 0),(3,.h v),(4,.i k)]/\h=[.obj b2 [.i 0,.i 0,.i 0,nl,nl],.obj b1 (Yg s),rK v 2 (Zl (YH (s.kids.take k)))]/\m=s.kids.length-k) _ _ _ ⟨0,(⟨some ⟨g1,0,none⟩,0,0⟩:Hd),ob,rfl,rfl,rfl⟩ (wk [1,1,0] (fw (fr (Ye fl))) (e:=(rc (rc (rr (ls:=[]) ob rz))))) ?_)))))))
 rintro m F h ⟨k,v,Ym,rfl,rfl,rfl⟩
 refine aq (ar (Y1 3 6 (.i k) 8 (Yz s.kids) [1] [b1] (iw (VX s.kids) (Z1 1 10 (.b (decide ((k:Int)<(s.kids.length:Int)))) (ie (ZM ((k:Int)<(s.kids.length:Int)) (fun Ze=>?_) (fun Ze=>?_)))))))
 ·refine ak (aq (ab 1 (az (Y2 4 (.n 13 (.h v) (.n 15 (Yz s.kids) (.n 16 (.i k) .r))) [1] [b1] ?_))))
  obtain ⟨x1,Z3⟩:=Zs (xs:=s.kids) (j:=k) om
  have hks:=T7 Z3
  refine Zq (Zo none (k:Int) 2 (UA Z3)) (Z1 1 18 (Zx x1) (ZA [] (Eo x1) (iL [Zx x1] 1 2 ?_)))
  intro v1
  refine Z5 0 (.n 20 (.sl [Zx x1] none) (.p .r)) (DG 3 k v 2 (Zl (YH (s.kids.take k))) [Zx x1] none (by rw [C8,Wv,Vp om]) (TA rfl) rfl (List.cons_ne_nil _ _) (by simp<;>omega) ?_)
  intro v2
  refine ir 1 [(1,.p b1 0),(2,.p b2 0),(3,.h v2),(4,.i k)] (ie (az (Z1 1 11 (.i k) (ZO k (Z5 1 (.n 4 (.i (k+1:Nat)) (.p (.d (.k (.k (.k .z)))))) (ie ?_))))))
  exact ZQ ⟨k+1,v2,ob,rfl,rfl,rfl⟩ (wk [2,2,0] (fw (fr (ZW k fl))) (e:=(rc (rc (rr (ls:=Zl (YH (s.kids.take k))++Zl [Zx x1]) (Rg Z3) rz)))))
 refine ax 0 (aD 12 (W2 3 12 [0,1,2,3,4,5,6,7,9] [(2,.p b2 0),(23,.i s.op),(25,.i s.num),(27,.i s.into),(29,Z0 s.args),(31,.h v)] [1,1,1,1] [b1,b1,b1,b1] (Z9 8 (dc 8 [] [1,1,1] [b1,b1,b1] (VJ s.args) ?_))))
 rintro _ _ ⟨v3,rfl,rfl⟩
 refine ZY 1 2 [10] 32 (.agg [.i s.op,.i s.num,.i s.into,Z6 s.args v3,.h v]) (Z9 11 (YK 11 1 [] [] b2 [.i s.op,.i s.num,.i s.into,Z6 s.args v3,.h v] (de ?_)))
 exact Zc (r3 [3] [.agg [.i s.op,.i s.num,.i s.into,Z6 s.args v3,.h v]] [0] [(b2,b2)] ⟨v,rfl,rfl⟩ (Zg.agg (.cons (lr _) (.cons (lr _) (.cons (lr _) (.cons (Zg.forget _ _) (.cons (lr _) .nil)))))) (eq:=(rr (ls:=Zl (YH (s.kids.take k))) (by rw [Ve om]) rz)))
theorem Pl (s:Z4) (fl:Bool) (hz:s.sz<=1000000000:=by exact ob):Zj Tryz.prog 127 [Y4 s] [] (fun r h=>(∃(v:Hd),r=.agg [.i s.op,.i s.num,.i s.into,Z0 s.args,.h v]/\h=[rK v 2 (Zl (YH s.kids))]/\fl=true)∨(r=Y4 s/\h=[]/\fl=false)):=by
 cases fl with
 | true=>exact (Pm s hz).mono fun r h ⟨v,hr,hh⟩=>.inl ⟨v,hr,hh,rfl⟩
 | false=>exact (Ng s hz).mono fun r h ⟨hr,hh⟩=>.inr ⟨hr,hh,rfl⟩
theorem Ph (b:Z7) (kk:Nat) (hz:b.sz<=1000000000:=by exact ob) (hkk:kk<b.steps.length:=by exact ob):Zj Tryz.prog 86 [Zx b] [] (fun r h=>∃(v:Hd) (u:Hd),r=.agg [.h v,.i b.result]/\h=[rK v 5 (Wz b kk u.v b.steps.length),rK u 2 (Us b kk b.steps.length)]):=by
 have hbz:=Vx b
 refine ZK 28 Tryz.func86 (ar (iA (Yn b) ?_))
 intro b1
 refine iA [nl,.i 0] ?_
 intro b2
 refine ie (ar (DH 5 ?_))
 intro g1
 refine iR 3 [(1,.p b1 0),(2,.p b2 0),(8,.agg [.ms g1 0 0 0,.i b.result])] [2] [b1] (iA [nl,.i 0] ?_)
 intro b3
 refine ZH 0 b3 [.ms g1 0 0 0,.i b.result] (ie (aq (ar (XK (Z6p (k:=2)) (Z1 1 4 (.i 0) (ie (ab 0 (al (fun m F h=>∃(k:Nat) (v:Hd) (u:Hd),(k<=b.steps.length)/\F=[(1,.p b1 0),(2,.p b2 0),(3,.p b3 0),(4,.i k)]/\h=[.obj b3 [.h v,.i b.result],.obj b2 [nl,.i 0],.obj b1 (Yn b),rK v 5 (Wz b kk u.v k),rK u 2 (Us b kk k)]/\m=b.steps.length-k) _ _ _ ⟨0,(⟨some ⟨g1,0,none⟩,0,0⟩:Hd),hN,ob,rfl,rfl,rfl⟩ (wk [1,2,2,1,0] (fw (fr (Ye fl))) (e:=(rc (rc (rc (rr (ls:=[]) (by first|exact Lw.symm|exact Lz.symm) (rr (ls:=[]) (by first|exact Lw.symm|exact Lz.symm) rz))))))) ?_))))))))
 rintro m F h ⟨k,v,u,Ym,rfl,rfl,rfl⟩
 refine aq (ar (Y1 3 9 (.i k) 11 (Yj b.steps) [2] [b1] (iw (VE b.steps) (Z1 1 13 (.b (decide ((k:Int)<(b.steps.length:Int)))) (ie (ZM ((k:Int)<(b.steps.length:Int)) (fun Ze=>?_) (fun Ze=>?_)))))))
 ·refine ak (aq (ab 1 (aE 12 (Y6 7 12 [0,1,2,3,4] (.n 17 (.h v) (.n 19 (Yj b.steps) (.n 20 (.i k) .r))) [0,2] [b3,b1] ?_))))
  obtain ⟨x1,Z3⟩:=Zs (xs:=b.steps) (j:=k) om
  have hss:=KJ Z3
  refine dx 5 (Zo none (k:Int) 5 (Wy Z3)) (ZY 5 6 [6] 22 (Y4 x1) (Z9 7 (dc 7 [] [0] [b3] (Pl x1 (decide (k=kk))) ?_)))
  rintro _ _ (⟨v1,rfl,rfl,ZP⟩|⟨rfl,rfl,Y0⟩)
  ·have hke:k=kk:=of_decide_eq_true ZP
   refine Fd (NK [1,1,1,0,0,0] (h':=[.obj b3 [.h v,.i b.result],.obj b2 [nl,.i 0],.obj b1 (Yn b),rK v1 2 (Zl (YH x1.kids)),rK v 5 (Wz b kk u.v k),rK u 2 (Us b kk k)]) (d:=[]) kr) (Z9 8 (dL 8 [0] [b3] [.agg [.i x1.op,.i x1.num,.i x1.into,Z0 x1.args,.h v1]] 1 5 ?_))
   intro v2
   refine ZZ 3 3 [] (.n 24 (.sl [.agg [.i x1.op,.i x1.num,.i x1.into,Z0 x1.args,.h v1]] none) (.p .r)) (Z9 9 (Fa 9 5 k [] [] v 5 (Wz b kk u.v k) [.agg [.i x1.op,.i x1.num,.i x1.into,Z0 x1.args,.h v1]] none (Gf om) (TA rfl) rfl (List.cons_ne_nil _ _) (by simp<;>omega) ?_))
   intro v3
   refine ZY 1 2 [10] 26 (.p b3 0) (Z9 11 (YK 11 2 [] [] b3 [.h v3,.i b.result] (de (az (Z1 1 14 (.i k) (ZO k (ir 1 [(1,.p b1 0),(2,.p b2 0),(3,.p b3 0),(4,.i (k+1:Nat))] (ie ?_))))))))
   exact ZQ ⟨k+1,v3,v1,ob,rfl,rfl,rfl⟩ (wk [0,2,2,0,1] (fw (fr (ZW k fl))) (e:=(rc (rc (rc (rr (ls:=Wz b kk u.v k++Zl [.agg [.i x1.op,.i x1.num,.i x1.into,Z0 x1.args,.h v1]]) (by first|(subst hke;exact Lv Z3)|(subst hke;exact Ly Z3)) (rr (ls:=Zl (YH x1.kids)) (by first|(subst hke;exact Lv Z3)|(subst hke;exact Ly Z3)) rz)))))))
  have hke:¬k=kk:=of_decide_eq_false Y0
  refine Z9 8 (dL 8 [0] [b3] [Y4 x1] 1 5 ?_)
  intro v4
  refine ZZ 3 3 [] (.n 24 (.sl [Y4 x1] none) (.p .r)) (Z9 9 (Fa 9 4 k [] [] v 5 (Wz b kk u.v k) [Y4 x1] none (Gf om) (TA rfl) rfl (List.cons_ne_nil _ _) (by simp<;>omega) ?_))
  intro v5
  refine ZY 1 2 [10] 26 (.p b3 0) (Z9 11 (YK 11 2 [] [] b3 [.h v5,.i b.result] (de (az (Z1 1 14 (.i k) (ZO k (ir 1 [(1,.p b1 0),(2,.p b2 0),(3,.p b3 0),(4,.i (k+1:Nat))] (ie ?_))))))))
  exact ZQ ⟨k+1,v5,u,ob,rfl,rfl,rfl⟩ (wk [0,2,2,0,1] (fw (fr (ZW k fl))) (e:=(rc (rc (rc (rr (ls:=Wz b kk u.v k++Zl [Y4 x1]) (by first|exact Lu Z3 hke|exact Lx hke) (rr (ls:=Us b kk k) (by first|exact Lu Z3 hke|exact Lx hke) rz)))))))
 refine ax 0 (ar (Yk 1 27 (.agg [.h v,.i b.result]) [0] [b3] (ZH 1 b2 [.h v,.i b.result] (ie ?_))))
 exact Zc (r3 [3,3] [.agg [.h v,.i b.result]] [0] [(b2,b2)] ⟨v,u,rfl,rfl⟩ (lr _) (eq:=(rr (ls:=Wz b kk u.v k) (by rw [show k=b.steps.length by omega]) (rr (ls:=Us b kk k) (by rw [show k=b.steps.length by omega]) rz))))
theorem Sw (rd:Nat) (bs:List Int) (p:Nat) (b:Z7) (ZD:∀z∈bs,0<=z/\z<=255) (hp:p+(10*b.sz)<=1000000000) (hz:b.sz<=20000000) (hg:b.rng) (h0:b.steps.length=0):Zj Tryz.prog 53 [.p rd 0,Zx b] [Yl rd bs p] (fun r h=>∃(y:Z7) (p2:Nat),r=Zx y/\h=[Yl rd bs p2]/\Xs b y/\p<=p2/\p2<=p+(10*b.sz)):=by
 have hbp:=b.sz_pos
 refine ZK 109 Tryz.func53 (ar (iA (Yn b) ?_))
 intro b1
 refine iA [nl,.i 0] ?_
 intro b2
 refine ie (ar (iR 1 [(0,.p rd 0),(4,.p b2 0),(8,Zx b)] [1] [b1] (ZA [] (Eo b) (iA [nl,.i 0] ?_))))
 intro b3
 refine ZH 0 b3 (Yn b) (ie (aq (ar (Yk 2 11 (Yj b.steps) [0] [b3] (iw (VE b.steps) (Z1 2 14 (.b ((b.steps.length:Int)==0)) (ib (b:=((b.steps.length:Int)==0)) 14 (fun Za=>?_) (fun Za=>?_))))))))
 ·have ZP:(b.steps.length:Int)=0:=(Zh).1 Za
  refine Z5 4 (.n 18 (.b true) (.k (.d .r))) (ie (WL (ar (Z1 1 19 (.p rd 0) (iL (Z8 [0,1,2,3,-1,99]) 6 1 ?_)))))
  intro v1
  refine Z5 0 (.n 20 (Z0 [0,1,2,3,-1,99]) (.p .r)) (ic [4] (Vt rd bs p [0,1,2,3,-1,99] (ZD:=ob)) ?_)
  rintro _ _ ⟨z1,rfl,rfl,Y0⟩
  refine Z1 1 22 (.p b3 1) (ZH 2 b3 [Yj b.steps,.i z1] (ie (ar (Yk 1 23 (.agg [Yj b.steps,.i z1]) [0] [b3] (ZH 3 b2 [Yj b.steps,.i z1] (ie ?_))))))
  exact Zc (r3 [2] [.agg [Yj b.steps,.i z1]] [0] [(b2,b2)] ⟨(Z7.mk b.steps z1),p+1,rfl,rfl,⟨Xs.result hg _,by have:=b.sz_pos;omega,by have:=b.sz_pos;omega⟩⟩ (lr _))
 have YB:¬((b.steps.length:Int)=0):=ZG Zh Za
 exact absurd (show (b.steps.length:Int)=0 by omega) YB
theorem Sx (rd:Nat) (bs:List Int) (p:Nat) (b:Z7) (ZD:∀z∈bs,0<=z/\z<=255) (hp:p+(10*b.sz)<=1000000000) (hz:b.sz<=20000000) (hg:b.rng) (h0:0<b.steps.length) (ih:∀(rd:Nat) (bs:List Int) (p:Nat) (b2:Z7),(∀z∈bs,0<=z/\z<=255)->(p+(10*b2.sz)<=1000000000)->(b2.sz<=20000000)->(b2.rng)->(b2.sz<b.sz)->Zj Tryz.prog 53 [.p rd 0,Zx b2] [Yl rd bs p] (fun r h=>∃(y:Z7) (p2:Nat),r=Zx y/\h=[Yl rd bs p2]/\Xs b2 y/\p<=p2/\p2<=p+(10*b2.sz))):Zj Tryz.prog 53 [.p rd 0,Zx b] [Yl rd bs p] (fun r h=>∃(y:Z7) (p2:Nat),r=Zx y/\h=[Yl rd bs p2]/\Xs b y/\p<=p2/\p2<=p+(10*b.sz)):=by
 have hbp:=b.sz_pos
 obtain ⟨kk,hkk⟩:∃kk,kk=(Jn bs (p+1) (b.steps.length:Int)).toNat:=⟨_,rfl⟩
 have hkl:kk<b.steps.length:=by have:=Z31 (bs:=bs) (p:=p+1) (mx:=(b.steps.length:Int)) om;omega
 obtain ⟨sk,hsk⟩:=Zs (xs:=b.steps) (j:=kk) hkl
 have hsb:=KJ hsk
 have hsg:=Z3g hg hsk
 have hst:=Vx b
 refine ZK 109 Tryz.func53 (ar (iA (Yn b) ?_))
 intro b1
 refine iA [nl,.i 0] ?_
 intro b2
 refine ie (ar (iR 1 [(0,.p rd 0),(4,.p b2 0),(8,Zx b)] [1] [b1] (ic [] (Ph b kk) ?_)))
 rintro _ _ ⟨v1,u1,rfl,rfl⟩
 refine DF 0 b.steps.length (v:=v1) (Gf (kk:=kk) (u:=u1.v) (X7 b.steps.length)) om (fun g1 c1 he1=>?_)
 subst he1
 refine XK (NK [0,1,1,1,0] (h':=[.row (.slice (some ⟨g1,0,none⟩) b.steps.length c1) 5 (Wz b kk u1.v b.steps.length),.obj b2 [nl,.i 0],.obj b1 (Yn b),Yl rd bs p,rK u1 2 (Us b kk b.steps.length)]) (d:=[]) kr) (iA [nl,.i 0] ?_)
 intro b3
 refine ZH 0 b3 [.ms g1 0 b.steps.length c1,.i b.result] (ie (aq (ar (iR 2 [(0,.p rd 0),(4,.p b2 0),(5,.p b3 0),(11,.ms g1 0 b.steps.length c1)] [0] [b3] (io (.i b.steps.length) (.i b.steps.length) (lr _) (Z1 2 14 (.b ((b.steps.length:Int)==0)) (ib (b:=((b.steps.length:Int)==0)) 14 (fun Za=>?_) (fun Za=>?_))))))))
 ·have ZP:(b.steps.length:Int)=0:=(Zh).1 Za
  exact absurd ZP om
 have Y0:¬((b.steps.length:Int)=0):=ZG Zh Za
 refine Z5 1 (.n 15 (.p rd 0) (.k (.d .r))) (ic [4] (XU rd bs p 5 (ZD:=ob)) ?_)
 rintro _ _ ⟨k1,rfl,rfl,YB⟩
 refine Z1 2 18 (.b (k1==0)) (ie (ac (k1==0) Zh (fun Ze=>?_) (fun Ze=>?_)))
 ·refine ar (XK (H6 5 2 b kk sk u1.v (.slice (some ⟨g1,0,none⟩) b.steps.length c1) hsk) (XK (Ux 0 2 0 (.slice (some ⟨g1,0,none⟩) b.steps.length c1) 5 b3 (Zt b.steps) [.ms g1 0 b.steps.length c1,.i b.result] (X8 _) rfl) (Z1 1 19 (.p rd 0) (iL (Z8 [0,1,2,3,-1,99]) 6 1 ?_))))
  intro v2
  refine Z5 0 (.n 20 (Z0 [0,1,2,3,-1,99]) (.p .r)) (ic [4] (Vt rd bs (p+1) [0,1,2,3,-1,99] (ZD:=ob)) ?_)
  rintro _ _ ⟨z1,rfl,rfl,YN⟩
  refine Z1 1 22 (.p b3 1) (ZH 2 b3 [ZX b.steps (.slice (some ⟨g1,0,none⟩) b.steps.length c1),.i z1] (ie (ar (Yk 1 23 (.agg [ZX b.steps (.slice (some ⟨g1,0,none⟩) b.steps.length c1),.i z1]) [0] [b3] (ZH 5 b2 [ZX b.steps (.slice (some ⟨g1,0,none⟩) b.steps.length c1),.i z1] (ie ?_))))))
  exact Zc (r3 [2] [.agg [ZX b.steps (.slice (some ⟨g1,0,none⟩) b.steps.length c1),.i z1]] [0] [(b2,b2)] ⟨(Z7.mk b.steps z1),(p+1)+1,rfl,rfl,(by first|exact ⟨Xs.result hg _,by omega,by omega⟩|exact ⟨Xs.kid hg hsk hck hyb.1,by omega,by omega⟩|exact ⟨Xs.del hg,by omega,by omega⟩|exact ⟨Xs.put hg,by omega,by omega⟩|exact ⟨Xs.set hg hsk ⟨by have:=hys.1.1;omega,hys.1.2⟩,by omega,by omega⟩)⟩ (Zg.agg (.cons (Zg.forget _ _) (.cons (lr _) .nil))))
 refine ak (ar (Y1 3 24 (.p rd 0) 26 (.ms g1 0 b.steps.length c1) [1] [b3] (io (.i b.steps.length) (.i b.steps.length) (lr _) (ic [0] (Sp rd bs (p+1) b.steps.length (ZD:=ob)) ?_))))
 rintro _ _ ⟨Ya,rfl,rfl,YX⟩
 have hkn:Ya=kk:=by have:=YX.2;omega
 refine Z1 1 6 (.i Ya) (ie (aq (ar (Y1 3 30 (.ms g1 0 b.steps.length c1) 31 (.i Ya) [1] [b3] (Zq (W5 g1 b.steps.length c1 Ya 5 (Ya:Int)) (Z1 1 33 (.val (.pointer (some ⟨g1,Ya*5+4,none⟩))) (VI (WV 2 g1 b.steps.length c1 5 (Ya*5+4) (Wz b kk u1.v b.steps.length) [.h u1] 42 (.h u1) (by rw [hkn];exact DR hsk)) (Zq (Z16 5 sk.kids.length u1 2 (Us b kk b.steps.length) (by rw [Gg hsk];exact C8 _)) (Z1 2 37 (.b (decide ((sk.kids.length:Int)>0))) (ib (b:=(decide ((sk.kids.length:Int)>0))) 37 (fun Zw=>?_) (fun Zw=>?_)))))))))))
 ·have Xy:(sk.kids.length:Int)>0:=(dq).1 Zw
  refine Z5 1 (.n 38 (.p rd 0) (.k (.d .r))) (ic [0] (XU rd bs ((p+1)+1) 3 (ZD:=ob)) ?_)
  rintro _ _ ⟨k2,rfl,rfl,Wh⟩
  refine Z1 2 41 (.b (decide (k2>0))) (ie (ZM (k2>0) (fun Zk=>?_) (fun Zk=>?_)))
  ·refine ar (XK (H7 5 u1.v 2 (Us b kk b.steps.length) (Zl (YH sk.kids)) (Gg hsk)) (DF 0 sk.kids.length (v:=u1) (C8 _) om (fun g2 c2 he2=>?_)))
   subst he2
   refine iR 4 [(0,.p rd 0),(4,.p b2 0),(5,.p b3 0),(6,.i Ya),(42,.p rd 0),(44,.ms g1 0 b.steps.length c1),(45,.i Ya)] [2] [b3] (Zq (W5 g1 b.steps.length c1 Ya 5 (Ya:Int)) (Z1 1 47 (.val (.pointer (some ⟨g1,Ya*5+4,none⟩))) (VI (WV 3 g1 b.steps.length c1 5 (Ya*5+4) (Wz b kk (.slice (some ⟨g2,0,none⟩) sk.kids.length c2) b.steps.length) [.ms g2 0 sk.kids.length c2] 42 (.ms g2 0 sk.kids.length c2) (by rw [hkn];exact DR hsk)) (io (.i sk.kids.length) (.i sk.kids.length) (lr _) (ic [1] (Kv rd bs (((p+1)+1)+1) sk.kids.length (ZD:=ob)) ?_)))))
   rintro _ _ ⟨YC,rfl,rfl,WJ⟩
   obtain ⟨ck,hck⟩:=Zs (xs:=sk.kids) (j:=YC) om
   have hckz:=T7 hck
   have hckb:=KJ hsk
   have hckg:=Z3d hg hsk hck
   refine Z1 1 7 (.i YC) (ie (aD 20 (Y6 17 20 [0,1,2] (.n 52 (.ms g1 0 b.steps.length c1) (.n 53 (.i Ya) .r)) [2] [b3] (dx 3 (W5 g1 b.steps.length c1 Ya 5 (Ya:Int)) (ZY 15 16 [4] 55 (.val (.pointer (some ⟨g1,Ya*5+4,none⟩))) (VM 5 (WV 3 g1 b.steps.length c1 5 (Ya*5+4) (Wz b kk (.slice (some ⟨g2,0,none⟩) sk.kids.length c2) b.steps.length) [.ms g2 0 sk.kids.length c2] 42 (.ms g2 0 sk.kids.length c2) (by rw [hkn];exact DR hsk)) (Y6 9 14 [6,7,8,9,10] (.n 57 (.i YC) (.n 58 (.p rd 0) (.n 60 (.ms g1 0 b.steps.length c1) (.n 61 (.i Ya) .r)))) [2] [b3] (dx 11 (W5 g1 b.steps.length c1 Ya 5 (Ya:Int)) (ZY 7 8 [12] 63 (.val (.pointer (some ⟨g1,Ya*5+4,none⟩))) (VM 13 (WV 3 g1 b.steps.length c1 5 (Ya*5+4) (Wz b kk (.slice (some ⟨g2,0,none⟩) sk.kids.length c2) b.steps.length) [.ms g2 0 sk.kids.length c2] 42 (.ms g2 0 sk.kids.length c2) (by rw [hkn];exact DR hsk)) (ZY 5 6 [14] 65 (.i YC) (dx 15 (W5 g2 sk.kids.length c2 YC 2 (YC:Int)) (VM 16 (WV 1 g2 sk.kids.length c2 2 (YC*2) (Zl (YH sk.kids)) (Yn ck) 30 (Zx ck) (Rf hck)) (Z9 17 (dc 17 [0] [2,1] [g1,b3] (ih rd bs ((((p+1)+1)+1)+1) ck ob ob ob ob ob) ?_)))))))))))))))
   rintro _ _ ⟨y1,p21,rfl,rfl,V2⟩
   have hyb:=V2
   refine dx 18 (W5 g2 sk.kids.length c2 YC 2 (YC:Int)) (Z9 19 (At 19 1 [] [] g2 sk.kids.length c2 2 (YC*2) (Yn y1) (Zl (YH sk.kids)) (Zl (YH (sk.kids.set YC y1))) (by rw [C8];simp only [YS,Xn];omega) (Rh y1 om) (de (ar (XK (NH 0 2 b kk sk (sk.kids.set YC y1) (.slice (some ⟨g2,0,none⟩) sk.kids.length c2) (.slice (some ⟨g1,0,none⟩) b.steps.length c1) hsk) (XK (Ux 0 2 0 (.slice (some ⟨g1,0,none⟩) b.steps.length c1) 5 b3 (Zt (b.steps.set kk (Z4.mk sk.op sk.num sk.into sk.args (sk.kids.set YC y1)))) [.ms g1 0 b.steps.length c1,.i b.result] (X8 _) rfl) (Yk 1 70 (.agg [ZX (b.steps.set kk (Z4.mk sk.op sk.num sk.into sk.args (sk.kids.set YC y1))) (.slice (some ⟨g1,0,none⟩) b.steps.length c1),.i b.result]) [0] [b3] (ZH 4 b2 [ZX (b.steps.set kk (Z4.mk sk.op sk.num sk.into sk.args (sk.kids.set YC y1))) (.slice (some ⟨g1,0,none⟩) b.steps.length c1),.i b.result] (ie ?_)))))))))
   exact Zc (r3 [4] [.agg [ZX (b.steps.set kk (Z4.mk sk.op sk.num sk.into sk.args (sk.kids.set YC y1))) (.slice (some ⟨g1,0,none⟩) b.steps.length c1),.i b.result]] [0] [(b2,b2)] ⟨(Z7.mk (b.steps.set kk (Z4.mk sk.op sk.num sk.into sk.args (sk.kids.set YC y1))) b.result),p21,rfl,rfl,(by first|exact ⟨Xs.result hg _,by omega,by omega⟩|exact ⟨Xs.kid hg hsk hck hyb.1,by omega,by omega⟩|exact ⟨Xs.del hg,by omega,by omega⟩|exact ⟨Xs.put hg,by omega,by omega⟩|exact ⟨Xs.set hg hsk ⟨by have:=hys.1.1;omega,hys.1.2⟩,by omega,by omega⟩)⟩ (Zg.agg (.cons (Zg.forget _ _) (.cons (lr _) .nil))))
  refine ak (aq (ar (XK (H6 5 2 b kk sk u1.v (.slice (some ⟨g1,0,none⟩) b.steps.length c1) hsk) (Z1 1 71 (.p rd 0) (ic [2] (XU rd bs (((p+1)+1)+1) 4 (ZD:=ob)) ?_)))))
  rintro _ _ ⟨k3,rfl,rfl,Ua⟩
  refine ie (ab 0 (ar (Z1 2 84 (.b (k3==0)) (ie (ac (k3==0) Zh (fun ZI=>?_) (fun ZI=>?_))))))
  ·refine aE 12 (Y6 9 12 [0,1,2] (.n 87 (.ms g1 0 b.steps.length c1) (.n 88 (.i Ya) .r)) [3] [b3] (dx 3 (Ga 1 g1 b.steps.length c1 Ya 5 (Zl (Zt b.steps))) (Y6 5 8 [4,5,6] (.n 91 (.ms g1 0 b.steps.length c1) (.n 92 (.i Ya) .r)) [3] [b3] (da 7 (((Ya+1:Nat):Int)) (((Ya:Int))+(1)) (dx 8 (Lr 1 g1 b.steps.length c1 (Ya+1) 5 (Zl (Zt b.steps))) (Z9 9 (I7 9 1 [] [] g1 b.steps.length c1 Ya (Ya+1) 5 (Zl (Zt b.steps)) (Vs _) (ZY 1 2 [10] 96 (.p b3 0) (Z9 11 (YK 11 3 [] [] b3 [.ms g1 0 (Ya+(b.steps.length-(Ya+1))) c1,.i b.result] (de (ar (XK (H7 1 (.slice (some ⟨g1,0,none⟩) (Ya+(b.steps.length-(Ya+1))) c1) 5 (((Zl (Zt b.steps)).take (Ya*5))++((Zl (Zt b.steps)).drop ((Ya+1)*5))) (Zl (Zt (b.steps.take kk++b.steps.drop (kk+1)))) (by rw [hkn];exact Iy hkl)) (XK (Ux 0 0 0 (.slice (some ⟨g1,0,none⟩) (Ya+(b.steps.length-(Ya+1))) c1) 5 b3 (Zt (b.steps.take kk++b.steps.drop (kk+1))) [.ms g1 0 (Ya+(b.steps.length-(Ya+1))) c1,.i b.result] (X8 _) rfl) (Yk 1 108 (.agg [ZX (b.steps.take kk++b.steps.drop (kk+1)) (.slice (some ⟨g1,0,none⟩) (Ya+(b.steps.length-(Ya+1))) c1),.i b.result]) [0] [b3] (ZH 4 b2 [ZX (b.steps.take kk++b.steps.drop (kk+1)) (.slice (some ⟨g1,0,none⟩) (Ya+(b.steps.length-(Ya+1))) c1),.i b.result] (ie ?_)))))))))))))))))
   exact Zc (r3 [3] [.agg [ZX (b.steps.take kk++b.steps.drop (kk+1)) (.slice (some ⟨g1,0,none⟩) (Ya+(b.steps.length-(Ya+1))) c1),.i b.result]] [0] [(b2,b2)] ⟨(Z7.mk (b.steps.take kk++b.steps.drop (kk+1)) b.result),(((p+1)+1)+1)+1,rfl,rfl,(by first|exact ⟨Xs.result hg _,by omega,by omega⟩|exact ⟨Xs.kid hg hsk hck hyb.1,by omega,by omega⟩|exact ⟨Xs.del hg,by omega,by omega⟩|exact ⟨Xs.put hg,by omega,by omega⟩|exact ⟨Xs.set hg hsk ⟨by have:=hys.1.1;omega,hys.1.2⟩,by omega,by omega⟩)⟩ (Zg.agg (.cons (Zg.forget _ _) (.cons (lr _) .nil))))
  refine ar (Z1 2 97 (.b (k3==1)) (ie (ac (k3==1) Zh (fun Yi=>?_) (fun Yi=>?_))))
  ·refine aD 10 (Fd (Ux 1 2 0 (.slice (some ⟨g1,0,none⟩) b.steps.length c1) 5 b3 (Zt b.steps) [.ms g1 0 b.steps.length c1,.i b.result] (X8 _) rfl) (W2 6 10 [0,1,2,5] [(4,.p b2 0),(99,.agg [ZX b.steps (.slice (some ⟨g1,0,none⟩) b.steps.length c1),.i b.result]),(100,.i Ya),(101,.p rd 0),(104,.p rd 0)] [0] [b3] (Z9 3 (dL 3 [0] [b3] (Z8 [14,15,15,16,17]) 5 1 ?_))))
   intro v3
   refine ZZ 5 5 [] (.n 102 (Z0 [14,15,15,16,17]) (.p .r)) (Z9 4 (dc 4 [3] [0] [b3] (Vt rd bs ((((p+1)+1)+1)+1) [14,15,15,16,17] (ZD:=ob)) ?_))
   rintro _ _ ⟨z2,rfl,rfl,UE⟩
   refine Z9 6 (dc 6 [0] [0] [b3] (XU rd bs (((((p+1)+1)+1)+1)+1) 4 (ZD:=ob)) ?_)
   rintro _ _ ⟨k4,rfl,rfl,Ur⟩
   refine Z9 7 (Ys 7 [] [1] [b3] (KI z2 k4) (ZZ 2 2 [] (.n 99 (Zx b) (.q 106 (.p (.p (.d (.k (.d (.k .z)))))))) (Z9 8 (Ys 8 [] [] [] (Dz b Ya (Zi z2 k4)) (Z9 9 (YK 9 5 [] [] b2 (Yn (Z7.mk (Wb b.steps Ya (Zi z2 k4)) b.result)) (de ?_)))))))
   exact Zc (r3 [1] [Zx (Z7.mk (Wb b.steps Ya (Zi z2 k4)) b.result)] [0] [(b2,b2)] ⟨(Z7.mk (Wb b.steps Ya (Zi z2 k4)) b.result),(((((p+1)+1)+1)+1)+1)+1,rfl,rfl,(by first|exact ⟨Xs.result hg _,by omega,by omega⟩|exact ⟨Xs.kid hg hsk hck hyb.1,by omega,by omega⟩|exact ⟨Xs.del hg,by omega,by omega⟩|exact ⟨Xs.put hg,by omega,by omega⟩|exact ⟨Xs.set hg hsk ⟨by have:=hys.1.1;omega,hys.1.2⟩,by omega,by omega⟩)⟩ (lr _))
  refine aE 12 (Y6 5 12 [0,1,2,3,4,5,6] (.n 74 (.ms g1 0 b.steps.length c1) (.n 75 (.i Ya) (.n 76 (.p rd 0) (.n 78 (.ms g1 0 b.steps.length c1) (.n 79 (.i Ya) .r))))) [3,3] [b3,b3] (dx 7 (W5 g1 b.steps.length c1 Ya 5 (Ya:Int)) (VM 8 (WV 1 g1 b.steps.length c1 5 (Ya*5) (Zl (Zt b.steps)) (Yg sk) 44 (Y4 sk) (by rw [hkn];exact FF hsk)) (Z9 9 (dc 9 [0] [1] [b3] (L0 rd bs ((((p+1)+1)+1)+1) sk (ZD:=ob)) ?_)))))
  rintro _ _ ⟨y2,p22,rfl,rfl,Tm⟩
  have hys:=Tm
  refine dx 10 (W5 g1 b.steps.length c1 Ya 5 (Ya:Int)) (Z9 11 (At 11 1 [] [] g1 b.steps.length c1 5 (Ya*5) (Yg y2) (Zl (Zt b.steps)) (Zl (Zt (b.steps.set kk y2))) (by rw [TR];simp only [YS,Xn];omega) (by rw [hkn];exact Du hsk) (de (ar (XK (Ux 0 2 0 (.slice (some ⟨g1,0,none⟩) b.steps.length c1) 5 b3 (Zt (b.steps.set kk y2)) [.ms g1 0 b.steps.length c1,.i b.result] (X8 _) rfl) (Yk 1 108 (.agg [ZX (b.steps.set kk y2) (.slice (some ⟨g1,0,none⟩) b.steps.length c1),.i b.result]) [0] [b3] (ZH 4 b2 [ZX (b.steps.set kk y2) (.slice (some ⟨g1,0,none⟩) b.steps.length c1),.i b.result] (ie ?_))))))))
  exact Zc (r3 [3] [.agg [ZX (b.steps.set kk y2) (.slice (some ⟨g1,0,none⟩) b.steps.length c1),.i b.result]] [0] [(b2,b2)] ⟨(Z7.mk (b.steps.set kk y2) b.result),p22,rfl,rfl,(by first|exact ⟨Xs.result hg _,by omega,by omega⟩|exact ⟨Xs.kid hg hsk hck hyb.1,by omega,by omega⟩|exact ⟨Xs.del hg,by omega,by omega⟩|exact ⟨Xs.put hg,by omega,by omega⟩|exact ⟨Xs.set hg hsk ⟨by have:=hys.1.1;omega,hys.1.2⟩,by omega,by omega⟩)⟩ (Zg.agg (.cons (Zg.forget _ _) (.cons (lr _) .nil))))
 have T5:¬((sk.kids.length:Int)>0):=ZG dq Zw
 refine Z5 4 (.n 41 (.b false) (.k (.d .r))) (ie (WS (ak (aq (ar (XK (H6 5 2 b kk sk u1.v (.slice (some ⟨g1,0,none⟩) b.steps.length c1) hsk) (Z1 1 71 (.p rd 0) (ic [2] (XU rd bs ((p+1)+1) 4 (ZD:=ob)) ?_))))))))
 rintro _ _ ⟨k5,rfl,rfl,Qz⟩
 refine ie (ab 0 (ar (Z1 2 84 (.b (k5==0)) (ie (ac (k5==0) Zh (fun Xk=>?_) (fun Xk=>?_))))))
 ·refine aE 12 (Y6 9 12 [0,1,2] (.n 87 (.ms g1 0 b.steps.length c1) (.n 88 (.i Ya) .r)) [3] [b3] (dx 3 (Ga 1 g1 b.steps.length c1 Ya 5 (Zl (Zt b.steps))) (Y6 5 8 [4,5,6] (.n 91 (.ms g1 0 b.steps.length c1) (.n 92 (.i Ya) .r)) [3] [b3] (da 7 (((Ya+1:Nat):Int)) (((Ya:Int))+(1)) (dx 8 (Lr 1 g1 b.steps.length c1 (Ya+1) 5 (Zl (Zt b.steps))) (Z9 9 (I7 9 1 [] [] g1 b.steps.length c1 Ya (Ya+1) 5 (Zl (Zt b.steps)) (Vs _) (ZY 1 2 [10] 96 (.p b3 0) (Z9 11 (YK 11 3 [] [] b3 [.ms g1 0 (Ya+(b.steps.length-(Ya+1))) c1,.i b.result] (de (ar (XK (H7 1 (.slice (some ⟨g1,0,none⟩) (Ya+(b.steps.length-(Ya+1))) c1) 5 (((Zl (Zt b.steps)).take (Ya*5))++((Zl (Zt b.steps)).drop ((Ya+1)*5))) (Zl (Zt (b.steps.take kk++b.steps.drop (kk+1)))) (by rw [hkn];exact Iy hkl)) (XK (Ux 0 0 0 (.slice (some ⟨g1,0,none⟩) (Ya+(b.steps.length-(Ya+1))) c1) 5 b3 (Zt (b.steps.take kk++b.steps.drop (kk+1))) [.ms g1 0 (Ya+(b.steps.length-(Ya+1))) c1,.i b.result] (X8 _) rfl) (Yk 1 108 (.agg [ZX (b.steps.take kk++b.steps.drop (kk+1)) (.slice (some ⟨g1,0,none⟩) (Ya+(b.steps.length-(Ya+1))) c1),.i b.result]) [0] [b3] (ZH 4 b2 [ZX (b.steps.take kk++b.steps.drop (kk+1)) (.slice (some ⟨g1,0,none⟩) (Ya+(b.steps.length-(Ya+1))) c1),.i b.result] (ie ?_)))))))))))))))))
  exact Zc (r3 [3] [.agg [ZX (b.steps.take kk++b.steps.drop (kk+1)) (.slice (some ⟨g1,0,none⟩) (Ya+(b.steps.length-(Ya+1))) c1),.i b.result]] [0] [(b2,b2)] ⟨(Z7.mk (b.steps.take kk++b.steps.drop (kk+1)) b.result),((p+1)+1)+1,rfl,rfl,(by first|exact ⟨Xs.result hg _,by omega,by omega⟩|exact ⟨Xs.kid hg hsk hck hyb.1,by omega,by omega⟩|exact ⟨Xs.del hg,by omega,by omega⟩|exact ⟨Xs.put hg,by omega,by omega⟩|exact ⟨Xs.set hg hsk ⟨by have:=hys.1.1;omega,hys.1.2⟩,by omega,by omega⟩)⟩ (Zg.agg (.cons (Zg.forget _ _) (.cons (lr _) .nil))))
 refine ar (Z1 2 97 (.b (k5==1)) (ie (ac (k5==1) Zh (fun Xl=>?_) (fun Xl=>?_))))
 ·refine aD 10 (Fd (Ux 1 2 0 (.slice (some ⟨g1,0,none⟩) b.steps.length c1) 5 b3 (Zt b.steps) [.ms g1 0 b.steps.length c1,.i b.result] (X8 _) rfl) (W2 6 10 [0,1,2,5] [(4,.p b2 0),(99,.agg [ZX b.steps (.slice (some ⟨g1,0,none⟩) b.steps.length c1),.i b.result]),(100,.i Ya),(101,.p rd 0),(104,.p rd 0)] [0] [b3] (Z9 3 (dL 3 [0] [b3] (Z8 [14,15,15,16,17]) 5 1 ?_))))
  intro v4
  refine ZZ 5 5 [] (.n 102 (Z0 [14,15,15,16,17]) (.p .r)) (Z9 4 (dc 4 [3] [0] [b3] (Vt rd bs (((p+1)+1)+1) [14,15,15,16,17] (ZD:=ob)) ?_))
  rintro _ _ ⟨z3,rfl,rfl,QA⟩
  refine Z9 6 (dc 6 [0] [0] [b3] (XU rd bs ((((p+1)+1)+1)+1) 4 (ZD:=ob)) ?_)
  rintro _ _ ⟨k6,rfl,rfl,Je⟩
  refine Z9 7 (Ys 7 [] [1] [b3] (KI z3 k6) (ZZ 2 2 [] (.n 99 (Zx b) (.q 106 (.p (.p (.d (.k (.d (.k .z)))))))) (Z9 8 (Ys 8 [] [] [] (Dz b Ya (Zi z3 k6)) (Z9 9 (YK 9 5 [] [] b2 (Yn (Z7.mk (Wb b.steps Ya (Zi z3 k6)) b.result)) (de ?_)))))))
  exact Zc (r3 [1] [Zx (Z7.mk (Wb b.steps Ya (Zi z3 k6)) b.result)] [0] [(b2,b2)] ⟨(Z7.mk (Wb b.steps Ya (Zi z3 k6)) b.result),((((p+1)+1)+1)+1)+1,rfl,rfl,(by first|exact ⟨Xs.result hg _,by omega,by omega⟩|exact ⟨Xs.kid hg hsk hck hyb.1,by omega,by omega⟩|exact ⟨Xs.del hg,by omega,by omega⟩|exact ⟨Xs.put hg,by omega,by omega⟩|exact ⟨Xs.set hg hsk ⟨by have:=hys.1.1;omega,hys.1.2⟩,by omega,by omega⟩)⟩ (lr _))
 refine aE 12 (Y6 5 12 [0,1,2,3,4,5,6] (.n 74 (.ms g1 0 b.steps.length c1) (.n 75 (.i Ya) (.n 76 (.p rd 0) (.n 78 (.ms g1 0 b.steps.length c1) (.n 79 (.i Ya) .r))))) [3,3] [b3,b3] (dx 7 (W5 g1 b.steps.length c1 Ya 5 (Ya:Int)) (VM 8 (WV 1 g1 b.steps.length c1 5 (Ya*5) (Zl (Zt b.steps)) (Yg sk) 44 (Y4 sk) (by rw [hkn];exact FF hsk)) (Z9 9 (dc 9 [0] [1] [b3] (L0 rd bs (((p+1)+1)+1) sk (ZD:=ob)) ?_)))))
 rintro _ _ ⟨y3,p23,rfl,rfl,QB⟩
 have hys:=QB
 refine dx 10 (W5 g1 b.steps.length c1 Ya 5 (Ya:Int)) (Z9 11 (At 11 1 [] [] g1 b.steps.length c1 5 (Ya*5) (Yg y3) (Zl (Zt b.steps)) (Zl (Zt (b.steps.set kk y3))) (by rw [TR];simp only [YS,Xn];omega) (by rw [hkn];exact Du hsk) (de (ar (XK (Ux 0 2 0 (.slice (some ⟨g1,0,none⟩) b.steps.length c1) 5 b3 (Zt (b.steps.set kk y3)) [.ms g1 0 b.steps.length c1,.i b.result] (X8 _) rfl) (Yk 1 108 (.agg [ZX (b.steps.set kk y3) (.slice (some ⟨g1,0,none⟩) b.steps.length c1),.i b.result]) [0] [b3] (ZH 4 b2 [ZX (b.steps.set kk y3) (.slice (some ⟨g1,0,none⟩) b.steps.length c1),.i b.result] (ie ?_))))))))
 exact Zc (r3 [3] [.agg [ZX (b.steps.set kk y3) (.slice (some ⟨g1,0,none⟩) b.steps.length c1),.i b.result]] [0] [(b2,b2)] ⟨(Z7.mk (b.steps.set kk y3) b.result),p23,rfl,rfl,(by first|exact ⟨Xs.result hg _,by omega,by omega⟩|exact ⟨Xs.kid hg hsk hck hyb.1,by omega,by omega⟩|exact ⟨Xs.del hg,by omega,by omega⟩|exact ⟨Xs.put hg,by omega,by omega⟩|exact ⟨Xs.set hg hsk ⟨by have:=hys.1.1;omega,hys.1.2⟩,by omega,by omega⟩)⟩ (Zg.agg (.cons (Zg.forget _ _) (.cons (lr _) .nil))))
theorem Sv (rd:Nat) (bs:List Int) (p:Nat) (b:Z7) (ZD:∀z∈bs,0<=z/\z<=255) (hp:p+10*b.sz<=1000000000:=by exact ob) (hz:b.sz<=20000000:=by exact ob) (hg:b.rng:=by exact ob):Zj Tryz.prog 53 [.p rd 0,Zx b] [Yl rd bs p] (fun r h=>∃(y:Z7) (p2:Nat),r=Zx y/\h=[Yl rd bs p2]/\Xs b y/\p<=p2/\p2<=p+(10*b.sz)):=by
 have key:∀k:Nat,∀(rd:Nat) (bs:List Int) (p:Nat) (b2:Z7),(∀z∈bs,0<=z/\z<=255)->(p+(10*b2.sz)<=1000000000)->(b2.sz<=20000000)->(b2.rng)->(b2.sz<k)->Zj Tryz.prog 53 [.p rd 0,Zx b2] [Yl rd bs p] (fun r h=>∃(y:Z7) (p2:Nat),r=Zx y/\h=[Yl rd bs p2]/\Xs b2 y/\p<=p2/\p2<=p+(10*b2.sz)):=by
  intro k
  induction k with
  | zero=>intro rd bs p b2 h1 h2 h3 h4 h5;omega
  | succ k ih=>
   intro rd bs p b2 h1 h2 h3 h4 h5
   by_cases h0:b2.steps.length=0
   ·exact Sw rd bs p b2 h1 h2 h3 h4 h0
   ·exact Sx rd bs p b2 h1 h2 h3 h4 om fun rd bs p b3 q1 q2 q3 q4 q5=>ih rd bs p b3 q1 q2 q3 q4 om
 exact key (b.sz+1) rd bs p b ZD hp hz hg om
theorem FQ (rd:Nat) (bs:List Int) (p:Nat) (n:Zy) (often:Nat) (q:Nat) (l:Nat) (ZD:∀z∈bs,0<=z/\z<=255) (hp:p+(10*q+20)<=1000000000:=by exact ob) (hzn:ZS n q l:=by exact ob) (hq:q<=9999000:=by exact ob) (hl:l<=100:=by exact ob) (ho:0<often:=by exact ob):Zj Tryz.prog 61 [.p rd 0,ZE n,.i often] [Yl rd bs p] (fun r h=>∃(n2:Zy) (p2:Nat),r=ZE n2/\h=[Yl rd bs p2]/\ZS n2 (q+2) (l+1)/\p<=p2/\p2<=p+(10*q+20)):=by
 have hnl:=hzn.len
 refine ZK 64 Tryz.func61 (ar (iA (ZU n) ?_))
 intro b1
 refine iA [nl,nl] ?_
 intro b2
 refine ie (aq (ar (ir 2 [(0,.p rd 0),(4,.p b1 0),(6,.p b2 0),(9,.p rd 0),(10,.i often)] (ic [2] (Kv rd bs p often (ZD:=ob)) ?_))))
 rintro _ _ ⟨Ya,rfl,rfl,ZP⟩
 refine Z1 1 12 (.b (decide ((Ya:Int)>0))) (ie (ZM ((Ya:Int)>0) (fun Ze=>?_) (fun Ze=>?_)))
 ·refine ar (Yk 1 13 (ZE n) [2] [b1] (ZH 1 b2 (ZU n) (ie ?_)))
  exact Zc (r3 [1] [ZE n] [0] [(b2,b2)] ⟨n,p+1,rfl,rfl,(by first|exact ⟨hzn.le om om,by omega,by omega⟩|exact ⟨hzn.set hx1k om om om om hz1.2.2.2,by omega,by omega⟩|exact ⟨(hzn.le om om).ds had.1,by omega,by omega⟩|exact ⟨hzn.set hx2k om om om (by have:=hsb.1.1;omega) hsb.1.2,by omega,by omega⟩)⟩ (lr _))
 refine ak (ar (Y1 3 14 (.p rd 0) 16 (YZ n.routines) [2] [b1] (iw (U8 n.routines) (ic [0] (Kv rd bs (p+1) n.routines.length (ZD:=ob)) ?_))))
 rintro _ _ ⟨YC,rfl,rfl,Y0⟩
 refine Z1 1 7 (.i YC) (ie (aq (ar (Z1 1 19 (.p rd 0) (ic [0] (XU rd bs ((p+1)+1) 8 (ZD:=ob)) ?_)))))
 rintro _ _ ⟨k1,rfl,rfl,YB⟩
 refine ie (ab 0 (ar (Z1 2 21 (.b (k1==0)) (ie (ac (k1==0) Zh (fun Zk=>?_) (fun Zk=>?_))))))
 ·refine aD 11 (Y6 6 11 [0,1,2,3,4] (.n 23 (ZE n) (.n 24 (.i YC) (.n 26 (YZ n.routines) (.n 27 (.i YC) .r)))) [2,2] [b1,b1] ?_)
  obtain ⟨x1,Z3⟩:=Zs (xs:=n.routines) (j:=YC) om
  have hx1k:=Z3
  have hz1:=hzn.rt _ (Y7 Z3)
  refine dx 5 (Zo none (YC:Int) 5 (WB Z3)) (ZY 3 5 [6,7] 30 (Zx x1.body) (dK (fun F h=>∃(g1:Nat) (c1:Nat) (b3:Nat),F=[(0,.p rd 0),(6,.p b2 0),(7,.i YC),(8,.p b3 0)]/\h=[.obj b3 [Zd n.decls,.ms g1 0 n.routines.length c1],.row (.slice (some ⟨g1,0,none⟩) n.routines.length c1) 5 (Zl (YM (n.routines.set YC (Yf.mk x1.params x1.lent x1.result x1.body)))),.obj rd [X9 bs,.i ((((p+1)+1)+1:Nat):Int)],.obj b2 [nl,nl],.obj b1 (ZU n)]) ?_ ?_))
  ·refine Vh 8 9 ?_ ?_
   ·refine dc 8 [] [] [] (FT n YC x1.body x1 (hr:=Z3)) ?_
    rintro _ _ ⟨g1,c1,rfl,rfl⟩
    refine Z9 9 (dA 9 [] [] [nl,nl] ?_)
    intro b3
    refine Z9 10 (YK 10 0 [] [] b3 [Zd n.decls,.ms g1 0 n.routines.length c1] (de ?_))
    exact ZV ⟨g1,c1,b3,rfl,rfl⟩ (ZL 5 fl)
   refine dA 9 [2,2] [b1,b1] [nl,nl] ?_
   intro b4
   refine Z9 8 (dc 8 [] [] [] (FT n YC x1.body x1 (hr:=Z3)) ?_)
   rintro _ _ ⟨g2,c2,rfl,rfl⟩
   refine Z9 10 (YK 10 1 [] [] b4 [Zd n.decls,.ms g2 0 n.routines.length c2] (de ?_))
   exact ZV ⟨g2,c2,b4,rfl,rfl⟩ (ZL 5 fl)
  rintro F h ⟨g1,c1,b3,rfl,rfl⟩
  refine aD 14 (W2 7 14 [0,1,2,3,4,5,6] [(6,.p b2 0),(8,.p b3 0),(33,.ms g1 0 n.routines.length c1),(34,.i YC),(35,.p rd 0),(37,.ms g1 0 n.routines.length c1),(38,.i YC)] [0,0] [b3,b3] (dx 7 (W5 g1 n.routines.length c1 YC 5 (YC:Int)) (ZY 5 6 [8] 40 (.val (.pointer (some ⟨g1,YC*5+1,none⟩))) (VM 9 (WV 1 g1 n.routines.length c1 5 (YC*5+1) (Zl (YM (n.routines.set YC (Yf.mk x1.params x1.lent x1.result x1.body)))) [Z0 x1.lent] 27 (Z0 x1.lent) (Rj om _)) (Z9 10 (dc 10 [2] [0] [b3] (Sy rd bs (((p+1)+1)+1) x1.lent (ZD:=ob)) ?_))))))
  rintro _ _ ⟨zs1,p21,rfl,rfl,YN⟩
  have hsi:=YN
  refine dx 11 (W5 g1 n.routines.length c1 YC 5 (YC:Int)) (ZY 1 2 [12] 44 (.val (.pointer (some ⟨g1,YC*5+1,none⟩))) (Z9 13 (At 13 2 [] [] g1 n.routines.length c1 5 (YC*5+1) [Z0 zs1] (Zl (YM (n.routines.set YC (Yf.mk x1.params x1.lent x1.result x1.body)))) (Zl (YM (n.routines.set YC (Yf.mk x1.params zs1 x1.result x1.body)))) (by rw [Ds,UV];simp only [YS,Xn];omega) (Rl om _ _) (de (ar (XK (Ux 0 1 1 (.slice (some ⟨g1,0,none⟩) n.routines.length c1) 5 b3 (YM (n.routines.set YC (Yf.mk x1.params zs1 x1.result x1.body))) [Zd n.decls,.ms g1 0 n.routines.length c1] (U7 _) rfl) (Yk 1 45 (.agg [Zd n.decls,Xh (n.routines.set YC (Yf.mk x1.params zs1 x1.result x1.body)) (.slice (some ⟨g1,0,none⟩) n.routines.length c1)]) [0] [b3] (ZH 3 b2 [Zd n.decls,Xh (n.routines.set YC (Yf.mk x1.params zs1 x1.result x1.body)) (.slice (some ⟨g1,0,none⟩) n.routines.length c1)] (ie ?_)))))))))
  exact Zc (r3 [3] [.agg [Zd n.decls,Xh (n.routines.set YC (Yf.mk x1.params zs1 x1.result x1.body)) (.slice (some ⟨g1,0,none⟩) n.routines.length c1)]] [0] [(b2,b2)] ⟨(Zy.mk n.decls (n.routines.set YC (Yf.mk x1.params zs1 x1.result x1.body))),p21,rfl,rfl,(by first|exact ⟨hzn.le om om,by omega,by omega⟩|exact ⟨hzn.set hx1k om om om om hz1.2.2.2,by omega,by omega⟩|exact ⟨(hzn.le om om).ds had.1,by omega,by omega⟩|exact ⟨hzn.set hx2k om om om (by have:=hsb.1.1;omega) hsb.1.2,by omega,by omega⟩)⟩ (Zg.agg (.cons (lr _) (.cons (Zg.forget _ _) .nil))))
 refine ar (Z1 2 46 (.b (k1==1)) (ie (ac (k1==1) Zh (fun ZI=>?_) (fun ZI=>?_))))
 ·refine aD 6 (Y6 3 6 [0,2,3] (.n 48 (.p rd 0) (.n 51 (YZ n.routines) .r)) [2] [b1] (Z9 1 (dc 1 [0] [1] [b1] (Rt rd bs (((p+1)+1)+1) (ZD:=ob)) ?_)))
  rintro _ _ ⟨dz1,p22,rfl,rfl,YX⟩
  have had:=YX
  refine ZY 1 2 [4] 52 (.agg [Zd dz1,YZ n.routines]) (Z9 5 (YK 5 1 [] [] b2 [Zd dz1,YZ n.routines] (de ?_)))
  exact Zc (r3 [1] [.agg [Zd dz1,YZ n.routines]] [0] [(b2,b2)] ⟨(Zy.mk dz1 n.routines),p22,rfl,rfl,(by first|exact ⟨hzn.le om om,by omega,by omega⟩|exact ⟨hzn.set hx1k om om om om hz1.2.2.2,by omega,by omega⟩|exact ⟨(hzn.le om om).ds had.1,by omega,by omega⟩|exact ⟨hzn.set hx2k om om om (by have:=hsb.1.1;omega) hsb.1.2,by omega,by omega⟩)⟩ (lr _))
 refine ak (aD 12 (W2 6 12 [0,1,2,3,4,5] [(6,.p b2 0),(53,ZE n),(54,.i YC),(55,.p rd 0),(57,YZ n.routines),(58,.i YC)] [2,2] [b1,b1] ?_))
 obtain ⟨x2,Zv⟩:=Zs (xs:=n.routines) (j:=YC) om
 have hx2k:=Zv
 have hz2:=hzn.rt _ (Y7 Zv)
 refine dx 6 (Zo none (YC:Int) 5 (WB Zv)) (ZY 3 5 [7,8] 61 (Zx x2.body) (Z9 9 (dc 9 [0] [1] [b1] (Sv rd bs (((p+1)+1)+1) x2.body (ZD:=ob) (hg:=hz2.2.2.2)) ?_)))
 rintro _ _ ⟨y1,p23,rfl,rfl,Xy⟩
 have hsb:=Xy
 refine Z9 10 (Ys 10 [] [] [] (L4 n YC y1 x2 (hr:=Zv)) (Z9 11 (YK 11 1 [] [] b2 (ZU (withR n YC x2 y1)) (de ?_))))
 exact Zc (r3 [1] [ZE (withR n YC x2 y1)] [0] [(b2,b2)] ⟨(withR n YC x2 y1),p23,rfl,rfl,(by first|exact ⟨hzn.le om om,by omega,by omega⟩|exact ⟨hzn.set hx1k om om om om hz1.2.2.2,by omega,by omega⟩|exact ⟨(hzn.le om om).ds had.1,by omega,by omega⟩|exact ⟨hzn.set hx2k om om om (by have:=hsb.1.1;omega) hsb.1.2,by omega,by omega⟩)⟩ (lr _))
theorem Ru (rd:Nat) (bs:List Int) (p:Nat) (ZD:∀z∈bs,0<=z/\z<=255) (hp:p+73706400<=1000000000:=by exact ob):Zj Tryz.prog 49 [.p rd 0] [Yl rd bs p] (fun r h=>∃(n2:Zy) (p2:Nat),r=ZE n2/\h=[Yl rd bs p2]/\ZS n2 7330632 11/\p<=p2/\p2<=p+73706400):=by
 refine ZK 14 Tryz.func49 (ar (iA [nl,nl] ?_))
 intro b1
 refine ie (aq (ar (ir 1 [(0,.p rd 0),(2,.p b1 0),(3,.p rd 0)] (ic [1] (XU rd bs p 4 (ZD:=ob)) ?_))))
 rintro _ _ ⟨k1,rfl,rfl,ZP⟩
 refine Z1 1 5 (.b (k1==0)) (ie (ac (k1==0) Zh (fun Ze=>?_) (fun Ze=>?_)))
 ·refine ar (Yo 2 6 (.p rd 0) 7 (.p rd 0) (ic [0] (IX rd bs (p+1) (ZD:=ob)) ?_))
  rintro _ _ ⟨n1,p21,rfl,rfl,Y0⟩
  have hpf:=((FO.zn Y0.1).le (show 181<=7330630 by omega)).zs
  refine ic [0] (FQ rd bs p21 n1 8 7330630 10 (ZD:=ob) (hzn:=(by first|exact hpf|exact hbf))) ?_
  rintro _ _ ⟨n21,p22,rfl,rfl,YB⟩
  have hsf:=YB
  refine ZH 1 b1 (ZU n21) (ie ?_)
  exact Zc (r3 [1] [ZE n21] [0] [(b1,b1)] ⟨n21,p22,rfl,rfl,⟨hsf.1,by omega,by omega⟩⟩ (lr _))
 refine ak (ar (Yo 2 10 (.p rd 0) 11 (.p rd 0) (ic [0] (Rw rd bs (p+1) (ZD:=ob)) ?_)))
 rintro _ _ ⟨n2,p23,rfl,rfl,YN⟩
 have hbf:=YN.1.zs
 refine ic [0] (FQ rd bs p23 n2 8 7330630 10 (ZD:=ob) (hzn:=(by first|exact hpf|exact hbf))) ?_
 rintro _ _ ⟨n22,p24,rfl,rfl,YX⟩
 have hsf:=YX
 refine ZH 1 b1 (ZU n22) (ie ?_)
 exact Zc (r3 [1] [ZE n22] [0] [(b1,b1)] ⟨n22,p24,rfl,rfl,⟨hsf.1,by omega,by omega⟩⟩ (lr _))
theorem Rs (code:List Int) (hcl:code.length<=1048576:=by exact ob) (hcb:∀z∈code,0<=z/\z<=255):Zj Tryz.prog 18 [X9 code] [] (fun r h=>∃(n2:Zy),r=ZE n2/\h=[]/\ZS n2 7330634 12):=by
 refine ZK 10 Tryz.func18 (ar (iA [nl,nl] ?_))
 intro b1
 refine ie (ar (ir 1 [(2,.p b1 0),(4,X9 code)] (ic [] (Sf code (hc:=hcb)) ?_)))
 rintro _ _ ⟨rd1,bs1,rfl,rfl,ZP⟩
 have hnr:=ZP
 refine Z1 1 3 (.p rd1 0) (ie (ar (Yo 2 6 (.p rd1 0) 7 (.p rd1 0) (ic [0] (Ru rd1 bs1 0 (ZD:=hnr)) ?_))))
 rintro _ _ ⟨n21,p21,rfl,rfl,Y0⟩
 have haf:=Y0
 refine ic [0] (FQ rd1 bs1 p21 n21 4 7330632 11 (ZD:=hnr) (hzn:=haf.1)) ?_
 rintro _ _ ⟨n22,p22,rfl,rfl,YB⟩
 have hsf:=YB
 refine ZH 1 b1 (ZU n22) (ie ?_)
 exact Zc (r3 [] [ZE n22] [0] [(b1,b1)] ⟨n22,rfl,rfl,hsf.1⟩ (lr _))
theorem OX (xs:List Int) (hl_xs:xs.length<=4294967296:=by exact ob):Zj Tryz.prog 92 [Z0 xs] [] (fun r h=>∃(v:Value),r=Z6 xs v/\h=[.tail v 1]):=by
 refine ZK 8 Tryz.func92 (ar (ir 1 [(0,Z0 xs)] (ie (aq (ar (Z1 1 3 (Z0 xs) (iN (Z8 xs) (fun hz1=>?_) ?_)))))))
 ·have hz1:=PV hz1
  refine ie (WL (ar (ir 1 [(2,nl)] (ie (CY 1 ?_)))))
  exact Zc (r2 [0] [nl] ⟨(.slice none 0 0),rfl,rfl⟩ (Zg.slh _ (by first|rfl|(subst_vars;rfl))))
 refine ie (WS (ak (ar (iL (Z8 []) 0 1 ?_))))
 intro v1
 refine Z1 1 6 (Z0 xs) (ip 0 (Z8 xs) (Z8 []) (Z8 xs) v1 none 1 (YD _) (YD _) (XY _) (by simp<;>omega) (by simp [Z8]) ?_)
 intro v2
 refine ir 1 [(2,Z6 xs v2)] (ie ?_)
 exact Zc (r1 [0] ⟨v2,rfl,rfl⟩)
theorem CI (xs:List Int) (ys:List Int) (hl_xs:xs.length<=4294967296:=by exact ob) (hl_ys:ys.length<=4294967296:=by exact ob):Zj Tryz.prog 170 [Z0 xs,Z0 ys] [] (fun r h=>r=.b (decide (xs=ys))/\h=[]):=by
 refine ZK 26 Tryz.func170 (ar (ir 1 [(0,Z0 xs),(1,Z0 ys)] (ie (aq (ar (Z1 1 6 (Z0 xs) (iw (Yd xs) (Z1 1 8 (Z0 ys) (iw (Yd ys) (Z1 1 10 (.b ((xs.length:Int) != (ys.length:Int))) (ie (ac ((xs.length:Int) != (ys.length:Int)) Yc (fun Ze=>?_) (fun Ze=>?_)))))))))))))
 ·refine ar (ir 1 [(4,.b false)] (ie ?_))
  exact Zc (r2 [] [.b false] ⟨rfl,rfl⟩ (lb (eq_comm.1 (decide_eq_false (fun q=>by rw [q] at Ze;exact Ze rfl)))))
 refine ak (aq (ar (Z1 1 11 (Z0 xs) (iw (Yd xs) (Z1 1 13 (.i 0) (ie (ab 0 (al (fun m F h=>∃(k:Nat),(k<=xs.length)/\(xs.take k=ys.take k)/\F=[(0,Z0 xs),(1,Z0 ys),(12,.i xs.length),(13,.i k)]/\h=[]/\m=xs.length-k) _ _ _ ⟨0,ob,ob,rfl,rfl,rfl⟩ (wk [] (fw (fr (Ye fl)))) ?_))))))))
 rintro m F h ⟨k,Ym,Zp,rfl,rfl,rfl⟩
 refine ar (Z1 1 14 (.b (decide ((k:Int)<(xs.length:Int)))) (ie (aq (ZM ((k:Int)<(xs.length:Int)) (fun Zk=>?_) (fun Zk=>?_)))))
 ·refine ak (aq (ab 1 (ar (Z1 2 5 (.i k) (ie (aD 9 (ZZ 7 9 [0,1] (.n 16 (Z0 xs) (.n 17 (.i k) .r)) ?_)))))))
  obtain ⟨x1,Z3⟩:=Zs (xs:=xs) (j:=k) om
  refine dx 2 (Zo none (k:Int) 1 (Y3 Z3)) (ZZ 3 6 [3,4,5] (.n 19 (.i x1) (.n 20 (Z0 ys) (.n 21 (.i k) .r))) ?_)
  obtain ⟨x2,Zv⟩:=Zs (xs:=ys) (j:=k) om
  refine dx 6 (Zo none (k:Int) 1 (Y3 Zv)) (ZY 0 2 [7,8] 24 (.b (x1 != x2)) (de (ac (x1 != x2) Yc (fun ZI=>?_) (fun ZI=>?_))))
  ·refine ar (ir 1 [(4,.b false)] (ie ?_))
   exact Zc (r2 [] [.b false] ⟨rfl,rfl⟩ (lb (eq_comm.1 (decide_eq_false (fun q=>by subst q;rw [Z3] at Zv;cases Zv;exact ZI rfl)))))
  refine ak (az (ZO k (ir 1 [(0,Z0 xs),(1,Z0 ys),(12,.i xs.length),(13,.i (k+1:Nat))] (ie ?_))))
  have hdr:=Yb Z3
  exact ZQ ⟨k+1,ob,(by rw [WO Z3,WO Zv,Zp];have hxx:x1=x2:=om;rw [hxx]),rfl,rfl,rfl⟩ (wk [] (fw (fr (ZW k fl))))
 refine ax 0 (ar (ir 1 [(4,.b true)] (ie ?_)))
 exact Zc (r2 [] [.b true] ⟨rfl,rfl⟩ (lb (eq_comm.1 (decide_eq_true (by rw [Ve om,Ve om] at Zp;exact Zp)))))
theorem Z4o (m:Nat) (hm:m<=4294967296:=by exact ob):Zj Tryz.prog 210 [nl,.i m] [] (fun r h=>∃(v:Hd),r=.h v/\h=[rV v []]):=by
 refine ZK 27 Tryz.func210 (Hx AU (Ao (F':=[(0,.h hN),(1,.i m)]) (h':=[rV hN []]) (wk [0] (fc (x:=nl) (Zg.hd (v:=hN)) ( fc (x:=.i m) (lr _) (IE _)))) (ar (ir 1 [(0,.h hN),(1,.i m)] (ie (aq (ar (Z1 2 6 (.b (decide ((m:Int)<0))) (ie (ZM ((m:Int)<0) (fun Ze=>?_) (fun Ze=>?_)))))))))))
 ·exfalso;omega
 refine ak (aq (ar (Yo 2 8 (.i m) 9 (.h hN) (Zq (XA.le (Ny hN) (li (by rfl))) (Z1 1 11 (.h hN) (Zq (XA.le (Jo 0 hN []) (li (by rfl))) (ia ((0-0)) ((0)-(0)) (ia ((m:Int)) (((m:Int))-((0-0))) (ir 1 [(0,.h hN),(1,.i m)] (ie (ar (Z1 2 16 (.b (decide ((m:Int)>0))) (ie (ZM ((m:Int)>0) (fun Zk=>?_) (fun Zk=>?_)))))))))))))))
 ·refine az (Yo 2 17 (.h hN) 18 (.h hN) (Zq (XA.le (Ny hN) (li (by rfl))) (Zq (Ab 0 hN [] 0) (Z1 1 21 (.i m) (iZ m ?_)))))
  intro v1
  refine Z1 1 23 (.h hN) (Zq (XA.le (Jo 1 hN []) (li (by rfl))) (Zq (Ab 0 v1 (List.replicate m 0) 0) (ir 1 [(0,.h (v1.cut 0))] (ie (ar (ir 2 [(4,.h (v1.cut 0))] (ie (Hx (AT 0 0 v1 (List.replicate m 0)) ?_))))))))
  exact Zc (r1 [0] ⟨(v1.cut 0),rfl,rfl⟩ (eq:=(rv (xs:=((List.replicate m 0).take 0)) ob rz)))
 refine ak (ar (ir 2 [(4,.h hN)] (ie ?_)))
 exact Zc (r1 [0] ⟨hN,rfl,rfl⟩)
theorem Z4n (xss:List (List Int)) (hl_xss:xss.length<=4294967296:=by exact ob) (hf:xss.flatten.length<=4294967296:=by exact ob):Zj Tryz.prog 166 [WD xss] [] (fun r h=>∃(v:Value),r=Z6 xss.flatten v/\h=[.tail v 1]):=by
 have hft:=ID xss
 refine ZK 36 Tryz.func166 (ar (ir 1 [(0,WD xss)] (ie (ar (Z1 1 3 (.i 0) (ie (aq (ar (Z1 1 9 (WD xss) (iw (Dk xss) (Z1 1 11 (.i 0) (ie (ab 0 (al (fun m F h=>∃(k:Nat) (q:Nat),(k<=xss.length)/\(q=(xss.take k).flatten.length)/\F=[(0,WD xss),(3,.i q),(9,WD xss),(10,.i xss.length),(11,.i k)]/\h=[]/\m=xss.length-k) _ _ _ ⟨0,0,ob,(by simp),rfl,rfl,rfl⟩ (wk [] (fr (Ye (fw (Ye fl))))) ?_))))))))))))))
 rintro m F h ⟨k,q,Ym,Zp,rfl,rfl,rfl⟩
 refine ar (Z1 1 12 (.b (decide ((k:Int)<(xss.length:Int)))) (ie (aq (ZM ((k:Int)<(xss.length:Int)) (fun Ze=>?_) (fun Ze=>?_)))))
 ·refine ak (aq (ab 1 (ar ?_)))
  obtain ⟨x1,Z3⟩:=Zs (xs:=xss) (j:=k) om
  refine Zq (Zo none (k:Int) 1 (Dj Z3)) (Z1 2 5 (Z0 x1) (ie (ar (Yo 2 15 (.i q) 16 (Z0 x1) (iw (Yd x1) (ia (((q+x1.length:Nat):Int)) (((q:Int))+((x1.length:Int))) (hb:=(by have:=IC Z3;omega)) (Z5 1 (.n 3 (.i (q+x1.length:Nat)) (.p (.p (.d (.d (.d (.p (.d (.k (.d .r)))))))))) (ie (ar (Z1 2 20 (.b (decide (((q+x1.length:Nat):Int)<0))) (ie (ZM (((q+x1.length:Nat):Int)<0) (fun Zk=>?_) (fun Zk=>?_)))))))))))))
  ·exfalso;omega
  refine ak (az (ZO k (Z5 1 (.n 11 (.i (k+1:Nat)) (.p (.d (.w .z)))) (ie ?_))))
  have hdr:=Yb Z3
  exact ZQ ⟨k+1,q+x1.length,ob,(by rw [FG Z3,Yx,Zp]),rfl,rfl,rfl⟩ (wk [] (fr (fc (x:=.i (q+x1.length:Nat)) li (fw (ZW k fl)))))
 refine ax 0 (ar (Z1 1 23 (.i q) (ic [] (Z4o q (hm:=(by have:=hft k;omega))) ?_)))
 rintro _ _ ⟨v1,rfl,rfl⟩
 refine Z1 1 6 (.h v1) (ie (aq (ar (Z1 1 25 (WD xss) (iw (Dk xss) (Z1 1 27 (.i 0) (ie (ab 2 (al (fun m F h=>∃(j:Nat) (v:Hd),(j<=xss.length)/\F=[(6,.h v),(25,WD xss),(26,.i xss.length),(27,.i j)]/\h=[rV v ((xss.take j).flatten)]/\m=xss.length-j) _ _ _ ⟨0,v1,ob,rfl,rfl,rfl⟩ (wk [0] (fw (fr (Ye fl))) (e:=(rv (xs:=[]) ob rz))) ?_)))))))))
 rintro m F h ⟨j,v,Uj,rfl,rfl,rfl⟩
 refine ar (Z1 1 28 (.b (decide ((j:Int)<(xss.length:Int)))) (ie (aq (ZM ((j:Int)<(xss.length:Int)) (fun ZI=>?_) (fun ZI=>?_)))))
 ·refine ak (aq (ab 3 (ar ?_)))
  obtain ⟨x2,Zv⟩:=Zs (xs:=xss) (j:=j) om
  refine Zq (Zo none (j:Int) 1 (Dj Zv)) (Z1 2 8 (Z0 x2) (ie (az (Yo 2 31 (.h v) 32 (Z0 x2) (Kw 0 v ((xss.take j).flatten) x2 none (hbound:=(by have:=IC Zv;omega)) ?_)))))
  intro v2
  refine Z5 1 (.n 6 (.h v2) (.p (.d (.d (.d (.p (.d (.d .r)))))))) (ie (az (ZO j (Z5 1 (.n 27 (.i (j+1:Nat)) (.p (.k (.k (.k .z))))) (ie ?_)))))
  have hdr:=Yb Zv
  exact ZQ ⟨j+1,v2,ob,rfl,rfl,rfl⟩ (wk [0] (fw (fr (ZW j fl))) (e:=(rv (xs:=((xss.take j).flatten++x2)) (FG Zv).symm rz)))
 refine ax 2 (ar (ir 2 [(2,.h v)] (ie (CX 2 0 (v:=v) (xs:=(xss.take j).flatten) ?_))))
 exact Zc (r2 [0] [Z6 ((xss.take j).flatten) v.v] ⟨v.v,rfl,rfl⟩ (Zg.slh _ (Yv Z8 (by rw [Ve om]))))
theorem DK (ds:List Zf) (t:Int) (hl_ds:ds.length<=4294967296:=by exact ob):Zj Tryz.prog 91 [Zd ds,.i t] [] (fun r h=>r=.b (decide (0<=t/\t<=ds.length))/\h=[]):=by
 refine ZK 13 Tryz.func91 (ar (ir 1 [(0,Zd ds),(1,.i t)] (ie (ar (XP 8 [(12,.b ((decide (t>=0))&&(decide (t<=(ds.length:Int)))))] [] ?_ (fun hj1=>?_))))))
 ·refine ir 1 [(4,.b ((decide (t>=0))&&(decide (t<=(ds.length:Int)))))] (ie ?_)
  exact Zc (r2 [] [.b ((decide (t>=0))&&(decide (t<=(ds.length:Int))))] ⟨rfl,rfl⟩ (lb (by rw [Xm];simp)))
 refine ir 3 [(0,Zd ds),(1,.i t),(7,.b (decide (t>=0)))] (ib (b:=(decide (t>=0))) 7 (fun Za=>?_) (fun Za=>?_))
 ·have ZP:t>=0:=(dq).1 Za
  refine Z5 2 (.n 8 (.i t) (.n 9 (Zd ds) (.k .z))) (iw (VN ds) (ir 2 [(12,.b (decide (t<=(ds.length:Int))))] ?_))
  exact YG (wk [] (Zr (decide (t<=(ds.length:Int))) Za fl)) hj1
 have Y0:¬(t>=0):=ZG dq Za
 refine ir 5 [(12,.b false)] ?_
 exact YG (wk [] (Zr false Za fl)) hj1
theorem G4 (ds:List Zf) (xs:List Int) (hl_ds:ds.length<=4294967296:=by exact ob) (hl_xs:xs.length<=4294967296:=by exact ob):Zj Tryz.prog 55 [Zd ds,Z0 xs] [] (fun r h=>r=.b (Xi ds.length xs)/\h=[]):=by
 refine ZK 18 Tryz.func55 (ar (ir 1 [(0,Zd ds),(1,Z0 xs)] (ie (aq (ar (Z1 1 7 (Z0 xs) (iw (Yd xs) (Z1 1 9 (.i 0) (ie (ab 0 (al (fun m F h=>∃(k:Nat),(k<=xs.length)/\(Xi ds.length (xs.drop k)=Xi ds.length xs)/\F=[(0,Zd ds),(7,Z0 xs),(8,.i xs.length),(9,.i k)]/\h=[]/\m=xs.length-k) _ _ _ ⟨0,ob,ob,rfl,rfl,rfl⟩ (wk [] (fw (fr (Ye fl)))) ?_)))))))))))
 rintro m F h ⟨k,Ym,Zp,rfl,rfl,rfl⟩
 refine ar (Z1 1 10 (.b (decide ((k:Int)<(xs.length:Int)))) (ie (aq (ZM ((k:Int)<(xs.length:Int)) (fun Ze=>?_) (fun Ze=>?_)))))
 ·refine ak (aq (ab 1 (ar ?_)))
  obtain ⟨x1,Z3⟩:=Zs (xs:=xs) (j:=k) om
  refine Zq (Zo none (k:Int) 1 (Y3 Z3)) (Z1 2 6 (.i x1) (ie (ar (Yo 2 13 (Zd ds) 14 (.i x1) (ZA [] (DK ds x1) (Z1 1 16 (.b (!(decide (0<=x1/\x1<=ds.length)))) (ie (ac (!(decide (0<=x1/\x1<=ds.length))) (p:=¬(0<=x1/\x1<=ds.length)) (Yt dq) (fun Zk=>?_) (fun Zk=>?_)))))))))
  ·refine ar (ir 1 [(4,.b false)] (ie ?_))
   rw [Yb Z3] at Zp
   exact Zc (r2 [] [.b false] ⟨rfl,rfl⟩ (lb (by clear Z3;first|rfl|omega|grind [Xi])))
  refine ak (az (ZO k (Z5 1 (.n 9 (.i (k+1:Nat)) (.p (.d (.p (.d (.d (.d (.p (.d (.k (.k (.k .z)))))))))))) (ie ?_))))
  have hdr:=Yb Z3
  exact ZQ ⟨k+1,ob,(by rw [hdr] at Zp;clear hdr Z3;grind [Xi]),rfl,rfl,rfl⟩ (wk [] (fw (fr (ZW k fl))))
 refine ax 0 (ar (ir 1 [(4,.b true)] (ie ?_)))
 try rw [Xx (xs:=xs) (k:=k) om] at Zp
 exact Zc (r2 [] [.b true] ⟨rfl,rfl⟩ (lb (by first|rfl|omega|grind [Xi])))
theorem Z0g (ds:List Zf) (hd:Wm ds:=by exact ob):Zj Tryz.prog 211 [Zd ds] [] (fun r h=>r=.i (Yq ds:Nat)/\h=[]):=by
 have hdl:=hd.len
 refine ZK 19 Tryz.func211 (ar (ir 1 [(0,Zd ds)] (ie (ar (Z1 1 3 (.i 0) (ie (aq (ar (Z1 1 6 (Zd ds) (iw (VN ds) (Z1 1 8 (.i 0) (ie (ab 0 (al (fun m F h=>∃(k:Nat),(k<=ds.length)/\F=[(3,.i ((Yq (ds.take k):Nat):Int)),(6,Zd ds),(7,.i ds.length),(8,.i k)]/\h=[]/\m=ds.length-k) _ _ _ ⟨0,ob,rfl,rfl,rfl⟩ (wk [] (Ye (fw (Ye fl)))) ?_))))))))))))))
 rintro m F h ⟨k,Ym,rfl,rfl,rfl⟩
 refine ar (Z1 1 9 (.b (decide ((k:Int)<(ds.length:Int)))) (ie (aq (ZM ((k:Int)<(ds.length:Int)) (fun Ze=>?_) (fun Ze=>?_)))))
 ·refine ak (aq (ab 1 (ar ?_)))
  obtain ⟨x1,Z3⟩:=Zs (xs:=ds) (j:=k) om
  refine Zq (Zo none (k:Int) 3 (Vi Z3)) (Z1 1 11 (Ui x1) (iA [.i 0,.i 0,nl] ?_))
  intro b1
  refine ZH 0 b1 (Ws x1) (ie (az (Y1 3 12 (.i ((Yq (ds.take k):Nat):Int)) 14 (W6 x1.cons) [0] [b1] (iw (U6 x1.cons) (ia (((Yq (ds.take k)+x1.cons.length:Nat):Int)) ((((Yq (ds.take k):Nat):Int))+((x1.cons.length:Int))) (hb:=(by have h1:=hd.cons_at Z3;have h2:=(hd.take k).sum;omega)) (Z5 1 (.n 3 (.i ((Yq (ds.take k)+x1.cons.length:Nat):Int)) (.p (.p (.d (.d (.p (.d (.p (.d (.d .r)))))))))) (ie (az (ZO k (Z5 1 (.n 8 (.i (k+1:Nat)) (.p (.k (.k (.k .z))))) (ie ?_)))))))))))
  have hdr:=Yb Z3
  exact ZQ ⟨k+1,ob,rfl,rfl,rfl⟩ (wk [] (fc (x:=.i ((Yq (ds.take k)+x1.cons.length:Nat):Int)) (li (by rw [WO Z3,BX];simp [Yq])) (fw (ZW k fl))))
 refine ax 0 (ar (ir 2 [(2,.i ((Yq (ds.take k):Nat):Int))] (ie ?_)))
 exact Zc (r2 [] [.i ((Yq (ds.take k):Nat):Int)] ⟨rfl,rfl⟩ (li (by rw [Ve om])))
theorem Li (ds:List Zf) (c:Int) (hd:Wm ds:=by exact ob) (hc:-9223372036854775808<=c/\c<=9223372036854775807:=by exact ob):Zj Tryz.prog 169 [Zd ds,.i c] [] (fun r h=>r=.tup [.i (Xt ds c),.agg [Z0 (ZB ds c)]]/\h=[]):=by
 have hdl:=hd.len
 refine ZK 38 Tryz.func169 (ar (ir 1 [(0,Zd ds),(1,.i c)] (iA [nl] ?_)))
 intro b1
 refine ie (aq (ar (Z1 1 8 (Zd ds) (iw (VN ds) (Z1 1 10 (.i 0) (ie (ab 0 (al (fun m F h=>∃(k:Nat) (cv:Int),(k<=ds.length)/\(Jw c (Yq (ds.take k)) cv)/\(Uk c (ds.drop k) k (Yq (ds.take k))=Uk c ds 0 0)/\F=[(1,.i cv),(5,.p b1 0),(8,Zd ds),(9,.i ds.length),(10,.i k)]/\h=[.obj b1 [nl]]/\m=ds.length-k) _ _ _ ⟨0,c,ob,(.inl (by simp [Yq])),rfl,rfl,rfl,rfl⟩ (wk [0] (fq (Ye fl))) ?_))))))))
 rintro m F h ⟨k,cv,Ym,Zp,Zz,rfl,rfl,rfl⟩
 refine ar (Z1 1 11 (.b (decide ((k:Int)<(ds.length:Int)))) (ie (aq (ZM ((k:Int)<(ds.length:Int)) (fun Ze=>?_) (fun Ze=>?_)))))
 ·refine ak (aq (ab 1 (ar (Z1 1 12 (.i k) ?_))))
  obtain ⟨x1,Z3⟩:=Zs (xs:=ds) (j:=k) om
  refine Zq (Zo none (k:Int) 3 (Vi Z3)) (Z1 1 14 (Ui x1) (iA [.i 0,.i 0,nl] ?_))
  intro b2
  refine Z1 1 6 (.i k) (ZH 0 b2 (Ws x1) (ie (aq (ar (Xp [(1,.i cv),(5,.p b1 0),(6,.i k),(7,.p b2 0),(8,Zd ds),(9,.i ds.length),(10,.i k),(23,.b ((decide (cv>=0))&&(decide (cv<(x1.cons.length:Int)))))] [.obj b2 (Ws x1),.obj b1 [nl]] ?_ ?_)))))
  ·refine ir 3 [(1,.i cv),(5,.p b1 0),(6,.i k),(7,.p b2 0),(8,Zd ds),(9,.i ds.length),(10,.i k),(17,.b (decide (cv>=0)))] (ib (b:=(decide (cv>=0))) 17 (fun Za=>?_) (fun Za=>?_))
   ·have ZP:cv>=0:=(dq).1 Za
    refine Y2 3 (.n 18 (.i cv) (.n 20 (W6 x1.cons) (.w (.w .z)))) [0] [b2] (iw (U6 x1.cons) (Z1 2 23 (.b (decide (cv<(x1.cons.length:Int)))) (ie ?_)))
    exact wk [0,0] (fq (fw (fr (Zr (decide (cv<(x1.cons.length:Int))) Za fl))))
   have Y0:¬(cv>=0):=ZG dq Za
   refine Z5 6 (.n 23 (.b false) (.d (.w (.k (.k (.k .z)))))) (ie ?_)
   exact wk [0,0] (fq (fw (fr (Zr false Za fl))))
  refine ac ((decide (cv>=0))&&(decide (cv<(x1.cons.length:Int)))) (p:=(cv>=0)/\(cv<(x1.cons.length:Int))) (YE dq dq) (fun Zk=>?_) (fun Zk=>?_)
  ·refine aD 9 (Xa 8 9 [0] [(1,.i cv),(5,.p b1 0),(7,.p b2 0),(24,.i k)] (da 1 (((k+1:Nat):Int)) (((k:Int))+(1)) (Y6 4 7 [2,3,4] (.n 27 (W6 x1.cons) (.n 28 (.i cv) .r)) [0] [b2] ?_)))
   obtain ⟨x2,Zv⟩:=Zs (xs:=x1.cons) (j:=cv.toNat) om
   refine dx 5 (Zo none cv 1 (Bc Zv)) (ZZ 1 3 [6,7] (.n 4 (.i (k+1:Nat)) (.n 30 (An x2) .r)) (Z9 8 (YK 8 1 [] [] b1 (Gh x2) (de ?_))))
   have hz:=(hd.take k).sum
   have h3:=hd.cons_at Z3
   have hH:=Zz.symm.trans (Pb Z3 Zp om h3 hc.1 Zk Zv)
   exact Zc (r3 [] [.i (k+1:Nat),An x2] [0] [(b1,b1)] ⟨rfl,rfl⟩ (Zg.tup (.cons (li (by rw [Xt,hH];omega)) (.cons (Zg.agg (.cons (Zg.sl _ (Yv Z8 (by rw [ZB,hH]))) .nil)) .nil))))
  refine ak (az (iR 3 [(5,.p b1 0),(8,Zd ds),(9,.i ds.length),(10,.i k),(31,.i cv),(33,W6 x1.cons)] [0] [b2] (iw (U6 x1.cons) (iW ((cv)-((x1.cons.length:Int))) (Z1 1 1 (.i (Ac ((cv)-((x1.cons.length:Int))))) (ie (az (ZO k (Z5 1 (.n 10 (.i (k+1:Nat)) (.p (.k (.p (.p (.k (.k (.k .z)))))))) (ie ?_))))))))))
  have hdr:=Yb Z3
  exact ZQ ⟨k+1,(Ac ((cv)-((x1.cons.length:Int)))),ob,(by have hz:=(hd.take k).sum;have h3:=hd.cons_at Z3;rw [WO Z3,BX];simpa [Yq] using OH Zp om h3 hc),(P9 Z3 Zp Zk Zz),rfl,rfl,rfl⟩ (wk [1] (fq (ZW k fl)))
 refine ax 0 (ar (Yo 2 4 (.i (-1)) 37 (.agg [nl]) (ZH 0 b1 [nl] (ie ?_))))
 have hH:Uk c ds 0 0=(-1,[]):=by rw [<-Zz,Xx om];rfl
 exact Zc (r3 [] [.i (-1),.agg [nl]] [0] [(b1,b1)] ⟨rfl,rfl⟩ (Zg.tup (.cons (li (by rw [Xt,hH])) (.cons (Zg.agg (.cons (Zg.sl _ (by rw [ZB,hH];rfl)) .nil)) .nil))))
theorem Z0k (ds:List Zf) (c:Int) (hd:Wm ds:=by exact ob) (hc:-9223372036854775808<=c/\c<=9223372036854775807:=by exact ob):Zj Tryz.prog 168 [Zd ds,.i c] [] (fun r h=>r=Z0 (ZB ds c)/\h=[]):=by
 refine ZK 15 Tryz.func168 (ar (ir 1 [(0,Zd ds),(1,.i c)] (ie (ar (ir 2 [(8,Zd ds),(9,.i c)] (ZA [] (Li ds c) (ir 3 [(11,.i (Xt ds c)),(12,.agg [Z0 (ZB ds c)])] (iA [nl] ?_))))))))
 intro b1
 refine Z5 1 .r (ZH 0 b1 [Z0 (ZB ds c)] (ie (ar (iR 3 [(4,Z0 (ZB ds c))] [0] [b1] (ie ?_)))))
 exact Zc (r1 [] ⟨rfl,rfl⟩)
theorem Z0h (ds:List Zf) (t:Int) (hd:Wm ds:=by exact ob):Zj Tryz.prog 167 [Zd ds,.i t] [] (fun r h=>r=Z0 (Zu ds t)/\h=[]):=by
 have hdl:=hd.len
 refine ZK 39 Tryz.func167 (ar (ir 1 [(0,Zd ds),(1,.i t)] (ie (aq (ar (Xp [(0,Zd ds),(1,.i t),(15,.b ((decide (t<1))||(decide (t>(ds.length:Int)))))] [] ?_ ?_))))))
 ·refine ir 3 [(0,Zd ds),(1,.i t),(10,.b (decide (t<1)))] (ib (b:=(decide (t<1))) 10 (fun Za=>?_) (fun Za=>?_))
  ·have ZP:t<1:=(dq).1 Za
   refine Z5 5 (.n 15 (.b true) (.d (.k (.k .z)))) (ie ?_)
   exact wk [] (fw (Zr true Za fl))
  have Y0:¬(t<1):=ZG dq Za
  refine Z5 2 (.n 11 (.i t) (.n 12 (Zd ds) (.k (.k (.k .z))))) (iw (VN ds) (Z1 2 15 (.b (decide (t>(ds.length:Int)))) (ie ?_)))
  exact wk [] (fw (Zr (decide (t>(ds.length:Int))) Za fl))
 refine ac ((decide (t<1))||(decide (t>(ds.length:Int)))) (p:=(t<1)∨(t>(ds.length:Int))) (Yh dq dq) (fun Ze=>?_) (fun Ze=>?_)
 ·refine ar (ir 1 [(4,nl)] (ie ?_))
  exact Zc (r2 [] [nl] ⟨rfl,rfl⟩ (Zg.sl _ (by rw [Zu,Zb om];rfl)))
 have hti:1<=t/\t<=ds.length:=by omega
 obtain ⟨d,hd1⟩:=Zs (xs:=ds) (j:=(t-1).toNat) om
 have hdc:=hd.cons_at hd1
 have hsm:=(hd.take (t-1).toNat).sum
 refine ak (ar (ir 2 [(0,Zd ds),(1,.i t),(16,Zd ds),(17,.i t)] (ia ((((t-1).toNat:Nat):Int)) ((t)-(1)) (Zq (K9 (es:=YV ds) (hv:=none) (l:=0) (m:=(((t-1).toNat:Nat):Int)) (sz:=3) (es':=YV (ds.take ((t-1).toNat))) kr om (by simp<;>omega) (by simp<;>omega) (QZ _) (by first|(simp only [VL,Vl,Be,Bd];done)|(simp only [VL,Vl,Be,Bd];rfl)|(simp [Be,Bd];done))) (ZA [] (Z0g (ds.take ((t-1).toNat)) (hd:=(hd.take _))) (Z1 1 5 (.i ((Yq (ds.take ((t-1).toNat)):Nat):Int)) (ie (ar (Z1 1 6 (nl) (ie (aq (ar (Yo 2 21 (Zd ds) 22 (.i t) (ia ((((t-1).toNat:Nat):Int)) ((t)-(1)) (Zq (Zo none (((t-1).toNat:Nat):Int) 3 (Vi hd1)) (Z1 2 26 (W6 d.cons) (iw (U6 d.cons) (Z1 1 28 (.i 0) (ie (ab 0 (CY 1 (al (fun m F h=>∃(k:Nat) (v:Value),(k<=d.cons.length)/\F=[(5,.i ((Yq (ds.take ((t-1).toNat)):Nat):Int)),(6,Z6 (Wu (Yq (ds.take (t-1).toNat)) k) v),(27,.i d.cons.length),(28,.i k)]/\h=[.tail v 1]/\m=d.cons.length-k) _ _ _ ⟨0,(.slice none 0 0),ob,rfl,rfl,rfl⟩ (wk [0] (fr (fc (x:=nl) (Zg.slh _ rfl) (fr (Ye fl))))) ?_))))))))))))))))))))))
 rintro m F h ⟨k,v,Ym,rfl,rfl,rfl⟩
 refine ar (Z1 1 29 (.b (decide ((k:Int)<(d.cons.length:Int)))) (ie (aq (ZM ((k:Int)<(d.cons.length:Int)) (fun Zk=>?_) (fun Zk=>?_)))))
 ·refine ak (aq (ab 1 (ar (Z1 2 7 (.i k) (ie (az (Z5 3 (.n 31 (Z6 (Wu (Yq (ds.take (t-1).toNat)) k) v) (.n 32 (.i ((Yq (ds.take ((t-1).toNat)):Nat):Int)) (.n 33 (.i k) .r))) (ia ((((Yq (ds.take ((t-1).toNat)))+k:Nat):Int)) ((((Yq (ds.take ((t-1).toNat)):Nat):Int))+((k:Int))) (iL (Z8 [(((Yq (ds.take ((t-1).toNat)))+k:Nat):Int)]) 1 1 ?_)))))))))
  intro v1
  refine Z5 0 (.n 35 (Z0 [(((Yq (ds.take ((t-1).toNat)))+k:Nat):Int)]) (.p .r)) (ip 1 (Z8 (Wu (Yq (ds.take (t-1).toNat)) k++[(((Yq (ds.take ((t-1).toNat)))+k:Nat):Int)])) (Z8 (Wu (Yq (ds.take (t-1).toNat)) k)) (Z8 [(((Yq (ds.take ((t-1).toNat)))+k:Nat):Int)]) v none 1 (YD _) (YD _) (XY _) (by simp;omega) (by simp [XX,Z8]) ?_)
  intro v2
  refine Z5 1 (.n 6 (Z6 (Wu (Yq (ds.take (t-1).toNat)) k++[(((Yq (ds.take ((t-1).toNat)))+k:Nat):Int)]) v2) (.p (.d (.p (.d (.d (.d (.d (.d (.k (.d .r))))))))))) (ie (az (ZO k (Z5 1 (.n 28 (.i (k+1:Nat)) (.p (.k (.k (.k .z))))) (ie ?_)))))
  exact ZQ ⟨k+1,v2,ob,rfl,rfl,rfl⟩ (wk [0] (fr (fc (x:=Z6 (Wu (Yq (ds.take (t-1).toNat)) k++[(((Yq (ds.take ((t-1).toNat)))+k:Nat):Int)]) v2) (Zg.slh _ (Yv Z8 (M5 _ _).symm)) (fr (ZW k fl)))))
 refine ax 0 (ar (ir 2 [(4,Z6 (Wu (Yq (ds.take (t-1).toNat)) k) v)] (ie ?_)))
 exact Zc (r2 [] [Z6 (Wu (Yq (ds.take (t-1).toNat)) k) v] ⟨rfl,rfl⟩ (Zg.sl _ (Yv Z8 (by rw [Zu,Zm hti,hd1,show k=d.cons.length by omega];rfl))))
theorem DJ (ds:List Zf) (t:Int) (hd:Wm ds:=by exact ob):Zj Tryz.prog 129 [Zd ds,.i t] [] (fun r h=>r=.tup [Ui (Wr ds t),.b (X5 ds t)]/\h=[]):=by
 have hdl:=hd.len
 refine ZK 30 Tryz.func129 (ar (iA [.i 0,.i 0,nl] ?_))
 intro b1
 refine ir 1 [(0,Zd ds),(1,.i t),(4,.p b1 0)] (ie (aq (ar (XP 8 [(0,Zd ds),(1,.i t),(4,.p b1 0),(13,.b ((decide (t<1))||(decide (t>(ds.length:Int)))))] [.obj b1 [.i 0,.i 0,nl]] ?_ (fun hj1=>?_)))))
 ·refine ir 1 [(0,Zd ds),(1,.i t),(4,.p b1 0),(14,.b ((decide (t<1))||(decide (t>(ds.length:Int)))))] (ib (b:=((decide (t<1))||(decide (t>(ds.length:Int))))) 14 (fun Za=>?_) (fun Za=>?_))
  ·have ZP:(t<1)∨(t>(ds.length:Int)):=((Yh dq dq)).1 Za
   refine Z5 9 (.n 23 (.b true) (.d (.k (.k (.k .z))))) (ie (WL (ar (Z1 1 24 (.agg [.i 0,.i 0,nl]) (ZH 0 b1 [.i 0,.i 0,nl] (Z1 1 5 (.b false) (ie ?_)))))))
   have hA:X5 ds t=false:=(G5 om).symm
   have hD:Wr ds t=⟨0,0,[]⟩:=by rw [Wr,hA];rfl
   exact Zc (r3 [] [.agg [.i 0,.i 0,nl],.b false] [0] [(b1,b1)] ⟨rfl,rfl⟩ (Zg.tup (.cons (Zg.agg (.cons (li (by rw [hD])) (.cons (li (by rw [hD])) (.cons (Zg.sl _ (by rw [hD];rfl)) .nil)))) (.cons (lb (by rw [hA])) .nil))))
  have Y0:¬((t<1)∨(t>(ds.length:Int))):=ZG (Yh dq dq) Za
  refine Z5 2 (.n 15 (Zd ds) (.n 16 (.i t) (.w .z))) (ia ((t-1)) ((t)-(1)) ?_)
  obtain ⟨x1,Z3⟩:=Zs (xs:=ds) (j:=(t-1).toNat) om
  refine Zq (Zo none (t-1) 3 (Vi Z3)) (Z1 2 20 (W6 x1.cons) (iw (U6 x1.cons) (Z1 2 23 (.b (decide ((x1.cons.length:Int)>0))) (ie (ZM ((x1.cons.length:Int)>0) (fun Ze=>?_) (fun Ze=>?_))))))
  ·refine ar (Z1 1 24 (.agg [.i 0,.i 0,nl]) (ZH 0 b1 [.i 0,.i 0,nl] (Z1 1 5 (.b false) (ie ?_))))
   have hA:X5 ds t=false:=(DN om Z3).symm.trans (beq_eq_false_iff_ne.2 om)
   have hD:Wr ds t=⟨0,0,[]⟩:=by rw [Wr,hA];rfl
   exact Zc (r3 [] [.agg [.i 0,.i 0,nl],.b false] [0] [(b1,b1)] ⟨rfl,rfl⟩ (Zg.tup (.cons (Zg.agg (.cons (li (by rw [hD])) (.cons (li (by rw [hD])) (.cons (Zg.sl _ (by rw [hD];rfl)) .nil)))) (.cons (lb (by rw [hA])) .nil))))
  refine ak (ar (Yo 2 25 (Zd ds) 26 (.i t) (ia ((t-1)) ((t)-(1)) (Zq (Zo none (t-1) 3 (Vi Z3)) (Z1 1 29 (Ui x1) (ZH 0 b1 (Ws x1) (Z1 1 5 (.b true) (ie ?_))))))))
  have hA:X5 ds t=true:=(DN om Z3).symm.trans (Zh.2 om)
  have hD:Wr ds t=x1:=by rw [Wr,hA,Z3];rfl
  exact Zc (r3 [] [Ui x1,.b true] [0] [(b1,b1)] ⟨rfl,rfl⟩ (Zg.tup (.cons (Zg.agg (.cons (li (by rw [hD])) (.cons (li (by rw [hD])) (.cons (Zg.sl _ (Yv Ww (by rw [hD]))) .nil)))) (.cons (lb (by rw [hA])) .nil))))
 refine ir 3 [(0,Zd ds),(1,.i t),(4,.p b1 0),(8,.b (decide (t<1)))] (ib (b:=(decide (t<1))) 8 (fun Zw=>?_) (fun Zw=>?_))
 ·have YB:t<1:=(dq).1 Zw
  refine Z5 5 (.n 13 (.b true) (.d (.k (.k (.k .z))))) ?_
  exact YG (wk [0] (fw (fr (Zr true Zw fl)))) hj1
 have YN:¬(t<1):=ZG dq Zw
 refine Z5 2 (.n 9 (.i t) (.n 10 (Zd ds) (.w .z))) (iw (VN ds) (Z1 2 13 (.b (decide (t>(ds.length:Int)))) ?_))
 exact YG (wk [0] (fw (fr (Zr (decide (t>(ds.length:Int))) Zw fl)))) hj1
theorem Z0d (ds:List Zf) (frm:Int) (to_:Int) (hl_ds:ds.length<=4294967296:=by exact ob):Zj Tryz.prog 171 [Zd ds,.i frm,.i to_] [] (fun r h=>r=.i (WT ds frm to_)/\h=[]):=by
 refine ZK 35 Tryz.func171 (ar (ir 1 [(0,Zd ds),(1,.i frm),(2,.i to_)] (ie (aq (ar (Z1 1 9 (Zd ds) (iw (VN ds) (Z1 1 11 (.i 0) (ie (ab 0 (al (fun m F h=>∃(k:Nat),(k<=ds.length)/\(Q8 frm to_ (ds.drop k) k=WT ds frm to_)/\F=[(1,.i frm),(2,.i to_),(9,Zd ds),(10,.i ds.length),(11,.i k)]/\h=[]/\m=ds.length-k) _ _ _ ⟨0,ob,rfl,rfl,rfl,rfl⟩ (wk [] (fq (Ye fl))) ?_)))))))))))
 rintro m F h ⟨k,Ym,Zp,rfl,rfl,rfl⟩
 refine ar (Z1 1 12 (.b (decide ((k:Int)<(ds.length:Int)))) (ie (aq (ZM ((k:Int)<(ds.length:Int)) (fun Ze=>?_) (fun Ze=>?_)))))
 ·refine ak (aq (ab 1 (ar (Z1 1 13 (.i k) ?_))))
  obtain ⟨x1,Z3⟩:=Zs (xs:=ds) (j:=k) om
  refine Zq (Zo none (k:Int) 3 (Vi Z3)) (Z1 1 15 (Ui x1) (iA [.i 0,.i 0,nl] ?_))
  intro b1
  refine Z1 1 7 (.i k) (ZH 0 b1 (Ws x1) (ie (ar (Yk 2 17 (W6 x1.cons) [0] [b1] (iw (U6 x1.cons) (XP 10 [(1,.i frm),(2,.i to_),(7,.i k),(8,.p b1 0),(9,Zd ds),(10,.i ds.length),(11,.i k),(25,.b (((x1.cons.length:Int)==0)&&(x1.frm==frm)))] [.obj b1 (Ws x1)] ?_ (fun hj1=>?_)))))))
  ·refine Xp [(1,.i frm),(2,.i to_),(7,.i k),(9,Zd ds),(10,.i ds.length),(11,.i k),(31,.b ((((x1.cons.length:Int)==0)&&(x1.frm==frm))&&(x1.to_==to_)))] [.obj b1 (Ws x1)] ?_ ?_
   ·refine ir 1 [(1,.i frm),(2,.i to_),(7,.i k),(8,.p b1 0),(9,Zd ds),(10,.i ds.length),(11,.i k),(26,.b (((x1.cons.length:Int)==0)&&(x1.frm==frm)))] (ib (b:=(((x1.cons.length:Int)==0)&&(x1.frm==frm))) 26 (fun Za=>?_) (fun Za=>?_))
    ·have ZP:((x1.cons.length:Int)=0)/\(x1.frm=frm):=((YE Zh Zh)).1 Za
     refine Y2 5 (.n 31 (.b (x1.to_==to_)) (.d (.k (.k (.k (.d (.k (.k (.k .z))))))))) [0] [b1] (ie ?_)
     exact wk [0] (fq (fw (Zr (x1.to_==to_) Za fl)))
    have Y0:¬(((x1.cons.length:Int)=0)/\(x1.frm=frm)):=ZG (YE Zh Zh) Za
    refine Z5 5 (.n 31 (.b false) (.d (.k (.k (.k (.d (.k (.k (.k .z))))))))) (ie ?_)
    exact wk [0] (fq (fw (Zr false Za fl)))
   refine ac ((((x1.cons.length:Int)==0)&&(x1.frm==frm))&&(x1.to_==to_)) (p:=(((x1.cons.length:Int)=0)/\(x1.frm=frm))/\(x1.to_=to_)) (YE (YE Zh Zh) Zh) (fun Zk=>?_) (fun Zk=>?_)
   ·refine ar (ir 1 [(32,.i k)] (ZO k (ir 1 [(6,.i (k+1:Nat))] (ie ?_))))
    rw [Yb Z3] at Zp
    exact Zc (r2 [] [.i (k+1:Nat)] ⟨rfl,rfl⟩ (li (by clear Z3;first|rfl|omega|grind [Q8])))
   refine ak (az (ZO k (ir 1 [(1,.i frm),(2,.i to_),(9,Zd ds),(10,.i ds.length),(11,.i (k+1:Nat))] (ie ?_))))
   have hdr:=Yb Z3
   exact ZQ ⟨k+1,ob,(by rw [hdr] at Zp;clear hdr Z3;grind [Q8]),rfl,rfl,rfl⟩ (wk [] (fq (ZW k fl)))
  refine ir 2 [(1,.i frm),(2,.i to_),(7,.i k),(8,.p b1 0),(9,Zd ds),(10,.i ds.length),(11,.i k),(20,.b ((x1.cons.length:Int)==0))] (ib (b:=((x1.cons.length:Int)==0)) 20 (fun Zw=>?_) (fun Zw=>?_))
  ·have YB:(x1.cons.length:Int)=0:=(Zh).1 Zw
   refine Y2 5 (.n 25 (.b (x1.frm==frm)) (.d (.w (.k (.k (.k .z)))))) [0] [b1] ?_
   exact YG (wk [0] (fq (fw (fr (Zr (x1.frm==frm) Zw fl))))) hj1
  have YN:¬((x1.cons.length:Int)=0):=ZG Zh Zw
  refine Z5 5 (.n 25 (.b false) (.d (.w (.k (.k (.k .z)))))) ?_
  exact YG (wk [0] (fq (fw (fr (Zr false Zw fl))))) hj1
 refine ax 0 (ar (ir 1 [(6,.i (-1))] (ie ?_)))
 try rw [Xx (xs:=ds) (k:=k) om] at Zp
 exact Zc (r2 [] [.i (-1)] ⟨rfl,rfl⟩ (li (by first|rfl|omega|grind [Q8])))
theorem Z0c (ds:List Zf) (hz:KR ds:=by exact ob):Zj Tryz.prog 128 [Zd ds] [] (fun r h=>r=.b (Wf ds)/\h=[]):=by
 have hzl:=hz.len
 refine ZK 106 Tryz.func128 (ar (ir 1 [(0,Zd ds)] (ie (aq (ar (Z1 1 9 (Zd ds) (iw (VN ds) (Z1 1 11 (.b (decide ((ds.length:Int)>4))) (ie (ZM ((ds.length:Int)>4) (fun Ze=>?_) (fun Ze=>?_)))))))))))
 ·refine ar (ir 1 [(2,.b false)] (ie ?_))
  exact Zc (r2 [] [.b false] ⟨rfl,rfl⟩ (lb (by rw [Wf,decide_eq_false om];rfl)))
 refine ak (aq (ar (Z1 1 12 (Zd ds) (iw (VN ds) (Z1 1 14 (.i 0) (ie (ab 0 (al (fun m F h=>∃(k:Nat),(k<=ds.length)/\(Ul ds (ds.drop k) k=Ul ds ds 0)/\F=[(0,Zd ds),(12,Zd ds),(13,.i ds.length),(14,.i k)]/\h=[]/\m=ds.length-k) _ _ _ ⟨0,ob,rfl,rfl,rfl,rfl⟩ (wk [] (fw (fr (Ye fl)))) ?_))))))))
 rintro m F h ⟨k,Ym,Zp,rfl,rfl,rfl⟩
 refine ar (Z1 1 15 (.b (decide ((k:Int)<(ds.length:Int)))) (ie (aq (ZM ((k:Int)<(ds.length:Int)) (fun Zk=>?_) (fun Zk=>?_)))))
 ·refine ak (aq (ab 1 (ar (Z1 1 16 (.i k) ?_))))
  obtain ⟨x1,Z3⟩:=Zs (xs:=ds) (j:=k) om
  have hz1:=hz.cons_at Z3
  refine Zq (Zo none (k:Int) 3 (Vi Z3)) (Z1 1 18 (Ui x1) (iA [.i 0,.i 0,nl] ?_))
  intro b1
  refine Z1 1 3 (.i k) (ZH 0 b1 (Ws x1) (ie (aq (ar (Y1 3 19 (Zd ds) 21 (.i x1.frm) [0] [b1] (ZA [] (DK ds x1.frm) (XP 12 [(0,Zd ds),(3,.i k),(4,.p b1 0),(12,Zd ds),(13,.i ds.length),(14,.i k),(30,.b ((!(decide (0<=x1.frm/\x1.frm<=ds.length)))||(!(decide (0<=x1.to_/\x1.to_<=ds.length)))))] [.obj b1 (Ws x1)] ?_ (fun hj1=>?_))))))))
  ·refine XP 18 [(0,Zd ds),(3,.i k),(4,.p b1 0),(12,Zd ds),(13,.i ds.length),(14,.i k),(36,.b (((!(decide (0<=x1.frm/\x1.frm<=ds.length)))||(!(decide (0<=x1.to_/\x1.to_<=ds.length))))||(decide ((x1.cons.length:Int)>3))))] [.obj b1 (Ws x1)] ?_ (fun hj2=>?_)
   ·refine Xp [(0,Zd ds),(3,.i k),(4,.p b1 0),(12,Zd ds),(13,.i ds.length),(14,.i k),(52,.b ((((!(decide (0<=x1.frm/\x1.frm<=ds.length)))||(!(decide (0<=x1.to_/\x1.to_<=ds.length))))||(decide ((x1.cons.length:Int)>3)))||((decide ((x1.cons.length:Int)>0))&&((x1.frm != 0)||(x1.to_ != 0)))))] [.obj b1 (Ws x1)] ?_ ?_
    ·refine ir 1 [(0,Zd ds),(3,.i k),(4,.p b1 0),(12,Zd ds),(13,.i ds.length),(14,.i k),(37,.b (((!(decide (0<=x1.frm/\x1.frm<=ds.length)))||(!(decide (0<=x1.to_/\x1.to_<=ds.length))))||(decide ((x1.cons.length:Int)>3))))] (ib (b:=(((!(decide (0<=x1.frm/\x1.frm<=ds.length)))||(!(decide (0<=x1.to_/\x1.to_<=ds.length))))||(decide ((x1.cons.length:Int)>3)))) 37 (fun Za=>?_) (fun Za=>?_))
     ·have ZP:((¬(0<=x1.frm/\x1.frm<=ds.length))∨(¬(0<=x1.to_/\x1.to_<=ds.length)))∨((x1.cons.length:Int)>3):=((Yh (Yh (Yt dq) (Yt dq)) dq)).1 Za
      refine Z5 15 (.n 52 (.b true) (.d (.w (.k (.k .z))))) (ie ?_)
      exact wk [0] (fq (fw (Zr true Za fl)))
     have Y0:¬(((¬(0<=x1.frm/\x1.frm<=ds.length))∨(¬(0<=x1.to_/\x1.to_<=ds.length)))∨((x1.cons.length:Int)>3)):=ZG (Yh (Yh (Yt dq) (Yt dq)) dq) Za
     refine Y2 2 (.n 39 (W6 x1.cons) (.w (.k (.k (.k .z))))) [0] [b1] (iw (U6 x1.cons) (Z1 2 42 (.b (decide ((x1.cons.length:Int)>0))) (ib (b:=(decide ((x1.cons.length:Int)>0))) 42 (fun Zw=>?_) (fun Zw=>?_))))
     ·have YB:(x1.cons.length:Int)>0:=(dq).1 Zw
      refine Y2 4 (.n 46 (.b (x1.frm != 0)) (.k (.d .r))) [0] [b1] (ib (b:=(x1.frm != 0)) 46 (fun Yw=>?_) (fun Yw=>?_))
      ·have YN:x1.frm≠0:=(Yc).1 Yw
       refine Z5 6 (.n 52 (.b true) (.k (.d .r))) (ie ?_)
       exact wk [0] (fq (fw (Zr true (And.intro Za (And.intro Zw Yw)) fl)))
      have YX:¬(x1.frm≠0):=ZG Yc Yw
      refine Y2 6 (.n 52 (.b (x1.to_ != 0)) (.k (.d .r))) [0] [b1] (ie ?_)
      exact wk [0] (fq (fw (Zr (x1.to_ != 0) (And.intro Za (And.intro Zw Yw)) fl)))
     have Xy:¬((x1.cons.length:Int)>0):=ZG dq Zw
     refine Z5 10 (.n 52 (.b false) (.k (.d .r))) (ie ?_)
     exact wk [0] (fq (fw (Zr false (And.intro Za Zw) fl)))
    refine ac ((((!(decide (0<=x1.frm/\x1.frm<=ds.length)))||(!(decide (0<=x1.to_/\x1.to_<=ds.length))))||(decide ((x1.cons.length:Int)>3)))||((decide ((x1.cons.length:Int)>0))&&((x1.frm != 0)||(x1.to_ != 0)))) (p:=(((¬(0<=x1.frm/\x1.frm<=ds.length))∨(¬(0<=x1.to_/\x1.to_<=ds.length)))∨((x1.cons.length:Int)>3))∨(((x1.cons.length:Int)>0)/\((x1.frm≠0)∨(x1.to_≠0)))) (Yh (Yh (Yh (Yt dq) (Yt dq)) dq) (YE dq (Yh Yc Yc))) (fun ZI=>?_) (fun ZI=>?_)
    ·refine ar (ir 1 [(2,.b false)] (ie ?_))
     exact Zc (r2 [] [.b false] ⟨rfl,rfl⟩ (lb (Hh Z3 (PF ZI) Zp)))
    refine ak (aq (ar (iR 2 [(0,Zd ds),(3,.i k),(4,.p b1 0),(12,Zd ds),(13,.i ds.length),(14,.i k),(54,W6 x1.cons)] [0] [b1] (iw (U6 x1.cons) (Z1 1 56 (.i 0) (ie (ab 2 (al (fun m F h=>∃(q:Nat),(q<=x1.cons.length)/\(UO ds.length (x1.cons.drop q)=UO ds.length x1.cons)/\F=[(0,Zd ds),(3,.i k),(4,.p b1 0),(12,Zd ds),(13,.i ds.length),(14,.i k),(54,W6 x1.cons),(55,.i x1.cons.length),(56,.i q)]/\h=[.obj b1 (Ws x1)]/\m=x1.cons.length-q) _ _ _ ⟨0,ob,rfl,rfl,rfl,rfl⟩ (wk [0] (fq (fq (Ye fl)))) ?_))))))))
    rintro m F h ⟨q,Uj,We,rfl,rfl,rfl⟩
    refine ar (Z1 1 57 (.b (decide ((q:Int)<(x1.cons.length:Int)))) (ie (aq (ZM ((q:Int)<(x1.cons.length:Int)) (fun Yi=>?_) (fun Yi=>?_)))))
    ·refine ak (aq (ab 3 (ar ?_)))
     obtain ⟨x2,Zv⟩:=Zs (xs:=x1.cons) (j:=q) om
     refine Zq (Zo none (q:Int) 1 (Bc Zv)) (Z1 1 59 (An x2) (iA [nl] ?_))
     intro b2
     refine ZH 0 b2 (Gh x2) (ie (ar (Yk 2 61 (Z0 x2.fields) [0] [b2] (iw (Yd x2.fields) (Xp [(0,Zd ds),(3,.i k),(4,.p b1 0),(12,Zd ds),(13,.i ds.length),(14,.i k),(54,W6 x1.cons),(55,.i x1.cons.length),(56,.i q),(70,.b ((decide ((x2.fields.length:Int)>3))||(!Xi ds.length x2.fields)))] [.obj b2 (Gh x2),.obj b1 (Ws x1)] ?_ ?_)))))
     ·refine ir 2 [(0,Zd ds),(3,.i k),(4,.p b1 0),(6,.p b2 0),(12,Zd ds),(13,.i ds.length),(14,.i k),(54,W6 x1.cons),(55,.i x1.cons.length),(56,.i q),(64,.b (decide ((x2.fields.length:Int)>3)))] (ib (b:=(decide ((x2.fields.length:Int)>3))) 64 (fun Xg=>?_) (fun Xg=>?_))
      ·have Wh:(x2.fields.length:Int)>3:=(dq).1 Xg
       refine Z5 6 (.n 70 (.b true) (.d (.k (.k (.k (.d (.w (.k (.k .z))))))))) (ie ?_)
       exact wk [0,0] (fq (fq (fr (Zr true Xg fl))))
      have WJ:¬((x2.fields.length:Int)>3):=ZG dq Xg
      refine Y2 3 (.n 65 (Zd ds) (.n 67 (Z0 x2.fields) (.w (.d (.w (.k (.k .z))))))) [0] [b2] (ZA [] (G4 ds x2.fields) (Z1 2 70 (.b (!Xi ds.length x2.fields)) (ie ?_)))
      exact wk [0,0] (fq (fq (fr (Zr (!Xi ds.length x2.fields) Xg fl))))
     refine ac ((decide ((x2.fields.length:Int)>3))||(!Xi ds.length x2.fields)) (p:=((x2.fields.length:Int)>3)∨(¬(Xi ds.length x2.fields=true))) (Yh dq (Yt Iff.rfl)) (fun Xk=>?_) (fun Xk=>?_)
     ·refine ar (ir 1 [(2,.b false)] (ie ?_))
      exact Zc (r2 [] [.b false] ⟨rfl,rfl⟩ (lb (Hh Z3 (PG om (by rw [<-We,Yb Zv,UO,Zb (by rw [Pc Xk];simp)])) Zp)))
     refine ak (az (ZO q (ir 1 [(0,Zd ds),(3,.i k),(4,.p b1 0),(12,Zd ds),(13,.i ds.length),(14,.i k),(54,W6 x1.cons),(55,.i x1.cons.length),(56,.i (q+1:Nat))] (ie ?_))))
     have hdr:=Yb Zv
     exact ZQ ⟨q+1,ob,(by rw [Yb Zv,UO,Zm (Pd Xk)] at We;exact We),rfl,rfl,rfl⟩ (wk [1] (fq (fq (ZW q fl))))
    have hC:UO ds.length x1.cons=true:=by rw [<-We,Xx om];rfl
    refine ax 2 (ar (Yo 2 72 (Zd ds) 73 (.i k) (Zq (K9 (es:=YV ds) (hv:=none) (l:=0) (m:=(k:Int)) (sz:=3) (es':=YV (ds.take k)) kr om (by simp<;>omega) (by simp<;>omega) (QZ _) (by first|(simp only [VL,Vl,Be,Bd];done)|(simp only [VL,Vl,Be,Bd];rfl)|(simp [Be,Bd];done))) (io (.i (((ds.take k).length:Nat):Int)) (.i (((YV (ds.take k)).length:Nat):Int)) (li (by rw [VN])) (Z1 1 76 (.i 0) (ie (ab 4 (al (fun m F h=>∃(j:Nat),(j<=k)/\(x1.cons.length=0->TP x1 ((ds.take k).drop j)=TP x1 (ds.take k))/\F=[(0,Zd ds),(4,.p b1 0),(12,Zd ds),(13,.i ds.length),(14,.i k),(74,Zd (ds.take k)),(75,.i (((ds.take k).length:Nat):Int)),(76,.i j)]/\h=[.obj b1 (Ws x1)]/\m=k-j) _ _ _ ⟨0,ob,ob,rfl,rfl,rfl⟩ (wk [0] (fq (fw (fr (Ye fl))))) ?_))))))))
    rintro m F h ⟨j,HV,D8,rfl,rfl,rfl⟩
    refine ar (Z1 1 77 (.b (decide ((j:Int)<(((ds.take k).length:Nat):Int)))) (ie (aq (ZM ((j:Int)<(((ds.take k).length:Nat):Int)) (fun Xl=>?_) (fun Xl=>?_)))))
    ·have htl:(ds.take k).length<=k:=by rw [Wv];omega
     refine ak (aq (ab 5 (ar ?_)))
     obtain ⟨x3,YT⟩:=Zs (xs:=(ds.take k)) (j:=j) om
     refine Zq (Zo none (j:Int) 3 (Vi YT)) (Z1 1 79 (Ui x3) (iA [.i 0,.i 0,nl] ?_))
     intro b3
     refine ZH 0 b3 (Ws x3) (ie (ar (Yk 2 81 (W6 x1.cons) [1] [b1] (iw (U6 x1.cons) (XP 10 [(0,Zd ds),(4,.p b1 0),(8,.p b3 0),(12,Zd ds),(13,.i ds.length),(14,.i k),(74,Zd (ds.take k)),(75,.i (((ds.take k).length:Nat):Int)),(76,.i j),(89,.b (((x1.cons.length:Int)==0)&&((x3.cons.length:Int)==0)))] [.obj b3 (Ws x3),.obj b1 (Ws x1)] ?_ (fun hj3=>?_))))))
     ·refine XP 17 [(0,Zd ds),(4,.p b1 0),(8,.p b3 0),(12,Zd ds),(13,.i ds.length),(14,.i k),(74,Zd (ds.take k)),(75,.i (((ds.take k).length:Nat):Int)),(76,.i j),(96,.b ((((x1.cons.length:Int)==0)&&((x3.cons.length:Int)==0))&&(x3.frm==x1.frm)))] [.obj b3 (Ws x3),.obj b1 (Ws x1)] ?_ (fun hj4=>?_)
      ·refine Xp [(0,Zd ds),(4,.p b1 0),(12,Zd ds),(13,.i ds.length),(14,.i k),(74,Zd (ds.take k)),(75,.i (((ds.take k).length:Nat):Int)),(76,.i j),(103,.b (((((x1.cons.length:Int)==0)&&((x3.cons.length:Int)==0))&&(x3.frm==x1.frm))&&(x3.to_==x1.to_)))] [.obj b3 (Ws x3),.obj b1 (Ws x1)] ?_ ?_
       ·refine ir 1 [(0,Zd ds),(4,.p b1 0),(8,.p b3 0),(12,Zd ds),(13,.i ds.length),(14,.i k),(74,Zd (ds.take k)),(75,.i (((ds.take k).length:Nat):Int)),(76,.i j),(97,.b ((((x1.cons.length:Int)==0)&&((x3.cons.length:Int)==0))&&(x3.frm==x1.frm)))] (ib (b:=((((x1.cons.length:Int)==0)&&((x3.cons.length:Int)==0))&&(x3.frm==x1.frm))) 97 (fun W9=>?_) (fun W9=>?_))
        ·have V2:(((x1.cons.length:Int)=0)/\((x3.cons.length:Int)=0))/\(x3.frm=x1.frm):=((YE (YE Zh Zh) Zh)).1 W9
         refine Y2 6 (.n 103 (.b (x3.to_==x1.to_)) (.d (.k (.k (.d (.w (.k (.k .z)))))))) [0,1] [b3,b1] (ie ?_)
         exact wk [0,0] (fq (fq (Zr (x3.to_==x1.to_) W9 fl)))
        have Ua:¬((((x1.cons.length:Int)=0)/\((x3.cons.length:Int)=0))/\(x3.frm=x1.frm)):=ZG (YE (YE Zh Zh) Zh) W9
        refine Z5 6 (.n 103 (.b false) (.d (.k (.k (.d (.w (.k (.k .z)))))))) (ie ?_)
        exact wk [0,0] (fq (fq (Zr false W9 fl)))
       refine ac (((((x1.cons.length:Int)==0)&&((x3.cons.length:Int)==0))&&(x3.frm==x1.frm))&&(x3.to_==x1.to_)) (p:=((((x1.cons.length:Int)=0)/\((x3.cons.length:Int)=0))/\(x3.frm=x1.frm))/\(x3.to_=x1.to_)) (YE (YE (YE Zh Zh) Zh) Zh) (fun Vu=>?_) (fun Vu=>?_)
       ·refine ar (ir 1 [(2,.b false)] (ie ?_))
        exact Zc (r2 [] [.b false] ⟨rfl,rfl⟩ (lb (Hh Z3 (PH om (by rw [<-D8 om,Yb YT,TP,Zm om])) Zp)))
       refine ak (az (ZO j (ir 1 [(0,Zd ds),(4,.p b1 0),(12,Zd ds),(13,.i ds.length),(14,.i k),(74,Zd (ds.take k)),(75,.i (((ds.take k).length:Nat):Int)),(76,.i (j+1:Nat))] (ie ?_))))
       exact ZQ ⟨j+1,ob,(fun q=>by have hq:=D8 q;rw [Yb YT,TP,Zb om] at hq;exact hq),rfl,rfl,rfl⟩ (wk [1] (fq (fw (fr (ZW j fl)))))
      refine ir 1 [(0,Zd ds),(4,.p b1 0),(8,.p b3 0),(12,Zd ds),(13,.i ds.length),(14,.i k),(74,Zd (ds.take k)),(75,.i (((ds.take k).length:Nat):Int)),(76,.i j),(90,.b (((x1.cons.length:Int)==0)&&((x3.cons.length:Int)==0)))] (ib (b:=(((x1.cons.length:Int)==0)&&((x3.cons.length:Int)==0))) 90 (fun WC=>?_) (fun WC=>?_))
      ·have UE:((x1.cons.length:Int)=0)/\((x3.cons.length:Int)=0):=((YE Zh Zh)).1 WC
       refine Y2 6 (.n 96 (.b (x3.frm==x1.frm)) (.d (.w (.w (.k .z))))) [0,1] [b3,b1] ?_
       exact YG (wk [0,0] (fq (fq (fr (Zr (x3.frm==x1.frm) WC fl))))) hj4
      have Ur:¬(((x1.cons.length:Int)=0)/\((x3.cons.length:Int)=0)):=ZG (YE Zh Zh) WC
      refine Z5 6 (.n 96 (.b false) (.d (.w (.w (.k .z))))) ?_
      exact YG (wk [0,0] (fq (fq (fr (Zr false WC fl))))) hj4
     refine ir 2 [(0,Zd ds),(4,.p b1 0),(8,.p b3 0),(12,Zd ds),(13,.i ds.length),(14,.i k),(74,Zd (ds.take k)),(75,.i (((ds.take k).length:Nat):Int)),(76,.i j),(84,.b ((x1.cons.length:Int)==0))] (ib (b:=((x1.cons.length:Int)==0)) 84 (fun WU=>?_) (fun WU=>?_))
     ·have Tm:(x1.cons.length:Int)=0:=(Zh).1 WU
      refine Y2 2 (.n 86 (W6 x3.cons) (.w (.w (.k (.k .z))))) [0] [b3] (iw (U6 x3.cons) (Z1 2 89 (.b ((x3.cons.length:Int)==0)) ?_))
      exact YG (wk [0,0] (fq (fq (fr (Zr ((x3.cons.length:Int)==0) WU fl))))) hj3
     have T5:¬((x1.cons.length:Int)=0):=ZG Zh WU
     refine Z5 5 (.n 89 (.b false) (.d (.w (.w (.k .z))))) ?_
     exact YG (wk [0,0] (fq (fq (fr (Zr false WU fl))))) hj3
    have htl:(ds.take k).length=k:=by rw [Wv];omega
    have hD:x1.cons.length=0->TP x1 (ds.take k)=false:=fun q=>by rw [<-D8 q,Xx om];rfl
    refine ax 4 (az (ZO k (Z5 1 (.n 14 (.i (k+1:Nat)) (.p (.d (.k (.d (.k (.k .z))))))) (ie ?_))))
    have hdr:=Yb Z3
    exact ZQ ⟨k+1,ob,(Z74 Z3 (PI ZI hC hD) Zp),rfl,rfl,rfl⟩ (wk [] (fw (fr (ZW k fl))))
   refine ir 1 [(0,Zd ds),(3,.i k),(4,.p b1 0),(12,Zd ds),(13,.i ds.length),(14,.i k),(31,.b ((!(decide (0<=x1.frm/\x1.frm<=ds.length)))||(!(decide (0<=x1.to_/\x1.to_<=ds.length)))))] (ib (b:=((!(decide (0<=x1.frm/\x1.frm<=ds.length)))||(!(decide (0<=x1.to_/\x1.to_<=ds.length))))) 31 (fun WH=>?_) (fun WH=>?_))
   ·have Qz:(¬(0<=x1.frm/\x1.frm<=ds.length))∨(¬(0<=x1.to_/\x1.to_<=ds.length)):=((Yh (Yt dq) (Yt dq))).1 WH
    refine Z5 5 (.n 36 (.b true) (.d (.w (.k (.k .z))))) ?_
    exact YG (wk [0] (fq (fw (Zr true WH fl)))) hj2
   have QA:¬((¬(0<=x1.frm/\x1.frm<=ds.length))∨(¬(0<=x1.to_/\x1.to_<=ds.length))):=ZG (Yh (Yt dq) (Yt dq)) WH
   refine Y2 2 (.n 33 (W6 x1.cons) (.w (.k (.k (.k .z))))) [0] [b1] (iw (U6 x1.cons) (Z1 2 36 (.b (decide ((x1.cons.length:Int)>3))) ?_))
   exact YG (wk [0] (fq (fw (Zr (decide ((x1.cons.length:Int)>3)) WH fl)))) hj2
  refine ir 2 [(0,Zd ds),(3,.i k),(4,.p b1 0),(12,Zd ds),(13,.i ds.length),(14,.i k),(24,.b (!(decide (0<=x1.frm/\x1.frm<=ds.length))))] (ib (b:=(!(decide (0<=x1.frm/\x1.frm<=ds.length)))) 24 (fun WI=>?_) (fun WI=>?_))
  ·have Je:¬(0<=x1.frm/\x1.frm<=ds.length):=((Yt dq)).1 WI
   refine Z5 6 (.n 30 (.b true) (.d (.w (.k (.k .z))))) ?_
   exact YG (wk [0] (fq (fw (Zr true WI fl)))) hj1
  have QB:¬(¬(0<=x1.frm/\x1.frm<=ds.length)):=ZG (Yt dq) WI
  refine Y2 3 (.n 25 (Zd ds) (.n 27 (.i x1.to_) (.w (.k (.k (.k .z)))))) [0] [b1] (ZA [] (DK ds x1.to_) (Z1 2 30 (.b (!(decide (0<=x1.to_/\x1.to_<=ds.length)))) ?_))
  exact YG (wk [0] (fq (fw (Zr (!(decide (0<=x1.to_/\x1.to_<=ds.length))) WI fl)))) hj1
 refine ax 0 (ar (ir 1 [(2,.b true)] (ie ?_)))
 exact Zc (r2 [] [.b true] ⟨rfl,rfl⟩ (lb (Z73 om om Zp)))
theorem Lj (op:Int) :Zj Tryz.prog 66 [.i op] [] (fun r h=>r=.b (YF op)/\h=[]):=by
 refine ZK 9 Tryz.func66 (ar (ir 1 [(0,.i op)] (ie (ar (XP 6 [(8,.b ((decide (op>=14))&&(decide (op<=17))))] [] ?_ (fun hj1=>?_))))))
 ·refine ir 1 [(2,.b ((decide (op>=14))&&(decide (op<=17))))] (ie ?_)
  exact Zc (r2 [] [.b ((decide (op>=14))&&(decide (op<=17)))] ⟨rfl,rfl⟩ (lb (by rw [YF,Xm];simp)))
 refine ir 3 [(0,.i op),(5,.b (decide (op>=14)))] (ib (b:=(decide (op>=14))) 5 (fun Za=>?_) (fun Za=>?_))
 ·have ZP:op>=14:=(dq).1 Za
  refine ir 3 [(8,.b (decide (op<=17)))] ?_
  exact YG (wk [] (Zr (decide (op<=17)) Za fl)) hj1
 have Y0:¬(op>=14):=ZG dq Za
 refine ir 3 [(8,.b false)] ?_
 exact YG (wk [] (Zr false Za fl)) hj1
theorem Z0j (b:Z7) (c:Nat) (v:Int) (hb:b.sz<=1000000000:=by exact ob) (hv:0<=v/\v<=600:=by exact ob) (ih:∀(b2:Z7) (c:Nat) (v:Int),(b2.sz<b.sz)->(0<=v/\v<=600)->Zj Tryz.prog 63 [Zx b2,.p c 0] [.obj c [.i v]] (fun r h=>(r=.b true/\h=[.obj c [.i (600-W1 b2 (600-v))]]/\0<=W1 b2 (600-v))∨(r=.b false/\h=[]/\W1 b2 (600-v)<0))):Zj Tryz.prog 63 [Zx b,.p c 0] [.obj c [.i v]] (fun r h=>(r=.b true/\h=[.obj c [.i (600-W1 b (600-v))]]/\0<=W1 b (600-v))∨(r=.b false/\h=[]/\W1 b (600-v)<0)):=by
 have hbz:=Vx b
 have hbe:=LM b (600-v)
 refine ZK 38 Tryz.func63 (ar (iA (Yn b) ?_))
 intro b1
 refine ir 1 [(1,.p c 0),(2,.p b1 0)] (ie (aq (ar (Yk 2 10 (Yj b.steps) [0] [b1] (iw (VE b.steps) (Z1 1 12 (.i 0) (ie (ab 0 (al (fun m F h=>∃(k:Nat) (q:Int),(k<=b.steps.length)/\(0<=q/\q<=600)/\(T9 (b.steps.drop k) (600-q)=T9 b.steps (600-v))/\F=[(1,.p c 0),(10,Yj b.steps),(11,.i b.steps.length),(12,.i k)]/\h=[.obj c [.i q]]/\m=b.steps.length-k) _ _ _ ⟨0,v,ob,ob,rfl,rfl,rfl,rfl⟩ (wk [1] (fw (fr (Ye fl)))) ?_)))))))))
 rintro m F h ⟨k,q,Ym,Zp,Zz,rfl,rfl,rfl⟩
 refine ar (Z1 1 13 (.b (decide ((k:Int)<(b.steps.length:Int)))) (ie (aq (ZM ((k:Int)<(b.steps.length:Int)) (fun Ze=>?_) (fun Ze=>?_)))))
 ·refine ak (aq (ab 1 (ar ?_)))
  obtain ⟨x1,Z3⟩:=Zs (xs:=b.steps) (j:=k) om
  have hss:=KJ Z3
  have hkz:=T8 x1
  refine Zq (Zo none (k:Int) 5 (Wy Z3)) (Z1 1 15 (Y4 x1) (iA [.i 0,.i 0,.i 0,nl,nl] ?_))
  intro b2
  refine ZH 0 b2 (Yg x1) (ie (aq (ar (Y1 3 16 (.p c 0) 18 (.i q) [1] [c] (ia ((q+1)) ((q)+(1)) (Z1 1 20 (.p c 0) (ZH 1 c [.i (q+1)] (ie (ar (Yk 4 24 (.b (decide ((q+1)>600))) [0] [c] (ie (ZM ((q+1)>600) (fun Zk=>?_) (fun Zk=>?_)))))))))))))
  ·refine ar (ir 1 [(4,.b false)] (ie ?_))
   exact Zc (r1 [] (.inr ⟨rfl,rfl,(by rw [hbe,<-Zz,Yb Z3,T9,Zm om];omega)⟩))
  refine ak (ar (Yk 2 26 (Yz x1.kids) [1] [b2] (iw (VX x1.kids) (Z1 1 28 (.i 0) (ie (ab 2 (al (fun m F h=>∃(j:Nat) (j2:Int),(j<=x1.kids.length)/\(0<=j2/\j2<=600)/\(To (x1.kids.drop j) (600-j2)=To x1.kids (600-(q+1)))/\F=[(1,.p c 0),(10,Yj b.steps),(11,.i b.steps.length),(12,.i k),(26,Yz x1.kids),(27,.i x1.kids.length),(28,.i j)]/\h=[.obj c [.i j2]]/\m=x1.kids.length-j) _ _ _ ⟨0,(q+1),ob,ob,rfl,rfl,rfl,rfl⟩ (wk [0] (fq (fw (Ye fl)))) ?_)))))))
  rintro m F h ⟨j,j2,Uj,We,XJ,rfl,rfl,rfl⟩
  refine ar (Z1 1 29 (.b (decide ((j:Int)<(x1.kids.length:Int)))) (ie (aq (ZM ((j:Int)<(x1.kids.length:Int)) (fun ZI=>?_) (fun ZI=>?_)))))
  ·refine ak (aq (ab 3 (ar ?_)))
   obtain ⟨x2,Zv⟩:=Zs (xs:=x1.kids) (j:=j) om
   have hks:=T7 Zv
   have hle:=Gl.2 x2 (600-j2) om
   refine Zq (Zo none (j:Int) 2 (UA Zv)) (Z1 1 31 (Zx x2) (iA [nl,.i 0] ?_))
   intro b3
   refine ZH 0 b3 (Yn x2) (ie (ar (Y1 2 32 (Zx x2) 33 (.p c 0) [0] [b3] (ic [1] (ih x2 c j2 ob ob) ?_))))
   rintro _ _ (⟨rfl,rfl,ZP⟩|⟨rfl,rfl,Y0⟩)
   ·refine Z1 1 35 (.b false) (ie (WS (ak (az (ZO j (Z5 1 (.n 28 (.i (j+1:Nat)) (.p (.d (.p (.d (.d (.p (.d (.p (.d (.w (.k (.k .z))))))))))))) (ie ?_)))))))
    have hdr:=Yb Zv
    exact ZQ ⟨j+1,(600-W1 x2 (600-j2)),ob,ob,(by rw [Yb Zv,To,Zb om] at XJ;rw [show 600-(600-W1 x2 (600-j2))=W1 x2 (600-j2) by omega];exact XJ),rfl,rfl,rfl⟩ (wk [0] (fq (fw (ZW j fl))))
   refine Z1 1 35 (.b true) (ie (WL (ar (ir 1 [(4,.b false)] (ie ?_)))))
   exact Zc (r1 [] (.inr ⟨rfl,rfl,(by rw [hbe,<-Zz,Yb Z3,T9,Zb om,Zm (by rw [DU,show (600-q-1:Int)=600-(q+1) by omega,<-XJ,Yb Zv,To,Zm Y0];omega)];omega)⟩))
  have hE:To x1.kids (600-(q+1))=600-j2:=by rw [<-XJ,Xx om,To]
  refine ax 2 (az (ZO k (Z5 1 (.n 12 (.i (k+1:Nat)) (.p (.d (.k (.k (.k .z)))))) (ie ?_))))
  have hdr:=Yb Z3
  exact ZQ ⟨k+1,j2,ob,ob,(by rw [Yb Z3,T9,Zb om,DU,show (600-q-1:Int)=600-(q+1) by omega,hE,Zb om] at Zz;exact Zz),rfl,rfl,rfl⟩ (wk [0] (fw (fr (ZW k fl))))
 refine ax 0 (ar (ir 1 [(4,.b true)] (ie ?_)))
 have hF:W1 b (600-v)=600-q:=by rw [hbe,<-Zz,Xx om,T9]
 exact Zc (r1 [0] (.inl ⟨rfl,rfl,om⟩) (eq:=(ro (ls:=[.i q]) (by rw [hF,show (600-(600-q):Int)=q by omega]) rz)))
theorem Z0i:∀(b:Z7) (c:Nat) (v:Int),(b.sz<=1000000000)->(0<=v/\v<=600)->Zj Tryz.prog 63 [Zx b,.p c 0] [.obj c [.i v]] (fun r h=>(r=.b true/\h=[.obj c [.i (600-W1 b (600-v))]]/\0<=W1 b (600-v))∨(r=.b false/\h=[]/\W1 b (600-v)<0)):=by
 have key:∀m:Nat,∀(b:Z7) (c:Nat) (v:Int),(b.sz<=m)->(b.sz<=1000000000)->(0<=v/\v<=600)->Zj Tryz.prog 63 [Zx b,.p c 0] [.obj c [.i v]] (fun r h=>(r=.b true/\h=[.obj c [.i (600-W1 b (600-v))]]/\0<=W1 b (600-v))∨(r=.b false/\h=[]/\W1 b (600-v)<0)):=by
  intro m
  induction m with
  | zero=>intro b c v h;have:=b.sz_pos;omega
  | succ m ih=>intro b c v h1 h2 h3;exact Z0j b c v h2 h3 fun b2 c2 v2 k1 k2=>ih b2 c2 v2 om om k2
 intro b c v h2 h3
 exact key b.sz b c v (X7 _) h2 h3
theorem Lg (b:Z7) (hb:b.sz<=1000000000:=by exact ob):Zj Tryz.prog 22 [Zx b] [] (fun r h=>r=.i (Vd b)/\h=[]):=by
 refine ZK 8 Tryz.func22 (ar (iA (Yn b) ?_))
 intro b1
 refine ir 1 [(1,.p b1 0)] (ie (ar (iA [.i 0] ?_)))
 intro b2
 refine ZH 0 b2 [.i 0] (ie (aq (ar (Yk 1 4 (Zx b) [1] [b1] (ic [0] (Z0i b b2 0 ob ob) ?_)))))
 rintro _ _ (⟨rfl,rfl,ZP⟩|⟨rfl,rfl,Y0⟩)
 ·have h0:=ZP
  rw [show (600-0:Int)=600 from rfl] at h0
  refine Z1 1 6 (.b false) (ie (WS (ak (ar (iR 2 [(2,.i (600-W1 b (600-0)))] [0] [b2] (ie ?_))))))
  exact Zc (r2 [] [.i (600-W1 b (600-0))] ⟨rfl,rfl⟩ (li (by rw [show (600-0:Int)=600 from rfl,Vd,Zb om])))
 have h0:=Y0
 rw [show (600-0:Int)=600 from rfl] at h0
 refine Z1 1 6 (.b true) (ie (WL (ar (ir 1 [(2,.i (-1))] (ie ?_)))))
 exact Zc (r2 [] [.i (-1)] ⟨rfl,rfl⟩ (li (by rw [Vd,Zm h0])))
theorem Z0o (ds:List Zf) (fs:List WG) (hz:KR ds:=by exact ob) (hf:∀f∈fs,f.pms.length<=4194304/\f.lnt.length<=4194304) (hfl:fs.length<=4194304:=by exact ob):Zj Tryz.prog 90 [Zd ds,V4 fs] [] (fun r h=>r=.b (Qm ds fs)/\h=[]):=by
 have hzl:=hz.len
 refine ZK 102 Tryz.func90 (ar (ir 1 [(0,Zd ds),(1,V4 fs)] (ie (aq (ar (Z1 1 9 (Zd ds) (ZA [] (Z0c ds) (XP 8 [(0,Zd ds),(1,V4 fs),(16,.b ((!Wf ds)||(decide ((fs.length:Int)<1))))] [] ?_ (fun hj1=>?_)))))))))
 ·refine XP 13 [(0,Zd ds),(1,V4 fs),(21,.b (((!Wf ds)||(decide ((fs.length:Int)<1)))||(decide ((fs.length:Int)>4))))] [] ?_ (fun hj2=>?_)
  ·refine ir 1 [(0,Zd ds),(1,V4 fs),(22,.b (((!Wf ds)||(decide ((fs.length:Int)<1)))||(decide ((fs.length:Int)>4))))] (ib (b:=(((!Wf ds)||(decide ((fs.length:Int)<1)))||(decide ((fs.length:Int)>4)))) 22 (fun Za=>?_) (fun Za=>?_))
   ·have ZP:((¬(Wf ds=true))∨((fs.length:Int)<1))∨((fs.length:Int)>4):=((Yh (Yh (Yt Iff.rfl) dq) dq)).1 Za
    refine Z5 14 (.n 36 (.b true) (.d (.k (.k .z)))) (ie (WL (ar (ir 1 [(4,.b false)] (ie ?_)))))
    exact Zc (r2 [] [.b false] ⟨rfl,rfl⟩ (lb (Z7c (by assumption))))
   have Y0:¬(((¬(Wf ds=true))∨((fs.length:Int)<1))∨((fs.length:Int)>4)):=ZG (Yh (Yh (Yt Iff.rfl) dq) dq) Za
   refine Z5 1 (.n 23 (V4 fs) (.k (.k (.k .z)))) ?_
   obtain ⟨x1,Z3⟩:=Zs (xs:=fs) (j:=0) om
   refine Zq (Zo none 0 3 (Bh Z3)) (Z1 2 26 (Z0 x1.pms) (iw (Yd x1.pms) (Z1 3 30 (.b (decide ((x1.pms.length:Int)>0))) (ib (b:=(decide ((x1.pms.length:Int)>0))) 30 (fun Zw=>?_) (fun Zw=>?_)))))
   ·have YB:(x1.pms.length:Int)>0:=(dq).1 Zw
    refine Z5 6 (.n 36 (.b true) (.k (.d .r))) (ie (WL (ar (ir 1 [(4,.b false)] (ie ?_)))))
    exact Zc (r2 [] [.b false] ⟨rfl,rfl⟩ (lb (NU Z3 (.inl (by assumption)))))
   have YN:¬((x1.pms.length:Int)>0):=ZG dq Zw
   refine Z5 1 (.n 31 (V4 fs) (.k (.d .r))) (Zq (Zo none 0 3 (Bh Z3)) (Z1 4 36 (.b (x1.res != 0)) (ie (ac (x1.res != 0) Yc (fun Ze=>?_) (fun Ze=>?_)))))
   ·refine ar (ir 1 [(4,.b false)] (ie ?_))
    exact Zc (r2 [] [.b false] ⟨rfl,rfl⟩ (lb (NU Z3 (.inr Ze))))
   refine ak (aq (ar (Z1 1 37 (V4 fs) (iw (C0 fs) (Z1 1 39 (.i 0) (ie (ab 0 (al (fun m F h=>∃(k:Nat),(k<=fs.length)/\(Qg ds.length (fs.drop k)=Qg ds.length fs)/\F=[(0,Zd ds),(37,V4 fs),(38,.i fs.length),(39,.i k)]/\h=[]/\m=fs.length-k) _ _ _ ⟨0,ob,ob,rfl,rfl,rfl⟩ (wk [] (fw (fr (Ye fl)))) ?_))))))))
   rintro m F h ⟨k,Ym,Zp,rfl,rfl,rfl⟩
   refine ar (Z1 1 40 (.b (decide ((k:Int)<(fs.length:Int)))) (ie (aq (ZM ((k:Int)<(fs.length:Int)) (fun Zk=>?_) (fun Zk=>?_)))))
   ·refine ak (aq (ab 1 (ar ?_)))
    obtain ⟨x2,Zv⟩:=Zs (xs:=fs) (j:=k) om
    have hf2:=hf _ (Y7 Zv)
    refine Zq (Zo none (k:Int) 3 (Bh Zv)) (Z1 1 42 (CW x2) (iA [nl,nl,.i 0] ?_))
    intro b1
    refine ZH 0 b1 (Bv x2) (ie (aq (ar (Yk 2 44 (Z0 x2.pms) [0] [b1] (iw (Yd x2.pms) (XP 11 [(0,Zd ds),(6,.p b1 0),(37,V4 fs),(38,.i fs.length),(39,.i k),(53,.b ((decide ((x2.pms.length:Int)>3))||(!Xi ds.length x2.pms)))] [.obj b1 (Bv x2)] ?_ (fun hj3=>?_)))))))
    ·refine Xp [(0,Zd ds),(6,.p b1 0),(37,V4 fs),(38,.i fs.length),(39,.i k),(60,.b (((decide ((x2.pms.length:Int)>3))||(!Xi ds.length x2.pms))||(!(decide (0<=x2.res/\x2.res<=ds.length)))))] [.obj b1 (Bv x2)] ?_ ?_
     ·refine ir 1 [(0,Zd ds),(6,.p b1 0),(37,V4 fs),(38,.i fs.length),(39,.i k),(54,.b ((decide ((x2.pms.length:Int)>3))||(!Xi ds.length x2.pms)))] (ib (b:=((decide ((x2.pms.length:Int)>3))||(!Xi ds.length x2.pms))) 54 (fun Yw=>?_) (fun Yw=>?_))
      ·have YX:((x2.pms.length:Int)>3)∨(¬(Xi ds.length x2.pms=true)):=((Yh dq (Yt Iff.rfl))).1 Yw
       refine Z5 6 (.n 60 (.b true) (.d (.w (.k .z)))) (ie ?_)
       exact wk [0] (fq (fr (Zr true Yw fl)))
      have Xy:¬(((x2.pms.length:Int)>3)∨(¬(Xi ds.length x2.pms=true))):=ZG (Yh dq (Yt Iff.rfl)) Yw
      refine Y2 3 (.n 55 (Zd ds) (.n 57 (.i x2.res) (.w (.k (.k .z))))) [0] [b1] (ZA [] (DK ds x2.res) (Z1 2 60 (.b (!(decide (0<=x2.res/\x2.res<=ds.length)))) (ie ?_)))
      exact wk [0] (fq (fr (Zr (!(decide (0<=x2.res/\x2.res<=ds.length))) Yw fl)))
     refine ac (((decide ((x2.pms.length:Int)>3))||(!Xi ds.length x2.pms))||(!(decide (0<=x2.res/\x2.res<=ds.length)))) (p:=(((x2.pms.length:Int)>3)∨(¬(Xi ds.length x2.pms=true)))∨(¬(0<=x2.res/\x2.res<=ds.length))) (Yh (Yh dq (Yt Iff.rfl)) (Yt dq)) (fun ZI=>?_) (fun ZI=>?_)
     ·refine ar (ir 1 [(4,.b false)] (ie ?_))
      exact Zc (r2 [] [.b false] ⟨rfl,rfl⟩ (lb (Ew (Ei Zv (Z41 ZI) Zp))))
     refine ak (ar (iR 2 [(0,Zd ds),(6,.p b1 0),(37,V4 fs),(38,.i fs.length),(39,.i k),(62,Z0 x2.lnt)] [0] [b1] (iw (Yd x2.lnt) (Z1 1 64 (.i 0) (ie (ab 2 (al (fun m F h=>∃(j:Nat),(j<=x2.lnt.length)/\(TV x2.pms (x2.lnt.drop j) (if j=0 then none else x2.lnt[j-1]?)=Ql x2.pms x2.lnt)/\F=[(0,Zd ds),(6,.p b1 0),(37,V4 fs),(38,.i fs.length),(39,.i k),(62,Z0 x2.lnt),(63,.i x2.lnt.length),(64,.i j)]/\h=[.obj b1 (Bv x2)]/\m=x2.lnt.length-j) _ _ _ ⟨0,ob,(by rfl),rfl,rfl,rfl⟩ (wk [0] (fq (fw (fr (Ye fl))))) ?_)))))))
     rintro m F h ⟨j,Uj,We,rfl,rfl,rfl⟩
     refine ar (Z1 1 65 (.b (decide ((j:Int)<(x2.lnt.length:Int)))) (ie (aq (ZM ((j:Int)<(x2.lnt.length:Int)) (fun Yi=>?_) (fun Yi=>?_)))))
     ·refine ak (aq (ab 3 (ar (Z1 1 66 (.i j) ?_))))
      obtain ⟨x3,YT⟩:=Zs (xs:=x2.lnt) (j:=j) om
      refine Zq (Zo none (j:Int) 1 (Y3 YT)) (Yo 3 7 (.i j) 8 (.i x3) (ie (ar (XP 9 [(0,Zd ds),(6,.p b1 0),(7,.i j),(8,.i x3),(37,V4 fs),(38,.i fs.length),(39,.i k),(62,Z0 x2.lnt),(63,.i x2.lnt.length),(64,.i j),(77,.b ((decide (x3<0))||(decide (x3>=(x2.pms.length:Int)))))] [.obj b1 (Bv x2)] ?_ (fun hj4=>?_)))))
      ·refine ir 1 [(0,Zd ds),(6,.p b1 0),(7,.i j),(8,.i x3),(37,V4 fs),(38,.i fs.length),(39,.i k),(62,Z0 x2.lnt),(63,.i x2.lnt.length),(64,.i j),(78,.b ((decide (x3<0))||(decide (x3>=(x2.pms.length:Int)))))] (ib (b:=((decide (x3<0))||(decide (x3>=(x2.pms.length:Int))))) 78 (fun Xg=>?_) (fun Xg=>?_))
       ·have Wh:(x3<0)∨(x3>=(x2.pms.length:Int)):=((Yh dq dq)).1 Xg
        refine Z5 21 (.n 99 (.b true) (.d (.k (.k (.d (.d (.w (.k (.k .z))))))))) (ie (WL (ar (ir 1 [(4,.b false)] (ie ?_)))))
        exact Zc (r2 [] [.b false] ⟨rfl,rfl⟩ (lb (Ew (Ei Zv (GM (Gm YT (by rintro ⟨q1,q2,q3⟩;first|omega|(rw [Ub] at q2;exact q2 (Yv some om))|(have:=q3 _ (by rw [Zb om];exact UF);omega)) We)) Zp))))
       have WJ:¬((x3<0)∨(x3>=(x2.pms.length:Int))):=ZG (Yh dq dq) Xg
       refine Y2 3 (.n 80 (Z0 x2.pms) (.n 81 (.i x3) (.w (.w (.k (.k (.k .z))))))) [0] [b1] ?_
       obtain ⟨x4,Ub⟩:=Zs (xs:=x2.pms) (j:=x3.toNat) om
       refine Zq (Zo none x3 1 (Y3 Ub)) (Z1 4 86 (.b (x4==0)) (ib (b:=(x4==0)) 86 (fun W9=>?_) (fun W9=>?_)))
       ·have V2:x4=0:=(Zh).1 W9
        refine Z5 13 (.n 99 (.b true) (.k (.d .r))) (ie (WL (ar (ir 1 [(4,.b false)] (ie ?_)))))
        exact Zc (r2 [] [.b false] ⟨rfl,rfl⟩ (lb (Ew (Ei Zv (GM (Gm YT (by rintro ⟨q1,q2,q3⟩;first|omega|(rw [Ub] at q2;exact q2 (Yv some om))|(have:=q3 _ (by rw [Zb om];exact UF);omega)) We)) Zp))))
       have Ua:¬(x4=0):=ZG Zh W9
       refine Z5 3 (.n 89 (.b (decide ((j:Int)>0))) (.k (.d .r))) (ib (b:=(decide ((j:Int)>0))) 89 (fun WC=>?_) (fun WC=>?_))
       ·have UE:(j:Int)>0:=(dq).1 WC
        refine Y2 4 (.n 90 (.i x3) (.n 92 (Z0 x2.lnt) (.n 93 (.i j) (.k (.d .r))))) [0] [b1] (ia (((j-1:Nat):Int)) (((j:Int))-(1)) ?_)
        obtain ⟨x5,UF⟩:=Zs (xs:=x2.lnt) (j:=j-1) om
        refine Zq (Zo none ((j-1:Nat):Int) 1 (Y3 UF)) (Z1 4 99 (.b (decide (x3<=x5))) (ie (ZM (x3<=x5) (fun Xk=>?_) (fun Xk=>?_))))
        ·refine ar (ir 1 [(4,.b false)] (ie ?_))
         exact Zc (r2 [] [.b false] ⟨rfl,rfl⟩ (lb (Ew (Ei Zv (GM (Gm YT (by rintro ⟨q1,q2,q3⟩;first|omega|(rw [Ub] at q2;exact q2 (Yv some om))|(have:=q3 _ (by rw [Zb om];exact UF);omega)) We)) Zp))))
        refine ak (az (ZO j (Z5 1 (.n 64 (.i (j+1:Nat)) (.p (.d (.p (.p (.d (.d (.d (.d (.d (.p (.d (.d (.d (.k (.k (.d (.d (.w (.k .z)))))))))))))))))))) (ie ?_))))
        have hdr:=Yb YT
        exact ZQ ⟨j+1,ob,(LO YT ⟨by omega,(by rw [Ub];intro q;cases q;omega),fun p hp=>by first|(rw [Zm om] at hp;cases hp;done)|(rw [Zb om,UF] at hp;cases hp;omega)⟩ We),rfl,rfl,rfl⟩ (wk [0] (fq (fw (fr (ZW j fl)))))
       have Ur:¬((j:Int)>0):=ZG dq WC
       refine Z5 10 (.n 99 (.b false) (.k (.d .r))) (ie (WS (ak (az (ZO j (Z5 1 (.n 64 (.i (j+1:Nat)) (.p (.d (.d (.d (.p (.d (.d (.d (.k (.k (.d (.d (.w (.k .z))))))))))))))) (ie ?_)))))))
       have hdr:=Yb YT
       exact ZQ ⟨j+1,ob,(LO YT ⟨by omega,(by rw [Ub];intro q;cases q;omega),fun p hp=>by first|(rw [Zm om] at hp;cases hp;done)|(rw [Zb om,UF] at hp;cases hp;omega)⟩ We),rfl,rfl,rfl⟩ (wk [0] (fq (fw (fr (ZW j fl)))))
      refine ir 3 [(0,Zd ds),(6,.p b1 0),(7,.i j),(8,.i x3),(37,V4 fs),(38,.i fs.length),(39,.i k),(62,Z0 x2.lnt),(63,.i x2.lnt.length),(64,.i j),(71,.b (decide (x3<0)))] (ib (b:=(decide (x3<0))) 71 (fun WU=>?_) (fun WU=>?_))
      ·have Tm:x3<0:=(dq).1 WU
       refine Z5 6 (.n 77 (.b true) (.d (.w (.w (.k (.k .z)))))) ?_
       exact YG (wk [0] (fq (fq (fw (Zr true WU fl))))) hj4
      have T5:¬(x3<0):=ZG dq WU
      refine Y2 3 (.n 72 (.i x3) (.n 74 (Z0 x2.pms) (.w (.w (.k (.k (.k .z))))))) [0] [b1] (iw (Yd x2.pms) (Z1 2 77 (.b (decide (x3>=(x2.pms.length:Int)))) ?_))
      exact YG (wk [0] (fq (fq (fw (Zr (decide (x3>=(x2.pms.length:Int))) WU fl))))) hj4
     have hL:Ql x2.pms x2.lnt=true:=by rw [<-We,Xx om];rfl
     have hS:=Z42 ZI hL
     refine ax 2 (az (ZO k (Z5 1 (.n 39 (.i (k+1:Nat)) (.p (.d (.k (.d (.k (.k .z))))))) (ie ?_))))
     have hdr:=Yb Zv
     exact ZQ ⟨k+1,ob,(Z4l Zv hS Zp),rfl,rfl,rfl⟩ (wk [] (fw (fr (ZW k fl))))
    refine ir 2 [(0,Zd ds),(6,.p b1 0),(37,V4 fs),(38,.i fs.length),(39,.i k),(47,.b (decide ((x2.pms.length:Int)>3)))] (ib (b:=(decide ((x2.pms.length:Int)>3))) 47 (fun WH=>?_) (fun WH=>?_))
    ·have Qz:(x2.pms.length:Int)>3:=(dq).1 WH
     refine Z5 6 (.n 53 (.b true) (.d (.w (.k .z)))) ?_
     exact YG (wk [0] (fq (fr (Zr true WH fl)))) hj3
    have QA:¬((x2.pms.length:Int)>3):=ZG dq WH
    refine Y2 3 (.n 48 (Zd ds) (.n 50 (Z0 x2.pms) (.w (.k (.k .z))))) [0] [b1] (ZA [] (G4 ds x2.pms) (Z1 2 53 (.b (!Xi ds.length x2.pms)) ?_))
    exact YG (wk [0] (fq (fr (Zr (!Xi ds.length x2.pms) WH fl)))) hj3
   refine ax 0 (ar (ir 1 [(4,.b true)] (ie ?_)))
   exact Zc (r2 [] [.b true] ⟨rfl,rfl⟩ (lb (Z7d (by assumption) Z3 (by assumption) Ze (by rw [<-Zp,Xx om];rfl))))
  refine ir 1 [(0,Zd ds),(1,V4 fs),(17,.b ((!Wf ds)||(decide ((fs.length:Int)<1))))] (ib (b:=((!Wf ds)||(decide ((fs.length:Int)<1)))) 17 (fun WI=>?_) (fun WI=>?_))
  ·have Je:(¬(Wf ds=true))∨((fs.length:Int)<1):=((Yh (Yt Iff.rfl) dq)).1 WI
   refine Z5 4 (.n 21 (.b true) (.d (.k (.k .z)))) ?_
   exact YG (wk [] (fw (Zr true WI fl))) hj2
  have QB:¬((¬(Wf ds=true))∨((fs.length:Int)<1)):=ZG (Yh (Yt Iff.rfl) dq) WI
  refine Z5 1 (.n 18 (V4 fs) (.k (.k (.k .z)))) (iw (C0 fs) (Z1 2 21 (.b (decide ((fs.length:Int)>4))) ?_))
  exact YG (wk [] (fw (Zr (decide ((fs.length:Int)>4)) WI fl))) hj2
 refine ir 2 [(0,Zd ds),(1,V4 fs),(12,.b (!Wf ds))] (ib (b:=(!Wf ds)) 12 (fun Ty=>?_) (fun Ty=>?_))
 ·have Lb:¬(Wf ds=true):=((Yt Iff.rfl)).1 Ty
  refine Z5 4 (.n 16 (.b true) (.d (.k (.k .z)))) ?_
  exact YG (wk [] (fw (Zr true Ty fl))) hj1
 have Lc:¬(¬(Wf ds=true)):=ZG (Yt Iff.rfl) Ty
 refine Z5 1 (.n 13 (V4 fs) (.k (.k (.k .z)))) (iw (C0 fs) (Z1 2 16 (.b (decide ((fs.length:Int)<1))) ?_))
 exact YG (wk [] (fw (Zr (decide ((fs.length:Int)<1)) Ty fl))) hj1
theorem Lk (n:Zy) (hz:Q5 n:=by exact ob):Zj Tryz.prog 54 [ZE n] [] (fun r h=>(r=.tup [.agg [Zd n.decls,Xb n],.b (XV n)]/\h=[]/\n.routines.length<=4)∨(r=.tup [.agg [Zd [],V4 []],.b false]/\h=[]/\XV n=false)):=by
 have hzl:=hz.len
 refine ZK 41 Tryz.func54 (ar (iA (ZU n) ?_))
 intro b1
 refine iA [nl,nl] ?_
 intro b2
 refine ir 1 [(1,.p b1 0),(2,.p b2 0)] (ie (aq (ar (Yk 2 8 (YZ n.routines) [1] [b1] (iw (U8 n.routines) (Z1 1 10 (.b (decide ((n.routines.length:Int)>4))) (ie (ZM ((n.routines.length:Int)>4) (fun Ze=>?_) (fun Ze=>?_)))))))))
 ·refine ar (Z1 1 11 (.agg [nl,nl]) (ZH 0 b2 [nl,nl] (Z1 1 3 (.b false) (ie ?_))))
  exact Zc (r3 [] [.agg [nl,nl],.b false] [0] [(b2,b2)] (.inr ⟨rfl,rfl,(by rw [LY,decide_eq_false om];rfl)⟩) (Zg.tup (.cons (Zg.agg (.cons (Zg.sl _ rfl) (.cons (Zg.sl _ rfl) .nil))) (.cons (lr _) .nil))))
 refine ak (ar (Yk 3 14 (.agg [Zd n.decls,nl]) [1] [b1] (iA [nl,nl] ?_)))
 intro b3
 refine ZH 0 b3 [Zd n.decls,nl] (ie (aq (ar (Yk 2 16 (YZ n.routines) [2] [b1] (iw (U8 n.routines) (Z1 1 18 (.i 0) (ie (ab 0 (CY 3 (al (fun m F h=>∃(k:Nat) (v:Value),(k<=n.routines.length)/\F=[(1,.p b1 0),(2,.p b2 0),(4,.p b3 0),(16,YZ n.routines),(17,.i n.routines.length),(18,.i k)]/\h=[.obj b3 [Zd n.decls,BA ((n.routines.take k).map XD) v],.obj b2 [nl,nl],.obj b1 (ZU n),.tail v 3]/\m=n.routines.length-k) _ _ _ ⟨0,(.slice none 0 0),ob,rfl,rfl,rfl⟩ (wk [1,1,1,0] (fq (fr (Ye fl)))) ?_))))))))))
 rintro m F h ⟨k,v,Ym,rfl,rfl,rfl⟩
 refine ar (Z1 1 19 (.b (decide ((k:Int)<(n.routines.length:Int)))) (ie (aq (ZM ((k:Int)<(n.routines.length:Int)) (fun Zk=>?_) (fun Zk=>?_)))))
 ·refine ak (aq (ab 1 (ar ?_)))
  obtain ⟨x1,Z3⟩:=Zs (xs:=n.routines) (j:=k) om
  refine Zq (Zo none (k:Int) 5 (WB Z3)) (Z1 1 21 (WZ x1) (iA [nl,nl,.i 0,nl,.i 0] ?_))
  intro b4
  refine ZH 0 b4 (VO x1) (ie (az (Y1 9 23 (BA ((n.routines.take k).map XD) v) 30 (.agg [Z0 x1.params,Z0 x1.lent,.i x1.result]) [1,0,0,0] [b3,b4,b4,b4] (iL (UB [WG.mk x1.params x1.lent x1.result]) 1 3 ?_))))
  intro v1
  refine Z5 0 (.n 31 (V4 [WG.mk x1.params x1.lent x1.result]) (.p .r)) (ip 5 (UB ((n.routines.take (k+1)).map XD)) (UB ((n.routines.take k).map XD)) (UB [WG.mk x1.params x1.lent x1.result]) v none 3 (Ie _) (Ie _) (PZ _) (by simp<;>omega) (by rw [WO Z3];simp [UB,XD]) ?_)
  intro v2
  refine Z1 1 33 (.p b3 1) (ZH 3 b3 [Zd n.decls,BA ((n.routines.take (k+1)).map XD) v2] (ie (az (ZO k (Z5 1 (.n 18 (.i (k+1:Nat)) (.p (.d (.p (.d (.d (.d (.p (.d (.p (.d (.w (.k .z))))))))))))) (ie ?_))))))
  have hdr:=Yb Z3
  exact ZQ ⟨k+1,v2,ob,rfl,rfl,rfl⟩ (wk [0,3,3,0] (fq (fr (ZW k fl))))
 refine ax 0 (aD 8 (Y6 3 8 [0,1,2,3,4] (.n 35 (.agg [Zd n.decls,BA ((n.routines.take k).map XD) v]) (.n 37 (Zd n.decls) (.n 39 (V4 ((n.routines.take k).map XD)) .r))) [0,2,0] [b3,b1,b3] (Z9 5 (Ys 5 [] [0] [b3] (Z0o n.decls ((n.routines.take k).map XD) (hz:=hz.decls) (hf:=(by intro f hf;obtain ⟨r,h1,rfl⟩:=W3.1 hf;have:=TJ h1;exact ⟨hz.params r this,hz.lent r this⟩))) (Z9 6 (YK 6 1 [] [] b2 [Zd n.decls,BA ((n.routines.take k).map XD) v] (ZY 0 1 [7] 3 (.b (Qm n.decls ((n.routines.take k).map XD))) (de ?_))))))))
 have htk:n.routines.take k=n.routines:=Ve om
 exact Zc (r3 [] [.agg [Zd n.decls,BA ((n.routines.take k).map XD) v],.b (Qm n.decls ((n.routines.take k).map XD))] [0] [(b2,b2)] (.inl ⟨rfl,rfl,om⟩) (Zg.tup (.cons (Zg.agg (.cons (lr _) (.cons (Zg.sl _ (Yv UB (by rw [htk]))) .nil))) (.cons (lb (by rw [htk,LY,decide_eq_true (p:=n.routines.length<=4) om,Bool.true_and])) .nil))))
end Go.Abs
