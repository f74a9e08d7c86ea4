/-
  A part of the proof of FnIsPlainCountsUptoSaid (see the last file): no condition.
-/
import Derived.Test.YthllacimcjakdaaGreatIpcD
set_option linter.all false
set_option linter.unusedVariables false
set_option linter.unusedSimpArgs false
set_option linter.unusedSectionVars false
set_option maxRecDepth 10000
set_option maxHeartbeats 4000000
namespace Go.Abs
open Go.Proofs
theorem LY (b:Nat) (ga:Hd) (gb:Hd) (gc:Hd) (gd:Hd) (ge:Hd) (gf:Hd) (n:Zx) (s:Z4) (L:ZJ) (ln:List Int) (q:Int) (i:Nat) (kb0:Z6) (m:List Int) (hn:Xd n:=by exact ob) (hk:Xx n.decls L q:=by exact ob) (hf:AA n L.vars s:=by exact ob) (hop:s.op=7∨s.op=8:=by exact ob) (hkb:s.kids[i]? = some kb0:=by exact ob) (harm:(X7 n.decls s.op s.num)[i]? = some m:=by exact ob) (hbt:0<=YV n (L.vars++m) kb0:=by exact ob) (hb:L.vars.length+4*s.sz<=1000000000:=by exact ob) (hq:0<=q/\q+4*s.sz<=999999990:=by exact ob) (hln:ln.length<=4294967296:=by exact ob) (ih:∀(b2:Z6) (c:Nat) (ra:Hd) (rb:Hd) (rc:Hd) (rd:Hd) (re:Hd) (rf:Hd) (M:ZJ) (mm:Nat) (p:Int),(b2.sz<s.sz)->(Xx n.decls M p)->(0<=YV n M.vars b2)->(mm<=M.vars.length)->(M.vars.length+4*b2.sz<=1000000000)->(0<=p/\p+4*b2.sz<=999999990)->Zi Tryz.prog 270 [.p c 0,ZD n,Zs b2,.i mm] [.obj c [.h ra,.h rb,.h rc,.h rd,.h re,.h rf,Z0 ln],rV ra M.vars,rV rb M.own,rV rc M.par,rV rd M.con,rV re M.fst,rV rf M.tok] (fun r h=>(∃(wa:Hd) (wb:Hd) (wc:Hd) (wd:Hd) (we:Hd) (wf:Hd) (M':ZJ),r=.b true/\h=[.obj c [.h wa,.h wb,.h wc,.h wd,.h we,.h wf,Z0 ln],rV wa M'.vars,rV wb M'.own,rV wc M'.par,rV wd M'.con,rV we M'.fst,rV wf M'.tok]/\VE n ln M mm b2=some M')∨(r=.b false/\h=[]/\VE n ln M mm b2=none))):Zi Tryz.prog 262 [.p b 0,ZD n,Y3 s,.i i] [.obj b [.h ga,.h gb,.h gc,.h gd,.h ge,.h gf,Z0 ln],rV ga L.vars,rV gb L.own,rV gc L.par,rV gd L.con,rV ge L.fst,rV gf L.tok] (fun r h=>(∃(c:Nat) (wa:Hd) (wb:Hd) (wc:Hd) (wd:Hd) (we:Hd) (wf:Hd) (L':ZJ),r=.tup [.p c 0,.b true]/\h=[.obj c [.h wa,.h wb,.h wc,.h wd,.h we,.h wf,Z0 ln],rV wa L'.vars,rV wb L'.own,rV wc L'.par,rV wd L'.con,rV we L'.fst,rV wf L'.tok,.obj b [.h ga,.h gb,.h gc,.h gd,.h ge,.h gf,Z0 ln],rV ga L.vars,rV gb L.own,rV gc L.par,rV gd L.con,rV ge L.fst,rV gf L.tok]/\VE n ln (T1 n.decls L s.op s.num s.args i) L.vars.length kb0=some L')∨(r=.tup [.any,.b false]/\h=[.obj b [.h ga,.h gb,.h gc,.h gd,.h ge,.h gf,Z0 ln],rV ga L.vars,rV gb L.own,rV gc L.par,rV gd L.con,rV ge L.fst,rV gf L.tok]/\VE n ln (T1 n.decls L s.op s.num s.args i) L.vars.length kb0=none)):=by
 obtain ⟨e1,e2,e3,e4,e5⟩:=hk.len
 have Xu:=hn.decls
 have hkz:=Uz s
 have haz:=Qg s
 have hK:=E3 hk hq.1 hf hop harm
 have hm3:=HU Xu harm
 have hkl:=(XM.1 hkb).1
 have hks:=Uy hkb
 refine ZK 83 Tryz.func262 (ar (iA (ZU n) ?_))
 intro b1
 refine iA (Yg s) ?_
 intro b2
 refine ir 2 [(0,.p b 0),(3,.i i),(5,.p b1 0),(6,.p b2 0)] (ie (ar (Yl 4 18 (.h ga) [2] [b] (Zq (Jw 3 ga L.vars) (Z1 1 10 (.i L.vars.length) (ie (ar (Z1 1 20 (.p b 0) (ic [2,2,2,2,2,2,2] (Z30 b ga gb gc gd ge gf L ln (hlk:=hk.len)) ?_)))))))))
 rintro _ _ ⟨c1,wa1,wb1,wc1,wd1,we1,wf1,rfl,rfl⟩
 refine Z1 1 11 (.p c1 0) (ie (aq (ar (Yl 3 24 (.b (s.op==8)) [14] [b2] (ie (ac (s.op==8) Zh (fun Ze=>?_) (fun Ze=>?_)))))))
 ·obtain ⟨x,hxa⟩:=hf.one om
  have ha:s.args[0]? = some x:=by rw [hxa];rfl
  have hx:=hf.args x (by rw [hxa];simp)
  obtain ⟨cc,hcc,hmc⟩:=P1 Ze harm
  have hal:=(XM.1 ha).1
  have hcl:=(XM.1 hcc).1
  have hm4:=hm3
  rw [hmc] at hm4
  refine ar (ZY 4 26 (Zd n.decls) 28 (.i s.num) [15,14] [b1,b2] (ic [] (KS n.decls s.num) ?_))
  rintro _ _ ⟨v1,rfl,rfl⟩
  refine Z1 1 30 (.i i) (Zq (Zm (some v1) (i:Int) 1 (Y4 hcc)) (Z1 2 12 (.i cc) (ie (ar (ZY 3 34 (Zd n.decls) 35 (.i cc) [16] [b1] (ZA [] (Qr n.decls cc) (Z1 1 13 (Z0 (ZC n.decls cc)) (ie (aD 11 (Y6 5 11 [0,1,2,3,4,5] (.n 40 (.h wd1) (.n 42 (Z0 s.args) .r)) [1,15] [c1,b2] (dx 6 (Zm none 0 1 (Y4 ha)) (Y0 2 4 [7,8] (.n 44 (.i x) (.n 45 (.i cc) .r)) (dx 9 (Vo 5 wd1 L.con x x.toNat (hq:=rfl)) (Z9 10 (JT 10 5 [] [] wd1 L.con x.toNat cc (de (aD 11 (Y6 5 11 [0,1,2,3,4,5] (.n 50 (.h we1) (.n 52 (Z0 s.args) .r)) [2,15] [c1,b2] (dx 6 (Zm none 0 1 (Y4 ha)) (Y0 2 4 [7,8] (.n 54 (.i x) (.n 55 (.i L.vars.length) .r)) (dx 9 (Vo 6 we1 L.fst x x.toNat (hq:=rfl)) (Z9 10 (JT 10 6 [] [] we1 L.fst x.toNat (L.vars.length:Int) (de (ar (Z1 1 14 (.i 0) (ie (ab 0 (al (fun m F h=>∃(k:Nat) (L3:ZJ) (ka:Hd) (kb:Hd) (kc:Hd) (kd:Hd) (ke:Hd) (kf:Hd),(k<=(ZC n.decls cc).length)/\(UH L3)/\(L3.vars.length=L.vars.length+k)/\(AS L3 x ((ZC n.decls cc).drop k)=AF n.decls L x cc)/\F=[(3,.i i),(5,.p b1 0),(6,.p b2 0),(10,.i L.vars.length),(11,.p c1 0),(13,Z0 (ZC n.decls cc)),(14,.i k)]/\h=[.obj c1 [.h ka,.h kb,.h kc,.h kd,.h ke,.h kf,Z0 ln],.obj b [.h ga,.h gb,.h gc,.h gd,.h ge,.h gf,Z0 ln],rV ga L.vars,rV gb L.own,rV gc L.par,rV gd L.con,rV ge L.fst,rV gf L.tok,.obj b2 (Yg s),.obj b1 (ZU n),rV ka L3.vars,rV kb L3.own,rV kc L3.par,rV kd L3.con,rV ke L3.fst,rV kf L3.tok]/\m=(ZC n.decls cc).length-k) _ _ _ ⟨0,(ZJ.mk L.vars L.own L.par (L.con.set x.toNat cc) (L.fst.set x.toNat (L.vars.length:Int)) L.tok),wa1,wb1,wc1,wd1,we1,wf1,ob,(UH.arm hk.len),ob,(by rw [AF];rfl),rfl,rfl,rfl⟩ (wk [3,7,7,7,7,7,7,7,7,7,3,3,3,1,0,1] (fq (fw (Ya fl))) (e:=(rc (rc (rc (rc (rc (rc (rc (rc (rc (rc (rv (xs:=L.vars) ob (rv (xs:=L.own) ob (rv (xs:=L.par) ob (rv (xs:=(L.con.set x.toNat cc)) ob (rv (xs:=(L.fst.set x.toNat (L.vars.length:Int))) ob (rv (xs:=L.tok) ob rz)))))))))))))))))) ?_)))))))))))))))))))))))))))))
  rintro m F h ⟨k,L3,ka,kb,kc,kd,ke,kf,Yj,Zp,Zy,YJ,rfl,rfl,rfl⟩
  refine aq (ar (Yq 2 57 (.i k) 58 (Z0 (ZC n.decls cc)) (io (.i (((ZC n.decls cc).length:Nat):Int)) (.i (((Z8 (ZC n.decls cc)).length:Nat):Int)) (li (by rw [Yh])) (Z1 1 60 (.b (decide ((k:Int)<(((ZC n.decls cc).length:Nat):Int)))) (ie (ZM ((k:Int)<(((ZC n.decls cc).length:Nat):Int)) (fun Zk=>?_) (fun Zk=>?_)))))))
  ·refine ak (aq (ab 1 (aE 10 (Y0 7 10 [0,1,2] (.n 63 (.p c1 0) (.n 64 (Z0 (ZC n.decls cc)) (.n 65 (.i k) .r))) ?_))))
   obtain ⟨x1,Z3⟩:=Zr (xs:=ZC n.decls cc) (j:=k) om
   refine dx 3 (Zm none (k:Int) 1 (Y4 Z3)) (Y6 3 6 [4,5,6] (.n 67 (.i x1) (.n 69 (Z0 s.args) .r)) [8] [b2] (dx 7 (Zm none 0 1 (Y4 ha)) (ZZ 1 2 [8] 71 (.i x) (Z9 9 (dc 9 [0,9,9,9,9,9,9] [] [] (Qn c1 ka kb kc kd ke kf L3 ln x1 0 x (hlk:=Zp)) ?_)))))
   rintro _ _ ⟨wa2,wb2,wc2,wd2,we2,wf2,rfl⟩
   refine de (az (Z5 1 (.n 61 (.i k) (.p .r)) (ZL k (Z5 1 (.n 14 (.i (k+1:Nat)) (.p (.d (.d (.p (.d (.d (.p (.d (.d (.d (.d (.p (.d (.d (.w (.k (.k .z)))))))))))))))))) (ie ?_)))))
   exact ZO ⟨k+1,(L3.grow x1 0 x),wa2,wb2,wc2,wd2,we2,wf2,ob,(UH.grow Zp),(by simp [ZJ.grow];omega),(by rw [Y8 Z3,AS] at YJ;exact YJ),rfl,rfl,rfl⟩ (wk [0,6,6,6,6,6,6,6,6,6,0,0,0,0,0,0] (fq (fw (ZQ k fl))))
  have hE:T1 n.decls L s.op s.num s.args i=L3:=by rw [Z2i Ze ha hcc,<-YJ,Xb om];rfl
  refine ax 0 (aD 12 (Y6 6 12 [0,1,2,3,4,5] (.n 73 (.p c1 0) (.n 74 (.p c1 0) (.n 75 (ZD n) (.n 77 (Yu s.kids) (.n 78 (.i i) .r))))) [9,8] [b1,b2] (dx 6 (Zm none (i:Int) 2 (U5 hkb)) (Y0 3 5 [7,8] (.n 80 (Zs kb0) (.n 81 (.i L.vars.length) .r)) (Z9 9 (dc 9 [0,9,9,9,9,9,9] [] [] (ih kb0 c1 ka kb kc kd ke kf L3 L.vars.length q ob (by rw [<-hE];exact hK.1) (by rw [<-hE,hK.2];exact hbt) (by rw [<-hE,hK.2];simp) (by rw [<-hE,hK.2,Yz];omega) ob) ?_))))))
  rintro _ _ (⟨wa3,wb3,wc3,wd3,we3,wf3,M'1,rfl,rfl,ZP⟩|⟨rfl,rfl,Y1⟩)
  ·refine Xa 0 2 [10,11] [(8,.p c1 0),(9,.b true)] (de ?_)
   exact Zb (r2 [0,0,0,0,0,0,0,0,0,0,0,0,0,0] [.p c1 0,.b true] (.inl ⟨c1,wa3,wb3,wc3,wd3,we3,wf3,M'1,rfl,rfl,(by rw [hE];exact ZP)⟩) (lr _))
  refine Xa 0 2 [10,11] [(8,.p c1 0),(9,.b false)] (de ?_)
  exact Zb (r2 [0,0,0,0,0,0,0] [.p c1 0,.b false] (.inr ⟨rfl,rfl,(by rw [hE];exact Y1)⟩) (Zg.tup (.cons (Zg.any _) (.cons (lr _) .nil))))
 have hE:=Z2j (ds:=n.decls) (L:=L) (num:=s.num) (args:=s.args) (i:=i) Ze
 refine ak (aD 12 (Y6 6 12 [0,1,2,3,4,5] (.n 73 (.p c1 0) (.n 74 (.p c1 0) (.n 75 (ZD n) (.n 77 (Yu s.kids) (.n 78 (.i i) .r))))) [15,14] [b1,b2] (dx 6 (Zm none (i:Int) 2 (U5 hkb)) (Y0 3 5 [7,8] (.n 80 (Zs kb0) (.n 81 (.i L.vars.length) .r)) (Z9 9 (dc 9 [0,0,0,0,0,0,0] [] [] (ih kb0 c1 wa1 wb1 wc1 wd1 we1 wf1 L L.vars.length q ob (by rw [<-hE];exact hK.1) (by rw [<-hE,hK.2];exact hbt) (by rw [<-hE,hK.2];simp) (by rw [<-hE,hK.2,Yz];omega) ob) ?_))))))
 rintro _ _ (⟨wa4,wb4,wc4,wd4,we4,wf4,M'2,rfl,rfl,Yy⟩|⟨rfl,rfl,YK⟩)
 ·refine Xa 0 2 [10,11] [(8,.p c1 0),(9,.b true)] (de ?_)
  exact Zb (r2 [0,0,0,0,0,0,0,0,0,0,0,0,0,0] [.p c1 0,.b true] (.inl ⟨c1,wa4,wb4,wc4,wd4,we4,wf4,M'2,rfl,rfl,(by rw [hE];exact Yy)⟩) (lr _))
 refine Xa 0 2 [10,11] [(8,.p c1 0),(9,.b false)] (de ?_)
 exact Zb (r2 [0,0,0,0,0,0,0] [.p c1 0,.b false] (.inr ⟨rfl,rfl,(by rw [hE];exact YK)⟩) (Zg.tup (.cons (Zg.any _) (.cons (lr _) .nil))))
theorem Z2z (b:Nat) (ga:Hd) (gb:Hd) (gc:Hd) (gd:Hd) (ge:Hd) (gf:Hd) (n:Zx) (s:Z4) (L:ZJ) (ln:List Int) (q:Int) (hn:Xd n:=by exact ob) (hk:Xx n.decls L q:=by exact ob) (hf:AA n L.vars s:=by exact ob) (hop:s.op=7∨s.op=8:=by exact ob) (hb:L.vars.length+4*s.sz<=1000000000:=by exact ob) (hq:0<=q/\q+4*s.sz<=999999990:=by exact ob) (hln:ln.length<=4294967296:=by exact ob) (ih:∀(b2:Z6) (c:Nat) (ra:Hd) (rb:Hd) (rc:Hd) (rd:Hd) (re:Hd) (rf:Hd) (M:ZJ) (mm:Nat) (p:Int),(b2.sz<s.sz)->(Xx n.decls M p)->(0<=YV n M.vars b2)->(mm<=M.vars.length)->(M.vars.length+4*b2.sz<=1000000000)->(0<=p/\p+4*b2.sz<=999999990)->Zi Tryz.prog 270 [.p c 0,ZD n,Zs b2,.i mm] [.obj c [.h ra,.h rb,.h rc,.h rd,.h re,.h rf,Z0 ln],rV ra M.vars,rV rb M.own,rV rc M.par,rV rd M.con,rV re M.fst,rV rf M.tok] (fun r h=>(∃(wa:Hd) (wb:Hd) (wc:Hd) (wd:Hd) (we:Hd) (wf:Hd) (M':ZJ),r=.b true/\h=[.obj c [.h wa,.h wb,.h wc,.h wd,.h we,.h wf,Z0 ln],rV wa M'.vars,rV wb M'.own,rV wc M'.par,rV wd M'.con,rV we M'.fst,rV wf M'.tok]/\VE n ln M mm b2=some M')∨(r=.b false/\h=[]/\VE n ln M mm b2=none))):Zi Tryz.prog 235 [.p b 0,ZD n,Y3 s] [.obj b [.h ga,.h gb,.h gc,.h gd,.h ge,.h gf,Z0 ln],rV ga L.vars,rV gb L.own,rV gc L.par,rV gd L.con,rV ge L.fst,rV gf L.tok] (fun r h=>(∃(wa:Hd) (wb:Hd) (wc:Hd) (wd:Hd) (we:Hd) (wf:Hd) (L':ZJ),r=.b true/\h=[.obj b [.h wa,.h wb,.h wc,.h wd,.h we,.h wf,Z0 ln],rV wa L'.vars,rV wb L'.own,rV wc L'.par,rV wd L'.con,rV we L'.fst,rV wf L'.tok]/\AH n ln L s=some L')∨(r=.b false/\h=[]/\AH n ln L s=none)):=by
 obtain ⟨e1,e2,e3,e4,e5⟩:=hk.len
 have Xu:=hn.decls
 have hkz:=Uz s
 have haz:=Qg s
 obtain ⟨hk1,hk2,hk3⟩:=hf.kids hop
 obtain ⟨kd,hkd⟩:=Zr (xs:=s.kids) (j:=0) om
 obtain ⟨m0,hm0⟩:=Zr (xs:=X7 n.decls s.op s.num) (j:=0) om
 obtain ⟨x,hxa⟩:=hf.one om
 have ha:s.args[0]? = some x:=by rw [hxa];rfl
 have hx:=hf.args x (by rw [hxa];simp)
 have hgx:=Jf ha
 have hal:=(XM.1 ha).1
 refine ZK 88 Tryz.func235 (ar (iA (ZU n) ?_))
 intro b1
 refine iA (Yg s) ?_
 intro b2
 refine ir 1 [(0,.p b 0),(4,.p b1 0),(5,.p b2 0)] (ie (aq (ar (Xo [(0,.p b 0),(4,.p b1 0),(5,.p b2 0),(23,.b ((s.op==8)&&(!VD L ln x)))] [.obj b [.h ga,.h gb,.h gc,.h gd,.h ge,.h gf,Z0 ln],rV ga L.vars,rV gb L.own,rV gc L.par,rV gd L.con,rV ge L.fst,rV gf L.tok,.obj b2 (Yg s),.obj b1 (ZU n)] ?_ ?_))))
 ·refine iR 4 [(0,.p b 0),(4,.p b1 0),(5,.p b2 0),(15,.b (s.op==8))] [0] [b2] (ib (b:=(s.op==8)) 15 (fun Za=>?_) (fun Za=>?_))
  ·have ZP:s.op=8:=(Zh).1 Za
   refine Y2 3 (.n 16 (.p b 0) (.n 18 (Z0 s.args) (.w .z))) [0] [b2] (Zq (Zm none 0 1 (Y4 ha)) (Z1 1 20 (.i x) (ZA [2,2,2,2,2,2,2] (E5 b ga gb gc gd ge gf L ln x (hlk:=hk.len) (hd:=hk.down)) (Z1 2 23 (.b (!VD L ln x)) (ie ?_)))))
   exact ZT 9 (fw (fr (Zu (!VD L ln x) Za fl)))
  have Y1:¬(s.op=8):=ZI Zh Za
  refine Z5 8 (.n 23 (.b false) (.d (.k (.k (.k .z))))) (ie ?_)
  exact wk [2,2,2,2,2,2,2,0,0] (fw (fr (Zu false Za fl)))
 refine ac ((s.op==8)&&(!VD L ln x)) (p:=(s.op=8)/\(¬(VD L ln x=true))) (YD Zh (Yw Iff.rfl)) (fun Ze=>?_) (fun Ze=>?_)
 ·refine ar (ir 1 [(6,.b false)] (ie ?_))
  exact Zb (r1 [] (.inr ⟨rfl,rfl,(by rw [AH,Zo (by rw [hgx];exact Ze)])⟩))
 have hgo:=Pj (n:=n) (ln:=ln) (L:=L) (s:=s) (by rw [hgx];exact Ze) hkd
 refine ak (ar (iR 3 [(0,.p b 0),(4,.p b1 0),(5,.p b2 0),(25,.p b 0),(26,ZD n),(27,Y3 s)] [8,7] [b1,b2] (ic [0,0,0,0,0,0,0] (LY b ga gb gc gd ge gf n s L ln q 0 kd m0 (hkb:=hkd) (harm:=hm0) (hbt:=(hk3 0 kd m0 hkd hm0)) (ih:=ob)) ?_)))
 rintro _ _ (⟨c1,wa1,wb1,wc1,wd1,we1,wf1,L'1,rfl,rfl,Yy⟩|⟨rfl,rfl,YK⟩)
 ·have hone:=Yy
  obtain ⟨l1,l2⟩:=LQ hn hk hq.1 hf hop hkd hm0 (hk3 0 kd m0 hkd hm0) hone
  refine Yq 5 7 (.p c1 0) 8 (.b true) (ie (aq (ar (Z1 2 32 (.b false) (ie (WT (ak (aq (ar (Z1 1 9 (.i 1) (ie (ab 0 (al (fun m F h=>∃(k:Nat),(1<=k/\k<=s.kids.length)/\(Ke n ln L s.op s.num s.args L'1 (s.kids.drop k) k=Ke n ln L s.op s.num s.args L'1 (s.kids.drop 1) 1)/\F=[(0,.p b 0),(4,.p b1 0),(5,.p b2 0),(7,.p c1 0),(9,.i k)]/\h=[.obj c1 [.h wa1,.h wb1,.h wc1,.h wd1,.h we1,.h wf1,Z0 ln],rV wa1 L'1.vars,rV wb1 L'1.own,rV wc1 L'1.par,rV wd1 L'1.con,rV we1 L'1.fst,rV wf1 L'1.tok,.obj b [.h ga,.h gb,.h gc,.h gd,.h ge,.h gf,Z0 ln],rV ga L.vars,rV gb L.own,rV gc L.par,rV gd L.con,rV ge L.fst,rV gf L.tok,.obj b2 (Yg s),.obj b1 (ZU n)]/\m=s.kids.length-k) _ _ _ ⟨1,ob,ob,rfl,rfl,rfl⟩ (ZT 16 (fq (fc (x:=.i 1) li fl))) ?_)))))))))))))
  rintro m F h ⟨k,Yj,Zp,rfl,rfl,rfl⟩
  refine aq (ar (ZY 3 33 (.i k) 35 (Yu s.kids) [14] [b2] (iw (VG s.kids) (Z1 1 37 (.b (decide ((k:Int)<(s.kids.length:Int)))) (ie (ZM ((k:Int)<(s.kids.length:Int)) (fun Zk=>?_) (fun Zk=>?_)))))))
  ·obtain ⟨ke,hke⟩:=Zr (xs:=s.kids) (j:=k) om
   obtain ⟨mk,hmk⟩:=Zr (xs:=X7 n.decls s.op s.num) (j:=k) om
   have hcs:=Z2o (n:=n) (ln:=ln) (L:=L) (op:=s.op) (num:=s.num) (args:=s.args) (one:=L'1) hke
   refine ak (aq (ab 1 (ar (Y2 4 (.n 41 (.p b 0) (.n 42 (ZD n) (.n 43 (Y3 s) (.n 44 (.i k) .r)))) [15,14] [b1,b2] (ic [7,7,7,7,7,7,7] (LY b ga gb gc gd ge gf n s L ln q k ke mk (hkb:=hke) (harm:=hmk) (hbt:=(hk3 k ke mk hke hmk)) (ih:=ob)) ?_)))))
   rintro _ _ (⟨c2,wa2,wb2,wc2,wd2,we2,wf2,L'2,rfl,rfl,X0⟩|⟨rfl,rfl,XB⟩)
   ·have htwo:=X0
    obtain ⟨l3,l4⟩:=LQ hn hk hq.1 hf hop hke hmk (hk3 k ke mk hke hmk) htwo
    refine Yq 5 10 (.p c2 0) 11 (.b true) (ie (aD 26 (Y6 15 26 [0,1,2,3,4,5,6,7,8,9,10] (.n 50 (.b false) (.n 54 (.h wb1) (.n 58 (.h wb2) .r))) [14,0] [c1,c2] (Z9 11 (Kz 11 [16,2] [] [] [rV wb1 L'1.own,rV wb2 L'2.own] (NJ L'1.own L'2.own) Cb (gL (v:=wb1) 0 (gL (v:=wb2) 1 gN)) (Qo (Qo Kf)) ?_)))))
    rintro _ _ ⟨rfl,rfl⟩
    refine JU [(0,.p b 0),(4,.p b1 0),(5,.p b2 0),(7,.p c1 0),(9,.i k),(73,.b ((!(decide (L'1.own=L'2.own)))||(!(decide (L'1.tok=L'2.tok)))))] [rV wb1 L'1.own,rV wb2 L'2.own,.obj c2 [.h wa2,.h wb2,.h wc2,.h wd2,.h we2,.h wf2,Z0 ln],rV wa2 L'2.vars,rV wc2 L'2.par,rV wd2 L'2.con,rV we2 L'2.fst,rV wf2 L'2.tok,.obj b [.h ga,.h gb,.h gc,.h gd,.h ge,.h gf,Z0 ln],rV ga L.vars,rV gb L.own,rV gc L.par,rV gd L.con,rV ge L.fst,rV gf L.tok,.obj c1 [.h wa1,.h wb1,.h wc1,.h wd1,.h we1,.h wf1,Z0 ln],rV wa1 L'1.vars,rV wc1 L'1.par,rV wd1 L'1.con,rV we1 L'1.fst,rV wf1 L'1.tok,.obj b2 (Yg s),.obj b1 (ZU n)] ?_ ?_
    ·refine Xa 11 14 [12,13,14] [(0,.p b 0),(4,.p b1 0),(5,.p b2 0),(7,.p c1 0),(9,.i k),(10,.p c2 0),(62,.b (!(decide (L'1.own=L'2.own))))] (db (b:=(!(decide (L'1.own=L'2.own)))) 62 (fun Zz=>?_) (fun Zz=>?_))
     ·have Wk:¬(L'1.own=L'2.own):=((Yw dq)).1 Zz
      refine Y0 0 11 [15,16,17,18,19,20,21,22,23,24,25] (.n 73 (.b true) (.d (.w (.k .z)))) (de ?_)
      exact ZT 23 (fq (fr (Zu true Zz fl)))
     have WJ:¬(¬(L'1.own=L'2.own)):=ZI (Yw dq) Zz
     refine Y6 3 11 [15,16,17,18,19,20,21,22] (.n 66 (.h wf1) (.n 70 (.h wf2) (.w (.k (.k .z))))) [15,2] [c1,c2] (Z9 23 (Kz 23 [20,7] [] [] [rV wf1 L'1.tok,rV wf2 L'2.tok] (NJ L'1.tok L'2.tok) Cb (gL (v:=wf1) 0 (gL (v:=wf2) 1 gN)) (Qo (Qo Kf)) ?_))
     rintro _ _ ⟨rfl,rfl⟩
     refine ZZ 0 2 [24,25] 73 (.b (!(decide (L'1.tok=L'2.tok)))) (de ?_)
     exact wk [2,2,2,2,2,2,2,1,1,1,1,1,1,1,1,1,1,1,1,1,0,0,0] (fq (fr (Zu (!(decide (L'1.tok=L'2.tok))) Zz fl)))
    refine ac ((!(decide (L'1.own=L'2.own)))||(!(decide (L'1.tok=L'2.tok)))) (p:=(¬(L'1.own=L'2.own))∨(¬(L'1.tok=L'2.tok))) (Yo (Yw dq) (Yw dq)) (fun ZG=>?_) (fun ZG=>?_)
    ·refine ar (ir 1 [(6,.b false)] (ie ?_))
     exact Zb (r1 [] (.inr ⟨rfl,rfl,(by rw [hgo,hone];exact M7 (by rw [<-Zp,hcs,htwo];exact Z5t ZG))⟩))
    refine ak (az (ir 1 [(0,.p b 0),(4,.p b1 0),(5,.p b2 0),(7,.p c1 0),(38,.i k)] (ZL k (Z1 1 9 (.i (k+1:Nat)) (ie ?_)))))
    exact ZO ⟨k+1,ob,(by rw [hcs,htwo,Z5u ZG] at Zp;exact Zp),rfl,rfl,rfl⟩ (wk [15,15,0,14,14,14,14,7,7,7,7,7,7,7,7,7] (fq (ZQ k fl)))
   have htwo:=XB
   refine Z1 5 11 (.b false) (ie (aD 26 (ZZ 0 26 [0,1,2,3,4,5,6,7,8,9,10,11,12,13,14,15,16,17,18,19,20,21,22,23,24,25] 73 (.b true) (de (WU (ar (ir 1 [(6,.b false)] (ie ?_))))))))
   exact Zb (r1 [] (.inr ⟨rfl,rfl,(by rw [hgo,hone];exact M7 (by rw [<-Zp,hcs,htwo];rfl))⟩))
  have hE:Ke n ln L s.op s.num s.args L'1 (s.kids.drop 1) 1=true:=by rw [<-Zp,Xb om,Ke]
  refine ax 0 (ar (ZY 7 78 (.h wb1) 80 (.p b 1) [0] [c1] (ZF 7 b [.h ga,.h wb1,.h gc,.h gd,.h ge,.h gf,Z0 ln] (ie (ar (iR 7 [(85,.h wf1),(87,.p b 5)] [1] [c1] (ZF 0 b [.h ga,.h wb1,.h gc,.h gd,.h ge,.h wf1,Z0 ln] (ie (ar (ir 1 [(6,.b true)] (ie ?_)))))))))))
  exact Zb (r1 [0,7,2,7,7,7,5] (.inl ⟨ga,wb1,gc,gd,ge,wf1,(ZJ.mk L.vars L'1.own L.par L.con L.fst L'1.tok),rfl,rfl,(by rw [hgo,hone];exact Z3d hE)⟩) (eq:=(rc (rv (xs:=L.vars) ob (rv (xs:=L'1.own) ob (rv (xs:=L.par) ob (rv (xs:=L.con) ob (rv (xs:=L.fst) ob (rv (xs:=L'1.tok) ob rz)))))))))
 have hone:=YK
 refine Z1 5 8 (.b false) (ie (aq (ar (Z1 2 32 (.b true) (ie (WU (ar (ir 1 [(6,.b false)] (ie ?_)))))))))
 exact Zb (r1 [] (.inr ⟨rfl,rfl,(by rw [hgo,hone];rfl)⟩))
theorem LZ (b:Nat) (ga:Hd) (gb:Hd) (gc:Hd) (gd:Hd) (ge:Hd) (gf:Hd) (n:Zx) (s:Z4) (L:ZJ) (ln:List Int) (q:Int) (hn:Xd n:=by exact ob) (hk:Xx n.decls L q:=by exact ob) (ht:0<=ZV n L.vars s:=by exact ob) (hb:L.vars.length+4*s.sz<=1000000000:=by exact ob) (hq:0<=q/\q+4*s.sz<=999999990:=by exact ob) (hln:ln.length<=4294967296:=by exact ob) (ih:∀(b2:Z6) (c:Nat) (ra:Hd) (rb:Hd) (rc:Hd) (rd:Hd) (re:Hd) (rf:Hd) (M:ZJ) (mm:Nat) (p:Int),(b2.sz<s.sz)->(Xx n.decls M p)->(0<=YV n M.vars b2)->(mm<=M.vars.length)->(M.vars.length+4*b2.sz<=1000000000)->(0<=p/\p+4*b2.sz<=999999990)->Zi Tryz.prog 270 [.p c 0,ZD n,Zs b2,.i mm] [.obj c [.h ra,.h rb,.h rc,.h rd,.h re,.h rf,Z0 ln],rV ra M.vars,rV rb M.own,rV rc M.par,rV rd M.con,rV re M.fst,rV rf M.tok] (fun r h=>(∃(wa:Hd) (wb:Hd) (wc:Hd) (wd:Hd) (we:Hd) (wf:Hd) (M':ZJ),r=.b true/\h=[.obj c [.h wa,.h wb,.h wc,.h wd,.h we,.h wf,Z0 ln],rV wa M'.vars,rV wb M'.own,rV wc M'.par,rV wd M'.con,rV we M'.fst,rV wf M'.tok]/\VE n ln M mm b2=some M')∨(r=.b false/\h=[]/\VE n ln M mm b2=none))):Zi Tryz.prog 204 [.p b 0,ZD n,Y3 s] [.obj b [.h ga,.h gb,.h gc,.h gd,.h ge,.h gf,Z0 ln],rV ga L.vars,rV gb L.own,rV gc L.par,rV gd L.con,rV ge L.fst,rV gf L.tok] (fun r h=>(∃(wa:Hd) (wb:Hd) (wc:Hd) (wd:Hd) (we:Hd) (wf:Hd) (L':ZJ),r=.b true/\h=[.obj b [.h wa,.h wb,.h wc,.h wd,.h we,.h wf,Z0 ln],rV wa L'.vars,rV wb L'.own,rV wc L'.par,rV wd L'.con,rV we L'.fst,rV wf L'.tok]/\TN n ln L s=some L')∨(r=.b false/\h=[]/\TN n ln L s=none)):=by
 obtain ⟨e1,e2,e3,e4,e5⟩:=hk.len
 have Xu:=hn.decls
 have hkz:=Uz s
 have haz:=Qg s
 have hf:=O0 ht
 refine ZK 89 Tryz.func204 (ar (iA (ZU n) ?_))
 intro b1
 refine iA (Yg s) ?_
 intro b2
 refine ir 1 [(0,.p b 0),(4,.p b1 0),(5,.p b2 0)] (ie (aD 8 (Y6 2 8 [0,1,2,3,4,5] (.n 9 (ZD n) (.n 13 (.h ga) (.n 14 (Y3 s) .r))) [1,2,0] [b1,b,b2] (Z9 6 (Kz 6 [3] [] [] [rV ga L.vars] (Hl n L.vars s ob ob) Cb (gS (gL (v:=ga) 0 (gS gN))) (Qo Kf) ?_)))))
 rintro _ _ ⟨rfl,rfl⟩
 refine ZZ 0 1 [7] 7 (.i (ZV n L.vars s)) (de (ar (Z5 1 .r (ie (aq (ar (Yl 2 17 (.i s.op) [1] [b2] (ie (ab 0 (ar (Z1 2 22 (.b (s.op==14)) (ie (ac (s.op==14) Zh (fun Ze=>?_) (fun Ze=>?_))))))))))))))
 ·obtain ⟨x,hxa⟩:=hf.one om
  have ha:s.args[0]? = some x:=by rw [hxa];rfl
  have hx:=hf.args x (by rw [hxa];simp)
  have hgx:=Jf ha
  have hal:=(XM.1 ha).1
  obtain ⟨xo,hxo⟩:=Zr (xs:=L.own) (j:=x.toNat) om
  have hgo:=UK hxo
  have hob:=hk.bd xo (Y7 hxo)
  have hon:=hk.nn xo (Y7 hxo)
  refine ar (ZY 3 24 (.p b 0) 26 (Z0 s.args) [1] [b2] (Zq (Zm none 0 1 (Y4 ha)) (Z1 1 28 (.i x) (ZA [3,0,2,2,2,2,2] (E5 b ga gb gc gd ge gf L ln x (hlk:=hk.len) (hd:=hk.down)) (Z1 1 8 (.b (VD L ln x)) (ie (aE 21 (Y6 15 21 [0,1,2,3,4,5] (.n 33 (.h gb) (.n 35 (Z0 s.args) .r)) [0,7] [b,b2] (dx 6 (Zm none 0 1 (Y4 ha)) (Y6 7 14 [7,8,9,10,11,12,13] (.n 37 (.i x) (.n 41 (.h gb) (.n 43 (Z0 s.args) .r))) [0,7] [b,b2] (dx 14 (Zm none 0 1 (Y4 ha)) (ZZ 5 6 [15] 45 (.i x) (dx 16 (Vo 2 gb L.own x x.toNat (hq:=rfl)) (VT 17 (Tj 2 gb L.own x.toNat xo hxo) (da 18 ((xo+1)) ((xo)+(1)) (dx 19 (Vo 2 gb L.own x x.toNat (hq:=rfl)) (Z9 20 (JT 20 2 [] [] gb L.own x.toNat (xo+1) (de (aq (ar (Z1 2 73 (.b (!VD L ln x)) (ie (ac (!VD L ln x) (p:=¬(VD L ln x=true)) (Yw Iff.rfl) (fun Zk=>?_) (fun Zk=>?_)))))))))))))))))))))))))
  ·have hP:=(MB (n:=n) (ln:=ln) (L:=L) Ze hgx).trans (Rm Zk)
   refine ar (ir 1 [(6,.b false)] (ie ?_))
   exact Zb (r1 [] (.inr ⟨rfl,rfl,(by rw [UD,hP];first|rfl|exact Ut (by assumption)|exact Uu (by assumption) (by assumption)|exact Uv (by assumption))⟩))
  have hP:=(MB (n:=n) (ln:=ln) (L:=L) Ze hgx).trans (Rn Zk hgo)
  obtain ⟨kx,hxv⟩:=CP hn hk hq.1 hf hP
  refine ak (aq (ar (Yl 2 75 (.i s.op) [7] [b2] (ZA [] (QW s.op) (Xo [(0,.p b 0),(5,.p b2 0),(7,.i (ZV n L.vars s)),(80,.b (Xe s.op&&((ZV n L.vars s) != 0)))] [rV gb (L.own.set x.toNat (xo+1)),.obj b [.h ga,.h gb,.h gc,.h gd,.h ge,.h gf,Z0 ln],rV ga L.vars,rV gc L.par,rV gd L.con,rV ge L.fst,rV gf L.tok,.obj b2 (Yg s),.obj b1 (ZU n)] ?_ ?_)))))
  ·refine ir 1 [(0,.p b 0),(5,.p b2 0),(7,.i (ZV n L.vars s)),(77,.b (Xe s.op))] (ib (b:=Xe s.op) 77 (fun Za=>?_) (fun Za=>?_))
   ·have ZP:Xe s.op=true:=(Iff.rfl).1 Za
    refine Z5 3 (.n 80 (.b ((ZV n L.vars s) != 0)) (.d (.k (.k (.k .z))))) (ie ?_)
    exact ZT 9 (fw (fr (Zu ((ZV n L.vars s) != 0) Za fl)))
   have Y1:¬(Xe s.op=true):=ZI Iff.rfl Za
   refine Z5 3 (.n 80 (.b false) (.d (.k (.k (.k .z))))) (ie ?_)
   exact ZT 9 (fw (fr (Zu false Za fl)))
  refine ac (Xe s.op&&((ZV n L.vars s) != 0)) (p:=(Xe s.op=true)/\((ZV n L.vars s)≠0)) (YD Iff.rfl Yi) (fun ZG=>?_) (fun ZG=>?_)
  ·refine az (ir 2 [(81,.p b 0),(82,.i (ZV n L.vars s))] (ic [1,1,0,0,0,0,0] (Qn b ga gb gc gd ge gf (ZJ.mk L.vars (L.own.set x.toNat (xo+1)) L.par L.con L.fst L.tok) ln (ZV n L.vars s) 1 (-1) (hlb:=(by rw [hxv];omega)) (hlk:=kx.len)) ?_))
   rintro _ _ ⟨wa1,wb1,wc1,wd1,we1,wf1,rfl⟩
   refine ie (ar (ir 1 [(6,.b true)] (ie ?_)))
   exact Zb (r1 [0,0,0,0,0,0,0] (.inl ⟨wa1,wb1,wc1,wd1,we1,wf1,((ZJ.mk L.vars (L.own.set x.toNat (xo+1)) L.par L.con L.fst L.tok).grow (ZV n L.vars s) 1 (-1)),rfl,rfl,(by rw [UD,hP];first|rfl|exact Ut (by assumption)|exact Uu (by assumption) (by assumption)|exact Uv (by assumption))⟩))
  refine ar (iR 2 [(0,.p b 0),(85,.i s.op)] [7] [b2] (ZA [] (QW s.op) (ie (ac (Xe s.op) Iff.rfl (fun Ym=>?_) (fun Ym=>?_)))))
  ·refine az (ir 1 [(87,.p b 0)] (ic [1,1,0,0,0,0,0] (Qn b ga gb gc gd ge gf (ZJ.mk L.vars (L.own.set x.toNat (xo+1)) L.par L.con L.fst L.tok) ln 0 0 (-1) (hlb:=(by rw [hxv];omega)) (hlk:=kx.len)) ?_))
   rintro _ _ ⟨wa2,wb2,wc2,wd2,we2,wf2,rfl⟩
   refine ie (ar (ir 1 [(6,.b true)] (ie ?_)))
   exact Zb (r1 [0,0,0,0,0,0,0] (.inl ⟨wa2,wb2,wc2,wd2,we2,wf2,((ZJ.mk L.vars (L.own.set x.toNat (xo+1)) L.par L.con L.fst L.tok).grow 0 0 (-1)),rfl,rfl,(by rw [UD,hP];first|rfl|exact Ut (by assumption)|exact Uu (by assumption) (by assumption)|exact Uv (by assumption))⟩))
  refine ak (ar (ir 1 [(6,.b true)] (ie ?_)))
  exact Zb (r1 [1,1,0,0,0,0,0] (.inl ⟨ga,gb,gc,gd,ge,gf,(ZJ.mk L.vars (L.own.set x.toNat (xo+1)) L.par L.con L.fst L.tok),rfl,rfl,(by rw [UD,hP];first|rfl|exact Ut (by assumption)|exact Uu (by assumption) (by assumption)|exact Uv (by assumption))⟩) (eq:=(rc (rv (xs:=L.vars) ob (rv (xs:=(L.own.set x.toNat (xo+1))) ob (rv (xs:=L.par) ob (rv (xs:=L.con) ob (rv (xs:=L.fst) ob (rv (xs:=L.tok) ob rz)))))))))
 refine ar (Z1 2 50 (.b (s.op==15)) (ie (ac (s.op==15) Zh (fun Xi=>?_) (fun Xi=>?_))))
 ·obtain ⟨x,hxa⟩:=hf.one om
  have ha:s.args[0]? = some x:=by rw [hxa];rfl
  have hx:=hf.args x (by rw [hxa];simp)
  have hgx:=Jf ha
  have hal:=(XM.1 ha).1
  refine az (ZY 3 52 (.p b 0) 54 (Z0 s.args) [1] [b2] (Zq (Zm none 0 1 (Y4 ha)) (Z1 1 56 (.i x) (ic [3,0,2,2,2,2,2] (E6 b ga gb gc gd ge gf L ln x (hlk:=hk.len) (hq:=(fun y hy=>⟨hk.nn y hy,by have:=hk.bd y hy;omega⟩))) ?_))))
  rintro _ _ (⟨wa3,wb3,wc3,wd3,we3,wf3,L'1,rfl,rfl,Yy⟩|⟨rfl,rfl,YK⟩)
  ·have hP:=(MC (n:=n) (ln:=ln) (L:=L) Xi hgx).trans (Yy)
   obtain ⟨kx,hxv⟩:=CP hn hk hq.1 hf hP
   refine Z1 1 8 (.b true) (ie (aq (ar (Z1 2 73 (.b false) (ie (WT (ak (aq (ar (Yl 2 75 (.i s.op) [7] [b2] (ZA [] (QW s.op) (Xo [(0,.p b 0),(5,.p b2 0),(7,.i (ZV n L.vars s)),(80,.b (Xe s.op&&((ZV n L.vars s) != 0)))] [.obj b [.h wa3,.h wb3,.h wc3,.h wd3,.h we3,.h wf3,Z0 ln],rV wa3 L'1.vars,rV wb3 L'1.own,rV wc3 L'1.par,rV wd3 L'1.con,rV we3 L'1.fst,rV wf3 L'1.tok,.obj b2 (Yg s),.obj b1 (ZU n)] ?_ ?_))))))))))))
   ·refine ir 1 [(0,.p b 0),(5,.p b2 0),(7,.i (ZV n L.vars s)),(77,.b (Xe s.op))] (ib (b:=Xe s.op) 77 (fun Zz=>?_) (fun Zz=>?_))
    ·have X0:Xe s.op=true:=(Iff.rfl).1 Zz
     refine Z5 3 (.n 80 (.b ((ZV n L.vars s) != 0)) (.d (.k (.k (.k .z))))) (ie ?_)
     exact ZT 9 (fw (fr (Zu ((ZV n L.vars s) != 0) Zz fl)))
    have XB:¬(Xe s.op=true):=ZI Iff.rfl Zz
    refine Z5 3 (.n 80 (.b false) (.d (.k (.k (.k .z))))) (ie ?_)
    exact ZT 9 (fw (fr (Zu false Zz fl)))
   refine ac (Xe s.op&&((ZV n L.vars s) != 0)) (p:=(Xe s.op=true)/\((ZV n L.vars s)≠0)) (YD Iff.rfl Yi) (fun Xj=>?_) (fun Xj=>?_)
   ·refine az (ir 2 [(81,.p b 0),(82,.i (ZV n L.vars s))] (ic [0,0,0,0,0,0,0] (Qn b wa3 wb3 wc3 wd3 we3 wf3 L'1 ln (ZV n L.vars s) 1 (-1) (hlb:=(by rw [hxv];omega)) (hlk:=kx.len)) ?_))
    rintro _ _ ⟨wa4,wb4,wc4,wd4,we4,wf4,rfl⟩
    refine ie (ar (ir 1 [(6,.b true)] (ie ?_)))
    exact Zb (r1 [0,0,0,0,0,0,0] (.inl ⟨wa4,wb4,wc4,wd4,we4,wf4,(L'1.grow (ZV n L.vars s) 1 (-1)),rfl,rfl,(by rw [UD,hP];first|rfl|exact Ut (by assumption)|exact Uu (by assumption) (by assumption)|exact Uv (by assumption))⟩))
   refine ar (iR 2 [(0,.p b 0),(85,.i s.op)] [7] [b2] (ZA [] (QW s.op) (ie (ac (Xe s.op) Iff.rfl (fun Vx=>?_) (fun Vx=>?_)))))
   ·refine az (ir 1 [(87,.p b 0)] (ic [0,0,0,0,0,0,0] (Qn b wa3 wb3 wc3 wd3 we3 wf3 L'1 ln 0 0 (-1) (hlb:=(by rw [hxv];omega)) (hlk:=kx.len)) ?_))
    rintro _ _ ⟨wa5,wb5,wc5,wd5,we5,wf5,rfl⟩
    refine ie (ar (ir 1 [(6,.b true)] (ie ?_)))
    exact Zb (r1 [0,0,0,0,0,0,0] (.inl ⟨wa5,wb5,wc5,wd5,we5,wf5,(L'1.grow 0 0 (-1)),rfl,rfl,(by rw [UD,hP];first|rfl|exact Ut (by assumption)|exact Uu (by assumption) (by assumption)|exact Uv (by assumption))⟩))
   refine ak (ar (ir 1 [(6,.b true)] (ie ?_)))
   exact Zb (r1 [0,0,0,0,0,0,0] (.inl ⟨wa3,wb3,wc3,wd3,we3,wf3,L'1,rfl,rfl,(by rw [UD,hP];first|rfl|exact Ut (by assumption)|exact Uu (by assumption) (by assumption)|exact Uv (by assumption))⟩))
  have hP:=(MC (n:=n) (ln:=ln) (L:=L) Xi hgx).trans (YK)
  refine Z1 1 8 (.b false) (ie (aq (ar (Z1 2 73 (.b true) (ie (WU (ar (ir 1 [(6,.b false)] (ie ?_)))))))))
  exact Zb (r1 [] (.inr ⟨rfl,rfl,(by rw [UD,hP];first|rfl|exact Ut (by assumption)|exact Uu (by assumption) (by assumption)|exact Uv (by assumption))⟩))
 refine aq (ar (Z1 2 58 (.b (s.op==16)) (ie (XI (fun F h=>F=[(0,.p b 0),(4,.p b1 0),(5,.p b2 0),(7,.i (ZV n L.vars s)),(17,.i s.op),(58,.b ((s.op==16)||(s.op==17)))]/\h=[rV ga L.vars,.obj b2 (Yg s),.obj b1 (ZU n),.obj b [.h ga,.h gb,.h gc,.h gd,.h ge,.h gf,Z0 ln],rV gb L.own,rV gc L.par,rV gd L.con,rV ge L.fst,rV gf L.tok]) ?_ ?_))))
 ·refine ac (s.op==16) Zh (fun Vr=>?_) (fun Vr=>?_)
  ·refine ak ?_
   exact ZW ⟨rfl,rfl⟩ (ZT 9 (fq (fr (fc (x:=.b (s.op==16)) (lb (by first|rfl|(rw [Zo Vr])|(rw [Zc Vr])|(simp [Vr];done)|(rw [Xl];simp [Vr];done)|omega)) fl))))
  refine az (ir 2 [(0,.p b 0),(4,.p b1 0),(5,.p b2 0),(7,.i (ZV n L.vars s)),(17,.i s.op),(58,.b (s.op==17))] (ie ?_))
  exact ZW ⟨rfl,rfl⟩ (ZT 9 (fq (fr (fc (x:=.b (s.op==17)) (lb (by first|rfl|(rw [Zo Vr])|(rw [Zc Vr])|(simp [Vr];done)|(rw [Xl];simp [Vr];done)|omega)) fl))))
 rintro F h ⟨rfl,rfl⟩
 refine ac ((s.op==16)||(s.op==17)) (p:=(s.op=16)∨(s.op=17)) (Yo Zh Zh) (fun VH=>?_) (fun VH=>?_)
 ·obtain ⟨x,hxa⟩:=hf.one om
  have ha:s.args[0]? = some x:=by rw [hxa];rfl
  have hx:=hf.args x (by rw [hxa];simp)
  have hgx:=Jf ha
  have hal:=(XM.1 ha).1
  refine az (iR 3 [(0,.p b 0),(5,.p b2 0),(7,.i (ZV n L.vars s)),(61,.p b 0),(62,ZD n),(63,Y3 s)] [2,1] [b1,b2] (ic [3,0,2,2,2,2,2] (Z32 b ga gb gc gd ge gf n s L ln q x) ?_))
  rintro _ _ (⟨wa6,wb6,wc6,wd6,we6,wf6,L'2,rfl,rfl,Wk⟩|⟨rfl,rfl,WJ⟩)
  ·have hP:=(MD (n:=n) (ln:=ln) (L:=L) VH hgx).trans (Wk)
   obtain ⟨kx,hxv⟩:=CP hn hk hq.1 hf hP
   refine Z1 1 8 (.b true) (ie (aq (ar (Z1 2 73 (.b false) (ie (WT (ak (aq (ar (Yl 2 75 (.i s.op) [7] [b2] (ZA [] (QW s.op) (Xo [(0,.p b 0),(5,.p b2 0),(7,.i (ZV n L.vars s)),(80,.b (Xe s.op&&((ZV n L.vars s) != 0)))] [.obj b [.h wa6,.h wb6,.h wc6,.h wd6,.h we6,.h wf6,Z0 ln],rV wa6 L'2.vars,rV wb6 L'2.own,rV wc6 L'2.par,rV wd6 L'2.con,rV we6 L'2.fst,rV wf6 L'2.tok,.obj b2 (Yg s),.obj b1 (ZU n)] ?_ ?_))))))))))))
   ·refine ir 1 [(0,.p b 0),(5,.p b2 0),(7,.i (ZV n L.vars s)),(77,.b (Xe s.op))] (ib (b:=Xe s.op) 77 (fun YE=>?_) (fun YE=>?_))
    ·have V4:Xe s.op=true:=(Iff.rfl).1 YE
     refine Z5 3 (.n 80 (.b ((ZV n L.vars s) != 0)) (.d (.k (.k (.k .z))))) (ie ?_)
     exact ZT 9 (fw (fr (Zu ((ZV n L.vars s) != 0) YE fl)))
    have Ug:¬(Xe s.op=true):=ZI Iff.rfl YE
    refine Z5 3 (.n 80 (.b false) (.d (.k (.k (.k .z))))) (ie ?_)
    exact ZT 9 (fw (fr (Zu false YE fl)))
   refine ac (Xe s.op&&((ZV n L.vars s) != 0)) (p:=(Xe s.op=true)/\((ZV n L.vars s)≠0)) (YD Iff.rfl Yi) (fun UL=>?_) (fun UL=>?_)
   ·refine az (ir 2 [(81,.p b 0),(82,.i (ZV n L.vars s))] (ic [0,0,0,0,0,0,0] (Qn b wa6 wb6 wc6 wd6 we6 wf6 L'2 ln (ZV n L.vars s) 1 (-1) (hlb:=(by rw [hxv];omega)) (hlk:=kx.len)) ?_))
    rintro _ _ ⟨wa7,wb7,wc7,wd7,we7,wf7,rfl⟩
    refine ie (ar (ir 1 [(6,.b true)] (ie ?_)))
    exact Zb (r1 [0,0,0,0,0,0,0] (.inl ⟨wa7,wb7,wc7,wd7,we7,wf7,(L'2.grow (ZV n L.vars s) 1 (-1)),rfl,rfl,(by rw [UD,hP];first|rfl|exact Ut (by assumption)|exact Uu (by assumption) (by assumption)|exact Uv (by assumption))⟩))
   refine ar (iR 2 [(0,.p b 0),(85,.i s.op)] [7] [b2] (ZA [] (QW s.op) (ie (ac (Xe s.op) Iff.rfl (fun Kc=>?_) (fun Kc=>?_)))))
   ·refine az (ir 1 [(87,.p b 0)] (ic [0,0,0,0,0,0,0] (Qn b wa6 wb6 wc6 wd6 we6 wf6 L'2 ln 0 0 (-1) (hlb:=(by rw [hxv];omega)) (hlk:=kx.len)) ?_))
    rintro _ _ ⟨wa8,wb8,wc8,wd8,we8,wf8,rfl⟩
    refine ie (ar (ir 1 [(6,.b true)] (ie ?_)))
    exact Zb (r1 [0,0,0,0,0,0,0] (.inl ⟨wa8,wb8,wc8,wd8,we8,wf8,(L'2.grow 0 0 (-1)),rfl,rfl,(by rw [UD,hP];first|rfl|exact Ut (by assumption)|exact Uu (by assumption) (by assumption)|exact Uv (by assumption))⟩))
   refine ak (ar (ir 1 [(6,.b true)] (ie ?_)))
   exact Zb (r1 [0,0,0,0,0,0,0] (.inl ⟨wa6,wb6,wc6,wd6,we6,wf6,L'2,rfl,rfl,(by rw [UD,hP];first|rfl|exact Ut (by assumption)|exact Uu (by assumption) (by assumption)|exact Uv (by assumption))⟩))
  have hP:=(MD (n:=n) (ln:=ln) (L:=L) VH hgx).trans (WJ)
  refine Z1 1 8 (.b false) (ie (aq (ar (Z1 2 73 (.b true) (ie (WU (ar (ir 1 [(6,.b false)] (ie ?_)))))))))
  exact Zb (r1 [] (.inr ⟨rfl,rfl,(by rw [UD,hP];first|rfl|exact Ut (by assumption)|exact Uu (by assumption) (by assumption)|exact Uv (by assumption))⟩))
 refine aq (ar (ir 2 [(0,.p b 0),(4,.p b1 0),(5,.p b2 0),(7,.i (ZV n L.vars s)),(17,.i s.op),(65,.b (s.op==7))] (ie (XI (fun F h=>F=[(0,.p b 0),(4,.p b1 0),(5,.p b2 0),(7,.i (ZV n L.vars s)),(65,.b ((s.op==7)||(s.op==8)))]/\h=[rV ga L.vars,.obj b2 (Yg s),.obj b1 (ZU n),.obj b [.h ga,.h gb,.h gc,.h gd,.h ge,.h gf,Z0 ln],rV gb L.own,rV gc L.par,rV gd L.con,rV ge L.fst,rV gf L.tok]) ?_ ?_))))
 ·refine ac (s.op==7) Zh (fun Tb=>?_) (fun Tb=>?_)
  ·refine ak ?_
   exact ZW ⟨rfl,rfl⟩ (ZT 9 (fq (fc (x:=.b (s.op==7)) (lb (by first|rfl|(rw [Zo Tb])|(rw [Zc Tb])|(simp [Tb];done)|(rw [Xl];simp [Tb];done)|omega)) fl)))
  refine az (ir 2 [(0,.p b 0),(4,.p b1 0),(5,.p b2 0),(7,.i (ZV n L.vars s)),(65,.b (s.op==8))] (ie ?_))
  exact ZW ⟨rfl,rfl⟩ (ZT 9 (fq (fc (x:=.b (s.op==8)) (lb (by first|rfl|(rw [Zo Tb])|(rw [Zc Tb])|(simp [Tb];done)|(rw [Xl];simp [Tb];done)|omega)) fl)))
 rintro F h ⟨rfl,rfl⟩
 refine ac ((s.op==7)||(s.op==8)) (p:=(s.op=7)∨(s.op=8)) (Yo Zh Zh) (fun QI=>?_) (fun QI=>?_)
 ·refine az (iR 3 [(0,.p b 0),(5,.p b2 0),(7,.i (ZV n L.vars s)),(68,.p b 0),(69,ZD n),(70,Y3 s)] [2,1] [b1,b2] (ic [3,0,2,2,2,2,2] (Z2z b ga gb gc gd ge gf n s L ln q (ih:=ob)) ?_))
  rintro _ _ (⟨wa9,wb9,wc9,wd9,we9,wf9,L'3,rfl,rfl,UM⟩|⟨rfl,rfl,Uw⟩)
  ·have hP:=(ME (n:=n) (ln:=ln) (L:=L) QI).trans (UM)
   obtain ⟨kx,hxv⟩:=CP hn hk hq.1 hf hP
   refine Z1 1 8 (.b true) (ie (aq (ar (Z1 2 73 (.b false) (ie (WT (ak (aq (ar (Yl 2 75 (.i s.op) [7] [b2] (ZA [] (QW s.op) (Xo [(0,.p b 0),(5,.p b2 0),(7,.i (ZV n L.vars s)),(80,.b (Xe s.op&&((ZV n L.vars s) != 0)))] [.obj b [.h wa9,.h wb9,.h wc9,.h wd9,.h we9,.h wf9,Z0 ln],rV wa9 L'3.vars,rV wb9 L'3.own,rV wc9 L'3.par,rV wd9 L'3.con,rV we9 L'3.fst,rV wf9 L'3.tok,.obj b2 (Yg s),.obj b1 (ZU n)] ?_ ?_))))))))))))
   ·refine ir 1 [(0,.p b 0),(5,.p b2 0),(7,.i (ZV n L.vars s)),(77,.b (Xe s.op))] (ib (b:=Xe s.op) 77 (fun Xf=>?_) (fun Xf=>?_))
    ·have Tu:Xe s.op=true:=(Iff.rfl).1 Xf
     refine Z5 3 (.n 80 (.b ((ZV n L.vars s) != 0)) (.d (.k (.k (.k .z))))) (ie ?_)
     exact ZT 9 (fw (fr (Zu ((ZV n L.vars s) != 0) Xf fl)))
    have Tc:¬(Xe s.op=true):=ZI Iff.rfl Xf
    refine Z5 3 (.n 80 (.b false) (.d (.k (.k (.k .z))))) (ie ?_)
    exact ZT 9 (fw (fr (Zu false Xf fl)))
   refine ac (Xe s.op&&((ZV n L.vars s) != 0)) (p:=(Xe s.op=true)/\((ZV n L.vars s)≠0)) (YD Iff.rfl Yi) (fun AW=>?_) (fun AW=>?_)
   ·refine az (ir 2 [(81,.p b 0),(82,.i (ZV n L.vars s))] (ic [0,0,0,0,0,0,0] (Qn b wa9 wb9 wc9 wd9 we9 wf9 L'3 ln (ZV n L.vars s) 1 (-1) (hlb:=(by rw [hxv];omega)) (hlk:=kx.len)) ?_))
    rintro _ _ ⟨wa10,wb10,wc10,wd10,we10,wf10,rfl⟩
    refine ie (ar (ir 1 [(6,.b true)] (ie ?_)))
    exact Zb (r1 [0,0,0,0,0,0,0] (.inl ⟨wa10,wb10,wc10,wd10,we10,wf10,(L'3.grow (ZV n L.vars s) 1 (-1)),rfl,rfl,(by rw [UD,hP];first|rfl|exact Ut (by assumption)|exact Uu (by assumption) (by assumption)|exact Uv (by assumption))⟩))
   refine ar (iR 2 [(0,.p b 0),(85,.i s.op)] [7] [b2] (ZA [] (QW s.op) (ie (ac (Xe s.op) Iff.rfl (fun Gg=>?_) (fun Gg=>?_)))))
   ·refine az (ir 1 [(87,.p b 0)] (ic [0,0,0,0,0,0,0] (Qn b wa9 wb9 wc9 wd9 we9 wf9 L'3 ln 0 0 (-1) (hlb:=(by rw [hxv];omega)) (hlk:=kx.len)) ?_))
    rintro _ _ ⟨wa11,wb11,wc11,wd11,we11,wf11,rfl⟩
    refine ie (ar (ir 1 [(6,.b true)] (ie ?_)))
    exact Zb (r1 [0,0,0,0,0,0,0] (.inl ⟨wa11,wb11,wc11,wd11,we11,wf11,(L'3.grow 0 0 (-1)),rfl,rfl,(by rw [UD,hP];first|rfl|exact Ut (by assumption)|exact Uu (by assumption) (by assumption)|exact Uv (by assumption))⟩))
   refine ak (ar (ir 1 [(6,.b true)] (ie ?_)))
   exact Zb (r1 [0,0,0,0,0,0,0] (.inl ⟨wa9,wb9,wc9,wd9,we9,wf9,L'3,rfl,rfl,(by rw [UD,hP];first|rfl|exact Ut (by assumption)|exact Uu (by assumption) (by assumption)|exact Uv (by assumption))⟩))
  have hP:=(ME (n:=n) (ln:=ln) (L:=L) QI).trans (Uw)
  refine Z1 1 8 (.b false) (ie (aq (ar (Z1 2 73 (.b true) (ie (WU (ar (ir 1 [(6,.b false)] (ie ?_)))))))))
  exact Zb (r1 [] (.inr ⟨rfl,rfl,(by rw [UD,hP];first|rfl|exact Ut (by assumption)|exact Uu (by assumption) (by assumption)|exact Uv (by assumption))⟩))
 refine az (iR 3 [(0,.p b 0),(5,.p b2 0),(7,.i (ZV n L.vars s)),(18,.p b 0),(19,ZD n),(20,Y3 s)] [2,1] [b1,b2] (ic [3,0,2,2,2,2,2] (Z31 b ga gb gc gd ge gf n s L ln q (hnum:=hf.num) (hargs:=hf.args) (hinto:=(fun q=>(hf.into om).2))) ?_))
 rintro _ _ (⟨wa12,wb12,wc12,wd12,we12,wf12,L'4,rfl,rfl,QJ⟩|⟨rfl,rfl,QK⟩)
 ·have hP:=(MF (n:=n) (ln:=ln) (L:=L) Ze Xi VH QI).trans (QJ)
  obtain ⟨kx,hxv⟩:=CP hn hk hq.1 hf hP
  refine Z1 1 8 (.b true) (ie (aq (ar (Z1 2 73 (.b false) (ie (WT (ak (aq (ar (Yl 2 75 (.i s.op) [7] [b2] (ZA [] (QW s.op) (Xo [(0,.p b 0),(5,.p b2 0),(7,.i (ZV n L.vars s)),(80,.b (Xe s.op&&((ZV n L.vars s) != 0)))] [.obj b [.h wa12,.h wb12,.h wc12,.h wd12,.h we12,.h wf12,Z0 ln],rV wa12 L'4.vars,rV wb12 L'4.own,rV wc12 L'4.par,rV wd12 L'4.con,rV we12 L'4.fst,rV wf12 L'4.tok,.obj b2 (Yg s),.obj b1 (ZU n)] ?_ ?_))))))))))))
  ·refine ir 1 [(0,.p b 0),(5,.p b2 0),(7,.i (ZV n L.vars s)),(77,.b (Xe s.op))] (ib (b:=Xe s.op) 77 (fun Wb=>?_) (fun Wb=>?_))
   ·have Jm:Xe s.op=true:=(Iff.rfl).1 Wb
    refine Z5 3 (.n 80 (.b ((ZV n L.vars s) != 0)) (.d (.k (.k (.k .z))))) (ie ?_)
    exact ZT 9 (fw (fr (Zu ((ZV n L.vars s) != 0) Wb fl)))
   have QL:¬(Xe s.op=true):=ZI Iff.rfl Wb
   refine Z5 3 (.n 80 (.b false) (.d (.k (.k (.k .z))))) (ie ?_)
   exact ZT 9 (fw (fr (Zu false Wb fl)))
  refine ac (Xe s.op&&((ZV n L.vars s) != 0)) (p:=(Xe s.op=true)/\((ZV n L.vars s)≠0)) (YD Iff.rfl Yi) (fun Gh=>?_) (fun Gh=>?_)
  ·refine az (ir 2 [(81,.p b 0),(82,.i (ZV n L.vars s))] (ic [0,0,0,0,0,0,0] (Qn b wa12 wb12 wc12 wd12 we12 wf12 L'4 ln (ZV n L.vars s) 1 (-1) (hlb:=(by rw [hxv];omega)) (hlk:=kx.len)) ?_))
   rintro _ _ ⟨wa13,wb13,wc13,wd13,we13,wf13,rfl⟩
   refine ie (ar (ir 1 [(6,.b true)] (ie ?_)))
   exact Zb (r1 [0,0,0,0,0,0,0] (.inl ⟨wa13,wb13,wc13,wd13,we13,wf13,(L'4.grow (ZV n L.vars s) 1 (-1)),rfl,rfl,(by rw [UD,hP];first|rfl|exact Ut (by assumption)|exact Uu (by assumption) (by assumption)|exact Uv (by assumption))⟩))
  refine ar (iR 2 [(0,.p b 0),(85,.i s.op)] [7] [b2] (ZA [] (QW s.op) (ie (ac (Xe s.op) Iff.rfl (fun Kd=>?_) (fun Kd=>?_)))))
  ·refine az (ir 1 [(87,.p b 0)] (ic [0,0,0,0,0,0,0] (Qn b wa12 wb12 wc12 wd12 we12 wf12 L'4 ln 0 0 (-1) (hlb:=(by rw [hxv];omega)) (hlk:=kx.len)) ?_))
   rintro _ _ ⟨wa14,wb14,wc14,wd14,we14,wf14,rfl⟩
   refine ie (ar (ir 1 [(6,.b true)] (ie ?_)))
   exact Zb (r1 [0,0,0,0,0,0,0] (.inl ⟨wa14,wb14,wc14,wd14,we14,wf14,(L'4.grow 0 0 (-1)),rfl,rfl,(by rw [UD,hP];first|rfl|exact Ut (by assumption)|exact Uu (by assumption) (by assumption)|exact Uv (by assumption))⟩))
  refine ak (ar (ir 1 [(6,.b true)] (ie ?_)))
  exact Zb (r1 [0,0,0,0,0,0,0] (.inl ⟨wa12,wb12,wc12,wd12,we12,wf12,L'4,rfl,rfl,(by rw [UD,hP];first|rfl|exact Ut (by assumption)|exact Uu (by assumption) (by assumption)|exact Uv (by assumption))⟩))
 have hP:=(MF (n:=n) (ln:=ln) (L:=L) Ze Xi VH QI).trans (QK)
 refine Z1 1 8 (.b false) (ie (aq (ar (Z1 2 73 (.b true) (ie (WU (ar (ir 1 [(6,.b false)] (ie ?_)))))))))
 exact Zb (r1 [] (.inr ⟨rfl,rfl,(by rw [UD,hP];first|rfl|exact Ut (by assumption)|exact Uu (by assumption) (by assumption)|exact Uv (by assumption))⟩))
theorem Z2x (c:Nat) (ga:Hd) (gb:Hd) (gc:Hd) (gd:Hd) (ge:Hd) (gf:Hd) (n:Zx) (b:Z6) (L:ZJ) (ln:List Int) (q:Int) (mm:Nat) (hn:Xd n) (hk:Xx n.decls L q) (ht:0<=YV n L.vars b) (hm:mm<=L.vars.length) (hb:L.vars.length+4*b.sz<=1000000000) (hq:0<=q/\q+4*b.sz<=999999990) (hln:ln.length<=4294967296) (ih:∀(s2:Z4) (c:Nat) (ra:Hd) (rb:Hd) (rc:Hd) (rd:Hd) (re:Hd) (rf:Hd) (M:ZJ) (p:Int),(s2.sz<b.sz)->(Xx n.decls M p)->(0<=ZV n M.vars s2)->(M.vars.length+4*s2.sz<=1000000000)->(0<=p/\p+4*s2.sz<=999999990)->Zi Tryz.prog 204 [.p c 0,ZD n,Y3 s2] [.obj c [.h ra,.h rb,.h rc,.h rd,.h re,.h rf,Z0 ln],rV ra M.vars,rV rb M.own,rV rc M.par,rV rd M.con,rV re M.fst,rV rf M.tok] (fun r h=>(∃(wa:Hd) (wb:Hd) (wc:Hd) (wd:Hd) (we:Hd) (wf:Hd) (M':ZJ),r=.b true/\h=[.obj c [.h wa,.h wb,.h wc,.h wd,.h we,.h wf,Z0 ln],rV wa M'.vars,rV wb M'.own,rV wc M'.par,rV wd M'.con,rV we M'.fst,rV wf M'.tok]/\TN n ln M s2=some M')∨(r=.b false/\h=[]/\TN n ln M s2=none))):Zi Tryz.prog 270 [.p c 0,ZD n,Zs b,.i mm] [.obj c [.h ga,.h gb,.h gc,.h gd,.h ge,.h gf,Z0 ln],rV ga L.vars,rV gb L.own,rV gc L.par,rV gd L.con,rV ge L.fst,rV gf L.tok] (fun r h=>(∃(wa:Hd) (wb:Hd) (wc:Hd) (wd:Hd) (we:Hd) (wf:Hd) (L':ZJ),r=.b true/\h=[.obj c [.h wa,.h wb,.h wc,.h wd,.h we,.h wf,Z0 ln],rV wa L'.vars,rV wb L'.own,rV wc L'.par,rV wd L'.con,rV we L'.fst,rV wf L'.tok]/\VE n ln L mm b=some L')∨(r=.b false/\h=[]/\VE n ln L mm b=none)):=by
 have hbz:=b.sz_eq
 obtain ⟨vs,rt,hvs,hres,hrt⟩:=I3 ht
 have hri:=JO hres
 have Xq:=Vf b
 refine ZK 45 Tryz.func270 (ar (iA (ZU n) ?_))
 intro b1
 refine iA (Yk b) ?_
 intro b2
 refine ir 1 [(0,.p c 0),(3,.i mm),(5,.p b1 0),(6,.p b2 0)] (ie (aq (ar (Z1 1 9 (.i 0) (ie (ab 0 (al (fun m F h=>∃(k:Nat) (q2:Int) (L2:ZJ) (ka:Hd) (kb:Hd) (kc:Hd) (kd:Hd) (ke:Hd) (kf:Hd),(k<=b.steps.length)/\(Xx n.decls L2 q2)/\(0<=q2/\q2+4*Yp (b.steps.drop k)<=999999990)/\(L2.vars.length+4*Yp (b.steps.drop k)<=1000000000)/\(V9 n (b.steps.drop k) L2.vars=some vs)/\(Km n ln L2 (b.steps.drop k)=Km n ln L b.steps)/\(L.vars.length<=L2.vars.length)/\F=[(0,.p c 0),(3,.i mm),(5,.p b1 0),(6,.p b2 0),(9,.i k)]/\h=[.obj b2 (Yk b),.obj b1 (ZU n),.obj c [.h ka,.h kb,.h kc,.h kd,.h ke,.h kf,Z0 ln],rV ka L2.vars,rV kb L2.own,rV kc L2.par,rV kd L2.con,rV ke L2.fst,rV kf L2.tok]/\m=b.steps.length-k) _ _ _ ⟨0,q,L,ga,gb,gc,gd,ge,gf,ob,hk,(by rw [Jz];omega),(by rw [Jz];omega),hvs,rfl,om,rfl,rfl,rfl⟩ (ZT 9 (fq (Ya fl))) ?_)))))))
 rintro m F h ⟨k,q2,L2,ka,kb,kc,kd,ke,kf,Yj,Zp,Zy,YJ,Wg,J4,Z9c,rfl,rfl,rfl⟩
 refine aq (ar (ZY 3 10 (.i k) 12 (Ye b.steps) [0] [b2] (iw (Vl b.steps) (Z1 1 14 (.b (decide ((k:Int)<(b.steps.length:Int)))) (ie (ZM ((k:Int)<(b.steps.length:Int)) (fun Ze=>?_) (fun Ze=>?_)))))))
 ·obtain ⟨s1,hs1⟩:=Zr (xs:=b.steps) (j:=k) om
  have hss:=QY hs1
  have hdr:=Y8 hs1
  have hz:Yp (b.steps.drop k)=s1.sz+Yp (b.steps.drop (k+1)):=by rw [hdr,Yp]
  rw [hdr] at Wg J4
  obtain ⟨g1,g2⟩:=O2 Wg
  refine ak (aq (ab 1 (aD 9 (Y6 4 9 [0,1,2,3,4] (.n 17 (.p c 0) (.n 18 (ZD n) (.n 20 (Ye b.steps) (.n 21 (.i k) .r)))) [1,0] [b1,b2] (dx 5 (Zm none (k:Int) 5 (Wa hs1)) (ZZ 2 3 [6] 23 (Y3 s1) (Z9 7 (dc 7 [2,2,2,2,2,2,2] [] [] (ih s1 c ka kb kc kd ke kf L2 q2 ob Zp g1 om om) ?_))))))))
  rintro _ _ (⟨wa1,wb1,wc1,wd1,we1,wf1,M'1,rfl,rfl,ZP⟩|⟨rfl,rfl,Y1⟩)
  ·have hP:=ZP
   have kx:=NZ hn Zp Zy.1 g1 hP
   refine ZZ 0 1 [8] 25 (.b false) (de (WT (ak (az (Z1 1 15 (.i k) (ZL k (ir 1 [(0,.p c 0),(3,.i mm),(5,.p b1 0),(6,.p b2 0),(9,.i (k+1:Nat))] (ie ?_))))))))
   exact ZO ⟨k+1,(q2+4*s1.sz),M'1,wa1,wb1,wc1,wd1,we1,wf1,ob,kx.1,om,(by rw [kx.2];have:=Nl n L2.vars s1;omega),(by rw [kx.2];exact g2),(by rw [<-J4,Km,hP];rfl),(by rw [kx.2];have:=Nl n L2.vars s1;omega),rfl,rfl,rfl⟩ (wk [7,7,0,0,0,0,0,0,0] (fq (ZQ k fl)))
  have hP:=Y1
  refine ZZ 0 1 [8] 25 (.b true) (de (WU (ar (ir 1 [(8,.b false)] (ie ?_)))))
  exact Zb (r1 [] (.inr ⟨rfl,rfl,(by rw [Fi,<-J4,Km,hP];rfl)⟩))
 rw [Xb om] at Wg J4
 have hvv:L2.vars=vs:=by rw [V9] at Wg;exact JE Wg
 have hB:VE n ln L mm b=KE mm b.result L2:=by rw [Fi,<-J4,Km];rfl
 obtain ⟨xr,hxr⟩:=Zr (xs:=L2.vars) (j:=b.result.toNat) (by rw [hvv];omega)
 have hgr:=UK hxr
 have hrl:0<=b.result/\b.result<L2.vars.length:=by rw [hvv];omega
 rw [V9] at Wg
 refine ax 0 (aq (aD 16 (Y6 10 16 [0,1,2,3,4,5] (.n 29 (.h ka) (.n 31 (.i b.result) .r)) [2,0] [c,b2] (dx 6 (Vo 3 ka L2.vars b.result b.result.toNat (hq:=rfl)) (VT 7 (Tj 3 ka L2.vars b.result.toNat xr hxr) (ZZ 6 8 [8,9] 35 (.b (xr != 0)) (db (b:=(xr != 0)) 35 (fun Za=>?_) (fun Za=>?_))))))))
 ·have Yy:xr≠0:=(Yi).1 Za
  refine Y6 3 6 [10,11,12] (.n 36 (.p c 0) (.n 38 (.i b.result) (.k (.d .r)))) [0] [b2] (Z9 13 (dc 13 [2,2,2,2,2,2,2] [] [] (E6 c ka kb kc kd ke kf L2 ln b.result (hlk:=Zp.len) (hq:=(fun y hy=>⟨Zp.nn y hy,by have:=Zp.bd y hy;omega⟩))) ?_))
  rintro _ _ (⟨wa2,wb2,wc2,wd2,we2,wf2,L'1,rfl,rfl,YK⟩|⟨rfl,rfl,X0⟩)
  ·have hE:=hB.trans (RI hgr (by assumption) YK)
   have kx:=Zp.take YK
   have hxv:L'1.vars.length=L2.vars.length:=by rw [(Kn YK).2.1]
   refine ZZ 0 2 [14,15] 41 (.b false) (de (WT (ak (ar (ir 2 [(42,.p c 0),(43,.i mm)] (ic [0,0,0,0,0,0,0] (LX c wa2 wb2 wc2 wd2 we2 wf2 L'1 ln mm (hlk:=(by first|exact kx.len|exact Zp.len)) (hlb:=om) (hm:=om)) ?_))))))
   rintro _ _ (⟨wa3,wb3,wc3,wd3,we3,wf3,L'2,rfl,rfl,XB⟩|⟨rfl,rfl,Wk⟩)
   ·refine ir 1 [(8,.b true)] (ie ?_)
    exact Zb (r1 [0,0,0,0,0,0,0] (.inl ⟨wa3,wb3,wc3,wd3,we3,wf3,L'2,rfl,rfl,(by first|exact hE|(rw [hE];exact XB)|(rw [hB,Cg hgr (by assumption)];exact XB))⟩))
   refine ir 1 [(8,.b false)] (ie ?_)
   exact Zb (r1 [] (.inr ⟨rfl,rfl,(by first|exact hE|(rw [hE];exact Wk)|(rw [hB,Cg hgr (by assumption)];exact Wk))⟩))
  have hE:=hB.trans (RH hgr (by assumption) X0)
  refine ZZ 0 2 [14,15] 41 (.b true) (de (WU (ar (ir 1 [(8,.b false)] (ie ?_)))))
  exact Zb (r1 [] (.inr ⟨rfl,rfl,(by first|exact hE|(rw [hE];exact X0)|(rw [hB,Cg hgr (by assumption)];exact X0))⟩))
 have WJ:¬(xr≠0):=ZI Yi Za
 refine Y0 0 6 [10,11,12,13,14,15] (.n 41 (.b false) (.k (.d .r))) (de (WT (ak (ar (ir 2 [(42,.p c 0),(43,.i mm)] (ic [2,2,2,2,2,2,2] (LX c ka kb kc kd ke kf L2 ln mm (hlk:=(by first|exact kx.len|exact Zp.len)) (hlb:=om) (hm:=om)) ?_))))))
 rintro _ _ (⟨wa4,wb4,wc4,wd4,we4,wf4,L'3,rfl,rfl,V4⟩|⟨rfl,rfl,Ug⟩)
 ·refine ir 1 [(8,.b true)] (ie ?_)
  exact Zb (r1 [0,0,0,0,0,0,0] (.inl ⟨wa4,wb4,wc4,wd4,we4,wf4,L'3,rfl,rfl,(by first|exact hE|(rw [hE];exact V4)|(rw [hB,Cg hgr (by assumption)];exact V4))⟩))
 refine ir 1 [(8,.b false)] (ie ?_)
 exact Zb (r1 [] (.inr ⟨rfl,rfl,(by first|exact hE|(rw [hE];exact Ug)|(rw [hB,Cg hgr (by assumption)];exact Ug))⟩))
theorem Z2y (n:Zx) (ln:List Int) (hn:Xd n) (hln:ln.length<=4294967296) (m:Nat):∀(b2:Z6) (c:Nat) (ra:Hd) (rb:Hd) (rc:Hd) (rd:Hd) (re:Hd) (rf:Hd) (M:ZJ) (mm:Nat) (p:Int),(b2.sz<m+1)->(Xx n.decls M p)->(0<=YV n M.vars b2)->(mm<=M.vars.length)->(M.vars.length+4*b2.sz<=1000000000)->(0<=p/\p+4*b2.sz<=999999990)->Zi Tryz.prog 270 [.p c 0,ZD n,Zs b2,.i mm] [.obj c [.h ra,.h rb,.h rc,.h rd,.h re,.h rf,Z0 ln],rV ra M.vars,rV rb M.own,rV rc M.par,rV rd M.con,rV re M.fst,rV rf M.tok] (fun r h=>(∃(wa:Hd) (wb:Hd) (wc:Hd) (wd:Hd) (we:Hd) (wf:Hd) (M':ZJ),r=.b true/\h=[.obj c [.h wa,.h wb,.h wc,.h wd,.h we,.h wf,Z0 ln],rV wa M'.vars,rV wb M'.own,rV wc M'.par,rV wd M'.con,rV we M'.fst,rV wf M'.tok]/\VE n ln M mm b2=some M')∨(r=.b false/\h=[]/\VE n ln M mm b2=none)):=by
 induction m with
 | zero=>intro b c ga gb gc gd ge gf L mm q h;have:=b.sz_pos;omega
 | succ m ih=>
  intro b c ga gb gc gd ge gf L mm q h1 hk ht hm hb hp
  exact Z2x c ga gb gc gd ge gf n b L ln q mm hn hk ht hm hb hp hln fun s c ga gb gc gd ge gf L q h2 hk ht hb hp=>LZ c ga gb gc gd ge gf n s L ln q hn hk ht hb hp hln
   fun b2 c ga gb gc gd ge gf L mm q h3 hk ht hm hb hp=>ih b2 c ga gb gc gd ge gf L mm q om hk ht hm hb hp
theorem Z34 (n:Zx) (ln:List Int) (hn:Xd n) (hln:ln.length<=4294967296) (m:Nat):∀(s2:Z4) (c:Nat) (ra:Hd) (rb:Hd) (rc:Hd) (rd:Hd) (re:Hd) (rf:Hd) (M:ZJ) (p:Int),(s2.sz<m+1)->(Xx n.decls M p)->(0<=ZV n M.vars s2)->(M.vars.length+4*s2.sz<=1000000000)->(0<=p/\p+4*s2.sz<=999999990)->Zi Tryz.prog 204 [.p c 0,ZD n,Y3 s2] [.obj c [.h ra,.h rb,.h rc,.h rd,.h re,.h rf,Z0 ln],rV ra M.vars,rV rb M.own,rV rc M.par,rV rd M.con,rV re M.fst,rV rf M.tok] (fun r h=>(∃(wa:Hd) (wb:Hd) (wc:Hd) (wd:Hd) (we:Hd) (wf:Hd) (M':ZJ),r=.b true/\h=[.obj c [.h wa,.h wb,.h wc,.h wd,.h we,.h wf,Z0 ln],rV wa M'.vars,rV wb M'.own,rV wc M'.par,rV wd M'.con,rV we M'.fst,rV wf M'.tok]/\TN n ln M s2=some M')∨(r=.b false/\h=[]/\TN n ln M s2=none)):=by
 intro s c ga gb gc gd ge gf L q h2 hk ht hb hp
 exact LZ c ga gb gc gd ge gf n s L ln q hn hk ht hb hp hln fun b2 c ga gb gc gd ge gf L mm q h3 hk ht hm hb hp=>Z2y n ln hn hln m b2 c ga gb gc gd ge gf L mm q om hk ht hm hb hp
theorem Z33 (c:Nat) (ra:Hd) (rb:Hd) (rc:Hd) (rd:Hd) (re:Hd) (rf:Hd) (n:Zx) (s2:Z4) (M:ZJ) (ln:List Int) (p:Int) (hn:Xd n) (hln:ln.length<=4294967296) (hk:Xx n.decls M p) (ht:0<=ZV n M.vars s2) (hb:M.vars.length+4*s2.sz<=1000000000) (hp:0<=p/\p+4*s2.sz<=999999990):Zi Tryz.prog 204 [.p c 0,ZD n,Y3 s2] [.obj c [.h ra,.h rb,.h rc,.h rd,.h re,.h rf,Z0 ln],rV ra M.vars,rV rb M.own,rV rc M.par,rV rd M.con,rV re M.fst,rV rf M.tok] (fun r h=>(∃(wa:Hd) (wb:Hd) (wc:Hd) (wd:Hd) (we:Hd) (wf:Hd) (M':ZJ),r=.b true/\h=[.obj c [.h wa,.h wb,.h wc,.h wd,.h we,.h wf,Z0 ln],rV wa M'.vars,rV wb M'.own,rV wc M'.par,rV wd M'.con,rV we M'.fst,rV wf M'.tok]/\TN n ln M s2=some M')∨(r=.b false/\h=[]/\TN n ln M s2=none)):=Z34 n ln hn hln s2.sz s2 c ra rb rc rd re rf M p om hk ht hb hp
theorem Z6t (rt:Yb) (hp:rt.params.length<=1000000:=by exact ob) (hl:rt.lent.length<=4294967296:=by exact ob):Zi Tryz.prog 203 [WS rt] [] (fun r h=>∃(c:Nat) (wa:Hd) (wb:Hd) (wc:Hd) (wd:Hd) (we:Hd) (wf:Hd),r=.p c 0/\h=[.obj c [.h wa,.h wb,.h wc,.h wd,.h we,.h wf,Z0 rt.lent],rV wa ((QP rt).vars),rV wb ((QP rt).own),rV wc ((QP rt).par),rV wd ((QP rt).con),rV we ((QP rt).fst),rV wf ((QP rt).tok)]):=by
 refine ZK 45 Tryz.func203 (ar (iA (VW rt) ?_))
 intro b1
 refine ir 1 [(1,.p b1 0)] (ie (ar (Yl 2 6 (Z0 rt.lent) [0] [b1] (ic [] (VP rt.lent) ?_))))
 rintro _ _ ⟨v1,rfl,rfl⟩
 refine Z1 1 8 (.agg [nl,nl,nl,nl,nl,nl,Z0 rt.lent]) (iA [nl,nl,nl,nl,nl,nl,Z0 rt.lent] ?_)
 intro b2
 refine XK (Z8d 0 b2 [nl,nl,nl,nl,nl,nl,Z0 rt.lent] [.h hN,.h hN,.h hN,.h hN,.h hN,.h hN,Z0 rt.lent] (.cons (Zg.hd (v:=hN)) (.cons (Zg.hd (v:=hN)) (.cons (Zg.hd (v:=hN)) (.cons (Zg.hd (v:=hN)) (.cons (Zg.hd (v:=hN)) (.cons (Zg.hd (v:=hN)) (.cons (lr _) .nil)))))))) (XK (Ao) (XK (Ao) (XK (Ao) (XK (Ao) (XK (Ao) (XK (Ao) (Z1 1 3 (.p b2 0) (ie (aq (ar (Z1 1 4 (.i 0) (ie (ab 0 (al (fun m F h=>∃(k:Nat) (L2:ZJ) (ka:Hd) (kb:Hd) (kc:Hd) (kd:Hd) (ke:Hd) (kf:Hd),(k<=rt.params.length)/\(UH L2)/\(L2.vars.length=k)/\(Ju rt.lent (rt.params.drop k) k L2=QP rt)/\F=[(1,.p b1 0),(3,.p b2 0),(4,.i k)]/\h=[.obj b2 [.h ka,.h kb,.h kc,.h kd,.h ke,.h kf,Z0 rt.lent],.obj b1 (VW rt),rV ka L2.vars,rV kb L2.own,rV kc L2.par,rV kd L2.con,rV ke L2.fst,rV kf L2.tok]/\m=rt.params.length-k) _ _ _ ⟨0,(ZJ.mk [] [] [] [] [] []),hN,hN,hN,hN,hN,hN,ob,⟨rfl,rfl,rfl,rfl,rfl⟩,rfl,rfl,rfl,rfl,rfl⟩ (wk [6,7,0,0,0,0,0,0] (fw (Ya fl)) (e:=(rc (rc (rv (xs:=[]) ob (rv (xs:=[]) ob (rv (xs:=[]) ob (rv (xs:=[]) ob (rv (xs:=[]) ob (rv (xs:=[]) ob rz)))))))))) ?_))))))))))))))
 rintro m F h ⟨k,L2,ka,kb,kc,kd,ke,kf,Yj,Zp,Zy,YJ,rfl,rfl,rfl⟩
 refine aq (ar (ZY 3 10 (.i k) 12 (Z0 rt.params) [1] [b1] (iw (Yh rt.params) (Z1 1 14 (.b (decide ((k:Int)<(rt.params.length:Int)))) (ie (ZM ((k:Int)<(rt.params.length:Int)) (fun Ze=>?_) (fun Ze=>?_)))))))
 ·refine ak (aq (ab 1 (ar (ZY 3 18 (Z0 rt.params) 19 (.i k) [1] [b1] ?_))))
  obtain ⟨x1,Z3⟩:=Zr (xs:=rt.params) (j:=k) om
  refine Zq (Zm none (k:Int) 1 (Y4 Z3)) (Xo [(1,.p b1 0),(3,.p b2 0),(4,.i k),(29,.b ((x1 != 0)&&(!(decide ((k:Int)∈rt.lent)))))] [.obj b2 [.h ka,.h kb,.h kc,.h kd,.h ke,.h kf,Z0 rt.lent],.obj b1 (VW rt),rV ka L2.vars,rV kb L2.own,rV kc L2.par,rV kd L2.con,rV ke L2.fst,rV kf L2.tok] ?_ ?_)
  ·refine ir 3 [(1,.p b1 0),(3,.p b2 0),(4,.i k),(23,.b (x1 != 0))] (ib (b:=(x1 != 0)) 23 (fun Za=>?_) (fun Za=>?_))
   ·have ZP:x1≠0:=(Yi).1 Za
    refine Y2 3 (.n 25 (Z0 rt.lent) (.n 26 (.i k) (.w .z))) [1] [b1] (ZA [] (U8 rt.lent (k:Int)) (Z1 2 29 (.b (!(decide ((k:Int)∈rt.lent)))) (ie ?_)))
    exact ZT 8 (fw (fr (Zu (!(decide ((k:Int)∈rt.lent))) Za fl)))
   have Y1:¬(x1≠0):=ZI Yi Za
   refine Z5 6 (.n 29 (.b false) (.d (.k (.k (.k .z))))) (ie ?_)
   exact ZT 8 (fw (fr (Zu false Za fl)))
  refine ac ((x1 != 0)&&(!(decide ((k:Int)∈rt.lent)))) (p:=(x1≠0)/\(¬((k:Int)∈rt.lent))) (YD Yi (Yw dq)) (fun Zk=>?_) (fun Zk=>?_)
  ·refine az (iR 4 [(1,.p b1 0),(3,.p b2 0),(4,.i k),(30,.p b2 0),(32,Z0 rt.params),(33,.i k)] [1] [b1] (Zq (Zm none (k:Int) 1 (Y4 Z3)) (Z1 1 35 (.i x1) (ic [0,1,1,1,1,1,1] (Qn b2 ka kb kc kd ke kf L2 rt.lent x1 1 (-1) (hlk:=Zp)) ?_))))
   rintro _ _ ⟨wa1,wb1,wc1,wd1,we1,wf1,rfl⟩
   refine ie (az (Z5 1 (.n 15 (.i k) (.p .r)) (ZL k (ir 1 [(1,.p b1 0),(3,.p b2 0),(4,.i (k+1:Nat))] (ie ?_)))))
   exact ZO ⟨k+1,(L2.grow x1 1 (-1)),wa1,wb1,wc1,wd1,we1,wf1,ob,(UH.grow Zp),(by simp [ZJ.grow];omega),(by rw [Y8 Z3,Ju] at YJ;first|(rw [Zo Zk] at YJ;exact YJ)|(rw [Zc Zk] at YJ;exact YJ)),rfl,rfl,rfl⟩ (wk [0,6,0,0,0,0,0,0] (fw (ZQ k fl)))
  refine az (iR 4 [(1,.p b1 0),(3,.p b2 0),(4,.i k),(37,.p b2 0),(39,Z0 rt.params),(40,.i k)] [1] [b1] (Zq (Zm none (k:Int) 1 (Y4 Z3)) (Z1 1 42 (.i x1) (ic [0,1,1,1,1,1,1] (Qn b2 ka kb kc kd ke kf L2 rt.lent x1 0 (-1) (hlk:=Zp)) ?_))))
  rintro _ _ ⟨wa2,wb2,wc2,wd2,we2,wf2,rfl⟩
  refine ie (az (Z5 1 (.n 15 (.i k) (.p .r)) (ZL k (ir 1 [(1,.p b1 0),(3,.p b2 0),(4,.i (k+1:Nat))] (ie ?_)))))
  exact ZO ⟨k+1,(L2.grow x1 0 (-1)),wa2,wb2,wc2,wd2,we2,wf2,ob,(UH.grow Zp),(by simp [ZJ.grow];omega),(by rw [Y8 Z3,Ju] at YJ;first|(rw [Zo Zk] at YJ;exact YJ)|(rw [Zc Zk] at YJ;exact YJ)),rfl,rfl,rfl⟩ (wk [0,6,0,0,0,0,0,0] (fw (ZQ k fl)))
 refine ax 0 (ar (ir 2 [(2,.p b2 0)] (ie ?_)))
 have hNl:L2=QP rt:=by rw [<-YJ,Xb om];rfl
 exact Zb (r1 [0,1,1,1,1,1,1] ⟨b2,ka,kb,kc,kd,ke,kf,rfl,rfl⟩ (eq:=(rc (rv (xs:=L2.vars) (by rw [hNl]) (rv (xs:=L2.own) (by rw [hNl]) (rv (xs:=L2.par) (by rw [hNl]) (rv (xs:=L2.con) (by rw [hNl]) (rv (xs:=L2.fst) (by rw [hNl]) (rv (xs:=L2.tok) (by rw [hNl]) rz)))))))))
theorem SJ (n:Zx) (f0:Nat) (k0:Nat) (rt:Yb) (hz:TC n:=by exact ob) (hr:n.routines[f0]? = some rt:=by exact ob) (hk0:k0<=rt.body.steps.length:=by exact ob):Zi Tryz.prog 161 [ZD n,.i f0,.i k0] [] (fun r h=>(∃(c:Nat) (wa:Hd) (wb:Hd) (wc:Hd) (wd:Hd) (we:Hd) (wf:Hd) (L:ZJ) (q:Int),r=.tup [.p c 0,.b true]/\h=[.obj c [.h wa,.h wb,.h wc,.h wd,.h we,.h wf,Z0 rt.lent],rV wa L.vars,rV wb L.own,rV wc L.par,rV wd L.con,rV we L.fst,rV wf L.tok]/\Xx n.decls L q/\L.vars.length=rt.params.length+YO (rt.body.steps.take k0)/\L.vars.length<=500000000/\rt.lent.length<=4194304)∨(r=.tup [.any,.b false]/\h=[]/\True)):=by
 have hzl:=hz.len
 have hfl:=(XM.1 hr).1
 have hrm:=Y7 hr
 have hbz:=hz.body _ hrm
 have ZE:=Vf rt.body
 have hbe:=rt.body.sz_eq
 obtain ⟨hk,hkv⟩:=Z3g n.decls rt
 refine ZK 64 Tryz.func161 (ar (iA (ZU n) ?_))
 intro b1
 refine ir 2 [(1,.i f0),(2,.i k0),(3,.p b1 0)] (ie (aq (ar (Yl 1 10 (ZD n) [0] [b1] (ZA [] (NO n) (XQ 12 [(1,.i f0),(2,.i k0),(3,.p b1 0),(21,.b ((!Wd n)||(!(decide (0<=(f0:Int)/\(f0:Int)<=((n.routines.length:Int)-1))))))] [.obj b1 (ZU n)] ?_ (fun hj1=>?_)))))))
 ·refine Xo [(1,.i f0),(2,.i k0),(3,.p b1 0),(34,.b (((!Wd n)||(!(decide (0<=(f0:Int)/\(f0:Int)<=((n.routines.length:Int)-1)))))||(!(decide (0<=(k0:Int)/\(k0:Int)<=(rt.body.steps.length:Int))))))] [.obj b1 (ZU n)] ?_ ?_
  ·refine ir 1 [(1,.i f0),(2,.i k0),(3,.p b1 0),(22,.b ((!Wd n)||(!(decide (0<=(f0:Int)/\(f0:Int)<=((n.routines.length:Int)-1))))))] (ib (b:=((!Wd n)||(!(decide (0<=(f0:Int)/\(f0:Int)<=((n.routines.length:Int)-1)))))) 22 (fun Za=>?_) (fun Za=>?_))
   ·have ZP:(¬(Wd n=true))∨(¬(0<=(f0:Int)/\(f0:Int)<=((n.routines.length:Int)-1))):=((Yo (Yw Iff.rfl) (Yw dq))).1 Za
    refine Z5 12 (.n 34 (.b true) (.d (.k (.k (.k .z))))) (ie ?_)
    exact wk [0] (fw (fr (Zu true Za fl)))
   have Y1:¬((¬(Wd n=true))∨(¬(0<=(f0:Int)/\(f0:Int)<=((n.routines.length:Int)-1)))):=ZI (Yo (Yw Iff.rfl) (Yw dq)) Za
   refine Y2 4 (.n 23 (.i k0) (.n 25 (YZ n.routines) (.n 26 (.i f0) (.w .z)))) [0] [b1] (Zq (Zm none (f0:Int) 5 (WB hr)) (Z1 3 30 (Ye rt.body.steps) (iw (Vl rt.body.steps) (ZA [] (UC (k0:Int) 0 (rt.body.steps.length:Int)) (Z1 2 34 (.b (!(decide (0<=(k0:Int)/\(k0:Int)<=(rt.body.steps.length:Int))))) (ie ?_))))))
   exact wk [0] (fw (fr (Zu (!(decide (0<=(k0:Int)/\(k0:Int)<=(rt.body.steps.length:Int)))) Za fl)))
  refine ac (((!Wd n)||(!(decide (0<=(f0:Int)/\(f0:Int)<=((n.routines.length:Int)-1)))))||(!(decide (0<=(k0:Int)/\(k0:Int)<=(rt.body.steps.length:Int))))) (p:=((¬(Wd n=true))∨(¬(0<=(f0:Int)/\(f0:Int)<=((n.routines.length:Int)-1))))∨(¬(0<=(k0:Int)/\(k0:Int)<=(rt.body.steps.length:Int)))) (Yo (Yo (Yw Iff.rfl) (Yw dq)) (Yw dq)) (fun Ze=>?_) (fun Ze=>?_)
  ·refine ar (ir 1 [(35,.agg [.sl [] none,.sl [] none,.sl [] none,.sl [] none,.sl [] none,.sl [] none,.sl [] none])] (iA [.sl [] none,.sl [] none,.sl [] none,.sl [] none,.sl [] none,.sl [] none,.sl [] none] ?_))
   intro b2
   refine ir 2 [(6,.p b2 0),(7,.b false)] (ie ?_)
   exact Zb (r2 [] [.p b2 0,.b false] (.inr ⟨rfl,rfl,(by first|exact True.intro|exact ⟨Zp,by rw [show k0=j by omega];exact J4,by omega,hll⟩)⟩) (Zg.tup (.cons (Zg.any _) (.cons (lr _) .nil))))
  have hV:Wd n=true:=ER fun z=>Ze (.inl (.inl z))
  obtain ⟨hok,hall⟩:=Og hz hV
  have hty:=hall rt hrm
  obtain ⟨vs,t0,hvs,hres,hrt0⟩:=I3 hty
  have hpl:=hok.params_at hr
  have hll:=hok.lent_at hr
  refine ak (ar (iR 3 [(1,.i f0),(2,.i k0),(3,.p b1 0),(38,YZ n.routines),(39,.i f0)] [0] [b1] (Zq (Zm none (f0:Int) 5 (WB hr)) (Z1 1 41 (WS rt) (ic [] (Z6t rt) ?_)))))
  rintro _ _ ⟨c1,wa1,wb1,wc1,wd1,we1,wf1,rfl,rfl⟩
  refine Z1 1 8 (.p c1 0) (ie (aq (ar (Z1 1 9 (.i 0) (ie (ab 0 (al (fun m F h=>∃(j:Nat) (q2:Int) (L2:ZJ) (ka:Hd) (kb:Hd) (kc:Hd) (kd:Hd) (ke:Hd) (kf:Hd),(j<=k0)/\(Xx n.decls L2 q2)/\(0<=q2/\q2+4*Yp (rt.body.steps.drop j)<=999999990)/\(L2.vars.length+4*Yp (rt.body.steps.drop j)<=400000000)/\(V9 n (rt.body.steps.drop j) L2.vars=some vs)/\(L2.vars.length=rt.params.length+YO (rt.body.steps.take j))/\F=[(1,.i f0),(2,.i k0),(3,.p b1 0),(8,.p c1 0),(9,.i j)]/\h=[.obj c1 [.h ka,.h kb,.h kc,.h kd,.h ke,.h kf,Z0 rt.lent],.obj b1 (ZU n),rV ka L2.vars,rV kb L2.own,rV kc L2.par,rV kd L2.con,rV ke L2.fst,rV kf L2.tok]/\m=k0-j) _ _ _ ⟨0,1,(QP rt),wa1,wb1,wc1,wd1,we1,wf1,ob,hk,(by rw [Jz];omega),(by rw [Jz,hkv];omega),(by rw [Jz,hkv];exact hvs),(by rw [hkv];rfl),rfl,rfl,rfl⟩ (wk [0,6,0,0,0,0,0,0] (fq (Ya fl))) ?_)))))))
  rintro m F h ⟨j,q2,L2,ka,kb,kc,kd,ke,kf,Yj,Zp,Zy,YJ,Wg,J4,rfl,rfl,rfl⟩
  refine aq (ar (Z1 3 45 (.b (decide ((j:Int)<(k0:Int)))) (ie (ZM ((j:Int)<(k0:Int)) (fun Zk=>?_) (fun Zk=>?_)))))
  ·obtain ⟨s1,hs1⟩:=Zr (xs:=rt.body.steps) (j:=j) om
   have hss:=QY hs1
   have hsp:=s1.sz_pos
   have hzd:=NR hs1
   have hdt:=Iu hs1
   have hdr:=Y8 hs1
   rw [hdr] at Wg
   obtain ⟨g1,g2⟩:=O2 Wg
   refine ak (aq (ab 1 (aD 14 (Y6 9 14 [0,1,2,3,4] (.n 48 (.p c1 0) (.n 49 (ZD n) (.n 51 (YZ n.routines) (.n 52 (.i f0) .r)))) [1,1] [b1,b1] (dx 5 (Zm none (f0:Int) 5 (WB hr)) (Y0 4 8 [6,7,8,9] (.n 56 (Ye rt.body.steps) (.n 57 (.i j) .r)) (dx 10 (Zm none (j:Int) 5 (Wa hs1)) (ZZ 2 3 [11] 59 (Y3 s1) (Z9 12 (dc 12 [0,1,1,1,1,1,1] [] [] (Z33 c1 ka kb kc kd ke kf n s1 L2 rt.lent q2 hok ob Zp g1 om om) ?_))))))))))
   rintro _ _ (⟨wa2,wb2,wc2,wd2,we2,wf2,M'1,rfl,rfl,Yy⟩|⟨rfl,rfl,YK⟩)
   ·have hP:=Yy
    have kx:=NZ hok Zp Zy.1 g1 hP
    have hsf:=Z61 g1
    refine ZZ 0 1 [13] 61 (.b false) (de (WT (ak (az (Z1 1 46 (.i j) (ZL j (ir 1 [(1,.i f0),(2,.i k0),(3,.p b1 0),(8,.p c1 0),(9,.i (j+1:Nat))] (ie ?_))))))))
    exact ZO ⟨j+1,(q2+4*s1.sz),M'1,wa2,wb2,wc2,wd2,we2,wf2,ob,kx.1,om,(by rw [kx.2,hsf];split<;>omega),(by rw [kx.2];exact g2),(by rw [kx.2,hsf,hdt];split<;>omega),rfl,rfl,rfl⟩ (wk [0,6,0,0,0,0,0,0] (fq (ZQ j fl)))
   refine ZZ 0 1 [13] 61 (.b true) (de (WU (ar (ir 3 [(6,.p c1 0),(7,.b false)] (ie ?_)))))
   exact Zb (r2 [] [.p c1 0,.b false] (.inr ⟨rfl,rfl,(by first|exact True.intro|exact ⟨Zp,by rw [show k0=j by omega];exact J4,by omega,hll⟩)⟩) (Zg.tup (.cons (Zg.any _) (.cons (lr _) .nil))))
  refine ax 0 (ar (ir 3 [(6,.p c1 0),(7,.b true)] (ie ?_)))
  exact Zb (r2 [0,1,1,1,1,1,1] [.p c1 0,.b true] (.inl ⟨c1,ka,kb,kc,kd,ke,kf,L2,_,rfl,rfl,(by first|exact True.intro|exact ⟨Zp,by rw [show k0=j by omega];exact J4,by omega,hll⟩)⟩) (lr _))
 refine ir 2 [(1,.i f0),(2,.i k0),(3,.p b1 0),(13,.b (!Wd n))] (ib (b:=(!Wd n)) 13 (fun Zz=>?_) (fun Zz=>?_))
 ·have X0:¬(Wd n=true):=((Yw Iff.rfl)).1 Zz
  refine Z5 8 (.n 21 (.b true) (.d (.k (.k (.k .z))))) ?_
  exact YG (wk [0] (fw (fr (Zu true Zz fl)))) hj1
 have XB:¬(¬(Wd n=true)):=ZI (Yw Iff.rfl) Zz
 refine Y2 3 (.n 14 (.i f0) (.n 16 (YZ n.routines) (.w .z))) [0] [b1] (iw (VV n.routines) (ia (((n.routines.length:Int)-1)) (((n.routines.length:Int))-(1)) (ZA [] (UC (f0:Int) 0 ((n.routines.length:Int)-1)) (Z1 2 21 (.b (!(decide (0<=(f0:Int)/\(f0:Int)<=((n.routines.length:Int)-1))))) ?_))))
 exact YG (wk [0] (fw (fr (Zu (!(decide (0<=(f0:Int)/\(f0:Int)<=((n.routines.length:Int)-1)))) Zz fl)))) hj1
theorem DL (b:Z6) (i0:Nat) (s:Z4) (hi:i0<=b.steps.length:=by exact ob) (hz:b.sz<=100000000:=by exact ob):Zi Tryz.prog 87 [Zs b,.i i0,Y3 s] [] (fun r h=>r=Zs (Z6.mk (Wc b.steps i0 s) b.result)/\h=[]):=by
 have ZE:=Vf b
 refine ZK 26 Tryz.func87 (ar (iA (Yk b) ?_))
 intro b1
 refine iA (Yg s) ?_
 intro b2
 refine iA [nl,.i 0] ?_
 intro b3
 refine ie (ar (iL (Zv []) 0 5 ?_))
 intro v1
 refine iR 3 [(1,.i i0),(3,.p b1 0),(5,.p b2 0),(6,.p b3 0),(8,ZX [] v1),(10,Ye b.steps),(11,.i i0)] [3] [b1] (Zq (Kl (es:=Zv b.steps) (hv:=none) (l:=0) (m:=(i0:Int)) (sz:=5) (es':=Zv (b.steps.take i0)) kr om (by simp<;>omega) (by simp<;>omega) (X8 _) (by first|(simp only [VR,Vp,Jb,Ja];done)|(simp only [VR,Vp,Jb,Ja];rfl)|(simp [Jb,Ja];done))) (ip 0 (Zv (b.steps.take i0)) (Zv []) (Zv (b.steps.take i0)) v1 none 5 (X8 _) (X8 _) (Vv _) (by simp<;>omega) (by simp [Vd]) ?_))
 intro v2
 refine Z1 1 7 (ZX (b.steps.take i0) v2) (ie (aD 13 (Y6 8 13 [0,1,4,5,6] (.n 14 (ZX (b.steps.take i0) v2) (.n 15 (Y3 s) (.n 19 (Ye b.steps) (.n 20 (.i i0) .r)))) [2,3] [b2,b1] (dx 7 (Kl (es:=Zv b.steps) (hv:=none) (l:=(i0:Int)) (m:=(((Zv b.steps).length:Nat):Int)) (sz:=5) (es':=Zv (b.steps.drop i0)) kr om (by simp<;>omega) (by simp<;>omega) (X8 _) (by first|(simp only [VR,Vp,Jb,Ja];done)|(simp only [VR,Vp,Jb,Ja];rfl)|(simp [Jb,Ja];done))) (Y6 5 7 [9,10] (.n 24 (.i b.result) .r) [3] [b1] (Z9 2 (dL 2 [2,2] [b1,b1] [Y3 s] 1 5 ?_)))))))
 intro v3
 refine Y0 4 4 [] (.n 16 (.sl [Y3 s] none) (.p .r)) (Z9 3 (dp 3 1 [2,2] [b1,b1] (Zv ((b.steps.take i0)++[s])) (Zv (b.steps.take i0)) [Y3 s] v2 none 5 (X8 _) (TJ rfl) rfl (by simp<;>omega) (by simp [Wy,Vd]) ?_))
 intro v4
 refine Z9 8 (dp 8 0 [2] [b1] (Zv (Wc b.steps i0 s)) (Zv ((b.steps.take i0)++[s])) (Zv (b.steps.drop i0)) v4 none 5 (X8 _) (X8 _) (Vv _) (by simp<;>omega) (by simp only [Wc,Wy]) ?_)
 intro v5
 refine ZZ 1 2 [11] 25 (.agg [ZX (Wc b.steps i0 s) v5,.i b.result]) (Z9 12 (YL 12 2 [] [] b3 [ZX (Wc b.steps i0 s) v5,.i b.result] (de ?_)))
 exact Zb (r3 [] [.agg [ZX (Wc b.steps i0 s) v5,.i b.result]] [0] [(b3,b3)] ⟨rfl,rfl⟩ (Zg.agg (.cons (Zg.sl _ (Yx Zv rfl)) (.cons li .nil))))
theorem Gd (n:Zx) (f0:Nat) (b:Z6) (rt:Yb) (hr:n.routines[f0]? = some rt:=by exact ob) (hl:n.routines.length<=1000000:=by exact ob) (hp:rt.params.length<=4294967296:=by exact ob) (hl2:rt.lent.length<=4294967296:=by exact ob):Zi Tryz.prog 100 [ZD n,.i f0,Zs b] [] (fun r h=>∃(g:Nat) (c:Nat),r=.agg [Zd n.decls,.ms g 0 n.routines.length c]/\h=[.row (.slice (some ⟨g,0,none⟩) n.routines.length c) 5 (Zl (YN (n.routines.set f0 (Yb.mk rt.params rt.lent rt.result b))))]):=by
 have hfl:=(XM.1 hr).1
 refine ZK 26 Tryz.func100 (ar (iA (ZU n) ?_))
 intro b1
 refine iA (Yk b) ?_
 intro b2
 refine iA [nl,nl] ?_
 intro b3
 refine ie (ar (DT 5 ?_))
 intro g1
 refine iR 2 [(1,.i f0),(3,.p b1 0),(5,.p b2 0),(6,.p b3 0),(8,.ms g1 0 0 0),(10,YZ n.routines)] [3] [b1] (iKC 0 g1 5 (YN n.routines) none (Ue _) (by simp<;>omega) ?_)
 intro v1
 refine DR 0 n.routines.length (v:=v1) (DE _) om (fun g2 c1 he1=>?_)
 subst he1
 refine ir 1 [(1,.i f0),(3,.p b1 0),(5,.p b2 0),(6,.p b3 0),(7,.ms g2 0 n.routines.length c1)] (ie (aD 11 (Y6 6 11 [0,1,2,3,4] (.n 12 (.ms g2 0 n.routines.length c1) (.n 13 (.i f0) (.n 15 (YZ n.routines) (.n 16 (.i f0) .r)))) [3] [b1] (dx 5 (Zm none (f0:Int) 5 (WB hr)) (Y6 3 5 [6,7] (.n 18 (WS rt) (.n 19 (Zs b) .r)) [2] [b2] (Z9 8 (Yv 8 [] [] [] (BX rt b) (dx 9 (W4 g2 n.routines.length c1 f0 5 (f0:Int)) (Z9 10 (AJ 10 0 [] [] g2 n.routines.length c1 5 (f0*5) (VW (Yb.mk rt.params rt.lent rt.result b)) (Zl (YN n.routines)) (Zl (YN (n.routines.set f0 (Yb.mk rt.params rt.lent rt.result b)))) (by rw [DE];simp only [YS,Xm];omega) (RY (Yb.mk rt.params rt.lent rt.result b) hfl) (de (ar (Yl 4 25 (.agg [Zd n.decls,.ms g2 0 n.routines.length c1]) [3] [b1] (ZF 1 b3 [Zd n.decls,.ms g2 0 n.routines.length c1] (ie ?_)))))))))))))))
 exact Zb (r3 [1] [.agg [Zd n.decls,.ms g2 0 n.routines.length c1]] [0] [(b3,b3)] ⟨g2,c1,rfl,rfl⟩ (lr _))
theorem Ll (n:Zx) (f0:Nat) (b:Z6) (rt:Yb) (hr:n.routines[f0]? = some rt:=by exact ob) (hl:n.routines.length<=1000000:=by exact ob) (hp:rt.params.length<=4294967296:=by exact ob) (hl2:rt.lent.length<=4294967296:=by exact ob):Zi Tryz.prog 100 [ZD n,.i f0,Zs b] [] (fun r h=>r=ZD (withR n f0 rt b)/\h=[]):=(Zi.frzN (ds:=n.decls) (rs:=(n.routines.set f0 (Yb.mk rt.params rt.lent rt.result b))) (hs:=[]) ((Gd n f0 b rt hr hl hp hl2).mono fun r h ⟨g,c,e1,e2⟩=>⟨g,c,by rw [e1];simp only [UU],by rw [e2];simp only [UU]⟩))
theorem KH (rd:Nat) (bs:List Int) (p:Nat) (mx:Nat) (ZE:∀z∈bs,0<=z/\z<=255) (hp:p+1<=1000000000:=by exact ob) (hmx:0<mx:=by exact ob):Zi Tryz.prog 50 [.p rd 0,.i mx] [Yn rd bs p] (fun r h=>∃(kn:Nat),r=.i kn/\h=[.obj rd [X9 bs,.i (p+1:Nat)]]/\kn<mx):=(XP rd bs p mx ZE hp).mono fun r h ⟨z,hr,hh,hz⟩=>by
  have h0:=hz.lt om
  exact ⟨z.toNat,by rw [hr,Int.toNat_of_nonneg h0.1],hh,by omega⟩
theorem Le (rd:Nat) (bs:List Int) (p:Nat) (n:Zx) (ZE:∀z∈bs,0<=z/\z<=255) (hp:p+4<=1000000000:=by exact ob) (hz:TC n:=by exact ob) (hl1:1<=n.routines.length/\n.routines.length<=1000000:=by exact ob):Zi Tryz.prog 123 [.p rd 0,ZD n] [Yn rd bs p] (fun r h=>∃(n2:Zx) (p2:Nat),r=ZD n2/\h=[Yn rd bs p2]/\F6 n n2/\p<=p2/\p2<=p+4):=by
 refine ZK 102 Tryz.func123 (ar (iA (ZU n) ?_))
 intro b1
 refine iA [nl,nl] ?_
 intro b2
 refine ie (ar (iR 3 [(0,.p rd 0),(3,.p b1 0),(4,.p b2 0),(14,.p rd 0),(16,YZ n.routines)] [1] [b1] (iw (VV n.routines) (ic [2] (KH rd bs p n.routines.length (ZE:=ob)) ?_))))
 rintro _ _ ⟨Yd,rfl,rfl,ZP⟩
 refine Z1 1 5 (.i Yd) (ie (ar (ZY 3 20 (YZ n.routines) 21 (.i Yd) [2] [b1] ?_)))
 obtain ⟨x1,Z3⟩:=Zr (xs:=n.routines) (j:=Yd) om
 have hrm:=Y7 Z3
 have hbz:=hz.body _ hrm
 have ZE:=Vf (x1).body
 have hpl:=hz.params _ hrm
 have hll:=hz.lent _ hrm
 have hrx:=Z3
 refine Zq (Zm none (Yd:Int) 5 (WB Z3)) (Z1 2 24 (Zs x1.body) (iA [nl,.i 0] ?_))
 intro b3
 refine ZF 0 b3 (Yk x1.body) (ie (ar (ZY 3 25 (.p rd 0) 27 (Ye x1.body.steps) [0] [b3] (iw (Vl x1.body.steps) (ia (((x1.body.steps.length+1:Nat):Int)) (((x1.body.steps.length:Int))+(1)) (ic [1] (KH rd bs (p+1) (x1.body.steps.length+1) (ZE:=ob)) ?_))))))
 rintro _ _ ⟨YC,rfl,rfl,Y1⟩
 refine Z1 1 7 (.i YC) (ie (ar (Y2 3 (.n 32 (ZD n) (.n 33 (.i Yd) (.n 34 (.i YC) .r))) [3] [b1] (ic [] (SJ n Yd YC x1 (hr:=hrx)) ?_))))
 rintro _ _ (⟨c1,wa1,wb1,wc1,wd1,we1,wf1,L1,q1,rfl,rfl,Yy⟩|⟨rfl,rfl,YK⟩)
 ·obtain ⟨hLO,hLv,hLb,hLl⟩:=Yy
  have hLn:=hLO.len
  obtain ⟨e1,e2,e3,e4,e5⟩:=hLO.len
  refine Yq 5 8 (.p c1 0) 9 (.b true) (ie (aq (ar (Z1 2 39 (.b false) (ie (WT (ak (ar (iL (Z8 []) 0 1 ?_)))))))))
  intro v1
  refine Z1 1 10 (Z7 [] v1) (ie (aq (ar (Z1 1 11 (.i 0) (ie (ab 0 (al (fun m F h=>∃(k:Nat) (vl:List Int) (u:Value),(k<=L1.vars.length)/\(vl.length<=k)/\(∀v∈vl,0<=v/\v<(L1.vars.length:Int))/\F=[(0,.p rd 0),(3,.p b1 0),(4,.p b2 0),(5,.i Yd),(6,.p b3 0),(7,.i YC),(8,.p c1 0),(10,Z7 vl u),(11,.i k)]/\h=[.obj c1 [.h wa1,.h wb1,.h wc1,.h wd1,.h we1,.h wf1,Z0 x1.lent],rV wa1 L1.vars,rV wb1 L1.own,rV wc1 L1.par,rV wd1 L1.con,rV we1 L1.fst,rV wf1 L1.tok,.obj rd [X9 bs,.i (((p+1)+1:Nat):Int)],.obj b3 (Yk x1.body),.obj b2 [nl,nl],.obj b1 (ZU n),.tail u 1]/\m=L1.vars.length-k) _ _ _ ⟨0,[],v1,ob,ob,(fun v hv=>by cases hv),rfl,rfl,rfl⟩ (wk [1,1,1,1,1,1,1,1,1,1,1,0] (fq (fq (Ya fl)))) ?_)))))))
  rintro m F h ⟨k,vl,u,Yj,Zp,Zy,rfl,rfl,rfl⟩
  refine aq (ar (ZY 5 42 (.i k) 46 (.h wa1) [0] [c1] (Zq (Jw 1 wa1 L1.vars) (Z1 1 48 (.b (decide ((k:Int)<(L1.vars.length:Int)))) (ie (ZM ((k:Int)<(L1.vars.length:Int)) (fun Ze=>?_) (fun Ze=>?_)))))))
  ·refine ak (aq (ab 1 (ar (ZY 5 54 (.h wa1) 55 (.i k) [0] [c1] (Zq (Vo 1 wa1 L1.vars (k:Int) k) ?_)))))
   obtain ⟨x2,Zt⟩:=Zr (xs:=L1.vars) (j:=k) om
   refine VI (Tj 1 wa1 L1.vars k x2 Zt) (Z1 2 59 (.b (x2 != 0)) (ib (b:=(x2 != 0)) 59 (fun Za=>?_) (fun Za=>?_)))
   ·have X0:x2≠0:=(Yi).1 Za
    refine Z5 2 (.n 60 (.p c1 0) (.n 61 (.i k) (.k (.d .r)))) (ZA [0,0,0,0,0,0,0] (E5 c1 wa1 wb1 wc1 wd1 we1 wf1 L1 x1.lent (k:Int) (hlk:=hLO.len) (hd:=hLO.down)) (Z1 1 63 (.b (VD L1 x1.lent (k:Int))) (ie (ac (VD L1 x1.lent (k:Int)) Iff.rfl (fun Zk=>?_) (fun Zk=>?_)))))
    ·refine az (Yq 2 64 (Z7 vl u) 65 (.i k) (iL (Z8 [(k:Int)]) 1 1 ?_))
     intro v2
     refine Z5 0 (.n 66 (Z0 [(k:Int)]) (.p .r)) (ip 12 (Z8 (vl++[(k:Int)])) (Z8 vl) (Z8 [(k:Int)]) u none 1 (YF _) (YF _) (XX _) (by simp<;>omega) (by simp [XW,Z8]) ?_)
     intro v3
     refine Z5 1 (.n 10 (Z7 (vl++[(k:Int)]) v3) (.p (.d (.d (.d (.d (.p (.d (.d (.d (.p (.p (.d (.d (.d (.p (.d (.d (.w (.k (.k (.k (.d .r))))))))))))))))))))))) (ie (az (Z1 1 49 (.i k) (ZL k (Z5 1 (.n 11 (.i (k+1:Nat)) (.p (.d (.w (.w .z))))) (ie ?_))))))
     exact ZO ⟨k+1,(vl++[(k:Int)]),v3,ob,ob,(by first|exact Zy|exact Xp Zy om),rfl,rfl,rfl⟩ (wk [2,2,2,2,2,2,2,2,2,2,2,0] (fq (fq (ZQ k fl))))
    refine ak (az (Z1 1 49 (.i k) (ZL k (Z5 1 (.n 11 (.i (k+1:Nat)) (.p (.d (.d (.p (.d (.d (.d (.p (.p (.d (.d (.d (.p (.d (.d (.w (.w .z)))))))))))))))))) (ie ?_)))))
    exact ZO ⟨k+1,vl,u,ob,ob,(by first|exact Zy|exact Xp Zy om),rfl,rfl,rfl⟩ (ZT 12 (fq (fq (ZQ k fl))))
   have XB:¬(x2≠0):=ZI Yi Za
   refine Z5 4 (.n 63 (.b false) (.k (.d .r))) (ie (WT (ak (az (Z1 1 49 (.i k) (ZL k (Z5 1 (.n 11 (.i (k+1:Nat)) (.p (.d (.d (.d (.p (.p (.d (.d (.d (.p (.d (.d (.w (.w .z))))))))))))))) (ie ?_))))))))
   exact ZO ⟨k+1,vl,u,ob,ob,(by first|exact Zy|exact Xp Zy om),rfl,rfl,rfl⟩ (ZT 12 (fq (fq (ZQ k fl))))
  refine ax 0 (aq (ar (Z1 1 68 (Z7 vl u) (iw (Yh vl) (Z1 1 70 (.b ((vl.length:Int)==0)) (ie (ac ((vl.length:Int)==0) Zh (fun ZG=>?_) (fun ZG=>?_))))))))
  ·refine ar (Yl 1 71 (ZD n) [10] [b1] (ZF 9 b2 (ZU n) (ie ?_)))
   exact Zb (r3 [8] [ZD n] [0] [(b2,b2)] ⟨n,(p+1)+1,rfl,rfl,(by first|exact ⟨.inl rfl,by omega,by omega⟩|(have hv:=Zy x3 (Y7 YT);exact ⟨.inr ⟨Yd,x1,YC,YC+UP,x3,hrx,by omega,by omega,hv.1,by omega,rfl⟩,by omega,by omega⟩))⟩ (lr _))
  refine ak (ar (Z5 3 (.n 72 (Z7 vl u) (.n 73 (.p rd 0) (.n 74 (Z7 vl u) .r))) (iw (Yh vl) (ic [7] (KH rd bs ((p+1)+1) vl.length (ZE:=ob)) ?_))))
  rintro _ _ ⟨LV,rfl,rfl,Wk⟩
  obtain ⟨x3,YT⟩:=Zr (xs:=vl) (j:=LV) om
  refine Zq (Zm (some u) (LV:Int) 1 (Y4 YT)) (Z1 2 12 (.i x3) (ie (ar (Y2 4 (.n 79 (.i YC) (.n 80 (.p rd 0) (.n 82 (Ye x1.body.steps) .r))) [8] [b3] (iw (Vl x1.body.steps) (Z1 1 84 (.i YC) (ia ((((x1.body.steps.length-YC):Nat):Int)) (((x1.body.steps.length:Int))-((YC:Int))) (ia ((((x1.body.steps.length-YC)+1:Nat):Int)) (((((x1.body.steps.length-YC):Nat):Int))+(1)) (ic [0] (KH rd bs (((p+1)+1)+1) ((x1.body.steps.length-YC)+1) (ZE:=ob)) ?_)))))))))
  rintro _ _ ⟨UP,rfl,rfl,WJ⟩
  refine ia (((YC+UP:Nat):Int)) (((YC:Int))+((UP:Int))) (Z1 1 13 (.i (YC+UP:Nat)) (ie (aD 6 (Y6 3 6 [0,1,2] (.n 89 (Zs x1.body) (.n 90 (.i (YC+UP:Nat)) (.n 91 (.i x3) .r))) [8] [b3] (Z9 3 (Yv 3 [] [2] [b3] (KU 15 x3) (Z9 4 (Yv 4 [] [] [] (DL x1.body (YC+UP) (Zj 15 x3) (hi:=(by first|omega|(show YC<=(Wc _ _ _).length;rw [MQ om];omega))) (hz:=(by first|omega|(rw [Z6.sz,CR];have e:(Zj 15 x3).sz=2:=rfl;have e2:=x1.body.sz_eq;omega)))) (Z9 5 (YL 5 8 [] [] b3 (Yk (Z6.mk (Wc x1.body.steps (YC+UP) (Zj 15 x3)) x1.body.result)) (de (aD 9 (W2 4 9 [0,1,2,3,4] [(4,.p b2 0),(94,ZD n),(95,.i Yd),(96,Zs (Z6.mk (Wc x1.body.steps (YC+UP) (Zj 15 x3)) x1.body.result)),(97,.i YC),(98,.i x3)] [10,0] [b1,b3] (Z9 5 (Yv 5 [] [0,4] [b3,b1] (KU 14 x3) (Z9 6 (Yv 6 [] [4] [b1] (DL (Z6.mk (Wc x1.body.steps (YC+UP) (Zj 15 x3)) x1.body.result) YC (Zj 14 x3) (hi:=(by first|omega|(show YC<=(Wc _ _ _).length;rw [MQ om];omega))) (hz:=(by first|omega|(rw [Z6.sz,CR];have e:(Zj 15 x3).sz=2:=rfl;have e2:=x1.body.sz_eq;omega)))) (Z9 7 (Yv 7 [] [] [] (Ll n Yd (Z6.mk (Wc (Z6.mk (Wc x1.body.steps (YC+UP) (Zj 15 x3)) x1.body.result).steps YC (Zj 14 x3)) (Z6.mk (Wc x1.body.steps (YC+UP) (Zj 15 x3)) x1.body.result).result) x1 (hr:=hrx)) (Z9 8 (YL 8 9 [] [] b2 (ZU (withR n Yd x1 (Z6.mk (Wc (Z6.mk (Wc x1.body.steps (YC+UP) (Zj 15 x3)) x1.body.result).steps YC (Zj 14 x3)) (Z6.mk (Wc x1.body.steps (YC+UP) (Zj 15 x3)) x1.body.result).result))) (de ?_))))))))))))))))))))))
  exact Zb (r3 [2] [ZD (withR n Yd x1 (Z6.mk (Wc (Z6.mk (Wc x1.body.steps (YC+UP) (Zj 15 x3)) x1.body.result).steps YC (Zj 14 x3)) (Z6.mk (Wc x1.body.steps (YC+UP) (Zj 15 x3)) x1.body.result).result))] [0] [(b2,b2)] ⟨(withR n Yd x1 (Z6.mk (Wc (Z6.mk (Wc x1.body.steps (YC+UP) (Zj 15 x3)) x1.body.result).steps YC (Zj 14 x3)) (Z6.mk (Wc x1.body.steps (YC+UP) (Zj 15 x3)) x1.body.result).result)),(((p+1)+1)+1)+1,rfl,rfl,(by first|exact ⟨.inl rfl,by omega,by omega⟩|(have hv:=Zy x3 (Y7 YT);exact ⟨.inr ⟨Yd,x1,YC,YC+UP,x3,hrx,by omega,by omega,hv.1,by omega,rfl⟩,by omega,by omega⟩))⟩ (lr _))
 refine Z1 5 9 (.b false) (ie (aq (ar (Z1 2 39 (.b true) (ie (WU (ar (Yl 1 40 (ZD n) [3] [b1] (ZF 2 b2 (ZU n) (ie ?_))))))))))
 exact Zb (r3 [1] [ZD n] [0] [(b2,b2)] ⟨n,(p+1)+1,rfl,rfl,(by first|exact ⟨.inl rfl,by omega,by omega⟩|(have hv:=Zy x3 (Y7 YT);exact ⟨.inr ⟨Yd,x1,YC,YC+UP,x3,hrx,by omega,by omega,hv.1,by omega,rfl⟩,by omega,by omega⟩))⟩ (lr _))
theorem Z74 (b:Z6) (hz:b.sz<=1000000000:=by exact ob):Zi Tryz.prog 239 [Zs b] [] (fun r h=>r=.i (((YX b.steps):Nat):Int)/\h=[]):=by
 have hbz:=Vf b
 refine ZK 20 Tryz.func239 (ar (iA (Yk b) ?_))
 intro b1
 refine ir 1 [(1,.p b1 0)] (ie (ar (Z1 1 3 (.i 0) (ie (aq (ab 0 (al (fun m F h=>∃(k:Nat),(k<=b.steps.length)/\(k+YX (b.steps.drop k)=YX b.steps)/\F=[(1,.p b1 0),(3,.i k)]/\h=[.obj b1 (Yk b)]/\m=b.steps.length-k) _ _ _ ⟨0,ob,(by simp),rfl,rfl,rfl⟩ (wk [0] (fr (Ya fl))) ?_)))))))
 rintro m F h ⟨k,Yj,Zp,rfl,rfl,rfl⟩
 refine aq (ar (ZY 3 4 (.i k) 6 (Ye b.steps) [0] [b1] (iw (Vl b.steps) (Z1 2 9 (.b (decide ((k:Int)<(b.steps.length:Int)))) (ib (b:=(decide ((k:Int)<(b.steps.length:Int)))) 9 (fun Za=>?_) (fun Za=>?_))))))
 ·have ZP:(k:Int)<(b.steps.length:Int):=(dq).1 Za
  refine Y2 3 (.n 11 (Ye b.steps) (.n 12 (.i k) (.k (.d .r)))) [0] [b1] ?_
  obtain ⟨x1,Z3⟩:=Zr (xs:=b.steps) (j:=k) om
  refine Zq (Zm none (k:Int) 5 (Wa Z3)) (Z1 1 14 (Y3 x1) (ZA [] (NH x1) (Z1 1 16 (.b ((x1.op==14)||(x1.op==15))) (ie (ac ((x1.op==14)||(x1.op==15)) (p:=(x1.op=14)∨(x1.op=15)) (Yo Zh Zh) (fun Ze=>?_) (fun Ze=>?_))))))
  ·refine ak (ab 1 (az (Z1 1 17 (.i k) (ZL k (ir 1 [(1,.p b1 0),(3,.i (k+1:Nat))] (ie ?_))))))
   exact ZO ⟨k+1,ob,(Z5k Z3 Ze Zp),rfl,rfl,rfl⟩ (wk [0] (fr (ZQ k fl)))
  refine ax 0 (ar (ir 2 [(2,.i k)] (ie ?_)))
  exact Zb (r2 [] [.i k] ⟨rfl,rfl⟩ (li (by have:=Z5l Z3 Ze Zp;omega)))
 have Y1:¬((k:Int)<(b.steps.length:Int)):=ZI dq Za
 refine Z5 7 (.n 16 (.b false) (.k (.d .r))) (ie (WT (ax 0 (ar (ir 2 [(2,.i k)] (ie ?_))))))
 exact Zb (r2 [] [.i k] ⟨rfl,rfl⟩ (li (by have:=Z5j om Zp;omega)))
theorem NB (b:Z6) (mm:Nat) (op:Int) (hm:mm<=b.steps.length:=by exact ob) (ha:∀s∈b.steps.take mm,s.op=op->∃a,s.args=[a]) (hz:b.sz<=1000000000:=by exact ob):Zi Tryz.prog 240 [Zs b,.i mm,.i op] [] (fun r h=>∃(v:Value),r=Z7 (XN op (b.steps.take mm)) v/\h=[.tail v 1]):=by
 have hbz:=Vf b
 refine ZK 35 Tryz.func240 (ar (iA (Yk b) ?_))
 intro b1
 refine ir 1 [(1,.i mm),(2,.i op),(3,.p b1 0)] (ie (ar (iL (Z8 []) 0 1 ?_)))
 intro v1
 refine Z1 1 7 (Z7 [] v1) (ie (aq (ar (Z1 1 8 (.i 0) (ie (ab 0 (al (fun m F h=>∃(k:Nat) (acc:List Int) (v:Value),(k<=mm)/\(acc.length<=k)/\(acc++XN op ((b.steps.take mm).drop k)=XN op (b.steps.take mm))/\F=[(1,.i mm),(2,.i op),(3,.p b1 0),(7,Z7 acc v),(8,.i k)]/\h=[.obj b1 (Yk b),.tail v 1]/\m=mm-k) _ _ _ ⟨0,[],v1,ob,ob,(by simp),rfl,rfl,rfl⟩ (wk [1,0] (fq (Ya fl))) ?_)))))))
 rintro m F h ⟨k,acc,v,Yj,Zp,Zy,rfl,rfl,rfl⟩
 refine aq (ar (Z1 3 12 (.b (decide ((k:Int)<(mm:Int)))) (ie (ZM ((k:Int)<(mm:Int)) (fun Ze=>?_) (fun Ze=>?_)))))
 ·refine ak (aq (ab 1 (ar (ZY 3 16 (Ye b.steps) 17 (.i k) [0] [b1] ?_))))
  obtain ⟨x1,Z3⟩:=Zr (xs:=b.steps) (j:=k) om
  have hxt:(b.steps.take mm)[k]? = some x1:=by rw [List.getElem?_take_of_lt om];exact Z3
  have hxm:=Y7 hxt
  refine Zq (Zm none (k:Int) 5 (Wa Z3)) (Z1 4 22 (.b (x1.op==op)) (ie (ac (x1.op==op) Zh (fun Zk=>?_) (fun Zk=>?_))))
  ·refine az (Y2 4 (.n 23 (Z7 acc v) (.n 25 (Ye b.steps) (.n 26 (.i k) .r))) [0] [b1] (Zq (Zm none (k:Int) 5 (Wa Z3)) (Z1 2 29 (Z0 x1.args) ?_)))
   obtain ⟨x2,Zt⟩:=Zr (xs:=x1.args) (j:=0) (by obtain ⟨a,ha2⟩:=ha x1 hxm Zk;rw [ha2];simp)
   have hg0:=Jf Zt
   refine Zq (Zm none 0 1 (Y4 Zt)) (Z1 1 31 (.i x2) (iL (Z8 [x2]) 1 1 ?_))
   intro v2
   refine Z5 0 (.n 32 (Z0 [x2]) (.p .r)) (ip 2 (Z8 (acc++[x2])) (Z8 acc) (Z8 [x2]) v none 1 (YF _) (YF _) (XX _) (by simp<;>omega) (by simp [XW,Z8]) ?_)
   intro v3
   refine ir 1 [(1,.i mm),(2,.i op),(3,.p b1 0),(7,Z7 (acc++[x2]) v3),(8,.i k)] (ie (az (Z1 1 13 (.i k) (ZL k (Z5 1 (.n 8 (.i (k+1:Nat)) (.p (.d (.w .z)))) (ie ?_))))))
   exact ZO ⟨k+1,(acc++[x2]),v3,ob,(by simp;omega),(by have h:=OZ hxt Zk Zy;rw [hg0] at h;exact h),rfl,rfl,rfl⟩ (wk [2,0] (fq (ZQ k fl)))
  refine ak (az (Z1 1 13 (.i k) (ZL k (Z5 1 (.n 8 (.i (k+1:Nat)) (.p (.d (.d (.p (.d (.d (.d (.w .z))))))))) (ie ?_)))))
  exact ZO ⟨k+1,acc,v,ob,ob,(OY hxt Zk Zy),rfl,rfl,rfl⟩ (wk [0,0] (fq (ZQ k fl)))
 refine ax 0 (ar (ir 2 [(6,Z7 acc v)] (ie ?_)))
 exact Zb (r2 [1] [Z7 acc v] ⟨v,rfl,rfl⟩ (Zg.slh _ (Yx Z8 (OX (by rw [Ww];omega) Zy))))
theorem NP (xs:List Int) (y:Int) (hl:xs.length<=1000000000:=by exact ob):Zi Tryz.prog 241 [Z0 xs,.i y] [] (fun r h=>∃(v:Value),r=Z7 (xs.erase y) v/\h=[.tail v 1]):=by
 refine ZK 33 Tryz.func241 (ar (ir 1 [(0,Z0 xs),(1,.i y)] (ie (ar (iL (Z8 []) 0 1 ?_)))))
 intro v1
 refine Z1 1 5 (Z7 [] v1) (ie (ar (Z1 1 6 (.b false) (ie (aq (ar (Z1 1 7 (.i 0) (ie (ab 0 (al (fun m F h=>∃(k:Nat) (acc:List Int) (d:Bool) (v:Value),(k<=xs.length)/\(acc.length<=k)/\(acc++(if d=true then xs.drop k else (xs.drop k).erase y)=xs.erase y)/\F=[(0,Z0 xs),(1,.i y),(5,Z7 acc v),(6,.b d),(7,.i k)]/\h=[.tail v 1]/\m=xs.length-k) _ _ _ ⟨0,[],false,v1,ob,ob,(by simp),rfl,rfl,rfl⟩ (wk [0] (fq (Ya fl))) ?_))))))))))
 rintro m F h ⟨k,acc,d,v,Yj,Zp,Zy,rfl,rfl,rfl⟩
 refine aq (ar (Yq 2 9 (.i k) 10 (Z0 xs) (iw (Yh xs) (Z1 1 12 (.b (decide ((k:Int)<(xs.length:Int)))) (ie (ZM ((k:Int)<(xs.length:Int)) (fun Ze=>?_) (fun Ze=>?_)))))))
 ·refine ak (aq (ab 1 (ar (Yq 2 15 (Z0 xs) 16 (.i k) ?_))))
  obtain ⟨x1,Z3⟩:=Zr (xs:=xs) (j:=k) om
  refine Zq (Zm none (k:Int) 1 (Y4 Z3)) (Xo [(0,Z0 xs),(1,.i y),(5,Z7 acc v),(6,.b d),(7,.i k),(24,.b ((x1==y)&&(!d)))] [.tail v 1] ?_ ?_)
  ·refine ir 4 [(0,Z0 xs),(1,.i y),(5,Z7 acc v),(6,.b d),(7,.i k),(21,.b (x1==y))] (ib (b:=(x1==y)) 21 (fun Za=>?_) (fun Za=>?_))
   ·have ZP:x1=y:=(Zh).1 Za
    refine Z5 3 (.n 24 (.b (!d)) (.d (.w (.k .z)))) (ie ?_)
    exact wk [0] (fq (fr (Zu (!d) Za fl)))
   have Y1:¬(x1=y):=ZI Zh Za
   refine Z5 3 (.n 24 (.b false) (.d (.w (.k .z)))) (ie ?_)
   exact wk [0] (fq (fr (Zu false Za fl)))
  refine JK (fun F h=>∃(w:Value),F=[(0,Z0 xs),(1,.i y),(5,Z7 (if (x1=y)/\(¬(d=true)) then acc else (acc++[x1])) w),(6,.b (((x1==y)&&(!d))||d)),(7,.i k)]/\h=[.tail w 1]) (fun _ _=>rfl) ?_ ?_
  ·refine ac ((x1==y)&&(!d)) (p:=(x1=y)/\(¬(d=true))) (YD Zh (Yw Iff.rfl)) (fun Zk=>?_) (fun Zk=>?_)
   ·refine az (ir 1 [(0,Z0 xs),(1,.i y),(5,Z7 acc v),(6,.b true),(7,.i k)] (ie ?_))
    exact ZW ⟨v,rfl,rfl⟩ (wk [0] (fw (fc (x:=Z7 acc v) (Zg.slh _ (Yx Z8 (by first|rfl|(rw [Zo Zk])|(rw [Zc Zk])|(simp [Zk];done)|(rw [Xl];simp [Zk];done)|omega))) (fc (x:=.b true) (lb (by first|rfl|(rw [Zo Zk])|(rw [Zc Zk])|(simp [Zk];done)|(rw [Xl];simp [Zk];done)|omega)) fl))))
   refine az (ir 3 [(0,Z0 xs),(1,.i y),(6,.b d),(7,.i k),(25,Z7 acc v),(26,Z0 xs),(27,.i k)] (Zq (Zm none (k:Int) 1 (Y4 Z3)) (Z1 1 29 (.i x1) (iL (Z8 [x1]) 1 1 ?_))))
   intro v2
   refine Z5 0 (.n 30 (Z0 [x1]) (.p .r)) (ip 1 (Z8 (acc++[x1])) (Z8 acc) (Z8 [x1]) v none 1 (YF _) (YF _) (XX _) (by simp<;>omega) (by simp [XW,Z8]) ?_)
   intro v3
   refine Z1 1 5 (Z7 (acc++[x1]) v3) (ie ?_)
   exact ZW ⟨v3,rfl,rfl⟩ (wk [0] (fw (fc (x:=Z7 (acc++[x1]) v3) (Zg.slh _ (Yx Z8 (by first|rfl|(rw [Zo Zk])|(rw [Zc Zk])|(simp [Zk];done)|(rw [Xl];simp [Zk];done)|omega))) (fc (x:=.b d) (lb (by cases d<;>simp_all)) fl))))
  rintro F h ⟨w,rfl,rfl⟩
  refine az (ir 1 [(0,Z0 xs),(1,.i y),(5,Z7 (if (x1=y)/\(¬(d=true)) then acc else (acc++[x1])) w),(6,.b (((x1==y)&&(!d))||d)),(13,.i k)] (ZL k (Z1 1 7 (.i (k+1:Nat)) (ie ?_))))
  exact ZO ⟨k+1,(if (x1=y)/\(¬(d=true)) then acc else (acc++[x1])),(((x1==y)&&(!d))||d),w,ob,(by split<;>(try simp)<;>omega),(RL Z3 Zy),rfl,rfl,rfl⟩ (wk [0] (fq (ZQ k fl)))
 refine ax 0 (ar (ir 2 [(4,Z7 acc v)] (ie ?_)))
 exact Zb (r2 [0] [Z7 acc v] ⟨v,rfl,rfl⟩ (Zg.slh _ (Yx Z8 (RK om Zy))))
theorem Z6u (b:Z6) (x:Int) (fs:List Int) (q:Nat) (ha:∀s∈b.steps,Yf s.op=true->∃a,s.args=[a]) (hf:fs.length<=3:=by exact ob) (hq:q<=1000000000:=by exact ob) (hz:b.sz<=900000000:=by exact ob):Zi Tryz.prog 208 [Zs b,.i x,Z0 fs,.i q] [] (fun r h=>r=Zs (K6 b x fs q)/\h=[]):=by
 have hbz:=Vf b
 have hrl:=Ep b.steps
 have hal:=Fh (b.steps.take (YX b.steps))
 rw [Ww] at hal
 have her:=List.length_erase_le (a:=x) (l:=XN 15 (b.steps.take (YX b.steps)))
 have har:∀op:Int,Yf op=true->∀s∈b.steps.take (YX b.steps),s.op=op->∃a,s.args=[a]:=fun op ho s hs e=>ha s (TR hs) (by rw [e];exact ho)
 refine ZK 88 Tryz.func208 (ar (iA (Yk b) ?_))
 intro b1
 refine iA [nl,.i 0] ?_
 intro b2
 refine ie (ar (iR 1 [(1,.i x),(2,Z0 fs),(3,.i q),(4,.p b1 0),(8,.p b2 0),(14,Zs b)] [1] [b1] (ZA [] (Z74 b) (Z1 1 9 (.i (((YX b.steps):Nat):Int)) (ie (ar (ZY 2 16 (Zs b) 17 (.i (((YX b.steps):Nat):Int)) [1] [b1] (ic [] (NB b (YX b.steps) 14 (ha:=(har _ rfl))) ?_))))))))
 rintro _ _ ⟨v1,rfl,rfl⟩
 refine Z1 1 10 (Z7 (XN 14 (b.steps.take (YX b.steps))) v1) (ie (ar (ZY 2 19 (Zs b) 20 (.i (((YX b.steps):Nat):Int)) [2] [b1] (ic [] (NB b (YX b.steps) 15 (ha:=(har _ rfl))) ?_))))
 rintro _ _ ⟨v2,rfl,rfl⟩
 refine Z1 1 11 (Z7 (XN 15 (b.steps.take (YX b.steps))) v2) (ie (aq (ar (Yq 2 22 (Z0 (XN 15 (b.steps.take (YX b.steps)))) 23 (.i x) (ZA [] (U8 (XN 15 (b.steps.take (YX b.steps))) x) (Xo [(1,.i x),(2,Z0 fs),(3,.i q),(4,.p b1 0),(8,.p b2 0),(9,.i (((YX b.steps):Nat):Int)),(10,Z7 (XN 14 (b.steps.take (YX b.steps))) v1),(11,Z7 (XN 15 (b.steps.take (YX b.steps))) v2),(30,.b ((!(decide (x∈(XN 15 (b.steps.take (YX b.steps))))))||((fs.length:Int)==0)))] [.tail v2 1,.tail v1 1,.obj b2 [nl,.i 0],.obj b1 (Yk b)] ?_ ?_))))))
 ·refine ir 2 [(1,.i x),(2,Z0 fs),(3,.i q),(4,.p b1 0),(8,.p b2 0),(9,.i (((YX b.steps):Nat):Int)),(10,Z7 (XN 14 (b.steps.take (YX b.steps))) v1),(11,Z7 (XN 15 (b.steps.take (YX b.steps))) v2),(26,.b (!(decide (x∈(XN 15 (b.steps.take (YX b.steps)))))))] (ib (b:=(!(decide (x∈(XN 15 (b.steps.take (YX b.steps))))))) 26 (fun Za=>?_) (fun Za=>?_))
  ·have ZP:¬(x∈(XN 15 (b.steps.take (YX b.steps)))):=((Yw dq)).1 Za
   refine Z5 4 (.n 30 (.b true) (.d (.w (.w .z)))) (ie ?_)
   exact ZT 4 (fq (fq (Zu true Za fl)))
  have Y1:¬(¬(x∈(XN 15 (b.steps.take (YX b.steps))))):=ZI (Yw dq) Za
  refine Z5 1 (.n 27 (Z0 fs) (.w (.w (.k .z)))) (iw (Yh fs) (Z1 2 30 (.b ((fs.length:Int)==0)) (ie ?_)))
  exact ZT 4 (fq (fq (Zu ((fs.length:Int)==0) Za fl)))
 refine ac ((!(decide (x∈(XN 15 (b.steps.take (YX b.steps))))))||((fs.length:Int)==0)) (p:=(¬(x∈(XN 15 (b.steps.take (YX b.steps)))))∨((fs.length:Int)=0)) (Yo (Yw dq) Zh) (fun Ze=>?_) (fun Ze=>?_)
 ·refine ar (iR 1 [(8,.p b2 0),(31,Zs b)] [3] [b1] (ZF 2 b2 (Yk b) (ie ?_)))
  exact Zb (r3 [] [Zs b] [0] [(b2,b2)] ⟨rfl,rfl⟩ (Zg.agg (.cons (Zg.sl _ (Yx Zv (ON (fun z=>Ze.elim (fun e=>e z.1) (fun e=>z.2 om))).symm)) (.cons li .nil))))
 refine ak (ar (ir 2 [(1,.i x),(2,Z0 fs),(3,.i q),(4,.p b1 0),(8,.p b2 0),(9,.i (((YX b.steps):Nat):Int)),(10,Z7 (XN 14 (b.steps.take (YX b.steps))) v1),(32,Z0 (XN 15 (b.steps.take (YX b.steps)))),(33,.i x)] (ic [] (NP (XN 15 (b.steps.take (YX b.steps))) x) ?_)))
 rintro _ _ ⟨v3,rfl,rfl⟩
 refine Z1 1 11 (Z7 ((XN 15 (b.steps.take (YX b.steps))).erase x) v3) (ie (aq (ar (Z1 1 12 (.i 0) (ie (ab 0 (al (fun m F h=>∃(k:Nat) (D:List Int) (R:List Int) (v:Value),(k<=fs.length)/\(D.length<=b.steps.length)/\(R.length<=b.steps.length+k)/\(Uk (fs.drop k) (q+k) D R=Jt b.steps x fs q)/\F=[(1,.i x),(2,Z0 fs),(3,.i q),(4,.p b1 0),(8,.p b2 0),(9,.i (((YX b.steps):Nat):Int)),(10,Z0 D),(11,Z7 R v),(12,.i k)]/\h=[.obj b2 [nl,.i 0],.obj b1 (Yk b),.tail v 1]/\m=fs.length-k) _ _ _ ⟨0,(XN 14 (b.steps.take (YX b.steps))),((XN 15 (b.steps.take (YX b.steps))).erase x),v3,ob,om,om,(by simp [Jt]),rfl,rfl,rfl⟩ (wk [3,3,0] (fq (fw (fc (x:=Z7 (XN 14 (b.steps.take (YX b.steps))) v1) (Zg.forget _ _) (fr (Ya fl)))))) ?_)))))))
 rintro m F h ⟨k,D,R,v,Yj,Zp,Zy,YJ,rfl,rfl,rfl⟩
 refine aq (ar (Yq 2 35 (.i k) 36 (Z0 fs) (iw (Yh fs) (Z1 1 38 (.b (decide ((k:Int)<(fs.length:Int)))) (ie (ZM ((k:Int)<(fs.length:Int)) (fun Zk=>?_) (fun Zk=>?_)))))))
 ·refine ak (aq (ab 1 (ar (Yq 2 41 (Z0 fs) 42 (.i k) ?_))))
  obtain ⟨x1,Z3⟩:=Zr (xs:=fs) (j:=k) om
  refine Zq (Zm none (k:Int) 1 (Y4 Z3)) (Xo [(1,.i x),(2,Z0 fs),(3,.i q),(4,.p b1 0),(8,.p b2 0),(9,.i (((YX b.steps):Nat):Int)),(10,Z0 D),(11,Z7 R v),(12,.i k),(52,.b ((x1 != 0)&&(decide (((q+k:Nat):Int)∈D))))] [.obj b2 [nl,.i 0],.obj b1 (Yk b),.tail v 1] ?_ ?_)
  ·refine ir 3 [(1,.i x),(2,Z0 fs),(3,.i q),(4,.p b1 0),(8,.p b2 0),(9,.i (((YX b.steps):Nat):Int)),(10,Z0 D),(11,Z7 R v),(12,.i k),(46,.b (x1 != 0))] (ib (b:=(x1 != 0)) 46 (fun Zz=>?_) (fun Zz=>?_))
   ·have Yy:x1≠0:=(Yi).1 Zz
    refine Z5 3 (.n 47 (Z0 D) (.n 48 (.i q) (.n 49 (.i k) (.w (.w (.k (.k .z))))))) (ia (((q+k:Nat):Int)) (((q:Int))+((k:Int))) (ZA [] (U8 D ((q+k:Nat):Int)) (Z1 1 52 (.b (decide (((q+k:Nat):Int)∈D))) (ie ?_))))
    exact ZT 3 (fq (fq (fr (Zu (decide (((q+k:Nat):Int)∈D)) Zz fl))))
   have YK:¬(x1≠0):=ZI Yi Zz
   refine Z5 6 (.n 52 (.b false) (.d (.w (.w (.k .z))))) (ie ?_)
   exact ZT 3 (fq (fq (fr (Zu false Zz fl))))
  refine JK (fun F h=>∃(D2:List Int) (R2:List Int) (w:Value),(Uk (fs.drop (k+1)) (q+((k+1:Nat):Int)) D2 R2=Jt b.steps x fs q)/\(D2.length<=b.steps.length)/\(R2.length<=b.steps.length+(k+1))/\F=[(1,.i x),(2,Z0 fs),(3,.i q),(4,.p b1 0),(8,.p b2 0),(9,.i (((YX b.steps):Nat):Int)),(10,Z0 D2),(11,Z7 R2 w),(12,.i k)]/\h=[.obj b2 [nl,.i 0],.obj b1 (Yk b),.tail w 1]) (fun _ _=>rfl) ?_ ?_
  ·refine ac ((x1 != 0)&&(decide (((q+k:Nat):Int)∈D))) (p:=(x1≠0)/\(((q+k:Nat):Int)∈D)) (YD Yi dq) (fun ZG=>?_) (fun ZG=>?_)
   ·refine az (ir 3 [(1,.i x),(2,Z0 fs),(3,.i q),(4,.p b1 0),(8,.p b2 0),(9,.i (((YX b.steps):Nat):Int)),(11,Z7 R v),(12,.i k),(53,Z0 D),(54,.i q),(55,.i k)] (ia (((q+k:Nat):Int)) (((q:Int))+((k:Int))) (ic [] (NP D ((q+k:Nat):Int)) ?_)))
    rintro _ _ ⟨v4,rfl,rfl⟩
    refine Z1 1 10 (Z7 (D.erase ((q+k:Nat):Int)) v4) (ie ?_)
    exact ZW ⟨(D.erase ((q+k:Nat):Int)),R,v,(Z47 Z3 ZG.1 ZG.2 YJ),(Vh List.length_erase_le Zp),ob,rfl,rfl⟩ (wk [1,1,1] fl)
   refine ar (ir 2 [(1,.i x),(2,Z0 fs),(3,.i q),(4,.p b1 0),(8,.p b2 0),(9,.i (((YX b.steps):Nat):Int)),(10,Z0 D),(11,Z7 R v),(12,.i k),(58,Z0 fs),(59,.i k)] (Zq (Zm none (k:Int) 1 (Y4 Z3)) (Z1 2 62 (.b (x1 != 0)) (ie (ac (x1 != 0) Yi (fun Ym=>?_) (fun Ym=>?_))))))
   ·refine az (Z5 3 (.n 63 (Z7 R v) (.n 64 (.i q) (.n 65 (.i k) .r))) (ia (((q+k:Nat):Int)) (((q:Int))+((k:Int))) (iL (Z8 [((q+k:Nat):Int)]) 1 1 ?_)))
    intro v5
    refine Z5 0 (.n 67 (Z0 [((q+k:Nat):Int)]) (.p .r)) (ip 3 (Z8 (R++[((q+k:Nat):Int)])) (Z8 R) (Z8 [((q+k:Nat):Int)]) v none 1 (YF _) (YF _) (XX _) (by simp<;>omega) (by simp [XW,Z8]) ?_)
    intro v6
    refine Z5 1 (.n 11 (Z7 (R++[((q+k:Nat):Int)]) v6) (.p (.d (.p (.d (.d (.d (.d (.p (.w (.k (.k (.k (.d (.k .z))))))))))))))) (ie ?_)
    exact ZW ⟨D,(R++[((q+k:Nat):Int)]),v6,(Z48 Z3 Ym (fun z=>ZG ⟨Ym,z⟩) YJ),ob,(by simp;omega),rfl,rfl⟩ (wk [2,2,0] fl)
   refine ak ?_
   exact ZW ⟨D,R,v,(Z49 Z3 Ym YJ),ob,ob,rfl,rfl⟩ (ZT 3 fl)
  rintro F h ⟨D2,R2,w,Cz,CA,Z29,rfl,rfl⟩
  refine az (ir 1 [(1,.i x),(2,Z0 fs),(3,.i q),(4,.p b1 0),(8,.p b2 0),(9,.i (((YX b.steps):Nat):Int)),(10,Z0 D2),(11,Z7 R2 w),(39,.i k)] (ZL k (Z1 1 12 (.i (k+1:Nat)) (ie ?_))))
  exact ZO ⟨k+1,D2,R2,w,ob,ob,ob,ob,rfl,rfl,rfl⟩ (ZT 3 (fq (fq (ZQ k fl))))
 refine ax 0 (ar (Z1 1 69 (Z0 D) (ic [] (Qs 14 D) ?_)))
 rintro _ _ ⟨v7,rfl,rfl⟩
 refine Z1 1 71 (.i x) (ZA [] (KU 16 x) (iL [Y3 (Zj 16 x)] 1 5 ?_))
 intro v8
 refine Z5 0 (.n 73 (.sl [Y3 (Zj 16 x)] none) (.p .r)) (ip 1 (Zv ((D.map (Zj 14))++[Zj 16 x])) (Zv (D.map (Zj 14))) [Y3 (Zj 16 x)] v7 none 5 (X8 _) (TJ rfl) rfl (by simp<;>omega) (by simp [Wy,Vd]) ?_)
 intro v9
 refine Z1 1 13 (ZX ((D.map (Zj 14))++[Zj 16 x]) v9) (ie (ar (Yq 2 75 (ZX ((D.map (Zj 14))++[Zj 16 x]) v9) 76 (Z0 R) (ic [] (Qs 15 R) ?_))))
 rintro _ _ ⟨v10,rfl,rfl⟩
 refine Z5 0 (.n 77 (Ye (R.map (Zj 15))) (.p .r)) (ip 1 (Zv (((D.map (Zj 14))++[Zj 16 x])++(R.map (Zj 15)))) (Zv ((D.map (Zj 14))++[Zj 16 x])) (Zv (R.map (Zj 15))) v9 none 5 (X8 _) (X8 _) (Vv _) (by simp<;>omega) (by simp [Wy,Zv]) ?_)
 intro v11
 refine Z5 1 (.n 13 (ZX (((D.map (Zj 14))++[Zj 16 x])++(R.map (Zj 15))) v11) (.q 78 (.k (.k (.k (.d .r)))))) (ie (aD 10 (Y6 6 10 [0,1,2,3] (.n 79 (ZX (((D.map (Zj 14))++[Zj 16 x])++(R.map (Zj 15))) v11) (.n 81 (Ye b.steps) (.n 82 (.i (((YX b.steps):Nat):Int)) .r))) [4] [b1] (dx 4 (Kl (es:=Zv b.steps) (hv:=none) (l:=(((YX b.steps):Nat):Int)) (m:=(((Zv b.steps).length:Nat):Int)) (sz:=5) (es':=Zv (b.steps.drop (YX b.steps))) kr om (by simp<;>omega) (by simp<;>omega) (X8 _) (by first|(simp only [VR,Vp,Jb,Ja];done)|(simp only [VR,Vp,Jb,Ja];rfl)|(simp [Jb,Ja];done))) (Y6 3 5 [6,7] (.n 86 (.i b.result) .r) [4] [b1] (Z9 5 (dp 5 0 [1] [b1] (Zv ((((D.map (Zj 14))++[Zj 16 x])++(R.map (Zj 15)))++(b.steps.drop (YX b.steps)))) (Zv (((D.map (Zj 14))++[Zj 16 x])++(R.map (Zj 15)))) (Zv (b.steps.drop (YX b.steps))) v11 none 5 (X8 _) (X8 _) (Vv _) (by simp<;>omega) (by simp [Wy,Zv]) ?_)))))))
 intro v12
 refine ZZ 1 2 [8] 87 (.agg [ZX ((((D.map (Zj 14))++[Zj 16 x])++(R.map (Zj 15)))++(b.steps.drop (YX b.steps))) v12,.i b.result]) (Z9 9 (YL 9 3 [] [] b2 [ZX ((((D.map (Zj 14))++[Zj 16 x])++(R.map (Zj 15)))++(b.steps.drop (YX b.steps))) v12,.i b.result] (de ?_)))
 have hE:=OP (V1.1 fun z=>Ze (.inl z)) (fun z=>Ze (.inr om)) (Z46 om YJ)
 exact Zb (r3 [] [.agg [ZX ((((D.map (Zj 14))++[Zj 16 x])++(R.map (Zj 15)))++(b.steps.drop (YX b.steps))) v12,.i b.result]] [0] [(b2,b2)] ⟨rfl,rfl⟩ (Zg.agg (.cons (Zg.sl _ (Yx Zv hE)) (.cons li .nil))))
theorem Z78 (n:Zx) (b:Z6) (mm:Nat) (hn:Xd n) (hw:wB n.decls b) (hb:mm+9*b.sz<=900000000) (ih:∀(b2:Z6) (m2:Nat),(wB n.decls b2)->(m2+9*b2.sz<=900000000)->(b2.sz<b.sz)->Zi Tryz.prog 164 [ZD n,Zs b2,.i m2] [] (fun r h=>r=Zs (WE n.decls m2 b2)/\h=[])):Zi Tryz.prog 164 [ZD n,Zs b,.i mm] [] (fun r h=>r=Zs (WE n.decls mm b)/\h=[]):=by
 have Xu:=hn.decls
 have hbz:=Vf b
 have ZE:=(K4 b).1 hw
 refine ZK 107 Tryz.func164 (ar (iA (ZU n) ?_))
 intro b1
 refine iA (Yk b) ?_
 intro b2
 refine iA [nl,.i 0] ?_
 intro b3
 refine ie (ar (iL (Zv []) 0 5 ?_))
 intro v1
 refine iR 3 [(2,.i mm),(3,.p b1 0),(4,.p b2 0),(6,.p b3 0),(17,.agg [ZX [] v1,.i b.result])] [2] [b2] (iA [nl,.i 0] ?_)
 intro b4
 refine ZF 0 b4 [ZX [] v1,.i b.result] (ie (aq (ar (Z1 1 8 (.i 0) (ie (ab 0 (al (fun m F h=>∃(k:Nat) (q:Nat) (xs:List Z4) (v:Value),(k<=b.steps.length)/\(q<=mm+k)/\(xs.length=k)/\(xs++UB n.decls q (b.steps.drop k)=UB n.decls mm b.steps)/\F=[(2,.i q),(3,.p b1 0),(4,.p b2 0),(6,.p b3 0),(7,.p b4 0),(8,.i k)]/\h=[.obj b4 [ZX xs v,.i b.result],.obj b3 [nl,.i 0],.obj b2 (Yk b),.obj b1 (ZU n),.tail v 5]/\m=b.steps.length-k) _ _ _ ⟨0,mm,[],v1,ob,ob,ob,rfl,rfl,rfl,rfl⟩ (wk [0,1,1,1,0] (fq (fr (Ya fl)))) ?_)))))))
 rintro m F h ⟨k,q,xs,v,Yj,Zp,Zy,YJ,rfl,rfl,rfl⟩
 refine aq (ar (ZY 3 18 (.i k) 20 (Ye b.steps) [2] [b2] (iw (Vl b.steps) (Z1 1 22 (.b (decide ((k:Int)<(b.steps.length:Int)))) (ie (ZM ((k:Int)<(b.steps.length:Int)) (fun Ze=>?_) (fun Ze=>?_)))))))
 ·refine ak (aq (ab 1 (ar (ZY 3 26 (Ye b.steps) 27 (.i k) [2] [b2] ?_))))
  obtain ⟨x1,Z3⟩:=Zr (xs:=b.steps) (j:=k) om
  have Xq:=An Z3
  have hws:=Oj hw Z3
  have hkz:=Uz x1
  have haz:=Qg x1
  have hdf:=Z95 hws
  refine Zq (Zm none (k:Int) 5 (Wa Z3)) (Z1 1 29 (Y3 x1) (iA [.i 0,.i 0,.i 0,nl,nl] ?_))
  intro b5
  refine ZF 0 b5 (Yg x1) (ie (ar (iL (YH []) 0 2 ?_)))
  intro v2
  refine Z1 1 10 (X4 [] v2) (ie (ar (ZY 4 32 (Zd n.decls) 34 (.i x1.num) [5,1] [b1,b5] (ic [] (KS n.decls x1.num) ?_))))
  rintro _ _ ⟨v3,rfl,rfl⟩
  refine Z1 1 11 (Z7 (Zw n.decls x1.num) v3) (ie (aq (ar (Z1 1 12 (.i 0) (ie (ab 2 (al (fun m F h=>∃(j:Nat) (u:Value) (ks:List Z6),(j<=x1.kids.length)/\(ks.length=j)/\(ks++Th n.decls q x1.op x1.num x1.args (x1.kids.drop j) j=Th n.decls q x1.op x1.num x1.args x1.kids 0)/\F=[(2,.i q),(3,.p b1 0),(4,.p b2 0),(6,.p b3 0),(7,.p b4 0),(8,.i k),(9,.p b5 0),(10,X4 ks u),(11,Z7 (Zw n.decls x1.num) v3),(12,.i j)]/\h=[.obj b5 (Yg x1),.obj b4 [ZX xs v,.i b.result],.obj b3 [nl,.i 0],.obj b2 (Yk b),.obj b1 (ZU n),.tail u 2,.tail v 5,.tail v3 1]/\m=x1.kids.length-j) _ _ _ ⟨0,v2,[],ob,ob,(by simp),rfl,rfl,rfl⟩ (wk [2,2,2,2,2,1,1,0] (fq (fq (fr (Ya fl))))) ?_)))))))
  rintro m F h ⟨j,u,ks,VS,XH,XE,rfl,rfl,rfl⟩
  refine aq (ar (ZY 3 36 (.i j) 38 (Yu x1.kids) [0] [b5] (iw (VG x1.kids) (Z1 1 40 (.b (decide ((j:Int)<(x1.kids.length:Int)))) (ie (ZM ((j:Int)<(x1.kids.length:Int)) (fun Zk=>?_) (fun Zk=>?_)))))))
  ·refine ak (aq (ab 3 (ar (Yl 3 45 (.b (x1.op==8)) [0] [b5] (ie (ac (x1.op==8) Zh (fun ZG=>?_) (fun ZG=>?_)))))))
   ·refine aD 8 (Y6 4 8 [0,1,2,3] (.n 47 (Zd n.decls) (.n 48 (Z7 (Zw n.decls x1.num) v3) (.n 49 (.i j) .r))) [4] [b1] ?_)
    obtain ⟨x2,Zt⟩:=Zr (xs:=Zw n.decls x1.num) (j:=j) (by have h:=(D4 hws (by assumption)).2;omega)
    have hfk:Uf n.decls x1.num j=ZC n.decls x2:=IL (by rw [Kr,Zt];rfl)
    have hcf:=VK Xu x2
    refine dx 4 (Zm (some v3) (j:Int) 1 (Y4 Zt)) (ZZ 2 3 [5] 51 (.i x2) (Z9 6 (Yv 6 [] [] [] (Qr n.decls x2) (ZZ 0 1 [7] 13 (Z0 (ZC n.decls x2)) (de (aE 22 (Y6 17 22 [0,1,2,3,4] (.n 53 (X4 ks u) (.n 54 (ZD n) (.n 56 (Yu x1.kids) (.n 57 (.i j) .r)))) [4,0] [b1,b5] ?_)))))))
    obtain ⟨x3,YT⟩:=Zr (xs:=x1.kids) (j:=j) om
    have hkb:=YT
    have hks:=Uy YT
    have hwk:=HC hws YT
    have hpk:=Z6.pz_le x3
    refine dx 5 (Zm none (j:Int) 2 (U5 YT)) (Y0 13 16 [6,7,8] (.n 59 (Zs x3) (.n 60 (.i q) (.n 61 (Z0 (ZC n.decls x2)) .r))) (dn 9 (.i (((ZC n.decls x2).length:Nat):Int)) (.i (((Z8 (ZC n.decls x2)).length:Nat):Int)) (li (by rw [Yh])) (da 10 (((q+((ZC n.decls x2).length):Nat):Int)) (((q:Int))+((((ZC n.decls x2).length:Nat):Int))) (Y6 9 11 [12,13] (.n 66 (Z0 x1.args) .r) [0] [b5] ?_))))
    obtain ⟨x4,Uh⟩:=Zr (xs:=x1.args) (j:=0) (by obtain ⟨⟨a,ha2,_⟩,_⟩:=D4 hws (by assumption);rw [ha2];simp)
    have hg1:=Jf Uh
    refine dx 14 (Zm none 0 1 (Y4 Uh)) (Y0 5 8 [15,16,17] (.n 68 (.i x4) (.n 69 (Z0 (ZC n.decls x2)) (.n 70 (.i q) .r))) (Z9 11 (Yv 11 [] [0] [b5] (ih x3 (q+((ZC n.decls x2).length)) hwk ob ob) (Z9 18 (Yv 18 [] [] [] (Z6u (WE n.decls (q+((ZC n.decls x2).length)) x3) x4 (ZC n.decls x2) q (ha:=(by rw [EA];exact Z6e ((K4 _).1 hwk))) (hz:=(Vh (EB Xu _ hwk) om))) (Z9 19 (dL 19 [] [] [Zs (K6 (WE n.decls (q+((ZC n.decls x2).length)) x3) x4 (ZC n.decls x2) q)] 1 2 ?_)))))))
    intro v4
    refine Y0 2 2 [] (.n 72 (.sl [Zs (K6 (WE n.decls (q+((ZC n.decls x2).length)) x3) x4 (ZC n.decls x2) q)] none) (.p .r)) (Z9 20 (dp 20 6 [] [] (YH (ks++[K6 (WE n.decls (q+((ZC n.decls x2).length)) x3) x4 (ZC n.decls x2) q])) (YH ks) [Zs (K6 (WE n.decls (q+((ZC n.decls x2).length)) x3) x4 (ZC n.decls x2) q)] u none 2 (T7 _) (TJ rfl) rfl (by simp<;>omega) (by simp [J8,Ur]) ?_))
    intro v5
    refine Xa 0 1 [21] [(2,.i q),(3,.p b1 0),(4,.p b2 0),(6,.p b3 0),(7,.p b4 0),(8,.i k),(9,.p b5 0),(10,X4 (ks++[K6 (WE n.decls (q+((ZC n.decls x2).length)) x3) x4 (ZC n.decls x2) q]) v5),(11,Z7 (Zw n.decls x1.num) v3),(12,.i j)] (de (az (Z1 1 41 (.i j) (ZL j (Z5 1 (.n 12 (.i (j+1:Nat)) (.p (.d (.w (.w (.k .z)))))) (ie ?_))))))
    exact ZO ⟨j+1,v5,(ks++[K6 (WE n.decls (q+((ZC n.decls x2).length)) x3) x4 (ZC n.decls x2) q]),ob,(by simp;omega),(by have h:=Nu hkb XE;rw [EC,Zo (by assumption),hfk,hg1] at h;exact h),rfl,rfl,rfl⟩ (wk [2,2,2,2,2,0,1,1] (fq (fq (fr (ZQ j fl)))))
   refine aE 12 (Y6 7 12 [0,1,2,3,4] (.n 74 (X4 ks u) (.n 75 (ZD n) (.n 77 (Yu x1.kids) (.n 78 (.i j) .r)))) [4,0] [b1,b5] ?_)
   obtain ⟨x5,UN⟩:=Zr (xs:=x1.kids) (j:=j) om
   have hkb:=UN
   have hks:=Uy UN
   have hwk:=HC hws UN
   have hpk:=Z6.pz_le x5
   refine dx 5 (Zm none (j:Int) 2 (U5 UN)) (Y0 4 6 [6,7] (.n 80 (Zs x5) (.n 81 (.i q) .r)) (Z9 8 (Yv 8 [] [] [] (ih x5 q hwk ob ob) (Z9 9 (dL 9 [] [] [Zs (WE n.decls q x5)] 1 2 ?_)))))
   intro v6
   refine Y0 2 2 [] (.n 83 (.sl [Zs (WE n.decls q x5)] none) (.p .r)) (Z9 10 (dp 10 6 [] [] (YH (ks++[WE n.decls q x5])) (YH ks) [Zs (WE n.decls q x5)] u none 2 (T7 _) (TJ rfl) rfl (by simp<;>omega) (by simp [J8,Ur]) ?_))
   intro v7
   refine Y0 0 1 [11] (.n 10 (X4 (ks++[WE n.decls q x5]) v7) (.p (.d (.p (.d (.d (.p (.d (.d (.d (.d (.d (.d (.p (.d (.d (.w (.k (.k (.k (.d .r))))))))))))))))))))) (de (az (Z1 1 41 (.i j) (ZL j (Z5 1 (.n 12 (.i (j+1:Nat)) (.p (.d (.w (.w (.k .z)))))) (ie ?_))))))
   exact ZO ⟨j+1,v7,(ks++[WE n.decls q x5]),ob,(by simp;omega),(by have h:=Nu hkb XE;rw [EC,Zc (by assumption)] at h;exact h),rfl,rfl,rfl⟩ (wk [2,2,2,2,2,0,1,1] (fq (fq (fr (ZQ j fl)))))
  have hK:=Z6c om XE
  refine ax 2 (aD 17 (Y6 6 17 [0,1,2,3,4,5,6,7,8,9,11] (.n 86 (ZX xs v) (.n 88 (.i x1.op) (.n 90 (.i x1.num) (.n 92 (.i x1.into) (.n 94 (Z0 x1.args) (.n 96 (X4 ks u) .r)))))) [1,0,0,0,0] [b4,b5,b5,b5,b5] (Z9 10 (dc 10 [] [0,0,0,1] [b5,b5,b5,b4] (VP x1.args) ?_))))
  rintro _ _ ⟨v8,rfl,rfl⟩
  refine ZZ 4 5 [12] 97 (.agg [.i x1.op,.i x1.num,.i x1.into,Z0 x1.args,Yu ks]) (Z9 13 (dL 13 [1] [b4] [Y3 (Z4.mk x1.op x1.num x1.into x1.args ks)] 1 5 ?_))
  intro v9
  refine Y0 3 3 [] (.n 98 (.sl [Y3 (Z4.mk x1.op x1.num x1.into x1.args ks)] none) (.p .r)) (Z9 14 (dp 14 8 [] [] (Zv (xs++[Z4.mk x1.op x1.num x1.into x1.args ks])) (Zv xs) [Y3 (Z4.mk x1.op x1.num x1.into x1.args ks)] v none 5 (X8 _) (TJ rfl) rfl (by simp<;>omega) (by simp [Wy,Vd]) ?_))
  intro v10
  refine ZZ 1 2 [15] 100 (.p b4 0) (Z9 16 (YL 16 4 [] [] b4 [ZX (xs++[Z4.mk x1.op x1.num x1.into x1.args ks]) v10,.i b.result] (de (ar (Yl 2 102 (.i x1.op) [4] [b5] (ZA [] (QW x1.op) (ie (JK (fun F h=>F=[(2,.i (((if Yf x1.op=true then q else q+1):Nat):Int)),(3,.p b1 0),(4,.p b2 0),(6,.p b3 0),(7,.p b4 0),(8,.i k)]/\h=[.obj b4 [ZX (xs++[Z4.mk x1.op x1.num x1.into x1.args ks]) v10,.i b.result],.obj b3 [nl,.i 0],.obj b2 (Yk b),.obj b1 (ZU n),.tail v10 5]) (fun _ _=>rfl) ?_ ?_))))))))
  ·refine ac (Xe x1.op) Iff.rfl (fun Ym=>?_) (fun Ym=>?_)
   ·refine az (ir 1 [(3,.p b1 0),(4,.p b2 0),(6,.p b3 0),(7,.p b4 0),(8,.i k),(104,.i q)] (ZL q (Z1 1 2 (.i (q+1:Nat)) (ie ?_))))
    exact ZW ⟨rfl,rfl⟩ (wk [0,4,4,4,0] (fc (x:=.i (q+1:Nat)) (li (by rw [Zc (fun z=>by rw [hdf,z] at Ym;cases Ym)])) fl))
   refine ak ?_
   exact ZW ⟨rfl,rfl⟩ (wk [0,4,4,4,0] (fc (x:=.i q) (li (by rw [Zo (ER fun z=>Ym (by rw [hdf,Ty.2 z];rfl))])) fl))
  rintro F h ⟨rfl,rfl⟩
  refine az (ir 1 [(2,.i (((if Yf x1.op=true then q else q+1):Nat):Int)),(3,.p b1 0),(4,.p b2 0),(6,.p b3 0),(7,.p b4 0),(23,.i k)] (ZL k (Z1 1 8 (.i (k+1:Nat)) (ie ?_))))
  exact ZO ⟨k+1,(if Yf x1.op=true then q else q+1),(xs++[Z4.mk x1.op x1.num x1.into x1.args ks]),v10,ob,(by split<;>omega),(by simp;omega),(by have h:=Z6g Z3 YJ;rw [<-hK] at h;exact h),rfl,rfl,rfl⟩ (ZT 5 (fq (fr (ZQ k fl))))
 refine ax 0 (ar (Yl 1 106 (.agg [ZX xs v,.i b.result]) [0] [b4] (ZF 1 b3 [ZX xs v,.i b.result] (ie ?_))))
 exact Zb (r3 [] [.agg [ZX xs v,.i b.result]] [0] [(b3,b3)] ⟨rfl,rfl⟩ (Zg.agg (.cons (Zg.sl _ (Yx Zv (by rw [EA];exact Z6f om YJ))) (.cons (li (by rw [EA];rfl)) .nil))))
theorem Z76 (n:Zx) (hn:Xd n) (k:Nat):∀(b2:Z6) (m2:Nat),(wB n.decls b2)->(m2+9*b2.sz<=900000000)->(b2.sz<k)->Zi Tryz.prog 164 [ZD n,Zs b2,.i m2] [] (fun r h=>r=Zs (WE n.decls m2 b2)/\h=[]):=by
 induction k with
 | zero=>intro b mm _ _ h;omega
 | succ k ih=>intro b mm h1 h2 h3;exact Z78 n b mm hn h1 h2 fun b2 m2 k1 k2 k3=>ih b2 m2 k1 k2 om
theorem Z77 (n:Zx) (b:Z6) (mm:Nat) (hn:Xd n:=by exact ob) (hw:wB n.decls b:=by exact ob) (hb:mm+9*b.sz<=900000000:=by exact ob):Zi Tryz.prog 164 [ZD n,Zs b,.i mm] [] (fun r h=>r=Zs (WE n.decls mm b)/\h=[]):=Z76 n hn (b.sz+1) b mm hw hb om
theorem Hk (b:Z6) (hz:b.sz<=1000000000:=by exact ob):Zi Tryz.prog 243 [Zs b] [] (fun r h=>r=.i (((Yt b.steps):Nat):Int)/\h=[]):=by
 have hbz:=Vf b
 refine ZK 21 Tryz.func243 (ar (iA (Yk b) ?_))
 intro b1
 refine ir 1 [(1,.p b1 0)] (ie (ar (Z1 1 3 (.i 0) (ie (aq (ab 0 (al (fun m F h=>∃(k:Nat),(k<=b.steps.length)/\(k+Yt (b.steps.drop k)=Yt b.steps)/\F=[(1,.p b1 0),(3,.i k)]/\h=[.obj b1 (Yk b)]/\m=b.steps.length-k) _ _ _ ⟨0,ob,(by simp),rfl,rfl,rfl⟩ (wk [0] (fr (Ya fl))) ?_)))))))
 rintro m F h ⟨k,Yj,Zp,rfl,rfl,rfl⟩
 refine aq (ar (ZY 3 4 (.i k) 6 (Ye b.steps) [0] [b1] (iw (Vl b.steps) (Z1 2 9 (.b (decide ((k:Int)<(b.steps.length:Int)))) (ib (b:=(decide ((k:Int)<(b.steps.length:Int)))) 9 (fun Za=>?_) (fun Za=>?_))))))
 ·have ZP:(k:Int)<(b.steps.length:Int):=(dq).1 Za
  refine Y2 3 (.n 11 (Ye b.steps) (.n 12 (.i k) (.k (.d .r)))) [0] [b1] ?_
  obtain ⟨x1,Z3⟩:=Zr (xs:=b.steps) (j:=k) om
  refine Zq (Zm none (k:Int) 5 (Wa Z3)) (Z1 2 15 (.i x1.op) (ZA [] (Hh x1.op) (Z1 1 17 (.b (Yf x1.op)) (ie (ac (Yf x1.op) Iff.rfl (fun Ze=>?_) (fun Ze=>?_))))))
  ·refine ak (ab 1 (az (Z1 1 18 (.i k) (ZL k (ir 1 [(1,.p b1 0),(3,.i (k+1:Nat))] (ie ?_))))))
   exact ZO ⟨k+1,ob,(Z2u Z3 Ze Zp),rfl,rfl,rfl⟩ (wk [0] (fr (ZQ k fl)))
  refine ax 0 (ar (ir 2 [(2,.i k)] (ie ?_)))
  exact Zb (r2 [] [.i k] ⟨rfl,rfl⟩ (li (by have:=Z2v Z3 Ze Zp;omega)))
 have Y1:¬((k:Int)<(b.steps.length:Int)):=ZI dq Za
 refine Z5 8 (.n 17 (.b false) (.k (.d .r))) (ie (WT (ax 0 (ar (ir 2 [(2,.i k)] (ie ?_))))))
 exact Zb (r2 [] [.i k] ⟨rfl,rfl⟩ (li (by have:=Z2t om Zp;omega)))
theorem NK (b:Z6) (mm:Nat) (op:Int) (x:Int) (hm:mm<=b.steps.length:=by exact ob) (ha:∀s∈b.steps.take mm,s.op=op->∃a,s.args=[a]) (hz:b.sz<=1000000000:=by exact ob):Zi Tryz.prog 244 [Zs b,.i mm,.i op,.i x] [] (fun r h=>r=.i (Xz op x (b.steps.take mm) 0)/\h=[]):=by
 have hbz:=Vf b
 refine ZK 36 Tryz.func244 (ar (iA (Yk b) ?_))
 intro b1
 refine ir 1 [(1,.i mm),(2,.i op),(3,.i x),(4,.p b1 0)] (ie (aq (ar (Z1 1 9 (.i 0) (ie (ab 0 (al (fun m F h=>∃(k:Nat),(k<=mm)/\(Xz op x ((b.steps.take mm).drop k) k=Xz op x (b.steps.take mm) 0)/\F=[(1,.i mm),(2,.i op),(3,.i x),(4,.p b1 0),(9,.i k)]/\h=[.obj b1 (Yk b)]/\m=mm-k) _ _ _ ⟨0,ob,(by simp),rfl,rfl,rfl⟩ (wk [0] (fq (Ya fl))) ?_)))))))
 rintro m F h ⟨k,Yj,Zp,rfl,rfl,rfl⟩
 refine aq (ar (Z1 3 12 (.b (decide ((k:Int)<(mm:Int)))) (ie (ZM ((k:Int)<(mm:Int)) (fun Ze=>?_) (fun Ze=>?_)))))
 ·refine ak (aq (ab 1 (ar (ZY 3 16 (Ye b.steps) 17 (.i k) [0] [b1] ?_))))
  obtain ⟨x1,Z3⟩:=Zr (xs:=b.steps) (j:=k) om
  have hxt:(b.steps.take mm)[k]? = some x1:=by rw [List.getElem?_take_of_lt om];exact Z3
  have hxm:=Y7 hxt
  refine Zq (Zm none (k:Int) 5 (Wa Z3)) (Z1 5 23 (.b (x1.op==op)) (ib (b:=(x1.op==op)) 23 (fun Za=>?_) (fun Za=>?_)))
  ·have ZP:x1.op=op:=(Zh).1 Za
   refine Y2 3 (.n 25 (Ye b.steps) (.n 26 (.i k) (.k (.d .r)))) [0] [b1] (Zq (Zm none (k:Int) 5 (Wa Z3)) (Z1 2 29 (Z0 x1.args) ?_))
   obtain ⟨x2,Zt⟩:=Zr (xs:=x1.args) (j:=0) (by obtain ⟨a,ha2⟩:=ha x1 hxm (by assumption);rw [ha2];simp)
   have hg0:=Jf Zt
   refine Zq (Zm none 0 1 (Y4 Zt)) (Z1 4 34 (.b (x2==x)) (ie (ac (x2==x) Zh (fun Zk=>?_) (fun Zk=>?_))))
   ·refine ar (ir 2 [(8,.i k)] (ie ?_))
    exact Zb (r2 [] [.i k] ⟨rfl,rfl⟩ (li (by have h:=P6 hxt ⟨by assumption,by rw [hg0];assumption⟩ Zp;omega)))
   refine ak (az (Z1 1 13 (.i k) (ZL k (ir 1 [(1,.i mm),(2,.i op),(3,.i x),(4,.p b1 0),(9,.i (k+1:Nat))] (ie ?_)))))
   exact ZO ⟨k+1,ob,(HX hxt (fun z=>Zk (by rw [<-hg0];exact z.2)) Zp),rfl,rfl,rfl⟩ (wk [0] (fq (ZQ k fl)))
  have Y1:¬(x1.op=op):=ZI Zh Za
  refine Z5 11 (.n 34 (.b false) (.k (.d .r))) (ie (WT (ak (az (Z1 1 13 (.i k) (ZL k (ir 1 [(1,.i mm),(2,.i op),(3,.i x),(4,.p b1 0),(9,.i (k+1:Nat))] (ie ?_))))))))
  exact ZO ⟨k+1,ob,(HX hxt (fun z=>absurd z.1 (by assumption)) Zp),rfl,rfl,rfl⟩ (wk [0] (fq (ZQ k fl)))
 refine ax 0 (ar (ir 1 [(8,.i (-1))] (ie ?_)))
 exact Zb (r2 [] [.i (-1)] ⟨rfl,rfl⟩ (li (by have h:=P5 (by rw [Ww];omega) Zp;omega)))
theorem Z6m (b:Z6) (frm0:Nat) (many:Nat) (hm:frm0<=b.steps.length:=by exact ob) (hz:b.sz<=1000000000:=by exact ob):Zi Tryz.prog 264 [Zs b,.i frm0,.i many] [] (fun r h=>r=.i (XO many (b.steps.drop frm0) frm0)/\h=[]):=by
 have hbz:=Vf b
 refine ZK 44 Tryz.func264 (ar (iA (Yk b) ?_))
 intro b1
 refine ir 1 [(1,.i frm0),(2,.i many),(3,.p b1 0)] (ie (aq (ar (Z1 2 7 (.i frm0) (ie (ab 0 (al (fun m F h=>∃(k:Nat),(k<=b.steps.length)/\(XO many (b.steps.drop k) k=XO many (b.steps.drop frm0) frm0)/\F=[(2,.i many),(3,.p b1 0),(7,.i k)]/\h=[.obj b1 (Yk b)]/\m=b.steps.length-k) _ _ _ ⟨frm0,ob,rfl,rfl,rfl,rfl⟩ (wk [0] fl) ?_)))))))
 rintro m F h ⟨k,Yj,Zp,rfl,rfl,rfl⟩
 refine aq (ar (ZY 3 9 (.i k) 11 (Ye b.steps) [0] [b1] (iw (Vl b.steps) (Z1 1 13 (.b (decide ((k:Int)<(b.steps.length:Int)))) (ie (ZM ((k:Int)<(b.steps.length:Int)) (fun Ze=>?_) (fun Ze=>?_)))))))
 ·refine ak (aq (ab 1 (ar (ZY 3 17 (Ye b.steps) 18 (.i k) [0] [b1] ?_))))
  obtain ⟨x1,Z3⟩:=Zr (xs:=b.steps) (j:=k) om
  refine Zq (Zm none (k:Int) 5 (Wa Z3)) (XQ 16 [(2,.i many),(3,.p b1 0),(7,.i k),(31,.b ((x1.op==6)&&(x1.into==0)))] [.obj b1 (Yk b)] ?_ (fun hj1=>?_))
  ·refine Xo [(2,.i many),(3,.p b1 0),(7,.i k),(42,.b (((x1.op==6)&&(x1.into==0))&&((x1.args.length:Int)==(many:Int))))] [.obj b1 (Yk b)] ?_ ?_
   ·refine ir 1 [(2,.i many),(3,.p b1 0),(7,.i k),(32,.b ((x1.op==6)&&(x1.into==0)))] (ib (b:=((x1.op==6)&&(x1.into==0))) 32 (fun Za=>?_) (fun Za=>?_))
    ·have ZP:(x1.op=6)/\(x1.into=0):=((YD Zh Zh)).1 Za
     refine Y2 3 (.n 34 (Ye b.steps) (.n 35 (.i k) (.w .z))) [0] [b1] (Zq (Zm none (k:Int) 5 (Wa Z3)) (Z1 2 38 (Z0 x1.args) (iw (Yh x1.args) (Z1 3 42 (.b ((x1.args.length:Int)==(many:Int))) (ie ?_)))))
     exact wk [0] (fw (fr (Zu ((x1.args.length:Int)==(many:Int)) Za fl)))
    have Y1:¬((x1.op=6)/\(x1.into=0)):=ZI (YD Zh Zh) Za
    refine Z5 10 (.n 42 (.b false) (.d (.k (.k (.k .z))))) (ie ?_)
    exact wk [0] (fw (fr (Zu false Za fl)))
   refine ac (((x1.op==6)&&(x1.into==0))&&((x1.args.length:Int)==(many:Int))) (p:=((x1.op=6)/\(x1.into=0))/\((x1.args.length:Int)=(many:Int))) (YD (YD Zh Zh) Zh) (fun Zk=>?_) (fun Zk=>?_)
   ·refine ar (ir 2 [(6,.i k)] (ie ?_))
    exact Zb (r2 [] [.i k] ⟨rfl,rfl⟩ (li (by have h:=PF Z3 (show Qk many x1 from ⟨Zk.1,by omega⟩) Zp;omega)))
   refine ak (az (ir 1 [(2,.i many),(3,.p b1 0),(14,.i k)] (ZL k (Z1 1 7 (.i (k+1:Nat)) (ie ?_)))))
   exact ZO ⟨k+1,ob,(PE Z3 (fun z=>Zk ⟨z.1,by have:=z.2;omega⟩) Zp),rfl,rfl,rfl⟩ (wk [0] (fw (ZQ k fl)))
  refine ir 4 [(2,.i many),(3,.p b1 0),(7,.i k),(23,.b (x1.op==6))] (ib (b:=(x1.op==6)) 23 (fun Zz=>?_) (fun Zz=>?_))
  ·have Yy:x1.op=6:=(Zh).1 Zz
   refine Y2 3 (.n 25 (Ye b.steps) (.n 26 (.i k) (.w .z))) [0] [b1] (Zq (Zm none (k:Int) 5 (Wa Z3)) (Z1 4 31 (.b (x1.into==0)) ?_))
   exact YG (wk [0] (fw (fr (Zu (x1.into==0) Zz fl)))) hj1
  have YK:¬(x1.op=6):=ZI Zh Zz
  refine Z5 8 (.n 31 (.b false) (.d (.k (.k (.k .z))))) ?_
  exact YG (wk [0] (fw (fr (Zu false Zz fl)))) hj1
 refine ax 0 (ar (ir 1 [(6,.i (-1))] (ie ?_)))
 exact Zb (r2 [] [.i (-1)] ⟨rfl,rfl⟩ (li (by have h:=PD om Zp;omega)))
theorem PR (b:Z6) (hz:b.sz<=1000000000):Zi Tryz.prog 86 [Zs b] [] (fun r h=>∃(v:Hd),r=.agg [.h v,.i b.result]/\h=[rK v 5 (Zl (Zv b.steps))]):=by
 have hbz:=Vf b
 refine ZK 28 Tryz.func86 (ar (iA (Yk b) ?_))
 intro b1
 refine iA [nl,.i 0] ?_
 intro b2
 refine ie (ar (DT 5 ?_))
 intro g1
 refine iR 3 [(1,.p b1 0),(2,.p b2 0),(8,.agg [.ms g1 0 0 0,.i b.result])] [2] [b1] (iA [nl,.i 0] ?_)
 intro b3
 refine ZF 0 b3 [.ms g1 0 0 0,.i b.result] (ie (aq (ar (Z1 1 4 (.i 0) (ie (ab 0 (al (fun m F h=>∃(k:Nat) (v:Hd),(k<=b.steps.length)/\F=[(1,.p b1 0),(2,.p b2 0),(3,.p b3 0),(4,.i k)]/\h=[.obj b3 [.h v,.i b.result],.obj b2 [nl,.i 0],.obj b1 (Yk b),rK v 5 (Zl (Zv (b.steps.take k)))]/\m=b.steps.length-k) _ _ _ ⟨0,(⟨some ⟨g1,0,none⟩,0,0⟩:Hd),ob,rfl,rfl,rfl⟩ (wk [0,1,1,0] (fw (fr (Ya fl))) (e:=(rc (rc (rc (rr (ls:=[]) ob rz)))))) ?_)))))))
 rintro m F h ⟨k,v,Yj,rfl,rfl,rfl⟩
 refine aq (ar (ZY 3 9 (.i k) 11 (Ye b.steps) [2] [b1] (iw (Vl b.steps) (Z1 1 13 (.b (decide ((k:Int)<(b.steps.length:Int)))) (ie (ZM ((k:Int)<(b.steps.length:Int)) (fun Ze=>?_) (fun Ze=>?_)))))))
 ·refine ak (aq (ab 1 (aE 12 (Y6 7 12 [0,1,2,3,4] (.n 17 (.h v) (.n 19 (Ye b.steps) (.n 20 (.i k) .r))) [0,2] [b3,b1] ?_))))
  obtain ⟨x1,Z3⟩:=Zr (xs:=b.steps) (j:=k) om
  have hss:=QY Z3
  refine dx 5 (Zm none (k:Int) 5 (Wa Z3)) (ZZ 5 6 [6] 22 (Y3 x1) (Z9 7 (Yv 7 [] [0] [b3] (NF x1) (Z9 8 (dL 8 [0] [b3] [Y3 x1] 1 5 ?_)))))
  intro v1
  refine Y0 3 3 [] (.n 24 (.sl [Y3 x1] none) (.p .r)) (Z9 9 (Fs 9 4 k [] [] v 5 (Zl (Zv (b.steps.take k))) [Y3 x1] none (by rw [TZ,Ww,Vq om]) (TJ rfl) rfl (List.cons_ne_nil _ _) (by simp<;>omega) ?_))
  intro v2
  refine ZZ 1 2 [10] 26 (.p b3 0) (Z9 11 (YL 11 2 [] [] b3 [.h v2,.i b.result] (de (az (Z1 1 14 (.i k) (ZL k (ir 1 [(1,.p b1 0),(2,.p b2 0),(3,.p b3 0),(4,.i (k+1:Nat))] (ie ?_))))))))
  exact ZO ⟨k+1,v2,ob,rfl,rfl,rfl⟩ (wk [0,2,2,0] (fw (fr (ZQ k fl))) (e:=(rc (rc (rc (rr (ls:=Zl (Zv (b.steps.take k))++Zl [Y3 x1]) (IR Z3) rz))))))
 refine ax 0 (ar (Yl 1 27 (.agg [.h v,.i b.result]) [0] [b3] (ZF 1 b2 [.h v,.i b.result] (ie ?_))))
 exact Zb (r3 [3] [.agg [.h v,.i b.result]] [0] [(b2,b2)] ⟨v,rfl,rfl⟩ (lr _) (eq:=(rr (ls:=Zl (Zv (b.steps.take k))) (by rw [Vg om]) rz)))
theorem PQ (b:Z6) (hz:b.sz<=1000000000:=by exact ob) (h0:0<b.steps.length:=by exact ob):Zi Tryz.prog 86 [Zs b] [] (fun r h=>∃(g:Nat) (c:Nat),r=.agg [.ms g 0 b.steps.length c,.i b.result]/\h=[.row (.slice (some ⟨g,0,none⟩) b.steps.length c) 5 (Zl (Zv b.steps))]):=(PR b hz).form (T:=fun v=>.agg [.h v,.i b.result]) (m:=b.steps.length) (TZ _) om h0
theorem Z6y (ds:List Zf) (b:Z6) (x:Int) (many:Nat) (hw:wB ds b:=by exact ob) (hx:0<=x/\x<=900000000:=by exact ob) (hz:b.sz<=1000000000:=by exact ob):Zi Tryz.prog 242 [Zs b,.i x,.i many] [] (fun r h=>r=Zs (V8 b x many)/\h=[]):=by
 have hbz:=Vf b
 have ZE:=(K4 b).1 hw
 have hrl:=CF b.steps
 refine ZK 57 Tryz.func242 (ar (iA (Yk b) ?_))
 intro b1
 refine iA [nl,.i 0] ?_
 intro b2
 refine ie (aD 6 (W2 3 6 [0,1,3] [(1,.i x),(2,.i many),(3,.p b1 0),(6,.p b2 0),(11,Zs b),(12,Zs b),(14,.i x)] [1,1] [b1,b1] (Z9 2 (Yv 2 [] [1] [b1] (Hk b) (Z9 4 (Yv 4 [] [] [] (NK b (Yt b.steps) 16 x (ha:=(fun s hs h16=>HI (EZ ZE s (TR hs) (by rw [h16];rfl))))) (ZZ 0 1 [5] 7 (.i (Xz 16 x (b.steps.take (Yt b.steps)) 0)) (de (aD 6 (Y6 3 6 [0,1,3] (.n 16 (Zs b) (.n 17 (Zs b) (.n 19 (.i many) .r))) [1,1] [b1,b1] (Z9 2 (Yv 2 [] [1] [b1] (Hk b) (Z9 4 (Yv 4 [] [] [] (Z6m b (Yt b.steps) many) (ZZ 0 1 [5] 8 (.i (XO many (b.steps.drop (Yt b.steps)) (Yt b.steps))) (de (aq (ar (Xo [(1,.i x),(3,.p b1 0),(6,.p b2 0),(7,.i (Xz 16 x (b.steps.take (Yt b.steps)) 0)),(8,.i (XO many (b.steps.drop (Yt b.steps)) (Yt b.steps))),(26,.b ((decide ((Xz 16 x (b.steps.take (Yt b.steps)) 0)<0))||(decide ((XO many (b.steps.drop (Yt b.steps)) (Yt b.steps))<0))))] [.obj b2 [nl,.i 0],.obj b1 (Yk b)] ?_ ?_)))))))))))))))))))
 ·refine ir 3 [(1,.i x),(3,.p b1 0),(6,.p b2 0),(7,.i (Xz 16 x (b.steps.take (Yt b.steps)) 0)),(8,.i (XO many (b.steps.drop (Yt b.steps)) (Yt b.steps))),(23,.b (decide ((Xz 16 x (b.steps.take (Yt b.steps)) 0)<0)))] (ib (b:=(decide ((Xz 16 x (b.steps.take (Yt b.steps)) 0)<0))) 23 (fun Za=>?_) (fun Za=>?_))
  ·have ZP:(Xz 16 x (b.steps.take (Yt b.steps)) 0)<0:=(dq).1 Za
   refine Z5 3 (.n 26 (.b true) (.d (.w (.k .z)))) (ie ?_)
   exact wk [0,0] (fq (fr (Zu true Za fl)))
  have Y1:¬((Xz 16 x (b.steps.take (Yt b.steps)) 0)<0):=ZI dq Za
  refine Z5 3 (.n 26 (.b (decide ((XO many (b.steps.drop (Yt b.steps)) (Yt b.steps))<0))) (.d (.w (.k .z)))) (ie ?_)
  exact wk [0,0] (fq (fr (Zu (decide ((XO many (b.steps.drop (Yt b.steps)) (Yt b.steps))<0)) Za fl)))
 refine ac ((decide ((Xz 16 x (b.steps.take (Yt b.steps)) 0)<0))||(decide ((XO many (b.steps.drop (Yt b.steps)) (Yt b.steps))<0))) (p:=((Xz 16 x (b.steps.take (Yt b.steps)) 0)<0)∨((XO many (b.steps.drop (Yt b.steps)) (Yt b.steps))<0)) (Yo dq dq) (fun Ze=>?_) (fun Ze=>?_)
 ·refine ar (iR 1 [(6,.p b2 0),(27,Zs b)] [1] [b1] (ZF 0 b2 (Yk b) (ie ?_)))
  exact Zb (r3 [] [Zs b] [0] [(b2,b2)] ⟨rfl,rfl⟩ (Zg.agg (.cons (Zg.sl _ (Yx Zv (Z4x Ze).symm)) (.cons li .nil))))
 obtain ⟨o1,o2,so,o3,o4⟩:=CN (xs:=b.steps) (x:=x) (fun z=>Ze (.inl z))
 obtain ⟨p1,p2,sc,p3,p4,p5⟩:=JS (xs:=b.steps) (many:=many) (fun z=>Ze (.inr z))
 rw [show V6 b.steps x=(Xz 16 x (b.steps.take (Yt b.steps)) 0) from rfl] at o1 o2
 rw [show Wo b.steps many=(XO many (b.steps.drop (Yt b.steps)) (Yt b.steps)) from rfl] at p1 p2
 refine ak (ar (iR 1 [(1,.i x),(6,.p b2 0),(7,.i (Xz 16 x (b.steps.take (Yt b.steps)) 0)),(8,.i (XO many (b.steps.drop (Yt b.steps)) (Yt b.steps))),(28,Zs b)] [1] [b1] (ic [] (PQ b) ?_)))
 rintro _ _ ⟨g1,c1,rfl,rfl⟩
 refine iA [nl,.i 0] ?_
 intro b3
 refine ZF 0 b3 [.ms g1 0 b.steps.length c1,.i b.result] (ie (aD 7 (Y6 3 7 [0,1,2,3] (.n 31 (.ms g1 0 b.steps.length c1) (.n 32 (.i (Xz 16 x (b.steps.take (Yt b.steps)) 0)) (.n 33 (.i x) .r))) [0] [b3] (Z9 4 (Yv 4 [] [0] [b3] (KU 17 x) (dx 5 (W4 g1 b.steps.length c1 ((Xz 16 x (b.steps.take (Yt b.steps)) 0).toNat) 5 (Xz 16 x (b.steps.take (Yt b.steps)) 0)) (Z9 6 (AJ 6 1 [] [] g1 b.steps.length c1 5 (((Xz 16 x (b.steps.take (Yt b.steps)) 0).toNat)*5) (Yg (Zj 17 x)) (Zl (Zv b.steps)) (Zl (Zv (b.steps.set (Xz 16 x (b.steps.take (Yt b.steps)) 0).toNat (Zj 17 x)))) (by have:(Yg (Zj 17 x)).length=5:=rfl;rw [TZ];omega) (DG o3) (de (ar (ZY 3 37 (.ms g1 0 b.steps.length c1) 38 (.i (XO many (b.steps.drop (Yt b.steps)) (Yt b.steps))) [1] [b3] (Zq (W4 g1 b.steps.length c1 ((XO many (b.steps.drop (Yt b.steps)) (Yt b.steps)).toNat) 5 (XO many (b.steps.drop (Yt b.steps)) (Yt b.steps))) (VI (WY 0 g1 b.steps.length c1 5 (((XO many (b.steps.drop (Yt b.steps)) (Yt b.steps)).toNat)*5) (Zl (Zv (b.steps.set (Xz 16 x (b.steps.take (Yt b.steps)) 0).toNat (Zj 17 x)))) (Yg sc) 44 (Y3 sc) (FZ (El Ze p3))) (iA [.i 0,.i 0,.i 0,nl,nl] ?_))))))))))))))
 intro b4
 refine ZF 0 b4 (Yg sc) (ie (ar (Y2 8 (.n 42 (.ms g1 0 b.steps.length c1) (.n 43 (.i (XO many (b.steps.drop (Yt b.steps)) (Yt b.steps))) (.n 45 (.i sc.op) (.n 47 (.i sc.num) (.n 48 (.i x) .r))))) [2,0,0] [b3,b4,b4] (ia ((1+x)) ((1)+(x)) (Yl 5 54 (.agg [.i sc.op,.i sc.num,.i (1+x),Z0 sc.args,Yu sc.kids]) [0,0] [b4,b4] (Zq (W4 g1 b.steps.length c1 ((XO many (b.steps.drop (Yt b.steps)) (Yt b.steps)).toNat) 5 (XO many (b.steps.drop (Yt b.steps)) (Yt b.steps))) (Cw 1 g1 b.steps.length c1 5 (((XO many (b.steps.drop (Yt b.steps)) (Yt b.steps)).toNat)*5) [.i sc.op,.i sc.num,.i (1+x),Z0 sc.args,Yu sc.kids] (Zl (Zv (b.steps.set (Xz 16 x (b.steps.take (Yt b.steps)) 0).toNat (Zj 17 x)))) (Zl (Zv ((b.steps.set (Xz 16 x (b.steps.take (Yt b.steps)) 0).toNat (Zj 17 x)).set (XO many (b.steps.drop (Yt b.steps)) (Yt b.steps)).toNat (TI (1+x) sc)))) (by rw [TZ,UU];simp only [YS,Xm];omega) (DG (t:=TI (1+x) sc) (El Ze p3)) (XK (UE 0 1 0 (.slice (some ⟨g1,0,none⟩) b.steps.length c1) 5 b3 (Zv ((b.steps.set (Xz 16 x (b.steps.take (Yt b.steps)) 0).toNat (Zj 17 x)).set (XO many (b.steps.drop (Yt b.steps)) (Yt b.steps)).toNat (TI (1+x) sc))) [.ms g1 0 b.steps.length c1,.i b.result] (X8 _) rfl) (ie (ar (Yl 1 56 (.agg [ZX ((b.steps.set (Xz 16 x (b.steps.take (Yt b.steps)) 0).toNat (Zj 17 x)).set (XO many (b.steps.drop (Yt b.steps)) (Yt b.steps)).toNat (TI (1+x) sc)) (.slice (some ⟨g1,0,none⟩) b.steps.length c1),.i b.result]) [0] [b3] (ZF 3 b2 [ZX ((b.steps.set (Xz 16 x (b.steps.take (Yt b.steps)) 0).toNat (Zj 17 x)).set (XO many (b.steps.drop (Yt b.steps)) (Yt b.steps)).toNat (TI (1+x) sc)) (.slice (some ⟨g1,0,none⟩) b.steps.length c1),.i b.result] (ie ?_)))))))))))))
 exact Zb (r3 [] [.agg [ZX ((b.steps.set (Xz 16 x (b.steps.take (Yt b.steps)) 0).toNat (Zj 17 x)).set (XO many (b.steps.drop (Yt b.steps)) (Yt b.steps)).toNat (TI (1+x) sc)) (.slice (some ⟨g1,0,none⟩) b.steps.length c1),.i b.result]] [0] [(b2,b2)] ⟨rfl,rfl⟩ (Zg.agg (.cons (Zg.sl _ (Yx Zv (Z4y Ze p5))) (.cons li .nil))))
theorem Z6r (xs:List Int) (y:Int) (hl:xs.length<=1000000000:=by exact ob):Zi Tryz.prog 118 [Z0 xs,.i y] [] (fun r h=>∃(ys:List Int),r=Z0 ys/\h=[]/\(ys.length<=xs.length+1/\∀z,z∈ys↔z∈xs∨z=y)):=by
 refine ZK 49 Tryz.func118 (ar (ir 1 [(0,Z0 xs),(1,.i y)] (ie (ar (iL (Z8 []) 0 1 ?_)))))
 intro v1
 refine Z1 1 5 (Z7 [] v1) (ie (ar (Z1 1 6 (.b false) (ie (aq (ar (Z1 1 7 (.i 0) (ie (ab 0 (al (fun m F h=>∃(k:Nat) (acc:List Int) (d:Bool) (v:Value),(k<=xs.length)/\(Qy xs y k acc d)/\F=[(0,Z0 xs),(1,.i y),(5,Z7 acc v),(6,.b d),(7,.i k)]/\h=[.tail v 1]/\m=xs.length-k) _ _ _ ⟨0,[],false,v1,ob,(Qy.zero xs y),rfl,rfl,rfl⟩ (wk [0] (fq (Ya fl))) ?_))))))))))
 rintro m F h ⟨k,acc,d,v,Yj,Zp,rfl,rfl,rfl⟩
 refine aq (ar (Yq 2 9 (.i k) 10 (Z0 xs) (iw (Yh xs) (Z1 1 12 (.b (decide ((k:Int)<(xs.length:Int)))) (ie (ZM ((k:Int)<(xs.length:Int)) (fun Ze=>?_) (fun Ze=>?_)))))))
 ·obtain ⟨x1,Z3⟩:=Zr (xs:=xs) (j:=k) om
  have hil:acc.length<=k+1:=Vh Zp.len (by split<;>omega)
  refine ak (aq (ab 1 (aq (ar (Xo [(0,Z0 xs),(1,.i y),(5,Z7 acc v),(6,.b d),(7,.i k),(24,.b ((!d)&&(decide (x1>=y))))] [.tail v 1] ?_ ?_)))))
  ·refine ir 3 [(0,Z0 xs),(1,.i y),(5,Z7 acc v),(6,.b d),(7,.i k),(17,.b (!d))] (ib (b:=(!d)) 17 (fun Za=>?_) (fun Za=>?_))
   ·have ZP:¬(d=true):=((Yw Iff.rfl)).1 Za
    refine Z5 2 (.n 18 (Z0 xs) (.n 19 (.i k) (.w (.k (.k .z))))) (Zq (Zm none (k:Int) 1 (Y4 Z3)) (Z1 4 24 (.b (decide (x1>=y))) (ie ?_)))
    exact wk [0] (fq (fr (Zu (decide (x1>=y)) Za fl)))
   have Y1:¬(¬(d=true)):=ZI (Yw Iff.rfl) Za
   refine Z5 7 (.n 24 (.b false) (.d (.w (.k .z)))) (ie ?_)
   exact wk [0] (fq (fr (Zu false Za fl)))
  refine XI (fun F h=>∃(acc2:List Int) (d2:Bool) (w:Value),((acc2=acc/\d2=d)∨(acc2=acc++[y]/\d2=true/\¬d=true)∨(acc2=acc/\d2=true/\x1=y))/\(acc2.length<=acc.length+1)/\F=[(0,Z0 xs),(1,.i y),(5,Z7 acc2 w),(6,.b d2),(7,.i k)]/\h=[.tail w 1]) ?_ ?_
  ·refine ac ((!d)&&(decide (x1>=y))) (p:=(¬(d=true))/\(x1>=y)) (YD (Yw Iff.rfl) dq) (fun Zk=>?_) (fun Zk=>?_)
   ·refine aq (ar (ir 2 [(0,Z0 xs),(1,.i y),(5,Z7 acc v),(7,.i k),(25,Z0 xs),(26,.i k)] (Zq (Zm none (k:Int) 1 (Y4 Z3)) (Z1 3 30 (.b (decide (x1>y))) (ie (XI (fun F h=>∃(w3:Value),F=[(0,Z0 xs),(1,.i y),(5,Z7 (if x1>y then (acc++[y]) else acc) w3),(7,.i k)]/\h=[.tail w3 1]) ?_ ?_))))))
    ·refine ZM (x1>y) (fun ZG=>?_) (fun ZG=>?_)
     ·refine az (ir 2 [(0,Z0 xs),(1,.i y),(7,.i k),(31,Z7 acc v),(32,.i y)] (iL (Z8 [y]) 1 1 ?_))
      intro v2
      refine Z5 0 (.n 33 (Z0 [y]) (.p .r)) (ip 1 (Z8 (acc++[y])) (Z8 acc) (Z8 [y]) v none 1 (YF _) (YF _) (XX _) (by simp<;>omega) (by simp [XW,Z8]) ?_)
      intro v3
      refine Z1 1 5 (Z7 (acc++[y]) v3) (ie ?_)
      exact ZW ⟨v3,rfl,rfl⟩ (wk [0] (fw (fc (x:=Z7 (acc++[y]) v3) (Zg.slh _ (Yx Z8 (by first|rfl|(rw [Zo ZG])|(rw [Zc ZG])|(simp [ZG];done)|(rw [Xl];simp [ZG];done)|omega))) fl)))
     refine ak ?_
     exact ZW ⟨v,rfl,rfl⟩ (wk [0] (fw (fc (x:=Z7 acc v) (Zg.slh _ (Yx Z8 (by first|rfl|(rw [Zo ZG])|(rw [Zc ZG])|(simp [ZG];done)|(rw [Xl];simp [ZG];done)|omega))) fl)))
    rintro F h ⟨w3,rfl,rfl⟩
    refine az (ir 1 [(0,Z0 xs),(1,.i y),(5,Z7 (if x1>y then (acc++[y]) else acc) w3),(6,.b true),(7,.i k)] (ie ?_))
    exact ZW ⟨(if x1>y then (acc++[y]) else acc),true,w3,(if h:x1>y then (by rw [Zo h];exact .inr (.inl ⟨rfl,rfl,Zk.1⟩)) else (by rw [Zc h];exact .inr (.inr ⟨rfl,rfl,by have:=Zk.2;omega⟩))),(by split<;>simp),rfl,rfl⟩ (wk [0] fl)
   refine ak ?_
   exact ZW ⟨acc,d,v,(.inl ⟨rfl,rfl⟩),ob,rfl,rfl⟩ (wk [0] fl)
  rintro F h ⟨acc2,d2,w,Vy,Jo,rfl,rfl⟩
  refine az (ir 3 [(0,Z0 xs),(1,.i y),(6,.b d2),(7,.i k),(35,Z7 acc2 w),(36,Z0 xs),(37,.i k)] (Zq (Zm none (k:Int) 1 (Y4 Z3)) (Z1 1 39 (.i x1) (iL (Z8 [x1]) 1 1 ?_))))
  intro v4
  refine Z5 0 (.n 40 (Z0 [x1]) (.p .r)) (ip 1 (Z8 (acc2++[x1])) (Z8 acc2) (Z8 [x1]) w none 1 (YF _) (YF _) (XX _) (by simp<;>omega) (by simp [XW,Z8]) ?_)
  intro v5
  refine Z1 1 5 (Z7 (acc2++[x1]) v5) (ie (az (Z1 1 13 (.i k) (ZL k (Z5 1 (.n 7 (.i (k+1:Nat)) (.p (.d (.k (.p (.d (.d (.p (.k (.k (.k .z))))))))))) (ie ?_))))))
  exact ZO ⟨k+1,(acc2++[x1]),d2,v5,ob,(Zp.go Z3 Vy),rfl,rfl,rfl⟩ (wk [0] (fq (ZQ k fl)))
 have hil:acc.length<=k+1:=Vh Zp.len (by split<;>omega)
 refine ax 0 (aq (ar (Z1 2 43 (.b (!d)) (ie (XI (fun F h=>∃(w4:Value),F=[(5,Z7 (if d=true then acc else (acc++[y])) w4)]/\h=[.tail w4 1]) ?_ ?_)))))
 ·refine ac (!d) (p:=¬(d=true)) (Yw Iff.rfl) (fun Ym=>?_) (fun Ym=>?_)
  ·refine az (ir 2 [(44,Z7 acc v),(45,.i y)] (iL (Z8 [y]) 1 1 ?_))
   intro v6
   refine Z5 0 (.n 46 (Z0 [y]) (.p .r)) (ip 1 (Z8 (acc++[y])) (Z8 acc) (Z8 [y]) v none 1 (YF _) (YF _) (XX _) (by simp<;>omega) (by simp [XW,Z8]) ?_)
   intro v7
   refine ir 1 [(5,Z7 (acc++[y]) v7)] (ie ?_)
   exact ZW ⟨v7,rfl,rfl⟩ (wk [0] (fc (x:=Z7 (acc++[y]) v7) (Zg.slh _ (Yx Z8 (by first|rfl|(rw [Zo Ym])|(rw [Zc Ym])|(simp [Ym];done)|(rw [Xl];simp [Ym];done)|omega))) fl))
  refine ak ?_
  exact ZW ⟨v,rfl,rfl⟩ (wk [0] (fc (x:=Z7 acc v) (Zg.slh _ (Yx Z8 (by first|rfl|(rw [Zo Ym])|(rw [Zc Ym])|(simp [Ym];done)|(rw [Xl];simp [Ym];done)|omega))) fl))
 rintro F h ⟨w4,rfl,rfl⟩
 refine ar (ir 2 [(4,Z7 (if d=true then acc else (acc++[y])) w4)] (ie ?_))
 exact Zb (r2 [] [Z7 (if d=true then acc else (acc++[y])) w4] ⟨(if d=true then acc else (acc++[y])),rfl,rfl,(if hd:d=true then (by rw [Zo hd];exact (Zp.fin om).1 hd) else (by rw [Zc hd];exact (Zp.fin om).2 hd))⟩ (Zg.forget _ _))
theorem Z71 (n:Zx) (s:Z4) (j:Nat) (kept:List Int) (kd:Z6) (hn:Xd n) (hws:wS n.decls s) (hkd:s.kids[j]? = some kd) (hnk:Q3 kd) (hK:kept.length+s.sz<=900000000) (ih:∀(b2:Z6) (K2:List Int),(wB n.decls b2)->(Ab b2)->(K2.length+b2.sz<=900000000)->(b2.sz<s.sz)->Zi Tryz.prog 165 [ZD n,Zs b2,Z0 K2] [] (fun r h=>r=Zs (Wq n.decls K2 b2)/\h=[])):Zi Tryz.prog 209 [ZD n,Y3 s,.i j,Z0 kept] [] (fun r h=>r=Zs (T3 n.decls kept s.op s.num s.args j kd)/\h=[]):=by
 have Xu:=hn.decls
 have hks:=Uy hkd
 have hwk:=HC hws hkd
 have haz:=Qg s
 have hjl:=(XM.1 hkd).1
 refine ZK 65 Tryz.func209 (ar (iA (ZU n) ?_))
 intro b1
 refine iA (Yg s) ?_
 intro b2
 refine iA [nl,.i 0] ?_
 intro b3
 refine ie (aq (ar (iR 3 [(2,.i j),(3,Z0 kept),(4,.p b1 0),(5,.p b2 0),(8,.p b3 0),(14,.b (s.op != 8))] [1] [b2] (ie (ac (s.op != 8) Yi (fun Ze=>?_) (fun Ze=>?_))))))
 ·refine aD 9 (Y6 5 9 [0,1,2,3] (.n 15 (ZD n) (.n 17 (Yu s.kids) (.n 18 (.i j) .r))) [2,1] [b1,b2] (dx 4 (Zm none (j:Int) 2 (U5 hkd)) (Y0 2 4 [5,6] (.n 20 (Zs kd) (.n 21 (Z0 kept) .r)) (Z9 7 (Yv 7 [] [] [] (ih kd kept (by first|exact hwk|exact Jo) (by first|exact B3 hnk|exact Gs) ob ob) (Z9 8 (YL 8 0 [] [] b3 (Yk (Wq n.decls kept kd)) (de ?_))))))))
  have hE:=N5 (ds:=n.decls) (kept:=kept) (op:=s.op) (num:=s.num) (args:=s.args) (j:=j) (kd:=kd) (fun z=>Ze z.1)
  exact Zb (r3 [] [Zs (Wq n.decls kept kd)] [0] [(b3,b3)] ⟨rfl,rfl⟩ (Zg.agg (.cons (Zg.sl _ (Yx Zv (by rw [hE]))) (.cons (li (by rw [hE])) .nil))))
 refine ak (ar (Yl 2 24 (Z0 s.args) [1] [b2] ?_))
 obtain ⟨x1,Z3⟩:=Zr (xs:=s.args) (j:=0) (by obtain ⟨⟨a,ha2,_⟩,_⟩:=D4 hws om;rw [ha2];simp)
 have hg1:=Jf Z3
 have hxb:0<=x1/\x1<=900000000:=by obtain ⟨⟨a,ha2,ha3⟩,_⟩:=D4 hws om;rw [ha2] at hg1;have:a=x1:=hg1;omega
 refine Zq (Zm none 0 1 (Y4 Z3)) (Z1 2 9 (.i x1) (ie (ar (ZY 3 28 (Yu s.kids) 29 (.i j) [1] [b2] (Zq (Zm none (j:Int) 2 (U5 hkd)) (Z1 1 31 (Zs kd) (iA [nl,.i 0] ?_)))))))
 intro b4
 refine ZF 0 b4 (Yk kd) (ie (aq (ar (Yq 2 32 (Z0 kept) 33 (.i x1) (ZA [] (U8 kept x1) (Z1 1 35 (.b (!(decide (x1∈kept)))) (ie (XI (fun F h=>∃(B2:Z6) (K2:List Int),(Wq n.decls K2 B2=T3 n.decls kept s.op s.num s.args j kd)/\(wB n.decls B2)/\(Ab B2)/\(B2.sz<=kd.sz)/\(K2.length<=kept.length+1)/\F=[(3,Z0 K2),(4,.p b1 0),(8,.p b3 0),(10,.p b4 0)]/\h=[.obj b4 (Yk B2),.obj b3 [nl,.i 0],.obj b1 (ZU n)]) ?_ ?_))))))))
 ·refine ac (!(decide (x1∈kept))) (p:=¬(x1∈kept)) (Yw dq) (fun Zk=>?_) (fun Zk=>?_)
  ·refine aD 16 (W2 7 16 [0,1,2,3,4,5,6,7,9] [(3,Z0 kept),(4,.p b1 0),(8,.p b3 0),(9,.i x1),(10,.p b4 0),(36,Zs kd),(37,.i x1),(39,Zd n.decls),(41,Zd n.decls),(43,.i s.num),(45,.i j)] [0,3,3,2] [b4,b1,b1,b2] (Z9 8 (dc 8 [] [3,0] [b1,b4] (KS n.decls s.num) ?_)))
   rintro _ _ ⟨v1,rfl,rfl⟩
   obtain ⟨x2,Zt⟩:=Zr (xs:=Zw n.decls s.num) (j:=j) (by have h:=(D4 hws om).2;omega)
   have hfl:(Uf n.decls s.num j).length=(ZC n.decls x2).length:=by rw [IL (by rw [Kr,Zt];rfl)]
   have hcf:=VK Xu x2
   refine dx 10 (Zm (some v1) (j:Int) 1 (Y4 Zt)) (ZZ 4 5 [11] 47 (.i x2) (Z9 12 (Yv 12 [] [0] [b4] (Qr n.decls x2) (dn 13 (.i (((ZC n.decls x2).length:Nat):Int)) (.i (((Z8 (ZC n.decls x2)).length:Nat):Int)) (li (by rw [Yh])) (Z9 14 (Yv 14 [] [] [] (Z6y n.decls kd x1 ((ZC n.decls x2).length) (hw:=hwk) (hx:=hxb)) ?_))))))
   have hwr:=Z91 (x:=x1) (many:=(ZC n.decls x2).length) hwk
   have hsr:=Z4v (x:=x1) (many:=(ZC n.decls x2).length) hwk
   refine Z9 15 (YL 15 1 [] [] b4 (Yk (V8 kd x1 ((ZC n.decls x2).length))) (de (ar (Yl 1 51 (Zs (V8 kd x1 ((ZC n.decls x2).length))) [0] [b4] (ZA [] (Hk (V8 kd x1 ((ZC n.decls x2).length))) (Z1 1 11 (.i (((Yt (V8 kd x1 ((ZC n.decls x2).length)).steps):Nat):Int)) (ie (ar (Y2 3 (.n 53 (Zs (V8 kd x1 ((ZC n.decls x2).length))) (.n 54 (.i (((Yt (V8 kd x1 ((ZC n.decls x2).length)).steps):Nat):Int)) (.n 55 (.i x1) .r))) [0] [b4] (ZA [] (NK (V8 kd x1 ((ZC n.decls x2).length)) (Yt (V8 kd x1 ((ZC n.decls x2).length)).steps) 17 x1 (hm:=(CF _)) (ha:=(fun s2 hs2 h17=>HI (EZ ((K4 _).1 hwr) s2 (TR hs2) (by rw [h17];rfl))))) (Z1 1 57 (.b (decide ((Xz 17 x1 ((V8 kd x1 ((ZC n.decls x2).length)).steps.take (Yt (V8 kd x1 ((ZC n.decls x2).length)).steps)) 0)>=0))) (ie (ZM ((Xz 17 x1 ((V8 kd x1 ((ZC n.decls x2).length)).steps.take (Yt (V8 kd x1 ((ZC n.decls x2).length)).steps)) 0)>=0) (fun ZG=>?_) (fun ZG=>?_))))))))))))))
   ·refine az (Yq 2 58 (Z0 kept) 59 (.i x1) (ic [] (Z6r kept x1) ?_))
    rintro _ _ ⟨ys1,rfl,rfl,ZP⟩
    have hin:=ZP
    refine ir 1 [(3,Z0 ys1),(4,.p b1 0),(8,.p b3 0),(10,.p b4 0)] (ie ?_)
    exact ZW ⟨_,_,(Z5d om hg1 Zk hfl ((O7 ((CI kd).1 hnk)).1 ZG) hin.2),hwr,(Mf hnk),ob,hin.1,rfl,rfl⟩ (wk [0,1,2] (fc (x:=Z0 ys1) (Zg.sl _ (Yx Z8 (by first|rfl|(rw [Zo Zk])|(rw [Zc Zk])|(simp [Zk,ZG,ZP];done)|(rw [Xl];simp [Zk,ZG,ZP];done)|omega))) fl))
   refine ak ?_
   exact ZW ⟨_,_,(Z5e om hg1 Zk hfl (ER fun z=>ZG ((O7 ((CI kd).1 hnk)).2 z))),hwr,(Mf hnk),ob,ob,rfl,rfl⟩ (wk [0,1,2] (fc (x:=Z0 kept) (Zg.sl _ (Yx Z8 (by first|rfl|(rw [Zo Zk])|(rw [Zc Zk])|(simp [Zk,ZG];done)|(rw [Xl];simp [Zk,ZG];done)|omega))) fl))
  refine ak ?_
  exact ZW ⟨_,_,(N5 (fun z=>Zk (hg1▸z.2))),hwk,(B3 hnk),ob,ob,rfl,rfl⟩ (wk [0,0,1] (fc (x:=Z0 kept) (Zg.sl _ (Yx Z8 (by first|rfl|(rw [Zo Zk])|(rw [Zc Zk])|(simp [Zk];done)|(rw [Xl];simp [Zk];done)|omega))) fl))
 rintro F h ⟨B2,K2,Vy,Jo,Gs,Z9m,Z9n,rfl,rfl⟩
 refine ar (iR 3 [(8,.p b3 0),(61,ZD n),(62,Zs B2),(63,Z0 K2)] [2,0] [b1,b4] (ZA [] (ih B2 K2 (by first|exact hwk|exact Jo) (by first|exact B3 hnk|exact Gs) ob ob) (ZF 1 b3 (Yk (Wq n.decls K2 B2)) (ie ?_))))
 exact Zb (r3 [] [Zs (Wq n.decls K2 B2)] [0] [(b3,b3)] ⟨rfl,rfl⟩ (Zg.agg (.cons (Zg.sl _ (Yx Zv (by rw [Vy]))) (.cons (li (by rw [Vy])) .nil))))
theorem Z70 (n:Zx) (b:Z6) (kept:List Int) (hn:Xd n) (hw:wB n.decls b) (hn2:Ab b) (hK:kept.length+b.sz<=900000000) (ih:∀(s:Z4) (j:Nat) (kept:List Int) (kd:Z6),(wS n.decls s)->(s.kids[j]? = some kd)->(Q3 kd)->(kept.length+s.sz<=900000000)->(s.sz<b.sz)->Zi Tryz.prog 209 [ZD n,Y3 s,.i j,Z0 kept] [] (fun r h=>r=Zs (T3 n.decls kept s.op s.num s.args j kd)/\h=[])):Zi Tryz.prog 165 [ZD n,Zs b,Z0 kept] [] (fun r h=>r=Zs (Wq n.decls kept b)/\h=[]):=by
 have Xu:=hn.decls
 have hbz:=Vf b
 refine ZK 61 Tryz.func165 (ar (iA (ZU n) ?_))
 intro b1
 refine iA (Yk b) ?_
 intro b2
 refine iA [nl,.i 0] ?_
 intro b3
 refine ie (ar (iL (Zv []) 0 5 ?_))
 intro v1
 refine iR 3 [(2,Z0 kept),(3,.p b1 0),(4,.p b2 0),(6,.p b3 0),(15,.agg [ZX [] v1,.i b.result])] [2] [b2] (iA [nl,.i 0] ?_)
 intro b4
 refine ZF 0 b4 [ZX [] v1,.i b.result] (ie (aq (ar (Z1 1 8 (.i 0) (ie (ab 0 (al (fun m F h=>∃(k:Nat) (xs:List Z4) (v:Value),(k<=b.steps.length)/\(xs.length=k)/\(xs++Um n.decls kept (b.steps.drop k)=Um n.decls kept b.steps)/\F=[(2,Z0 kept),(3,.p b1 0),(4,.p b2 0),(6,.p b3 0),(7,.p b4 0),(8,.i k)]/\h=[.obj b4 [ZX xs v,.i b.result],.obj b3 [nl,.i 0],.obj b2 (Yk b),.obj b1 (ZU n),.tail v 5]/\m=b.steps.length-k) _ _ _ ⟨0,[],v1,ob,ob,rfl,rfl,rfl,rfl⟩ (wk [0,1,1,1,0] (fq (fr (Ya fl)))) ?_)))))))
 rintro m F h ⟨k,xs,v,Yj,Zp,Zy,rfl,rfl,rfl⟩
 refine aq (ar (ZY 3 16 (.i k) 18 (Ye b.steps) [2] [b2] (iw (Vl b.steps) (Z1 1 20 (.b (decide ((k:Int)<(b.steps.length:Int)))) (ie (ZM ((k:Int)<(b.steps.length:Int)) (fun Ze=>?_) (fun Ze=>?_)))))))
 ·refine ak (aq (ab 1 (ar (ZY 3 24 (Ye b.steps) 25 (.i k) [2] [b2] ?_))))
  obtain ⟨x1,Z3⟩:=Zr (xs:=b.steps) (j:=k) om
  have Xq:=An Z3
  have hws:=Oj hw Z3
  have hkz:=Uz x1
  have haz:=Qg x1
  refine Zq (Zm none (k:Int) 5 (Wa Z3)) (Z1 1 27 (Y3 x1) (iA [.i 0,.i 0,.i 0,nl,nl] ?_))
  intro b5
  refine ZF 0 b5 (Yg x1) (ie (ar (iL (YH []) 0 2 ?_)))
  intro v2
  refine Z1 1 10 (X4 [] v2) (ie (aq (ar (Z1 1 11 (.i 0) (ie (ab 2 (al (fun m F h=>∃(j:Nat) (u:Value) (ks:List Z6),(j<=x1.kids.length)/\(ks.length=j)/\(ks++Ul n.decls kept x1.op x1.num x1.args (x1.kids.drop j) j=Ul n.decls kept x1.op x1.num x1.args x1.kids 0)/\F=[(2,Z0 kept),(3,.p b1 0),(4,.p b2 0),(6,.p b3 0),(7,.p b4 0),(8,.i k),(9,.p b5 0),(10,X4 ks u),(11,.i j)]/\h=[.obj b5 (Yg x1),.obj b4 [ZX xs v,.i b.result],.obj b3 [nl,.i 0],.obj b2 (Yk b),.obj b1 (ZU n),.tail u 2,.tail v 5]/\m=x1.kids.length-j) _ _ _ ⟨0,v2,[],ob,ob,(by simp),rfl,rfl,rfl⟩ (wk [1,1,1,1,1,0,0] (fq (fq (Ya fl)))) ?_)))))))
  rintro m F h ⟨j,u,ks,VS,XH,XE,rfl,rfl,rfl⟩
  refine aq (ar (ZY 3 29 (.i j) 31 (Yu x1.kids) [0] [b5] (iw (VG x1.kids) (Z1 1 33 (.b (decide ((j:Int)<(x1.kids.length:Int)))) (ie (ZM ((j:Int)<(x1.kids.length:Int)) (fun Zk=>?_) (fun Zk=>?_)))))))
  ·obtain ⟨kd,hkd⟩:=Zr (xs:=x1.kids) (j:=j) om
   refine ak (aq (ab 3 (az (Y2 5 (.n 36 (X4 ks u) (.n 37 (ZD n) (.n 38 (Y3 x1) (.n 39 (.i j) (.n 40 (Z0 kept) .r))))) [4,0] [b1,b5] (ZA [] (ih x1 j kept kd hws hkd (Z3m hn2 Z3 hkd) ob ob) (iL [Zs (T3 n.decls kept x1.op x1.num x1.args j kd)] 1 2 ?_))))))
   intro v3
   refine Z5 0 (.n 42 (.sl [Zs (T3 n.decls kept x1.op x1.num x1.args j kd)] none) (.p .r)) (ip 6 (YH (ks++[T3 n.decls kept x1.op x1.num x1.args j kd])) (YH ks) [Zs (T3 n.decls kept x1.op x1.num x1.args j kd)] u none 2 (T7 _) (TJ rfl) rfl (by simp<;>omega) (by simp [J8,Ur]) ?_)
   intro v4
   refine Z5 1 (.n 10 (X4 (ks++[T3 n.decls kept x1.op x1.num x1.args j kd]) v4) (.p (.d (.p (.d (.d (.d (.d (.d (.d (.p (.d (.d (.w (.k (.k (.k (.d .r)))))))))))))))))) (ie (az (Z1 1 34 (.i j) (ZL j (Z5 1 (.n 11 (.i (j+1:Nat)) (.p (.d (.w (.w .z))))) (ie ?_))))))
   exact ZO ⟨j+1,v4,(ks++[T3 n.decls kept x1.op x1.num x1.args j kd]),ob,(by simp;omega),(Z5c hkd XE),rfl,rfl,rfl⟩ (wk [2,2,2,2,2,0,1] (fq (fq (ZQ j fl))))
  have hK:=Z5b om XE
  refine ax 2 (aE 17 (Y6 6 17 [0,1,2,3,4,5,6,7,8,9,11] (.n 45 (ZX xs v) (.n 47 (.i x1.op) (.n 49 (.i x1.num) (.n 51 (.i x1.into) (.n 53 (Z0 x1.args) (.n 55 (X4 ks u) .r)))))) [1,0,0,0,0] [b4,b5,b5,b5,b5] (Z9 10 (dc 10 [] [0,0,0,1] [b5,b5,b5,b4] (VP x1.args) ?_))))
  rintro _ _ ⟨v5,rfl,rfl⟩
  refine ZZ 4 5 [12] 56 (.agg [.i x1.op,.i x1.num,.i x1.into,Z0 x1.args,Yu ks]) (Z9 13 (dL 13 [1] [b4] [Y3 (Z4.mk x1.op x1.num x1.into x1.args ks)] 1 5 ?_))
  intro v6
  refine Y0 3 3 [] (.n 57 (.sl [Y3 (Z4.mk x1.op x1.num x1.into x1.args ks)] none) (.p .r)) (Z9 14 (dp 14 8 [] [] (Zv (xs++[Z4.mk x1.op x1.num x1.into x1.args ks])) (Zv xs) [Y3 (Z4.mk x1.op x1.num x1.into x1.args ks)] v none 5 (X8 _) (TJ rfl) rfl (by simp<;>omega) (by simp [Wy,Vd]) ?_))
  intro v7
  refine ZZ 1 2 [15] 59 (.p b4 0) (Z9 16 (YL 16 4 [] [] b4 [ZX (xs++[Z4.mk x1.op x1.num x1.into x1.args ks]) v7,.i b.result] (de (az (Z1 1 21 (.i k) (ZL k (ir 1 [(2,Z0 kept),(3,.p b1 0),(4,.p b2 0),(6,.p b3 0),(7,.p b4 0),(8,.i (k+1:Nat))] (ie ?_))))))))
  exact ZO ⟨k+1,(xs++[Z4.mk x1.op x1.num x1.into x1.args ks]),v7,ob,(by simp;omega),(by have h:=Z5i Z3 Zy;rw [<-hK] at h;exact h),rfl,rfl,rfl⟩ (wk [0,4,4,4,0] (fq (fr (ZQ k fl))))
 refine ax 0 (ar (Yl 1 60 (.agg [ZX xs v,.i b.result]) [0] [b4] (ZF 1 b3 [ZX xs v,.i b.result] (ie ?_))))
 exact Zb (r3 [] [.agg [ZX xs v,.i b.result]] [0] [(b3,b3)] ⟨rfl,rfl⟩ (Zg.agg (.cons (Zg.sl _ (Yx Zv (by rw [Em];exact Z5h om Zy))) (.cons (li (by rw [Em];rfl)) .nil))))
theorem Z72 (n:Zx) (hn:Xd n) (k:Nat):(∀(s:Z4) (j:Nat) (kept:List Int) (kd:Z6),(wS n.decls s)->(s.kids[j]? = some kd)->(Q3 kd)->(kept.length+s.sz<=900000000)->(s.sz<=k)->Zi Tryz.prog 209 [ZD n,Y3 s,.i j,Z0 kept] [] (fun r h=>r=Zs (T3 n.decls kept s.op s.num s.args j kd)/\h=[]))/\(∀(b:Z6) (kept:List Int),(wB n.decls b)->(Ab b)->(kept.length+b.sz<=900000000)->(b.sz<=k)->Zi Tryz.prog 165 [ZD n,Zs b,Z0 kept] [] (fun r h=>r=Zs (Wq n.decls kept b)/\h=[])):=by
 induction k with
 | zero=>exact ⟨fun s j K kd h1 h2 h3 h4 h5=>by have:=s.sz_pos;omega,fun b K h1 h2 h3 h4=>by have:=b.sz_eq;omega⟩
 | succ k ih=>exact ⟨fun s j K kd h1 h2 h3 h4 h5=>Z71 n s j K kd hn h1 h2 h3 h4 fun b2 K2 q1 q2 q3 q4=>ih.2 b2 K2 q1 q2 q3 om,fun b K h1 h2 h3 h4=>Z70 n b K hn h1 h2 h3 fun s j K2 kd q1 q2 q3 q4 q5=>ih.1 s j K2 kd q1 q2 q3 q4 om⟩
theorem Z6z (n:Zx) (b:Z6) (kept:List Int) (hn:Xd n:=by exact ob) (hw:wB n.decls b:=by exact ob) (hn2:Ab b:=by exact ob) (hK:kept.length+b.sz<=900000000:=by exact ob):Zi Tryz.prog 165 [ZD n,Zs b,Z0 kept] [] (fun r h=>r=Zs (Wq n.decls kept b)/\h=[]):=(Z72 n hn b.sz).2 b kept hw hn2 hK (X6 _)
theorem Z09 (n:Zx) (hn:Xd n:=by exact ob) (hz:TC n:=by exact ob) (hwb:∀r∈n.routines,wB n.decls r.body):Zi Tryz.prog 125 [ZD n] [] (fun r h=>r=ZD (ED n)/\h=[]):=by
 have hzl:=hn.len
 refine ZK 38 Tryz.func125 (ar (iA (ZU n) ?_))
 intro b1
 refine iA [nl,nl] ?_
 intro b2
 refine ie (ar (iR 2 [(1,.p b1 0),(2,.p b2 0),(7,Zd n.decls)] [1] [b1] (ZA [] (B7 n.decls (hd:=hn.decls)) (iL (YN []) 0 5 ?_))))
 intro v1
 refine Z1 1 10 (.agg [Zd n.decls,Xg [] v1]) (iA [nl,nl] ?_)
 intro b3
 refine ZF 0 b3 [Zd n.decls,Xg [] v1] (ie (aq (ar (Z1 1 4 (.i 0) (ie (ab 0 (al (fun m F h=>∃(k:Nat) (v:Value),(k<=n.routines.length)/\F=[(1,.p b1 0),(2,.p b2 0),(3,.p b3 0),(4,.i k)]/\h=[.obj b3 [Zd n.decls,Xg ((n.routines.take k).map (KR n.decls)) v],.obj b2 [nl,nl],.obj b1 (ZU n),.tail v 5]/\m=n.routines.length-k) _ _ _ ⟨0,v1,ob,rfl,rfl,rfl⟩ (wk [0,1,1,0] (fw (fr (Ya fl)))) ?_)))))))
 rintro m F h ⟨k,v,Yj,rfl,rfl,rfl⟩
 refine aq (ar (ZY 3 11 (.i k) 13 (YZ n.routines) [2] [b1] (iw (VV n.routines) (Z1 1 15 (.b (decide ((k:Int)<(n.routines.length:Int)))) (ie (ZM ((k:Int)<(n.routines.length:Int)) (fun Ze=>?_) (fun Ze=>?_)))))))
 ·refine ak (aq (ab 1 (ar (ZY 3 19 (YZ n.routines) 20 (.i k) [2] [b1] ?_))))
  obtain ⟨x1,Z3⟩:=Zr (xs:=n.routines) (j:=k) om
  have hrm:=Y7 Z3
  have hbz:=hz.body _ hrm
  have hpl:=hn.params_at Z3
  have hll:=hn.lent_at Z3
  have hww:=hwb _ hrm
  refine Zq (Zm none (k:Int) 5 (WB Z3)) (Z1 1 22 (WS x1) (iA [nl,nl,.i 0,nl,.i 0] ?_))
  intro b4
  refine ZF 0 b4 (VW x1) (ie (aE 15 (Y6 7 15 [0,1,2,3,4,5,6,7] (.n 24 (Xg ((n.routines.take k).map (KR n.decls)) v) (.n 25 (WS x1) (.n 26 (ZD n) (.n 28 (Zs x1.body) (.n 30 (Z0 x1.params) .r))))) [1,0,3,0,0] [b3,b4,b1,b4,b4] (dw 8 (Yh x1.params) (Z9 9 (Yv 9 [] [0,1] [b4,b3] (Z77 n x1.body x1.params.length (hw:=hww)) (Z9 10 (Yv 10 [] [1] [b3] (BX x1 (WE n.decls x1.params.length x1.body)) (Z9 11 (dL 11 [1] [b3] (YN [Yb.mk x1.params x1.lent x1.result (WE n.decls x1.params.length x1.body)]) 1 5 ?_))))))))))
  intro v2
  refine Y0 3 3 [] (.n 34 (YZ [Yb.mk x1.params x1.lent x1.result (WE n.decls x1.params.length x1.body)]) (.p .r)) (Z9 12 (dp 12 5 [] [] (YN ((n.routines.take (k+1)).map (KR n.decls))) (YN ((n.routines.take k).map (KR n.decls))) (YN [Yb.mk x1.params x1.lent x1.result (WE n.decls x1.params.length x1.body)]) v none 5 (Ue _) (Ue _) (JX _) (by simp<;>omega) (by rw [WM Z3];simp [YN,KR]) ?_))
  intro v3
  refine ZZ 1 2 [13] 36 (.p b3 1) (Z9 14 (YL 14 3 [] [] b3 [Zd n.decls,Xg ((n.routines.take (k+1)).map (KR n.decls)) v3] (de (az (Z1 1 16 (.i k) (ZL k (ir 1 [(1,.p b1 0),(2,.p b2 0),(3,.p b3 0),(4,.i (k+1:Nat))] (ie ?_))))))))
  exact ZO ⟨k+1,v3,ob,rfl,rfl,rfl⟩ (wk [0,3,3,0] (fw (fr (ZQ k fl))))
 refine ax 0 (ar (Yl 1 37 (.agg [Zd n.decls,Xg ((n.routines.take k).map (KR n.decls)) v]) [0] [b3] (ZF 1 b2 [Zd n.decls,Xg ((n.routines.take k).map (KR n.decls)) v] (ie ?_))))
 exact Zb (r3 [] [.agg [Zd n.decls,Xg ((n.routines.take k).map (KR n.decls)) v]] [0] [(b2,b2)] ⟨rfl,rfl⟩ (Zg.agg (.cons (Zg.sl _ (Yx YW ob)) (.cons (Zg.sl _ (Yx YN (by rw [Vg om];rfl))) .nil))))
theorem Z06 (n:Zx) (hn:Xd n:=by exact ob) (hz:TC n:=by exact ob) (hwb:∀r∈n.routines,wB n.decls r.body) (hnr:∀r∈n.routines,Q3 r.body):Zi Tryz.prog 126 [ZD n] [] (fun r h=>r=ZD (En n)/\h=[]):=by
 have hzl:=hn.len
 refine ZK 38 Tryz.func126 (ar (iA (ZU n) ?_))
 intro b1
 refine iA [nl,nl] ?_
 intro b2
 refine ie (ar (iR 2 [(1,.p b1 0),(2,.p b2 0),(6,Zd n.decls)] [1] [b1] (ZA [] (B7 n.decls (hd:=hn.decls)) (iL (YN []) 0 5 ?_))))
 intro v1
 refine Z1 1 9 (.agg [Zd n.decls,Xg [] v1]) (iA [nl,nl] ?_)
 intro b3
 refine ZF 0 b3 [Zd n.decls,Xg [] v1] (ie (aq (ar (Z1 1 4 (.i 0) (ie (ab 0 (al (fun m F h=>∃(k:Nat) (v:Value),(k<=n.routines.length)/\F=[(1,.p b1 0),(2,.p b2 0),(3,.p b3 0),(4,.i k)]/\h=[.obj b3 [Zd n.decls,Xg ((n.routines.take k).map (KN n.decls)) v],.obj b2 [nl,nl],.obj b1 (ZU n),.tail v 5]/\m=n.routines.length-k) _ _ _ ⟨0,v1,ob,rfl,rfl,rfl⟩ (wk [0,1,1,0] (fw (fr (Ya fl)))) ?_)))))))
 rintro m F h ⟨k,v,Yj,rfl,rfl,rfl⟩
 refine aq (ar (ZY 3 10 (.i k) 12 (YZ n.routines) [2] [b1] (iw (VV n.routines) (Z1 1 14 (.b (decide ((k:Int)<(n.routines.length:Int)))) (ie (ZM ((k:Int)<(n.routines.length:Int)) (fun Ze=>?_) (fun Ze=>?_)))))))
 ·refine ak (aq (ab 1 (aE 21 (Y6 16 21 [0,1,2,3,4] (.n 18 (Xg ((n.routines.take k).map (KN n.decls)) v) (.n 20 (YZ n.routines) (.n 21 (.i k) .r))) [0,2] [b3,b1] ?_))))
  obtain ⟨x1,Z3⟩:=Zr (xs:=n.routines) (j:=k) om
  have hrm:=Y7 Z3
  have hbz:=hz.body _ hrm
  have hpl:=hn.params_at Z3
  have hll:=hn.lent_at Z3
  have hww:=hwb _ hrm
  refine dx 5 (Zm none (k:Int) 5 (WB Z3)) (Y6 10 15 [6,7,8,9,10] (.n 23 (WS x1) (.n 24 (ZD n) (.n 26 (YZ n.routines) (.n 27 (.i k) .r)))) [2,2] [b1,b1] (dx 11 (Zm none (k:Int) 5 (WB Z3)) (ZZ 7 9 [12,13] 30 (Zs x1.body) (Z9 14 (dL 14 [2,2,2,0] [b1,b1,b1,b3] (Z8 []) 0 1 ?_)))))
  intro v2
  refine Y0 6 6 [] (.n 31 (Z0 []) (.p .r)) (Z9 15 (Yv 15 [] [2,0] [b1,b3] (Z6z n x1.body [] (hw:=hww) (hn2:=(B3 (hnr _ hrm)))) (Z9 16 (Yv 16 [] [0] [b3] (BX x1 (Wq n.decls [] x1.body)) (Z9 17 (dL 17 [0] [b3] (YN [Yb.mk x1.params x1.lent x1.result (Wq n.decls [] x1.body)]) 1 5 ?_))))))
  intro v3
  refine Y0 3 3 [] (.n 34 (YZ [Yb.mk x1.params x1.lent x1.result (Wq n.decls [] x1.body)]) (.p .r)) (Z9 18 (dp 18 5 [] [] (YN ((n.routines.take (k+1)).map (KN n.decls))) (YN ((n.routines.take k).map (KN n.decls))) (YN [Yb.mk x1.params x1.lent x1.result (Wq n.decls [] x1.body)]) v none 5 (Ue _) (Ue _) (JX _) (by simp<;>omega) (by rw [WM Z3];simp [YN,KN]) ?_))
  intro v4
  refine ZZ 1 2 [19] 36 (.p b3 1) (Z9 20 (YL 20 3 [] [] b3 [Zd n.decls,Xg ((n.routines.take (k+1)).map (KN n.decls)) v4] (de (az (Z1 1 15 (.i k) (ZL k (ir 1 [(1,.p b1 0),(2,.p b2 0),(3,.p b3 0),(4,.i (k+1:Nat))] (ie ?_))))))))
  exact ZO ⟨k+1,v4,ob,rfl,rfl,rfl⟩ (wk [0,3,3,0] (fw (fr (ZQ k fl))))
 refine ax 0 (ar (Yl 1 37 (.agg [Zd n.decls,Xg ((n.routines.take k).map (KN n.decls)) v]) [0] [b3] (ZF 1 b2 [Zd n.decls,Xg ((n.routines.take k).map (KN n.decls)) v] (ie ?_))))
 exact Zb (r3 [] [.agg [Zd n.decls,Xg ((n.routines.take k).map (KN n.decls)) v]] [0] [(b2,b2)] ⟨rfl,rfl⟩ (Zg.agg (.cons (Zg.sl _ (Yx YW ob)) (.cons (Zg.sl _ (Yx YN (by rw [Vg om];rfl))) .nil))))
theorem Ga (rd:Nat) (bs:List Int) (p:Nat) (ZE:∀z∈bs,0<=z/\z<=255) (hp:p+400001<=1000000000:=by exact ob):Zi Tryz.prog 84 [.p rd 0] [Yn rd bs p] (fun r h=>∃(n:Zx) (p2:Nat),r=ZD n/\h=[Yn rd bs p2]/\FO n 181 Wr/\p<=p2/\p2<=p+400001):=by
 refine ZK 13 Tryz.func84 (ar (iA [nl,nl] ?_))
 intro b1
 refine ie (ar (ir 1 [(0,.p rd 0),(2,.p b1 0),(4,.p rd 0)] (ic [1] (Sz rd bs p (ZE:=ob)) ?_)))
 rintro _ _ ⟨g1,p21,rfl,rfl,ZP⟩
 have Q1:=ZP
 refine ic [] (SY g1 (hg:=Q1.1)) ?_
 rintro _ _ ⟨n1,rfl,rfl,Y1⟩
 have hnm:=Y1
 refine iA [nl,nl] ?_
 intro b2
 refine ZF 0 b2 (ZU n1) (ie (aq (ar (Z1 1 7 (.p rd 0) (ic [1] (XP rd bs p21 3 (ZE:=ob)) ?_)))))
 rintro _ _ ⟨k1,rfl,rfl,Yy⟩
 refine Z1 1 9 (.b (k1==0)) (ie (ac (k1==0) Zh (fun Ze=>?_) (fun Ze=>?_)))
 ·refine ar (Yl 1 10 (ZD n1) [1] [b2] (ic [] (SN n1 181 (hn:=hnm)) ?_))
  rintro _ _ ⟨n21,rfl,rfl,YK⟩
  have hlm:=YK
  refine ZF 2 b1 (ZU n21) (ie ?_)
  exact Zb (r3 [1] [ZD n21] [0] [(b1,b1)] ⟨n21,p21+1,rfl,rfl,(by first|exact ⟨hlm,by omega,by omega⟩|exact ⟨hnm,by omega,by omega⟩)⟩ (lr _))
 refine ak (ar (Yl 1 12 (ZD n1) [1] [b2] (ZF 2 b1 (ZU n1) (ie ?_))))
 exact Zb (r3 [1] [ZD n1] [0] [(b1,b1)] ⟨n1,p21+1,rfl,rfl,(by first|exact ⟨hlm,by omega,by omega⟩|exact ⟨hnm,by omega,by omega⟩)⟩ (lr _))
theorem St (rd:Nat) (bs:List Int) (p:Nat) (ZE:∀z∈bs,0<=z/\z<=255) (hp:p+400002<=1000000000:=by exact ob):Zi Tryz.prog 122 [.p rd 0] [Yn rd bs p] (fun r h=>∃(n:Zx) (p2:Nat),r=ZD n/\h=[Yn rd bs p2]/\FO n 814510 Vb/\p<=p2/\p2<=p+400002):=by
 refine ZK 15 Tryz.func122 (ar (iA [nl,nl] ?_))
 intro b1
 refine ie (ar (ir 1 [(0,.p rd 0),(2,.p b1 0),(5,.p rd 0)] (ic [1] (Ga rd bs p (ZE:=ob)) ?_)))
 rintro _ _ ⟨n1,p21,rfl,rfl,ZP⟩
 have hpf:=ZP
 refine iA [nl,nl] ?_
 intro b2
 refine ZF 0 b2 (ZU n1) (ie (ar (Yl 1 7 (ZD n1) [0] [b2] (ic [] (Ss n1 181 (hn:=hpf.1)) ?_))))
 rintro _ _ ⟨n21,rfl,rfl,Y1⟩
 have hcf:=FO.le Y1 (show 4500*181+10<=814510 by omega)
 refine iA [nl,nl] ?_
 intro b3
 refine ZF 0 b3 (ZU n21) (ie (aq (ar (Z1 1 9 (.p rd 0) (ic [2] (XP rd bs p21 4 (ZE:=ob)) ?_)))))
 rintro _ _ ⟨k1,rfl,rfl,Yy⟩
 refine Z1 1 11 (.b (k1==0)) (ie (ac (k1==0) Zh (fun Ze=>?_) (fun Ze=>?_)))
 ·refine az (Yl 1 12 (ZD n1) [2] [b2] (ic [] (SD n1 181 (hn:=hpf.1)) ?_))
  rintro _ _ ⟨n22,rfl,rfl,YK⟩
  have hlf:=FO.le YK (show 60*181<=814510 by omega)
  refine ZF 1 b3 (ZU n22) (ie (ar (Yl 1 14 (ZD n22) [0] [b3] (ZF 3 b1 (ZU n22) (ie ?_)))))
  exact Zb (r3 [2] [ZD n22] [0] [(b1,b1)] ⟨n22,p21+1,rfl,rfl,(by first|exact ⟨hlf,by omega,by omega⟩|exact ⟨hcf,by omega,by omega⟩)⟩ (lr _))
 refine ak (ar (Yl 1 14 (ZD n21) [1] [b3] (ZF 3 b1 (ZU n21) (ie ?_))))
 exact Zb (r3 [1] [ZD n21] [0] [(b1,b1)] ⟨n21,p21+1,rfl,rfl,(by first|exact ⟨hlf,by omega,by omega⟩|exact ⟨hcf,by omega,by omega⟩)⟩ (lr _))
theorem Sa (rd:Nat) (bs:List Int) (p:Nat) (ZE:∀z∈bs,0<=z/\z<=255) (hp:p+400030<=1000000000:=by exact ob):Zi Tryz.prog 85 [.p rd 0] [Yn rd bs p] (fun r h=>∃(n:Zx) (p2:Nat),r=ZD n/\h=[Yn rd bs p2]/\ZN n 7330630/\p<=p2/\p2<=p+400030):=by
 refine ZK 35 Tryz.func85 (ar (iA [nl,nl] ?_))
 intro b1
 refine ie (ar (ir 1 [(0,.p rd 0),(2,.p b1 0),(5,.p rd 0)] (ic [1] (St rd bs p (ZE:=ob)) ?_)))
 rintro _ _ ⟨n1,p21,rfl,rfl,ZP⟩
 have hcf:=FO.le ZP.1 (show 814510<=814514 by omega)
 have hcp:=ZP
 refine iA [nl,nl] ?_
 intro b2
 refine ZF 0 b2 (ZU n1) (ie (aq (ar (Z1 1 7 (.p rd 0) (ic [1] (XP rd bs p21 4 (ZE:=ob)) ?_)))))
 rintro _ _ ⟨k1,rfl,rfl,Y1⟩
 refine Z1 1 9 (.b (k1==0)) (ie (XI (fun F h=>∃(na:Zx) (pa:Nat),(FO na 814514 Vb)/\(p<=pa/\pa<=p+400010)/\F=[(0,.p rd 0),(2,.p b1 0),(3,.p b2 0)]/\h=[Yn rd bs pa,.obj b2 (ZU na),.obj b1 [nl,nl]]) ?_ ?_))
 ·refine ac (k1==0) Zh (fun Ze=>?_) (fun Ze=>?_)
  ·refine az (iR 2 [(0,.p rd 0),(2,.p b1 0),(3,.p b2 0),(10,.p rd 0),(11,ZD n1)] [1] [b2] (ic [0] (Le rd bs (p21+1) n1 (ZE:=ob) (hz:=(by first|exact (FO.zn hcp.1).sz om|exact Q2.sz om)) (hl1:=(by first|(have:=hcp.1.fn.len;omega)|(have:=Q2.len;omega)))) ?_))
   rintro _ _ ⟨n21,p22,rfl,rfl,Yy⟩
   have hho:=Yy
   refine ZF 1 b2 (ZU n21) (ie ?_)
   exact ZW ⟨n21,p22,(FO.held hcp.1 hho.1),ob,rfl,rfl⟩ (wk [1,0,0] fl)
  refine ak ?_
  exact ZW ⟨n1,p21+1,hcf,ob,rfl,rfl⟩ (ZT 3 fl)
 rintro F h ⟨na,pa,QM,Gr,rfl,rfl⟩
 refine aq (ar (ir 1 [(0,.p rd 0),(2,.p b1 0),(3,.p b2 0),(13,.p rd 0)] (ic [0] (XP rd bs pa 4 (ZE:=ob)) ?_)))
 rintro _ _ ⟨k2,rfl,rfl,YK⟩
 refine Z1 1 15 (.b (k2==0)) (ie (XI (fun F h=>∃(nb:Zx) (pb:Nat),(FO nb 814514 Vb)/\(p<=pb/\pb<=p+400012)/\F=[(0,.p rd 0),(2,.p b1 0),(3,.p b2 0)]/\h=[Yn rd bs pb,.obj b2 (ZU nb),.obj b1 [nl,nl]]) ?_ ?_))
 ·refine ac (k2==0) Zh (fun Zk=>?_) (fun Zk=>?_)
  ·refine az (iR 1 [(0,.p rd 0),(2,.p b1 0),(3,.p b2 0),(16,ZD na)] [1] [b2] (ic [] (Sh na 814514 (hn:=QM)) ?_))
   rintro _ _ ⟨n22,rfl,rfl,X0⟩
   have hca:=X0
   refine ZF 1 b2 (ZU n22) (ie ?_)
   exact ZW ⟨n22,pa+1,hca,ob,rfl,rfl⟩ (wk [1,0,0] fl)
  refine ak ?_
  exact ZW ⟨na,pa+1,QM,ob,rfl,rfl⟩ (ZT 3 fl)
 rintro F h ⟨nb,pb,Vy,Jo,rfl,rfl⟩
 refine ar (ir 1 [(0,.p rd 0),(2,.p b1 0),(3,.p b2 0),(18,.p rd 0)] (ic [0] (XP rd bs pb 3 (ZE:=ob)) ?_))
 rintro _ _ ⟨k3,rfl,rfl,XB⟩
 refine Z1 1 4 (.i k3) (ie (aq (ar (Z1 2 21 (.b (decide (k3>0))) (ie (XI (fun F h=>∃(nc:Zx) (pc:Nat),(ZN nc 7330626)/\(k3>1->WN nc 7330626)/\(p<=pc/\pc<=p+400014)/\F=[(0,.p rd 0),(2,.p b1 0),(3,.p b2 0),(4,.i k3)]/\h=[Yn rd bs pc,.obj b2 (ZU nc),.obj b1 [nl,nl]]) ?_ ?_))))))
 ·refine ZM (k3>0) (fun ZG=>?_) (fun ZG=>?_)
  ·refine az (iR 1 [(0,.p rd 0),(2,.p b1 0),(3,.p b2 0),(4,.i k3),(22,ZD nb)] [1] [b2] (ZA [] (Z09 nb (hn:=Vy.fn.ok) (hz:=(Vy.zn.sz om)) (hwb:=(fun r hr=>(Vy.wl om r hr).w))) (ZF 1 b2 (ZU (ED nb)) (ie ?_))))
   exact ZW ⟨(ED nb),pb+1,((Vy.wn om).sp.zn),(fun _=>(Vy.wn om).sp),ob,rfl,rfl⟩ (wk [1,0,0] fl)
  refine ak ?_
  exact ZW ⟨nb,pb+1,(Vy.zn.le om),(fun h=>by omega),ob,rfl,rfl⟩ (ZT 3 fl)
 rintro F h ⟨nc,pc,Cz,CA,Z29,rfl,rfl⟩
 refine aq (ar (ir 2 [(0,.p rd 0),(2,.p b1 0),(3,.p b2 0),(25,.b (decide (k3>1)))] (ie (XI (fun F h=>∃(nd:Zx) (pd:Nat),(ZN nd 7330626)/\(p<=pd/\pd<=p+400014)/\F=[(0,.p rd 0),(2,.p b1 0),(3,.p b2 0)]/\h=[Yn rd bs pd,.obj b2 (ZU nd),.obj b1 [nl,nl]]) ?_ ?_))))
 ·refine ZM (k3>1) (fun Ym=>?_) (fun Ym=>?_)
  ·refine az (iR 1 [(0,.p rd 0),(2,.p b1 0),(3,.p b2 0),(26,ZD nc)] [1] [b2] (ZA [] (Z06 nc (hn:=(CA (by assumption)).ok) (hz:=(Cz.sz om)) (hwb:=(fun r hr=>((CA (by assumption)).wl r hr).w)) (hnr:=(fun r hr=>((CA (by assumption)).wl r hr).nr))) (ZF 1 b2 (ZU (En nc)) (ie ?_))))
   exact ZW ⟨(En nc),pc,(CA (by assumption)).ru,ob,rfl,rfl⟩ (wk [1,0,0] fl)
  refine ak ?_
  exact ZW ⟨nc,pc,Cz,ob,rfl,rfl⟩ (ZT 3 fl)
 rintro F h ⟨nd,pd,Q2,Z2a,rfl,rfl⟩
 refine aq (ar (ir 1 [(0,.p rd 0),(2,.p b1 0),(3,.p b2 0),(28,.p rd 0)] (ic [0] (XP rd bs pd 6 (ZE:=ob)) ?_)))
 rintro _ _ ⟨k4,rfl,rfl,Wk⟩
 refine Z1 1 30 (.b (k4==0)) (ie (ac (k4==0) Zh (fun Xi=>?_) (fun Xi=>?_)))
 ·refine az (ZY 2 31 (.p rd 0) 32 (ZD nd) [1] [b2] (ic [0] (Le rd bs (pd+1) nd (ZE:=ob) (hz:=(by first|exact (FO.zn hcp.1).sz om|exact Q2.sz om)) (hl1:=(by first|(have:=hcp.1.fn.len;omega)|(have:=Q2.len;omega)))) ?_))
  rintro _ _ ⟨n23,p23,rfl,rfl,WJ⟩
  have hho:=WJ
  refine ZF 1 b2 (ZU n23) (ie (ar (Yl 1 34 (ZD n23) [0] [b2] (ZF 2 b1 (ZU n23) (ie ?_)))))
  exact Zb (r3 [2] [ZD n23] [0] [(b1,b1)] ⟨n23,p23,rfl,rfl,(by first|exact ⟨Q2.held hho.1,by omega,by omega⟩|exact ⟨Q2.le om,by omega,by omega⟩)⟩ (lr _))
 refine ak (ar (Yl 1 34 (ZD nd) [1] [b2] (ZF 2 b1 (ZU nd) (ie ?_))))
 exact Zb (r3 [1] [ZD nd] [0] [(b1,b1)] ⟨nd,pd+1,rfl,rfl,(by first|exact ⟨Q2.held hho.1,by omega,by omega⟩|exact ⟨Q2.le om,by omega,by omega⟩)⟩ (lr _))
theorem Z0d (rd:Nat) (bs:List Int) (p:Nat) (xs:List Int) (ZE:∀z∈bs,0<=z/\z<=255) (hp:p+3<=1000000000:=by exact ob) (hl:xs.length<=1000000:=by exact ob):Zi Tryz.prog 52 [.p rd 0,Z0 xs] [Yn rd bs p] (fun r h=>∃(zs:List Int) (p2:Nat),r=Z0 zs/\h=[Yn rd bs p2]/\zs.length<=xs.length+1/\p<=p2/\p2<=p+3):=by
 refine ZK 32 Tryz.func52 (ar (ir 1 [(0,.p rd 0),(1,Z0 xs)] (ie (ar (Z1 1 6 (Z0 xs) (ic [] (Ai xs) ?_))))))
 rintro _ _ ⟨v1,rfl,rfl⟩
 refine Z1 1 5 (.h v1) (ie (aq (ar (Z1 1 8 (.h v1) (Zq (Jw 0 v1 xs) (Z1 2 11 (.b (decide ((xs.length:Int)>0))) (ib (b:=(decide ((xs.length:Int)>0))) 11 (fun Za=>?_) (fun Za=>?_))))))))
 ·have ZP:(xs.length:Int)>0:=(dq).1 Za
  refine Z5 1 (.n 12 (.p rd 0) (.k (.d .r))) (ic [1] (XP rd bs p 2 (ZE:=ob)) ?_)
  rintro _ _ ⟨k1,rfl,rfl,Y1⟩
  refine Z1 2 15 (.b (k1==0)) (ie (ac (k1==0) Zh (fun Ze=>?_) (fun Ze=>?_)))
  ·refine ar (Z5 3 (.n 16 (.h v1) (.n 17 (.p rd 0) (.n 18 (.h v1) .r))) (Zq (Jw 1 v1 xs) (ic [0] (KH rd bs (p+1) xs.length (ZE:=ob)) ?_)))
   rintro _ _ ⟨Yd,rfl,rfl,Yy⟩
   refine Z1 1 21 (.p rd 0) (iL (Z8 [0,1,-1,7,1000,1001]) 6 1 ?_)
   intro v2
   refine Z5 0 (.n 22 (Z0 [0,1,-1,7,1000,1001]) (.p .r)) (ic [1] (Vw rd bs ((p+1)+1) [0,1,-1,7,1000,1001] (ZE:=ob)) ?_)
   rintro _ _ ⟨z1,rfl,rfl,YK⟩
   refine Zq (Vo 2 v1 xs (Yd:Int) Yd) (Gm 2 v1 xs Yd z1 (ie (ar (ir 2 [(4,.h v1)] (ie (Dc 4 0 (v:=v1) (xs:=(xs.set Yd z1)) ?_))))))
   exact Zb (r2 [1] [Z7 (xs.set Yd z1) v1.v] ⟨(xs.set Yd z1),((p+1)+1)+1,rfl,rfl,⟨by simp,by omega,by omega⟩⟩ (Zg.forget _ _))
  refine ak (ar (ir 2 [(26,.h v1),(27,.p rd 0)] (iL (Z8 [0,1,2,-1,1000]) 5 1 ?_)))
  intro v3
  refine Z5 0 (.n 28 (Z0 [0,1,2,-1,1000]) (.p .r)) (ic [1] (Vw rd bs (p+1) [0,1,2,-1,1000] (ZE:=ob)) ?_)
  rintro _ _ ⟨z2,rfl,rfl,X0⟩
  refine iL (Z8 [z2]) 1 1 ?_
  intro v4
  refine Z5 0 (.n 30 (Z0 [z2]) (.p .r)) (KI 3 v1 xs [z2] none ?_)
  intro v5
  refine ir 1 [(4,.h v5)] (ie (Dc 4 0 (v:=v5) (xs:=(xs++[z2])) ?_))
  exact Zb (r2 [2] [Z7 (xs++[z2]) v5.v] ⟨(xs++[z2]),(p+1)+1,rfl,rfl,⟨by simp,by omega,by omega⟩⟩ (Zg.forget _ _))
 have XB:¬((xs.length:Int)>0):=ZI dq Za
 refine Z5 4 (.n 15 (.b false) (.k (.d .r))) (ie (WT (ak (ar (ir 2 [(26,.h v1),(27,.p rd 0)] (iL (Z8 [0,1,2,-1,1000]) 5 1 ?_))))))
 intro v6
 refine Z5 0 (.n 28 (Z0 [0,1,2,-1,1000]) (.p .r)) (ic [2] (Vw rd bs p [0,1,2,-1,1000] (ZE:=ob)) ?_)
 rintro _ _ ⟨z3,rfl,rfl,Wk⟩
 refine iL (Z8 [z3]) 1 1 ?_
 intro v7
 refine Z5 0 (.n 30 (Z0 [z3]) (.p .r)) (KI 3 v1 xs [z3] none ?_)
 intro v8
 refine ir 1 [(4,.h v8)] (ie (Dc 4 0 (v:=v8) (xs:=(xs++[z3])) ?_))
 exact Zb (r2 [2] [Z7 (xs++[z3]) v8.v] ⟨(xs++[z3]),p+1,rfl,rfl,⟨by simp,by omega,by omega⟩⟩ (Zg.forget _ _))
theorem PU (s:Z4) (hz:s.sz<=1000000000:=by exact ob):Zi Tryz.prog 127 [Y3 s] [] (fun r h=>∃(v:Hd),r=.agg [.i s.op,.i s.num,.i s.into,.h v,Yu s.kids]/\h=[rV v s.args]):=by
 have hkz:=Uz s
 have haz:=Qg s
 refine ZK 33 Tryz.func127 (ar (iA (Yg s) ?_))
 intro b1
 refine iA [.i 0,.i 0,.i 0,nl,nl] ?_
 intro b2
 refine ie (ar (iL (YH []) 0 2 ?_))
 intro v1
 refine ir 1 [(1,.p b1 0),(2,.p b2 0),(3,X4 [] v1)] (ie (aq (ar (Z1 1 4 (.i 0) (ie (ab 0 (al (fun m F h=>∃(k:Nat) (v:Value),(k<=s.kids.length)/\F=[(1,.p b1 0),(2,.p b2 0),(3,X4 (s.kids.take k) v),(4,.i k)]/\h=[.obj b2 [.i 0,.i 0,.i 0,nl,nl],.obj b1 (Yg s),.tail v 2]/\m=s.kids.length-k) _ _ _ ⟨0,v1,ob,rfl,rfl,rfl⟩ (wk [1,1,0] (fw (fc (x:=X4 [] v1) (Zg.slh _ (Yx YH rfl)) (Ya fl)))) ?_)))))))
 rintro m F h ⟨k,v,Yj,rfl,rfl,rfl⟩
 refine aq (ar (ZY 3 6 (.i k) 8 (Yu s.kids) [1] [b1] (iw (VG s.kids) (Z1 1 10 (.b (decide ((k:Int)<(s.kids.length:Int)))) (ie (ZM ((k:Int)<(s.kids.length:Int)) (fun Ze=>?_) (fun Ze=>?_)))))))
 ·refine ak (aq (ab 1 (az (Y2 4 (.n 13 (X4 (s.kids.take k) v) (.n 15 (Yu s.kids) (.n 16 (.i k) .r))) [1] [b1] ?_))))
  obtain ⟨x1,Z3⟩:=Zr (xs:=s.kids) (j:=k) om
  have hks:=Uy Z3
  refine Zq (Zm none (k:Int) 2 (U5 Z3)) (Z1 1 18 (Zs x1) (ZA [] (EE x1) (iL [Zs x1] 1 2 ?_)))
  intro v2
  refine Z5 0 (.n 20 (.sl [Zs x1] none) (.p .r)) (ip 3 (YH (s.kids.take (k+1))) (YH (s.kids.take k)) [Zs x1] v none 2 (T7 _) (TJ rfl) rfl (by simp<;>omega) (by rw [WM Z3];simp [Ur]) ?_)
  intro v3
  refine ir 1 [(1,.p b1 0),(2,.p b2 0),(3,X4 (s.kids.take (k+1)) v3),(4,.i k)] (ie (az (Z1 1 11 (.i k) (ZL k (Z5 1 (.n 4 (.i (k+1:Nat)) (.p (.d (.k (.k (.k .z)))))) (ie ?_))))))
  exact ZO ⟨k+1,v3,ob,rfl,rfl,rfl⟩ (wk [2,2,0] (fw (fr (ZQ k fl))))
 refine ax 0 (aD 12 (W2 3 12 [0,1,2,3,4,5,6,7,9] [(2,.p b2 0),(23,.i s.op),(25,.i s.num),(27,.i s.into),(29,Z0 s.args),(31,X4 (s.kids.take k) v)] [1,1,1,1] [b1,b1,b1,b1] (Z9 8 (dc 8 [] [1,1,1] [b1,b1,b1] (Ai s.args) ?_))))
 rintro _ _ ⟨v4,rfl,rfl⟩
 refine ZZ 1 2 [10] 32 (.agg [.i s.op,.i s.num,.i s.into,.h v4,X4 (s.kids.take k) v]) (Z9 11 (YL 11 1 [] [] b2 [.i s.op,.i s.num,.i s.into,.h v4,X4 (s.kids.take k) v] (de ?_)))
 exact Zb (r3 [1] [.agg [.i s.op,.i s.num,.i s.into,.h v4,X4 (s.kids.take k) v]] [0] [(b2,b2)] ⟨v4,rfl,rfl⟩ (Zg.agg (.cons (lr _) (.cons (lr _) (.cons (lr _) (.cons (lr _) (.cons (Zg.sl _ (Yx YH (by rw [Vg om]))) .nil)))))))
theorem Lk (rd:Nat) (bs:List Int) (p:Nat) (s:Z4) (ZE:∀z∈bs,0<=z/\z<=255) (hp:p+3<=1000000000:=by exact ob) (hz:s.sz<=100000000:=by exact ob) (hg:s.rng:=by exact ob):Zi Tryz.prog 89 [.p rd 0,Y3 s] [Yn rd bs p] (fun r h=>∃(y:Z4) (p2:Nat),r=Y3 y/\h=[Yn rd bs p2]/\VC s y/\p<=p2/\p2<=p+3):=by
 have haz:=Qg s
 have hkz:=Uz s
 refine ZK 66 Tryz.func89 (ar (iA (Yg s) ?_))
 intro b1
 refine iA [.i 0,.i 0,.i 0,nl,nl] ?_
 intro b2
 refine ie (ar (iR 1 [(0,.p rd 0),(4,.p b2 0),(6,Y3 s)] [1] [b1] (ic [] (PU s) ?_)))
 rintro _ _ ⟨v1,rfl,rfl⟩
 refine iA [.i 0,.i 0,.i 0,nl,nl] ?_
 intro b3
 refine ZF 0 b3 [.i s.op,.i s.num,.i s.into,.h v1,Yu s.kids] (ie (aq (ar (Z1 1 8 (.p rd 0) (ic [4] (XP rd bs p 6 (ZE:=ob)) ?_)))))
 rintro _ _ ⟨k1,rfl,rfl,ZP⟩
 refine ie (ab 0 (ar (Z1 2 10 (.b (k1==0)) (ie (ac (k1==0) Zh (fun Ze=>?_) (fun Ze=>?_))))))
 ·refine az (Z1 1 12 (.p rd 0) (iL (Z8 [14,15,16,17,6,9,12,0,1]) 9 1 ?_))
  intro v2
  refine Z5 0 (.n 13 (Z0 [14,15,16,17,6,9,12,0,1]) (.p .r)) (ic [1] (Vw rd bs (p+1) [14,15,16,17,6,9,12,0,1] (ZE:=ob)) ?_)
  rintro _ _ ⟨z1,rfl,rfl,Y1⟩
  have hon:=Y1
  refine Z1 1 15 (.p b3 0) (ZF 2 b3 [.i z1,.i s.num,.i s.into,.h v1,Yu s.kids] (ie (ar (XK (KV 3 v1 s.args) (XK (UE 0 0 3 v1.v 1 b3 (Z8 s.args) [.i z1,.i s.num,.i s.into,.h v1,Yu s.kids] (YF _) rfl) (Yl 1 65 (.agg [.i z1,.i s.num,.i s.into,Z7 s.args v1.v,Yu s.kids]) [0] [b3] (ZF 4 b2 [.i z1,.i s.num,.i s.into,Z7 s.args v1.v,Yu s.kids] (ie ?_))))))))
  exact Zb (r3 [3] [.agg [.i z1,.i s.num,.i s.into,Z7 s.args v1.v,Yu s.kids]] [0] [(b2,b2)] ⟨(Z4.mk z1 s.num s.into s.args s.kids),(p+1)+1,rfl,rfl,⟨by first|exact VC.refl hg|exact VC.of hg (by first|exact .inl rfl|exact .inr hon) (by first|exact Nat.le_succ _|(simp<;>omega)) (by first|exact .inl rfl|exact .inr rfl),by omega,by omega⟩⟩ (Zg.agg (.cons (lr _) (.cons (lr _) (.cons (lr _) (.cons (Zg.forget _ _) (.cons (lr _) .nil)))))))
 refine ar (Z1 2 16 (.b (k1==1)) (ie (ac (k1==1) Zh (fun Zk=>?_) (fun Zk=>?_))))
 ·refine az (Z1 1 18 (.p rd 0) (iL (Z8 [0,1,2,3,-1,1000]) 6 1 ?_))
  intro v3
  refine Z5 0 (.n 19 (Z0 [0,1,2,3,-1,1000]) (.p .r)) (ic [1] (Vw rd bs (p+1) [0,1,2,3,-1,1000] (ZE:=ob)) ?_)
  rintro _ _ ⟨z2,rfl,rfl,Yy⟩
  have hon:=Yy
  refine Z1 1 21 (.p b3 1) (ZF 2 b3 [.i s.op,.i z2,.i s.into,.h v1,Yu s.kids] (ie (ar (XK (KV 3 v1 s.args) (XK (UE 0 0 3 v1.v 1 b3 (Z8 s.args) [.i s.op,.i z2,.i s.into,.h v1,Yu s.kids] (YF _) rfl) (Yl 1 65 (.agg [.i s.op,.i z2,.i s.into,Z7 s.args v1.v,Yu s.kids]) [0] [b3] (ZF 4 b2 [.i s.op,.i z2,.i s.into,Z7 s.args v1.v,Yu s.kids] (ie ?_))))))))
  exact Zb (r3 [3] [.agg [.i s.op,.i z2,.i s.into,Z7 s.args v1.v,Yu s.kids]] [0] [(b2,b2)] ⟨(Z4.mk s.op z2 s.into s.args s.kids),(p+1)+1,rfl,rfl,⟨by first|exact VC.refl hg|exact VC.of hg (by first|exact .inl rfl|exact .inr hon) (by first|exact Nat.le_succ _|(simp<;>omega)) (by first|exact .inl rfl|exact .inr rfl),by omega,by omega⟩⟩ (Zg.agg (.cons (lr _) (.cons (lr _) (.cons (lr _) (.cons (Zg.forget _ _) (.cons (lr _) .nil)))))))
 refine ar (Z1 2 22 (.b (k1==2)) (ie (ac (k1==2) Zh (fun ZG=>?_) (fun ZG=>?_))))
 ·refine az (Z1 1 24 (.p rd 0) (iL (Z8 [1,2,0,-1,90]) 5 1 ?_))
  intro v4
  refine Z5 0 (.n 25 (Z0 [1,2,0,-1,90]) (.p .r)) (ic [1] (Vw rd bs (p+1) [1,2,0,-1,90] (ZE:=ob)) ?_)
  rintro _ _ ⟨z3,rfl,rfl,YK⟩
  have hon:=YK
  refine Z1 1 27 (.p b3 2) (ZF 2 b3 [.i s.op,.i s.num,.i z3,.h v1,Yu s.kids] (ie (ar (XK (KV 3 v1 s.args) (XK (UE 0 0 3 v1.v 1 b3 (Z8 s.args) [.i s.op,.i s.num,.i z3,.h v1,Yu s.kids] (YF _) rfl) (Yl 1 65 (.agg [.i s.op,.i s.num,.i z3,Z7 s.args v1.v,Yu s.kids]) [0] [b3] (ZF 4 b2 [.i s.op,.i s.num,.i z3,Z7 s.args v1.v,Yu s.kids] (ie ?_))))))))
  exact Zb (r3 [3] [.agg [.i s.op,.i s.num,.i z3,Z7 s.args v1.v,Yu s.kids]] [0] [(b2,b2)] ⟨(Z4.mk s.op s.num z3 s.args s.kids),(p+1)+1,rfl,rfl,⟨by first|exact VC.refl hg|exact VC.of hg (by first|exact .inl rfl|exact .inr hon) (by first|exact Nat.le_succ _|(simp<;>omega)) (by first|exact .inl rfl|exact .inr rfl),by omega,by omega⟩⟩ (Zg.agg (.cons (lr _) (.cons (lr _) (.cons (lr _) (.cons (Zg.forget _ _) (.cons (lr _) .nil)))))))
 refine ar (Z1 2 28 (.b (k1==3)) (ie (ac (k1==3) Zh (fun Ym=>?_) (fun Ym=>?_))))
 ·refine aE 9 (Y6 6 9 [0,1,2] (.n 31 (.h v1) (.n 32 (.p rd 0) .r)) [1] [b3] (Z9 3 (dL 3 [1] [b3] (Z8 [0,1,-1]) 3 1 ?_)))
  intro v5
  refine Y0 5 5 [] (.n 33 (Z0 [0,1,-1]) (.p .r)) (Z9 4 (dc 4 [1] [0] [b3] (Vw rd bs (p+1) [0,1,-1] (ZE:=ob)) ?_))
  rintro _ _ ⟨z4,rfl,rfl,X0⟩
  have hon:=X0
  refine Z9 5 (dL 5 [1] [b3] (Z8 [z4]) 1 1 ?_)
  intro v6
  refine Y0 3 3 [] (.n 35 (Z0 [z4]) (.p .r)) (Z9 6 (R0 6 4 [] [] v1 s.args [z4] none ?_))
  intro v7
  refine ZZ 1 2 [7] 37 (.p b3 3) (Z9 8 (YL 8 4 [] [] b3 [.i s.op,.i s.num,.i s.into,.h v7,Yu s.kids] (de (ar (XK (KV 1 v7 (s.args++[z4])) (XK (UE 0 0 3 v7.v 1 b3 (Z8 (s.args++[z4])) [.i s.op,.i s.num,.i s.into,.h v7,Yu s.kids] (YF _) rfl) (Yl 1 65 (.agg [.i s.op,.i s.num,.i s.into,Z7 (s.args++[z4]) v7.v,Yu s.kids]) [0] [b3] (ZF 5 b2 [.i s.op,.i s.num,.i s.into,Z7 (s.args++[z4]) v7.v,Yu s.kids] (ie ?_)))))))))
  exact Zb (r3 [4] [.agg [.i s.op,.i s.num,.i s.into,Z7 (s.args++[z4]) v7.v,Yu s.kids]] [0] [(b2,b2)] ⟨(Z4.mk s.op s.num s.into (s.args++[z4]) s.kids),(p+1)+1,rfl,rfl,⟨by first|exact VC.refl hg|exact VC.of hg (by first|exact .inl rfl|exact .inr hon) (by first|exact Nat.le_succ _|(simp<;>omega)) (by first|exact .inl rfl|exact .inr rfl),by omega,by omega⟩⟩ (Zg.agg (.cons (lr _) (.cons (lr _) (.cons (lr _) (.cons (Zg.forget _ _) (.cons (lr _) .nil)))))))
 refine ar (Z1 2 38 (.b (k1==4)) (ie (ac (k1==4) Zh (fun Xi=>?_) (fun Xi=>?_))))
 ·refine ar (Yl 2 41 (.h v1) [1] [b3] (Zq (Jw 2 v1 s.args) (Z1 1 43 (.b (decide ((s.args.length:Int)>0))) (ie (ZM ((s.args.length:Int)>0) (fun Xj=>?_) (fun Xj=>?_))))))
  ·refine aE 12 (Y6 7 12 [0,1,2,3,4] (.n 45 (.h v1) (.n 46 (.p rd 0) (.n 48 (.h v1) .r))) [1,1] [b3,b3] (dx 5 (Jw 2 v1 s.args) (ZZ 5 6 [7] 51 (.p rd 0) (Vj 6 8 ?_ ?_))))
   ·refine dc 6 [0] [0] [b3] (KH rd bs (p+1) s.args.length (ZE:=ob)) ?_
    rintro _ _ ⟨Yd,rfl,rfl,XB⟩
    refine Z9 8 (dL 8 [1] [b3] (Z8 [0,1,2,3,-1,99]) 6 1 ?_)
    intro v8
    refine Xa 3 3 [] [(4,.p b2 0),(5,.p b3 0),(45,.h v1),(50,.i Yd),(51,.p rd 0),(52,Z0 [0,1,2,3,-1,99])] (Z9 9 (dc 9 [1] [0] [b3] (Vw rd bs ((p+1)+1) [0,1,2,3,-1,99] (ZE:=ob)) ?_))
    rintro _ _ ⟨z5,rfl,rfl,Wk⟩
    have hon:=Wk
    refine dx 10 (Vo 3 v1 s.args (Yd:Int) Yd) (Z9 11 (JT 11 3 [] [] v1 s.args Yd z5 (de (ar (XK (KV 0 v1 (s.args.set Yd z5)) (XK (UE 0 2 3 v1.v 1 b3 (Z8 (s.args.set Yd z5)) [.i s.op,.i s.num,.i s.into,.h v1,Yu s.kids] (YF _) rfl) (Yl 1 65 (.agg [.i s.op,.i s.num,.i s.into,Z7 (s.args.set Yd z5) v1.v,Yu s.kids]) [0] [b3] (ZF 4 b2 [.i s.op,.i s.num,.i s.into,Z7 (s.args.set Yd z5) v1.v,Yu s.kids] (ie ?_)))))))))
    exact Zb (r3 [3] [.agg [.i s.op,.i s.num,.i s.into,Z7 (s.args.set Yd z5) v1.v,Yu s.kids]] [0] [(b2,b2)] ⟨(Z4.mk s.op s.num s.into (s.args.set Yd z5) s.kids),((p+1)+1)+1,rfl,rfl,⟨by first|exact VC.refl hg|exact VC.of hg (by first|exact .inl rfl|exact .inr hon) (by first|exact Nat.le_succ _|(simp<;>omega)) (by first|exact .inl rfl|exact .inr rfl),by omega,by omega⟩⟩ (Zg.agg (.cons (lr _) (.cons (lr _) (.cons (lr _) (.cons (Zg.forget _ _) (.cons (lr _) .nil)))))))
   refine dL 8 [1,1] [b3,b3] (Z8 [0,1,2,3,-1,99]) 6 1 ?_
   intro v9
   refine Z9 6 (dc 6 [1] [0] [b3] (KH rd bs (p+1) s.args.length (ZE:=ob)) ?_)
   rintro _ _ ⟨YC,rfl,rfl,WJ⟩
   refine Xa 3 3 [] [(4,.p b2 0),(5,.p b3 0),(45,.h v1),(50,.i YC),(51,.p rd 0),(52,Z0 [0,1,2,3,-1,99])] (Z9 9 (dc 9 [0] [0] [b3] (Vw rd bs ((p+1)+1) [0,1,2,3,-1,99] (ZE:=ob)) ?_))
   rintro _ _ ⟨z6,rfl,rfl,V4⟩
   have hon:=V4
   refine dx 10 (Vo 3 v1 s.args (YC:Int) YC) (Z9 11 (JT 11 3 [] [] v1 s.args YC z6 (de (ar (XK (KV 0 v1 (s.args.set YC z6)) (XK (UE 0 2 3 v1.v 1 b3 (Z8 (s.args.set YC z6)) [.i s.op,.i s.num,.i s.into,.h v1,Yu s.kids] (YF _) rfl) (Yl 1 65 (.agg [.i s.op,.i s.num,.i s.into,Z7 (s.args.set YC z6) v1.v,Yu s.kids]) [0] [b3] (ZF 4 b2 [.i s.op,.i s.num,.i s.into,Z7 (s.args.set YC z6) v1.v,Yu s.kids] (ie ?_)))))))))
   exact Zb (r3 [3] [.agg [.i s.op,.i s.num,.i s.into,Z7 (s.args.set YC z6) v1.v,Yu s.kids]] [0] [(b2,b2)] ⟨(Z4.mk s.op s.num s.into (s.args.set YC z6) s.kids),((p+1)+1)+1,rfl,rfl,⟨by first|exact VC.refl hg|exact VC.of hg (by first|exact .inl rfl|exact .inr hon) (by first|exact Nat.le_succ _|(simp<;>omega)) (by first|exact .inl rfl|exact .inr rfl),by omega,by omega⟩⟩ (Zg.agg (.cons (lr _) (.cons (lr _) (.cons (lr _) (.cons (Zg.forget _ _) (.cons (lr _) .nil)))))))
  refine ak (ar (XK (KV 2 v1 s.args) (XK (UE 0 1 3 v1.v 1 b3 (Z8 s.args) [.i s.op,.i s.num,.i s.into,.h v1,Yu s.kids] (YF _) rfl) (Yl 1 65 (.agg [.i s.op,.i s.num,.i s.into,Z7 s.args v1.v,Yu s.kids]) [0] [b3] (ZF 3 b2 [.i s.op,.i s.num,.i s.into,Z7 s.args v1.v,Yu s.kids] (ie ?_))))))
  exact Zb (r3 [3] [.agg [.i s.op,.i s.num,.i s.into,Z7 s.args v1.v,Yu s.kids]] [0] [(b2,b2)] ⟨s,p+1,rfl,rfl,⟨by first|exact VC.refl hg|exact VC.of hg (by first|exact .inl rfl|exact .inr hon) (by first|exact Nat.le_succ _|(simp<;>omega)) (by first|exact .inl rfl|exact .inr rfl),by omega,by omega⟩⟩ (Zg.agg (.cons (lr _) (.cons (lr _) (.cons (lr _) (.cons (Zg.forget _ _) (.cons (lr _) .nil)))))))
 refine ar (Z1 2 55 (.b (k1==5)) (ie (ac (k1==5) Zh (fun Vx=>?_) (fun Vx=>?_))))
 ·refine ar (Yl 2 58 (Yu s.kids) [1] [b3] (iw (VG s.kids) (Z1 1 60 (.b (decide ((s.kids.length:Int)>0))) (ie (ZM ((s.kids.length:Int)>0) (fun Vr=>?_) (fun Vr=>?_))))))
  ·refine az (Yl 2 62 (Yu s.kids) [1] [b3] (Zq (Kl (es:=YH s.kids) (hv:=none) (l:=1) (m:=(((YH s.kids).length:Nat):Int)) (sz:=2) (es':=YH (s.kids.drop 1)) kr om (by simp<;>omega) (by simp<;>omega) (T7 _) (by first|(simp only [VR,Vp,FC,FB];done)|(simp only [VR,Vp,FC,FB];rfl)|(simp [FC,FB];done))) (Z1 1 64 (.p b3 4) (ZF 1 b3 [.i s.op,.i s.num,.i s.into,.h v1,Yu (s.kids.drop 1)] (ie (ar (XK (KV 2 v1 s.args) (XK (UE 0 0 3 v1.v 1 b3 (Z8 s.args) [.i s.op,.i s.num,.i s.into,.h v1,Yu (s.kids.drop 1)] (YF _) rfl) (Yl 1 65 (.agg [.i s.op,.i s.num,.i s.into,Z7 s.args v1.v,Yu (s.kids.drop 1)]) [0] [b3] (ZF 3 b2 [.i s.op,.i s.num,.i s.into,Z7 s.args v1.v,Yu (s.kids.drop 1)] (ie ?_)))))))))))
   exact Zb (r3 [3] [.agg [.i s.op,.i s.num,.i s.into,Z7 s.args v1.v,Yu (s.kids.drop 1)]] [0] [(b2,b2)] ⟨(Z4.mk s.op s.num s.into s.args (s.kids.drop 1)),p+1,rfl,rfl,⟨by first|exact VC.refl hg|exact VC.of hg (by first|exact .inl rfl|exact .inr hon) (by first|exact Nat.le_succ _|(simp<;>omega)) (by first|exact .inl rfl|exact .inr rfl),by omega,by omega⟩⟩ (Zg.agg (.cons (lr _) (.cons (lr _) (.cons (lr _) (.cons (Zg.forget _ _) (.cons (lr _) .nil)))))))
  refine ak (ar (XK (KV 2 v1 s.args) (XK (UE 0 1 3 v1.v 1 b3 (Z8 s.args) [.i s.op,.i s.num,.i s.into,.h v1,Yu s.kids] (YF _) rfl) (Yl 1 65 (.agg [.i s.op,.i s.num,.i s.into,Z7 s.args v1.v,Yu s.kids]) [0] [b3] (ZF 3 b2 [.i s.op,.i s.num,.i s.into,Z7 s.args v1.v,Yu s.kids] (ie ?_))))))
  exact Zb (r3 [3] [.agg [.i s.op,.i s.num,.i s.into,Z7 s.args v1.v,Yu s.kids]] [0] [(b2,b2)] ⟨s,p+1,rfl,rfl,⟨by first|exact VC.refl hg|exact VC.of hg (by first|exact .inl rfl|exact .inr hon) (by first|exact Nat.le_succ _|(simp<;>omega)) (by first|exact .inl rfl|exact .inr rfl),by omega,by omega⟩⟩ (Zg.agg (.cons (lr _) (.cons (lr _) (.cons (lr _) (.cons (Zg.forget _ _) (.cons (lr _) .nil)))))))
 refine ak (ar (XK (KV 2 v1 s.args) (XK (UE 0 1 3 v1.v 1 b3 (Z8 s.args) [.i s.op,.i s.num,.i s.into,.h v1,Yu s.kids] (YF _) rfl) (Yl 1 65 (.agg [.i s.op,.i s.num,.i s.into,Z7 s.args v1.v,Yu s.kids]) [0] [b3] (ZF 3 b2 [.i s.op,.i s.num,.i s.into,Z7 s.args v1.v,Yu s.kids] (ie ?_))))))
 exact Zb (r3 [3] [.agg [.i s.op,.i s.num,.i s.into,Z7 s.args v1.v,Yu s.kids]] [0] [(b2,b2)] ⟨s,p+1,rfl,rfl,⟨by first|exact VC.refl hg|exact VC.of hg (by first|exact .inl rfl|exact .inr hon) (by first|exact Nat.le_succ _|(simp<;>omega)) (by first|exact .inl rfl|exact .inr rfl),by omega,by omega⟩⟩ (Zg.agg (.cons (lr _) (.cons (lr _) (.cons (lr _) (.cons (Zg.forget _ _) (.cons (lr _) .nil)))))))
theorem Z03 (rd:Nat) (bs:List Int) (p:Nat) (mx:Int) (ZE:∀z∈bs,0<=z/\z<=255) (hp:p+1<=1000000000):Zi Tryz.prog 50 [.p rd 0,.i mx] [Yn rd bs p] (fun r h=>∃(k:Int),r=.i k/\h=[.obj rd [X9 bs,.i (p+1:Nat)]]/\Pk mx k/\k=Jv bs p mx):=by
 refine ZK 99 Tryz.func50 (ar (ir 1 [(0,.p rd 0),(1,.i mx)] (ie (ar (ZY 5 7 (.p rd 0) 11 (.i p) [0] [rd] (ZL p (Z1 2 14 (.p rd 1) (ZF 0 rd [X9 bs,.i (p+1:Nat)] (ie (aq (ar (Xo [(0,.p rd 0),(1,.i mx),(24,.b ((decide (mx<1))||((bs.length:Int)==0)))] [.obj rd [X9 bs,.i (p+1:Nat)]] ?_ ?_))))))))))))
 ·refine ir 3 [(0,.p rd 0),(1,.i mx),(17,.b (decide (mx<1)))] (ib (b:=(decide (mx<1))) 17 (fun Za=>?_) (fun Za=>?_))
  ·have ZP:mx<1:=(dq).1 Za
   refine Z5 7 (.n 24 (.b true) (.d (.k (.k .z)))) (ie ?_)
   exact wk [0] (fw (Zu true Za fl))
  have Y1:¬(mx<1):=ZI dq Za
  refine Y2 4 (.n 21 (X9 bs) (.k (.k (.k .z)))) [0] [rd] (iw (QG bs) (Z1 2 24 (.b ((bs.length:Int)==0)) (ie ?_)))
  exact wk [0] (fw (Zu ((bs.length:Int)==0) Za fl))
 refine ac ((decide (mx<1))||((bs.length:Int)==0)) (p:=(mx<1)∨((bs.length:Int)=0)) (Yo dq Zh) (fun Ze=>?_) (fun Ze=>?_)
 ·refine ar (ir 1 [(4,.i 0)] (ie ?_))
  exact Zb (r1 [0] ⟨0,rfl,rfl,⟨Pk.zero,by rw [Jv,Zo om]⟩⟩)
 refine ak (ar (iR 4 [(0,.p rd 0),(1,.i mx),(28,.i (p+1:Nat))] [0] [rd] (ia ((p:Int)) ((((p+1:Nat):Int))-(1)) (Z1 1 5 (.i p) (ie (aq (ar (ZY 5 30 (.i p) 34 (X9 bs) [0] [rd] (iw (QG bs) (Z1 1 36 (.b (decide ((p:Int)<(bs.length:Int)))) (ie (ZM ((p:Int)<(bs.length:Int)) (fun Zk=>?_) (fun Zk=>?_)))))))))))))
 ·refine ar (ZY 5 40 (X9 bs) 41 (.i p) [0] [rd] ?_)
  obtain ⟨x1,Z3⟩:=Zr (xs:=bs) (j:=p) om
  have hz:=ZE _ (Y7 Z3)
  refine Zq (Zm none (p:Int) 1 (Bn Z3)) (Z1 1 43 (.val (.int .u8 x1)) (Zq (BG x1 om) (Z1 1 45 (.i mx) (Zq (CC x1 mx om om) (ir 1 [(4,.i (x1 % mx))] (ie ?_))))))
  exact Zb (r1 [0] ⟨(x1 % mx),rfl,rfl,⟨Pk.rem om om,by rw [Jv,Zc om,Zo om,Z3];rfl⟩⟩)
 have hq1:p / bs.length<=p:=Nat.div_le_self _ _
 have hq0:(0:Int)<=((p / bs.length:Nat):Int):=Int.natCast_nonneg _
 refine ak (aD 46 (Y6 37 46 [0,1,2,3,4,5,6,7,8] (.n 50 (X9 bs) (.n 51 (.i p) (.n 55 (X9 bs) .r))) [0,0] [rd,rd] (dw 9 (QG bs) (dx 10 (E1 p bs.length om om) ?_))))
 obtain ⟨x2,Zt⟩:=Zr (xs:=bs) (j:=p % bs.length) (Nat.mod_lt _ om)
 have hz:=ZE _ (Y7 Zt)
 have hy2:=Zt
 refine dx 11 (Zm none ((p % bs.length:Nat):Int) 1 (Bn Zt)) (ZZ 33 34 [12] 59 (.val (.int .u8 x2)) (dx 13 (BG x2 om) (da 14 ((x2*131)) ((x2)*(131)) (Y6 26 31 [15,16,17,18,19] (.n 65 (X9 bs) (.n 66 (.i p) .r)) [0] [rd] (da 20 (((p*7:Nat):Int)) (((p:Int))*(7)) (da 21 (((p*7+3:Nat):Int)) ((((p*7:Nat):Int))+(3)) (Y6 20 24 [22,23,24,25] (.n 72 (X9 bs) .r) [0] [rd] (dw 26 (QG bs) (dx 27 (E1 (p*7+3) bs.length om om) ?_)))))))))
 obtain ⟨x3,YT⟩:=Zr (xs:=bs) (j:=(p*7+3) % bs.length) (Nat.mod_lt _ om)
 have hz3:=ZE _ (Y7 YT)
 have hy3:=YT
 refine dx 28 (Zm none (((p*7+3) % bs.length:Nat):Int) 1 (Bn YT)) (ZZ 16 17 [29] 76 (.val (.int .u8 x3)) (dx 30 (BG x3 om) (da 31 ((x3*1117)) ((x3)*(1117)) (da 32 (((x2*131)+(x3*1117))) (((x2*131))+((x3*1117))) (ZZ 12 13 [33] 80 (.i p) (da 34 (((p*29:Nat):Int)) (((p:Int))*(29)) (da 35 ((((x2*131)+(x3*1117))+((p*29:Nat):Int))) ((((x2*131)+(x3*1117)))+(((p*29:Nat):Int))) (Y6 5 10 [36,37,38,39,40] (.n 83 (.i p) (.n 87 (X9 bs) .r)) [0] [rd] (dw 41 (QG bs) (dx 42 (AZ p bs.length om om) (da 43 ((((p / bs.length:Nat):Int)*53)) ((((p / bs.length:Nat):Int))*(53)) (da 44 (((((x2*131)+(x3*1117))+((p*29:Nat):Int))+(((p / bs.length:Nat):Int)*53))) (((((x2*131)+(x3*1117))+((p*29:Nat):Int)))+((((p / bs.length:Nat):Int)*53))) (ZZ 0 1 [45] 6 (.i ((((x2*131)+(x3*1117))+((p*29:Nat):Int))+(((p / bs.length:Nat):Int)*53))) (de (ar (Yq 2 92 (.i ((((x2*131)+(x3*1117))+((p*29:Nat):Int))+(((p / bs.length:Nat):Int)*53))) 93 (.i ((((x2*131)+(x3*1117))+((p*29:Nat):Int))+(((p / bs.length:Nat):Int)*53))) (Zq (Gu ((((x2*131)+(x3*1117))+((p*29:Nat):Int))+(((p / bs.length:Nat):Int)*53)) 64 om om) (Zq (LJ ((((x2*131)+(x3*1117))+((p*29:Nat):Int))+(((p / bs.length:Nat):Int)*53)) (((((x2*131)+(x3*1117))+((p*29:Nat):Int))+(((p / bs.length:Nat):Int)*53)) / 64)) (ir 1 [(1,.i mx),(6,.i (TQ ((((x2*131)+(x3*1117))+((p*29:Nat):Int))+(((p / bs.length:Nat):Int)*53)) (((((x2*131)+(x3*1117))+((p*29:Nat):Int))+(((p / bs.length:Nat):Int)*53)) / 64)))] (ie (ar (ir 2 [(96,.i (TQ ((((x2*131)+(x3*1117))+((p*29:Nat):Int))+(((p / bs.length:Nat):Int)*53)) (((((x2*131)+(x3*1117))+((p*29:Nat):Int))+(((p / bs.length:Nat):Int)*53)) / 64))),(97,.i mx)] (Zq (CC (TQ ((((x2*131)+(x3*1117))+((p*29:Nat):Int))+(((p / bs.length:Nat):Int)*53)) (((((x2*131)+(x3*1117))+((p*29:Nat):Int))+(((p / bs.length:Nat):Int)*53)) / 64)) mx om (EP ⟨by omega,by omega⟩ ⟨by omega,by omega⟩).1) (ir 1 [(4,.i ((TQ ((((x2*131)+(x3*1117))+((p*29:Nat):Int))+(((p / bs.length:Nat):Int)*53)) (((((x2*131)+(x3*1117))+((p*29:Nat):Int))+(((p / bs.length:Nat):Int)*53)) / 64)) % mx))] (ie ?_)))))))))))))))))))))))))
 exact Zb (r1 [0] ⟨((TQ ((((x2*131)+(x3*1117))+((p*29:Nat):Int))+(((p / bs.length:Nat):Int)*53)) (((((x2*131)+(x3*1117))+((p*29:Nat):Int))+(((p / bs.length:Nat):Int)*53)) / 64)) % mx),rfl,rfl,⟨Pk.rem (EP ⟨by omega,by omega⟩ ⟨by omega,by omega⟩).1 om,by rw [Jv,Zc om,Zc om,hy2,hy3];rfl⟩⟩)
theorem Z04 (rd:Nat) (bs:List Int) (p:Nat) (mx:Nat) (ZE:∀z∈bs,0<=z/\z<=255) (hp:p+1<=1000000000:=by exact ob) (hmx:0<mx:=by exact ob):Zi Tryz.prog 50 [.p rd 0,.i mx] [Yn rd bs p] (fun r h=>∃(kn:Nat),r=.i kn/\h=[.obj rd [X9 bs,.i (p+1:Nat)]]/\kn<mx/\kn=(Jv bs p mx).toNat):=(Z03 rd bs p mx ZE hp).mono fun r h ⟨z,hr,hh,hz,he⟩=>by
  have h0:=hz.lt om
  exact ⟨z.toNat,by rw [hr,Int.toNat_of_nonneg h0.1],hh,by omega,by rw [he]⟩
theorem PT (s:Z4) (hz:s.sz<=1000000000):Zi Tryz.prog 127 [Y3 s] [] (fun r h=>∃(v:Hd),r=.agg [.i s.op,.i s.num,.i s.into,Z0 s.args,.h v]/\h=[rK v 2 (Zl (YH s.kids))]):=by
 have hkz:=Uz s
 have haz:=Qg s
 refine ZK 33 Tryz.func127 (ar (iA (Yg s) ?_))
 intro b1
 refine iA [.i 0,.i 0,.i 0,nl,nl] ?_
 intro b2
 refine ie (ar (DT 2 ?_))
 intro g1
 refine ir 1 [(1,.p b1 0),(2,.p b2 0),(3,.ms g1 0 0 0)] (ie (aq (ar (Z1 1 4 (.i 0) (ie (ab 0 (al (fun m F h=>∃(k:Nat) (v:Hd),(k<=s.kids.length)/\F=[(1,.p b1 0),(2,.p b2 0),(3,.h v),(4,.i k)]/\h=[.obj b2 [.i 0,.i 0,.i 0,nl,nl],.obj b1 (Yg s),rK v 2 (Zl (YH (s.kids.take k)))]/\m=s.kids.length-k) _ _ _ ⟨0,(⟨some ⟨g1,0,none⟩,0,0⟩:Hd),ob,rfl,rfl,rfl⟩ (wk [1,1,0] (fw (fr (Ya fl))) (e:=(rc (rc (rr (ls:=[]) ob rz))))) ?_)))))))
 rintro m F h ⟨k,v,Yj,rfl,rfl,rfl⟩
 refine aq (ar (ZY 3 6 (.i k) 8 (Yu s.kids) [1] [b1] (iw (VG s.kids) (Z1 1 10 (.b (decide ((k:Int)<(s.kids.length:Int)))) (ie (ZM ((k:Int)<(s.kids.length:Int)) (fun Ze=>?_) (fun Ze=>?_)))))))
 ·refine ak (aq (ab 1 (az (Y2 4 (.n 13 (.h v) (.n 15 (Yu s.kids) (.n 16 (.i k) .r))) [1] [b1] ?_))))
  obtain ⟨x1,Z3⟩:=Zr (xs:=s.kids) (j:=k) om
  have hks:=Uy Z3
  refine Zq (Zm none (k:Int) 2 (U5 Z3)) (Z1 1 18 (Zs x1) (ZA [] (EE x1) (iL [Zs x1] 1 2 ?_)))
  intro v1
  refine Z5 0 (.n 20 (.sl [Zs x1] none) (.p .r)) (DS 3 k v 2 (Zl (YH (s.kids.take k))) [Zs x1] none (by rw [Co,Ww,Vq om]) (TJ rfl) rfl (List.cons_ne_nil _ _) (by simp<;>omega) ?_)
  intro v2
  refine ir 1 [(1,.p b1 0),(2,.p b2 0),(3,.h v2),(4,.i k)] (ie (az (Z1 1 11 (.i k) (ZL k (Z5 1 (.n 4 (.i (k+1:Nat)) (.p (.d (.k (.k (.k .z)))))) (ie ?_))))))
  exact ZO ⟨k+1,v2,ob,rfl,rfl,rfl⟩ (wk [2,2,0] (fw (fr (ZQ k fl))) (e:=(rc (rc (rr (ls:=Zl (YH (s.kids.take k))++Zl [Zs x1]) (RT Z3) rz)))))
 refine ax 0 (aD 12 (W2 3 12 [0,1,2,3,4,5,6,7,9] [(2,.p b2 0),(23,.i s.op),(25,.i s.num),(27,.i s.into),(29,Z0 s.args),(31,.h v)] [1,1,1,1] [b1,b1,b1,b1] (Z9 8 (dc 8 [] [1,1,1] [b1,b1,b1] (VP s.args) ?_))))
 rintro _ _ ⟨v3,rfl,rfl⟩
 refine ZZ 1 2 [10] 32 (.agg [.i s.op,.i s.num,.i s.into,Z7 s.args v3,.h v]) (Z9 11 (YL 11 1 [] [] b2 [.i s.op,.i s.num,.i s.into,Z7 s.args v3,.h v] (de ?_)))
 exact Zb (r3 [3] [.agg [.i s.op,.i s.num,.i s.into,Z7 s.args v3,.h v]] [0] [(b2,b2)] ⟨v,rfl,rfl⟩ (Zg.agg (.cons (lr _) (.cons (lr _) (.cons (lr _) (.cons (Zg.forget _ _) (.cons (lr _) .nil)))))) (eq:=(rr (ls:=Zl (YH (s.kids.take k))) (by rw [Vg om]) rz)))
theorem PS (s:Z4) (fl:Bool) (hz:s.sz<=1000000000:=by exact ob):Zi Tryz.prog 127 [Y3 s] [] (fun r h=>(∃(v:Hd),r=.agg [.i s.op,.i s.num,.i s.into,Z0 s.args,.h v]/\h=[rK v 2 (Zl (YH s.kids))]/\fl=true)∨(r=Y3 s/\h=[]/\fl=false)):=by
 cases fl with
 | true=>exact (PT s hz).mono fun r h ⟨v,hr,hh⟩=>.inl ⟨v,hr,hh,rfl⟩
 | false=>exact (NF s hz).mono fun r h ⟨hr,hh⟩=>.inr ⟨hr,hh,rfl⟩
theorem PP (b:Z6) (kk:Nat) (hz:b.sz<=1000000000:=by exact ob) (hkk:kk<b.steps.length:=by exact ob):Zi Tryz.prog 86 [Zs b] [] (fun r h=>∃(v:Hd) (u:Hd),r=.agg [.h v,.i b.result]/\h=[rK v 5 (Wz b kk u.v b.steps.length),rK u 2 (Ux b kk b.steps.length)]):=by
 have hbz:=Vf b
 refine ZK 28 Tryz.func86 (ar (iA (Yk b) ?_))
 intro b1
 refine iA [nl,.i 0] ?_
 intro b2
 refine ie (ar (DT 5 ?_))
 intro g1
 refine iR 3 [(1,.p b1 0),(2,.p b2 0),(8,.agg [.ms g1 0 0 0,.i b.result])] [2] [b1] (iA [nl,.i 0] ?_)
 intro b3
 refine ZF 0 b3 [.ms g1 0 0 0,.i b.result] (ie (aq (ar (XK (Z8g (k:=2)) (Z1 1 4 (.i 0) (ie (ab 0 (al (fun m F h=>∃(k:Nat) (v:Hd) (u:Hd),(k<=b.steps.length)/\F=[(1,.p b1 0),(2,.p b2 0),(3,.p b3 0),(4,.i k)]/\h=[.obj b3 [.h v,.i b.result],.obj b2 [nl,.i 0],.obj b1 (Yk b),rK v 5 (Wz b kk u.v k),rK u 2 (Ux b kk k)]/\m=b.steps.length-k) _ _ _ ⟨0,(⟨some ⟨g1,0,none⟩,0,0⟩:Hd),hN,ob,rfl,rfl,rfl⟩ (wk [1,2,2,1,0] (fw (fr (Ya fl))) (e:=(rc (rc (rc (rr (ls:=[]) (by first|exact LM.symm|exact LP.symm) (rr (ls:=[]) (by first|exact LM.symm|exact LP.symm) rz))))))) ?_))))))))
 rintro m F h ⟨k,v,u,Yj,rfl,rfl,rfl⟩
 refine aq (ar (ZY 3 9 (.i k) 11 (Ye b.steps) [2] [b1] (iw (Vl b.steps) (Z1 1 13 (.b (decide ((k:Int)<(b.steps.length:Int)))) (ie (ZM ((k:Int)<(b.steps.length:Int)) (fun Ze=>?_) (fun Ze=>?_)))))))
 ·refine ak (aq (ab 1 (aE 12 (Y6 7 12 [0,1,2,3,4] (.n 17 (.h v) (.n 19 (Ye b.steps) (.n 20 (.i k) .r))) [0,2] [b3,b1] ?_))))
  obtain ⟨x1,Z3⟩:=Zr (xs:=b.steps) (j:=k) om
  have hss:=QY Z3
  refine dx 5 (Zm none (k:Int) 5 (Wa Z3)) (ZZ 5 6 [6] 22 (Y3 x1) (Z9 7 (dc 7 [] [0] [b3] (PS x1 (decide (k=kk))) ?_)))
  rintro _ _ (⟨v1,rfl,rfl,ZP⟩|⟨rfl,rfl,Y1⟩)
  ·have hke:k=kk:=of_decide_eq_true ZP
   refine Fv (O8 [1,1,1,0,0,0] (h':=[.obj b3 [.h v,.i b.result],.obj b2 [nl,.i 0],.obj b1 (Yk b),rK v1 2 (Zl (YH x1.kids)),rK v 5 (Wz b kk u.v k),rK u 2 (Ux b kk k)]) (d:=[]) kr) (Z9 8 (dL 8 [0] [b3] [.agg [.i x1.op,.i x1.num,.i x1.into,Z0 x1.args,.h v1]] 1 5 ?_))
   intro v2
   refine Y0 3 3 [] (.n 24 (.sl [.agg [.i x1.op,.i x1.num,.i x1.into,Z0 x1.args,.h v1]] none) (.p .r)) (Z9 9 (Fs 9 5 k [] [] v 5 (Wz b kk u.v k) [.agg [.i x1.op,.i x1.num,.i x1.into,Z0 x1.args,.h v1]] none (Gx om) (TJ rfl) rfl (List.cons_ne_nil _ _) (by simp<;>omega) ?_))
   intro v3
   refine ZZ 1 2 [10] 26 (.p b3 0) (Z9 11 (YL 11 2 [] [] b3 [.h v3,.i b.result] (de (az (Z1 1 14 (.i k) (ZL k (ir 1 [(1,.p b1 0),(2,.p b2 0),(3,.p b3 0),(4,.i (k+1:Nat))] (ie ?_))))))))
   exact ZO ⟨k+1,v3,v1,ob,rfl,rfl,rfl⟩ (wk [0,2,2,0,1] (fw (fr (ZQ k fl))) (e:=(rc (rc (rc (rr (ls:=Wz b kk u.v k++Zl [.agg [.i x1.op,.i x1.num,.i x1.into,Z0 x1.args,.h v1]]) (by first|(subst hke;exact LL Z3)|(subst hke;exact LO Z3)) (rr (ls:=Zl (YH x1.kids)) (by first|(subst hke;exact LL Z3)|(subst hke;exact LO Z3)) rz)))))))
  have hke:¬k=kk:=of_decide_eq_false Y1
  refine Z9 8 (dL 8 [0] [b3] [Y3 x1] 1 5 ?_)
  intro v4
  refine Y0 3 3 [] (.n 24 (.sl [Y3 x1] none) (.p .r)) (Z9 9 (Fs 9 4 k [] [] v 5 (Wz b kk u.v k) [Y3 x1] none (Gx om) (TJ rfl) rfl (List.cons_ne_nil _ _) (by simp<;>omega) ?_))
  intro v5
  refine ZZ 1 2 [10] 26 (.p b3 0) (Z9 11 (YL 11 2 [] [] b3 [.h v5,.i b.result] (de (az (Z1 1 14 (.i k) (ZL k (ir 1 [(1,.p b1 0),(2,.p b2 0),(3,.p b3 0),(4,.i (k+1:Nat))] (ie ?_))))))))
  exact ZO ⟨k+1,v5,u,ob,rfl,rfl,rfl⟩ (wk [0,2,2,0,1] (fw (fr (ZQ k fl))) (e:=(rc (rc (rc (rr (ls:=Wz b kk u.v k++Zl [Y3 x1]) (by first|exact LK Z3 hke|exact LN hke) (rr (ls:=Ux b kk k) (by first|exact LK Z3 hke|exact LN hke) rz)))))))
 refine ax 0 (ar (Yl 1 27 (.agg [.h v,.i b.result]) [0] [b3] (ZF 1 b2 [.h v,.i b.result] (ie ?_))))
 exact Zb (r3 [3,3] [.agg [.h v,.i b.result]] [0] [(b2,b2)] ⟨v,u,rfl,rfl⟩ (lr _) (eq:=(rr (ls:=Wz b kk u.v k) (by rw [show k=b.steps.length by omega]) (rr (ls:=Ux b kk k) (by rw [show k=b.steps.length by omega]) rz))))
theorem Z0b (rd:Nat) (bs:List Int) (p:Nat) (b:Z6) (ZE:∀z∈bs,0<=z/\z<=255) (hp:p+(10*b.sz)<=1000000000) (hz:b.sz<=20000000) (hg:b.rng) (h0:b.steps.length=0):Zi Tryz.prog 53 [.p rd 0,Zs b] [Yn rd bs p] (fun r h=>∃(y:Z6) (p2:Nat),r=Zs y/\h=[Yn rd bs p2]/\Xs b y/\p<=p2/\p2<=p+(10*b.sz)):=by
 have hbp:=b.sz_pos
 refine ZK 109 Tryz.func53 (ar (iA (Yk b) ?_))
 intro b1
 refine iA [nl,.i 0] ?_
 intro b2
 refine ie (ar (iR 1 [(0,.p rd 0),(4,.p b2 0),(8,Zs b)] [1] [b1] (ZA [] (EE b) (iA [nl,.i 0] ?_))))
 intro b3
 refine ZF 0 b3 (Yk b) (ie (aq (ar (Yl 2 11 (Ye b.steps) [0] [b3] (iw (Vl b.steps) (Z1 2 14 (.b ((b.steps.length:Int)==0)) (ib (b:=((b.steps.length:Int)==0)) 14 (fun Za=>?_) (fun Za=>?_))))))))
 ·have ZP:(b.steps.length:Int)=0:=(Zh).1 Za
  refine Z5 4 (.n 18 (.b true) (.k (.d .r))) (ie (WU (ar (Z1 1 19 (.p rd 0) (iL (Z8 [0,1,2,3,-1,99]) 6 1 ?_)))))
  intro v1
  refine Z5 0 (.n 20 (Z0 [0,1,2,3,-1,99]) (.p .r)) (ic [4] (Vw rd bs p [0,1,2,3,-1,99] (ZE:=ob)) ?_)
  rintro _ _ ⟨z1,rfl,rfl,Y1⟩
  refine Z1 1 22 (.p b3 1) (ZF 2 b3 [Ye b.steps,.i z1] (ie (ar (Yl 1 23 (.agg [Ye b.steps,.i z1]) [0] [b3] (ZF 3 b2 [Ye b.steps,.i z1] (ie ?_))))))
  exact Zb (r3 [2] [.agg [Ye b.steps,.i z1]] [0] [(b2,b2)] ⟨(Z6.mk b.steps z1),p+1,rfl,rfl,⟨Xs.result hg _,by have:=b.sz_pos;omega,by have:=b.sz_pos;omega⟩⟩ (lr _))
 have Yy:¬((b.steps.length:Int)=0):=ZI Zh Za
 exact absurd (show (b.steps.length:Int)=0 by omega) Yy
theorem Z0c (rd:Nat) (bs:List Int) (p:Nat) (b:Z6) (ZE:∀z∈bs,0<=z/\z<=255) (hp:p+(10*b.sz)<=1000000000) (hz:b.sz<=20000000) (hg:b.rng) (h0:0<b.steps.length) (ih:∀(rd:Nat) (bs:List Int) (p:Nat) (b2:Z6),(∀z∈bs,0<=z/\z<=255)->(p+(10*b2.sz)<=1000000000)->(b2.sz<=20000000)->(b2.rng)->(b2.sz<b.sz)->Zi Tryz.prog 53 [.p rd 0,Zs b2] [Yn rd bs p] (fun r h=>∃(y:Z6) (p2:Nat),r=Zs y/\h=[Yn rd bs p2]/\Xs b2 y/\p<=p2/\p2<=p+(10*b2.sz))):Zi Tryz.prog 53 [.p rd 0,Zs b] [Yn rd bs p] (fun r h=>∃(y:Z6) (p2:Nat),r=Zs y/\h=[Yn rd bs p2]/\Xs b y/\p<=p2/\p2<=p+(10*b.sz)):=by
 have hbp:=b.sz_pos
 obtain ⟨kk,hkk⟩:∃kk,kk=(Jv bs (p+1) (b.steps.length:Int)).toNat:=⟨_,rfl⟩
 have hkl:kk<b.steps.length:=by have:=Z4d (bs:=bs) (p:=p+1) (mx:=(b.steps.length:Int)) om;omega
 obtain ⟨sk,hsk⟩:=Zr (xs:=b.steps) (j:=kk) hkl
 have hsb:=QY hsk
 have hsg:=Z54 hg hsk
 have hst:=Vf b
 refine ZK 109 Tryz.func53 (ar (iA (Yk b) ?_))
 intro b1
 refine iA [nl,.i 0] ?_
 intro b2
 refine ie (ar (iR 1 [(0,.p rd 0),(4,.p b2 0),(8,Zs b)] [1] [b1] (ic [] (PP b kk) ?_)))
 rintro _ _ ⟨v1,u1,rfl,rfl⟩
 refine DR 0 b.steps.length (v:=v1) (Gx (kk:=kk) (u:=u1.v) (X6 b.steps.length)) om (fun g1 c1 he1=>?_)
 subst he1
 refine XK (O8 [0,1,1,1,0] (h':=[.row (.slice (some ⟨g1,0,none⟩) b.steps.length c1) 5 (Wz b kk u1.v b.steps.length),.obj b2 [nl,.i 0],.obj b1 (Yk b),Yn rd bs p,rK u1 2 (Ux b kk b.steps.length)]) (d:=[]) kr) (iA [nl,.i 0] ?_)
 intro b3
 refine ZF 0 b3 [.ms g1 0 b.steps.length c1,.i b.result] (ie (aq (ar (iR 2 [(0,.p rd 0),(4,.p b2 0),(5,.p b3 0),(11,.ms g1 0 b.steps.length c1)] [0] [b3] (io (.i b.steps.length) (.i b.steps.length) (lr _) (Z1 2 14 (.b ((b.steps.length:Int)==0)) (ib (b:=((b.steps.length:Int)==0)) 14 (fun Za=>?_) (fun Za=>?_))))))))
 ·have ZP:(b.steps.length:Int)=0:=(Zh).1 Za
  exact absurd ZP om
 have Y1:¬((b.steps.length:Int)=0):=ZI Zh Za
 refine Z5 1 (.n 15 (.p rd 0) (.k (.d .r))) (ic [4] (XP rd bs p 5 (ZE:=ob)) ?_)
 rintro _ _ ⟨k1,rfl,rfl,Yy⟩
 refine Z1 2 18 (.b (k1==0)) (ie (ac (k1==0) Zh (fun Ze=>?_) (fun Ze=>?_)))
 ·refine ar (XK (Hq 5 2 b kk sk u1.v (.slice (some ⟨g1,0,none⟩) b.steps.length c1) hsk) (XK (UE 0 2 0 (.slice (some ⟨g1,0,none⟩) b.steps.length c1) 5 b3 (Zv b.steps) [.ms g1 0 b.steps.length c1,.i b.result] (X8 _) rfl) (Z1 1 19 (.p rd 0) (iL (Z8 [0,1,2,3,-1,99]) 6 1 ?_))))
  intro v2
  refine Z5 0 (.n 20 (Z0 [0,1,2,3,-1,99]) (.p .r)) (ic [4] (Vw rd bs (p+1) [0,1,2,3,-1,99] (ZE:=ob)) ?_)
  rintro _ _ ⟨z1,rfl,rfl,YK⟩
  refine Z1 1 22 (.p b3 1) (ZF 2 b3 [ZX b.steps (.slice (some ⟨g1,0,none⟩) b.steps.length c1),.i z1] (ie (ar (Yl 1 23 (.agg [ZX b.steps (.slice (some ⟨g1,0,none⟩) b.steps.length c1),.i z1]) [0] [b3] (ZF 5 b2 [ZX b.steps (.slice (some ⟨g1,0,none⟩) b.steps.length c1),.i z1] (ie ?_))))))
  exact Zb (r3 [2] [.agg [ZX b.steps (.slice (some ⟨g1,0,none⟩) b.steps.length c1),.i z1]] [0] [(b2,b2)] ⟨(Z6.mk b.steps z1),(p+1)+1,rfl,rfl,(by first|exact ⟨Xs.result hg _,by omega,by omega⟩|exact ⟨Xs.kid hg hsk hck hyb.1,by omega,by omega⟩|exact ⟨Xs.del hg,by omega,by omega⟩|exact ⟨Xs.put hg,by omega,by omega⟩|exact ⟨Xs.set hg hsk ⟨by have:=hys.1.1;omega,hys.1.2⟩,by omega,by omega⟩)⟩ (Zg.agg (.cons (Zg.forget _ _) (.cons (lr _) .nil))))
 refine ak (ar (ZY 3 24 (.p rd 0) 26 (.ms g1 0 b.steps.length c1) [1] [b3] (io (.i b.steps.length) (.i b.steps.length) (lr _) (ic [0] (Z04 rd bs (p+1) b.steps.length (ZE:=ob)) ?_))))
 rintro _ _ ⟨Yd,rfl,rfl,X0⟩
 have hkn:Yd=kk:=by have:=X0.2;omega
 refine Z1 1 6 (.i Yd) (ie (aq (ar (ZY 3 30 (.ms g1 0 b.steps.length c1) 31 (.i Yd) [1] [b3] (Zq (W4 g1 b.steps.length c1 Yd 5 (Yd:Int)) (Z1 1 33 (.val (.pointer (some ⟨g1,Yd*5+4,none⟩))) (VI (WY 2 g1 b.steps.length c1 5 (Yd*5+4) (Wz b kk u1.v b.steps.length) [.h u1] 42 (.h u1) (by rw [hkn];exact E4 hsk)) (Zq (Z2h 5 sk.kids.length u1 2 (Ux b kk b.steps.length) (by rw [Gy hsk];exact Co _)) (Z1 2 37 (.b (decide ((sk.kids.length:Int)>0))) (ib (b:=(decide ((sk.kids.length:Int)>0))) 37 (fun Zz=>?_) (fun Zz=>?_)))))))))))
 ·have XB:(sk.kids.length:Int)>0:=(dq).1 Zz
  refine Z5 1 (.n 38 (.p rd 0) (.k (.d .r))) (ic [0] (XP rd bs ((p+1)+1) 3 (ZE:=ob)) ?_)
  rintro _ _ ⟨k2,rfl,rfl,Wk⟩
  refine Z1 2 41 (.b (decide (k2>0))) (ie (ZM (k2>0) (fun Zk=>?_) (fun Zk=>?_)))
  ·refine ar (XK (Hr 5 u1.v 2 (Ux b kk b.steps.length) (Zl (YH sk.kids)) (Gy hsk)) (DR 0 sk.kids.length (v:=u1) (Co _) om (fun g2 c2 he2=>?_)))
   subst he2
   refine iR 4 [(0,.p rd 0),(4,.p b2 0),(5,.p b3 0),(6,.i Yd),(42,.p rd 0),(44,.ms g1 0 b.steps.length c1),(45,.i Yd)] [2] [b3] (Zq (W4 g1 b.steps.length c1 Yd 5 (Yd:Int)) (Z1 1 47 (.val (.pointer (some ⟨g1,Yd*5+4,none⟩))) (VI (WY 3 g1 b.steps.length c1 5 (Yd*5+4) (Wz b kk (.slice (some ⟨g2,0,none⟩) sk.kids.length c2) b.steps.length) [.ms g2 0 sk.kids.length c2] 42 (.ms g2 0 sk.kids.length c2) (by rw [hkn];exact E4 hsk)) (io (.i sk.kids.length) (.i sk.kids.length) (lr _) (ic [1] (KH rd bs (((p+1)+1)+1) sk.kids.length (ZE:=ob)) ?_)))))
   rintro _ _ ⟨YC,rfl,rfl,WJ⟩
   obtain ⟨ck,hck⟩:=Zr (xs:=sk.kids) (j:=YC) om
   have hckz:=Uy hck
   have hckb:=QY hsk
   have hckg:=Z51 hg hsk hck
   refine Z1 1 7 (.i YC) (ie (aD 20 (Y6 17 20 [0,1,2] (.n 52 (.ms g1 0 b.steps.length c1) (.n 53 (.i Yd) .r)) [2] [b3] (dx 3 (W4 g1 b.steps.length c1 Yd 5 (Yd:Int)) (ZZ 15 16 [4] 55 (.val (.pointer (some ⟨g1,Yd*5+4,none⟩))) (VT 5 (WY 3 g1 b.steps.length c1 5 (Yd*5+4) (Wz b kk (.slice (some ⟨g2,0,none⟩) sk.kids.length c2) b.steps.length) [.ms g2 0 sk.kids.length c2] 42 (.ms g2 0 sk.kids.length c2) (by rw [hkn];exact E4 hsk)) (Y6 9 14 [6,7,8,9,10] (.n 57 (.i YC) (.n 58 (.p rd 0) (.n 60 (.ms g1 0 b.steps.length c1) (.n 61 (.i Yd) .r)))) [2] [b3] (dx 11 (W4 g1 b.steps.length c1 Yd 5 (Yd:Int)) (ZZ 7 8 [12] 63 (.val (.pointer (some ⟨g1,Yd*5+4,none⟩))) (VT 13 (WY 3 g1 b.steps.length c1 5 (Yd*5+4) (Wz b kk (.slice (some ⟨g2,0,none⟩) sk.kids.length c2) b.steps.length) [.ms g2 0 sk.kids.length c2] 42 (.ms g2 0 sk.kids.length c2) (by rw [hkn];exact E4 hsk)) (ZZ 5 6 [14] 65 (.i YC) (dx 15 (W4 g2 sk.kids.length c2 YC 2 (YC:Int)) (VT 16 (WY 1 g2 sk.kids.length c2 2 (YC*2) (Zl (YH sk.kids)) (Yk ck) 30 (Zs ck) (RS hck)) (Z9 17 (dc 17 [0] [2,1] [g1,b3] (ih rd bs ((((p+1)+1)+1)+1) ck ob ob ob ob ob) ?_)))))))))))))))
   rintro _ _ ⟨y1,p21,rfl,rfl,V4⟩
   have hyb:=V4
   refine dx 18 (W4 g2 sk.kids.length c2 YC 2 (YC:Int)) (Z9 19 (AJ 19 1 [] [] g2 sk.kids.length c2 2 (YC*2) (Yk y1) (Zl (YH sk.kids)) (Zl (YH (sk.kids.set YC y1))) (by rw [Co];simp only [YS,Xm];omega) (RU y1 om) (de (ar (XK (O5 0 2 b kk sk (sk.kids.set YC y1) (.slice (some ⟨g2,0,none⟩) sk.kids.length c2) (.slice (some ⟨g1,0,none⟩) b.steps.length c1) hsk) (XK (UE 0 2 0 (.slice (some ⟨g1,0,none⟩) b.steps.length c1) 5 b3 (Zv (b.steps.set kk (Z4.mk sk.op sk.num sk.into sk.args (sk.kids.set YC y1)))) [.ms g1 0 b.steps.length c1,.i b.result] (X8 _) rfl) (Yl 1 70 (.agg [ZX (b.steps.set kk (Z4.mk sk.op sk.num sk.into sk.args (sk.kids.set YC y1))) (.slice (some ⟨g1,0,none⟩) b.steps.length c1),.i b.result]) [0] [b3] (ZF 4 b2 [ZX (b.steps.set kk (Z4.mk sk.op sk.num sk.into sk.args (sk.kids.set YC y1))) (.slice (some ⟨g1,0,none⟩) b.steps.length c1),.i b.result] (ie ?_)))))))))
   exact Zb (r3 [4] [.agg [ZX (b.steps.set kk (Z4.mk sk.op sk.num sk.into sk.args (sk.kids.set YC y1))) (.slice (some ⟨g1,0,none⟩) b.steps.length c1),.i b.result]] [0] [(b2,b2)] ⟨(Z6.mk (b.steps.set kk (Z4.mk sk.op sk.num sk.into sk.args (sk.kids.set YC y1))) b.result),p21,rfl,rfl,(by first|exact ⟨Xs.result hg _,by omega,by omega⟩|exact ⟨Xs.kid hg hsk hck hyb.1,by omega,by omega⟩|exact ⟨Xs.del hg,by omega,by omega⟩|exact ⟨Xs.put hg,by omega,by omega⟩|exact ⟨Xs.set hg hsk ⟨by have:=hys.1.1;omega,hys.1.2⟩,by omega,by omega⟩)⟩ (Zg.agg (.cons (Zg.forget _ _) (.cons (lr _) .nil))))
  refine ak (aq (ar (XK (Hq 5 2 b kk sk u1.v (.slice (some ⟨g1,0,none⟩) b.steps.length c1) hsk) (Z1 1 71 (.p rd 0) (ic [2] (XP rd bs (((p+1)+1)+1) 4 (ZE:=ob)) ?_)))))
  rintro _ _ ⟨k3,rfl,rfl,Ug⟩
  refine ie (ab 0 (ar (Z1 2 84 (.b (k3==0)) (ie (ac (k3==0) Zh (fun ZG=>?_) (fun ZG=>?_))))))
  ·refine aE 12 (Y6 9 12 [0,1,2] (.n 87 (.ms g1 0 b.steps.length c1) (.n 88 (.i Yd) .r)) [3] [b3] (dx 3 (Gt 1 g1 b.steps.length c1 Yd 5 (Zl (Zv b.steps))) (Y6 5 8 [4,5,6] (.n 91 (.ms g1 0 b.steps.length c1) (.n 92 (.i Yd) .r)) [3] [b3] (da 7 (((Yd+1:Nat):Int)) (((Yd:Int))+(1)) (dx 8 (LI 1 g1 b.steps.length c1 (Yd+1) 5 (Zl (Zv b.steps))) (Z9 9 (Iq 9 1 [] [] g1 b.steps.length c1 Yd (Yd+1) 5 (Zl (Zv b.steps)) (Vv _) (ZZ 1 2 [10] 96 (.p b3 0) (Z9 11 (YL 11 3 [] [] b3 [.ms g1 0 (Yd+(b.steps.length-(Yd+1))) c1,.i b.result] (de (ar (XK (Hr 1 (.slice (some ⟨g1,0,none⟩) (Yd+(b.steps.length-(Yd+1))) c1) 5 (((Zl (Zv b.steps)).take (Yd*5))++((Zl (Zv b.steps)).drop ((Yd+1)*5))) (Zl (Zv (b.steps.take kk++b.steps.drop (kk+1)))) (by rw [hkn];exact IQ hkl)) (XK (UE 0 0 0 (.slice (some ⟨g1,0,none⟩) (Yd+(b.steps.length-(Yd+1))) c1) 5 b3 (Zv (b.steps.take kk++b.steps.drop (kk+1))) [.ms g1 0 (Yd+(b.steps.length-(Yd+1))) c1,.i b.result] (X8 _) rfl) (Yl 1 108 (.agg [ZX (b.steps.take kk++b.steps.drop (kk+1)) (.slice (some ⟨g1,0,none⟩) (Yd+(b.steps.length-(Yd+1))) c1),.i b.result]) [0] [b3] (ZF 4 b2 [ZX (b.steps.take kk++b.steps.drop (kk+1)) (.slice (some ⟨g1,0,none⟩) (Yd+(b.steps.length-(Yd+1))) c1),.i b.result] (ie ?_)))))))))))))))))
   exact Zb (r3 [3] [.agg [ZX (b.steps.take kk++b.steps.drop (kk+1)) (.slice (some ⟨g1,0,none⟩) (Yd+(b.steps.length-(Yd+1))) c1),.i b.result]] [0] [(b2,b2)] ⟨(Z6.mk (b.steps.take kk++b.steps.drop (kk+1)) b.result),(((p+1)+1)+1)+1,rfl,rfl,(by first|exact ⟨Xs.result hg _,by omega,by omega⟩|exact ⟨Xs.kid hg hsk hck hyb.1,by omega,by omega⟩|exact ⟨Xs.del hg,by omega,by omega⟩|exact ⟨Xs.put hg,by omega,by omega⟩|exact ⟨Xs.set hg hsk ⟨by have:=hys.1.1;omega,hys.1.2⟩,by omega,by omega⟩)⟩ (Zg.agg (.cons (Zg.forget _ _) (.cons (lr _) .nil))))
  refine ar (Z1 2 97 (.b (k3==1)) (ie (ac (k3==1) Zh (fun Ym=>?_) (fun Ym=>?_))))
  ·refine aD 10 (Fv (UE 1 2 0 (.slice (some ⟨g1,0,none⟩) b.steps.length c1) 5 b3 (Zv b.steps) [.ms g1 0 b.steps.length c1,.i b.result] (X8 _) rfl) (W2 6 10 [0,1,2,5] [(4,.p b2 0),(99,.agg [ZX b.steps (.slice (some ⟨g1,0,none⟩) b.steps.length c1),.i b.result]),(100,.i Yd),(101,.p rd 0),(104,.p rd 0)] [0] [b3] (Z9 3 (dL 3 [0] [b3] (Z8 [14,15,15,16,17]) 5 1 ?_))))
   intro v3
   refine Y0 5 5 [] (.n 102 (Z0 [14,15,15,16,17]) (.p .r)) (Z9 4 (dc 4 [3] [0] [b3] (Vw rd bs ((((p+1)+1)+1)+1) [14,15,15,16,17] (ZE:=ob)) ?_))
   rintro _ _ ⟨z2,rfl,rfl,UM⟩
   refine Z9 6 (dc 6 [0] [0] [b3] (XP rd bs (((((p+1)+1)+1)+1)+1) 4 (ZE:=ob)) ?_)
   rintro _ _ ⟨k4,rfl,rfl,Uw⟩
   refine Z9 7 (Yv 7 [] [1] [b3] (KU z2 k4) (Y0 2 2 [] (.n 99 (Zs b) (.q 106 (.p (.p (.d (.k (.d (.k .z)))))))) (Z9 8 (Yv 8 [] [] [] (DL b Yd (Zj z2 k4)) (Z9 9 (YL 9 5 [] [] b2 (Yk (Z6.mk (Wc b.steps Yd (Zj z2 k4)) b.result)) (de ?_)))))))
   exact Zb (r3 [1] [Zs (Z6.mk (Wc b.steps Yd (Zj z2 k4)) b.result)] [0] [(b2,b2)] ⟨(Z6.mk (Wc b.steps Yd (Zj z2 k4)) b.result),(((((p+1)+1)+1)+1)+1)+1,rfl,rfl,(by first|exact ⟨Xs.result hg _,by omega,by omega⟩|exact ⟨Xs.kid hg hsk hck hyb.1,by omega,by omega⟩|exact ⟨Xs.del hg,by omega,by omega⟩|exact ⟨Xs.put hg,by omega,by omega⟩|exact ⟨Xs.set hg hsk ⟨by have:=hys.1.1;omega,hys.1.2⟩,by omega,by omega⟩)⟩ (lr _))
  refine aE 12 (Y6 5 12 [0,1,2,3,4,5,6] (.n 74 (.ms g1 0 b.steps.length c1) (.n 75 (.i Yd) (.n 76 (.p rd 0) (.n 78 (.ms g1 0 b.steps.length c1) (.n 79 (.i Yd) .r))))) [3,3] [b3,b3] (dx 7 (W4 g1 b.steps.length c1 Yd 5 (Yd:Int)) (VT 8 (WY 1 g1 b.steps.length c1 5 (Yd*5) (Zl (Zv b.steps)) (Yg sk) 44 (Y3 sk) (by rw [hkn];exact FZ hsk)) (Z9 9 (dc 9 [0] [1] [b3] (Lk rd bs ((((p+1)+1)+1)+1) sk (ZE:=ob)) ?_)))))
  rintro _ _ ⟨y2,p22,rfl,rfl,Tu⟩
  have hys:=Tu
  refine dx 10 (W4 g1 b.steps.length c1 Yd 5 (Yd:Int)) (Z9 11 (AJ 11 1 [] [] g1 b.steps.length c1 5 (Yd*5) (Yg y2) (Zl (Zv b.steps)) (Zl (Zv (b.steps.set kk y2))) (by rw [TZ];simp only [YS,Xm];omega) (by rw [hkn];exact DG hsk) (de (ar (XK (UE 0 2 0 (.slice (some ⟨g1,0,none⟩) b.steps.length c1) 5 b3 (Zv (b.steps.set kk y2)) [.ms g1 0 b.steps.length c1,.i b.result] (X8 _) rfl) (Yl 1 108 (.agg [ZX (b.steps.set kk y2) (.slice (some ⟨g1,0,none⟩) b.steps.length c1),.i b.result]) [0] [b3] (ZF 4 b2 [ZX (b.steps.set kk y2) (.slice (some ⟨g1,0,none⟩) b.steps.length c1),.i b.result] (ie ?_))))))))
  exact Zb (r3 [3] [.agg [ZX (b.steps.set kk y2) (.slice (some ⟨g1,0,none⟩) b.steps.length c1),.i b.result]] [0] [(b2,b2)] ⟨(Z6.mk (b.steps.set kk y2) b.result),p22,rfl,rfl,(by first|exact ⟨Xs.result hg _,by omega,by omega⟩|exact ⟨Xs.kid hg hsk hck hyb.1,by omega,by omega⟩|exact ⟨Xs.del hg,by omega,by omega⟩|exact ⟨Xs.put hg,by omega,by omega⟩|exact ⟨Xs.set hg hsk ⟨by have:=hys.1.1;omega,hys.1.2⟩,by omega,by omega⟩)⟩ (Zg.agg (.cons (Zg.forget _ _) (.cons (lr _) .nil))))
 have Tc:¬((sk.kids.length:Int)>0):=ZI dq Zz
 refine Z5 4 (.n 41 (.b false) (.k (.d .r))) (ie (WT (ak (aq (ar (XK (Hq 5 2 b kk sk u1.v (.slice (some ⟨g1,0,none⟩) b.steps.length c1) hsk) (Z1 1 71 (.p rd 0) (ic [2] (XP rd bs ((p+1)+1) 4 (ZE:=ob)) ?_))))))))
 rintro _ _ ⟨k5,rfl,rfl,QJ⟩
 refine ie (ab 0 (ar (Z1 2 84 (.b (k5==0)) (ie (ac (k5==0) Zh (fun Xi=>?_) (fun Xi=>?_))))))
 ·refine aE 12 (Y6 9 12 [0,1,2] (.n 87 (.ms g1 0 b.steps.length c1) (.n 88 (.i Yd) .r)) [3] [b3] (dx 3 (Gt 1 g1 b.steps.length c1 Yd 5 (Zl (Zv b.steps))) (Y6 5 8 [4,5,6] (.n 91 (.ms g1 0 b.steps.length c1) (.n 92 (.i Yd) .r)) [3] [b3] (da 7 (((Yd+1:Nat):Int)) (((Yd:Int))+(1)) (dx 8 (LI 1 g1 b.steps.length c1 (Yd+1) 5 (Zl (Zv b.steps))) (Z9 9 (Iq 9 1 [] [] g1 b.steps.length c1 Yd (Yd+1) 5 (Zl (Zv b.steps)) (Vv _) (ZZ 1 2 [10] 96 (.p b3 0) (Z9 11 (YL 11 3 [] [] b3 [.ms g1 0 (Yd+(b.steps.length-(Yd+1))) c1,.i b.result] (de (ar (XK (Hr 1 (.slice (some ⟨g1,0,none⟩) (Yd+(b.steps.length-(Yd+1))) c1) 5 (((Zl (Zv b.steps)).take (Yd*5))++((Zl (Zv b.steps)).drop ((Yd+1)*5))) (Zl (Zv (b.steps.take kk++b.steps.drop (kk+1)))) (by rw [hkn];exact IQ hkl)) (XK (UE 0 0 0 (.slice (some ⟨g1,0,none⟩) (Yd+(b.steps.length-(Yd+1))) c1) 5 b3 (Zv (b.steps.take kk++b.steps.drop (kk+1))) [.ms g1 0 (Yd+(b.steps.length-(Yd+1))) c1,.i b.result] (X8 _) rfl) (Yl 1 108 (.agg [ZX (b.steps.take kk++b.steps.drop (kk+1)) (.slice (some ⟨g1,0,none⟩) (Yd+(b.steps.length-(Yd+1))) c1),.i b.result]) [0] [b3] (ZF 4 b2 [ZX (b.steps.take kk++b.steps.drop (kk+1)) (.slice (some ⟨g1,0,none⟩) (Yd+(b.steps.length-(Yd+1))) c1),.i b.result] (ie ?_)))))))))))))))))
  exact Zb (r3 [3] [.agg [ZX (b.steps.take kk++b.steps.drop (kk+1)) (.slice (some ⟨g1,0,none⟩) (Yd+(b.steps.length-(Yd+1))) c1),.i b.result]] [0] [(b2,b2)] ⟨(Z6.mk (b.steps.take kk++b.steps.drop (kk+1)) b.result),((p+1)+1)+1,rfl,rfl,(by first|exact ⟨Xs.result hg _,by omega,by omega⟩|exact ⟨Xs.kid hg hsk hck hyb.1,by omega,by omega⟩|exact ⟨Xs.del hg,by omega,by omega⟩|exact ⟨Xs.put hg,by omega,by omega⟩|exact ⟨Xs.set hg hsk ⟨by have:=hys.1.1;omega,hys.1.2⟩,by omega,by omega⟩)⟩ (Zg.agg (.cons (Zg.forget _ _) (.cons (lr _) .nil))))
 refine ar (Z1 2 97 (.b (k5==1)) (ie (ac (k5==1) Zh (fun Xj=>?_) (fun Xj=>?_))))
 ·refine aD 10 (Fv (UE 1 2 0 (.slice (some ⟨g1,0,none⟩) b.steps.length c1) 5 b3 (Zv b.steps) [.ms g1 0 b.steps.length c1,.i b.result] (X8 _) rfl) (W2 6 10 [0,1,2,5] [(4,.p b2 0),(99,.agg [ZX b.steps (.slice (some ⟨g1,0,none⟩) b.steps.length c1),.i b.result]),(100,.i Yd),(101,.p rd 0),(104,.p rd 0)] [0] [b3] (Z9 3 (dL 3 [0] [b3] (Z8 [14,15,15,16,17]) 5 1 ?_))))
  intro v4
  refine Y0 5 5 [] (.n 102 (Z0 [14,15,15,16,17]) (.p .r)) (Z9 4 (dc 4 [3] [0] [b3] (Vw rd bs (((p+1)+1)+1) [14,15,15,16,17] (ZE:=ob)) ?_))
  rintro _ _ ⟨z3,rfl,rfl,QK⟩
  refine Z9 6 (dc 6 [0] [0] [b3] (XP rd bs ((((p+1)+1)+1)+1) 4 (ZE:=ob)) ?_)
  rintro _ _ ⟨k6,rfl,rfl,Jm⟩
  refine Z9 7 (Yv 7 [] [1] [b3] (KU z3 k6) (Y0 2 2 [] (.n 99 (Zs b) (.q 106 (.p (.p (.d (.k (.d (.k .z)))))))) (Z9 8 (Yv 8 [] [] [] (DL b Yd (Zj z3 k6)) (Z9 9 (YL 9 5 [] [] b2 (Yk (Z6.mk (Wc b.steps Yd (Zj z3 k6)) b.result)) (de ?_)))))))
  exact Zb (r3 [1] [Zs (Z6.mk (Wc b.steps Yd (Zj z3 k6)) b.result)] [0] [(b2,b2)] ⟨(Z6.mk (Wc b.steps Yd (Zj z3 k6)) b.result),((((p+1)+1)+1)+1)+1,rfl,rfl,(by first|exact ⟨Xs.result hg _,by omega,by omega⟩|exact ⟨Xs.kid hg hsk hck hyb.1,by omega,by omega⟩|exact ⟨Xs.del hg,by omega,by omega⟩|exact ⟨Xs.put hg,by omega,by omega⟩|exact ⟨Xs.set hg hsk ⟨by have:=hys.1.1;omega,hys.1.2⟩,by omega,by omega⟩)⟩ (lr _))
 refine aE 12 (Y6 5 12 [0,1,2,3,4,5,6] (.n 74 (.ms g1 0 b.steps.length c1) (.n 75 (.i Yd) (.n 76 (.p rd 0) (.n 78 (.ms g1 0 b.steps.length c1) (.n 79 (.i Yd) .r))))) [3,3] [b3,b3] (dx 7 (W4 g1 b.steps.length c1 Yd 5 (Yd:Int)) (VT 8 (WY 1 g1 b.steps.length c1 5 (Yd*5) (Zl (Zv b.steps)) (Yg sk) 44 (Y3 sk) (by rw [hkn];exact FZ hsk)) (Z9 9 (dc 9 [0] [1] [b3] (Lk rd bs (((p+1)+1)+1) sk (ZE:=ob)) ?_)))))
 rintro _ _ ⟨y3,p23,rfl,rfl,QL⟩
 have hys:=QL
 refine dx 10 (W4 g1 b.steps.length c1 Yd 5 (Yd:Int)) (Z9 11 (AJ 11 1 [] [] g1 b.steps.length c1 5 (Yd*5) (Yg y3) (Zl (Zv b.steps)) (Zl (Zv (b.steps.set kk y3))) (by rw [TZ];simp only [YS,Xm];omega) (by rw [hkn];exact DG hsk) (de (ar (XK (UE 0 2 0 (.slice (some ⟨g1,0,none⟩) b.steps.length c1) 5 b3 (Zv (b.steps.set kk y3)) [.ms g1 0 b.steps.length c1,.i b.result] (X8 _) rfl) (Yl 1 108 (.agg [ZX (b.steps.set kk y3) (.slice (some ⟨g1,0,none⟩) b.steps.length c1),.i b.result]) [0] [b3] (ZF 4 b2 [ZX (b.steps.set kk y3) (.slice (some ⟨g1,0,none⟩) b.steps.length c1),.i b.result] (ie ?_))))))))
 exact Zb (r3 [3] [.agg [ZX (b.steps.set kk y3) (.slice (some ⟨g1,0,none⟩) b.steps.length c1),.i b.result]] [0] [(b2,b2)] ⟨(Z6.mk (b.steps.set kk y3) b.result),p23,rfl,rfl,(by first|exact ⟨Xs.result hg _,by omega,by omega⟩|exact ⟨Xs.kid hg hsk hck hyb.1,by omega,by omega⟩|exact ⟨Xs.del hg,by omega,by omega⟩|exact ⟨Xs.put hg,by omega,by omega⟩|exact ⟨Xs.set hg hsk ⟨by have:=hys.1.1;omega,hys.1.2⟩,by omega,by omega⟩)⟩ (Zg.agg (.cons (Zg.forget _ _) (.cons (lr _) .nil))))
theorem Z0a (rd:Nat) (bs:List Int) (p:Nat) (b:Z6) (ZE:∀z∈bs,0<=z/\z<=255) (hp:p+10*b.sz<=1000000000:=by exact ob) (hz:b.sz<=20000000:=by exact ob) (hg:b.rng:=by exact ob):Zi Tryz.prog 53 [.p rd 0,Zs b] [Yn rd bs p] (fun r h=>∃(y:Z6) (p2:Nat),r=Zs y/\h=[Yn rd bs p2]/\Xs b y/\p<=p2/\p2<=p+(10*b.sz)):=by
 have key:∀k:Nat,∀(rd:Nat) (bs:List Int) (p:Nat) (b2:Z6),(∀z∈bs,0<=z/\z<=255)->(p+(10*b2.sz)<=1000000000)->(b2.sz<=20000000)->(b2.rng)->(b2.sz<k)->Zi Tryz.prog 53 [.p rd 0,Zs b2] [Yn rd bs p] (fun r h=>∃(y:Z6) (p2:Nat),r=Zs y/\h=[Yn rd bs p2]/\Xs b2 y/\p<=p2/\p2<=p+(10*b2.sz)):=by
  intro k
  induction k with
  | zero=>intro rd bs p b2 h1 h2 h3 h4 h5;omega
  | succ k ih=>
   intro rd bs p b2 h1 h2 h3 h4 h5
   by_cases h0:b2.steps.length=0
   ·exact Z0b rd bs p b2 h1 h2 h3 h4 h0
   ·exact Z0c rd bs p b2 h1 h2 h3 h4 om fun rd bs p b3 q1 q2 q3 q4 q5=>ih rd bs p b3 q1 q2 q3 q4 om
 exact key (b.sz+1) rd bs p b ZE hp hz hg om
theorem Gc (rd:Nat) (bs:List Int) (p:Nat) (n:Zx) (often:Nat) (q:Nat) (l:Nat) (ZE:∀z∈bs,0<=z/\z<=255) (hp:p+(10*q+20)<=1000000000:=by exact ob) (hzn:ZS n q l:=by exact ob) (hq:q<=9999000:=by exact ob) (hl:l<=100:=by exact ob) (ho:0<often:=by exact ob):Zi Tryz.prog 61 [.p rd 0,ZD n,.i often] [Yn rd bs p] (fun r h=>∃(n2:Zx) (p2:Nat),r=ZD n2/\h=[Yn rd bs p2]/\ZS n2 (q+2) (l+1)/\p<=p2/\p2<=p+(10*q+20)):=by
 have hnl:=hzn.len
 refine ZK 64 Tryz.func61 (ar (iA (ZU n) ?_))
 intro b1
 refine iA [nl,nl] ?_
 intro b2
 refine ie (aq (ar (ir 2 [(0,.p rd 0),(4,.p b1 0),(6,.p b2 0),(9,.p rd 0),(10,.i often)] (ic [2] (KH rd bs p often (ZE:=ob)) ?_))))
 rintro _ _ ⟨Yd,rfl,rfl,ZP⟩
 refine Z1 1 12 (.b (decide ((Yd:Int)>0))) (ie (ZM ((Yd:Int)>0) (fun Ze=>?_) (fun Ze=>?_)))
 ·refine ar (Yl 1 13 (ZD n) [2] [b1] (ZF 1 b2 (ZU n) (ie ?_)))
  exact Zb (r3 [1] [ZD n] [0] [(b2,b2)] ⟨n,p+1,rfl,rfl,(by first|exact ⟨hzn.le om om,by omega,by omega⟩|exact ⟨hzn.set hx1k om om om om hz1.2.2.2,by omega,by omega⟩|exact ⟨(hzn.le om om).ds had.1,by omega,by omega⟩|exact ⟨hzn.set hx2k om om om (by have:=hsb.1.1;omega) hsb.1.2,by omega,by omega⟩)⟩ (lr _))
 refine ak (ar (ZY 3 14 (.p rd 0) 16 (YZ n.routines) [2] [b1] (iw (VV n.routines) (ic [0] (KH rd bs (p+1) n.routines.length (ZE:=ob)) ?_))))
 rintro _ _ ⟨YC,rfl,rfl,Y1⟩
 refine Z1 1 7 (.i YC) (ie (aq (ar (Z1 1 19 (.p rd 0) (ic [0] (XP rd bs ((p+1)+1) 8 (ZE:=ob)) ?_)))))
 rintro _ _ ⟨k1,rfl,rfl,Yy⟩
 refine ie (ab 0 (ar (Z1 2 21 (.b (k1==0)) (ie (ac (k1==0) Zh (fun Zk=>?_) (fun Zk=>?_))))))
 ·refine aD 11 (Y6 6 11 [0,1,2,3,4] (.n 23 (ZD n) (.n 24 (.i YC) (.n 26 (YZ n.routines) (.n 27 (.i YC) .r)))) [2,2] [b1,b1] ?_)
  obtain ⟨x1,Z3⟩:=Zr (xs:=n.routines) (j:=YC) om
  have hx1k:=Z3
  have hz1:=hzn.rt _ (Y7 Z3)
  refine dx 5 (Zm none (YC:Int) 5 (WB Z3)) (ZZ 3 5 [6,7] 30 (Zs x1.body) (dK (fun F h=>∃(g1:Nat) (c1:Nat) (b3:Nat),F=[(0,.p rd 0),(6,.p b2 0),(7,.i YC),(8,.p b3 0)]/\h=[.obj b3 [Zd n.decls,.ms g1 0 n.routines.length c1],.row (.slice (some ⟨g1,0,none⟩) n.routines.length c1) 5 (Zl (YN (n.routines.set YC (Yb.mk x1.params x1.lent x1.result x1.body)))),.obj rd [X9 bs,.i ((((p+1)+1)+1:Nat):Int)],.obj b2 [nl,nl],.obj b1 (ZU n)]) ?_ ?_))
  ·refine Vj 8 9 ?_ ?_
   ·refine dc 8 [] [] [] (Gd n YC x1.body x1 (hr:=Z3)) ?_
    rintro _ _ ⟨g1,c1,rfl,rfl⟩
    refine Z9 9 (dA 9 [] [] [nl,nl] ?_)
    intro b3
    refine Z9 10 (YL 10 0 [] [] b3 [Zd n.decls,.ms g1 0 n.routines.length c1] (de ?_))
    exact ZW ⟨g1,c1,b3,rfl,rfl⟩ (ZT 5 fl)
   refine dA 9 [2,2] [b1,b1] [nl,nl] ?_
   intro b4
   refine Z9 8 (dc 8 [] [] [] (Gd n YC x1.body x1 (hr:=Z3)) ?_)
   rintro _ _ ⟨g2,c2,rfl,rfl⟩
   refine Z9 10 (YL 10 1 [] [] b4 [Zd n.decls,.ms g2 0 n.routines.length c2] (de ?_))
   exact ZW ⟨g2,c2,b4,rfl,rfl⟩ (ZT 5 fl)
  rintro F h ⟨g1,c1,b3,rfl,rfl⟩
  refine aD 14 (W2 7 14 [0,1,2,3,4,5,6] [(6,.p b2 0),(8,.p b3 0),(33,.ms g1 0 n.routines.length c1),(34,.i YC),(35,.p rd 0),(37,.ms g1 0 n.routines.length c1),(38,.i YC)] [0,0] [b3,b3] (dx 7 (W4 g1 n.routines.length c1 YC 5 (YC:Int)) (ZZ 5 6 [8] 40 (.val (.pointer (some ⟨g1,YC*5+1,none⟩))) (VT 9 (WY 1 g1 n.routines.length c1 5 (YC*5+1) (Zl (YN (n.routines.set YC (Yb.mk x1.params x1.lent x1.result x1.body)))) [Z0 x1.lent] 27 (Z0 x1.lent) (RX om _)) (Z9 10 (dc 10 [2] [0] [b3] (Z0d rd bs (((p+1)+1)+1) x1.lent (ZE:=ob)) ?_))))))
  rintro _ _ ⟨zs1,p21,rfl,rfl,YK⟩
  have hsi:=YK
  refine dx 11 (W4 g1 n.routines.length c1 YC 5 (YC:Int)) (ZZ 1 2 [12] 44 (.val (.pointer (some ⟨g1,YC*5+1,none⟩))) (Z9 13 (AJ 13 2 [] [] g1 n.routines.length c1 5 (YC*5+1) [Z0 zs1] (Zl (YN (n.routines.set YC (Yb.mk x1.params x1.lent x1.result x1.body)))) (Zl (YN (n.routines.set YC (Yb.mk x1.params zs1 x1.result x1.body)))) (by rw [DE,UU];simp only [YS,Xm];omega) (RZ om _ _) (de (ar (XK (UE 0 1 1 (.slice (some ⟨g1,0,none⟩) n.routines.length c1) 5 b3 (YN (n.routines.set YC (Yb.mk x1.params zs1 x1.result x1.body))) [Zd n.decls,.ms g1 0 n.routines.length c1] (Ue _) rfl) (Yl 1 45 (.agg [Zd n.decls,Xg (n.routines.set YC (Yb.mk x1.params zs1 x1.result x1.body)) (.slice (some ⟨g1,0,none⟩) n.routines.length c1)]) [0] [b3] (ZF 3 b2 [Zd n.decls,Xg (n.routines.set YC (Yb.mk x1.params zs1 x1.result x1.body)) (.slice (some ⟨g1,0,none⟩) n.routines.length c1)] (ie ?_)))))))))
  exact Zb (r3 [3] [.agg [Zd n.decls,Xg (n.routines.set YC (Yb.mk x1.params zs1 x1.result x1.body)) (.slice (some ⟨g1,0,none⟩) n.routines.length c1)]] [0] [(b2,b2)] ⟨(Zx.mk n.decls (n.routines.set YC (Yb.mk x1.params zs1 x1.result x1.body))),p21,rfl,rfl,(by first|exact ⟨hzn.le om om,by omega,by omega⟩|exact ⟨hzn.set hx1k om om om om hz1.2.2.2,by omega,by omega⟩|exact ⟨(hzn.le om om).ds had.1,by omega,by omega⟩|exact ⟨hzn.set hx2k om om om (by have:=hsb.1.1;omega) hsb.1.2,by omega,by omega⟩)⟩ (Zg.agg (.cons (lr _) (.cons (Zg.forget _ _) .nil))))
 refine ar (Z1 2 46 (.b (k1==1)) (ie (ac (k1==1) Zh (fun ZG=>?_) (fun ZG=>?_))))
 ·refine aD 6 (Y6 3 6 [0,2,3] (.n 48 (.p rd 0) (.n 51 (YZ n.routines) .r)) [2] [b1] (Z9 1 (dc 1 [0] [1] [b1] (S7 rd bs (((p+1)+1)+1) (ZE:=ob)) ?_)))
  rintro _ _ ⟨dz1,p22,rfl,rfl,X0⟩
  have had:=X0
  refine ZZ 1 2 [4] 52 (.agg [Zd dz1,YZ n.routines]) (Z9 5 (YL 5 1 [] [] b2 [Zd dz1,YZ n.routines] (de ?_)))
  exact Zb (r3 [1] [.agg [Zd dz1,YZ n.routines]] [0] [(b2,b2)] ⟨(Zx.mk dz1 n.routines),p22,rfl,rfl,(by first|exact ⟨hzn.le om om,by omega,by omega⟩|exact ⟨hzn.set hx1k om om om om hz1.2.2.2,by omega,by omega⟩|exact ⟨(hzn.le om om).ds had.1,by omega,by omega⟩|exact ⟨hzn.set hx2k om om om (by have:=hsb.1.1;omega) hsb.1.2,by omega,by omega⟩)⟩ (lr _))
 refine ak (aD 12 (W2 6 12 [0,1,2,3,4,5] [(6,.p b2 0),(53,ZD n),(54,.i YC),(55,.p rd 0),(57,YZ n.routines),(58,.i YC)] [2,2] [b1,b1] ?_))
 obtain ⟨x2,Zt⟩:=Zr (xs:=n.routines) (j:=YC) om
 have hx2k:=Zt
 have hz2:=hzn.rt _ (Y7 Zt)
 refine dx 6 (Zm none (YC:Int) 5 (WB Zt)) (ZZ 3 5 [7,8] 61 (Zs x2.body) (Z9 9 (dc 9 [0] [1] [b1] (Z0a rd bs (((p+1)+1)+1) x2.body (ZE:=ob) (hg:=hz2.2.2.2)) ?_)))
 rintro _ _ ⟨y1,p23,rfl,rfl,XB⟩
 have hsb:=XB
 refine Z9 10 (Yv 10 [] [] [] (Ll n YC y1 x2 (hr:=Zt)) (Z9 11 (YL 11 1 [] [] b2 (ZU (withR n YC x2 y1)) (de ?_))))
 exact Zb (r3 [1] [ZD (withR n YC x2 y1)] [0] [(b2,b2)] ⟨(withR n YC x2 y1),p23,rfl,rfl,(by first|exact ⟨hzn.le om om,by omega,by omega⟩|exact ⟨hzn.set hx1k om om om om hz1.2.2.2,by omega,by omega⟩|exact ⟨(hzn.le om om).ds had.1,by omega,by omega⟩|exact ⟨hzn.set hx2k om om om (by have:=hsb.1.1;omega) hsb.1.2,by omega,by omega⟩)⟩ (lr _))
theorem L6 (rd:Nat) (bs:List Int) (p:Nat) (ZE:∀z∈bs,0<=z/\z<=255) (hp:p+73706400<=1000000000:=by exact ob):Zi Tryz.prog 49 [.p rd 0] [Yn rd bs p] (fun r h=>∃(n2:Zx) (p2:Nat),r=ZD n2/\h=[Yn rd bs p2]/\ZS n2 7330632 11/\p<=p2/\p2<=p+73706400):=by
 refine ZK 14 Tryz.func49 (ar (iA [nl,nl] ?_))
 intro b1
 refine ie (aq (ar (ir 1 [(0,.p rd 0),(2,.p b1 0),(3,.p rd 0)] (ic [1] (XP rd bs p 4 (ZE:=ob)) ?_))))
 rintro _ _ ⟨k1,rfl,rfl,ZP⟩
 refine Z1 1 5 (.b (k1==0)) (ie (ac (k1==0) Zh (fun Ze=>?_) (fun Ze=>?_)))
 ·refine ar (Yq 2 6 (.p rd 0) 7 (.p rd 0) (ic [0] (Ga rd bs (p+1) (ZE:=ob)) ?_))
  rintro _ _ ⟨n1,p21,rfl,rfl,Y1⟩
  have hpf:=((FO.zn Y1.1).le (show 181<=7330630 by omega)).zs
  refine ic [0] (Gc rd bs p21 n1 8 7330630 10 (ZE:=ob) (hzn:=(by first|exact hpf|exact hbf))) ?_
  rintro _ _ ⟨n21,p22,rfl,rfl,Yy⟩
  have hsf:=Yy
  refine ZF 1 b1 (ZU n21) (ie ?_)
  exact Zb (r3 [1] [ZD n21] [0] [(b1,b1)] ⟨n21,p22,rfl,rfl,⟨hsf.1,by omega,by omega⟩⟩ (lr _))
 refine ak (ar (Yq 2 10 (.p rd 0) 11 (.p rd 0) (ic [0] (Sa rd bs (p+1) (ZE:=ob)) ?_)))
 rintro _ _ ⟨n2,p23,rfl,rfl,YK⟩
 have hbf:=YK.1.zs
 refine ic [0] (Gc rd bs p23 n2 8 7330630 10 (ZE:=ob) (hzn:=(by first|exact hpf|exact hbf))) ?_
 rintro _ _ ⟨n22,p24,rfl,rfl,X0⟩
 have hsf:=X0
 refine ZF 1 b1 (ZU n22) (ie ?_)
 exact Zb (r3 [1] [ZD n22] [0] [(b1,b1)] ⟨n22,p24,rfl,rfl,⟨hsf.1,by omega,by omega⟩⟩ (lr _))
theorem Pl (xs:List Int) (hl_xs:xs.length<=4294967296:=by exact ob):Zi Tryz.prog 92 [Z0 xs] [] (fun r h=>∃(v:Value),r=Z7 xs v/\h=[.tail v 1]):=by
 refine ZK 8 Tryz.func92 (ar (ir 1 [(0,Z0 xs)] (ie (aq (ar (Z1 1 3 (Z0 xs) (iN (Z8 xs) (fun hz1=>?_) ?_)))))))
 ·have hz1:=Rw hz1
  refine ie (WU (ar (ir 1 [(2,nl)] (ie (Dd 1 ?_)))))
  exact Zb (r2 [0] [nl] ⟨(.slice none 0 0),rfl,rfl⟩ (Zg.slh _ (by first|rfl|(subst_vars;rfl))))
 refine ie (WT (ak (ar (iL (Z8 []) 0 1 ?_))))
 intro v1
 refine Z1 1 6 (Z0 xs) (ip 0 (Z8 xs) (Z8 []) (Z8 xs) v1 none 1 (YF _) (YF _) (XX _) (by simp<;>omega) (by simp [Z8]) ?_)
 intro v2
 refine ir 1 [(2,Z7 xs v2)] (ie ?_)
 exact Zb (r1 [0] ⟨v2,rfl,rfl⟩)
theorem CW (xs:List Int) (ys:List Int) (hl_xs:xs.length<=4294967296:=by exact ob) (hl_ys:ys.length<=4294967296:=by exact ob):Zi Tryz.prog 170 [Z0 xs,Z0 ys] [] (fun r h=>r=.b (decide (xs=ys))/\h=[]):=by
 refine ZK 26 Tryz.func170 (ar (ir 1 [(0,Z0 xs),(1,Z0 ys)] (ie (aq (ar (Z1 1 6 (Z0 xs) (iw (Yh xs) (Z1 1 8 (Z0 ys) (iw (Yh ys) (Z1 1 10 (.b ((xs.length:Int) != (ys.length:Int))) (ie (ac ((xs.length:Int) != (ys.length:Int)) Yi (fun Ze=>?_) (fun Ze=>?_)))))))))))))
 ·refine ar (ir 1 [(4,.b false)] (ie ?_))
  exact Zb (r2 [] [.b false] ⟨rfl,rfl⟩ (lb (eq_comm.1 (decide_eq_false (fun q=>by rw [q] at Ze;exact Ze rfl)))))
 refine ak (aq (ar (Z1 1 11 (Z0 xs) (iw (Yh xs) (Z1 1 13 (.i 0) (ie (ab 0 (al (fun m F h=>∃(k:Nat),(k<=xs.length)/\(xs.take k=ys.take k)/\F=[(0,Z0 xs),(1,Z0 ys),(12,.i xs.length),(13,.i k)]/\h=[]/\m=xs.length-k) _ _ _ ⟨0,ob,ob,rfl,rfl,rfl⟩ (wk [] (fw (fr (Ya fl)))) ?_))))))))
 rintro m F h ⟨k,Yj,Zp,rfl,rfl,rfl⟩
 refine ar (Z1 1 14 (.b (decide ((k:Int)<(xs.length:Int)))) (ie (aq (ZM ((k:Int)<(xs.length:Int)) (fun Zk=>?_) (fun Zk=>?_)))))
 ·refine ak (aq (ab 1 (ar (Z1 2 5 (.i k) (ie (aD 9 (Y0 7 9 [0,1] (.n 16 (Z0 xs) (.n 17 (.i k) .r)) ?_)))))))
  obtain ⟨x1,Z3⟩:=Zr (xs:=xs) (j:=k) om
  refine dx 2 (Zm none (k:Int) 1 (Y4 Z3)) (Y0 3 6 [3,4,5] (.n 19 (.i x1) (.n 20 (Z0 ys) (.n 21 (.i k) .r))) ?_)
  obtain ⟨x2,Zt⟩:=Zr (xs:=ys) (j:=k) om
  refine dx 6 (Zm none (k:Int) 1 (Y4 Zt)) (ZZ 0 2 [7,8] 24 (.b (x1 != x2)) (de (ac (x1 != x2) Yi (fun ZG=>?_) (fun ZG=>?_))))
  ·refine ar (ir 1 [(4,.b false)] (ie ?_))
   exact Zb (r2 [] [.b false] ⟨rfl,rfl⟩ (lb (eq_comm.1 (decide_eq_false (fun q=>by subst q;rw [Z3] at Zt;cases Zt;exact ZG rfl)))))
  refine ak (az (ZL k (ir 1 [(0,Z0 xs),(1,Z0 ys),(12,.i xs.length),(13,.i (k+1:Nat))] (ie ?_))))
  have hdr:=Y8 Z3
  exact ZO ⟨k+1,ob,(by rw [WM Z3,WM Zt,Zp];have hxx:x1=x2:=om;rw [hxx]),rfl,rfl,rfl⟩ (wk [] (fw (fr (ZQ k fl))))
 refine ax 0 (ar (ir 1 [(4,.b true)] (ie ?_)))
 exact Zb (r2 [] [.b true] ⟨rfl,rfl⟩ (lb (eq_comm.1 (decide_eq_true (by rw [Vg om,Vg om] at Zp;exact Zp)))))
theorem Z6b (m:Nat) (hm:m<=4294967296:=by exact ob):Zi Tryz.prog 210 [nl,.i m] [] (fun r h=>∃(v:Hd),r=.h v/\h=[rV v []]):=by
 refine ZK 27 Tryz.func210 (Fb Ao (AC (F':=[(0,.h hN),(1,.i m)]) (h':=[rV hN []]) (wk [0] (fc (x:=nl) (Zg.hd (v:=hN)) ( fc (x:=.i m) (lr _) (IW _)))) (ar (ir 1 [(0,.h hN),(1,.i m)] (ie (aq (ar (Z1 2 6 (.b (decide ((m:Int)<0))) (ie (ZM ((m:Int)<0) (fun Ze=>?_) (fun Ze=>?_)))))))))))
 ·exfalso;omega
 refine ak (aq (ar (Yq 2 8 (.i m) 9 (.h hN) (Zq (Xy.le (NW hN) (li (by rfl))) (Z1 1 11 (.h hN) (Zq (Xy.le (Jw 0 hN []) (li (by rfl))) (ia ((0-0)) ((0)-(0)) (ia ((m:Int)) (((m:Int))-((0-0))) (ir 1 [(0,.h hN),(1,.i m)] (ie (ar (Z1 2 16 (.b (decide ((m:Int)>0))) (ie (ZM ((m:Int)>0) (fun Zk=>?_) (fun Zk=>?_)))))))))))))))
 ·refine az (Yq 2 17 (.h hN) 18 (.h hN) (Zq (Xy.le (NW hN) (li (by rfl))) (Zq (Ap 0 hN [] 0) (Z1 1 21 (.i m) (iZ m ?_)))))
  intro v1
  refine Z1 1 23 (.h hN) (Zq (Xy.le (Jw 1 hN []) (li (by rfl))) (Zq (Ap 0 v1 (List.replicate m 0) 0) (ir 1 [(0,.h (v1.cut 0))] (ie (ar (ir 2 [(4,.h (v1.cut 0))] (ie (Fb (B9 0 0 v1 (List.replicate m 0)) ?_))))))))
  exact Zb (r1 [0] ⟨(v1.cut 0),rfl,rfl⟩ (eq:=(rv (xs:=((List.replicate m 0).take 0)) ob rz)))
 refine ak (ar (ir 2 [(4,.h hN)] (ie ?_)))
 exact Zb (r1 [0] ⟨hN,rfl,rfl⟩)
theorem Z6a (xss:List (List Int)) (hl_xss:xss.length<=4294967296:=by exact ob) (hf:xss.flatten.length<=4294967296:=by exact ob):Zi Tryz.prog 166 [WD xss] [] (fun r h=>∃(v:Value),r=Z7 xss.flatten v/\h=[.tail v 1]):=by
 have hft:=IV xss
 refine ZK 36 Tryz.func166 (ar (ir 1 [(0,WD xss)] (ie (ar (Z1 1 3 (.i 0) (ie (aq (ar (Z1 1 9 (WD xss) (iw (Dw xss) (Z1 1 11 (.i 0) (ie (ab 0 (al (fun m F h=>∃(k:Nat) (q:Nat),(k<=xss.length)/\(q=(xss.take k).flatten.length)/\F=[(0,WD xss),(3,.i q),(9,WD xss),(10,.i xss.length),(11,.i k)]/\h=[]/\m=xss.length-k) _ _ _ ⟨0,0,ob,(by simp),rfl,rfl,rfl⟩ (wk [] (fr (Ya (fw (Ya fl))))) ?_))))))))))))))
 rintro m F h ⟨k,q,Yj,Zp,rfl,rfl,rfl⟩
 refine ar (Z1 1 12 (.b (decide ((k:Int)<(xss.length:Int)))) (ie (aq (ZM ((k:Int)<(xss.length:Int)) (fun Ze=>?_) (fun Ze=>?_)))))
 ·refine ak (aq (ab 1 (ar ?_)))
  obtain ⟨x1,Z3⟩:=Zr (xs:=xss) (j:=k) om
  refine Zq (Zm none (k:Int) 1 (Dv Z3)) (Z1 2 5 (Z0 x1) (ie (ar (Yq 2 15 (.i q) 16 (Z0 x1) (iw (Yh x1) (ia (((q+x1.length:Nat):Int)) (((q:Int))+((x1.length:Int))) (hb:=(by have:=IU Z3;omega)) (Z5 1 (.n 3 (.i (q+x1.length:Nat)) (.p (.p (.d (.d (.d (.p (.d (.k (.d .r)))))))))) (ie (ar (Z1 2 20 (.b (decide (((q+x1.length:Nat):Int)<0))) (ie (ZM (((q+x1.length:Nat):Int)<0) (fun Zk=>?_) (fun Zk=>?_)))))))))))))
  ·exfalso;omega
  refine ak (az (ZL k (Z5 1 (.n 11 (.i (k+1:Nat)) (.p (.d (.w .z)))) (ie ?_))))
  have hdr:=Y8 Z3
  exact ZO ⟨k+1,q+x1.length,ob,(by rw [G0 Z3,Yz,Zp]),rfl,rfl,rfl⟩ (wk [] (fr (fc (x:=.i (q+x1.length:Nat)) li (fw (ZQ k fl)))))
 refine ax 0 (ar (Z1 1 23 (.i q) (ic [] (Z6b q (hm:=(by have:=hft k;omega))) ?_)))
 rintro _ _ ⟨v1,rfl,rfl⟩
 refine Z1 1 6 (.h v1) (ie (aq (ar (Z1 1 25 (WD xss) (iw (Dw xss) (Z1 1 27 (.i 0) (ie (ab 2 (al (fun m F h=>∃(j:Nat) (v:Hd),(j<=xss.length)/\F=[(6,.h v),(25,WD xss),(26,.i xss.length),(27,.i j)]/\h=[rV v ((xss.take j).flatten)]/\m=xss.length-j) _ _ _ ⟨0,v1,ob,rfl,rfl,rfl⟩ (wk [0] (fw (fr (Ya fl))) (e:=(rv (xs:=[]) ob rz))) ?_)))))))))
 rintro m F h ⟨j,v,VS,rfl,rfl,rfl⟩
 refine ar (Z1 1 28 (.b (decide ((j:Int)<(xss.length:Int)))) (ie (aq (ZM ((j:Int)<(xss.length:Int)) (fun ZG=>?_) (fun ZG=>?_)))))
 ·refine ak (aq (ab 3 (ar ?_)))
  obtain ⟨x2,Zt⟩:=Zr (xs:=xss) (j:=j) om
  refine Zq (Zm none (j:Int) 1 (Dv Zt)) (Z1 2 8 (Z0 x2) (ie (az (Yq 2 31 (.h v) 32 (Z0 x2) (KI 0 v ((xss.take j).flatten) x2 none (hbound:=(by have:=IU Zt;omega)) ?_)))))
  intro v2
  refine Z5 1 (.n 6 (.h v2) (.p (.d (.d (.d (.p (.d (.d .r)))))))) (ie (az (ZL j (Z5 1 (.n 27 (.i (j+1:Nat)) (.p (.k (.k (.k .z))))) (ie ?_)))))
  have hdr:=Y8 Zt
  exact ZO ⟨j+1,v2,ob,rfl,rfl,rfl⟩ (wk [0] (fw (fr (ZQ j fl))) (e:=(rv (xs:=((xss.take j).flatten++x2)) (G0 Zt).symm rz)))
 refine ax 2 (ar (ir 2 [(2,.h v)] (ie (Dc 2 0 (v:=v) (xs:=(xss.take j).flatten) ?_))))
 exact Zb (r2 [0] [Z7 ((xss.take j).flatten) v.v] ⟨v.v,rfl,rfl⟩ (Zg.slh _ (Yx Z8 (by rw [Vg om]))))
theorem DX (ds:List Zf) (t:Int) (hl_ds:ds.length<=4294967296:=by exact ob):Zi Tryz.prog 91 [Zd ds,.i t] [] (fun r h=>r=.b (decide (0<=t/\t<=ds.length))/\h=[]):=by
 refine ZK 13 Tryz.func91 (ar (ir 1 [(0,Zd ds),(1,.i t)] (ie (ar (XQ 8 [(12,.b ((decide (t>=0))&&(decide (t<=(ds.length:Int)))))] [] ?_ (fun hj1=>?_))))))
 ·refine ir 1 [(4,.b ((decide (t>=0))&&(decide (t<=(ds.length:Int)))))] (ie ?_)
  exact Zb (r2 [] [.b ((decide (t>=0))&&(decide (t<=(ds.length:Int))))] ⟨rfl,rfl⟩ (lb (by rw [Xl];simp)))
 refine ir 3 [(0,Zd ds),(1,.i t),(7,.b (decide (t>=0)))] (ib (b:=(decide (t>=0))) 7 (fun Za=>?_) (fun Za=>?_))
 ·have ZP:t>=0:=(dq).1 Za
  refine Z5 2 (.n 8 (.i t) (.n 9 (Zd ds) (.k .z))) (iw (VU ds) (ir 2 [(12,.b (decide (t<=(ds.length:Int))))] ?_))
  exact YG (wk [] (Zu (decide (t<=(ds.length:Int))) Za fl)) hj1
 have Y1:¬(t>=0):=ZI dq Za
 refine ir 5 [(12,.b false)] ?_
 exact YG (wk [] (Zu false Za fl)) hj1
theorem Ly (ds:List Zf) (xs:List Int) (hl_ds:ds.length<=4294967296:=by exact ob) (hl_xs:xs.length<=4294967296:=by exact ob):Zi Tryz.prog 55 [Zd ds,Z0 xs] [] (fun r h=>r=.b (XJ ds.length xs)/\h=[]):=by
 refine ZK 18 Tryz.func55 (ar (ir 1 [(0,Zd ds),(1,Z0 xs)] (ie (aq (ar (Z1 1 7 (Z0 xs) (iw (Yh xs) (Z1 1 9 (.i 0) (ie (ab 0 (al (fun m F h=>∃(k:Nat),(k<=xs.length)/\(XJ ds.length (xs.drop k)=XJ ds.length xs)/\F=[(0,Zd ds),(7,Z0 xs),(8,.i xs.length),(9,.i k)]/\h=[]/\m=xs.length-k) _ _ _ ⟨0,ob,ob,rfl,rfl,rfl⟩ (wk [] (fw (fr (Ya fl)))) ?_)))))))))))
 rintro m F h ⟨k,Yj,Zp,rfl,rfl,rfl⟩
 refine ar (Z1 1 10 (.b (decide ((k:Int)<(xs.length:Int)))) (ie (aq (ZM ((k:Int)<(xs.length:Int)) (fun Ze=>?_) (fun Ze=>?_)))))
 ·refine ak (aq (ab 1 (ar ?_)))
  obtain ⟨x1,Z3⟩:=Zr (xs:=xs) (j:=k) om
  refine Zq (Zm none (k:Int) 1 (Y4 Z3)) (Z1 2 6 (.i x1) (ie (ar (Yq 2 13 (Zd ds) 14 (.i x1) (ZA [] (DX ds x1) (Z1 1 16 (.b (!(decide (0<=x1/\x1<=ds.length)))) (ie (ac (!(decide (0<=x1/\x1<=ds.length))) (p:=¬(0<=x1/\x1<=ds.length)) (Yw dq) (fun Zk=>?_) (fun Zk=>?_)))))))))
  ·refine ar (ir 1 [(4,.b false)] (ie ?_))
   rw [Y8 Z3] at Zp
   exact Zb (r2 [] [.b false] ⟨rfl,rfl⟩ (lb (by clear Z3;first|rfl|omega|grind [XJ])))
  refine ak (az (ZL k (Z5 1 (.n 9 (.i (k+1:Nat)) (.p (.d (.p (.d (.d (.d (.p (.d (.k (.k (.k .z)))))))))))) (ie ?_))))
  have hdr:=Y8 Z3
  exact ZO ⟨k+1,ob,(by rw [hdr] at Zp;clear hdr Z3;grind [XJ]),rfl,rfl,rfl⟩ (wk [] (fw (fr (ZQ k fl))))
 refine ax 0 (ar (ir 1 [(4,.b true)] (ie ?_)))
 try rw [Xb (xs:=xs) (k:=k) om] at Zp
 exact Zb (r2 [] [.b true] ⟨rfl,rfl⟩ (lb (by first|rfl|omega|grind [XJ])))
theorem Z1i (ds:List Zf) (hd:Wn ds:=by exact ob):Zi Tryz.prog 211 [Zd ds] [] (fun r h=>r=.i (Ys ds:Nat)/\h=[]):=by
 have hdl:=hd.len
 refine ZK 19 Tryz.func211 (ar (ir 1 [(0,Zd ds)] (ie (ar (Z1 1 3 (.i 0) (ie (aq (ar (Z1 1 6 (Zd ds) (iw (VU ds) (Z1 1 8 (.i 0) (ie (ab 0 (al (fun m F h=>∃(k:Nat),(k<=ds.length)/\F=[(3,.i ((Ys (ds.take k):Nat):Int)),(6,Zd ds),(7,.i ds.length),(8,.i k)]/\h=[]/\m=ds.length-k) _ _ _ ⟨0,ob,rfl,rfl,rfl⟩ (wk [] (Ya (fw (Ya fl)))) ?_))))))))))))))
 rintro m F h ⟨k,Yj,rfl,rfl,rfl⟩
 refine ar (Z1 1 9 (.b (decide ((k:Int)<(ds.length:Int)))) (ie (aq (ZM ((k:Int)<(ds.length:Int)) (fun Ze=>?_) (fun Ze=>?_)))))
 ·refine ak (aq (ab 1 (ar ?_)))
  obtain ⟨x1,Z3⟩:=Zr (xs:=ds) (j:=k) om
  refine Zq (Zm none (k:Int) 3 (Vk Z3)) (Z1 1 11 (Uo x1) (iA [.i 0,.i 0,nl] ?_))
  intro b1
  refine ZF 0 b1 (Wt x1) (ie (az (ZY 3 12 (.i ((Ys (ds.take k):Nat):Int)) 14 (W5 x1.cons) [0] [b1] (iw (Ud x1.cons) (ia (((Ys (ds.take k)+x1.cons.length:Nat):Int)) ((((Ys (ds.take k):Nat):Int))+((x1.cons.length:Int))) (hb:=(by have h1:=hd.cons_at Z3;have h2:=(hd.take k).sum;omega)) (Z5 1 (.n 3 (.i ((Ys (ds.take k)+x1.cons.length:Nat):Int)) (.p (.p (.d (.d (.p (.d (.p (.d (.d .r)))))))))) (ie (az (ZL k (Z5 1 (.n 8 (.i (k+1:Nat)) (.p (.k (.k (.k .z))))) (ie ?_)))))))))))
  have hdr:=Y8 Z3
  exact ZO ⟨k+1,ob,rfl,rfl,rfl⟩ (wk [] (fc (x:=.i ((Ys (ds.take k)+x1.cons.length:Nat):Int)) (li (by rw [WM Z3,Cc];simp [Ys])) (fw (ZQ k fl))))
 refine ax 0 (ar (ir 2 [(2,.i ((Ys (ds.take k):Nat):Int))] (ie ?_)))
 exact Zb (r2 [] [.i ((Ys (ds.take k):Nat):Int)] ⟨rfl,rfl⟩ (li (by rw [Vg om])))
theorem Lz (ds:List Zf) (c:Int) (hd:Wn ds:=by exact ob) (hc:-9223372036854775808<=c/\c<=9223372036854775807:=by exact ob):Zi Tryz.prog 169 [Zd ds,.i c] [] (fun r h=>r=.tup [.i (Xt ds c),.agg [Z0 (ZC ds c)]]/\h=[]):=by
 have hdl:=hd.len
 refine ZK 38 Tryz.func169 (ar (ir 1 [(0,Zd ds),(1,.i c)] (iA [nl] ?_)))
 intro b1
 refine ie (aq (ar (Z1 1 8 (Zd ds) (iw (VU ds) (Z1 1 10 (.i 0) (ie (ab 0 (al (fun m F h=>∃(k:Nat) (cv:Int),(k<=ds.length)/\(JF c (Ys (ds.take k)) cv)/\(Up c (ds.drop k) k (Ys (ds.take k))=Up c ds 0 0)/\F=[(1,.i cv),(5,.p b1 0),(8,Zd ds),(9,.i ds.length),(10,.i k)]/\h=[.obj b1 [nl]]/\m=ds.length-k) _ _ _ ⟨0,c,ob,(.inl (by simp [Ys])),rfl,rfl,rfl,rfl⟩ (wk [0] (fq (Ya fl))) ?_))))))))
 rintro m F h ⟨k,cv,Yj,Zp,Zy,rfl,rfl,rfl⟩
 refine ar (Z1 1 11 (.b (decide ((k:Int)<(ds.length:Int)))) (ie (aq (ZM ((k:Int)<(ds.length:Int)) (fun Ze=>?_) (fun Ze=>?_)))))
 ·refine ak (aq (ab 1 (ar (Z1 1 12 (.i k) ?_))))
  obtain ⟨x1,Z3⟩:=Zr (xs:=ds) (j:=k) om
  refine Zq (Zm none (k:Int) 3 (Vk Z3)) (Z1 1 14 (Uo x1) (iA [.i 0,.i 0,nl] ?_))
  intro b2
  refine Z1 1 6 (.i k) (ZF 0 b2 (Wt x1) (ie (aq (ar (Xo [(1,.i cv),(5,.p b1 0),(6,.i k),(7,.p b2 0),(8,Zd ds),(9,.i ds.length),(10,.i k),(23,.b ((decide (cv>=0))&&(decide (cv<(x1.cons.length:Int)))))] [.obj b2 (Wt x1),.obj b1 [nl]] ?_ ?_)))))
  ·refine ir 3 [(1,.i cv),(5,.p b1 0),(6,.i k),(7,.p b2 0),(8,Zd ds),(9,.i ds.length),(10,.i k),(17,.b (decide (cv>=0)))] (ib (b:=(decide (cv>=0))) 17 (fun Za=>?_) (fun Za=>?_))
   ·have ZP:cv>=0:=(dq).1 Za
    refine Y2 3 (.n 18 (.i cv) (.n 20 (W5 x1.cons) (.w (.w .z)))) [0] [b2] (iw (Ud x1.cons) (Z1 2 23 (.b (decide (cv<(x1.cons.length:Int)))) (ie ?_)))
    exact wk [0,0] (fq (fw (fr (Zu (decide (cv<(x1.cons.length:Int))) Za fl))))
   have Y1:¬(cv>=0):=ZI dq Za
   refine Z5 6 (.n 23 (.b false) (.d (.w (.k (.k (.k .z)))))) (ie ?_)
   exact wk [0,0] (fq (fw (fr (Zu false Za fl))))
  refine ac ((decide (cv>=0))&&(decide (cv<(x1.cons.length:Int)))) (p:=(cv>=0)/\(cv<(x1.cons.length:Int))) (YD dq dq) (fun Zk=>?_) (fun Zk=>?_)
  ·refine aD 9 (Xa 8 9 [0] [(1,.i cv),(5,.p b1 0),(7,.p b2 0),(24,.i k)] (da 1 (((k+1:Nat):Int)) (((k:Int))+(1)) (Y6 4 7 [2,3,4] (.n 27 (W5 x1.cons) (.n 28 (.i cv) .r)) [0] [b2] ?_)))
   obtain ⟨x2,Zt⟩:=Zr (xs:=x1.cons) (j:=cv.toNat) om
   refine dx 5 (Zm none cv 1 (Bo Zt)) (Y0 1 3 [6,7] (.n 4 (.i (k+1:Nat)) (.n 30 (AB x2) .r)) (Z9 8 (YL 8 1 [] [] b1 (Gz x2) (de ?_))))
   have hz:=(hd.take k).sum
   have h3:=hd.cons_at Z3
   have hH:=Zy.symm.trans (PJ Z3 Zp om h3 hc.1 Zk Zt)
   exact Zb (r3 [] [.i (k+1:Nat),AB x2] [0] [(b1,b1)] ⟨rfl,rfl⟩ (Zg.tup (.cons (li (by rw [Xt,hH];omega)) (.cons (Zg.agg (.cons (Zg.sl _ (Yx Z8 (by rw [ZC,hH]))) .nil)) .nil))))
  refine ak (az (iR 3 [(5,.p b1 0),(8,Zd ds),(9,.i ds.length),(10,.i k),(31,.i cv),(33,W5 x1.cons)] [0] [b2] (iw (Ud x1.cons) (iW ((cv)-((x1.cons.length:Int))) (Z1 1 1 (.i (Aq ((cv)-((x1.cons.length:Int))))) (ie (az (ZL k (Z5 1 (.n 10 (.i (k+1:Nat)) (.p (.k (.p (.p (.k (.k (.k .z)))))))) (ie ?_))))))))))
  have hdr:=Y8 Z3
  exact ZO ⟨k+1,(Aq ((cv)-((x1.cons.length:Int)))),ob,(by have hz:=(hd.take k).sum;have h3:=hd.cons_at Z3;rw [WM Z3,Cc];simpa [Ys] using P4 Zp om h3 hc),(PH Z3 Zp Zk Zy),rfl,rfl,rfl⟩ (wk [1] (fq (ZQ k fl)))
 refine ax 0 (ar (Yq 2 4 (.i (-1)) 37 (.agg [nl]) (ZF 0 b1 [nl] (ie ?_))))
 have hH:Up c ds 0 0=(-1,[]):=by rw [<-Zy,Xb om];rfl
 exact Zb (r3 [] [.i (-1),.agg [nl]] [0] [(b1,b1)] ⟨rfl,rfl⟩ (Zg.tup (.cons (li (by rw [Xt,hH])) (.cons (Zg.agg (.cons (Zg.sl _ (by rw [ZC,hH];rfl)) .nil)) .nil))))
theorem Z1m (ds:List Zf) (c:Int) (hd:Wn ds:=by exact ob) (hc:-9223372036854775808<=c/\c<=9223372036854775807:=by exact ob):Zi Tryz.prog 168 [Zd ds,.i c] [] (fun r h=>r=Z0 (ZC ds c)/\h=[]):=by
 refine ZK 15 Tryz.func168 (ar (ir 1 [(0,Zd ds),(1,.i c)] (ie (ar (ir 2 [(8,Zd ds),(9,.i c)] (ZA [] (Lz ds c) (ir 3 [(11,.i (Xt ds c)),(12,.agg [Z0 (ZC ds c)])] (iA [nl] ?_))))))))
 intro b1
 refine Z5 1 .r (ZF 0 b1 [Z0 (ZC ds c)] (ie (ar (iR 3 [(4,Z0 (ZC ds c))] [0] [b1] (ie ?_)))))
 exact Zb (r1 [] ⟨rfl,rfl⟩)
theorem Z1j (ds:List Zf) (t:Int) (hd:Wn ds:=by exact ob):Zi Tryz.prog 167 [Zd ds,.i t] [] (fun r h=>r=Z0 (Zw ds t)/\h=[]):=by
 have hdl:=hd.len
 refine ZK 39 Tryz.func167 (ar (ir 1 [(0,Zd ds),(1,.i t)] (ie (aq (ar (Xo [(0,Zd ds),(1,.i t),(15,.b ((decide (t<1))||(decide (t>(ds.length:Int)))))] [] ?_ ?_))))))
 ·refine ir 3 [(0,Zd ds),(1,.i t),(10,.b (decide (t<1)))] (ib (b:=(decide (t<1))) 10 (fun Za=>?_) (fun Za=>?_))
  ·have ZP:t<1:=(dq).1 Za
   refine Z5 5 (.n 15 (.b true) (.d (.k (.k .z)))) (ie ?_)
   exact wk [] (fw (Zu true Za fl))
  have Y1:¬(t<1):=ZI dq Za
  refine Z5 2 (.n 11 (.i t) (.n 12 (Zd ds) (.k (.k (.k .z))))) (iw (VU ds) (Z1 2 15 (.b (decide (t>(ds.length:Int)))) (ie ?_)))
  exact wk [] (fw (Zu (decide (t>(ds.length:Int))) Za fl))
 refine ac ((decide (t<1))||(decide (t>(ds.length:Int)))) (p:=(t<1)∨(t>(ds.length:Int))) (Yo dq dq) (fun Ze=>?_) (fun Ze=>?_)
 ·refine ar (ir 1 [(4,nl)] (ie ?_))
  exact Zb (r2 [] [nl] ⟨rfl,rfl⟩ (Zg.sl _ (by rw [Zw,Zc om];rfl)))
 have hti:1<=t/\t<=ds.length:=by omega
 obtain ⟨d,hd1⟩:=Zr (xs:=ds) (j:=(t-1).toNat) om
 have hdc:=hd.cons_at hd1
 have hsm:=(hd.take (t-1).toNat).sum
 refine ak (ar (ir 2 [(0,Zd ds),(1,.i t),(16,Zd ds),(17,.i t)] (ia ((((t-1).toNat:Nat):Int)) ((t)-(1)) (Zq (Kl (es:=YW ds) (hv:=none) (l:=0) (m:=(((t-1).toNat:Nat):Int)) (sz:=3) (es':=YW (ds.take ((t-1).toNat))) kr om (by simp<;>omega) (by simp<;>omega) (Ka _) (by first|(simp only [VR,Vp,Bq,Bp];done)|(simp only [VR,Vp,Bq,Bp];rfl)|(simp [Bq,Bp];done))) (ZA [] (Z1i (ds.take ((t-1).toNat)) (hd:=(hd.take _))) (Z1 1 5 (.i ((Ys (ds.take ((t-1).toNat)):Nat):Int)) (ie (ar (Z1 1 6 (nl) (ie (aq (ar (Yq 2 21 (Zd ds) 22 (.i t) (ia ((((t-1).toNat:Nat):Int)) ((t)-(1)) (Zq (Zm none (((t-1).toNat:Nat):Int) 3 (Vk hd1)) (Z1 2 26 (W5 d.cons) (iw (Ud d.cons) (Z1 1 28 (.i 0) (ie (ab 0 (Dd 1 (al (fun m F h=>∃(k:Nat) (v:Value),(k<=d.cons.length)/\F=[(5,.i ((Ys (ds.take ((t-1).toNat)):Nat):Int)),(6,Z7 (Wv (Ys (ds.take (t-1).toNat)) k) v),(27,.i d.cons.length),(28,.i k)]/\h=[.tail v 1]/\m=d.cons.length-k) _ _ _ ⟨0,(.slice none 0 0),ob,rfl,rfl,rfl⟩ (wk [0] (fr (fc (x:=nl) (Zg.slh _ rfl) (fr (Ya fl))))) ?_))))))))))))))))))))))
 rintro m F h ⟨k,v,Yj,rfl,rfl,rfl⟩
 refine ar (Z1 1 29 (.b (decide ((k:Int)<(d.cons.length:Int)))) (ie (aq (ZM ((k:Int)<(d.cons.length:Int)) (fun Zk=>?_) (fun Zk=>?_)))))
 ·refine ak (aq (ab 1 (ar (Z1 2 7 (.i k) (ie (az (Z5 3 (.n 31 (Z7 (Wv (Ys (ds.take (t-1).toNat)) k) v) (.n 32 (.i ((Ys (ds.take ((t-1).toNat)):Nat):Int)) (.n 33 (.i k) .r))) (ia ((((Ys (ds.take ((t-1).toNat)))+k:Nat):Int)) ((((Ys (ds.take ((t-1).toNat)):Nat):Int))+((k:Int))) (iL (Z8 [(((Ys (ds.take ((t-1).toNat)))+k:Nat):Int)]) 1 1 ?_)))))))))
  intro v1
  refine Z5 0 (.n 35 (Z0 [(((Ys (ds.take ((t-1).toNat)))+k:Nat):Int)]) (.p .r)) (ip 1 (Z8 (Wv (Ys (ds.take (t-1).toNat)) k++[(((Ys (ds.take ((t-1).toNat)))+k:Nat):Int)])) (Z8 (Wv (Ys (ds.take (t-1).toNat)) k)) (Z8 [(((Ys (ds.take ((t-1).toNat)))+k:Nat):Int)]) v none 1 (YF _) (YF _) (XX _) (by simp;omega) (by simp [XW,Z8]) ?_)
  intro v2
  refine Z5 1 (.n 6 (Z7 (Wv (Ys (ds.take (t-1).toNat)) k++[(((Ys (ds.take ((t-1).toNat)))+k:Nat):Int)]) v2) (.p (.d (.p (.d (.d (.d (.d (.d (.k (.d .r))))))))))) (ie (az (ZL k (Z5 1 (.n 28 (.i (k+1:Nat)) (.p (.k (.k (.k .z))))) (ie ?_)))))
  exact ZO ⟨k+1,v2,ob,rfl,rfl,rfl⟩ (wk [0] (fr (fc (x:=Z7 (Wv (Ys (ds.take (t-1).toNat)) k++[(((Ys (ds.take ((t-1).toNat)))+k:Nat):Int)]) v2) (Zg.slh _ (Yx Z8 (Mh _ _).symm)) (fr (ZQ k fl)))))
 refine ax 0 (ar (ir 2 [(4,Z7 (Wv (Ys (ds.take (t-1).toNat)) k) v)] (ie ?_)))
 exact Zb (r2 [] [Z7 (Wv (Ys (ds.take (t-1).toNat)) k) v] ⟨rfl,rfl⟩ (Zg.sl _ (Yx Z8 (by rw [Zw,Zo hti,hd1,show k=d.cons.length by omega];rfl))))
theorem DV (ds:List Zf) (t:Int) (hd:Wn ds:=by exact ob):Zi Tryz.prog 129 [Zd ds,.i t] [] (fun r h=>r=.tup [Uo (Ws ds t),.b (X5 ds t)]/\h=[]):=by
 have hdl:=hd.len
 refine ZK 30 Tryz.func129 (ar (iA [.i 0,.i 0,nl] ?_))
 intro b1
 refine ir 1 [(0,Zd ds),(1,.i t),(4,.p b1 0)] (ie (aq (ar (XQ 8 [(0,Zd ds),(1,.i t),(4,.p b1 0),(13,.b ((decide (t<1))||(decide (t>(ds.length:Int)))))] [.obj b1 [.i 0,.i 0,nl]] ?_ (fun hj1=>?_)))))
 ·refine ir 1 [(0,Zd ds),(1,.i t),(4,.p b1 0),(14,.b ((decide (t<1))||(decide (t>(ds.length:Int)))))] (ib (b:=((decide (t<1))||(decide (t>(ds.length:Int))))) 14 (fun Za=>?_) (fun Za=>?_))
  ·have ZP:(t<1)∨(t>(ds.length:Int)):=((Yo dq dq)).1 Za
   refine Z5 9 (.n 23 (.b true) (.d (.k (.k (.k .z))))) (ie (WU (ar (Z1 1 24 (.agg [.i 0,.i 0,nl]) (ZF 0 b1 [.i 0,.i 0,nl] (Z1 1 5 (.b false) (ie ?_)))))))
   have hA:X5 ds t=false:=(Gn om).symm
   have hD:Ws ds t=⟨0,0,[]⟩:=by rw [Ws,hA];rfl
   exact Zb (r3 [] [.agg [.i 0,.i 0,nl],.b false] [0] [(b1,b1)] ⟨rfl,rfl⟩ (Zg.tup (.cons (Zg.agg (.cons (li (by rw [hD])) (.cons (li (by rw [hD])) (.cons (Zg.sl _ (by rw [hD];rfl)) .nil)))) (.cons (lb (by rw [hA])) .nil))))
  have Y1:¬((t<1)∨(t>(ds.length:Int))):=ZI (Yo dq dq) Za
  refine Z5 2 (.n 15 (Zd ds) (.n 16 (.i t) (.w .z))) (ia ((t-1)) ((t)-(1)) ?_)
  obtain ⟨x1,Z3⟩:=Zr (xs:=ds) (j:=(t-1).toNat) om
  refine Zq (Zm none (t-1) 3 (Vk Z3)) (Z1 2 20 (W5 x1.cons) (iw (Ud x1.cons) (Z1 2 23 (.b (decide ((x1.cons.length:Int)>0))) (ie (ZM ((x1.cons.length:Int)>0) (fun Ze=>?_) (fun Ze=>?_))))))
  ·refine ar (Z1 1 24 (.agg [.i 0,.i 0,nl]) (ZF 0 b1 [.i 0,.i 0,nl] (Z1 1 5 (.b false) (ie ?_))))
   have hA:X5 ds t=false:=(E0 om Z3).symm.trans (beq_eq_false_iff_ne.2 om)
   have hD:Ws ds t=⟨0,0,[]⟩:=by rw [Ws,hA];rfl
   exact Zb (r3 [] [.agg [.i 0,.i 0,nl],.b false] [0] [(b1,b1)] ⟨rfl,rfl⟩ (Zg.tup (.cons (Zg.agg (.cons (li (by rw [hD])) (.cons (li (by rw [hD])) (.cons (Zg.sl _ (by rw [hD];rfl)) .nil)))) (.cons (lb (by rw [hA])) .nil))))
  refine ak (ar (Yq 2 25 (Zd ds) 26 (.i t) (ia ((t-1)) ((t)-(1)) (Zq (Zm none (t-1) 3 (Vk Z3)) (Z1 1 29 (Uo x1) (ZF 0 b1 (Wt x1) (Z1 1 5 (.b true) (ie ?_))))))))
  have hA:X5 ds t=true:=(E0 om Z3).symm.trans (Zh.2 om)
  have hD:Ws ds t=x1:=by rw [Ws,hA,Z3];rfl
  exact Zb (r3 [] [Uo x1,.b true] [0] [(b1,b1)] ⟨rfl,rfl⟩ (Zg.tup (.cons (Zg.agg (.cons (li (by rw [hD])) (.cons (li (by rw [hD])) (.cons (Zg.sl _ (Yx Wx (by rw [hD]))) .nil)))) (.cons (lb (by rw [hA])) .nil))))
 refine ir 3 [(0,Zd ds),(1,.i t),(4,.p b1 0),(8,.b (decide (t<1)))] (ib (b:=(decide (t<1))) 8 (fun Zz=>?_) (fun Zz=>?_))
 ·have Yy:t<1:=(dq).1 Zz
  refine Z5 5 (.n 13 (.b true) (.d (.k (.k (.k .z))))) ?_
  exact YG (wk [0] (fw (fr (Zu true Zz fl)))) hj1
 have YK:¬(t<1):=ZI dq Zz
 refine Z5 2 (.n 9 (.i t) (.n 10 (Zd ds) (.w .z))) (iw (VU ds) (Z1 2 13 (.b (decide (t>(ds.length:Int)))) ?_))
 exact YG (wk [0] (fw (fr (Zu (decide (t>(ds.length:Int))) Zz fl)))) hj1
theorem Z1e (ds:List Zf) (frm:Int) (to_:Int) (hl_ds:ds.length<=4294967296:=by exact ob):Zi Tryz.prog 171 [Zd ds,.i frm,.i to_] [] (fun r h=>r=.i (WV ds frm to_)/\h=[]):=by
 refine ZK 35 Tryz.func171 (ar (ir 1 [(0,Zd ds),(1,.i frm),(2,.i to_)] (ie (aq (ar (Z1 1 9 (Zd ds) (iw (VU ds) (Z1 1 11 (.i 0) (ie (ab 0 (al (fun m F h=>∃(k:Nat),(k<=ds.length)/\(Qh frm to_ (ds.drop k) k=WV ds frm to_)/\F=[(1,.i frm),(2,.i to_),(9,Zd ds),(10,.i ds.length),(11,.i k)]/\h=[]/\m=ds.length-k) _ _ _ ⟨0,ob,rfl,rfl,rfl,rfl⟩ (wk [] (fq (Ya fl))) ?_)))))))))))
 rintro m F h ⟨k,Yj,Zp,rfl,rfl,rfl⟩
 refine ar (Z1 1 12 (.b (decide ((k:Int)<(ds.length:Int)))) (ie (aq (ZM ((k:Int)<(ds.length:Int)) (fun Ze=>?_) (fun Ze=>?_)))))
 ·refine ak (aq (ab 1 (ar (Z1 1 13 (.i k) ?_))))
  obtain ⟨x1,Z3⟩:=Zr (xs:=ds) (j:=k) om
  refine Zq (Zm none (k:Int) 3 (Vk Z3)) (Z1 1 15 (Uo x1) (iA [.i 0,.i 0,nl] ?_))
  intro b1
  refine Z1 1 7 (.i k) (ZF 0 b1 (Wt x1) (ie (ar (Yl 2 17 (W5 x1.cons) [0] [b1] (iw (Ud x1.cons) (XQ 10 [(1,.i frm),(2,.i to_),(7,.i k),(8,.p b1 0),(9,Zd ds),(10,.i ds.length),(11,.i k),(25,.b (((x1.cons.length:Int)==0)&&(x1.frm==frm)))] [.obj b1 (Wt x1)] ?_ (fun hj1=>?_)))))))
  ·refine Xo [(1,.i frm),(2,.i to_),(7,.i k),(9,Zd ds),(10,.i ds.length),(11,.i k),(31,.b ((((x1.cons.length:Int)==0)&&(x1.frm==frm))&&(x1.to_==to_)))] [.obj b1 (Wt x1)] ?_ ?_
   ·refine ir 1 [(1,.i frm),(2,.i to_),(7,.i k),(8,.p b1 0),(9,Zd ds),(10,.i ds.length),(11,.i k),(26,.b (((x1.cons.length:Int)==0)&&(x1.frm==frm)))] (ib (b:=(((x1.cons.length:Int)==0)&&(x1.frm==frm))) 26 (fun Za=>?_) (fun Za=>?_))
    ·have ZP:((x1.cons.length:Int)=0)/\(x1.frm=frm):=((YD Zh Zh)).1 Za
     refine Y2 5 (.n 31 (.b (x1.to_==to_)) (.d (.k (.k (.k (.d (.k (.k (.k .z))))))))) [0] [b1] (ie ?_)
     exact wk [0] (fq (fw (Zu (x1.to_==to_) Za fl)))
    have Y1:¬(((x1.cons.length:Int)=0)/\(x1.frm=frm)):=ZI (YD Zh Zh) Za
    refine Z5 5 (.n 31 (.b false) (.d (.k (.k (.k (.d (.k (.k (.k .z))))))))) (ie ?_)
    exact wk [0] (fq (fw (Zu false Za fl)))
   refine ac ((((x1.cons.length:Int)==0)&&(x1.frm==frm))&&(x1.to_==to_)) (p:=(((x1.cons.length:Int)=0)/\(x1.frm=frm))/\(x1.to_=to_)) (YD (YD Zh Zh) Zh) (fun Zk=>?_) (fun Zk=>?_)
   ·refine ar (ir 1 [(32,.i k)] (ZL k (ir 1 [(6,.i (k+1:Nat))] (ie ?_))))
    rw [Y8 Z3] at Zp
    exact Zb (r2 [] [.i (k+1:Nat)] ⟨rfl,rfl⟩ (li (by clear Z3;first|rfl|omega|grind [Qh])))
   refine ak (az (ZL k (ir 1 [(1,.i frm),(2,.i to_),(9,Zd ds),(10,.i ds.length),(11,.i (k+1:Nat))] (ie ?_))))
   have hdr:=Y8 Z3
   exact ZO ⟨k+1,ob,(by rw [hdr] at Zp;clear hdr Z3;grind [Qh]),rfl,rfl,rfl⟩ (wk [] (fq (ZQ k fl)))
  refine ir 2 [(1,.i frm),(2,.i to_),(7,.i k),(8,.p b1 0),(9,Zd ds),(10,.i ds.length),(11,.i k),(20,.b ((x1.cons.length:Int)==0))] (ib (b:=((x1.cons.length:Int)==0)) 20 (fun Zz=>?_) (fun Zz=>?_))
  ·have Yy:(x1.cons.length:Int)=0:=(Zh).1 Zz
   refine Y2 5 (.n 25 (.b (x1.frm==frm)) (.d (.w (.k (.k (.k .z)))))) [0] [b1] ?_
   exact YG (wk [0] (fq (fw (fr (Zu (x1.frm==frm) Zz fl))))) hj1
  have YK:¬((x1.cons.length:Int)=0):=ZI Zh Zz
  refine Z5 5 (.n 25 (.b false) (.d (.w (.k (.k (.k .z)))))) ?_
  exact YG (wk [0] (fq (fw (fr (Zu false Zz fl))))) hj1
 refine ax 0 (ar (ir 1 [(6,.i (-1))] (ie ?_)))
 try rw [Xb (xs:=ds) (k:=k) om] at Zp
 exact Zb (r2 [] [.i (-1)] ⟨rfl,rfl⟩ (li (by first|rfl|omega|grind [Qh])))
theorem Z1d (ds:List Zf) (hz:J1 ds:=by exact ob):Zi Tryz.prog 128 [Zd ds] [] (fun r h=>r=.b (Wh ds)/\h=[]):=by
 have hzl:=hz.len
 refine ZK 106 Tryz.func128 (ar (ir 1 [(0,Zd ds)] (ie (aq (ar (Z1 1 9 (Zd ds) (iw (VU ds) (Z1 1 11 (.b (decide ((ds.length:Int)>4))) (ie (ZM ((ds.length:Int)>4) (fun Ze=>?_) (fun Ze=>?_)))))))))))
 ·refine ar (ir 1 [(2,.b false)] (ie ?_))
  exact Zb (r2 [] [.b false] ⟨rfl,rfl⟩ (lb (by rw [Wh,decide_eq_false om];rfl)))
 refine ak (aq (ar (Z1 1 12 (Zd ds) (iw (VU ds) (Z1 1 14 (.i 0) (ie (ab 0 (al (fun m F h=>∃(k:Nat),(k<=ds.length)/\(Uq ds (ds.drop k) k=Uq ds ds 0)/\F=[(0,Zd ds),(12,Zd ds),(13,.i ds.length),(14,.i k)]/\h=[]/\m=ds.length-k) _ _ _ ⟨0,ob,rfl,rfl,rfl,rfl⟩ (wk [] (fw (fr (Ya fl)))) ?_))))))))
 rintro m F h ⟨k,Yj,Zp,rfl,rfl,rfl⟩
 refine ar (Z1 1 15 (.b (decide ((k:Int)<(ds.length:Int)))) (ie (aq (ZM ((k:Int)<(ds.length:Int)) (fun Zk=>?_) (fun Zk=>?_)))))
 ·refine ak (aq (ab 1 (ar (Z1 1 16 (.i k) ?_))))
  obtain ⟨x1,Z3⟩:=Zr (xs:=ds) (j:=k) om
  have hz1:=hz.cons_at Z3
  refine Zq (Zm none (k:Int) 3 (Vk Z3)) (Z1 1 18 (Uo x1) (iA [.i 0,.i 0,nl] ?_))
  intro b1
  refine Z1 1 3 (.i k) (ZF 0 b1 (Wt x1) (ie (aq (ar (ZY 3 19 (Zd ds) 21 (.i x1.frm) [0] [b1] (ZA [] (DX ds x1.frm) (XQ 12 [(0,Zd ds),(3,.i k),(4,.p b1 0),(12,Zd ds),(13,.i ds.length),(14,.i k),(30,.b ((!(decide (0<=x1.frm/\x1.frm<=ds.length)))||(!(decide (0<=x1.to_/\x1.to_<=ds.length)))))] [.obj b1 (Wt x1)] ?_ (fun hj1=>?_))))))))
  ·refine XQ 18 [(0,Zd ds),(3,.i k),(4,.p b1 0),(12,Zd ds),(13,.i ds.length),(14,.i k),(36,.b (((!(decide (0<=x1.frm/\x1.frm<=ds.length)))||(!(decide (0<=x1.to_/\x1.to_<=ds.length))))||(decide ((x1.cons.length:Int)>3))))] [.obj b1 (Wt x1)] ?_ (fun hj2=>?_)
   ·refine Xo [(0,Zd ds),(3,.i k),(4,.p b1 0),(12,Zd ds),(13,.i ds.length),(14,.i k),(52,.b ((((!(decide (0<=x1.frm/\x1.frm<=ds.length)))||(!(decide (0<=x1.to_/\x1.to_<=ds.length))))||(decide ((x1.cons.length:Int)>3)))||((decide ((x1.cons.length:Int)>0))&&((x1.frm != 0)||(x1.to_ != 0)))))] [.obj b1 (Wt x1)] ?_ ?_
    ·refine ir 1 [(0,Zd ds),(3,.i k),(4,.p b1 0),(12,Zd ds),(13,.i ds.length),(14,.i k),(37,.b (((!(decide (0<=x1.frm/\x1.frm<=ds.length)))||(!(decide (0<=x1.to_/\x1.to_<=ds.length))))||(decide ((x1.cons.length:Int)>3))))] (ib (b:=(((!(decide (0<=x1.frm/\x1.frm<=ds.length)))||(!(decide (0<=x1.to_/\x1.to_<=ds.length))))||(decide ((x1.cons.length:Int)>3)))) 37 (fun Za=>?_) (fun Za=>?_))
     ·have ZP:((¬(0<=x1.frm/\x1.frm<=ds.length))∨(¬(0<=x1.to_/\x1.to_<=ds.length)))∨((x1.cons.length:Int)>3):=((Yo (Yo (Yw dq) (Yw dq)) dq)).1 Za
      refine Z5 15 (.n 52 (.b true) (.d (.w (.k (.k .z))))) (ie ?_)
      exact wk [0] (fq (fw (Zu true Za fl)))
     have Y1:¬(((¬(0<=x1.frm/\x1.frm<=ds.length))∨(¬(0<=x1.to_/\x1.to_<=ds.length)))∨((x1.cons.length:Int)>3)):=ZI (Yo (Yo (Yw dq) (Yw dq)) dq) Za
     refine Y2 2 (.n 39 (W5 x1.cons) (.w (.k (.k (.k .z))))) [0] [b1] (iw (Ud x1.cons) (Z1 2 42 (.b (decide ((x1.cons.length:Int)>0))) (ib (b:=(decide ((x1.cons.length:Int)>0))) 42 (fun Zz=>?_) (fun Zz=>?_))))
     ·have Yy:(x1.cons.length:Int)>0:=(dq).1 Zz
      refine Y2 4 (.n 46 (.b (x1.frm != 0)) (.k (.d .r))) [0] [b1] (ib (b:=(x1.frm != 0)) 46 (fun YE=>?_) (fun YE=>?_))
      ·have YK:x1.frm≠0:=(Yi).1 YE
       refine Z5 6 (.n 52 (.b true) (.k (.d .r))) (ie ?_)
       exact wk [0] (fq (fw (Zu true (And.intro Za (And.intro Zz YE)) fl)))
      have X0:¬(x1.frm≠0):=ZI Yi YE
      refine Y2 6 (.n 52 (.b (x1.to_ != 0)) (.k (.d .r))) [0] [b1] (ie ?_)
      exact wk [0] (fq (fw (Zu (x1.to_ != 0) (And.intro Za (And.intro Zz YE)) fl)))
     have XB:¬((x1.cons.length:Int)>0):=ZI dq Zz
     refine Z5 10 (.n 52 (.b false) (.k (.d .r))) (ie ?_)
     exact wk [0] (fq (fw (Zu false (And.intro Za Zz) fl)))
    refine ac ((((!(decide (0<=x1.frm/\x1.frm<=ds.length)))||(!(decide (0<=x1.to_/\x1.to_<=ds.length))))||(decide ((x1.cons.length:Int)>3)))||((decide ((x1.cons.length:Int)>0))&&((x1.frm != 0)||(x1.to_ != 0)))) (p:=(((¬(0<=x1.frm/\x1.frm<=ds.length))∨(¬(0<=x1.to_/\x1.to_<=ds.length)))∨((x1.cons.length:Int)>3))∨(((x1.cons.length:Int)>0)/\((x1.frm≠0)∨(x1.to_≠0)))) (Yo (Yo (Yo (Yw dq) (Yw dq)) dq) (YD dq (Yo Yi Yi))) (fun ZG=>?_) (fun ZG=>?_)
    ·refine ar (ir 1 [(2,.b false)] (ie ?_))
     exact Zb (r2 [] [.b false] ⟨rfl,rfl⟩ (lb (HA Z3 (Rg ZG) Zp)))
    refine ak (aq (ar (iR 2 [(0,Zd ds),(3,.i k),(4,.p b1 0),(12,Zd ds),(13,.i ds.length),(14,.i k),(54,W5 x1.cons)] [0] [b1] (iw (Ud x1.cons) (Z1 1 56 (.i 0) (ie (ab 2 (al (fun m F h=>∃(q:Nat),(q<=x1.cons.length)/\(UY ds.length (x1.cons.drop q)=UY ds.length x1.cons)/\F=[(0,Zd ds),(3,.i k),(4,.p b1 0),(12,Zd ds),(13,.i ds.length),(14,.i k),(54,W5 x1.cons),(55,.i x1.cons.length),(56,.i q)]/\h=[.obj b1 (Wt x1)]/\m=x1.cons.length-q) _ _ _ ⟨0,ob,rfl,rfl,rfl,rfl⟩ (wk [0] (fq (fq (Ya fl)))) ?_))))))))
    rintro m F h ⟨q,VS,XH,rfl,rfl,rfl⟩
    refine ar (Z1 1 57 (.b (decide ((q:Int)<(x1.cons.length:Int)))) (ie (aq (ZM ((q:Int)<(x1.cons.length:Int)) (fun Ym=>?_) (fun Ym=>?_)))))
    ·refine ak (aq (ab 3 (ar ?_)))
     obtain ⟨x2,Zt⟩:=Zr (xs:=x1.cons) (j:=q) om
     refine Zq (Zm none (q:Int) 1 (Bo Zt)) (Z1 1 59 (AB x2) (iA [nl] ?_))
     intro b2
     refine ZF 0 b2 (Gz x2) (ie (ar (Yl 2 61 (Z0 x2.fields) [0] [b2] (iw (Yh x2.fields) (Xo [(0,Zd ds),(3,.i k),(4,.p b1 0),(12,Zd ds),(13,.i ds.length),(14,.i k),(54,W5 x1.cons),(55,.i x1.cons.length),(56,.i q),(70,.b ((decide ((x2.fields.length:Int)>3))||(!XJ ds.length x2.fields)))] [.obj b2 (Gz x2),.obj b1 (Wt x1)] ?_ ?_)))))
     ·refine ir 2 [(0,Zd ds),(3,.i k),(4,.p b1 0),(6,.p b2 0),(12,Zd ds),(13,.i ds.length),(14,.i k),(54,W5 x1.cons),(55,.i x1.cons.length),(56,.i q),(64,.b (decide ((x2.fields.length:Int)>3)))] (ib (b:=(decide ((x2.fields.length:Int)>3))) 64 (fun Xf=>?_) (fun Xf=>?_))
      ·have Wk:(x2.fields.length:Int)>3:=(dq).1 Xf
       refine Z5 6 (.n 70 (.b true) (.d (.k (.k (.k (.d (.w (.k (.k .z))))))))) (ie ?_)
       exact wk [0,0] (fq (fq (fr (Zu true Xf fl))))
      have WJ:¬((x2.fields.length:Int)>3):=ZI dq Xf
      refine Y2 3 (.n 65 (Zd ds) (.n 67 (Z0 x2.fields) (.w (.d (.w (.k (.k .z))))))) [0] [b2] (ZA [] (Ly ds x2.fields) (Z1 2 70 (.b (!XJ ds.length x2.fields)) (ie ?_)))
      exact wk [0,0] (fq (fq (fr (Zu (!XJ ds.length x2.fields) Xf fl))))
     refine ac ((decide ((x2.fields.length:Int)>3))||(!XJ ds.length x2.fields)) (p:=((x2.fields.length:Int)>3)∨(¬(XJ ds.length x2.fields=true))) (Yo dq (Yw Iff.rfl)) (fun Xi=>?_) (fun Xi=>?_)
     ·refine ar (ir 1 [(2,.b false)] (ie ?_))
      exact Zb (r2 [] [.b false] ⟨rfl,rfl⟩ (lb (HA Z3 (Rh om (by rw [<-XH,Y8 Zt,UY,Zc (by rw [PK Xi];simp)])) Zp)))
     refine ak (az (ZL q (ir 1 [(0,Zd ds),(3,.i k),(4,.p b1 0),(12,Zd ds),(13,.i ds.length),(14,.i k),(54,W5 x1.cons),(55,.i x1.cons.length),(56,.i (q+1:Nat))] (ie ?_))))
     have hdr:=Y8 Zt
     exact ZO ⟨q+1,ob,(by rw [Y8 Zt,UY,Zo (PL Xi)] at XH;exact XH),rfl,rfl,rfl⟩ (wk [1] (fq (fq (ZQ q fl))))
    have hC:UY ds.length x1.cons=true:=by rw [<-XH,Xb om];rfl
    refine ax 2 (ar (Yq 2 72 (Zd ds) 73 (.i k) (Zq (Kl (es:=YW ds) (hv:=none) (l:=0) (m:=(k:Int)) (sz:=3) (es':=YW (ds.take k)) kr om (by simp<;>omega) (by simp<;>omega) (Ka _) (by first|(simp only [VR,Vp,Bq,Bp];done)|(simp only [VR,Vp,Bq,Bp];rfl)|(simp [Bq,Bp];done))) (io (.i (((ds.take k).length:Nat):Int)) (.i (((YW (ds.take k)).length:Nat):Int)) (li (by rw [VU])) (Z1 1 76 (.i 0) (ie (ab 4 (al (fun m F h=>∃(j:Nat),(j<=k)/\(x1.cons.length=0->TX x1 ((ds.take k).drop j)=TX x1 (ds.take k))/\F=[(0,Zd ds),(4,.p b1 0),(12,Zd ds),(13,.i ds.length),(14,.i k),(74,Zd (ds.take k)),(75,.i (((ds.take k).length:Nat):Int)),(76,.i j)]/\h=[.obj b1 (Wt x1)]/\m=k-j) _ _ _ ⟨0,ob,ob,rfl,rfl,rfl⟩ (wk [0] (fq (fw (fr (Ya fl))))) ?_))))))))
    rintro m F h ⟨j,Ie,Dl,rfl,rfl,rfl⟩
    refine ar (Z1 1 77 (.b (decide ((j:Int)<(((ds.take k).length:Nat):Int)))) (ie (aq (ZM ((j:Int)<(((ds.take k).length:Nat):Int)) (fun Xj=>?_) (fun Xj=>?_)))))
    ·have htl:(ds.take k).length<=k:=by rw [Ww];omega
     refine ak (aq (ab 5 (ar ?_)))
     obtain ⟨x3,YT⟩:=Zr (xs:=(ds.take k)) (j:=j) om
     refine Zq (Zm none (j:Int) 3 (Vk YT)) (Z1 1 79 (Uo x3) (iA [.i 0,.i 0,nl] ?_))
     intro b3
     refine ZF 0 b3 (Wt x3) (ie (ar (Yl 2 81 (W5 x1.cons) [1] [b1] (iw (Ud x1.cons) (XQ 10 [(0,Zd ds),(4,.p b1 0),(8,.p b3 0),(12,Zd ds),(13,.i ds.length),(14,.i k),(74,Zd (ds.take k)),(75,.i (((ds.take k).length:Nat):Int)),(76,.i j),(89,.b (((x1.cons.length:Int)==0)&&((x3.cons.length:Int)==0)))] [.obj b3 (Wt x3),.obj b1 (Wt x1)] ?_ (fun hj3=>?_))))))
     ·refine XQ 17 [(0,Zd ds),(4,.p b1 0),(8,.p b3 0),(12,Zd ds),(13,.i ds.length),(14,.i k),(74,Zd (ds.take k)),(75,.i (((ds.take k).length:Nat):Int)),(76,.i j),(96,.b ((((x1.cons.length:Int)==0)&&((x3.cons.length:Int)==0))&&(x3.frm==x1.frm)))] [.obj b3 (Wt x3),.obj b1 (Wt x1)] ?_ (fun hj4=>?_)
      ·refine Xo [(0,Zd ds),(4,.p b1 0),(12,Zd ds),(13,.i ds.length),(14,.i k),(74,Zd (ds.take k)),(75,.i (((ds.take k).length:Nat):Int)),(76,.i j),(103,.b (((((x1.cons.length:Int)==0)&&((x3.cons.length:Int)==0))&&(x3.frm==x1.frm))&&(x3.to_==x1.to_)))] [.obj b3 (Wt x3),.obj b1 (Wt x1)] ?_ ?_
       ·refine ir 1 [(0,Zd ds),(4,.p b1 0),(8,.p b3 0),(12,Zd ds),(13,.i ds.length),(14,.i k),(74,Zd (ds.take k)),(75,.i (((ds.take k).length:Nat):Int)),(76,.i j),(97,.b ((((x1.cons.length:Int)==0)&&((x3.cons.length:Int)==0))&&(x3.frm==x1.frm)))] (ib (b:=((((x1.cons.length:Int)==0)&&((x3.cons.length:Int)==0))&&(x3.frm==x1.frm))) 97 (fun Wb=>?_) (fun Wb=>?_))
        ·have V4:(((x1.cons.length:Int)=0)/\((x3.cons.length:Int)=0))/\(x3.frm=x1.frm):=((YD (YD Zh Zh) Zh)).1 Wb
         refine Y2 6 (.n 103 (.b (x3.to_==x1.to_)) (.d (.k (.k (.d (.w (.k (.k .z)))))))) [0,1] [b3,b1] (ie ?_)
         exact wk [0,0] (fq (fq (Zu (x3.to_==x1.to_) Wb fl)))
        have Ug:¬((((x1.cons.length:Int)=0)/\((x3.cons.length:Int)=0))/\(x3.frm=x1.frm)):=ZI (YD (YD Zh Zh) Zh) Wb
        refine Z5 6 (.n 103 (.b false) (.d (.k (.k (.d (.w (.k (.k .z)))))))) (ie ?_)
        exact wk [0,0] (fq (fq (Zu false Wb fl)))
       refine ac (((((x1.cons.length:Int)==0)&&((x3.cons.length:Int)==0))&&(x3.frm==x1.frm))&&(x3.to_==x1.to_)) (p:=((((x1.cons.length:Int)=0)/\((x3.cons.length:Int)=0))/\(x3.frm=x1.frm))/\(x3.to_=x1.to_)) (YD (YD (YD Zh Zh) Zh) Zh) (fun Vx=>?_) (fun Vx=>?_)
       ·refine ar (ir 1 [(2,.b false)] (ie ?_))
        exact Zb (r2 [] [.b false] ⟨rfl,rfl⟩ (lb (HA Z3 (Ri om (by rw [<-Dl om,Y8 YT,TX,Zo om])) Zp)))
       refine ak (az (ZL j (ir 1 [(0,Zd ds),(4,.p b1 0),(12,Zd ds),(13,.i ds.length),(14,.i k),(74,Zd (ds.take k)),(75,.i (((ds.take k).length:Nat):Int)),(76,.i (j+1:Nat))] (ie ?_))))
       exact ZO ⟨j+1,ob,(fun q=>by have hq:=Dl q;rw [Y8 YT,TX,Zc om] at hq;exact hq),rfl,rfl,rfl⟩ (wk [1] (fq (fw (fr (ZQ j fl)))))
      refine ir 1 [(0,Zd ds),(4,.p b1 0),(8,.p b3 0),(12,Zd ds),(13,.i ds.length),(14,.i k),(74,Zd (ds.take k)),(75,.i (((ds.take k).length:Nat):Int)),(76,.i j),(90,.b (((x1.cons.length:Int)==0)&&((x3.cons.length:Int)==0)))] (ib (b:=(((x1.cons.length:Int)==0)&&((x3.cons.length:Int)==0))) 90 (fun WC=>?_) (fun WC=>?_))
      ·have UM:((x1.cons.length:Int)=0)/\((x3.cons.length:Int)=0):=((YD Zh Zh)).1 WC
       refine Y2 6 (.n 96 (.b (x3.frm==x1.frm)) (.d (.w (.w (.k .z))))) [0,1] [b3,b1] ?_
       exact YG (wk [0,0] (fq (fq (fr (Zu (x3.frm==x1.frm) WC fl))))) hj4
      have Uw:¬(((x1.cons.length:Int)=0)/\((x3.cons.length:Int)=0)):=ZI (YD Zh Zh) WC
      refine Z5 6 (.n 96 (.b false) (.d (.w (.w (.k .z))))) ?_
      exact YG (wk [0,0] (fq (fq (fr (Zu false WC fl))))) hj4
     refine ir 2 [(0,Zd ds),(4,.p b1 0),(8,.p b3 0),(12,Zd ds),(13,.i ds.length),(14,.i k),(74,Zd (ds.take k)),(75,.i (((ds.take k).length:Nat):Int)),(76,.i j),(84,.b ((x1.cons.length:Int)==0))] (ib (b:=((x1.cons.length:Int)==0)) 84 (fun WX=>?_) (fun WX=>?_))
     ·have Tu:(x1.cons.length:Int)=0:=(Zh).1 WX
      refine Y2 2 (.n 86 (W5 x3.cons) (.w (.w (.k (.k .z))))) [0] [b3] (iw (Ud x3.cons) (Z1 2 89 (.b ((x3.cons.length:Int)==0)) ?_))
      exact YG (wk [0,0] (fq (fq (fr (Zu ((x3.cons.length:Int)==0) WX fl))))) hj3
     have Tc:¬((x1.cons.length:Int)=0):=ZI Zh WX
     refine Z5 5 (.n 89 (.b false) (.d (.w (.w (.k .z))))) ?_
     exact YG (wk [0,0] (fq (fq (fr (Zu false WX fl))))) hj3
    have htl:(ds.take k).length=k:=by rw [Ww];omega
    have hD:x1.cons.length=0->TX x1 (ds.take k)=false:=fun q=>by rw [<-Dl q,Xb om];rfl
    refine ax 4 (az (ZL k (Z5 1 (.n 14 (.i (k+1:Nat)) (.p (.d (.k (.d (.k (.k .z))))))) (ie ?_))))
    have hdr:=Y8 Z3
    exact ZO ⟨k+1,ob,(Z8u Z3 (Rj ZG hC hD) Zp),rfl,rfl,rfl⟩ (wk [] (fw (fr (ZQ k fl))))
   refine ir 1 [(0,Zd ds),(3,.i k),(4,.p b1 0),(12,Zd ds),(13,.i ds.length),(14,.i k),(31,.b ((!(decide (0<=x1.frm/\x1.frm<=ds.length)))||(!(decide (0<=x1.to_/\x1.to_<=ds.length)))))] (ib (b:=((!(decide (0<=x1.frm/\x1.frm<=ds.length)))||(!(decide (0<=x1.to_/\x1.to_<=ds.length))))) 31 (fun WH=>?_) (fun WH=>?_))
   ·have QJ:(¬(0<=x1.frm/\x1.frm<=ds.length))∨(¬(0<=x1.to_/\x1.to_<=ds.length)):=((Yo (Yw dq) (Yw dq))).1 WH
    refine Z5 5 (.n 36 (.b true) (.d (.w (.k (.k .z))))) ?_
    exact YG (wk [0] (fq (fw (Zu true WH fl)))) hj2
   have QK:¬((¬(0<=x1.frm/\x1.frm<=ds.length))∨(¬(0<=x1.to_/\x1.to_<=ds.length))):=ZI (Yo (Yw dq) (Yw dq)) WH
   refine Y2 2 (.n 33 (W5 x1.cons) (.w (.k (.k (.k .z))))) [0] [b1] (iw (Ud x1.cons) (Z1 2 36 (.b (decide ((x1.cons.length:Int)>3))) ?_))
   exact YG (wk [0] (fq (fw (Zu (decide ((x1.cons.length:Int)>3)) WH fl)))) hj2
  refine ir 2 [(0,Zd ds),(3,.i k),(4,.p b1 0),(12,Zd ds),(13,.i ds.length),(14,.i k),(24,.b (!(decide (0<=x1.frm/\x1.frm<=ds.length))))] (ib (b:=(!(decide (0<=x1.frm/\x1.frm<=ds.length)))) 24 (fun WI=>?_) (fun WI=>?_))
  ·have Jm:¬(0<=x1.frm/\x1.frm<=ds.length):=((Yw dq)).1 WI
   refine Z5 6 (.n 30 (.b true) (.d (.w (.k (.k .z))))) ?_
   exact YG (wk [0] (fq (fw (Zu true WI fl)))) hj1
  have QL:¬(¬(0<=x1.frm/\x1.frm<=ds.length)):=ZI (Yw dq) WI
  refine Y2 3 (.n 25 (Zd ds) (.n 27 (.i x1.to_) (.w (.k (.k (.k .z)))))) [0] [b1] (ZA [] (DX ds x1.to_) (Z1 2 30 (.b (!(decide (0<=x1.to_/\x1.to_<=ds.length)))) ?_))
  exact YG (wk [0] (fq (fw (Zu (!(decide (0<=x1.to_/\x1.to_<=ds.length))) WI fl)))) hj1
 refine ax 0 (ar (ir 1 [(2,.b true)] (ie ?_)))
 exact Zb (r2 [] [.b true] ⟨rfl,rfl⟩ (lb (Z8t om om Zp)))
theorem DW (op:Int) :Zi Tryz.prog 66 [.i op] [] (fun r h=>r=.b (Yf op)/\h=[]):=by
 refine ZK 9 Tryz.func66 (ar (ir 1 [(0,.i op)] (ie (ar (XQ 6 [(8,.b ((decide (op>=14))&&(decide (op<=17))))] [] ?_ (fun hj1=>?_))))))
 ·refine ir 1 [(2,.b ((decide (op>=14))&&(decide (op<=17))))] (ie ?_)
  exact Zb (r2 [] [.b ((decide (op>=14))&&(decide (op<=17)))] ⟨rfl,rfl⟩ (lb (by rw [Yf,Xl];simp)))
 refine ir 3 [(0,.i op),(5,.b (decide (op>=14)))] (ib (b:=(decide (op>=14))) 5 (fun Za=>?_) (fun Za=>?_))
 ·have ZP:op>=14:=(dq).1 Za
  refine ir 3 [(8,.b (decide (op<=17)))] ?_
  exact YG (wk [] (Zu (decide (op<=17)) Za fl)) hj1
 have Y1:¬(op>=14):=ZI dq Za
 refine ir 3 [(8,.b false)] ?_
 exact YG (wk [] (Zu false Za fl)) hj1
theorem Z1l (b:Z6) (c:Nat) (v:Int) (hb:b.sz<=1000000000:=by exact ob) (hv:0<=v/\v<=600:=by exact ob) (ih:∀(b2:Z6) (c:Nat) (v:Int),(b2.sz<b.sz)->(0<=v/\v<=600)->Zi Tryz.prog 63 [Zs b2,.p c 0] [.obj c [.i v]] (fun r h=>(r=.b true/\h=[.obj c [.i (600-W1 b2 (600-v))]]/\0<=W1 b2 (600-v))∨(r=.b false/\h=[]/\W1 b2 (600-v)<0))):Zi Tryz.prog 63 [Zs b,.p c 0] [.obj c [.i v]] (fun r h=>(r=.b true/\h=[.obj c [.i (600-W1 b (600-v))]]/\0<=W1 b (600-v))∨(r=.b false/\h=[]/\W1 b (600-v)<0)):=by
 have hbz:=Vf b
 have hbe:=M1 b (600-v)
 refine ZK 38 Tryz.func63 (ar (iA (Yk b) ?_))
 intro b1
 refine ir 1 [(1,.p c 0),(2,.p b1 0)] (ie (aq (ar (Yl 2 10 (Ye b.steps) [0] [b1] (iw (Vl b.steps) (Z1 1 12 (.i 0) (ie (ab 0 (al (fun m F h=>∃(k:Nat) (q:Int),(k<=b.steps.length)/\(0<=q/\q<=600)/\(Td (b.steps.drop k) (600-q)=Td b.steps (600-v))/\F=[(1,.p c 0),(10,Ye b.steps),(11,.i b.steps.length),(12,.i k)]/\h=[.obj c [.i q]]/\m=b.steps.length-k) _ _ _ ⟨0,v,ob,ob,rfl,rfl,rfl,rfl⟩ (wk [1] (fw (fr (Ya fl)))) ?_)))))))))
 rintro m F h ⟨k,q,Yj,Zp,Zy,rfl,rfl,rfl⟩
 refine ar (Z1 1 13 (.b (decide ((k:Int)<(b.steps.length:Int)))) (ie (aq (ZM ((k:Int)<(b.steps.length:Int)) (fun Ze=>?_) (fun Ze=>?_)))))
 ·refine ak (aq (ab 1 (ar ?_)))
  obtain ⟨x1,Z3⟩:=Zr (xs:=b.steps) (j:=k) om
  have hss:=QY Z3
  have hkz:=Uz x1
  refine Zq (Zm none (k:Int) 5 (Wa Z3)) (Z1 1 15 (Y3 x1) (iA [.i 0,.i 0,.i 0,nl,nl] ?_))
  intro b2
  refine ZF 0 b2 (Yg x1) (ie (aq (ar (ZY 3 16 (.p c 0) 18 (.i q) [1] [c] (ia ((q+1)) ((q)+(1)) (Z1 1 20 (.p c 0) (ZF 1 c [.i (q+1)] (ie (ar (Yl 4 24 (.b (decide ((q+1)>600))) [0] [c] (ie (ZM ((q+1)>600) (fun Zk=>?_) (fun Zk=>?_)))))))))))))
  ·refine ar (ir 1 [(4,.b false)] (ie ?_))
   exact Zb (r1 [] (.inr ⟨rfl,rfl,(by rw [hbe,<-Zy,Y8 Z3,Td,Zo om];omega)⟩))
  refine ak (ar (Yl 2 26 (Yu x1.kids) [1] [b2] (iw (VG x1.kids) (Z1 1 28 (.i 0) (ie (ab 2 (al (fun m F h=>∃(j:Nat) (j2:Int),(j<=x1.kids.length)/\(0<=j2/\j2<=600)/\(Tw (x1.kids.drop j) (600-j2)=Tw x1.kids (600-(q+1)))/\F=[(1,.p c 0),(10,Ye b.steps),(11,.i b.steps.length),(12,.i k),(26,Yu x1.kids),(27,.i x1.kids.length),(28,.i j)]/\h=[.obj c [.i j2]]/\m=x1.kids.length-j) _ _ _ ⟨0,(q+1),ob,ob,rfl,rfl,rfl,rfl⟩ (wk [0] (fq (fw (Ya fl)))) ?_)))))))
  rintro m F h ⟨j,j2,VS,XH,XE,rfl,rfl,rfl⟩
  refine ar (Z1 1 29 (.b (decide ((j:Int)<(x1.kids.length:Int)))) (ie (aq (ZM ((j:Int)<(x1.kids.length:Int)) (fun ZG=>?_) (fun ZG=>?_)))))
  ·refine ak (aq (ab 3 (ar ?_)))
   obtain ⟨x2,Zt⟩:=Zr (xs:=x1.kids) (j:=j) om
   have hks:=Uy Zt
   have hle:=GH.2 x2 (600-j2) om
   refine Zq (Zm none (j:Int) 2 (U5 Zt)) (Z1 1 31 (Zs x2) (iA [nl,.i 0] ?_))
   intro b3
   refine ZF 0 b3 (Yk x2) (ie (ar (ZY 2 32 (Zs x2) 33 (.p c 0) [0] [b3] (ic [1] (ih x2 c j2 ob ob) ?_))))
   rintro _ _ (⟨rfl,rfl,ZP⟩|⟨rfl,rfl,Y1⟩)
   ·refine Z1 1 35 (.b false) (ie (WT (ak (az (ZL j (Z5 1 (.n 28 (.i (j+1:Nat)) (.p (.d (.p (.d (.d (.p (.d (.p (.d (.w (.k (.k .z))))))))))))) (ie ?_)))))))
    have hdr:=Y8 Zt
    exact ZO ⟨j+1,(600-W1 x2 (600-j2)),ob,ob,(by rw [Y8 Zt,Tw,Zc om] at XE;rw [show 600-(600-W1 x2 (600-j2))=W1 x2 (600-j2) by omega];exact XE),rfl,rfl,rfl⟩ (wk [0] (fq (fw (ZQ j fl))))
   refine Z1 1 35 (.b true) (ie (WU (ar (ir 1 [(4,.b false)] (ie ?_)))))
   exact Zb (r1 [] (.inr ⟨rfl,rfl,(by rw [hbe,<-Zy,Y8 Z3,Td,Zc om,Zo (by rw [E7,show (600-q-1:Int)=600-(q+1) by omega,<-XE,Y8 Zt,Tw,Zo Y1];omega)];omega)⟩))
  have hE:Tw x1.kids (600-(q+1))=600-j2:=by rw [<-XE,Xb om,Tw]
  refine ax 2 (az (ZL k (Z5 1 (.n 12 (.i (k+1:Nat)) (.p (.d (.k (.k (.k .z)))))) (ie ?_))))
  have hdr:=Y8 Z3
  exact ZO ⟨k+1,j2,ob,ob,(by rw [Y8 Z3,Td,Zc om,E7,show (600-q-1:Int)=600-(q+1) by omega,hE,Zc om] at Zy;exact Zy),rfl,rfl,rfl⟩ (wk [0] (fw (fr (ZQ k fl))))
 refine ax 0 (ar (ir 1 [(4,.b true)] (ie ?_)))
 have hF:W1 b (600-v)=600-q:=by rw [hbe,<-Zy,Xb om,Td]
 exact Zb (r1 [0] (.inl ⟨rfl,rfl,om⟩) (eq:=(ro (ls:=[.i q]) (by rw [hF,show (600-(600-q):Int)=q by omega]) rz)))
theorem Z1k:∀(b:Z6) (c:Nat) (v:Int),(b.sz<=1000000000)->(0<=v/\v<=600)->Zi Tryz.prog 63 [Zs b,.p c 0] [.obj c [.i v]] (fun r h=>(r=.b true/\h=[.obj c [.i (600-W1 b (600-v))]]/\0<=W1 b (600-v))∨(r=.b false/\h=[]/\W1 b (600-v)<0)):=by
 have key:∀m:Nat,∀(b:Z6) (c:Nat) (v:Int),(b.sz<=m)->(b.sz<=1000000000)->(0<=v/\v<=600)->Zi Tryz.prog 63 [Zs b,.p c 0] [.obj c [.i v]] (fun r h=>(r=.b true/\h=[.obj c [.i (600-W1 b (600-v))]]/\0<=W1 b (600-v))∨(r=.b false/\h=[]/\W1 b (600-v)<0)):=by
  intro m
  induction m with
  | zero=>intro b c v h;have:=b.sz_pos;omega
  | succ m ih=>intro b c v h1 h2 h3;exact Z1l b c v h2 h3 fun b2 c2 v2 k1 k2=>ih b2 c2 v2 om om k2
 intro b c v h2 h3
 exact key b.sz b c v (X6 _) h2 h3
theorem Z1c (b:Z6) (hb:b.sz<=1000000000:=by exact ob):Zi Tryz.prog 22 [Zs b] [] (fun r h=>r=.i (U9 b)/\h=[]):=by
 refine ZK 8 Tryz.func22 (ar (iA (Yk b) ?_))
 intro b1
 refine ir 1 [(1,.p b1 0)] (ie (ar (iA [.i 0] ?_)))
 intro b2
 refine ZF 0 b2 [.i 0] (ie (aq (ar (Yl 1 4 (Zs b) [1] [b1] (ic [0] (Z1k b b2 0 ob ob) ?_)))))
 rintro _ _ (⟨rfl,rfl,ZP⟩|⟨rfl,rfl,Y1⟩)
 ·have h0:=ZP
  rw [show (600-0:Int)=600 from rfl] at h0
  refine Z1 1 6 (.b false) (ie (WT (ak (ar (iR 2 [(2,.i (600-W1 b (600-0)))] [0] [b2] (ie ?_))))))
  exact Zb (r2 [] [.i (600-W1 b (600-0))] ⟨rfl,rfl⟩ (li (by rw [show (600-0:Int)=600 from rfl,U9,Zc om])))
 have h0:=Y1
 rw [show (600-0:Int)=600 from rfl] at h0
 refine Z1 1 6 (.b true) (ie (WU (ar (ir 1 [(2,.i (-1))] (ie ?_)))))
 exact Zb (r2 [] [.i (-1)] ⟨rfl,rfl⟩ (li (by rw [U9,Zo h0])))
theorem Z1t (ds:List Zf) (fs:List WG) (hz:J1 ds:=by exact ob) (hf:∀f∈fs,f.pms.length<=4194304/\f.lnt.length<=4194304) (hfl:fs.length<=4194304:=by exact ob):Zi Tryz.prog 90 [Zd ds,Vm fs] [] (fun r h=>r=.b (Qu ds fs)/\h=[]):=by
 have hzl:=hz.len
 refine ZK 102 Tryz.func90 (ar (ir 1 [(0,Zd ds),(1,Vm fs)] (ie (aq (ar (Z1 1 9 (Zd ds) (ZA [] (Z1d ds) (XQ 8 [(0,Zd ds),(1,Vm fs),(16,.b ((!Wh ds)||(decide ((fs.length:Int)<1))))] [] ?_ (fun hj1=>?_)))))))))
 ·refine XQ 13 [(0,Zd ds),(1,Vm fs),(21,.b (((!Wh ds)||(decide ((fs.length:Int)<1)))||(decide ((fs.length:Int)>4))))] [] ?_ (fun hj2=>?_)
  ·refine ir 1 [(0,Zd ds),(1,Vm fs),(22,.b (((!Wh ds)||(decide ((fs.length:Int)<1)))||(decide ((fs.length:Int)>4))))] (ib (b:=(((!Wh ds)||(decide ((fs.length:Int)<1)))||(decide ((fs.length:Int)>4)))) 22 (fun Za=>?_) (fun Za=>?_))
   ·have ZP:((¬(Wh ds=true))∨((fs.length:Int)<1))∨((fs.length:Int)>4):=((Yo (Yo (Yw Iff.rfl) dq) dq)).1 Za
    refine Z5 14 (.n 36 (.b true) (.d (.k (.k .z)))) (ie (WU (ar (ir 1 [(4,.b false)] (ie ?_)))))
    exact Zb (r2 [] [.b false] ⟨rfl,rfl⟩ (lb (Z8z (by assumption))))
   have Y1:¬(((¬(Wh ds=true))∨((fs.length:Int)<1))∨((fs.length:Int)>4)):=ZI (Yo (Yo (Yw Iff.rfl) dq) dq) Za
   refine Z5 1 (.n 23 (Vm fs) (.k (.k (.k .z)))) ?_
   obtain ⟨x1,Z3⟩:=Zr (xs:=fs) (j:=0) om
   refine Zq (Zm none 0 3 (Bt Z3)) (Z1 2 26 (Z0 x1.pms) (iw (Yh x1.pms) (Z1 3 30 (.b (decide ((x1.pms.length:Int)>0))) (ib (b:=(decide ((x1.pms.length:Int)>0))) 30 (fun Zz=>?_) (fun Zz=>?_)))))
   ·have Yy:(x1.pms.length:Int)>0:=(dq).1 Zz
    refine Z5 6 (.n 36 (.b true) (.k (.d .r))) (ie (WU (ar (ir 1 [(4,.b false)] (ie ?_)))))
    exact Zb (r2 [] [.b false] ⟨rfl,rfl⟩ (lb (Oi Z3 (.inl (by assumption)))))
   have YK:¬((x1.pms.length:Int)>0):=ZI dq Zz
   refine Z5 1 (.n 31 (Vm fs) (.k (.d .r))) (Zq (Zm none 0 3 (Bt Z3)) (Z1 4 36 (.b (x1.res != 0)) (ie (ac (x1.res != 0) Yi (fun Ze=>?_) (fun Ze=>?_)))))
   ·refine ar (ir 1 [(4,.b false)] (ie ?_))
    exact Zb (r2 [] [.b false] ⟨rfl,rfl⟩ (lb (Oi Z3 (.inr Ze))))
   refine ak (aq (ar (Z1 1 37 (Vm fs) (iw (Cf fs) (Z1 1 39 (.i 0) (ie (ab 0 (al (fun m F h=>∃(k:Nat),(k<=fs.length)/\(Qq ds.length (fs.drop k)=Qq ds.length fs)/\F=[(0,Zd ds),(37,Vm fs),(38,.i fs.length),(39,.i k)]/\h=[]/\m=fs.length-k) _ _ _ ⟨0,ob,ob,rfl,rfl,rfl⟩ (wk [] (fw (fr (Ya fl)))) ?_))))))))
   rintro m F h ⟨k,Yj,Zp,rfl,rfl,rfl⟩
   refine ar (Z1 1 40 (.b (decide ((k:Int)<(fs.length:Int)))) (ie (aq (ZM ((k:Int)<(fs.length:Int)) (fun Zk=>?_) (fun Zk=>?_)))))
   ·refine ak (aq (ab 1 (ar ?_)))
    obtain ⟨x2,Zt⟩:=Zr (xs:=fs) (j:=k) om
    have hf2:=hf _ (Y7 Zt)
    refine Zq (Zm none (k:Int) 3 (Bt Zt)) (Z1 1 42 (Db x2) (iA [nl,nl,.i 0] ?_))
    intro b1
    refine ZF 0 b1 (BH x2) (ie (aq (ar (Yl 2 44 (Z0 x2.pms) [0] [b1] (iw (Yh x2.pms) (XQ 11 [(0,Zd ds),(6,.p b1 0),(37,Vm fs),(38,.i fs.length),(39,.i k),(53,.b ((decide ((x2.pms.length:Int)>3))||(!XJ ds.length x2.pms)))] [.obj b1 (BH x2)] ?_ (fun hj3=>?_)))))))
    ·refine Xo [(0,Zd ds),(6,.p b1 0),(37,Vm fs),(38,.i fs.length),(39,.i k),(60,.b (((decide ((x2.pms.length:Int)>3))||(!XJ ds.length x2.pms))||(!(decide (0<=x2.res/\x2.res<=ds.length)))))] [.obj b1 (BH x2)] ?_ ?_
     ·refine ir 1 [(0,Zd ds),(6,.p b1 0),(37,Vm fs),(38,.i fs.length),(39,.i k),(54,.b ((decide ((x2.pms.length:Int)>3))||(!XJ ds.length x2.pms)))] (ib (b:=((decide ((x2.pms.length:Int)>3))||(!XJ ds.length x2.pms))) 54 (fun YE=>?_) (fun YE=>?_))
      ·have X0:((x2.pms.length:Int)>3)∨(¬(XJ ds.length x2.pms=true)):=((Yo dq (Yw Iff.rfl))).1 YE
       refine Z5 6 (.n 60 (.b true) (.d (.w (.k .z)))) (ie ?_)
       exact wk [0] (fq (fr (Zu true YE fl)))
      have XB:¬(((x2.pms.length:Int)>3)∨(¬(XJ ds.length x2.pms=true))):=ZI (Yo dq (Yw Iff.rfl)) YE
      refine Y2 3 (.n 55 (Zd ds) (.n 57 (.i x2.res) (.w (.k (.k .z))))) [0] [b1] (ZA [] (DX ds x2.res) (Z1 2 60 (.b (!(decide (0<=x2.res/\x2.res<=ds.length)))) (ie ?_)))
      exact wk [0] (fq (fr (Zu (!(decide (0<=x2.res/\x2.res<=ds.length))) YE fl)))
     refine ac (((decide ((x2.pms.length:Int)>3))||(!XJ ds.length x2.pms))||(!(decide (0<=x2.res/\x2.res<=ds.length)))) (p:=(((x2.pms.length:Int)>3)∨(¬(XJ ds.length x2.pms=true)))∨(¬(0<=x2.res/\x2.res<=ds.length))) (Yo (Yo dq (Yw Iff.rfl)) (Yw dq)) (fun ZG=>?_) (fun ZG=>?_)
     ·refine ar (ir 1 [(4,.b false)] (ie ?_))
      exact Zb (r2 [] [.b false] ⟨rfl,rfl⟩ (lb (EM (Ez Zt (Z5o ZG) Zp))))
     refine ak (ar (iR 2 [(0,Zd ds),(6,.p b1 0),(37,Vm fs),(38,.i fs.length),(39,.i k),(62,Z0 x2.lnt)] [0] [b1] (iw (Yh x2.lnt) (Z1 1 64 (.i 0) (ie (ab 2 (al (fun m F h=>∃(j:Nat),(j<=x2.lnt.length)/\(Qp x2.pms (x2.lnt.drop j) (if j=0 then none else x2.lnt[j-1]?)=K1 x2.pms x2.lnt)/\F=[(0,Zd ds),(6,.p b1 0),(37,Vm fs),(38,.i fs.length),(39,.i k),(62,Z0 x2.lnt),(63,.i x2.lnt.length),(64,.i j)]/\h=[.obj b1 (BH x2)]/\m=x2.lnt.length-j) _ _ _ ⟨0,ob,(by rfl),rfl,rfl,rfl⟩ (wk [0] (fq (fw (fr (Ya fl))))) ?_)))))))
     rintro m F h ⟨j,VS,XH,rfl,rfl,rfl⟩
     refine ar (Z1 1 65 (.b (decide ((j:Int)<(x2.lnt.length:Int)))) (ie (aq (ZM ((j:Int)<(x2.lnt.length:Int)) (fun Ym=>?_) (fun Ym=>?_)))))
     ·refine ak (aq (ab 3 (ar (Z1 1 66 (.i j) ?_))))
      obtain ⟨x3,YT⟩:=Zr (xs:=x2.lnt) (j:=j) om
      refine Zq (Zm none (j:Int) 1 (Y4 YT)) (Yq 3 7 (.i j) 8 (.i x3) (ie (ar (XQ 9 [(0,Zd ds),(6,.p b1 0),(7,.i j),(8,.i x3),(37,Vm fs),(38,.i fs.length),(39,.i k),(62,Z0 x2.lnt),(63,.i x2.lnt.length),(64,.i j),(77,.b ((decide (x3<0))||(decide (x3>=(x2.pms.length:Int)))))] [.obj b1 (BH x2)] ?_ (fun hj4=>?_)))))
      ·refine ir 1 [(0,Zd ds),(6,.p b1 0),(7,.i j),(8,.i x3),(37,Vm fs),(38,.i fs.length),(39,.i k),(62,Z0 x2.lnt),(63,.i x2.lnt.length),(64,.i j),(78,.b ((decide (x3<0))||(decide (x3>=(x2.pms.length:Int)))))] (ib (b:=((decide (x3<0))||(decide (x3>=(x2.pms.length:Int))))) 78 (fun Xf=>?_) (fun Xf=>?_))
       ·have Wk:(x3<0)∨(x3>=(x2.pms.length:Int)):=((Yo dq dq)).1 Xf
        refine Z5 21 (.n 99 (.b true) (.d (.k (.k (.d (.d (.w (.k (.k .z))))))))) (ie (WU (ar (ir 1 [(4,.b false)] (ie ?_)))))
        exact Zb (r2 [] [.b false] ⟨rfl,rfl⟩ (lb (EM (Ez Zt (H4 (GJ YT (by rintro ⟨q1,q2,q3⟩;first|omega|(rw [Uh] at q2;exact q2 (Yx some om))|(have:=q3 _ (by rw [Zc om];exact UN);omega)) XH)) Zp))))
       have WJ:¬((x3<0)∨(x3>=(x2.pms.length:Int))):=ZI (Yo dq dq) Xf
       refine Y2 3 (.n 80 (Z0 x2.pms) (.n 81 (.i x3) (.w (.w (.k (.k (.k .z))))))) [0] [b1] ?_
       obtain ⟨x4,Uh⟩:=Zr (xs:=x2.pms) (j:=x3.toNat) om
       refine Zq (Zm none x3 1 (Y4 Uh)) (Z1 4 86 (.b (x4==0)) (ib (b:=(x4==0)) 86 (fun Wb=>?_) (fun Wb=>?_)))
       ·have V4:x4=0:=(Zh).1 Wb
        refine Z5 13 (.n 99 (.b true) (.k (.d .r))) (ie (WU (ar (ir 1 [(4,.b false)] (ie ?_)))))
        exact Zb (r2 [] [.b false] ⟨rfl,rfl⟩ (lb (EM (Ez Zt (H4 (GJ YT (by rintro ⟨q1,q2,q3⟩;first|omega|(rw [Uh] at q2;exact q2 (Yx some om))|(have:=q3 _ (by rw [Zc om];exact UN);omega)) XH)) Zp))))
       have Ug:¬(x4=0):=ZI Zh Wb
       refine Z5 3 (.n 89 (.b (decide ((j:Int)>0))) (.k (.d .r))) (ib (b:=(decide ((j:Int)>0))) 89 (fun WC=>?_) (fun WC=>?_))
       ·have UM:(j:Int)>0:=(dq).1 WC
        refine Y2 4 (.n 90 (.i x3) (.n 92 (Z0 x2.lnt) (.n 93 (.i j) (.k (.d .r))))) [0] [b1] (ia (((j-1:Nat):Int)) (((j:Int))-(1)) ?_)
        obtain ⟨x5,UN⟩:=Zr (xs:=x2.lnt) (j:=j-1) om
        refine Zq (Zm none ((j-1:Nat):Int) 1 (Y4 UN)) (Z1 4 99 (.b (decide (x3<=x5))) (ie (ZM (x3<=x5) (fun Xi=>?_) (fun Xi=>?_))))
        ·refine ar (ir 1 [(4,.b false)] (ie ?_))
         exact Zb (r2 [] [.b false] ⟨rfl,rfl⟩ (lb (EM (Ez Zt (H4 (GJ YT (by rintro ⟨q1,q2,q3⟩;first|omega|(rw [Uh] at q2;exact q2 (Yx some om))|(have:=q3 _ (by rw [Zc om];exact UN);omega)) XH)) Zp))))
        refine ak (az (ZL j (Z5 1 (.n 64 (.i (j+1:Nat)) (.p (.d (.p (.p (.d (.d (.d (.d (.d (.p (.d (.d (.d (.k (.k (.d (.d (.w (.k .z)))))))))))))))))))) (ie ?_))))
        have hdr:=Y8 YT
        exact ZO ⟨j+1,ob,(M2 YT ⟨by omega,(by rw [Uh];intro q;cases q;omega),fun p hp=>by first|(rw [Zo om] at hp;cases hp;done)|(rw [Zc om,UN] at hp;cases hp;omega)⟩ XH),rfl,rfl,rfl⟩ (wk [0] (fq (fw (fr (ZQ j fl)))))
       have Uw:¬((j:Int)>0):=ZI dq WC
       refine Z5 10 (.n 99 (.b false) (.k (.d .r))) (ie (WT (ak (az (ZL j (Z5 1 (.n 64 (.i (j+1:Nat)) (.p (.d (.d (.d (.p (.d (.d (.d (.k (.k (.d (.d (.w (.k .z))))))))))))))) (ie ?_)))))))
       have hdr:=Y8 YT
       exact ZO ⟨j+1,ob,(M2 YT ⟨by omega,(by rw [Uh];intro q;cases q;omega),fun p hp=>by first|(rw [Zo om] at hp;cases hp;done)|(rw [Zc om,UN] at hp;cases hp;omega)⟩ XH),rfl,rfl,rfl⟩ (wk [0] (fq (fw (fr (ZQ j fl)))))
      refine ir 3 [(0,Zd ds),(6,.p b1 0),(7,.i j),(8,.i x3),(37,Vm fs),(38,.i fs.length),(39,.i k),(62,Z0 x2.lnt),(63,.i x2.lnt.length),(64,.i j),(71,.b (decide (x3<0)))] (ib (b:=(decide (x3<0))) 71 (fun WX=>?_) (fun WX=>?_))
      ·have Tu:x3<0:=(dq).1 WX
       refine Z5 6 (.n 77 (.b true) (.d (.w (.w (.k (.k .z)))))) ?_
       exact YG (wk [0] (fq (fq (fw (Zu true WX fl))))) hj4
      have Tc:¬(x3<0):=ZI dq WX
      refine Y2 3 (.n 72 (.i x3) (.n 74 (Z0 x2.pms) (.w (.w (.k (.k (.k .z))))))) [0] [b1] (iw (Yh x2.pms) (Z1 2 77 (.b (decide (x3>=(x2.pms.length:Int)))) ?_))
      exact YG (wk [0] (fq (fq (fw (Zu (decide (x3>=(x2.pms.length:Int))) WX fl))))) hj4
     have hL:K1 x2.pms x2.lnt=true:=by rw [<-XH,Xb om];rfl
     have hS:=Z5p ZG hL
     refine ax 2 (az (ZL k (Z5 1 (.n 39 (.i (k+1:Nat)) (.p (.d (.k (.d (.k (.k .z))))))) (ie ?_))))
     have hdr:=Y8 Zt
     exact ZO ⟨k+1,ob,(Z68 Zt hS Zp),rfl,rfl,rfl⟩ (wk [] (fw (fr (ZQ k fl))))
    refine ir 2 [(0,Zd ds),(6,.p b1 0),(37,Vm fs),(38,.i fs.length),(39,.i k),(47,.b (decide ((x2.pms.length:Int)>3)))] (ib (b:=(decide ((x2.pms.length:Int)>3))) 47 (fun WH=>?_) (fun WH=>?_))
    ·have QJ:(x2.pms.length:Int)>3:=(dq).1 WH
     refine Z5 6 (.n 53 (.b true) (.d (.w (.k .z)))) ?_
     exact YG (wk [0] (fq (fr (Zu true WH fl)))) hj3
    have QK:¬((x2.pms.length:Int)>3):=ZI dq WH
    refine Y2 3 (.n 48 (Zd ds) (.n 50 (Z0 x2.pms) (.w (.k (.k .z))))) [0] [b1] (ZA [] (Ly ds x2.pms) (Z1 2 53 (.b (!XJ ds.length x2.pms)) ?_))
    exact YG (wk [0] (fq (fr (Zu (!XJ ds.length x2.pms) WH fl)))) hj3
   refine ax 0 (ar (ir 1 [(4,.b true)] (ie ?_)))
   exact Zb (r2 [] [.b true] ⟨rfl,rfl⟩ (lb (Z90 (by assumption) Z3 (by assumption) Ze (by rw [<-Zp,Xb om];rfl))))
  refine ir 1 [(0,Zd ds),(1,Vm fs),(17,.b ((!Wh ds)||(decide ((fs.length:Int)<1))))] (ib (b:=((!Wh ds)||(decide ((fs.length:Int)<1)))) 17 (fun WI=>?_) (fun WI=>?_))
  ·have Jm:(¬(Wh ds=true))∨((fs.length:Int)<1):=((Yo (Yw Iff.rfl) dq)).1 WI
   refine Z5 4 (.n 21 (.b true) (.d (.k (.k .z)))) ?_
   exact YG (wk [] (fw (Zu true WI fl))) hj2
  have QL:¬((¬(Wh ds=true))∨((fs.length:Int)<1)):=ZI (Yo (Yw Iff.rfl) dq) WI
  refine Z5 1 (.n 18 (Vm fs) (.k (.k (.k .z)))) (iw (Cf fs) (Z1 2 21 (.b (decide ((fs.length:Int)>4))) ?_))
  exact YG (wk [] (fw (Zu (decide ((fs.length:Int)>4)) WI fl))) hj2
 refine ir 2 [(0,Zd ds),(1,Vm fs),(12,.b (!Wh ds))] (ib (b:=(!Wh ds)) 12 (fun TH=>?_) (fun TH=>?_))
 ·have Ls:¬(Wh ds=true):=((Yw Iff.rfl)).1 TH
  refine Z5 4 (.n 16 (.b true) (.d (.k (.k .z)))) ?_
  exact YG (wk [] (fw (Zu true TH fl))) hj1
 have Lu:¬(¬(Wh ds=true)):=ZI (Yw Iff.rfl) TH
 refine Z5 1 (.n 13 (Vm fs) (.k (.k (.k .z)))) (iw (Cf fs) (Z1 2 16 (.b (decide ((fs.length:Int)<1))) ?_))
 exact YG (wk [] (fw (Zu (decide ((fs.length:Int)<1)) TH fl))) hj1
theorem Z1o (n:Zx) (hz:TC n:=by exact ob):Zi Tryz.prog 54 [ZD n] [] (fun r h=>(r=.tup [.agg [Zd n.decls,Xk n],.b (VL n)]/\h=[]/\n.routines.length<=4)∨(r=.tup [.agg [Zd [],Vm []],.b false]/\h=[]/\VL n=false)):=by
 have hzl:=hz.len
 refine ZK 41 Tryz.func54 (ar (iA (ZU n) ?_))
 intro b1
 refine iA [nl,nl] ?_
 intro b2
 refine ir 1 [(1,.p b1 0),(2,.p b2 0)] (ie (aq (ar (Yl 2 8 (YZ n.routines) [1] [b1] (iw (VV n.routines) (Z1 1 10 (.b (decide ((n.routines.length:Int)>4))) (ie (ZM ((n.routines.length:Int)>4) (fun Ze=>?_) (fun Ze=>?_)))))))))
 ·refine ar (Z1 1 11 (.agg [nl,nl]) (ZF 0 b2 [nl,nl] (Z1 1 3 (.b false) (ie ?_))))
  exact Zb (r3 [] [.agg [nl,nl],.b false] [0] [(b2,b2)] (.inr ⟨rfl,rfl,(by rw [Mb,decide_eq_false om];rfl)⟩) (Zg.tup (.cons (Zg.agg (.cons (Zg.sl _ rfl) (.cons (Zg.sl _ rfl) .nil))) (.cons (lr _) .nil))))
 refine ak (ar (Yl 3 14 (.agg [Zd n.decls,nl]) [1] [b1] (iA [nl,nl] ?_)))
 intro b3
 refine ZF 0 b3 [Zd n.decls,nl] (ie (aq (ar (Yl 2 16 (YZ n.routines) [2] [b1] (iw (VV n.routines) (Z1 1 18 (.i 0) (ie (ab 0 (Dd 3 (al (fun m F h=>∃(k:Nat) (v:Value),(k<=n.routines.length)/\F=[(1,.p b1 0),(2,.p b2 0),(4,.p b3 0),(16,YZ n.routines),(17,.i n.routines.length),(18,.i k)]/\h=[.obj b3 [Zd n.decls,BM ((n.routines.take k).map XA) v],.obj b2 [nl,nl],.obj b1 (ZU n),.tail v 3]/\m=n.routines.length-k) _ _ _ ⟨0,(.slice none 0 0),ob,rfl,rfl,rfl⟩ (wk [1,1,1,0] (fq (fr (Ya fl)))) ?_))))))))))
 rintro m F h ⟨k,v,Yj,rfl,rfl,rfl⟩
 refine ar (Z1 1 19 (.b (decide ((k:Int)<(n.routines.length:Int)))) (ie (aq (ZM ((k:Int)<(n.routines.length:Int)) (fun Zk=>?_) (fun Zk=>?_)))))
 ·refine ak (aq (ab 1 (ar ?_)))
  obtain ⟨x1,Z3⟩:=Zr (xs:=n.routines) (j:=k) om
  refine Zq (Zm none (k:Int) 5 (WB Z3)) (Z1 1 21 (WS x1) (iA [nl,nl,.i 0,nl,.i 0] ?_))
  intro b4
  refine ZF 0 b4 (VW x1) (ie (az (ZY 9 23 (BM ((n.routines.take k).map XA) v) 30 (.agg [Z0 x1.params,Z0 x1.lent,.i x1.result]) [1,0,0,0] [b3,b4,b4,b4] (iL (UI [WG.mk x1.params x1.lent x1.result]) 1 3 ?_))))
  intro v1
  refine Z5 0 (.n 31 (Vm [WG.mk x1.params x1.lent x1.result]) (.p .r)) (ip 5 (UI ((n.routines.take (k+1)).map XA)) (UI ((n.routines.take k).map XA)) (UI [WG.mk x1.params x1.lent x1.result]) v none 3 (Iw _) (Iw _) (RA _) (by simp<;>omega) (by rw [WM Z3];simp [UI,XA]) ?_)
  intro v2
  refine Z1 1 33 (.p b3 1) (ZF 3 b3 [Zd n.decls,BM ((n.routines.take (k+1)).map XA) v2] (ie (az (ZL k (Z5 1 (.n 18 (.i (k+1:Nat)) (.p (.d (.p (.d (.d (.d (.p (.d (.p (.d (.w (.k .z))))))))))))) (ie ?_))))))
  have hdr:=Y8 Z3
  exact ZO ⟨k+1,v2,ob,rfl,rfl,rfl⟩ (wk [0,3,3,0] (fq (fr (ZQ k fl))))
 refine ax 0 (aD 8 (Y6 3 8 [0,1,2,3,4] (.n 35 (.agg [Zd n.decls,BM ((n.routines.take k).map XA) v]) (.n 37 (Zd n.decls) (.n 39 (Vm ((n.routines.take k).map XA)) .r))) [0,2,0] [b3,b1,b3] (Z9 5 (Yv 5 [] [0] [b3] (Z1t n.decls ((n.routines.take k).map XA) (hz:=hz.decls) (hf:=(by intro f hf;obtain ⟨r,h1,rfl⟩:=W6.1 hf;have:=TR h1;exact ⟨hz.params r this,hz.lent r this⟩))) (Z9 6 (YL 6 1 [] [] b2 [Zd n.decls,BM ((n.routines.take k).map XA) v] (ZZ 0 1 [7] 3 (.b (Qu n.decls ((n.routines.take k).map XA))) (de ?_))))))))
 have htk:n.routines.take k=n.routines:=Vg om
 exact Zb (r3 [] [.agg [Zd n.decls,BM ((n.routines.take k).map XA) v],.b (Qu n.decls ((n.routines.take k).map XA))] [0] [(b2,b2)] (.inl ⟨rfl,rfl,om⟩) (Zg.tup (.cons (Zg.agg (.cons (lr _) (.cons (Zg.sl _ (Yx UI (by rw [htk]))) .nil))) (.cons (lb (by rw [htk,Mb,decide_eq_true (p:=n.routines.length<=4) om,Bool.true_and])) .nil))))
end Go.Abs
