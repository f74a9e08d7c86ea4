/-
  A part of the proofs of several laws (see the last file): no condition.
-/
import Derived.Test.YtfjgjacklgaioaaGreatVjD
import Derived.RangeFuncNested
import Derived.RangeFuncBound
import Derived.RangeFuncCalls
import Derived.RangeFuncLeaves
import Derived.Shelf.Abstract
import Derived.Shelf.RegionOpen
import Derived.WalkKit
import Derived.OwnWalkIn
import Derived.TacticsInMore
import Derived.LoopNIn
import Derived.LoopIn
import Derived.Test.YtfjgjacklgaioaaGreatProg
import Derived.Shelf.RegionOpenPlain
import Derived.Lib.Walk
import Derived.Lib.SliceRun
import Derived.Lib.JoinLaws
import Derived.Lib.AppendZeros
import Derived.Lib.AppendZerosOnto
import Derived.Lib.Overlaps
import Derived.Laws.Externs
import Derived.Laws.IdiomCopy
import Derived.Laws.NewBlocks
set_option linter.all false
set_option linter.unusedVariables false
set_option linter.unusedSimpArgs false
set_option linter.unusedSectionVars false
set_option maxRecDepth 10000
set_option maxHeartbeats 4000000
namespace Go.Abs
open Go.Proofs
theorem R0 (n:Zi) (ln:LI) (hn:X6 n) (hln:ln.length<=4294967296) (m:Nat):∀(b2:Z6) (c:Nat) (ra:Hd) (rb:Hd) (rc:Hd) (rd:Hd) (re:Hd) (rf:Hd) (M:Zh) (mm:Nat) (p:Int),(b2.sz<m+1)->(Xb n.decls M p)->(0<=Xh n M.vars b2)->(mm<=M.vars.length)->(M.vars.length+4*b2.sz<=1000000000)->(0<=p/\p+4*b2.sz<=999999990)->Zk 170 [.p c 0,Yq n,ZZ b2,.i mm] [.obj c [.h ra,.h rb,.h rc,.h rd,.h re,.h rf,Z5 ln],rV ra M.vars,rV rb M.own,rV rc M.par,rV rd M.con,rV re M.fst,rV rf M.tok] (fun r h=>(∃(wa:Hd) (wb:Hd) (wc:Hd) (wd:Hd) (we:Hd) (wf:Hd) (M':Zh),r=.b true/\h=[.obj c [.h wa,.h wb,.h wc,.h wd,.h we,.h wf,Z5 ln],rV wa M'.vars,rV wb M'.own,rV wc M'.par,rV wd M'.con,rV we M'.fst,rV wf M'.tok]/\Wk n ln M mm b2=some M')∨(r=.b false/\h=[]/\Wk n ln M mm b2=none)):=by
 induction m with
 | zero=>intro b c ga gb gc gd ge gf L mm q h;have:=b.sz_pos;omega
 | succ m ih=>
  intro b c ga gb gc gd ge gf L mm q h1 hk ht hm hb hp
  exact Zbj c ga gb gc gd ge gf n b L ln q mm hn hk ht hm hb hp hln fun s c ga gb gc gd ge gf L q h2 hk ht hb hp=>R4 c ga gb gc gd ge gf n s L ln q hn hk ht hb hp hln
   fun b2 c ga gb gc gd ge gf L mm q h3 hk ht hm hb hp=>ih b2 c ga gb gc gd ge gf L mm q om hk ht hm hb hp
theorem Zbp (n:Zi) (ln:LI) (hn:X6 n) (hln:ln.length<=4294967296) (m:Nat):∀(s2:Z4) (c:Nat) (ra:Hd) (rb:Hd) (rc:Hd) (rd:Hd) (re:Hd) (rf:Hd) (M:Zh) (p:Int),(s2.sz<m+1)->(Xb n.decls M p)->(0<=Yc n M.vars s2)->(M.vars.length+4*s2.sz<=1000000000)->(0<=p/\p+4*s2.sz<=999999990)->Zk 151 [.p c 0,Yq n,YI s2] [.obj c [.h ra,.h rb,.h rc,.h rd,.h re,.h rf,Z5 ln],rV ra M.vars,rV rb M.own,rV rc M.par,rV rd M.con,rV re M.fst,rV rf M.tok] (fun r h=>(∃(wa:Hd) (wb:Hd) (wc:Hd) (wd:Hd) (we:Hd) (wf:Hd) (M':Zh),r=.b true/\h=[.obj c [.h wa,.h wb,.h wc,.h wd,.h we,.h wf,Z5 ln],rV wa M'.vars,rV wb M'.own,rV wc M'.par,rV wd M'.con,rV we M'.fst,rV wf M'.tok]/\Vb n ln M s2=some M')∨(r=.b false/\h=[]/\Vb n ln M s2=none)):=by
 intro s c ga gb gc gd ge gf L q h2 hk ht hb hp
 exact R4 c ga gb gc gd ge gf n s L ln q hn hk ht hb hp hln fun b2 c ga gb gc gd ge gf L mm q h3 hk ht hm hb hp=>R0 n ln hn hln m b2 c ga gb gc gd ge gf L mm q om hk ht hm hb hp
theorem Zbi (c:Nat) (ra:Hd) (rb:Hd) (rc:Hd) (rd:Hd) (re:Hd) (rf:Hd) (n:Zi) (b2:Z6) (M:Zh) (ln:LI) (mm:Nat) (p:Int) (hn:X6 n) (hln:ln.length<=4294967296) (hk:Xb n.decls M p) (ht:0<=Xh n M.vars b2) (hm:mm<=M.vars.length) (hb:M.vars.length+4*b2.sz<=1000000000) (hp:0<=p/\p+4*b2.sz<=999999990):Zk 170 [.p c 0,Yq n,ZZ b2,.i mm] [.obj c [.h ra,.h rb,.h rc,.h rd,.h re,.h rf,Z5 ln],rV ra M.vars,rV rb M.own,rV rc M.par,rV rd M.con,rV re M.fst,rV rf M.tok] (fun r h=>(∃(wa:Hd) (wb:Hd) (wc:Hd) (wd:Hd) (we:Hd) (wf:Hd) (M':Zh),r=.b true/\h=[.obj c [.h wa,.h wb,.h wc,.h wd,.h we,.h wf,Z5 ln],rV wa M'.vars,rV wb M'.own,rV wc M'.par,rV wd M'.con,rV we M'.fst,rV wf M'.tok]/\Wk n ln M mm b2=some M')∨(r=.b false/\h=[]/\Wk n ln M mm b2=none)):=R0 n ln hn hln b2.sz b2 c ra rb rc rd re rf M mm p om hk ht hm hb hp
theorem Zbo (c:Nat) (ra:Hd) (rb:Hd) (rc:Hd) (rd:Hd) (re:Hd) (rf:Hd) (n:Zi) (s2:Z4) (M:Zh) (ln:LI) (p:Int) (hn:X6 n) (hln:ln.length<=4294967296) (hk:Xb n.decls M p) (ht:0<=Yc n M.vars s2) (hb:M.vars.length+4*s2.sz<=1000000000) (hp:0<=p/\p+4*s2.sz<=999999990):Zk 151 [.p c 0,Yq n,YI s2] [.obj c [.h ra,.h rb,.h rc,.h rd,.h re,.h rf,Z5 ln],rV ra M.vars,rV rb M.own,rV rc M.par,rV rd M.con,rV re M.fst,rV rf M.tok] (fun r h=>(∃(wa:Hd) (wb:Hd) (wc:Hd) (wd:Hd) (we:Hd) (wf:Hd) (M':Zh),r=.b true/\h=[.obj c [.h wa,.h wb,.h wc,.h wd,.h we,.h wf,Z5 ln],rV wa M'.vars,rV wb M'.own,rV wc M'.par,rV wd M'.con,rV we M'.fst,rV wf M'.tok]/\Vb n ln M s2=some M')∨(r=.b false/\h=[]/\Vb n ln M s2=none)):=Zbp n ln hn hln s2.sz s2 c ra rb rc rd re rf M p om hk ht hb hp
theorem Z01 (rt:Y8) (hp:rt.params.length<=1000000:=by exact ob) (hl:rt.lent.length<=4294967296:=by exact ob):Zk 150 [Kx rt] [] (fun r h=>∃(c:Nat) (wa:Hd) (wb:Hd) (wc:Hd) (wd:Hd) (we:Hd) (wf:Hd),r=.p c 0/\h=[.obj c [.h wa,.h wb,.h wc,.h wd,.h we,.h wf,Z5 rt.lent],rV wa ((WO rt).vars),rV wb ((WO rt).own),rV wc ((WO rt).par),rV wd ((WO rt).con),rV we ((WO rt).fst),rV wf ((WO rt).tok)]):=by
 refine ZF 45 Tryz.func150 (ar (iA (KH rt) fun b1=>Z0 (Zw 2 [0] (ic [] (UD rt.lent) ?_))))
 rintro _ _ ⟨v1,rfl,rfl⟩
 refine ZU 1 [(8,.agg [nl,nl,nl,nl,nl,nl,Z5 rt.lent])] (iA [nl,nl,nl,nl,nl,nl,Z5 rt.lent] fun b2=>?_)
 refine W7 (Z0z 0 b2 [nl,nl,nl,nl,nl,nl,Z5 rt.lent] [.h hN,.h hN,.h hN,.h hN,.h hN,.h hN,Z5 rt.lent] (.cons (Ze.hd (v:=hN)) (.cons (Ze.hd (v:=hN)) (.cons (Ze.hd (v:=hN)) (.cons (Ze.hd (v:=hN)) (.cons (Ze.hd (v:=hN)) (.cons (Ze.hd (v:=hN)) (.cons (lr _) .nil)))))))) (W7 (JG) (W7 (JG) (W7 (JG) (W7 (JG) (W7 (JG) (W7 (JG) (Z0 (Yi (ab 0 (Y6 (fun fz gz m F h=>∃(k:Nat) (L2:Zh) (ka:Hd) (kb:Hd) (kc:Hd) (kd:Hd) (ke:Hd) (kf:Hd),(k<=rt.params.length)/\(Wq L2)/\(L2.vars.length=k)/\(Kj rt.lent (rt.params.drop k) k L2=WO rt)/\F=sF [1,3] fz [(4,.i k)]/\h=[.obj b2 [.h ka,.h kb,.h kc,.h kd,.h ke,.h kf,Z5 rt.lent],Zc gz 8,rV ka L2.vars,rV kb L2.own,rV kc L2.par,rV kd L2.con,rV ke L2.fst,rV kf L2.tok]/\m=rt.params.length-k) _ _ _ ⟨0,(Zh.mk [] [] [] [] [] []),hN,hN,hN,hN,hN,hN,ob,⟨rfl,rfl,rfl,rfl,rfl⟩,rfl,rfl,rfl,rfl,rfl⟩ (wk [6,7,0,0,0,0,0,0] (Yd fl) (e:=(rc (rc (rv (xs:=[]) ob (rv (xs:=[]) ob (rv (xs:=[]) ob (rv (xs:=[]) ob (rv (xs:=[]) ob (rv (xs:=[]) ob rz)))))))))) ?_))))))))))
 rintro m F h ⟨k,L2,ka,kb,kc,kd,ke,kf,Yj,Zl,Zy,Yv,rfl,rfl,rfl⟩
 refine Yl 3 [1] (iw (Yf rt.params) (Y5 ((k:Int)<(rt.params.length:Int)) (fun Za=>?_) (fun Za=>?_)))
 ·refine ak (aq (ab 1 (Zw 3 [1] ?_)))
  obtain ⟨x1,Z3⟩:=Zs rt.params k om
  refine Zo (Zj none (k:Int) 1 (Y3 Z3)) (Xv [1,3,4] [(29,.b ((x1 != 0)&&(!(decide ((k:Int)∈rt.lent)))))] (fun gz=>gz) ?_ ?_)
  ·refine Z2 3 (ib (b:=(x1 != 0)) 23 (fun Zb=>?_) (fun Zb=>?_))
   ·exact ZO 3 [1] (Zz [] (T1 rt.lent (k:Int)) (Z0 (ZG 8 (Zt (!(decide ((k:Int)∈rt.lent))) Zb fl))))
   exact Z0 (ZG 8 (Zt false Zb fl))
  refine ac ((x1 != 0)&&(!(decide ((k:Int)∈rt.lent)))) (p:=(x1≠0)/\(¬((k:Int)∈rt.lent))) (YL Ym (YA dq)) (fun Zg=>?_) (fun Zg=>?_)
  ·refine az (ZO 4 [1] (Zo (Zj none (k:Int) 1 (Y3 Z3)) (Z2 1 (ic [0,1,1,1,1,1,1] (KI b2 ka kb kc kd ke kf L2 rt.lent x1 1 (-1) (hlk:=Zl)) ?_))))
   rintro _ _ ⟨wa1,wb1,wc1,wd1,we1,wf1,rfl⟩
   exact ie (az (Z2 1 (ZJ k (Z0 (ZK ⟨k+1,(L2.grow x1 1 (-1)),wa1,wb1,wc1,wd1,we1,wf1,ob,(Wq.grow Zl),(by simp [Zh.grow];omega),(by rw [Y9 Z3,Kj] at Yv;first|(rw [Zd Zg] at Yv;exact Yv)|(rw [Z8 Zg] at Yv;exact Yv)),rfl,rfl,rfl⟩ (wk [0,6,0,0,0,0,0,0] (ZM k fl)))))))
  refine az (ZO 4 [1] (Zo (Zj none (k:Int) 1 (Y3 Z3)) (Z2 1 (ic [0,1,1,1,1,1,1] (KI b2 ka kb kc kd ke kf L2 rt.lent x1 0 (-1) (hlk:=Zl)) ?_))))
  rintro _ _ ⟨wa2,wb2,wc2,wd2,we2,wf2,rfl⟩
  exact ie (az (Z2 1 (ZJ k (Z0 (ZK ⟨k+1,(L2.grow x1 0 (-1)),wa2,wb2,wc2,wd2,we2,wf2,ob,(Wq.grow Zl),(by simp [Zh.grow];omega),(by rw [Y9 Z3,Kj] at Yv;first|(rw [Zd Zg] at Yv;exact Yv)|(rw [Z8 Zg] at Yv;exact Yv)),rfl,rfl,rfl⟩ (wk [0,6,0,0,0,0,0,0] (ZM k fl)))))))
 refine ax 0 (ZE ?_)
 have hNl:L2=WO rt:=by rw [<-Yv,Xn om];rfl
 exact ZD (r1 [0,1,1,1,1,1,1] ⟨b2,ka,kb,kc,kd,ke,kf,rfl,rfl⟩ (eq:=(rc (rv (xs:=L2.vars) (by rw [hNl]) (rv (xs:=L2.own) (by rw [hNl]) (rv (xs:=L2.par) (by rw [hNl]) (rv (xs:=L2.con) (by rw [hNl]) (rv (xs:=L2.fst) (by rw [hNl]) (rv (xs:=L2.tok) (by rw [hNl]) rz)))))))))
theorem Zfc (n:Zi) (f:Nat) (rt:Y8) (hn:X6 n:=by exact ob) (hr:n.routines[f]? = some rt:=by exact ob) (ht:0<=Xh n rt.params rt.body:=by exact ob) (hz:rt.body.sz<=100000000:=by exact ob):Zk 109 [Yq n,.i f] [] (Ys (.b (U8 n rt))):=by
 have hfl:=(Xq.1 hr).1
 have hpl:=hn.params_at hr
 have hll:=hn.lent_at hr
 obtain ⟨hk,hkv⟩:=Ca n.decls rt
 refine ZF 26 Tryz.func109 (ar (iA (YU n) fun b1=>Z0 (Zw 3 [0] (Zo (Zj none (f:Int) 5 (Wv hr)) (Z2 1 (iA [nl,nl,.i 0,nl,.i 0] fun b2=>ZI 0 b2 (KH rt) (ie (Zw 1 [0] (ic [] (Z01 rt) ?_)))))))))
 rintro _ _ ⟨c1,wa1,wb1,wc1,wd1,we1,wf1,rfl,rfl⟩
 refine Z0 (Zw 6 [8,7,7] (iw (Yf rt.params) (ic [0,0,0,0,0,0,0] (Zbi c1 wa1 wb1 wc1 wd1 we1 wf1 n rt.body (WO rt) rt.lent rt.params.length 1 ob ob hk (by rw [hkv];exact ht) (by rw [hkv];omega) (by rw [hkv];omega) ob) ?_)))
 rintro _ _ (⟨wa2,wb2,wc2,wd2,we2,wf2,M'1,rfl,rfl,ZX⟩|⟨rfl,rfl,Yk⟩)
 ·have hB:=ZX
  obtain ⟨l1,l2⟩:=Z3i hn hk om (by rw [hkv];exact ht) (by rw [hkv];omega) hB
  refine Z2 2 (ic [0,0,0,0,0,0,0] (Lk c1 wa2 wb2 wc2 wd2 we2 wf2 M'1 rt.lent 0 (hlk:=l1)) ?_)
  rintro _ _ (⟨wa3,wb3,wc3,wd3,we3,wf3,L'1,rfl,rfl,YG⟩|⟨rfl,rfl,YR⟩)
  ·exact Zr (Y4 (.b true) (lb (by rw [U8,hB];exact (Z4u YG).symm)))
  exact Zr (Y4 (.b false) (lb (by rw [U8,hB];exact (Z4t YR).symm)))
 have hB:=Yk
 exact Zr (Y4 (.b false) (lb (by rw [U8,hB])))
theorem Zfd (n:Zi) (hz:Un n:=by exact ob):Zk 48 [Yq n] [] (Ys (.b (Xt n))):=by
 have hzl:=hz.len
 refine ZF 18 Tryz.func48 (ar (iA (YU n) fun b1=>Z0 (Yl 1 [0] (Zz [] (Z06 n) (YH (!XV n) (p:=¬(XV n=true)) (YA Iff.rfl) (fun Za=>?_) (fun Za=>?_))))))
 ·exact ar (Zr (Y4 (.b false) (lb (by first|rfl|omega|grind [Xt]))))
 have hV:XV n=true:=Vy.1 Za
 obtain ⟨hok,hall⟩:=Co hz hV
 refine ak (Yi (ab 0 (Y6 (fun fz gz m F h=>∃(k:Nat),(k<=n.routines.length)/\(QZ n (n.routines.drop k)=QZ n n.routines)/\F=sF [1] fz [(3,.i k)]/\h=gz/\m=n.routines.length-k) _ _ _ ⟨0,ob,ob,rfl,rfl,rfl⟩ (wk [0] (Yd fl)) ?_)))
 rintro m F h ⟨k,Yj,Zl,rfl,rfl,rfl⟩
 refine Yl 3 [0] (iw (Ur n.routines) (Y5 ((k:Int)<(n.routines.length:Int)) (fun Zg=>?_) (fun Zg=>?_)))
 ·obtain ⟨rt,hrt⟩:=Zs n.routines k om
  have hrm:=ZW hrt
  refine ak (aq (ab 1 (Zw 2 [0] (Zz [] (Zfc n k rt (hr:=hrt) (ht:=(hall rt hrm)) (hz:=(VE (hz.body rt hrm) om))) (YH (!U8 n rt) (p:=¬(U8 n rt=true)) (YA Iff.rfl) (fun ZC=>?_) (fun ZC=>?_))))))
  ·refine ZE ?_
   rw [Y9 hrt] at Zl
   exact ZD (Y4 (.b false) (lb (by first|rfl|omega|grind [QZ,Xt])))
  refine ak (az (Z2 1 (ZJ k (Z0 ?_))))
  have hdr:=Y9 hrt
  exact ZK ⟨k+1,ob,(by rw [hdr] at Zl;clear hdr ;grind [QZ]),rfl,rfl,rfl⟩ (wk [0] (ZM k fl))
 refine ax 0 (ZE ?_)
 try rw [Xn (xs:=n.routines) (k:=k) om] at Zl
 exact ZD (Y4 (.b true) (lb (by first|rfl|omega|grind [QZ,Xt])))
theorem Z7z (n:Zi) (f0:Nat) (k0:Nat) (rt:Y8) (hz:Un n:=by exact ob) (hr:n.routines[f0]? = some rt:=by exact ob) (hk0:k0<=rt.body.steps.length:=by exact ob):Zk 87 [Yq n,.i f0,.i k0] [] (fun r h=>(∃(c:Nat) (wa:Hd) (wb:Hd) (wc:Hd) (wd:Hd) (we:Hd) (wf:Hd) (L:Zh) (q:Int),r=.tup [.p c 0,.b true]/\h=[.obj c [.h wa,.h wb,.h wc,.h wd,.h we,.h wf,Z5 rt.lent],rV wa L.vars,rV wb L.own,rV wc L.par,rV wd L.con,rV we L.fst,rV wf L.tok]/\Xb n.decls L q/\L.vars.length=rt.params.length+X5 (rt.body.steps.take k0)/\L.vars.length<=500000000/\rt.lent.length<=4194304)∨(r=.tup [.any,.b false]/\h=[]/\True)):=by
 have hzl:=hz.len
 have hfl:=(Xq.1 hr).1
 have hrm:=ZW hr
 have hbz:=hz.body _ hrm
 have ZL:=Uk rt.body
 have hbe:=rt.body.sz_eq
 obtain ⟨hk,hkv⟩:=Ca n.decls rt
 refine ZF 64 Tryz.func87 (ar (iA (YU n) fun b1=>Z0 (Yl 1 [0] (Zz [] (Z06 n) (XU 12 [1,2,3] [(21,.b ((!XV n)||(!(decide (0<=(f0:Int)/\(f0:Int)<=((n.routines.length:Int)-1))))))] (fun gz=>gz) ?_ (fun hj1=>?_))))))
 ·refine Xv [1,2,3] [(34,.b (((!XV n)||(!(decide (0<=(f0:Int)/\(f0:Int)<=((n.routines.length:Int)-1)))))||(!(decide (0<=(k0:Int)/\(k0:Int)<=(rt.body.steps.length:Int))))))] (fun gz=>gz) ?_ ?_
  ·refine Z2 1 (ib (b:=((!XV n)||(!(decide (0<=(f0:Int)/\(f0:Int)<=((n.routines.length:Int)-1)))))) 22 (fun Zb=>?_) (fun Zb=>?_))
   ·exact Z0 (wk [0] (Zt true Zb fl))
   exact ZO 4 [0] (Zo (Zj none (f0:Int) 5 (Wv hr)) (Z2 3 (iw (VO rt.body.steps) (Zz [] (TA (k0:Int) 0 (rt.body.steps.length:Int)) (Z0 (wk [0] (Zt (!(decide (0<=(k0:Int)/\(k0:Int)<=(rt.body.steps.length:Int)))) Zb fl)))))))
  refine ac (((!XV n)||(!(decide (0<=(f0:Int)/\(f0:Int)<=((n.routines.length:Int)-1)))))||(!(decide (0<=(k0:Int)/\(k0:Int)<=(rt.body.steps.length:Int))))) (p:=((¬(XV n=true))∨(¬(0<=(f0:Int)/\(f0:Int)<=((n.routines.length:Int)-1))))∨(¬(0<=(k0:Int)/\(k0:Int)<=(rt.body.steps.length:Int)))) (Yr (Yr (YA Iff.rfl) (YA dq)) (YA dq)) (fun Za=>?_) (fun Za=>?_)
  ·exact ar (ZU 1 [(35,.agg [.sl [] none,.sl [] none,.sl [] none,.sl [] none,.sl [] none,.sl [] none,.sl [] none])] (iA [.sl [] none,.sl [] none,.sl [] none,.sl [] none,.sl [] none,.sl [] none,.sl [] none] fun b2=>Zr (r2 [] [.p b2 0,.b false] (.inr ⟨rfl,rfl,(by first|exact True.intro|exact ⟨Zl,by rw [show k0=j by omega];exact K3,by omega,hll⟩)⟩) (Ze.tup (.cons (Ze.any _) (.cons (lr _) .nil))))))
  have hV:XV n=true:=Dv fun z=>Za (.inl (.inl z))
  obtain ⟨hok,hall⟩:=Co hz hV
  have hty:=hall rt hrm
  obtain ⟨vs,t0,hvs,hres,hrt0⟩:=DK hty
  have hpl:=hok.params_at hr
  have hll:=hok.lent_at hr
  refine ak (Zw 3 [0] (Zo (Zj none (f0:Int) 5 (Wv hr)) (Z2 1 (ic [] (Z01 rt) ?_))))
  rintro _ _ ⟨c1,wa1,wb1,wc1,wd1,we1,wf1,rfl,rfl⟩
  refine Z0 (Yi (ab 0 (Y6 (fun fz gz m F h=>∃(j:Nat) (q2:Int) (L2:Zh) (ka:Hd) (kb:Hd) (kc:Hd) (kd:Hd) (ke:Hd) (kf:Hd),(j<=k0)/\(Xb n.decls L2 q2)/\(0<=q2/\q2+4*Yb (rt.body.steps.drop j)<=999999990)/\(L2.vars.length+4*Yb (rt.body.steps.drop j)<=400000000)/\(XC n (rt.body.steps.drop j) L2.vars=some vs)/\(L2.vars.length=rt.params.length+X5 (rt.body.steps.take j))/\F=sF [1,2,3,8] fz [(9,.i j)]/\h=[.obj c1 [.h ka,.h kb,.h kc,.h kd,.h ke,.h kf,Z5 rt.lent],Zc gz 7,rV ka L2.vars,rV kb L2.own,rV kc L2.par,rV kd L2.con,rV ke L2.fst,rV kf L2.tok]/\m=k0-j) _ _ _ ⟨0,1,(WO rt),wa1,wb1,wc1,wd1,we1,wf1,ob,hk,(by rw [TZ];omega),(by rw [TZ,hkv];omega),(by rw [TZ,hkv];exact hvs),(by rw [hkv];rfl),rfl,rfl,rfl⟩ (wk [0,6,0,0,0,0,0,0] (Yd fl)) ?_)))
  rintro m F h ⟨j,q2,L2,ka,kb,kc,kd,ke,kf,Yj,Zl,Zy,Yv,XY,K3,rfl,rfl,rfl⟩
  refine X9 (Y5 ((j:Int)<(k0:Int)) (fun Zg=>?_) (fun Zg=>?_))
  ·obtain ⟨s1,hs1⟩:=Zs rt.body.steps j om
   have hss:=A5 hs1
   have hsp:=s1.sz_pos
   have hzd:=Z09 hs1
   have hdt:=O7 hs1
   have hdr:=Y9 hs1
   rw [hdr] at XY
   obtain ⟨g1,g2⟩:=EG XY
   refine ak (aq (ab 1 (aD 14 (ZH 9 14 [0,1,2,3,4] [1,1] (dx 5 (Zj none (f0:Int) 5 (Wv hr)) (Zm 4 8 [6,7,8,9] (dx 10 (Zj none (j:Int) 5 (V2 hs1)) (Zm 2 3 [11] (Z9 12 (dc 12 [0,1,1,1,1,1,1] [] [] (Zbo c1 ka kb kc kd ke kf n s1 L2 rt.lent q2 hok ob Zl g1 om om) ?_))))))))))
   rintro _ _ (⟨wa2,wb2,wc2,wd2,we2,wf2,M'1,rfl,rfl,YG⟩|⟨rfl,rfl,YR⟩)
   ·have hP:=YG
    have kx:=EE hok Zl Zy.1 g1 hP
    have hsf:=Zep g1
    exact Zm 0 1 [13] (de (Wr (ak (az (Z2 1 (ZJ j (Z0 (ZK ⟨j+1,(q2+4*s1.sz),M'1,wa2,wb2,wc2,wd2,we2,wf2,ob,kx.1,om,(by rw [kx.2,hsf];split<;>omega),(by rw [kx.2];exact g2),(by rw [kx.2,hsf,hdt];split<;>omega),rfl,rfl,rfl⟩ (wk [0,6,0,0,0,0,0,0] (ZM j fl))))))))))
   exact Zm 0 1 [13] (de (Wc (ar (Zr (r2 [] [.p c1 0,.b false] (.inr ⟨rfl,rfl,(by first|exact True.intro|exact ⟨Zl,by rw [show k0=j by omega];exact K3,by omega,hll⟩)⟩) (Ze.tup (.cons (Ze.any _) (.cons (lr _) .nil))))))))
  exact ax 0 (ar (Zr (r2 [0,1,1,1,1,1,1] [.p c1 0,.b true] (.inl ⟨c1,ka,kb,kc,kd,ke,kf,L2,_,rfl,rfl,(by first|exact True.intro|exact ⟨Zl,by rw [show k0=j by omega];exact K3,by omega,hll⟩)⟩) (lr _))))
 refine Z2 2 (ib (b:=(!XV n)) 13 (fun ZB=>?_) (fun ZB=>?_))
 ·exact Z2 8 (YB (wk [0] (Zt true ZB fl)) hj1)
 exact ZO 3 [0] (iw (Ur n.routines) (ia (((n.routines.length:Int)-1)) (((n.routines.length:Int))-(1)) (Zz [] (TA (f0:Int) 0 ((n.routines.length:Int)-1)) (Z2 2 (YB (wk [0] (Zt (!(decide (0<=(f0:Int)/\(f0:Int)<=((n.routines.length:Int)-1)))) ZB fl)) hj1)))))
theorem FT (b:Z6) (i0:Nat) (s:Z4) (hi:i0<=b.steps.length:=by exact ob) (hz:b.sz<=100000000:=by exact ob):Zk 89 [ZZ b,.i i0,YI s] [] (Ys (ZZ (Z6.mk (WI b.steps i0 s) b.result))):=by
 have ZL:=Uk b
 exact ZF 26 Tryz.func89 (ar (iA (Xm b) fun b1=>iA (XG s) fun b2=>iA [nl,.i 0] fun b3=>ie (ar (iL (Zv []) 0 5 fun v1=>ZO 3 [3] (Zo (Ko (es:=Zv b.steps) (hv:=none) (l:=0) (m:=(i0:Int)) (sz:=5) (es':=Zv (b.steps.take i0)) kr om (by simp<;>omega) (by simp<;>omega) (Xe _) (by first|(simp only [Vm,V6,TR,TQ];done)|(simp only [Vm,V6,TR,TQ];rfl)|(simp [TR,TQ];done))) (ip 0 (Zv (b.steps.take i0)) (Zv []) (Zv (b.steps.take i0)) v1 none 5 (Xe _) (Xe _) (VP _) (by simp<;>omega) (by simp [Vx]) fun v2=>Z0 (aD 13 (ZH 8 13 [0,1,4,5,6] [2,3] (dx 7 (Ko (es:=Zv b.steps) (hv:=none) (l:=(i0:Int)) (m:=(((Zv b.steps).length:Nat):Int)) (sz:=5) (es':=Zv (b.steps.drop i0)) kr om (by simp<;>omega) (by simp<;>omega) (Xe _) (by first|(simp only [Vm,V6,TR,TQ];done)|(simp only [Vm,V6,TR,TQ];rfl)|(simp [TR,TQ];done))) (ZH 5 7 [9,10] [3] (Z9 2 (dL 2 [2,2] [b1,b1] [YI s] 1 5 fun v3=>Yw 4 4 [] [(16,.sl [YI s] none)] (Z9 3 (dp 3 1 [2,2] [b1,b1] (Zv ((b.steps.take i0)++[s])) (Zv (b.steps.take i0)) [YI s] v2 none 5 (Xe _) (QI rfl) rfl (by simp<;>omega) (by simp [WW,Vx]) fun v4=>Z9 8 (dp 8 0 [2] [b1] (Zv (WI b.steps i0 s)) (Zv ((b.steps.take i0)++[s])) (Zv (b.steps.drop i0)) v4 none 5 (Xe _) (Xe _) (VP _) (by simp<;>omega) (by simp only [WI,WW]) fun v5=>Zm 1 2 [11] (Z9 12 (YK 12 2 [] [] b3 [X4 (WI b.steps i0 s) v5,.i b.result] (de (ZD (r3 [] [.agg [X4 (WI b.steps i0 s) v5,.i b.result]] [0] [(b3,b3)] ⟨rfl,rfl⟩ (Ze.agg (.cons (Ze.sl _ (Yp Zv rfl)) (.cons li .nil)))))))))))))))))))))))
theorem IL (n:Zi) (f0:Nat) (b:Z6) (rt:Y8) (hr:n.routines[f0]? = some rt:=by exact ob) (hl:n.routines.length<=1000000:=by exact ob) (hp:rt.params.length<=4294967296:=by exact ob) (hl2:rt.lent.length<=4294967296:=by exact ob):Zk 91 [Yq n,.i f0,ZZ b] [] (fun r h=>∃(g:Nat) (c:Nat),r=.agg [ZT n.decls,.ms g 0 n.routines.length c]/\h=[.row (.slice (some ⟨g,0,none⟩) n.routines.length c) 5 (Zp (YQ (n.routines.set f0 (Y8.mk rt.params rt.lent rt.result b))))]):=by
 have hfl:=(Xq.1 hr).1
 refine ZF 26 Tryz.func91 (ar (iA (YU n) fun b1=>iA (Xm b) fun b2=>iA [nl,nl] fun b3=>ie (ar (CY 5 fun g1=>ZO 2 [3] (IX 0 g1 5 (YQ n.routines) none (UV _) (by simp<;>omega) fun v1=>E8 0 n.routines.length (v:=v1) (CO _) om (fun g2 c1 he1=>?_))))))
 subst he1
 exact Z0 (aD 11 (ZH 6 11 [0,1,2,3,4] [3] (dx 5 (Zj none (f0:Int) 5 (Wv hr)) (ZH 3 5 [6,7] [2] (Z9 8 (Yo 8 [] [] [] (Do rt b) (dx 9 (Ww g2 n.routines.length c1 f0 5 (f0:Int)) (Z9 10 (B5 10 0 [] [] g2 n.routines.length c1 5 (f0*5) (KH (Y8.mk rt.params rt.lent rt.result b)) (Zp (YQ n.routines)) (Zp (YQ (n.routines.set f0 (Y8.mk rt.params rt.lent rt.result b)))) (by rw [CO];simp only [YT,XA];omega) (Ox (Y8.mk rt.params rt.lent rt.result b) hfl) (de (Zw 4 [3] (ZI 1 b3 [ZT n.decls,.ms g2 0 n.routines.length c1] (ie (ZD (r3 [1] [.agg [ZT n.decls,.ms g2 0 n.routines.length c1]] [0] [(b3,b3)] ⟨g2,c1,rfl,rfl⟩ (lr _))))))))))))))))
theorem OY (n:Zi) (f0:Nat) (b:Z6) (rt:Y8) (hr:n.routines[f0]? = some rt:=by exact ob) (hl:n.routines.length<=1000000:=by exact ob) (hp:rt.params.length<=4294967296:=by exact ob) (hl2:rt.lent.length<=4294967296:=by exact ob):Zk 91 [Yq n,.i f0,ZZ b] [] (Ys (Yq (withR n f0 rt b))):=(WR.frzN (ds:=n.decls) (rs:=(n.routines.set f0 (Y8.mk rt.params rt.lent rt.result b))) (hs:=[]) ((IL n f0 b rt hr hl hp hl2).mono fun r h ⟨g,c,e1,e2⟩=>⟨g,c,by rw [e1];simp only [Vc],by rw [e2];simp only [Vc]⟩))
theorem JX (rd:Nat) (bs:LI) (p:Nat) (mx:Nat) (ZL:∀z∈bs,0<=z/\z<=255) (hp:p+1<=1000000000:=by exact ob) (hmx:0<mx:=by exact ob):Zk 37 [.p rd 0,.i mx] [Yy rd bs p] (fun r h=>∃(kn:Nat),r=.i kn/\h=[.obj rd [Uh bs,.i (p+1:Nat)]]/\kn<mx):=(Wn rd bs p mx ZL hp).mono fun r h ⟨z,hr,hh,hz⟩=>by
  have h0:=hz.lt om
  exact ⟨z.toNat,by rw [hr,Int.toNat_of_nonneg h0.1],hh,by omega⟩
theorem OQ (rd:Nat) (bs:LI) (p:Nat) (n:Zi) (ZL:∀z∈bs,0<=z/\z<=255) (hp:p+4<=1000000000:=by exact ob) (hz:Un n:=by exact ob) (hl1:1<=n.routines.length/\n.routines.length<=1000000:=by exact ob):Zk 41 [.p rd 0,Yq n] [Yy rd bs p] (fun r h=>∃(n2:Zi) (p2:Nat),r=Yq n2/\h=[Yy rd bs p2]/\Hw n n2/\p<=p2/\p2<=p+4):=by
 refine ZF 102 Tryz.func41 (ar (iA (YU n) fun b1=>iA [nl,nl] fun b2=>ie (Zw 3 [1] (iw (Ur n.routines) (ic [2] (JX rd bs p n.routines.length (ZL:=ob)) ?_)))))
 rintro _ _ ⟨YJ,rfl,rfl,ZX⟩
 refine Z0 (Zw 3 [2] ?_)
 obtain ⟨x1,Z3⟩:=Zs n.routines YJ om
 have hrm:=ZW Z3
 have hbz:=hz.body _ hrm
 have ZL:=Uk (x1).body
 have hpl:=hz.params _ hrm
 have hll:=hz.lent _ hrm
 have hrx:=Z3
 refine Zo (Zj none (YJ:Int) 5 (Wv Z3)) (Z2 2 (iA [nl,.i 0] fun b3=>ZI 0 b3 (Xm x1.body) (ie (Zw 3 [0] (iw (VO x1.body.steps) (ia (((x1.body.steps.length+1:Nat):Int)) (((x1.body.steps.length:Int))+(1)) (ic [1] (JX rd bs (p+1) (x1.body.steps.length+1) (ZL:=ob)) ?_)))))))
 rintro _ _ ⟨Xa,rfl,rfl,Yk⟩
 refine Z0 (Zw 3 [3] (ic [] (Z7z n YJ Xa x1 (hr:=hrx)) ?_))
 rintro _ _ (⟨c1,wa1,wb1,wc1,wd1,we1,wf1,L1,q1,rfl,rfl,YG⟩|⟨rfl,rfl,YR⟩)
 ·obtain ⟨hLO,hLv,hLb,hLl⟩:=YG
  have hLn:=hLO.len
  obtain ⟨e1,e2,e3,e4,e5⟩:=hLO.len
  refine Z0 (Yi (Wr (ak (ar (iL (Z7 []) 0 1 fun v1=>?_)))))
  refine Z0 (Yi (ab 0 (Y6 (fun fz gz m F h=>∃(k:Nat) (vl:LI) (u:Value),(k<=L1.vars.length)/\(vl.length<=k)/\(∀v∈vl,0<=v/\v<(L1.vars.length:Int))/\F=sF [0,3,4,5,6,7,8] fz [(10,ZQ vl u),(11,.i k)]/\h=[Zc gz 1,Zc gz 2,Zc gz 3,Zc gz 4,Zc gz 5,Zc gz 6,Zc gz 7,Zc gz 8,Zc gz 9,Zc gz 10,Zc gz 11,.tail u 1]/\m=L1.vars.length-k) _ _ _ ⟨0,[],v1,ob,ob,(fun v hv=>by cases hv),rfl,rfl,rfl⟩ (wk [1,1,1,1,1,1,1,1,1,1,1,0] (fr (Yd fl))) ?_)))
  rintro m F h ⟨k,vl,u,Yj,Zl,Zy,rfl,rfl,rfl⟩
  refine Yl 5 [0] (Zo (KQ 1 wa1 L1.vars) (Y5 ((k:Int)<(L1.vars.length:Int)) (fun Za=>?_) (fun Za=>?_)))
  ·refine ak (aq (ab 1 (Zw 5 [0] (Zo (Wo 1 wa1 L1.vars (k:Int) k) ?_))))
   obtain ⟨x2,Zx⟩:=Zs L1.vars k om
   refine V8 (VU 1 wa1 L1.vars k x2 Zx) (Z2 2 (ib (b:=(x2 != 0)) 59 (fun Zb=>?_) (fun Zb=>?_)))
   ·refine Z2 2 (Zz [0,0,0,0,0,0,0] (Gi c1 wa1 wb1 wc1 wd1 we1 wf1 L1 x1.lent (k:Int) (hlk:=hLO.len) (hd:=hLO.down)) (YH (XM L1 x1.lent (k:Int)) Iff.rfl (fun Zg=>?_) (fun Zg=>?_)))
    ·exact az (Z2 2 (iL (Z7 [(k:Int)]) 1 1 fun v2=>ZU 0 [(66,Z5 [(k:Int)])] (ip 12 (Z7 (vl++[(k:Int)])) (Z7 vl) (Z7 [(k:Int)]) u none 1 (YC _) (YC _) (We _) (by simp<;>omega) (by simp [Wd,Z7]) fun v3=>Z0 (az (Z2 1 (ZJ k (Z0 (ZK ⟨k+1,(vl++[(k:Int)]),v3,ob,ob,(by first|exact Zy|exact XJ Zy om),rfl,rfl,rfl⟩ (wk [2,2,2,2,2,2,2,2,2,2,2,0] (fr (ZM k fl)))))))))))
    exact ak (az (Z2 1 (ZJ k (Z0 (ZK ⟨k+1,vl,u,ob,ob,(by first|exact Zy|exact XJ Zy om),rfl,rfl,rfl⟩ (ZG 12 (fr (ZM k fl))))))))
   exact Z0 (Wr (ak (az (Z2 1 (ZJ k (Z0 (ZK ⟨k+1,vl,u,ob,ob,(by first|exact Zy|exact XJ Zy om),rfl,rfl,rfl⟩ (ZG 12 (fr (ZM k fl))))))))))
  refine ax 0 (YO 1 (iw (Yf vl) (YH ((vl.length:Int)==0) Zq (fun ZC=>?_) (fun ZC=>?_))))
  ·exact Zw 1 [10] (ZI 9 b2 (YU n) (ie (ZD (r3 [8] [Yq n] [0] [(b2,b2)] ⟨n,(p+1)+1,rfl,rfl,(by first|exact ⟨.inl rfl,by omega,by omega⟩|(have hv:=Zy x3 (ZW YS);exact ⟨.inr ⟨YJ,x1,Xa,Xa+Qs,x3,hrx,by omega,by omega,hv.1,by omega,rfl⟩,by omega,by omega⟩))⟩ (lr _)))))
  refine ak (Ya 3 (iw (Yf vl) (ic [7] (JX rd bs ((p+1)+1) vl.length (ZL:=ob)) ?_)))
  rintro _ _ ⟨PT,rfl,rfl,WG⟩
  obtain ⟨x3,YS⟩:=Zs vl PT om
  refine Zo (Zj (some u) (PT:Int) 1 (Y3 YS)) (Z0 (Zw 4 [8] (iw (VO x1.body.steps) (Z2 1 (ia ((((x1.body.steps.length-Xa):Nat):Int)) (((x1.body.steps.length:Int))-((Xa:Int))) (ia ((((x1.body.steps.length-Xa)+1:Nat):Int)) (((((x1.body.steps.length-Xa):Nat):Int))+(1)) (ic [0] (JX rd bs (((p+1)+1)+1) ((x1.body.steps.length-Xa)+1) (ZL:=ob)) ?_)))))))
  rintro _ _ ⟨Qs,rfl,rfl,V3⟩
  exact ia (((Xa+Qs:Nat):Int)) (((Xa:Int))+((Qs:Int))) (Z0 (aD 6 (ZH 3 6 [0,1,2] [8] (Z9 3 (Yo 3 [] [2] [b3] (A4 15 x3) (Z9 4 (Yo 4 [] [] [] (FT x1.body (Xa+Qs) (Zu 15 x3) (hi:=(by first|omega|(show Xa<=(WI _ _ _).length;rw [RS om];omega))) (hz:=(by first|omega|(rw [Z6.sz,Eu];have e:(Zu 15 x3).sz=2:=rfl;have e2:=x1.body.sz_eq;omega)))) (Z9 5 (YK 5 8 [] [] b3 (Xm (Z6.mk (WI x1.body.steps (Xa+Qs) (Zu 15 x3)) x1.body.result)) (de (aD 9 (ZH 4 9 [0,1,2,3,4] [10,0] (Z9 5 (Yo 5 [] [0,4] [b3,b1] (A4 14 x3) (Z9 6 (Yo 6 [] [4] [b1] (FT (Z6.mk (WI x1.body.steps (Xa+Qs) (Zu 15 x3)) x1.body.result) Xa (Zu 14 x3) (hi:=(by first|omega|(show Xa<=(WI _ _ _).length;rw [RS om];omega))) (hz:=(by first|omega|(rw [Z6.sz,Eu];have e:(Zu 15 x3).sz=2:=rfl;have e2:=x1.body.sz_eq;omega)))) (Z9 7 (Yo 7 [] [] [] (OY n YJ (Z6.mk (WI (Z6.mk (WI x1.body.steps (Xa+Qs) (Zu 15 x3)) x1.body.result).steps Xa (Zu 14 x3)) (Z6.mk (WI x1.body.steps (Xa+Qs) (Zu 15 x3)) x1.body.result).result) x1 (hr:=hrx)) (Z9 8 (YK 8 9 [] [] b2 (YU (withR n YJ x1 (Z6.mk (WI (Z6.mk (WI x1.body.steps (Xa+Qs) (Zu 15 x3)) x1.body.result).steps Xa (Zu 14 x3)) (Z6.mk (WI x1.body.steps (Xa+Qs) (Zu 15 x3)) x1.body.result).result))) (de (ZD (r3 [2] [Yq (withR n YJ x1 (Z6.mk (WI (Z6.mk (WI x1.body.steps (Xa+Qs) (Zu 15 x3)) x1.body.result).steps Xa (Zu 14 x3)) (Z6.mk (WI x1.body.steps (Xa+Qs) (Zu 15 x3)) x1.body.result).result))] [0] [(b2,b2)] ⟨(withR n YJ x1 (Z6.mk (WI (Z6.mk (WI x1.body.steps (Xa+Qs) (Zu 15 x3)) x1.body.result).steps Xa (Zu 14 x3)) (Z6.mk (WI x1.body.steps (Xa+Qs) (Zu 15 x3)) x1.body.result).result)),(((p+1)+1)+1)+1,rfl,rfl,(by first|exact ⟨.inl rfl,by omega,by omega⟩|(have hv:=Zy x3 (ZW YS);exact ⟨.inr ⟨YJ,x1,Xa,Xa+Qs,x3,hrx,by omega,by omega,hv.1,by omega,rfl⟩,by omega,by omega⟩))⟩ (lr _))))))))))))))))))))))))
 exact Z0 (Yi (Wc (Zw 1 [3] (ZI 2 b2 (YU n) (ie (ZD (r3 [1] [Yq n] [0] [(b2,b2)] ⟨n,(p+1)+1,rfl,rfl,(by first|exact ⟨.inl rfl,by omega,by omega⟩|(have hv:=Zy x3 (ZW YS);exact ⟨.inr ⟨YJ,x1,Xa,Xa+Qs,x3,hrx,by omega,by omega,hv.1,by omega,rfl⟩,by omega,by omega⟩))⟩ (lr _))))))))
theorem Zft (b:Z6) (hz:b.sz<=1000000000:=by exact ob):Zk 193 [ZZ b] [] (Ys (.i (((W4 b.steps):Nat):Int))):=by
 have hbz:=Uk b
 refine ZF 20 Tryz.func193 (ar (iA (Xm b) fun b1=>?_))
 refine Z0 (ZE (aq (ab 0 (Y6 (fun fz gz m F h=>∃(k:Nat),(k<=b.steps.length)/\(k+W4 (b.steps.drop k)=W4 b.steps)/\F=sF [1] fz [(3,.i k)]/\h=gz/\m=b.steps.length-k) _ _ _ ⟨0,ob,(by simp),rfl,rfl,rfl⟩ (wk [0] (Yd fl)) ?_))))
 rintro m F h ⟨k,Yj,Zl,rfl,rfl,rfl⟩
 refine Yl 3 [0] (iw (VO b.steps) (Z2 2 (ib (b:=(decide ((k:Int)<(b.steps.length:Int)))) 9 (fun Zb=>?_) (fun Zb=>?_))))
 ·have ZX:(k:Int)<(b.steps.length:Int):=(dq).1 Zb
  refine ZO 3 [0] ?_
  obtain ⟨x1,Z3⟩:=Zs b.steps k om
  refine Zo (Zj none (k:Int) 5 (V2 Z3)) (Z2 1 (Zz [] (SZ x1) (YH ((x1.op==14)||(x1.op==15)) (p:=(x1.op=14)∨(x1.op=15)) (Yr Zq Zq) (fun Za=>?_) (fun Za=>?_))))
  ·exact ak (ab 1 (az (Z2 1 (ZJ k (Z0 (ZK ⟨k+1,ob,(Ze8 Z3 Za Zl),rfl,rfl,rfl⟩ (wk [0] (ZM k fl))))))))
  exact ax 0 (ar (Zr (Y4 (.i k) (li (by have:=Ze9 Z3 Za Zl;omega)))))
 have Yk:¬((k:Int)<(b.steps.length:Int)):=Yh dq Zb
 exact Z0 (Wr (ax 0 (ar (Zr (Y4 (.i k) (li (by have:=Ze7 om Zl;omega)))))))
theorem SR (b:Z6) (mm:Nat) (op:Int) (hm:mm<=b.steps.length:=by exact ob) (ha:∀s∈b.steps.take mm,s.op=op->∃a,s.args=[a]) (hz:b.sz<=1000000000:=by exact ob):Zk 194 [ZZ b,.i mm,.i op] [] (fun r h=>∃(v:Value),r=ZQ (WE op (b.steps.take mm)) v/\h=[.tail v 1]):=by
 have hbz:=Uk b
 refine ZF 35 Tryz.func194 (ar (iA (Xm b) fun b1=>Z0 (ar (iL (Z7 []) 0 1 fun v1=>?_))))
 refine Z0 (Yi (ab 0 (Y6 (fun fz gz m F h=>∃(k:Nat) (acc:LI) (v:Value),(k<=mm)/\(acc.length<=k)/\(acc++WE op ((b.steps.take mm).drop k)=WE op (b.steps.take mm))/\F=sF [1,2,3] fz [(7,ZQ acc v),(8,.i k)]/\h=[Zc gz 1,.tail v 1]/\m=mm-k) _ _ _ ⟨0,[],v1,ob,ob,(by simp),rfl,rfl,rfl⟩ (wk [1,0] (fr (Yd fl))) ?_)))
 rintro m F h ⟨k,acc,v,Yj,Zl,Zy,rfl,rfl,rfl⟩
 refine X9 (Y5 ((k:Int)<(mm:Int)) (fun Za=>?_) (fun Za=>?_))
 ·refine ak (aq (ab 1 (Zw 3 [0] ?_)))
  obtain ⟨x1,Z3⟩:=Zs b.steps k om
  have hxt:(b.steps.take mm)[k]? = some x1:=by rw [List.getElem?_take_of_lt om];exact Z3
  have hxm:=ZW hxt
  refine Zo (Zj none (k:Int) 5 (V2 Z3)) (YH (x1.op==op) Zq (fun Zg=>?_) (fun Zg=>?_))
  ·refine az (ZO 4 [0] (Zo (Zj none (k:Int) 5 (V2 Z3)) (Z2 2 ?_)))
   obtain ⟨x2,Zx⟩:=Zs x1.args 0 (by obtain ⟨a,ha2⟩:=ha x1 hxm Zg;rw [ha2];simp)
   have hg0:=JB Zx
   exact Zo (Zj none 0 1 (Y3 Zx)) (Z2 1 (iL (Z7 [x2]) 1 1 fun v2=>ZU 0 [(32,Z5 [x2])] (ip 2 (Z7 (acc++[x2])) (Z7 acc) (Z7 [x2]) v none 1 (YC _) (YC _) (We _) (by simp<;>omega) (by simp [Wd,Z7]) fun v3=>Z0 (az (Z2 1 (ZJ k (Z0 (ZK ⟨k+1,(acc++[x2]),v3,ob,(by simp;omega),(by have h:=Z2q hxt Zg Zy;rw [hg0] at h;exact h),rfl,rfl,rfl⟩ (wk [2,0] (fr (ZM k fl)))))))))))
  exact ak (az (Z2 1 (ZJ k (Z0 (ZK ⟨k+1,acc,v,ob,ob,(Z2p hxt Zg Zy),rfl,rfl,rfl⟩ (wk [0,0] (fr (ZM k fl))))))))
 exact ax 0 (ar (Zr (r2 [1] [ZQ acc v] ⟨v,rfl,rfl⟩ (Ze.slh _ (Yp Z7 (Z2o (by rw [WB];omega) Zy))))))
theorem Z07 (xs:LI) (y:Int) (hl:xs.length<=1000000000:=by exact ob):Zk 195 [Z5 xs,.i y] [] (fun r h=>∃(v:Value),r=ZQ (xs.erase y) v/\h=[.tail v 1]):=by
 refine ZF 33 Tryz.func195 (ZE (ar (iL (Z7 []) 0 1 fun v1=>?_)))
 refine Z0 (ZE (Yi (ab 0 (Y6 (fun fz gz m F h=>∃(k:Nat) (acc:LI) (d:Bool) (v:Value),(k<=xs.length)/\(acc.length<=k)/\(acc++(if d=true then xs.drop k else (xs.drop k).erase y)=xs.erase y)/\F=sF [0,1] fz [(5,ZQ acc v),(6,.b d),(7,.i k)]/\h=[.tail v 1]/\m=xs.length-k) _ _ _ ⟨0,[],false,v1,ob,ob,(by simp),rfl,rfl,rfl⟩ (wk [0] (fw (Yd fl))) ?_))))
 rintro m F h ⟨k,acc,d,v,Yj,Zl,Zy,rfl,rfl,rfl⟩
 refine YO 2 (iw (Yf xs) (Y5 ((k:Int)<(xs.length:Int)) (fun Za=>?_) (fun Za=>?_)))
 ·refine ak (aq (ab 1 (Ya 2 ?_)))
  obtain ⟨x1,Z3⟩:=Zs xs k om
  refine Zo (Zj none (k:Int) 1 (Y3 Z3)) (Xv [0,1,5,6,7] [(24,.b ((x1==y)&&(!d)))] (fun gz=>gz) ?_ ?_)
  ·refine Z2 4 (ib (b:=(x1==y)) 21 (fun Zb=>?_) (fun Zb=>?_))
   ·exact Z0 (wk [0] (Zt (!d) Zb fl))
   exact Z0 (wk [0] (Zt false Zb fl))
  refine Jv (fun fz gz F h=>∃(w:Value),F=sF [0,1,7] fz [(5,ZQ (if (x1=y)/\(¬(d=true)) then acc else (acc++[x1])) w),(6,.b (((x1==y)&&(!d))||d))]/\h=[.tail w 1]) (fun _ _=>rfl) ?_ ?_
  ·refine ac ((x1==y)&&(!d)) (p:=(x1=y)/\(¬(d=true))) (YL Zq (YA Iff.rfl)) (fun Zg=>?_) (fun Zg=>?_)
   ·exact Td (ZP ⟨v,rfl,rfl⟩ (wk [0] (fc (x:=ZQ acc v) (Ze.slh _ (Yp Z7 (by first|rfl|(rw [Zd Zg])|(rw [Z8 Zg])|(simp [Zg];done)|(rw [Xx];simp [Zg];done)|omega))) (fc (x:=.b true) (lb (by first|rfl|(rw [Zd Zg])|(rw [Z8 Zg])|(simp [Zg];done)|(rw [Xx];simp [Zg];done)|omega)) fl))))
   exact az (Z2 3 (Zo (Zj none (k:Int) 1 (Y3 Z3)) (Z2 1 (iL (Z7 [x1]) 1 1 fun v2=>ZU 0 [(30,Z5 [x1])] (ip 1 (Z7 (acc++[x1])) (Z7 acc) (Z7 [x1]) v none 1 (YC _) (YC _) (We _) (by simp<;>omega) (by simp [Wd,Z7]) fun v3=>Z0 (ZP ⟨v3,rfl,rfl⟩ (wk [0] (fc (x:=ZQ (acc++[x1]) v3) (Ze.slh _ (Yp Z7 (by first|rfl|(rw [Zd Zg])|(rw [Z8 Zg])|(simp [Zg];done)|(rw [Xx];simp [Zg];done)|omega))) (fc (x:=.b d) (lb (by cases d<;>simp_all)) fl)))))))))
  rintro F h ⟨w,rfl,rfl⟩
  exact az (Z2 1 (ZJ k (Z0 (ZK ⟨k+1,(if (x1=y)/\(¬(d=true)) then acc else (acc++[x1])),(((x1==y)&&(!d))||d),w,ob,(by split<;>(try simp)<;>omega),(Z6j Z3 Zy),rfl,rfl,rfl⟩ (wk [0] (fw (ZM k fl)))))))
 exact ax 0 (ar (Zr (r2 [0] [ZQ acc v] ⟨v,rfl,rfl⟩ (Ze.slh _ (Yp Z7 (Z6i om Zy))))))
theorem Zfm (b:Z6) (x:Int) (fs:LI) (q:Nat) (ha:∀s∈b.steps,YF s.op=true->∃a,s.args=[a]) (hf:fs.length<=3:=by exact ob) (hq:q<=1000000000:=by exact ob) (hz:b.sz<=900000000:=by exact ob):Zk 142 [ZZ b,.i x,Z5 fs,.i q] [] (Ys (ZZ (Jq b x fs q))):=by
 have hbz:=Uk b
 have hrl:=GK b.steps
 have hal:=HI (b.steps.take (W4 b.steps))
 rw [WB] at hal
 have her:=List.length_erase_le (a:=x) (l:=WE 15 (b.steps.take (W4 b.steps)))
 have har:∀op:Int,YF op=true->∀s∈b.steps.take (W4 b.steps),s.op=op->∃a,s.args=[a]:=fun op ho s hs e=>ha s (Q1 hs) (by rw [e];exact ho)
 refine ZF 88 Tryz.func142 (ar (iA (Xm b) fun b1=>iA [nl,.i 0] fun b2=>ie (Zw 1 [1] (Zz [] (Zft b) (Z0 (Zw 2 [1] (ic [] (SR b (W4 b.steps) 14 (ha:=(har _ rfl))) ?_)))))))
 rintro _ _ ⟨v1,rfl,rfl⟩
 refine Z0 (Zw 2 [2] (ic [] (SR b (W4 b.steps) 15 (ha:=(har _ rfl))) ?_))
 rintro _ _ ⟨v2,rfl,rfl⟩
 refine Z0 (X9 (ZU 2 [(22,Z5 (WE 15 (b.steps.take (W4 b.steps))))] (Zz [] (T1 (WE 15 (b.steps.take (W4 b.steps))) x) (Xv [1,2,3,4,8,9,10,11] [(30,.b ((!(decide (x∈(WE 15 (b.steps.take (W4 b.steps))))))||((fs.length:Int)==0)))] (fun gz=>gz) ?_ ?_))))
 ·refine Z2 2 (ib (b:=(!(decide (x∈(WE 15 (b.steps.take (W4 b.steps))))))) 26 (fun Zb=>?_) (fun Zb=>?_))
  ·exact Z0 (ZG 4 (Zt true Zb fl))
  exact Z2 1 (iw (Yf fs) (Z0 (ZG 4 (Zt ((fs.length:Int)==0) Zb fl))))
 refine ac ((!(decide (x∈(WE 15 (b.steps.take (W4 b.steps))))))||((fs.length:Int)==0)) (p:=(¬(x∈(WE 15 (b.steps.take (W4 b.steps)))))∨((fs.length:Int)=0)) (Yr (YA dq) Zq) (fun Za=>?_) (fun Za=>?_)
 ·exact Zw 1 [3] (ZI 2 b2 (Xm b) (ie (ZD (r3 [] [ZZ b] [0] [(b2,b2)] ⟨rfl,rfl⟩ (Ze.agg (.cons (Ze.sl _ (Yp Zv (Z2e (fun z=>Za.elim (fun e=>e z.1) (fun e=>z.2 om))).symm)) (.cons li .nil)))))))
 refine ak (ar (ZU 2 [(32,Z5 (WE 15 (b.steps.take (W4 b.steps))))] (ic [] (Z07 (WE 15 (b.steps.take (W4 b.steps))) x) ?_)))
 rintro _ _ ⟨v3,rfl,rfl⟩
 refine Z0 (Yi (ab 0 (Y6 (fun fz gz m F h=>∃(k:Nat) (D:LI) (R:LI) (v:Value),(k<=fs.length)/\(D.length<=b.steps.length)/\(R.length<=b.steps.length+k)/\(Th (fs.drop k) (q+k) D R=AE b.steps x fs q)/\F=sF [1,2,3,4,8,9] fz [(10,Z5 D),(11,ZQ R v),(12,.i k)]/\h=[Zc gz 3,Zc gz 4,.tail v 1]/\m=fs.length-k) _ _ _ ⟨0,(WE 14 (b.steps.take (W4 b.steps))),((WE 15 (b.steps.take (W4 b.steps))).erase x),v3,ob,om,om,(by simp [AE]),rfl,rfl,rfl⟩ (wk [3,3,0] (fc (x:=ZQ (WE 14 (b.steps.take (W4 b.steps))) v1) (Ze.forget _ _) (fr (Yd fl)))) ?_)))
 rintro m F h ⟨k,D,R,v,Yj,Zl,Zy,Yv,rfl,rfl,rfl⟩
 refine YO 2 (iw (Yf fs) (Y5 ((k:Int)<(fs.length:Int)) (fun Zg=>?_) (fun Zg=>?_)))
 ·refine ak (aq (ab 1 (Ya 2 ?_)))
  obtain ⟨x1,Z3⟩:=Zs fs k om
  refine Zo (Zj none (k:Int) 1 (Y3 Z3)) (Xv [1,2,3,4,8,9,10,11,12] [(52,.b ((x1 != 0)&&(decide (((q+k:Nat):Int)∈D))))] (fun gz=>gz) ?_ ?_)
  ·refine Z2 3 (ib (b:=(x1 != 0)) 46 (fun ZB=>?_) (fun ZB=>?_))
   ·exact Z2 3 (ia (((q+k:Nat):Int)) (((q:Int))+((k:Int))) (Zz [] (T1 D ((q+k:Nat):Int)) (Z0 (ZG 3 (Zt (decide (((q+k:Nat):Int)∈D)) ZB fl)))))
   exact Z0 (ZG 3 (Zt false ZB fl))
  refine Jv (fun fz gz F h=>∃(D2:LI) (R2:LI) (w:Value),(Th (fs.drop (k+1)) (q+((k+1:Nat):Int)) D2 R2=AE b.steps x fs q)/\(D2.length<=b.steps.length)/\(R2.length<=b.steps.length+(k+1))/\F=sF [1,2,3,4,8,9,12] fz [(10,Z5 D2),(11,ZQ R2 w)]/\h=[Zc gz 0,Zc gz 1,.tail w 1]) (fun _ _=>rfl) ?_ ?_
  ·refine ac ((x1 != 0)&&(decide (((q+k:Nat):Int)∈D))) (p:=(x1≠0)/\(((q+k:Nat):Int)∈D)) (YL Ym dq) (fun ZC=>?_) (fun ZC=>?_)
   ·refine az (Z2 3 (ia (((q+k:Nat):Int)) (((q:Int))+((k:Int))) (ic [] (Z07 D ((q+k:Nat):Int)) ?_)))
    rintro _ _ ⟨v4,rfl,rfl⟩
    exact Z0 (ZP ⟨(D.erase ((q+k:Nat):Int)),R,v,(Zcw Z3 ZC.1 ZC.2 Yv),(VE List.length_erase_le Zl),ob,rfl,rfl⟩ (wk [1,1,1] fl))
   refine Ya 2 (Zo (Zj none (k:Int) 1 (Y3 Z3)) (YH (x1 != 0) Ym (fun Yg=>?_) (fun Yg=>?_)))
   ·exact az (Z2 3 (ia (((q+k:Nat):Int)) (((q:Int))+((k:Int))) (iL (Z7 [((q+k:Nat):Int)]) 1 1 fun v5=>ZU 0 [(67,Z5 [((q+k:Nat):Int)])] (ip 3 (Z7 (R++[((q+k:Nat):Int)])) (Z7 R) (Z7 [((q+k:Nat):Int)]) v none 1 (YC _) (YC _) (We _) (by simp<;>omega) (by simp [Wd,Z7]) fun v6=>Z0 (ZP ⟨D,(R++[((q+k:Nat):Int)]),v6,(Zcx Z3 Yg (fun z=>ZC ⟨Yg,z⟩) Yv),ob,(by simp;omega),rfl,rfl⟩ (wk [2,2,0] fl))))))
   exact ak (ZP ⟨D,R,v,(Zcy Z3 Yg Yv),ob,ob,rfl,rfl⟩ (ZG 3 fl))
  rintro F h ⟨D2,R2,w,D5,D6,Pw,rfl,rfl⟩
  exact az (Z2 1 (ZJ k (Z0 (ZK ⟨k+1,D2,R2,w,ob,ob,ob,ob,rfl,rfl,rfl⟩ (ZG 3 (fw (ZM k fl)))))))
 refine ax 0 (Ya 1 (ic [] (KO 14 D) ?_))
 rintro _ _ ⟨v7,rfl,rfl⟩
 refine Z2 1 (Zz [] (A4 16 x) (iL [YI (Zu 16 x)] 1 5 fun v8=>ZU 0 [(73,.sl [YI (Zu 16 x)] none)] (ip 1 (Zv ((D.map (Zu 14))++[Zu 16 x])) (Zv (D.map (Zu 14))) [YI (Zu 16 x)] v7 none 5 (Xe _) (QI rfl) rfl (by simp<;>omega) (by simp [WW,Vx]) fun v9=>Z0 (ar (ZU 2 [(76,Z5 R)] (ic [] (KO 15 R) ?_))))))
 rintro _ _ ⟨v10,rfl,rfl⟩
 refine ZU 0 [(77,Wz (R.map (Zu 15)))] (ip 1 (Zv (((D.map (Zu 14))++[Zu 16 x])++(R.map (Zu 15)))) (Zv ((D.map (Zu 14))++[Zu 16 x])) (Zv (R.map (Zu 15))) v9 none 5 (Xe _) (Xe _) (VP _) (by simp<;>omega) (by simp [WW,Zv]) fun v11=>Z0 (aD 10 (ZH 6 10 [0,1,2,3] [4] (dx 4 (Ko (es:=Zv b.steps) (hv:=none) (l:=(((W4 b.steps):Nat):Int)) (m:=(((Zv b.steps).length:Nat):Int)) (sz:=5) (es':=Zv (b.steps.drop (W4 b.steps))) kr om (by simp<;>omega) (by simp<;>omega) (Xe _) (by first|(simp only [Vm,V6,TR,TQ];done)|(simp only [Vm,V6,TR,TQ];rfl)|(simp [TR,TQ];done))) (ZH 3 5 [6,7] [4] (Z9 5 (dp 5 0 [1] [b1] (Zv ((((D.map (Zu 14))++[Zu 16 x])++(R.map (Zu 15)))++(b.steps.drop (W4 b.steps)))) (Zv (((D.map (Zu 14))++[Zu 16 x])++(R.map (Zu 15)))) (Zv (b.steps.drop (W4 b.steps))) v11 none 5 (Xe _) (Xe _) (VP _) (by simp<;>omega) (by simp [WW,Zv]) fun v12=>Zm 1 2 [8] (Z9 9 (YK 9 3 [] [] b2 [X4 ((((D.map (Zu 14))++[Zu 16 x])++(R.map (Zu 15)))++(b.steps.drop (W4 b.steps))) v12,.i b.result] (de ?_))))))))))
 have hE:=Z2g (Vy.1 fun z=>Za (.inl z)) (fun z=>Za (.inr om)) (Zcv om Yv)
 exact ZD (r3 [] [.agg [X4 ((((D.map (Zu 14))++[Zu 16 x])++(R.map (Zu 15)))++(b.steps.drop (W4 b.steps))) v12,.i b.result]] [0] [(b2,b2)] ⟨rfl,rfl⟩ (Ze.agg (.cons (Ze.sl _ (Yp Zv hE)) (.cons li .nil))))
theorem Zfx (n:Zi) (b:Z6) (mm:Nat) (hn:X6 n) (hw:wB n.decls b) (hb:mm+9*b.sz<=900000000) (ih:∀(b2:Z6) (m2:Nat),(wB n.decls b2)->(m2+9*b2.sz<=900000000)->(b2.sz<b.sz)->Zk 83 [Yq n,ZZ b2,.i m2] [] (Ys (ZZ (Vk n.decls m2 b2)))):Zk 83 [Yq n,ZZ b,.i mm] [] (Ys (ZZ (Vk n.decls mm b))):=by
 have XB:=hn.decls
 have hbz:=Uk b
 have ZL:=(Jn b).1 hw
 refine ZF 107 Tryz.func83 (ar (iA (YU n) fun b1=>iA (Xm b) fun b2=>iA [nl,.i 0] fun b3=>ie (ar (iL (Zv []) 0 5 fun v1=>ZO 3 [2] (iA [nl,.i 0] fun b4=>?_)))))
 refine ZI 0 b4 [X4 [] v1,.i b.result] (ie (Yi (ab 0 (Y6 (fun fz gz m F h=>∃(k:Nat) (q:Nat) (xs:List Z4) (v:Value),(k<=b.steps.length)/\(q<=mm+k)/\(xs.length=k)/\(xs++UP n.decls q (b.steps.drop k)=UP n.decls mm b.steps)/\F=sF [3,4,6,7] fz [(2,.i q),(8,.i k)]/\h=[.obj b4 [X4 xs v,.i b.result],Zc gz 2,Zc gz 3,Zc gz 4,.tail v 5]/\m=b.steps.length-k) _ _ _ ⟨0,mm,[],v1,ob,ob,ob,rfl,rfl,rfl,rfl⟩ (wk [0,1,1,1,0] (fr (Yd fl))) ?_))))
 rintro m F h ⟨k,q,xs,v,Yj,Zl,Zy,Yv,rfl,rfl,rfl⟩
 refine Yl 3 [2] (iw (VO b.steps) (Y5 ((k:Int)<(b.steps.length:Int)) (fun Za=>?_) (fun Za=>?_)))
 ·refine ak (aq (ab 1 (Zw 3 [2] ?_)))
  obtain ⟨x1,Z3⟩:=Zs b.steps k om
  have Xr:=Ck Z3
  have hws:=Z1e hw Z3
  have hkz:=TK x1
  have haz:=QA x1
  have hdf:=Zi2 hws
  refine Zo (Zj none (k:Int) 5 (V2 Z3)) (Z2 1 (iA [.i 0,.i 0,.i 0,nl,nl] fun b5=>ZI 0 b5 (XG x1) (ie (ar (iL (YM []) 0 2 fun v2=>Z0 (Zw 4 [5,1] (ic [] (A3 n.decls x1.num) ?_)))))))
  rintro _ _ ⟨v3,rfl,rfl⟩
  refine Z0 (Yi (ab 2 (Y6 (fun fz gz m F h=>∃(j:Nat) (u:Value) (ks:List Z6),(j<=x1.kids.length)/\(ks.length=j)/\(ks++Tz n.decls q x1.op x1.num x1.args (x1.kids.drop j) j=Tz n.decls q x1.op x1.num x1.args x1.kids 0)/\F=sF [2,3,4,6,7,8,9,11] fz [(10,Ty ks u),(12,.i j)]/\h=[Zc gz 2,Zc gz 3,Zc gz 4,Zc gz 5,Zc gz 6,.tail u 2,Zc gz 7,Zc gz 0]/\m=x1.kids.length-j) _ _ _ ⟨0,v2,[],ob,ob,(by simp),rfl,rfl,rfl⟩ (wk [2,2,2,2,2,1,1,0] (fr (Yd fl))) ?_)))
  rintro m F h ⟨j,u,ks,Up,Wa,XZ,rfl,rfl,rfl⟩
  refine Yl 3 [0] (iw (Uy x1.kids) (Y5 ((j:Int)<(x1.kids.length:Int)) (fun Zg=>?_) (fun Zg=>?_)))
  ·refine ak (aq (ab 3 (Bc [0] (ac (x1.op==8) Zq (fun ZC=>?_) (fun ZC=>?_)))))
   ·refine aD 8 (ZH 4 8 [0,1,2,3] [4] ?_)
    obtain ⟨x2,Zx⟩:=Zs (ZY n.decls x1.num) j (by have h:=(EO hws (by assumption)).2;omega)
    have hfk:Tb n.decls x1.num j=ZV n.decls x2:=Ot (by rw [Tl,Zx];rfl)
    have hcf:=Ud XB x2
    refine dx 4 (Zj (some v3) (j:Int) 1 (Y3 Zx)) (Zm 2 3 [5] (Z9 6 (Yo 6 [] [] [] (KN n.decls x2) (Zm 0 1 [7] (de (aE 22 (ZH 17 22 [0,1,2,3,4] [4,0] ?_)))))))
    obtain ⟨x3,YS⟩:=Zs x1.kids j om
    have hkb:=YS
    have hks:=Tx YS
    have hwk:=MF hws YS
    have hpk:=Z6.pz_le x3
    refine dx 5 (Zj none (j:Int) 2 (T9 YS)) (Zm 13 16 [6,7,8] (dn 9 (.i (((ZV n.decls x2).length:Nat):Int)) (.i (((Z7 (ZV n.decls x2)).length:Nat):Int)) (li (by rw [Yf])) (da 10 (((q+((ZV n.decls x2).length):Nat):Int)) (((q:Int))+((((ZV n.decls x2).length:Nat):Int))) (ZH 9 11 [12,13] [0] ?_))))
    obtain ⟨x4,VI⟩:=Zs x1.args 0 (by obtain ⟨⟨a,ha2,_⟩,_⟩:=EO hws (by assumption);rw [ha2];simp)
    have hg1:=JB VI
    exact dx 14 (Zj none 0 1 (Y3 VI)) (Zm 5 8 [15,16,17] (Z9 11 (Yo 11 [] [0] [b5] (ih x3 (q+((ZV n.decls x2).length)) hwk ob ob) (Z9 18 (Yo 18 [] [] [] (Zfm (Vk n.decls (q+((ZV n.decls x2).length)) x3) x4 (ZV n.decls x2) q (ha:=(by rw [GW];exact Zf6 ((Jn _).1 hwk))) (hz:=(VE (GX XB _ hwk) om))) (Z9 19 (dL 19 [] [] [ZZ (Jq (Vk n.decls (q+((ZV n.decls x2).length)) x3) x4 (ZV n.decls x2) q)] 1 2 fun v4=>Yw 2 2 [] [(72,.sl [ZZ (Jq (Vk n.decls (q+((ZV n.decls x2).length)) x3) x4 (ZV n.decls x2) q)] none)] (Z9 20 (dp 20 6 [] [] (YM (ks++[Jq (Vk n.decls (q+((ZV n.decls x2).length)) x3) x4 (ZV n.decls x2) q])) (YM ks) [ZZ (Jq (Vk n.decls (q+((ZV n.decls x2).length)) x3) x4 (ZV n.decls x2) q)] u none 2 (Q4 _) (QI rfl) rfl (by simp<;>omega) (by simp [An,Tp]) fun v5=>Zm 0 1 [21] (de (az (Z2 1 (ZJ j (Z0 (ZK ⟨j+1,v5,(ks++[Jq (Vk n.decls (q+((ZV n.decls x2).length)) x3) x4 (ZV n.decls x2) q]),ob,(by simp;omega),(by have h:=SK hkb XZ;rw [GY,Zd (by assumption),hfk,hg1] at h;exact h),rfl,rfl,rfl⟩ (wk [2,2,2,2,2,0,1,1] (fr (ZM j fl))))))))))))))))))
   refine aE 12 (ZH 7 12 [0,1,2,3,4] [4,0] ?_)
   obtain ⟨x5,UA⟩:=Zs x1.kids j om
   have hkb:=UA
   have hks:=Tx UA
   have hwk:=MF hws UA
   have hpk:=Z6.pz_le x5
   exact dx 5 (Zj none (j:Int) 2 (T9 UA)) (Zm 4 6 [6,7] (Z9 8 (Yo 8 [] [] [] (ih x5 q hwk ob ob) (Z9 9 (dL 9 [] [] [ZZ (Vk n.decls q x5)] 1 2 fun v6=>Yw 2 2 [] [(83,.sl [ZZ (Vk n.decls q x5)] none)] (Z9 10 (dp 10 6 [] [] (YM (ks++[Vk n.decls q x5])) (YM ks) [ZZ (Vk n.decls q x5)] u none 2 (Q4 _) (QI rfl) rfl (by simp<;>omega) (by simp [An,Tp]) fun v7=>Zm 0 1 [11] (de (az (Z2 1 (ZJ j (Z0 (ZK ⟨j+1,v7,(ks++[Vk n.decls q x5]),ob,(by simp;omega),(by have h:=SK hkb XZ;rw [GY,Z8 (by assumption)] at h;exact h),rfl,rfl,rfl⟩ (wk [2,2,2,2,2,0,1,1] (fr (ZM j fl))))))))))))))))
  have hK:=Zf4 om XZ
  refine ax 2 (aD 17 (ZH 6 17 [0,1,2,3,4,5,6,7,8,9,11] [1,0,0,0,0] (Z9 10 (dc 10 [] [0,0,0,1] [b5,b5,b5,b4] (UD x1.args) ?_))))
  rintro _ _ ⟨v8,rfl,rfl⟩
  refine Yw 4 5 [12] [(97,.agg [.i x1.op,.i x1.num,.i x1.into,Z5 x1.args,Wb ks])] (Z9 13 (dL 13 [1] [b4] [YI (Z4.mk x1.op x1.num x1.into x1.args ks)] 1 5 fun v9=>Yw 3 3 [] [(98,.sl [YI (Z4.mk x1.op x1.num x1.into x1.args ks)] none)] (Z9 14 (dp 14 8 [] [] (Zv (xs++[Z4.mk x1.op x1.num x1.into x1.args ks])) (Zv xs) [YI (Z4.mk x1.op x1.num x1.into x1.args ks)] v none 5 (Xe _) (QI rfl) rfl (by simp<;>omega) (by simp [WW,Vx]) fun v10=>?_))))
  refine Zm 1 2 [15] (Z9 16 (YK 16 4 [] [] b4 [X4 (xs++[Z4.mk x1.op x1.num x1.into x1.args ks]) v10,.i b.result] (de (Zw 2 [4] (Zz [] (Jf x1.op) (ie (Jv (fun fz gz F h=>F=sF [3,4,6,7,8] fz [(2,.i (((if YF x1.op=true then q else q+1):Nat):Int))]/\h=[Zc gz 0,Zc gz 5,Zc gz 6,Zc gz 7,Zc gz 1]) (fun _ _=>rfl) ?_ ?_)))))))
  ·refine ac (XR x1.op) Iff.rfl (fun Yg=>?_) (fun Yg=>?_)
   ·exact az (Z2 1 (ZJ q (Z0 (ZP ⟨rfl,rfl⟩ (wk [0,4,4,4,0] (fc (x:=.i (q+1:Nat)) (li (by rw [Z8 (fun z=>by rw [hdf,z] at Yg;cases Yg)])) fl))))))
   exact ak (ZP ⟨rfl,rfl⟩ (wk [0,4,4,4,0] (fc (x:=.i q) (li (by rw [Zd (Dv fun z=>Yg (by rw [hdf,Jo.2 z];rfl))])) fl)))
  rintro F h ⟨rfl,rfl⟩
  exact az (Z2 1 (ZJ k (Z0 (ZK ⟨k+1,(if YF x1.op=true then q else q+1),(xs++[Z4.mk x1.op x1.num x1.into x1.args ks]),v10,ob,(by split<;>omega),(by simp;omega),(by have h:=Zf8 Z3 Yv;rw [<-hK] at h;exact h),rfl,rfl,rfl⟩ (ZG 5 (fr (ZM k fl)))))))
 exact ax 0 (Zw 1 [0] (ZI 1 b3 [X4 xs v,.i b.result] (ie (ZD (r3 [] [.agg [X4 xs v,.i b.result]] [0] [(b3,b3)] ⟨rfl,rfl⟩ (Ze.agg (.cons (Ze.sl _ (Yp Zv (by rw [GW];exact Zf7 om Yv))) (.cons (li (by rw [GW];rfl)) .nil))))))))
theorem Zfv (n:Zi) (hn:X6 n) (k:Nat):∀(b2:Z6) (m2:Nat),(wB n.decls b2)->(m2+9*b2.sz<=900000000)->(b2.sz<k)->Zk 83 [Yq n,ZZ b2,.i m2] [] (Ys (ZZ (Vk n.decls m2 b2))):=by
 induction k with
 | zero=>intro b mm _ _ h;omega
 | succ k ih=>intro b mm h1 h2 h3;exact Zfx n b mm hn h1 h2 fun b2 m2 k1 k2 k3=>ih b2 m2 k1 k2 om
theorem Zfw (n:Zi) (b:Z6) (mm:Nat) (hn:X6 n:=by exact ob) (hw:wB n.decls b:=by exact ob) (hb:mm+9*b.sz<=900000000:=by exact ob):Zk 83 [Yq n,ZZ b,.i mm] [] (Ys (ZZ (Vk n.decls mm b))):=Zfv n hn (b.sz+1) b mm hw hb om
theorem Mm (b:Z6) (hz:b.sz<=1000000000:=by exact ob):Zk 218 [ZZ b] [] (Ys (.i (((YZ b.steps):Nat):Int))):=by
 have hbz:=Uk b
 refine ZF 21 Tryz.func218 (ar (iA (Xm b) fun b1=>?_))
 refine Z0 (ZE (aq (ab 0 (Y6 (fun fz gz m F h=>∃(k:Nat),(k<=b.steps.length)/\(k+YZ (b.steps.drop k)=YZ b.steps)/\F=sF [1] fz [(3,.i k)]/\h=gz/\m=b.steps.length-k) _ _ _ ⟨0,ob,(by simp),rfl,rfl,rfl⟩ (wk [0] (Yd fl)) ?_))))
 rintro m F h ⟨k,Yj,Zl,rfl,rfl,rfl⟩
 refine Yl 3 [0] (iw (VO b.steps) (Z2 2 (ib (b:=(decide ((k:Int)<(b.steps.length:Int)))) 9 (fun Zb=>?_) (fun Zb=>?_))))
 ·have ZX:(k:Int)<(b.steps.length:Int):=(dq).1 Zb
  refine ZO 3 [0] ?_
  obtain ⟨x1,Z3⟩:=Zs b.steps k om
  refine Zo (Zj none (k:Int) 5 (V2 Z3)) (Z2 2 (Zz [] (SY x1.op) (YH (YF x1.op) Iff.rfl (fun Za=>?_) (fun Za=>?_))))
  ·exact ak (ab 1 (az (Z2 1 (ZJ k (Z0 (ZK ⟨k+1,ob,(Zbf Z3 Za Zl),rfl,rfl,rfl⟩ (wk [0] (ZM k fl))))))))
  exact ax 0 (ar (Zr (Y4 (.i k) (li (by have:=Zbg Z3 Za Zl;omega)))))
 have Yk:¬((k:Int)<(b.steps.length:Int)):=Yh dq Zb
 exact Z0 (Wr (ax 0 (ar (Zr (Y4 (.i k) (li (by have:=Zbe om Zl;omega)))))))
theorem Z03 (b:Z6) (mm:Nat) (op:Int) (x:Int) (hm:mm<=b.steps.length:=by exact ob) (ha:∀s∈b.steps.take mm,s.op=op->∃a,s.args=[a]) (hz:b.sz<=1000000000:=by exact ob):Zk 219 [ZZ b,.i mm,.i op,.i x] [] (Ys (.i (Wh op x (b.steps.take mm) 0))):=by
 have hbz:=Uk b
 refine ZF 36 Tryz.func219 (ar (iA (Xm b) fun b1=>?_))
 refine Z0 (Yi (ab 0 (Y6 (fun fz gz m F h=>∃(k:Nat),(k<=mm)/\(Wh op x ((b.steps.take mm).drop k) k=Wh op x (b.steps.take mm) 0)/\F=sF [1,2,3,4] fz [(9,.i k)]/\h=gz/\m=mm-k) _ _ _ ⟨0,ob,(by simp),rfl,rfl,rfl⟩ (wk [0] (Yd fl)) ?_)))
 rintro m F h ⟨k,Yj,Zl,rfl,rfl,rfl⟩
 refine X9 (Y5 ((k:Int)<(mm:Int)) (fun Za=>?_) (fun Za=>?_))
 ·refine ak (aq (ab 1 (Zw 3 [0] ?_)))
  obtain ⟨x1,Z3⟩:=Zs b.steps k om
  have hxt:(b.steps.take mm)[k]? = some x1:=by rw [List.getElem?_take_of_lt om];exact Z3
  have hxm:=ZW hxt
  refine Zo (Zj none (k:Int) 5 (V2 Z3)) (Z2 5 (ib (b:=(x1.op==op)) 23 (fun Zb=>?_) (fun Zb=>?_)))
  ·have ZX:x1.op=op:=(Zq).1 Zb
   refine ZO 3 [0] (Zo (Zj none (k:Int) 5 (V2 Z3)) (Z2 2 ?_))
   obtain ⟨x2,Zx⟩:=Zs x1.args 0 (by obtain ⟨a,ha2⟩:=ha x1 hxm (by assumption);rw [ha2];simp)
   have hg0:=JB Zx
   refine Zo (Zj none 0 1 (Y3 Zx)) (YH (x2==x) Zq (fun Zg=>?_) (fun Zg=>?_))
   ·exact ar (Zr (Y4 (.i k) (li (by have h:=Z2z hxt ⟨by assumption,by rw [hg0];assumption⟩ Zl;omega))))
   exact ak (az (Z2 1 (ZJ k (Z0 (ZK ⟨k+1,ob,(Nh hxt (fun z=>Zg (by rw [<-hg0];exact z.2)) Zl),rfl,rfl,rfl⟩ (wk [0] (ZM k fl)))))))
  have Yk:¬(x1.op=op):=Yh Zq Zb
  exact Z0 (Wr (ak (az (Z2 1 (ZJ k (Z0 (ZK ⟨k+1,ob,(Nh hxt (fun z=>absurd z.1 (by assumption)) Zl),rfl,rfl,rfl⟩ (wk [0] (ZM k fl)))))))))
 exact ax 0 (ar (Zr (Y4 (.i (-1)) (li (by have h:=Z2y (by rw [WB];omega) Zl;omega)))))
theorem Zfg (b:Z6) (frm0:Nat) (many:Nat) (hm:frm0<=b.steps.length:=by exact ob) (hz:b.sz<=1000000000:=by exact ob):Zk 263 [ZZ b,.i frm0,.i many] [] (Ys (.i (WJ many (b.steps.drop frm0) frm0))):=by
 have hbz:=Uk b
 refine ZF 44 Tryz.func263 (ar (iA (Xm b) fun b1=>?_))
 refine Z0 (Yi (ab 0 (Y6 (fun fz gz m F h=>∃(k:Nat),(k<=b.steps.length)/\(WJ many (b.steps.drop k) k=WJ many (b.steps.drop frm0) frm0)/\F=sF [2,3] fz [(7,.i k)]/\h=gz/\m=b.steps.length-k) _ _ _ ⟨frm0,ob,rfl,rfl,rfl,rfl⟩ (wk [0] fl) ?_)))
 rintro m F h ⟨k,Yj,Zl,rfl,rfl,rfl⟩
 refine Yl 3 [0] (iw (VO b.steps) (Y5 ((k:Int)<(b.steps.length:Int)) (fun Za=>?_) (fun Za=>?_)))
 ·refine ak (aq (ab 1 (Zw 3 [0] ?_)))
  obtain ⟨x1,Z3⟩:=Zs b.steps k om
  refine Zo (Zj none (k:Int) 5 (V2 Z3)) (XU 16 [2,3,7] [(31,.b ((x1.op==6)&&(x1.into==0)))] (fun gz=>gz) ?_ (fun hj1=>?_))
  ·refine Xv [2,3,7] [(42,.b (((x1.op==6)&&(x1.into==0))&&((x1.args.length:Int)==(many:Int))))] (fun gz=>gz) ?_ ?_
   ·refine Z2 1 (ib (b:=((x1.op==6)&&(x1.into==0))) 32 (fun Zb=>?_) (fun Zb=>?_))
    ·exact ZO 3 [0] (Zo (Zj none (k:Int) 5 (V2 Z3)) (Z2 2 (iw (Yf x1.args) (Z0 (wk [0] (Zt ((x1.args.length:Int)==(many:Int)) Zb fl))))))
    exact Z0 (wk [0] (Zt false Zb fl))
   refine ac (((x1.op==6)&&(x1.into==0))&&((x1.args.length:Int)==(many:Int))) (p:=((x1.op=6)/\(x1.into=0))/\((x1.args.length:Int)=(many:Int))) (YL (YL Zq Zq) Zq) (fun Zg=>?_) (fun Zg=>?_)
   ·exact ar (Zr (Y4 (.i k) (li (by have h:=Z4f Z3 (show KD many x1 from ⟨Zg.1,by omega⟩) Zl;omega))))
   exact ak (az (Z2 1 (ZJ k (Z0 (ZK ⟨k+1,ob,(Z4e Z3 (fun z=>Zg ⟨z.1,by have:=z.2;omega⟩) Zl),rfl,rfl,rfl⟩ (wk [0] (ZM k fl)))))))
  refine Z2 4 (ib (b:=(x1.op==6)) 23 (fun ZB=>?_) (fun ZB=>?_))
  ·exact ZO 3 [0] (Zo (Zj none (k:Int) 5 (V2 Z3)) (Z2 4 (YB (wk [0] (Zt (x1.into==0) ZB fl)) hj1)))
  exact Z2 8 (YB (wk [0] (Zt false ZB fl)) hj1)
 exact ax 0 (ar (Zr (Y4 (.i (-1)) (li (by have h:=Z4d om Zl;omega)))))
theorem Z4p (b:Z6) (hz:b.sz<=1000000000):Zk 156 [ZZ b] [] (fun r h=>∃(v:Hd),r=.agg [.h v,.i b.result]/\h=[rK v 5 (Zp (Zv b.steps))]):=by
 have hbz:=Uk b
 refine ZF 28 Tryz.func156 (ar (iA (Xm b) fun b1=>iA [nl,.i 0] fun b2=>ie (ar (CY 5 fun g1=>ZO 3 [2] (iA [nl,.i 0] fun b3=>?_)))))
 refine ZI 0 b3 [.ms g1 0 0 0,.i b.result] (ie (Yi (ab 0 (Y6 (fun fz gz m F h=>∃(k:Nat) (v:Hd),(k<=b.steps.length)/\F=sF [1,2,3] fz [(4,.i k)]/\h=[.obj b3 [.h v,.i b.result],Zc gz 2,Zc gz 3,rK v 5 (Zp (Zv (b.steps.take k)))]/\m=b.steps.length-k) _ _ _ ⟨0,(⟨some ⟨g1,0,none⟩,0,0⟩:Hd),ob,rfl,rfl,rfl⟩ (wk [0,1,1,0] (Yd fl) (e:=(rc (rc (rc (rr (ls:=[]) ob rz)))))) ?_))))
 rintro m F h ⟨k,v,Yj,rfl,rfl,rfl⟩
 refine Yl 3 [2] (iw (VO b.steps) (Y5 ((k:Int)<(b.steps.length:Int)) (fun Za=>?_) (fun Za=>?_)))
 ·refine ak (aq (ab 1 (aE 12 (ZH 7 12 [0,1,2,3,4] [0,2] ?_))))
  obtain ⟨x1,Z3⟩:=Zs b.steps k om
  have hss:=A5 Z3
  exact dx 5 (Zj none (k:Int) 5 (V2 Z3)) (Zm 5 6 [6] (Z9 7 (Yo 7 [] [0] [b3] (SW x1) (Z9 8 (dL 8 [0] [b3] [YI x1] 1 5 fun v1=>Yw 3 3 [] [(24,.sl [YI x1] none)] (Z9 9 (I1 9 4 k [] [] v 5 (Zp (Zv (b.steps.take k))) [YI x1] none (by rw [K9,WB,VV om]) (QI rfl) rfl (List.cons_ne_nil _ _) (by simp<;>omega) fun v2=>Zm 1 2 [10] (Z9 11 (YK 11 2 [] [] b3 [.h v2,.i b.result] (de (az (Z2 1 (ZJ k (Z0 (ZK ⟨k+1,v2,ob,rfl,rfl,rfl⟩ (wk [0,2,2,0] (ZM k fl) (e:=(rc (rc (rc (rr (ls:=Zp (Zv (b.steps.take k))++Zp [YI x1]) (OA Z3) rz)))))))))))))))))))))
 exact ax 0 (Zw 1 [0] (ZI 1 b2 [.h v,.i b.result] (ie (ZD (r3 [3] [.agg [.h v,.i b.result]] [0] [(b2,b2)] ⟨v,rfl,rfl⟩ (lr _) (eq:=(rr (ls:=Zp (Zv (b.steps.take k))) (by rw [Vt om]) rz)))))))
theorem Z4o (b:Z6) (hz:b.sz<=1000000000:=by exact ob) (h0:0<b.steps.length:=by exact ob):Zk 156 [ZZ b] [] (fun r h=>∃(g:Nat) (c:Nat),r=.agg [.ms g 0 b.steps.length c,.i b.result]/\h=[.row (.slice (some ⟨g,0,none⟩) b.steps.length c) 5 (Zp (Zv b.steps))]):=(Z4p b hz).form (T:=fun v=>.agg [.h v,.i b.result]) (m:=b.steps.length) (K9 _) om h0
theorem Zfn (ds:List Zf) (b:Z6) (x:Int) (many:Nat) (hw:wB ds b:=by exact ob) (hx:0<=x/\x<=900000000:=by exact ob) (hz:b.sz<=1000000000:=by exact ob):Zk 217 [ZZ b,.i x,.i many] [] (Ys (ZZ (Uj b x many))):=by
 have hbz:=Uk b
 have ZL:=(Jn b).1 hw
 have hrl:=Ee b.steps
 refine ZF 57 Tryz.func217 (ar (iA (Xm b) fun b1=>iA [nl,.i 0] fun b2=>ie (aD 6 (ZH 3 6 [0,1,3] [1,1] (Z9 2 (Yo 2 [] [1] [b1] (Mm b) (Z9 4 (Yo 4 [] [] [] (Z03 b (YZ b.steps) 16 x (ha:=(fun s hs h16=>MO (Hs ZL s (Q1 hs) (by rw [h16];rfl))))) (Zm 0 1 [5] (de (aD 6 (ZH 3 6 [0,1,3] [1,1] (Z9 2 (Yo 2 [] [1] [b1] (Mm b) (Z9 4 (Yo 4 [] [] [] (Zfg b (YZ b.steps) many) (Zm 0 1 [5] (de (X9 (Xv [1,3,6,7,8] [(26,.b ((decide ((Wh 16 x (b.steps.take (YZ b.steps)) 0)<0))||(decide ((WJ many (b.steps.drop (YZ b.steps)) (YZ b.steps))<0))))] (fun gz=>gz) ?_ ?_))))))))))))))))))))
 ·refine Z2 3 (ib (b:=(decide ((Wh 16 x (b.steps.take (YZ b.steps)) 0)<0))) 23 (fun Zb=>?_) (fun Zb=>?_))
  ·exact Z0 (wk [0,0] (Zt true Zb fl))
  exact Z0 (wk [0,0] (Zt (decide ((WJ many (b.steps.drop (YZ b.steps)) (YZ b.steps))<0)) Zb fl))
 refine ac ((decide ((Wh 16 x (b.steps.take (YZ b.steps)) 0)<0))||(decide ((WJ many (b.steps.drop (YZ b.steps)) (YZ b.steps))<0))) (p:=((Wh 16 x (b.steps.take (YZ b.steps)) 0)<0)∨((WJ many (b.steps.drop (YZ b.steps)) (YZ b.steps))<0)) (Yr dq dq) (fun Za=>?_) (fun Za=>?_)
 ·exact Zw 1 [1] (ZI 0 b2 (Xm b) (ie (ZD (r3 [] [ZZ b] [0] [(b2,b2)] ⟨rfl,rfl⟩ (Ze.agg (.cons (Ze.sl _ (Yp Zv (Zdi Za).symm)) (.cons li .nil)))))))
 obtain ⟨o1,o2,so,o3,o4⟩:=Ep (xs:=b.steps) (x:=x) (fun z=>Za (.inl z))
 obtain ⟨p1,p2,sc,p3,p4,p5⟩:=Aj (xs:=b.steps) (many:=many) (fun z=>Za (.inr z))
 rw [show VC b.steps x=(Wh 16 x (b.steps.take (YZ b.steps)) 0) from rfl] at o1 o2
 rw [show WS b.steps many=(WJ many (b.steps.drop (YZ b.steps)) (YZ b.steps)) from rfl] at p1 p2
 refine ak (Zw 1 [1] (ic [] (Z4o b) ?_))
 rintro _ _ ⟨g1,c1,rfl,rfl⟩
 exact iA [nl,.i 0] fun b3=>ZI 0 b3 [.ms g1 0 b.steps.length c1,.i b.result] (ie (aD 7 (ZH 3 7 [0,1,2,3] [0] (Z9 4 (Yo 4 [] [0] [b3] (A4 17 x) (dx 5 (Ww g1 b.steps.length c1 ((Wh 16 x (b.steps.take (YZ b.steps)) 0).toNat) 5 (Wh 16 x (b.steps.take (YZ b.steps)) 0)) (Z9 6 (B5 6 1 [] [] g1 b.steps.length c1 5 (((Wh 16 x (b.steps.take (YZ b.steps)) 0).toNat)*5) (XG (Zu 17 x)) (Zp (Zv b.steps)) (Zp (Zv (b.steps.set (Wh 16 x (b.steps.take (YZ b.steps)) 0).toNat (Zu 17 x)))) (by have:(XG (Zu 17 x)).length=5:=rfl;rw [K9];omega) (FI o3) (de (Zw 3 [1] (Zo (Ww g1 b.steps.length c1 ((WJ many (b.steps.drop (YZ b.steps)) (YZ b.steps)).toNat) 5 (WJ many (b.steps.drop (YZ b.steps)) (YZ b.steps))) (V8 (VA 0 g1 b.steps.length c1 5 (((WJ many (b.steps.drop (YZ b.steps)) (YZ b.steps)).toNat)*5) (Zp (Zv (b.steps.set (Wh 16 x (b.steps.take (YZ b.steps)) 0).toNat (Zu 17 x)))) (XG sc) 46 (YI sc) (Iy (GG Za p3))) (iA [.i 0,.i 0,.i 0,nl,nl] fun b4=>ZI 0 b4 (XG sc) (ie (Zw 8 [2,0,0] (ia ((1+x)) ((1)+(x)) (ZO 5 [0,0] (Zo (Ww g1 b.steps.length c1 ((WJ many (b.steps.drop (YZ b.steps)) (YZ b.steps)).toNat) 5 (WJ many (b.steps.drop (YZ b.steps)) (YZ b.steps))) (E9 1 g1 b.steps.length c1 5 (((WJ many (b.steps.drop (YZ b.steps)) (YZ b.steps)).toNat)*5) [.i sc.op,.i sc.num,.i (1+x),Z5 sc.args,Wb sc.kids] (Zp (Zv (b.steps.set (Wh 16 x (b.steps.take (YZ b.steps)) 0).toNat (Zu 17 x)))) (Zp (Zv ((b.steps.set (Wh 16 x (b.steps.take (YZ b.steps)) 0).toNat (Zu 17 x)).set (WJ many (b.steps.drop (YZ b.steps)) (YZ b.steps)).toNat (QH (1+x) sc)))) (by rw [K9,Vc];simp only [YT,XA];omega) (FI (t:=QH (1+x) sc) (GG Za p3)) (W7 (TB 0 1 0 (.slice (some ⟨g1,0,none⟩) b.steps.length c1) 5 b3 (Zv ((b.steps.set (Wh 16 x (b.steps.take (YZ b.steps)) 0).toNat (Zu 17 x)).set (WJ many (b.steps.drop (YZ b.steps)) (YZ b.steps)).toNat (QH (1+x) sc))) [.ms g1 0 b.steps.length c1,.i b.result] (Xe _) rfl) (ie (Zw 1 [0] (ZI 3 b2 [X4 ((b.steps.set (Wh 16 x (b.steps.take (YZ b.steps)) 0).toNat (Zu 17 x)).set (WJ many (b.steps.drop (YZ b.steps)) (YZ b.steps)).toNat (QH (1+x) sc)) (.slice (some ⟨g1,0,none⟩) b.steps.length c1),.i b.result] (ie (ZD (r3 [] [.agg [X4 ((b.steps.set (Wh 16 x (b.steps.take (YZ b.steps)) 0).toNat (Zu 17 x)).set (WJ many (b.steps.drop (YZ b.steps)) (YZ b.steps)).toNat (QH (1+x) sc)) (.slice (some ⟨g1,0,none⟩) b.steps.length c1),.i b.result]] [0] [(b2,b2)] ⟨rfl,rfl⟩ (Ze.agg (.cons (Ze.sl _ (Yp Zv (Zdj Za p5))) (.cons li .nil)))))))))))))))))))))))))))))
theorem Zfl (xs:LI) (y:Int) (hl:xs.length<=1000000000:=by exact ob):Zk 220 [Z5 xs,.i y] [] (fun r h=>∃(ys:LI),r=Z5 ys/\h=[]/\(ys.length<=xs.length+1/\∀z,z∈ys↔z∈xs∨z=y)):=by
 refine ZF 49 Tryz.func220 (ZE (ar (iL (Z7 []) 0 1 fun v1=>?_)))
 refine Z0 (ZE (Yi (ab 0 (Y6 (fun fz gz m F h=>∃(k:Nat) (acc:LI) (d:Bool) (v:Value),(k<=xs.length)/\(KV xs y k acc d)/\F=sF [0,1] fz [(5,ZQ acc v),(6,.b d),(7,.i k)]/\h=[.tail v 1]/\m=xs.length-k) _ _ _ ⟨0,[],false,v1,ob,(KV.zero xs y),rfl,rfl,rfl⟩ (wk [0] (fw (Yd fl))) ?_))))
 rintro m F h ⟨k,acc,d,v,Yj,Zl,rfl,rfl,rfl⟩
 refine YO 2 (iw (Yf xs) (Y5 ((k:Int)<(xs.length:Int)) (fun Za=>?_) (fun Za=>?_)))
 ·obtain ⟨x1,Z3⟩:=Zs xs k om
  have hil:acc.length<=k+1:=VE Zl.len (by split<;>omega)
  refine ak (aq (ab 1 (X9 (Xv [0,1,5,6,7] [(24,.b ((!d)&&(decide (x1>=y))))] (fun gz=>gz) ?_ ?_))))
  ·refine Z2 3 (ib (b:=(!d)) 17 (fun Zb=>?_) (fun Zb=>?_))
   ·exact Z2 2 (Zo (Zj none (k:Int) 1 (Y3 Z3)) (Z0 (wk [0] (Zt (decide (x1>=y)) Zb fl))))
   exact Z0 (wk [0] (Zt false Zb fl))
  refine XW (fun fz gz F h=>∃(acc2:LI) (d2:Bool) (w:Value),((acc2=acc/\d2=d)∨(acc2=acc++[y]/\d2=true/\¬d=true)∨(acc2=acc/\d2=true/\x1=y))/\(acc2.length<=acc.length+1)/\F=sF [0,1,7] fz [(5,ZQ acc2 w),(6,.b d2)]/\h=[.tail w 1]) ?_ ?_
  ·refine ac ((!d)&&(decide (x1>=y))) (p:=(¬(d=true))/\(x1>=y)) (YL (YA Iff.rfl) dq) (fun Zg=>?_) (fun Zg=>?_)
   ·refine YO 2 (Zo (Zj none (k:Int) 1 (Y3 Z3)) (Z0 (XW (fun fz gz F h=>∃(w3:Value),F=sF [0,1,7] fz [(5,ZQ (if x1>y then (acc++[y]) else acc) w3)]/\h=[.tail w3 1]) ?_ ?_)))
    ·refine W9 (x1>y) (fun ZC=>?_) (fun ZC=>?_)
     ·exact az (Z2 2 (iL (Z7 [y]) 1 1 fun v2=>ZU 0 [(33,Z5 [y])] (ip 1 (Z7 (acc++[y])) (Z7 acc) (Z7 [y]) v none 1 (YC _) (YC _) (We _) (by simp<;>omega) (by simp [Wd,Z7]) fun v3=>Z0 (ZP ⟨v3,rfl,rfl⟩ (wk [0] (fc (x:=ZQ (acc++[y]) v3) (Ze.slh _ (Yp Z7 (by first|rfl|(rw [Zd ZC])|(rw [Z8 ZC])|(simp [ZC];done)|(rw [Xx];simp [ZC];done)|omega))) fl))))))
     exact ak (ZP ⟨v,rfl,rfl⟩ (wk [0] (fc (x:=ZQ acc v) (Ze.slh _ (Yp Z7 (by first|rfl|(rw [Zd ZC])|(rw [Z8 ZC])|(simp [ZC];done)|(rw [Xx];simp [ZC];done)|omega))) fl)))
    rintro F h ⟨w3,rfl,rfl⟩
    exact Td (ZP ⟨(if x1>y then (acc++[y]) else acc),true,w3,(if h:x1>y then (by rw [Zd h];exact .inr (.inl ⟨rfl,rfl,Zg.1⟩)) else (by rw [Z8 h];exact .inr (.inr ⟨rfl,rfl,by have:=Zg.2;omega⟩))),(by split<;>simp),rfl,rfl⟩ (wk [0] fl))
   exact ak (ZP ⟨acc,d,v,(.inl ⟨rfl,rfl⟩),ob,rfl,rfl⟩ (wk [0] fl))
  rintro F h ⟨acc2,d2,w,Uf,Az,rfl,rfl⟩
  exact az (Z2 3 (Zo (Zj none (k:Int) 1 (Y3 Z3)) (Z2 1 (iL (Z7 [x1]) 1 1 fun v4=>ZU 0 [(40,Z5 [x1])] (ip 1 (Z7 (acc2++[x1])) (Z7 acc2) (Z7 [x1]) w none 1 (YC _) (YC _) (We _) (by simp<;>omega) (by simp [Wd,Z7]) fun v5=>Z0 (az (Z2 1 (ZJ k (Z0 (ZK ⟨k+1,(acc2++[x1]),d2,v5,ob,(Zl.go Z3 Uf),rfl,rfl,rfl⟩ (wk [0] (fw (ZM k fl)))))))))))))
 have hil:acc.length<=k+1:=VE Zl.len (by split<;>omega)
 refine ax 0 (Yi (XW (fun fz gz F h=>∃(w4:Value),F=sF [] fz [(5,ZQ (if d=true then acc else (acc++[y])) w4)]/\h=[.tail w4 1]) ?_ ?_))
 ·refine ac (!d) (p:=¬(d=true)) (YA Iff.rfl) (fun Yg=>?_) (fun Yg=>?_)
  ·exact az (Z2 2 (iL (Z7 [y]) 1 1 fun v6=>ZU 0 [(46,Z5 [y])] (ip 1 (Z7 (acc++[y])) (Z7 acc) (Z7 [y]) v none 1 (YC _) (YC _) (We _) (by simp<;>omega) (by simp [Wd,Z7]) fun v7=>Z0 (ZP ⟨v7,rfl,rfl⟩ (wk [0] (fc (x:=ZQ (acc++[y]) v7) (Ze.slh _ (Yp Z7 (by first|rfl|(rw [Zd Yg])|(rw [Z8 Yg])|(simp [Yg];done)|(rw [Xx];simp [Yg];done)|omega))) fl))))))
  exact ak (ZP ⟨v,rfl,rfl⟩ (wk [0] (fc (x:=ZQ acc v) (Ze.slh _ (Yp Z7 (by first|rfl|(rw [Zd Yg])|(rw [Z8 Yg])|(simp [Yg];done)|(rw [Xx];simp [Yg];done)|omega))) fl)))
 rintro F h ⟨w4,rfl,rfl⟩
 exact ar (Zr (r2 [] [ZQ (if d=true then acc else (acc++[y])) w4] ⟨(if d=true then acc else (acc++[y])),rfl,rfl,(if hd:d=true then (by rw [Zd hd];exact (Zl.fin om).1 hd) else (by rw [Z8 hd];exact (Zl.fin om).2 hd))⟩ (Ze.forget _ _)))
theorem Zfq (n:Zi) (s:Z4) (j:Nat) (kept:LI) (kd:Z6) (hn:X6 n) (hws:wS n.decls s) (hkd:s.kids[j]? = some kd) (hnk:Kg kd) (hK:kept.length+s.sz<=900000000) (ih:∀(b2:Z6) (K2:LI),(wB n.decls b2)->(Bm b2)->(K2.length+b2.sz<=900000000)->(b2.sz<s.sz)->Zk 111 [Yq n,ZZ b2,Z5 K2] [] (Ys (ZZ (WP n.decls K2 b2)))):Zk 173 [Yq n,YI s,.i j,Z5 kept] [] (Ys (ZZ (Qd n.decls kept s.op s.num s.args j kd))):=by
 have XB:=hn.decls
 have hks:=Tx hkd
 have hwk:=MF hws hkd
 have haz:=QA s
 have hjl:=(Xq.1 hkd).1
 refine ZF 65 Tryz.func173 (ar (iA (YU n) fun b1=>iA (XG s) fun b2=>iA [nl,.i 0] fun b3=>ie (X9 (VT [1] (ac (s.op != 8) Ym (fun Za=>?_) (fun Za=>?_))))))
 ·refine aD 9 (ZH 5 9 [0,1,2,3] [2,1] (dx 4 (Zj none (j:Int) 2 (T9 hkd)) (Zm 2 4 [5,6] (Z9 7 (Yo 7 [] [] [] (ih kd kept (by first|exact hwk|exact Az) (by first|exact Cc hnk|exact L9) ob ob) (Z9 8 (YK 8 0 [] [] b3 (Xm (WP n.decls kept kd)) (de ?_))))))))
  have hE:=Sk (ds:=n.decls) (kept:=kept) (op:=s.op) (num:=s.num) (args:=s.args) (j:=j) (kd:=kd) (fun z=>Za z.1)
  exact ZD (r3 [] [ZZ (WP n.decls kept kd)] [0] [(b3,b3)] ⟨rfl,rfl⟩ (Ze.agg (.cons (Ze.sl _ (Yp Zv (by rw [hE]))) (.cons (li (by rw [hE])) .nil))))
 refine ak (Zw 2 [1] ?_)
 obtain ⟨x1,Z3⟩:=Zs s.args 0 (by obtain ⟨⟨a,ha2,_⟩,_⟩:=EO hws om;rw [ha2];simp)
 have hg1:=JB Z3
 have hxb:0<=x1/\x1<=900000000:=by obtain ⟨⟨a,ha2,ha3⟩,_⟩:=EO hws om;rw [ha2] at hg1;have:a=x1:=hg1;omega
 refine Zo (Zj none 0 1 (Y3 Z3)) (Z0 (Zw 3 [1] (Zo (Zj none (j:Int) 2 (T9 hkd)) (Z2 1 (iA [nl,.i 0] fun b4=>?_)))))
 refine ZI 0 b4 (Xm kd) (ie (YO 2 (Zz [] (T1 kept x1) (Z0 (XW (fun fz gz F h=>∃(B2:Z6) (K2:LI),(WP n.decls K2 B2=Qd n.decls kept s.op s.num s.args j kd)/\(wB n.decls B2)/\(Bm B2)/\(B2.sz<=kd.sz)/\(K2.length<=kept.length+1)/\F=sF [4,8,10] fz [(3,Z5 K2)]/\h=[.obj b4 (Xm B2),Zc gz 1,Zc gz 3]) ?_ ?_)))))
 ·refine ac (!(decide (x1∈kept))) (p:=¬(x1∈kept)) (YA dq) (fun Zg=>?_) (fun Zg=>?_)
  ·refine aD 16 (ZH 7 16 [0,1,2,3,4,5,6,7,9] [0,3,3,2] (Z9 8 (dc 8 [] [3,0] [b1,b4] (A3 n.decls s.num) ?_)))
   rintro _ _ ⟨v1,rfl,rfl⟩
   obtain ⟨x2,Zx⟩:=Zs (ZY n.decls s.num) j (by have h:=(EO hws om).2;omega)
   have hfl:(Tb n.decls s.num j).length=(ZV n.decls x2).length:=by rw [Ot (by rw [Tl,Zx];rfl)]
   have hcf:=Ud XB x2
   refine dx 10 (Zj (some v1) (j:Int) 1 (Y3 Zx)) (Zm 4 5 [11] (Z9 12 (Yo 12 [] [0] [b4] (KN n.decls x2) (dn 13 (.i (((ZV n.decls x2).length:Nat):Int)) (.i (((Z7 (ZV n.decls x2)).length:Nat):Int)) (li (by rw [Yf])) (Z9 14 (Yo 14 [] [] [] (Zfn n.decls kd x1 ((ZV n.decls x2).length) (hw:=hwk) (hx:=hxb)) ?_))))))
   have hwr:=Zhy (x:=x1) (many:=(ZV n.decls x2).length) hwk
   have hsr:=Zdg (x:=x1) (many:=(ZV n.decls x2).length) hwk
   refine Z9 15 (YK 15 1 [] [] b4 (Xm (Uj kd x1 ((ZV n.decls x2).length))) (de (Zw 1 [0] (Zz [] (Mm (Uj kd x1 ((ZV n.decls x2).length))) (Z0 (Zw 3 [0] (Zz [] (Z03 (Uj kd x1 ((ZV n.decls x2).length)) (YZ (Uj kd x1 ((ZV n.decls x2).length)).steps) 17 x1 (hm:=(Ee _)) (ha:=(fun s2 hs2 h17=>MO (Hs ((Jn _).1 hwr) s2 (Q1 hs2) (by rw [h17];rfl))))) (Y5 ((Wh 17 x1 ((Uj kd x1 ((ZV n.decls x2).length)).steps.take (YZ (Uj kd x1 ((ZV n.decls x2).length)).steps)) 0)>=0) (fun ZC=>?_) (fun ZC=>?_)))))))))
   ·refine az (Z2 2 (ic [] (Zfl kept x1) ?_))
    rintro _ _ ⟨ys1,rfl,rfl,ZX⟩
    have hin:=ZX
    exact Z0 (ZP ⟨_,_,(Ze1 om hg1 Zg hfl ((Z0x ((Ek kd).1 hnk)).1 ZC) hin.2),hwr,(Rr hnk),ob,hin.1,rfl,rfl⟩ (wk [0,1,2] (fc (x:=Z5 ys1) (Ze.sl _ (Yp Z7 (by first|rfl|(rw [Zd Zg])|(rw [Z8 Zg])|(simp [Zg,ZC,ZX];done)|(rw [Xx];simp [Zg,ZC,ZX];done)|omega))) fl)))
   exact ak (ZP ⟨_,_,(Ze2 om hg1 Zg hfl (Dv fun z=>ZC ((Z0x ((Ek kd).1 hnk)).2 z))),hwr,(Rr hnk),ob,ob,rfl,rfl⟩ (wk [0,1,2] (fc (x:=Z5 kept) (Ze.sl _ (Yp Z7 (by first|rfl|(rw [Zd Zg])|(rw [Z8 Zg])|(simp [Zg,ZC];done)|(rw [Xx];simp [Zg,ZC];done)|omega))) fl)))
  exact ak (ZP ⟨_,_,(Sk (fun z=>Zg (hg1▸z.2))),hwk,(Cc hnk),ob,ob,rfl,rfl⟩ (wk [0,0,1] (fc (x:=Z5 kept) (Ze.sl _ (Yp Z7 (by first|rfl|(rw [Zd Zg])|(rw [Z8 Zg])|(simp [Zg];done)|(rw [Xx];simp [Zg];done)|omega))) fl)))
 rintro F h ⟨B2,K2,Uf,Az,L9,Zio,Zip,rfl,rfl⟩
 exact Zw 3 [2,0] (Zz [] (ih B2 K2 (by first|exact hwk|exact Az) (by first|exact Cc hnk|exact L9) ob ob) (ZI 1 b3 (Xm (WP n.decls K2 B2)) (ie (ZD (r3 [] [ZZ (WP n.decls K2 B2)] [0] [(b3,b3)] ⟨rfl,rfl⟩ (Ze.agg (.cons (Ze.sl _ (Yp Zv (by rw [Uf]))) (.cons (li (by rw [Uf])) .nil))))))))
theorem Zfp (n:Zi) (b:Z6) (kept:LI) (hn:X6 n) (hw:wB n.decls b) (hn2:Bm b) (hK:kept.length+b.sz<=900000000) (ih:∀(s:Z4) (j:Nat) (kept:LI) (kd:Z6),(wS n.decls s)->(s.kids[j]? = some kd)->(Kg kd)->(kept.length+s.sz<=900000000)->(s.sz<b.sz)->Zk 173 [Yq n,YI s,.i j,Z5 kept] [] (Ys (ZZ (Qd n.decls kept s.op s.num s.args j kd)))):Zk 111 [Yq n,ZZ b,Z5 kept] [] (Ys (ZZ (WP n.decls kept b))):=by
 have XB:=hn.decls
 have hbz:=Uk b
 refine ZF 61 Tryz.func111 (ar (iA (YU n) fun b1=>iA (Xm b) fun b2=>iA [nl,.i 0] fun b3=>ie (ar (iL (Zv []) 0 5 fun v1=>ZO 3 [2] (iA [nl,.i 0] fun b4=>?_)))))
 refine ZI 0 b4 [X4 [] v1,.i b.result] (ie (Yi (ab 0 (Y6 (fun fz gz m F h=>∃(k:Nat) (xs:List Z4) (v:Value),(k<=b.steps.length)/\(xs.length=k)/\(xs++UZ n.decls kept (b.steps.drop k)=UZ n.decls kept b.steps)/\F=sF [2,3,4,6,7] fz [(8,.i k)]/\h=[.obj b4 [X4 xs v,.i b.result],Zc gz 2,Zc gz 3,Zc gz 4,.tail v 5]/\m=b.steps.length-k) _ _ _ ⟨0,[],v1,ob,ob,rfl,rfl,rfl,rfl⟩ (wk [0,1,1,1,0] (Yd fl)) ?_))))
 rintro m F h ⟨k,xs,v,Yj,Zl,Zy,rfl,rfl,rfl⟩
 refine Yl 3 [2] (iw (VO b.steps) (Y5 ((k:Int)<(b.steps.length:Int)) (fun Za=>?_) (fun Za=>?_)))
 ·refine ak (aq (ab 1 (Zw 3 [2] ?_)))
  obtain ⟨x1,Z3⟩:=Zs b.steps k om
  have Xr:=Ck Z3
  have hws:=Z1e hw Z3
  have hkz:=TK x1
  have haz:=QA x1
  refine Zo (Zj none (k:Int) 5 (V2 Z3)) (Z2 1 (iA [.i 0,.i 0,.i 0,nl,nl] fun b5=>ZI 0 b5 (XG x1) (ie (ar (iL (YM []) 0 2 fun v2=>?_)))))
  refine Z0 (Yi (ab 2 (Y6 (fun fz gz m F h=>∃(j:Nat) (u:Value) (ks:List Z6),(j<=x1.kids.length)/\(ks.length=j)/\(ks++UN n.decls kept x1.op x1.num x1.args (x1.kids.drop j) j=UN n.decls kept x1.op x1.num x1.args x1.kids 0)/\F=sF [2,3,4,6,7,8,9] fz [(10,Ty ks u),(11,.i j)]/\h=[Zc gz 1,Zc gz 2,Zc gz 3,Zc gz 4,Zc gz 5,.tail u 2,Zc gz 6]/\m=x1.kids.length-j) _ _ _ ⟨0,v2,[],ob,ob,(by simp),rfl,rfl,rfl⟩ (wk [1,1,1,1,1,0,0] (fr (Yd fl))) ?_)))
  rintro m F h ⟨j,u,ks,Up,Wa,XZ,rfl,rfl,rfl⟩
  refine Yl 3 [0] (iw (Uy x1.kids) (Y5 ((j:Int)<(x1.kids.length:Int)) (fun Zg=>?_) (fun Zg=>?_)))
  ·obtain ⟨kd,hkd⟩:=Zs x1.kids j om
   exact ak (aq (ab 3 (az (ZO 5 [4,0] (Zz [] (ih x1 j kept kd hws hkd (Zc9 hn2 Z3 hkd) ob ob) (iL [ZZ (Qd n.decls kept x1.op x1.num x1.args j kd)] 1 2 fun v3=>ZU 0 [(42,.sl [ZZ (Qd n.decls kept x1.op x1.num x1.args j kd)] none)] (ip 6 (YM (ks++[Qd n.decls kept x1.op x1.num x1.args j kd])) (YM ks) [ZZ (Qd n.decls kept x1.op x1.num x1.args j kd)] u none 2 (Q4 _) (QI rfl) rfl (by simp<;>omega) (by simp [An,Tp]) fun v4=>Z0 (az (Z2 1 (ZJ j (Z0 (ZK ⟨j+1,v4,(ks++[Qd n.decls kept x1.op x1.num x1.args j kd]),ob,(by simp;omega),(Ze0 hkd XZ),rfl,rfl,rfl⟩ (wk [2,2,2,2,2,0,1] (fr (ZM j fl)))))))))))))))
  have hK:=Zdz om XZ
  refine ax 2 (aE 17 (ZH 6 17 [0,1,2,3,4,5,6,7,8,9,11] [1,0,0,0,0] (Z9 10 (dc 10 [] [0,0,0,1] [b5,b5,b5,b4] (UD x1.args) ?_))))
  rintro _ _ ⟨v5,rfl,rfl⟩
  exact Yw 4 5 [12] [(56,.agg [.i x1.op,.i x1.num,.i x1.into,Z5 x1.args,Wb ks])] (Z9 13 (dL 13 [1] [b4] [YI (Z4.mk x1.op x1.num x1.into x1.args ks)] 1 5 fun v6=>Yw 3 3 [] [(57,.sl [YI (Z4.mk x1.op x1.num x1.into x1.args ks)] none)] (Z9 14 (dp 14 8 [] [] (Zv (xs++[Z4.mk x1.op x1.num x1.into x1.args ks])) (Zv xs) [YI (Z4.mk x1.op x1.num x1.into x1.args ks)] v none 5 (Xe _) (QI rfl) rfl (by simp<;>omega) (by simp [WW,Vx]) fun v7=>Zm 1 2 [15] (Z9 16 (YK 16 4 [] [] b4 [X4 (xs++[Z4.mk x1.op x1.num x1.into x1.args ks]) v7,.i b.result] (de (az (Z2 1 (ZJ k (Z0 (ZK ⟨k+1,(xs++[Z4.mk x1.op x1.num x1.into x1.args ks]),v7,ob,(by simp;omega),(by have h:=Ze6 Z3 Zy;rw [<-hK] at h;exact h),rfl,rfl,rfl⟩ (wk [0,4,4,4,0] (ZM k fl))))))))))))))
 exact ax 0 (Zw 1 [0] (ZI 1 b3 [X4 xs v,.i b.result] (ie (ZD (r3 [] [.agg [X4 xs v,.i b.result]] [0] [(b3,b3)] ⟨rfl,rfl⟩ (Ze.agg (.cons (Ze.sl _ (Yp Zv (by rw [GH];exact Ze5 om Zy))) (.cons (li (by rw [GH];rfl)) .nil))))))))
theorem Zfr (n:Zi) (hn:X6 n) (k:Nat):(∀(s:Z4) (j:Nat) (kept:LI) (kd:Z6),(wS n.decls s)->(s.kids[j]? = some kd)->(Kg kd)->(kept.length+s.sz<=900000000)->(s.sz<=k)->Zk 173 [Yq n,YI s,.i j,Z5 kept] [] (Ys (ZZ (Qd n.decls kept s.op s.num s.args j kd))))/\(∀(b:Z6) (kept:LI),(wB n.decls b)->(Bm b)->(kept.length+b.sz<=900000000)->(b.sz<=k)->Zk 111 [Yq n,ZZ b,Z5 kept] [] (Ys (ZZ (WP n.decls kept b)))):=by
 induction k with
 | zero=>exact ⟨fun s j K kd h1 h2 h3 h4 h5=>by have:=s.sz_pos;omega,fun b K h1 h2 h3 h4=>by have:=b.sz_eq;omega⟩
 | succ k ih=>exact ⟨fun s j K kd h1 h2 h3 h4 h5=>Zfq n s j K kd hn h1 h2 h3 h4 fun b2 K2 q1 q2 q3 q4=>ih.2 b2 K2 q1 q2 q3 om,fun b K h1 h2 h3 h4=>Zfp n b K hn h1 h2 h3 fun s j K2 kd q1 q2 q3 q4 q5=>ih.1 s j K2 kd q1 q2 q3 q4 om⟩
theorem Zfo (n:Zi) (b:Z6) (kept:LI) (hn:X6 n:=by exact ob) (hw:wB n.decls b:=by exact ob) (hn2:Bm b:=by exact ob) (hK:kept.length+b.sz<=900000000:=by exact ob):Zk 111 [Yq n,ZZ b,Z5 kept] [] (Ys (ZZ (WP n.decls kept b))):=(Zfr n hn b.sz).2 b kept hw hn2 hK (X7 _)
theorem Z8o (n:Zi) (hn:X6 n:=by exact ob) (hz:Un n:=by exact ob) (hwb:∀r∈n.routines,wB n.decls r.body):Zk 39 [Yq n] [] (Ys (Yq (GZ n))):=by
 have hzl:=hn.len
 refine ZF 38 Tryz.func39 (ar (iA (YU n) fun b1=>iA [nl,nl] fun b2=>ie (Zw 2 [1] (Zz [] (Cj n.decls (hd:=hn.decls)) (iL (YQ []) 0 5 fun v1=>Z2 1 (iA [nl,nl] fun b3=>?_))))))
 refine ZI 0 b3 [ZT n.decls,WT [] v1] (ie (Yi (ab 0 (Y6 (fun fz gz m F h=>∃(k:Nat) (v:Value),(k<=n.routines.length)/\F=sF [1,2,3] fz [(4,.i k)]/\h=[.obj b3 [ZT n.decls,WT ((n.routines.take k).map (By n.decls)) v],Zc gz 2,Zc gz 3,.tail v 5]/\m=n.routines.length-k) _ _ _ ⟨0,v1,ob,rfl,rfl,rfl⟩ (wk [0,1,1,0] (Yd fl)) ?_))))
 rintro m F h ⟨k,v,Yj,rfl,rfl,rfl⟩
 refine Yl 3 [2] (iw (Ur n.routines) (Y5 ((k:Int)<(n.routines.length:Int)) (fun Za=>?_) (fun Za=>?_)))
 ·refine ak (aq (ab 1 (Zw 3 [2] ?_)))
  obtain ⟨x1,Z3⟩:=Zs n.routines k om
  have hrm:=ZW Z3
  have hbz:=hz.body _ hrm
  have hpl:=hn.params_at Z3
  have hll:=hn.lent_at Z3
  have hww:=hwb _ hrm
  exact Zo (Zj none (k:Int) 5 (Wv Z3)) (Z2 1 (iA [nl,nl,.i 0,nl,.i 0] fun b4=>ZI 0 b4 (KH x1) (ie (aE 15 (ZH 7 15 [0,1,2,3,4,5,6,7] [1,0,3,0,0] (dw 8 (Yf x1.params) (Z9 9 (Yo 9 [] [0,1] [b4,b3] (Zfw n x1.body x1.params.length (hw:=hww)) (Z9 10 (Yo 10 [] [1] [b3] (Do x1 (Vk n.decls x1.params.length x1.body)) (Z9 11 (dL 11 [1] [b3] (YQ [Y8.mk x1.params x1.lent x1.result (Vk n.decls x1.params.length x1.body)]) 1 5 fun v2=>Yw 3 3 [] [(34,KJ [Y8.mk x1.params x1.lent x1.result (Vk n.decls x1.params.length x1.body)])] (Z9 12 (dp 12 5 [] [] (YQ ((n.routines.take (k+1)).map (By n.decls))) (YQ ((n.routines.take k).map (By n.decls))) (YQ [Y8.mk x1.params x1.lent x1.result (Vk n.decls x1.params.length x1.body)]) v none 5 (UV _) (UV _) (B9 _) (by simp<;>omega) (by rw [Vl Z3];simp [YQ,By]) fun v3=>Zm 1 2 [13] (Z9 14 (YK 14 3 [] [] b3 [ZT n.decls,WT ((n.routines.take (k+1)).map (By n.decls)) v3] (de (az (Z2 1 (ZJ k (Z0 (ZK ⟨k+1,v3,ob,rfl,rfl,rfl⟩ (wk [0,3,3,0] (ZM k fl))))))))))))))))))))))))
 exact ax 0 (Zw 1 [0] (ZI 1 b2 [ZT n.decls,WT ((n.routines.take k).map (By n.decls)) v] (ie (ZD (r3 [] [.agg [ZT n.decls,WT ((n.routines.take k).map (By n.decls)) v]] [0] [(b2,b2)] ⟨rfl,rfl⟩ (Ze.agg (.cons (Ze.sl _ (Yp X8 ob)) (.cons (Ze.sl _ (Yp YQ (by rw [Vt om];rfl))) .nil))))))))
theorem Z8l (n:Zi) (hn:X6 n:=by exact ob) (hz:Un n:=by exact ob) (hwb:∀r∈n.routines,wB n.decls r.body) (hnr:∀r∈n.routines,Kg r.body):Zk 50 [Yq n] [] (Ys (Yq (GI n))):=by
 have hzl:=hn.len
 refine ZF 38 Tryz.func50 (ar (iA (YU n) fun b1=>iA [nl,nl] fun b2=>ie (Zw 2 [1] (Zz [] (Cj n.decls (hd:=hn.decls)) (iL (YQ []) 0 5 fun v1=>Z2 1 (iA [nl,nl] fun b3=>?_))))))
 refine ZI 0 b3 [ZT n.decls,WT [] v1] (ie (Yi (ab 0 (Y6 (fun fz gz m F h=>∃(k:Nat) (v:Value),(k<=n.routines.length)/\F=sF [1,2,3] fz [(4,.i k)]/\h=[.obj b3 [ZT n.decls,WT ((n.routines.take k).map (Bt n.decls)) v],Zc gz 2,Zc gz 3,.tail v 5]/\m=n.routines.length-k) _ _ _ ⟨0,v1,ob,rfl,rfl,rfl⟩ (wk [0,1,1,0] (Yd fl)) ?_))))
 rintro m F h ⟨k,v,Yj,rfl,rfl,rfl⟩
 refine Yl 3 [2] (iw (Ur n.routines) (Y5 ((k:Int)<(n.routines.length:Int)) (fun Za=>?_) (fun Za=>?_)))
 ·refine ak (aq (ab 1 (aE 21 (ZH 16 21 [0,1,2,3,4] [0,2] ?_))))
  obtain ⟨x1,Z3⟩:=Zs n.routines k om
  have hrm:=ZW Z3
  have hbz:=hz.body _ hrm
  have hpl:=hn.params_at Z3
  have hll:=hn.lent_at Z3
  have hww:=hwb _ hrm
  exact dx 5 (Zj none (k:Int) 5 (Wv Z3)) (ZH 10 15 [6,7,8,9,10] [2,2] (dx 11 (Zj none (k:Int) 5 (Wv Z3)) (Zm 7 9 [12,13] (Z9 14 (dL 14 [2,2,2,0] [b1,b1,b1,b3] (Z7 []) 0 1 fun v2=>Yw 6 6 [] [(31,Z5 [])] (Z9 15 (Yo 15 [] [2,0] [b1,b3] (Zfo n x1.body [] (hw:=hww) (hn2:=(Cc (hnr _ hrm)))) (Z9 16 (Yo 16 [] [0] [b3] (Do x1 (WP n.decls [] x1.body)) (Z9 17 (dL 17 [0] [b3] (YQ [Y8.mk x1.params x1.lent x1.result (WP n.decls [] x1.body)]) 1 5 fun v3=>Yw 3 3 [] [(34,KJ [Y8.mk x1.params x1.lent x1.result (WP n.decls [] x1.body)])] (Z9 18 (dp 18 5 [] [] (YQ ((n.routines.take (k+1)).map (Bt n.decls))) (YQ ((n.routines.take k).map (Bt n.decls))) (YQ [Y8.mk x1.params x1.lent x1.result (WP n.decls [] x1.body)]) v none 5 (UV _) (UV _) (B9 _) (by simp<;>omega) (by rw [Vl Z3];simp [YQ,Bt]) fun v4=>Zm 1 2 [19] (Z9 20 (YK 20 3 [] [] b3 [ZT n.decls,WT ((n.routines.take (k+1)).map (Bt n.decls)) v4] (de (az (Z2 1 (ZJ k (Z0 (ZK ⟨k+1,v4,ob,rfl,rfl,rfl⟩ (wk [0,3,3,0] (ZM k fl)))))))))))))))))))))))
 exact ax 0 (Zw 1 [0] (ZI 1 b2 [ZT n.decls,WT ((n.routines.take k).map (Bt n.decls)) v] (ie (ZD (r3 [] [.agg [ZT n.decls,WT ((n.routines.take k).map (Bt n.decls)) v]] [0] [(b2,b2)] ⟨rfl,rfl⟩ (Ze.agg (.cons (Ze.sl _ (Yp X8 ob)) (.cons (Ze.sl _ (Yp YQ (by rw [Vt om];rfl))) .nil))))))))
theorem Z8k (rd:Nat) (bs:LI) (p:Nat) (ZL:∀z∈bs,0<=z/\z<=255) (hp:p+400001<=1000000000:=by exact ob):Zk 84 [.p rd 0] [Yy rd bs p] (fun r h=>∃(n:Zi) (p2:Nat),r=Yq n/\h=[Yy rd bs p2]/\FO n 181 V1/\p<=p2/\p2<=p+400001):=by
 refine ZF 13 Tryz.func84 (ar (iA [nl,nl] fun b1=>ie (Ya 1 (ic [1] (Z7r rd bs p (ZL:=ob)) ?_))))
 rintro _ _ ⟨g1,p21,rfl,rfl,ZX⟩
 have Kb:=ZX
 refine ic [] (Z8c g1 (hg:=Kb.1)) ?_
 rintro _ _ ⟨n1,rfl,rfl,Yk⟩
 have hnm:=Yk
 refine iA [nl,nl] fun b2=>ZI 0 b2 (YU n1) (ie (YO 1 (ic [1] (Wn rd bs p21 3 (ZL:=ob)) ?_)))
 rintro _ _ ⟨k1,rfl,rfl,YG⟩
 refine YH (k1==0) Zq (fun Za=>?_) (fun Za=>?_)
 ·refine Zw 1 [1] (ic [] (Z82 n1 181 (hn:=hnm)) ?_)
  rintro _ _ ⟨n21,rfl,rfl,YR⟩
  have hlm:=YR
  exact ZI 2 b1 (YU n21) (ie (ZD (r3 [1] [Yq n21] [0] [(b1,b1)] ⟨n21,p21+1,rfl,rfl,(by first|exact ⟨hlm,by omega,by omega⟩|exact ⟨hnm,by omega,by omega⟩)⟩ (lr _))))
 exact ak (Zw 1 [1] (ZI 2 b1 (YU n1) (ie (ZD (r3 [1] [Yq n1] [0] [(b1,b1)] ⟨n1,p21+1,rfl,rfl,(by first|exact ⟨hlm,by omega,by omega⟩|exact ⟨hnm,by omega,by omega⟩)⟩ (lr _))))))
theorem Z7l (rd:Nat) (bs:LI) (p:Nat) (ZL:∀z∈bs,0<=z/\z<=255) (hp:p+400002<=1000000000:=by exact ob):Zk 40 [.p rd 0] [Yy rd bs p] (fun r h=>∃(n:Zi) (p2:Nat),r=Yq n/\h=[Yy rd bs p2]/\FO n 814510 VM/\p<=p2/\p2<=p+400002):=by
 refine ZF 15 Tryz.func40 (ar (iA [nl,nl] fun b1=>ie (Ya 1 (ic [1] (Z8k rd bs p (ZL:=ob)) ?_))))
 rintro _ _ ⟨n1,p21,rfl,rfl,ZX⟩
 have hpf:=ZX
 refine iA [nl,nl] fun b2=>ZI 0 b2 (YU n1) (ie (Zw 1 [0] (ic [] (Z7k n1 181 (hn:=hpf.1)) ?_)))
 rintro _ _ ⟨n21,rfl,rfl,Yk⟩
 have hcf:=FO.le Yk (show 4500*181+10<=814510 by omega)
 refine iA [nl,nl] fun b3=>ZI 0 b3 (YU n21) (ie (YO 1 (ic [2] (Wn rd bs p21 4 (ZL:=ob)) ?_)))
 rintro _ _ ⟨k1,rfl,rfl,YG⟩
 refine YH (k1==0) Zq (fun Za=>?_) (fun Za=>?_)
 ·refine az (ZO 1 [2] (ic [] (Z7v n1 181 (hn:=hpf.1)) ?_))
  rintro _ _ ⟨n22,rfl,rfl,YR⟩
  have hlf:=FO.le YR (show 60*181<=814510 by omega)
  exact ZI 1 b3 (YU n22) (ie (Zw 1 [0] (ZI 3 b1 (YU n22) (ie (ZD (r3 [2] [Yq n22] [0] [(b1,b1)] ⟨n22,p21+1,rfl,rfl,(by first|exact ⟨hlf,by omega,by omega⟩|exact ⟨hcf,by omega,by omega⟩)⟩ (lr _)))))))
 exact ak (Zw 1 [1] (ZI 3 b1 (YU n21) (ie (ZD (r3 [1] [Yq n21] [0] [(b1,b1)] ⟨n21,p21+1,rfl,rfl,(by first|exact ⟨hlf,by omega,by omega⟩|exact ⟨hcf,by omega,by omega⟩)⟩ (lr _))))))
theorem Z73 (rd:Nat) (bs:LI) (p:Nat) (ZL:∀z∈bs,0<=z/\z<=255) (hp:p+400030<=1000000000:=by exact ob):Zk 66 [.p rd 0] [Yy rd bs p] (fun r h=>∃(n:Zi) (p2:Nat),r=Yq n/\h=[Yy rd bs p2]/\ZN n 7330630/\p<=p2/\p2<=p+400030):=by
 refine ZF 35 Tryz.func66 (ar (iA [nl,nl] fun b1=>ie (Ya 1 (ic [1] (Z7l rd bs p (ZL:=ob)) ?_))))
 rintro _ _ ⟨n1,p21,rfl,rfl,ZX⟩
 have hcf:=FO.le ZX.1 (show 814510<=814514 by omega)
 have hcp:=ZX
 refine iA [nl,nl] fun b2=>ZI 0 b2 (YU n1) (ie (YO 1 (ic [1] (Wn rd bs p21 4 (ZL:=ob)) ?_)))
 rintro _ _ ⟨k1,rfl,rfl,Yk⟩
 refine Z0 (XW (fun fz gz F h=>∃(na:Zi) (pa:Nat),(FO na 814514 VM)/\(p<=pa/\pa<=p+400010)/\F=sF [0,2,3] fz []/\h=[Yy rd bs pa,.obj b2 (YU na),Zc gz 2]) ?_ ?_)
 ·refine ac (k1==0) Zq (fun Za=>?_) (fun Za=>?_)
  ·refine az (ZO 2 [1] (ic [0] (OQ rd bs (p21+1) n1 (ZL:=ob) (hz:=(by first|exact (FO.zn hcp.1).sz om|exact Kd.sz om)) (hl1:=(by first|(have:=hcp.1.fn.len;omega)|(have:=Kd.len;omega)))) ?_))
   rintro _ _ ⟨n21,p22,rfl,rfl,YG⟩
   have hho:=YG
   exact ZI 1 b2 (YU n21) (ie (ZP ⟨n21,p22,(FO.held hcp.1 hho.1),ob,rfl,rfl⟩ (wk [1,0,0] fl)))
  exact ak (ZP ⟨n1,p21+1,hcf,ob,rfl,rfl⟩ (ZG 3 fl))
 rintro F h ⟨na,pa,J7,L8,rfl,rfl⟩
 refine YO 1 (ic [0] (Wn rd bs pa 4 (ZL:=ob)) ?_)
 rintro _ _ ⟨k2,rfl,rfl,YR⟩
 refine Z0 (XW (fun fz gz F h=>∃(nb:Zi) (pb:Nat),(FO nb 814514 VM)/\(p<=pb/\pb<=p+400012)/\F=sF [0,2,3] fz []/\h=[Yy rd bs pb,.obj b2 (YU nb),Zc gz 2]) ?_ ?_)
 ·refine ac (k2==0) Zq (fun Zg=>?_) (fun Zg=>?_)
  ·refine az (ZO 1 [1] (ic [] (Z79 na 814514 (hn:=J7)) ?_))
   rintro _ _ ⟨n22,rfl,rfl,Xl⟩
   have hca:=Xl
   exact ZI 1 b2 (YU n22) (ie (ZP ⟨n22,pa+1,hca,ob,rfl,rfl⟩ (wk [1,0,0] fl)))
  exact ak (ZP ⟨na,pa+1,J7,ob,rfl,rfl⟩ (ZG 3 fl))
 rintro F h ⟨nb,pb,Uf,Az,rfl,rfl⟩
 refine Ya 1 (ic [0] (Wn rd bs pb 3 (ZL:=ob)) ?_)
 rintro _ _ ⟨k3,rfl,rfl,W2⟩
 refine Z0 (Yi (XW (fun fz gz F h=>∃(nc:Zi) (pc:Nat),(ZN nc 7330626)/\(k3>1->WN nc 7330626)/\(p<=pc/\pc<=p+400014)/\F=sF [0,2,3,4] fz []/\h=[Yy rd bs pc,.obj b2 (YU nc),Zc gz 2]) ?_ ?_))
 ·refine W9 (k3>0) (fun ZC=>?_) (fun ZC=>?_)
  ·exact az (ZO 1 [1] (Zz [] (Z8o nb (hn:=Uf.fn.ok) (hz:=(Uf.zn.sz om)) (hwb:=(fun r hr=>(Uf.wl om r hr).w))) (ZI 1 b2 (YU (GZ nb)) (ie (ZP ⟨(GZ nb),pb+1,((Uf.wn om).sp.zn),(fun _=>(Uf.wn om).sp),ob,rfl,rfl⟩ (wk [1,0,0] fl))))))
  exact ak (ZP ⟨nb,pb+1,(Uf.zn.le om),(fun h=>by omega),ob,rfl,rfl⟩ (ZG 3 fl))
 rintro F h ⟨nc,pc,D5,D6,Pw,rfl,rfl⟩
 refine Yi (XW (fun fz gz F h=>∃(nd:Zi) (pd:Nat),(ZN nd 7330626)/\(p<=pd/\pd<=p+400014)/\F=sF [0,2,3] fz []/\h=[Yy rd bs pd,.obj b2 (YU nd),Zc gz 2]) ?_ ?_)
 ·refine W9 (k3>1) (fun Yg=>?_) (fun Yg=>?_)
  ·exact az (ZO 1 [1] (Zz [] (Z8l nc (hn:=(D6 (by assumption)).ok) (hz:=(D5.sz om)) (hwb:=(fun r hr=>((D6 (by assumption)).wl r hr).w)) (hnr:=(fun r hr=>((D6 (by assumption)).wl r hr).nr))) (ZI 1 b2 (YU (GI nc)) (ie (ZP ⟨(GI nc),pc,(D6 (by assumption)).ru,ob,rfl,rfl⟩ (wk [1,0,0] fl))))))
  exact ak (ZP ⟨nc,pc,D5,ob,rfl,rfl⟩ (ZG 3 fl))
 rintro F h ⟨nd,pd,Kd,Zas,rfl,rfl⟩
 refine YO 1 (ic [0] (Wn rd bs pd 6 (ZL:=ob)) ?_)
 rintro _ _ ⟨k4,rfl,rfl,WG⟩
 refine YH (k4==0) Zq (fun Xf=>?_) (fun Xf=>?_)
 ·refine az (ZO 2 [1] (ic [0] (OQ rd bs (pd+1) nd (ZL:=ob) (hz:=(by first|exact (FO.zn hcp.1).sz om|exact Kd.sz om)) (hl1:=(by first|(have:=hcp.1.fn.len;omega)|(have:=Kd.len;omega)))) ?_))
  rintro _ _ ⟨n23,p23,rfl,rfl,V3⟩
  have hho:=V3
  exact ZI 1 b2 (YU n23) (ie (Zw 1 [0] (ZI 2 b1 (YU n23) (ie (ZD (r3 [2] [Yq n23] [0] [(b1,b1)] ⟨n23,p23,rfl,rfl,(by first|exact ⟨Kd.held hho.1,by omega,by omega⟩|exact ⟨Kd.le om,by omega,by omega⟩)⟩ (lr _)))))))
 exact ak (Zw 1 [1] (ZI 2 b1 (YU nd) (ie (ZD (r3 [1] [Yq nd] [0] [(b1,b1)] ⟨nd,pd+1,rfl,rfl,(by first|exact ⟨Kd.held hho.1,by omega,by omega⟩|exact ⟨Kd.le om,by omega,by omega⟩)⟩ (lr _))))))
theorem Z8t (rd:Nat) (bs:LI) (p:Nat) (xs:LI) (ZL:∀z∈bs,0<=z/\z<=255) (hp:p+3<=1000000000:=by exact ob) (hl:xs.length<=1000000:=by exact ob):Zk 92 [.p rd 0,Z5 xs] [Yy rd bs p] (fun r h=>∃(zs:LI) (p2:Nat),r=Z5 zs/\h=[Yy rd bs p2]/\zs.length<=xs.length+1/\p<=p2/\p2<=p+3):=by
 refine ZF 32 Tryz.func92 (ZE (Ya 1 (ic [] (Bz xs) ?_)))
 rintro _ _ ⟨v1,rfl,rfl⟩
 refine Z0 (YO 1 (Zo (KQ 0 v1 xs) (Z2 2 (ib (b:=(decide ((xs.length:Int)>0))) 11 (fun Zb=>?_) (fun Zb=>?_)))))
 ·have ZX:(xs.length:Int)>0:=(dq).1 Zb
  refine Z2 1 (ic [1] (Wn rd bs p 2 (ZL:=ob)) ?_)
  rintro _ _ ⟨k1,rfl,rfl,Yk⟩
  refine YH (k1==0) Zq (fun Za=>?_) (fun Za=>?_)
  ·refine Ya 3 (Zo (KQ 1 v1 xs) (ic [0] (JX rd bs (p+1) xs.length (ZL:=ob)) ?_))
   rintro _ _ ⟨YJ,rfl,rfl,YG⟩
   refine Z2 1 (iL (Z7 [0,1,-1,7,1000,1001]) 6 1 fun v2=>ZU 0 [(22,Z5 [0,1,-1,7,1000,1001])] (ic [1] (Ue rd bs ((p+1)+1) [0,1,-1,7,1000,1001] (ZL:=ob)) ?_))
   rintro _ _ ⟨z1,rfl,rfl,YR⟩
   exact Zo (Wo 2 v1 xs (YJ:Int) YJ) (CZ 2 v1 xs YJ z1 (ie (ZE (ET 4 0 (v:=v1) (xs:=(xs.set YJ z1)) (ZD (r2 [1] [ZQ (xs.set YJ z1) v1.v] ⟨(xs.set YJ z1),((p+1)+1)+1,rfl,rfl,⟨by simp,by omega,by omega⟩⟩ (Ze.forget _ _)))))))
  refine ak (Ya 2 (iL (Z7 [0,1,2,-1,1000]) 5 1 fun v3=>ZU 0 [(28,Z5 [0,1,2,-1,1000])] (ic [1] (Ue rd bs (p+1) [0,1,2,-1,1000] (ZL:=ob)) ?_)))
  rintro _ _ ⟨z2,rfl,rfl,Xl⟩
  exact iL (Z7 [z2]) 1 1 fun v4=>ZU 0 [(30,Z5 [z2])] (Kc 3 v1 xs [z2] none fun v5=>Z0 (ET 4 0 (v:=v5) (xs:=(xs++[z2])) (ZD (r2 [2] [ZQ (xs++[z2]) v5.v] ⟨(xs++[z2]),(p+1)+1,rfl,rfl,⟨by simp,by omega,by omega⟩⟩ (Ze.forget _ _)))))
 have W2:¬((xs.length:Int)>0):=Yh dq Zb
 refine Z0 (Wr (ak (Ya 2 (iL (Z7 [0,1,2,-1,1000]) 5 1 fun v6=>ZU 0 [(28,Z5 [0,1,2,-1,1000])] (ic [2] (Ue rd bs p [0,1,2,-1,1000] (ZL:=ob)) ?_)))))
 rintro _ _ ⟨z3,rfl,rfl,WG⟩
 exact iL (Z7 [z3]) 1 1 fun v7=>ZU 0 [(30,Z5 [z3])] (Kc 3 v1 xs [z3] none fun v8=>Z0 (ET 4 0 (v:=v8) (xs:=(xs++[z3])) (ZD (r2 [2] [ZQ (xs++[z3]) v8.v] ⟨(xs++[z3]),p+1,rfl,rfl,⟨by simp,by omega,by omega⟩⟩ (Ze.forget _ _)))))
theorem Z4s (s:Z4) (hz:s.sz<=1000000000:=by exact ob):Zk 211 [YI s] [] (fun r h=>∃(v:Hd),r=.agg [.i s.op,.i s.num,.i s.into,.h v,Wb s.kids]/\h=[rV v s.args]):=by
 have hkz:=TK s
 have haz:=QA s
 refine ZF 33 Tryz.func211 (ar (iA (XG s) fun b1=>iA [.i 0,.i 0,.i 0,nl,nl] fun b2=>ie (ar (iL (YM []) 0 2 fun v1=>?_))))
 refine Z0 (Yi (ab 0 (Y6 (fun fz gz m F h=>∃(k:Nat) (v:Value),(k<=s.kids.length)/\F=sF [1,2] fz [(3,Ty (s.kids.take k) v),(4,.i k)]/\h=[Zc gz 1,Zc gz 2,.tail v 2]/\m=s.kids.length-k) _ _ _ ⟨0,v1,ob,rfl,rfl,rfl⟩ (wk [1,1,0] (fc (x:=Ty [] v1) (Ze.slh _ (Yp YM rfl)) (Yd fl))) ?_)))
 rintro m F h ⟨k,v,Yj,rfl,rfl,rfl⟩
 refine Yl 3 [1] (iw (Uy s.kids) (Y5 ((k:Int)<(s.kids.length:Int)) (fun Za=>?_) (fun Za=>?_)))
 ·refine ak (aq (ab 1 (az (ZO 4 [1] ?_))))
  obtain ⟨x1,Z3⟩:=Zs s.kids k om
  have hks:=Tx Z3
  exact Zo (Zj none (k:Int) 2 (T9 Z3)) (Z2 1 (Zz [] (H1 x1) (iL [ZZ x1] 1 2 fun v2=>ZU 0 [(20,.sl [ZZ x1] none)] (ip 3 (YM (s.kids.take (k+1))) (YM (s.kids.take k)) [ZZ x1] v none 2 (Q4 _) (QI rfl) rfl (by simp<;>omega) (by rw [Vl Z3];simp [Tp]) fun v3=>Z0 (az (Z2 1 (ZJ k (Z0 (ZK ⟨k+1,v3,ob,rfl,rfl,rfl⟩ (wk [2,2,0] (fr (ZM k fl))))))))))))
 refine ax 0 (aD 12 (ZH 3 12 [0,1,2,3,4,5,6,7,9] [1,1,1,1] (Z9 8 (dc 8 [] [1,1,1] [b1,b1,b1] (Bz s.args) ?_))))
 rintro _ _ ⟨v4,rfl,rfl⟩
 exact Zm 1 2 [10] (Z9 11 (YK 11 1 [] [] b2 [.i s.op,.i s.num,.i s.into,.h v4,Ty (s.kids.take k) v] (de (ZD (r3 [1] [.agg [.i s.op,.i s.num,.i s.into,.h v4,Ty (s.kids.take k) v]] [0] [(b2,b2)] ⟨v4,rfl,rfl⟩ (Ze.agg (.cons (lr _) (.cons (lr _) (.cons (lr _) (.cons (lr _) (.cons (Ze.sl _ (Yp YM (by rw [Vt om]))) .nil)))))))))))
theorem OX (rd:Nat) (bs:LI) (p:Nat) (s:Z4) (ZL:∀z∈bs,0<=z/\z<=255) (hp:p+3<=1000000000:=by exact ob) (hz:s.sz<=100000000:=by exact ob) (hg:s.rgb:=by exact ob):Zk 157 [.p rd 0,YI s] [Yy rd bs p] (fun r h=>∃(y:Z4) (p2:Nat),r=YI y/\h=[Yy rd bs p2]/\Uo s y/\p<=p2/\p2<=p+3):=by
 have haz:=QA s
 have hkz:=TK s
 refine ZF 66 Tryz.func157 (ar (iA (XG s) fun b1=>iA [.i 0,.i 0,.i 0,nl,nl] fun b2=>ie (Zw 1 [1] (ic [] (Z4s s) ?_))))
 rintro _ _ ⟨v1,rfl,rfl⟩
 refine iA [.i 0,.i 0,.i 0,nl,nl] fun b3=>ZI 0 b3 [.i s.op,.i s.num,.i s.into,.h v1,Wb s.kids] (ie (YO 1 (ic [4] (Wn rd bs p 6 (ZL:=ob)) ?_)))
 rintro _ _ ⟨k1,rfl,rfl,ZX⟩
 refine ie (ab 0 (ar (YH (k1==0) Zq (fun Za=>?_) (fun Za=>?_))))
 ·refine az (Z2 1 (iL (Z7 [14,15,16,17,6,9,12,0,1]) 9 1 fun v2=>ZU 0 [(13,Z5 [14,15,16,17,6,9,12,0,1])] (ic [1] (Ue rd bs (p+1) [14,15,16,17,6,9,12,0,1] (ZL:=ob)) ?_)))
  rintro _ _ ⟨z1,rfl,rfl,Yk⟩
  have hon:=Yk
  exact Z2 1 (ZI 2 b3 [.i z1,.i s.num,.i s.into,.h v1,Wb s.kids] (ie (ar (W7 (A6 3 v1 s.args) (W7 (TB 0 0 3 v1.v 1 b3 (Z7 s.args) [.i z1,.i s.num,.i s.into,.h v1,Wb s.kids] (YC _) rfl) (ZO 1 [0] (ZI 4 b2 [.i z1,.i s.num,.i s.into,ZQ s.args v1.v,Wb s.kids] (ie (ZD (r3 [3] [.agg [.i z1,.i s.num,.i s.into,ZQ s.args v1.v,Wb s.kids]] [0] [(b2,b2)] ⟨(Z4.mk z1 s.num s.into s.args s.kids),(p+1)+1,rfl,rfl,⟨by first|exact Uo.refl hg|exact Uo.of hg (by first|exact .inl rfl|exact .inr hon) (by first|exact Nat.le_succ _|(simp<;>omega)) (by first|exact .inl rfl|exact .inr rfl),by omega,by omega⟩⟩ (Ze.agg (.cons (lr _) (.cons (lr _) (.cons (lr _) (.cons (Ze.forget _ _) (.cons (lr _) .nil))))))))))))))))
 refine ar (YH (k1==1) Zq (fun Zg=>?_) (fun Zg=>?_))
 ·refine az (Z2 1 (iL (Z7 [0,1,2,3,-1,1000]) 6 1 fun v3=>ZU 0 [(19,Z5 [0,1,2,3,-1,1000])] (ic [1] (Ue rd bs (p+1) [0,1,2,3,-1,1000] (ZL:=ob)) ?_)))
  rintro _ _ ⟨z2,rfl,rfl,YG⟩
  have hon:=YG
  exact Z2 1 (ZI 2 b3 [.i s.op,.i z2,.i s.into,.h v1,Wb s.kids] (ie (ar (W7 (A6 3 v1 s.args) (W7 (TB 0 0 3 v1.v 1 b3 (Z7 s.args) [.i s.op,.i z2,.i s.into,.h v1,Wb s.kids] (YC _) rfl) (ZO 1 [0] (ZI 4 b2 [.i s.op,.i z2,.i s.into,ZQ s.args v1.v,Wb s.kids] (ie (ZD (r3 [3] [.agg [.i s.op,.i z2,.i s.into,ZQ s.args v1.v,Wb s.kids]] [0] [(b2,b2)] ⟨(Z4.mk s.op z2 s.into s.args s.kids),(p+1)+1,rfl,rfl,⟨by first|exact Uo.refl hg|exact Uo.of hg (by first|exact .inl rfl|exact .inr hon) (by first|exact Nat.le_succ _|(simp<;>omega)) (by first|exact .inl rfl|exact .inr rfl),by omega,by omega⟩⟩ (Ze.agg (.cons (lr _) (.cons (lr _) (.cons (lr _) (.cons (Ze.forget _ _) (.cons (lr _) .nil))))))))))))))))
 refine ar (YH (k1==2) Zq (fun ZC=>?_) (fun ZC=>?_))
 ·refine az (Z2 1 (iL (Z7 [1,2,0,-1,90]) 5 1 fun v4=>ZU 0 [(25,Z5 [1,2,0,-1,90])] (ic [1] (Ue rd bs (p+1) [1,2,0,-1,90] (ZL:=ob)) ?_)))
  rintro _ _ ⟨z3,rfl,rfl,YR⟩
  have hon:=YR
  exact Z2 1 (ZI 2 b3 [.i s.op,.i s.num,.i z3,.h v1,Wb s.kids] (ie (ar (W7 (A6 3 v1 s.args) (W7 (TB 0 0 3 v1.v 1 b3 (Z7 s.args) [.i s.op,.i s.num,.i z3,.h v1,Wb s.kids] (YC _) rfl) (ZO 1 [0] (ZI 4 b2 [.i s.op,.i s.num,.i z3,ZQ s.args v1.v,Wb s.kids] (ie (ZD (r3 [3] [.agg [.i s.op,.i s.num,.i z3,ZQ s.args v1.v,Wb s.kids]] [0] [(b2,b2)] ⟨(Z4.mk s.op s.num z3 s.args s.kids),(p+1)+1,rfl,rfl,⟨by first|exact Uo.refl hg|exact Uo.of hg (by first|exact .inl rfl|exact .inr hon) (by first|exact Nat.le_succ _|(simp<;>omega)) (by first|exact .inl rfl|exact .inr rfl),by omega,by omega⟩⟩ (Ze.agg (.cons (lr _) (.cons (lr _) (.cons (lr _) (.cons (Ze.forget _ _) (.cons (lr _) .nil))))))))))))))))
 refine ar (YH (k1==3) Zq (fun Yg=>?_) (fun Yg=>?_))
 ·refine aE 9 (ZH 6 9 [0,1,2] [1] (Z9 3 (dL 3 [1] [b3] (Z7 [0,1,-1]) 3 1 fun v5=>Yw 5 5 [] [(33,Z5 [0,1,-1])] (Z9 4 (dc 4 [1] [0] [b3] (Ue rd bs (p+1) [0,1,-1] (ZL:=ob)) ?_)))))
  rintro _ _ ⟨z4,rfl,rfl,Xl⟩
  have hon:=Xl
  exact Z9 5 (dL 5 [1] [b3] (Z7 [z4]) 1 1 fun v6=>Yw 3 3 [] [(35,Z5 [z4])] (Z9 6 (dVP 6 4 [] [] v1 s.args [z4] none fun v7=>Zm 1 2 [7] (Z9 8 (YK 8 4 [] [] b3 [.i s.op,.i s.num,.i s.into,.h v7,Wb s.kids] (de (ar (W7 (A6 1 v7 (s.args++[z4])) (W7 (TB 0 0 3 v7.v 1 b3 (Z7 (s.args++[z4])) [.i s.op,.i s.num,.i s.into,.h v7,Wb s.kids] (YC _) rfl) (ZO 1 [0] (ZI 5 b2 [.i s.op,.i s.num,.i s.into,ZQ (s.args++[z4]) v7.v,Wb s.kids] (ie (ZD (r3 [4] [.agg [.i s.op,.i s.num,.i s.into,ZQ (s.args++[z4]) v7.v,Wb s.kids]] [0] [(b2,b2)] ⟨(Z4.mk s.op s.num s.into (s.args++[z4]) s.kids),(p+1)+1,rfl,rfl,⟨by first|exact Uo.refl hg|exact Uo.of hg (by first|exact .inl rfl|exact .inr hon) (by first|exact Nat.le_succ _|(simp<;>omega)) (by first|exact .inl rfl|exact .inr rfl),by omega,by omega⟩⟩ (Ze.agg (.cons (lr _) (.cons (lr _) (.cons (lr _) (.cons (Ze.forget _ _) (.cons (lr _) .nil))))))))))))))))))))
 refine ar (YH (k1==4) Zq (fun Xf=>?_) (fun Xf=>?_))
 ·refine Zw 2 [1] (Zo (KQ 2 v1 s.args) (Y5 ((s.args.length:Int)>0) (fun Xo=>?_) (fun Xo=>?_)))
  ·refine aE 12 (ZH 7 12 [0,1,2,3,4] [1,1] (dx 5 (KQ 2 v1 s.args) (Zm 5 6 [7] (VN 6 8 ?_ ?_))))
   ·refine dc 6 [0] [0] [b3] (JX rd bs (p+1) s.args.length (ZL:=ob)) ?_
    rintro _ _ ⟨YJ,rfl,rfl,W2⟩
    refine Z9 8 (dL 8 [1] [b3] (Z7 [0,1,2,3,-1,99]) 6 1 fun v8=>Yw 3 3 [] [(52,Z5 [0,1,2,3,-1,99])] (Z9 9 (dc 9 [1] [0] [b3] (Ue rd bs ((p+1)+1) [0,1,2,3,-1,99] (ZL:=ob)) ?_)))
    rintro _ _ ⟨z5,rfl,rfl,WG⟩
    have hon:=WG
    exact dx 10 (Wo 3 v1 s.args (YJ:Int) YJ) (Z9 11 (JT 11 3 [] [] v1 s.args YJ z5 (de (ar (W7 (A6 0 v1 (s.args.set YJ z5)) (W7 (TB 0 2 3 v1.v 1 b3 (Z7 (s.args.set YJ z5)) [.i s.op,.i s.num,.i s.into,.h v1,Wb s.kids] (YC _) rfl) (ZO 1 [0] (ZI 4 b2 [.i s.op,.i s.num,.i s.into,ZQ (s.args.set YJ z5) v1.v,Wb s.kids] (ie (ZD (r3 [3] [.agg [.i s.op,.i s.num,.i s.into,ZQ (s.args.set YJ z5) v1.v,Wb s.kids]] [0] [(b2,b2)] ⟨(Z4.mk s.op s.num s.into (s.args.set YJ z5) s.kids),((p+1)+1)+1,rfl,rfl,⟨by first|exact Uo.refl hg|exact Uo.of hg (by first|exact .inl rfl|exact .inr hon) (by first|exact Nat.le_succ _|(simp<;>omega)) (by first|exact .inl rfl|exact .inr rfl),by omega,by omega⟩⟩ (Ze.agg (.cons (lr _) (.cons (lr _) (.cons (lr _) (.cons (Ze.forget _ _) (.cons (lr _) .nil)))))))))))))))))
   refine dL 8 [1,1] [b3,b3] (Z7 [0,1,2,3,-1,99]) 6 1 fun v9=>Z9 6 (dc 6 [1] [0] [b3] (JX rd bs (p+1) s.args.length (ZL:=ob)) ?_)
   rintro _ _ ⟨Xa,rfl,rfl,V3⟩
   refine Yw 3 3 [] [(52,Z5 [0,1,2,3,-1,99])] (Z9 9 (dc 9 [0] [0] [b3] (Ue rd bs ((p+1)+1) [0,1,2,3,-1,99] (ZL:=ob)) ?_))
   rintro _ _ ⟨z6,rfl,rfl,Vr⟩
   have hon:=Vr
   exact dx 10 (Wo 3 v1 s.args (Xa:Int) Xa) (Z9 11 (JT 11 3 [] [] v1 s.args Xa z6 (de (ar (W7 (A6 0 v1 (s.args.set Xa z6)) (W7 (TB 0 2 3 v1.v 1 b3 (Z7 (s.args.set Xa z6)) [.i s.op,.i s.num,.i s.into,.h v1,Wb s.kids] (YC _) rfl) (ZO 1 [0] (ZI 4 b2 [.i s.op,.i s.num,.i s.into,ZQ (s.args.set Xa z6) v1.v,Wb s.kids] (ie (ZD (r3 [3] [.agg [.i s.op,.i s.num,.i s.into,ZQ (s.args.set Xa z6) v1.v,Wb s.kids]] [0] [(b2,b2)] ⟨(Z4.mk s.op s.num s.into (s.args.set Xa z6) s.kids),((p+1)+1)+1,rfl,rfl,⟨by first|exact Uo.refl hg|exact Uo.of hg (by first|exact .inl rfl|exact .inr hon) (by first|exact Nat.le_succ _|(simp<;>omega)) (by first|exact .inl rfl|exact .inr rfl),by omega,by omega⟩⟩ (Ze.agg (.cons (lr _) (.cons (lr _) (.cons (lr _) (.cons (Ze.forget _ _) (.cons (lr _) .nil)))))))))))))))))
  exact ak (ar (W7 (A6 2 v1 s.args) (W7 (TB 0 1 3 v1.v 1 b3 (Z7 s.args) [.i s.op,.i s.num,.i s.into,.h v1,Wb s.kids] (YC _) rfl) (ZO 1 [0] (ZI 3 b2 [.i s.op,.i s.num,.i s.into,ZQ s.args v1.v,Wb s.kids] (ie (ZD (r3 [3] [.agg [.i s.op,.i s.num,.i s.into,ZQ s.args v1.v,Wb s.kids]] [0] [(b2,b2)] ⟨s,p+1,rfl,rfl,⟨by first|exact Uo.refl hg|exact Uo.of hg (by first|exact .inl rfl|exact .inr hon) (by first|exact Nat.le_succ _|(simp<;>omega)) (by first|exact .inl rfl|exact .inr rfl),by omega,by omega⟩⟩ (Ze.agg (.cons (lr _) (.cons (lr _) (.cons (lr _) (.cons (Ze.forget _ _) (.cons (lr _) .nil))))))))))))))
 refine ar (YH (k1==5) Zq (fun U2=>?_) (fun U2=>?_))
 ·refine Zw 2 [1] (iw (Uy s.kids) (Y5 ((s.kids.length:Int)>0) (fun VR=>?_) (fun VR=>?_)))
  ·exact az (ZO 2 [1] (Zo (Ko (es:=YM s.kids) (hv:=none) (l:=1) (m:=(((YM s.kids).length:Nat):Int)) (sz:=2) (es':=YM (s.kids.drop 1)) kr om (by simp<;>omega) (by simp<;>omega) (Q4 _) (by first|(simp only [Vm,V6,Ic,Ib];done)|(simp only [Vm,V6,Ic,Ib];rfl)|(simp [Ic,Ib];done))) (Z2 1 (ZI 1 b3 [.i s.op,.i s.num,.i s.into,.h v1,Wb (s.kids.drop 1)] (ie (ar (W7 (A6 2 v1 s.args) (W7 (TB 0 0 3 v1.v 1 b3 (Z7 s.args) [.i s.op,.i s.num,.i s.into,.h v1,Wb (s.kids.drop 1)] (YC _) rfl) (ZO 1 [0] (ZI 3 b2 [.i s.op,.i s.num,.i s.into,ZQ s.args v1.v,Wb (s.kids.drop 1)] (ie (ZD (r3 [3] [.agg [.i s.op,.i s.num,.i s.into,ZQ s.args v1.v,Wb (s.kids.drop 1)]] [0] [(b2,b2)] ⟨(Z4.mk s.op s.num s.into s.args (s.kids.drop 1)),p+1,rfl,rfl,⟨by first|exact Uo.refl hg|exact Uo.of hg (by first|exact .inl rfl|exact .inr hon) (by first|exact Nat.le_succ _|(simp<;>omega)) (by first|exact .inl rfl|exact .inr rfl),by omega,by omega⟩⟩ (Ze.agg (.cons (lr _) (.cons (lr _) (.cons (lr _) (.cons (Ze.forget _ _) (.cons (lr _) .nil)))))))))))))))))))
  exact ak (ar (W7 (A6 2 v1 s.args) (W7 (TB 0 1 3 v1.v 1 b3 (Z7 s.args) [.i s.op,.i s.num,.i s.into,.h v1,Wb s.kids] (YC _) rfl) (ZO 1 [0] (ZI 3 b2 [.i s.op,.i s.num,.i s.into,ZQ s.args v1.v,Wb s.kids] (ie (ZD (r3 [3] [.agg [.i s.op,.i s.num,.i s.into,ZQ s.args v1.v,Wb s.kids]] [0] [(b2,b2)] ⟨s,p+1,rfl,rfl,⟨by first|exact Uo.refl hg|exact Uo.of hg (by first|exact .inl rfl|exact .inr hon) (by first|exact Nat.le_succ _|(simp<;>omega)) (by first|exact .inl rfl|exact .inr rfl),by omega,by omega⟩⟩ (Ze.agg (.cons (lr _) (.cons (lr _) (.cons (lr _) (.cons (Ze.forget _ _) (.cons (lr _) .nil))))))))))))))
 exact ak (ar (W7 (A6 2 v1 s.args) (W7 (TB 0 1 3 v1.v 1 b3 (Z7 s.args) [.i s.op,.i s.num,.i s.into,.h v1,Wb s.kids] (YC _) rfl) (ZO 1 [0] (ZI 3 b2 [.i s.op,.i s.num,.i s.into,ZQ s.args v1.v,Wb s.kids] (ie (ZD (r3 [3] [.agg [.i s.op,.i s.num,.i s.into,ZQ s.args v1.v,Wb s.kids]] [0] [(b2,b2)] ⟨s,p+1,rfl,rfl,⟨by first|exact Uo.refl hg|exact Uo.of hg (by first|exact .inl rfl|exact .inr hon) (by first|exact Nat.le_succ _|(simp<;>omega)) (by first|exact .inl rfl|exact .inr rfl),by omega,by omega⟩⟩ (Ze.agg (.cons (lr _) (.cons (lr _) (.cons (lr _) (.cons (Ze.forget _ _) (.cons (lr _) .nil))))))))))))))
theorem Z8h (rd:Nat) (bs:LI) (p:Nat) (mx:Int) (ZL:∀z∈bs,0<=z/\z<=255) (hp:p+1<=1000000000):Zk 37 [.p rd 0,.i mx] [Yy rd bs p] (fun r h=>∃(k:Int),r=.i k/\h=[.obj rd [Uh bs,.i (p+1:Nat)]]/\Pk mx k/\k=AF bs p mx):=by
 refine ZF 99 Tryz.func37 (ZE (Zw 5 [0] (ZJ p (Z2 2 (ZI 0 rd [Uh bs,.i (p+1:Nat)] (ie (X9 (Xv [0,1] [(24,.b ((decide (mx<1))||((bs.length:Int)==0)))] (fun gz=>gz) ?_ ?_))))))))
 ·refine Z2 3 (ib (b:=(decide (mx<1))) 17 (fun Zb=>?_) (fun Zb=>?_))
  ·exact Z0 (wk [0] (Zt true Zb fl))
  exact ZO 4 [0] (iw (KF bs) (Z0 (wk [0] (Zt ((bs.length:Int)==0) Zb fl))))
 refine ac ((decide (mx<1))||((bs.length:Int)==0)) (p:=(mx<1)∨((bs.length:Int)=0)) (Yr dq Zq) (fun Za=>?_) (fun Za=>?_)
 ·exact ar (Zr (r1 [0] ⟨0,rfl,rfl,⟨Pk.zero,by rw [AF,Zd om]⟩⟩))
 refine ak (Zw 4 [0] (ia ((p:Int)) ((((p+1:Nat):Int))-(1)) (Z0 (Yl 5 [0] (iw (KF bs) (Y5 ((p:Int)<(bs.length:Int)) (fun Zg=>?_) (fun Zg=>?_)))))))
 ·refine Zw 5 [0] ?_
  obtain ⟨x1,Z3⟩:=Zs bs p om
  have hz:=ZL _ (ZW Z3)
  exact Zo (Zj none (p:Int) 1 (CE Z3)) (Z2 1 (Zo (D7 x1 om) (Z2 1 (Zo (Eb x1 mx om om) (Zr (r1 [0] ⟨(x1 % mx),rfl,rfl,⟨Pk.rem om om,by rw [AF,Z8 om,Zd om,Z3];rfl⟩⟩))))))
 have hq1:p / bs.length<=p:=Nat.div_le_self _ _
 have hq0:(0:Int)<=((p / bs.length:Nat):Int):=Int.natCast_nonneg _
 refine ak (aD 46 (ZH 37 46 [0,1,2,3,4,5,6,7,8] [0,0] (dw 9 (KF bs) (dx 10 (Ge p bs.length om om) ?_))))
 obtain ⟨x2,Zx⟩:=Zs bs (p % bs.length) (Nat.mod_lt _ om)
 have hz:=ZL _ (ZW Zx)
 have hy2:=Zx
 refine dx 11 (Zj none ((p % bs.length:Nat):Int) 1 (CE Zx)) (Zm 33 34 [12] (dx 13 (D7 x2 om) (da 14 ((x2*131)) ((x2)*(131)) (ZH 26 31 [15,16,17,18,19] [0] (da 20 (((p*7:Nat):Int)) (((p:Int))*(7)) (da 21 (((p*7+3:Nat):Int)) ((((p*7:Nat):Int))+(3)) (ZH 20 24 [22,23,24,25] [0] (dw 26 (KF bs) (dx 27 (Ge (p*7+3) bs.length om om) ?_)))))))))
 obtain ⟨x3,YS⟩:=Zs bs ((p*7+3) % bs.length) (Nat.mod_lt _ om)
 have hz3:=ZL _ (ZW YS)
 have hy3:=YS
 exact dx 28 (Zj none (((p*7+3) % bs.length:Nat):Int) 1 (CE YS)) (Zm 16 17 [29] (dx 30 (D7 x3 om) (da 31 ((x3*1117)) ((x3)*(1117)) (da 32 (((x2*131)+(x3*1117))) (((x2*131))+((x3*1117))) (Zm 12 13 [33] (da 34 (((p*29:Nat):Int)) (((p:Int))*(29)) (da 35 ((((x2*131)+(x3*1117))+((p*29:Nat):Int))) ((((x2*131)+(x3*1117)))+(((p*29:Nat):Int))) (ZH 5 10 [36,37,38,39,40] [0] (dw 41 (KF bs) (dx 42 (C9 p bs.length om om) (da 43 ((((p / bs.length:Nat):Int)*53)) ((((p / bs.length:Nat):Int))*(53)) (da 44 (((((x2*131)+(x3*1117))+((p*29:Nat):Int))+(((p / bs.length:Nat):Int)*53))) (((((x2*131)+(x3*1117))+((p*29:Nat):Int)))+((((p / bs.length:Nat):Int)*53))) (Zm 0 1 [45] (de (Ya 2 (Zo (Lb ((((x2*131)+(x3*1117))+((p*29:Nat):Int))+(((p / bs.length:Nat):Int)*53)) 64 om om) (Zo (PE ((((x2*131)+(x3*1117))+((p*29:Nat):Int))+(((p / bs.length:Nat):Int)*53)) (((((x2*131)+(x3*1117))+((p*29:Nat):Int))+(((p / bs.length:Nat):Int)*53)) / 64)) (Z0 (Ya 2 (Zo (Eb (AN ((((x2*131)+(x3*1117))+((p*29:Nat):Int))+(((p / bs.length:Nat):Int)*53)) (((((x2*131)+(x3*1117))+((p*29:Nat):Int))+(((p / bs.length:Nat):Int)*53)) / 64)) mx om (Hg ⟨by omega,by omega⟩ ⟨by omega,by omega⟩).1) (Zr (r1 [0] ⟨((AN ((((x2*131)+(x3*1117))+((p*29:Nat):Int))+(((p / bs.length:Nat):Int)*53)) (((((x2*131)+(x3*1117))+((p*29:Nat):Int))+(((p / bs.length:Nat):Int)*53)) / 64)) % mx),rfl,rfl,⟨Pk.rem (Hg ⟨by omega,by omega⟩ ⟨by omega,by omega⟩).1 om,by rw [AF,Z8 om,Z8 om,hy2,hy3];rfl⟩⟩))))))))))))))))))))))
theorem Z8i (rd:Nat) (bs:LI) (p:Nat) (mx:Nat) (ZL:∀z∈bs,0<=z/\z<=255) (hp:p+1<=1000000000:=by exact ob) (hmx:0<mx:=by exact ob):Zk 37 [.p rd 0,.i mx] [Yy rd bs p] (fun r h=>∃(kn:Nat),r=.i kn/\h=[.obj rd [Uh bs,.i (p+1:Nat)]]/\kn<mx/\kn=(AF bs p mx).toNat):=(Z8h rd bs p mx ZL hp).mono fun r h ⟨z,hr,hh,hz,he⟩=>by
  have h0:=hz.lt om
  exact ⟨z.toNat,by rw [hr,Int.toNat_of_nonneg h0.1],hh,by omega,by rw [he]⟩
theorem Z4r (s:Z4) (hz:s.sz<=1000000000):Zk 211 [YI s] [] (fun r h=>∃(v:Hd),r=.agg [.i s.op,.i s.num,.i s.into,Z5 s.args,.h v]/\h=[rK v 2 (Zp (YM s.kids))]):=by
 have hkz:=TK s
 have haz:=QA s
 refine ZF 33 Tryz.func211 (ar (iA (XG s) fun b1=>iA [.i 0,.i 0,.i 0,nl,nl] fun b2=>ie (ar (CY 2 fun g1=>?_))))
 refine Z0 (Yi (ab 0 (Y6 (fun fz gz m F h=>∃(k:Nat) (v:Hd),(k<=s.kids.length)/\F=sF [1,2] fz [(3,.h v),(4,.i k)]/\h=[Zc gz 1,Zc gz 2,rK v 2 (Zp (YM (s.kids.take k)))]/\m=s.kids.length-k) _ _ _ ⟨0,(⟨some ⟨g1,0,none⟩,0,0⟩:Hd),ob,rfl,rfl,rfl⟩ (wk [1,1,0] (fr (Yd fl)) (e:=(rc (rc (rr (ls:=[]) ob rz))))) ?_)))
 rintro m F h ⟨k,v,Yj,rfl,rfl,rfl⟩
 refine Yl 3 [1] (iw (Uy s.kids) (Y5 ((k:Int)<(s.kids.length:Int)) (fun Za=>?_) (fun Za=>?_)))
 ·refine ak (aq (ab 1 (az (ZO 4 [1] ?_))))
  obtain ⟨x1,Z3⟩:=Zs s.kids k om
  have hks:=Tx Z3
  exact Zo (Zj none (k:Int) 2 (T9 Z3)) (Z2 1 (Zz [] (H1 x1) (iL [ZZ x1] 1 2 fun v1=>ZU 0 [(20,.sl [ZZ x1] none)] (G0 3 k v 2 (Zp (YM (s.kids.take k))) [ZZ x1] none (by rw [E1,WB,VV om]) (QI rfl) rfl (List.cons_ne_nil _ _) (by simp<;>omega) fun v2=>Z0 (az (Z2 1 (ZJ k (Z0 (ZK ⟨k+1,v2,ob,rfl,rfl,rfl⟩ (wk [2,2,0] (fr (ZM k fl)) (e:=(rc (rc (rr (ls:=Zp (YM (s.kids.take k))++Zp [ZZ x1]) (Z6r Z3) rz))))))))))))))
 refine ax 0 (aD 12 (ZH 3 12 [0,1,2,3,4,5,6,7,9] [1,1,1,1] (Z9 8 (dc 8 [] [1,1,1] [b1,b1,b1] (UD s.args) ?_))))
 rintro _ _ ⟨v3,rfl,rfl⟩
 exact Zm 1 2 [10] (Z9 11 (YK 11 1 [] [] b2 [.i s.op,.i s.num,.i s.into,ZQ s.args v3,.h v] (de (ZD (r3 [3] [.agg [.i s.op,.i s.num,.i s.into,ZQ s.args v3,.h v]] [0] [(b2,b2)] ⟨v,rfl,rfl⟩ (Ze.agg (.cons (lr _) (.cons (lr _) (.cons (lr _) (.cons (Ze.forget _ _) (.cons (lr _) .nil)))))) (eq:=(rr (ls:=Zp (YM (s.kids.take k))) (by rw [Vt om]) rz)))))))
theorem Z4q (s:Z4) (fl:Bool) (hz:s.sz<=1000000000:=by exact ob):Zk 211 [YI s] [] (fun r h=>(∃(v:Hd),r=.agg [.i s.op,.i s.num,.i s.into,Z5 s.args,.h v]/\h=[rK v 2 (Zp (YM s.kids))]/\fl=true)∨(r=YI s/\h=[]/\fl=false)):=by
 cases fl with
 | true=>exact (Z4r s hz).mono fun r h ⟨v,hr,hh⟩=>.inl ⟨v,hr,hh,rfl⟩
 | false=>exact (SW s hz).mono fun r h ⟨hr,hh⟩=>.inr ⟨hr,hh,rfl⟩
theorem Z4n (b:Z6) (kk:Nat) (hz:b.sz<=1000000000:=by exact ob) (hkk:kk<b.steps.length:=by exact ob):Zk 156 [ZZ b] [] (fun r h=>∃(v:Hd) (u:Hd),r=.agg [.h v,.i b.result]/\h=[rK v 5 (V9 b kk u.v b.steps.length),rK u 2 (Tw b kk b.steps.length)]):=by
 have hbz:=Uk b
 refine ZF 28 Tryz.func156 (ar (iA (Xm b) fun b1=>iA [nl,.i 0] fun b2=>ie (ar (CY 5 fun g1=>ZO 3 [2] (iA [nl,.i 0] fun b3=>?_)))))
 refine ZI 0 b3 [.ms g1 0 0 0,.i b.result] (ie (X9 (W7 (Z10 (k:=2)) (Z0 (ab 0 (Y6 (fun fz gz m F h=>∃(k:Nat) (v:Hd) (u:Hd),(k<=b.steps.length)/\F=sF [1,2,3] fz [(4,.i k)]/\h=[.obj b3 [.h v,.i b.result],Zc gz 3,Zc gz 4,rK v 5 (V9 b kk u.v k),rK u 2 (Tw b kk k)]/\m=b.steps.length-k) _ _ _ ⟨0,(⟨some ⟨g1,0,none⟩,0,0⟩:Hd),hN,ob,rfl,rfl,rfl⟩ (wk [1,2,2,1,0] (Yd fl) (e:=(rc (rc (rc (rr (ls:=[]) (by first|exact PI.symm|exact PL.symm) (rr (ls:=[]) (by first|exact PI.symm|exact PL.symm) rz))))))) ?_))))))
 rintro m F h ⟨k,v,u,Yj,rfl,rfl,rfl⟩
 refine Yl 3 [2] (iw (VO b.steps) (Y5 ((k:Int)<(b.steps.length:Int)) (fun Za=>?_) (fun Za=>?_)))
 ·refine ak (aq (ab 1 (aE 12 (ZH 7 12 [0,1,2,3,4] [0,2] ?_))))
  obtain ⟨x1,Z3⟩:=Zs b.steps k om
  have hss:=A5 Z3
  refine dx 5 (Zj none (k:Int) 5 (V2 Z3)) (Zm 5 6 [6] (Z9 7 (dc 7 [] [0] [b3] (Z4q x1 (decide (k=kk))) ?_)))
  rintro _ _ (⟨v1,rfl,rfl,ZX⟩|⟨rfl,rfl,Yk⟩)
  ·have hke:k=kk:=of_decide_eq_true ZX
   exact BV (Z0y [1,1,1,0,0,0] (h':=[.obj b3 [.h v,.i b.result],.obj b2 [nl,.i 0],.obj b1 (Xm b),rK v1 2 (Zp (YM x1.kids)),rK v 5 (V9 b kk u.v k),rK u 2 (Tw b kk k)]) (d:=[]) kr) (Z9 8 (dL 8 [0] [b3] [.agg [.i x1.op,.i x1.num,.i x1.into,Z5 x1.args,.h v1]] 1 5 fun v2=>Yw 3 3 [] [(24,.sl [.agg [.i x1.op,.i x1.num,.i x1.into,Z5 x1.args,.h v1]] none)] (Z9 9 (I1 9 5 k [] [] v 5 (V9 b kk u.v k) [.agg [.i x1.op,.i x1.num,.i x1.into,Z5 x1.args,.h v1]] none (Le om) (QI rfl) rfl (List.cons_ne_nil _ _) (by simp<;>omega) fun v3=>Zm 1 2 [10] (Z9 11 (YK 11 2 [] [] b3 [.h v3,.i b.result] (de (az (Z2 1 (ZJ k (Z0 (ZK ⟨k+1,v3,v1,ob,rfl,rfl,rfl⟩ (wk [0,2,2,0,1] (ZM k fl) (e:=(rc (rc (rc (rr (ls:=V9 b kk u.v k++Zp [.agg [.i x1.op,.i x1.num,.i x1.into,Z5 x1.args,.h v1]]) (by first|(subst hke;exact PH Z3)|(subst hke;exact PK Z3)) (rr (ls:=Zp (YM x1.kids)) (by first|(subst hke;exact PH Z3)|(subst hke;exact PK Z3)) rz)))))))))))))))))))
  have hke:¬k=kk:=of_decide_eq_false Yk
  exact Z9 8 (dL 8 [0] [b3] [YI x1] 1 5 fun v4=>Yw 3 3 [] [(24,.sl [YI x1] none)] (Z9 9 (I1 9 4 k [] [] v 5 (V9 b kk u.v k) [YI x1] none (Le om) (QI rfl) rfl (List.cons_ne_nil _ _) (by simp<;>omega) fun v5=>Zm 1 2 [10] (Z9 11 (YK 11 2 [] [] b3 [.h v5,.i b.result] (de (az (Z2 1 (ZJ k (Z0 (ZK ⟨k+1,v5,u,ob,rfl,rfl,rfl⟩ (wk [0,2,2,0,1] (ZM k fl) (e:=(rc (rc (rc (rr (ls:=V9 b kk u.v k++Zp [YI x1]) (by first|exact PG Z3 hke|exact PJ hke) (rr (ls:=Tw b kk k) (by first|exact PG Z3 hke|exact PJ hke) rz))))))))))))))))))
 exact ax 0 (Zw 1 [0] (ZI 1 b2 [.h v,.i b.result] (ie (ZD (r3 [3,3] [.agg [.h v,.i b.result]] [0] [(b2,b2)] ⟨v,u,rfl,rfl⟩ (lr _) (eq:=(rr (ls:=V9 b kk u.v k) (by rw [show k=b.steps.length by omega]) (rr (ls:=Tw b kk k) (by rw [show k=b.steps.length by omega]) rz))))))))
theorem Z8q (rd:Nat) (bs:LI) (p:Nat) (b:Z6) (ZL:∀z∈bs,0<=z/\z<=255) (hp:p+(10*b.sz)<=1000000000) (hz:b.sz<=20000000) (hg:b.rgb) (h0:b.steps.length=0):Zk 94 [.p rd 0,ZZ b] [Yy rd bs p] (fun r h=>∃(y:Z6) (p2:Nat),r=ZZ y/\h=[Yy rd bs p2]/\XE b y/\p<=p2/\p2<=p+(10*b.sz)):=by
 have hbp:=b.sz_pos
 refine ZF 109 Tryz.func94 (ar (iA (Xm b) fun b1=>iA [nl,.i 0] fun b2=>ie (Zw 1 [1] (Zz [] (H1 b) (iA [nl,.i 0] fun b3=>ZI 0 b3 (Xm b) (ie (Yl 2 [0] (iw (VO b.steps) (Z2 2 (ib (b:=((b.steps.length:Int)==0)) 14 (fun Zb=>?_) (fun Zb=>?_)))))))))))
 ·refine Z0 (Wc (Ya 1 (iL (Z7 [0,1,2,3,-1,99]) 6 1 fun v1=>ZU 0 [(20,Z5 [0,1,2,3,-1,99])] (ic [4] (Ue rd bs p [0,1,2,3,-1,99] (ZL:=ob)) ?_))))
  rintro _ _ ⟨z1,rfl,rfl,Yk⟩
  have hon:=Yk
  simp only [YD,List.not_mem_nil,or_false] at hon
  exact Z2 1 (ZI 2 b3 [Wz b.steps,.i z1] (ie (Zw 1 [0] (ZI 3 b2 [Wz b.steps,.i z1] (ie (ZD (r3 [2] [.agg [Wz b.steps,.i z1]] [0] [(b2,b2)] ⟨(Z6.mk b.steps z1),p+1,rfl,rfl,⟨XE.result hg _,by have:=b.sz_pos;omega,by have:=b.sz_pos;omega⟩⟩ (lr _))))))))
 have YG:¬((b.steps.length:Int)=0):=Yh Zq Zb
 exact absurd (show (b.steps.length:Int)=0 by omega) YG
theorem Z8r (rd:Nat) (bs:LI) (p:Nat) (b:Z6) (ZL:∀z∈bs,0<=z/\z<=255) (hp:p+(10*b.sz)<=1000000000) (hz:b.sz<=20000000) (hg:b.rgb) (h0:0<b.steps.length) (ih:∀(rd:Nat) (bs:LI) (p:Nat) (b2:Z6),(∀z∈bs,0<=z/\z<=255)->(p+(10*b2.sz)<=1000000000)->(b2.sz<=20000000)->(b2.rgb)->(b2.sz<b.sz)->Zk 94 [.p rd 0,ZZ b2] [Yy rd bs p] (fun r h=>∃(y:Z6) (p2:Nat),r=ZZ y/\h=[Yy rd bs p2]/\XE b2 y/\p<=p2/\p2<=p+(10*b2.sz))):Zk 94 [.p rd 0,ZZ b] [Yy rd bs p] (fun r h=>∃(y:Z6) (p2:Nat),r=ZZ y/\h=[Yy rd bs p2]/\XE b y/\p<=p2/\p2<=p+(10*b.sz)):=by
 have hbp:=b.sz_pos
 obtain ⟨kk,hkk⟩:∃kk,kk=(AF bs (p+1) (b.steps.length:Int)).toNat:=⟨_,rfl⟩
 have hkl:kk<b.steps.length:=by have:=Zd4 (bs:=bs) (p:=p+1) (mx:=(b.steps.length:Int)) om;omega
 obtain ⟨sk,hsk⟩:=Zs b.steps kk hkl
 have hsb:=A5 hsk
 have hsg:=Zdl hg hsk
 have hst:=Uk b
 refine ZF 109 Tryz.func94 (ar (iA (Xm b) fun b1=>iA [nl,.i 0] fun b2=>ie (Zw 1 [1] (ic [] (Z4n b kk) ?_))))
 rintro _ _ ⟨v1,u1,rfl,rfl⟩
 refine E8 0 b.steps.length (v:=v1) (Le (kk:=kk) (u:=u1.v) (X7 b.steps.length)) om (fun g1 c1 he1=>?_)
 subst he1
 refine W7 (Z0y [0,1,1,1,0] (h':=[.row (.slice (some ⟨g1,0,none⟩) b.steps.length c1) 5 (V9 b kk u1.v b.steps.length),.obj b2 [nl,.i 0],.obj b1 (Xm b),Yy rd bs p,rK u1 2 (Tw b kk b.steps.length)]) (d:=[]) kr) (iA [nl,.i 0] fun b3=>ZI 0 b3 [.ms g1 0 b.steps.length c1,.i b.result] (ie (Yl 2 [0] (io (.i b.steps.length) (.i b.steps.length) (lr _) (Z2 2 (ib (b:=((b.steps.length:Int)==0)) 14 (fun Zb=>?_) (fun Zb=>?_)))))))
 ·have ZX:(b.steps.length:Int)=0:=(Zq).1 Zb
  exact absurd ZX om
 have Yk:¬((b.steps.length:Int)=0):=Yh Zq Zb
 refine Z2 1 (ic [4] (Wn rd bs p 5 (ZL:=ob)) ?_)
 rintro _ _ ⟨k1,rfl,rfl,YG⟩
 refine YH (k1==0) Zq (fun Za=>?_) (fun Za=>?_)
 ·refine ar (W7 (Mv 5 2 b kk sk u1.v (.slice (some ⟨g1,0,none⟩) b.steps.length c1) hsk) (W7 (TB 0 2 0 (.slice (some ⟨g1,0,none⟩) b.steps.length c1) 5 b3 (Zv b.steps) [.ms g1 0 b.steps.length c1,.i b.result] (Xe _) rfl) (Z2 1 (iL (Z7 [0,1,2,3,-1,99]) 6 1 fun v2=>ZU 0 [(20,Z5 [0,1,2,3,-1,99])] (ic [4] (Ue rd bs (p+1) [0,1,2,3,-1,99] (ZL:=ob)) ?_)))))
  rintro _ _ ⟨z1,rfl,rfl,YR⟩
  have hon:=YR
  simp only [YD,List.not_mem_nil,or_false] at hon
  exact Z2 1 (ZI 2 b3 [X4 b.steps (.slice (some ⟨g1,0,none⟩) b.steps.length c1),.i z1] (ie (Zw 1 [0] (ZI 5 b2 [X4 b.steps (.slice (some ⟨g1,0,none⟩) b.steps.length c1),.i z1] (ie (ZD (r3 [2] [.agg [X4 b.steps (.slice (some ⟨g1,0,none⟩) b.steps.length c1),.i z1]] [0] [(b2,b2)] ⟨(Z6.mk b.steps z1),(p+1)+1,rfl,rfl,(by first|exact ⟨XE.result hg _,by omega,by omega⟩|exact ⟨XE.kid hg hsk hck hyb.1,by omega,by omega⟩|exact ⟨XE.del hg,by omega,by omega⟩|exact ⟨XE.put hg,by omega,by omega⟩|exact ⟨XE.set hg hsk ⟨by have:=hys.1.1;omega,hys.1.2⟩,by omega,by omega⟩)⟩ (Ze.agg (.cons (Ze.forget _ _) (.cons (lr _) .nil))))))))))
 refine ak (Zw 3 [1] (io (.i b.steps.length) (.i b.steps.length) (lr _) (ic [0] (Z8i rd bs (p+1) b.steps.length (ZL:=ob)) ?_)))
 rintro _ _ ⟨YJ,rfl,rfl,Xl⟩
 have hkn:YJ=kk:=by have:=Xl.2;omega
 refine Z0 (Yl 3 [1] (Zo (Ww g1 b.steps.length c1 YJ 5 (YJ:Int)) (Z2 1 (V8 (VA 2 g1 b.steps.length c1 5 (YJ*5+4) (V9 b kk u1.v b.steps.length) [.h u1] 44 (.h u1) (by rw [hkn];exact Gg hsk)) (Zo (Zax 5 sk.kids.length u1 2 (Tw b kk b.steps.length) (by rw [Lf hsk];exact E1 _)) (Z2 2 (ib (b:=(decide ((sk.kids.length:Int)>0))) 37 (fun ZB=>?_) (fun ZB=>?_))))))))
 ·have W2:(sk.kids.length:Int)>0:=(dq).1 ZB
  refine Z2 1 (ic [0] (Wn rd bs ((p+1)+1) 3 (ZL:=ob)) ?_)
  rintro _ _ ⟨k2,rfl,rfl,WG⟩
  refine Y5 (k2>0) (fun Zg=>?_) (fun Zg=>?_)
  ·refine ar (W7 (Mw 5 u1.v 2 (Tw b kk b.steps.length) (Zp (YM sk.kids)) (Lf hsk)) (E8 0 sk.kids.length (v:=u1) (E1 _) om (fun g2 c2 he2=>?_)))
   subst he2
   refine ZO 4 [2] (Zo (Ww g1 b.steps.length c1 YJ 5 (YJ:Int)) (Z2 1 (V8 (VA 3 g1 b.steps.length c1 5 (YJ*5+4) (V9 b kk (.slice (some ⟨g2,0,none⟩) sk.kids.length c2) b.steps.length) [.ms g2 0 sk.kids.length c2] 44 (.ms g2 0 sk.kids.length c2) (by rw [hkn];exact Gg hsk)) (io (.i sk.kids.length) (.i sk.kids.length) (lr _) (ic [1] (JX rd bs (((p+1)+1)+1) sk.kids.length (ZL:=ob)) ?_)))))
   rintro _ _ ⟨Xa,rfl,rfl,V3⟩
   obtain ⟨ck,hck⟩:=Zs sk.kids Xa om
   have hckz:=Tx hck
   have hckb:=A5 hsk
   have hckg:=Zdk hg hsk hck
   refine Z0 (aD 20 (ZH 17 20 [0,1,2] [2] (dx 3 (Ww g1 b.steps.length c1 YJ 5 (YJ:Int)) (Zm 15 16 [4] (Uq 5 (VA 3 g1 b.steps.length c1 5 (YJ*5+4) (V9 b kk (.slice (some ⟨g2,0,none⟩) sk.kids.length c2) b.steps.length) [.ms g2 0 sk.kids.length c2] 44 (.ms g2 0 sk.kids.length c2) (by rw [hkn];exact Gg hsk)) (ZH 9 14 [6,7,8,9,10] [2] (dx 11 (Ww g1 b.steps.length c1 YJ 5 (YJ:Int)) (Zm 7 8 [12] (Uq 13 (VA 3 g1 b.steps.length c1 5 (YJ*5+4) (V9 b kk (.slice (some ⟨g2,0,none⟩) sk.kids.length c2) b.steps.length) [.ms g2 0 sk.kids.length c2] 44 (.ms g2 0 sk.kids.length c2) (by rw [hkn];exact Gg hsk)) (Zm 5 6 [14] (dx 15 (Ww g2 sk.kids.length c2 Xa 2 (Xa:Int)) (Uq 16 (VA 1 g2 sk.kids.length c2 2 (Xa*2) (Zp (YM sk.kids)) (Xm ck) 39 (ZZ ck) (Z6q hck)) (Z9 17 (dc 17 [0] [2,1] [g1,b3] (ih rd bs ((((p+1)+1)+1)+1) ck ob ob ob ob ob) ?_))))))))))))))
   rintro _ _ ⟨y1,p21,rfl,rfl,Vr⟩
   have hyb:=Vr
   exact dx 18 (Ww g2 sk.kids.length c2 Xa 2 (Xa:Int)) (Z9 19 (B5 19 1 [] [] g2 sk.kids.length c2 2 (Xa*2) (Xm y1) (Zp (YM sk.kids)) (Zp (YM (sk.kids.set Xa y1))) (by rw [E1];simp only [YT,XA];omega) (Z6s y1 om) (de (ar (W7 (Z0u 0 2 b kk sk (sk.kids.set Xa y1) (.slice (some ⟨g2,0,none⟩) sk.kids.length c2) (.slice (some ⟨g1,0,none⟩) b.steps.length c1) hsk) (W7 (TB 0 2 0 (.slice (some ⟨g1,0,none⟩) b.steps.length c1) 5 b3 (Zv (b.steps.set kk (Z4.mk sk.op sk.num sk.into sk.args (sk.kids.set Xa y1)))) [.ms g1 0 b.steps.length c1,.i b.result] (Xe _) rfl) (ZO 1 [0] (ZI 4 b2 [X4 (b.steps.set kk (Z4.mk sk.op sk.num sk.into sk.args (sk.kids.set Xa y1))) (.slice (some ⟨g1,0,none⟩) b.steps.length c1),.i b.result] (ie (ZD (r3 [4] [.agg [X4 (b.steps.set kk (Z4.mk sk.op sk.num sk.into sk.args (sk.kids.set Xa y1))) (.slice (some ⟨g1,0,none⟩) b.steps.length c1),.i b.result]] [0] [(b2,b2)] ⟨(Z6.mk (b.steps.set kk (Z4.mk sk.op sk.num sk.into sk.args (sk.kids.set Xa y1))) b.result),p21,rfl,rfl,(by first|exact ⟨XE.result hg _,by omega,by omega⟩|exact ⟨XE.kid hg hsk hck hyb.1,by omega,by omega⟩|exact ⟨XE.del hg,by omega,by omega⟩|exact ⟨XE.put hg,by omega,by omega⟩|exact ⟨XE.set hg hsk ⟨by have:=hys.1.1;omega,hys.1.2⟩,by omega,by omega⟩)⟩ (Ze.agg (.cons (Ze.forget _ _) (.cons (lr _) .nil))))))))))))))
  refine ak (X9 (W7 (Mv 5 2 b kk sk u1.v (.slice (some ⟨g1,0,none⟩) b.steps.length c1) hsk) (Z2 1 (ic [2] (Wn rd bs (((p+1)+1)+1) 4 (ZL:=ob)) ?_))))
  rintro _ _ ⟨k3,rfl,rfl,UK⟩
  refine ie (ab 0 (ar (YH (k3==0) Zq (fun ZC=>?_) (fun ZC=>?_))))
  ·exact aE 12 (ZH 9 12 [0,1,2] [3] (dx 3 (La 1 g1 b.steps.length c1 YJ 5 (Zp (Zv b.steps))) (ZH 5 8 [4,5,6] [3] (da 7 (((YJ+1:Nat):Int)) (((YJ:Int))+(1)) (dx 8 (PC 1 g1 b.steps.length c1 (YJ+1) 5 (Zp (Zv b.steps))) (Z9 9 (O1 9 1 [] [] g1 b.steps.length c1 YJ (YJ+1) 5 (Zp (Zv b.steps)) (VP _) (Zm 1 2 [10] (Z9 11 (YK 11 3 [] [] b3 [.ms g1 0 (YJ+(b.steps.length-(YJ+1))) c1,.i b.result] (de (ar (W7 (Mw 1 (.slice (some ⟨g1,0,none⟩) (YJ+(b.steps.length-(YJ+1))) c1) 5 (((Zp (Zv b.steps)).take (YJ*5))++((Zp (Zv b.steps)).drop ((YJ+1)*5))) (Zp (Zv (b.steps.take kk++b.steps.drop (kk+1)))) (by rw [hkn];exact Oz hkl)) (W7 (TB 0 0 0 (.slice (some ⟨g1,0,none⟩) (YJ+(b.steps.length-(YJ+1))) c1) 5 b3 (Zv (b.steps.take kk++b.steps.drop (kk+1))) [.ms g1 0 (YJ+(b.steps.length-(YJ+1))) c1,.i b.result] (Xe _) rfl) (ZO 1 [0] (ZI 4 b2 [X4 (b.steps.take kk++b.steps.drop (kk+1)) (.slice (some ⟨g1,0,none⟩) (YJ+(b.steps.length-(YJ+1))) c1),.i b.result] (ie (ZD (r3 [3] [.agg [X4 (b.steps.take kk++b.steps.drop (kk+1)) (.slice (some ⟨g1,0,none⟩) (YJ+(b.steps.length-(YJ+1))) c1),.i b.result]] [0] [(b2,b2)] ⟨(Z6.mk (b.steps.take kk++b.steps.drop (kk+1)) b.result),(((p+1)+1)+1)+1,rfl,rfl,(by first|exact ⟨XE.result hg _,by omega,by omega⟩|exact ⟨XE.kid hg hsk hck hyb.1,by omega,by omega⟩|exact ⟨XE.del hg,by omega,by omega⟩|exact ⟨XE.put hg,by omega,by omega⟩|exact ⟨XE.set hg hsk ⟨by have:=hys.1.1;omega,hys.1.2⟩,by omega,by omega⟩)⟩ (Ze.agg (.cons (Ze.forget _ _) (.cons (lr _) .nil))))))))))))))))))))))
  refine ar (YH (k3==1) Zq (fun Yg=>?_) (fun Yg=>?_))
  ·refine aD 10 (BV (TB 1 2 0 (.slice (some ⟨g1,0,none⟩) b.steps.length c1) 5 b3 (Zv b.steps) [.ms g1 0 b.steps.length c1,.i b.result] (Xe _) rfl) (ZH 6 10 [0,1,2,5] [0] (Z9 3 (dL 3 [0] [b3] (Z7 [14,15,15,16,17]) 5 1 fun v3=>Yw 5 5 [] [(102,Z5 [14,15,15,16,17])] (Z9 4 (dc 4 [3] [0] [b3] (Ue rd bs ((((p+1)+1)+1)+1) [14,15,15,16,17] (ZL:=ob)) ?_))))))
   rintro _ _ ⟨z2,rfl,rfl,Te⟩
   have hon:=Te
   simp only [YD,List.not_mem_nil,or_false] at hon
   refine Z9 6 (dc 6 [0] [0] [b3] (Wn rd bs (((((p+1)+1)+1)+1)+1) 4 (ZL:=ob)) ?_)
   rintro _ _ ⟨k4,rfl,rfl,Tf⟩
   exact Z9 7 (Yo 7 [] [1] [b3] (A4 z2 k4) (Yw 2 2 [] [(99,ZZ b)] (Z9 8 (Yo 8 [] [] [] (FT b YJ (Zu z2 k4)) (Z9 9 (YK 9 5 [] [] b2 (Xm (Z6.mk (WI b.steps YJ (Zu z2 k4)) b.result)) (de (ZD (r3 [1] [ZZ (Z6.mk (WI b.steps YJ (Zu z2 k4)) b.result)] [0] [(b2,b2)] ⟨(Z6.mk (WI b.steps YJ (Zu z2 k4)) b.result),(((((p+1)+1)+1)+1)+1)+1,rfl,rfl,(by first|exact ⟨XE.result hg _,by omega,by omega⟩|exact ⟨XE.kid hg hsk hck hyb.1,by omega,by omega⟩|exact ⟨XE.del hg,by omega,by omega⟩|exact ⟨XE.put hg,by omega,by omega⟩|exact ⟨XE.set hg hsk ⟨by have:=hys.1.1;omega,hys.1.2⟩,by omega,by omega⟩)⟩ (lr _))))))))))
  refine aE 12 (ZH 5 12 [0,1,2,3,4,5,6] [3,3] (dx 7 (Ww g1 b.steps.length c1 YJ 5 (YJ:Int)) (Uq 8 (VA 1 g1 b.steps.length c1 5 (YJ*5) (Zp (Zv b.steps)) (XG sk) 46 (YI sk) (by rw [hkn];exact Iy hsk)) (Z9 9 (dc 9 [0] [1] [b3] (OX rd bs ((((p+1)+1)+1)+1) sk (ZL:=ob)) ?_)))))
  rintro _ _ ⟨y2,p22,rfl,rfl,QG⟩
  have hys:=QG
  exact dx 10 (Ww g1 b.steps.length c1 YJ 5 (YJ:Int)) (Z9 11 (B5 11 1 [] [] g1 b.steps.length c1 5 (YJ*5) (XG y2) (Zp (Zv b.steps)) (Zp (Zv (b.steps.set kk y2))) (by rw [K9];simp only [YT,XA];omega) (by rw [hkn];exact FI hsk) (de (ar (W7 (TB 0 2 0 (.slice (some ⟨g1,0,none⟩) b.steps.length c1) 5 b3 (Zv (b.steps.set kk y2)) [.ms g1 0 b.steps.length c1,.i b.result] (Xe _) rfl) (ZO 1 [0] (ZI 4 b2 [X4 (b.steps.set kk y2) (.slice (some ⟨g1,0,none⟩) b.steps.length c1),.i b.result] (ie (ZD (r3 [3] [.agg [X4 (b.steps.set kk y2) (.slice (some ⟨g1,0,none⟩) b.steps.length c1),.i b.result]] [0] [(b2,b2)] ⟨(Z6.mk (b.steps.set kk y2) b.result),p22,rfl,rfl,(by first|exact ⟨XE.result hg _,by omega,by omega⟩|exact ⟨XE.kid hg hsk hck hyb.1,by omega,by omega⟩|exact ⟨XE.del hg,by omega,by omega⟩|exact ⟨XE.put hg,by omega,by omega⟩|exact ⟨XE.set hg hsk ⟨by have:=hys.1.1;omega,hys.1.2⟩,by omega,by omega⟩)⟩ (Ze.agg (.cons (Ze.forget _ _) (.cons (lr _) .nil)))))))))))))
 have Qq:¬((sk.kids.length:Int)>0):=Yh dq ZB
 refine Z0 (Wr (ak (X9 (W7 (Mv 5 2 b kk sk u1.v (.slice (some ⟨g1,0,none⟩) b.steps.length c1) hsk) (Z2 1 (ic [2] (Wn rd bs ((p+1)+1) 4 (ZL:=ob)) ?_))))))
 rintro _ _ ⟨k5,rfl,rfl,J6⟩
 refine ie (ab 0 (ar (YH (k5==0) Zq (fun Xf=>?_) (fun Xf=>?_))))
 ·exact aE 12 (ZH 9 12 [0,1,2] [3] (dx 3 (La 1 g1 b.steps.length c1 YJ 5 (Zp (Zv b.steps))) (ZH 5 8 [4,5,6] [3] (da 7 (((YJ+1:Nat):Int)) (((YJ:Int))+(1)) (dx 8 (PC 1 g1 b.steps.length c1 (YJ+1) 5 (Zp (Zv b.steps))) (Z9 9 (O1 9 1 [] [] g1 b.steps.length c1 YJ (YJ+1) 5 (Zp (Zv b.steps)) (VP _) (Zm 1 2 [10] (Z9 11 (YK 11 3 [] [] b3 [.ms g1 0 (YJ+(b.steps.length-(YJ+1))) c1,.i b.result] (de (ar (W7 (Mw 1 (.slice (some ⟨g1,0,none⟩) (YJ+(b.steps.length-(YJ+1))) c1) 5 (((Zp (Zv b.steps)).take (YJ*5))++((Zp (Zv b.steps)).drop ((YJ+1)*5))) (Zp (Zv (b.steps.take kk++b.steps.drop (kk+1)))) (by rw [hkn];exact Oz hkl)) (W7 (TB 0 0 0 (.slice (some ⟨g1,0,none⟩) (YJ+(b.steps.length-(YJ+1))) c1) 5 b3 (Zv (b.steps.take kk++b.steps.drop (kk+1))) [.ms g1 0 (YJ+(b.steps.length-(YJ+1))) c1,.i b.result] (Xe _) rfl) (ZO 1 [0] (ZI 4 b2 [X4 (b.steps.take kk++b.steps.drop (kk+1)) (.slice (some ⟨g1,0,none⟩) (YJ+(b.steps.length-(YJ+1))) c1),.i b.result] (ie (ZD (r3 [3] [.agg [X4 (b.steps.take kk++b.steps.drop (kk+1)) (.slice (some ⟨g1,0,none⟩) (YJ+(b.steps.length-(YJ+1))) c1),.i b.result]] [0] [(b2,b2)] ⟨(Z6.mk (b.steps.take kk++b.steps.drop (kk+1)) b.result),((p+1)+1)+1,rfl,rfl,(by first|exact ⟨XE.result hg _,by omega,by omega⟩|exact ⟨XE.kid hg hsk hck hyb.1,by omega,by omega⟩|exact ⟨XE.del hg,by omega,by omega⟩|exact ⟨XE.put hg,by omega,by omega⟩|exact ⟨XE.set hg hsk ⟨by have:=hys.1.1;omega,hys.1.2⟩,by omega,by omega⟩)⟩ (Ze.agg (.cons (Ze.forget _ _) (.cons (lr _) .nil))))))))))))))))))))))
 refine ar (YH (k5==1) Zq (fun Xo=>?_) (fun Xo=>?_))
 ·refine aD 10 (BV (TB 1 2 0 (.slice (some ⟨g1,0,none⟩) b.steps.length c1) 5 b3 (Zv b.steps) [.ms g1 0 b.steps.length c1,.i b.result] (Xe _) rfl) (ZH 6 10 [0,1,2,5] [0] (Z9 3 (dL 3 [0] [b3] (Z7 [14,15,15,16,17]) 5 1 fun v4=>Yw 5 5 [] [(102,Z5 [14,15,15,16,17])] (Z9 4 (dc 4 [3] [0] [b3] (Ue rd bs (((p+1)+1)+1) [14,15,15,16,17] (ZL:=ob)) ?_))))))
  rintro _ _ ⟨z3,rfl,rfl,KG⟩
  have hon:=KG
  simp only [YD,List.not_mem_nil,or_false] at hon
  refine Z9 6 (dc 6 [0] [0] [b3] (Wn rd bs ((((p+1)+1)+1)+1) 4 (ZL:=ob)) ?_)
  rintro _ _ ⟨k6,rfl,rfl,Bg⟩
  exact Z9 7 (Yo 7 [] [1] [b3] (A4 z3 k6) (Yw 2 2 [] [(99,ZZ b)] (Z9 8 (Yo 8 [] [] [] (FT b YJ (Zu z3 k6)) (Z9 9 (YK 9 5 [] [] b2 (Xm (Z6.mk (WI b.steps YJ (Zu z3 k6)) b.result)) (de (ZD (r3 [1] [ZZ (Z6.mk (WI b.steps YJ (Zu z3 k6)) b.result)] [0] [(b2,b2)] ⟨(Z6.mk (WI b.steps YJ (Zu z3 k6)) b.result),((((p+1)+1)+1)+1)+1,rfl,rfl,(by first|exact ⟨XE.result hg _,by omega,by omega⟩|exact ⟨XE.kid hg hsk hck hyb.1,by omega,by omega⟩|exact ⟨XE.del hg,by omega,by omega⟩|exact ⟨XE.put hg,by omega,by omega⟩|exact ⟨XE.set hg hsk ⟨by have:=hys.1.1;omega,hys.1.2⟩,by omega,by omega⟩)⟩ (lr _))))))))))
 refine aE 12 (ZH 5 12 [0,1,2,3,4,5,6] [3,3] (dx 7 (Ww g1 b.steps.length c1 YJ 5 (YJ:Int)) (Uq 8 (VA 1 g1 b.steps.length c1 5 (YJ*5) (Zp (Zv b.steps)) (XG sk) 46 (YI sk) (by rw [hkn];exact Iy hsk)) (Z9 9 (dc 9 [0] [1] [b3] (OX rd bs (((p+1)+1)+1) sk (ZL:=ob)) ?_)))))
 rintro _ _ ⟨y3,p23,rfl,rfl,JE⟩
 have hys:=JE
 exact dx 10 (Ww g1 b.steps.length c1 YJ 5 (YJ:Int)) (Z9 11 (B5 11 1 [] [] g1 b.steps.length c1 5 (YJ*5) (XG y3) (Zp (Zv b.steps)) (Zp (Zv (b.steps.set kk y3))) (by rw [K9];simp only [YT,XA];omega) (by rw [hkn];exact FI hsk) (de (ar (W7 (TB 0 2 0 (.slice (some ⟨g1,0,none⟩) b.steps.length c1) 5 b3 (Zv (b.steps.set kk y3)) [.ms g1 0 b.steps.length c1,.i b.result] (Xe _) rfl) (ZO 1 [0] (ZI 4 b2 [X4 (b.steps.set kk y3) (.slice (some ⟨g1,0,none⟩) b.steps.length c1),.i b.result] (ie (ZD (r3 [3] [.agg [X4 (b.steps.set kk y3) (.slice (some ⟨g1,0,none⟩) b.steps.length c1),.i b.result]] [0] [(b2,b2)] ⟨(Z6.mk (b.steps.set kk y3) b.result),p23,rfl,rfl,(by first|exact ⟨XE.result hg _,by omega,by omega⟩|exact ⟨XE.kid hg hsk hck hyb.1,by omega,by omega⟩|exact ⟨XE.del hg,by omega,by omega⟩|exact ⟨XE.put hg,by omega,by omega⟩|exact ⟨XE.set hg hsk ⟨by have:=hys.1.1;omega,hys.1.2⟩,by omega,by omega⟩)⟩ (Ze.agg (.cons (Ze.forget _ _) (.cons (lr _) .nil)))))))))))))
theorem Z8p (rd:Nat) (bs:LI) (p:Nat) (b:Z6) (ZL:∀z∈bs,0<=z/\z<=255) (hp:p+10*b.sz<=1000000000:=by exact ob) (hz:b.sz<=20000000:=by exact ob) (hg:b.rgb:=by exact ob):Zk 94 [.p rd 0,ZZ b] [Yy rd bs p] (fun r h=>∃(y:Z6) (p2:Nat),r=ZZ y/\h=[Yy rd bs p2]/\XE b y/\p<=p2/\p2<=p+(10*b.sz)):=by
 have key:∀k:Nat,∀(rd:Nat) (bs:LI) (p:Nat) (b2:Z6),(∀z∈bs,0<=z/\z<=255)->(p+(10*b2.sz)<=1000000000)->(b2.sz<=20000000)->(b2.rgb)->(b2.sz<k)->Zk 94 [.p rd 0,ZZ b2] [Yy rd bs p] (fun r h=>∃(y:Z6) (p2:Nat),r=ZZ y/\h=[Yy rd bs p2]/\XE b2 y/\p<=p2/\p2<=p+(10*b2.sz)):=by
  intro k
  induction k with
  | zero=>intro rd bs p b2 h1 h2 h3 h4 h5;omega
  | succ k ih=>
   intro rd bs p b2 h1 h2 h3 h4 h5
   by_cases h0:b2.steps.length=0
   ·exact Z8q rd bs p b2 h1 h2 h3 h4 h0
   ·exact Z8r rd bs p b2 h1 h2 h3 h4 om fun rd bs p b3 q1 q2 q3 q4 q5=>ih rd bs p b3 q1 q2 q3 q4 om
 exact key (b.sz+1) rd bs p b ZL hp hz hg om
theorem Z8s (rd:Nat) (bs:LI) (p:Nat) (n:Zi) (often:Nat) (q:Nat) (l:Nat) (ZL:∀z∈bs,0<=z/\z<=255) (hp:p+(10*q+20)<=1000000000:=by exact ob) (hzn:ZS n q l:=by exact ob) (hq:q<=9999000:=by exact ob) (hl:l<=100:=by exact ob) (ho:0<often:=by exact ob):Zk 42 [.p rd 0,Yq n,.i often] [Yy rd bs p] (fun r h=>∃(n2:Zi) (p2:Nat),r=Yq n2/\h=[Yy rd bs p2]/\ZS n2 (q+2) (l+1)/\p<=p2/\p2<=p+(10*q+20)):=by
 have hnl:=hzn.len
 refine ZF 64 Tryz.func42 (ar (iA (YU n) fun b1=>iA [nl,nl] fun b2=>ie (YO 2 (ic [2] (JX rd bs p often (ZL:=ob)) ?_))))
 rintro _ _ ⟨YJ,rfl,rfl,ZX⟩
 refine Y5 ((YJ:Int)>0) (fun Za=>?_) (fun Za=>?_)
 ·exact Zw 1 [2] (ZI 1 b2 (YU n) (ie (ZD (r3 [1] [Yq n] [0] [(b2,b2)] ⟨n,p+1,rfl,rfl,(by first|exact ⟨hzn.le om om,by omega,by omega⟩|exact ⟨hzn.set hx1k om om om om ⟨hz1.2.2.2,hzn.rb _ (ZW hx1k)⟩,by omega,by omega⟩|exact ⟨(hzn.le om om).ds had.1,by omega,by omega⟩|exact ⟨hzn.set hx2k om om om (by have:=hsb.1.1;omega) hsb.1.2,by omega,by omega⟩)⟩ (lr _)))))
 refine ak (Zw 3 [2] (iw (Ur n.routines) (ic [0] (JX rd bs (p+1) n.routines.length (ZL:=ob)) ?_)))
 rintro _ _ ⟨Xa,rfl,rfl,Yk⟩
 refine Z0 (YO 1 (ic [0] (Wn rd bs ((p+1)+1) 8 (ZL:=ob)) ?_))
 rintro _ _ ⟨k1,rfl,rfl,YG⟩
 refine ie (ab 0 (ar (YH (k1==0) Zq (fun Zg=>?_) (fun Zg=>?_))))
 ·refine aD 11 (ZH 6 11 [0,1,2,3,4] [2,2] ?_)
  obtain ⟨x1,Z3⟩:=Zs n.routines Xa om
  have hx1k:=Z3
  have hz1:=hzn.rt _ (ZW Z3)
  refine dx 5 (Zj none (Xa:Int) 5 (Wv Z3)) (Zm 3 5 [6,7] (J2 (fun fz gz F h=>∃(g1:Nat) (c1:Nat) (b3:Nat),F=sF [0,6,7] fz [(8,.p b3 0)]/\h=[.obj b3 [ZT n.decls,.ms g1 0 n.routines.length c1],.row (.slice (some ⟨g1,0,none⟩) n.routines.length c1) 5 (Zp (YQ (n.routines.set Xa (Y8.mk x1.params x1.lent x1.result x1.body)))),Zc gz 0,Zc gz 1,Zc gz 2]) ?_ ?_))
  ·refine VN 8 9 ?_ ?_
   ·refine dc 8 [] [] [] (IL n Xa x1.body x1 (hr:=Z3)) ?_
    rintro _ _ ⟨g1,c1,rfl,rfl⟩
    exact Z9 9 (dA 9 [] [] [nl,nl] fun b3=>Z9 10 (YK 10 0 [] [] b3 [ZT n.decls,.ms g1 0 n.routines.length c1] (de (ZP ⟨g1,c1,b3,rfl,rfl⟩ (ZG 5 fl)))))
   refine dA 9 [2,2] [b1,b1] [nl,nl] fun b4=>Z9 8 (dc 8 [] [] [] (IL n Xa x1.body x1 (hr:=Z3)) ?_)
   rintro _ _ ⟨g2,c2,rfl,rfl⟩
   exact Z9 10 (YK 10 1 [] [] b4 [ZT n.decls,.ms g2 0 n.routines.length c2] (de (ZP ⟨g2,c2,b4,rfl,rfl⟩ (ZG 5 fl))))
  rintro F h ⟨g1,c1,b3,rfl,rfl⟩
  refine aD 14 (ZH 7 14 [0,1,2,3,4,5,6] [0,0] (dx 7 (Ww g1 n.routines.length c1 Xa 5 (Xa:Int)) (Zm 5 6 [8] (Uq 9 (VA 1 g1 n.routines.length c1 5 (Xa*5+1) (Zp (YQ (n.routines.set Xa (Y8.mk x1.params x1.lent x1.result x1.body)))) [Z5 x1.lent] 31 (Z5 x1.lent) (Z6u om _)) (Z9 10 (dc 10 [2] [0] [b3] (Z8t rd bs (((p+1)+1)+1) x1.lent (ZL:=ob)) ?_))))))
  rintro _ _ ⟨zs1,p21,rfl,rfl,YR⟩
  have hsi:=YR
  exact dx 11 (Ww g1 n.routines.length c1 Xa 5 (Xa:Int)) (Zm 1 2 [12] (Z9 13 (B5 13 2 [] [] g1 n.routines.length c1 5 (Xa*5+1) [Z5 zs1] (Zp (YQ (n.routines.set Xa (Y8.mk x1.params x1.lent x1.result x1.body)))) (Zp (YQ (n.routines.set Xa (Y8.mk x1.params zs1 x1.result x1.body)))) (by rw [CO,Vc];simp only [YT,XA];omega) (Z6v om _ _) (de (ar (W7 (TB 0 1 1 (.slice (some ⟨g1,0,none⟩) n.routines.length c1) 5 b3 (YQ (n.routines.set Xa (Y8.mk x1.params zs1 x1.result x1.body))) [ZT n.decls,.ms g1 0 n.routines.length c1] (UV _) rfl) (ZO 1 [0] (ZI 3 b2 [ZT n.decls,WT (n.routines.set Xa (Y8.mk x1.params zs1 x1.result x1.body)) (.slice (some ⟨g1,0,none⟩) n.routines.length c1)] (ie (ZD (r3 [3] [.agg [ZT n.decls,WT (n.routines.set Xa (Y8.mk x1.params zs1 x1.result x1.body)) (.slice (some ⟨g1,0,none⟩) n.routines.length c1)]] [0] [(b2,b2)] ⟨(Zi.mk n.decls (n.routines.set Xa (Y8.mk x1.params zs1 x1.result x1.body))),p21,rfl,rfl,(by first|exact ⟨hzn.le om om,by omega,by omega⟩|exact ⟨hzn.set hx1k om om om om ⟨hz1.2.2.2,hzn.rb _ (ZW hx1k)⟩,by omega,by omega⟩|exact ⟨(hzn.le om om).ds had.1,by omega,by omega⟩|exact ⟨hzn.set hx2k om om om (by have:=hsb.1.1;omega) hsb.1.2,by omega,by omega⟩)⟩ (Ze.agg (.cons (lr _) (.cons (Ze.forget _ _) .nil))))))))))))))
 refine ar (YH (k1==1) Zq (fun ZC=>?_) (fun ZC=>?_))
 ·refine aD 6 (ZH 3 6 [0,2,3] [2] (Z9 1 (dc 1 [0] [1] [b1] (Z71 rd bs (((p+1)+1)+1) (ZL:=ob)) ?_)))
  rintro _ _ ⟨dz1,p22,rfl,rfl,Xl⟩
  have had:=Xl
  exact Zm 1 2 [4] (Z9 5 (YK 5 1 [] [] b2 [ZT dz1,KJ n.routines] (de (ZD (r3 [1] [.agg [ZT dz1,KJ n.routines]] [0] [(b2,b2)] ⟨(Zi.mk dz1 n.routines),p22,rfl,rfl,(by first|exact ⟨hzn.le om om,by omega,by omega⟩|exact ⟨hzn.set hx1k om om om om ⟨hz1.2.2.2,hzn.rb _ (ZW hx1k)⟩,by omega,by omega⟩|exact ⟨(hzn.le om om).ds had.1,by omega,by omega⟩|exact ⟨hzn.set hx2k om om om (by have:=hsb.1.1;omega) hsb.1.2,by omega,by omega⟩)⟩ (lr _))))))
 refine ak (aD 12 (ZH 6 12 [0,1,2,3,4,5] [2,2] ?_))
 obtain ⟨x2,Zx⟩:=Zs n.routines Xa om
 have hx2k:=Zx
 have hz2:=hzn.rt _ (ZW Zx)
 refine dx 6 (Zj none (Xa:Int) 5 (Wv Zx)) (Zm 3 5 [7,8] (Z9 9 (dc 9 [0] [1] [b1] (Z8p rd bs (((p+1)+1)+1) x2.body (ZL:=ob) (hg:=⟨hz2.2.2.2,hzn.rb _ (ZW hx2k)⟩)) ?_)))
 rintro _ _ ⟨y1,p23,rfl,rfl,W2⟩
 have hsb:=W2
 exact Z9 10 (Yo 10 [] [] [] (OY n Xa y1 x2 (hr:=Zx)) (Z9 11 (YK 11 1 [] [] b2 (YU (withR n Xa x2 y1)) (de (ZD (r3 [1] [Yq (withR n Xa x2 y1)] [0] [(b2,b2)] ⟨(withR n Xa x2 y1),p23,rfl,rfl,(by first|exact ⟨hzn.le om om,by omega,by omega⟩|exact ⟨hzn.set hx1k om om om om ⟨hz1.2.2.2,hzn.rb _ (ZW hx1k)⟩,by omega,by omega⟩|exact ⟨(hzn.le om om).ds had.1,by omega,by omega⟩|exact ⟨hzn.set hx2k om om om (by have:=hsb.1.1;omega) hsb.1.2,by omega,by omega⟩)⟩ (lr _)))))))
theorem Z3y (xs:LI) (hl_xs:xs.length<=4294967296:=by exact ob):Zk 97 [Z5 xs] [] (fun r h=>∃(v:Value),r=ZQ xs v/\h=[.tail v 1]):=by
 refine ZF 8 Tryz.func97 (ZE (YO 1 (iN (Z7 xs) (fun hz1=>?_) ?_)))
 ·have hz1:=Il hz1
  exact ie (Wc (ZE (KX 1 (ZD (r2 [0] [nl] ⟨(.slice none 0 0),rfl,rfl⟩ (Ze.slh _ (by first|rfl|(subst_vars;rfl))))))))
 exact ie (Wr (ak (ar (iL (Z7 []) 0 1 fun v1=>Z2 1 (ip 0 (Z7 xs) (Z7 []) (Z7 xs) v1 none 1 (YC _) (YC _) (We _) (by simp<;>omega) (by simp [Z7]) fun v2=>Zr (r1 [0] ⟨v2,rfl,rfl⟩))))))
theorem DN (xs:LI) (hl_xs:xs.length<=4294967296:=by exact ob):Zk 97 [Z5 xs] [] (fun r h=>∃(v:Hd),r=.h v/\h=[rV v xs]):=by
 refine ZF 8 Tryz.func97 (ZE (YO 1 (iN (Z7 xs) (fun hz1=>?_) ?_)))
 ·have hz1:=Il hz1
  exact ie (Wc (ZE (EU JG (ZD (r2 [0] [nl] ⟨hN,rfl,rfl⟩ (Ze.hd (v:=hN)) (eq:=(rv (xs:=[]) ob rz)))))))
 exact ie (Wr (ak (ar (Pa [] 0 fun v1=>Z2 1 (Kc 0 v1 [] xs none fun v2=>Zr (r1 [0] ⟨v2,rfl,rfl⟩ (eq:=(rv (xs:=([]++xs)) ob rz))))))))
theorem Zf2 (xs:LI) (i:Int) (hl_xs:xs.length<=4294967296:=by exact ob):Zk 183 [Z5 xs,.i i] [] (Ys (.i (G7 xs i))):=by
 refine ZF 19 Tryz.func183 (ZE (YO 1 (iw (Yf xs) (Z0 (ab 0 (Y6 (fun fz gz m F h=>∃(k:Nat),(k<=xs.length)/\(JZ i (xs.drop k) k=G7 xs i)/\F=sF [0,1,7] fz [(8,.i k)]/\h=gz/\m=xs.length-k) _ _ _ ⟨0,ob,(by rfl),rfl,rfl,rfl⟩ (wk [] (Yd fl)) ?_))))))
 rintro m F h ⟨k,Yj,Zl,rfl,rfl,rfl⟩
 refine ZE (aq (W9 ((k:Int)<(xs.length:Int)) (fun Za=>?_) (fun Za=>?_)))
 ·refine ak (aq (ab 1 (ZE (Ya 3 ?_))))
  obtain ⟨x1,Z3⟩:=Zs xs k om
  refine Zo (Zj none (k:Int) 1 (Y3 Z3)) (YH (i==x1) Zq (fun Zg=>?_) (fun Zg=>?_))
  ·refine ZE ?_
   rw [Y9 Z3] at Zl
   exact ZD (Y4 (.i k) (li (by clear Z3;first|rfl|omega|grind [JZ])))
  refine ak (az (ZJ k (Z0 ?_)))
  have hdr:=Y9 Z3
  exact ZK ⟨k+1,ob,(by rw [hdr] at Zl;clear hdr Z3;grind [JZ]),rfl,rfl,rfl⟩ (wk [] (ZM k fl))
 refine ax 0 (ZE ?_)
 try rw [Xn (xs:=xs) (k:=k) om] at Zl
 exact ZD (Y4 (.i (-1)) (li (by first|rfl|omega|grind [JZ])))
theorem Mi (xs:LI) (i:Int) (hl_xs:xs.length<=4294967296:=by exact ob):Zk 128 [Z5 xs,.i i] [] (Ys (.b (decide (i∈xs)))):=by
 exact ZF 9 Tryz.func128 (ZE (Ya 2 (Zz [] (Zf2 xs i) (Zr (Y4 (.b (decide ((G7 xs i)>=0))) (lb (Za9 xs i)))))))
theorem Ci (xs:LI) (ys:LI) (hl_xs:xs.length<=4294967296:=by exact ob) (hl_ys:ys.length<=4294967296:=by exact ob):Zk 227 [Z5 xs,Z5 ys] [] (Ys (.b (decide (xs=ys)))):=by
 refine ZF 26 Tryz.func227 (ZE (YO 1 (iw (Yf xs) (Z2 1 (iw (Yf ys) (YH ((xs.length:Int) != (ys.length:Int)) Ym (fun Za=>?_) (fun Za=>?_)))))))
 ·exact ar (Zr (Y4 (.b false) (lb (eq_comm.1 (decide_eq_false (fun q=>by rw [q] at Za;exact Za rfl))))))
 refine ak (YO 1 (iw (Yf xs) (Z0 (ab 0 (Y6 (fun fz gz m F h=>∃(k:Nat),(k<=xs.length)/\(xs.take k=ys.take k)/\F=sF [0,1,12] fz [(13,.i k)]/\h=gz/\m=xs.length-k) _ _ _ ⟨0,ob,ob,rfl,rfl,rfl⟩ (wk [] (Yd fl)) ?_)))))
 rintro m F h ⟨k,Yj,Zl,rfl,rfl,rfl⟩
 refine ZE (aq (W9 ((k:Int)<(xs.length:Int)) (fun Zg=>?_) (fun Zg=>?_)))
 ·refine ak (aq (ab 1 (ZE (aD 9 (Zm 7 9 [0,1] ?_)))))
  obtain ⟨x1,Z3⟩:=Zs xs k om
  refine dx 2 (Zj none (k:Int) 1 (Y3 Z3)) (Zm 3 6 [3,4,5] ?_)
  obtain ⟨x2,Zx⟩:=Zs ys k om
  refine dx 6 (Zj none (k:Int) 1 (Y3 Zx)) (Zm 0 2 [7,8] (de (ac (x1 != x2) Ym (fun ZC=>?_) (fun ZC=>?_))))
  ·exact ar (Zr (Y4 (.b false) (lb (eq_comm.1 (decide_eq_false (fun q=>by subst q;rw [Z3] at Zx;cases Zx;exact ZC rfl))))))
  refine ak (az (ZJ k (Z0 ?_)))
  have hdr:=Y9 Z3
  exact ZK ⟨k+1,ob,(by rw [Vl Z3,Vl Zx,Zl];have hxx:x1=x2:=om;rw [hxx]),rfl,rfl,rfl⟩ (wk [] (ZM k fl))
 exact ax 0 (ar (Zr (Y4 (.b true) (lb (eq_comm.1 (decide_eq_true (by rw [Vt om,Vt om] at Zl;exact Zl)))))))
theorem Zf1 (m:Nat) (hm:m<=4294967296:=by exact ob):Zk 269 [nl,.i m] [] (fun r h=>∃(v:Hd),r=.h v/\h=[rV v []]):=by
 refine ZF 27 Tryz.func269 (EU JG (BS (F':=[(0,.h hN),(1,.i m)]) (h':=[rV hN []]) (wk [0] (fc (x:=nl) (Ze.hd (v:=hN)) ( fc (x:=.i m) (lr _) (OF _)))) (ZE (X9 (Y5 ((m:Int)<0) (fun Za=>?_) (fun Za=>?_))))))
 ·exfalso;omega
 refine ak (YO 2 (Zo (XD.le (Z0e hN) (li (by rfl))) (Z2 1 (Zo (XD.le (KQ 0 hN []) (li (by rfl))) (ia ((0-0)) ((0)-(0)) (ia ((m:Int)) (((m:Int))-((0-0))) (Z0 (ar (Y5 ((m:Int)>0) (fun Zg=>?_) (fun Zg=>?_))))))))))
 ·exact az (Z2 2 (Zo (XD.le (Z0e hN) (li (by rfl))) (Zo (Kr 0 hN [] 0) (Z2 1 (iZ m fun v1=>Z2 1 (Zo (XD.le (KQ 1 hN []) (li (by rfl))) (Zo (Kr 0 v1 (List.replicate m 0) 0) (Z0 (ZE (EU (Cl 0 0 v1 (List.replicate m 0)) (ZD (r1 [0] ⟨(v1.cut 0),rfl,rfl⟩ (eq:=(rv (xs:=((List.replicate m 0).take 0)) ob rz))))))))))))))
 exact ak (ar (Zr (r1 [0] ⟨hN,rfl,rfl⟩)))
theorem Zf0 (xss:List LI) (hl_xss:xss.length<=4294967296:=by exact ob) (hf:xss.flatten.length<=4294967296:=by exact ob):Zk 226 [Kf xss] [] (fun r h=>∃(v:Value),r=ZQ xss.flatten v/\h=[.tail v 1]):=by
 have hft:=OE xss
 refine ZF 36 Tryz.func226 (ZE (ZE (YO 1 (iw (Fx xss) (Z0 (ab 0 (Y6 (fun fz gz m F h=>∃(k:Nat) (q:Nat),(k<=xss.length)/\(q=(xss.take k).flatten.length)/\F=sF [0,9,10] fz [(3,.i q),(11,.i k)]/\h=gz/\m=xss.length-k) _ _ _ ⟨0,0,ob,(by simp),rfl,rfl,rfl⟩ (wk [] (Yd (Yd fl))) ?_)))))))
 rintro m F h ⟨k,q,Yj,Zl,rfl,rfl,rfl⟩
 refine ZE (aq (W9 ((k:Int)<(xss.length:Int)) (fun Za=>?_) (fun Za=>?_)))
 ·refine ak (aq (ab 1 (ar ?_)))
  obtain ⟨x1,Z3⟩:=Zs xss k om
  refine Zo (Zj none (k:Int) 1 (B7 Z3)) (Z0 (Ya 2 (iw (Yf x1) (ia (((q+x1.length:Nat):Int)) (((q:Int))+((x1.length:Int))) (hb:=(by have:=OD Z3;omega)) (Z0 (ar (Y5 (((q+x1.length:Nat):Int)<0) (fun Zg=>?_) (fun Zg=>?_))))))))
  ·exfalso;omega
  refine ak (az (ZJ k (Z0 ?_)))
  have hdr:=Y9 Z3
  exact ZK ⟨k+1,q+x1.length,ob,(by rw [Iz Z3,Yt,Zl]),rfl,rfl,rfl⟩ (wk [] (fc (x:=.i (q+x1.length:Nat)) li (ZM k fl)))
 refine ax 0 (Ya 1 (ic [] (Zf1 q (hm:=(by have:=hft k;omega))) ?_))
 rintro _ _ ⟨v1,rfl,rfl⟩
 refine Z0 (YO 1 (iw (Fx xss) (Z0 (ab 2 (Y6 (fun fz gz m F h=>∃(j:Nat) (v:Hd),(j<=xss.length)/\F=sF [25,26] fz [(6,.h v),(27,.i j)]/\h=[rV v ((xss.take j).flatten)]/\m=xss.length-j) _ _ _ ⟨0,v1,ob,rfl,rfl,rfl⟩ (wk [0] (fr (Yd fl)) (e:=(rv (xs:=[]) ob rz))) ?_)))))
 rintro m F h ⟨j,v,Up,rfl,rfl,rfl⟩
 refine ZE (aq (W9 ((j:Int)<(xss.length:Int)) (fun ZC=>?_) (fun ZC=>?_)))
 ·refine ak (aq (ab 3 (ar ?_)))
  obtain ⟨x2,Zx⟩:=Zs xss j om
  refine Zo (Zj none (j:Int) 1 (B7 Zx)) (Z0 (az (Z2 2 (Kc 0 v ((xss.take j).flatten) x2 none (hbound:=(by have:=OD Zx;omega)) fun v2=>Z0 (az (ZJ j (Z0 ?_)))))))
  have hdr:=Y9 Zx
  exact ZK ⟨j+1,v2,ob,rfl,rfl,rfl⟩ (wk [0] (fr (ZM j fl)) (e:=(rv (xs:=((xss.take j).flatten++x2)) (Iz Zx).symm rz)))
 exact ax 2 (ZE (ET 2 0 (v:=v) (xs:=(xss.take j).flatten) (ZD (r2 [0] [ZQ ((xss.take j).flatten) v.v] ⟨v.v,rfl,rfl⟩ (Ze.slh _ (Yp Z7 (by rw [Vt om])))))))
theorem G6 (ds:List Zf) (t:Int) (hl_ds:ds.length<=4294967296:=by exact ob):Zk 160 [ZT ds,.i t] [] (fun r h=>r=.b (decide (0<=t/\t<=ds.length))/\h=[]):=by
 refine ZF 13 Tryz.func160 (ZE (ar (XU 8 [] [(12,.b ((decide (t>=0))&&(decide (t<=(ds.length:Int)))))] (fun gz=>gz) ?_ (fun hj1=>?_))))
 ·exact Zr (Y4 (.b ((decide (t>=0))&&(decide (t<=(ds.length:Int))))) (lb (by rw [Xx];simp)))
 refine Z2 3 (ib (b:=(decide (t>=0))) 7 (fun Zb=>?_) (fun Zb=>?_))
 ·exact Z2 2 (iw (UJ ds) (Z2 2 (YB (wk [] (Zt (decide (t<=(ds.length:Int))) Zb fl)) hj1)))
 exact Z2 5 (YB (wk [] (Zt false Zb fl)) hj1)
theorem Pd (ds:List Zf) (xs:LI) (hl_ds:ds.length<=4294967296:=by exact ob) (hl_xs:xs.length<=4294967296:=by exact ob):Zk 159 [ZT ds,Z5 xs] [] (Ys (.b (Ws ds.length xs))):=by
 refine ZF 18 Tryz.func159 (ZE (YO 1 (iw (Yf xs) (Z0 (ab 0 (Y6 (fun fz gz m F h=>∃(k:Nat),(k<=xs.length)/\(Ws ds.length (xs.drop k)=Ws ds.length xs)/\F=sF [0,7,8] fz [(9,.i k)]/\h=gz/\m=xs.length-k) _ _ _ ⟨0,ob,ob,rfl,rfl,rfl⟩ (wk [] (Yd fl)) ?_))))))
 rintro m F h ⟨k,Yj,Zl,rfl,rfl,rfl⟩
 refine ZE (aq (W9 ((k:Int)<(xs.length:Int)) (fun Za=>?_) (fun Za=>?_)))
 ·refine ak (aq (ab 1 (ar ?_)))
  obtain ⟨x1,Z3⟩:=Zs xs k om
  refine Zo (Zj none (k:Int) 1 (Y3 Z3)) (Z0 (Ya 2 (Zz [] (G6 ds x1) (YH (!(decide (0<=x1/\x1<=ds.length))) (p:=¬(0<=x1/\x1<=ds.length)) (YA dq) (fun Zg=>?_) (fun Zg=>?_)))))
  ·refine ZE ?_
   rw [Y9 Z3] at Zl
   exact ZD (Y4 (.b false) (lb (by clear Z3;first|rfl|omega|grind [Ws])))
  refine ak (az (ZJ k (Z0 ?_)))
  have hdr:=Y9 Z3
  exact ZK ⟨k+1,ob,(by rw [hdr] at Zl;clear hdr Z3;grind [Ws]),rfl,rfl,rfl⟩ (wk [] (ZM k fl))
 refine ax 0 (ZE ?_)
 try rw [Xn (xs:=xs) (k:=k) om] at Zl
 exact ZD (Y4 (.b true) (lb (by first|rfl|omega|grind [Ws])))
theorem Za0 (ds:List Zf) (hd:WC ds:=by exact ob):Zk 212 [ZT ds] [] (Ys (.i (YP ds:Nat))):=by
 have hdl:=hd.len
 refine ZF 19 Tryz.func212 (ZE (ZE (YO 1 (iw (UJ ds) (Z0 (ab 0 (Y6 (fun fz gz m F h=>∃(k:Nat),(k<=ds.length)/\F=sF [6,7] fz [(3,.i ((YP (ds.take k):Nat):Int)),(8,.i k)]/\h=gz/\m=ds.length-k) _ _ _ ⟨0,ob,rfl,rfl,rfl⟩ (wk [] (Yd (Yd fl))) ?_)))))))
 rintro m F h ⟨k,Yj,rfl,rfl,rfl⟩
 refine ZE (aq (W9 ((k:Int)<(ds.length:Int)) (fun Za=>?_) (fun Za=>?_)))
 ·refine ak (aq (ab 1 (ar ?_)))
  obtain ⟨x1,Z3⟩:=Zs ds k om
  refine Zo (Zj none (k:Int) 3 (VZ Z3)) (Z2 1 (iA [.i 0,.i 0,nl] fun b1=>ZI 0 b1 (Ke x1) (ie (az (ZO 3 [0] (iw (Ta x1.cons) (ia (((YP (ds.take k)+x1.cons.length:Nat):Int)) ((((YP (ds.take k):Nat):Int))+((x1.cons.length:Int))) (hb:=(by have h1:=hd.cons_at Z3;have h2:=(hd.take k).sum;omega)) (Z0 (az (ZJ k (Z0 ?_)))))))))))
  have hdr:=Y9 Z3
  exact ZK ⟨k+1,ob,rfl,rfl,rfl⟩ (wk [] (fc (x:=.i ((YP (ds.take k)+x1.cons.length:Nat):Int)) (li (by rw [Vl Z3,DO];simp [YP])) (ZM k fl)))
 exact ax 0 (ar (Zr (Y4 (.i ((YP (ds.take k):Nat):Int)) (li (by rw [Vt om])))))
theorem Pf (ds:List Zf) (c:Int) (hd:WC ds:=by exact ob) (hc:-9223372036854775808<=c/\c<=9223372036854775807:=by exact ob):Zk 213 [ZT ds,.i c] [] (Ys (.tup [.i (Wm ds c),.agg [Z5 (ZV ds c)]])):=by
 have hdl:=hd.len
 refine ZF 38 Tryz.func213 (Ya 1 (iA [nl] fun b1=>?_))
 refine ie (YO 1 (iw (UJ ds) (Z0 (ab 0 (Y6 (fun fz gz m F h=>∃(k:Nat) (cv:Int),(k<=ds.length)/\(AS c (YP (ds.take k)) cv)/\(Tn c (ds.drop k) k (YP (ds.take k))=Tn c ds 0 0)/\F=sF [5,8,9] fz [(1,.i cv),(10,.i k)]/\h=gz/\m=ds.length-k) _ _ _ ⟨0,c,ob,(.inl (by simp [YP])),rfl,rfl,rfl,rfl⟩ (wk [0] (fr (Yd fl))) ?_)))))
 rintro m F h ⟨k,cv,Yj,Zl,Zy,rfl,rfl,rfl⟩
 refine ZE (aq (W9 ((k:Int)<(ds.length:Int)) (fun Za=>?_) (fun Za=>?_)))
 ·refine ak (aq (ab 1 (Ya 1 ?_)))
  obtain ⟨x1,Z3⟩:=Zs ds k om
  refine Zo (Zj none (k:Int) 3 (VZ Z3)) (Z2 1 (iA [.i 0,.i 0,nl] fun b2=>Z2 1 (ZI 0 b2 (Ke x1) (ie (X9 (Xv [1,5,6,7,8,9,10] [(23,.b ((decide (cv>=0))&&(decide (cv<(x1.cons.length:Int)))))] (fun gz=>gz) ?_ ?_))))))
  ·refine Z2 3 (ib (b:=(decide (cv>=0))) 17 (fun Zb=>?_) (fun Zb=>?_))
   ·exact ZO 3 [0] (iw (Ta x1.cons) (Z0 (wk [0,0] (Zt (decide (cv<(x1.cons.length:Int))) Zb fl))))
   exact Z0 (wk [0,0] (Zt false Zb fl))
  refine ac ((decide (cv>=0))&&(decide (cv<(x1.cons.length:Int)))) (p:=(cv>=0)/\(cv<(x1.cons.length:Int))) (YL dq dq) (fun Zg=>?_) (fun Zg=>?_)
  ·refine aD 9 (Zm 8 9 [0] (da 1 (((k+1:Nat):Int)) (((k:Int))+(1)) (ZH 4 7 [2,3,4] [0] ?_)))
   obtain ⟨x2,Zx⟩:=Zs x1.cons cv.toNat om
   refine dx 5 (Zj none cv 1 (CF Zx)) (Zm 1 3 [6,7] (Z9 8 (YK 8 1 [] [] b1 (PV x2) (de ?_))))
   have hz:=(hd.take k).sum
   have h3:=hd.cons_at Z3
   have hH:=Zy.symm.trans (Z4j Z3 Zl om h3 hc.1 Zg Zx)
   exact ZD (r3 [] [.i (k+1:Nat),DE x2] [0] [(b1,b1)] ⟨rfl,rfl⟩ (Ze.tup (.cons (li (by rw [Wm,hH];omega)) (.cons (Ze.agg (.cons (Ze.sl _ (Yp Z7 (by rw [ZV,hH]))) .nil)) .nil))))
  refine ak (az (ZO 3 [0] (iw (Ta x1.cons) (iW ((cv)-((x1.cons.length:Int))) (Z0 (az (ZJ k (Z0 ?_))))))))
  have hdr:=Y9 Z3
  exact ZK ⟨k+1,(Cq ((cv)-((x1.cons.length:Int)))),ob,(by have hz:=(hd.take k).sum;have h3:=hd.cons_at Z3;rw [Vl Z3,DO];simpa [YP] using Z2x Zl om h3 hc),(Z4h Z3 Zl Zg Zy),rfl,rfl,rfl⟩ (wk [1] (fr (ZM k fl)))
 refine ax 0 (Ya 2 (ZI 0 b1 [nl] (ie ?_)))
 have hH:Tn c ds 0 0=(-1,[]):=by rw [<-Zy,Xn om];rfl
 exact ZD (r3 [] [.i (-1),.agg [nl]] [0] [(b1,b1)] ⟨rfl,rfl⟩ (Ze.tup (.cons (li (by rw [Wm,hH])) (.cons (Ze.agg (.cons (Ze.sl _ (by rw [ZV,hH];rfl)) .nil)) .nil))))
theorem Za4 (ds:List Zf) (c:Int) (hd:WC ds:=by exact ob) (hc:-9223372036854775808<=c/\c<=9223372036854775807:=by exact ob):Zk 164 [ZT ds,.i c] [] (Ys (Z5 (ZV ds c))):=by
 exact ZF 15 Tryz.func164 (ZE (Ya 2 (Zz [] (Pf ds c) (Z2 3 (iA [nl] fun b1=>Z2 1 (ZI 0 b1 [Z5 (ZV ds c)] (ie (Bc [0] (ZD (Dr))))))))))
theorem Za1 (ds:List Zf) (t:Int) (hd:WC ds:=by exact ob):Zk 163 [ZT ds,.i t] [] (Ys (Z5 (ZY ds t))):=by
 have hdl:=hd.len
 refine ZF 39 Tryz.func163 (ZE (X9 (Xv [0,1] [(15,.b ((decide (t<1))||(decide (t>(ds.length:Int)))))] (fun gz=>gz) ?_ ?_)))
 ·refine Z2 3 (ib (b:=(decide (t<1))) 10 (fun Zb=>?_) (fun Zb=>?_))
  ·exact Z0 (wk [] (Zt true Zb fl))
  exact Z2 2 (iw (UJ ds) (Z0 (wk [] (Zt (decide (t>(ds.length:Int))) Zb fl))))
 refine ac ((decide (t<1))||(decide (t>(ds.length:Int)))) (p:=(t<1)∨(t>(ds.length:Int))) (Yr dq dq) (fun Za=>?_) (fun Za=>?_)
 ·exact ar (Zr (Y4 (nl) (Ze.sl _ (by rw [ZY,Z8 om];rfl))))
 have hti:1<=t/\t<=ds.length:=by omega
 obtain ⟨d,hd1⟩:=Zs ds ((t-1).toNat) om
 have hdc:=hd.cons_at hd1
 have hsm:=(hd.take (t-1).toNat).sum
 refine ak (Ya 2 (ia ((((t-1).toNat:Nat):Int)) ((t)-(1)) (Zo (Ko (es:=X8 ds) (hv:=none) (l:=0) (m:=(((t-1).toNat:Nat):Int)) (sz:=3) (es':=X8 (ds.take ((t-1).toNat))) kr om (by simp<;>omega) (by simp<;>omega) (Jy _) (by first|(simp only [Vm,V6,CH,CG];done)|(simp only [Vm,V6,CH,CG];rfl)|(simp [CH,CG];done))) (Zz [] (Za0 (ds.take ((t-1).toNat)) (hd:=(hd.take _))) (Z0 (ZE (YO 2 (ia ((((t-1).toNat:Nat):Int)) ((t)-(1)) (Zo (Zj none (((t-1).toNat:Nat):Int) 3 (VZ hd1)) (Z2 2 (iw (Ta d.cons) (Z0 (ab 0 (KX 1 (Y6 (fun fz gz m F h=>∃(k:Nat) (v:Value),(k<=d.cons.length)/\F=sF [5,27] fz [(6,ZQ (VJ (YP (ds.take (t-1).toNat)) k) v),(28,.i k)]/\h=[.tail v 1]/\m=d.cons.length-k) _ _ _ ⟨0,(.slice none 0 0),ob,rfl,rfl,rfl⟩ (wk [0] (fc (x:=nl) (Ze.slh _ rfl) (Yd fl))) ?_)))))))))))))))
 rintro m F h ⟨k,v,Yj,rfl,rfl,rfl⟩
 refine ZE (aq (W9 ((k:Int)<(d.cons.length:Int)) (fun Zg=>?_) (fun Zg=>?_)))
 ·exact ak (aq (ab 1 (ZE (az (Z2 3 (ia ((((YP (ds.take ((t-1).toNat)))+k:Nat):Int)) ((((YP (ds.take ((t-1).toNat)):Nat):Int))+((k:Int))) (iL (Z7 [(((YP (ds.take ((t-1).toNat)))+k:Nat):Int)]) 1 1 fun v1=>ZU 0 [(35,Z5 [(((YP (ds.take ((t-1).toNat)))+k:Nat):Int)])] (ip 1 (Z7 (VJ (YP (ds.take (t-1).toNat)) k++[(((YP (ds.take ((t-1).toNat)))+k:Nat):Int)])) (Z7 (VJ (YP (ds.take (t-1).toNat)) k)) (Z7 [(((YP (ds.take ((t-1).toNat)))+k:Nat):Int)]) v none 1 (YC _) (YC _) (We _) (by simp;omega) (by simp [Wd,Z7]) fun v2=>Z0 (az (ZJ k (Z0 (ZK ⟨k+1,v2,ob,rfl,rfl,rfl⟩ (wk [0] (fc (x:=ZQ (VJ (YP (ds.take (t-1).toNat)) k++[(((YP (ds.take ((t-1).toNat)))+k:Nat):Int)]) v2) (Ze.slh _ (Yp Z7 (Rt _ _).symm)) (ZM k fl)))))))))))))))
 exact ax 0 (ar (Zr (Y4 (ZQ (VJ (YP (ds.take (t-1).toNat)) k) v) (Ze.sl _ (Yp Z7 (by rw [ZY,Zd hti,hd1,show k=d.cons.length by omega];rfl))))))
theorem G5 (ds:List Zf) (t:Int) (hd:WC ds:=by exact ob):Zk 180 [ZT ds,.i t] [] (Ys (.tup [BR (VW ds t),.b (W8 ds t)])):=by
 have hdl:=hd.len
 refine ZF 30 Tryz.func180 (ar (iA [.i 0,.i 0,nl] fun b1=>Z0 (X9 (XU 8 [0,1,4] [(13,.b ((decide (t<1))||(decide (t>(ds.length:Int)))))] (fun gz=>gz) ?_ (fun hj1=>?_)))))
 ·refine Z2 1 (ib (b:=((decide (t<1))||(decide (t>(ds.length:Int))))) 14 (fun Zb=>?_) (fun Zb=>?_))
  ·have ZX:(t<1)∨(t>(ds.length:Int)):=((Yr dq dq)).1 Zb
   refine Z0 (Wc (Ya 1 (ZI 0 b1 [.i 0,.i 0,nl] (Z0 ?_))))
   have hA:W8 ds t=false:=(L5 om).symm
   have hD:VW ds t=⟨0,0,[]⟩:=by rw [VW,hA];rfl
   exact ZD (r3 [] [.agg [.i 0,.i 0,nl],.b false] [0] [(b1,b1)] ⟨rfl,rfl⟩ (Ze.tup (.cons (Ze.agg (.cons (li (by rw [hD])) (.cons (li (by rw [hD])) (.cons (Ze.sl _ (by rw [hD];rfl)) .nil)))) (.cons (lb (by rw [hA])) .nil))))
  have Yk:¬((t<1)∨(t>(ds.length:Int))):=Yh (Yr dq dq) Zb
  refine Z2 2 (ia ((t-1)) ((t)-(1)) ?_)
  obtain ⟨x1,Z3⟩:=Zs ds ((t-1).toNat) om
  refine Zo (Zj none (t-1) 3 (VZ Z3)) (Z2 2 (iw (Ta x1.cons) (Y5 ((x1.cons.length:Int)>0) (fun Za=>?_) (fun Za=>?_))))
  ·refine Ya 1 (ZI 0 b1 [.i 0,.i 0,nl] (Z0 ?_))
   have hA:W8 ds t=false:=(Gc om Z3).symm.trans (beq_eq_false_iff_ne.2 om)
   have hD:VW ds t=⟨0,0,[]⟩:=by rw [VW,hA];rfl
   exact ZD (r3 [] [.agg [.i 0,.i 0,nl],.b false] [0] [(b1,b1)] ⟨rfl,rfl⟩ (Ze.tup (.cons (Ze.agg (.cons (li (by rw [hD])) (.cons (li (by rw [hD])) (.cons (Ze.sl _ (by rw [hD];rfl)) .nil)))) (.cons (lb (by rw [hA])) .nil))))
  refine ak (Ya 2 (ia ((t-1)) ((t)-(1)) (Zo (Zj none (t-1) 3 (VZ Z3)) (Z2 1 (ZI 0 b1 (Ke x1) (Z0 ?_))))))
  have hA:W8 ds t=true:=(Gc om Z3).symm.trans (Zq.2 om)
  have hD:VW ds t=x1:=by rw [VW,hA,Z3];rfl
  exact ZD (r3 [] [BR x1,.b true] [0] [(b1,b1)] ⟨rfl,rfl⟩ (Ze.tup (.cons (Ze.agg (.cons (li (by rw [hD])) (.cons (li (by rw [hD])) (.cons (Ze.sl _ (Yp V7 (by rw [hD]))) .nil)))) (.cons (lb (by rw [hA])) .nil))))
 refine Z2 3 (ib (b:=(decide (t<1))) 8 (fun ZB=>?_) (fun ZB=>?_))
 ·have YG:t<1:=(dq).1 ZB
  exact Z2 5 (YB (wk [0] (Zt true ZB fl)) hj1)
 have YR:¬(t<1):=Yh dq ZB
 exact Z2 2 (iw (UJ ds) (Z2 2 (YB (wk [0] (Zt (decide (t>(ds.length:Int))) ZB fl)) hj1)))
theorem Z9w (ds:List Zf) (frm:Int) (to_:Int) (hl_ds:ds.length<=4294967296:=by exact ob):Zk 228 [ZT ds,.i frm,.i to_] [] (Ys (.i (Ux ds frm to_))):=by
 refine ZF 35 Tryz.func228 (ZE (YO 1 (iw (UJ ds) (Z0 (ab 0 (Y6 (fun fz gz m F h=>∃(k:Nat),(k<=ds.length)/\(Ky frm to_ (ds.drop k) k=Ux ds frm to_)/\F=sF [1,2,9,10] fz [(11,.i k)]/\h=gz/\m=ds.length-k) _ _ _ ⟨0,ob,rfl,rfl,rfl,rfl⟩ (wk [] (Yd fl)) ?_))))))
 rintro m F h ⟨k,Yj,Zl,rfl,rfl,rfl⟩
 refine ZE (aq (W9 ((k:Int)<(ds.length:Int)) (fun Za=>?_) (fun Za=>?_)))
 ·refine ak (aq (ab 1 (Ya 1 ?_)))
  obtain ⟨x1,Z3⟩:=Zs ds k om
  refine Zo (Zj none (k:Int) 3 (VZ Z3)) (Z2 1 (iA [.i 0,.i 0,nl] fun b1=>Z2 1 (ZI 0 b1 (Ke x1) (ie (Zw 2 [0] (iw (Ta x1.cons) (XU 10 [1,2,7,8,9,10,11] [(25,.b (((x1.cons.length:Int)==0)&&(x1.frm==frm)))] (fun gz=>gz) ?_ (fun hj1=>?_))))))))
  ·refine Xv [1,2,7,9,10,11] [(31,.b ((((x1.cons.length:Int)==0)&&(x1.frm==frm))&&(x1.to_==to_)))] (fun gz=>gz) ?_ ?_
   ·refine Z2 1 (ib (b:=(((x1.cons.length:Int)==0)&&(x1.frm==frm))) 26 (fun Zb=>?_) (fun Zb=>?_))
    ·exact VT [0] (wk [0] (Zt (x1.to_==to_) Zb fl))
    exact Z0 (wk [0] (Zt false Zb fl))
   refine ac ((((x1.cons.length:Int)==0)&&(x1.frm==frm))&&(x1.to_==to_)) (p:=(((x1.cons.length:Int)=0)/\(x1.frm=frm))/\(x1.to_=to_)) (YL (YL Zq Zq) Zq) (fun Zg=>?_) (fun Zg=>?_)
   ·refine Ya 1 (ZJ k (Z0 ?_))
    rw [Y9 Z3] at Zl
    exact ZD (Y4 (.i (k+1:Nat)) (li (by clear Z3;first|rfl|omega|grind [Ky])))
   refine ak (az (ZJ k (Z0 ?_)))
   have hdr:=Y9 Z3
   exact ZK ⟨k+1,ob,(by rw [hdr] at Zl;clear hdr Z3;grind [Ky]),rfl,rfl,rfl⟩ (wk [] (ZM k fl))
  refine Z2 2 (ib (b:=((x1.cons.length:Int)==0)) 20 (fun ZB=>?_) (fun ZB=>?_))
  ·exact ZO 5 [0] (YB (wk [0] (Zt (x1.frm==frm) ZB fl)) hj1)
  exact Z2 5 (YB (wk [0] (Zt false ZB fl)) hj1)
 refine ax 0 (ZE ?_)
 try rw [Xn (xs:=ds) (k:=k) om] at Zl
 exact ZD (Y4 (.i (-1)) (li (by first|rfl|omega|grind [Ky])))
theorem Z9u (ds:List Zf) (hz:Ad ds:=by exact ob):Zk 158 [ZT ds] [] (Ys (.b (V5 ds))):=by
 have hzl:=hz.len
 refine ZF 106 Tryz.func158 (ZE (YO 1 (iw (UJ ds) (Y5 ((ds.length:Int)>4) (fun Za=>?_) (fun Za=>?_)))))
 ·exact ar (Zr (Y4 (.b false) (lb (by rw [V5,decide_eq_false om];rfl))))
 refine ak (YO 1 (iw (UJ ds) (Z0 (ab 0 (Y6 (fun fz gz m F h=>∃(k:Nat),(k<=ds.length)/\(To ds (ds.drop k) k=To ds ds 0)/\F=sF [0,12,13] fz [(14,.i k)]/\h=gz/\m=ds.length-k) _ _ _ ⟨0,ob,rfl,rfl,rfl,rfl⟩ (wk [] (Yd fl)) ?_)))))
 rintro m F h ⟨k,Yj,Zl,rfl,rfl,rfl⟩
 refine ZE (aq (W9 ((k:Int)<(ds.length:Int)) (fun Zg=>?_) (fun Zg=>?_)))
 ·refine ak (aq (ab 1 (Ya 1 ?_)))
  obtain ⟨x1,Z3⟩:=Zs ds k om
  have hz1:=hz.cons_at Z3
  refine Zo (Zj none (k:Int) 3 (VZ Z3)) (Z2 1 (iA [.i 0,.i 0,nl] fun b1=>Z2 1 (ZI 0 b1 (Ke x1) (ie (Yl 3 [0] (Zz [] (G6 ds x1.frm) (XU 12 [0,3,4,12,13,14] [(30,.b ((!(decide (0<=x1.frm/\x1.frm<=ds.length)))||(!(decide (0<=x1.to_/\x1.to_<=ds.length)))))] (fun gz=>gz) ?_ (fun hj1=>?_))))))))
  ·refine XU 18 [0,3,4,12,13,14] [(36,.b (((!(decide (0<=x1.frm/\x1.frm<=ds.length)))||(!(decide (0<=x1.to_/\x1.to_<=ds.length))))||(decide ((x1.cons.length:Int)>3))))] (fun gz=>gz) ?_ (fun hj2=>?_)
   ·refine Xv [0,3,4,12,13,14] [(52,.b ((((!(decide (0<=x1.frm/\x1.frm<=ds.length)))||(!(decide (0<=x1.to_/\x1.to_<=ds.length))))||(decide ((x1.cons.length:Int)>3)))||((decide ((x1.cons.length:Int)>0))&&((x1.frm != 0)||(x1.to_ != 0)))))] (fun gz=>gz) ?_ ?_
    ·refine Z2 1 (ib (b:=(((!(decide (0<=x1.frm/\x1.frm<=ds.length)))||(!(decide (0<=x1.to_/\x1.to_<=ds.length))))||(decide ((x1.cons.length:Int)>3)))) 37 (fun Zb=>?_) (fun Zb=>?_))
     ·have ZX:((¬(0<=x1.frm/\x1.frm<=ds.length))∨(¬(0<=x1.to_/\x1.to_<=ds.length)))∨((x1.cons.length:Int)>3):=((Yr (Yr (YA dq) (YA dq)) dq)).1 Zb
      exact Z0 (wk [0] (Zt true Zb fl))
     have Yk:¬(((¬(0<=x1.frm/\x1.frm<=ds.length))∨(¬(0<=x1.to_/\x1.to_<=ds.length)))∨((x1.cons.length:Int)>3)):=Yh (Yr (Yr (YA dq) (YA dq)) dq) Zb
     refine ZO 2 [0] (iw (Ta x1.cons) (Z2 2 (ib (b:=(decide ((x1.cons.length:Int)>0))) 42 (fun ZB=>?_) (fun ZB=>?_))))
     ·have YG:(x1.cons.length:Int)>0:=(dq).1 ZB
      refine ZO 4 [0] (ib (b:=(x1.frm != 0)) 46 (fun YE=>?_) (fun YE=>?_))
      ·have YR:x1.frm≠0:=(Ym).1 YE
       exact Z0 (wk [0] (Zt true (And.intro Zb (And.intro ZB YE)) fl))
      have Xl:¬(x1.frm≠0):=Yh Ym YE
      exact VT [0] (wk [0] (Zt (x1.to_ != 0) (And.intro Zb (And.intro ZB YE)) fl))
     have W2:¬((x1.cons.length:Int)>0):=Yh dq ZB
     exact Z0 (wk [0] (Zt false (And.intro Zb ZB) fl))
    refine ac ((((!(decide (0<=x1.frm/\x1.frm<=ds.length)))||(!(decide (0<=x1.to_/\x1.to_<=ds.length))))||(decide ((x1.cons.length:Int)>3)))||((decide ((x1.cons.length:Int)>0))&&((x1.frm != 0)||(x1.to_ != 0)))) (p:=(((¬(0<=x1.frm/\x1.frm<=ds.length))∨(¬(0<=x1.to_/\x1.to_<=ds.length)))∨((x1.cons.length:Int)>3))∨(((x1.cons.length:Int)>0)/\((x1.frm≠0)∨(x1.to_≠0)))) (Yr (Yr (Yr (YA dq) (YA dq)) dq) (YL dq (Yr Ym Ym))) (fun ZC=>?_) (fun ZC=>?_)
    ·exact ar (Zr (Y4 (.b false) (lb (MD Z3 (Z5l ZC) Zl))))
    refine ak (Yl 2 [0] (iw (Ta x1.cons) (Z0 (ab 2 (Y6 (fun fz gz m F h=>∃(q:Nat),(q<=x1.cons.length)/\(TP ds.length (x1.cons.drop q)=TP ds.length x1.cons)/\F=sF [0,3,4,12,13,14,54,55] fz [(56,.i q)]/\h=gz/\m=x1.cons.length-q) _ _ _ ⟨0,ob,rfl,rfl,rfl,rfl⟩ (wk [0] (Yd fl)) ?_)))))
    rintro m F h ⟨q,Up,Wa,rfl,rfl,rfl⟩
    refine ZE (aq (W9 ((q:Int)<(x1.cons.length:Int)) (fun Yg=>?_) (fun Yg=>?_)))
    ·refine ak (aq (ab 3 (ar ?_)))
     obtain ⟨x2,Zx⟩:=Zs x1.cons q om
     refine Zo (Zj none (q:Int) 1 (CF Zx)) (Z2 1 (iA [nl] fun b2=>ZI 0 b2 (PV x2) (ie (Zw 2 [0] (iw (Yf x2.fields) (Xv [0,3,4,12,13,14,54,55,56] [(70,.b ((decide ((x2.fields.length:Int)>3))||(!Ws ds.length x2.fields)))] (fun gz=>gz) ?_ ?_))))))
     ·refine Z2 2 (ib (b:=(decide ((x2.fields.length:Int)>3))) 64 (fun Xw=>?_) (fun Xw=>?_))
      ·have WG:(x2.fields.length:Int)>3:=(dq).1 Xw
       exact Z0 (wk [0,0] (Zt true Xw fl))
      have V3:¬((x2.fields.length:Int)>3):=Yh dq Xw
      exact ZO 3 [0] (Zz [] (Pd ds x2.fields) (Z0 (wk [0,0] (Zt (!Ws ds.length x2.fields) Xw fl))))
     refine ac ((decide ((x2.fields.length:Int)>3))||(!Ws ds.length x2.fields)) (p:=((x2.fields.length:Int)>3)∨(¬(Ws ds.length x2.fields=true))) (Yr dq (YA Iff.rfl)) (fun Xf=>?_) (fun Xf=>?_)
     ·exact ar (Zr (Y4 (.b false) (lb (MD Z3 (Z5m om (by rw [<-Wa,Y9 Zx,TP,Z8 (by rw [Z4k Xf];simp)])) Zl))))
     refine ak (az (ZJ q (Z0 ?_)))
     have hdr:=Y9 Zx
     exact ZK ⟨q+1,ob,(by rw [Y9 Zx,TP,Zd (Z4l Xf)] at Wa;exact Wa),rfl,rfl,rfl⟩ (wk [1] (ZM q fl))
    have hC:TP ds.length x1.cons=true:=by rw [<-Wa,Xn om];rfl
    refine ax 2 (Ya 2 (Zo (Ko (es:=X8 ds) (hv:=none) (l:=0) (m:=(k:Int)) (sz:=3) (es':=X8 (ds.take k)) kr om (by simp<;>omega) (by simp<;>omega) (Jy _) (by first|(simp only [Vm,V6,CH,CG];done)|(simp only [Vm,V6,CH,CG];rfl)|(simp [CH,CG];done))) (io (.i (((ds.take k).length:Nat):Int)) (.i (((X8 (ds.take k)).length:Nat):Int)) (li (by rw [UJ])) (Z0 (ab 4 (Y6 (fun fz gz m F h=>∃(j:Nat),(j<=k)/\(x1.cons.length=0->K5 x1 ((ds.take k).drop j)=K5 x1 (ds.take k))/\F=sF [0,4,12,13,14,74,75] fz [(76,.i j)]/\h=gz/\m=k-j) _ _ _ ⟨0,ob,ob,rfl,rfl,rfl⟩ (wk [0] (Yd fl)) ?_))))))
    rintro m F h ⟨j,ND,Fe,rfl,rfl,rfl⟩
    refine ZE (aq (W9 ((j:Int)<(((ds.take k).length:Nat):Int)) (fun Xo=>?_) (fun Xo=>?_)))
    ·have htl:(ds.take k).length<=k:=by rw [WB];omega
     refine ak (aq (ab 5 (ar ?_)))
     obtain ⟨x3,YS⟩:=Zs (ds.take k) j om
     refine Zo (Zj none (j:Int) 3 (VZ YS)) (Z2 1 (iA [.i 0,.i 0,nl] fun b3=>ZI 0 b3 (Ke x3) (ie (Zw 2 [1] (iw (Ta x1.cons) (XU 10 [0,4,8,12,13,14,74,75,76] [(89,.b (((x1.cons.length:Int)==0)&&((x3.cons.length:Int)==0)))] (fun gz=>gz) ?_ (fun hj3=>?_)))))))
     ·refine XU 17 [0,4,8,12,13,14,74,75,76] [(96,.b ((((x1.cons.length:Int)==0)&&((x3.cons.length:Int)==0))&&(x3.frm==x1.frm)))] (fun gz=>gz) ?_ (fun hj4=>?_)
      ·refine Xv [0,4,12,13,14,74,75,76] [(103,.b (((((x1.cons.length:Int)==0)&&((x3.cons.length:Int)==0))&&(x3.frm==x1.frm))&&(x3.to_==x1.to_)))] (fun gz=>gz) ?_ ?_
       ·refine Z2 1 (ib (b:=((((x1.cons.length:Int)==0)&&((x3.cons.length:Int)==0))&&(x3.frm==x1.frm))) 97 (fun WM=>?_) (fun WM=>?_))
        ·have Vr:(((x1.cons.length:Int)=0)/\((x3.cons.length:Int)=0))/\(x3.frm=x1.frm):=((YL (YL Zq Zq) Zq)).1 WM
         exact VT [0,1] (wk [0,0] (Zt (x3.to_==x1.to_) WM fl))
        have UK:¬((((x1.cons.length:Int)=0)/\((x3.cons.length:Int)=0))/\(x3.frm=x1.frm)):=Yh (YL (YL Zq Zq) Zq) WM
        exact Z0 (wk [0,0] (Zt false WM fl))
       refine ac (((((x1.cons.length:Int)==0)&&((x3.cons.length:Int)==0))&&(x3.frm==x1.frm))&&(x3.to_==x1.to_)) (p:=((((x1.cons.length:Int)=0)/\((x3.cons.length:Int)=0))/\(x3.frm=x1.frm))/\(x3.to_=x1.to_)) (YL (YL (YL Zq Zq) Zq) Zq) (fun U2=>?_) (fun U2=>?_)
       ·exact ar (Zr (Y4 (.b false) (lb (MD Z3 (Z5n om (by rw [<-Fe om,Y9 YS,K5,Zd om])) Zl))))
       exact ak (az (ZJ j (Z0 (ZK ⟨j+1,ob,(fun q=>by have hq:=Fe q;rw [Y9 YS,K5,Z8 om] at hq;exact hq),rfl,rfl,rfl⟩ (wk [1] (ZM j fl))))))
      refine Z2 1 (ib (b:=(((x1.cons.length:Int)==0)&&((x3.cons.length:Int)==0))) 90 (fun Vi=>?_) (fun Vi=>?_))
      ·have Te:((x1.cons.length:Int)=0)/\((x3.cons.length:Int)=0):=((YL Zq Zq)).1 Vi
       exact ZO 6 [0,1] (YB (wk [0,0] (Zt (x3.frm==x1.frm) Vi fl)) hj4)
      have Tf:¬(((x1.cons.length:Int)=0)/\((x3.cons.length:Int)=0)):=Yh (YL Zq Zq) Vi
      exact Z2 6 (YB (wk [0,0] (Zt false Vi fl)) hj4)
     refine Z2 2 (ib (b:=((x1.cons.length:Int)==0)) 84 (fun Vz=>?_) (fun Vz=>?_))
     ·have QG:(x1.cons.length:Int)=0:=(Zq).1 Vz
      exact ZO 2 [0] (iw (Ta x3.cons) (Z2 2 (YB (wk [0,0] (Zt ((x3.cons.length:Int)==0) Vz fl)) hj3)))
     have Qq:¬((x1.cons.length:Int)=0):=Yh Zq Vz
     exact Z2 5 (YB (wk [0,0] (Zt false Vz fl)) hj3)
    have htl:(ds.take k).length=k:=by rw [WB];omega
    have hD:x1.cons.length=0->K5 x1 (ds.take k)=false:=fun q=>by rw [<-Fe q,Xn om];rfl
    refine ax 4 (az (ZJ k (Z0 ?_)))
    have hdr:=Y9 Z3
    exact ZK ⟨k+1,ob,(Zhp Z3 (Z5o ZC hC hD) Zl),rfl,rfl,rfl⟩ (wk [] (ZM k fl))
   refine Z2 1 (ib (b:=((!(decide (0<=x1.frm/\x1.frm<=ds.length)))||(!(decide (0<=x1.to_/\x1.to_<=ds.length))))) 31 (fun Vp=>?_) (fun Vp=>?_))
   ·have J6:(¬(0<=x1.frm/\x1.frm<=ds.length))∨(¬(0<=x1.to_/\x1.to_<=ds.length)):=((Yr (YA dq) (YA dq))).1 Vp
    exact Z2 5 (YB (wk [0] (Zt true Vp fl)) hj2)
   have KG:¬((¬(0<=x1.frm/\x1.frm<=ds.length))∨(¬(0<=x1.to_/\x1.to_<=ds.length))):=Yh (Yr (YA dq) (YA dq)) Vp
   exact ZO 2 [0] (iw (Ta x1.cons) (Z2 2 (YB (wk [0] (Zt (decide ((x1.cons.length:Int)>3)) Vp fl)) hj2)))
  refine Z2 2 (ib (b:=(!(decide (0<=x1.frm/\x1.frm<=ds.length)))) 24 (fun Vq=>?_) (fun Vq=>?_))
  ·have Bg:¬(0<=x1.frm/\x1.frm<=ds.length):=((YA dq)).1 Vq
   exact Z2 6 (YB (wk [0] (Zt true Vq fl)) hj1)
  have JE:¬(¬(0<=x1.frm/\x1.frm<=ds.length)):=Yh (YA dq) Vq
  exact ZO 3 [0] (Zz [] (G6 ds x1.to_) (Z2 2 (YB (wk [0] (Zt (!(decide (0<=x1.to_/\x1.to_<=ds.length))) Vq fl)) hj1)))
 exact ax 0 (ar (Zr (Y4 (.b true) (lb (Zho om om Zl)))))
theorem IY (op:Int) :Zk 56 [.i op] [] (Ys (.b (YF op))):=by
 refine ZF 9 Tryz.func56 (ZE (ar (XU 6 [] [(8,.b ((decide (op>=14))&&(decide (op<=17))))] (fun gz=>gz) ?_ (fun hj1=>?_))))
 ·exact Zr (Y4 (.b ((decide (op>=14))&&(decide (op<=17)))) (lb (by rw [YF,Xx];simp)))
 refine Z2 3 (ib (b:=(decide (op>=14))) 5 (fun Zb=>?_) (fun Zb=>?_))
 ·exact Z2 3 (YB (wk [] (Zt (decide (op<=17)) Zb fl)) hj1)
 exact Z2 3 (YB (wk [] (Zt false Zb fl)) hj1)
theorem Pg (op:Int) :Zk 133 [.i op] [] (Ys (.b (T6 op))):=by
 refine ZF 17 Tryz.func133 (ZE (ar (XU 6 [0] [(8,.b ((op==6)||(op==9)))] (fun gz=>gz) ?_ (fun hj1=>?_))))
 ·refine XU 10 [0] [(12,.b (((op==6)||(op==9))||(op==10)))] (fun gz=>gz) ?_ (fun hj2=>?_)
  ·refine XU 14 [] [(16,.b ((((op==6)||(op==9))||(op==10))||(op==11)))] (fun gz=>gz) ?_ (fun hj3=>?_)
   ·exact Zr (Y4 (.b ((((op==6)||(op==9))||(op==10))||(op==11))) (lb (by first|rfl|omega|grind [T6])))
   refine Z2 1 (ib (b:=(((op==6)||(op==9))||(op==10))) 13 (fun Zb=>?_) (fun Zb=>?_))
   ·have ZX:((op=6)∨(op=9))∨(op=10):=((Yr (Yr Zq Zq) Zq)).1 Zb
    exact Z2 3 (YB (wk [] (Zt true Zb fl)) hj3)
   have Yk:¬(((op=6)∨(op=9))∨(op=10)):=Yh (Yr (Yr Zq Zq) Zq) Zb
   exact Z2 3 (YB (wk [] (Zt (op==11) Zb fl)) hj3)
  refine Z2 1 (ib (b:=((op==6)||(op==9))) 9 (fun ZB=>?_) (fun ZB=>?_))
  ·have YG:(op=6)∨(op=9):=((Yr Zq Zq)).1 ZB
   exact Z2 3 (YB (wk [] (Zt true ZB fl)) hj2)
  have YR:¬((op=6)∨(op=9)):=Yh (Yr Zq Zq) ZB
  exact Z2 3 (YB (wk [] (Zt (op==10) ZB fl)) hj2)
 refine Z2 3 (ib (b:=(op==6)) 5 (fun YE=>?_) (fun YE=>?_))
 ·have Xl:op=6:=(Zq).1 YE
  exact Z2 3 (YB (wk [] (Zt true YE fl)) hj1)
 have W2:¬(op=6):=Yh Zq YE
 exact Z2 3 (YB (wk [] (Zt (op==9) YE fl)) hj1)
theorem Za3 (b:Z6) (c:Nat) (v:Int) (hb:b.sz<=1000000000:=by exact ob) (hv:0<=v/\v<=600:=by exact ob) (ih:∀(b2:Z6) (c:Nat) (v:Int),(b2.sz<b.sz)->(0<=v/\v<=600)->Zk 113 [ZZ b2,.p c 0] [.obj c [.i v]] (fun r h=>(r=.b true/\h=[.obj c [.i (600-WY b2 (600-v))]]/\0<=WY b2 (600-v))∨(r=.b false/\h=[]/\WY b2 (600-v)<0))):Zk 113 [ZZ b,.p c 0] [.obj c [.i v]] (fun r h=>(r=.b true/\h=[.obj c [.i (600-WY b (600-v))]]/\0<=WY b (600-v))∨(r=.b false/\h=[]/\WY b (600-v)<0)):=by
 have hbz:=Uk b
 have hbe:=R5 b (600-v)
 refine ZF 38 Tryz.func113 (ar (iA (Xm b) fun b1=>?_))
 refine Z0 (Yl 2 [0] (iw (VO b.steps) (Z0 (ab 0 (Y6 (fun fz gz m F h=>∃(k:Nat) (q:Int),(k<=b.steps.length)/\(0<=q/\q<=600)/\(Qa (b.steps.drop k) (600-q)=Qa b.steps (600-v))/\F=sF [1,10,11] fz [(12,.i k)]/\h=[.obj c [.i q]]/\m=b.steps.length-k) _ _ _ ⟨0,v,ob,ob,rfl,rfl,rfl,rfl⟩ (wk [1] (Yd fl)) ?_)))))
 rintro m F h ⟨k,q,Yj,Zl,Zy,rfl,rfl,rfl⟩
 refine ZE (aq (W9 ((k:Int)<(b.steps.length:Int)) (fun Za=>?_) (fun Za=>?_)))
 ·refine ak (aq (ab 1 (ar ?_)))
  obtain ⟨x1,Z3⟩:=Zs b.steps k om
  have hss:=A5 Z3
  have hkz:=TK x1
  refine Zo (Zj none (k:Int) 5 (V2 Z3)) (Z2 1 (iA [.i 0,.i 0,.i 0,nl,nl] fun b2=>ZI 0 b2 (XG x1) (ie (Yl 3 [1] (ia ((q+1)) ((q)+(1)) (Z2 1 (ZI 1 c [.i (q+1)] (ie (Bc [0] (W9 ((q+1)>600) (fun Zg=>?_) (fun Zg=>?_)))))))))))
  ·exact ar (Zr (r1 [] (.inr ⟨rfl,rfl,(by rw [hbe,<-Zy,Y9 Z3,Qa,Zd om];omega)⟩)))
  refine ak (Zw 2 [1] (iw (Uy x1.kids) (Z0 (ab 2 (Y6 (fun fz gz m F h=>∃(j:Nat) (j2:Int),(j<=x1.kids.length)/\(0<=j2/\j2<=600)/\(Qt (x1.kids.drop j) (600-j2)=Qt x1.kids (600-(q+1)))/\F=sF [1,10,11,12,26,27] fz [(28,.i j)]/\h=[.obj c [.i j2]]/\m=x1.kids.length-j) _ _ _ ⟨0,(q+1),ob,ob,rfl,rfl,rfl,rfl⟩ (wk [0] (Yd fl)) ?_)))))
  rintro m F h ⟨j,j2,Up,Wa,XZ,rfl,rfl,rfl⟩
  refine ZE (aq (W9 ((j:Int)<(x1.kids.length:Int)) (fun ZC=>?_) (fun ZC=>?_)))
  ·refine ak (aq (ab 3 (ar ?_)))
   obtain ⟨x2,Zx⟩:=Zs x1.kids j om
   have hks:=Tx Zx
   have hle:=Lm.2 x2 (600-j2) om
   refine Zo (Zj none (j:Int) 2 (T9 Zx)) (Z2 1 (iA [nl,.i 0] fun b3=>ZI 0 b3 (Xm x2) (ie (Zw 2 [0] (ic [1] (ih x2 c j2 ob ob) ?_)))))
   rintro _ _ (⟨rfl,rfl,ZX⟩|⟨rfl,rfl,Yk⟩)
   ·refine Z0 (Wr (ak (az (ZJ j (Z0 ?_)))))
    have hdr:=Y9 Zx
    exact ZK ⟨j+1,(600-WY x2 (600-j2)),ob,ob,(by rw [Y9 Zx,Qt,Z8 om] at XZ;rw [show 600-(600-WY x2 (600-j2))=WY x2 (600-j2) by omega];exact XZ),rfl,rfl,rfl⟩ (wk [0] (ZM j fl))
   exact Z0 (Wc (ar (Zr (r1 [] (.inr ⟨rfl,rfl,(by rw [hbe,<-Zy,Y9 Z3,Qa,Z8 om,Zd (by rw [Gk,show (600-q-1:Int)=600-(q+1) by omega,<-XZ,Y9 Zx,Qt,Zd Yk];omega)];omega)⟩)))))
  have hE:Qt x1.kids (600-(q+1))=600-j2:=by rw [<-XZ,Xn om,Qt]
  refine ax 2 (az (ZJ k (Z0 ?_)))
  have hdr:=Y9 Z3
  exact ZK ⟨k+1,j2,ob,ob,(by rw [Y9 Z3,Qa,Z8 om,Gk,show (600-q-1:Int)=600-(q+1) by omega,hE,Z8 om] at Zy;exact Zy),rfl,rfl,rfl⟩ (wk [0] (ZM k fl))
 refine ax 0 (ZE ?_)
 have hF:WY b (600-v)=600-q:=by rw [hbe,<-Zy,Xn om,Qa]
 exact ZD (r1 [0] (.inl ⟨rfl,rfl,om⟩) (eq:=(ro (ls:=[.i q]) (by rw [hF,show (600-(600-q):Int)=q by omega]) rz)))
theorem Za2:∀(b:Z6) (c:Nat) (v:Int),(b.sz<=1000000000)->(0<=v/\v<=600)->Zk 113 [ZZ b,.p c 0] [.obj c [.i v]] (fun r h=>(r=.b true/\h=[.obj c [.i (600-WY b (600-v))]]/\0<=WY b (600-v))∨(r=.b false/\h=[]/\WY b (600-v)<0)):=by
 have key:∀m:Nat,∀(b:Z6) (c:Nat) (v:Int),(b.sz<=m)->(b.sz<=1000000000)->(0<=v/\v<=600)->Zk 113 [ZZ b,.p c 0] [.obj c [.i v]] (fun r h=>(r=.b true/\h=[.obj c [.i (600-WY b (600-v))]]/\0<=WY b (600-v))∨(r=.b false/\h=[]/\WY b (600-v)<0)):=by
  intro m
  induction m with
  | zero=>intro b c v h;have:=b.sz_pos;omega
  | succ m ih=>intro b c v h1 h2 h3;exact Za3 b c v h2 h3 fun b2 c2 v2 k1 k2=>ih b2 c2 v2 om om k2
 intro b c v h2 h3
 exact key b.sz b c v (X7 _) h2 h3
theorem Z9t (b:Z6) (hb:b.sz<=1000000000:=by exact ob):Zk 57 [ZZ b] [] (Ys (.i (TY b))):=by
 refine ZF 8 Tryz.func57 (ar (iA (Xm b) fun b1=>Z0 (ar (iA [.i 0] fun b2=>ZI 0 b2 [.i 0] (ie (Yl 1 [1] (ic [0] (Za2 b b2 0 ob ob) ?_)))))))
 rintro _ _ (⟨rfl,rfl,ZX⟩|⟨rfl,rfl,Yk⟩)
 ·have h0:=ZX
  rw [show (600-0:Int)=600 from rfl] at h0
  exact Z0 (Wr (ak (Bc [0] (ZD (Y4 (.i (600-WY b (600-0))) (li (by rw [show (600-0:Int)=600 from rfl,TY,Z8 om])))))))
 have h0:=Yk
 rw [show (600-0:Int)=600 from rfl] at h0
 exact Z0 (Wc (ar (Zr (Y4 (.i (-1)) (li (by rw [TY,Zd h0]))))))
theorem Za8 (ds:List Zf) (fs:List Vo) (hz:Ad ds:=by exact ob) (hf:∀f∈fs,f.pms.length<=4194304/\f.lnt.length<=4194304) (hfl:fs.length<=4194304:=by exact ob):Zk 95 [ZT ds,Dd fs] [] (Ys (.b (Jl ds fs))):=by
 have hzl:=hz.len
 refine ZF 102 Tryz.func95 (ZE (YO 1 (Zz [] (Z9u ds) (XU 8 [0,1] [(16,.b ((!V5 ds)||(decide ((fs.length:Int)<1))))] (fun gz=>gz) ?_ (fun hj1=>?_)))))
 ·refine XU 13 [0,1] [(21,.b (((!V5 ds)||(decide ((fs.length:Int)<1)))||(decide ((fs.length:Int)>4))))] (fun gz=>gz) ?_ (fun hj2=>?_)
  ·refine Z2 1 (ib (b:=(((!V5 ds)||(decide ((fs.length:Int)<1)))||(decide ((fs.length:Int)>4)))) 22 (fun Zb=>?_) (fun Zb=>?_))
   ·have ZX:((¬(V5 ds=true))∨((fs.length:Int)<1))∨((fs.length:Int)>4):=((Yr (Yr (YA Iff.rfl) dq) dq)).1 Zb
    exact Z0 (Wc (ar (Zr (Y4 (.b false) (lb (Zhw (by assumption)))))))
   have Yk:¬(((¬(V5 ds=true))∨((fs.length:Int)<1))∨((fs.length:Int)>4)):=Yh (Yr (Yr (YA Iff.rfl) dq) dq) Zb
   refine Z2 1 ?_
   obtain ⟨x1,Z3⟩:=Zs fs 0 om
   refine Zo (Zj none 0 3 (BY Z3)) (Z2 2 (iw (Yf x1.pms) (Z2 3 (ib (b:=(decide ((x1.pms.length:Int)>0))) 30 (fun ZB=>?_) (fun ZB=>?_)))))
   ·have YG:(x1.pms.length:Int)>0:=(dq).1 ZB
    exact Z0 (Wc (ar (Zr (Y4 (.b false) (lb (Z1a Z3 (.inl (by assumption))))))))
   have YR:¬((x1.pms.length:Int)>0):=Yh dq ZB
   refine Z2 1 (Zo (Zj none 0 3 (BY Z3)) (YH (x1.res != 0) Ym (fun Za=>?_) (fun Za=>?_)))
   ·exact ar (Zr (Y4 (.b false) (lb (Z1a Z3 (.inr Za)))))
   refine ak (YO 1 (iw (DT fs) (Z0 (ab 0 (Y6 (fun fz gz m F h=>∃(k:Nat),(k<=fs.length)/\(KM ds.length (fs.drop k)=KM ds.length fs)/\F=sF [0,37,38] fz [(39,.i k)]/\h=gz/\m=fs.length-k) _ _ _ ⟨0,ob,ob,rfl,rfl,rfl⟩ (wk [] (Yd fl)) ?_)))))
   rintro m F h ⟨k,Yj,Zl,rfl,rfl,rfl⟩
   refine ZE (aq (W9 ((k:Int)<(fs.length:Int)) (fun Zg=>?_) (fun Zg=>?_)))
   ·refine ak (aq (ab 1 (ar ?_)))
    obtain ⟨x2,Zx⟩:=Zs fs k om
    have hf2:=hf _ (ZW Zx)
    refine Zo (Zj none (k:Int) 3 (BY Zx)) (Z2 1 (iA [nl,nl,.i 0] fun b1=>ZI 0 b1 (PW x2) (ie (Yl 2 [0] (iw (Yf x2.pms) (XU 11 [0,6,37,38,39] [(53,.b ((decide ((x2.pms.length:Int)>3))||(!Ws ds.length x2.pms)))] (fun gz=>gz) ?_ (fun hj3=>?_)))))))
    ·refine Xv [0,6,37,38,39] [(60,.b (((decide ((x2.pms.length:Int)>3))||(!Ws ds.length x2.pms))||(!(decide (0<=x2.res/\x2.res<=ds.length)))))] (fun gz=>gz) ?_ ?_
     ·refine Z2 1 (ib (b:=((decide ((x2.pms.length:Int)>3))||(!Ws ds.length x2.pms))) 54 (fun YE=>?_) (fun YE=>?_))
      ·have Xl:((x2.pms.length:Int)>3)∨(¬(Ws ds.length x2.pms=true)):=((Yr dq (YA Iff.rfl))).1 YE
       exact Z0 (wk [0] (Zt true YE fl))
      have W2:¬(((x2.pms.length:Int)>3)∨(¬(Ws ds.length x2.pms=true))):=Yh (Yr dq (YA Iff.rfl)) YE
      exact ZO 3 [0] (Zz [] (G6 ds x2.res) (Z0 (wk [0] (Zt (!(decide (0<=x2.res/\x2.res<=ds.length))) YE fl))))
     refine ac (((decide ((x2.pms.length:Int)>3))||(!Ws ds.length x2.pms))||(!(decide (0<=x2.res/\x2.res<=ds.length)))) (p:=(((x2.pms.length:Int)>3)∨(¬(Ws ds.length x2.pms=true)))∨(¬(0<=x2.res/\x2.res<=ds.length))) (Yr (Yr dq (YA Iff.rfl)) (YA dq)) (fun ZC=>?_) (fun ZC=>?_)
     ·exact ar (Zr (Y4 (.b false) (lb (Hc (GV Zx (Zee ZC) Zl)))))
     refine ak (Zw 2 [0] (iw (Yf x2.lnt) (Z0 (ab 2 (Y6 (fun fz gz m F h=>∃(j:Nat),(j<=x2.lnt.length)/\(QJ x2.pms (x2.lnt.drop j) (if j=0 then none else x2.lnt[j-1]?)=Jk x2.pms x2.lnt)/\F=sF [0,6,37,38,39,62,63] fz [(64,.i j)]/\h=gz/\m=x2.lnt.length-j) _ _ _ ⟨0,ob,(by rfl),rfl,rfl,rfl⟩ (wk [0] (Yd fl)) ?_)))))
     rintro m F h ⟨j,Up,Wa,rfl,rfl,rfl⟩
     refine ZE (aq (W9 ((j:Int)<(x2.lnt.length:Int)) (fun Yg=>?_) (fun Yg=>?_)))
     ·refine ak (aq (ab 3 (Ya 1 ?_)))
      obtain ⟨x3,YS⟩:=Zs x2.lnt j om
      refine Zo (Zj none (j:Int) 1 (Y3 YS)) (Z0 (ar (XU 9 [0,6,7,8,37,38,39,62,63,64] [(77,.b ((decide (x3<0))||(decide (x3>=(x2.pms.length:Int)))))] (fun gz=>gz) ?_ (fun hj4=>?_))))
      ·refine Z2 1 (ib (b:=((decide (x3<0))||(decide (x3>=(x2.pms.length:Int))))) 78 (fun Xw=>?_) (fun Xw=>?_))
       ·have WG:(x3<0)∨(x3>=(x2.pms.length:Int)):=((Yr dq dq)).1 Xw
        exact Z0 (Wc (ar (Zr (Y4 (.b false) (lb (Hc (GV Zx (M7 (Lo YS (by rintro ⟨q1,q2,q3⟩;first|omega|(rw [VI] at q2;exact q2 (Yp some om))|(have:=q3 _ (by rw [Z8 om];exact UA);omega)) Wa)) Zl)))))))
       have V3:¬((x3<0)∨(x3>=(x2.pms.length:Int))):=Yh (Yr dq dq) Xw
       refine ZO 3 [0] ?_
       obtain ⟨x4,VI⟩:=Zs x2.pms x3.toNat om
       refine Zo (Zj none x3 1 (Y3 VI)) (Z2 4 (ib (b:=(x4==0)) 86 (fun WM=>?_) (fun WM=>?_)))
       ·have Vr:x4=0:=(Zq).1 WM
        exact Z0 (Wc (ar (Zr (Y4 (.b false) (lb (Hc (GV Zx (M7 (Lo YS (by rintro ⟨q1,q2,q3⟩;first|omega|(rw [VI] at q2;exact q2 (Yp some om))|(have:=q3 _ (by rw [Z8 om];exact UA);omega)) Wa)) Zl)))))))
       have UK:¬(x4=0):=Yh Zq WM
       refine Z2 3 (ib (b:=(decide ((j:Int)>0))) 89 (fun Vi=>?_) (fun Vi=>?_))
       ·have Te:(j:Int)>0:=(dq).1 Vi
        refine ZO 4 [0] (ia (((j-1:Nat):Int)) (((j:Int))-(1)) ?_)
        obtain ⟨x5,UA⟩:=Zs x2.lnt (j-1) om
        refine Zo (Zj none ((j-1:Nat):Int) 1 (Y3 UA)) (Y5 (x3<=x5) (fun Xf=>?_) (fun Xf=>?_))
        ·exact ar (Zr (Y4 (.b false) (lb (Hc (GV Zx (M7 (Lo YS (by rintro ⟨q1,q2,q3⟩;first|omega|(rw [VI] at q2;exact q2 (Yp some om))|(have:=q3 _ (by rw [Z8 om];exact UA);omega)) Wa)) Zl)))))
        refine ak (az (ZJ j (Z0 ?_)))
        have hdr:=Y9 YS
        exact ZK ⟨j+1,ob,(Rb YS ⟨by omega,(by rw [VI];intro q;cases q;omega),fun p hp=>by first|(rw [Zd om] at hp;cases hp;done)|(rw [Z8 om,UA] at hp;cases hp;omega)⟩ Wa),rfl,rfl,rfl⟩ (wk [0] (ZM j fl))
       have Tf:¬((j:Int)>0):=Yh dq Vi
       refine Z0 (Wr (ak (az (ZJ j (Z0 ?_)))))
       have hdr:=Y9 YS
       exact ZK ⟨j+1,ob,(Rb YS ⟨by omega,(by rw [VI];intro q;cases q;omega),fun p hp=>by first|(rw [Zd om] at hp;cases hp;done)|(rw [Z8 om,UA] at hp;cases hp;omega)⟩ Wa),rfl,rfl,rfl⟩ (wk [0] (ZM j fl))
      refine Z2 3 (ib (b:=(decide (x3<0))) 71 (fun Vz=>?_) (fun Vz=>?_))
      ·have QG:x3<0:=(dq).1 Vz
       exact Z2 6 (YB (wk [0] (Zt true Vz fl)) hj4)
      have Qq:¬(x3<0):=Yh dq Vz
      exact ZO 3 [0] (iw (Yf x2.pms) (Z2 2 (YB (wk [0] (Zt (decide (x3>=(x2.pms.length:Int))) Vz fl)) hj4)))
     have hL:Jk x2.pms x2.lnt=true:=by rw [<-Wa,Xn om];rfl
     have hS:=Zef ZC hL
     refine ax 2 (az (ZJ k (Z0 ?_)))
     have hdr:=Y9 Zx
     exact ZK ⟨k+1,ob,(Zex Zx hS Zl),rfl,rfl,rfl⟩ (wk [] (ZM k fl))
    refine Z2 2 (ib (b:=(decide ((x2.pms.length:Int)>3))) 47 (fun Vp=>?_) (fun Vp=>?_))
    ·have J6:(x2.pms.length:Int)>3:=(dq).1 Vp
     exact Z2 6 (YB (wk [0] (Zt true Vp fl)) hj3)
    have KG:¬((x2.pms.length:Int)>3):=Yh dq Vp
    exact ZO 3 [0] (Zz [] (Pd ds x2.pms) (Z2 2 (YB (wk [0] (Zt (!Ws ds.length x2.pms) Vp fl)) hj3)))
   exact ax 0 (ar (Zr (Y4 (.b true) (lb (Zhx (by assumption) Z3 (by assumption) Za (by rw [<-Zl,Xn om];rfl))))))
  refine Z2 1 (ib (b:=((!V5 ds)||(decide ((fs.length:Int)<1)))) 17 (fun Vq=>?_) (fun Vq=>?_))
  ·have Bg:(¬(V5 ds=true))∨((fs.length:Int)<1):=((Yr (YA Iff.rfl) dq)).1 Vq
   exact Z2 4 (YB (wk [] (Zt true Vq fl)) hj2)
  have JE:¬((¬(V5 ds=true))∨((fs.length:Int)<1)):=Yh (Yr (YA Iff.rfl) dq) Vq
  exact Z2 1 (iw (DT fs) (Z2 2 (YB (wk [] (Zt (decide ((fs.length:Int)>4)) Vq fl)) hj2)))
 refine Z2 2 (ib (b:=(!V5 ds)) 12 (fun QF=>?_) (fun QF=>?_))
 ·have P7:¬(V5 ds=true):=((YA Iff.rfl)).1 QF
  exact Z2 4 (YB (wk [] (Zt true QF fl)) hj1)
 have P8:¬(¬(V5 ds=true)):=Yh (YA Iff.rfl) QF
 exact Z2 1 (iw (DT fs) (Z2 2 (YB (wk [] (Zt (decide ((fs.length:Int)<1)) QF fl)) hj1)))
theorem Ph (n:Zi) (hz:Un n:=by exact ob):Zk 43 [Yq n] [] (fun r h=>(r=.tup [.agg [ZT n.decls,YW n],.b (U3 n)]/\h=[]/\n.routines.length<=4)∨(r=.tup [.agg [ZT [],Dd []],.b false]/\h=[]/\U3 n=false)):=by
 have hzl:=hz.len
 refine ZF 41 Tryz.func43 (ar (iA (YU n) fun b1=>iA [nl,nl] fun b2=>Z0 (Yl 2 [1] (iw (Ur n.routines) (Y5 ((n.routines.length:Int)>4) (fun Za=>?_) (fun Za=>?_))))))
 ·exact Ya 1 (ZI 0 b2 [nl,nl] (Zr (r3 [] [.agg [nl,nl],.b false] [0] [(b2,b2)] (.inr ⟨rfl,rfl,(by rw [Rm,decide_eq_false om];rfl)⟩) (Ze.tup (.cons (Ze.agg (.cons (Ze.sl _ rfl) (.cons (Ze.sl _ rfl) .nil))) (.cons (lr _) .nil))))))
 refine ak (Zw 3 [1] (iA [nl,nl] fun b3=>?_))
 refine ZI 0 b3 [ZT n.decls,nl] (ie (Yl 2 [2] (iw (Ur n.routines) (Z0 (ab 0 (KX 3 (Y6 (fun fz gz m F h=>∃(k:Nat) (v:Value),(k<=n.routines.length)/\F=sF [1,2,4,16,17] fz [(18,.i k)]/\h=[.obj b3 [ZT n.decls,Gt ((n.routines.take k).map W5) v],Zc gz 2,Zc gz 3,.tail v 3]/\m=n.routines.length-k) _ _ _ ⟨0,(.slice none 0 0),ob,rfl,rfl,rfl⟩ (wk [1,1,1,0] (Yd fl)) ?_)))))))
 rintro m F h ⟨k,v,Yj,rfl,rfl,rfl⟩
 refine ZE (aq (W9 ((k:Int)<(n.routines.length:Int)) (fun Zg=>?_) (fun Zg=>?_)))
 ·refine ak (aq (ab 1 (ar ?_)))
  obtain ⟨x1,Z3⟩:=Zs n.routines k om
  refine Zo (Zj none (k:Int) 5 (Wv Z3)) (Z2 1 (iA [nl,nl,.i 0,nl,.i 0] fun b4=>ZI 0 b4 (KH x1) (ie (az (ZO 9 [1,0,0,0] (iL (Ts [Vo.mk x1.params x1.lent x1.result]) 1 3 fun v1=>ZU 0 [(31,Dd [Vo.mk x1.params x1.lent x1.result])] (ip 5 (Ts ((n.routines.take (k+1)).map W5)) (Ts ((n.routines.take k).map W5)) (Ts [Vo.mk x1.params x1.lent x1.result]) v none 3 (Oa _) (Oa _) (Z69 _) (by simp<;>omega) (by rw [Vl Z3];simp [Ts,W5]) fun v2=>Z2 1 (ZI 3 b3 [ZT n.decls,Gt ((n.routines.take (k+1)).map W5) v2] (ie (az (ZJ k (Z0 ?_))))))))))))
  have hdr:=Y9 Z3
  exact ZK ⟨k+1,v2,ob,rfl,rfl,rfl⟩ (wk [0,3,3,0] (ZM k fl))
 refine ax 0 (aD 8 (CC 3 8 [0,1,2,3,4] [(39,Dd ((n.routines.take k).map W5))] [0,2,0] (Z9 5 (Yo 5 [] [0] [b3] (Za8 n.decls ((n.routines.take k).map W5) (hz:=hz.decls) (hf:=(by intro f hf;obtain ⟨r,h1,rfl⟩:=Wf.1 hf;have:=Q1 h1;exact ⟨hz.params r this,hz.lent r this⟩))) (Z9 6 (YK 6 1 [] [] b2 [ZT n.decls,Gt ((n.routines.take k).map W5) v] (Zm 0 1 [7] (de ?_))))))))
 have htk:n.routines.take k=n.routines:=Vt om
 exact ZD (r3 [] [.agg [ZT n.decls,Gt ((n.routines.take k).map W5) v],.b (Jl n.decls ((n.routines.take k).map W5))] [0] [(b2,b2)] (.inl ⟨rfl,rfl,om⟩) (Ze.tup (.cons (Ze.agg (.cons (lr _) (.cons (Ze.sl _ (Yp Ts (by rw [htk]))) .nil))) (.cons (lb (by rw [htk,Rm,decide_eq_true (p:=n.routines.length<=4) om,Bool.true_and])) .nil))))
theorem Pi (n:Zi) (t:Int) (hn:X6 n:=by exact ob):Zk 98 [.agg [ZT n.decls,YW n],.i t] [] (Ys (Kf ((ZY n.decls t).map (ZV n.decls)))):=by
 have XB:=hn.decls
 have hcl:=Lz XB t
 refine ZF 26 Tryz.func98 (ar (iA [ZT n.decls,YW n] fun b1=>?_))
 refine Z0 (ZE (Yl 3 [0] (Zz [] (Za1 n.decls t) (io (.i (((ZY n.decls t).length:Nat):Int)) (.i (((Z7 (ZY n.decls t)).length:Nat):Int)) (li (by rw [Yf])) (Z0 (ab 0 (KX 1 (Y6 (fun fz gz m F h=>∃(k:Nat) (v:Value),(k<=(ZY n.decls t).length)/\F=sF [2,11,12] fz [(5,Bn (((ZY n.decls t).take k).map (ZV n.decls)) v),(13,.i k)]/\h=[Zc gz 1,.tail v 1]/\m=(ZY n.decls t).length-k) _ _ _ ⟨0,(.slice none 0 0),ob,rfl,rfl,rfl⟩ (wk [1,0] (fc (x:=nl) (Ze.slh _ rfl) (Yd fl))) ?_))))))))
 rintro m F h ⟨k,v,Yj,rfl,rfl,rfl⟩
 refine ZE (aq (W9 ((k:Int)<(((ZY n.decls t).length:Nat):Int)) (fun Za=>?_) (fun Za=>?_)))
 ·refine ak (aq (ab 1 (ar ?_)))
  obtain ⟨x1,Z3⟩:=Zs (ZY n.decls t) k om
  refine Zo (Zj none (k:Int) 1 (Y3 Z3)) (Z0 (az (ZO 4 [0] (Zz [] (Za4 n.decls x1 (hc:=(by have:=NP XB Z3;omega))) (iL (Wu [ZV n.decls x1]) 1 1 fun v1=>ZU 0 [(22,Kf [ZV n.decls x1])] (ip 2 (Wu (((ZY n.decls t).take (k+1)).map (ZV n.decls))) (Wu (((ZY n.decls t).take k).map (ZV n.decls))) (Wu [ZV n.decls x1]) v none 1 (B8 _) (B8 _) (Fy _) (by simp;omega) (by rw [Vl Z3];simp [Wu]) fun v2=>Z0 (az (ZJ k (Z0 ?_)))))))))
  have hdr:=Y9 Z3
  exact ZK ⟨k+1,v2,ob,rfl,rfl,rfl⟩ (wk [2,0] (fr (ZM k fl)))
 exact ax 0 (ar (Zr (Y4 (Bn (((ZY n.decls t).take k).map (ZV n.decls)) v) (Ze.sl _ (Yp Wu (by rw [Vt om]))))))
theorem Za6 (n:Zi) (op:Int) (num:Int) (ts:LI) (hn:X6 n:=by exact ob) (hl_ts:ts.length<=4294967296:=by exact ob) (hnum:-9223372036854775808<=num/\num<=9223372036854775807:=by exact ob):Zk 182 [.agg [ZT n.decls,YW n],.i op,.i num,Z5 ts] [] (fun r h=>∃(t:Int),r=.tup [.i t,.b ((XO n op num ts).isSome)]/\h=[]/\∀x,XO n op num ts=some x->t=x):=by
 have XB:=hn.decls
 have hrl:=hn.len
 have hcfl:(ZV n.decls num).length<=4294967296:=by have:=Ud XB num;omega
 have hdl:n.decls.length<=4294967296:=by have:=XB.len;omega
 refine ZF 149 Tryz.func182 (ar (iA [ZT n.decls,YW n] fun b1=>Z0 (ZE (Yi (ab 0 (ar (YH (op==0) Zq (fun Za=>?_) (fun Za=>?_))))))))
 ·refine ar (XU 6 [3] [(26,.b ((decide (num>=(-999)))&&(decide (num<=999))))] (fun gz=>gz) ?_ (fun hj1=>?_))
  ·refine XU 11 [] [(31,.b (((decide (num>=(-999)))&&(decide (num<=999)))&&((ts.length:Int)==0)))] (fun gz=>gz) ?_ (fun hj2=>?_)
   ·refine Z0 ?_
    have hF:=sf0 (n:=n) (num:=num) (ts:=ts) Za
    exact ZD (r2 [] [.i 0,.b (((decide (num>=(-999)))&&(decide (num<=999)))&&((ts.length:Int)==0))] ⟨0,rfl,rfl,(Bw hF)⟩ (Ze.tup (.cons (lr _) (.cons (lb (Bv hF (by simp [*];try omega))) .nil))))
   refine Z2 1 (ib (b:=((decide (num>=(-999)))&&(decide (num<=999)))) 27 (fun Zb=>?_) (fun Zb=>?_))
   ·have ZX:(num>=(-999))/\(num<=999):=((YL dq dq)).1 Zb
    exact Z2 1 (iw (Yf ts) (Z2 2 (YB (wk [0] (Zt ((ts.length:Int)==0) Zb fl)) hj2)))
   have Yk:¬((num>=(-999))/\(num<=999)):=Yh (YL dq dq) Zb
   exact Z2 4 (YB (wk [0] (Zt false Zb fl)) hj2)
  refine Z2 3 (ib (b:=(decide (num>=(-999)))) 23 (fun ZB=>?_) (fun ZB=>?_))
  ·have YG:num>=(-999):=(dq).1 ZB
   exact Z2 3 (YB (wk [0] (Zt (decide (num<=999)) ZB fl)) hj1)
  have YR:¬(num>=(-999)):=Yh dq ZB
  exact Z2 3 (YB (wk [0] (Zt false ZB fl)) hj1)
 refine Yi (XW (fun fz gz F h=>F=sF [1,2,3,4,11,18] fz [(32,.b ((op==1)||((op==2)||((op==3)||(op==4)))))]/\h=gz) ?_ ?_)
 ·refine ac (op==1) Zq (fun Zg=>?_) (fun Zg=>?_)
  ·exact ak (ZP ⟨rfl,rfl⟩ (wk [0] (fc (x:=.b (op==1)) (lb (by first|rfl|(rw [Zd Zg])|(rw [Z8 Zg])|(simp [Zg];done)|(rw [Xx];simp [Zg];done)|omega)) fl)))
  refine ar (YH (op==2) Zq (fun ZC=>?_) (fun ZC=>?_))
  ·exact ak (ZP ⟨rfl,rfl⟩ (wk [0] (fc (x:=.b (op==2)) (lb (by first|rfl|(rw [Zd Zg])|(rw [Z8 Zg])|(simp [Zg,ZC];done)|(rw [Xx];simp [Zg,ZC];done)|omega)) fl)))
  refine ar (YH (op==3) Zq (fun Yg=>?_) (fun Yg=>?_))
  ·exact ak (ZP ⟨rfl,rfl⟩ (wk [0] (fc (x:=.b (op==3)) (lb (by first|rfl|(rw [Zd Zg])|(rw [Z8 Zg])|(simp [Zg,ZC,Yg];done)|(rw [Xx];simp [Zg,ZC,Yg];done)|omega)) fl)))
  exact Td (ZP ⟨rfl,rfl⟩ (wk [0] (fc (x:=.b (op==4)) (lb (by first|rfl|(rw [Zd Zg])|(rw [Z8 Zg])|(simp [Zg,ZC,Yg];done)|(rw [Xx];simp [Zg,ZC,Yg];done)|omega)) fl)))
 rintro F h ⟨rfl,rfl⟩
 refine ac ((op==1)||((op==2)||((op==3)||(op==4)))) (p:=(op=1)∨((op=2)∨((op=3)∨(op=4)))) (Yr Zq (Yr Zq (Yr Zq Zq))) (fun Xf=>?_) (fun Xf=>?_)
 ·refine az (iL (Z7 [0,0]) 2 1 fun v1=>Z0 (ar (XU 8 [] [(141,.i 0),(148,.b ((num==0)&&(decide (ts=[0,0]))))] (fun gz=>gz) ?_ (fun hj3=>?_))))
  ·refine Z0 ?_
   have hF:=sf1 (n:=n) (num:=num) (ts:=ts) Xf
   exact ZD (r2 [] [.i 0,.b ((num==0)&&(decide (ts=[0,0])))] ⟨0,rfl,rfl,(Bw hF)⟩ (Ze.tup (.cons (lr _) (.cons (lb (Bv hF (by simp [*];try omega))) .nil))))
  refine Z2 4 (ib (b:=(num==0)) 144 (fun YE=>?_) (fun YE=>?_))
  ·have Xl:num=0:=(Zq).1 YE
   exact ZU 2 [(146,Z5 [0,0])] (Zz [] (Ci ts [0,0]) (Z2 1 (YB (wk [0,0] (fr (Zt (decide (ts=[0,0])) YE fl))) hj3)))
  have W2:¬(num=0):=Yh Zq YE
  exact Z2 4 (YB (wk [0,0] (fr (Zt false YE fl))) hj3)
 refine ar (YH (op==5) Zq (fun Xo=>?_) (fun Xo=>?_))
 ·refine az (iL (Z7 [0]) 1 1 fun v2=>Z0 (ar (XU 8 [] [(141,.i 0),(148,.b ((num==0)&&(decide (ts=[0]))))] (fun gz=>gz) ?_ (fun hj4=>?_))))
  ·refine Z0 ?_
   have hF:=sf5 (n:=n) (num:=num) (ts:=ts) Xo
   exact ZD (r2 [] [.i 0,.b ((num==0)&&(decide (ts=[0])))] ⟨0,rfl,rfl,(Bw hF)⟩ (Ze.tup (.cons (lr _) (.cons (lb (Bv hF (by simp [*];try omega))) .nil))))
  refine Z2 4 (ib (b:=(num==0)) 144 (fun Xw=>?_) (fun Xw=>?_))
  ·have WG:num=0:=(Zq).1 Xw
   exact ZU 2 [(146,Z5 [0])] (Zz [] (Ci ts [0]) (Z2 1 (YB (wk [0,0] (fr (Zt (decide (ts=[0])) Xw fl))) hj4)))
  have V3:¬(num=0):=Yh Zq Xw
  exact Z2 4 (YB (wk [0,0] (fr (Zt false Xw fl))) hj4)
 refine ar (YH (op==11) Zq (fun U2=>?_) (fun U2=>?_))
 ·refine YO 1 (iw (Yf ts) (YH ((ts.length:Int) != 2) Ym (fun VR=>?_) (fun VR=>?_)))
  ·refine ZE ?_
   have hF:=Zeu (n:=n) (num:=num) U2 VR
   exact ZD (r2 [] [.i (-1),.b false] ⟨(-1),rfl,rfl,(EB hF)⟩ (Ze.tup (.cons (lr _) (.cons (lb (EA hF)) .nil))))
  refine ak (aD 12 (ZH 9 12 [0,1,2] [0] ?_))
  obtain ⟨x1,Z3⟩:=Zs ts 0 om
  refine dx 3 (Zj none 0 1 (Y3 Z3)) (Zm 7 8 [4] (J2 (fun fz gz F h=>∃(b2:Nat),F=sF [2,3] fz [(12,.p b2 0),(13,.b (W8 n.decls x1))]/\h=[.obj b2 (Ke (VW n.decls x1)),Zc gz 0]) ?_ ?_))
  ·refine VN 5 9 ?_ ?_
   ·exact Yo 5 [] [] [] (G5 n.decls x1) (Zm 3 6 [6,7,8] (Z9 9 (dA 9 [] [] [.i 0,.i 0,nl] fun b2=>Z9 10 (YK 10 0 [] [] b2 (Ke (VW n.decls x1)) (Zm 0 1 [11] (de (ZP ⟨b2,rfl,rfl⟩ (wk [0,0] fl))))))))
   exact dA 9 [0] [b1] [.i 0,.i 0,nl] fun b3=>Z9 5 (Yo 5 [] [] [] (G5 n.decls x1) (Zm 2 5 [6,7,8] (Z9 10 (YK 10 0 [] [] b3 (Ke (VW n.decls x1)) (Zm 0 1 [11] (de (ZP ⟨b3,rfl,rfl⟩ (wk [0,0] fl))))))))
  rintro F h ⟨b2,rfl,rfl⟩
  refine aD 17 (ZH 13 17 [0,1,2,3] [0] (db (b:=W8 n.decls x1) 58 (fun WM=>?_) (fun WM=>?_)))
  ·have Vr:W8 n.decls x1=true:=(Iff.rfl).1 WM
   refine Zm 12 13 [4] ?_
   obtain ⟨x2,Zx⟩:=Zs ts 1 om
   refine dx 5 (Zj none 1 1 (Y3 Zx)) (ZH 4 11 [6,7,8,9,10,11,15] [0] (db (b:=(x2==((VW n.decls x1).frm))) 66 (fun Vi=>?_) (fun Vi=>?_)))
   ·have UK:x2=((VW n.decls x1).frm):=(Zq).1 Vi
    refine Zm 0 4 [12,13,14,16] (de ?_)
    have hF:=Mc (n:=n) (num:=num) U2 VR Z3 Zx
    exact ZD (r2 [] [.i ((VW n.decls x1).to_),.b (num==0)] ⟨(VW n.decls x1).to_,rfl,rfl,(Bw hF)⟩ (Ze.tup (.cons (lr _) (.cons (lb (Bv hF (by simp [*];try omega))) .nil))))
   have Te:¬(x2=((VW n.decls x1).frm)):=Yh Zq Vi
   refine Zm 0 4 [12,13,14,16] (de ?_)
   have hF:=Mc (n:=n) (num:=num) U2 VR Z3 Zx
   exact ZD (r2 [] [.i ((VW n.decls x1).to_),.b false] ⟨(VW n.decls x1).to_,rfl,rfl,(Bw hF)⟩ (Ze.tup (.cons (lr _) (.cons (lb (Bv hF (by simp [*]))) .nil))))
  have Tf:¬(W8 n.decls x1=true):=Yh Iff.rfl WM
  refine Zm 0 13 [4,5,6,7,8,9,10,11,12,13,14,15,16] (de ?_)
  have hF:=Zet (n:=n) (num:=num) U2 VR Z3 (by assumption)
  exact ZD (r2 [] [.i ((VW n.decls x1).to_),.b false] ⟨(VW n.decls x1).to_,rfl,rfl,(EB hF)⟩ (Ze.tup (.cons (lr _) (.cons (lb (EA hF)) .nil))))
 refine ar (YH (op==6) Zq (fun VS=>?_) (fun VS=>?_))
 ·refine Zw 3 [0] (Zz [] (Pf n.decls num) (Z2 3 (iA [nl] fun b4=>Z2 1 (ZI 0 b4 [Z5 (ZV n.decls num)] (ie (ar (XU 9 [] [(79,.i (Wm n.decls num)),(87,.b ((decide ((Wm n.decls num)>=0))&&(decide (ts=(ZV n.decls num)))))] (fun gz=>gz) ?_ (fun hj5=>?_))))))))
  ·refine Z0 ?_
   have hF:=sf6 (n:=n) (num:=num) (ts:=ts) VS
   exact ZD (r2 [] [.i (Wm n.decls num),.b ((decide ((Wm n.decls num)>=0))&&(decide (ts=(ZV n.decls num))))] ⟨Wm n.decls num,rfl,rfl,(Bw hF)⟩ (Ze.tup (.cons (lr _) (.cons (lb (Bv hF (by simp [*];try omega))) .nil))))
  refine Z2 4 (ib (b:=(decide ((Wm n.decls num)>=0))) 82 (fun Vz=>?_) (fun Vz=>?_))
  ·have QG:(Wm n.decls num)>=0:=(dq).1 Vz
   exact ZO 3 [0] (Zz [] (Ci ts (ZV n.decls num)) (Z2 1 (YB (wk [0,0] (fr (Zt (decide (ts=(ZV n.decls num))) Vz fl))) hj5)))
  have Qq:¬((Wm n.decls num)>=0):=Yh dq Vz
  exact Z2 5 (YB (wk [0,0] (fr (Zt false Vz fl))) hj5)
 refine Yi (XW (fun fz gz F h=>F=sF [1,2,3,4] fz [(88,.b ((op==9)||(op==10)))]/\h=gz) ?_ ?_)
 ·refine ac (op==9) Zq (fun TG=>?_) (fun TG=>?_)
  ·exact ak (ZP ⟨rfl,rfl⟩ (wk [0] (fc (x:=.b (op==9)) (lb (by first|rfl|(rw [Zd TG])|(rw [Z8 TG])|(simp [TG];done)|(rw [Xx];simp [TG];done)|omega)) fl)))
  exact Td (ZP ⟨rfl,rfl⟩ (wk [0] (fc (x:=.b (op==10)) (lb (by first|rfl|(rw [Zd TG])|(rw [Z8 TG])|(simp [TG];done)|(rw [Xx];simp [TG];done)|omega)) fl)))
 rintro F h ⟨rfl,rfl⟩
 refine ac ((op==9)||(op==10)) (p:=(op=9)∨(op=10)) (Yr Zq Zq) (fun JC=>?_) (fun JC=>?_)
 ·refine X9 (Xv [1,2,3,4] [(99,.b ((decide (num<0))||(decide (num>=(((n.routines.map W5).length:Nat):Int)))))] (fun gz=>gz) ?_ ?_)
  ·refine Z2 3 (ib (b:=(decide (num<0))) 93 (fun Vp=>?_) (fun Vp=>?_))
   ·have J6:num<0:=(dq).1 Vp
    exact Z0 (wk [0] (Zt true Vp fl))
   have KG:¬(num<0):=Yh dq Vp
   exact ZO 3 [0] (io (.i (((n.routines.map W5).length:Nat):Int)) (.i (((Ts (n.routines.map W5)).length:Nat):Int)) (li (by rw [DT])) (Z0 (wk [0] (Zt (decide (num>=(((n.routines.map W5).length:Nat):Int))) Vp fl))))
  refine ac ((decide (num<0))||(decide (num>=(((n.routines.map W5).length:Nat):Int)))) (p:=(num<0)∨(num>=(((n.routines.map W5).length:Nat):Int))) (Yr dq dq) (fun Q8=>?_) (fun Q8=>?_)
  ·refine ZE ?_
   have hF:=Zev (n:=n) (ts:=ts) JC Q8
   exact ZD (r2 [] [.i (-1),.b false] ⟨(-1),rfl,rfl,(EB hF)⟩ (Ze.tup (.cons (lr _) (.cons (lb (EA hF)) .nil))))
  refine ak (aD 14 (ZH 11 14 [0,1,2] [0] ?_))
  obtain ⟨x3,YS⟩:=Zs (n.routines.map W5) num.toNat om
  obtain ⟨r,hr,hrx⟩:=GU YS
  have hrp:=hn.params_at hr
  have hpx:x3.pms=r.params:=by rw [hrx];rfl
  have hpl:x3.pms.length<=3:=by rw [hpx];exact hrp
  refine dx 3 (Zj none num 3 (BY YS)) (ZH 5 10 [4,5,6,7,8] [0] (dx 9 (Zj none num 3 (BY YS)) (Zm 0 4 [10,11,12,13] (de (X9 (YH (op==9) Zq (fun J5=>?_) (fun J5=>?_)))))))
  ·refine Ya 3 (Zz [] (Ci ts x3.pms) (Z0 ?_))
   have hF:=sf9 (ts:=ts) J5 Q8 YS
   exact ZD (r2 [] [.i x3.res,.b (decide (ts=x3.pms))] ⟨x3.res,rfl,rfl,(Bw hF)⟩ (Ze.tup (.cons (lr _) (.cons (lb (Bv hF (by simp [*];try omega))) .nil))))
  refine ak (Ya 1 (iw (Yf x3.pms) (ia (((x3.pms.length:Int)-1)) (((x3.pms.length:Int))-(1)) (Z0 (X9 (Y5 (((x3.pms.length:Int)-1)<0) (fun C5=>?_) (fun C5=>?_)))))))
  ·refine ZE ?_
   have hF:=Zes (ts:=ts) (JC.resolve_left J5) Q8 YS C5
   exact ZD (r2 [] [.i (-1),.b false] ⟨(-1),rfl,rfl,(EB hF)⟩ (Ze.tup (.cons (lr _) (.cons (lb (EA hF)) .nil))))
  refine ak (aD 9 (ZH 5 9 [0,1,2,3] [0] ?_))
  obtain ⟨x4,VI⟩:=Zs x3.pms (((x3.pms.length:Int)-1).toNat) om
  refine dx 4 (Zj none ((x3.pms.length:Int)-1) 1 (Y3 VI)) (Zm 2 4 [5,6] (Z9 7 (Yo 7 [] [] [] (Z9w n.decls x4 x3.res) (Zm 0 1 [8] (de (ar (XU 10 [] [(131,.i (Ux n.decls x4 x3.res)),(140,.b ((decide ((Ux n.decls x4 x3.res)>=0))&&(decide (ts=(x3.pms.take (((x3.pms.length:Int)-1).toNat))))))] (fun gz=>gz) ?_ (fun hj6=>?_))))))))
  ·refine Z0 ?_
   have hF:=Zer (ts:=ts) (JC.resolve_left J5) Q8 YS C5 VI
   exact ZD (r2 [] [.i (Ux n.decls x4 x3.res),.b ((decide ((Ux n.decls x4 x3.res)>=0))&&(decide (ts=(x3.pms.take (((x3.pms.length:Int)-1).toNat)))))] ⟨Ux n.decls x4 x3.res,rfl,rfl,(Bw hF)⟩ (Ze.tup (.cons (lr _) (.cons (lb (Bv hF (by rw [Xx];simp))) .nil))))
  refine Z2 4 (ib (b:=(decide ((Ux n.decls x4 x3.res)>=0))) 134 (fun Vq=>?_) (fun Vq=>?_))
  ·have Bg:(Ux n.decls x4 x3.res)>=0:=(dq).1 Vq
   exact Z2 3 (Zo (Ko (es:=Z7 x3.pms) (hv:=none) (l:=0) (m:=((x3.pms.length:Int)-1)) (sz:=1) (es':=Z7 (x3.pms.take (((x3.pms.length:Int)-1).toNat))) kr om (by simp<;>omega) (by simp<;>omega) (YC _) (by first|(simp only [Vm,V6,Jz,Ao];done)|(simp only [Vm,V6,Jz,Ao];rfl)|(simp [Jz,Ao];done))) (Zz [] (Ci ts (x3.pms.take (((x3.pms.length:Int)-1).toNat))) (Z2 1 (YB (wk [0] (fr (Zt (decide (ts=(x3.pms.take (((x3.pms.length:Int)-1).toNat)))) Vq fl))) hj6))))
  have JE:¬((Ux n.decls x4 x3.res)>=0):=Yh dq Vq
  exact Z2 6 (YB (wk [0] (fr (Zt false Vq fl))) hj6)
 refine ZE ?_
 have hF:=sfd (n:=n) (num:=num) (ts:=ts) Za Xf Xo U2 VS JC
 exact ZD (r2 [] [.i (-1),.b false] ⟨(-1),rfl,rfl,(EB hF)⟩ (Ze.tup (.cons (lr _) (.cons (lb (EA hF)) .nil))))
theorem Pj (n:Zi) (us:LI) (ks:List Z6) (ms:List LI) (hn:X6 n:=by exact ob) (hnn:∀t∈us,0<=t) (hk:0<ks.length:=by exact ob) (hl:ks.length=ms.length:=by exact ob) (hb:us.length+3+4*Xc ks<=1000000000:=by exact ob) (hr:K0 ks:=by exact ob) (hm3:∀m∈ms,m.length<=3) (hmn:∀m∈ms,∀f∈m,0<=f) (ih:∀(b:Z6) (us:LI),(b.sz<=Xc ks)->(us.length+4*b.sz<=1000000000)->(b.rng)->(∀t∈us,0<=t)->Zk 67 [.agg [ZT n.decls,YW n],Z5 us,ZZ b] [] (Ys (.i (Xh n us b)))):Zk 181 [.agg [ZT n.decls,YW n],Z5 us,Wb ks,Kf ms] [] (Ys (.tup [.i (Wy n us ks ms true 0),.b (decide (0<=Wy n us ks ms true 0))])):=by
 have hkl:=Nw ks
 refine ZF 45 Tryz.func181 (ar (iA [ZT n.decls,YW n] fun b1=>?_))
 refine Z0 (ZE (YO 1 (iw (Uy ks) (Z0 (ab 0 (Y6 (fun fz gz m F h=>∃(k:Nat) (t:Int),(k<=ks.length)/\(0<k->0<=t)/\(Wy n us (ks.drop k) (ms.drop k) (decide (k=0)) t=Wy n us ks ms true 0)/\F=sF [1,3,4,14,15] fz [(10,.i t),(16,.i k)]/\h=gz/\m=ks.length-k) _ _ _ ⟨0,(-1),ob,ob,(Zba hk (-1)),rfl,rfl,rfl⟩ (wk [0] (fr (Yd fl))) ?_))))))
 rintro m F h ⟨k,t,Yj,Zl,Zy,rfl,rfl,rfl⟩
 refine ZE (aq (W9 ((k:Int)<(ks.length:Int)) (fun Za=>?_) (fun Za=>?_)))
 ·refine ak (aq (ab 1 (Ya 1 ?_)))
  obtain ⟨x1,Z3⟩:=Zs ks k om
  have ZL:=Nx Z3
  have hbr:=Fa hr Z3
  refine Zo (Zj none (k:Int) 2 (T9 Z3)) (Z2 1 (iA [nl,.i 0] fun b2=>Z2 1 (ZI 0 b2 (Xm x1) (ie (aD 11 (ZH 7 11 [0,1,2,3] [1] ?_))))))
  obtain ⟨x2,Zx⟩:=Zs ms k om
  have hxl:=hm3 x2 (ZW Zx)
  have hxn:=hmn x2 (ZW Zx)
  refine dx 4 (Zj none (k:Int) 1 (B7 Zx)) (ZH 4 6 [5,8] [0] (Z9 6 (dL 6 [0,1] [b2,b1] (Wu [us,x2]) 2 1 fun v1=>Yw 3 3 [] [(27,Kf [us,x2])] (Z9 7 (dc 7 [] [0,1] [b2,b1] (Zf0 [us,x2] (hf:=(by simp only [EM,Yt];omega))) ?_)))))
  rintro _ _ ⟨v2,rfl,rfl⟩
  refine Yw 2 2 [] [(28,Z5 ([us,x2].flatten))] (Z9 9 (Yo 9 [] [] [] (ih x1 ([us,x2].flatten) ob (by simp only [EM,Yt];omega) ob (by rw [EM];exact Ei hnn hxn)) (Zm 0 1 [10] (de (X9 (Xv [1,3,4,13,14,15,16] [(41,.b ((decide ((Xh n ([us,x2].flatten) x1)<0))||((decide ((k:Int)>0))&&((Xh n ([us,x2].flatten) x1) != t))))] (fun gz=>gz) ?_ ?_))))))
  ·refine Z2 3 (ib (b:=(decide ((Xh n ([us,x2].flatten) x1)<0))) 33 (fun Zb=>?_) (fun Zb=>?_))
   ·exact Z0 (ZG 4 (Zt true Zb fl))
   refine Z2 3 (ib (b:=(decide ((k:Int)>0))) 36 (fun ZB=>?_) (fun ZB=>?_))
   ·exact Z0 (ZG 4 (Zt ((Xh n ([us,x2].flatten) x1) != t) (And.intro Zb ZB) fl))
   exact Z0 (ZG 4 (Zt false (And.intro Zb ZB) fl))
  refine ac ((decide ((Xh n ([us,x2].flatten) x1)<0))||((decide ((k:Int)>0))&&((Xh n ([us,x2].flatten) x1) != t))) (p:=((Xh n ([us,x2].flatten) x1)<0)∨(((k:Int)>0)/\((Xh n ([us,x2].flatten) x1)≠t))) (Yr dq (YL dq Ym)) (fun Zg=>?_) (fun Zg=>?_)
  ·refine ZE ?_
   have hK:Wy n us ks ms true 0=-1:=by rw [<-Zy];rw [EM] at Zg;exact PQ Z3 Zx Zg
   exact ZD (r2 [] [.i (-1),.b false] ⟨rfl,rfl⟩ (Ze.tup (.cons (li (by rw [hK])) (.cons (lb (by rw [hK];rfl)) .nil))))
  exact ak (Td (az (ZJ k (Z0 (ZK ⟨k+1,Xh n ([us,x2].flatten) x1,ob,(by intro _;omega),(by rw [EM] at Zg ⊢;rw [<-Zy];exact (PS Z3 Zx Zg).symm),rfl,rfl,rfl⟩ (wk [3] (fr (ZM k fl))))))))
 refine ax 0 (ZE ?_)
 have hK:Wy n us ks ms true 0=t:=by rw [<-Zy];exact PR om
 exact ZD (r2 [] [.i t,.b true] ⟨rfl,rfl⟩ (Ze.tup (.cons (li (by rw [hK])) (.cons (lb (by rw [hK];exact (decide_eq_true (Zl om)).symm)) .nil))))
theorem Pl (n:Zi) (us:LI) (s:Z4) (hn:X6 n:=by exact ob) (hty:Kv n:=by exact ob) (hnn:∀t∈us,0<=t) (hb:us.length+4*s.sz<=1000000000:=by exact ob) (hr:s.rng:=by exact ob) (ih:∀(b:Z6) (us:LI),(b.sz<s.sz)->(us.length+4*b.sz<=1000000000)->(b.rng)->(∀t∈us,0<=t)->Zk 67 [.agg [ZT n.decls,YW n],Z5 us,ZZ b] [] (Ys (.i (Xh n us b)))):Zk 127 [.agg [ZT n.decls,YW n],Z5 us,YI s] [] (fun r h=>∃(t:Int),r=.tup [.i t,.b (decide (0<=Yc n us s))]/\h=[]/\(¬YF s.op=true->0<=Yc n us s->t=Yc n us s)):=by
 have XB:=hn.decls
 have hkz:=TK s
 have haz:=QA s
 have hse:=s.sz_eq
 rw [s.rng_eq] at hr
 obtain ⟨hnum,hkr⟩:=hr
 refine ZF 233 Tryz.func127 (ar (iA [ZT n.decls,YW n] fun b1=>iA (XG s) fun b2=>Z0 (Zw 2 [0] (iw (Yf s.args) (iM 0 s.args.length fun v1=>?_)))))
 refine Z0 (Yl 2 [1] (iw (Yf s.args) (Z0 (ab 0 (Y6 (fun fz gz m F h=>∃(k:Nat) (ts:LI) (v:Value),(k<=s.args.length)/\(ts.length=k)/\(Wt us (s.args.take k)=some ts)/\F=sF [1,3,5,20,21] fz [(8,ZQ ts v),(22,.i k)]/\h=[Zc gz 1,Zc gz 2,.tail v 1]/\m=s.args.length-k) _ _ _ ⟨0,[],v1,ob,ob,ob,rfl,rfl,rfl⟩ (wk [1,1,0] (fr (Yd fl))) ?_)))))
 rintro m F h ⟨k,ts,v,Yj,Zl,Zy,rfl,rfl,rfl⟩
 refine ZE (aq (W9 ((k:Int)<(s.args.length:Int)) (fun Za=>?_) (fun Za=>?_)))
 ·refine ak (aq (ab 1 (ar ?_)))
  obtain ⟨x1,Z3⟩:=Zs s.args k om
  refine Zo (Zj none (k:Int) 1 (Y3 Z3)) (Z0 (X9 (Xv [1,3,5,8,10,20,21,22] [(33,.b ((decide (x1<0))||(decide (x1>=(us.length:Int)))))] (fun gz=>gz) ?_ ?_)))
  ·refine Z2 3 (ib (b:=(decide (x1<0))) 28 (fun Zb=>?_) (fun Zb=>?_))
   ·have ZX:x1<0:=(dq).1 Zb
    exact Z0 (ZG 3 (Zt true Zb fl))
   have Yk:¬(x1<0):=Yh dq Zb
   exact Z2 2 (iw (Yf us) (Z0 (ZG 3 (Zt (decide (x1>=(us.length:Int))) Zb fl))))
  refine ac ((decide (x1<0))||(decide (x1>=(us.length:Int)))) (p:=(x1<0)∨(x1>=(us.length:Int))) (Yr dq dq) (fun Zg=>?_) (fun Zg=>?_)
  ·refine ZE ?_
   have hS:Yc n us s=-1:=Zh0 (N4 Z3 (Kz om))
   exact ZD (r2 [] [.i (-1),.b false] ⟨(-1),rfl,rfl,(by intro _ h;rw [hS] at h;omega)⟩ (Ze.tup (.cons (lr _) (.cons (lb (by rw [hS];rfl)) .nil))))
  refine ak (az (Z2 3 ?_))
  obtain ⟨x2,Zx⟩:=Zs us x1.toNat om
  exact Zo (Zj none x1 1 (Y3 Zx)) (Z2 1 (iL (Z7 [x2]) 1 1 fun v2=>ZU 0 [(39,Z5 [x2])] (ip 3 (Z7 (ts++[x2])) (Z7 ts) (Z7 [x2]) v none 1 (YC _) (YC _) (We _) (by simp<;>omega) (by simp [Wd,Z7]) fun v3=>Z0 (az (ZJ k (Z0 (ZK ⟨k+1,(ts++[x2]),v3,ob,ob,(Z2n Zy Z3 (by rw [Ql om Zx])),rfl,rfl,rfl⟩ (wk [2,2,0] (fr (ZM k fl))))))))))
 refine ax 0 (X9 (Xv [1,3,5,8] [(70,.b ((s.into != 0)&&((s.op != 6)||((decide (s.into<1))||((decide (s.into>(us.length:Int)))||((gI us (s.into-1))==0))))))] (fun gz=>gz) ?_ ?_))
 ·refine ZO 4 [0] (ib (b:=(s.into != 0)) 45 (fun ZB=>?_) (fun ZB=>?_))
  ·have YG:s.into≠0:=(Ym).1 ZB
   refine ZO 4 [0] (ib (b:=(s.op != 6)) 49 (fun YE=>?_) (fun YE=>?_))
   ·have YR:s.op≠6:=(Ym).1 YE
    exact Z0 (ZG 3 (Zt true (And.intro ZB YE) fl))
   have Xl:¬(s.op≠6):=Yh Ym YE
   refine ZO 5 [0] (ib (b:=(decide (s.into<1))) 54 (fun Xw=>?_) (fun Xw=>?_))
   ·have W2:s.into<1:=(dq).1 Xw
    exact Z0 (ZG 3 (Zt true (And.intro ZB (And.intro YE Xw)) fl))
   have WG:¬(s.into<1):=Yh dq Xw
   refine ZO 3 [0] (iw (Yf us) (Z2 3 (ib (b:=(decide (s.into>(us.length:Int)))) 61 (fun WM=>?_) (fun WM=>?_))))
   ·have V3:s.into>(us.length:Int):=(dq).1 WM
    exact Z0 (ZG 3 (Zt true (And.intro ZB (And.intro YE (And.intro Xw WM))) fl))
   have Vr:¬(s.into>(us.length:Int)):=Yh dq WM
   exact ZO 3 [0] (ia ((s.into-1)) ((s.into)-(1)) (Zo (AI (es:=Z7 us) (hv:=none) (j:=(s.into-1)) (sz:=1) (y:=.i (gI us (s.into-1))) kr om (Y3 (OG om)) rfl) (Z0 (ZG 3 (Zt ((gI us (s.into-1))==0) (And.intro ZB (And.intro YE (And.intro Xw WM))) fl)))))
  have UK:¬(s.into≠0):=Yh Ym ZB
  exact Z0 (ZG 3 (Zt false ZB fl))
 refine ac ((s.into != 0)&&((s.op != 6)||((decide (s.into<1))||((decide (s.into>(us.length:Int)))||((gI us (s.into-1))==0))))) (p:=(s.into≠0)/\((s.op≠6)∨((s.into<1)∨((s.into>(us.length:Int))∨((gI us (s.into-1))=0))))) (YL Ym (Yr Ym (Yr dq (Yr dq Zq)))) (fun ZC=>?_) (fun ZC=>?_)
 ·refine ZE ?_
  have hS:Yc n us s=-1:=Zh1 (Ay.1 ZC)
  exact ZD (r2 [] [.i (-1),.b false] ⟨(-1),rfl,rfl,(by intro _ h;rw [hS] at h;omega)⟩ (Ze.tup (.cons (lr _) (.cons (lb (by rw [hS];rfl)) .nil))))
 refine ak (aq (ab 2 (Zw 2 [0] (Zz [] (IY s.op) (YH (YF s.op) Iff.rfl (fun Yg=>?_) (fun Yg=>?_))))))
 ·refine Ya 1 (iw (Yf ts) (XU 9 [3,5,8] [(83,.b (((ts.length:Int)==1)&&((gI ts 0) != 0)))] (fun gz=>gz) ?_ (fun hj1=>?_)))
  ·refine XU 14 [3,5,8] [(88,.b ((((ts.length:Int)==1)&&((gI ts 0) != 0))&&(s.num==0)))] (fun gz=>gz) ?_ (fun hj2=>?_)
   ·refine XU 20 [3,5,8] [(94,.b (((((ts.length:Int)==1)&&((gI ts 0) != 0))&&(s.num==0))&&((s.kids.length:Int)==0)))] (fun gz=>gz) ?_ (fun hj3=>?_)
    ·refine Z0 (X9 (Xv [3,8,11] [(105,.b ((((((ts.length:Int)==1)&&((gI ts 0) != 0))&&(s.num==0))&&((s.kids.length:Int)==0))&&((s.op==16)||(s.op==17))))] (fun gz=>gz) ?_ ?_))
     ·refine Z2 2 (ib (b:=(((((ts.length:Int)==1)&&((gI ts 0) != 0))&&(s.num==0))&&((s.kids.length:Int)==0))) 96 (fun Vi=>?_) (fun Vi=>?_))
      ·have Te:((((ts.length:Int)=1)/\((gI ts 0)≠0))/\(s.num=0))/\((s.kids.length:Int)=0):=((YL (YL (YL Zq Ym) Zq) Zq)).1 Vi
       refine ZO 4 [0] (ib (b:=(s.op==16)) 100 (fun Vz=>?_) (fun Vz=>?_))
       ·have Tf:s.op=16:=(Zq).1 Vz
        exact Z0 (ZG 3 (Zt true (And.intro Vi Vz) fl))
       have QG:¬(s.op=16):=Yh Zq Vz
       exact VT [0] (ZG 3 (Zt (s.op==17) (And.intro Vi Vz) fl))
      have Qq:¬(((((ts.length:Int)=1)/\((gI ts 0)≠0))/\(s.num=0))/\((s.kids.length:Int)=0)):=Yh (YL (YL (YL Zq Ym) Zq) Zq) Vi
      exact Z0 (ZG 3 (Zt false Vi fl))
     refine ac ((((((ts.length:Int)==1)&&((gI ts 0) != 0))&&(s.num==0))&&((s.kids.length:Int)==0))&&((s.op==16)||(s.op==17))) (p:=(((((ts.length:Int)=1)/\((gI ts 0)≠0))/\(s.num=0))/\((s.kids.length:Int)=0))/\((s.op=16)∨(s.op=17))) (YL (YL (YL (YL Zq Ym) Zq) Zq) (Yr Zq Zq)) (fun Xf=>?_) (fun Xf=>?_)
     ·refine aD 12 (ZH 9 12 [0,1,2] [1] (dx 3 (AI (es:=Z7 ts) (hv:=some v) (j:=0) (sz:=1) (y:=.i (gI ts 0)) kr om (Y3 (FK om)) rfl) (Zm 7 8 [4] (J2 (fun fz gz F h=>F=sF [] fz [(13,.b (W8 n.decls (gI ts 0)))]/\h=gz) ?_ ?_))))
      ·refine VN 5 9 ?_ ?_
       ·exact Yo 5 [] [] [] (G5 n.decls (gI ts 0)) (Zm 3 6 [6,7,8] (Z9 9 (dA 9 [] [] [.i 0,.i 0,nl] fun b3=>Z9 10 (YK 10 0 [] [] b3 (Ke (VW n.decls (gI ts 0))) (Zm 0 1 [11] (de (ZP ⟨rfl,rfl⟩ (wk [1,1,1] fl))))))))
       exact dA 9 [1] [b1] [.i 0,.i 0,nl] fun b4=>Z9 5 (Yo 5 [] [] [] (G5 n.decls (gI ts 0)) (Zm 2 5 [6,7,8] (Z9 10 (YK 10 0 [] [] b4 (Ke (VW n.decls (gI ts 0))) (Zm 0 1 [11] (de (ZP ⟨rfl,rfl⟩ (wk [1,1,1] fl))))))))
      rintro F h ⟨rfl,rfl⟩
      refine Td (ZE ?_)
      have hS0:=BD (n:=n) hnn (B1 Zy om) (fun q=>ZC (Ay.2 q))
      exact ZD (r2 [] [.i (-1),.b (!W8 n.decls (gI ts 0))] ⟨(-1),rfl,rfl,(fun q=>absurd Yg q)⟩ (Ze.tup (.cons (lr _) (.cons (lb (Zgf hS0 Yg Xf)) .nil))))
     refine ak (ZE ?_)
     have hS0:=BD (n:=n) hnn (B1 Zy om) (fun q=>ZC (Ay.2 q))
     exact ZD (r2 [] [.i (-1),.b (((((ts.length:Int)==1)&&((gI ts 0) != 0))&&(s.num==0))&&((s.kids.length:Int)==0))] ⟨(-1),rfl,rfl,(fun q=>absurd Yg q)⟩ (Ze.tup (.cons (lr _) (.cons (lb (Zgg hS0 Yg Xf)) .nil))))
    refine Z2 1 (ib (b:=((((ts.length:Int)==1)&&((gI ts 0) != 0))&&(s.num==0))) 89 (fun Vp=>?_) (fun Vp=>?_))
    ·have J6:(((ts.length:Int)=1)/\((gI ts 0)≠0))/\(s.num=0):=((YL (YL Zq Ym) Zq)).1 Vp
     exact ZO 2 [0] (iw (Uy s.kids) (Z2 2 (YB (ZG 3 (Zt ((s.kids.length:Int)==0) Vp fl)) hj3)))
    have KG:¬((((ts.length:Int)=1)/\((gI ts 0)≠0))/\(s.num=0)):=Yh (YL (YL Zq Ym) Zq) Vp
    exact Z2 5 (YB (ZG 3 (Zt false Vp fl)) hj3)
   refine Z2 1 (ib (b:=(((ts.length:Int)==1)&&((gI ts 0) != 0))) 84 (fun Vq=>?_) (fun Vq=>?_))
   ·have Bg:((ts.length:Int)=1)/\((gI ts 0)≠0):=((YL Zq Ym)).1 Vq
    exact ZO 4 [0] (YB (ZG 3 (Zt (s.num==0) Vq fl)) hj2)
   have JE:¬(((ts.length:Int)=1)/\((gI ts 0)≠0)):=Yh (YL Zq Ym) Vq
   exact Z2 4 (YB (ZG 3 (Zt false Vq fl)) hj2)
  refine Z2 2 (ib (b:=((ts.length:Int)==1)) 78 (fun QF=>?_) (fun QF=>?_))
  ·have P7:(ts.length:Int)=1:=(Zq).1 QF
   exact Z2 1 (Zo (AI (es:=Z7 ts) (hv:=some v) (j:=0) (sz:=1) (y:=.i (gI ts 0)) kr om (Y3 (FK om)) rfl) (Z2 3 (YB (ZG 3 (Zt ((gI ts 0) != 0) QF fl)) hj1)))
  have P8:¬((ts.length:Int)=1):=Yh Zq QF
  exact Z2 5 (YB (ZG 3 (Zt false QF fl)) hj1)
 refine Bc [0] (ac (s.op==7) Zq (fun Xo=>?_) (fun Xo=>?_))
 ·refine YO 1 (iw (Yf ts) (XU 9 [1,3,5] [(130,.b (((ts.length:Int) != 1)||((gI ts 0) != 0)))] (fun gz=>gz) ?_ (fun hj4=>?_)))
  ·refine XU 14 [1,3,5] [(135,.b ((((ts.length:Int) != 1)||((gI ts 0) != 0))||(s.num != 0)))] (fun gz=>gz) ?_ (fun hj5=>?_)
   ·refine Xv [1,3,5] [(141,.b (((((ts.length:Int) != 1)||((gI ts 0) != 0))||(s.num != 0))||((s.kids.length:Int) != 2)))] (fun gz=>gz) ?_ ?_
    ·refine Z2 1 (ib (b:=((((ts.length:Int) != 1)||((gI ts 0) != 0))||(s.num != 0))) 136 (fun Av=>?_) (fun Av=>?_))
     ·have IU:(((ts.length:Int)≠1)∨((gI ts 0)≠0))∨(s.num≠0):=((Yr (Yr Ym Ym) Ym)).1 Av
      exact Z0 (ZG 3 (Zt true Av fl))
     have Z97:¬((((ts.length:Int)≠1)∨((gI ts 0)≠0))∨(s.num≠0)):=Yh (Yr (Yr Ym Ym) Ym) Av
     exact ZO 2 [0] (iw (Uy s.kids) (Z0 (ZG 3 (Zt ((s.kids.length:Int) != 2) Av fl))))
    refine ac (((((ts.length:Int) != 1)||((gI ts 0) != 0))||(s.num != 0))||((s.kids.length:Int) != 2)) (p:=((((ts.length:Int)≠1)∨((gI ts 0)≠0))∨(s.num≠0))∨((s.kids.length:Int)≠2)) (Yr (Yr (Yr Ym Ym) Ym) Ym) (fun U2=>?_) (fun U2=>?_)
    ·refine ZE ?_
     have hS0:=BD (n:=n) hnn (B1 Zy om) (fun q=>ZC (Ay.2 q))
     have hS:=Zgb hS0 Yg Xo U2
     exact ZD (r2 [] [.i (-1),.b false] ⟨(-1),rfl,rfl,(by intro _ h;rw [hS] at h;omega)⟩ (Ze.tup (.cons (lr _) (.cons (lb (by rw [hS];rfl)) .nil))))
    refine ak (aD 10 (ZH 6 10 [0,1,2,3] [1,0] (Z9 4 (dMN 4 [0,1] [b2,b1] 2 2 fun v4=>Yw 5 5 [] [(146,Kf (List.replicate 2 []))] (Z9 5 (Yo 5 [] [] [] (Pj n us s.kids (List.replicate 2 []) (hnn:=hnn) (hm3:=(by intro m hm;first|(rw [Hn hm];simp;done)|(obtain ⟨c,_,rfl⟩:=Wf.1 hm;exact Ud XB c))) (hmn:=(by intro m hm f hf;first|(rw [Hn hm] at hf;simp at hf;done)|(obtain ⟨c,_,rfl⟩:=Wf.1 hm;exact hty.fields c f hf))) (ih:=(fun b us2 h1 h2 h3 h4=>ih b us2 om h2 h3 h4))) (Zm 0 4 [6,7,8,9] (de ?_))))))))
    have hS0:=BD (n:=n) hnn (B1 Zy om) (fun q=>ZC (Ay.2 q))
    have hS:=Zgc hS0 Yg Xo U2
    exact ZD (r2 [] [.i (Wy n us s.kids (List.replicate 2 []) true 0),.b (decide (0<=Wy n us s.kids (List.replicate 2 []) true 0))] ⟨Wy n us s.kids (List.replicate 2 []) true 0,rfl,rfl,(fun _ _=>hS.symm)⟩ (Ze.tup (.cons (lr _) (.cons (lb (by rw [hS])) .nil))))
   refine Z2 1 (ib (b:=(((ts.length:Int) != 1)||((gI ts 0) != 0))) 131 (fun Aw=>?_) (fun Aw=>?_))
   ·have Z98:((ts.length:Int)≠1)∨((gI ts 0)≠0):=((Yr Ym Ym)).1 Aw
    exact Z2 4 (YB (ZG 3 (Zt true Aw fl)) hj5)
   have Z99:¬(((ts.length:Int)≠1)∨((gI ts 0)≠0)):=Yh (Yr Ym Ym) Aw
   exact ZO 4 [0] (YB (ZG 3 (Zt (s.num != 0) Aw fl)) hj5)
  refine Z2 2 (ib (b:=((ts.length:Int) != 1)) 125 (fun E4=>?_) (fun E4=>?_))
  ·have Z9a:(ts.length:Int)≠1:=(Ym).1 E4
   exact Z2 5 (YB (ZG 3 (Zt true E4 fl)) hj4)
  have Z9b:¬((ts.length:Int)≠1):=Yh Ym E4
  exact Z2 1 (Zo (AI (es:=Z7 ts) (hv:=some v) (j:=0) (sz:=1) (y:=.i (gI ts 0)) kr om (Y3 (FK om)) rfl) (Z2 3 (YB (ZG 3 (Zt ((gI ts 0) != 0) E4 fl)) hj4)))
 refine Bc [0] (ac (s.op==8) Zq (fun VR=>?_) (fun VR=>?_))
 ·refine Zw 3 [1,0] (Zz [] (Pi _ s.num) (Z0 (aq (aD 24 (Zm 23 24 [0] (dw 1 (Yf ts) (Ak [1,3,5,14] [(181,.b (((ts.length:Int) != 1)||(((gI ts 0) != s.num)||((((((ZY n.decls s.num).map (ZV n.decls)).length:Nat):Int)==0)||((s.kids.length:Int) != ((((ZY n.decls s.num).map (ZV n.decls)).length:Nat):Int))))))] (fun gz=>gz) ?_ ?_)))))))
  ·refine Zm 20 22 [2,3] (db (b:=((ts.length:Int) != 1)) 161 (fun C3=>?_) (fun C3=>?_))
   ·have Z9c:(ts.length:Int)≠1:=(Ym).1 C3
    exact Zm 0 20 [4,5,6,7,8,9,10,11,12,13,14,15,16,17,18,19,20,21,22,23] (de (ZG 3 (Zt true C3 fl)))
   have Z9d:¬((ts.length:Int)≠1):=Yh Ym C3
   refine Zm 19 20 [4] (dx 5 (AI (es:=Z7 ts) (hv:=some v) (j:=0) (sz:=1) (y:=.i (gI ts 0)) kr om (Y3 (FK om)) rfl) (ZH 12 18 [6,7,8,9,10,11] [0] (db (b:=((gI ts 0) != s.num)) 169 (fun CT=>?_) (fun CT=>?_))))
   ·have Z9e:(gI ts 0)≠s.num:=(Ym).1 CT
    exact Zm 0 12 [12,13,14,15,16,17,18,19,20,21,22,23] (de (ZG 3 (Zt true (And.intro C3 CT) fl)))
   have IV:¬((gI ts 0)≠s.num):=Yh Ym CT
   refine Zm 11 12 [12] (dn 13 (.i ((((ZY n.decls s.num).map (ZV n.decls)).length:Nat):Int)) (.i (((Wu ((ZY n.decls s.num).map (ZV n.decls))).length:Nat):Int)) (li (by rw [Fx])) (Zm 7 10 [14,15,16] (db (b:=(((((ZY n.decls s.num).map (ZV n.decls)).length:Nat):Int)==0)) 174 (fun E5=>?_) (fun E5=>?_))))
   ·have IW:((((ZY n.decls s.num).map (ZV n.decls)).length:Nat):Int)=0:=(Zq).1 E5
    exact Zm 0 7 [17,18,19,20,21,22,23] (de (ZG 3 (Zt true (And.intro C3 (And.intro CT E5)) fl)))
   have P9:¬(((((ZY n.decls s.num).map (ZV n.decls)).length:Nat):Int)=0):=Yh Zq E5
   exact ZH 5 7 [17,18] [0] (dw 19 (Uy s.kids) (Zm 3 4 [20] (dn 21 (.i ((((ZY n.decls s.num).map (ZV n.decls)).length:Nat):Int)) (.i (((Wu ((ZY n.decls s.num).map (ZV n.decls))).length:Nat):Int)) (li (by rw [Fx])) (Zm 0 2 [22,23] (de (ZG 3 (Zt ((s.kids.length:Int) != ((((ZY n.decls s.num).map (ZV n.decls)).length:Nat):Int)) (And.intro C3 (And.intro CT E5)) fl)))))))
  refine ac (((ts.length:Int) != 1)||(((gI ts 0) != s.num)||((((((ZY n.decls s.num).map (ZV n.decls)).length:Nat):Int)==0)||((s.kids.length:Int) != ((((ZY n.decls s.num).map (ZV n.decls)).length:Nat):Int))))) (p:=((ts.length:Int)≠1)∨(((gI ts 0)≠s.num)∨((((((ZY n.decls s.num).map (ZV n.decls)).length:Nat):Int)=0)∨((s.kids.length:Int)≠((((ZY n.decls s.num).map (ZV n.decls)).length:Nat):Int))))) (Yr Ym (Yr Ym (Yr Zq Ym))) (fun VS=>?_) (fun VS=>?_)
  ·refine ZE ?_
   have hS0:=BD (n:=n) hnn (B1 Zy om) (fun q=>ZC (Ay.2 q))
   have hS:=Zgd hS0 Yg Xo VR VS
   exact ZD (r2 [] [.i (-1),.b false] ⟨(-1),rfl,rfl,(by intro _ h;rw [hS] at h;omega)⟩ (Ze.tup (.cons (lr _) (.cons (lb (by rw [hS];rfl)) .nil))))
  refine ak (Zw 5 [1,0] (Zz [] (Pj n us s.kids ((ZY n.decls s.num).map (ZV n.decls)) (hnn:=hnn) (hm3:=(by intro m hm;first|(rw [Hn hm];simp;done)|(obtain ⟨c,_,rfl⟩:=Wf.1 hm;exact Ud XB c))) (hmn:=(by intro m hm f hf;first|(rw [Hn hm] at hf;simp at hf;done)|(obtain ⟨c,_,rfl⟩:=Wf.1 hm;exact hty.fields c f hf))) (ih:=(fun b us2 h1 h2 h3 h4=>ih b us2 om h2 h3 h4))) (Z0 ?_)))
  have hS0:=BD (n:=n) hnn (B1 Zy om) (fun q=>ZC (Ay.2 q))
  have hS:=Zge hS0 Yg Xo VR VS
  exact ZD (r2 [] [.i (Wy n us s.kids ((ZY n.decls s.num).map (ZV n.decls)) true 0),.b (decide (0<=Wy n us s.kids ((ZY n.decls s.num).map (ZV n.decls)) true 0))] ⟨Wy n us s.kids ((ZY n.decls s.num).map (ZV n.decls)) true 0,rfl,rfl,(fun _ _=>hS.symm)⟩ (Ze.tup (.cons (lr _) (.cons (lb (by rw [hS])) .nil))))
 refine Zw 2 [0] (iw (Uy s.kids) (XU 33 [3,5,8] [(223,.b ((decide ((s.kids.length:Int)>0))||((s.op==10)&&((decide (s.num>=0))&&((decide (s.num<(((n.routines.map W5).length:Nat):Int)))&&(decide (((((UC n s.num).lnt).length:Nat):Int)>0)))))))] (fun gz=>gz) ?_ (fun hj6=>?_)))
 ·refine YH ((decide ((s.kids.length:Int)>0))||((s.op==10)&&((decide (s.num>=0))&&((decide (s.num<(((n.routines.map W5).length:Nat):Int)))&&(decide (((((UC n s.num).lnt).length:Nat):Int)>0)))))) (p:=((s.kids.length:Int)>0)∨((s.op=10)/\((s.num>=0)/\((s.num<(((n.routines.map W5).length:Nat):Int))/\(((((UC n s.num).lnt).length:Nat):Int)>0))))) (Yr dq (YL Zq (YL dq (YL dq dq)))) (fun TG=>?_) (fun TG=>?_)
  ·refine ZE ?_
   have hS0:=BD (n:=n) hnn (B1 Zy om) (fun q=>ZC (Ay.2 q))
   have hS:=stB hS0 Yg Xo VR TG
   exact ZD (r2 [] [.i (-1),.b false] ⟨(-1),rfl,rfl,(by intro _ h;rw [hS] at h;omega)⟩ (Ze.tup (.cons (lr _) (.cons (lb (by rw [hS];rfl)) .nil))))
  refine ak (ar (QL 6 [(229,Z5 ts)] [1,0,0] (ic [] (Za6 _ s.op s.num ts) ?_)))
  rintro _ _ ⟨t1,rfl,rfl,FY⟩
  refine Z0 ?_
  have hS0:=BD (n:=n) hnn (B1 Zy om) (fun q=>ZC (Ay.2 q))
  have hS:=stS hS0 Yg Xo VR TG
  exact ZD (r2 [] [.i t1,.b ((XO n s.op s.num ts).isSome)] ⟨t1,rfl,rfl,(Zgi hS FY)⟩ (Ze.tup (.cons (lr _) (.cons (lb (Zgh hty hS)) .nil))))
 refine Z2 2 (ib (b:=(decide ((s.kids.length:Int)>0))) 195 (fun Bf=>?_) (fun Bf=>?_))
 ·have Zig:(s.kids.length:Int)>0:=(dq).1 Bf
  exact Z2 28 (YB (ZG 3 (Zt true Bf fl)) hj6)
 have Zih:¬((s.kids.length:Int)>0):=Yh dq Bf
 refine ZO 4 [0] (ib (b:=(s.op==10)) 199 (fun C4=>?_) (fun C4=>?_))
 ·have Zii:s.op=10:=(Zq).1 C4
  refine ZO 5 [0] (ib (b:=(decide (s.num>=0))) 204 (fun CU=>?_) (fun CU=>?_))
  ·have Zij:s.num>=0:=(dq).1 CU
   refine ZO 4 [0,1] (io (.i (((n.routines.map W5).length:Nat):Int)) (.i (((Ts (n.routines.map W5)).length:Nat):Int)) (li (by rw [DT])) (Z2 3 (ib (b:=(decide (s.num<(((n.routines.map W5).length:Nat):Int)))) 212 (fun CV=>?_) (fun CV=>?_))))
   ·have Zik:s.num<(((n.routines.map W5).length:Nat):Int):=(dq).1 CV
    exact ZO 4 [1,0] (Zo (AI (es:=Ts (n.routines.map W5)) (hv:=none) (j:=s.num) (sz:=3) (y:=ES (UC n s.num)) kr om (BY (SG om)) rfl) (Z2 2 (io (.i ((((UC n s.num).lnt).length:Nat):Int)) (.i (((Z7 ((UC n s.num).lnt)).length:Nat):Int)) (li (by rw [Yf])) (Z2 3 (YB (ZG 3 (Zt (decide (((((UC n s.num).lnt).length:Nat):Int)>0)) (And.intro Bf (And.intro C4 (And.intro CU CV))) fl)) hj6)))))
   have Zil:¬(s.num<(((n.routines.map W5).length:Nat):Int)):=Yh dq CV
   exact Z2 11 (YB (ZG 3 (Zt false (And.intro Bf (And.intro C4 (And.intro CU CV))) fl)) hj6)
  have Zim:¬(s.num>=0):=Yh dq CU
  exact Z2 19 (YB (ZG 3 (Zt false (And.intro Bf (And.intro C4 CU)) fl)) hj6)
 have Zin:¬(s.op=10):=Yh Zq C4
 exact Z2 24 (YB (ZG 3 (Zt false (And.intro Bf C4) fl)) hj6)
theorem Z9z (n:Zi) (us:LI) (b:Z6) (hn:X6 n) (hnn:∀t∈us,0<=t) (hb:us.length+4*b.sz<=1000000000) (hr:b.rng) (ih:∀(s:Z4) (us:LI),(s.sz<b.sz)->(us.length+4*s.sz<=1000000000)->(s.rng)->(∀t∈us,0<=t)->Zk 127 [.agg [ZT n.decls,YW n],Z5 us,YI s] [] (fun r h=>∃(t:Int),r=.tup [.i t,.b (decide (0<=Yc n us s))]/\h=[]/\(¬YF s.op=true->0<=Yc n us s->t=Yc n us s))):Zk 67 [.agg [ZT n.decls,YW n],Z5 us,ZZ b] [] (Ys (.i (Xh n us b))):=by
 have hbz:=Uk b
 have hbe:=DJ n us b
 rw [b.rng_eq] at hr
 refine ZF 54 Tryz.func67 (ar (iA [ZT n.decls,YW n] fun b1=>iA (Xm b) fun b2=>Z0 (Ya 1 (ic [] (Z3y us) ?_))))
 rintro _ _ ⟨v1,rfl,rfl⟩
 refine Z0 (Yl 2 [1] (iw (VO b.steps) (Z0 (ab 0 (Y6 (fun fz gz m F h=>∃(k:Nat) (vs:LI) (v:Value),(k<=b.steps.length)/\(vs.length<=us.length+k)/\(∀t∈vs,0<=t)/\(XC n (b.steps.drop k) vs=XC n b.steps us)/\F=sF [3,5,15,16] fz [(7,ZQ vs v),(17,.i k)]/\h=[Zc gz 1,Zc gz 2,.tail v 1]/\m=b.steps.length-k) _ _ _ ⟨0,us,v1,ob,ob,ob,ob,rfl,rfl,rfl⟩ (wk [1,1,0] (fr (Yd fl))) ?_)))))
 rintro m F h ⟨k,vs,v,Yj,Zl,Zy,Yv,rfl,rfl,rfl⟩
 refine ZE (aq (W9 ((k:Int)<(b.steps.length:Int)) (fun Za=>?_) (fun Za=>?_)))
 ·refine ak (aq (ab 1 (ar ?_)))
  obtain ⟨x1,Z3⟩:=Zs b.steps k om
  have hss:=Ck Z3
  have hsr:=Mo hr Z3
  refine Zo (Zj none (k:Int) 5 (V2 Z3)) (Z2 1 (iA [.i 0,.i 0,.i 0,nl,nl] fun b3=>ZI 0 b3 (XG x1) (ie (ar (QL 3 [(23,Z5 vs)] [2,0] (ic [] (ih x1 vs ob ob ob ob) ?_))))))
  rintro _ _ ⟨t1,rfl,rfl,ZX⟩
  refine Z0 (X9 (YH (!decide (0<=Yc n vs x1)) (p:=¬(decide (0<=Yc n vs x1)=true)) (YA Iff.rfl) (fun Zg=>?_) (fun Zg=>?_)))
  ·exact ar (Zr (Y4 (.i (-1)) (li (by rw [hbe,<-Yv,Zh4 Z3 (fun q=>Zg (decide_eq_true q)) rfl]))))
  refine ak (Zw 2 [0] (Zz [] (IY x1.op) (Z0 (Jv (fun fz gz F h=>∃(w:Value),F=sF [3,5,15,16,17] fz [(7,ZQ (if YF x1.op=true then vs else vs++[t1]) w)]/\h=[Zc gz 1,Zc gz 2,.tail w 1]) (fun _ _=>rfl) ?_ ?_))))
  ·refine ac (!YF x1.op) (p:=¬(YF x1.op=true)) (YA Iff.rfl) (fun ZC=>?_) (fun ZC=>?_)
   ·exact az (Z2 2 (iL (Z7 [t1]) 1 1 fun v2=>ZU 0 [(36,Z5 [t1])] (ip 4 (Z7 (vs++[t1])) (Z7 vs) (Z7 [t1]) v none 1 (YC _) (YC _) (We _) (by simp<;>omega) (by simp [Wd,Z7]) fun v3=>Z0 (ZP ⟨v3,rfl,rfl⟩ (wk [3,3,0] (fc (x:=ZQ (vs++[t1]) v3) (Ze.slh _ (Yp Z7 (by first|rfl|(rw [Zd ZC])|(rw [Z8 ZC])|(simp [ZC];done)|(rw [Xx];simp [ZC];done)|omega))) fl))))))
   exact ak (ZP ⟨v,rfl,rfl⟩ (wk [1,1,1] (fc (x:=ZQ vs v) (Ze.slh _ (Yp Z7 (by first|rfl|(rw [Zd ZC])|(rw [Z8 ZC])|(simp [ZC];done)|(rw [Xx];simp [ZC];done)|omega))) fl)))
  rintro F h ⟨w,rfl,rfl⟩
  refine az (ZJ k (Z0 ?_))
  have h0:0<=Yc n vs x1:=of_decide_eq_true (Vy.1 Zg)
  exact ZK ⟨k+1,(if YF x1.op=true then vs else vs++[t1]),w,ob,(by split<;>(try simp)<;>omega),(Zc5 Zy (fun q=>by rw [ZX q h0];exact h0)),(Zh3 Z3 h0 ZX Yv),rfl,rfl,rfl⟩ (ZG 3 (fr (ZM k fl)))
 refine ax 0 (X9 (Xv [5,7] [(48,.b ((decide (b.result<0))||(decide (b.result>=(vs.length:Int)))))] (fun gz=>gz) ?_ ?_))
 ·refine ZO 4 [0] (ib (b:=(decide (b.result<0))) 42 (fun Zb=>?_) (fun Zb=>?_))
  ·exact Z0 (ZG 3 (Zt true Zb fl))
  exact ZO 3 [0] (iw (Yf vs) (Z0 (ZG 3 (Zt (decide (b.result>=(vs.length:Int))) Zb fl))))
 refine ac ((decide (b.result<0))||(decide (b.result>=(vs.length:Int)))) (p:=(b.result<0)∨(b.result>=(vs.length:Int))) (Yr dq dq) (fun Yg=>?_) (fun Yg=>?_)
 ·exact ar (Zr (Y4 (.i (-1)) (li (by rw [hbe,<-Yv,Xn om];show _=(Xy vs b.result).getD (-1);rw [Kz om];rfl))))
 refine ak (Zw 3 [0] ?_)
 obtain ⟨x2,Zx⟩:=Zs vs b.result.toNat om
 exact Zo (Zj (some v) b.result 1 (Y3 Zx)) (Zr (Y4 (.i x2) (li (by rw [hbe,<-Yv,Xn om];show _=(Xy vs b.result).getD (-1);rw [Ql om Zx];rfl))))
theorem Z9y (n:Zi) (hn:X6 n) (hty:Kv n) (m:Nat):∀(b:Z6) (us:LI),(b.sz<=m)->(us.length+4*b.sz<=1000000000)->(b.rng)->(∀t∈us,0<=t)->Zk 67 [.agg [ZT n.decls,YW n],Z5 us,ZZ b] [] (Ys (.i (Xh n us b))):=by
 induction m with
 | zero=>intro b us h;have:=b.sz_pos;omega
 | succ m ih=>intro b us h1 h2 h3 h4;exact Z9z n us b hn h4 h2 h3 fun s us2 k1 k2 k3 k4=>Pl n us2 s hn hty k4 k2 k3 fun b2 us3 q1 q2 q3 q4=>ih b2 us3 om q2 q3 q4
theorem Pe (n:Zi) (us:LI) (b:Z6) (hn:X6 n) (hty:Kv n) (hnn:∀t∈us,0<=t) (hb:us.length+4*b.sz<=1000000000) (hr:b.rng):Zk 67 [.agg [ZT n.decls,YW n],Z5 us,ZZ b] [] (Ys (.i (Xh n us b))):=
 Z9y n hn hty b.sz b us (X7 _) hb hr hnn
theorem G4 (n:Zi) (hz:Un n:=by exact ob) (hr:∀r∈n.routines,r.body.rng):Zk 29 [Yq n] [] (Ys (.b (XV n))):=by
 have hzl:=hz.len
 refine ZF 37 Tryz.func29 (ar (iA (YU n) fun b1=>Z0 (Zw 1 [0] (ic [] (Ph n) ?_))))
 rintro _ _ (⟨rfl,rfl,ZX⟩|⟨rfl,rfl,Yk⟩)
 ·refine Z2 3 (iA [nl,nl] fun b2=>ZI 0 b2 [ZT n.decls,YW n] (Z0 (X9 (YH (!U3 n) (p:=¬(U3 n=true)) (YA Iff.rfl) (fun Za=>?_) (fun Za=>?_)))))
  ·exact ar (Zr (Y4 (.b false) (lb (by rw [XV,Jo.2 Za];rfl))))
  have hsg:U3 n=true:=by simpa using Za
  have hok:=Lx hz hsg
  have hty:=Ly hsg
  refine ak (Yl 2 [1] (iw (Ur n.routines) (Z0 (ab 0 (Y6 (fun fz gz m F h=>∃(k:Nat),(k<=n.routines.length)/\(Kl n (n.routines.drop k)=Kl n n.routines)/\F=sF [3,15,16] fz [(17,.i k)]/\h=[Zc gz 0]/\m=n.routines.length-k) _ _ _ ⟨0,ob,ob,rfl,rfl,rfl⟩ (wk [0] (Yd fl)) ?_)))))
  rintro m F h ⟨k,Yj,Zl,rfl,rfl,rfl⟩
  refine ZE (aq (W9 ((k:Int)<(n.routines.length:Int)) (fun Zg=>?_) (fun Zg=>?_)))
  ·refine ak (aq (ab 1 (ar ?_)))
   obtain ⟨x1,Z3⟩:=Zs n.routines k om
   have hrm:=ZW Z3
   have ZL:=hz.body _ hrm
   have hps:=hok.params_at Z3
   refine Zo (Zj none (k:Int) 5 (Wv Z3)) (Z2 1 (iA [nl,nl,.i 0,nl,.i 0] fun b3=>ZI 0 b3 (KH x1) (ie (aD 15 (ZH 13 15 [0,1] [0] (Z9 2 (Yo 2 [] [] [] (Z9t x1.body) (Ak [3,15,16,17] [(35,.b ((decide ((TY x1.body)<0))||((Xh n x1.params x1.body) != x1.result)))] (fun gz=>gz) ?_ ?_))))))))
   ·refine Zm 10 12 [3,4] (db (b:=(decide ((TY x1.body)<0))) 25 (fun Zb=>?_) (fun Zb=>?_))
    ·have YG:(TY x1.body)<0:=(dq).1 Zb
     exact Zm 0 10 [5,6,7,8,9,10,11,12,13,14] (de (wk [0,0] (Zt true Zb fl)))
    have YR:¬((TY x1.body)<0):=Yh dq Zb
    exact ZH 3 10 [5,6,7,8,9,11,12] [1,0,0,0] (Z9 10 (Yo 10 [] [0] [b3] (Pe n x1.params x1.body ob hty (hty.params _ hrm) ob (hr _ hrm)) (Zm 0 2 [13,14] (de (wk [0,0] (Zt ((Xh n x1.params x1.body) != x1.result) Zb fl))))))
   refine ac ((decide ((TY x1.body)<0))||((Xh n x1.params x1.body) != x1.result)) (p:=((TY x1.body)<0)∨((Xh n x1.params x1.body)≠x1.result)) (Yr dq Ym) (fun ZC=>?_) (fun ZC=>?_)
   ·refine ZE ?_
    rw [Y9 Z3] at Zl
    exact ZD (Y4 (.b false) (lb (by clear Z3;first|rfl|omega|grind [Kl,XV])))
   refine ak (az (ZJ k (Z0 ?_)))
   have hdr:=Y9 Z3
   exact ZK ⟨k+1,ob,(by rw [hdr] at Zl;clear hdr Z3;grind [Kl]),rfl,rfl,rfl⟩ (wk [1] (ZM k fl))
  refine ax 0 (ZE ?_)
  try rw [Xn (xs:=n.routines) (k:=k) om] at Zl
  exact ZD (Y4 (.b true) (lb (by first|rfl|omega|grind [Kl,XV])))
 exact Z2 3 (iA [nl,nl] fun b4=>ZI 0 b4 [ZT [],Dd []] (Z0 (Yi (Wc (ar (Zr (Y4 (.b false) (lb (by rw [XV,‹U3 n=false›];rfl)))))))))
theorem Z9v (a:Xj) (hl:a.fds.length<=1000000:=by exact ob) (hf:0<=a.fst/\a.fst<=1000000000:=by exact ob):Zk 117 [.agg [.i a.mat,.i a.fst,Z5 a.fds,.b a.chg]] [] (Ys (Z5 (Ua a.fds a.fst))):=by
 refine ZF 25 Tryz.func117 (ar (iA [.i a.mat,.i a.fst,Z5 a.fds,.b a.chg] fun b1=>?_))
 refine Z0 (ZE (Yl 2 [0] (iw (Yf a.fds) (Z0 (ab 0 (KX 1 (Y6 (fun fz gz m F h=>∃(k:Nat) (acc:LI) (v:Value),(k<=a.fds.length)/\(acc.length<=k)/\(acc++Ua (a.fds.drop k) (a.fst+k)=Ua a.fds a.fst)/\F=sF [1,7,8] fz [(3,ZQ acc v),(9,.i k)]/\h=[Zc gz 1,.tail v 1]/\m=a.fds.length-k) _ _ _ ⟨0,[],(.slice none 0 0),ob,ob,ob,rfl,rfl,rfl⟩ (wk [1,0] (fc (x:=nl) (Ze.slh _ (by first|rfl|(subst_vars;rfl))) (Yd fl))) ?_)))))))
 rintro m F h ⟨k,acc,v,Yj,Zl,Zy,rfl,rfl,rfl⟩
 refine ZE (aq (W9 ((k:Int)<(a.fds.length:Int)) (fun Za=>?_) (fun Za=>?_)))
 ·refine ak (aq (ab 1 (Ya 1 ?_)))
  obtain ⟨x1,Z3⟩:=Zs a.fds k om
  refine Zo (Zj none (k:Int) 1 (Y3 Z3)) (Z0 (ZE (Jv (fun fz gz F h=>∃(w:Value),F=sF [1,7,8,9] fz [(3,ZQ (if x1≠0 then acc++[a.fst+k] else acc) w)]/\h=[Zc gz 0,.tail w 1]) (fun _ _=>rfl) ?_ ?_)))
  ·refine ac (x1 != 0) Ym (fun Zg=>?_) (fun Zg=>?_)
   ·exact az (ZO 4 [0] (ia ((a.fst+(k:Int))) ((a.fst)+((k:Int))) (iL (Z7 [(a.fst+(k:Int))]) 1 1 fun v1=>ZU 0 [(21,Z5 [(a.fst+(k:Int))])] (ip 2 (Z7 (acc++[(a.fst+(k:Int))])) (Z7 acc) (Z7 [(a.fst+(k:Int))]) v none 1 (YC _) (YC _) (We _) (by simp<;>omega) (by simp [Wd,Z7]) fun v2=>Z0 (ZP ⟨v2,rfl,rfl⟩ (wk [2,0] (fc (x:=ZQ (acc++[(a.fst+(k:Int))]) v2) (Ze.slh _ (Yp Z7 (by first|rfl|(rw [Zd Zg])|(rw [Z8 Zg])|(simp [Zg];done)|(rw [Xx];simp [Zg];done)|omega))) fl)))))))
   exact ak (ZP ⟨v,rfl,rfl⟩ (wk [0,0] (fc (x:=ZQ acc v) (Ze.slh _ (Yp Z7 (by first|rfl|(rw [Zd Zg])|(rw [Z8 Zg])|(simp [Zg];done)|(rw [Xx];simp [Zg];done)|omega))) fl)))
  rintro F h ⟨w,rfl,rfl⟩
  exact az (ZJ k (Z0 (ZK ⟨k+1,(if x1≠0 then acc++[a.fst+k] else acc),w,ob,(by split<;>(try simp)<;>omega),(Z95 Z3 Zy),rfl,rfl,rfl⟩ (wk [0,0] (fr (ZM k fl))))))
 exact ax 0 (ar (Zr (Y4 (ZQ acc v) (Ze.sl _ (Yp Z7 (Z94 om Zy))))))
theorem Cu (b:Nat) (ga:Hd) (gb:Hd) (gc:Hd) (n:Zi) (L:Ve) (ln:LI) (am:List Xj) (t:Int) (o:Int) (hlb:L.vars.length<=1000000000:=by exact ob) (hlk:Wq L:=by exact ob):Zk 176 [.p b 0,.i t,.i o] [.obj b [ZT n.decls,YW n,Z5 ln,Xi am,.h ga,.h gb,.h gc],rV ga L.vars,rV gb L.own,rV gc L.tok] (fun r h=>∃(wa:Hd) (wb:Hd) (wc:Hd),h=[.obj b [ZT n.decls,YW n,Z5 ln,Xi am,.h wa,.h wb,.h wc],rV wa ((L.grow t o (-1)).vars),rV wb ((L.grow t o (-1)).own),rV wc ((L.grow t o (-1)).tok)]):=by
 have hlk0:=hlk
 obtain ⟨e1,e2,e3,e4,e5⟩:=hlk0
 exact ZF 35 Tryz.func176 (Zw 6 [0] (iL (Z7 [t]) 1 1 fun v1=>ZU 0 [(12,Z5 [t])] (Kc 2 ga L.vars [t] none fun v2=>Z2 2 (ZI 2 b [ZT n.decls,YW n,Z5 ln,Xi am,.h v2,.h gb,.h gc] (ie (Zw 6 [0] (iL (Z7 [o]) 1 1 fun v3=>ZU 0 [(22,Z5 [o])] (Kc 4 gb L.own [o] none fun v4=>Z2 2 (ZI 2 b [ZT n.decls,YW n,Z5 ln,Xi am,.h v2,.h v4,.h gc] (ie (az (ZO 5 [0] (iL (Z7 [-1]) 1 1 fun v5=>ZU 0 [(31,Z5 [-1])] (Kc 6 gc L.tok [-1] none fun v6=>Z2 2 (ZI 2 b [ZT n.decls,YW n,Z5 ln,Xi am,.h v2,.h v4,.h v6] (ie (r2 [0,4,2,0] [] ⟨v2,v4,v6,rfl⟩ (lr _) (eq:=(rc (rv (xs:=(L.vars++[t])) ob (rv (xs:=(L.own++[o])) ob (rv (xs:=(L.tok++[-1])) ob rz))))))))))))))))))))))
theorem F8 (b:Nat) (ga:Hd) (gb:Hd) (gc:Hd) (n:Zi) (L:Ve) (ln:LI) (am:List Xj) (i:Int) (hlk:Wq L:=by exact ob) (hi:0<=i/\i<L.vars.length:=by exact ob) (hq:∀x∈L.own,-1000000000<=x/\x<=1000000000):Zk 178 [.p b 0,.i i] [.obj b [ZT n.decls,YW n,Z5 ln,Xi am,.h ga,.h gb,.h gc],rV ga L.vars,rV gb L.own,rV gc L.tok] (fun r h=>r=.b (decide (1<=gI L.own i))/\h=[.obj b [ZT n.decls,YW n,Z5 ln,Xi am,.h ga,.h gb,.h gc],rV ga ((XP L i).vars),rV gb ((XP L i).own),rV gc ((XP L i).tok)]):=by
 have hlk0:=hlk
 obtain ⟨e1,e2,e3,e4,e5⟩:=hlk0
 refine ZF 22 Tryz.func178 (ZE (Zw 5 [0] (Zo (Wo 2 gb L.own i i.toNat (hq:=rfl)) ?_)))
 obtain ⟨x1,Z3⟩:=Zs L.own i.toNat om
 have hxq:=hq _ (ZW Z3)
 have hgi:=VH Z3
 have hsl:(L.own.set i.toNat (x1-1)).length=L.own.length:=Vc
 refine V8 (VU 2 gb L.own i.toNat x1 Z3) (ia ((x1-1)) ((x1)-(1)) (Zo (Wo 2 gb L.own i i.toNat (hq:=rfl)) (CZ 2 gb L.own i.toNat (x1-1) (ie (Zw 5 [1] (Zo (Wo 0 gb (L.own.set i.toNat (x1-1)) i i.toNat (hq:=rfl)) ?_))))))
 obtain ⟨x2,Zx⟩:=Zs (L.own.set i.toNat (x1-1)) i.toNat om
 have hxe:x2=x1-1:=by rw [List.getElem?_set_self om] at Zx;exact (Qh Zx).symm
 exact V8 (VU 0 gb (L.own.set i.toNat (x1-1)) i.toNat x2 Zx) (Zr (r2 [1,1,0,0] [.b (decide (x2>=0))] ⟨rfl,rfl⟩ (lb (by rw [hxe,hgi,Xx];simp)) (eq:=(rc (rv (xs:=L.vars) ob (rv (xs:=(L.own.set i.toNat (x1-1))) (by rw [XP,hgi]) (rv (xs:=L.tok) ob rz)))))))
theorem Nn (b:Nat) (ga:Hd) (gb:Hd) (gc:Hd) (n:Zi) (L:Ve) (ln:LI) (am:List Xj) (hlb:L.vars.length<=1000000000:=by exact ob) (hlk:Wq L:=by exact ob):Zk 265 [.p b 0] [.obj b [ZT n.decls,YW n,Z5 ln,Xi am,.h ga,.h gb,.h gc],rV ga L.vars,rV gb L.own,rV gc L.tok] (fun r h=>∃(c:Nat) (wa:Hd) (wb:Hd) (wc:Hd),r=.p c 0/\h=[.obj c [ZT n.decls,YW n,Z5 ln,Xi am,.h wa,.h wb,.h wc],rV wa L.vars,rV wb L.own,rV wc L.tok,.obj b [ZT n.decls,YW n,Z5 ln,Xi am,.h ga,.h gb,.h gc],rV ga L.vars,rV gb L.own,rV gc L.tok]):=by
 have hlk0:=hlk
 obtain ⟨e1,e2,e3,e4,e5⟩:=hlk0
 refine ZF 25 Tryz.func265 (ZE (Zw 3 [0] (iA [nl,nl,nl,nl,nl,nl,nl] fun b1=>ZI 0 b1 [ZT n.decls,YW n,Z5 ln,Xi am,.h ga,.h gb,.h gc] (ie (aD 21 (ZH 9 21 [0,1,2,3,5,6,7,8,10,11,12,13] [1,1,1] (Z9 4 (T7 4 [2] [1,1] [b,b] [rV ga L.vars] (DN L.vars) Jt (gL (v:=ga) 0 gN) (Ut Tg) ?_))))))))
 rintro _ _ ⟨v1,rfl,rfl⟩
 refine Z9 9 (T7 9 [4] [1] [b] [rV gb L.own] (DN L.own) Jt (gL (v:=gb) 0 gN) (Ut Tg) ?_)
 rintro _ _ ⟨v2,rfl,rfl⟩
 refine Z9 14 (T7 14 [6] [] [] [rV gc L.tok] (DN L.tok) Jt (gL (v:=gc) 0 gN) (Ut Tg) ?_)
 rintro _ _ ⟨v3,rfl,rfl⟩
 exact Zm 5 6 [15] (Z9 16 (YK 16 6 [] [] b1 [ZT n.decls,YW n,Z5 ln,Xi am,.h v1,.h gb,.h gc] (Zm 3 4 [17] (Z9 18 (YK 18 0 [] [] b1 [ZT n.decls,YW n,Z5 ln,Xi am,.h v1,.h v2,.h gc] (Zm 1 2 [19] (Z9 20 (YK 20 0 [] [] b1 [ZT n.decls,YW n,Z5 ln,Xi am,.h v1,.h v2,.h v3] (de (ar (Zr (r1 [0,4,2,0,3,2,1,0] ⟨b1,v1,v2,v3,rfl,rfl⟩))))))))))))
theorem Nm (b:Nat) (ga:Hd) (gb:Hd) (gc:Hd) (n:Zi) (L:Ve) (ln:LI) (am:List Xj) (i:Int) (hlk:Wq L) (har:V0 n.decls L am) (hln:ln.length<=4294967296) (hal:am.length<=1000000000) (hlb:L.vars.length<=1000000000) (hd:∀j:Int,0<=j->j<L.vars.length->gI L.par j<j) (hi:0<=i/\i<L.vars.length) (ih:∀(i2:Int),(0<=i2/\i2<i)->Zk 69 [.p b 0,.i i2] [.obj b [ZT n.decls,YW n,Z5 ln,Xi am,.h ga,.h gb,.h gc],rV ga L.vars,rV gb L.own,rV gc L.tok] (fun r h=>r=.b (XM L ln i2)/\h=[.obj b [ZT n.decls,YW n,Z5 ln,Xi am,.h ga,.h gb,.h gc],rV ga L.vars,rV gb L.own,rV gc L.tok])):Zk 69 [.p b 0,.i i] [.obj b [ZT n.decls,YW n,Z5 ln,Xi am,.h ga,.h gb,.h gc],rV ga L.vars,rV gb L.own,rV gc L.tok] (fun r h=>r=.b (XM L ln i)/\h=[.obj b [ZT n.decls,YW n,Z5 ln,Xi am,.h ga,.h gb,.h gc],rV ga L.vars,rV gb L.own,rV gc L.tok]):=by
 have hlk0:=hlk
 obtain ⟨e1,e2,e3,e4,e5⟩:=hlk0
 refine ZF 51 Tryz.func69 (ZE (Yl 5 [0] (Zo (Wo 2 gb L.own i i.toNat (hq:=rfl)) ?_)))
 obtain ⟨x1,Z3⟩:=Zs L.own i.toNat om
 have hgi:=VH Z3
 refine V8 (VU 2 gb L.own i.toNat x1 Z3) (Xv [0,1] [(22,.b ((decide (x1>0))||(decide (i∈ln))))] (fun gz=>gz) ?_ ?_)
 ·refine Z2 2 (ib (b:=(decide (x1>0))) 15 (fun Zb=>?_) (fun Zb=>?_))
  ·have ZX:x1>0:=(dq).1 Zb
   exact Z0 (ZG 4 (Zt true Zb fl))
  have Yk:¬(x1>0):=Yh dq Zb
  exact ZO 5 [0] (Zz [] (Mi ln i) (Z0 (ZG 4 (Zt (decide (i∈ln)) Zb fl))))
 refine ac ((decide (x1>0))||(decide (i∈ln))) (p:=(x1>0)∨(i∈ln)) (Yr dq dq) (fun Za=>?_) (fun Za=>?_)
 ·exact ar (Zr (r2 [0,0,0,0] [.b true] ⟨rfl,rfl⟩ (lb (Z29 (by rw [hgi];exact Za)).symm)))
 refine ak (Yl 4 [0] (iw (Z5x am) (Z0 (ab 0 (Y6 (fun fz gz m F h=>∃(k:Nat),(k<=am.length)/\(∀a∈am.take k,¬(a.fst<=i/\i<a.fst+a.fds.length))/\F=sF [0,1,26,27] fz [(28,.i k)]/\h=gz/\m=am.length-k) _ _ _ ⟨0,ob,ob,rfl,rfl,rfl⟩ (ZG 4 (Yd fl)) ?_)))))
 rintro m F h ⟨k,Yj,Zl,rfl,rfl,rfl⟩
 refine ZE (aq (W9 ((k:Int)<(am.length:Int)) (fun Zg=>?_) (fun Zg=>?_)))
 ·refine ak (aq (ab 1 (ar ?_)))
  obtain ⟨x2,Zx⟩:=Zs am k om
  have ham:=ZW Zx
  have hrg:=har.rng _ ham
  refine Zo (Zj none (k:Int) 4 (Z5w Zx)) (Z2 1 (iA [.i 0,.i 0,nl,.b false] fun b1=>ZI 0 b1 [.i x2.mat,.i x2.fst,Z5 x2.fds,.b x2.chg] (ie (ar (Xv [0,1,6,26,27,28] [(45,.b ((decide (i>=x2.fst))&&(decide (i<(x2.fst+(x2.fds.length:Int))))))] (fun gz=>gz) ?_ ?_)))))
  ·refine ZO 5 [0] (ib (b:=(decide (i>=x2.fst))) 36 (fun ZB=>?_) (fun ZB=>?_))
   ·have YG:i>=x2.fst:=(dq).1 ZB
    exact ZO 5 [0,0] (iw (Yf x2.fds) (ia ((x2.fst+(x2.fds.length:Int))) ((x2.fst)+((x2.fds.length:Int))) (Z0 (ZG 5 (Zt (decide (i<(x2.fst+(x2.fds.length:Int)))) ZB fl)))))
   have YR:¬(i>=x2.fst):=Yh dq ZB
   exact Z0 (ZG 5 (Zt false ZB fl))
  refine ac ((decide (i>=x2.fst))&&(decide (i<(x2.fst+(x2.fds.length:Int))))) (p:=(i>=x2.fst)/\(i<(x2.fst+(x2.fds.length:Int)))) (YL dq dq) (fun ZC=>?_) (fun ZC=>?_)
  ·refine Zw 3 [0] (Zz [1,1,1,1] (ih x2.mat ob) (Z0 ?_))
   have hpa:=har.par _ ham i ZC.1 ZC.2
   exact ZD (r2 [0,0,0,0] [.b (XM L ln x2.mat)] ⟨rfl,rfl⟩ (lb (Z28 hi hd (by rw [hgi];exact Za) hpa hrg.1).symm))
  refine ak (az (ZJ k (Z0 ?_)))
  have hdr:=Y9 Zx
  exact ZK ⟨k+1,ob,(by rw [Vl Zx];exact fun a ha=>(Xd.1 ha).elim (Zl a) (fun ha=>by rw [XI.1 ha];exact fun q=>ZC ⟨q.1,q.2⟩)),rfl,rfl,rfl⟩ (wk [1,1,1,1] (ZM k fl))
 refine ax 0 (ZE ?_)
 have hpn:gI L.par i<0:=Int.not_le.1 fun h=>by
  obtain ⟨a,ha,q⟩:=har.non i hi.1 hi.2 h
  exact Zl a (by rw [Vt om];exact ha) q
 exact ZD (r2 [0,0,0,0] [.b false] ⟨rfl,rfl⟩ (lb (Z27 (by rw [hgi];exact Za) hpn).symm))
theorem F7 (b:Nat) (ga gb gc:Hd) (n:Zi) (L:Ve) (ln:LI) (am:List Xj) (i:Int) (hlk:Wq L) (har:V0 n.decls L am) (hln:ln.length<=4294967296) (hal:am.length<=1000000000) (hlb:L.vars.length<=1000000000)
  (hd:∀j:Int,0<=j->j<L.vars.length->gI L.par j<j) (hi:0<=i/\i<L.vars.length):Zk 69 [.p b 0,.i i] [.obj b [ZT n.decls,YW n,Z5 ln,Xi am,.h ga,.h gb,.h gc],rV ga L.vars,rV gb L.own,rV gc L.tok] (fun r h=>r=.b (XM L ln i)/\h=[.obj b [ZT n.decls,YW n,Z5 ln,Xi am,.h ga,.h gb,.h gc],rV ga L.vars,rV gb L.own,rV gc L.tok]):=by
 have key:∀m:Nat,∀j:Int,0<=j->j.toNat<=m->j<L.vars.length->Zk 69 [.p b 0,.i j] [.obj b [ZT n.decls,YW n,Z5 ln,Xi am,.h ga,.h gb,.h gc],rV ga L.vars,rV gb L.own,rV gc L.tok] (fun r h=>r=.b (XM L ln j)/\h=[.obj b [ZT n.decls,YW n,Z5 ln,Xi am,.h ga,.h gb,.h gc],rV ga L.vars,rV gb L.own,rV gc L.tok]):=by
  intro m
  induction m with
  | zero=>intro j h1 h2 h3;exact Nm b ga gb gc n L ln am j hlk har hln hal hlb hd ⟨h1,h3⟩ fun i2 q=>by omega
  | succ m ih=>intro j h1 h2 h3;exact Nm b ga gb gc n L ln am j hlk har hln hal hlb hd ⟨h1,h3⟩ fun i2 q=>ih i2 q.1 om om
 exact key i.toNat i hi.1 (X7 _) hi.2
end Go.Abs
section
namespace Go.Proofs
open Go.RowKit Go.Shelf
attribute [local go_sem] Oper.semAt_some
structure ArmV where
 m:Int
 f:Int
 sa:Option Addr
 sl:Nat
 sc:Nat
 c:Bool
 deriving Inhabited
def ArmV.enc (a:ArmV):Value:=.agg #[.int .i64 a.m,.int .i64 a.f,.slice a.sa a.sl a.sc,.bool a.c]
def Vw (zs:List ArmV) (i:Nat):ArmV:=zs[i]?.getD default
def dn (zs:List ArmV) (k:Nat):List (Nat × ArmV):=(List.range k).map fun j=>(zs.length-1-j,Vw zs (zs.length-1-j))
theorem I8 (zs:List ArmV) (k:Nat):dn zs (k+1)=dn zs k++[(zs.length-1-k,Vw zs (zs.length-1-k))]:=by simp [dn,List.range_succ]
theorem Z5q (zs:List ArmV) (k:Nat):(dn zs k).length=k:=by simp [dn]
def BO (n₀:Nat) (W:World) (v:Value) (zs:List ArmV):Prop:=
 (∃a c,v=.slice a 0 c∧zs=[])∨∃b off cap,v=.slice (some ⟨b,off,none⟩) zs.length cap∧b<n₀∧∀j,j<zs.length →
  W.cell? ⟨b,off+j*4,none⟩=some (.int .i64 (Vw zs j).m)∧W.cell? ⟨b,off+j*4+1,none⟩=some (.int .i64 (Vw zs j).f) ∧
  W.cell? ⟨b,off+j*4+2,none⟩=some (.slice (Vw zs j).sa (Vw zs j).sl (Vw zs j).sc)∧W.cell? ⟨b,off+j*4+3,none⟩=some (.bool (Vw zs j).c)
theorem BO.below {n₀:Nat} {A B:World} {v:Value} {zs:List ArmV} (h:Below n₀ A B) (H:BO n₀ A v zs):BO n₀ B v zs:=by
 rcases H with H|⟨b,off,cap,e,hb,hc⟩
 ·exact .inl H
 ·refine .inr ⟨b,off,cap,e,hb,fun j hj=>?_⟩
  obtain ⟨h0,h1,h2,h3⟩:=hc j hj
  exact ⟨(h.cell (p:=⟨b,_,none⟩) hb).trans h0,(h.cell (p:=⟨b,_,none⟩) hb).trans h1,(h.cell (p:=⟨b,_,none⟩) hb).trans h2,(h.cell (p:=⟨b,_,none⟩) hb).trans h3⟩
set_option maxRecDepth 100000 in
set_option maxHeartbeats 2000000 in
theorem Z30 (F:Fence) (n:Nat) (h8:F.fn 297) (hro:F.round=none) (hn:1≤n) (l Bs n₀ b off cap:Nat) (zs:List ArmV) (hreach:zs.length≤1000000000) (hb:b<n₀) (J Jx:List (Nat × ArmV)→World→Prop)
  (hY:∀pre x W,J pre W→pre.length<zs.length→YieldAt F (n-1) Tryz.prog l #[.int .i64 ((x.1:Nat):Int),x.2.enc] W fun e W'=>
   (e=.returned (.bool true)∧J (pre++[x]) W'∧Below n₀ W W')∨(e=.returned (.bool false)∧Jx (pre++[x]) W'))
  (W:World) (hBn:Bs<n₀) (hBs:W.cell? ⟨Bs,0,none⟩=some (.slice (some ⟨b,off,none⟩) zs.length cap)) (hc:∀j,j<zs.length →
  W.cell? ⟨b,off+j*4,none⟩=some (.int .i64 (Vw zs j).m)∧W.cell? ⟨b,off+j*4+1,none⟩=some (.int .i64 (Vw zs j).f) ∧
  W.cell? ⟨b,off+j*4+2,none⟩=some (.slice (Vw zs j).sa (Vw zs j).sl (Vw zs j).sc)∧W.cell? ⟨b,off+j*4+3,none⟩=some (.bool (Vw zs j).c)) (h0:J [] W) :
  CallsIn F n Tryz.prog 297 #[.func (.yield l) #[] #[],.pointer (some ⟨Bs,0,none⟩)] W fun e W'=>(∃v,e=.returned v) ∧
   ((∃ys,ys=dn zs zs.length∧J ys W')∨(∃pre,(∃k,k≤zs.length∧pre=dn zs k)∧Jx pre W')):=by
 refine callsIn_of_wp Tryz.func297 rfl h8 ?_ hro
 simp only [Tryz.ntmps297,List.size_toArray,List.length_cons,List.length_nil,Nat.reduceAdd,Nat.reduceSub,Array.replicate_succ,Array.replicate_zero,List.push_toArray,List.append_toArray,List.nil_append,List.cons_append]
 gi_wp2
 gi_loopw [3] (fun i wr=>∃k:Nat,k≤zs.length∧i=.int .i64 ((zs.length:Int)-1-k)∧J (dn zs k) wr∧Below n₀ W wr)
  (fun i _=>(intOf i+1).toNat)
 case atStart=>exact ⟨0,Nat.zero_le _,by simp,h0,Below.refl _ _⟩
 case round=>
  obtain ⟨k,hk,rfl,hJs,hnx⟩:=hrel
  have hBx:wr.cell? ⟨Bs,0,none⟩=some (.slice (some ⟨b,off,none⟩) zs.length cap):=(hnx.cell (p:=⟨Bs,0,none⟩) hBn).trans hBs
  by_cases hlt:k<zs.length
  ·obtain ⟨q,hq⟩:∃q:Nat,(zs.length:Int)-1-k=(q:Int):=⟨zs.length-1-k,by omega⟩
   have hqk:zs.length-1-k=q:=by omega
   obtain ⟨g0,g1,g2,g3⟩:=hc q (by omega)
   have c0:=(hnx.cell (p:=⟨b,off+q*4,none⟩) hb).trans g0
   have c1:=(hnx.cell (p:=⟨b,off+q*4+1,none⟩) hb).trans g1
   have c2:=(hnx.cell (p:=⟨b,off+q*4+2,none⟩) hb).trans g2
   have c3:=(hnx.cell (p:=⟨b,off+q*4+3,none⟩) hb).trans g3
   obtain ⟨fn,tmps,assign,body,hy,hR⟩:=hY _ (q,Vw zs q) wr hJs (by rw [Z5q];exact hlt)
   dsimp only [ArmV.enc] at hy
   rw [hq]
   have hql:(q:Int)<zs.length:=by omega
   gi_wp2
   refine hR.mono ?_
   rintro e W3 (⟨rfl,hJ3,hk3⟩|⟨rfl,hJx3⟩)
   ·gi_wp2
    go_roundw
    case rel=>exact ⟨k+1,by omega,by congr 1;omega,by rw [I8,hqk];exact hJ3,hnx.trans hk3⟩
    case measure=>simp [intOf]
   ·gi_wp2
    refine bodyPost_ret (results_none rfl _ _ _) rfl ?_
    exact ⟨⟨_,rfl⟩,.inr ⟨_,⟨k+1,by omega,by rw [I8,hqk]⟩,hJx3⟩⟩
  ·obtain rfl:k=zs.length:=by omega
   have hneg:¬(0≤(zs.length:Int)-1-zs.length):=by omega
   gi_wp2
   go_end0
   first|exact ⟨⟨_,rfl⟩,.inl ⟨_,rfl,hJs⟩⟩|exact ⟨⟨_,rfl⟩,.inl hJs⟩
set_option maxRecDepth 100000 in
set_option maxHeartbeats 1000000 in
theorem Z31 (F:Fence) (n:Nat) (h8:F.fn 297) (hro:F.round=none) (l Bs:Nat) (a:Option Addr) (c:Nat) (J:List (Nat × ArmV)→World→Prop) (W:World) (hBs:W.cell? ⟨Bs,0,none⟩=some (.slice a 0 c)) (h0:J [] W) :
  CallsIn F n Tryz.prog 297 #[.func (.yield l) #[] #[],.pointer (some ⟨Bs,0,none⟩)] W fun e W'=>(∃v,e=.returned v)∧J [] W':=by
 refine callsIn_of_wp Tryz.func297 rfl h8 ?_ hro
 simp only [Tryz.ntmps297,List.size_toArray,List.length_cons,List.length_nil,Nat.reduceAdd,Nat.reduceSub,Array.replicate_succ,Array.replicate_zero,List.push_toArray,List.append_toArray,List.nil_append,List.cons_append]
 gi_wp2
 gi_loopw [3] (fun i wr=>i=.int .i64 (-1)∧J [] wr) (fun _ _=>0)
 case atStart=>exact ⟨rfl,h0⟩
 case round=>
  obtain ⟨rfl,hJs⟩:=hrel
  gi_wp2
  go_end0
  exact ⟨⟨_,rfl⟩,hJs⟩
set_option maxHeartbeats 1000000 in
theorem Z32 (F:Fence) (n:Nat) (h6:F.fn 285) (hro:F.round=none) (v:Value) (hv1:∃a l c,v=.slice a l c) (w:World) :
  CallsIn F n Tryz.prog 285 #[v] w fun e w'=>e=.returned (.func (.func 297) #[] #[.pointer (some ⟨w.heap.size,0,none⟩)])∧w'=w.alloc (.cells #[v] 79):=by
 obtain ⟨a,ll,c,rfl⟩:=hv1
 refine callsIn_of_wp Tryz.func285 rfl h6 ?_ hro
 simp only [Tryz.ntmps285,List.size_toArray,List.length_cons,List.length_nil,Nat.reduceAdd,Nat.reduceSub,Array.replicate_succ,Array.replicate_zero,List.push_toArray,List.append_toArray,List.nil_append,List.cons_append]
 gi_wp2
 go_ret
 exact ⟨rfl,rfl⟩
theorem Z33 (F:Fence) (n:Nat) (h8:F.fn 297) (hro:F.round=none) (hn:1≤n) (Bs n₀:Nat) (v:Value) (zs:List ArmV) (hreach:zs.length≤1000000000) (w:World) (hBs:Bs<n₀) (hn₀:n₀≤w.heap.size)
  (hc:w.cell? ⟨Bs,0,none⟩=some v) (hI:BO n₀ w v zs) :
  SeqStopsK F n Tryz.prog 297 #[.pointer (some ⟨Bs,0,none⟩)] (fun x:Nat × ArmV=>#[Value.int .i64 ((x.1:Nat):Int),x.2.enc]) (Below n₀) (fun ys=>ys=dn zs zs.length) (fun pre=>∃k,k≤zs.length∧pre=dn zs k) zs.length w:=by
 intro l J Jx W hW _ _ hY h0
 have hc':=(hW.cell (p:=⟨Bs,0,none⟩) (Nat.lt_of_lt_of_le hBs hn₀)).trans hc
 rcases hI.below (hW.mono hn₀) with ⟨a,c,rfl,rfl⟩|⟨b,off,cap,rfl,hb,hcs⟩
 ·exact (Z31 F n h8 hro l Bs a c J W hc' h0).mono fun e W' ⟨he,hj⟩=>⟨he,.inl ⟨_,rfl,hj⟩⟩
 ·exact Z30 F n h8 hro hn l Bs n₀ b off cap zs hreach hb J Jx hY W hBs hc' hcs h0
def Um (W:World) (B:Nat) (a:ArmV):Prop:=W.heap[B]? = some (.cells #[.int .i64 a.m,.int .i64 a.f,.slice a.sa a.sl a.sc,.bool a.c] 108 (0,0))
theorem HM {β:Type} (B:Nat) (f:β→ArmV):Own (fun s W=>Um W B (f s)):=fun s X Y row hs hg hrow=>
 (grownBy_keeps_cells hg hrow hs rfl).trans hs
theorem Um.lt {W:World} {B:Nat} {a:ArmV} (h:Um W B a):B<W.heap.size:=(Array.getElem?_eq_some_iff.1 h).1
theorem Um.alloc {W:World} {B:Nat} {a:ArmV} (h:Um W B a) (o:Obj):Um (W.alloc o) B a:=(Below.heap_alloc W o B h.lt).trans h
theorem Um.other {W:World} {B B':Nat} {a:ArmV} (h:Um W B a) (hne:B≠B') (j:Nat) (u:Value):Um (W.setCell ⟨B',j,none⟩ u) B a:=(heap_setCell_other W ⟨B',j,none⟩ B u hne).trans h
theorem Um.cells {W:World} {B:Nat} {a:ArmV} (h:Um W B a):W.cell? ⟨B,0,none⟩=some (.int .i64 a.m)∧W.cell? ⟨B,1,none⟩=some (.int .i64 a.f)∧W.cell? ⟨B,2,none⟩=some (.slice a.sa a.sl a.sc)∧W.cell? ⟨B,3,none⟩=some (.bool a.c):=by
 have h':W.heap[B]? = _:=h
 refine ⟨?_,?_,?_,?_⟩<;>simp [World.cell?,h']
theorem Um.frozen {W:World} {B:Nat} {a:ArmV} (h:Um W B a) (j:Nat):W.frozen? ⟨B,j,none⟩=false:=by simp [World.frozen?,show W.heap[B]? = _ from h]
def w4 (W:World) (B:Nat) (a:ArmV):World:=(((W.setCell ⟨B,0,none⟩ (.int .i64 a.m)).setCell ⟨B,1,none⟩ (.int .i64 a.f)).setCell ⟨B,2,none⟩ (.slice a.sa a.sl a.sc)).setCell ⟨B,3,none⟩ (.bool a.c)
theorem Um.put {W:World} {B:Nat} {a:ArmV} (b:ArmV) (h:Um W B a):Um (w4 W B b) B b:=
 heap_setCell_same _ B 3 _ 108 _ (heap_setCell_same _ B 2 _ 108 _ (heap_setCell_same _ B 1 _ 108 _ (heap_setCell_same _ B 0 _ 108 _ h)))
theorem Z1d (W:World) (B:Nat) (a:ArmV) (k:Nat) (h:k≠B):(w4 W B a).heap[k]? = W.heap[k]?:=
 (heap_setCell_other _ ⟨B,3,none⟩ k _ h).trans ((heap_setCell_other _ ⟨B,2,none⟩ k _ h).trans ((heap_setCell_other _ ⟨B,1,none⟩ k _ h).trans (heap_setCell_other _ ⟨B,0,none⟩ k _ h)))
theorem Z1c (W:World) (B:Nat) (a:ArmV):KeepsOthers W (w4 W B a):=(((KeepsOthers.setCell _ _ _).trans (KeepsOthers.setCell _ _ _)).trans (KeepsOthers.setCell _ _ _)).trans (KeepsOthers.setCell _ _ _)
theorem Z1b {n₀:Nat} {w W:World} {B:Nat} (a:ArmV) (h:Below n₀ w W) (hB:n₀≤B):Below n₀ w (w4 W B a):=
 (((h.setCell (p:=⟨B,0,none⟩) hB _).setCell (p:=⟨B,1,none⟩) hB _).setCell (p:=⟨B,2,none⟩) hB _).setCell (p:=⟨B,3,none⟩) hB _
set_option maxRecDepth 100000 in
set_option maxHeartbeats 4000000 in
theorem Zcc (F:Fence) (n:Nat) (h61:F.fn 264) (h122:F.fn 285) (h165:F.fn 297) (hro:F.round=none) (hn:6≤n) (v:Int) (av:Value) (zs:List ArmV) (hreach:zs.length≤1000000000) (w:World) (hav:∃a l c,av=.slice a l c) (hA:BO w.heap.size w av zs) :
  CallsIn F n Tryz.prog 264 #[av,.int .i64 v] w fun e W'=>((∃k,k<zs.length∧(Vw zs (zs.length-1-k)).m=v∧(∀j,j<k→(Vw zs (zs.length-1-j)).m≠v)∧e=.returned (.tuple #[(Vw zs (zs.length-1-k)).enc,.bool true])) ∨
   ((∀j,j<zs.length→(Vw zs (zs.length-1-j)).m≠v)∧e=.returned (.tuple #[.agg #[.int .i64 0,.int .i64 0,.slice none 0 0,.bool false],.bool false])))∧Below w.heap.size w W':=by
 have h1:1≤n:=by omega
 refine callsIn_of_wp_marks Tryz.func264 rfl h61 ?_ hro
 simp only [Tryz.ntmps264,List.size_toArray,List.length_cons,List.length_nil,Nat.reduceAdd,Nat.reduceSub,Array.replicate_succ,Array.replicate_zero,List.push_toArray,List.append_toArray,List.nil_append,List.cons_append]
 obtain ⟨aa,al,ac,rfl⟩:=hav
 gi_wp2_with (gi_at_call 285;refine (Z32 F (n-1) h122 hro _ ⟨_,_,_,rfl⟩ _).mono ?_;rintro e w' ⟨rfl,rfl⟩)
 obtain ⟨W0,hW0⟩:∃W0,(((w.alloc (.cells #[.int .i64 v] 3)).alloc (.cells #[.int .i64 0,.int .i64 0,.slice none 0 0,.bool false] 108)).alloc (.cells #[.bool false] 4)).alloc (.cells #[.slice aa al ac] 79)=W0:=⟨_,rfl⟩
 have hB0:Below w.heap.size w W0:=by rw [←hW0];exact ((((Below.refl _ w).alloc (Nat.le_refl _) _).alloc (by simp) _).alloc (by simp;omega) _).alloc (by simp;omega) _
 have hsz:W0.heap.size=w.heap.size+4:=by rw [←hW0];simp
 have bV:Boxed W0 w.heap.size 3 (.int .i64 v):=by rw [←hW0];exact (((Boxed.new w 3 (.int .i64 v)).alloc _).alloc _).alloc _
 have bR:Um W0 (w.heap.size+1) default:=by
  rw [←hW0]
  have h:Um ((w.alloc (.cells #[.int .i64 v] 3)).alloc (.cells #[.int .i64 0,.int .i64 0,.slice none 0 0,.bool false] 108)) (w.alloc (.cells #[.int .i64 v] 3)).heap.size default:=World.alloc_heap_new _ _
  rw [World.size_alloc] at h
  exact (h.alloc _).alloc _
 have bO:Boxed W0 (w.heap.size+1+1) 4 (.bool false):=by
  rw [←hW0]
  have h:=Boxed.new ((w.alloc (.cells #[.int .i64 v] 3)).alloc (.cells #[.int .i64 0,.int .i64 0,.slice none 0 0,.bool false] 108)) 4 (.bool false)
  simp only [World.size_alloc] at h
  exact h.alloc _
 have bA:Boxed W0 (w.heap.size+1+1+1) 79 (.slice aa al ac):=by
  rw [←hW0]
  have h:=Boxed.new (((w.alloc (.cells #[.int .i64 v] 3)).alloc (.cells #[.int .i64 0,.int .i64 0,.slice none 0 0,.bool false] 108)).alloc (.cells #[.bool false] 4)) 79 (.slice aa al ac)
  simp only [World.size_alloc] at h
  exact h
 have hA0:BO (w.heap.size+4) W0 (.slice aa al ac) zs:=by
  rcases hA.below hB0 with h|⟨b,off,cap,e,hb,hc⟩
  ·exact .inl h
  ·exact .inr ⟨b,off,cap,e,by omega,hc⟩
 rw [hW0]
 clear hW0
 refine wpIn_rangeFunc_ownH hro h1 (gf:=297) (lb:=#[.pointer (some ⟨w.heap.size+1+1+1,0,none⟩)]) rfl h165 (enters_of Tryz.func297 (by kernel_rfl) rfl)
  (Z33 F (n-1) h165 hro (by omega) (w.heap.size+1+1+1) (w.heap.size+4) _ zs hreach W0 (by omega) (by omega) bA.cell hA0) belowK_t (belowK_b (by omega)) (Below.refl _ _) (fun _=>rfl)
  (fun pre W=>(((((∀x∈pre,x.2.m≠v)∧Boxed W w.heap.size 3 (.int .i64 v))∧Um W (w.heap.size+1) default)∧Boxed W (w.heap.size+1+1) 4 (.bool false))∧Boxed W (w.heap.size+1+1+1) 79 (.slice aa al ac))∧Below w.heap.size w W)
  (fun c pre W=>((∃pre0 x,(c=.ret∧pre=pre0++[x]∧x.2.m=v∧∀y∈pre0,y.2.m≠v)∧Um W (w.heap.size+1) x.2)∧Boxed W (w.heap.size+1+1) 4 (.bool true))∧Below w.heap.size w W)
  (OwnFrom.and (OwnFrom.and (OwnFrom.and (OwnFrom.and (OwnFrom.and (ownFrom_pure _ _) (Own.from (boxed_own _ _ _) _)) (Own.from (HM _ _) _)) (Own.from (boxed_own _ _ _) _)) (Own.from (boxed_own _ _ _) _)) (ownFrom_below (Nat.le_refl _) (by omega)))
  (fun c=>OwnFrom.and (OwnFrom.and (fun s X Y row hs hg hr=>by
   obtain ⟨pre0,x,h,hb⟩:=hs
   exact ⟨pre0,x,h,HM (w.heap.size+1) (fun (_:Unit)=>x.2) () X Y row hb hg (fun r e=>(hr r e).2)⟩) (Own.from (boxed_own _ _ _) _)) (ownFrom_below (Nat.le_refl _) (by omega)))
  ⟨⟨⟨⟨⟨by simp,bV⟩,bR⟩,bO⟩,bA⟩,hB0⟩
  (fun x a' W=>∃Bx,w.heap.size+1+1<Bx∧Um W Bx x.2∧a'={ tmps:=#[.slice aa al ac,.int .i64 v,undef,.pointer (some ⟨w.heap.size,0,none⟩),.pointer (some ⟨w.heap.size+1,0,none⟩),.pointer (some ⟨w.heap.size+1+1,0,none⟩),undef,.pointer (some ⟨Bx,0,none⟩),.slice aa al ac,.func (.func 297) #[] #[.pointer (some ⟨w.heap.size+1+1+1,0,none⟩)],.int .i64 ((x.1:Nat):Int),x.2.enc,undef,undef,undef,undef,undef,undef],defers:=[] })
  (fun x a' _ X Y row hs hg hr=>by obtain ⟨Bx,e1,e2,e3⟩:=hs;exact ⟨Bx,e1,HM Bx (fun (_:Unit)=>x.2) () X Y row e2 hg (fun r e=>(hr r e).2),e3⟩)
  ?assign ?body ?done ?stop
 case assign=>
  rintro l pre ⟨xi,x⟩ W K ⟨⟨⟨⟨⟨hp,bV1⟩,bR1⟩,bO1⟩,bA1⟩,hB1⟩ hK
  obtain ⟨xm,xf,xsa,xsl,xsc,xc⟩:=x
  dsimp only [ArmV.enc] at hK ⊢
  gi_wp2
  have hbA:=bA1.lt
  exact hK _ _ ((KeepsOthers.alloc _ _).from _) ((Below.refl _ W).alloc (by omega) _) ⟨⟨⟨⟨⟨hp,bV1.alloc _⟩,bR1.alloc _⟩,bO1.alloc _⟩,bA1.alloc _⟩,hB1.alloc hB1.size _⟩ ⟨W.heap.size,by omega,World.alloc_heap_new W _,rfl⟩
 case body=>
  rintro l pre ⟨xi,x⟩ a' W hl ⟨r,hr⟩ ⟨⟨⟨⟨⟨hp,bV1⟩,bR1⟩,bO1⟩,bA1⟩,hB1⟩ ⟨Bx,hBx,bX,rfl⟩ hlt
  obtain ⟨xm,xf,xsa,xsl,xsc,xc⟩:=x
  have cV:=bV1.cell
  obtain ⟨x0,x1,x2,x3⟩:=bX.cells
  dsimp only at x0 x1 x2 x3
  obtain ⟨r0,r1,r2,r3⟩:=bR1.cells
  have f0:=bR1.frozen 0
  have f1:=bR1.frozen 1
  have f2:=bR1.frozen 2
  have f3:=bR1.frozen 3
  have cO:=bO1.cell
  have fO:=bO1.frozen
  gi_wp2
  ·rename_i hxy
   have hxv:xm=v:=by first|exact hxy|exact eq_of_beq hxy|(simp at hxy;exact hxy)
   have b4:=bR1.put ⟨xm,xf,xsa,xsl,xsc,xc⟩
   have b5:Boxed (w4 W (w.heap.size+1) ⟨xm,xf,xsa,xsl,xsc,xc⟩) (w.heap.size+1+1) 4 (.bool false):=(Z1d W _ _ _ (by omega)).trans bO1
   have b6:Um ((w4 W (w.heap.size+1) ⟨xm,xf,xsa,xsl,xsc,xc⟩).setCell ⟨w.heap.size+1+1,0,none⟩ (.bool true)) (w.heap.size+1) ⟨xm,xf,xsa,xsl,xsc,xc⟩:=b4.other (by omega) 0 _
   exact ⟨((Z1c W (w.heap.size+1) ⟨xm,xf,xsa,xsl,xsc,xc⟩).trans (KeepsOthers.setCell _ _ _)).from _,⟨⟨pre,xi,⟨xm,xf,xsa,xsl,xsc,xc⟩,⟨rfl,rfl,hxv,fun a b h=>hp (a,b) h⟩,b6⟩,b5.set _⟩,(Z1b ⟨xm,xf,xsa,xsl,xsc,xc⟩ hB1 (by omega)).setCell (p:=⟨w.heap.size+1+1,0,none⟩) (by simp;omega) _⟩
  ·rename_i hxy
   exact ⟨KeepsFrom.refl _ _,Below.refl _ _,⟨⟨⟨⟨fun a b h=>(List.mem_append.1 h).elim (hp (a,b)) (fun e=>by simp at e;obtain ⟨rfl,rfl⟩:=e;simpa using hxy),bV1⟩,bR1⟩,bO1⟩,bA1⟩,hB1⟩
 case done=>
  rintro D ys W hD rfl ⟨⟨⟨⟨⟨hp,bV1⟩,bR1⟩,bO1⟩,bA1⟩,hB1⟩ hK
  obtain ⟨r0,r1,r2,r3⟩:=bR1.cells
  have f0:=bR1.frozen 0
  have f1:=bR1.frozen 1
  have f2:=bR1.frozen 2
  have f3:=bR1.frozen 3
  have cO:=bO1.cell
  have fO:=bO1.frozen
  gi_wp2
  have hK':=((Z1c W (w.heap.size+1) (⟨0,0,none,0,0,false⟩:ArmV)).trans (KeepsOthers.setCell _ ⟨w.heap.size+1+1,0,none⟩ (.bool false))).same D _ hK rfl
  refine ⟨by simp,.inl ⟨_,_,rfl,run_takeDeferred hK',?_⟩⟩
  have b4:=bR1.put (⟨0,0,none,0,0,false⟩:ArmV)
  have b5:Boxed (w4 W (w.heap.size+1) (⟨0,0,none,0,0,false⟩:ArmV)) (w.heap.size+1+1) 4 (.bool false):=(Z1d W _ _ _ (by omega)).trans bO1
  have b6:Um ((w4 W (w.heap.size+1) (⟨0,0,none,0,0,false⟩:ArmV)).setCell ⟨w.heap.size+1+1,0,none⟩ (.bool false)) (w.heap.size+1) (⟨0,0,none,0,0,false⟩:ArmV):=b4.other (by omega) 0 _
  have b7:=b5.set (.bool false)
  have n4:w.heap.size+1≠D:=by omega
  have n5:w.heap.size+1+1≠D:=by omega
  have b8:Um (((w4 W (w.heap.size+1) (⟨0,0,none,0,0,false⟩:ArmV)).setCell ⟨w.heap.size+1+1,0,none⟩ (.bool false)).putObj D (.deferred none)) (w.heap.size+1) (⟨0,0,none,0,0,false⟩:ArmV):=(World.putObj_heap_other n4).trans b6
  have b9:Boxed (((w4 W (w.heap.size+1) (⟨0,0,none,0,0,false⟩:ArmV)).setCell ⟨w.heap.size+1+1,0,none⟩ (.bool false)).putObj D (.deferred none)) (w.heap.size+1+1) 4 (.bool false):=(World.putObj_heap_other n5).trans b7
  obtain ⟨y0,y1,y2,y3⟩:=b8.cells
  have y4:=b9.cell
  dsimp only [w4] at y0 y1 y2 y3 y4
  refine ⟨.tuple #[.agg #[.int .i64 0,.int .i64 0,.slice none 0 0,.bool false],.bool false],?_,⟨.inr ⟨fun j hj=>hp (zs.length-1-j,Vw zs (zs.length-1-j)) (List.mem_map.2 ⟨j,List.mem_range.2 hj,rfl⟩),rfl⟩,
   ((Z1b (⟨0,0,none,0,0,false⟩:ArmV) hB1 (by omega)).setCell (p:=⟨w.heap.size+1+1,0,none⟩) (by simp;omega) _).trans (belowK_b (w:=w) (Nat.le_refl _) _ D _ _ (by omega) hK' rfl rfl)⟩⟩
  simp [results,Tryz.f264,go_sem,y0,y1,y2,y3,y4]
 case stop=>
  rintro D c pre W hD hpre ⟨⟨⟨pre0,x,⟨rfl,he,hx,hy⟩,bR1⟩,bO1⟩,hB1⟩ hK
  gi_wp2
  refine ⟨by simp,.inl ⟨_,_,rfl,run_takeDeferred hK,?_⟩⟩
  have n4:w.heap.size+1≠D:=by omega
  have n5:w.heap.size+1+1≠D:=by omega
  have b8:Um (W.putObj D (.deferred none)) (w.heap.size+1) x.2:=(World.putObj_heap_other n4).trans bR1
  have b9:Boxed (W.putObj D (.deferred none)) (w.heap.size+1+1) 4 (.bool true):=(World.putObj_heap_other n5).trans bO1
  obtain ⟨y0,y1,y2,y3⟩:=b8.cells
  have y4:=b9.cell
  obtain ⟨k,hk,rfl⟩:=hpre
  obtain ⟨k',rfl⟩:∃k',k=k'+1:=by
   cases k with
   | zero=>simp [dn] at he
   | succ k'=>exact ⟨k',rfl⟩
  rw [I8] at he
  obtain ⟨e1,e2⟩:=List.append_inj' he rfl
  have e3:x=(zs.length-1-k',Vw zs (zs.length-1-k')):=(List.cons.inj e2).1.symm
  subst e3
  refine ⟨.tuple #[(Vw zs (zs.length-1-k')).enc,.bool true],?_,⟨.inl ⟨k',by omega,hx,fun j hj=>hy (zs.length-1-j,Vw zs (zs.length-1-j)) (e1▸List.mem_map.2 ⟨j,List.mem_range.2 hj,rfl⟩),rfl⟩,
   hB1.trans (belowK_b (w:=w) (Nat.le_refl _) W D _ _ (by omega) hK rfl rfl)⟩⟩
  simp [results,Tryz.f264,go_sem,y0,y1,y2,y3,y4,ArmV.enc]
end Go.Proofs
end
namespace Go.Abs
open Go.Proofs
theorem Rv {v:Int}:∀{am:List Xj} {i:Nat} {a:Xj},am[i]? = some a->a.mat=v->(∀j b,i<j->am[j]? = some b->b.mat≠v)->UL am v=some a
 | [],_,_,h,_,_=>by simp at h
 | x::r,0,a,h,hm,hl=>by
  simp at h
  subst h
  have:UL r v=none:=En fun b hb=>by
   obtain ⟨j,hj⟩:=ML hb
   exact hl (j+1) b om (by simpa using hj)
  rw [UL,this]
  simp [hm]
 | x::r,i+1,a,h,hm,hl=>by
  have:UL r v=some a:=Rv (by simpa using h) hm fun j b hj hb=>hl (j+1) b om (by simpa using hb)
  rw [UL,this]
def MN (w:World) (G:Ye) (b o:Nat) (a:Xj) (z:ArmV):Prop:=
 w.cell? ⟨b,o,none⟩=some (.int .i64 z.m)/\w.cell? ⟨b,o+1,none⟩=some (.int .i64 z.f)/\w.cell? ⟨b,o+2,none⟩=some (.slice z.sa z.sl z.sc)/\w.cell? ⟨b,o+3,none⟩=some (.bool z.c) /\
  z.m=a.mat/\z.f=a.fst/\z.c=a.chg/\RV w G (Z5 a.fds) (.slice z.sa z.sl z.sc)/\G b o
theorem Zez {w:World} {G:Ye} {es:List AV} {hv:Option Value} {u:Value} (h:RV w G (.sl es hv) u):∃a l c,u=.slice a l c:=by
 cases h with
 | nil _=>exact ⟨_,_,_,rfl⟩
 | sl _ _ _=>exact ⟨_,_,_,rfl⟩
theorem Z2t {w:World} {G:Ye} {b o:Nat} {a:Xj} (h:WD w G b o (PU a)):∃z,MN w G b o a z:=by
 cases h with
 | cons c0 g0 r0 t=>cases t with
  | cons c1 _ r1 t=>cases t with
   | cons c2 _ r2 t=>cases t with
    | cons c3 _ r3 t=>
     have e0:=r0.val_inv;subst e0
     have e1:=r1.val_inv;subst e1
     have e3:=r3.val_inv;subst e3
     have hs:∃sa sl sc,∃u,u=Value.slice sa sl sc/\w.cell? ⟨b,o+2,none⟩=some u/\RV w G (Z5 a.fds) u:=by
      obtain ⟨sa,sl,sc,e⟩:=Zez r2
      exact ⟨sa,sl,sc,_,e,c2,r2⟩
     obtain ⟨sa,sl,sc,u,rfl,c2',r2'⟩:=hs
     exact ⟨⟨a.mat,a.fst,sa,sl,sc,a.chg⟩,c0,c1,c2',c3,rfl,rfl,rfl,r2',g0⟩
theorem Nb {w:World} {G:Ye} {b k:Nat}:∀{o:Nat} {am:List Xj},Vv w G k b o (WV am)->∃zs:List ArmV,zs.length=am.length/\∀(j:Nat) a,am[j]? = some a->MN w G b (o+j*4) a (Vw zs j)
 | _,[],_=>⟨[],rfl,fun j a h=>by simp at h⟩
 | o,x::r,.cons hl h t=>by
  have hk:4=k:=hl
  subst hk
  obtain ⟨z,hz⟩:=Z2t h
  obtain ⟨zs,hlen,hzs⟩:=Nb t
  refine ⟨z::zs,by simp [hlen],fun j a hj=>?_⟩
  cases j with
  | zero=>simp at hj;subst hj;simpa [Vw] using hz
  | succ j=>
   have:=hzs j a (by simpa using hj)
   rw [show o+(j+1)*4=o+4+j*4 by omega]
   simpa [Vw] using this
theorem Z2v (am:List Xj) (v:Int) (hal:am.length<=1000000000):WR Tryz.prog 264 [Xi am,.i v] [] (fun r h=>(∃(a:Xj),r=.tup [.agg [.i a.mat,.i a.fst,Z5 a.fds,.b a.chg],.b true]/\h=[]/\UL am v=some a)∨(r=.tup [.agg [.i 0,.i 0,ZQ [] (.slice none 0 0),.b false],.b false]/\h=[]/\UL am v=none)):=by
 intro w G vs ha hh
 obtain ⟨u,rfl,hu⟩:∃u,vs=[u,.int .i64 v]/\RV w G (Xi am) u:=by
  cases ha with
  | cons h1 t=>cases t with
   | cons h2 t=>cases t;have:=h2.val_inv;subst this;exact ⟨_,rfl,h1⟩
 obtain ⟨zs,hlen,hat,hav,hrel⟩:∃zs:List ArmV,zs.length=am.length/\BO w.heap.size w u zs/\(∃a l c,u=.slice a l c)/\∀(j:Nat) a,am[j]? = some a->(Vw zs j).m=a.mat/\(Vw zs j).f=a.fst/\(Vw zs j).c=a.chg/\RV w G (Z5 a.fds) (.slice (Vw zs j).sa (Vw zs j).sl (Vw zs j).sc):=by
  have hu':RV w G (.sl (WV am) none) u:=hu
  generalize hes:WV am=es at hu'
  cases hu' with
  | nil _=>
   cases am with
   | nil=>exact ⟨[],rfl,.inl ⟨_,_,rfl,rfl⟩,⟨_,_,_,rfl⟩,fun j a h=>by simp at h⟩
   | cons _ _=>simp [WV] at hes
  | @sl _ _ b o k cap _ hc hm=>
   subst hes
   obtain ⟨zs,hlen,hzs⟩:=Nb hm
   have hel:(WV am).length=zs.length:=by simp [WV,hlen]
   refine ⟨zs,hlen,?_,⟨_,_,_,rfl⟩,fun j a hj=>by obtain ⟨_,_,_,_,q1,q2,q3,q4,_⟩:=hzs j a hj;exact ⟨q1,q2,q3,q4⟩⟩
   cases am with
   | nil=>exact .inl ⟨_,_,rfl,List.eq_nil_of_length_eq_zero hlen⟩
   | cons x r=>
    refine .inr ⟨b,o,cap,by rw [hel],hh.lt b _ (hzs 0 x rfl).2.2.2.2.2.2.2.2,fun j hj=>?_⟩
    have hj2:j<(x::r).length:=by omega
    obtain ⟨q0,q1,q2,q3,_⟩:=hzs j _ (QU hj2)
    exact ⟨q0,q1,q2,q3⟩
 refine (callsIn_wide.1 (Zcc Fence.wide 6 trivial trivial trivial rfl om v u zs om w hav hat)).mono ?_
 rintro e W' ⟨hres,hB⟩
 have hA:U6 G w W' G:=⟨fun b o hg=>hB.cell (p:=⟨b,o,none⟩) (hh.lt b o hg),fun _ _ h=>h⟩
 have hH:Yu W' G []:=⟨(fun r hr=>by cases hr),List.Pairwise.nil,(fun r hr=>by cases hr),fun b o hg=>Hr (hh.lt b o hg) hB.size⟩
 have hX:YX w G [] W' G []:=⟨hB.os,hB.tape,hB.output,hB.size,fun _ _ h=>h,fun b hb=>.inl (hB.block b hb),fun _ _ _ h=>.inl h,fun _ _ _ h=>h⟩
 have hmn:∀j,j<zs.length->∃a,am[zs.length-1-j]? = some a:=fun j hj=>⟨_,QU om⟩
 rcases hres with ⟨k,hk,hm,hlt,rfl⟩|⟨E7,rfl⟩
 ·obtain ⟨a,hga⟩:=hmn k hk
  obtain ⟨q1,q2,q3,q4⟩:=hrel _ a hga
  have hof:UL am v=some a:=Rv hga (q1▸hm) fun j b hj hb=>by
   have hjl:=(Xq.1 hb).1
   have:=hlt (zs.length-1-j) om
   rw [show zs.length-1-(zs.length-1-j)=j by omega,(hrel j b hb).1] at this
   exact this
  refine ⟨_,.tup [.agg [.i a.mat,.i a.fst,Z5 a.fds,.b a.chg],.b true],[],G,rfl,.inl ⟨a,rfl,rfl,hof⟩,?_,hH,hX⟩
  refine .tup (.cons (.agg (cs:=[_,_,_,_]) (.cons ?_ (.cons ?_ (.cons (q4.mono hA) (.cons ?_ .nil))))) (.cons .val .nil))
  ·rw [q1];exact .val
  ·rw [q2];exact .val
  ·rw [q3];exact .val
 ·have hof:UL am v=none:=En fun a ha=>by
   obtain ⟨j,hj⟩:=ML ha
   have hjl:=(Xq.1 hj).1
   have:=E7 (zs.length-1-j) om
   rw [show zs.length-1-(zs.length-1-j)=j by omega,(hrel j a hj).1] at this
   exact this
  refine ⟨_,.tup [.agg [.i 0,.i 0,ZQ [] (.slice none 0 0),.b false],.b false],[],G,rfl,.inr ⟨rfl,rfl,hof⟩,?_,hH,hX⟩
  exact .tup (.cons (.agg (cs:=[_,_,_,_]) (.cons .val (.cons .val (.cons (.nil (fun x hx=>(Qh hx).symm)) (.cons .val .nil))))) (.cons .val .nil))
theorem HK (b:Nat) (ga:Hd) (gb:Hd) (gc:Hd) (n:Zi) (L:Ve) (ln:LI) (am:List Xj) (x:Z6) (mm:Nat) (hlk:Wq L:=by exact ob) (hlb:L.vars.length<=1000000000:=by exact ob) (hm:mm<=L.vars.length:=by exact ob) (hr:0<=x.result/\x.result<L.vars.length:=by exact ob) (hq:∀y∈L.own,-999999999<=y/\y<=1000000000):Zk 125 [.p b 0,ZZ x,.i mm] [.obj b [ZT n.decls,YW n,Z5 ln,Xi am,.h ga,.h gb,.h gc],rV ga L.vars,rV gb L.own,rV gc L.tok] (fun r h=>(r=.b true/\h=[.obj b [ZT n.decls,YW n,Z5 ln,Xi am,.h ga,.h gb,.h gc],rV ga ((Wi L x.result).vars),rV gb ((Wi L x.result).own),rV gc ((Wi L x.result).tok)]/\U0 mm x.result L=some ((Wi L x.result).take mm))∨(r=.b false/\h=[]/\U0 mm x.result L=none)):=by
 have hlk0:=hlk
 obtain ⟨e1,e2,e3,e4,e5⟩:=hlk0
 have d1:(XP L x.result).own.length=L.own.length:=Vc
 have d2:(XP L x.result).tok.length=L.tok.length:=rfl
 have d3:(XP L x.result).vars.length=L.vars.length:=rfl
 refine ZF 52 Tryz.func125 (ar (iA (Xm x) fun b1=>Z0 (aq (aD 16 (ZH 10 16 [0,1,2,3,4,5] [1,0] (dx 6 (Wo 2 ga L.vars x.result x.result.toNat (hq:=rfl)) ?_))))))
 obtain ⟨x1,Z3⟩:=Zs L.vars x.result.toNat om
 have hgv:=VH Z3
 refine Uq 7 (VU 2 ga L.vars x.result.toNat x1 Z3) (Zm 6 8 [8,9] (db (b:=(x1 != 0)) 17 (fun Zb=>?_) (fun Zb=>?_)))
 ·have ZX:x1≠0:=(Ym).1 Zb
  refine ZH 3 6 [10,11,12] [0] (Z9 13 (Yo 13 [1,1,1,1] [] [] (F8 b ga gb gc n L ln am x.result (hq:=(fun y hy=>by have:=hq y hy;omega))) (Zm 0 2 [14,15] (de (ac (!decide (1<=gI L.own x.result)) (p:=¬(decide (1<=gI L.own x.result)=true)) (YA Iff.rfl) (fun Za=>?_) (fun Za=>?_))))))
  ·exact ar (Zr (r1 [] (.inr ⟨rfl,rfl,(Z6f (by rw [hgv];exact ZX) (fun q=>Za (decide_eq_true q)))⟩)))
  refine ak (Yi (ab 0 (Y6 (fun fz gz m F h=>∃(k:Nat),(mm<=k/\k<=L.vars.length)/\(WQ ((XP L x.result).own.drop k) ((XP L x.result).tok.drop k)=WQ ((XP L x.result).own.drop mm) ((XP L x.result).tok.drop mm))/\F=sF [0] fz [(7,.i k)]/\h=[Zc gz 0,Zc gz 1,Zc gz 2,Zc gz 3]/\m=L.vars.length-k) _ _ _ ⟨mm,om,ob,rfl,rfl,rfl⟩ (ZG 4 fl) ?_)))
  rintro m F h ⟨k,Yj,Zl,rfl,rfl,rfl⟩
  refine Yl 5 [0] (Zo (KQ 1 ga ((XP L x.result).vars)) (Y5 ((k:Int)<((((XP L x.result).vars).length:Nat):Int)) (fun Zg=>?_) (fun Zg=>?_)))
  ·refine ak (aq (ab 1 (Zw 5 [0] (Zo (Wo 2 gb ((XP L x.result).own) (k:Int) k) ?_))))
   obtain ⟨x2,Zx⟩:=Zs ((XP L x.result).own) k om
   refine V8 (VU 2 gb ((XP L x.result).own) k x2 Zx) (Z2 2 (ib (b:=(x2 != 0)) 42 (fun ZB=>?_) (fun ZB=>?_)))
   ·have Yk:x2≠0:=(Ym).1 ZB
    refine Z0 (Wc (ZE ?_))
    have hE:Wi L x.result=XP L x.result:=Zd (by rw [hgv];exact ZX)
    obtain ⟨y,hy⟩:=Zs ((XP L x.result).tok) k om
    exact ZD (r1 [] (.inr ⟨rfl,rfl,(FA (by rw [hE];exact Hh Zx hy (.inl Yk) Zl))⟩))
   have YG:¬(x2≠0):=Yh Ym ZB
   refine ZO 5 [0] (Zo (Wo 3 gc ((XP L x.result).tok) (k:Int) k) ?_)
   obtain ⟨x3,YS⟩:=Zs ((XP L x.result).tok) k om
   refine V8 (VU 3 gc ((XP L x.result).tok) k x3 YS) (Y5 (x3>=0) (fun ZC=>?_) (fun ZC=>?_))
   ·refine ZE ?_
    have hE:Wi L x.result=XP L x.result:=Zd (by rw [hgv];exact ZX)
    exact ZD (r1 [] (.inr ⟨rfl,rfl,(FA (by rw [hE];exact Hh Zx YS (.inr ZC) Zl))⟩))
   exact ak (az (Z2 1 (ZJ k (Z0 (ZK ⟨k+1,ob,(by first|exact Hk Zx YS om Zl|exact Hk VI UA om Zl),rfl,rfl,rfl⟩ (ZG 4 (ZM k fl)))))))
  refine ax 0 (ZE ?_)
  have hE:Wi L x.result=XP L x.result:=Zd (by rw [hgv];exact ZX)
  exact ZD (r1 [0,0,0,0] (.inl ⟨rfl,rfl,(Oi (fun _=>of_decide_eq_true (Vy.1 Za)) (by rw [hE];exact Z1m om Zl))⟩) (eq:=(rc (rv (xs:=(XP L x.result).vars) (by rw [hE]) (rv (xs:=(XP L x.result).own) (by rw [hE]) (rv (xs:=(XP L x.result).tok) (by rw [hE]) rz))))))
 have YR:¬(x1≠0):=Yh Ym Zb
 refine Zm 0 6 [10,11,12,13,14,15] (de (Wr (ak (Yi (ab 0 (Y6 (fun fz gz m F h=>∃(k:Nat),(mm<=k/\k<=L.vars.length)/\(WQ (L.own.drop k) (L.tok.drop k)=WQ (L.own.drop mm) (L.tok.drop mm))/\F=sF [0] fz [(7,.i k)]/\h=[Zc gz 1,Zc gz 2,Zc gz 3,Zc gz 4]/\m=L.vars.length-k) _ _ _ ⟨mm,om,ob,rfl,rfl,rfl⟩ (wk [1,1,1,1] fl) ?_))))))
 rintro m F h ⟨k,Yj,Zl,rfl,rfl,rfl⟩
 refine Yl 5 [0] (Zo (KQ 1 ga L.vars) (Y5 ((k:Int)<(L.vars.length:Int)) (fun Yg=>?_) (fun Yg=>?_)))
 ·refine ak (aq (ab 1 (Zw 5 [0] (Zo (Wo 2 gb L.own (k:Int) k) ?_))))
  obtain ⟨x4,VI⟩:=Zs L.own k om
  refine V8 (VU 2 gb L.own k x4 VI) (Z2 2 (ib (b:=(x4 != 0)) 42 (fun YE=>?_) (fun YE=>?_)))
  ·have Xl:x4≠0:=(Ym).1 YE
   refine Z0 (Wc (ZE ?_))
   have hE:Wi L x.result=L:=Z8 (by rw [hgv];exact YR)
   obtain ⟨y,hy⟩:=Zs L.tok k om
   exact ZD (r1 [] (.inr ⟨rfl,rfl,(FA (by rw [hE];exact Hh VI hy (.inl Xl) Zl))⟩))
  have W2:¬(x4≠0):=Yh Ym YE
  refine ZO 5 [0] (Zo (Wo 3 gc L.tok (k:Int) k) ?_)
  obtain ⟨x5,UA⟩:=Zs L.tok k om
  refine V8 (VU 3 gc L.tok k x5 UA) (Y5 (x5>=0) (fun Xf=>?_) (fun Xf=>?_))
  ·refine ZE ?_
   have hE:Wi L x.result=L:=Z8 (by rw [hgv];exact YR)
   exact ZD (r1 [] (.inr ⟨rfl,rfl,(FA (by rw [hE];exact Hh VI UA (.inr Xf) Zl))⟩))
  exact ak (az (Z2 1 (ZJ k (Z0 (ZK ⟨k+1,ob,(by first|exact Hk Zx YS om Zl|exact Hk VI UA om Zl),rfl,rfl,rfl⟩ (ZG 4 (ZM k fl)))))))
 refine ax 0 (ZE ?_)
 have hE:Wi L x.result=L:=Z8 (by rw [hgv];exact YR)
 exact ZD (r1 [0,0,0,0] (.inl ⟨rfl,rfl,(Oi (fun q=>absurd (by rw [<-hgv];exact q) YR) (by rw [hE];exact Z1m om Zl))⟩) (eq:=(rc (rv (xs:=L.vars) (by rw [hE]) (rv (xs:=L.own) (by rw [hE]) (rv (xs:=L.tok) (by rw [hE]) rz))))))
theorem Z3e (b:Nat) (ga:Hd) (gb:Hd) (gc:Hd) (n:Zi) (L:Ve) (ln:LI) (am:List Xj) (i:Int) (hlk:Wq L) (hi:0<=i/\i<L.vars.length) (hq:∀x∈L.own,-1000000000<=x/\x<=1000000000):Zk 178 [.p b 0,.i i] [.obj b [ZT n.decls,YW n,Z5 ln,Xi am,.h ga,.h gb,.h gc],rV ga L.vars,rV gb L.own,rV gc L.tok] (fun r h=>(r=.b true/\h=[.obj b [ZT n.decls,YW n,Z5 ln,Xi am,.h ga,.h gb,.h gc],rV ga ((XP L i).vars),rV gb ((XP L i).own),rV gc ((XP L i).tok)]/\1<=gI L.own i)∨(r=.b false/\h=[.obj b [ZT n.decls,YW n,Z5 ln,Xi am,.h ga,.h gb,.h gc],rV ga ((XP L i).vars),rV gb ((XP L i).own),rV gc ((XP L i).tok)]/\¬1<=gI L.own i)):=by
 refine (F8 b ga gb gc n L ln am i hlk hi hq).mono fun r h q=>?_
 obtain ⟨rfl,rfl⟩:=q
 by_cases hc:1<=gI L.own i
 ·exact .inl ⟨by rw [decide_eq_true hc],rfl,hc⟩
 ·exact .inr ⟨by rw [decide_eq_false hc],rfl,hc⟩
theorem Z37 (b:Nat) (ga:Hd) (gb:Hd) (gc:Hd) (n:Zi) (L:Ve) (ln:LI) (am:List Xj) (op:Int) (v:Int) (q:Int) (hn:X6 n:=by exact ob) (hk:Xb n.decls L q:=by exact ob) (har:V0 n.decls L am:=by exact ob) (hln:ln.length<=4294967296:=by exact ob) (hal:am.length<=1000000000:=by exact ob) (hlb:L.vars.length<=1000000000:=by exact ob) (hi:0<=v/\v<L.vars.length:=by exact ob) (hq:0<=q/\q<=999999980:=by exact ob):Zk 221 [.p b 0,.i op,.i v] [.obj b [ZT n.decls,YW n,Z5 ln,Xi am,.h ga,.h gb,.h gc],rV ga L.vars,rV gb L.own,rV gc L.tok] (fun r h=>(∃(L':Ve),r=.b true/\h=[.obj b [ZT n.decls,YW n,Z5 ln,Xi am,.h ga,.h gb,.h gc],rV ga L'.vars,rV gb L'.own,rV gc L'.tok]/\K4 n ln L op v=some L')∨(r=.b false/\h=[]/\K4 n ln L op v=none)):=by
 have hlk:=hk.len
 obtain ⟨e1,e2,e3,e4,e5⟩:=hk.len
 have XB:=hn.decls
 obtain ⟨xo,hxo⟩:=Zs L.own v.toNat om
 have hgo:=VH hxo
 obtain ⟨xt,hxt⟩:=Zs L.tok v.toNat om
 have hgt:=VH hxt
 have hob:=hk.bd xo (ZW hxo)
 have hon:=hk.nn xo (ZW hxo)
 have d1:(XP L v).own.length=L.own.length:=Vc
 have d2:(XP L v).tok.length=L.tok.length:=rfl
 have d3:(XP L v).vars.length=L.vars.length:=rfl
 refine ZF 91 Tryz.func221 (ZE (Yi (ab 0 (ar (YH (op==14) Zq (fun Za=>?_) (fun Za=>?_))))))
 ·refine YO 2 (Zz [0,0,0,0] (F7 b ga gb gc _ L ln am v ob ob ob ob ob hk.down ob) (YH (!XM L ln v) (p:=¬(XM L ln v=true)) (YA Iff.rfl) (fun Zg=>?_) (fun Zg=>?_)))
  ·exact ar (Zr (r1 [] (.inr ⟨rfl,rfl,(Z47 Za Zg)⟩)))
  exact ak (Zw 5 [0] (Zo (Wo 2 gb L.own v v.toNat (hq:=rfl)) (V8 (VU 2 gb L.own v.toNat xo hxo) (ia ((xo+1)) ((xo)+(1)) (Zo (Wo 2 gb L.own v v.toNat (hq:=rfl)) (CZ 2 gb L.own v.toNat (xo+1) (ie (ar (Zr (r1 [1,1,0,0] (.inl ⟨(Zh.mk L.vars (L.own.set v.toNat (xo+1)) L.par L.con L.fst L.tok),rfl,rfl,(Z48 Za (Vy.1 Zg) hgo)⟩) (eq:=(rc (rv (xs:=L.vars) ob (rv (xs:=(L.own.set v.toNat (xo+1))) ob (rv (xs:=L.tok) ob rz)))))))))))))))
 refine ar (YH (op==15) Zq (fun ZC=>?_) (fun ZC=>?_))
 ·refine Ya 2 (ic [0,0,0,0] (Z3e b ga gb gc n L ln am v ob ob (fun y hy=>by have h1:=hk.nn y hy;have h2:=hk.bd y hy;omega)) ?_)
  rintro _ _ (⟨rfl,rfl,ZX⟩|⟨rfl,rfl,Yk⟩)
  ·exact Zr (r1 [0,0,0,0] (.inl ⟨(XP L v),rfl,rfl,(Z4b ZC ZX)⟩))
  exact Zr (r1 [] (.inr ⟨rfl,rfl,(Z4a ZC Yk)⟩))
 refine ak (Zw 5 [0] (ic [] (Z2v am v ob) ?_))
 rintro _ _ (⟨a1,rfl,rfl,YG⟩|⟨rfl,rfl,YR⟩)
 ·have hof:=YG
  have hmem:=(Rw hof).1
  have hrg:=har.rng _ hmem
  have hO:=(NK (n:=n) (ln:=ln) Za ZC).trans (Zcr (op:=op) har hi hof hgt)
  have hfl:a1.fds.length<=3:=by
   have h:=har.off v hi.1 hi.2
   rw [hof] at h
   rw [h.2.2]
   exact Ud XB _
  have hhl:=P6 a1.fds a1.fst
  refine Z2 3 (iA [.i 0,.i 0,nl,.b false] fun b1=>ZI 0 b1 [.i a1.mat,.i a1.fst,Z5 a1.fds,.b a1.chg] (Z0 (YO 5 (Zz [1,1,1,1] (F8 b ga gb gc n L ln am v (hlk:=hlk) (hq:=(fun y hy=>by have h1:=hk.nn y hy;have h2:=hk.bd y hy;omega))) (Xv [0,1,2,7] [(62,.b ((!decide (1<=gI L.own v))||((op==17)&&(decide (xt>=0)))))] (fun gz=>gz) ?_ ?_)))))
  ·refine Z2 3 (ib (b:=(!decide (1<=gI L.own v))) 49 (fun Zb=>?_) (fun Zb=>?_))
   ·have Xl:¬(decide (1<=gI L.own v)=true):=((YA Iff.rfl)).1 Zb
    exact Z0 (ZG 5 (Zt true Zb fl))
   have W2:¬(¬(decide (1<=gI L.own v)=true)):=Yh (YA Iff.rfl) Zb
   refine Z2 3 (ib (b:=(op==17)) 52 (fun ZB=>?_) (fun ZB=>?_))
   ·have WG:op=17:=(Zq).1 ZB
    exact ZO 5 [0] (Zo (Wo 3 gc ((XP L v).tok) v v.toNat (hq:=rfl)) (V8 (VU 3 gc ((XP L v).tok) v.toNat xt hxt) (Z0 (ZG 5 (Zt (decide (xt>=0)) (And.intro Zb ZB) fl)))))
   have V3:¬(op=17):=Yh Zq ZB
   exact Z0 (ZG 5 (Zt false (And.intro Zb ZB) fl))
  refine ac ((!decide (1<=gI L.own v))||((op==17)&&(decide (xt>=0)))) (p:=(¬(decide (1<=gI L.own v)=true))∨((op=17)/\(xt>=0))) (Yr (YA Iff.rfl) (YL Zq dq)) (fun Yg=>?_) (fun Yg=>?_)
  ·exact ar (Zr (r1 [] (.inr ⟨rfl,rfl,(by rw [hO,Zd (Yg.imp (fun h g=>h (decide_eq_true g)) id)])⟩)))
  have hG:¬(¬1<=gI L.own v∨(op=17/\xt>=0)):=fun z=>Yg (z.imp (fun h g=>h (of_decide_eq_true g)) id)
  have hbd:=Z5k hk (Vy.1 fun z=>hG (.inl z)) hi
  refine ak (Yl 1 [4] (Zz [] (Z9v a1) (io (.i (((Ua a1.fds a1.fst).length:Nat):Int)) (.i (((Z7 (Ua a1.fds a1.fst)).length:Nat):Int)) (li (by rw [Yf])) (Z0 (ab 1 (Y6 (fun fz gz m F h=>∃(k:Nat) (o:LI),(k<=(Ua a1.fds a1.fst).length)/\(o.length=L.vars.length)/\(∀y∈o,0<=y/\y<=q+k)/\(Cw o ((Ua a1.fds a1.fst).drop k)=U7 (XP L v).own a1.fst a1.fds)/\F=sF [0,1,2,7,64,65] fz [(66,.i k)]/\h=[Zc gz 0,Zc gz 1,rV gb o,Zc gz 3,Zc gz 4]/\m=(Ua a1.fds a1.fst).length-k) _ _ _ ⟨0,(XP L v).own,ob,ob,(fun y hy=>by have:=hbd y hy;omega),(by rw [TZ];exact Z3l),rfl,rfl,rfl⟩ (ZG 5 (Yd fl)) ?_))))))
  rintro m F h ⟨k,o,Yj,Zl,Zy,Yv,rfl,rfl,rfl⟩
  refine ZE (aq (W9 ((k:Int)<(((Ua a1.fds a1.fst).length:Nat):Int)) (fun Xf=>?_) (fun Xf=>?_)))
  ·refine ak (aq (ab 2 (ar ?_)))
   obtain ⟨x1,Z3⟩:=Zs (Ua a1.fds a1.fst) k om
   have hfm:=IT (ZW Z3)
   refine Zo (Zj none (k:Int) 1 (Y3 Z3)) (Z0 (az (ZO 5 [0] (Zo (Wo 2 gb o x1 x1.toNat (hq:=rfl)) ?_))))
   obtain ⟨x2,Zx⟩:=Zs o x1.toNat om
   have hy2:=Zy _ (ZW Zx)
   have hgx:=VH Zx
   exact V8 (VU 2 gb o x1.toNat x2 Zx) (ia ((x2+1)) ((x2)+(1)) (Zo (Wo 2 gb o x1 x1.toNat (hq:=rfl)) (CZ 2 gb o x1.toNat (x2+1) (ie (az (ZJ k (Z0 (ZK ⟨k+1,(o.set x1.toNat (x2+1)),ob,(by simp [Zl]),(by intro y hy;rcases Jb hy with hy|rfl<;>first|(have:=Zy y hy;omega)|omega),(Z3m Z3 hgx Yv),rfl,rfl,rfl⟩ (wk [1,1,0,0,0] (ZM k fl))))))))))
  refine ax 1 (X9 (YH (op==17) Zq (fun Xo=>?_) (fun Xo=>?_)))
  ·refine aE 10 (ZH 3 10 [0,1,2,3,4,5,6] [0,4] (dw 7 (Yf a1.fds) (dx 8 (Wo 3 gc ((XP L v).tok) v v.toNat (hq:=rfl)) (Z9 9 (JT 9 3 [] [] gc ((XP L v).tok) v.toNat (a1.fds.length:Int) (de (ZE ?_)))))))
   have hE:=NA om Yv
   exact ZD (r1 [1,1,1,0] (.inl ⟨(Zh.mk L.vars o L.par L.con L.fst (L.tok.set v.toNat a1.fds.length)),rfl,rfl,(by rw [hO,Z8 hG,Zd Xo,hE];rfl)⟩) (eq:=(rc (rv (xs:=(XP L v).vars) ob (rv (xs:=o) ob (rv (xs:=(((XP L v).tok).set v.toNat (a1.fds.length:Int))) ob rz))))))
  refine ak (ZE ?_)
  have hE:=NA om Yv
  exact ZD (r1 [0,0,0,0] (.inl ⟨(Zh.mk L.vars o L.par L.con L.fst L.tok),rfl,rfl,(by rw [hO,Z8 hG,Z8 Xo,hE];rfl)⟩) (eq:=(rc (rv (xs:=(XP L v).vars) ob (rv (xs:=o) ob (rv (xs:=(XP L v).tok) ob rz))))))
 exact Z2 3 (iA [.i 0,.i 0,nl,.b false] fun b2=>ZI 0 b2 [.i 0,.i 0,ZQ [] (.slice none 0 0),.b false] (Z0 (Yi (Wc (ar (Zr (r1 [] (.inr ⟨rfl,rfl,((NK (n:=n) (ln:=ln) Za ZC).trans (Zcs har hi YR))⟩))))))))
end Go.Abs
section
namespace Go.Proofs
open Go.Shelf Go.RowKit Go.Lib
section
variable {P:Program}
theorem Zib (w:World) {o:Oper} {a:Act} {K:Act→World→Prop} {Q:Exit→Act→World→Prop} (d s:Operand) (t t':TypeId)
  (ho:o.op=.call { callee:=.builtin .copy,args:=#[d,s],argTypes:=#[t,t'] }) (v u:Value) (hd:a.eval d=v) (hs:a.eval s=u) {v':Value} {w':World}
  (hr:(Builtin.copy_ #[t,t'] o.type #[v,u]).run P w=.ok v' w') (h:K (a.put o.dst v') w'):o.wp P a w K Q:=by
 unfold Oper.wp execOp
 simp only [ho,resolve,invoke,builtin,Sem.run_bind,Sem.run_pure,Result.andThen_ok,List.map_toArray,List.map_cons,List.map_nil,hd,hs,hr]
 exact h
theorem MH (w:World) {ops:Array Oper} {rest:List Oper} {o:Oper} {a:Act} {Q:Exit→Act→World→Prop} (hgd:o.guard=none) (d s:Operand) (t t':TypeId)
  (ho:o.op=.call { callee:=.builtin .copy,args:=#[d,s],argTypes:=#[t,t'] }) (v u:Value) (hd:a.eval d=v) (hs:a.eval s=u) {v':Value} {w':World}
  (hr:(Builtin.copy_ #[t,t'] o.type #[v,u]).run P w=.ok v' w') (h:wpList P ops Q rest (a.put o.dst v') w'):wpList P ops Q (o::rest) a w:=
 wpList_plain hgd fun _ hK=>Zib w d s t t' ho v u hd hs hr (hK _ _ h)
theorem Z0k {ops:Array Oper} {o:Oper} {a:Act} {w:World} {K:Act→World→Prop} {Q:Exit→Act→World→Prop} {E:Prop}
  (hg:o.guard=none) (d x:Operand) (dT sT:TypeId) (hop:o.op=Op.call { callee:=Callee.builtin Builtin.copy,args:=#[d,x],argTypes:=#[dT,sT] })
  (v u:Value) (hd:a.eval d=v) (hx:a.eval x=u) {v':Value} {w':World} (hr:(Builtin.copy_ #[dT,sT] o.type #[v,u]).run P w=.ok v' w') (hK:K (a.put o.dst v') w') :
  if Region.wanted o (yielded ops a.tmps)=true then Oper.wp P o a w K Q else E:=by
 have hw:Region.wanted o (yielded ops a.tmps)=true:=by simp [Region.wanted,hg]
 rw [if_pos hw]
 unfold Oper.wp
 simp [execOp,hop,resolve,invoke,builtin,hd,hx,hr,Result.andThen]
 exact hK
theorem Gd (b:Nat) (vs:List Value) (o:Nat) (w:World) (h:∀j,j<vs.length→(w.cell? ⟨b,o+j,none⟩).isSome=true) (k:Nat) (hk:(w.cell? ⟨b,k,none⟩).isSome=true):((w.setCells b o vs).cell? ⟨b,k,none⟩).isSome=true:=by
 by_cases hin:o≤k∧k<o+vs.length
 ·have:=World.cell?_setCells_in b vs o w h (k-o) (by omega)
  rw [show o+(k-o)=k by omega] at this
  rw [this];rfl
 ·rw [World.cell?_setCells_out b vs o w ⟨b,k,none⟩ (fun _ _=>by show k<o∨o+vs.length≤k;omega)]
  exact hk
end
theorem i3:(Tryz.prog.info? 3).map (fun i=>(i.zero,i.size,i.bytes))=some (some (Value.int IntKind.i64 0),1,8):=by kernel_rfl
theorem z3 (w:World):(Go.sizeOf 3).run Tryz.prog w=.ok 1 w:=by
 obtain ⟨i0,hi0,h0,h1,h2⟩:=info_parts i3
 have e:=run_sizeOf (P:=Tryz.prog) w hi0
 rwa [show Tryz.prog.cellsOf 3=1 by kernel_rfl] at e
set_option maxHeartbeats 4000000 in
set_option maxRecDepth 100000 in
theorem Zan (b off n c i vb voff m vc:Nat) (cs vs:List Value) (w:World) (hi:i<n) (hm:0<m) (hroom:n+m≤c) (hc63:n+m≤9223372036854775807) (hvb:vb≠b)
  (hcl:cs.length=n) (hvl:vs.length=m)
  (hcs:∀j v,cs[j]? = some v→w.cell? ⟨b,off+j,none⟩=some v) (hsp:∀j,j<n+m→(w.cell? ⟨b,off+j,none⟩).isSome=true) (hfz:∀j,j<n+m→w.frozen? ⟨b,off+j,none⟩=false)
  (hvs:∀j v,vs[j]? = some v→w.cell? ⟨vb,voff+j,none⟩=some v) (h1c:∀v∈cs,v.oneCell'=true) (h1v:∀v∈vs,v.oneCell'=true)
  (tA tB:TypeId) (kA kB:Nat) (hsa:w.shape? vb=some (tA,kA)) (hsb:w.shape? b=some (tB,kB)) (hkB:kB≠0) (hfa:w.frozen? ⟨vb,voff,none⟩=false) (hfe:w.frozen? ⟨vb,kA,none⟩=false) :
  Calls Tryz.prog 131 #[.slice (some ⟨b,off,none⟩) n c,.int .i64 i,.slice (some ⟨vb,voff,none⟩) m vc] w fun e w'=>
   e=.returned (.slice (some ⟨b,off,none⟩) (n+m) c)∧w'=(w.drew.setCells b (off+(i+m)) (cs.drop i)).setCells b (off+i) vs:=by
 have mixed:Tryz.prog.follows .mixedOrders=true:=by kernel_rfl
 have hz1:¬((m:Int)=0):=by omega
 have hz2:¬((i:Int)=(n:Int)):=by omega
 have hsz:(Tryz.prog.info? 3).map (·.size)=some 1:=by
  obtain ⟨i0,hi0,h0,h1,h2⟩:=info_parts i3
  rw [hi0];simp [h1]
 have hov:∀lb cb,(callFunc 186 #[.slice (some ⟨vb,voff,none⟩) m vc,.slice (some ⟨b,off+(i+m),none⟩) lb cb]).run Tryz.prog w=.ok (.value (.bool false)) w:=fun lb cb=>by
  rw [run_callFunc_extern Tryz.func186 (by kernel_rfl) (by kernel_rfl) (by kernel_rfl) (e:=Extern.SlicesOverlaps.overlaps #[31,31] #[4]) (by kernel_rfl),
   Lib.run_overlaps_apart w 31 4 3 Tryz.underlying31 1 z3 ⟨vb,voff,none⟩ ⟨b,off+(i+m),none⟩ m vc lb cb hvb tA tB kA kB hsa hsb hkB hfa hfe]
  rfl
 have hdl:(cs.drop i).length=n-i:=by rw [List.length_drop,hcl]
 have hw1:IntKind.i64.wrap ((i:Int)+(m:Int))=(i:Int)+(m:Int):=by rw [IntKind.wrap_i64];omega
 have hb1:(0:Int)≤(i:Int)+(m:Int):=by omega
 have hin:i≤n:=by omega
 have htn:((i:Int)+(m:Int)).toNat=i+m:=by omega
 have hb2:¬(c=i+m):=by omega
 have hb3:(i:Int)≤(n:Int)+(m:Int):=by omega
 have hb4:¬(c=i):=by omega
 have hcp1:∀ty dc sc,(Builtin.copy_ #[83,83] ty #[.slice (some ⟨b,off+(i+m),none⟩) (n+m-(i+m)) dc,.slice (some ⟨b,off+i,none⟩) (n+m-i) sc]).run Tryz.prog w.drew=.ok (goInt (cs.drop i).length) (w.drew.setCells b (off+(i+m)) (cs.drop i)):=fun ty dc sc=>
  run_copy_cells w.drew _ _ ty 3 b (off+(i+m)) (n+m-(i+m)) dc ⟨b,off+i,none⟩ (n+m-i) sc (cs.drop i) Tryz.underlying83 hsz (by rw [hdl];simp only [Nat.min_def];split<;>omega)
   (fun j v hj=>by rw [Addr.add_lit,Nat.add_assoc];exact hcs (i+j) v (by rwa [List.getElem?_drop] at hj))
   (fun j hj=>by rw [Nat.add_assoc];exact hsp _ (by omega)) (fun j hj=>by rw [Nat.add_assoc];exact hfz _ (by omega)) (fun v hv=>h1c v (List.mem_of_mem_drop hv))
 obtain ⟨W1,hW1⟩:∃W1,W1=w.drew.setCells b (off+(i+m)) (cs.drop i):=⟨_,rfl⟩
 have hsp1:∀k,k<n+m→(W1.cell? ⟨b,off+k,none⟩).isSome=true:=fun k hk=>by
  rw [hW1]
  exact Gd b _ _ _ (fun j hj=>by rw [Nat.add_assoc];exact hsp _ (by omega)) _ (hsp k hk)
 have hcp2:∀(W:World),(∀x,W.cell? x=W1.cell? x)→(∀x,W.frozen? x=W1.frozen? x)→∀ty dc,(Builtin.copy_ #[83,31] ty #[.slice (some ⟨b,off+i,none⟩) (n+m-i) dc,.slice (some ⟨vb,voff,none⟩) m vc]).run Tryz.prog W=.ok (goInt vs.length) (W.setCells b (off+i) vs):=fun W hWc hWf ty dc=>
  run_copy_cells W _ _ ty 3 b (off+i) (n+m-i) dc ⟨vb,voff,none⟩ m vc vs Tryz.underlying83 hsz (by rw [hvl];simp only [Nat.min_def];split<;>omega)
   (fun j v hj=>by
    rw [Addr.add_lit,hWc,hW1,World.cell?_setCells_out b _ _ _ _ (fun h _=>absurd h hvb)]
    exact hvs j v hj)
   (fun j hj=>by rw [hWc,Nat.add_assoc];exact hsp1 _ (by omega)) (fun j hj=>by rw [hWf,hW1,World.frozen?_setCells,Nat.add_assoc];exact hfz _ (by omega)) h1v
 rw [←hW1] at hcp1
 go_enter Tryz.func131,Tryz.ntmps131
 go_wp2_with (simp only [hov])
 go_region_law_o (refine Z0k rfl _ _ 83 83 rfl _ _ (by simp [Act.eval,Act.put]) (by simp [Act.eval,Act.put]) (hcp1 _ _ _) ?_)
 go_wp2_with (at_builtin;refine MH _ rfl _ _ 83 31 rfl _ _ rfl rfl (hcp2 _ (fun _=>rfl) (fun _=>rfl) _ _) ?_)
 go_ret
 first|exact ⟨rfl,rfl⟩|exact ⟨rfl,by rw [hW1]⟩
set_option maxHeartbeats 4000000 in
set_option maxRecDepth 100000 in
theorem Zaj (b off n c vb voff m vc:Nat) (vs:List Value) (w:World) (hm:0<m) (hroom:n+m≤c) (hc63:n+m≤9223372036854775807)
  (hvl:vs.length=m) (hsp:∀j,j<m→(w.cell? ⟨b,off+n+j,none⟩).isSome=true) (hfz:∀j,j<m→w.frozen? ⟨b,off+n+j,none⟩=false)
  (hvs:∀j v,vs[j]? = some v→w.cell? ⟨vb,voff+j,none⟩=some v) (h1v:∀v∈vs,v.oneCell'=true) :
  Calls Tryz.prog 131 #[.slice (some ⟨b,off,none⟩) n c,.int .i64 n,.slice (some ⟨vb,voff,none⟩) m vc] w fun e w'=>
   e=.returned (.slice (some ⟨b,off,none⟩) (n+m) c)∧w'=w.setCells b (off+n) vs:=by
 have mixed:Tryz.prog.follows .mixedOrders=true:=by kernel_rfl
 have hz1:¬((m:Int)=0):=by omega
 have hsrc:Src Tryz.prog 1 31 (.slice (some ⟨vb,voff,none⟩) m vc) m vs w:=Src.ofSlice w Tryz.underlying31 ⟨vb,voff,none⟩ m vc vs (by omega) (fun j u hj=>by rw [Addr.add_lit];exact hvs j u hj) h1v
 go_enter Tryz.func131,Tryz.ntmps131
 go_wp2_with (at_builtin;refine wpList_append_room1 _ rfl _ _ 83 31 rfl 3 _ _ Tryz.underlying83 i3 b off n c rfl _ rfl m vs hsrc hroom (by rw [hvl];exact hsp) (by rw [hvl];exact hfz) ?_)
 go_ret
 exact ⟨rfl,rfl⟩
set_option maxHeartbeats 4000000 in
set_option maxRecDepth 100000 in
theorem Pp (base:Option Addr) (n c vb voff m vc:Nat) (cs vs:List Value) (w:World) (hm:0<m) (hnc:n≤c) (hroom:c<n+m) (hbig:(n+m)*8≤140737488355328)
  (hcl:cs.length=n) (hvl:vs.length=m) (hnil:base=none→n=0)
  (hcs:∀a,base=some a→∀j v,cs[j]? = some v→w.cell? (a.add j)=some v)
  (hvs:∀j v,vs[j]? = some v→w.cell? ⟨vb,voff+j,none⟩=some v) (h1v:∀v∈vs,v.oneCell'=true) :
  Calls Tryz.prog 131 #[.slice base n c,.int .i64 n,.slice (some ⟨vb,voff,none⟩) m vc] w fun e w'=>
   e=.returned (.slice (some ⟨w.heap.size,0,none⟩) (n+m) (grownCap w (n+m) c 3)) ∧
   w'=w.drew.alloc (.cells ((cs++vs).toArray++Builtin.zeroCells (Value.int .i64 0).cells (grownCap w (n+m) c 3-(n+m))) 3):=by
 obtain ⟨i0,hi0,hz0,hzs,hzb⟩:=info_parts i3
 have mixed:Tryz.prog.follows .mixedOrders=true:=by kernel_rfl
 have hz1:¬((m:Int)=0):=by omega
 have hsrc:Src Tryz.prog i0.size 31 (.slice (some ⟨vb,voff,none⟩) m vc) m vs w:=by
  rw [hzs]
  exact Src.ofSlice w Tryz.underlying31 ⟨vb,voff,none⟩ m vc vs (by omega) (fun j u hj=>by rw [Addr.add_lit];exact hvs j u hj) h1v
 have hold:(Builtin.firstCells i0.size n (.slice base n c)).run Tryz.prog w.drew=.ok cs.toArray w.drew:=by
  rw [hzs]
  cases base with
  | none=>
   have h0:=hnil rfl
   subst h0
   rw [List.length_eq_zero_iff.1 hcl]
   exact run_firstCells_none w.drew 1 0 0 c
  | some a=>exact run_firstCells_some w.drew 1 n a n c cs (by omega) (fun j v hj=>hcs a rfl j v hj)
 have hrun:∀ty,(Builtin.append_ #[83,31] ty #[.slice base n c,.slice (some ⟨vb,voff,none⟩) m vc]).run Tryz.prog w=_:=fun ty=>
  run_append_grow_src w 83 31 ty 3 i0 _ Tryz.underlying83 hi0 hz0 base n c cs hold _ m vs hsrc hroom (by omega) (by rw [hzb];exact growslice_fits hroom hbig)
 go_enter Tryz.func131,Tryz.ntmps131
 cases base with
 | none=>
  have h0:=hnil rfl
  subst h0
  go_wp2_with (at_builtin;refine Lib.wpList_append_run _ rfl _ _ _ _ rfl _ _ rfl rfl _ _ (hrun _) ?_)
  go_ret
  exact ⟨rfl,rfl⟩
 | some a=>
  obtain ⟨ab,ao,asp⟩:=a
  go_wp2_with (at_builtin;refine Lib.wpList_append_run _ rfl _ _ _ _ rfl _ _ rfl rfl _ _ (hrun _) ?_)
  all_goals (go_ret;exact ⟨rfl,rfl⟩)
set_option maxHeartbeats 4000000 in
set_option maxRecDepth 100000 in
theorem Zak (b off n c i vb voff m vc:Nat) (cs vs:List Value) (w:World) (hi:i<n) (hm:0<m) (hnc:n≤c) (hroom:c<n+m) (hbig:(n+m)*8≤140737488355328)
  (hcl:cs.length=n) (hvl:vs.length=m)
  (hcs:∀j v,cs[j]? = some v→w.cell? ⟨b,off+j,none⟩=some v)
  (hvs:∀j v,vs[j]? = some v→w.cell? ⟨vb,voff+j,none⟩=some v) (h1c:∀v∈cs,v.oneCell'=true) (h1v:∀v∈vs,v.oneCell'=true) :
  Calls Tryz.prog 131 #[.slice (some ⟨b,off,none⟩) n c,.int .i64 i,.slice (some ⟨vb,voff,none⟩) m vc] w fun e w'=>
   e=.returned (.slice (some ⟨w.heap.size,0,none⟩) (n+m) (grownCap w (n+m) c 3)) ∧
   w'=(((w.alloc (.cells ((cs.take i).toArray++Builtin.zeroCells (Value.int .i64 0).cells (n+m-i)++Builtin.zeroCells (Value.int .i64 0).cells (grownCap w (n+m) c 3-(n+m))) 3)).drew.setCells w.heap.size i vs).drew).setCells w.heap.size (i+m) (cs.drop i):=by
 obtain ⟨i0,hi0,hz0,hzs,hzb⟩:=info_parts i3
 have mixed:Tryz.prog.follows .mixedOrders=true:=by kernel_rfl
 have hz1:¬((m:Int)=0):=by omega
 have hz2:¬((i:Int)=(n:Int)):=by omega
 have hz3:(c:Int)<(n:Int)+(m:Int):=by omega
 have hsz:(Tryz.prog.info? 3).map (·.size)=some 1:=by rw [hi0];simp [hzs]
 have hbw:b<w.heap.size:=block_lt_of_cell (hcs 0 _ (List.getElem?_eq_getElem (by omega)))
 have hvw:vb<w.heap.size:=block_lt_of_cell (hvs 0 _ (List.getElem?_eq_getElem (by omega)))
 have hkk:(n:Int)+(m:Int)-(i:Int)=((n+m-i:Nat):Int):=by omega
 have hik:i+(n+m-i)=n+m:=by omega
 have hold:(Builtin.firstCells i0.size i (.slice (some ⟨b,off,none⟩) i c)).run Tryz.prog w.drew=.ok (cs.take i).toArray w.drew:=by
  rw [hzs]
  exact run_firstCells_some w.drew 1 i ⟨b,off,none⟩ i c (cs.take i) (by rw [List.length_take];omega) (fun j v hj=>by
   rw [Addr.add_lit]
   rw [List.getElem?_take] at hj
   split at hj
   ·exact hcs j v hj
   ·cases hj)
 have hrz:∀ty,(Builtin.append_ #[83,3] ty #[.slice (some ⟨b,off,none⟩) i c,.int .i64 ((n:Int)+(m:Int)-(i:Int))]).run Tryz.prog w =
   .ok (.slice (some ⟨w.heap.size,0,none⟩) (n+m) (grownCap w (n+m) c 3)) (w.drew.alloc (.cells ((cs.take i).toArray++Builtin.zeroCells (Value.int .i64 0).cells (n+m-i)++Builtin.zeroCells (Value.int .i64 0).cells (grownCap w (n+m) c 3-(n+m))) 3)):=fun ty=>by
  have h:=Lib.run_append_grow_zeros w 83 3 ty 3 i0 _ .i64 .i64 Tryz.underlying83 Tryz.underlying3 hi0 hz0 (some ⟨b,off,none⟩) i c (cs.take i) hold (n+m-i) (by omega) (by omega) (by omega) (by omega) (by rw [hzb];omega) (by rw [hzb,hik];exact growslice_fits hroom hbig)
  rw [hik] at h
  rw [hkk]
  exact h
 obtain ⟨G,hG⟩:∃G,G=grownCap w (n+m) c 3:=⟨_,rfl⟩
 obtain ⟨ROW,hROW⟩:∃ROW:Array Value,ROW=(cs.take i).toArray++Builtin.zeroCells (Value.int .i64 0).cells (n+m-i)++Builtin.zeroCells (Value.int .i64 0).cells (G-(n+m)):=⟨_,rfl⟩
 rw [←hG] at hrz ⊢
 rw [←hROW] at hrz ⊢
 have hRl:n+m≤ROW.size:=by
  rw [hROW]
  simp [Builtin.zeroCells,Value.cells]
  omega
 obtain ⟨W1,hW1⟩:∃W1,W1=w.drew.alloc (.cells ROW 3):=⟨_,rfl⟩
 rw [←hW1] at hrz
 have hN:∀j,j<n+m→(W1.cell? ⟨w.heap.size,j,none⟩).isSome=true:=fun j hj=>by
  rw [hW1,World.cell?_alloc_at (w:=w.drew) ROW _ w.heap.size j rfl,Array.getElem?_eq_getElem (by omega)];rfl
 have hNf:∀j,W1.frozen? ⟨w.heap.size,j,none⟩=false:=fun j=>by rw [hW1];exact World.frozen?_alloc_at (w:=w.drew) ROW _ w.heap.size j rfl
 have hOb:∀j v,w.cell? ⟨b,j,none⟩=some v→W1.cell? ⟨b,j,none⟩=some v:=fun j v h=>by rw [hW1,World.cell?_alloc_past (w:=w.drew) _ b j hbw];exact h
 have hOv:∀j v,w.cell? ⟨vb,j,none⟩=some v→W1.cell? ⟨vb,j,none⟩=some v:=fun j v h=>by rw [hW1,World.cell?_alloc_past (w:=w.drew) _ vb j hvw];exact h
 have hcpA:∀(W:World),(∀x,W.cell? x=W1.cell? x)→(∀x,W.frozen? x=W1.frozen? x)→∀ty dc,(Builtin.copy_ #[83,31] ty #[.slice (some ⟨w.heap.size,i,none⟩) (n+m-i) dc,.slice (some ⟨vb,voff,none⟩) m vc]).run Tryz.prog W=.ok (goInt vs.length) (W.setCells w.heap.size i vs):=fun W hWc hWf ty dc=>
  run_copy_cells W _ _ ty 3 w.heap.size i (n+m-i) dc ⟨vb,voff,none⟩ m vc vs Tryz.underlying83 hsz (by rw [hvl];simp only [Nat.min_def];split<;>omega)
   (fun j v hj=>by rw [Addr.add_lit,hWc];exact hOv _ v (hvs j v hj))
   (fun j hj=>by rw [hWc];exact hN _ (by omega)) (fun j hj=>by rw [hWf];exact hNf _) h1v
 have hGn:n+m≤G:=by rw [hG];exact grownCap_ge w _ _ _
 have hG63:G≤9223372036854775807:=by
  have:=grownCap_le_maxLen w (n+m) c 3 (by unfold maxLen;omega)
  rw [←hG] at this
  unfold maxLen at this
  omega
 have hGi:¬(G=i):=by omega
 have hGim:¬(G=i+m):=by omega
 have hci:¬(c=i):=by omega
 have hbN:b≠w.heap.size:=by omega
 have hdl:(cs.drop i).length=n-i:=by rw [List.length_drop,hcl]
 have hcpB:∀(W:World),(∀x,W.cell? x=(W1.setCells w.heap.size i vs).cell? x)→(∀x,W.frozen? x=(W1.setCells w.heap.size i vs).frozen? x)→∀ty dc sc,(Builtin.copy_ #[83,83] ty #[.slice (some ⟨w.heap.size,i+m,none⟩) (n+m-(i+m)) dc,.slice (some ⟨b,off+i,none⟩) (n-i) sc]).run Tryz.prog W=.ok (goInt (cs.drop i).length) (W.setCells w.heap.size (i+m) (cs.drop i)):=fun W hWc hWf ty dc sc=>
  run_copy_cells W _ _ ty 3 w.heap.size (i+m) (n+m-(i+m)) dc ⟨b,off+i,none⟩ (n-i) sc (cs.drop i) Tryz.underlying83 hsz (by rw [hdl];simp only [Nat.min_def];split<;>omega)
   (fun j v hj=>by
    rw [Addr.add_lit,hWc,World.cell?_setCells_out _ _ _ _ _ (fun h _=>absurd h hbN),Nat.add_assoc]
    exact hOb _ v (hcs (i+j) v (by rwa [List.getElem?_drop] at hj)))
   (fun j hj=>by rw [hWc];exact Gd _ _ _ _ (fun t ht=>hN _ (by omega)) _ (hN _ (by omega)))
   (fun j hj=>by rw [hWf,World.frozen?_setCells];exact hNf _) (fun v hv=>h1c v (List.mem_of_mem_drop hv))
 subst hW1
 have hE1:∀x,((w.alloc (.cells ROW 3)).drew).cell? x=(w.drew.alloc (.cells ROW 3)).cell? x:=fun x=>rfl
 have hE2:∀x,((w.alloc (.cells ROW 3)).drew).frozen? x=(w.drew.alloc (.cells ROW 3)).frozen? x:=fun x=>rfl
 have hF1:∀x,(((w.alloc (.cells ROW 3)).drew.setCells w.heap.size i vs).drew).cell? x=((w.drew.alloc (.cells ROW 3)).setCells w.heap.size i vs).cell? x:=fun x=>rfl
 have hF2:∀x,(((w.alloc (.cells ROW 3)).drew.setCells w.heap.size i vs).drew).frozen? x=((w.drew.alloc (.cells ROW 3)).setCells w.heap.size i vs).frozen? x:=fun x=>rfl
 have hw1:IntKind.i64.wrap ((i:Int)+(m:Int))=(i:Int)+(m:Int):=by rw [IntKind.wrap_i64];omega
 have hb1:(0:Int)≤(i:Int)+(m:Int):=by omega
 have hin:i≤n:=by omega
 have htn:((i:Int)+(m:Int)).toNat=i+m:=by omega
 have hb3:(i:Int)≤(n:Int):=by omega
 clear hkk hik hold hROW hG hRl
 go_enter Tryz.func131,Tryz.ntmps131
 go_wp2_with (first
  | (at_builtin;refine Lib.wpList_append_run _ rfl _ _ _ _ rfl _ _ rfl rfl _ _ (hrz _) ?_)
  | (at_builtin;refine MH _ rfl _ _ 83 31 rfl _ _ rfl rfl (hcpA _ hE1 hE2 _ _) ?_)
  | (at_builtin;refine MH _ rfl _ _ 83 83 rfl _ _ rfl rfl (hcpB _ (fun _=>rfl) (fun _=>rfl) _ _ _) ?_))
 go_region_law_o (refine Z0k rfl _ _ 83 83 rfl (.slice (some ⟨w.heap.size,i+m,none⟩) (n+m-(i+m)) (G-(i+m))) (.slice (some ⟨b,off+i,none⟩) (n-i) (c-i)) (by simp [Act.eval,Act.put]) (by simp [Act.eval,Act.put]) (hcpB _ hF1 hF2 3 (G-(i+m)) (c-i)) ?_)
 go_wp2
 go_ret
 exact ⟨rfl,rfl⟩
end Go.Proofs
end
