/-
  A part of the proofs of several laws (see the last file): no condition.
-/
import Derived.Test.YtaopnlgembdicaaGreatWaD
import Derived.RangeFuncNested
import Derived.RangeFuncBound
import Derived.RangeFuncCalls
import Derived.RangeFuncLeaves
import Derived.Shelf.Abstract
import Derived.Shelf.RegionOpen
import Derived.WalkKit
import Derived.OwnWalkIn
import Derived.TacticsInMore
import Derived.LoopNIn
import Derived.LoopIn
import Derived.Test.YtaopnlgembdicaaGreatProg
import Derived.Shelf.RegionOpenPlain
import Derived.Lib.Walk
import Derived.Lib.SliceRun
import Derived.Lib.JoinLaws
import Derived.Lib.AppendZeros
import Derived.Lib.AppendZerosOnto
import Derived.Lib.Overlaps
import Derived.Laws.Externs
import Derived.Laws.IdiomCopy
import Derived.Laws.NewBlocks
set_option linter.all false
set_option linter.unusedVariables false
set_option linter.unusedSimpArgs false
set_option linter.unusedSectionVars false
set_option maxRecDepth 10000
set_option maxHeartbeats 4000000
namespace Go.Abs
open Go.Proofs
def Z0g (n:Zm) (ln:LI) (hn:YZ n) (hln:ln.length<=4294967296) (m:Nat):∀(b2:Z6) (c:Nat) (ra:Hd) (rb:Hd) (rc:Hd) (rd:Hd) (re:Hd) (rf:Hd) (M:Zy) (mm:Nat) (p:Int),(b2.sz<m+1)->(Xf n.1 M p)->(0<=YY n M.1 b2)->(mm<=M.1.length)->(M.1.length+4*b2.sz<=1000000000)->(0<=p/\p+4*b2.sz<=999999990)->Zj 109 [.p c 0,Yq n,ZV b2,.i mm] [.obj c [.h ra,.h rb,.h rc,.h rd,.h re,.h rf,Z5 ln],rV ra M.1,rV rb M.2,rV rc M.3,rV rd M.4,rV re M.5,rV rf M.6] (fun r h=>(∃(wa:Hd) (wb:Hd) (wc:Hd) (wd:Hd) (we:Hd) (wf:Hd) (M':Zy),r=.b true/\h=[.obj c [.h wa,.h wb,.h wc,.h wd,.h we,.h wf,Z5 ln],rV wa M'.1,rV wb M'.2,rV wc M'.3,rV wd M'.4,rV we M'.5,rV wf M'.6]/\VD n ln M mm b2=some M')∨(r=.b false/\h=[]/\VD n ln M mm b2=none)):=by
 induction m with
 | zero=>intro b c ga gb gc gd ge gf L mm q h;have:=b.sz_pos;omega
 | succ m ih=>
  intro b c ga gb gc gd ge gf L mm q h1 hk ht hm hb hp;exact Zgj c ga gb gc gd ge gf n b L ln q mm hn hk ht hm hb hp hln fun s c ga gb gc gd ge gf L q h2 hk ht hb hp=>Z0i c ga gb gc gd ge gf n s L ln q hn hk ht hb hp hln
   fun b2 c ga gb gc gd ge gf L mm q h3 hk ht hm hb hp=>ih b2 c ga gb gc gd ge gf L mm q om hk ht hm hb hp
def Zgp (n:Zm) (ln:LI) (hn:YZ n) (hln:ln.length<=4294967296) (m:Nat):∀(s2:Z4) (c:Nat) (ra:Hd) (rb:Hd) (rc:Hd) (rd:Hd) (re:Hd) (rf:Hd) (M:Zy) (p:Int),(s2.sz<m+1)->(Xf n.1 M p)->(0<=Y6 n M.1 s2)->(M.1.length+4*s2.sz<=1000000000)->(0<=p/\p+4*s2.sz<=999999990)->Zj 86 [.p c 0,Yq n,YL s2] [.obj c [.h ra,.h rb,.h rc,.h rd,.h re,.h rf,Z5 ln],rV ra M.1,rV rb M.2,rV rc M.3,rV rd M.4,rV re M.5,rV rf M.6] (fun r h=>(∃(wa:Hd) (wb:Hd) (wc:Hd) (wd:Hd) (we:Hd) (wf:Hd) (M':Zy),r=.b true/\h=[.obj c [.h wa,.h wb,.h wc,.h wd,.h we,.h wf,Z5 ln],rV wa M'.1,rV wb M'.2,rV wc M'.3,rV wd M'.4,rV we M'.5,rV wf M'.6]/\UY n ln M s2=some M')∨(r=.b false/\h=[]/\UY n ln M s2=none)):=by
 intro s c ga gb gc gd ge gf L q h2 hk ht hb hp;exact Z0i c ga gb gc gd ge gf n s L ln q hn hk ht hb hp hln fun b2 c ga gb gc gd ge gf L mm q h3 hk ht hm hb hp=>Z0g n ln hn hln m b2 c ga gb gc gd ge gf L mm q om hk ht hm hb hp
def Zgi (c:Nat) (ra rb rc rd re rf:Hd) (n:Zm) (b2:Z6) (M:Zy) (ln:LI) (mm:Nat) (p:Int) (hn:YZ n) (hln:ln.length<=4294967296) (hk:Xf n.1 M p) (ht:0<=YY n M.1 b2) (hm:mm<=M.1.length) (hb:M.1.length+4*b2.sz<=1000000000) (hp:0<=p/\p+4*b2.sz<=999999990):Zj 109 [.p c 0,Yq n,ZV b2,.i mm] [.obj c [.h ra,.h rb,.h rc,.h rd,.h re,.h rf,Z5 ln],rV ra M.1,rV rb M.2,rV rc M.3,rV rd M.4,rV re M.5,rV rf M.6] (fun r h=>(∃(wa:Hd) (wb:Hd) (wc:Hd) (wd:Hd) (we:Hd) (wf:Hd) (M':Zy),r=.b true/\h=[.obj c [.h wa,.h wb,.h wc,.h wd,.h we,.h wf,Z5 ln],rV wa M'.1,rV wb M'.2,rV wc M'.3,rV wd M'.4,rV we M'.5,rV wf M'.6]/\VD n ln M mm b2=some M')∨(r=.b false/\h=[]/\VD n ln M mm b2=none)):=Z0g n ln hn hln b2.sz b2 c ra rb rc rd re rf M mm p om hk ht hm hb hp
def Zgo (c:Nat) (ra rb rc rd re rf:Hd) (n:Zm) (s2:Z4) (M:Zy) (ln:LI) (p:Int) (hn:YZ n) (hln:ln.length<=4294967296) (hk:Xf n.1 M p) (ht:0<=Y6 n M.1 s2) (hb:M.1.length+4*s2.sz<=1000000000) (hp:0<=p/\p+4*s2.sz<=999999990):Zj 86 [.p c 0,Yq n,YL s2] [.obj c [.h ra,.h rb,.h rc,.h rd,.h re,.h rf,Z5 ln],rV ra M.1,rV rb M.2,rV rc M.3,rV rd M.4,rV re M.5,rV rf M.6] (fun r h=>(∃(wa:Hd) (wb:Hd) (wc:Hd) (wd:Hd) (we:Hd) (wf:Hd) (M':Zy),r=.b true/\h=[.obj c [.h wa,.h wb,.h wc,.h wd,.h we,.h wf,Z5 ln],rV wa M'.1,rV wb M'.2,rV wc M'.3,rV wd M'.4,rV we M'.5,rV wf M'.6]/\UY n ln M s2=some M')∨(r=.b false/\h=[]/\UY n ln M s2=none)):=Zgp n ln hn hln s2.sz s2 c ra rb rc rd re rf M p om hk ht hb hp
def Z4d (rt:Y9) (hp:rt.1.length<=1000000:=by exact ob) (hl:rt.2.length<=4294967296:=by exact ob):Zj 85 [Kh rt] [] (fun r h=>∃(c:Nat) (wa:Hd) (wb:Hd) (wc:Hd) (wd:Hd) (we:Hd) (wf:Hd),r=.p c 0/\h=[.obj c [.h wa,.h wb,.h wc,.h wd,.h we,.h wf,Z5 rt.2],rV wa<|(T8 rt).vars,rV wb<|(T8 rt).own,rV wc<|(T8 rt).par,rV wd<|(T8 rt).con,rV we<|(T8 rt).fst,rV wf<|(T8 rt).tok]):=by
 refine ZF 45 Tryz.func85<|ar (iA (Qg rt) fun b1=>Z0<|Zt 2 [0]<|ic [] (UX rt.2) ?_);rintro _ _ ⟨v1,rfl,rfl⟩;refine ZY 1 [(8,.agg [nl,nl,nl,nl,nl,nl,Z5 rt.2])] (iA [nl,nl,nl,nl,nl,nl,Z5 rt.2] fun b2=>?_);refine W8 (Z5a 0 b2 [nl,nl,nl,nl,nl,nl,Z5 rt.2] [.h hN,.h hN,.h hN,.h hN,.h hN,.h hN,Z5 rt.2]<|.cons (Zd.hd (v:=hN))<|.cons (Zd.hd (v:=hN))<|.cons (Zd.hd (v:=hN))<|.cons (Zd.hd (v:=hN))<|.cons (Zd.hd (v:=hN))<|.cons (Zd.hd (v:=hN))<|.cons (lr _) .nil)<|W8 (A8)<|W8 (A8)<|W8 (A8)<|W8 (A8)<|W8 (A8)<|W8 (A8)<|Z0<|Yj<|ab 0<|Y2 (fun fz gz m F h=>∃(k:Nat) (L2:Zy) (ka:Hd) (kb:Hd) (kc:Hd) (kd:Hd) (ke:Hd) (kf:Hd),(k<=rt.1.length)/\(WT L2)/\(L2.1.length=k)/\(KZ rt.2 (rt.1.drop k) k L2=T8 rt)/\F=sF [1,3] fz [(4,.i k)]/\h=[.obj b2 [.h ka,.h kb,.h kc,.h kd,.h ke,.h kf,Z5 rt.2],Ze gz 8,rV ka L2.1,rV kb L2.2,rV kc L2.3,rV kd L2.4,rV ke L2.5,rV kf L2.6]/\m=rt.1.length-k) _ _ _ ⟨0,(Zy.mk [] [] [] [] [] []),hN,hN,hN,hN,hN,hN,ob,⟨U,U,U,U,U⟩,U,U,U,U,U⟩ (wk [6,7,0,0,0,0,0,0] (Y7 fl) (e:=(rc<|rc<|rv (xs:=[]) ob<|rv (xs:=[]) ob<|rv (xs:=[]) ob<|rv (xs:=[]) ob<|rv (xs:=[]) ob<|rv (xs:=[]) ob rz))) ?_;rintro m F h ⟨k,L2,ka,kb,kc,kd,ke,kf,Ye,Zk,Zw,Yz,rfl,rfl,rfl⟩;refine Yh 3 [1]<|iw (Yg rt.1) (Y4 ((k:Int)<(rt.1.length:Int)) (fun Za=>?_) fun Za=>?_)
 .refine ak<|aq<|ab 1<|Zt 3 [1] ?_;obtain ⟨x1,Z3⟩:=Zs rt.1 k om;refine Zo (Zl none (k:Int) 1<|Y3 Z3)<|Xu [1,3,4] [(29,.b ((x1 != 0)&&(!(decide ((k:Int)∈rt.2)))))] (fun gz=>gz) ?_ ?_
  .refine Z1 3 (ib (b:=(x1 != 0)) 23 (fun Zb=>?_) fun Zb=>?_)
   .exact ZL 3 [1]<|Zx [] (Tt rt.2 (k:Int))<|Z0<|ZH 8<|Zu (!(decide ((k:Int)∈rt.2))) Zb fl
   exact Z0<|ZH 8<|Zu false Zb fl
  refine ac ((x1 != 0)&&(!(decide ((k:Int)∈rt.2)))) (p:=(x1≠0)/\(¬((k:Int)∈rt.2))) (YN Yb<|Yp dq) (fun Zf=>?_) fun Zf=>?_
  .refine az<|ZL 4 [1]<|Zo (Zl none (k:Int) 1<|Y3 Z3)<|Z1 1<|ic [0,1,1,1,1,1,1] (Jr b2 ka kb kc kd ke kf L2 rt.2 x1 1 (-1) (hlk:=Zk)) ?_;rintro _ _ ⟨wa1,wb1,wc1,wd1,we1,wf1,rfl⟩;exact ie<|az<|Z1 1<|ZI k<|Z0<|ZK ⟨k+1,(L2.grow x1 1 (-1)),wa1,wb1,wc1,wd1,we1,wf1,ob,(WT.grow Zk),(by simp [Zy.grow];omega),(by rw [Yc Z3,KZ] at Yz;first|(rw [Zg Zf] at Yz;exact Yz)|(rw [Z8 Zf] at Yz;exact Yz)),rfl,rfl,rfl⟩<|wk [0,6,0,0,0,0,0,0]<|ZM k fl
  refine az<|ZL 4 [1]<|Zo (Zl none (k:Int) 1<|Y3 Z3)<|Z1 1<|ic [0,1,1,1,1,1,1] (Jr b2 ka kb kc kd ke kf L2 rt.2 x1 0 (-1) (hlk:=Zk)) ?_;rintro _ _ ⟨wa2,wb2,wc2,wd2,we2,wf2,rfl⟩;exact ie<|az<|Z1 1<|ZI k<|Z0<|ZK ⟨k+1,(L2.grow x1 0 (-1)),wa2,wb2,wc2,wd2,we2,wf2,ob,(WT.grow Zk),(by simp [Zy.grow];omega),(by rw [Yc Z3,KZ] at Yz;first|(rw [Zg Zf] at Yz;exact Yz)|(rw [Z8 Zf] at Yz;exact Yz)),rfl,rfl,rfl⟩<|wk [0,6,0,0,0,0,0,0]<|ZM k fl
 refine ax 0<|ZB ?_;have hNl:L2=T8 rt:=by rw [<-Yz,Xk om];rfl
 exact ZC<|r1 [0,1,1,1,1,1,1] ⟨b2,ka,kb,kc,kd,ke,kf,rfl,rfl⟩ (eq:=(rc<|rv (xs:=L2.1) (by rw [hNl])<|rv (xs:=L2.2) (by rw [hNl])<|rv (xs:=L2.3) (by rw [hNl])<|rv (xs:=L2.4) (by rw [hNl])<|rv (xs:=L2.5) (by rw [hNl])<|rv (xs:=L2.6) (by rw [hNl]) rz))
def Zlb (n:Zm) (f:Nat) (rt:Y9) (hn:YZ n:=by exact ob) (hr:n.2[f]? = some rt:=by exact ob) (ht:0<=YY n rt.1 rt.4:=by exact ob) (hz:rt.4.sz<=100000000:=by exact ob):Zj 66 [Yq n,.i f] [] (Yr<|.b<|KD n rt):=by
 have hfl:=(Xv.1 hr).1;have hpl:=hn.params_at hr;have hll:=hn.lent_at hr;obtain ⟨hk,hkv⟩:=N0 n.1 rt;refine ZF 26 Tryz.func66<|ar (iA (YI n) fun b1=>Z0<|Zt 3 [0]<|Zo (Zl none (f:Int) 5<|WG hr)<|Z1 1 (iA [nl,nl,.i 0,nl,.i 0] fun b2=>ZD 0 b2 (Qg rt)<|ie<|Zt 1 [0]<|ic [] (Z4d rt) ?_));rintro _ _ ⟨c1,wa1,wb1,wc1,wd1,we1,wf1,rfl,rfl⟩;refine Z0<|Zt 6 [8,7,7]<|iw (Yg rt.1)<|ic [0,0,0,0,0,0,0] (Zgi c1 wa1 wb1 wc1 wd1 we1 wf1 n rt.4 (T8 rt) rt.2 rt.1.length 1 ob ob hk (by rw [hkv];exact ht) (by rw [hkv];omega) (by rw [hkv];omega) ob) ?_;rintro _ _ (⟨wa2,wb2,wc2,wd2,we2,wf2,M'1,rfl,rfl,ZX⟩|⟨rfl,rfl,Yf⟩)
 .have hB:=ZX;obtain ⟨l1,l2⟩:=Z7n hn hk om (by rw [hkv];exact ht) (by rw [hkv];omega) hB;refine Z1 2<|ic [0,0,0,0,0,0,0] (MN c1 wa2 wb2 wc2 wd2 we2 wf2 M'1 rt.2 0 (hlk:=l1)) ?_;rintro _ _ (⟨wa3,wb3,wc3,wd3,we3,wf3,L'1,rfl,rfl,YK⟩|⟨rfl,rfl,YW⟩)
  .exact Zp<|ZW (.b true)<|lb (by rw [KD,hB];exact (Z95 YK).symm)
  exact Zp<|ZW (.b false)<|lb (by rw [KD,hB];exact (Z94 YW).symm)
 have hB:=Yf;exact Zp<|ZW (.b false)<|lb (by rw [KD,hB])
def Zlc (n:Zm) (hz:WF n:=by exact ob):Zj 25 [Yq n] [] (Yr<|.b<|UQ n):=by
 have hzl:=hz.len;refine ZF 18 Tryz.func25<|ar (iA (YI n) fun b1=>Z0<|Yh 1 [0]<|Zx [] (Z4j n) (YH (!Wo n) (p:=¬(Wo n=true)) (Yp Iff.rfl) (fun Za=>?_) fun Za=>?_))
 .exact ar<|Zp<|ZW (.b false)<|lb<|by first|rfl|omega|grind [UQ]
 have hV:Wo n=true:=Wp.1 Za;obtain ⟨hok,hall⟩:=EE hz hV;refine ak<|Yj<|ab 0<|Y2 (fun fz gz m F h=>∃(k:Nat),(k<=n.2.length)/\(JN n (n.2.drop k)=JN n n.2)/\F=sF [1] fz [(3,.i k)]/\h=gz/\m=n.2.length-k) _ _ _ ⟨0,ob,ob,U,U,U⟩ (wk [0]<|Y7 fl) ?_;rintro m F h ⟨k,Ye,Zk,rfl,rfl,rfl⟩;refine Yh 3 [0]<|iw (U1 n.2) (Y4 ((k:Int)<(n.2.length:Int)) (fun Zf=>?_) fun Zf=>?_)
 .obtain ⟨rt,hrt⟩:=Zs n.2 k om;have hrm:=Y0 hrt;refine ak (aq (ab 1 (Zt 2 [0] (Zx [] (Zlb n k rt (hr:=hrt) (ht:=(hall rt hrm)) (hz:=(Vy (hz.body rt hrm) om))) (YH (!KD n rt) (p:=¬(KD n rt=true)) (Yp Iff.rfl) (fun ZA=>?_) fun ZA=>?_)))))
  .refine ZB ?_;rw [Yc hrt] at Zk;exact ZC<|ZW (.b false)<|lb (by first|rfl|omega|grind [JN,UQ])
  refine ak<|az<|Z1 1<|ZI k<|Z0 ?_;have hdr:=Yc hrt;exact ZK ⟨k+1,ob,(by rw [hdr] at Zk;clear hdr ;grind [JN]),rfl,rfl,rfl⟩<|wk [0]<|ZM k fl
 refine ax 0 (ZB ?_)
 try rw [Xk (xs:=n.2) (k:=k) om] at Zk
 exact ZC<|ZW (.b true)<|lb<|by first|rfl|omega|grind [JN,UQ]
def Zcj (n:Zm) (f0 k0:Nat) (rt:Y9) (hz:WF n:=by exact ob) (hr:n.2[f0]? = some rt:=by exact ob) (hk0:k0<=rt.4.steps.length:=by exact ob):Zj 43 [Yq n,.i f0,.i k0] [] (fun r h=>(∃(c:Nat) (wa:Hd) (wb:Hd) (wc:Hd) (wd:Hd) (we:Hd) (wf:Hd) (L:Zy) (q:Int),r=.tup [.p c 0,.b true]/\h=[.obj c [.h wa,.h wb,.h wc,.h wd,.h we,.h wf,Z5 rt.2],rV wa L.1,rV wb L.2,rV wc L.3,rV wd L.4,rV we L.5,rV wf L.6]/\Xf n.1 L q/\L.1.length=rt.1.length+X9 (rt.4.steps.take k0)/\L.1.length<=500000000/\rt.2.length<=4194304)∨(r=.tup [.any,.b false]/\h=[]/\True)):=by
 have hzl:=hz.len;have hfl:=(Xv.1 hr).1;have hrm:=Y0 hr;have hbz:=hz.body _ hrm;have ZO:=U7 rt.4;have hbe:=rt.4.sz_eq;obtain ⟨hk,hkv⟩:=N0 n.1 rt;refine ZF 64 Tryz.func43<|ar (iA (YI n) fun b1=>Z0<|Yh 1 [0]<|Zx [] (Z4j n) (XD 12 [1,2,3] [(21,.b ((!Wo n)||(!(decide (0<=(f0:Int)/\(f0:Int)<=((n.2.length:Int)-1))))))] (fun gz=>gz) ?_ fun hj1=>?_))
 .refine Xu [1,2,3] [(34,.b (((!Wo n)||(!(decide (0<=(f0:Int)/\(f0:Int)<=((n.2.length:Int)-1)))))||(!(decide (0<=(k0:Int)/\(k0:Int)<=(rt.4.steps.length:Int))))))] (fun gz=>gz) ?_ ?_
  .refine Z1 1 (ib (b:=((!Wo n)||(!(decide (0<=(f0:Int)/\(f0:Int)<=((n.2.length:Int)-1)))))) 22 (fun Zb=>?_) fun Zb=>?_)
   .exact Z0<|wk [0]<|Zu true Zb fl
   exact ZL 4 [0]<|Zo (Zl none (f0:Int) 5<|WG hr)<|Z1 3<|iw (V8 rt.4.steps)<|Zx [] (Q5 (k0:Int) 0 (rt.4.steps.length:Int))<|Z0<|wk [0]<|Zu (!(decide (0<=(k0:Int)/\(k0:Int)<=(rt.4.steps.length:Int)))) Zb fl
  refine ac (((!Wo n)||(!(decide (0<=(f0:Int)/\(f0:Int)<=((n.2.length:Int)-1)))))||(!(decide (0<=(k0:Int)/\(k0:Int)<=(rt.4.steps.length:Int))))) (p:=((¬(Wo n=true))∨(¬(0<=(f0:Int)/\(f0:Int)<=((n.2.length:Int)-1))))∨(¬(0<=(k0:Int)/\(k0:Int)<=(rt.4.steps.length:Int)))) (Yi (Yi (Yp Iff.rfl)<|Yp dq)<|Yp dq) (fun Za=>?_) fun Za=>?_
  .exact ar<|ZY 1 [(35,.agg [.sl [] none,.sl [] none,.sl [] none,.sl [] none,.sl [] none,.sl [] none,.sl [] none])] (iA [.sl [] none,.sl [] none,.sl [] none,.sl [] none,.sl [] none,.sl [] none,.sl [] none] fun b2=>Zp<|r2 [] [.p b2 0,.b false] (.inr ⟨rfl,rfl,(by first|exact True.intro|exact ⟨Zk,by rw [show k0=j by omega];exact KG,by omega,hll⟩)⟩)<|Zd.tup<|.cons (Zd.any _)<|.cons (lr _) .nil)
  have hV:Wo n=true:=B0 fun z=>Za<|.inl<|.inl z
  obtain ⟨hok,hall⟩:=EE hz hV;have hty:=hall rt hrm;obtain ⟨vs,t0,hvs,hres,hrt0⟩:=DE hty;have hpl:=hok.params_at hr;have hll:=hok.lent_at hr;refine ak (Zt 3 [0] (Zo (Zl none (f0:Int) 5 (WG hr)) (Z1 1 (ic [] (Z4d rt) ?_))));rintro _ _ ⟨c1,wa1,wb1,wc1,wd1,we1,wf1,rfl,rfl⟩;refine Z0 (Yj (ab 0 (Y2 (fun fz gz m F h=>∃(j:Nat) (q2:Int) (L2:Zy) (ka:Hd) (kb:Hd) (kc:Hd) (kd:Hd) (ke:Hd) (kf:Hd),(j<=k0)/\(Xf n.1 L2 q2)/\(0<=q2/\q2+4*Ya (rt.4.steps.drop j)<=999999990)/\(L2.1.length+4*Ya (rt.4.steps.drop j)<=400000000)/\(XJ n (rt.4.steps.drop j) L2.1=some vs)/\(L2.1.length=rt.1.length+X9 (rt.4.steps.take j))/\F=sF [1,2,3,8] fz [(9,.i j)]/\h=[.obj c1 [.h ka,.h kb,.h kc,.h kd,.h ke,.h kf,Z5 rt.2],Ze gz 7,rV ka L2.1,rV kb L2.2,rV kc L2.3,rV kd L2.4,rV ke L2.5,rV kf L2.6]/\m=k0-j) _ _ _ ⟨0,1,(T8 rt),wa1,wb1,wc1,wd1,we1,wf1,ob,hk,(by rw [J7];omega),(by rw [J7,hkv];omega),(by rw [J7,hkv];exact hvs),(by rw [hkv];rfl),rfl,rfl,rfl⟩ (wk [0,6,0,0,0,0,0,0] (Y7 fl)) ?_)));rintro m F h ⟨j,q2,L2,ka,kb,kc,kd,ke,kf,Ye,Zk,Zw,Yz,W7,KG,rfl,rfl,rfl⟩;refine X6 (Y4 ((j:Int)<(k0:Int)) (fun Zf=>?_) fun Zf=>?_)
  .obtain ⟨s1,hs1⟩:=Zs rt.4.steps j om;have hss:=A7 hs1;have hsp:=s1.sz_pos;have hzd:=Z4m hs1;have hdt:=R6 hs1;have hdr:=Yc hs1;rw [hdr] at W7;obtain ⟨g1,g2⟩:=Ez W7;refine ak (aq (ab 1 (aD 14 (ZJ 9 14 [0,1,2,3,4] [1,1] (dx 5 (Zl none (f0:Int) 5 (WG hr)) (Zi 4 8 [6,7,8,9] (dx 10 (Zl none (j:Int) 5 (Wi hs1)) (Zi 2 3 [11] (Z9 12 (dc 12 [0,1,1,1,1,1,1] [] [] (Zgo c1 ka kb kc kd ke kf n s1 L2 rt.2 q2 hok ob Zk g1 om om) ?_))))))))));rintro _ _ (⟨wa2,wb2,wc2,wd2,we2,wf2,M'1,rfl,rfl,YK⟩|⟨rfl,rfl,YW⟩)
   .have hP:=YK;have kx:=Ih hok Zk Zw.1 g1 hP;have hsf:=Zko g1;exact Zi 0 1 [13]<|de<|Ww<|ak<|az<|Z1 1<|ZI j<|Z0<|ZK ⟨j+1,(q2+4*s1.sz),M'1,wa2,wb2,wc2,wd2,we2,wf2,ob,kx.1,om,(by rw [kx.2,hsf];split<;>omega),(by rw [kx.2];exact g2),(by rw [kx.2,hsf,hdt];split<;>omega),rfl,rfl,rfl⟩<|wk [0,6,0,0,0,0,0,0]<|ZM j fl
   exact Zi 0 1 [13]<|de<|Wc<|ar<|Zp<|r2 [] [.p c1 0,.b false] (.inr ⟨rfl,rfl,(by first|exact True.intro|exact ⟨Zk,by rw [show k0=j by omega];exact KG,by omega,hll⟩)⟩)<|Zd.tup<|.cons (Zd.any _)<|.cons (lr _) .nil
  exact ax 0<|ar<|Zp<|r2 [0,1,1,1,1,1,1] [.p c1 0,.b true] (.inl ⟨c1,ka,kb,kc,kd,ke,kf,L2,_,rfl,rfl,(by first|exact True.intro|exact ⟨Zk,by rw [show k0=j by omega];exact KG,by omega,hll⟩)⟩)<|lr _
 refine Z1 2 (ib (b:=(!Wo n)) 13 (fun ZE=>?_) fun ZE=>?_)
 .exact Z1 8<|Yt (wk [0]<|Zu true ZE fl) hj1
 exact ZL 3 [0]<|iw (U1 n.2)<|ia (((n.2.length:Int)-1)) (((n.2.length:Int))-(1))<|Zx [] (Q5 (f0:Int) 0 ((n.2.length:Int)-1))<|Z1 2<|Yt (wk [0]<|Zu (!(decide (0<=(f0:Int)/\(f0:Int)<=((n.2.length:Int)-1)))) ZE fl) hj1
def H9 (b:Z6) (i0:Nat) (s:Z4) (hi:i0<=b.steps.length:=by exact ob) (hz:b.sz<=100000000:=by exact ob):Zj 45 [ZV b,.i i0,YL s] [] (Yr<|ZV<|Z6.mk (WZ b.steps i0 s) b.result):=by
 have ZO:=U7 b;exact ZF 26 Tryz.func45<|ar (iA (Xb b) fun b1=>iA (Xp s) fun b2=>iA [nl,.i 0] fun b3=>ie<|ar (iL (Zv []) 0 5 fun v1=>ZL 3 [3]<|Zo (JC (es:=Zv b.steps) (hv:=none) (l:=0) (m:=(i0:Int)) (sz:=5) (es':=Zv (b.steps.take i0)) kr om (by simp<;>omega) (by simp<;>omega) (Xr _)<|by first|(simp only [Ua,VP,Kj,Ki];done)|(simp only [Ua,VP,Kj,Ki];rfl)|(simp [Kj,Ki];done)) (ip 0 (Zv<|b.steps.take i0) (Zv []) (Zv<|b.steps.take i0) v1 none 5 (Xr _) (Xr _) (Uz _) (by simp<;>omega) (by simp [U2]) fun v2=>Z0<|aD 13<|ZJ 8 13 [0,1,4,5,6] [2,3]<|dx 7 (JC (es:=Zv b.steps) (hv:=none) (l:=(i0:Int)) (m:=(((Zv b.steps).length:Nat):Int)) (sz:=5) (es':=Zv (b.steps.drop i0)) kr om (by simp<;>omega) (by simp<;>omega) (Xr _)<|by first|(simp only [Ua,VP,Kj,Ki];done)|(simp only [Ua,VP,Kj,Ki];rfl)|(simp [Kj,Ki];done))<|ZJ 5 7 [9,10] [3]<|Z9 2 (dL 2 [2,2] [b1,b1] [YL s] 1 5 fun v3=>Yw 4 4 [] [(16,.sl [YL s] none)]<|Z9 3 (dp 3 1 [2,2] [b1,b1] (Zv ((b.steps.take i0)++[s])) (Zv<|b.steps.take i0) [YL s] v2 none 5 (Xr _) (Qh rfl) rfl (by simp<;>omega) (by simp [V7,U2]) fun v4=>Z9 8 (dp 8 0 [2] [b1] (Zv<|WZ b.steps i0 s) (Zv ((b.steps.take i0)++[s])) (Zv<|b.steps.drop i0) v4 none 5 (Xr _) (Xr _) (Uz _) (by simp<;>omega) (by simp only [WZ,V7]) fun v5=>Zi 1 2 [11]<|Z9 12<|YO 12 2 [] [] b3 [X7 (WZ b.steps i0 s) v5,.i b.result]<|de<|ZC<|r3 [] [.agg [X7 (WZ b.steps i0 s) v5,.i b.result]] [0] [(b3,b3)] ⟨rfl,rfl⟩<|Zd.agg<|.cons (Zd.sl _<|Ys Zv rfl)<|.cons li .nil))))))
def Mg (n:Zm) (f0:Nat) (b:Z6) (rt:Y9) (hr:n.2[f0]? = some rt:=by exact ob) (hl:n.2.length<=1000000:=by exact ob) (hp:rt.1.length<=4294967296:=by exact ob) (hl2:rt.2.length<=4294967296:=by exact ob):Zj 47 [Yq n,.i f0,ZV b] [] (fun r h=>∃(g:Nat) (c:Nat),r=.agg [ZQ n.1,.ms g 0 n.2.length c]/\h=[.row (.slice (some ⟨g,0,none⟩) n.2.length c) 5 (Zc<|YS<|n.2.set f0<|Y9.mk rt.1 rt.2 rt.result b)]):=by
 have hfl:=(Xv.1 hr).1;refine ZF 26 Tryz.func47<|ar (iA (YI n) fun b1=>iA (Xb b) fun b2=>iA [nl,nl] fun b3=>ie<|ar (By 5 fun g1=>ZL 2 [3] (E5 0 g1 5 (YS n.2) none (T2 _) (by simp<;>omega) fun v1=>Hg 0 n.2.length (v:=v1) (H2 _) om fun g2 c1 he1=>?_)));subst he1;exact Z0<|aD 11<|ZJ 6 11 [0,1,2,3,4] [3]<|dx 5 (Zl none (f0:Int) 5<|WG hr)<|ZJ 3 5 [6,7] [2]<|Z9 8<|Yu 8 [] [] [] (Dm rt b)<|dx 9 (W9 g2 n.2.length c1 f0 5 (f0:Int))<|Z9 10<|C9 10 0 [] [] g2 n.2.length c1 5 (f0*5) (Qg<|Y9.mk rt.1 rt.2 rt.result b) (Zc<|YS n.2) (Zc<|YS<|n.2.set f0<|Y9.mk rt.1 rt.2 rt.result b) (by rw [H2];simp only [YR,Xx];omega) (Zbc (Y9.mk rt.1 rt.2 rt.result b) hfl)<|de<|Zt 4 [3]<|ZD 1 b3 [ZQ n.1,.ms g2 0 n.2.length c1]<|ie<|ZC<|r3 [1] [.agg [ZQ n.1,.ms g2 0 n.2.length c1]] [0] [(b3,b3)] ⟨g2,c1,rfl,rfl⟩<|lr _
def S5 (n:Zm) (f0:Nat) (b:Z6) (rt:Y9) (hr:n.2[f0]? = some rt:=by exact ob) (hl:n.2.length<=1000000:=by exact ob) (hp:rt.1.length<=4294967296:=by exact ob) (hl2:rt.2.length<=4294967296:=by exact ob):Zj 47 [Yq n,.i f0,ZV b] [] (Yr<|Yq<|withR n f0 rt b):=(Wf.frzN (ds:=n.1) (rs:=(n.2.set f0<|Y9.mk rt.1 rt.2 rt.result b)) (hs:=[]) ((Mg n f0 b rt hr hl hp hl2).mono fun r h ⟨g,c,e1,e2⟩=>⟨g,c,by rw [e1];simp only [UO],by rw [e2];simp only [UO]⟩))
def AO (rd:Nat) (bs:LI) (p mx:Nat) (ZO:∀z∈bs,0<=z/\z<=255) (hp:p+1<=1000000000:=by exact ob) (hmx:0<mx:=by exact ob):Zj 13 [.p rd 0,.i mx] [YD rd bs p] (fun r h=>∃(kn:Nat),r=.i kn/\h=[.obj rd [UD bs,.i (p+1:Nat)]]/\kn<mx):=(Wm rd bs p mx ZO hp).mono fun r h ⟨z,hr,hh,hz⟩=>by
  have h0:=hz.lt om;exact ⟨z.toNat,by rw [hr,Int.toNat_of_nonneg h0.1],hh,by omega⟩
def Mc (rd:Nat) (bs:LI) (p:Nat) (n:Zm) (ZO:∀z∈bs,0<=z/\z<=255) (hp:p+4<=1000000000:=by exact ob) (hz:WF n:=by exact ob) (hl1:1<=n.2.length/\n.2.length<=1000000:=by exact ob):Zj 17 [.p rd 0,Yq n] [YD rd bs p] (fun r h=>∃(n2:Zm) (p2:Nat),r=Yq n2/\h=[YD rd bs p2]/\IH n n2/\p<=p2/\p2<=p+4):=by
 refine ZF 102 Tryz.func17<|ar (iA (YI n) fun b1=>iA [nl,nl] fun b2=>ie<|Zt 3 [1]<|iw (U1 n.2)<|ic [2] (AO rd bs p n.2.length (ZO:=ob)) ?_);rintro _ _ ⟨YQ,rfl,rfl,ZX⟩;refine Z0<|Zt 3 [2] ?_;obtain ⟨x1,Z3⟩:=Zs n.2 YQ om;have hrm:=Y0 Z3;have hbz:=hz.body _ hrm;have ZO:=U7 (x1).body;have hpl:=hz.params _ hrm;have hll:=hz.lent _ hrm;have hrx:=Z3;refine Zo (Zl none (YQ:Int) 5<|WG Z3)<|Z1 2 (iA [nl,.i 0] fun b3=>ZD 0 b3 (Xb x1.4)<|ie<|Zt 3 [0]<|iw (V8 x1.4.steps)<|ia (((x1.4.steps.length+1:Nat):Int)) (((x1.4.steps.length:Int))+(1))<|ic [1] (AO rd bs (p+1) (x1.4.steps.length+1) (ZO:=ob)) ?_);rintro _ _ ⟨Xd,rfl,rfl,Yf⟩;refine Z0<|Zt 3 [3]<|ic [] (Zcj n YQ Xd x1 (hr:=hrx)) ?_;rintro _ _ (⟨c1,wa1,wb1,wc1,wd1,we1,wf1,L1,q1,rfl,rfl,YK⟩|⟨rfl,rfl,YW⟩)
 .obtain ⟨hLO,hLv,hLb,hLl⟩:=YK;have hLn:=hLO.len;obtain ⟨e1,e2,e3,e4,e5⟩:=hLO.len;refine Z0 (Yj (Ww (ak (ar (iL (Z7 []) 0 1 fun v1=>?_)))));refine Z0 (Yj (ab 0 (Y2 (fun fz gz m F h=>∃(k:Nat) (vl:LI) (u:Value),(k<=L1.vars.length)/\(vl.length<=k)/\(∀v∈vl,0<=v/\v<(L1.vars.length:Int))/\F=sF [0,3,4,5,6,7,8] fz [(10,ZT vl u),(11,.i k)]/\h=[Ze gz 1,Ze gz 2,Ze gz 3,Ze gz 4,Ze gz 5,Ze gz 6,Ze gz 7,Ze gz 8,Ze gz 9,Ze gz 10,Ze gz 11,.tail u 1]/\m=L1.vars.length-k) _ _ _ ⟨0,[],v1,ob,ob,(fun v hv=>by cases hv),rfl,rfl,rfl⟩ (wk [1,1,1,1,1,1,1,1,1,1,1,0] (fr (Y7 fl))) ?_)));rintro m F h ⟨k,vl,u,Ye,Zk,Zw,rfl,rfl,rfl⟩;refine Yh 5 [0] (Zo (Aa 1 wa1 L1.vars) (Y4 ((k:Int)<(L1.vars.length:Int)) (fun Za=>?_) fun Za=>?_))
  .refine ak<|aq<|ab 1<|Zt 5 [0]<|Zo (Wg 1 wa1 L1.vars (k:Int) k) ?_;obtain ⟨x2,Zr⟩:=Zs L1.vars k om;refine WW (VO 1 wa1 L1.vars k x2 Zr)<|Z1 2 (ib (b:=(x2 != 0)) 59 (fun Zb=>?_) fun Zb=>?_)
   .refine Z1 2<|Zx [0,0,0,0,0,0,0] (Hz c1 wa1 wb1 wc1 wd1 we1 wf1 L1 x1.2 (k:Int) (hlk:=hLO.len) (hd:=hLO.down)) (YH (Ws L1 x1.2 (k:Int)) Iff.rfl (fun Zf=>?_) fun Zf=>?_)
    .exact az<|Z1 2 (iL (Z7 [(k:Int)]) 1 1 fun v2=>ZY 0 [(66,Z5 [(k:Int)])] (ip 12 (Z7 (vl++[(k:Int)])) (Z7 vl) (Z7 [(k:Int)]) u none 1 (YJ _) (YJ _) (Wk _) (by simp<;>omega) (by simp [Wj,Z7]) fun v3=>Z0<|az<|Z1 1<|ZI k<|Z0<|ZK ⟨k+1,(vl++[(k:Int)]),v3,ob,ob,(by first|exact Zw|exact XN Zw om),rfl,rfl,rfl⟩<|wk [2,2,2,2,2,2,2,2,2,2,2,0]<|fr<|ZM k fl))
    exact ak<|az<|Z1 1<|ZI k<|Z0<|ZK ⟨k+1,vl,u,ob,ob,(by first|exact Zw|exact XN Zw om),rfl,rfl,rfl⟩<|ZH 12<|fr<|ZM k fl
   exact Z0<|Ww<|ak<|az<|Z1 1<|ZI k<|Z0<|ZK ⟨k+1,vl,u,ob,ob,(by first|exact Zw|exact XN Zw om),rfl,rfl,rfl⟩<|ZH 12<|fr<|ZM k fl
  refine ax 0<|YE 1<|iw (Yg vl) (YH ((vl.length:Int)==0) Zq (fun ZA=>?_) fun ZA=>?_)
  .exact Zt 1 [10]<|ZD 9 b2 (YI n)<|ie<|ZC<|r3 [8] [Yq n] [0] [(b2,b2)] ⟨n,(p+1)+1,rfl,rfl,(by first|exact ⟨.inl rfl,by omega,by omega⟩|(have hv:=Zw x3 (Y0 YG);exact ⟨.inr ⟨YQ,x1,Xd,Xd+Ka,x3,hrx,by omega,by omega,hv.1,by omega,rfl⟩,by omega,by omega⟩))⟩<|lr _
  refine ak<|Y5 3<|iw (Yg vl)<|ic [7] (AO rd bs ((p+1)+1) vl.length (ZO:=ob)) ?_;rintro _ _ ⟨kn3,rfl,rfl,Wv⟩;obtain ⟨x3,YG⟩:=Zs vl kn3 om;refine Zo (Zl (some u) (kn3:Int) 1<|Y3 YG)<|Z0<|Zt 4 [8]<|iw (V8 x1.4.steps)<|Z1 1<|ia ((((x1.4.steps.length-Xd):Nat):Int)) (((x1.4.steps.length:Int))-((Xd:Int)))<|ia ((((x1.4.steps.length-Xd)+1:Nat):Int)) (((((x1.4.steps.length-Xd):Nat):Int))+(1))<|ic [0] (AO rd bs (((p+1)+1)+1) ((x1.4.steps.length-Xd)+1) (ZO:=ob)) ?_;rintro _ _ ⟨Ka,rfl,rfl,WS⟩;exact ia (((Xd+Ka:Nat):Int)) (((Xd:Int))+((Ka:Int)))<|Z0<|aD 6<|ZJ 3 6 [0,1,2] [8]<|Z9 3<|Yu 3 [] [2] [b3] (AX 15 x3)<|Z9 4<|Yu 4 [] [] [] (H9 x1.4 (Xd+Ka) (Zz 15 x3) (hi:=(by first|omega|(show Xd<=(WZ _ _ _).length;rw [Z1z om];omega))) (hz:=(by first|omega|(rw [Z6.sz,FL];have e:(Zz 15 x3).sz=2:=rfl;have e2:=x1.4.sz_eq;omega))))<|Z9 5<|YO 5 8 [] [] b3 (Xb<|Z6.mk (WZ x1.4.steps (Xd+Ka)<|Zz 15 x3) x1.4.result)<|de<|aD 9<|ZJ 4 9 [0,1,2,3,4] [10,0]<|Z9 5<|Yu 5 [] [0,4] [b3,b1] (AX 14 x3)<|Z9 6<|Yu 6 [] [4] [b1] (H9 (Z6.mk (WZ x1.4.steps (Xd+Ka)<|Zz 15 x3) x1.4.result) Xd (Zz 14 x3) (hi:=(by first|omega|(show Xd<=(WZ _ _ _).length;rw [Z1z om];omega))) (hz:=(by first|omega|(rw [Z6.sz,FL];have e:(Zz 15 x3).sz=2:=rfl;have e2:=x1.4.sz_eq;omega))))<|Z9 7<|Yu 7 [] [] [] (S5 n YQ (Z6.mk (WZ (Z6.mk (WZ x1.4.steps (Xd+Ka)<|Zz 15 x3) x1.4.result).steps Xd<|Zz 14 x3) (Z6.mk (WZ x1.4.steps (Xd+Ka)<|Zz 15 x3) x1.4.result).result) x1 (hr:=hrx))<|Z9 8<|YO 8 9 [] [] b2 (YI<|withR n YQ x1<|Z6.mk (WZ (Z6.mk (WZ x1.4.steps (Xd+Ka)<|Zz 15 x3) x1.4.result).steps Xd<|Zz 14 x3) (Z6.mk (WZ x1.4.steps (Xd+Ka)<|Zz 15 x3) x1.4.result).result)<|de<|ZC<|r3 [2] [Yq (withR n YQ x1<|Z6.mk (WZ (Z6.mk (WZ x1.4.steps (Xd+Ka)<|Zz 15 x3) x1.4.result).steps Xd<|Zz 14 x3) (Z6.mk (WZ x1.4.steps (Xd+Ka)<|Zz 15 x3) x1.4.result).result)] [0] [(b2,b2)] ⟨(withR n YQ x1<|Z6.mk (WZ (Z6.mk (WZ x1.4.steps (Xd+Ka)<|Zz 15 x3) x1.4.result).steps Xd<|Zz 14 x3) (Z6.mk (WZ x1.4.steps (Xd+Ka)<|Zz 15 x3) x1.4.result).result),(((p+1)+1)+1)+1,rfl,rfl,(by first|exact ⟨.inl rfl,by omega,by omega⟩|(have hv:=Zw x3 (Y0 YG);exact ⟨.inr ⟨YQ,x1,Xd,Xd+Ka,x3,hrx,by omega,by omega,hv.1,by omega,rfl⟩,by omega,by omega⟩))⟩<|lr _
 exact Z0<|Yj<|Wc<|Zt 1 [3]<|ZD 2 b2 (YI n)<|ie<|ZC<|r3 [1] [Yq n] [0] [(b2,b2)] ⟨n,(p+1)+1,rfl,rfl,(by first|exact ⟨.inl rfl,by omega,by omega⟩|(have hv:=Zw x3 (Y0 YG);exact ⟨.inr ⟨YQ,x1,Xd,Xd+Ka,x3,hrx,by omega,by omega,hv.1,by omega,rfl⟩,by omega,by omega⟩))⟩<|lr _
def Zlw (b:Z6) (hz:b.sz<=1000000000:=by exact ob):Zj 117 [ZV b] [] (Yr<|.i (((Wa b.steps):Nat):Int)):=by
 have hbz:=U7 b;refine ZF 20 Tryz.func117<|ar (iA (Xb b) fun b1=>?_);refine Z0<|ZB<|aq<|ab 0<|Y2 (fun fz gz m F h=>∃(k:Nat),(k<=b.steps.length)/\(k+Wa (b.steps.drop k)=Wa b.steps)/\F=sF [1] fz [(3,.i k)]/\h=gz/\m=b.steps.length-k) _ _ _ ⟨0,ob,(by simp),rfl,rfl,rfl⟩ (wk [0]<|Y7 fl) ?_;rintro m F h ⟨k,Ye,Zk,rfl,rfl,rfl⟩;refine Yh 3 [0]<|iw (V8 b.steps)<|Z1 2 (ib (b:=(decide ((k:Int)<(b.steps.length:Int)))) 9 (fun Zb=>?_) fun Zb=>?_)
 .have ZX:(k:Int)<(b.steps.length:Int):=(dq).1 Zb;refine ZL 3 [0] ?_;obtain ⟨x1,Z3⟩:=Zs b.steps k om;refine Zo (Zl none (k:Int) 5<|Wi Z3)<|Z1 1<|Zx [] (Z4b x1) (YH ((x1.op==14)||(x1.op==15)) (p:=(x1.op=14)∨(x1.op=15)) (Yi Zq Zq) (fun Za=>?_) fun Za=>?_)
  .exact ak<|ab 1<|az<|Z1 1<|ZI k<|Z0<|ZK ⟨k+1,ob,(Zk8 Z3 Za Zk),U,U,U⟩<|wk [0]<|ZM k fl
  exact ax 0<|ar<|Zp<|ZW (.i k)<|li (by have:=Zk9 Z3 Za Zk;omega)
 have Yf:¬((k:Int)<(b.steps.length:Int)):=Y8 dq Zb;exact Z0<|Ww<|ax 0<|ar<|Zp<|ZW (.i k)<|li (by have:=Zk7 om Zk;omega)
def Z45 (b:Z6) (mm:Nat) (op:Int) (hm:mm<=b.steps.length:=by exact ob) (ha:∀s∈b.steps.take mm,s.op=op->∃a,s.args=[a]) (hz:b.sz<=1000000000:=by exact ob):Zj 118 [ZV b,.i mm,.i op] [] (fun r h=>∃(v:Value),r=ZT (WQ op<|b.steps.take mm) v/\h=[.tail v 1]):=by
 have hbz:=U7 b;refine ZF 35 Tryz.func118<|ar (iA (Xb b) fun b1=>Z0<|ar (iL (Z7 []) 0 1 fun v1=>?_));refine Z0<|Yj<|ab 0<|Y2 (fun fz gz m F h=>∃(k:Nat) (acc:LI) (v:Value),(k<=mm)/\(acc.length<=k)/\(acc++WQ op ((b.steps.take mm).drop k)=WQ op (b.steps.take mm))/\F=sF [1,2,3] fz [(7,ZT acc v),(8,.i k)]/\h=[Ze gz 1,.tail v 1]/\m=mm-k) _ _ _ ⟨0,[],v1,ob,ob,(by simp),rfl,rfl,rfl⟩ (wk [1,0]<|fr<|Y7 fl) ?_;rintro m F h ⟨k,acc,v,Ye,Zk,Zw,rfl,rfl,rfl⟩;refine X6 (Y4 ((k:Int)<(mm:Int)) (fun Za=>?_) fun Za=>?_)
 .refine ak<|aq<|ab 1<|Zt 3 [0] ?_;obtain ⟨x1,Z3⟩:=Zs b.steps k om;have hxt:(b.steps.take mm)[k]? = some x1:=by rw [List.getElem?_take_of_lt om];exact Z3
  have hxm:=Y0 hxt;refine Zo (Zl none (k:Int) 5<|Wi Z3) (YH (x1.op==op) Zq (fun Zf=>?_) fun Zf=>?_)
  .refine az<|ZL 4 [0]<|Zo (Zl none (k:Int) 5<|Wi Z3)<|Z1 2 ?_;obtain ⟨x2,Zr⟩:=Zs x1.args 0 (by obtain ⟨a,ha2⟩:=ha x1 hxm Zf;rw [ha2];simp);have hg0:=Jn Zr;exact Zo (Zl none 0 1<|Y3 Zr)<|Z1 1 (iL (Z7 [x2]) 1 1 fun v2=>ZY 0 [(32,Z5 [x2])] (ip 2 (Z7 (acc++[x2])) (Z7 acc) (Z7 [x2]) v none 1 (YJ _) (YJ _) (Wk _) (by simp<;>omega) (by simp [Wj,Z7]) fun v3=>Z0<|az<|Z1 1<|ZI k<|Z0<|ZK ⟨k+1,(acc++[x2]),v3,ob,(by simp;omega),(by have h:=Z6x hxt Zf Zw;rw [hg0] at h;exact h),rfl,rfl,rfl⟩<|wk [2,0]<|fr<|ZM k fl))
  exact ak<|az<|Z1 1<|ZI k<|Z0<|ZK ⟨k+1,acc,v,ob,ob,(Z6w hxt Zf Zw),U,U,U⟩<|wk [0,0]<|fr<|ZM k fl
 exact ax 0<|ar<|Zp<|r2 [1] [ZT acc v] ⟨v,rfl,rfl⟩<|Zd.slh _<|Ys Z7<|Z6v (by rw [WK];omega) Zw
def Z4k (xs:LI) (y:Int) (hl:xs.length<=1000000000:=by exact ob):Zj 119 [Z5 xs,.i y] [] (fun r h=>∃(v:Value),r=ZT (xs.erase y) v/\h=[.tail v 1]):=by
 refine ZF 33 Tryz.func119<|ZB<|ar (iL (Z7 []) 0 1 fun v1=>?_);refine Z0<|ZB<|Yj<|ab 0<|Y2 (fun fz gz m F h=>∃(k:Nat) (acc:LI) (d:Bool) (v:Value),(k<=xs.length)/\(acc.length<=k)/\(acc++(if d=true then xs.drop k else (xs.drop k).erase y)=xs.erase y)/\F=sF [0,1] fz [(5,ZT acc v),(6,.b d),(7,.i k)]/\h=[.tail v 1]/\m=xs.length-k) _ _ _ ⟨0,[],false,v1,ob,ob,(by simp),rfl,rfl,rfl⟩ (wk [0]<|fw<|Y7 fl) ?_;rintro m F h ⟨k,acc,d,v,Ye,Zk,Zw,rfl,rfl,rfl⟩;refine YE 2<|iw (Yg xs) (Y4 ((k:Int)<(xs.length:Int)) (fun Za=>?_) fun Za=>?_)
 .refine ak<|aq<|ab 1<|Y5 2 ?_;obtain ⟨x1,Z3⟩:=Zs xs k om;refine Zo (Zl none (k:Int) 1<|Y3 Z3)<|Xu [0,1,5,6,7] [(24,.b ((x1==y)&&(!d)))] (fun gz=>gz) ?_ ?_
  .refine Z1 4 (ib (b:=(x1==y)) 21 (fun Zb=>?_) fun Zb=>?_)
   .exact Z0<|wk [0]<|Zu (!d) Zb fl
   exact Z0<|wk [0]<|Zu false Zb fl
  refine Ak (fun fz gz F h=>∃(w:Value),F=sF [0,1,7] fz [(5,ZT (if (x1=y)/\(¬(d=true)) then acc else (acc++[x1])) w),(6,.b (((x1==y)&&(!d))||d))]/\h=[.tail w 1]) (fun _ _=>rfl) ?_ ?_
  .refine ac ((x1==y)&&(!d)) (p:=(x1=y)/\(¬(d=true))) (YN Zq<|Yp Iff.rfl) (fun Zf=>?_) fun Zf=>?_
   .exact TD<|ZU ⟨v,rfl,rfl⟩<|wk [0]<|fc (x:=ZT acc v) (Zd.slh _<|Ys Z7<|by first|rfl|(rw [Zg Zf])|(rw [Z8 Zf])|(simp [Zf];done)|(rw [XE];simp [Zf];done)|omega)<|fc (x:=.b true) (lb<|by first|rfl|(rw [Zg Zf])|(rw [Z8 Zf])|(simp [Zf];done)|(rw [XE];simp [Zf];done)|omega) fl
   exact az<|Z1 3<|Zo (Zl none (k:Int) 1<|Y3 Z3)<|Z1 1 (iL (Z7 [x1]) 1 1 fun v2=>ZY 0 [(30,Z5 [x1])] (ip 1 (Z7 (acc++[x1])) (Z7 acc) (Z7 [x1]) v none 1 (YJ _) (YJ _) (Wk _) (by simp<;>omega) (by simp [Wj,Z7]) fun v3=>Z0<|ZU ⟨v3,rfl,rfl⟩<|wk [0]<|fc (x:=ZT (acc++[x1]) v3) (Zd.slh _<|Ys Z7<|by first|rfl|(rw [Zg Zf])|(rw [Z8 Zf])|(simp [Zf];done)|(rw [XE];simp [Zf];done)|omega)<|fc (x:=.b d) (lb<|by cases d<;>simp_all) fl))
  rintro F h ⟨w,rfl,rfl⟩;exact az (Z1 1 (ZI k (Z0 (ZK ⟨k+1,(if (x1=y)/\(¬(d=true)) then acc else (acc++[x1])),(((x1==y)&&(!d))||d),w,ob,(by split<;>(try simp)<;>omega),(Zas Z3 Zw),rfl,rfl,rfl⟩ (wk [0] (fw (ZM k fl)))))))
 exact ax 0<|ar<|Zp<|r2 [0] [ZT acc v] ⟨v,U,U⟩<|Zd.slh _<|Ys Z7<|Zar om Zw
def Zlp (b:Z6) (x:Int) (fs:LI) (q:Nat) (ha:∀s∈b.steps,Yv s.op=true->∃a,s.args=[a]) (hf:fs.length<=3:=by exact ob) (hq:q<=1000000000:=by exact ob) (hz:b.sz<=900000000:=by exact ob):Zj 76 [ZV b,.i x,Z5 fs,.i q] [] (Yr<|ZV<|Ae b x fs q):=by
 have hbz:=U7 b;have hrl:=I0 b.steps;have hal:=IT (b.steps.take<|Wa b.steps);rw [WK] at hal;have her:=List.length_erase_le (a:=x) (l:=WQ 15 (b.steps.take<|Wa b.steps));have har:∀op:Int,Yv op=true->∀s∈b.steps.take (Wa b.steps),s.op=op->∃a,s.args=[a]:=fun op ho s hs e=>ha s (Qr hs) (by rw [e];exact ho)
 refine ZF 88 Tryz.func76<|ar (iA (Xb b) fun b1=>iA [nl,.i 0] fun b2=>ie<|Zt 1 [1]<|Zx [] (Zlw b)<|Z0<|Zt 2 [1]<|ic [] (Z45 b (Wa b.steps) 14 (ha:=(har _ rfl))) ?_);rintro _ _ ⟨v1,rfl,rfl⟩;refine Z0<|Zt 2 [2]<|ic [] (Z45 b (Wa b.steps) 15 (ha:=(har _ rfl))) ?_;rintro _ _ ⟨v2,rfl,rfl⟩;refine Z0<|X6<|ZY 2 [(22,Z5<|WQ 15<|b.steps.take<|Wa b.steps)]<|Zx [] (Tt (WQ 15<|b.steps.take<|Wa b.steps) x)<|Xu [1,2,3,4,8,9,10,11] [(30,.b ((!(decide (x∈(WQ 15 (b.steps.take<|Wa b.steps)))))||((fs.length:Int)==0)))] (fun gz=>gz) ?_ ?_
 .refine Z1 2 (ib (b:=(!(decide (x∈(WQ 15 (b.steps.take<|Wa b.steps)))))) 26 (fun Zb=>?_) fun Zb=>?_)
  .exact Z0<|ZH 4<|Zu true Zb fl
  exact Z1 1<|iw (Yg fs)<|Z0<|ZH 4<|Zu ((fs.length:Int)==0) Zb fl
 refine ac ((!(decide (x∈(WQ 15 (b.steps.take<|Wa b.steps)))))||((fs.length:Int)==0)) (p:=(¬(x∈(WQ 15 (b.steps.take<|Wa b.steps))))∨((fs.length:Int)=0)) (Yi (Yp dq) Zq) (fun Za=>?_) fun Za=>?_
 .exact Zt 1 [3]<|ZD 2 b2 (Xb b)<|ie<|ZC<|r3 [] [ZV b] [0] [(b2,b2)] ⟨U,U⟩<|Zd.agg<|.cons (Zd.sl _<|Ys Zv (Z6l fun z=>Za.elim (fun e=>e z.1) fun e=>z.2 om).symm)<|.cons li .nil
 refine ak<|ar<|ZY 2 [(32,Z5<|WQ 15<|b.steps.take<|Wa b.steps)]<|ic [] (Z4k (WQ 15<|b.steps.take<|Wa b.steps) x) ?_;rintro _ _ ⟨v3,rfl,rfl⟩;refine Z0<|Yj<|ab 0<|Y2 (fun fz gz m F h=>∃(k:Nat) (D:LI) (R:LI) (v:Value),(k<=fs.length)/\(D.length<=b.steps.length)/\(R.length<=b.steps.length+k)/\(TG (fs.drop k) (q+k) D R=BG b.steps x fs q)/\F=sF [1,2,3,4,8,9] fz [(10,Z5 D),(11,ZT R v),(12,.i k)]/\h=[Ze gz 3,Ze gz 4,.tail v 1]/\m=fs.length-k) _ _ _ ⟨0,(WQ 14<|b.steps.take<|Wa b.steps),((WQ 15<|b.steps.take<|Wa b.steps).erase x),v3,ob,om,om,(by simp [BG]),rfl,rfl,rfl⟩ (wk [3,3,0]<|fc (x:=ZT (WQ 14<|b.steps.take<|Wa b.steps) v1) (Zd.forget _ _)<|fr<|Y7 fl) ?_;rintro m F h ⟨k,D,R,v,Ye,Zk,Zw,Yz,rfl,rfl,rfl⟩;refine YE 2<|iw (Yg fs) (Y4 ((k:Int)<(fs.length:Int)) (fun Zf=>?_) fun Zf=>?_)
 .refine ak<|aq<|ab 1<|Y5 2 ?_;obtain ⟨x1,Z3⟩:=Zs fs k om;refine Zo (Zl none (k:Int) 1<|Y3 Z3)<|Xu [1,2,3,4,8,9,10,11,12] [(52,.b ((x1 != 0)&&(decide (((q+k:Nat):Int)∈D))))] (fun gz=>gz) ?_ ?_
  .refine Z1 3 (ib (b:=(x1 != 0)) 46 (fun ZE=>?_) fun ZE=>?_)
   .exact Z1 3<|ia (((q+k:Nat):Int)) (((q:Int))+((k:Int)))<|Zx [] (Tt D ((q+k:Nat):Int))<|Z0<|ZH 3<|Zu (decide (((q+k:Nat):Int)∈D)) ZE fl
   exact Z0<|ZH 3<|Zu false ZE fl
  refine Ak (fun fz gz F h=>∃(D2:LI) (R2:LI) (w:Value),(TG (fs.drop (k+1)) (q+((k+1:Nat):Int)) D2 R2=BG b.steps x fs q)/\(D2.length<=b.steps.length)/\(R2.length<=b.steps.length+(k+1))/\F=sF [1,2,3,4,8,9,12] fz [(10,Z5 D2),(11,ZT R2 w)]/\h=[Ze gz 0,Ze gz 1,.tail w 1]) (fun _ _=>rfl) ?_ ?_
  .refine ac ((x1 != 0)&&(decide (((q+k:Nat):Int)∈D))) (p:=(x1≠0)/\(((q+k:Nat):Int)∈D)) (YN Yb dq) (fun ZA=>?_) fun ZA=>?_
   .refine az<|Z1 3<|ia (((q+k:Nat):Int)) (((q:Int))+((k:Int)))<|ic [] (Z4k D ((q+k:Nat):Int)) ?_;rintro _ _ ⟨v4,rfl,rfl⟩;exact Z0<|ZU ⟨(D.erase ((q+k:Nat):Int)),R,v,(Zia Z3 ZA.1 ZA.2 Yz),(Vy List.length_erase_le Zk),ob,U,U⟩<|wk [1,1,1] fl
   refine Y5 2<|Zo (Zl none (k:Int) 1<|Y3 Z3) (YH (x1 != 0) Yb (fun Ym=>?_) fun Ym=>?_)
   .exact az<|Z1 3<|ia (((q+k:Nat):Int)) (((q:Int))+((k:Int))) (iL (Z7 [((q+k:Nat):Int)]) 1 1 fun v5=>ZY 0 [(67,Z5 [((q+k:Nat):Int)])] (ip 3 (Z7 (R++[((q+k:Nat):Int)])) (Z7 R) (Z7 [((q+k:Nat):Int)]) v none 1 (YJ _) (YJ _) (Wk _) (by simp<;>omega) (by simp [Wj,Z7]) fun v6=>Z0<|ZU ⟨D,(R++[((q+k:Nat):Int)]),v6,(Zib Z3 Ym (fun z=>ZA ⟨Ym,z⟩) Yz),ob,(by simp;omega),rfl,rfl⟩<|wk [2,2,0] fl))
   exact ak<|ZU ⟨D,R,v,(Zic Z3 Ym Yz),ob,ob,U,U⟩<|ZH 3 fl
  rintro F h ⟨D2,R2,w,Ea,Eb,SG,rfl,rfl⟩;exact az (Z1 1 (ZI k (Z0 (ZK ⟨k+1,D2,R2,w,ob,ob,ob,ob,U,U,U⟩ (ZH 3 (fw (ZM k fl)))))))
 refine ax 0<|Y5 1<|ic [] (JA 14 D) ?_;rintro _ _ ⟨v7,rfl,rfl⟩;refine Z1 1<|Zx [] (AX 16 x) (iL [YL (Zz 16 x)] 1 5 fun v8=>ZY 0 [(73,.sl [YL (Zz 16 x)] none)] (ip 1 (Zv ((D.map<|Zz 14)++[Zz 16 x])) (Zv<|D.map<|Zz 14) [YL (Zz 16 x)] v7 none 5 (Xr _) (Qh rfl) rfl (by simp<;>omega) (by simp [V7,U2]) fun v9=>Z0<|ar<|ZY 2 [(76,Z5 R)]<|ic [] (JA 15 R) ?_));rintro _ _ ⟨v10,rfl,rfl⟩;refine ZY 0 [(77,WE<|R.map<|Zz 15)] (ip 1 (Zv (((D.map<|Zz 14)++[Zz 16 x])++(R.map (Zz 15)))) (Zv ((D.map<|Zz 14)++[Zz 16 x])) (Zv<|R.map<|Zz 15) v9 none 5 (Xr _) (Xr _) (Uz _) (by simp<;>omega) (by simp [V7,Zv]) fun v11=>Z0<|aD 10<|ZJ 6 10 [0,1,2,3] [4]<|dx 4 (JC (es:=Zv b.steps) (hv:=none) (l:=(((Wa b.steps):Nat):Int)) (m:=(((Zv b.steps).length:Nat):Int)) (sz:=5) (es':=Zv (b.steps.drop<|Wa b.steps)) kr om (by simp<;>omega) (by simp<;>omega) (Xr _)<|by first|(simp only [Ua,VP,Kj,Ki];done)|(simp only [Ua,VP,Kj,Ki];rfl)|(simp [Kj,Ki];done))<|ZJ 3 5 [6,7] [4]<|Z9 5 (dp 5 0 [1] [b1] (Zv ((((D.map<|Zz 14)++[Zz 16 x])++(R.map (Zz 15)))++(b.steps.drop (Wa b.steps)))) (Zv (((D.map<|Zz 14)++[Zz 16 x])++(R.map (Zz 15)))) (Zv<|b.steps.drop<|Wa b.steps) v11 none 5 (Xr _) (Xr _) (Uz _) (by simp<;>omega) (by simp [V7,Zv]) fun v12=>Zi 1 2 [8]<|Z9 9<|YO 9 3 [] [] b2 [X7 ((((D.map<|Zz 14)++[Zz 16 x])++(R.map (Zz 15)))++(b.steps.drop (Wa b.steps))) v12,.i b.result]<|de ?_));have hE:=Z6n (Wp.1 fun z=>Za<|.inl z) (fun z=>Za<|.inr om) (Zi9 om Yz);exact ZC<|r3 [] [.agg [X7 ((((D.map<|Zz 14)++[Zz 16 x])++(R.map (Zz 15)))++(b.steps.drop (Wa b.steps))) v12,.i b.result]] [0] [(b2,b2)] ⟨U,U⟩<|Zd.agg<|.cons (Zd.sl _<|Ys Zv hE)<|.cons li .nil
def Zm0 (n:Zm) (b:Z6) (mm:Nat) (hn:YZ n) (hw:wB n.1 b) (hb:mm+9*b.sz<=900000000) (ih:∀(b2:Z6) (m2:Nat),(wB n.1 b2)->(m2+9*b2.sz<=900000000)->(b2.sz<b.sz)->Zj 39 [Yq n,ZV b2,.i m2] [] (Yr<|ZV<|Vw n.1 m2 b2)):Zj 39 [Yq n,ZV b,.i mm] [] (Yr<|ZV<|Vw n.1 mm b):=by
 have Xz:=hn.decls;have hbz:=U7 b;have ZO:=(Tv b).1 hw;refine ZF 107 Tryz.func39<|ar (iA (YI n) fun b1=>iA (Xb b) fun b2=>iA [nl,.i 0] fun b3=>ie<|ar (iL (Zv []) 0 5 fun v1=>ZL 3 [2] (iA [nl,.i 0] fun b4=>?_)));refine ZD 0 b4 [X7 [] v1,.i b.result]<|ie<|Yj<|ab 0<|Y2 (fun fz gz m F h=>∃(k:Nat) (q:Nat) (xs:List Z4) (v:Value),(k<=b.steps.length)/\(q<=mm+k)/\(xs.length=k)/\(xs++Tb n.1 q (b.steps.drop k)=Tb n.1 mm b.steps)/\F=sF [3,4,6,7] fz [(2,.i q),(8,.i k)]/\h=[.obj b4 [X7 xs v,.i b.result],Ze gz 2,Ze gz 3,Ze gz 4,.tail v 5]/\m=b.steps.length-k) _ _ _ ⟨0,mm,[],v1,ob,ob,ob,U,U,U,U⟩ (wk [0,1,1,1,0]<|fr<|Y7 fl) ?_;rintro m F h ⟨k,q,xs,v,Ye,Zk,Zw,Yz,rfl,rfl,rfl⟩;refine Yh 3 [2]<|iw (V8 b.steps) (Y4 ((k:Int)<(b.steps.length:Int)) (fun Za=>?_) fun Za=>?_)
 .refine ak<|aq<|ab 1<|Zt 3 [2] ?_;obtain ⟨x1,Z3⟩:=Zs b.steps k om;have Xg:=BQ Z3;have hws:=Og hw Z3;have hkz:=T6 x1;have haz:=Qw x1;have hdf:=Zo6 hws;refine Zo (Zl none (k:Int) 5<|Wi Z3)<|Z1 1 (iA [.i 0,.i 0,.i 0,nl,nl] fun b5=>ZD 0 b5 (Xp x1)<|ie<|ar (iL (YP []) 0 2 fun v2=>Z0<|Zt 4 [5,1]<|ic [] (AW n.1 x1.num) ?_));rintro _ _ ⟨v3,rfl,rfl⟩;refine Z0<|Yj<|ab 2<|Y2 (fun fz gz m F h=>∃(j:Nat) (u:Value) (ks:List Z6),(j<=x1.kids.length)/\(ks.length=j)/\(ks++Q4 n.1 q x1.op x1.num x1.args (x1.kids.drop j) j=Q4 n.1 q x1.op x1.num x1.args x1.kids 0)/\F=sF [2,3,4,6,7,8,9,11] fz [(10,Q2 ks u),(12,.i j)]/\h=[Ze gz 2,Ze gz 3,Ze gz 4,Ze gz 5,Ze gz 6,.tail u 2,Ze gz 7,Ze gz 0]/\m=x1.kids.length-j) _ _ _ ⟨0,v2,[],ob,ob,(by simp),rfl,rfl,rfl⟩ (wk [2,2,2,2,2,1,1,0]<|fr<|Y7 fl) ?_;rintro m F h ⟨j,u,ks,VZ,XB,Xw,rfl,rfl,rfl⟩;refine Yh 3 [0]<|iw (U0 x1.kids) (Y4 ((j:Int)<(x1.kids.length:Int)) (fun Zf=>?_) fun Zf=>?_)
  .refine ak<|aq<|ab 3<|Bn [0] (ac (x1.op==8) Zq (fun ZA=>?_) fun ZA=>?_)
   .refine aD 8<|ZJ 4 8 [0,1,2,3] [4] ?_;obtain ⟨x2,Zr⟩:=Zs (Y1 n.1 x1.num) j (by have h:=(BS hws<|by assumption).2;omega);have hfk:VK n.1 x1.num j=ZZ n.1 x2:=GZ (by rw [Tx,Zr];rfl);have hcf:=Uw Xz x2;refine dx 4 (Zl (some v3) (j:Int) 1<|Y3 Zr)<|Zi 2 3 [5]<|Z9 6<|Yu 6 [] [] [] (Jz n.1 x2)<|Zi 0 1 [7]<|de<|aE 22<|ZJ 17 22 [0,1,2,3,4] [4,0] ?_;obtain ⟨x3,YG⟩:=Zs x1.kids j om;have hkb:=YG;have hks:=T5 YG;have hwk:=Iu hws YG;have hpk:=Z6.pz_le x3;refine dx 5 (Zl none (j:Int) 2<|Ux YG)<|Zi 13 16 [6,7,8]<|dn 9 (.i (((ZZ n.1 x2).length:Nat):Int)) (.i (((Z7<|ZZ n.1 x2).length:Nat):Int)) (li<|by rw [Yg])<|da 10 (((q+((ZZ n.1 x2).length):Nat):Int)) (((q:Int))+((((ZZ n.1 x2).length:Nat):Int)))<|ZJ 9 11 [12,13] [0] ?_;obtain ⟨x4,WM⟩:=Zs x1.args 0 (by obtain ⟨⟨a,ha2,_⟩,_⟩:=BS hws (by assumption);rw [ha2];simp);have hg1:=Jn WM;exact dx 14 (Zl none 0 1<|Y3 WM)<|Zi 5 8 [15,16,17]<|Z9 11<|Yu 11 [] [0] [b5] (ih x3 (q+((ZZ n.1 x2).length)) hwk ob ob)<|Z9 18<|Yu 18 [] [] [] (Zlp (Vw n.1 (q+((ZZ n.1 x2).length)) x3) x4 (ZZ n.1 x2) q (ha:=(by rw [Ia];exact Zl5<|(Tv _).1 hwk)) (hz:=(Vy (Ib Xz _ hwk) om)))<|Z9 19 (dL 19 [] [] [ZV (Ae (Vw n.1 (q+((ZZ n.1 x2).length)) x3) x4 (ZZ n.1 x2) q)] 1 2 fun v4=>Yw 2 2 [] [(72,.sl [ZV (Ae (Vw n.1 (q+((ZZ n.1 x2).length)) x3) x4 (ZZ n.1 x2) q)] none)]<|Z9 20 (dp 20 6 [] [] (YP (ks++[Ae (Vw n.1 (q+((ZZ n.1 x2).length)) x3) x4 (ZZ n.1 x2) q])) (YP ks) [ZV (Ae (Vw n.1 (q+((ZZ n.1 x2).length)) x3) x4 (ZZ n.1 x2) q)] u none 2 (Qy _) (Qh rfl) rfl (by simp<;>omega) (by simp [Bg,TR]) fun v5=>Zi 0 1 [21]<|de<|az<|Z1 1<|ZI j<|Z0<|ZK ⟨j+1,v5,(ks++[Ae (Vw n.1 (q+((ZZ n.1 x2).length)) x3) x4 (ZZ n.1 x2) q]),ob,(by simp;omega),(by have h:=Z3y hkb Xw;rw [Ic,Zg (by assumption),hfk,hg1] at h;exact h),rfl,rfl,rfl⟩<|wk [2,2,2,2,2,0,1,1]<|fr<|ZM j fl))
   refine aE 12<|ZJ 7 12 [0,1,2,3,4] [4,0] ?_;obtain ⟨x5,VU⟩:=Zs x1.kids j om;have hkb:=VU;have hks:=T5 VU;have hwk:=Iu hws VU;have hpk:=Z6.pz_le x5;exact dx 5 (Zl none (j:Int) 2<|Ux VU)<|Zi 4 6 [6,7]<|Z9 8<|Yu 8 [] [] [] (ih x5 q hwk ob ob)<|Z9 9 (dL 9 [] [] [ZV (Vw n.1 q x5)] 1 2 fun v6=>Yw 2 2 [] [(83,.sl [ZV (Vw n.1 q x5)] none)]<|Z9 10 (dp 10 6 [] [] (YP (ks++[Vw n.1 q x5])) (YP ks) [ZV (Vw n.1 q x5)] u none 2 (Qy _) (Qh rfl) rfl (by simp<;>omega) (by simp [Bg,TR]) fun v7=>Zi 0 1 [11]<|de<|az<|Z1 1<|ZI j<|Z0<|ZK ⟨j+1,v7,(ks++[Vw n.1 q x5]),ob,(by simp;omega),(by have h:=Z3y hkb Xw;rw [Ic,Z8 (by assumption)] at h;exact h),rfl,rfl,rfl⟩<|wk [2,2,2,2,2,0,1,1]<|fr<|ZM j fl))
  have hK:=Zl3 om Xw;refine ax 2<|aD 17<|ZJ 6 17 [0,1,2,3,4,5,6,7,8,9,11] [1,0,0,0,0]<|Z9 10<|dc 10 [] [0,0,0,1] [b5,b5,b5,b4] (UX x1.args) ?_;rintro _ _ ⟨v8,rfl,rfl⟩;refine Yw 4 5 [12] [(97,.agg [.i x1.op,.i x1.num,.i x1.into,Z5 x1.args,W4 ks])]<|Z9 13 (dL 13 [1] [b4] [YL (Z4.mk x1.op x1.num x1.into x1.args ks)] 1 5 fun v9=>Yw 3 3 [] [(98,.sl [YL (Z4.mk x1.op x1.num x1.into x1.args ks)] none)]<|Z9 14 (dp 14 8 [] [] (Zv (xs++[Z4.mk x1.op x1.num x1.into x1.args ks])) (Zv xs) [YL (Z4.mk x1.op x1.num x1.into x1.args ks)] v none 5 (Xr _) (Qh rfl) rfl (by simp<;>omega) (by simp [V7,U2]) fun v10=>?_));refine Zi 1 2 [15]<|Z9 16<|YO 16 4 [] [] b4 [X7 (xs++[Z4.mk x1.op x1.num x1.into x1.args ks]) v10,.i b.result]<|de<|Zt 2 [4]<|Zx [] (A3 x1.op)<|ie<|Ak (fun fz gz F h=>F=sF [3,4,6,7,8] fz [(2,.i (((if Yv x1.op=true then q else q+1):Nat):Int))]/\h=[Ze gz 0,Ze gz 5,Ze gz 6,Ze gz 7,Ze gz 1]) (fun _ _=>rfl) ?_ ?_
  .refine ac (XV x1.op) Iff.rfl (fun Ym=>?_) fun Ym=>?_
   .exact az<|Z1 1<|ZI q<|Z0<|ZU ⟨rfl,rfl⟩<|wk [0,4,4,4,0]<|fc (x:=.i (q+1:Nat)) (li<|by rw [Z8 (fun z=>by rw [hdf,z] at Ym;cases Ym)]) fl
   exact ak<|ZU ⟨rfl,rfl⟩<|wk [0,4,4,4,0]<|fc (x:=.i q) (li<|by rw [Zg (B0 fun z=>Ym<|by rw [hdf,JE.2 z];rfl)]) fl
  rintro F h ⟨rfl,rfl⟩;exact az (Z1 1 (ZI k (Z0 (ZK ⟨k+1,(if Yv x1.op=true then q else q+1),(xs++[Z4.mk x1.op x1.num x1.into x1.args ks]),v10,ob,(by split<;>omega),(by simp;omega),(by have h:=Zl7 Z3 Yz;rw [<-hK] at h;exact h),rfl,rfl,rfl⟩ (ZH 5 (fr (ZM k fl)))))))
 exact ax 0<|Zt 1 [0]<|ZD 1 b3 [X7 xs v,.i b.result]<|ie<|ZC<|r3 [] [.agg [X7 xs v,.i b.result]] [0] [(b3,b3)] ⟨rfl,rfl⟩<|Zd.agg<|.cons (Zd.sl _<|Ys Zv<|by rw [Ia];exact Zl6 om Yz)<|.cons (li<|by rw [Ia];rfl) .nil
def Zly (n:Zm) (hn:YZ n) (k:Nat):∀(b2:Z6) (m2:Nat),(wB n.1 b2)->(m2+9*b2.sz<=900000000)->(b2.sz<k)->Zj 39 [Yq n,ZV b2,.i m2] [] (Yr<|ZV<|Vw n.1 m2 b2):=by
 induction k with
 | zero=>intro b mm _ _ h;omega
 | succ k ih=>intro b mm h1 h2 h3;exact Zm0 n b mm hn h1 h2 fun b2 m2 k1 k2 k3=>ih b2 m2 k1 k2 om
def Zlz (n:Zm) (b:Z6) (mm:Nat) (hn:YZ n:=by exact ob) (hw:wB n.1 b:=by exact ob) (hb:mm+9*b.sz<=900000000:=by exact ob):Zj 39 [Yq n,ZV b,.i mm] [] (Yr<|ZV<|Vw n.1 mm b):=Zly n hn (b.sz+1) b mm hw hb om
def NW (b:Z6) (hz:b.sz<=1000000000:=by exact ob):Zj 150 [ZV b] [] (Yr<|.i (((Yk b.steps):Nat):Int)):=by
 have hbz:=U7 b;refine ZF 21 Tryz.func150<|ar (iA (Xb b) fun b1=>?_);refine Z0<|ZB<|aq<|ab 0<|Y2 (fun fz gz m F h=>∃(k:Nat),(k<=b.steps.length)/\(k+Yk (b.steps.drop k)=Yk b.steps)/\F=sF [1] fz [(3,.i k)]/\h=gz/\m=b.steps.length-k) _ _ _ ⟨0,ob,(by simp),rfl,rfl,rfl⟩ (wk [0]<|Y7 fl) ?_;rintro m F h ⟨k,Ye,Zk,rfl,rfl,rfl⟩;refine Yh 3 [0]<|iw (V8 b.steps)<|Z1 2 (ib (b:=(decide ((k:Int)<(b.steps.length:Int)))) 9 (fun Zb=>?_) fun Zb=>?_)
 .have ZX:(k:Int)<(b.steps.length:Int):=(dq).1 Zb;refine ZL 3 [0] ?_;obtain ⟨x1,Z3⟩:=Zs b.steps k om;refine Zo (Zl none (k:Int) 5<|Wi Z3)<|Z1 2<|Zx [] (NV x1.op) (YH (Yv x1.op) Iff.rfl (fun Za=>?_) fun Za=>?_)
  .exact ak<|ab 1<|az<|Z1 1<|ZI k<|Z0<|ZK ⟨k+1,ob,(Z0e Z3 Za Zk),U,U,U⟩<|wk [0]<|ZM k fl
  exact ax 0<|ar<|Zp<|ZW (.i k)<|li (by have:=Z0f Z3 Za Zk;omega)
 have Yf:¬((k:Int)<(b.steps.length:Int)):=Y8 dq Zb;exact Z0<|Ww<|ax 0<|ar<|Zp<|ZW (.i k)<|li (by have:=Z0d om Zk;omega)
def Z4g (b:Z6) (mm:Nat) (op x:Int) (hm:mm<=b.steps.length:=by exact ob) (ha:∀s∈b.steps.take mm,s.op=op->∃a,s.args=[a]) (hz:b.sz<=1000000000:=by exact ob):Zj 151 [ZV b,.i mm,.i op,.i x] [] (Yr<|.i<|XA op x (b.steps.take mm) 0):=by
 have hbz:=U7 b;refine ZF 36 Tryz.func151<|ar (iA (Xb b) fun b1=>?_);refine Z0<|Yj<|ab 0<|Y2 (fun fz gz m F h=>∃(k:Nat),(k<=mm)/\(XA op x ((b.steps.take mm).drop k) k=XA op x (b.steps.take mm) 0)/\F=sF [1,2,3,4] fz [(9,.i k)]/\h=gz/\m=mm-k) _ _ _ ⟨0,ob,(by simp),rfl,rfl,rfl⟩ (wk [0]<|Y7 fl) ?_;rintro m F h ⟨k,Ye,Zk,rfl,rfl,rfl⟩;refine X6 (Y4 ((k:Int)<(mm:Int)) (fun Za=>?_) fun Za=>?_)
 .refine ak<|aq<|ab 1<|Zt 3 [0] ?_;obtain ⟨x1,Z3⟩:=Zs b.steps k om;have hxt:(b.steps.take mm)[k]? = some x1:=by rw [List.getElem?_take_of_lt om];exact Z3
  have hxm:=Y0 hxt;refine Zo (Zl none (k:Int) 5<|Wi Z3)<|Z1 5 (ib (b:=(x1.op==op)) 23 (fun Zb=>?_) fun Zb=>?_)
  .have ZX:x1.op=op:=(Zq).1 Zb;refine ZL 3 [0]<|Zo (Zl none (k:Int) 5<|Wi Z3)<|Z1 2 ?_;obtain ⟨x2,Zr⟩:=Zs x1.args 0 (by obtain ⟨a,ha2⟩:=ha x1 hxm (by assumption);rw [ha2];simp);have hg0:=Jn Zr;refine Zo (Zl none 0 1<|Y3 Zr) (YH (x2==x) Zq (fun Zf=>?_) fun Zf=>?_)
   .exact ar<|Zp<|ZW (.i k)<|li (by have h:=OZ hxt ⟨by assumption,by rw [hg0];assumption⟩ Zk;omega)
   exact ak<|az<|Z1 1<|ZI k<|Z0<|ZK ⟨k+1,ob,(IW hxt (fun z=>Zf<|by rw [<-hg0];exact z.2) Zk),rfl,rfl,rfl⟩<|wk [0]<|ZM k fl
  have Yf:¬(x1.op=op):=Y8 Zq Zb;exact Z0<|Ww<|ak<|az<|Z1 1<|ZI k<|Z0<|ZK ⟨k+1,ob,(IW hxt (fun z=>absurd z.1<|by assumption) Zk),rfl,rfl,rfl⟩<|wk [0]<|ZM k fl
 exact ax 0<|ar<|Zp<|ZW (.i (-1))<|li (by have h:=OU (by rw [WK];omega) Zk;omega)
def Zlf (b:Z6) (frm0 many:Nat) (hm:frm0<=b.steps.length:=by exact ob) (hz:b.sz<=1000000000:=by exact ob):Zj 196 [ZV b,.i frm0,.i many] [] (Yr<|.i<|Xy many (b.steps.drop frm0) frm0):=by
 have hbz:=U7 b;refine ZF 44 Tryz.func196<|ar (iA (Xb b) fun b1=>?_);refine Z0<|Yj<|ab 0<|Y2 (fun fz gz m F h=>∃(k:Nat),(k<=b.steps.length)/\(Xy many (b.steps.drop k) k=Xy many (b.steps.drop frm0) frm0)/\F=sF [2,3] fz [(7,.i k)]/\h=gz/\m=b.steps.length-k) _ _ _ ⟨frm0,ob,U,U,U,U⟩ (wk [0] fl) ?_;rintro m F h ⟨k,Ye,Zk,rfl,rfl,rfl⟩;refine Yh 3 [0]<|iw (V8 b.steps) (Y4 ((k:Int)<(b.steps.length:Int)) (fun Za=>?_) fun Za=>?_)
 .refine ak<|aq<|ab 1<|Zt 3 [0] ?_;obtain ⟨x1,Z3⟩:=Zs b.steps k om;refine Zo (Zl none (k:Int) 5<|Wi Z3) (XD 16 [2,3,7] [(31,.b ((x1.op==6)&&(x1.into==0)))] (fun gz=>gz) ?_ fun hj1=>?_)
  .refine Xu [2,3,7] [(42,.b (((x1.op==6)&&(x1.into==0))&&((x1.args.length:Int)==(many:Int))))] (fun gz=>gz) ?_ ?_
   .refine Z1 1 (ib (b:=((x1.op==6)&&(x1.into==0))) 32 (fun Zb=>?_) fun Zb=>?_)
    .exact ZL 3 [0]<|Zo (Zl none (k:Int) 5<|Wi Z3)<|Z1 2<|iw (Yg x1.args)<|Z0<|wk [0]<|Zu ((x1.args.length:Int)==(many:Int)) Zb fl
    exact Z0<|wk [0]<|Zu false Zb fl
   refine ac (((x1.op==6)&&(x1.into==0))&&((x1.args.length:Int)==(many:Int))) (p:=((x1.op=6)/\(x1.into=0))/\((x1.args.length:Int)=(many:Int))) (YN (YN Zq Zq) Zq) (fun Zf=>?_) fun Zf=>?_
   .exact ar<|Zp<|ZW (.i k)<|li (by have h:=PM Z3 (show KI many x1 from ⟨Zf.1,by omega⟩) Zk;omega)
   exact ak<|az<|Z1 1<|ZI k<|Z0<|ZK ⟨k+1,ob,(PL Z3 (fun z=>Zf ⟨z.1,by have:=z.2;omega⟩) Zk),rfl,rfl,rfl⟩<|wk [0]<|ZM k fl
  refine Z1 4 (ib (b:=(x1.op==6)) 23 (fun ZE=>?_) fun ZE=>?_)
  .exact ZL 3 [0]<|Zo (Zl none (k:Int) 5<|Wi Z3)<|Z1 4<|Yt (wk [0]<|Zu (x1.into==0) ZE fl) hj1
  exact Z1 8<|Yt (wk [0]<|Zu false ZE fl) hj1
 exact ax 0<|ar<|Zp<|ZW (.i (-1))<|li (by have h:=PI om Zk;omega)
def Z8z (b:Z6) (hz:b.sz<=1000000000):Zj 91 [ZV b] [] (fun r h=>∃(v:Hd),r=.agg [.h v,.i b.result]/\h=[rK v 5 (Zc<|Zv b.steps)]):=by
 have hbz:=U7 b;refine ZF 28 Tryz.func91<|ar (iA (Xb b) fun b1=>iA [nl,.i 0] fun b2=>ie<|ar (By 5 fun g1=>ZL 3 [2] (iA [nl,.i 0] fun b3=>?_)));refine ZD 0 b3 [.ms g1 0 0 0,.i b.result]<|ie<|Yj<|ab 0<|Y2 (fun fz gz m F h=>∃(k:Nat) (v:Hd),(k<=b.steps.length)/\F=sF [1,2,3] fz [(4,.i k)]/\h=[.obj b3 [.h v,.i b.result],Ze gz 2,Ze gz 3,rK v 5<|Zc<|Zv<|b.steps.take k]/\m=b.steps.length-k) _ _ _ ⟨0,(⟨some ⟨g1,0,none⟩,0,0⟩:Hd),ob,U,U,U⟩ (wk [0,1,1,0] (Y7 fl) (e:=(rc<|rc<|rc<|rr (ls:=[]) ob rz))) ?_;rintro m F h ⟨k,v,Ye,rfl,rfl,rfl⟩;refine Yh 3 [2]<|iw (V8 b.steps) (Y4 ((k:Int)<(b.steps.length:Int)) (fun Za=>?_) fun Za=>?_)
 .refine ak<|aq<|ab 1<|aE 12<|ZJ 7 12 [0,1,2,3,4] [0,2] ?_;obtain ⟨x1,Z3⟩:=Zs b.steps k om;have hss:=A7 Z3;exact dx 5 (Zl none (k:Int) 5<|Wi Z3)<|Zi 5 6 [6]<|Z9 7<|Yu 7 [] [0] [b3] (Z49 x1)<|Z9 8 (dL 8 [0] [b3] [YL x1] 1 5 fun v1=>Yw 3 3 [] [(24,.sl [YL x1] none)]<|Z9 9 (EY 9 4 k [] [] v 5 (Zc<|Zv<|b.steps.take k) [YL x1] none (by rw [Qb,WK,Vz om]) (Qh rfl) rfl (List.cons_ne_nil _ _) (by simp<;>omega) fun v2=>Zi 1 2 [10]<|Z9 11<|YO 11 2 [] [] b3 [.h v2,.i b.result]<|de<|az<|Z1 1<|ZI k<|Z0<|ZK ⟨k+1,v2,ob,rfl,rfl,rfl⟩<|wk [0,2,2,0] (ZM k fl) (e:=(rc<|rc<|rc<|rr (ls:=Zc (Zv<|b.steps.take k)++Zc [YL x1]) (RG Z3) rz))))
 exact ax 0<|Zt 1 [0]<|ZD 1 b2 [.h v,.i b.result]<|ie<|ZC<|r3 [3] [.agg [.h v,.i b.result]] [0] [(b2,b2)] ⟨v,rfl,rfl⟩ (lr _) (eq:=(rr (ls:=Zc (Zv<|b.steps.take k)) (by rw [Vc om]) rz))
def Z8y (b:Z6) (hz:b.sz<=1000000000:=by exact ob) (h0:0<b.steps.length:=by exact ob):Zj 91 [ZV b] [] (fun r h=>∃(g:Nat) (c:Nat),r=.agg [.ms g 0 b.steps.length c,.i b.result]/\h=[.row (.slice (some ⟨g,0,none⟩) b.steps.length c) 5 (Zc<|Zv b.steps)]):=(Z8z b hz).form (T:=fun v=>.agg [.h v,.i b.result]) (m:=b.steps.length) (Qb _) om h0
def Zlq (ds:List Zh) (b:Z6) (x:Int) (many:Nat) (hw:wB ds b:=by exact ob) (hx:0<=x/\x<=900000000:=by exact ob) (hz:b.sz<=1000000000:=by exact ob):Zj 149 [ZV b,.i x,.i many] [] (Yr<|ZV<|V0 b x many):=by
 have hbz:=U7 b;have ZO:=(Tv b).1 hw;have hrl:=Ef b.steps;refine ZF 57 Tryz.func149<|ar (iA (Xb b) fun b1=>iA [nl,.i 0] fun b2=>ie<|aD 6<|ZJ 3 6 [0,1,3] [1,1]<|Z9 2<|Yu 2 [] [1] [b1] (NW b)<|Z9 4<|Yu 4 [] [] [] (Z4g b (Yk b.steps) 16 x (ha:=(fun s hs h16=>IF<|Dy ZO s (Qr hs)<|by rw [h16];rfl)))<|Zi 0 1 [5]<|de<|aD 6<|ZJ 3 6 [0,1,3] [1,1]<|Z9 2<|Yu 2 [] [1] [b1] (NW b)<|Z9 4<|Yu 4 [] [] [] (Zlf b (Yk b.steps) many)<|Zi 0 1 [5]<|de<|X6<|Xu [1,3,6,7,8] [(26,.b ((decide ((XA 16 x (b.steps.take<|Yk b.steps) 0)<0))||(decide ((Xy many (b.steps.drop<|Yk b.steps)<|Yk b.steps)<0))))] (fun gz=>gz) ?_ ?_)
 .refine Z1 3 (ib (b:=(decide ((XA 16 x (b.steps.take<|Yk b.steps) 0)<0))) 23 (fun Zb=>?_) fun Zb=>?_)
  .exact Z0<|wk [0,0]<|Zu true Zb fl
  exact Z0<|wk [0,0]<|Zu (decide ((Xy many (b.steps.drop<|Yk b.steps)<|Yk b.steps)<0)) Zb fl
 refine ac ((decide ((XA 16 x (b.steps.take<|Yk b.steps) 0)<0))||(decide ((Xy many (b.steps.drop<|Yk b.steps)<|Yk b.steps)<0))) (p:=((XA 16 x (b.steps.take<|Yk b.steps) 0)<0)∨((Xy many (b.steps.drop<|Yk b.steps)<|Yk b.steps)<0)) (Yi dq dq) (fun Za=>?_) fun Za=>?_
 .exact Zt 1 [1]<|ZD 0 b2 (Xb b)<|ie<|ZC<|r3 [] [ZV b] [0] [(b2,b2)] ⟨U,U⟩<|Zd.agg<|.cons (Zd.sl _<|Ys Zv (Z2j Za).symm)<|.cons li .nil
 obtain ⟨o1,o2,so,o3,o4⟩:=BH (xs:=b.steps) (x:=x) fun z=>Za (.inl z)
 obtain ⟨p1,p2,sc,p3,p4,p5⟩:=KJ (xs:=b.steps) (many:=many) fun z=>Za (.inr z)
 rw [show Wn b.steps x=(XA 16 x (b.steps.take<|Yk b.steps) 0) from rfl] at o1 o2;rw [show XX b.steps many=(Xy many (b.steps.drop<|Yk b.steps)<|Yk b.steps) from rfl] at p1 p2;refine ak<|Zt 1 [1]<|ic [] (Z8y b) ?_;rintro _ _ ⟨g1,c1,rfl,rfl⟩;exact iA [nl,.i 0] fun b3=>ZD 0 b3 [.ms g1 0 b.steps.length c1,.i b.result]<|ie<|aD 7<|ZJ 3 7 [0,1,2,3] [0]<|Z9 4<|Yu 4 [] [0] [b3] (AX 17 x)<|dx 5 (W9 g1 b.steps.length c1 ((XA 16 x (b.steps.take<|Yk b.steps) 0).toNat) 5<|XA 16 x (b.steps.take<|Yk b.steps) 0)<|Z9 6<|C9 6 1 [] [] g1 b.steps.length c1 5 (((XA 16 x (b.steps.take<|Yk b.steps) 0).toNat)*5) (Xp<|Zz 17 x) (Zc<|Zv b.steps) (Zc<|Zv<|b.steps.set (XA 16 x (b.steps.take<|Yk b.steps) 0).toNat<|Zz 17 x) (by have:(Xp (Zz 17 x)).length=5:=rfl;rw [Qb];omega) (H3 o3)<|de<|Zt 3 [1]<|Zo (W9 g1 b.steps.length c1 ((Xy many (b.steps.drop<|Yk b.steps)<|Yk b.steps).toNat) 5<|Xy many (b.steps.drop<|Yk b.steps)<|Yk b.steps)<|WW (Vj 0 g1 b.steps.length c1 5 (((Xy many (b.steps.drop<|Yk b.steps)<|Yk b.steps).toNat)*5) (Zc<|Zv<|b.steps.set (XA 16 x (b.steps.take<|Yk b.steps) 0).toNat<|Zz 17 x) (Xp sc) 64 (YL sc)<|M0<|BK Za p3) (iA [.i 0,.i 0,.i 0,nl,nl] fun b4=>ZD 0 b4 (Xp sc)<|ie<|Zt 8 [2,0,0]<|ia ((1+x)) ((1)+(x))<|ZL 5 [0,0]<|Zo (W9 g1 b.steps.length c1 ((Xy many (b.steps.drop<|Yk b.steps)<|Yk b.steps).toNat) 5<|Xy many (b.steps.drop<|Yk b.steps)<|Yk b.steps)<|Bz 1 g1 b.steps.length c1 5 (((Xy many (b.steps.drop<|Yk b.steps)<|Yk b.steps).toNat)*5) [.i sc.op,.i sc.num,.i (1+x),Z5 sc.args,W4 sc.kids] (Zc<|Zv<|b.steps.set (XA 16 x (b.steps.take<|Yk b.steps) 0).toNat<|Zz 17 x) (Zc<|Zv<|(b.steps.set (XA 16 x (b.steps.take<|Yk b.steps) 0).toNat<|Zz 17 x).set (Xy many (b.steps.drop<|Yk b.steps)<|Yk b.steps).toNat<|Uo (1+x) sc) (by rw [Qb,UO];simp only [YR,Xx];omega) (H3 (t:=Uo (1+x) sc)<|BK Za p3)<|W8 (TI 0 1 0 (.slice (some ⟨g1,0,none⟩) b.steps.length c1) 5 b3 (Zv<|(b.steps.set (XA 16 x (b.steps.take<|Yk b.steps) 0).toNat<|Zz 17 x).set (Xy many (b.steps.drop<|Yk b.steps)<|Yk b.steps).toNat<|Uo (1+x) sc) [.ms g1 0 b.steps.length c1,.i b.result] (Xr _) rfl)<|ie<|Zt 1 [0]<|ZD 3 b2 [X7 ((b.steps.set (XA 16 x (b.steps.take<|Yk b.steps) 0).toNat<|Zz 17 x).set (Xy many (b.steps.drop<|Yk b.steps)<|Yk b.steps).toNat<|Uo (1+x) sc) (.slice (some ⟨g1,0,none⟩) b.steps.length c1),.i b.result]<|ie<|ZC<|r3 [] [.agg [X7 ((b.steps.set (XA 16 x (b.steps.take<|Yk b.steps) 0).toNat<|Zz 17 x).set (Xy many (b.steps.drop<|Yk b.steps)<|Yk b.steps).toNat<|Uo (1+x) sc) (.slice (some ⟨g1,0,none⟩) b.steps.length c1),.i b.result]] [0] [(b2,b2)] ⟨rfl,rfl⟩<|Zd.agg<|.cons (Zd.sl _<|Ys Zv<|Z2l Za p5)<|.cons li .nil)
def Zlo (xs:LI) (y:Int) (hl:xs.length<=1000000000:=by exact ob):Zj 152 [Z5 xs,.i y] [] (fun r h=>∃(ys:LI),r=Z5 ys/\h=[]/\(ys.length<=xs.length+1/\∀z,z∈ys↔z∈xs∨z=y)):=by
 refine ZF 49 Tryz.func152<|ZB<|ar (iL (Z7 []) 0 1 fun v1=>?_);refine Z0<|ZB<|Yj<|ab 0<|Y2 (fun fz gz m F h=>∃(k:Nat) (acc:LI) (d:Bool) (v:Value),(k<=xs.length)/\(JI xs y k acc d)/\F=sF [0,1] fz [(5,ZT acc v),(6,.b d),(7,.i k)]/\h=[.tail v 1]/\m=xs.length-k) _ _ _ ⟨0,[],false,v1,ob,(JI.zero xs y),U,U,U⟩ (wk [0]<|fw<|Y7 fl) ?_;rintro m F h ⟨k,acc,d,v,Ye,Zk,rfl,rfl,rfl⟩;refine YE 2<|iw (Yg xs) (Y4 ((k:Int)<(xs.length:Int)) (fun Za=>?_) fun Za=>?_)
 .obtain ⟨x1,Z3⟩:=Zs xs k om;have hil:acc.length<=k+1:=Vy Zk.len (by split<;>omega);refine ak (aq (ab 1 (X6 (Xu [0,1,5,6,7] [(24,.b ((!d)&&(decide (x1>=y))))] (fun gz=>gz) ?_ ?_))))
  .refine Z1 3 (ib (b:=(!d)) 17 (fun Zb=>?_) fun Zb=>?_)
   .exact Z1 2<|Zo (Zl none (k:Int) 1<|Y3 Z3)<|Z0<|wk [0]<|Zu (decide (x1>=y)) Zb fl
   exact Z0<|wk [0]<|Zu false Zb fl
  refine XY (fun fz gz F h=>∃(acc2:LI) (d2:Bool) (w:Value),((acc2=acc/\d2=d)∨(acc2=acc++[y]/\d2=true/\¬d=true)∨(acc2=acc/\d2=true/\x1=y))/\(acc2.length<=acc.length+1)/\F=sF [0,1,7] fz [(5,ZT acc2 w),(6,.b d2)]/\h=[.tail w 1]) ?_ ?_
  .refine ac ((!d)&&(decide (x1>=y))) (p:=(¬(d=true))/\(x1>=y)) (YN (Yp Iff.rfl) dq) (fun Zf=>?_) fun Zf=>?_
   .refine YE 2<|Zo (Zl none (k:Int) 1<|Y3 Z3)<|Z0<|XY (fun fz gz F h=>∃(w3:Value),F=sF [0,1,7] fz [(5,ZT (if x1>y then (acc++[y]) else acc) w3)]/\h=[.tail w3 1]) ?_ ?_
    .refine XK (x1>y) (fun ZA=>?_) fun ZA=>?_
     .exact az<|Z1 2 (iL (Z7 [y]) 1 1 fun v2=>ZY 0 [(33,Z5 [y])] (ip 1 (Z7 (acc++[y])) (Z7 acc) (Z7 [y]) v none 1 (YJ _) (YJ _) (Wk _) (by simp<;>omega) (by simp [Wj,Z7]) fun v3=>Z0<|ZU ⟨v3,rfl,rfl⟩<|wk [0]<|fc (x:=ZT (acc++[y]) v3) (Zd.slh _<|Ys Z7<|by first|rfl|(rw [Zg ZA])|(rw [Z8 ZA])|(simp [ZA];done)|(rw [XE];simp [ZA];done)|omega) fl))
     exact ak<|ZU ⟨v,rfl,rfl⟩<|wk [0]<|fc (x:=ZT acc v) (Zd.slh _<|Ys Z7<|by first|rfl|(rw [Zg ZA])|(rw [Z8 ZA])|(simp [ZA];done)|(rw [XE];simp [ZA];done)|omega) fl
    rintro F h ⟨w3,rfl,rfl⟩;exact TD (ZU ⟨(if x1>y then (acc++[y]) else acc),true,w3,(if h:x1>y then (by rw [Zg h];exact .inr (.inl ⟨rfl,rfl,Zf.1⟩)) else (by rw [Z8 h];exact .inr (.inr ⟨rfl,rfl,by have:=Zf.2;omega⟩))),(by split<;>simp),rfl,rfl⟩ (wk [0] fl))
   exact ak<|ZU ⟨acc,d,v,(.inl ⟨U,U⟩),ob,U,U⟩<|wk [0] fl
  rintro F h ⟨acc2,d2,w,UC,BB,rfl,rfl⟩;exact az (Z1 3 (Zo (Zl none (k:Int) 1 (Y3 Z3)) (Z1 1 (iL (Z7 [x1]) 1 1 fun v4=>ZY 0 [(40,Z5 [x1])] (ip 1 (Z7 (acc2++[x1])) (Z7 acc2) (Z7 [x1]) w none 1 (YJ _) (YJ _) (Wk _) (by simp<;>omega) (by simp [Wj,Z7]) fun v5=>Z0 (az (Z1 1 (ZI k (Z0 (ZK ⟨k+1,(acc2++[x1]),d2,v5,ob,(Zk.go Z3 UC),rfl,rfl,rfl⟩ (wk [0] (fw (ZM k fl)))))))))))))
 have hil:acc.length<=k+1:=Vy Zk.len (by split<;>omega);refine ax 0<|Yj<|XY (fun fz gz F h=>∃(w4:Value),F=sF [] fz [(5,ZT (if d=true then acc else (acc++[y])) w4)]/\h=[.tail w4 1]) ?_ ?_
 .refine ac (!d) (p:=¬(d=true)) (Yp Iff.rfl) (fun Ym=>?_) fun Ym=>?_
  .exact az<|Z1 2 (iL (Z7 [y]) 1 1 fun v6=>ZY 0 [(46,Z5 [y])] (ip 1 (Z7 (acc++[y])) (Z7 acc) (Z7 [y]) v none 1 (YJ _) (YJ _) (Wk _) (by simp<;>omega) (by simp [Wj,Z7]) fun v7=>Z0<|ZU ⟨v7,rfl,rfl⟩<|wk [0]<|fc (x:=ZT (acc++[y]) v7) (Zd.slh _<|Ys Z7<|by first|rfl|(rw [Zg Ym])|(rw [Z8 Ym])|(simp [Ym];done)|(rw [XE];simp [Ym];done)|omega) fl))
  exact ak<|ZU ⟨v,rfl,rfl⟩<|wk [0]<|fc (x:=ZT acc v) (Zd.slh _<|Ys Z7<|by first|rfl|(rw [Zg Ym])|(rw [Z8 Ym])|(simp [Ym];done)|(rw [XE];simp [Ym];done)|omega) fl
 rintro F h ⟨w4,rfl,rfl⟩;exact ar (Zp (r2 [] [ZT (if d=true then acc else (acc++[y])) w4] ⟨(if d=true then acc else (acc++[y])),rfl,rfl,(if hd:d=true then (by rw [Zg hd];exact (Zk.fin om).1 hd) else (by rw [Z8 hd];exact (Zk.fin om).2 hd))⟩ (Zd.forget _ _)))
def Zls (n:Zm) (s:Z4) (j:Nat) (kept:LI) (kd:Z6) (hn:YZ n) (hws:wS n.1 s) (hkd:s.kids[j]? = some kd) (hnk:T9 kd) (hK:kept.length+s.sz<=900000000) (ih:∀(b2:Z6) (K2:LI),(wB n.1 b2)->(Cm b2)->(K2.length+b2.sz<=900000000)->(b2.sz<s.sz)->Zj 68 [Yq n,ZV b2,Z5 K2] [] (Yr<|ZV<|ruB n.1 K2 b2)):Zj 112 [Yq n,YL s,.i j,Z5 kept] [] (Yr<|ZV<|TH n.1 kept s.op s.num s.args j kd):=by
 have Xz:=hn.decls;have hks:=T5 hkd;have hwk:=Iu hws hkd;have haz:=Qw s;have hjl:=(Xv.1 hkd).1;refine ZF 65 Tryz.func112<|ar (iA (YI n) fun b1=>iA (Xp s) fun b2=>iA [nl,.i 0] fun b3=>ie<|X6<|U6 [1] (ac (s.op != 8) Yb (fun Za=>?_) fun Za=>?_))
 .refine aD 9<|ZJ 5 9 [0,1,2,3] [2,1]<|dx 4 (Zl none (j:Int) 2<|Ux hkd)<|Zi 2 4 [5,6]<|Z9 7<|Yu 7 [] [] [] (ih kd kept (by first|exact hwk|exact BB) (by first|exact Cl hnk|exact MA) ob ob)<|Z9 8<|YO 8 0 [] [] b3 (Xb<|ruB n.1 kept kd)<|de ?_;have hE:=Es (ds:=n.1) (kept:=kept) (op:=s.op) (num:=s.num) (args:=s.args) (j:=j) (kd:=kd) fun z=>Za z.1
  exact ZC<|r3 [] [ZV (ruB n.1 kept kd)] [0] [(b3,b3)] ⟨rfl,rfl⟩<|Zd.agg<|.cons (Zd.sl _<|Ys Zv<|by rw [hE])<|.cons (li<|by rw [hE]) .nil
 refine ak<|Zt 2 [1] ?_;obtain ⟨x1,Z3⟩:=Zs s.args 0 (by obtain ⟨⟨a,ha2,_⟩,_⟩:=BS hws om;rw [ha2];simp);have hg1:=Jn Z3;have hxb:0<=x1/\x1<=900000000:=by obtain ⟨⟨a,ha2,ha3⟩,_⟩:=BS hws om;rw [ha2] at hg1;have:a=x1:=hg1;omega
 refine Zo (Zl none 0 1<|Y3 Z3)<|Z0<|Zt 3 [1]<|Zo (Zl none (j:Int) 2<|Ux hkd)<|Z1 1 (iA [nl,.i 0] fun b4=>?_);refine ZD 0 b4 (Xb kd)<|ie<|YE 2<|Zx [] (Tt kept x1)<|Z0<|XY (fun fz gz F h=>∃(B2:Z6) (K2:LI),(ruB n.1 K2 B2=TH n.1 kept s.op s.num s.args j kd)/\(wB n.1 B2)/\(Cm B2)/\(B2.sz<=kd.sz)/\(K2.length<=kept.length+1)/\F=sF [4,8,10] fz [(3,Z5 K2)]/\h=[.obj b4 (Xb B2),Ze gz 1,Ze gz 3]) ?_ ?_
 .refine ac (!(decide (x1∈kept))) (p:=¬(x1∈kept)) (Yp dq) (fun Zf=>?_) fun Zf=>?_
  .refine aD 16<|ZJ 7 16 [0,1,2,3,4,5,6,7,9] [0,3,3,2]<|Z9 8<|dc 8 [] [3,0] [b1,b4] (AW n.1 s.num) ?_;rintro _ _ ⟨v1,rfl,rfl⟩;obtain ⟨x2,Zr⟩:=Zs (Y1 n.1 s.num) j (by have h:=(BS hws om).2;omega);have hfl:(VK n.1 s.num j).length=(ZZ n.1 x2).length:=by rw [GZ (by rw [Tx,Zr];rfl)]
   have hcf:=Uw Xz x2;refine dx 10 (Zl (some v1) (j:Int) 1<|Y3 Zr)<|Zi 4 5 [11]<|Z9 12<|Yu 12 [] [0] [b4] (Jz n.1 x2)<|dn 13 (.i (((ZZ n.1 x2).length:Nat):Int)) (.i (((Z7<|ZZ n.1 x2).length:Nat):Int)) (li<|by rw [Yg])<|Z9 14<|Yu 14 [] [] [] (Zlq n.1 kd x1 ((ZZ n.1 x2).length) (hw:=hwk) (hx:=hxb)) ?_;have hwr:=Oh (x:=x1) (many:=(ZZ n.1 x2).length) hwk;have hsr:=Zj2 (x:=x1) (many:=(ZZ n.1 x2).length) hwk;refine Z9 15<|YO 15 1 [] [] b4 (Xb<|V0 kd x1<|(ZZ n.1 x2).length)<|de<|Zt 1 [0]<|Zx [] (NW<|V0 kd x1<|(ZZ n.1 x2).length)<|Z0<|Zt 3 [0]<|Zx [] (Z4g (V0 kd x1<|(ZZ n.1 x2).length) (Yk (V0 kd x1<|(ZZ n.1 x2).length).steps) 17 x1 (hm:=(Ef _)) (ha:=(fun s2 hs2 h17=>IF<|Dy ((Tv _).1 hwr) s2 (Qr hs2)<|by rw [h17];rfl))) (Y4 ((XA 17 x1 ((V0 kd x1<|(ZZ n.1 x2).length).steps.take<|Yk (V0 kd x1<|(ZZ n.1 x2).length).steps) 0)>=0) (fun ZA=>?_) fun ZA=>?_)
   .refine az<|Z1 2<|ic [] (Zlo kept x1) ?_;rintro _ _ ⟨ys1,rfl,rfl,ZX⟩;have hin:=ZX;exact Z0<|ZU ⟨_,_,(Z31 om hg1 Zf hfl ((Z58<|(Ej kd).1 hnk).1 ZA) hin.2),hwr,(Z17 hnk),ob,hin.1,rfl,rfl⟩<|wk [0,1,2]<|fc (x:=Z5 ys1) (Zd.sl _<|Ys Z7<|by first|rfl|(rw [Zg Zf])|(rw [Z8 Zf])|(simp [Zf,ZA,ZX];done)|(rw [XE];simp [Zf,ZA,ZX];done)|omega) fl
   exact ak<|ZU ⟨_,_,(Z32 om hg1 Zf hfl (B0 fun z=>ZA<|(Z58<|(Ej kd).1 hnk).2 z)),hwr,(Z17 hnk),ob,ob,rfl,rfl⟩<|wk [0,1,2]<|fc (x:=Z5 kept) (Zd.sl _<|Ys Z7<|by first|rfl|(rw [Zg Zf])|(rw [Z8 Zf])|(simp [Zf,ZA];done)|(rw [XE];simp [Zf,ZA];done)|omega) fl
  exact ak<|ZU ⟨_,_,(Es fun z=>Zf<|hg1▸z.2),hwk,(Cl hnk),ob,ob,rfl,rfl⟩<|wk [0,0,1]<|fc (x:=Z5 kept) (Zd.sl _<|Ys Z7<|by first|rfl|(rw [Zg Zf])|(rw [Z8 Zf])|(simp [Zf];done)|(rw [XE];simp [Zf];done)|omega) fl
 rintro F h ⟨B2,K2,UC,BB,MA,Zp6,Zp7,rfl,rfl⟩;exact Zt 3 [2,0] (Zx [] (ih B2 K2 (by first|exact hwk|exact BB) (by first|exact Cl hnk|exact MA) ob ob) (ZD 1 b3 (Xb (ruB n.1 K2 B2)) (ie (ZC (r3 [] [ZV (ruB n.1 K2 B2)] [0] [(b3,b3)] ⟨rfl,rfl⟩ (Zd.agg (.cons (Zd.sl _ (Ys Zv (by rw [UC]))) (.cons (li (by rw [UC])) .nil))))))))
def Zlr (n:Zm) (b:Z6) (kept:LI) (hn:YZ n) (hw:wB n.1 b) (hn2:Cm b) (hK:kept.length+b.sz<=900000000) (ih:∀(s:Z4) (j:Nat) (kept:LI) (kd:Z6),(wS n.1 s)->(s.kids[j]? = some kd)->(T9 kd)->(kept.length+s.sz<=900000000)->(s.sz<b.sz)->Zj 112 [Yq n,YL s,.i j,Z5 kept] [] (Yr<|ZV<|TH n.1 kept s.op s.num s.args j kd)):Zj 68 [Yq n,ZV b,Z5 kept] [] (Yr<|ZV<|ruB n.1 kept b):=by
 have Xz:=hn.decls;have hbz:=U7 b;refine ZF 61 Tryz.func68<|ar (iA (YI n) fun b1=>iA (Xb b) fun b2=>iA [nl,.i 0] fun b3=>ie<|ar (iL (Zv []) 0 5 fun v1=>ZL 3 [2] (iA [nl,.i 0] fun b4=>?_)));refine ZD 0 b4 [X7 [] v1,.i b.result]<|ie<|Yj<|ab 0<|Y2 (fun fz gz m F h=>∃(k:Nat) (xs:List Z4) (v:Value),(k<=b.steps.length)/\(xs.length=k)/\(xs++ruSs n.1 kept (b.steps.drop k)=ruSs n.1 kept b.steps)/\F=sF [2,3,4,6,7] fz [(8,.i k)]/\h=[.obj b4 [X7 xs v,.i b.result],Ze gz 2,Ze gz 3,Ze gz 4,.tail v 5]/\m=b.steps.length-k) _ _ _ ⟨0,[],v1,ob,ob,U,U,U,U⟩ (wk [0,1,1,1,0]<|Y7 fl) ?_;rintro m F h ⟨k,xs,v,Ye,Zk,Zw,rfl,rfl,rfl⟩;refine Yh 3 [2]<|iw (V8 b.steps) (Y4 ((k:Int)<(b.steps.length:Int)) (fun Za=>?_) fun Za=>?_)
 .refine ak<|aq<|ab 1<|Zt 3 [2] ?_;obtain ⟨x1,Z3⟩:=Zs b.steps k om;have Xg:=BQ Z3;have hws:=Og hw Z3;have hkz:=T6 x1;have haz:=Qw x1;refine Zo (Zl none (k:Int) 5<|Wi Z3)<|Z1 1 (iA [.i 0,.i 0,.i 0,nl,nl] fun b5=>ZD 0 b5 (Xp x1)<|ie<|ar (iL (YP []) 0 2 fun v2=>?_));refine Z0<|Yj<|ab 2<|Y2 (fun fz gz m F h=>∃(j:Nat) (u:Value) (ks:List Z6),(j<=x1.kids.length)/\(ks.length=j)/\(ks++ruKs n.1 kept x1.op x1.num x1.args (x1.kids.drop j) j=ruKs n.1 kept x1.op x1.num x1.args x1.kids 0)/\F=sF [2,3,4,6,7,8,9] fz [(10,Q2 ks u),(11,.i j)]/\h=[Ze gz 1,Ze gz 2,Ze gz 3,Ze gz 4,Ze gz 5,.tail u 2,Ze gz 6]/\m=x1.kids.length-j) _ _ _ ⟨0,v2,[],ob,ob,(by simp),rfl,rfl,rfl⟩ (wk [1,1,1,1,1,0,0]<|fr<|Y7 fl) ?_;rintro m F h ⟨j,u,ks,VZ,XB,Xw,rfl,rfl,rfl⟩;refine Yh 3 [0]<|iw (U0 x1.kids) (Y4 ((j:Int)<(x1.kids.length:Int)) (fun Zf=>?_) fun Zf=>?_)
  .obtain ⟨kd,hkd⟩:=Zs x1.kids j om;exact ak (aq (ab 3 (az (ZL 5 [4,0] (Zx [] (ih x1 j kept kd hws hkd (Zhl hn2 Z3 hkd) ob ob) (iL [ZV (TH n.1 kept x1.op x1.num x1.args j kd)] 1 2 fun v3=>ZY 0 [(42,.sl [ZV (TH n.1 kept x1.op x1.num x1.args j kd)] none)] (ip 6 (YP (ks++[TH n.1 kept x1.op x1.num x1.args j kd])) (YP ks) [ZV (TH n.1 kept x1.op x1.num x1.args j kd)] u none 2 (Qy _) (Qh rfl) rfl (by simp<;>omega) (by simp [Bg,TR]) fun v4=>Z0 (az (Z1 1 (ZI j (Z0 (ZK ⟨j+1,v4,(ks++[TH n.1 kept x1.op x1.num x1.args j kd]),ob,(by simp;omega),(HX hkd Xw),rfl,rfl,rfl⟩ (wk [2,2,2,2,2,0,1] (fr (ZM j fl)))))))))))))))
  have hK:=Z30 om Xw;refine ax 2<|aE 17<|ZJ 6 17 [0,1,2,3,4,5,6,7,8,9,11] [1,0,0,0,0]<|Z9 10<|dc 10 [] [0,0,0,1] [b5,b5,b5,b4] (UX x1.args) ?_;rintro _ _ ⟨v5,rfl,rfl⟩;exact Yw 4 5 [12] [(56,.agg [.i x1.op,.i x1.num,.i x1.into,Z5 x1.args,W4 ks])]<|Z9 13 (dL 13 [1] [b4] [YL (Z4.mk x1.op x1.num x1.into x1.args ks)] 1 5 fun v6=>Yw 3 3 [] [(57,.sl [YL (Z4.mk x1.op x1.num x1.into x1.args ks)] none)]<|Z9 14 (dp 14 8 [] [] (Zv (xs++[Z4.mk x1.op x1.num x1.into x1.args ks])) (Zv xs) [YL (Z4.mk x1.op x1.num x1.into x1.args ks)] v none 5 (Xr _) (Qh rfl) rfl (by simp<;>omega) (by simp [V7,U2]) fun v7=>Zi 1 2 [15]<|Z9 16<|YO 16 4 [] [] b4 [X7 (xs++[Z4.mk x1.op x1.num x1.into x1.args ks]) v7,.i b.result]<|de<|az<|Z1 1<|ZI k<|Z0<|ZK ⟨k+1,(xs++[Z4.mk x1.op x1.num x1.into x1.args ks]),v7,ob,(by simp;omega),(by have h:=Z3b Z3 Zw;rw [<-hK] at h;exact h),rfl,rfl,rfl⟩<|wk [0,4,4,4,0]<|ZM k fl))
 exact ax 0<|Zt 1 [0]<|ZD 1 b3 [X7 xs v,.i b.result]<|ie<|ZC<|r3 [] [.agg [X7 xs v,.i b.result]] [0] [(b3,b3)] ⟨rfl,rfl⟩<|Zd.agg<|.cons (Zd.sl _<|Ys Zv<|by rw [FT];exact Z3a om Zw)<|.cons (li<|by rw [FT];rfl) .nil
def Zlt (n:Zm) (hn:YZ n) (k:Nat):(∀(s:Z4) (j:Nat) (kept:LI) (kd:Z6),(wS n.1 s)->(s.kids[j]? = some kd)->(T9 kd)->(kept.length+s.sz<=900000000)->(s.sz<=k)->Zj 112 [Yq n,YL s,.i j,Z5 kept] [] (Yr<|ZV<|TH n.1 kept s.op s.num s.args j kd))/\(∀(b:Z6) (kept:LI),(wB n.1 b)->(Cm b)->(kept.length+b.sz<=900000000)->(b.sz<=k)->Zj 68 [Yq n,ZV b,Z5 kept] [] (Yr<|ZV<|ruB n.1 kept b)):=by
 induction k with
 | zero=>exact ⟨fun s j K kd h1 h2 h3 h4 h5=>by have:=s.sz_pos;omega,fun b K h1 h2 h3 h4=>by have:=b.sz_eq;omega⟩
 | succ k ih=>exact ⟨fun s j K kd h1 h2 h3 h4 h5=>Zls n s j K kd hn h1 h2 h3 h4 fun b2 K2 q1 q2 q3 q4=>ih.2 b2 K2 q1 q2 q3 om,fun b K h1 h2 h3 h4=>Zlr n b K hn h1 h2 h3 fun s j K2 kd q1 q2 q3 q4 q5=>ih.1 s j K2 kd q1 q2 q3 q4 om⟩
def Z4e (n:Zm) (b:Z6) (kept:LI) (hn:YZ n:=by exact ob) (hw:wB n.1 b:=by exact ob) (hn2:Cm b:=by exact ob) (hK:kept.length+b.sz<=900000000:=by exact ob):Zj 68 [Yq n,ZV b,Z5 kept] [] (Yr<|ZV<|ruB n.1 kept b):=(Zlt n hn b.sz).2 b kept hw hn2 hK (X8 _)
def S3 (n:Zm) (hn:YZ n:=by exact ob) (hz:WF n:=by exact ob) (hwb:∀r∈n.2,wB n.1 r.4):Zj 15 [Yq n] [] (Yr<|Yq<|Dl n):=by
 have hzl:=hn.len;refine ZF 38 Tryz.func15<|ar (iA (YI n) fun b1=>iA [nl,nl] fun b2=>ie<|Zt 2 [1]<|Zx [] (Cy n.1 (hd:=hn.decls)) (iL (YS []) 0 5 fun v1=>Z1 1 (iA [nl,nl] fun b3=>?_)));refine ZD 0 b3 [ZQ n.1,WJ [] v1]<|ie<|Yj<|ab 0<|Y2 (fun fz gz m F h=>∃(k:Nat) (v:Value),(k<=n.2.length)/\F=sF [1,2,3] fz [(4,.i k)]/\h=[.obj b3 [ZQ n.1,WJ ((n.2.take k).map<|Cx n.1) v],Ze gz 2,Ze gz 3,.tail v 5]/\m=n.2.length-k) _ _ _ ⟨0,v1,ob,U,U,U⟩ (wk [0,1,1,0]<|Y7 fl) ?_;rintro m F h ⟨k,v,Ye,rfl,rfl,rfl⟩;refine Yh 3 [2]<|iw (U1 n.2) (Y4 ((k:Int)<(n.2.length:Int)) (fun Za=>?_) fun Za=>?_)
 .refine ak<|aq<|ab 1<|Zt 3 [2] ?_;obtain ⟨x1,Z3⟩:=Zs n.2 k om;have hrm:=Y0 Z3;have hbz:=hz.body _ hrm;have hpl:=hn.params_at Z3;have hll:=hn.lent_at Z3;have hww:=hwb _ hrm;exact Zo (Zl none (k:Int) 5<|WG Z3)<|Z1 1 (iA [nl,nl,.i 0,nl,.i 0] fun b4=>ZD 0 b4 (Qg x1)<|ie<|aE 15<|ZJ 7 15 [0,1,2,3,4,5,6,7] [1,0,3,0,0]<|dw 8 (Yg x1.1)<|Z9 9<|Yu 9 [] [0,1] [b4,b3] (Zlz n x1.4 x1.1.length (hw:=hww))<|Z9 10<|Yu 10 [] [1] [b3] (Dm x1<|Vw n.1 x1.1.length x1.4)<|Z9 11 (dL 11 [1] [b3] (YS [Y9.mk x1.1 x1.2 x1.result (Vw n.1 x1.1.length x1.4)]) 1 5 fun v2=>Yw 3 3 [] [(34,KV [Y9.mk x1.1 x1.2 x1.result (Vw n.1 x1.1.length x1.4)])]<|Z9 12 (dp 12 5 [] [] (YS<|(n.2.take (k+1)).map<|Cx n.1) (YS<|(n.2.take k).map<|Cx n.1) (YS [Y9.mk x1.1 x1.2 x1.result (Vw n.1 x1.1.length x1.4)]) v none 5 (T2 _) (T2 _) (Bj _) (by simp<;>omega) (by rw [WO Z3];simp [YS,Cx]) fun v3=>Zi 1 2 [13]<|Z9 14<|YO 14 3 [] [] b3 [ZQ n.1,WJ ((n.2.take (k+1)).map<|Cx n.1) v3]<|de<|az<|Z1 1<|ZI k<|Z0<|ZK ⟨k+1,v3,ob,rfl,rfl,rfl⟩<|wk [0,3,3,0]<|ZM k fl)))
 exact ax 0<|Zt 1 [0]<|ZD 1 b2 [ZQ n.1,WJ ((n.2.take k).map<|Cx n.1) v]<|ie<|ZC<|r3 [] [.agg [ZQ n.1,WJ ((n.2.take k).map<|Cx n.1) v]] [0] [(b2,b2)] ⟨rfl,rfl⟩<|Zd.agg<|.cons (Zd.sl _<|Ys YF ob)<|.cons (Zd.sl _<|Ys YS<|by rw [Vc om];rfl) .nil
def Zd5 (n:Zm) (hn:YZ n:=by exact ob) (hz:WF n:=by exact ob) (hwb:∀r∈n.2,wB n.1 r.4) (hnr:∀r∈n.2,T9 r.4):Zj 27 [Yq n] [] (Yr<|Yq<|Va n):=by
 have hzl:=hn.len;refine ZF 38 Tryz.func27<|ar (iA (YI n) fun b1=>iA [nl,nl] fun b2=>ie<|Zt 2 [1]<|Zx [] (Cy n.1 (hd:=hn.decls)) (iL (YS []) 0 5 fun v1=>Z1 1 (iA [nl,nl] fun b3=>?_)));refine ZD 0 b3 [ZQ n.1,WJ [] v1]<|ie<|Yj<|ab 0<|Y2 (fun fz gz m F h=>∃(k:Nat) (v:Value),(k<=n.2.length)/\F=sF [1,2,3] fz [(4,.i k)]/\h=[.obj b3 [ZQ n.1,WJ ((n.2.take k).map<|VM n.1) v],Ze gz 2,Ze gz 3,.tail v 5]/\m=n.2.length-k) _ _ _ ⟨0,v1,ob,U,U,U⟩ (wk [0,1,1,0]<|Y7 fl) ?_;rintro m F h ⟨k,v,Ye,rfl,rfl,rfl⟩;refine Yh 3 [2]<|iw (U1 n.2) (Y4 ((k:Int)<(n.2.length:Int)) (fun Za=>?_) fun Za=>?_)
 .refine ak<|aq<|ab 1<|aE 21<|ZJ 16 21 [0,1,2,3,4] [0,2] ?_;obtain ⟨x1,Z3⟩:=Zs n.2 k om;have hrm:=Y0 Z3;have hbz:=hz.body _ hrm;have hpl:=hn.params_at Z3;have hll:=hn.lent_at Z3;have hww:=hwb _ hrm;exact dx 5 (Zl none (k:Int) 5<|WG Z3)<|ZJ 10 15 [6,7,8,9,10] [2,2]<|dx 11 (Zl none (k:Int) 5<|WG Z3)<|Zi 7 9 [12,13]<|Z9 14 (dL 14 [2,2,2,0] [b1,b1,b1,b3] (Z7 []) 0 1 fun v2=>Yw 6 6 [] [(31,Z5 [])]<|Z9 15<|Yu 15 [] [2,0] [b1,b3] (Z4e n x1.4 [] (hw:=hww) (hn2:=(Cl<|hnr _ hrm)))<|Z9 16<|Yu 16 [] [0] [b3] (Dm x1<|ruB n.1 [] x1.4)<|Z9 17 (dL 17 [0] [b3] (YS [Y9.mk x1.1 x1.2 x1.result (ruB n.1 [] x1.4)]) 1 5 fun v3=>Yw 3 3 [] [(34,KV [Y9.mk x1.1 x1.2 x1.result (ruB n.1 [] x1.4)])]<|Z9 18 (dp 18 5 [] [] (YS<|(n.2.take (k+1)).map<|VM n.1) (YS<|(n.2.take k).map<|VM n.1) (YS [Y9.mk x1.1 x1.2 x1.result (ruB n.1 [] x1.4)]) v none 5 (T2 _) (T2 _) (Bj _) (by simp<;>omega) (by rw [WO Z3];simp [YS,VM]) fun v4=>Zi 1 2 [19]<|Z9 20<|YO 20 3 [] [] b3 [ZQ n.1,WJ ((n.2.take (k+1)).map<|VM n.1) v4]<|de<|az<|Z1 1<|ZI k<|Z0<|ZK ⟨k+1,v4,ob,rfl,rfl,rfl⟩<|wk [0,3,3,0]<|ZM k fl)))
 exact ax 0<|Zt 1 [0]<|ZD 1 b2 [ZQ n.1,WJ ((n.2.take k).map<|VM n.1) v]<|ie<|ZC<|r3 [] [.agg [ZQ n.1,WJ ((n.2.take k).map<|VM n.1) v]] [0] [(b2,b2)] ⟨rfl,rfl⟩<|Zd.agg<|.cons (Zd.sl _<|Ys YF ob)<|.cons (Zd.sl _<|Ys YS<|by rw [Vc om];rfl) .nil
def Zd4 (rd:Nat) (bs:LI) (p:Nat) (ZO:∀z∈bs,0<=z/\z<=255) (hp:p+400001<=1000000000:=by exact ob):Zj 40 [.p rd 0] [YD rd bs p] (fun r h=>∃(n:Zm) (p2:Nat),r=Yq n/\h=[YD rd bs p2]/\FO n 181 Vd/\p<=p2/\p2<=p+400001):=by
 refine ZF 13 Tryz.func40<|ar (iA [nl,nl] fun b1=>ie<|Y5 1<|ic [1] (Zcb rd bs p (ZO:=ob)) ?_);rintro _ _ ⟨g1,p21,rfl,rfl,ZX⟩;have KP:=ZX;refine ic [] (Zcw g1 (hg:=KP.1)) ?_;rintro _ _ ⟨n1,rfl,rfl,Yf⟩;have hnm:=Yf;refine iA [nl,nl] fun b2=>ZD 0 b2 (YI n1)<|ie<|YE 1<|ic [1] (Wm rd bs p21 3 (ZO:=ob)) ?_
 rintro _ _ ⟨k1,rfl,rfl,YK⟩;refine YH (k1==0) Zq (fun Za=>?_) fun Za=>?_
 .refine Zt 1 [1]<|ic [] (Zcm n1 181 (hn:=hnm)) ?_;rintro _ _ ⟨n21,rfl,rfl,YW⟩;have hlm:=YW;exact ZD 2 b1 (YI n21)<|ie<|ZC<|r3 [1] [Yq n21] [0] [(b1,b1)] ⟨n21,p21+1,rfl,rfl,(by first|exact ⟨hlm,by omega,by omega⟩|exact ⟨hnm,by omega,by omega⟩)⟩<|lr _
 exact ak<|Zt 1 [1]<|ZD 2 b1 (YI n1)<|ie<|ZC<|r3 [1] [Yq n1] [0] [(b1,b1)] ⟨n1,p21+1,rfl,rfl,(by first|exact ⟨hlm,by omega,by omega⟩|exact ⟨hnm,by omega,by omega⟩)⟩<|lr _
def RS (rd:Nat) (bs:LI) (p:Nat) (ZO:∀z∈bs,0<=z/\z<=255) (hp:p+400002<=1000000000:=by exact ob):Zj 16 [.p rd 0] [YD rd bs p] (fun r h=>∃(n:Zm) (p2:Nat),r=Yq n/\h=[YD rd bs p2]/\FO n 814510 Ub/\p<=p2/\p2<=p+400002):=by
 refine ZF 15 Tryz.func16<|ar (iA [nl,nl] fun b1=>ie<|Y5 1<|ic [1] (Zd4 rd bs p (ZO:=ob)) ?_);rintro _ _ ⟨n1,p21,rfl,rfl,ZX⟩;have hpf:=ZX;refine iA [nl,nl] fun b2=>ZD 0 b2 (YI n1)<|ie<|Zt 1 [0]<|ic [] (Zc5 n1 181 (hn:=hpf.1)) ?_
 rintro _ _ ⟨n21,rfl,rfl,Yf⟩;have hcf:=FO.le Yf (show 4500*181+10<=814510 by omega);refine iA [nl,nl] fun b3=>ZD 0 b3 (YI n21) (ie (YE 1 (ic [2] (Wm rd bs p21 4 (ZO:=ob)) ?_)))
 rintro _ _ ⟨k1,rfl,rfl,YK⟩;refine YH (k1==0) Zq (fun Za=>?_) fun Za=>?_
 .refine az<|ZL 1 [2]<|ic [] (Zcf n1 181 (hn:=hpf.1)) ?_;rintro _ _ ⟨n22,rfl,rfl,YW⟩;have hlf:=FO.le YW (show 60*181<=814510 by omega);exact ZD 1 b3 (YI n22)<|ie<|Zt 1 [0]<|ZD 3 b1 (YI n22)<|ie<|ZC<|r3 [2] [Yq n22] [0] [(b1,b1)] ⟨n22,p21+1,rfl,rfl,(by first|exact ⟨hlf,by omega,by omega⟩|exact ⟨hcf,by omega,by omega⟩)⟩<|lr _
 exact ak<|Zt 1 [1]<|ZD 3 b1 (YI n21)<|ie<|ZC<|r3 [1] [Yq n21] [0] [(b1,b1)] ⟨n21,p21+1,rfl,rfl,(by first|exact ⟨hlf,by omega,by omega⟩|exact ⟨hcf,by omega,by omega⟩)⟩<|lr _
def Zbo (rd:Nat) (bs:LI) (p:Nat) (ZO:∀z∈bs,0<=z/\z<=255) (hp:p+400030<=1000000000:=by exact ob):Zj 36 [.p rd 0] [YD rd bs p] (fun r h=>∃(n:Zm) (p2:Nat),r=Yq n/\h=[YD rd bs p2]/\ZN n 7330630/\p<=p2/\p2<=p+400030):=by
 refine ZF 35 Tryz.func36<|ar (iA [nl,nl] fun b1=>ie<|Y5 1<|ic [1] (RS rd bs p (ZO:=ob)) ?_);rintro _ _ ⟨n1,p21,rfl,rfl,ZX⟩;have hcf:=FO.le ZX.1 (show 814510<=814514 by omega);have hcp:=ZX;refine iA [nl,nl] fun b2=>ZD 0 b2 (YI n1)<|ie<|YE 1<|ic [1] (Wm rd bs p21 4 (ZO:=ob)) ?_
 rintro _ _ ⟨k1,rfl,rfl,Yf⟩;refine Z0 (XY (fun fz gz F h=>∃(na:Zm) (pa:Nat),(FO na 814514 Ub)/\(p<=pa/\pa<=p+400010)/\F=sF [0,2,3] fz []/\h=[YD rd bs pa,.obj b2 (YI na),Ze gz 2]) ?_ ?_)
 .refine ac (k1==0) Zq (fun Za=>?_) fun Za=>?_
  .refine az<|ZL 2 [1]<|ic [0] (Mc rd bs (p21+1) n1 (ZO:=ob) (hz:=(by first|exact (FO.zn hcp.1).sz om|exact KS.sz om)) (hl1:=(by first|(have:=hcp.1.fn.len;omega)|(have:=KS.len;omega)))) ?_;rintro _ _ ⟨n21,p22,rfl,rfl,YK⟩;have hho:=YK;exact ZD 1 b2 (YI n21)<|ie<|ZU ⟨n21,p22,(FO.held hcp.1 hho.1),ob,U,U⟩<|wk [1,0,0] fl
  exact ak<|ZU ⟨n1,p21+1,hcf,ob,U,U⟩<|ZH 3 fl
 rintro F h ⟨na,pa,JY,Mz,rfl,rfl⟩;refine YE 1 (ic [0] (Wm rd bs pa 4 (ZO:=ob)) ?_);rintro _ _ ⟨k2,rfl,rfl,YW⟩;refine Z0 (XY (fun fz gz F h=>∃(nb:Zm) (pb:Nat),(FO nb 814514 Ub)/\(p<=pb/\pb<=p+400012)/\F=sF [0,2,3] fz []/\h=[YD rd bs pb,.obj b2 (YI nb),Ze gz 2]) ?_ ?_)
 .refine ac (k2==0) Zq (fun Zf=>?_) fun Zf=>?_
  .refine az<|ZL 1 [1]<|ic [] (Zbu na 814514 (hn:=JY)) ?_;rintro _ _ ⟨n22,rfl,rfl,Xl⟩;have hca:=Xl;exact ZD 1 b2 (YI n22)<|ie<|ZU ⟨n22,pa+1,hca,ob,U,U⟩<|wk [1,0,0] fl
  exact ak<|ZU ⟨na,pa+1,JY,ob,U,U⟩<|ZH 3 fl
 rintro F h ⟨nb,pb,UC,BB,rfl,rfl⟩;refine Y5 1 (ic [0] (Wm rd bs pb 3 (ZO:=ob)) ?_);rintro _ _ ⟨k3,rfl,rfl,XS⟩;refine Z0 (Yj (XY (fun fz gz F h=>∃(nc:Zm) (pc:Nat),(ZN nc 7330626)/\(k3>1->WN nc 7330626)/\(p<=pc/\pc<=p+400014)/\F=sF [0,2,3,4] fz []/\h=[YD rd bs pc,.obj b2 (YI nc),Ze gz 2]) ?_ ?_))
 .refine XK (k3>0) (fun ZA=>?_) fun ZA=>?_
  .exact az<|ZL 1 [1]<|Zx [] (S3 nb (hn:=UC.fn.ok) (hz:=(UC.zn.sz om)) (hwb:=(fun r hr=>(UC.wl om r hr).w)))<|ZD 1 b2 (YI<|Dl nb)<|ie<|ZU ⟨(Dl nb),pb+1,((UC.wn om).sp.zn),(fun _=>(UC.wn om).sp),ob,U,U⟩<|wk [1,0,0] fl
  exact ak<|ZU ⟨nb,pb+1,(UC.zn.le om),(fun h=>by omega),ob,rfl,rfl⟩<|ZH 3 fl
 rintro F h ⟨nc,pc,Ea,Eb,SG,rfl,rfl⟩;refine Yj (XY (fun fz gz F h=>∃(nd:Zm) (pd:Nat),(ZN nd 7330626)/\(p<=pd/\pd<=p+400014)/\F=sF [0,2,3] fz []/\h=[YD rd bs pd,.obj b2 (YI nd),Ze gz 2]) ?_ ?_)
 .refine XK (k3>1) (fun Ym=>?_) fun Ym=>?_
  .exact az<|ZL 1 [1]<|Zx [] (Zd5 nc (hn:=(Eb<|by assumption).ok) (hz:=(Ea.sz om)) (hwb:=(fun r hr=>((Eb<|by assumption).wl r hr).w)) (hnr:=(fun r hr=>((Eb<|by assumption).wl r hr).nr)))<|ZD 1 b2 (YI<|Va nc)<|ie<|ZU ⟨(Va nc),pc,(Eb<|by assumption).ru,ob,rfl,rfl⟩<|wk [1,0,0] fl
  exact ak<|ZU ⟨nc,pc,Ea,ob,U,U⟩<|ZH 3 fl
 rintro F h ⟨nd,pd,KS,Zfr,rfl,rfl⟩;refine YE 1 (ic [0] (Wm rd bs pd 6 (ZO:=ob)) ?_);rintro _ _ ⟨k4,rfl,rfl,Wv⟩;refine YH (k4==0) Zq (fun Xm=>?_) fun Xm=>?_
 .refine az<|ZL 2 [1]<|ic [0] (Mc rd bs (pd+1) nd (ZO:=ob) (hz:=(by first|exact (FO.zn hcp.1).sz om|exact KS.sz om)) (hl1:=(by first|(have:=hcp.1.fn.len;omega)|(have:=KS.len;omega)))) ?_;rintro _ _ ⟨n23,p23,rfl,rfl,WS⟩;have hho:=WS;exact ZD 1 b2 (YI n23)<|ie<|Zt 1 [0]<|ZD 2 b1 (YI n23)<|ie<|ZC<|r3 [2] [Yq n23] [0] [(b1,b1)] ⟨n23,p23,rfl,rfl,(by first|exact ⟨KS.held hho.1,by omega,by omega⟩|exact ⟨KS.le om,by omega,by omega⟩)⟩<|lr _
 exact ak<|Zt 1 [1]<|ZD 2 b1 (YI nd)<|ie<|ZC<|r3 [1] [Yq nd] [0] [(b1,b1)] ⟨nd,pd+1,rfl,rfl,(by first|exact ⟨KS.held hho.1,by omega,by omega⟩|exact ⟨KS.le om,by omega,by omega⟩)⟩<|lr _
def Zdb (rd:Nat) (bs:LI) (p:Nat) (xs:LI) (ZO:∀z∈bs,0<=z/\z<=255) (hp:p+3<=1000000000:=by exact ob) (hl:xs.length<=1000000:=by exact ob):Zj 48 [.p rd 0,Z5 xs] [YD rd bs p] (fun r h=>∃(zs:LI) (p2:Nat),r=Z5 zs/\h=[YD rd bs p2]/\zs.length<=xs.length+1/\p<=p2/\p2<=p+3):=by
 refine ZF 32 Tryz.func48<|ZB<|Y5 1<|ic [] (BO xs) ?_;rintro _ _ ⟨v1,rfl,rfl⟩;refine Z0<|YE 1<|Zo (Aa 0 v1 xs)<|Z1 2 (ib (b:=(decide ((xs.length:Int)>0))) 11 (fun Zb=>?_) fun Zb=>?_)
 .have ZX:(xs.length:Int)>0:=(dq).1 Zb;refine Z1 1<|ic [1] (Wm rd bs p 2 (ZO:=ob)) ?_;rintro _ _ ⟨k1,rfl,rfl,Yf⟩;refine YH (k1==0) Zq (fun Za=>?_) fun Za=>?_
  .refine Y5 3<|Zo (Aa 1 v1 xs)<|ic [0] (AO rd bs (p+1) xs.length (ZO:=ob)) ?_;rintro _ _ ⟨YQ,rfl,rfl,YK⟩;refine Z1 1 (iL (Z7 [0,1,-1,7,1000,1001]) 6 1 fun v2=>ZY 0 [(22,Z5 [0,1,-1,7,1000,1001])]<|ic [1] (UB rd bs ((p+1)+1) [0,1,-1,7,1000,1001] (ZO:=ob)) ?_);rintro _ _ ⟨z1,rfl,rfl,YW⟩;exact Zo (Wg 2 v1 xs (YQ:Int) YQ)<|D9 2 v1 xs YQ z1<|ie<|ZB<|Gk 4 0 (v:=v1) (xs:=(xs.set YQ z1))<|ZC<|r2 [1] [ZT (xs.set YQ z1) v1.v] ⟨(xs.set YQ z1),((p+1)+1)+1,rfl,rfl,⟨by simp,by omega,by omega⟩⟩<|Zd.forget _ _
  refine ak<|Y5 2 (iL (Z7 [0,1,2,-1,1000]) 5 1 fun v3=>ZY 0 [(28,Z5 [0,1,2,-1,1000])]<|ic [1] (UB rd bs (p+1) [0,1,2,-1,1000] (ZO:=ob)) ?_);rintro _ _ ⟨z2,rfl,rfl,Xl⟩;exact iL (Z7 [z2]) 1 1 fun v4=>ZY 0 [(30,Z5 [z2])] (KR 3 v1 xs [z2] none fun v5=>Z0<|Gk 4 0 (v:=v5) (xs:=(xs++[z2]))<|ZC<|r2 [2] [ZT (xs++[z2]) v5.v] ⟨(xs++[z2]),(p+1)+1,rfl,rfl,⟨by simp,by omega,by omega⟩⟩<|Zd.forget _ _)
 have XS:¬((xs.length:Int)>0):=Y8 dq Zb;refine Z0<|Ww<|ak<|Y5 2 (iL (Z7 [0,1,2,-1,1000]) 5 1 fun v6=>ZY 0 [(28,Z5 [0,1,2,-1,1000])]<|ic [2] (UB rd bs p [0,1,2,-1,1000] (ZO:=ob)) ?_);rintro _ _ ⟨z3,rfl,rfl,Wv⟩;exact iL (Z7 [z3]) 1 1 fun v7=>ZY 0 [(30,Z5 [z3])] (KR 3 v1 xs [z3] none fun v8=>Z0<|Gk 4 0 (v:=v8) (xs:=(xs++[z3]))<|ZC<|r2 [2] [ZT (xs++[z3]) v8.v] ⟨(xs++[z3]),p+1,rfl,rfl,⟨by simp,by omega,by omega⟩⟩<|Zd.forget _ _)
def Z92 (s:Z4) (hz:s.sz<=1000000000:=by exact ob):Zj 138 [YL s] [] (fun r h=>∃(v:Hd),r=.agg [.i s.op,.i s.num,.i s.into,.h v,W4 s.kids]/\h=[rV v s.args]):=by
 have hkz:=T6 s;have haz:=Qw s;refine ZF 33 Tryz.func138<|ar (iA (Xp s) fun b1=>iA [.i 0,.i 0,.i 0,nl,nl] fun b2=>ie<|ar (iL (YP []) 0 2 fun v1=>?_));refine Z0<|Yj<|ab 0<|Y2 (fun fz gz m F h=>∃(k:Nat) (v:Value),(k<=s.kids.length)/\F=sF [1,2] fz [(3,Q2 (s.kids.take k) v),(4,.i k)]/\h=[Ze gz 1,Ze gz 2,.tail v 2]/\m=s.kids.length-k) _ _ _ ⟨0,v1,ob,U,U,U⟩ (wk [1,1,0]<|fc (x:=Q2 [] v1) (Zd.slh _<|Ys YP rfl)<|Y7 fl) ?_;rintro m F h ⟨k,v,Ye,rfl,rfl,rfl⟩;refine Yh 3 [1]<|iw (U0 s.kids) (Y4 ((k:Int)<(s.kids.length:Int)) (fun Za=>?_) fun Za=>?_)
 .refine ak<|aq<|ab 1<|az<|ZL 4 [1] ?_;obtain ⟨x1,Z3⟩:=Zs s.kids k om;have hks:=T5 Z3;exact Zo (Zl none (k:Int) 2<|Ux Z3)<|Z1 1<|Zx [] (Ie x1) (iL [ZV x1] 1 2 fun v2=>ZY 0 [(20,.sl [ZV x1] none)] (ip 3 (YP<|s.kids.take (k+1)) (YP<|s.kids.take k) [ZV x1] v none 2 (Qy _) (Qh rfl) rfl (by simp<;>omega) (by rw [WO Z3];simp [TR]) fun v3=>Z0<|az<|Z1 1<|ZI k<|Z0<|ZK ⟨k+1,v3,ob,rfl,rfl,rfl⟩<|wk [2,2,0]<|fr<|ZM k fl))
 refine ax 0<|aD 12<|ZJ 3 12 [0,1,2,3,4,5,6,7,9] [1,1,1,1]<|Z9 8<|dc 8 [] [1,1,1] [b1,b1,b1] (BO s.args) ?_;rintro _ _ ⟨v4,rfl,rfl⟩;exact Zi 1 2 [10]<|Z9 11<|YO 11 1 [] [] b2 [.i s.op,.i s.num,.i s.into,.h v4,Q2 (s.kids.take k) v]<|de<|ZC<|r3 [1] [.agg [.i s.op,.i s.num,.i s.into,.h v4,Q2 (s.kids.take k) v]] [0] [(b2,b2)] ⟨v4,rfl,rfl⟩<|Zd.agg<|.cons (lr _)<|.cons (lr _)<|.cons (lr _)<|.cons (lr _)<|.cons (Zd.sl _<|Ys YP<|by rw [Vc om]) .nil
def S4 (rd:Nat) (bs:LI) (p:Nat) (s:Z4) (ZO:∀z∈bs,0<=z/\z<=255) (hp:p+3<=1000000000:=by exact ob) (hz:s.sz<=100000000:=by exact ob) (hg:s.rgb:=by exact ob):Zj 92 [.p rd 0,YL s] [YD rd bs p] (fun r h=>∃(y:Z4) (p2:Nat),r=YL y/\h=[YD rd bs p2]/\UI s y/\p<=p2/\p2<=p+3):=by
 have haz:=Qw s;have hkz:=T6 s;refine ZF 66 Tryz.func92<|ar (iA (Xp s) fun b1=>iA [.i 0,.i 0,.i 0,nl,nl] fun b2=>ie<|Zt 1 [1]<|ic [] (Z92 s) ?_);rintro _ _ ⟨v1,rfl,rfl⟩;refine iA [.i 0,.i 0,.i 0,nl,nl] fun b3=>ZD 0 b3 [.i s.op,.i s.num,.i s.into,.h v1,W4 s.kids]<|ie<|YE 1<|ic [4] (Wm rd bs p 6 (ZO:=ob)) ?_
 rintro _ _ ⟨k1,rfl,rfl,ZX⟩;refine ie (ab 0 (ar (YH (k1==0) Zq (fun Za=>?_) fun Za=>?_)))
 .refine az<|Z1 1 (iL (Z7 [14,15,16,17,6,9,12,0,1]) 9 1 fun v2=>ZY 0 [(13,Z5 [14,15,16,17,6,9,12,0,1])]<|ic [1] (UB rd bs (p+1) [14,15,16,17,6,9,12,0,1] (ZO:=ob)) ?_);rintro _ _ ⟨z1,rfl,rfl,Yf⟩;have hon:=Yf;exact Z1 1<|ZD 2 b3 [.i z1,.i s.num,.i s.into,.h v1,W4 s.kids]<|ie<|ar<|W8 (AY 3 v1 s.args)<|W8 (TI 0 0 3 v1.v 1 b3 (Z7 s.args) [.i z1,.i s.num,.i s.into,.h v1,W4 s.kids] (YJ _) rfl)<|ZL 1 [0]<|ZD 4 b2 [.i z1,.i s.num,.i s.into,ZT s.args v1.v,W4 s.kids]<|ie<|ZC<|r3 [3] [.agg [.i z1,.i s.num,.i s.into,ZT s.args v1.v,W4 s.kids]] [0] [(b2,b2)] ⟨(Z4.mk z1 s.num s.into s.args s.kids),(p+1)+1,rfl,rfl,⟨by first|exact UI.refl hg|exact UI.of hg (by first|exact .inl rfl|exact .inr hon) (by first|exact Nat.le_succ _|(simp<;>omega)) (by first|exact .inl rfl|exact .inr rfl),by omega,by omega⟩⟩<|Zd.agg<|.cons (lr _)<|.cons (lr _)<|.cons (lr _)<|.cons (Zd.forget _ _)<|.cons (lr _) .nil
 refine ar (YH (k1==1) Zq (fun Zf=>?_) fun Zf=>?_)
 .refine az<|Z1 1 (iL (Z7 [0,1,2,3,-1,1000]) 6 1 fun v3=>ZY 0 [(19,Z5 [0,1,2,3,-1,1000])]<|ic [1] (UB rd bs (p+1) [0,1,2,3,-1,1000] (ZO:=ob)) ?_);rintro _ _ ⟨z2,rfl,rfl,YK⟩;have hon:=YK;exact Z1 1<|ZD 2 b3 [.i s.op,.i z2,.i s.into,.h v1,W4 s.kids]<|ie<|ar<|W8 (AY 3 v1 s.args)<|W8 (TI 0 0 3 v1.v 1 b3 (Z7 s.args) [.i s.op,.i z2,.i s.into,.h v1,W4 s.kids] (YJ _) rfl)<|ZL 1 [0]<|ZD 4 b2 [.i s.op,.i z2,.i s.into,ZT s.args v1.v,W4 s.kids]<|ie<|ZC<|r3 [3] [.agg [.i s.op,.i z2,.i s.into,ZT s.args v1.v,W4 s.kids]] [0] [(b2,b2)] ⟨(Z4.mk s.op z2 s.into s.args s.kids),(p+1)+1,rfl,rfl,⟨by first|exact UI.refl hg|exact UI.of hg (by first|exact .inl rfl|exact .inr hon) (by first|exact Nat.le_succ _|(simp<;>omega)) (by first|exact .inl rfl|exact .inr rfl),by omega,by omega⟩⟩<|Zd.agg<|.cons (lr _)<|.cons (lr _)<|.cons (lr _)<|.cons (Zd.forget _ _)<|.cons (lr _) .nil
 refine ar (YH (k1==2) Zq (fun ZA=>?_) fun ZA=>?_)
 .refine az<|Z1 1 (iL (Z7 [1,2,0,-1,90]) 5 1 fun v4=>ZY 0 [(25,Z5 [1,2,0,-1,90])]<|ic [1] (UB rd bs (p+1) [1,2,0,-1,90] (ZO:=ob)) ?_);rintro _ _ ⟨z3,rfl,rfl,YW⟩;have hon:=YW;exact Z1 1<|ZD 2 b3 [.i s.op,.i s.num,.i z3,.h v1,W4 s.kids]<|ie<|ar<|W8 (AY 3 v1 s.args)<|W8 (TI 0 0 3 v1.v 1 b3 (Z7 s.args) [.i s.op,.i s.num,.i z3,.h v1,W4 s.kids] (YJ _) rfl)<|ZL 1 [0]<|ZD 4 b2 [.i s.op,.i s.num,.i z3,ZT s.args v1.v,W4 s.kids]<|ie<|ZC<|r3 [3] [.agg [.i s.op,.i s.num,.i z3,ZT s.args v1.v,W4 s.kids]] [0] [(b2,b2)] ⟨(Z4.mk s.op s.num z3 s.args s.kids),(p+1)+1,rfl,rfl,⟨by first|exact UI.refl hg|exact UI.of hg (by first|exact .inl rfl|exact .inr hon) (by first|exact Nat.le_succ _|(simp<;>omega)) (by first|exact .inl rfl|exact .inr rfl),by omega,by omega⟩⟩<|Zd.agg<|.cons (lr _)<|.cons (lr _)<|.cons (lr _)<|.cons (Zd.forget _ _)<|.cons (lr _) .nil
 refine ar (YH (k1==3) Zq (fun Ym=>?_) fun Ym=>?_)
 .refine aE 9<|ZJ 6 9 [0,1,2] [1]<|Z9 3 (dL 3 [1] [b3] (Z7 [0,1,-1]) 3 1 fun v5=>Yw 5 5 [] [(33,Z5 [0,1,-1])]<|Z9 4<|dc 4 [1] [0] [b3] (UB rd bs (p+1) [0,1,-1] (ZO:=ob)) ?_);rintro _ _ ⟨z4,rfl,rfl,Xl⟩;have hon:=Xl;exact Z9 5 (dL 5 [1] [b3] (Z7 [z4]) 1 1 fun v6=>Yw 3 3 [] [(35,Z5 [z4])]<|Z9 6 (dVP 6 4 [] [] v1 s.args [z4] none fun v7=>Zi 1 2 [7]<|Z9 8<|YO 8 4 [] [] b3 [.i s.op,.i s.num,.i s.into,.h v7,W4 s.kids]<|de<|ar<|W8 (AY 1 v7 (s.args++[z4]))<|W8 (TI 0 0 3 v7.v 1 b3 (Z7 (s.args++[z4])) [.i s.op,.i s.num,.i s.into,.h v7,W4 s.kids] (YJ _) rfl)<|ZL 1 [0]<|ZD 5 b2 [.i s.op,.i s.num,.i s.into,ZT (s.args++[z4]) v7.v,W4 s.kids]<|ie<|ZC<|r3 [4] [.agg [.i s.op,.i s.num,.i s.into,ZT (s.args++[z4]) v7.v,W4 s.kids]] [0] [(b2,b2)] ⟨(Z4.mk s.op s.num s.into (s.args++[z4]) s.kids),(p+1)+1,rfl,rfl,⟨by first|exact UI.refl hg|exact UI.of hg (by first|exact .inl rfl|exact .inr hon) (by first|exact Nat.le_succ _|(simp<;>omega)) (by first|exact .inl rfl|exact .inr rfl),by omega,by omega⟩⟩<|Zd.agg<|.cons (lr _)<|.cons (lr _)<|.cons (lr _)<|.cons (Zd.forget _ _)<|.cons (lr _) .nil))
 refine ar (YH (k1==4) Zq (fun Xm=>?_) fun Xm=>?_)
 .refine Zt 2 [1]<|Zo (Aa 2 v1 s.args) (Y4 ((s.args.length:Int)>0) (fun Xs=>?_) fun Xs=>?_)
  .refine aE 12<|ZJ 7 12 [0,1,2,3,4] [1,1]<|dx 5 (Aa 2 v1 s.args)<|Zi 5 6 [7]<|VR 6 8 ?_ ?_
   .refine dc 6 [0] [0] [b3] (AO rd bs (p+1) s.args.length (ZO:=ob)) ?_;rintro _ _ ⟨YQ,rfl,rfl,XS⟩;refine Z9 8 (dL 8 [1] [b3] (Z7 [0,1,2,3,-1,99]) 6 1 fun v8=>Yw 3 3 [] [(52,Z5 [0,1,2,3,-1,99])]<|Z9 9<|dc 9 [1] [0] [b3] (UB rd bs ((p+1)+1) [0,1,2,3,-1,99] (ZO:=ob)) ?_);rintro _ _ ⟨z5,rfl,rfl,Wv⟩;have hon:=Wv;exact dx 10 (Wg 3 v1 s.args (YQ:Int) YQ)<|Z9 11<|Al 11 3 [] [] v1 s.args YQ z5<|de<|ar<|W8 (AY 0 v1<|s.args.set YQ z5)<|W8 (TI 0 2 3 v1.v 1 b3 (Z7<|s.args.set YQ z5) [.i s.op,.i s.num,.i s.into,.h v1,W4 s.kids] (YJ _) rfl)<|ZL 1 [0]<|ZD 4 b2 [.i s.op,.i s.num,.i s.into,ZT (s.args.set YQ z5) v1.v,W4 s.kids]<|ie<|ZC<|r3 [3] [.agg [.i s.op,.i s.num,.i s.into,ZT (s.args.set YQ z5) v1.v,W4 s.kids]] [0] [(b2,b2)] ⟨(Z4.mk s.op s.num s.into (s.args.set YQ z5) s.kids),((p+1)+1)+1,rfl,rfl,⟨by first|exact UI.refl hg|exact UI.of hg (by first|exact .inl rfl|exact .inr hon) (by first|exact Nat.le_succ _|(simp<;>omega)) (by first|exact .inl rfl|exact .inr rfl),by omega,by omega⟩⟩<|Zd.agg<|.cons (lr _)<|.cons (lr _)<|.cons (lr _)<|.cons (Zd.forget _ _)<|.cons (lr _) .nil
   refine dL 8 [1,1] [b3,b3] (Z7 [0,1,2,3,-1,99]) 6 1 fun v9=>Z9 6<|dc 6 [1] [0] [b3] (AO rd bs (p+1) s.args.length (ZO:=ob)) ?_
   rintro _ _ ⟨Xd,rfl,rfl,WS⟩;refine Yw 3 3 [] [(52,Z5 [0,1,2,3,-1,99])] (Z9 9 (dc 9 [0] [0] [b3] (UB rd bs ((p+1)+1) [0,1,2,3,-1,99] (ZO:=ob)) ?_));rintro _ _ ⟨z6,rfl,rfl,Vu⟩;have hon:=Vu;exact dx 10 (Wg 3 v1 s.args (Xd:Int) Xd) (Z9 11 (Al 11 3 [] [] v1 s.args Xd z6 (de (ar (W8 (AY 0 v1 (s.args.set Xd z6)) (W8 (TI 0 2 3 v1.v 1 b3 (Z7 (s.args.set Xd z6)) [.i s.op,.i s.num,.i s.into,.h v1,W4 s.kids] (YJ _) rfl) (ZL 1 [0] (ZD 4 b2 [.i s.op,.i s.num,.i s.into,ZT (s.args.set Xd z6) v1.v,W4 s.kids] (ie (ZC (r3 [3] [.agg [.i s.op,.i s.num,.i s.into,ZT (s.args.set Xd z6) v1.v,W4 s.kids]] [0] [(b2,b2)] ⟨(Z4.mk s.op s.num s.into (s.args.set Xd z6) s.kids),((p+1)+1)+1,rfl,rfl,⟨by first|exact UI.refl hg|exact UI.of hg (by first|exact .inl rfl|exact .inr hon) (by first|exact Nat.le_succ _|(simp<;>omega)) (by first|exact .inl rfl|exact .inr rfl),by omega,by omega⟩⟩ (Zd.agg (.cons (lr _) (.cons (lr _) (.cons (lr _) (.cons (Zd.forget _ _) (.cons (lr _) .nil)))))))))))))))))
  exact ak<|ar<|W8 (AY 2 v1 s.args)<|W8 (TI 0 1 3 v1.v 1 b3 (Z7 s.args) [.i s.op,.i s.num,.i s.into,.h v1,W4 s.kids] (YJ _) rfl)<|ZL 1 [0]<|ZD 3 b2 [.i s.op,.i s.num,.i s.into,ZT s.args v1.v,W4 s.kids]<|ie<|ZC<|r3 [3] [.agg [.i s.op,.i s.num,.i s.into,ZT s.args v1.v,W4 s.kids]] [0] [(b2,b2)] ⟨s,p+1,rfl,rfl,⟨by first|exact UI.refl hg|exact UI.of hg (by first|exact .inl rfl|exact .inr hon) (by first|exact Nat.le_succ _|(simp<;>omega)) (by first|exact .inl rfl|exact .inr rfl),by omega,by omega⟩⟩<|Zd.agg<|.cons (lr _)<|.cons (lr _)<|.cons (lr _)<|.cons (Zd.forget _ _)<|.cons (lr _) .nil
 refine ar (YH (k1==5) Zq (fun Ul=>?_) fun Ul=>?_)
 .refine Zt 2 [1]<|iw (U0 s.kids) (Y4 ((s.kids.length:Int)>0) (fun Uc=>?_) fun Uc=>?_)
  .exact az<|ZL 2 [1]<|Zo (JC (es:=YP s.kids) (hv:=none) (l:=1) (m:=(((YP s.kids).length:Nat):Int)) (sz:=2) (es':=YP (s.kids.drop 1)) kr om (by simp<;>omega) (by simp<;>omega) (Qy _)<|by first|(simp only [Ua,VP,Ls,Lr];done)|(simp only [Ua,VP,Ls,Lr];rfl)|(simp [Ls,Lr];done))<|Z1 1<|ZD 1 b3 [.i s.op,.i s.num,.i s.into,.h v1,W4<|s.kids.drop 1]<|ie<|ar<|W8 (AY 2 v1 s.args)<|W8 (TI 0 0 3 v1.v 1 b3 (Z7 s.args) [.i s.op,.i s.num,.i s.into,.h v1,W4<|s.kids.drop 1] (YJ _) rfl)<|ZL 1 [0]<|ZD 3 b2 [.i s.op,.i s.num,.i s.into,ZT s.args v1.v,W4<|s.kids.drop 1]<|ie<|ZC<|r3 [3] [.agg [.i s.op,.i s.num,.i s.into,ZT s.args v1.v,W4<|s.kids.drop 1]] [0] [(b2,b2)] ⟨(Z4.mk s.op s.num s.into s.args<|s.kids.drop 1),p+1,rfl,rfl,⟨by first|exact UI.refl hg|exact UI.of hg (by first|exact .inl rfl|exact .inr hon) (by first|exact Nat.le_succ _|(simp<;>omega)) (by first|exact .inl rfl|exact .inr rfl),by omega,by omega⟩⟩<|Zd.agg<|.cons (lr _)<|.cons (lr _)<|.cons (lr _)<|.cons (Zd.forget _ _)<|.cons (lr _) .nil
  exact ak<|ar<|W8 (AY 2 v1 s.args)<|W8 (TI 0 1 3 v1.v 1 b3 (Z7 s.args) [.i s.op,.i s.num,.i s.into,.h v1,W4 s.kids] (YJ _) rfl)<|ZL 1 [0]<|ZD 3 b2 [.i s.op,.i s.num,.i s.into,ZT s.args v1.v,W4 s.kids]<|ie<|ZC<|r3 [3] [.agg [.i s.op,.i s.num,.i s.into,ZT s.args v1.v,W4 s.kids]] [0] [(b2,b2)] ⟨s,p+1,rfl,rfl,⟨by first|exact UI.refl hg|exact UI.of hg (by first|exact .inl rfl|exact .inr hon) (by first|exact Nat.le_succ _|(simp<;>omega)) (by first|exact .inl rfl|exact .inr rfl),by omega,by omega⟩⟩<|Zd.agg<|.cons (lr _)<|.cons (lr _)<|.cons (lr _)<|.cons (Zd.forget _ _)<|.cons (lr _) .nil
 exact ak<|ar<|W8 (AY 2 v1 s.args)<|W8 (TI 0 1 3 v1.v 1 b3 (Z7 s.args) [.i s.op,.i s.num,.i s.into,.h v1,W4 s.kids] (YJ _) rfl)<|ZL 1 [0]<|ZD 3 b2 [.i s.op,.i s.num,.i s.into,ZT s.args v1.v,W4 s.kids]<|ie<|ZC<|r3 [3] [.agg [.i s.op,.i s.num,.i s.into,ZT s.args v1.v,W4 s.kids]] [0] [(b2,b2)] ⟨s,p+1,rfl,rfl,⟨by first|exact UI.refl hg|exact UI.of hg (by first|exact .inl rfl|exact .inr hon) (by first|exact Nat.le_succ _|(simp<;>omega)) (by first|exact .inl rfl|exact .inr rfl),by omega,by omega⟩⟩<|Zd.agg<|.cons (lr _)<|.cons (lr _)<|.cons (lr _)<|.cons (Zd.forget _ _)<|.cons (lr _) .nil
def Zd1 (rd:Nat) (bs:LI) (p:Nat) (mx:Int) (ZO:∀z∈bs,0<=z/\z<=255) (hp:p+1<=1000000000):Zj 13 [.p rd 0,.i mx] [YD rd bs p] (fun r h=>∃(k:Int),r=.i k/\h=[.obj rd [UD bs,.i (p+1:Nat)]]/\Pk mx k/\k=BI bs p mx):=by
 refine ZF 99 Tryz.func13<|ZB<|Zt 5 [0]<|ZI p<|Z1 2<|ZD 0 rd [UD bs,.i (p+1:Nat)]<|ie<|X6<|Xu [0,1] [(24,.b ((decide (mx<1))||((bs.length:Int)==0)))] (fun gz=>gz) ?_ ?_
 .refine Z1 3 (ib (b:=(decide (mx<1))) 17 (fun Zb=>?_) fun Zb=>?_)
  .exact Z0<|wk [0]<|Zu true Zb fl
  exact ZL 4 [0]<|iw (Jk bs)<|Z0<|wk [0]<|Zu ((bs.length:Int)==0) Zb fl
 refine ac ((decide (mx<1))||((bs.length:Int)==0)) (p:=(mx<1)∨((bs.length:Int)=0)) (Yi dq Zq) (fun Za=>?_) fun Za=>?_
 .exact ar<|Zp<|r1 [0] ⟨0,rfl,rfl,⟨Pk.zero,by rw [BI,Zg om]⟩⟩
 refine ak<|Zt 4 [0]<|ia ((p:Int)) ((((p+1:Nat):Int))-(1))<|Z0<|Yh 5 [0]<|iw (Jk bs) (Y4 ((p:Int)<(bs.length:Int)) (fun Zf=>?_) fun Zf=>?_)
 .refine Zt 5 [0] ?_;obtain ⟨x1,Z3⟩:=Zs bs p om;have hz:=ZO _ (Y0 Z3);exact Zo (Zl none (p:Int) 1<|DN Z3)<|Z1 1<|Zo (Ec x1 om)<|Z1 1<|Zo (Ft x1 mx om om)<|Zp<|r1 [0] ⟨(x1 % mx),rfl,rfl,⟨Pk.rem om om,by rw [BI,Z8 om,Zg om,Z3];rfl⟩⟩
 have hq1:p / bs.length<=p:=Nat.div_le_self _ _;have hq0:(0:Int)<=((p / bs.length:Nat):Int):=Int.natCast_nonneg _;refine ak<|aD 46<|ZJ 37 46 [0,1,2,3,4,5,6,7,8] [0,0]<|dw 9 (Jk bs)<|dx 10 (Hu p bs.length om om) ?_;obtain ⟨x2,Zr⟩:=Zs bs (p % bs.length) (Nat.mod_lt _ om);have hz:=ZO _ (Y0 Zr);have hy2:=Zr;refine dx 11 (Zl none ((p % bs.length:Nat):Int) 1<|DN Zr)<|Zi 33 34 [12]<|dx 13 (Ec x2 om)<|da 14 ((x2*131)) ((x2)*(131))<|ZJ 26 31 [15,16,17,18,19] [0]<|da 20 (((p*7:Nat):Int)) (((p:Int))*(7))<|da 21 (((p*7+3:Nat):Int)) ((((p*7:Nat):Int))+(3))<|ZJ 20 24 [22,23,24,25] [0]<|dw 26 (Jk bs)<|dx 27 (Hu (p*7+3) bs.length om om) ?_;obtain ⟨x3,YG⟩:=Zs bs ((p*7+3) % bs.length) (Nat.mod_lt _ om);have hz3:=ZO _ (Y0 YG);have hy3:=YG;exact dx 28 (Zl none (((p*7+3) % bs.length:Nat):Int) 1<|DN YG)<|Zi 16 17 [29]<|dx 30 (Ec x3 om)<|da 31 ((x3*1117)) ((x3)*(1117))<|da 32 (((x2*131)+(x3*1117))) (((x2*131))+((x3*1117)))<|Zi 12 13 [33]<|da 34 (((p*29:Nat):Int)) (((p:Int))*(29))<|da 35 ((((x2*131)+(x3*1117))+((p*29:Nat):Int))) ((((x2*131)+(x3*1117)))+(((p*29:Nat):Int)))<|ZJ 5 10 [36,37,38,39,40] [0]<|dw 41 (Jk bs)<|dx 42 (Dc p bs.length om om)<|da 43 ((((p / bs.length:Nat):Int)*53)) ((((p / bs.length:Nat):Int))*(53))<|da 44 (((((x2*131)+(x3*1117))+((p*29:Nat):Int))+(((p / bs.length:Nat):Int)*53))) (((((x2*131)+(x3*1117))+((p*29:Nat):Int)))+((((p / bs.length:Nat):Int)*53)))<|Zi 0 1 [45]<|de<|Y5 2<|Zo (MB ((((x2*131)+(x3*1117))+((p*29:Nat):Int))+(((p / bs.length:Nat):Int)*53)) 64 om om)<|Zo (SS ((((x2*131)+(x3*1117))+((p*29:Nat):Int))+(((p / bs.length:Nat):Int)*53)) (((((x2*131)+(x3*1117))+((p*29:Nat):Int))+(((p / bs.length:Nat):Int)*53)) / 64))<|Z0<|Y5 2<|Zo (Ft (BU ((((x2*131)+(x3*1117))+((p*29:Nat):Int))+(((p / bs.length:Nat):Int)*53)) (((((x2*131)+(x3*1117))+((p*29:Nat):Int))+(((p / bs.length:Nat):Int)*53)) / 64)) mx om (Iv ⟨by omega,by omega⟩ ⟨by omega,by omega⟩).1)<|Zp<|r1 [0] ⟨((BU ((((x2*131)+(x3*1117))+((p*29:Nat):Int))+(((p / bs.length:Nat):Int)*53)) (((((x2*131)+(x3*1117))+((p*29:Nat):Int))+(((p / bs.length:Nat):Int)*53)) / 64)) % mx),rfl,rfl,⟨Pk.rem (Iv ⟨by omega,by omega⟩ ⟨by omega,by omega⟩).1 om,by rw [BI,Z8 om,Z8 om,hy2,hy3];rfl⟩⟩
def Zd2 (rd:Nat) (bs:LI) (p mx:Nat) (ZO:∀z∈bs,0<=z/\z<=255) (hp:p+1<=1000000000:=by exact ob) (hmx:0<mx:=by exact ob):Zj 13 [.p rd 0,.i mx] [YD rd bs p] (fun r h=>∃(kn:Nat),r=.i kn/\h=[.obj rd [UD bs,.i (p+1:Nat)]]/\kn<mx/\kn=(BI bs p mx).toNat):=(Zd1 rd bs p mx ZO hp).mono fun r h ⟨z,hr,hh,hz,he⟩=>by
  have h0:=hz.lt om;exact ⟨z.toNat,by rw [hr,Int.toNat_of_nonneg h0.1],hh,by omega,by rw [he]⟩
def Z91 (s:Z4) (hz:s.sz<=1000000000):Zj 138 [YL s] [] (fun r h=>∃(v:Hd),r=.agg [.i s.op,.i s.num,.i s.into,Z5 s.args,.h v]/\h=[rK v 2 (Zc<|YP s.kids)]):=by
 have hkz:=T6 s;have haz:=Qw s;refine ZF 33 Tryz.func138<|ar (iA (Xp s) fun b1=>iA [.i 0,.i 0,.i 0,nl,nl] fun b2=>ie<|ar (By 2 fun g1=>?_));refine Z0<|Yj<|ab 0<|Y2 (fun fz gz m F h=>∃(k:Nat) (v:Hd),(k<=s.kids.length)/\F=sF [1,2] fz [(3,.h v),(4,.i k)]/\h=[Ze gz 1,Ze gz 2,rK v 2<|Zc<|YP<|s.kids.take k]/\m=s.kids.length-k) _ _ _ ⟨0,(⟨some ⟨g1,0,none⟩,0,0⟩:Hd),ob,U,U,U⟩ (wk [1,1,0] (fr<|Y7 fl) (e:=(rc<|rc<|rr (ls:=[]) ob rz))) ?_;rintro m F h ⟨k,v,Ye,rfl,rfl,rfl⟩;refine Yh 3 [1]<|iw (U0 s.kids) (Y4 ((k:Int)<(s.kids.length:Int)) (fun Za=>?_) fun Za=>?_)
 .refine ak<|aq<|ab 1<|az<|ZL 4 [1] ?_;obtain ⟨x1,Z3⟩:=Zs s.kids k om;have hks:=T5 Z3;exact Zo (Zl none (k:Int) 2<|Ux Z3)<|Z1 1<|Zx [] (Ie x1) (iL [ZV x1] 1 2 fun v1=>ZY 0 [(20,.sl [ZV x1] none)] (Hh 3 k v 2 (Zc<|YP<|s.kids.take k) [ZV x1] none (by rw [Fi,WK,Vz om]) (Qh rfl) rfl (List.cons_ne_nil _ _) (by simp<;>omega) fun v2=>Z0<|az<|Z1 1<|ZI k<|Z0<|ZK ⟨k+1,v2,ob,rfl,rfl,rfl⟩<|wk [2,2,0] (fr<|ZM k fl) (e:=(rc<|rc<|rr (ls:=Zc (YP<|s.kids.take k)++Zc [ZV x1]) (Zb5 Z3) rz))))
 refine ax 0<|aD 12<|ZJ 3 12 [0,1,2,3,4,5,6,7,9] [1,1,1,1]<|Z9 8<|dc 8 [] [1,1,1] [b1,b1,b1] (UX s.args) ?_;rintro _ _ ⟨v3,rfl,rfl⟩;exact Zi 1 2 [10]<|Z9 11<|YO 11 1 [] [] b2 [.i s.op,.i s.num,.i s.into,ZT s.args v3,.h v]<|de<|ZC<|r3 [3] [.agg [.i s.op,.i s.num,.i s.into,ZT s.args v3,.h v]] [0] [(b2,b2)] ⟨v,rfl,rfl⟩ (Zd.agg<|.cons (lr _)<|.cons (lr _)<|.cons (lr _)<|.cons (Zd.forget _ _)<|.cons (lr _) .nil) (eq:=(rr (ls:=Zc (YP<|s.kids.take k)) (by rw [Vc om]) rz))
def Z90 (s:Z4) (fl:Bool) (hz:s.sz<=1000000000:=by exact ob):Zj 138 [YL s] [] (fun r h=>(∃(v:Hd),r=.agg [.i s.op,.i s.num,.i s.into,Z5 s.args,.h v]/\h=[rK v 2 (Zc<|YP s.kids)]/\fl=true)∨(r=YL s/\h=[]/\fl=false)):=by
 cases fl with
 | true=>exact (Z91 s hz).mono fun r h ⟨v,hr,hh⟩=>.inl ⟨v,hr,hh,rfl⟩
 | false=>exact (Z49 s hz).mono fun r h ⟨hr,hh⟩=>.inr ⟨hr,hh,rfl⟩
def Z8x (b:Z6) (kk:Nat) (hz:b.sz<=1000000000:=by exact ob) (hkk:kk<b.steps.length:=by exact ob):Zj 91 [ZV b] [] (fun r h=>∃(v:Hd) (u:Hd),r=.agg [.h v,.i b.result]/\h=[rK v 5 (Vk b kk u.v b.steps.length),rK u 2<|Q0 b kk b.steps.length]):=by
 have hbz:=U7 b;refine ZF 28 Tryz.func91<|ar (iA (Xb b) fun b1=>iA [nl,.i 0] fun b2=>ie<|ar (By 5 fun g1=>ZL 3 [2] (iA [nl,.i 0] fun b3=>?_)));refine ZD 0 b3 [.ms g1 0 0 0,.i b.result]<|ie<|X6<|W8 (ED (k:=2))<|Z0<|ab 0<|Y2 (fun fz gz m F h=>∃(k:Nat) (v:Hd) (u:Hd),(k<=b.steps.length)/\F=sF [1,2,3] fz [(4,.i k)]/\h=[.obj b3 [.h v,.i b.result],Ze gz 3,Ze gz 4,rK v 5<|Vk b kk u.v k,rK u 2<|Q0 b kk k]/\m=b.steps.length-k) _ _ _ ⟨0,(⟨some ⟨g1,0,none⟩,0,0⟩:Hd),hN,ob,rfl,rfl,rfl⟩ (wk [1,2,2,1,0] (Y7 fl) (e:=(rc<|rc<|rc<|rr (ls:=[]) (by first|exact SX.symm|exact Z00.symm)<|rr (ls:=[]) (by first|exact SX.symm|exact Z00.symm) rz))) ?_;rintro m F h ⟨k,v,u,Ye,rfl,rfl,rfl⟩;refine Yh 3 [2]<|iw (V8 b.steps) (Y4 ((k:Int)<(b.steps.length:Int)) (fun Za=>?_) fun Za=>?_)
 .refine ak<|aq<|ab 1<|aE 12<|ZJ 7 12 [0,1,2,3,4] [0,2] ?_;obtain ⟨x1,Z3⟩:=Zs b.steps k om;have hss:=A7 Z3;refine dx 5 (Zl none (k:Int) 5<|Wi Z3)<|Zi 5 6 [6]<|Z9 7<|dc 7 [] [0] [b3] (Z90 x1<|decide (k=kk)) ?_;rintro _ _ (⟨v1,rfl,rfl,ZX⟩|⟨rfl,rfl,Yf⟩)
  .have hke:k=kk:=of_decide_eq_true ZX;exact JP (Z59 [1,1,1,0,0,0] (h':=[.obj b3 [.h v,.i b.result],.obj b2 [nl,.i 0],.obj b1<|Xb b,rK v1 2<|Zc<|YP x1.kids,rK v 5<|Vk b kk u.v k,rK u 2<|Q0 b kk k]) (d:=[]) kr)<|Z9 8 (dL 8 [0] [b3] [.agg [.i x1.op,.i x1.num,.i x1.into,Z5 x1.args,.h v1]] 1 5 fun v2=>Yw 3 3 [] [(24,.sl [.agg [.i x1.op,.i x1.num,.i x1.into,Z5 x1.args,.h v1]] none)]<|Z9 9 (EY 9 5 k [] [] v 5 (Vk b kk u.v k) [.agg [.i x1.op,.i x1.num,.i x1.into,Z5 x1.args,.h v1]] none (MF om) (Qh rfl) rfl (List.cons_ne_nil _ _) (by simp<;>omega) fun v3=>Zi 1 2 [10]<|Z9 11<|YO 11 2 [] [] b3 [.h v3,.i b.result]<|de<|az<|Z1 1<|ZI k<|Z0<|ZK ⟨k+1,v3,v1,ob,rfl,rfl,rfl⟩<|wk [0,2,2,0,1] (ZM k fl) (e:=(rc<|rc<|rc<|rr (ls:=Vk b kk u.v k++Zc [.agg [.i x1.op,.i x1.num,.i x1.into,Z5 x1.args,.h v1]]) (by first|(subst hke;exact SW Z3)|(subst hke;exact SZ Z3))<|rr (ls:=Zc (YP x1.kids)) (by first|(subst hke;exact SW Z3)|(subst hke;exact SZ Z3)) rz))))
  have hke:¬k=kk:=of_decide_eq_false Yf;exact Z9 8 (dL 8 [0] [b3] [YL x1] 1 5 fun v4=>Yw 3 3 [] [(24,.sl [YL x1] none)]<|Z9 9 (EY 9 4 k [] [] v 5 (Vk b kk u.v k) [YL x1] none (MF om) (Qh rfl) rfl (List.cons_ne_nil _ _) (by simp<;>omega) fun v5=>Zi 1 2 [10]<|Z9 11<|YO 11 2 [] [] b3 [.h v5,.i b.result]<|de<|az<|Z1 1<|ZI k<|Z0<|ZK ⟨k+1,v5,u,ob,rfl,rfl,rfl⟩<|wk [0,2,2,0,1] (ZM k fl) (e:=(rc<|rc<|rc<|rr (ls:=Vk b kk u.v k++Zc [YL x1]) (by first|exact SV Z3 hke|exact SY hke)<|rr (ls:=Q0 b kk k) (by first|exact SV Z3 hke|exact SY hke) rz))))
 exact ax 0<|Zt 1 [0]<|ZD 1 b2 [.h v,.i b.result]<|ie<|ZC<|r3 [3,3] [.agg [.h v,.i b.result]] [0] [(b2,b2)] ⟨v,u,rfl,rfl⟩ (lr _) (eq:=(rr (ls:=Vk b kk u.v k) (by rw [show k=b.steps.length by omega])<|rr (ls:=Q0 b kk k) (by rw [show k=b.steps.length by omega]) rz))
def Zd9 (rd:Nat) (bs:LI) (p:Nat) (b:Z6) (ZO:∀z∈bs,0<=z/\z<=255) (hp:p+(10*b.sz)<=1000000000) (hz:b.sz<=20000000) (hg:b.rgb) (h0:b.steps.length=0):Zj 50 [.p rd 0,ZV b] [YD rd bs p] (fun r h=>∃(y:Z6) (p2:Nat),r=ZV y/\h=[YD rd bs p2]/\XQ b y/\p<=p2/\p2<=p+(10*b.sz)):=by
 have hbp:=b.sz_pos;refine ZF 109 Tryz.func50<|ar (iA (Xb b) fun b1=>iA [nl,.i 0] fun b2=>ie<|Zt 1 [1]<|Zx [] (Ie b) (iA [nl,.i 0] fun b3=>ZD 0 b3 (Xb b)<|ie<|Yh 2 [0]<|iw (V8 b.steps)<|Z1 2 (ib (b:=((b.steps.length:Int)==0)) 14 (fun Zb=>?_) fun Zb=>?_)))
 .refine Z0<|Wc<|Y5 1 (iL (Z7 [0,1,2,3,-1,99]) 6 1 fun v1=>ZY 0 [(20,Z5 [0,1,2,3,-1,99])]<|ic [4] (UB rd bs p [0,1,2,3,-1,99] (ZO:=ob)) ?_);rintro _ _ ⟨z1,rfl,rfl,Yf⟩;have hon:=Yf;simp only [YM,List.not_mem_nil,or_false] at hon;exact Z1 1<|ZD 2 b3 [WE b.steps,.i z1]<|ie<|Zt 1 [0]<|ZD 3 b2 [WE b.steps,.i z1]<|ie<|ZC<|r3 [2] [.agg [WE b.steps,.i z1]] [0] [(b2,b2)] ⟨(Z6.mk b.steps z1),p+1,rfl,rfl,⟨XQ.result hg _,by have:=b.sz_pos;omega,by have:=b.sz_pos;omega⟩⟩<|lr _
 have YK:¬((b.steps.length:Int)=0):=Y8 Zq Zb;exact absurd (show (b.steps.length:Int)=0 by omega) YK
def Zda (rd:Nat) (bs:LI) (p:Nat) (b:Z6) (ZO:∀z∈bs,0<=z/\z<=255) (hp:p+(10*b.sz)<=1000000000) (hz:b.sz<=20000000) (hg:b.rgb) (h0:0<b.steps.length) (ih:∀(rd:Nat) (bs:LI) (p:Nat) (b2:Z6),(∀z∈bs,0<=z/\z<=255)->(p+(10*b2.sz)<=1000000000)->(b2.sz<=20000000)->(b2.rgb)->(b2.sz<b.sz)->Zj 50 [.p rd 0,ZV b2] [YD rd bs p] fun r h=>∃(y:Z6) (p2:Nat),r=ZV y/\h=[YD rd bs p2]/\XQ b2 y/\p<=p2/\p2<=p+(10*b2.sz)):Zj 50 [.p rd 0,ZV b] [YD rd bs p] (fun r h=>∃(y:Z6) (p2:Nat),r=ZV y/\h=[YD rd bs p2]/\XQ b y/\p<=p2/\p2<=p+(10*b.sz)):=by
 have hbp:=b.sz_pos;obtain ⟨kk,hkk⟩:∃kk,kk=(BI bs (p+1) (b.steps.length:Int)).toNat:=⟨_,rfl⟩;have hkl:kk<b.steps.length:=by have:=Zih (bs:=bs) (p:=p+1) (mx:=(b.steps.length:Int)) om;omega
 obtain ⟨sk,hsk⟩:=Zs b.steps kk hkl;have hsb:=A7 hsk;have hsg:=Zj9 hg hsk;have hst:=U7 b;refine ZF 109 Tryz.func50 (ar (iA (Xb b) fun b1=>iA [nl,.i 0] fun b2=>ie (Zt 1 [1] (ic [] (Z8x b kk) ?_))));rintro _ _ ⟨v1,u1,rfl,rfl⟩;refine Hg 0 b.steps.length (v:=v1) (MF (kk:=kk) (u:=u1.v) (X8 b.steps.length)) om fun g1 c1 he1=>?_
 subst he1;refine W8 (Z59 [0,1,1,1,0] (h':=[.row (.slice (some ⟨g1,0,none⟩) b.steps.length c1) 5 (Vk b kk u1.v b.steps.length),.obj b2 [nl,.i 0],.obj b1<|Xb b,YD rd bs p,rK u1 2<|Q0 b kk b.steps.length]) (d:=[]) kr) (iA [nl,.i 0] fun b3=>ZD 0 b3 [.ms g1 0 b.steps.length c1,.i b.result]<|ie<|Yh 2 [0]<|io (.i b.steps.length) (.i b.steps.length) (lr _)<|Z1 2 (ib (b:=((b.steps.length:Int)==0)) 14 (fun Zb=>?_) fun Zb=>?_))
 .have ZX:(b.steps.length:Int)=0:=(Zq).1 Zb;exact absurd ZX om
 have Yf:¬((b.steps.length:Int)=0):=Y8 Zq Zb;refine Z1 1<|ic [4] (Wm rd bs p 5 (ZO:=ob)) ?_;rintro _ _ ⟨k1,rfl,rfl,YK⟩;refine YH (k1==0) Zq (fun Za=>?_) fun Za=>?_
 .refine ar<|W8 (O5 5 2 b kk sk u1.v (.slice (some ⟨g1,0,none⟩) b.steps.length c1) hsk)<|W8 (TI 0 2 0 (.slice (some ⟨g1,0,none⟩) b.steps.length c1) 5 b3 (Zv b.steps) [.ms g1 0 b.steps.length c1,.i b.result] (Xr _) rfl)<|Z1 1 (iL (Z7 [0,1,2,3,-1,99]) 6 1 fun v2=>ZY 0 [(20,Z5 [0,1,2,3,-1,99])]<|ic [4] (UB rd bs (p+1) [0,1,2,3,-1,99] (ZO:=ob)) ?_);rintro _ _ ⟨z1,rfl,rfl,YW⟩;have hon:=YW;simp only [YM,List.not_mem_nil,or_false] at hon;exact Z1 1<|ZD 2 b3 [X7 b.steps (.slice (some ⟨g1,0,none⟩) b.steps.length c1),.i z1]<|ie<|Zt 1 [0]<|ZD 5 b2 [X7 b.steps (.slice (some ⟨g1,0,none⟩) b.steps.length c1),.i z1]<|ie<|ZC<|r3 [2] [.agg [X7 b.steps (.slice (some ⟨g1,0,none⟩) b.steps.length c1),.i z1]] [0] [(b2,b2)] ⟨(Z6.mk b.steps z1),(p+1)+1,rfl,rfl,(by first|exact ⟨XQ.result hg _,by omega,by omega⟩|exact ⟨XQ.kid hg hsk hck hyb.1,by omega,by omega⟩|exact ⟨XQ.del hg,by omega,by omega⟩|exact ⟨XQ.put hg,by omega,by omega⟩|exact ⟨XQ.set hg hsk ⟨by have:=hys.1.1;omega,hys.1.2⟩,by omega,by omega⟩)⟩<|Zd.agg<|.cons (Zd.forget _ _)<|.cons (lr _) .nil
 refine ak<|Zt 3 [1]<|io (.i b.steps.length) (.i b.steps.length) (lr _)<|ic [0] (Zd2 rd bs (p+1) b.steps.length (ZO:=ob)) ?_;rintro _ _ ⟨YQ,rfl,rfl,Xl⟩;have hkn:YQ=kk:=by have:=Xl.2;omega
 refine Z0<|Yh 3 [1]<|Zo (W9 g1 b.steps.length c1 YQ 5 (YQ:Int))<|Z1 1<|WW (Vj 2 g1 b.steps.length c1 5 (YQ*5+4) (Vk b kk u1.v b.steps.length) [.h u1] 62 (.h u1)<|by rw [hkn];exact Hw hsk)<|Zo (SQ 5 sk.kids.length u1 2 (Q0 b kk b.steps.length)<|by rw [MG hsk];exact Fi _)<|Z1 2 (ib (b:=(decide ((sk.kids.length:Int)>0))) 37 (fun ZE=>?_) fun ZE=>?_)
 .have XS:(sk.kids.length:Int)>0:=(dq).1 ZE;refine Z1 1<|ic [0] (Wm rd bs ((p+1)+1) 3 (ZO:=ob)) ?_;rintro _ _ ⟨k2,rfl,rfl,Wv⟩;refine Y4 (k2>0) (fun Zf=>?_) fun Zf=>?_
  .refine ar<|W8 (EA 5 u1.v 2 (Q0 b kk b.steps.length) (Zc<|YP sk.kids)<|MG hsk) (Hg 0 sk.kids.length (v:=u1) (Fi _) om fun g2 c2 he2=>?_);subst he2;refine ZL 4 [2]<|Zo (W9 g1 b.steps.length c1 YQ 5 (YQ:Int))<|Z1 1<|WW (Vj 3 g1 b.steps.length c1 5 (YQ*5+4) (Vk b kk (.slice (some ⟨g2,0,none⟩) sk.kids.length c2) b.steps.length) [.ms g2 0 sk.kids.length c2] 62 (.ms g2 0 sk.kids.length c2)<|by rw [hkn];exact Hw hsk)<|io (.i sk.kids.length) (.i sk.kids.length) (lr _)<|ic [1] (AO rd bs (((p+1)+1)+1) sk.kids.length (ZO:=ob)) ?_;rintro _ _ ⟨Xd,rfl,rfl,WS⟩;obtain ⟨ck,hck⟩:=Zs sk.kids Xd om;have hckz:=T5 hck;have hckb:=A7 hsk;have hckg:=Zj8 hg hsk hck;refine Z0<|aD 20<|ZJ 17 20 [0,1,2] [2]<|dx 3 (W9 g1 b.steps.length c1 YQ 5 (YQ:Int))<|Zi 15 16 [4]<|Us 5 (Vj 3 g1 b.steps.length c1 5 (YQ*5+4) (Vk b kk (.slice (some ⟨g2,0,none⟩) sk.kids.length c2) b.steps.length) [.ms g2 0 sk.kids.length c2] 62 (.ms g2 0 sk.kids.length c2)<|by rw [hkn];exact Hw hsk)<|ZJ 9 14 [6,7,8,9,10] [2]<|dx 11 (W9 g1 b.steps.length c1 YQ 5 (YQ:Int))<|Zi 7 8 [12]<|Us 13 (Vj 3 g1 b.steps.length c1 5 (YQ*5+4) (Vk b kk (.slice (some ⟨g2,0,none⟩) sk.kids.length c2) b.steps.length) [.ms g2 0 sk.kids.length c2] 62 (.ms g2 0 sk.kids.length c2)<|by rw [hkn];exact Hw hsk)<|Zi 5 6 [14]<|dx 15 (W9 g2 sk.kids.length c2 Xd 2 (Xd:Int))<|Us 16 (Vj 1 g2 sk.kids.length c2 2 (Xd*2) (Zc<|YP sk.kids) (Xb ck) 52 (ZV ck)<|Zb4 hck)<|Z9 17<|dc 17 [0] [2,1] [g1,b3] (ih rd bs ((((p+1)+1)+1)+1) ck ob ob ob ob ob) ?_;rintro _ _ ⟨y1,p21,rfl,rfl,Vu⟩;have hyb:=Vu;exact dx 18 (W9 g2 sk.kids.length c2 Xd 2 (Xd:Int))<|Z9 19<|C9 19 1 [] [] g2 sk.kids.length c2 2 (Xd*2) (Xb y1) (Zc<|YP sk.kids) (Zc<|YP<|sk.kids.set Xd y1) (by rw [Fi];simp only [YR,Xx];omega) (Zb6 y1 om)<|de<|ar<|W8 (Z55 0 2 b kk sk (sk.kids.set Xd y1) (.slice (some ⟨g2,0,none⟩) sk.kids.length c2) (.slice (some ⟨g1,0,none⟩) b.steps.length c1) hsk)<|W8 (TI 0 2 0 (.slice (some ⟨g1,0,none⟩) b.steps.length c1) 5 b3 (Zv<|b.steps.set kk<|Z4.mk sk.op sk.num sk.into sk.args<|sk.kids.set Xd y1) [.ms g1 0 b.steps.length c1,.i b.result] (Xr _) rfl)<|ZL 1 [0]<|ZD 4 b2 [X7 (b.steps.set kk<|Z4.mk sk.op sk.num sk.into sk.args<|sk.kids.set Xd y1) (.slice (some ⟨g1,0,none⟩) b.steps.length c1),.i b.result]<|ie<|ZC<|r3 [4] [.agg [X7 (b.steps.set kk<|Z4.mk sk.op sk.num sk.into sk.args<|sk.kids.set Xd y1) (.slice (some ⟨g1,0,none⟩) b.steps.length c1),.i b.result]] [0] [(b2,b2)] ⟨(Z6.mk (b.steps.set kk<|Z4.mk sk.op sk.num sk.into sk.args<|sk.kids.set Xd y1) b.result),p21,rfl,rfl,(by first|exact ⟨XQ.result hg _,by omega,by omega⟩|exact ⟨XQ.kid hg hsk hck hyb.1,by omega,by omega⟩|exact ⟨XQ.del hg,by omega,by omega⟩|exact ⟨XQ.put hg,by omega,by omega⟩|exact ⟨XQ.set hg hsk ⟨by have:=hys.1.1;omega,hys.1.2⟩,by omega,by omega⟩)⟩<|Zd.agg<|.cons (Zd.forget _ _)<|.cons (lr _) .nil
  refine ak<|X6<|W8 (O5 5 2 b kk sk u1.v (.slice (some ⟨g1,0,none⟩) b.steps.length c1) hsk)<|Z1 1<|ic [2] (Wm rd bs (((p+1)+1)+1) 4 (ZO:=ob)) ?_;rintro _ _ ⟨k3,rfl,rfl,T4⟩;refine ie<|ab 0<|ar (YH (k3==0) Zq (fun ZA=>?_) fun ZA=>?_)
  .exact aE 12<|ZJ 9 12 [0,1,2] [3]<|dx 3 (Ht 1 g1 b.steps.length c1 YQ 5<|Zc<|Zv b.steps)<|ZJ 5 8 [4,5,6] [3]<|da 7 (((YQ+1:Nat):Int)) (((YQ:Int))+(1))<|dx 8 (SO 1 g1 b.steps.length c1 (YQ+1) 5<|Zc<|Zv b.steps)<|Z9 9<|PZ 9 1 [] [] g1 b.steps.length c1 YQ (YQ+1) 5 (Zc<|Zv b.steps) (Uz _)<|Zi 1 2 [10]<|Z9 11<|YO 11 3 [] [] b3 [.ms g1 0 (YQ+(b.steps.length-(YQ+1))) c1,.i b.result]<|de<|ar<|W8 (EA 1 (.slice (some ⟨g1,0,none⟩) (YQ+(b.steps.length-(YQ+1))) c1) 5 (((Zc<|Zv b.steps).take (YQ*5))++((Zc<|Zv b.steps).drop ((YQ+1)*5))) (Zc<|Zv (b.steps.take kk++b.steps.drop (kk+1)))<|by rw [hkn];exact RE hkl)<|W8 (TI 0 0 0 (.slice (some ⟨g1,0,none⟩) (YQ+(b.steps.length-(YQ+1))) c1) 5 b3 (Zv (b.steps.take kk++b.steps.drop (kk+1))) [.ms g1 0 (YQ+(b.steps.length-(YQ+1))) c1,.i b.result] (Xr _) rfl)<|ZL 1 [0]<|ZD 4 b2 [X7 (b.steps.take kk++b.steps.drop (kk+1)) (.slice (some ⟨g1,0,none⟩) (YQ+(b.steps.length-(YQ+1))) c1),.i b.result]<|ie<|ZC<|r3 [3] [.agg [X7 (b.steps.take kk++b.steps.drop (kk+1)) (.slice (some ⟨g1,0,none⟩) (YQ+(b.steps.length-(YQ+1))) c1),.i b.result]] [0] [(b2,b2)] ⟨(Z6.mk (b.steps.take kk++b.steps.drop (kk+1)) b.result),(((p+1)+1)+1)+1,rfl,rfl,(by first|exact ⟨XQ.result hg _,by omega,by omega⟩|exact ⟨XQ.kid hg hsk hck hyb.1,by omega,by omega⟩|exact ⟨XQ.del hg,by omega,by omega⟩|exact ⟨XQ.put hg,by omega,by omega⟩|exact ⟨XQ.set hg hsk ⟨by have:=hys.1.1;omega,hys.1.2⟩,by omega,by omega⟩)⟩<|Zd.agg<|.cons (Zd.forget _ _)<|.cons (lr _) .nil
  refine ar (YH (k3==1) Zq (fun Ym=>?_) fun Ym=>?_)
  .refine aD 10<|JP (TI 1 2 0 (.slice (some ⟨g1,0,none⟩) b.steps.length c1) 5 b3 (Zv b.steps) [.ms g1 0 b.steps.length c1,.i b.result] (Xr _) rfl)<|ZJ 6 10 [0,1,2,5] [0]<|Z9 3 (dL 3 [0] [b3] (Z7 [14,15,15,16,17]) 5 1 fun v3=>Yw 5 5 [] [(102,Z5 [14,15,15,16,17])]<|Z9 4<|dc 4 [3] [0] [b3] (UB rd bs ((((p+1)+1)+1)+1) [14,15,15,16,17] (ZO:=ob)) ?_);rintro _ _ ⟨z2,rfl,rfl,Tn⟩;have hon:=Tn;simp only [YM,List.not_mem_nil,or_false] at hon;refine Z9 6<|dc 6 [0] [0] [b3] (Wm rd bs (((((p+1)+1)+1)+1)+1) 4 (ZO:=ob)) ?_;rintro _ _ ⟨k4,rfl,rfl,To⟩;exact Z9 7<|Yu 7 [] [1] [b3] (AX z2 k4)<|Yw 2 2 [] [(99,ZV b)]<|Z9 8<|Yu 8 [] [] [] (H9 b YQ<|Zz z2 k4)<|Z9 9<|YO 9 5 [] [] b2 (Xb<|Z6.mk (WZ b.steps YQ<|Zz z2 k4) b.result)<|de<|ZC<|r3 [1] [ZV (Z6.mk (WZ b.steps YQ<|Zz z2 k4) b.result)] [0] [(b2,b2)] ⟨(Z6.mk (WZ b.steps YQ<|Zz z2 k4) b.result),(((((p+1)+1)+1)+1)+1)+1,rfl,rfl,(by first|exact ⟨XQ.result hg _,by omega,by omega⟩|exact ⟨XQ.kid hg hsk hck hyb.1,by omega,by omega⟩|exact ⟨XQ.del hg,by omega,by omega⟩|exact ⟨XQ.put hg,by omega,by omega⟩|exact ⟨XQ.set hg hsk ⟨by have:=hys.1.1;omega,hys.1.2⟩,by omega,by omega⟩)⟩<|lr _
  refine aE 12<|ZJ 5 12 [0,1,2,3,4,5,6] [3,3]<|dx 7 (W9 g1 b.steps.length c1 YQ 5 (YQ:Int))<|Us 8 (Vj 1 g1 b.steps.length c1 5 (YQ*5) (Zc<|Zv b.steps) (Xp sk) 64 (YL sk)<|by rw [hkn];exact M0 hsk)<|Z9 9<|dc 9 [0] [1] [b3] (S4 rd bs ((((p+1)+1)+1)+1) sk (ZO:=ob)) ?_;rintro _ _ ⟨y2,p22,rfl,rfl,K7⟩;have hys:=K7;exact dx 10 (W9 g1 b.steps.length c1 YQ 5 (YQ:Int))<|Z9 11<|C9 11 1 [] [] g1 b.steps.length c1 5 (YQ*5) (Xp y2) (Zc<|Zv b.steps) (Zc<|Zv<|b.steps.set kk y2) (by rw [Qb];simp only [YR,Xx];omega) (by rw [hkn];exact H3 hsk)<|de<|ar<|W8 (TI 0 2 0 (.slice (some ⟨g1,0,none⟩) b.steps.length c1) 5 b3 (Zv<|b.steps.set kk y2) [.ms g1 0 b.steps.length c1,.i b.result] (Xr _) rfl)<|ZL 1 [0]<|ZD 4 b2 [X7 (b.steps.set kk y2) (.slice (some ⟨g1,0,none⟩) b.steps.length c1),.i b.result]<|ie<|ZC<|r3 [3] [.agg [X7 (b.steps.set kk y2) (.slice (some ⟨g1,0,none⟩) b.steps.length c1),.i b.result]] [0] [(b2,b2)] ⟨(Z6.mk (b.steps.set kk y2) b.result),p22,rfl,rfl,(by first|exact ⟨XQ.result hg _,by omega,by omega⟩|exact ⟨XQ.kid hg hsk hck hyb.1,by omega,by omega⟩|exact ⟨XQ.del hg,by omega,by omega⟩|exact ⟨XQ.put hg,by omega,by omega⟩|exact ⟨XQ.set hg hsk ⟨by have:=hys.1.1;omega,hys.1.2⟩,by omega,by omega⟩)⟩<|Zd.agg<|.cons (Zd.forget _ _)<|.cons (lr _) .nil
 have QJ:¬((sk.kids.length:Int)>0):=Y8 dq ZE;refine Z0<|Ww<|ak<|X6<|W8 (O5 5 2 b kk sk u1.v (.slice (some ⟨g1,0,none⟩) b.steps.length c1) hsk)<|Z1 1<|ic [2] (Wm rd bs ((p+1)+1) 4 (ZO:=ob)) ?_;rintro _ _ ⟨k5,rfl,rfl,Jp⟩;refine ie<|ab 0<|ar (YH (k5==0) Zq (fun Xm=>?_) fun Xm=>?_)
 .exact aE 12<|ZJ 9 12 [0,1,2] [3]<|dx 3 (Ht 1 g1 b.steps.length c1 YQ 5<|Zc<|Zv b.steps)<|ZJ 5 8 [4,5,6] [3]<|da 7 (((YQ+1:Nat):Int)) (((YQ:Int))+(1))<|dx 8 (SO 1 g1 b.steps.length c1 (YQ+1) 5<|Zc<|Zv b.steps)<|Z9 9<|PZ 9 1 [] [] g1 b.steps.length c1 YQ (YQ+1) 5 (Zc<|Zv b.steps) (Uz _)<|Zi 1 2 [10]<|Z9 11<|YO 11 3 [] [] b3 [.ms g1 0 (YQ+(b.steps.length-(YQ+1))) c1,.i b.result]<|de<|ar<|W8 (EA 1 (.slice (some ⟨g1,0,none⟩) (YQ+(b.steps.length-(YQ+1))) c1) 5 (((Zc<|Zv b.steps).take (YQ*5))++((Zc<|Zv b.steps).drop ((YQ+1)*5))) (Zc<|Zv (b.steps.take kk++b.steps.drop (kk+1)))<|by rw [hkn];exact RE hkl)<|W8 (TI 0 0 0 (.slice (some ⟨g1,0,none⟩) (YQ+(b.steps.length-(YQ+1))) c1) 5 b3 (Zv (b.steps.take kk++b.steps.drop (kk+1))) [.ms g1 0 (YQ+(b.steps.length-(YQ+1))) c1,.i b.result] (Xr _) rfl)<|ZL 1 [0]<|ZD 4 b2 [X7 (b.steps.take kk++b.steps.drop (kk+1)) (.slice (some ⟨g1,0,none⟩) (YQ+(b.steps.length-(YQ+1))) c1),.i b.result]<|ie<|ZC<|r3 [3] [.agg [X7 (b.steps.take kk++b.steps.drop (kk+1)) (.slice (some ⟨g1,0,none⟩) (YQ+(b.steps.length-(YQ+1))) c1),.i b.result]] [0] [(b2,b2)] ⟨(Z6.mk (b.steps.take kk++b.steps.drop (kk+1)) b.result),((p+1)+1)+1,rfl,rfl,(by first|exact ⟨XQ.result hg _,by omega,by omega⟩|exact ⟨XQ.kid hg hsk hck hyb.1,by omega,by omega⟩|exact ⟨XQ.del hg,by omega,by omega⟩|exact ⟨XQ.put hg,by omega,by omega⟩|exact ⟨XQ.set hg hsk ⟨by have:=hys.1.1;omega,hys.1.2⟩,by omega,by omega⟩)⟩<|Zd.agg<|.cons (Zd.forget _ _)<|.cons (lr _) .nil
 refine ar (YH (k5==1) Zq (fun Xs=>?_) fun Xs=>?_)
 .refine aD 10<|JP (TI 1 2 0 (.slice (some ⟨g1,0,none⟩) b.steps.length c1) 5 b3 (Zv b.steps) [.ms g1 0 b.steps.length c1,.i b.result] (Xr _) rfl)<|ZJ 6 10 [0,1,2,5] [0]<|Z9 3 (dL 3 [0] [b3] (Z7 [14,15,15,16,17]) 5 1 fun v4=>Yw 5 5 [] [(102,Z5 [14,15,15,16,17])]<|Z9 4<|dc 4 [3] [0] [b3] (UB rd bs (((p+1)+1)+1) [14,15,15,16,17] (ZO:=ob)) ?_);rintro _ _ ⟨z3,rfl,rfl,KQ⟩;have hon:=KQ;simp only [YM,List.not_mem_nil,or_false] at hon;refine Z9 6<|dc 6 [0] [0] [b3] (Wm rd bs ((((p+1)+1)+1)+1) 4 (ZO:=ob)) ?_;rintro _ _ ⟨k6,rfl,rfl,Bw⟩;exact Z9 7<|Yu 7 [] [1] [b3] (AX z3 k6)<|Yw 2 2 [] [(99,ZV b)]<|Z9 8<|Yu 8 [] [] [] (H9 b YQ<|Zz z3 k6)<|Z9 9<|YO 9 5 [] [] b2 (Xb<|Z6.mk (WZ b.steps YQ<|Zz z3 k6) b.result)<|de<|ZC<|r3 [1] [ZV (Z6.mk (WZ b.steps YQ<|Zz z3 k6) b.result)] [0] [(b2,b2)] ⟨(Z6.mk (WZ b.steps YQ<|Zz z3 k6) b.result),((((p+1)+1)+1)+1)+1,rfl,rfl,(by first|exact ⟨XQ.result hg _,by omega,by omega⟩|exact ⟨XQ.kid hg hsk hck hyb.1,by omega,by omega⟩|exact ⟨XQ.del hg,by omega,by omega⟩|exact ⟨XQ.put hg,by omega,by omega⟩|exact ⟨XQ.set hg hsk ⟨by have:=hys.1.1;omega,hys.1.2⟩,by omega,by omega⟩)⟩<|lr _
 refine aE 12<|ZJ 5 12 [0,1,2,3,4,5,6] [3,3]<|dx 7 (W9 g1 b.steps.length c1 YQ 5 (YQ:Int))<|Us 8 (Vj 1 g1 b.steps.length c1 5 (YQ*5) (Zc<|Zv b.steps) (Xp sk) 64 (YL sk)<|by rw [hkn];exact M0 hsk)<|Z9 9<|dc 9 [0] [1] [b3] (S4 rd bs (((p+1)+1)+1) sk (ZO:=ob)) ?_;rintro _ _ ⟨y3,p23,rfl,rfl,Aq⟩;have hys:=Aq;exact dx 10 (W9 g1 b.steps.length c1 YQ 5 (YQ:Int))<|Z9 11<|C9 11 1 [] [] g1 b.steps.length c1 5 (YQ*5) (Xp y3) (Zc<|Zv b.steps) (Zc<|Zv<|b.steps.set kk y3) (by rw [Qb];simp only [YR,Xx];omega) (by rw [hkn];exact H3 hsk)<|de<|ar<|W8 (TI 0 2 0 (.slice (some ⟨g1,0,none⟩) b.steps.length c1) 5 b3 (Zv<|b.steps.set kk y3) [.ms g1 0 b.steps.length c1,.i b.result] (Xr _) rfl)<|ZL 1 [0]<|ZD 4 b2 [X7 (b.steps.set kk y3) (.slice (some ⟨g1,0,none⟩) b.steps.length c1),.i b.result]<|ie<|ZC<|r3 [3] [.agg [X7 (b.steps.set kk y3) (.slice (some ⟨g1,0,none⟩) b.steps.length c1),.i b.result]] [0] [(b2,b2)] ⟨(Z6.mk (b.steps.set kk y3) b.result),p23,rfl,rfl,(by first|exact ⟨XQ.result hg _,by omega,by omega⟩|exact ⟨XQ.kid hg hsk hck hyb.1,by omega,by omega⟩|exact ⟨XQ.del hg,by omega,by omega⟩|exact ⟨XQ.put hg,by omega,by omega⟩|exact ⟨XQ.set hg hsk ⟨by have:=hys.1.1;omega,hys.1.2⟩,by omega,by omega⟩)⟩<|Zd.agg<|.cons (Zd.forget _ _)<|.cons (lr _) .nil
def Zd8 (rd:Nat) (bs:LI) (p:Nat) (b:Z6) (ZO:∀z∈bs,0<=z/\z<=255) (hp:p+10*b.sz<=1000000000:=by exact ob) (hz:b.sz<=20000000:=by exact ob) (hg:b.rgb:=by exact ob):Zj 50 [.p rd 0,ZV b] [YD rd bs p] (fun r h=>∃(y:Z6) (p2:Nat),r=ZV y/\h=[YD rd bs p2]/\XQ b y/\p<=p2/\p2<=p+(10*b.sz)):=by
 have key:∀k:Nat,∀(rd:Nat) (bs:LI) (p:Nat) (b2:Z6),(∀z∈bs,0<=z/\z<=255)->(p+(10*b2.sz)<=1000000000)->(b2.sz<=20000000)->(b2.rgb)->(b2.sz<k)->Zj 50 [.p rd 0,ZV b2] [YD rd bs p] (fun r h=>∃(y:Z6) (p2:Nat),r=ZV y/\h=[YD rd bs p2]/\XQ b2 y/\p<=p2/\p2<=p+(10*b2.sz)):=by
  intro k
  induction k with
  | zero=>intro rd bs p b2 h1 h2 h3 h4 h5;omega
  | succ k ih=>
   intro rd bs p b2 h1 h2 h3 h4 h5;by_cases h0:b2.steps.length=0
   .exact Zd9 rd bs p b2 h1 h2 h3 h4 h0
   .exact Zda rd bs p b2 h1 h2 h3 h4 om fun rd bs p b3 q1 q2 q3 q4 q5=>ih rd bs p b3 q1 q2 q3 q4 om
 exact key (b.sz+1) rd bs p b ZO hp hz hg om
def Mf (rd:Nat) (bs:LI) (p:Nat) (n:Zm) (often q l:Nat) (ZO:∀z∈bs,0<=z/\z<=255) (hp:p+(10*q+20)<=1000000000:=by exact ob) (hzn:ZS n q l:=by exact ob) (hq:q<=9999000:=by exact ob) (hl:l<=100:=by exact ob) (ho:0<often:=by exact ob):Zj 18 [.p rd 0,Yq n,.i often] [YD rd bs p] (fun r h=>∃(n2:Zm) (p2:Nat),r=Yq n2/\h=[YD rd bs p2]/\ZS n2 (q+2) (l+1)/\p<=p2/\p2<=p+(10*q+20)):=by
 have hnl:=hzn.len;refine ZF 64 Tryz.func18<|ar (iA (YI n) fun b1=>iA [nl,nl] fun b2=>ie<|YE 2<|ic [2] (AO rd bs p often (ZO:=ob)) ?_);rintro _ _ ⟨YQ,rfl,rfl,ZX⟩;refine Y4 ((YQ:Int)>0) (fun Za=>?_) fun Za=>?_
 .exact Zt 1 [2]<|ZD 1 b2 (YI n)<|ie<|ZC<|r3 [1] [Yq n] [0] [(b2,b2)] ⟨n,p+1,rfl,rfl,(by first|exact ⟨hzn.le om om,by omega,by omega⟩|exact ⟨hzn.set hx1k om om om om ⟨hz1.2.2.2,hzn.rb _<|Y0 hx1k⟩,by omega,by omega⟩|exact ⟨(hzn.le om om).ds had.1,by omega,by omega⟩|exact ⟨hzn.set hx2k om om om (by have:=hsb.1.1;omega) hsb.1.2,by omega,by omega⟩)⟩<|lr _
 refine ak<|Zt 3 [2]<|iw (U1 n.2)<|ic [0] (AO rd bs (p+1) n.2.length (ZO:=ob)) ?_;rintro _ _ ⟨Xd,rfl,rfl,Yf⟩;refine Z0<|YE 1<|ic [0] (Wm rd bs ((p+1)+1) 8 (ZO:=ob)) ?_;rintro _ _ ⟨k1,rfl,rfl,YK⟩;refine ie<|ab 0<|ar (YH (k1==0) Zq (fun Zf=>?_) fun Zf=>?_)
 .refine aD 11<|ZJ 6 11 [0,1,2,3,4] [2,2] ?_;obtain ⟨x1,Z3⟩:=Zs n.2 Xd om;have hx1k:=Z3;have hz1:=hzn.rt _ (Y0 Z3);refine dx 5 (Zl none (Xd:Int) 5<|WG Z3)<|Zi 3 5 [6,7]<|Ji (fun fz gz F h=>∃(g1:Nat) (c1:Nat) (b3:Nat),F=sF [0,6,7] fz [(8,.p b3 0)]/\h=[.obj b3 [ZQ n.1,.ms g1 0 n.2.length c1],.row (.slice (some ⟨g1,0,none⟩) n.2.length c1) 5<|Zc<|YS<|n.2.set Xd<|Y9.mk x1.1 x1.2 x1.result x1.4,Ze gz 0,Ze gz 1,Ze gz 2]) ?_ ?_
  .refine VR 8 9 ?_ ?_
   .refine dc 8 [] [] [] (Mg n Xd x1.4 x1 (hr:=Z3)) ?_;rintro _ _ ⟨g1,c1,rfl,rfl⟩;exact Z9 9 (dA 9 [] [] [nl,nl] fun b3=>Z9 10<|YO 10 0 [] [] b3 [ZQ n.1,.ms g1 0 n.2.length c1]<|de<|ZU ⟨g1,c1,b3,U,U⟩<|ZH 5 fl)
   refine dA 9 [2,2] [b1,b1] [nl,nl] fun b4=>Z9 8<|dc 8 [] [] [] (Mg n Xd x1.4 x1 (hr:=Z3)) ?_
   rintro _ _ ⟨g2,c2,rfl,rfl⟩;exact Z9 10 (YO 10 1 [] [] b4 [ZQ n.1,.ms g2 0 n.2.length c2] (de (ZU ⟨g2,c2,b4,U,U⟩ (ZH 5 fl))))
  rintro F h ⟨g1,c1,b3,rfl,rfl⟩;refine aD 14 (ZJ 7 14 [0,1,2,3,4,5,6] [0,0] (dx 7 (W9 g1 n.2.length c1 Xd 5 (Xd:Int)) (Zi 5 6 [8] (Us 9 (Vj 1 g1 n.2.length c1 5 (Xd*5+1) (Zc (YS (n.2.set Xd (Y9.mk x1.1 x1.2 x1.result x1.4)))) [Z5 x1.2] 31 (Z5 x1.2) (Zbb om _)) (Z9 10 (dc 10 [2] [0] [b3] (Zdb rd bs (((p+1)+1)+1) x1.2 (ZO:=ob)) ?_))))));rintro _ _ ⟨zs1,p21,rfl,rfl,YW⟩;have hsi:=YW;exact dx 11 (W9 g1 n.2.length c1 Xd 5 (Xd:Int)) (Zi 1 2 [12] (Z9 13 (C9 13 2 [] [] g1 n.2.length c1 5 (Xd*5+1) [Z5 zs1] (Zc (YS (n.2.set Xd (Y9.mk x1.1 x1.2 x1.result x1.4)))) (Zc (YS (n.2.set Xd (Y9.mk x1.1 zs1 x1.result x1.4)))) (by rw [H2,UO];simp only [YR,Xx];omega) (Zbd om _ _) (de (ar (W8 (TI 0 1 1 (.slice (some ⟨g1,0,none⟩) n.2.length c1) 5 b3 (YS (n.2.set Xd (Y9.mk x1.1 zs1 x1.result x1.4))) [ZQ n.1,.ms g1 0 n.2.length c1] (T2 _) rfl) (ZL 1 [0] (ZD 3 b2 [ZQ n.1,WJ (n.2.set Xd (Y9.mk x1.1 zs1 x1.result x1.4)) (.slice (some ⟨g1,0,none⟩) n.2.length c1)] (ie (ZC (r3 [3] [.agg [ZQ n.1,WJ (n.2.set Xd (Y9.mk x1.1 zs1 x1.result x1.4)) (.slice (some ⟨g1,0,none⟩) n.2.length c1)]] [0] [(b2,b2)] ⟨(Zm.mk n.1 (n.2.set Xd (Y9.mk x1.1 zs1 x1.result x1.4))),p21,rfl,rfl,(by first|exact ⟨hzn.le om om,by omega,by omega⟩|exact ⟨hzn.set hx1k om om om om ⟨hz1.2.2.2,hzn.rb _ (Y0 hx1k)⟩,by omega,by omega⟩|exact ⟨(hzn.le om om).ds had.1,by omega,by omega⟩|exact ⟨hzn.set hx2k om om om (by have:=hsb.1.1;omega) hsb.1.2,by omega,by omega⟩)⟩ (Zd.agg (.cons (lr _) (.cons (Zd.forget _ _) .nil))))))))))))))
 refine ar (YH (k1==1) Zq (fun ZA=>?_) fun ZA=>?_)
 .refine aD 6<|ZJ 3 6 [0,2,3] [2]<|Z9 1<|dc 1 [0] [1] [b1] (Zbm rd bs (((p+1)+1)+1) (ZO:=ob)) ?_;rintro _ _ ⟨dz1,p22,rfl,rfl,Xl⟩;have had:=Xl;exact Zi 1 2 [4]<|Z9 5<|YO 5 1 [] [] b2 [ZQ dz1,KV n.2]<|de<|ZC<|r3 [1] [.agg [ZQ dz1,KV n.2]] [0] [(b2,b2)] ⟨(Zm.mk dz1 n.2),p22,rfl,rfl,(by first|exact ⟨hzn.le om om,by omega,by omega⟩|exact ⟨hzn.set hx1k om om om om ⟨hz1.2.2.2,hzn.rb _<|Y0 hx1k⟩,by omega,by omega⟩|exact ⟨(hzn.le om om).ds had.1,by omega,by omega⟩|exact ⟨hzn.set hx2k om om om (by have:=hsb.1.1;omega) hsb.1.2,by omega,by omega⟩)⟩<|lr _
 refine ak<|aD 12<|ZJ 6 12 [0,1,2,3,4,5] [2,2] ?_;obtain ⟨x2,Zr⟩:=Zs n.2 Xd om;have hx2k:=Zr;have hz2:=hzn.rt _ (Y0 Zr);refine dx 6 (Zl none (Xd:Int) 5<|WG Zr)<|Zi 3 5 [7,8]<|Z9 9<|dc 9 [0] [1] [b1] (Zd8 rd bs (((p+1)+1)+1) x2.4 (ZO:=ob) (hg:=⟨hz2.2.2.2,hzn.rb _<|Y0 hx2k⟩)) ?_;rintro _ _ ⟨y1,p23,rfl,rfl,XS⟩;have hsb:=XS;exact Z9 10<|Yu 10 [] [] [] (S5 n Xd y1 x2 (hr:=Zr))<|Z9 11<|YO 11 1 [] [] b2 (YI<|withR n Xd x2 y1)<|de<|ZC<|r3 [1] [Yq (withR n Xd x2 y1)] [0] [(b2,b2)] ⟨(withR n Xd x2 y1),p23,rfl,rfl,(by first|exact ⟨hzn.le om om,by omega,by omega⟩|exact ⟨hzn.set hx1k om om om om ⟨hz1.2.2.2,hzn.rb _<|Y0 hx1k⟩,by omega,by omega⟩|exact ⟨(hzn.le om om).ds had.1,by omega,by omega⟩|exact ⟨hzn.set hx2k om om om (by have:=hsb.1.1;omega) hsb.1.2,by omega,by omega⟩)⟩<|lr _
def EV (xs:LI) (hl_xs:xs.length<=4294967296:=by exact ob):Zj 54 [Z5 xs] [] (fun r h=>∃(v:Value),r=ZT xs v/\h=[.tail v 1]):=by
 refine ZF 8 Tryz.func54<|ZB<|YE 1<|iN (Z7 xs) (fun hz1=>?_) ?_
 .have hz1:=LG hz1;exact ie<|Wc<|ZB<|Qv 1<|ZC<|r2 [0] [nl] ⟨(.slice none 0 0),rfl,rfl⟩<|Zd.slh _ (by first|rfl|(subst_vars;rfl))
 exact ie<|Ww<|ak<|ar (iL (Z7 []) 0 1 fun v1=>Z1 1 (ip 0 (Z7 xs) (Z7 []) (Z7 xs) v1 none 1 (YJ _) (YJ _) (Wk _) (by simp<;>omega) (by simp [Z7]) fun v2=>Zp<|r1 [0] ⟨v2,rfl,rfl⟩))
def EW (xs:LI) (hl_xs:xs.length<=4294967296:=by exact ob):Zj 54 [Z5 xs] [] (fun r h=>∃(v:Hd),r=.h v/\h=[rV v xs]):=by
 refine ZF 8 Tryz.func54<|ZB<|YE 1<|iN (Z7 xs) (fun hz1=>?_) ?_
 .have hz1:=LG hz1;exact ie<|Wc<|ZB<|T0 A8<|ZC<|r2 [0] [nl] ⟨hN,U,U⟩ (Zd.hd (v:=hN)) (eq:=(rv (xs:=[]) ob rz))
 exact ie<|Ww<|ak<|ar (Mr [] 0 fun v1=>Z1 1 (KR 0 v1 [] xs none fun v2=>Zp<|r1 [0] ⟨v2,U,U⟩ (eq:=(rv (xs:=([]++xs)) ob rz))))
def Zl1 (xs:LI) (i:Int) (hl_xs:xs.length<=4294967296:=by exact ob):Zj 189 [Z5 xs,.i i] [] (Yr<|.i<|Hn xs i):=by
 refine ZF 19 Tryz.func189<|ZB<|YE 1<|iw (Yg xs)<|Z0<|ab 0<|Y2 (fun fz gz m F h=>∃(k:Nat),(k<=xs.length)/\(AQ i (xs.drop k) k=Hn xs i)/\F=sF [0,1,7] fz [(8,.i k)]/\h=gz/\m=xs.length-k) _ _ _ ⟨0,ob,(by rfl),rfl,rfl,rfl⟩ (wk []<|Y7 fl) ?_;rintro m F h ⟨k,Ye,Zk,rfl,rfl,rfl⟩;refine ZB<|aq (XK ((k:Int)<(xs.length:Int)) (fun Za=>?_) fun Za=>?_)
 .refine ak<|aq<|ab 1<|ZB<|Y5 3 ?_;obtain ⟨x1,Z3⟩:=Zs xs k om;refine Zo (Zl none (k:Int) 1<|Y3 Z3) (YH (i==x1) Zq (fun Zf=>?_) fun Zf=>?_)
  .refine ZB ?_;rw [Yc Z3] at Zk;exact ZC<|ZW (.i k)<|li (by clear Z3;first|rfl|omega|grind [AQ])
  refine ak<|az<|ZI k<|Z0 ?_;have hdr:=Yc Z3;exact ZK ⟨k+1,ob,(by rw [hdr] at Zk;clear hdr Z3;grind [AQ]),rfl,rfl,rfl⟩<|wk []<|ZM k fl
 refine ax 0 (ZB ?_)
 try rw [Xk (xs:=xs) (k:=k) om] at Zk
 exact ZC<|ZW (.i (-1))<|li<|by first|rfl|omega|grind [AQ]
def NR (xs:LI) (i:Int) (hl_xs:xs.length<=4294967296:=by exact ob):Zj 140 [Z5 xs,.i i] [] (Yr<|.b<|decide (i∈xs)):=by
 exact ZF 9 Tryz.func140<|ZB<|Y5 2<|Zx [] (Zl1 xs i)<|Zp<|ZW (.b<|decide ((Hn xs i)>=0))<|lb<|Zf3 xs i
def Dk (xs ys:LI) (hl_xs:xs.length<=4294967296:=by exact ob) (hl_ys:ys.length<=4294967296:=by exact ob):Zj 198 [Z5 xs,Z5 ys] [] (Yr<|.b<|decide (xs=ys)):=by
 refine ZF 26 Tryz.func198<|ZB<|YE 1<|iw (Yg xs)<|Z1 1<|iw (Yg ys) (YH ((xs.length:Int) != (ys.length:Int)) Yb (fun Za=>?_) fun Za=>?_)
 .exact ar<|Zp<|ZW (.b false)<|lb<|eq_comm.1 (decide_eq_false fun q=>by rw [q] at Za;exact Za rfl)
 refine ak<|YE 1<|iw (Yg xs)<|Z0<|ab 0<|Y2 (fun fz gz m F h=>∃(k:Nat),(k<=xs.length)/\(xs.take k=ys.take k)/\F=sF [0,1,12] fz [(13,.i k)]/\h=gz/\m=xs.length-k) _ _ _ ⟨0,ob,ob,U,U,U⟩ (wk []<|Y7 fl) ?_;rintro m F h ⟨k,Ye,Zk,rfl,rfl,rfl⟩;refine ZB<|aq (XK ((k:Int)<(xs.length:Int)) (fun Zf=>?_) fun Zf=>?_)
 .refine ak<|aq<|ab 1<|ZB<|aD 9<|Zi 7 9 [0,1] ?_;obtain ⟨x1,Z3⟩:=Zs xs k om;refine dx 2 (Zl none (k:Int) 1<|Y3 Z3)<|Zi 3 6 [3,4,5] ?_;obtain ⟨x2,Zr⟩:=Zs ys k om;refine dx 6 (Zl none (k:Int) 1<|Y3 Zr)<|Zi 0 2 [7,8]<|de (ac (x1 != x2) Yb (fun ZA=>?_) fun ZA=>?_)
  .exact ar<|Zp<|ZW (.b false)<|lb<|eq_comm.1 (decide_eq_false fun q=>by subst q;rw [Z3] at Zr;cases Zr;exact ZA rfl)
  refine ak<|az<|ZI k<|Z0 ?_;have hdr:=Yc Z3;exact ZK ⟨k+1,ob,(by rw [WO Z3,WO Zr,Zk];have hxx:x1=x2:=om;rw [hxx]),rfl,rfl,rfl⟩<|wk []<|ZM k fl
 exact ax 0<|ar<|Zp<|ZW (.b true)<|lb<|eq_comm.1<|decide_eq_true (by rw [Vc om,Vc om] at Zk;exact Zk)
def Zl0 (m:Nat) (hm:m<=4294967296:=by exact ob):Zj 223 [nl,.i m] [] (fun r h=>∃(v:Hd),r=.h v/\h=[rV v []]):=by
 refine ZF 27 Tryz.func223 (T0 A8<|CS (F':=[(0,.h hN),(1,.i m)]) (h':=[rV hN []]) (wk [0]<|fc (x:=nl) (Zd.hd (v:=hN))<| fc (x:=.i m) (lr _)<|RK _)<|ZB<|X6 (Y4 ((m:Int)<0) (fun Za=>?_) fun Za=>?_))
 .exfalso;omega
 refine ak<|YE 2<|Zo (XH.le (Z4r hN)<|li<|by rfl)<|Z1 1<|Zo (XH.le (Aa 0 hN [])<|li<|by rfl)<|ia ((0-0)) ((0)-(0))<|ia ((m:Int)) (((m:Int))-((0-0)))<|Z0<|ar (Y4 ((m:Int)>0) (fun Zf=>?_) fun Zf=>?_)
 .exact az<|Z1 2<|Zo (XH.le (Z4r hN)<|li<|by rfl)<|Zo (J5 0 hN [] 0)<|Z1 1 (iZ m fun v1=>Z1 1<|Zo (XH.le (Aa 1 hN [])<|li<|by rfl)<|Zo (J5 0 v1 (List.replicate m 0) 0)<|Z0<|ZB<|T0 (Do 0 0 v1<|List.replicate m 0)<|ZC<|r1 [0] ⟨(v1.cut 0),rfl,rfl⟩ (eq:=(rv (xs:=((List.replicate m 0).take 0)) ob rz)))
 exact ak<|ar<|Zp<|r1 [0] ⟨hN,U,U⟩
def Zkz (xss:List LI) (hl_xss:xss.length<=4294967296:=by exact ob) (hf:xss.flatten.length<=4294967296:=by exact ob):Zj 197 [KU xss] [] (fun r h=>∃(v:Value),r=ZT xss.flatten v/\h=[.tail v 1]):=by
 have hft:=RJ xss;refine ZF 36 Tryz.func197<|ZB<|ZB<|YE 1<|iw (GR xss)<|Z0<|ab 0<|Y2 (fun fz gz m F h=>∃(k:Nat) (q:Nat),(k<=xss.length)/\(q=(xss.take k).flatten.length)/\F=sF [0,9,10] fz [(3,.i q),(11,.i k)]/\h=gz/\m=xss.length-k) _ _ _ ⟨0,0,ob,(by simp),rfl,rfl,rfl⟩ (wk []<|Y7<|Y7 fl) ?_;rintro m F h ⟨k,q,Ye,Zk,rfl,rfl,rfl⟩;refine ZB<|aq (XK ((k:Int)<(xss.length:Int)) (fun Za=>?_) fun Za=>?_)
 .refine ak<|aq<|ab 1<|ar ?_;obtain ⟨x1,Z3⟩:=Zs xss k om;refine Zo (Zl none (k:Int) 1<|AL Z3) (Z0<|Y5 2<|iw (Yg x1)<|ia (((q+x1.length:Nat):Int)) (((q:Int))+((x1.length:Int))) (hb:=(by have:=RI Z3;omega))<|Z0<|ar (Y4 (((q+x1.length:Nat):Int)<0) (fun Zf=>?_) fun Zf=>?_))
  .exfalso;omega
  refine ak<|az<|ZI k<|Z0 ?_;have hdr:=Yc Z3;exact ZK ⟨k+1,q+x1.length,ob,(by rw [M1 Z3,Yy,Zk]),rfl,rfl,rfl⟩<|wk []<|fc (x:=.i (q+x1.length:Nat)) li<|ZM k fl
 refine ax 0<|Y5 1<|ic [] (Zl0 q (hm:=(by have:=hft k;omega))) ?_;rintro _ _ ⟨v1,rfl,rfl⟩;refine Z0<|YE 1<|iw (GR xss)<|Z0<|ab 2<|Y2 (fun fz gz m F h=>∃(j:Nat) (v:Hd),(j<=xss.length)/\F=sF [25,26] fz [(6,.h v),(27,.i j)]/\h=[rV v ((xss.take j).flatten)]/\m=xss.length-j) _ _ _ ⟨0,v1,ob,U,U,U⟩ (wk [0] (fr<|Y7 fl) (e:=(rv (xs:=[]) ob rz))) ?_;rintro m F h ⟨j,v,VZ,rfl,rfl,rfl⟩;refine ZB<|aq (XK ((j:Int)<(xss.length:Int)) (fun ZA=>?_) fun ZA=>?_)
 .refine ak<|aq<|ab 3<|ar ?_;obtain ⟨x2,Zr⟩:=Zs xss j om;refine Zo (Zl none (j:Int) 1<|AL Zr)<|Z0<|az<|Z1 2 (KR 0 v ((xss.take j).flatten) x2 none (hbound:=(by have:=RI Zr;omega)) fun v2=>Z0<|az<|ZI j<|Z0 ?_);have hdr:=Yc Zr;exact ZK ⟨j+1,v2,ob,U,U,U⟩<|wk [0] (fr<|ZM j fl) (e:=(rv (xs:=((xss.take j).flatten++x2)) (M1 Zr).symm rz))
 exact ax 2<|ZB<|Gk 2 0 (v:=v) (xs:=(xss.take j).flatten)<|ZC<|r2 [0] [ZT ((xss.take j).flatten) v.v] ⟨v.v,rfl,rfl⟩<|Zd.slh _<|Ys Z7<|by rw [Vc om]
def Hl (ds:List Zh) (t:Int) (hl_ds:ds.length<=4294967296:=by exact ob):Zj 98 [ZQ ds,.i t] [] (fun r h=>r=.b (decide (0<=t/\t<=ds.length))/\h=[]):=by
 refine ZF 13 Tryz.func98<|ZB<|ar (XD 8 [] [(12,.b ((decide (t>=0))&&(decide (t<=(ds.length:Int)))))] (fun gz=>gz) ?_ fun hj1=>?_)
 .exact Zp<|ZW (.b ((decide (t>=0))&&(decide (t<=(ds.length:Int)))))<|lb (by rw [XE];simp)
 refine Z1 3 (ib (b:=(decide (t>=0))) 7 (fun Zb=>?_) fun Zb=>?_)
 .exact Z1 2<|iw (Uy ds)<|Z1 2<|Yt (wk []<|Zu (decide (t<=(ds.length:Int))) Zb fl) hj1
 exact Z1 5<|Yt (wk []<|Zu false Zb fl) hj1
def Sn (ds:List Zh) (xs:LI) (hl_ds:ds.length<=4294967296:=by exact ob) (hl_xs:xs.length<=4294967296:=by exact ob):Zj 97 [ZQ ds,Z5 xs] [] (Yr<|.b<|WB ds.length xs):=by
 refine ZF 18 Tryz.func97<|ZB<|YE 1<|iw (Yg xs)<|Z0<|ab 0<|Y2 (fun fz gz m F h=>∃(k:Nat),(k<=xs.length)/\(WB ds.length (xs.drop k)=WB ds.length xs)/\F=sF [0,7,8] fz [(9,.i k)]/\h=gz/\m=xs.length-k) _ _ _ ⟨0,ob,ob,U,U,U⟩ (wk []<|Y7 fl) ?_;rintro m F h ⟨k,Ye,Zk,rfl,rfl,rfl⟩;refine ZB<|aq (XK ((k:Int)<(xs.length:Int)) (fun Za=>?_) fun Za=>?_)
 .refine ak<|aq<|ab 1<|ar ?_;obtain ⟨x1,Z3⟩:=Zs xs k om;refine Zo (Zl none (k:Int) 1<|Y3 Z3)<|Z0<|Y5 2<|Zx [] (Hl ds x1) (YH (!(decide (0<=x1/\x1<=ds.length))) (p:=¬(0<=x1/\x1<=ds.length)) (Yp dq) (fun Zf=>?_) fun Zf=>?_)
  .refine ZB ?_;rw [Yc Z3] at Zk;exact ZC<|ZW (.b false)<|lb (by clear Z3;first|rfl|omega|grind [WB])
  refine ak<|az<|ZI k<|Z0 ?_;have hdr:=Yc Z3;exact ZK ⟨k+1,ob,(by rw [hdr] at Zk;clear hdr Z3;grind [WB]),rfl,rfl,rfl⟩<|wk []<|ZM k fl
 refine ax 0 (ZB ?_)
 try rw [Xk (xs:=xs) (k:=k) om] at Zk
 exact ZC<|ZW (.b true)<|lb<|by first|rfl|omega|grind [WB]
def Zem (ds:List Zh) (hd:Wq ds:=by exact ob):Zj 143 [ZQ ds] [] (Yr<|.i (YX ds:Nat)):=by
 have hdl:=hd.len;refine ZF 19 Tryz.func143<|ZB<|ZB<|YE 1<|iw (Uy ds)<|Z0<|ab 0<|Y2 (fun fz gz m F h=>∃(k:Nat),(k<=ds.length)/\F=sF [6,7] fz [(3,.i ((YX (ds.take k):Nat):Int)),(8,.i k)]/\h=gz/\m=ds.length-k) _ _ _ ⟨0,ob,U,U,U⟩ (wk []<|Y7<|Y7 fl) ?_;rintro m F h ⟨k,Ye,rfl,rfl,rfl⟩;refine ZB<|aq (XK ((k:Int)<(ds.length:Int)) (fun Za=>?_) fun Za=>?_)
 .refine ak<|aq<|ab 1<|ar ?_;obtain ⟨x1,Z3⟩:=Zs ds k om;refine Zo (Zl none (k:Int) 3<|V6 Z3)<|Z1 1 (iA [.i 0,.i 0,nl] fun b1=>ZD 0 b1 (Qf x1)<|ie<|az<|ZL 3 [0]<|iw (UJ x1.cons)<|ia (((YX (ds.take k)+x1.cons.length:Nat):Int)) ((((YX (ds.take k):Nat):Int))+((x1.cons.length:Int))) (hb:=(by have h1:=hd.cons_at Z3;have h2:=(hd.take k).sum;omega))<|Z0<|az<|ZI k<|Z0 ?_);have hdr:=Yc Z3;exact ZK ⟨k+1,ob,rfl,rfl,rfl⟩<|wk []<|fc (x:=.i ((YX (ds.take k)+x1.cons.length:Nat):Int)) (li<|by rw [WO Z3,EX];simp [YX])<|ZM k fl
 exact ax 0<|ar<|Zp<|ZW (.i ((YX (ds.take k):Nat):Int))<|li<|by rw [Vc om]
def Sp (ds:List Zh) (c:Int) (hd:Wq ds:=by exact ob) (hc:-9223372036854775808<=c/\c<=9223372036854775807:=by exact ob):Zj 144 [ZQ ds,.i c] [] (Yr<|.tup [.i (Wx ds c),.agg [Z5 (ZZ ds c)]]):=by
 have hdl:=hd.len;refine ZF 38 Tryz.func144<|Y5 1 (iA [nl] fun b1=>?_);refine ie<|YE 1<|iw (Uy ds)<|Z0<|ab 0<|Y2 (fun fz gz m F h=>∃(k:Nat) (cv:Int),(k<=ds.length)/\(BY c (YX<|ds.take k) cv)/\(TP c (ds.drop k) k (YX<|ds.take k)=TP c ds 0 0)/\F=sF [5,8,9] fz [(1,.i cv),(10,.i k)]/\h=gz/\m=ds.length-k) _ _ _ ⟨0,c,ob,(.inl<|by simp [YX]),rfl,rfl,rfl,rfl⟩ (wk [0]<|fr<|Y7 fl) ?_;rintro m F h ⟨k,cv,Ye,Zk,Zw,rfl,rfl,rfl⟩;refine ZB<|aq (XK ((k:Int)<(ds.length:Int)) (fun Za=>?_) fun Za=>?_)
 .refine ak<|aq<|ab 1<|Y5 1 ?_;obtain ⟨x1,Z3⟩:=Zs ds k om;refine Zo (Zl none (k:Int) 3<|V6 Z3)<|Z1 1 (iA [.i 0,.i 0,nl] fun b2=>Z1 1<|ZD 0 b2 (Qf x1)<|ie<|X6<|Xu [1,5,6,7,8,9,10] [(23,.b ((decide (cv>=0))&&(decide (cv<(x1.cons.length:Int)))))] (fun gz=>gz) ?_ ?_)
  .refine Z1 3 (ib (b:=(decide (cv>=0))) 17 (fun Zb=>?_) fun Zb=>?_)
   .exact ZL 3 [0]<|iw (UJ x1.cons)<|Z0<|wk [0,0]<|Zu (decide (cv<(x1.cons.length:Int))) Zb fl
   exact Z0<|wk [0,0]<|Zu false Zb fl
  refine ac ((decide (cv>=0))&&(decide (cv<(x1.cons.length:Int)))) (p:=(cv>=0)/\(cv<(x1.cons.length:Int))) (YN dq dq) (fun Zf=>?_) fun Zf=>?_
  .refine aD 9<|Zi 8 9 [0]<|da 1 (((k+1:Nat):Int)) (((k:Int))+(1))<|ZJ 4 7 [2,3,4] [0] ?_;obtain ⟨x2,Zr⟩:=Zs x1.cons cv.toNat om;refine dx 5 (Zl none cv 1<|Bh Zr)<|Zi 1 3 [6,7]<|Z9 8<|YO 8 1 [] [] b1 (Ee x2)<|de ?_;have hz:=(hd.take k).sum;have h3:=hd.cons_at Z3;have hH:=Zw.symm.trans (Z8r Z3 Zk om h3 hc.1 Zf Zr);exact ZC<|r3 [] [.i (k+1:Nat),Dz x2] [0] [(b1,b1)] ⟨rfl,rfl⟩<|Zd.tup<|.cons (li<|by rw [Wx,hH];omega)<|.cons (Zd.agg<|.cons (Zd.sl _<|Ys Z7<|by rw [ZZ,hH]) .nil) .nil
  refine ak<|az<|ZL 3 [0]<|iw (UJ x1.cons)<|iW ((cv)-((x1.cons.length:Int)))<|Z0<|az<|ZI k<|Z0 ?_;have hdr:=Yc Z3;exact ZK ⟨k+1,(Dq ((cv)-((x1.cons.length:Int)))),ob,(by have hz:=(hd.take k).sum;have h3:=hd.cons_at Z3;rw [WO Z3,EX];simpa [YX] using Z76 Zk om h3 hc),(Z8p Z3 Zk Zf Zw),rfl,rfl,rfl⟩<|wk [1]<|fr<|ZM k fl
 refine ax 0<|Y5 2<|ZD 0 b1 [nl]<|ie ?_;have hH:TP c ds 0 0=(-1,[]):=by rw [<-Zw,Xk om];rfl
 exact ZC<|r3 [] [.i (-1),.agg [nl]] [0] [(b1,b1)] ⟨rfl,rfl⟩<|Zd.tup<|.cons (li<|by rw [Wx,hH])<|.cons (Zd.agg<|.cons (Zd.sl _<|by rw [ZZ,hH];rfl) .nil) .nil
def Zeq (ds:List Zh) (c:Int) (hd:Wq ds:=by exact ob) (hc:-9223372036854775808<=c/\c<=9223372036854775807:=by exact ob):Zj 102 [ZQ ds,.i c] [] (Yr<|Z5<|ZZ ds c):=by
 exact ZF 15 Tryz.func102<|ZB<|Y5 2<|Zx [] (Sp ds c)<|Z1 3 (iA [nl] fun b1=>Z1 1<|ZD 0 b1 [Z5 (ZZ ds c)]<|ie<|Bn [0]<|ZC<|EC)
def Zen (ds:List Zh) (t:Int) (hd:Wq ds:=by exact ob):Zj 101 [ZQ ds,.i t] [] (Yr<|Z5<|Y1 ds t):=by
 have hdl:=hd.len;refine ZF 39 Tryz.func101<|ZB<|X6<|Xu [0,1] [(15,.b ((decide (t<1))||(decide (t>(ds.length:Int)))))] (fun gz=>gz) ?_ ?_
 .refine Z1 3 (ib (b:=(decide (t<1))) 10 (fun Zb=>?_) fun Zb=>?_)
  .exact Z0<|wk []<|Zu true Zb fl
  exact Z1 2<|iw (Uy ds)<|Z0<|wk []<|Zu (decide (t>(ds.length:Int))) Zb fl
 refine ac ((decide (t<1))||(decide (t>(ds.length:Int)))) (p:=(t<1)∨(t>(ds.length:Int))) (Yi dq dq) (fun Za=>?_) fun Za=>?_
 .exact ar<|Zp<|ZW (nl)<|Zd.sl _ (by rw [Y1,Z8 om];rfl)
 have hti:1<=t/\t<=ds.length:=by omega
 obtain ⟨d,hd1⟩:=Zs ds ((t-1).toNat) om;have hdc:=hd.cons_at hd1;have hsm:=(hd.take (t-1).toNat).sum;refine ak (Y5 2 (ia ((((t-1).toNat:Nat):Int)) ((t)-(1)) (Zo (JC (es:=YF ds) (hv:=none) (l:=0) (m:=(((t-1).toNat:Nat):Int)) (sz:=3) (es':=YF (ds.take ((t-1).toNat))) kr om (by simp<;>omega) (by simp<;>omega) (Jl _) (by first|(simp only [Ua,VP,DP,DO];done)|(simp only [Ua,VP,DP,DO];rfl)|(simp [DP,DO];done))) (Zx [] (Zem (ds.take ((t-1).toNat)) (hd:=(hd.take _))) (Z0 (ZB (YE 2 (ia ((((t-1).toNat:Nat):Int)) ((t)-(1)) (Zo (Zl none (((t-1).toNat:Nat):Int) 3 (V6 hd1)) (Z1 2 (iw (UJ d.cons) (Z0 (ab 0 (Qv 1 (Y2 (fun fz gz m F h=>∃(k:Nat) (v:Value),(k<=d.cons.length)/\F=sF [5,27] fz [(6,ZT (U4 (YX (ds.take (t-1).toNat)) k) v),(28,.i k)]/\h=[.tail v 1]/\m=d.cons.length-k) _ _ _ ⟨0,(.slice none 0 0),ob,rfl,rfl,rfl⟩ (wk [0] (fc (x:=nl) (Zd.slh _ rfl) (Y7 fl))) ?_)))))))))))))));rintro m F h ⟨k,v,Ye,rfl,rfl,rfl⟩;refine ZB (aq (XK ((k:Int)<(d.cons.length:Int)) (fun Zf=>?_) fun Zf=>?_))
 .exact ak<|aq<|ab 1<|ZB<|az<|Z1 3<|ia ((((YX<|ds.take<|(t-1).toNat)+k:Nat):Int)) ((((YX (ds.take<|(t-1).toNat):Nat):Int))+((k:Int))) (iL (Z7 [(((YX<|ds.take<|(t-1).toNat)+k:Nat):Int)]) 1 1 fun v1=>ZY 0 [(35,Z5 [(((YX<|ds.take<|(t-1).toNat)+k:Nat):Int)])] (ip 1 (Z7 (U4 (YX<|ds.take (t-1).toNat) k++[(((YX<|ds.take<|(t-1).toNat)+k:Nat):Int)])) (Z7<|U4 (YX<|ds.take (t-1).toNat) k) (Z7 [(((YX<|ds.take<|(t-1).toNat)+k:Nat):Int)]) v none 1 (YJ _) (YJ _) (Wk _) (by simp;omega) (by simp [Wj,Z7]) fun v2=>Z0<|az<|ZI k<|Z0<|ZK ⟨k+1,v2,ob,rfl,rfl,rfl⟩<|wk [0]<|fc (x:=ZT (U4 (YX<|ds.take (t-1).toNat) k++[(((YX<|ds.take<|(t-1).toNat)+k:Nat):Int)]) v2) (Zd.slh _<|Ys Z7 (Z19 _ _).symm)<|ZM k fl))
 exact ax 0<|ar<|Zp<|ZW (ZT (U4 (YX<|ds.take (t-1).toNat) k) v)<|Zd.sl _<|Ys Z7 (by rw [Y1,Zg hti,hd1,show k=d.cons.length by omega];rfl)
def Hk (ds:List Zh) (t:Int) (hd:Wq ds:=by exact ob):Zj 153 [ZQ ds,.i t] [] (Yr<|.tup [Ba (Ui ds t),.b<|Wd ds t]):=by
 have hdl:=hd.len;refine ZF 30 Tryz.func153<|ar (iA [.i 0,.i 0,nl] fun b1=>Z0<|X6 (XD 8 [0,1,4] [(13,.b ((decide (t<1))||(decide (t>(ds.length:Int)))))] (fun gz=>gz) ?_ fun hj1=>?_))
 .refine Z1 1 (ib (b:=((decide (t<1))||(decide (t>(ds.length:Int))))) 14 (fun Zb=>?_) fun Zb=>?_)
  .have ZX:(t<1)∨(t>(ds.length:Int)):=((Yi dq dq)).1 Zb;refine Z0<|Wc<|Y5 1<|ZD 0 b1 [.i 0,.i 0,nl]<|Z0 ?_;have hA:Wd ds t=false:=(Mw om).symm;have hD:Ui ds t=⟨0,0,[]⟩:=by rw [Ui,hA];rfl
   exact ZC<|r3 [] [.agg [.i 0,.i 0,nl],.b false] [0] [(b1,b1)] ⟨rfl,rfl⟩<|Zd.tup<|.cons (Zd.agg<|.cons (li<|by rw [hD])<|.cons (li<|by rw [hD])<|.cons (Zd.sl _<|by rw [hD];rfl) .nil)<|.cons (lb<|by rw [hA]) .nil
  have Yf:¬((t<1)∨(t>(ds.length:Int))):=Y8 (Yi dq dq) Zb;refine Z1 2<|ia ((t-1)) ((t)-(1)) ?_;obtain ⟨x1,Z3⟩:=Zs ds ((t-1).toNat) om;refine Zo (Zl none (t-1) 3<|V6 Z3)<|Z1 2<|iw (UJ x1.cons) (Y4 ((x1.cons.length:Int)>0) (fun Za=>?_) fun Za=>?_)
  .refine Y5 1<|ZD 0 b1 [.i 0,.i 0,nl]<|Z0 ?_;have hA:Wd ds t=false:=(Hr om Z3).symm.trans (beq_eq_false_iff_ne.2 om);have hD:Ui ds t=⟨0,0,[]⟩:=by rw [Ui,hA];rfl
   exact ZC<|r3 [] [.agg [.i 0,.i 0,nl],.b false] [0] [(b1,b1)] ⟨rfl,rfl⟩<|Zd.tup<|.cons (Zd.agg<|.cons (li<|by rw [hD])<|.cons (li<|by rw [hD])<|.cons (Zd.sl _<|by rw [hD];rfl) .nil)<|.cons (lb<|by rw [hA]) .nil
  refine ak<|Y5 2<|ia ((t-1)) ((t)-(1))<|Zo (Zl none (t-1) 3<|V6 Z3)<|Z1 1<|ZD 0 b1 (Qf x1)<|Z0 ?_;have hA:Wd ds t=true:=(Hr om Z3).symm.trans (Zq.2 om);have hD:Ui ds t=x1:=by rw [Ui,hA,Z3];rfl
  exact ZC<|r3 [] [Ba x1,.b true] [0] [(b1,b1)] ⟨rfl,rfl⟩<|Zd.tup<|.cons (Zd.agg<|.cons (li<|by rw [hD])<|.cons (li<|by rw [hD])<|.cons (Zd.sl _<|Ys XW<|by rw [hD]) .nil)<|.cons (lb<|by rw [hA]) .nil
 refine Z1 3 (ib (b:=(decide (t<1))) 8 (fun ZE=>?_) fun ZE=>?_)
 .have YK:t<1:=(dq).1 ZE;exact Z1 5<|Yt (wk [0]<|Zu true ZE fl) hj1
 have YW:¬(t<1):=Y8 dq ZE;exact Z1 2<|iw (Uy ds)<|Z1 2<|Yt (wk [0]<|Zu (decide (t>(ds.length:Int))) ZE fl) hj1
def Zeh (ds:List Zh) (frm to_:Int) (hl_ds:ds.length<=4294967296:=by exact ob):Zj 199 [ZQ ds,.i frm,.i to_] [] (Yr<|.i<|UP ds frm to_):=by
 refine ZF 35 Tryz.func199<|ZB<|YE 1<|iw (Uy ds)<|Z0<|ab 0<|Y2 (fun fz gz m F h=>∃(k:Nat),(k<=ds.length)/\(Jd frm to_ (ds.drop k) k=UP ds frm to_)/\F=sF [1,2,9,10] fz [(11,.i k)]/\h=gz/\m=ds.length-k) _ _ _ ⟨0,ob,U,U,U,U⟩ (wk []<|Y7 fl) ?_;rintro m F h ⟨k,Ye,Zk,rfl,rfl,rfl⟩;refine ZB<|aq (XK ((k:Int)<(ds.length:Int)) (fun Za=>?_) fun Za=>?_)
 .refine ak<|aq<|ab 1<|Y5 1 ?_;obtain ⟨x1,Z3⟩:=Zs ds k om;refine Zo (Zl none (k:Int) 3<|V6 Z3)<|Z1 1 (iA [.i 0,.i 0,nl] fun b1=>Z1 1<|ZD 0 b1 (Qf x1)<|ie<|Zt 2 [0]<|iw (UJ x1.cons) (XD 10 [1,2,7,8,9,10,11] [(25,.b (((x1.cons.length:Int)==0)&&(x1.frm==frm)))] (fun gz=>gz) ?_ fun hj1=>?_))
  .refine Xu [1,2,7,9,10,11] [(31,.b ((((x1.cons.length:Int)==0)&&(x1.frm==frm))&&(x1.to_==to_)))] (fun gz=>gz) ?_ ?_
   .refine Z1 1 (ib (b:=(((x1.cons.length:Int)==0)&&(x1.frm==frm))) 26 (fun Zb=>?_) fun Zb=>?_)
    .exact U6 [0]<|wk [0]<|Zu (x1.to_==to_) Zb fl
    exact Z0<|wk [0]<|Zu false Zb fl
   refine ac ((((x1.cons.length:Int)==0)&&(x1.frm==frm))&&(x1.to_==to_)) (p:=(((x1.cons.length:Int)=0)/\(x1.frm=frm))/\(x1.to_=to_)) (YN (YN Zq Zq) Zq) (fun Zf=>?_) fun Zf=>?_
   .refine Y5 1<|ZI k<|Z0 ?_;rw [Yc Z3] at Zk;exact ZC<|ZW (.i (k+1:Nat))<|li (by clear Z3;first|rfl|omega|grind [Jd])
   refine ak<|az<|ZI k<|Z0 ?_;have hdr:=Yc Z3;exact ZK ⟨k+1,ob,(by rw [hdr] at Zk;clear hdr Z3;grind [Jd]),rfl,rfl,rfl⟩<|wk []<|ZM k fl
  refine Z1 2 (ib (b:=((x1.cons.length:Int)==0)) 20 (fun ZE=>?_) fun ZE=>?_)
  .exact ZL 5 [0]<|Yt (wk [0]<|Zu (x1.frm==frm) ZE fl) hj1
  exact Z1 5<|Yt (wk [0]<|Zu false ZE fl) hj1
 refine ax 0 (ZB ?_)
 try rw [Xk (xs:=ds) (k:=k) om] at Zk
 exact ZC<|ZW (.i (-1))<|li<|by first|rfl|omega|grind [Jd]
def Zef (ds:List Zh) (hz:Ja ds:=by exact ob):Zj 96 [ZQ ds] [] (Yr<|.b<|Vf ds):=by
 have hzl:=hz.len;refine ZF 106 Tryz.func96<|ZB<|YE 1<|iw (Uy ds) (Y4 ((ds.length:Int)>4) (fun Za=>?_) fun Za=>?_)
 .exact ar<|Zp<|ZW (.b false)<|lb (by rw [Vf,decide_eq_false om];rfl)
 refine ak<|YE 1<|iw (Uy ds)<|Z0<|ab 0<|Y2 (fun fz gz m F h=>∃(k:Nat),(k<=ds.length)/\(TQ ds (ds.drop k) k=TQ ds ds 0)/\F=sF [0,12,13] fz [(14,.i k)]/\h=gz/\m=ds.length-k) _ _ _ ⟨0,ob,U,U,U,U⟩ (wk []<|Y7 fl) ?_;rintro m F h ⟨k,Ye,Zk,rfl,rfl,rfl⟩;refine ZB<|aq (XK ((k:Int)<(ds.length:Int)) (fun Zf=>?_) fun Zf=>?_)
 .refine ak<|aq<|ab 1<|Y5 1 ?_;obtain ⟨x1,Z3⟩:=Zs ds k om;have hz1:=hz.cons_at Z3;refine Zo (Zl none (k:Int) 3<|V6 Z3)<|Z1 1 (iA [.i 0,.i 0,nl] fun b1=>Z1 1<|ZD 0 b1 (Qf x1)<|ie<|Yh 3 [0]<|Zx [] (Hl ds x1.frm) (XD 12 [0,3,4,12,13,14] [(30,.b ((!(decide (0<=x1.frm/\x1.frm<=ds.length)))||(!(decide (0<=x1.to_/\x1.to_<=ds.length)))))] (fun gz=>gz) ?_ fun hj1=>?_))
  .refine XD 18 [0,3,4,12,13,14] [(36,.b (((!(decide (0<=x1.frm/\x1.frm<=ds.length)))||(!(decide (0<=x1.to_/\x1.to_<=ds.length))))||(decide ((x1.cons.length:Int)>3))))] (fun gz=>gz) ?_ fun hj2=>?_
   .refine Xu [0,3,4,12,13,14] [(52,.b ((((!(decide (0<=x1.frm/\x1.frm<=ds.length)))||(!(decide (0<=x1.to_/\x1.to_<=ds.length))))||(decide ((x1.cons.length:Int)>3)))||((decide ((x1.cons.length:Int)>0))&&((x1.frm != 0)||(x1.to_ != 0)))))] (fun gz=>gz) ?_ ?_
    .refine Z1 1 (ib (b:=(((!(decide (0<=x1.frm/\x1.frm<=ds.length)))||(!(decide (0<=x1.to_/\x1.to_<=ds.length))))||(decide ((x1.cons.length:Int)>3)))) 37 (fun Zb=>?_) fun Zb=>?_)
     .have ZX:((¬(0<=x1.frm/\x1.frm<=ds.length))∨(¬(0<=x1.to_/\x1.to_<=ds.length)))∨((x1.cons.length:Int)>3):=((Yi (Yi (Yp dq)<|Yp dq) dq)).1 Zb;exact Z0<|wk [0]<|Zu true Zb fl
     have Yf:¬(((¬(0<=x1.frm/\x1.frm<=ds.length))∨(¬(0<=x1.to_/\x1.to_<=ds.length)))∨((x1.cons.length:Int)>3)):=Y8 (Yi (Yi (Yp dq)<|Yp dq) dq) Zb;refine ZL 2 [0]<|iw (UJ x1.cons)<|Z1 2 (ib (b:=(decide ((x1.cons.length:Int)>0))) 42 (fun ZE=>?_) fun ZE=>?_)
     .have YK:(x1.cons.length:Int)>0:=(dq).1 ZE;refine ZL 4 [0] (ib (b:=(x1.frm != 0)) 46 (fun Yx=>?_) fun Yx=>?_)
      .have YW:x1.frm≠0:=(Yb).1 Yx;exact Z0<|wk [0]<|Zu true (And.intro Zb<|And.intro ZE Yx) fl
      have Xl:¬(x1.frm≠0):=Y8 Yb Yx;exact U6 [0]<|wk [0]<|Zu (x1.to_ != 0) (And.intro Zb<|And.intro ZE Yx) fl
     have XS:¬((x1.cons.length:Int)>0):=Y8 dq ZE;exact Z0<|wk [0]<|Zu false (And.intro Zb ZE) fl
    refine ac ((((!(decide (0<=x1.frm/\x1.frm<=ds.length)))||(!(decide (0<=x1.to_/\x1.to_<=ds.length))))||(decide ((x1.cons.length:Int)>3)))||((decide ((x1.cons.length:Int)>0))&&((x1.frm != 0)||(x1.to_ != 0)))) (p:=(((¬(0<=x1.frm/\x1.frm<=ds.length))∨(¬(0<=x1.to_/\x1.to_<=ds.length)))∨((x1.cons.length:Int)>3))∨(((x1.cons.length:Int)>0)/\((x1.frm≠0)∨(x1.to_≠0)))) (Yi (Yi (Yi (Yp dq)<|Yp dq) dq)<|YN dq<|Yi Yb Yb) (fun ZA=>?_) fun ZA=>?_
    .exact ar<|Zp<|ZW (.b false)<|lb<|Oe Z3 (Z9n ZA) Zk
    refine ak<|Yh 2 [0]<|iw (UJ x1.cons)<|Z0<|ab 2<|Y2 (fun fz gz m F h=>∃(q:Nat),(q<=x1.cons.length)/\(Ql ds.length (x1.cons.drop q)=Ql ds.length x1.cons)/\F=sF [0,3,4,12,13,14,54,55] fz [(56,.i q)]/\h=gz/\m=x1.cons.length-q) _ _ _ ⟨0,ob,U,U,U,U⟩ (wk [0]<|Y7 fl) ?_;rintro m F h ⟨q,VZ,XB,rfl,rfl,rfl⟩;refine ZB<|aq (XK ((q:Int)<(x1.cons.length:Int)) (fun Ym=>?_) fun Ym=>?_)
    .refine ak<|aq<|ab 3<|ar ?_;obtain ⟨x2,Zr⟩:=Zs x1.cons q om;refine Zo (Zl none (q:Int) 1<|Bh Zr)<|Z1 1 (iA [nl] fun b2=>ZD 0 b2 (Ee x2)<|ie<|Zt 2 [0]<|iw (Yg x2.fields)<|Xu [0,3,4,12,13,14,54,55,56] [(70,.b ((decide ((x2.fields.length:Int)>3))||(!WB ds.length x2.fields)))] (fun gz=>gz) ?_ ?_)
     .refine Z1 2 (ib (b:=(decide ((x2.fields.length:Int)>3))) 64 (fun Xa=>?_) fun Xa=>?_)
      .have Wv:(x2.fields.length:Int)>3:=(dq).1 Xa;exact Z0<|wk [0,0]<|Zu true Xa fl
      have WS:¬((x2.fields.length:Int)>3):=Y8 dq Xa;exact ZL 3 [0]<|Zx [] (Sn ds x2.fields)<|Z0<|wk [0,0]<|Zu (!WB ds.length x2.fields) Xa fl
     refine ac ((decide ((x2.fields.length:Int)>3))||(!WB ds.length x2.fields)) (p:=((x2.fields.length:Int)>3)∨(¬(WB ds.length x2.fields=true))) (Yi dq<|Yp Iff.rfl) (fun Xm=>?_) fun Xm=>?_
     .exact ar<|Zp<|ZW (.b false)<|lb<|Oe Z3 (Z9o om<|by rw [<-XB,Yc Zr,Ql,Z8 (by rw [Z8s Xm];simp)]) Zk
     refine ak<|az<|ZI q<|Z0 ?_;have hdr:=Yc Zr;exact ZK ⟨q+1,ob,(by rw [Yc Zr,Ql,Zg<|Z8t Xm] at XB;exact XB),rfl,rfl,rfl⟩<|wk [1]<|ZM q fl
    have hC:Ql ds.length x1.cons=true:=by rw [<-XB,Xk om];rfl
    refine ax 2<|Y5 2<|Zo (JC (es:=YF ds) (hv:=none) (l:=0) (m:=(k:Int)) (sz:=3) (es':=YF (ds.take k)) kr om (by simp<;>omega) (by simp<;>omega) (Jl _)<|by first|(simp only [Ua,VP,DP,DO];done)|(simp only [Ua,VP,DP,DO];rfl)|(simp [DP,DO];done))<|io (.i (((ds.take k).length:Nat):Int)) (.i (((YF<|ds.take k).length:Nat):Int)) (li<|by rw [Uy])<|Z0<|ab 4<|Y2 (fun fz gz m F h=>∃(j:Nat),(j<=k)/\(x1.cons.length=0->KL x1 ((ds.take k).drop j)=KL x1 (ds.take k))/\F=sF [0,4,12,13,14,74,75] fz [(76,.i j)]/\h=gz/\m=k-j) _ _ _ ⟨0,ob,ob,rfl,rfl,rfl⟩ (wk [0]<|Y7 fl) ?_;rintro m F h ⟨j,Pi,Gu,rfl,rfl,rfl⟩;refine ZB<|aq (XK ((j:Int)<(((ds.take k).length:Nat):Int)) (fun Xs=>?_) fun Xs=>?_)
    .have htl:(ds.take k).length<=k:=by rw [WK];omega
     refine ak<|aq<|ab 5<|ar ?_;obtain ⟨x3,YG⟩:=Zs (ds.take k) j om;refine Zo (Zl none (j:Int) 3<|V6 YG)<|Z1 1 (iA [.i 0,.i 0,nl] fun b3=>ZD 0 b3 (Qf x3)<|ie<|Zt 2 [1]<|iw (UJ x1.cons) (XD 10 [0,4,8,12,13,14,74,75,76] [(89,.b (((x1.cons.length:Int)==0)&&((x3.cons.length:Int)==0)))] (fun gz=>gz) ?_ fun hj3=>?_))
     .refine XD 17 [0,4,8,12,13,14,74,75,76] [(96,.b ((((x1.cons.length:Int)==0)&&((x3.cons.length:Int)==0))&&(x3.frm==x1.frm)))] (fun gz=>gz) ?_ fun hj4=>?_
      .refine Xu [0,4,12,13,14,74,75,76] [(103,.b (((((x1.cons.length:Int)==0)&&((x3.cons.length:Int)==0))&&(x3.frm==x1.frm))&&(x3.to_==x1.to_)))] (fun gz=>gz) ?_ ?_
       .refine Z1 1 (ib (b:=((((x1.cons.length:Int)==0)&&((x3.cons.length:Int)==0))&&(x3.frm==x1.frm))) 97 (fun WI=>?_) fun WI=>?_)
        .have Vu:(((x1.cons.length:Int)=0)/\((x3.cons.length:Int)=0))/\(x3.frm=x1.frm):=((YN (YN Zq Zq) Zq)).1 WI;exact U6 [0,1]<|wk [0,0]<|Zu (x3.to_==x1.to_) WI fl
        have T4:¬((((x1.cons.length:Int)=0)/\((x3.cons.length:Int)=0))/\(x3.frm=x1.frm)):=Y8 (YN (YN Zq Zq) Zq) WI;exact Z0<|wk [0,0]<|Zu false WI fl
       refine ac (((((x1.cons.length:Int)==0)&&((x3.cons.length:Int)==0))&&(x3.frm==x1.frm))&&(x3.to_==x1.to_)) (p:=((((x1.cons.length:Int)=0)/\((x3.cons.length:Int)=0))/\(x3.frm=x1.frm))/\(x3.to_=x1.to_)) (YN (YN (YN Zq Zq) Zq) Zq) (fun Ul=>?_) fun Ul=>?_
       .exact ar<|Zp<|ZW (.b false)<|lb<|Oe Z3 (Z9p om<|by rw [<-Gu om,Yc YG,KL,Zg om]) Zk
       exact ak<|az<|ZI j<|Z0<|ZK ⟨j+1,ob,(fun q=>by have hq:=Gu q;rw [Yc YG,KL,Z8 om] at hq;exact hq),rfl,rfl,rfl⟩<|wk [1]<|ZM j fl
      refine Z1 1 (ib (b:=(((x1.cons.length:Int)==0)&&((x3.cons.length:Int)==0))) 90 (fun V2=>?_) fun V2=>?_)
      .have Tn:((x1.cons.length:Int)=0)/\((x3.cons.length:Int)=0):=((YN Zq Zq)).1 V2;exact ZL 6 [0,1]<|Yt (wk [0,0]<|Zu (x3.frm==x1.frm) V2 fl) hj4
      have To:¬(((x1.cons.length:Int)=0)/\((x3.cons.length:Int)=0)):=Y8 (YN Zq Zq) V2;exact Z1 6<|Yt (wk [0,0]<|Zu false V2 fl) hj4
     refine Z1 2 (ib (b:=((x1.cons.length:Int)==0)) 84 (fun Vi=>?_) fun Vi=>?_)
     .have K7:(x1.cons.length:Int)=0:=(Zq).1 Vi;exact ZL 2 [0]<|iw (UJ x3.cons)<|Z1 2<|Yt (wk [0,0]<|Zu ((x3.cons.length:Int)==0) Vi fl) hj3
     have QJ:¬((x1.cons.length:Int)=0):=Y8 Zq Vi;exact Z1 5<|Yt (wk [0,0]<|Zu false Vi fl) hj3
    have htl:(ds.take k).length=k:=by rw [WK];omega
    have hD:x1.cons.length=0->KL x1 (ds.take k)=false:=fun q=>by rw [<-Gu q,Xk om];rfl
    refine ax 4<|az<|ZI k<|Z0 ?_;have hdr:=Yc Z3;exact ZK ⟨k+1,ob,(Znv Z3 (Z9q ZA hC hD) Zk),U,U,U⟩<|wk []<|ZM k fl
   refine Z1 1 (ib (b:=((!(decide (0<=x1.frm/\x1.frm<=ds.length)))||(!(decide (0<=x1.to_/\x1.to_<=ds.length))))) 31 (fun WX=>?_) fun WX=>?_)
   .have Jp:(¬(0<=x1.frm/\x1.frm<=ds.length))∨(¬(0<=x1.to_/\x1.to_<=ds.length)):=((Yi (Yp dq)<|Yp dq)).1 WX;exact Z1 5<|Yt (wk [0]<|Zu true WX fl) hj2
   have KQ:¬((¬(0<=x1.frm/\x1.frm<=ds.length))∨(¬(0<=x1.to_/\x1.to_<=ds.length))):=Y8 (Yi (Yp dq)<|Yp dq) WX;exact ZL 2 [0]<|iw (UJ x1.cons)<|Z1 2<|Yt (wk [0]<|Zu (decide ((x1.cons.length:Int)>3)) WX fl) hj2
  refine Z1 2 (ib (b:=(!(decide (0<=x1.frm/\x1.frm<=ds.length)))) 24 (fun VF=>?_) fun VF=>?_)
  .have Bw:¬(0<=x1.frm/\x1.frm<=ds.length):=((Yp dq)).1 VF;exact Z1 6<|Yt (wk [0]<|Zu true VF fl) hj1
  have Aq:¬(¬(0<=x1.frm/\x1.frm<=ds.length)):=Y8 (Yp dq) VF;exact ZL 3 [0]<|Zx [] (Hl ds x1.to_)<|Z1 2<|Yt (wk [0]<|Zu (!(decide (0<=x1.to_/\x1.to_<=ds.length))) VF fl) hj1
 exact ax 0<|ar<|Zp<|ZW (.b true)<|lb<|Znu om om Zk
def E6 (op:Int) :Zj 34 [.i op] [] (Yr<|.b<|Yv op):=by
 refine ZF 9 Tryz.func34<|ZB<|ar (XD 6 [] [(8,.b ((decide (op>=14))&&(decide (op<=17))))] (fun gz=>gz) ?_ fun hj1=>?_)
 .exact Zp<|ZW (.b ((decide (op>=14))&&(decide (op<=17))))<|lb (by rw [Yv,XE];simp)
 refine Z1 3 (ib (b:=(decide (op>=14))) 5 (fun Zb=>?_) fun Zb=>?_)
 .exact Z1 3<|Yt (wk []<|Zu (decide (op<=17)) Zb fl) hj1
 exact Z1 3<|Yt (wk []<|Zu false Zb fl) hj1
def Sq (op:Int) :Zj 192 [.i op] [] (Yr<|.b<|TB op):=by
 refine ZF 17 Tryz.func192<|ZB<|ar (XD 6 [0] [(8,.b ((op==6)||(op==9)))] (fun gz=>gz) ?_ fun hj1=>?_)
 .refine XD 10 [0] [(12,.b (((op==6)||(op==9))||(op==10)))] (fun gz=>gz) ?_ fun hj2=>?_
  .refine XD 14 [] [(16,.b ((((op==6)||(op==9))||(op==10))||(op==11)))] (fun gz=>gz) ?_ fun hj3=>?_
   .exact Zp<|ZW (.b ((((op==6)||(op==9))||(op==10))||(op==11)))<|lb<|by first|rfl|omega|grind [TB]
   refine Z1 1 (ib (b:=(((op==6)||(op==9))||(op==10))) 13 (fun Zb=>?_) fun Zb=>?_)
   .have ZX:((op=6)∨(op=9))∨(op=10):=((Yi (Yi Zq Zq) Zq)).1 Zb;exact Z1 3<|Yt (wk []<|Zu true Zb fl) hj3
   have Yf:¬(((op=6)∨(op=9))∨(op=10)):=Y8 (Yi (Yi Zq Zq) Zq) Zb;exact Z1 3<|Yt (wk []<|Zu (op==11) Zb fl) hj3
  refine Z1 1 (ib (b:=((op==6)||(op==9))) 9 (fun ZE=>?_) fun ZE=>?_)
  .have YK:(op=6)∨(op=9):=((Yi Zq Zq)).1 ZE;exact Z1 3<|Yt (wk []<|Zu true ZE fl) hj2
  have YW:¬((op=6)∨(op=9)):=Y8 (Yi Zq Zq) ZE;exact Z1 3<|Yt (wk []<|Zu (op==10) ZE fl) hj2
 refine Z1 3 (ib (b:=(op==6)) 5 (fun Yx=>?_) fun Yx=>?_)
 .have Xl:op=6:=(Zq).1 Yx;exact Z1 3<|Yt (wk []<|Zu true Yx fl) hj1
 have XS:¬(op=6):=Y8 Zq Yx;exact Z1 3<|Yt (wk []<|Zu (op==9) Yx fl) hj1
def Zep (b:Z6) (c:Nat) (v:Int) (hb:b.sz<=1000000000:=by exact ob) (hv:0<=v/\v<=600:=by exact ob) (ih:∀(b2:Z6) (c:Nat) (v:Int),(b2.sz<b.sz)->(0<=v/\v<=600)->Zj 71 [ZV b2,.p c 0] [.obj c [.i v]] fun r h=>(r=.b true/\h=[.obj c [.i (600-Wy b2 (600-v))]]/\0<=Wy b2 (600-v))∨(r=.b false/\h=[]/\Wy b2 (600-v)<0)):Zj 71 [ZV b,.p c 0] [.obj c [.i v]] (fun r h=>(r=.b true/\h=[.obj c [.i (600-Wy b (600-v))]]/\0<=Wy b (600-v))∨(r=.b false/\h=[]/\Wy b (600-v)<0)):=by
 have hbz:=U7 b;have hbe:=Z0j b (600-v);refine ZF 38 Tryz.func71<|ar (iA (Xb b) fun b1=>?_);refine Z0<|Yh 2 [0]<|iw (V8 b.steps)<|Z0<|ab 0<|Y2 (fun fz gz m F h=>∃(k:Nat) (q:Int),(k<=b.steps.length)/\(0<=q/\q<=600)/\(Uf (b.steps.drop k) (600-q)=Uf b.steps (600-v))/\F=sF [1,10,11] fz [(12,.i k)]/\h=[.obj c [.i q]]/\m=b.steps.length-k) _ _ _ ⟨0,v,ob,ob,U,U,U,U⟩ (wk [1]<|Y7 fl) ?_;rintro m F h ⟨k,q,Ye,Zk,Zw,rfl,rfl,rfl⟩;refine ZB<|aq (XK ((k:Int)<(b.steps.length:Int)) (fun Za=>?_) fun Za=>?_)
 .refine ak<|aq<|ab 1<|ar ?_;obtain ⟨x1,Z3⟩:=Zs b.steps k om;have hss:=A7 Z3;have hkz:=T6 x1;refine Zo (Zl none (k:Int) 5<|Wi Z3)<|Z1 1 (iA [.i 0,.i 0,.i 0,nl,nl] fun b2=>ZD 0 b2 (Xp x1)<|ie<|Yh 3 [1]<|ia ((q+1)) ((q)+(1))<|Z1 1<|ZD 1 c [.i (q+1)]<|ie<|Bn [0] (XK ((q+1)>600) (fun Zf=>?_) fun Zf=>?_))
  .exact ar<|Zp<|r1 []<|.inr ⟨rfl,rfl,(by rw [hbe,<-Zw,Yc Z3,Uf,Zg om];omega)⟩
  refine ak<|Zt 2 [1]<|iw (U0 x1.kids)<|Z0<|ab 2<|Y2 (fun fz gz m F h=>∃(j:Nat) (j2:Int),(j<=x1.kids.length)/\(0<=j2/\j2<=600)/\(Q1 (x1.kids.drop j) (600-j2)=Q1 x1.kids (600-(q+1)))/\F=sF [1,10,11,12,26,27] fz [(28,.i j)]/\h=[.obj c [.i j2]]/\m=x1.kids.length-j) _ _ _ ⟨0,(q+1),ob,ob,U,U,U,U⟩ (wk [0]<|Y7 fl) ?_;rintro m F h ⟨j,j2,VZ,XB,Xw,rfl,rfl,rfl⟩;refine ZB<|aq (XK ((j:Int)<(x1.kids.length:Int)) (fun ZA=>?_) fun ZA=>?_)
  .refine ak<|aq<|ab 3<|ar ?_;obtain ⟨x2,Zr⟩:=Zs x1.kids j om;have hks:=T5 Zr;have hle:=HB.2 x2 (600-j2) om;refine Zo (Zl none (j:Int) 2<|Ux Zr)<|Z1 1 (iA [nl,.i 0] fun b3=>ZD 0 b3 (Xb x2)<|ie<|Zt 2 [0]<|ic [1] (ih x2 c j2 ob ob) ?_);rintro _ _ (⟨rfl,rfl,ZX⟩|⟨rfl,rfl,Yf⟩)
   .refine Z0<|Ww<|ak<|az<|ZI j<|Z0 ?_;have hdr:=Yc Zr;exact ZK ⟨j+1,(600-Wy x2 (600-j2)),ob,ob,(by rw [Yc Zr,Q1,Z8 om] at Xw;rw [show 600-(600-Wy x2 (600-j2))=Wy x2 (600-j2) by omega];exact Xw),rfl,rfl,rfl⟩<|wk [0]<|ZM j fl
   exact Z0<|Wc<|ar<|Zp<|r1 []<|.inr ⟨rfl,rfl,(by rw [hbe,<-Zw,Yc Z3,Uf,Z8 om,Zg (by rw [HC,show (600-q-1:Int)=600-(q+1) by omega,<-Xw,Yc Zr,Q1,Zg Yf];omega)];omega)⟩
  have hE:Q1 x1.kids (600-(q+1))=600-j2:=by rw [<-Xw,Xk om,Q1]
  refine ax 2<|az<|ZI k<|Z0 ?_;have hdr:=Yc Z3;exact ZK ⟨k+1,j2,ob,ob,(by rw [Yc Z3,Uf,Z8 om,HC,show (600-q-1:Int)=600-(q+1) by omega,hE,Z8 om] at Zw;exact Zw),rfl,rfl,rfl⟩<|wk [0]<|ZM k fl
 refine ax 0<|ZB ?_;have hF:Wy b (600-v)=600-q:=by rw [hbe,<-Zw,Xk om,Uf]
 exact ZC<|r1 [0] (.inl ⟨rfl,rfl,om⟩) (eq:=(ro (ls:=[.i q]) (by rw [hF,show (600-(600-q):Int)=q by omega]) rz))
def Zeo:∀(b:Z6) (c:Nat) (v:Int),(b.sz<=1000000000)->(0<=v/\v<=600)->Zj 71 [ZV b,.p c 0] [.obj c [.i v]] (fun r h=>(r=.b true/\h=[.obj c [.i (600-Wy b (600-v))]]/\0<=Wy b (600-v))∨(r=.b false/\h=[]/\Wy b (600-v)<0)):=by
 have key:∀m:Nat,∀(b:Z6) (c:Nat) (v:Int),(b.sz<=m)->(b.sz<=1000000000)->(0<=v/\v<=600)->Zj 71 [ZV b,.p c 0] [.obj c [.i v]] (fun r h=>(r=.b true/\h=[.obj c [.i (600-Wy b (600-v))]]/\0<=Wy b (600-v))∨(r=.b false/\h=[]/\Wy b (600-v)<0)):=by
  intro m
  induction m with
  | zero=>intro b c v h;have:=b.sz_pos;omega
  | succ m ih=>intro b c v h1 h2 h3;exact Zep b c v h2 h3 fun b2 c2 v2 k1 k2=>ih b2 c2 v2 om om k2
 intro b c v h2 h3;exact key b.sz b c v (X8 _) h2 h3
def Sl (b:Z6) (hb:b.sz<=1000000000:=by exact ob):Zj 35 [ZV b] [] (Yr<|.i<|VG b):=by
 refine ZF 8 Tryz.func35<|ar (iA (Xb b) fun b1=>Z0<|ar (iA [.i 0] fun b2=>ZD 0 b2 [.i 0]<|ie<|Yh 1 [1]<|ic [0] (Zeo b b2 0 ob ob) ?_));rintro _ _ (⟨rfl,rfl,ZX⟩|⟨rfl,rfl,Yf⟩)
 .have h0:=ZX;rw [show (600-0:Int)=600 from rfl] at h0;exact Z0<|Ww<|ak<|Bn [0]<|ZC<|ZW (.i (600-Wy b (600-0)))<|li (by rw [show (600-0:Int)=600 from rfl,VG,Z8 om])
 have h0:=Yf;rw [show (600-0:Int)=600 from rfl] at h0;exact Z0<|Wc<|ar<|Zp<|ZW (.i (-1))<|li (by rw [VG,Zg h0])
def Zey (ds:List Zh) (fs:List VC) (hz:Ja ds:=by exact ob) (hf:∀f∈fs,f.pms.length<=4194304/\f.lnt.length<=4194304) (hfl:fs.length<=4194304:=by exact ob):Zj 52 [ZQ ds,Ei fs] [] (Yr<|.b<|Ac ds fs):=by
 have hzl:=hz.len;refine ZF 102 Tryz.func52<|ZB<|YE 1<|Zx [] (Zef ds) (XD 8 [0,1] [(16,.b ((!Vf ds)||(decide ((fs.length:Int)<1))))] (fun gz=>gz) ?_ fun hj1=>?_)
 .refine XD 13 [0,1] [(21,.b (((!Vf ds)||(decide ((fs.length:Int)<1)))||(decide ((fs.length:Int)>4))))] (fun gz=>gz) ?_ fun hj2=>?_
  .refine Z1 1 (ib (b:=(((!Vf ds)||(decide ((fs.length:Int)<1)))||(decide ((fs.length:Int)>4)))) 22 (fun Zb=>?_) fun Zb=>?_)
   .have ZX:((¬(Vf ds=true))∨((fs.length:Int)<1))∨((fs.length:Int)>4):=((Yi (Yi (Yp Iff.rfl) dq) dq)).1 Zb;exact Z0<|Wc<|ar<|Zp<|ZW (.b false)<|lb<|Zo1 (by assumption)
   have Yf:¬(((¬(Vf ds=true))∨((fs.length:Int)<1))∨((fs.length:Int)>4)):=Y8 (Yi (Yi (Yp Iff.rfl) dq) dq) Zb;refine Z1 1 ?_;obtain ⟨x1,Z3⟩:=Zs fs 0 om;refine Zo (Zl none 0 3<|CY Z3)<|Z1 2<|iw (Yg x1.pms)<|Z1 3 (ib (b:=(decide ((x1.pms.length:Int)>0))) 30 (fun ZE=>?_) fun ZE=>?_)
   .have YK:(x1.pms.length:Int)>0:=(dq).1 ZE;exact Z0<|Wc<|ar<|Zp<|ZW (.b false)<|lb<|Z5k Z3<|.inl (by assumption)
   have YW:¬((x1.pms.length:Int)>0):=Y8 dq ZE;refine Z1 1<|Zo (Zl none 0 3<|CY Z3) (YH (x1.res != 0) Yb (fun Za=>?_) fun Za=>?_)
   .exact ar<|Zp<|ZW (.b false)<|lb<|Z5k Z3<|.inr Za
   refine ak<|YE 1<|iw (F9 fs)<|Z0<|ab 0<|Y2 (fun fz gz m F h=>∃(k:Nat),(k<=fs.length)/\(Jy ds.length (fs.drop k)=Jy ds.length fs)/\F=sF [0,37,38] fz [(39,.i k)]/\h=gz/\m=fs.length-k) _ _ _ ⟨0,ob,ob,U,U,U⟩ (wk []<|Y7 fl) ?_;rintro m F h ⟨k,Ye,Zk,rfl,rfl,rfl⟩;refine ZB<|aq (XK ((k:Int)<(fs.length:Int)) (fun Zf=>?_) fun Zf=>?_)
   .refine ak<|aq<|ab 1<|ar ?_;obtain ⟨x2,Zr⟩:=Zs fs k om;have hf2:=hf _ (Y0 Zr);refine Zo (Zl none (k:Int) 3<|CY Zr)<|Z1 1 (iA [nl,nl,.i 0] fun b1=>ZD 0 b1 (Z0b x2)<|ie<|Yh 2 [0]<|iw (Yg x2.pms) (XD 11 [0,6,37,38,39] [(53,.b ((decide ((x2.pms.length:Int)>3))||(!WB ds.length x2.pms)))] (fun gz=>gz) ?_ fun hj3=>?_))
    .refine Xu [0,6,37,38,39] [(60,.b (((decide ((x2.pms.length:Int)>3))||(!WB ds.length x2.pms))||(!(decide (0<=x2.res/\x2.res<=ds.length)))))] (fun gz=>gz) ?_ ?_
     .refine Z1 1 (ib (b:=((decide ((x2.pms.length:Int)>3))||(!WB ds.length x2.pms))) 54 (fun Yx=>?_) fun Yx=>?_)
      .have Xl:((x2.pms.length:Int)>3)∨(¬(WB ds.length x2.pms=true)):=((Yi dq<|Yp Iff.rfl)).1 Yx;exact Z0<|wk [0]<|Zu true Yx fl
      have XS:¬(((x2.pms.length:Int)>3)∨(¬(WB ds.length x2.pms=true))):=Y8 (Yi dq<|Yp Iff.rfl) Yx;exact ZL 3 [0]<|Zx [] (Hl ds x2.res)<|Z0<|wk [0]<|Zu (!(decide (0<=x2.res/\x2.res<=ds.length))) Yx fl
     refine ac (((decide ((x2.pms.length:Int)>3))||(!WB ds.length x2.pms))||(!(decide (0<=x2.res/\x2.res<=ds.length)))) (p:=(((x2.pms.length:Int)>3)∨(¬(WB ds.length x2.pms=true)))∨(¬(0<=x2.res/\x2.res<=ds.length))) (Yi (Yi dq<|Yp Iff.rfl)<|Yp dq) (fun ZA=>?_) fun ZA=>?_
     .exact ar<|Zp<|ZW (.b false)<|lb<|Iq<|I9 Zr (Zkd ZA) Zk
     refine ak<|Zt 2 [0]<|iw (Yg x2.lnt)<|Z0<|ab 2<|Y2 (fun fz gz m F h=>∃(j:Nat),(j<=x2.lnt.length)/\(Kl x2.pms (x2.lnt.drop j) (if j=0 then none else x2.lnt[j-1]?)=Ab x2.pms x2.lnt)/\F=sF [0,6,37,38,39,62,63] fz [(64,.i j)]/\h=gz/\m=x2.lnt.length-j) _ _ _ ⟨0,ob,(by rfl),rfl,rfl,rfl⟩ (wk [0]<|Y7 fl) ?_;rintro m F h ⟨j,VZ,XB,rfl,rfl,rfl⟩;refine ZB<|aq (XK ((j:Int)<(x2.lnt.length:Int)) (fun Ym=>?_) fun Ym=>?_)
     .refine ak<|aq<|ab 3<|Y5 1 ?_;obtain ⟨x3,YG⟩:=Zs x2.lnt j om;refine Zo (Zl none (j:Int) 1<|Y3 YG)<|Z0<|ar (XD 9 [0,6,7,8,37,38,39,62,63,64] [(77,.b ((decide (x3<0))||(decide (x3>=(x2.pms.length:Int)))))] (fun gz=>gz) ?_ fun hj4=>?_)
      .refine Z1 1 (ib (b:=((decide (x3<0))||(decide (x3>=(x2.pms.length:Int))))) 78 (fun Xa=>?_) fun Xa=>?_)
       .have Wv:(x3<0)∨(x3>=(x2.pms.length:Int)):=((Yi dq dq)).1 Xa;exact Z0<|Wc<|ar<|Zp<|ZW (.b false)<|lb<|Iq<|I9 Zr (NG<|MS YG (by rintro ⟨q1,q2,q3⟩;first|omega|(rw [WM] at q2;exact q2<|Ys some om)|(have:=q3 _ (by rw [Z8 om];exact VU);omega)) XB) Zk
       have WS:¬((x3<0)∨(x3>=(x2.pms.length:Int))):=Y8 (Yi dq dq) Xa;refine ZL 3 [0] ?_;obtain ⟨x4,WM⟩:=Zs x2.pms x3.toNat om;refine Zo (Zl none x3 1<|Y3 WM)<|Z1 4 (ib (b:=(x4==0)) 86 (fun WI=>?_) fun WI=>?_)
       .have Vu:x4=0:=(Zq).1 WI;exact Z0<|Wc<|ar<|Zp<|ZW (.b false)<|lb<|Iq<|I9 Zr (NG<|MS YG (by rintro ⟨q1,q2,q3⟩;first|omega|(rw [WM] at q2;exact q2<|Ys some om)|(have:=q3 _ (by rw [Z8 om];exact VU);omega)) XB) Zk
       have T4:¬(x4=0):=Y8 Zq WI;refine Z1 3 (ib (b:=(decide ((j:Int)>0))) 89 (fun V2=>?_) fun V2=>?_)
       .have Tn:(j:Int)>0:=(dq).1 V2;refine ZL 4 [0]<|ia (((j-1:Nat):Int)) (((j:Int))-(1)) ?_;obtain ⟨x5,VU⟩:=Zs x2.lnt (j-1) om;refine Zo (Zl none ((j-1:Nat):Int) 1<|Y3 VU) (Y4 (x3<=x5) (fun Xm=>?_) fun Xm=>?_)
        .exact ar<|Zp<|ZW (.b false)<|lb<|Iq<|I9 Zr (NG<|MS YG (by rintro ⟨q1,q2,q3⟩;first|omega|(rw [WM] at q2;exact q2<|Ys some om)|(have:=q3 _ (by rw [Z8 om];exact VU);omega)) XB) Zk
        refine ak<|az<|ZI j<|Z0 ?_;have hdr:=Yc YG;exact ZK ⟨j+1,ob,(Z0o YG ⟨by omega,(by rw [WM];intro q;cases q;omega),fun p hp=>by first|(rw [Zg om] at hp;cases hp;done)|(rw [Z8 om,VU] at hp;cases hp;omega)⟩ XB),rfl,rfl,rfl⟩<|wk [0]<|ZM j fl
       have To:¬((j:Int)>0):=Y8 dq V2;refine Z0<|Ww<|ak<|az<|ZI j<|Z0 ?_;have hdr:=Yc YG;exact ZK ⟨j+1,ob,(Z0o YG ⟨by omega,(by rw [WM];intro q;cases q;omega),fun p hp=>by first|(rw [Zg om] at hp;cases hp;done)|(rw [Z8 om,VU] at hp;cases hp;omega)⟩ XB),rfl,rfl,rfl⟩<|wk [0]<|ZM j fl
      refine Z1 3 (ib (b:=(decide (x3<0))) 71 (fun Vi=>?_) fun Vi=>?_)
      .have K7:x3<0:=(dq).1 Vi;exact Z1 6<|Yt (wk [0]<|Zu true Vi fl) hj4
      have QJ:¬(x3<0):=Y8 dq Vi;exact ZL 3 [0]<|iw (Yg x2.pms)<|Z1 2<|Yt (wk [0]<|Zu (decide (x3>=(x2.pms.length:Int))) Vi fl) hj4
     have hL:Ab x2.pms x2.lnt=true:=by rw [<-XB,Xk om];rfl
     have hS:=Zke ZA hL;refine ax 2<|az<|ZI k<|Z0 ?_;have hdr:=Yc Zr;exact ZK ⟨k+1,ob,(Zkw Zr hS Zk),U,U,U⟩<|wk []<|ZM k fl
    refine Z1 2 (ib (b:=(decide ((x2.pms.length:Int)>3))) 47 (fun WX=>?_) fun WX=>?_)
    .have Jp:(x2.pms.length:Int)>3:=(dq).1 WX;exact Z1 6<|Yt (wk [0]<|Zu true WX fl) hj3
    have KQ:¬((x2.pms.length:Int)>3):=Y8 dq WX;exact ZL 3 [0]<|Zx [] (Sn ds x2.pms)<|Z1 2<|Yt (wk [0]<|Zu (!WB ds.length x2.pms) WX fl) hj3
   exact ax 0<|ar<|Zp<|ZW (.b true)<|lb<|Zo2 (by assumption) Z3 (by assumption) Za (by rw [<-Zk,Xk om];rfl)
  refine Z1 1 (ib (b:=((!Vf ds)||(decide ((fs.length:Int)<1)))) 17 (fun VF=>?_) fun VF=>?_)
  .have Bw:(¬(Vf ds=true))∨((fs.length:Int)<1):=((Yi (Yp Iff.rfl) dq)).1 VF;exact Z1 4<|Yt (wk []<|Zu true VF fl) hj2
  have Aq:¬((¬(Vf ds=true))∨((fs.length:Int)<1)):=Y8 (Yi (Yp Iff.rfl) dq) VF;exact Z1 1<|iw (F9 fs)<|Z1 2<|Yt (wk []<|Zu (decide ((fs.length:Int)>4)) VF fl) hj2
 refine Z1 2 (ib (b:=(!Vf ds)) 12 (fun Kk=>?_) fun Kk=>?_)
 .have Sd:¬(Vf ds=true):=((Yp Iff.rfl)).1 Kk;exact Z1 4<|Yt (wk []<|Zu true Kk fl) hj1
 have Se:¬(¬(Vf ds=true)):=Y8 (Yp Iff.rfl) Kk;exact Z1 1<|iw (F9 fs)<|Z1 2<|Yt (wk []<|Zu (decide ((fs.length:Int)<1)) Kk fl) hj1
def Sr (n:Zm) (hz:WF n:=by exact ob):Zj 20 [Yq n] [] (fun r h=>(r=.tup [.agg [ZQ n.1,YV n],.b<|VV n]/\h=[]/\n.2.length<=4)∨(r=.tup [.agg [ZQ [],Ei []],.b false]/\h=[]/\VV n=false)):=by
 have hzl:=hz.len;refine ZF 41 Tryz.func20<|ar (iA (YI n) fun b1=>iA [nl,nl] fun b2=>Z0<|Yh 2 [1]<|iw (U1 n.2) (Y4 ((n.2.length:Int)>4) (fun Za=>?_) fun Za=>?_))
 .exact Y5 1<|ZD 0 b2 [nl,nl]<|Zp<|r3 [] [.agg [nl,nl],.b false] [0] [(b2,b2)] (.inr ⟨rfl,rfl,(by rw [Z10,decide_eq_false om];rfl)⟩)<|Zd.tup<|.cons (Zd.agg<|.cons (Zd.sl _ rfl)<|.cons (Zd.sl _ rfl) .nil)<|.cons (lr _) .nil
 refine ak<|Zt 3 [1] (iA [nl,nl] fun b3=>?_);refine ZD 0 b3 [ZQ n.1,nl]<|ie<|Yh 2 [2]<|iw (U1 n.2)<|Z0<|ab 0<|Qv 3<|Y2 (fun fz gz m F h=>∃(k:Nat) (v:Value),(k<=n.2.length)/\F=sF [1,2,4,16,17] fz [(18,.i k)]/\h=[.obj b3 [ZQ n.1,HJ ((n.2.take k).map Wb) v],Ze gz 2,Ze gz 3,.tail v 3]/\m=n.2.length-k) _ _ _ ⟨0,(.slice none 0 0),ob,U,U,U⟩ (wk [1,1,1,0]<|Y7 fl) ?_;rintro m F h ⟨k,v,Ye,rfl,rfl,rfl⟩;refine ZB<|aq (XK ((k:Int)<(n.2.length:Int)) (fun Zf=>?_) fun Zf=>?_)
 .refine ak<|aq<|ab 1<|ar ?_;obtain ⟨x1,Z3⟩:=Zs n.2 k om;refine Zo (Zl none (k:Int) 5<|WG Z3)<|Z1 1 (iA [nl,nl,.i 0,nl,.i 0] fun b4=>ZD 0 b4 (Qg x1)<|ie<|az<|ZL 9 [1,0,0,0] (iL (TU [VC.mk x1.1 x1.2 x1.result]) 1 3 fun v1=>ZY 0 [(31,Ei [VC.mk x1.1 x1.2 x1.result])] (ip 5 (TU<|(n.2.take (k+1)).map Wb) (TU<|(n.2.take k).map Wb) (TU [VC.mk x1.1 x1.2 x1.result]) v none 3 (Rf _) (Rf _) (Zaf _) (by simp<;>omega) (by rw [WO Z3];simp [TU,Wb]) fun v2=>Z1 1<|ZD 3 b3 [ZQ n.1,HJ ((n.2.take (k+1)).map Wb) v2]<|ie<|az<|ZI k<|Z0 ?_)));have hdr:=Yc Z3;exact ZK ⟨k+1,v2,ob,U,U,U⟩<|wk [0,3,3,0]<|ZM k fl
 refine ax 0<|aD 8<|DM 3 8 [0,1,2,3,4] [(39,Ei<|(n.2.take k).map Wb)] [0,2,0]<|Z9 5<|Yu 5 [] [0] [b3] (Zey n.1 ((n.2.take k).map Wb) (hz:=hz.decls) (hf:=(by intro f hf;obtain ⟨r,h1,rfl⟩:=XG.1 hf;have:=Qr h1;exact ⟨hz.params r this,hz.lent r this⟩)))<|Z9 6<|YO 6 1 [] [] b2 [ZQ n.1,HJ ((n.2.take k).map Wb) v]<|Zi 0 1 [7]<|de ?_;have htk:n.2.take k=n.2:=Vc om;exact ZC<|r3 [] [.agg [ZQ n.1,HJ ((n.2.take k).map Wb) v],.b<|Ac n.1<|(n.2.take k).map Wb] [0] [(b2,b2)] (.inl ⟨rfl,rfl,om⟩)<|Zd.tup<|.cons (Zd.agg<|.cons (lr _)<|.cons (Zd.sl _<|Ys TU<|by rw [htk]) .nil)<|.cons (lb<|by rw [htk,Z10,decide_eq_true (p:=n.2.length<=4) om,Bool.true_and]) .nil
def Hm (n:Zm) (t:Int) (hn:YZ n:=by exact ob):Zj 55 [.agg [ZQ n.1,YV n],.i t] [] (Yr<|KU<|(Y1 n.1 t).map<|ZZ n.1):=by
 have Xz:=hn.decls;have hcl:=N4 Xz t;refine ZF 26 Tryz.func55<|ar (iA [ZQ n.1,YV n] fun b1=>?_);refine Z0<|ZB<|Yh 3 [0]<|Zx [] (Zen n.1 t)<|io (.i (((Y1 n.1 t).length:Nat):Int)) (.i (((Z7<|Y1 n.1 t).length:Nat):Int)) (li<|by rw [Yg])<|Z0<|ab 0<|Qv 1<|Y2 (fun fz gz m F h=>∃(k:Nat) (v:Value),(k<=(Y1 n.1 t).length)/\F=sF [2,11,12] fz [(5,Co (((Y1 n.1 t).take k).map<|ZZ n.1) v),(13,.i k)]/\h=[Ze gz 1,.tail v 1]/\m=(Y1 n.1 t).length-k) _ _ _ ⟨0,(.slice none 0 0),ob,rfl,rfl,rfl⟩ (wk [1,0]<|fc (x:=nl) (Zd.slh _ rfl)<|Y7 fl) ?_;rintro m F h ⟨k,v,Ye,rfl,rfl,rfl⟩;refine ZB<|aq (XK ((k:Int)<(((Y1 n.1 t).length:Nat):Int)) (fun Za=>?_) fun Za=>?_)
 .refine ak<|aq<|ab 1<|ar ?_;obtain ⟨x1,Z3⟩:=Zs (Y1 n.1 t) k om;refine Zo (Zl none (k:Int) 1<|Y3 Z3)<|Z0<|az<|ZL 4 [0]<|Zx [] (Zeq n.1 x1 (hc:=(by have:=PN Xz Z3;omega))) (iL (WD [ZZ n.1 x1]) 1 1 fun v1=>ZY 0 [(22,KU [ZZ n.1 x1])] (ip 2 (WD<|((Y1 n.1 t).take (k+1)).map<|ZZ n.1) (WD<|((Y1 n.1 t).take k).map<|ZZ n.1) (WD [ZZ n.1 x1]) v none 1 (Cb _) (Cb _) (GS _) (by simp;omega) (by rw [WO Z3];simp [WD]) fun v2=>Z0<|az<|ZI k<|Z0 ?_));have hdr:=Yc Z3;exact ZK ⟨k+1,v2,ob,U,U,U⟩<|wk [2,0]<|fr<|ZM k fl
 exact ax 0<|ar<|Zp<|ZW (Co (((Y1 n.1 t).take k).map<|ZZ n.1) v)<|Zd.sl _<|Ys WD<|by rw [Vc om]
def Zew (n:Zm) (op num:Int) (ts:LI) (hn:YZ n:=by exact ob) (hl_ts:ts.length<=4294967296:=by exact ob) (hnum:-9223372036854775808<=num/\num<=9223372036854775807:=by exact ob):Zj 155 [.agg [ZQ n.1,YV n],.i op,.i num,Z5 ts] [] (fun r h=>∃(t:Int),r=.tup [.i t,.b<|(XT n op num ts).isSome]/\h=[]/\∀x,XT n op num ts=some x->t=x):=by
 have Xz:=hn.decls;have hrl:=hn.len;have hcfl:(ZZ n.1 num).length<=4294967296:=by have:=Uw Xz num;omega
 have hdl:n.1.length<=4294967296:=by have:=Xz.len;omega
 refine ZF 149 Tryz.func155<|ar (iA [ZQ n.1,YV n] fun b1=>Z0<|ZB<|Yj<|ab 0<|ar (YH (op==0) Zq (fun Za=>?_) fun Za=>?_))
 .refine ar (XD 6 [3] [(26,.b ((decide (num>=(-999)))&&(decide (num<=999))))] (fun gz=>gz) ?_ fun hj1=>?_)
  .refine XD 11 [] [(31,.b (((decide (num>=(-999)))&&(decide (num<=999)))&&((ts.length:Int)==0)))] (fun gz=>gz) ?_ fun hj2=>?_
   .refine Z0 ?_;have hF:=sf0 (n:=n) (num:=num) (ts:=ts) Za;exact ZC<|r2 [] [.i 0,.b (((decide (num>=(-999)))&&(decide (num<=999)))&&((ts.length:Int)==0))] ⟨0,rfl,rfl,(Cw hF)⟩<|Zd.tup<|.cons (lr _)<|.cons (lb<|Cv hF<|by simp [*];try omega) .nil
   refine Z1 1 (ib (b:=((decide (num>=(-999)))&&(decide (num<=999)))) 27 (fun Zb=>?_) fun Zb=>?_)
   .have ZX:(num>=(-999))/\(num<=999):=((YN dq dq)).1 Zb;exact Z1 1<|iw (Yg ts)<|Z1 2<|Yt (wk [0]<|Zu ((ts.length:Int)==0) Zb fl) hj2
   have Yf:¬((num>=(-999))/\(num<=999)):=Y8 (YN dq dq) Zb;exact Z1 4<|Yt (wk [0]<|Zu false Zb fl) hj2
  refine Z1 3 (ib (b:=(decide (num>=(-999)))) 23 (fun ZE=>?_) fun ZE=>?_)
  .have YK:num>=(-999):=(dq).1 ZE;exact Z1 3<|Yt (wk [0]<|Zu (decide (num<=999)) ZE fl) hj1
  have YW:¬(num>=(-999)):=Y8 dq ZE;exact Z1 3<|Yt (wk [0]<|Zu false ZE fl) hj1
 refine Yj<|XY (fun fz gz F h=>F=sF [1,2,3,4,11,18] fz [(32,.b ((op==1)||((op==2)||((op==3)||(op==4)))))]/\h=gz) ?_ ?_
 .refine ac (op==1) Zq (fun Zf=>?_) fun Zf=>?_
  .exact ak<|ZU ⟨rfl,rfl⟩<|wk [0]<|fc (x:=.b (op==1)) (lb<|by first|rfl|(rw [Zg Zf])|(rw [Z8 Zf])|(simp [Zf];done)|(rw [XE];simp [Zf];done)|omega) fl
  refine ar (YH (op==2) Zq (fun ZA=>?_) fun ZA=>?_)
  .exact ak<|ZU ⟨rfl,rfl⟩<|wk [0]<|fc (x:=.b (op==2)) (lb<|by first|rfl|(rw [Zg Zf])|(rw [Z8 Zf])|(simp [Zf,ZA];done)|(rw [XE];simp [Zf,ZA];done)|omega) fl
  refine ar (YH (op==3) Zq (fun Ym=>?_) fun Ym=>?_)
  .exact ak<|ZU ⟨rfl,rfl⟩<|wk [0]<|fc (x:=.b (op==3)) (lb<|by first|rfl|(rw [Zg Zf])|(rw [Z8 Zf])|(simp [Zf,ZA,Ym];done)|(rw [XE];simp [Zf,ZA,Ym];done)|omega) fl
  exact TD<|ZU ⟨rfl,rfl⟩<|wk [0]<|fc (x:=.b (op==4)) (lb<|by first|rfl|(rw [Zg Zf])|(rw [Z8 Zf])|(simp [Zf,ZA,Ym];done)|(rw [XE];simp [Zf,ZA,Ym];done)|omega) fl
 rintro F h ⟨rfl,rfl⟩;refine ac ((op==1)||((op==2)||((op==3)||(op==4)))) (p:=(op=1)∨((op=2)∨((op=3)∨(op=4)))) (Yi Zq (Yi Zq (Yi Zq Zq))) (fun Xm=>?_) fun Xm=>?_
 .refine az (iL (Z7 [0,0]) 2 1 fun v1=>Z0<|ar (XD 8 [] [(141,.i 0),(148,.b ((num==0)&&(decide (ts=[0,0]))))] (fun gz=>gz) ?_ fun hj3=>?_))
  .refine Z0 ?_;have hF:=sf1 (n:=n) (num:=num) (ts:=ts) Xm;exact ZC<|r2 [] [.i 0,.b ((num==0)&&(decide (ts=[0,0])))] ⟨0,rfl,rfl,(Cw hF)⟩<|Zd.tup<|.cons (lr _)<|.cons (lb<|Cv hF<|by simp [*];try omega) .nil
  refine Z1 4 (ib (b:=(num==0)) 144 (fun Yx=>?_) fun Yx=>?_)
  .have Xl:num=0:=(Zq).1 Yx;exact ZY 2 [(146,Z5 [0,0])]<|Zx [] (Dk ts [0,0])<|Z1 1<|Yt (wk [0,0]<|fr<|Zu (decide (ts=[0,0])) Yx fl) hj3
  have XS:¬(num=0):=Y8 Zq Yx;exact Z1 4<|Yt (wk [0,0]<|fr<|Zu false Yx fl) hj3
 refine ar (YH (op==5) Zq (fun Xs=>?_) fun Xs=>?_)
 .refine az (iL (Z7 [0]) 1 1 fun v2=>Z0<|ar (XD 8 [] [(141,.i 0),(148,.b ((num==0)&&(decide (ts=[0]))))] (fun gz=>gz) ?_ fun hj4=>?_))
  .refine Z0 ?_;have hF:=sf5 (n:=n) (num:=num) (ts:=ts) Xs;exact ZC<|r2 [] [.i 0,.b ((num==0)&&(decide (ts=[0])))] ⟨0,rfl,rfl,(Cw hF)⟩<|Zd.tup<|.cons (lr _)<|.cons (lb<|Cv hF<|by simp [*];try omega) .nil
  refine Z1 4 (ib (b:=(num==0)) 144 (fun Xa=>?_) fun Xa=>?_)
  .have Wv:num=0:=(Zq).1 Xa;exact ZY 2 [(146,Z5 [0])]<|Zx [] (Dk ts [0])<|Z1 1<|Yt (wk [0,0]<|fr<|Zu (decide (ts=[0])) Xa fl) hj4
  have WS:¬(num=0):=Y8 Zq Xa;exact Z1 4<|Yt (wk [0,0]<|fr<|Zu false Xa fl) hj4
 refine ar (YH (op==11) Zq (fun Ul=>?_) fun Ul=>?_)
 .refine YE 1<|iw (Yg ts) (YH ((ts.length:Int) != 2) Yb (fun Uc=>?_) fun Uc=>?_)
  .refine ZB ?_;have hF:=Zkt (n:=n) (num:=num) Ul Uc;exact ZC<|r2 [] [.i (-1),.b false] ⟨(-1),U,U,(FZ hF)⟩<|Zd.tup<|.cons (lr _)<|.cons (lb<|FY hF) .nil
  refine ak<|aD 12<|ZJ 9 12 [0,1,2] [0] ?_;obtain ⟨x1,Z3⟩:=Zs ts 0 om;refine dx 3 (Zl none 0 1<|Y3 Z3)<|Zi 7 8 [4]<|Ji (fun fz gz F h=>∃(b2:Nat),F=sF [2,3] fz [(12,.p b2 0),(13,.b<|Wd n.1 x1)]/\h=[.obj b2 (Qf<|Ui n.1 x1),Ze gz 0]) ?_ ?_
  .refine VR 5 9 ?_ ?_
   .exact Yu 5 [] [] [] (Hk n.1 x1)<|Zi 3 6 [6,7,8]<|Z9 9 (dA 9 [] [] [.i 0,.i 0,nl] fun b2=>Z9 10<|YO 10 0 [] [] b2 (Qf<|Ui n.1 x1)<|Zi 0 1 [11]<|de<|ZU ⟨b2,U,U⟩<|wk [0,0] fl)
   exact dA 9 [0] [b1] [.i 0,.i 0,nl] fun b3=>Z9 5<|Yu 5 [] [] [] (Hk n.1 x1)<|Zi 2 5 [6,7,8]<|Z9 10<|YO 10 0 [] [] b3 (Qf<|Ui n.1 x1)<|Zi 0 1 [11]<|de<|ZU ⟨b3,U,U⟩<|wk [0,0] fl
  rintro F h ⟨b2,rfl,rfl⟩;refine aD 17 (ZJ 13 17 [0,1,2,3] [0] (db (b:=Wd n.1 x1) 58 (fun WI=>?_) fun WI=>?_))
  .have Vu:Wd n.1 x1=true:=(Iff.rfl).1 WI;refine Zi 12 13 [4] ?_;obtain ⟨x2,Zr⟩:=Zs ts 1 om;refine dx 5 (Zl none 1 1<|Y3 Zr)<|ZJ 4 11 [6,7,8,9,10,11,15] [0] (db (b:=(x2==((Ui n.1 x1).frm))) 66 (fun V2=>?_) fun V2=>?_)
   .have T4:x2=((Ui n.1 x1).frm):=(Zq).1 V2;refine Zi 0 4 [12,13,14,16]<|de ?_;have hF:=NM (n:=n) (num:=num) Ul Uc Z3 Zr;exact ZC<|r2 [] [.i ((Ui n.1 x1).to_),.b (num==0)] ⟨(Ui n.1 x1).to_,rfl,rfl,(Cw hF)⟩<|Zd.tup<|.cons (lr _)<|.cons (lb<|Cv hF<|by simp [*];try omega) .nil
   have Tn:¬(x2=((Ui n.1 x1).frm)):=Y8 Zq V2;refine Zi 0 4 [12,13,14,16]<|de ?_;have hF:=NM (n:=n) (num:=num) Ul Uc Z3 Zr;exact ZC<|r2 [] [.i ((Ui n.1 x1).to_),.b false] ⟨(Ui n.1 x1).to_,rfl,rfl,(Cw hF)⟩<|Zd.tup<|.cons (lr _)<|.cons (lb<|Cv hF<|by simp [*]) .nil
  have To:¬(Wd n.1 x1=true):=Y8 Iff.rfl WI;refine Zi 0 13 [4,5,6,7,8,9,10,11,12,13,14,15,16]<|de ?_;have hF:=Zks (n:=n) (num:=num) Ul Uc Z3 (by assumption);exact ZC<|r2 [] [.i ((Ui n.1 x1).to_),.b false] ⟨(Ui n.1 x1).to_,U,U,(FZ hF)⟩<|Zd.tup<|.cons (lr _)<|.cons (lb<|FY hF) .nil
 refine ar (YH (op==6) Zq (fun Ud=>?_) fun Ud=>?_)
 .refine Zt 3 [0]<|Zx [] (Sp n.1 num)<|Z1 3 (iA [nl] fun b4=>Z1 1<|ZD 0 b4 [Z5 (ZZ n.1 num)]<|ie<|ar (XD 9 [] [(79,.i<|Wx n.1 num),(87,.b ((decide ((Wx n.1 num)>=0))&&(decide (ts=(ZZ n.1 num)))))] (fun gz=>gz) ?_ fun hj5=>?_))
  .refine Z0 ?_;have hF:=sf6 (n:=n) (num:=num) (ts:=ts) Ud;exact ZC<|r2 [] [.i (Wx n.1 num),.b ((decide ((Wx n.1 num)>=0))&&(decide (ts=(ZZ n.1 num))))] ⟨Wx n.1 num,rfl,rfl,(Cw hF)⟩<|Zd.tup<|.cons (lr _)<|.cons (lb<|Cv hF<|by simp [*];try omega) .nil
  refine Z1 4 (ib (b:=(decide ((Wx n.1 num)>=0))) 82 (fun Vi=>?_) fun Vi=>?_)
  .have K7:(Wx n.1 num)>=0:=(dq).1 Vi;exact ZL 3 [0]<|Zx [] (Dk ts<|ZZ n.1 num)<|Z1 1<|Yt (wk [0,0]<|fr<|Zu (decide (ts=(ZZ n.1 num))) Vi fl) hj5
  have QJ:¬((Wx n.1 num)>=0):=Y8 dq Vi;exact Z1 5<|Yt (wk [0,0]<|fr<|Zu false Vi fl) hj5
 refine Yj<|XY (fun fz gz F h=>F=sF [1,2,3,4] fz [(88,.b ((op==9)||(op==10)))]/\h=gz) ?_ ?_
 .refine ac (op==9) Zq (fun Qc=>?_) fun Qc=>?_
  .exact ak<|ZU ⟨rfl,rfl⟩<|wk [0]<|fc (x:=.b (op==9)) (lb<|by first|rfl|(rw [Zg Qc])|(rw [Z8 Qc])|(simp [Qc];done)|(rw [XE];simp [Qc];done)|omega) fl
  exact TD<|ZU ⟨rfl,rfl⟩<|wk [0]<|fc (x:=.b (op==10)) (lb<|by first|rfl|(rw [Zg Qc])|(rw [Z8 Qc])|(simp [Qc];done)|(rw [XE];simp [Qc];done)|omega) fl
 rintro F h ⟨rfl,rfl⟩;refine ac ((op==9)||(op==10)) (p:=(op=9)∨(op=10)) (Yi Zq Zq) (fun Ao=>?_) fun Ao=>?_
 .refine X6<|Xu [1,2,3,4] [(99,.b ((decide (num<0))||(decide (num>=(((n.2.map Wb).length:Nat):Int)))))] (fun gz=>gz) ?_ ?_
  .refine Z1 3 (ib (b:=(decide (num<0))) 93 (fun WX=>?_) fun WX=>?_)
   .have Jp:num<0:=(dq).1 WX;exact Z0<|wk [0]<|Zu true WX fl
   have KQ:¬(num<0):=Y8 dq WX;exact ZL 3 [0]<|io (.i (((n.2.map Wb).length:Nat):Int)) (.i (((TU<|n.2.map Wb).length:Nat):Int)) (li<|by rw [F9])<|Z0<|wk [0]<|Zu (decide (num>=(((n.2.map Wb).length:Nat):Int))) WX fl
  refine ac ((decide (num<0))||(decide (num>=(((n.2.map Wb).length:Nat):Int)))) (p:=(num<0)∨(num>=(((n.2.map Wb).length:Nat):Int))) (Yi dq dq) (fun QB=>?_) fun QB=>?_
  .refine ZB ?_;have hF:=Zku (n:=n) (ts:=ts) Ao QB;exact ZC<|r2 [] [.i (-1),.b false] ⟨(-1),U,U,(FZ hF)⟩<|Zd.tup<|.cons (lr _)<|.cons (lb<|FY hF) .nil
  refine ak<|aD 14<|ZJ 11 14 [0,1,2] [0] ?_;obtain ⟨x3,YG⟩:=Zs (n.2.map Wb) num.toNat om;obtain ⟨r,hr,hrx⟩:=I8 YG;have hrp:=hn.params_at hr;have hpx:x3.pms=r.1:=by rw [hrx];rfl
  have hpl:x3.pms.length<=3:=by rw [hpx];exact hrp
  refine dx 3 (Zl none num 3<|CY YG)<|ZJ 5 10 [4,5,6,7,8] [0]<|dx 9 (Zl none num 3<|CY YG)<|Zi 0 4 [10,11,12,13]<|de<|X6 (YH (op==9) Zq (fun JX=>?_) fun JX=>?_)
  .refine Y5 3<|Zx [] (Dk ts x3.pms)<|Z0 ?_;have hF:=sf9 (ts:=ts) JX QB YG;exact ZC<|r2 [] [.i x3.res,.b<|decide (ts=x3.pms)] ⟨x3.res,rfl,rfl,(Cw hF)⟩<|Zd.tup<|.cons (lr _)<|.cons (lb<|Cv hF<|by simp [*];try omega) .nil
  refine ak<|Y5 1<|iw (Yg x3.pms)<|ia (((x3.pms.length:Int)-1)) (((x3.pms.length:Int))-(1))<|Z0<|X6 (Y4 (((x3.pms.length:Int)-1)<0) (fun D8=>?_) fun D8=>?_)
  .refine ZB ?_;have hF:=Zkr (ts:=ts) (Ao.resolve_left JX) QB YG D8;exact ZC<|r2 [] [.i (-1),.b false] ⟨(-1),U,U,(FZ hF)⟩<|Zd.tup<|.cons (lr _)<|.cons (lb<|FY hF) .nil
  refine ak<|aD 9<|ZJ 5 9 [0,1,2,3] [0] ?_;obtain ⟨x4,WM⟩:=Zs x3.pms (((x3.pms.length:Int)-1).toNat) om;refine dx 4 (Zl none ((x3.pms.length:Int)-1) 1<|Y3 WM)<|Zi 2 4 [5,6]<|Z9 7<|Yu 7 [] [] [] (Zeh n.1 x4 x3.res)<|Zi 0 1 [8]<|de<|ar (XD 10 [] [(131,.i<|UP n.1 x4 x3.res),(140,.b ((decide ((UP n.1 x4 x3.res)>=0))&&(decide (ts=(x3.pms.take<|((x3.pms.length:Int)-1).toNat)))))] (fun gz=>gz) ?_ fun hj6=>?_)
  .refine Z0 ?_;have hF:=Zkq (ts:=ts) (Ao.resolve_left JX) QB YG D8 WM;exact ZC<|r2 [] [.i (UP n.1 x4 x3.res),.b ((decide ((UP n.1 x4 x3.res)>=0))&&(decide (ts=(x3.pms.take<|((x3.pms.length:Int)-1).toNat))))] ⟨UP n.1 x4 x3.res,rfl,rfl,(Cw hF)⟩<|Zd.tup<|.cons (lr _)<|.cons (lb<|Cv hF<|by rw [XE];simp) .nil
  refine Z1 4 (ib (b:=(decide ((UP n.1 x4 x3.res)>=0))) 134 (fun VF=>?_) fun VF=>?_)
  .have Bw:(UP n.1 x4 x3.res)>=0:=(dq).1 VF;exact Z1 3<|Zo (JC (es:=Z7 x3.pms) (hv:=none) (l:=0) (m:=((x3.pms.length:Int)-1)) (sz:=1) (es':=Z7 (x3.pms.take<|((x3.pms.length:Int)-1).toNat)) kr om (by simp<;>omega) (by simp<;>omega) (YJ _)<|by first|(simp only [Ua,VP,An,Bi];done)|(simp only [Ua,VP,An,Bi];rfl)|(simp [An,Bi];done))<|Zx [] (Dk ts<|x3.pms.take<|((x3.pms.length:Int)-1).toNat)<|Z1 1<|Yt (wk [0]<|fr<|Zu (decide (ts=(x3.pms.take<|((x3.pms.length:Int)-1).toNat))) VF fl) hj6
  have Aq:¬((UP n.1 x4 x3.res)>=0):=Y8 dq VF;exact Z1 6<|Yt (wk [0]<|fr<|Zu false VF fl) hj6
 refine ZB ?_;have hF:=sfd (n:=n) (num:=num) (ts:=ts) Za Xm Xs Ul Ud Ao;exact ZC<|r2 [] [.i (-1),.b false] ⟨(-1),U,U,(FZ hF)⟩<|Zd.tup<|.cons (lr _)<|.cons (lb<|FY hF) .nil
def St (n:Zm) (us:LI) (ks:List Z6) (ms:List LI) (hn:YZ n:=by exact ob) (hnn:∀t∈us,0<=t) (hk:0<ks.length:=by exact ob) (hl:ks.length=ms.length:=by exact ob) (hb:us.length+3+4*YT ks<=1000000000:=by exact ob) (hr:KE ks:=by exact ob) (hm3:∀m∈ms,m.length<=3) (hmn:∀m∈ms,∀f∈m,0<=f) (ih:∀(b:Z6) (us:LI),(b.sz<=YT ks)->(us.length+4*b.sz<=1000000000)->(b.rng)->(∀t∈us,0<=t)->Zj 70 [.agg [ZQ n.1,YV n],Z5 us,ZV b] [] (Yr<|.i<|YY n us b)):Zj 154 [.agg [ZQ n.1,YV n],Z5 us,W4 ks,KU ms] [] (Yr<|.tup [.i (W6 n us ks ms true 0),.b<|decide (0<=W6 n us ks ms true 0)]):=by
 have hkl:=Pb ks;refine ZF 45 Tryz.func154<|ar (iA [ZQ n.1,YV n] fun b1=>?_);refine Z0<|ZB<|YE 1<|iw (U0 ks)<|Z0<|ab 0<|Y2 (fun fz gz m F h=>∃(k:Nat) (t:Int),(k<=ks.length)/\(0<k->0<=t)/\(W6 n us (ks.drop k) (ms.drop k) (decide (k=0)) t=W6 n us ks ms true 0)/\F=sF [1,3,4,14,15] fz [(10,.i t),(16,.i k)]/\h=gz/\m=ks.length-k) _ _ _ ⟨0,(-1),ob,ob,(Zg6 hk (-1)),U,U,U⟩ (wk [0]<|fr<|Y7 fl) ?_;rintro m F h ⟨k,t,Ye,Zk,Zw,rfl,rfl,rfl⟩;refine ZB<|aq (XK ((k:Int)<(ks.length:Int)) (fun Za=>?_) fun Za=>?_)
 .refine ak<|aq<|ab 1<|Y5 1 ?_;obtain ⟨x1,Z3⟩:=Zs ks k om;have ZO:=Pc Z3;have hbr:=Gr hr Z3;refine Zo (Zl none (k:Int) 2<|Ux Z3)<|Z1 1 (iA [nl,.i 0] fun b2=>Z1 1<|ZD 0 b2 (Xb x1)<|ie<|aD 11<|ZJ 7 11 [0,1,2,3] [1] ?_);obtain ⟨x2,Zr⟩:=Zs ms k om;have hxl:=hm3 x2 (Y0 Zr);have hxn:=hmn x2 (Y0 Zr);refine dx 4 (Zl none (k:Int) 1<|AL Zr)<|ZJ 4 6 [5,8] [0]<|Z9 6 (dL 6 [0,1] [b2,b1] (WD [us,x2]) 2 1 fun v1=>Yw 3 3 [] [(27,KU [us,x2])]<|Z9 7<|dc 7 [] [0,1] [b2,b1] (Zkz [us,x2] (hf:=(by simp only [G9,Yy];omega))) ?_);rintro _ _ ⟨v2,rfl,rfl⟩;refine Yw 2 2 [] [(28,Z5<|[us,x2].flatten)]<|Z9 9<|Yu 9 [] [] [] (ih x1 ([us,x2].flatten) ob (by simp only [G9,Yy];omega) ob<|by rw [G9];exact Fz hnn hxn)<|Zi 0 1 [10]<|de<|X6<|Xu [1,3,4,13,14,15,16] [(41,.b ((decide ((YY n ([us,x2].flatten) x1)<0))||((decide ((k:Int)>0))&&((YY n ([us,x2].flatten) x1) != t))))] (fun gz=>gz) ?_ ?_
  .refine Z1 3 (ib (b:=(decide ((YY n ([us,x2].flatten) x1)<0))) 33 (fun Zb=>?_) fun Zb=>?_)
   .exact Z0<|ZH 4<|Zu true Zb fl
   refine Z1 3 (ib (b:=(decide ((k:Int)>0))) 36 (fun ZE=>?_) fun ZE=>?_)
   .exact Z0<|ZH 4<|Zu ((YY n ([us,x2].flatten) x1) != t) (And.intro Zb ZE) fl
   exact Z0<|ZH 4<|Zu false (And.intro Zb ZE) fl
  refine ac ((decide ((YY n ([us,x2].flatten) x1)<0))||((decide ((k:Int)>0))&&((YY n ([us,x2].flatten) x1) != t))) (p:=((YY n ([us,x2].flatten) x1)<0)∨(((k:Int)>0)/\((YY n ([us,x2].flatten) x1)≠t))) (Yi dq<|YN dq Yb) (fun Zf=>?_) fun Zf=>?_
  .refine ZB ?_;have hK:W6 n us ks ms true 0=-1:=by rw [<-Zw];rw [G9] at Zf;exact Z04 Z3 Zr Zf
   exact ZC<|r2 [] [.i (-1),.b false] ⟨rfl,rfl⟩<|Zd.tup<|.cons (li<|by rw [hK])<|.cons (lb<|by rw [hK];rfl) .nil
  exact ak<|TD<|az<|ZI k<|Z0<|ZK ⟨k+1,YY n ([us,x2].flatten) x1,ob,(by intro _;omega),(by rw [G9] at Zf ⊢;rw [<-Zw];exact (Z06 Z3 Zr Zf).symm),rfl,rfl,rfl⟩<|wk [3]<|fr<|ZM k fl
 refine ax 0<|ZB ?_;have hK:W6 n us ks ms true 0=t:=by rw [<-Zw];exact Z05 om
 exact ZC<|r2 [] [.i t,.b true] ⟨rfl,rfl⟩<|Zd.tup<|.cons (li<|by rw [hK])<|.cons (lb<|by rw [hK];exact (decide_eq_true<|Zk om).symm) .nil
def Su (n:Zm) (us:LI) (s:Z4) (hn:YZ n:=by exact ob) (hty:Jb n:=by exact ob) (hnn:∀t∈us,0<=t) (hb:us.length+4*s.sz<=1000000000:=by exact ob) (hr:s.rng:=by exact ob) (ih:∀(b:Z6) (us:LI),(b.sz<s.sz)->(us.length+4*b.sz<=1000000000)->(b.rng)->(∀t∈us,0<=t)->Zj 70 [.agg [ZQ n.1,YV n],Z5 us,ZV b] [] (Yr<|.i<|YY n us b)):Zj 113 [.agg [ZQ n.1,YV n],Z5 us,YL s] [] (fun r h=>∃(t:Int),r=.tup [.i t,.b<|decide (0<=Y6 n us s)]/\h=[]/\(¬Yv s.op=true->0<=Y6 n us s->t=Y6 n us s)):=by
 have Xz:=hn.decls;have hkz:=T6 s;have haz:=Qw s;have hse:=s.sz_eq;rw [s.rng_eq] at hr;obtain ⟨hnum,hkr⟩:=hr;refine ZF 233 Tryz.func113<|ar (iA [ZQ n.1,YV n] fun b1=>iA (Xp s) fun b2=>Z0<|Zt 2 [0]<|iw (Yg s.args) (iM 0 s.args.length fun v1=>?_));refine Z0<|Yh 2 [1]<|iw (Yg s.args)<|Z0<|ab 0<|Y2 (fun fz gz m F h=>∃(k:Nat) (ts:LI) (v:Value),(k<=s.args.length)/\(ts.length=k)/\(WC us (s.args.take k)=some ts)/\F=sF [1,3,5,20,21] fz [(8,ZT ts v),(22,.i k)]/\h=[Ze gz 1,Ze gz 2,.tail v 1]/\m=s.args.length-k) _ _ _ ⟨0,[],v1,ob,ob,ob,U,U,U⟩ (wk [1,1,0]<|fr<|Y7 fl) ?_;rintro m F h ⟨k,ts,v,Ye,Zk,Zw,rfl,rfl,rfl⟩;refine ZB<|aq (XK ((k:Int)<(s.args.length:Int)) (fun Za=>?_) fun Za=>?_)
 .refine ak<|aq<|ab 1<|ar ?_;obtain ⟨x1,Z3⟩:=Zs s.args k om;refine Zo (Zl none (k:Int) 1<|Y3 Z3)<|Z0<|X6<|Xu [1,3,5,8,10,20,21,22] [(33,.b ((decide (x1<0))||(decide (x1>=(us.length:Int)))))] (fun gz=>gz) ?_ ?_
  .refine Z1 3 (ib (b:=(decide (x1<0))) 28 (fun Zb=>?_) fun Zb=>?_)
   .have ZX:x1<0:=(dq).1 Zb;exact Z0<|ZH 3<|Zu true Zb fl
   have Yf:¬(x1<0):=Y8 dq Zb;exact Z1 2<|iw (Yg us)<|Z0<|ZH 3<|Zu (decide (x1>=(us.length:Int))) Zb fl
  refine ac ((decide (x1<0))||(decide (x1>=(us.length:Int)))) (p:=(x1<0)∨(x1>=(us.length:Int))) (Yi dq dq) (fun Zf=>?_) fun Zf=>?_
  .refine ZB ?_;have hS:Y6 n us s=-1:=Zn3 (OI Z3<|Je om);exact ZC<|r2 [] [.i (-1),.b false] ⟨(-1),rfl,rfl,(by intro _ h;rw [hS] at h;omega)⟩<|Zd.tup<|.cons (lr _)<|.cons (lb<|by rw [hS];rfl) .nil
  refine ak<|az<|Z1 3 ?_;obtain ⟨x2,Zr⟩:=Zs us x1.toNat om;exact Zo (Zl none x1 1<|Y3 Zr)<|Z1 1 (iL (Z7 [x2]) 1 1 fun v2=>ZY 0 [(39,Z5 [x2])] (ip 3 (Z7 (ts++[x2])) (Z7 ts) (Z7 [x2]) v none 1 (YJ _) (YJ _) (Wk _) (by simp<;>omega) (by simp [Wj,Z7]) fun v3=>Z0<|az<|ZI k<|Z0<|ZK ⟨k+1,(ts++[x2]),v3,ob,ob,(Z6u Zw Z3<|by rw [Qx om Zr]),rfl,rfl,rfl⟩<|wk [2,2,0]<|fr<|ZM k fl))
 refine ax 0<|X6<|Xu [1,3,5,8] [(70,.b ((s.into != 0)&&((s.op != 6)||((decide (s.into<1))||((decide (s.into>(us.length:Int)))||((gI us (s.into-1))==0))))))] (fun gz=>gz) ?_ ?_
 .refine ZL 4 [0] (ib (b:=(s.into != 0)) 45 (fun ZE=>?_) fun ZE=>?_)
  .have YK:s.into≠0:=(Yb).1 ZE;refine ZL 4 [0] (ib (b:=(s.op != 6)) 49 (fun Yx=>?_) fun Yx=>?_)
   .have YW:s.op≠6:=(Yb).1 Yx;exact Z0<|ZH 3<|Zu true (And.intro ZE Yx) fl
   have Xl:¬(s.op≠6):=Y8 Yb Yx;refine ZL 5 [0] (ib (b:=(decide (s.into<1))) 54 (fun Xa=>?_) fun Xa=>?_)
   .have XS:s.into<1:=(dq).1 Xa;exact Z0<|ZH 3<|Zu true (And.intro ZE<|And.intro Yx Xa) fl
   have Wv:¬(s.into<1):=Y8 dq Xa;refine ZL 3 [0]<|iw (Yg us)<|Z1 3 (ib (b:=(decide (s.into>(us.length:Int)))) 61 (fun WI=>?_) fun WI=>?_)
   .have WS:s.into>(us.length:Int):=(dq).1 WI;exact Z0<|ZH 3<|Zu true (And.intro ZE<|And.intro Yx<|And.intro Xa WI) fl
   have Vu:¬(s.into>(us.length:Int)):=Y8 dq WI;exact ZL 3 [0]<|ia ((s.into-1)) ((s.into)-(1))<|Zo (BP (es:=Z7 us) (hv:=none) (j:=(s.into-1)) (sz:=1) (y:=.i (gI us (s.into-1))) kr om (Y3<|RL om) rfl)<|Z0<|ZH 3<|Zu ((gI us (s.into-1))==0) (And.intro ZE<|And.intro Yx<|And.intro Xa WI) fl
  have T4:¬(s.into≠0):=Y8 Yb ZE;exact Z0<|ZH 3<|Zu false ZE fl
 refine ac ((s.into != 0)&&((s.op != 6)||((decide (s.into<1))||((decide (s.into>(us.length:Int)))||((gI us (s.into-1))==0))))) (p:=(s.into≠0)/\((s.op≠6)∨((s.into<1)∨((s.into>(us.length:Int))∨((gI us (s.into-1))=0))))) (YN Yb<|Yi Yb<|Yi dq<|Yi dq Zq) (fun ZA=>?_) fun ZA=>?_
 .refine ZB ?_;have hS:Y6 n us s=-1:=Zn4 (BA.1 ZA);exact ZC<|r2 [] [.i (-1),.b false] ⟨(-1),rfl,rfl,(by intro _ h;rw [hS] at h;omega)⟩<|Zd.tup<|.cons (lr _)<|.cons (lb<|by rw [hS];rfl) .nil
 refine ak<|aq<|ab 2<|Zt 2 [0]<|Zx [] (E6 s.op) (YH (Yv s.op) Iff.rfl (fun Ym=>?_) fun Ym=>?_)
 .refine Y5 1<|iw (Yg ts) (XD 9 [3,5,8] [(83,.b (((ts.length:Int)==1)&&((gI ts 0) != 0)))] (fun gz=>gz) ?_ fun hj1=>?_)
  .refine XD 14 [3,5,8] [(88,.b ((((ts.length:Int)==1)&&((gI ts 0) != 0))&&(s.num==0)))] (fun gz=>gz) ?_ fun hj2=>?_
   .refine XD 20 [3,5,8] [(94,.b (((((ts.length:Int)==1)&&((gI ts 0) != 0))&&(s.num==0))&&((s.kids.length:Int)==0)))] (fun gz=>gz) ?_ fun hj3=>?_
    .refine Z0<|X6<|Xu [3,8,11] [(105,.b ((((((ts.length:Int)==1)&&((gI ts 0) != 0))&&(s.num==0))&&((s.kids.length:Int)==0))&&((s.op==16)||(s.op==17))))] (fun gz=>gz) ?_ ?_
     .refine Z1 2 (ib (b:=(((((ts.length:Int)==1)&&((gI ts 0) != 0))&&(s.num==0))&&((s.kids.length:Int)==0))) 96 (fun V2=>?_) fun V2=>?_)
      .have Tn:((((ts.length:Int)=1)/\((gI ts 0)≠0))/\(s.num=0))/\((s.kids.length:Int)=0):=((YN (YN (YN Zq Yb) Zq) Zq)).1 V2;refine ZL 4 [0] (ib (b:=(s.op==16)) 100 (fun Vi=>?_) fun Vi=>?_)
       .have To:s.op=16:=(Zq).1 Vi;exact Z0<|ZH 3<|Zu true (And.intro V2 Vi) fl
       have K7:¬(s.op=16):=Y8 Zq Vi;exact U6 [0]<|ZH 3<|Zu (s.op==17) (And.intro V2 Vi) fl
      have QJ:¬(((((ts.length:Int)=1)/\((gI ts 0)≠0))/\(s.num=0))/\((s.kids.length:Int)=0)):=Y8 (YN (YN (YN Zq Yb) Zq) Zq) V2;exact Z0<|ZH 3<|Zu false V2 fl
     refine ac ((((((ts.length:Int)==1)&&((gI ts 0) != 0))&&(s.num==0))&&((s.kids.length:Int)==0))&&((s.op==16)||(s.op==17))) (p:=(((((ts.length:Int)=1)/\((gI ts 0)≠0))/\(s.num=0))/\((s.kids.length:Int)=0))/\((s.op=16)∨(s.op=17))) (YN (YN (YN (YN Zq Yb) Zq) Zq)<|Yi Zq Zq) (fun Xm=>?_) fun Xm=>?_
     .refine aD 12<|ZJ 9 12 [0,1,2] [1]<|dx 3 (BP (es:=Z7 ts) (hv:=some v) (j:=0) (sz:=1) (y:=.i (gI ts 0)) kr om (Y3<|H6 om) rfl)<|Zi 7 8 [4]<|Ji (fun fz gz F h=>F=sF [] fz [(13,.b<|Wd n.1<|gI ts 0)]/\h=gz) ?_ ?_
      .refine VR 5 9 ?_ ?_
       .exact Yu 5 [] [] [] (Hk n.1<|gI ts 0)<|Zi 3 6 [6,7,8]<|Z9 9 (dA 9 [] [] [.i 0,.i 0,nl] fun b3=>Z9 10<|YO 10 0 [] [] b3 (Qf<|Ui n.1<|gI ts 0)<|Zi 0 1 [11]<|de<|ZU ⟨U,U⟩<|wk [1,1,1] fl)
       exact dA 9 [1] [b1] [.i 0,.i 0,nl] fun b4=>Z9 5<|Yu 5 [] [] [] (Hk n.1<|gI ts 0)<|Zi 2 5 [6,7,8]<|Z9 10<|YO 10 0 [] [] b4 (Qf<|Ui n.1<|gI ts 0)<|Zi 0 1 [11]<|de<|ZU ⟨U,U⟩<|wk [1,1,1] fl
      rintro F h ⟨rfl,rfl⟩;refine TD (ZB ?_);have hS0:=CD (n:=n) hnn (C5 Zw om) fun q=>ZA (BA.2 q)
      exact ZC<|r2 [] [.i (-1),.b<|!Wd n.1 (gI ts 0)] ⟨(-1),U,U,(fun q=>absurd Ym q)⟩<|Zd.tup<|.cons (lr _)<|.cons (lb<|Zmh hS0 Ym Xm) .nil
     refine ak<|ZB ?_;have hS0:=CD (n:=n) hnn (C5 Zw om) fun q=>ZA<|BA.2 q
     exact ZC<|r2 [] [.i (-1),.b (((((ts.length:Int)==1)&&((gI ts 0) != 0))&&(s.num==0))&&((s.kids.length:Int)==0))] ⟨(-1),U,U,(fun q=>absurd Ym q)⟩<|Zd.tup<|.cons (lr _)<|.cons (lb<|Zmi hS0 Ym Xm) .nil
    refine Z1 1 (ib (b:=((((ts.length:Int)==1)&&((gI ts 0) != 0))&&(s.num==0))) 89 (fun WX=>?_) fun WX=>?_)
    .have Jp:(((ts.length:Int)=1)/\((gI ts 0)≠0))/\(s.num=0):=((YN (YN Zq Yb) Zq)).1 WX;exact ZL 2 [0]<|iw (U0 s.kids)<|Z1 2<|Yt (ZH 3<|Zu ((s.kids.length:Int)==0) WX fl) hj3
    have KQ:¬((((ts.length:Int)=1)/\((gI ts 0)≠0))/\(s.num=0)):=Y8 (YN (YN Zq Yb) Zq) WX;exact Z1 5<|Yt (ZH 3<|Zu false WX fl) hj3
   refine Z1 1 (ib (b:=(((ts.length:Int)==1)&&((gI ts 0) != 0))) 84 (fun VF=>?_) fun VF=>?_)
   .have Bw:((ts.length:Int)=1)/\((gI ts 0)≠0):=((YN Zq Yb)).1 VF;exact ZL 4 [0]<|Yt (ZH 3<|Zu (s.num==0) VF fl) hj2
   have Aq:¬(((ts.length:Int)=1)/\((gI ts 0)≠0)):=Y8 (YN Zq Yb) VF;exact Z1 4<|Yt (ZH 3<|Zu false VF fl) hj2
  refine Z1 2 (ib (b:=((ts.length:Int)==1)) 78 (fun Kk=>?_) fun Kk=>?_)
  .have Sd:(ts.length:Int)=1:=(Zq).1 Kk;exact Z1 1<|Zo (BP (es:=Z7 ts) (hv:=some v) (j:=0) (sz:=1) (y:=.i (gI ts 0)) kr om (Y3<|H6 om) rfl)<|Z1 3<|Yt (ZH 3<|Zu ((gI ts 0) != 0) Kk fl) hj1
  have Se:¬((ts.length:Int)=1):=Y8 Zq Kk;exact Z1 5<|Yt (ZH 3<|Zu false Kk fl) hj1
 refine Bn [0] (ac (s.op==7) Zq (fun Xs=>?_) fun Xs=>?_)
 .refine YE 1<|iw (Yg ts) (XD 9 [1,3,5] [(130,.b (((ts.length:Int) != 1)||((gI ts 0) != 0)))] (fun gz=>gz) ?_ fun hj4=>?_)
  .refine XD 14 [1,3,5] [(135,.b ((((ts.length:Int) != 1)||((gI ts 0) != 0))||(s.num != 0)))] (fun gz=>gz) ?_ fun hj5=>?_
   .refine Xu [1,3,5] [(141,.b (((((ts.length:Int) != 1)||((gI ts 0) != 0))||(s.num != 0))||((s.kids.length:Int) != 2)))] (fun gz=>gz) ?_ ?_
    .refine Z1 1 (ib (b:=((((ts.length:Int) != 1)||((gI ts 0) != 0))||(s.num != 0))) 136 (fun Br=>?_) fun Br=>?_)
     .have Mn:(((ts.length:Int)≠1)∨((gI ts 0)≠0))∨(s.num≠0):=((Yi (Yi Yb Yb) Yb)).1 Br;exact Z0<|ZH 3<|Zu true Br fl
     have Zdq:¬((((ts.length:Int)≠1)∨((gI ts 0)≠0))∨(s.num≠0)):=Y8 (Yi (Yi Yb Yb) Yb) Br;exact ZL 2 [0]<|iw (U0 s.kids)<|Z0<|ZH 3<|Zu ((s.kids.length:Int) != 2) Br fl
    refine ac (((((ts.length:Int) != 1)||((gI ts 0) != 0))||(s.num != 0))||((s.kids.length:Int) != 2)) (p:=((((ts.length:Int)≠1)∨((gI ts 0)≠0))∨(s.num≠0))∨((s.kids.length:Int)≠2)) (Yi (Yi (Yi Yb Yb) Yb) Yb) (fun Ul=>?_) fun Ul=>?_
    .refine ZB ?_;have hS0:=CD (n:=n) hnn (C5 Zw om) fun q=>ZA<|BA.2 q
     have hS:=Zmd hS0 Ym Xs Ul;exact ZC<|r2 [] [.i (-1),.b false] ⟨(-1),rfl,rfl,(by intro _ h;rw [hS] at h;omega)⟩<|Zd.tup<|.cons (lr _)<|.cons (lb<|by rw [hS];rfl) .nil
    refine ak<|aD 10<|ZJ 6 10 [0,1,2,3] [1,0]<|Z9 4 (dMN 4 [0,1] [b2,b1] 2 2 fun v4=>Yw 5 5 [] [(146,KU<|List.replicate 2 [])]<|Z9 5<|Yu 5 [] [] [] (St n us s.kids (List.replicate 2 []) (hnn:=hnn) (hm3:=(by intro m hm;first|(rw [IA hm];simp;done)|(obtain ⟨c,_,rfl⟩:=XG.1 hm;exact Uw Xz c))) (hmn:=(by intro m hm f hf;first|(rw [IA hm] at hf;simp at hf;done)|(obtain ⟨c,_,rfl⟩:=XG.1 hm;exact hty.fields c f hf))) (ih:=(fun b us2 h1 h2 h3 h4=>ih b us2 om h2 h3 h4)))<|Zi 0 4 [6,7,8,9]<|de ?_);have hS0:=CD (n:=n) hnn (C5 Zw om) fun q=>ZA<|BA.2 q
    have hS:=Zme hS0 Ym Xs Ul;exact ZC<|r2 [] [.i (W6 n us s.kids (List.replicate 2 []) true 0),.b<|decide (0<=W6 n us s.kids (List.replicate 2 []) true 0)] ⟨W6 n us s.kids (List.replicate 2 []) true 0,rfl,rfl,(fun _ _=>hS.symm)⟩<|Zd.tup<|.cons (lr _)<|.cons (lb<|by rw [hS]) .nil
   refine Z1 1 (ib (b:=(((ts.length:Int) != 1)||((gI ts 0) != 0))) 131 (fun Bt=>?_) fun Bt=>?_)
   .have Zdr:((ts.length:Int)≠1)∨((gI ts 0)≠0):=((Yi Yb Yb)).1 Bt;exact Z1 4<|Yt (ZH 3<|Zu true Bt fl) hj5
   have Zds:¬(((ts.length:Int)≠1)∨((gI ts 0)≠0)):=Y8 (Yi Yb Yb) Bt;exact ZL 4 [0]<|Yt (ZH 3<|Zu (s.num != 0) Bt fl) hj5
  refine Z1 2 (ib (b:=((ts.length:Int) != 1)) 125 (fun Fo=>?_) fun Fo=>?_)
  .have Zdt:(ts.length:Int)≠1:=(Yb).1 Fo;exact Z1 5<|Yt (ZH 3<|Zu true Fo fl) hj4
  have Zdu:¬((ts.length:Int)≠1):=Y8 Yb Fo;exact Z1 1<|Zo (BP (es:=Z7 ts) (hv:=some v) (j:=0) (sz:=1) (y:=.i (gI ts 0)) kr om (Y3<|H6 om) rfl)<|Z1 3<|Yt (ZH 3<|Zu ((gI ts 0) != 0) Fo fl) hj4
 refine Bn [0] (ac (s.op==8) Zq (fun Uc=>?_) fun Uc=>?_)
 .refine Zt 3 [1,0]<|Zx [] (Hm _ s.num)<|Z0<|aq<|aD 24<|Zi 23 24 [0]<|dw 1 (Yg ts)<|AH [1,3,5,14] [(181,.b (((ts.length:Int) != 1)||(((gI ts 0) != s.num)||((((((Y1 n.1 s.num).map<|ZZ n.1).length:Nat):Int)==0)||((s.kids.length:Int) != ((((Y1 n.1 s.num).map<|ZZ n.1).length:Nat):Int))))))] (fun gz=>gz) ?_ ?_
  .refine Zi 20 22 [2,3] (db (b:=((ts.length:Int) != 1)) 161 (fun D6=>?_) fun D6=>?_)
   .have Zdv:(ts.length:Int)≠1:=(Yb).1 D6;exact Zi 0 20 [4,5,6,7,8,9,10,11,12,13,14,15,16,17,18,19,20,21,22,23]<|de<|ZH 3<|Zu true D6 fl
   have Zdw:¬((ts.length:Int)≠1):=Y8 Yb D6;refine Zi 19 20 [4]<|dx 5 (BP (es:=Z7 ts) (hv:=some v) (j:=0) (sz:=1) (y:=.i (gI ts 0)) kr om (Y3<|H6 om) rfl)<|ZJ 12 18 [6,7,8,9,10,11] [0] (db (b:=((gI ts 0) != s.num)) 169 (fun E0=>?_) fun E0=>?_)
   .have Zdx:(gI ts 0)≠s.num:=(Yb).1 E0;exact Zi 0 12 [12,13,14,15,16,17,18,19,20,21,22,23]<|de<|ZH 3<|Zu true (And.intro D6 E0) fl
   have Mo:¬((gI ts 0)≠s.num):=Y8 Yb E0;refine Zi 11 12 [12]<|dn 13 (.i ((((Y1 n.1 s.num).map<|ZZ n.1).length:Nat):Int)) (.i (((WD<|(Y1 n.1 s.num).map<|ZZ n.1).length:Nat):Int)) (li<|by rw [GR])<|Zi 7 10 [14,15,16] (db (b:=(((((Y1 n.1 s.num).map<|ZZ n.1).length:Nat):Int)==0)) 174 (fun Fp=>?_) fun Fp=>?_)
   .have Mp:((((Y1 n.1 s.num).map<|ZZ n.1).length:Nat):Int)=0:=(Zq).1 Fp;exact Zi 0 7 [17,18,19,20,21,22,23]<|de<|ZH 3<|Zu true (And.intro D6<|And.intro E0 Fp) fl
   have Sf:¬(((((Y1 n.1 s.num).map<|ZZ n.1).length:Nat):Int)=0):=Y8 Zq Fp;exact ZJ 5 7 [17,18] [0]<|dw 19 (U0 s.kids)<|Zi 3 4 [20]<|dn 21 (.i ((((Y1 n.1 s.num).map<|ZZ n.1).length:Nat):Int)) (.i (((WD<|(Y1 n.1 s.num).map<|ZZ n.1).length:Nat):Int)) (li<|by rw [GR])<|Zi 0 2 [22,23]<|de<|ZH 3<|Zu ((s.kids.length:Int) != ((((Y1 n.1 s.num).map<|ZZ n.1).length:Nat):Int)) (And.intro D6<|And.intro E0 Fp) fl
  refine ac (((ts.length:Int) != 1)||(((gI ts 0) != s.num)||((((((Y1 n.1 s.num).map<|ZZ n.1).length:Nat):Int)==0)||((s.kids.length:Int) != ((((Y1 n.1 s.num).map<|ZZ n.1).length:Nat):Int))))) (p:=((ts.length:Int)≠1)∨(((gI ts 0)≠s.num)∨((((((Y1 n.1 s.num).map<|ZZ n.1).length:Nat):Int)=0)∨((s.kids.length:Int)≠((((Y1 n.1 s.num).map<|ZZ n.1).length:Nat):Int))))) (Yi Yb<|Yi Yb<|Yi Zq Yb) (fun Ud=>?_) fun Ud=>?_
  .refine ZB ?_;have hS0:=CD (n:=n) hnn (C5 Zw om) fun q=>ZA<|BA.2 q
   have hS:=Zmf hS0 Ym Xs Uc Ud;exact ZC<|r2 [] [.i (-1),.b false] ⟨(-1),rfl,rfl,(by intro _ h;rw [hS] at h;omega)⟩<|Zd.tup<|.cons (lr _)<|.cons (lb<|by rw [hS];rfl) .nil
  refine ak<|Zt 5 [1,0]<|Zx [] (St n us s.kids ((Y1 n.1 s.num).map<|ZZ n.1) (hnn:=hnn) (hm3:=(by intro m hm;first|(rw [IA hm];simp;done)|(obtain ⟨c,_,rfl⟩:=XG.1 hm;exact Uw Xz c))) (hmn:=(by intro m hm f hf;first|(rw [IA hm] at hf;simp at hf;done)|(obtain ⟨c,_,rfl⟩:=XG.1 hm;exact hty.fields c f hf))) (ih:=(fun b us2 h1 h2 h3 h4=>ih b us2 om h2 h3 h4)))<|Z0 ?_;have hS0:=CD (n:=n) hnn (C5 Zw om) fun q=>ZA<|BA.2 q
  have hS:=Zmg hS0 Ym Xs Uc Ud;exact ZC<|r2 [] [.i (W6 n us s.kids ((Y1 n.1 s.num).map<|ZZ n.1) true 0),.b<|decide (0<=W6 n us s.kids ((Y1 n.1 s.num).map<|ZZ n.1) true 0)] ⟨W6 n us s.kids ((Y1 n.1 s.num).map<|ZZ n.1) true 0,rfl,rfl,(fun _ _=>hS.symm)⟩<|Zd.tup<|.cons (lr _)<|.cons (lb<|by rw [hS]) .nil
 refine Zt 2 [0]<|iw (U0 s.kids) (XD 33 [3,5,8] [(223,.b ((decide ((s.kids.length:Int)>0))||((s.op==10)&&((decide (s.num>=0))&&((decide (s.num<(((n.2.map Wb).length:Nat):Int)))&&(decide (((((UV n s.num).lnt).length:Nat):Int)>0)))))))] (fun gz=>gz) ?_ fun hj6=>?_)
 .refine YH ((decide ((s.kids.length:Int)>0))||((s.op==10)&&((decide (s.num>=0))&&((decide (s.num<(((n.2.map Wb).length:Nat):Int)))&&(decide (((((UV n s.num).lnt).length:Nat):Int)>0)))))) (p:=((s.kids.length:Int)>0)∨((s.op=10)/\((s.num>=0)/\((s.num<(((n.2.map Wb).length:Nat):Int))/\(((((UV n s.num).lnt).length:Nat):Int)>0))))) (Yi dq<|YN Zq<|YN dq<|YN dq dq) (fun Qc=>?_) fun Qc=>?_
  .refine ZB ?_;have hS0:=CD (n:=n) hnn (C5 Zw om) fun q=>ZA<|BA.2 q
   have hS:=stB hS0 Ym Xs Uc Qc;exact ZC<|r2 [] [.i (-1),.b false] ⟨(-1),rfl,rfl,(by intro _ h;rw [hS] at h;omega)⟩<|Zd.tup<|.cons (lr _)<|.cons (lb<|by rw [hS];rfl) .nil
  refine ak<|ar<|Kq 6 [(229,Z5 ts)] [1,0,0]<|ic [] (Zew _ s.op s.num ts) ?_;rintro _ _ ⟨t1,rfl,rfl,Hf⟩;refine Z0 ?_;have hS0:=CD (n:=n) hnn (C5 Zw om) fun q=>ZA<|BA.2 q
  have hS:=stS hS0 Ym Xs Uc Qc;exact ZC<|r2 [] [.i t1,.b<|(XT n s.op s.num ts).isSome] ⟨t1,U,U,(Zmk hS Hf)⟩<|Zd.tup<|.cons (lr _)<|.cons (lb<|Zmj hty hS) .nil
 refine Z1 2 (ib (b:=(decide ((s.kids.length:Int)>0))) 195 (fun Cf=>?_) fun Cf=>?_)
 .have Zoy:(s.kids.length:Int)>0:=(dq).1 Cf;exact Z1 28<|Yt (ZH 3<|Zu true Cf fl) hj6
 have Zoz:¬((s.kids.length:Int)>0):=Y8 dq Cf;refine ZL 4 [0] (ib (b:=(s.op==10)) 199 (fun D7=>?_) fun D7=>?_)
 .have Zp0:s.op=10:=(Zq).1 D7;refine ZL 5 [0] (ib (b:=(decide (s.num>=0))) 204 (fun E1=>?_) fun E1=>?_)
  .have Zp1:s.num>=0:=(dq).1 E1;refine ZL 4 [0,1]<|io (.i (((n.2.map Wb).length:Nat):Int)) (.i (((TU<|n.2.map Wb).length:Nat):Int)) (li<|by rw [F9])<|Z1 3 (ib (b:=(decide (s.num<(((n.2.map Wb).length:Nat):Int)))) 212 (fun E2=>?_) fun E2=>?_)
   .have Zp2:s.num<(((n.2.map Wb).length:Nat):Int):=(dq).1 E2;exact ZL 4 [1,0]<|Zo (BP (es:=TU (n.2.map Wb)) (hv:=none) (j:=s.num) (sz:=3) (y:=Gj (UV n s.num)) kr om (CY<|Z3s om) rfl)<|Z1 2<|io (.i ((((UV n s.num).lnt).length:Nat):Int)) (.i (((Z7<|(UV n s.num).lnt).length:Nat):Int)) (li<|by rw [Yg])<|Z1 3<|Yt (ZH 3<|Zu (decide (((((UV n s.num).lnt).length:Nat):Int)>0)) (And.intro Cf<|And.intro D7<|And.intro E1 E2) fl) hj6
   have Zp3:¬(s.num<(((n.2.map Wb).length:Nat):Int)):=Y8 dq E2;exact Z1 11<|Yt (ZH 3<|Zu false (And.intro Cf<|And.intro D7<|And.intro E1 E2) fl) hj6
  have Zp4:¬(s.num>=0):=Y8 dq E1;exact Z1 19<|Yt (ZH 3<|Zu false (And.intro Cf<|And.intro D7 E1) fl) hj6
 have Zp5:¬(s.op=10):=Y8 Zq D7;exact Z1 24<|Yt (ZH 3<|Zu false (And.intro Cf D7) fl) hj6
def Zek (n:Zm) (us:LI) (b:Z6) (hn:YZ n) (hnn:∀t∈us,0<=t) (hb:us.length+4*b.sz<=1000000000) (hr:b.rng) (ih:∀(s:Z4) (us:LI),(s.sz<b.sz)->(us.length+4*s.sz<=1000000000)->(s.rng)->(∀t∈us,0<=t)->Zj 113 [.agg [ZQ n.1,YV n],Z5 us,YL s] [] fun r h=>∃(t:Int),r=.tup [.i t,.b<|decide (0<=Y6 n us s)]/\h=[]/\(¬Yv s.op=true->0<=Y6 n us s->t=Y6 n us s)):Zj 70 [.agg [ZQ n.1,YV n],Z5 us,ZV b] [] (Yr<|.i<|YY n us b):=by
 have hbz:=U7 b;have hbe:=DD n us b;rw [b.rng_eq] at hr;refine ZF 54 Tryz.func70<|ar (iA [ZQ n.1,YV n] fun b1=>iA (Xb b) fun b2=>Z0<|Y5 1<|ic [] (EV us) ?_);rintro _ _ ⟨v1,rfl,rfl⟩;refine Z0<|Yh 2 [1]<|iw (V8 b.steps)<|Z0<|ab 0<|Y2 (fun fz gz m F h=>∃(k:Nat) (vs:LI) (v:Value),(k<=b.steps.length)/\(vs.length<=us.length+k)/\(∀t∈vs,0<=t)/\(XJ n (b.steps.drop k) vs=XJ n b.steps us)/\F=sF [3,5,15,16] fz [(7,ZT vs v),(17,.i k)]/\h=[Ze gz 1,Ze gz 2,.tail v 1]/\m=b.steps.length-k) _ _ _ ⟨0,us,v1,ob,ob,ob,ob,U,U,U⟩ (wk [1,1,0]<|fr<|Y7 fl) ?_;rintro m F h ⟨k,vs,v,Ye,Zk,Zw,Yz,rfl,rfl,rfl⟩;refine ZB<|aq (XK ((k:Int)<(b.steps.length:Int)) (fun Za=>?_) fun Za=>?_)
 .refine ak<|aq<|ab 1<|ar ?_;obtain ⟨x1,Z3⟩:=Zs b.steps k om;have hss:=BQ Z3;have hsr:=NY hr Z3;refine Zo (Zl none (k:Int) 5<|Wi Z3)<|Z1 1 (iA [.i 0,.i 0,.i 0,nl,nl] fun b3=>ZD 0 b3 (Xp x1)<|ie<|ar<|Kq 3 [(23,Z5 vs)] [2,0]<|ic [] (ih x1 vs ob ob ob ob) ?_);rintro _ _ ⟨t1,rfl,rfl,ZX⟩;refine Z0<|X6 (YH (!decide (0<=Y6 n vs x1)) (p:=¬(decide (0<=Y6 n vs x1)=true)) (Yp Iff.rfl) (fun Zf=>?_) fun Zf=>?_)
  .exact ar<|Zp<|ZW (.i (-1))<|li<|by rw [hbe,<-Yz,Zn6 Z3 (fun q=>Zf<|decide_eq_true q) rfl]
  refine ak<|Zt 2 [0]<|Zx [] (E6 x1.op)<|Z0<|Ak (fun fz gz F h=>∃(w:Value),F=sF [3,5,15,16,17] fz [(7,ZT (if Yv x1.op=true then vs else vs++[t1]) w)]/\h=[Ze gz 1,Ze gz 2,.tail w 1]) (fun _ _=>rfl) ?_ ?_
  .refine ac (!Yv x1.op) (p:=¬(Yv x1.op=true)) (Yp Iff.rfl) (fun ZA=>?_) fun ZA=>?_
   .exact az<|Z1 2 (iL (Z7 [t1]) 1 1 fun v2=>ZY 0 [(36,Z5 [t1])] (ip 4 (Z7 (vs++[t1])) (Z7 vs) (Z7 [t1]) v none 1 (YJ _) (YJ _) (Wk _) (by simp<;>omega) (by simp [Wj,Z7]) fun v3=>Z0<|ZU ⟨v3,rfl,rfl⟩<|wk [3,3,0]<|fc (x:=ZT (vs++[t1]) v3) (Zd.slh _<|Ys Z7<|by first|rfl|(rw [Zg ZA])|(rw [Z8 ZA])|(simp [ZA];done)|(rw [XE];simp [ZA];done)|omega) fl))
   exact ak<|ZU ⟨v,rfl,rfl⟩<|wk [1,1,1]<|fc (x:=ZT vs v) (Zd.slh _<|Ys Z7<|by first|rfl|(rw [Zg ZA])|(rw [Z8 ZA])|(simp [ZA];done)|(rw [XE];simp [ZA];done)|omega) fl
  rintro F h ⟨w,rfl,rfl⟩;refine az (ZI k (Z0 ?_));have h0:0<=Y6 n vs x1:=of_decide_eq_true (Wp.1 Zf);exact ZK ⟨k+1,(if Yv x1.op=true then vs else vs++[t1]),w,ob,(by split<;>(try simp)<;>omega),(Zhd Zw fun q=>by rw [ZX q h0];exact h0),(Zn5 Z3 h0 ZX Yz),rfl,rfl,rfl⟩ (ZH 3 (fr (ZM k fl)))
 refine ax 0<|X6<|Xu [5,7] [(48,.b ((decide (b.result<0))||(decide (b.result>=(vs.length:Int)))))] (fun gz=>gz) ?_ ?_
 .refine ZL 4 [0] (ib (b:=(decide (b.result<0))) 42 (fun Zb=>?_) fun Zb=>?_)
  .exact Z0<|ZH 3<|Zu true Zb fl
  exact ZL 3 [0]<|iw (Yg vs)<|Z0<|ZH 3<|Zu (decide (b.result>=(vs.length:Int))) Zb fl
 refine ac ((decide (b.result<0))||(decide (b.result>=(vs.length:Int)))) (p:=(b.result<0)∨(b.result>=(vs.length:Int))) (Yi dq dq) (fun Ym=>?_) fun Ym=>?_
 .exact ar<|Zp<|ZW (.i (-1))<|li (by rw [hbe,<-Yz,Xk om];show _=(Xq vs b.result).getD (-1);rw [Je om];rfl)
 refine ak<|Zt 3 [0] ?_;obtain ⟨x2,Zr⟩:=Zs vs b.result.toNat om;exact Zo (Zl (some v) b.result 1<|Y3 Zr)<|Zp<|ZW (.i x2)<|li (by rw [hbe,<-Yz,Xk om];show _=(Xq vs b.result).getD (-1);rw [Qx om Zr];rfl)
def Zej (n:Zm) (hn:YZ n) (hty:Jb n) (m:Nat):∀(b:Z6) (us:LI),(b.sz<=m)->(us.length+4*b.sz<=1000000000)->(b.rng)->(∀t∈us,0<=t)->Zj 70 [.agg [ZQ n.1,YV n],Z5 us,ZV b] [] (Yr<|.i<|YY n us b):=by
 induction m with
 | zero=>intro b us h;have:=b.sz_pos;omega
 | succ m ih=>intro b us h1 h2 h3 h4;exact Zek n us b hn h4 h2 h3 fun s us2 k1 k2 k3 k4=>Su n us2 s hn hty k4 k2 k3 fun b2 us3 q1 q2 q3 q4=>ih b2 us3 om q2 q3 q4
def So (n:Zm) (us:LI) (b:Z6) (hn:YZ n) (hty:Jb n) (hnn:∀t∈us,0<=t) (hb:us.length+4*b.sz<=1000000000) (hr:b.rng):Zj 70 [.agg [ZQ n.1,YV n],Z5 us,ZV b] [] (Yr<|.i<|YY n us b):=
 Zej n hn hty b.sz b us (X8 _) hb hr hnn
def Sm (n:Zm) (hz:WF n:=by exact ob) (hr:∀r∈n.2,r.4.rng):Zj 31 [Yq n] [] (Yr<|.b<|Wo n):=by
 have hzl:=hz.len;refine ZF 37 Tryz.func31<|ar (iA (YI n) fun b1=>Z0<|Zt 1 [0]<|ic [] (Sr n) ?_);rintro _ _ (⟨rfl,rfl,ZX⟩|⟨rfl,rfl,Yf⟩)
 .refine Z1 3 (iA [nl,nl] fun b2=>ZD 0 b2 [ZQ n.1,YV n]<|Z0<|X6 (YH (!VV n) (p:=¬(VV n=true)) (Yp Iff.rfl) (fun Za=>?_) fun Za=>?_))
  .exact ar<|Zp<|ZW (.b false)<|lb (by rw [Wo,JE.2 Za];rfl)
  have hsg:VV n=true:=by simpa using Za
  have hok:=N2 hz hsg;have hty:=Z11 hsg;refine ak<|Yh 2 [1]<|iw (U1 n.2)<|Z0<|ab 0<|Y2 (fun fz gz m F h=>∃(k:Nat),(k<=n.2.length)/\(QN n (n.2.drop k)=QN n n.2)/\F=sF [3,15,16] fz [(17,.i k)]/\h=[Ze gz 0]/\m=n.2.length-k) _ _ _ ⟨0,ob,ob,U,U,U⟩ (wk [0]<|Y7 fl) ?_;rintro m F h ⟨k,Ye,Zk,rfl,rfl,rfl⟩;refine ZB<|aq (XK ((k:Int)<(n.2.length:Int)) (fun Zf=>?_) fun Zf=>?_)
  .refine ak<|aq<|ab 1<|ar ?_;obtain ⟨x1,Z3⟩:=Zs n.2 k om;have hrm:=Y0 Z3;have ZO:=hz.body _ hrm;have hps:=hok.params_at Z3;refine Zo (Zl none (k:Int) 5<|WG Z3)<|Z1 1 (iA [nl,nl,.i 0,nl,.i 0] fun b3=>ZD 0 b3 (Qg x1)<|ie<|aD 15<|ZJ 13 15 [0,1] [0]<|Z9 2<|Yu 2 [] [] [] (Sl x1.4)<|AH [3,15,16,17] [(35,.b ((decide ((VG x1.4)<0))||((YY n x1.1 x1.4) != x1.result)))] (fun gz=>gz) ?_ ?_)
   .refine Zi 10 12 [3,4] (db (b:=(decide ((VG x1.4)<0))) 25 (fun Zb=>?_) fun Zb=>?_)
    .have YK:(VG x1.4)<0:=(dq).1 Zb;exact Zi 0 10 [5,6,7,8,9,10,11,12,13,14]<|de<|wk [0,0]<|Zu true Zb fl
    have YW:¬((VG x1.4)<0):=Y8 dq Zb;exact ZJ 3 10 [5,6,7,8,9,11,12] [1,0,0,0]<|Z9 10<|Yu 10 [] [0] [b3] (So n x1.1 x1.4 ob hty (hty.params _ hrm) ob<|hr _ hrm)<|Zi 0 2 [13,14]<|de<|wk [0,0]<|Zu ((YY n x1.1 x1.4) != x1.result) Zb fl
   refine ac ((decide ((VG x1.4)<0))||((YY n x1.1 x1.4) != x1.result)) (p:=((VG x1.4)<0)∨((YY n x1.1 x1.4)≠x1.result)) (Yi dq Yb) (fun ZA=>?_) fun ZA=>?_
   .refine ZB ?_;rw [Yc Z3] at Zk;exact ZC<|ZW (.b false)<|lb (by clear Z3;first|rfl|omega|grind [QN,Wo])
   refine ak<|az<|ZI k<|Z0 ?_;have hdr:=Yc Z3;exact ZK ⟨k+1,ob,(by rw [hdr] at Zk;clear hdr Z3;grind [QN]),rfl,rfl,rfl⟩<|wk [1]<|ZM k fl
  refine ax 0 (ZB ?_)
  try rw [Xk (xs:=n.2) (k:=k) om] at Zk
  exact ZC<|ZW (.b true)<|lb<|by first|rfl|omega|grind [QN,Wo]
 exact Z1 3 (iA [nl,nl] fun b4=>ZD 0 b4 [ZQ [],Ei []]<|Z0<|Yj<|Wc<|ar<|Zp<|ZW (.b false)<|lb<|by rw [Wo,‹VV n=false›];rfl)
def Zeg (a:Yn) (hl:a.fds.length<=1000000:=by exact ob) (hf:0<=a.fst/\a.fst<=1000000000:=by exact ob):Zj 219 [.agg [.i a.mat,.i a.fst,Z5 a.fds,.b a.chg]] [] (Yr<|Z5<|Ut a.fds a.fst):=by
 refine ZF 25 Tryz.func219<|ar (iA [.i a.mat,.i a.fst,Z5 a.fds,.b a.chg] fun b1=>?_);refine Z0<|ZB<|Yh 2 [0]<|iw (Yg a.fds)<|Z0<|ab 0<|Qv 1<|Y2 (fun fz gz m F h=>∃(k:Nat) (acc:LI) (v:Value),(k<=a.fds.length)/\(acc.length<=k)/\(acc++Ut (a.fds.drop k) (a.fst+k)=Ut a.fds a.fst)/\F=sF [1,7,8] fz [(3,ZT acc v),(9,.i k)]/\h=[Ze gz 1,.tail v 1]/\m=a.fds.length-k) _ _ _ ⟨0,[],(.slice none 0 0),ob,ob,ob,rfl,rfl,rfl⟩ (wk [1,0]<|fc (x:=nl) (Zd.slh _<|by first|rfl|(subst_vars;rfl))<|Y7 fl) ?_;rintro m F h ⟨k,acc,v,Ye,Zk,Zw,rfl,rfl,rfl⟩;refine ZB<|aq (XK ((k:Int)<(a.fds.length:Int)) (fun Za=>?_) fun Za=>?_)
 .refine ak<|aq<|ab 1<|Y5 1 ?_;obtain ⟨x1,Z3⟩:=Zs a.fds k om;refine Zo (Zl none (k:Int) 1<|Y3 Z3)<|Z0<|ZB<|Ak (fun fz gz F h=>∃(w:Value),F=sF [1,7,8,9] fz [(3,ZT (if x1≠0 then acc++[a.fst+k] else acc) w)]/\h=[Ze gz 0,.tail w 1]) (fun _ _=>rfl) ?_ ?_
  .refine ac (x1 != 0) Yb (fun Zf=>?_) fun Zf=>?_
   .exact az<|ZL 4 [0]<|ia ((a.fst+(k:Int))) ((a.fst)+((k:Int))) (iL (Z7 [(a.fst+(k:Int))]) 1 1 fun v1=>ZY 0 [(21,Z5 [(a.fst+(k:Int))])] (ip 2 (Z7 (acc++[(a.fst+(k:Int))])) (Z7 acc) (Z7 [(a.fst+(k:Int))]) v none 1 (YJ _) (YJ _) (Wk _) (by simp<;>omega) (by simp [Wj,Z7]) fun v2=>Z0<|ZU ⟨v2,rfl,rfl⟩<|wk [2,0]<|fc (x:=ZT (acc++[(a.fst+(k:Int))]) v2) (Zd.slh _<|Ys Z7<|by first|rfl|(rw [Zg Zf])|(rw [Z8 Zf])|(simp [Zf];done)|(rw [XE];simp [Zf];done)|omega) fl))
   exact ak<|ZU ⟨v,rfl,rfl⟩<|wk [0,0]<|fc (x:=ZT acc v) (Zd.slh _<|Ys Z7<|by first|rfl|(rw [Zg Zf])|(rw [Z8 Zf])|(simp [Zf];done)|(rw [XE];simp [Zf];done)|omega) fl
  rintro F h ⟨w,rfl,rfl⟩;exact az (ZI k (Z0 (ZK ⟨k+1,(if x1≠0 then acc++[a.fst+k] else acc),w,ob,(by split<;>(try simp)<;>omega),(Zdo Z3 Zw),rfl,rfl,rfl⟩ (wk [0,0] (fr (ZM k fl))))))
 exact ax 0<|ar<|Zp<|ZW (ZT acc v)<|Zd.sl _<|Ys Z7<|Zdn om Zw
def DC (b:Nat) (ga gb gc:Hd) (n:Zm) (L:VB) (ln:LI) (am:List Yn) (t o:Int) (hlb:L.1.length<=1000000000:=by exact ob) (hlk:WT L:=by exact ob):Zj 139 [.p b 0,.i t,.i o] [.obj b [ZQ n.1,YV n,Z5 ln,Xc am,.h ga,.h gb,.h gc],rV ga L.1,rV gb L.2,rV gc L.6] (fun r h=>∃(wa:Hd) (wb:Hd) (wc:Hd),h=[.obj b [ZQ n.1,YV n,Z5 ln,Xc am,.h wa,.h wb,.h wc],rV wa<|(L.grow t o (-1)).vars,rV wb<|(L.grow t o (-1)).own,rV wc<|(L.grow t o (-1)).tok]):=by
 have hlk0:=hlk;obtain ⟨e1,e2,e3,e4,e5⟩:=hlk0;exact ZF 35 Tryz.func139<|Zt 6 [0] (iL (Z7 [t]) 1 1 fun v1=>ZY 0 [(12,Z5 [t])] (KR 2 ga L.1 [t] none fun v2=>Z1 2<|ZD 2 b [ZQ n.1,YV n,Z5 ln,Xc am,.h v2,.h gb,.h gc]<|ie<|Zt 6 [0] (iL (Z7 [o]) 1 1 fun v3=>ZY 0 [(22,Z5 [o])] (KR 4 gb L.2 [o] none fun v4=>Z1 2<|ZD 2 b [ZQ n.1,YV n,Z5 ln,Xc am,.h v2,.h v4,.h gc]<|ie<|az<|ZL 5 [0] (iL (Z7 [-1]) 1 1 fun v5=>ZY 0 [(31,Z5 [-1])] (KR 6 gc L.6 [-1] none fun v6=>Z1 2<|ZD 2 b [ZQ n.1,YV n,Z5 ln,Xc am,.h v2,.h v4,.h v6]<|ie<|r2 [0,4,2,0] [] ⟨v2,v4,v6,U⟩ (lr _) (eq:=(rc<|rv (xs:=(L.1++[t])) ob<|rv (xs:=(L.2++[o])) ob<|rv (xs:=(L.6++[-1])) ob rz))))))))
def Gn (b:Nat) (ga gb gc:Hd) (n:Zm) (L:VB) (ln:LI) (am:List Yn) (i:Int) (hlk:WT L:=by exact ob) (hi:0<=i/\i<L.1.length:=by exact ob) (hq:∀x∈L.2,-1000000000<=x/\x<=1000000000):Zj 142 [.p b 0,.i i] [.obj b [ZQ n.1,YV n,Z5 ln,Xc am,.h ga,.h gb,.h gc],rV ga L.1,rV gb L.2,rV gc L.6] (fun r h=>r=.b (decide (1<=gI L.2 i))/\h=[.obj b [ZQ n.1,YV n,Z5 ln,Xc am,.h ga,.h gb,.h gc],rV ga<|(XU L i).vars,rV gb<|(XU L i).own,rV gc<|(XU L i).tok]):=by
 have hlk0:=hlk;obtain ⟨e1,e2,e3,e4,e5⟩:=hlk0;refine ZF 22 Tryz.func142<|ZB<|Zt 5 [0]<|Zo (Wg 2 gb L.2 i i.toNat (hq:=rfl)) ?_;obtain ⟨x1,Z3⟩:=Zs L.2 i.toNat om;have hxq:=hq _ (Y0 Z3);have hgi:=WH Z3;have hsl:(L.2.set i.toNat (x1-1)).length=L.2.length:=UO;refine WW (VO 2 gb L.2 i.toNat x1 Z3)<|ia ((x1-1)) ((x1)-(1))<|Zo (Wg 2 gb L.2 i i.toNat (hq:=rfl))<|D9 2 gb L.2 i.toNat (x1-1)<|ie<|Zt 5 [1]<|Zo (Wg 0 gb (L.2.set i.toNat (x1-1)) i i.toNat (hq:=rfl)) ?_;obtain ⟨x2,Zr⟩:=Zs (L.2.set i.toNat (x1-1)) i.toNat om;have hxe:x2=x1-1:=by rw [List.getElem?_set_self om] at Zr;exact (Qs Zr).symm
 exact WW (VO 0 gb (L.2.set i.toNat (x1-1)) i.toNat x2 Zr)<|Zp<|r2 [1,1,0,0] [.b (decide (x2>=0))] ⟨rfl,rfl⟩ (lb<|by rw [hxe,hgi,XE];simp) (eq:=(rc<|rv (xs:=L.1) ob<|rv (xs:=(L.2.set i.toNat (x1-1))) (by rw [XU,hgi])<|rv (xs:=L.6) ob rz))
def P4 (b:Nat) (ga gb gc:Hd) (n:Zm) (L:VB) (ln:LI) (am:List Yn) (hlb:L.1.length<=1000000000:=by exact ob) (hlk:WT L:=by exact ob):Zj 220 [.p b 0] [.obj b [ZQ n.1,YV n,Z5 ln,Xc am,.h ga,.h gb,.h gc],rV ga L.1,rV gb L.2,rV gc L.6] (fun r h=>∃(c:Nat) (wa:Hd) (wb:Hd) (wc:Hd),r=.p c 0/\h=[.obj c [ZQ n.1,YV n,Z5 ln,Xc am,.h wa,.h wb,.h wc],rV wa L.1,rV wb L.2,rV wc L.6,.obj b [ZQ n.1,YV n,Z5 ln,Xc am,.h ga,.h gb,.h gc],rV ga L.1,rV gb L.2,rV gc L.6]):=by
 have hlk0:=hlk;obtain ⟨e1,e2,e3,e4,e5⟩:=hlk0;refine ZF 25 Tryz.func220<|ZB<|Zt 3 [0] (iA [nl,nl,nl,nl,nl,nl,nl] fun b1=>ZD 0 b1 [ZQ n.1,YV n,Z5 ln,Xc am,.h ga,.h gb,.h gc]<|ie<|aD 21<|ZJ 9 21 [0,1,2,3,5,6,7,8,10,11,12,13] [1,1,1]<|Z9 4<|TC 4 [2] [1,1] [b,b] [rV ga L.1] (EW L.1) Jh (gL (v:=ga) 0 gN) (Uu T7) ?_);rintro _ _ ⟨v1,rfl,rfl⟩;refine Z9 9<|TC 9 [4] [1] [b] [rV gb L.2] (EW L.2) Jh (gL (v:=gb) 0 gN) (Uu T7) ?_;rintro _ _ ⟨v2,rfl,rfl⟩;refine Z9 14<|TC 14 [6] [] [] [rV gc L.6] (EW L.6) Jh (gL (v:=gc) 0 gN) (Uu T7) ?_;rintro _ _ ⟨v3,rfl,rfl⟩;exact Zi 5 6 [15]<|Z9 16<|YO 16 6 [] [] b1 [ZQ n.1,YV n,Z5 ln,Xc am,.h v1,.h gb,.h gc]<|Zi 3 4 [17]<|Z9 18<|YO 18 0 [] [] b1 [ZQ n.1,YV n,Z5 ln,Xc am,.h v1,.h v2,.h gc]<|Zi 1 2 [19]<|Z9 20<|YO 20 0 [] [] b1 [ZQ n.1,YV n,Z5 ln,Xc am,.h v1,.h v2,.h v3]<|de<|ar<|Zp<|r1 [0,4,2,0,3,2,1,0] ⟨b1,v1,v2,v3,U,U⟩
def P3 (b:Nat) (ga gb gc:Hd) (n:Zm) (L:VB) (ln:LI) (am:List Yn) (i:Int) (hlk:WT L) (har:Vg n.1 L am) (hln:ln.length<=4294967296) (hal:am.length<=1000000000) (hlb:L.1.length<=1000000000) (hd:∀j:Int,0<=j->j<L.1.length->gI L.3 j<j) (hi:0<=i/\i<L.1.length) (ih:∀(i2:Int),(0<=i2/\i2<i)->Zj 217 [.p b 0,.i i2] [.obj b [ZQ n.1,YV n,Z5 ln,Xc am,.h ga,.h gb,.h gc],rV ga L.1,rV gb L.2,rV gc L.6] fun r h=>r=.b (Ws L ln i2)/\h=[.obj b [ZQ n.1,YV n,Z5 ln,Xc am,.h ga,.h gb,.h gc],rV ga L.1,rV gb L.2,rV gc L.6]):Zj 217 [.p b 0,.i i] [.obj b [ZQ n.1,YV n,Z5 ln,Xc am,.h ga,.h gb,.h gc],rV ga L.1,rV gb L.2,rV gc L.6] (fun r h=>r=.b (Ws L ln i)/\h=[.obj b [ZQ n.1,YV n,Z5 ln,Xc am,.h ga,.h gb,.h gc],rV ga L.1,rV gb L.2,rV gc L.6]):=by
 have hlk0:=hlk;obtain ⟨e1,e2,e3,e4,e5⟩:=hlk0;refine ZF 51 Tryz.func217<|ZB<|Yh 5 [0]<|Zo (Wg 2 gb L.2 i i.toNat (hq:=rfl)) ?_;obtain ⟨x1,Z3⟩:=Zs L.2 i.toNat om;have hgi:=WH Z3;refine WW (VO 2 gb L.2 i.toNat x1 Z3)<|Xu [0,1] [(22,.b ((decide (x1>0))||(decide (i∈ln))))] (fun gz=>gz) ?_ ?_
 .refine Z1 2 (ib (b:=(decide (x1>0))) 15 (fun Zb=>?_) fun Zb=>?_)
  .have ZX:x1>0:=(dq).1 Zb;exact Z0<|ZH 4<|Zu true Zb fl
  have Yf:¬(x1>0):=Y8 dq Zb;exact ZL 5 [0]<|Zx [] (NR ln i)<|Z0<|ZH 4<|Zu (decide (i∈ln)) Zb fl
 refine ac ((decide (x1>0))||(decide (i∈ln))) (p:=(x1>0)∨(i∈ln)) (Yi dq dq) (fun Za=>?_) fun Za=>?_
 .exact ar<|Zp<|r2 [0,0,0,0] [.b true] ⟨rfl,rfl⟩<|lb (Z6i<|by rw [hgi];exact Za).symm
 refine ak<|Yh 4 [0]<|iw (Z9x am)<|Z0<|ab 0<|Y2 (fun fz gz m F h=>∃(k:Nat),(k<=am.length)/\(∀a∈am.take k,¬(a.fst<=i/\i<a.fst+a.fds.length))/\F=sF [0,1,26,27] fz [(28,.i k)]/\h=gz/\m=am.length-k) _ _ _ ⟨0,ob,ob,U,U,U⟩ (ZH 4<|Y7 fl) ?_;rintro m F h ⟨k,Ye,Zk,rfl,rfl,rfl⟩;refine ZB<|aq (XK ((k:Int)<(am.length:Int)) (fun Zf=>?_) fun Zf=>?_)
 .refine ak<|aq<|ab 1<|ar ?_;obtain ⟨x2,Zr⟩:=Zs am k om;have ham:=Y0 Zr;have hrg:=har.rng _ ham;refine Zo (Zl none (k:Int) 4<|Z9w Zr)<|Z1 1 (iA [.i 0,.i 0,nl,.b false] fun b1=>ZD 0 b1 [.i x2.mat,.i x2.fst,Z5 x2.fds,.b x2.chg]<|ie<|ar<|Xu [0,1,6,26,27,28] [(45,.b ((decide (i>=x2.fst))&&(decide (i<(x2.fst+(x2.fds.length:Int))))))] (fun gz=>gz) ?_ ?_)
  .refine ZL 5 [0] (ib (b:=(decide (i>=x2.fst))) 36 (fun ZE=>?_) fun ZE=>?_)
   .have YK:i>=x2.fst:=(dq).1 ZE;exact ZL 5 [0,0]<|iw (Yg x2.fds)<|ia ((x2.fst+(x2.fds.length:Int))) ((x2.fst)+((x2.fds.length:Int)))<|Z0<|ZH 5<|Zu (decide (i<(x2.fst+(x2.fds.length:Int)))) ZE fl
   have YW:¬(i>=x2.fst):=Y8 dq ZE;exact Z0<|ZH 5<|Zu false ZE fl
  refine ac ((decide (i>=x2.fst))&&(decide (i<(x2.fst+(x2.fds.length:Int))))) (p:=(i>=x2.fst)/\(i<(x2.fst+(x2.fds.length:Int)))) (YN dq dq) (fun ZA=>?_) fun ZA=>?_
  .refine Zt 3 [0]<|Zx [1,1,1,1] (ih x2.mat ob)<|Z0 ?_;have hpa:=har.par _ ham i ZA.1 ZA.2;exact ZC<|r2 [0,0,0,0] [.b (Ws L ln x2.mat)] ⟨rfl,rfl⟩<|lb (Z6h hi hd (by rw [hgi];exact Za) hpa hrg.1).symm
  refine ak<|az<|ZI k<|Z0 ?_;have hdr:=Yc Zr;exact ZK ⟨k+1,ob,(by rw [WO Zr];exact fun a ha=>(Xh.1 ha).elim (Zk a) fun ha=>by rw [XI.1 ha];exact fun q=>ZA ⟨q.1,q.2⟩),rfl,rfl,rfl⟩<|wk [1,1,1,1]<|ZM k fl
 refine ax 0<|ZB ?_;have hpn:gI L.3 i<0:=Int.not_le.1 fun h=>by
  obtain ⟨a,ha,q⟩:=har.non i hi.1 hi.2 h;exact Zk a (by rw [Vc om];exact ha) q
 exact ZC<|r2 [0,0,0,0] [.b false] ⟨rfl,rfl⟩<|lb (Z6g (by rw [hgi];exact Za) hpn).symm
def IX (b:Nat) (ga gb gc:Hd) (n:Zm) (L:VB) (ln:LI) (am:List Yn) (i:Int) (hlk:WT L) (har:Vg n.1 L am) (hln:ln.length<=4294967296) (hal:am.length<=1000000000) (hlb:L.1.length<=1000000000)
  (hd:∀j:Int,0<=j->j<L.1.length->gI L.3 j<j) (hi:0<=i/\i<L.1.length):Zj 217 [.p b 0,.i i] [.obj b [ZQ n.1,YV n,Z5 ln,Xc am,.h ga,.h gb,.h gc],rV ga L.1,rV gb L.2,rV gc L.6] (fun r h=>r=.b (Ws L ln i)/\h=[.obj b [ZQ n.1,YV n,Z5 ln,Xc am,.h ga,.h gb,.h gc],rV ga L.1,rV gb L.2,rV gc L.6]):=by
 have key:∀m:Nat,∀j:Int,0<=j->j.toNat<=m->j<L.1.length->Zj 217 [.p b 0,.i j] [.obj b [ZQ n.1,YV n,Z5 ln,Xc am,.h ga,.h gb,.h gc],rV ga L.1,rV gb L.2,rV gc L.6] (fun r h=>r=.b (Ws L ln j)/\h=[.obj b [ZQ n.1,YV n,Z5 ln,Xc am,.h ga,.h gb,.h gc],rV ga L.1,rV gb L.2,rV gc L.6]):=by
  intro m
  induction m with
  | zero=>intro j h1 h2 h3;exact P3 b ga gb gc n L ln am j hlk har hln hal hlb hd ⟨h1,h3⟩ fun i2 q=>by omega
  | succ m ih=>intro j h1 h2 h3;exact P3 b ga gb gc n L ln am j hlk har hln hal hlb hd ⟨h1,h3⟩ fun i2 q=>ih i2 q.1 om om
 exact key i.toNat i hi.1 (X8 _) hi.2
end Go.Abs
section
namespace Go.Proofs
open Go.RowKit Go.Shelf
attribute [local go_sem] Oper.semAt_some
structure ArmV where
 m:Int
 f:Int
 sa:Option Addr
 sl:Nat
 sc:Nat
 c:Bool
 deriving Inhabited
def ArmV.enc (a:ArmV):Value:=.agg #[.int .i64 a.m,.int .i64 a.f,.slice a.sa a.sl a.sc,.bool a.c]
def VI (zs:List ArmV) (i:Nat):ArmV:=zs[i]?.getD default
def dn (zs:List ArmV) (k:Nat):List (Nat × ArmV):=(List.range k).map fun j=>(zs.length-1-j,VI zs (zs.length-1-j))
def Lo (zs:List ArmV) (k:Nat):dn zs (k+1)=dn zs k++[(zs.length-1-k,VI zs (zs.length-1-k))]:=by simp [dn,List.range_succ]
def Z9s (zs:List ArmV) (k:Nat):(dn zs k).length=k:=by simp [dn]
def CO (n₀:Nat) (W:World) (v:Value) (zs:List ArmV):Prop:=
 (∃a c,v=.slice a 0 c∧zs=[])∨∃b off cap,v=.slice (some ⟨b,off,none⟩) zs.length cap∧b<n₀∧∀j,j<zs.length →
  W.cell? ⟨b,off+j*4,none⟩=some (.int .i64 (VI zs j).m)∧W.cell? ⟨b,off+j*4+1,none⟩=some (.int .i64 (VI zs j).f) ∧
  W.cell? ⟨b,off+j*4+2,none⟩=some (.slice (VI zs j).sa (VI zs j).sl (VI zs j).sc)∧W.cell? ⟨b,off+j*4+3,none⟩=some (.bool (VI zs j).c)
def CO.below {n₀:Nat} {A B:World} {v:Value} {zs:List ArmV} (h:Below n₀ A B) (H:CO n₀ A v zs):CO n₀ B v zs:=by
 rcases H with H|⟨b,off,cap,e,hb,hc⟩
 .exact .inl H
 .refine .inr ⟨b,off,cap,e,hb,fun j hj=>?_⟩;obtain ⟨h0,h1,h2,h3⟩:=hc j hj;exact ⟨(h.cell (p:=⟨b,_,none⟩) hb).trans h0,(h.cell (p:=⟨b,_,none⟩) hb).trans h1,(h.cell (p:=⟨b,_,none⟩) hb).trans h2,(h.cell (p:=⟨b,_,none⟩) hb).trans h3⟩
set_option maxRecDepth 100000 in
set_option maxHeartbeats 2000000 in
def Z78 (F:Fence) (n:Nat) (h8:F.fn 238) (hro:F.round=none) (hn:1≤n) (l Bs n₀ b off cap:Nat) (zs:List ArmV) (hreach:zs.length≤1000000000) (hb:b<n₀) (J Jx:List (Nat × ArmV)→World→Prop)
  (hY:∀pre x W,J pre W→pre.length<zs.length→YieldAt F (n-1) Tryz.prog l #[.int .i64 ((x.1:Nat):Int),x.2.enc] W fun e W'=>
   (e=.returned (.bool true)∧J (pre++[x]) W'∧Below n₀ W W')∨(e=.returned (.bool false)∧Jx (pre++[x]) W'))
  (W:World) (hBn:Bs<n₀) (hBs:W.cell? ⟨Bs,0,none⟩=some (.slice (some ⟨b,off,none⟩) zs.length cap)) (hc:∀j,j<zs.length →
  W.cell? ⟨b,off+j*4,none⟩=some (.int .i64 (VI zs j).m)∧W.cell? ⟨b,off+j*4+1,none⟩=some (.int .i64 (VI zs j).f) ∧
  W.cell? ⟨b,off+j*4+2,none⟩=some (.slice (VI zs j).sa (VI zs j).sl (VI zs j).sc)∧W.cell? ⟨b,off+j*4+3,none⟩=some (.bool (VI zs j).c)) (h0:J [] W) :
  CallsIn F n Tryz.prog 238 #[.func (.yield l) #[] #[],.pointer<|some ⟨Bs,0,none⟩] W fun e W'=>(∃v,e=.returned v) ∧
   ((∃ys,ys=dn zs zs.length∧J ys W')∨(∃pre,(∃k,k≤zs.length∧pre=dn zs k)∧Jx pre W')):=by
 refine callsIn_of_wp Tryz.func238 rfl h8 ?_ hro;simp only [Tryz.ntmps238,List.size_toArray,List.length_cons,List.length_nil,Nat.reduceAdd,Nat.reduceSub,Array.replicate_succ,Array.replicate_zero,List.push_toArray,List.append_toArray,List.nil_append,List.cons_append]
 gi_wp2
 gi_loopw [3] (fun i wr=>∃k:Nat,k≤zs.length∧i=.int .i64 ((zs.length:Int)-1-k)∧J (dn zs k) wr∧Below n₀ W wr)
  (fun i _=>(intOf i+1).toNat)
 case atStart=>exact ⟨0,Nat.zero_le _,by simp,h0,Below.refl _ _⟩
 case round=>
  obtain ⟨k,hk,rfl,hJs,hnx⟩:=hrel;have hBx:wr.cell? ⟨Bs,0,none⟩=some (.slice (some ⟨b,off,none⟩) zs.length cap):=(hnx.cell (p:=⟨Bs,0,none⟩) hBn).trans hBs;by_cases hlt:k<zs.length
  .obtain ⟨q,hq⟩:∃q:Nat,(zs.length:Int)-1-k=(q:Int):=⟨zs.length-1-k,by omega⟩;have hqk:zs.length-1-k=q:=by omega
   obtain ⟨g0,g1,g2,g3⟩:=hc q (by omega);have c0:=(hnx.cell (p:=⟨b,off+q*4,none⟩) hb).trans g0;have c1:=(hnx.cell (p:=⟨b,off+q*4+1,none⟩) hb).trans g1;have c2:=(hnx.cell (p:=⟨b,off+q*4+2,none⟩) hb).trans g2;have c3:=(hnx.cell (p:=⟨b,off+q*4+3,none⟩) hb).trans g3;obtain ⟨fn,tmps,assign,body,hy,hR⟩:=hY _ (q,VI zs q) wr hJs (by rw [Z9s];exact hlt);dsimp only [ArmV.enc] at hy;rw [hq];have hql:(q:Int)<zs.length:=by omega
   gi_wp2
   refine hR.mono ?_;rintro e W3 (⟨rfl,hJ3,hk3⟩|⟨rfl,hJx3⟩)
   .gi_wp2
    go_roundw
    case rel=>exact ⟨k+1,by omega,by congr 1;omega,by rw [Lo,hqk];exact hJ3,hnx.trans hk3⟩
    case measure=>simp [intOf]
   .gi_wp2
    refine bodyPost_ret (results_none rfl _ _ _) rfl ?_;exact ⟨⟨_,rfl⟩,.inr ⟨_,⟨k+1,by omega,by rw [Lo,hqk]⟩,hJx3⟩⟩
  .obtain rfl:k=zs.length:=by omega
   have hneg:¬(0≤(zs.length:Int)-1-zs.length):=by omega
   gi_wp2
   go_end0
   first|exact ⟨⟨_,rfl⟩,.inl ⟨_,rfl,hJs⟩⟩|exact ⟨⟨_,rfl⟩,.inl hJs⟩
set_option maxRecDepth 100000 in
set_option maxHeartbeats 1000000 in
def Z79 (F:Fence) (n:Nat) (h8:F.fn 238) (hro:F.round=none) (l Bs:Nat) (a:Option Addr) (c:Nat) (J:List (Nat × ArmV)→World→Prop) (W:World) (hBs:W.cell? ⟨Bs,0,none⟩=some (.slice a 0 c)) (h0:J [] W) :
  CallsIn F n Tryz.prog 238 #[.func (.yield l) #[] #[],.pointer<|some ⟨Bs,0,none⟩] W fun e W'=>(∃v,e=.returned v)∧J [] W':=by
 refine callsIn_of_wp Tryz.func238 rfl h8 ?_ hro;simp only [Tryz.ntmps238,List.size_toArray,List.length_cons,List.length_nil,Nat.reduceAdd,Nat.reduceSub,Array.replicate_succ,Array.replicate_zero,List.push_toArray,List.append_toArray,List.nil_append,List.cons_append]
 gi_wp2
 gi_loopw [3] (fun i wr=>i=.int .i64 (-1)∧J [] wr) (fun _ _=>0)
 case atStart=>exact ⟨rfl,h0⟩
 case round=>
  obtain ⟨rfl,hJs⟩:=hrel
  gi_wp2
  go_end0
  exact ⟨⟨_,rfl⟩,hJs⟩
set_option maxHeartbeats 1000000 in
def Z7a (F:Fence) (n:Nat) (h6:F.fn 235) (hro:F.round=none) (v:Value) (hv1:∃a l c,v=.slice a l c) (w:World) :
  CallsIn F n Tryz.prog 235 #[v] w fun e w'=>e=.returned (.func (.func 238) #[] #[.pointer (some ⟨w.heap.size,0,none⟩)])∧w'=w.alloc (.cells #[v] 89):=by
 obtain ⟨a,ll,c,rfl⟩:=hv1;refine callsIn_of_wp Tryz.func235 rfl h6 ?_ hro;simp only [Tryz.ntmps235,List.size_toArray,List.length_cons,List.length_nil,Nat.reduceAdd,Nat.reduceSub,Array.replicate_succ,Array.replicate_zero,List.push_toArray,List.append_toArray,List.nil_append,List.cons_append]
 gi_wp2
 go_ret
 exact ⟨rfl,rfl⟩
def Z7b (F:Fence) (n:Nat) (h8:F.fn 238) (hro:F.round=none) (hn:1≤n) (Bs n₀:Nat) (v:Value) (zs:List ArmV) (hreach:zs.length≤1000000000) (w:World) (hBs:Bs<n₀) (hn₀:n₀≤w.heap.size)
  (hc:w.cell? ⟨Bs,0,none⟩=some v) (hI:CO n₀ w v zs) :
  SeqStopsK F n Tryz.prog 238 #[.pointer (some ⟨Bs,0,none⟩)] (fun x:Nat × ArmV=>#[Value.int .i64 ((x.1:Nat):Int),x.2.enc]) (Below n₀) (fun ys=>ys=dn zs zs.length) (fun pre=>∃k,k≤zs.length∧pre=dn zs k) zs.length w:=by
 intro l J Jx W hW _ _ hY h0;have hc':=(hW.cell (p:=⟨Bs,0,none⟩) (Nat.lt_of_lt_of_le hBs hn₀)).trans hc;rcases hI.below (hW.mono hn₀) with ⟨a,c,rfl,rfl⟩|⟨b,off,cap,rfl,hb,hcs⟩
 .exact (Z79 F n h8 hro l Bs a c J W hc' h0).mono fun e W' ⟨he,hj⟩=>⟨he,.inl ⟨_,rfl,hj⟩⟩
 .exact Z78 F n h8 hro hn l Bs n₀ b off cap zs hreach hb J Jx hY W hBs hc' hcs h0
def UH (W:World) (B:Nat) (a:ArmV):Prop:=W.heap[B]? = some (.cells #[.int .i64 a.m,.int .i64 a.f,.slice a.sa a.sl a.sc,.bool a.c] 93 (0,0))
def L0 {β:Type} (B:Nat) (f:β→ArmV):Own (fun s W=>UH W B<|f s):=fun s X Y row hs hg hrow=>
 (grownBy_keeps_cells hg hrow hs rfl).trans hs
def UH.lt {W:World} {B:Nat} {a:ArmV} (h:UH W B a):B<W.heap.size:=(Array.getElem?_eq_some_iff.1 h).1
def UH.alloc {W:World} {B:Nat} {a:ArmV} (h:UH W B a) (o:Obj):UH (W.alloc o) B a:=(Below.heap_alloc W o B h.lt).trans h
def UH.other {W:World} {B B':Nat} {a:ArmV} (h:UH W B a) (hne:B≠B') (j:Nat) (u:Value):UH (W.setCell ⟨B',j,none⟩ u) B a:=(heap_setCell_other W ⟨B',j,none⟩ B u hne).trans h
def UH.cells {W:World} {B:Nat} {a:ArmV} (h:UH W B a):W.cell? ⟨B,0,none⟩=some (.int .i64 a.m)∧W.cell? ⟨B,1,none⟩=some (.int .i64 a.f)∧W.cell? ⟨B,2,none⟩=some (.slice a.sa a.sl a.sc)∧W.cell? ⟨B,3,none⟩=some (.bool a.c):=by
 have h':W.heap[B]? = _:=h;refine ⟨?_,?_,?_,?_⟩<;>simp [World.cell?,h']
def UH.frozen {W:World} {B:Nat} {a:ArmV} (h:UH W B a) (j:Nat):W.frozen? ⟨B,j,none⟩=false:=by simp [World.frozen?,show W.heap[B]? = _ from h]
def w4 (W:World) (B:Nat) (a:ArmV):World:=(((W.setCell ⟨B,0,none⟩<|.int .i64 a.m).setCell ⟨B,1,none⟩<|.int .i64 a.f).setCell ⟨B,2,none⟩<|.slice a.sa a.sl a.sc).setCell ⟨B,3,none⟩ (.bool a.c)
def UH.put {W:World} {B:Nat} {a:ArmV} (b:ArmV) (h:UH W B a):UH (w4 W B b) B b:=
 heap_setCell_same _ B 3 _ 93 _ (heap_setCell_same _ B 2 _ 93 _<|heap_setCell_same _ B 1 _ 93 _<|heap_setCell_same _ B 0 _ 93 _ h)
def Z5n (W:World) (B:Nat) (a:ArmV) (k:Nat) (h:k≠B):(w4 W B a).heap[k]? = W.heap[k]?:=
 (heap_setCell_other _ ⟨B,3,none⟩ k _ h).trans ((heap_setCell_other _ ⟨B,2,none⟩ k _ h).trans<|(heap_setCell_other _ ⟨B,1,none⟩ k _ h).trans<|heap_setCell_other _ ⟨B,0,none⟩ k _ h)
def Z5m (W:World) (B:Nat) (a:ArmV):KeepsOthers W (w4 W B a):=(((KeepsOthers.setCell _ _ _).trans<|KeepsOthers.setCell _ _ _).trans<|KeepsOthers.setCell _ _ _).trans (KeepsOthers.setCell _ _ _)
def Z5l {n₀:Nat} {w W:World} {B:Nat} (a:ArmV) (h:Below n₀ w W) (hB:n₀≤B):Below n₀ w (w4 W B a):=
 (((h.setCell (p:=⟨B,0,none⟩) hB _).setCell (p:=⟨B,1,none⟩) hB _).setCell (p:=⟨B,2,none⟩) hB _).setCell (p:=⟨B,3,none⟩) hB _
set_option maxRecDepth 100000 in
set_option maxHeartbeats 4000000 in
def Zhp (F:Fence) (n:Nat) (h61:F.fn 218) (h122:F.fn 235) (h165:F.fn 238) (hro:F.round=none) (hn:6≤n) (v:Int) (av:Value) (zs:List ArmV) (hreach:zs.length≤1000000000) (w:World) (hav:∃a l c,av=.slice a l c) (hA:CO w.heap.size w av zs) :
  CallsIn F n Tryz.prog 218 #[av,.int .i64 v] w fun e W'=>((∃k,k<zs.length∧(VI zs (zs.length-1-k)).m=v∧(∀j,j<k→(VI zs (zs.length-1-j)).m≠v)∧e=.returned (.tuple #[(VI zs (zs.length-1-k)).enc,.bool true])) ∨
   ((∀j,j<zs.length→(VI zs (zs.length-1-j)).m≠v)∧e=.returned (.tuple #[.agg #[.int .i64 0,.int .i64 0,.slice none 0 0,.bool false],.bool false])))∧Below w.heap.size w W':=by
 have h1:1≤n:=by omega
 refine callsIn_of_wp_marks Tryz.func218 rfl h61 ?_ hro;simp only [Tryz.ntmps218,List.size_toArray,List.length_cons,List.length_nil,Nat.reduceAdd,Nat.reduceSub,Array.replicate_succ,Array.replicate_zero,List.push_toArray,List.append_toArray,List.nil_append,List.cons_append];obtain ⟨aa,al,ac,rfl⟩:=hav
 gi_wp2_with (gi_at_call 235;refine (Z7a F (n-1) h122 hro _ ⟨_,_,_,rfl⟩ _).mono ?_;rintro e w' ⟨rfl,rfl⟩)
 obtain ⟨W0,hW0⟩:∃W0,(((w.alloc (.cells #[.int .i64 v] 3)).alloc (.cells #[.int .i64 0,.int .i64 0,.slice none 0 0,.bool false] 93)).alloc (.cells #[.bool false] 4)).alloc (.cells #[.slice aa al ac] 89)=W0:=⟨_,rfl⟩;have hB0:Below w.heap.size w W0:=by rw [←hW0];exact ((((Below.refl _ w).alloc (Nat.le_refl _) _).alloc (by simp) _).alloc (by simp;omega) _).alloc (by simp;omega) _
 have hsz:W0.heap.size=w.heap.size+4:=by rw [←hW0];simp
 have bV:Boxed W0 w.heap.size 3 (.int .i64 v):=by rw [←hW0];exact (((Boxed.new w 3<|.int .i64 v).alloc _).alloc _).alloc _
 have bR:UH W0 (w.heap.size+1) default:=by
  rw [←hW0];have h:UH ((w.alloc<|.cells #[.int .i64 v] 3).alloc<|.cells #[.int .i64 0,.int .i64 0,.slice none 0 0,.bool false] 93) (w.alloc<|.cells #[.int .i64 v] 3).heap.size default:=World.alloc_heap_new _ _;rw [World.size_alloc] at h;exact (h.alloc _).alloc _
 have bO:Boxed W0 (w.heap.size+1+1) 4 (.bool false):=by
  rw [←hW0];have h:=Boxed.new ((w.alloc<|.cells #[.int .i64 v] 3).alloc<|.cells #[.int .i64 0,.int .i64 0,.slice none 0 0,.bool false] 93) 4 (.bool false);simp only [World.size_alloc] at h;exact h.alloc _
 have bA:Boxed W0 (w.heap.size+1+1+1) 89 (.slice aa al ac):=by
  rw [←hW0];have h:=Boxed.new (((w.alloc<|.cells #[.int .i64 v] 3).alloc<|.cells #[.int .i64 0,.int .i64 0,.slice none 0 0,.bool false] 93).alloc<|.cells #[.bool false] 4) 89 (.slice aa al ac);simp only [World.size_alloc] at h;exact h
 have hA0:CO (w.heap.size+4) W0 (.slice aa al ac) zs:=by
  rcases hA.below hB0 with h|⟨b,off,cap,e,hb,hc⟩
  .exact .inl h
  .exact .inr ⟨b,off,cap,e,by omega,hc⟩
 rw [hW0];clear hW0;refine wpIn_rangeFunc_ownH hro h1 (gf:=238) (lb:=#[.pointer (some ⟨w.heap.size+1+1+1,0,none⟩)]) rfl h165 (enters_of Tryz.func238 (by kernel_rfl) rfl)
  (Z7b F (n-1) h165 hro (by omega) (w.heap.size+1+1+1) (w.heap.size+4) _ zs hreach W0 (by omega) (by omega) bA.cell hA0) belowK_t (belowK_b<|by omega) (Below.refl _ _) (fun _=>rfl)
  (fun pre W=>(((((∀x∈pre,x.2.m≠v)∧Boxed W w.heap.size 3 (.int .i64 v))∧UH W (w.heap.size+1) default)∧Boxed W (w.heap.size+1+1) 4 (.bool false))∧Boxed W (w.heap.size+1+1+1) 89 (.slice aa al ac))∧Below w.heap.size w W)
  (fun c pre W=>((∃pre0 x,(c=.ret∧pre=pre0++[x]∧x.2.m=v∧∀y∈pre0,y.2.m≠v)∧UH W (w.heap.size+1) x.2)∧Boxed W (w.heap.size+1+1) 4 (.bool true))∧Below w.heap.size w W)
  (OwnFrom.and (OwnFrom.and (OwnFrom.and (OwnFrom.and (OwnFrom.and (ownFrom_pure _ _)<|Own.from (boxed_own _ _ _) _)<|Own.from (L0 _ _) _)<|Own.from (boxed_own _ _ _) _)<|Own.from (boxed_own _ _ _) _)<|ownFrom_below (Nat.le_refl _)<|by omega)
  (fun c=>OwnFrom.and (OwnFrom.and (fun s X Y row hs hg hr=>by
   obtain ⟨pre0,x,h,hb⟩:=hs
   exact ⟨pre0,x,h,L0 (w.heap.size+1) (fun (_:Unit)=>x.2) () X Y row hb hg fun r e=>(hr r e).2⟩) (Own.from (boxed_own _ _ _) _)) (ownFrom_below (Nat.le_refl _)<|by omega))
  ⟨⟨⟨⟨⟨by simp,bV⟩,bR⟩,bO⟩,bA⟩,hB0⟩
  (fun x a' W=>∃Bx,w.heap.size+1+1<Bx∧UH W Bx x.2∧a'={ tmps:=#[.slice aa al ac,.int .i64 v,undef,.pointer<|some ⟨w.heap.size,0,none⟩,.pointer<|some ⟨w.heap.size+1,0,none⟩,.pointer<|some ⟨w.heap.size+1+1,0,none⟩,undef,.pointer<|some ⟨Bx,0,none⟩,.slice aa al ac,.func (.func 238) #[] #[.pointer (some ⟨w.heap.size+1+1+1,0,none⟩)],.int .i64 ((x.1:Nat):Int),x.2.enc,undef,undef,undef,undef,undef,undef],defers:=[] })
  (fun x a' _ X Y row hs hg hr=>by obtain ⟨Bx,e1,e2,e3⟩:=hs;exact ⟨Bx,e1,L0 Bx (fun (_:Unit)=>x.2) () X Y row e2 hg fun r e=>(hr r e).2,e3⟩)
  ?assign ?body ?done ?stop
 case assign=>
  rintro l pre ⟨xi,x⟩ W K ⟨⟨⟨⟨⟨hp,bV1⟩,bR1⟩,bO1⟩,bA1⟩,hB1⟩ hK;obtain ⟨xm,xf,xsa,xsl,xsc,xc⟩:=x;dsimp only [ArmV.enc] at hK ⊢
  gi_wp2
  have hbA:=bA1.lt;exact hK _ _ ((KeepsOthers.alloc _ _).from _) ((Below.refl _ W).alloc (by omega) _) ⟨⟨⟨⟨⟨hp,bV1.alloc _⟩,bR1.alloc _⟩,bO1.alloc _⟩,bA1.alloc _⟩,hB1.alloc hB1.size _⟩ ⟨W.heap.size,by omega,World.alloc_heap_new W _,rfl⟩
 case body=>
  rintro l pre ⟨xi,x⟩ a' W hl ⟨r,hr⟩ ⟨⟨⟨⟨⟨hp,bV1⟩,bR1⟩,bO1⟩,bA1⟩,hB1⟩ ⟨Bx,hBx,bX,rfl⟩ hlt;obtain ⟨xm,xf,xsa,xsl,xsc,xc⟩:=x;have cV:=bV1.cell;obtain ⟨x0,x1,x2,x3⟩:=bX.cells;dsimp only at x0 x1 x2 x3;obtain ⟨r0,r1,r2,r3⟩:=bR1.cells;have f0:=bR1.frozen 0;have f1:=bR1.frozen 1;have f2:=bR1.frozen 2;have f3:=bR1.frozen 3;have cO:=bO1.cell;have fO:=bO1.frozen
  gi_wp2
  .rename_i hxy;have hxv:xm=v:=by first|exact hxy|exact eq_of_beq hxy|(simp at hxy;exact hxy)
   have b4:=bR1.put ⟨xm,xf,xsa,xsl,xsc,xc⟩;have b5:Boxed (w4 W (w.heap.size+1) ⟨xm,xf,xsa,xsl,xsc,xc⟩) (w.heap.size+1+1) 4 (.bool false):=(Z5n W _ _ _<|by omega).trans bO1;have b6:UH ((w4 W (w.heap.size+1) ⟨xm,xf,xsa,xsl,xsc,xc⟩).setCell ⟨w.heap.size+1+1,0,none⟩<|.bool true) (w.heap.size+1) ⟨xm,xf,xsa,xsl,xsc,xc⟩:=b4.other (by omega) 0 _;exact ⟨((Z5m W (w.heap.size+1) ⟨xm,xf,xsa,xsl,xsc,xc⟩).trans<|KeepsOthers.setCell _ _ _).from _,⟨⟨pre,xi,⟨xm,xf,xsa,xsl,xsc,xc⟩,⟨rfl,rfl,hxv,fun a b h=>hp (a,b) h⟩,b6⟩,b5.set _⟩,(Z5l ⟨xm,xf,xsa,xsl,xsc,xc⟩ hB1<|by omega).setCell (p:=⟨w.heap.size+1+1,0,none⟩) (by simp;omega) _⟩
  .rename_i hxy;exact ⟨KeepsFrom.refl _ _,Below.refl _ _,⟨⟨⟨⟨fun a b h=>(List.mem_append.1 h).elim (hp (a,b)) fun e=>by simp at e;obtain ⟨rfl,rfl⟩:=e;simpa using hxy,bV1⟩,bR1⟩,bO1⟩,bA1⟩,hB1⟩
 case done=>
  rintro D ys W hD rfl ⟨⟨⟨⟨⟨hp,bV1⟩,bR1⟩,bO1⟩,bA1⟩,hB1⟩ hK;obtain ⟨r0,r1,r2,r3⟩:=bR1.cells;have f0:=bR1.frozen 0;have f1:=bR1.frozen 1;have f2:=bR1.frozen 2;have f3:=bR1.frozen 3;have cO:=bO1.cell;have fO:=bO1.frozen
  gi_wp2
  have hK':=((Z5m W (w.heap.size+1) (⟨0,0,none,0,0,false⟩:ArmV)).trans<|KeepsOthers.setCell _ ⟨w.heap.size+1+1,0,none⟩<|.bool false).same D _ hK rfl;refine ⟨by simp,.inl ⟨_,_,rfl,run_takeDeferred hK',?_⟩⟩;have b4:=bR1.put (⟨0,0,none,0,0,false⟩:ArmV);have b5:Boxed (w4 W (w.heap.size+1) (⟨0,0,none,0,0,false⟩:ArmV)) (w.heap.size+1+1) 4 (.bool false):=(Z5n W _ _ _<|by omega).trans bO1;have b6:UH ((w4 W (w.heap.size+1) (⟨0,0,none,0,0,false⟩:ArmV)).setCell ⟨w.heap.size+1+1,0,none⟩<|.bool false) (w.heap.size+1) (⟨0,0,none,0,0,false⟩:ArmV):=b4.other (by omega) 0 _;have b7:=b5.set (.bool false);have n4:w.heap.size+1≠D:=by omega
  have n5:w.heap.size+1+1≠D:=by omega
  have b8:UH (((w4 W (w.heap.size+1) (⟨0,0,none,0,0,false⟩:ArmV)).setCell ⟨w.heap.size+1+1,0,none⟩<|.bool false).putObj D<|.deferred none) (w.heap.size+1) (⟨0,0,none,0,0,false⟩:ArmV):=(World.putObj_heap_other n4).trans b6;have b9:Boxed (((w4 W (w.heap.size+1) (⟨0,0,none,0,0,false⟩:ArmV)).setCell ⟨w.heap.size+1+1,0,none⟩<|.bool false).putObj D<|.deferred none) (w.heap.size+1+1) 4 (.bool false):=(World.putObj_heap_other n5).trans b7;obtain ⟨y0,y1,y2,y3⟩:=b8.cells;have y4:=b9.cell;dsimp only [w4] at y0 y1 y2 y3 y4
  refine ⟨.tuple #[.agg #[.int .i64 0,.int .i64 0,.slice none 0 0,.bool false],.bool false],?_,⟨.inr ⟨fun j hj=>hp (zs.length-1-j,VI zs (zs.length-1-j))<|List.mem_map.2 ⟨j,List.mem_range.2 hj,rfl⟩,rfl⟩,
   ((Z5l (⟨0,0,none,0,0,false⟩:ArmV) hB1<|by omega).setCell (p:=⟨w.heap.size+1+1,0,none⟩) (by simp;omega) _).trans (belowK_b (w:=w) (Nat.le_refl _) _ D _ _ (by omega) hK' rfl rfl)⟩⟩
  simp [results,Tryz.f218,go_sem,y0,y1,y2,y3,y4]
 case stop=>
  rintro D c pre W hD hpre ⟨⟨⟨pre0,x,⟨rfl,he,hx,hy⟩,bR1⟩,bO1⟩,hB1⟩ hK
  gi_wp2
  refine ⟨by simp,.inl ⟨_,_,rfl,run_takeDeferred hK,?_⟩⟩;have n4:w.heap.size+1≠D:=by omega
  have n5:w.heap.size+1+1≠D:=by omega
  have b8:UH (W.putObj D<|.deferred none) (w.heap.size+1) x.2:=(World.putObj_heap_other n4).trans bR1;have b9:Boxed (W.putObj D<|.deferred none) (w.heap.size+1+1) 4 (.bool true):=(World.putObj_heap_other n5).trans bO1;obtain ⟨y0,y1,y2,y3⟩:=b8.cells;have y4:=b9.cell;obtain ⟨k,hk,rfl⟩:=hpre;obtain ⟨k',rfl⟩:∃k',k=k'+1:=by
   cases k with
   | zero=>simp [dn] at he
   | succ k'=>exact ⟨k',rfl⟩
  rw [Lo] at he;obtain ⟨e1,e2⟩:=List.append_inj' he rfl;have e3:x=(zs.length-1-k',VI zs (zs.length-1-k')):=(List.cons.inj e2).1.symm;subst e3
  refine ⟨.tuple #[(VI zs (zs.length-1-k')).enc,.bool true],?_,⟨.inl ⟨k',by omega,hx,fun j hj=>hy (zs.length-1-j,VI zs (zs.length-1-j))<|e1▸List.mem_map.2 ⟨j,List.mem_range.2 hj,rfl⟩,rfl⟩,
   hB1.trans (belowK_b (w:=w) (Nat.le_refl _) W D _ _ (by omega) hK rfl rfl)⟩⟩
  simp [results,Tryz.f218,go_sem,y0,y1,y2,y3,y4,ArmV.enc]
end Go.Proofs
end
namespace Go.Abs
open Go.Proofs
def Z1b {v:Int}:∀{am:List Yn} {i:Nat} {a:Yn},am[i]? = some a->a.mat=v->(∀j b,i<j->am[j]? = some b->b.mat≠v)->Ta am v=some a
 | [],_,_,h,_,_=>by simp at h
 | x::r,0,a,h,hm,hl=>by
  simp at h;subst h;have:Ta r v=none:=FE fun b hb=>by
   obtain ⟨j,hj⟩:=IB hb;exact hl (j+1) b om (by simpa using hj)
  rw [Ta,this];simp [hm]
 | x::r,i+1,a,h,hm,hl=>by
  have:Ta r v=some a:=Z1b (by simpa using h) hm fun j b hj hb=>hl (j+1) b om<|by simpa using hb
  rw [Ta,this]
def Ot (w:World) (G:Yl) (b o:Nat) (a:Yn) (z:ArmV):Prop:=
 w.cell? ⟨b,o,none⟩=some (.int .i64 z.m)/\w.cell? ⟨b,o+1,none⟩=some (.int .i64 z.f)/\w.cell? ⟨b,o+2,none⟩=some (.slice z.sa z.sl z.sc)/\w.cell? ⟨b,o+3,none⟩=some (.bool z.c) /\
  z.m=a.mat/\z.f=a.fst/\z.c=a.chg/\RV w G (Z5 a.fds) (.slice z.sa z.sl z.sc)/\G b o
def Zky {w:World} {G:Yl} {es:List AV} {hv:Option Value} {u:Value} (h:RV w G (.sl es hv) u):∃a l c,u=.slice a l c:=by
 cases h with
 | nil _=>exact ⟨_,_,_,rfl⟩
 | sl _ _ _=>exact ⟨_,_,_,rfl⟩
def Z71 {w:World} {G:Yl} {b o:Nat} {a:Yn} (h:WP w G b o (AR a)):∃z,Ot w G b o a z:=by
 cases h with
 | cons c0 g0 r0 t=>cases t with
  | cons c1 _ r1 t=>cases t with
   | cons c2 _ r2 t=>cases t with
    | cons c3 _ r3 t=>
     have e0:=r0.val_inv;subst e0
     have e1:=r1.val_inv;subst e1
     have e3:=r3.val_inv;subst e3
     have hs:∃sa sl sc,∃u,u=Value.slice sa sl sc/\w.cell? ⟨b,o+2,none⟩=some u/\RV w G (Z5 a.fds) u:=by
      obtain ⟨sa,sl,sc,e⟩:=Zky r2;exact ⟨sa,sl,sc,_,e,c2,r2⟩
     obtain ⟨sa,sl,sc,u,rfl,c2',r2'⟩:=hs;exact ⟨⟨a.mat,a.fst,sa,sl,sc,a.chg⟩,c0,c1,c2',c3,U,U,U,r2',g0⟩
def OQ {w:World} {G:Yl} {b k:Nat}:∀{o:Nat} {am:List Yn},Vp w G k b o (X2 am)->∃zs:List ArmV,zs.length=am.length/\∀(j:Nat) a,am[j]? = some a->Ot w G b (o+j*4) a (VI zs j)
 | _,[],_=>⟨[],rfl,fun j a h=>by simp at h⟩
 | o,x::r,.cons hl h t=>by
  have hk:4=k:=hl;subst hk;obtain ⟨z,hz⟩:=Z71 h;obtain ⟨zs,hlen,hzs⟩:=OQ t;refine ⟨z::zs,by simp [hlen],fun j a hj=>?_⟩
  cases j with
  | zero=>simp at hj;subst hj;simpa [VI] using hz
  | succ j=>
   have:=hzs j a (by simpa using hj);rw [show o+(j+1)*4=o+4+j*4 by omega]
   simpa [VI] using this
def Z73 (am:List Yn) (v:Int) (hal:am.length<=1000000000):Wf Tryz.prog 218 [Xc am,.i v] [] (fun r h=>(∃(a:Yn),r=.tup [.agg [.i a.mat,.i a.fst,Z5 a.fds,.b a.chg],.b true]/\h=[]/\Ta am v=some a)∨(r=.tup [.agg [.i 0,.i 0,ZT []<|.slice none 0 0,.b false],.b false]/\h=[]/\Ta am v=none)):=by
 intro w G vs ha hh;obtain ⟨u,rfl,hu⟩:∃u,vs=[u,.int .i64 v]/\RV w G (Xc am) u:=by
  cases ha with
  | cons h1 t=>cases t with
   | cons h2 t=>cases t;have:=h2.val_inv;subst this;exact ⟨_,rfl,h1⟩
 obtain ⟨zs,hlen,hat,hav,hrel⟩:∃zs:List ArmV,zs.length=am.length/\CO w.heap.size w u zs/\(∃a l c,u=.slice a l c)/\∀(j:Nat) a,am[j]? = some a->(VI zs j).m=a.mat/\(VI zs j).f=a.fst/\(VI zs j).c=a.chg/\RV w G (Z5 a.fds) (.slice (VI zs j).sa (VI zs j).sl (VI zs j).sc):=by
  have hu':RV w G (.sl (X2 am) none) u:=hu;generalize hes:X2 am=es at hu'
  cases hu' with
  | nil _=>
   cases am with
   | nil=>exact ⟨[],rfl,.inl ⟨_,_,rfl,rfl⟩,⟨_,_,_,rfl⟩,fun j a h=>by simp at h⟩
   | cons _ _=>simp [X2] at hes
  | @sl _ _ b o k cap _ hc hm=>
   subst hes;obtain ⟨zs,hlen,hzs⟩:=OQ hm;have hel:(X2 am).length=zs.length:=by simp [X2,hlen]
   refine ⟨zs,hlen,?_,⟨_,_,_,rfl⟩,fun j a hj=>by obtain ⟨_,_,_,_,q1,q2,q3,q4,_⟩:=hzs j a hj;exact ⟨q1,q2,q3,q4⟩⟩
   cases am with
   | nil=>exact .inl ⟨_,_,rfl,List.eq_nil_of_length_eq_zero hlen⟩
   | cons x r=>
    refine .inr ⟨b,o,cap,by rw [hel],hh.lt b _ (hzs 0 x rfl).2.2.2.2.2.2.2.2,fun j hj=>?_⟩;have hj2:j<(x::r).length:=by omega
    obtain ⟨q0,q1,q2,q3,_⟩:=hzs j _ (J8 hj2);exact ⟨q0,q1,q2,q3⟩
 refine (callsIn_wide.1<|Zhp Fence.wide 6 trivial trivial trivial rfl om v u zs om w hav hat).mono ?_;rintro e W' ⟨hres,hB⟩;have hA:Ur G w W' G:=⟨fun b o hg=>hB.cell (p:=⟨b,o,none⟩)<|hh.lt b o hg,fun _ _ h=>h⟩;have hH:YA W' G []:=⟨(fun r hr=>by cases hr),List.Pairwise.nil,(fun r hr=>by cases hr),fun b o hg=>IE (hh.lt b o hg) hB.size⟩;have hX:X4 w G [] W' G []:=⟨hB.os,hB.tape,hB.output,hB.size,fun _ _ h=>h,fun b hb=>.inl<|hB.block b hb,fun _ _ _ h=>.inl h,fun _ _ _ h=>h⟩;have hmn:∀j,j<zs.length->∃a,am[zs.length-1-j]? = some a:=fun j hj=>⟨_,J8 om⟩
 rcases hres with ⟨k,hk,hm,hlt,rfl⟩|⟨Bv,rfl⟩
 .obtain ⟨a,hga⟩:=hmn k hk;obtain ⟨q1,q2,q3,q4⟩:=hrel _ a hga;have hof:Ta am v=some a:=Z1b hga (q1▸hm) fun j b hj hb=>by
   have hjl:=(Xv.1 hb).1;have:=hlt (zs.length-1-j) om;rw [show zs.length-1-(zs.length-1-j)=j by omega,(hrel j b hb).1] at this;exact this
  refine ⟨_,.tup [.agg [.i a.mat,.i a.fst,Z5 a.fds,.b a.chg],.b true],[],G,U,.inl ⟨a,U,U,hof⟩,?_,hH,hX⟩;refine .tup<|.cons (.agg (cs:=[_,_,_,_])<|.cons ?_<|.cons ?_<|.cons (q4.mono hA)<|.cons ?_ .nil)<|.cons .val .nil
  .rw [q1];exact .val
  .rw [q2];exact .val
  .rw [q3];exact .val
 .have hof:Ta am v=none:=FE fun a ha=>by
   obtain ⟨j,hj⟩:=IB ha;have hjl:=(Xv.1 hj).1;have:=Bv (zs.length-1-j) om;rw [show zs.length-1-(zs.length-1-j)=j by omega,(hrel j a hj).1] at this;exact this
  refine ⟨_,.tup [.agg [.i 0,.i 0,ZT []<|.slice none 0 0,.b false],.b false],[],G,U,.inr ⟨U,U,hof⟩,?_,hH,hX⟩;exact .tup<|.cons (.agg (cs:=[_,_,_,_])<|.cons .val<|.cons .val<|.cons (.nil fun x hx=>(Qs hx).symm)<|.cons .val .nil)<|.cons .val .nil
def IY (b:Nat) (ga gb gc:Hd) (n:Zm) (L:VB) (ln:LI) (am:List Yn) (x:Z6) (mm:Nat) (hlk:WT L:=by exact ob) (hlb:L.1.length<=1000000000:=by exact ob) (hm:mm<=L.1.length:=by exact ob) (hr:0<=x.result/\x.result<L.1.length:=by exact ob) (hq:∀y∈L.2,-999999999<=y/\y<=1000000000):Zj 95 [.p b 0,ZV x,.i mm] [.obj b [ZQ n.1,YV n,Z5 ln,Xc am,.h ga,.h gb,.h gc],rV ga L.1,rV gb L.2,rV gc L.6] (fun r h=>(r=.b true/\h=[.obj b [ZQ n.1,YV n,Z5 ln,Xc am,.h ga,.h gb,.h gc],rV ga<|(Wt L x.result).vars,rV gb<|(Wt L x.result).own,rV gc<|(Wt L x.result).tok]/\UA mm x.result L=some ((Wt L x.result).take mm))∨(r=.b false/\h=[]/\UA mm x.result L=none)):=by
 have hlk0:=hlk;obtain ⟨e1,e2,e3,e4,e5⟩:=hlk0;have d1:(XU L x.result).own.length=L.2.length:=UO;have d2:(XU L x.result).tok.length=L.6.length:=rfl;have d3:(XU L x.result).vars.length=L.1.length:=rfl;refine ZF 52 Tryz.func95<|ar (iA (Xb x) fun b1=>Z0<|aq<|aD 16<|ZJ 10 16 [0,1,2,3,4,5] [1,0]<|dx 6 (Wg 2 ga L.1 x.result x.result.toNat (hq:=rfl)) ?_);obtain ⟨x1,Z3⟩:=Zs L.1 x.result.toNat om;have hgv:=WH Z3;refine Us 7 (VO 2 ga L.1 x.result.toNat x1 Z3)<|Zi 6 8 [8,9] (db (b:=(x1 != 0)) 17 (fun Zb=>?_) fun Zb=>?_)
 .have ZX:x1≠0:=(Yb).1 Zb;refine ZJ 3 6 [10,11,12] [0]<|Z9 13<|Yu 13 [1,1,1,1] [] [] (Gn b ga gb gc n L ln am x.result (hq:=(fun y hy=>by have:=hq y hy;omega)))<|Zi 0 2 [14,15]<|de (ac (!decide (1<=gI L.2 x.result)) (p:=¬(decide (1<=gI L.2 x.result)=true)) (Yp Iff.rfl) (fun Za=>?_) fun Za=>?_)
  .exact ar<|Zp<|r1 []<|.inr ⟨rfl,rfl,(Zal (by rw [hgv];exact ZX) fun q=>Za<|decide_eq_true q)⟩
  refine ak<|Yj<|ab 0<|Y2 (fun fz gz m F h=>∃(k:Nat),(mm<=k/\k<=L.1.length)/\(Vm ((XU L x.result).own.drop k) ((XU L x.result).tok.drop k)=Vm ((XU L x.result).own.drop mm) ((XU L x.result).tok.drop mm))/\F=sF [0] fz [(7,.i k)]/\h=[Ze gz 0,Ze gz 1,Ze gz 2,Ze gz 3]/\m=L.1.length-k) _ _ _ ⟨mm,om,ob,U,U,U⟩ (ZH 4 fl) ?_;rintro m F h ⟨k,Ye,Zk,rfl,rfl,rfl⟩;refine Yh 5 [0]<|Zo (Aa 1 ga<|(XU L x.result).vars) (Y4 ((k:Int)<((((XU L x.result).vars).length:Nat):Int)) (fun Zf=>?_) fun Zf=>?_)
  .refine ak<|aq<|ab 1<|Zt 5 [0]<|Zo (Wg 2 gb ((XU L x.result).own) (k:Int) k) ?_;obtain ⟨x2,Zr⟩:=Zs ((XU L x.result).own) k om;refine WW (VO 2 gb ((XU L x.result).own) k x2 Zr)<|Z1 2 (ib (b:=(x2 != 0)) 42 (fun ZE=>?_) fun ZE=>?_)
   .have Yf:x2≠0:=(Yb).1 ZE;refine Z0<|Wc<|ZB ?_;have hE:Wt L x.result=XU L x.result:=Zg (by rw [hgv];exact ZX);obtain ⟨y,hy⟩:=Zs ((XU L x.result).tok) k om;exact ZC<|r1 []<|.inr ⟨rfl,rfl,(GU<|by rw [hE];exact Iw Zr hy (.inl Yf) Zk)⟩
   have YK:¬(x2≠0):=Y8 Yb ZE;refine ZL 5 [0]<|Zo (Wg 3 gc ((XU L x.result).tok) (k:Int) k) ?_;obtain ⟨x3,YG⟩:=Zs ((XU L x.result).tok) k om;refine WW (VO 3 gc ((XU L x.result).tok) k x3 YG) (Y4 (x3>=0) (fun ZA=>?_) fun ZA=>?_)
   .refine ZB ?_;have hE:Wt L x.result=XU L x.result:=Zg (by rw [hgv];exact ZX);exact ZC<|r1 []<|.inr ⟨rfl,rfl,(GU<|by rw [hE];exact Iw Zr YG (.inr ZA) Zk)⟩
   exact ak<|az<|Z1 1<|ZI k<|Z0<|ZK ⟨k+1,ob,(by first|exact Ix Zr YG om Zk|exact Ix WM VU om Zk),rfl,rfl,rfl⟩<|ZH 4<|ZM k fl
  refine ax 0<|ZB ?_;have hE:Wt L x.result=XU L x.result:=Zg (by rw [hgv];exact ZX);exact ZC<|r1 [0,0,0,0] (.inl ⟨rfl,rfl,(Ro (fun _=>of_decide_eq_true<|Wp.1 Za)<|by rw [hE];exact Z5z om Zk)⟩) (eq:=(rc<|rv (xs:=(XU L x.result).vars) (by rw [hE])<|rv (xs:=(XU L x.result).own) (by rw [hE])<|rv (xs:=(XU L x.result).tok) (by rw [hE]) rz))
 have YW:¬(x1≠0):=Y8 Yb Zb;refine Zi 0 6 [10,11,12,13,14,15]<|de<|Ww<|ak<|Yj<|ab 0<|Y2 (fun fz gz m F h=>∃(k:Nat),(mm<=k/\k<=L.1.length)/\(Vm (L.2.drop k) (L.6.drop k)=Vm (L.2.drop mm) (L.6.drop mm))/\F=sF [0] fz [(7,.i k)]/\h=[Ze gz 1,Ze gz 2,Ze gz 3,Ze gz 4]/\m=L.1.length-k) _ _ _ ⟨mm,om,ob,U,U,U⟩ (wk [1,1,1,1] fl) ?_;rintro m F h ⟨k,Ye,Zk,rfl,rfl,rfl⟩;refine Yh 5 [0]<|Zo (Aa 1 ga L.1) (Y4 ((k:Int)<(L.1.length:Int)) (fun Ym=>?_) fun Ym=>?_)
 .refine ak<|aq<|ab 1<|Zt 5 [0]<|Zo (Wg 2 gb L.2 (k:Int) k) ?_;obtain ⟨x4,WM⟩:=Zs L.2 k om;refine WW (VO 2 gb L.2 k x4 WM)<|Z1 2 (ib (b:=(x4 != 0)) 42 (fun Yx=>?_) fun Yx=>?_)
  .have Xl:x4≠0:=(Yb).1 Yx;refine Z0<|Wc<|ZB ?_;have hE:Wt L x.result=L:=Z8 (by rw [hgv];exact YW);obtain ⟨y,hy⟩:=Zs L.6 k om;exact ZC<|r1 []<|.inr ⟨rfl,rfl,(GU<|by rw [hE];exact Iw WM hy (.inl Xl) Zk)⟩
  have XS:¬(x4≠0):=Y8 Yb Yx;refine ZL 5 [0]<|Zo (Wg 3 gc L.6 (k:Int) k) ?_;obtain ⟨x5,VU⟩:=Zs L.6 k om;refine WW (VO 3 gc L.6 k x5 VU) (Y4 (x5>=0) (fun Xm=>?_) fun Xm=>?_)
  .refine ZB ?_;have hE:Wt L x.result=L:=Z8 (by rw [hgv];exact YW);exact ZC<|r1 []<|.inr ⟨rfl,rfl,(GU<|by rw [hE];exact Iw WM VU (.inr Xm) Zk)⟩
  exact ak<|az<|Z1 1<|ZI k<|Z0<|ZK ⟨k+1,ob,(by first|exact Ix Zr YG om Zk|exact Ix WM VU om Zk),rfl,rfl,rfl⟩<|ZH 4<|ZM k fl
 refine ax 0<|ZB ?_;have hE:Wt L x.result=L:=Z8 (by rw [hgv];exact YW);exact ZC<|r1 [0,0,0,0] (.inl ⟨rfl,rfl,(Ro (fun q=>absurd (by rw [<-hgv];exact q) YW)<|by rw [hE];exact Z5z om Zk)⟩) (eq:=(rc<|rv (xs:=L.1) (by rw [hE])<|rv (xs:=L.2) (by rw [hE])<|rv (xs:=L.6) (by rw [hE]) rz))
def Z7k (b:Nat) (ga gb gc:Hd) (n:Zm) (L:VB) (ln:LI) (am:List Yn) (i:Int) (hlk:WT L) (hi:0<=i/\i<L.1.length) (hq:∀x∈L.2,-1000000000<=x/\x<=1000000000):Zj 142 [.p b 0,.i i] [.obj b [ZQ n.1,YV n,Z5 ln,Xc am,.h ga,.h gb,.h gc],rV ga L.1,rV gb L.2,rV gc L.6] (fun r h=>(r=.b true/\h=[.obj b [ZQ n.1,YV n,Z5 ln,Xc am,.h ga,.h gb,.h gc],rV ga<|(XU L i).vars,rV gb<|(XU L i).own,rV gc<|(XU L i).tok]/\1<=gI L.2 i)∨(r=.b false/\h=[.obj b [ZQ n.1,YV n,Z5 ln,Xc am,.h ga,.h gb,.h gc],rV ga<|(XU L i).vars,rV gb<|(XU L i).own,rV gc<|(XU L i).tok]/\¬1<=gI L.2 i)):=by
 refine (Gn b ga gb gc n L ln am i hlk hi hq).mono fun r h q=>?_
 obtain ⟨rfl,rfl⟩:=q;by_cases hc:1<=gI L.2 i
 .exact .inl ⟨by rw [decide_eq_true hc],rfl,hc⟩
 .exact .inr ⟨by rw [decide_eq_false hc],rfl,hc⟩
def Z7e (b:Nat) (ga gb gc:Hd) (n:Zm) (L:VB) (ln:LI) (am:List Yn) (op v q:Int) (hn:YZ n:=by exact ob) (hk:Xf n.1 L q:=by exact ob) (har:Vg n.1 L am:=by exact ob) (hln:ln.length<=4294967296:=by exact ob) (hal:am.length<=1000000000:=by exact ob) (hlb:L.1.length<=1000000000:=by exact ob) (hi:0<=v/\v<L.1.length:=by exact ob) (hq:0<=q/\q<=999999980:=by exact ob):Zj 190 [.p b 0,.i op,.i v] [.obj b [ZQ n.1,YV n,Z5 ln,Xc am,.h ga,.h gb,.h gc],rV ga L.1,rV gb L.2,rV gc L.6] (fun r h=>(∃(L':VB),r=.b true/\h=[.obj b [ZQ n.1,YV n,Z5 ln,Xc am,.h ga,.h gb,.h gc],rV ga L'.1,rV gb L'.2,rV gc L'.6]/\KH n ln L op v=some L')∨(r=.b false/\h=[]/\KH n ln L op v=none)):=by
 have hlk:=hk.len;obtain ⟨e1,e2,e3,e4,e5⟩:=hk.len;have Xz:=hn.decls;obtain ⟨xo,hxo⟩:=Zs L.2 v.toNat om;have hgo:=WH hxo;obtain ⟨xt,hxt⟩:=Zs L.6 v.toNat om;have hgt:=WH hxt;have hob:=hk.bd xo (Y0 hxo);have hon:=hk.nn xo (Y0 hxo);have d1:(XU L v).own.length=L.2.length:=UO;have d2:(XU L v).tok.length=L.6.length:=rfl;have d3:(XU L v).vars.length=L.1.length:=rfl;refine ZF 91 Tryz.func190<|ZB<|Yj<|ab 0<|ar (YH (op==14) Zq (fun Za=>?_) fun Za=>?_)
 .refine YE 2<|Zx [0,0,0,0] (IX b ga gb gc _ L ln am v ob ob ob ob ob hk.down ob) (YH (!Ws L ln v) (p:=¬(Ws L ln v=true)) (Yp Iff.rfl) (fun Zf=>?_) fun Zf=>?_)
  .exact ar<|Zp<|r1 []<|.inr ⟨U,U,(Z8h Za Zf)⟩
  exact ak<|Zt 5 [0]<|Zo (Wg 2 gb L.2 v v.toNat (hq:=rfl))<|WW (VO 2 gb L.2 v.toNat xo hxo)<|ia ((xo+1)) ((xo)+(1))<|Zo (Wg 2 gb L.2 v v.toNat (hq:=rfl))<|D9 2 gb L.2 v.toNat (xo+1)<|ie<|ar<|Zp<|r1 [1,1,0,0] (.inl ⟨(Zy.mk L.1 (L.2.set v.toNat (xo+1)) L.3 L.4 L.5 L.6),U,U,(Z8i Za (Wp.1 Zf) hgo)⟩) (eq:=(rc<|rv (xs:=L.1) ob<|rv (xs:=(L.2.set v.toNat (xo+1))) ob<|rv (xs:=L.6) ob rz))
 refine ar (YH (op==15) Zq (fun ZA=>?_) fun ZA=>?_)
 .refine Y5 2<|ic [0,0,0,0] (Z7k b ga gb gc n L ln am v ob ob fun y hy=>by have h1:=hk.nn y hy;have h2:=hk.bd y hy;omega) ?_;rintro _ _ (⟨rfl,rfl,ZX⟩|⟨rfl,rfl,Yf⟩)
  .exact Zp<|r1 [0,0,0,0]<|.inl ⟨(XU L v),U,U,(Z8k ZA ZX)⟩
  exact Zp<|r1 []<|.inr ⟨U,U,(Z8j ZA Yf)⟩
 refine ak<|Zt 5 [0]<|ic [] (Z73 am v ob) ?_;rintro _ _ (⟨a1,rfl,rfl,YK⟩|⟨rfl,rfl,YW⟩)
 .have hof:=YK;have hmem:=(Z1c hof).1;have hrg:=har.rng _ hmem;have hO:=(PH (n:=n) (ln:=ln) Za ZA).trans (Zi5 (op:=op) har hi hof hgt);have hfl:a1.fds.length<=3:=by
   have h:=har.off v hi.1 hi.2;rw [hof] at h;rw [h.2.2];exact Uw Xz _
  have hhl:=Sc a1.fds a1.fst;refine Z1 3 (iA [.i 0,.i 0,nl,.b false] fun b1=>ZD 0 b1 [.i a1.mat,.i a1.fst,Z5 a1.fds,.b a1.chg]<|Z0<|YE 5<|Zx [1,1,1,1] (Gn b ga gb gc n L ln am v (hlk:=hlk) (hq:=(fun y hy=>by have h1:=hk.nn y hy;have h2:=hk.bd y hy;omega)))<|Xu [0,1,2,7] [(62,.b ((!decide (1<=gI L.2 v))||((op==17)&&(decide (xt>=0)))))] (fun gz=>gz) ?_ ?_)
  .refine Z1 3 (ib (b:=(!decide (1<=gI L.2 v))) 49 (fun Zb=>?_) fun Zb=>?_)
   .have Xl:¬(decide (1<=gI L.2 v)=true):=((Yp Iff.rfl)).1 Zb;exact Z0<|ZH 5<|Zu true Zb fl
   have XS:¬(¬(decide (1<=gI L.2 v)=true)):=Y8 (Yp Iff.rfl) Zb;refine Z1 3 (ib (b:=(op==17)) 52 (fun ZE=>?_) fun ZE=>?_)
   .have Wv:op=17:=(Zq).1 ZE;exact ZL 5 [0]<|Zo (Wg 3 gc ((XU L v).tok) v v.toNat (hq:=rfl))<|WW (VO 3 gc ((XU L v).tok) v.toNat xt hxt)<|Z0<|ZH 5<|Zu (decide (xt>=0)) (And.intro Zb ZE) fl
   have WS:¬(op=17):=Y8 Zq ZE;exact Z0<|ZH 5<|Zu false (And.intro Zb ZE) fl
  refine ac ((!decide (1<=gI L.2 v))||((op==17)&&(decide (xt>=0)))) (p:=(¬(decide (1<=gI L.2 v)=true))∨((op=17)/\(xt>=0))) (Yi (Yp Iff.rfl)<|YN Zq dq) (fun Ym=>?_) fun Ym=>?_
  .exact ar<|Zp<|r1 []<|.inr ⟨rfl,rfl,(by rw [hO,Zg<|Ym.imp (fun h g=>h<|decide_eq_true g) id])⟩
  have hG:¬(¬1<=gI L.2 v∨(op=17/\xt>=0)):=fun z=>Ym<|z.imp (fun h g=>h<|of_decide_eq_true g) id
  have hbd:=Z9m hk (Wp.1 fun z=>hG<|.inl z) hi;refine ak<|Yh 1 [4]<|Zx [] (Zeg a1)<|io (.i (((Ut a1.fds a1.fst).length:Nat):Int)) (.i (((Z7<|Ut a1.fds a1.fst).length:Nat):Int)) (li<|by rw [Yg])<|Z0<|ab 1<|Y2 (fun fz gz m F h=>∃(k:Nat) (o:LI),(k<=(Ut a1.fds a1.fst).length)/\(o.length=L.1.length)/\(∀y∈o,0<=y/\y<=q+k)/\(DH o ((Ut a1.fds a1.fst).drop k)=TO (XU L v).own a1.fst a1.fds)/\F=sF [0,1,2,7,64,65] fz [(66,.i k)]/\h=[Ze gz 0,Ze gz 1,rV gb o,Ze gz 3,Ze gz 4]/\m=(Ut a1.fds a1.fst).length-k) _ _ _ ⟨0,(XU L v).own,ob,ob,(fun y hy=>by have:=hbd y hy;omega),(by rw [J7];exact Z7o),rfl,rfl,rfl⟩ (ZH 5<|Y7 fl) ?_;rintro m F h ⟨k,o,Ye,Zk,Zw,Yz,rfl,rfl,rfl⟩;refine ZB<|aq (XK ((k:Int)<(((Ut a1.fds a1.fst).length:Nat):Int)) (fun Xm=>?_) fun Xm=>?_)
  .refine ak<|aq<|ab 2<|ar ?_;obtain ⟨x1,Z3⟩:=Zs (Ut a1.fds a1.fst) k om;have hfm:=Mm (Y0 Z3);refine Zo (Zl none (k:Int) 1<|Y3 Z3)<|Z0<|az<|ZL 5 [0]<|Zo (Wg 2 gb o x1 x1.toNat (hq:=rfl)) ?_;obtain ⟨x2,Zr⟩:=Zs o x1.toNat om;have hy2:=Zw _ (Y0 Zr);have hgx:=WH Zr;exact WW (VO 2 gb o x1.toNat x2 Zr)<|ia ((x2+1)) ((x2)+(1))<|Zo (Wg 2 gb o x1 x1.toNat (hq:=rfl))<|D9 2 gb o x1.toNat (x2+1)<|ie<|az<|ZI k<|Z0<|ZK ⟨k+1,(o.set x1.toNat (x2+1)),ob,(by simp [Zk]),(by intro y hy;rcases Js hy with hy|rfl<;>first|(have:=Zw y hy;omega)|omega),(Z7p Z3 hgx Yz),rfl,rfl,rfl⟩<|wk [1,1,0,0,0]<|ZM k fl
  refine ax 1<|X6 (YH (op==17) Zq (fun Xs=>?_) fun Xs=>?_)
  .refine aE 10<|ZJ 3 10 [0,1,2,3,4,5,6] [0,4]<|dw 7 (Yg a1.fds)<|dx 8 (Wg 3 gc ((XU L v).tok) v v.toNat (hq:=rfl))<|Z9 9<|Al 9 3 [] [] gc ((XU L v).tok) v.toNat (a1.fds.length:Int)<|de<|ZB ?_;have hE:=Pf om Yz;exact ZC<|r1 [1,1,1,0] (.inl ⟨(Zy.mk L.1 o L.3 L.4 L.5<|L.6.set v.toNat a1.fds.length),rfl,rfl,(by rw [hO,Z8 hG,Zg Xs,hE];rfl)⟩) (eq:=(rc<|rv (xs:=(XU L v).vars) ob<|rv (xs:=o) ob<|rv (xs:=(((XU L v).tok).set v.toNat (a1.fds.length:Int))) ob rz))
  refine ak<|ZB ?_;have hE:=Pf om Yz;exact ZC<|r1 [0,0,0,0] (.inl ⟨(Zy.mk L.1 o L.3 L.4 L.5 L.6),rfl,rfl,(by rw [hO,Z8 hG,Z8 Xs,hE];rfl)⟩) (eq:=(rc<|rv (xs:=(XU L v).vars) ob<|rv (xs:=o) ob<|rv (xs:=(XU L v).tok) ob rz))
 exact Z1 3 (iA [.i 0,.i 0,nl,.b false] fun b2=>ZD 0 b2 [.i 0,.i 0,ZT []<|.slice none 0 0,.b false]<|Z0<|Yj<|Wc<|ar<|Zp<|r1 []<|.inr ⟨U,U,((PH (n:=n) (ln:=ln) Za ZA).trans<|Zi6 har hi YW)⟩)
end Go.Abs
section
namespace Go.Proofs
open Go.Shelf Go.RowKit Go.Lib
section
variable {P:Program}
def Zoe (w:World) {o:Oper} {a:Act} {K:Act→World→Prop} {Q:Exit→Act→World→Prop} (d s:Operand) (t t':TypeId)
  (ho:o.op=.call { callee:=.builtin .copy,args:=#[d,s],argTypes:=#[t,t'] }) (v u:Value) (hd:a.eval d=v) (hs:a.eval s=u) {v':Value} {w':World}
  (hr:(Builtin.copy_ #[t,t'] o.type #[v,u]).run P w=.ok v' w') (h:K (a.put o.dst v') w'):o.wp P a w K Q:=by
 unfold Oper.wp execOp;simp only [ho,resolve,invoke,builtin,Sem.run_bind,Sem.run_pure,Result.andThen_ok,List.map_toArray,List.map_cons,List.map_nil,hd,hs,hr];exact h
def On (w:World) {ops:Array Oper} {rest:List Oper} {o:Oper} {a:Act} {Q:Exit→Act→World→Prop} (hgd:o.guard=none) (d s:Operand) (t t':TypeId)
  (ho:o.op=.call { callee:=.builtin .copy,args:=#[d,s],argTypes:=#[t,t'] }) (v u:Value) (hd:a.eval d=v) (hs:a.eval s=u) {v':Value} {w':World}
  (hr:(Builtin.copy_ #[t,t'] o.type #[v,u]).run P w=.ok v' w') (h:wpList P ops Q rest (a.put o.dst v') w'):wpList P ops Q (o::rest) a w:=
 wpList_plain hgd fun _ hK=>Zoe w d s t t' ho v u hd hs hr<|hK _ _ h
def Z4w {ops:Array Oper} {o:Oper} {a:Act} {w:World} {K:Act→World→Prop} {Q:Exit→Act→World→Prop} {E:Prop}
  (hg:o.guard=none) (d x:Operand) (dT sT:TypeId) (hop:o.op=Op.call { callee:=Callee.builtin Builtin.copy,args:=#[d,x],argTypes:=#[dT,sT] })
  (v u:Value) (hd:a.eval d=v) (hx:a.eval x=u) {v':Value} {w':World} (hr:(Builtin.copy_ #[dT,sT] o.type #[v,u]).run P w=.ok v' w') (hK:K (a.put o.dst v') w') :
  if Region.wanted o (yielded ops a.tmps)=true then Oper.wp P o a w K Q else E:=by
 have hw:Region.wanted o (yielded ops a.tmps)=true:=by simp [Region.wanted,hg]
 rw [if_pos hw];unfold Oper.wp;simp [execOp,hop,resolve,invoke,builtin,hd,hx,hr,Result.andThen];exact hK
def Hs (b:Nat) (vs:List Value) (o:Nat) (w:World) (h:∀j,j<vs.length→(w.cell? ⟨b,o+j,none⟩).isSome=true) (k:Nat) (hk:(w.cell? ⟨b,k,none⟩).isSome=true):((w.setCells b o vs).cell? ⟨b,k,none⟩).isSome=true:=by
 by_cases hin:o≤k∧k<o+vs.length
 .have:=World.cell?_setCells_in b vs o w h (k-o) (by omega);rw [show o+(k-o)=k by omega] at this;rw [this];rfl
 .rw [World.cell?_setCells_out b vs o w ⟨b,k,none⟩ (fun _ _=>by show k<o∨o+vs.length≤k;omega)];exact hk
end
def i3:(Tryz.prog.info? 3).map (fun i=>(i.zero,i.size,i.bytes))=some (some<|Value.int IntKind.i64 0,1,8):=by kernel_rfl
def z3 (w:World):(Go.sizeOf 3).run Tryz.prog w=.ok 1 w:=by
 obtain ⟨i0,hi0,h0,h1,h2⟩:=info_parts i3;have e:=run_sizeOf (P:=Tryz.prog) w hi0
 rwa [show Tryz.prog.cellsOf 3=1 by kernel_rfl] at e
set_option maxHeartbeats 4000000 in
set_option maxRecDepth 100000 in
def Zfl (b off n c i vb voff m vc:Nat) (cs vs:List Value) (w:World) (hi:i<n) (hm:0<m) (hroom:n+m≤c) (hc63:n+m≤9223372036854775807) (hvb:vb≠b)
  (hcl:cs.length=n) (hvl:vs.length=m)
  (hcs:∀j v,cs[j]? = some v→w.cell? ⟨b,off+j,none⟩=some v) (hsp:∀j,j<n+m→(w.cell? ⟨b,off+j,none⟩).isSome=true) (hfz:∀j,j<n+m→w.frozen? ⟨b,off+j,none⟩=false)
  (hvs:∀j v,vs[j]? = some v→w.cell? ⟨vb,voff+j,none⟩=some v) (h1c:∀v∈cs,v.oneCell'=true) (h1v:∀v∈vs,v.oneCell'=true)
  (tA tB:TypeId) (kA kB:Nat) (hsa:w.shape? vb=some (tA,kA)) (hsb:w.shape? b=some (tB,kB)) (hkB:kB≠0) (hfa:w.frozen? ⟨vb,voff,none⟩=false) (hfe:w.frozen? ⟨vb,kA,none⟩=false) :
  Calls Tryz.prog 240 #[.slice (some ⟨b,off,none⟩) n c,.int .i64 i,.slice (some ⟨vb,voff,none⟩) m vc] w fun e w'=>
   e=.returned (.slice (some ⟨b,off,none⟩) (n+m) c)∧w'=(w.drew.setCells b (off+(i+m))<|cs.drop i).setCells b (off+i) vs:=by
 have mixed:Tryz.prog.follows .mixedOrders=true:=by kernel_rfl
 have hz1:¬((m:Int)=0):=by omega
 have hz2:¬((i:Int)=(n:Int)):=by omega
 have hsz:(Tryz.prog.info? 3).map (·.size)=some 1:=by
  obtain ⟨i0,hi0,h0,h1,h2⟩:=info_parts i3;rw [hi0];simp [h1]
 have hov:∀lb cb,(callFunc 244 #[.slice (some ⟨vb,voff,none⟩) m vc,.slice (some ⟨b,off+(i+m),none⟩) lb cb]).run Tryz.prog w=.ok (.value<|.bool false) w:=fun lb cb=>by
  rw [run_callFunc_extern Tryz.func244 (by kernel_rfl) (by kernel_rfl) (by kernel_rfl) (e:=Extern.SlicesOverlaps.overlaps #[31,31] #[4]) (by kernel_rfl),
   Lib.run_overlaps_apart w 31 4 3 Tryz.underlying31 1 z3 ⟨vb,voff,none⟩ ⟨b,off+(i+m),none⟩ m vc lb cb hvb tA tB kA kB hsa hsb hkB hfa hfe]
  rfl
 have hdl:(cs.drop i).length=n-i:=by rw [List.length_drop,hcl]
 have hw1:IntKind.i64.wrap ((i:Int)+(m:Int))=(i:Int)+(m:Int):=by rw [IntKind.wrap_i64];omega
 have hb1:(0:Int)≤(i:Int)+(m:Int):=by omega
 have hin:i≤n:=by omega
 have htn:((i:Int)+(m:Int)).toNat=i+m:=by omega
 have hb2:¬(c=i+m):=by omega
 have hb3:(i:Int)≤(n:Int)+(m:Int):=by omega
 have hb4:¬(c=i):=by omega
 have hcp1:∀ty dc sc,(Builtin.copy_ #[223,223] ty #[.slice (some ⟨b,off+(i+m),none⟩) (n+m-(i+m)) dc,.slice (some ⟨b,off+i,none⟩) (n+m-i) sc]).run Tryz.prog w.drew=.ok (goInt (cs.drop i).length) (w.drew.setCells b (off+(i+m))<|cs.drop i):=fun ty dc sc=>
  run_copy_cells w.drew _ _ ty 3 b (off+(i+m)) (n+m-(i+m)) dc ⟨b,off+i,none⟩ (n+m-i) sc (cs.drop i) Tryz.underlying223 hsz (by rw [hdl];simp only [Nat.min_def];split<;>omega)
   (fun j v hj=>by rw [Addr.add_lit,Nat.add_assoc];exact hcs (i+j) v<|by rwa [List.getElem?_drop] at hj)
   (fun j hj=>by rw [Nat.add_assoc];exact hsp _<|by omega) (fun j hj=>by rw [Nat.add_assoc];exact hfz _<|by omega) fun v hv=>h1c v<|List.mem_of_mem_drop hv
 obtain ⟨W1,hW1⟩:∃W1,W1=w.drew.setCells b (off+(i+m)) (cs.drop i):=⟨_,rfl⟩;have hsp1:∀k,k<n+m→(W1.cell? ⟨b,off+k,none⟩).isSome=true:=fun k hk=>by
  rw [hW1];exact Hs b _ _ _ (fun j hj=>by rw [Nat.add_assoc];exact hsp _<|by omega) _<|hsp k hk
 have hcp2:∀(W:World),(∀x,W.cell? x=W1.cell? x)→(∀x,W.frozen? x=W1.frozen? x)→∀ty dc,(Builtin.copy_ #[223,31] ty #[.slice (some ⟨b,off+i,none⟩) (n+m-i) dc,.slice (some ⟨vb,voff,none⟩) m vc]).run Tryz.prog W=.ok (goInt vs.length) (W.setCells b (off+i) vs):=fun W hWc hWf ty dc=>
  run_copy_cells W _ _ ty 3 b (off+i) (n+m-i) dc ⟨vb,voff,none⟩ m vc vs Tryz.underlying223 hsz (by rw [hvl];simp only [Nat.min_def];split<;>omega)
   (fun j v hj=>by
    rw [Addr.add_lit,hWc,hW1,World.cell?_setCells_out b _ _ _ _ (fun h _=>absurd h hvb)]
    exact hvs j v hj)
   (fun j hj=>by rw [hWc,Nat.add_assoc];exact hsp1 _<|by omega) (fun j hj=>by rw [hWf,hW1,World.frozen?_setCells,Nat.add_assoc];exact hfz _<|by omega) h1v
 rw [←hW1] at hcp1
 go_enter Tryz.func240,Tryz.ntmps240
 go_wp2_with (simp only [hov])
 go_region_law_o (refine Z4w rfl _ _ 223 223 rfl _ _ (by simp [Act.eval,Act.put]) (by simp [Act.eval,Act.put]) (hcp1 _ _ _) ?_)
 go_wp2_with (at_builtin;refine On _ rfl _ _ 223 31 rfl _ _ rfl rfl (hcp2 _ (fun _=>rfl) (fun _=>rfl) _ _) ?_)
 go_ret
 first|exact ⟨rfl,rfl⟩|exact ⟨rfl,by rw [hW1]⟩
set_option maxHeartbeats 4000000 in
set_option maxRecDepth 100000 in
def Zfh (b off n c vb voff m vc:Nat) (vs:List Value) (w:World) (hm:0<m) (hroom:n+m≤c) (hc63:n+m≤9223372036854775807)
  (hvl:vs.length=m) (hsp:∀j,j<m→(w.cell? ⟨b,off+n+j,none⟩).isSome=true) (hfz:∀j,j<m→w.frozen? ⟨b,off+n+j,none⟩=false)
  (hvs:∀j v,vs[j]? = some v→w.cell? ⟨vb,voff+j,none⟩=some v) (h1v:∀v∈vs,v.oneCell'=true) :
  Calls Tryz.prog 240 #[.slice (some ⟨b,off,none⟩) n c,.int .i64 n,.slice (some ⟨vb,voff,none⟩) m vc] w fun e w'=>
   e=.returned (.slice (some ⟨b,off,none⟩) (n+m) c)∧w'=w.setCells b (off+n) vs:=by
 have mixed:Tryz.prog.follows .mixedOrders=true:=by kernel_rfl
 have hz1:¬((m:Int)=0):=by omega
 have hsrc:Src Tryz.prog 1 31 (.slice (some ⟨vb,voff,none⟩) m vc) m vs w:=Src.ofSlice w Tryz.underlying31 ⟨vb,voff,none⟩ m vc vs (by omega) (fun j u hj=>by rw [Addr.add_lit];exact hvs j u hj) h1v
 go_enter Tryz.func240,Tryz.ntmps240
 go_wp2_with (at_builtin;refine wpList_append_room1 _ rfl _ _ 223 31 rfl 3 _ _ Tryz.underlying223 i3 b off n c rfl _ rfl m vs hsrc hroom (by rw [hvl];exact hsp) (by rw [hvl];exact hfz) ?_)
 go_ret
 exact ⟨rfl,rfl⟩
set_option maxHeartbeats 4000000 in
set_option maxRecDepth 100000 in
def Sy (base:Option Addr) (n c vb voff m vc:Nat) (cs vs:List Value) (w:World) (hm:0<m) (hnc:n≤c) (hroom:c<n+m) (hbig:(n+m)*8≤140737488355328)
  (hcl:cs.length=n) (hvl:vs.length=m) (hnil:base=none→n=0)
  (hcs:∀a,base=some a→∀j v,cs[j]? = some v→w.cell? (a.add j)=some v)
  (hvs:∀j v,vs[j]? = some v→w.cell? ⟨vb,voff+j,none⟩=some v) (h1v:∀v∈vs,v.oneCell'=true) :
  Calls Tryz.prog 240 #[.slice base n c,.int .i64 n,.slice (some ⟨vb,voff,none⟩) m vc] w fun e w'=>
   e=.returned (.slice (some ⟨w.heap.size,0,none⟩) (n+m)<|grownCap w (n+m) c 3) ∧
   w'=w.drew.alloc (.cells ((cs++vs).toArray++Builtin.zeroCells (Value.int .i64 0).cells (grownCap w (n+m) c 3-(n+m))) 3):=by
 obtain ⟨i0,hi0,hz0,hzs,hzb⟩:=info_parts i3;have mixed:Tryz.prog.follows .mixedOrders=true:=by kernel_rfl
 have hz1:¬((m:Int)=0):=by omega
 have hsrc:Src Tryz.prog i0.size 31 (.slice (some ⟨vb,voff,none⟩) m vc) m vs w:=by
  rw [hzs];exact Src.ofSlice w Tryz.underlying31 ⟨vb,voff,none⟩ m vc vs (by omega) (fun j u hj=>by rw [Addr.add_lit];exact hvs j u hj) h1v
 have hold:(Builtin.firstCells i0.size n (.slice base n c)).run Tryz.prog w.drew=.ok cs.toArray w.drew:=by
  rw [hzs]
  cases base with
  | none=>
   have h0:=hnil rfl;subst h0;rw [List.length_eq_zero_iff.1 hcl];exact run_firstCells_none w.drew 1 0 0 c
  | some a=>exact run_firstCells_some w.drew 1 n a n c cs (by omega) fun j v hj=>hcs a rfl j v hj
 have hrun:∀ty,(Builtin.append_ #[223,31] ty #[.slice base n c,.slice (some ⟨vb,voff,none⟩) m vc]).run Tryz.prog w=_:=fun ty=>
  run_append_grow_src w 223 31 ty 3 i0 _ Tryz.underlying223 hi0 hz0 base n c cs hold _ m vs hsrc hroom (by omega) (by rw [hzb];exact growslice_fits hroom hbig)
 go_enter Tryz.func240,Tryz.ntmps240
 cases base with
 | none=>
  have h0:=hnil rfl;subst h0
  go_wp2_with (at_builtin;refine Lib.wpList_append_run _ rfl _ _ _ _ rfl _ _ rfl rfl _ _ (hrun _) ?_)
  go_ret
  exact ⟨rfl,rfl⟩
 | some a=>
  obtain ⟨ab,ao,asp⟩:=a
  go_wp2_with (at_builtin;refine Lib.wpList_append_run _ rfl _ _ _ _ rfl _ _ rfl rfl _ _ (hrun _) ?_)
  all_goals (go_ret;exact ⟨rfl,rfl⟩)
set_option maxHeartbeats 4000000 in
set_option maxRecDepth 100000 in
def Zfi (b off n c i vb voff m vc:Nat) (cs vs:List Value) (w:World) (hi:i<n) (hm:0<m) (hnc:n≤c) (hroom:c<n+m) (hbig:(n+m)*8≤140737488355328)
  (hcl:cs.length=n) (hvl:vs.length=m)
  (hcs:∀j v,cs[j]? = some v→w.cell? ⟨b,off+j,none⟩=some v)
  (hvs:∀j v,vs[j]? = some v→w.cell? ⟨vb,voff+j,none⟩=some v) (h1c:∀v∈cs,v.oneCell'=true) (h1v:∀v∈vs,v.oneCell'=true) :
  Calls Tryz.prog 240 #[.slice (some ⟨b,off,none⟩) n c,.int .i64 i,.slice (some ⟨vb,voff,none⟩) m vc] w fun e w'=>
   e=.returned (.slice (some ⟨w.heap.size,0,none⟩) (n+m)<|grownCap w (n+m) c 3) ∧
   w'=(((w.alloc<|.cells ((cs.take i).toArray++Builtin.zeroCells (Value.int .i64 0).cells (n+m-i)++Builtin.zeroCells (Value.int .i64 0).cells (grownCap w (n+m) c 3-(n+m))) 3).drew.setCells w.heap.size i vs).drew).setCells w.heap.size (i+m) (cs.drop i):=by
 obtain ⟨i0,hi0,hz0,hzs,hzb⟩:=info_parts i3;have mixed:Tryz.prog.follows .mixedOrders=true:=by kernel_rfl
 have hz1:¬((m:Int)=0):=by omega
 have hz2:¬((i:Int)=(n:Int)):=by omega
 have hz3:(c:Int)<(n:Int)+(m:Int):=by omega
 have hsz:(Tryz.prog.info? 3).map (·.size)=some 1:=by rw [hi0];simp [hzs]
 have hbw:b<w.heap.size:=block_lt_of_cell (hcs 0 _<|List.getElem?_eq_getElem<|by omega);have hvw:vb<w.heap.size:=block_lt_of_cell (hvs 0 _<|List.getElem?_eq_getElem<|by omega);have hkk:(n:Int)+(m:Int)-(i:Int)=((n+m-i:Nat):Int):=by omega
 have hik:i+(n+m-i)=n+m:=by omega
 have hold:(Builtin.firstCells i0.size i (.slice (some ⟨b,off,none⟩) i c)).run Tryz.prog w.drew=.ok (cs.take i).toArray w.drew:=by
  rw [hzs]
  exact run_firstCells_some w.drew 1 i ⟨b,off,none⟩ i c (cs.take i) (by rw [List.length_take];omega) (fun j v hj=>by
   rw [Addr.add_lit];rw [List.getElem?_take] at hj
   split at hj
   .exact hcs j v hj
   .cases hj)
 have hrz:∀ty,(Builtin.append_ #[223,3] ty #[.slice (some ⟨b,off,none⟩) i c,.int .i64 ((n:Int)+(m:Int)-(i:Int))]).run Tryz.prog w =
   .ok (.slice (some ⟨w.heap.size,0,none⟩) (n+m)<|grownCap w (n+m) c 3) (w.drew.alloc<|.cells ((cs.take i).toArray++Builtin.zeroCells (Value.int .i64 0).cells (n+m-i)++Builtin.zeroCells (Value.int .i64 0).cells (grownCap w (n+m) c 3-(n+m))) 3):=fun ty=>by
  have h:=Lib.run_append_grow_zeros w 223 3 ty 3 i0 _ .i64 .i64 Tryz.underlying223 Tryz.underlying3 hi0 hz0 (some ⟨b,off,none⟩) i c (cs.take i) hold (n+m-i) (by omega) (by omega) (by omega) (by omega) (by rw [hzb];omega) (by rw [hzb,hik];exact growslice_fits hroom hbig);rw [hik] at h;rw [hkk];exact h
 obtain ⟨G,hG⟩:∃G,G=grownCap w (n+m) c 3:=⟨_,rfl⟩;obtain ⟨ROW,hROW⟩:∃ROW:Array Value,ROW=(cs.take i).toArray++Builtin.zeroCells (Value.int .i64 0).cells (n+m-i)++Builtin.zeroCells (Value.int .i64 0).cells (G-(n+m)):=⟨_,rfl⟩;rw [←hG] at hrz ⊢;rw [←hROW] at hrz ⊢;have hRl:n+m≤ROW.size:=by
  rw [hROW];simp [Builtin.zeroCells,Value.cells];omega
 obtain ⟨W1,hW1⟩:∃W1,W1=w.drew.alloc (.cells ROW 3):=⟨_,rfl⟩;rw [←hW1] at hrz;have hN:∀j,j<n+m→(W1.cell? ⟨w.heap.size,j,none⟩).isSome=true:=fun j hj=>by
  rw [hW1,World.cell?_alloc_at (w:=w.drew) ROW _ w.heap.size j rfl,Array.getElem?_eq_getElem (by omega)];rfl
 have hNf:∀j,W1.frozen? ⟨w.heap.size,j,none⟩=false:=fun j=>by rw [hW1];exact World.frozen?_alloc_at (w:=w.drew) ROW _ w.heap.size j rfl
 have hOb:∀j v,w.cell? ⟨b,j,none⟩=some v→W1.cell? ⟨b,j,none⟩=some v:=fun j v h=>by rw [hW1,World.cell?_alloc_past (w:=w.drew) _ b j hbw];exact h
 have hOv:∀j v,w.cell? ⟨vb,j,none⟩=some v→W1.cell? ⟨vb,j,none⟩=some v:=fun j v h=>by rw [hW1,World.cell?_alloc_past (w:=w.drew) _ vb j hvw];exact h
 have hcpA:∀(W:World),(∀x,W.cell? x=W1.cell? x)→(∀x,W.frozen? x=W1.frozen? x)→∀ty dc,(Builtin.copy_ #[223,31] ty #[.slice (some ⟨w.heap.size,i,none⟩) (n+m-i) dc,.slice (some ⟨vb,voff,none⟩) m vc]).run Tryz.prog W=.ok (goInt vs.length) (W.setCells w.heap.size i vs):=fun W hWc hWf ty dc=>
  run_copy_cells W _ _ ty 3 w.heap.size i (n+m-i) dc ⟨vb,voff,none⟩ m vc vs Tryz.underlying223 hsz (by rw [hvl];simp only [Nat.min_def];split<;>omega)
   (fun j v hj=>by rw [Addr.add_lit,hWc];exact hOv _ v<|hvs j v hj)
   (fun j hj=>by rw [hWc];exact hN _<|by omega) (fun j hj=>by rw [hWf];exact hNf _) h1v
 have hGn:n+m≤G:=by rw [hG];exact grownCap_ge w _ _ _
 have hG63:G≤9223372036854775807:=by
  have:=grownCap_le_maxLen w (n+m) c 3 (by unfold maxLen;omega);rw [←hG] at this;unfold maxLen at this;omega
 have hGi:¬(G=i):=by omega
 have hGim:¬(G=i+m):=by omega
 have hci:¬(c=i):=by omega
 have hbN:b≠w.heap.size:=by omega
 have hdl:(cs.drop i).length=n-i:=by rw [List.length_drop,hcl]
 have hcpB:∀(W:World),(∀x,W.cell? x=(W1.setCells w.heap.size i vs).cell? x)→(∀x,W.frozen? x=(W1.setCells w.heap.size i vs).frozen? x)→∀ty dc sc,(Builtin.copy_ #[223,223] ty #[.slice (some ⟨w.heap.size,i+m,none⟩) (n+m-(i+m)) dc,.slice (some ⟨b,off+i,none⟩) (n-i) sc]).run Tryz.prog W=.ok (goInt (cs.drop i).length) (W.setCells w.heap.size (i+m)<|cs.drop i):=fun W hWc hWf ty dc sc=>
  run_copy_cells W _ _ ty 3 w.heap.size (i+m) (n+m-(i+m)) dc ⟨b,off+i,none⟩ (n-i) sc (cs.drop i) Tryz.underlying223 hsz (by rw [hdl];simp only [Nat.min_def];split<;>omega)
   (fun j v hj=>by
    rw [Addr.add_lit,hWc,World.cell?_setCells_out _ _ _ _ _ fun h _=>absurd h hbN,Nat.add_assoc]
    exact hOb _ v<|hcs (i+j) v<|by rwa [List.getElem?_drop] at hj)
   (fun j hj=>by rw [hWc];exact Hs _ _ _ _ (fun t ht=>hN _<|by omega) _<|hN _<|by omega)
   (fun j hj=>by rw [hWf,World.frozen?_setCells];exact hNf _) fun v hv=>h1c v<|List.mem_of_mem_drop hv
 subst hW1;have hE1:∀x,((w.alloc<|.cells ROW 3).drew).cell? x=(w.drew.alloc<|.cells ROW 3).cell? x:=fun x=>rfl
 have hE2:∀x,((w.alloc<|.cells ROW 3).drew).frozen? x=(w.drew.alloc<|.cells ROW 3).frozen? x:=fun x=>rfl
 have hF1:∀x,(((w.alloc<|.cells ROW 3).drew.setCells w.heap.size i vs).drew).cell? x=((w.drew.alloc<|.cells ROW 3).setCells w.heap.size i vs).cell? x:=fun x=>rfl
 have hF2:∀x,(((w.alloc<|.cells ROW 3).drew.setCells w.heap.size i vs).drew).frozen? x=((w.drew.alloc<|.cells ROW 3).setCells w.heap.size i vs).frozen? x:=fun x=>rfl
 have hw1:IntKind.i64.wrap ((i:Int)+(m:Int))=(i:Int)+(m:Int):=by rw [IntKind.wrap_i64];omega
 have hb1:(0:Int)≤(i:Int)+(m:Int):=by omega
 have hin:i≤n:=by omega
 have htn:((i:Int)+(m:Int)).toNat=i+m:=by omega
 have hb3:(i:Int)≤(n:Int):=by omega
 clear hkk hik hold hROW hG hRl
 go_enter Tryz.func240,Tryz.ntmps240
 go_wp2_with (first
  | (at_builtin;refine Lib.wpList_append_run _ rfl _ _ _ _ rfl _ _ rfl rfl _ _ (hrz _) ?_)
  | (at_builtin;refine On _ rfl _ _ 223 31 rfl _ _ rfl rfl (hcpA _ hE1 hE2 _ _) ?_)
  | (at_builtin;refine On _ rfl _ _ 223 223 rfl _ _ rfl rfl (hcpB _ (fun _=>rfl) (fun _=>rfl) _ _ _) ?_))
 go_region_law_o (refine Z4w rfl _ _ 223 223 rfl (.slice (some ⟨w.heap.size,i+m,none⟩) (n+m-(i+m)) (G-(i+m))) (.slice (some ⟨b,off+i,none⟩) (n-i) (c-i)) (by simp [Act.eval,Act.put]) (by simp [Act.eval,Act.put]) (hcpB _ hF1 hF2 3 (G-(i+m)) (c-i)) ?_)
 go_wp2
 go_ret
 exact ⟨rfl,rfl⟩
end Go.Proofs
end
