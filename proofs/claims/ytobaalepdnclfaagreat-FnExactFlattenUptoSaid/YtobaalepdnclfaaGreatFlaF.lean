/-
  FnExactFlattenUptoSaid: the law FnExactFlatten returns true at every argument of bulk at most 1048576, and the argument reads behind the call as it read before.
-/
import Derived.Test.YtobaalepdnclfaaGreatFlaE
import Derived.Test.YtobaalepdnclfaaGreatRows
import Derived.WalkKit
import Derived.ProofKit
import Derived.OpenShut
import Derived.JoinedCond
import Derived.ReadAgain
set_option linter.all false
set_option linter.unusedVariables false
set_option linter.unusedSimpArgs false
set_option linter.unusedSectionVars false
set_option maxRecDepth 10000
set_option maxHeartbeats 4000000
namespace Go.Abs
open Go.Proofs
theorem Zuj (S:List Nat) (M:ZK) (v:Value) (xs:List HInstr) (q:Int) (hd:Xu S v xs.length:=by exact ob) (hs:Qx M S (Z2 v) 0 xs:=by exact ob) (hq:0<=q/\q+((Xi (Z2 v) 0 xs).length:Nat)<=4000000000000:=by exact ob):Zd Tryz.prog 61 [.val v,.i q] [.own S M] (fun r h=>r=.i (q+((Xi (Z2 v) 0 xs).length:Nat))/\h=[.own S (wr M (Xi (Z2 v) 0 xs) q)]):=by
 have hal:=Z6r (g:=Z2 v) (o:=0) (xs:=xs)
 refine enter Tryz.func61 kr (n:=55) kr kr (ar (ir 1 [(0,.val v),(1,.i q)] (ie (aq (ar (Z0 1 (.n 5 (.i 0) .r) (ie (ab 0 (al (fun m F h=>∃(k:Nat) (z:Int) (N:ZK),(k<=xs.length)/\(0<=z)/\(z+((Xi (Z2 v) (k*6) (xs.drop k)).length:Nat)=q+((Xi (Z2 v) 0 xs).length:Nat))/\(Kp M N)/\(wr N (Xi (Z2 v) (k*6) (xs.drop k)) z=wr M (Xi (Z2 v) 0 xs) q)/\F=[(0,.val v),(1,.i z),(5,.i k)]/\h=[.own S N]/\m=xs.length-k) _ _ _ ⟨0,q,M,ob,ob,(by simp),(Kp.refl M),(by simp),rfl,rfl,rfl⟩ (wk [0] (fw (fc (x:=.i 0) li fl))) ?_)))))))))
 rintro m F h ⟨k,z,N,c0_0,c0_1,c0_2,c0_3,c0_4,rfl,rfl,rfl⟩
 refine aq (ar (Z0 2 (.n 6 (.i k) (.n 7 (.val v) .r)) (Zf (Tz S v xs.length hd) (Z0 1 (.n 9 (.b (decide ((k:Int)<(xs.length:Int)))) .r) (ie (ac (decide ((k:Int)<(xs.length:Int))) dq (fun hc1=>?_) (fun hc1=>?_)))))))
 ·have hb:=hd.blk (i:=k) om
  obtain ⟨x1,hx1⟩:=Zl (xs:=xs) (j:=k) om
  have e1:=Zaj hs hx1
  rw [XQ] at e1
  obtain ⟨⟨i0,i1,i2,i3⟩,⟨⟨a4,d4⟩,s4⟩,⟨⟨a5,d5⟩,s5⟩⟩:=e1
  have hdr:=Zc2 (g:=Z2 v) hx1
  have hln:=Z58 (g:=Z2 v) (o:=k*6) (s:=x1)
  have hl0:=Y1 List.length hdr
  rw [ZC,hln] at hl0
  have kp:=c0_3
  refine ak (aq (ab 1 (ar (Z0 3 (.n 12 (.val v) (.n 13 (.i k) (.n 14 (.i z) .r))) (Zf (X5 S v xs.length k 6 (k:Int) hd) (Z0 1 (.n 16 (.val (.pointer (some ⟨Z2 v,k*6,none⟩))) .r) (UM 0 S N (Z2 v) (k*6) z hb.1 (kp.i i0) ?_)))))))
  have kp:=kp.upd i0 z
  refine ie (ar (Z0 1 (.n 17 (.i z) .r) (ia ((z+1)) ((z)+(1)) (ir 1 [(0,.val v),(1,.i (z+1)),(5,.i k)] (ie (ar (Z0 3 (.n 19 (.val v) (.n 20 (.i k) (.n 21 (.i (z+1)) .r))) (Zf (X5 S v xs.length k 6 (k:Int) hd) (Z0 1 (.n 23 (.val (.pointer (some ⟨Z2 v,k*6+1,none⟩))) .r) (UM 0 S (upd N (Z2 v,k*6) z) (Z2 v) (k*6+1) (z+1) hb.1 (kp.i i1) ?_))))))))))
  have kp:=kp.upd i1 (z+1)
  refine ie (ar (Z0 1 (.n 24 (.i (z+1)) .r) (ia (((z+1)+1)) (((z+1))+(1)) (ir 1 [(0,.val v),(1,.i ((z+1)+1)),(5,.i k)] (ie (ar (Z0 3 (.n 26 (.val v) (.n 27 (.i k) (.n 28 (.i ((z+1)+1)) .r))) (Zf (X5 S v xs.length k 6 (k:Int) hd) (Z0 1 (.n 30 (.val (.pointer (some ⟨Z2 v,k*6+2,none⟩))) .r) (UM 0 S (upd (upd N (Z2 v,k*6) z) (Z2 v,k*6+1) (z+1)) (Z2 v) (k*6+2) ((z+1)+1) hb.1 (kp.i i2) ?_))))))))))
  have kp:=kp.upd i2 ((z+1)+1)
  refine ie (ar (Z0 1 (.n 31 (.i ((z+1)+1)) .r) (ia ((((z+1)+1)+1)) ((((z+1)+1))+(1)) (ir 1 [(0,.val v),(1,.i (((z+1)+1)+1)),(5,.i k)] (ie (ar (Z0 3 (.n 33 (.val v) (.n 34 (.i k) (.n 35 (.i (((z+1)+1)+1)) .r))) (Zf (X5 S v xs.length k 6 (k:Int) hd) (Z0 1 (.n 37 (.val (.pointer (some ⟨Z2 v,k*6+3,none⟩))) .r) (UM 0 S (upd (upd (upd N (Z2 v,k*6) z) (Z2 v,k*6+1) (z+1)) (Z2 v,k*6+2) ((z+1)+1)) (Z2 v) (k*6+3) (((z+1)+1)+1) hb.1 (kp.i i3) ?_))))))))))
  have kp:=kp.upd i3 (((z+1)+1)+1)
  refine ie (ar (Z0 1 (.n 38 (.i (((z+1)+1)+1)) .r) (ia (((((z+1)+1)+1)+1)) (((((z+1)+1)+1))+(1)) (ir 1 [(0,.val v),(1,.i ((((z+1)+1)+1)+1)),(5,.i k)] (ie (ar (Z0 2 (.n 40 (.val v) (.n 41 (.i k) .r)) (Zf (X5 S v xs.length k 6 (k:Int) hd) (Z0 1 (.n 43 (.val (.pointer (some ⟨Z2 v,k*6+4,none⟩))) .r) ?_)))))))))
  have t4:V1 (upd (upd (upd (upd N (Z2 v,k*6) z) (Z2 v,k*6+1) (z+1)) (Z2 v,k*6+2) ((z+1)+1)) (Z2 v,k*6+3) (((z+1)+1)+1)) (Z2 x1.av) x1.args.length:=fun i hi=>kp.i (s4 i hi)
  refine YR (Wj 0 S (upd (upd (upd (upd N (Z2 v,k*6) z) (Z2 v,k*6+1) (z+1)) (Z2 v,k*6+2) ((z+1)+1)) (Z2 v,k*6+3) (((z+1)+1)+1)) (Z2 v) (k*6+4) x1.av hb.1 (kp.h a4 d4.ni)) (Z0 1 (.n 45 (.i ((((z+1)+1)+1)+1)) .r) (ic [0] (J4 S (upd (upd (upd (upd N (Z2 v,k*6) z) (Z2 v,k*6+1) (z+1)) (Z2 v,k*6+2) ((z+1)+1)) (Z2 v,k*6+3) (((z+1)+1)+1)) x1.av x1.args ((((z+1)+1)+1)+1)) ?_))
  rintro _ _ ⟨rfl,rfl⟩
  have kp:=kp.wr (UZ s4) ((((z+1)+1)+1)+1)
  refine ir 1 [(0,.val v),(1,.i (((((z+1)+1)+1)+1)+((Z7 (Z2 x1.av) 0 x1.args.length).length:Nat))),(5,.i k)] (ie (az (Z0 2 (.n 47 (.val v) (.n 48 (.i k) .r)) (Zf (X5 S v xs.length k 6 (k:Int) hd) (Z0 1 (.n 50 (.val (.pointer (some ⟨Z2 v,k*6+5,none⟩))) .r) ?_)))))
  have t5:V1 (wr (upd (upd (upd (upd N (Z2 v,k*6) z) (Z2 v,k*6+1) (z+1)) (Z2 v,k*6+2) ((z+1)+1)) (Z2 v,k*6+3) (((z+1)+1)+1)) (Z7 (Z2 x1.av) 0 x1.args.length) ((((z+1)+1)+1)+1)) (Z2 x1.jv) x1.jumps.length:=fun i hi=>kp.i (s5 i hi)
  refine YR (Wj 0 S (wr (upd (upd (upd (upd N (Z2 v,k*6) z) (Z2 v,k*6+1) (z+1)) (Z2 v,k*6+2) ((z+1)+1)) (Z2 v,k*6+3) (((z+1)+1)+1)) (Z7 (Z2 x1.av) 0 x1.args.length) ((((z+1)+1)+1)+1)) (Z2 v) (k*6+5) x1.jv hb.1 (kp.h a5 d5.ni)) (Z0 1 (.n 52 (.i (((((z+1)+1)+1)+1)+((Z7 (Z2 x1.av) 0 x1.args.length).length:Nat))) .r) (ic [0] (J4 S (wr (upd (upd (upd (upd N (Z2 v,k*6) z) (Z2 v,k*6+1) (z+1)) (Z2 v,k*6+2) ((z+1)+1)) (Z2 v,k*6+3) (((z+1)+1)+1)) (Z7 (Z2 x1.av) 0 x1.args.length) ((((z+1)+1)+1)+1)) x1.jv x1.jumps (((((z+1)+1)+1)+1)+((Z7 (Z2 x1.av) 0 x1.args.length).length:Nat))) ?_))
  rintro _ _ ⟨rfl,rfl⟩
  have kp:=kp.wr (UZ s5) (((((z+1)+1)+1)+1)+((Z7 (Z2 x1.av) 0 x1.args.length).length:Nat))
  refine ir 1 [(0,.val v),(1,.i ((((((z+1)+1)+1)+1)+((Z7 (Z2 x1.av) 0 x1.args.length).length:Nat))+((Z7 (Z2 x1.jv) 0 x1.jumps.length).length:Nat))),(5,.i k)] (ie (az (Z0 1 (.n 10 (.i k) .r) (ia (((k+1:Nat):Int)) (((k:Int))+(1)) (Z0 1 (.n 5 (.i (k+1:Nat)) (.p (.d (.k (.k .z))))) (ie ?_))))))
  exact ⟨_,_,_,ob,⟨k+1,((((((z+1)+1)+1)+1)+((Z7 (Z2 x1.av) 0 x1.args.length).length:Nat))+((Z7 (Z2 x1.jv) 0 x1.jumps.length).length:Nat)),(wr (wr (upd (upd (upd (upd N (Z2 v,k*6) z) (Z2 v,k*6+1) (z+1)) (Z2 v,k*6+2) ((z+1)+1)) (Z2 v,k*6+3) (((z+1)+1)+1)) (Z7 (Z2 x1.av) 0 x1.args.length) ((((z+1)+1)+1)+1)) (Z7 (Z2 x1.jv) 0 x1.jumps.length) (((((z+1)+1)+1)+1)+((Z7 (Z2 x1.av) 0 x1.args.length).length:Nat))),ob,ob,ob,kp,(Z06 c0_4 hdr Y18 om),rfl,rfl,rfl⟩,(wk [0] (fw (fc (x:=.i (k+1:Nat)) li fl)))⟩
 have he:(Xi (Z2 v) (k*6) (xs.drop k))=[]:=by rw [Tg om];rfl
 rw [he,Yk] at c0_2
 rw [he,wr] at c0_4
 refine ax 0 (ar (ir 2 [(4,.i z)] (ie ?_)))
 exact Z5 (r2 [0] [.i z] ⟨rfl,rfl⟩ li (eq:=(QX (m:=N) c0_4 rz)))
theorem Zul (S:List Nat) (M:ZK) (v:Value) (xs:List HProc) (q:Int) (hd:Xu S v xs.length:=by exact ob) (hs:K0 M S (Z2 v) 0 xs:=by exact ob) (hq:0<=q/\q+((Xn (Z2 v) 0 xs).length:Nat)<=4000000000000:=by exact ob):Zd Tryz.prog 30 [.val v,.i q] [.own S M] (fun r h=>r=.i (q+((Xn (Z2 v) 0 xs).length:Nat))/\h=[.own S (wr M (Xn (Z2 v) 0 xs) q)]):=by
 have hal:=Z6t (g:=Z2 v) (o:=0) (xs:=xs)
 refine enter Tryz.func30 kr (n:=48) kr kr (ar (ir 1 [(0,.val v),(1,.i q)] (ie (aq (ar (Z0 1 (.n 5 (.i 0) .r) (ie (ab 0 (al (fun m F h=>∃(k:Nat) (z:Int) (N:ZK),(k<=xs.length)/\(0<=z)/\(z+((Xn (Z2 v) (k*5) (xs.drop k)).length:Nat)=q+((Xn (Z2 v) 0 xs).length:Nat))/\(Kp M N)/\(wr N (Xn (Z2 v) (k*5) (xs.drop k)) z=wr M (Xn (Z2 v) 0 xs) q)/\F=[(0,.val v),(1,.i z),(5,.i k)]/\h=[.own S N]/\m=xs.length-k) _ _ _ ⟨0,q,M,ob,ob,(by simp),(Kp.refl M),(by simp),rfl,rfl,rfl⟩ (wk [0] (fw (fc (x:=.i 0) li fl))) ?_)))))))))
 rintro m F h ⟨k,z,N,c0_0,c0_1,c0_2,c0_3,c0_4,rfl,rfl,rfl⟩
 refine aq (ar (Z0 2 (.n 6 (.i k) (.n 7 (.val v) .r)) (Zf (Tz S v xs.length hd) (Z0 1 (.n 9 (.b (decide ((k:Int)<(xs.length:Int)))) .r) (ie (ac (decide ((k:Int)<(xs.length:Int))) dq (fun hc1=>?_) (fun hc1=>?_)))))))
 ·have hb:=hd.blk (i:=k) om
  obtain ⟨x1,hx1⟩:=Zl (xs:=xs) (j:=k) om
  have e1:=Zal hs hx1
  rw [XQ] at e1
  obtain ⟨⟨⟨a0,d0⟩,s0⟩,⟨⟨a1,d1⟩,s1⟩,⟨i2,i3⟩,⟨⟨a4,d4⟩,s4⟩⟩:=e1
  have hdr:=Zc5 (g:=Z2 v) hx1
  have hln:=Z59 (g:=Z2 v) (o:=k*5) (r:=x1)
  have hl0:=Y1 List.length hdr
  rw [ZC,hln] at hl0
  have kp:=c0_3
  refine ak (aq (ab 1 (ar (Z0 2 (.n 12 (.val v) (.n 13 (.i k) .r)) (Zf (X5 S v xs.length k 5 (k:Int) hd) (Z0 1 (.n 15 (.val (.pointer (some ⟨Z2 v,k*5,none⟩))) .r) ?_))))))
  have t0:V1 N (Z2 x1.pv) x1.params.length:=fun i hi=>kp.i (s0 i hi)
  refine YR (Wj 0 S N (Z2 v) (k*5) x1.pv hb.1 (kp.h a0 d0.ni)) (Z0 1 (.n 17 (.i z) .r) (ic [0] (J4 S N x1.pv x1.params z) ?_))
  rintro _ _ ⟨rfl,rfl⟩
  have kp:=kp.wr (UZ s0) z
  refine ir 1 [(0,.val v),(1,.i (z+((Z7 (Z2 x1.pv) 0 x1.params.length).length:Nat))),(5,.i k)] (ie (ar (Z0 2 (.n 19 (.val v) (.n 20 (.i k) .r)) (Zf (X5 S v xs.length k 5 (k:Int) hd) (Z0 1 (.n 22 (.val (.pointer (some ⟨Z2 v,k*5+1,none⟩))) .r) ?_)))))
  have t1:V1 (wr N (Z7 (Z2 x1.pv) 0 x1.params.length) z) (Z2 x1.lv) x1.lent.length:=fun i hi=>kp.i (s1 i hi)
  refine YR (Wj 0 S (wr N (Z7 (Z2 x1.pv) 0 x1.params.length) z) (Z2 v) (k*5+1) x1.lv hb.1 (kp.h a1 d1.ni)) (Z0 1 (.n 24 (.i (z+((Z7 (Z2 x1.pv) 0 x1.params.length).length:Nat))) .r) (ic [0] (J4 S (wr N (Z7 (Z2 x1.pv) 0 x1.params.length) z) x1.lv x1.lent (z+((Z7 (Z2 x1.pv) 0 x1.params.length).length:Nat))) ?_))
  rintro _ _ ⟨rfl,rfl⟩
  have kp:=kp.wr (UZ s1) (z+((Z7 (Z2 x1.pv) 0 x1.params.length).length:Nat))
  refine ir 1 [(0,.val v),(1,.i ((z+((Z7 (Z2 x1.pv) 0 x1.params.length).length:Nat))+((Z7 (Z2 x1.lv) 0 x1.lent.length).length:Nat))),(5,.i k)] (ie (ar (Z0 3 (.n 26 (.val v) (.n 27 (.i k) (.n 28 (.i ((z+((Z7 (Z2 x1.pv) 0 x1.params.length).length:Nat))+((Z7 (Z2 x1.lv) 0 x1.lent.length).length:Nat))) .r))) (Zf (X5 S v xs.length k 5 (k:Int) hd) (Z0 1 (.n 30 (.val (.pointer (some ⟨Z2 v,k*5+2,none⟩))) .r) (UM 0 S (wr (wr N (Z7 (Z2 x1.pv) 0 x1.params.length) z) (Z7 (Z2 x1.lv) 0 x1.lent.length) (z+((Z7 (Z2 x1.pv) 0 x1.params.length).length:Nat))) (Z2 v) (k*5+2) ((z+((Z7 (Z2 x1.pv) 0 x1.params.length).length:Nat))+((Z7 (Z2 x1.lv) 0 x1.lent.length).length:Nat)) hb.1 (kp.i i2) ?_))))))
  have kp:=kp.upd i2 ((z+((Z7 (Z2 x1.pv) 0 x1.params.length).length:Nat))+((Z7 (Z2 x1.lv) 0 x1.lent.length).length:Nat))
  refine ie (ar (Z0 1 (.n 31 (.i ((z+((Z7 (Z2 x1.pv) 0 x1.params.length).length:Nat))+((Z7 (Z2 x1.lv) 0 x1.lent.length).length:Nat))) .r) (ia ((((z+((Z7 (Z2 x1.pv) 0 x1.params.length).length:Nat))+((Z7 (Z2 x1.lv) 0 x1.lent.length).length:Nat))+1)) ((((z+((Z7 (Z2 x1.pv) 0 x1.params.length).length:Nat))+((Z7 (Z2 x1.lv) 0 x1.lent.length).length:Nat)))+(1)) (ir 1 [(0,.val v),(1,.i (((z+((Z7 (Z2 x1.pv) 0 x1.params.length).length:Nat))+((Z7 (Z2 x1.lv) 0 x1.lent.length).length:Nat))+1)),(5,.i k)] (ie (ar (Z0 3 (.n 33 (.val v) (.n 34 (.i k) (.n 35 (.i (((z+((Z7 (Z2 x1.pv) 0 x1.params.length).length:Nat))+((Z7 (Z2 x1.lv) 0 x1.lent.length).length:Nat))+1)) .r))) (Zf (X5 S v xs.length k 5 (k:Int) hd) (Z0 1 (.n 37 (.val (.pointer (some ⟨Z2 v,k*5+3,none⟩))) .r) (UM 0 S (upd (wr (wr N (Z7 (Z2 x1.pv) 0 x1.params.length) z) (Z7 (Z2 x1.lv) 0 x1.lent.length) (z+((Z7 (Z2 x1.pv) 0 x1.params.length).length:Nat))) (Z2 v,k*5+2) ((z+((Z7 (Z2 x1.pv) 0 x1.params.length).length:Nat))+((Z7 (Z2 x1.lv) 0 x1.lent.length).length:Nat))) (Z2 v) (k*5+3) (((z+((Z7 (Z2 x1.pv) 0 x1.params.length).length:Nat))+((Z7 (Z2 x1.lv) 0 x1.lent.length).length:Nat))+1) hb.1 (kp.i i3) ?_))))))))))
  have kp:=kp.upd i3 (((z+((Z7 (Z2 x1.pv) 0 x1.params.length).length:Nat))+((Z7 (Z2 x1.lv) 0 x1.lent.length).length:Nat))+1)
  refine ie (ar (Z0 1 (.n 38 (.i (((z+((Z7 (Z2 x1.pv) 0 x1.params.length).length:Nat))+((Z7 (Z2 x1.lv) 0 x1.lent.length).length:Nat))+1)) .r) (ia (((((z+((Z7 (Z2 x1.pv) 0 x1.params.length).length:Nat))+((Z7 (Z2 x1.lv) 0 x1.lent.length).length:Nat))+1)+1)) (((((z+((Z7 (Z2 x1.pv) 0 x1.params.length).length:Nat))+((Z7 (Z2 x1.lv) 0 x1.lent.length).length:Nat))+1))+(1)) (ir 1 [(0,.val v),(1,.i ((((z+((Z7 (Z2 x1.pv) 0 x1.params.length).length:Nat))+((Z7 (Z2 x1.lv) 0 x1.lent.length).length:Nat))+1)+1)),(5,.i k)] (ie (az (Z0 2 (.n 40 (.val v) (.n 41 (.i k) .r)) (Zf (X5 S v xs.length k 5 (k:Int) hd) (Z0 1 (.n 43 (.val (.pointer (some ⟨Z2 v,k*5+4,none⟩))) .r) ?_)))))))))
  have t4:Qx (upd (upd (wr (wr N (Z7 (Z2 x1.pv) 0 x1.params.length) z) (Z7 (Z2 x1.lv) 0 x1.lent.length) (z+((Z7 (Z2 x1.pv) 0 x1.params.length).length:Nat))) (Z2 v,k*5+2) ((z+((Z7 (Z2 x1.pv) 0 x1.params.length).length:Nat))+((Z7 (Z2 x1.lv) 0 x1.lent.length).length:Nat))) (Z2 v,k*5+3) (((z+((Z7 (Z2 x1.pv) 0 x1.params.length).length:Nat))+((Z7 (Z2 x1.lv) 0 x1.lent.length).length:Nat))+1)) S (Z2 x1.cv) 0 x1.code:=Zak kp s4
  refine YR (Wj 0 S (upd (upd (wr (wr N (Z7 (Z2 x1.pv) 0 x1.params.length) z) (Z7 (Z2 x1.lv) 0 x1.lent.length) (z+((Z7 (Z2 x1.pv) 0 x1.params.length).length:Nat))) (Z2 v,k*5+2) ((z+((Z7 (Z2 x1.pv) 0 x1.params.length).length:Nat))+((Z7 (Z2 x1.lv) 0 x1.lent.length).length:Nat))) (Z2 v,k*5+3) (((z+((Z7 (Z2 x1.pv) 0 x1.params.length).length:Nat))+((Z7 (Z2 x1.lv) 0 x1.lent.length).length:Nat))+1)) (Z2 v) (k*5+4) x1.cv hb.1 (kp.h a4 d4.ni)) (Z0 1 (.n 45 (.i ((((z+((Z7 (Z2 x1.pv) 0 x1.params.length).length:Nat))+((Z7 (Z2 x1.lv) 0 x1.lent.length).length:Nat))+1)+1)) .r) (ic [0] (Zuj S (upd (upd (wr (wr N (Z7 (Z2 x1.pv) 0 x1.params.length) z) (Z7 (Z2 x1.lv) 0 x1.lent.length) (z+((Z7 (Z2 x1.pv) 0 x1.params.length).length:Nat))) (Z2 v,k*5+2) ((z+((Z7 (Z2 x1.pv) 0 x1.params.length).length:Nat))+((Z7 (Z2 x1.lv) 0 x1.lent.length).length:Nat))) (Z2 v,k*5+3) (((z+((Z7 (Z2 x1.pv) 0 x1.params.length).length:Nat))+((Z7 (Z2 x1.lv) 0 x1.lent.length).length:Nat))+1)) x1.cv x1.code ((((z+((Z7 (Z2 x1.pv) 0 x1.params.length).length:Nat))+((Z7 (Z2 x1.lv) 0 x1.lent.length).length:Nat))+1)+1)) ?_))
  rintro _ _ ⟨rfl,rfl⟩
  have kp:=kp.wr (Z6s s4) ((((z+((Z7 (Z2 x1.pv) 0 x1.params.length).length:Nat))+((Z7 (Z2 x1.lv) 0 x1.lent.length).length:Nat))+1)+1)
  refine ir 1 [(0,.val v),(1,.i (((((z+((Z7 (Z2 x1.pv) 0 x1.params.length).length:Nat))+((Z7 (Z2 x1.lv) 0 x1.lent.length).length:Nat))+1)+1)+((Xi (Z2 x1.cv) 0 x1.code).length:Nat))),(5,.i k)] (ie (az (Z0 1 (.n 10 (.i k) .r) (ia (((k+1:Nat):Int)) (((k:Int))+(1)) (Z0 1 (.n 5 (.i (k+1:Nat)) (.p (.d (.k (.k .z))))) (ie ?_))))))
  exact ⟨_,_,_,ob,⟨k+1,(((((z+((Z7 (Z2 x1.pv) 0 x1.params.length).length:Nat))+((Z7 (Z2 x1.lv) 0 x1.lent.length).length:Nat))+1)+1)+((Xi (Z2 x1.cv) 0 x1.code).length:Nat)),(wr (upd (upd (wr (wr N (Z7 (Z2 x1.pv) 0 x1.params.length) z) (Z7 (Z2 x1.lv) 0 x1.lent.length) (z+((Z7 (Z2 x1.pv) 0 x1.params.length).length:Nat))) (Z2 v,k*5+2) ((z+((Z7 (Z2 x1.pv) 0 x1.params.length).length:Nat))+((Z7 (Z2 x1.lv) 0 x1.lent.length).length:Nat))) (Z2 v,k*5+3) (((z+((Z7 (Z2 x1.pv) 0 x1.params.length).length:Nat))+((Z7 (Z2 x1.lv) 0 x1.lent.length).length:Nat))+1)) (Xi (Z2 x1.cv) 0 x1.code) ((((z+((Z7 (Z2 x1.pv) 0 x1.params.length).length:Nat))+((Z7 (Z2 x1.lv) 0 x1.lent.length).length:Nat))+1)+1)),ob,ob,ob,kp,(Z06 c0_4 hdr Y1a om),rfl,rfl,rfl⟩,(wk [0] (fw (fc (x:=.i (k+1:Nat)) li fl)))⟩
 have he:(Xn (Z2 v) (k*5) (xs.drop k))=[]:=by rw [Tg om];rfl
 rw [he,Yk] at c0_2
 rw [he,wr] at c0_4
 refine ax 0 (ar (ir 2 [(4,.i z)] (ie ?_)))
 exact Z5 (r2 [0] [.i z] ⟨rfl,rfl⟩ li (eq:=(QX (m:=N) c0_4 rz)))
theorem Zui (S:List Nat) (M:ZK) (y:HImage) (q:Int) (hs:TE M S y:=by exact ob) (hl:∀d∈y.decls,d.cons.length<=4000000000000) (hq:0<=q/\q+((Xd y).length:Nat)<=4000000000000:=by exact ob):Zd Tryz.prog 11 [.agg [.val y.dv,.val y.pv],.i q] [.own S M] (fun r h=>r=.i (q+((Xd y).length:Nat))/\h=[.own S (wr M (Xd y) q)]):=by
 obtain ⟨⟨d0,s0⟩,⟨d1,s1⟩⟩:=hs
 have hln:=Z96 (y:=y)
 have kp:=Kp.refl M
 refine enter Tryz.func11 kr (n:=14) kr kr (ar (iA [.val y.dv,.val y.pv] ?_))
 intro b1
 refine ir 1 [(1,.i q),(2,.p b1 0)] (ie (ar (Za 3 (.n 6 (.val y.dv) (.n 7 (.i q) .r)) [0] [b1] (ic [1] (Zh8 S M y.dv y.decls q (hl:=ob)) ?_))))
 rintro _ _ ⟨rfl,rfl⟩
 have kp:=kp.wr (Z3s s0) q
 have t1:=Zam kp s1
 refine ir 1 [(1,.i (q+((Ym (Z2 y.dv) 0 y.decls).length:Nat))),(2,.p b1 0)] (ie (ar (iR 3 [(10,.val y.pv),(11,.i (q+((Ym (Z2 y.dv) 0 y.decls).length:Nat)))] [1] [b1] (ic [0] (Zul S (wr M (Ym (Z2 y.dv) 0 y.decls) q) y.pv y.procs (q+((Ym (Z2 y.dv) 0 y.decls).length:Nat))) ?_))))
 rintro _ _ ⟨rfl,rfl⟩
 refine ir 1 [(1,.i ((q+((Ym (Z2 y.dv) 0 y.decls).length:Nat))+((Xn (Z2 y.pv) 0 y.procs).length:Nat)))] (ie (ar (ir 2 [(4,.i ((q+((Ym (Z2 y.dv) 0 y.decls).length:Nat))+((Xn (Z2 y.pv) 0 y.procs).length:Nat)))] (ie ?_))))
 exact Z5 (r2 [0] [.i ((q+((Ym (Z2 y.dv) 0 y.decls).length:Nat))+((Xn (Z2 y.pv) 0 y.procs).length:Nat))] ⟨rfl,rfl⟩ li (eq:=(QX (m:=(wr (wr M (Ym (Z2 y.dv) 0 y.decls) q) (Xn (Z2 y.pv) 0 y.procs) (q+((Ym (Z2 y.dv) 0 y.decls).length:Nat)))) Y17 rz)))
theorem Zqx (S:List Nat) (M:ZK) (v:Value) (xs:List HInstr) (q:Int) (hd:Xu S v xs.length:=by exact ob) (hs:Qx M S (Z2 v) 0 xs:=by exact ob) (hh:YQ M (Xi (Z2 v) 0 xs) q:=by exact ob) (hq:0<=q/\q+((Xi (Z2 v) 0 xs).length:Nat)<=4000000000000:=by exact ob):Zd Tryz.prog 64 [.val v,.i q] [.own S M] (fun r h=>r=.i (q+((Xi (Z2 v) 0 xs).length:Nat))/\h=[.own S M]):=by
 have hal:=Z6r (g:=Z2 v) (o:=0) (xs:=xs)
 refine enter Tryz.func64 kr (n:=67) kr kr (ar (ir 1 [(0,.val v),(1,.i q)] (ie (aq (ar (Z0 1 (.n 5 (.i 0) .r) (ie (ab 0 (al (fun m F h=>∃(k:Nat) (z:Int),(k<=xs.length)/\(0<=z)/\(z+((Xi (Z2 v) (k*6) (xs.drop k)).length:Nat)=q+((Xi (Z2 v) 0 xs).length:Nat))/\(YQ M (Xi (Z2 v) (k*6) (xs.drop k)) z)/\F=[(0,.val v),(1,.i z),(5,.i k)]/\h=[.own S M]/\m=xs.length-k) _ _ _ ⟨0,q,ob,ob,(by simp),(by simpa using hh),rfl,rfl,rfl⟩ (wk [0] (fw (fc (x:=.i 0) li fl))) ?_)))))))))
 rintro m F h ⟨k,z,c0_0,c0_1,c0_2,c0_3,rfl,rfl,rfl⟩
 refine aq (ar (Z0 2 (.n 6 (.i k) (.n 7 (.val v) .r)) (Zf (Tz S v xs.length hd) (Z0 1 (.n 9 (.b (decide ((k:Int)<(xs.length:Int)))) .r) (ie (ac (decide ((k:Int)<(xs.length:Int))) dq (fun hc1=>?_) (fun hc1=>?_)))))))
 ·have hb:=hd.blk (i:=k) om
  obtain ⟨x1,hx1⟩:=Zl (xs:=xs) (j:=k) om
  have e1:=Zaj hs hx1
  rw [XQ] at e1
  obtain ⟨⟨i0,i1,i2,i3⟩,⟨⟨a4,d4⟩,s4⟩,⟨⟨a5,d5⟩,s5⟩⟩:=e1
  have hdr:=Zc2 (g:=Z2 v) hx1
  have hln:=Z58 (g:=Z2 v) (o:=k*6) (s:=x1)
  have hl0:=Y1 List.length hdr
  rw [ZC,hln] at hl0
  rw [hdr] at c0_3
  obtain ⟨hA,hR⟩:=(Kq _ _ _ _).1 c0_3
  obtain ⟨h0,h1,h2,h3,h4,h5⟩:=Zr1 hA
  refine ak (aq (ab 1 (aq (ar (Z0 2 (.n 12 (.val v) (.n 13 (.i k) .r)) (Zf (X5 S v xs.length k 6 (k:Int) hd) (Z0 1 (.n 15 (.val (.pointer (some ⟨Z2 v,k*6,none⟩))) .r) (YR (Wj 0 S M (Z2 v) (k*6) (.int .i64 z) hb.1 h0) (Z0 2 (.n 18 (.b (z != z)) .r) (ie (ac (z != z) Zw (fun hc2=>?_) (fun hc2=>?_))))))))))))
  ·refine ar (ir 1 [(4,.i (-1))] (ie ?_))
   exact Z5 (r2 [0] [.i (-1)] ⟨rfl,rfl⟩ li)
  refine ak (ar (Z0 1 (.n 19 (.i z) .r) (ia ((z+1)) ((z)+(1)) (ir 1 [(0,.val v),(1,.i (z+1)),(5,.i k)] (ie (aq (ar (Z0 2 (.n 21 (.val v) (.n 22 (.i k) .r)) (Zf (X5 S v xs.length k 6 (k:Int) hd) (Z0 1 (.n 24 (.val (.pointer (some ⟨Z2 v,k*6+1,none⟩))) .r) (YR (Wj 0 S M (Z2 v) (k*6+1) (.int .i64 (z+1)) hb.1 h1) (Z0 2 (.n 27 (.b ((z+1) != (z+1))) .r) (ie (ac ((z+1) != (z+1)) Zw (fun hc3=>?_) (fun hc3=>?_)))))))))))))))
  ·refine ar (ir 1 [(4,.i (-1))] (ie ?_))
   exact Z5 (r2 [0] [.i (-1)] ⟨rfl,rfl⟩ li)
  refine ak (ar (Z0 1 (.n 28 (.i (z+1)) .r) (ia (((z+1)+1)) (((z+1))+(1)) (ir 1 [(0,.val v),(1,.i ((z+1)+1)),(5,.i k)] (ie (aq (ar (Z0 2 (.n 30 (.val v) (.n 31 (.i k) .r)) (Zf (X5 S v xs.length k 6 (k:Int) hd) (Z0 1 (.n 33 (.val (.pointer (some ⟨Z2 v,k*6+2,none⟩))) .r) (YR (Wj 0 S M (Z2 v) (k*6+2) (.int .i64 ((z+1)+1)) hb.1 h2) (Z0 2 (.n 36 (.b (((z+1)+1) != ((z+1)+1))) .r) (ie (ac (((z+1)+1) != ((z+1)+1)) Zw (fun hc4=>?_) (fun hc4=>?_)))))))))))))))
  ·refine ar (ir 1 [(4,.i (-1))] (ie ?_))
   exact Z5 (r2 [0] [.i (-1)] ⟨rfl,rfl⟩ li)
  refine ak (ar (Z0 1 (.n 37 (.i ((z+1)+1)) .r) (ia ((((z+1)+1)+1)) ((((z+1)+1))+(1)) (ir 1 [(0,.val v),(1,.i (((z+1)+1)+1)),(5,.i k)] (ie (aq (ar (Z0 2 (.n 39 (.val v) (.n 40 (.i k) .r)) (Zf (X5 S v xs.length k 6 (k:Int) hd) (Z0 1 (.n 42 (.val (.pointer (some ⟨Z2 v,k*6+3,none⟩))) .r) (YR (Wj 0 S M (Z2 v) (k*6+3) (.int .i64 (((z+1)+1)+1)) hb.1 h3) (Z0 2 (.n 45 (.b ((((z+1)+1)+1) != (((z+1)+1)+1))) .r) (ie (ac ((((z+1)+1)+1) != (((z+1)+1)+1)) Zw (fun hc5=>?_) (fun hc5=>?_)))))))))))))))
  ·refine ar (ir 1 [(4,.i (-1))] (ie ?_))
   exact Z5 (r2 [0] [.i (-1)] ⟨rfl,rfl⟩ li)
  refine ak (ar (Z0 1 (.n 46 (.i (((z+1)+1)+1)) .r) (ia (((((z+1)+1)+1)+1)) (((((z+1)+1)+1))+(1)) (ir 1 [(0,.val v),(1,.i ((((z+1)+1)+1)+1)),(5,.i k)] (ie (ar (Z0 2 (.n 48 (.val v) (.n 49 (.i k) .r)) (Zf (X5 S v xs.length k 6 (k:Int) hd) (Z0 1 (.n 51 (.val (.pointer (some ⟨Z2 v,k*6+4,none⟩))) .r) (YR (Wj 0 S M (Z2 v) (k*6+4) x1.av hb.1 a4) (Z0 1 (.n 53 (.i ((((z+1)+1)+1)+1)) .r) (ic [0] (Z2h S M x1.av x1.args ((((z+1)+1)+1)+1)) ?_))))))))))))
  rintro _ _ ⟨rfl,rfl⟩
  refine ir 1 [(0,.val v),(1,.i (((((z+1)+1)+1)+1)+((Z7 (Z2 x1.av) 0 x1.args.length).length:Nat))),(5,.i k)] (ie (aq (ar (Z0 2 (.n 56 (.b (decide ((((((z+1)+1)+1)+1)+((Z7 (Z2 x1.av) 0 x1.args.length).length:Nat))<0))) .r) (ie (ac (decide ((((((z+1)+1)+1)+1)+((Z7 (Z2 x1.av) 0 x1.args.length).length:Nat))<0)) dq (fun hc6=>?_) (fun hc6=>?_)))))))
  ·refine ar (ir 1 [(4,.i (-1))] (ie ?_))
   exact Z5 (r2 [0] [.i (-1)] ⟨rfl,rfl⟩ li)
  refine ak (ar (Z0 2 (.n 57 (.val v) (.n 58 (.i k) .r)) (Zf (X5 S v xs.length k 6 (k:Int) hd) (Z0 1 (.n 60 (.val (.pointer (some ⟨Z2 v,k*6+5,none⟩))) .r) (YR (Wj 0 S M (Z2 v) (k*6+5) x1.jv hb.1 a5) (Z0 1 (.n 62 (.i (((((z+1)+1)+1)+1)+((Z7 (Z2 x1.av) 0 x1.args.length).length:Nat))) .r) (ic [0] (Z2h S M x1.jv x1.jumps (((((z+1)+1)+1)+1)+((Z7 (Z2 x1.av) 0 x1.args.length).length:Nat))) ?_)))))))
  rintro _ _ ⟨rfl,rfl⟩
  refine ir 1 [(0,.val v),(1,.i ((((((z+1)+1)+1)+1)+((Z7 (Z2 x1.av) 0 x1.args.length).length:Nat))+((Z7 (Z2 x1.jv) 0 x1.jumps.length).length:Nat))),(5,.i k)] (ie (ar (Z0 2 (.n 65 (.b (decide (((((((z+1)+1)+1)+1)+((Z7 (Z2 x1.av) 0 x1.args.length).length:Nat))+((Z7 (Z2 x1.jv) 0 x1.jumps.length).length:Nat))<0))) .r) (ie (ac (decide (((((((z+1)+1)+1)+1)+((Z7 (Z2 x1.av) 0 x1.args.length).length:Nat))+((Z7 (Z2 x1.jv) 0 x1.jumps.length).length:Nat))<0)) dq (fun hc7=>?_) (fun hc7=>?_))))))
  ·refine ar (ir 1 [(4,.i (-1))] (ie ?_))
   exact Z5 (r2 [0] [.i (-1)] ⟨rfl,rfl⟩ li)
  refine ak (az (Z0 1 (.n 10 (.i k) .r) (ia (((k+1:Nat):Int)) (((k:Int))+(1)) (Z0 1 (.n 5 (.i (k+1:Nat)) (.p (.d (.d (.k (.k .z)))))) (ie ?_)))))
  exact ⟨_,_,_,ob,⟨k+1,((((((z+1)+1)+1)+1)+((Z7 (Z2 x1.av) 0 x1.args.length).length:Nat))+((Z7 (Z2 x1.jv) 0 x1.jumps.length).length:Nat)),ob,ob,ob,(Z4t hR om),rfl,rfl,rfl⟩,(wk [0] (fw (fc (x:=.i (k+1:Nat)) li fl)))⟩
 have he:(Xi (Z2 v) (k*6) (xs.drop k))=[]:=by rw [Tg om];rfl
 rw [he,Yk] at c0_2
 refine ax 0 (ar (ir 2 [(4,.i z)] (ie ?_)))
 exact Z5 (r2 [0] [.i z] ⟨rfl,rfl⟩ li)
theorem Zqy (S:List Nat) (M:ZK) (v:Value) (xs:List HProc) (q:Int) (hd:Xu S v xs.length:=by exact ob) (hs:K0 M S (Z2 v) 0 xs:=by exact ob) (hh:YQ M (Xn (Z2 v) 0 xs) q:=by exact ob) (hq:0<=q/\q+((Xn (Z2 v) 0 xs).length:Nat)<=4000000000000:=by exact ob):Zd Tryz.prog 32 [.val v,.i q] [.own S M] (fun r h=>r=.i (q+((Xn (Z2 v) 0 xs).length:Nat))/\h=[.own S M]):=by
 have hal:=Z6t (g:=Z2 v) (o:=0) (xs:=xs)
 refine enter Tryz.func32 kr (n:=58) kr kr (ar (ir 1 [(0,.val v),(1,.i q)] (ie (aq (ar (Z0 1 (.n 5 (.i 0) .r) (ie (ab 0 (al (fun m F h=>∃(k:Nat) (z:Int),(k<=xs.length)/\(0<=z)/\(z+((Xn (Z2 v) (k*5) (xs.drop k)).length:Nat)=q+((Xn (Z2 v) 0 xs).length:Nat))/\(YQ M (Xn (Z2 v) (k*5) (xs.drop k)) z)/\F=[(0,.val v),(1,.i z),(5,.i k)]/\h=[.own S M]/\m=xs.length-k) _ _ _ ⟨0,q,ob,ob,(by simp),(by simpa using hh),rfl,rfl,rfl⟩ (wk [0] (fw (fc (x:=.i 0) li fl))) ?_)))))))))
 rintro m F h ⟨k,z,c0_0,c0_1,c0_2,c0_3,rfl,rfl,rfl⟩
 refine aq (ar (Z0 2 (.n 6 (.i k) (.n 7 (.val v) .r)) (Zf (Tz S v xs.length hd) (Z0 1 (.n 9 (.b (decide ((k:Int)<(xs.length:Int)))) .r) (ie (ac (decide ((k:Int)<(xs.length:Int))) dq (fun hc1=>?_) (fun hc1=>?_)))))))
 ·have hb:=hd.blk (i:=k) om
  obtain ⟨x1,hx1⟩:=Zl (xs:=xs) (j:=k) om
  have e1:=Zal hs hx1
  rw [XQ] at e1
  obtain ⟨⟨⟨a0,d0⟩,s0⟩,⟨⟨a1,d1⟩,s1⟩,⟨i2,i3⟩,⟨⟨a4,d4⟩,s4⟩⟩:=e1
  have hdr:=Zc5 (g:=Z2 v) hx1
  have hln:=Z59 (g:=Z2 v) (o:=k*5) (r:=x1)
  have hl0:=Y1 List.length hdr
  rw [ZC,hln] at hl0
  rw [hdr] at c0_3
  obtain ⟨hA,hR⟩:=(Kq _ _ _ _).1 c0_3
  obtain ⟨h0,h1,h2,h3,h4⟩:=Zr2 hA
  refine ak (aq (ab 1 (ar (Z0 2 (.n 12 (.val v) (.n 13 (.i k) .r)) (Zf (X5 S v xs.length k 5 (k:Int) hd) (Z0 1 (.n 15 (.val (.pointer (some ⟨Z2 v,k*5,none⟩))) .r) (YR (Wj 0 S M (Z2 v) (k*5) x1.pv hb.1 a0) (Z0 1 (.n 17 (.i z) .r) (ic [0] (Z2h S M x1.pv x1.params z) ?_)))))))))
  rintro _ _ ⟨rfl,rfl⟩
  refine ir 1 [(0,.val v),(1,.i (z+((Z7 (Z2 x1.pv) 0 x1.params.length).length:Nat))),(5,.i k)] (ie (aq (ar (Z0 2 (.n 20 (.b (decide ((z+((Z7 (Z2 x1.pv) 0 x1.params.length).length:Nat))<0))) .r) (ie (ac (decide ((z+((Z7 (Z2 x1.pv) 0 x1.params.length).length:Nat))<0)) dq (fun hc2=>?_) (fun hc2=>?_)))))))
  ·refine ar (ir 1 [(4,.i (-1))] (ie ?_))
   exact Z5 (r2 [0] [.i (-1)] ⟨rfl,rfl⟩ li)
  refine ak (ar (Z0 2 (.n 21 (.val v) (.n 22 (.i k) .r)) (Zf (X5 S v xs.length k 5 (k:Int) hd) (Z0 1 (.n 24 (.val (.pointer (some ⟨Z2 v,k*5+1,none⟩))) .r) (YR (Wj 0 S M (Z2 v) (k*5+1) x1.lv hb.1 a1) (Z0 1 (.n 26 (.i (z+((Z7 (Z2 x1.pv) 0 x1.params.length).length:Nat))) .r) (ic [0] (Z2h S M x1.lv x1.lent (z+((Z7 (Z2 x1.pv) 0 x1.params.length).length:Nat))) ?_)))))))
  rintro _ _ ⟨rfl,rfl⟩
  refine ir 1 [(0,.val v),(1,.i ((z+((Z7 (Z2 x1.pv) 0 x1.params.length).length:Nat))+((Z7 (Z2 x1.lv) 0 x1.lent.length).length:Nat))),(5,.i k)] (ie (aq (ar (Z0 2 (.n 29 (.b (decide (((z+((Z7 (Z2 x1.pv) 0 x1.params.length).length:Nat))+((Z7 (Z2 x1.lv) 0 x1.lent.length).length:Nat))<0))) .r) (ie (ac (decide (((z+((Z7 (Z2 x1.pv) 0 x1.params.length).length:Nat))+((Z7 (Z2 x1.lv) 0 x1.lent.length).length:Nat))<0)) dq (fun hc3=>?_) (fun hc3=>?_)))))))
  ·refine ar (ir 1 [(4,.i (-1))] (ie ?_))
   exact Z5 (r2 [0] [.i (-1)] ⟨rfl,rfl⟩ li)
  refine ak (aq (ar (Z0 2 (.n 30 (.val v) (.n 31 (.i k) .r)) (Zf (X5 S v xs.length k 5 (k:Int) hd) (Z0 1 (.n 33 (.val (.pointer (some ⟨Z2 v,k*5+2,none⟩))) .r) (YR (Wj 0 S M (Z2 v) (k*5+2) (.int .i64 ((z+((Z7 (Z2 x1.pv) 0 x1.params.length).length:Nat))+((Z7 (Z2 x1.lv) 0 x1.lent.length).length:Nat))) hb.1 h2) (Z0 2 (.n 36 (.b (((z+((Z7 (Z2 x1.pv) 0 x1.params.length).length:Nat))+((Z7 (Z2 x1.lv) 0 x1.lent.length).length:Nat)) != ((z+((Z7 (Z2 x1.pv) 0 x1.params.length).length:Nat))+((Z7 (Z2 x1.lv) 0 x1.lent.length).length:Nat)))) .r) (ie (ac (((z+((Z7 (Z2 x1.pv) 0 x1.params.length).length:Nat))+((Z7 (Z2 x1.lv) 0 x1.lent.length).length:Nat)) != ((z+((Z7 (Z2 x1.pv) 0 x1.params.length).length:Nat))+((Z7 (Z2 x1.lv) 0 x1.lent.length).length:Nat))) Zw (fun hc4=>?_) (fun hc4=>?_))))))))))
  ·refine ar (ir 1 [(4,.i (-1))] (ie ?_))
   exact Z5 (r2 [0] [.i (-1)] ⟨rfl,rfl⟩ li)
  refine ak (ar (Z0 1 (.n 37 (.i ((z+((Z7 (Z2 x1.pv) 0 x1.params.length).length:Nat))+((Z7 (Z2 x1.lv) 0 x1.lent.length).length:Nat))) .r) (ia ((((z+((Z7 (Z2 x1.pv) 0 x1.params.length).length:Nat))+((Z7 (Z2 x1.lv) 0 x1.lent.length).length:Nat))+1)) ((((z+((Z7 (Z2 x1.pv) 0 x1.params.length).length:Nat))+((Z7 (Z2 x1.lv) 0 x1.lent.length).length:Nat)))+(1)) (ir 1 [(0,.val v),(1,.i (((z+((Z7 (Z2 x1.pv) 0 x1.params.length).length:Nat))+((Z7 (Z2 x1.lv) 0 x1.lent.length).length:Nat))+1)),(5,.i k)] (ie (aq (ar (Z0 2 (.n 39 (.val v) (.n 40 (.i k) .r)) (Zf (X5 S v xs.length k 5 (k:Int) hd) (Z0 1 (.n 42 (.val (.pointer (some ⟨Z2 v,k*5+3,none⟩))) .r) (YR (Wj 0 S M (Z2 v) (k*5+3) (.int .i64 (((z+((Z7 (Z2 x1.pv) 0 x1.params.length).length:Nat))+((Z7 (Z2 x1.lv) 0 x1.lent.length).length:Nat))+1)) hb.1 h3) (Z0 2 (.n 45 (.b ((((z+((Z7 (Z2 x1.pv) 0 x1.params.length).length:Nat))+((Z7 (Z2 x1.lv) 0 x1.lent.length).length:Nat))+1) != (((z+((Z7 (Z2 x1.pv) 0 x1.params.length).length:Nat))+((Z7 (Z2 x1.lv) 0 x1.lent.length).length:Nat))+1))) .r) (ie (ac ((((z+((Z7 (Z2 x1.pv) 0 x1.params.length).length:Nat))+((Z7 (Z2 x1.lv) 0 x1.lent.length).length:Nat))+1) != (((z+((Z7 (Z2 x1.pv) 0 x1.params.length).length:Nat))+((Z7 (Z2 x1.lv) 0 x1.lent.length).length:Nat))+1)) Zw (fun hc5=>?_) (fun hc5=>?_)))))))))))))))
  ·refine ar (ir 1 [(4,.i (-1))] (ie ?_))
   exact Z5 (r2 [0] [.i (-1)] ⟨rfl,rfl⟩ li)
  refine ak (ar (Z0 1 (.n 46 (.i (((z+((Z7 (Z2 x1.pv) 0 x1.params.length).length:Nat))+((Z7 (Z2 x1.lv) 0 x1.lent.length).length:Nat))+1)) .r) (ia (((((z+((Z7 (Z2 x1.pv) 0 x1.params.length).length:Nat))+((Z7 (Z2 x1.lv) 0 x1.lent.length).length:Nat))+1)+1)) (((((z+((Z7 (Z2 x1.pv) 0 x1.params.length).length:Nat))+((Z7 (Z2 x1.lv) 0 x1.lent.length).length:Nat))+1))+(1)) (ir 1 [(0,.val v),(1,.i ((((z+((Z7 (Z2 x1.pv) 0 x1.params.length).length:Nat))+((Z7 (Z2 x1.lv) 0 x1.lent.length).length:Nat))+1)+1)),(5,.i k)] (ie (ar (Z0 2 (.n 48 (.val v) (.n 49 (.i k) .r)) (Zf (X5 S v xs.length k 5 (k:Int) hd) (Z0 1 (.n 51 (.val (.pointer (some ⟨Z2 v,k*5+4,none⟩))) .r) (YR (Wj 0 S M (Z2 v) (k*5+4) x1.cv hb.1 a4) (Z0 1 (.n 53 (.i ((((z+((Z7 (Z2 x1.pv) 0 x1.params.length).length:Nat))+((Z7 (Z2 x1.lv) 0 x1.lent.length).length:Nat))+1)+1)) .r) (ic [0] (Zqx S M x1.cv x1.code ((((z+((Z7 (Z2 x1.pv) 0 x1.params.length).length:Nat))+((Z7 (Z2 x1.lv) 0 x1.lent.length).length:Nat))+1)+1)) ?_))))))))))))
  rintro _ _ ⟨rfl,rfl⟩
  refine ir 1 [(0,.val v),(1,.i (((((z+((Z7 (Z2 x1.pv) 0 x1.params.length).length:Nat))+((Z7 (Z2 x1.lv) 0 x1.lent.length).length:Nat))+1)+1)+((Xi (Z2 x1.cv) 0 x1.code).length:Nat))),(5,.i k)] (ie (ar (Z0 2 (.n 56 (.b (decide ((((((z+((Z7 (Z2 x1.pv) 0 x1.params.length).length:Nat))+((Z7 (Z2 x1.lv) 0 x1.lent.length).length:Nat))+1)+1)+((Xi (Z2 x1.cv) 0 x1.code).length:Nat))<0))) .r) (ie (ac (decide ((((((z+((Z7 (Z2 x1.pv) 0 x1.params.length).length:Nat))+((Z7 (Z2 x1.lv) 0 x1.lent.length).length:Nat))+1)+1)+((Xi (Z2 x1.cv) 0 x1.code).length:Nat))<0)) dq (fun hc6=>?_) (fun hc6=>?_))))))
  ·refine ar (ir 1 [(4,.i (-1))] (ie ?_))
   exact Z5 (r2 [0] [.i (-1)] ⟨rfl,rfl⟩ li)
  refine ak (az (Z0 1 (.n 10 (.i k) .r) (ia (((k+1:Nat):Int)) (((k:Int))+(1)) (Z0 1 (.n 5 (.i (k+1:Nat)) (.p (.d (.d (.k (.k .z)))))) (ie ?_)))))
  exact ⟨_,_,_,ob,⟨k+1,(((((z+((Z7 (Z2 x1.pv) 0 x1.params.length).length:Nat))+((Z7 (Z2 x1.lv) 0 x1.lent.length).length:Nat))+1)+1)+((Xi (Z2 x1.cv) 0 x1.code).length:Nat)),ob,ob,ob,(Z4t hR om),rfl,rfl,rfl⟩,(wk [0] (fw (fc (x:=.i (k+1:Nat)) li fl)))⟩
 have he:(Xn (Z2 v) (k*5) (xs.drop k))=[]:=by rw [Tg om];rfl
 rw [he,Yk] at c0_2
 refine ax 0 (ar (ir 2 [(4,.i z)] (ie ?_)))
 exact Z5 (r2 [0] [.i z] ⟨rfl,rfl⟩ li)
theorem Zqw (S:List Nat) (M:ZK) (y:HImage) (q:Int) (hs:TE M S y:=by exact ob) (hl:∀d∈y.decls,d.cons.length<=4000000000000) (hh:YQ M (Xd y) q:=by exact ob) (hq:0<=q/\q+((Xd y).length:Nat)<=4000000000000:=by exact ob):Zd Tryz.prog 12 [.agg [.val y.dv,.val y.pv],.i q] [.own S M] (fun r h=>r=.i (q+((Xd y).length:Nat))/\h=[.own S M]):=by
 obtain ⟨⟨d0,s0⟩,⟨d1,s1⟩⟩:=hs
 have hln:=Z96 (y:=y)
 obtain ⟨h0,h1⟩:=(Kq _ _ _ _).1 (show YQ M (_++_) q from hh)
 refine enter Tryz.func12 kr (n:=18) kr kr (ar (iA [.val y.dv,.val y.pv] ?_))
 intro b1
 refine ir 1 [(1,.i q),(2,.p b1 0)] (ie (ar (Za 3 (.n 6 (.val y.dv) (.n 7 (.i q) .r)) [0] [b1] (ic [1] (Zqv S M y.dv y.decls q (hl:=ob)) ?_))))
 rintro _ _ ⟨rfl,rfl⟩
 refine ir 1 [(1,.i (q+((Ym (Z2 y.dv) 0 y.decls).length:Nat))),(2,.p b1 0)] (ie (aq (ar (Z0 2 (.n 10 (.b (decide ((q+((Ym (Z2 y.dv) 0 y.decls).length:Nat))<0))) .r) (ie (ac (decide ((q+((Ym (Z2 y.dv) 0 y.decls).length:Nat))<0)) dq (fun hc1=>?_) (fun hc1=>?_)))))))
 ·refine ar (ir 1 [(4,.i (-1))] (ie ?_))
  exact Z5 (r2 [0] [.i (-1)] ⟨rfl,rfl⟩ li)
 refine ak (ar (iR 3 [(12,.val y.pv),(13,.i (q+((Ym (Z2 y.dv) 0 y.decls).length:Nat)))] [1] [b1] (ic [0] (Zqy S M y.pv y.procs (q+((Ym (Z2 y.dv) 0 y.decls).length:Nat))) ?_)))
 rintro _ _ ⟨rfl,rfl⟩
 refine ir 1 [(1,.i ((q+((Ym (Z2 y.dv) 0 y.decls).length:Nat))+((Xn (Z2 y.pv) 0 y.procs).length:Nat)))] (ie (aq (ar (Z0 2 (.n 16 (.b (decide (((q+((Ym (Z2 y.dv) 0 y.decls).length:Nat))+((Xn (Z2 y.pv) 0 y.procs).length:Nat))<0))) .r) (ie (ac (decide (((q+((Ym (Z2 y.dv) 0 y.decls).length:Nat))+((Xn (Z2 y.pv) 0 y.procs).length:Nat))<0)) dq (fun hc2=>?_) (fun hc2=>?_)))))))
 ·refine ar (ir 1 [(4,.i (-1))] (ie ?_))
  exact Z5 (r2 [0] [.i (-1)] ⟨rfl,rfl⟩ li)
 refine ak (ar (ir 2 [(4,.i ((q+((Ym (Z2 y.dv) 0 y.decls).length:Nat))+((Xn (Z2 y.pv) 0 y.procs).length:Nat)))] (ie ?_)))
 exact Z5 (r2 [0] [.i ((q+((Ym (Z2 y.dv) 0 y.decls).length:Nat))+((Xn (Z2 y.pv) 0 y.procs).length:Nat))] ⟨rfl,rfl⟩ li)
section
variable {P:Program} {n:Nat} {ops:Array Oper} {B:Fr->List Res->Prop} {k:Nat} {F:Fr} {h:List Res}
theorem Zr4 (j m:Nat) {v:Hd} {kk:Nat} {ls:List AV} (hm:ls.length=m*kk) (h0:0<m) (H:∀g c',v=⟨some ⟨g,0,none⟩,m,c'⟩->SI P n ops B k F h) (hk:0<kk:=by omega) (hj:h[j]? = some (rK v kk ls):=by kernel_rfl):SI P n ops B k F h:=by
 intro Q w G a hF hh hq
 obtain ⟨g,c',e⟩:=Z5j (hh.ok _ (ZV hj)) hm hk h0
 exact H g c' e Q w G a hF hh hq
theorem Zo5 (j m:Nat) {v:Hd} {kk:Nat} {ls:List AV} {T fuel done} (hm:ls.length=m*kk) (h0:0<m) (H:∀g c',v=⟨some ⟨g,0,none⟩,m,c'⟩->Y6 P n ops B T fuel done F h) (hk:0<kk:=by omega) (hj:h[j]? = some (rK v kk ls):=by kernel_rfl):Y6 P n ops B T fuel done F h:=by
 intro Q w G a SL hF hh hQ hcl hcov hq
 obtain ⟨g,c',e⟩:=Z5j (hh.ok _ (ZV hj)) hm hk h0
 exact H g c' e Q w G a SL hF hh hQ hcl hcov hq
end
theorem Y0k {h:List Res}:VT h (rK hN 6 []::h):=Z64
def hI (op dst num into:Int) (args:List Int) (av:Value):HInstr:=⟨op,dst,num,into,args,av,[],.slice none 0 0⟩
theorem Z82 (c:List HInstr) (op dst num into:Int) (args:List Int) (av:Value):VZ (c++[⟨op,dst,num,into,args,av,[],.slice none 0 0⟩])=VZ c++[ZB op dst num into args]:=by rw [Zpv];rfl
def Uf (rg:Int) (c:List HInstr):Prop:=rg=XP 0 (VZ c)
theorem Uf.snoc {rg q:Int} {c:List HInstr} {op dst num into:Int} {args:List Int} {av:Value} (h:Uf rg c) (hq:q=U4 rg (ZB op dst num into args)):Uf q (c++[⟨op,dst,num,into,args,av,[],.slice none 0 0⟩]):=by
 rw [Uf,Z82,Zw4,<-h,hq]
theorem Uf.goto {rg:Int} {c:List HInstr} {i:Nat} {x:HInstr} (h:Uf rg c) (hx:c[i]? = some x):Uf rg (c.set i (x.goto c.length)):=by
 rw [Uf,Zee hx,Zie];exact h
theorem Uf.fan {rg:Int} {c:List HInstr} {i:Nat} {x:HInstr} {js:List Int} {u:Value} (h:Uf rg c) (hx:c[i]? = some x):Uf rg (c.set i (x.fan js u)):=by
 rw [Uf,Zec hx,Zif];exact h
theorem Ztw {c:List HInstr} {d:List Instr} (h:VZ c=d):c.length=d.length:=by rw [<-h,Zef]
theorem Zqm (c:List HInstr) (x:HInstr):Z9 (ZO c)++Z9 (ZO [x])=Z9 (ZO (c++[x])):=by rw [Z4c,Vu]
structure Em (rg:Int) (h:List HInstr) (c:List Instr):Prop where
 er:VZ h=c
 rg:rg=XP 0 c
section
variable {rg:Int} {h:List HInstr} {c:List Instr} {i:Nat}
theorem Em.len (e:Em rg h c):h.length=c.length:=Ztw e.er
theorem Em.at (e:Em rg h c) (hi:i<c.length):∃x,h[i]? = some x:=Zl (by rw [e.len];exact hi)
theorem Em.goto {x:HInstr} (e:Em rg h c) (hx:h[i]? = some x):Em rg (h.set i (x.goto h.length)) (XH c i):=⟨by rw [Zee hx,e.er],by rw [Zie];exact e.rg⟩
theorem Em.fan {x:HInstr} {js:List Int} {u:Value} (e:Em rg h c) (hx:h[i]? = some x):Em rg (h.set i (x.fan js u)) (U0 c i js):=⟨by rw [Zec hx,e.er],by rw [Zif];exact e.rg⟩
theorem Em.snoc {q:Int} {op dst num into:Int} {args:List Int} {av:Value} (e:Em rg h c) (hq:Uf q (h++[⟨op,dst,num,into,args,av,[],.slice none 0 0⟩])):Em q (h++[⟨op,dst,num,into,args,av,[],.slice none 0 0⟩]) (c++[ZB op dst num into args]):=
 ⟨by rw [Z82,e.er],by rw [hq,Z82,e.er]⟩
theorem Em.rge (e:Em rg h c):Uf rg h:=by rw [Uf,e.er];exact e.rg
theorem Em.eq {d:List Instr} (e:Em rg h c) (hd:c=d):Em rg h d:=hd▸e
end
open Go.Proofs
theorem Znf (ds:List Decl) (hl_ds:ds.length<=4294967296:=by exact ob):Zd Tryz.prog 48 [Z3 ds] [] (fun r h=>∃(v:Hd),r=.h v/\h=[rK v 3 (Z9 (ZQ ds))]):=by
 refine enter Tryz.func48 kr (n:=8) kr kr (ar (ir 1 [(0,Z3 ds)] (ie (aq (ar (Z0 1 (.n 3 (Z3 ds) .r) (iN (ZQ ds) (fun hz1=>?_) ?_)))))))
 ·have hz1:=Zox hz1
  refine ie (X8 (ar (ir 1 [(2,nl)] (ie (XA (Z64 (k:=3)) ?_)))))
  subst hz1
  exact Z5 (r2 [0] [nl] ⟨hN,rfl,rfl⟩ (Zg.hd (v:=hN)) (eq:=(rr (ls:=[]) rfl rz)))
 refine ie (YA (ak (ar (iKL 3 ?_))))
 intro g1
 refine Z0 1 (.n 6 (Z3 ds) .r) (iKC 0 g1 3 (ZQ ds) none (Z0n _) (by simp<;>omega) ?_)
 intro v1
 refine ir 1 [(2,.h v1)] (ie ?_)
 exact Z5 (r1 [0] ⟨v1,rfl,rfl⟩)
theorem Zne (cs:List Con) (hl_cs:cs.length<=4294967296:=by exact ob):Zd Tryz.prog 49 [Y8 cs] [] (fun r h=>∃(v:Hd),r=.h v/\h=[rK v 1 (Z9 (YH cs))]):=by
 refine enter Tryz.func49 kr (n:=8) kr kr (ar (ir 1 [(0,Y8 cs)] (ie (aq (ar (Z0 1 (.n 3 (Y8 cs) .r) (iN (YH cs) (fun hz1=>?_) ?_)))))))
 ·have hz1:=Zov hz1
  refine ie (X8 (ar (ir 1 [(2,nl)] (ie (XA (Z64 (k:=1)) ?_)))))
  subst hz1
  exact Z5 (r2 [0] [nl] ⟨hN,rfl,rfl⟩ (Zg.hd (v:=hN)) (eq:=(rr (ls:=[]) rfl rz)))
 refine ie (YA (ak (ar (iKL 1 ?_))))
 intro g1
 refine Z0 1 (.n 6 (Y8 cs) .r) (iKC 0 g1 1 (YH cs) none (Z4a _) (by simp<;>omega) ?_)
 intro v1
 refine ir 1 [(2,.h v1)] (ie ?_)
 exact Z5 (r1 [0] ⟨v1,rfl,rfl⟩)
theorem Zrx (ds:List Decl) (hd:DOk ds:=by exact ob):Zd Tryz.prog 21 [Z3 ds] [] (fun r h=>∃(ys:List HDecl) (w:Value),r=Vk ys w/\h=[.many (Yn ys),.tail w 3]/\ys.map HDecl.er=ds):=by
 have hdl:=hd.len
 refine enter Tryz.func21 kr (n:=46) kr kr (ar (ir 1 [(0,Z3 ds)] (ie (ar (ir 1 [(8,Z3 ds)] (ic [] (Znf ds) ?_))))))
 rintro _ _ ⟨v1,rfl,rfl⟩
 refine ir 1 [(3,.h v1)] (ie (aq (ar (Z0 1 (.n 10 (.h v1) .r) (Zf (Z2k 0 ds.length v1 3 (Z9 (ZQ ds)) (by rw [Zf7])) (Z0 1 (.n 12 (.i 0) .r) (ie (ab 0 (XA (tB [] [] [] (Yn []) (by simp [WH,WF,WN,WO,WP,WQ,WM,YC,YB,Xk,YO,YD,Yn,YP,XJ,XK,XL,YT])) (al (fun m F h=>∃(k:Nat) (v:Hd) (ys:List HDecl),(k<=ds.length)/\(ys.map HDecl.er=ds.take k)/\(ys.length=k)/\F=[(3,.h v),(10,.h v),(11,.i ds.length),(12,.i k)]/\h=[rK v 3 (Z9 (X2 ys++ZQ (ds.drop k))),.many (Yn ys)]/\m=ds.length-k) _ _ _ ⟨0,v1,[],ob,rfl,rfl,rfl,rfl,rfl⟩ (wk [1,0] (fw (fr (fc (x:=.i 0) li fl))) (e:=(rr (ls:=Z9 (ZQ ds)) (by rfl) (rc rz)))) ?_))))))))))
 rintro m F h ⟨k,v,ys,c0_0,c0_1,c0_2,rfl,rfl,rfl⟩
 refine ar (Z0 1 (.n 13 (.b (decide ((k:Int)<(ds.length:Int)))) .r) (ie (aq (ac (decide ((k:Int)<(ds.length:Int))) dq (fun hc1=>?_) (fun hc1=>?_)))))
 ·obtain ⟨x1,hx1⟩:=Zl (xs:=ds) (j:=k) om
  have hcl:=hd.cons_at hx1
  refine Z0x 0 ds.length (v:=v) (Ziq c0_2 c0_0) om (fun g1 c1 he1=>?_)
  subst he1
  refine ak (aq (ab 1 (ar (ir 1 [(3,.ms g1 0 ds.length c1),(10,.ms g1 0 ds.length c1),(11,.i ds.length),(12,.i k),(14,.i k)] (Zf (Uk g1 ds.length c1 k 3 (k:Int)) (YR (Z90 0 g1 ds.length c1 3 (k*3) (Z9 (X2 ys++ZQ (ds.drop k))) (Ys x1) 95 (Yw x1) (by rw [Zir hx1];exact Z9z (by rw [Kj,c0_2]))) (iA [.i 0,.i 0,nl] ?_)))))))
  intro b1
  refine Z0 1 (.n 4 (.i k) .r) (iS 0 b1 0 (Ys x1) [.i 0,.i 0,nl] (Ys x1) (ie (ar (Za 4 (.n 17 (.ms g1 0 ds.length c1) (.n 18 (.i k) (.n 20 (Y8 x1.cons) .r))) [0] [b1] (ic [] (Zne x1.cons) ?_)))))
  rintro _ _ ⟨v2,rfl,rfl⟩
  refine Zf (Uk g1 ds.length c1 k 3 (k:Int)) (Z0 1 (.n 23 (.val (.pointer (some ⟨g1,k*3+2,none⟩))) .r) (KU 2 g1 ds.length c1 3 (k*3+2) [.h v2] (Z9 (X2 ys++ZQ (ds.drop k))) (Z9 (X2 ys)++([.i x1.frm,.i x1.to_,.h v2]++Z9 (ZQ (ds.drop (k+1))))) (by rw [Ziq c0_2 c0_0];simp;omega) (by rw [Zir hx1];exact Zwq (by rw [Kj,c0_2])) (ie (ar (Za 2 (.n 25 (Y8 x1.cons) .r) [2] [b1] (iw (Wc x1.cons) (Z0 1 (.n 27 (.i 0) .r) (ie (ab 2 (XA (tB [] [] [] (YD []) (by simp [WH,WF,WN,WO,WP,WQ,WM,YC,YB,Xk,YO,YD,Yn,YP,XJ,XK,XL,YT])) (al (fun m F h=>∃(j:Nat) (u:Hd) (zs:List HCon),(j<=x1.cons.length)/\(zs.map HCon.er=x1.cons.take j)/\(zs.length=j)/\F=[(3,.ms g1 0 ds.length c1),(4,.i k),(10,.ms g1 0 ds.length c1),(11,.i ds.length),(12,.i k),(25,Y8 x1.cons),(26,.i x1.cons.length),(27,.i j)]/\h=[.many (Yn ys),rK u 1 (Z9 (Xp zs++YH (x1.cons.drop j))),.row (.slice (some ⟨g1,0,none⟩) ds.length c1) 3 (Z9 (X2 ys)++([.i x1.frm,.i x1.to_,.h u]++Z9 (ZQ (ds.drop (k+1))))),.many (YD zs)]/\m=x1.cons.length-j) _ _ _ ⟨0,v2,[],ob,rfl,rfl,rfl,rfl,rfl⟩ (wk [4,2,1,0] (fq (fw (fr (fc (x:=.i 0) li fl)))) (e:=(rc (rr (ls:=Z9 (YH x1.cons)) (by rfl) (rc (rc rz)))))) ?_)))))))))))
  rintro m F h ⟨j,u,zs,c1_0,c1_1,c1_2,rfl,rfl,rfl⟩
  refine ar (Z0 1 (.n 28 (.b (decide ((j:Int)<(x1.cons.length:Int)))) .r) (ie (aq (ac (decide ((j:Int)<(x1.cons.length:Int))) dq (fun hc2=>?_) (fun hc2=>?_)))))
  ·obtain ⟨x2,hx2⟩:=Zl (xs:=x1.cons) (j:=j) om
   have hfl:=hd.fields_at hx1 hx2
   refine Z0x 1 x1.cons.length (v:=u) (Zip c1_2 c1_0) om (fun g2 c2 he2=>?_)
   subst he2
   refine ak (aq (ab 3 (ar (ir 1 [(3,.ms g1 0 ds.length c1),(4,.i k),(10,.ms g1 0 ds.length c1),(11,.i ds.length),(12,.i k),(25,Y8 x1.cons),(26,.i x1.cons.length),(27,.i j),(29,.i j)] (Zf (Zj (es:=YH x1.cons) (hv:=none) (j:=(j:Int)) (sz:=1) (y:=Wm x2) kr om (Qq hx2) rfl) (Z0 1 (.n 31 (Wm x2) .r) (iA [nl] ?_)))))))
   intro b2
   refine Z0 1 (.n 6 (.i j) .r) (iS 0 b2 0 (UP x2) [nl] (UP x2) (ie (aE 12 (Zi (fuel:=10) 12 [0,1] (.n 32 (.ms g1 0 ds.length c1) (.n 33 (.i k) .r)) (dx 2 (Uk g1 ds.length c1 k 3 (k:Int)) (Zi (fuel:=8) 9 [3] (.n 35 (.val (.pointer (some ⟨g1,k*3+2,none⟩))) .r) (Qp 4 (Z90 3 g1 ds.length c1 3 (k*3+2) (Z9 (X2 ys)++([.i x1.frm,.i x1.to_,.h ⟨some ⟨g2,0,none⟩,x1.cons.length,c2⟩]++Z9 (ZQ (ds.drop (k+1))))) [.h ⟨some ⟨g2,0,none⟩,x1.cons.length,c2⟩] 93 (.ms g2 0 x1.cons.length c2) (Zwr (by rw [Kj,c0_2]))) (ZI (fuel:=4) 7 [5,6,7] (.n 37 (.i j) (.n 39 (Z1 x2.fields) .r)) [0] [b2] (Zm 8 (dc 8 [] [2] [g1] (Kd x2.fields) ?_))))))))))
   rintro _ _ ⟨v3,rfl,rfl⟩
   refine dx 9 (Uk g2 x1.cons.length c2 j 1 (j:Int)) (Zi (fuel:=1) 2 [10] (.n 42 (.val (.pointer (some ⟨g2,j*1,none⟩))) .r) (Zm 11 (dKS 11 3 [] [] g2 x1.cons.length c2 1 (j*1) [Zb x2.fields v3] (Z9 (Xp zs++YH (x1.cons.drop j))) (Z9 (Xp zs)++([Zb x2.fields v3]++Z9 (YH (x1.cons.drop (j+1))))) (by rw [Zip c1_2 c1_0];simp;omega) (by rw [Zwh hx2];exact Qu (by rw [Z8b,c1_2,VS]) rfl) (Kf (tB [5,1] [.many (YD zs),.tail v3 1] (YD zs++((v3,1)::[])) (YD (zs++[HCon.mk x2.fields v3])) (by simp [WH,WF,WN,WO,WP,WQ,WM,YC,YB,Xk,YO,YD,Yn,YP,XJ,XK,XL,YT])) (de (az (ia (((j+1:Nat):Int)) (((j:Int))+(1)) (Z0 1 (.n 27 (.i (j+1:Nat)) (.p (.d (.p (.p (.d (.d (.p (.d (.p (.d (.d (.d (.p (.d (.p (.w (.k (.k (.k .z)))))))))))))))))))) (ie ?_)))))))))
   exact ⟨_,_,_,ob,⟨j+1,⟨some ⟨g2,0,none⟩,x1.cons.length,c2⟩,(zs++[HCon.mk x2.fields v3]),ob,(by rw [List.map_append,c1_1,V3 hx2];rfl),(by simp [c1_2]),rfl,rfl,rfl⟩,(wk [3,1,2,0] (fq (fw (fr (fc (x:=.i (j+1:Nat)) li fl)))) (e:=(rc (rr (ls:=(Z9 (Xp zs)++([Zb x2.fields v3]++Z9 (YH (x1.cons.drop (j+1)))))) Zwg (rr (ls:=(Z9 (X2 ys)++([.i x1.frm,.i x1.to_,.h ⟨some ⟨g2,0,none⟩,x1.cons.length,c2⟩]++Z9 (ZQ (ds.drop (k+1)))))) ob (rc rz))))))⟩
  refine XA (K4 1 u.v 1 (Z9 (Xp zs++YH (x1.cons.drop j))) (Z9 (Xp zs)) (Zwf om)) (XA (Zzz 0 1 (k*3+2) u.v (.slice (some ⟨g1,0,none⟩) ds.length c1) 1 3 (Xp zs) (Z9 (X2 ys)++([.i x1.frm,.i x1.to_,.h u]++Z9 (ZQ (ds.drop (k+1))))) (Z7r _) (by rw [Z1m (by rw [Kj];omega),Kj,c0_2];simp)) ?_)
  refine XA (K4 0 (.slice (some ⟨g1,0,none⟩) ds.length c1) 3 (List.set ((Z9 (X2 ys)++([.i x1.frm,.i x1.to_,.h u]++Z9 (ZQ (ds.drop (k+1))))):List AV) (k*3+2) (Q3 zs u.v)) (Z9 (X2 ys)++([.i x1.frm,.i x1.to_,Q3 zs u.v]++Z9 (ZQ (ds.drop (k+1))))) (Zws (by rw [Kj,c0_2]))) (XA (tB [2,2,1] [.many (Yn ys),.many (YD zs),.tail u.v 1] (Yn ys++(YD zs++((u.v,1)::[]))) (Yn (ys++[HDecl.mk x1.frm x1.to_ zs u.v])) (by simp [WH,WF,WN,WO,WP,WQ,WM,YC,YB,Xk,YO,YD,Yn,YP,XJ,XK,XL,YT])) (ax 2 (az (ia (((k+1:Nat):Int)) (((k:Int))+(1)) (Z0 1 (.n 12 (.i (k+1:Nat)) (.p (.d (.k (.d (.k (.k .z))))))) (ie ?_))))))
  exact ⟨_,_,_,ob,⟨k+1,(⟨some ⟨g1,0,none⟩,ds.length,c1⟩:Hd),(ys++[HDecl.mk x1.frm x1.to_ zs u.v]),ob,(by rw [List.map_append,c0_1,V3 hx1,Zl6 (c1_1.trans (W7 om))]),(by simp [c0_2]),rfl,rfl,rfl⟩,(wk [1,0] (fw (fr (fc (x:=.i (k+1:Nat)) li fl))) (e:=(rr (ls:=(Z9 (X2 ys)++([.i x1.frm,.i x1.to_,Q3 zs u.v]++Z9 (ZQ (ds.drop (k+1)))))) Zwj (rc rz))))⟩
 refine ax 0 (ar (ir 2 [(2,.h v)] (ie (XA (K4 0 v.v 3 (Z9 (X2 ys++ZQ (ds.drop k))) (Z9 (X2 ys)) (Zwi om)) (JR 2 0 (v:=v) (X2 ys) (Z7s _) ?_)))))
 exact Z5 (r1 [1,0] ⟨ys,v.v,rfl,rfl,(by rw [c0_1,W7 om])⟩)
theorem Zs4 (n:Normal) (a:Nat) (mm:Nat) (rg:Int) (v:Hd) (hc:List HInstr) (op:Int) (dst:Int) (num:Int) (into:Int) (args:List Int) (av:Value) (hrg:Uf rg hc) (hx:RgI (ZB op dst num into args)) (hl:hc.length<=4200000000):Zd Tryz.prog 23 [.p a 0,.agg [.i op,.i dst,.i num,.i into,Zb args av,Zb [] (.slice none 0 0)]] [.obj a [Z3 n.decls,Zh n,.i mm,.i rg,.h v],rK v 6 (Z9 (ZO hc)),.many (ZY hc),.tail av 1] (fun r h=>∃(v2:Hd) (rg2:Int),r=.i hc.length/\h=[.obj a [Z3 n.decls,Zh n,.i mm,.i rg2,.h v2],rK v2 6 (Z9 (ZO (hc++[(HInstr.mk op dst num into args av [] (.slice none 0 0))]))),.many (ZY (hc++[(HInstr.mk op dst num into args av [] (.slice none 0 0))]))]/\Uf rg2 (hc++[(HInstr.mk op dst num into args av [] (.slice none 0 0))])):=by
 have hdx:0<=dst/\dst<=1000000000:=hx.dst
 have hlx:args.length<=10000200:=hx.len
 refine enter Tryz.func23 kr (n:=52) kr kr (ar (iA [.i op,.i dst,.i num,.i into,Zb args av,Zb [] (.slice none 0 0)] ?_))
 intro b1
 refine ir 1 [(0,.p a 0),(3,.p b1 0)] (ie (aD 12 (ZI (fuel:=5) 12 [0,1,2,3,4,5,6] (.n 7 (.p a 0) (.n 11 (.i rg) (.n 13 (.i dst) .r))) [1,0] [a,b1] (da 7 ((dst+1)) ((dst)+(1)) (dx 8 (Z2l rg (dst+1)) (Zi (fuel:=1) 3 [9,10] (.n 17 (.p a 3) .r) (Zm 11 (dS 11 1 [] [] a 3 [.i (max rg (dst+1))] [Z3 n.decls,Zh n,.i mm,.i rg,.h v] [Z3 n.decls,Zh n,.i mm,.i (max rg (dst+1)),.h v] (de (aq (ar (Za 2 (.n 19 (Zb args av) .r) [1] [b1] (iw (ZD args) (Z0 1 (.n 21 (.i 0) .r) (ie (ab 0 (al (fun m F h=>∃(k:Nat) (mx:Int),(k<=args.length)/\((args.drop k).foldl (fun m a=>max m (a+1)) mx=U4 rg (ZB op dst num into args))/\F=[(0,.p a 0),(3,.p b1 0),(19,Zb args av),(20,.i args.length),(21,.i k)]/\h=[.obj a [Z3 n.decls,Zh n,.i mm,.i mx,.h v],.obj b1 [.i op,.i dst,.i num,.i into,Zb args av,Zb [] (.slice none 0 0)],rK v 6 (Z9 (ZO hc)),.many (ZY hc),.tail av 1]/\m=args.length-k) _ _ _ ⟨0,(max rg (dst+1)),ob,rfl,rfl,rfl,rfl⟩ (wk [0,0,0,0,0] (fq (fc (x:=.i 0) li fl))) ?_)))))))))))))))))
 rintro m F h ⟨k,mx,c0_0,c0_1,rfl,rfl,rfl⟩
 refine ar (Z0 1 (.n 22 (.b (decide ((k:Int)<(args.length:Int)))) .r) (ie (aq (ac (decide ((k:Int)<(args.length:Int))) dq (fun hc1=>?_) (fun hc1=>?_)))))
 ·refine ak (aq (ab 1 (ar ?_)))
  obtain ⟨x1,hx1⟩:=Zl (xs:=args) (j:=k) om
  have hax:=hx.args x1 (ZV hx1)
  refine Zf (Zj (es:=Z6 args) (hv:=some av) (j:=(k:Int)) (sz:=1) (y:=.i x1) kr om (ZH hx1) rfl) (Z0 2 (.n 6 (.i x1) .r) (ie (az (Za 6 (.n 25 (.p a 0) (.n 29 (.i mx) (.n 30 (.i x1) .r))) [0] [a] (ia ((x1+1)) ((x1)+(1)) (Zf (Z2l mx (x1+1)) (Z0 2 (.n 34 (.p a 3) .r) (iS 0 a 3 [.i (max mx (x1+1))] [Z3 n.decls,Zh n,.i mm,.i mx,.h v] [Z3 n.decls,Zh n,.i mm,.i (max mx (x1+1)),.h v] (ie (az (ia (((k+1:Nat):Int)) (((k:Int))+(1)) (Z0 1 (.n 21 (.i (k+1:Nat)) (.p (.d (.p (.p (.d (.d (.d (.d (.p (.d (.w .z)))))))))))) (ie ?_)))))))))))))
  exact ⟨_,_,_,ob,⟨k+1,(max mx (x1+1)),ob,(Zha hx1 c0_1),rfl,rfl,rfl⟩,(wk [0,0,0,0,0] (fq (fc (x:=.i (k+1:Nat)) li fl)))⟩
 refine ax 0 (aD 11 (ZI (fuel:=5) 11 [0,1,2,3,4,5] (.n 36 (.p a 0) (.n 40 (.h v) (.n 41 (.agg [.i op,.i dst,.i num,.i into,Zb args av,Zb [] (.slice none 0 0)]) .r))) [0,1] [a,b1] (Zm 6 (dL 6 [0] [a] (ZO [HInstr.mk op dst num into args av [] (.slice none 0 0)]) 1 6 ?_))))
 intro v1
 refine Zi (fuel:=4) 4 [] (.n 42 (Zut [HInstr.mk op dst num into args av [] (.slice none 0 0)]) (.p .r)) (Zm 7 (dKA 7 3 hc.length [] [] v 6 (Z9 (ZO hc)) (ZO [HInstr.mk op dst num into args av [] (.slice none 0 0)]) none (T7 hc) (Z7t _) (Zp2 _) (by simp [ZO]) (by simp<;>omega) ?_))
 intro v2
 refine Zi (fuel:=1) 3 [8,9] (.n 45 (.p a 4) .r) (Zm 10 (dS 10 2 [] [] a 4 [.h v2] [Z3 n.decls,Zh n,.i mm,.i mx,.h v] [Z3 n.decls,Zh n,.i mm,.i mx,.h v2] (de (ar (iR 4 [(49,.h v2)] [0] [a] (Zf (Z2k 1 (hc.length+1) v2 6 (Z9 (ZO hc)++Z9 (ZO [HInstr.mk op dst num into args av [] (.slice none 0 0)])) (by rw [ZC,T7,T7];simp only [Y5,Yk];omega)) (ia ((((hc.length+1:Nat):Int)-1)) ((((hc.length+1:Nat):Int))-(1)) (ir 1 [(4,.i (((hc.length+1:Nat):Int)-1))] (ie (U7 1 (XA (tB [5,5,0] [.many (ZY hc),.tail av 1,.tail (.slice none 0 0) 1] (ZY hc++((av,1)::(((.slice none 0 0),1)::[]))) (ZY (hc++[(HInstr.mk op dst num into args av [] (.slice none 0 0))])) (by simp [Kn,ZY,Tt])) ?_)))))))))))
 exact Z5 (r2 [1,1,0] [.i (((hc.length+1:Nat):Int)-1)] ⟨v2,mx,rfl,rfl,(hrg.snoc (Zh9 om c0_1))⟩ li (eq:=(rc (rr (ls:=Z9 (ZO hc)++Z9 (ZO [HInstr.mk op dst num into args av [] (.slice none 0 0)])) (Zqm hc _) (rc rz)))))
theorem Tu (n:Normal) (a:Nat) (mm:Nat) (rg:Int) (v:Hd) (hc:List HInstr) (c:List Instr) (op:Int) (dst:Int) (num:Int) (into:Int) (args:List Int) (av:Value) (hE:Em rg hc c:=by exact ob) (hx:RgI (ZB op dst num into args):=by exact ob) (hl:c.length<=4200000000:=by exact ob):Zd Tryz.prog 23 [.p a 0,.agg [.i op,.i dst,.i num,.i into,Zb args av,Zb [] (.slice none 0 0)]] [.obj a [Z3 n.decls,Zh n,.i mm,.i rg,.h v],rK v 6 (Z9 (ZO hc)),.many (ZY hc),.tail av 1] (fun r h=>∃(v2:Hd) (rg2:Int) (hc2:List HInstr),r=.i c.length/\h=[.obj a [Z3 n.decls,Zh n,.i mm,.i rg2,.h v2],rK v2 6 (Z9 (ZO hc2)),.many (ZY hc2)]/\Em rg2 hc2 (c++[ZB op dst num into args])):=by
 refine (Zs4 n a mm rg v hc op dst num into args av hE.rge hx (by rw [hE.len];exact hl)).mono ?_
 rintro r h ⟨v2,rg2,rfl,rfl,hp⟩
 exact ⟨v2,rg2,_,by rw [hE.len],rfl,hE.snoc hp⟩
theorem Z8s (n:Normal) (a:Nat) (mm:Nat) (rg:Int) (v:Hd) (hc:List HInstr) (c:List Instr) (dst:Nat) (b:Block) (hE:Em rg hc c:=by exact ob) (hl:c.length<=4200000000:=by exact ob) (hd:dst<=900000000:=by exact ob) (hr:0<=b.result/\b.result<=900000000:=by exact ob):Zd Tryz.prog 90 [.p a 0,.i dst,Zx b] [.obj a [Z3 n.decls,Zh n,.i mm,.i rg,.h v],rK v 6 (Z9 (ZO hc)),.many (ZY hc)] (fun r h=>∃(v2:Hd) (rg2:Int) (hc2:List HInstr),h=[.obj a [Z3 n.decls,Zh n,.i mm,.i rg2,.h v2],rK v2 6 (Z9 (ZO hc2)),.many (ZY hc2)]/\Em rg2 hc2 (c++[ZB 18 (dst:Int) 0 0 [b.result]])):=by
 refine enter Tryz.func90 kr (n:=13) kr kr (ar (iA (YY b) ?_))
 intro b1
 refine ie (az (iR 4 [(6,.p a 0),(7,.i dst),(9,.i b.result)] [0] [b1] (iL (Z6 [b.result]) 1 1 ?_)))
 intro v1
 refine Z0 1 (.n 11 (.agg [.i 18,.i dst,.i 0,.i 0,Zb [b.result] v1,nl]) .r) (ic [2,2,2,0] (Tu n a mm rg v hc _ 18 (dst:Int) 0 0 [b.result] v1 (hx:=(Z3q hd hr))) ?_)
 rintro _ _ ⟨v21,rg21,hc21,rfl,rfl,hp1⟩
 refine ie ?_
 exact r2 [0,0,0] [] ⟨v21,rg21,hc21,rfl,(by assumption)⟩ (lr _)
theorem Zrw (n:Normal) (s:Step) (us:List Int) (am:List Arm) (mm:Nat) (a:Nat) (rg:Int) (v:Hd) (hc:List HInstr) (c:List Instr) (hn:NOk n) (hE:Em rg hc c) (hop:s.op=7) (hm:us.length=mm) (ht:0<=Zp n us s) (ha:V4 am mm) (hal:am.length+s.sz<=800000000) (hb:mm+4*s.sz<=40000100) (hcn:c.length+16*s.sz<=4000000000) (ih:∀(b2:Block) (us2:List Int) (am2:List Arm) (mm2:Nat) (a:Nat) (rg2:Int) (v2:Hd) (hc2:List HInstr) (c2:List Instr),(Em rg2 hc2 c2)->(us2.length=mm2)->(0<=ZF n us2 b2)->(V4 am2 mm2)->(am2.length+b2.sz<=800000000)->(mm2+4*b2.sz<=40000100)->(c2.length+16*b2.sz<=4000000000)->(b2.sz<s.sz)->Zd Tryz.prog 22 [.p a 0,Zx b2,Zq am2] [.obj a [Z3 n.decls,Zh n,.i mm2,.i rg2,.h v2],rK v2 6 (Z9 (ZO hc2)),.many (ZY hc2)] (fun r h=>∃(v3:Hd) (rg3:Int) (hc3:List HInstr),h=[.obj a [Z3 n.decls,Zh n,.i mm2,.i rg3,.h v3],rK v3 6 (Z9 (ZO hc3)),.many (ZY hc3)]/\Em rg3 hc3 (flB (Y4 n.decls) n.decls (am2,mm2) b2 c2))):Zd Tryz.prog 50 [.p a 0,ZN s,Zq am] [.obj a [Z3 n.decls,Zh n,.i mm,.i rg,.h v],rK v 6 (Z9 (ZO hc)),.many (ZY hc)] (fun r h=>∃(v3:Hd) (rg3:Int) (hc3:List HInstr),h=[.obj a [Z3 n.decls,Zh n,.i mm,.i rg3,.h v3],rK v3 6 (Z9 (ZO hc3)),.many (ZY hc3)]/\Em rg3 hc3 (Xj (Y4 n.decls) n.decls (am,mm) s c)):=by
 have hdk:=hn.decls
 have hf:=TG ht
 have hse:=s.sz_eq
 have haz:=TR s
 have hkz:=UO s
 have hra:s.args.length<=10000100/\∀a∈s.args,0<=a/\a<=900000000:=⟨by omega,fun a ha=>by have:=hf.args a ha;omega⟩
 obtain ⟨k0,k1,hkk,ht0,ht1⟩:=Zgk hf hop
 have hbe:Yx s.kids=k0.sz+k1.sz:=by rw [hkk];simp [Yx]
 have hk0:s.kids[0]? = some k0:=by rw [hkk];rfl
 have hk1:s.kids[1]? = some k1:=by rw [hkk];rfl
 have hs0:=UN hk0
 have hs1:=UN hk1
 refine enter Tryz.func50 kr (n:=75) kr kr (ar (iA (ZE s) ?_))
 intro b1
 refine ie (ar (iR 3 [(0,.p a 0),(2,Zq am),(4,.p b1 0),(8,.p a 0),(10,Z1 s.args)] [0] [b1] (ic [] (Kd s.args) ?_)))
 rintro _ _ ⟨v1,rfl,rfl⟩
 refine Z0 1 (.n 12 (.agg [.i 20,.i 0,.i 0,.i 0,Zb s.args v1,nl]) .r) (ic [2,2,2,0] (Tu n a mm rg v hc _ 20 0 0 0 s.args v1 (hx:=(by first|exact JB|exact UG ⟨by omega,by omega⟩ hra)) (hl:=Yf)) ?_)
 rintro _ _ ⟨v21,rg21,hc21,rfl,rfl,hp1⟩
 refine Z0 1 (.n 6 (.i c.length) .r) (ie (ar (Za 3 (.n 14 (.p a 0) (.n 16 (ZT s.kids) .r)) [3] [b1] (Zf (Zj (es:=Xw s.kids) (hv:=none) (j:=0) (sz:=2) (y:=Zx k0) kr om (WY hk0) rfl) (Z0 2 (.n 18 (Zx k0) (.n 19 (Zq am) .r)) (ic [0,0,0] (ih k0 us am mm a rg21 v21 hc21 _ ob ob (by first|exact ht0|exact ht1) ob ob ob Yf ob) ?_))))))
 rintro _ _ ⟨v31,rg31,hc31,rfl,hp2⟩
 have q1:((flB (Y4 n.decls) n.decls (am,mm) k0 (c++[ZB 20 0 0 0 s.args]))).length+16<=_:=TU (Y4 n.decls) hdk _ _ _
 simp only [Uq,UL,Q2,ZC,Y5,Yk] at q1
 have q1g:_<=((flB (Y4 n.decls) n.decls (am,mm) k0 (c++[ZB 20 0 0 0 s.args]))).length:=Z88 (Y4 n.decls) n.decls
 simp only [Uq,UL,Q2,ZC,Y5,Yk] at q1g
 refine ie (aD 10 (ZI (fuel:=3) 10 [0,1,2,3,4,5,6] (.n 21 (.p a 0) (.n 25 (.i mm) (.n 27 (ZT s.kids) (.p .r)))) [0,3] [a,b1] (dx 7 (Zj (es:=Xw s.kids) (hv:=none) (j:=0) (sz:=2) (y:=Zx k0) kr om (WY hk0) rfl) (Zi (fuel:=1) 2 [8] (.n 29 (Zx k0) .r) (Zm 9 (dc 9 [0,0,0] [] [] (Z8s n a mm rg31 v31 hc31 _ mm k0 (hl:=Yf) (hr:=(by first|exact ((QW _).1 (Jb (n:=n) (us:=us) k0 om hdk ht0)).2|exact ((QW _).1 (Jb (n:=n) (us:=us) k1 om hdk ht1)).2))) ?_))))))
 rintro _ _ ⟨v22,rg22,hc22,rfl,hp3⟩
 refine de (ar (Z0 2 (.n 31 (.p a 0) (.n 32 (.agg [.i 22,.i 0,.i 0,.i 0,nl,nl]) (.p .r))) (Zft 1 (ic [1,1,1,0] (Tu n a mm rg22 v22 hc22 _ 22 0 0 0 [] (.slice none 0 0) (hx:=(by first|exact JB|exact UG ⟨by omega,by omega⟩ hra)) (hl:=Yf)) ?_))))
 rintro _ _ ⟨v23,rg23,hc23,rfl,rfl,hp4⟩
 obtain ⟨y1,hy1⟩:=hp4.at (i:=c.length) Yf
 have iy1:=(Yg.1 hy1).1
 have ly1:=hp4.len
 simp only [Uq,UL,Q2,ZC,Y5,Yk] at ly1
 refine Zr4 1 hc23.length (v:=v23) (T7 _) (by have:=(Yg.1 hy1).1;omega) (fun g1 c1 he1=>?_)
 subst he1
 refine ir 1 [(0,.p a 0),(2,Zq am),(4,.p b1 0),(6,.i c.length),(7,.i ((((flB (Y4 n.decls) n.decls (am,mm) k0 (c++[ZB 20 0 0 0 s.args]))++[ZB 18 (mm:Int) 0 0 [k0.result]]).length:Nat):Int))] (ie (aD 13 (ZI (fuel:=4) 13 [0,1,2,3,4,5,6,7,8] (.n 37 (.ms g1 0 hc23.length c1) (.n 38 (.i c.length) (.n 42 (.ms g1 0 hc23.length c1) .r))) [0,0] [a,a] (dn 9 (.i hc23.length) (.i hc23.length) (lr _) (dx 10 (Uk g1 hc23.length c1 c.length 6 (c.length:Int)) (Zi (fuel:=1) 2 [11] (.n 45 (.val (.pointer (some ⟨g1,c.length*6+2,none⟩))) .r) (Zm 12 (dKS 12 1 [] [] g1 hc23.length c1 6 (c.length*6+2) [.i hc23.length] (Z9 (ZO hc23)) (Z9 (ZO (hc23.set c.length (y1.goto hc23.length)))) (by rw [T7];have:=(Yg.1 hy1).1;simp only [Y5,Yk];omega) (Z8c _ hy1) ?_))))))))
 refine Kf (tB [2] [.many (ZY hc23)] (ZY hc23++[]) (ZY (hc23.set c.length (y1.goto hc23.length))) (by rw [Qg,Z8o hy1])) ?_
 have gy1:=hp4.goto hy1
 refine de (ar (iR 3 [(0,.p a 0),(2,Zq am),(4,.p b1 0),(7,.i ((((flB (Y4 n.decls) n.decls (am,mm) k0 (c++[ZB 20 0 0 0 s.args]))++[ZB 18 (mm:Int) 0 0 [k0.result]]).length:Nat):Int)),(46,.p a 0),(48,ZT s.kids)] [3] [b1] (Zf (Zj (es:=Xw s.kids) (hv:=none) (j:=1) (sz:=2) (y:=Zx k1) kr om (WY hk1) rfl) (Z0 2 (.n 50 (Zx k1) (.n 51 (Zq am) .r)) (ic [2,1,0] (ih k1 us am mm a rg23 (⟨some ⟨g1,0,none⟩,hc23.length,c1⟩:Hd) (hc23.set c.length (y1.goto hc23.length)) _ ob ob (by first|exact ht0|exact ht1) ob ob ob Yf ob) ?_)))))
 rintro _ _ ⟨v32,rg32,hc32,rfl,hp5⟩
 have q2:((flB (Y4 n.decls) n.decls (am,mm) k1 (XH (((flB (Y4 n.decls) n.decls (am,mm) k0 (c++[ZB 20 0 0 0 s.args]))++[ZB 18 (mm:Int) 0 0 [k0.result]])++[ZB 22 0 0 0 []]) c.length))).length+16<=_:=TU (Y4 n.decls) hdk _ _ _
 simp only [Uq,UL,Q2,ZC,Y5,Yk] at q2
 have q2g:_<=((flB (Y4 n.decls) n.decls (am,mm) k1 (XH (((flB (Y4 n.decls) n.decls (am,mm) k0 (c++[ZB 20 0 0 0 s.args]))++[ZB 18 (mm:Int) 0 0 [k0.result]])++[ZB 22 0 0 0 []]) c.length))).length:=Z88 (Y4 n.decls) n.decls
 simp only [Uq,UL,Q2,ZC,Y5,Yk] at q2g
 refine ie (aD 10 (ZI (fuel:=3) 10 [0,1,2,3,4,5,6] (.n 53 (.p a 0) (.n 57 (.i mm) (.n 59 (ZT s.kids) (.p .r)))) [0,3] [a,b1] (dx 7 (Zj (es:=Xw s.kids) (hv:=none) (j:=1) (sz:=2) (y:=Zx k1) kr om (WY hk1) rfl) (Zi (fuel:=1) 2 [8] (.n 61 (Zx k1) .r) (Zm 9 (dc 9 [0,0,0] [] [] (Z8s n a mm rg32 v32 hc32 _ mm k1 (hl:=Yf) (hr:=(by first|exact ((QW _).1 (Jb (n:=n) (us:=us) k0 om hdk ht0)).2|exact ((QW _).1 (Jb (n:=n) (us:=us) k1 om hdk ht1)).2))) ?_))))))
 rintro _ _ ⟨v24,rg24,hc24,rfl,hp6⟩
 obtain ⟨y2,hy2⟩:=hp6.at (i:=(((flB (Y4 n.decls) n.decls (am,mm) k0 (c++[ZB 20 0 0 0 s.args]))++[ZB 18 (mm:Int) 0 0 [k0.result]]).length)) Yf
 have iy2:=(Yg.1 hy2).1
 have ly2:=hp6.len
 simp only [Uq,UL,Q2,ZC,Y5,Yk] at ly2
 refine Zo5 1 hc24.length (v:=v24) (T7 _) (by have:=(Yg.1 hy2).1;omega) (fun g2 c2 he2=>?_)
 subst he2
 refine de (aE 13 (dT (fuel:=4) 13 [0,1,2,3,4,5,6,7,8] [(66,.ms g2 0 hc24.length c2),(67,.i ((((flB (Y4 n.decls) n.decls (am,mm) k0 (c++[ZB 20 0 0 0 s.args]))++[ZB 18 (mm:Int) 0 0 [k0.result]]).length:Nat):Int)),(71,.ms g2 0 hc24.length c2)] [0,0] [a,a] (dn 9 (.i hc24.length) (.i hc24.length) (lr _) (dx 10 (Uk g2 hc24.length c2 (((flB (Y4 n.decls) n.decls (am,mm) k0 (c++[ZB 20 0 0 0 s.args]))++[ZB 18 (mm:Int) 0 0 [k0.result]]).length) 6 ((((flB (Y4 n.decls) n.decls (am,mm) k0 (c++[ZB 20 0 0 0 s.args]))++[ZB 18 (mm:Int) 0 0 [k0.result]]).length:Nat):Int)) (Zi (fuel:=1) 2 [11] (.n 74 (.val (.pointer (some ⟨g2,(((flB (Y4 n.decls) n.decls (am,mm) k0 (c++[ZB 20 0 0 0 s.args]))++[ZB 18 (mm:Int) 0 0 [k0.result]]).length)*6+2,none⟩))) .r) (Zm 12 (dKS 12 1 [] [] g2 hc24.length c2 6 ((((flB (Y4 n.decls) n.decls (am,mm) k0 (c++[ZB 20 0 0 0 s.args]))++[ZB 18 (mm:Int) 0 0 [k0.result]]).length)*6+2) [.i hc24.length] (Z9 (ZO hc24)) (Z9 (ZO (hc24.set (((flB (Y4 n.decls) n.decls (am,mm) k0 (c++[ZB 20 0 0 0 s.args]))++[ZB 18 (mm:Int) 0 0 [k0.result]]).length) (y2.goto hc24.length)))) (by rw [T7];have:=(Yg.1 hy2).1;simp only [Y5,Yk];omega) (Z8c _ hy2) ?_)))))))
 refine Kf (tB [2] [.many (ZY hc24)] (ZY hc24++[]) (ZY (hc24.set (((flB (Y4 n.decls) n.decls (am,mm) k0 (c++[ZB 20 0 0 0 s.args]))++[ZB 18 (mm:Int) 0 0 [k0.result]]).length) (y2.goto hc24.length))) (by rw [Qg,Z8o hy2])) ?_
 have gy2:=hp6.goto hy2
 refine de ?_
 exact r2 [2,1,0] [] ⟨(⟨some ⟨g2,0,none⟩,hc24.length,c2⟩:Hd),rg24,(hc24.set (((flB (Y4 n.decls) n.decls (am,mm) k0 (c++[ZB 20 0 0 0 s.args]))++[ZB 18 (mm:Int) 0 0 [k0.result]]).length) (y2.goto hc24.length)),rfl,(by rw [Zf1 hop hkk];exact gy2)⟩ (lr _) (eq:=(rc (rr (ls:=(Z9 (ZO (hc24.set (((flB (Y4 n.decls) n.decls (am,mm) k0 (c++[ZB 20 0 0 0 s.args]))++[ZB 18 (mm:Int) 0 0 [k0.result]]).length) (y2.goto hc24.length))))) ob (rc rz))))
theorem Zs6 (n:Normal) (s:Step) (us:List Int) (am:List Arm) (mm:Nat) (a:Nat) (rg:Int) (v:Hd) (hc:List HInstr) (c:List Instr) (hn:NOk n) (hE:Em rg hc c) (hop:s.op=8) (hm:us.length=mm) (ht:0<=Zp n us s) (ha:V4 am mm) (hal:am.length+s.sz<=800000000) (hb:mm+4*s.sz<=40000100) (hcn:c.length+16*s.sz<=4000000000) (ih:∀(b2:Block) (us2:List Int) (am2:List Arm) (mm2:Nat) (a:Nat) (rg2:Int) (v2:Hd) (hc2:List HInstr) (c2:List Instr),(Em rg2 hc2 c2)->(us2.length=mm2)->(0<=ZF n us2 b2)->(V4 am2 mm2)->(am2.length+b2.sz<=800000000)->(mm2+4*b2.sz<=40000100)->(c2.length+16*b2.sz<=4000000000)->(b2.sz<s.sz)->Zd Tryz.prog 22 [.p a 0,Zx b2,Zq am2] [.obj a [Z3 n.decls,Zh n,.i mm2,.i rg2,.h v2],rK v2 6 (Z9 (ZO hc2)),.many (ZY hc2)] (fun r h=>∃(v3:Hd) (rg3:Int) (hc3:List HInstr),h=[.obj a [Z3 n.decls,Zh n,.i mm2,.i rg3,.h v3],rK v3 6 (Z9 (ZO hc3)),.many (ZY hc3)]/\Em rg3 hc3 (flB (Y4 n.decls) n.decls (am2,mm2) b2 c2))):Zd Tryz.prog 51 [.p a 0,ZN s,Zq am] [.obj a [Z3 n.decls,Zh n,.i mm,.i rg,.h v],rK v 6 (Z9 (ZO hc)),.many (ZY hc)] (fun r h=>∃(v3:Hd) (rg3:Int) (hc3:List HInstr),h=[.obj a [Z3 n.decls,Zh n,.i mm,.i rg3,.h v3],rK v3 6 (Z9 (ZO hc3)),.many (ZY hc3)]/\Em rg3 hc3 (Xj (Y4 n.decls) n.decls (am,mm) s c)):=by
 have hdk:=hn.decls
 have hf:=TG ht
 have hse:=s.sz_eq
 have haz:=TR s
 have hkz:=UO s
 have hra:s.args.length<=10000100/\∀a∈s.args,0<=a/\a<=900000000:=⟨by omega,fun a ha=>by have:=hf.args a ha;omega⟩
 obtain ⟨hkl,hkm⟩:=Zgl hf hop
 obtain ⟨x0,hxl⟩:=hf.one (.inr (.inl hop))
 have hx0:s.args[0]? = some x0:=by rw [hxl];rfl
 have hg0:=QO hx0
 have hxb:=hf.args x0 (by rw [hxl];exact ZW.2 rfl)
 have hk3:=Z9j hdk s.num
 refine enter Tryz.func51 kr (n:=153) kr kr (ar (iA (ZE s) ?_))
 intro b1
 refine ie (aD 9 (dT (fuel:=4) 9 [0,1,2,3,4] [(0,.p a 0),(2,Zq am),(4,.p b1 0),(14,.p a 0),(16,.i s.num),(18,Z1 s.args)] [0,0] [b1,b1] (Zm 5 (dc 5 [] [0] [b1] (Kd s.args) ?_))))
 rintro _ _ ⟨v1,rfl,rfl⟩
 refine Zi (fuel:=2) 3 [6] (.n 20 (.agg [.i 21,.i 0,.i s.num,.i 0,Zb s.args v1,nl]) .r) (Zm 7 (dc 7 [2,2,2,0] [] [] (Tu n a mm rg v hc _ 21 0 s.num 0 s.args v1 (hx:=(by first|exact JB|exact UG ⟨by omega,by omega⟩ hra)) (hl:=Yf)) ?_))
 rintro _ _ ⟨v21,rg21,hc21,rfl,rfl,hp1⟩
 refine Zi (fuel:=0) 1 [8] (.n 6 (.i c.length) .r) (de (ar (Z0 2 (.n 7 (nl) (.n 8 (nl) .r)) (ie (aq (aD 9 (ZI (fuel:=2) 9 [0,1,2,3,4,5,8] (.n 25 (.agg [Z3 n.decls,Zh n]) (.n 27 (.i s.num) (.n 30 (.i 0) .r))) [0,3] [a,b1] (Zm 6 (dc 6 [] [] [] (Z8t _ s.num) ?_)))))))))
 rintro _ _ ⟨rfl,rfl⟩
 refine dn 7 (.i ((((Zt n.decls s.num).map (Zc n.decls)).length:Nat):Int)) (.i (((XO ((Zt n.decls s.num).map (Zc n.decls))).length:Nat):Int)) (li (by rw [Z27])) (de (ab 0 (U7 1 (U7 1 (al (fun m F h=>∃(k:Nat) (ts:List Int) (u1:Value) (es:List Nat) (u2:Value) (cc:List Instr) (hcc:List HInstr) (v5:Hd) (rg5:Int),(k<=s.kids.length)/\(Wh (Y4 n.decls) n.decls (am,mm) s.num x0 c.length (s.kids.drop k) k cc ts es=Xj (Y4 n.decls) n.decls (am,mm) s c)/\(∀i∈es,i<cc.length)/\(c.length<cc.length)/\(cc.length<=c.length+1+16*Yx (s.kids.take k))/\(es.length<=k)/\(ts.length=k)/\(Em rg5 hcc cc)/\F=[(0,.p a 0),(2,Zq am),(4,.p b1 0),(6,.i c.length),(7,Zb ts u1),(8,Zb (X6 es) u2),(28,YL ((Zt n.decls s.num).map (Zc n.decls))),(29,.i ((((Zt n.decls s.num).map (Zc n.decls)).length:Nat):Int)),(30,.i k)]/\h=[.obj a [Z3 n.decls,Zh n,.i mm,.i rg5,.h v5],.obj b1 (ZE s),.tail u1 1,.tail u2 1,rK v5 6 (Z9 (ZO hcc)),.many (ZY hcc)]/\m=s.kids.length-k) _ _ _ ⟨0,[],(.slice none 0 0),[],(.slice none 0 0),(c++[ZB 21 0 s.num 0 s.args]),hc21,v21,rg21,ob,(by rw [VR,Zf2 hop,hg0]),(fun i hi=>by cases hi),(by simp),(by simp [Yx]),ob,ob,ob,rfl,rfl,rfl⟩ (wk [2,4,0,0,0,0] (fq (fc (x:=nl) (Zg.slh _ (by first|rfl|(subst_vars;rfl))) (fc (x:=nl) (Zg.slh _ (by first|rfl|(subst_vars;rfl))) (fw (fc (x:=.i 0) li fl)))))) ?_)))))
 rintro m F h ⟨k,ts,u1,es,u2,cc,hcc,v5,rg5,c0_0,c0_1,c0_2,c0_3,c0_4,c0_5,c0_6,c0_7,rfl,rfl,rfl⟩
 refine ar (Z0 1 (.n 31 (.b (decide ((k:Int)<((((Zt n.decls s.num).map (Zc n.decls)).length:Nat):Int)))) .r) (ie (aq (ac (decide ((k:Int)<((((Zt n.decls s.num).map (Zc n.decls)).length:Nat):Int))) dq (fun hc1=>?_) (fun hc1=>?_)))))
 ·rw [TK] at hc1
  obtain ⟨xk,hxk⟩:=Zl (xs:=Zt n.decls s.num) (j:=k) om
  obtain ⟨kb,hkb⟩:=Zl (xs:=s.kids) (j:=k) om
  have hmk:((Zt n.decls s.num).map (Zc n.decls))[k]? = some (Zc n.decls xk):=by rw [VC,hxk];rfl
  obtain ⟨hbt,hgc,hfk⟩:=hkm k kb xk hkb hxk
  have hks:=UN hkb
  obtain ⟨hkt1,hkt2⟩:=Z7a hkb
  have hcf:=VV hdk xk
  have hfl3:(XZ n.decls s.num k).length=(Zc n.decls xk).length:=by rw [hfk]
  refine ak (aq (ab 1 (ar (Z0 1 (.n 32 (.i k) .r) (Zf (Zj (es:=XO ((Zt n.decls s.num).map (Zc n.decls))) (hv:=none) (j:=(k:Int)) (sz:=1) (y:=Z1 (Zc n.decls xk)) kr om (KS hmk) rfl) (Z0 3 (.n 9 (.i k) (.n 10 (Z1 (Zc n.decls xk)) .r)) (ie (ar (Za 5 (.n 35 (Zb ts u1) (.n 39 (.h v5) .r)) [0] [a] (Zf (Z2k 4 hcc.length v5 6 (Z9 (ZO hcc)) (T7 hcc)) (iL (Z6 [(hcc.length:Int)]) 1 1 ?_)))))))))))
  intro v2
  refine Z0 0 (.n 41 (Z1 [(hcc.length:Int)]) (.p .r)) (ip 3 (Z6 (ts++[(hcc.length:Int)])) (Z6 ts) (Z6 [(hcc.length:Int)]) u1 none 1 (YS _) (YS _) (VL _) (by simp<;>omega) (by simp [VK,Z6]) ?_)
  intro v3
  refine Z0 1 (.n 7 (Zb (ts++[(hcc.length:Int)]) v3) (.p (.d (.p (.d (.d (.k (.k (.p (.d (.d (.w (.d .r))))))))))))) (ie (aq (ar (Z0 1 (.n 43 (Z1 (Zc n.decls xk)) .r) (io (.i (((Zc n.decls xk).length:Nat):Int)) (.i (((Z6 (Zc n.decls xk)).length:Nat):Int)) (li (by rw [ZD])) (Z0 1 (.n 45 (.i 0) .r) (ie (ab 2 (al (fun m F h=>∃(i:Nat) (hci:List HInstr) (v6:Hd) (rg6:Int),(i<=(Zc n.decls xk).length)/\(Em rg6 hci (cc++YE mm i x0))/\F=[(0,.p a 0),(2,Zq am),(4,.p b1 0),(6,.i c.length),(7,Zb (ts++[(hcc.length:Int)]) v3),(8,Zb (X6 es) u2),(9,.i k),(10,Z1 (Zc n.decls xk)),(28,YL ((Zt n.decls s.num).map (Zc n.decls))),(29,.i ((((Zt n.decls s.num).map (Zc n.decls)).length:Nat):Int)),(30,.i k),(44,.i (((Zc n.decls xk).length:Nat):Int)),(45,.i i)]/\h=[.obj a [Z3 n.decls,Zh n,.i mm,.i rg6,.h v6],.obj b1 (ZE s),.tail u2 1,.tail v3 1,rK v6 6 (Z9 (ZO hci)),.many (ZY hci)]/\m=(Zc n.decls xk).length-i) _ _ _ ⟨0,hcc,v5,rg5,ob,(c0_7.eq (by simp [YE])),rfl,rfl,rfl⟩ (wk [2,2,2,0,1,1] (fq (fq (fq (fc (x:=.i 0) li fl))))) ?_)))))))))
  rintro m F h ⟨i,hci,v6,rg6,c1_0,c1_1,rfl,rfl,rfl⟩
  refine ar (Z0 1 (.n 46 (.b (decide ((i:Int)<(((Zc n.decls xk).length:Nat):Int)))) .r) (ie (aq (ac (decide ((i:Int)<(((Zc n.decls xk).length:Nat):Int))) dq (fun hc2=>?_) (fun hc2=>?_)))))
  ·refine ak (aq (ab 3 (ar (Z0 2 (.n 11 (.i i) .r) (ie (aE 13 (ZI (fuel:=7) 13 [0,1,2,3,4,5] (.n 48 (.p a 0) (.n 52 (.i mm) (.n 53 (.i i) .r))) [0] [a] (da 6 (((mm+i:Nat):Int)) (((mm:Int))+((i:Int))) (ZI (fuel:=3) 6 [7,8,9] (.n 55 (.i i) (.n 57 (Z1 s.args) .r)) [1] [b1] (Zm 10 (dc 10 [] [0] [a] (Kd s.args) ?_)))))))))))
   rintro _ _ ⟨v4,rfl,rfl⟩
   refine Zi (fuel:=1) 2 [11] (.n 59 (.agg [.i 19,.i (mm+i:Nat),.i i,.i 0,Zb s.args v4,nl]) .r) (Zm 12 (dc 12 [1,4,4,0] [] [] (Tu n a mm rg6 v6 hci _ 19 ((mm+i:Nat):Int) (i:Int) 0 s.args v4 (hx:=(by first|exact JB|exact UG ⟨by omega,by omega⟩ hra)) (hl:=Yf)) ?_))
   rintro _ _ ⟨v22,rg22,hc22,rfl,rfl,hp2⟩
   refine de (az (ia (((i+1:Nat):Int)) (((i:Int))+(1)) (Z0 1 (.n 45 (.i (i+1:Nat)) (.p (.p (.d (.p (.d (.d (.p (.d (.d (.d (.d (.d (.w (.w (.w .z)))))))))))))))) (ie ?_))))
   exact ⟨_,_,_,ob,⟨i+1,hc22,v22,rg22,ob,(Em.eq (c:=_) (by assumption) (by rw [hxl,Zh3,<-Xs])),rfl,rfl,rfl⟩,(wk [0,2,2,2,0,0] (fq (fq (fq (fc (x:=.i (i+1:Nat)) li fl)))))⟩
  have hie:(Zc n.decls xk).length=i:=by omega
  have hA:(Y4 n.decls).arm (am,mm) x0 s.num k=(am++[Arm.mk x0 (mm:Int) (Zc n.decls xk) false],mm+(Zc n.decls xk).length):=by rw [<-hfk];rfl
  refine ax 2 (ar (Za 5 (.n 62 (.p a 0) (.n 65 (.i mm) (.n 66 (Z1 (Zc n.decls xk)) .r))) [0] [a] (io (.i (((Zc n.decls xk).length:Nat):Int)) (.i (((Z6 (Zc n.decls xk)).length:Nat):Int)) (li (by rw [ZD])) (ia (((mm+(Zc n.decls xk).length:Nat):Int)) (((mm:Int))+((((Zc n.decls xk).length:Nat):Int))) (Z0 2 (.n 70 (.p a 2) .r) (iS 0 a 2 [.i ((mm+(Zc n.decls xk).length:Nat):Int)] [Z3 n.decls,Zh n,.i mm,.i rg6,.h v6] [Z3 n.decls,Zh n,.i ((mm+(Zc n.decls xk).length:Nat):Int),.i rg6,.h v6] (ie (aD 22 (ZI (fuel:=18) 22 [0,1,2,3] (.n 71 (.p a 0) (.n 73 (ZT s.kids) (.n 74 (.i k) .r))) [1] [b1] (dx 4 (Zj (es:=Xw s.kids) (hv:=none) (j:=(k:Int)) (sz:=2) (y:=Zx kb) kr om (WY hkb) rfl) (ZI (fuel:=13) 17 [5,6,7,8] (.n 76 (Zx kb) (.n 77 (Zq am) (.n 79 (Z1 s.args) .r))) [1] [b1] (dx 9 (Zj (es:=Z6 s.args) (hv:=none) (j:=0) (sz:=1) (y:=.i x0) kr om (ZH hx0) rfl) (ZI (fuel:=6) 12 [10,11,12,13,14,15] (.n 81 (.i x0) (.n 85 (.i ((mm+(Zc n.decls xk).length:Nat):Int)) (.n 86 (Z1 (Zc n.decls xk)) .r))) [0] [a] (dn 16 (.i (((Zc n.decls xk).length:Nat):Int)) (.i (((Z6 (Zc n.decls xk)).length:Nat):Int)) (li (by rw [ZD])) (da 17 ((mm:Int)) ((((mm+(Zc n.decls xk).length:Nat):Int))-((((Zc n.decls xk).length:Nat):Int))) (Zi (fuel:=2) 4 [18,19] (.n 90 (.agg [.i x0,.i mm,Z1 (Zc n.decls xk),.b false]) .r) (Zm 20 (dc 20 [] [1] [b1] (Z73 am (Arm.mk x0 (mm:Int) (Zc n.decls xk) false)) ?_))))))))))))))))))
  rintro _ _ ⟨rfl,rfl⟩
  refine Zm 21 (dc 21 [0,3,3] [] [] (ih kb (us++Zc n.decls xk) (am++[(Arm.mk x0 (mm:Int) (Zc n.decls xk) false)]) (mm+(Zc n.decls xk).length) a rg6 v6 hci _ ob (by simp only [ZC];omega) hbt (ha.snoc hcf) (by simp only [ZC,Y5,Yk];omega) om Yf ob) ?_)
  rintro _ _ ⟨v31,rg31,hc31,rfl,hp3⟩
  have q1:((flB (Y4 n.decls) n.decls ((am++[(Arm.mk x0 (mm:Int) (Zc n.decls xk) false)]),(mm+(Zc n.decls xk).length)) kb (cc++YE mm i x0))).length+16<=_:=TU (Y4 n.decls) hdk _ _ _
  simp only [Uq,UL,Q2,ZC,Y5,Yk] at q1
  have q1g:_<=((flB (Y4 n.decls) n.decls ((am++[(Arm.mk x0 (mm:Int) (Zc n.decls xk) false)]),(mm+(Zc n.decls xk).length)) kb (cc++YE mm i x0))).length:=Z88 (Y4 n.decls) n.decls
  simp only [Uq,UL,Q2,ZC,Y5,Yk] at q1g
  refine de (ar (Za 5 (.n 93 (.p a 0) (.n 96 (.i (((mm+(Zc n.decls xk).length):Nat):Int)) (.n 97 (Z1 (Zc n.decls xk)) (.p .r)))) [0] [a] (io (.i (((Zc n.decls xk).length:Nat):Int)) (.i (((Z6 (Zc n.decls xk)).length:Nat):Int)) (li (by rw [ZD])) (ia ((mm:Int)) (((((mm+(Zc n.decls xk).length):Nat):Int))-((((Zc n.decls xk).length:Nat):Int))) (Z0 2 (.n 101 (.p a 2) .r) (iS 0 a 2 [.i mm] [Z3 n.decls,Zh n,.i (((mm+(Zc n.decls xk).length):Nat):Int),.i rg31,.h v31] [Z3 n.decls,Zh n,.i mm,.i rg31,.h v31] (ie (aD 11 (ZI (fuel:=3) 11 [0,1,2,3,4,5,6,7] (.n 102 (.p a 0) (.n 106 (.i mm) (.n 108 (ZT s.kids) (.n 109 (.i k) .r)))) [0,3] [a,b1] (dx 8 (Zj (es:=Xw s.kids) (hv:=none) (j:=(k:Int)) (sz:=2) (y:=Zx kb) kr om (WY hkb) rfl) (Zi (fuel:=1) 2 [9] (.n 111 (Zx kb) .r) (Zm 10 (dc 10 [0,0,0] [] [] (Z8s n a mm rg31 v31 hc31 _ mm kb (hl:=Yf) (hr:=((QW _).1 (Jb kb (by simp only [ZC];omega) hdk hbt)).2)) ?_)))))))))))))
  rintro _ _ ⟨v23,rg23,hc23,rfl,hp4⟩
  refine de (ar (Za 3 (.n 113 (.i k) (.n 115 (ZT s.kids) (.p .r))) [3] [b1] (iw (VJ s.kids) (ia (((s.kids.length:Int)-1)) (((s.kids.length:Int))-(1)) (Z0 1 (.n 118 (.b (decide ((k:Int)<((s.kids.length:Int)-1)))) .r) (ie (ac (decide ((k:Int)<((s.kids.length:Int)-1))) dq (fun hc3=>?_) (fun hc3=>?_))))))))
  ·refine az (Z0 3 (.n 119 (Zb (X6 es) u2) (.n 120 (.p a 0) (.n 121 (.agg [.i 22,.i 0,.i 0,.i 0,nl,nl]) .r))) (Zft 1 (ic [1,1,1,0] (Tu n a mm rg23 v23 hc23 _ 22 0 0 0 [] (.slice none 0 0) (hx:=(by first|exact JB|exact UG ⟨by omega,by omega⟩ hra)) (hl:=Yf)) ?_)))
   rintro _ _ ⟨v24,rg24,hc24,rfl,rfl,hp5⟩
   refine iL (Z6 [((((flB (Y4 n.decls) n.decls ((am++[(Arm.mk x0 (mm:Int) (Zc n.decls xk) false)]),(mm+(Zc n.decls xk).length)) kb (cc++YE mm i x0))++[ZB 18 (mm:Int) 0 0 [kb.result]]).length:Nat):Int)]) 1 1 ?_
   intro v5
   refine Z0 0 (.n 123 (Z1 [((((flB (Y4 n.decls) n.decls ((am++[(Arm.mk x0 (mm:Int) (Zc n.decls xk) false)]),(mm+(Zc n.decls xk).length)) kb (cc++YE mm i x0))++[ZB 18 (mm:Int) 0 0 [kb.result]]).length:Nat):Int)]) (.p .r)) (ip 5 (Z6 ((X6 es)++[((((flB (Y4 n.decls) n.decls ((am++[(Arm.mk x0 (mm:Int) (Zc n.decls xk) false)]),(mm+(Zc n.decls xk).length)) kb (cc++YE mm i x0))++[ZB 18 (mm:Int) 0 0 [kb.result]]).length:Nat):Int)])) (Z6 (X6 es)) (Z6 [((((flB (Y4 n.decls) n.decls ((am++[(Arm.mk x0 (mm:Int) (Zc n.decls xk) false)]),(mm+(Zc n.decls xk).length)) kb (cc++YE mm i x0))++[ZB 18 (mm:Int) 0 0 [kb.result]]).length:Nat):Int)]) u2 none 1 (YS _) (YS _) (VL _) (by simp [JX]<;>omega) (by simp [VK,Z6]) ?_)
   intro v6
   refine Z0 1 (.n 8 (Zb ((X6 es)++[((((flB (Y4 n.decls) n.decls ((am++[(Arm.mk x0 (mm:Int) (Zc n.decls xk) false)]),(mm+(Zc n.decls xk).length)) kb (cc++YE mm i x0))++[ZB 18 (mm:Int) 0 0 [kb.result]]).length:Nat):Int)]) v6) (.p (.d (.p (.d (.d (.d (.d (.p (.p (.d (.d (.d (.p (.d (.d (.d (.d (.d (.p (.p (.d (.d (.d (.p (.d (.p (.p (.d (.d (.d (.p (.d (.d (.d (.p (.d (.d (.d (.d (.p (.p (.d (.d (.d (.d (.w (.k (.d (.d (.d (.k (.k (.k .z)))))))))))))))))))))))))))))))))))))))))))))))))))))) (ie (az (ia (((k+1:Nat):Int)) (((k:Int))+(1)) (Z0 1 (.n 30 (.i (k+1:Nat)) (.p (.w (.w .z)))) (ie ?_)))))
   exact ⟨_,_,_,ob,⟨k+1,(ts++[(cc.length:Int)]),v3,(es++[((flB (Y4 n.decls) n.decls ((am++[(Arm.mk x0 (mm:Int) (Zc n.decls xk) false)]),(mm+(Zc n.decls xk).length)) kb (cc++YE mm i x0))++[ZB 18 (mm:Int) 0 0 [kb.result]]).length]),v6,(((flB (Y4 n.decls) n.decls ((am++[(Arm.mk x0 (mm:Int) (Zc n.decls xk) false)]),(mm+(Zc n.decls xk).length)) kb (cc++YE mm i x0))++[ZB 18 (mm:Int) 0 0 [kb.result]])++[ZB 22 0 0 0 []]),hc24,v24,rg24,ob,(by have h:=Zev (X:=Y4 n.decls) hkb om c0_1;rw [hfl3,hie,hA] at h;exact h),(fun j hj=>(ZG.1 hj).elim (fun hj=>by have:=c0_2 j hj;simp only [ZC,Y5,Yk];omega) fun hj=>by rw [ZW.1 hj];simp only [ZC,Y5,Yk];omega),Yf,Yf,Yf,Yf,ob,rfl,rfl,rfl⟩,(wk [2,4,4,0,1,1] (fq (fc (x:=Zb (ts++[(hcc.length:Int)]) v3) (Zg.slh _ (Y1 Z6 (by rw [c0_7.len]))) (fc (x:=Zb ((X6 es)++[((((flB (Y4 n.decls) n.decls ((am++[(Arm.mk x0 (mm:Int) (Zc n.decls xk) false)]),(mm+(Zc n.decls xk).length)) kb (cc++YE mm i x0))++[ZB 18 (mm:Int) 0 0 [kb.result]]).length:Nat):Int)]) v6) (Zg.slh _ (Y1 Z6 (Zhs _ _))) (fw (fc (x:=.i (k+1:Nat)) li fl))))))⟩
  refine ak (az (ia (((k+1:Nat):Int)) (((k:Int))+(1)) (Z0 1 (.n 30 (.i (k+1:Nat)) (.p (.d (.p (.p (.d (.d (.d (.p (.d (.d (.d (.d (.d (.p (.p (.d (.d (.d (.p (.d (.p (.p (.d (.d (.d (.p (.d (.d (.d (.p (.d (.d (.d (.d (.p (.p (.d (.d (.d (.d (.w (.k (.k (.d (.d (.k (.k .z)))))))))))))))))))))))))))))))))))))))))))))))) (ie ?_))))
  exact ⟨_,_,_,ob,⟨k+1,(ts++[(cc.length:Int)]),v3,es,u2,((flB (Y4 n.decls) n.decls ((am++[(Arm.mk x0 (mm:Int) (Zc n.decls xk) false)]),(mm+(Zc n.decls xk).length)) kb (cc++YE mm i x0))++[ZB 18 (mm:Int) 0 0 [kb.result]]),hc23,v23,rg23,ob,(by have h:=Zew (X:=Y4 n.decls) hkb om c0_1;rw [hfl3,hie,hA] at h;exact h),(fun j hj=>by have:=c0_2 j hj;simp only [ZC,Y5,Yk];omega),Yf,Yf,Yf,Yf,ob,rfl,rfl,rfl⟩,(wk [0,2,3,2,0,0] (fq (fc (x:=Zb (ts++[(hcc.length:Int)]) v3) (Zg.slh _ (Y1 Z6 (by rw [c0_7.len]))) (fw (fr (fc (x:=.i (k+1:Nat)) li fl))))))⟩
 rw [TK] at hc1
 have hAe:=Zet om c0_1
 have hbt:Yx (s.kids.take k)=Yx s.kids:=by rw [W7 om]
 obtain ⟨y1,hy1⟩:=c0_7.at (i:=c.length) Yf
 have iy1:=(Yg.1 hy1).1
 have ly1:=c0_7.len
 refine Z0x 4 hcc.length (v:=v5) (T7 _) om (fun g1 c1 he1=>?_)
 subst he1
 refine ax 0 (ar (iR 6 [(0,.p a 0),(8,Zb (X6 es) u2),(129,.ms g1 0 hcc.length c1),(130,.i c.length),(131,Zb ts u1)] [0] [a] (Zf (Uk g1 hcc.length c1 c.length 6 (c.length:Int)) (Z0 1 (.n 133 (.val (.pointer (some ⟨g1,c.length*6+5,none⟩))) .r) (KU 4 g1 hcc.length c1 6 (c.length*6+5) [Zb ts u1] (Z9 (ZO hcc)) (Z9 (ZO (hcc.set c.length (y1.fan ts u1)))) (by rw [T7];simp only [Y5,Yk];omega) (Zql ts _ hy1) (WR (Y00 5 3 (ZY (hcc.take c.length)++[(y1.av,1)]) (ZY (hcc.drop (c.length+1))) y1.jv u1 1 1 (Zfo hy1) (Zqt (js:=ts) hy1)) ?_))))))
 have gy1:=c0_7.fan (js:=ts) (u:=u1) hy1
 refine ie (ar (ir 1 [(0,.p a 0),(134,Zb (X6 es) u2)] (io (.i (((X6 es).length:Nat):Int)) (.i (((Z6 (X6 es)).length:Nat):Int)) (li (by rw [ZD])) (Z0 1 (.n 136 (.i 0) .r) (ie (ab 4 (al (fun m F h=>∃(i2:Nat) (cc7:List Instr) (hc7:List HInstr) (v7:Hd) (rg7:Int),(i2<=es.length)/\(Ur cc7 (es.drop i2)=Xj (Y4 n.decls) n.decls (am,mm) s c)/\(∀j∈es,j<cc7.length)/\(Em rg7 hc7 cc7)/\F=[(0,.p a 0),(134,Zb (X6 es) u2),(135,.i (((X6 es).length:Nat):Int)),(136,.i i2)]/\h=[.obj a [Z3 n.decls,Zh n,.i mm,.i rg7,.h v7],.tail u2 1,rK v7 6 (Z9 (ZO hc7)),.many (ZY hc7)]/\m=es.length-i2) _ _ _ ⟨0,(U0 cc c.length ts),(hcc.set c.length (y1.fan ts u1)),(⟨some ⟨g1,0,none⟩,hcc.length,c1⟩:Hd),rg5,ob,hAe,(fun j hj=>by rw [UL];exact c0_2 j hj),ob,rfl,rfl,rfl⟩ (wk [2,3,1,0] (fw (fr (fc (x:=.i 0) li fl)))) ?_)))))))
 rintro m F h ⟨i2,cc7,hc7,v7,rg7,c2_0,c2_1,c2_2,c2_3,rfl,rfl,rfl⟩
 refine ar (Z0 1 (.n 137 (.b (decide ((i2:Int)<(((X6 es).length:Nat):Int)))) .r) (ie (aq (ac (decide ((i2:Int)<(((X6 es).length:Nat):Int))) dq (fun hc4=>?_) (fun hc4=>?_)))))
 ·rw [JX] at hc4
  obtain ⟨ei,hei⟩:=Zl (xs:=es) (j:=i2) om
  have hej:=c2_2 ei (ZV hei)
  obtain ⟨y2,hy2⟩:=c2_3.at (i:=ei) Yf
  have iy2:=(Yg.1 hy2).1
  have ly2:=c2_3.len
  refine Z0x 2 hc7.length (v:=v7) (T7 _) om (fun g2 c2 he2=>?_)
  subst he2
  refine ak (aq (ab 5 (ar (Zf (Zj (es:=Z6 (X6 es)) (hv:=some u2) (j:=(i2:Int)) (sz:=1) (y:=.i ei) kr om (ZH (Zhr hei)) rfl) (ir 2 [(0,.p a 0),(13,.i ei),(134,Zb (X6 es) u2),(135,.i (((X6 es).length:Nat):Int)),(136,.i i2)] (ie (aE 13 (ZI (fuel:=4) 13 [0,1,2,3,4,5,6,7,8] (.n 143 (.ms g2 0 hc7.length c2) (.n 144 (.i ei) (.n 148 (.ms g2 0 hc7.length c2) .r))) [0,0] [a,a] (dn 9 (.i hc7.length) (.i hc7.length) (lr _) (dx 10 (Uk g2 hc7.length c2 ei 6 (ei:Int)) (Zi (fuel:=1) 2 [11] (.n 151 (.val (.pointer (some ⟨g2,ei*6+2,none⟩))) .r) (Zm 12 (dKS 12 2 [] [] g2 hc7.length c2 6 (ei*6+2) [.i hc7.length] (Z9 (ZO hc7)) (Z9 (ZO (hc7.set ei (y2.goto hc7.length)))) (by rw [T7];simp only [Y5,Yk];omega) (Z8c _ hy2) (Kf (tB [3] [.many (ZY hc7)] (ZY hc7++[]) (ZY (hc7.set ei (y2.goto hc7.length))) (by rw [Qg,Z8o hy2])) ?_))))))))))))))
  have gy2:=c2_3.goto hy2
  refine de (az (ia (((i2+1:Nat):Int)) (((i2:Int))+(1)) (ir 1 [(0,.p a 0),(134,Zb (X6 es) u2),(135,.i (((X6 es).length:Nat):Int)),(136,.i (i2+1:Nat))] (ie ?_))))
  exact ⟨_,_,_,ob,⟨i2+1,(XH cc7 ei),(hc7.set ei (y2.goto hc7.length)),(⟨some ⟨g2,0,none⟩,hc7.length,c2⟩:Hd),rg7,ob,(Zch hei c2_1),(fun j hj=>by rw [Uq];exact c2_2 j hj),ob,rfl,rfl,rfl⟩,(wk [2,2,1,0] (fw (fr (fc (x:=.i (i2+1:Nat)) li fl))))⟩
 rw [JX] at hc4
 refine ax 4 ?_
 exact r2 [0,1,1] [] ⟨v7,rg7,hc7,rfl,(by rw [<-Zcg om c2_1];exact c2_3)⟩ (lr _)
theorem Zrv (n:Normal) (b:Block) (us:List Int) (am:List Arm) (mm:Nat) (a:Nat) (rg:Int) (v:Hd) (hc:List HInstr) (c:List Instr) (hn:NOk n) (hE:Em rg hc c) (hm:us.length=mm) (ht:0<=ZF n us b) (ha:V4 am mm) (hal:am.length+b.sz<=800000000) (hb:mm+4*b.sz<=40000100) (hcn:c.length+16*b.sz<=4000000000) (ihb:∀(s2:Step) (us2:List Int) (am2:List Arm) (mm2:Nat) (a:Nat) (rg2:Int) (v2:Hd) (hc2:List HInstr) (c2:List Instr),(Em rg2 hc2 c2)->(s2.op=7)->(us2.length=mm2)->(0<=Zp n us2 s2)->(V4 am2 mm2)->(am2.length+s2.sz<=800000000)->(mm2+4*s2.sz<=40000100)->(c2.length+16*s2.sz<=4000000000)->(s2.sz<b.sz)->Zd Tryz.prog 50 [.p a 0,ZN s2,Zq am2] [.obj a [Z3 n.decls,Zh n,.i mm2,.i rg2,.h v2],rK v2 6 (Z9 (ZO hc2)),.many (ZY hc2)] (fun r h=>∃(v3:Hd) (rg3:Int) (hc3:List HInstr),h=[.obj a [Z3 n.decls,Zh n,.i mm2,.i rg3,.h v3],rK v3 6 (Z9 (ZO hc3)),.many (ZY hc3)]/\Em rg3 hc3 (Xj (Y4 n.decls) n.decls (am2,mm2) s2 c2))) (ihm:∀(s2:Step) (us2:List Int) (am2:List Arm) (mm2:Nat) (a:Nat) (rg2:Int) (v2:Hd) (hc2:List HInstr) (c2:List Instr),(Em rg2 hc2 c2)->(s2.op=8)->(us2.length=mm2)->(0<=Zp n us2 s2)->(V4 am2 mm2)->(am2.length+s2.sz<=800000000)->(mm2+4*s2.sz<=40000100)->(c2.length+16*s2.sz<=4000000000)->(s2.sz<b.sz)->Zd Tryz.prog 51 [.p a 0,ZN s2,Zq am2] [.obj a [Z3 n.decls,Zh n,.i mm2,.i rg2,.h v2],rK v2 6 (Z9 (ZO hc2)),.many (ZY hc2)] (fun r h=>∃(v3:Hd) (rg3:Int) (hc3:List HInstr),h=[.obj a [Z3 n.decls,Zh n,.i mm2,.i rg3,.h v3],rK v3 6 (Z9 (ZO hc3)),.many (ZY hc3)]/\Em rg3 hc3 (Xj (Y4 n.decls) n.decls (am2,mm2) s2 c2))):Zd Tryz.prog 22 [.p a 0,Zx b,Zq am] [.obj a [Z3 n.decls,Zh n,.i mm,.i rg,.h v],rK v 6 (Z9 (ZO hc)),.many (ZY hc)] (fun r h=>∃(v3:Hd) (rg3:Int) (hc3:List HInstr),h=[.obj a [Z3 n.decls,Zh n,.i mm,.i rg3,.h v3],rK v3 6 (Z9 (ZO hc3)),.many (ZY hc3)]/\Em rg3 hc3 (flB (Y4 n.decls) n.decls (am,mm) b c)):=by
 have hdk:=hn.decls
 obtain ⟨fvs,t0,hvs,hres,hrt⟩:=QF ht
 have hbz:=Z02 b
 have hbe:=b.sz_eq
 refine enter Tryz.func22 kr (n:=104) kr kr (ar (iA (YY b) ?_))
 intro b1
 refine ie (ar (iR 5 [(0,.p a 0),(2,Zq am),(4,.p b1 0),(6,.i mm)] [1] [a] (ie (aq (ar (Za 2 (.n 16 (ZX b.steps) .r) [0] [b1] (iw (UK b.steps) (Z0 1 (.n 18 (.i 0) .r) (ie (ab 0 (al (fun m F h=>∃(k:Nat) (vs:List Int) (q:Nat) (cc:List Instr) (hcc:List HInstr) (vL:Hd) (rgL:Int),(k<=b.steps.length)/\(us.length<=vs.length/\vs.length<=us.length+ZR (b.steps.take k))/\(X7 n (b.steps.drop k) vs=some fvs)/\(Ww (Y4 n.decls) n.decls (am,q) (b.steps.drop k) cc=Ww (Y4 n.decls) n.decls (am,mm) b.steps c)/\(vs.length=q)/\(cc.length<=c.length+16*ZR (b.steps.take k))/\(Em rgL hcc cc)/\F=[(0,.p a 0),(2,Zq am),(6,.i mm),(16,ZX b.steps),(17,.i b.steps.length),(18,.i k)]/\h=[.obj a [Z3 n.decls,Zh n,.i q,.i rgL,.h vL],rK vL 6 (Z9 (ZO hcc)),.many (ZY hcc)]/\m=b.steps.length-k) _ _ _ ⟨0,us,mm,c,hc,v,rg,ob,(by simp),(by rw [VR];exact hvs),rfl,ob,(by simp),ob,rfl,rfl,rfl⟩ (wk [1,1,1] (fq (fr (fc (x:=.i 0) li fl)))) ?_)))))))))))
 rintro m F h ⟨k,vs,q,cc,hcc,vL,rgL,c0_0,c0_1,c0_2,c0_3,c0_4,c0_5,c0_6,rfl,rfl,rfl⟩
 refine ar (Z0 1 (.n 19 (.b (decide ((k:Int)<(b.steps.length:Int)))) .r) (ie (aq (ac (decide ((k:Int)<(b.steps.length:Int))) dq (fun hc1=>?_) (fun hc1=>?_)))))
 ·refine ak (aq (ab 1 (ar ?_)))
  obtain ⟨x1,hx1⟩:=Zl (xs:=b.steps) (j:=k) om
  have hsz:=Z5y hx1
  have hdr:=Zu hx1
  have c0_2s:=c0_2
  rw [hdr] at c0_2s
  obtain ⟨g1,g2⟩:=KA c0_2s
  have hf:=TG g1
  have hkz:=UO x1
  have haz:=TR x1
  have htk:=Zk7 hx1
  have htl:=Zk8 b.steps (k+1)
  have hsp:=x1.sz_pos
  have hdc:=KR g1
  have hfl:=Z89 (Y4 n.decls) hdk x1 (am,q) cc
  have hra:x1.args.length<=10000100/\∀a∈x1.args,0<=a/\a<=900000000:=⟨by omega,fun a ha=>by have:=hf.args a ha;omega⟩
  refine Zf (Zj (es:=Wg b.steps) (hv:=none) (j:=(k:Int)) (sz:=5) (y:=ZN x1) kr om (T6 hx1) rfl) (Z0 1 (.n 21 (ZN x1) .r) (iA [.i 0,.i 0,.i 0,nl,nl] ?_))
  intro b2
  refine iS 0 b2 0 (ZE x1) [.i 0,.i 0,.i 0,nl,nl] (ZE x1) (ie (aq (ar (Za 2 (.n 23 (.i x1.op) .r) [0] [b2] (ie (ab 2 (ar (Z0 2 (.n 40 (.b (x1.op==7)) .r) (ie (JE (fun F h=>∃(hcK:List HInstr) (vK:Hd) (rgK:Int),(Em rgK hcK (Xj (Y4 n.decls) n.decls (am,q) x1 cc))/\F=[(0,.p a 0),(2,Zq am),(6,.i mm),(8,.p b2 0),(16,ZX b.steps),(17,.i b.steps.length),(18,.i k)]/\h=[.obj b2 (ZE x1),.obj a [Z3 n.decls,Zh n,.i q,.i rgK,.h vK],rK vK 6 (Z9 (ZO hcK)),.many (ZY hcK)]) (fun _ _=>rfl) ?_ ?_))))))))))
  ·refine ac (x1.op==7) Ze (fun hc2=>?_) (fun hc2=>?_)
   ·refine az (iR 3 [(0,.p a 0),(2,Zq am),(6,.i mm),(8,.p b2 0),(16,ZX b.steps),(17,.i b.steps.length),(18,.i k),(42,.p a 0),(43,ZN x1),(44,Zq am)] [0] [b2] (ic [1,1,1] (ihb x1 vs am q a rgL vL hcc _ ob ob ob g1 (ha.le om) ob ob ob ob) ?_))
    rintro _ _ ⟨v31,rg31,hc31,rfl,hp1⟩
    refine ie ?_
    exact ⟨_,_,⟨hc31,v31,rg31,ob,rfl,rfl⟩,(wk [3,0,0,0] fl)⟩
   refine ar (ir 2 [(0,.p a 0),(2,Zq am),(6,.i mm),(8,.p b2 0),(16,ZX b.steps),(17,.i b.steps.length),(18,.i k),(23,.i x1.op),(46,.b (x1.op==8))] (ie (ac (x1.op==8) Ze (fun hc3=>?_) (fun hc3=>?_))))
   ·refine az (Za 3 (.n 48 (.p a 0) (.n 49 (ZN x1) (.n 50 (Zq am) .r))) [0] [b2] (ic [1,1,1] (ihm x1 vs am q a rgL vL hcc _ ob ob ob g1 (ha.le om) ob ob ob ob) ?_))
    rintro _ _ ⟨v32,rg32,hc32,rfl,hp2⟩
    refine ie ?_
    exact ⟨_,_,⟨hc32,v32,rg32,ob,rfl,rfl⟩,(wk [3,0,0,0] fl)⟩
   refine aq (ar (Z0 2 (.n 52 (.b (x1.op==14)) .r) (ie (Ug (fun F h=>F=[(0,.p a 0),(2,Zq am),(6,.i mm),(8,.p b2 0),(16,ZX b.steps),(17,.i b.steps.length),(18,.i k),(23,.i x1.op),(52,.b ((x1.op==14)||(x1.op==15)))]/\h=[.obj b2 (ZE x1),.obj a [Z3 n.decls,Zh n,.i q,.i rgL,.h vL],rK vL 6 (Z9 (ZO hcc)),.many (ZY hcc)]) ?_ ?_))))
   ·refine ac (x1.op==14) Ze (fun hc4=>?_) (fun hc4=>?_)
    ·refine ak ?_
     exact ⟨_,_,⟨rfl,rfl⟩,(wk [0,0,0,0] (fq (fq (fc (x:=.b (x1.op==14)) (lb (by first|rfl|(rw [Z8 hc4])|(rw [Z4 hc4])|(simp [hc4];done)|(rw [YW];simp [hc4];done)|omega)) fl))))⟩
    refine az (ir 2 [(0,.p a 0),(2,Zq am),(6,.i mm),(8,.p b2 0),(16,ZX b.steps),(17,.i b.steps.length),(18,.i k),(23,.i x1.op),(52,.b (x1.op==15))] (ie ?_))
    exact ⟨_,_,⟨rfl,rfl⟩,(wk [0,0,0,0] (fq (fq (fc (x:=.b (x1.op==15)) (lb (by first|rfl|(rw [Z8 hc4])|(rw [Z4 hc4])|(simp [hc4];done)|(rw [YW];simp [hc4];done)|omega)) fl))))⟩
   rintro F h ⟨rfl,rfl⟩
   refine ac ((x1.op==14)||(x1.op==15)) (p:=(x1.op=14)∨(x1.op=15)) (Zz Ze Ze) (fun hc5=>?_) (fun hc5=>?_)
   ·refine aE 8 (dT (fuel:=3) 8 [0,1,2,3,4] [(0,.p a 0),(2,Zq am),(6,.i mm),(8,.p b2 0),(16,ZX b.steps),(17,.i b.steps.length),(18,.i k),(55,.p a 0),(57,.i x1.op),(59,Z1 x1.args)] [0,0] [b2,b2] (Zm 5 (dc 5 [] [0] [b2] (Kd x1.args) ?_)))
    rintro _ _ ⟨v1,rfl,rfl⟩
    refine Zi (fuel:=1) 2 [6] (.n 61 (.agg [.i x1.op,.i 0,.i 0,.i 0,Zb x1.args v1,nl]) .r) (Zm 7 (dc 7 [2,2,2,0] [] [] (Tu n a q rgL vL hcc _ x1.op 0 0 0 x1.args v1 (hx:=(by first|exact UG ⟨by omega,by omega⟩ hra|exact RgI.mk' om (by simp only [ZC,Y5,Yk];omega) (fun q hq=>(ZG.1 hq).elim (fun hq=>by rw [ZW.1 hq];omega) (fun hq=>by first|(have:=QP hq;omega)|(exact absurd hq (by simp [Y7])))))) (hl:=Yf)) ?_))
    rintro _ _ ⟨v21,rg21,hc21,rfl,rfl,hp3⟩
    refine de ?_
    exact ⟨_,_,⟨hc21,v21,rg21,(by first|exact (Em.eq (c:=_) (by assumption) (by rw [JM om]))|exact (Em.eq (c:=_) (by assumption) (by rw [JO om];show _=cc++[ZB _ 0 0 0 (x1.args++Y7 (W9 am (gI x1.args 0)).fds (W9 am (gI x1.args 0)).fst)];rw [hA,hxl]))|exact (Em.eq (c:=_) (by assumption) (by rw [JN om om om om,<-c0_4];rfl))),rfl,rfl⟩,(wk [3,0,0,0] fl)⟩
   refine aq (ar (ir 2 [(0,.p a 0),(2,Zq am),(6,.i mm),(8,.p b2 0),(16,ZX b.steps),(17,.i b.steps.length),(18,.i k),(23,.i x1.op),(63,.b (x1.op==16))] (ie (Ug (fun F h=>F=[(0,.p a 0),(2,Zq am),(6,.i mm),(8,.p b2 0),(16,ZX b.steps),(17,.i b.steps.length),(18,.i k),(63,.b ((x1.op==16)||(x1.op==17)))]/\h=[.obj b2 (ZE x1),.obj a [Z3 n.decls,Zh n,.i q,.i rgL,.h vL],rK vL 6 (Z9 (ZO hcc)),.many (ZY hcc)]) ?_ ?_))))
   ·refine ac (x1.op==16) Ze (fun hc6=>?_) (fun hc6=>?_)
    ·refine ak ?_
     exact ⟨_,_,⟨rfl,rfl⟩,(wk [0,0,0,0] (fq (fw (fr (fc (x:=.b (x1.op==16)) (lb (by first|rfl|(rw [Z8 hc6])|(rw [Z4 hc6])|(simp [hc6];done)|(rw [YW];simp [hc6];done)|omega)) fl)))))⟩
    refine az (ir 2 [(0,.p a 0),(2,Zq am),(6,.i mm),(8,.p b2 0),(16,ZX b.steps),(17,.i b.steps.length),(18,.i k),(63,.b (x1.op==17))] (ie ?_))
    exact ⟨_,_,⟨rfl,rfl⟩,(wk [0,0,0,0] (fq (fw (fr (fc (x:=.b (x1.op==17)) (lb (by first|rfl|(rw [Z8 hc6])|(rw [Z4 hc6])|(simp [hc6];done)|(rw [YW];simp [hc6];done)|omega)) fl)))))⟩
   rintro F h ⟨rfl,rfl⟩
   refine ac ((x1.op==16)||(x1.op==17)) (p:=(x1.op=16)∨(x1.op=17)) (Zz Ze Ze) (fun hc7=>?_) (fun hc7=>?_)
   ·refine ar (iR 3 [(0,.p a 0),(2,Zq am),(6,.i mm),(8,.p b2 0),(16,ZX b.steps),(17,.i b.steps.length),(18,.i k),(67,Zq am),(69,Z1 x1.args)] [0] [b2] ?_)
    obtain ⟨x2,hx2⟩:=Zl (xs:=x1.args) (j:=0) (by obtain ⟨a,ha⟩:=hf.one om;rw [ha];simp)
    have hg0:=QO hx2
    have hr2:=hf.args x2 (ZV hx2)
    have hxl:x1.args=[x2]:=by obtain ⟨a,ha⟩:=hf.one om;rw [ha] at hg0;rw [ha];exact Y1 (fun z=>[z]) hg0
    refine Zf (Zj (es:=Z6 x1.args) (hv:=none) (j:=0) (sz:=1) (y:=.i x2) kr om (ZH hx2) rfl) (Z0 1 (.n 71 (.i x2) .r) (ic [] (Zcu am x2 ob) ?_))
    rintro _ _ (⟨a1,rfl,rfl,hp4⟩|⟨rfl,rfl,hp5⟩)
    ·have hA:W9 am (gI x1.args 0)=a1:=by rw [W9,hg0,hp4];rfl
     have hs3:=ha.at hp4
     have hhl:=Z0t (a1).fds (a1).fst
     refine Z0 3 (.n 73 (.agg [.i a1.mat,.i a1.fst,Z1 a1.fds,.b a1.chg]) (.n 74 (.b true) .r)) (iA [.i 0,.i 0,nl,.b false] ?_)
     intro b3
     refine iS 0 b3 0 [.i a1.mat,.i a1.fst,Z1 a1.fds,.b a1.chg] [.i 0,.i 0,nl,.b false] [.i a1.mat,.i a1.fst,Z1 a1.fds,.b a1.chg] (Z0 1 .r (ie (aE 13 (ZI (fuel:=8) 13 [0,1,2,3,4] (.n 75 (.p a 0) (.n 77 (.i x1.op) (.n 79 (Z1 x1.args) .r))) [1,1] [b2,b2] (dx 5 (Zj (es:=Z6 x1.args) (hv:=none) (j:=0) (sz:=1) (y:=.i x2) kr om (ZH hx2) rfl) (ZI (fuel:=5) 7 [6,8] (.n 81 (.i x2) (.n 83 (.agg [.i a1.mat,.i a1.fst,Z1 a1.fds,.b a1.chg]) .r)) [0] [b3] (Z21 7 9 ?_ ?_)))))))
     ·refine dL 7 [0,1] [b3,b2] (Z6 [x2]) 1 1 ?_
      intro v2
      refine Zm 9 (dc 9 [] [1] [b2] (Z2i a1) ?_)
      rintro _ _ ⟨rfl,rfl⟩
      refine Zm 10 (dp 10 0 [1] [b2] (Z6 ([x2]++(Y7 a1.fds a1.fst))) (Z6 [x2]) (Z6 (Y7 a1.fds a1.fst)) v2 none 1 (YS _) (YS _) (VL _) (by simp only [ZD,Y5,Yk];omega) (by simp [VK,Z6]) ?_)
      intro v3
      refine dt (fuel:=1) 2 [11] [(0,.p a 0),(2,Zq am),(6,.i mm),(8,.p b2 0),(16,ZX b.steps),(17,.i b.steps.length),(18,.i k),(75,.p a 0),(86,.agg [.i x1.op,.i 0,.i 0,.i 0,Zb ([x2]++(Y7 a1.fds a1.fst)) v3,nl])] (Zm 12 (dc 12 [3,3,3,0] [] [] (Tu n a q rgL vL hcc _ x1.op 0 0 0 ([x2]++(Y7 a1.fds a1.fst)) v3 (hx:=(by first|exact UG ⟨by omega,by omega⟩ hra|exact RgI.mk' om (by simp only [ZC,Y5,Yk];omega) (fun q hq=>(ZG.1 hq).elim (fun hq=>by rw [ZW.1 hq];omega) (fun hq=>by first|(have:=QP hq;omega)|(exact absurd hq (by simp [Y7])))))) (hl:=Yf)) ?_))
      rintro _ _ ⟨v22,rg22,hc22,rfl,rfl,hp6⟩
      refine de ?_
      exact ⟨_,_,⟨hc22,v22,rg22,(by first|exact (Em.eq (c:=_) (by assumption) (by rw [JM om]))|exact (Em.eq (c:=_) (by assumption) (by rw [JO om];show _=cc++[ZB _ 0 0 0 (x1.args++Y7 (W9 am (gI x1.args 0)).fds (W9 am (gI x1.args 0)).fst)];rw [hA,hxl]))|exact (Em.eq (c:=_) (by assumption) (by rw [JN om om om om,<-c0_4];rfl))),rfl,rfl⟩,(wk [4,0,0,0] fl)⟩
     refine dc 9 [] [1,1] [b2,b2] (Z2i a1) ?_
     rintro _ _ ⟨rfl,rfl⟩
     refine Zm 7 (dL 7 [1] [b2] (Z6 [x2]) 1 1 ?_)
     intro v4
     refine Zm 10 (dp 10 0 [1] [b2] (Z6 ([x2]++(Y7 a1.fds a1.fst))) (Z6 [x2]) (Z6 (Y7 a1.fds a1.fst)) v4 none 1 (YS _) (YS _) (VL _) (by simp only [ZD,Y5,Yk];omega) (by simp [VK,Z6]) ?_)
     intro v5
     refine dt (fuel:=1) 2 [11] [(0,.p a 0),(2,Zq am),(6,.i mm),(8,.p b2 0),(16,ZX b.steps),(17,.i b.steps.length),(18,.i k),(75,.p a 0),(86,.agg [.i x1.op,.i 0,.i 0,.i 0,Zb ([x2]++(Y7 a1.fds a1.fst)) v5,nl])] (Zm 12 (dc 12 [3,3,3,0] [] [] (Tu n a q rgL vL hcc _ x1.op 0 0 0 ([x2]++(Y7 a1.fds a1.fst)) v5 (hx:=(by first|exact UG ⟨by omega,by omega⟩ hra|exact RgI.mk' om (by simp only [ZC,Y5,Yk];omega) (fun q hq=>(ZG.1 hq).elim (fun hq=>by rw [ZW.1 hq];omega) (fun hq=>by first|(have:=QP hq;omega)|(exact absurd hq (by simp [Y7])))))) (hl:=Yf)) ?_))
     rintro _ _ ⟨v23,rg23,hc23,rfl,rfl,hp7⟩
     refine de ?_
     exact ⟨_,_,⟨hc23,v23,rg23,(by first|exact (Em.eq (c:=_) (by assumption) (by rw [JM om]))|exact (Em.eq (c:=_) (by assumption) (by rw [JO om];show _=cc++[ZB _ 0 0 0 (x1.args++Y7 (W9 am (gI x1.args 0)).fds (W9 am (gI x1.args 0)).fst)];rw [hA,hxl]))|exact (Em.eq (c:=_) (by assumption) (by rw [JN om om om om,<-c0_4];rfl))),rfl,rfl⟩,(wk [4,0,0,0] fl)⟩
    have hA:W9 am (gI x1.args 0)=⟨0,0,[],false⟩:=by rw [W9,hg0,hp5];rfl
    have hhl:(Y7 [] 0).length<=0:=Z0t [] 0
    refine Z0 3 (.n 73 (.agg [.i 0,.i 0,Zb [] (.slice none 0 0),.b false]) (.n 74 (.b false) .r)) (iA [.i 0,.i 0,nl,.b false] ?_)
    intro b4
    refine iS 0 b4 0 [.i 0,.i 0,Zb [] (.slice none 0 0),.b false] [.i 0,.i 0,nl,.b false] [.i 0,.i 0,Zb [] (.slice none 0 0),.b false] (Z0 1 .r (ie (aE 13 (ZI (fuel:=8) 13 [0,1,2,3,4] (.n 75 (.p a 0) (.n 77 (.i x1.op) (.n 79 (Z1 x1.args) .r))) [1,1] [b2,b2] (dx 5 (Zj (es:=Z6 x1.args) (hv:=none) (j:=0) (sz:=1) (y:=.i x2) kr om (ZH hx2) rfl) (ZI (fuel:=5) 7 [6,8] (.n 81 (.i x2) (.n 83 (.agg [.i 0,.i 0,Z1 [],.b false]) .r)) [0] [b4] (Z21 7 9 ?_ ?_)))))))
    ·refine dL 7 [0,1] [b4,b2] (Z6 [x2]) 1 1 ?_
     intro v6
     refine Zm 9 (dc 9 [] [1] [b2] (Z2i (Arm.mk 0 0 [] false)) ?_)
     rintro _ _ ⟨rfl,rfl⟩
     refine Zm 10 (dp 10 0 [1] [b2] (Z6 ([x2]++(Y7 (Arm.mk 0 0 [] false).fds (Arm.mk 0 0 [] false).fst))) (Z6 [x2]) (Z6 (Y7 (Arm.mk 0 0 [] false).fds (Arm.mk 0 0 [] false).fst)) v6 none 1 (YS _) (YS _) (VL _) (by simp only [ZD,Y5,Yk];omega) (by simp [VK,Z6]) ?_)
     intro v7
     refine dt (fuel:=1) 2 [11] [(0,.p a 0),(2,Zq am),(6,.i mm),(8,.p b2 0),(16,ZX b.steps),(17,.i b.steps.length),(18,.i k),(75,.p a 0),(86,.agg [.i x1.op,.i 0,.i 0,.i 0,Zb ([x2]++(Y7 (Arm.mk 0 0 [] false).fds (Arm.mk 0 0 [] false).fst)) v7,nl])] (Zm 12 (dc 12 [3,3,3,0] [] [] (Tu n a q rgL vL hcc _ x1.op 0 0 0 ([x2]++(Y7 (Arm.mk 0 0 [] false).fds (Arm.mk 0 0 [] false).fst)) v7 (hx:=(by first|exact UG ⟨by omega,by omega⟩ hra|exact RgI.mk' om (by simp only [ZC,Y5,Yk];omega) (fun q hq=>(ZG.1 hq).elim (fun hq=>by rw [ZW.1 hq];omega) (fun hq=>by first|(have:=QP hq;omega)|(exact absurd hq (by simp [Y7])))))) (hl:=Yf)) ?_))
     rintro _ _ ⟨v24,rg24,hc24,rfl,rfl,hp8⟩
     refine de ?_
     exact ⟨_,_,⟨hc24,v24,rg24,(by first|exact (Em.eq (c:=_) (by assumption) (by rw [JM om]))|exact (Em.eq (c:=_) (by assumption) (by rw [JO om];show _=cc++[ZB _ 0 0 0 (x1.args++Y7 (W9 am (gI x1.args 0)).fds (W9 am (gI x1.args 0)).fst)];rw [hA,hxl]))|exact (Em.eq (c:=_) (by assumption) (by rw [JN om om om om,<-c0_4];rfl))),rfl,rfl⟩,(wk [4,0,0,0] fl)⟩
    refine dc 9 [] [1,1] [b2,b2] (Z2i (Arm.mk 0 0 [] false)) ?_
    rintro _ _ ⟨rfl,rfl⟩
    refine Zm 7 (dL 7 [1] [b2] (Z6 [x2]) 1 1 ?_)
    intro v8
    refine Zm 10 (dp 10 0 [1] [b2] (Z6 ([x2]++(Y7 (Arm.mk 0 0 [] false).fds (Arm.mk 0 0 [] false).fst))) (Z6 [x2]) (Z6 (Y7 (Arm.mk 0 0 [] false).fds (Arm.mk 0 0 [] false).fst)) v8 none 1 (YS _) (YS _) (VL _) (by simp only [ZD,Y5,Yk];omega) (by simp [VK,Z6]) ?_)
    intro v9
    refine dt (fuel:=1) 2 [11] [(0,.p a 0),(2,Zq am),(6,.i mm),(8,.p b2 0),(16,ZX b.steps),(17,.i b.steps.length),(18,.i k),(75,.p a 0),(86,.agg [.i x1.op,.i 0,.i 0,.i 0,Zb ([x2]++(Y7 (Arm.mk 0 0 [] false).fds (Arm.mk 0 0 [] false).fst)) v9,nl])] (Zm 12 (dc 12 [3,3,3,0] [] [] (Tu n a q rgL vL hcc _ x1.op 0 0 0 ([x2]++(Y7 (Arm.mk 0 0 [] false).fds (Arm.mk 0 0 [] false).fst)) v9 (hx:=(by first|exact UG ⟨by omega,by omega⟩ hra|exact RgI.mk' om (by simp only [ZC,Y5,Yk];omega) (fun q hq=>(ZG.1 hq).elim (fun hq=>by rw [ZW.1 hq];omega) (fun hq=>by first|(have:=QP hq;omega)|(exact absurd hq (by simp [Y7])))))) (hl:=Yf)) ?_))
    rintro _ _ ⟨v25,rg25,hc25,rfl,rfl,hp9⟩
    refine de ?_
    exact ⟨_,_,⟨hc25,v25,rg25,(by first|exact (Em.eq (c:=_) (by assumption) (by rw [JM om]))|exact (Em.eq (c:=_) (by assumption) (by rw [JO om];show _=cc++[ZB _ 0 0 0 (x1.args++Y7 (W9 am (gI x1.args 0)).fds (W9 am (gI x1.args 0)).fst)];rw [hA,hxl]))|exact (Em.eq (c:=_) (by assumption) (by rw [JN om om om om,<-c0_4];rfl))),rfl,rfl⟩,(wk [4,0,0,0] fl)⟩
   refine aE 16 (dT (fuel:=3) 16 [0,1,2,3,4,5,6,7,8,9,10,11,12] [(0,.p a 0),(2,Zq am),(6,.i mm),(8,.p b2 0),(16,ZX b.steps),(17,.i b.steps.length),(18,.i k),(24,.p a 0),(26,.i x1.op),(30,.i q),(32,.i x1.num),(34,.i x1.into),(36,Z1 x1.args)] [0,1,0,0,0] [b2,a,b2,b2,b2] (Zm 13 (dc 13 [] [0,0,1,0] [b2,b2,a,b2] (Kd x1.args) ?_)))
   rintro _ _ ⟨v10,rfl,rfl⟩
   refine Zi (fuel:=1) 2 [14] (.n 38 (.agg [.i x1.op,.i q,.i x1.num,.i x1.into,Zb x1.args v10,nl]) .r) (Zm 15 (dc 15 [2,2,2,0] [] [] (Tu n a q rgL vL hcc _ x1.op (q:Int) x1.num x1.into x1.args v10 (hx:=(by first|exact UG ⟨by omega,by omega⟩ hra|exact RgI.mk' om (by simp only [ZC,Y5,Yk];omega) (fun q hq=>(ZG.1 hq).elim (fun hq=>by rw [ZW.1 hq];omega) (fun hq=>by first|(have:=QP hq;omega)|(exact absurd hq (by simp [Y7])))))) (hl:=Yf)) ?_))
   rintro _ _ ⟨v26,rg26,hc26,rfl,rfl,hp10⟩
   refine de ?_
   exact ⟨_,_,⟨hc26,v26,rg26,(by first|exact (Em.eq (c:=_) (by assumption) (by rw [JM om]))|exact (Em.eq (c:=_) (by assumption) (by rw [JO om];show _=cc++[ZB _ 0 0 0 (x1.args++Y7 (W9 am (gI x1.args 0)).fds (W9 am (gI x1.args 0)).fst)];rw [hA,hxl]))|exact (Em.eq (c:=_) (by assumption) (by rw [JN om om om om,<-c0_4];rfl))),rfl,rfl⟩,(wk [3,0,0,0] fl)⟩
  rintro F h ⟨hcK,vK,rgK,k1_0,rfl,rfl⟩
  refine ar (iR 2 [(0,.p a 0),(2,Zq am),(6,.i mm),(16,ZX b.steps),(17,.i b.steps.length),(18,.i k),(89,.i x1.op)] [0] [b2] (ic [] (Z4w x1.op) ?_))
  rintro _ _ ⟨rfl,rfl⟩
  refine Z0 1 (.n 91 (.b (!Y2 x1.op)) .r) (ie (ac (!Y2 x1.op) (p:=¬(Y2 x1.op=true)) (ZP Iff.rfl) (fun hc8=>?_) (fun hc8=>?_)))
  ·refine az (Za 4 (.n 92 (.p a 0) (.n 95 (.i q) .r)) [1] [a] (ia (((q+1:Nat):Int)) (((q:Int))+(1)) (Z0 2 (.n 98 (.p a 2) .r) (iS 1 a 2 [.i (q+1:Nat)] [Z3 n.decls,Zh n,.i q,.i rgK,.h vK] [Z3 n.decls,Zh n,.i (q+1:Nat),.i rgK,.h vK] (ie (az (ia (((k+1:Nat):Int)) (((k:Int))+(1)) (Z0 1 (.n 18 (.i (k+1:Nat)) (.p (.d (.p (.d (.d (.d (.p (.w (.k .z)))))))))) (ie ?_)))))))))
   have hnc:¬Y2 x1.op=true:=by assumption
   exact ⟨_,_,_,ob,⟨k+1,(Um n vs x1),q+1,(Xj (Y4 n.decls) n.decls (am,q) x1 cc),hcK,vK,rgK,ob,(by have:=Jc n vs x1;omega),g2,(by have h:=Z4l (X:=Y4 n.decls) hx1 c0_3;rw [Z4 hnc] at h;exact h),(by rw [Z5q g1 hnc];simp [c0_4]),om,ob,rfl,rfl,rfl⟩,(wk [0,1,1] (fq (fr (fc (x:=.i (k+1:Nat)) li fl))))⟩
  refine ak (az (ia (((k+1:Nat):Int)) (((k:Int))+(1)) (Z0 1 (.n 18 (.i (k+1:Nat)) (.p (.d (.p (.w (.k .z)))))) (ie ?_))))
  have hyc:Y2 x1.op=true:=XE.1 (by assumption)
  have hsv:=Za6 g1 hyc
  rw [hsv] at g2
  exact ⟨_,_,_,ob,⟨k+1,vs,q,(Xj (Y4 n.decls) n.decls (am,q) x1 cc),hcK,vK,rgK,ob,om,g2,(by have h:=Z4l (X:=Y4 n.decls) hx1 c0_3;rw [Z8 hyc] at h;exact h),ob,om,ob,rfl,rfl,rfl⟩,(wk [1,1,1] (fq (fr (fc (x:=.i (k+1:Nat)) li fl))))⟩
 refine ax 0 (az (ir 4 [(101,.i mm),(103,.p a 2)] (iS 0 a 2 [.i mm] [Z3 n.decls,Zh n,.i q,.i rgL,.h vL] [Z3 n.decls,Zh n,.i mm,.i rgL,.h vL] (ie ?_))))
 exact r2 [0,0,0] [] ⟨vL,rgL,hcc,rfl,(by rw [Zf0,<-Zf6 om c0_3];exact c0_6)⟩ (lr _)
theorem Zs3 (n:Normal) (hn:NOk n) (k:Nat):(∀(b2:Block) (us2:List Int) (am2:List Arm) (mm2:Nat) (a:Nat) (rg2:Int) (v2:Hd) (hc2:List HInstr) (c2:List Instr),(Em rg2 hc2 c2)->(us2.length=mm2)->(0<=ZF n us2 b2)->(V4 am2 mm2)->(am2.length+b2.sz<=800000000)->(mm2+4*b2.sz<=40000100)->(c2.length+16*b2.sz<=4000000000)->(b2.sz<=k)->Zd Tryz.prog 22 [.p a 0,Zx b2,Zq am2] [.obj a [Z3 n.decls,Zh n,.i mm2,.i rg2,.h v2],rK v2 6 (Z9 (ZO hc2)),.many (ZY hc2)] (fun r h=>∃(v3:Hd) (rg3:Int) (hc3:List HInstr),h=[.obj a [Z3 n.decls,Zh n,.i mm2,.i rg3,.h v3],rK v3 6 (Z9 (ZO hc3)),.many (ZY hc3)]/\Em rg3 hc3 (flB (Y4 n.decls) n.decls (am2,mm2) b2 c2)))/\(∀(s2:Step) (us2:List Int) (am2:List Arm) (mm2:Nat) (a:Nat) (rg2:Int) (v2:Hd) (hc2:List HInstr) (c2:List Instr),(Em rg2 hc2 c2)->(s2.op=7)->(us2.length=mm2)->(0<=Zp n us2 s2)->(V4 am2 mm2)->(am2.length+s2.sz<=800000000)->(mm2+4*s2.sz<=40000100)->(c2.length+16*s2.sz<=4000000000)->(s2.sz<=k)->Zd Tryz.prog 50 [.p a 0,ZN s2,Zq am2] [.obj a [Z3 n.decls,Zh n,.i mm2,.i rg2,.h v2],rK v2 6 (Z9 (ZO hc2)),.many (ZY hc2)] (fun r h=>∃(v3:Hd) (rg3:Int) (hc3:List HInstr),h=[.obj a [Z3 n.decls,Zh n,.i mm2,.i rg3,.h v3],rK v3 6 (Z9 (ZO hc3)),.many (ZY hc3)]/\Em rg3 hc3 (Xj (Y4 n.decls) n.decls (am2,mm2) s2 c2)))/\(∀(s2:Step) (us2:List Int) (am2:List Arm) (mm2:Nat) (a:Nat) (rg2:Int) (v2:Hd) (hc2:List HInstr) (c2:List Instr),(Em rg2 hc2 c2)->(s2.op=8)->(us2.length=mm2)->(0<=Zp n us2 s2)->(V4 am2 mm2)->(am2.length+s2.sz<=800000000)->(mm2+4*s2.sz<=40000100)->(c2.length+16*s2.sz<=4000000000)->(s2.sz<=k)->Zd Tryz.prog 51 [.p a 0,ZN s2,Zq am2] [.obj a [Z3 n.decls,Zh n,.i mm2,.i rg2,.h v2],rK v2 6 (Z9 (ZO hc2)),.many (ZY hc2)] (fun r h=>∃(v3:Hd) (rg3:Int) (hc3:List HInstr),h=[.obj a [Z3 n.decls,Zh n,.i mm2,.i rg3,.h v3],rK v3 6 (Z9 (ZO hc3)),.many (ZY hc3)]/\Em rg3 hc3 (Xj (Y4 n.decls) n.decls (am2,mm2) s2 c2))):=by
 induction k with
 | zero=>exact ⟨fun b us am mm a rg v hc c h1 h2 h3 h4 h5 h6 h7 h8=>by have:=b.sz_eq;omega,fun s us am mm a rg v hc c h1 h2 h3 h4 h5 h6 h7 h8 h9=>by have:=s.sz_pos;omega,fun s us am mm a rg v hc c h1 h2 h3 h4 h5 h6 h7 h8 h9=>by have:=s.sz_pos;omega⟩
 | succ k ih=>exact ⟨fun b us am mm a rg v hc c h1 h2 h3 h4 h5 h6 h7 h8=>Zrv n b us am mm a rg v hc c hn h1 h2 h3 h4 h5 h6 h7 (fun s u am mm a rg v hc c q1 q2 q3 q4 q5 q6 q7 q8 q9=>ih.2.1 s u am mm a rg v hc c q1 q2 q3 q4 q5 q6 q7 q8 om) (fun s u am mm a rg v hc c q1 q2 q3 q4 q5 q6 q7 q8 q9=>ih.2.2 s u am mm a rg v hc c q1 q2 q3 q4 q5 q6 q7 q8 om),
   fun s us am mm a rg v hc c h1 h2 h3 h4 h5 h6 h7 h8 h9=>Zrw n s us am mm a rg v hc c hn h1 h2 h3 h4 h5 h6 h7 h8 (fun b u am mm a rg v hc c q1 q2 q3 q4 q5 q6 q7 q8=>ih.1 b u am mm a rg v hc c q1 q2 q3 q4 q5 q6 q7 om),
   fun s us am mm a rg v hc c h1 h2 h3 h4 h5 h6 h7 h8 h9=>Zs6 n s us am mm a rg v hc c hn h1 h2 h3 h4 h5 h6 h7 h8 (fun b u am mm a rg v hc c q1 q2 q3 q4 q5 q6 q7 q8=>ih.1 b u am mm a rg v hc c q1 q2 q3 q4 q5 q6 q7 om)⟩
theorem Zs2 (n:Normal) (b:Block) (us:List Int) (am:List Arm) (mm:Nat) (a:Nat) (rg:Int) (v:Hd) (hc:List HInstr) (c:List Instr) (hn:NOk n:=by exact ob) (hE:Em rg hc c:=by exact ob) (hm:us.length=mm:=by exact ob) (ht:0<=ZF n us b:=by exact ob) (ha:V4 am mm:=by exact ob) (hal:am.length+b.sz<=800000000:=by exact ob) (hb:mm+4*b.sz<=40000100:=by exact ob) (hcn:c.length+16*b.sz<=4000000000:=by exact ob):Zd Tryz.prog 22 [.p a 0,Zx b,Zq am] [.obj a [Z3 n.decls,Zh n,.i mm,.i rg,.h v],rK v 6 (Z9 (ZO hc)),.many (ZY hc)] (fun r h=>∃(v3:Hd) (rg3:Int) (hc3:List HInstr),h=[.obj a [Z3 n.decls,Zh n,.i mm,.i rg3,.h v3],rK v3 6 (Z9 (ZO hc3)),.many (ZY hc3)]/\Em rg3 hc3 (flB (Y4 n.decls) n.decls (am,mm) b c)):=(Zs3 n hn b.sz).1 b us am mm a rg v hc c hE hm ht ha hal hb hcn (Yp _)
theorem Zrn (n:Normal) (hz:NSz n) (hr:∀r∈n.routines,r.body.rng):Zd Tryz.prog 7 [ZJ n] [] (fun r h=>∃(y:HImage),r=.tup [UH y,.b ((Yb n).2)]/\h=[.many (WG y)]/\y.er=(Yb n).1):=by
 refine enter Tryz.func7 kr (n:=73) kr kr (ar (iA (ZU n) ?_))
 intro b1
 refine iA [nl,nl] ?_
 intro b2
 refine ir 1 [(1,.p b1 0),(2,.p b2 0)] (ie (aq (ar (Za 1 (.n 10 (ZJ n) .r) [1] [b1] (ic [] (Zrm n (hr:=hr)) ?_)))))
 rintro _ _ ⟨rfl,rfl⟩
 refine Z0 1 (.n 12 (.b (!Ws n)) .r) (ie (ac (!Ws n) (p:=¬(Ws n=true)) (ZP Iff.rfl) (fun hc1=>?_) (fun hc1=>?_)))
 ·refine ar (Z0 1 (.n 13 (.agg [nl,nl]) .r) (iS 0 b2 0 [nl,nl] [nl,nl] [nl,nl] (Z0 1 (.n 3 (.b false) .r) (ie ?_))))
  have hE:=Z8f hc1
  refine U7 5 (U7 3 (XA (tB [0,0] [.tail (.slice none 0 0) 3,.tail (.slice none 0 0) 5] (((.slice none 0 0),3)::(((.slice none 0 0),5)::[])) (WG (HImage.mk [] (.slice none 0 0) [] (.slice none 0 0))) (by simp [WH,WF,WN,WO,WP,WQ,WM,YC,YB,Xk,YO,YD,Yn,YP,XJ,XK,XL,YT,Kn,Z2g,ZY,Wx,Tt,Ko,WG])) ?_))
  exact Z5 (r3 [0] [.agg [nl,nl],.b false] [1] [(b2,b2)] ⟨(HImage.mk [] (.slice none 0 0) [] (.slice none 0 0)),rfl,rfl,(by rw [hE];rfl)⟩ (Zg.tup (.cons (lr _) (.cons (lb (by rw [hE])) .nil))))
 have hB:Ws n=true:=XE.1 hc1
 obtain ⟨hn,hsg,hbt⟩:=KN hz hB
 have hzl:=hn.len
 have hdk:=hn.decls
 refine ak (ar (Za 1 (.n 15 (ZJ n) .r) [1] [b1] (ic [] (Zg0 n ob ob) ?_)))
 rintro _ _ ⟨rfl,rfl⟩
 refine Z0 3 (.n 17 (.agg [Z3 n.decls,Zh n]) (.n 18 (.b (XF n)) .r)) (iA [nl,nl] ?_)
 intro b3
 refine iS 0 b3 0 [Z3 n.decls,Zh n] [nl,nl] [Z3 n.decls,Zh n] (Z0 1 .r (ie (ar (Za 2 (.n 20 (Z3 n.decls) .r) [2] [b1] (ic [] (Zrx n.decls (hd:=hn.decls)) ?_)))))
 rintro _ _ ⟨ys1,w1,rfl,rfl,hp1⟩
 have hde:=hp1
 refine Z0 1 (.n 22 (.agg [Vk ys1 w1,nl]) .r) (iA [nl,nl] ?_)
 intro b4
 refine iS 0 b4 0 [Vk ys1 w1,nl] [nl,nl] [Vk ys1 w1,nl] (ie (aq (ar (Za 2 (.n 24 (Yh n.routines) .r) [5] [b1] (iw (VY n.routines) (Z0 1 (.n 26 (.i 0) .r) (ie (ab 0 (U7 5 (XA (tB [] [] [] (Wx []) (by simp [WH,WF,WN,WO,WP,WQ,WM,YC,YB,Xk,YO,YD,Yn,YP,XJ,XK,XL,YT,Kn,Z2g,ZY,Wx,Tt,Ko,WG])) (al (fun m F h=>∃(k:Nat) (xs:List HProc) (w:Value),(k<=n.routines.length)/\(xs.map HProc.er=((n.routines.take k).map (Vb n.decls)))/\(xs.length=k)/\(U5 n.decls (n.routines.drop k)=U5 n.decls n.routines)/\F=[(2,.p b2 0),(4,.p b3 0),(6,.p b4 0),(24,Yh n.routines),(25,.i n.routines.length),(26,.i k)]/\h=[.obj b4 [Vk ys1 w1,QU xs w],.many (Yn ys1),.obj b3 [Z3 n.decls,Zh n],.obj b2 [nl,nl],.tail w 5,.tail w1 3,.many (Wx xs)]/\m=n.routines.length-k) _ _ _ ⟨0,[],(.slice none 0 0),ob,rfl,rfl,rfl,rfl,rfl,rfl⟩ (wk [2,2,3,3,1,1,0] (fq (fr (fc (x:=.i 0) li fl)))) ?_)))))))))))
 rintro m F h ⟨k,xs,w,c0_0,c0_1,c0_2,c0_3,rfl,rfl,rfl⟩
 refine ar (Z0 1 (.n 27 (.b (decide ((k:Int)<(n.routines.length:Int)))) .r) (ie (aq (ac (decide ((k:Int)<(n.routines.length:Int))) dq (fun hc2=>?_) (fun hc2=>?_)))))
 ·refine ak (aq (ab 1 (ar ?_)))
  obtain ⟨x1,hx1⟩:=Zl (xs:=n.routines) (j:=k) om
  have hrm:=ZV hx1
  have hbz:=hz.body _ hrm
  have hpl:=hn.params_at hx1
  have hll:=hn.lent_at hx1
  have hbt1:=hbt _ hrm
  have hcl:=Z7e hz hB _ hrm
  have hfl:=TU (Y4 n.decls) hdk (x1).body ([],(x1).params.length) []
  simp only [Yk] at hfl
  have hrb:=((QW _).1 (Jb (n:=n) (us:=(x1).params) (x1).body om hdk hbt1)).2
  refine Zf (Zj (es:=WD n.routines) (hv:=none) (j:=(k:Int)) (sz:=5) (y:=Xc x1) kr om (VX hx1) rfl) (Z0 1 (.n 29 (Xc x1) .r) (iA [nl,nl,.i 0,nl,.i 0] ?_))
  intro b5
  refine iS 0 b5 0 (WI x1) [nl,nl,.i 0,nl,.i 0] (WI x1) (ie (ar (Za 3 (.n 30 (.agg [Z3 n.decls,Zh n]) (.n 32 (Z1 x1.params) .r)) [3,0] [b3,b5] (iw (ZD x1.params) (Z0 1 (.n 34 (.agg [Z3 n.decls,Zh n,.i x1.params.length,.i 0,nl]) .r) (iA [nl,nl,.i 0,.i 0,nl] ?_))))))
  intro b6
  refine iS 0 b6 0 [Z3 n.decls,Zh n,.i x1.params.length,.i 0,nl] [nl,nl,.i 0,.i 0,nl] [Z3 n.decls,Zh n,.i x1.params.length,.i 0,nl] (WR (Zb7 0 b6 [Z3 n.decls,Zh n,.i x1.params.length,.i 0,nl] [Z3 n.decls,Zh n,.i x1.params.length,.i 0,.h hN] (.cons (lr _) (.cons (lr _) (.cons (lr _) (.cons (lr _) (.cons (Zg.hd (v:=hN)) .nil)))))) (WR (Y0k) (WR (tB [] [] [] (ZY []) rfl) (ie (ar (iR 2 [(2,.p b2 0),(4,.p b3 0),(6,.p b4 0),(8,.p b5 0),(9,.p b6 0),(24,Yh n.routines),(25,.i n.routines.length),(26,.i k),(36,Zx x1.body)] [3] [b5] (ic [2,1,0] (Zd.args_le (Zs2 n x1.body x1.params [] x1.params.length b6 0 hN [] [] (hE:=⟨rfl,rfl⟩) (ht:=hbt1) (ha:=(Zmh _)) (hal:=(by simp only [Yk];omega)) (hb:=om) (hcn:=(by simp only [Yk];omega))) (.cons (lr _) (.cons (lr _) (.cons (Zg.forget [] (some Zhf)) .nil)))) ?_)))))))
  rintro _ _ ⟨v31,rg31,hc31,rfl,hp2⟩
  refine ie (ar (Za 3 (.n 40 (.i x1.body.result) (.p .r)) [3] [b5] (iL (Z6 [x1.body.result]) 1 1 ?_)))
  intro v1
  refine Z0 1 (.n 42 (.agg [.i 23,.i 0,.i 0,.i 0,Zb [x1.body.result] v1,nl]) .r) (ic [1,1,1,0] (Tu n b6 x1.params.length rg31 v31 hc31 _ 23 0 0 0 [x1.body.result] v1 (hx:=(.mk' om (by simp) (fun a ha=>by rw [ZW.1 ha];omega))) (hl:=om)) ?_)
  rintro _ _ ⟨v21,rg21,hc21,rfl,rfl,hp3⟩
  have hEm:=hp3
  have hEl:_=(Wa n.decls x1).length:=hEm.len
  refine WR (Zko 1 0 4 v21.v 6 b6 (ZO hc21) [Z3 n.decls,Zh n,.i x1.params.length,.i rg21,.h v21] (Z7t _) rfl) (ie (aq (ar (iR 2 [(2,.p b2 0),(4,.p b3 0),(6,.p b4 0),(8,.p b5 0),(9,.p b6 0),(24,Yh n.routines),(25,.i n.routines.length),(26,.i k),(45,Z5e hc21 v21.v)] [0] [b6] (iw (Zdu hc21) (Z0 1 (.n 47 (.b (decide ((hc21.length:Int)>2000))) .r) (ie (ac (decide ((hc21.length:Int)>2000)) dq (fun hc3=>?_) (fun hc3=>?_)))))))))
  ·refine ar (Z0 1 (.n 48 (.agg [nl,nl]) .r) (iS 7 b2 0 [nl,nl] [nl,nl] [nl,nl] (Z0 1 (.n 3 (.b false) .r) (ie ?_))))
   have hE:=Z8e (Zje hx1 om c0_3)
   refine U7 5 (U7 3 (XA (tB [0,0] [.tail (.slice none 0 0) 3,.tail (.slice none 0 0) 5] (((.slice none 0 0),3)::(((.slice none 0 0),5)::[])) (WG (HImage.mk [] (.slice none 0 0) [] (.slice none 0 0))) (by simp [WH,WF,WN,WO,WP,WQ,WM,YC,YB,Xk,YO,YD,Yn,YP,XJ,XK,XL,YT,Kn,Z2g,ZY,Wx,Tt,Ko,WG])) ?_))
   exact Z5 (r3 [0] [.agg [nl,nl],.b false] [1] [(b2,b2)] ⟨(HImage.mk [] (.slice none 0 0) [] (.slice none 0 0)),rfl,rfl,(by rw [hE];rfl)⟩ (Zg.tup (.cons (lr _) (.cons (lb (by rw [hE])) .nil))))
  refine ak (aE 23 (ZI (fuel:=11) 23 [0,1,2,3,5,6,8,9,10,11,12,13] (.n 50 (QU xs w) (.n 52 (Z1 x1.params) (.n 55 (Z1 x1.lent) (.n 58 (.i x1.result) (.n 60 (.i rg21) (.n 62 (Z1 x1.params) .r)))))) [4,3,3,3,0,3] [b4,b5,b5,b5,b6,b5] (dw 14 (ZD x1.params) (dx 15 (Z2l rg21 (x1.params.length:Int)) (ZI (fuel:=7) 9 [16,17] (.n 66 (Z5e hc21 v21.v) .r) [0] [b6] (Zm 4 (dc 4 [] [0,1,0,1,1,2] [b6,b5,b6,b5,b5,b4] (Kd x1.params) ?_)))))))
  rintro _ _ ⟨v2,rfl,rfl⟩
  refine Zm 7 (dc 7 [] [0,1,0,1,2] [b6,b5,b6,b5,b4] (Kd x1.lent) ?_)
  rintro _ _ ⟨v3,rfl,rfl⟩
  refine Zi (fuel:=4) 5 [18] (.n 67 (.agg [Zb x1.params v2,Zb x1.lent v3,.i x1.result,.i (max rg21 (x1.params.length:Int)),Z5e hc21 v21.v]) .r) (Zm 19 (dL 19 [2] [b4] (Vt [(HProc.mk x1.params v2 x1.lent v3 x1.result (max rg21 (x1.params.length:Int)) hc21 v21.v)]) 1 5 ?_))
  intro v4
  refine Zi (fuel:=3) 3 [] (.n 68 (Zuu [(HProc.mk x1.params v2 x1.lent v3 x1.result (max rg21 (x1.params.length:Int)) hc21 v21.v)]) (.p .r)) (Zm 20 (dp 20 11 [] [] (Vt (xs++[(HProc.mk x1.params v2 x1.lent v3 x1.result (max rg21 (x1.params.length:Int)) hc21 v21.v)])) (Vt xs) (Vt [(HProc.mk x1.params v2 x1.lent v3 x1.result (max rg21 (x1.params.length:Int)) hc21 v21.v)]) w none 5 (Zdv _) (Zdv _) (Zp5 _) (by simp<;>omega) (by simp [Zp3,Vt]) ?_))
  intro v5
  refine Kf (tB [13,3,2,4,3] [.many (Wx xs),.tail v2 1,.tail v3 1,.many (ZY hc21),.tail v21.v 6] (Wx xs++((v2,1)::((v3,1)::(ZY hc21++((v21.v,6)::[]))))) (Wx (xs++[(HProc.mk x1.params v2 x1.lent v3 x1.result (max rg21 (x1.params.length:Int)) hc21 v21.v)])) (by simp [WH,WF,WN,WO,WP,WQ,WM,YC,YB,Xk,YO,YD,Yn,YP,XJ,XK,XL,YT,Kn,Z2g,ZY,Wx,Tt,Ko,WG])) (Zi (fuel:=1) 2 [21] (.n 70 (.p b4 1) .r) (Zm 22 (dS 22 5 [] [] b4 1 [QU (xs++[(HProc.mk x1.params v2 x1.lent v3 x1.result (max rg21 (x1.params.length:Int)) hc21 v21.v)]) v5] [Vk ys1 w1,QU xs w] [Vk ys1 w1,QU (xs++[(HProc.mk x1.params v2 x1.lent v3 x1.result (max rg21 (x1.params.length:Int)) hc21 v21.v)]) v5] (de (az (ia (((k+1:Nat):Int)) (((k:Int))+(1)) (ir 1 [(2,.p b2 0),(4,.p b3 0),(6,.p b4 0),(24,Yh n.routines),(25,.i n.routines.length),(26,.i (k+1:Nat))] (ie ?_))))))))
  exact ⟨_,_,_,ob,⟨k+1,(xs++[(HProc.mk x1.params v2 x1.lent v3 x1.result (max rg21 (x1.params.length:Int)) hc21 v21.v)]),v5,ob,(by rw [List.map_append,c0_1,V3 hx1,List.map_append];exact Y1 (fun z=>_++[z]) (show Proc.mk x1.params x1.lent x1.result (max _ _) _=Vb n.decls x1 by rw [hEm.rg];exact Y1 (Proc.mk _ _ _ _) hEm.er)),(by simp [c0_2]),(Zjd hx1 om c0_3),rfl,rfl,rfl⟩,(wk [0,5,5,5,1,4,0] (fq (fr (fc (x:=.i (k+1:Nat)) li fl))))⟩
 refine ax 0 (ar (Za 1 (.n 72 (.agg [Vk ys1 w1,QU xs w]) .r) [0] [b4] (iS 3 b2 0 [Vk ys1 w1,QU xs w] [nl,nl] [Vk ys1 w1,QU xs w] (Z0 1 (.n 3 (.b true) .r) (ie ?_)))))
 have hE:=Z8h hB (Zjc om c0_3)
 refine XA (tB [2,4,4,3] [.many (Yn ys1),.tail w1 3,.many (Wx xs),.tail w 5] (Yn ys1++((w1,3)::(Wx xs++((w,5)::[])))) (WG (HImage.mk ys1 w1 xs w)) (by simp [WH,WF,WN,WO,WP,WQ,WM,YC,YB,Xk,YO,YD,Yn,YP,XJ,XK,XL,YT,Kn,Z2g,ZY,Wx,Tt,Ko,WG])) ?_
 exact Z5 (r3 [0] [.agg [Vk ys1 w1,QU xs w],.b true] [1] [(b2,b2)] ⟨(HImage.mk ys1 w1 xs w),rfl,rfl,(by rw [hE];show Image.mk (ys1.map HDecl.er) (xs.map HProc.er)=WZ n;rw [hde,c0_1,W7 om];rfl)⟩ (Zg.tup (.cons (lr _) (.cons (lb (by rw [hE])) .nil))))
theorem Z62 (xs:List Int) (hl_xs:xs.length<=4294967296:=by exact ob):Zd Tryz.prog 80 [Z1 xs] [] (fun r h=>∃(v:Value),r=Zb xs v/\h=[.tail v 1]):=by
 refine enter Tryz.func80 kr (n:=22) kr kr (ar (ir 1 [(0,Z1 xs)] (ie (ar (Z0 1 (.n 5 (Z1 xs) .r) (iw (ZD xs) (iKM xs.length [AV.i 0] 1 ?_)))))))
 intro g1
 refine Z0 1 (.n 3 (.ms g1 0 xs.length xs.length) .r) (ie (aq (ar (Z0 1 (.n 4 (.i 0) .r) (ie (ab 0 (al (fun m F h=>∃(k:Nat),(k<=xs.length)/\F=[(0,Z1 xs),(3,.ms g1 0 xs.length xs.length),(4,.i k)]/\h=[.row (.slice (some ⟨g1,0,none⟩) xs.length xs.length) 1 (Z9 (Z6 (xs.take k))++(List.replicate (xs.length-k) ([.i 0]:List AV)).flatten)]/\m=xs.length-k) _ _ _ ⟨0,ob,rfl,rfl,rfl⟩ (wk [0] (fw (fc (x:=.i 0) li fl)) (e:=(rr (ls:=(List.replicate xs.length [AV.i 0]).flatten) (by rfl) rz))) ?_)))))))
 rintro m F h ⟨k,c0_0,rfl,rfl,rfl⟩
 refine aq (ar (Z0 2 (.n 8 (.i k) (.n 9 (Z1 xs) .r)) (iw (ZD xs) (Z0 1 (.n 11 (.b (decide ((k:Int)<(xs.length:Int)))) .r) (ie (ac (decide ((k:Int)<(xs.length:Int))) dq (fun hc1=>?_) (fun hc1=>?_)))))))
 ·refine ak (aq (ab 1 (az (Z0 4 (.n 14 (.ms g1 0 xs.length xs.length) (.n 15 (.i k) (.n 16 (Z1 xs) (.n 17 (.i k) .r)))) ?_))))
  obtain ⟨x1,hx1⟩:=Zl (xs:=xs) (j:=k) om
  refine Zf (Zj (es:=Z6 xs) (hv:=none) (j:=(k:Int)) (sz:=1) (y:=.i x1) kr om (ZH hx1) rfl) (Z0 1 (.n 19 (.i x1) .r) (Zf (Uk g1 xs.length xs.length k 1 (k:Int)) (KU 0 g1 xs.length xs.length 1 (k*1) [.i x1] (Z9 (Z6 (xs.take k))++(List.replicate (xs.length-k) ([.i 0]:List AV)).flatten) (Z9 (Z6 (xs.take k))++([AV.i x1]++(List.replicate (xs.length-(k+1)) ([.i 0]:List AV)).flatten)) (by rw [Z13 (a:=0) (q:=1) (by rw [Zfd,TL,Qi c0_0]) c0_0 rfl];simp;omega) (by rw [Z14 om];exact Qu (by rw [Zfd,TL,Qi c0_0]) rfl) (ie (az (Z0 1 (.n 12 (.i k) .r) (ia (((k+1:Nat):Int)) (((k:Int))+(1)) (ir 1 [(0,Z1 xs),(3,.ms g1 0 xs.length xs.length),(4,.i (k+1:Nat))] (ie ?_)))))))))
  exact ⟨_,_,_,ob,⟨k+1,ob,rfl,rfl,rfl⟩,(wk [0] (fw (fc (x:=.i (k+1:Nat)) li fl)) (e:=(rr (ls:=Z9 (Z6 (xs.take k))++([AV.i x1]++(List.replicate (xs.length-(k+1)) ([.i 0]:List AV)).flatten)) (Zwp hx1) rz)))⟩
 refine ax 0 (ar (ir 2 [(2,.ms g1 0 xs.length xs.length)] (ie (XA (K4 0 (.slice (some ⟨g1,0,none⟩) xs.length xs.length) 1 (Z9 (Z6 (xs.take k))++(List.replicate (xs.length-k) ([.i 0]:List AV)).flatten) (Z9 (Z6 xs)) (by rw [Z12 om,W7 om])) (JR 2 0 (v:=(⟨some ⟨g1,0,none⟩,xs.length,xs.length⟩:Hd)) (Z6 xs) (YS _) ?_)))))
 exact Z5 (r1 [0] ⟨(⟨some ⟨g1,0,none⟩,xs.length,xs.length⟩:Hd).v,rfl,rfl⟩)
theorem Y08 (x:Con) (hl:Vr x<=1000000000:=by exact ob):Zd Tryz.prog 116 [Wm x] [] (fun r h=>∃(y:HCon),r=Z6h y/\h=[.many (XJ y)]/\y.er=x):=by
 refine enter Tryz.func116 kr (n:=9) kr kr (ar (iA (UP x) ?_))
 intro b1
 refine iA [nl] ?_
 intro b2
 refine ie (ar (iA [nl] ?_))
 intro b3
 refine ie (ar (iR 2 [(2,.p b2 0),(3,.p b3 0),(5,Z1 x.fields)] [2] [b1] (ic [] (Z62 x.fields (hl_xs:=(by have h:=hl;unfold Vr at h;omega))) ?_)))
 rintro _ _ ⟨v1,rfl,rfl⟩
 refine Z0 1 (.n 7 (.p b3 0) .r) (iS 1 b3 0 [Zb x.fields v1] [nl] [Zb x.fields v1] (ie (ar (Za 1 (.n 8 (.agg [Zb x.fields v1]) .r) [0] [b3] (iS 2 b2 0 [Zb x.fields v1] [nl] [Zb x.fields v1] (ie (XA (tB [2] [.tail v1 1] ((v1,1)::[]) (XJ (HCon.mk x.fields v1)) (by simp [WH,WF,WN,WO,WP,WQ,WM,YC,YB,Xk,YO,YD,Yn,YP,XJ,XK,XL,YT])) ?_)))))))
 exact Z5 (r3 [0] [.agg [Zb x.fields v1]] [1] [(b2,b2)] ⟨(HCon.mk x.fields v1),rfl,rfl,rfl⟩ (lr _))
theorem Y09 (xs:List Con) (hl:WC xs<=1000000000:=by exact ob):Zd Tryz.prog 79 [Y8 xs] [] (fun r h=>∃(ys:List HCon) (w:Value),r=Q3 ys w/\h=[.many (YD ys),.tail w 1]/\ys.map HCon.er=xs):=by
 refine enter Tryz.func79 kr (n:=23) kr kr (ar (ir 1 [(0,Y8 xs)] (ie (ar (Z0 1 (.n 5 (Y8 xs) .r) (iw (Wc xs) (iKM xs.length [nl] 1 ?_ (hl:=(by have h:=hl;unfold WC at h;omega)))))))))
 intro g1
 refine Z0 1 (.n 3 (.ms g1 0 xs.length xs.length) .r) (ie (aq (ar (Z0 1 (.n 4 (.i 0) .r) (ie (ab 0 (XA (tB [] [] [] (YD []) (by simp [WH,WF,WN,WO,WP,WQ,WM,YC,YB,Xk,YO,YD,Yn,YP,XJ,XK,XL,YT])) (al (fun m F h=>∃(k:Nat) (ys:List HCon),(k<=xs.length)/\(ys.map HCon.er=xs.take k)/\(ys.length=k)/\F=[(0,Y8 xs),(3,.ms g1 0 xs.length xs.length),(4,.i k)]/\h=[.row (.slice (some ⟨g1,0,none⟩) xs.length xs.length) 1 (Z9 (Xp ys)++(List.replicate (xs.length-k) ([nl]:List AV)).flatten),.many (YD ys)]/\m=xs.length-k) _ _ _ ⟨0,[],ob,rfl,rfl,rfl,rfl,rfl⟩ (wk [1,0] (fw (fc (x:=.i 0) li fl)) (e:=(rr (ls:=(List.replicate xs.length [nl]).flatten) (by rfl) (rc rz)))) ?_))))))))
 rintro m F h ⟨k,ys,c0_0,c0_1,c0_2,rfl,rfl,rfl⟩
 refine aq (ar (Z0 2 (.n 8 (.i k) (.n 9 (Y8 xs) .r)) (iw (Wc xs) (Z0 1 (.n 11 (.b (decide ((k:Int)<(xs.length:Int)))) .r) (ie (ac (decide ((k:Int)<(xs.length:Int))) dq (fun hc1=>?_) (fun hc1=>?_)))))))
 ·refine ak (aq (ab 1 (az (Z0 4 (.n 14 (.ms g1 0 xs.length xs.length) (.n 15 (.i k) (.n 16 (Y8 xs) (.n 17 (.i k) .r)))) ?_))))
  obtain ⟨x1,hx1⟩:=Zl (xs:=xs) (j:=k) om
  have hcl:=Z42 hx1
  have hl2:=hl
  unfold WC at hl2
  refine Zf (Zj (es:=YH xs) (hv:=none) (j:=(k:Int)) (sz:=1) (y:=Wm x1) kr om (Qq hx1) rfl) (Z0 1 (.n 19 (Wm x1) .r) (ic [] (Y08 x1) ?_))
  rintro _ _ ⟨y1,rfl,rfl,hp1⟩
  have hy:=hp1
  refine Zf (Uk g1 xs.length xs.length k 1 (k:Int)) (KU 1 g1 xs.length xs.length 1 (k*1) (KX y1) (Z9 (Xp ys)++(List.replicate (xs.length-k) ([nl]:List AV)).flatten) (Z9 (Xp ys)++(KX y1++(List.replicate (xs.length-(k+1)) ([nl]:List AV)).flatten)) (by rw [Z13 (a:=0) (q:=1) (by rw [Zf9,c0_2]) c0_0 rfl];simp;omega) (by rw [Z14 om];exact Qu (by rw [Zf9,c0_2]) rfl) (WR (tB [2,1] [.many (YD ys),.many (XJ y1)] (YD ys++(XJ y1++[])) (YD (ys++[y1])) (by simp [WH,WF,WN,WO,WP,WQ,WM,YC,YB,Xk,YO,YD,Yn,YP,XJ,XK,XL,YT])) (ie (az (Z0 1 (.n 12 (.i k) .r) (ia (((k+1:Nat):Int)) (((k:Int))+(1)) (ir 1 [(0,Y8 xs),(3,.ms g1 0 xs.length xs.length),(4,.i (k+1:Nat))] (ie ?_))))))))
  exact ⟨_,_,_,ob,⟨k+1,(ys++[y1]),ob,(Z2p c0_1 hx1 hy),(by simp [c0_2]),rfl,rfl,rfl⟩,(wk [1,0] (fw (fc (x:=.i (k+1:Nat)) li fl)) (e:=(rr (ls:=Z9 (Xp ys)++(KX y1++(List.replicate (xs.length-(k+1)) ([nl]:List AV)).flatten)) Zwl (rc rz))))⟩
 refine ax 0 (ar (ir 2 [(2,.ms g1 0 xs.length xs.length)] (ie (XA (K4 0 (.slice (some ⟨g1,0,none⟩) xs.length xs.length) 1 (Z9 (Xp ys)++(List.replicate (xs.length-k) ([nl]:List AV)).flatten) (Z9 (Xp ys)) (Z12 om)) (JR 2 0 (v:=(⟨some ⟨g1,0,none⟩,xs.length,xs.length⟩:Hd)) (Xp ys) (Z7r _) ?_)))))
 exact Z5 (r1 [1,0] ⟨ys,(⟨some ⟨g1,0,none⟩,xs.length,xs.length⟩:Hd).v,rfl,rfl,(by rw [c0_1,W7 om])⟩)
theorem Y0a (x:Decl) (hl:Wn x<=1000000000:=by exact ob):Zd Tryz.prog 43 [Yw x] [] (fun r h=>∃(y:HDecl),r=Z6i y/\h=[.many (XK y)]/\y.er=x):=by
 refine enter Tryz.func43 kr (n:=15) kr kr (ar (iA (Ys x) ?_))
 intro b1
 refine iA [.i 0,.i 0,nl] ?_
 intro b2
 refine ie (ar (iA [.i 0,.i 0,nl] ?_))
 intro b3
 refine ie (ar (iR 3 [(1,.p b1 0),(2,.p b2 0),(3,.p b3 0),(5,.i x.frm),(6,.p b3 0)] [2] [b1] (iS 0 b3 0 [.i x.frm] [.i 0,.i 0,nl] [.i x.frm,.i 0,nl] (ie (ar (Za 3 (.n 8 (.i x.to_) (.n 9 (.p b3 1) .r)) [2] [b1] (iS 0 b3 1 [.i x.to_] [.i x.frm,.i 0,nl] [.i x.frm,.i x.to_,nl] (ie (ar (Za 2 (.n 11 (Y8 x.cons) .r) [2] [b1] (ic [] (Y09 x.cons (hl:=(by have h:=hl;unfold Wn at h;exact h))) ?_)))))))))))
 rintro _ _ ⟨ys1,w1,rfl,rfl,hp1⟩
 have hy:=hp1
 refine Z0 1 (.n 13 (.p b3 2) .r) (iS 2 b3 2 [Q3 ys1 w1] [.i x.frm,.i x.to_,nl] [.i x.frm,.i x.to_,Q3 ys1 w1] (ie (ar (Za 1 (.n 14 (.agg [.i x.frm,.i x.to_,Q3 ys1 w1]) .r) [0] [b3] (iS 3 b2 0 [.i x.frm,.i x.to_,Q3 ys1 w1] [.i 0,.i 0,nl] [.i x.frm,.i x.to_,Q3 ys1 w1] (ie (XA (tB [2,2] [.many (YD ys1),.tail w1 1] (YD ys1++((w1,1)::[])) (XK (HDecl.mk x.frm x.to_ ys1 w1)) (by simp [WH,WF,WN,WO,WP,WQ,WM,YC,YB,Xk,YO,YD,Yn,YP,XJ,XK,XL,YT])) ?_)))))))
 exact Z5 (r3 [0] [.agg [.i x.frm,.i x.to_,Q3 ys1 w1]] [1] [(b2,b2)] ⟨(HDecl.mk x.frm x.to_ ys1 w1),rfl,rfl,(by show Decl.mk _ _ _=_;rw [hy])⟩ (lr _))
theorem Y0b (xs:List Decl) (hl:X1 xs<=1000000000:=by exact ob):Zd Tryz.prog 17 [Z3 xs] [] (fun r h=>∃(ys:List HDecl) (w:Value),r=Vk ys w/\h=[.many (Yn ys),.tail w 3]/\ys.map HDecl.er=xs):=by
 refine enter Tryz.func17 kr (n:=23) kr kr (ar (ir 1 [(0,Z3 xs)] (ie (ar (Z0 1 (.n 5 (Z3 xs) .r) (iw (Wv xs) (iKM xs.length [.i 0,.i 0,nl] 3 ?_ (hl:=(by have h:=hl;unfold X1 at h;omega)))))))))
 intro g1
 refine Z0 1 (.n 3 (.ms g1 0 xs.length xs.length) .r) (ie (aq (ar (Z0 1 (.n 4 (.i 0) .r) (ie (ab 0 (XA (tB [] [] [] (Yn []) (by simp [WH,WF,WN,WO,WP,WQ,WM,YC,YB,Xk,YO,YD,Yn,YP,XJ,XK,XL,YT])) (al (fun m F h=>∃(k:Nat) (ys:List HDecl),(k<=xs.length)/\(ys.map HDecl.er=xs.take k)/\(ys.length=k)/\F=[(0,Z3 xs),(3,.ms g1 0 xs.length xs.length),(4,.i k)]/\h=[.row (.slice (some ⟨g1,0,none⟩) xs.length xs.length) 3 (Z9 (X2 ys)++(List.replicate (xs.length-k) ([.i 0,.i 0,nl]:List AV)).flatten),.many (Yn ys)]/\m=xs.length-k) _ _ _ ⟨0,[],ob,rfl,rfl,rfl,rfl,rfl⟩ (wk [1,0] (fw (fc (x:=.i 0) li fl)) (e:=(rr (ls:=(List.replicate xs.length [.i 0,.i 0,nl]).flatten) (by rfl) (rc rz)))) ?_))))))))
 rintro m F h ⟨k,ys,c0_0,c0_1,c0_2,rfl,rfl,rfl⟩
 refine aq (ar (Z0 2 (.n 8 (.i k) (.n 9 (Z3 xs) .r)) (iw (Wv xs) (Z0 1 (.n 11 (.b (decide ((k:Int)<(xs.length:Int)))) .r) (ie (ac (decide ((k:Int)<(xs.length:Int))) dq (fun hc1=>?_) (fun hc1=>?_)))))))
 ·refine ak (aq (ab 1 (az (Z0 4 (.n 14 (.ms g1 0 xs.length xs.length) (.n 15 (.i k) (.n 16 (Z3 xs) (.n 17 (.i k) .r)))) ?_))))
  obtain ⟨x1,hx1⟩:=Zl (xs:=xs) (j:=k) om
  have hcl:=Z47 hx1
  have hl2:=hl
  unfold X1 at hl2
  refine Zf (Zj (es:=ZQ xs) (hv:=none) (j:=(k:Int)) (sz:=3) (y:=Yw x1) kr om (Wd hx1) rfl) (Z0 1 (.n 19 (Yw x1) .r) (ic [] (Y0a x1) ?_))
  rintro _ _ ⟨y1,rfl,rfl,hp1⟩
  have hy:=hp1
  refine Zf (Uk g1 xs.length xs.length k 3 (k:Int)) (KU 1 g1 xs.length xs.length 3 (k*3) (KY y1) (Z9 (X2 ys)++(List.replicate (xs.length-k) ([.i 0,.i 0,nl]:List AV)).flatten) (Z9 (X2 ys)++(KY y1++(List.replicate (xs.length-(k+1)) ([.i 0,.i 0,nl]:List AV)).flatten)) (by rw [Z13 (a:=0) (q:=3) (by rw [Kj,c0_2]) c0_0 rfl];simp;omega) (by rw [Z14 om];exact Qu (by rw [Kj,c0_2]) rfl) (WR (tB [2,1] [.many (Yn ys),.many (XK y1)] (Yn ys++(XK y1++[])) (Yn (ys++[y1])) (by simp [WH,WF,WN,WO,WP,WQ,WM,YC,YB,Xk,YO,YD,Yn,YP,XJ,XK,XL,YT])) (ie (az (Z0 1 (.n 12 (.i k) .r) (ia (((k+1:Nat):Int)) (((k:Int))+(1)) (ir 1 [(0,Z3 xs),(3,.ms g1 0 xs.length xs.length),(4,.i (k+1:Nat))] (ie ?_))))))))
  exact ⟨_,_,_,ob,⟨k+1,(ys++[y1]),ob,(Z2p c0_1 hx1 hy),(by simp [c0_2]),rfl,rfl,rfl⟩,(wk [1,0] (fw (fc (x:=.i (k+1:Nat)) li fl)) (e:=(rr (ls:=Z9 (X2 ys)++(KY y1++(List.replicate (xs.length-(k+1)) ([.i 0,.i 0,nl]:List AV)).flatten)) Zwm (rc rz))))⟩
 refine ax 0 (ar (ir 2 [(2,.ms g1 0 xs.length xs.length)] (ie (XA (K4 0 (.slice (some ⟨g1,0,none⟩) xs.length xs.length) 3 (Z9 (X2 ys)++(List.replicate (xs.length-k) ([.i 0,.i 0,nl]:List AV)).flatten) (Z9 (X2 ys)) (Z12 om)) (JR 2 0 (v:=(⟨some ⟨g1,0,none⟩,xs.length,xs.length⟩:Hd)) (X2 ys) (Z7s _) ?_)))))
 exact Z5 (r1 [1,0] ⟨ys,(⟨some ⟨g1,0,none⟩,xs.length,xs.length⟩:Hd).v,rfl,rfl,(by rw [c0_1,W7 om])⟩)
theorem Y07 (xs:List Block) (hl:Wt xs<=1000000000) (ih:∀(b2:Block),(b2.sz<=Yx xs)->(b2.cst<=1000000000)->Zd Tryz.prog 81 [Zx b2] [] (fun r h=>∃(y:HBlock),r=JD y/\h=[.many (YO y)]/\y.er=b2)):Zd Tryz.prog 164 [ZT xs] [] (fun r h=>∃(ys:List HBlock) (w:Value),r=QT ys w/\h=[.many (YB ys),.tail w 2]/\ys.map HBlock.er=xs):=by
 refine enter Tryz.func164 kr (n:=23) kr kr (ar (ir 1 [(0,ZT xs)] (ie (ar (Z0 1 (.n 5 (ZT xs) .r) (iw (VJ xs) (iKM xs.length [nl,.i 0] 2 ?_ (hl:=(by have h:=hl;unfold Wt at h;omega)))))))))
 intro g1
 refine Z0 1 (.n 3 (.ms g1 0 xs.length xs.length) .r) (ie (aq (ar (Z0 1 (.n 4 (.i 0) .r) (ie (ab 0 (XA (tB [] [] [] (YB []) (by simp [WH,WF,WN,WO,WP,WQ,WM,YC,YB,Xk,YO,YD,Yn,YP,XJ,XK,XL,YT])) (al (fun m F h=>∃(k:Nat) (ys:List HBlock),(k<=xs.length)/\(ys.map HBlock.er=xs.take k)/\(ys.length=k)/\F=[(0,ZT xs),(3,.ms g1 0 xs.length xs.length),(4,.i k)]/\h=[.row (.slice (some ⟨g1,0,none⟩) xs.length xs.length) 2 (Z9 (We ys)++(List.replicate (xs.length-k) ([nl,.i 0]:List AV)).flatten),.many (YB ys)]/\m=xs.length-k) _ _ _ ⟨0,[],ob,rfl,rfl,rfl,rfl,rfl⟩ (wk [1,0] (fw (fc (x:=.i 0) li fl)) (e:=(rr (ls:=(List.replicate xs.length [nl,.i 0]).flatten) (by rfl) (rc rz)))) ?_))))))))
 rintro m F h ⟨k,ys,c0_0,c0_1,c0_2,rfl,rfl,rfl⟩
 refine aq (ar (Z0 2 (.n 8 (.i k) (.n 9 (ZT xs) .r)) (iw (VJ xs) (Z0 1 (.n 11 (.b (decide ((k:Int)<(xs.length:Int)))) .r) (ie (ac (decide ((k:Int)<(xs.length:Int))) dq (fun hc1=>?_) (fun hc1=>?_)))))))
 ·refine ak (aq (ab 1 (az (Z0 4 (.n 14 (.ms g1 0 xs.length xs.length) (.n 15 (.i k) (.n 16 (ZT xs) (.n 17 (.i k) .r)))) ?_))))
  obtain ⟨x1,hx1⟩:=Zl (xs:=xs) (j:=k) om
  have hcl:=Z77 hx1
  have hsz:=Z0f hx1
  have hl2:=hl
  unfold Wt at hl2
  refine Zf (Zj (es:=Xw xs) (hv:=none) (j:=(k:Int)) (sz:=2) (y:=Zx x1) kr om (WY hx1) rfl) (Z0 1 (.n 19 (Zx x1) .r) (ic [] (ih x1 ob ob) ?_))
  rintro _ _ ⟨y1,rfl,rfl,hp1⟩
  have hy:=hp1
  refine Zf (Uk g1 xs.length xs.length k 2 (k:Int)) (KU 1 g1 xs.length xs.length 2 (k*2) (Ku y1) (Z9 (We ys)++(List.replicate (xs.length-k) ([nl,.i 0]:List AV)).flatten) (Z9 (We ys)++(Ku y1++(List.replicate (xs.length-(k+1)) ([nl,.i 0]:List AV)).flatten)) (by rw [Z13 (a:=0) (q:=2) (by rw [Zf8,c0_2]) c0_0 rfl];simp;omega) (by rw [Z14 om];exact Qu (by rw [Zf8,c0_2]) rfl) (WR (tB [2,1] [.many (YB ys),.many (YO y1)] (YB ys++(YO y1++[])) (YB (ys++[y1])) (by simp [WH,WF,WN,WO,WP,WQ,WM,YC,YB,Xk,YO,YD,Yn,YP,XJ,XK,XL,YT])) (ie (az (Z0 1 (.n 12 (.i k) .r) (ia (((k+1:Nat):Int)) (((k:Int))+(1)) (ir 1 [(0,ZT xs),(3,.ms g1 0 xs.length xs.length),(4,.i (k+1:Nat))] (ie ?_))))))))
  exact ⟨_,_,_,ob,⟨k+1,(ys++[y1]),ob,(Z2p c0_1 hx1 hy),(by simp [c0_2]),rfl,rfl,rfl⟩,(wk [1,0] (fw (fc (x:=.i (k+1:Nat)) li fl)) (e:=(rr (ls:=Z9 (We ys)++(Ku y1++(List.replicate (xs.length-(k+1)) ([nl,.i 0]:List AV)).flatten)) Zwk (rc rz))))⟩
 refine ax 0 (ar (ir 2 [(2,.ms g1 0 xs.length xs.length)] (ie (XA (K4 0 (.slice (some ⟨g1,0,none⟩) xs.length xs.length) 2 (Z9 (We ys)++(List.replicate (xs.length-k) ([nl,.i 0]:List AV)).flatten) (Z9 (We ys)) (Z12 om)) (JR 2 0 (v:=(⟨some ⟨g1,0,none⟩,xs.length,xs.length⟩:Hd)) (We ys) (Zdq _) ?_)))))
 exact Z5 (r1 [1,0] ⟨ys,(⟨some ⟨g1,0,none⟩,xs.length,xs.length⟩:Hd).v,rfl,rfl,(by rw [c0_1,W7 om])⟩)
theorem Y0g (xs:List Step) (hl:WT xs<=1000000000) (ih:∀(s2:Step),(s2.sz<=ZR xs)->(s2.cst<=1000000000)->Zd Tryz.prog 145 [ZN s2] [] (fun r h=>∃(y:HStep),r=Z09 y/\h=[.many (Xk y)]/\y.er=s2)):Zd Tryz.prog 117 [ZX xs] [] (fun r h=>∃(ys:List HStep) (w:Value),r=Ue ys w/\h=[.many (YC ys),.tail w 5]/\ys.map HStep.er=xs):=by
 refine enter Tryz.func117 kr (n:=23) kr kr (ar (ir 1 [(0,ZX xs)] (ie (ar (Z0 1 (.n 5 (ZX xs) .r) (iw (UK xs) (iKM xs.length [.i 0,.i 0,.i 0,nl,nl] 5 ?_ (hl:=(by have h:=hl;unfold WT at h;omega)))))))))
 intro g1
 refine Z0 1 (.n 3 (.ms g1 0 xs.length xs.length) .r) (ie (aq (ar (Z0 1 (.n 4 (.i 0) .r) (ie (ab 0 (XA (tB [] [] [] (YC []) (by simp [WH,WF,WN,WO,WP,WQ,WM,YC,YB,Xk,YO,YD,Yn,YP,XJ,XK,XL,YT])) (al (fun m F h=>∃(k:Nat) (ys:List HStep),(k<=xs.length)/\(ys.map HStep.er=xs.take k)/\(ys.length=k)/\F=[(0,ZX xs),(3,.ms g1 0 xs.length xs.length),(4,.i k)]/\h=[.row (.slice (some ⟨g1,0,none⟩) xs.length xs.length) 5 (Z9 (Wf ys)++(List.replicate (xs.length-k) ([.i 0,.i 0,.i 0,nl,nl]:List AV)).flatten),.many (YC ys)]/\m=xs.length-k) _ _ _ ⟨0,[],ob,rfl,rfl,rfl,rfl,rfl⟩ (wk [1,0] (fw (fc (x:=.i 0) li fl)) (e:=(rr (ls:=(List.replicate xs.length [.i 0,.i 0,.i 0,nl,nl]).flatten) (by rfl) (rc rz)))) ?_))))))))
 rintro m F h ⟨k,ys,c0_0,c0_1,c0_2,rfl,rfl,rfl⟩
 refine aq (ar (Z0 2 (.n 8 (.i k) (.n 9 (ZX xs) .r)) (iw (UK xs) (Z0 1 (.n 11 (.b (decide ((k:Int)<(xs.length:Int)))) .r) (ie (ac (decide ((k:Int)<(xs.length:Int))) dq (fun hc1=>?_) (fun hc1=>?_)))))))
 ·refine ak (aq (ab 1 (az (Z0 4 (.n 14 (.ms g1 0 xs.length xs.length) (.n 15 (.i k) (.n 16 (ZX xs) (.n 17 (.i k) .r)))) ?_))))
  obtain ⟨x1,hx1⟩:=Zl (xs:=xs) (j:=k) om
  have hcl:=Za7 hx1
  have hsz:=Z32 hx1
  have hl2:=hl
  unfold WT at hl2
  refine Zf (Zj (es:=Wg xs) (hv:=none) (j:=(k:Int)) (sz:=5) (y:=ZN x1) kr om (T6 hx1) rfl) (Z0 1 (.n 19 (ZN x1) .r) (ic [] (ih x1 ob ob) ?_))
  rintro _ _ ⟨y1,rfl,rfl,hp1⟩
  have hy:=hp1
  refine Zf (Uk g1 xs.length xs.length k 5 (k:Int)) (KU 1 g1 xs.length xs.length 5 (k*5) (J0 y1) (Z9 (Wf ys)++(List.replicate (xs.length-k) ([.i 0,.i 0,.i 0,nl,nl]:List AV)).flatten) (Z9 (Wf ys)++(J0 y1++(List.replicate (xs.length-(k+1)) ([.i 0,.i 0,.i 0,nl,nl]:List AV)).flatten)) (by rw [Z13 (a:=0) (q:=5) (by rw [Zfc,c0_2]) c0_0 rfl];simp;omega) (by rw [Z14 om];exact Qu (by rw [Zfc,c0_2]) rfl) (WR (tB [2,1] [.many (YC ys),.many (Xk y1)] (YC ys++(Xk y1++[])) (YC (ys++[y1])) (by simp [WH,WF,WN,WO,WP,WQ,WM,YC,YB,Xk,YO,YD,Yn,YP,XJ,XK,XL,YT])) (ie (az (Z0 1 (.n 12 (.i k) .r) (ia (((k+1:Nat):Int)) (((k:Int))+(1)) (ir 1 [(0,ZX xs),(3,.ms g1 0 xs.length xs.length),(4,.i (k+1:Nat))] (ie ?_))))))))
  exact ⟨_,_,_,ob,⟨k+1,(ys++[y1]),ob,(Z2p c0_1 hx1 hy),(by simp [c0_2]),rfl,rfl,rfl⟩,(wk [1,0] (fw (fc (x:=.i (k+1:Nat)) li fl)) (e:=(rr (ls:=Z9 (Wf ys)++(J0 y1++(List.replicate (xs.length-(k+1)) ([.i 0,.i 0,.i 0,nl,nl]:List AV)).flatten)) Zwo (rc rz))))⟩
 refine ax 0 (ar (ir 2 [(2,.ms g1 0 xs.length xs.length)] (ie (XA (K4 0 (.slice (some ⟨g1,0,none⟩) xs.length xs.length) 5 (Z9 (Wf ys)++(List.replicate (xs.length-k) ([.i 0,.i 0,.i 0,nl,nl]:List AV)).flatten) (Z9 (Wf ys)) (Z12 om)) (JR 2 0 (v:=(⟨some ⟨g1,0,none⟩,xs.length,xs.length⟩:Hd)) (Wf ys) (Zdx _) ?_)))))
 exact Z5 (r1 [1,0] ⟨ys,(⟨some ⟨g1,0,none⟩,xs.length,xs.length⟩:Hd).v,rfl,rfl,(by rw [c0_1,W7 om])⟩)
theorem Y0f (x:Step) (hl:x.cst<=1000000000) (ih:∀(bs:List Block),(Yx bs<x.sz)->(Wt bs<=1000000000)->Zd Tryz.prog 164 [ZT bs] [] (fun r h=>∃(ys:List HBlock) (w:Value),r=QT ys w/\h=[.many (YB ys),.tail w 2]/\ys.map HBlock.er=bs)):Zd Tryz.prog 145 [ZN x] [] (fun r h=>∃(y:HStep),r=Z09 y/\h=[.many (Xk y)]/\y.er=x):=by
 have hce:=x.cst_eq
 have hse:=x.sz_eq
 have hbc:Wt x.kids=x.kids.length+Vq x.kids:=rfl
 refine enter Tryz.func145 kr (n:=22) kr kr (ar (iA (ZE x) ?_))
 intro b1
 refine iA [.i 0,.i 0,.i 0,nl,nl] ?_
 intro b2
 refine ie (ar (iA [.i 0,.i 0,.i 0,nl,nl] ?_))
 intro b3
 refine ie (ar (iR 3 [(1,.p b1 0),(2,.p b2 0),(3,.p b3 0),(5,.i x.op),(6,.p b3 0)] [2] [b1] (iS 0 b3 0 [.i x.op] [.i 0,.i 0,.i 0,nl,nl] [.i x.op,.i 0,.i 0,nl,nl] (ie (ar (Za 3 (.n 8 (.i x.num) (.n 9 (.p b3 1) .r)) [2] [b1] (iS 0 b3 1 [.i x.num] [.i x.op,.i 0,.i 0,nl,nl] [.i x.op,.i x.num,.i 0,nl,nl] (ie (ar (Za 3 (.n 11 (.i x.into) (.n 12 (.p b3 2) .r)) [2] [b1] (iS 0 b3 2 [.i x.into] [.i x.op,.i x.num,.i 0,nl,nl] [.i x.op,.i x.num,.i x.into,nl,nl] (ie (ar (Za 2 (.n 14 (Z1 x.args) .r) [2] [b1] (ic [] (Z62 x.args) ?_)))))))))))))))
 rintro _ _ ⟨v1,rfl,rfl⟩
 refine Z0 1 (.n 16 (.p b3 3) .r) (iS 1 b3 3 [Zb x.args v1] [.i x.op,.i x.num,.i x.into,nl,nl] [.i x.op,.i x.num,.i x.into,Zb x.args v1,nl] (ie (ar (Za 2 (.n 18 (ZT x.kids) .r) [3] [b1] (ic [] (ih x.kids ob ob) ?_)))))
 rintro _ _ ⟨ys1,w1,rfl,rfl,hp1⟩
 have hy:=hp1
 refine Z0 1 (.n 20 (.p b3 4) .r) (iS 2 b3 4 [QT ys1 w1] [.i x.op,.i x.num,.i x.into,Zb x.args v1,nl] [.i x.op,.i x.num,.i x.into,Zb x.args v1,QT ys1 w1] (ie (ar (Za 1 (.n 21 (.agg [.i x.op,.i x.num,.i x.into,Zb x.args v1,QT ys1 w1]) .r) [0] [b3] (iS 4 b2 0 [.i x.op,.i x.num,.i x.into,Zb x.args v1,QT ys1 w1] [.i 0,.i 0,.i 0,nl,nl] [.i x.op,.i x.num,.i x.into,Zb x.args v1,QT ys1 w1] (ie (XA (tB [4,2,2] [.tail v1 1,.many (YB ys1),.tail w1 2] ((v1,1)::(YB ys1++((w1,2)::[]))) (Xk (HStep.mk x.op x.num x.into x.args v1 ys1 w1)) (by simp [WH,WF,WN,WO,WP,WQ,WM,YC,YB,Xk,YO,YD,Yn,YP,XJ,XK,XL,YT])) ?_)))))))
 exact Z5 (r3 [0] [.agg [.i x.op,.i x.num,.i x.into,Zb x.args v1,QT ys1 w1]] [1] [(b2,b2)] ⟨(HStep.mk x.op x.num x.into x.args v1 ys1 w1),rfl,rfl,(by rw [HStep.er,Zeb,hy];cases x;rfl)⟩ (lr _))
theorem Y06 (x:Block) (hl:x.cst<=1000000000) (ih:∀(ss:List Step),(ZR ss<x.sz)->(WT ss<=1000000000)->Zd Tryz.prog 117 [ZX ss] [] (fun r h=>∃(ys:List HStep) (w:Value),r=Ue ys w/\h=[.many (YC ys),.tail w 5]/\ys.map HStep.er=ss)):Zd Tryz.prog 81 [Zx x] [] (fun r h=>∃(y:HBlock),r=JD y/\h=[.many (YO y)]/\y.er=x):=by
 have hce:=x.cst_eq
 have hse:=x.sz_eq
 have hbc:WT x.steps=x.steps.length+Vz x.steps:=rfl
 refine enter Tryz.func81 kr (n:=12) kr kr (ar (iA (YY x) ?_))
 intro b1
 refine iA [nl,.i 0] ?_
 intro b2
 refine ie (ar (iA [nl,.i 0] ?_))
 intro b3
 refine ie (ar (iR 2 [(1,.p b1 0),(2,.p b2 0),(3,.p b3 0),(5,ZX x.steps)] [2] [b1] (ic [] (ih x.steps ob ob) ?_)))
 rintro _ _ ⟨ys1,w1,rfl,rfl,hp1⟩
 have hy:=hp1
 refine Z0 1 (.n 7 (.p b3 0) .r) (iS 2 b3 0 [Ue ys1 w1] [nl,.i 0] [Ue ys1 w1,.i 0] (ie (ar (Za 3 (.n 9 (.i x.result) (.n 10 (.p b3 1) .r)) [4] [b1] (iS 0 b3 1 [.i x.result] [Ue ys1 w1,.i 0] [Ue ys1 w1,.i x.result] (ie (ar (Za 1 (.n 11 (.agg [Ue ys1 w1,.i x.result]) .r) [0] [b3] (iS 3 b2 0 [Ue ys1 w1,.i x.result] [nl,.i 0] [Ue ys1 w1,.i x.result] (ie (XA (tB [2,2] [.many (YC ys1),.tail w1 5] (YC ys1++((w1,5)::[])) (YO (HBlock.mk ys1 w1 x.result)) (by simp [WH,WF,WN,WO,WP,WQ,WM,YC,YB,Xk,YO,YD,Yn,YP,XJ,XK,XL,YT])) ?_)))))))))))
 exact Z5 (r3 [0] [.agg [Ue ys1 w1,.i x.result]] [1] [(b2,b2)] ⟨(HBlock.mk ys1 w1 x.result),rfl,rfl,(by rw [HBlock.er,Zeg,hy];cases x;rfl)⟩ (lr _))
theorem Y04 (k:Nat):(∀(s:Step),(s.sz<k)->(s.cst<=1000000000)->Zd Tryz.prog 145 [ZN s] [] (fun r h=>∃(y:HStep),r=Z09 y/\h=[.many (Xk y)]/\y.er=s))/\(∀(b:Block),(b.sz<k)->(b.cst<=1000000000)->Zd Tryz.prog 81 [Zx b] [] (fun r h=>∃(y:HBlock),r=JD y/\h=[.many (YO y)]/\y.er=b))/\(∀(ss:List Step),(ZR ss<k)->(WT ss<=1000000000)->Zd Tryz.prog 117 [ZX ss] [] (fun r h=>∃(ys:List HStep) (w:Value),r=Ue ys w/\h=[.many (YC ys),.tail w 5]/\ys.map HStep.er=ss))/\(∀(bs:List Block),(Yx bs<k)->(Wt bs<=1000000000)->Zd Tryz.prog 164 [ZT bs] [] (fun r h=>∃(ys:List HBlock) (w:Value),r=QT ys w/\h=[.many (YB ys),.tail w 2]/\ys.map HBlock.er=bs)):=by
 induction k with
 | zero=>exact ⟨fun s h=>by omega,fun s h=>by omega,fun s h=>by omega,fun s h=>by omega⟩
 | succ k ih=>
  obtain ⟨i1,i2,i3,i4⟩:=ih
  have k1:∀(s:Step),(s.sz<k+1)->(s.cst<=1000000000)->Zd Tryz.prog 145 [ZN s] [] (fun r h=>∃(y:HStep),r=Z09 y/\h=[.many (Xk y)]/\y.er=s):=fun s h hl=>Y0f s hl fun bs h2 h3=>i4 bs om h3
  have k2:∀(b:Block),(b.sz<k+1)->(b.cst<=1000000000)->Zd Tryz.prog 81 [Zx b] [] (fun r h=>∃(y:HBlock),r=JD y/\h=[.many (YO y)]/\y.er=b):=fun b h hl=>Y06 b hl fun ss h2 h3=>i3 ss om h3
  exact ⟨k1,k2,fun ss h hl=>Y0g ss hl fun s h2 h3=>k1 s om h3,fun bs h hl=>Y07 bs hl fun b h2 h3=>k2 b om h3⟩
theorem Y05 (b:Block) (hl:b.cst<=1000000000:=by exact ob):Zd Tryz.prog 81 [Zx b] [] (fun r h=>∃(y:HBlock),r=JD y/\h=[.many (YO y)]/\y.er=b):=(Y04 (b.sz+1)).2.1 b om hl
theorem Y0d (x:Routine) (hl:Wy x<=1000000000:=by exact ob):Zd Tryz.prog 44 [Xc x] [] (fun r h=>∃(y:HRoutine),r=Z6j y/\h=[.many (XL y)]/\y.er=x):=by
 have hl2:=hl
 unfold Wy at hl2
 refine enter Tryz.func44 kr (n:=20) kr kr (ar (iA (WI x) ?_))
 intro b1
 refine iA [nl,nl,.i 0,nl,.i 0] ?_
 intro b2
 refine ie (ar (iA [nl,nl,.i 0,nl,.i 0] ?_))
 intro b3
 refine ie (ar (iR 2 [(1,.p b1 0),(2,.p b2 0),(3,.p b3 0),(5,Z1 x.params)] [2] [b1] (ic [] (Z62 x.params) ?_)))
 rintro _ _ ⟨v1,rfl,rfl⟩
 refine Z0 1 (.n 7 (.p b3 0) .r) (iS 1 b3 0 [Zb x.params v1] [nl,nl,.i 0,nl,.i 0] [Zb x.params v1,nl,.i 0,nl,.i 0] (ie (ar (Za 2 (.n 9 (Z1 x.lent) .r) [3] [b1] (ic [] (Z62 x.lent) ?_)))))
 rintro _ _ ⟨v2,rfl,rfl⟩
 refine Z0 1 (.n 11 (.p b3 1) .r) (iS 1 b3 1 [Zb x.lent v2] [Zb x.params v1,nl,.i 0,nl,.i 0] [Zb x.params v1,Zb x.lent v2,.i 0,nl,.i 0] (ie (ar (Za 3 (.n 13 (.i x.result) (.n 14 (.p b3 2) .r)) [4] [b1] (iS 0 b3 2 [.i x.result] [Zb x.params v1,Zb x.lent v2,.i 0,nl,.i 0] [Zb x.params v1,Zb x.lent v2,.i x.result,nl,.i 0] (ie (ar (Za 2 (.n 16 (Zx x.body) .r) [4] [b1] (ic [] (Y05 x.body) ?_)))))))))
 rintro _ _ ⟨y1,rfl,rfl,hp1⟩
 have hy:=hp1
 refine Z0 1 (.n 18 (.p b3 3) .r) (iS 1 b3 3 (Ku y1) [Zb x.params v1,Zb x.lent v2,.i x.result,nl,.i 0] [Zb x.params v1,Zb x.lent v2,.i x.result,Ue y1.steps y1.sv,.i y1.result] (ie (ar (Za 1 (.n 19 (.agg [Zb x.params v1,Zb x.lent v2,.i x.result,Ue y1.steps y1.sv,.i y1.result]) .r) [0] [b3] (iS 4 b2 0 [Zb x.params v1,Zb x.lent v2,.i x.result,Ue y1.steps y1.sv,.i y1.result] [nl,nl,.i 0,nl,.i 0] [Zb x.params v1,Zb x.lent v2,.i x.result,Ue y1.steps y1.sv,.i y1.result] (ie (XA (tB [4,3,2] [.tail v1 1,.tail v2 1,.many (YO y1)] ((v1,1)::((v2,1)::(YO y1++[]))) (XL (HRoutine.mk x.params v1 x.lent v2 x.result (HBlock.mk y1.steps y1.sv y1.result))) (by simp [WH,WF,WN,WO,WP,WQ,WM,YC,YB,Xk,YO,YD,Yn,YP,XJ,XK,XL,YT,Z8n,HBlock.steps,HBlock.sv])) ?_)))))))
 exact Z5 (r3 [0] [.agg [Zb x.params v1,Zb x.lent v2,.i x.result,Ue y1.steps y1.sv,.i y1.result]] [1] [(b2,b2)] ⟨(HRoutine.mk x.params v1 x.lent v2 x.result (HBlock.mk y1.steps y1.sv y1.result)),rfl,rfl,(by show Routine.mk _ _ _ (HBlock.er (HBlock.mk y1.steps y1.sv y1.result))=_;rw [HBlock.eta,hy])⟩ (lr _))
theorem Y0e (xs:List Routine) (hl:Wq xs<=1000000000:=by exact ob):Zd Tryz.prog 18 [Yh xs] [] (fun r h=>∃(ys:List HRoutine) (w:Value),r=J6 ys w/\h=[.many (YP ys),.tail w 5]/\ys.map HRoutine.er=xs):=by
 refine enter Tryz.func18 kr (n:=23) kr kr (ar (ir 1 [(0,Yh xs)] (ie (ar (Z0 1 (.n 5 (Yh xs) .r) (iw (VY xs) (iKM xs.length [nl,nl,.i 0,nl,.i 0] 5 ?_ (hl:=(by have h:=hl;unfold Wq at h;omega)))))))))
 intro g1
 refine Z0 1 (.n 3 (.ms g1 0 xs.length xs.length) .r) (ie (aq (ar (Z0 1 (.n 4 (.i 0) .r) (ie (ab 0 (XA (tB [] [] [] (YP []) (by simp [WH,WF,WN,WO,WP,WQ,WM,YC,YB,Xk,YO,YD,Yn,YP,XJ,XK,XL,YT])) (al (fun m F h=>∃(k:Nat) (ys:List HRoutine),(k<=xs.length)/\(ys.map HRoutine.er=xs.take k)/\(ys.length=k)/\F=[(0,Yh xs),(3,.ms g1 0 xs.length xs.length),(4,.i k)]/\h=[.row (.slice (some ⟨g1,0,none⟩) xs.length xs.length) 5 (Z9 (V8 ys)++(List.replicate (xs.length-k) ([nl,nl,.i 0,nl,.i 0]:List AV)).flatten),.many (YP ys)]/\m=xs.length-k) _ _ _ ⟨0,[],ob,rfl,rfl,rfl,rfl,rfl⟩ (wk [1,0] (fw (fc (x:=.i 0) li fl)) (e:=(rr (ls:=(List.replicate xs.length [nl,nl,.i 0,nl,.i 0]).flatten) (by rfl) (rc rz)))) ?_))))))))
 rintro m F h ⟨k,ys,c0_0,c0_1,c0_2,rfl,rfl,rfl⟩
 refine aq (ar (Z0 2 (.n 8 (.i k) (.n 9 (Yh xs) .r)) (iw (VY xs) (Z0 1 (.n 11 (.b (decide ((k:Int)<(xs.length:Int)))) .r) (ie (ac (decide ((k:Int)<(xs.length:Int))) dq (fun hc1=>?_) (fun hc1=>?_)))))))
 ·refine ak (aq (ab 1 (az (Z0 4 (.n 14 (.ms g1 0 xs.length xs.length) (.n 15 (.i k) (.n 16 (Yh xs) (.n 17 (.i k) .r)))) ?_))))
  obtain ⟨x1,hx1⟩:=Zl (xs:=xs) (j:=k) om
  have hcl:=Z5l hx1
  have hl2:=hl
  unfold Wq at hl2
  refine Zf (Zj (es:=WD xs) (hv:=none) (j:=(k:Int)) (sz:=5) (y:=Xc x1) kr om (VX hx1) rfl) (Z0 1 (.n 19 (Xc x1) .r) (ic [] (Y0d x1) ?_))
  rintro _ _ ⟨y1,rfl,rfl,hp1⟩
  have hy:=hp1
  refine Zf (Uk g1 xs.length xs.length k 5 (k:Int)) (KU 1 g1 xs.length xs.length 5 (k*5) (KZ y1) (Z9 (V8 ys)++(List.replicate (xs.length-k) ([nl,nl,.i 0,nl,.i 0]:List AV)).flatten) (Z9 (V8 ys)++(KZ y1++(List.replicate (xs.length-(k+1)) ([nl,nl,.i 0,nl,.i 0]:List AV)).flatten)) (by rw [Z13 (a:=0) (q:=5) (by rw [Zfb,c0_2]) c0_0 rfl];simp;omega) (by rw [Z14 om];exact Qu (by rw [Zfb,c0_2]) rfl) (WR (tB [2,1] [.many (YP ys),.many (XL y1)] (YP ys++(XL y1++[])) (YP (ys++[y1])) (by simp [WH,WF,WN,WO,WP,WQ,WM,YC,YB,Xk,YO,YD,Yn,YP,XJ,XK,XL,YT])) (ie (az (Z0 1 (.n 12 (.i k) .r) (ia (((k+1:Nat):Int)) (((k:Int))+(1)) (ir 1 [(0,Yh xs),(3,.ms g1 0 xs.length xs.length),(4,.i (k+1:Nat))] (ie ?_))))))))
  exact ⟨_,_,_,ob,⟨k+1,(ys++[y1]),ob,(Z2p c0_1 hx1 hy),(by simp [c0_2]),rfl,rfl,rfl⟩,(wk [1,0] (fw (fc (x:=.i (k+1:Nat)) li fl)) (e:=(rr (ls:=Z9 (V8 ys)++(KZ y1++(List.replicate (xs.length-(k+1)) ([nl,nl,.i 0,nl,.i 0]:List AV)).flatten)) Zwn (rc rz))))⟩
 refine ax 0 (ar (ir 2 [(2,.ms g1 0 xs.length xs.length)] (ie (XA (K4 0 (.slice (some ⟨g1,0,none⟩) xs.length xs.length) 5 (Z9 (V8 ys)++(List.replicate (xs.length-k) ([nl,nl,.i 0,nl,.i 0]:List AV)).flatten) (Z9 (V8 ys)) (Z12 om)) (JR 2 0 (v:=(⟨some ⟨g1,0,none⟩,xs.length,xs.length⟩:Hd)) (V8 ys) (Zdw _) ?_)))))
 exact Z5 (r1 [1,0] ⟨ys,(⟨some ⟨g1,0,none⟩,xs.length,xs.length⟩:Hd).v,rfl,rfl,(by rw [c0_1,W7 om])⟩)
theorem Z63 (x:Normal) (hl:W5 x<=1000000000):Zd Tryz.prog 6 [ZJ x] [] (fun r h=>∃(y:HNormal),r=UY y/\h=[.many (YT y)]/\y.er=x):=by
 have hl2:=hl
 unfold W5 at hl2
 refine enter Tryz.func6 kr (n:=13) kr kr (ar (iA (ZU x) ?_))
 intro b1
 refine iA [nl,nl] ?_
 intro b2
 refine ie (ar (iA [nl,nl] ?_))
 intro b3
 refine ie (ar (iR 2 [(1,.p b1 0),(2,.p b2 0),(3,.p b3 0),(5,Z3 x.decls)] [2] [b1] (ic [] (Y0b x.decls) ?_)))
 rintro _ _ ⟨ys1,w1,rfl,rfl,hp1⟩
 have hy1:=hp1
 refine Z0 1 (.n 7 (.p b3 0) .r) (iS 2 b3 0 [Vk ys1 w1] [nl,nl] [Vk ys1 w1,nl] (ie (ar (Za 2 (.n 9 (Yh x.routines) .r) [4] [b1] (ic [] (Y0e x.routines) ?_)))))
 rintro _ _ ⟨ys2,w2,rfl,rfl,hp2⟩
 have hy2:=hp2
 refine Z0 1 (.n 11 (.p b3 1) .r) (iS 2 b3 1 [J6 ys2 w2] [Vk ys1 w1,nl] [Vk ys1 w1,J6 ys2 w2] (ie (ar (Za 1 (.n 12 (.agg [Vk ys1 w1,J6 ys2 w2]) .r) [0] [b3] (iS 5 b2 0 [Vk ys1 w1,J6 ys2 w2] [nl,nl] [Vk ys1 w1,J6 ys2 w2] (ie (XA (tB [4,4,2,2] [.many (Yn ys1),.tail w1 3,.many (YP ys2),.tail w2 5] (Yn ys1++((w1,3)::(YP ys2++((w2,5)::[])))) (YT (HNormal.mk ys1 w1 ys2 w2)) (by simp [WH,WF,WN,WO,WP,WQ,WM,YC,YB,Xk,YO,YD,Yn,YP,XJ,XK,XL,YT])) ?_)))))))
 exact Z5 (r3 [0] [.agg [Vk ys1 w1,J6 ys2 w2]] [1] [(b2,b2)] ⟨(HNormal.mk ys1 w1 ys2 w2),rfl,rfl,(by rw [HNormal.er];simp only [hy1,hy2])⟩ (lr _))
theorem Y0c (x:Normal) (hl:W5 x<=1000000000):Zd Tryz.prog 6 [ZJ x] [] (fun r h=>∃(y:HNormal) (S:List Nat) (M:ZK),r=av y/\h=[.own S M]/\(y.er=x/\Jg M S y/\(XY y).Nodup/\Z08 S M y)):=(Z63 x hl).thaw
theorem Zuq (S:List Nat) (M:ZK) (y:HNormal) (q:Int) (hs:Jg M S y) (hl:∀d∈y.decls,d.cons.length<=4000000000000) (hq:0<=q/\q+((XY y).length:Nat)<=4000000000000):Zd Tryz.prog 10 [av y,.i q] [.own S M] (fun r h=>r=.i (q+((XY y).length:Nat))/\h=[.own S (wr M (XY y) q)]):=by
 rw [Z74 (Z8p hs)]
 exact Zuk S M y q hs hl hq
theorem sgl {S:List Nat} {M:ZK}:∀r∈[Res.own S M],∃B m,r=.own B m:=fun _ hr=>⟨S,M,ZW.1 hr⟩
theorem Zpq (y:HNormal) (x:Normal) (S:List Nat) (M:ZK) (he:y.er=x) (hrp:Z08 S M y) (hl:W5 x<=1000000000):Zd Tryz.prog 9 [av y,ZJ x] [.own S M] (fun r h=>r=.b true/\h=[.own S M]):=by
 subst he
 have h1:Zd Tryz.prog 9 [UY y,ZJ y.er] [] _:=(Zte y.er hl).args_le (.cons (Z3w y) (.cons (Zg.refl _) .nil))
 refine (h1.lendO [.own S M] (.lent (ZW.2 rfl) hrp (.same .nil)) sgl ?_).mono ?_
 ·rintro r h ⟨rfl,rfl⟩;exact ⟨.val,fun q hq=>by cases hq⟩
 ·rintro r h ⟨h1,⟨rfl,rfl⟩,rfl⟩;exact ⟨rfl,rfl⟩
theorem Zpp (y z:HNormal) (S:List Nat) (M:ZK) (he:y.er=z.er) (hrp:Z08 S M y) (hl:W5 z.er<=1000000000):Zd Tryz.prog 9 [av y,UY z] [.own S M] (fun r h=>r=.b true/\h=[.own S M]):=
 (Zpq y z.er S M he hrp hl).args_le (.cons (Zg.refl _) (.cons (Z3w z) .nil))
theorem Zea (y:HImage) (x:Image) (S:List Nat) (M:ZK) (he:y.er=x) (hrp:Z3p S M y) (hk:ImOk x):Zd Tryz.prog 8 [JJ y,UI x] [.own S M] (fun r h=>r=.b true/\h=[.own S M]):=by
 subst he
 have h1:Zd Tryz.prog 8 [UH y,UI y.er] [] _:=(Ze9 y.er hk).args_le (.cons (Zcw y) (.cons (Zg.refl _) .nil))
 refine (h1.lendO [.own S M] (.lentI (ZW.2 rfl) hrp (.same .nil)) sgl ?_).mono ?_
 ·rintro r h ⟨rfl,rfl⟩;exact ⟨.val,fun q hq=>by cases hq⟩
 ·rintro r h ⟨h1,⟨rfl,rfl⟩,rfl⟩;exact ⟨rfl,rfl⟩
theorem Zpm (z:HImage) (x:Image) (he:z.er=x) (hk:ImOk x):Zd Tryz.prog 8 [UH z,UI x] [] (fun r h=>r=.b true/\h=[]):=by
 subst he
 exact (Ze9 z.er hk).args_le (.cons (Zcw z) (.cons (Zg.refl _) .nil))
theorem Zup (S:List Nat) (M:ZK) (y:HImage) (q:Int) (hs:TE M S y) (hl:∀d∈y.decls,d.cons.length<=4000000000000) (hq:0<=q/\q+((Xd y).length:Nat)<=4000000000000):Zd Tryz.prog 11 [JJ y,.i q] [.own S M] (fun r h=>r=.i (q+((Xd y).length:Nat))/\h=[.own S (wr M (Xd y) q)]):=by
 rw [Z3v (Z4s hs)]
 exact Zui S M y q hs hl hq
theorem Zfr (S:List Nat) (M:ZK) (y:HImage) (q:Int) (hs:TE M S y) (hl:∀d∈y.decls,d.cons.length<=4000000000000) (hh:YQ M (Xd y) q) (hq:0<=q/\q+((Xd y).length:Nat)<=4000000000000):Zd Tryz.prog 12 [JJ y,.i q] [.own S M] (fun r h=>r=.i (q+((Xd y).length:Nat))/\h=[.own S M]):=by
 rw [Z3v (Z4s hs)]
 exact Zqw S M y q hs hl hh hq
theorem Zyd (z:HNormal) (n:Normal) (he:z.er=n) (hz:NSz n):Zd Tryz.prog 5 [UY z] [] (fun r h=>r=.tup [UI ((Yb n).1),.b ((Yb n).2)]/\h=[]):=by
 subst he
 exact (Zxz z.er hz).args_le (.cons (Z3w z) .nil)
theorem Zfx (z:HNormal) (n:Normal) (he:z.er=n) (hz:NSz n) (hr:∀r∈n.routines,r.body.rng):Zd Tryz.prog 7 [UY z] [] (fun r h=>∃(y:HImage),r=.tup [UH y,.b ((Yb n).2)]/\h=[.many (WG y)]/\y.er=(Yb n).1):=by
 subst he
 exact (Zrn z.er hz hr).args_le (.cons (Z3w z) .nil)
theorem Zs7 (z:HNormal) (n:Normal) (S:List Nat) (M:ZK) (he:z.er=n) (hz:NSz n) (hr:∀r∈n.routines,r.body.rng) (hrp:Z08 S M z):Zd Tryz.prog 7 [av z] [.own S M] (fun r h=>∃(y:HImage) (S2:List Nat) (M2:ZK),r=.tup [JJ y,.b ((Yb n).2)]/\h=[.own S2 M2,.own S M]/\(y.er=(Yb n).1/\TE M2 S2 y/\(Xd y).Nodup/\Z3p S2 M2 y)):=by
 refine ((Zfx z n he hz hr).thawI2.lendO [.own S M] (.lent (ZW.2 rfl) hrp .nil) sgl ?_).mono ?_
 ·rintro r h ⟨y,S2,M2,rfl,rfl,_⟩
  refine ⟨.tup fun q hq=>?_,fun q hq=>by rw [ZW.1 hq];trivial⟩
  rcases ZM.1 hq with rfl|hq
  ·exact .agg fun q hq=>by
    rcases ZM.1 hq with rfl|hq
    ·exact .val
    ·rw [ZW.1 hq];exact .val
  ·rw [ZW.1 hq];exact .val
 ·rintro r h ⟨h1,⟨y,S2,M2,rfl,rfl,hp⟩,rfl⟩;exact ⟨y,S2,M2,rfl,rfl,hp⟩
theorem Zta (n:Normal) (hl:W5 n<=9223372036854775807) (hr:∀r∈n.routines,r.body.rng):Zd Tryz.prog 3 [ZJ n] [] (fun r h=>r=.b true/\h=[]):=by
 refine enter Tryz.func3 kr (n:=96) kr kr (ar (iA (ZU n) ?_))
 intro b1
 refine ir 1 [(1,.p b1 0)] (ie (ar (Z0 1 (.n 3 (.i 1048576) .r) (ie (ar (Za 2 (.n 14 (ZJ n) (.n 15 (.i 1048576) .r)) [0] [b1] (ic [] (Ztl n 1048576 ob ob) ?_)))))))
 rintro _ _ ⟨rfl,rfl⟩
 refine ir 1 [(1,.p b1 0),(3,.i (Zo (W5 n) 1048576))] (ie (aq (ar (Z0 2 (.n 18 (.b (decide ((Zo (W5 n) 1048576)<0))) .r) (ie (ac (decide ((Zo (W5 n) 1048576)<0)) dq (fun hc1=>?_) (fun hc1=>?_)))))))
 ·refine ar (ir 1 [(2,.b true)] (ie ?_))
  exact Z5 (r1 [] ⟨rfl,rfl⟩)
 have hsz:W5 n<=1048576:=by unfold Zo at hc1;split at hc1<;>omega
 have hz:=Zv0 (n:=n) om
 have hdc:X1 n.decls<=1000000000:=by have h:W5 n=X1 n.decls+Wq n.routines:=rfl;omega
 have hxk:=Zqk hz hdc
 refine ak (ar (Za 1 (.n 20 (ZJ n) .r) [0] [b1] (ic [] (Z63 n ob) ?_)))
 rintro _ _ ⟨y1,rfl,rfl,hp1⟩
 have hnhp1:W5 y1.er<=1000000000:=by rw [hp1];omega
 refine ic [] (Zyd y1 n ob ob) ?_
 rintro _ _ ⟨rfl,rfl⟩
 refine Z0 3 (.n 23 (UI ((Yb n).1)) (.n 24 (.b ((Yb n).2)) .r)) (iA [nl,nl] ?_)
 intro b2
 refine iS 0 b2 0 (Tv ((Yb n).1)) [nl,nl] (Tv ((Yb n).1)) (Z0 1 (.n 5 (.b ((Yb n).2)) .r) (ie (ar (Za 1 (.n 25 (ZJ n) .r) [2] [b1] (ic [] (Y0c n ob) ?_)))))
 rintro _ _ ⟨y2,S1,M1,rfl,rfl,hp2⟩
 obtain ⟨ho1,ho2,ho3,ho4⟩:=hp2
 have ho5:=Zlp y2
 have ho6:=Zo0 (y:=y2)
 rw [ho1] at ho5 ho6
 have ho7:∀d∈y2.decls,d.cons.length<=4000000000000:=fun d hd=>by have:=ho6 d hd;omega
 refine iA [nl,nl] ?_
 intro b3
 refine iS 0 b3 0 [.val ((YU y2.dv).v),.val ((YU y2.rv).v)] [nl,nl] [.val ((YU y2.dv).v),.val ((YU y2.rv).v)] (ie (ar (Za 1 (.n 28 (.agg [.val ((YU y2.dv).v),.val ((YU y2.rv).v)]) .r) [0] [b3] (ic [1] (Zs7 y2 n S1 M1 ob ob ob ob) ?_))))
 rintro _ _ ⟨y3,S21,M21,rfl,rfl,hp3⟩
 obtain ⟨hg1,hg2,hg3,hg4⟩:=hp3
 have hgk:ImOk y3.er:=by rw [hg1];exact hxk
 have hg5:=Zlm hgk
 have hg7:=Znx hgk
 refine Z0 3 (.n 30 (.agg [.val ((YU y3.dv).v),.val ((YU y3.pv).v)]) (.n 31 (.b ((Yb n).2)) .r)) (iA [nl,nl] ?_)
 intro b4
 refine iS 0 b4 0 [.val ((YU y3.dv).v),.val ((YU y3.pv).v)] [nl,nl] [.val ((YU y3.dv).v),.val ((YU y3.pv).v)] (Z0 1 (.n 8 (.b ((Yb n).2)) .r) (ie (aq (ar (Za 2 (.n 32 (.agg [.val ((YU y3.dv).v),.val ((YU y3.pv).v)]) (.n 33 (UI ((Yb n).1)) .r)) [0,4] [b4,b2] (ic [1] (Zea y3 ((Yb n).1) S21 M21 ob ob hxk) ?_))))))
 rintro _ _ ⟨rfl,rfl⟩
 refine Z0 4 (.n 36 (.b false) (.n 37 (.b ((Yb n).2)) (.n 38 (.b ((Yb n).2)) .r))) (Zf (Z8z ((Yb n).2) ((Yb n).2)) (Z0 1 (.n 40 (.b (((Yb n).2) != ((Yb n).2))) .r) (ie (ac (((Yb n).2) != ((Yb n).2)) Zw (fun hc2=>?_) (fun hc2=>?_)))))
 ·refine ar (ir 1 [(2,.b false)] (ie ?_))
  exact Z5 (r2 [] [.b false] ⟨rfl,rfl⟩ (lb (absurd rfl hc2)))
 refine ak (aq (aD 5 (ZI (fuel:=3) 5 [0,1] (.n 41 (.agg [.val ((YU y2.dv).v),.val ((YU y2.rv).v)]) (.n 42 (ZJ n) .r)) [3,6] [b3,b1] (Zm 2 (dc 2 [] [1] [b3] (Z63 n ob) ?_)))))
 rintro _ _ ⟨y4,rfl,rfl,hp4⟩
 have hnhp4:W5 y4.er<=1000000000:=by rw [hp4];omega
 refine Zm 3 (dc 3 [3] [] [] (Zpp y2 y4 S1 M1 (by rw [ho1];symm;assumption) ob ob) ?_)
 rintro _ _ ⟨rfl,rfl⟩
 refine Zi (fuel:=0) 1 [4] (.n 45 (.b false) .r) (de (YA (ak (ar (Z0 1 (.n 9 (.i 1) .r) (ie (ar (Za 2 (.n 46 (.agg [.val ((YU y2.dv).v),.val ((YU y2.rv).v)]) (.n 47 (.i 1) .r)) [4] [b3] (ic [0] (Zuq S1 M1 y2 1 ob ob ob) ?_)))))))))
 rintro _ _ ⟨rfl,rfl⟩
 refine Z0 1 (.n 9 (.i ((1:Int)+((XY y2).length:Nat))) (.q 48 (.k (.k (.d .r))))) (ie (aq (ar (YV 8 [(1,.p b1 0),(4,.p b2 0),(5,.b ((Yb n).2)),(7,.p b4 0),(8,.b ((Yb n).2)),(56,.b (decide (((1:Int)+((XY y2).length:Nat))<0)))] [.own S1 (wr M1 (XY y2) 1),.many (YT y4),.own S21 M21,.obj b4 [.val ((YU y3.dv).v),.val ((YU y3.pv).v)],.obj b3 [.val ((YU y2.dv).v),.val ((YU y2.rv).v)],.obj b2 (Tv ((Yb n).1)),.many (YT y1),.obj b1 (ZU n)] ?_ (fun hj1=>?_)))))
 ·refine Xl [(1,.p b1 0),(4,.p b2 0),(5,.b ((Yb n).2)),(7,.p b4 0),(61,.b ((decide (((1:Int)+((XY y2).length:Nat))<0))||(((Yb n).2) != ((Yb n).2))))] [.own S1 (wr M1 (XY y2) 1),.many (YT y4),.own S21 M21,.obj b4 [.val ((YU y3.dv).v),.val ((YU y3.pv).v)],.obj b3 [.val ((YU y2.dv).v),.val ((YU y2.rv).v)],.obj b2 (Tv ((Yb n).1)),.many (YT y1),.obj b1 (ZU n)] ?_ ?_
  ·refine ir 1 [(1,.p b1 0),(4,.p b2 0),(5,.b ((Yb n).2)),(7,.p b4 0),(8,.b ((Yb n).2)),(57,.b (decide (((1:Int)+((XY y2).length:Nat))<0)))] (ib (b:=(decide (((1:Int)+((XY y2).length:Nat))<0))) 57 (fun hb1=>?_) (fun hb1=>?_))
   ·have hp5:((1:Int)+((XY y2).length:Nat))<0:=(dq).1 hb1
    refine Z0 4 (.n 61 (.b true) (.d (.w .z))) (ie ?_)
    exact wk [0,0,0,0,0,0,0,0] (fq (fc (x:=.b true) (lb (by simp only [hb1];rfl)) fl))
   have hp6:¬(((1:Int)+((XY y2).length:Nat))<0):=Zv dq hb1
   refine Z0 2 (.n 58 (.b ((Yb n).2)) (.n 59 (.b ((Yb n).2)) (.w (.k .z)))) (Zf (Z8z ((Yb n).2) ((Yb n).2)) (Z0 1 (.n 61 (.b (((Yb n).2) != ((Yb n).2))) .r) (ie ?_)))
   exact wk [0,0,0,0,0,0,0,0] (fq (fc (x:=.b (((Yb n).2) != ((Yb n).2))) (lb (by simp only [hb1];rfl)) fl))
  refine ac ((decide (((1:Int)+((XY y2).length:Nat))<0))||(((Yb n).2) != ((Yb n).2))) (p:=(((1:Int)+((XY y2).length:Nat))<0)∨(((Yb n).2)≠((Yb n).2))) (Zz dq Zw) (fun hc3=>?_) (fun hc3=>?_)
  ·refine ar (ir 1 [(2,.b false)] (ie ?_))
   exact Z5 (r2 [] [.b false] ⟨rfl,rfl⟩ (lb (hc3.elim (fun q=>by omega) fun q=>absurd rfl q)))
  refine ak (ar (ir 1 [(1,.p b1 0),(4,.p b2 0),(5,.b ((Yb n).2)),(7,.p b4 0),(10,.i 1)] (ie (ar (Za 2 (.n 62 (.agg [.val ((YU y3.dv).v),.val ((YU y3.pv).v)]) (.n 63 (.i 1) .r)) [3] [b4] (ic [2] (Zup S21 M21 y3 1 ob ob ob) ?_))))))
  rintro _ _ ⟨rfl,rfl⟩
  refine Z0 1 (.n 10 (.i ((1:Int)+((Xd y3).length:Nat))) (.p (.d (.d (.w .z))))) (ie (ar (Z0 1 (.n 11 (.i 1) .r) (ie (ar (Za 2 (.n 65 (.agg [.val ((YU y3.dv).v),.val ((YU y3.pv).v)]) (.n 66 (.i 1) .r)) [3] [b4] (ic [0] (Zfr S21 (wr M21 (Xd y3) 1) y3 1 (Zjj ((Kp.refl _).wr (Zc0 hg2) 1) hg2) ob (Z8r _ _ _ hg3) ob) ?_)))))))
  rintro _ _ ⟨rfl,rfl⟩
  refine Z0 1 (.n 11 (.i ((1:Int)+((Xd y3).length:Nat))) (.p (.d (.d (.d .r))))) (ie (aq (ar (Z0 2 (.n 69 (.b (decide (((1:Int)+((Xd y3).length:Nat))<0))) .r) (ie (ac (decide (((1:Int)+((Xd y3).length:Nat))<0)) dq (fun hc4=>?_) (fun hc4=>?_)))))))
  ·refine ar (ir 1 [(2,.b false)] (ie ?_))
   exact Z5 (r2 [] [.b false] ⟨rfl,rfl⟩ lb)
  refine ak (aq (ar (Z0 3 (.n 72 (.b (((1:Int)+((Xd y3).length:Nat)) != ((1:Int)+((Xd y3).length:Nat)))) .r) (ie (ac (((1:Int)+((Xd y3).length:Nat)) != ((1:Int)+((Xd y3).length:Nat))) Zw (fun hc5=>?_) (fun hc5=>?_))))))
  ·refine ar (ir 1 [(2,.b false)] (ie ?_))
   exact Z5 (r2 [] [.b false] ⟨rfl,rfl⟩ lb)
  refine ak (ar (Za 1 (.n 74 (ZJ n) .r) [7] [b1] (ic [] (Z63 n ob) ?_)))
  rintro _ _ ⟨y5,rfl,rfl,hp7⟩
  have hnhp7:W5 y5.er<=1000000000:=by rw [hp7];omega
  refine ic [] (Zfx y5 n ob ob ob) ?_
  rintro _ _ ⟨y6,rfl,rfl,hp8⟩
  refine Z0 3 (.n 77 (UH y6) (.n 78 (.b ((Yb n).2)) .r)) (iA [nl,nl] ?_)
  intro b5
  refine iS 0 b5 0 (Z51 y6) [nl,nl] (Z51 y6) (Z0 1 (.n 13 (.b ((Yb n).2)) .r) (ie (aq (ar (Za 2 (.n 79 (UH y6) (.n 80 (UI ((Yb n).1)) .r)) [0,8] [b5,b2] (ic [] (Zpm y6 ((Yb n).1) ob hxk) ?_))))))
  rintro _ _ ⟨rfl,rfl⟩
  refine Z0 4 (.n 83 (.b false) (.n 84 (.b ((Yb n).2)) (.n 85 (.b ((Yb n).2)) .r))) (Zf (Z8z ((Yb n).2) ((Yb n).2)) (Z0 1 (.n 87 (.b (((Yb n).2) != ((Yb n).2))) .r) (ie (ac (((Yb n).2) != ((Yb n).2)) Zw (fun hc6=>?_) (fun hc6=>?_)))))
  ·refine ar (ir 1 [(2,.b false)] (ie ?_))
   exact Z5 (r2 [] [.b false] ⟨rfl,rfl⟩ (lb (absurd rfl hc6)))
  refine ak (ar (ir 1 [(7,.p b4 0),(10,.i ((1:Int)+((Xd y3).length:Nat))),(11,.i 1)] (ie (ar (Za 2 (.n 88 (.agg [.val ((YU y3.dv).v),.val ((YU y3.pv).v)]) (.n 89 (.i 1) .r)) [6] [b4] (ic [3] (Zfr S21 (wr M21 (Xd y3) 1) y3 1 (Zjj ((Kp.refl _).wr (Zc0 hg2) 1) hg2) ob (Z8r _ _ _ hg3) ob) ?_))))))
  rintro _ _ ⟨rfl,rfl⟩
  refine Z0 1 (.n 11 (.i ((1:Int)+((Xd y3).length:Nat))) (.p (.d (.d (.d (.k .z)))))) (ie (aq (ar (Z0 2 (.n 92 (.b (decide (((1:Int)+((Xd y3).length:Nat))<0))) .r) (ie (ac (decide (((1:Int)+((Xd y3).length:Nat))<0)) dq (fun hc7=>?_) (fun hc7=>?_)))))))
  ·refine ar (ir 1 [(2,.b false)] (ie ?_))
   exact Z5 (r2 [] [.b false] ⟨rfl,rfl⟩ lb)
  refine ak (aq (ar (ir 3 [(95,.b (((1:Int)+((Xd y3).length:Nat)) != ((1:Int)+((Xd y3).length:Nat))))] (ie (ac (((1:Int)+((Xd y3).length:Nat)) != ((1:Int)+((Xd y3).length:Nat))) Zw (fun hc8=>?_) (fun hc8=>?_))))))
  ·refine ar (ir 1 [(2,.b false)] (ie ?_))
   exact Z5 (r2 [] [.b false] ⟨rfl,rfl⟩ lb)
  refine ak (ar (ir 1 [(2,.b true)] (ie ?_)))
  exact Z5 (r1 [] ⟨rfl,rfl⟩)
 refine ir 3 [(1,.p b1 0),(4,.p b2 0),(5,.b ((Yb n).2)),(7,.p b4 0),(8,.b ((Yb n).2)),(51,.b (decide (((1:Int)+((XY y2).length:Nat))<0)))] (ib (b:=(decide (((1:Int)+((XY y2).length:Nat))<0))) 51 (fun hb2=>?_) (fun hb2=>?_))
 ·have hp9:((1:Int)+((XY y2).length:Nat))<0:=(dq).1 hb2
  refine Z0 5 (.n 56 (.b true) (.d (.w (.k .z)))) ?_
  exact ZL (wk [0,0,0,0,0,0,0,0] (fq (fr (fc (x:=.b true) (lb (by simp only [hb2])) fl)))) hj1
 have hp10:¬(((1:Int)+((XY y2).length:Nat))<0):=Zv dq hb2
 refine Za 2 (.n 52 (.agg [.val ((YU y3.dv).v),.val ((YU y3.pv).v)]) (.n 53 (UI ((Yb n).1)) (.w (.k (.k .z))))) [3,5] [b4,b2] (ic [2] (Zea y3 ((Yb n).1) S21 M21 ob ob hxk) ?_)
 rintro _ _ ⟨rfl,rfl⟩
 refine Z0 2 (.n 56 (.b false) .r) ?_
 exact ZL (wk [1,1,0,0,0,0,0,0] (fq (fr (fc (x:=.b false) (lb (by simp only [hb2])) fl)))) hj1
end Go.Abs
section
namespace Go.Proofs.YtobaalepdnclfaaGreat.fnExactFlatten
open Go.ChangeShapes Go.WideShapes Go.ChangeAt Go.RowKit Go.Abs
theorem own:ownKnob Tryz.prog.godebug=none:=by kernel_rfl
theorem kids:Kids Tryz.prog (·<Tryz.prog.types.size):=kids_rows kr kr
theorem Zqq:∀t e,t<Tryz.prog.types.size->Tryz.prog.underlying t=some (.slice e)->0<Tryz.prog.cellsOf e:=slices_full_of Tryz.prog kr
theorem Zlx {v:Value} (h:v.cells.toList.length=2):v=.agg v.cells:=by
 cases v<;>first|rfl|(simp [Value.cells] at h)
theorem Zj3 {w w':World} {G G':Zs} {h':List Res} (hx:Ext w G [] w' G' h'):∀b,b<w.heap.size->w'.heap[b]? = w.heap[b]?:=
 fun b hb=>(hx.same b hb).eq fun o ⟨r,hr,_⟩=>by cases hr
theorem Znc {w w':World} {b o:Nat} (h:w'.heap[b]? = w.heap[b]?):w'.cell? ⟨b,o,none⟩=w.cell? ⟨b,o,none⟩:=by simp [World.cell?,h]
theorem Zue {t:Nat} (h:Nat.blt t Tryz.prog.types.size=true):t<Tryz.prog.types.size:=Nat.le_of_ble_eq_true h
theorem Zo1 (H:Type) (enc:TypeId × Value->H) (W:World) (base:Nat) (args:Array Value) (ds gs:List (DataW H)) (before:List MemPlace) (hkb:Rows.uptoSmall H (ds++gs)=true)
  (hW:DataW.Whole enc Tryz.prog Tryz.f3.params.toList Rows.fnExactFlattenSpec.vars false W args.toList ds gs before) :
  Calls Tryz.prog 3 args W fun e W'=>∃v,e=.returned v/\Rows.fnExactFlattenSpec.post enc Tryz.prog Tryz.f3 false true false false W args v W':=by
 have hW':=hW
 obtain ⟨p,q,hA0,hV,rfl,hfz,hnd⟩:=hW
 have hA:DataW.TrodAll enc Tryz.prog W 0 (fun _=>true) true Tryz.f3.params.toList args.toList ds p:=hA0
 rw [Tryz.params3] at hA
 obtain ⟨v0,vs0,d0,ds0,p0,q0,hargs,rfl,rfl,h0,r0⟩:=trodAll_cons hA
 obtain ⟨rfl,rfl,rfl⟩:=trodAll_nil r0
 obtain rfl:args=#[v0]:=by cases args;simp_all
 obtain ⟨rfl,rfl⟩:=trodVars_none hV
 obtain ⟨fuel,htr⟩:=h0
 obtain ⟨a,hrc,hsz,hrg⟩:=Zvy htr
 have hb:Rows.uptoBulkAll ([d0]++[])<=1048576:=of_decide_eq_true hkb
 simp only [List.append_nil,Rows.uptoBulkAll] at hb
 have hsz:W5 a<=Rows.uptoBulk d0:=hsz
 have hv0:v0=.agg v0.cells:=Zlx (by rw [hrc.length];rfl)
 have hrv:RV W (GA W) (ZJ a) v0:=by
  rw [hv0]
  have:=RV.agg hrc
  simpa using this
 have hh:HOk W (GA W) []:=⟨(fun r hr=>by cases hr),List.Pairwise.nil,(fun r hr=>by cases hr),fun b o hg=>hg⟩
 refine (Zta a om hrg W (GA W) [v0] (.cons hrv .nil) hh).mono ?_
 rintro e W' ⟨v,r,h',G',rfl,⟨rfl,rfl⟩,hv,hh',hx⟩
 have hvb:=hv.val_inv
 subst hvb
 refine ⟨_,rfl,[d0],[],p0++[]++[],[],p0++[],[],hW',?_,?_,rfl,?_,(fun h=>by cases h)⟩
 ·exact trodAll_cons_mk (shut_bool Tryz.underlying4 _) trodAll_mk0
 ·have YQ:∀b,b<W.heap.size->W'.heap[b]? = W.heap[b]?:=Zj3 hx
  have hlt:=hW'.lt
  have hcar:DataW.TrodAll enc Tryz.prog W' 0 (fun _=>true) true Tryz.f3.params.toList [v0] [d0] (p0++[]):=by
   rw [Tryz.params3]
   refine ⟨p0,[],⟨fuel,DataW.trod_carry fuel 25 _ _ htr fun y hy=>?_⟩,rfl,rfl⟩
   have hyl:=hlt y (by simpa using hy)
   cases y with
   | cell b o=>exact Znc (YQ b hyl)
   | map b=>exact YQ b hyl
  exact DataW.TrodAll.respare kids Zqq (by rw [Tryz.params3];intro t ht;rw [List.mem_singleton.1 ht];exact Zue kr) hcar (fun y hy=>by have:=hlt y (by simpa using hy);simpa using this)
 ·refine ⟨hx.os,hx.output,fun i hi=>?_⟩
  rw [Zj3 hx i hi]
  cases W.heap[i]? with
  | none=>rfl
  | some o=>cases o<;>first | rfl | exact ⟨rfl,rfl,rfl,fun _ _=>rfl⟩ | exact .inr ⟨rfl,rfl⟩
set_option maxRecDepth 100000 in
theorem Zu3 (os:Os) (started:os.Started) (H:Type) (enc:TypeId × Value->H) (F:Stop.Interp) :
  ReturnsInHanded {} Tryz.checked os 3 .any ((Rows.OpenSpec.upto Rows.fnExactFlattenSpec).pre6 enc Tryz.prog Tryz.f3 Rows.fnExactFlattenUptoRow.domain false) (((Rows.OpenSpec.upto Rows.fnExactFlattenSpec).at F).post enc Tryz.prog Tryz.f3 false true false false):=by
 refine returnsInHanded_of_cond (C:=Tryz.checked) (s:=Rows.OpenSpec.upto Rows.fnExactFlattenSpec) (k:=Rows.uptoSmall) rfl own started kr Tryz.func3
  (OpenSpec.witness (enc:=enc) (C:=Tryz.checked) (s:=Rows.OpenSpec.upto Rows.fnExactFlattenSpec) (k:=Rows.uptoSmall) rfl false ⟨#[],#[.agg #[.slice none 0 0,.slice none 0 0]],[]⟩ 8 kr kr kr
   (x:=([.agg [.nil,.nil]],[],[])) kr rfl kr) ?_
 intro W base args ds gs before hval hW _ hk _
 exact Zo1 H enc W base args ds gs before hk hW
theorem Zvp:Rows.fnExactFlattenUptoRow.holds Tryz.pinned (Rows.OpenSpec.upto Rows.fnExactFlattenSpec):=
 OpenClaim.holds_of_cond 3 Tryz.f3 rfl rfl rfl rfl rfl rfl rfl ⟨rfl,rfl,rfl,rfl,rfl⟩ rfl rfl rfl rfl rfl kr Tryz.func3 kr
  (of_decide_eq_true kr) (by unfold Func.isWrapper;first|(rw [if_pos (by decide +kernel)];kernel_rfl)|(rw [if_neg (by decide +kernel)];exact ⟨rfl,rfl⟩))
  (fun os started H enc _ F=>Zu3 os started H enc F)
theorem proved:Rows.FnExactFlattenUptoSaid:=
 Zvp
#print axioms proved
end Go.Proofs.YtobaalepdnclfaaGreat.fnExactFlatten
end
