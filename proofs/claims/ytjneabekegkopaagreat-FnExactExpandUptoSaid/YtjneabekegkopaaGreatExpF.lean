/-
  FnExactExpandUptoSaid: the law FnExactExpand returns true at every argument of bulk at most 1048576, and the argument reads behind the call as it read before.
-/
import Derived.Test.YtjneabekegkopaaGreatExpE
import Derived.Test.YtjneabekegkopaaGreatRows
import Derived.WalkKit
import Derived.ProofKit
import Derived.OpenShut
import Derived.JoinedCond
import Derived.ReadAgain
set_option linter.all false
set_option linter.unusedVariables false
set_option linter.unusedSimpArgs false
set_option linter.unusedSectionVars false
section
namespace Go.Abs
open Go.Proofs
set_option maxRecDepth 10000
set_option maxHeartbeats 4000000
theorem Zcx (S:List Nat) (M:Mem) (v:Value) (xs:List Int) (q:Int) (hd:HdOk S v xs.length:=by exact ob) (hs:skI M (vblk v) xs.length:=by exact ob) (hq:0≤q∧q+((adI (vblk v) 0 xs.length).length:Nat)≤4000000000000:=by exact ob):Z3 Tryz.prog 72 [.val v,.i q] [.own S M] (fun r h=>r=.i (q+((adI (vblk v) 0 xs.length).length:Nat))∧h=[.own S (wr M (adI (vblk v) 0 xs.length) q)]):=by
 have hal:=Zbe (vblk v) xs.length 0
 refine enter Tryz.func72 kr (n:=19) kr kr (ar (ir 1 [(0,.val v),(1,.i q)] (ie (aq (ar (irk 1 (.n 5 (.i 0) .r) (ie (ab 0 (al (fun m F h=>∃(k:Nat) (z:Int) (N:Mem),(k≤xs.length)∧(0≤z)∧(z+((adI (vblk v) k (xs.length-k)).length:Nat)=q+((adI (vblk v) 0 xs.length).length:Nat))∧(Kp M N)∧(wr N (adI (vblk v) k (xs.length-k)) z=wr M (adI (vblk v) 0 xs.length) q)∧F=[(0,.val v),(1,.i z),(5,.i k)]∧h=[.own S N]∧m=xs.length-k) _ _ _ ⟨0,q,M,ob,ob,(by simp),(Kp.refl M),(by simp),rfl,rfl,rfl⟩ (wk [0] (fr (fr (fc (x:=.i 0) li fl)))) ?_)))))))))
 rintro m F h ⟨k,z,N,c0_0,c0_1,c0_2,c0_3,c0_4,rfl,rfl,rfl⟩
 refine aq (ar (irk 2 (.n 6 (.i k) (.n 7 (.val v) .r)) (is_ (oLen S v xs.length hd) (irk 1 (.n 9 (.b (decide ((k:Int)<(xs.length:Int)))) .r) (ie (ac (decide ((k:Int)<(xs.length:Int))) decide_eq_true_iff (fun hc1=>?_) (fun hc1=>?_)))))))
 ·have hb:=hd.blk (i:=k) om
  have hdr:=Zpa (vblk v) xs.length k om
  have hl0:(adI (vblk v) k (xs.length-k)).length=(adI (vblk v) (k+1) (xs.length-(k+1))).length+1:=by rw [hdr];rfl
  have hsk:=hs k om
  rw [←Nat.mul_one k] at hsk
  have kp:=c0_3
  have i0:=kp.i hsk
  refine ak (aq (ab 1 (ar (irk 3 (.n 12 (.val v) (.n 13 (.i k) (.n 14 (.i z) .r))) (is_ (oIdx S v xs.length k 1 (k:Int) hd) (iOS 0 S N (vblk v) (k*1) z hb.1 i0 ?_))))))
  have kp:=kp.upd hsk z
  refine ie (az (irk 1 (.n 16 (.i z) .r) (ia ((z+1)) ((z)+(1)) (ir 1 [(0,.val v),(1,.i (z+1)),(5,.i k)] (ie (az (irk 1 (.n 10 (.i k) .r) (ia (((k+1:Nat):Int)) (((k:Int))+(1)) (irk 1 (.n 5 (.i (k+1:Nat)) (.p (.d (.k (.k .z))))) (ie ?_))))))))))
  exact ⟨_,_,_,ob,⟨k+1,(z+1),upd N (vblk v,k*1) z,ob,ob,ob,kp,(by rw [←c0_4,hdr,wr,Nat.mul_one]),rfl,rfl,rfl⟩,(wk [0] (fr (fr (fc (x:=.i (k+1:Nat)) li fl))))⟩
 have he:adI (vblk v) k (xs.length-k)=[]:=by rw [show xs.length-k=0 by omega];rfl
 rw [he,List.length_nil] at c0_2
 rw [he,wr] at c0_4
 refine ax 0 (ar (ir 2 [(4,.i z)] (ie ?_)))
 exact at_ (r2 [0] [.i z] ⟨rfl,rfl⟩ li (eq:=(Zow (m:=N) c0_4 rz)))
theorem Zve (S:List Nat) (M:Mem) (v:Value) (xs:List HCon) (q:Int) (hl:xs.length≤4000000000000:=by exact ob) (hd:HdOk S v xs.length:=by exact ob) (hs:Zac M S (vblk v) 0 xs:=by exact ob) (hq:0≤q∧q+((Z30 xs).length:Nat)≤4000000000000:=by exact ob):Z3 Tryz.prog 71 [.val v,.i q] [.own S M] (fun r h=>r=.i (q+((Z30 xs).length:Nat))∧h=[.own S (wr M (Z30 xs) q)]):=by
 refine enter Tryz.func71 kr (n:=20) kr kr (ar (ir 1 [(0,.val v),(1,.i q)] (ie (aq (ar (irk 1 (.n 5 (.i 0) .r) (ie (ab 0 (al (fun m F h=>∃(k:Nat) (z:Int) (N:Mem),(k≤xs.length)∧(0≤z)∧(z+((Z30 (xs.drop k)).length:Nat)=q+((Z30 xs).length:Nat))∧(Kp M N)∧(wr N (Z30 (xs.drop k)) z=wr M (Z30 xs) q)∧F=[(0,.val v),(1,.i z),(5,.i k)]∧h=[.own S N]∧m=xs.length-k) _ _ _ ⟨0,q,M,ob,ob,(by simp),(Kp.refl M),(by simp),rfl,rfl,rfl⟩ (wk [0] (fr (fr (fc (x:=.i 0) li fl)))) ?_)))))))))
 rintro m F h ⟨k,z,N,c0_0,c0_1,c0_2,c0_3,c0_4,rfl,rfl,rfl⟩
 refine aq (ar (irk 2 (.n 6 (.i k) (.n 7 (.val v) .r)) (is_ (oLen S v xs.length hd) (irk 1 (.n 9 (.b (decide ((k:Int)<(xs.length:Int)))) .r) (ie (ac (decide ((k:Int)<(xs.length:Int))) decide_eq_true_iff (fun hc1=>?_) (fun hc1=>?_)))))))
 ·have hb:=hd.blk (i:=k) om
  obtain ⟨x1,hx1⟩:=Z9 (xs:=xs) (j:=k) om
  have e1:=Zec hs hx1
  rw [Nat.zero_add] at e1
  obtain ⟨⟨a0,d0⟩,s0⟩:=e1
  rw [←Nat.mul_one k] at a0
  have hdr:=Zga hx1
  have hln:(Zx7 x1).length=(adI (vblk x1.fv) 0 x1.fields.length).length:=rfl
  have hl0:=congrArg List.length hdr
  rw [List.length_append,hln] at hl0
  have kp:=c0_3
  refine ak (aq (ab 1 (az (irk 2 (.n 12 (.val v) (.n 13 (.i k) .r)) (is_ (oIdx S v xs.length k 1 (k:Int) hd) (irk 1 (.n 15 (.val (.pointer (some ⟨vblk v,k*1,none⟩))) .r) ?_))))))
  have t0:skI N (vblk x1.fv) x1.fields.length:=fun i hi=>kp.i (s0 i hi)
  refine ix_ (oGet 0 S N (vblk v) (k*1) x1.fv hb.1 (kp.h a0 d0.ni)) (irk 1 (.n 17 (.i z) .r) (ic [0] (Zcx S N x1.fv x1.fields z) ?_))
  rintro _ _ ⟨rfl,rfl⟩
  have kp:=kp.wr (Z9w s0) z
  refine ir 1 [(0,.val v),(1,.i (z+((adI (vblk x1.fv) 0 x1.fields.length).length:Nat))),(5,.i k)] (ie (az (irk 1 (.n 10 (.i k) .r) (ia (((k+1:Nat):Int)) (((k:Int))+(1)) (irk 1 (.n 5 (.i (k+1:Nat)) (.p (.d (.k (.k .z))))) (ie ?_))))))
  exact ⟨_,_,_,ob,⟨k+1,(z+((adI (vblk x1.fv) 0 x1.fields.length).length:Nat)),(wr N (adI (vblk x1.fv) 0 x1.fields.length) z),ob,ob,ob,kp,(Znh c0_4 hdr rfl om),rfl,rfl,rfl⟩,(wk [0] (fr (fr (fc (x:=.i (k+1:Nat)) li fl))))⟩
 have he:(Z30 (xs.drop k))=[]:=by rw [List.drop_eq_nil_of_le om];rfl
 rw [he,List.length_nil] at c0_2
 rw [he,wr] at c0_4
 refine ax 0 (ar (ir 2 [(4,.i z)] (ie ?_)))
 exact at_ (r2 [0] [.i z] ⟨rfl,rfl⟩ li (eq:=(Zow (m:=N) c0_4 rz)))
theorem Zrz (S:List Nat) (M:Mem) (v:Value) (xs:List HDecl) (q:Int) (hl:∀d∈xs,d.cons.length≤4000000000000) (hd:HdOk S v xs.length:=by exact ob) (hs:Z88 M S (vblk v) 0 xs:=by exact ob) (hq:0≤q∧q+((Z12 (vblk v) 0 xs).length:Nat)≤4000000000000:=by exact ob):Z3 Tryz.prog 32 [.val v,.i q] [.own S M] (fun r h=>r=.i (q+((Z12 (vblk v) 0 xs).length:Nat))∧h=[.own S (wr M (Z12 (vblk v) 0 xs) q)]):=by
 have hal:=Zdn (g:=vblk v) (o:=0) (ds:=xs)
 refine enter Tryz.func32 kr (n:=34) kr kr (ar (ir 1 [(0,.val v),(1,.i q)] (ie (aq (ar (irk 1 (.n 5 (.i 0) .r) (ie (ab 0 (al (fun m F h=>∃(k:Nat) (z:Int) (N:Mem),(k≤xs.length)∧(0≤z)∧(z+((Z12 (vblk v) (k*3) (xs.drop k)).length:Nat)=q+((Z12 (vblk v) 0 xs).length:Nat))∧(Kp M N)∧(wr N (Z12 (vblk v) (k*3) (xs.drop k)) z=wr M (Z12 (vblk v) 0 xs) q)∧F=[(0,.val v),(1,.i z),(5,.i k)]∧h=[.own S N]∧m=xs.length-k) _ _ _ ⟨0,q,M,ob,ob,(by simp),(Kp.refl M),(by simp),rfl,rfl,rfl⟩ (wk [0] (fr (fr (fc (x:=.i 0) li fl)))) ?_)))))))))
 rintro m F h ⟨k,z,N,c0_0,c0_1,c0_2,c0_3,c0_4,rfl,rfl,rfl⟩
 refine aq (ar (irk 2 (.n 6 (.i k) (.n 7 (.val v) .r)) (is_ (oLen S v xs.length hd) (irk 1 (.n 9 (.b (decide ((k:Int)<(xs.length:Int)))) .r) (ie (ac (decide ((k:Int)<(xs.length:Int))) decide_eq_true_iff (fun hc1=>?_) (fun hc1=>?_)))))))
 ·have hb:=hd.blk (i:=k) om
  obtain ⟨x1,hx1⟩:=Z9 (xs:=xs) (j:=k) om
  have e1:=Zbt hs hx1
  rw [Nat.zero_add] at e1
  obtain ⟨i0,i1,⟨a2,d2⟩,s2⟩:=e1
  have hdr:=Zel (g:=vblk v) hx1
  have hl1:=hl x1 (List.mem_of_getElem? hx1)
  have hln:=Zft (g:=vblk v) (o:=k*3) (d:=x1)
  have hl0:=congrArg List.length hdr
  rw [List.length_append,hln] at hl0
  have kp:=c0_3
  refine ak (aq (ab 1 (ar (irk 3 (.n 12 (.val v) (.n 13 (.i k) (.n 14 (.i z) .r))) (is_ (oIdx S v xs.length k 3 (k:Int) hd) (irk 1 (.n 16 (.val (.pointer (some ⟨vblk v,k*3,none⟩))) .r) (iOS 0 S N (vblk v) (k*3) z hb.1 (kp.i i0) ?_)))))))
  have kp:=kp.upd i0 z
  refine ie (ar (irk 1 (.n 17 (.i z) .r) (ia ((z+1)) ((z)+(1)) (ir 1 [(0,.val v),(1,.i (z+1)),(5,.i k)] (ie (ar (irk 3 (.n 19 (.val v) (.n 20 (.i k) (.n 21 (.i (z+1)) .r))) (is_ (oIdx S v xs.length k 3 (k:Int) hd) (irk 1 (.n 23 (.val (.pointer (some ⟨vblk v,k*3+1,none⟩))) .r) (iOS 0 S (upd N (vblk v,k*3) z) (vblk v) (k*3+1) (z+1) hb.1 (kp.i i1) ?_))))))))))
  have kp:=kp.upd i1 (z+1)
  refine ie (ar (irk 1 (.n 24 (.i (z+1)) .r) (ia (((z+1)+1)) (((z+1))+(1)) (ir 1 [(0,.val v),(1,.i ((z+1)+1)),(5,.i k)] (ie (az (irk 2 (.n 26 (.val v) (.n 27 (.i k) .r)) (is_ (oIdx S v xs.length k 3 (k:Int) hd) (irk 1 (.n 29 (.val (.pointer (some ⟨vblk v,k*3+2,none⟩))) .r) ?_)))))))))
  have t2:Zac (upd (upd N (vblk v,k*3) z) (vblk v,k*3+1) (z+1)) S (vblk x1.cv) 0 x1.cons:=Zhc kp s2
  refine ix_ (oGet 0 S (upd (upd N (vblk v,k*3) z) (vblk v,k*3+1) (z+1)) (vblk v) (k*3+2) x1.cv hb.1 (kp.h a2 d2.ni)) (irk 1 (.n 31 (.i ((z+1)+1)) .r) (ic [0] (Zve S (upd (upd N (vblk v,k*3) z) (vblk v,k*3+1) (z+1)) x1.cv x1.cons ((z+1)+1)) ?_))
  rintro _ _ ⟨rfl,rfl⟩
  have kp:=kp.wr (Zdm s2) ((z+1)+1)
  refine ir 1 [(0,.val v),(1,.i (((z+1)+1)+((Z30 x1.cons).length:Nat))),(5,.i k)] (ie (az (irk 1 (.n 10 (.i k) .r) (ia (((k+1:Nat):Int)) (((k:Int))+(1)) (irk 1 (.n 5 (.i (k+1:Nat)) (.p (.d (.k (.k .z))))) (ie ?_))))))
  exact ⟨_,_,_,ob,⟨k+1,(((z+1)+1)+((Z30 x1.cons).length:Nat)),(wr (upd (upd N (vblk v,k*3) z) (vblk v,k*3+1) (z+1)) (Z30 x1.cons) ((z+1)+1)),ob,ob,ob,kp,(Znh c0_4 hdr Z01z om),rfl,rfl,rfl⟩,(wk [0] (fr (fr (fc (x:=.i (k+1:Nat)) li fl))))⟩
 have he:(Z12 (vblk v) (k*3) (xs.drop k))=[]:=by rw [List.drop_eq_nil_of_le om];rfl
 rw [he,List.length_nil] at c0_2
 rw [he,wr] at c0_4
 refine ax 0 (ar (ir 2 [(4,.i z)] (ie ?_)))
 exact at_ (r2 [0] [.i z] ⟨rfl,rfl⟩ li (eq:=(Zow (m:=N) c0_4 rz)))
theorem Zor (S:List Nat) (M:Mem) (v:Value) (xs:List HStep) (q:Int) (ih:∀(S:List Nat) (M:Mem) (v:Value) (ys:List HBlock) (q:Int),(SizeOf.sizeOf ys<SizeOf.sizeOf xs)→(HdOk S v ys.length)→(Z2f M S (vblk v) 0 ys)→(0≤q∧q+((Z09 (vblk v) 0 ys).length:Nat)≤4000000000000)→Z3 Tryz.prog 130 [.val v,.i q] [.own S M] (fun r h=>r=.i (q+((Z09 (vblk v) 0 ys).length:Nat))∧h=[.own S (wr M (Z09 (vblk v) 0 ys) q)])) (hd:HdOk S v xs.length) (hs:Z2o M S (vblk v) 0 xs) (hq:0≤q∧q+((Zd (vblk v) 0 xs).length:Nat)≤4000000000000):Z3 Tryz.prog 73 [.val v,.i q] [.own S M] (fun r h=>r=.i (q+((Zd (vblk v) 0 xs).length:Nat))∧h=[.own S (wr M (Zd (vblk v) 0 xs) q)]):=by
 have hal:=Zdo (g:=vblk v) (o:=0) (xs:=xs)
 refine enter Tryz.func73 kr (n:=48) kr kr (ar (ir 1 [(0,.val v),(1,.i q)] (ie (aq (ar (irk 1 (.n 5 (.i 0) .r) (ie (ab 0 (al (fun m F h=>∃(k:Nat) (z:Int) (N:Mem),(k≤xs.length)∧(0≤z)∧(z+((Zd (vblk v) (k*5) (xs.drop k)).length:Nat)=q+((Zd (vblk v) 0 xs).length:Nat))∧(Kp M N)∧(wr N (Zd (vblk v) (k*5) (xs.drop k)) z=wr M (Zd (vblk v) 0 xs) q)∧F=[(0,.val v),(1,.i z),(5,.i k)]∧h=[.own S N]∧m=xs.length-k) _ _ _ ⟨0,q,M,ob,ob,(by simp),(Kp.refl M),(by simp),rfl,rfl,rfl⟩ (wk [0] (fr (fr (fc (x:=.i 0) li fl)))) ?_)))))))))
 rintro m F h ⟨k,z,N,c0_0,c0_1,c0_2,c0_3,c0_4,rfl,rfl,rfl⟩
 refine aq (ar (irk 2 (.n 6 (.i k) (.n 7 (.val v) .r)) (is_ (oLen S v xs.length hd) (irk 1 (.n 9 (.b (decide ((k:Int)<(xs.length:Int)))) .r) (ie (ac (decide ((k:Int)<(xs.length:Int))) decide_eq_true_iff (fun hc1=>?_) (fun hc1=>?_)))))))
 ·have hb:=hd.blk (i:=k) om
  obtain ⟨x1,hx1⟩:=Z9 (xs:=xs) (j:=k) om
  have e1:=Zbu hs hx1
  rw [Nat.zero_add] at e1
  rw [Zn1] at e1
  have hz:SizeOf.sizeOf x1.kids<SizeOf.sizeOf xs:=Zpz hx1
  obtain ⟨⟨i0,i1,i2⟩,⟨⟨a3,d3⟩,s3⟩,⟨⟨a4,d4⟩,s4⟩⟩:=e1
  have hdr:=Zeo (g:=vblk v) hx1
  have hln:=Zkc (g:=vblk v) (o:=k*5) (s:=x1)
  have hl0:=congrArg List.length hdr
  rw [List.length_append,hln] at hl0
  have kp:=c0_3
  refine ak (aq (ab 1 (ar (irk 3 (.n 12 (.val v) (.n 13 (.i k) (.n 14 (.i z) .r))) (is_ (oIdx S v xs.length k 5 (k:Int) hd) (irk 1 (.n 16 (.val (.pointer (some ⟨vblk v,k*5,none⟩))) .r) (iOS 0 S N (vblk v) (k*5) z hb.1 (kp.i i0) ?_)))))))
  have kp:=kp.upd i0 z
  refine ie (ar (irk 1 (.n 17 (.i z) .r) (ia ((z+1)) ((z)+(1)) (ir 1 [(0,.val v),(1,.i (z+1)),(5,.i k)] (ie (ar (irk 3 (.n 19 (.val v) (.n 20 (.i k) (.n 21 (.i (z+1)) .r))) (is_ (oIdx S v xs.length k 5 (k:Int) hd) (irk 1 (.n 23 (.val (.pointer (some ⟨vblk v,k*5+1,none⟩))) .r) (iOS 0 S (upd N (vblk v,k*5) z) (vblk v) (k*5+1) (z+1) hb.1 (kp.i i1) ?_))))))))))
  have kp:=kp.upd i1 (z+1)
  refine ie (ar (irk 1 (.n 24 (.i (z+1)) .r) (ia (((z+1)+1)) (((z+1))+(1)) (ir 1 [(0,.val v),(1,.i ((z+1)+1)),(5,.i k)] (ie (ar (irk 3 (.n 26 (.val v) (.n 27 (.i k) (.n 28 (.i ((z+1)+1)) .r))) (is_ (oIdx S v xs.length k 5 (k:Int) hd) (irk 1 (.n 30 (.val (.pointer (some ⟨vblk v,k*5+2,none⟩))) .r) (iOS 0 S (upd (upd N (vblk v,k*5) z) (vblk v,k*5+1) (z+1)) (vblk v) (k*5+2) ((z+1)+1) hb.1 (kp.i i2) ?_))))))))))
  have kp:=kp.upd i2 ((z+1)+1)
  refine ie (ar (irk 1 (.n 31 (.i ((z+1)+1)) .r) (ia ((((z+1)+1)+1)) ((((z+1)+1))+(1)) (ir 1 [(0,.val v),(1,.i (((z+1)+1)+1)),(5,.i k)] (ie (ar (irk 2 (.n 33 (.val v) (.n 34 (.i k) .r)) (is_ (oIdx S v xs.length k 5 (k:Int) hd) (irk 1 (.n 36 (.val (.pointer (some ⟨vblk v,k*5+3,none⟩))) .r) ?_)))))))))
  have t3:skI (upd (upd (upd N (vblk v,k*5) z) (vblk v,k*5+1) (z+1)) (vblk v,k*5+2) ((z+1)+1)) (vblk x1.av) x1.args.length:=fun i hi=>kp.i (s3 i hi)
  refine ix_ (oGet 0 S (upd (upd (upd N (vblk v,k*5) z) (vblk v,k*5+1) (z+1)) (vblk v,k*5+2) ((z+1)+1)) (vblk v) (k*5+3) x1.av hb.1 (kp.h a3 d3.ni)) (irk 1 (.n 38 (.i (((z+1)+1)+1)) .r) (ic [0] (Zcx S (upd (upd (upd N (vblk v,k*5) z) (vblk v,k*5+1) (z+1)) (vblk v,k*5+2) ((z+1)+1)) x1.av x1.args (((z+1)+1)+1)) ?_))
  rintro _ _ ⟨rfl,rfl⟩
  have kp:=kp.wr (Z9w s3) (((z+1)+1)+1)
  refine ir 1 [(0,.val v),(1,.i ((((z+1)+1)+1)+((adI (vblk x1.av) 0 x1.args.length).length:Nat))),(5,.i k)] (ie (az (irk 2 (.n 40 (.val v) (.n 41 (.i k) .r)) (is_ (oIdx S v xs.length k 5 (k:Int) hd) (irk 1 (.n 43 (.val (.pointer (some ⟨vblk v,k*5+4,none⟩))) .r) ?_)))))
  have t4:Z2f (wr (upd (upd (upd N (vblk v,k*5) z) (vblk v,k*5+1) (z+1)) (vblk v,k*5+2) ((z+1)+1)) (adI (vblk x1.av) 0 x1.args.length) (((z+1)+1)+1)) S (vblk x1.kv) 0 x1.kids:=Zbs kp s4
  refine ix_ (oGet 0 S (wr (upd (upd (upd N (vblk v,k*5) z) (vblk v,k*5+1) (z+1)) (vblk v,k*5+2) ((z+1)+1)) (adI (vblk x1.av) 0 x1.args.length) (((z+1)+1)+1)) (vblk v) (k*5+4) x1.kv hb.1 (kp.h a4 d4.ni)) (irk 1 (.n 45 (.i ((((z+1)+1)+1)+((adI (vblk x1.av) 0 x1.args.length).length:Nat))) .r) (ic [0] (ih S (wr (upd (upd (upd N (vblk v,k*5) z) (vblk v,k*5+1) (z+1)) (vblk v,k*5+2) ((z+1)+1)) (adI (vblk x1.av) 0 x1.args.length) (((z+1)+1)+1)) x1.kv x1.kids ((((z+1)+1)+1)+((adI (vblk x1.av) 0 x1.args.length).length:Nat)) ob ob ob ob) ?_))
  rintro _ _ ⟨rfl,rfl⟩
  have kp:=kp.wr (Z9v s4) ((((z+1)+1)+1)+((adI (vblk x1.av) 0 x1.args.length).length:Nat))
  refine ir 1 [(0,.val v),(1,.i (((((z+1)+1)+1)+((adI (vblk x1.av) 0 x1.args.length).length:Nat))+((Z09 (vblk x1.kv) 0 x1.kids).length:Nat))),(5,.i k)] (ie (az (irk 1 (.n 10 (.i k) .r) (ia (((k+1:Nat):Int)) (((k:Int))+(1)) (irk 1 (.n 5 (.i (k+1:Nat)) (.p (.d (.k (.k .z))))) (ie ?_))))))
  exact ⟨_,_,_,ob,⟨k+1,(((((z+1)+1)+1)+((adI (vblk x1.av) 0 x1.args.length).length:Nat))+((Z09 (vblk x1.kv) 0 x1.kids).length:Nat)),(wr (wr (upd (upd (upd N (vblk v,k*5) z) (vblk v,k*5+1) (z+1)) (vblk v,k*5+2) ((z+1)+1)) (adI (vblk x1.av) 0 x1.args.length) (((z+1)+1)+1)) (Z09 (vblk x1.kv) 0 x1.kids) ((((z+1)+1)+1)+((adI (vblk x1.av) 0 x1.args.length).length:Nat))),ob,ob,ob,kp,(Znh c0_4 hdr Zz8 om),rfl,rfl,rfl⟩,(wk [0] (fr (fr (fc (x:=.i (k+1:Nat)) li fl))))⟩
 have he:(Zd (vblk v) (k*5) (xs.drop k))=[]:=by rw [List.drop_eq_nil_of_le om,Zd]
 rw [he,List.length_nil] at c0_2
 rw [he,wr] at c0_4
 refine ax 0 (ar (ir 2 [(4,.i z)] (ie ?_)))
 exact at_ (r2 [0] [.i z] ⟨rfl,rfl⟩ li (eq:=(Zow (m:=N) c0_4 rz)))
theorem Zmk (S:List Nat) (M:Mem) (v:Value) (xs:List HBlock) (q:Int) (ih:∀(S:List Nat) (M:Mem) (v:Value) (ys:List HStep) (q:Int),(SizeOf.sizeOf ys<SizeOf.sizeOf xs)→(HdOk S v ys.length)→(Z2o M S (vblk v) 0 ys)→(0≤q∧q+((Zd (vblk v) 0 ys).length:Nat)≤4000000000000)→Z3 Tryz.prog 73 [.val v,.i q] [.own S M] (fun r h=>r=.i (q+((Zd (vblk v) 0 ys).length:Nat))∧h=[.own S (wr M (Zd (vblk v) 0 ys) q)])) (hd:HdOk S v xs.length) (hs:Z2f M S (vblk v) 0 xs) (hq:0≤q∧q+((Z09 (vblk v) 0 xs).length:Nat)≤4000000000000):Z3 Tryz.prog 130 [.val v,.i q] [.own S M] (fun r h=>r=.i (q+((Z09 (vblk v) 0 xs).length:Nat))∧h=[.own S (wr M (Z09 (vblk v) 0 xs) q)]):=by
 have hal:=Zbc (g:=vblk v) (o:=0) (xs:=xs)
 refine enter Tryz.func130 kr (n:=27) kr kr (ar (ir 1 [(0,.val v),(1,.i q)] (ie (aq (ar (irk 1 (.n 5 (.i 0) .r) (ie (ab 0 (al (fun m F h=>∃(k:Nat) (z:Int) (N:Mem),(k≤xs.length)∧(0≤z)∧(z+((Z09 (vblk v) (k*2) (xs.drop k)).length:Nat)=q+((Z09 (vblk v) 0 xs).length:Nat))∧(Kp M N)∧(wr N (Z09 (vblk v) (k*2) (xs.drop k)) z=wr M (Z09 (vblk v) 0 xs) q)∧F=[(0,.val v),(1,.i z),(5,.i k)]∧h=[.own S N]∧m=xs.length-k) _ _ _ ⟨0,q,M,ob,ob,(by simp),(Kp.refl M),(by simp),rfl,rfl,rfl⟩ (wk [0] (fr (fr (fc (x:=.i 0) li fl)))) ?_)))))))))
 rintro m F h ⟨k,z,N,c0_0,c0_1,c0_2,c0_3,c0_4,rfl,rfl,rfl⟩
 refine aq (ar (irk 2 (.n 6 (.i k) (.n 7 (.val v) .r)) (is_ (oLen S v xs.length hd) (irk 1 (.n 9 (.b (decide ((k:Int)<(xs.length:Int)))) .r) (ie (ac (decide ((k:Int)<(xs.length:Int))) decide_eq_true_iff (fun hc1=>?_) (fun hc1=>?_)))))))
 ·have hb:=hd.blk (i:=k) om
  obtain ⟨x1,hx1⟩:=Z9 (xs:=xs) (j:=k) om
  have e1:=Zab hs hx1
  rw [Nat.zero_add] at e1
  rw [Zjf] at e1
  have hz:SizeOf.sizeOf x1.steps<SizeOf.sizeOf xs:=Zm4 hx1
  obtain ⟨⟨⟨a0,d0⟩,s0⟩,i1⟩:=e1
  have hdr:=Zc5 (g:=vblk v) hx1
  have hln:=Zh0 (g:=vblk v) (o:=k*2) (b:=x1)
  have hl0:=congrArg List.length hdr
  rw [List.length_append,hln] at hl0
  have kp:=c0_3
  refine ak (aq (ab 1 (ar (irk 2 (.n 12 (.val v) (.n 13 (.i k) .r)) (is_ (oIdx S v xs.length k 2 (k:Int) hd) (irk 1 (.n 15 (.val (.pointer (some ⟨vblk v,k*2,none⟩))) .r) ?_))))))
  have t0:Z2o N S (vblk x1.sv) 0 x1.steps:=Z8o kp s0
  refine ix_ (oGet 0 S N (vblk v) (k*2) x1.sv hb.1 (kp.h a0 d0.ni)) (irk 1 (.n 17 (.i z) .r) (ic [0] (ih S N x1.sv x1.steps z ob ob ob ob) ?_))
  rintro _ _ ⟨rfl,rfl⟩
  have kp:=kp.wr (Z7d s0) z
  refine ir 1 [(0,.val v),(1,.i (z+((Zd (vblk x1.sv) 0 x1.steps).length:Nat))),(5,.i k)] (ie (ar (irk 3 (.n 19 (.val v) (.n 20 (.i k) (.n 21 (.i (z+((Zd (vblk x1.sv) 0 x1.steps).length:Nat))) .r))) (is_ (oIdx S v xs.length k 2 (k:Int) hd) (irk 1 (.n 23 (.val (.pointer (some ⟨vblk v,k*2+1,none⟩))) .r) (iOS 0 S (wr N (Zd (vblk x1.sv) 0 x1.steps) z) (vblk v) (k*2+1) (z+((Zd (vblk x1.sv) 0 x1.steps).length:Nat)) hb.1 (kp.i i1) ?_))))))
  have kp:=kp.upd i1 (z+((Zd (vblk x1.sv) 0 x1.steps).length:Nat))
  refine ie (az (irk 1 (.n 24 (.i (z+((Zd (vblk x1.sv) 0 x1.steps).length:Nat))) .r) (ia (((z+((Zd (vblk x1.sv) 0 x1.steps).length:Nat))+1)) (((z+((Zd (vblk x1.sv) 0 x1.steps).length:Nat)))+(1)) (ir 1 [(0,.val v),(1,.i ((z+((Zd (vblk x1.sv) 0 x1.steps).length:Nat))+1)),(5,.i k)] (ie (az (irk 1 (.n 10 (.i k) .r) (ia (((k+1:Nat):Int)) (((k:Int))+(1)) (irk 1 (.n 5 (.i (k+1:Nat)) (.p (.d (.k (.k .z))))) (ie ?_))))))))))
  exact ⟨_,_,_,ob,⟨k+1,((z+((Zd (vblk x1.sv) 0 x1.steps).length:Nat))+1),upd (wr N (Zd (vblk x1.sv) 0 x1.steps) z) (vblk v,k*2+1) (z+((Zd (vblk x1.sv) 0 x1.steps).length:Nat)),ob,ob,ob,kp,(Znh c0_4 hdr Zx4 om),rfl,rfl,rfl⟩,(wk [0] (fr (fr (fc (x:=.i (k+1:Nat)) li fl))))⟩
 have he:(Z09 (vblk v) (k*2) (xs.drop k))=[]:=by rw [List.drop_eq_nil_of_le om,Z09]
 rw [he,List.length_nil] at c0_2
 rw [he,wr] at c0_4
 refine ax 0 (ar (ir 2 [(4,.i z)] (ie ?_)))
 exact at_ (r2 [0] [.i z] ⟨rfl,rfl⟩ li (eq:=(Zow (m:=N) c0_4 rz)))
theorem Zvg (n:Nat):(∀(S:List Nat) (M:Mem) (v:Value) (xs:List HStep) (q:Int),(SizeOf.sizeOf xs<n)→(HdOk S v xs.length)→(Z2o M S (vblk v) 0 xs)→(0≤q∧q+((Zd (vblk v) 0 xs).length:Nat)≤4000000000000)→Z3 Tryz.prog 73 [.val v,.i q] [.own S M] (fun r h=>r=.i (q+((Zd (vblk v) 0 xs).length:Nat))∧h=[.own S (wr M (Zd (vblk v) 0 xs) q)]))∧(∀(S:List Nat) (M:Mem) (v:Value) (xs:List HBlock) (q:Int),(SizeOf.sizeOf xs<n)→(HdOk S v xs.length)→(Z2f M S (vblk v) 0 xs)→(0≤q∧q+((Z09 (vblk v) 0 xs).length:Nat)≤4000000000000)→Z3 Tryz.prog 130 [.val v,.i q] [.own S M] (fun r h=>r=.i (q+((Z09 (vblk v) 0 xs).length:Nat))∧h=[.own S (wr M (Z09 (vblk v) 0 xs) q)])):=by
 induction n with
 | zero=>exact ⟨fun _ _ _ _ _ h=>by omega,fun _ _ _ _ _ h=>by omega⟩
 | succ n ih=>
  obtain ⟨i1,i2⟩:=ih
  exact ⟨fun S M v xs q hz h3 h4 h9=>Zor S M v xs q (fun S M v ys q hz2 h3 h4 h9=>i2 S M v ys q om h3 h4 h9) h3 h4 h9,fun S M v xs q hz h3 h4 h9=>Zmk S M v xs q (fun S M v ys q hz2 h3 h4 h9=>i1 S M v ys q om h3 h4 h9) h3 h4 h9⟩
theorem Zs0 (S:List Nat) (M:Mem) (v:Value) (xs:List HStep) (q:Int) (hd:HdOk S v xs.length:=by exact ob) (hs:Z2o M S (vblk v) 0 xs:=by exact ob) (hq:0≤q∧q+((Zd (vblk v) 0 xs).length:Nat)≤4000000000000:=by exact ob):Z3 Tryz.prog 73 [.val v,.i q] [.own S M] (fun r h=>r=.i (q+((Zd (vblk v) 0 xs).length:Nat))∧h=[.own S (wr M (Zd (vblk v) 0 xs) q)]):=(Zvg (SizeOf.sizeOf xs+1)).1 S M v xs q om hd hs hq
theorem Zkf (S:List Nat) (M:Mem) (v:Value) (xs:List HRoutine) (q:Int) (hd:HdOk S v xs.length:=by exact ob) (hs:Z4c M S (vblk v) 0 xs:=by exact ob) (hq:0≤q∧q+((Z0h (vblk v) 0 xs).length:Nat)≤4000000000000:=by exact ob):Z3 Tryz.prog 33 [.val v,.i q] [.own S M] (fun r h=>r=.i (q+((Z0h (vblk v) 0 xs).length:Nat))∧h=[.own S (wr M (Z0h (vblk v) 0 xs) q)]):=by
 have hal:=Z8s (g:=vblk v) (o:=0) (xs:=xs)
 refine enter Tryz.func33 kr (n:=50) kr kr (ar (ir 1 [(0,.val v),(1,.i q)] (ie (aq (ar (irk 1 (.n 5 (.i 0) .r) (ie (ab 0 (al (fun m F h=>∃(k:Nat) (z:Int) (N:Mem),(k≤xs.length)∧(0≤z)∧(z+((Z0h (vblk v) (k*5) (xs.drop k)).length:Nat)=q+((Z0h (vblk v) 0 xs).length:Nat))∧(Kp M N)∧(wr N (Z0h (vblk v) (k*5) (xs.drop k)) z=wr M (Z0h (vblk v) 0 xs) q)∧F=[(0,.val v),(1,.i z),(5,.i k)]∧h=[.own S N]∧m=xs.length-k) _ _ _ ⟨0,q,M,ob,ob,(by simp),(Kp.refl M),(by simp),rfl,rfl,rfl⟩ (wk [0] (fr (fr (fc (x:=.i 0) li fl)))) ?_)))))))))
 rintro m F h ⟨k,z,N,c0_0,c0_1,c0_2,c0_3,c0_4,rfl,rfl,rfl⟩
 refine aq (ar (irk 2 (.n 6 (.i k) (.n 7 (.val v) .r)) (is_ (oLen S v xs.length hd) (irk 1 (.n 9 (.b (decide ((k:Int)<(xs.length:Int)))) .r) (ie (ac (decide ((k:Int)<(xs.length:Int))) decide_eq_true_iff (fun hc1=>?_) (fun hc1=>?_)))))))
 ·have hb:=hd.blk (i:=k) om
  obtain ⟨x1,hx1⟩:=Z9 (xs:=xs) (j:=k) om
  have e1:=Z89 hs hx1
  rw [Nat.zero_add] at e1
  obtain ⟨⟨⟨a0,d0⟩,s0⟩,⟨⟨a1,d1⟩,s1⟩,i2,⟨⟨a3,d3⟩,s3⟩,i4⟩:=e1
  have hdr:=Z9x (g:=vblk v) hx1
  have hln:=Z95 (g:=vblk v) (o:=k*5) (r:=x1)
  have hl0:=congrArg List.length hdr
  rw [List.length_append,hln] at hl0
  have kp:=c0_3
  refine ak (aq (ab 1 (ar (irk 2 (.n 12 (.val v) (.n 13 (.i k) .r)) (is_ (oIdx S v xs.length k 5 (k:Int) hd) (irk 1 (.n 15 (.val (.pointer (some ⟨vblk v,k*5,none⟩))) .r) ?_))))))
  have t0:skI N (vblk x1.pv) x1.params.length:=fun i hi=>kp.i (s0 i hi)
  refine ix_ (oGet 0 S N (vblk v) (k*5) x1.pv hb.1 (kp.h a0 d0.ni)) (irk 1 (.n 17 (.i z) .r) (ic [0] (Zcx S N x1.pv x1.params z) ?_))
  rintro _ _ ⟨rfl,rfl⟩
  have kp:=kp.wr (Z9w s0) z
  refine ir 1 [(0,.val v),(1,.i (z+((adI (vblk x1.pv) 0 x1.params.length).length:Nat))),(5,.i k)] (ie (ar (irk 2 (.n 19 (.val v) (.n 20 (.i k) .r)) (is_ (oIdx S v xs.length k 5 (k:Int) hd) (irk 1 (.n 22 (.val (.pointer (some ⟨vblk v,k*5+1,none⟩))) .r) ?_)))))
  have t1:skI (wr N (adI (vblk x1.pv) 0 x1.params.length) z) (vblk x1.lv) x1.lent.length:=fun i hi=>kp.i (s1 i hi)
  refine ix_ (oGet 0 S (wr N (adI (vblk x1.pv) 0 x1.params.length) z) (vblk v) (k*5+1) x1.lv hb.1 (kp.h a1 d1.ni)) (irk 1 (.n 24 (.i (z+((adI (vblk x1.pv) 0 x1.params.length).length:Nat))) .r) (ic [0] (Zcx S (wr N (adI (vblk x1.pv) 0 x1.params.length) z) x1.lv x1.lent (z+((adI (vblk x1.pv) 0 x1.params.length).length:Nat))) ?_))
  rintro _ _ ⟨rfl,rfl⟩
  have kp:=kp.wr (Z9w s1) (z+((adI (vblk x1.pv) 0 x1.params.length).length:Nat))
  refine ir 1 [(0,.val v),(1,.i ((z+((adI (vblk x1.pv) 0 x1.params.length).length:Nat))+((adI (vblk x1.lv) 0 x1.lent.length).length:Nat))),(5,.i k)] (ie (ar (irk 3 (.n 26 (.val v) (.n 27 (.i k) (.n 28 (.i ((z+((adI (vblk x1.pv) 0 x1.params.length).length:Nat))+((adI (vblk x1.lv) 0 x1.lent.length).length:Nat))) .r))) (is_ (oIdx S v xs.length k 5 (k:Int) hd) (irk 1 (.n 30 (.val (.pointer (some ⟨vblk v,k*5+2,none⟩))) .r) (iOS 0 S (wr (wr N (adI (vblk x1.pv) 0 x1.params.length) z) (adI (vblk x1.lv) 0 x1.lent.length) (z+((adI (vblk x1.pv) 0 x1.params.length).length:Nat))) (vblk v) (k*5+2) ((z+((adI (vblk x1.pv) 0 x1.params.length).length:Nat))+((adI (vblk x1.lv) 0 x1.lent.length).length:Nat)) hb.1 (kp.i i2) ?_))))))
  have kp:=kp.upd i2 ((z+((adI (vblk x1.pv) 0 x1.params.length).length:Nat))+((adI (vblk x1.lv) 0 x1.lent.length).length:Nat))
  refine ie (ar (irk 1 (.n 31 (.i ((z+((adI (vblk x1.pv) 0 x1.params.length).length:Nat))+((adI (vblk x1.lv) 0 x1.lent.length).length:Nat))) .r) (ia ((((z+((adI (vblk x1.pv) 0 x1.params.length).length:Nat))+((adI (vblk x1.lv) 0 x1.lent.length).length:Nat))+1)) ((((z+((adI (vblk x1.pv) 0 x1.params.length).length:Nat))+((adI (vblk x1.lv) 0 x1.lent.length).length:Nat)))+(1)) (ir 1 [(0,.val v),(1,.i (((z+((adI (vblk x1.pv) 0 x1.params.length).length:Nat))+((adI (vblk x1.lv) 0 x1.lent.length).length:Nat))+1)),(5,.i k)] (ie (ar (irk 2 (.n 33 (.val v) (.n 34 (.i k) .r)) (is_ (oIdx S v xs.length k 5 (k:Int) hd) (irk 2 (.n 37 (.val (.pointer (some ⟨vblk v,k*5+3,none⟩))) .r) ?_)))))))))
  have t3:Z2o (upd (wr (wr N (adI (vblk x1.pv) 0 x1.params.length) z) (adI (vblk x1.lv) 0 x1.lent.length) (z+((adI (vblk x1.pv) 0 x1.params.length).length:Nat))) (vblk v,k*5+2) ((z+((adI (vblk x1.pv) 0 x1.params.length).length:Nat))+((adI (vblk x1.lv) 0 x1.lent.length).length:Nat))) S (vblk x1.body.sv) 0 x1.body.steps:=Z8o kp s3
  refine ix_ (oGet 0 S (upd (wr (wr N (adI (vblk x1.pv) 0 x1.params.length) z) (adI (vblk x1.lv) 0 x1.lent.length) (z+((adI (vblk x1.pv) 0 x1.params.length).length:Nat))) (vblk v,k*5+2) ((z+((adI (vblk x1.pv) 0 x1.params.length).length:Nat))+((adI (vblk x1.lv) 0 x1.lent.length).length:Nat))) (vblk v) (k*5+3) x1.body.sv hb.1 (kp.h a3 d3.ni)) (irk 1 (.n 39 (.i (((z+((adI (vblk x1.pv) 0 x1.params.length).length:Nat))+((adI (vblk x1.lv) 0 x1.lent.length).length:Nat))+1)) .r) (ic [0] (Zs0 S (upd (wr (wr N (adI (vblk x1.pv) 0 x1.params.length) z) (adI (vblk x1.lv) 0 x1.lent.length) (z+((adI (vblk x1.pv) 0 x1.params.length).length:Nat))) (vblk v,k*5+2) ((z+((adI (vblk x1.pv) 0 x1.params.length).length:Nat))+((adI (vblk x1.lv) 0 x1.lent.length).length:Nat))) x1.body.sv x1.body.steps (((z+((adI (vblk x1.pv) 0 x1.params.length).length:Nat))+((adI (vblk x1.lv) 0 x1.lent.length).length:Nat))+1)) ?_))
  rintro _ _ ⟨rfl,rfl⟩
  have kp:=kp.wr (Z7d s3) (((z+((adI (vblk x1.pv) 0 x1.params.length).length:Nat))+((adI (vblk x1.lv) 0 x1.lent.length).length:Nat))+1)
  refine ir 1 [(0,.val v),(1,.i ((((z+((adI (vblk x1.pv) 0 x1.params.length).length:Nat))+((adI (vblk x1.lv) 0 x1.lent.length).length:Nat))+1)+((Zd (vblk x1.body.sv) 0 x1.body.steps).length:Nat))),(5,.i k)] (ie (ar (irk 3 (.n 41 (.val v) (.n 42 (.i k) (.n 43 (.i ((((z+((adI (vblk x1.pv) 0 x1.params.length).length:Nat))+((adI (vblk x1.lv) 0 x1.lent.length).length:Nat))+1)+((Zd (vblk x1.body.sv) 0 x1.body.steps).length:Nat))) .r))) (is_ (oIdx S v xs.length k 5 (k:Int) hd) (irk 2 (.n 46 (.val (.pointer (some ⟨vblk v,k*5+4,none⟩))) .r) (iOS 0 S (wr (upd (wr (wr N (adI (vblk x1.pv) 0 x1.params.length) z) (adI (vblk x1.lv) 0 x1.lent.length) (z+((adI (vblk x1.pv) 0 x1.params.length).length:Nat))) (vblk v,k*5+2) ((z+((adI (vblk x1.pv) 0 x1.params.length).length:Nat))+((adI (vblk x1.lv) 0 x1.lent.length).length:Nat))) (Zd (vblk x1.body.sv) 0 x1.body.steps) (((z+((adI (vblk x1.pv) 0 x1.params.length).length:Nat))+((adI (vblk x1.lv) 0 x1.lent.length).length:Nat))+1)) (vblk v) (k*5+4) ((((z+((adI (vblk x1.pv) 0 x1.params.length).length:Nat))+((adI (vblk x1.lv) 0 x1.lent.length).length:Nat))+1)+((Zd (vblk x1.body.sv) 0 x1.body.steps).length:Nat)) hb.1 (kp.i i4) ?_))))))
  have kp:=kp.upd i4 ((((z+((adI (vblk x1.pv) 0 x1.params.length).length:Nat))+((adI (vblk x1.lv) 0 x1.lent.length).length:Nat))+1)+((Zd (vblk x1.body.sv) 0 x1.body.steps).length:Nat))
  refine ie (az (irk 1 (.n 47 (.i ((((z+((adI (vblk x1.pv) 0 x1.params.length).length:Nat))+((adI (vblk x1.lv) 0 x1.lent.length).length:Nat))+1)+((Zd (vblk x1.body.sv) 0 x1.body.steps).length:Nat))) .r) (ia ((((((z+((adI (vblk x1.pv) 0 x1.params.length).length:Nat))+((adI (vblk x1.lv) 0 x1.lent.length).length:Nat))+1)+((Zd (vblk x1.body.sv) 0 x1.body.steps).length:Nat))+1)) ((((((z+((adI (vblk x1.pv) 0 x1.params.length).length:Nat))+((adI (vblk x1.lv) 0 x1.lent.length).length:Nat))+1)+((Zd (vblk x1.body.sv) 0 x1.body.steps).length:Nat)))+(1)) (ir 1 [(0,.val v),(1,.i (((((z+((adI (vblk x1.pv) 0 x1.params.length).length:Nat))+((adI (vblk x1.lv) 0 x1.lent.length).length:Nat))+1)+((Zd (vblk x1.body.sv) 0 x1.body.steps).length:Nat))+1)),(5,.i k)] (ie (az (irk 1 (.n 10 (.i k) .r) (ia (((k+1:Nat):Int)) (((k:Int))+(1)) (irk 1 (.n 5 (.i (k+1:Nat)) (.p (.d (.k (.k .z))))) (ie ?_))))))))))
  exact ⟨_,_,_,ob,⟨k+1,(((((z+((adI (vblk x1.pv) 0 x1.params.length).length:Nat))+((adI (vblk x1.lv) 0 x1.lent.length).length:Nat))+1)+((Zd (vblk x1.body.sv) 0 x1.body.steps).length:Nat))+1),upd (wr (upd (wr (wr N (adI (vblk x1.pv) 0 x1.params.length) z) (adI (vblk x1.lv) 0 x1.lent.length) (z+((adI (vblk x1.pv) 0 x1.params.length).length:Nat))) (vblk v,k*5+2) ((z+((adI (vblk x1.pv) 0 x1.params.length).length:Nat))+((adI (vblk x1.lv) 0 x1.lent.length).length:Nat))) (Zd (vblk x1.body.sv) 0 x1.body.steps) (((z+((adI (vblk x1.pv) 0 x1.params.length).length:Nat))+((adI (vblk x1.lv) 0 x1.lent.length).length:Nat))+1)) (vblk v,k*5+4) ((((z+((adI (vblk x1.pv) 0 x1.params.length).length:Nat))+((adI (vblk x1.lv) 0 x1.lent.length).length:Nat))+1)+((Zd (vblk x1.body.sv) 0 x1.body.steps).length:Nat)),ob,ob,ob,kp,(Znh c0_4 hdr Zp7 om),rfl,rfl,rfl⟩,(wk [0] (fr (fr (fc (x:=.i (k+1:Nat)) li fl))))⟩
 have he:(Z0h (vblk v) (k*5) (xs.drop k))=[]:=by rw [List.drop_eq_nil_of_le om];rfl
 rw [he,List.length_nil] at c0_2
 rw [he,wr] at c0_4
 refine ax 0 (ar (ir 2 [(4,.i z)] (ie ?_)))
 exact at_ (r2 [0] [.i z] ⟨rfl,rfl⟩ li (eq:=(Zow (m:=N) c0_4 rz)))
theorem Zoq (S:List Nat) (M:Mem) (y:HNormal) (q:Int) (hs:Z46 M S y:=by exact ob) (hl:∀d∈y.decls,d.cons.length≤4000000000000) (hq:0≤q∧q+((Z0c y).length:Nat)≤4000000000000:=by exact ob):Z3 Tryz.prog 11 [.agg [.val y.dv,.val y.rv],.i q] [.own S M] (fun r h=>r=.i (q+((Z0c y).length:Nat))∧h=[.own S (wr M (Z0c y) q)]):=by
 obtain ⟨⟨d0,s0⟩,⟨d1,s1⟩⟩:=hs
 have hln:=Ze4 (y:=y)
 have kp:=Kp.refl M
 refine enter Tryz.func11 kr (n:=14) kr kr (ar (iA [.val y.dv,.val y.rv] ?_))
 intro b1
 refine ir 1 [(1,.i q),(2,.p b1 0)] (ie (ar (irK 3 (.n 6 (.val y.dv) (.n 7 (.i q) .r)) [0] [b1] (ic [1] (Zrz S M y.dv y.decls q (hl:=ob)) ?_))))
 rintro _ _ ⟨rfl,rfl⟩
 have kp:=kp.wr (Zbd s0) q
 have t1:=Z9a kp s1
 refine ir 1 [(1,.i (q+((Z12 (vblk y.dv) 0 y.decls).length:Nat))),(2,.p b1 0)] (ie (ar (iR 3 [(10,.val y.rv),(11,.i (q+((Z12 (vblk y.dv) 0 y.decls).length:Nat)))] [1] [b1] (ic [0] (Zkf S (wr M (Z12 (vblk y.dv) 0 y.decls) q) y.rv y.routines (q+((Z12 (vblk y.dv) 0 y.decls).length:Nat))) ?_))))
 rintro _ _ ⟨rfl,rfl⟩
 refine ir 1 [(1,.i ((q+((Z12 (vblk y.dv) 0 y.decls).length:Nat))+((Z0h (vblk y.rv) 0 y.routines).length:Nat)))] (ie (ar (ir 2 [(4,.i ((q+((Z12 (vblk y.dv) 0 y.decls).length:Nat))+((Z0h (vblk y.rv) 0 y.routines).length:Nat)))] (ie ?_))))
 exact at_ (r2 [0] [.i ((q+((Z12 (vblk y.dv) 0 y.decls).length:Nat))+((Z0h (vblk y.rv) 0 y.routines).length:Nat))] ⟨rfl,rfl⟩ li (eq:=(Zow (m:=(wr (wr M (Z12 (vblk y.dv) 0 y.decls) q) (Z0h (vblk y.rv) 0 y.routines) (q+((Z12 (vblk y.dv) 0 y.decls).length:Nat)))) Zx5 rz)))
theorem Zcl (S:List Nat) (M:Mem) (v:Value) (xs:List Int) (q:Int) (hd:HdOk S v xs.length:=by exact ob) (hs:skI M (vblk v) xs.length:=by exact ob) (hh:hold M (adI (vblk v) 0 xs.length) q:=by exact ob) (hq:0≤q∧q+((adI (vblk v) 0 xs.length).length:Nat)≤4000000000000:=by exact ob):Z3 Tryz.prog 75 [.val v,.i q] [.own S M] (fun r h=>r=.i (q+((adI (vblk v) 0 xs.length).length:Nat))∧h=[.own S M]):=by
 have hal:=Zbe (vblk v) xs.length 0
 refine enter Tryz.func75 kr (n:=21) kr kr (ar (ir 1 [(0,.val v),(1,.i q)] (ie (aq (ar (irk 1 (.n 5 (.i 0) .r) (ie (ab 0 (al (fun m F h=>∃(k:Nat) (z:Int),(k≤xs.length)∧(0≤z)∧(z+((adI (vblk v) k (xs.length-k)).length:Nat)=q+((adI (vblk v) 0 xs.length).length:Nat))∧(hold M (adI (vblk v) k (xs.length-k)) z)∧F=[(0,.val v),(1,.i z),(5,.i k)]∧h=[.own S M]∧m=xs.length-k) _ _ _ ⟨0,q,ob,ob,(by simp),(by simpa using hh),rfl,rfl,rfl⟩ (wk [0] (fr (fr (fc (x:=.i 0) li fl)))) ?_)))))))))
 rintro m F h ⟨k,z,c0_0,c0_1,c0_2,c0_3,rfl,rfl,rfl⟩
 refine aq (ar (irk 2 (.n 6 (.i k) (.n 7 (.val v) .r)) (is_ (oLen S v xs.length hd) (irk 1 (.n 9 (.b (decide ((k:Int)<(xs.length:Int)))) .r) (ie (ac (decide ((k:Int)<(xs.length:Int))) decide_eq_true_iff (fun hc1=>?_) (fun hc1=>?_)))))))
 ·have hb:=hd.blk (i:=k) om
  have hdr:=Zpa (vblk v) xs.length k om
  have hl0:(adI (vblk v) k (xs.length-k)).length=(adI (vblk v) (k+1) (xs.length-(k+1))).length+1:=by rw [hdr];rfl
  have hsk:=hs k om
  rw [←Nat.mul_one k] at hsk
  rw [hdr] at c0_3
  have h0:M (vblk v) (k*1)=some (.int .i64 z):=by rw [Nat.mul_one];exact c0_3.1
  refine ak (aq (ab 1 (aq (ar (irk 2 (.n 12 (.val v) (.n 13 (.i k) .r)) (is_ (oIdx S v xs.length k 1 (k:Int) hd) (ix_ (oGet 0 S M (vblk v) (k*1) (.int .i64 z) hb.1 h0) (irk 2 (.n 17 (.b (z != z)) .r) (ie (ac (z != z) bne_iff_ne (fun hc2=>?_) (fun hc2=>?_)))))))))))
  ·refine ar (ir 1 [(4,.i (-1))] (ie ?_))
   exact at_ (r2 [0] [.i (-1)] ⟨rfl,rfl⟩ li)
  refine ak (az (irk 1 (.n 18 (.i z) .r) (ia ((z+1)) ((z)+(1)) (ir 1 [(0,.val v),(1,.i (z+1)),(5,.i k)] (ie (az (irk 1 (.n 10 (.i k) .r) (ia (((k+1:Nat):Int)) (((k:Int))+(1)) (irk 1 (.n 5 (.i (k+1:Nat)) (.p (.d (.k (.k .z))))) (ie ?_))))))))))
  exact ⟨_,_,_,ob,⟨k+1,(z+1),ob,ob,ob,c0_3.2,rfl,rfl,rfl⟩,(wk [0] (fr (fr (fc (x:=.i (k+1:Nat)) li fl))))⟩
 have he:adI (vblk v) k (xs.length-k)=[]:=by rw [show xs.length-k=0 by omega];rfl
 rw [he,List.length_nil] at c0_2
 refine ax 0 (ar (ir 2 [(4,.i z)] (ie ?_)))
 exact at_ (r2 [0] [.i z] ⟨rfl,rfl⟩ li)
theorem Zuj (S:List Nat) (M:Mem) (v:Value) (xs:List HCon) (q:Int) (hl:xs.length≤4000000000000:=by exact ob) (hd:HdOk S v xs.length:=by exact ob) (hs:Zac M S (vblk v) 0 xs:=by exact ob) (hh:hold M (Z30 xs) q:=by exact ob) (hq:0≤q∧q+((Z30 xs).length:Nat)≤4000000000000:=by exact ob):Z3 Tryz.prog 74 [.val v,.i q] [.own S M] (fun r h=>r=.i (q+((Z30 xs).length:Nat))∧h=[.own S M]):=by
 refine enter Tryz.func74 kr (n:=22) kr kr (ar (ir 1 [(0,.val v),(1,.i q)] (ie (aq (ar (irk 1 (.n 5 (.i 0) .r) (ie (ab 0 (al (fun m F h=>∃(k:Nat) (z:Int),(k≤xs.length)∧(0≤z)∧(z+((Z30 (xs.drop k)).length:Nat)=q+((Z30 xs).length:Nat))∧(hold M (Z30 (xs.drop k)) z)∧F=[(0,.val v),(1,.i z),(5,.i k)]∧h=[.own S M]∧m=xs.length-k) _ _ _ ⟨0,q,ob,ob,(by simp),(by simpa using hh),rfl,rfl,rfl⟩ (wk [0] (fr (fr (fc (x:=.i 0) li fl)))) ?_)))))))))
 rintro m F h ⟨k,z,c0_0,c0_1,c0_2,c0_3,rfl,rfl,rfl⟩
 refine aq (ar (irk 2 (.n 6 (.i k) (.n 7 (.val v) .r)) (is_ (oLen S v xs.length hd) (irk 1 (.n 9 (.b (decide ((k:Int)<(xs.length:Int)))) .r) (ie (ac (decide ((k:Int)<(xs.length:Int))) decide_eq_true_iff (fun hc1=>?_) (fun hc1=>?_)))))))
 ·have hb:=hd.blk (i:=k) om
  obtain ⟨x1,hx1⟩:=Z9 (xs:=xs) (j:=k) om
  have e1:=Zec hs hx1
  rw [Nat.zero_add] at e1
  obtain ⟨⟨a0,d0⟩,s0⟩:=e1
  rw [←Nat.mul_one k] at a0
  have hdr:=Zga hx1
  have hln:(Zx7 x1).length=(adI (vblk x1.fv) 0 x1.fields.length).length:=rfl
  have hl0:=congrArg List.length hdr
  rw [List.length_append,hln] at hl0
  rw [hdr] at c0_3
  obtain ⟨hA,hR⟩:=(Z53 _ _ _ _).1 c0_3
  have h0:hold M (adI (vblk x1.fv) 0 x1.fields.length) z:=hA
  refine ak (aq (ab 1 (ar (irk 2 (.n 12 (.val v) (.n 13 (.i k) .r)) (is_ (oIdx S v xs.length k 1 (k:Int) hd) (irk 1 (.n 15 (.val (.pointer (some ⟨vblk v,k*1,none⟩))) .r) (ix_ (oGet 0 S M (vblk v) (k*1) x1.fv hb.1 a0) (irk 1 (.n 17 (.i z) .r) (ic [0] (Zcl S M x1.fv x1.fields z) ?_)))))))))
  rintro _ _ ⟨rfl,rfl⟩
  refine ir 1 [(0,.val v),(1,.i (z+((adI (vblk x1.fv) 0 x1.fields.length).length:Nat))),(5,.i k)] (ie (ar (irk 2 (.n 20 (.b (decide ((z+((adI (vblk x1.fv) 0 x1.fields.length).length:Nat))<0))) .r) (ie (ac (decide ((z+((adI (vblk x1.fv) 0 x1.fields.length).length:Nat))<0)) decide_eq_true_iff (fun hc2=>?_) (fun hc2=>?_))))))
  ·refine ar (ir 1 [(4,.i (-1))] (ie ?_))
   exact at_ (r2 [0] [.i (-1)] ⟨rfl,rfl⟩ li)
  refine ak (az (irk 1 (.n 10 (.i k) .r) (ia (((k+1:Nat):Int)) (((k:Int))+(1)) (irk 1 (.n 5 (.i (k+1:Nat)) (.p (.d (.d (.k (.k .z)))))) (ie ?_)))))
  exact ⟨_,_,_,ob,⟨k+1,(z+((adI (vblk x1.fv) 0 x1.fields.length).length:Nat)),ob,ob,ob,(Zcm hR om),rfl,rfl,rfl⟩,(wk [0] (fr (fr (fc (x:=.i (k+1:Nat)) li fl))))⟩
 have he:(Z30 (xs.drop k))=[]:=by rw [List.drop_eq_nil_of_le om];rfl
 rw [he,List.length_nil] at c0_2
 refine ax 0 (ar (ir 2 [(4,.i z)] (ie ?_)))
 exact at_ (r2 [0] [.i z] ⟨rfl,rfl⟩ li)
theorem Zro (S:List Nat) (M:Mem) (v:Value) (xs:List HDecl) (q:Int) (hl:∀d∈xs,d.cons.length≤4000000000000) (hd:HdOk S v xs.length:=by exact ob) (hs:Z88 M S (vblk v) 0 xs:=by exact ob) (hh:hold M (Z12 (vblk v) 0 xs) q:=by exact ob) (hq:0≤q∧q+((Z12 (vblk v) 0 xs).length:Nat)≤4000000000000:=by exact ob):Z3 Tryz.prog 34 [.val v,.i q] [.own S M] (fun r h=>r=.i (q+((Z12 (vblk v) 0 xs).length:Nat))∧h=[.own S M]):=by
 have hal:=Zdn (g:=vblk v) (o:=0) (ds:=xs)
 refine enter Tryz.func34 kr (n:=40) kr kr (ar (ir 1 [(0,.val v),(1,.i q)] (ie (aq (ar (irk 1 (.n 5 (.i 0) .r) (ie (ab 0 (al (fun m F h=>∃(k:Nat) (z:Int),(k≤xs.length)∧(0≤z)∧(z+((Z12 (vblk v) (k*3) (xs.drop k)).length:Nat)=q+((Z12 (vblk v) 0 xs).length:Nat))∧(hold M (Z12 (vblk v) (k*3) (xs.drop k)) z)∧F=[(0,.val v),(1,.i z),(5,.i k)]∧h=[.own S M]∧m=xs.length-k) _ _ _ ⟨0,q,ob,ob,(by simp),(by simpa using hh),rfl,rfl,rfl⟩ (wk [0] (fr (fr (fc (x:=.i 0) li fl)))) ?_)))))))))
 rintro m F h ⟨k,z,c0_0,c0_1,c0_2,c0_3,rfl,rfl,rfl⟩
 refine aq (ar (irk 2 (.n 6 (.i k) (.n 7 (.val v) .r)) (is_ (oLen S v xs.length hd) (irk 1 (.n 9 (.b (decide ((k:Int)<(xs.length:Int)))) .r) (ie (ac (decide ((k:Int)<(xs.length:Int))) decide_eq_true_iff (fun hc1=>?_) (fun hc1=>?_)))))))
 ·have hb:=hd.blk (i:=k) om
  obtain ⟨x1,hx1⟩:=Z9 (xs:=xs) (j:=k) om
  have e1:=Zbt hs hx1
  rw [Nat.zero_add] at e1
  obtain ⟨i0,i1,⟨a2,d2⟩,s2⟩:=e1
  have hdr:=Zel (g:=vblk v) hx1
  have hl1:=hl x1 (List.mem_of_getElem? hx1)
  have hln:=Zft (g:=vblk v) (o:=k*3) (d:=x1)
  have hl0:=congrArg List.length hdr
  rw [List.length_append,hln] at hl0
  rw [hdr] at c0_3
  obtain ⟨hA,hR⟩:=(Z53 _ _ _ _).1 c0_3
  obtain ⟨h0,h1,h2⟩:=Zum hA
  refine ak (aq (ab 1 (aq (ar (irk 2 (.n 12 (.val v) (.n 13 (.i k) .r)) (is_ (oIdx S v xs.length k 3 (k:Int) hd) (irk 1 (.n 15 (.val (.pointer (some ⟨vblk v,k*3,none⟩))) .r) (ix_ (oGet 0 S M (vblk v) (k*3) (.int .i64 z) hb.1 h0) (irk 2 (.n 18 (.b (z != z)) .r) (ie (ac (z != z) bne_iff_ne (fun hc2=>?_) (fun hc2=>?_))))))))))))
  ·refine ar (ir 1 [(4,.i (-1))] (ie ?_))
   exact at_ (r2 [0] [.i (-1)] ⟨rfl,rfl⟩ li)
  refine ak (ar (irk 1 (.n 19 (.i z) .r) (ia ((z+1)) ((z)+(1)) (ir 1 [(0,.val v),(1,.i (z+1)),(5,.i k)] (ie (aq (ar (irk 2 (.n 21 (.val v) (.n 22 (.i k) .r)) (is_ (oIdx S v xs.length k 3 (k:Int) hd) (irk 1 (.n 24 (.val (.pointer (some ⟨vblk v,k*3+1,none⟩))) .r) (ix_ (oGet 0 S M (vblk v) (k*3+1) (.int .i64 (z+1)) hb.1 h1) (irk 2 (.n 27 (.b ((z+1) != (z+1))) .r) (ie (ac ((z+1) != (z+1)) bne_iff_ne (fun hc3=>?_) (fun hc3=>?_)))))))))))))))
  ·refine ar (ir 1 [(4,.i (-1))] (ie ?_))
   exact at_ (r2 [0] [.i (-1)] ⟨rfl,rfl⟩ li)
  refine ak (ar (irk 1 (.n 28 (.i (z+1)) .r) (ia (((z+1)+1)) (((z+1))+(1)) (ir 1 [(0,.val v),(1,.i ((z+1)+1)),(5,.i k)] (ie (ar (irk 2 (.n 30 (.val v) (.n 31 (.i k) .r)) (is_ (oIdx S v xs.length k 3 (k:Int) hd) (irk 1 (.n 33 (.val (.pointer (some ⟨vblk v,k*3+2,none⟩))) .r) (ix_ (oGet 0 S M (vblk v) (k*3+2) x1.cv hb.1 a2) (irk 1 (.n 35 (.i ((z+1)+1)) .r) (ic [0] (Zuj S M x1.cv x1.cons ((z+1)+1)) ?_))))))))))))
  rintro _ _ ⟨rfl,rfl⟩
  refine ir 1 [(0,.val v),(1,.i (((z+1)+1)+((Z30 x1.cons).length:Nat))),(5,.i k)] (ie (ar (irk 2 (.n 38 (.b (decide ((((z+1)+1)+((Z30 x1.cons).length:Nat))<0))) .r) (ie (ac (decide ((((z+1)+1)+((Z30 x1.cons).length:Nat))<0)) decide_eq_true_iff (fun hc4=>?_) (fun hc4=>?_))))))
  ·refine ar (ir 1 [(4,.i (-1))] (ie ?_))
   exact at_ (r2 [0] [.i (-1)] ⟨rfl,rfl⟩ li)
  refine ak (az (irk 1 (.n 10 (.i k) .r) (ia (((k+1:Nat):Int)) (((k:Int))+(1)) (irk 1 (.n 5 (.i (k+1:Nat)) (.p (.d (.d (.k (.k .z)))))) (ie ?_)))))
  exact ⟨_,_,_,ob,⟨k+1,(((z+1)+1)+((Z30 x1.cons).length:Nat)),ob,ob,ob,(Zcm hR om),rfl,rfl,rfl⟩,(wk [0] (fr (fr (fc (x:=.i (k+1:Nat)) li fl))))⟩
 have he:(Z12 (vblk v) (k*3) (xs.drop k))=[]:=by rw [List.drop_eq_nil_of_le om];rfl
 rw [he,List.length_nil] at c0_2
 refine ax 0 (ar (ir 2 [(4,.i z)] (ie ?_)))
 exact at_ (r2 [0] [.i z] ⟨rfl,rfl⟩ li)
theorem Zoh (S:List Nat) (M:Mem) (v:Value) (xs:List HStep) (q:Int) (ih:∀(S:List Nat) (M:Mem) (v:Value) (ys:List HBlock) (q:Int),(SizeOf.sizeOf ys<SizeOf.sizeOf xs)→(HdOk S v ys.length)→(Z2f M S (vblk v) 0 ys)→(hold M (Z09 (vblk v) 0 ys) q)→(0≤q∧q+((Z09 (vblk v) 0 ys).length:Nat)≤4000000000000)→Z3 Tryz.prog 131 [.val v,.i q] [.own S M] (fun r h=>r=.i (q+((Z09 (vblk v) 0 ys).length:Nat))∧h=[.own S M])) (hd:HdOk S v xs.length) (hs:Z2o M S (vblk v) 0 xs) (hh:hold M (Zd (vblk v) 0 xs) q) (hq:0≤q∧q+((Zd (vblk v) 0 xs).length:Nat)≤4000000000000):Z3 Tryz.prog 76 [.val v,.i q] [.own S M] (fun r h=>r=.i (q+((Zd (vblk v) 0 xs).length:Nat))∧h=[.own S M]):=by
 have hal:=Zdo (g:=vblk v) (o:=0) (xs:=xs)
 refine enter Tryz.func76 kr (n:=58) kr kr (ar (ir 1 [(0,.val v),(1,.i q)] (ie (aq (ar (irk 1 (.n 5 (.i 0) .r) (ie (ab 0 (al (fun m F h=>∃(k:Nat) (z:Int),(k≤xs.length)∧(0≤z)∧(z+((Zd (vblk v) (k*5) (xs.drop k)).length:Nat)=q+((Zd (vblk v) 0 xs).length:Nat))∧(hold M (Zd (vblk v) (k*5) (xs.drop k)) z)∧F=[(0,.val v),(1,.i z),(5,.i k)]∧h=[.own S M]∧m=xs.length-k) _ _ _ ⟨0,q,ob,ob,(by simp),(by simpa using hh),rfl,rfl,rfl⟩ (wk [0] (fr (fr (fc (x:=.i 0) li fl)))) ?_)))))))))
 rintro m F h ⟨k,z,c0_0,c0_1,c0_2,c0_3,rfl,rfl,rfl⟩
 refine aq (ar (irk 2 (.n 6 (.i k) (.n 7 (.val v) .r)) (is_ (oLen S v xs.length hd) (irk 1 (.n 9 (.b (decide ((k:Int)<(xs.length:Int)))) .r) (ie (ac (decide ((k:Int)<(xs.length:Int))) decide_eq_true_iff (fun hc1=>?_) (fun hc1=>?_)))))))
 ·have hb:=hd.blk (i:=k) om
  obtain ⟨x1,hx1⟩:=Z9 (xs:=xs) (j:=k) om
  have e1:=Zbu hs hx1
  rw [Nat.zero_add] at e1
  rw [Zn1] at e1
  have hz:SizeOf.sizeOf x1.kids<SizeOf.sizeOf xs:=Zpz hx1
  obtain ⟨⟨i0,i1,i2⟩,⟨⟨a3,d3⟩,s3⟩,⟨⟨a4,d4⟩,s4⟩⟩:=e1
  have hdr:=Zeo (g:=vblk v) hx1
  have hln:=Zkc (g:=vblk v) (o:=k*5) (s:=x1)
  have hl0:=congrArg List.length hdr
  rw [List.length_append,hln] at hl0
  rw [hdr] at c0_3
  obtain ⟨hA,hR⟩:=(Z53 _ _ _ _).1 c0_3
  obtain ⟨h0,h1,h2,h3,h4⟩:=Zun hA
  refine ak (aq (ab 1 (aq (ar (irk 2 (.n 12 (.val v) (.n 13 (.i k) .r)) (is_ (oIdx S v xs.length k 5 (k:Int) hd) (irk 1 (.n 15 (.val (.pointer (some ⟨vblk v,k*5,none⟩))) .r) (ix_ (oGet 0 S M (vblk v) (k*5) (.int .i64 z) hb.1 h0) (irk 2 (.n 18 (.b (z != z)) .r) (ie (ac (z != z) bne_iff_ne (fun hc2=>?_) (fun hc2=>?_))))))))))))
  ·refine ar (ir 1 [(4,.i (-1))] (ie ?_))
   exact at_ (r2 [0] [.i (-1)] ⟨rfl,rfl⟩ li)
  refine ak (ar (irk 1 (.n 19 (.i z) .r) (ia ((z+1)) ((z)+(1)) (ir 1 [(0,.val v),(1,.i (z+1)),(5,.i k)] (ie (aq (ar (irk 2 (.n 21 (.val v) (.n 22 (.i k) .r)) (is_ (oIdx S v xs.length k 5 (k:Int) hd) (irk 1 (.n 24 (.val (.pointer (some ⟨vblk v,k*5+1,none⟩))) .r) (ix_ (oGet 0 S M (vblk v) (k*5+1) (.int .i64 (z+1)) hb.1 h1) (irk 2 (.n 27 (.b ((z+1) != (z+1))) .r) (ie (ac ((z+1) != (z+1)) bne_iff_ne (fun hc3=>?_) (fun hc3=>?_)))))))))))))))
  ·refine ar (ir 1 [(4,.i (-1))] (ie ?_))
   exact at_ (r2 [0] [.i (-1)] ⟨rfl,rfl⟩ li)
  refine ak (ar (irk 1 (.n 28 (.i (z+1)) .r) (ia (((z+1)+1)) (((z+1))+(1)) (ir 1 [(0,.val v),(1,.i ((z+1)+1)),(5,.i k)] (ie (aq (ar (irk 2 (.n 30 (.val v) (.n 31 (.i k) .r)) (is_ (oIdx S v xs.length k 5 (k:Int) hd) (irk 1 (.n 33 (.val (.pointer (some ⟨vblk v,k*5+2,none⟩))) .r) (ix_ (oGet 0 S M (vblk v) (k*5+2) (.int .i64 ((z+1)+1)) hb.1 h2) (irk 2 (.n 36 (.b (((z+1)+1) != ((z+1)+1))) .r) (ie (ac (((z+1)+1) != ((z+1)+1)) bne_iff_ne (fun hc4=>?_) (fun hc4=>?_)))))))))))))))
  ·refine ar (ir 1 [(4,.i (-1))] (ie ?_))
   exact at_ (r2 [0] [.i (-1)] ⟨rfl,rfl⟩ li)
  refine ak (ar (irk 1 (.n 37 (.i ((z+1)+1)) .r) (ia ((((z+1)+1)+1)) ((((z+1)+1))+(1)) (ir 1 [(0,.val v),(1,.i (((z+1)+1)+1)),(5,.i k)] (ie (ar (irk 2 (.n 39 (.val v) (.n 40 (.i k) .r)) (is_ (oIdx S v xs.length k 5 (k:Int) hd) (irk 1 (.n 42 (.val (.pointer (some ⟨vblk v,k*5+3,none⟩))) .r) (ix_ (oGet 0 S M (vblk v) (k*5+3) x1.av hb.1 a3) (irk 1 (.n 44 (.i (((z+1)+1)+1)) .r) (ic [0] (Zcl S M x1.av x1.args (((z+1)+1)+1)) ?_))))))))))))
  rintro _ _ ⟨rfl,rfl⟩
  refine ir 1 [(0,.val v),(1,.i ((((z+1)+1)+1)+((adI (vblk x1.av) 0 x1.args.length).length:Nat))),(5,.i k)] (ie (aq (ar (irk 2 (.n 47 (.b (decide (((((z+1)+1)+1)+((adI (vblk x1.av) 0 x1.args.length).length:Nat))<0))) .r) (ie (ac (decide (((((z+1)+1)+1)+((adI (vblk x1.av) 0 x1.args.length).length:Nat))<0)) decide_eq_true_iff (fun hc5=>?_) (fun hc5=>?_)))))))
  ·refine ar (ir 1 [(4,.i (-1))] (ie ?_))
   exact at_ (r2 [0] [.i (-1)] ⟨rfl,rfl⟩ li)
  refine ak (ar (irk 2 (.n 48 (.val v) (.n 49 (.i k) .r)) (is_ (oIdx S v xs.length k 5 (k:Int) hd) (irk 1 (.n 51 (.val (.pointer (some ⟨vblk v,k*5+4,none⟩))) .r) (ix_ (oGet 0 S M (vblk v) (k*5+4) x1.kv hb.1 a4) (irk 1 (.n 53 (.i ((((z+1)+1)+1)+((adI (vblk x1.av) 0 x1.args.length).length:Nat))) .r) (ic [0] (ih S M x1.kv x1.kids ((((z+1)+1)+1)+((adI (vblk x1.av) 0 x1.args.length).length:Nat)) ob ob ob ob ob) ?_)))))))
  rintro _ _ ⟨rfl,rfl⟩
  refine ir 1 [(0,.val v),(1,.i (((((z+1)+1)+1)+((adI (vblk x1.av) 0 x1.args.length).length:Nat))+((Z09 (vblk x1.kv) 0 x1.kids).length:Nat))),(5,.i k)] (ie (ar (irk 2 (.n 56 (.b (decide ((((((z+1)+1)+1)+((adI (vblk x1.av) 0 x1.args.length).length:Nat))+((Z09 (vblk x1.kv) 0 x1.kids).length:Nat))<0))) .r) (ie (ac (decide ((((((z+1)+1)+1)+((adI (vblk x1.av) 0 x1.args.length).length:Nat))+((Z09 (vblk x1.kv) 0 x1.kids).length:Nat))<0)) decide_eq_true_iff (fun hc6=>?_) (fun hc6=>?_))))))
  ·refine ar (ir 1 [(4,.i (-1))] (ie ?_))
   exact at_ (r2 [0] [.i (-1)] ⟨rfl,rfl⟩ li)
  refine ak (az (irk 1 (.n 10 (.i k) .r) (ia (((k+1:Nat):Int)) (((k:Int))+(1)) (irk 1 (.n 5 (.i (k+1:Nat)) (.p (.d (.d (.k (.k .z)))))) (ie ?_)))))
  exact ⟨_,_,_,ob,⟨k+1,(((((z+1)+1)+1)+((adI (vblk x1.av) 0 x1.args.length).length:Nat))+((Z09 (vblk x1.kv) 0 x1.kids).length:Nat)),ob,ob,ob,(Zcm hR om),rfl,rfl,rfl⟩,(wk [0] (fr (fr (fc (x:=.i (k+1:Nat)) li fl))))⟩
 have he:(Zd (vblk v) (k*5) (xs.drop k))=[]:=by rw [List.drop_eq_nil_of_le om,Zd]
 rw [he,List.length_nil] at c0_2
 refine ax 0 (ar (ir 2 [(4,.i z)] (ie ?_)))
 exact at_ (r2 [0] [.i z] ⟨rfl,rfl⟩ li)
theorem Zm2 (S:List Nat) (M:Mem) (v:Value) (xs:List HBlock) (q:Int) (ih:∀(S:List Nat) (M:Mem) (v:Value) (ys:List HStep) (q:Int),(SizeOf.sizeOf ys<SizeOf.sizeOf xs)→(HdOk S v ys.length)→(Z2o M S (vblk v) 0 ys)→(hold M (Zd (vblk v) 0 ys) q)→(0≤q∧q+((Zd (vblk v) 0 ys).length:Nat)≤4000000000000)→Z3 Tryz.prog 76 [.val v,.i q] [.own S M] (fun r h=>r=.i (q+((Zd (vblk v) 0 ys).length:Nat))∧h=[.own S M])) (hd:HdOk S v xs.length) (hs:Z2f M S (vblk v) 0 xs) (hh:hold M (Z09 (vblk v) 0 xs) q) (hq:0≤q∧q+((Z09 (vblk v) 0 xs).length:Nat)≤4000000000000):Z3 Tryz.prog 131 [.val v,.i q] [.own S M] (fun r h=>r=.i (q+((Z09 (vblk v) 0 xs).length:Nat))∧h=[.own S M]):=by
 have hal:=Zbc (g:=vblk v) (o:=0) (xs:=xs)
 refine enter Tryz.func131 kr (n:=31) kr kr (ar (ir 1 [(0,.val v),(1,.i q)] (ie (aq (ar (irk 1 (.n 5 (.i 0) .r) (ie (ab 0 (al (fun m F h=>∃(k:Nat) (z:Int),(k≤xs.length)∧(0≤z)∧(z+((Z09 (vblk v) (k*2) (xs.drop k)).length:Nat)=q+((Z09 (vblk v) 0 xs).length:Nat))∧(hold M (Z09 (vblk v) (k*2) (xs.drop k)) z)∧F=[(0,.val v),(1,.i z),(5,.i k)]∧h=[.own S M]∧m=xs.length-k) _ _ _ ⟨0,q,ob,ob,(by simp),(by simpa using hh),rfl,rfl,rfl⟩ (wk [0] (fr (fr (fc (x:=.i 0) li fl)))) ?_)))))))))
 rintro m F h ⟨k,z,c0_0,c0_1,c0_2,c0_3,rfl,rfl,rfl⟩
 refine aq (ar (irk 2 (.n 6 (.i k) (.n 7 (.val v) .r)) (is_ (oLen S v xs.length hd) (irk 1 (.n 9 (.b (decide ((k:Int)<(xs.length:Int)))) .r) (ie (ac (decide ((k:Int)<(xs.length:Int))) decide_eq_true_iff (fun hc1=>?_) (fun hc1=>?_)))))))
 ·have hb:=hd.blk (i:=k) om
  obtain ⟨x1,hx1⟩:=Z9 (xs:=xs) (j:=k) om
  have e1:=Zab hs hx1
  rw [Nat.zero_add] at e1
  rw [Zjf] at e1
  have hz:SizeOf.sizeOf x1.steps<SizeOf.sizeOf xs:=Zm4 hx1
  obtain ⟨⟨⟨a0,d0⟩,s0⟩,i1⟩:=e1
  have hdr:=Zc5 (g:=vblk v) hx1
  have hln:=Zh0 (g:=vblk v) (o:=k*2) (b:=x1)
  have hl0:=congrArg List.length hdr
  rw [List.length_append,hln] at hl0
  rw [hdr] at c0_3
  obtain ⟨hA,hR⟩:=(Z53 _ _ _ _).1 c0_3
  obtain ⟨h0,h1⟩:=Zrq hA
  refine ak (aq (ab 1 (ar (irk 2 (.n 12 (.val v) (.n 13 (.i k) .r)) (is_ (oIdx S v xs.length k 2 (k:Int) hd) (irk 1 (.n 15 (.val (.pointer (some ⟨vblk v,k*2,none⟩))) .r) (ix_ (oGet 0 S M (vblk v) (k*2) x1.sv hb.1 a0) (irk 1 (.n 17 (.i z) .r) (ic [0] (ih S M x1.sv x1.steps z ob ob ob ob ob) ?_)))))))))
  rintro _ _ ⟨rfl,rfl⟩
  refine ir 1 [(0,.val v),(1,.i (z+((Zd (vblk x1.sv) 0 x1.steps).length:Nat))),(5,.i k)] (ie (aq (ar (irk 2 (.n 20 (.b (decide ((z+((Zd (vblk x1.sv) 0 x1.steps).length:Nat))<0))) .r) (ie (ac (decide ((z+((Zd (vblk x1.sv) 0 x1.steps).length:Nat))<0)) decide_eq_true_iff (fun hc2=>?_) (fun hc2=>?_)))))))
  ·refine ar (ir 1 [(4,.i (-1))] (ie ?_))
   exact at_ (r2 [0] [.i (-1)] ⟨rfl,rfl⟩ li)
  refine ak (aq (ar (irk 2 (.n 21 (.val v) (.n 22 (.i k) .r)) (is_ (oIdx S v xs.length k 2 (k:Int) hd) (irk 1 (.n 24 (.val (.pointer (some ⟨vblk v,k*2+1,none⟩))) .r) (ix_ (oGet 0 S M (vblk v) (k*2+1) (.int .i64 (z+((Zd (vblk x1.sv) 0 x1.steps).length:Nat))) hb.1 h1) (irk 2 (.n 27 (.b ((z+((Zd (vblk x1.sv) 0 x1.steps).length:Nat)) != (z+((Zd (vblk x1.sv) 0 x1.steps).length:Nat)))) .r) (ie (ac ((z+((Zd (vblk x1.sv) 0 x1.steps).length:Nat)) != (z+((Zd (vblk x1.sv) 0 x1.steps).length:Nat))) bne_iff_ne (fun hc3=>?_) (fun hc3=>?_))))))))))
  ·refine ar (ir 1 [(4,.i (-1))] (ie ?_))
   exact at_ (r2 [0] [.i (-1)] ⟨rfl,rfl⟩ li)
  refine ak (az (irk 1 (.n 28 (.i (z+((Zd (vblk x1.sv) 0 x1.steps).length:Nat))) .r) (ia (((z+((Zd (vblk x1.sv) 0 x1.steps).length:Nat))+1)) (((z+((Zd (vblk x1.sv) 0 x1.steps).length:Nat)))+(1)) (ir 1 [(0,.val v),(1,.i ((z+((Zd (vblk x1.sv) 0 x1.steps).length:Nat))+1)),(5,.i k)] (ie (az (irk 1 (.n 10 (.i k) .r) (ia (((k+1:Nat):Int)) (((k:Int))+(1)) (irk 1 (.n 5 (.i (k+1:Nat)) (.p (.d (.k (.k .z))))) (ie ?_))))))))))
  exact ⟨_,_,_,ob,⟨k+1,((z+((Zd (vblk x1.sv) 0 x1.steps).length:Nat))+1),ob,ob,ob,(Zcm hR om),rfl,rfl,rfl⟩,(wk [0] (fr (fr (fc (x:=.i (k+1:Nat)) li fl))))⟩
 have he:(Z09 (vblk v) (k*2) (xs.drop k))=[]:=by rw [List.drop_eq_nil_of_le om,Z09]
 rw [he,List.length_nil] at c0_2
 refine ax 0 (ar (ir 2 [(4,.i z)] (ie ?_)))
 exact at_ (r2 [0] [.i z] ⟨rfl,rfl⟩ li)
theorem Zul (n:Nat):(∀(S:List Nat) (M:Mem) (v:Value) (xs:List HStep) (q:Int),(SizeOf.sizeOf xs<n)→(HdOk S v xs.length)→(Z2o M S (vblk v) 0 xs)→(hold M (Zd (vblk v) 0 xs) q)→(0≤q∧q+((Zd (vblk v) 0 xs).length:Nat)≤4000000000000)→Z3 Tryz.prog 76 [.val v,.i q] [.own S M] (fun r h=>r=.i (q+((Zd (vblk v) 0 xs).length:Nat))∧h=[.own S M]))∧(∀(S:List Nat) (M:Mem) (v:Value) (xs:List HBlock) (q:Int),(SizeOf.sizeOf xs<n)→(HdOk S v xs.length)→(Z2f M S (vblk v) 0 xs)→(hold M (Z09 (vblk v) 0 xs) q)→(0≤q∧q+((Z09 (vblk v) 0 xs).length:Nat)≤4000000000000)→Z3 Tryz.prog 131 [.val v,.i q] [.own S M] (fun r h=>r=.i (q+((Z09 (vblk v) 0 xs).length:Nat))∧h=[.own S M])):=by
 induction n with
 | zero=>exact ⟨fun _ _ _ _ _ h=>by omega,fun _ _ _ _ _ h=>by omega⟩
 | succ n ih=>
  obtain ⟨i1,i2⟩:=ih
  exact ⟨fun S M v xs q hz h3 h4 h5 h9=>Zoh S M v xs q (fun S M v ys q hz2 h3 h4 h5 h9=>i2 S M v ys q om h3 h4 h5 h9) h3 h4 h5 h9,fun S M v xs q hz h3 h4 h5 h9=>Zm2 S M v xs q (fun S M v ys q hz2 h3 h4 h5 h9=>i1 S M v ys q om h3 h4 h5 h9) h3 h4 h5 h9⟩
theorem Zrp (S:List Nat) (M:Mem) (v:Value) (xs:List HStep) (q:Int) (hd:HdOk S v xs.length:=by exact ob) (hs:Z2o M S (vblk v) 0 xs:=by exact ob) (hh:hold M (Zd (vblk v) 0 xs) q:=by exact ob) (hq:0≤q∧q+((Zd (vblk v) 0 xs).length:Nat)≤4000000000000:=by exact ob):Z3 Tryz.prog 76 [.val v,.i q] [.own S M] (fun r h=>r=.i (q+((Zd (vblk v) 0 xs).length:Nat))∧h=[.own S M]):=(Zul (SizeOf.sizeOf xs+1)).1 S M v xs q om hd hs hh hq
theorem Zk4 (S:List Nat) (M:Mem) (v:Value) (xs:List HRoutine) (q:Int) (hd:HdOk S v xs.length:=by exact ob) (hs:Z4c M S (vblk v) 0 xs:=by exact ob) (hh:hold M (Z0h (vblk v) 0 xs) q:=by exact ob) (hq:0≤q∧q+((Z0h (vblk v) 0 xs).length:Nat)≤4000000000000:=by exact ob):Z3 Tryz.prog 35 [.val v,.i q] [.own S M] (fun r h=>r=.i (q+((Z0h (vblk v) 0 xs).length:Nat))∧h=[.own S M]):=by
 have hal:=Z8s (g:=vblk v) (o:=0) (xs:=xs)
 refine enter Tryz.func35 kr (n:=60) kr kr (ar (ir 1 [(0,.val v),(1,.i q)] (ie (aq (ar (irk 1 (.n 5 (.i 0) .r) (ie (ab 0 (al (fun m F h=>∃(k:Nat) (z:Int),(k≤xs.length)∧(0≤z)∧(z+((Z0h (vblk v) (k*5) (xs.drop k)).length:Nat)=q+((Z0h (vblk v) 0 xs).length:Nat))∧(hold M (Z0h (vblk v) (k*5) (xs.drop k)) z)∧F=[(0,.val v),(1,.i z),(5,.i k)]∧h=[.own S M]∧m=xs.length-k) _ _ _ ⟨0,q,ob,ob,(by simp),(by simpa using hh),rfl,rfl,rfl⟩ (wk [0] (fr (fr (fc (x:=.i 0) li fl)))) ?_)))))))))
 rintro m F h ⟨k,z,c0_0,c0_1,c0_2,c0_3,rfl,rfl,rfl⟩
 refine aq (ar (irk 2 (.n 6 (.i k) (.n 7 (.val v) .r)) (is_ (oLen S v xs.length hd) (irk 1 (.n 9 (.b (decide ((k:Int)<(xs.length:Int)))) .r) (ie (ac (decide ((k:Int)<(xs.length:Int))) decide_eq_true_iff (fun hc1=>?_) (fun hc1=>?_)))))))
 ·have hb:=hd.blk (i:=k) om
  obtain ⟨x1,hx1⟩:=Z9 (xs:=xs) (j:=k) om
  have e1:=Z89 hs hx1
  rw [Nat.zero_add] at e1
  obtain ⟨⟨⟨a0,d0⟩,s0⟩,⟨⟨a1,d1⟩,s1⟩,i2,⟨⟨a3,d3⟩,s3⟩,i4⟩:=e1
  have hdr:=Z9x (g:=vblk v) hx1
  have hln:=Z95 (g:=vblk v) (o:=k*5) (r:=x1)
  have hl0:=congrArg List.length hdr
  rw [List.length_append,hln] at hl0
  rw [hdr] at c0_3
  obtain ⟨hA,hR⟩:=(Z53 _ _ _ _).1 c0_3
  obtain ⟨h0,h1,h2,h3,h4⟩:=Zm3 hA
  refine ak (aq (ab 1 (ar (irk 2 (.n 12 (.val v) (.n 13 (.i k) .r)) (is_ (oIdx S v xs.length k 5 (k:Int) hd) (irk 1 (.n 15 (.val (.pointer (some ⟨vblk v,k*5,none⟩))) .r) (ix_ (oGet 0 S M (vblk v) (k*5) x1.pv hb.1 a0) (irk 1 (.n 17 (.i z) .r) (ic [0] (Zcl S M x1.pv x1.params z) ?_)))))))))
  rintro _ _ ⟨rfl,rfl⟩
  refine ir 1 [(0,.val v),(1,.i (z+((adI (vblk x1.pv) 0 x1.params.length).length:Nat))),(5,.i k)] (ie (aq (ar (irk 2 (.n 20 (.b (decide ((z+((adI (vblk x1.pv) 0 x1.params.length).length:Nat))<0))) .r) (ie (ac (decide ((z+((adI (vblk x1.pv) 0 x1.params.length).length:Nat))<0)) decide_eq_true_iff (fun hc2=>?_) (fun hc2=>?_)))))))
  ·refine ar (ir 1 [(4,.i (-1))] (ie ?_))
   exact at_ (r2 [0] [.i (-1)] ⟨rfl,rfl⟩ li)
  refine ak (ar (irk 2 (.n 21 (.val v) (.n 22 (.i k) .r)) (is_ (oIdx S v xs.length k 5 (k:Int) hd) (irk 1 (.n 24 (.val (.pointer (some ⟨vblk v,k*5+1,none⟩))) .r) (ix_ (oGet 0 S M (vblk v) (k*5+1) x1.lv hb.1 a1) (irk 1 (.n 26 (.i (z+((adI (vblk x1.pv) 0 x1.params.length).length:Nat))) .r) (ic [0] (Zcl S M x1.lv x1.lent (z+((adI (vblk x1.pv) 0 x1.params.length).length:Nat))) ?_)))))))
  rintro _ _ ⟨rfl,rfl⟩
  refine ir 1 [(0,.val v),(1,.i ((z+((adI (vblk x1.pv) 0 x1.params.length).length:Nat))+((adI (vblk x1.lv) 0 x1.lent.length).length:Nat))),(5,.i k)] (ie (aq (ar (irk 2 (.n 29 (.b (decide (((z+((adI (vblk x1.pv) 0 x1.params.length).length:Nat))+((adI (vblk x1.lv) 0 x1.lent.length).length:Nat))<0))) .r) (ie (ac (decide (((z+((adI (vblk x1.pv) 0 x1.params.length).length:Nat))+((adI (vblk x1.lv) 0 x1.lent.length).length:Nat))<0)) decide_eq_true_iff (fun hc3=>?_) (fun hc3=>?_)))))))
  ·refine ar (ir 1 [(4,.i (-1))] (ie ?_))
   exact at_ (r2 [0] [.i (-1)] ⟨rfl,rfl⟩ li)
  refine ak (aq (ar (irk 2 (.n 30 (.val v) (.n 31 (.i k) .r)) (is_ (oIdx S v xs.length k 5 (k:Int) hd) (irk 1 (.n 33 (.val (.pointer (some ⟨vblk v,k*5+2,none⟩))) .r) (ix_ (oGet 0 S M (vblk v) (k*5+2) (.int .i64 ((z+((adI (vblk x1.pv) 0 x1.params.length).length:Nat))+((adI (vblk x1.lv) 0 x1.lent.length).length:Nat))) hb.1 h2) (irk 2 (.n 36 (.b (((z+((adI (vblk x1.pv) 0 x1.params.length).length:Nat))+((adI (vblk x1.lv) 0 x1.lent.length).length:Nat)) != ((z+((adI (vblk x1.pv) 0 x1.params.length).length:Nat))+((adI (vblk x1.lv) 0 x1.lent.length).length:Nat)))) .r) (ie (ac (((z+((adI (vblk x1.pv) 0 x1.params.length).length:Nat))+((adI (vblk x1.lv) 0 x1.lent.length).length:Nat)) != ((z+((adI (vblk x1.pv) 0 x1.params.length).length:Nat))+((adI (vblk x1.lv) 0 x1.lent.length).length:Nat))) bne_iff_ne (fun hc4=>?_) (fun hc4=>?_))))))))))
  ·refine ar (ir 1 [(4,.i (-1))] (ie ?_))
   exact at_ (r2 [0] [.i (-1)] ⟨rfl,rfl⟩ li)
  refine ak (ar (irk 1 (.n 37 (.i ((z+((adI (vblk x1.pv) 0 x1.params.length).length:Nat))+((adI (vblk x1.lv) 0 x1.lent.length).length:Nat))) .r) (ia ((((z+((adI (vblk x1.pv) 0 x1.params.length).length:Nat))+((adI (vblk x1.lv) 0 x1.lent.length).length:Nat))+1)) ((((z+((adI (vblk x1.pv) 0 x1.params.length).length:Nat))+((adI (vblk x1.lv) 0 x1.lent.length).length:Nat)))+(1)) (ir 1 [(0,.val v),(1,.i (((z+((adI (vblk x1.pv) 0 x1.params.length).length:Nat))+((adI (vblk x1.lv) 0 x1.lent.length).length:Nat))+1)),(5,.i k)] (ie (ar (irk 2 (.n 39 (.val v) (.n 40 (.i k) .r)) (is_ (oIdx S v xs.length k 5 (k:Int) hd) (irk 2 (.n 43 (.val (.pointer (some ⟨vblk v,k*5+3,none⟩))) .r) (ix_ (oGet 0 S M (vblk v) (k*5+3) x1.body.sv hb.1 a3) (irk 1 (.n 45 (.i (((z+((adI (vblk x1.pv) 0 x1.params.length).length:Nat))+((adI (vblk x1.lv) 0 x1.lent.length).length:Nat))+1)) .r) (ic [0] (Zrp S M x1.body.sv x1.body.steps (((z+((adI (vblk x1.pv) 0 x1.params.length).length:Nat))+((adI (vblk x1.lv) 0 x1.lent.length).length:Nat))+1)) ?_))))))))))))
  rintro _ _ ⟨rfl,rfl⟩
  refine ir 1 [(0,.val v),(1,.i ((((z+((adI (vblk x1.pv) 0 x1.params.length).length:Nat))+((adI (vblk x1.lv) 0 x1.lent.length).length:Nat))+1)+((Zd (vblk x1.body.sv) 0 x1.body.steps).length:Nat))),(5,.i k)] (ie (aq (ar (irk 2 (.n 48 (.b (decide (((((z+((adI (vblk x1.pv) 0 x1.params.length).length:Nat))+((adI (vblk x1.lv) 0 x1.lent.length).length:Nat))+1)+((Zd (vblk x1.body.sv) 0 x1.body.steps).length:Nat))<0))) .r) (ie (ac (decide (((((z+((adI (vblk x1.pv) 0 x1.params.length).length:Nat))+((adI (vblk x1.lv) 0 x1.lent.length).length:Nat))+1)+((Zd (vblk x1.body.sv) 0 x1.body.steps).length:Nat))<0)) decide_eq_true_iff (fun hc5=>?_) (fun hc5=>?_)))))))
  ·refine ar (ir 1 [(4,.i (-1))] (ie ?_))
   exact at_ (r2 [0] [.i (-1)] ⟨rfl,rfl⟩ li)
  refine ak (aq (ar (irk 2 (.n 49 (.val v) (.n 50 (.i k) .r)) (is_ (oIdx S v xs.length k 5 (k:Int) hd) (irk 2 (.n 53 (.val (.pointer (some ⟨vblk v,k*5+4,none⟩))) .r) (ix_ (oGet 0 S M (vblk v) (k*5+4) (.int .i64 ((((z+((adI (vblk x1.pv) 0 x1.params.length).length:Nat))+((adI (vblk x1.lv) 0 x1.lent.length).length:Nat))+1)+((Zd (vblk x1.body.sv) 0 x1.body.steps).length:Nat))) hb.1 h4) (irk 2 (.n 56 (.b (((((z+((adI (vblk x1.pv) 0 x1.params.length).length:Nat))+((adI (vblk x1.lv) 0 x1.lent.length).length:Nat))+1)+((Zd (vblk x1.body.sv) 0 x1.body.steps).length:Nat)) != ((((z+((adI (vblk x1.pv) 0 x1.params.length).length:Nat))+((adI (vblk x1.lv) 0 x1.lent.length).length:Nat))+1)+((Zd (vblk x1.body.sv) 0 x1.body.steps).length:Nat)))) .r) (ie (ac (((((z+((adI (vblk x1.pv) 0 x1.params.length).length:Nat))+((adI (vblk x1.lv) 0 x1.lent.length).length:Nat))+1)+((Zd (vblk x1.body.sv) 0 x1.body.steps).length:Nat)) != ((((z+((adI (vblk x1.pv) 0 x1.params.length).length:Nat))+((adI (vblk x1.lv) 0 x1.lent.length).length:Nat))+1)+((Zd (vblk x1.body.sv) 0 x1.body.steps).length:Nat))) bne_iff_ne (fun hc6=>?_) (fun hc6=>?_))))))))))
  ·refine ar (ir 1 [(4,.i (-1))] (ie ?_))
   exact at_ (r2 [0] [.i (-1)] ⟨rfl,rfl⟩ li)
  refine ak (az (irk 1 (.n 57 (.i ((((z+((adI (vblk x1.pv) 0 x1.params.length).length:Nat))+((adI (vblk x1.lv) 0 x1.lent.length).length:Nat))+1)+((Zd (vblk x1.body.sv) 0 x1.body.steps).length:Nat))) .r) (ia ((((((z+((adI (vblk x1.pv) 0 x1.params.length).length:Nat))+((adI (vblk x1.lv) 0 x1.lent.length).length:Nat))+1)+((Zd (vblk x1.body.sv) 0 x1.body.steps).length:Nat))+1)) ((((((z+((adI (vblk x1.pv) 0 x1.params.length).length:Nat))+((adI (vblk x1.lv) 0 x1.lent.length).length:Nat))+1)+((Zd (vblk x1.body.sv) 0 x1.body.steps).length:Nat)))+(1)) (ir 1 [(0,.val v),(1,.i (((((z+((adI (vblk x1.pv) 0 x1.params.length).length:Nat))+((adI (vblk x1.lv) 0 x1.lent.length).length:Nat))+1)+((Zd (vblk x1.body.sv) 0 x1.body.steps).length:Nat))+1)),(5,.i k)] (ie (az (irk 1 (.n 10 (.i k) .r) (ia (((k+1:Nat):Int)) (((k:Int))+(1)) (irk 1 (.n 5 (.i (k+1:Nat)) (.p (.d (.k (.k .z))))) (ie ?_))))))))))
  exact ⟨_,_,_,ob,⟨k+1,(((((z+((adI (vblk x1.pv) 0 x1.params.length).length:Nat))+((adI (vblk x1.lv) 0 x1.lent.length).length:Nat))+1)+((Zd (vblk x1.body.sv) 0 x1.body.steps).length:Nat))+1),ob,ob,ob,(Zcm hR om),rfl,rfl,rfl⟩,(wk [0] (fr (fr (fc (x:=.i (k+1:Nat)) li fl))))⟩
 have he:(Z0h (vblk v) (k*5) (xs.drop k))=[]:=by rw [List.drop_eq_nil_of_le om];rfl
 rw [he,List.length_nil] at c0_2
 refine ax 0 (ar (ir 2 [(4,.i z)] (ie ?_)))
 exact at_ (r2 [0] [.i z] ⟨rfl,rfl⟩ li)
theorem Zog (S:List Nat) (M:Mem) (y:HNormal) (q:Int) (hs:Z46 M S y) (hl:∀d∈y.decls,d.cons.length≤4000000000000) (hh:hold M (Z0c y) q) (hq:0≤q∧q+((Z0c y).length:Nat)≤4000000000000):Z3 Tryz.prog 12 [.agg [.val y.dv,.val y.rv],.i q] [.own S M] (fun r h=>r=.i (q+((Z0c y).length:Nat))∧h=[.own S M]):=by
 obtain ⟨⟨d0,s0⟩,⟨d1,s1⟩⟩:=hs
 have hln:=Ze4 (y:=y)
 obtain ⟨h0,h1⟩:=(Z53 _ _ _ _).1 (show hold M (_++_) q from hh)
 refine enter Tryz.func12 kr (n:=18) kr kr (ar (iA [.val y.dv,.val y.rv] ?_))
 intro b1
 refine ir 1 [(1,.i q),(2,.p b1 0)] (ie (ar (irK 3 (.n 6 (.val y.dv) (.n 7 (.i q) .r)) [0] [b1] (ic [1] (Zro S M y.dv y.decls q (hl:=ob)) ?_))))
 rintro _ _ ⟨rfl,rfl⟩
 refine ir 1 [(1,.i (q+((Z12 (vblk y.dv) 0 y.decls).length:Nat))),(2,.p b1 0)] (ie (aq (ar (irk 2 (.n 10 (.b (decide ((q+((Z12 (vblk y.dv) 0 y.decls).length:Nat))<0))) .r) (ie (ac (decide ((q+((Z12 (vblk y.dv) 0 y.decls).length:Nat))<0)) decide_eq_true_iff (fun hc1=>?_) (fun hc1=>?_)))))))
 ·refine ar (ir 1 [(4,.i (-1))] (ie ?_))
  exact at_ (r2 [0] [.i (-1)] ⟨rfl,rfl⟩ li)
 refine ak (ar (iR 3 [(12,.val y.rv),(13,.i (q+((Z12 (vblk y.dv) 0 y.decls).length:Nat)))] [1] [b1] (ic [0] (Zk4 S M y.rv y.routines (q+((Z12 (vblk y.dv) 0 y.decls).length:Nat))) ?_)))
 rintro _ _ ⟨rfl,rfl⟩
 refine ir 1 [(1,.i ((q+((Z12 (vblk y.dv) 0 y.decls).length:Nat))+((Z0h (vblk y.rv) 0 y.routines).length:Nat)))] (ie (aq (ar (irk 2 (.n 16 (.b (decide (((q+((Z12 (vblk y.dv) 0 y.decls).length:Nat))+((Z0h (vblk y.rv) 0 y.routines).length:Nat))<0))) .r) (ie (ac (decide (((q+((Z12 (vblk y.dv) 0 y.decls).length:Nat))+((Z0h (vblk y.rv) 0 y.routines).length:Nat))<0)) decide_eq_true_iff (fun hc2=>?_) (fun hc2=>?_)))))))
 ·refine ar (ir 1 [(4,.i (-1))] (ie ?_))
  exact at_ (r2 [0] [.i (-1)] ⟨rfl,rfl⟩ li)
 refine ak (ar (ir 2 [(4,.i ((q+((Z12 (vblk y.dv) 0 y.decls).length:Nat))+((Z0h (vblk y.rv) 0 y.routines).length:Nat)))] (ie ?_)))
 exact at_ (r2 [0] [.i ((q+((Z12 (vblk y.dv) 0 y.decls).length:Nat))+((Z0h (vblk y.rv) 0 y.routines).length:Nat))] ⟨rfl,rfl⟩ li)
end Go.Abs
end
section
namespace Go.Abs
open Go.Proofs
set_option maxRecDepth 10000
set_option maxHeartbeats 4000000
theorem Zhd {m m':Mem} {B:List Nat} {y:HNormal} (k:Kp m m') (h:Z46 m B y):Z46 m' B y:=⟨⟨h.1.1,Zjg k h.1.2⟩,⟨h.2.1,Z9a k h.2.2⟩⟩
theorem Zem {m:Mem} {B:List Nat} {y:HNormal} (h:Z46 m B y):∀a∈Z0c y,isI m a:=fun a ha=>(List.mem_append.1 ha).elim (Zbd h.1.2 a) (Zb2 h.2.2 a)
theorem Z03b (x:Normal) (hl:Z4m x≤1000000000):Z3 Tryz.prog 8 [Zh x] [] (fun r h=>∃(y:HNormal) (S:List Nat) (M:Mem),r=av y∧h=[.own S M]∧(y.er=x∧Z46 M S y∧(Z0c y).Nodup∧RepN S M y)):=(Zdi x hl).thaw
theorem Zvf (S:List Nat) (M:Mem) (y:HNormal) (q:Int) (hs:Z46 M S y) (hl:∀d∈y.decls,d.cons.length≤4000000000000) (hq:0≤q∧q+((Z0c y).length:Nat)≤4000000000000):Z3 Tryz.prog 11 [av y,.i q] [.own S M] (fun r h=>r=.i (q+((Z0c y).length:Nat))∧h=[.own S (wr M (Z0c y) q)]):=by
 rw [Zta (Ziv hs)]
 exact Zoq S M y q hs hl hq
theorem Zuk (S:List Nat) (M:Mem) (y:HNormal) (q:Int) (hs:Z46 M S y) (hl:∀d∈y.decls,d.cons.length≤4000000000000) (hh:hold M (Z0c y) q) (hq:0≤q∧q+((Z0c y).length:Nat)≤4000000000000):Z3 Tryz.prog 12 [av y,.i q] [.own S M] (fun r h=>r=.i (q+((Z0c y).length:Nat))∧h=[.own S M]):=by
 rw [Zta (Ziv hs)]
 exact Zog S M y q hs hl hh hq
theorem sgl {S:List Nat} {M:Mem}:∀r∈[Res.own S M],∃B m,r=.own B m:=fun _ hr=>⟨S,M,List.mem_singleton.1 hr⟩
theorem Z00a (y:HNormal) (x:Normal) (S:List Nat) (M:Mem) (he:y.er=x) (hrp:RepN S M y) (hl:Z4m x≤1000000000):Z3 Tryz.prog 10 [av y,Zh x] [.own S M] (fun r h=>r=.b true∧h=[.own S M]):=by
 subst he
 have h1:Z3 Tryz.prog 10 [Z23 y,Zh y.er] [] _:=(Z9j y.er hl).args_le (.cons (Z5y y) (.cons (AVLe.refl _) .nil))
 refine (h1.lendO [.own S M] (.lent (List.mem_singleton.2 rfl) hrp (.same .nil)) sgl ?_).mono ?_
 ·rintro r h ⟨rfl,rfl⟩;exact ⟨.val,fun q hq=>by cases hq⟩
 ·rintro r h ⟨h1,⟨rfl,rfl⟩,rfl⟩;exact ⟨rfl,rfl⟩
theorem Z03h (y z:HNormal) (S:List Nat) (M:Mem) (he:y.er=z.er) (hrp:RepN S M y) (hl:Z4m z.er≤1000000000):Z3 Tryz.prog 10 [av y,Z23 z] [.own S M] (fun r h=>r=.b true∧h=[.own S M]):=
 (Z00a y z.er S M he hrp hl).args_le (.cons (AVLe.refl _) (.cons (Z5y z) .nil))
theorem Z03g (z:HNormal) (x:Normal) (he:z.er=x) (hl:Z4m x≤1000000000):Z3 Tryz.prog 10 [Z23 z,Zh x] [] (fun r h=>r=.b true∧h=[]):=by
 subst he
 exact (Z9j z.er hl).args_le (.cons (Z5y z) (.cons (AVLe.refl _) .nil))
theorem Z035 (z:HNormal) (n:Normal) (he:z.er=n) (hz:NSz n):Z3 Tryz.prog 7 [Z23 z] [] (fun r h=>r=.tup [Zh ((Z0b n).1),.b ((Z0b n).2)]∧h=[]):=by
 subst he
 have h1:Z3 Tryz.prog 7 [Z23 z] [] _:=(Zp1 z.er hz).args_le (.cons (Z5y z) .nil)
 rw [Zn4 hz] at h1
 exact h1
theorem Zzf (z:HNormal) (n:Normal) (he:z.er=n) (hz:NSz n) (hr:∀r∈n.routines,r.body.rng):Z3 Tryz.prog 9 [Z23 z] [] (fun r h=>∃(y:HNormal),r=.tup [Z23 y,.b ((Z0b n).2)]∧h=[.many (Zz y)]∧y.er=(Z0b n).1):=by
 subst he
 exact (Zoj z.er hz hr).args_le (.cons (Z5y z) .nil)
theorem Zy0 (z:HNormal) (n:Normal) (S:List Nat) (M:Mem) (he:z.er=n) (hz:NSz n) (hr:∀r∈n.routines,r.body.rng) (hrp:RepN S M z):Z3 Tryz.prog 9 [av z] [.own S M] (fun r h=>∃(y:HNormal) (S2:List Nat) (M2:Mem),r=.tup [av y,.b ((Z0b n).2)]∧h=[.own S2 M2,.own S M]∧(y.er=(Z0b n).1∧Z46 M2 S2 y∧(Z0c y).Nodup∧RepN S2 M2 y)):=by
 refine ((Zzf z n he hz hr).thaw2.lendO [.own S M] (.lent (List.mem_singleton.2 rfl) hrp .nil) sgl ?_).mono ?_
 ·rintro r h ⟨y,S2,M2,rfl,rfl,_⟩
  refine ⟨.tup fun q hq=>?_,fun q hq=>by rw [List.mem_singleton.1 hq];trivial⟩
  rcases List.mem_cons.1 hq with rfl|hq
  ·exact .agg fun q hq=>by
    rcases List.mem_cons.1 hq with rfl|hq
    ·exact .val
    ·rw [List.mem_singleton.1 hq];exact .val
  ·rw [List.mem_singleton.1 hq];exact .val
 ·rintro r h ⟨h1,⟨y,S2,M2,rfl,rfl,hp⟩,rfl⟩;exact ⟨y,S2,M2,rfl,rfl,hp⟩
theorem Zru (n:Normal) (hl:Z4m n≤9223372036854775807) (hr:∀r∈n.routines,r.body.rng):Z3 Tryz.prog 3 [Zh n] [] (fun r h=>r=.b true∧h=[]):=by
 refine enter Tryz.func3 kr (n:=96) kr kr (ar (iA (Zi n) ?_))
 intro b1
 refine ir 1 [(1,.p b1 0)] (ie (ar (irk 1 (.n 3 (.i 1048576) .r) (ie (ar (irK 2 (.n 14 (Zh n) (.n 15 (.i 1048576) .r)) [0] [b1] (ic [] (Zfa n 1048576 ob ob) ?_)))))))
 rintro _ _ ⟨rfl,rfl⟩
 refine ir 1 [(1,.p b1 0),(3,.i (szL (Z4m n) 1048576))] (ie (aq (ar (irk 2 (.n 18 (.b (decide ((szL (Z4m n) 1048576)<0))) .r) (ie (ac (decide ((szL (Z4m n) 1048576)<0)) decide_eq_true_iff (fun hc1=>?_) (fun hc1=>?_)))))))
 ·refine ar (ir 1 [(2,.b true)] (ie ?_))
  exact at_ (r1 [] ⟨rfl,rfl⟩)
 have hsz:Z4m n≤1048576:=by unfold szL at hc1;split at hc1<;>omega
 have hz:=Z02w (n:=n) om
 have hxc:=Zuc hz
 refine ak (ar (irK 1 (.n 20 (Zh n) .r) [0] [b1] (ic [] (Zdi n ob) ?_)))
 rintro _ _ ⟨y1,rfl,rfl,hp1⟩
 have hnhp1:Z4m y1.er≤1000000000:=by rw [hp1];omega
 refine ic [] (Z035 y1 n ob ob) ?_
 rintro _ _ ⟨rfl,rfl⟩
 refine irk 3 (.n 23 (Zh ((Z0b n).1)) (.n 24 (.b ((Z0b n).2)) .r)) (iA [.sl [] (some (.slice none 0 0)),.sl [] (some (.slice none 0 0))] ?_)
 intro b2
 refine iS 0 b2 0 (Zi ((Z0b n).1)) [.sl [] (some (.slice none 0 0)),.sl [] (some (.slice none 0 0))] (Zi ((Z0b n).1)) (irk 1 (.n 5 (.b ((Z0b n).2)) .r) (ie (ar (irK 1 (.n 25 (Zh n) .r) [2] [b1] (ic [] (Z03b n ob) ?_)))))
 rintro _ _ ⟨y2,S1,M1,rfl,rfl,hp2⟩
 obtain ⟨ho1,ho2,ho3,ho4⟩:=hp2
 have ho5:=Zic y2
 have ho6:=Zzc (y:=y2)
 rw [ho1] at ho5 ho6
 have ho7:∀d∈y2.decls,d.cons.length≤4000000000000:=fun d hd=>by have:=ho6 d hd;omega
 refine iA [.sl [] (some (.slice none 0 0)),.sl [] (some (.slice none 0 0))] ?_
 intro b3
 refine iS 0 b3 0 [.val ((hdOf y2.dv).v),.val ((hdOf y2.rv).v)] [.sl [] (some (.slice none 0 0)),.sl [] (some (.slice none 0 0))] [.val ((hdOf y2.dv).v),.val ((hdOf y2.rv).v)] (ie (ar (irK 1 (.n 28 (.agg [.val ((hdOf y2.dv).v),.val ((hdOf y2.rv).v)]) .r) [0] [b3] (ic [1] (Zy0 y2 n S1 M1 ob ob ob ob) ?_))))
 rintro _ _ ⟨y3,S21,M21,rfl,rfl,hp3⟩
 obtain ⟨hg1,hg2,hg3,hg4⟩:=hp3
 have hg5:=Zic y3
 have hg6:=Zzc (y:=y3)
 rw [hg1] at hg5 hg6
 have hg7:∀d∈y3.decls,d.cons.length≤4000000000000:=fun d hd=>by have:=hg6 d hd;omega
 refine irk 3 (.n 30 (.agg [.val ((hdOf y3.dv).v),.val ((hdOf y3.rv).v)]) (.n 31 (.b ((Z0b n).2)) .r)) (iA [.sl [] (some (.slice none 0 0)),.sl [] (some (.slice none 0 0))] ?_)
 intro b4
 refine iS 0 b4 0 [.val ((hdOf y3.dv).v),.val ((hdOf y3.rv).v)] [.sl [] (some (.slice none 0 0)),.sl [] (some (.slice none 0 0))] [.val ((hdOf y3.dv).v),.val ((hdOf y3.rv).v)] (irk 1 (.n 8 (.b ((Z0b n).2)) .r) (ie (aq (ar (irK 2 (.n 32 (.agg [.val ((hdOf y3.dv).v),.val ((hdOf y3.rv).v)]) (.n 33 (Zh ((Z0b n).1)) .r)) [0,4] [b4,b2] (ic [1] (Z00a y3 ((Z0b n).1) S21 M21 ob ob ob) ?_))))))
 rintro _ _ ⟨rfl,rfl⟩
 refine irk 4 (.n 36 (.b false) (.n 37 (.b ((Z0b n).2)) (.n 38 (.b ((Z0b n).2)) .r))) (is_ (kBne ((Z0b n).2) ((Z0b n).2)) (irk 1 (.n 40 (.b (((Z0b n).2) != ((Z0b n).2))) .r) (ie (ac (((Z0b n).2) != ((Z0b n).2)) bne_iff_ne (fun hc2=>?_) (fun hc2=>?_)))))
 ·refine ar (ir 1 [(2,.b false)] (ie ?_))
  exact at_ (r2 [] [.b false] ⟨rfl,rfl⟩ (lb (absurd rfl hc2)))
 refine ak (aq (aD 5 (dtK (fuel:=3) 5 [0,1] (.n 41 (.agg [.val ((hdOf y2.dv).v),.val ((hdOf y2.rv).v)]) (.n 42 (Zh n) .r)) [3,6] [b3,b1] (do_ 2 (dc 2 [] [1] [b3] (Zdi n ob) ?_)))))
 rintro _ _ ⟨y4,rfl,rfl,hp4⟩
 have hnhp4:Z4m y4.er≤1000000000:=by rw [hp4];omega
 refine do_ 3 (dc 3 [3] [] [] (Z03h y2 y4 S1 M1 (by rw [ho1];symm;assumption) ob ob) ?_)
 rintro _ _ ⟨rfl,rfl⟩
 refine dtk (fuel:=0) 1 [4] (.n 45 (.b false) .r) (de (ac0 (ak (ar (irk 1 (.n 9 (.i 1) .r) (ie (ar (irK 2 (.n 46 (.agg [.val ((hdOf y2.dv).v),.val ((hdOf y2.rv).v)]) (.n 47 (.i 1) .r)) [4] [b3] (ic [0] (Zvf S1 M1 y2 1 ob ob ob) ?_)))))))))
 rintro _ _ ⟨rfl,rfl⟩
 refine irk 1 (.n 9 (.i ((1:Int)+((Z0c y2).length:Nat))) (.q 48 (.k (.k (.d .r))))) (ie (aq (ar (Z1t 8 [(1,.p b1 0),(4,.p b2 0),(5,.b ((Z0b n).2)),(7,.p b4 0),(8,.b ((Z0b n).2)),(56,.b (decide (((1:Int)+((Z0c y2).length:Nat))<0)))] [.own S1 (wr M1 (Z0c y2) 1),.many (Zz y4),.own S21 M21,.obj b4 [.val ((hdOf y3.dv).v),.val ((hdOf y3.rv).v)],.obj b3 [.val ((hdOf y2.dv).v),.val ((hdOf y2.rv).v)],.obj b2 (Zi ((Z0b n).1)),.many (Zz y1),.obj b1 (Zi n)] ?_ (fun hj1=>?_)))))
 ·refine Z2h [(1,.p b1 0),(4,.p b2 0),(5,.b ((Z0b n).2)),(7,.p b4 0),(61,.b ((decide (((1:Int)+((Z0c y2).length:Nat))<0))||(((Z0b n).2) != ((Z0b n).2))))] [.own S1 (wr M1 (Z0c y2) 1),.many (Zz y4),.own S21 M21,.obj b4 [.val ((hdOf y3.dv).v),.val ((hdOf y3.rv).v)],.obj b3 [.val ((hdOf y2.dv).v),.val ((hdOf y2.rv).v)],.obj b2 (Zi ((Z0b n).1)),.many (Zz y1),.obj b1 (Zi n)] ?_ ?_
  ·refine ir 1 [(1,.p b1 0),(4,.p b2 0),(5,.b ((Z0b n).2)),(7,.p b4 0),(8,.b ((Z0b n).2)),(57,.b (decide (((1:Int)+((Z0c y2).length:Nat))<0)))] (ib (b:=(decide (((1:Int)+((Z0c y2).length:Nat))<0))) 57 (fun hb1=>?_) (fun hb1=>?_))
   ·have hp5:((1:Int)+((Z0c y2).length:Nat))<0:=(decide_eq_true_iff).1 hb1
    refine irk 4 (.n 61 (.b true) (.d (.k (.k (.k (.k .z)))))) (ie ?_)
    exact wk [0,0,0,0,0,0,0,0] (fr (fr (fr (fr (fc (x:=.b true) (lb (by simp only [hb1];rfl)) fl)))))
   have hp6:¬(((1:Int)+((Z0c y2).length:Nat))<0):=Zj decide_eq_true_iff hb1
   refine irk 2 (.n 58 (.b ((Z0b n).2)) (.n 59 (.b ((Z0b n).2)) (.k (.k (.k (.k (.k .z))))))) (is_ (kBne ((Z0b n).2) ((Z0b n).2)) (irk 1 (.n 61 (.b (((Z0b n).2) != ((Z0b n).2))) .r) (ie ?_)))
   exact wk [0,0,0,0,0,0,0,0] (fr (fr (fr (fr (fc (x:=.b (((Z0b n).2) != ((Z0b n).2))) (lb (by simp only [hb1];rfl)) fl)))))
  refine ac ((decide (((1:Int)+((Z0c y2).length:Nat))<0))||(((Z0b n).2) != ((Z0b n).2))) (p:=(((1:Int)+((Z0c y2).length:Nat))<0)∨(((Z0b n).2)≠((Z0b n).2))) (Zf decide_eq_true_iff bne_iff_ne) (fun hc3=>?_) (fun hc3=>?_)
  ·refine ar (ir 1 [(2,.b false)] (ie ?_))
   exact at_ (r2 [] [.b false] ⟨rfl,rfl⟩ (lb (hc3.elim (fun q=>by omega) fun q=>absurd rfl q)))
  refine ak (ar (ir 1 [(1,.p b1 0),(4,.p b2 0),(5,.b ((Z0b n).2)),(7,.p b4 0),(10,.i 1)] (ie (ar (irK 2 (.n 62 (.agg [.val ((hdOf y3.dv).v),.val ((hdOf y3.rv).v)]) (.n 63 (.i 1) .r)) [3] [b4] (ic [2] (Zvf S21 M21 y3 1 ob ob ob) ?_))))))
  rintro _ _ ⟨rfl,rfl⟩
  refine irk 1 (.n 10 (.i ((1:Int)+((Z0c y3).length:Nat))) (.p (.d (.d (.k (.k (.k (.k .z)))))))) (ie (ar (irk 1 (.n 11 (.i 1) .r) (ie (ar (irK 2 (.n 65 (.agg [.val ((hdOf y3.dv).v),.val ((hdOf y3.rv).v)]) (.n 66 (.i 1) .r)) [3] [b4] (ic [0] (Zuk S21 (wr M21 (Z0c y3) 1) y3 1 (Zhd ((Kp.refl _).wr (Zem hg2) 1) hg2) ob (Zoi _ _ _ hg3) ob) ?_)))))))
  rintro _ _ ⟨rfl,rfl⟩
  refine irk 1 (.n 11 (.i ((1:Int)+((Z0c y3).length:Nat))) (.p (.d (.d (.d .r))))) (ie (aq (ar (irk 2 (.n 69 (.b (decide (((1:Int)+((Z0c y3).length:Nat))<0))) .r) (ie (ac (decide (((1:Int)+((Z0c y3).length:Nat))<0)) decide_eq_true_iff (fun hc4=>?_) (fun hc4=>?_)))))))
  ·refine ar (ir 1 [(2,.b false)] (ie ?_))
   exact at_ (r2 [] [.b false] ⟨rfl,rfl⟩ lb)
  refine ak (aq (ar (irk 3 (.n 72 (.b (((1:Int)+((Z0c y3).length:Nat)) != ((1:Int)+((Z0c y3).length:Nat)))) .r) (ie (ac (((1:Int)+((Z0c y3).length:Nat)) != ((1:Int)+((Z0c y3).length:Nat))) bne_iff_ne (fun hc5=>?_) (fun hc5=>?_))))))
  ·refine ar (ir 1 [(2,.b false)] (ie ?_))
   exact at_ (r2 [] [.b false] ⟨rfl,rfl⟩ lb)
  refine ak (ar (irK 1 (.n 74 (Zh n) .r) [7] [b1] (ic [] (Zdi n ob) ?_)))
  rintro _ _ ⟨y5,rfl,rfl,hp7⟩
  have hnhp7:Z4m y5.er≤1000000000:=by rw [hp7];omega
  refine ic [] (Zzf y5 n ob ob ob) ?_
  rintro _ _ ⟨y6,rfl,rfl,hp8⟩
  refine irk 3 (.n 77 (Z23 y6) (.n 78 (.b ((Z0b n).2)) .r)) (iA [.sl [] (some (.slice none 0 0)),.sl [] (some (.slice none 0 0))] ?_)
  intro b5
  refine iS 0 b5 0 (Z7w y6) [.sl [] (some (.slice none 0 0)),.sl [] (some (.slice none 0 0))] (Z7w y6) (irk 1 (.n 13 (.b ((Z0b n).2)) .r) (ie (aq (ar (irK 2 (.n 79 (Z23 y6) (.n 80 (Zh ((Z0b n).1)) .r)) [0,8] [b5,b2] (ic [] (Z03g y6 ((Z0b n).1) ob ob) ?_))))))
  rintro _ _ ⟨rfl,rfl⟩
  refine irk 4 (.n 83 (.b false) (.n 84 (.b ((Z0b n).2)) (.n 85 (.b ((Z0b n).2)) .r))) (is_ (kBne ((Z0b n).2) ((Z0b n).2)) (irk 1 (.n 87 (.b (((Z0b n).2) != ((Z0b n).2))) .r) (ie (ac (((Z0b n).2) != ((Z0b n).2)) bne_iff_ne (fun hc6=>?_) (fun hc6=>?_)))))
  ·refine ar (ir 1 [(2,.b false)] (ie ?_))
   exact at_ (r2 [] [.b false] ⟨rfl,rfl⟩ (lb (absurd rfl hc6)))
  refine ak (ar (ir 1 [(7,.p b4 0),(10,.i ((1:Int)+((Z0c y3).length:Nat))),(11,.i 1)] (ie (ar (irK 2 (.n 88 (.agg [.val ((hdOf y3.dv).v),.val ((hdOf y3.rv).v)]) (.n 89 (.i 1) .r)) [6] [b4] (ic [3] (Zuk S21 (wr M21 (Z0c y3) 1) y3 1 (Zhd ((Kp.refl _).wr (Zem hg2) 1) hg2) ob (Zoi _ _ _ hg3) ob) ?_))))))
  rintro _ _ ⟨rfl,rfl⟩
  refine irk 1 (.n 11 (.i ((1:Int)+((Z0c y3).length:Nat))) (.p (.d (.d (.d (.k .z)))))) (ie (aq (ar (irk 2 (.n 92 (.b (decide (((1:Int)+((Z0c y3).length:Nat))<0))) .r) (ie (ac (decide (((1:Int)+((Z0c y3).length:Nat))<0)) decide_eq_true_iff (fun hc7=>?_) (fun hc7=>?_)))))))
  ·refine ar (ir 1 [(2,.b false)] (ie ?_))
   exact at_ (r2 [] [.b false] ⟨rfl,rfl⟩ lb)
  refine ak (aq (ar (ir 3 [(95,.b (((1:Int)+((Z0c y3).length:Nat)) != ((1:Int)+((Z0c y3).length:Nat))))] (ie (ac (((1:Int)+((Z0c y3).length:Nat)) != ((1:Int)+((Z0c y3).length:Nat))) bne_iff_ne (fun hc8=>?_) (fun hc8=>?_))))))
  ·refine ar (ir 1 [(2,.b false)] (ie ?_))
   exact at_ (r2 [] [.b false] ⟨rfl,rfl⟩ lb)
  refine ak (ar (ir 1 [(2,.b true)] (ie ?_)))
  exact at_ (r1 [] ⟨rfl,rfl⟩)
 refine ir 3 [(1,.p b1 0),(4,.p b2 0),(5,.b ((Z0b n).2)),(7,.p b4 0),(8,.b ((Z0b n).2)),(51,.b (decide (((1:Int)+((Z0c y2).length:Nat))<0)))] (ib (b:=(decide (((1:Int)+((Z0c y2).length:Nat))<0))) 51 (fun hb2=>?_) (fun hb2=>?_))
 ·have hp9:((1:Int)+((Z0c y2).length:Nat))<0:=(decide_eq_true_iff).1 hb2
  refine irk 5 (.n 56 (.b true) (.d (.k (.k (.k (.k (.k .z))))))) ?_
  exact Z05 (wk [0,0,0,0,0,0,0,0] (fr (fr (fr (fr (fr (fc (x:=.b true) (lb (by simp only [hb2])) fl))))))) hj1
 have hp10:¬(((1:Int)+((Z0c y2).length:Nat))<0):=Zj decide_eq_true_iff hb2
 refine irK 2 (.n 52 (.agg [.val ((hdOf y3.dv).v),.val ((hdOf y3.rv).v)]) (.n 53 (Zh ((Z0b n).1)) (.k (.k (.k (.k (.k (.k .z)))))))) [3,5] [b4,b2] (ic [2] (Z00a y3 ((Z0b n).1) S21 M21 ob ob ob) ?_)
 rintro _ _ ⟨rfl,rfl⟩
 refine irk 2 (.n 56 (.b false) .r) ?_
 exact Z05 (wk [1,1,0,0,0,0,0,0] (fr (fr (fr (fr (fr (fc (x:=.b false) (lb (by simp only [hb2])) fl))))))) hj1
end Go.Abs
end
section
namespace Go.Proofs.YtjneabekegkopaaGreat.fnExactExpand
open Go.ChangeShapes Go.WideShapes Go.ChangeAt Go.RowKit Go.Abs
theorem own:ownKnob Tryz.prog.godebug=none:=by kernel_rfl
theorem kids:Kids Tryz.prog (·<Tryz.prog.types.size):=kids_rows kr kr
theorem full:∀t e,t<Tryz.prog.types.size→Tryz.prog.underlying t=some (.slice e)→0<Tryz.prog.cellsOf e:=slices_full_of Tryz.prog kr
theorem Z024 {v:Value} (h:v.cells.toList.length=2):v=.agg v.cells:=by
 cases v<;>first|rfl|(simp [Value.cells] at h)
theorem Zw4 {w w':World} {G G':Prot} {h':List Res} (hx:Ext w G [] w' G' h'):∀b,b<w.heap.size→w'.heap[b]? = w.heap[b]?:=
 fun b hb=>(hx.same b hb).eq fun o ⟨r,hr,_⟩=>by cases hr
theorem Ztl {w w':World} {b o:Nat} (h:w'.heap[b]? = w.heap[b]?):w'.cell? ⟨b,o,none⟩=w.cell? ⟨b,o,none⟩:=by simp [World.cell?,h]
theorem Z00u {t:Nat} (h:Nat.blt t Tryz.prog.types.size=true):t<Tryz.prog.types.size:=Nat.le_of_ble_eq_true h
theorem Zxj (H:Type) (enc:TypeId × Value→H) (W:World) (base:Nat) (args:Array Value) (ds gs:List (DataW H)) (before:List MemPlace) (hkb:Rows.uptoSmall H (ds++gs)=true)
  (hW:DataW.Whole enc Tryz.prog Tryz.f3.params.toList Rows.fnExactExpandSpec.vars false W args.toList ds gs before) :
  Calls Tryz.prog 3 args W fun e W'=>∃v,e=.returned v∧Rows.fnExactExpandSpec.post enc Tryz.prog Tryz.f3 false true false false W args v W':=by
 have hW':=hW
 obtain ⟨p,q,hA0,hV,rfl,hfz,hnd⟩:=hW
 have hA:DataW.TrodAll enc Tryz.prog W 0 (fun _=>true) true Tryz.f3.params.toList args.toList ds p:=hA0
 rw [Tryz.params3] at hA
 obtain ⟨v0,vs0,d0,ds0,p0,q0,hargs,rfl,rfl,h0,r0⟩:=trodAll_cons hA
 obtain ⟨rfl,rfl,rfl⟩:=trodAll_nil r0
 obtain rfl:args=#[v0]:=by cases args;simp_all
 obtain ⟨rfl,rfl⟩:=trodVars_none hV
 obtain ⟨fuel,htr⟩:=h0
 obtain ⟨a,hrc,hsz,hrg⟩:=Zvv htr
 have hb:Rows.uptoBulkAll ([d0]++[])≤1048576:=of_decide_eq_true hkb
 simp only [List.append_nil,Rows.uptoBulkAll] at hb
 have hsz:Z4m a≤Rows.uptoBulk d0:=hsz
 have hv0:v0=.agg v0.cells:=Z024 (by rw [hrc.length];rfl)
 have hrv:RV W (GA W) (Zh a) v0:=by
  rw [hv0]
  have:=RV.agg hrc
  simpa using this
 have hh:HOk W (GA W) []:=⟨(fun r hr=>by cases hr),List.Pairwise.nil,(fun r hr=>by cases hr),fun b o hg=>hg⟩
 refine (Zru a om hrg W (GA W) [v0] (.cons hrv .nil) hh).mono ?_
 rintro e W' ⟨v,r,h',G',rfl,⟨rfl,rfl⟩,hv,hh',hx⟩
 have hvb:=hv.val_inv
 subst hvb
 refine ⟨_,rfl,[d0],[],p0++[]++[],[],p0++[],[],hW',?_,?_,rfl,?_,(fun h=>by cases h)⟩
 ·exact trodAll_cons_mk (shut_bool Tryz.underlying4 _) trodAll_mk0
 ·have hold:∀b,b<W.heap.size→W'.heap[b]? = W.heap[b]?:=Zw4 hx
  have hlt:=hW'.lt
  have hcar:DataW.TrodAll enc Tryz.prog W' 0 (fun _=>true) true Tryz.f3.params.toList [v0] [d0] (p0++[]):=by
   rw [Tryz.params3]
   refine ⟨p0,[],⟨fuel,DataW.trod_carry fuel 25 _ _ htr fun y hy=>?_⟩,rfl,rfl⟩
   have hyl:=hlt y (by simpa using hy)
   cases y with
   | cell b o=>exact Ztl (hold b hyl)
   | map b=>exact hold b hyl
  exact DataW.TrodAll.respare kids full (by rw [Tryz.params3];intro t ht;rw [List.mem_singleton.1 ht];exact Z00u kr) hcar (fun y hy=>by have:=hlt y (by simpa using hy);simpa using this)
 ·refine ⟨hx.os,hx.output,fun i hi=>?_⟩
  rw [Zw4 hx i hi]
  cases W.heap[i]? with
  | none=>rfl
  | some o=>cases o<;>first | rfl | exact ⟨rfl,rfl,rfl,fun _ _=>rfl⟩ | exact .inr ⟨rfl,rfl⟩
set_option maxRecDepth 100000 in
theorem Z02s (os:Os) (started:os.Started) (H:Type) (enc:TypeId × Value→H) (F:Stop.Interp) :
  ReturnsInHanded {} Tryz.checked os 3 .any ((Rows.OpenSpec.upto Rows.fnExactExpandSpec).pre6 enc Tryz.prog Tryz.f3 Rows.fnExactExpandUptoRow.domain false) (((Rows.OpenSpec.upto Rows.fnExactExpandSpec).at F).post enc Tryz.prog Tryz.f3 false true false false):=by
 refine returnsInHanded_of_cond (C:=Tryz.checked) (s:=Rows.OpenSpec.upto Rows.fnExactExpandSpec) (k:=Rows.uptoSmall) rfl own started kr Tryz.func3
  (OpenSpec.witness (enc:=enc) (C:=Tryz.checked) (s:=Rows.OpenSpec.upto Rows.fnExactExpandSpec) (k:=Rows.uptoSmall) rfl false ⟨#[],#[.agg #[.slice none 0 0,.slice none 0 0]],[]⟩ 8 kr kr kr
   (x:=([.agg [.nil,.nil]],[],[])) kr rfl kr) ?_
 intro W base args ds gs before hval hW _ hk _
 exact Zxj H enc W base args ds gs before hk hW
theorem over:Rows.fnExactExpandUptoRow.holds Tryz.pinned (Rows.OpenSpec.upto Rows.fnExactExpandSpec):=
 OpenClaim.holds_of_cond 3 Tryz.f3 rfl rfl rfl rfl rfl rfl rfl ⟨rfl,rfl,rfl,rfl,rfl⟩ rfl rfl rfl rfl rfl kr Tryz.func3 kr
  (of_decide_eq_true kr) (by unfold Func.isWrapper;first|(rw [if_pos (by decide +kernel)];kernel_rfl)|(rw [if_neg (by decide +kernel)];exact ⟨rfl,rfl⟩))
  (fun os started H enc _ F=>Z02s os started H enc F)
theorem proved:Rows.FnExactExpandUptoSaid:=
 over
#print axioms proved
end Go.Proofs.YtjneabekegkopaaGreat.fnExactExpand
end
