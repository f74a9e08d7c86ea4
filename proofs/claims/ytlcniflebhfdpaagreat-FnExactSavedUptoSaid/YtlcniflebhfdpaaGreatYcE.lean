/-
  A part of the proofs of several laws (see the last file): no condition.
-/
import Derived.Test.YtlcniflebhfdpaaGreatYcD
set_option linter.all false
set_option linter.unusedVariables false
set_option linter.unusedSimpArgs false
set_option linter.unusedSectionVars false
set_option maxRecDepth 10000
set_option maxHeartbeats 4000000
namespace Go.Abs
open Go.Proofs
theorem Fb (S:List Nat) (M:Yo) (v:Value) (xs:LI) (q:Int) (hd:Wm S v xs.length:=by exact ob) (hs:TQ M (Z3 v) xs.length:=by exact ob) (hq:0<=q/\q+((ZA (Z3 v) 0 xs.length).length:Nat)<=4000000000000:=by exact ob):Za 107 [.val v,.i q] [.own S M] (fun r h=>r=.i (q+((ZA (Z3 v) 0 xs.length).length:Nat))/\h=[.own S (wr M (ZA (Z3 v) 0 xs.length) q)]):=by
 have hal:=AU (Z3 v) xs.length 0
 refine Zx 19 Tryz.func107 (Zh (Ym (ab 0 (ZU (fun fz gz m F h=>∃(k:Nat) (z:Int) (N:Yo),(k<=xs.length)/\(0<=z)/\(z+((ZA (Z3 v) k (xs.length-k)).length:Nat)=q+((ZA (Z3 v) 0 xs.length).length:Nat))/\(Kp M N)/\(wr N (ZA (Z3 v) k (xs.length-k)) z=wr M (ZA (Z3 v) 0 xs.length) q)/\F=sF [0] fz [(1,.i z),(5,.i k)]/\h=[.own S N]/\m=xs.length-k) _ _ _ ⟨0,q,M,ob,ob,(by simp),(Kp.refl M),(by simp),rfl,rfl,rfl⟩ (wk [0] (fr (ZW fl))) ?_))))
 rintro m F h ⟨k,z,N,Y0,Z9,Zz,Y8,XG,rfl,rfl,rfl⟩
 refine Yb 2 (Zi (Ki S v xs.length hd) (ZO ((k:Int)<(xs.length:Int)) (fun Z5=>?_) (fun Z5=>?_)))
 ·have hb:=hd.blk (i:=k) om
  have hdr:=M5 (Z3 v) xs.length k om
  have hl0:(ZA (Z3 v) k (xs.length-k)).length=(ZA (Z3 v) (k+1) (xs.length-(k+1))).length+1:=by rw [hdr];rfl
  have hsk:=hs k om
  rw [<-UO k] at hsk
  have kp:=Y8
  have i0:=kp.i hsk
  refine ak (aq (ab 1 (ZM 3 (Zi (WK S v xs.length k 1 (k:Int) hd) (JI 0 S N (Z3 v) (k*1) z hb.1 i0 ?_)))))
  have kp:=kp.upd hsk z
  exact ie (az (Z1 1 (ia ((z+1)) ((z)+(1)) (Z0 (az (Z1 1 (ZK k (Z0 (ZJ ⟨k+1,(z+1),upd N (Z3 v,k*1) z,ob,ob,ob,kp,(by rw [<-XG,hdr,wr,UO]),rfl,rfl,rfl⟩ (wk [0] (fr (ZL k fl))))))))))))
 have he:ZA (Z3 v) k (xs.length-k)=[]:=by rw [show xs.length-k=0 by omega];rfl
 rw [he,Vy] at Zz
 rw [he,wr] at XG
 exact ax 0 (ar (Z8 (r2 [0] [.i z] ⟨rfl,rfl⟩ li (eq:=(Be (m:=N) XG rz)))))
theorem Z97 (S:List Nat) (M:Yo) (v:Value) (xs:List X3) (q:Int) (hl:xs.length<=4000000000000:=by exact ob) (hd:Wm S v xs.length:=by exact ob) (hs:KS M S (Z3 v) 0 xs:=by exact ob) (hq:0<=q/\q+((WW xs).length:Nat)<=4000000000000:=by exact ob):Za 106 [.val v,.i q] [.own S M] (fun r h=>r=.i (q+((WW xs).length:Nat))/\h=[.own S (wr M (WW xs) q)]):=by
 refine Zx 20 Tryz.func106 (Zh (Ym (ab 0 (ZU (fun fz gz m F h=>∃(k:Nat) (z:Int) (N:Yo),(k<=xs.length)/\(0<=z)/\(z+((WW (xs.drop k)).length:Nat)=q+((WW xs).length:Nat))/\(Kp M N)/\(wr N (WW (xs.drop k)) z=wr M (WW xs) q)/\F=sF [0] fz [(1,.i z),(5,.i k)]/\h=[.own S N]/\m=xs.length-k) _ _ _ ⟨0,q,M,ob,ob,(by simp),(Kp.refl M),(by simp),rfl,rfl,rfl⟩ (wk [0] (fr (ZW fl))) ?_))))
 rintro m F h ⟨k,z,N,Y0,Z9,Zz,Y8,XG,rfl,rfl,rfl⟩
 refine Yb 2 (Zi (Ki S v xs.length hd) (ZO ((k:Int)<(xs.length:Int)) (fun Z5=>?_) (fun Z5=>?_)))
 ·have hb:=hd.blk (i:=k) om
  obtain ⟨x1,Z2⟩:=Zv xs k om
  have e1:=IY hs Z2
  rw [Vk] at e1
  obtain ⟨⟨a0,d0⟩,s0⟩:=e1
  rw [<-UO k] at a0
  have hdr:=LY Z2
  have hln:(DX x1).length=(ZA (Z3 x1.fv) 0 x1.fields.length).length:=rfl
  have hl0:=Ys List.length hdr
  rw [YE,hln] at hl0
  have kp:=Y8
  refine ak (aq (ab 1 (az (Z1 2 (Zi (WK S v xs.length k 1 (k:Int) hd) (Z1 1 ?_))))))
  have t0:TQ N (Z3 x1.fv) x1.fields.length:=fun i hi=>kp.i (s0 i hi)
  refine Xx (VX 0 S N (Z3 v) (k*1) x1.fv hb.1 (kp.h a0 d0.ni)) (Z1 1 (ZC [0] (Fb S N x1.fv x1.fields z) ?_))
  have kp:=kp.wr (Ab s0) z
  exact Z0 (az (Z1 1 (ZK k (Z0 (ZJ ⟨k+1,(z+((ZA (Z3 x1.fv) 0 x1.fields.length).length:Nat)),(wr N (ZA (Z3 x1.fv) 0 x1.fields.length) z),ob,ob,ob,kp,(DI XG hdr rfl om),rfl,rfl,rfl⟩ (wk [0] (fr (ZL k fl))))))))
 have he:(WW (xs.drop k))=[]:=by rw [QU om];rfl
 rw [he,Vy] at Zz
 rw [he,wr] at XG
 exact ax 0 (ar (Z8 (r2 [0] [.i z] ⟨rfl,rfl⟩ li (eq:=(Be (m:=N) XG rz)))))
theorem Z98 (S:List Nat) (M:Yo) (v:Value) (xs:List YP) (q:Int) (hl:∀d∈xs,d.cons.length<=4000000000000) (hd:Wm S v xs.length:=by exact ob) (hs:Jf M S (Z3 v) 0 xs:=by exact ob) (hq:0<=q/\q+((Wn (Z3 v) 0 xs).length:Nat)<=4000000000000:=by exact ob):Za 53 [.val v,.i q] [.own S M] (fun r h=>r=.i (q+((Wn (Z3 v) 0 xs).length:Nat))/\h=[.own S (wr M (Wn (Z3 v) 0 xs) q)]):=by
 have hal:=Gf (g:=Z3 v) (o:=0) (ds:=xs)
 refine Zx 34 Tryz.func53 (Zh (Ym (ab 0 (ZU (fun fz gz m F h=>∃(k:Nat) (z:Int) (N:Yo),(k<=xs.length)/\(0<=z)/\(z+((Wn (Z3 v) (k*3) (xs.drop k)).length:Nat)=q+((Wn (Z3 v) 0 xs).length:Nat))/\(Kp M N)/\(wr N (Wn (Z3 v) (k*3) (xs.drop k)) z=wr M (Wn (Z3 v) 0 xs) q)/\F=sF [0] fz [(1,.i z),(5,.i k)]/\h=[.own S N]/\m=xs.length-k) _ _ _ ⟨0,q,M,ob,ob,(by simp),(Kp.refl M),(by simp),rfl,rfl,rfl⟩ (wk [0] (fr (ZW fl))) ?_))))
 rintro m F h ⟨k,z,N,Y0,Z9,Zz,Y8,XG,rfl,rfl,rfl⟩
 refine Yb 2 (Zi (Ki S v xs.length hd) (ZO ((k:Int)<(xs.length:Int)) (fun Z5=>?_) (fun Z5=>?_)))
 ·have hb:=hd.blk (i:=k) om
  obtain ⟨x1,Z2⟩:=Zv xs k om
  have e1:=L4 hs Z2
  rw [Vk] at e1
  obtain ⟨i0,i1,⟨a2,d2⟩,s2⟩:=e1
  have hdr:=M3 (g:=Z3 v) Z2
  have hl1:=hl x1 (YF Z2)
  have hln:=F4 (g:=Z3 v) (o:=k*3) (d:=x1)
  have hl0:=Ys List.length hdr
  rw [YE,hln] at hl0
  have kp:=Y8
  refine ak (aq (ab 1 (ZM 3 (Zi (WK S v xs.length k 3 (k:Int) hd) (Z1 1 (JI 0 S N (Z3 v) (k*3) z hb.1 (kp.i i0) ?_))))))
  have kp:=kp.upd i0 z
  refine ie (ZM 1 (ia ((z+1)) ((z)+(1)) (Z0 (ZM 3 (Zi (WK S v xs.length k 3 (k:Int) hd) (Z1 1 (JI 0 S (upd N (Z3 v,k*3) z) (Z3 v) (k*3+1) (z+1) hb.1 (kp.i i1) ?_)))))))
  have kp:=kp.upd i1 (z+1)
  refine ie (ZM 1 (ia (((z+1)+1)) (((z+1))+(1)) (Z0 (az (Z1 2 (Zi (WK S v xs.length k 3 (k:Int) hd) (Z1 1 ?_)))))))
  have t2:KS (upd (upd N (Z3 v,k*3) z) (Z3 v,k*3+1) (z+1)) S (Z3 x1.cv) 0 x1.cons:=IZ kp s2
  refine Xx (VX 0 S (upd (upd N (Z3 v,k*3) z) (Z3 v,k*3+1) (z+1)) (Z3 v) (k*3+2) x1.cv hb.1 (kp.h a2 d2.ni)) (Z1 1 (ZC [0] (Z97 S (upd (upd N (Z3 v,k*3) z) (Z3 v,k*3+1) (z+1)) x1.cv x1.cons ((z+1)+1)) ?_))
  have kp:=kp.wr (Ge s2) ((z+1)+1)
  exact Z0 (az (Z1 1 (ZK k (Z0 (ZJ ⟨k+1,(((z+1)+1)+((WW x1.cons).length:Nat)),(wr (upd (upd N (Z3 v,k*3) z) (Z3 v,k*3+1) (z+1)) (WW x1.cons) ((z+1)+1)),ob,ob,ob,kp,(DI XG hdr Zfm om),rfl,rfl,rfl⟩ (wk [0] (fr (ZL k fl))))))))
 have he:(Wn (Z3 v) (k*3) (xs.drop k))=[]:=by rw [QU om];rfl
 rw [he,Vy] at Zz
 rw [he,wr] at XG
 exact ax 0 (ar (Z8 (r2 [0] [.i z] ⟨rfl,rfl⟩ li (eq:=(Be (m:=N) XG rz)))))
theorem Z9c (S:List Nat) (M:Yo) (v:Value) (xs:List ZX) (q:Int) (ih:∀(S:List Nat) (M:Yo) (v:Value) (ys:List ZV) (q:Int),(SizeOf.sizeOf ys<SizeOf.sizeOf xs)->(Wm S v ys.length)->(Ua M S (Z3 v) 0 ys)->(0<=q/\q+((Xj (Z3 v) 0 ys).length:Nat)<=4000000000000)->Za 167 [.val v,.i q] [.own S M] (fun r h=>r=.i (q+((Xj (Z3 v) 0 ys).length:Nat))/\h=[.own S (wr M (Xj (Z3 v) 0 ys) q)])) (hd:Wm S v xs.length) (hs:Vx M S (Z3 v) 0 xs) (hq:0<=q/\q+((Yi (Z3 v) 0 xs).length:Nat)<=4000000000000):Za 108 [.val v,.i q] [.own S M] (fun r h=>r=.i (q+((Yi (Z3 v) 0 xs).length:Nat))/\h=[.own S (wr M (Yi (Z3 v) 0 xs) q)]):=by
 have hal:=Gk (g:=Z3 v) (o:=0) (xs:=xs)
 refine Zx 48 Tryz.func108 (Zh (Ym (ab 0 (ZU (fun fz gz m F h=>∃(k:Nat) (z:Int) (N:Yo),(k<=xs.length)/\(0<=z)/\(z+((Yi (Z3 v) (k*5) (xs.drop k)).length:Nat)=q+((Yi (Z3 v) 0 xs).length:Nat))/\(Kp M N)/\(wr N (Yi (Z3 v) (k*5) (xs.drop k)) z=wr M (Yi (Z3 v) 0 xs) q)/\F=sF [0] fz [(1,.i z),(5,.i k)]/\h=[.own S N]/\m=xs.length-k) _ _ _ ⟨0,q,M,ob,ob,(by simp),(Kp.refl M),(by simp),rfl,rfl,rfl⟩ (wk [0] (fr (ZW fl))) ?_))))
 rintro m F h ⟨k,z,N,Y0,Z9,Zz,Y8,XG,rfl,rfl,rfl⟩
 refine Yb 2 (Zi (Ki S v xs.length hd) (ZO ((k:Int)<(xs.length:Int)) (fun Z5=>?_) (fun Z5=>?_)))
 ·have hb:=hd.blk (i:=k) om
  obtain ⟨x1,Z2⟩:=Zv xs k om
  have e1:=L7 hs Z2
  rw [Vk] at e1
  rw [RI] at e1
  have hz:SizeOf.sizeOf x1.kids<SizeOf.sizeOf xs:=O4 Z2
  obtain ⟨⟨i0,i1,i2⟩,⟨⟨a3,d3⟩,s3⟩,⟨⟨a4,d4⟩,s4⟩⟩:=e1
  have hdr:=Me (g:=Z3 v) Z2
  have hln:=I2 (g:=Z3 v) (o:=k*5) (s:=x1)
  have hl0:=Ys List.length hdr
  rw [YE,hln] at hl0
  have kp:=Y8
  refine ak (aq (ab 1 (ZM 3 (Zi (WK S v xs.length k 5 (k:Int) hd) (Z1 1 (JI 0 S N (Z3 v) (k*5) z hb.1 (kp.i i0) ?_))))))
  have kp:=kp.upd i0 z
  refine ie (ZM 1 (ia ((z+1)) ((z)+(1)) (Z0 (ZM 3 (Zi (WK S v xs.length k 5 (k:Int) hd) (Z1 1 (JI 0 S (upd N (Z3 v,k*5) z) (Z3 v) (k*5+1) (z+1) hb.1 (kp.i i1) ?_)))))))
  have kp:=kp.upd i1 (z+1)
  refine ie (ZM 1 (ia (((z+1)+1)) (((z+1))+(1)) (Z0 (ZM 3 (Zi (WK S v xs.length k 5 (k:Int) hd) (Z1 1 (JI 0 S (upd (upd N (Z3 v,k*5) z) (Z3 v,k*5+1) (z+1)) (Z3 v) (k*5+2) ((z+1)+1) hb.1 (kp.i i2) ?_)))))))
  have kp:=kp.upd i2 ((z+1)+1)
  refine ie (ZM 1 (ia ((((z+1)+1)+1)) ((((z+1)+1))+(1)) (Z0 (ZM 2 (Zi (WK S v xs.length k 5 (k:Int) hd) (Z1 1 ?_))))))
  have t3:TQ (upd (upd (upd N (Z3 v,k*5) z) (Z3 v,k*5+1) (z+1)) (Z3 v,k*5+2) ((z+1)+1)) (Z3 x1.av) x1.args.length:=fun i hi=>kp.i (s3 i hi)
  refine Xx (VX 0 S (upd (upd (upd N (Z3 v,k*5) z) (Z3 v,k*5+1) (z+1)) (Z3 v,k*5+2) ((z+1)+1)) (Z3 v) (k*5+3) x1.av hb.1 (kp.h a3 d3.ni)) (Z1 1 (ZC [0] (Fb S (upd (upd (upd N (Z3 v,k*5) z) (Z3 v,k*5+1) (z+1)) (Z3 v,k*5+2) ((z+1)+1)) x1.av x1.args (((z+1)+1)+1)) ?_))
  have kp:=kp.wr (Ab s3) (((z+1)+1)+1)
  refine Z0 (az (Z1 2 (Zi (WK S v xs.length k 5 (k:Int) hd) (Z1 1 ?_))))
  have t4:Ua (wr (upd (upd (upd N (Z3 v,k*5) z) (Z3 v,k*5+1) (z+1)) (Z3 v,k*5+2) ((z+1)+1)) (ZA (Z3 x1.av) 0 x1.args.length) (((z+1)+1)+1)) S (Z3 x1.kv) 0 x1.kids:=IW kp s4
  refine Xx (VX 0 S (wr (upd (upd (upd N (Z3 v,k*5) z) (Z3 v,k*5+1) (z+1)) (Z3 v,k*5+2) ((z+1)+1)) (ZA (Z3 x1.av) 0 x1.args.length) (((z+1)+1)+1)) (Z3 v) (k*5+4) x1.kv hb.1 (kp.h a4 d4.ni)) (Z1 1 (ZC [0] (ih S (wr (upd (upd (upd N (Z3 v,k*5) z) (Z3 v,k*5+1) (z+1)) (Z3 v,k*5+2) ((z+1)+1)) (ZA (Z3 x1.av) 0 x1.args.length) (((z+1)+1)+1)) x1.kv x1.kids ((((z+1)+1)+1)+((ZA (Z3 x1.av) 0 x1.args.length).length:Nat)) ob ob ob ob) ?_))
  have kp:=kp.wr (Gd s4) ((((z+1)+1)+1)+((ZA (Z3 x1.av) 0 x1.args.length).length:Nat))
  exact Z0 (az (Z1 1 (ZK k (Z0 (ZJ ⟨k+1,(((((z+1)+1)+1)+((ZA (Z3 x1.av) 0 x1.args.length).length:Nat))+((Xj (Z3 x1.kv) 0 x1.kids).length:Nat)),(wr (wr (upd (upd (upd N (Z3 v,k*5) z) (Z3 v,k*5+1) (z+1)) (Z3 v,k*5+2) ((z+1)+1)) (ZA (Z3 x1.av) 0 x1.args.length) (((z+1)+1)+1)) (Xj (Z3 x1.kv) 0 x1.kids) ((((z+1)+1)+1)+((ZA (Z3 x1.av) 0 x1.args.length).length:Nat))),ob,ob,ob,kp,(DI XG hdr Zfp om),rfl,rfl,rfl⟩ (wk [0] (fr (ZL k fl))))))))
 have he:(Yi (Z3 v) (k*5) (xs.drop k))=[]:=by rw [QU om,Yi]
 rw [he,Vy] at Zz
 rw [he,wr] at XG
 exact ax 0 (ar (Z8 (r2 [0] [.i z] ⟨rfl,rfl⟩ li (eq:=(Be (m:=N) XG rz)))))
theorem Z96 (S:List Nat) (M:Yo) (v:Value) (xs:List ZV) (q:Int) (ih:∀(S:List Nat) (M:Yo) (v:Value) (ys:List ZX) (q:Int),(SizeOf.sizeOf ys<SizeOf.sizeOf xs)->(Wm S v ys.length)->(Vx M S (Z3 v) 0 ys)->(0<=q/\q+((Yi (Z3 v) 0 ys).length:Nat)<=4000000000000)->Za 108 [.val v,.i q] [.own S M] (fun r h=>r=.i (q+((Yi (Z3 v) 0 ys).length:Nat))/\h=[.own S (wr M (Yi (Z3 v) 0 ys) q)])) (hd:Wm S v xs.length) (hs:Ua M S (Z3 v) 0 xs) (hq:0<=q/\q+((Xj (Z3 v) 0 xs).length:Nat)<=4000000000000):Za 167 [.val v,.i q] [.own S M] (fun r h=>r=.i (q+((Xj (Z3 v) 0 xs).length:Nat))/\h=[.own S (wr M (Xj (Z3 v) 0 xs) q)]):=by
 have hal:=Gc (g:=Z3 v) (o:=0) (xs:=xs)
 refine Zx 27 Tryz.func167 (Zh (Ym (ab 0 (ZU (fun fz gz m F h=>∃(k:Nat) (z:Int) (N:Yo),(k<=xs.length)/\(0<=z)/\(z+((Xj (Z3 v) (k*2) (xs.drop k)).length:Nat)=q+((Xj (Z3 v) 0 xs).length:Nat))/\(Kp M N)/\(wr N (Xj (Z3 v) (k*2) (xs.drop k)) z=wr M (Xj (Z3 v) 0 xs) q)/\F=sF [0] fz [(1,.i z),(5,.i k)]/\h=[.own S N]/\m=xs.length-k) _ _ _ ⟨0,q,M,ob,ob,(by simp),(Kp.refl M),(by simp),rfl,rfl,rfl⟩ (wk [0] (fr (ZW fl))) ?_))))
 rintro m F h ⟨k,z,N,Y0,Z9,Zz,Y8,XG,rfl,rfl,rfl⟩
 refine Yb 2 (Zi (Ki S v xs.length hd) (ZO ((k:Int)<(xs.length:Int)) (fun Z5=>?_) (fun Z5=>?_)))
 ·have hb:=hd.blk (i:=k) om
  obtain ⟨x1,Z2⟩:=Zv xs k om
  have e1:=IV hs Z2
  rw [Vk] at e1
  rw [RE] at e1
  have hz:SizeOf.sizeOf x1.steps<SizeOf.sizeOf xs:=O5 Z2
  obtain ⟨⟨⟨a0,d0⟩,s0⟩,i1⟩:=e1
  have hdr:=LU (g:=Z3 v) Z2
  have hln:=I0 (g:=Z3 v) (o:=k*2) (b:=x1)
  have hl0:=Ys List.length hdr
  rw [YE,hln] at hl0
  have kp:=Y8
  refine ak (aq (ab 1 (ZM 2 (Zi (WK S v xs.length k 2 (k:Int) hd) (Z1 1 ?_)))))
  have t0:Vx N S (Z3 x1.sv) 0 x1.steps:=Dt kp s0
  refine Xx (VX 0 S N (Z3 v) (k*2) x1.sv hb.1 (kp.h a0 d0.ni)) (Z1 1 (ZC [0] (ih S N x1.sv x1.steps z ob ob ob ob) ?_))
  have kp:=kp.wr (Cv s0) z
  refine Z0 (ZM 3 (Zi (WK S v xs.length k 2 (k:Int) hd) (Z1 1 (JI 0 S (wr N (Yi (Z3 x1.sv) 0 x1.steps) z) (Z3 v) (k*2+1) (z+((Yi (Z3 x1.sv) 0 x1.steps).length:Nat)) hb.1 (kp.i i1) ?_))))
  have kp:=kp.upd i1 (z+((Yi (Z3 x1.sv) 0 x1.steps).length:Nat))
  exact ie (az (Z1 1 (ia (((z+((Yi (Z3 x1.sv) 0 x1.steps).length:Nat))+1)) (((z+((Yi (Z3 x1.sv) 0 x1.steps).length:Nat)))+(1)) (Z0 (az (Z1 1 (ZK k (Z0 (ZJ ⟨k+1,((z+((Yi (Z3 x1.sv) 0 x1.steps).length:Nat))+1),upd (wr N (Yi (Z3 x1.sv) 0 x1.steps) z) (Z3 v,k*2+1) (z+((Yi (Z3 x1.sv) 0 x1.steps).length:Nat)),ob,ob,ob,kp,(DI XG hdr Zfl om),rfl,rfl,rfl⟩ (wk [0] (fr (ZL k fl))))))))))))
 have he:(Xj (Z3 v) (k*2) (xs.drop k))=[]:=by rw [QU om,Xj]
 rw [he,Vy] at Zz
 rw [he,wr] at XG
 exact ax 0 (ar (Z8 (r2 [0] [.i z] ⟨rfl,rfl⟩ li (eq:=(Be (m:=N) XG rz)))))
theorem Z9d (n:Nat):(∀(S:List Nat) (M:Yo) (v:Value) (xs:List ZX) (q:Int),(SizeOf.sizeOf xs<n)->(Wm S v xs.length)->(Vx M S (Z3 v) 0 xs)->(0<=q/\q+((Yi (Z3 v) 0 xs).length:Nat)<=4000000000000)->Za 108 [.val v,.i q] [.own S M] (fun r h=>r=.i (q+((Yi (Z3 v) 0 xs).length:Nat))/\h=[.own S (wr M (Yi (Z3 v) 0 xs) q)]))/\(∀(S:List Nat) (M:Yo) (v:Value) (xs:List ZV) (q:Int),(SizeOf.sizeOf xs<n)->(Wm S v xs.length)->(Ua M S (Z3 v) 0 xs)->(0<=q/\q+((Xj (Z3 v) 0 xs).length:Nat)<=4000000000000)->Za 167 [.val v,.i q] [.own S M] (fun r h=>r=.i (q+((Xj (Z3 v) 0 xs).length:Nat))/\h=[.own S (wr M (Xj (Z3 v) 0 xs) q)])):=by
 induction n with
 | zero=>exact ⟨fun _ _ _ _ _ h=>by omega,fun _ _ _ _ _ h=>by omega⟩
 | succ n ih=>
  obtain ⟨i1,i2⟩:=ih
  exact ⟨fun S M v xs q hz h3 h4 h9=>Z9c S M v xs q (fun S M v ys q hz2 h3 h4 h9=>i2 S M v ys q om h3 h4 h9) h3 h4 h9,fun S M v xs q hz h3 h4 h9=>Z96 S M v xs q (fun S M v ys q hz2 h3 h4 h9=>i1 S M v ys q om h3 h4 h9) h3 h4 h9⟩
theorem Z9b (S:List Nat) (M:Yo) (v:Value) (xs:List ZX) (q:Int) (hd:Wm S v xs.length:=by exact ob) (hs:Vx M S (Z3 v) 0 xs:=by exact ob) (hq:0<=q/\q+((Yi (Z3 v) 0 xs).length:Nat)<=4000000000000:=by exact ob):Za 108 [.val v,.i q] [.own S M] (fun r h=>r=.i (q+((Yi (Z3 v) 0 xs).length:Nat))/\h=[.own S (wr M (Yi (Z3 v) 0 xs) q)]):=(Z9d (SizeOf.sizeOf xs+1)).1 S M v xs q om hd hs hq
theorem Z9a (S:List Nat) (M:Yo) (v:Value) (xs:List YQ) (q:Int) (hd:Wm S v xs.length:=by exact ob) (hs:Jg M S (Z3 v) 0 xs:=by exact ob) (hq:0<=q/\q+((WP (Z3 v) 0 xs).length:Nat)<=4000000000000:=by exact ob):Za 54 [.val v,.i q] [.own S M] (fun r h=>r=.i (q+((WP (Z3 v) 0 xs).length:Nat))/\h=[.own S (wr M (WP (Z3 v) 0 xs) q)]):=by
 have hal:=Gh (g:=Z3 v) (o:=0) (xs:=xs)
 refine Zx 50 Tryz.func54 (Zh (Ym (ab 0 (ZU (fun fz gz m F h=>∃(k:Nat) (z:Int) (N:Yo),(k<=xs.length)/\(0<=z)/\(z+((WP (Z3 v) (k*5) (xs.drop k)).length:Nat)=q+((WP (Z3 v) 0 xs).length:Nat))/\(Kp M N)/\(wr N (WP (Z3 v) (k*5) (xs.drop k)) z=wr M (WP (Z3 v) 0 xs) q)/\F=sF [0] fz [(1,.i z),(5,.i k)]/\h=[.own S N]/\m=xs.length-k) _ _ _ ⟨0,q,M,ob,ob,(by simp),(Kp.refl M),(by simp),rfl,rfl,rfl⟩ (wk [0] (fr (ZW fl))) ?_))))
 rintro m F h ⟨k,z,N,Y0,Z9,Zz,Y8,XG,rfl,rfl,rfl⟩
 refine Yb 2 (Zi (Ki S v xs.length hd) (ZO ((k:Int)<(xs.length:Int)) (fun Z5=>?_) (fun Z5=>?_)))
 ·have hb:=hd.blk (i:=k) om
  obtain ⟨x1,Z2⟩:=Zv xs k om
  have e1:=L5 hs Z2
  rw [Vk] at e1
  obtain ⟨⟨⟨a0,d0⟩,s0⟩,⟨⟨a1,d1⟩,s1⟩,i2,⟨⟨a3,d3⟩,s3⟩,i4⟩:=e1
  have hdr:=Mb (g:=Z3 v) Z2
  have hln:=F5 (g:=Z3 v) (o:=k*5) (r:=x1)
  have hl0:=Ys List.length hdr
  rw [YE,hln] at hl0
  have kp:=Y8
  refine ak (aq (ab 1 (ZM 2 (Zi (WK S v xs.length k 5 (k:Int) hd) (Z1 1 ?_)))))
  have t0:TQ N (Z3 x1.pv) x1.params.length:=fun i hi=>kp.i (s0 i hi)
  refine Xx (VX 0 S N (Z3 v) (k*5) x1.pv hb.1 (kp.h a0 d0.ni)) (Z1 1 (ZC [0] (Fb S N x1.pv x1.params z) ?_))
  have kp:=kp.wr (Ab s0) z
  refine Z0 (ZM 2 (Zi (WK S v xs.length k 5 (k:Int) hd) (Z1 1 ?_)))
  have t1:TQ (wr N (ZA (Z3 x1.pv) 0 x1.params.length) z) (Z3 x1.lv) x1.lent.length:=fun i hi=>kp.i (s1 i hi)
  refine Xx (VX 0 S (wr N (ZA (Z3 x1.pv) 0 x1.params.length) z) (Z3 v) (k*5+1) x1.lv hb.1 (kp.h a1 d1.ni)) (Z1 1 (ZC [0] (Fb S (wr N (ZA (Z3 x1.pv) 0 x1.params.length) z) x1.lv x1.lent (z+((ZA (Z3 x1.pv) 0 x1.params.length).length:Nat))) ?_))
  have kp:=kp.wr (Ab s1) (z+((ZA (Z3 x1.pv) 0 x1.params.length).length:Nat))
  refine Z0 (ZM 3 (Zi (WK S v xs.length k 5 (k:Int) hd) (Z1 1 (JI 0 S (wr (wr N (ZA (Z3 x1.pv) 0 x1.params.length) z) (ZA (Z3 x1.lv) 0 x1.lent.length) (z+((ZA (Z3 x1.pv) 0 x1.params.length).length:Nat))) (Z3 v) (k*5+2) ((z+((ZA (Z3 x1.pv) 0 x1.params.length).length:Nat))+((ZA (Z3 x1.lv) 0 x1.lent.length).length:Nat)) hb.1 (kp.i i2) ?_))))
  have kp:=kp.upd i2 ((z+((ZA (Z3 x1.pv) 0 x1.params.length).length:Nat))+((ZA (Z3 x1.lv) 0 x1.lent.length).length:Nat))
  refine ie (ZM 1 (ia ((((z+((ZA (Z3 x1.pv) 0 x1.params.length).length:Nat))+((ZA (Z3 x1.lv) 0 x1.lent.length).length:Nat))+1)) ((((z+((ZA (Z3 x1.pv) 0 x1.params.length).length:Nat))+((ZA (Z3 x1.lv) 0 x1.lent.length).length:Nat)))+(1)) (Z0 (ZM 2 (Zi (WK S v xs.length k 5 (k:Int) hd) (Z1 2 ?_))))))
  have t3:Vx (upd (wr (wr N (ZA (Z3 x1.pv) 0 x1.params.length) z) (ZA (Z3 x1.lv) 0 x1.lent.length) (z+((ZA (Z3 x1.pv) 0 x1.params.length).length:Nat))) (Z3 v,k*5+2) ((z+((ZA (Z3 x1.pv) 0 x1.params.length).length:Nat))+((ZA (Z3 x1.lv) 0 x1.lent.length).length:Nat))) S (Z3 x1.body.sv) 0 x1.body.steps:=Dt kp s3
  refine Xx (VX 0 S (upd (wr (wr N (ZA (Z3 x1.pv) 0 x1.params.length) z) (ZA (Z3 x1.lv) 0 x1.lent.length) (z+((ZA (Z3 x1.pv) 0 x1.params.length).length:Nat))) (Z3 v,k*5+2) ((z+((ZA (Z3 x1.pv) 0 x1.params.length).length:Nat))+((ZA (Z3 x1.lv) 0 x1.lent.length).length:Nat))) (Z3 v) (k*5+3) x1.body.sv hb.1 (kp.h a3 d3.ni)) (Z1 1 (ZC [0] (Z9b S (upd (wr (wr N (ZA (Z3 x1.pv) 0 x1.params.length) z) (ZA (Z3 x1.lv) 0 x1.lent.length) (z+((ZA (Z3 x1.pv) 0 x1.params.length).length:Nat))) (Z3 v,k*5+2) ((z+((ZA (Z3 x1.pv) 0 x1.params.length).length:Nat))+((ZA (Z3 x1.lv) 0 x1.lent.length).length:Nat))) x1.body.sv x1.body.steps (((z+((ZA (Z3 x1.pv) 0 x1.params.length).length:Nat))+((ZA (Z3 x1.lv) 0 x1.lent.length).length:Nat))+1)) ?_))
  have kp:=kp.wr (Cv s3) (((z+((ZA (Z3 x1.pv) 0 x1.params.length).length:Nat))+((ZA (Z3 x1.lv) 0 x1.lent.length).length:Nat))+1)
  refine Z0 (ZM 3 (Zi (WK S v xs.length k 5 (k:Int) hd) (Z1 2 (JI 0 S (wr (upd (wr (wr N (ZA (Z3 x1.pv) 0 x1.params.length) z) (ZA (Z3 x1.lv) 0 x1.lent.length) (z+((ZA (Z3 x1.pv) 0 x1.params.length).length:Nat))) (Z3 v,k*5+2) ((z+((ZA (Z3 x1.pv) 0 x1.params.length).length:Nat))+((ZA (Z3 x1.lv) 0 x1.lent.length).length:Nat))) (Yi (Z3 x1.body.sv) 0 x1.body.steps) (((z+((ZA (Z3 x1.pv) 0 x1.params.length).length:Nat))+((ZA (Z3 x1.lv) 0 x1.lent.length).length:Nat))+1)) (Z3 v) (k*5+4) ((((z+((ZA (Z3 x1.pv) 0 x1.params.length).length:Nat))+((ZA (Z3 x1.lv) 0 x1.lent.length).length:Nat))+1)+((Yi (Z3 x1.body.sv) 0 x1.body.steps).length:Nat)) hb.1 (kp.i i4) ?_))))
  have kp:=kp.upd i4 ((((z+((ZA (Z3 x1.pv) 0 x1.params.length).length:Nat))+((ZA (Z3 x1.lv) 0 x1.lent.length).length:Nat))+1)+((Yi (Z3 x1.body.sv) 0 x1.body.steps).length:Nat))
  exact ie (az (Z1 1 (ia ((((((z+((ZA (Z3 x1.pv) 0 x1.params.length).length:Nat))+((ZA (Z3 x1.lv) 0 x1.lent.length).length:Nat))+1)+((Yi (Z3 x1.body.sv) 0 x1.body.steps).length:Nat))+1)) ((((((z+((ZA (Z3 x1.pv) 0 x1.params.length).length:Nat))+((ZA (Z3 x1.lv) 0 x1.lent.length).length:Nat))+1)+((Yi (Z3 x1.body.sv) 0 x1.body.steps).length:Nat)))+(1)) (Z0 (az (Z1 1 (ZK k (Z0 (ZJ ⟨k+1,(((((z+((ZA (Z3 x1.pv) 0 x1.params.length).length:Nat))+((ZA (Z3 x1.lv) 0 x1.lent.length).length:Nat))+1)+((Yi (Z3 x1.body.sv) 0 x1.body.steps).length:Nat))+1),upd (wr (upd (wr (wr N (ZA (Z3 x1.pv) 0 x1.params.length) z) (ZA (Z3 x1.lv) 0 x1.lent.length) (z+((ZA (Z3 x1.pv) 0 x1.params.length).length:Nat))) (Z3 v,k*5+2) ((z+((ZA (Z3 x1.pv) 0 x1.params.length).length:Nat))+((ZA (Z3 x1.lv) 0 x1.lent.length).length:Nat))) (Yi (Z3 x1.body.sv) 0 x1.body.steps) (((z+((ZA (Z3 x1.pv) 0 x1.params.length).length:Nat))+((ZA (Z3 x1.lv) 0 x1.lent.length).length:Nat))+1)) (Z3 v,k*5+4) ((((z+((ZA (Z3 x1.pv) 0 x1.params.length).length:Nat))+((ZA (Z3 x1.lv) 0 x1.lent.length).length:Nat))+1)+((Yi (Z3 x1.body.sv) 0 x1.body.steps).length:Nat)),ob,ob,ob,kp,(DI XG hdr Zfo om),rfl,rfl,rfl⟩ (wk [0] (fr (ZL k fl))))))))))))
 have he:(WP (Z3 v) (k*5) (xs.drop k))=[]:=by rw [QU om];rfl
 rw [he,Vy] at Zz
 rw [he,wr] at XG
 exact ax 0 (ar (Z8 (r2 [0] [.i z] ⟨rfl,rfl⟩ li (eq:=(Be (m:=N) XG rz)))))
theorem Z99 (S:List Nat) (M:Yo) (y:X7) (q:Int) (hs:Qb M S y:=by exact ob) (hl:∀d∈y.decls,d.cons.length<=4000000000000) (hq:0<=q/\q+((W8 y).length:Nat)<=4000000000000:=by exact ob):Za 22 [.agg [.val y.dv,.val y.rv],.i q] [.own S M] (fun r h=>r=.i (q+((W8 y).length:Nat))/\h=[.own S (wr M (W8 y) q)]):=by
 obtain ⟨⟨d0,s0⟩,⟨d1,s1⟩⟩:=hs
 have hln:=I1 (y:=y)
 have kp:=Kp.refl M
 refine Zx 14 Tryz.func22 (ar (iA [.val y.dv,.val y.rv] fun b1=>Z0 (ZB 3 [0] (ZC [1] (Z98 S M y.dv y.decls q (hl:=ob)) ?_))))
 have kp:=kp.wr (Gg s0) q
 have t1:=L6 kp s1
 exact Z0 (ZB 3 [1] (ZC [0] (Z9a S (wr M (Wn (Z3 y.dv) 0 y.decls) q) y.rv y.routines (q+((Wn (Z3 y.dv) 0 y.decls).length:Nat))) (Z0 (ar (Z8 (r2 [0] [.i ((q+((Wn (Z3 y.dv) 0 y.decls).length:Nat))+((WP (Z3 y.rv) 0 y.routines).length:Nat))] ⟨rfl,rfl⟩ li (eq:=(Be (m:=(wr (wr M (Wn (Z3 y.dv) 0 y.decls) q) (WP (Z3 y.rv) 0 y.routines) (q+((Wn (Z3 y.dv) 0 y.decls).length:Nat)))) Zfn rz))))))))
theorem EG (S:List Nat) (M:Yo) (v:Value) (xs:LI) (q:Int) (hd:Wm S v xs.length:=by exact ob) (hs:TQ M (Z3 v) xs.length:=by exact ob) (hh:X9 M (ZA (Z3 v) 0 xs.length) q:=by exact ob) (hq:0<=q/\q+((ZA (Z3 v) 0 xs.length).length:Nat)<=4000000000000:=by exact ob):Za 110 [.val v,.i q] [.own S M] (fun r h=>r=.i (q+((ZA (Z3 v) 0 xs.length).length:Nat))/\h=[.own S M]):=by
 have hal:=AU (Z3 v) xs.length 0
 refine Zx 21 Tryz.func110 (Zh (Ym (ab 0 (ZU (fun fz gz m F h=>∃(k:Nat) (z:Int),(k<=xs.length)/\(0<=z)/\(z+((ZA (Z3 v) k (xs.length-k)).length:Nat)=q+((ZA (Z3 v) 0 xs.length).length:Nat))/\(X9 M (ZA (Z3 v) k (xs.length-k)) z)/\F=sF [0] fz [(1,.i z),(5,.i k)]/\h=gz/\m=xs.length-k) _ _ _ ⟨0,q,ob,ob,(by simp),(by simpa using hh),rfl,rfl,rfl⟩ (wk [0] (fr (ZW fl))) ?_))))
 rintro m F h ⟨k,z,Y0,Z9,Zz,Y8,rfl,rfl,rfl⟩
 refine Yb 2 (Zi (Ki S v xs.length hd) (ZO ((k:Int)<(xs.length:Int)) (fun Z5=>?_) (fun Z5=>?_)))
 ·have hb:=hd.blk (i:=k) om
  have hdr:=M5 (Z3 v) xs.length k om
  have hl0:(ZA (Z3 v) k (xs.length-k)).length=(ZA (Z3 v) (k+1) (xs.length-(k+1))).length+1:=by rw [hdr];rfl
  have hsk:=hs k om
  rw [<-UO k] at hsk
  rw [hdr] at Y8
  have h0:M (Z3 v) (k*1)=some (.int .i64 z):=by rw [UO];exact Y8.1
  refine ak (aq (ab 1 (Yb 2 (Zi (WK S v xs.length k 1 (k:Int) hd) (Xx (VX 0 S M (Z3 v) (k*1) (.int .i64 z) hb.1 h0) (Yw (z != z) ZP (fun Zd=>?_) (fun Zd=>?_)))))))
  ·exact ar (Z8 (r2 [0] [.i (-1)] ⟨rfl,rfl⟩ li))
  exact ak (az (Z1 1 (ia ((z+1)) ((z)+(1)) (Z0 (az (Z1 1 (ZK k (Z0 (ZJ ⟨k+1,(z+1),ob,ob,ob,Y8.2,rfl,rfl,rfl⟩ (wk [0] (fr (ZL k fl))))))))))))
 have he:ZA (Z3 v) k (xs.length-k)=[]:=by rw [show xs.length-k=0 by omega];rfl
 rw [he,Vy] at Zz
 exact ax 0 (ar (Z8 (r2 [0] [.i z] ⟨rfl,rfl⟩ li)))
theorem Z5c (S:List Nat) (M:Yo) (v:Value) (xs:List X3) (q:Int) (hl:xs.length<=4000000000000:=by exact ob) (hd:Wm S v xs.length:=by exact ob) (hs:KS M S (Z3 v) 0 xs:=by exact ob) (hh:X9 M (WW xs) q:=by exact ob) (hq:0<=q/\q+((WW xs).length:Nat)<=4000000000000:=by exact ob):Za 109 [.val v,.i q] [.own S M] (fun r h=>r=.i (q+((WW xs).length:Nat))/\h=[.own S M]):=by
 refine Zx 22 Tryz.func109 (Zh (Ym (ab 0 (ZU (fun fz gz m F h=>∃(k:Nat) (z:Int),(k<=xs.length)/\(0<=z)/\(z+((WW (xs.drop k)).length:Nat)=q+((WW xs).length:Nat))/\(X9 M (WW (xs.drop k)) z)/\F=sF [0] fz [(1,.i z),(5,.i k)]/\h=gz/\m=xs.length-k) _ _ _ ⟨0,q,ob,ob,(by simp),(by simpa using hh),rfl,rfl,rfl⟩ (wk [0] (fr (ZW fl))) ?_))))
 rintro m F h ⟨k,z,Y0,Z9,Zz,Y8,rfl,rfl,rfl⟩
 refine Yb 2 (Zi (Ki S v xs.length hd) (ZO ((k:Int)<(xs.length:Int)) (fun Z5=>?_) (fun Z5=>?_)))
 ·have hb:=hd.blk (i:=k) om
  obtain ⟨x1,Z2⟩:=Zv xs k om
  have e1:=IY hs Z2
  rw [Vk] at e1
  obtain ⟨⟨a0,d0⟩,s0⟩:=e1
  rw [<-UO k] at a0
  have hdr:=LY Z2
  have hln:(DX x1).length=(ZA (Z3 x1.fv) 0 x1.fields.length).length:=rfl
  have hl0:=Ys List.length hdr
  rw [YE,hln] at hl0
  rw [hdr] at Y8
  obtain ⟨hA,hR⟩:=(Kd _ _ _ _).1 Y8
  have h0:X9 M (ZA (Z3 x1.fv) 0 x1.fields.length) z:=hA
  refine ak (aq (ab 1 (ZM 2 (Zi (WK S v xs.length k 1 (k:Int) hd) (Z1 1 (Xx (VX 0 S M (Z3 v) (k*1) x1.fv hb.1 a0) (Z1 1 (ZC [0] (EG S M x1.fv x1.fields z) (Z0 (ar (ZO ((z+((ZA (Z3 x1.fv) 0 x1.fields.length).length:Nat))<0) (fun Zd=>?_) (fun Zd=>?_))))))))))))
  ·exact ar (Z8 (r2 [0] [.i (-1)] ⟨rfl,rfl⟩ li))
  exact ak (az (Z1 1 (ZK k (Z0 (ZJ ⟨k+1,(z+((ZA (Z3 x1.fv) 0 x1.fields.length).length:Nat)),ob,ob,ob,(D4 hR om),rfl,rfl,rfl⟩ (wk [0] (fr (ZL k fl))))))))
 have he:(WW (xs.drop k))=[]:=by rw [QU om];rfl
 rw [he,Vy] at Zz
 exact ax 0 (ar (Z8 (r2 [0] [.i z] ⟨rfl,rfl⟩ li)))
theorem Z5d (S:List Nat) (M:Yo) (v:Value) (xs:List YP) (q:Int) (hl:∀d∈xs,d.cons.length<=4000000000000) (hd:Wm S v xs.length:=by exact ob) (hs:Jf M S (Z3 v) 0 xs:=by exact ob) (hh:X9 M (Wn (Z3 v) 0 xs) q:=by exact ob) (hq:0<=q/\q+((Wn (Z3 v) 0 xs).length:Nat)<=4000000000000:=by exact ob):Za 55 [.val v,.i q] [.own S M] (fun r h=>r=.i (q+((Wn (Z3 v) 0 xs).length:Nat))/\h=[.own S M]):=by
 have hal:=Gf (g:=Z3 v) (o:=0) (ds:=xs)
 refine Zx 40 Tryz.func55 (Zh (Ym (ab 0 (ZU (fun fz gz m F h=>∃(k:Nat) (z:Int),(k<=xs.length)/\(0<=z)/\(z+((Wn (Z3 v) (k*3) (xs.drop k)).length:Nat)=q+((Wn (Z3 v) 0 xs).length:Nat))/\(X9 M (Wn (Z3 v) (k*3) (xs.drop k)) z)/\F=sF [0] fz [(1,.i z),(5,.i k)]/\h=gz/\m=xs.length-k) _ _ _ ⟨0,q,ob,ob,(by simp),(by simpa using hh),rfl,rfl,rfl⟩ (wk [0] (fr (ZW fl))) ?_))))
 rintro m F h ⟨k,z,Y0,Z9,Zz,Y8,rfl,rfl,rfl⟩
 refine Yb 2 (Zi (Ki S v xs.length hd) (ZO ((k:Int)<(xs.length:Int)) (fun Z5=>?_) (fun Z5=>?_)))
 ·have hb:=hd.blk (i:=k) om
  obtain ⟨x1,Z2⟩:=Zv xs k om
  have e1:=L4 hs Z2
  rw [Vk] at e1
  obtain ⟨i0,i1,⟨a2,d2⟩,s2⟩:=e1
  have hdr:=M3 (g:=Z3 v) Z2
  have hl1:=hl x1 (YF Z2)
  have hln:=F4 (g:=Z3 v) (o:=k*3) (d:=x1)
  have hl0:=Ys List.length hdr
  rw [YE,hln] at hl0
  rw [hdr] at Y8
  obtain ⟨hA,hR⟩:=(Kd _ _ _ _).1 Y8
  obtain ⟨h0,h1,h2⟩:=Z5k hA
  refine ak (aq (ab 1 (Yb 2 (Zi (WK S v xs.length k 3 (k:Int) hd) (Z1 1 (Xx (VX 0 S M (Z3 v) (k*3) (.int .i64 z) hb.1 h0) (Yw (z != z) ZP (fun Zd=>?_) (fun Zd=>?_))))))))
  ·exact ar (Z8 (r2 [0] [.i (-1)] ⟨rfl,rfl⟩ li))
  refine ak (ZM 1 (ia ((z+1)) ((z)+(1)) (Z0 (Yb 2 (Zi (WK S v xs.length k 3 (k:Int) hd) (Z1 1 (Xx (VX 0 S M (Z3 v) (k*3+1) (.int .i64 (z+1)) hb.1 h1) (Yw ((z+1) != (z+1)) ZP (fun Zw=>?_) (fun Zw=>?_)))))))))
  ·exact ar (Z8 (r2 [0] [.i (-1)] ⟨rfl,rfl⟩ li))
  refine ak (ZM 1 (ia (((z+1)+1)) (((z+1))+(1)) (Z0 (ZM 2 (Zi (WK S v xs.length k 3 (k:Int) hd) (Z1 1 (Xx (VX 0 S M (Z3 v) (k*3+2) x1.cv hb.1 a2) (Z1 1 (ZC [0] (Z5c S M x1.cv x1.cons ((z+1)+1)) (Z0 (ar (ZO ((((z+1)+1)+((WW x1.cons).length:Nat))<0) (fun Yg=>?_) (fun Yg=>?_)))))))))))))
  ·exact ar (Z8 (r2 [0] [.i (-1)] ⟨rfl,rfl⟩ li))
  exact ak (az (Z1 1 (ZK k (Z0 (ZJ ⟨k+1,(((z+1)+1)+((WW x1.cons).length:Nat)),ob,ob,ob,(D4 hR om),rfl,rfl,rfl⟩ (wk [0] (fr (ZL k fl))))))))
 have he:(Wn (Z3 v) (k*3) (xs.drop k))=[]:=by rw [QU om];rfl
 rw [he,Vy] at Zz
 exact ax 0 (ar (Z8 (r2 [0] [.i z] ⟨rfl,rfl⟩ li)))
theorem Z5h (S:List Nat) (M:Yo) (v:Value) (xs:List ZX) (q:Int) (ih:∀(S:List Nat) (M:Yo) (v:Value) (ys:List ZV) (q:Int),(SizeOf.sizeOf ys<SizeOf.sizeOf xs)->(Wm S v ys.length)->(Ua M S (Z3 v) 0 ys)->(X9 M (Xj (Z3 v) 0 ys) q)->(0<=q/\q+((Xj (Z3 v) 0 ys).length:Nat)<=4000000000000)->Za 168 [.val v,.i q] [.own S M] (fun r h=>r=.i (q+((Xj (Z3 v) 0 ys).length:Nat))/\h=[.own S M])) (hd:Wm S v xs.length) (hs:Vx M S (Z3 v) 0 xs) (hh:X9 M (Yi (Z3 v) 0 xs) q) (hq:0<=q/\q+((Yi (Z3 v) 0 xs).length:Nat)<=4000000000000):Za 111 [.val v,.i q] [.own S M] (fun r h=>r=.i (q+((Yi (Z3 v) 0 xs).length:Nat))/\h=[.own S M]):=by
 have hal:=Gk (g:=Z3 v) (o:=0) (xs:=xs)
 refine Zx 58 Tryz.func111 (Zh (Ym (ab 0 (ZU (fun fz gz m F h=>∃(k:Nat) (z:Int),(k<=xs.length)/\(0<=z)/\(z+((Yi (Z3 v) (k*5) (xs.drop k)).length:Nat)=q+((Yi (Z3 v) 0 xs).length:Nat))/\(X9 M (Yi (Z3 v) (k*5) (xs.drop k)) z)/\F=sF [0] fz [(1,.i z),(5,.i k)]/\h=gz/\m=xs.length-k) _ _ _ ⟨0,q,ob,ob,(by simp),(by simpa using hh),rfl,rfl,rfl⟩ (wk [0] (fr (ZW fl))) ?_))))
 rintro m F h ⟨k,z,Y0,Z9,Zz,Y8,rfl,rfl,rfl⟩
 refine Yb 2 (Zi (Ki S v xs.length hd) (ZO ((k:Int)<(xs.length:Int)) (fun Z5=>?_) (fun Z5=>?_)))
 ·have hb:=hd.blk (i:=k) om
  obtain ⟨x1,Z2⟩:=Zv xs k om
  have e1:=L7 hs Z2
  rw [Vk] at e1
  rw [RI] at e1
  have hz:SizeOf.sizeOf x1.kids<SizeOf.sizeOf xs:=O4 Z2
  obtain ⟨⟨i0,i1,i2⟩,⟨⟨a3,d3⟩,s3⟩,⟨⟨a4,d4⟩,s4⟩⟩:=e1
  have hdr:=Me (g:=Z3 v) Z2
  have hln:=I2 (g:=Z3 v) (o:=k*5) (s:=x1)
  have hl0:=Ys List.length hdr
  rw [YE,hln] at hl0
  rw [hdr] at Y8
  obtain ⟨hA,hR⟩:=(Kd _ _ _ _).1 Y8
  obtain ⟨h0,h1,h2,h3,h4⟩:=Z5m hA
  refine ak (aq (ab 1 (Yb 2 (Zi (WK S v xs.length k 5 (k:Int) hd) (Z1 1 (Xx (VX 0 S M (Z3 v) (k*5) (.int .i64 z) hb.1 h0) (Yw (z != z) ZP (fun Zd=>?_) (fun Zd=>?_))))))))
  ·exact ar (Z8 (r2 [0] [.i (-1)] ⟨rfl,rfl⟩ li))
  refine ak (ZM 1 (ia ((z+1)) ((z)+(1)) (Z0 (Yb 2 (Zi (WK S v xs.length k 5 (k:Int) hd) (Z1 1 (Xx (VX 0 S M (Z3 v) (k*5+1) (.int .i64 (z+1)) hb.1 h1) (Yw ((z+1) != (z+1)) ZP (fun Zw=>?_) (fun Zw=>?_)))))))))
  ·exact ar (Z8 (r2 [0] [.i (-1)] ⟨rfl,rfl⟩ li))
  refine ak (ZM 1 (ia (((z+1)+1)) (((z+1))+(1)) (Z0 (Yb 2 (Zi (WK S v xs.length k 5 (k:Int) hd) (Z1 1 (Xx (VX 0 S M (Z3 v) (k*5+2) (.int .i64 ((z+1)+1)) hb.1 h2) (Yw (((z+1)+1) != ((z+1)+1)) ZP (fun Yg=>?_) (fun Yg=>?_)))))))))
  ·exact ar (Z8 (r2 [0] [.i (-1)] ⟨rfl,rfl⟩ li))
  refine ak (ZM 1 (ia ((((z+1)+1)+1)) ((((z+1)+1))+(1)) (Z0 (ZM 2 (Zi (WK S v xs.length k 5 (k:Int) hd) (Z1 1 (Xx (VX 0 S M (Z3 v) (k*5+3) x1.av hb.1 a3) (Z1 1 (ZC [0] (EG S M x1.av x1.args (((z+1)+1)+1)) (Z0 (Yt (ZO (((((z+1)+1)+1)+((ZA (Z3 x1.av) 0 x1.args.length).length:Nat))<0) (fun Xp=>?_) (fun Xp=>?_)))))))))))))
  ·exact ar (Z8 (r2 [0] [.i (-1)] ⟨rfl,rfl⟩ li))
  refine ak (ZM 2 (Zi (WK S v xs.length k 5 (k:Int) hd) (Z1 1 (Xx (VX 0 S M (Z3 v) (k*5+4) x1.kv hb.1 a4) (Z1 1 (ZC [0] (ih S M x1.kv x1.kids ((((z+1)+1)+1)+((ZA (Z3 x1.av) 0 x1.args.length).length:Nat)) ob ob ob ob ob) (Z0 (ar (ZO ((((((z+1)+1)+1)+((ZA (Z3 x1.av) 0 x1.args.length).length:Nat))+((Xj (Z3 x1.kv) 0 x1.kids).length:Nat))<0) (fun Wf=>?_) (fun Wf=>?_))))))))))
  ·exact ar (Z8 (r2 [0] [.i (-1)] ⟨rfl,rfl⟩ li))
  exact ak (az (Z1 1 (ZK k (Z0 (ZJ ⟨k+1,(((((z+1)+1)+1)+((ZA (Z3 x1.av) 0 x1.args.length).length:Nat))+((Xj (Z3 x1.kv) 0 x1.kids).length:Nat)),ob,ob,ob,(D4 hR om),rfl,rfl,rfl⟩ (wk [0] (fr (ZL k fl))))))))
 have he:(Yi (Z3 v) (k*5) (xs.drop k))=[]:=by rw [QU om,Yi]
 rw [he,Vy] at Zz
 exact ax 0 (ar (Z8 (r2 [0] [.i z] ⟨rfl,rfl⟩ li)))
theorem Z5b (S:List Nat) (M:Yo) (v:Value) (xs:List ZV) (q:Int) (ih:∀(S:List Nat) (M:Yo) (v:Value) (ys:List ZX) (q:Int),(SizeOf.sizeOf ys<SizeOf.sizeOf xs)->(Wm S v ys.length)->(Vx M S (Z3 v) 0 ys)->(X9 M (Yi (Z3 v) 0 ys) q)->(0<=q/\q+((Yi (Z3 v) 0 ys).length:Nat)<=4000000000000)->Za 111 [.val v,.i q] [.own S M] (fun r h=>r=.i (q+((Yi (Z3 v) 0 ys).length:Nat))/\h=[.own S M])) (hd:Wm S v xs.length) (hs:Ua M S (Z3 v) 0 xs) (hh:X9 M (Xj (Z3 v) 0 xs) q) (hq:0<=q/\q+((Xj (Z3 v) 0 xs).length:Nat)<=4000000000000):Za 168 [.val v,.i q] [.own S M] (fun r h=>r=.i (q+((Xj (Z3 v) 0 xs).length:Nat))/\h=[.own S M]):=by
 have hal:=Gc (g:=Z3 v) (o:=0) (xs:=xs)
 refine Zx 31 Tryz.func168 (Zh (Ym (ab 0 (ZU (fun fz gz m F h=>∃(k:Nat) (z:Int),(k<=xs.length)/\(0<=z)/\(z+((Xj (Z3 v) (k*2) (xs.drop k)).length:Nat)=q+((Xj (Z3 v) 0 xs).length:Nat))/\(X9 M (Xj (Z3 v) (k*2) (xs.drop k)) z)/\F=sF [0] fz [(1,.i z),(5,.i k)]/\h=gz/\m=xs.length-k) _ _ _ ⟨0,q,ob,ob,(by simp),(by simpa using hh),rfl,rfl,rfl⟩ (wk [0] (fr (ZW fl))) ?_))))
 rintro m F h ⟨k,z,Y0,Z9,Zz,Y8,rfl,rfl,rfl⟩
 refine Yb 2 (Zi (Ki S v xs.length hd) (ZO ((k:Int)<(xs.length:Int)) (fun Z5=>?_) (fun Z5=>?_)))
 ·have hb:=hd.blk (i:=k) om
  obtain ⟨x1,Z2⟩:=Zv xs k om
  have e1:=IV hs Z2
  rw [Vk] at e1
  rw [RE] at e1
  have hz:SizeOf.sizeOf x1.steps<SizeOf.sizeOf xs:=O5 Z2
  obtain ⟨⟨⟨a0,d0⟩,s0⟩,i1⟩:=e1
  have hdr:=LU (g:=Z3 v) Z2
  have hln:=I0 (g:=Z3 v) (o:=k*2) (b:=x1)
  have hl0:=Ys List.length hdr
  rw [YE,hln] at hl0
  rw [hdr] at Y8
  obtain ⟨hA,hR⟩:=(Kd _ _ _ _).1 Y8
  obtain ⟨h0,h1⟩:=Z5j hA
  refine ak (aq (ab 1 (ZM 2 (Zi (WK S v xs.length k 2 (k:Int) hd) (Z1 1 (Xx (VX 0 S M (Z3 v) (k*2) x1.sv hb.1 a0) (Z1 1 (ZC [0] (ih S M x1.sv x1.steps z ob ob ob ob ob) (Z0 (Yt (ZO ((z+((Yi (Z3 x1.sv) 0 x1.steps).length:Nat))<0) (fun Zd=>?_) (fun Zd=>?_))))))))))))
  ·exact ar (Z8 (r2 [0] [.i (-1)] ⟨rfl,rfl⟩ li))
  refine ak (Yb 2 (Zi (WK S v xs.length k 2 (k:Int) hd) (Z1 1 (Xx (VX 0 S M (Z3 v) (k*2+1) (.int .i64 (z+((Yi (Z3 x1.sv) 0 x1.steps).length:Nat))) hb.1 h1) (Yw ((z+((Yi (Z3 x1.sv) 0 x1.steps).length:Nat)) != (z+((Yi (Z3 x1.sv) 0 x1.steps).length:Nat))) ZP (fun Zw=>?_) (fun Zw=>?_))))))
  ·exact ar (Z8 (r2 [0] [.i (-1)] ⟨rfl,rfl⟩ li))
  exact ak (az (Z1 1 (ia (((z+((Yi (Z3 x1.sv) 0 x1.steps).length:Nat))+1)) (((z+((Yi (Z3 x1.sv) 0 x1.steps).length:Nat)))+(1)) (Z0 (az (Z1 1 (ZK k (Z0 (ZJ ⟨k+1,((z+((Yi (Z3 x1.sv) 0 x1.steps).length:Nat))+1),ob,ob,ob,(D4 hR om),rfl,rfl,rfl⟩ (wk [0] (fr (ZL k fl))))))))))))
 have he:(Xj (Z3 v) (k*2) (xs.drop k))=[]:=by rw [QU om,Xj]
 rw [he,Vy] at Zz
 exact ax 0 (ar (Z8 (r2 [0] [.i z] ⟨rfl,rfl⟩ li)))
theorem Z5i (n:Nat):(∀(S:List Nat) (M:Yo) (v:Value) (xs:List ZX) (q:Int),(SizeOf.sizeOf xs<n)->(Wm S v xs.length)->(Vx M S (Z3 v) 0 xs)->(X9 M (Yi (Z3 v) 0 xs) q)->(0<=q/\q+((Yi (Z3 v) 0 xs).length:Nat)<=4000000000000)->Za 111 [.val v,.i q] [.own S M] (fun r h=>r=.i (q+((Yi (Z3 v) 0 xs).length:Nat))/\h=[.own S M]))/\(∀(S:List Nat) (M:Yo) (v:Value) (xs:List ZV) (q:Int),(SizeOf.sizeOf xs<n)->(Wm S v xs.length)->(Ua M S (Z3 v) 0 xs)->(X9 M (Xj (Z3 v) 0 xs) q)->(0<=q/\q+((Xj (Z3 v) 0 xs).length:Nat)<=4000000000000)->Za 168 [.val v,.i q] [.own S M] (fun r h=>r=.i (q+((Xj (Z3 v) 0 xs).length:Nat))/\h=[.own S M])):=by
 induction n with
 | zero=>exact ⟨fun _ _ _ _ _ h=>by omega,fun _ _ _ _ _ h=>by omega⟩
 | succ n ih=>
  obtain ⟨i1,i2⟩:=ih
  exact ⟨fun S M v xs q hz h3 h4 h5 h9=>Z5h S M v xs q (fun S M v ys q hz2 h3 h4 h5 h9=>i2 S M v ys q om h3 h4 h5 h9) h3 h4 h5 h9,fun S M v xs q hz h3 h4 h5 h9=>Z5b S M v xs q (fun S M v ys q hz2 h3 h4 h5 h9=>i1 S M v ys q om h3 h4 h5 h9) h3 h4 h5 h9⟩
theorem Z5g (S:List Nat) (M:Yo) (v:Value) (xs:List ZX) (q:Int) (hd:Wm S v xs.length:=by exact ob) (hs:Vx M S (Z3 v) 0 xs:=by exact ob) (hh:X9 M (Yi (Z3 v) 0 xs) q:=by exact ob) (hq:0<=q/\q+((Yi (Z3 v) 0 xs).length:Nat)<=4000000000000:=by exact ob):Za 111 [.val v,.i q] [.own S M] (fun r h=>r=.i (q+((Yi (Z3 v) 0 xs).length:Nat))/\h=[.own S M]):=(Z5i (SizeOf.sizeOf xs+1)).1 S M v xs q om hd hs hh hq
theorem Z5f (S:List Nat) (M:Yo) (v:Value) (xs:List YQ) (q:Int) (hd:Wm S v xs.length:=by exact ob) (hs:Jg M S (Z3 v) 0 xs:=by exact ob) (hh:X9 M (WP (Z3 v) 0 xs) q:=by exact ob) (hq:0<=q/\q+((WP (Z3 v) 0 xs).length:Nat)<=4000000000000:=by exact ob):Za 56 [.val v,.i q] [.own S M] (fun r h=>r=.i (q+((WP (Z3 v) 0 xs).length:Nat))/\h=[.own S M]):=by
 have hal:=Gh (g:=Z3 v) (o:=0) (xs:=xs)
 refine Zx 60 Tryz.func56 (Zh (Ym (ab 0 (ZU (fun fz gz m F h=>∃(k:Nat) (z:Int),(k<=xs.length)/\(0<=z)/\(z+((WP (Z3 v) (k*5) (xs.drop k)).length:Nat)=q+((WP (Z3 v) 0 xs).length:Nat))/\(X9 M (WP (Z3 v) (k*5) (xs.drop k)) z)/\F=sF [0] fz [(1,.i z),(5,.i k)]/\h=gz/\m=xs.length-k) _ _ _ ⟨0,q,ob,ob,(by simp),(by simpa using hh),rfl,rfl,rfl⟩ (wk [0] (fr (ZW fl))) ?_))))
 rintro m F h ⟨k,z,Y0,Z9,Zz,Y8,rfl,rfl,rfl⟩
 refine Yb 2 (Zi (Ki S v xs.length hd) (ZO ((k:Int)<(xs.length:Int)) (fun Z5=>?_) (fun Z5=>?_)))
 ·have hb:=hd.blk (i:=k) om
  obtain ⟨x1,Z2⟩:=Zv xs k om
  have e1:=L5 hs Z2
  rw [Vk] at e1
  obtain ⟨⟨⟨a0,d0⟩,s0⟩,⟨⟨a1,d1⟩,s1⟩,i2,⟨⟨a3,d3⟩,s3⟩,i4⟩:=e1
  have hdr:=Mb (g:=Z3 v) Z2
  have hln:=F5 (g:=Z3 v) (o:=k*5) (r:=x1)
  have hl0:=Ys List.length hdr
  rw [YE,hln] at hl0
  rw [hdr] at Y8
  obtain ⟨hA,hR⟩:=(Kd _ _ _ _).1 Y8
  obtain ⟨h0,h1,h2,h3,h4⟩:=Z5l hA
  refine ak (aq (ab 1 (ZM 2 (Zi (WK S v xs.length k 5 (k:Int) hd) (Z1 1 (Xx (VX 0 S M (Z3 v) (k*5) x1.pv hb.1 a0) (Z1 1 (ZC [0] (EG S M x1.pv x1.params z) (Z0 (Yt (ZO ((z+((ZA (Z3 x1.pv) 0 x1.params.length).length:Nat))<0) (fun Zd=>?_) (fun Zd=>?_))))))))))))
  ·exact ar (Z8 (r2 [0] [.i (-1)] ⟨rfl,rfl⟩ li))
  refine ak (ZM 2 (Zi (WK S v xs.length k 5 (k:Int) hd) (Z1 1 (Xx (VX 0 S M (Z3 v) (k*5+1) x1.lv hb.1 a1) (Z1 1 (ZC [0] (EG S M x1.lv x1.lent (z+((ZA (Z3 x1.pv) 0 x1.params.length).length:Nat))) (Z0 (Yt (ZO (((z+((ZA (Z3 x1.pv) 0 x1.params.length).length:Nat))+((ZA (Z3 x1.lv) 0 x1.lent.length).length:Nat))<0) (fun Zw=>?_) (fun Zw=>?_))))))))))
  ·exact ar (Z8 (r2 [0] [.i (-1)] ⟨rfl,rfl⟩ li))
  refine ak (Yb 2 (Zi (WK S v xs.length k 5 (k:Int) hd) (Z1 1 (Xx (VX 0 S M (Z3 v) (k*5+2) (.int .i64 ((z+((ZA (Z3 x1.pv) 0 x1.params.length).length:Nat))+((ZA (Z3 x1.lv) 0 x1.lent.length).length:Nat))) hb.1 h2) (Yw (((z+((ZA (Z3 x1.pv) 0 x1.params.length).length:Nat))+((ZA (Z3 x1.lv) 0 x1.lent.length).length:Nat)) != ((z+((ZA (Z3 x1.pv) 0 x1.params.length).length:Nat))+((ZA (Z3 x1.lv) 0 x1.lent.length).length:Nat))) ZP (fun Yg=>?_) (fun Yg=>?_))))))
  ·exact ar (Z8 (r2 [0] [.i (-1)] ⟨rfl,rfl⟩ li))
  refine ak (ZM 1 (ia ((((z+((ZA (Z3 x1.pv) 0 x1.params.length).length:Nat))+((ZA (Z3 x1.lv) 0 x1.lent.length).length:Nat))+1)) ((((z+((ZA (Z3 x1.pv) 0 x1.params.length).length:Nat))+((ZA (Z3 x1.lv) 0 x1.lent.length).length:Nat)))+(1)) (Z0 (ZM 2 (Zi (WK S v xs.length k 5 (k:Int) hd) (Z1 2 (Xx (VX 0 S M (Z3 v) (k*5+3) x1.body.sv hb.1 a3) (Z1 1 (ZC [0] (Z5g S M x1.body.sv x1.body.steps (((z+((ZA (Z3 x1.pv) 0 x1.params.length).length:Nat))+((ZA (Z3 x1.lv) 0 x1.lent.length).length:Nat))+1)) (Z0 (Yt (ZO (((((z+((ZA (Z3 x1.pv) 0 x1.params.length).length:Nat))+((ZA (Z3 x1.lv) 0 x1.lent.length).length:Nat))+1)+((Yi (Z3 x1.body.sv) 0 x1.body.steps).length:Nat))<0) (fun Xp=>?_) (fun Xp=>?_)))))))))))))
  ·exact ar (Z8 (r2 [0] [.i (-1)] ⟨rfl,rfl⟩ li))
  refine ak (Yb 2 (Zi (WK S v xs.length k 5 (k:Int) hd) (Z1 2 (Xx (VX 0 S M (Z3 v) (k*5+4) (.int .i64 ((((z+((ZA (Z3 x1.pv) 0 x1.params.length).length:Nat))+((ZA (Z3 x1.lv) 0 x1.lent.length).length:Nat))+1)+((Yi (Z3 x1.body.sv) 0 x1.body.steps).length:Nat))) hb.1 h4) (Yw (((((z+((ZA (Z3 x1.pv) 0 x1.params.length).length:Nat))+((ZA (Z3 x1.lv) 0 x1.lent.length).length:Nat))+1)+((Yi (Z3 x1.body.sv) 0 x1.body.steps).length:Nat)) != ((((z+((ZA (Z3 x1.pv) 0 x1.params.length).length:Nat))+((ZA (Z3 x1.lv) 0 x1.lent.length).length:Nat))+1)+((Yi (Z3 x1.body.sv) 0 x1.body.steps).length:Nat))) ZP (fun Wf=>?_) (fun Wf=>?_))))))
  ·exact ar (Z8 (r2 [0] [.i (-1)] ⟨rfl,rfl⟩ li))
  exact ak (az (Z1 1 (ia ((((((z+((ZA (Z3 x1.pv) 0 x1.params.length).length:Nat))+((ZA (Z3 x1.lv) 0 x1.lent.length).length:Nat))+1)+((Yi (Z3 x1.body.sv) 0 x1.body.steps).length:Nat))+1)) ((((((z+((ZA (Z3 x1.pv) 0 x1.params.length).length:Nat))+((ZA (Z3 x1.lv) 0 x1.lent.length).length:Nat))+1)+((Yi (Z3 x1.body.sv) 0 x1.body.steps).length:Nat)))+(1)) (Z0 (az (Z1 1 (ZK k (Z0 (ZJ ⟨k+1,(((((z+((ZA (Z3 x1.pv) 0 x1.params.length).length:Nat))+((ZA (Z3 x1.lv) 0 x1.lent.length).length:Nat))+1)+((Yi (Z3 x1.body.sv) 0 x1.body.steps).length:Nat))+1),ob,ob,ob,(D4 hR om),rfl,rfl,rfl⟩ (wk [0] (fr (ZL k fl))))))))))))
 have he:(WP (Z3 v) (k*5) (xs.drop k))=[]:=by rw [QU om];rfl
 rw [he,Vy] at Zz
 exact ax 0 (ar (Z8 (r2 [0] [.i z] ⟨rfl,rfl⟩ li)))
theorem Z5e (S:List Nat) (M:Yo) (y:X7) (q:Int) (hs:Qb M S y) (hl:∀d∈y.decls,d.cons.length<=4000000000000) (hh:X9 M (W8 y) q) (hq:0<=q/\q+((W8 y).length:Nat)<=4000000000000):Za 23 [.agg [.val y.dv,.val y.rv],.i q] [.own S M] (fun r h=>r=.i (q+((W8 y).length:Nat))/\h=[.own S M]):=by
 obtain ⟨⟨d0,s0⟩,⟨d1,s1⟩⟩:=hs
 have hln:=I1 (y:=y)
 obtain ⟨h0,h1⟩:=(Kd _ _ _ _).1 (show X9 M (_++_) q from hh)
 refine Zx 18 Tryz.func23 (ar (iA [.val y.dv,.val y.rv] fun b1=>Z0 (ZB 3 [0] (ZC [1] (Z5d S M y.dv y.decls q (hl:=ob)) (Z0 (Yt (ZO ((q+((Wn (Z3 y.dv) 0 y.decls).length:Nat))<0) (fun Z5=>?_) (fun Z5=>?_))))))))
 ·exact ar (Z8 (r2 [0] [.i (-1)] ⟨rfl,rfl⟩ li))
 refine ak (ZB 3 [1] (ZC [0] (Z5f S M y.rv y.routines (q+((Wn (Z3 y.dv) 0 y.decls).length:Nat))) (Z0 (Yt (ZO (((q+((Wn (Z3 y.dv) 0 y.decls).length:Nat))+((WP (Z3 y.rv) 0 y.routines).length:Nat))<0) (fun Zd=>?_) (fun Zd=>?_))))))
 ·exact ar (Z8 (r2 [0] [.i (-1)] ⟨rfl,rfl⟩ li))
 exact ak (ar (Z8 (r2 [0] [.i ((q+((Wn (Z3 y.dv) 0 y.decls).length:Nat))+((WP (Z3 y.rv) 0 y.routines).length:Nat))] ⟨rfl,rfl⟩ li)))
theorem RH {m m':Yo} {B:List Nat} {y:X7} (k:Kp m m') (h:Qb m B y):Qb m' B y:=⟨⟨h.1.1,RG k h.1.2⟩,⟨h.2.1,L6 k h.2.2⟩⟩
theorem M9 {m:Yo} {B:List Nat} {y:X7} (h:Qb m B y):∀a∈W8 y,Vf m a:=fun a ha=>(Yz.1 ha).elim (Gg h.1.2 a) (Mc h.2.2 a)
theorem Zet (x:Zj) (hl:Wo x<=1000000000):Za 17 [X6 x] [] (fun r h=>∃(y:X7) (S:List Nat) (M:Yo),r=av y/\h=[.own S M]/\(y.er=x/\Qb M S y/\(W8 y).Nodup/\A9 S M y)):=(Bk x hl).thaw
theorem Pc (S:List Nat) (M:Yo) (y:X7) (q:Int) (hs:Qb M S y) (hl:∀d∈y.decls,d.cons.length<=4000000000000) (hq:0<=q/\q+((W8 y).length:Nat)<=4000000000000):Za 22 [av y,.i q] [.own S M] (fun r h=>r=.i (q+((W8 y).length:Nat))/\h=[.own S (wr M (W8 y) q)]):=by
 rw [Cy (BS hs)]
 exact Z99 S M y q hs hl hq
theorem O3 (S:List Nat) (M:Yo) (y:X7) (q:Int) (hs:Qb M S y) (hl:∀d∈y.decls,d.cons.length<=4000000000000) (hh:X9 M (W8 y) q) (hq:0<=q/\q+((W8 y).length:Nat)<=4000000000000):Za 23 [av y,.i q] [.own S M] (fun r h=>r=.i (q+((W8 y).length:Nat))/\h=[.own S M]):=by
 rw [Cy (BS hs)]
 exact Z5e S M y q hs hl hh hq
theorem Ry {S:List Nat} {M:Yo}:∀r∈[Res.own S M],∃B m,r=.own B m:=fun _ hr=>⟨S,M,YL.1 hr⟩
theorem Hl (y:X7) (x:Zj) (S:List Nat) (M:Yo) (he:y.er=x) (hrp:A9 S M y) (hl:Wo x<=1000000000):Za 19 [av y,X6 x] [.own S M] (fun r h=>r=.b true/\h=[.own S M]):=by
 subst he
 have h1:Za 19 [VJ y,X6 y.er] [] _:=(HU y.er hl).args_le (.cons (J4 y) (.cons (Zm.refl _) .nil))
 refine (h1.lendO [.own S M] (.lent (YL.2 rfl) hrp (.same .nil)) Ry ?_).mono ?_
 ·rintro r h ⟨rfl,rfl⟩;exact ⟨.val,fun q hq=>by cases hq⟩
 ·rintro r h ⟨h1,⟨rfl,rfl⟩,rfl⟩;exact ⟨rfl,rfl⟩
theorem Z4l (y z:X7) (S:List Nat) (M:Yo) (he:y.er=z.er) (hrp:A9 S M y) (hl:Wo z.er<=1000000000):Za 19 [av y,VJ z] [.own S M] (fun r h=>r=.b true/\h=[.own S M]):=
 (Hl y z.er S M he hrp hl).args_le (.cons (Zm.refl _) (.cons (J4 z) .nil))
theorem Z4k (z:X7) (x:Zj) (he:z.er=x) (hl:Wo x<=1000000000):Za 19 [VJ z,X6 x] [] (ZQ (.b true)):=by
 subst he
 exact (HU z.er hl).args_le (.cons (J4 z) (.cons (Zm.refl _) .nil))
theorem Zcu (z:X7) (n:Zj) (he:z.er=n) (hz:WM n):Za 20 [VJ z] [] (ZQ (.tup [X6 ((XM n).1),.b ((XM n).2)])):=by
 subst he
 have h1:Za 20 [VJ z] [] _:=(Zcg z.er hz).args_le (.cons (J4 z) .nil)
 exact h1
theorem Oi (z:X7) (n:Zj) (he:z.er=n) (hz:WM n) (hr:∀r∈n.routines,r.body.rng):Za 21 [VJ z] [] (fun r h=>∃(y:X7),r=.tup [VJ y,.b ((XM n).2)]/\h=[.many (Xh y)]/\y.er=(XM n).1):=by
 subst he
 exact (Oa z.er hz hr).args_le (.cons (J4 z) .nil)
theorem Z6t (z:X7) (n:Zj) (S:List Nat) (M:Yo) (he:z.er=n) (hz:WM n) (hr:∀r∈n.routines,r.body.rng) (hrp:A9 S M z):Za 21 [av z] [.own S M] (fun r h=>∃(y:X7) (S2:List Nat) (M2:Yo),r=.tup [av y,.b ((XM n).2)]/\h=[.own S2 M2,.own S M]/\(y.er=(XM n).1/\Qb M2 S2 y/\(W8 y).Nodup/\A9 S2 M2 y)):=by
 refine ((Oi z n he hz hr).thaw2.lendO [.own S M] (.lent (YL.2 rfl) hrp .nil) Ry ?_).mono ?_
 ·rintro r h ⟨y,S2,M2,rfl,rfl,_⟩
  refine ⟨.tup fun q hq=>?_,fun q hq=>by rw [YL.1 hq];trivial⟩
  rcases YA.1 hq with rfl|hq
  ·exact .agg fun q hq=>by
    rcases YA.1 hq with rfl|hq
    ·exact .val
    ·rw [YL.1 hq];exact .val
  ·rw [YL.1 hq];exact .val
 ·rintro r h ⟨h1,⟨y,S2,M2,rfl,rfl,hp⟩,rfl⟩;exact ⟨y,S2,M2,rfl,rfl,hp⟩
theorem Z84 (n:Zj) (hl:Wo n<=9223372036854775807) (hr:∀r∈n.routines,r.body.rng):Za 6 [X6 n] [] (ZQ (.b true)):=by
 refine Zx 96 Tryz.func6 (ar (iA (Wb n) fun b1=>Z0 (Zh (ZB 2 [0] (ZC [] (OR n 1048576 ob ob) (Z0 (Yt (ZO ((Y7 (Wo n) 1048576)<0) (fun Z5=>?_) (fun Z5=>?_)))))))))
 ·exact ar (Z8 (Te))
 have YH:Wo n<=1048576:=by unfold Y7 at Z5;split at Z5<;>omega
 have hz:=Pu (n:=n) om
 have hxc:=Z26 hz
 refine ak (ZB 1 [0] (ic [] (Bk n ob) ?_))
 rintro _ _ ⟨y1,rfl,rfl,Yd⟩
 have hnhp1:Wo y1.er<=1000000000:=by rw [Yd];omega
 refine ZC [] (Zcu y1 n ob ob) (Z1 3 (iA [nl,nl] fun b2=>Y4 0 b2 (Wb ((XM n).1)) (Z0 (ZB 1 [2] (ic [] (Zet n ob) ?_)))))
 rintro _ _ ⟨y2,S1,M1,rfl,rfl,YX⟩
 obtain ⟨ho1,ho2,ho3,ho4⟩:=YX
 have ho5:=M8 y2
 have ho6:=N8 (y:=y2)
 rw [ho1] at ho5 ho6
 have ho7:∀d∈y2.decls,d.cons.length<=4000000000000:=fun d hd=>by have:=ho6 d hd;omega
 refine iA [nl,nl] fun b3=>Y4 0 b3 [.val ((KM y2.dv).v),.val ((KM y2.rv).v)] (ie (ZB 1 [0] (ic [1] (Z6t y2 n S1 M1 ob ob ob ob) ?_)))
 rintro _ _ ⟨y3,S21,M21,rfl,rfl,XB⟩
 obtain ⟨hg1,hg2,hg3,hg4⟩:=XB
 have hg5:=M8 y3
 have hg6:=N8 (y:=y3)
 rw [hg1] at hg5 hg6
 have hg7:∀d∈y3.decls,d.cons.length<=4000000000000:=fun d hd=>by have:=hg6 d hd;omega
 refine Z1 3 (iA [nl,nl] fun b4=>Y4 0 b4 [.val ((KM y3.dv).v),.val ((KM y3.rv).v)] (Z0 (Yp 2 [0,4] (ZC [1] (Hl y3 ((XM n).1) S21 M21 ob ob ob) (Z1 4 (Zi (HT ((XM n).2) ((XM n).2)) (Yw (((XM n).2) != ((XM n).2)) ZP (fun Zd=>?_) (fun Zd=>?_))))))))
 ·exact ar (Z8 (Zp (.b false) (lb (absurd rfl Zd))))
 refine ak (aq (aD 5 (Ya 3 5 [0,1] [3,6] (ZF 2 (dc 2 [] [1] [b3] (Bk n ob) ?_)))))
 rintro _ _ ⟨y4,rfl,rfl,XH⟩
 have hnhp4:Wo y4.er<=1000000000:=by rw [XH];omega
 refine ZF 3 (W4 3 [3] [] [] (Z4l y2 y4 S1 M1 (by rw [ho1];symm;assumption) ob ob) (Zo 0 1 [4] (de (XF (ak (Zh (ZB 2 [4] (ZC [0] (Pc S1 M1 y2 1 ob ob ob) (Z0 (Yt (XC 8 [1,4,5,7,8] [(56,.b (decide (((1:Int)+((W8 y2).length:Nat))<0)))] (fun gz=>gz) ?_ (fun hj1=>?_))))))))))))
 ·refine Wa [1,4,5,7] [(61,.b ((decide (((1:Int)+((W8 y2).length:Nat))<0))||(((XM n).2) != ((XM n).2))))] (fun gz=>gz) ?_ ?_
  ·refine Z1 1 (ib (b:=(decide (((1:Int)+((W8 y2).length:Nat))<0))) 57 (fun Zc=>?_) (fun Zc=>?_))
   ·have VT:((1:Int)+((W8 y2).length:Nat))<0:=(dq).1 Zc
    exact Z0 (Y5 8 (Zq true Zc fl))
   have Uu:¬(((1:Int)+((W8 y2).length:Nat))<0):=Y3 dq Zc
   exact Z1 2 (Zi (HT ((XM n).2) ((XM n).2)) (Z0 (Y5 8 (Zq (((XM n).2) != ((XM n).2)) Zc fl))))
  refine ac ((decide (((1:Int)+((W8 y2).length:Nat))<0))||(((XM n).2) != ((XM n).2))) (p:=(((1:Int)+((W8 y2).length:Nat))<0)∨(((XM n).2)≠((XM n).2))) (Yj dq ZP) (fun Zw=>?_) (fun Zw=>?_)
  ·exact ar (Z8 (Zp (.b false) (lb (Zw.elim (fun q=>by omega) fun q=>absurd rfl q))))
  refine ak (Zh (ZB 2 [3] (ZC [2] (Pc S21 M21 y3 1 ob ob ob) (Z0 (Zh (ZB 2 [3] (ZC [0] (O3 S21 (wr M21 (W8 y3) 1) y3 1 (RH ((Kp.refl _).wr (M9 hg2) 1) hg2) ob (HI _ _ _ hg3) ob) (Z0 (Yt (ZO (((1:Int)+((W8 y3).length:Nat))<0) (fun Yg=>?_) (fun Yg=>?_)))))))))))
  ·exact ar (Z8 (Zp (.b false) lb))
  refine ak (Yt (Yw (((1:Int)+((W8 y3).length:Nat)) != ((1:Int)+((W8 y3).length:Nat))) ZP (fun Xp=>?_) (fun Xp=>?_)))
  ·exact ar (Z8 (Zp (.b false) lb))
  refine ak (ZB 1 [7] (ic [] (Bk n ob) ?_))
  rintro _ _ ⟨y5,rfl,rfl,T1⟩
  have hnhp7:Wo y5.er<=1000000000:=by rw [T1];omega
  refine ic [] (Oi y5 n ob ob ob) ?_
  rintro _ _ ⟨y6,rfl,rfl,Tj⟩
  refine Z1 3 (iA [nl,nl] fun b5=>Y4 0 b5 (C2 y6) (Z0 (Yp 2 [0,8] (ZC [] (Z4k y6 ((XM n).1) ob ob) (Z1 4 (Zi (HT ((XM n).2) ((XM n).2)) (Yw (((XM n).2) != ((XM n).2)) ZP (fun Wf=>?_) (fun Wf=>?_))))))))
  ·exact ar (Z8 (Zp (.b false) (lb (absurd rfl Wf))))
  refine ak (Zh (ZB 2 [6] (ZC [3] (O3 S21 (wr M21 (W8 y3) 1) y3 1 (RH ((Kp.refl _).wr (M9 hg2) 1) hg2) ob (HI _ _ _ hg3) ob) (Z0 (Yt (ZO (((1:Int)+((W8 y3).length:Nat))<0) (fun T0=>?_) (fun T0=>?_)))))))
  ·exact ar (Z8 (Zp (.b false) lb))
  refine ak (Yt (Yw (((1:Int)+((W8 y3).length:Nat)) != ((1:Int)+((W8 y3).length:Nat))) ZP (fun VD=>?_) (fun VD=>?_)))
  ·exact ar (Z8 (Zp (.b false) lb))
  exact ak (ar (Z8 (Te)))
 refine Z1 3 (ib (b:=(decide (((1:Int)+((W8 y2).length:Nat))<0))) 51 (fun ZD=>?_) (fun ZD=>?_))
 ·have Qp:((1:Int)+((W8 y2).length:Nat))<0:=(dq).1 ZD
  exact Z1 5 (Ye (Y5 8 (fc (x:=.b true) (lb ZD.symm) fl)) hj1)
 have Ke:¬(((1:Int)+((W8 y2).length:Nat))<0):=Y3 dq ZD
 exact Y6 2 [3,5] (ZC [2] (Hl y3 ((XM n).1) S21 M21 ob ob ob) (Z1 2 (Ye (wk [1,1,0,0,0,0,0,0] (fc (x:=.b false) (lb ZD.symm) fl)) hj1)))


structure CL (ds:List Zg) (nf m:Nat) (xs:List Z7) (d z:Nat):Prop where
 fs:Ex ds nf m xs
 dn:El xs=d
 op:Fh DT xs
 sz:Y9 xs<=z
section
variable {ds:List Zg} {nf m d z:Nat} {xs:List Z7}
end
structure KB (ds:List Zg) (nf m:Nat) (b:Zf) (z:Nat):Prop where
 fb:fB ds nf m b
 op:C6 DT b
 sz:b.sz<=z
section
variable {ds:List Zg} {nf m d z:Nat} {xs:List Z7}
end
structure KK (ds:List Zg) (nf:Nat) (sc:Nat->Nat) (ks:List Zf) (z:Nat):Prop where
 fb:Ew ds nf sc 0 ks
 op:Io DT ks
 sz:Xn ks<=z
section
variable {ds:List Zg} {nf m z:Nat} {sc:Nat->Nat}
end
structure KT (ds:List Zg) (nf m:Nat) (st:Z7) (z:Nat):Prop where
 fs:fS ds nf m st
 cb:YT st.op=false
 op:PF DT st
 sz:st.sz<=z

section
variable {ds:List Zg} {nf:Nat}
end
structure Wl (ds:List Zg) (b:Zf):Prop where
 w:wB ds b
 nr:Pq b
 rng:b.rng
structure WlS (ds:List Zg) (s:Z7):Prop where
 w:wS ds s
 nr:Ps s
 rng:s.rng
section
variable {ds:List Zg}
theorem Lh:∀{xs:List Z7},U0 xs↔∀s∈xs,s.rng
 | []=>by simp [U0]
 | s::r=>by rw [U0,Lh];simp
end
structure ZR (q:Nat) (r:Yy):Prop where
 params:r.params.length<=3
 lent:r.lent.length<=10
 body:r.body.sz<=q
 rng:r.body.rng
 rb:r.body.rb
structure ZN (n:Zj) (q:Nat):Prop where
 decls:AD n.decls
 len:1<=n.routines.length/\n.routines.length<=4
 rt:∀r∈n.routines,ZR q r
structure WN (n:Zj) (q:Nat):Prop where
 ok:YZ n
 zn:ZN n q
 wl:∀r∈n.routines,Wl n.decls r.body
structure ZS (n:Zj) (q l:Nat):Prop where
 decls:AD n.decls
 len:1<=n.routines.length/\n.routines.length<=4
 rt:∀r∈n.routines,r.params.length<=3/\r.lent.length<=l/\r.body.sz<=q/\r.body.rng
 rb:∀r∈n.routines,r.body.rb
section
variable {n n2:Zj} (hd:n2.decls=n.decls) (hr:∀vars op num args,Uz n2 vars op num args=Uz n vars op num args)
include hd hr
end
theorem Rb {n:Zj}:∀{l:List Yy},(∀r∈l,¬UM r.body<0/\Yv n r.params r.body=r.result)->Tz n l=true
 | [],_=>by rw [Tz]
 | r::rs,h=>by rw [Tz,Z6 (h r (YY ..))];exact Rb fun q hq=>h q (Xy _ hq)
section
variable {n:Zj}
end
noncomputable instance decBlock:DecidableEq Zf:=fun a b=>Classical.propDecidable (a=b)
noncomputable instance decStep:DecidableEq Z7:=fun a b=>Classical.propDecidable (a=b)
noncomputable instance decDecls:DecidableEq Zg:=fun a b=>Classical.propDecidable (a=b)
noncomputable instance decNormal:DecidableEq Zj:=fun a b=>Classical.propDecidable (a=b)

mutual
def kS:Z7->Nat
 | .mk op _ _ _ kids=>(if YT op=true then 1 else 0)+OD kids
def kB:Zf->Nat
 | .mk steps _=>OH steps
def OH:List Z7->Nat
 | []=>0
 | s::r=>kS s+OH r
def OD:List Zf->Nat
 | []=>0
 | b::r=>kB b+OD r
end
section
variable {ds:List Zg}
end
section
variable {ds:List Zg}
end
section
variable {n:Zj}
end
section
variable {ds:List Zg}
end
structure CR2 (c d:LI):Prop where
 l1:c.length=4
 l2:d.length=4
 a:gI c 0=gI d 0
 b:gI c 1=gI d 1
 s:gI c 2+gI c 3=gI d 2+gI d 3
section
variable {ds:List Zg}
end
section
variable {ds:List Zg}
end

structure Zfq (n:Zj) (r:Yy) (k:Nat) (L:Zb):Prop where
 ok:YK n.decls L (1+4*r.body.sz)
 pre:∃ws,L.vars=r.params++ws
 len:L.vars.length<=r.params.length+r.body.sz
 ty:∀s,r.body.steps[k]? = some s->0<=ZT n L.vars s
end Go.Abs
section
namespace Go.Abs
section
variable {n n2:Zj} (hd:n2.decls=n.decls) (hr:∀vars op num args,Uz n2 vars op num args=Uz n vars op num args) (hl:∀op num,JN n2 op num=JN n op num)
include hd hr hl
omit hd hr in
omit hd hr in
omit hr in
end
end Go.Abs
namespace Go.Abs
end Go.Abs
end
namespace Go.Abs
section
variable {ds:List Zg}
end
section
variable {n:Zj}
theorem Sx {us:LI} {op x:Int} (h:op=14∨op=15):ZT n us (XZ op x)=(match YN us x with|some t=>if t=0 then -1 else 0|none=>-1):=by
 rw [XZ,ZT]
 have hv:Vq us op 0=true:=by simp [Vq]
 rw [Z4 (by rw [hv];simp),Z4 om,Z4 om,Z4 om,Z4 om,Z4 om,Z4 om,Z4 om,Z4 om,Z6 om,TD]
 cases YN us x with
 | none=>rfl
 | some t=>
  show (if t=0 then (-1:Int) else if (op≠14/\op≠15)/\XO n.decls t=true then -1 else 0)=if t=0 then -1 else 0
  split
  ·rfl
  ·rw [Z4 om]
theorem Zf2 {us:LI} {op x:Int} (h:op=14∨op=15) (g:0<=ZT n us (XZ op x)):∃t,YN us x=some t/\t≠0:=by
 rw [Sx h] at g
 cases ha:YN us x with
 | none=>rw [ha] at g;exact absurd g (show ¬(0:Int)<=-1 by decide)
 | some t=>
  rw [ha] at g
  refine ⟨t,rfl,fun e=>?_⟩
  subst e
  exact absurd g (show ¬(0:Int)<=(if (0:Int)=0 then -1 else 0) by decide)
theorem Sy {us:LI} {op x t:Int} (h:op=14∨op=15) (ha:YN us x=some t) (h0:t≠0):ZT n us (XZ op x)=0:=by
 rw [Sx h,ha]
 show (if t=0 then (-1:Int) else 0)=0
 rw [Z4 h0]
theorem Z2g {op:Int} (h:op=14∨op=15):XA op=false:=by rcases h with rfl|rfl<;>rfl
end
structure SC (f g:Int->Nat) (same:Prop):Prop where
 a:f 14<=g 14
 c:g 16<=f 16
 d:f 17=g 17
 e:f 16=g 16->same
section
variable {ds:List Zg}
end
structure OT (ds:List Zg) (L:Zb):Prop where
 own:∀(i:Nat) (x:Int),L.own[i]? = some x->x≠0->∃t,L.vars[i]? = some t/\t≠0
 arm:∀x:Int,0<=x->x<L.vars.length->0<=gI L.con x->∀(i:Nat) (t:Int),(Y1 ds (gI L.con x))[i]? = some t->L.vars[(gI L.fst x).toNat+i]? = some t
def Zb.wo (L:Zb) (o:LI):Zb:=⟨L.vars,o,L.par,L.con,L.fst,L.tok⟩
section
variable {n:Zj} {ln:LI}
structure Zft (ln:LI) (L M:Zb) (l:List Z7):Prop where
 e:M=L.wo M.own
 len:M.own.length=L.own.length
 own:∀v:Int,0<=v->gI M.own v=gI L.own v+(Cx 14 l).count v-(Cx 15 l).count v
 dup:∀a∈Cx 14 l,XL L ln a=true
 aliv:∀w:Int,0<=w->w<L.vars.length->1<=gI M.own w->XL L ln w=true
 nn:(∀x∈L.own,0<=x)->∀x∈M.own,0<=x
end
structure Zfr (i:Nat) (L:Zb):Prop where
 o:i<L.own.length
 v:i<L.vars.length
 t:i<L.tok.length
section
variable {ds:List Zg}
theorem Zdf {xs ys:List Z7} (h:U0 xs) (g:U0 ys):U0 (xs++ys):=by
 rw [Lh] at h g ⊢
 intro s hs
 rcases Yz.1 hs with hs|hs
 ·exact h s hs
 ·exact g s hs
end
theorem Z1g {n:Zj} (hb:U2 n=true):XX n=true:=by rw [U2,Xv] at hb;exact hb.1
theorem Z1z (bs:List Zf):(UQ bs).length=bs.length:=by rw [E6,Um]
theorem Z22 {n:Zj}:∀vars op num args,Uz (Wr n) vars op num args=Uz n vars op num args:=by
 intro vars op num args
 unfold Uz Wr
 dsimp only
 have e:YN (n.routines.map U4) num=(YN n.routines num).map U4:=by
  unfold YN
  rw [Um]
  split
  ·rw [Tm]
  ·rfl
 rw [e]
 cases YN n.routines num with
 | none=>rfl
 | some r=>rfl
def Di (us:LI) (L:List (Int × Int)):Prop:=∀p∈L,∃t,YN us p.1=some t/\t≠0
section
variable {n:Zj}
theorem Zf3 {us:LI} {s:Z7} (hw:wS n.decls s) (hp:s.op=14∨s.op=15) (h:0<=ZT n us s):∃t,YN us (ev s).1=some t/\t≠0:=by
 obtain ⟨_,hk,a,ha⟩:=Bl hw (by simp [YT];omega)
 have hc:=((LA s).1 hw).2.1 (by simp [YT];omega)
 have e:s=XZ s.op a:=by
  cases s with
  | mk op num into args kids=>
   simp only [Z7.num,Z7.into,Z7.kids,Z7.args] at hc hk ha
   rw [hc.1,hc.2.1,ha,hk];rfl
 rw [e] at h
 have:=Zf2 hp h
 show ∃t,YN us (gI s.args 0)=some t/\t≠0
 rw [ha];exact this
theorem Di.snoc {us:LI} {L:List (Int × Int)} {s:Z7} (hL:Di us L) (h:∃t,YN us (ev s).1=some t/\t≠0):Di us (L++[ev s]):=fun p hp=>by
 rcases Yz.1 hp with hp|hp
 ·exact hL p hp
 ·rw [YL.1 hp];exact h
theorem Z3m {L:List (Int × Int)} {vs:LI} {v:Int} (h:v∈UI L vs):v∈vs:=by
 rw [UI,Co] at h
 obtain ⟨x,hx,hv⟩:=h
 rw [Ck hv];exact hx
theorem Z3l {L:List (Int × Int)} {vs:LI} {v:Int} (h:v∈Ts L vs):v∈vs:=by
 rw [Ts,Co] at h
 obtain ⟨x,hx,hv⟩:=h
 rw [Ck hv];exact hx
theorem RB {n2:Zj} {us:LI} {L:List (Int × Int)} (h:Di us L):∀s∈Vj L,0<=ZT n2 us s/\XA s.op=false:=by
 intro s hs
 rw [Vj,Yz] at hs
 rcases hs with hs|hs
 ·obtain ⟨v,hv,rfl⟩:=Xe.1 hs
  obtain ⟨p,hp,e⟩:=Dc.1 (Z3m hv)
  obtain ⟨t,h1,h2⟩:=h p hp
  rw [e] at h1
  exact ⟨by rw [Sy (.inl rfl) h1 h2];exact Int.le_refl _,rfl⟩
 ·obtain ⟨v,hv,rfl⟩:=Xe.1 hs
  obtain ⟨p,hp,e⟩:=Dc.1 (Z3l hv)
  obtain ⟨t,h1,h2⟩:=h p hp
  rw [e] at h1
  exact ⟨by rw [Sy (.inr rfl) h1 h2];exact Int.le_refl _,rfl⟩
theorem Lw {n2:Zj} {us:LI}:∀{l r:List Z7},(∀s∈l,0<=ZT n2 us s/\XA s.op=false)->Xu n2 (l++r) us=Xu n2 r us
 | [],r,_=>rfl
 | s::l,r,h=>by
  have h1:=h s (YY ..)
  rw [Ku,Xu,Z4 om,h1.2,Z4 (by decide)]
  exact Lw fun t ht=>h t (Xy _ ht)
mutual
theorem Z25:∀(s:Z7) {us:LI},wS n.decls s->0<=ZT n us s->ZT (Wr n) us (TW s)=ZT n us s
 | .mk op num into args kids,us,hc,h=>by
  have hd:(Wr n).decls=n.decls:=rfl
  have hrt:=Z22 (n:=n) us op num args
  have hl:=Z1z kids
  have hv:Vq us op 0=true:=by simp [Vq]
  rw [wS] at hc
  have hk:=fun (ms:List LI) (f:Bool) (t:Int) (hh:0<=XP n us kids ms f t)=>MM kids (us:=us) (ms:=ms) (f:=f) (t:=t) hc.2.2.2 hh
  rw [ZT] at h ⊢
  rw [TW,ZT,hd,hrt,hl]
  split at h
  ·omega
  ·rename_i h1
   rw [Z4 h1,Z4 h1]
   by_cases g0:op=0
   ·simp only [Z6 g0]
   simp only [Z4 g0] at h ⊢
   by_cases g1:op=1∨op=2∨op=3∨op=4
   ·simp only [Z6 g1]
   simp only [Z4 g1] at h ⊢
   by_cases g5:op=5
   ·simp only [Z6 g5]
   simp only [Z4 g5] at h ⊢
   by_cases g6:op=6
   ·simp only [Z6 g6]
   simp only [Z4 g6] at h ⊢
   by_cases g7:op=7
   ·simp only [Z6 g7] at h ⊢
    by_cases q1:XD us args [0]=true
    ·simp only [Z6 q1] at h ⊢
     by_cases q2:(YJ n.decls op num).length=0∨kids.length≠(YJ n.decls op num).length
     ·simp only [Z6 q2]
     ·simp only [Z4 q2] at h ⊢
      exact hk _ _ _ h
    ·simp only [Z4 q1]
   simp only [Z4 g7] at h ⊢
   by_cases g8:op=8
   ·simp only [Z6 g8] at h ⊢
    by_cases q1:XD us args [num]=true
    ·simp only [Z6 q1] at h ⊢
     by_cases q2:(YJ n.decls op num).length=0∨kids.length≠(YJ n.decls op num).length
     ·simp only [Z6 q2]
     ·simp only [Z4 q2] at h ⊢
      exact hk _ _ _ h
    ·simp only [Z4 q1]
   simp only [Z4 g8] at h ⊢
theorem MM:∀(bs:List Zf) {us:LI} {ms:List LI} {f:Bool} {t:Int},Ji n.decls bs->0<=XP n us bs ms f t->XP (Wr n) us (UQ bs) ms f t=XP n us bs ms f t
 | [],us,ms,f,t,_,h=>by rw [UQ,XP,XP]
 | b::r,us,[],f,t,_,h=>by rw [UQ,XP,XP]
 | b::r,us,m::ms,f,t,hw,h=>by
  rw [XP] at h ⊢
  split at h
  ·omega
  ·rename_i h1
   have hb:=ML b (us:=us++m) hw.1 om
   rw [Z4 h1,UQ,XP,hb,Z4 h1]
   exact MM r hw.2 h
theorem GM:∀(xs:List Z7) {us vs:LI} {L:List (Int × Int)},KX n.decls xs->Di us L->Xu n xs us=some vs->Xu (Wr n) (WY xs L) us=some vs
 | [],us,vs,L,_,hL,h=>by
  rw [Xu] at h
  rw [WY]
  have:=Lw (n2:=Wr n) (r:=[]) (RB hL)
  rw [AM] at this
  rw [this,Xu];exact h
 | s::r,us,vs,L,hw,hL,h=>by
  rw [Xu] at h
  split at h
  ·cases h
  ·rename_i h1
   rw [WY]
   by_cases hp:s.op=14∨s.op=15
   ·rw [Z6 hp]
    rw [Z2g hp,Z4 (by decide)] at h
    exact GM r hw.2 (hL.snoc (Zf3 hw.1 hp om)) h
   ·rw [Z4 hp,Lw (RB hL),Xu,Z25 s hw.1 om,Z4 h1,show (TW s).op=s.op by rw [GJ];rfl]
    exact GM r hw.2 (fun p hp=>by cases hp) h
theorem ML:∀(b:Zf) {us:LI},wB n.decls b->0<=Yv n us b->Yv (Wr n) us (W9 b)=Yv n us b
 | .mk steps result,us,hw,h=>by
  rw [wB] at hw
  rw [Yv] at h ⊢
  cases hs:Xu n steps us with
  | none=>rw [hs] at h;exact absurd h (show ¬(0:Int)<=-1 by decide)
  | some vs=>rw [W9,Yv,GM steps hw (fun p hp=>by cases hp) hs]
end
end
theorem HZ {op:Int} {r:List Z7}:∀{l:LI} {q:Int},(l.length:Int)<=q->V9 (l.map (XZ op)++r) q=V9 r (q-l.length)
 | [],q,_=>by simp
 | v::l,q,h=>by
  rw [XI] at h
  rw [WC,Ku,V9,Z4 om]
  have e:Ty (XZ op v) (q-1)=q-1:=by rw [XZ,Ty,VO]
  rw [e,Z4 om,HZ om,XI]
  congr 1;omega
theorem OY {L:List (Int × Int)} {r:List Z7} {q:Int} (hu:Un L) (h:(L.length:Int)<=q):∃q',V9 (Vj L++r) q=V9 r q'/\q-L.length<=q'/\q'<=q:=by
 have hd:=CI hu
 refine ⟨q-(UI L (YU L)).length-(Ts L (YU L)).length,?_,by omega,by omega⟩
 rw [Vj,U1,HZ om,HZ om]
section
variable {ds:List Zg}
mutual
theorem Z8q:∀(s:Z7) {l l':Int},wS ds s->0<=l->l<=l'->0<=Ty s l->Ty s l<=Ty (TW s) l'
 | .mk op num into args kids,l,l',hw,h0,hl,h=>by rw [wS] at hw;rw [Ty] at h ⊢;rw [TW,Ty];exact OX kids hw.2.2.2 h0 hl h
theorem OW:∀(b:Zf) {l l':Int},wB ds b->0<=l->l<=l'->0<=XW b l->XW b l<=XW (W9 b) l'
 | .mk steps _,l,l',hw,h0,hl,h=>by rw [wB] at hw;rw [XW] at h ⊢;rw [W9,XW];exact HY steps (L:=[]) hw Un.nil h0 (by simpa using hl) h
theorem HY:∀(xs:List Z7) {L:List (Int × Int)} {l l':Int},KX ds xs->Un L->0<=l->l+L.length<=l'->0<=V9 xs l->V9 xs l<=V9 (WY xs L) l'
 | [],L,l,l',_,hu,h0,hl,h=>by
  obtain ⟨q',e,e1,e2⟩:=OY (r:=[]) (q:=l') hu om
  rw [AM] at e
  rw [WY,e,V9,V9];omega
 | s::r,L,l,l',hw,hu,h0,hl,h=>by
  have e:V9 (s::r) l=(if l<1 then -1 else if Ty s (l-1)<0 then -1 else V9 r (Ty s (l-1))):=by rw [V9]
  rw [e] at h ⊢
  split at h
  ·omega
  ·rename_i h1
   split at h
   ·omega
   ·rename_i h2
    rw [Z4 h1,Z4 h2,WY]
    have h3:=D7.1 s (l-1) om
    split
    ·rename_i hp
     refine HY r hw.2 (hu.snoc s) om ?_ h
     rw [YE];simp only [XI,Vy];omega
    ·obtain ⟨q',e1,e2,e3⟩:=OY (r:=TW s::WY r []) (q:=l') hu om
     rw [e1]
     have h4:=Z8q s (l:=l-1) (l':=q'-1) hw.1 om om om
     rw [V9,Z4 om,Z4 om]
     exact HY r (L:=[]) hw.2 Un.nil om (by simpa using h4) h
theorem OX:∀(xs:List Zf) {l l':Int},Ji ds xs->0<=l->l<=l'->0<=VO xs l->VO xs l<=VO (UQ xs) l'
 | [],l,l',_,h0,hl,h=>by rw [VO,UQ,VO];exact hl
 | b::r,l,l',hw,h0,hl,h=>by
  have e:VO (b::r) l=(if XW b l<0 then -1 else VO r (XW b l)):=by rw [VO]
  rw [e] at h ⊢
  split at h
  ·omega
  ·rename_i h2
   rw [Z4 h2,UQ]
   have h4:=OW b hw.1 h0 hl om
   rw [VO,Z4 om]
   exact OX r hw.2 om h4 h
end
end
theorem Z21 (n:Zj):Va (Wr n)=Va n:=by
 have e1:(n.routines.map U4).map VZ=n.routines.map VZ:=by rw [List.map_map];rfl
 have e2:∀rs:List Yy,TN (rs.map U4)=TN rs:=by
  intro rs
  induction rs with
  | nil=>rfl
  | cons r rs ih=>rw [WC,TN,TN,ih];rfl
 unfold Va Wr
 dsimp only
 rw [e1,e2,Um]
theorem Z23 {n:Zj} (hz:WM n) (hV:XX n=true):XX (Wr n)=true:=by
 have hV0:=hV
 obtain ⟨hn,hvt⟩:=DG hz hV
 have hwb:=DH hn hz hvt
 simp only [XX,Xv] at hV
 have hall:=IF hV.2
 rw [XX,Z21,hV.1,Bool.true_and]
 refine Rb fun p hp=>?_
 obtain ⟨r,hr,rfl⟩:=Xe.1 (show p∈n.routines.map U4 from hp)
 obtain ⟨h1,h2⟩:=hall r hr
 constructor
 ·show ¬UM (W9 r.body)<0
  rw [UM] at h1 ⊢
  split at h1
  ·exact absurd (show (-1:Int)<0 by decide) h1
  ·rename_i h9
   have h5:=OW r.body (ds:=n.decls) (l:=600) (l':=600) (hwb r hr) om om om
   have h6:=D7.2 (W9 r.body) 600 om
   rw [Z4 om]
   omega
 ·show Yv (Wr n) r.params (W9 r.body)=r.result
  rw [ML r.body (hwb r hr) (hvt r hr),h2]
theorem Cz {n:Zj} (hn:YZ n) (hz:WM n) (hbt:∀r∈n.routines,0<=Yv n r.params r.body):WM (Wr n):=by
 have hwb:=DH hn hz hbt
 refine ⟨hz.decls,by show (n.routines.map U4).length<=_;rw [Um];exact hz.len,fun p hp=>?_,fun p hp=>?_,fun p hp=>?_⟩
 ·obtain ⟨r,hr,rfl⟩:=Xe.1 (show p∈n.routines.map U4 from hp);exact hz.params r hr
 ·obtain ⟨r,hr,rfl⟩:=Xe.1 (show p∈n.routines.map U4 from hp);exact hz.lent r hr
 ·obtain ⟨r,hr,rfl⟩:=Xe.1 (show p∈n.routines.map U4 from hp)
  have:=GI r.body (hwb r hr)
  have:=hz.body r hr
  show (W9 r.body).sz<=_;omega
theorem E7 {n:Zj} (hn:YZ n):YZ (Wr n):=by
 refine ⟨hn.decls,by show (n.routines.map U4).length<=_;rw [Um];exact hn.len,fun p hp=>?_,fun p hp=>?_⟩
 ·obtain ⟨r,hr,rfl⟩:=Xe.1 (show p∈n.routines.map U4 from hp);exact hn.params r hr
 ·obtain ⟨r,hr,rfl⟩:=Xe.1 (show p∈n.routines.map U4 from hp);exact hn.lent r hr
theorem R9 (op v:Int):(XZ op v).rng:=by rw [XZ,Z7.rng];exact ⟨by omega,True.intro⟩
theorem Rz (L:List (Int × Int)):U0 (Vj L):=by
 rw [Lh]
 intro s hs
 rw [Vj,Yz] at hs
 rcases hs with hs|hs
 ·obtain ⟨v,_,rfl⟩:=Xe.1 hs;exact R9 _ _
 ·obtain ⟨v,_,rfl⟩:=Xe.1 hs;exact R9 _ _
mutual
theorem Zax:∀s:Z7,s.rng->(TW s).rng
 | .mk op num into args kids,h=>by rw [Z7.rng] at h;rw [TW,Z7.rng];exact ⟨h.1,R8 kids h.2⟩
theorem R8:∀bs:List Zf,QJ bs->QJ (UQ bs)
 | [],_=>by rw [UQ];exact True.intro
 | b::r,h=>by rw [UQ,QJ];exact ⟨R7 b h.1,R8 r h.2⟩
theorem IE:∀(xs:List Z7) {L:List (Int × Int)},U0 xs->U0 (WY xs L)
 | [],L,_=>by rw [WY];exact Rz L
 | s::r,L,h=>by
  rw [WY]
  split
  ·exact IE r h.2
  ·exact Zdf (Rz L) ⟨Zax s h.1,IE r h.2⟩
theorem R7:∀b:Zf,b.rng->(W9 b).rng
 | .mk steps res,h=>by rw [Zf.rng] at h;rw [W9,Zf.rng];exact IE steps h
end
theorem Z20 {n:Zj} (h:∀r∈n.routines,r.body.rng):∀r∈(Wr n).routines,r.body.rng:=by
 intro r hr
 obtain ⟨q,hq,rfl⟩:=Xe.1 (show r∈n.routines.map U4 from hr)
 exact R7 q.body (h q hq)
def WA (l:LI):Int:=l.foldl (·+·) 0
def Jd (n:Zj):Int:=if U2 n=true then WA (Xt n)-WA (Xt (Wr n)) else -1
theorem Ln {c:LI} {k:Nat} {x:Int} (h:c[k]? = some x):WA (c.take (k+1))=WA (c.take k)+x:=by
 rw [WU h,WA,List.foldl_append];rfl
theorem Sj:∀(c:LI) {a q:Int},(∀x∈c,0<=x/\x<=q)->0<=q->a<=c.foldl (·+·) a/\c.foldl (·+·) a<=a+q*c.length
 | [],a,q,_,hq=>by simp
 | x::r,a,q,h,hq=>by
  have h1:=h x (YY ..)
  have h2:=Sj r (a:=a+x) (q:=q) (fun y hy=>h y (Xy _ hy)) hq
  rw [List.foldl_cons,XI]
  have e:q*((r.length+1:Nat):Int)=q*(r.length:Int)+q:=by rw [Int.natCast_add,Int.mul_add];simp
  omega
theorem Ch {c:LI} {q:Int} (h:CB c q) (hq:0<=q/\q<=1000000000) (k:Nat):0<=WA (c.take k)/\WA (c.take k)<=4000000000:=by
 have h1:=Sj (c.take k) (a:=0) (q:=1000000000) (fun x hx=>by have:=h.bd x (Cp hx);omega) om
 have h2:(c.take k).length<=4:=by rw [Kv,h.len];omega
 rw [WA];omega
theorem MY:∀(rs:List Yy) {c:LI} {q:Int},CB c q->0<=q->(∀r∈rs,r.body.sz<=10000000)->CB (K6 rs c) (q+10000000*rs.length)
 | [],c,q,h,_,_=>by rw [K6];exact h.le (by simp)
 | r::rs,c,q,h,h0,hz=>by
  have h1:=hz r (YY ..)
  have h2:=MY rs (h.b r.body h0) om fun x hx=>hz x (Xy _ hx)
  rw [K6]
  refine h2.le ?_
  rw [XI];omega
theorem Eb {n:Zj} (hn:YZ n) (hz:WM n):CB (Xt n) 40000000:=by
 have h:=MY n.routines (c:=[0,0,0,0]) (q:=0) ⟨rfl,fun x hx=>by simp at hx;omega⟩ (Int.le_refl 0) hz.body
 have:=hn.len
 exact h.le om
open Go.Proofs
theorem Zcs (b:Zf) (c0:LI) (q:Int) (hcb:CB c0 q) (hq:0<=q/\q+b.sz<=4000000000000) (hz:b.sz<=1000000000) (ih:∀(b2:Zf) (c2:LI) (q:Int),(CB c2 q)->(0<=q/\q+b2.sz<=4000000000000)->(b2.sz<=1000000000)->(b2.sz<b.sz)->Za 86 [YG b2,Ze c2] [] (fun r h=>∃(w:Hd),r=.h w/\h=[rV w (UR b2 c2)])):Za 86 [YG b,Ze c0] [] (fun r h=>∃(w:Hd),r=.h w/\h=[rV w (UR b c0)]):=by
 have hbz:=JW b
 have hbe:=b.sz_eq
 have hlc0:=hcb.len
 refine Zx 67 Tryz.func86 (ar (iA (VE b) fun b1=>Z0 (ZM 1 (ic [] (Bg c0) ?_))))
 rintro _ _ ⟨v1,rfl,rfl⟩
 refine Z0 (Ym (ab 0 (ZU (fun fz gz m F h=>∃(k:Nat) (c:LI) (w:Hd),(k<=b.steps.length)/\(CB c (q+Y9 (b.steps.take k)))/\(TY (b.steps.drop k) c=TY b.steps c0)/\F=sF [2] fz [(5,.h w),(6,.i k)]/\h=[Zy gz 1,rV w c]/\m=b.steps.length-k) _ _ _ ⟨0,c0,v1,ob,(hcb.le (by rw [List.take_zero,Y9];omega)),rfl,rfl,rfl,rfl⟩ (wk [1,0] (fr (ZW fl))) ?_)))
 rintro m F h ⟨k,c,w,Y0,Z9,Zz,rfl,rfl,rfl⟩
 refine Yp 3 [0] (iw (T8 b.steps) (ZO ((k:Int)<(b.steps.length:Int)) (fun Z5=>?_) (fun Z5=>?_)))
 ·refine ak (aq (ab 1 (Yp 3 [0] ?_)))
  obtain ⟨x1,Z2⟩:=Zv b.steps k om
  have YH:=FE Z2
  have hlc:=Z9.len
  have hkz:=Qq x1
  have htk:=S6 Z2
  have htl:=S7 b.steps (k+1)
  have hse:=x1.sz_eq
  refine Zi (Zr none (k:Int) 5 (U7 Z2)) (Z1 2 (ZC [] (Zcy x1.op) (ie (TE (fun fz gz F h=>∃(w2:Hd),F=sF [2,6] fz [(5,.h w2)]/\h=[Zy gz 0,rV w2 (TX x1.op c)]) ?_ ?_))))
  ·refine ac (YT x1.op) Iff.rfl (fun Zd=>?_) (fun Zd=>?_)
   ·have hr:=N9 Zd
    have hgx:0<=gI c (x1.op-14)/\gI c (x1.op-14)<=q+Y9 (b.steps.take k):=Z9.at om
    refine aE 21 (Ya 17 21 [0,1,2,3] [0] (dx 4 (Zr none (k:Int) 5 (U7 Z2)) (Zo 14 16 [5,6] (da 7 ((x1.op-14)) ((x1.op)-(14)) (Ya 9 13 [8,9,10,11] [0] (dx 12 (Zr none (k:Int) 5 (U7 Z2)) (Zo 6 8 [13,14] (da 15 ((x1.op-14)) ((x1.op)-(14)) (dx 16 (XE 1 w c (x1.op-14) ((x1.op-14).toNat) (hq:=rfl)) ?_)))))))))
    obtain ⟨x2,Zt⟩:=Zv c ((x1.op-14).toNat) om
    have hgy:=Vt Zt
    exact Qm 17 (WV 1 w c ((x1.op-14).toNat) x2 Zt) (da 18 ((x2+1)) ((x2)+(1)) (dx 19 (XE 1 w c (x1.op-14) ((x1.op-14).toNat) (hq:=rfl)) (ZF 20 (Jy 20 1 [] [] w c ((x1.op-14).toNat) (x2+1) (de (Xo ⟨w,rfl,rfl⟩ (wk [1,0] fl (e:=(rc (rv (xs:=(c.set ((x1.op-14).toNat) (x2+1))) (by rw [MS Zd,hgy]) rz))))))))))
   exact ak (Xo ⟨w,rfl,rfl⟩ (wk [0,0] fl (e:=(rc (rv (xs:=c) (MR Zd).symm rz)))))
  rintro F h ⟨w2,rfl,rfl⟩
  refine Zh (ab 2 (ZU (fun fz gz m F h=>∃(j:Nat) (c2:LI) (u:Hd),(j<=x1.kids.length)/\(CB c2 (q+Y9 (b.steps.take k)+1+Xn (x1.kids.take j)))/\(Tg (x1.kids.drop j) c2=Tg x1.kids (TX x1.op c))/\F=sF [2,6] fz [(5,.h u),(7,.i j)]/\h=[Zy gz 0,rV u c2]/\m=x1.kids.length-j) _ _ _ ⟨0,(TX x1.op c),w2,ob,((Z9.one om x1.op).le (by rw [List.take_zero,Xn];omega)),rfl,rfl,rfl,rfl⟩ (wk [0,0] (fr (ZW fl))) ?_))
  rintro m F h ⟨j,c2,u,T6,Xk,Uc,rfl,rfl,rfl⟩
  refine Yp 4 [0] (Zi (Zr none (k:Int) 5 (U7 Z2)) (Z1 2 (iw (Uf x1.kids) (ZO ((j:Int)<(x1.kids.length:Int)) (fun Zw=>?_) (fun Zw=>?_)))))
  ·refine ak (aq (ab 3 (az (Y6 3 [0] (Zi (Zr none (k:Int) 5 (U7 Z2)) (Z1 3 ?_))))))
   obtain ⟨x3,X0⟩:=Zv x1.kids j om
   have hks:=Kg X0
   have hbt:=Gz X0
   refine Zi (Zr none (j:Int) 2 (TF X0)) (Z1 2 (O6 [1] [rV u c2] (ih x3 c2 (q+Y9 (b.steps.take k)+1+Xn (x1.kids.take j)) Xk ob ob ob) QL (gS (gL (v:=u) 0 gN)) (Vp VV) ?_))
   rintro _ _ ⟨w1,rfl,rfl⟩
   exact Z0 (az (Z1 1 (ZK j (Z0 (ZJ ⟨j+1,(UR x3 c2),w1,ob,(by rw [WU X0,Gy];exact ((Xk.b x3 om).le om)),(MV X0 Uc),rfl,rfl,rfl⟩ (wk [2,0] (fr (ZL j fl))))))))
  have hKe:=MT om Uc
  have hbj:=MD (xs:=x1.kids) (k:=j) om
  exact ax 2 (az (Z1 1 (ZK k (Z0 (ZJ ⟨k+1,(Tg x1.kids (TX x1.op c)),u,ob,(by rw [<-hKe];exact Xk.le om),(N0 Z2 Zz),rfl,rfl,rfl⟩ (wk [0,0] (fr (ZL k fl)) (e:=(rc (rv (xs:=c2) hKe rz)))))))))
 exact ax 0 (ar (Z8 (r1 [1] ⟨w,rfl,rfl⟩ (eq:=(rv (xs:=c) (by rw [MU];exact MZ om Zz) rz)))))
theorem Zcq (k:Nat):∀(b2:Zf) (c2:LI) (q:Int),(CB c2 q)->(0<=q/\q+b2.sz<=4000000000000)->(b2.sz<=1000000000)->(b2.sz<k)->Za 86 [YG b2,Ze c2] [] (fun r h=>∃(w:Hd),r=.h w/\h=[rV w (UR b2 c2)]):=by
 induction k with
 | zero=>intro b c q _ _ _ h;omega
 | succ k ih=>intro b c q h1 h2 h3 h4;exact Zcs b c q h1 h2 h3 fun b2 c2 q2 k1 k2 k3 k4=>ih b2 c2 q2 k1 k2 k3 om
theorem Zcr (b:Zf) (c0:LI) (q:Int) (hcb:CB c0 q:=by exact ob) (hq:0<=q/\q+b.sz<=4000000000000:=by exact ob) (hz:b.sz<=1000000000:=by exact ob):Za 86 [YG b,Ze c0] [] (fun r h=>∃(w:Hd),r=.h w/\h=[rV w (UR b c0)]):=Zcq (b.sz+1) b c0 q hcb hq hz om
theorem RT (n:Zj) (hn:YZ n:=by exact ob) (hz:WM n:=by exact ob):Za 42 [X6 n] [] (fun r h=>∃(w:Hd),r=.h w/\h=[rV w (Xt n)]):=by
 have hzl:=hn.len
 refine Zx 22 Tryz.func42 (ar (iA (Wb n) fun b1=>Z0 (ar (HL [0,0,0,0] 4 fun v1=>?_))))
 refine Z0 (Ym (ab 0 (ZU (fun fz gz m F h=>∃(k:Nat) (c:LI) (w:Hd),(k<=n.routines.length)/\(CB c (10000000*k))/\(K6 (n.routines.drop k) c=Xt n)/\F=sF [1] fz [(3,.h w),(4,.i k)]/\h=[Zy gz 1,rV w c]/\m=n.routines.length-k) _ _ _ ⟨0,[0,0,0,0],v1,ob,⟨rfl,fun x hx=>by simp at hx;omega⟩,rfl,rfl,rfl,rfl⟩ (wk [1,0] (fr (ZW fl))) ?_)))
 rintro m F h ⟨k,c,w,Y0,Z9,Zz,rfl,rfl,rfl⟩
 refine Yp 3 [0] (iw (UJ n.routines) (ZO ((k:Int)<(n.routines.length:Int)) (fun Z5=>?_) (fun Z5=>?_)))
 ·refine ak (aq (ab 1 (az (Y6 3 [0] ?_))))
  obtain ⟨x1,Z2⟩:=Zv n.routines k om
  have hrm:=YF Z2
  have hbz:=hz.body _ hrm
  refine Zi (Zr none (k:Int) 5 (Us Z2)) (Z1 3 (O6 [1] [rV w c] (Zcr x1.body c (10000000*(k:Int)) (hcb:=Z9)) QL (gS (gL (v:=w) 0 gN)) (Vp VV) ?_))
  rintro _ _ ⟨w1,rfl,rfl⟩
  exact Z0 (az (Z1 1 (ZK k (Z0 (ZJ ⟨k+1,(UR x1.body c),w1,ob,((Z9.b x1.body om).le om),(MX Z2 Zz),rfl,rfl,rfl⟩ (wk [2,0] (fr (ZL k fl))))))))
 exact ax 0 (ar (Z8 (r1 [1] ⟨w,rfl,rfl⟩ (eq:=(rv (xs:=c) (MW om Zz) rz)))))
theorem Z2v (s:Z7) (cc:Nat) (g:Hd) (c0:LI) (q:Int) (hcb:CB c0 q:=by exact ob) (hq:0<=q/\q<=4000000000000:=by exact ob):Za 94 [XS s,.p cc 0] [.obj cc [.h g],rV g c0] (fun r h=>h=[.obj cc [.h g],rV g (TX s.op c0)]):=by
 refine Zx 14 Tryz.func94 (ar (iA (WT s) fun b1=>ie (ZB 2 [0] (ZC [] (EM s.op) (ie (ac (YT s.op) Iff.rfl (fun Z5=>?_) (fun Z5=>?_)))))))
 ·have hr:=N9 Z5
  have hgx:0<=gI c0 (s.op-14)/\gI c0 (s.op-14)<=q:=hcb.at om
  have hlc:=hcb.len
  refine az (Y6 3 [1,0] (ia ((s.op-14)) ((s.op)-(14)) (Zi (XE 2 g c0 (s.op-14) ((s.op-14).toNat) (hq:=rfl)) ?_)))
  obtain ⟨x1,Z2⟩:=Zv c0 ((s.op-14).toNat) om
  have hgy:=Vt Z2
  exact Xx (WV 2 g c0 ((s.op-14).toNat) x1 Z2) (ia ((x1+1)) ((x1)+(1)) (Zi (XE 2 g c0 (s.op-14) ((s.op-14).toNat) (hq:=rfl)) (BW 2 g c0 ((s.op-14).toNat) (x1+1) (ie (r2 [2,0] [] rfl (lr _) (eq:=(rc (rv (xs:=(c0.set ((s.op-14).toNat) (x1+1))) (by rw [MS Z5,hgy]) rz))))))))
 exact ak (r2 [1,1] [] rfl (lr _) (eq:=(rc (rv (xs:=c0) (MR Z5).symm rz))))
theorem Z6z (b:Zf) (cc:Nat) (g:Hd) (c0:LI) (q:Int) (hcb:CB c0 q) (hq:0<=q/\q+b.sz<=4000000000000) (hz:b.sz<=1000000000) (ih:∀(b2:Zf) (cc:Nat) (g:Hd) (c2:LI) (q2:Int),(CB c2 q2)->(0<=q2/\q2+b2.sz<=4000000000000)->(b2.sz<=1000000000)->(b2.sz<b.sz)->Za 93 [YG b2,.val (.func (.func 94) #[] #[.pointer (some ⟨cc,0,none⟩)])] [.obj cc [.h g],rV g c2] (fun r h=>h=[.obj cc [.h g],rV g (UR b2 c2)])):Za 93 [YG b,.val (.func (.func 94) #[] #[.pointer (some ⟨cc,0,none⟩)])] [.obj cc [.h g],rV g c0] (fun r h=>h=[.obj cc [.h g],rV g (UR b c0)]):=by
 have hbz:=JW b
 have hbe:=b.sz_eq
 refine Zx 30 Tryz.func93 (ar (iA (VE b) fun b1=>?_))
 refine ie (ZB 2 [0] (iw (T8 b.steps) (Z0 (ab 0 (ZU (fun fz gz m F h=>∃(k:Nat) (c:LI),(k<=b.steps.length)/\(CB c (q+Y9 (b.steps.take k)))/\(TY (b.steps.drop k) c=TY b.steps c0)/\F=sF [1,9,10] fz [(11,.i k)]/\h=[Zy gz 1,rV g c]/\m=b.steps.length-k) _ _ _ ⟨0,c0,ob,(hcb.le (by rw [List.take_zero,Y9];omega)),rfl,rfl,rfl,rfl⟩ (wk [1,1] (ZW fl)) ?_)))))
 rintro m F h ⟨k,c,Y0,Z9,Zz,rfl,rfl,rfl⟩
 refine Zh (aq (Xi ((k:Int)<(b.steps.length:Int)) (fun Z5=>?_) (fun Z5=>?_)))
 ·refine ak (aq (ab 1 (ar ?_)))
  obtain ⟨x1,Z2⟩:=Zv b.steps k om
  have YH:=FE Z2
  have hkz:=Qq x1
  have htk:=S6 Z2
  have htl:=S7 b.steps (k+1)
  have hse:=x1.sz_eq
  refine Zi (Zr none (k:Int) 5 (U7 Z2)) (Z1 1 (iA [.i 0,.i 0,.i 0,nl,nl] fun b2=>Y4 0 b2 (WT x1) (ie (ZB 2 [0] (ic [1,1] (Z2v x1 cc g c (q+Y9 (b.steps.take k)) (hcb:=Z9)) ?_)))))
  rintro _ _ rfl
  refine ie (ZB 2 [2] (iw (Uf x1.kids) (Z0 (ab 2 (ZU (fun fz gz m F h=>∃(j:Nat) (c2:LI),(j<=x1.kids.length)/\(CB c2 (q+Y9 (b.steps.take k)+1+Xn (x1.kids.take j)))/\(Tg (x1.kids.drop j) c2=Tg x1.kids (TX x1.op c))/\F=sF [1,9,10,11,19,20] fz [(21,.i j)]/\h=[Zy gz 0,rV g c2]/\m=x1.kids.length-j) _ _ _ ⟨0,(TX x1.op c),ob,((Z9.one om x1.op).le (by rw [List.take_zero,Xn];omega)),rfl,rfl,rfl,rfl⟩ (wk [0,0] (ZW fl)) ?_)))))
  rintro m F h ⟨j,c2,T6,Xk,Uc,rfl,rfl,rfl⟩
  refine Zh (aq (Xi ((j:Int)<(x1.kids.length:Int)) (fun Zd=>?_) (fun Zd=>?_)))
  ·refine ak (aq (ab 3 (ar ?_)))
   obtain ⟨x2,Zt⟩:=Zv x1.kids j om
   have hks:=Kg Zt
   have hbt:=Gz Zt
   refine Zi (Zr none (j:Int) 2 (TF Zt)) (Z1 1 (iA [nl,.i 0] fun b3=>Y4 0 b3 (VE x2) (ie (az (Y6 2 [0] (ic [1,1] (ih x2 cc g c2 (q+Y9 (b.steps.take k)+1+Xn (x1.kids.take j)) Xk ob ob ob) ?_))))))
   rintro _ _ rfl
   exact ie (az (ZK j (Z0 (ZJ ⟨j+1,(UR x2 c2),ob,(by rw [WU Zt,Gy];exact ((Xk.b x2 om).le om)),(MV Zt Uc),rfl,rfl,rfl⟩ (wk [0,0] (ZL j fl))))))
  have hKe:=MT om Uc
  have hbj:=MD (xs:=x1.kids) (k:=j) om
  exact ax 2 (az (ZK k (Z0 (ZJ ⟨k+1,(Tg x1.kids (TX x1.op c)),ob,(by rw [<-hKe];exact Xk.le om),(N0 Z2 Zz),rfl,rfl,rfl⟩ (wk [0,0] (ZL k fl) (e:=(rc (rv (xs:=c2) hKe rz))))))))
 exact ax 0 (r2 [0,0] [] rfl (lr _) (eq:=(rc (rv (xs:=c) (by rw [MU];exact MZ om Zz) rz))))
theorem Z6x (k:Nat):∀(b2:Zf) (cc:Nat) (g:Hd) (c2:LI) (q2:Int),(CB c2 q2)->(0<=q2/\q2+b2.sz<=4000000000000)->(b2.sz<=1000000000)->(b2.sz<k)->Za 93 [YG b2,.val (.func (.func 94) #[] #[.pointer (some ⟨cc,0,none⟩)])] [.obj cc [.h g],rV g c2] (fun r h=>h=[.obj cc [.h g],rV g (UR b2 c2)]):=by
 induction k with
 | zero=>intro b cc g c q _ _ _ h;omega
 | succ k ih=>intro b cc g c q h1 h2 h3 h4;exact Z6z b cc g c q h1 h2 h3 fun b2 cc2 g2 c2 q2 k1 k2 k3 k4=>ih b2 cc2 g2 c2 q2 k1 k2 k3 om
theorem Z6y (b:Zf) (cc:Nat) (g:Hd) (c0:LI) (q:Int) (hcb:CB c0 q:=by exact ob) (hq:0<=q/\q+b.sz<=4000000000000:=by exact ob) (hz:b.sz<=1000000000:=by exact ob):Za 93 [YG b,.val (.func (.func 94) #[] #[.pointer (some ⟨cc,0,none⟩)])] [.obj cc [.h g],rV g c0] (fun r h=>h=[.obj cc [.h g],rV g (UR b c0)]):=Z6x (b.sz+1) b cc g c0 q hcb hq hz om
theorem Ob (n:Zj) (hz:WM n:=by exact ob) (hr:∀r∈n.routines,r.body.rng):Za 46 [X6 n] [] (fun r h=>∃(w:Hd),r=.h w/\h=[rV w (if XX n=true then Xt n else [])]):=by
 refine Zx 23 Tryz.func46 (ar (iA (Wb n) fun b1=>Z0 (Yp 1 [0] (ZC [] (Oc n (hr:=hr)) (Yw (!XX n) (p:=¬(XX n=true)) (Yl Iff.rfl) (fun Z5=>?_) (fun Z5=>?_))))))
 ·exact Zh (Wq Ko (ZG (r2 [0] [nl] ⟨hN,rfl,rfl⟩ (Zm.hd (v:=hN)) (eq:=(rv (xs:=[]) (by rw [Z4 Z5]) rz)))))
 have hV:XX n=true:=Ww.1 Z5
 obtain ⟨hn,hvt⟩:=DG hz hV
 have hzl:=hn.len
 refine ak (ar (iVM 4 fun v1=>iA [nl] fun b2=>?_))
 refine Y4 0 b2 [.h v1] (ie (Yp 2 [2] (iw (UJ n.routines) (Z0 (ab 0 (ZU (fun fz gz m F h=>∃(k:Nat) (c:LI),(k<=n.routines.length)/\(CB c (10000000*k))/\(K6 (n.routines.drop k) c=Xt n)/\F=sF [3,11,12] fz [(13,.i k)]/\h=[Zy gz 0,rV v1 c]/\m=n.routines.length-k) _ _ _ ⟨0,(List.replicate 4 0),ob,⟨rfl,fun x hx=>by simp at hx;omega⟩,rfl,rfl,rfl,rfl⟩ (wk [0,0] (ZW fl)) ?_))))))
 rintro m F h ⟨k,c,Y0,Z9,Zz,rfl,rfl,rfl⟩
 refine Zh (aq (Xi ((k:Int)<(n.routines.length:Int)) (fun Zd=>?_) (fun Zd=>?_)))
 ·refine ak (aq (ab 1 (ar ?_)))
  obtain ⟨x1,Z2⟩:=Zv n.routines k om
  have hrm:=YF Z2
  have hbz:=hz.body _ hrm
  refine Zi (Zr none (k:Int) 5 (Us Z2)) (Z1 1 (iA [nl,nl,.i 0,nl,.i 0] fun b3=>Y4 0 b3 (TM x1) (ie (az (Y6 3 [0] (ic [1,1] (Z6y x1.body b2 v1 c (10000000*(k:Int)) (hcb:=Z9)) ?_))))))
  rintro _ _ rfl
  exact ie (az (ZK k (Z0 (ZJ ⟨k+1,(UR x1.body c),ob,((Z9.b x1.body om).le om),(MX Z2 Zz),rfl,rfl,rfl⟩ (wk [0,0] (ZL k fl))))))
 exact ax 0 (JE [0] (ZG (r1 [1] ⟨v1,rfl,rfl⟩ (eq:=(rv (xs:=c) (by rw [Z6 hV];exact MW om Zz) rz)))))
theorem S0 (xs:LI) (hb:CB xs 40000000:=by exact ob):Za 41 [Ze xs] [] (ZQ (.i (WA xs))):=by
 have hbl:=hb.len
 refine Zx 18 Tryz.func41 (Zh (Zh (Ym (ab 0 (ZU (fun fz gz m F h=>∃(k:Nat),(k<=xs.length)/\F=sF [0] fz [(3,.i (WA (xs.take k))),(4,.i k)]/\h=gz/\m=xs.length-k) _ _ _ ⟨0,ob,rfl,rfl,rfl⟩ (wk [] (fc (x:=.i 0) (li rfl) (ZW fl))) ?_)))))
 rintro m F h ⟨k,Y0,rfl,rfl,rfl⟩
 refine Yb 2 (iw (Yn xs) (ZO ((k:Int)<(xs.length:Int)) (fun Z5=>?_) (fun Z5=>?_)))
 ·refine ak (aq (ab 1 (az (Z1 3 ?_))))
  obtain ⟨x1,Z2⟩:=Zv xs k om
  have hsb:=Ch hb om k
  have hxb:=hb.bd _ (YF Z2)
  exact Zi (Zr none (k:Int) 1 (Yf Z2)) (Z1 1 (ia (((WA (xs.take k))+x1)) (((WA (xs.take k)))+(x1)) (Z0 (az (Z1 1 (ZK k (Z0 (ZJ ⟨k+1,ob,rfl,rfl,rfl⟩ (wk [] (fc (x:=.i ((WA (xs.take k))+x1)) (li (Ln Z2).symm) (ZL k fl)))))))))))
 exact ax 0 (ar (Z8 (Zp (.i (WA (xs.take k))) (li (by rw [W6 om])))))
theorem Zch (n:Zj) (hz:WM n):Za 16 [X6 n] [] (ZQ (.i (Jd n))):=by
 refine Zx 14 Tryz.func16 (ar (iA (Wb n) fun b1=>Z0 (Yp 1 [0] (ZC [] (RP n) (Yw (!U2 n) (p:=¬(U2 n=true)) (Yl Iff.rfl) (fun Z5=>?_) (fun Z5=>?_))))))
 ·exact ar (Z8 (Zp (.i (-1)) (li (by rw [Jd,Z4 Z5]))))
 have hB:U2 n=true:=Ww.1 Z5
 obtain ⟨hn,hsg,hbt⟩:=BB hz hB
 have hcb:=Eb hn hz
 have hcb2:=Eb (E7 hn) (Cz hn hz hbt)
 have hs1:=Ch hcb om 4
 have hs2:=Ch hcb2 om 4
 rw [W6 (by rw [hcb.len];omega)] at hs1
 rw [W6 (by rw [hcb2.len];omega)] at hs2
 refine ak (aD 9 (Ya 7 9 [0,3] [0,0] (ZF 1 (dc 1 [] [0] [b1] (RT n (hn:=(by first|exact hn|exact E7 hn)) (hz:=(by first|exact hz|exact Cz hn hz hbt))) ?_))))
 rintro _ _ ⟨w1,rfl,rfl⟩
 refine ZF 2 (Ue 2 [0] [0] [b1] [rV w1 (Xt n)] (S0 (Xt n) (hb:=(by first|exact hcb|exact hcb2))) Ae (gL (v:=w1) 0 gN) (Vp VV) ?_)
 rintro _ _ ⟨rfl,rfl⟩
 refine ZF 4 (W4 4 [] [] [] (NA n (hn:=hn) (hbt:=hbt)) (ZF 5 (dc 5 [] [] [] (RT (Wr n) (hn:=(by first|exact hn|exact E7 hn)) (hz:=(by first|exact hz|exact Cz hn hz hbt))) ?_)))
 rintro _ _ ⟨w2,rfl,rfl⟩
 refine ZF 6 (Ue 6 [0] [] [] [rV w2 (Xt (Wr n))] (S0 (Xt (Wr n)) (hb:=(by first|exact hcb|exact hcb2))) Ae (gL (v:=w2) 0 gN) (Vp VV) ?_)
 rintro _ _ ⟨rfl,rfl⟩
 exact da 7 (((WA (Xt n))-(WA (Xt (Wr n))))) (((WA (Xt n)))-((WA (Xt (Wr n))))) (Zo 0 1 [8] (de (ZG (Zp (.i ((WA (Xt n))-(WA (Xt (Wr n))))) (li (by rw [Jd,Z6 hB]))))))
theorem Z66 (y:X7) (hz:WM y.er:=by exact ob) (hr:∀r∈y.er.routines,r.body.rng):Za 46 [VJ y] [] (fun r h=>∃(w:Hd),r=.h w/\h=[rV w (if XX y.er=true then Xt y.er else [])]):=(Ob y.er hz hr).args_le (.cons (J4 y) .nil)
theorem Z67 (n:Zj) (hz:WM n) (hr:∀r∈n.routines,r.body.rng):Za 18 [X6 n] [] (ZQ (.i (Jd n))):=by
 refine Zx 40 Tryz.func18 (ar (iA (Wb n) fun b1=>Z0 (ZB 1 [0] (ic [] (Oa n (hr:=ob)) ?_))))
 rintro _ _ ⟨y1,rfl,rfl,Yd⟩
 have hcn:=Yd
 refine Z1 3 (iA [nl,nl] fun b2=>Y4 0 b2 (C2 y1) (Z0 (Yt (Yw (!((XM n).2)) (p:=¬(((XM n).2)=true)) (Yl Iff.rfl) (fun Z5=>?_) (fun Z5=>?_)))))
 ·have hE:XM n=(Ff,false):=Z4 (fun z=>Z5 (by rw [XM,Z6 z]))
  have hB:¬U2 n=true:=fun z=>Z5 (by rw [XM,Z6 z])
  exact ar (Z8 (Zp (.i (-1)) (li (by rw [Jd,Z4 hB]))))
 have hB:U2 n=true:=DK fun z=>Z5 (by rw [XM,Z4 z];exact Bool.noConfusion)
 obtain ⟨hn,hsg,hbt⟩:=BB hz hB
 have hV:=Z1g hB
 have hcb:=Eb hn hz
 have hcb2:=Eb (E7 hn) (Cz hn hz hbt)
 have hEr:y1.er=Wr n:=by rw [hcn,XM,Z6 hB]
 have hI:(if XX n=true then Xt n else [])=Xt n:=Z6 hV
 have hI2:(if XX y1.er=true then Xt y1.er else [])=Xt (Wr n):=by rw [hEr];exact Z6 (Z23 hz hV)
 have hl4:(if XX n=true then Xt n else []).length=4:=by rw [hI];exact hcb.len
 have hl5:(if XX y1.er=true then Xt y1.er else []).length=4:=by rw [hI2];exact hcb2.len
 have hl6:=hcb.len
 have hl7:=hcb2.len
 have hs1:=Ch hcb om 4
 rw [W6 om] at hs1
 refine ak (Zh (Yp 1 [2] (ic [] (Ob n (hr:=ob)) ?_)))
 rintro _ _ ⟨w1,rfl,rfl⟩
 refine Zi (KW 0 w1 (if XX n=true then Xt n else [])) (Z0 (ab 0 (ZU (fun fz gz m F h=>∃(k:Nat),(k<=4)/\F=sF [3,18,19] fz [(5,.i (WA ((Xt n).take k))),(20,.i k)]/\h=[Zy gz 0,Zy gz 1,Zy gz 2]/\m=4-k) _ _ _ ⟨0,ob,rfl,rfl,rfl⟩ (Y5 3 (fc (x:=.i 0) (li rfl) (ZW fl))) ?_)))
 rintro m F h ⟨k,Y0,rfl,rfl,rfl⟩
 refine Zh (aq (Xi ((k:Int)<(((if XX n=true then Xt n else []).length:Nat):Int)) (fun Zd=>?_) (fun Zd=>?_)))
 ·refine ak (aq (ab 1 (ar (Zi (XE 0 w1 (if XX n=true then Xt n else []) (k:Int) k) ?_))))
  obtain ⟨x1,Z2⟩:=Zv (if XX n=true then Xt n else []) k om
  have hg1:=Z2
  rw [hI] at hg1
  have hsb:=Ch hcb om k
  have hxb:=hcb.bd _ (YF hg1)
  exact Xx (WV 0 w1 (if XX n=true then Xt n else []) k x1 Z2) (Z0 (az (Z1 2 (ia (((WA ((Xt n).take k))+x1)) (((WA ((Xt n).take k)))+(x1)) (Z0 (az (ZK k (Z0 (ZJ ⟨k+1,ob,rfl,rfl,rfl⟩ (Y5 3 (fc (x:=.i ((WA ((Xt n).take k))+x1)) (li (Ln hg1).symm) (ZL k fl))))))))))))
 refine ax 0 (Yp 1 [1] (ic [] (Z66 y1 (hz:=(by rw [hEr];exact Cz hn hz hbt)) (hr:=(by rw [hEr];exact Z20 hr))) ?_))
 rintro _ _ ⟨w2,rfl,rfl⟩
 refine Zi (KW 0 w2 (if XX y1.er=true then Xt y1.er else [])) (Z0 (ab 2 (ZU (fun fz gz m F h=>∃(k:Nat),(k<=4)/\F=sF [29,30] fz [(5,.i (WA (Xt n)-WA ((Xt (Wr n)).take k))),(31,.i k)]/\h=[Zy gz 0,Zy gz 3]/\m=4-k) _ _ _ ⟨0,ob,rfl,rfl,rfl⟩ (wk [0,2] (fc (x:=.i (WA ((Xt n).take k))) (li (by rw [W6 om];show _=WA (Xt n)-0;omega)) (ZW fl))) ?_)))
 rintro m F h ⟨k,T6,rfl,rfl,rfl⟩
 refine Zh (aq (Xi ((k:Int)<(((if XX y1.er=true then Xt y1.er else []).length:Nat):Int)) (fun Zw=>?_) (fun Zw=>?_)))
 ·refine ak (aq (ab 3 (ar (Zi (XE 0 w2 (if XX y1.er=true then Xt y1.er else []) (k:Int) k) ?_))))
  obtain ⟨x2,Zt⟩:=Zv (if XX y1.er=true then Xt y1.er else []) k om
  have hg2:=Zt
  rw [hI2] at hg2
  have hsb:=Ch hcb2 om k
  have hxb:=hcb2.bd _ (YF hg2)
  exact Xx (WV 0 w2 (if XX y1.er=true then Xt y1.er else []) k x2 Zt) (Z0 (az (Z1 2 (ia (((WA (Xt n)-WA ((Xt (Wr n)).take k))-x2)) (((WA (Xt n)-WA ((Xt (Wr n)).take k)))-(x2)) (Z0 (az (ZK k (Z0 (ZJ ⟨k+1,ob,rfl,rfl,rfl⟩ (wk [0,0] (fc (x:=.i ((WA (Xt n)-WA ((Xt (Wr n)).take k))-x2)) (li (by rw [Ln hg2];omega)) (ZL k fl))))))))))))
 exact ax 2 (ar (Z8 (Zp (.i (WA (Xt n)-WA ((Xt (Wr n)).take k))) (li (by rw [Jd,Z6 hB,W6 (l:=Xt (Wr n)) om])))))
theorem Zcv (z:X7) (n:Zj) (he:z.er=n) (hz:WM n):Za 16 [VJ z] [] (ZQ (.i (Jd n))):=by
 subst he
 exact (Zch z.er hz).args_le (.cons (J4 z) .nil)
theorem Z6p (z:X7) (n:Zj) (he:z.er=n) (hz:WM n) (hr:∀r∈n.routines,r.body.rng):Za 18 [VJ z] [] (ZQ (.i (Jd n))):=by
 subst he
 exact (Z67 z.er hz hr).args_le (.cons (J4 z) .nil)
theorem Z4j (y z:X7) (he:y.er=z.er) (hl:Wo z.er<=1000000000):Za 19 [VJ y,VJ z] [] (ZQ (.b true)):=by
 have h1:=HU z.er hl
 refine h1.args_le (.cons ?_ (.cons (J4 z) .nil))
 rw [<-he];exact J4 y
theorem Z85 (n:Zj) (hl:Wo n<=9223372036854775807) (hr:∀r∈n.routines,r.body.rng):Za 5 [X6 n] [] (ZQ (.b true)):=by
 refine Zx 27 Tryz.func5 (ar (iA (Wb n) fun b1=>Z0 (Zh (ZB 2 [0] (ZC [] (OR n 1048576 ob ob) (Z0 (Yt (ZO ((Y7 (Wo n) 1048576)<0) (fun Z5=>?_) (fun Z5=>?_)))))))))
 ·exact ar (Z8 (Te))
 have YH:Wo n<=1048576:=by unfold Y7 at Z5;split at Z5<;>omega
 have hz:=Pu (n:=n) om
 refine ak (ZB 1 [0] (ic [] (Bk n ob) ?_))
 rintro _ _ ⟨y1,rfl,rfl,Yd⟩
 have hnhp1:Wo y1.er<=1000000000:=by rw [Yd];omega
 refine ZC [] (Zcv y1 n ob ob) (Z0 (ZB 1 [1] (ic [] (Bk n ob) ?_)))
 rintro _ _ ⟨y2,rfl,rfl,YX⟩
 have hnhp2:Wo y2.er<=1000000000:=by rw [YX];omega
 refine iA [nl,nl] fun b2=>Y4 0 b2 (C2 y2) (ie (ZB 1 [0] (ZC [] (Z6p y2 n ob ob ob) (Z0 (Yt (Yw ((Jd n) != (Jd n)) ZP (fun Zd=>?_) (fun Zd=>?_)))))))
 ·exact ar (Z8 (Zp (.b false) (lb (absurd rfl Zd))))
 refine ak (aq (aD 5 (Ya 3 5 [0,1] [0,3] (ZF 2 (dc 2 [] [0] [b2] (Bk n ob) ?_)))))
 rintro _ _ ⟨y3,rfl,rfl,XB⟩
 have hnhp3:Wo y3.er<=1000000000:=by rw [XB];omega
 exact ZF 3 (W4 3 [] [] [] (Z4j y2 y3 (by simp only [*]) ob) (Zo 0 1 [4] (de (XF (ak (ar (Z8 (Te))))))))
end Go.Abs
