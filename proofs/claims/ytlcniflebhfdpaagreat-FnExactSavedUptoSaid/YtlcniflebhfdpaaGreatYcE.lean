/-
  A part of the proofs of several laws (see the last file): no condition.
-/
import Derived.Test.YtlcniflebhfdpaaGreatYcD
set_option linter.all false
set_option linter.unusedVariables false
set_option linter.unusedSimpArgs false
set_option linter.unusedSectionVars false
set_option maxRecDepth 10000
set_option maxHeartbeats 4000000
namespace Go.Abs
open Go.Proofs
theorem EM (S:List Nat) (M:Yl) (v:Value) (xs:LI) (q:Int) (hd:Wh S v xs.length:=by exact ob) (hs:TL M (Z3 v) xs.length:=by exact ob) (hq:0<=q/\q+((ZA (Z3 v) 0 xs.length).length:Nat)<=4000000000000:=by exact ob):Za 107 [.val v,.i q] [.own S M] (fun r h=>r=.i (q+((ZA (Z3 v) 0 xs.length).length:Nat))/\h=[.own S (wr M (ZA (Z3 v) 0 xs.length) q)]):=by
 have hal:=AI (Z3 v) xs.length 0
 refine Zx 19 Tryz.func107 (Zf (Yj (ab 0 (ZR (fun fz gz m F h=>∃(k:Nat) (z:Int) (N:Yl),(k<=xs.length)/\(0<=z)/\(z+((ZA (Z3 v) k (xs.length-k)).length:Nat)=q+((ZA (Z3 v) 0 xs.length).length:Nat))/\(Kp M N)/\(wr N (ZA (Z3 v) k (xs.length-k)) z=wr M (ZA (Z3 v) 0 xs.length) q)/\F=sF [0] fz [(1,.i z),(5,.i k)]/\h=[.own S N]/\m=xs.length-k) _ _ _ ⟨0,q,M,ob,ob,(by simp),(Kp.refl M),(by simp),rfl,rfl,rfl⟩ (wk [0] (fr (ZT fl))) ?_))))
 rintro m F h ⟨k,z,N,ZX,Z9,Zz,Y5,XD,rfl,rfl,rfl⟩
 refine Y8 2 (Zg (Kc S v xs.length hd) (ZN ((k:Int)<(xs.length:Int)) (fun Z5=>?_) (fun Z5=>?_)))
 ·have hb:=hd.blk (i:=k) om
  have hdr:=Ls (Z3 v) xs.length k om
  have hl0:(ZA (Z3 v) k (xs.length-k)).length=(ZA (Z3 v) (k+1) (xs.length-(k+1))).length+1:=by rw [hdr];rfl
  have hsk:=hs k om
  rw [<-UI k] at hsk
  have kp:=Y5
  have i0:=kp.i hsk
  refine ak (aq (ab 1 (ZM 3 (Zg (WG S v xs.length k 1 (k:Int) hd) (Jy 0 S N (Z3 v) (k*1) z hb.1 i0 ?_)))))
  have kp:=kp.upd hsk z
  exact ie (az (Z1 1 (ia ((z+1)) ((z)+(1)) (Z0 (az (Z1 1 (ZK k (Z0 (ZJ ⟨k+1,(z+1),upd N (Z3 v,k*1) z,ob,ob,ob,kp,(by rw [<-XD,hdr,wr,UI]),rfl,rfl,rfl⟩ (wk [0] (fr (ZL k fl))))))))))))
 have he:ZA (Z3 v) k (xs.length-k)=[]:=by rw [show xs.length-k=0 by omega];rfl
 rw [he,Vt] at Zz
 rw [he,wr] at XD
 exact ax 0 (ar (Z7 (r2 [0] [.i z] ⟨rfl,rfl⟩ li (eq:=(B3 (m:=N) XD rz)))))
theorem Z7v (S:List Nat) (M:Yl) (v:Value) (xs:List X0) (q:Int) (hl:xs.length<=4000000000000:=by exact ob) (hd:Wh S v xs.length:=by exact ob) (hs:KK M S (Z3 v) 0 xs:=by exact ob) (hq:0<=q/\q+((WR xs).length:Nat)<=4000000000000:=by exact ob):Za 106 [.val v,.i q] [.own S M] (fun r h=>r=.i (q+((WR xs).length:Nat))/\h=[.own S (wr M (WR xs) q)]):=by
 refine Zx 20 Tryz.func106 (Zf (Yj (ab 0 (ZR (fun fz gz m F h=>∃(k:Nat) (z:Int) (N:Yl),(k<=xs.length)/\(0<=z)/\(z+((WR (xs.drop k)).length:Nat)=q+((WR xs).length:Nat))/\(Kp M N)/\(wr N (WR (xs.drop k)) z=wr M (WR xs) q)/\F=sF [0] fz [(1,.i z),(5,.i k)]/\h=[.own S N]/\m=xs.length-k) _ _ _ ⟨0,q,M,ob,ob,(by simp),(Kp.refl M),(by simp),rfl,rfl,rfl⟩ (wk [0] (fr (ZT fl))) ?_))))
 rintro m F h ⟨k,z,N,ZX,Z9,Zz,Y5,XD,rfl,rfl,rfl⟩
 refine Y8 2 (Zg (Kc S v xs.length hd) (ZN ((k:Int)<(xs.length:Int)) (fun Z5=>?_) (fun Z5=>?_)))
 ·have hb:=hd.blk (i:=k) om
  obtain ⟨x1,Z2⟩:=Zv xs k om
  have e1:=Is hs Z2
  rw [Vf] at e1
  obtain ⟨⟨a0,d0⟩,s0⟩:=e1
  rw [<-UI k] at a0
  have hdr:=Ln Z2
  have hln:(DE x1).length=(ZA (Z3 x1.fv) 0 x1.fields.length).length:=rfl
  have hl0:=Yp List.length hdr
  rw [Yz,hln] at hl0
  have kp:=Y5
  refine ak (aq (ab 1 (az (Z1 2 (Zg (WG S v xs.length k 1 (k:Int) hd) (Z1 1 ?_))))))
  have t0:TL N (Z3 x1.fv) x1.fields.length:=fun i hi=>kp.i (s0 i hi)
  refine Xu (VS 0 S N (Z3 v) (k*1) x1.fv hb.1 (kp.h a0 d0.ni)) (Z1 1 (ZC [0] (EM S N x1.fv x1.fields z) ?_))
  have kp:=kp.wr (JZ s0) z
  exact Z0 (az (Z1 1 (ZK k (Z0 (ZJ ⟨k+1,(z+((ZA (Z3 x1.fv) 0 x1.fields.length).length:Nat)),(wr N (ZA (Z3 x1.fv) 0 x1.fields.length) z),ob,ob,ob,kp,(Dr XD hdr rfl om),rfl,rfl,rfl⟩ (wk [0] (fr (ZL k fl))))))))
 have he:(WR (xs.drop k))=[]:=by rw [QP om];rfl
 rw [he,Vt] at Zz
 rw [he,wr] at XD
 exact ax 0 (ar (Z7 (r2 [0] [.i z] ⟨rfl,rfl⟩ li (eq:=(B3 (m:=N) XD rz)))))
theorem Z7w (S:List Nat) (M:Yl) (v:Value) (xs:List YM) (q:Int) (hl:∀d∈xs,d.cons.length<=4000000000000) (hd:Wh S v xs.length:=by exact ob) (hs:J6 M S (Z3 v) 0 xs:=by exact ob) (hq:0<=q/\q+((Wi (Z3 v) 0 xs).length:Nat)<=4000000000000:=by exact ob):Za 53 [.val v,.i q] [.own S M] (fun r h=>r=.i (q+((Wi (Z3 v) 0 xs).length:Nat))/\h=[.own S (wr M (Wi (Z3 v) 0 xs) q)]):=by
 have hal:=FJ (g:=Z3 v) (o:=0) (ds:=xs)
 refine Zx 34 Tryz.func53 (Zf (Yj (ab 0 (ZR (fun fz gz m F h=>∃(k:Nat) (z:Int) (N:Yl),(k<=xs.length)/\(0<=z)/\(z+((Wi (Z3 v) (k*3) (xs.drop k)).length:Nat)=q+((Wi (Z3 v) 0 xs).length:Nat))/\(Kp M N)/\(wr N (Wi (Z3 v) (k*3) (xs.drop k)) z=wr M (Wi (Z3 v) 0 xs) q)/\F=sF [0] fz [(1,.i z),(5,.i k)]/\h=[.own S N]/\m=xs.length-k) _ _ _ ⟨0,q,M,ob,ob,(by simp),(Kp.refl M),(by simp),rfl,rfl,rfl⟩ (wk [0] (fr (ZT fl))) ?_))))
 rintro m F h ⟨k,z,N,ZX,Z9,Zz,Y5,XD,rfl,rfl,rfl⟩
 refine Y8 2 (Zg (Kc S v xs.length hd) (ZN ((k:Int)<(xs.length:Int)) (fun Z5=>?_) (fun Z5=>?_)))
 ·have hb:=hd.blk (i:=k) om
  obtain ⟨x1,Z2⟩:=Zv xs k om
  have e1:=Iv hs Z2
  rw [Vf] at e1
  obtain ⟨i0,i1,⟨a2,d2⟩,s2⟩:=e1
  have hdr:=Lq (g:=Z3 v) Z2
  have hl1:=hl x1 (YA Z2)
  have hln:=EF (g:=Z3 v) (o:=k*3) (d:=x1)
  have hl0:=Yp List.length hdr
  rw [Yz,hln] at hl0
  have kp:=Y5
  refine ak (aq (ab 1 (ZM 3 (Zg (WG S v xs.length k 3 (k:Int) hd) (Z1 1 (Jy 0 S N (Z3 v) (k*3) z hb.1 (kp.i i0) ?_))))))
  have kp:=kp.upd i0 z
  refine ie (ZM 1 (ia ((z+1)) ((z)+(1)) (Z0 (ZM 3 (Zg (WG S v xs.length k 3 (k:Int) hd) (Z1 1 (Jy 0 S (upd N (Z3 v,k*3) z) (Z3 v) (k*3+1) (z+1) hb.1 (kp.i i1) ?_)))))))
  have kp:=kp.upd i1 (z+1)
  refine ie (ZM 1 (ia (((z+1)+1)) (((z+1))+(1)) (Z0 (az (Z1 2 (Zg (WG S v xs.length k 3 (k:Int) hd) (Z1 1 ?_)))))))
  have t2:KK (upd (upd N (Z3 v,k*3) z) (Z3 v,k*3+1) (z+1)) S (Z3 x1.cv) 0 x1.cons:=It kp s2
  refine Xu (VS 0 S (upd (upd N (Z3 v,k*3) z) (Z3 v,k*3+1) (z+1)) (Z3 v) (k*3+2) x1.cv hb.1 (kp.h a2 d2.ni)) (Z1 1 (ZC [0] (Z7v S (upd (upd N (Z3 v,k*3) z) (Z3 v,k*3+1) (z+1)) x1.cv x1.cons ((z+1)+1)) ?_))
  have kp:=kp.wr (FI s2) ((z+1)+1)
  exact Z0 (az (Z1 1 (ZK k (Z0 (ZJ ⟨k+1,(((z+1)+1)+((WR x1.cons).length:Nat)),(wr (upd (upd N (Z3 v,k*3) z) (Z3 v,k*3+1) (z+1)) (WR x1.cons) ((z+1)+1)),ob,ob,ob,kp,(Dr XD hdr Zea om),rfl,rfl,rfl⟩ (wk [0] (fr (ZL k fl))))))))
 have he:(Wi (Z3 v) (k*3) (xs.drop k))=[]:=by rw [QP om];rfl
 rw [he,Vt] at Zz
 rw [he,wr] at XD
 exact ax 0 (ar (Z7 (r2 [0] [.i z] ⟨rfl,rfl⟩ li (eq:=(B3 (m:=N) XD rz)))))
theorem Z80 (S:List Nat) (M:Yl) (v:Value) (xs:List ZU) (q:Int) (ih:∀(S:List Nat) (M:Yl) (v:Value) (ys:List ZS) (q:Int),(SizeOf.sizeOf ys<SizeOf.sizeOf xs)->(Wh S v ys.length)->(U5 M S (Z3 v) 0 ys)->(0<=q/\q+((Xg (Z3 v) 0 ys).length:Nat)<=4000000000000)->Za 167 [.val v,.i q] [.own S M] (fun r h=>r=.i (q+((Xg (Z3 v) 0 ys).length:Nat))/\h=[.own S (wr M (Xg (Z3 v) 0 ys) q)])) (hd:Wh S v xs.length) (hs:Vs M S (Z3 v) 0 xs) (hq:0<=q/\q+((Yf (Z3 v) 0 xs).length:Nat)<=4000000000000):Za 108 [.val v,.i q] [.own S M] (fun r h=>r=.i (q+((Yf (Z3 v) 0 xs).length:Nat))/\h=[.own S (wr M (Yf (Z3 v) 0 xs) q)]):=by
 have hal:=FO (g:=Z3 v) (o:=0) (xs:=xs)
 refine Zx 48 Tryz.func108 (Zf (Yj (ab 0 (ZR (fun fz gz m F h=>∃(k:Nat) (z:Int) (N:Yl),(k<=xs.length)/\(0<=z)/\(z+((Yf (Z3 v) (k*5) (xs.drop k)).length:Nat)=q+((Yf (Z3 v) 0 xs).length:Nat))/\(Kp M N)/\(wr N (Yf (Z3 v) (k*5) (xs.drop k)) z=wr M (Yf (Z3 v) 0 xs) q)/\F=sF [0] fz [(1,.i z),(5,.i k)]/\h=[.own S N]/\m=xs.length-k) _ _ _ ⟨0,q,M,ob,ob,(by simp),(Kp.refl M),(by simp),rfl,rfl,rfl⟩ (wk [0] (fr (ZT fl))) ?_))))
 rintro m F h ⟨k,z,N,ZX,Z9,Zz,Y5,XD,rfl,rfl,rfl⟩
 refine Y8 2 (Zg (Kc S v xs.length hd) (ZN ((k:Int)<(xs.length:Int)) (fun Z5=>?_) (fun Z5=>?_)))
 ·have hb:=hd.blk (i:=k) om
  obtain ⟨x1,Z2⟩:=Zv xs k om
  have e1:=Iy hs Z2
  rw [Vf] at e1
  rw [PZ] at e1
  have hz:SizeOf.sizeOf x1.kids<SizeOf.sizeOf xs:=Nu Z2
  obtain ⟨⟨i0,i1,i2⟩,⟨⟨a3,d3⟩,s3⟩,⟨⟨a4,d4⟩,s4⟩⟩:=e1
  have hdr:=LC (g:=Z3 v) Z2
  have hln:=Hx (g:=Z3 v) (o:=k*5) (s:=x1)
  have hl0:=Yp List.length hdr
  rw [Yz,hln] at hl0
  have kp:=Y5
  refine ak (aq (ab 1 (ZM 3 (Zg (WG S v xs.length k 5 (k:Int) hd) (Z1 1 (Jy 0 S N (Z3 v) (k*5) z hb.1 (kp.i i0) ?_))))))
  have kp:=kp.upd i0 z
  refine ie (ZM 1 (ia ((z+1)) ((z)+(1)) (Z0 (ZM 3 (Zg (WG S v xs.length k 5 (k:Int) hd) (Z1 1 (Jy 0 S (upd N (Z3 v,k*5) z) (Z3 v) (k*5+1) (z+1) hb.1 (kp.i i1) ?_)))))))
  have kp:=kp.upd i1 (z+1)
  refine ie (ZM 1 (ia (((z+1)+1)) (((z+1))+(1)) (Z0 (ZM 3 (Zg (WG S v xs.length k 5 (k:Int) hd) (Z1 1 (Jy 0 S (upd (upd N (Z3 v,k*5) z) (Z3 v,k*5+1) (z+1)) (Z3 v) (k*5+2) ((z+1)+1) hb.1 (kp.i i2) ?_)))))))
  have kp:=kp.upd i2 ((z+1)+1)
  refine ie (ZM 1 (ia ((((z+1)+1)+1)) ((((z+1)+1))+(1)) (Z0 (ZM 2 (Zg (WG S v xs.length k 5 (k:Int) hd) (Z1 1 ?_))))))
  have t3:TL (upd (upd (upd N (Z3 v,k*5) z) (Z3 v,k*5+1) (z+1)) (Z3 v,k*5+2) ((z+1)+1)) (Z3 x1.av) x1.args.length:=fun i hi=>kp.i (s3 i hi)
  refine Xu (VS 0 S (upd (upd (upd N (Z3 v,k*5) z) (Z3 v,k*5+1) (z+1)) (Z3 v,k*5+2) ((z+1)+1)) (Z3 v) (k*5+3) x1.av hb.1 (kp.h a3 d3.ni)) (Z1 1 (ZC [0] (EM S (upd (upd (upd N (Z3 v,k*5) z) (Z3 v,k*5+1) (z+1)) (Z3 v,k*5+2) ((z+1)+1)) x1.av x1.args (((z+1)+1)+1)) ?_))
  have kp:=kp.wr (JZ s3) (((z+1)+1)+1)
  refine Z0 (az (Z1 2 (Zg (WG S v xs.length k 5 (k:Int) hd) (Z1 1 ?_))))
  have t4:U5 (wr (upd (upd (upd N (Z3 v,k*5) z) (Z3 v,k*5+1) (z+1)) (Z3 v,k*5+2) ((z+1)+1)) (ZA (Z3 x1.av) 0 x1.args.length) (((z+1)+1)+1)) S (Z3 x1.kv) 0 x1.kids:=Iq kp s4
  refine Xu (VS 0 S (wr (upd (upd (upd N (Z3 v,k*5) z) (Z3 v,k*5+1) (z+1)) (Z3 v,k*5+2) ((z+1)+1)) (ZA (Z3 x1.av) 0 x1.args.length) (((z+1)+1)+1)) (Z3 v) (k*5+4) x1.kv hb.1 (kp.h a4 d4.ni)) (Z1 1 (ZC [0] (ih S (wr (upd (upd (upd N (Z3 v,k*5) z) (Z3 v,k*5+1) (z+1)) (Z3 v,k*5+2) ((z+1)+1)) (ZA (Z3 x1.av) 0 x1.args.length) (((z+1)+1)+1)) x1.kv x1.kids ((((z+1)+1)+1)+((ZA (Z3 x1.av) 0 x1.args.length).length:Nat)) ob ob ob ob) ?_))
  have kp:=kp.wr (FH s4) ((((z+1)+1)+1)+((ZA (Z3 x1.av) 0 x1.args.length).length:Nat))
  exact Z0 (az (Z1 1 (ZK k (Z0 (ZJ ⟨k+1,(((((z+1)+1)+1)+((ZA (Z3 x1.av) 0 x1.args.length).length:Nat))+((Xg (Z3 x1.kv) 0 x1.kids).length:Nat)),(wr (wr (upd (upd (upd N (Z3 v,k*5) z) (Z3 v,k*5+1) (z+1)) (Z3 v,k*5+2) ((z+1)+1)) (ZA (Z3 x1.av) 0 x1.args.length) (((z+1)+1)+1)) (Xg (Z3 x1.kv) 0 x1.kids) ((((z+1)+1)+1)+((ZA (Z3 x1.av) 0 x1.args.length).length:Nat))),ob,ob,ob,kp,(Dr XD hdr Zed om),rfl,rfl,rfl⟩ (wk [0] (fr (ZL k fl))))))))
 have he:(Yf (Z3 v) (k*5) (xs.drop k))=[]:=by rw [QP om,Yf]
 rw [he,Vt] at Zz
 rw [he,wr] at XD
 exact ax 0 (ar (Z7 (r2 [0] [.i z] ⟨rfl,rfl⟩ li (eq:=(B3 (m:=N) XD rz)))))
theorem Z7u (S:List Nat) (M:Yl) (v:Value) (xs:List ZS) (q:Int) (ih:∀(S:List Nat) (M:Yl) (v:Value) (ys:List ZU) (q:Int),(SizeOf.sizeOf ys<SizeOf.sizeOf xs)->(Wh S v ys.length)->(Vs M S (Z3 v) 0 ys)->(0<=q/\q+((Yf (Z3 v) 0 ys).length:Nat)<=4000000000000)->Za 108 [.val v,.i q] [.own S M] (fun r h=>r=.i (q+((Yf (Z3 v) 0 ys).length:Nat))/\h=[.own S (wr M (Yf (Z3 v) 0 ys) q)])) (hd:Wh S v xs.length) (hs:U5 M S (Z3 v) 0 xs) (hq:0<=q/\q+((Xg (Z3 v) 0 xs).length:Nat)<=4000000000000):Za 167 [.val v,.i q] [.own S M] (fun r h=>r=.i (q+((Xg (Z3 v) 0 xs).length:Nat))/\h=[.own S (wr M (Xg (Z3 v) 0 xs) q)]):=by
 have hal:=FG (g:=Z3 v) (o:=0) (xs:=xs)
 refine Zx 27 Tryz.func167 (Zf (Yj (ab 0 (ZR (fun fz gz m F h=>∃(k:Nat) (z:Int) (N:Yl),(k<=xs.length)/\(0<=z)/\(z+((Xg (Z3 v) (k*2) (xs.drop k)).length:Nat)=q+((Xg (Z3 v) 0 xs).length:Nat))/\(Kp M N)/\(wr N (Xg (Z3 v) (k*2) (xs.drop k)) z=wr M (Xg (Z3 v) 0 xs) q)/\F=sF [0] fz [(1,.i z),(5,.i k)]/\h=[.own S N]/\m=xs.length-k) _ _ _ ⟨0,q,M,ob,ob,(by simp),(Kp.refl M),(by simp),rfl,rfl,rfl⟩ (wk [0] (fr (ZT fl))) ?_))))
 rintro m F h ⟨k,z,N,ZX,Z9,Zz,Y5,XD,rfl,rfl,rfl⟩
 refine Y8 2 (Zg (Kc S v xs.length hd) (ZN ((k:Int)<(xs.length:Int)) (fun Z5=>?_) (fun Z5=>?_)))
 ·have hb:=hd.blk (i:=k) om
  obtain ⟨x1,Z2⟩:=Zv xs k om
  have e1:=Ip hs Z2
  rw [Vf] at e1
  rw [PW] at e1
  have hz:SizeOf.sizeOf x1.steps<SizeOf.sizeOf xs:=Nv Z2
  obtain ⟨⟨⟨a0,d0⟩,s0⟩,i1⟩:=e1
  have hdr:=Lk (g:=Z3 v) Z2
  have hln:=Hv (g:=Z3 v) (o:=k*2) (b:=x1)
  have hl0:=Yp List.length hdr
  rw [Yz,hln] at hl0
  have kp:=Y5
  refine ak (aq (ab 1 (ZM 2 (Zg (WG S v xs.length k 2 (k:Int) hd) (Z1 1 ?_)))))
  have t0:Vs N S (Z3 x1.sv) 0 x1.steps:=Dc kp s0
  refine Xu (VS 0 S N (Z3 v) (k*2) x1.sv hb.1 (kp.h a0 d0.ni)) (Z1 1 (ZC [0] (ih S N x1.sv x1.steps z ob ob ob ob) ?_))
  have kp:=kp.wr (Ci s0) z
  refine Z0 (ZM 3 (Zg (WG S v xs.length k 2 (k:Int) hd) (Z1 1 (Jy 0 S (wr N (Yf (Z3 x1.sv) 0 x1.steps) z) (Z3 v) (k*2+1) (z+((Yf (Z3 x1.sv) 0 x1.steps).length:Nat)) hb.1 (kp.i i1) ?_))))
  have kp:=kp.upd i1 (z+((Yf (Z3 x1.sv) 0 x1.steps).length:Nat))
  exact ie (az (Z1 1 (ia (((z+((Yf (Z3 x1.sv) 0 x1.steps).length:Nat))+1)) (((z+((Yf (Z3 x1.sv) 0 x1.steps).length:Nat)))+(1)) (Z0 (az (Z1 1 (ZK k (Z0 (ZJ ⟨k+1,((z+((Yf (Z3 x1.sv) 0 x1.steps).length:Nat))+1),upd (wr N (Yf (Z3 x1.sv) 0 x1.steps) z) (Z3 v,k*2+1) (z+((Yf (Z3 x1.sv) 0 x1.steps).length:Nat)),ob,ob,ob,kp,(Dr XD hdr Ze9 om),rfl,rfl,rfl⟩ (wk [0] (fr (ZL k fl))))))))))))
 have he:(Xg (Z3 v) (k*2) (xs.drop k))=[]:=by rw [QP om,Xg]
 rw [he,Vt] at Zz
 rw [he,wr] at XD
 exact ax 0 (ar (Z7 (r2 [0] [.i z] ⟨rfl,rfl⟩ li (eq:=(B3 (m:=N) XD rz)))))
theorem Z81 (n:Nat):(∀(S:List Nat) (M:Yl) (v:Value) (xs:List ZU) (q:Int),(SizeOf.sizeOf xs<n)->(Wh S v xs.length)->(Vs M S (Z3 v) 0 xs)->(0<=q/\q+((Yf (Z3 v) 0 xs).length:Nat)<=4000000000000)->Za 108 [.val v,.i q] [.own S M] (fun r h=>r=.i (q+((Yf (Z3 v) 0 xs).length:Nat))/\h=[.own S (wr M (Yf (Z3 v) 0 xs) q)]))/\(∀(S:List Nat) (M:Yl) (v:Value) (xs:List ZS) (q:Int),(SizeOf.sizeOf xs<n)->(Wh S v xs.length)->(U5 M S (Z3 v) 0 xs)->(0<=q/\q+((Xg (Z3 v) 0 xs).length:Nat)<=4000000000000)->Za 167 [.val v,.i q] [.own S M] (fun r h=>r=.i (q+((Xg (Z3 v) 0 xs).length:Nat))/\h=[.own S (wr M (Xg (Z3 v) 0 xs) q)])):=by
 induction n with
 | zero=>exact ⟨fun _ _ _ _ _ h=>by omega,fun _ _ _ _ _ h=>by omega⟩
 | succ n ih=>
  obtain ⟨i1,i2⟩:=ih
  exact ⟨fun S M v xs q hz h3 h4 h9=>Z80 S M v xs q (fun S M v ys q hz2 h3 h4 h9=>i2 S M v ys q om h3 h4 h9) h3 h4 h9,fun S M v xs q hz h3 h4 h9=>Z7u S M v xs q (fun S M v ys q hz2 h3 h4 h9=>i1 S M v ys q om h3 h4 h9) h3 h4 h9⟩
theorem Z7z (S:List Nat) (M:Yl) (v:Value) (xs:List ZU) (q:Int) (hd:Wh S v xs.length:=by exact ob) (hs:Vs M S (Z3 v) 0 xs:=by exact ob) (hq:0<=q/\q+((Yf (Z3 v) 0 xs).length:Nat)<=4000000000000:=by exact ob):Za 108 [.val v,.i q] [.own S M] (fun r h=>r=.i (q+((Yf (Z3 v) 0 xs).length:Nat))/\h=[.own S (wr M (Yf (Z3 v) 0 xs) q)]):=(Z81 (SizeOf.sizeOf xs+1)).1 S M v xs q om hd hs hq
theorem Z7y (S:List Nat) (M:Yl) (v:Value) (xs:List YN) (q:Int) (hd:Wh S v xs.length:=by exact ob) (hs:J7 M S (Z3 v) 0 xs:=by exact ob) (hq:0<=q/\q+((WK (Z3 v) 0 xs).length:Nat)<=4000000000000:=by exact ob):Za 54 [.val v,.i q] [.own S M] (fun r h=>r=.i (q+((WK (Z3 v) 0 xs).length:Nat))/\h=[.own S (wr M (WK (Z3 v) 0 xs) q)]):=by
 have hal:=FL (g:=Z3 v) (o:=0) (xs:=xs)
 refine Zx 50 Tryz.func54 (Zf (Yj (ab 0 (ZR (fun fz gz m F h=>∃(k:Nat) (z:Int) (N:Yl),(k<=xs.length)/\(0<=z)/\(z+((WK (Z3 v) (k*5) (xs.drop k)).length:Nat)=q+((WK (Z3 v) 0 xs).length:Nat))/\(Kp M N)/\(wr N (WK (Z3 v) (k*5) (xs.drop k)) z=wr M (WK (Z3 v) 0 xs) q)/\F=sF [0] fz [(1,.i z),(5,.i k)]/\h=[.own S N]/\m=xs.length-k) _ _ _ ⟨0,q,M,ob,ob,(by simp),(Kp.refl M),(by simp),rfl,rfl,rfl⟩ (wk [0] (fr (ZT fl))) ?_))))
 rintro m F h ⟨k,z,N,ZX,Z9,Zz,Y5,XD,rfl,rfl,rfl⟩
 refine Y8 2 (Zg (Kc S v xs.length hd) (ZN ((k:Int)<(xs.length:Int)) (fun Z5=>?_) (fun Z5=>?_)))
 ·have hb:=hd.blk (i:=k) om
  obtain ⟨x1,Z2⟩:=Zv xs k om
  have e1:=Iw hs Z2
  rw [Vf] at e1
  obtain ⟨⟨⟨a0,d0⟩,s0⟩,⟨⟨a1,d1⟩,s1⟩,i2,⟨⟨a3,d3⟩,s3⟩,i4⟩:=e1
  have hdr:=Lz (g:=Z3 v) Z2
  have hln:=EG (g:=Z3 v) (o:=k*5) (r:=x1)
  have hl0:=Yp List.length hdr
  rw [Yz,hln] at hl0
  have kp:=Y5
  refine ak (aq (ab 1 (ZM 2 (Zg (WG S v xs.length k 5 (k:Int) hd) (Z1 1 ?_)))))
  have t0:TL N (Z3 x1.pv) x1.params.length:=fun i hi=>kp.i (s0 i hi)
  refine Xu (VS 0 S N (Z3 v) (k*5) x1.pv hb.1 (kp.h a0 d0.ni)) (Z1 1 (ZC [0] (EM S N x1.pv x1.params z) ?_))
  have kp:=kp.wr (JZ s0) z
  refine Z0 (ZM 2 (Zg (WG S v xs.length k 5 (k:Int) hd) (Z1 1 ?_)))
  have t1:TL (wr N (ZA (Z3 x1.pv) 0 x1.params.length) z) (Z3 x1.lv) x1.lent.length:=fun i hi=>kp.i (s1 i hi)
  refine Xu (VS 0 S (wr N (ZA (Z3 x1.pv) 0 x1.params.length) z) (Z3 v) (k*5+1) x1.lv hb.1 (kp.h a1 d1.ni)) (Z1 1 (ZC [0] (EM S (wr N (ZA (Z3 x1.pv) 0 x1.params.length) z) x1.lv x1.lent (z+((ZA (Z3 x1.pv) 0 x1.params.length).length:Nat))) ?_))
  have kp:=kp.wr (JZ s1) (z+((ZA (Z3 x1.pv) 0 x1.params.length).length:Nat))
  refine Z0 (ZM 3 (Zg (WG S v xs.length k 5 (k:Int) hd) (Z1 1 (Jy 0 S (wr (wr N (ZA (Z3 x1.pv) 0 x1.params.length) z) (ZA (Z3 x1.lv) 0 x1.lent.length) (z+((ZA (Z3 x1.pv) 0 x1.params.length).length:Nat))) (Z3 v) (k*5+2) ((z+((ZA (Z3 x1.pv) 0 x1.params.length).length:Nat))+((ZA (Z3 x1.lv) 0 x1.lent.length).length:Nat)) hb.1 (kp.i i2) ?_))))
  have kp:=kp.upd i2 ((z+((ZA (Z3 x1.pv) 0 x1.params.length).length:Nat))+((ZA (Z3 x1.lv) 0 x1.lent.length).length:Nat))
  refine ie (ZM 1 (ia ((((z+((ZA (Z3 x1.pv) 0 x1.params.length).length:Nat))+((ZA (Z3 x1.lv) 0 x1.lent.length).length:Nat))+1)) ((((z+((ZA (Z3 x1.pv) 0 x1.params.length).length:Nat))+((ZA (Z3 x1.lv) 0 x1.lent.length).length:Nat)))+(1)) (Z0 (ZM 2 (Zg (WG S v xs.length k 5 (k:Int) hd) (Z1 2 ?_))))))
  have t3:Vs (upd (wr (wr N (ZA (Z3 x1.pv) 0 x1.params.length) z) (ZA (Z3 x1.lv) 0 x1.lent.length) (z+((ZA (Z3 x1.pv) 0 x1.params.length).length:Nat))) (Z3 v,k*5+2) ((z+((ZA (Z3 x1.pv) 0 x1.params.length).length:Nat))+((ZA (Z3 x1.lv) 0 x1.lent.length).length:Nat))) S (Z3 x1.body.sv) 0 x1.body.steps:=Dc kp s3
  refine Xu (VS 0 S (upd (wr (wr N (ZA (Z3 x1.pv) 0 x1.params.length) z) (ZA (Z3 x1.lv) 0 x1.lent.length) (z+((ZA (Z3 x1.pv) 0 x1.params.length).length:Nat))) (Z3 v,k*5+2) ((z+((ZA (Z3 x1.pv) 0 x1.params.length).length:Nat))+((ZA (Z3 x1.lv) 0 x1.lent.length).length:Nat))) (Z3 v) (k*5+3) x1.body.sv hb.1 (kp.h a3 d3.ni)) (Z1 1 (ZC [0] (Z7z S (upd (wr (wr N (ZA (Z3 x1.pv) 0 x1.params.length) z) (ZA (Z3 x1.lv) 0 x1.lent.length) (z+((ZA (Z3 x1.pv) 0 x1.params.length).length:Nat))) (Z3 v,k*5+2) ((z+((ZA (Z3 x1.pv) 0 x1.params.length).length:Nat))+((ZA (Z3 x1.lv) 0 x1.lent.length).length:Nat))) x1.body.sv x1.body.steps (((z+((ZA (Z3 x1.pv) 0 x1.params.length).length:Nat))+((ZA (Z3 x1.lv) 0 x1.lent.length).length:Nat))+1)) ?_))
  have kp:=kp.wr (Ci s3) (((z+((ZA (Z3 x1.pv) 0 x1.params.length).length:Nat))+((ZA (Z3 x1.lv) 0 x1.lent.length).length:Nat))+1)
  refine Z0 (ZM 3 (Zg (WG S v xs.length k 5 (k:Int) hd) (Z1 2 (Jy 0 S (wr (upd (wr (wr N (ZA (Z3 x1.pv) 0 x1.params.length) z) (ZA (Z3 x1.lv) 0 x1.lent.length) (z+((ZA (Z3 x1.pv) 0 x1.params.length).length:Nat))) (Z3 v,k*5+2) ((z+((ZA (Z3 x1.pv) 0 x1.params.length).length:Nat))+((ZA (Z3 x1.lv) 0 x1.lent.length).length:Nat))) (Yf (Z3 x1.body.sv) 0 x1.body.steps) (((z+((ZA (Z3 x1.pv) 0 x1.params.length).length:Nat))+((ZA (Z3 x1.lv) 0 x1.lent.length).length:Nat))+1)) (Z3 v) (k*5+4) ((((z+((ZA (Z3 x1.pv) 0 x1.params.length).length:Nat))+((ZA (Z3 x1.lv) 0 x1.lent.length).length:Nat))+1)+((Yf (Z3 x1.body.sv) 0 x1.body.steps).length:Nat)) hb.1 (kp.i i4) ?_))))
  have kp:=kp.upd i4 ((((z+((ZA (Z3 x1.pv) 0 x1.params.length).length:Nat))+((ZA (Z3 x1.lv) 0 x1.lent.length).length:Nat))+1)+((Yf (Z3 x1.body.sv) 0 x1.body.steps).length:Nat))
  exact ie (az (Z1 1 (ia ((((((z+((ZA (Z3 x1.pv) 0 x1.params.length).length:Nat))+((ZA (Z3 x1.lv) 0 x1.lent.length).length:Nat))+1)+((Yf (Z3 x1.body.sv) 0 x1.body.steps).length:Nat))+1)) ((((((z+((ZA (Z3 x1.pv) 0 x1.params.length).length:Nat))+((ZA (Z3 x1.lv) 0 x1.lent.length).length:Nat))+1)+((Yf (Z3 x1.body.sv) 0 x1.body.steps).length:Nat)))+(1)) (Z0 (az (Z1 1 (ZK k (Z0 (ZJ ⟨k+1,(((((z+((ZA (Z3 x1.pv) 0 x1.params.length).length:Nat))+((ZA (Z3 x1.lv) 0 x1.lent.length).length:Nat))+1)+((Yf (Z3 x1.body.sv) 0 x1.body.steps).length:Nat))+1),upd (wr (upd (wr (wr N (ZA (Z3 x1.pv) 0 x1.params.length) z) (ZA (Z3 x1.lv) 0 x1.lent.length) (z+((ZA (Z3 x1.pv) 0 x1.params.length).length:Nat))) (Z3 v,k*5+2) ((z+((ZA (Z3 x1.pv) 0 x1.params.length).length:Nat))+((ZA (Z3 x1.lv) 0 x1.lent.length).length:Nat))) (Yf (Z3 x1.body.sv) 0 x1.body.steps) (((z+((ZA (Z3 x1.pv) 0 x1.params.length).length:Nat))+((ZA (Z3 x1.lv) 0 x1.lent.length).length:Nat))+1)) (Z3 v,k*5+4) ((((z+((ZA (Z3 x1.pv) 0 x1.params.length).length:Nat))+((ZA (Z3 x1.lv) 0 x1.lent.length).length:Nat))+1)+((Yf (Z3 x1.body.sv) 0 x1.body.steps).length:Nat)),ob,ob,ob,kp,(Dr XD hdr Zec om),rfl,rfl,rfl⟩ (wk [0] (fr (ZL k fl))))))))))))
 have he:(WK (Z3 v) (k*5) (xs.drop k))=[]:=by rw [QP om];rfl
 rw [he,Vt] at Zz
 rw [he,wr] at XD
 exact ax 0 (ar (Z7 (r2 [0] [.i z] ⟨rfl,rfl⟩ li (eq:=(B3 (m:=N) XD rz)))))
theorem Z7x (S:List Nat) (M:Yl) (y:X4) (q:Int) (hs:Q6 M S y:=by exact ob) (hl:∀d∈y.decls,d.cons.length<=4000000000000) (hq:0<=q/\q+((W5 y).length:Nat)<=4000000000000:=by exact ob):Za 22 [.agg [.val y.dv,.val y.rv],.i q] [.own S M] (fun r h=>r=.i (q+((W5 y).length:Nat))/\h=[.own S (wr M (W5 y) q)]):=by
 obtain ⟨⟨d0,s0⟩,⟨d1,s1⟩⟩:=hs
 have hln:=Hw (y:=y)
 have kp:=Kp.refl M
 refine Zx 14 Tryz.func22 (ar (iA [.val y.dv,.val y.rv] fun b1=>Z0 (ZB 3 [0] (ZC [1] (Z7w S M y.dv y.decls q (hl:=ob)) ?_))))
 have kp:=kp.wr (FK s0) q
 have t1:=Ix kp s1
 exact Z0 (ZB 3 [1] (ZC [0] (Z7y S (wr M (Wi (Z3 y.dv) 0 y.decls) q) y.rv y.routines (q+((Wi (Z3 y.dv) 0 y.decls).length:Nat))) (Z0 (ar (Z7 (r2 [0] [.i ((q+((Wi (Z3 y.dv) 0 y.decls).length:Nat))+((WK (Z3 y.rv) 0 y.routines).length:Nat))] ⟨rfl,rfl⟩ li (eq:=(B3 (m:=(wr (wr M (Wi (Z3 y.dv) 0 y.decls) q) (WK (Z3 y.rv) 0 y.routines) (q+((Wi (Z3 y.dv) 0 y.decls).length:Nat)))) Zeb rz))))))))
theorem Ej (S:List Nat) (M:Yl) (v:Value) (xs:LI) (q:Int) (hd:Wh S v xs.length:=by exact ob) (hs:TL M (Z3 v) xs.length:=by exact ob) (hh:X6 M (ZA (Z3 v) 0 xs.length) q:=by exact ob) (hq:0<=q/\q+((ZA (Z3 v) 0 xs.length).length:Nat)<=4000000000000:=by exact ob):Za 110 [.val v,.i q] [.own S M] (fun r h=>r=.i (q+((ZA (Z3 v) 0 xs.length).length:Nat))/\h=[.own S M]):=by
 have hal:=AI (Z3 v) xs.length 0
 refine Zx 21 Tryz.func110 (Zf (Yj (ab 0 (ZR (fun fz gz m F h=>∃(k:Nat) (z:Int),(k<=xs.length)/\(0<=z)/\(z+((ZA (Z3 v) k (xs.length-k)).length:Nat)=q+((ZA (Z3 v) 0 xs.length).length:Nat))/\(X6 M (ZA (Z3 v) k (xs.length-k)) z)/\F=sF [0] fz [(1,.i z),(5,.i k)]/\h=gz/\m=xs.length-k) _ _ _ ⟨0,q,ob,ob,(by simp),(by simpa using hh),rfl,rfl,rfl⟩ (wk [0] (fr (ZT fl))) ?_))))
 rintro m F h ⟨k,z,ZX,Z9,Zz,Y5,rfl,rfl,rfl⟩
 refine Y8 2 (Zg (Kc S v xs.length hd) (ZN ((k:Int)<(xs.length:Int)) (fun Z5=>?_) (fun Z5=>?_)))
 ·have hb:=hd.blk (i:=k) om
  have hdr:=Ls (Z3 v) xs.length k om
  have hl0:(ZA (Z3 v) k (xs.length-k)).length=(ZA (Z3 v) (k+1) (xs.length-(k+1))).length+1:=by rw [hdr];rfl
  have hsk:=hs k om
  rw [<-UI k] at hsk
  rw [hdr] at Y5
  have h0:M (Z3 v) (k*1)=some (.int .i64 z):=by rw [UI];exact Y5.1
  refine ak (aq (ab 1 (Y8 2 (Zg (WG S v xs.length k 1 (k:Int) hd) (Xu (VS 0 S M (Z3 v) (k*1) (.int .i64 z) hb.1 h0) (Yt (z != z) ZO (fun Zd=>?_) (fun Zd=>?_)))))))
  ·exact ar (Z7 (r2 [0] [.i (-1)] ⟨rfl,rfl⟩ li))
  exact ak (az (Z1 1 (ia ((z+1)) ((z)+(1)) (Z0 (az (Z1 1 (ZK k (Z0 (ZJ ⟨k+1,(z+1),ob,ob,ob,Y5.2,rfl,rfl,rfl⟩ (wk [0] (fr (ZL k fl))))))))))))
 have he:ZA (Z3 v) k (xs.length-k)=[]:=by rw [show xs.length-k=0 by omega];rfl
 rw [he,Vt] at Zz
 exact ax 0 (ar (Z7 (r2 [0] [.i z] ⟨rfl,rfl⟩ li)))
theorem Z40 (S:List Nat) (M:Yl) (v:Value) (xs:List X0) (q:Int) (hl:xs.length<=4000000000000:=by exact ob) (hd:Wh S v xs.length:=by exact ob) (hs:KK M S (Z3 v) 0 xs:=by exact ob) (hh:X6 M (WR xs) q:=by exact ob) (hq:0<=q/\q+((WR xs).length:Nat)<=4000000000000:=by exact ob):Za 109 [.val v,.i q] [.own S M] (fun r h=>r=.i (q+((WR xs).length:Nat))/\h=[.own S M]):=by
 refine Zx 22 Tryz.func109 (Zf (Yj (ab 0 (ZR (fun fz gz m F h=>∃(k:Nat) (z:Int),(k<=xs.length)/\(0<=z)/\(z+((WR (xs.drop k)).length:Nat)=q+((WR xs).length:Nat))/\(X6 M (WR (xs.drop k)) z)/\F=sF [0] fz [(1,.i z),(5,.i k)]/\h=gz/\m=xs.length-k) _ _ _ ⟨0,q,ob,ob,(by simp),(by simpa using hh),rfl,rfl,rfl⟩ (wk [0] (fr (ZT fl))) ?_))))
 rintro m F h ⟨k,z,ZX,Z9,Zz,Y5,rfl,rfl,rfl⟩
 refine Y8 2 (Zg (Kc S v xs.length hd) (ZN ((k:Int)<(xs.length:Int)) (fun Z5=>?_) (fun Z5=>?_)))
 ·have hb:=hd.blk (i:=k) om
  obtain ⟨x1,Z2⟩:=Zv xs k om
  have e1:=Is hs Z2
  rw [Vf] at e1
  obtain ⟨⟨a0,d0⟩,s0⟩:=e1
  rw [<-UI k] at a0
  have hdr:=Ln Z2
  have hln:(DE x1).length=(ZA (Z3 x1.fv) 0 x1.fields.length).length:=rfl
  have hl0:=Yp List.length hdr
  rw [Yz,hln] at hl0
  rw [hdr] at Y5
  obtain ⟨hA,hR⟩:=(K7 _ _ _ _).1 Y5
  have h0:X6 M (ZA (Z3 x1.fv) 0 x1.fields.length) z:=hA
  refine ak (aq (ab 1 (ZM 2 (Zg (WG S v xs.length k 1 (k:Int) hd) (Z1 1 (Xu (VS 0 S M (Z3 v) (k*1) x1.fv hb.1 a0) (Z1 1 (ZC [0] (Ej S M x1.fv x1.fields z) (Z0 (ar (ZN ((z+((ZA (Z3 x1.fv) 0 x1.fields.length).length:Nat))<0) (fun Zd=>?_) (fun Zd=>?_))))))))))))
  ·exact ar (Z7 (r2 [0] [.i (-1)] ⟨rfl,rfl⟩ li))
  exact ak (az (Z1 1 (ZK k (Z0 (ZJ ⟨k+1,(z+((ZA (Z3 x1.fv) 0 x1.fields.length).length:Nat)),ob,ob,ob,(CL hR om),rfl,rfl,rfl⟩ (wk [0] (fr (ZL k fl))))))))
 have he:(WR (xs.drop k))=[]:=by rw [QP om];rfl
 rw [he,Vt] at Zz
 exact ax 0 (ar (Z7 (r2 [0] [.i z] ⟨rfl,rfl⟩ li)))
theorem Z41 (S:List Nat) (M:Yl) (v:Value) (xs:List YM) (q:Int) (hl:∀d∈xs,d.cons.length<=4000000000000) (hd:Wh S v xs.length:=by exact ob) (hs:J6 M S (Z3 v) 0 xs:=by exact ob) (hh:X6 M (Wi (Z3 v) 0 xs) q:=by exact ob) (hq:0<=q/\q+((Wi (Z3 v) 0 xs).length:Nat)<=4000000000000:=by exact ob):Za 55 [.val v,.i q] [.own S M] (fun r h=>r=.i (q+((Wi (Z3 v) 0 xs).length:Nat))/\h=[.own S M]):=by
 have hal:=FJ (g:=Z3 v) (o:=0) (ds:=xs)
 refine Zx 40 Tryz.func55 (Zf (Yj (ab 0 (ZR (fun fz gz m F h=>∃(k:Nat) (z:Int),(k<=xs.length)/\(0<=z)/\(z+((Wi (Z3 v) (k*3) (xs.drop k)).length:Nat)=q+((Wi (Z3 v) 0 xs).length:Nat))/\(X6 M (Wi (Z3 v) (k*3) (xs.drop k)) z)/\F=sF [0] fz [(1,.i z),(5,.i k)]/\h=gz/\m=xs.length-k) _ _ _ ⟨0,q,ob,ob,(by simp),(by simpa using hh),rfl,rfl,rfl⟩ (wk [0] (fr (ZT fl))) ?_))))
 rintro m F h ⟨k,z,ZX,Z9,Zz,Y5,rfl,rfl,rfl⟩
 refine Y8 2 (Zg (Kc S v xs.length hd) (ZN ((k:Int)<(xs.length:Int)) (fun Z5=>?_) (fun Z5=>?_)))
 ·have hb:=hd.blk (i:=k) om
  obtain ⟨x1,Z2⟩:=Zv xs k om
  have e1:=Iv hs Z2
  rw [Vf] at e1
  obtain ⟨i0,i1,⟨a2,d2⟩,s2⟩:=e1
  have hdr:=Lq (g:=Z3 v) Z2
  have hl1:=hl x1 (YA Z2)
  have hln:=EF (g:=Z3 v) (o:=k*3) (d:=x1)
  have hl0:=Yp List.length hdr
  rw [Yz,hln] at hl0
  rw [hdr] at Y5
  obtain ⟨hA,hR⟩:=(K7 _ _ _ _).1 Y5
  obtain ⟨h0,h1,h2⟩:=Z48 hA
  refine ak (aq (ab 1 (Y8 2 (Zg (WG S v xs.length k 3 (k:Int) hd) (Z1 1 (Xu (VS 0 S M (Z3 v) (k*3) (.int .i64 z) hb.1 h0) (Yt (z != z) ZO (fun Zd=>?_) (fun Zd=>?_))))))))
  ·exact ar (Z7 (r2 [0] [.i (-1)] ⟨rfl,rfl⟩ li))
  refine ak (ZM 1 (ia ((z+1)) ((z)+(1)) (Z0 (Y8 2 (Zg (WG S v xs.length k 3 (k:Int) hd) (Z1 1 (Xu (VS 0 S M (Z3 v) (k*3+1) (.int .i64 (z+1)) hb.1 h1) (Yt ((z+1) != (z+1)) ZO (fun Zw=>?_) (fun Zw=>?_)))))))))
  ·exact ar (Z7 (r2 [0] [.i (-1)] ⟨rfl,rfl⟩ li))
  refine ak (ZM 1 (ia (((z+1)+1)) (((z+1))+(1)) (Z0 (ZM 2 (Zg (WG S v xs.length k 3 (k:Int) hd) (Z1 1 (Xu (VS 0 S M (Z3 v) (k*3+2) x1.cv hb.1 a2) (Z1 1 (ZC [0] (Z40 S M x1.cv x1.cons ((z+1)+1)) (Z0 (ar (ZN ((((z+1)+1)+((WR x1.cons).length:Nat))<0) (fun Yd=>?_) (fun Yd=>?_)))))))))))))
  ·exact ar (Z7 (r2 [0] [.i (-1)] ⟨rfl,rfl⟩ li))
  exact ak (az (Z1 1 (ZK k (Z0 (ZJ ⟨k+1,(((z+1)+1)+((WR x1.cons).length:Nat)),ob,ob,ob,(CL hR om),rfl,rfl,rfl⟩ (wk [0] (fr (ZL k fl))))))))
 have he:(Wi (Z3 v) (k*3) (xs.drop k))=[]:=by rw [QP om];rfl
 rw [he,Vt] at Zz
 exact ax 0 (ar (Z7 (r2 [0] [.i z] ⟨rfl,rfl⟩ li)))
theorem Z45 (S:List Nat) (M:Yl) (v:Value) (xs:List ZU) (q:Int) (ih:∀(S:List Nat) (M:Yl) (v:Value) (ys:List ZS) (q:Int),(SizeOf.sizeOf ys<SizeOf.sizeOf xs)->(Wh S v ys.length)->(U5 M S (Z3 v) 0 ys)->(X6 M (Xg (Z3 v) 0 ys) q)->(0<=q/\q+((Xg (Z3 v) 0 ys).length:Nat)<=4000000000000)->Za 168 [.val v,.i q] [.own S M] (fun r h=>r=.i (q+((Xg (Z3 v) 0 ys).length:Nat))/\h=[.own S M])) (hd:Wh S v xs.length) (hs:Vs M S (Z3 v) 0 xs) (hh:X6 M (Yf (Z3 v) 0 xs) q) (hq:0<=q/\q+((Yf (Z3 v) 0 xs).length:Nat)<=4000000000000):Za 111 [.val v,.i q] [.own S M] (fun r h=>r=.i (q+((Yf (Z3 v) 0 xs).length:Nat))/\h=[.own S M]):=by
 have hal:=FO (g:=Z3 v) (o:=0) (xs:=xs)
 refine Zx 58 Tryz.func111 (Zf (Yj (ab 0 (ZR (fun fz gz m F h=>∃(k:Nat) (z:Int),(k<=xs.length)/\(0<=z)/\(z+((Yf (Z3 v) (k*5) (xs.drop k)).length:Nat)=q+((Yf (Z3 v) 0 xs).length:Nat))/\(X6 M (Yf (Z3 v) (k*5) (xs.drop k)) z)/\F=sF [0] fz [(1,.i z),(5,.i k)]/\h=gz/\m=xs.length-k) _ _ _ ⟨0,q,ob,ob,(by simp),(by simpa using hh),rfl,rfl,rfl⟩ (wk [0] (fr (ZT fl))) ?_))))
 rintro m F h ⟨k,z,ZX,Z9,Zz,Y5,rfl,rfl,rfl⟩
 refine Y8 2 (Zg (Kc S v xs.length hd) (ZN ((k:Int)<(xs.length:Int)) (fun Z5=>?_) (fun Z5=>?_)))
 ·have hb:=hd.blk (i:=k) om
  obtain ⟨x1,Z2⟩:=Zv xs k om
  have e1:=Iy hs Z2
  rw [Vf] at e1
  rw [PZ] at e1
  have hz:SizeOf.sizeOf x1.kids<SizeOf.sizeOf xs:=Nu Z2
  obtain ⟨⟨i0,i1,i2⟩,⟨⟨a3,d3⟩,s3⟩,⟨⟨a4,d4⟩,s4⟩⟩:=e1
  have hdr:=LC (g:=Z3 v) Z2
  have hln:=Hx (g:=Z3 v) (o:=k*5) (s:=x1)
  have hl0:=Yp List.length hdr
  rw [Yz,hln] at hl0
  rw [hdr] at Y5
  obtain ⟨hA,hR⟩:=(K7 _ _ _ _).1 Y5
  obtain ⟨h0,h1,h2,h3,h4⟩:=Z4a hA
  refine ak (aq (ab 1 (Y8 2 (Zg (WG S v xs.length k 5 (k:Int) hd) (Z1 1 (Xu (VS 0 S M (Z3 v) (k*5) (.int .i64 z) hb.1 h0) (Yt (z != z) ZO (fun Zd=>?_) (fun Zd=>?_))))))))
  ·exact ar (Z7 (r2 [0] [.i (-1)] ⟨rfl,rfl⟩ li))
  refine ak (ZM 1 (ia ((z+1)) ((z)+(1)) (Z0 (Y8 2 (Zg (WG S v xs.length k 5 (k:Int) hd) (Z1 1 (Xu (VS 0 S M (Z3 v) (k*5+1) (.int .i64 (z+1)) hb.1 h1) (Yt ((z+1) != (z+1)) ZO (fun Zw=>?_) (fun Zw=>?_)))))))))
  ·exact ar (Z7 (r2 [0] [.i (-1)] ⟨rfl,rfl⟩ li))
  refine ak (ZM 1 (ia (((z+1)+1)) (((z+1))+(1)) (Z0 (Y8 2 (Zg (WG S v xs.length k 5 (k:Int) hd) (Z1 1 (Xu (VS 0 S M (Z3 v) (k*5+2) (.int .i64 ((z+1)+1)) hb.1 h2) (Yt (((z+1)+1) != ((z+1)+1)) ZO (fun Yd=>?_) (fun Yd=>?_)))))))))
  ·exact ar (Z7 (r2 [0] [.i (-1)] ⟨rfl,rfl⟩ li))
  refine ak (ZM 1 (ia ((((z+1)+1)+1)) ((((z+1)+1))+(1)) (Z0 (ZM 2 (Zg (WG S v xs.length k 5 (k:Int) hd) (Z1 1 (Xu (VS 0 S M (Z3 v) (k*5+3) x1.av hb.1 a3) (Z1 1 (ZC [0] (Ej S M x1.av x1.args (((z+1)+1)+1)) (Z0 (Yq (ZN (((((z+1)+1)+1)+((ZA (Z3 x1.av) 0 x1.args.length).length:Nat))<0) (fun Xm=>?_) (fun Xm=>?_)))))))))))))
  ·exact ar (Z7 (r2 [0] [.i (-1)] ⟨rfl,rfl⟩ li))
  refine ak (ZM 2 (Zg (WG S v xs.length k 5 (k:Int) hd) (Z1 1 (Xu (VS 0 S M (Z3 v) (k*5+4) x1.kv hb.1 a4) (Z1 1 (ZC [0] (ih S M x1.kv x1.kids ((((z+1)+1)+1)+((ZA (Z3 x1.av) 0 x1.args.length).length:Nat)) ob ob ob ob ob) (Z0 (ar (ZN ((((((z+1)+1)+1)+((ZA (Z3 x1.av) 0 x1.args.length).length:Nat))+((Xg (Z3 x1.kv) 0 x1.kids).length:Nat))<0) (fun Wc=>?_) (fun Wc=>?_))))))))))
  ·exact ar (Z7 (r2 [0] [.i (-1)] ⟨rfl,rfl⟩ li))
  exact ak (az (Z1 1 (ZK k (Z0 (ZJ ⟨k+1,(((((z+1)+1)+1)+((ZA (Z3 x1.av) 0 x1.args.length).length:Nat))+((Xg (Z3 x1.kv) 0 x1.kids).length:Nat)),ob,ob,ob,(CL hR om),rfl,rfl,rfl⟩ (wk [0] (fr (ZL k fl))))))))
 have he:(Yf (Z3 v) (k*5) (xs.drop k))=[]:=by rw [QP om,Yf]
 rw [he,Vt] at Zz
 exact ax 0 (ar (Z7 (r2 [0] [.i z] ⟨rfl,rfl⟩ li)))
theorem Z3z (S:List Nat) (M:Yl) (v:Value) (xs:List ZS) (q:Int) (ih:∀(S:List Nat) (M:Yl) (v:Value) (ys:List ZU) (q:Int),(SizeOf.sizeOf ys<SizeOf.sizeOf xs)->(Wh S v ys.length)->(Vs M S (Z3 v) 0 ys)->(X6 M (Yf (Z3 v) 0 ys) q)->(0<=q/\q+((Yf (Z3 v) 0 ys).length:Nat)<=4000000000000)->Za 111 [.val v,.i q] [.own S M] (fun r h=>r=.i (q+((Yf (Z3 v) 0 ys).length:Nat))/\h=[.own S M])) (hd:Wh S v xs.length) (hs:U5 M S (Z3 v) 0 xs) (hh:X6 M (Xg (Z3 v) 0 xs) q) (hq:0<=q/\q+((Xg (Z3 v) 0 xs).length:Nat)<=4000000000000):Za 168 [.val v,.i q] [.own S M] (fun r h=>r=.i (q+((Xg (Z3 v) 0 xs).length:Nat))/\h=[.own S M]):=by
 have hal:=FG (g:=Z3 v) (o:=0) (xs:=xs)
 refine Zx 31 Tryz.func168 (Zf (Yj (ab 0 (ZR (fun fz gz m F h=>∃(k:Nat) (z:Int),(k<=xs.length)/\(0<=z)/\(z+((Xg (Z3 v) (k*2) (xs.drop k)).length:Nat)=q+((Xg (Z3 v) 0 xs).length:Nat))/\(X6 M (Xg (Z3 v) (k*2) (xs.drop k)) z)/\F=sF [0] fz [(1,.i z),(5,.i k)]/\h=gz/\m=xs.length-k) _ _ _ ⟨0,q,ob,ob,(by simp),(by simpa using hh),rfl,rfl,rfl⟩ (wk [0] (fr (ZT fl))) ?_))))
 rintro m F h ⟨k,z,ZX,Z9,Zz,Y5,rfl,rfl,rfl⟩
 refine Y8 2 (Zg (Kc S v xs.length hd) (ZN ((k:Int)<(xs.length:Int)) (fun Z5=>?_) (fun Z5=>?_)))
 ·have hb:=hd.blk (i:=k) om
  obtain ⟨x1,Z2⟩:=Zv xs k om
  have e1:=Ip hs Z2
  rw [Vf] at e1
  rw [PW] at e1
  have hz:SizeOf.sizeOf x1.steps<SizeOf.sizeOf xs:=Nv Z2
  obtain ⟨⟨⟨a0,d0⟩,s0⟩,i1⟩:=e1
  have hdr:=Lk (g:=Z3 v) Z2
  have hln:=Hv (g:=Z3 v) (o:=k*2) (b:=x1)
  have hl0:=Yp List.length hdr
  rw [Yz,hln] at hl0
  rw [hdr] at Y5
  obtain ⟨hA,hR⟩:=(K7 _ _ _ _).1 Y5
  obtain ⟨h0,h1⟩:=Z47 hA
  refine ak (aq (ab 1 (ZM 2 (Zg (WG S v xs.length k 2 (k:Int) hd) (Z1 1 (Xu (VS 0 S M (Z3 v) (k*2) x1.sv hb.1 a0) (Z1 1 (ZC [0] (ih S M x1.sv x1.steps z ob ob ob ob ob) (Z0 (Yq (ZN ((z+((Yf (Z3 x1.sv) 0 x1.steps).length:Nat))<0) (fun Zd=>?_) (fun Zd=>?_))))))))))))
  ·exact ar (Z7 (r2 [0] [.i (-1)] ⟨rfl,rfl⟩ li))
  refine ak (Y8 2 (Zg (WG S v xs.length k 2 (k:Int) hd) (Z1 1 (Xu (VS 0 S M (Z3 v) (k*2+1) (.int .i64 (z+((Yf (Z3 x1.sv) 0 x1.steps).length:Nat))) hb.1 h1) (Yt ((z+((Yf (Z3 x1.sv) 0 x1.steps).length:Nat)) != (z+((Yf (Z3 x1.sv) 0 x1.steps).length:Nat))) ZO (fun Zw=>?_) (fun Zw=>?_))))))
  ·exact ar (Z7 (r2 [0] [.i (-1)] ⟨rfl,rfl⟩ li))
  exact ak (az (Z1 1 (ia (((z+((Yf (Z3 x1.sv) 0 x1.steps).length:Nat))+1)) (((z+((Yf (Z3 x1.sv) 0 x1.steps).length:Nat)))+(1)) (Z0 (az (Z1 1 (ZK k (Z0 (ZJ ⟨k+1,((z+((Yf (Z3 x1.sv) 0 x1.steps).length:Nat))+1),ob,ob,ob,(CL hR om),rfl,rfl,rfl⟩ (wk [0] (fr (ZL k fl))))))))))))
 have he:(Xg (Z3 v) (k*2) (xs.drop k))=[]:=by rw [QP om,Xg]
 rw [he,Vt] at Zz
 exact ax 0 (ar (Z7 (r2 [0] [.i z] ⟨rfl,rfl⟩ li)))
theorem Z46 (n:Nat):(∀(S:List Nat) (M:Yl) (v:Value) (xs:List ZU) (q:Int),(SizeOf.sizeOf xs<n)->(Wh S v xs.length)->(Vs M S (Z3 v) 0 xs)->(X6 M (Yf (Z3 v) 0 xs) q)->(0<=q/\q+((Yf (Z3 v) 0 xs).length:Nat)<=4000000000000)->Za 111 [.val v,.i q] [.own S M] (fun r h=>r=.i (q+((Yf (Z3 v) 0 xs).length:Nat))/\h=[.own S M]))/\(∀(S:List Nat) (M:Yl) (v:Value) (xs:List ZS) (q:Int),(SizeOf.sizeOf xs<n)->(Wh S v xs.length)->(U5 M S (Z3 v) 0 xs)->(X6 M (Xg (Z3 v) 0 xs) q)->(0<=q/\q+((Xg (Z3 v) 0 xs).length:Nat)<=4000000000000)->Za 168 [.val v,.i q] [.own S M] (fun r h=>r=.i (q+((Xg (Z3 v) 0 xs).length:Nat))/\h=[.own S M])):=by
 induction n with
 | zero=>exact ⟨fun _ _ _ _ _ h=>by omega,fun _ _ _ _ _ h=>by omega⟩
 | succ n ih=>
  obtain ⟨i1,i2⟩:=ih
  exact ⟨fun S M v xs q hz h3 h4 h5 h9=>Z45 S M v xs q (fun S M v ys q hz2 h3 h4 h5 h9=>i2 S M v ys q om h3 h4 h5 h9) h3 h4 h5 h9,fun S M v xs q hz h3 h4 h5 h9=>Z3z S M v xs q (fun S M v ys q hz2 h3 h4 h5 h9=>i1 S M v ys q om h3 h4 h5 h9) h3 h4 h5 h9⟩
theorem Z44 (S:List Nat) (M:Yl) (v:Value) (xs:List ZU) (q:Int) (hd:Wh S v xs.length:=by exact ob) (hs:Vs M S (Z3 v) 0 xs:=by exact ob) (hh:X6 M (Yf (Z3 v) 0 xs) q:=by exact ob) (hq:0<=q/\q+((Yf (Z3 v) 0 xs).length:Nat)<=4000000000000:=by exact ob):Za 111 [.val v,.i q] [.own S M] (fun r h=>r=.i (q+((Yf (Z3 v) 0 xs).length:Nat))/\h=[.own S M]):=(Z46 (SizeOf.sizeOf xs+1)).1 S M v xs q om hd hs hh hq
theorem Z43 (S:List Nat) (M:Yl) (v:Value) (xs:List YN) (q:Int) (hd:Wh S v xs.length:=by exact ob) (hs:J7 M S (Z3 v) 0 xs:=by exact ob) (hh:X6 M (WK (Z3 v) 0 xs) q:=by exact ob) (hq:0<=q/\q+((WK (Z3 v) 0 xs).length:Nat)<=4000000000000:=by exact ob):Za 56 [.val v,.i q] [.own S M] (fun r h=>r=.i (q+((WK (Z3 v) 0 xs).length:Nat))/\h=[.own S M]):=by
 have hal:=FL (g:=Z3 v) (o:=0) (xs:=xs)
 refine Zx 60 Tryz.func56 (Zf (Yj (ab 0 (ZR (fun fz gz m F h=>∃(k:Nat) (z:Int),(k<=xs.length)/\(0<=z)/\(z+((WK (Z3 v) (k*5) (xs.drop k)).length:Nat)=q+((WK (Z3 v) 0 xs).length:Nat))/\(X6 M (WK (Z3 v) (k*5) (xs.drop k)) z)/\F=sF [0] fz [(1,.i z),(5,.i k)]/\h=gz/\m=xs.length-k) _ _ _ ⟨0,q,ob,ob,(by simp),(by simpa using hh),rfl,rfl,rfl⟩ (wk [0] (fr (ZT fl))) ?_))))
 rintro m F h ⟨k,z,ZX,Z9,Zz,Y5,rfl,rfl,rfl⟩
 refine Y8 2 (Zg (Kc S v xs.length hd) (ZN ((k:Int)<(xs.length:Int)) (fun Z5=>?_) (fun Z5=>?_)))
 ·have hb:=hd.blk (i:=k) om
  obtain ⟨x1,Z2⟩:=Zv xs k om
  have e1:=Iw hs Z2
  rw [Vf] at e1
  obtain ⟨⟨⟨a0,d0⟩,s0⟩,⟨⟨a1,d1⟩,s1⟩,i2,⟨⟨a3,d3⟩,s3⟩,i4⟩:=e1
  have hdr:=Lz (g:=Z3 v) Z2
  have hln:=EG (g:=Z3 v) (o:=k*5) (r:=x1)
  have hl0:=Yp List.length hdr
  rw [Yz,hln] at hl0
  rw [hdr] at Y5
  obtain ⟨hA,hR⟩:=(K7 _ _ _ _).1 Y5
  obtain ⟨h0,h1,h2,h3,h4⟩:=Z49 hA
  refine ak (aq (ab 1 (ZM 2 (Zg (WG S v xs.length k 5 (k:Int) hd) (Z1 1 (Xu (VS 0 S M (Z3 v) (k*5) x1.pv hb.1 a0) (Z1 1 (ZC [0] (Ej S M x1.pv x1.params z) (Z0 (Yq (ZN ((z+((ZA (Z3 x1.pv) 0 x1.params.length).length:Nat))<0) (fun Zd=>?_) (fun Zd=>?_))))))))))))
  ·exact ar (Z7 (r2 [0] [.i (-1)] ⟨rfl,rfl⟩ li))
  refine ak (ZM 2 (Zg (WG S v xs.length k 5 (k:Int) hd) (Z1 1 (Xu (VS 0 S M (Z3 v) (k*5+1) x1.lv hb.1 a1) (Z1 1 (ZC [0] (Ej S M x1.lv x1.lent (z+((ZA (Z3 x1.pv) 0 x1.params.length).length:Nat))) (Z0 (Yq (ZN (((z+((ZA (Z3 x1.pv) 0 x1.params.length).length:Nat))+((ZA (Z3 x1.lv) 0 x1.lent.length).length:Nat))<0) (fun Zw=>?_) (fun Zw=>?_))))))))))
  ·exact ar (Z7 (r2 [0] [.i (-1)] ⟨rfl,rfl⟩ li))
  refine ak (Y8 2 (Zg (WG S v xs.length k 5 (k:Int) hd) (Z1 1 (Xu (VS 0 S M (Z3 v) (k*5+2) (.int .i64 ((z+((ZA (Z3 x1.pv) 0 x1.params.length).length:Nat))+((ZA (Z3 x1.lv) 0 x1.lent.length).length:Nat))) hb.1 h2) (Yt (((z+((ZA (Z3 x1.pv) 0 x1.params.length).length:Nat))+((ZA (Z3 x1.lv) 0 x1.lent.length).length:Nat)) != ((z+((ZA (Z3 x1.pv) 0 x1.params.length).length:Nat))+((ZA (Z3 x1.lv) 0 x1.lent.length).length:Nat))) ZO (fun Yd=>?_) (fun Yd=>?_))))))
  ·exact ar (Z7 (r2 [0] [.i (-1)] ⟨rfl,rfl⟩ li))
  refine ak (ZM 1 (ia ((((z+((ZA (Z3 x1.pv) 0 x1.params.length).length:Nat))+((ZA (Z3 x1.lv) 0 x1.lent.length).length:Nat))+1)) ((((z+((ZA (Z3 x1.pv) 0 x1.params.length).length:Nat))+((ZA (Z3 x1.lv) 0 x1.lent.length).length:Nat)))+(1)) (Z0 (ZM 2 (Zg (WG S v xs.length k 5 (k:Int) hd) (Z1 2 (Xu (VS 0 S M (Z3 v) (k*5+3) x1.body.sv hb.1 a3) (Z1 1 (ZC [0] (Z44 S M x1.body.sv x1.body.steps (((z+((ZA (Z3 x1.pv) 0 x1.params.length).length:Nat))+((ZA (Z3 x1.lv) 0 x1.lent.length).length:Nat))+1)) (Z0 (Yq (ZN (((((z+((ZA (Z3 x1.pv) 0 x1.params.length).length:Nat))+((ZA (Z3 x1.lv) 0 x1.lent.length).length:Nat))+1)+((Yf (Z3 x1.body.sv) 0 x1.body.steps).length:Nat))<0) (fun Xm=>?_) (fun Xm=>?_)))))))))))))
  ·exact ar (Z7 (r2 [0] [.i (-1)] ⟨rfl,rfl⟩ li))
  refine ak (Y8 2 (Zg (WG S v xs.length k 5 (k:Int) hd) (Z1 2 (Xu (VS 0 S M (Z3 v) (k*5+4) (.int .i64 ((((z+((ZA (Z3 x1.pv) 0 x1.params.length).length:Nat))+((ZA (Z3 x1.lv) 0 x1.lent.length).length:Nat))+1)+((Yf (Z3 x1.body.sv) 0 x1.body.steps).length:Nat))) hb.1 h4) (Yt (((((z+((ZA (Z3 x1.pv) 0 x1.params.length).length:Nat))+((ZA (Z3 x1.lv) 0 x1.lent.length).length:Nat))+1)+((Yf (Z3 x1.body.sv) 0 x1.body.steps).length:Nat)) != ((((z+((ZA (Z3 x1.pv) 0 x1.params.length).length:Nat))+((ZA (Z3 x1.lv) 0 x1.lent.length).length:Nat))+1)+((Yf (Z3 x1.body.sv) 0 x1.body.steps).length:Nat))) ZO (fun Wc=>?_) (fun Wc=>?_))))))
  ·exact ar (Z7 (r2 [0] [.i (-1)] ⟨rfl,rfl⟩ li))
  exact ak (az (Z1 1 (ia ((((((z+((ZA (Z3 x1.pv) 0 x1.params.length).length:Nat))+((ZA (Z3 x1.lv) 0 x1.lent.length).length:Nat))+1)+((Yf (Z3 x1.body.sv) 0 x1.body.steps).length:Nat))+1)) ((((((z+((ZA (Z3 x1.pv) 0 x1.params.length).length:Nat))+((ZA (Z3 x1.lv) 0 x1.lent.length).length:Nat))+1)+((Yf (Z3 x1.body.sv) 0 x1.body.steps).length:Nat)))+(1)) (Z0 (az (Z1 1 (ZK k (Z0 (ZJ ⟨k+1,(((((z+((ZA (Z3 x1.pv) 0 x1.params.length).length:Nat))+((ZA (Z3 x1.lv) 0 x1.lent.length).length:Nat))+1)+((Yf (Z3 x1.body.sv) 0 x1.body.steps).length:Nat))+1),ob,ob,ob,(CL hR om),rfl,rfl,rfl⟩ (wk [0] (fr (ZL k fl))))))))))))
 have he:(WK (Z3 v) (k*5) (xs.drop k))=[]:=by rw [QP om];rfl
 rw [he,Vt] at Zz
 exact ax 0 (ar (Z7 (r2 [0] [.i z] ⟨rfl,rfl⟩ li)))
theorem Z42 (S:List Nat) (M:Yl) (y:X4) (q:Int) (hs:Q6 M S y) (hl:∀d∈y.decls,d.cons.length<=4000000000000) (hh:X6 M (W5 y) q) (hq:0<=q/\q+((W5 y).length:Nat)<=4000000000000):Za 23 [.agg [.val y.dv,.val y.rv],.i q] [.own S M] (fun r h=>r=.i (q+((W5 y).length:Nat))/\h=[.own S M]):=by
 obtain ⟨⟨d0,s0⟩,⟨d1,s1⟩⟩:=hs
 have hln:=Hw (y:=y)
 obtain ⟨h0,h1⟩:=(K7 _ _ _ _).1 (show X6 M (_++_) q from hh)
 refine Zx 18 Tryz.func23 (ar (iA [.val y.dv,.val y.rv] fun b1=>Z0 (ZB 3 [0] (ZC [1] (Z41 S M y.dv y.decls q (hl:=ob)) (Z0 (Yq (ZN ((q+((Wi (Z3 y.dv) 0 y.decls).length:Nat))<0) (fun Z5=>?_) (fun Z5=>?_))))))))
 ·exact ar (Z7 (r2 [0] [.i (-1)] ⟨rfl,rfl⟩ li))
 refine ak (ZB 3 [1] (ZC [0] (Z43 S M y.rv y.routines (q+((Wi (Z3 y.dv) 0 y.decls).length:Nat))) (Z0 (Yq (ZN (((q+((Wi (Z3 y.dv) 0 y.decls).length:Nat))+((WK (Z3 y.rv) 0 y.routines).length:Nat))<0) (fun Zd=>?_) (fun Zd=>?_))))))
 ·exact ar (Z7 (r2 [0] [.i (-1)] ⟨rfl,rfl⟩ li))
 exact ak (ar (Z7 (r2 [0] [.i ((q+((Wi (Z3 y.dv) 0 y.decls).length:Nat))+((WK (Z3 y.rv) 0 y.routines).length:Nat))] ⟨rfl,rfl⟩ li)))
theorem PY {m m':Yl} {B:List Nat} {y:X4} (k:Kp m m') (h:Q6 m B y):Q6 m' B y:=⟨⟨h.1.1,PX k h.1.2⟩,⟨h.2.1,Ix k h.2.2⟩⟩
theorem Lx {m:Yl} {B:List Nat} {y:X4} (h:Q6 m B y):∀a∈W5 y,Va m a:=fun a ha=>(Yv.1 ha).elim (FK h.1.2 a) (LA h.2.2 a)
theorem Zdh (x:Zl) (hl:Wj x<=1000000000):Za 17 [X3 x] [] (fun r h=>∃(y:X4) (S:List Nat) (M:Yl),r=av y/\h=[.own S M]/\(y.er=x/\Q6 M S y/\(W5 y).Nodup/\JX S M y)):=(B9 x hl).thaw
theorem OB (S:List Nat) (M:Yl) (y:X4) (q:Int) (hs:Q6 M S y) (hl:∀d∈y.decls,d.cons.length<=4000000000000) (hq:0<=q/\q+((W5 y).length:Nat)<=4000000000000):Za 22 [av y,.i q] [.own S M] (fun r h=>r=.i (q+((W5 y).length:Nat))/\h=[.own S (wr M (W5 y) q)]):=by
 rw [Ck (BH hs)]
 exact Z7x S M y q hs hl hq
theorem Nt (S:List Nat) (M:Yl) (y:X4) (q:Int) (hs:Q6 M S y) (hl:∀d∈y.decls,d.cons.length<=4000000000000) (hh:X6 M (W5 y) q) (hq:0<=q/\q+((W5 y).length:Nat)<=4000000000000):Za 23 [av y,.i q] [.own S M] (fun r h=>r=.i (q+((W5 y).length:Nat))/\h=[.own S M]):=by
 rw [Ck (BH hs)]
 exact Z42 S M y q hs hl hh hq
theorem PQ {S:List Nat} {M:Yl}:∀r∈[Res.own S M],∃B m,r=.own B m:=fun _ hr=>⟨S,M,YH.1 hr⟩
theorem GO (y:X4) (x:Zl) (S:List Nat) (M:Yl) (he:y.er=x) (hrp:JX S M y) (hl:Wj x<=1000000000):Za 19 [av y,X3 x] [.own S M] (fun r h=>r=.b true/\h=[.own S M]):=by
 subst he
 have h1:Za 19 [VE y,X3 y.er] [] _:=(Hp y.er hl).args_le (.cons (KV y) (.cons (Zk.refl _) .nil))
 refine (h1.lendO [.own S M] (.lent (YH.2 rfl) hrp (.same .nil)) PQ ?_).mono ?_
 ·rintro r h ⟨rfl,rfl⟩;exact ⟨.val,fun q hq=>by cases hq⟩
 ·rintro r h ⟨h1,⟨rfl,rfl⟩,rfl⟩;exact ⟨rfl,rfl⟩
theorem Z3a (y z:X4) (S:List Nat) (M:Yl) (he:y.er=z.er) (hrp:JX S M y) (hl:Wj z.er<=1000000000):Za 19 [av y,VE z] [.own S M] (fun r h=>r=.b true/\h=[.own S M]):=
 (GO y z.er S M he hrp hl).args_le (.cons (Zk.refl _) (.cons (KV z) .nil))
theorem Z39 (z:X4) (x:Zl) (he:z.er=x) (hl:Wj x<=1000000000):Za 19 [VE z,X3 x] [] (ZP (.b true)):=by
 subst he
 exact (Hp z.er hl).args_le (.cons (KV z) (.cons (Zk.refl _) .nil))
theorem Zbi (z:X4) (n:Zl) (he:z.er=n) (hz:WI n):Za 20 [VE z] [] (ZP (.tup [X3 ((XI n).1),.b ((XI n).2)])):=by
 subst he
 have h1:Za 20 [VE z] [] _:=(Zb4 z.er hz).args_le (.cons (KV z) .nil)
 exact h1
theorem NI (z:X4) (n:Zl) (he:z.er=n) (hz:WI n) (hr:∀r∈n.routines,r.body.rng):Za 21 [VE z] [] (fun r h=>∃(y:X4),r=.tup [VE y,.b ((XI n).2)]/\h=[.many (Xe y)]/\y.er=(XI n).1):=by
 subst he
 exact (NA z.er hz hr).args_le (.cons (KV z) .nil)
theorem Z5h (z:X4) (n:Zl) (S:List Nat) (M:Yl) (he:z.er=n) (hz:WI n) (hr:∀r∈n.routines,r.body.rng) (hrp:JX S M z):Za 21 [av z] [.own S M] (fun r h=>∃(y:X4) (S2:List Nat) (M2:Yl),r=.tup [av y,.b ((XI n).2)]/\h=[.own S2 M2,.own S M]/\(y.er=(XI n).1/\Q6 M2 S2 y/\(W5 y).Nodup/\JX S2 M2 y)):=by
 refine ((NI z n he hz hr).thaw2.lendO [.own S M] (.lent (YH.2 rfl) hrp .nil) PQ ?_).mono ?_
 ·rintro r h ⟨y,S2,M2,rfl,rfl,_⟩
  refine ⟨.tup fun q hq=>?_,fun q hq=>by rw [YH.1 hq];trivial⟩
  rcases Yw.1 hq with rfl|hq
  ·exact .agg fun q hq=>by
    rcases Yw.1 hq with rfl|hq
    ·exact .val
    ·rw [YH.1 hq];exact .val
  ·rw [YH.1 hq];exact .val
 ·rintro r h ⟨h1,⟨y,S2,M2,rfl,rfl,hp⟩,rfl⟩;exact ⟨y,S2,M2,rfl,rfl,hp⟩
theorem Z6s (n:Zl) (hl:Wj n<=9223372036854775807) (hr:∀r∈n.routines,r.body.rng):Za 6 [X3 n] [] (ZP (.b true)):=by
 refine Zx 96 Tryz.func6 (ar (iA (W8 n) fun b1=>Z0 (Zf (ZB 2 [0] (ZC [] (Oe n 1048576 ob ob) (Z0 (Yq (ZN ((Y4 (Wj n) 1048576)<0) (fun Z5=>?_) (fun Z5=>?_)))))))))
 ·exact ar (Z7 (T8))
 have YD:Wj n<=1048576:=by unfold Y4 at Z5;split at Z5<;>omega
 have hz:=OP (n:=n) om
 have hxc:=Z0v hz
 refine ak (ZB 1 [0] (ic [] (B9 n ob) ?_))
 rintro _ _ ⟨y1,rfl,rfl,Ya⟩
 have hnhp1:Wj y1.er<=1000000000:=by rw [Ya];omega
 refine ZC [] (Zbi y1 n ob ob) (Z1 3 (iA [nl,nl] fun b2=>Y0 0 b2 (W8 ((XI n).1)) (Z0 (ZB 1 [2] (ic [] (Zdh n ob) ?_)))))
 rintro _ _ ⟨y2,S1,M1,rfl,rfl,YT⟩
 obtain ⟨ho1,ho2,ho3,ho4⟩:=YT
 have ho5:=Lw y2
 have ho6:=My (y:=y2)
 rw [ho1] at ho5 ho6
 have ho7:∀d∈y2.decls,d.cons.length<=4000000000000:=fun d hd=>by have:=ho6 d hd;omega
 refine iA [nl,nl] fun b3=>Y0 0 b3 [.val ((KE y2.dv).v),.val ((KE y2.rv).v)] (ie (ZB 1 [0] (ic [1] (Z5h y2 n S1 M1 ob ob ob ob) ?_)))
 rintro _ _ ⟨y3,S21,M21,rfl,rfl,Xy⟩
 obtain ⟨hg1,hg2,hg3,hg4⟩:=Xy
 have hg5:=Lw y3
 have hg6:=My (y:=y3)
 rw [hg1] at hg5 hg6
 have hg7:∀d∈y3.decls,d.cons.length<=4000000000000:=fun d hd=>by have:=hg6 d hd;omega
 refine Z1 3 (iA [nl,nl] fun b4=>Y0 0 b4 [.val ((KE y3.dv).v),.val ((KE y3.rv).v)] (Z0 (Ym 2 [0,4] (ZC [1] (GO y3 ((XI n).1) S21 M21 ob ob ob) (Z1 4 (Zg (Ho ((XI n).2) ((XI n).2)) (Yt (((XI n).2) != ((XI n).2)) ZO (fun Zd=>?_) (fun Zd=>?_))))))))
 ·exact ar (Z7 (Zo (.b false) (lb (absurd rfl Zd))))
 refine ak (aq (aD 5 (Y7 3 5 [0,1] [3,6] (ZF 2 (dc 2 [] [1] [b3] (B9 n ob) ?_)))))
 rintro _ _ ⟨y4,rfl,rfl,XE⟩
 have hnhp4:Wj y4.er<=1000000000:=by rw [XE];omega
 refine ZF 3 (XY 3 [3] [] [] (Z3a y2 y4 S1 M1 (by rw [ho1];symm;assumption) ob ob) (Zm 0 1 [4] (de (XC (ak (Zf (ZB 2 [4] (ZC [0] (OB S1 M1 y2 1 ob ob ob) (Z0 (Yq (Xz 8 [1,4,5,7,8] [(56,.b (decide (((1:Int)+((W5 y2).length:Nat))<0)))] (fun gz=>gz) ?_ (fun hj1=>?_))))))))))))
 ·refine W7 [1,4,5,7] [(61,.b ((decide (((1:Int)+((W5 y2).length:Nat))<0))||(((XI n).2) != ((XI n).2))))] (fun gz=>gz) ?_ ?_
  ·refine Z1 1 (ib (b:=(decide (((1:Int)+((W5 y2).length:Nat))<0))) 57 (fun Zb=>?_) (fun Zb=>?_))
   ·have VO:((1:Int)+((W5 y2).length:Nat))<0:=(dq).1 Zb
    exact Z0 (Y1 8 (Zp true Zb fl))
   have Up:¬(((1:Int)+((W5 y2).length:Nat))<0):=ZZ dq Zb
   exact Z1 2 (Zg (Ho ((XI n).2) ((XI n).2)) (Z0 (Y1 8 (Zp (((XI n).2) != ((XI n).2)) Zb fl))))
  refine ac ((decide (((1:Int)+((W5 y2).length:Nat))<0))||(((XI n).2) != ((XI n).2))) (p:=(((1:Int)+((W5 y2).length:Nat))<0)∨(((XI n).2)≠((XI n).2))) (Yg dq ZO) (fun Zw=>?_) (fun Zw=>?_)
  ·exact ar (Z7 (Zo (.b false) (lb (Zw.elim (fun q=>by omega) fun q=>absurd rfl q))))
  refine ak (Zf (ZB 2 [3] (ZC [2] (OB S21 M21 y3 1 ob ob ob) (Z0 (Zf (ZB 2 [3] (ZC [0] (Nt S21 (wr M21 (W5 y3) 1) y3 1 (PY ((Kp.refl _).wr (Lx hg2) 1) hg2) ob (Ha _ _ _ hg3) ob) (Z0 (Yq (ZN (((1:Int)+((W5 y3).length:Nat))<0) (fun Yd=>?_) (fun Yd=>?_)))))))))))
  ·exact ar (Z7 (Zo (.b false) lb))
  refine ak (Yq (Yt (((1:Int)+((W5 y3).length:Nat)) != ((1:Int)+((W5 y3).length:Nat))) ZO (fun Xm=>?_) (fun Xm=>?_)))
  ·exact ar (Z7 (Zo (.b false) lb))
  refine ak (ZB 1 [7] (ic [] (B9 n ob) ?_))
  rintro _ _ ⟨y5,rfl,rfl,UV⟩
  have hnhp7:Wj y5.er<=1000000000:=by rw [UV];omega
  refine ic [] (NI y5 n ob ob ob) ?_
  rintro _ _ ⟨y6,rfl,rfl,Td⟩
  refine Z1 3 (iA [nl,nl] fun b5=>Y0 0 b5 (BR y6) (Z0 (Ym 2 [0,8] (ZC [] (Z39 y6 ((XI n).1) ob ob) (Z1 4 (Zg (Ho ((XI n).2) ((XI n).2)) (Yt (((XI n).2) != ((XI n).2)) ZO (fun Wc=>?_) (fun Wc=>?_))))))))
  ·exact ar (Z7 (Zo (.b false) (lb (absurd rfl Wc))))
  refine ak (Zf (ZB 2 [6] (ZC [3] (Nt S21 (wr M21 (W5 y3) 1) y3 1 (PY ((Kp.refl _).wr (Lx hg2) 1) hg2) ob (Ha _ _ _ hg3) ob) (Z0 (Yq (ZN (((1:Int)+((W5 y3).length:Nat))<0) (fun UU=>?_) (fun UU=>?_)))))))
  ·exact ar (Z7 (Zo (.b false) lb))
  refine ak (Yq (Yt (((1:Int)+((W5 y3).length:Nat)) != ((1:Int)+((W5 y3).length:Nat))) ZO (fun Vy=>?_) (fun Vy=>?_)))
  ·exact ar (Z7 (Zo (.b false) lb))
  exact ak (ar (Z7 (T8)))
 refine Z1 3 (ib (b:=(decide (((1:Int)+((W5 y2).length:Nat))<0))) 51 (fun ZD=>?_) (fun ZD=>?_))
 ·have Qk:((1:Int)+((W5 y2).length:Nat))<0:=(dq).1 ZD
  exact Z1 5 (Yb (Y1 8 (fc (x:=.b true) (lb ZD.symm) fl)) hj1)
 have K8:¬(((1:Int)+((W5 y2).length:Nat))<0):=ZZ dq ZD
 exact Y3 2 [3,5] (ZC [2] (GO y3 ((XI n).1) S21 M21 ob ob ob) (Z1 2 (Yb (wk [1,1,0,0,0,0,0,0] (fc (x:=.b false) (lb ZD.symm) fl)) hj1)))





section
variable {ds:List Zs}
theorem II:∀{xs:List Z8},VV xs↔∀s∈xs,s.rng
 | []=>by simp [VV]
 | s::r=>by rw [VV,II];simp
end

theorem Pu {n:Zl}:∀{l:List YB},(∀r∈l,¬UG r.body<0/\Ys n r.params r.body=r.result)->Tu n l=true
 | [],_=>by rw [Tu]
 | r::rs,h=>by rw [Tu,Z6 (h r (YV ..))];exact Pu fun q hq=>h q (Xv _ hq)

noncomputable instance decBlock:DecidableEq Zh:=fun a b=>Classical.propDecidable (a=b)
noncomputable instance decStep:DecidableEq Z8:=fun a b=>Classical.propDecidable (a=b)
noncomputable instance decDecls:DecidableEq Zs:=fun a b=>Classical.propDecidable (a=b)
noncomputable instance decNormal:DecidableEq Zl:=fun a b=>Classical.propDecidable (a=b)

mutual
def kS:Z8->Nat
 | .mk op _ _ _ kids=>(if YU op=true then 1 else 0)+O0 kids
def kB:Zh->Nat
 | .mk steps _=>O4 steps
def O4:List Z8->Nat
 | []=>0
 | s::r=>kS s+O4 r
def O0:List Zh->Nat
 | []=>0
 | b::r=>kB b+O0 r
end



end Go.Abs
section
namespace Go.Abs
end Go.Abs
namespace Go.Abs
end Go.Abs
end
namespace Go.Abs
section
variable {n:Zl}
theorem RK {us:LI} {op x:Int} (h:op=14∨op=15):ZQ n us (XW op x)=(match YJ us x with|some t=>if t=0 then -1 else 0|none=>-1):=by
 rw [XW,ZQ]
 have hv:Vl us op 0=true:=by simp [Vl]
 rw [Z4 (by rw [hv];simp),Z4 om,Z4 om,Z4 om,Z4 om,Z4 om,Z4 om,Z4 om,Z4 om,Z6 om,Ty]
 cases YJ us x with
 | none=>rfl
 | some t=>
  show (if t=0 then (-1:Int) else if (op≠14/\op≠15)/\XK n.decls t=true then -1 else 0)=if t=0 then -1 else 0
  split
  ·rfl
  ·rw [Z4 om]
theorem Zdq {us:LI} {op x:Int} (h:op=14∨op=15) (g:0<=ZQ n us (XW op x)):∃t,YJ us x=some t/\t≠0:=by
 rw [RK h] at g
 cases ha:YJ us x with
 | none=>rw [ha] at g;exact absurd g (show ¬(0:Int)<=-1 by decide)
 | some t=>
  rw [ha] at g
  refine ⟨t,rfl,fun e=>?_⟩
  subst e
  exact absurd g (show ¬(0:Int)<=(if (0:Int)=0 then -1 else 0) by decide)
theorem RL {us:LI} {op x t:Int} (h:op=14∨op=15) (ha:YJ us x=some t) (h0:t≠0):ZQ n us (XW op x)=0:=by
 rw [RK h,ha]
 show (if t=0 then (-1:Int) else 0)=0
 rw [Z4 h0]
theorem Z15 {op:Int} (h:op=14∨op=15):Xx op=false:=by rcases h with rfl|rfl<;>rfl
end

def Zc.wo (L:Zc) (o:LI):Zc:=⟨L.vars,o,L.par,L.con,L.fst,L.tok⟩

section
variable {ds:List Zs}
theorem Zc3 {xs ys:List Z8} (h:VV xs) (g:VV ys):VV (xs++ys):=by
 rw [II] at h g ⊢
 intro s hs
 rcases Yv.1 hs with hs|hs
 ·exact h s hs
 ·exact g s hs
end
theorem Z05 {n:Zl} (hb:VX n=true):XT n=true:=by rw [VX,Xs] at hb;exact hb.1
theorem Z0o (bs:List Zh):(UK bs).length=bs.length:=by rw [DM,Uh]
theorem Z0r {n:Zl}:∀vars op num args,Tf (Wm n) vars op num args=Tf n vars op num args:=by
 intro vars op num args
 unfold Tf Wm
 dsimp only
 have e:YJ (n.routines.map VZ) num=(YJ n.routines num).map VZ:=by
  unfold YJ
  rw [Uh]
  split
  ·rw [Th]
  ·rfl
 rw [e]
 cases YJ n.routines num with
 | none=>rfl
 | some r=>rfl
def CZ (us:LI) (L:List (Int × Int)):Prop:=∀p∈L,∃t,YJ us p.1=some t/\t≠0
section
variable {n:Zl}
theorem Zdr {us:LI} {s:Z8} (hw:wS n.decls s) (hp:s.op=14∨s.op=15) (h:0<=ZQ n us s):∃t,YJ us (ev s).1=some t/\t≠0:=by
 obtain ⟨_,hk,a,ha⟩:=Ba hw (by simp [YU];omega)
 have hc:=((L4 s).1 hw).2.1 (by simp [YU];omega)
 have e:s=XW s.op a:=by
  cases s with
  | mk op num into args kids=>
   simp only [Z8.num,Z8.into,Z8.kids,Z8.args] at hc hk ha
   rw [hc.1,hc.2.1,ha,hk];rfl
 rw [e] at h
 have:=Zdq hp h
 show ∃t,YJ us (gI s.args 0)=some t/\t≠0
 rw [ha];exact this
theorem CZ.snoc {us:LI} {L:List (Int × Int)} {s:Z8} (hL:CZ us L) (h:∃t,YJ us (ev s).1=some t/\t≠0):CZ us (L++[ev s]):=fun p hp=>by
 rcases Yv.1 hp with hp|hp
 ·exact hL p hp
 ·rw [YH.1 hp];exact h
theorem Z2b {L:List (Int × Int)} {vs:LI} {v:Int} (h:v∈UC L vs):v∈vs:=by
 rw [UC,Cb] at h
 obtain ⟨x,hx,hv⟩:=h
 rw [C8 hv];exact hx
theorem Z2a {L:List (Int × Int)} {vs:LI} {v:Int} (h:v∈Tm L vs):v∈vs:=by
 rw [Tm,Cb] at h
 obtain ⟨x,hx,hv⟩:=h
 rw [C8 hv];exact hx
theorem PT {n2:Zl} {us:LI} {L:List (Int × Int)} (h:CZ us L):∀s∈Ve L,0<=ZQ n2 us s/\Xx s.op=false:=by
 intro s hs
 rw [Ve,Yv] at hs
 rcases hs with hs|hs
 ·obtain ⟨v,hv,rfl⟩:=Xb.1 hs
  obtain ⟨p,hp,e⟩:=CT.1 (Z2b hv)
  obtain ⟨t,h1,h2⟩:=h p hp
  rw [e] at h1
  exact ⟨by rw [RL (.inl rfl) h1 h2];exact Int.le_refl _,rfl⟩
 ·obtain ⟨v,hv,rfl⟩:=Xb.1 hs
  obtain ⟨p,hp,e⟩:=CT.1 (Z2a hv)
  obtain ⟨t,h1,h2⟩:=h p hp
  rw [e] at h1
  exact ⟨by rw [RL (.inr rfl) h1 h2];exact Int.le_refl _,rfl⟩
theorem IX {n2:Zl} {us:LI}:∀{l r:List Z8},(∀s∈l,0<=ZQ n2 us s/\Xx s.op=false)->Xr n2 (l++r) us=Xr n2 r us
 | [],r,_=>rfl
 | s::l,r,h=>by
  have h1:=h s (YV ..)
  rw [Kn,Xr,Z4 om,h1.2,Z4 (by decide)]
  exact IX fun t ht=>h t (Xv _ ht)
mutual
theorem Z0u:∀(s:Z8) {us:LI},wS n.decls s->0<=ZQ n us s->ZQ (Wm n) us (TR s)=ZQ n us s
 | .mk op num into args kids,us,hc,h=>by
  have hd:(Wm n).decls=n.decls:=rfl
  have hrt:=Z0r (n:=n) us op num args
  have hl:=Z0o kids
  have hv:Vl us op 0=true:=by simp [Vl]
  rw [wS] at hc
  have hk:=fun (ms:List LI) (f:Bool) (t:Int) (hh:0<=XL n us kids ms f t)=>Md kids (us:=us) (ms:=ms) (f:=f) (t:=t) hc.2.2.2 hh
  rw [ZQ] at h ⊢
  rw [TR,ZQ,hd,hrt,hl]
  split at h
  ·omega
  ·rename_i h1
   rw [Z4 h1,Z4 h1]
   by_cases g0:op=0
   ·simp only [Z6 g0]
   simp only [Z4 g0] at h ⊢
   by_cases g1:op=1∨op=2∨op=3∨op=4
   ·simp only [Z6 g1]
   simp only [Z4 g1] at h ⊢
   by_cases g5:op=5
   ·simp only [Z6 g5]
   simp only [Z4 g5] at h ⊢
   by_cases g6:op=6
   ·simp only [Z6 g6]
   simp only [Z4 g6] at h ⊢
   by_cases g7:op=7
   ·simp only [Z6 g7] at h ⊢
    by_cases q1:XA us args [0]=true
    ·simp only [Z6 q1] at h ⊢
     by_cases q2:(YF n.decls op num).length=0∨kids.length≠(YF n.decls op num).length
     ·simp only [Z6 q2]
     ·simp only [Z4 q2] at h ⊢
      exact hk _ _ _ h
    ·simp only [Z4 q1]
   simp only [Z4 g7] at h ⊢
   by_cases g8:op=8
   ·simp only [Z6 g8] at h ⊢
    by_cases q1:XA us args [num]=true
    ·simp only [Z6 q1] at h ⊢
     by_cases q2:(YF n.decls op num).length=0∨kids.length≠(YF n.decls op num).length
     ·simp only [Z6 q2]
     ·simp only [Z4 q2] at h ⊢
      exact hk _ _ _ h
    ·simp only [Z4 q1]
   simp only [Z4 g8] at h ⊢
theorem Md:∀(bs:List Zh) {us:LI} {ms:List LI} {f:Bool} {t:Int},J9 n.decls bs->0<=XL n us bs ms f t->XL (Wm n) us (UK bs) ms f t=XL n us bs ms f t
 | [],us,ms,f,t,_,h=>by rw [UK,XL,XL]
 | b::r,us,[],f,t,_,h=>by rw [UK,XL,XL]
 | b::r,us,m::ms,f,t,hw,h=>by
  rw [XL] at h ⊢
  split at h
  ·omega
  ·rename_i h1
   have hb:=Mc b (us:=us++m) hw.1 om
   rw [Z4 h1,UK,XL,hb,Z4 h1]
   exact Md r hw.2 h
theorem Gg:∀(xs:List Z8) {us vs:LI} {L:List (Int × Int)},KO n.decls xs->CZ us L->Xr n xs us=some vs->Xr (Wm n) (WT xs L) us=some vs
 | [],us,vs,L,_,hL,h=>by
  rw [Xr] at h
  rw [WT]
  have:=IX (n2:=Wm n) (r:=[]) (PT hL)
  rw [AA] at this
  rw [this,Xr];exact h
 | s::r,us,vs,L,hw,hL,h=>by
  rw [Xr] at h
  split at h
  ·cases h
  ·rename_i h1
   rw [WT]
   by_cases hp:s.op=14∨s.op=15
   ·rw [Z6 hp]
    rw [Z15 hp,Z4 (by decide)] at h
    exact Gg r hw.2 (hL.snoc (Zdr hw.1 hp om)) h
   ·rw [Z4 hp,IX (PT hL),Xr,Z0u s hw.1 om,Z4 h1,show (TR s).op=s.op by rw [Ge];rfl]
    exact Gg r hw.2 (fun p hp=>by cases hp) h
theorem Mc:∀(b:Zh) {us:LI},wB n.decls b->0<=Ys n us b->Ys (Wm n) us (W6 b)=Ys n us b
 | .mk steps result,us,hw,h=>by
  rw [wB] at hw
  rw [Ys] at h ⊢
  cases hs:Xr n steps us with
  | none=>rw [hs] at h;exact absurd h (show ¬(0:Int)<=-1 by decide)
  | some vs=>rw [W6,Ys,Gg steps hw (fun p hp=>by cases hp) hs]
end
end
theorem Hu {op:Int} {r:List Z8}:∀{l:LI} {q:Int},(l.length:Int)<=q->V4 (l.map (XW op)++r) q=V4 r (q-l.length)
 | [],q,_=>by simp
 | v::l,q,h=>by
  rw [XF] at h
  rw [Ww,Kn,V4,Z4 om]
  have e:Tt (XW op v) (q-1)=q-1:=by rw [XW,Tt,VJ]
  rw [e,Z4 om,Hu om,XF]
  congr 1;omega
theorem Ok {L:List (Int × Int)} {r:List Z8} {q:Int} (hu:Un L) (h:(L.length:Int)<=q):∃q',V4 (Ve L++r) q=V4 r q'/\q-L.length<=q'/\q'<=q:=by
 have hd:=Cs hu
 refine ⟨q-(UC L (YQ L)).length-(Tm L (YQ L)).length,?_,by omega,by omega⟩
 rw [Ve,VW,Hu om,Hu om]
section
variable {ds:List Zs}
mutual
theorem Z7e:∀(s:Z8) {l l':Int},wS ds s->0<=l->l<=l'->0<=Tt s l->Tt s l<=Tt (TR s) l'
 | .mk op num into args kids,l,l',hw,h0,hl,h=>by rw [wS] at hw;rw [Tt] at h ⊢;rw [TR,Tt];exact Oj kids hw.2.2.2 h0 hl h
theorem Oi:∀(b:Zh) {l l':Int},wB ds b->0<=l->l<=l'->0<=XS b l->XS b l<=XS (W6 b) l'
 | .mk steps _,l,l',hw,h0,hl,h=>by rw [wB] at hw;rw [XS] at h ⊢;rw [W6,XS];exact Ht steps (L:=[]) hw Un.nil h0 (by simpa using hl) h
theorem Ht:∀(xs:List Z8) {L:List (Int × Int)} {l l':Int},KO ds xs->Un L->0<=l->l+L.length<=l'->0<=V4 xs l->V4 xs l<=V4 (WT xs L) l'
 | [],L,l,l',_,hu,h0,hl,h=>by
  obtain ⟨q',e,e1,e2⟩:=Ok (r:=[]) (q:=l') hu om
  rw [AA] at e
  rw [WT,e,V4,V4];omega
 | s::r,L,l,l',hw,hu,h0,hl,h=>by
  have e:V4 (s::r) l=(if l<1 then -1 else if Tt s (l-1)<0 then -1 else V4 r (Tt s (l-1))):=by rw [V4]
  rw [e] at h ⊢
  split at h
  ·omega
  ·rename_i h1
   split at h
   ·omega
   ·rename_i h2
    rw [Z4 h1,Z4 h2,WT]
    have h3:=CO.1 s (l-1) om
    split
    ·rename_i hp
     refine Ht r hw.2 (hu.snoc s) om ?_ h
     rw [Yz];simp only [XF,Vt];omega
    ·obtain ⟨q',e1,e2,e3⟩:=Ok (r:=TR s::WT r []) (q:=l') hu om
     rw [e1]
     have h4:=Z7e s (l:=l-1) (l':=q'-1) hw.1 om om om
     rw [V4,Z4 om,Z4 om]
     exact Ht r (L:=[]) hw.2 Un.nil om (by simpa using h4) h
theorem Oj:∀(xs:List Zh) {l l':Int},J9 ds xs->0<=l->l<=l'->0<=VJ xs l->VJ xs l<=VJ (UK xs) l'
 | [],l,l',_,h0,hl,h=>by rw [VJ,UK,VJ];exact hl
 | b::r,l,l',hw,h0,hl,h=>by
  have e:VJ (b::r) l=(if XS b l<0 then -1 else VJ r (XS b l)):=by rw [VJ]
  rw [e] at h ⊢
  split at h
  ·omega
  ·rename_i h2
   rw [Z4 h2,UK]
   have h4:=Oi b hw.1 h0 hl om
   rw [VJ,Z4 om]
   exact Oj r hw.2 om h4 h
end
end
theorem Z0q (n:Zl):V5 (Wm n)=V5 n:=by
 have e1:(n.routines.map VZ).map VU=n.routines.map VU:=by rw [List.map_map];rfl
 have e2:∀rs:List YB,TI (rs.map VZ)=TI rs:=by
  intro rs
  induction rs with
  | nil=>rfl
  | cons r rs ih=>rw [Ww,TI,TI,ih];rfl
 unfold V5 Wm
 dsimp only
 rw [e1,e2,Uh]
theorem Z0s {n:Zl} (hz:WI n) (hV:XT n=true):XT (Wm n)=true:=by
 have hV0:=hV
 obtain ⟨hn,hvt⟩:=Dp hz hV
 have hwb:=Dq hn hz hvt
 simp only [XT,Xs] at hV
 have hall:=I9 hV.2
 rw [XT,Z0q,hV.1,Bool.true_and]
 refine Pu fun p hp=>?_
 obtain ⟨r,hr,rfl⟩:=Xb.1 (show p∈n.routines.map VZ from hp)
 obtain ⟨h1,h2⟩:=hall r hr
 constructor
 ·show ¬UG (W6 r.body)<0
  rw [UG] at h1 ⊢
  split at h1
  ·exact absurd (show (-1:Int)<0 by decide) h1
  ·rename_i h9
   have h5:=Oi r.body (ds:=n.decls) (l:=600) (l':=600) (hwb r hr) om om om
   have h6:=CO.2 (W6 r.body) 600 om
   rw [Z4 om]
   omega
 ·show Ys (Wm n) r.params (W6 r.body)=r.result
  rw [Mc r.body (hwb r hr) (hvt r hr),h2]
theorem Cl {n:Zl} (hn:YY n) (hz:WI n) (hbt:∀r∈n.routines,0<=Ys n r.params r.body):WI (Wm n):=by
 have hwb:=Dq hn hz hbt
 refine ⟨hz.decls,by show (n.routines.map VZ).length<=_;rw [Uh];exact hz.len,fun p hp=>?_,fun p hp=>?_,fun p hp=>?_⟩
 ·obtain ⟨r,hr,rfl⟩:=Xb.1 (show p∈n.routines.map VZ from hp);exact hz.params r hr
 ·obtain ⟨r,hr,rfl⟩:=Xb.1 (show p∈n.routines.map VZ from hp);exact hz.lent r hr
 ·obtain ⟨r,hr,rfl⟩:=Xb.1 (show p∈n.routines.map VZ from hp)
  have:=Gd r.body (hwb r hr)
  have:=hz.body r hr
  show (W6 r.body).sz<=_;omega
theorem DN {n:Zl} (hn:YY n):YY (Wm n):=by
 refine ⟨hn.decls,by show (n.routines.map VZ).length<=_;rw [Uh];exact hn.len,fun p hp=>?_,fun p hp=>?_⟩
 ·obtain ⟨r,hr,rfl⟩:=Xb.1 (show p∈n.routines.map VZ from hp);exact hn.params r hr
 ·obtain ⟨r,hr,rfl⟩:=Xb.1 (show p∈n.routines.map VZ from hp);exact hn.lent r hr
theorem Ps (op v:Int):(XW op v).rng:=by rw [XW,Z8.rng];exact ⟨by omega,True.intro⟩
theorem PR (L:List (Int × Int)):VV (Ve L):=by
 rw [II]
 intro s hs
 rw [Ve,Yv] at hs
 rcases hs with hs|hs
 ·obtain ⟨v,_,rfl⟩:=Xb.1 hs;exact Ps _ _
 ·obtain ⟨v,_,rfl⟩:=Xb.1 hs;exact Ps _ _
mutual
theorem Z9l:∀s:Z8,s.rng->(TR s).rng
 | .mk op num into args kids,h=>by rw [Z8.rng] at h;rw [TR,Z8.rng];exact ⟨h.1,Pr kids h.2⟩
theorem Pr:∀bs:List Zh,QE bs->QE (UK bs)
 | [],_=>by rw [UK];exact True.intro
 | b::r,h=>by rw [UK,QE];exact ⟨Pq b h.1,Pr r h.2⟩
theorem I8:∀(xs:List Z8) {L:List (Int × Int)},VV xs->VV (WT xs L)
 | [],L,_=>by rw [WT];exact PR L
 | s::r,L,h=>by
  rw [WT]
  split
  ·exact I8 r h.2
  ·exact Zc3 (PR L) ⟨Z9l s h.1,I8 r h.2⟩
theorem Pq:∀b:Zh,b.rng->(W6 b).rng
 | .mk steps res,h=>by rw [Zh.rng] at h;rw [W6,Zh.rng];exact I8 steps h
end
theorem Z0p {n:Zl} (h:∀r∈n.routines,r.body.rng):∀r∈(Wm n).routines,r.body.rng:=by
 intro r hr
 obtain ⟨q,hq,rfl⟩:=Xb.1 (show r∈n.routines.map VZ from hr)
 exact Pq q.body (h q hq)
def Wu (l:LI):Int:=l.foldl (·+·) 0
def J4 (n:Zl):Int:=if VX n=true then Wu (Xq n)-Wu (Xq (Wm n)) else -1
theorem IP {c:LI} {k:Nat} {x:Int} (h:c[k]? = some x):Wu (c.take (k+1))=Wu (c.take k)+x:=by
 rw [WP h,Wu,List.foldl_append];rfl
theorem Rw:∀(c:LI) {a q:Int},(∀x∈c,0<=x/\x<=q)->0<=q->a<=c.foldl (·+·) a/\c.foldl (·+·) a<=a+q*c.length
 | [],a,q,_,hq=>by simp
 | x::r,a,q,h,hq=>by
  have h1:=h x (YV ..)
  have h2:=Rw r (a:=a+x) (q:=q) (fun y hy=>h y (Xv _ hy)) hq
  rw [List.foldl_cons,XF]
  have e:q*((r.length+1:Nat):Int)=q*(r.length:Int)+q:=by rw [Int.natCast_add,Int.mul_add];simp
  omega
theorem C5 {c:LI} {q:Int} (h:CB c q) (hq:0<=q/\q<=1000000000) (k:Nat):0<=Wu (c.take k)/\Wu (c.take k)<=4000000000:=by
 have h1:=Rw (c.take k) (a:=0) (q:=1000000000) (fun x hx=>by have:=h.bd x (Cc hx);omega) om
 have h2:(c.take k).length<=4:=by rw [Ko,h.len];omega
 rw [Wu];omega
theorem Mo:∀(rs:List YB) {c:LI} {q:Int},CB c q->0<=q->(∀r∈rs,r.body.sz<=10000000)->CB (K0 rs c) (q+10000000*rs.length)
 | [],c,q,h,_,_=>by rw [K0];exact h.le (by simp)
 | r::rs,c,q,h,h0,hz=>by
  have h1:=hz r (YV ..)
  have h2:=Mo rs (h.b r.body h0) om fun x hx=>hz x (Xv _ hx)
  rw [K0]
  refine h2.le ?_
  rw [XF];omega
theorem DS {n:Zl} (hn:YY n) (hz:WI n):CB (Xq n) 40000000:=by
 have h:=Mo n.routines (c:=[0,0,0,0]) (q:=0) ⟨rfl,fun x hx=>by simp at hx;omega⟩ (Int.le_refl 0) hz.body
 have:=hn.len
 exact h.le om
open Go.Proofs
theorem Zbg (b:Zh) (c0:LI) (q:Int) (hcb:CB c0 q) (hq:0<=q/\q+b.sz<=4000000000000) (hz:b.sz<=1000000000) (ih:∀(b2:Zh) (c2:LI) (q:Int),(CB c2 q)->(0<=q/\q+b2.sz<=4000000000000)->(b2.sz<=1000000000)->(b2.sz<b.sz)->Za 86 [YC b2,Ze c2] [] (fun r h=>∃(w:Hd),r=.h w/\h=[rV w (UL b2 c2)])):Za 86 [YC b,Ze c0] [] (fun r h=>∃(w:Hd),r=.h w/\h=[rV w (UL b c0)]):=by
 have hbz:=JL b
 have hbe:=b.sz_eq
 have hlc0:=hcb.len
 refine Zx 67 Tryz.func86 (ar (iA (Vz b) fun b1=>Z0 (ZM 1 (ic [] (B5 c0) ?_))))
 rintro _ _ ⟨v1,rfl,rfl⟩
 refine Z0 (Yj (ab 0 (ZR (fun fz gz m F h=>∃(k:Nat) (c:LI) (w:Hd),(k<=b.steps.length)/\(CB c (q+Y6 (b.steps.take k)))/\(TT (b.steps.drop k) c=TT b.steps c0)/\F=sF [2] fz [(5,.h w),(6,.i k)]/\h=[Zy gz 1,rV w c]/\m=b.steps.length-k) _ _ _ ⟨0,c0,v1,ob,(hcb.le (by rw [List.take_zero,Y6];omega)),rfl,rfl,rfl,rfl⟩ (wk [1,0] (fr (ZT fl))) ?_)))
 rintro m F h ⟨k,c,w,ZX,Z9,Zz,rfl,rfl,rfl⟩
 refine Ym 3 [0] (iw (T2 b.steps) (ZN ((k:Int)<(b.steps.length:Int)) (fun Z5=>?_) (fun Z5=>?_)))
 ·refine ak (aq (ab 1 (Ym 3 [0] ?_)))
  obtain ⟨x1,Z2⟩:=Zv b.steps k om
  have YD:=Ff Z2
  have hlc:=Z9.len
  have hkz:=Ql x1
  have htk:=Rk Z2
  have htl:=Rl b.steps (k+1)
  have hse:=x1.sz_eq
  refine Zg (Zq none (k:Int) 5 (U2 Z2)) (Z1 2 (ZC [] (Zbm x1.op) (ie (Tz (fun fz gz F h=>∃(w2:Hd),F=sF [2,6] fz [(5,.h w2)]/\h=[Zy gz 0,rV w2 (TS x1.op c)]) ?_ ?_))))
  ·refine ac (YU x1.op) Iff.rfl (fun Zd=>?_) (fun Zd=>?_)
   ·have hr:=Mz Zd
    have hgx:0<=gI c (x1.op-14)/\gI c (x1.op-14)<=q+Y6 (b.steps.take k):=Z9.at om
    refine aE 21 (Y7 17 21 [0,1,2,3] [0] (dx 4 (Zq none (k:Int) 5 (U2 Z2)) (Zm 14 16 [5,6] (da 7 ((x1.op-14)) ((x1.op)-(14)) (Y7 9 13 [8,9,10,11] [0] (dx 12 (Zq none (k:Int) 5 (U2 Z2)) (Zm 6 8 [13,14] (da 15 ((x1.op-14)) ((x1.op)-(14)) (dx 16 (XB 1 w c (x1.op-14) ((x1.op-14).toNat) (hq:=rfl)) ?_)))))))))
    obtain ⟨x2,Zt⟩:=Zv c ((x1.op-14).toNat) om
    have hgy:=Vo Zt
    exact Qh 17 (WQ 1 w c ((x1.op-14).toNat) x2 Zt) (da 18 ((x2+1)) ((x2)+(1)) (dx 19 (XB 1 w c (x1.op-14) ((x1.op-14).toNat) (hq:=rfl)) (ZF 20 (Jn 20 1 [] [] w c ((x1.op-14).toNat) (x2+1) (de (Xk ⟨w,rfl,rfl⟩ (wk [1,0] fl (e:=(rc (rv (xs:=(c.set ((x1.op-14).toNat) (x2+1))) (by rw [Mi Zd,hgy]) rz))))))))))
   exact ak (Xk ⟨w,rfl,rfl⟩ (wk [0,0] fl (e:=(rc (rv (xs:=c) (Mh Zd).symm rz)))))
  rintro F h ⟨w2,rfl,rfl⟩
  refine Zf (ab 2 (ZR (fun fz gz m F h=>∃(j:Nat) (c2:LI) (u:Hd),(j<=x1.kids.length)/\(CB c2 (q+Y6 (b.steps.take k)+1+Xl (x1.kids.take j)))/\(Ta (x1.kids.drop j) c2=Ta x1.kids (TS x1.op c))/\F=sF [2,6] fz [(5,.h u),(7,.i j)]/\h=[Zy gz 0,rV u c2]/\m=x1.kids.length-j) _ _ _ ⟨0,(TS x1.op c),w2,ob,((Z9.one om x1.op).le (by rw [List.take_zero,Xl];omega)),rfl,rfl,rfl,rfl⟩ (wk [0,0] (fr (ZT fl))) ?_))
  rintro m F h ⟨j,c2,u,T0,Xh,U7,rfl,rfl,rfl⟩
  refine Ym 4 [0] (Zg (Zq none (k:Int) 5 (U2 Z2)) (Z1 2 (iw (Ua x1.kids) (ZN ((j:Int)<(x1.kids.length:Int)) (fun Zw=>?_) (fun Zw=>?_)))))
  ·refine ak (aq (ab 3 (az (Y3 3 [0] (Zg (Zq none (k:Int) 5 (U2 Z2)) (Z1 3 ?_))))))
   obtain ⟨x3,YW⟩:=Zv x1.kids j om
   have hks:=Ka YW
   have hbt:=G6 YW
   refine Zg (Zq none (j:Int) 2 (TA YW)) (Z1 2 (Nw [1] [rV u c2] (ih x3 c2 (q+Y6 (b.steps.take k)+1+Xl (x1.kids.take j)) Xh ob ob ob) QG (gS (gL (v:=u) 0 gN)) (Vk VQ) ?_))
   rintro _ _ ⟨w1,rfl,rfl⟩
   exact Z0 (az (Z1 1 (ZK j (Z0 (ZJ ⟨j+1,(UL x3 c2),w1,ob,(by rw [WP YW,G5];exact ((Xh.b x3 om).le om)),(Ml YW U7),rfl,rfl,rfl⟩ (wk [2,0] (fr (ZL j fl))))))))
  have hKe:=Mj om U7
  have hbj:=M4 (xs:=x1.kids) (k:=j) om
  exact ax 2 (az (Z1 1 (ZK k (Z0 (ZJ ⟨k+1,(Ta x1.kids (TS x1.op c)),u,ob,(by rw [<-hKe];exact Xh.le om),(Mq Z2 Zz),rfl,rfl,rfl⟩ (wk [0,0] (fr (ZL k fl)) (e:=(rc (rv (xs:=c2) hKe rz)))))))))
 exact ax 0 (ar (Z7 (r1 [1] ⟨w,rfl,rfl⟩ (eq:=(rv (xs:=c) (by rw [Mk];exact Mp om Zz) rz)))))
theorem Zbe (k:Nat):∀(b2:Zh) (c2:LI) (q:Int),(CB c2 q)->(0<=q/\q+b2.sz<=4000000000000)->(b2.sz<=1000000000)->(b2.sz<k)->Za 86 [YC b2,Ze c2] [] (fun r h=>∃(w:Hd),r=.h w/\h=[rV w (UL b2 c2)]):=by
 induction k with
 | zero=>intro b c q _ _ _ h;omega
 | succ k ih=>intro b c q h1 h2 h3 h4;exact Zbg b c q h1 h2 h3 fun b2 c2 q2 k1 k2 k3 k4=>ih b2 c2 q2 k1 k2 k3 om
theorem Zbf (b:Zh) (c0:LI) (q:Int) (hcb:CB c0 q:=by exact ob) (hq:0<=q/\q+b.sz<=4000000000000:=by exact ob) (hz:b.sz<=1000000000:=by exact ob):Za 86 [YC b,Ze c0] [] (fun r h=>∃(w:Hd),r=.h w/\h=[rV w (UL b c0)]):=Zbe (b.sz+1) b c0 q hcb hq hz om
theorem Ra (n:Zl) (hn:YY n:=by exact ob) (hz:WI n:=by exact ob):Za 42 [X3 n] [] (fun r h=>∃(w:Hd),r=.h w/\h=[rV w (Xq n)]):=by
 have hzl:=hn.len
 refine Zx 22 Tryz.func42 (ar (iA (W8 n) fun b1=>Z0 (ar (He [0,0,0,0] 4 fun v1=>?_))))
 refine Z0 (Yj (ab 0 (ZR (fun fz gz m F h=>∃(k:Nat) (c:LI) (w:Hd),(k<=n.routines.length)/\(CB c (10000000*k))/\(K0 (n.routines.drop k) c=Xq n)/\F=sF [1] fz [(3,.h w),(4,.i k)]/\h=[Zy gz 1,rV w c]/\m=n.routines.length-k) _ _ _ ⟨0,[0,0,0,0],v1,ob,⟨rfl,fun x hx=>by simp at hx;omega⟩,rfl,rfl,rfl,rfl⟩ (wk [1,0] (fr (ZT fl))) ?_)))
 rintro m F h ⟨k,c,w,ZX,Z9,Zz,rfl,rfl,rfl⟩
 refine Ym 3 [0] (iw (UD n.routines) (ZN ((k:Int)<(n.routines.length:Int)) (fun Z5=>?_) (fun Z5=>?_)))
 ·refine ak (aq (ab 1 (az (Y3 3 [0] ?_))))
  obtain ⟨x1,Z2⟩:=Zv n.routines k om
  have hrm:=YA Z2
  have hbz:=hz.body _ hrm
  refine Zg (Zq none (k:Int) 5 (Um Z2)) (Z1 3 (Nw [1] [rV w c] (Zbf x1.body c (10000000*(k:Int)) (hcb:=Z9)) QG (gS (gL (v:=w) 0 gN)) (Vk VQ) ?_))
  rintro _ _ ⟨w1,rfl,rfl⟩
  exact Z0 (az (Z1 1 (ZK k (Z0 (ZJ ⟨k+1,(UL x1.body c),w1,ob,((Z9.b x1.body om).le om),(Mn Z2 Zz),rfl,rfl,rfl⟩ (wk [2,0] (fr (ZL k fl))))))))
 exact ax 0 (ar (Z7 (r1 [1] ⟨w,rfl,rfl⟩ (eq:=(rv (xs:=c) (Mm om Zz) rz)))))
theorem Z1k (s:Z8) (cc:Nat) (g:Hd) (c0:LI) (q:Int) (hcb:CB c0 q:=by exact ob) (hq:0<=q/\q<=4000000000000:=by exact ob):Za 94 [XO s,.p cc 0] [.obj cc [.h g],rV g c0] (fun r h=>h=[.obj cc [.h g],rV g (TS s.op c0)]):=by
 refine Zx 14 Tryz.func94 (ar (iA (WO s) fun b1=>ie (ZB 2 [0] (ZC [] (Ep s.op) (ie (ac (YU s.op) Iff.rfl (fun Z5=>?_) (fun Z5=>?_)))))))
 ·have hr:=Mz Z5
  have hgx:0<=gI c0 (s.op-14)/\gI c0 (s.op-14)<=q:=hcb.at om
  have hlc:=hcb.len
  refine az (Y3 3 [1,0] (ia ((s.op-14)) ((s.op)-(14)) (Zg (XB 2 g c0 (s.op-14) ((s.op-14).toNat) (hq:=rfl)) ?_)))
  obtain ⟨x1,Z2⟩:=Zv c0 ((s.op-14).toNat) om
  have hgy:=Vo Z2
  exact Xu (WQ 2 g c0 ((s.op-14).toNat) x1 Z2) (ia ((x1+1)) ((x1)+(1)) (Zg (XB 2 g c0 (s.op-14) ((s.op-14).toNat) (hq:=rfl)) (BL 2 g c0 ((s.op-14).toNat) (x1+1) (ie (r2 [2,0] [] rfl (lr _) (eq:=(rc (rv (xs:=(c0.set ((s.op-14).toNat) (x1+1))) (by rw [Mi Z5,hgy]) rz))))))))
 exact ak (r2 [1,1] [] rfl (lr _) (eq:=(rc (rv (xs:=c0) (Mh Z5).symm rz))))
theorem Z5n (b:Zh) (cc:Nat) (g:Hd) (c0:LI) (q:Int) (hcb:CB c0 q) (hq:0<=q/\q+b.sz<=4000000000000) (hz:b.sz<=1000000000) (ih:∀(b2:Zh) (cc:Nat) (g:Hd) (c2:LI) (q2:Int),(CB c2 q2)->(0<=q2/\q2+b2.sz<=4000000000000)->(b2.sz<=1000000000)->(b2.sz<b.sz)->Za 93 [YC b2,.val (.func (.func 94) #[] #[.pointer (some ⟨cc,0,none⟩)])] [.obj cc [.h g],rV g c2] (fun r h=>h=[.obj cc [.h g],rV g (UL b2 c2)])):Za 93 [YC b,.val (.func (.func 94) #[] #[.pointer (some ⟨cc,0,none⟩)])] [.obj cc [.h g],rV g c0] (fun r h=>h=[.obj cc [.h g],rV g (UL b c0)]):=by
 have hbz:=JL b
 have hbe:=b.sz_eq
 refine Zx 30 Tryz.func93 (ar (iA (Vz b) fun b1=>?_))
 refine ie (ZB 2 [0] (iw (T2 b.steps) (Z0 (ab 0 (ZR (fun fz gz m F h=>∃(k:Nat) (c:LI),(k<=b.steps.length)/\(CB c (q+Y6 (b.steps.take k)))/\(TT (b.steps.drop k) c=TT b.steps c0)/\F=sF [1,9,10] fz [(11,.i k)]/\h=[Zy gz 1,rV g c]/\m=b.steps.length-k) _ _ _ ⟨0,c0,ob,(hcb.le (by rw [List.take_zero,Y6];omega)),rfl,rfl,rfl,rfl⟩ (wk [1,1] (ZT fl)) ?_)))))
 rintro m F h ⟨k,c,ZX,Z9,Zz,rfl,rfl,rfl⟩
 refine Zf (aq (Xf ((k:Int)<(b.steps.length:Int)) (fun Z5=>?_) (fun Z5=>?_)))
 ·refine ak (aq (ab 1 (ar ?_)))
  obtain ⟨x1,Z2⟩:=Zv b.steps k om
  have YD:=Ff Z2
  have hkz:=Ql x1
  have htk:=Rk Z2
  have htl:=Rl b.steps (k+1)
  have hse:=x1.sz_eq
  refine Zg (Zq none (k:Int) 5 (U2 Z2)) (Z1 1 (iA [.i 0,.i 0,.i 0,nl,nl] fun b2=>Y0 0 b2 (WO x1) (ie (ZB 2 [0] (ic [1,1] (Z1k x1 cc g c (q+Y6 (b.steps.take k)) (hcb:=Z9)) ?_)))))
  rintro _ _ rfl
  refine ie (ZB 2 [2] (iw (Ua x1.kids) (Z0 (ab 2 (ZR (fun fz gz m F h=>∃(j:Nat) (c2:LI),(j<=x1.kids.length)/\(CB c2 (q+Y6 (b.steps.take k)+1+Xl (x1.kids.take j)))/\(Ta (x1.kids.drop j) c2=Ta x1.kids (TS x1.op c))/\F=sF [1,9,10,11,19,20] fz [(21,.i j)]/\h=[Zy gz 0,rV g c2]/\m=x1.kids.length-j) _ _ _ ⟨0,(TS x1.op c),ob,((Z9.one om x1.op).le (by rw [List.take_zero,Xl];omega)),rfl,rfl,rfl,rfl⟩ (wk [0,0] (ZT fl)) ?_)))))
  rintro m F h ⟨j,c2,T0,Xh,U7,rfl,rfl,rfl⟩
  refine Zf (aq (Xf ((j:Int)<(x1.kids.length:Int)) (fun Zd=>?_) (fun Zd=>?_)))
  ·refine ak (aq (ab 3 (ar ?_)))
   obtain ⟨x2,Zt⟩:=Zv x1.kids j om
   have hks:=Ka Zt
   have hbt:=G6 Zt
   refine Zg (Zq none (j:Int) 2 (TA Zt)) (Z1 1 (iA [nl,.i 0] fun b3=>Y0 0 b3 (Vz x2) (ie (az (Y3 2 [0] (ic [1,1] (ih x2 cc g c2 (q+Y6 (b.steps.take k)+1+Xl (x1.kids.take j)) Xh ob ob ob) ?_))))))
   rintro _ _ rfl
   exact ie (az (ZK j (Z0 (ZJ ⟨j+1,(UL x2 c2),ob,(by rw [WP Zt,G5];exact ((Xh.b x2 om).le om)),(Ml Zt U7),rfl,rfl,rfl⟩ (wk [0,0] (ZL j fl))))))
  have hKe:=Mj om U7
  have hbj:=M4 (xs:=x1.kids) (k:=j) om
  exact ax 2 (az (ZK k (Z0 (ZJ ⟨k+1,(Ta x1.kids (TS x1.op c)),ob,(by rw [<-hKe];exact Xh.le om),(Mq Z2 Zz),rfl,rfl,rfl⟩ (wk [0,0] (ZL k fl) (e:=(rc (rv (xs:=c2) hKe rz))))))))
 exact ax 0 (r2 [0,0] [] rfl (lr _) (eq:=(rc (rv (xs:=c) (by rw [Mk];exact Mp om Zz) rz))))
theorem Z5l (k:Nat):∀(b2:Zh) (cc:Nat) (g:Hd) (c2:LI) (q2:Int),(CB c2 q2)->(0<=q2/\q2+b2.sz<=4000000000000)->(b2.sz<=1000000000)->(b2.sz<k)->Za 93 [YC b2,.val (.func (.func 94) #[] #[.pointer (some ⟨cc,0,none⟩)])] [.obj cc [.h g],rV g c2] (fun r h=>h=[.obj cc [.h g],rV g (UL b2 c2)]):=by
 induction k with
 | zero=>intro b cc g c q _ _ _ h;omega
 | succ k ih=>intro b cc g c q h1 h2 h3 h4;exact Z5n b cc g c q h1 h2 h3 fun b2 cc2 g2 c2 q2 k1 k2 k3 k4=>ih b2 cc2 g2 c2 q2 k1 k2 k3 om
theorem Z5m (b:Zh) (cc:Nat) (g:Hd) (c0:LI) (q:Int) (hcb:CB c0 q:=by exact ob) (hq:0<=q/\q+b.sz<=4000000000000:=by exact ob) (hz:b.sz<=1000000000:=by exact ob):Za 93 [YC b,.val (.func (.func 94) #[] #[.pointer (some ⟨cc,0,none⟩)])] [.obj cc [.h g],rV g c0] (fun r h=>h=[.obj cc [.h g],rV g (UL b c0)]):=Z5l (b.sz+1) b cc g c0 q hcb hq hz om
theorem NB (n:Zl) (hz:WI n:=by exact ob) (hr:∀r∈n.routines,r.body.rng):Za 46 [X3 n] [] (fun r h=>∃(w:Hd),r=.h w/\h=[rV w (if XT n=true then Xq n else [])]):=by
 refine Zx 23 Tryz.func46 (ar (iA (W8 n) fun b1=>Z0 (Ym 1 [0] (ZC [] (NC n (hr:=hr)) (Yt (!XT n) (p:=¬(XT n=true)) (Yi Iff.rfl) (fun Z5=>?_) (fun Z5=>?_))))))
 ·exact Zf (Wl Ki (ZG (r2 [0] [nl] ⟨hN,rfl,rfl⟩ (Zk.hd (v:=hN)) (eq:=(rv (xs:=[]) (by rw [Z4 Z5]) rz)))))
 have hV:XT n=true:=Wr.1 Z5
 obtain ⟨hn,hvt⟩:=Dp hz hV
 have hzl:=hn.len
 refine ak (ar (iVM 4 fun v1=>iA [nl] fun b2=>?_))
 refine Y0 0 b2 [.h v1] (ie (Ym 2 [2] (iw (UD n.routines) (Z0 (ab 0 (ZR (fun fz gz m F h=>∃(k:Nat) (c:LI),(k<=n.routines.length)/\(CB c (10000000*k))/\(K0 (n.routines.drop k) c=Xq n)/\F=sF [3,11,12] fz [(13,.i k)]/\h=[Zy gz 0,rV v1 c]/\m=n.routines.length-k) _ _ _ ⟨0,(List.replicate 4 0),ob,⟨rfl,fun x hx=>by simp at hx;omega⟩,rfl,rfl,rfl,rfl⟩ (wk [0,0] (ZT fl)) ?_))))))
 rintro m F h ⟨k,c,ZX,Z9,Zz,rfl,rfl,rfl⟩
 refine Zf (aq (Xf ((k:Int)<(n.routines.length:Int)) (fun Zd=>?_) (fun Zd=>?_)))
 ·refine ak (aq (ab 1 (ar ?_)))
  obtain ⟨x1,Z2⟩:=Zv n.routines k om
  have hrm:=YA Z2
  have hbz:=hz.body _ hrm
  refine Zg (Zq none (k:Int) 5 (Um Z2)) (Z1 1 (iA [nl,nl,.i 0,nl,.i 0] fun b3=>Y0 0 b3 (TH x1) (ie (az (Y3 3 [0] (ic [1,1] (Z5m x1.body b2 v1 c (10000000*(k:Int)) (hcb:=Z9)) ?_))))))
  rintro _ _ rfl
  exact ie (az (ZK k (Z0 (ZJ ⟨k+1,(UL x1.body c),ob,((Z9.b x1.body om).le om),(Mn Z2 Zz),rfl,rfl,rfl⟩ (wk [0,0] (ZL k fl))))))
 exact ax 0 (Jt [0] (ZG (r1 [1] ⟨v1,rfl,rfl⟩ (eq:=(rv (xs:=c) (by rw [Z6 hV];exact Mm om Zz) rz)))))
theorem Rg (xs:LI) (hb:CB xs 40000000:=by exact ob):Za 41 [Ze xs] [] (ZP (.i (Wu xs))):=by
 have hbl:=hb.len
 refine Zx 18 Tryz.func41 (Zf (Zf (Yj (ab 0 (ZR (fun fz gz m F h=>∃(k:Nat),(k<=xs.length)/\F=sF [0] fz [(3,.i (Wu (xs.take k))),(4,.i k)]/\h=gz/\m=xs.length-k) _ _ _ ⟨0,ob,rfl,rfl,rfl⟩ (wk [] (fc (x:=.i 0) (li rfl) (ZT fl))) ?_)))))
 rintro m F h ⟨k,ZX,rfl,rfl,rfl⟩
 refine Y8 2 (iw (Yk xs) (ZN ((k:Int)<(xs.length:Int)) (fun Z5=>?_) (fun Z5=>?_)))
 ·refine ak (aq (ab 1 (az (Z1 3 ?_))))
  obtain ⟨x1,Z2⟩:=Zv xs k om
  have hsb:=C5 hb om k
  have hxb:=hb.bd _ (YA Z2)
  exact Zg (Zq none (k:Int) 1 (Yc Z2)) (Z1 1 (ia (((Wu (xs.take k))+x1)) (((Wu (xs.take k)))+(x1)) (Z0 (az (Z1 1 (ZK k (Z0 (ZJ ⟨k+1,ob,rfl,rfl,rfl⟩ (wk [] (fc (x:=.i ((Wu (xs.take k))+x1)) (li (IP Z2).symm) (ZL k fl)))))))))))
 exact ax 0 (ar (Z7 (Zo (.i (Wu (xs.take k))) (li (by rw [W2 om])))))
theorem Zb5 (n:Zl) (hz:WI n):Za 16 [X3 n] [] (ZP (.i (J4 n))):=by
 refine Zx 14 Tryz.func16 (ar (iA (W8 n) fun b1=>Z0 (Ym 1 [0] (ZC [] (R6 n) (Yt (!VX n) (p:=¬(VX n=true)) (Yi Iff.rfl) (fun Z5=>?_) (fun Z5=>?_))))))
 ·exact ar (Z7 (Zo (.i (-1)) (li (by rw [J4,Z4 Z5]))))
 have hB:VX n=true:=Wr.1 Z5
 obtain ⟨hn,hsg,hbt⟩:=Bo hz hB
 have hcb:=DS hn hz
 have hcb2:=DS (DN hn) (Cl hn hz hbt)
 have hs1:=C5 hcb om 4
 have hs2:=C5 hcb2 om 4
 rw [W2 (by rw [hcb.len];omega)] at hs1
 rw [W2 (by rw [hcb2.len];omega)] at hs2
 refine ak (aD 9 (Y7 7 9 [0,3] [0,0] (ZF 1 (dc 1 [] [0] [b1] (Ra n (hn:=(by first|exact hn|exact DN hn)) (hz:=(by first|exact hz|exact Cl hn hz hbt))) ?_))))
 rintro _ _ ⟨w1,rfl,rfl⟩
 refine ZF 2 (U9 2 [0] [0] [b1] [rV w1 (Xq n)] (Rg (Xq n) (hb:=(by first|exact hcb|exact hcb2))) A3 (gL (v:=w1) 0 gN) (Vk VQ) ?_)
 rintro _ _ ⟨rfl,rfl⟩
 refine ZF 4 (XY 4 [] [] [] (MX n (hn:=hn) (hbt:=hbt)) (ZF 5 (dc 5 [] [] [] (Ra (Wm n) (hn:=(by first|exact hn|exact DN hn)) (hz:=(by first|exact hz|exact Cl hn hz hbt))) ?_)))
 rintro _ _ ⟨w2,rfl,rfl⟩
 refine ZF 6 (U9 6 [0] [] [] [rV w2 (Xq (Wm n))] (Rg (Xq (Wm n)) (hb:=(by first|exact hcb|exact hcb2))) A3 (gL (v:=w2) 0 gN) (Vk VQ) ?_)
 rintro _ _ ⟨rfl,rfl⟩
 exact da 7 (((Wu (Xq n))-(Wu (Xq (Wm n))))) (((Wu (Xq n)))-((Wu (Xq (Wm n))))) (Zm 0 1 [8] (de (ZG (Zo (.i ((Wu (Xq n))-(Wu (Xq (Wm n))))) (li (by rw [J4,Z6 hB]))))))
theorem Z4u (y:X4) (hz:WI y.er:=by exact ob) (hr:∀r∈y.er.routines,r.body.rng):Za 46 [VE y] [] (fun r h=>∃(w:Hd),r=.h w/\h=[rV w (if XT y.er=true then Xq y.er else [])]):=(NB y.er hz hr).args_le (.cons (KV y) .nil)
theorem Z4v (n:Zl) (hz:WI n) (hr:∀r∈n.routines,r.body.rng):Za 18 [X3 n] [] (ZP (.i (J4 n))):=by
 refine Zx 40 Tryz.func18 (ar (iA (W8 n) fun b1=>Z0 (ZB 1 [0] (ic [] (NA n (hr:=ob)) ?_))))
 rintro _ _ ⟨y1,rfl,rfl,Ya⟩
 have hcn:=Ya
 refine Z1 3 (iA [nl,nl] fun b2=>Y0 0 b2 (BR y1) (Z0 (Yq (Yt (!((XI n).2)) (p:=¬(((XI n).2)=true)) (Yi Iff.rfl) (fun Z5=>?_) (fun Z5=>?_)))))
 ·have hE:XI n=(EQ,false):=Z4 (fun z=>Z5 (by rw [XI,Z6 z]))
  have hB:¬VX n=true:=fun z=>Z5 (by rw [XI,Z6 z])
  exact ar (Z7 (Zo (.i (-1)) (li (by rw [J4,Z4 hB]))))
 have hB:VX n=true:=Dt fun z=>Z5 (by rw [XI,Z4 z];exact Bool.noConfusion)
 obtain ⟨hn,hsg,hbt⟩:=Bo hz hB
 have hV:=Z05 hB
 have hcb:=DS hn hz
 have hcb2:=DS (DN hn) (Cl hn hz hbt)
 have hEr:y1.er=Wm n:=by rw [hcn,XI,Z6 hB]
 have hI:(if XT n=true then Xq n else [])=Xq n:=Z6 hV
 have hI2:(if XT y1.er=true then Xq y1.er else [])=Xq (Wm n):=by rw [hEr];exact Z6 (Z0s hz hV)
 have hl4:(if XT n=true then Xq n else []).length=4:=by rw [hI];exact hcb.len
 have hl5:(if XT y1.er=true then Xq y1.er else []).length=4:=by rw [hI2];exact hcb2.len
 have hl6:=hcb.len
 have hl7:=hcb2.len
 have hs1:=C5 hcb om 4
 rw [W2 om] at hs1
 refine ak (Zf (Ym 1 [2] (ic [] (NB n (hr:=ob)) ?_)))
 rintro _ _ ⟨w1,rfl,rfl⟩
 refine Zg (KN 0 w1 (if XT n=true then Xq n else [])) (Z0 (ab 0 (ZR (fun fz gz m F h=>∃(k:Nat),(k<=4)/\F=sF [3,18,19] fz [(5,.i (Wu ((Xq n).take k))),(20,.i k)]/\h=[Zy gz 0,Zy gz 1,Zy gz 2]/\m=4-k) _ _ _ ⟨0,ob,rfl,rfl,rfl⟩ (Y1 3 (fc (x:=.i 0) (li rfl) (ZT fl))) ?_)))
 rintro m F h ⟨k,ZX,rfl,rfl,rfl⟩
 refine Zf (aq (Xf ((k:Int)<(((if XT n=true then Xq n else []).length:Nat):Int)) (fun Zd=>?_) (fun Zd=>?_)))
 ·refine ak (aq (ab 1 (ar (Zg (XB 0 w1 (if XT n=true then Xq n else []) (k:Int) k) ?_))))
  obtain ⟨x1,Z2⟩:=Zv (if XT n=true then Xq n else []) k om
  have hg1:=Z2
  rw [hI] at hg1
  have hsb:=C5 hcb om k
  have hxb:=hcb.bd _ (YA hg1)
  exact Xu (WQ 0 w1 (if XT n=true then Xq n else []) k x1 Z2) (Z0 (az (Z1 2 (ia (((Wu ((Xq n).take k))+x1)) (((Wu ((Xq n).take k)))+(x1)) (Z0 (az (ZK k (Z0 (ZJ ⟨k+1,ob,rfl,rfl,rfl⟩ (Y1 3 (fc (x:=.i ((Wu ((Xq n).take k))+x1)) (li (IP hg1).symm) (ZL k fl))))))))))))
 refine ax 0 (Ym 1 [1] (ic [] (Z4u y1 (hz:=(by rw [hEr];exact Cl hn hz hbt)) (hr:=(by rw [hEr];exact Z0p hr))) ?_))
 rintro _ _ ⟨w2,rfl,rfl⟩
 refine Zg (KN 0 w2 (if XT y1.er=true then Xq y1.er else [])) (Z0 (ab 2 (ZR (fun fz gz m F h=>∃(k:Nat),(k<=4)/\F=sF [29,30] fz [(5,.i (Wu (Xq n)-Wu ((Xq (Wm n)).take k))),(31,.i k)]/\h=[Zy gz 0,Zy gz 3]/\m=4-k) _ _ _ ⟨0,ob,rfl,rfl,rfl⟩ (wk [0,2] (fc (x:=.i (Wu ((Xq n).take k))) (li (by rw [W2 om];show _=Wu (Xq n)-0;omega)) (ZT fl))) ?_)))
 rintro m F h ⟨k,T0,rfl,rfl,rfl⟩
 refine Zf (aq (Xf ((k:Int)<(((if XT y1.er=true then Xq y1.er else []).length:Nat):Int)) (fun Zw=>?_) (fun Zw=>?_)))
 ·refine ak (aq (ab 3 (ar (Zg (XB 0 w2 (if XT y1.er=true then Xq y1.er else []) (k:Int) k) ?_))))
  obtain ⟨x2,Zt⟩:=Zv (if XT y1.er=true then Xq y1.er else []) k om
  have hg2:=Zt
  rw [hI2] at hg2
  have hsb:=C5 hcb2 om k
  have hxb:=hcb2.bd _ (YA hg2)
  exact Xu (WQ 0 w2 (if XT y1.er=true then Xq y1.er else []) k x2 Zt) (Z0 (az (Z1 2 (ia (((Wu (Xq n)-Wu ((Xq (Wm n)).take k))-x2)) (((Wu (Xq n)-Wu ((Xq (Wm n)).take k)))-(x2)) (Z0 (az (ZK k (Z0 (ZJ ⟨k+1,ob,rfl,rfl,rfl⟩ (wk [0,0] (fc (x:=.i ((Wu (Xq n)-Wu ((Xq (Wm n)).take k))-x2)) (li (by rw [IP hg2];omega)) (ZL k fl))))))))))))
 exact ax 2 (ar (Z7 (Zo (.i (Wu (Xq n)-Wu ((Xq (Wm n)).take k))) (li (by rw [J4,Z6 hB,W2 (l:=Xq (Wm n)) om])))))
theorem Zbj (z:X4) (n:Zl) (he:z.er=n) (hz:WI n):Za 16 [VE z] [] (ZP (.i (J4 n))):=by
 subst he
 exact (Zb5 z.er hz).args_le (.cons (KV z) .nil)
theorem Z5d (z:X4) (n:Zl) (he:z.er=n) (hz:WI n) (hr:∀r∈n.routines,r.body.rng):Za 18 [VE z] [] (ZP (.i (J4 n))):=by
 subst he
 exact (Z4v z.er hz hr).args_le (.cons (KV z) .nil)
theorem Z38 (y z:X4) (he:y.er=z.er) (hl:Wj z.er<=1000000000):Za 19 [VE y,VE z] [] (ZP (.b true)):=by
 have h1:=Hp z.er hl
 refine h1.args_le (.cons ?_ (.cons (KV z) .nil))
 rw [<-he];exact KV y
theorem Z6t (n:Zl) (hl:Wj n<=9223372036854775807) (hr:∀r∈n.routines,r.body.rng):Za 5 [X3 n] [] (ZP (.b true)):=by
 refine Zx 27 Tryz.func5 (ar (iA (W8 n) fun b1=>Z0 (Zf (ZB 2 [0] (ZC [] (Oe n 1048576 ob ob) (Z0 (Yq (ZN ((Y4 (Wj n) 1048576)<0) (fun Z5=>?_) (fun Z5=>?_)))))))))
 ·exact ar (Z7 (T8))
 have YD:Wj n<=1048576:=by unfold Y4 at Z5;split at Z5<;>omega
 have hz:=OP (n:=n) om
 refine ak (ZB 1 [0] (ic [] (B9 n ob) ?_))
 rintro _ _ ⟨y1,rfl,rfl,Ya⟩
 have hnhp1:Wj y1.er<=1000000000:=by rw [Ya];omega
 refine ZC [] (Zbj y1 n ob ob) (Z0 (ZB 1 [1] (ic [] (B9 n ob) ?_)))
 rintro _ _ ⟨y2,rfl,rfl,YT⟩
 have hnhp2:Wj y2.er<=1000000000:=by rw [YT];omega
 refine iA [nl,nl] fun b2=>Y0 0 b2 (BR y2) (ie (ZB 1 [0] (ZC [] (Z5d y2 n ob ob ob) (Z0 (Yq (Yt ((J4 n) != (J4 n)) ZO (fun Zd=>?_) (fun Zd=>?_)))))))
 ·exact ar (Z7 (Zo (.b false) (lb (absurd rfl Zd))))
 refine ak (aq (aD 5 (Y7 3 5 [0,1] [0,3] (ZF 2 (dc 2 [] [0] [b2] (B9 n ob) ?_)))))
 rintro _ _ ⟨y3,rfl,rfl,Xy⟩
 have hnhp3:Wj y3.er<=1000000000:=by rw [Xy];omega
 exact ZF 3 (XY 3 [] [] [] (Z38 y2 y3 (by simp only [*]) ob) (Zm 0 1 [4] (de (XC (ak (ar (Z7 (T8))))))))
end Go.Abs
