/-
  A part of the proofs of several laws (see the last file): no condition.
-/
import Derived.Test.YtlcniflebhfdpaaGreatYcD
set_option linter.all false
set_option linter.unusedVariables false
set_option linter.unusedSimpArgs false
set_option linter.unusedSectionVars false
set_option maxRecDepth 10000
set_option maxHeartbeats 4000000
namespace Go.Abs
open Go.Proofs
theorem EN (S:List Nat) (M:Yl) (v:Value) (xs:LI) (q:Int) (hd:Wi S v xs.length:=by exact ob) (hs:TL M (Z3 v) xs.length:=by exact ob) (hq:0<=q/\q+((ZA (Z3 v) 0 xs.length).length:Nat)<=4000000000000:=by exact ob):Za 107 [.val v,.i q] [.own S M] (fun r h=>r=.i (q+((ZA (Z3 v) 0 xs.length).length:Nat))/\h=[.own S (wr M (ZA (Z3 v) 0 xs.length) q)]):=by
 have hal:=AK (Z3 v) xs.length 0
 refine Zx 19 Tryz.func107 (Zf (Yj (ab 0 (ZR (fun fz gz m F h=>∃(k:Nat) (z:Int) (N:Yl),(k<=xs.length)/\(0<=z)/\(z+((ZA (Z3 v) k (xs.length-k)).length:Nat)=q+((ZA (Z3 v) 0 xs.length).length:Nat))/\(Kp M N)/\(wr N (ZA (Z3 v) k (xs.length-k)) z=wr M (ZA (Z3 v) 0 xs.length) q)/\F=sF [0] fz [(1,.i z),(5,.i k)]/\h=[.own S N]/\m=xs.length-k) _ _ _ ⟨0,q,M,ob,ob,(by simp),(Kp.refl M),(by simp),rfl,rfl,rfl⟩ (wk [0] (fr (ZT fl))) ?_))))
 rintro m F h ⟨k,z,N,ZX,Z9,Zz,Y5,XD,rfl,rfl,rfl⟩
 refine Y8 2 (Zg (Kd S v xs.length hd) (ZN ((k:Int)<(xs.length:Int)) (fun Z5=>?_) (fun Z5=>?_)))
 ·have hb:=hd.blk (i:=k) om
  have hdr:=Lu (Z3 v) xs.length k om
  have hl0:(ZA (Z3 v) k (xs.length-k)).length=(ZA (Z3 v) (k+1) (xs.length-(k+1))).length+1:=by rw [hdr];rfl
  have hsk:=hs k om
  rw [<-UJ k] at hsk
  have kp:=Y5
  have i0:=kp.i hsk
  refine ak (aq (ab 1 (ZM 3 (Zg (WG S v xs.length k 1 (k:Int) hd) (Jz 0 S N (Z3 v) (k*1) z hb.1 i0 ?_)))))
  have kp:=kp.upd hsk z
  exact ie (az (Z1 1 (ia ((z+1)) ((z)+(1)) (Z0 (az (Z1 1 (ZK k (Z0 (ZJ ⟨k+1,(z+1),upd N (Z3 v,k*1) z,ob,ob,ob,kp,(by rw [<-XD,hdr,wr,UJ]),rfl,rfl,rfl⟩ (wk [0] (fr (ZL k fl))))))))))))
 have he:ZA (Z3 v) k (xs.length-k)=[]:=by rw [show xs.length-k=0 by omega];rfl
 rw [he,Vt] at Zz
 rw [he,wr] at XD
 exact ax 0 (ar (Z7 (r2 [0] [.i z] ⟨rfl,rfl⟩ li (eq:=(B4 (m:=N) XD rz)))))
theorem Z7w (S:List Nat) (M:Yl) (v:Value) (xs:List X0) (q:Int) (hl:xs.length<=4000000000000:=by exact ob) (hd:Wi S v xs.length:=by exact ob) (hs:KL M S (Z3 v) 0 xs:=by exact ob) (hq:0<=q/\q+((WR xs).length:Nat)<=4000000000000:=by exact ob):Za 106 [.val v,.i q] [.own S M] (fun r h=>r=.i (q+((WR xs).length:Nat))/\h=[.own S (wr M (WR xs) q)]):=by
 refine Zx 20 Tryz.func106 (Zf (Yj (ab 0 (ZR (fun fz gz m F h=>∃(k:Nat) (z:Int) (N:Yl),(k<=xs.length)/\(0<=z)/\(z+((WR (xs.drop k)).length:Nat)=q+((WR xs).length:Nat))/\(Kp M N)/\(wr N (WR (xs.drop k)) z=wr M (WR xs) q)/\F=sF [0] fz [(1,.i z),(5,.i k)]/\h=[.own S N]/\m=xs.length-k) _ _ _ ⟨0,q,M,ob,ob,(by simp),(Kp.refl M),(by simp),rfl,rfl,rfl⟩ (wk [0] (fr (ZT fl))) ?_))))
 rintro m F h ⟨k,z,N,ZX,Z9,Zz,Y5,XD,rfl,rfl,rfl⟩
 refine Y8 2 (Zg (Kd S v xs.length hd) (ZN ((k:Int)<(xs.length:Int)) (fun Z5=>?_) (fun Z5=>?_)))
 ·have hb:=hd.blk (i:=k) om
  obtain ⟨x1,Z2⟩:=Zv xs k om
  have e1:=It hs Z2
  rw [Vf] at e1
  obtain ⟨⟨a0,d0⟩,s0⟩:=e1
  rw [<-UJ k] at a0
  have hdr:=Lo Z2
  have hln:(DF x1).length=(ZA (Z3 x1.fv) 0 x1.fields.length).length:=rfl
  have hl0:=Yp List.length hdr
  rw [Yz,hln] at hl0
  have kp:=Y5
  refine ak (aq (ab 1 (az (Z1 2 (Zg (WG S v xs.length k 1 (k:Int) hd) (Z1 1 ?_))))))
  have t0:TL N (Z3 x1.fv) x1.fields.length:=fun i hi=>kp.i (s0 i hi)
  refine Xu (VS 0 S N (Z3 v) (k*1) x1.fv hb.1 (kp.h a0 d0.ni)) (Z1 1 (ZC [0] (EN S N x1.fv x1.fields z) ?_))
  have kp:=kp.wr (A1 s0) z
  exact Z0 (az (Z1 1 (ZK k (Z0 (ZJ ⟨k+1,(z+((ZA (Z3 x1.fv) 0 x1.fields.length).length:Nat)),(wr N (ZA (Z3 x1.fv) 0 x1.fields.length) z),ob,ob,ob,kp,(Ds XD hdr rfl om),rfl,rfl,rfl⟩ (wk [0] (fr (ZL k fl))))))))
 have he:(WR (xs.drop k))=[]:=by rw [QP om];rfl
 rw [he,Vt] at Zz
 rw [he,wr] at XD
 exact ax 0 (ar (Z7 (r2 [0] [.i z] ⟨rfl,rfl⟩ li (eq:=(B4 (m:=N) XD rz)))))
theorem Z7x (S:List Nat) (M:Yl) (v:Value) (xs:List YM) (q:Int) (hl:∀d∈xs,d.cons.length<=4000000000000) (hd:Wi S v xs.length:=by exact ob) (hs:J7 M S (Z3 v) 0 xs:=by exact ob) (hq:0<=q/\q+((Wj (Z3 v) 0 xs).length:Nat)<=4000000000000:=by exact ob):Za 53 [.val v,.i q] [.own S M] (fun r h=>r=.i (q+((Wj (Z3 v) 0 xs).length:Nat))/\h=[.own S (wr M (Wj (Z3 v) 0 xs) q)]):=by
 have hal:=FK (g:=Z3 v) (o:=0) (ds:=xs)
 refine Zx 34 Tryz.func53 (Zf (Yj (ab 0 (ZR (fun fz gz m F h=>∃(k:Nat) (z:Int) (N:Yl),(k<=xs.length)/\(0<=z)/\(z+((Wj (Z3 v) (k*3) (xs.drop k)).length:Nat)=q+((Wj (Z3 v) 0 xs).length:Nat))/\(Kp M N)/\(wr N (Wj (Z3 v) (k*3) (xs.drop k)) z=wr M (Wj (Z3 v) 0 xs) q)/\F=sF [0] fz [(1,.i z),(5,.i k)]/\h=[.own S N]/\m=xs.length-k) _ _ _ ⟨0,q,M,ob,ob,(by simp),(Kp.refl M),(by simp),rfl,rfl,rfl⟩ (wk [0] (fr (ZT fl))) ?_))))
 rintro m F h ⟨k,z,N,ZX,Z9,Zz,Y5,XD,rfl,rfl,rfl⟩
 refine Y8 2 (Zg (Kd S v xs.length hd) (ZN ((k:Int)<(xs.length:Int)) (fun Z5=>?_) (fun Z5=>?_)))
 ·have hb:=hd.blk (i:=k) om
  obtain ⟨x1,Z2⟩:=Zv xs k om
  have e1:=Iw hs Z2
  rw [Vf] at e1
  obtain ⟨i0,i1,⟨a2,d2⟩,s2⟩:=e1
  have hdr:=Lr (g:=Z3 v) Z2
  have hl1:=hl x1 (YA Z2)
  have hln:=EG (g:=Z3 v) (o:=k*3) (d:=x1)
  have hl0:=Yp List.length hdr
  rw [Yz,hln] at hl0
  have kp:=Y5
  refine ak (aq (ab 1 (ZM 3 (Zg (WG S v xs.length k 3 (k:Int) hd) (Z1 1 (Jz 0 S N (Z3 v) (k*3) z hb.1 (kp.i i0) ?_))))))
  have kp:=kp.upd i0 z
  refine ie (ZM 1 (ia ((z+1)) ((z)+(1)) (Z0 (ZM 3 (Zg (WG S v xs.length k 3 (k:Int) hd) (Z1 1 (Jz 0 S (upd N (Z3 v,k*3) z) (Z3 v) (k*3+1) (z+1) hb.1 (kp.i i1) ?_)))))))
  have kp:=kp.upd i1 (z+1)
  refine ie (ZM 1 (ia (((z+1)+1)) (((z+1))+(1)) (Z0 (az (Z1 2 (Zg (WG S v xs.length k 3 (k:Int) hd) (Z1 1 ?_)))))))
  have t2:KL (upd (upd N (Z3 v,k*3) z) (Z3 v,k*3+1) (z+1)) S (Z3 x1.cv) 0 x1.cons:=Iu kp s2
  refine Xu (VS 0 S (upd (upd N (Z3 v,k*3) z) (Z3 v,k*3+1) (z+1)) (Z3 v) (k*3+2) x1.cv hb.1 (kp.h a2 d2.ni)) (Z1 1 (ZC [0] (Z7w S (upd (upd N (Z3 v,k*3) z) (Z3 v,k*3+1) (z+1)) x1.cv x1.cons ((z+1)+1)) ?_))
  have kp:=kp.wr (FJ s2) ((z+1)+1)
  exact Z0 (az (Z1 1 (ZK k (Z0 (ZJ ⟨k+1,(((z+1)+1)+((WR x1.cons).length:Nat)),(wr (upd (upd N (Z3 v,k*3) z) (Z3 v,k*3+1) (z+1)) (WR x1.cons) ((z+1)+1)),ob,ob,ob,kp,(Ds XD hdr Zeb om),rfl,rfl,rfl⟩ (wk [0] (fr (ZL k fl))))))))
 have he:(Wj (Z3 v) (k*3) (xs.drop k))=[]:=by rw [QP om];rfl
 rw [he,Vt] at Zz
 rw [he,wr] at XD
 exact ax 0 (ar (Z7 (r2 [0] [.i z] ⟨rfl,rfl⟩ li (eq:=(B4 (m:=N) XD rz)))))
theorem Z81 (S:List Nat) (M:Yl) (v:Value) (xs:List ZU) (q:Int) (ih:∀(S:List Nat) (M:Yl) (v:Value) (ys:List ZS) (q:Int),(SizeOf.sizeOf ys<SizeOf.sizeOf xs)->(Wi S v ys.length)->(U5 M S (Z3 v) 0 ys)->(0<=q/\q+((Xg (Z3 v) 0 ys).length:Nat)<=4000000000000)->Za 167 [.val v,.i q] [.own S M] (fun r h=>r=.i (q+((Xg (Z3 v) 0 ys).length:Nat))/\h=[.own S (wr M (Xg (Z3 v) 0 ys) q)])) (hd:Wi S v xs.length) (hs:Vs M S (Z3 v) 0 xs) (hq:0<=q/\q+((Yf (Z3 v) 0 xs).length:Nat)<=4000000000000):Za 108 [.val v,.i q] [.own S M] (fun r h=>r=.i (q+((Yf (Z3 v) 0 xs).length:Nat))/\h=[.own S (wr M (Yf (Z3 v) 0 xs) q)]):=by
 have hal:=FP (g:=Z3 v) (o:=0) (xs:=xs)
 refine Zx 48 Tryz.func108 (Zf (Yj (ab 0 (ZR (fun fz gz m F h=>∃(k:Nat) (z:Int) (N:Yl),(k<=xs.length)/\(0<=z)/\(z+((Yf (Z3 v) (k*5) (xs.drop k)).length:Nat)=q+((Yf (Z3 v) 0 xs).length:Nat))/\(Kp M N)/\(wr N (Yf (Z3 v) (k*5) (xs.drop k)) z=wr M (Yf (Z3 v) 0 xs) q)/\F=sF [0] fz [(1,.i z),(5,.i k)]/\h=[.own S N]/\m=xs.length-k) _ _ _ ⟨0,q,M,ob,ob,(by simp),(Kp.refl M),(by simp),rfl,rfl,rfl⟩ (wk [0] (fr (ZT fl))) ?_))))
 rintro m F h ⟨k,z,N,ZX,Z9,Zz,Y5,XD,rfl,rfl,rfl⟩
 refine Y8 2 (Zg (Kd S v xs.length hd) (ZN ((k:Int)<(xs.length:Int)) (fun Z5=>?_) (fun Z5=>?_)))
 ·have hb:=hd.blk (i:=k) om
  obtain ⟨x1,Z2⟩:=Zv xs k om
  have e1:=Iz hs Z2
  rw [Vf] at e1
  rw [R0] at e1
  have hz:SizeOf.sizeOf x1.kids<SizeOf.sizeOf xs:=Nv Z2
  obtain ⟨⟨i0,i1,i2⟩,⟨⟨a3,d3⟩,s3⟩,⟨⟨a4,d4⟩,s4⟩⟩:=e1
  have hdr:=LD (g:=Z3 v) Z2
  have hln:=Hy (g:=Z3 v) (o:=k*5) (s:=x1)
  have hl0:=Yp List.length hdr
  rw [Yz,hln] at hl0
  have kp:=Y5
  refine ak (aq (ab 1 (ZM 3 (Zg (WG S v xs.length k 5 (k:Int) hd) (Z1 1 (Jz 0 S N (Z3 v) (k*5) z hb.1 (kp.i i0) ?_))))))
  have kp:=kp.upd i0 z
  refine ie (ZM 1 (ia ((z+1)) ((z)+(1)) (Z0 (ZM 3 (Zg (WG S v xs.length k 5 (k:Int) hd) (Z1 1 (Jz 0 S (upd N (Z3 v,k*5) z) (Z3 v) (k*5+1) (z+1) hb.1 (kp.i i1) ?_)))))))
  have kp:=kp.upd i1 (z+1)
  refine ie (ZM 1 (ia (((z+1)+1)) (((z+1))+(1)) (Z0 (ZM 3 (Zg (WG S v xs.length k 5 (k:Int) hd) (Z1 1 (Jz 0 S (upd (upd N (Z3 v,k*5) z) (Z3 v,k*5+1) (z+1)) (Z3 v) (k*5+2) ((z+1)+1) hb.1 (kp.i i2) ?_)))))))
  have kp:=kp.upd i2 ((z+1)+1)
  refine ie (ZM 1 (ia ((((z+1)+1)+1)) ((((z+1)+1))+(1)) (Z0 (ZM 2 (Zg (WG S v xs.length k 5 (k:Int) hd) (Z1 1 ?_))))))
  have t3:TL (upd (upd (upd N (Z3 v,k*5) z) (Z3 v,k*5+1) (z+1)) (Z3 v,k*5+2) ((z+1)+1)) (Z3 x1.av) x1.args.length:=fun i hi=>kp.i (s3 i hi)
  refine Xu (VS 0 S (upd (upd (upd N (Z3 v,k*5) z) (Z3 v,k*5+1) (z+1)) (Z3 v,k*5+2) ((z+1)+1)) (Z3 v) (k*5+3) x1.av hb.1 (kp.h a3 d3.ni)) (Z1 1 (ZC [0] (EN S (upd (upd (upd N (Z3 v,k*5) z) (Z3 v,k*5+1) (z+1)) (Z3 v,k*5+2) ((z+1)+1)) x1.av x1.args (((z+1)+1)+1)) ?_))
  have kp:=kp.wr (A1 s3) (((z+1)+1)+1)
  refine Z0 (az (Z1 2 (Zg (WG S v xs.length k 5 (k:Int) hd) (Z1 1 ?_))))
  have t4:U5 (wr (upd (upd (upd N (Z3 v,k*5) z) (Z3 v,k*5+1) (z+1)) (Z3 v,k*5+2) ((z+1)+1)) (ZA (Z3 x1.av) 0 x1.args.length) (((z+1)+1)+1)) S (Z3 x1.kv) 0 x1.kids:=Ir kp s4
  refine Xu (VS 0 S (wr (upd (upd (upd N (Z3 v,k*5) z) (Z3 v,k*5+1) (z+1)) (Z3 v,k*5+2) ((z+1)+1)) (ZA (Z3 x1.av) 0 x1.args.length) (((z+1)+1)+1)) (Z3 v) (k*5+4) x1.kv hb.1 (kp.h a4 d4.ni)) (Z1 1 (ZC [0] (ih S (wr (upd (upd (upd N (Z3 v,k*5) z) (Z3 v,k*5+1) (z+1)) (Z3 v,k*5+2) ((z+1)+1)) (ZA (Z3 x1.av) 0 x1.args.length) (((z+1)+1)+1)) x1.kv x1.kids ((((z+1)+1)+1)+((ZA (Z3 x1.av) 0 x1.args.length).length:Nat)) ob ob ob ob) ?_))
  have kp:=kp.wr (FI s4) ((((z+1)+1)+1)+((ZA (Z3 x1.av) 0 x1.args.length).length:Nat))
  exact Z0 (az (Z1 1 (ZK k (Z0 (ZJ ⟨k+1,(((((z+1)+1)+1)+((ZA (Z3 x1.av) 0 x1.args.length).length:Nat))+((Xg (Z3 x1.kv) 0 x1.kids).length:Nat)),(wr (wr (upd (upd (upd N (Z3 v,k*5) z) (Z3 v,k*5+1) (z+1)) (Z3 v,k*5+2) ((z+1)+1)) (ZA (Z3 x1.av) 0 x1.args.length) (((z+1)+1)+1)) (Xg (Z3 x1.kv) 0 x1.kids) ((((z+1)+1)+1)+((ZA (Z3 x1.av) 0 x1.args.length).length:Nat))),ob,ob,ob,kp,(Ds XD hdr Zee om),rfl,rfl,rfl⟩ (wk [0] (fr (ZL k fl))))))))
 have he:(Yf (Z3 v) (k*5) (xs.drop k))=[]:=by rw [QP om,Yf]
 rw [he,Vt] at Zz
 rw [he,wr] at XD
 exact ax 0 (ar (Z7 (r2 [0] [.i z] ⟨rfl,rfl⟩ li (eq:=(B4 (m:=N) XD rz)))))
theorem Z7v (S:List Nat) (M:Yl) (v:Value) (xs:List ZS) (q:Int) (ih:∀(S:List Nat) (M:Yl) (v:Value) (ys:List ZU) (q:Int),(SizeOf.sizeOf ys<SizeOf.sizeOf xs)->(Wi S v ys.length)->(Vs M S (Z3 v) 0 ys)->(0<=q/\q+((Yf (Z3 v) 0 ys).length:Nat)<=4000000000000)->Za 108 [.val v,.i q] [.own S M] (fun r h=>r=.i (q+((Yf (Z3 v) 0 ys).length:Nat))/\h=[.own S (wr M (Yf (Z3 v) 0 ys) q)])) (hd:Wi S v xs.length) (hs:U5 M S (Z3 v) 0 xs) (hq:0<=q/\q+((Xg (Z3 v) 0 xs).length:Nat)<=4000000000000):Za 167 [.val v,.i q] [.own S M] (fun r h=>r=.i (q+((Xg (Z3 v) 0 xs).length:Nat))/\h=[.own S (wr M (Xg (Z3 v) 0 xs) q)]):=by
 have hal:=FH (g:=Z3 v) (o:=0) (xs:=xs)
 refine Zx 27 Tryz.func167 (Zf (Yj (ab 0 (ZR (fun fz gz m F h=>∃(k:Nat) (z:Int) (N:Yl),(k<=xs.length)/\(0<=z)/\(z+((Xg (Z3 v) (k*2) (xs.drop k)).length:Nat)=q+((Xg (Z3 v) 0 xs).length:Nat))/\(Kp M N)/\(wr N (Xg (Z3 v) (k*2) (xs.drop k)) z=wr M (Xg (Z3 v) 0 xs) q)/\F=sF [0] fz [(1,.i z),(5,.i k)]/\h=[.own S N]/\m=xs.length-k) _ _ _ ⟨0,q,M,ob,ob,(by simp),(Kp.refl M),(by simp),rfl,rfl,rfl⟩ (wk [0] (fr (ZT fl))) ?_))))
 rintro m F h ⟨k,z,N,ZX,Z9,Zz,Y5,XD,rfl,rfl,rfl⟩
 refine Y8 2 (Zg (Kd S v xs.length hd) (ZN ((k:Int)<(xs.length:Int)) (fun Z5=>?_) (fun Z5=>?_)))
 ·have hb:=hd.blk (i:=k) om
  obtain ⟨x1,Z2⟩:=Zv xs k om
  have e1:=Iq hs Z2
  rw [Vf] at e1
  rw [PX] at e1
  have hz:SizeOf.sizeOf x1.steps<SizeOf.sizeOf xs:=Nw Z2
  obtain ⟨⟨⟨a0,d0⟩,s0⟩,i1⟩:=e1
  have hdr:=Ll (g:=Z3 v) Z2
  have hln:=Hw (g:=Z3 v) (o:=k*2) (b:=x1)
  have hl0:=Yp List.length hdr
  rw [Yz,hln] at hl0
  have kp:=Y5
  refine ak (aq (ab 1 (ZM 2 (Zg (WG S v xs.length k 2 (k:Int) hd) (Z1 1 ?_)))))
  have t0:Vs N S (Z3 x1.sv) 0 x1.steps:=Dd kp s0
  refine Xu (VS 0 S N (Z3 v) (k*2) x1.sv hb.1 (kp.h a0 d0.ni)) (Z1 1 (ZC [0] (ih S N x1.sv x1.steps z ob ob ob ob) ?_))
  have kp:=kp.wr (Cj s0) z
  refine Z0 (ZM 3 (Zg (WG S v xs.length k 2 (k:Int) hd) (Z1 1 (Jz 0 S (wr N (Yf (Z3 x1.sv) 0 x1.steps) z) (Z3 v) (k*2+1) (z+((Yf (Z3 x1.sv) 0 x1.steps).length:Nat)) hb.1 (kp.i i1) ?_))))
  have kp:=kp.upd i1 (z+((Yf (Z3 x1.sv) 0 x1.steps).length:Nat))
  exact ie (az (Z1 1 (ia (((z+((Yf (Z3 x1.sv) 0 x1.steps).length:Nat))+1)) (((z+((Yf (Z3 x1.sv) 0 x1.steps).length:Nat)))+(1)) (Z0 (az (Z1 1 (ZK k (Z0 (ZJ ⟨k+1,((z+((Yf (Z3 x1.sv) 0 x1.steps).length:Nat))+1),upd (wr N (Yf (Z3 x1.sv) 0 x1.steps) z) (Z3 v,k*2+1) (z+((Yf (Z3 x1.sv) 0 x1.steps).length:Nat)),ob,ob,ob,kp,(Ds XD hdr Zea om),rfl,rfl,rfl⟩ (wk [0] (fr (ZL k fl))))))))))))
 have he:(Xg (Z3 v) (k*2) (xs.drop k))=[]:=by rw [QP om,Xg]
 rw [he,Vt] at Zz
 rw [he,wr] at XD
 exact ax 0 (ar (Z7 (r2 [0] [.i z] ⟨rfl,rfl⟩ li (eq:=(B4 (m:=N) XD rz)))))
theorem Z82 (n:Nat):(∀(S:List Nat) (M:Yl) (v:Value) (xs:List ZU) (q:Int),(SizeOf.sizeOf xs<n)->(Wi S v xs.length)->(Vs M S (Z3 v) 0 xs)->(0<=q/\q+((Yf (Z3 v) 0 xs).length:Nat)<=4000000000000)->Za 108 [.val v,.i q] [.own S M] (fun r h=>r=.i (q+((Yf (Z3 v) 0 xs).length:Nat))/\h=[.own S (wr M (Yf (Z3 v) 0 xs) q)]))/\(∀(S:List Nat) (M:Yl) (v:Value) (xs:List ZS) (q:Int),(SizeOf.sizeOf xs<n)->(Wi S v xs.length)->(U5 M S (Z3 v) 0 xs)->(0<=q/\q+((Xg (Z3 v) 0 xs).length:Nat)<=4000000000000)->Za 167 [.val v,.i q] [.own S M] (fun r h=>r=.i (q+((Xg (Z3 v) 0 xs).length:Nat))/\h=[.own S (wr M (Xg (Z3 v) 0 xs) q)])):=by
 induction n with
 | zero=>exact ⟨fun _ _ _ _ _ h=>by omega,fun _ _ _ _ _ h=>by omega⟩
 | succ n ih=>
  obtain ⟨i1,i2⟩:=ih
  exact ⟨fun S M v xs q hz h3 h4 h9=>Z81 S M v xs q (fun S M v ys q hz2 h3 h4 h9=>i2 S M v ys q om h3 h4 h9) h3 h4 h9,fun S M v xs q hz h3 h4 h9=>Z7v S M v xs q (fun S M v ys q hz2 h3 h4 h9=>i1 S M v ys q om h3 h4 h9) h3 h4 h9⟩
theorem Z80 (S:List Nat) (M:Yl) (v:Value) (xs:List ZU) (q:Int) (hd:Wi S v xs.length:=by exact ob) (hs:Vs M S (Z3 v) 0 xs:=by exact ob) (hq:0<=q/\q+((Yf (Z3 v) 0 xs).length:Nat)<=4000000000000:=by exact ob):Za 108 [.val v,.i q] [.own S M] (fun r h=>r=.i (q+((Yf (Z3 v) 0 xs).length:Nat))/\h=[.own S (wr M (Yf (Z3 v) 0 xs) q)]):=(Z82 (SizeOf.sizeOf xs+1)).1 S M v xs q om hd hs hq
theorem Z7z (S:List Nat) (M:Yl) (v:Value) (xs:List YN) (q:Int) (hd:Wi S v xs.length:=by exact ob) (hs:J8 M S (Z3 v) 0 xs:=by exact ob) (hq:0<=q/\q+((WK (Z3 v) 0 xs).length:Nat)<=4000000000000:=by exact ob):Za 54 [.val v,.i q] [.own S M] (fun r h=>r=.i (q+((WK (Z3 v) 0 xs).length:Nat))/\h=[.own S (wr M (WK (Z3 v) 0 xs) q)]):=by
 have hal:=FM (g:=Z3 v) (o:=0) (xs:=xs)
 refine Zx 50 Tryz.func54 (Zf (Yj (ab 0 (ZR (fun fz gz m F h=>∃(k:Nat) (z:Int) (N:Yl),(k<=xs.length)/\(0<=z)/\(z+((WK (Z3 v) (k*5) (xs.drop k)).length:Nat)=q+((WK (Z3 v) 0 xs).length:Nat))/\(Kp M N)/\(wr N (WK (Z3 v) (k*5) (xs.drop k)) z=wr M (WK (Z3 v) 0 xs) q)/\F=sF [0] fz [(1,.i z),(5,.i k)]/\h=[.own S N]/\m=xs.length-k) _ _ _ ⟨0,q,M,ob,ob,(by simp),(Kp.refl M),(by simp),rfl,rfl,rfl⟩ (wk [0] (fr (ZT fl))) ?_))))
 rintro m F h ⟨k,z,N,ZX,Z9,Zz,Y5,XD,rfl,rfl,rfl⟩
 refine Y8 2 (Zg (Kd S v xs.length hd) (ZN ((k:Int)<(xs.length:Int)) (fun Z5=>?_) (fun Z5=>?_)))
 ·have hb:=hd.blk (i:=k) om
  obtain ⟨x1,Z2⟩:=Zv xs k om
  have e1:=Ix hs Z2
  rw [Vf] at e1
  obtain ⟨⟨⟨a0,d0⟩,s0⟩,⟨⟨a1,d1⟩,s1⟩,i2,⟨⟨a3,d3⟩,s3⟩,i4⟩:=e1
  have hdr:=LA (g:=Z3 v) Z2
  have hln:=EH (g:=Z3 v) (o:=k*5) (r:=x1)
  have hl0:=Yp List.length hdr
  rw [Yz,hln] at hl0
  have kp:=Y5
  refine ak (aq (ab 1 (ZM 2 (Zg (WG S v xs.length k 5 (k:Int) hd) (Z1 1 ?_)))))
  have t0:TL N (Z3 x1.pv) x1.params.length:=fun i hi=>kp.i (s0 i hi)
  refine Xu (VS 0 S N (Z3 v) (k*5) x1.pv hb.1 (kp.h a0 d0.ni)) (Z1 1 (ZC [0] (EN S N x1.pv x1.params z) ?_))
  have kp:=kp.wr (A1 s0) z
  refine Z0 (ZM 2 (Zg (WG S v xs.length k 5 (k:Int) hd) (Z1 1 ?_)))
  have t1:TL (wr N (ZA (Z3 x1.pv) 0 x1.params.length) z) (Z3 x1.lv) x1.lent.length:=fun i hi=>kp.i (s1 i hi)
  refine Xu (VS 0 S (wr N (ZA (Z3 x1.pv) 0 x1.params.length) z) (Z3 v) (k*5+1) x1.lv hb.1 (kp.h a1 d1.ni)) (Z1 1 (ZC [0] (EN S (wr N (ZA (Z3 x1.pv) 0 x1.params.length) z) x1.lv x1.lent (z+((ZA (Z3 x1.pv) 0 x1.params.length).length:Nat))) ?_))
  have kp:=kp.wr (A1 s1) (z+((ZA (Z3 x1.pv) 0 x1.params.length).length:Nat))
  refine Z0 (ZM 3 (Zg (WG S v xs.length k 5 (k:Int) hd) (Z1 1 (Jz 0 S (wr (wr N (ZA (Z3 x1.pv) 0 x1.params.length) z) (ZA (Z3 x1.lv) 0 x1.lent.length) (z+((ZA (Z3 x1.pv) 0 x1.params.length).length:Nat))) (Z3 v) (k*5+2) ((z+((ZA (Z3 x1.pv) 0 x1.params.length).length:Nat))+((ZA (Z3 x1.lv) 0 x1.lent.length).length:Nat)) hb.1 (kp.i i2) ?_))))
  have kp:=kp.upd i2 ((z+((ZA (Z3 x1.pv) 0 x1.params.length).length:Nat))+((ZA (Z3 x1.lv) 0 x1.lent.length).length:Nat))
  refine ie (ZM 1 (ia ((((z+((ZA (Z3 x1.pv) 0 x1.params.length).length:Nat))+((ZA (Z3 x1.lv) 0 x1.lent.length).length:Nat))+1)) ((((z+((ZA (Z3 x1.pv) 0 x1.params.length).length:Nat))+((ZA (Z3 x1.lv) 0 x1.lent.length).length:Nat)))+(1)) (Z0 (ZM 2 (Zg (WG S v xs.length k 5 (k:Int) hd) (Z1 2 ?_))))))
  have t3:Vs (upd (wr (wr N (ZA (Z3 x1.pv) 0 x1.params.length) z) (ZA (Z3 x1.lv) 0 x1.lent.length) (z+((ZA (Z3 x1.pv) 0 x1.params.length).length:Nat))) (Z3 v,k*5+2) ((z+((ZA (Z3 x1.pv) 0 x1.params.length).length:Nat))+((ZA (Z3 x1.lv) 0 x1.lent.length).length:Nat))) S (Z3 x1.body.sv) 0 x1.body.steps:=Dd kp s3
  refine Xu (VS 0 S (upd (wr (wr N (ZA (Z3 x1.pv) 0 x1.params.length) z) (ZA (Z3 x1.lv) 0 x1.lent.length) (z+((ZA (Z3 x1.pv) 0 x1.params.length).length:Nat))) (Z3 v,k*5+2) ((z+((ZA (Z3 x1.pv) 0 x1.params.length).length:Nat))+((ZA (Z3 x1.lv) 0 x1.lent.length).length:Nat))) (Z3 v) (k*5+3) x1.body.sv hb.1 (kp.h a3 d3.ni)) (Z1 1 (ZC [0] (Z80 S (upd (wr (wr N (ZA (Z3 x1.pv) 0 x1.params.length) z) (ZA (Z3 x1.lv) 0 x1.lent.length) (z+((ZA (Z3 x1.pv) 0 x1.params.length).length:Nat))) (Z3 v,k*5+2) ((z+((ZA (Z3 x1.pv) 0 x1.params.length).length:Nat))+((ZA (Z3 x1.lv) 0 x1.lent.length).length:Nat))) x1.body.sv x1.body.steps (((z+((ZA (Z3 x1.pv) 0 x1.params.length).length:Nat))+((ZA (Z3 x1.lv) 0 x1.lent.length).length:Nat))+1)) ?_))
  have kp:=kp.wr (Cj s3) (((z+((ZA (Z3 x1.pv) 0 x1.params.length).length:Nat))+((ZA (Z3 x1.lv) 0 x1.lent.length).length:Nat))+1)
  refine Z0 (ZM 3 (Zg (WG S v xs.length k 5 (k:Int) hd) (Z1 2 (Jz 0 S (wr (upd (wr (wr N (ZA (Z3 x1.pv) 0 x1.params.length) z) (ZA (Z3 x1.lv) 0 x1.lent.length) (z+((ZA (Z3 x1.pv) 0 x1.params.length).length:Nat))) (Z3 v,k*5+2) ((z+((ZA (Z3 x1.pv) 0 x1.params.length).length:Nat))+((ZA (Z3 x1.lv) 0 x1.lent.length).length:Nat))) (Yf (Z3 x1.body.sv) 0 x1.body.steps) (((z+((ZA (Z3 x1.pv) 0 x1.params.length).length:Nat))+((ZA (Z3 x1.lv) 0 x1.lent.length).length:Nat))+1)) (Z3 v) (k*5+4) ((((z+((ZA (Z3 x1.pv) 0 x1.params.length).length:Nat))+((ZA (Z3 x1.lv) 0 x1.lent.length).length:Nat))+1)+((Yf (Z3 x1.body.sv) 0 x1.body.steps).length:Nat)) hb.1 (kp.i i4) ?_))))
  have kp:=kp.upd i4 ((((z+((ZA (Z3 x1.pv) 0 x1.params.length).length:Nat))+((ZA (Z3 x1.lv) 0 x1.lent.length).length:Nat))+1)+((Yf (Z3 x1.body.sv) 0 x1.body.steps).length:Nat))
  exact ie (az (Z1 1 (ia ((((((z+((ZA (Z3 x1.pv) 0 x1.params.length).length:Nat))+((ZA (Z3 x1.lv) 0 x1.lent.length).length:Nat))+1)+((Yf (Z3 x1.body.sv) 0 x1.body.steps).length:Nat))+1)) ((((((z+((ZA (Z3 x1.pv) 0 x1.params.length).length:Nat))+((ZA (Z3 x1.lv) 0 x1.lent.length).length:Nat))+1)+((Yf (Z3 x1.body.sv) 0 x1.body.steps).length:Nat)))+(1)) (Z0 (az (Z1 1 (ZK k (Z0 (ZJ ⟨k+1,(((((z+((ZA (Z3 x1.pv) 0 x1.params.length).length:Nat))+((ZA (Z3 x1.lv) 0 x1.lent.length).length:Nat))+1)+((Yf (Z3 x1.body.sv) 0 x1.body.steps).length:Nat))+1),upd (wr (upd (wr (wr N (ZA (Z3 x1.pv) 0 x1.params.length) z) (ZA (Z3 x1.lv) 0 x1.lent.length) (z+((ZA (Z3 x1.pv) 0 x1.params.length).length:Nat))) (Z3 v,k*5+2) ((z+((ZA (Z3 x1.pv) 0 x1.params.length).length:Nat))+((ZA (Z3 x1.lv) 0 x1.lent.length).length:Nat))) (Yf (Z3 x1.body.sv) 0 x1.body.steps) (((z+((ZA (Z3 x1.pv) 0 x1.params.length).length:Nat))+((ZA (Z3 x1.lv) 0 x1.lent.length).length:Nat))+1)) (Z3 v,k*5+4) ((((z+((ZA (Z3 x1.pv) 0 x1.params.length).length:Nat))+((ZA (Z3 x1.lv) 0 x1.lent.length).length:Nat))+1)+((Yf (Z3 x1.body.sv) 0 x1.body.steps).length:Nat)),ob,ob,ob,kp,(Ds XD hdr Zed om),rfl,rfl,rfl⟩ (wk [0] (fr (ZL k fl))))))))))))
 have he:(WK (Z3 v) (k*5) (xs.drop k))=[]:=by rw [QP om];rfl
 rw [he,Vt] at Zz
 rw [he,wr] at XD
 exact ax 0 (ar (Z7 (r2 [0] [.i z] ⟨rfl,rfl⟩ li (eq:=(B4 (m:=N) XD rz)))))
theorem Z7y (S:List Nat) (M:Yl) (y:X4) (q:Int) (hs:Q6 M S y:=by exact ob) (hl:∀d∈y.decls,d.cons.length<=4000000000000) (hq:0<=q/\q+((W5 y).length:Nat)<=4000000000000:=by exact ob):Za 22 [.agg [.val y.dv,.val y.rv],.i q] [.own S M] (fun r h=>r=.i (q+((W5 y).length:Nat))/\h=[.own S (wr M (W5 y) q)]):=by
 obtain ⟨⟨d0,s0⟩,⟨d1,s1⟩⟩:=hs
 have hln:=Hx (y:=y)
 have kp:=Kp.refl M
 refine Zx 14 Tryz.func22 (ar (iA [.val y.dv,.val y.rv] fun b1=>Z0 (ZB 3 [0] (ZC [1] (Z7x S M y.dv y.decls q (hl:=ob)) ?_))))
 have kp:=kp.wr (FL s0) q
 have t1:=Iy kp s1
 exact Z0 (ZB 3 [1] (ZC [0] (Z7z S (wr M (Wj (Z3 y.dv) 0 y.decls) q) y.rv y.routines (q+((Wj (Z3 y.dv) 0 y.decls).length:Nat))) (Z0 (ar (Z7 (r2 [0] [.i ((q+((Wj (Z3 y.dv) 0 y.decls).length:Nat))+((WK (Z3 y.rv) 0 y.routines).length:Nat))] ⟨rfl,rfl⟩ li (eq:=(B4 (m:=(wr (wr M (Wj (Z3 y.dv) 0 y.decls) q) (WK (Z3 y.rv) 0 y.routines) (q+((Wj (Z3 y.dv) 0 y.decls).length:Nat)))) Zec rz))))))))
theorem Ek (S:List Nat) (M:Yl) (v:Value) (xs:LI) (q:Int) (hd:Wi S v xs.length:=by exact ob) (hs:TL M (Z3 v) xs.length:=by exact ob) (hh:X6 M (ZA (Z3 v) 0 xs.length) q:=by exact ob) (hq:0<=q/\q+((ZA (Z3 v) 0 xs.length).length:Nat)<=4000000000000:=by exact ob):Za 110 [.val v,.i q] [.own S M] (fun r h=>r=.i (q+((ZA (Z3 v) 0 xs.length).length:Nat))/\h=[.own S M]):=by
 have hal:=AK (Z3 v) xs.length 0
 refine Zx 21 Tryz.func110 (Zf (Yj (ab 0 (ZR (fun fz gz m F h=>∃(k:Nat) (z:Int),(k<=xs.length)/\(0<=z)/\(z+((ZA (Z3 v) k (xs.length-k)).length:Nat)=q+((ZA (Z3 v) 0 xs.length).length:Nat))/\(X6 M (ZA (Z3 v) k (xs.length-k)) z)/\F=sF [0] fz [(1,.i z),(5,.i k)]/\h=gz/\m=xs.length-k) _ _ _ ⟨0,q,ob,ob,(by simp),(by simpa using hh),rfl,rfl,rfl⟩ (wk [0] (fr (ZT fl))) ?_))))
 rintro m F h ⟨k,z,ZX,Z9,Zz,Y5,rfl,rfl,rfl⟩
 refine Y8 2 (Zg (Kd S v xs.length hd) (ZN ((k:Int)<(xs.length:Int)) (fun Z5=>?_) (fun Z5=>?_)))
 ·have hb:=hd.blk (i:=k) om
  have hdr:=Lu (Z3 v) xs.length k om
  have hl0:(ZA (Z3 v) k (xs.length-k)).length=(ZA (Z3 v) (k+1) (xs.length-(k+1))).length+1:=by rw [hdr];rfl
  have hsk:=hs k om
  rw [<-UJ k] at hsk
  rw [hdr] at Y5
  have h0:M (Z3 v) (k*1)=some (.int .i64 z):=by rw [UJ];exact Y5.1
  refine ak (aq (ab 1 (Y8 2 (Zg (WG S v xs.length k 1 (k:Int) hd) (Xu (VS 0 S M (Z3 v) (k*1) (.int .i64 z) hb.1 h0) (Yt (z != z) ZO (fun Zd=>?_) (fun Zd=>?_)))))))
  ·exact ar (Z7 (r2 [0] [.i (-1)] ⟨rfl,rfl⟩ li))
  exact ak (az (Z1 1 (ia ((z+1)) ((z)+(1)) (Z0 (az (Z1 1 (ZK k (Z0 (ZJ ⟨k+1,(z+1),ob,ob,ob,Y5.2,rfl,rfl,rfl⟩ (wk [0] (fr (ZL k fl))))))))))))
 have he:ZA (Z3 v) k (xs.length-k)=[]:=by rw [show xs.length-k=0 by omega];rfl
 rw [he,Vt] at Zz
 exact ax 0 (ar (Z7 (r2 [0] [.i z] ⟨rfl,rfl⟩ li)))
theorem Z41 (S:List Nat) (M:Yl) (v:Value) (xs:List X0) (q:Int) (hl:xs.length<=4000000000000:=by exact ob) (hd:Wi S v xs.length:=by exact ob) (hs:KL M S (Z3 v) 0 xs:=by exact ob) (hh:X6 M (WR xs) q:=by exact ob) (hq:0<=q/\q+((WR xs).length:Nat)<=4000000000000:=by exact ob):Za 109 [.val v,.i q] [.own S M] (fun r h=>r=.i (q+((WR xs).length:Nat))/\h=[.own S M]):=by
 refine Zx 22 Tryz.func109 (Zf (Yj (ab 0 (ZR (fun fz gz m F h=>∃(k:Nat) (z:Int),(k<=xs.length)/\(0<=z)/\(z+((WR (xs.drop k)).length:Nat)=q+((WR xs).length:Nat))/\(X6 M (WR (xs.drop k)) z)/\F=sF [0] fz [(1,.i z),(5,.i k)]/\h=gz/\m=xs.length-k) _ _ _ ⟨0,q,ob,ob,(by simp),(by simpa using hh),rfl,rfl,rfl⟩ (wk [0] (fr (ZT fl))) ?_))))
 rintro m F h ⟨k,z,ZX,Z9,Zz,Y5,rfl,rfl,rfl⟩
 refine Y8 2 (Zg (Kd S v xs.length hd) (ZN ((k:Int)<(xs.length:Int)) (fun Z5=>?_) (fun Z5=>?_)))
 ·have hb:=hd.blk (i:=k) om
  obtain ⟨x1,Z2⟩:=Zv xs k om
  have e1:=It hs Z2
  rw [Vf] at e1
  obtain ⟨⟨a0,d0⟩,s0⟩:=e1
  rw [<-UJ k] at a0
  have hdr:=Lo Z2
  have hln:(DF x1).length=(ZA (Z3 x1.fv) 0 x1.fields.length).length:=rfl
  have hl0:=Yp List.length hdr
  rw [Yz,hln] at hl0
  rw [hdr] at Y5
  obtain ⟨hA,hR⟩:=(K8 _ _ _ _).1 Y5
  have h0:X6 M (ZA (Z3 x1.fv) 0 x1.fields.length) z:=hA
  refine ak (aq (ab 1 (ZM 2 (Zg (WG S v xs.length k 1 (k:Int) hd) (Z1 1 (Xu (VS 0 S M (Z3 v) (k*1) x1.fv hb.1 a0) (Z1 1 (ZC [0] (Ek S M x1.fv x1.fields z) (Z0 (ar (ZN ((z+((ZA (Z3 x1.fv) 0 x1.fields.length).length:Nat))<0) (fun Zd=>?_) (fun Zd=>?_))))))))))))
  ·exact ar (Z7 (r2 [0] [.i (-1)] ⟨rfl,rfl⟩ li))
  exact ak (az (Z1 1 (ZK k (Z0 (ZJ ⟨k+1,(z+((ZA (Z3 x1.fv) 0 x1.fields.length).length:Nat)),ob,ob,ob,(CM hR om),rfl,rfl,rfl⟩ (wk [0] (fr (ZL k fl))))))))
 have he:(WR (xs.drop k))=[]:=by rw [QP om];rfl
 rw [he,Vt] at Zz
 exact ax 0 (ar (Z7 (r2 [0] [.i z] ⟨rfl,rfl⟩ li)))
theorem Z42 (S:List Nat) (M:Yl) (v:Value) (xs:List YM) (q:Int) (hl:∀d∈xs,d.cons.length<=4000000000000) (hd:Wi S v xs.length:=by exact ob) (hs:J7 M S (Z3 v) 0 xs:=by exact ob) (hh:X6 M (Wj (Z3 v) 0 xs) q:=by exact ob) (hq:0<=q/\q+((Wj (Z3 v) 0 xs).length:Nat)<=4000000000000:=by exact ob):Za 55 [.val v,.i q] [.own S M] (fun r h=>r=.i (q+((Wj (Z3 v) 0 xs).length:Nat))/\h=[.own S M]):=by
 have hal:=FK (g:=Z3 v) (o:=0) (ds:=xs)
 refine Zx 40 Tryz.func55 (Zf (Yj (ab 0 (ZR (fun fz gz m F h=>∃(k:Nat) (z:Int),(k<=xs.length)/\(0<=z)/\(z+((Wj (Z3 v) (k*3) (xs.drop k)).length:Nat)=q+((Wj (Z3 v) 0 xs).length:Nat))/\(X6 M (Wj (Z3 v) (k*3) (xs.drop k)) z)/\F=sF [0] fz [(1,.i z),(5,.i k)]/\h=gz/\m=xs.length-k) _ _ _ ⟨0,q,ob,ob,(by simp),(by simpa using hh),rfl,rfl,rfl⟩ (wk [0] (fr (ZT fl))) ?_))))
 rintro m F h ⟨k,z,ZX,Z9,Zz,Y5,rfl,rfl,rfl⟩
 refine Y8 2 (Zg (Kd S v xs.length hd) (ZN ((k:Int)<(xs.length:Int)) (fun Z5=>?_) (fun Z5=>?_)))
 ·have hb:=hd.blk (i:=k) om
  obtain ⟨x1,Z2⟩:=Zv xs k om
  have e1:=Iw hs Z2
  rw [Vf] at e1
  obtain ⟨i0,i1,⟨a2,d2⟩,s2⟩:=e1
  have hdr:=Lr (g:=Z3 v) Z2
  have hl1:=hl x1 (YA Z2)
  have hln:=EG (g:=Z3 v) (o:=k*3) (d:=x1)
  have hl0:=Yp List.length hdr
  rw [Yz,hln] at hl0
  rw [hdr] at Y5
  obtain ⟨hA,hR⟩:=(K8 _ _ _ _).1 Y5
  obtain ⟨h0,h1,h2⟩:=Z49 hA
  refine ak (aq (ab 1 (Y8 2 (Zg (WG S v xs.length k 3 (k:Int) hd) (Z1 1 (Xu (VS 0 S M (Z3 v) (k*3) (.int .i64 z) hb.1 h0) (Yt (z != z) ZO (fun Zd=>?_) (fun Zd=>?_))))))))
  ·exact ar (Z7 (r2 [0] [.i (-1)] ⟨rfl,rfl⟩ li))
  refine ak (ZM 1 (ia ((z+1)) ((z)+(1)) (Z0 (Y8 2 (Zg (WG S v xs.length k 3 (k:Int) hd) (Z1 1 (Xu (VS 0 S M (Z3 v) (k*3+1) (.int .i64 (z+1)) hb.1 h1) (Yt ((z+1) != (z+1)) ZO (fun Zw=>?_) (fun Zw=>?_)))))))))
  ·exact ar (Z7 (r2 [0] [.i (-1)] ⟨rfl,rfl⟩ li))
  refine ak (ZM 1 (ia (((z+1)+1)) (((z+1))+(1)) (Z0 (ZM 2 (Zg (WG S v xs.length k 3 (k:Int) hd) (Z1 1 (Xu (VS 0 S M (Z3 v) (k*3+2) x1.cv hb.1 a2) (Z1 1 (ZC [0] (Z41 S M x1.cv x1.cons ((z+1)+1)) (Z0 (ar (ZN ((((z+1)+1)+((WR x1.cons).length:Nat))<0) (fun Yd=>?_) (fun Yd=>?_)))))))))))))
  ·exact ar (Z7 (r2 [0] [.i (-1)] ⟨rfl,rfl⟩ li))
  exact ak (az (Z1 1 (ZK k (Z0 (ZJ ⟨k+1,(((z+1)+1)+((WR x1.cons).length:Nat)),ob,ob,ob,(CM hR om),rfl,rfl,rfl⟩ (wk [0] (fr (ZL k fl))))))))
 have he:(Wj (Z3 v) (k*3) (xs.drop k))=[]:=by rw [QP om];rfl
 rw [he,Vt] at Zz
 exact ax 0 (ar (Z7 (r2 [0] [.i z] ⟨rfl,rfl⟩ li)))
theorem Z46 (S:List Nat) (M:Yl) (v:Value) (xs:List ZU) (q:Int) (ih:∀(S:List Nat) (M:Yl) (v:Value) (ys:List ZS) (q:Int),(SizeOf.sizeOf ys<SizeOf.sizeOf xs)->(Wi S v ys.length)->(U5 M S (Z3 v) 0 ys)->(X6 M (Xg (Z3 v) 0 ys) q)->(0<=q/\q+((Xg (Z3 v) 0 ys).length:Nat)<=4000000000000)->Za 168 [.val v,.i q] [.own S M] (fun r h=>r=.i (q+((Xg (Z3 v) 0 ys).length:Nat))/\h=[.own S M])) (hd:Wi S v xs.length) (hs:Vs M S (Z3 v) 0 xs) (hh:X6 M (Yf (Z3 v) 0 xs) q) (hq:0<=q/\q+((Yf (Z3 v) 0 xs).length:Nat)<=4000000000000):Za 111 [.val v,.i q] [.own S M] (fun r h=>r=.i (q+((Yf (Z3 v) 0 xs).length:Nat))/\h=[.own S M]):=by
 have hal:=FP (g:=Z3 v) (o:=0) (xs:=xs)
 refine Zx 58 Tryz.func111 (Zf (Yj (ab 0 (ZR (fun fz gz m F h=>∃(k:Nat) (z:Int),(k<=xs.length)/\(0<=z)/\(z+((Yf (Z3 v) (k*5) (xs.drop k)).length:Nat)=q+((Yf (Z3 v) 0 xs).length:Nat))/\(X6 M (Yf (Z3 v) (k*5) (xs.drop k)) z)/\F=sF [0] fz [(1,.i z),(5,.i k)]/\h=gz/\m=xs.length-k) _ _ _ ⟨0,q,ob,ob,(by simp),(by simpa using hh),rfl,rfl,rfl⟩ (wk [0] (fr (ZT fl))) ?_))))
 rintro m F h ⟨k,z,ZX,Z9,Zz,Y5,rfl,rfl,rfl⟩
 refine Y8 2 (Zg (Kd S v xs.length hd) (ZN ((k:Int)<(xs.length:Int)) (fun Z5=>?_) (fun Z5=>?_)))
 ·have hb:=hd.blk (i:=k) om
  obtain ⟨x1,Z2⟩:=Zv xs k om
  have e1:=Iz hs Z2
  rw [Vf] at e1
  rw [R0] at e1
  have hz:SizeOf.sizeOf x1.kids<SizeOf.sizeOf xs:=Nv Z2
  obtain ⟨⟨i0,i1,i2⟩,⟨⟨a3,d3⟩,s3⟩,⟨⟨a4,d4⟩,s4⟩⟩:=e1
  have hdr:=LD (g:=Z3 v) Z2
  have hln:=Hy (g:=Z3 v) (o:=k*5) (s:=x1)
  have hl0:=Yp List.length hdr
  rw [Yz,hln] at hl0
  rw [hdr] at Y5
  obtain ⟨hA,hR⟩:=(K8 _ _ _ _).1 Y5
  obtain ⟨h0,h1,h2,h3,h4⟩:=Z4b hA
  refine ak (aq (ab 1 (Y8 2 (Zg (WG S v xs.length k 5 (k:Int) hd) (Z1 1 (Xu (VS 0 S M (Z3 v) (k*5) (.int .i64 z) hb.1 h0) (Yt (z != z) ZO (fun Zd=>?_) (fun Zd=>?_))))))))
  ·exact ar (Z7 (r2 [0] [.i (-1)] ⟨rfl,rfl⟩ li))
  refine ak (ZM 1 (ia ((z+1)) ((z)+(1)) (Z0 (Y8 2 (Zg (WG S v xs.length k 5 (k:Int) hd) (Z1 1 (Xu (VS 0 S M (Z3 v) (k*5+1) (.int .i64 (z+1)) hb.1 h1) (Yt ((z+1) != (z+1)) ZO (fun Zw=>?_) (fun Zw=>?_)))))))))
  ·exact ar (Z7 (r2 [0] [.i (-1)] ⟨rfl,rfl⟩ li))
  refine ak (ZM 1 (ia (((z+1)+1)) (((z+1))+(1)) (Z0 (Y8 2 (Zg (WG S v xs.length k 5 (k:Int) hd) (Z1 1 (Xu (VS 0 S M (Z3 v) (k*5+2) (.int .i64 ((z+1)+1)) hb.1 h2) (Yt (((z+1)+1) != ((z+1)+1)) ZO (fun Yd=>?_) (fun Yd=>?_)))))))))
  ·exact ar (Z7 (r2 [0] [.i (-1)] ⟨rfl,rfl⟩ li))
  refine ak (ZM 1 (ia ((((z+1)+1)+1)) ((((z+1)+1))+(1)) (Z0 (ZM 2 (Zg (WG S v xs.length k 5 (k:Int) hd) (Z1 1 (Xu (VS 0 S M (Z3 v) (k*5+3) x1.av hb.1 a3) (Z1 1 (ZC [0] (Ek S M x1.av x1.args (((z+1)+1)+1)) (Z0 (Yq (ZN (((((z+1)+1)+1)+((ZA (Z3 x1.av) 0 x1.args.length).length:Nat))<0) (fun Xm=>?_) (fun Xm=>?_)))))))))))))
  ·exact ar (Z7 (r2 [0] [.i (-1)] ⟨rfl,rfl⟩ li))
  refine ak (ZM 2 (Zg (WG S v xs.length k 5 (k:Int) hd) (Z1 1 (Xu (VS 0 S M (Z3 v) (k*5+4) x1.kv hb.1 a4) (Z1 1 (ZC [0] (ih S M x1.kv x1.kids ((((z+1)+1)+1)+((ZA (Z3 x1.av) 0 x1.args.length).length:Nat)) ob ob ob ob ob) (Z0 (ar (ZN ((((((z+1)+1)+1)+((ZA (Z3 x1.av) 0 x1.args.length).length:Nat))+((Xg (Z3 x1.kv) 0 x1.kids).length:Nat))<0) (fun Wc=>?_) (fun Wc=>?_))))))))))
  ·exact ar (Z7 (r2 [0] [.i (-1)] ⟨rfl,rfl⟩ li))
  exact ak (az (Z1 1 (ZK k (Z0 (ZJ ⟨k+1,(((((z+1)+1)+1)+((ZA (Z3 x1.av) 0 x1.args.length).length:Nat))+((Xg (Z3 x1.kv) 0 x1.kids).length:Nat)),ob,ob,ob,(CM hR om),rfl,rfl,rfl⟩ (wk [0] (fr (ZL k fl))))))))
 have he:(Yf (Z3 v) (k*5) (xs.drop k))=[]:=by rw [QP om,Yf]
 rw [he,Vt] at Zz
 exact ax 0 (ar (Z7 (r2 [0] [.i z] ⟨rfl,rfl⟩ li)))
theorem Z40 (S:List Nat) (M:Yl) (v:Value) (xs:List ZS) (q:Int) (ih:∀(S:List Nat) (M:Yl) (v:Value) (ys:List ZU) (q:Int),(SizeOf.sizeOf ys<SizeOf.sizeOf xs)->(Wi S v ys.length)->(Vs M S (Z3 v) 0 ys)->(X6 M (Yf (Z3 v) 0 ys) q)->(0<=q/\q+((Yf (Z3 v) 0 ys).length:Nat)<=4000000000000)->Za 111 [.val v,.i q] [.own S M] (fun r h=>r=.i (q+((Yf (Z3 v) 0 ys).length:Nat))/\h=[.own S M])) (hd:Wi S v xs.length) (hs:U5 M S (Z3 v) 0 xs) (hh:X6 M (Xg (Z3 v) 0 xs) q) (hq:0<=q/\q+((Xg (Z3 v) 0 xs).length:Nat)<=4000000000000):Za 168 [.val v,.i q] [.own S M] (fun r h=>r=.i (q+((Xg (Z3 v) 0 xs).length:Nat))/\h=[.own S M]):=by
 have hal:=FH (g:=Z3 v) (o:=0) (xs:=xs)
 refine Zx 31 Tryz.func168 (Zf (Yj (ab 0 (ZR (fun fz gz m F h=>∃(k:Nat) (z:Int),(k<=xs.length)/\(0<=z)/\(z+((Xg (Z3 v) (k*2) (xs.drop k)).length:Nat)=q+((Xg (Z3 v) 0 xs).length:Nat))/\(X6 M (Xg (Z3 v) (k*2) (xs.drop k)) z)/\F=sF [0] fz [(1,.i z),(5,.i k)]/\h=gz/\m=xs.length-k) _ _ _ ⟨0,q,ob,ob,(by simp),(by simpa using hh),rfl,rfl,rfl⟩ (wk [0] (fr (ZT fl))) ?_))))
 rintro m F h ⟨k,z,ZX,Z9,Zz,Y5,rfl,rfl,rfl⟩
 refine Y8 2 (Zg (Kd S v xs.length hd) (ZN ((k:Int)<(xs.length:Int)) (fun Z5=>?_) (fun Z5=>?_)))
 ·have hb:=hd.blk (i:=k) om
  obtain ⟨x1,Z2⟩:=Zv xs k om
  have e1:=Iq hs Z2
  rw [Vf] at e1
  rw [PX] at e1
  have hz:SizeOf.sizeOf x1.steps<SizeOf.sizeOf xs:=Nw Z2
  obtain ⟨⟨⟨a0,d0⟩,s0⟩,i1⟩:=e1
  have hdr:=Ll (g:=Z3 v) Z2
  have hln:=Hw (g:=Z3 v) (o:=k*2) (b:=x1)
  have hl0:=Yp List.length hdr
  rw [Yz,hln] at hl0
  rw [hdr] at Y5
  obtain ⟨hA,hR⟩:=(K8 _ _ _ _).1 Y5
  obtain ⟨h0,h1⟩:=Z48 hA
  refine ak (aq (ab 1 (ZM 2 (Zg (WG S v xs.length k 2 (k:Int) hd) (Z1 1 (Xu (VS 0 S M (Z3 v) (k*2) x1.sv hb.1 a0) (Z1 1 (ZC [0] (ih S M x1.sv x1.steps z ob ob ob ob ob) (Z0 (Yq (ZN ((z+((Yf (Z3 x1.sv) 0 x1.steps).length:Nat))<0) (fun Zd=>?_) (fun Zd=>?_))))))))))))
  ·exact ar (Z7 (r2 [0] [.i (-1)] ⟨rfl,rfl⟩ li))
  refine ak (Y8 2 (Zg (WG S v xs.length k 2 (k:Int) hd) (Z1 1 (Xu (VS 0 S M (Z3 v) (k*2+1) (.int .i64 (z+((Yf (Z3 x1.sv) 0 x1.steps).length:Nat))) hb.1 h1) (Yt ((z+((Yf (Z3 x1.sv) 0 x1.steps).length:Nat)) != (z+((Yf (Z3 x1.sv) 0 x1.steps).length:Nat))) ZO (fun Zw=>?_) (fun Zw=>?_))))))
  ·exact ar (Z7 (r2 [0] [.i (-1)] ⟨rfl,rfl⟩ li))
  exact ak (az (Z1 1 (ia (((z+((Yf (Z3 x1.sv) 0 x1.steps).length:Nat))+1)) (((z+((Yf (Z3 x1.sv) 0 x1.steps).length:Nat)))+(1)) (Z0 (az (Z1 1 (ZK k (Z0 (ZJ ⟨k+1,((z+((Yf (Z3 x1.sv) 0 x1.steps).length:Nat))+1),ob,ob,ob,(CM hR om),rfl,rfl,rfl⟩ (wk [0] (fr (ZL k fl))))))))))))
 have he:(Xg (Z3 v) (k*2) (xs.drop k))=[]:=by rw [QP om,Xg]
 rw [he,Vt] at Zz
 exact ax 0 (ar (Z7 (r2 [0] [.i z] ⟨rfl,rfl⟩ li)))
theorem Z47 (n:Nat):(∀(S:List Nat) (M:Yl) (v:Value) (xs:List ZU) (q:Int),(SizeOf.sizeOf xs<n)->(Wi S v xs.length)->(Vs M S (Z3 v) 0 xs)->(X6 M (Yf (Z3 v) 0 xs) q)->(0<=q/\q+((Yf (Z3 v) 0 xs).length:Nat)<=4000000000000)->Za 111 [.val v,.i q] [.own S M] (fun r h=>r=.i (q+((Yf (Z3 v) 0 xs).length:Nat))/\h=[.own S M]))/\(∀(S:List Nat) (M:Yl) (v:Value) (xs:List ZS) (q:Int),(SizeOf.sizeOf xs<n)->(Wi S v xs.length)->(U5 M S (Z3 v) 0 xs)->(X6 M (Xg (Z3 v) 0 xs) q)->(0<=q/\q+((Xg (Z3 v) 0 xs).length:Nat)<=4000000000000)->Za 168 [.val v,.i q] [.own S M] (fun r h=>r=.i (q+((Xg (Z3 v) 0 xs).length:Nat))/\h=[.own S M])):=by
 induction n with
 | zero=>exact ⟨fun _ _ _ _ _ h=>by omega,fun _ _ _ _ _ h=>by omega⟩
 | succ n ih=>
  obtain ⟨i1,i2⟩:=ih
  exact ⟨fun S M v xs q hz h3 h4 h5 h9=>Z46 S M v xs q (fun S M v ys q hz2 h3 h4 h5 h9=>i2 S M v ys q om h3 h4 h5 h9) h3 h4 h5 h9,fun S M v xs q hz h3 h4 h5 h9=>Z40 S M v xs q (fun S M v ys q hz2 h3 h4 h5 h9=>i1 S M v ys q om h3 h4 h5 h9) h3 h4 h5 h9⟩
theorem Z45 (S:List Nat) (M:Yl) (v:Value) (xs:List ZU) (q:Int) (hd:Wi S v xs.length:=by exact ob) (hs:Vs M S (Z3 v) 0 xs:=by exact ob) (hh:X6 M (Yf (Z3 v) 0 xs) q:=by exact ob) (hq:0<=q/\q+((Yf (Z3 v) 0 xs).length:Nat)<=4000000000000:=by exact ob):Za 111 [.val v,.i q] [.own S M] (fun r h=>r=.i (q+((Yf (Z3 v) 0 xs).length:Nat))/\h=[.own S M]):=(Z47 (SizeOf.sizeOf xs+1)).1 S M v xs q om hd hs hh hq
theorem Z44 (S:List Nat) (M:Yl) (v:Value) (xs:List YN) (q:Int) (hd:Wi S v xs.length:=by exact ob) (hs:J8 M S (Z3 v) 0 xs:=by exact ob) (hh:X6 M (WK (Z3 v) 0 xs) q:=by exact ob) (hq:0<=q/\q+((WK (Z3 v) 0 xs).length:Nat)<=4000000000000:=by exact ob):Za 56 [.val v,.i q] [.own S M] (fun r h=>r=.i (q+((WK (Z3 v) 0 xs).length:Nat))/\h=[.own S M]):=by
 have hal:=FM (g:=Z3 v) (o:=0) (xs:=xs)
 refine Zx 60 Tryz.func56 (Zf (Yj (ab 0 (ZR (fun fz gz m F h=>∃(k:Nat) (z:Int),(k<=xs.length)/\(0<=z)/\(z+((WK (Z3 v) (k*5) (xs.drop k)).length:Nat)=q+((WK (Z3 v) 0 xs).length:Nat))/\(X6 M (WK (Z3 v) (k*5) (xs.drop k)) z)/\F=sF [0] fz [(1,.i z),(5,.i k)]/\h=gz/\m=xs.length-k) _ _ _ ⟨0,q,ob,ob,(by simp),(by simpa using hh),rfl,rfl,rfl⟩ (wk [0] (fr (ZT fl))) ?_))))
 rintro m F h ⟨k,z,ZX,Z9,Zz,Y5,rfl,rfl,rfl⟩
 refine Y8 2 (Zg (Kd S v xs.length hd) (ZN ((k:Int)<(xs.length:Int)) (fun Z5=>?_) (fun Z5=>?_)))
 ·have hb:=hd.blk (i:=k) om
  obtain ⟨x1,Z2⟩:=Zv xs k om
  have e1:=Ix hs Z2
  rw [Vf] at e1
  obtain ⟨⟨⟨a0,d0⟩,s0⟩,⟨⟨a1,d1⟩,s1⟩,i2,⟨⟨a3,d3⟩,s3⟩,i4⟩:=e1
  have hdr:=LA (g:=Z3 v) Z2
  have hln:=EH (g:=Z3 v) (o:=k*5) (r:=x1)
  have hl0:=Yp List.length hdr
  rw [Yz,hln] at hl0
  rw [hdr] at Y5
  obtain ⟨hA,hR⟩:=(K8 _ _ _ _).1 Y5
  obtain ⟨h0,h1,h2,h3,h4⟩:=Z4a hA
  refine ak (aq (ab 1 (ZM 2 (Zg (WG S v xs.length k 5 (k:Int) hd) (Z1 1 (Xu (VS 0 S M (Z3 v) (k*5) x1.pv hb.1 a0) (Z1 1 (ZC [0] (Ek S M x1.pv x1.params z) (Z0 (Yq (ZN ((z+((ZA (Z3 x1.pv) 0 x1.params.length).length:Nat))<0) (fun Zd=>?_) (fun Zd=>?_))))))))))))
  ·exact ar (Z7 (r2 [0] [.i (-1)] ⟨rfl,rfl⟩ li))
  refine ak (ZM 2 (Zg (WG S v xs.length k 5 (k:Int) hd) (Z1 1 (Xu (VS 0 S M (Z3 v) (k*5+1) x1.lv hb.1 a1) (Z1 1 (ZC [0] (Ek S M x1.lv x1.lent (z+((ZA (Z3 x1.pv) 0 x1.params.length).length:Nat))) (Z0 (Yq (ZN (((z+((ZA (Z3 x1.pv) 0 x1.params.length).length:Nat))+((ZA (Z3 x1.lv) 0 x1.lent.length).length:Nat))<0) (fun Zw=>?_) (fun Zw=>?_))))))))))
  ·exact ar (Z7 (r2 [0] [.i (-1)] ⟨rfl,rfl⟩ li))
  refine ak (Y8 2 (Zg (WG S v xs.length k 5 (k:Int) hd) (Z1 1 (Xu (VS 0 S M (Z3 v) (k*5+2) (.int .i64 ((z+((ZA (Z3 x1.pv) 0 x1.params.length).length:Nat))+((ZA (Z3 x1.lv) 0 x1.lent.length).length:Nat))) hb.1 h2) (Yt (((z+((ZA (Z3 x1.pv) 0 x1.params.length).length:Nat))+((ZA (Z3 x1.lv) 0 x1.lent.length).length:Nat)) != ((z+((ZA (Z3 x1.pv) 0 x1.params.length).length:Nat))+((ZA (Z3 x1.lv) 0 x1.lent.length).length:Nat))) ZO (fun Yd=>?_) (fun Yd=>?_))))))
  ·exact ar (Z7 (r2 [0] [.i (-1)] ⟨rfl,rfl⟩ li))
  refine ak (ZM 1 (ia ((((z+((ZA (Z3 x1.pv) 0 x1.params.length).length:Nat))+((ZA (Z3 x1.lv) 0 x1.lent.length).length:Nat))+1)) ((((z+((ZA (Z3 x1.pv) 0 x1.params.length).length:Nat))+((ZA (Z3 x1.lv) 0 x1.lent.length).length:Nat)))+(1)) (Z0 (ZM 2 (Zg (WG S v xs.length k 5 (k:Int) hd) (Z1 2 (Xu (VS 0 S M (Z3 v) (k*5+3) x1.body.sv hb.1 a3) (Z1 1 (ZC [0] (Z45 S M x1.body.sv x1.body.steps (((z+((ZA (Z3 x1.pv) 0 x1.params.length).length:Nat))+((ZA (Z3 x1.lv) 0 x1.lent.length).length:Nat))+1)) (Z0 (Yq (ZN (((((z+((ZA (Z3 x1.pv) 0 x1.params.length).length:Nat))+((ZA (Z3 x1.lv) 0 x1.lent.length).length:Nat))+1)+((Yf (Z3 x1.body.sv) 0 x1.body.steps).length:Nat))<0) (fun Xm=>?_) (fun Xm=>?_)))))))))))))
  ·exact ar (Z7 (r2 [0] [.i (-1)] ⟨rfl,rfl⟩ li))
  refine ak (Y8 2 (Zg (WG S v xs.length k 5 (k:Int) hd) (Z1 2 (Xu (VS 0 S M (Z3 v) (k*5+4) (.int .i64 ((((z+((ZA (Z3 x1.pv) 0 x1.params.length).length:Nat))+((ZA (Z3 x1.lv) 0 x1.lent.length).length:Nat))+1)+((Yf (Z3 x1.body.sv) 0 x1.body.steps).length:Nat))) hb.1 h4) (Yt (((((z+((ZA (Z3 x1.pv) 0 x1.params.length).length:Nat))+((ZA (Z3 x1.lv) 0 x1.lent.length).length:Nat))+1)+((Yf (Z3 x1.body.sv) 0 x1.body.steps).length:Nat)) != ((((z+((ZA (Z3 x1.pv) 0 x1.params.length).length:Nat))+((ZA (Z3 x1.lv) 0 x1.lent.length).length:Nat))+1)+((Yf (Z3 x1.body.sv) 0 x1.body.steps).length:Nat))) ZO (fun Wc=>?_) (fun Wc=>?_))))))
  ·exact ar (Z7 (r2 [0] [.i (-1)] ⟨rfl,rfl⟩ li))
  exact ak (az (Z1 1 (ia ((((((z+((ZA (Z3 x1.pv) 0 x1.params.length).length:Nat))+((ZA (Z3 x1.lv) 0 x1.lent.length).length:Nat))+1)+((Yf (Z3 x1.body.sv) 0 x1.body.steps).length:Nat))+1)) ((((((z+((ZA (Z3 x1.pv) 0 x1.params.length).length:Nat))+((ZA (Z3 x1.lv) 0 x1.lent.length).length:Nat))+1)+((Yf (Z3 x1.body.sv) 0 x1.body.steps).length:Nat)))+(1)) (Z0 (az (Z1 1 (ZK k (Z0 (ZJ ⟨k+1,(((((z+((ZA (Z3 x1.pv) 0 x1.params.length).length:Nat))+((ZA (Z3 x1.lv) 0 x1.lent.length).length:Nat))+1)+((Yf (Z3 x1.body.sv) 0 x1.body.steps).length:Nat))+1),ob,ob,ob,(CM hR om),rfl,rfl,rfl⟩ (wk [0] (fr (ZL k fl))))))))))))
 have he:(WK (Z3 v) (k*5) (xs.drop k))=[]:=by rw [QP om];rfl
 rw [he,Vt] at Zz
 exact ax 0 (ar (Z7 (r2 [0] [.i z] ⟨rfl,rfl⟩ li)))
theorem Z43 (S:List Nat) (M:Yl) (y:X4) (q:Int) (hs:Q6 M S y) (hl:∀d∈y.decls,d.cons.length<=4000000000000) (hh:X6 M (W5 y) q) (hq:0<=q/\q+((W5 y).length:Nat)<=4000000000000):Za 23 [.agg [.val y.dv,.val y.rv],.i q] [.own S M] (fun r h=>r=.i (q+((W5 y).length:Nat))/\h=[.own S M]):=by
 obtain ⟨⟨d0,s0⟩,⟨d1,s1⟩⟩:=hs
 have hln:=Hx (y:=y)
 obtain ⟨h0,h1⟩:=(K8 _ _ _ _).1 (show X6 M (_++_) q from hh)
 refine Zx 18 Tryz.func23 (ar (iA [.val y.dv,.val y.rv] fun b1=>Z0 (ZB 3 [0] (ZC [1] (Z42 S M y.dv y.decls q (hl:=ob)) (Z0 (Yq (ZN ((q+((Wj (Z3 y.dv) 0 y.decls).length:Nat))<0) (fun Z5=>?_) (fun Z5=>?_))))))))
 ·exact ar (Z7 (r2 [0] [.i (-1)] ⟨rfl,rfl⟩ li))
 refine ak (ZB 3 [1] (ZC [0] (Z44 S M y.rv y.routines (q+((Wj (Z3 y.dv) 0 y.decls).length:Nat))) (Z0 (Yq (ZN (((q+((Wj (Z3 y.dv) 0 y.decls).length:Nat))+((WK (Z3 y.rv) 0 y.routines).length:Nat))<0) (fun Zd=>?_) (fun Zd=>?_))))))
 ·exact ar (Z7 (r2 [0] [.i (-1)] ⟨rfl,rfl⟩ li))
 exact ak (ar (Z7 (r2 [0] [.i ((q+((Wj (Z3 y.dv) 0 y.decls).length:Nat))+((WK (Z3 y.rv) 0 y.routines).length:Nat))] ⟨rfl,rfl⟩ li)))
theorem PZ {m m':Yl} {B:List Nat} {y:X4} (k:Kp m m') (h:Q6 m B y):Q6 m' B y:=⟨⟨h.1.1,PY k h.1.2⟩,⟨h.2.1,Iy k h.2.2⟩⟩
theorem Ly {m:Yl} {B:List Nat} {y:X4} (h:Q6 m B y):∀a∈W5 y,Va m a:=fun a ha=>(Yv.1 ha).elim (FL h.1.2 a) (LB h.2.2 a)
theorem Zdi (x:Zl) (hl:Wk x<=1000000000):Za 17 [X3 x] [] (fun r h=>∃(y:X4) (S:List Nat) (M:Yl),r=av y/\h=[.own S M]/\(y.er=x/\Q6 M S y/\(W5 y).Nodup/\JZ S M y)):=(Ba x hl).thaw
theorem OC (S:List Nat) (M:Yl) (y:X4) (q:Int) (hs:Q6 M S y) (hl:∀d∈y.decls,d.cons.length<=4000000000000) (hq:0<=q/\q+((W5 y).length:Nat)<=4000000000000):Za 22 [av y,.i q] [.own S M] (fun r h=>r=.i (q+((W5 y).length:Nat))/\h=[.own S (wr M (W5 y) q)]):=by
 rw [Cl (BI hs)]
 exact Z7y S M y q hs hl hq
theorem Nu (S:List Nat) (M:Yl) (y:X4) (q:Int) (hs:Q6 M S y) (hl:∀d∈y.decls,d.cons.length<=4000000000000) (hh:X6 M (W5 y) q) (hq:0<=q/\q+((W5 y).length:Nat)<=4000000000000):Za 23 [av y,.i q] [.own S M] (fun r h=>r=.i (q+((W5 y).length:Nat))/\h=[.own S M]):=by
 rw [Cl (BI hs)]
 exact Z43 S M y q hs hl hh hq
theorem PR {S:List Nat} {M:Yl}:∀r∈[Res.own S M],∃B m,r=.own B m:=fun _ hr=>⟨S,M,YH.1 hr⟩
theorem GP (y:X4) (x:Zl) (S:List Nat) (M:Yl) (he:y.er=x) (hrp:JZ S M y) (hl:Wk x<=1000000000):Za 19 [av y,X3 x] [.own S M] (fun r h=>r=.b true/\h=[.own S M]):=by
 subst he
 have h1:Za 19 [VE y,X3 y.er] [] _:=(Hq y.er hl).args_le (.cons (KW y) (.cons (Zk.refl _) .nil))
 refine (h1.lendO [.own S M] (.lent (YH.2 rfl) hrp (.same .nil)) PR ?_).mono ?_
 ·rintro r h ⟨rfl,rfl⟩;exact ⟨.val,fun q hq=>by cases hq⟩
 ·rintro r h ⟨h1,⟨rfl,rfl⟩,rfl⟩;exact ⟨rfl,rfl⟩
theorem Z3b (y z:X4) (S:List Nat) (M:Yl) (he:y.er=z.er) (hrp:JZ S M y) (hl:Wk z.er<=1000000000):Za 19 [av y,VE z] [.own S M] (fun r h=>r=.b true/\h=[.own S M]):=
 (GP y z.er S M he hrp hl).args_le (.cons (Zk.refl _) (.cons (KW z) .nil))
theorem Z3a (z:X4) (x:Zl) (he:z.er=x) (hl:Wk x<=1000000000):Za 19 [VE z,X3 x] [] (ZP (.b true)):=by
 subst he
 exact (Hq z.er hl).args_le (.cons (KW z) (.cons (Zk.refl _) .nil))
theorem Zbj (z:X4) (n:Zl) (he:z.er=n) (hz:WI n):Za 20 [VE z] [] (ZP (.tup [X3 ((XI n).1),.b ((XI n).2)])):=by
 subst he
 have h1:Za 20 [VE z] [] _:=(Zb5 z.er hz).args_le (.cons (KW z) .nil)
 exact h1
theorem NJ (z:X4) (n:Zl) (he:z.er=n) (hz:WI n) (hr:∀r∈n.routines,r.body.rng):Za 21 [VE z] [] (fun r h=>∃(y:X4),r=.tup [VE y,.b ((XI n).2)]/\h=[.many (Xe y)]/\y.er=(XI n).1):=by
 subst he
 exact (NB z.er hz hr).args_le (.cons (KW z) .nil)
theorem Z5i (z:X4) (n:Zl) (S:List Nat) (M:Yl) (he:z.er=n) (hz:WI n) (hr:∀r∈n.routines,r.body.rng) (hrp:JZ S M z):Za 21 [av z] [.own S M] (fun r h=>∃(y:X4) (S2:List Nat) (M2:Yl),r=.tup [av y,.b ((XI n).2)]/\h=[.own S2 M2,.own S M]/\(y.er=(XI n).1/\Q6 M2 S2 y/\(W5 y).Nodup/\JZ S2 M2 y)):=by
 refine ((NJ z n he hz hr).thaw2.lendO [.own S M] (.lent (YH.2 rfl) hrp .nil) PR ?_).mono ?_
 ·rintro r h ⟨y,S2,M2,rfl,rfl,_⟩
  refine ⟨.tup fun q hq=>?_,fun q hq=>by rw [YH.1 hq];trivial⟩
  rcases Yw.1 hq with rfl|hq
  ·exact .agg fun q hq=>by
    rcases Yw.1 hq with rfl|hq
    ·exact .val
    ·rw [YH.1 hq];exact .val
  ·rw [YH.1 hq];exact .val
 ·rintro r h ⟨h1,⟨y,S2,M2,rfl,rfl,hp⟩,rfl⟩;exact ⟨y,S2,M2,rfl,rfl,hp⟩
theorem Z6t (n:Zl) (hl:Wk n<=9223372036854775807) (hr:∀r∈n.routines,r.body.rng):Za 6 [X3 n] [] (ZP (.b true)):=by
 refine Zx 96 Tryz.func6 (ar (iA (W8 n) fun b1=>Z0 (Zf (ZB 2 [0] (ZC [] (Of n 1048576 ob ob) (Z0 (Yq (ZN ((Y4 (Wk n) 1048576)<0) (fun Z5=>?_) (fun Z5=>?_)))))))))
 ·exact ar (Z7 (T9))
 have YD:Wk n<=1048576:=by unfold Y4 at Z5;split at Z5<;>omega
 have hz:=OQ (n:=n) om
 have hxc:=Z0w hz
 refine ak (ZB 1 [0] (ic [] (Ba n ob) ?_))
 rintro _ _ ⟨y1,rfl,rfl,Ya⟩
 have hnhp1:Wk y1.er<=1000000000:=by rw [Ya];omega
 refine ZC [] (Zbj y1 n ob ob) (Z1 3 (iA [nl,nl] fun b2=>Y0 0 b2 (W8 ((XI n).1)) (Z0 (ZB 1 [2] (ic [] (Zdi n ob) ?_)))))
 rintro _ _ ⟨y2,S1,M1,rfl,rfl,YT⟩
 obtain ⟨ho1,ho2,ho3,ho4⟩:=YT
 have ho5:=Lx y2
 have ho6:=Mz (y:=y2)
 rw [ho1] at ho5 ho6
 have ho7:∀d∈y2.decls,d.cons.length<=4000000000000:=fun d hd=>by have:=ho6 d hd;omega
 refine iA [nl,nl] fun b3=>Y0 0 b3 [.val ((KF y2.dv).v),.val ((KF y2.rv).v)] (ie (ZB 1 [0] (ic [1] (Z5i y2 n S1 M1 ob ob ob ob) ?_)))
 rintro _ _ ⟨y3,S21,M21,rfl,rfl,Xy⟩
 obtain ⟨hg1,hg2,hg3,hg4⟩:=Xy
 have hg5:=Lx y3
 have hg6:=Mz (y:=y3)
 rw [hg1] at hg5 hg6
 have hg7:∀d∈y3.decls,d.cons.length<=4000000000000:=fun d hd=>by have:=hg6 d hd;omega
 refine Z1 3 (iA [nl,nl] fun b4=>Y0 0 b4 [.val ((KF y3.dv).v),.val ((KF y3.rv).v)] (Z0 (Ym 2 [0,4] (ZC [1] (GP y3 ((XI n).1) S21 M21 ob ob ob) (Z1 4 (Zg (Hp ((XI n).2) ((XI n).2)) (Yt (((XI n).2) != ((XI n).2)) ZO (fun Zd=>?_) (fun Zd=>?_))))))))
 ·exact ar (Z7 (Zp (.b false) (lb (absurd rfl Zd))))
 refine ak (aq (aD 5 (Y7 3 5 [0,1] [3,6] (ZF 2 (dc 2 [] [1] [b3] (Ba n ob) ?_)))))
 rintro _ _ ⟨y4,rfl,rfl,XE⟩
 have hnhp4:Wk y4.er<=1000000000:=by rw [XE];omega
 refine ZF 3 (XY 3 [3] [] [] (Z3b y2 y4 S1 M1 (by rw [ho1];symm;assumption) ob ob) (Zo 0 1 [4] (de (XC (ak (Zf (ZB 2 [4] (ZC [0] (OC S1 M1 y2 1 ob ob ob) (Z0 (Yq (Xz 8 [1,4,5,7,8] [(56,.b (decide (((1:Int)+((W5 y2).length:Nat))<0)))] (fun gz=>gz) ?_ (fun hj1=>?_))))))))))))
 ·refine W7 [1,4,5,7] [(61,.b ((decide (((1:Int)+((W5 y2).length:Nat))<0))||(((XI n).2) != ((XI n).2))))] (fun gz=>gz) ?_ ?_
  ·refine Z1 1 (ib (b:=(decide (((1:Int)+((W5 y2).length:Nat))<0))) 57 (fun Zc=>?_) (fun Zc=>?_))
   ·have VO:((1:Int)+((W5 y2).length:Nat))<0:=(dq).1 Zc
    exact Z0 (Y1 8 (Zq true Zc fl))
   have Up:¬(((1:Int)+((W5 y2).length:Nat))<0):=ZZ dq Zc
   exact Z1 2 (Zg (Hp ((XI n).2) ((XI n).2)) (Z0 (Y1 8 (Zq (((XI n).2) != ((XI n).2)) Zc fl))))
  refine ac ((decide (((1:Int)+((W5 y2).length:Nat))<0))||(((XI n).2) != ((XI n).2))) (p:=(((1:Int)+((W5 y2).length:Nat))<0)∨(((XI n).2)≠((XI n).2))) (Yg dq ZO) (fun Zw=>?_) (fun Zw=>?_)
  ·exact ar (Z7 (Zp (.b false) (lb (Zw.elim (fun q=>by omega) fun q=>absurd rfl q))))
  refine ak (Zf (ZB 2 [3] (ZC [2] (OC S21 M21 y3 1 ob ob ob) (Z0 (Zf (ZB 2 [3] (ZC [0] (Nu S21 (wr M21 (W5 y3) 1) y3 1 (PZ ((Kp.refl _).wr (Ly hg2) 1) hg2) ob (Hb _ _ _ hg3) ob) (Z0 (Yq (ZN (((1:Int)+((W5 y3).length:Nat))<0) (fun Yd=>?_) (fun Yd=>?_)))))))))))
  ·exact ar (Z7 (Zp (.b false) lb))
  refine ak (Yq (Yt (((1:Int)+((W5 y3).length:Nat)) != ((1:Int)+((W5 y3).length:Nat))) ZO (fun Xm=>?_) (fun Xm=>?_)))
  ·exact ar (Z7 (Zp (.b false) lb))
  refine ak (ZB 1 [7] (ic [] (Ba n ob) ?_))
  rintro _ _ ⟨y5,rfl,rfl,UW⟩
  have hnhp7:Wk y5.er<=1000000000:=by rw [UW];omega
  refine ic [] (NJ y5 n ob ob ob) ?_
  rintro _ _ ⟨y6,rfl,rfl,Te⟩
  refine Z1 3 (iA [nl,nl] fun b5=>Y0 0 b5 (BS y6) (Z0 (Ym 2 [0,8] (ZC [] (Z3a y6 ((XI n).1) ob ob) (Z1 4 (Zg (Hp ((XI n).2) ((XI n).2)) (Yt (((XI n).2) != ((XI n).2)) ZO (fun Wc=>?_) (fun Wc=>?_))))))))
  ·exact ar (Z7 (Zp (.b false) (lb (absurd rfl Wc))))
  refine ak (Zf (ZB 2 [6] (ZC [3] (Nu S21 (wr M21 (W5 y3) 1) y3 1 (PZ ((Kp.refl _).wr (Ly hg2) 1) hg2) ob (Hb _ _ _ hg3) ob) (Z0 (Yq (ZN (((1:Int)+((W5 y3).length:Nat))<0) (fun UV=>?_) (fun UV=>?_)))))))
  ·exact ar (Z7 (Zp (.b false) lb))
  refine ak (Yq (Yt (((1:Int)+((W5 y3).length:Nat)) != ((1:Int)+((W5 y3).length:Nat))) ZO (fun Vy=>?_) (fun Vy=>?_)))
  ·exact ar (Z7 (Zp (.b false) lb))
  exact ak (ar (Z7 (T9)))
 refine Z1 3 (ib (b:=(decide (((1:Int)+((W5 y2).length:Nat))<0))) 51 (fun ZD=>?_) (fun ZD=>?_))
 ·have Qk:((1:Int)+((W5 y2).length:Nat))<0:=(dq).1 ZD
  exact Z1 5 (Yb (Y1 8 (fc (x:=.b true) (lb ZD.symm) fl)) hj1)
 have K9:¬(((1:Int)+((W5 y2).length:Nat))<0):=ZZ dq ZD
 exact Y3 2 [3,5] (ZC [2] (GP y3 ((XI n).1) S21 M21 ob ob ob) (Z1 2 (Yb (wk [1,1,0,0,0,0,0,0] (fc (x:=.b false) (lb ZD.symm) fl)) hj1)))


section
variable {ds:List Zm} {nf m d z:Nat} {xs:List Z8}
end
section
variable {ds:List Zm} {nf m d z:Nat} {xs:List Z8}
end
section
variable {ds:List Zm} {nf m z:Nat} {sc:Nat->Nat}
end

section
variable {ds:List Zm} {nf:Nat}
end
section
variable {ds:List Zm}
theorem IJ:∀{xs:List Z8},VV xs↔∀s∈xs,s.rng
 | []=>by simp [VV]
 | s::r=>by rw [VV,IJ];simp
end

section
variable {n n2:Zl} (hd:n2.decls=n.decls) (hr:∀vars op num args,Uu n2 vars op num args=Uu n vars op num args)
include hd hr
end
theorem Pv {n:Zl}:∀{l:List YB},(∀r∈l,¬UH r.body<0/\Ys n r.params r.body=r.result)->Tu n l=true
 | [],_=>by rw [Tu]
 | r::rs,h=>by rw [Tu,Z6 (h r (YV ..))];exact Pv fun q hq=>h q (Xv _ hq)
section
variable {n:Zl}
end
noncomputable instance decBlock:DecidableEq Zh:=fun a b=>Classical.propDecidable (a=b)
noncomputable instance decStep:DecidableEq Z8:=fun a b=>Classical.propDecidable (a=b)
noncomputable instance decDecls:DecidableEq Zm:=fun a b=>Classical.propDecidable (a=b)
noncomputable instance decNormal:DecidableEq Zl:=fun a b=>Classical.propDecidable (a=b)

mutual
def kS:Z8->Nat
 | .mk op _ _ _ kids=>(if YU op=true then 1 else 0)+O1 kids
def kB:Zh->Nat
 | .mk steps _=>O5 steps
def O5:List Z8->Nat
 | []=>0
 | s::r=>kS s+O5 r
def O1:List Zh->Nat
 | []=>0
 | b::r=>kB b+O1 r
end
section
variable {ds:List Zm}
end
section
variable {ds:List Zm}
end
section
variable {n:Zl}
end
section
variable {ds:List Zm}
end
section
variable {ds:List Zm}
end
section
variable {ds:List Zm}
end


end Go.Abs
section
namespace Go.Abs
section
variable {n n2:Zl} (hd:n2.decls=n.decls) (hr:∀vars op num args,Uu n2 vars op num args=Uu n vars op num args) (hl:∀op num,JE n2 op num=JE n op num)
include hd hr hl
omit hd hr in
omit hd hr in
omit hr in
end
end Go.Abs
namespace Go.Abs
end Go.Abs
end
namespace Go.Abs
section
variable {ds:List Zm}
end
section
variable {n:Zl}
theorem RL {us:LI} {op x:Int} (h:op=14∨op=15):ZQ n us (XW op x)=(match YK us x with|some t=>if t=0 then -1 else 0|none=>-1):=by
 rw [XW,ZQ]
 have hv:Vl us op 0=true:=by simp [Vl]
 rw [Z4 (by rw [hv];simp),Z4 om,Z4 om,Z4 om,Z4 om,Z4 om,Z4 om,Z4 om,Z4 om,Z6 om,Ty]
 cases YK us x with
 | none=>rfl
 | some t=>
  show (if t=0 then (-1:Int) else if (op≠14/\op≠15)/\XK n.decls t=true then -1 else 0)=if t=0 then -1 else 0
  split
  ·rfl
  ·rw [Z4 om]
theorem Zdr {us:LI} {op x:Int} (h:op=14∨op=15) (g:0<=ZQ n us (XW op x)):∃t,YK us x=some t/\t≠0:=by
 rw [RL h] at g
 cases ha:YK us x with
 | none=>rw [ha] at g;exact absurd g (show ¬(0:Int)<=-1 by decide)
 | some t=>
  rw [ha] at g
  refine ⟨t,rfl,fun e=>?_⟩
  subst e
  exact absurd g (show ¬(0:Int)<=(if (0:Int)=0 then -1 else 0) by decide)
theorem RM {us:LI} {op x t:Int} (h:op=14∨op=15) (ha:YK us x=some t) (h0:t≠0):ZQ n us (XW op x)=0:=by
 rw [RL h,ha]
 show (if t=0 then (-1:Int) else 0)=0
 rw [Z4 h0]
theorem Z16 {op:Int} (h:op=14∨op=15):Xx op=false:=by rcases h with rfl|rfl<;>rfl
end
section
variable {ds:List Zm}
end

def Zb.wo (L:Zb) (o:LI):Zb:=⟨L.vars,o,L.par,L.con,L.fst,L.tok⟩
section
variable {n:Zl} {ln:LI}
end

section
variable {ds:List Zm}
theorem Zc4 {xs ys:List Z8} (h:VV xs) (g:VV ys):VV (xs++ys):=by
 rw [IJ] at h g ⊢
 intro s hs
 rcases Yv.1 hs with hs|hs
 ·exact h s hs
 ·exact g s hs
end
theorem Z06 {n:Zl} (hb:VX n=true):XT n=true:=by rw [VX,Xs] at hb;exact hb.1
theorem Z0p (bs:List Zh):(UL bs).length=bs.length:=by rw [DN,Uh]
theorem Z0s {n:Zl}:∀vars op num args,Uu (Wn n) vars op num args=Uu n vars op num args:=by
 intro vars op num args
 unfold Uu Wn
 dsimp only
 have e:YK (n.routines.map VZ) num=(YK n.routines num).map VZ:=by
  unfold YK
  rw [Uh]
  split
  ·rw [Th]
  ·rfl
 rw [e]
 cases YK n.routines num with
 | none=>rfl
 | some r=>rfl
def D1 (us:LI) (L:List (Int × Int)):Prop:=∀p∈L,∃t,YK us p.1=some t/\t≠0
section
variable {n:Zl}
theorem Zds {us:LI} {s:Z8} (hw:wS n.decls s) (hp:s.op=14∨s.op=15) (h:0<=ZQ n us s):∃t,YK us (ev s).1=some t/\t≠0:=by
 obtain ⟨_,hk,a,ha⟩:=Bb hw (by simp [YU];omega)
 have hc:=((L5 s).1 hw).2.1 (by simp [YU];omega)
 have e:s=XW s.op a:=by
  cases s with
  | mk op num into args kids=>
   simp only [Z8.num,Z8.into,Z8.kids,Z8.args] at hc hk ha
   rw [hc.1,hc.2.1,ha,hk];rfl
 rw [e] at h
 have:=Zdr hp h
 show ∃t,YK us (gI s.args 0)=some t/\t≠0
 rw [ha];exact this
theorem D1.snoc {us:LI} {L:List (Int × Int)} {s:Z8} (hL:D1 us L) (h:∃t,YK us (ev s).1=some t/\t≠0):D1 us (L++[ev s]):=fun p hp=>by
 rcases Yv.1 hp with hp|hp
 ·exact hL p hp
 ·rw [YH.1 hp];exact h
theorem Z2c {L:List (Int × Int)} {vs:LI} {v:Int} (h:v∈UD L vs):v∈vs:=by
 rw [UD,Cc] at h
 obtain ⟨x,hx,hv⟩:=h
 rw [C9 hv];exact hx
theorem Z2b {L:List (Int × Int)} {vs:LI} {v:Int} (h:v∈Tm L vs):v∈vs:=by
 rw [Tm,Cc] at h
 obtain ⟨x,hx,hv⟩:=h
 rw [C9 hv];exact hx
theorem PU {n2:Zl} {us:LI} {L:List (Int × Int)} (h:D1 us L):∀s∈Ve L,0<=ZQ n2 us s/\Xx s.op=false:=by
 intro s hs
 rw [Ve,Yv] at hs
 rcases hs with hs|hs
 ·obtain ⟨v,hv,rfl⟩:=Xb.1 hs
  obtain ⟨p,hp,e⟩:=CU.1 (Z2c hv)
  obtain ⟨t,h1,h2⟩:=h p hp
  rw [e] at h1
  exact ⟨by rw [RM (.inl rfl) h1 h2];exact Int.le_refl _,rfl⟩
 ·obtain ⟨v,hv,rfl⟩:=Xb.1 hs
  obtain ⟨p,hp,e⟩:=CU.1 (Z2b hv)
  obtain ⟨t,h1,h2⟩:=h p hp
  rw [e] at h1
  exact ⟨by rw [RM (.inr rfl) h1 h2];exact Int.le_refl _,rfl⟩
theorem IY {n2:Zl} {us:LI}:∀{l r:List Z8},(∀s∈l,0<=ZQ n2 us s/\Xx s.op=false)->Xr n2 (l++r) us=Xr n2 r us
 | [],r,_=>rfl
 | s::l,r,h=>by
  have h1:=h s (YV ..)
  rw [Ko,Xr,Z4 om,h1.2,Z4 (by decide)]
  exact IY fun t ht=>h t (Xv _ ht)
mutual
theorem Z0v:∀(s:Z8) {us:LI},wS n.decls s->0<=ZQ n us s->ZQ (Wn n) us (TR s)=ZQ n us s
 | .mk op num into args kids,us,hc,h=>by
  have hd:(Wn n).decls=n.decls:=rfl
  have hrt:=Z0s (n:=n) us op num args
  have hl:=Z0p kids
  have hv:Vl us op 0=true:=by simp [Vl]
  rw [wS] at hc
  have hk:=fun (ms:List LI) (f:Bool) (t:Int) (hh:0<=XL n us kids ms f t)=>Me kids (us:=us) (ms:=ms) (f:=f) (t:=t) hc.2.2.2 hh
  rw [ZQ] at h ⊢
  rw [TR,ZQ,hd,hrt,hl]
  split at h
  ·omega
  ·rename_i h1
   rw [Z4 h1,Z4 h1]
   by_cases g0:op=0
   ·simp only [Z6 g0]
   simp only [Z4 g0] at h ⊢
   by_cases g1:op=1∨op=2∨op=3∨op=4
   ·simp only [Z6 g1]
   simp only [Z4 g1] at h ⊢
   by_cases g5:op=5
   ·simp only [Z6 g5]
   simp only [Z4 g5] at h ⊢
   by_cases g6:op=6
   ·simp only [Z6 g6]
   simp only [Z4 g6] at h ⊢
   by_cases g7:op=7
   ·simp only [Z6 g7] at h ⊢
    by_cases q1:XA us args [0]=true
    ·simp only [Z6 q1] at h ⊢
     by_cases q2:(YF n.decls op num).length=0∨kids.length≠(YF n.decls op num).length
     ·simp only [Z6 q2]
     ·simp only [Z4 q2] at h ⊢
      exact hk _ _ _ h
    ·simp only [Z4 q1]
   simp only [Z4 g7] at h ⊢
   by_cases g8:op=8
   ·simp only [Z6 g8] at h ⊢
    by_cases q1:XA us args [num]=true
    ·simp only [Z6 q1] at h ⊢
     by_cases q2:(YF n.decls op num).length=0∨kids.length≠(YF n.decls op num).length
     ·simp only [Z6 q2]
     ·simp only [Z4 q2] at h ⊢
      exact hk _ _ _ h
    ·simp only [Z4 q1]
   simp only [Z4 g8] at h ⊢
theorem Me:∀(bs:List Zh) {us:LI} {ms:List LI} {f:Bool} {t:Int},Ja n.decls bs->0<=XL n us bs ms f t->XL (Wn n) us (UL bs) ms f t=XL n us bs ms f t
 | [],us,ms,f,t,_,h=>by rw [UL,XL,XL]
 | b::r,us,[],f,t,_,h=>by rw [UL,XL,XL]
 | b::r,us,m::ms,f,t,hw,h=>by
  rw [XL] at h ⊢
  split at h
  ·omega
  ·rename_i h1
   have hb:=Md b (us:=us++m) hw.1 om
   rw [Z4 h1,UL,XL,hb,Z4 h1]
   exact Me r hw.2 h
theorem Gh:∀(xs:List Z8) {us vs:LI} {L:List (Int × Int)},KP n.decls xs->D1 us L->Xr n xs us=some vs->Xr (Wn n) (WT xs L) us=some vs
 | [],us,vs,L,_,hL,h=>by
  rw [Xr] at h
  rw [WT]
  have:=IY (n2:=Wn n) (r:=[]) (PU hL)
  rw [AC] at this
  rw [this,Xr];exact h
 | s::r,us,vs,L,hw,hL,h=>by
  rw [Xr] at h
  split at h
  ·cases h
  ·rename_i h1
   rw [WT]
   by_cases hp:s.op=14∨s.op=15
   ·rw [Z6 hp]
    rw [Z16 hp,Z4 (by decide)] at h
    exact Gh r hw.2 (hL.snoc (Zds hw.1 hp om)) h
   ·rw [Z4 hp,IY (PU hL),Xr,Z0v s hw.1 om,Z4 h1,show (TR s).op=s.op by rw [Gf];rfl]
    exact Gh r hw.2 (fun p hp=>by cases hp) h
theorem Md:∀(b:Zh) {us:LI},wB n.decls b->0<=Ys n us b->Ys (Wn n) us (W6 b)=Ys n us b
 | .mk steps result,us,hw,h=>by
  rw [wB] at hw
  rw [Ys] at h ⊢
  cases hs:Xr n steps us with
  | none=>rw [hs] at h;exact absurd h (show ¬(0:Int)<=-1 by decide)
  | some vs=>rw [W6,Ys,Gh steps hw (fun p hp=>by cases hp) hs]
end
end
theorem Hv {op:Int} {r:List Z8}:∀{l:LI} {q:Int},(l.length:Int)<=q->V4 (l.map (XW op)++r) q=V4 r (q-l.length)
 | [],q,_=>by simp
 | v::l,q,h=>by
  rw [XF] at h
  rw [Wy,Ko,V4,Z4 om]
  have e:Tt (XW op v) (q-1)=q-1:=by rw [XW,Tt,VJ]
  rw [e,Z4 om,Hv om,XF]
  congr 1;omega
theorem Ol {L:List (Int × Int)} {r:List Z8} {q:Int} (hu:Un L) (h:(L.length:Int)<=q):∃q',V4 (Ve L++r) q=V4 r q'/\q-L.length<=q'/\q'<=q:=by
 have hd:=Ct hu
 refine ⟨q-(UD L (YQ L)).length-(Tm L (YQ L)).length,?_,by omega,by omega⟩
 rw [Ve,VW,Hv om,Hv om]
section
variable {ds:List Zm}
mutual
theorem Z7f:∀(s:Z8) {l l':Int},wS ds s->0<=l->l<=l'->0<=Tt s l->Tt s l<=Tt (TR s) l'
 | .mk op num into args kids,l,l',hw,h0,hl,h=>by rw [wS] at hw;rw [Tt] at h ⊢;rw [TR,Tt];exact Ok kids hw.2.2.2 h0 hl h
theorem Oj:∀(b:Zh) {l l':Int},wB ds b->0<=l->l<=l'->0<=XS b l->XS b l<=XS (W6 b) l'
 | .mk steps _,l,l',hw,h0,hl,h=>by rw [wB] at hw;rw [XS] at h ⊢;rw [W6,XS];exact Hu steps (L:=[]) hw Un.nil h0 (by simpa using hl) h
theorem Hu:∀(xs:List Z8) {L:List (Int × Int)} {l l':Int},KP ds xs->Un L->0<=l->l+L.length<=l'->0<=V4 xs l->V4 xs l<=V4 (WT xs L) l'
 | [],L,l,l',_,hu,h0,hl,h=>by
  obtain ⟨q',e,e1,e2⟩:=Ol (r:=[]) (q:=l') hu om
  rw [AC] at e
  rw [WT,e,V4,V4];omega
 | s::r,L,l,l',hw,hu,h0,hl,h=>by
  have e:V4 (s::r) l=(if l<1 then -1 else if Tt s (l-1)<0 then -1 else V4 r (Tt s (l-1))):=by rw [V4]
  rw [e] at h ⊢
  split at h
  ·omega
  ·rename_i h1
   split at h
   ·omega
   ·rename_i h2
    rw [Z4 h1,Z4 h2,WT]
    have h3:=CP.1 s (l-1) om
    split
    ·rename_i hp
     refine Hu r hw.2 (hu.snoc s) om ?_ h
     rw [Yz];simp only [XF,Vt];omega
    ·obtain ⟨q',e1,e2,e3⟩:=Ol (r:=TR s::WT r []) (q:=l') hu om
     rw [e1]
     have h4:=Z7f s (l:=l-1) (l':=q'-1) hw.1 om om om
     rw [V4,Z4 om,Z4 om]
     exact Hu r (L:=[]) hw.2 Un.nil om (by simpa using h4) h
theorem Ok:∀(xs:List Zh) {l l':Int},Ja ds xs->0<=l->l<=l'->0<=VJ xs l->VJ xs l<=VJ (UL xs) l'
 | [],l,l',_,h0,hl,h=>by rw [VJ,UL,VJ];exact hl
 | b::r,l,l',hw,h0,hl,h=>by
  have e:VJ (b::r) l=(if XS b l<0 then -1 else VJ r (XS b l)):=by rw [VJ]
  rw [e] at h ⊢
  split at h
  ·omega
  ·rename_i h2
   rw [Z4 h2,UL]
   have h4:=Oj b hw.1 h0 hl om
   rw [VJ,Z4 om]
   exact Ok r hw.2 om h4 h
end
end
theorem Z0r (n:Zl):V5 (Wn n)=V5 n:=by
 have e1:(n.routines.map VZ).map VU=n.routines.map VU:=by rw [List.map_map];rfl
 have e2:∀rs:List YB,TI (rs.map VZ)=TI rs:=by
  intro rs
  induction rs with
  | nil=>rfl
  | cons r rs ih=>rw [Wy,TI,TI,ih];rfl
 unfold V5 Wn
 dsimp only
 rw [e1,e2,Uh]
theorem Z0t {n:Zl} (hz:WI n) (hV:XT n=true):XT (Wn n)=true:=by
 have hV0:=hV
 obtain ⟨hn,hvt⟩:=Dq hz hV
 have hwb:=Dr hn hz hvt
 simp only [XT,Xs] at hV
 have hall:=Ia hV.2
 rw [XT,Z0r,hV.1,Bool.true_and]
 refine Pv fun p hp=>?_
 obtain ⟨r,hr,rfl⟩:=Xb.1 (show p∈n.routines.map VZ from hp)
 obtain ⟨h1,h2⟩:=hall r hr
 constructor
 ·show ¬UH (W6 r.body)<0
  rw [UH] at h1 ⊢
  split at h1
  ·exact absurd (show (-1:Int)<0 by decide) h1
  ·rename_i h9
   have h5:=Oj r.body (ds:=n.decls) (l:=600) (l':=600) (hwb r hr) om om om
   have h6:=CP.2 (W6 r.body) 600 om
   rw [Z4 om]
   omega
 ·show Ys (Wn n) r.params (W6 r.body)=r.result
  rw [Md r.body (hwb r hr) (hvt r hr),h2]
theorem Cm {n:Zl} (hn:YY n) (hz:WI n) (hbt:∀r∈n.routines,0<=Ys n r.params r.body):WI (Wn n):=by
 have hwb:=Dr hn hz hbt
 refine ⟨hz.decls,by show (n.routines.map VZ).length<=_;rw [Uh];exact hz.len,fun p hp=>?_,fun p hp=>?_,fun p hp=>?_⟩
 ·obtain ⟨r,hr,rfl⟩:=Xb.1 (show p∈n.routines.map VZ from hp);exact hz.params r hr
 ·obtain ⟨r,hr,rfl⟩:=Xb.1 (show p∈n.routines.map VZ from hp);exact hz.lent r hr
 ·obtain ⟨r,hr,rfl⟩:=Xb.1 (show p∈n.routines.map VZ from hp)
  have:=Ge r.body (hwb r hr)
  have:=hz.body r hr
  show (W6 r.body).sz<=_;omega
theorem DO {n:Zl} (hn:YY n):YY (Wn n):=by
 refine ⟨hn.decls,by show (n.routines.map VZ).length<=_;rw [Uh];exact hn.len,fun p hp=>?_,fun p hp=>?_⟩
 ·obtain ⟨r,hr,rfl⟩:=Xb.1 (show p∈n.routines.map VZ from hp);exact hn.params r hr
 ·obtain ⟨r,hr,rfl⟩:=Xb.1 (show p∈n.routines.map VZ from hp);exact hn.lent r hr
theorem Pt (op v:Int):(XW op v).rng:=by rw [XW,Z8.rng];exact ⟨by omega,True.intro⟩
theorem PS (L:List (Int × Int)):VV (Ve L):=by
 rw [IJ]
 intro s hs
 rw [Ve,Yv] at hs
 rcases hs with hs|hs
 ·obtain ⟨v,_,rfl⟩:=Xb.1 hs;exact Pt _ _
 ·obtain ⟨v,_,rfl⟩:=Xb.1 hs;exact Pt _ _
mutual
theorem Z9m:∀s:Z8,s.rng->(TR s).rng
 | .mk op num into args kids,h=>by rw [Z8.rng] at h;rw [TR,Z8.rng];exact ⟨h.1,Ps kids h.2⟩
theorem Ps:∀bs:List Zh,QE bs->QE (UL bs)
 | [],_=>by rw [UL];exact True.intro
 | b::r,h=>by rw [UL,QE];exact ⟨Pr b h.1,Ps r h.2⟩
theorem I9:∀(xs:List Z8) {L:List (Int × Int)},VV xs->VV (WT xs L)
 | [],L,_=>by rw [WT];exact PS L
 | s::r,L,h=>by
  rw [WT]
  split
  ·exact I9 r h.2
  ·exact Zc4 (PS L) ⟨Z9m s h.1,I9 r h.2⟩
theorem Pr:∀b:Zh,b.rng->(W6 b).rng
 | .mk steps res,h=>by rw [Zh.rng] at h;rw [W6,Zh.rng];exact I9 steps h
end
theorem Z0q {n:Zl} (h:∀r∈n.routines,r.body.rng):∀r∈(Wn n).routines,r.body.rng:=by
 intro r hr
 obtain ⟨q,hq,rfl⟩:=Xb.1 (show r∈n.routines.map VZ from hr)
 exact Pr q.body (h q hq)
def Ww (l:LI):Int:=l.foldl (·+·) 0
def J5 (n:Zl):Int:=if VX n=true then Ww (Xq n)-Ww (Xq (Wn n)) else -1
theorem IQ {c:LI} {k:Nat} {x:Int} (h:c[k]? = some x):Ww (c.take (k+1))=Ww (c.take k)+x:=by
 rw [WP h,Ww,List.foldl_append];rfl
theorem Rx:∀(c:LI) {a q:Int},(∀x∈c,0<=x/\x<=q)->0<=q->a<=c.foldl (·+·) a/\c.foldl (·+·) a<=a+q*c.length
 | [],a,q,_,hq=>by simp
 | x::r,a,q,h,hq=>by
  have h1:=h x (YV ..)
  have h2:=Rx r (a:=a+x) (q:=q) (fun y hy=>h y (Xv _ hy)) hq
  rw [List.foldl_cons,XF]
  have e:q*((r.length+1:Nat):Int)=q*(r.length:Int)+q:=by rw [Int.natCast_add,Int.mul_add];simp
  omega
theorem C6 {c:LI} {q:Int} (h:CB c q) (hq:0<=q/\q<=1000000000) (k:Nat):0<=Ww (c.take k)/\Ww (c.take k)<=4000000000:=by
 have h1:=Rx (c.take k) (a:=0) (q:=1000000000) (fun x hx=>by have:=h.bd x (Cd hx);omega) om
 have h2:(c.take k).length<=4:=by rw [Kq,h.len];omega
 rw [Ww];omega
theorem Mp:∀(rs:List YB) {c:LI} {q:Int},CB c q->0<=q->(∀r∈rs,r.body.sz<=10000000)->CB (K0 rs c) (q+10000000*rs.length)
 | [],c,q,h,_,_=>by rw [K0];exact h.le (by simp)
 | r::rs,c,q,h,h0,hz=>by
  have h1:=hz r (YV ..)
  have h2:=Mp rs (h.b r.body h0) om fun x hx=>hz x (Xv _ hx)
  rw [K0]
  refine h2.le ?_
  rw [XF];omega
theorem DT {n:Zl} (hn:YY n) (hz:WI n):CB (Xq n) 40000000:=by
 have h:=Mp n.routines (c:=[0,0,0,0]) (q:=0) ⟨rfl,fun x hx=>by simp at hx;omega⟩ (Int.le_refl 0) hz.body
 have:=hn.len
 exact h.le om
open Go.Proofs
theorem Zbh (b:Zh) (c0:LI) (q:Int) (hcb:CB c0 q) (hq:0<=q/\q+b.sz<=4000000000000) (hz:b.sz<=1000000000) (ih:∀(b2:Zh) (c2:LI) (q:Int),(CB c2 q)->(0<=q/\q+b2.sz<=4000000000000)->(b2.sz<=1000000000)->(b2.sz<b.sz)->Za 86 [YC b2,Ze c2] [] (fun r h=>∃(w:Hd),r=.h w/\h=[rV w (UM b2 c2)])):Za 86 [YC b,Ze c0] [] (fun r h=>∃(w:Hd),r=.h w/\h=[rV w (UM b c0)]):=by
 have hbz:=JN b
 have hbe:=b.sz_eq
 have hlc0:=hcb.len
 refine Zx 67 Tryz.func86 (ar (iA (Vz b) fun b1=>Z0 (ZM 1 (ic [] (B6 c0) ?_))))
 rintro _ _ ⟨v1,rfl,rfl⟩
 refine Z0 (Yj (ab 0 (ZR (fun fz gz m F h=>∃(k:Nat) (c:LI) (w:Hd),(k<=b.steps.length)/\(CB c (q+Y6 (b.steps.take k)))/\(TT (b.steps.drop k) c=TT b.steps c0)/\F=sF [2] fz [(5,.h w),(6,.i k)]/\h=[Zy gz 1,rV w c]/\m=b.steps.length-k) _ _ _ ⟨0,c0,v1,ob,(hcb.le (by rw [List.take_zero,Y6];omega)),rfl,rfl,rfl,rfl⟩ (wk [1,0] (fr (ZT fl))) ?_)))
 rintro m F h ⟨k,c,w,ZX,Z9,Zz,rfl,rfl,rfl⟩
 refine Ym 3 [0] (iw (T3 b.steps) (ZN ((k:Int)<(b.steps.length:Int)) (fun Z5=>?_) (fun Z5=>?_)))
 ·refine ak (aq (ab 1 (Ym 3 [0] ?_)))
  obtain ⟨x1,Z2⟩:=Zv b.steps k om
  have YD:=Fg Z2
  have hlc:=Z9.len
  have hkz:=Ql x1
  have htk:=Rl Z2
  have htl:=Rm b.steps (k+1)
  have hse:=x1.sz_eq
  refine Zg (Zr none (k:Int) 5 (U2 Z2)) (Z1 2 (ZC [] (Zbn x1.op) (ie (Tz (fun fz gz F h=>∃(w2:Hd),F=sF [2,6] fz [(5,.h w2)]/\h=[Zy gz 0,rV w2 (TS x1.op c)]) ?_ ?_))))
  ·refine ac (YU x1.op) Iff.rfl (fun Zd=>?_) (fun Zd=>?_)
   ·have hr:=MA Zd
    have hgx:0<=gI c (x1.op-14)/\gI c (x1.op-14)<=q+Y6 (b.steps.take k):=Z9.at om
    refine aE 21 (Y7 17 21 [0,1,2,3] [0] (dx 4 (Zr none (k:Int) 5 (U2 Z2)) (Zo 14 16 [5,6] (da 7 ((x1.op-14)) ((x1.op)-(14)) (Y7 9 13 [8,9,10,11] [0] (dx 12 (Zr none (k:Int) 5 (U2 Z2)) (Zo 6 8 [13,14] (da 15 ((x1.op-14)) ((x1.op)-(14)) (dx 16 (XB 1 w c (x1.op-14) ((x1.op-14).toNat) (hq:=rfl)) ?_)))))))))
    obtain ⟨x2,Zt⟩:=Zv c ((x1.op-14).toNat) om
    have hgy:=Vo Zt
    exact Qh 17 (WQ 1 w c ((x1.op-14).toNat) x2 Zt) (da 18 ((x2+1)) ((x2)+(1)) (dx 19 (XB 1 w c (x1.op-14) ((x1.op-14).toNat) (hq:=rfl)) (ZF 20 (Jo 20 1 [] [] w c ((x1.op-14).toNat) (x2+1) (de (Xk ⟨w,rfl,rfl⟩ (wk [1,0] fl (e:=(rc (rv (xs:=(c.set ((x1.op-14).toNat) (x2+1))) (by rw [Mj Zd,hgy]) rz))))))))))
   exact ak (Xk ⟨w,rfl,rfl⟩ (wk [0,0] fl (e:=(rc (rv (xs:=c) (Mi Zd).symm rz)))))
  rintro F h ⟨w2,rfl,rfl⟩
  refine Zf (ab 2 (ZR (fun fz gz m F h=>∃(j:Nat) (c2:LI) (u:Hd),(j<=x1.kids.length)/\(CB c2 (q+Y6 (b.steps.take k)+1+Xl (x1.kids.take j)))/\(Tb (x1.kids.drop j) c2=Tb x1.kids (TS x1.op c))/\F=sF [2,6] fz [(5,.h u),(7,.i j)]/\h=[Zy gz 0,rV u c2]/\m=x1.kids.length-j) _ _ _ ⟨0,(TS x1.op c),w2,ob,((Z9.one om x1.op).le (by rw [List.take_zero,Xl];omega)),rfl,rfl,rfl,rfl⟩ (wk [0,0] (fr (ZT fl))) ?_))
  rintro m F h ⟨j,c2,u,T1,Xh,U7,rfl,rfl,rfl⟩
  refine Ym 4 [0] (Zg (Zr none (k:Int) 5 (U2 Z2)) (Z1 2 (iw (Ua x1.kids) (ZN ((j:Int)<(x1.kids.length:Int)) (fun Zw=>?_) (fun Zw=>?_)))))
  ·refine ak (aq (ab 3 (az (Y3 3 [0] (Zg (Zr none (k:Int) 5 (U2 Z2)) (Z1 3 ?_))))))
   obtain ⟨x3,YW⟩:=Zv x1.kids j om
   have hks:=Kb YW
   have hbt:=G7 YW
   refine Zg (Zr none (j:Int) 2 (TA YW)) (Z1 2 (Nx [1] [rV u c2] (ih x3 c2 (q+Y6 (b.steps.take k)+1+Xl (x1.kids.take j)) Xh ob ob ob) QG (gS (gL (v:=u) 0 gN)) (Vk VQ) ?_))
   rintro _ _ ⟨w1,rfl,rfl⟩
   exact Z0 (az (Z1 1 (ZK j (Z0 (ZJ ⟨j+1,(UM x3 c2),w1,ob,(by rw [WP YW,G6];exact ((Xh.b x3 om).le om)),(Mm YW U7),rfl,rfl,rfl⟩ (wk [2,0] (fr (ZL j fl))))))))
  have hKe:=Mk om U7
  have hbj:=M5 (xs:=x1.kids) (k:=j) om
  exact ax 2 (az (Z1 1 (ZK k (Z0 (ZJ ⟨k+1,(Tb x1.kids (TS x1.op c)),u,ob,(by rw [<-hKe];exact Xh.le om),(Mr Z2 Zz),rfl,rfl,rfl⟩ (wk [0,0] (fr (ZL k fl)) (e:=(rc (rv (xs:=c2) hKe rz)))))))))
 exact ax 0 (ar (Z7 (r1 [1] ⟨w,rfl,rfl⟩ (eq:=(rv (xs:=c) (by rw [Ml];exact Mq om Zz) rz)))))
theorem Zbf (k:Nat):∀(b2:Zh) (c2:LI) (q:Int),(CB c2 q)->(0<=q/\q+b2.sz<=4000000000000)->(b2.sz<=1000000000)->(b2.sz<k)->Za 86 [YC b2,Ze c2] [] (fun r h=>∃(w:Hd),r=.h w/\h=[rV w (UM b2 c2)]):=by
 induction k with
 | zero=>intro b c q _ _ _ h;omega
 | succ k ih=>intro b c q h1 h2 h3 h4;exact Zbh b c q h1 h2 h3 fun b2 c2 q2 k1 k2 k3 k4=>ih b2 c2 q2 k1 k2 k3 om
theorem Zbg (b:Zh) (c0:LI) (q:Int) (hcb:CB c0 q:=by exact ob) (hq:0<=q/\q+b.sz<=4000000000000:=by exact ob) (hz:b.sz<=1000000000:=by exact ob):Za 86 [YC b,Ze c0] [] (fun r h=>∃(w:Hd),r=.h w/\h=[rV w (UM b c0)]):=Zbf (b.sz+1) b c0 q hcb hq hz om
theorem Rb (n:Zl) (hn:YY n:=by exact ob) (hz:WI n:=by exact ob):Za 42 [X3 n] [] (fun r h=>∃(w:Hd),r=.h w/\h=[rV w (Xq n)]):=by
 have hzl:=hn.len
 refine Zx 22 Tryz.func42 (ar (iA (W8 n) fun b1=>Z0 (ar (Hf [0,0,0,0] 4 fun v1=>?_))))
 refine Z0 (Yj (ab 0 (ZR (fun fz gz m F h=>∃(k:Nat) (c:LI) (w:Hd),(k<=n.routines.length)/\(CB c (10000000*k))/\(K0 (n.routines.drop k) c=Xq n)/\F=sF [1] fz [(3,.h w),(4,.i k)]/\h=[Zy gz 1,rV w c]/\m=n.routines.length-k) _ _ _ ⟨0,[0,0,0,0],v1,ob,⟨rfl,fun x hx=>by simp at hx;omega⟩,rfl,rfl,rfl,rfl⟩ (wk [1,0] (fr (ZT fl))) ?_)))
 rintro m F h ⟨k,c,w,ZX,Z9,Zz,rfl,rfl,rfl⟩
 refine Ym 3 [0] (iw (UE n.routines) (ZN ((k:Int)<(n.routines.length:Int)) (fun Z5=>?_) (fun Z5=>?_)))
 ·refine ak (aq (ab 1 (az (Y3 3 [0] ?_))))
  obtain ⟨x1,Z2⟩:=Zv n.routines k om
  have hrm:=YA Z2
  have hbz:=hz.body _ hrm
  refine Zg (Zr none (k:Int) 5 (Um Z2)) (Z1 3 (Nx [1] [rV w c] (Zbg x1.body c (10000000*(k:Int)) (hcb:=Z9)) QG (gS (gL (v:=w) 0 gN)) (Vk VQ) ?_))
  rintro _ _ ⟨w1,rfl,rfl⟩
  exact Z0 (az (Z1 1 (ZK k (Z0 (ZJ ⟨k+1,(UM x1.body c),w1,ob,((Z9.b x1.body om).le om),(Mo Z2 Zz),rfl,rfl,rfl⟩ (wk [2,0] (fr (ZL k fl))))))))
 exact ax 0 (ar (Z7 (r1 [1] ⟨w,rfl,rfl⟩ (eq:=(rv (xs:=c) (Mn om Zz) rz)))))
theorem Z1l (s:Z8) (cc:Nat) (g:Hd) (c0:LI) (q:Int) (hcb:CB c0 q:=by exact ob) (hq:0<=q/\q<=4000000000000:=by exact ob):Za 94 [XO s,.p cc 0] [.obj cc [.h g],rV g c0] (fun r h=>h=[.obj cc [.h g],rV g (TS s.op c0)]):=by
 refine Zx 14 Tryz.func94 (ar (iA (WO s) fun b1=>ie (ZB 2 [0] (ZC [] (Er s.op) (ie (ac (YU s.op) Iff.rfl (fun Z5=>?_) (fun Z5=>?_)))))))
 ·have hr:=MA Z5
  have hgx:0<=gI c0 (s.op-14)/\gI c0 (s.op-14)<=q:=hcb.at om
  have hlc:=hcb.len
  refine az (Y3 3 [1,0] (ia ((s.op-14)) ((s.op)-(14)) (Zg (XB 2 g c0 (s.op-14) ((s.op-14).toNat) (hq:=rfl)) ?_)))
  obtain ⟨x1,Z2⟩:=Zv c0 ((s.op-14).toNat) om
  have hgy:=Vo Z2
  exact Xu (WQ 2 g c0 ((s.op-14).toNat) x1 Z2) (ia ((x1+1)) ((x1)+(1)) (Zg (XB 2 g c0 (s.op-14) ((s.op-14).toNat) (hq:=rfl)) (BM 2 g c0 ((s.op-14).toNat) (x1+1) (ie (r2 [2,0] [] rfl (lr _) (eq:=(rc (rv (xs:=(c0.set ((s.op-14).toNat) (x1+1))) (by rw [Mj Z5,hgy]) rz))))))))
 exact ak (r2 [1,1] [] rfl (lr _) (eq:=(rc (rv (xs:=c0) (Mi Z5).symm rz))))
theorem Z5o (b:Zh) (cc:Nat) (g:Hd) (c0:LI) (q:Int) (hcb:CB c0 q) (hq:0<=q/\q+b.sz<=4000000000000) (hz:b.sz<=1000000000) (ih:∀(b2:Zh) (cc:Nat) (g:Hd) (c2:LI) (q2:Int),(CB c2 q2)->(0<=q2/\q2+b2.sz<=4000000000000)->(b2.sz<=1000000000)->(b2.sz<b.sz)->Za 93 [YC b2,.val (.func (.func 94) #[] #[.pointer (some ⟨cc,0,none⟩)])] [.obj cc [.h g],rV g c2] (fun r h=>h=[.obj cc [.h g],rV g (UM b2 c2)])):Za 93 [YC b,.val (.func (.func 94) #[] #[.pointer (some ⟨cc,0,none⟩)])] [.obj cc [.h g],rV g c0] (fun r h=>h=[.obj cc [.h g],rV g (UM b c0)]):=by
 have hbz:=JN b
 have hbe:=b.sz_eq
 refine Zx 30 Tryz.func93 (ar (iA (Vz b) fun b1=>?_))
 refine ie (ZB 2 [0] (iw (T3 b.steps) (Z0 (ab 0 (ZR (fun fz gz m F h=>∃(k:Nat) (c:LI),(k<=b.steps.length)/\(CB c (q+Y6 (b.steps.take k)))/\(TT (b.steps.drop k) c=TT b.steps c0)/\F=sF [1,9,10] fz [(11,.i k)]/\h=[Zy gz 1,rV g c]/\m=b.steps.length-k) _ _ _ ⟨0,c0,ob,(hcb.le (by rw [List.take_zero,Y6];omega)),rfl,rfl,rfl,rfl⟩ (wk [1,1] (ZT fl)) ?_)))))
 rintro m F h ⟨k,c,ZX,Z9,Zz,rfl,rfl,rfl⟩
 refine Zf (aq (Xf ((k:Int)<(b.steps.length:Int)) (fun Z5=>?_) (fun Z5=>?_)))
 ·refine ak (aq (ab 1 (ar ?_)))
  obtain ⟨x1,Z2⟩:=Zv b.steps k om
  have YD:=Fg Z2
  have hkz:=Ql x1
  have htk:=Rl Z2
  have htl:=Rm b.steps (k+1)
  have hse:=x1.sz_eq
  refine Zg (Zr none (k:Int) 5 (U2 Z2)) (Z1 1 (iA [.i 0,.i 0,.i 0,nl,nl] fun b2=>Y0 0 b2 (WO x1) (ie (ZB 2 [0] (ic [1,1] (Z1l x1 cc g c (q+Y6 (b.steps.take k)) (hcb:=Z9)) ?_)))))
  rintro _ _ rfl
  refine ie (ZB 2 [2] (iw (Ua x1.kids) (Z0 (ab 2 (ZR (fun fz gz m F h=>∃(j:Nat) (c2:LI),(j<=x1.kids.length)/\(CB c2 (q+Y6 (b.steps.take k)+1+Xl (x1.kids.take j)))/\(Tb (x1.kids.drop j) c2=Tb x1.kids (TS x1.op c))/\F=sF [1,9,10,11,19,20] fz [(21,.i j)]/\h=[Zy gz 0,rV g c2]/\m=x1.kids.length-j) _ _ _ ⟨0,(TS x1.op c),ob,((Z9.one om x1.op).le (by rw [List.take_zero,Xl];omega)),rfl,rfl,rfl,rfl⟩ (wk [0,0] (ZT fl)) ?_)))))
  rintro m F h ⟨j,c2,T1,Xh,U7,rfl,rfl,rfl⟩
  refine Zf (aq (Xf ((j:Int)<(x1.kids.length:Int)) (fun Zd=>?_) (fun Zd=>?_)))
  ·refine ak (aq (ab 3 (ar ?_)))
   obtain ⟨x2,Zt⟩:=Zv x1.kids j om
   have hks:=Kb Zt
   have hbt:=G7 Zt
   refine Zg (Zr none (j:Int) 2 (TA Zt)) (Z1 1 (iA [nl,.i 0] fun b3=>Y0 0 b3 (Vz x2) (ie (az (Y3 2 [0] (ic [1,1] (ih x2 cc g c2 (q+Y6 (b.steps.take k)+1+Xl (x1.kids.take j)) Xh ob ob ob) ?_))))))
   rintro _ _ rfl
   exact ie (az (ZK j (Z0 (ZJ ⟨j+1,(UM x2 c2),ob,(by rw [WP Zt,G6];exact ((Xh.b x2 om).le om)),(Mm Zt U7),rfl,rfl,rfl⟩ (wk [0,0] (ZL j fl))))))
  have hKe:=Mk om U7
  have hbj:=M5 (xs:=x1.kids) (k:=j) om
  exact ax 2 (az (ZK k (Z0 (ZJ ⟨k+1,(Tb x1.kids (TS x1.op c)),ob,(by rw [<-hKe];exact Xh.le om),(Mr Z2 Zz),rfl,rfl,rfl⟩ (wk [0,0] (ZL k fl) (e:=(rc (rv (xs:=c2) hKe rz))))))))
 exact ax 0 (r2 [0,0] [] rfl (lr _) (eq:=(rc (rv (xs:=c) (by rw [Ml];exact Mq om Zz) rz))))
theorem Z5m (k:Nat):∀(b2:Zh) (cc:Nat) (g:Hd) (c2:LI) (q2:Int),(CB c2 q2)->(0<=q2/\q2+b2.sz<=4000000000000)->(b2.sz<=1000000000)->(b2.sz<k)->Za 93 [YC b2,.val (.func (.func 94) #[] #[.pointer (some ⟨cc,0,none⟩)])] [.obj cc [.h g],rV g c2] (fun r h=>h=[.obj cc [.h g],rV g (UM b2 c2)]):=by
 induction k with
 | zero=>intro b cc g c q _ _ _ h;omega
 | succ k ih=>intro b cc g c q h1 h2 h3 h4;exact Z5o b cc g c q h1 h2 h3 fun b2 cc2 g2 c2 q2 k1 k2 k3 k4=>ih b2 cc2 g2 c2 q2 k1 k2 k3 om
theorem Z5n (b:Zh) (cc:Nat) (g:Hd) (c0:LI) (q:Int) (hcb:CB c0 q:=by exact ob) (hq:0<=q/\q+b.sz<=4000000000000:=by exact ob) (hz:b.sz<=1000000000:=by exact ob):Za 93 [YC b,.val (.func (.func 94) #[] #[.pointer (some ⟨cc,0,none⟩)])] [.obj cc [.h g],rV g c0] (fun r h=>h=[.obj cc [.h g],rV g (UM b c0)]):=Z5m (b.sz+1) b cc g c0 q hcb hq hz om
theorem NC (n:Zl) (hz:WI n:=by exact ob) (hr:∀r∈n.routines,r.body.rng):Za 46 [X3 n] [] (fun r h=>∃(w:Hd),r=.h w/\h=[rV w (if XT n=true then Xq n else [])]):=by
 refine Zx 23 Tryz.func46 (ar (iA (W8 n) fun b1=>Z0 (Ym 1 [0] (ZC [] (ND n (hr:=hr)) (Yt (!XT n) (p:=¬(XT n=true)) (Yi Iff.rfl) (fun Z5=>?_) (fun Z5=>?_))))))
 ·exact Zf (Wm Kj (ZG (r2 [0] [nl] ⟨hN,rfl,rfl⟩ (Zk.hd (v:=hN)) (eq:=(rv (xs:=[]) (by rw [Z4 Z5]) rz)))))
 have hV:XT n=true:=Ws.1 Z5
 obtain ⟨hn,hvt⟩:=Dq hz hV
 have hzl:=hn.len
 refine ak (ar (iVM 4 fun v1=>iA [nl] fun b2=>?_))
 refine Y0 0 b2 [.h v1] (ie (Ym 2 [2] (iw (UE n.routines) (Z0 (ab 0 (ZR (fun fz gz m F h=>∃(k:Nat) (c:LI),(k<=n.routines.length)/\(CB c (10000000*k))/\(K0 (n.routines.drop k) c=Xq n)/\F=sF [3,11,12] fz [(13,.i k)]/\h=[Zy gz 0,rV v1 c]/\m=n.routines.length-k) _ _ _ ⟨0,(List.replicate 4 0),ob,⟨rfl,fun x hx=>by simp at hx;omega⟩,rfl,rfl,rfl,rfl⟩ (wk [0,0] (ZT fl)) ?_))))))
 rintro m F h ⟨k,c,ZX,Z9,Zz,rfl,rfl,rfl⟩
 refine Zf (aq (Xf ((k:Int)<(n.routines.length:Int)) (fun Zd=>?_) (fun Zd=>?_)))
 ·refine ak (aq (ab 1 (ar ?_)))
  obtain ⟨x1,Z2⟩:=Zv n.routines k om
  have hrm:=YA Z2
  have hbz:=hz.body _ hrm
  refine Zg (Zr none (k:Int) 5 (Um Z2)) (Z1 1 (iA [nl,nl,.i 0,nl,.i 0] fun b3=>Y0 0 b3 (TH x1) (ie (az (Y3 3 [0] (ic [1,1] (Z5n x1.body b2 v1 c (10000000*(k:Int)) (hcb:=Z9)) ?_))))))
  rintro _ _ rfl
  exact ie (az (ZK k (Z0 (ZJ ⟨k+1,(UM x1.body c),ob,((Z9.b x1.body om).le om),(Mo Z2 Zz),rfl,rfl,rfl⟩ (wk [0,0] (ZL k fl))))))
 exact ax 0 (Ju [0] (ZG (r1 [1] ⟨v1,rfl,rfl⟩ (eq:=(rv (xs:=c) (by rw [Z6 hV];exact Mn om Zz) rz)))))
theorem Rh (xs:LI) (hb:CB xs 40000000:=by exact ob):Za 41 [Ze xs] [] (ZP (.i (Ww xs))):=by
 have hbl:=hb.len
 refine Zx 18 Tryz.func41 (Zf (Zf (Yj (ab 0 (ZR (fun fz gz m F h=>∃(k:Nat),(k<=xs.length)/\F=sF [0] fz [(3,.i (Ww (xs.take k))),(4,.i k)]/\h=gz/\m=xs.length-k) _ _ _ ⟨0,ob,rfl,rfl,rfl⟩ (wk [] (fc (x:=.i 0) (li rfl) (ZT fl))) ?_)))))
 rintro m F h ⟨k,ZX,rfl,rfl,rfl⟩
 refine Y8 2 (iw (Yk xs) (ZN ((k:Int)<(xs.length:Int)) (fun Z5=>?_) (fun Z5=>?_)))
 ·refine ak (aq (ab 1 (az (Z1 3 ?_))))
  obtain ⟨x1,Z2⟩:=Zv xs k om
  have hsb:=C6 hb om k
  have hxb:=hb.bd _ (YA Z2)
  exact Zg (Zr none (k:Int) 1 (Yc Z2)) (Z1 1 (ia (((Ww (xs.take k))+x1)) (((Ww (xs.take k)))+(x1)) (Z0 (az (Z1 1 (ZK k (Z0 (ZJ ⟨k+1,ob,rfl,rfl,rfl⟩ (wk [] (fc (x:=.i ((Ww (xs.take k))+x1)) (li (IQ Z2).symm) (ZL k fl)))))))))))
 exact ax 0 (ar (Z7 (Zp (.i (Ww (xs.take k))) (li (by rw [W2 om])))))
theorem Zb6 (n:Zl) (hz:WI n):Za 16 [X3 n] [] (ZP (.i (J5 n))):=by
 refine Zx 14 Tryz.func16 (ar (iA (W8 n) fun b1=>Z0 (Ym 1 [0] (ZC [] (R7 n) (Yt (!VX n) (p:=¬(VX n=true)) (Yi Iff.rfl) (fun Z5=>?_) (fun Z5=>?_))))))
 ·exact ar (Z7 (Zp (.i (-1)) (li (by rw [J5,Z4 Z5]))))
 have hB:VX n=true:=Ws.1 Z5
 obtain ⟨hn,hsg,hbt⟩:=Bp hz hB
 have hcb:=DT hn hz
 have hcb2:=DT (DO hn) (Cm hn hz hbt)
 have hs1:=C6 hcb om 4
 have hs2:=C6 hcb2 om 4
 rw [W2 (by rw [hcb.len];omega)] at hs1
 rw [W2 (by rw [hcb2.len];omega)] at hs2
 refine ak (aD 9 (Y7 7 9 [0,3] [0,0] (ZF 1 (dc 1 [] [0] [b1] (Rb n (hn:=(by first|exact hn|exact DO hn)) (hz:=(by first|exact hz|exact Cm hn hz hbt))) ?_))))
 rintro _ _ ⟨w1,rfl,rfl⟩
 refine ZF 2 (U9 2 [0] [0] [b1] [rV w1 (Xq n)] (Rh (Xq n) (hb:=(by first|exact hcb|exact hcb2))) A5 (gL (v:=w1) 0 gN) (Vk VQ) ?_)
 rintro _ _ ⟨rfl,rfl⟩
 refine ZF 4 (XY 4 [] [] [] (MY n (hn:=hn) (hbt:=hbt)) (ZF 5 (dc 5 [] [] [] (Rb (Wn n) (hn:=(by first|exact hn|exact DO hn)) (hz:=(by first|exact hz|exact Cm hn hz hbt))) ?_)))
 rintro _ _ ⟨w2,rfl,rfl⟩
 refine ZF 6 (U9 6 [0] [] [] [rV w2 (Xq (Wn n))] (Rh (Xq (Wn n)) (hb:=(by first|exact hcb|exact hcb2))) A5 (gL (v:=w2) 0 gN) (Vk VQ) ?_)
 rintro _ _ ⟨rfl,rfl⟩
 exact da 7 (((Ww (Xq n))-(Ww (Xq (Wn n))))) (((Ww (Xq n)))-((Ww (Xq (Wn n))))) (Zo 0 1 [8] (de (ZG (Zp (.i ((Ww (Xq n))-(Ww (Xq (Wn n))))) (li (by rw [J5,Z6 hB]))))))
theorem Z4v (y:X4) (hz:WI y.er:=by exact ob) (hr:∀r∈y.er.routines,r.body.rng):Za 46 [VE y] [] (fun r h=>∃(w:Hd),r=.h w/\h=[rV w (if XT y.er=true then Xq y.er else [])]):=(NC y.er hz hr).args_le (.cons (KW y) .nil)
theorem Z4w (n:Zl) (hz:WI n) (hr:∀r∈n.routines,r.body.rng):Za 18 [X3 n] [] (ZP (.i (J5 n))):=by
 refine Zx 40 Tryz.func18 (ar (iA (W8 n) fun b1=>Z0 (ZB 1 [0] (ic [] (NB n (hr:=ob)) ?_))))
 rintro _ _ ⟨y1,rfl,rfl,Ya⟩
 have hcn:=Ya
 refine Z1 3 (iA [nl,nl] fun b2=>Y0 0 b2 (BS y1) (Z0 (Yq (Yt (!((XI n).2)) (p:=¬(((XI n).2)=true)) (Yi Iff.rfl) (fun Z5=>?_) (fun Z5=>?_)))))
 ·have hE:XI n=(ER,false):=Z4 (fun z=>Z5 (by rw [XI,Z6 z]))
  have hB:¬VX n=true:=fun z=>Z5 (by rw [XI,Z6 z])
  exact ar (Z7 (Zp (.i (-1)) (li (by rw [J5,Z4 hB]))))
 have hB:VX n=true:=Du fun z=>Z5 (by rw [XI,Z4 z];exact Bool.noConfusion)
 obtain ⟨hn,hsg,hbt⟩:=Bp hz hB
 have hV:=Z06 hB
 have hcb:=DT hn hz
 have hcb2:=DT (DO hn) (Cm hn hz hbt)
 have hEr:y1.er=Wn n:=by rw [hcn,XI,Z6 hB]
 have hI:(if XT n=true then Xq n else [])=Xq n:=Z6 hV
 have hI2:(if XT y1.er=true then Xq y1.er else [])=Xq (Wn n):=by rw [hEr];exact Z6 (Z0t hz hV)
 have hl4:(if XT n=true then Xq n else []).length=4:=by rw [hI];exact hcb.len
 have hl5:(if XT y1.er=true then Xq y1.er else []).length=4:=by rw [hI2];exact hcb2.len
 have hl6:=hcb.len
 have hl7:=hcb2.len
 have hs1:=C6 hcb om 4
 rw [W2 om] at hs1
 refine ak (Zf (Ym 1 [2] (ic [] (NC n (hr:=ob)) ?_)))
 rintro _ _ ⟨w1,rfl,rfl⟩
 refine Zg (KO 0 w1 (if XT n=true then Xq n else [])) (Z0 (ab 0 (ZR (fun fz gz m F h=>∃(k:Nat),(k<=4)/\F=sF [3,18,19] fz [(5,.i (Ww ((Xq n).take k))),(20,.i k)]/\h=[Zy gz 0,Zy gz 1,Zy gz 2]/\m=4-k) _ _ _ ⟨0,ob,rfl,rfl,rfl⟩ (Y1 3 (fc (x:=.i 0) (li rfl) (ZT fl))) ?_)))
 rintro m F h ⟨k,ZX,rfl,rfl,rfl⟩
 refine Zf (aq (Xf ((k:Int)<(((if XT n=true then Xq n else []).length:Nat):Int)) (fun Zd=>?_) (fun Zd=>?_)))
 ·refine ak (aq (ab 1 (ar (Zg (XB 0 w1 (if XT n=true then Xq n else []) (k:Int) k) ?_))))
  obtain ⟨x1,Z2⟩:=Zv (if XT n=true then Xq n else []) k om
  have hg1:=Z2
  rw [hI] at hg1
  have hsb:=C6 hcb om k
  have hxb:=hcb.bd _ (YA hg1)
  exact Xu (WQ 0 w1 (if XT n=true then Xq n else []) k x1 Z2) (Z0 (az (Z1 2 (ia (((Ww ((Xq n).take k))+x1)) (((Ww ((Xq n).take k)))+(x1)) (Z0 (az (ZK k (Z0 (ZJ ⟨k+1,ob,rfl,rfl,rfl⟩ (Y1 3 (fc (x:=.i ((Ww ((Xq n).take k))+x1)) (li (IQ hg1).symm) (ZL k fl))))))))))))
 refine ax 0 (Ym 1 [1] (ic [] (Z4v y1 (hz:=(by rw [hEr];exact Cm hn hz hbt)) (hr:=(by rw [hEr];exact Z0q hr))) ?_))
 rintro _ _ ⟨w2,rfl,rfl⟩
 refine Zg (KO 0 w2 (if XT y1.er=true then Xq y1.er else [])) (Z0 (ab 2 (ZR (fun fz gz m F h=>∃(k:Nat),(k<=4)/\F=sF [29,30] fz [(5,.i (Ww (Xq n)-Ww ((Xq (Wn n)).take k))),(31,.i k)]/\h=[Zy gz 0,Zy gz 3]/\m=4-k) _ _ _ ⟨0,ob,rfl,rfl,rfl⟩ (wk [0,2] (fc (x:=.i (Ww ((Xq n).take k))) (li (by rw [W2 om];show _=Ww (Xq n)-0;omega)) (ZT fl))) ?_)))
 rintro m F h ⟨k,T1,rfl,rfl,rfl⟩
 refine Zf (aq (Xf ((k:Int)<(((if XT y1.er=true then Xq y1.er else []).length:Nat):Int)) (fun Zw=>?_) (fun Zw=>?_)))
 ·refine ak (aq (ab 3 (ar (Zg (XB 0 w2 (if XT y1.er=true then Xq y1.er else []) (k:Int) k) ?_))))
  obtain ⟨x2,Zt⟩:=Zv (if XT y1.er=true then Xq y1.er else []) k om
  have hg2:=Zt
  rw [hI2] at hg2
  have hsb:=C6 hcb2 om k
  have hxb:=hcb2.bd _ (YA hg2)
  exact Xu (WQ 0 w2 (if XT y1.er=true then Xq y1.er else []) k x2 Zt) (Z0 (az (Z1 2 (ia (((Ww (Xq n)-Ww ((Xq (Wn n)).take k))-x2)) (((Ww (Xq n)-Ww ((Xq (Wn n)).take k)))-(x2)) (Z0 (az (ZK k (Z0 (ZJ ⟨k+1,ob,rfl,rfl,rfl⟩ (wk [0,0] (fc (x:=.i ((Ww (Xq n)-Ww ((Xq (Wn n)).take k))-x2)) (li (by rw [IQ hg2];omega)) (ZL k fl))))))))))))
 exact ax 2 (ar (Z7 (Zp (.i (Ww (Xq n)-Ww ((Xq (Wn n)).take k))) (li (by rw [J5,Z6 hB,W2 (l:=Xq (Wn n)) om])))))
theorem Zbk (z:X4) (n:Zl) (he:z.er=n) (hz:WI n):Za 16 [VE z] [] (ZP (.i (J5 n))):=by
 subst he
 exact (Zb6 z.er hz).args_le (.cons (KW z) .nil)
theorem Z5e (z:X4) (n:Zl) (he:z.er=n) (hz:WI n) (hr:∀r∈n.routines,r.body.rng):Za 18 [VE z] [] (ZP (.i (J5 n))):=by
 subst he
 exact (Z4w z.er hz hr).args_le (.cons (KW z) .nil)
theorem Z39 (y z:X4) (he:y.er=z.er) (hl:Wk z.er<=1000000000):Za 19 [VE y,VE z] [] (ZP (.b true)):=by
 have h1:=Hq z.er hl
 refine h1.args_le (.cons ?_ (.cons (KW z) .nil))
 rw [<-he];exact KW y
theorem Z6u (n:Zl) (hl:Wk n<=9223372036854775807) (hr:∀r∈n.routines,r.body.rng):Za 5 [X3 n] [] (ZP (.b true)):=by
 refine Zx 27 Tryz.func5 (ar (iA (W8 n) fun b1=>Z0 (Zf (ZB 2 [0] (ZC [] (Of n 1048576 ob ob) (Z0 (Yq (ZN ((Y4 (Wk n) 1048576)<0) (fun Z5=>?_) (fun Z5=>?_)))))))))
 ·exact ar (Z7 (T9))
 have YD:Wk n<=1048576:=by unfold Y4 at Z5;split at Z5<;>omega
 have hz:=OQ (n:=n) om
 refine ak (ZB 1 [0] (ic [] (Ba n ob) ?_))
 rintro _ _ ⟨y1,rfl,rfl,Ya⟩
 have hnhp1:Wk y1.er<=1000000000:=by rw [Ya];omega
 refine ZC [] (Zbk y1 n ob ob) (Z0 (ZB 1 [1] (ic [] (Ba n ob) ?_)))
 rintro _ _ ⟨y2,rfl,rfl,YT⟩
 have hnhp2:Wk y2.er<=1000000000:=by rw [YT];omega
 refine iA [nl,nl] fun b2=>Y0 0 b2 (BS y2) (ie (ZB 1 [0] (ZC [] (Z5e y2 n ob ob ob) (Z0 (Yq (Yt ((J5 n) != (J5 n)) ZO (fun Zd=>?_) (fun Zd=>?_)))))))
 ·exact ar (Z7 (Zp (.b false) (lb (absurd rfl Zd))))
 refine ak (aq (aD 5 (Y7 3 5 [0,1] [0,3] (ZF 2 (dc 2 [] [0] [b2] (Ba n ob) ?_)))))
 rintro _ _ ⟨y3,rfl,rfl,Xy⟩
 have hnhp3:Wk y3.er<=1000000000:=by rw [Xy];omega
 exact ZF 3 (XY 3 [] [] [] (Z39 y2 y3 (by simp only [*]) ob) (Zo 0 1 [4] (de (XC (ak (ar (Z7 (T9))))))))
end Go.Abs
