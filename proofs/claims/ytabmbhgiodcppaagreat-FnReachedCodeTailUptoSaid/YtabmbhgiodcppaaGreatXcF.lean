/-
  A part of the proofs of several laws (see the last file): no condition.
-/
import Derived.Test.YtabmbhgiodcppaaGreatXcE
set_option linter.all false
set_option linter.unusedVariables false
set_option linter.unusedSimpArgs false
set_option linter.unusedSectionVars false
set_option maxRecDepth 10000
set_option maxHeartbeats 4000000
namespace Go.Abs
open Go.Proofs
theorem Z4q (ds:List Zf) (hl_ds:ds.length<=4294967296:=by exact ob):Zm 123 [Y6 ds] [] (fun r h=>∃(v:Hd),r=.h v/\h=[rK v 3 (Z8 (Yz ds))]):=by
 refine ZF 8 Tryz.func123 (Y0 (YN 1 (iN (Yz ds) (fun hz1=>?_) ?_)))
 ·have hz1:=Z66 hz1
  refine ie (Vq (Y0 (Jz (Cj (k:=3)) ?_)))
  subst hz1
  exact ZV (r2 [0] [nl] ⟨hN,rfl,rfl⟩ (Zd.hd (v:=hN)) (eq:=(rr (ls:=[]) rfl rz)))
 exact ie (V9 (ak (ar (BV 3 fun g1=>Z0 1 (Hc 0 g1 3 (Yz ds) none (QF _) (by simp<;>omega) fun v1=>Zl (r1 [0] ⟨v1,rfl,rfl⟩))))))
theorem Z4p (cs:List Yh) (hl_cs:cs.length<=4294967296:=by exact ob):Zm 124 [QO cs] [] (fun r h=>∃(v:Hd),r=.h v/\h=[rK v 1 (Z8 (XA cs))]):=by
 refine ZF 8 Tryz.func124 (Y0 (YN 1 (iN (XA cs) (fun hz1=>?_) ?_)))
 ·have hz1:=Z64 hz1
  refine ie (Vq (Y0 (Jz (Cj (k:=1)) ?_)))
  subst hz1
  exact ZV (r2 [0] [nl] ⟨hN,rfl,rfl⟩ (Zd.hd (v:=hN)) (eq:=(rr (ls:=[]) rfl rz)))
 exact ie (V9 (ak (ar (BV 1 fun g1=>Z0 1 (Hc 0 g1 1 (XA cs) none (CM _) (by simp<;>omega) fun v1=>Zl (r1 [0] ⟨v1,rfl,rfl⟩))))))
theorem Zb8 (ds:List Zf) (hd:Xt ds):Zm 81 [Y6 ds] [] (fun r h=>∃(ys:List Vh) (w:Value),r=Zdl ys w/\h=[.many (QL ys),.tail w 3]/\ys.map Vh.er=ds):=by
 have hdl:=hd.len
 refine ZF 46 Tryz.func81 (Y0 (Yc 1 (ic [] (Z4q ds) ?_)))
 rintro _ _ ⟨v1,rfl,rfl⟩
 refine Z1 (YN 1 (Zp (Hl 0 ds.length v1 3 (Z8 (Yz ds)) (by rw [P3])) (Z1 (ab 0 (Jz (tB [] [] [] (QL []) (by simp [F9,F4,H1,H2,H4,H5,H0,Kf,Ke,F8,DY,Qn,QL,Ba,F5,F6,F7,H3])) (Y3 (fun fz gz m F h=>∃(k:Nat) (v:Hd) (ys:List Vh),(k<=ds.length)/\(ys.map Vh.er=ds.take k)/\(ys.length=k)/\F=sF [11] fz [(3,.h v),(10,.h v),(12,.i k)]/\h=[rK v 3 (Z8 (Vj ys++Yz (ds.drop k))),.many (QL ys)]/\m=ds.length-k) _ _ _ ⟨0,v1,[],ob,rfl,rfl,rfl,rfl,rfl⟩ (wk [1,0] (fw (Yf fl)) (e:=(rr (ls:=Z8 (Yz ds)) (by rfl) (rc rz)))) ?_))))))
 rintro m F h ⟨k,v,ys,Yi,Zj,Zw,rfl,rfl,rfl⟩
 refine Y0 (aq (WJ ((k:Int)<(ds.length:Int)) (fun Zc=>?_) (fun Zc=>?_)))
 ·obtain ⟨x1,Z4⟩:=Zt ds k om
  have hcl:=hd.cons_at Z4
  refine Fj 0 ds.length (v:=v) (Z0b Zw Yi) om (fun g1 c1 he1=>?_)
  subst he1
  refine ak (aq (ab 1 (Yc 1 (Zp (XC g1 ds.length c1 k 3 (k:Int)) (Vm (WC 0 g1 ds.length c1 3 (k*3) (Z8 (Vj ys++Yz (ds.drop k))) (Ji x1) 119 (Cw x1) (by rw [Z0c Z4];exact HV (by rw [CU,Zw]))) (iA [.i 0,.i 0,nl] fun b1=>Z0 1 (Zz 0 b1 (Ji x1) (ie (Zq 4 [0] (ic [] (Z4p x1.cons) ?_))))))))))
  rintro _ _ ⟨v2,rfl,rfl⟩
  refine Zp (XC g1 ds.length c1 k 3 (k:Int)) (Z0 1 (BW 2 g1 ds.length c1 3 (k*3+2) [.h v2] (Z8 (Vj ys++Yz (ds.drop k))) (Z8 (Vj ys)++([.i x1.frm,.i x1.to_,.h v2]++Z8 (Yz (ds.drop (k+1))))) (by rw [Z0b Zw Yi];simp;omega) (by rw [Z0c Z4];exact Zfi (by rw [CU,Zw])) (ie (Zq 2 [2] (iw (T4 x1.cons) (Z1 (ab 2 (Jz (tB [] [] [] (Qn []) (by simp [F9,F4,H1,H2,H4,H5,H0,Kf,Ke,F8,DY,Qn,QL,Ba,F5,F6,F7,H3])) (Y3 (fun fz gz m F h=>∃(j:Nat) (u:Hd) (zs:List Vo),(j<=x1.cons.length)/\(zs.map Vo.er=x1.cons.take j)/\(zs.length=j)/\F=sF [3,4,10,11,12,25,26] fz [(27,.i j)]/\h=[Zh gz 4,rK u 1 (Z8 (Ui zs++XA (x1.cons.drop j))),.row (.slice (some ⟨g1,0,none⟩) ds.length c1) 3 (Z8 (Vj ys)++([.i x1.frm,.i x1.to_,.h u]++Z8 (Yz (ds.drop (k+1))))),.many (Qn zs)]/\m=x1.cons.length-j) _ _ _ ⟨0,v2,[],ob,rfl,rfl,rfl,rfl,rfl⟩ (wk [4,2,1,0] (Yf fl) (e:=(rc (rr (ls:=Z8 (XA x1.cons)) (by rfl) (rc (rc rz)))))) ?_)))))))))
  rintro m F h ⟨j,u,zs,VB,XE,XJ,rfl,rfl,rfl⟩
  refine Y0 (aq (WJ ((j:Int)<(x1.cons.length:Int)) (fun Zi=>?_) (fun Zi=>?_)))
  ·obtain ⟨x2,Zv⟩:=Zt x1.cons j om
   have hfl:=hd.fields_at Z4 Zv
   refine Fj 1 x1.cons.length (v:=u) (Z0a XJ VB) om (fun g2 c2 he2=>?_)
   subst he2
   refine ak (aq (ab 3 (Yc 1 (Zp (Zk none (j:Int) 1 (BL Zv)) (Z0 1 (iA [nl] fun b2=>Z0 1 (Zz 0 b2 (E3 x2) (ie (aE 12 (Zs 10 12 [0,1] (dx 2 (XC g1 ds.length c1 k 3 (k:Int)) (Zs 8 9 [3] (Uz 4 (WC 3 g1 ds.length c1 3 (k*3+2) (Z8 (Vj ys)++([.i x1.frm,.i x1.to_,.h ⟨some ⟨g2,0,none⟩,x1.cons.length,c2⟩]++Z8 (Yz (ds.drop (k+1))))) [.h ⟨some ⟨g2,0,none⟩,x1.cons.length,c2⟩] 117 (.ms g2 0 x1.cons.length c2) (Zfj (by rw [CU,Zw]))) (ZY 4 7 [5,6,7] [0] (Z9 8 (dc 8 [] [2] [g1] (EN x2.fields) ?_))))))))))))))))
   rintro _ _ ⟨v3,rfl,rfl⟩
   exact dx 9 (XC g2 x1.cons.length c2 j 1 (j:Int)) (Zs 1 2 [10] (Z9 11 (QE 11 3 [] [] g2 x1.cons.length c2 1 (j*1) [ZI x2.fields v3] (Z8 (Ui zs++XA (x1.cons.drop j))) (Z8 (Ui zs)++([ZI x2.fields v3]++Z8 (XA (x1.cons.drop (j+1))))) (by rw [Z0a XJ VB];simp;omega) (by rw [Zff Zv];exact FG (by rw [P4,XJ,Jx]) rfl) (JE (tB [5,1] [.many (Qn zs),.tail v3 1] (Qn zs++((v3,1)::[])) (Qn (zs++[Vo.mk x2.fields v3])) (by simp [F9,F4,H1,H2,H4,H5,H0,Kf,Ke,F8,DY,Qn,QL,Ba,F5,F6,F7,H3])) (de (az (ZD j (Z1 (ZG ⟨j+1,⟨some ⟨g2,0,none⟩,x1.cons.length,c2⟩,(zs++[Vo.mk x2.fields v3]),ob,(by rw [List.map_append,XE,V1 Zv];rfl),(by simp [XJ]),rfl,rfl,rfl⟩ (wk [3,1,2,0] (ZK j fl) (e:=(rc (rr (ls:=(Z8 (Ui zs)++([ZI x2.fields v3]++Z8 (XA (x1.cons.drop (j+1)))))) Zfe (rr (ls:=(Z8 (Vj ys)++([.i x1.frm,.i x1.to_,.h ⟨some ⟨g2,0,none⟩,x1.cons.length,c2⟩]++Z8 (Yz (ds.drop (k+1)))))) ob (rc rz)))))))))))))))
  refine Jz (Ew 1 u.v 1 (Z8 (Ui zs++XA (x1.cons.drop j))) (Z8 (Ui zs)) (Zfd om)) (Jz (Zii 0 1 (k*3+2) u.v (.slice (some ⟨g1,0,none⟩) ds.length c1) 1 3 (Ui zs) (Z8 (Vj ys)++([.i x1.frm,.i x1.to_,.h u]++Z8 (Yz (ds.drop (k+1))))) (Om _) (by rw [Bv (by rw [CU];omega),CU,Zw];simp)) ?_)
  exact Jz (Ew 0 (.slice (some ⟨g1,0,none⟩) ds.length c1) 3 (List.set ((Z8 (Vj ys)++([.i x1.frm,.i x1.to_,.h u]++Z8 (Yz (ds.drop (k+1))))):List AV) (k*3+2) (Fq zs u.v)) (Z8 (Vj ys)++([.i x1.frm,.i x1.to_,Fq zs u.v]++Z8 (Yz (ds.drop (k+1))))) (Zfk (by rw [CU,Zw]))) (Jz (tB [2,2,1] [.many (QL ys),.many (Qn zs),.tail u.v 1] (QL ys++(Qn zs++((u.v,1)::[]))) (QL (ys++[Vh.mk x1.frm x1.to_ zs u.v])) (by simp [F9,F4,H1,H2,H4,H5,H0,Kf,Ke,F8,DY,Qn,QL,Ba,F5,F6,F7,H3])) (ax 2 (az (ZD k (Z1 (ZG ⟨k+1,(⟨some ⟨g1,0,none⟩,ds.length,c1⟩:Hd),(ys++[Vh.mk x1.frm x1.to_ zs u.v]),ob,(by rw [List.map_append,Zj,V1 Z4,Z2y (XE.trans (Wg om))]),(by simp [Zw]),rfl,rfl,rfl⟩ (wk [1,0] (fw (ZK k fl)) (e:=(rr (ls:=(Z8 (Vj ys)++([.i x1.frm,.i x1.to_,Fq zs u.v]++Z8 (Yz (ds.drop (k+1)))))) Zfh (rc rz))))))))))
 exact ax 0 (Y0 (Jz (Ew 0 v.v 3 (Z8 (Vj ys++Yz (ds.drop k))) (Z8 (Vj ys)) (Zfg om)) (Ri 2 0 (v:=v) (Vj ys) (On _) (ZV (r1 [1,0] ⟨ys,v.v,rfl,rfl,(by rw [Zj,Wg om])⟩)))))
theorem Zb9 (ds:List Zf) (hd:Xt ds:=by exact ob):Zm 81 [Y6 ds] [] (Yw (Y6 ds)):=((Zb8 ds hd).alone fun r h ⟨ys,w,e1,_,e3⟩=>by rw [e1,<-e3];exact Zd.els _ (Z6s ys))
theorem Z4r (c:List Instr) (hl:c.length<=200000000:=by exact ob):Zm 83 [Qu c] [] (fun r h=>∃(v:Hd),r=.h v/\h=[rK v 6 (Z8 (ZA c))]):=by
 refine ZF 8 Tryz.func83 (Y0 (YN 1 (iN (ZA c) (fun hz1=>?_) ?_)))
 ·have hz1:=Z6c hz1
  refine ie (Vq (Y0 (Jz (Cj (k:=6)) ?_)))
  subst hz1
  exact ZV (r2 [0] [nl] ⟨hN,rfl,rfl⟩ (Zd.hd (v:=hN)) (eq:=(rr (ls:=[]) rfl rz)))
 exact ie (V9 (ak (ar (BV 6 fun g1=>Z0 1 (Hc 0 g1 6 (ZA c) none (Ao _) (by simp<;>omega) fun v1=>Zl (r1 [0] ⟨v1,rfl,rfl⟩))))))
theorem Zb7 (im:YA) (lz:Nat) (hz:IZ im lz:=by exact ob) (hlz:lz<=100:=by exact ob) (hd:Xt im.decls:=by exact ob) (hc:∀p∈im.procs,1<=p.code.length):Zm 39 [Vp im] [] (fun r h=>∃(v:Hd) (U:Nat->Hd),r=.agg [Y6 im.decls,.h v]/\h=[rK v 5 (pD (Xf U) im.procs 0),rK (U 0) 6 (Z8 (ZA (cL im.procs 0))),rK (U 1) 6 (Z8 (ZA (cL im.procs 1))),rK (U 2) 6 (Z8 (ZA (cL im.procs 2))),rK (U 3) 6 (Z8 (ZA (cL im.procs 3)))]):=by
 have hil:=hz.len
 refine ZF 64 Tryz.func39 (ar (iA (Vd im) fun b1=>iA [nl,nl] fun b2=>ie (Zq 2 [1] (Zu [] (Zb9 im.decls (hd:=hd)) (Z0 1 (iA [nl,nl] fun b3=>?_))))))
 refine Zz 0 b3 [Y6 im.decls,nl] (ie (Yr 2 [2] (iw (KG im.procs) (Xe (Z2g 0 b3 [Y6 im.decls,nl] [Y6 im.decls,.h hN] (.cons (lr _) (.cons (Zd.hd (v:=hN)) .nil))) (Xe (Cj (k:=5)) (Xe (tU0 (im.procs.take 0) rfl) (Xe (G0 [5,5,5,0,0,0,0,0] (h':=[.obj b3 [Y6 im.decls,.h hN],.obj b2 [nl,nl],.obj b1 (Vd im),rK (U0 0) 6 (Z8 (ZA (cL (im.procs.take 0) 0))),rK (U0 1) 6 (Z8 (ZA (cL (im.procs.take 0) 1))),rK (U0 2) 6 (Z8 (ZA (cL (im.procs.take 0) 2))),rK (U0 3) 6 (Z8 (ZA (cL (im.procs.take 0) 3))),rK hN 5 []]) (d:=[]) kr) (Z1 (ab 0 (Y3 (fun fz gz m F h=>∃(k:Nat) (v:Hd) (U:Nat->Hd),(k<=im.procs.length)/\F=sF [2,3,13,14] fz [(15,.i k)]/\h=[.obj b3 [Y6 im.decls,.h v],Zh gz 1,rK v 5 (pD (Xf U) (im.procs.take k) 0),rK (U 0) 6 (Z8 (ZA (cL (im.procs.take k) 0))),rK (U 1) 6 (Z8 (ZA (cL (im.procs.take k) 1))),rK (U 2) 6 (Z8 (ZA (cL (im.procs.take k) 2))),rK (U 3) 6 (Z8 (ZA (cL (im.procs.take k) 3)))]/\m=im.procs.length-k) _ _ _ ⟨0,hN,U0,ob,rfl,rfl,rfl⟩ (wk [0,0,5,1,1,1,1] (Yf fl) (e:=(rc (rc (rr (ls:=[]) (by first|rfl|exact pAll_zero.symm) (rc (rc (rc (rc rz))))))))) ?_))))))))))
 rintro m F h ⟨k,v,U,Yi,rfl,rfl,rfl⟩
 refine Y0 (aq (WJ ((k:Int)<(im.procs.length:Int)) (fun Zc=>?_) (fun Zc=>?_)))
 ·refine ak (aq (ab 1 (ar ?_)))
  obtain ⟨x1,Z4⟩:=Zt im.procs k om
  have hpm:=Y1 Z4
  have hpz:=hz.procs _ hpm
  have Ya:=hpz.params
  have Ys:=hpz.lent
  have YR:=hpz.len
  have X2:=hc _ hpm
  refine Zp (Zk none (k:Int) 5 (QG Z4)) (Z0 1 (iA [nl,nl,.i 0,.i 0,nl] fun b4=>Zz 0 b4 (T7 x1) (ie (aD 15 (ZY 9 15 [0,1,3,4,6,7] [0,0,0] (Z9 2 (dc 2 [] [0,0] [b4,b4] (EN x1.params) ?_)))))))
  rintro _ _ ⟨v1,rfl,rfl⟩
  refine Zs 7 8 [9] (Z9 5 (dc 5 [] [0] [b4] (EN x1.lent) ?_))
  rintro _ _ ⟨v2,rfl,rfl⟩
  refine Z9 8 (dc 8 [] [] [] (Z4r x1.code) ?_)
  rintro _ _ ⟨v3,rfl,rfl⟩
  refine Z5f 0 x1.code.length (v:=v3) (Uk _) om (fun g1 c1 he1=>?_)
  subst he1
  refine Z9 10 (YX 10 3 [] [] b4 [ZI x1.params v1,Z3 x1.lent,.i x1.result,.i x1.regs,Qu x1.code] (Zs 3 4 [11] (Z9 12 (YX 12 0 [] [] b4 [ZI x1.params v1,ZI x1.lent v2,.i x1.result,.i x1.regs,Qu x1.code] (Zs 1 2 [13] (Z9 14 (YX 14 0 [] [] b4 [ZI x1.params v1,ZI x1.lent v2,.i x1.result,.i x1.regs,.ms g1 0 x1.code.length c1] (de (Yr 2 [0] (io (.i x1.code.length) (.i x1.code.length) (lr _) (Z1 (ab 2 (Y3 (fun fz gz m F h=>∃(j:Nat),(j<=x1.code.length)/\F=sF [2,3,5,13,14,15,32,33] fz [(34,.i j)]/\h=[Zh gz 0,Zh gz 1,Zh gz 4,Zh gz 5,Zh gz 6,Zh gz 7,Zh gz 8,Zh gz 9,Zh gz 10,Zh gz 3,Zh gz 2]/\m=x1.code.length-j) _ _ _ ⟨0,ob,rfl,rfl,rfl⟩ (wk [0,0,2,2,2,2,2,2,2,1,0] (Yf fl)) ?_)))))))))))))
  rintro m F h ⟨j,VB,rfl,rfl,rfl⟩
  refine Y0 (aq (WJ ((j:Int)<(x1.code.length:Int)) (fun Zi=>?_) (fun Zi=>?_)))
  ·obtain ⟨xi,hxi⟩:=Zt x1.code j om
   have hxl:=(hpz.code _ (Y1 hxi)).l
   refine ak (aq (ab 3 (Yc 1 (Zp (XC g1 x1.code.length c1 j 6 (j:Int)) (Vm (WC 1 g1 x1.code.length c1 6 (j*6) (Z8 (ZA x1.code)) (Wt xi) 35 (T0 xi) (DQ hxi)) (iA [.i 0,.i 0,.i 0,.i 0,nl,nl] fun b5=>Z0 1 (Zz 0 b5 (Wt xi) (ie (aE 18 (ZY 8 18 [0,1,2,3,4,5,6,7,9,10] [1,1,0,0] (Z9 8 (dc 8 [] [0,1,1] [b5,b4,b4] (EN xi.args) ?_))))))))))))
   rintro _ _ ⟨v4,rfl,rfl⟩
   refine Z9 11 (dc 11 [] [1,1] [b4,b4] (EN xi.jumps) ?_)
   rintro _ _ ⟨v5,rfl,rfl⟩
   exact dx 12 (XC g1 x1.code.length c1 j 6 (j:Int)) (Zs 4 5 [13] (Z9 14 (QE 14 4 [1] [b4] g1 x1.code.length c1 6 (j*6+4) [ZI xi.args v4] (Z8 (ZA x1.code)) ((Z8 (ZA x1.code)).take (j*6+4)++[ZI xi.args v4]++(Z8 (ZA x1.code)).drop (j*6+4+1)) (by rw [Uk];simp only [Yq,YY];omega) rfl (JE (Z29 0 (.slice (some ⟨g1,0,none⟩) x1.code.length c1) 6 ((Z8 (ZA x1.code)).take (j*6+4)++[ZI xi.args v4]++(Z8 (ZA x1.code)).drop (j*6+4+1)) (Z8 (ZA x1.code)) (Z82 hxi)) (JE (G0 [0,0,0,0,0,0,0,5,5,0,0,0,0,0] (h':=[.row (.slice (some ⟨g1,0,none⟩) x1.code.length c1) 6 (Z8 (ZA x1.code)),.tail v5 1,.tail v4 1,.obj b5 (Wt xi),.obj b4 [ZI x1.params v1,ZI x1.lent v2,.i x1.result,.i x1.regs,.ms g1 0 x1.code.length c1],.obj b3 [Y6 im.decls,.h v],.obj b2 [nl,nl],.tail v1 1,.tail v2 1,rK v 5 (pD (Xf U) (im.procs.take k) 0),rK (U 0) 6 (Z8 (ZA (cL (im.procs.take k) 0))),rK (U 1) 6 (Z8 (ZA (cL (im.procs.take k) 1))),rK (U 2) 6 (Z8 (ZA (cL (im.procs.take k) 2))),rK (U 3) 6 (Z8 (ZA (cL (im.procs.take k) 3)))]) (d:=[]) kr) (dx 15 (XC g1 x1.code.length c1 j 6 (j:Int)) (Zs 1 2 [16] (Z9 17 (QE 17 0 [] [] g1 x1.code.length c1 6 (j*6+5) [ZI xi.jumps v5] (Z8 (ZA x1.code)) ((Z8 (ZA x1.code)).take (j*6+5)++[ZI xi.jumps v5]++(Z8 (ZA x1.code)).drop (j*6+5+1)) (by rw [Uk];simp only [Yq,YY];omega) rfl (JE (Z29 0 (.slice (some ⟨g1,0,none⟩) x1.code.length c1) 6 ((Z8 (ZA x1.code)).take (j*6+5)++[ZI xi.jumps v5]++(Z8 (ZA x1.code)).drop (j*6+5+1)) (Z8 (ZA x1.code)) (Z84 hxi)) (de (az (ZD j (Z1 (ZG ⟨j+1,ob,rfl,rfl,rfl⟩ (wk [4,0,3,3,5,5,5,5,5,3,3] (ZK j fl)))))))))))))))))
  exact ax 2 (az (QS 3 [(58,.agg [Z3 x1.params,Z3 x1.lent,.i x1.result,.i x1.regs,.ms g1 0 x1.code.length c1])] [2,0] (iL [.agg [Z3 x1.params,Z3 x1.lent,.i x1.result,.i x1.regs,.ms g1 0 x1.code.length c1]] 1 5 fun v6=>ZU 0 [(59,.sl [.agg [Z3 x1.params,Z3 x1.lent,.i x1.result,.i x1.regs,.ms g1 0 x1.code.length c1]] none)] (Fa 5 k v 5 (pD (Xf U) (im.procs.take k) 0) [.agg [Z3 x1.params,Z3 x1.lent,.i x1.result,.i x1.regs,.ms g1 0 x1.code.length c1]] none (by rw [KR,W1,VH om]) (KM rfl) rfl (List.cons_ne_nil _ _) (by simp<;>omega) fun v7=>Z0 1 (Zz 4 b3 [Y6 im.decls,.h v7] (Xe (Z28 4 5 5 5 5 U im.procs k x1 (⟨some ⟨g1,0,none⟩,x1.code.length,c1⟩:Hd) Z4 om) (ie (az (ZD k (Z1 (ZG ⟨k+1,v7,(U5 U k (⟨some ⟨g1,0,none⟩,x1.code.length,c1⟩:Hd)),ob,rfl,rfl,rfl⟩ (wk [4,7,4,0,0,0,0] (ZK k fl) (e:=(rc (rc (rr (ls:=pD (Xf U) (im.procs.take k) 0++Z8 [.agg [Z3 x1.params,Z3 x1.lent,.i x1.result,.i x1.regs,.ms g1 0 x1.code.length c1]]) (by first|rfl|exact Sb (u:=(⟨some ⟨g1,0,none⟩,x1.code.length,c1⟩:Hd)) Z4) (rc (rc (rc (rc rz))))))))))))))))))))
 exact ax 0 (Zq 1 [0] (Zz 1 b2 [Y6 im.decls,.h v] (ie (ZV (r3 [2,2,2,2,2] [.agg [Y6 im.decls,.h v]] [0] [(b2,b2)] ⟨v,U,rfl,rfl⟩ (lr _) (eq:=(rr (ls:=pD (Xf U) (im.procs.take k) 0) (by rw [Wg om]) (rr (ls:=Z8 (ZA (cL (im.procs.take k) 0))) (by rw [Wg om]) (rr (ls:=Z8 (ZA (cL (im.procs.take k) 1))) (by rw [Wg om]) (rr (ls:=Z8 (ZA (cL (im.procs.take k) 2))) (by rw [Wg om]) (rr (ls:=Z8 (ZA (cL (im.procs.take k) 3))) (by rw [Wg om]) rz)))))))))))
theorem Zb6 (cs:List Instr) (k:Nat) (reg:Int) (g:Nat) (nq:Nat) (c:Nat) (hB:BB cs:=by exact ob) (hn:cs.length=nq:=by exact ob) (hk:k<nq:=by exact ob) (hl:nq<=200000000:=by exact ob):Zm 40 [.ms g 0 nq c,.i k,.i reg] [.row (.slice (some ⟨g,0,none⟩) nq c) 6 (Z8 (ZA cs))] (fun r h=>r=.b (Vz cs k reg)/\h=[.row (.slice (some ⟨g,0,none⟩) nq c) 6 (Z8 (ZA cs))]):=by
 refine ZF 45 Tryz.func40 (Y0 (ab 0 (Y3 (fun fz gz m F h=>∃(j:Nat) (rg:Int),(j<nq)/\(Vz cs j rg=Vz cs k reg)/\F=sF [0] fz [(1,.i j),(2,.i rg)]/\h=gz/\m=nq-j) _ _ _ ⟨k,reg,ob,rfl,rfl,rfl,rfl⟩ (wk [0] fl) ?_)))
 rintro m F h ⟨j,rg,Yi,Zj,rfl,rfl,rfl⟩
 obtain ⟨xi,hxi⟩:=Zt cs j om
 refine ab 1 (Yc 2 (Zp (XC g nq c j 6 (j:Int)) (Vm (WC 0 g nq c 6 (j*6) (Z8 (ZA cs)) (Wt xi) 35 (T0 xi) (DQ hxi)) (iA [.i 0,.i 0,.i 0,.i 0,nl,nl] fun b1=>Zz 0 b1 (Wt xi) (ie (ab 2 (Q3 [0] (ac (xi.op==22) Zg (fun Zc=>?_) (fun Zc=>?_)))))))))
 ·exact az (WQ [0] (⟨_,_,_,(by have:=hB.j _ _ hxi (by assumption);omega),⟨xi.num.toNat,rg,(by have:=hB.j _ _ hxi (by assumption);omega),((MM hB.fwd hxi (by assumption)).trans Zj),rfl,rfl,rfl⟩,(wk [1] (fc (x:=.i xi.num) (li (by have:=hB.j _ _ hxi (by assumption);omega)) fl))⟩))
 refine Zq 4 [0] (ib (b:=(xi.op==18)) 33 (fun Ze=>?_) (fun Ze=>?_))
 ·have Ya:xi.op=18:=(Zg).1 Ze
  refine ZC 2 [0] ?_
  obtain ⟨x1,Z4⟩:=Zt xi.args 0 (by first|exact J0.2 (hB.a _ _ hxi (.inl om))|exact J0.2 (hB.a _ _ hxi (.inr om)))
  have hg:=QI Z4
  refine Zp (Zk none 0 1 (Y4 Z4)) (Yx (x1==rg) Zg (fun Zi=>?_) (fun Zi=>?_))
  ·exact Q3 [0] (az (Z0 1 (ZD j (Z1 (ZG ⟨j+1,xi.dst,(by have:=hB.l _ _ hxi om;omega),((Z0f hB.fwd hxi ⟨by omega,by rw [hg];omega⟩).trans Zj),rfl,rfl,rfl⟩ (wk [1] (ZK j fl)))))))
  refine ar (X8 11 [] [(22,.b ((xi.op==23)&&(x1==rg)))] (fun gz=>gz) ?_ (fun hj1=>?_))
  ·exact Zl (r2 [1] [.b ((xi.op==23)&&(x1==rg))] ⟨rfl,rfl⟩ (lb (by first|(rw [<-Zj,<-Ks hxi (fun z=>by simp_all) (by assumption)];simp_all;done)|(rw [<-Zj,<-Ks hxi (fun z=>by simp_all) (by assumption)];simp_all;rw [Ye];simp))))
  refine ZC 4 [0] (ib (b:=(xi.op==23)) 15 (fun ZE=>?_) (fun ZE=>?_))
  ·have Ys:xi.op=23:=(Zg).1 ZE
   exact ZC 2 [0] (Zp (Zk none 0 1 (Y4 Z4)) (Z0 4 (Y8 (wk [0,0] (Zo (x1==rg) ZE fl)) hj1)))
  have YR:¬(xi.op=23):=Y9 Zg ZE
  exact Z0 7 (Y8 (wk [0,0] (Zo false ZE fl)) hj1)
 have X2:¬(xi.op=18):=Y9 Zg Ze
 refine Z1 (V9 (Zq 4 [0] (ib (b:=(xi.op==23)) 15 (fun Ym=>?_) (fun Ym=>?_))))
 ·have Xk:xi.op=23:=(Zg).1 Ym
  refine ZC 2 [0] ?_
  obtain ⟨x2,Zv⟩:=Zt xi.args 0 (by first|exact J0.2 (hB.a _ _ hxi (.inl om))|exact J0.2 (hB.a _ _ hxi (.inr om)))
  have hg:=QI Zv
  exact Zp (Zk none 0 1 (Y4 Zv)) (Zl (r2 [1] [.b (x2==rg)] ⟨rfl,rfl⟩ (lb (by first|(rw [<-Zj,<-Ks hxi (fun z=>by simp_all) (by assumption)];simp_all;done)|(rw [<-Zj,<-Ks hxi (fun z=>by simp_all) (by assumption)];simp_all;rw [Ye];simp)))))
 have XU:¬(xi.op=23):=Y9 Zg Ym
 exact Zl (r2 [1] [.b false] ⟨rfl,rfl⟩ (lb (by first|(rw [<-Zj,<-Ks hxi (fun z=>by simp_all) (by assumption)];simp_all;done)|(rw [<-Zj,<-Ks hxi (fun z=>by simp_all) (by assumption)];simp_all;rw [Ye];simp))))
theorem Zb3 (im:YA) (lz:Nat) (hz:IZ im lz:=by exact ob) (hlz:lz<=100:=by exact ob):Zm 15 [Vp im] [] (Yw (.tup [Vp ((VF im).1),.b ((VF im).2)])):=by
 have hil:=hz.len
 refine ZF 55 Tryz.func15 (ar (iA (Vd im) fun b1=>iA [nl,nl] fun b2=>Z1 (Yr 1 [1] (Zu [] (PV im lz (hz:=hz)) (Yx (!(XM im)) (p:=¬((XM im)=true)) (Yl Iff.rfl) (fun Zc=>?_) (fun Zc=>?_))))))
 ·refine Yc 1 (Zz 0 b2 [nl,nl] (Z1 ?_))
  have hE:=Zil Zc
  exact ZV (r3 [] [.agg [nl,nl],.b false] [0] [(b2,b2)] ⟨rfl,rfl⟩ (Zd.tup (.cons (Zd.agg (.cons (Zd.sl _ (by rw [hE];rfl)) (.cons (Zd.sl _ (by rw [hE];rfl)) .nil))) (.cons (lb (by rw [hE])) .nil))))
 have hV:XM im=true:=UY.1 Zc
 obtain ⟨Xr,hl4,_⟩:=Zge hV
 refine ak (Zq 1 [1] (ic [] (Zb7 im lz (hz:=hz) (hd:=Xr) (hc:=(fun p hp=>(PT hV hp).1))) ?_))
 rintro _ _ ⟨v1,U1,rfl,rfl⟩
 refine D5 0 im.procs.length (v:=v1) (KR (Xf U1) im.procs 0) om (fun g1 c1 he1=>?_)
 subst he1
 refine iA [nl,nl] fun b3=>?_
 refine Zz 0 b3 [Y6 im.decls,.ms g1 0 im.procs.length c1] (ie (Yr 2 [0] (io (.i im.procs.length) (.i im.procs.length) (lr _) (Z1 (ab 0 (Y3 (fun fz gz m F h=>∃(k:Nat),(k<=im.procs.length)/\F=sF [2,4,16,17] fz [(18,.i k)]/\h=[Zh gz 0,Zh gz 6,.row (.slice (some ⟨g1,0,none⟩) im.procs.length c1) 5 (pD (Xf U1) (VG im.procs k) 0),rK (U1 0) 6 (Z8 (ZA (cL (VG im.procs k) 0))),rK (U1 1) 6 (Z8 (ZA (cL (VG im.procs k) 1))),rK (U1 2) 6 (Z8 (ZA (cL (VG im.procs k) 2))),rK (U1 3) 6 (Z8 (ZA (cL (VG im.procs k) 3)))]/\m=im.procs.length-k) _ _ _ ⟨0,ob,rfl,rfl,rfl⟩ (wk [0,5,0,0,0,0,0] (Yf fl) (e:=(rc (rc (rr (ls:=pD (Xf U1) im.procs 0) (by rw [FY]) (rr (ls:=Z8 (ZA (cL im.procs 0))) (by rw [FY]) (rr (ls:=Z8 (ZA (cL im.procs 1))) (by rw [FY]) (rr (ls:=Z8 (ZA (cL im.procs 2))) (by rw [FY]) (rr (ls:=Z8 (ZA (cL im.procs 3))) (by rw [FY]) rz))))))))) ?_))))))
 rintro m F h ⟨k,Yi,rfl,rfl,rfl⟩
 refine Y0 (aq (WJ ((k:Int)<(im.procs.length:Int)) (fun Zi=>?_) (fun Zi=>?_)))
 ·refine ak (aq (ab 1 (ar ?_)))
  obtain ⟨xp,hxq⟩:=Zt im.procs k om
  have hxp:=Zip hxq
  have hpm:=Y1 hxq
  have hbb:=PS hV hpm
  have hpl:=PT hV hpm
  obtain ⟨uf1,huf1⟩:∃u:Hd,u=U1 k:=⟨_,rfl⟩
  refine Xe (Na 3 3 3 3 U1 (VG im.procs k) k uf1 xp.code om huf1 (BI hxp)) (D5 0 xp.code.length (v:=uf1) (Uk _) om (fun g2 c2 he2=>?_))
  subst he2
  refine Xe (G0 [0,3,3,3,0,0,0] (h':=[.row (.slice (some ⟨g2,0,none⟩) xp.code.length c2) 6 (Z8 (ZA xp.code)),.obj b3 [Y6 im.decls,.ms g1 0 im.procs.length c1],.obj b2 [nl,nl],.row (.slice (some ⟨g1,0,none⟩) im.procs.length c1) 5 (pD (Xf U1) (VG im.procs k) 0),rK (U1 ((k+1) % 4)) 6 (Z8 (ZA (cL (VG im.procs k) ((k+1) % 4)))),rK (U1 ((k+2) % 4)) 6 (Z8 (ZA (cL (VG im.procs k) ((k+2) % 4)))),rK (U1 ((k+3) % 4)) 6 (Z8 (ZA (cL (VG im.procs k) ((k+3) % 4))))]) (d:=[]) kr) (Zp (XC g1 im.procs.length c1 k 5 (k:Int)) (Vm (WC 3 g1 im.procs.length c1 5 (k*5) (pD (Xf U1) (VG im.procs k) 0) [Z3 xp.params,Z3 xp.lent,.i xp.result,.i xp.regs,.ms g2 0 xp.code.length c2] 32 (.agg [Z3 xp.params,Z3 xp.lent,.i xp.result,.i xp.regs,.ms g2 0 xp.code.length c2]) (by have h:=MA (D:=Xf U1) hxp;rw [show Au (Xf U1 k) xp=BY xp (U1 k).v from rfl,<-huf1] at h;exact h)) (iA [nl,nl,.i 0,.i 0,nl] fun b4=>?_)))
  refine Zz 0 b4 [Z3 xp.params,Z3 xp.lent,.i xp.result,.i xp.regs,.ms g2 0 xp.code.length c2] (ie (Zq 2 [0] (io (.i xp.code.length) (.i xp.code.length) (lr _) (Z1 (ab 2 (Y3 (fun fz gz m F h=>∃(j:Nat) (cs:List Instr),(j<=xp.code.length)/\(cs=TU xp.code j)/\F=sF [2,4,6,16,17,18,23,24] fz [(25,.i j)]/\h=[Zh gz 0,Zh gz 2,Zh gz 3,.row (.slice (some ⟨g2,0,none⟩) xp.code.length c2) 6 (Z8 (ZA cs)),Zh gz 4,Zh gz 5,Zh gz 6,Zh gz 7]/\m=xp.code.length-j) _ _ _ ⟨0,xp.code,ob,(Zio _).symm,rfl,rfl,rfl⟩ (wk [0,1,1,0,0,0,0,0] (Yf fl)) ?_))))))
  rintro m F h ⟨j,cs,VB,XE,rfl,rfl,rfl⟩
  refine Y0 (aq (WJ ((j:Int)<(xp.code.length:Int)) (fun ZB=>?_) (fun ZB=>?_)))
  ·obtain ⟨xi,hxi⟩:=Zt xp.code j om
   have hxc:cs[j]? = some xi:=by rw [XE];exact Z2b hxi
   have hcl:cs.length=xp.code.length:=by rw [XE,Ex]
   refine ak (aq (ab 3 (Yc 1 (Zp (XC g2 xp.code.length c2 j 6 (j:Int)) (Vm (WC 3 g2 xp.code.length c2 6 (j*6) (Z8 (ZA cs)) (Wt xi) 35 (T0 xi) (DQ hxc)) (iA [.i 0,.i 0,.i 0,.i 0,nl,nl] fun b5=>Z0 1 (Zz 0 b5 (Wt xi) (ie (ar (Xs [2,4,6,7,16,17,18,23,24,25] [(41,.b ((xi.op==9)&&(Vz cs (j+1) xi.dst)))] (fun gz=>[Zh gz 4,Zh gz 0,Zh gz 1,Zh gz 2,Zh gz 3,Zh gz 5,Zh gz 6,Zh gz 7,Zh gz 8]) ?_ ?_))))))))))
   ·refine ZC 4 [0] (ib (b:=(xi.op==9)) 33 (fun Ze=>?_) (fun Ze=>?_))
    ·have Ya:xi.op=9:=(Zg).1 Ze
     exact ZC 3 [1] (ZD j (ZC 2 [0] (Zu [4] (Zb6 cs (j+1) xi.dst g2 xp.code.length c2 (hB:=(by rw [XE];exact hbb.tj j)) (hk:=(hbb.l j xi hxi ⟨by omega,by omega⟩))) (Z1 (Zy 9 (Zo (Vz cs (j+1) xi.dst) Ze fl))))))
    have Ys:¬(xi.op=9):=Y9 Zg Ze
    exact Z1 (wk [4,0,0,0,0,0,0,0,0] (Zo false Ze fl))
   refine ac ((xi.op==9)&&(Vz cs (j+1) xi.dst)) (p:=(xi.op=9)/\((Vz cs (j+1) xi.dst)=true)) (Yt Zg Iff.rfl) (fun Y7=>?_) (fun Y7=>?_)
   ·refine aE 12 (ZY 6 12 [0,1,2,3,4,5] [2,2] (dx 6 (XC g2 xp.code.length c2 j 6 (j:Int)) (Zs 4 5 [7] (Z9 8 (QE 8 0 [1] [b4] g2 xp.code.length c2 6 (j*6) [.i 24] (Z8 (ZA cs)) (Z8 (ZA (cs.set j (Instr.mk 24 xi.dst xi.num xi.into xi.args xi.jumps)))) (by rw [Uk];simp only [Yq,YY,V4];omega) (Z85 24 hxc) (dx 9 (XC g2 xp.code.length c2 j 6 (j:Int)) (Zs 1 2 [10] (Z9 11 (QE 11 0 [] [] g2 xp.code.length c2 6 (j*6+1) [.i 0] (Z8 (ZA (cs.set j (Instr.mk 24 xi.dst xi.num xi.into xi.args xi.jumps)))) (Z8 (ZA ((cs.set j (Instr.mk 24 xi.dst xi.num xi.into xi.args xi.jumps)).set j (Instr.mk 24 0 xi.num xi.into xi.args xi.jumps)))) (by rw [Uk];simp only [Yq,YY,V4];omega) (Z83 0 (List.getElem?_set_self om)) ?_)))))))))
    exact de (az (ZD j (Z1 (ZG ⟨j+1,((cs.set j (Instr.mk 24 xi.dst xi.num xi.into xi.args xi.jumps)).set j (Instr.mk 24 0 xi.num xi.into xi.args xi.jumps)),ob,(by rw [Z2c hxi,<-XE,List.set_set,UU,Zb ⟨Y7.1,by rw [<-Z0g _ j,<-XE];exact Y7.2⟩,Zb0 hV hpm hxi Y7.1]),rfl,rfl,rfl⟩ (wk [2,2,2,0,1,1,1,1] (ZK j fl))))))
   exact ak (az (ZD j (Z1 (ZG ⟨j+1,cs,ob,(by rw [Zin hxi (by rw [UU,Z5 (fun z=>Y7 ⟨z.1,by rw [XE,Z0g];exact z.2⟩)])];exact XE),rfl,rfl,rfl⟩ (wk [2,2,2,0,1,1,1,1] (ZK j fl))))))
  have hcs:cs=VY xp.code:=by rw [XE,Zim om]
  exact Jz (Dl 3 4 4 4 U1 (VG im.procs k) (VG im.procs (k+1)) k (⟨some ⟨g2,0,none⟩,xp.code.length,c2⟩:Hd) cs om huf1 (by rw [Nf hxq,Dx hxp,hcs];rfl) (fun i hi=>by rw [Nf hxq];exact Dw hi)) (ax 2 (az (ZD k (Z1 (ZG ⟨k+1,ob,rfl,rfl,rfl⟩ (wk [5,5,5,0,0,0,0] (ZK k fl) (e:=(rc (rc (rr (ls:=pD (Xf U1) (VG im.procs k) 0) (by first|rfl|(rw [Nf hxq];exact (Mx hxp).symm)) (rc (rc (rc (rc rz))))))))))))))
 refine ax 0 (ar (Xe (Ch 2 2 2 2 2 U1 (VG im.procs k) (.slice (some ⟨g1,0,none⟩) im.procs.length c1) (by rw [Zir];omega)) (Xe (Uv 0 0 1 (.slice (some ⟨g1,0,none⟩) im.procs.length c1) 5 b3 (Wm (VG im.procs k)) [Y6 im.decls,.ms g1 0 im.procs.length c1] (J9 _) rfl) (ZC 1 [0] (Zz 2 b2 [Y6 im.decls,Ue (VG im.procs k) (.slice (some ⟨g1,0,none⟩) im.procs.length c1)] (Z1 ?_))))))
 have hE:=Ih hV
 exact ZV (r3 [] [.agg [Y6 im.decls,Ue (VG im.procs k) (.slice (some ⟨g1,0,none⟩) im.procs.length c1)],.b true] [0] [(b2,b2)] ⟨rfl,rfl⟩ (Zd.tup (.cons (Zd.agg (.cons (Zd.sl _ (Yg Yz (by rw [hE];rfl))) (.cons (Zd.sl _ (Yg Wm (by rw [hE];exact Ziq om))) .nil))) (.cons (lb (by rw [hE])) .nil))))
theorem Hs (xs:LI) (ys:LI) (hxl:xs.length<=1000000000:=by exact ob) (hyl:ys.length<=1000000000:=by exact ob):Zm 21 [Z3 xs,Z3 ys] [] (Yw (.b (decide (xs=ys)))):=by
 refine ZF 26 Tryz.func21 (Y0 (YN 1 (iw (Yd xs) (Z0 1 (iw (Yd ys) (Yx ((xs.length:Int) != (ys.length:Int)) Yn (fun Zc=>?_) (fun Zc=>?_)))))))
 ·exact ar (Zl (ZM (.b false) (lb (decide_eq_false (fun z=>Zc (by rw [z]))).symm)))
 refine ak (Y5 (ab 0 (Y3 (fun fz gz m F h=>∃(k:Nat),(k<=xs.length)/\(∀i,i<k->xs[i]? = ys[i]?)/\F=sF [0,1] fz [(5,.i k)]/\h=gz/\m=xs.length-k) _ _ _ ⟨0,ob,(fun i h=>absurd h om),rfl,rfl,rfl⟩ (wk [] (Yf fl)) ?_)))
 rintro m F h ⟨k,Yi,Zj,rfl,rfl,rfl⟩
 refine YN 2 (iw (Yd xs) (Y2 ((k:Int)<(xs.length:Int)) (fun Zi=>?_) (fun Zi=>?_)))
 ·refine ak (aq (ab 1 (aD 9 (Zs 7 9 [0,1] ?_))))
  obtain ⟨x1,Z4⟩:=Zt xs k om
  refine dx 2 (Zk none (k:Int) 1 (Y4 Z4)) (Zs 3 6 [3,4,5] ?_)
  obtain ⟨x2,Zv⟩:=Zt ys k om
  refine dx 6 (Zk none (k:Int) 1 (Y4 Zv)) (Zs 0 2 [7,8] (de (ac (x1 != x2) Yn (fun ZB=>?_) (fun ZB=>?_))))
  ·exact ar (Zl (ZM (.b false) (lb (decide_eq_false (fun z=>ZB (by rw [z,Zv] at Z4;cases Z4;rfl))).symm)))
  exact ak (az (Z0 1 (ZD k (Z1 (ZG ⟨k+1,ob,(fun i h=>(Nat.lt_succ_iff_lt_or_eq.1 h).elim (Zj i) (fun z=>by rw [z,Z4,Zv,UY.1 ZB])),rfl,rfl,rfl⟩ (wk [] (ZK k fl)))))))
 exact ax 0 (ar (Zl (ZM (.b true) (lb (decide_eq_true (Z6o om (fun i hi=>Zj i om))).symm))))
theorem Zbi (x:Instr) (k:Nat) (hk:k<=200000000:=by exact ob):Zm 45 [T0 x,.i k] [] (Yw (Z3 (Xc k x))):=by
 refine ZF 29 Tryz.func45 (ar (iA (Wt x) fun b1=>Z1 (Xh (WQ [0] (ab 0 (ar (Yx (x.op==22) Zg (fun Zc=>?_) (fun Zc=>?_))))))))
 ·exact Zq 2 [0] (iL (Z6 [x.num]) 1 1 fun v1=>Zl (ZM (ZI [x.num] v1) (Zd.sl _ (Yg Z6 (by first|(rw [Xc,Zb om];rfl)|(rw [Xc,Z5 om,Zb om];rfl)|(rw [Xc,Z5 om,Z5 om,Zb om];rfl)|(rw [Xc,Z5 om,Z5 om,Z5 om,Zb om];rfl)|(rw [Xc,Z5 om,Z5 om,Z5 om,Z5 om];rfl)|(rw [Xc,Zb om])|(rw [Xc,Z5 om,Zb om])|(rw [Xc,Z5 om,Z5 om,Zb om])|(rw [Xc,Z5 om,Z5 om,Z5 om,Zb om])|(rw [Xc,Z5 om,Z5 om,Z5 om,Z5 om]))))))
 refine ar (Yx (x.op==20) Zg (fun Zi=>?_) (fun Zi=>?_))
 ·exact Yc 1 (ZD k (ZC 2 [0] (iL (Z6 [((k+1:Nat):Int),x.num]) 2 1 fun v2=>Zl (ZM (ZI [((k+1:Nat):Int),x.num] v2) (Zd.sl _ (Yg Z6 (by first|(rw [Xc,Zb om];rfl)|(rw [Xc,Z5 om,Zb om];rfl)|(rw [Xc,Z5 om,Z5 om,Zb om];rfl)|(rw [Xc,Z5 om,Z5 om,Z5 om,Zb om];rfl)|(rw [Xc,Z5 om,Z5 om,Z5 om,Z5 om];rfl)|(rw [Xc,Zb om])|(rw [Xc,Z5 om,Zb om])|(rw [Xc,Z5 om,Z5 om,Zb om])|(rw [Xc,Z5 om,Z5 om,Z5 om,Zb om])|(rw [Xc,Z5 om,Z5 om,Z5 om,Z5 om]))))))))
 refine ar (Yx (x.op==21) Zg (fun ZB=>?_) (fun ZB=>?_))
 ·exact Q3 [0] (ZV (ZM (Z3 x.jumps) (Zd.sl _ (Yg Z6 (by first|(rw [Xc,Zb om];rfl)|(rw [Xc,Z5 om,Zb om];rfl)|(rw [Xc,Z5 om,Z5 om,Zb om];rfl)|(rw [Xc,Z5 om,Z5 om,Z5 om,Zb om];rfl)|(rw [Xc,Z5 om,Z5 om,Z5 om,Z5 om];rfl)|(rw [Xc,Zb om])|(rw [Xc,Z5 om,Zb om])|(rw [Xc,Z5 om,Z5 om,Zb om])|(rw [Xc,Z5 om,Z5 om,Z5 om,Zb om])|(rw [Xc,Z5 om,Z5 om,Z5 om,Z5 om]))))))
 refine Y5 (Xy (fun fz gz F h=>F=sF [1] fz [(23,.b ((x.op==23)||(x.op==24)))]/\h=gz) ?_ ?_)
 ·refine ac (x.op==23) Zg (fun Y7=>?_) (fun Y7=>?_)
  ·exact ak (ZJ ⟨rfl,rfl⟩ (wk [0] (fc (x:=.b (x.op==23)) (lb (by first|rfl|(rw [Zb Y7])|(rw [Z5 Y7])|(simp [Y7];done)|(rw [Ye];simp [Y7];done)|omega)) fl)))
  exact Vk (ZJ ⟨rfl,rfl⟩ (wk [0] (fc (x:=.b (x.op==24)) (lb (by first|rfl|(rw [Zb Y7])|(rw [Z5 Y7])|(simp [Y7];done)|(rw [Ye];simp [Y7];done)|omega)) fl)))
 rintro F h ⟨rfl,rfl⟩
 refine ac ((x.op==23)||(x.op==24)) (p:=(x.op=23)∨(x.op=24)) (ZZ Zg Zg) (fun YM=>?_) (fun YM=>?_)
 ·exact ar (Zl (ZM (nl) (Zd.sl _ (by first|(rw [Xc,Zb om];rfl)|(rw [Xc,Z5 om,Zb om];rfl)|(rw [Xc,Z5 om,Z5 om,Zb om];rfl)|(rw [Xc,Z5 om,Z5 om,Z5 om,Zb om];rfl)|(rw [Xc,Z5 om,Z5 om,Z5 om,Z5 om];rfl)|(rw [Xc,Zb om])|(rw [Xc,Z5 om,Zb om])|(rw [Xc,Z5 om,Z5 om,Zb om])|(rw [Xc,Z5 om,Z5 om,Z5 om,Zb om])|(rw [Xc,Z5 om,Z5 om,Z5 om,Z5 om])))))
 exact ak (Yc 1 (ZD k (iL (Z6 [((k+1:Nat):Int)]) 1 1 fun v3=>Zl (ZM (ZI [((k+1:Nat):Int)] v3) (Zd.sl _ (Yg Z6 (by first|(rw [Xc,Zb om];rfl)|(rw [Xc,Z5 om,Zb om];rfl)|(rw [Xc,Z5 om,Z5 om,Zb om];rfl)|(rw [Xc,Z5 om,Z5 om,Z5 om,Zb om];rfl)|(rw [Xc,Z5 om,Z5 om,Z5 om,Z5 om];rfl)|(rw [Xc,Zb om])|(rw [Xc,Z5 om,Zb om])|(rw [Xc,Z5 om,Z5 om,Zb om])|(rw [Xc,Z5 om,Z5 om,Z5 om,Zb om])|(rw [Xc,Z5 om,Z5 om,Z5 om,Z5 om]))))))))
theorem Zbg (R:List Bool) (g:Nat) (nq:Nat) (c:Nat) (hn:R.length=nq:=by exact ob) (hl:nq<=200000000:=by exact ob):Zm 46 [.ms g 0 nq c] [.row (.slice (some ⟨g,0,none⟩) nq c) 1 (Z8 (TC R))] (fun r h=>r=Z3 (VM R)/\h=[.row (.slice (some ⟨g,0,none⟩) nq c) 1 (Z8 (TC R))]):=by
 refine ZF 20 Tryz.func46 (Y0 (Y0 (YN 1 (io (.i nq) (.i nq) (lr _) (Z1 (ab 0 (Gk 1 (Y3 (fun fz gz m F h=>∃(k:Nat) (acc:LI) (v:Value),(k<=nq)/\(acc.length<=k)/\(acc++VU (R.drop k) k=VM R)/\F=sF [6,7] fz [(3,ZI acc v),(8,.i k)]/\h=[.tail v 1,Zh gz 1]/\m=nq-k) _ _ _ ⟨0,[],(.slice none 0 0),ob,ob,rfl,rfl,rfl,rfl⟩ (wk [0,0] (fc (x:=nl) (Zd.slh _ (by first|rfl|(subst_vars;rfl))) (Yf fl))) ?_))))))))
 rintro m F h ⟨k,acc,v,Yi,Zj,Zw,rfl,rfl,rfl⟩
 refine Y0 (aq (WJ ((k:Int)<(nq:Int)) (fun Zc=>?_) (fun Zc=>?_)))
 ·obtain ⟨bk,hbk⟩:=Zt R k om
  refine ak (aq (ab 1 (Yc 1 (Zp (XC g nq c k 1 (k:Int)) (Vm (WC 1 g nq c 1 (k*1) (Z8 (TC R)) [.b bk] 4 (.b bk) (P0 hbk)) (Z1 (ar (Yx bk Iff.rfl (fun Zi=>?_) (fun Zi=>?_)))))))))
  ·exact az (Z0 2 (iL (Z6 [(k:Int)]) 1 1 fun v1=>ZU 0 [(16,Z3 [(k:Int)])] (ip 1 (Z6 (acc++[(k:Int)])) (Z6 acc) (Z6 [(k:Int)]) v none 1 (YE _) (YE _) (W6 _) (by simp<;>omega) (by simp [W8,Z6]) fun v2=>Z1 (az (ZD k (Z1 (ZG ⟨k+1,(acc++[(k:Int)]),v2,ob,(by (try simp only [Yo,Yq,YY])<;>omega),(by have h:=PP hbk Zw;rwa [Zb Zi] at h),rfl,rfl,rfl⟩ (wk [0,1] (fr (ZK k fl))))))))))
  exact ak (az (ZD k (Z1 (ZG ⟨k+1,acc,v,ob,(by (try simp only [Yo,Yq,YY])<;>omega),(by have h:=PP hbk Zw;rwa [Z5 Zi] at h),rfl,rfl,rfl⟩ (wk [0,0] (fr (ZK k fl)))))))
 exact ax 0 (ar (Zl (r2 [1] [ZI acc v] ⟨rfl,rfl⟩ (Zd.sl _ (Yg Z6 (Zaw om Zw))))))
theorem M3 (im:YA) (f:Int) (lz:Nat) (hz:IZ im lz:=by exact ob) (hlz:lz<=100:=by exact ob):Zm 20 [Vp im,.i f] [] (Yw (Z3 (YW im f))):=by
 have hil:=hz.len
 refine ZF 62 Tryz.func20 (ar (iA (Vd im) fun b1=>Z1 (Yr 1 [0] (Zu [] (PV im lz (hz:=hz)) (X8 7 [1,2] [(17,.b ((!(XM im))||(decide (f<0))))] (fun gz=>gz) ?_ (fun hj1=>?_))))))
 ·refine Xs [1,2] [(24,.b (((!(XM im))||(decide (f<0)))||(decide (f>=(im.procs.length:Int)))))] (fun gz=>gz) ?_ ?_
  ·refine Z0 1 (ib (b:=((!(XM im))||(decide (f<0)))) 18 (fun Ze=>?_) (fun Ze=>?_))
   ·have Ya:(¬((XM im)=true))∨(f<0):=((ZZ (Yl Iff.rfl) dq)).1 Ze
    exact Z1 (wk [0] (Zo true Ze fl))
   have Ys:¬((¬((XM im)=true))∨(f<0)):=Y9 (ZZ (Yl Iff.rfl) dq) Ze
   exact ZC 3 [0] (iw (KG im.procs) (Z1 (wk [0] (Zo (decide (f>=(im.procs.length:Int))) Ze fl))))
  refine ac (((!(XM im))||(decide (f<0)))||(decide (f>=(im.procs.length:Int)))) (p:=((¬((XM im)=true))∨(f<0))∨(f>=(im.procs.length:Int))) (ZZ (ZZ (Yl Iff.rfl) dq) dq) (fun Zc=>?_) (fun Zc=>?_)
  ·exact ar (Zl (ZM (nl) (Zd.sl _ (by rw [FD (fun z:XM im=true/\0<=f/\f<im.procs.length=>by rcases Zc with (q|q)|q;exact q z.1;all_goals omega)];rfl))))
  have hV:XM im=true/\0<=f/\f<im.procs.length:=⟨Bu fun z=>Zc (by simp_all),by omega,by omega⟩
  refine ak (Zq 3 [0] ?_)
  obtain ⟨x1,Z4⟩:=Zt im.procs f.toNat om
  have hpm:=Y1 Z4
  have hnb:=DZ hV.1 hpm
  refine Zp (Zk none f 5 (QG Z4)) (Z1 (Yc 1 (iw (Q1 x1.code) (iKM x1.code.length [AV.b false] 1 fun g1=>?_))))
  refine Z1 (Yc 1 (Zp (XC g1 x1.code.length x1.code.length 0 1 0 (hq:=om)) (BW 0 g1 x1.code.length x1.code.length 1 (0*1) [.b true] ((List.replicate x1.code.length [AV.b false]).flatten) (Z8 (TC (Bj x1.code.length))) (by rw [OZ,P1,List.length_replicate];simp only [Yq,YY];omega) (by rw [OZ];exact P2 (i:=0) (by rw [List.length_replicate];omega) true) (ie (YN 1 (iw (Q1 x1.code) (Z1 (ab 0 (Y3 (fun fz gz m F h=>∃(k:Nat) (R:List Bool),(k<=x1.code.length)/\(R.length=x1.code.length)/\(US (x1.code.drop k) k R=Qw x1.code)/\F=sF [6,36,37] fz [(38,.i k)]/\h=[.row (.slice (some ⟨g1,0,none⟩) x1.code.length x1.code.length) 1 (Z8 (TC R))]/\m=x1.code.length-k) _ _ _ ⟨0,(Bj x1.code.length),ob,(HP _),rfl,rfl,rfl,rfl⟩ (wk [0] (Yf fl)) ?_)))))))))
  rintro m F h ⟨k,R,Yi,Zj,Zw,rfl,rfl,rfl⟩
  refine Y0 (aq (WJ ((k:Int)<(x1.code.length:Int)) (fun Zi=>?_) (fun Zi=>?_)))
  ·obtain ⟨bk,hbk⟩:=Zt R k om
   refine ak (aq (ab 1 (Yc 1 ?_)))
   obtain ⟨x2,Zv⟩:=Zt x1.code k om
   have hxz:=((hz.procs _ hpm).code _ (Y1 Zv)).l
   have hnl:=Zdi k x2
   refine Zp (Zk none (k:Int) 6 (K9 Zv)) (Z0 1 (iA [.i 0,.i 0,.i 0,.i 0,nl,nl] fun b2=>Z0 1 (Zz 0 b2 (Wt x2) (ie (Yc 2 (Zp (XC g1 x1.code.length x1.code.length k 1 (k:Int)) (Vm (WC 1 g1 x1.code.length x1.code.length 1 (k*1) (Z8 (TC R)) [.b bk] 4 (.b bk) (P0 hbk)) (ie (ac bk Iff.rfl (fun ZB=>?_) (fun ZB=>?_))))))))))
   ·refine Zq 2 [0] (Zu [] (Zbi x2 k (hk:=om)) (io (.i (((Xc k x2).length:Nat):Int)) (.i (((Z6 (Xc k x2)).length:Nat):Int)) (li (by rw [Yd])) (Z1 (ab 2 (Y3 (fun fz gz m F h=>∃(j:Nat) (Q:List Bool),(j<=(Xc k x2).length)/\(Q.length=x1.code.length)/\(Tt Q ((Xc k x2).drop j)=Tt R (Xc k x2))/\F=sF [6,36,37,38,49,50] fz [(51,.i j)]/\h=[.row (.slice (some ⟨g1,0,none⟩) x1.code.length x1.code.length) 1 (Z8 (TC Q))]/\m=(Xc k x2).length-j) _ _ _ ⟨0,R,ob,Zj,rfl,rfl,rfl,rfl⟩ (wk [1] (Yf fl)) ?_)))))
    rintro m F h ⟨j,Q,VB,XE,XJ,rfl,rfl,rfl⟩
    refine Y0 (aq (WJ ((j:Int)<(((Xc k x2).length:Nat):Int)) (fun Y7=>?_) (fun Y7=>?_)))
    ·refine ak (aq (ab 3 (ar ?_)))
     obtain ⟨x3,YT⟩:=Zt (Xc k x2) j om
     have hnx:=hnb.1 k x2 Zv _ (Y1 YT)
     exact Zp (Zk none (j:Int) 1 (Y4 YT)) (Z1 (az (Z0 2 (Zp (XC g1 x1.code.length x1.code.length x3.toNat 1 x3) (BW 0 g1 x1.code.length x1.code.length 1 (x3.toNat * 1) [.b true] (Z8 (TC Q)) (Z8 (TC (Q.set x3.toNat true))) (by rw [P1,XE];simp only [Yq,YY];omega) (P2 om true) (ie (az (ZD j (Z1 (ZG ⟨j+1,(Q.set x3.toNat true),ob,(by rw [V4];exact XE),(RL YT XJ),rfl,rfl,rfl⟩ (wk [0] (ZK j fl))))))))))))
    exact ax 2 (az (ZD k (Z1 (ZG ⟨k+1,(UC R k x2),ob,(by rw [AA];exact Zj),(HQ Zv Zw),rfl,rfl,rfl⟩ (wk [0] (ZK k fl) (e:=(rr (ls:=Z8 (TC Q)) (by rw [RK om XJ,UC,Zb (by rw [hbk,ZB])]) rz)))))))
   exact ak (az (ZD k (Z1 (ZG ⟨k+1,(UC R k x2),ob,(by rw [AA];exact Zj),(HQ Zv Zw),rfl,rfl,rfl⟩ (wk [1] (ZK k fl) (e:=(rr (ls:=Z8 (TC R)) (by rw [UC,Z5 (fun z=>ZB (by rw [hbk] at z;cases z;rfl))]) rz)))))))
  exact ax 0 (Yc 1 (Zu [0] (Zbg R g1 x1.code.length x1.code.length (hn:=Zj) (hl:=om)) (Zl (ZM (Z3 (VM R)) (Zd.sl _ (Yg Z6 (by rw [Bk hV Z4,SA om Zw])))))))
 refine Z0 2 (ib (b:=(!(XM im))) 14 (fun ZE=>?_) (fun ZE=>?_))
 ·have YR:¬((XM im)=true):=((Yl Iff.rfl)).1 ZE
  exact Z0 3 (Y8 (wk [0] (Zo true ZE fl)) hj1)
 have X2:¬(¬((XM im)=true)):=Y9 (Yl Iff.rfl) ZE
 exact Z0 3 (Y8 (wk [0] (Zo (decide (f<0)) ZE fl)) hj1)
theorem Zh5 (c:List Instr) (k:Nat) (x:Instr) (hx:c[k]? = some x:=by exact ob) (hl:c.length<=200000000:=by exact ob) (hj:x.jumps.length<=1000000:=by exact ob):Zm 49 [Qu c,.i k] [] (Yw (Z3 (Xv k x))):=by
 have hkl:=(X4.1 hx).1
 refine ZF 52 Tryz.func49 (Y0 (Yc 2 ?_))
 obtain ⟨x1,Z4⟩:=Zt c k om
 obtain rfl:x1=x:=AJ (Z4.symm.trans hx)
 refine Zp (Zk none (k:Int) 6 (K9 Z4)) (Z0 1 (iA [.i 0,.i 0,.i 0,.i 0,nl,nl] fun b1=>?_))
 refine Zz 0 b1 (Wt x1) (ie (Xh (WQ [0] (ab 0 (Y5 (Xy (fun fz gz F h=>F=sF [1,5,13] fz [(14,.b ((x1.op==23)||(x1.op==24)))]/\h=gz) ?_ ?_))))))
 ·refine ac (x1.op==23) Zg (fun Zc=>?_) (fun Zc=>?_)
  ·exact ak (ZJ ⟨rfl,rfl⟩ (wk [0] (fc (x:=.b (x1.op==23)) (lb (by first|rfl|(rw [Zb Zc])|(rw [Z5 Zc])|(simp [Zc];done)|(rw [Ye];simp [Zc];done)|omega)) fl)))
  exact Vk (ZJ ⟨rfl,rfl⟩ (wk [0] (fc (x:=.b (x1.op==24)) (lb (by first|rfl|(rw [Zb Zc])|(rw [Z5 Zc])|(simp [Zc];done)|(rw [Ye];simp [Zc];done)|omega)) fl)))
 rintro F h ⟨rfl,rfl⟩
 refine ac ((x1.op==23)||(x1.op==24)) (p:=(x1.op=23)∨(x1.op=24)) (ZZ Zg Zg) (fun Zi=>?_) (fun Zi=>?_)
 ·exact ar (iL (Z6 []) 0 1 fun v1=>Zl (ZM (ZI [] v1) (Zd.sl _ (Yg Z6 (by first|(rw [Xv,Zb om];rfl)|(rw [Xv,Z5 om,Zb om];rfl)|(rw [Xv,Z5 om,Z5 om,Zb om];rfl)|(rw [Xv,Z5 om,Z5 om,Z5 om,Zb om];rfl)|(rw [Xv,Z5 om,Z5 om,Z5 om,Z5 om];rfl)|(rw [Xv,Zb om])|(rw [Xv,Z5 om,Zb om])|(rw [Xv,Z5 om,Z5 om,Zb om])|(rw [Xv,Z5 om,Z5 om,Z5 om,Zb om];exact Fe om Zw)|(rw [Xv,Z5 om,Z5 om,Z5 om,Z5 om]))))))
 refine ar (Yx (x1.op==22) Zg (fun ZB=>?_) (fun ZB=>?_))
 ·exact Zq 2 [0] (iL (Z6 [x1.num]) 1 1 fun v2=>Zl (ZM (ZI [x1.num] v2) (Zd.sl _ (Yg Z6 (by first|(rw [Xv,Zb om];rfl)|(rw [Xv,Z5 om,Zb om];rfl)|(rw [Xv,Z5 om,Z5 om,Zb om];rfl)|(rw [Xv,Z5 om,Z5 om,Z5 om,Zb om];rfl)|(rw [Xv,Z5 om,Z5 om,Z5 om,Z5 om];rfl)|(rw [Xv,Zb om])|(rw [Xv,Z5 om,Zb om])|(rw [Xv,Z5 om,Z5 om,Zb om])|(rw [Xv,Z5 om,Z5 om,Z5 om,Zb om];exact Fe om Zw)|(rw [Xv,Z5 om,Z5 om,Z5 om,Z5 om]))))))
 refine ar (Yx (x1.op==20) Zg (fun Y7=>?_) (fun Y7=>?_))
 ·refine Yc 1 (ZD k (iL (Z6 [((k+1:Nat):Int)]) 1 1 fun v3=>QS 2 [(27,Z3 [((k+1:Nat):Int)])] [1] (ic [] (BS [((k+1:Nat):Int)] x1.num (hl:=(by first|omega|(simp;done)|(simp only [Yq,YY];omega)))) ?_)))
  rintro _ _ ⟨v4,rfl,rfl⟩
  exact Zl (ZM (ZI (WG [((k+1:Nat):Int)] x1.num) v4) (Zd.sl _ (Yg Z6 (by first|(rw [Xv,Zb om];rfl)|(rw [Xv,Z5 om,Zb om];rfl)|(rw [Xv,Z5 om,Z5 om,Zb om];rfl)|(rw [Xv,Z5 om,Z5 om,Z5 om,Zb om];rfl)|(rw [Xv,Z5 om,Z5 om,Z5 om,Z5 om];rfl)|(rw [Xv,Zb om])|(rw [Xv,Z5 om,Zb om])|(rw [Xv,Z5 om,Z5 om,Zb om])|(rw [Xv,Z5 om,Z5 om,Z5 om,Zb om];exact Fe om Zw)|(rw [Xv,Z5 om,Z5 om,Z5 om,Z5 om])))))
 refine ar (Yx (x1.op==21) Zg (fun YM=>?_) (fun YM=>?_))
 ·refine ar (iL (Z6 []) 0 1 fun v5=>?_)
  refine Z1 (Y5 (ab 1 (Y3 (fun fz gz m F h=>∃(j:Nat) (acc:LI),(j<=x1.jumps.length)/\(acc.length<=j)/\(Kh acc (x1.jumps.drop j)=Kh [] x1.jumps)/\F=sF [5] fz [(6,Z3 acc),(7,.i j)]/\h=[Zh gz 1]/\m=x1.jumps.length-j) _ _ _ ⟨0,[],ob,ob,rfl,rfl,rfl,rfl⟩ (wk [1] (fc (x:=ZI [] v5) (Zd.forget _ _) (Yf fl))) ?_)))
  rintro m F h ⟨j,acc,Yi,Zj,Zw,rfl,rfl,rfl⟩
  refine Yr 3 [0] (iw (Yd x1.jumps) (Y2 ((j:Int)<(x1.jumps.length:Int)) (fun YZ=>?_) (fun YZ=>?_)))
  ·refine ak (aq (ab 2 (az (ZC 4 [0] ?_))))
   obtain ⟨x2,Zv⟩:=Zt x1.jumps j om
   refine Zp (Zk none (j:Int) 1 (Y4 Zv)) (Z0 1 (ic [] (BS acc x2 (hl:=(by first|omega|(simp;done)|(simp only [Yq,YY];omega)))) ?_))
   rintro _ _ ⟨v6,rfl,rfl⟩
   exact Z1 (az (Z0 1 (ZD j (Z1 (ZG ⟨j+1,(WG acc x2),ob,(by have:=Be acc x2;omega),(Zbn Zv Zw),rfl,rfl,rfl⟩ (wk [1] (fc (x:=ZI (WG acc x2) v6) (Zd.forget _ _) (ZK j fl))))))))
  exact ax 1 (ar (Zl (ZM (Z3 acc) (Zd.sl _ (Yg Z6 (by first|(rw [Xv,Zb om];rfl)|(rw [Xv,Z5 om,Zb om];rfl)|(rw [Xv,Z5 om,Z5 om,Zb om];rfl)|(rw [Xv,Z5 om,Z5 om,Z5 om,Zb om];rfl)|(rw [Xv,Z5 om,Z5 om,Z5 om,Z5 om];rfl)|(rw [Xv,Zb om])|(rw [Xv,Z5 om,Zb om])|(rw [Xv,Z5 om,Z5 om,Zb om])|(rw [Xv,Z5 om,Z5 om,Z5 om,Zb om];exact Fe om Zw)|(rw [Xv,Z5 om,Z5 om,Z5 om,Z5 om])))))))
 exact ak (Yc 1 (ZD k (iL (Z6 [((k+1:Nat):Int)]) 1 1 fun v7=>Zl (ZM (ZI [((k+1:Nat):Int)] v7) (Zd.sl _ (Yg Z6 (by first|(rw [Xv,Zb om];rfl)|(rw [Xv,Z5 om,Zb om];rfl)|(rw [Xv,Z5 om,Z5 om,Zb om];rfl)|(rw [Xv,Z5 om,Z5 om,Z5 om,Zb om];rfl)|(rw [Xv,Z5 om,Z5 om,Z5 om,Z5 om];rfl)|(rw [Xv,Zb om])|(rw [Xv,Z5 om,Zb om])|(rw [Xv,Z5 om,Z5 om,Zb om])|(rw [Xv,Z5 om,Z5 om,Z5 om,Zb om];exact Fe om Zw)|(rw [Xv,Z5 om,Z5 om,Z5 om,Z5 om]))))))))
theorem Ib (im:YA) (f:Int) (lz:Nat) (hz:IZ im lz:=by exact ob) (hlz:lz<=100:=by exact ob):Zm 22 [Vp im,.i f] [] (Yw (Z3 (YW im f))):=by
 have hil:=hz.len
 refine ZF 57 Tryz.func22 (ar (iA (Vd im) fun b1=>Z1 (Yr 1 [0] (Zu [] (Zhs im lz (hz:=hz)) (Xs [1,2] [(20,.b ((!(XM im))||(!(decide (0<=f/\f<=((im.procs.length:Int)-1))))))] (fun gz=>gz) ?_ ?_)))))
 ·refine Z0 2 (ib (b:=(!(XM im))) 12 (fun Ze=>?_) (fun Ze=>?_))
  ·have Ya:¬((XM im)=true):=((Yl Iff.rfl)).1 Ze
   exact Z1 (wk [0] (Zo true Ze fl))
  have Ys:¬(¬((XM im)=true)):=Y9 (Yl Iff.rfl) Ze
  exact ZC 3 [0] (iw (KG im.procs) (ia (((im.procs.length:Int)-1)) (((im.procs.length:Int))-(1)) (Zu [] (Ve f 0 ((im.procs.length:Int)-1)) (Z1 (wk [0] (Zo (!(decide (0<=f/\f<=((im.procs.length:Int)-1)))) Ze fl))))))
 refine ac ((!(XM im))||(!(decide (0<=f/\f<=((im.procs.length:Int)-1))))) (p:=(¬((XM im)=true))∨(¬(0<=f/\f<=((im.procs.length:Int)-1)))) (ZZ (Yl Iff.rfl) (Yl dq)) (fun Zc=>?_) (fun Zc=>?_)
 ·exact ar (Zl (ZM (nl) (Zd.sl _ (by rw [FD (fun z:XM im=true/\0<=f/\f<im.procs.length=>by rcases Zc with q|q;exact q z.1;exact q ⟨z.2.1,by omega⟩)];rfl))))
 have hV:XM im=true/\0<=f/\f<im.procs.length:=⟨Bu fun z=>Zc (by simp_all),by omega,by omega⟩
 obtain ⟨xp,hxp⟩:=Zt im.procs f.toNat om
 have hpm:=Y1 hxp
 have hnb:=DZ hV.1 hpm
 refine ak (ar (iL (Z6 [0]) 1 1 fun v1=>?_))
 refine Z1 (Y5 (ab 0 (Y3 (fun fz gz m F h=>∃(k:Nat) (R:List Bool),(k<=xp.code.length)/\(R.length=xp.code.length)/\(US (xp.code.drop k) k R=Qw xp.code)/\F=sF [1,2] fz [(5,Z3 (VM R)),(6,.i k)]/\h=[Zh gz 1]/\m=xp.code.length-k) _ _ _ ⟨0,(Bj xp.code.length),ob,(HP _),rfl,rfl,rfl,rfl⟩ (wk [1] (fc (x:=ZI [0] v1) (Zd.sl _ (Yg Z6 (by rw [Zaz om]))) (Yf fl))) ?_)))
 rintro m F h ⟨k,R,Yi,Zj,Zw,rfl,rfl,rfl⟩
 refine Yr 4 [0] ?_
 obtain ⟨x1,Z4⟩:=Zt im.procs f.toNat om
 have hxe:=Yg ZW.code (AJ (Z4.symm.trans hxp))
 have hxl:=Yg List.length hxe
 refine Zp (Zk none f 5 (QG Z4)) (Z0 2 (iw (Q1 x1.code) (Y2 ((k:Int)<(x1.code.length:Int)) (fun Zi=>?_) (fun Zi=>?_))))
 ·obtain ⟨xi,hxi⟩:=Zt xp.code k om
  have hil2:=M0 R
  have hxz:=((hz.procs _ hpm).code _ (Y1 hxi)).l
  have hnl:=Zdk k xi
  refine ak (aq (ab 1 (Yc 2 (Zu [] (UE (VM R) (k:Int) (hlen:=om)) (ie (WJ ((k:Int)∈(VM R)) (fun ZB=>?_) (fun ZB=>?_)))))))
  ·have hrk:=LZ.1 ZB
   refine Zq 3 [0] (Zp (Zk none f 5 (QG Z4)) (Z0 3 (Zu [] (Zh5 x1.code k xi (hx:=(by rw [hxe];exact hxi)) (hl:=om) (hj:=om)) (Z1 (Y0 (ab 2 (Y3 (fun fz gz m F h=>∃(j:Nat) (Q:List Bool),(j<=(Xv k xi).length)/\(Q.length=xp.code.length)/\(Tt Q ((Xv k xi).drop j)=Tt R (Xv k xi))/\F=sF [1,2,6,7] fz [(5,Z3 (VM Q)),(8,.i j)]/\h=gz/\m=(Xv k xi).length-j) _ _ _ ⟨0,R,ob,Zj,rfl,rfl,rfl,rfl⟩ (wk [0] (fr (Yf fl))) ?_)))))))
   rintro m F h ⟨j,Q,VB,XE,XJ,rfl,rfl,rfl⟩
   refine YN 2 (io (.i (((Xv k xi).length:Nat):Int)) (.i (((Z6 (Xv k xi)).length:Nat):Int)) (li (by rw [Yd])) (Y2 ((j:Int)<(((Xv k xi).length:Nat):Int)) (fun Y7=>?_) (fun Y7=>?_)))
   ·have hil3:=M0 Q
    refine ak (aq (ab 3 (az (Z0 3 ?_))))
    obtain ⟨x2,Zv⟩:=Zt (Xv k xi) j om
    have hnx:=hnb.1 k xi hxi _ ((RX _).1 (Y1 Zv))
    refine Zp (Zk none (j:Int) 1 (Y4 Zv)) (Z0 1 (ic [] (BS (VM Q) x2 (hl:=om)) ?_))
    rintro _ _ ⟨v2,rfl,rfl⟩
    exact Z1 (az (Z0 1 (ZD j (Z1 (ZG ⟨j+1,(Q.set x2.toNat true),ob,(by rw [V4];exact XE),(RL Zv XJ),rfl,rfl,rfl⟩ (wk [1] (fc (x:=ZI (WG (VM Q) x2) v2) (Zd.sl _ (Yg Z6 (Zbo om))) (ZK j fl))))))))
   exact ax 2 (az (Z0 1 (ZD k (Z1 (ZG ⟨k+1,(UC R k xi),ob,(by rw [AA];exact Zj),(HQ hxi Zw),rfl,rfl,rfl⟩ (wk [0] (fc (x:=Z3 (VM Q)) (Zd.sl _ (Yg Z6 (by rw [RK om XJ,Zd6,UC,Zb hrk]))) (ZK k fl))))))))
  exact ak (az (Z0 1 (ZD k (Z1 (ZG ⟨k+1,(UC R k xi),ob,(by rw [AA];exact Zj),(HQ hxi Zw),rfl,rfl,rfl⟩ (wk [0] (fc (x:=Z3 (VM R)) (Zd.sl _ (Yg Z6 (by rw [UC,Z5 (fun z=>ZB (LZ.2 z))]))) (ZK k fl))))))))
 exact ax 0 (ar (Zl (ZM (Z3 (VM R)) (Zd.sl _ (Yg Z6 (by rw [Bk hV hxp,SA om Zw]))))))
theorem Rs (xs:LI) (n:Int) (hl:xs.length<=1000000000:=by exact ob):Zm 23 [Z3 xs,.i n] [] (Yw (.b (decide (n∈xs)))):=by
 refine ZF 18 Tryz.func23 (Y0 (Y5 (ab 0 (Y3 (fun fz gz m F h=>∃(k:Nat),(k<=xs.length)/\(n∉xs.take k)/\F=sF [0,1] fz [(5,.i k)]/\h=gz/\m=xs.length-k) _ _ _ ⟨0,ob,(by simp),rfl,rfl,rfl⟩ (wk [] (Yf fl)) ?_))))
 rintro m F h ⟨k,Yi,Zj,rfl,rfl,rfl⟩
 refine YN 2 (iw (Yd xs) (Y2 ((k:Int)<(xs.length:Int)) (fun Zc=>?_) (fun Zc=>?_)))
 ·refine ak (aq (ab 1 (Yc 2 ?_)))
  obtain ⟨x1,Z4⟩:=Zt xs k om
  refine Zp (Zk none (k:Int) 1 (Y4 Z4)) (Yx (x1==n) Zg (fun Zi=>?_) (fun Zi=>?_))
  ·exact ar (Zl (ZM (.b true) (lb (by rw [eq_comm,dq];have:=Zi;subst this;exact Y1 Z4))))
  exact ak (az (Z0 1 (ZD k (Z1 (ZG ⟨k+1,ob,(Zdd Z4 Zj Zi),rfl,rfl,rfl⟩ (wk [] (ZK k fl)))))))
 exact ax 0 (ar (Zl (ZM (.b false) (lb (by rw [eq_comm,decide_eq_false_iff_not];rwa [Wg om] at Zj)))))
theorem Zce (xs:LI) (hxl:xs.length<=1000000000:=by exact ob) (hasc:∀(k:Nat) (x y:Int),xs[k]? = some x->xs[k+1]? = some y->x<y):Zm 24 [Z3 xs] [] (Yw (.b true)):=by
 refine ZF 20 Tryz.func24 (Y0 (Y5 (ab 0 (Y3 (fun fz gz m F h=>∃(k:Nat),(1<=k)/\F=sF [0] fz [(3,.i k)]/\h=gz/\m=xs.length-k) _ _ _ ⟨1,ob,rfl,rfl,rfl⟩ (wk [] (fc (x:=.i 1) li fl)) ?_))))
 rintro m F h ⟨k,Yi,rfl,rfl,rfl⟩
 refine YN 2 (iw (Yd xs) (Y2 ((k:Int)<(xs.length:Int)) (fun Zc=>?_) (fun Zc=>?_)))
 ·refine ak (aq (ab 1 (aD 10 (Zs 8 10 [0,1] ?_))))
  obtain ⟨x1,Z4⟩:=Zt xs k om
  refine dx 2 (Zk none (k:Int) 1 (Y4 Z4)) (Zs 4 7 [3,4,5] (da 6 (((k:Int)-1)) (((k:Int))-(1)) ?_))
  obtain ⟨x2,Zv⟩:=Zt xs (((k:Int)-1).toNat) om
  refine dx 7 (Zk none ((k:Int)-1) 1 (Y4 Zv)) (Zs 0 2 [8,9] (de (WJ (x1<=x2) (fun Zi=>?_) (fun Zi=>?_))))
  ·exact ar (Zl (ZM (.b false) (lb (absurd (hasc (k-1) x2 x1 (by have h:=Zv;rwa [show ((k:Int)-1).toNat=k-1 by omega] at h) (by rw [show k-1+1=k by omega];exact Z4)) om))))
  exact ak (az (Z0 1 (ZD k (Z1 (ZG ⟨k+1,ob,rfl,rfl,rfl⟩ (wk [] (ZK k fl)))))))
 exact ax 0 (ar (Zl (Ey)))
theorem Zcf (xs:LI) (ys:LI) (hxl:xs.length<=1000000000:=by exact ob) (hyl:ys.length<=1000000000:=by exact ob) (hin:∀z∈xs,z∈ys):Zm 25 [Z3 xs,Z3 ys] [] (Yw (.b true)):=by
 refine ZF 19 Tryz.func25 (Y0 (Y5 (ab 0 (Y3 (fun fz gz m F h=>∃(k:Nat),(k<=xs.length)/\F=sF [0,1] fz [(5,.i k)]/\h=gz/\m=xs.length-k) _ _ _ ⟨0,ob,rfl,rfl,rfl⟩ (wk [] (Yf fl)) ?_))))
 rintro m F h ⟨k,Yi,rfl,rfl,rfl⟩
 refine YN 2 (iw (Yd xs) (Y2 ((k:Int)<(xs.length:Int)) (fun Zc=>?_) (fun Zc=>?_)))
 ·refine ak (aq (ab 1 (Yc 3 ?_)))
  obtain ⟨x1,Z4⟩:=Zt xs k om
  refine Zp (Zk none (k:Int) 1 (Y4 Z4)) (Z0 1 (Zu [] (Rs ys x1) (Yx (!(decide (x1∈ys))) (p:=¬(x1∈ys)) (Yl dq) (fun Zi=>?_) (fun Zi=>?_))))
  ·exact ar (Zl (ZM (.b false) (lb (absurd (hin _ (Y1 Z4)) Zi))))
  exact ak (az (Z0 1 (ZD k (Z1 (ZG ⟨k+1,ob,rfl,rfl,rfl⟩ (wk [] (ZK k fl)))))))
 exact ax 0 (ar (Zl (Ey)))
theorem Zcc (code:LI) (hcb:∀z∈code,0<=z/\z<=255):Zm 7 [Um code] [] (Yw (.b true)):=by
 refine ZF 86 Tryz.func7 (Y0 (YN 1 (iw (BK code) (Y2 ((code.length:Int)>1048576) (fun Zc=>?_) (fun Zc=>?_)))))
 ·exact ar (Zl (Ey))
 have hcl:code.length<=1048576:=by omega
 refine ak (Yc 1 (ic [] (Pf code (hcl:=hcl) (hcb:=hcb)) ?_))
 rintro _ _ ⟨y1,fz1,rfl,rfl,Ya⟩
 have hdz:=Ya
 have hdl:=hdz.len
 have hrl:=HR (im:=y1) fz1
 refine Z0 3 (iA [nl,nl] fun b1=>Zz 0 b1 (Vd y1) (Z1 (Zq 2 [0] (Zu [] (M3 y1 fz1 1 (hz:=(by first|exact hdz|exact Nc hV.1 hdz)) (hlz:=om)) (Z1 (Yr 3 [0] (Zu [] (Ib y1 fz1 1 (hz:=hdz) (hlz:=om)) (Zu [] (Hs (YW y1 fz1) (YW y1 fz1)) (Xs [3,4,5] [(29,.b ((!(decide ((YW y1 fz1)=(YW y1 fz1))))||((((YW y1 fz1).length:Nat):Int)==0)))] (fun gz=>gz) ?_ ?_)))))))))
 ·refine Z0 2 (ib (b:=(!(decide ((YW y1 fz1)=(YW y1 fz1))))) 25 (fun Ze=>?_) (fun Ze=>?_))
  ·have Ys:¬((YW y1 fz1)=(YW y1 fz1)):=((Yl dq)).1 Ze
   exact Z1 (wk [0] (fc (x:=.b true) (lb (by rw [Ze];rfl)) fl))
  have YR:¬(¬((YW y1 fz1)=(YW y1 fz1))):=Y9 (Yl dq) Ze
  exact Z0 1 (io (.i (((YW y1 fz1).length:Nat):Int)) (.i (((Z6 (YW y1 fz1)).length:Nat):Int)) (li (by rw [Yd])) (Z1 (wk [0] (fc (x:=.b ((((YW y1 fz1).length:Nat):Int)==0)) (lb (by rw [Ze];rfl)) fl))))
 refine ac ((!(decide ((YW y1 fz1)=(YW y1 fz1))))||((((YW y1 fz1).length:Nat):Int)==0)) (p:=(¬((YW y1 fz1)=(YW y1 fz1)))∨((((YW y1 fz1).length:Nat):Int)=0)) (ZZ (Yl dq) Zg) (fun Zi=>?_) (fun Zi=>?_)
 ·exact Zq 3 [0] (Zu [] (Ib y1 fz1 1 (hz:=hdz) (hlz:=om)) (Zu [] (Hs (YW y1 fz1) (YW y1 fz1)) (Zl (ZM (.b (decide ((YW y1 fz1)=(YW y1 fz1)))) (lb (by simp))))))
 have hV:=SJ (im:=y1) (f:=fz1) (fun z=>Zi (.inr (by rw [z];rfl)))
 obtain ⟨xp,hxp⟩:=Zt y1.procs fz1.toNat om
 have hpz:=(hdz.procs _ (Y1 hxp)).len
 have hrl2:=HR (im:=(VF y1).1) fz1
 refine ak (Y5 (ab 0 (Y3 (fun fz gz m F h=>∃(k:Nat),(k<=(YW y1 fz1).length)/\F=sF [3,4,5] fz [(6,.i k)]/\h=gz/\m=(YW y1 fz1).length-k) _ _ _ ⟨0,ob,rfl,rfl,rfl⟩ (wk [0] (Yf fl)) ?_)))
 rintro m F h ⟨k,Yi,rfl,rfl,rfl⟩
 refine YN 2 (io (.i (((YW y1 fz1).length:Nat):Int)) (.i (((Z6 (YW y1 fz1)).length:Nat):Int)) (li (by rw [Yd])) (Y2 ((k:Int)<(((YW y1 fz1).length:Nat):Int)) (fun ZB=>?_) (fun ZB=>?_)))
 ·refine ak (aq (ab 1 (aD 14 (ZY 11 14 [0,1,2] [0] ?_))))
  obtain ⟨x1,Z4⟩:=Zt y1.procs fz1.toNat om
  have hxe:=Yg ZW.code (AJ (Z4.symm.trans hxp))
  have hxl:=Yg List.length hxe
  refine dx 3 (Zk none fz1 5 (QG Z4)) (Zs 6 10 [4,5,6,7] ?_)
  obtain ⟨x2,Zv⟩:=Zt (YW y1 fz1) k om
  have hra:=SH hV hxp (Y1 Zv)
  refine dx 8 (Zk none (k:Int) 1 (Y4 Zv)) (Zs 4 5 [9] ?_)
  obtain ⟨x3,YT⟩:=Zt x1.code x2.toNat om
  refine dx 10 (Zk none x2 6 (K9 YT)) (Zs 0 3 [11,12,13] (de (ar (X8 6 [3,4,5,6,7] [(59,.b ((x3.op != 23)&&(x3.op != 24)))] (fun gz=>gz) ?_ (fun hj1=>?_)))))
  ·refine X8 10 [3,4,5,6,7] [(63,.b (((x3.op != 23)&&(x3.op != 24))&&(x3.op != 22)))] (fun gz=>gz) ?_ (fun hj2=>?_)
   ·refine X8 14 [3,4,5,6] [(67,.b ((((x3.op != 23)&&(x3.op != 24))&&(x3.op != 22))&&(x3.op != 21)))] (fun gz=>gz) ?_ (fun hj3=>?_)
    ·refine Xs [3,4,5,6] [(77,.b (((((x3.op != 23)&&(x3.op != 24))&&(x3.op != 22))&&(x3.op != 21))&&(!(decide ((x2+1)∈(YW y1 fz1))))))] (fun gz=>gz) ?_ ?_
     ·refine Z0 1 (ib (b:=((((x3.op != 23)&&(x3.op != 24))&&(x3.op != 22))&&(x3.op != 21))) 68 (fun ZE=>?_) (fun ZE=>?_))
      ·have X2:(((x3.op≠23)/\(x3.op≠24))/\(x3.op≠22))/\(x3.op≠21):=((Yt (Yt (Yt Yn Yn) Yn) Yn)).1 ZE
       exact Z0 3 (Zp (Zk none (k:Int) 1 (Y4 Zv)) (Z0 1 (ia ((x2+1)) ((x2)+(1)) (Zu [] (Rs (YW y1 fz1) (x2+1)) (Z1 (wk [0] (fc (x:=.b (!(decide ((x2+1)∈(YW y1 fz1))))) (lb (by rw [ZE];rfl)) fl)))))))
      have Xk:¬((((x3.op≠23)/\(x3.op≠24))/\(x3.op≠22))/\(x3.op≠21)):=Y9 (Yt (Yt (Yt Yn Yn) Yn) Yn) ZE
      exact Z1 (wk [0] (fc (x:=.b false) (lb (by rw [ZE];rfl)) fl))
     refine ac (((((x3.op != 23)&&(x3.op != 24))&&(x3.op != 22))&&(x3.op != 21))&&(!(decide ((x2+1)∈(YW y1 fz1))))) (p:=((((x3.op≠23)/\(x3.op≠24))/\(x3.op≠22))/\(x3.op≠21))/\(¬((x2+1)∈(YW y1 fz1)))) (Yt (Yt (Yt (Yt Yn Yn) Yn) Yn) (Yl dq)) (fun Y7=>?_) (fun Y7=>?_)
     ·exact ar (Zl (ZM (.b false) (lb (absurd (Zep hV hxp (Y1 Zv) (by rw [<-hxe];exact YT) Y7.1.1.1.1 Y7.1.1.1.2 Y7.1.1.2 Y7.1.2) Y7.2))))
     exact ak (az (Z0 1 (ZD k (Z1 (ZG ⟨k+1,ob,rfl,rfl,rfl⟩ (wk [0] (ZK k fl)))))))
    refine Z0 1 (ib (b:=(((x3.op != 23)&&(x3.op != 24))&&(x3.op != 22))) 64 (fun Ym=>?_) (fun Ym=>?_))
    ·have XU:((x3.op≠23)/\(x3.op≠24))/\(x3.op≠22):=((Yt (Yt Yn Yn) Yn)).1 Ym
     exact Z0 3 (Y8 (wk [0] (fc (x:=.b (x3.op != 21)) (lb (by rw [Ym];rfl)) fl)) hj3)
    have Wi:¬(((x3.op≠23)/\(x3.op≠24))/\(x3.op≠22)):=Y9 (Yt (Yt Yn Yn) Yn) Ym
    exact Z0 3 (Y8 (wk [0] (fc (x:=.b false) (lb (by rw [Ym];rfl)) fl)) hj3)
   refine Z0 1 (ib (b:=((x3.op != 23)&&(x3.op != 24))) 60 (fun X7=>?_) (fun X7=>?_))
   ·have V6:(x3.op≠23)/\(x3.op≠24):=((Yt Yn Yn)).1 X7
    exact Z0 3 (Y8 (wk [0] (fc (x:=.b (x3.op != 22)) (lb (by rw [X7];rfl)) fl)) hj2)
   have VD:¬((x3.op≠23)/\(x3.op≠24)):=Y9 (Yt Yn Yn) X7
   exact Z0 3 (Y8 (wk [0] (fc (x:=.b false) (lb (by rw [X7];rfl)) fl)) hj2)
  refine Z0 3 (ib (b:=(x3.op != 23)) 56 (fun XY=>?_) (fun XY=>?_))
  ·have T5:x3.op≠23:=(Yn).1 XY
   exact Z0 3 (Y8 (wk [0] (fc (x:=.b (x3.op != 24)) (lb (by rw [XY];rfl)) fl)) hj1)
  have TE:¬(x3.op≠23):=Y9 Yn XY
  exact Z0 3 (Y8 (wk [0] (fc (x:=.b false) (lb (by rw [XY];rfl)) fl)) hj1)
 refine ax 0 (Yc 1 ?_)
 obtain ⟨x4,Ul⟩:=Zt (YW y1 fz1) 0 om
 refine Zp (Zk none 0 1 (Y4 Ul)) (X8 8 [] [(85,.b (x4==0))] (fun gz=>gz) ?_ (fun hj4=>?_))
 ·exact Zl (ZM (.b (x4==0)) (lb (by rw [Zeo hV Ul];rfl)))
 refine Z0 3 (ib (b:=(x4==0)) 82 (fun W9=>?_) (fun W9=>?_))
 ·have T6:x4=0:=(Zg).1 W9
  exact Z0 1 (Zu [] (Zce (YW y1 fz1) (hasc:=Zen)) (Z0 1 (Y8 (wk [0] (fc (x:=.b true) (lb W9.symm) fl)) hj4)))
 have QM:¬(x4=0):=Y9 Zg W9
 exact Z0 3 (Y8 (wk [0] (fc (x:=.b false) (lb W9.symm) fl)) hj4)
theorem Zcd (code:LI) (hcb:∀z∈code,0<=z/\z<=255):Zm 8 [Um code] [] (Yw (.b true)):=by
 refine ZF 55 Tryz.func8 (Y0 (YN 1 (iw (BK code) (Y2 ((code.length:Int)>1048576) (fun Zc=>?_) (fun Zc=>?_)))))
 ·exact ar (Zl (Ey))
 have hcl:code.length<=1048576:=by omega
 refine ak (Yc 1 (ic [] (Pf code (hcl:=hcl) (hcb:=hcb)) ?_))
 rintro _ _ ⟨y1,fz1,rfl,rfl,Ya⟩
 have hdz:=Ya
 have hdl:=hdz.len
 have hrl:=HR (im:=y1) fz1
 refine Z0 3 (iA [nl,nl] fun b1=>Zz 0 b1 (Vd y1) (Z1 (Zq 2 [0] (Zu [] (M3 y1 fz1 1 (hz:=(by first|exact hdz|exact Nc hV.1 hdz)) (hlz:=om)) (Z1 (Yr 3 [0] (Zu [] (Ib y1 fz1 1 (hz:=hdz) (hlz:=om)) (Zu [] (Hs (YW y1 fz1) (YW y1 fz1)) (Xs [3,4,5] [(30,.b ((!(decide ((YW y1 fz1)=(YW y1 fz1))))||((((YW y1 fz1).length:Nat):Int)==0)))] (fun gz=>gz) ?_ ?_)))))))))
 ·refine Z0 2 (ib (b:=(!(decide ((YW y1 fz1)=(YW y1 fz1))))) 26 (fun Ze=>?_) (fun Ze=>?_))
  ·have Ys:¬((YW y1 fz1)=(YW y1 fz1)):=((Yl dq)).1 Ze
   exact Z1 (wk [0] (fc (x:=.b true) (lb (by rw [Ze];rfl)) fl))
  have YR:¬(¬((YW y1 fz1)=(YW y1 fz1))):=Y9 (Yl dq) Ze
  exact Z0 1 (io (.i (((YW y1 fz1).length:Nat):Int)) (.i (((Z6 (YW y1 fz1)).length:Nat):Int)) (li (by rw [Yd])) (Z1 (wk [0] (fc (x:=.b ((((YW y1 fz1).length:Nat):Int)==0)) (lb (by rw [Ze];rfl)) fl))))
 refine ac ((!(decide ((YW y1 fz1)=(YW y1 fz1))))||((((YW y1 fz1).length:Nat):Int)==0)) (p:=(¬((YW y1 fz1)=(YW y1 fz1)))∨((((YW y1 fz1).length:Nat):Int)=0)) (ZZ (Yl dq) Zg) (fun Zi=>?_) (fun Zi=>?_)
 ·exact Zq 3 [0] (Zu [] (Ib y1 fz1 1 (hz:=hdz) (hlz:=om)) (Zu [] (Hs (YW y1 fz1) (YW y1 fz1)) (Zl (ZM (.b (decide ((YW y1 fz1)=(YW y1 fz1)))) (lb (by simp))))))
 have hV:=SJ (im:=y1) (f:=fz1) (fun z=>Zi (.inr (by rw [z];rfl)))
 obtain ⟨xp,hxp⟩:=Zt y1.procs fz1.toNat om
 have hpz:=(hdz.procs _ (Y1 hxp)).len
 have hrl2:=HR (im:=(VF y1).1) fz1
 refine ak (Zq 1 [0] (Zu [] (Zb3 y1 1 (hz:=hdz) (hlz:=om)) (Z0 3 (iA [nl,nl] fun b2=>Zz 0 b2 (Vd ((VF y1).1)) (Z1 (Zq 2 [0] (Zu [] (M3 ((VF y1).1) fz1 1 (hz:=(by first|exact hdz|exact Nc hV.1 hdz)) (hlz:=om)) (Z1 (ar (X8 6 [5,8] [(49,.b ((VF y1).2&&(decide ((((YW ((VF y1).1) fz1).length:Nat):Int)>0))))] (fun gz=>gz) ?_ (fun hj1=>?_)))))))))))
 ·refine X8 11 [] [(54,.b ((VF y1).2&&(decide ((((YW ((VF y1).1) fz1).length:Nat):Int)>0))))] (fun gz=>gz) ?_ (fun hj2=>?_)
  ·exact Zl (ZM (.b ((VF y1).2&&(decide ((((YW ((VF y1).1) fz1).length:Nat):Int)>0)))) (lb (by rw [X9];exact ⟨by rw [Ih hV.1],decide_eq_true (by have:=J0.2 (SK hV).1;omega)⟩)))
  refine Z0 1 (ib (b:=((VF y1).2&&(decide ((((YW ((VF y1).1) fz1).length:Nat):Int)>0)))) 50 (fun ZE=>?_) (fun ZE=>?_))
  ·have X2:((VF y1).2=true)/\((((YW ((VF y1).1) fz1).length:Nat):Int)>0):=((Yt Iff.rfl dq)).1 ZE
   exact Z0 2 (Zu [] (Zcf (YW ((VF y1).1) fz1) (YW y1 fz1) (hin:=(SK hV).2)) (Z0 1 (Y8 (wk [0,0] (fc (x:=.b true) (lb ZE.symm) fl)) hj2)))
  have Xk:¬(((VF y1).2=true)/\((((YW ((VF y1).1) fz1).length:Nat):Int)>0)):=Y9 (Yt Iff.rfl dq) ZE
  exact Z0 4 (Y8 (wk [0,0] (fc (x:=.b false) (lb ZE.symm) fl)) hj2)
 refine Z0 2 (ib (b:=(VF y1).2) 45 (fun Ym=>?_) (fun Ym=>?_))
 ·have XU:(VF y1).2=true:=(Iff.rfl).1 Ym
  exact Z0 1 (io (.i (((YW ((VF y1).1) fz1).length:Nat):Int)) (.i (((Z6 (YW ((VF y1).1) fz1)).length:Nat):Int)) (li (by rw [Yd])) (Z0 2 (Y8 (wk [0,0] (fc (x:=.b (decide ((((YW ((VF y1).1) fz1).length:Nat):Int)>0))) (lb (by rw [Ym];rfl)) fl)) hj1)))
 have Wi:¬((VF y1).2=true):=Y9 Iff.rfl Ym
 exact Z0 4 (Y8 (wk [0,0] (fc (x:=.b false) (lb (by rw [Ym];rfl)) fl)) hj1)
end Go.Abs
