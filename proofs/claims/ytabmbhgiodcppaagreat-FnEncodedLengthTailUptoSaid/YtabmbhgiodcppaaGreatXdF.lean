/-
  A part of the proofs of several laws (see the last file): no condition.
-/
import Derived.Test.YtabmbhgiodcppaaGreatXdE
set_option linter.all false
set_option linter.unusedVariables false
set_option linter.unusedSimpArgs false
set_option linter.unusedSectionVars false
set_option maxRecDepth 10000
set_option maxHeartbeats 4000000
namespace Go.Abs
open Go.Proofs
theorem Z4r (ds:List Zc) (hl_ds:ds.length<=4294967296:=by exact ob):Zm 123 [Y5 ds] [] (fun r h=>∃(v:Hd),r=.h v/\h=[rK v 3 (Z9 (Yv ds))]):=by
 refine ZE 8 Tryz.func123 (Y0 (YQ 1 (iN (Yv ds) (fun hz1=>?_) ?_)))
 ·have hz1:=Z65 hz1
  refine ie (Vo (Y0 (JC (Cj (k:=3)) ?_)))
  subst hz1
  exact ZT (r2 [0] [nl] ⟨hN,rfl,rfl⟩ (Zd.hd (v:=hN)) (eq:=(rr (ls:=[]) rfl rz)))
 exact ie (V9 (ak (ar (BX 3 fun g1=>Z0 1 (Hk 0 g1 3 (Yv ds) none (QF _) (by simp<;>omega) fun v1=>Zp (r1 [0] ⟨v1,rfl,rfl⟩))))))
theorem Z4q (cs:List Yg) (hl_cs:cs.length<=4294967296:=by exact ob):Zm 124 [QO cs] [] (fun r h=>∃(v:Hd),r=.h v/\h=[rK v 1 (Z9 (Xy cs))]):=by
 refine ZE 8 Tryz.func124 (Y0 (YQ 1 (iN (Xy cs) (fun hz1=>?_) ?_)))
 ·have hz1:=Z63 hz1
  refine ie (Vo (Y0 (JC (Cj (k:=1)) ?_)))
  subst hz1
  exact ZT (r2 [0] [nl] ⟨hN,rfl,rfl⟩ (Zd.hd (v:=hN)) (eq:=(rr (ls:=[]) rfl rz)))
 exact ie (V9 (ak (ar (BX 1 fun g1=>Z0 1 (Hk 0 g1 1 (Xy cs) none (CK _) (by simp<;>omega) fun v1=>Zp (r1 [0] ⟨v1,rfl,rfl⟩))))))
theorem Zb6 (ds:List Zc) (hd:Xs ds):Zm 81 [Y5 ds] [] (fun r h=>∃(ys:List Vf) (w:Value),r=Zdb ys w/\h=[.many (QK ys),.tail w 3]/\ys.map Vf.er=ds):=by
 have hdl:=hd.len
 refine ZE 46 Tryz.func81 (Y0 (Yf 1 (ic [] (Z4r ds) ?_)))
 rintro _ _ ⟨v1,rfl,rfl⟩
 refine Z1 (YQ 1 (Zo (Hp 0 ds.length v1 3 (Z9 (Yv ds)) (by rw [Pl])) (Z1 (ab 0 (JC (tB [] [] [] (QK []) (by simp [F9,F4,H6,H7,H9,Ha,H5,Kd,Kc,F8,DW,Qq,QK,Bi,F5,F6,F7,H8])) (Y2 (fun fz gz m F h=>∃(k:Nat) (v:Hd) (ys:List Vf),(k<=ds.length)/\(ys.map Vf.er=ds.take k)/\(ys.length=k)/\F=sF [11] fz [(3,.h v),(10,.h v),(12,.i k)]/\h=[rK v 3 (Z9 (Vi ys++Yv (ds.drop k))),.many (QK ys)]/\m=ds.length-k) _ _ _ ⟨0,v1,[],ob,rfl,rfl,rfl,rfl,rfl⟩ (wk [1,0] (fw (Yc fl)) (e:=(rr (ls:=Z9 (Yv ds)) (by rfl) (rc rz)))) ?_))))))
 rintro m F h ⟨k,v,ys,Yj,Zg,Zz,rfl,rfl,rfl⟩
 refine Y0 (aq (WE ((k:Int)<(ds.length:Int)) (fun Za=>?_) (fun Za=>?_)))
 ·obtain ⟨x1,Z3⟩:=Zt ds k om
  have hcl:=hd.cons_at Z3
  refine Fk 0 ds.length (v:=v) (Z0a Zz Yj) om (fun g1 c1 he1=>?_)
  subst he1
  refine ak (aq (ab 1 (Yf 1 (Zo (XI g1 ds.length c1 k 3 (k:Int)) (VC (WO 0 g1 ds.length c1 3 (k*3) (Z9 (Vi ys++Yv (ds.drop k))) (KM x1) 119 (Cv x1) (by rw [Z0b Z3];exact HV (by rw [CT,Zz]))) (iA [.i 0,.i 0,nl] fun b1=>Z0 1 (Zx 0 b1 (KM x1) (ie (Zl 4 [0] (ic [] (Z4q x1.cons) ?_))))))))))
  rintro _ _ ⟨v2,rfl,rfl⟩
  refine Zo (XI g1 ds.length c1 k 3 (k:Int)) (Z0 1 (DX 2 g1 ds.length c1 3 (k*3+2) [.h v2] (Z9 (Vi ys++Yv (ds.drop k))) (Z9 (Vi ys)++([.i x1.frm,.i x1.to_,.h v2]++Z9 (Yv (ds.drop (k+1))))) (by rw [Z0a Zz Yj];simp;omega) (by rw [Z0b Z3];exact Zf1 (by rw [CT,Zz])) (ie (Zl 2 [2] (iw (Uk x1.cons) (Z1 (ab 2 (JC (tB [] [] [] (Qq []) (by simp [F9,F4,H6,H7,H9,Ha,H5,Kd,Kc,F8,DW,Qq,QK,Bi,F5,F6,F7,H8])) (Y2 (fun fz gz m F h=>∃(j:Nat) (u:Hd) (zs:List Vn),(j<=x1.cons.length)/\(zs.map Vn.er=x1.cons.take j)/\(zs.length=j)/\F=sF [3,4,10,11,12,25,26] fz [(27,.i j)]/\h=[Zf gz 4,rK u 1 (Z9 (Ul zs++Xy (x1.cons.drop j))),.row (.slice (some ⟨g1,0,none⟩) ds.length c1) 3 (Z9 (Vi ys)++([.i x1.frm,.i x1.to_,.h u]++Z9 (Yv (ds.drop (k+1))))),.many (Qq zs)]/\m=x1.cons.length-j) _ _ _ ⟨0,v2,[],ob,rfl,rfl,rfl,rfl,rfl⟩ (wk [4,2,1,0] (Yc fl) (e:=(rc (rr (ls:=Z9 (Xy x1.cons)) (by rfl) (rc (rc rz)))))) ?_)))))))))
  rintro m F h ⟨j,u,zs,Vp,Xp,XS,rfl,rfl,rfl⟩
  refine Y0 (aq (WE ((j:Int)<(x1.cons.length:Int)) (fun Zj=>?_) (fun Zj=>?_)))
  ·obtain ⟨x2,Zy⟩:=Zt x1.cons j om
   have hfl:=hd.fields_at Z3 Zy
   refine Fk 1 x1.cons.length (v:=u) (Z09 XS Vp) om (fun g2 c2 he2=>?_)
   subst he2
   refine ak (aq (ab 3 (Yf 1 (Zo (Zk none (j:Int) 1 (As Zy)) (Z0 1 (iA [nl] fun b2=>Z0 1 (Zx 0 b2 (D7 x2) (ie (aE 12 (Zs 10 12 [0,1] (dx 2 (XI g1 ds.length c1 k 3 (k:Int)) (Zs 8 9 [3] (UC 4 (WO 3 g1 ds.length c1 3 (k*3+2) (Z9 (Vi ys)++([.i x1.frm,.i x1.to_,.h ⟨some ⟨g2,0,none⟩,x1.cons.length,c2⟩]++Z9 (Yv (ds.drop (k+1))))) [.h ⟨some ⟨g2,0,none⟩,x1.cons.length,c2⟩] 117 (.ms g2 0 x1.cons.length c2) (Zf2 (by rw [CT,Zz]))) (ZX 4 7 [5,6,7] [0] (Z7 8 (dc 8 [] [2] [g1] (EL x2.fields) ?_))))))))))))))))
   rintro _ _ ⟨v3,rfl,rfl⟩
   exact dx 9 (XI g2 x1.cons.length c2 j 1 (j:Int)) (Zs 1 2 [10] (Z7 11 (QE 11 3 [] [] g2 x1.cons.length c2 1 (j*1) [ZC x2.fields v3] (Z9 (Ul zs++Xy (x1.cons.drop j))) (Z9 (Ul zs)++([ZC x2.fields v3]++Z9 (Xy (x1.cons.drop (j+1))))) (by rw [Z09 XS Vp];simp;omega) (by rw [Zey Zy];exact FG (by rw [Pm,XS,AP]) rfl) (JI (tB [5,1] [.many (Qq zs),.tail v3 1] (Qq zs++((v3,1)::[])) (Qq (zs++[Vn.mk x2.fields v3])) (by simp [F9,F4,H6,H7,H9,Ha,H5,Kd,Kc,F8,DW,Qq,QK,Bi,F5,F6,F7,H8])) (de (az (ZD j (Z1 (ZI ⟨j+1,⟨some ⟨g2,0,none⟩,x1.cons.length,c2⟩,(zs++[Vn.mk x2.fields v3]),ob,(by rw [List.map_append,Xp,V4 Zy];rfl),(by simp [XS]),rfl,rfl,rfl⟩ (wk [3,1,2,0] (ZK j fl) (e:=(rc (rr (ls:=(Z9 (Ul zs)++([ZC x2.fields v3]++Z9 (Xy (x1.cons.drop (j+1)))))) Zex (rr (ls:=(Z9 (Vi ys)++([.i x1.frm,.i x1.to_,.h ⟨some ⟨g2,0,none⟩,x1.cons.length,c2⟩]++Z9 (Yv (ds.drop (k+1)))))) ob (rc rz)))))))))))))))
  refine JC (Ev 1 u.v 1 (Z9 (Ul zs++Xy (x1.cons.drop j))) (Z9 (Ul zs)) (Zew om)) (JC (Zi2 0 1 (k*3+2) u.v (.slice (some ⟨g1,0,none⟩) ds.length c1) 1 3 (Ul zs) (Z9 (Vi ys)++([.i x1.frm,.i x1.to_,.h u]++Z9 (Yv (ds.drop (k+1))))) (Ot _) (by rw [Cm (by rw [CT];omega),CT,Zz];simp)) ?_)
  exact JC (Ev 0 (.slice (some ⟨g1,0,none⟩) ds.length c1) 3 (List.set ((Z9 (Vi ys)++([.i x1.frm,.i x1.to_,.h u]++Z9 (Yv (ds.drop (k+1))))):List AV) (k*3+2) (Fs zs u.v)) (Z9 (Vi ys)++([.i x1.frm,.i x1.to_,Fs zs u.v]++Z9 (Yv (ds.drop (k+1))))) (Zf3 (by rw [CT,Zz]))) (JC (tB [2,2,1] [.many (QK ys),.many (Qq zs),.tail u.v 1] (QK ys++(Qq zs++((u.v,1)::[]))) (QK (ys++[Vf.mk x1.frm x1.to_ zs u.v])) (by simp [F9,F4,H6,H7,H9,Ha,H5,Kd,Kc,F8,DW,Qq,QK,Bi,F5,F6,F7,H8])) (ax 2 (az (ZD k (Z1 (ZI ⟨k+1,(⟨some ⟨g1,0,none⟩,ds.length,c1⟩:Hd),(ys++[Vf.mk x1.frm x1.to_ zs u.v]),ob,(by rw [List.map_append,Zg,V4 Z3,Z30 (Xp.trans (Wg om))]),(by simp [Zz]),rfl,rfl,rfl⟩ (wk [1,0] (fw (ZK k fl)) (e:=(rr (ls:=(Z9 (Vi ys)++([.i x1.frm,.i x1.to_,Fs zs u.v]++Z9 (Yv (ds.drop (k+1)))))) Zf0 (rc rz))))))))))
 exact ax 0 (Y0 (JC (Ev 0 v.v 3 (Z9 (Vi ys++Yv (ds.drop k))) (Z9 (Vi ys)) (Zez om)) (Rr 2 0 (v:=v) (Vi ys) (Ou _) (ZT (r1 [1,0] ⟨ys,v.v,rfl,rfl,(by rw [Zg,Wg om])⟩)))))
theorem Zb7 (ds:List Zc) (hd:Xs ds:=by exact ob):Zm 81 [Y5 ds] [] (Yw (Y5 ds)):=((Zb6 ds hd).alone fun r h ⟨ys,w,e1,_,e3⟩=>by rw [e1,<-e3];exact Zd.els _ (Z6t ys))
theorem Z4s (c:List Instr) (hl:c.length<=200000000:=by exact ob):Zm 83 [QP c] [] (fun r h=>∃(v:Hd),r=.h v/\h=[rK v 6 (Z9 (ZA c))]):=by
 refine ZE 8 Tryz.func83 (Y0 (YQ 1 (iN (ZA c) (fun hz1=>?_) ?_)))
 ·have hz1:=Z6b hz1
  refine ie (Vo (Y0 (JC (Cj (k:=6)) ?_)))
  subst hz1
  exact ZT (r2 [0] [nl] ⟨hN,rfl,rfl⟩ (Zd.hd (v:=hN)) (eq:=(rr (ls:=[]) rfl rz)))
 exact ie (V9 (ak (ar (BX 6 fun g1=>Z0 1 (Hk 0 g1 6 (ZA c) none (Av _) (by simp<;>omega) fun v1=>Zp (r1 [0] ⟨v1,rfl,rfl⟩))))))
theorem Zb5 (im:Yy) (lz:Nat) (hz:IZ im lz:=by exact ob) (hlz:lz<=100:=by exact ob) (hd:Xs im.decls:=by exact ob) (hc:∀p∈im.procs,1<=p.code.length):Zm 39 [Vg im] [] (fun r h=>∃(v:Hd) (U:Nat->Hd),r=.agg [Y5 im.decls,.h v]/\h=[rK v 5 (pD (Xd U) im.procs 0),rK (U 0) 6 (Z9 (ZA (cL im.procs 0))),rK (U 1) 6 (Z9 (ZA (cL im.procs 1))),rK (U 2) 6 (Z9 (ZA (cL im.procs 2))),rK (U 3) 6 (Z9 (ZA (cL im.procs 3)))]):=by
 have hil:=hz.len
 refine ZE 64 Tryz.func39 (ar (iA (Ve im) fun b1=>iA [nl,nl] fun b2=>ie (Zl 2 [1] (Zu [] (Zb7 im.decls (hd:=hd)) (Z0 1 (iA [nl,nl] fun b3=>?_))))))
 refine Zx 0 b3 [Y5 im.decls,nl] (ie (Ym 2 [2] (iw (K7 im.procs) (Xb (Z2h 0 b3 [Y5 im.decls,nl] [Y5 im.decls,.h hN] (.cons (lr _) (.cons (Zd.hd (v:=hN)) .nil))) (Xb (Cj (k:=5)) (Xb (tU0 (im.procs.take 0) rfl) (Xb (G3 [5,5,5,0,0,0,0,0] (h':=[.obj b3 [Y5 im.decls,.h hN],.obj b2 [nl,nl],.obj b1 (Ve im),rK (U0 0) 6 (Z9 (ZA (cL (im.procs.take 0) 0))),rK (U0 1) 6 (Z9 (ZA (cL (im.procs.take 0) 1))),rK (U0 2) 6 (Z9 (ZA (cL (im.procs.take 0) 2))),rK (U0 3) 6 (Z9 (ZA (cL (im.procs.take 0) 3))),rK hN 5 []]) (d:=[]) kr) (Z1 (ab 0 (Y2 (fun fz gz m F h=>∃(k:Nat) (v:Hd) (U:Nat->Hd),(k<=im.procs.length)/\F=sF [2,3,13,14] fz [(15,.i k)]/\h=[.obj b3 [Y5 im.decls,.h v],Zf gz 1,rK v 5 (pD (Xd U) (im.procs.take k) 0),rK (U 0) 6 (Z9 (ZA (cL (im.procs.take k) 0))),rK (U 1) 6 (Z9 (ZA (cL (im.procs.take k) 1))),rK (U 2) 6 (Z9 (ZA (cL (im.procs.take k) 2))),rK (U 3) 6 (Z9 (ZA (cL (im.procs.take k) 3)))]/\m=im.procs.length-k) _ _ _ ⟨0,hN,U0,ob,rfl,rfl,rfl⟩ (wk [0,0,5,1,1,1,1] (Yc fl) (e:=(rc (rc (rr (ls:=[]) (by first|rfl|exact pAll_zero.symm) (rc (rc (rc (rc rz))))))))) ?_))))))))))
 rintro m F h ⟨k,v,U,Yj,rfl,rfl,rfl⟩
 refine Y0 (aq (WE ((k:Int)<(im.procs.length:Int)) (fun Za=>?_) (fun Za=>?_)))
 ·refine ak (aq (ab 1 (ar ?_)))
  obtain ⟨x1,Z3⟩:=Zt im.procs k om
  have hpm:=Y4 Z3
  have hpz:=hz.procs _ hpm
  have Y9:=hpz.params
  have Yt:=hpz.lent
  have YS:=hpz.len
  have X2:=hc _ hpm
  refine Zo (Zk none (k:Int) 5 (Jc Z3)) (Z0 1 (iA [nl,nl,.i 0,.i 0,nl] fun b4=>Zx 0 b4 (UE x1) (ie (aD 15 (ZX 9 15 [0,1,3,4,6,7] [0,0,0] (Z7 2 (dc 2 [] [0,0] [b4,b4] (EL x1.params) ?_)))))))
  rintro _ _ ⟨v1,rfl,rfl⟩
  refine Zs 7 8 [9] (Z7 5 (dc 5 [] [0] [b4] (EL x1.lent) ?_))
  rintro _ _ ⟨v2,rfl,rfl⟩
  refine Z7 8 (dc 8 [] [] [] (Z4s x1.code) ?_)
  rintro _ _ ⟨v3,rfl,rfl⟩
  refine Z5e 0 x1.code.length (v:=v3) (Un _) om (fun g1 c1 he1=>?_)
  subst he1
  refine Z7 10 (X0 10 3 [] [] b4 [ZC x1.params v1,Z4 x1.lent,.i x1.result,.i x1.regs,QP x1.code] (Zs 3 4 [11] (Z7 12 (X0 12 0 [] [] b4 [ZC x1.params v1,ZC x1.lent v2,.i x1.result,.i x1.regs,QP x1.code] (Zs 1 2 [13] (Z7 14 (X0 14 0 [] [] b4 [ZC x1.params v1,ZC x1.lent v2,.i x1.result,.i x1.regs,.ms g1 0 x1.code.length c1] (de (Ym 2 [0] (io (.i x1.code.length) (.i x1.code.length) (lr _) (Z1 (ab 2 (Y2 (fun fz gz m F h=>∃(j:Nat),(j<=x1.code.length)/\F=sF [2,3,5,13,14,15,32,33] fz [(34,.i j)]/\h=[Zf gz 0,Zf gz 1,Zf gz 4,Zf gz 5,Zf gz 6,Zf gz 7,Zf gz 8,Zf gz 9,Zf gz 10,Zf gz 3,Zf gz 2]/\m=x1.code.length-j) _ _ _ ⟨0,ob,rfl,rfl,rfl⟩ (wk [0,0,2,2,2,2,2,2,2,1,0] (Yc fl)) ?_)))))))))))))
  rintro m F h ⟨j,Vp,rfl,rfl,rfl⟩
  refine Y0 (aq (WE ((j:Int)<(x1.code.length:Int)) (fun Zj=>?_) (fun Zj=>?_)))
  ·obtain ⟨xi,hxi⟩:=Zt x1.code j om
   have hxl:=(hpz.code _ (Y4 hxi)).l
   refine ak (aq (ab 3 (Yf 1 (Zo (XI g1 x1.code.length c1 j 6 (j:Int)) (VC (WO 1 g1 x1.code.length c1 6 (j*6) (Z9 (ZA x1.code)) (WB xi) 35 (UX xi) (DO hxi)) (iA [.i 0,.i 0,.i 0,.i 0,nl,nl] fun b5=>Z0 1 (Zx 0 b5 (WB xi) (ie (aE 18 (ZX 8 18 [0,1,2,3,4,5,6,7,9,10] [1,1,0,0] (Z7 8 (dc 8 [] [0,1,1] [b5,b4,b4] (EL xi.args) ?_))))))))))))
   rintro _ _ ⟨v4,rfl,rfl⟩
   refine Z7 11 (dc 11 [] [1,1] [b4,b4] (EL xi.jumps) ?_)
   rintro _ _ ⟨v5,rfl,rfl⟩
   exact dx 12 (XI g1 x1.code.length c1 j 6 (j:Int)) (Zs 4 5 [13] (Z7 14 (QE 14 4 [1] [b4] g1 x1.code.length c1 6 (j*6+4) [ZC xi.args v4] (Z9 (ZA x1.code)) ((Z9 (ZA x1.code)).take (j*6+4)++[ZC xi.args v4]++(Z9 (ZA x1.code)).drop (j*6+4+1)) (by rw [Un];simp only [Yp,Yx];omega) rfl (JI (Z29 0 (.slice (some ⟨g1,0,none⟩) x1.code.length c1) 6 ((Z9 (ZA x1.code)).take (j*6+4)++[ZC xi.args v4]++(Z9 (ZA x1.code)).drop (j*6+4+1)) (Z9 (ZA x1.code)) (Z83 hxi)) (JI (G3 [0,0,0,0,0,0,0,5,5,0,0,0,0,0] (h':=[.row (.slice (some ⟨g1,0,none⟩) x1.code.length c1) 6 (Z9 (ZA x1.code)),.tail v5 1,.tail v4 1,.obj b5 (WB xi),.obj b4 [ZC x1.params v1,ZC x1.lent v2,.i x1.result,.i x1.regs,.ms g1 0 x1.code.length c1],.obj b3 [Y5 im.decls,.h v],.obj b2 [nl,nl],.tail v1 1,.tail v2 1,rK v 5 (pD (Xd U) (im.procs.take k) 0),rK (U 0) 6 (Z9 (ZA (cL (im.procs.take k) 0))),rK (U 1) 6 (Z9 (ZA (cL (im.procs.take k) 1))),rK (U 2) 6 (Z9 (ZA (cL (im.procs.take k) 2))),rK (U 3) 6 (Z9 (ZA (cL (im.procs.take k) 3)))]) (d:=[]) kr) (dx 15 (XI g1 x1.code.length c1 j 6 (j:Int)) (Zs 1 2 [16] (Z7 17 (QE 17 0 [] [] g1 x1.code.length c1 6 (j*6+5) [ZC xi.jumps v5] (Z9 (ZA x1.code)) ((Z9 (ZA x1.code)).take (j*6+5)++[ZC xi.jumps v5]++(Z9 (ZA x1.code)).drop (j*6+5+1)) (by rw [Un];simp only [Yp,Yx];omega) rfl (JI (Z29 0 (.slice (some ⟨g1,0,none⟩) x1.code.length c1) 6 ((Z9 (ZA x1.code)).take (j*6+5)++[ZC xi.jumps v5]++(Z9 (ZA x1.code)).drop (j*6+5+1)) (Z9 (ZA x1.code)) (Z85 hxi)) (de (az (ZD j (Z1 (ZI ⟨j+1,ob,rfl,rfl,rfl⟩ (wk [4,0,3,3,5,5,5,5,5,3,3] (ZK j fl)))))))))))))))))
  exact ax 2 (az (Kr 3 [(58,.agg [Z4 x1.params,Z4 x1.lent,.i x1.result,.i x1.regs,.ms g1 0 x1.code.length c1])] [2,0] (iL [.agg [Z4 x1.params,Z4 x1.lent,.i x1.result,.i x1.regs,.ms g1 0 x1.code.length c1]] 1 5 fun v6=>ZQ 0 [(59,.sl [.agg [Z4 x1.params,Z4 x1.lent,.i x1.result,.i x1.regs,.ms g1 0 x1.code.length c1]] none)] (Fa 5 k v 5 (pD (Xd U) (im.procs.take k) 0) [.agg [Z4 x1.params,Z4 x1.lent,.i x1.result,.i x1.regs,.ms g1 0 x1.code.length c1]] none (by rw [KS,XW,VG om]) (KO rfl) rfl (List.cons_ne_nil _ _) (by simp<;>omega) fun v7=>Z0 1 (Zx 4 b3 [Y5 im.decls,.h v7] (Xb (Z28 4 5 5 5 5 U im.procs k x1 (⟨some ⟨g1,0,none⟩,x1.code.length,c1⟩:Hd) Z3 om) (ie (az (ZD k (Z1 (ZI ⟨k+1,v7,(U4 U k (⟨some ⟨g1,0,none⟩,x1.code.length,c1⟩:Hd)),ob,rfl,rfl,rfl⟩ (wk [4,7,4,0,0,0,0] (ZK k fl) (e:=(rc (rc (rr (ls:=pD (Xd U) (im.procs.take k) 0++Z9 [.agg [Z4 x1.params,Z4 x1.lent,.i x1.result,.i x1.regs,.ms g1 0 x1.code.length c1]]) (by first|rfl|exact Sm (u:=(⟨some ⟨g1,0,none⟩,x1.code.length,c1⟩:Hd)) Z3) (rc (rc (rc (rc rz))))))))))))))))))))
 exact ax 0 (Zl 1 [0] (Zx 1 b2 [Y5 im.decls,.h v] (ie (ZT (r3 [2,2,2,2,2] [.agg [Y5 im.decls,.h v]] [0] [(b2,b2)] ⟨v,U,rfl,rfl⟩ (lr _) (eq:=(rr (ls:=pD (Xd U) (im.procs.take k) 0) (by rw [Wg om]) (rr (ls:=Z9 (ZA (cL (im.procs.take k) 0))) (by rw [Wg om]) (rr (ls:=Z9 (ZA (cL (im.procs.take k) 1))) (by rw [Wg om]) (rr (ls:=Z9 (ZA (cL (im.procs.take k) 2))) (by rw [Wg om]) (rr (ls:=Z9 (ZA (cL (im.procs.take k) 3))) (by rw [Wg om]) rz)))))))))))
theorem Zb4 (cs:List Instr) (k:Nat) (reg:Int) (g:Nat) (nq:Nat) (c:Nat) (hB:BB cs:=by exact ob) (hn:cs.length=nq:=by exact ob) (hk:k<nq:=by exact ob) (hl:nq<=200000000:=by exact ob):Zm 40 [.ms g 0 nq c,.i k,.i reg] [.row (.slice (some ⟨g,0,none⟩) nq c) 6 (Z9 (ZA cs))] (fun r h=>r=.b (Vy cs k reg)/\h=[.row (.slice (some ⟨g,0,none⟩) nq c) 6 (Z9 (ZA cs))]):=by
 refine ZE 45 Tryz.func40 (Y0 (ab 0 (Y2 (fun fz gz m F h=>∃(j:Nat) (rg:Int),(j<nq)/\(Vy cs j rg=Vy cs k reg)/\F=sF [0] fz [(1,.i j),(2,.i rg)]/\h=gz/\m=nq-j) _ _ _ ⟨k,reg,ob,rfl,rfl,rfl,rfl⟩ (wk [0] fl) ?_)))
 rintro m F h ⟨j,rg,Yj,Zg,rfl,rfl,rfl⟩
 obtain ⟨xi,hxi⟩:=Zt cs j om
 refine ab 1 (Yf 2 (Zo (XI g nq c j 6 (j:Int)) (VC (WO 0 g nq c 6 (j*6) (Z9 (ZA cs)) (WB xi) 35 (UX xi) (DO hxi)) (iA [.i 0,.i 0,.i 0,.i 0,nl,nl] fun b1=>Zx 0 b1 (WB xi) (ie (ab 2 (Q4 [0] (ac (xi.op==22) Zi (fun Za=>?_) (fun Za=>?_)))))))))
 ·exact az (V2 [0] (⟨_,_,_,(by have:=hB.j _ _ hxi (by assumption);omega),⟨xi.num.toNat,rg,(by have:=hB.j _ _ hxi (by assumption);omega),((MQ hB.fwd hxi (by assumption)).trans Zg),rfl,rfl,rfl⟩,(wk [1] (fc (x:=.i xi.num) (li (by have:=hB.j _ _ hxi (by assumption);omega)) fl))⟩))
 refine Zl 4 [0] (ib (b:=(xi.op==18)) 33 (fun Ze=>?_) (fun Ze=>?_))
 ·have Y9:xi.op=18:=(Zi).1 Ze
  refine ZB 2 [0] ?_
  obtain ⟨x1,Z3⟩:=Zt xi.args 0 (by first|exact Jz.2 (hB.a _ _ hxi (.inl om))|exact Jz.2 (hB.a _ _ hxi (.inr om)))
  have hg:=QH Z3
  refine Zo (Zk none 0 1 (Y8 Z3)) (YC (x1==rg) Zi (fun Zj=>?_) (fun Zj=>?_))
  ·exact Q4 [0] (az (Z0 1 (ZD j (Z1 (ZI ⟨j+1,xi.dst,(by have:=hB.l _ _ hxi om;omega),((Z0e hB.fwd hxi ⟨by omega,by rw [hg];omega⟩).trans Zg),rfl,rfl,rfl⟩ (wk [1] (ZK j fl)))))))
  refine ar (Xc 11 [] [(22,.b ((xi.op==23)&&(x1==rg)))] (fun gz=>gz) ?_ (fun hj1=>?_))
  ·exact Zp (r2 [1] [.b ((xi.op==23)&&(x1==rg))] ⟨rfl,rfl⟩ (lb (by first|(rw [<-Zg,<-Kq hxi (fun z=>by simp_all) (by assumption)];simp_all;done)|(rw [<-Zg,<-Kq hxi (fun z=>by simp_all) (by assumption)];simp_all;rw [Yd];simp))))
  refine ZB 4 [0] (ib (b:=(xi.op==23)) 15 (fun ZH=>?_) (fun ZH=>?_))
  ·have Yt:xi.op=23:=(Zi).1 ZH
   exact ZB 2 [0] (Zo (Zk none 0 1 (Y8 Z3)) (Z0 4 (Ya (wk [0,0] (Zq (x1==rg) ZH fl)) hj1)))
  have YS:¬(xi.op=23):=Yb Zi ZH
  exact Z0 7 (Ya (wk [0,0] (Zq false ZH fl)) hj1)
 have X2:¬(xi.op=18):=Yb Zi Ze
 refine Z1 (V9 (Zl 4 [0] (ib (b:=(xi.op==23)) 15 (fun Yn=>?_) (fun Yn=>?_))))
 ·have Xk:xi.op=23:=(Zi).1 Yn
  refine ZB 2 [0] ?_
  obtain ⟨x2,Zy⟩:=Zt xi.args 0 (by first|exact Jz.2 (hB.a _ _ hxi (.inl om))|exact Jz.2 (hB.a _ _ hxi (.inr om)))
  have hg:=QH Zy
  exact Zo (Zk none 0 1 (Y8 Zy)) (Zp (r2 [1] [.b (x2==rg)] ⟨rfl,rfl⟩ (lb (by first|(rw [<-Zg,<-Kq hxi (fun z=>by simp_all) (by assumption)];simp_all;done)|(rw [<-Zg,<-Kq hxi (fun z=>by simp_all) (by assumption)];simp_all;rw [Yd];simp)))))
 have XU:¬(xi.op=23):=Yb Zi Yn
 exact Zp (r2 [1] [.b false] ⟨rfl,rfl⟩ (lb (by first|(rw [<-Zg,<-Kq hxi (fun z=>by simp_all) (by assumption)];simp_all;done)|(rw [<-Zg,<-Kq hxi (fun z=>by simp_all) (by assumption)];simp_all;rw [Yd];simp))))
theorem Zb1 (im:Yy) (lz:Nat) (hz:IZ im lz:=by exact ob) (hlz:lz<=100:=by exact ob):Zm 15 [Vg im] [] (Yw (.tup [Vg ((TF im).1),.b ((TF im).2)])):=by
 have hil:=hz.len
 refine ZE 55 Tryz.func15 (ar (iA (Ve im) fun b1=>iA [nl,nl] fun b2=>Z1 (Ym 1 [1] (Zu [] (Mb im lz (hz:=hz)) (YC (!(Wk im)) (p:=¬((Wk im)=true)) (Ys Iff.rfl) (fun Za=>?_) (fun Za=>?_))))))
 ·refine Yf 1 (Zx 0 b2 [nl,nl] (Z1 ?_))
  have hE:=Zi5 Za
  exact ZT (r3 [] [.agg [nl,nl],.b false] [0] [(b2,b2)] ⟨rfl,rfl⟩ (Zd.tup (.cons (Zd.agg (.cons (Zd.sl _ (by rw [hE];rfl)) (.cons (Zd.sl _ (by rw [hE];rfl)) .nil))) (.cons (lb (by rw [hE])) .nil))))
 have hV:Wk im=true:=Uz.1 Za
 obtain ⟨Xq,hl4,_⟩:=Z15 hV
 refine ak (Zl 1 [1] (ic [] (Zb5 im lz (hz:=hz) (hd:=Xq) (hc:=(fun p hp=>(R9 hV hp).1))) ?_))
 rintro _ _ ⟨v1,U1,rfl,rfl⟩
 refine D4 0 im.procs.length (v:=v1) (KS (Xd U1) im.procs 0) om (fun g1 c1 he1=>?_)
 subst he1
 refine iA [nl,nl] fun b3=>?_
 refine Zx 0 b3 [Y5 im.decls,.ms g1 0 im.procs.length c1] (ie (Ym 2 [0] (io (.i im.procs.length) (.i im.procs.length) (lr _) (Z1 (ab 0 (Y2 (fun fz gz m F h=>∃(k:Nat),(k<=im.procs.length)/\F=sF [2,4,16,17] fz [(18,.i k)]/\h=[Zf gz 0,Zf gz 6,.row (.slice (some ⟨g1,0,none⟩) im.procs.length c1) 5 (pD (Xd U1) (VE im.procs k) 0),rK (U1 0) 6 (Z9 (ZA (cL (VE im.procs k) 0))),rK (U1 1) 6 (Z9 (ZA (cL (VE im.procs k) 1))),rK (U1 2) 6 (Z9 (ZA (cL (VE im.procs k) 2))),rK (U1 3) 6 (Z9 (ZA (cL (VE im.procs k) 3)))]/\m=im.procs.length-k) _ _ _ ⟨0,ob,rfl,rfl,rfl⟩ (wk [0,5,0,0,0,0,0] (Yc fl) (e:=(rc (rc (rr (ls:=pD (Xd U1) im.procs 0) (by rw [FZ]) (rr (ls:=Z9 (ZA (cL im.procs 0))) (by rw [FZ]) (rr (ls:=Z9 (ZA (cL im.procs 1))) (by rw [FZ]) (rr (ls:=Z9 (ZA (cL im.procs 2))) (by rw [FZ]) (rr (ls:=Z9 (ZA (cL im.procs 3))) (by rw [FZ]) rz))))))))) ?_))))))
 rintro m F h ⟨k,Yj,rfl,rfl,rfl⟩
 refine Y0 (aq (WE ((k:Int)<(im.procs.length:Int)) (fun Zj=>?_) (fun Zj=>?_)))
 ·refine ak (aq (ab 1 (ar ?_)))
  obtain ⟨xp,hxq⟩:=Zt im.procs k om
  have hxp:=Zi9 hxq
  have hpm:=Y4 hxq
  have hbb:=Zax hV hpm
  have hpl:=R9 hV hpm
  obtain ⟨uf1,huf1⟩:∃u:Hd,u=U1 k:=⟨_,rfl⟩
  refine Xb (Nf 3 3 3 3 U1 (VE im.procs k) k uf1 xp.code om huf1 (BM hxp)) (D4 0 xp.code.length (v:=uf1) (Un _) om (fun g2 c2 he2=>?_))
  subst he2
  refine Xb (G3 [0,3,3,3,0,0,0] (h':=[.row (.slice (some ⟨g2,0,none⟩) xp.code.length c2) 6 (Z9 (ZA xp.code)),.obj b3 [Y5 im.decls,.ms g1 0 im.procs.length c1],.obj b2 [nl,nl],.row (.slice (some ⟨g1,0,none⟩) im.procs.length c1) 5 (pD (Xd U1) (VE im.procs k) 0),rK (U1 ((k+1) % 4)) 6 (Z9 (ZA (cL (VE im.procs k) ((k+1) % 4)))),rK (U1 ((k+2) % 4)) 6 (Z9 (ZA (cL (VE im.procs k) ((k+2) % 4)))),rK (U1 ((k+3) % 4)) 6 (Z9 (ZA (cL (VE im.procs k) ((k+3) % 4))))]) (d:=[]) kr) (Zo (XI g1 im.procs.length c1 k 5 (k:Int)) (VC (WO 3 g1 im.procs.length c1 5 (k*5) (pD (Xd U1) (VE im.procs k) 0) [Z4 xp.params,Z4 xp.lent,.i xp.result,.i xp.regs,.ms g2 0 xp.code.length c2] 32 (.agg [Z4 xp.params,Z4 xp.lent,.i xp.result,.i xp.regs,.ms g2 0 xp.code.length c2]) (by have h:=MG (D:=Xd U1) hxp;rw [show AC (Xd U1 k) xp=BZ xp (U1 k).v from rfl,<-huf1] at h;exact h)) (iA [nl,nl,.i 0,.i 0,nl] fun b4=>?_)))
  refine Zx 0 b4 [Z4 xp.params,Z4 xp.lent,.i xp.result,.i xp.regs,.ms g2 0 xp.code.length c2] (ie (Zl 2 [0] (io (.i xp.code.length) (.i xp.code.length) (lr _) (Z1 (ab 2 (Y2 (fun fz gz m F h=>∃(j:Nat) (cs:List Instr),(j<=xp.code.length)/\(cs=TW xp.code j)/\F=sF [2,4,6,16,17,18,23,24] fz [(25,.i j)]/\h=[Zf gz 0,Zf gz 2,Zf gz 3,.row (.slice (some ⟨g2,0,none⟩) xp.code.length c2) 6 (Z9 (ZA cs)),Zf gz 4,Zf gz 5,Zf gz 6,Zf gz 7]/\m=xp.code.length-j) _ _ _ ⟨0,xp.code,ob,(Zi8 _).symm,rfl,rfl,rfl⟩ (wk [0,1,1,0,0,0,0,0] (Yc fl)) ?_))))))
  rintro m F h ⟨j,cs,Vp,Xp,rfl,rfl,rfl⟩
  refine Y0 (aq (WE ((j:Int)<(xp.code.length:Int)) (fun ZF=>?_) (fun ZF=>?_)))
  ·obtain ⟨xi,hxi⟩:=Zt xp.code j om
   have hxc:cs[j]? = some xi:=by rw [Xp];exact Z2c hxi
   have hcl:cs.length=xp.code.length:=by rw [Xp,Ey]
   refine ak (aq (ab 3 (Yf 1 (Zo (XI g2 xp.code.length c2 j 6 (j:Int)) (VC (WO 3 g2 xp.code.length c2 6 (j*6) (Z9 (ZA cs)) (WB xi) 35 (UX xi) (DO hxc)) (iA [.i 0,.i 0,.i 0,.i 0,nl,nl] fun b5=>Z0 1 (Zx 0 b5 (WB xi) (ie (ar (Xx [2,4,6,7,16,17,18,23,24,25] [(41,.b ((xi.op==9)&&(Vy cs (j+1) xi.dst)))] (fun gz=>[Zf gz 4,Zf gz 0,Zf gz 1,Zf gz 2,Zf gz 3,Zf gz 5,Zf gz 6,Zf gz 7,Zf gz 8]) ?_ ?_))))))))))
   ·refine ZB 4 [0] (ib (b:=(xi.op==9)) 33 (fun Ze=>?_) (fun Ze=>?_))
    ·have Y9:xi.op=9:=(Zi).1 Ze
     exact ZB 3 [1] (ZD j (ZB 2 [0] (Zu [4] (Zb4 cs (j+1) xi.dst g2 xp.code.length c2 (hB:=(by rw [Xp];exact hbb.tj j)) (hk:=(hbb.l j xi hxi ⟨by omega,by omega⟩))) (Z1 (Zw 9 (Zq (Vy cs (j+1) xi.dst) Ze fl))))))
    have Yt:¬(xi.op=9):=Yb Zi Ze
    exact Z1 (wk [4,0,0,0,0,0,0,0,0] (Zq false Ze fl))
   refine ac ((xi.op==9)&&(Vy cs (j+1) xi.dst)) (p:=(xi.op=9)/\((Vy cs (j+1) xi.dst)=true)) (YI Zi Iff.rfl) (fun Yh=>?_) (fun Yh=>?_)
   ·refine aE 12 (ZX 6 12 [0,1,2,3,4,5] [2,2] (dx 6 (XI g2 xp.code.length c2 j 6 (j:Int)) (Zs 4 5 [7] (Z7 8 (QE 8 0 [1] [b4] g2 xp.code.length c2 6 (j*6) [.i 24] (Z9 (ZA cs)) (Z9 (ZA (cs.set j (Instr.mk 24 xi.dst xi.num xi.into xi.args xi.jumps)))) (by rw [Un];simp only [Yp,Yx,VF];omega) (Z86 24 hxc) (dx 9 (XI g2 xp.code.length c2 j 6 (j:Int)) (Zs 1 2 [10] (Z7 11 (QE 11 0 [] [] g2 xp.code.length c2 6 (j*6+1) [.i 0] (Z9 (ZA (cs.set j (Instr.mk 24 xi.dst xi.num xi.into xi.args xi.jumps)))) (Z9 (ZA ((cs.set j (Instr.mk 24 xi.dst xi.num xi.into xi.args xi.jumps)).set j (Instr.mk 24 0 xi.num xi.into xi.args xi.jumps)))) (by rw [Un];simp only [Yp,Yx,VF];omega) (Z84 0 (List.getElem?_set_self om)) ?_)))))))))
    exact de (az (ZD j (Z1 (ZI ⟨j+1,((cs.set j (Instr.mk 24 xi.dst xi.num xi.into xi.args xi.jumps)).set j (Instr.mk 24 0 xi.num xi.into xi.args xi.jumps)),ob,(by rw [Z2d hxi,<-Xp,List.set_set,Tt,Zh ⟨Yh.1,by rw [<-Z0f _ j,<-Xp];exact Yh.2⟩,Zay hV hpm hxi Yh.1]),rfl,rfl,rfl⟩ (wk [2,2,2,0,1,1,1,1] (ZK j fl))))))
   exact ak (az (ZD j (Z1 (ZI ⟨j+1,cs,ob,(by rw [Zi7 hxi (by rw [Tt,Zb (fun z=>Yh ⟨z.1,by rw [Xp,Z0f];exact z.2⟩)])];exact Xp),rfl,rfl,rfl⟩ (wk [2,2,2,0,1,1,1,1] (ZK j fl))))))
  have hcs:cs=Ux xp.code:=by rw [Xp,Zi6 om]
  exact JC (Dk 3 4 4 4 U1 (VE im.procs k) (VE im.procs (k+1)) k (⟨some ⟨g2,0,none⟩,xp.code.length,c2⟩:Hd) cs om huf1 (by rw [Nh hxq,Dv hxp,hcs];rfl) (fun i hi=>by rw [Nh hxq];exact Du hi)) (ax 2 (az (ZD k (Z1 (ZI ⟨k+1,ob,rfl,rfl,rfl⟩ (wk [5,5,5,0,0,0,0] (ZK k fl) (e:=(rc (rc (rr (ls:=pD (Xd U1) (VE im.procs k) 0) (by first|rfl|(rw [Nh hxq];exact (MD hxp).symm)) (rc (rc (rc (rc rz))))))))))))))
 refine ax 0 (ar (Xb (Ch 2 2 2 2 2 U1 (VE im.procs k) (.slice (some ⟨g1,0,none⟩) im.procs.length c1) (by rw [Zib];omega)) (Xb (Uw 0 0 1 (.slice (some ⟨g1,0,none⟩) im.procs.length c1) 5 b3 (Wi (VE im.procs k)) [Y5 im.decls,.ms g1 0 im.procs.length c1] (Jd _) rfl) (ZB 1 [0] (Zx 2 b2 [Y5 im.decls,Uf (VE im.procs k) (.slice (some ⟨g1,0,none⟩) im.procs.length c1)] (Z1 ?_))))))
 have hE:=Ew hV
 exact ZT (r3 [] [.agg [Y5 im.decls,Uf (VE im.procs k) (.slice (some ⟨g1,0,none⟩) im.procs.length c1)],.b true] [0] [(b2,b2)] ⟨rfl,rfl⟩ (Zd.tup (.cons (Zd.agg (.cons (Zd.sl _ (Yo Yv (by rw [hE];rfl))) (.cons (Zd.sl _ (Yo Wi (by rw [hE];exact Zia om))) .nil))) (.cons (lb (by rw [hE])) .nil))))
open Go.Proofs
open Go.Proofs
open Go.Proofs
open Go.Proofs
theorem JS (w:Nat) (xs:LI) (u:Value) (z:Int) (hl:xs.length<=4000000000:=by exact ob) (hz:-32768<=z/\z<=32767:=by exact ob):Zm 89 [.p w 0,.i z] [.obj w [ZC xs u],.tail u 1] (fun r h=>∃(u2:Value),h=[.obj w [ZC (xs++en z) u2],.tail u2 1]):=by
 exact ZE 19 Tryz.func89 (az (ZB 6 [0] (ia ((z+32768)) ((z)+(32768)) (Zo (Hr (z+32768) 256 om om) (Z0 1 (ia ((z+32768)) ((z)+(32768)) (Zo (E2 (z+32768) 256 om om) (iL (Z6 [(z+32768) / 256,(z+32768) % 256]) 2 1 fun v1=>ZQ 0 [(15,Z4 [(z+32768) / 256,(z+32768) % 256])] (ip 2 (Z6 (xs++[(z+32768) / 256,(z+32768) % 256])) (Z6 xs) (Z6 [(z+32768) / 256,(z+32768) % 256]) u none 1 (YD _) (YD _) (W1 _) (by simp<;>omega) (by simp [W5,Z6]) fun v2=>Z0 2 (Zx 2 w [ZC (xs++[(z+32768) / 256,(z+32768) % 256]) v2] (ie (r2 [0,0] [] ⟨v2,rfl⟩ (lr _)))))))))))))
theorem Fe (w:Nat) (xs:LI) (u:Value) (l:LI) (hl:xs.length<=3000000000:=by exact ob) (hr:RL l:=by exact ob):Zm 90 [.p w 0,Z4 l] [.obj w [ZC xs u],.tail u 1] (fun r h=>∃(u2:Value),h=[.obj w [ZC (xs++Wj l) u2],.tail u2 1]):=by
 have hrl:=hr.len
 refine ZE 20 Tryz.func90 (Yf 2 (iw (Ye l) (ic [0,0] (JS w xs u (l.length:Int)) ?_)))
 rintro _ _ ⟨u21,rfl⟩
 refine ie (Yf 1 (iw (Ye l) (Z1 (ab 0 (Y2 (fun fz gz m F h=>∃(j:Nat) (ys:LI) (u3:Value),(j<=l.length)/\(ys++K9 (l.drop j)=xs++Wj l)/\F=sF [0,10,11] fz [(12,.i j)]/\h=[.obj w [ZC ys u3],.tail u3 1]/\m=l.length-j) _ _ _ ⟨0,(xs++en (l.length:Int)),u21,ob,(by rw [Wj,W0];rfl),rfl,rfl,rfl⟩ (wk [0,0] (Yc fl)) ?_)))))
 rintro m F h ⟨j,ys,u3,Yj,Zg,rfl,rfl,rfl⟩
 refine Y0 (aq (WE ((j:Int)<(l.length:Int)) (fun Za=>?_) (fun Za=>?_)))
 ·have hyl:=Q9 Zg
  rw [ZV,WA] at hyl
  refine ak (aq (ab 1 (ar ?_)))
  obtain ⟨x1,Z3⟩:=Zt l j om
  have hx1r:=hr.rg _ (Y4 Z3)
  refine Zo (Zk none (j:Int) 1 (Y8 Z3)) (Z1 (az (Z0 2 (ic [0,0] (JS w ys u3 x1) ?_))))
  rintro _ _ ⟨u22,rfl⟩
  exact ie (az (ZD j (Z1 (ZI ⟨j+1,(ys++en x1),u22,ob,(Lz Z3 Zg),rfl,rfl,rfl⟩ (wk [0,0] (ZK j fl))))))
 obtain rfl:ys=xs++Wj l:=Ly om Zg
 exact ax 0 (r2 [0,0] [] ⟨u3,rfl⟩ (lr _))
theorem Zbc (w:Nat) (xs:LI) (u:Value) (im:Yy) (hl:xs.length<=1000000000:=by exact ob) (hr:RI im:=by exact ob):Zm 52 [.p w 0,Vg im] [.obj w [ZC xs u],.tail u 1] (fun r h=>∃(u2:Value),h=[.obj w [ZC (xs++VV im) u2],.tail u2 1]):=by
 have hel:=DL hr
 have hd4:=hr.dlen
 have X2:=hr.plen
 have hT1:(xs++Qk im.decls).length<=1000050000:=by rw [ZV];omega
 have hT2:(xs++VV im).length<=1040000000:=by rw [ZV];omega
 refine ZE 118 Tryz.func52 (ar (iA (Ve im) fun b1=>ie (Zl 3 [0] (iw (Ua im.decls) (ic [1,1] (JS w xs u (im.decls.length:Int) (hl:=(by (try simp only [ZV,Yx,W7,WA]);omega))) ?_)))))
 rintro _ _ ⟨u21,rfl⟩
 refine ie (Ym 2 [2] (iw (Ua im.decls) (Z1 (ab 0 (Y2 (fun fz gz m F h=>∃(k:Nat) (ys:LI) (u3:Value),(k<=im.decls.length)/\(ys++KH (im.decls.drop k)=xs++Qk im.decls)/\F=sF [0,3,20,21] fz [(22,.i k)]/\h=[.obj w [ZC ys u3],Zf gz 2,.tail u3 1]/\m=im.decls.length-k) _ _ _ ⟨0,(xs++en (im.decls.length:Int)),u21,ob,(by rw [Qk,W0];rfl),rfl,rfl,rfl⟩ (wk [0,1,0] (Yc fl)) ?_)))))
 rintro m F h ⟨k,ys,u3,Yj,Zg,rfl,rfl,rfl⟩
 refine Y0 (aq (WE ((k:Int)<(im.decls.length:Int)) (fun Za=>?_) (fun Za=>?_)))
 ·have hyl:=Q9 Zg
  refine ak (aq (ab 1 (ar ?_)))
  obtain ⟨x1,Z3⟩:=Zt im.decls k om
  have hrd:=hr.decls _ (Y4 Z3)
  have hyd:=Q9 (GM Z3 Zg)
  have hr1:=hrd.frm
  have hr2:=hrd.to_
  have hr3:=hrd.len
  refine Zo (Zk none (k:Int) 3 (V1 Z3)) (Z0 1 (iA [.i 0,.i 0,nl] fun b2=>Zx 0 b2 (KM x1) (ie (Zl 3 [0] (ic [1,2] (JS w ys u3 x1.frm (hl:=(by (try simp only [ZV,Yx,W7,WA]);omega))) ?_)))))
  rintro _ _ ⟨u22,rfl⟩
  refine ie (Zl 3 [2] (ic [0,0] (JS w (ys++en x1.frm) u22 x1.to_ (hl:=(by (try simp only [ZV,Yx,W7,WA]);omega))) ?_))
  rintro _ _ ⟨u23,rfl⟩
  refine ie (Zl 3 [2] (iw (Uk x1.cons) (ic [0,0] (JS w ((ys++en x1.frm)++en x1.to_) u23 (x1.cons.length:Int) (hl:=(by (try simp only [ZV,Yx,W7,WA]);omega))) ?_)))
  rintro _ _ ⟨u24,rfl⟩
  refine ie (Zl 2 [2] (iw (Uk x1.cons) (Z1 (ab 2 (Y2 (fun fz gz m F h=>∃(j:Nat) (zs:LI) (u4:Value),(j<=x1.cons.length)/\(zs++KG (x1.cons.drop j)=ys++Ba x1)/\F=sF [0,3,20,21,22,40,41] fz [(42,.i j)]/\h=[.obj w [ZC zs u4],Zf gz 3,.tail u4 1]/\m=x1.cons.length-j) _ _ _ ⟨0,(((ys++en x1.frm)++en x1.to_)++en (x1.cons.length:Int)),u24,ob,(by rw [Kx];simp only [Ba,W0]),rfl,rfl,rfl⟩ (wk [0,2,0] (Yc fl)) ?_)))))
  rintro m F h ⟨j,zs,u4,Vp,Xp,rfl,rfl,rfl⟩
  refine Y0 (aq (WE ((j:Int)<(x1.cons.length:Int)) (fun Zj=>?_) (fun Zj=>?_)))
  ·have hzl:=Q9 Xp
   refine ak (aq (ab 3 (ar ?_)))
   obtain ⟨x2,Zy⟩:=Zt x1.cons j om
   have hrc:=hrd.cons _ (Y4 Zy)
   refine Zo (Zk none (j:Int) 1 (As Zy)) (Z0 1 (iA [nl] fun b3=>Zx 0 b3 (D7 x2) (ie (az (ZB 3 [0] (ic [1,2] (Fe w zs u4 x2.fields (hl:=(by (try simp only [ZV,Yx,W7,WA]);omega)) (hr:=(by first|exact hrc|exact hrp.params|exact hrp.lent|exact hrx.args|exact hrx.jumps))) ?_))))))
   rintro _ _ ⟨u25,rfl⟩
   exact ie (az (ZD j (Z1 (ZI ⟨j+1,(zs++Wj x2.fields),u25,ob,(OG Zy Xp),rfl,rfl,rfl⟩ (wk [0,2,0] (ZK j fl))))))
  exact ax 2 (az (ZD k (Z1 (ZI ⟨k+1,zs,u4,ob,(by rw [OE om Xp];exact GM Z3 Zg),rfl,rfl,rfl⟩ (Zw 3 (ZK k fl))))))
 have hyl:=Q9 Zg
 have hyE:=OI om Zg
 refine ax 0 (Zl 3 [1] (iw (K7 im.procs) (ic [0,1] (JS w ys u3 (im.procs.length:Int) (hl:=(by (try simp only [ZV,Yx,W7,WA]);omega))) ?_)))
 rintro _ _ ⟨u26,rfl⟩
 refine ie (Zl 2 [2] (iw (K7 im.procs) (Z1 (ab 4 (Y2 (fun fz gz m F h=>∃(k2:Nat) (ys2:LI) (u5:Value),(k2<=im.procs.length)/\(ys2++Ty (im.procs.drop k2)=xs++VV im)/\F=sF [0,58,59] fz [(60,.i k2)]/\h=[.obj w [ZC ys2 u5],.tail u5 1]/\m=im.procs.length-k2) _ _ _ ⟨0,(ys++en (im.procs.length:Int)),u26,ob,(by rw [Kx,hyE];simp only [VV,W0]),rfl,rfl,rfl⟩ (wk [0,0] (Yc fl)) ?_)))))
 rintro m F h ⟨k2,ys2,u5,Gu,J9,rfl,rfl,rfl⟩
 refine Y0 (aq (WE ((k2:Int)<(im.procs.length:Int)) (fun ZF=>?_) (fun ZF=>?_)))
 ·have hyl2:=Q9 J9
  refine ak (aq (ab 5 (ar ?_)))
  obtain ⟨x3,YV⟩:=Zt im.procs k2 om
  have hrp:=hr.procs _ (Y4 YV)
  have hyp:=Q9 (GN YV J9)
  have hq1:=hrp.result
  have hq2:=hrp.regs
  have hq3:=hrp.len
  have hq4:=hrp.params.len
  have hq5:=hrp.lent.len
  refine Zo (Zk none (k2:Int) 5 (Jc YV)) (Z0 1 (iA [nl,nl,.i 0,.i 0,nl] fun b4=>Zx 0 b4 (UE x3) (ie (Zl 3 [0] (ic [1,1] (Fe w ys2 u5 x3.params (hl:=(by (try simp only [ZV,Yx,W7,WA]);omega)) (hr:=(by first|exact hrc|exact hrp.params|exact hrp.lent|exact hrx.args|exact hrx.jumps))) ?_)))))
  rintro _ _ ⟨u27,rfl⟩
  refine ie (Zl 3 [2] (ic [0,0] (Fe w (ys2++Wj x3.params) u27 x3.lent (hl:=(by (try simp only [ZV,Yx,W7,WA]);omega)) (hr:=(by first|exact hrc|exact hrp.params|exact hrp.lent|exact hrx.args|exact hrx.jumps))) ?_))
  rintro _ _ ⟨u28,rfl⟩
  refine ie (Zl 3 [2] (ic [0,0] (JS w ((ys2++Wj x3.params)++Wj x3.lent) u28 x3.result (hl:=(by (try simp only [ZV,Yx,W7,WA]);omega))) ?_))
  rintro _ _ ⟨u29,rfl⟩
  refine ie (Zl 3 [2] (ic [0,0] (JS w (((ys2++Wj x3.params)++Wj x3.lent)++en x3.result) u29 x3.regs (hl:=(by (try simp only [ZV,Yx,W7,WA]);omega))) ?_))
  rintro _ _ ⟨u210,rfl⟩
  refine ie (Zl 3 [2] (iw (Q2 x3.code) (ic [0,0] (JS w ((((ys2++Wj x3.params)++Wj x3.lent)++en x3.result)++en x3.regs) u210 (x3.code.length:Int) (hl:=(by (try simp only [ZV,Yx,W7,WA]);omega))) ?_)))
  rintro _ _ ⟨u211,rfl⟩
  refine ie (Zl 2 [2] (iw (Q2 x3.code) (Z1 (ab 6 (Y2 (fun fz gz m F h=>∃(j2:Nat) (zs2:LI) (u6:Value),(j2<=x3.code.length)/\(zs2++Tz (x3.code.drop j2)=ys2++Je x3)/\F=sF [0,58,59,60,86,87] fz [(88,.i j2)]/\h=[.obj w [ZC zs2 u6],.tail u6 1]/\m=x3.code.length-j2) _ _ _ ⟨0,(((((ys2++Wj x3.params)++Wj x3.lent)++en x3.result)++en x3.regs)++en (x3.code.length:Int)),u211,ob,(by rw [Kx];simp only [Je,W0]),rfl,rfl,rfl⟩ (wk [0,0] (Yc fl)) ?_)))))
  rintro m F h ⟨j2,zs2,u6,Zjh,IY,rfl,rfl,rfl⟩
  refine Y0 (aq (WE ((j2:Int)<(x3.code.length:Int)) (fun Yh=>?_) (fun Yh=>?_)))
  ·have hzl2:=Q9 IY
   refine ak (aq (ab 7 (ar ?_)))
   obtain ⟨x4,Ue⟩:=Zt x3.code j2 om
   have hrx:=hrp.code _ (Y4 Ue)
   have hs1:=hrx.op
   have hs2:=hrx.dst
   have hs3:=hrx.num
   have hs4:=hrx.into
   have hs5:=hrx.args.len
   refine Zo (Zk none (j2:Int) 6 (KF Ue)) (Z0 1 (iA [.i 0,.i 0,.i 0,.i 0,nl,nl] fun b5=>?_))
   refine Zx 0 b5 (WB x4) (ie (Ym 8 [0,0,0,0] (Zo (Zbx 128 3 x4.op x4.dst x4.num x4.into) (Z1 (ab 8 (Y2 (fun fz gz m F h=>∃(i:Nat) (vs:LI) (u7:Value),(i<=4)/\(vs++K9 ([x4.op,x4.dst,x4.num,x4.into].drop i)=zs2++K9 [x4.op,x4.dst,x4.num,x4.into])/\F=sF [0,11,58,59,60,86,87,88,100] fz [(101,.i i)]/\h=[Zf gz 0,.obj w [ZC vs u7],.tail u7 1]/\m=4-i) _ _ _ ⟨0,zs2,u6,ob,rfl,rfl,rfl,rfl⟩ (Zw 3 (Yc fl)) ?_))))))
   rintro m F h ⟨i,vs,u7,Zji,Gv,rfl,rfl,rfl⟩
   refine Y0 (aq (WE ((i:Int)<4) (fun YM=>?_) (fun YM=>?_)))
   ·have hvl:=Q9 Gv
    simp only [ZV,GO,Yp,Yx] at hvl
    refine ak (aq (ab 9 (ar ?_)))
    obtain ⟨x5,UD⟩:=Zt [x4.op,x4.dst,x4.num,x4.into] i (by simp only [Yp,Yx];omega)
    have hx5r:-32768<=x5/\x5<=32767:=by have hm:=Y4 UD;simp only [YL,List.not_mem_nil,or_false] at hm;rcases hm with e|e|e|e<;>omega
    refine Zo (Zbw 3 [x4.op,x4.dst,x4.num,x4.into] i UD rfl) (Z1 (az (Z0 2 (ic [1,1] (JS w vs u7 x5 (hl:=(by (try simp only [ZV,Yx,W7,WA]);omega))) ?_))))
    rintro _ _ ⟨u212,rfl⟩
    exact ie (az (ZD i (Z1 (ZI ⟨i+1,(vs++en x5),u212,ob,(Lz UD Gv),rfl,rfl,rfl⟩ (wk [2,0,0] (ZK i fl))))))
   have hvl:=Q9 Gv
   simp only [ZV,GO,Yp,Yx] at hvl
   have hvE:=Ly (by simp only [Yp,Yx];omega) Gv
   refine ax 8 (Zl 3 [0] (ic [1,1] (Fe w vs u7 x4.args (hl:=(by (try simp only [ZV,Yx,W7,WA]);omega)) (hr:=(by first|exact hrc|exact hrp.params|exact hrp.lent|exact hrx.args|exact hrx.jumps))) ?_))
   rintro _ _ ⟨u213,rfl⟩
   refine ie (az (ZB 3 [2] (ic [0,0] (Fe w (vs++Wj x4.args) u213 x4.jumps (hl:=(by (try simp only [ZV,Yx,W7,WA]);omega)) (hr:=(by first|exact hrc|exact hrp.params|exact hrp.lent|exact hrx.args|exact hrx.jumps))) ?_)))
   rintro _ _ ⟨u214,rfl⟩
   exact ie (az (ZD j2 (Z1 (ZI ⟨j2+1,((vs++Wj x4.args)++Wj x4.jumps),u214,ob,(by have h:=OS Ue IY;rw [hvE];simp only [Aw,K9,W0,TJ,A9] at h ⊢;exact h),rfl,rfl,rfl⟩ (wk [0,0] (ZK j2 fl))))))
  exact ax 6 (az (ZD k2 (Z1 (ZI ⟨k2+1,zs2,u6,ob,(by rw [OQ om IY];exact GN YV J9),rfl,rfl,rfl⟩ (wk [0,0] (ZK k2 fl))))))
 obtain rfl:ys2=xs++VV im:=OM om J9
 exact ax 4 (r2 [0,0] [] ⟨u5,rfl⟩ (lr _))
theorem Rb (im:Yy) (lz:Nat) (hz:IZ im lz:=by exact ob) (hlz:lz<=100:=by exact ob):Zm 29 [Vg im] [] (Yw (Z4 (TQ im))):=by
 refine ZE 11 Tryz.func29 (ar (iA (Ve im) fun b1=>Z1 (Ym 1 [0] (Zu [] (Mb im lz (hz:=hz)) (YC (!(Wk im)) (p:=¬((Wk im)=true)) (Ys Iff.rfl) (fun Za=>?_) (fun Za=>?_))))))
 ·exact ar (Zp (ZZ (nl) (Zd.sl _ (by rw [TQ,Zb Za];rfl))))
 have hV:Wk im=true:=Uz.1 Za
 have hr:=Fd hV hz hlz
 refine ak (ar (iA [nl] fun b2=>ie (Zl 1 [1] (Zau 1 (ic [1,0] (Zbc b2 [] (.slice none 0 0) im (hl:=(QB _))) ?_)))))
 rintro _ _ ⟨u21,rfl⟩
 exact ie (Q4 [0] (ZT (ZZ (ZC ([]++VV im) u21) (Zd.sl _ (Yo Z6 (by rw [TQ,Zh hV,A9]))))))
theorem Ma (im:Yy) (lz:Nat) (hz:IZ im lz:=by exact ob) (hlz:lz<=100:=by exact ob):Zm 27 [Vg im] [] (Yw (.i (X7 im))):=by
 refine ZE 9 Tryz.func27 (ar (iA (Ve im) fun b1=>Z1 (Ym 1 [0] (Zu [] (Mb im lz (hz:=hz)) (YC (!(Wk im)) (p:=¬((Wk im)=true)) (Ys Iff.rfl) (fun Za=>?_) (fun Za=>?_))))))
 ·exact ar (Zp (ZZ (.i (-1)) (li (by rw [X7,Zb Za]))))
 have hV:Wk im=true:=Uz.1 Za
 have hel:=(DL (Fd hV hz hlz)).1
 have hcl:(TQ im).length<=40000000:=by rw [TQ,Zh hV];exact hel
 exact ak (Zl 1 [0] (Zu [] (Rb im lz (hz:=hz)) (io (.i (((TQ im).length:Nat):Int)) (.i (((Z6 (TQ im)).length:Nat):Int)) (li (by rw [Ye])) (Zp (ZZ (.i (((TQ im).length:Nat):Int)) (li (by rw [X7,Zh hV,TQ,Zh hV])))))))
theorem Ku (u:Value) (xs:LI) (z:Int) (hl:xs.length<=4000000000:=by exact ob) (hz:-32768<=z/\z<=32767:=by exact ob):Zm 86 [ZC xs u,.i z] [.tail u 1] (fun r h=>∃(u2:Value),r=ZC (xs++en z) u2/\h=[.tail u2 1]):=by
 exact ZE 14 Tryz.func86 (Y0 (Yf 2 (ia ((z+32768)) ((z)+(32768)) (Zo (Hr (z+32768) 256 om om) (Z0 1 (ia ((z+32768)) ((z)+(32768)) (Zo (E2 (z+32768) 256 om om) (iL (Z6 [(z+32768) / 256,(z+32768) % 256]) 2 1 fun v1=>ZQ 0 [(12,Z4 [(z+32768) / 256,(z+32768) % 256])] (ip 1 (Z6 (xs++[(z+32768) / 256,(z+32768) % 256])) (Z6 xs) (Z6 [(z+32768) / 256,(z+32768) % 256]) u none 1 (YD _) (YD _) (W1 _) (by simp<;>omega) (by simp [W5,Z6]) fun v2=>Zp (r2 [0] [ZC (xs++[(z+32768) / 256,(z+32768) % 256]) v2] ⟨v2,rfl,rfl⟩ (Zd.slh _ (Yo Z6 ob))))))))))))
theorem FU (u:Value) (xs:LI) (l:LI) (hl:xs.length<=3000000000:=by exact ob) (hr:RL l:=by exact ob):Zm 87 [ZC xs u,Z4 l] [.tail u 1] (fun r h=>∃(u2:Value),r=ZC (xs++Wj l) u2/\h=[.tail u2 1]):=by
 have hrl:=hr.len
 refine ZE 23 Tryz.func87 (Y0 (Yf 2 (iw (Ye l) (ic [0] (Ku u xs (l.length:Int)) ?_))))
 rintro _ _ ⟨u21,rfl,rfl⟩
 refine Z1 (Y6 (ab 0 (Y2 (fun fz gz m F h=>∃(j:Nat) (ys:LI) (u3:Value),(j<=l.length)/\(ys++K9 (l.drop j)=xs++Wj l)/\F=sF [1] fz [(0,ZC ys u3),(5,.i j)]/\h=[.tail u3 1]/\m=l.length-j) _ _ _ ⟨0,(xs++en (l.length:Int)),u21,ob,(by rw [Wj,W0];rfl),rfl,rfl,rfl⟩ (wk [0] (fr (Yc fl))) ?_)))
 rintro m F h ⟨j,ys,u3,Yj,Zg,rfl,rfl,rfl⟩
 refine YQ 2 (iw (Ye l) (Y3 ((j:Int)<(l.length:Int)) (fun Za=>?_) (fun Za=>?_)))
 ·have hyl:=Q9 Zg
  rw [ZV,WA] at hyl
  refine ak (aq (ab 1 (az (Z0 3 ?_))))
  obtain ⟨x1,Z3⟩:=Zt l j om
  have hx1r:=hr.rg _ (Y4 Z3)
  refine Zo (Zk none (j:Int) 1 (Y8 Z3)) (Z0 1 (ic [0] (Ku u3 ys x1) ?_))
  rintro _ _ ⟨u22,rfl,rfl⟩
  exact Z1 (az (Z0 1 (ZD j (Z1 (ZI ⟨j+1,(ys++en x1),u22,ob,(Lz Z3 Zg),rfl,rfl,rfl⟩ (wk [0] (fr (ZK j fl))))))))
 exact ax 0 (ar (Zp (r2 [0] [ZC ys u3] ⟨u3,rfl,rfl⟩ (Zd.slh _ (Yo Z6 (Ly om Zg))))))
theorem Zgq (u:Value) (xs:LI) (x:Instr) (hl:xs.length<=2000000000:=by exact ob) (hr:RX x:=by exact ob):Zm 88 [ZC xs u,UX x] [.tail u 1] (fun r h=>∃(u2:Value),r=ZC (xs++Aw x) u2/\h=[.tail u2 1]):=by
 have hs1:=hr.op
 have hs2:=hr.dst
 have hs3:=hr.num
 have hs4:=hr.into
 have hs5:=hr.args.len
 refine ZE 26 Tryz.func88 (ar (iA (WB x) fun b1=>Z1 (aD 8 (ZX 3 8 [0,1,2,4,5] [0,0] (Z7 3 (dc 3 [1] [0] [b1] (Ku u xs x.op (hl:=(by (try simp only [ZV,Yx,W7,WA]);omega))) ?_))))))
 rintro _ _ ⟨u21,rfl,rfl⟩
 refine Yq 2 2 [] [(0,Z4 xs)] (Z7 6 (dc 6 [0] [] [] (Ku u21 (xs++en x.op) x.dst (hl:=(by (try simp only [ZV,Yx,W7,WA]);omega))) ?_))
 rintro _ _ ⟨u22,rfl,rfl⟩
 refine Zs 0 1 [7] (de (aD 8 (ZX 3 8 [0,1,2,4,5] [1,1] (Z7 3 (dc 3 [0] [0] [b1] (Ku u22 ((xs++en x.op)++en x.dst) x.num (hl:=(by (try simp only [ZV,Yx,W7,WA]);omega))) ?_)))))
 rintro _ _ ⟨u23,rfl,rfl⟩
 refine Yq 2 2 [] [(0,Z4 ((xs++en x.op)++en x.dst))] (Z7 6 (dc 6 [0] [] [] (Ku u23 (((xs++en x.op)++en x.dst)++en x.num) x.into (hl:=(by (try simp only [ZV,Yx,W7,WA]);omega))) ?_))
 rintro _ _ ⟨u24,rfl,rfl⟩
 refine Zs 0 1 [7] (de (aD 8 (ZX 3 8 [0,1,2,4,5] [1,1] (Z7 3 (dc 3 [0] [0] [b1] (FU u24 ((((xs++en x.op)++en x.dst)++en x.num)++en x.into) x.args (hl:=(by (try simp only [ZV,Yx,W7,WA]);omega)) (hr:=(by first|exact hr.args|exact hr.jumps))) ?_)))))
 rintro _ _ ⟨u25,rfl,rfl⟩
 refine Z7 6 (dc 6 [0] [] [] (FU u25 (((((xs++en x.op)++en x.dst)++en x.num)++en x.into)++Wj x.args) x.jumps (hl:=(by (try simp only [ZV,Yx,W7,WA]);omega)) (hr:=(by first|exact hr.args|exact hr.jumps))) ?_)
 rintro _ _ ⟨u26,rfl,rfl⟩
 exact Zs 0 1 [7] (de (ZT (r2 [0] [ZC ((((((xs++en x.op)++en x.dst)++en x.num)++en x.into)++Wj x.args)++Wj x.jumps) u26] ⟨u26,rfl,rfl⟩ (Zd.slh _ (Yo Z6 (by simp only [Aw,W0]))))))
theorem Zgp (u:Value) (xs:LI) (ds:List Zc) (hl:xs.length<=1000000000:=by exact ob) (h4:ds.length<=4:=by exact ob) (hr:∀d∈ds,RD d):Zm 85 [ZC xs u,Y5 ds] [.tail u 1] (fun r h=>∃(u2:Value),r=ZC (xs++Qk ds) u2/\h=[.tail u2 1]):=by
 have hel:=Lx hr
 have hT1:(xs++Qk ds).length<=1000050000:=by rw [ZV,Qk,ZV,W7];omega
 refine ZE 60 Tryz.func85 (Y0 (Yf 2 (iw (Ua ds) (ic [0] (Ku u xs (ds.length:Int) (hl:=(by (try simp only [ZV,Yx,W7,WA]);omega))) ?_))))
 rintro _ _ ⟨u21,rfl,rfl⟩
 refine Z1 (Y6 (ab 0 (Y2 (fun fz gz m F h=>∃(k:Nat) (ys:LI) (u3:Value),(k<=ds.length)/\(ys++KH (ds.drop k)=xs++Qk ds)/\F=sF [1] fz [(0,ZC ys u3),(5,.i k)]/\h=[.tail u3 1]/\m=ds.length-k) _ _ _ ⟨0,(xs++en (ds.length:Int)),u21,ob,(by rw [Qk,W0];rfl),rfl,rfl,rfl⟩ (wk [0] (fr (Yc fl))) ?_)))
 rintro m F h ⟨k,ys,u3,Yj,Zg,rfl,rfl,rfl⟩
 refine YQ 2 (iw (Ua ds) (Y3 ((k:Int)<(ds.length:Int)) (fun Za=>?_) (fun Za=>?_)))
 ·have hyl:=Q9 Zg
  refine ak (aq (ab 1 (aD 14 (Zs 11 14 [0,1,2] ?_))))
  obtain ⟨x1,Z3⟩:=Zt ds k om
  have hrd:=hr _ (Y4 Z3)
  have hyd:=Q9 (GM Z3 Zg)
  have hr1:=hrd.frm
  have hr2:=hrd.to_
  have hr3:=hrd.len
  refine dx 3 (Zk none (k:Int) 3 (V1 Z3)) (Zs 6 10 [4,5,7,8] (dx 9 (Zk none (k:Int) 3 (V1 Z3)) (Zs 3 5 [10,11] (Z7 6 (dc 6 [0] [] [] (Ku u3 ys x1.frm (hl:=(by (try simp only [ZV,Yx,W7,WA]);omega))) ?_)))))
  rintro _ _ ⟨u22,rfl,rfl⟩
  refine Yq 2 2 [] [(0,Z4 ys)] (Z7 12 (dc 12 [0] [] [] (Ku u22 (ys++en x1.frm) x1.to_ (hl:=(by (try simp only [ZV,Yx,W7,WA]);omega))) ?_))
  rintro _ _ ⟨u23,rfl,rfl⟩
  refine Zs 0 1 [13] (de (Yf 3 (Zo (Zk none (k:Int) 3 (V1 Z3)) (Z0 2 (iw (Uk x1.cons) (ic [0] (Ku u23 ((ys++en x1.frm)++en x1.to_) (x1.cons.length:Int) (hl:=(by (try simp only [ZV,Yx,W7,WA]);omega))) ?_))))))
  rintro _ _ ⟨u24,rfl,rfl⟩
  refine Z1 (Y0 (ab 2 (Y2 (fun fz gz m F h=>∃(j:Nat) (zs:LI) (u4:Value),(j<=x1.cons.length)/\(zs++KG (x1.cons.drop j)=ys++Ba x1)/\F=sF [1,5] fz [(0,ZC zs u4),(6,.i j)]/\h=[.tail u4 1]/\m=x1.cons.length-j) _ _ _ ⟨0,(((ys++en x1.frm)++en x1.to_)++en (x1.cons.length:Int)),u24,ob,(by rw [Kx];simp only [Ba,W0]),rfl,rfl,rfl⟩ (wk [0] (fr (Yc fl))) ?_)))
  rintro m F h ⟨j,zs,u4,Vp,Xp,rfl,rfl,rfl⟩
  refine YQ 3 (Zo (Zk none (k:Int) 3 (V1 Z3)) (Z0 2 (iw (Uk x1.cons) (Y3 ((j:Int)<(x1.cons.length:Int)) (fun Zj=>?_) (fun Zj=>?_)))))
  ·have hzl:=Q9 Xp
   refine ak (aq (ab 3 (az (Z0 3 (Zo (Zk none (k:Int) 3 (V1 Z3)) (Z0 3 ?_))))))
   obtain ⟨x2,Zy⟩:=Zt x1.cons j om
   have hrc:=hrd.cons _ (Y4 Zy)
   refine Zo (Zk none (j:Int) 1 (As Zy)) (Z0 2 (ic [0] (FU u4 zs x2.fields (hl:=(by (try simp only [ZV,Yx,W7,WA]);omega)) (hr:=hrc)) ?_))
   rintro _ _ ⟨u25,rfl,rfl⟩
   exact Z1 (az (Z0 1 (ZD j (Z1 (ZI ⟨j+1,(zs++Wj x2.fields),u25,ob,(OG Zy Xp),rfl,rfl,rfl⟩ (wk [0] (fr (ZK j fl))))))))
  exact ax 2 (az (Z0 1 (ZD k (Z1 (ZI ⟨k+1,zs,u4,ob,(by rw [OE om Xp];exact GM Z3 Zg),rfl,rfl,rfl⟩ (wk [0] (fr (ZK k fl))))))))
 exact ax 0 (ar (Zp (r2 [0] [ZC ys u3] ⟨u3,rfl,rfl⟩ (Zd.slh _ (Yo Z6 (OI om Zg))))))
theorem Zgj (im:Yy) (hr:RI im:=by exact ob):Zm 51 [Vg im] [] (Yw (Z4 (VV im))):=by
 have hel:=DL hr
 have hd4:=hr.dlen
 have X2:=hr.plen
 have hrd:=hr.decls
 refine ZE 62 Tryz.func51 (ar (iA (Ve im) fun b1=>Z1 (ar (iL (Z6 []) 0 1 fun v1=>ZB 2 [1] (ic [0] (Zgp v1 [] im.decls (hl:=(QB _)) (h4:=hd4) (hr:=hrd)) ?_)))))
 rintro _ _ ⟨u21,rfl,rfl⟩
 refine Z1 (Zl 3 [1] (iw (K7 im.procs) (ic [0] (Ku u21 ([]++Qk im.decls) (im.procs.length:Int) (hl:=(by (try simp only [ZV,Yx,W7,WA]);omega))) ?_)))
 rintro _ _ ⟨u22,rfl,rfl⟩
 refine Z1 (Y6 (ab 0 (Y2 (fun fz gz m F h=>∃(k:Nat) (ys:LI) (u3:Value),(k<=im.procs.length)/\(ys++Ty (im.procs.drop k)=VV im)/\F=sF [1] fz [(3,ZC ys u3),(4,.i k)]/\h=[Zf gz 1,.tail u3 1]/\m=im.procs.length-k) _ _ _ ⟨0,(([]++Qk im.decls)++en (im.procs.length:Int)),u22,ob,(by rw [Kx,A9];simp only [VV,W0]),rfl,rfl,rfl⟩ (wk [1,0] (fr (Yc fl))) ?_)))
 rintro m F h ⟨k,ys,u3,Yj,Zg,rfl,rfl,rfl⟩
 refine Ym 3 [0] (iw (K7 im.procs) (Y3 ((k:Int)<(im.procs.length:Int)) (fun Za=>?_) (fun Za=>?_)))
 ·have hyl:=Q9 Zg
  refine ak (aq (ab 1 (Zl 3 [0] ?_)))
  obtain ⟨x1,Z3⟩:=Zt im.procs k om
  have hrp:=hr.procs _ (Y4 Z3)
  have hyp:=Q9 (GN Z3 Zg)
  have hq1:=hrp.result
  have hq2:=hrp.regs
  have hq3:=hrp.len
  have hq4:=hrp.params.len
  have hq5:=hrp.lent.len
  refine Zo (Zk none (k:Int) 5 (Jc Z3)) (Z0 1 (iA [nl,nl,.i 0,.i 0,nl] fun b2=>Zx 0 b2 (UE x1) (ie (aD 8 (ZX 3 8 [0,1,2,4,5] [0,0] (Z7 3 (dc 3 [2] [0] [b2] (FU u3 ys x1.params (hl:=(by (try simp only [ZV,Yx,W7,WA]);omega)) (hr:=(by first|exact hrp.params|exact hrp.lent))) ?_)))))))
  rintro _ _ ⟨u23,rfl,rfl⟩
  refine Yq 2 2 [] [(3,Z4 ys)] (Z7 6 (dc 6 [0] [] [] (FU u23 (ys++Wj x1.params) x1.lent (hl:=(by (try simp only [ZV,Yx,W7,WA]);omega)) (hr:=(by first|exact hrp.params|exact hrp.lent))) ?_))
  rintro _ _ ⟨u24,rfl,rfl⟩
  refine Zs 0 1 [7] (de (aD 8 (ZX 3 8 [0,1,2,4,5] [1,1] (Z7 3 (dc 3 [0] [0] [b2] (Ku u24 ((ys++Wj x1.params)++Wj x1.lent) x1.result (hl:=(by (try simp only [ZV,Yx,W7,WA]);omega))) ?_)))))
  rintro _ _ ⟨u25,rfl,rfl⟩
  refine Yq 2 2 [] [(3,Z4 ((ys++Wj x1.params)++Wj x1.lent))] (Z7 6 (dc 6 [0] [] [] (Ku u25 (((ys++Wj x1.params)++Wj x1.lent)++en x1.result) x1.regs (hl:=(by (try simp only [ZV,Yx,W7,WA]);omega))) ?_))
  rintro _ _ ⟨u26,rfl,rfl⟩
  refine Zs 0 1 [7] (de (Zl 3 [1] (iw (Q2 x1.code) (ic [0] (Ku u26 ((((ys++Wj x1.params)++Wj x1.lent)++en x1.result)++en x1.regs) (x1.code.length:Int) (hl:=(by (try simp only [ZV,Yx,W7,WA]);omega))) ?_))))
  rintro _ _ ⟨u27,rfl,rfl⟩
  refine Z1 (Y0 (ab 2 (Y2 (fun fz gz m F h=>∃(j:Nat) (zs:LI) (u4:Value),(j<=x1.code.length)/\(zs++Tz (x1.code.drop j)=ys++Je x1)/\F=sF [1,4,5] fz [(3,ZC zs u4),(6,.i j)]/\h=[Zf gz 1,Zf gz 2,.tail u4 1]/\m=x1.code.length-j) _ _ _ ⟨0,(((((ys++Wj x1.params)++Wj x1.lent)++en x1.result)++en x1.regs)++en (x1.code.length:Int)),u27,ob,(by rw [Kx];simp only [Je,W0]),rfl,rfl,rfl⟩ (wk [1,1,0] (fr (Yc fl))) ?_)))
  rintro m F h ⟨j,zs,u4,Vp,Xp,rfl,rfl,rfl⟩
  refine Ym 3 [0] (iw (Q2 x1.code) (Y3 ((j:Int)<(x1.code.length:Int)) (fun Zj=>?_) (fun Zj=>?_)))
  ·have hzl:=Q9 Xp
   refine ak (aq (ab 3 (az (ZB 4 [0] ?_))))
   obtain ⟨x2,Zy⟩:=Zt x1.code j om
   have hrx:=hrp.code _ (Y4 Zy)
   refine Zo (Zk none (j:Int) 6 (KF Zy)) (Z0 1 (ic [2] (Zgq u4 zs x2 (hl:=(by (try simp only [ZV,Yx,W7,WA]);omega)) (hr:=hrx)) ?_))
   rintro _ _ ⟨u28,rfl,rfl⟩
   exact Z1 (az (Z0 1 (ZD j (Z1 (ZI ⟨j+1,(zs++Aw x2),u28,ob,(OS Zy Xp),rfl,rfl,rfl⟩ (wk [1,1,0] (fr (ZK j fl))))))))
  exact ax 2 (az (Z0 1 (ZD k (Z1 (ZI ⟨k+1,zs,u4,ob,(by rw [OQ om Xp];exact GN Z3 Zg),rfl,rfl,rfl⟩ (wk [1,1] (fr (ZK k fl))))))))
 exact ax 0 (ar (Zp (ZZ (ZC ys u3) (Zd.sl _ (Yo Z6 (OM om Zg))))))
theorem Ib (im:Yy) (lz:Nat) (hz:IZ im lz:=by exact ob) (hlz:lz<=100:=by exact ob):Zm 28 [Vg im] [] (Yw (.i (X7 im))):=by
 refine ZE 9 Tryz.func28 (ar (iA (Ve im) fun b1=>Z1 (Ym 1 [0] (Zu [] (Zhc im lz (hz:=hz)) (YC (!(Wk im)) (p:=¬((Wk im)=true)) (Ys Iff.rfl) (fun Za=>?_) (fun Za=>?_))))))
 ·exact ar (Zp (ZZ (.i (-1)) (li (by rw [X7,Zb Za]))))
 have hV:Wk im=true:=Uz.1 Za
 have hr:=Fd hV hz hlz
 have hel:=(DL hr).1
 exact ak (Zl 1 [0] (Zu [] (Zgj im (hr:=hr)) (io (.i (((VV im).length:Nat):Int)) (.i (((Z6 (VV im)).length:Nat):Int)) (li (by rw [Ye])) (Zp (ZZ (.i (((VV im).length:Nat):Int)) (li (by rw [X7,Zh hV])))))))
theorem Zc9 (code:LI) (hcb:∀z∈code,0<=z/\z<=255):Zm 9 [Up code] [] (Yw (.b true)):=by
 refine ZE 38 Tryz.func9 (Y0 (YQ 1 (iw (BO code) (Y3 ((code.length:Int)>1048576) (fun Za=>?_) (fun Za=>?_)))))
 ·exact ar (Zp (Ik))
 have hcl:code.length<=1048576:=by omega
 refine ak (Yf 1 (ic [] (Px code (hcl:=hcl) (hcb:=hcb)) ?_))
 rintro _ _ ⟨y1,rfl,rfl,Y9⟩
 have hdz:=Y9
 have hdl:=hdz.len
 refine iA [nl,nl] fun b1=>Zx 0 b1 (Ve y1) (ie (Zl 1 [0] (Zu [] (Ma y1 1 (hz:=(by first|exact hdz|exact Ng hV hdz)) (hlz:=om)) (Z1 (Ym 2 [0] (Zu [] (Ib y1 1 (hz:=hdz) (hlz:=om)) (Xx [3,4] [(19,.b (((X7 y1) != (X7 y1))||(decide ((X7 y1)<0))))] (fun gz=>gz) ?_ ?_)))))))
 ·refine Z0 2 (ib (b:=((X7 y1) != (X7 y1))) 16 (fun Ze=>?_) (fun Ze=>?_))
  ·have Yt:(X7 y1)≠(X7 y1):=(YB).1 Ze
   exact Z1 (wk [0] (fc (x:=.b true) (lb (by rw [Ze];rfl)) fl))
  have YS:¬((X7 y1)≠(X7 y1)):=Yb YB Ze
  exact Z1 (wk [0] (fc (x:=.b (decide ((X7 y1)<0))) (lb (by rw [Ze];rfl)) fl))
 refine ac (((X7 y1) != (X7 y1))||(decide ((X7 y1)<0))) (p:=((X7 y1)≠(X7 y1))∨((X7 y1)<0)) (Y1 YB dq) (fun Zj=>?_) (fun Zj=>?_)
 ·exact Zl 2 [0] (Zu [] (Ib y1 1 (hz:=hdz) (hlz:=om)) (Zp (ZZ (.b ((X7 y1)==(X7 y1))) (lb (by simp)))))
 have hV:Wk y1=true:=By fun z=>Zj (.inr (by rw [X7,Zb z];decide))
 have hE:X7 y1=((VV y1).length:Nat):=by rw [X7,Zh hV]
 have hE2:=OK y1
 have hE3:=(DL (Fd hV hdz om)).1
 have hE4:TQ y1=VV y1:=by rw [TQ,Zh hV]
 have hE5:X7 (TF y1).1=((VV y1).length:Nat):=by rw [X7,Zh (Z2a hV),Ew hV];exact Yo (fun n:Nat=>(n:Int)) (OL y1)
 refine ak (Yf 1 (Zo (E2 (X7 y1) 2 om om) (Xc 7 [3,4] [(30,.b ((((X7 y1) % 2)==0)&&(decide ((X7 y1)>0))))] (fun gz=>gz) ?_ (fun hj1=>?_))))
 ·refine Xc 14 [] [(37,.b (((((X7 y1) % 2)==0)&&(decide ((X7 y1)>0)))&&((((TQ y1).length:Nat):Int)==(X7 y1))))] (fun gz=>gz) ?_ (fun hj2=>?_)
  ·exact Zp (ZZ (.b (((((X7 y1) % 2)==0)&&(decide ((X7 y1)>0)))&&((((TQ y1).length:Nat):Int)==(X7 y1)))) (lb (by have hq:((X7 y1 % 2==0)&&decide (X7 y1>0))=true:=(by rw [YX,Zi,decide_eq_true_eq];omega);rw [hq,hE4,hE];simp)))
  refine Z0 1 (ib (b:=((((X7 y1) % 2)==0)&&(decide ((X7 y1)>0)))) 31 (fun ZH=>?_) (fun ZH=>?_))
  ·have X2:(((X7 y1) % 2)=0)/\((X7 y1)>0):=((YI Zi dq)).1 ZH
   exact ZB 1 [0] (Zu [] (Rb y1 1 (hz:=hdz) (hlz:=om)) (io (.i (((TQ y1).length:Nat):Int)) (.i (((Z6 (TQ y1)).length:Nat):Int)) (li (by rw [Ye])) (Z0 3 (Ya (wk [0] (fc (x:=.b ((((TQ y1).length:Nat):Int)==(X7 y1))) (lb (by rw [ZH];rfl)) fl)) hj2))))
  have Xk:¬((((X7 y1) % 2)=0)/\((X7 y1)>0)):=Yb (YI Zi dq) ZH
  exact Z0 6 (Ya (wk [0] (fc (x:=.b false) (lb (by rw [ZH];rfl)) fl)) hj2)
 refine Z0 2 (ib (b:=(((X7 y1) % 2)==0)) 27 (fun Yn=>?_) (fun Yn=>?_))
 ·have XU:((X7 y1) % 2)=0:=(Zi).1 Yn
  exact Z0 3 (Ya (wk [0] (fc (x:=.b (decide ((X7 y1)>0))) (lb (by rw [Yn];rfl)) fl)) hj1)
 have Wo:¬(((X7 y1) % 2)=0):=Yb Zi Yn
 exact Z0 3 (Ya (wk [0] (fc (x:=.b false) (lb (by rw [Yn];rfl)) fl)) hj1)
theorem Zca (code:LI) (hcb:∀z∈code,0<=z/\z<=255):Zm 10 [Up code] [] (Yw (.b true)):=by
 refine ZE 38 Tryz.func10 (Y0 (YQ 1 (iw (BO code) (Y3 ((code.length:Int)>1048576) (fun Za=>?_) (fun Za=>?_)))))
 ·exact ar (Zp (Ik))
 have hcl:code.length<=1048576:=by omega
 refine ak (Yf 1 (ic [] (Px code (hcl:=hcl) (hcb:=hcb)) ?_))
 rintro _ _ ⟨y1,rfl,rfl,Y9⟩
 have hdz:=Y9
 have hdl:=hdz.len
 refine iA [nl,nl] fun b1=>Zx 0 b1 (Ve y1) (ie (Zl 1 [0] (Zu [] (Ma y1 1 (hz:=(by first|exact hdz|exact Ng hV hdz)) (hlz:=om)) (Z1 (Ym 2 [0] (Zu [] (Ib y1 1 (hz:=hdz) (hlz:=om)) (Xx [3,4] [(21,.b (((X7 y1) != (X7 y1))||(decide ((X7 y1)<0))))] (fun gz=>gz) ?_ ?_)))))))
 ·refine Z0 2 (ib (b:=((X7 y1) != (X7 y1))) 18 (fun Ze=>?_) (fun Ze=>?_))
  ·have Yt:(X7 y1)≠(X7 y1):=(YB).1 Ze
   exact Z1 (wk [0] (fc (x:=.b true) (lb (by rw [Ze];rfl)) fl))
  have YS:¬((X7 y1)≠(X7 y1)):=Yb YB Ze
  exact Z1 (wk [0] (fc (x:=.b (decide ((X7 y1)<0))) (lb (by rw [Ze];rfl)) fl))
 refine ac (((X7 y1) != (X7 y1))||(decide ((X7 y1)<0))) (p:=((X7 y1)≠(X7 y1))∨((X7 y1)<0)) (Y1 YB dq) (fun Zj=>?_) (fun Zj=>?_)
 ·exact Zl 2 [0] (Zu [] (Ib y1 1 (hz:=hdz) (hlz:=om)) (Zp (ZZ (.b ((X7 y1)==(X7 y1))) (lb (by simp)))))
 have hV:Wk y1=true:=By fun z=>Zj (.inr (by rw [X7,Zb z];decide))
 have hE:X7 y1=((VV y1).length:Nat):=by rw [X7,Zh hV]
 have hE2:=OK y1
 have hE3:=(DL (Fd hV hdz om)).1
 have hE4:TQ y1=VV y1:=by rw [TQ,Zh hV]
 have hE5:X7 (TF y1).1=((VV y1).length:Nat):=by rw [X7,Zh (Z2a hV),Ew hV];exact Yo (fun n:Nat=>(n:Int)) (OL y1)
 refine ak (Zl 1 [0] (Zu [] (Zb1 y1 1 (hz:=hdz) (hlz:=om)) (Z0 3 (iA [nl,nl] fun b2=>Zx 0 b2 (Ve ((TF y1).1)) (Z1 (ar (Xc 7 [] [(37,.b ((TF y1).2&&((X7 ((TF y1).1))==(X7 y1))))] (fun gz=>gz) ?_ (fun hj1=>?_))))))))
 ·exact Zp (ZZ (.b ((TF y1).2&&((X7 ((TF y1).1))==(X7 y1)))) (lb (by rw [hE5,hE,show (TF y1).2=true from (by rw [Ew hV])];simp)))
 refine Z0 2 (ib (b:=(TF y1).2) 32 (fun ZH=>?_) (fun ZH=>?_))
 ·have X2:(TF y1).2=true:=(Iff.rfl).1 ZH
  exact ZB 1 [0] (Zu [] (Ma ((TF y1).1) 1 (hz:=(by first|exact hdz|exact Ng hV hdz)) (hlz:=om)) (Z0 3 (Ya (wk [0,0] (fc (x:=.b ((X7 ((TF y1).1))==(X7 y1))) (lb (by rw [ZH];rfl)) fl)) hj1)))
 have Xk:¬((TF y1).2=true):=Yb Iff.rfl ZH
 exact Z0 5 (Ya (wk [0,0] (fc (x:=.b false) (lb (by rw [ZH];rfl)) fl)) hj1)
end Go.Abs
