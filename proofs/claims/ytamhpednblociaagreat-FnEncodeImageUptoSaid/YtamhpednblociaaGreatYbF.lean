/-
  A part of the proofs of several laws (see the last file): no condition.
-/
import Derived.Test.YtamhpednblociaaGreatYbE
set_option linter.all false
set_option linter.unusedVariables false
set_option linter.unusedSimpArgs false
set_option linter.unusedSectionVars false
set_option maxRecDepth 10000
set_option maxHeartbeats 4000000
namespace Go.Abs
open Go.Proofs
theorem JE (w:Nat) (xs:LI) (u:Value) (z:Int) (hl:xs.length<=4000000000:=by exact ob) (hz:-32768<=z/\z<=32767:=by exact ob):Zo 58 [.p w 0,.i z] [.obj w [ZH xs u],.tail u 1] (fun r h=>∃(u2:Value),h=[.obj w [ZH (xs++en z) u2],.tail u2 1]):=by
 exact ZE 19 Tryz.func58 (az (Zz 6 [0] (ia ((z+32768)) ((z)+(32768)) (Zs (H0 (z+32768) 256 om om) (Z0 1 (ia ((z+32768)) ((z)+(32768)) (Zs (F3 (z+32768) 256 om om) (iL (Z6 [(z+32768) / 256,(z+32768) % 256]) 2 1 fun v1=>ZQ 0 [(15,Z4 [(z+32768) / 256,(z+32768) % 256])] (ip 2 (Z6 (xs++[(z+32768) / 256,(z+32768) % 256])) (Z6 xs) (Z6 [(z+32768) / 256,(z+32768) % 256]) u none 1 (YD _) (YD _) (W2 _) (by simp<;>omega) (by simp [W1,Z6]) fun v2=>Z0 2 (Zy 2 w [ZH (xs++[(z+32768) / 256,(z+32768) % 256]) v2] (ie (r2 [0,0] [] ⟨v2,rfl⟩ (lr _)))))))))))))
theorem EV (w:Nat) (xs:LI) (u:Value) (l:LI) (hl:xs.length<=3000000000:=by exact ob) (hr:RL l:=by exact ob):Zo 59 [.p w 0,Z4 l] [.obj w [ZH xs u],.tail u 1] (fun r h=>∃(u2:Value),h=[.obj w [ZH (xs++W3 l) u2],.tail u2 1]):=by
 have hrl:=hr.len
 refine ZE 20 Tryz.func59 (Yf 2 (iw (Yc l) (ic [0,0] (JE w xs u (l.length:Int)) ?_)))
 rintro _ _ ⟨u21,rfl⟩
 refine ie (Yf 1 (iw (Yc l) (Z1 (ab 0 (Y0 (fun fz gz m F h=>∃(j:Nat) (ys:LI) (u3:Value),(j<=l.length)/\(ys++Qd (l.drop j)=xs++W3 l)/\F=sF [0,10,11] fz [(12,.i j)]/\h=[.obj w [ZH ys u3],.tail u3 1]/\m=l.length-j) _ _ _ ⟨0,(xs++en (l.length:Int)),u21,ob,(by rw [W3,XW];rfl),rfl,rfl,rfl⟩ (wk [0,0] (Ya fl)) ?_)))))
 rintro m F h ⟨j,ys,u3,Yj,Zf,rfl,rfl,rfl⟩
 refine Y1 (aq (WA ((j:Int)<(l.length:Int)) (fun Z9=>?_) (fun Z9=>?_)))
 ·have hyl:=TZ Zf
  rw [ZX,WE] at hyl
  refine ak (aq (ab 1 (ar ?_)))
  obtain ⟨x1,Z3⟩:=Zt l j om
  have hx1r:=hr.rg _ (Y3 Z3)
  refine Zs (Zh none (j:Int) 1 (Y8 Z3)) (Z1 (az (Z0 2 (ic [0,0] (JE w ys u3 x1) ?_))))
  rintro _ _ ⟨u22,rfl⟩
  exact ie (az (ZD j (Z1 (ZF ⟨j+1,(ys++en x1),u22,ob,(L9 Z3 Zf),rfl,rfl,rfl⟩ (wk [0,0] (ZI j fl))))))
 obtain rfl:ys=xs++W3 l:=L8 om Zf
 exact ax 0 (r2 [0,0] [] ⟨u3,rfl⟩ (lr _))
theorem Zac (w:Nat) (xs:LI) (u:Value) (im:YA) (hl:xs.length<=1000000000:=by exact ob) (hr:RI im:=by exact ob):Zo 32 [.p w 0,V7 im] [.obj w [ZH xs u],.tail u 1] (fun r h=>∃(u2:Value),h=[.obj w [ZH (xs++To im) u2],.tail u2 1]):=by
 have hel:=Gq hr
 have hd4:=hr.dlen
 have YV:=hr.plen
 have hT1:(xs++QY im.decls).length<=1000050000:=by rw [ZX];omega
 have hT2:(xs++To im).length<=1040000000:=by rw [ZX];omega
 refine ZE 118 Tryz.func32 (ar (iA (Vd im) fun b1=>ie (Zq 3 [0] (iw (VB im.decls) (ic [1,1] (JE w xs u (im.decls.length:Int) (hl:=(by (try simp only [ZX,YC,Wn,WE]);omega))) ?_)))))
 rintro _ _ ⟨u21,rfl⟩
 refine ie (Ys 2 [2] (iw (VB im.decls) (Z1 (ab 0 (Y0 (fun fz gz m F h=>∃(k:Nat) (ys:LI) (u3:Value),(k<=im.decls.length)/\(ys++Qx (im.decls.drop k)=xs++QY im.decls)/\F=sF [0,3,20,21] fz [(22,.i k)]/\h=[.obj w [ZH ys u3],Zi gz 2,.tail u3 1]/\m=im.decls.length-k) _ _ _ ⟨0,(xs++en (im.decls.length:Int)),u21,ob,(by rw [QY,XW];rfl),rfl,rfl,rfl⟩ (wk [0,1,0] (Ya fl)) ?_)))))
 rintro m F h ⟨k,ys,u3,Yj,Zf,rfl,rfl,rfl⟩
 refine Y1 (aq (WA ((k:Int)<(im.decls.length:Int)) (fun Z9=>?_) (fun Z9=>?_)))
 ·have hyl:=TZ Zf
  refine ak (aq (ab 1 (ar ?_)))
  obtain ⟨x1,Z3⟩:=Zt im.decls k om
  have hrd:=hr.decls _ (Y3 Z3)
  have hyd:=TZ (Gp Z3 Zf)
  have hr1:=hrd.frm
  have hr2:=hrd.to_
  have hr3:=hrd.len
  refine Zs (Zh none (k:Int) 3 (Wg Z3)) (Z0 1 (iA [.i 0,.i 0,nl] fun b2=>Zy 0 b2 (BK x1) (ie (Zq 3 [0] (ic [1,2] (JE w ys u3 x1.frm (hl:=(by (try simp only [ZX,YC,Wn,WE]);omega))) ?_)))))
  rintro _ _ ⟨u22,rfl⟩
  refine ie (Zq 3 [2] (ic [0,0] (JE w (ys++en x1.frm) u22 x1.to_ (hl:=(by (try simp only [ZX,YC,Wn,WE]);omega))) ?_))
  rintro _ _ ⟨u23,rfl⟩
  refine ie (Zq 3 [2] (iw (VT x1.cons) (ic [0,0] (JE w ((ys++en x1.frm)++en x1.to_) u23 (x1.cons.length:Int) (hl:=(by (try simp only [ZX,YC,Wn,WE]);omega))) ?_)))
  rintro _ _ ⟨u24,rfl⟩
  refine ie (Zq 2 [2] (iw (VT x1.cons) (Z1 (ab 2 (Y0 (fun fz gz m F h=>∃(j:Nat) (zs:LI) (u4:Value),(j<=x1.cons.length)/\(zs++Qc (x1.cons.drop j)=ys++Kw x1)/\F=sF [0,3,20,21,22,40,41] fz [(42,.i j)]/\h=[.obj w [ZH zs u4],Zi gz 3,.tail u4 1]/\m=x1.cons.length-j) _ _ _ ⟨0,(((ys++en x1.frm)++en x1.to_)++en (x1.cons.length:Int)),u24,ob,(by rw [Kk];simp only [Kw,XW]),rfl,rfl,rfl⟩ (wk [0,2,0] (Ya fl)) ?_)))))
  rintro m F h ⟨j,zs,u4,VA,Xs,rfl,rfl,rfl⟩
  refine Y1 (aq (WA ((j:Int)<(x1.cons.length:Int)) (fun Zj=>?_) (fun Zj=>?_)))
  ·have hzl:=TZ Xs
   refine ak (aq (ab 3 (ar ?_)))
   obtain ⟨x2,Zu⟩:=Zt x1.cons j om
   have hrc:=hrd.cons _ (Y3 Zu)
   refine Zs (Zh none (j:Int) 1 (Jv Zu)) (Z0 1 (iA [nl] fun b3=>Zy 0 b3 (LT x2) (ie (az (Zz 3 [0] (ic [1,2] (EV w zs u4 x2.fields (hl:=(by (try simp only [ZX,YC,Wn,WE]);omega)) (hr:=(by first|exact hrc|exact hrp.params|exact hrp.lent|exact hrx.args|exact hrx.jumps))) ?_))))))
   rintro _ _ ⟨u25,rfl⟩
   exact ie (az (ZD j (Z1 (ZF ⟨j+1,(zs++W3 x2.fields),u25,ob,(Oc Zu Xs),rfl,rfl,rfl⟩ (wk [0,2,0] (ZI j fl))))))
  exact ax 2 (az (ZD k (Z1 (ZF ⟨k+1,zs,u4,ob,(by rw [Oa om Xs];exact Gp Z3 Zf),rfl,rfl,rfl⟩ (Zv 3 (ZI k fl))))))
 have hyl:=TZ Zf
 have hyE:=Of om Zf
 refine ax 0 (Zq 3 [1] (iw (Qb im.procs) (ic [0,1] (JE w ys u3 (im.procs.length:Int) (hl:=(by (try simp only [ZX,YC,Wn,WE]);omega))) ?_)))
 rintro _ _ ⟨u26,rfl⟩
 refine ie (Zq 2 [2] (iw (Qb im.procs) (Z1 (ab 4 (Y0 (fun fz gz m F h=>∃(k2:Nat) (ys2:LI) (u5:Value),(k2<=im.procs.length)/\(ys2++TT (im.procs.drop k2)=xs++To im)/\F=sF [0,58,59] fz [(60,.i k2)]/\h=[.obj w [ZH ys2 u5],.tail u5 1]/\m=im.procs.length-k2) _ _ _ ⟨0,(ys++en (im.procs.length:Int)),u26,ob,(by rw [Kk,hyE];simp only [To,XW]),rfl,rfl,rfl⟩ (wk [0,0] (Ya fl)) ?_)))))
 rintro m F h ⟨k2,ys2,u5,Eu,QU,rfl,rfl,rfl⟩
 refine Y1 (aq (WA ((k2:Int)<(im.procs.length:Int)) (fun ZA=>?_) (fun ZA=>?_)))
 ·have hyl2:=TZ QU
  refine ak (aq (ab 5 (ar ?_)))
  obtain ⟨x3,YP⟩:=Zt im.procs k2 om
  have hrp:=hr.procs _ (Y3 YP)
  have hyp:=TZ (Gr YP QU)
  have hq1:=hrp.result
  have hq2:=hrp.regs
  have hq3:=hrp.len
  have hq4:=hrp.params.len
  have hq5:=hrp.lent.len
  refine Zs (Zh none (k2:Int) 5 (Ku YP)) (Z0 1 (iA [nl,nl,.i 0,.i 0,nl] fun b4=>Zy 0 b4 (Ul x3) (ie (Zq 3 [0] (ic [1,1] (EV w ys2 u5 x3.params (hl:=(by (try simp only [ZX,YC,Wn,WE]);omega)) (hr:=(by first|exact hrc|exact hrp.params|exact hrp.lent|exact hrx.args|exact hrx.jumps))) ?_)))))
  rintro _ _ ⟨u27,rfl⟩
  refine ie (Zq 3 [2] (ic [0,0] (EV w (ys2++W3 x3.params) u27 x3.lent (hl:=(by (try simp only [ZX,YC,Wn,WE]);omega)) (hr:=(by first|exact hrc|exact hrp.params|exact hrp.lent|exact hrx.args|exact hrx.jumps))) ?_))
  rintro _ _ ⟨u28,rfl⟩
  refine ie (Zq 3 [2] (ic [0,0] (JE w ((ys2++W3 x3.params)++W3 x3.lent) u28 x3.result (hl:=(by (try simp only [ZX,YC,Wn,WE]);omega))) ?_))
  rintro _ _ ⟨u29,rfl⟩
  refine ie (Zq 3 [2] (ic [0,0] (JE w (((ys2++W3 x3.params)++W3 x3.lent)++en x3.result) u29 x3.regs (hl:=(by (try simp only [ZX,YC,Wn,WE]);omega))) ?_))
  rintro _ _ ⟨u210,rfl⟩
  refine ie (Zq 3 [2] (iw (T8 x3.code) (ic [0,0] (JE w ((((ys2++W3 x3.params)++W3 x3.lent)++en x3.result)++en x3.regs) u210 (x3.code.length:Int) (hl:=(by (try simp only [ZX,YC,Wn,WE]);omega))) ?_)))
  rintro _ _ ⟨u211,rfl⟩
  refine ie (Zq 2 [2] (iw (T8 x3.code) (Z1 (ab 6 (Y0 (fun fz gz m F h=>∃(j2:Nat) (zs2:LI) (u6:Value),(j2<=x3.code.length)/\(zs2++Qe (x3.code.drop j2)=ys2++Kx x3)/\F=sF [0,58,59,60,86,87] fz [(88,.i j2)]/\h=[.obj w [ZH zs2 u6],.tail u6 1]/\m=x3.code.length-j2) _ _ _ ⟨0,(((((ys2++W3 x3.params)++W3 x3.lent)++en x3.result)++en x3.regs)++en (x3.code.length:Int)),u211,ob,(by rw [Kk];simp only [Kx,XW]),rfl,rfl,rfl⟩ (wk [0,0] (Ya fl)) ?_)))))
  rintro m F h ⟨j2,zs2,u6,Z3k,Ev,rfl,rfl,rfl⟩
  refine Y1 (aq (WA ((j2:Int)<(x3.code.length:Int)) (fun Yi=>?_) (fun Yi=>?_)))
  ·have hzl2:=TZ Ev
   refine ak (aq (ab 7 (ar ?_)))
   obtain ⟨x4,WR⟩:=Zt x3.code j2 om
   have hrx:=hrp.code _ (Y3 WR)
   have hs1:=hrx.op
   have hs2:=hrx.dst
   have hs3:=hrx.num
   have hs4:=hrx.into
   have hs5:=hrx.args.len
   refine Zs (Zh none (j2:Int) 6 (Qw WR)) (Z0 1 (iA [.i 0,.i 0,.i 0,.i 0,nl,nl] fun b5=>?_))
   refine Zy 0 b5 (Ve x4) (ie (Ys 8 [0,0,0,0] (Zs (Zax 103 3 x4.op x4.dst x4.num x4.into) (Z1 (ab 8 (Y0 (fun fz gz m F h=>∃(i:Nat) (vs:LI) (u7:Value),(i<=4)/\(vs++Qd ([x4.op,x4.dst,x4.num,x4.into].drop i)=zs2++Qd [x4.op,x4.dst,x4.num,x4.into])/\F=sF [0,11,58,59,60,86,87,88,100] fz [(101,.i i)]/\h=[Zi gz 0,.obj w [ZH vs u7],.tail u7 1]/\m=4-i) _ _ _ ⟨0,zs2,u6,ob,rfl,rfl,rfl,rfl⟩ (Zv 3 (Ya fl)) ?_))))))
   rintro m F h ⟨i,vs,u7,Ziq,Gd,rfl,rfl,rfl⟩
   refine Y1 (aq (WA ((i:Int)<4) (fun YG=>?_) (fun YG=>?_)))
   ·have hvl:=TZ Gd
    simp only [ZX,EE,Yo,YC] at hvl
    refine ak (aq (ab 9 (ar ?_)))
    obtain ⟨x5,Uu⟩:=Zt [x4.op,x4.dst,x4.num,x4.into] i (by simp only [Yo,YC];omega)
    have hx5r:-32768<=x5/\x5<=32767:=by have hm:=Y3 Uu;simp only [YN,List.not_mem_nil,or_false] at hm;rcases hm with e|e|e|e<;>omega
    refine Zs (Zaw 3 [x4.op,x4.dst,x4.num,x4.into] i Uu rfl) (Z1 (az (Z0 2 (ic [1,1] (JE w vs u7 x5 (hl:=(by (try simp only [ZX,YC,Wn,WE]);omega))) ?_))))
    rintro _ _ ⟨u212,rfl⟩
    exact ie (az (ZD i (Z1 (ZF ⟨i+1,(vs++en x5),u212,ob,(L9 Uu Gd),rfl,rfl,rfl⟩ (wk [2,0,0] (ZI i fl))))))
   have hvl:=TZ Gd
   simp only [ZX,EE,Yo,YC] at hvl
   have hvE:=L8 (by simp only [Yo,YC];omega) Gd
   refine ax 8 (Zq 3 [0] (ic [1,1] (EV w vs u7 x4.args (hl:=(by (try simp only [ZX,YC,Wn,WE]);omega)) (hr:=(by first|exact hrc|exact hrp.params|exact hrp.lent|exact hrx.args|exact hrx.jumps))) ?_))
   rintro _ _ ⟨u213,rfl⟩
   refine ie (az (Zz 3 [2] (ic [0,0] (EV w (vs++W3 x4.args) u213 x4.jumps (hl:=(by (try simp only [ZX,YC,Wn,WE]);omega)) (hr:=(by first|exact hrc|exact hrp.params|exact hrp.lent|exact hrx.args|exact hrx.jumps))) ?_)))
   rintro _ _ ⟨u214,rfl⟩
   exact ie (az (ZD j2 (Z1 (ZF ⟨j2+1,((vs++W3 x4.args)++W3 x4.jumps),u214,ob,(by have h:=Ot WR Ev;rw [hvE];simp only [Ky,Qd,XW,T0,Jm] at h ⊢;exact h),rfl,rfl,rfl⟩ (wk [0,0] (ZI j2 fl))))))
  exact ax 6 (az (ZD k2 (Z1 (ZF ⟨k2+1,zs2,u6,ob,(by rw [Oo om Ev];exact Gr YP QU),rfl,rfl,rfl⟩ (wk [0,0] (ZI k2 fl))))))
 obtain rfl:ys2=xs++To im:=Oj om QU
 exact ax 4 (r2 [0,0] [] ⟨u5,rfl⟩ (lr _))
theorem PD (im:YA) (lz:Nat) (hz:IZ im lz:=by exact ob) (hlz:lz<=100:=by exact ob):Zo 10 [V7 im] [] (Yx (Z4 (Xx im))):=by
 refine ZE 11 Tryz.func10 (ar (iA (Vd im) fun b1=>Z1 (Ys 1 [0] (Zw [] (Za5 im lz (hz:=hz)) (YB (!(VK im)) (p:=¬((VK im)=true)) (Yh Iff.rfl) (fun Z9=>?_) (fun Z9=>?_))))))
 ·exact ar (Zm (ZM (nl) (Zd.sl _ (by rw [Xx,Za Z9];rfl))))
 have hV:VK im=true:=VP.1 Z9
 have hr:=EU hV hz hlz
 refine ak (ar (iA [nl] fun b2=>ie (Zq 1 [1] (Z9y 1 (ic [1,0] (Zac b2 [] (.slice none 0 0) im (hl:=(Q9 _))) ?_)))))
 rintro _ _ ⟨u21,rfl⟩
 exact ie (Qz [0] (ZY (ZM (ZH ([]++To im) u21) (Zd.sl _ (Yl Z6 (by rw [Xx,Zk hV,Jm]))))))
theorem Kh (u:Value) (xs:LI) (z:Int) (hl:xs.length<=4000000000:=by exact ob) (hz:-32768<=z/\z<=32767:=by exact ob):Zo 64 [ZH xs u,.i z] [.tail u 1] (fun r h=>∃(u2:Value),r=ZH (xs++en z) u2/\h=[.tail u2 1]):=by
 exact ZE 14 Tryz.func64 (Y1 (Yf 2 (ia ((z+32768)) ((z)+(32768)) (Zs (H0 (z+32768) 256 om om) (Z0 1 (ia ((z+32768)) ((z)+(32768)) (Zs (F3 (z+32768) 256 om om) (iL (Z6 [(z+32768) / 256,(z+32768) % 256]) 2 1 fun v1=>ZQ 0 [(12,Z4 [(z+32768) / 256,(z+32768) % 256])] (ip 1 (Z6 (xs++[(z+32768) / 256,(z+32768) % 256])) (Z6 xs) (Z6 [(z+32768) / 256,(z+32768) % 256]) u none 1 (YD _) (YD _) (W2 _) (by simp<;>omega) (by simp [W1,Z6]) fun v2=>Zm (r2 [0] [ZH (xs++[(z+32768) / 256,(z+32768) % 256]) v2] ⟨v2,rfl,rfl⟩ (Zd.slh _ (Yl Z6 ob))))))))))))
theorem FF (u:Value) (xs:LI) (l:LI) (hl:xs.length<=3000000000:=by exact ob) (hr:RL l:=by exact ob):Zo 65 [ZH xs u,Z4 l] [.tail u 1] (fun r h=>∃(u2:Value),r=ZH (xs++W3 l) u2/\h=[.tail u2 1]):=by
 have hrl:=hr.len
 refine ZE 23 Tryz.func65 (Y1 (Yf 2 (iw (Yc l) (ic [0] (Kh u xs (l.length:Int)) ?_))))
 rintro _ _ ⟨u21,rfl,rfl⟩
 refine Z1 (Y6 (ab 0 (Y0 (fun fz gz m F h=>∃(j:Nat) (ys:LI) (u3:Value),(j<=l.length)/\(ys++Qd (l.drop j)=xs++W3 l)/\F=sF [1] fz [(0,ZH ys u3),(5,.i j)]/\h=[.tail u3 1]/\m=l.length-j) _ _ _ ⟨0,(xs++en (l.length:Int)),u21,ob,(by rw [W3,XW];rfl),rfl,rfl,rfl⟩ (wk [0] (fr (Ya fl))) ?_)))
 rintro m F h ⟨j,ys,u3,Yj,Zf,rfl,rfl,rfl⟩
 refine YM 2 (iw (Yc l) (Y2 ((j:Int)<(l.length:Int)) (fun Z9=>?_) (fun Z9=>?_)))
 ·have hyl:=TZ Zf
  rw [ZX,WE] at hyl
  refine ak (aq (ab 1 (az (Z0 3 ?_))))
  obtain ⟨x1,Z3⟩:=Zt l j om
  have hx1r:=hr.rg _ (Y3 Z3)
  refine Zs (Zh none (j:Int) 1 (Y8 Z3)) (Z0 1 (ic [0] (Kh u3 ys x1) ?_))
  rintro _ _ ⟨u22,rfl,rfl⟩
  exact Z1 (az (Z0 1 (ZD j (Z1 (ZF ⟨j+1,(ys++en x1),u22,ob,(L9 Z3 Zf),rfl,rfl,rfl⟩ (wk [0] (fr (ZI j fl))))))))
 exact ax 0 (ar (Zm (r2 [0] [ZH ys u3] ⟨u3,rfl,rfl⟩ (Zd.slh _ (Yl Z6 (L8 om Zf))))))
theorem Zg5 (u:Value) (xs:LI) (x:Instr) (hl:xs.length<=2000000000:=by exact ob) (hr:RX x:=by exact ob):Zo 66 [ZH xs u,T2 x] [.tail u 1] (fun r h=>∃(u2:Value),r=ZH (xs++Ky x) u2/\h=[.tail u2 1]):=by
 have hs1:=hr.op
 have hs2:=hr.dst
 have hs3:=hr.num
 have hs4:=hr.into
 have hs5:=hr.args.len
 refine ZE 26 Tryz.func66 (ar (iA (Ve x) fun b1=>Z1 (aD 8 (ZW 3 8 [0,1,2,4,5] [0,0] (Z7 3 (dc 3 [1] [0] [b1] (Kh u xs x.op (hl:=(by (try simp only [ZX,YC,Wn,WE]);omega))) ?_))))))
 rintro _ _ ⟨u21,rfl,rfl⟩
 refine Yt 2 2 [] [(0,Z4 xs)] (Z7 6 (dc 6 [0] [] [] (Kh u21 (xs++en x.op) x.dst (hl:=(by (try simp only [ZX,YC,Wn,WE]);omega))) ?_))
 rintro _ _ ⟨u22,rfl,rfl⟩
 refine Zp 0 1 [7] (de (aD 8 (ZW 3 8 [0,1,2,4,5] [1,1] (Z7 3 (dc 3 [0] [0] [b1] (Kh u22 ((xs++en x.op)++en x.dst) x.num (hl:=(by (try simp only [ZX,YC,Wn,WE]);omega))) ?_)))))
 rintro _ _ ⟨u23,rfl,rfl⟩
 refine Yt 2 2 [] [(0,Z4 ((xs++en x.op)++en x.dst))] (Z7 6 (dc 6 [0] [] [] (Kh u23 (((xs++en x.op)++en x.dst)++en x.num) x.into (hl:=(by (try simp only [ZX,YC,Wn,WE]);omega))) ?_))
 rintro _ _ ⟨u24,rfl,rfl⟩
 refine Zp 0 1 [7] (de (aD 8 (ZW 3 8 [0,1,2,4,5] [1,1] (Z7 3 (dc 3 [0] [0] [b1] (FF u24 ((((xs++en x.op)++en x.dst)++en x.num)++en x.into) x.args (hl:=(by (try simp only [ZX,YC,Wn,WE]);omega)) (hr:=(by first|exact hr.args|exact hr.jumps))) ?_)))))
 rintro _ _ ⟨u25,rfl,rfl⟩
 refine Z7 6 (dc 6 [0] [] [] (FF u25 (((((xs++en x.op)++en x.dst)++en x.num)++en x.into)++W3 x.args) x.jumps (hl:=(by (try simp only [ZX,YC,Wn,WE]);omega)) (hr:=(by first|exact hr.args|exact hr.jumps))) ?_)
 rintro _ _ ⟨u26,rfl,rfl⟩
 exact Zp 0 1 [7] (de (ZY (r2 [0] [ZH ((((((xs++en x.op)++en x.dst)++en x.num)++en x.into)++W3 x.args)++W3 x.jumps) u26] ⟨u26,rfl,rfl⟩ (Zd.slh _ (Yl Z6 (by simp only [Ky,XW]))))))
theorem Zg4 (u:Value) (xs:LI) (ds:List Zb) (hl:xs.length<=1000000000:=by exact ob) (h4:ds.length<=4:=by exact ob) (hr:∀d∈ds,RD d):Zo 63 [ZH xs u,Ye ds] [.tail u 1] (fun r h=>∃(u2:Value),r=ZH (xs++QY ds) u2/\h=[.tail u2 1]):=by
 have hel:=L7 hr
 have hT1:(xs++QY ds).length<=1000050000:=by rw [ZX,QY,ZX,Wn];omega
 refine ZE 60 Tryz.func63 (Y1 (Yf 2 (iw (VB ds) (ic [0] (Kh u xs (ds.length:Int) (hl:=(by (try simp only [ZX,YC,Wn,WE]);omega))) ?_))))
 rintro _ _ ⟨u21,rfl,rfl⟩
 refine Z1 (Y6 (ab 0 (Y0 (fun fz gz m F h=>∃(k:Nat) (ys:LI) (u3:Value),(k<=ds.length)/\(ys++Qx (ds.drop k)=xs++QY ds)/\F=sF [1] fz [(0,ZH ys u3),(5,.i k)]/\h=[.tail u3 1]/\m=ds.length-k) _ _ _ ⟨0,(xs++en (ds.length:Int)),u21,ob,(by rw [QY,XW];rfl),rfl,rfl,rfl⟩ (wk [0] (fr (Ya fl))) ?_)))
 rintro m F h ⟨k,ys,u3,Yj,Zf,rfl,rfl,rfl⟩
 refine YM 2 (iw (VB ds) (Y2 ((k:Int)<(ds.length:Int)) (fun Z9=>?_) (fun Z9=>?_)))
 ·have hyl:=TZ Zf
  refine ak (aq (ab 1 (aD 14 (Zp 11 14 [0,1,2] ?_))))
  obtain ⟨x1,Z3⟩:=Zt ds k om
  have hrd:=hr _ (Y3 Z3)
  have hyd:=TZ (Gp Z3 Zf)
  have hr1:=hrd.frm
  have hr2:=hrd.to_
  have hr3:=hrd.len
  refine dx 3 (Zh none (k:Int) 3 (Wg Z3)) (Zp 6 10 [4,5,7,8] (dx 9 (Zh none (k:Int) 3 (Wg Z3)) (Zp 3 5 [10,11] (Z7 6 (dc 6 [0] [] [] (Kh u3 ys x1.frm (hl:=(by (try simp only [ZX,YC,Wn,WE]);omega))) ?_)))))
  rintro _ _ ⟨u22,rfl,rfl⟩
  refine Yt 2 2 [] [(0,Z4 ys)] (Z7 12 (dc 12 [0] [] [] (Kh u22 (ys++en x1.frm) x1.to_ (hl:=(by (try simp only [ZX,YC,Wn,WE]);omega))) ?_))
  rintro _ _ ⟨u23,rfl,rfl⟩
  refine Zp 0 1 [13] (de (Yf 3 (Zs (Zh none (k:Int) 3 (Wg Z3)) (Z0 2 (iw (VT x1.cons) (ic [0] (Kh u23 ((ys++en x1.frm)++en x1.to_) (x1.cons.length:Int) (hl:=(by (try simp only [ZX,YC,Wn,WE]);omega))) ?_))))))
  rintro _ _ ⟨u24,rfl,rfl⟩
  refine Z1 (Y1 (ab 2 (Y0 (fun fz gz m F h=>∃(j:Nat) (zs:LI) (u4:Value),(j<=x1.cons.length)/\(zs++Qc (x1.cons.drop j)=ys++Kw x1)/\F=sF [1,5] fz [(0,ZH zs u4),(6,.i j)]/\h=[.tail u4 1]/\m=x1.cons.length-j) _ _ _ ⟨0,(((ys++en x1.frm)++en x1.to_)++en (x1.cons.length:Int)),u24,ob,(by rw [Kk];simp only [Kw,XW]),rfl,rfl,rfl⟩ (wk [0] (fr (Ya fl))) ?_)))
  rintro m F h ⟨j,zs,u4,VA,Xs,rfl,rfl,rfl⟩
  refine YM 3 (Zs (Zh none (k:Int) 3 (Wg Z3)) (Z0 2 (iw (VT x1.cons) (Y2 ((j:Int)<(x1.cons.length:Int)) (fun Zj=>?_) (fun Zj=>?_)))))
  ·have hzl:=TZ Xs
   refine ak (aq (ab 3 (az (Z0 3 (Zs (Zh none (k:Int) 3 (Wg Z3)) (Z0 3 ?_))))))
   obtain ⟨x2,Zu⟩:=Zt x1.cons j om
   have hrc:=hrd.cons _ (Y3 Zu)
   refine Zs (Zh none (j:Int) 1 (Jv Zu)) (Z0 2 (ic [0] (FF u4 zs x2.fields (hl:=(by (try simp only [ZX,YC,Wn,WE]);omega)) (hr:=hrc)) ?_))
   rintro _ _ ⟨u25,rfl,rfl⟩
   exact Z1 (az (Z0 1 (ZD j (Z1 (ZF ⟨j+1,(zs++W3 x2.fields),u25,ob,(Oc Zu Xs),rfl,rfl,rfl⟩ (wk [0] (fr (ZI j fl))))))))
  exact ax 2 (az (Z0 1 (ZD k (Z1 (ZF ⟨k+1,zs,u4,ob,(by rw [Oa om Xs];exact Gp Z3 Zf),rfl,rfl,rfl⟩ (wk [0] (fr (ZI k fl))))))))
 exact ax 0 (ar (Zm (r2 [0] [ZH ys u3] ⟨u3,rfl,rfl⟩ (Zd.slh _ (Yl Z6 (Of om Zf))))))
theorem Zfy (im:YA) (hr:RI im:=by exact ob):Zo 34 [V7 im] [] (Yx (Z4 (To im))):=by
 have hel:=Gq hr
 have hd4:=hr.dlen
 have YV:=hr.plen
 have hrd:=hr.decls
 refine ZE 62 Tryz.func34 (ar (iA (Vd im) fun b1=>Z1 (ar (iL (Z6 []) 0 1 fun v1=>Zz 2 [1] (ic [0] (Zg4 v1 [] im.decls (hl:=(Q9 _)) (h4:=hd4) (hr:=hrd)) ?_)))))
 rintro _ _ ⟨u21,rfl,rfl⟩
 refine Z1 (Zq 3 [1] (iw (Qb im.procs) (ic [0] (Kh u21 ([]++QY im.decls) (im.procs.length:Int) (hl:=(by (try simp only [ZX,YC,Wn,WE]);omega))) ?_)))
 rintro _ _ ⟨u22,rfl,rfl⟩
 refine Z1 (Y6 (ab 0 (Y0 (fun fz gz m F h=>∃(k:Nat) (ys:LI) (u3:Value),(k<=im.procs.length)/\(ys++TT (im.procs.drop k)=To im)/\F=sF [1] fz [(3,ZH ys u3),(4,.i k)]/\h=[Zi gz 1,.tail u3 1]/\m=im.procs.length-k) _ _ _ ⟨0,(([]++QY im.decls)++en (im.procs.length:Int)),u22,ob,(by rw [Kk,Jm];simp only [To,XW]),rfl,rfl,rfl⟩ (wk [1,0] (fr (Ya fl))) ?_)))
 rintro m F h ⟨k,ys,u3,Yj,Zf,rfl,rfl,rfl⟩
 refine Ys 3 [0] (iw (Qb im.procs) (Y2 ((k:Int)<(im.procs.length:Int)) (fun Z9=>?_) (fun Z9=>?_)))
 ·have hyl:=TZ Zf
  refine ak (aq (ab 1 (Zq 3 [0] ?_)))
  obtain ⟨x1,Z3⟩:=Zt im.procs k om
  have hrp:=hr.procs _ (Y3 Z3)
  have hyp:=TZ (Gr Z3 Zf)
  have hq1:=hrp.result
  have hq2:=hrp.regs
  have hq3:=hrp.len
  have hq4:=hrp.params.len
  have hq5:=hrp.lent.len
  refine Zs (Zh none (k:Int) 5 (Ku Z3)) (Z0 1 (iA [nl,nl,.i 0,.i 0,nl] fun b2=>Zy 0 b2 (Ul x1) (ie (aD 8 (ZW 3 8 [0,1,2,4,5] [0,0] (Z7 3 (dc 3 [2] [0] [b2] (FF u3 ys x1.params (hl:=(by (try simp only [ZX,YC,Wn,WE]);omega)) (hr:=(by first|exact hrp.params|exact hrp.lent))) ?_)))))))
  rintro _ _ ⟨u23,rfl,rfl⟩
  refine Yt 2 2 [] [(3,Z4 ys)] (Z7 6 (dc 6 [0] [] [] (FF u23 (ys++W3 x1.params) x1.lent (hl:=(by (try simp only [ZX,YC,Wn,WE]);omega)) (hr:=(by first|exact hrp.params|exact hrp.lent))) ?_))
  rintro _ _ ⟨u24,rfl,rfl⟩
  refine Zp 0 1 [7] (de (aD 8 (ZW 3 8 [0,1,2,4,5] [1,1] (Z7 3 (dc 3 [0] [0] [b2] (Kh u24 ((ys++W3 x1.params)++W3 x1.lent) x1.result (hl:=(by (try simp only [ZX,YC,Wn,WE]);omega))) ?_)))))
  rintro _ _ ⟨u25,rfl,rfl⟩
  refine Yt 2 2 [] [(3,Z4 ((ys++W3 x1.params)++W3 x1.lent))] (Z7 6 (dc 6 [0] [] [] (Kh u25 (((ys++W3 x1.params)++W3 x1.lent)++en x1.result) x1.regs (hl:=(by (try simp only [ZX,YC,Wn,WE]);omega))) ?_))
  rintro _ _ ⟨u26,rfl,rfl⟩
  refine Zp 0 1 [7] (de (Zq 3 [1] (iw (T8 x1.code) (ic [0] (Kh u26 ((((ys++W3 x1.params)++W3 x1.lent)++en x1.result)++en x1.regs) (x1.code.length:Int) (hl:=(by (try simp only [ZX,YC,Wn,WE]);omega))) ?_))))
  rintro _ _ ⟨u27,rfl,rfl⟩
  refine Z1 (Y1 (ab 2 (Y0 (fun fz gz m F h=>∃(j:Nat) (zs:LI) (u4:Value),(j<=x1.code.length)/\(zs++Qe (x1.code.drop j)=ys++Kx x1)/\F=sF [1,4,5] fz [(3,ZH zs u4),(6,.i j)]/\h=[Zi gz 1,Zi gz 2,.tail u4 1]/\m=x1.code.length-j) _ _ _ ⟨0,(((((ys++W3 x1.params)++W3 x1.lent)++en x1.result)++en x1.regs)++en (x1.code.length:Int)),u27,ob,(by rw [Kk];simp only [Kx,XW]),rfl,rfl,rfl⟩ (wk [1,1,0] (fr (Ya fl))) ?_)))
  rintro m F h ⟨j,zs,u4,VA,Xs,rfl,rfl,rfl⟩
  refine Ys 3 [0] (iw (T8 x1.code) (Y2 ((j:Int)<(x1.code.length:Int)) (fun Zj=>?_) (fun Zj=>?_)))
  ·have hzl:=TZ Xs
   refine ak (aq (ab 3 (az (Zz 4 [0] ?_))))
   obtain ⟨x2,Zu⟩:=Zt x1.code j om
   have hrx:=hrp.code _ (Y3 Zu)
   refine Zs (Zh none (j:Int) 6 (Qw Zu)) (Z0 1 (ic [2] (Zg5 u4 zs x2 (hl:=(by (try simp only [ZX,YC,Wn,WE]);omega)) (hr:=hrx)) ?_))
   rintro _ _ ⟨u28,rfl,rfl⟩
   exact Z1 (az (Z0 1 (ZD j (Z1 (ZF ⟨j+1,(zs++Ky x2),u28,ob,(Ot Zu Xs),rfl,rfl,rfl⟩ (wk [1,1,0] (fr (ZI j fl))))))))
  exact ax 2 (az (Z0 1 (ZD k (Z1 (ZF ⟨k+1,zs,u4,ob,(by rw [Oo om Xs];exact Gr Z3 Zf),rfl,rfl,rfl⟩ (wk [1,1] (fr (ZI k fl))))))))
 exact ax 0 (ar (Zm (ZM (ZH ys u3) (Zd.sl _ (Yl Z6 (Oj om Zf))))))
theorem At (rdp:Nat) (xs:LI) (b:Bool) (hb:RB xs:=by exact ob):Zo 68 [.p rdp 0] [.obj rdp [Z4 xs,.b b]] (fun r h=>∃(z:Int) (ys:LI) (bb:Bool),r=.i z/\h=[.obj rdp [Z4 ys,.b bb]]/\Wx false (xs,b)=(z,ys,bb)):=by
 have hxb:=hb.len
 refine ZE 43 Tryz.func68 (Y1 (Xd (Xp [0] [(15,.b (b||(decide ((xs.length:Int)<2))))] (fun gz=>gz) ?_ ?_)))
 ·refine Zz 5 [0] (ib (b:=b) 8 (fun Zc=>?_) (fun Zc=>?_))
  ·have Y4:b=true:=(Iff.rfl).1 Zc
   exact Z1 (wk [0] (Zl true Zc fl))
  have Yr:¬(b=true):=Y7 Iff.rfl Zc
  exact Zz 4 [0] (iw (Yc xs) (Z1 (wk [0] (Zl (decide ((xs.length:Int)<2)) Zc fl))))
 refine ac (b||(decide ((xs.length:Int)<2))) (p:=(b=true)∨((xs.length:Int)<2)) (ZO Iff.rfl dq) (fun Z9=>?_) (fun Z9=>?_)
 ·exact Yf 3 (Zy 0 rdp [Z4 xs,.b true] (ie (ar (Zm (r1 [0] ⟨0,xs,true,rfl,rfl,(by rcases Z9 with q|q;(rw [q];exact Zdk);exact Zdn om)⟩)))))
 have hbf:b=false:=Q8.2 (fun q=>Z9 (.inl q))
 refine ak (aD 16 (ZW 12 16 [0,1,2,3] [0] ?_))
 obtain ⟨x1,Z3⟩:=Zt xs 0 om
 have hg1:=hb.rg _ (Y3 Z3)
 refine dx 4 (Zh none 0 1 (Y8 Z3)) (Zp 10 11 [5] (da 6 ((256*x1)) ((256)*(x1)) (ZW 5 9 [7,8,9,10] [0] ?_)))
 obtain ⟨x2,Zu⟩:=Zt xs 1 om
 have hg2:=hb.rg _ (Y3 Zu)
 exact dx 11 (Zh none 1 1 (Y8 Zu)) (Zp 3 4 [12] (da 13 (((256*x1)+x2)) (((256*x1))+(x2)) (da 14 ((((256*x1)+x2)-32768)) ((((256*x1)+x2))-(32768)) (Zp 0 1 [15] (de (Zq 5 [0] (Zs (Ax (es:=Z6 xs) (hv:=none) (l:=2) (m:=(((Z6 xs).length:Nat):Int)) (sz:=1) (es':=Z6 (xs.drop 2)) kr om (by simp<;>omega) (by simp<;>omega) (YD _) (by first|(simp only [UZ,Ub,Ag,AS];done)|(simp only [UZ,Ub,Ag,AS];rfl)|(simp [Ag,AS];done))) (Z0 2 (Zy 0 rdp [Z4 (xs.drop 2),.b b] (ie (ar (Zm (r1 [0] ⟨(((256*x1)+x2)-32768),(xs.drop 2),b,rfl,rfl,(by rw [hbf];exact Zdl Z3 Zu)⟩)))))))))))))
theorem Fp (rdp:Nat) (xs:LI) (b:Bool) (hb:RB xs:=by exact ob):Zo 67 [.p rdp 0] [.obj rdp [Z4 xs,.b b]] (fun r h=>∃(z:Int) (ys:LI) (bb:Bool),r=.i z/\h=[.obj rdp [Z4 ys,.b bb]]/\0<=z/\Tx false (xs,b)=(z.toNat,ys,bb)):=by
 refine ZE 22 Tryz.func67 (Y1 (Yf 1 (ic [0] (At rdp xs b (hb:=hb)) ?_)))
 rintro _ _ ⟨z1,ys1,bb1,rfl,rfl,Y4⟩
 have hrn:=Ja hb Y4
 have hyl:=hrn.1.len
 refine Z1 (Xd (Xp [0,3] [(17,.b ((decide (z1<0))||(decide (z1>((ys1.length / 2:Nat):Int)))))] (fun gz=>gz) ?_ ?_))
 ·refine Z0 3 (ib (b:=(decide (z1<0))) 8 (fun Zc=>?_) (fun Zc=>?_))
  ·have Yr:z1<0:=(dq).1 Zc
   exact Z1 (wk [0] (Zl true Zc fl))
  have YR:¬(z1<0):=Y7 dq Zc
  exact Zz 5 [0] (iw (Yc ys1) (Zs (CI ys1.length 2 om om) (Z1 (wk [0] (Zl (decide (z1>((ys1.length / 2:Nat):Int))) Zc fl)))))
 refine ac ((decide (z1<0))||(decide (z1>((ys1.length / 2:Nat):Int)))) (p:=(z1<0)∨(z1>((ys1.length / 2:Nat):Int))) (ZO dq dq) (fun Z9=>?_) (fun Z9=>?_)
 ·exact Yf 3 (Zy 0 rdp [Z4 ys1,.b true] (ie (ar (Zm (r1 [0] ⟨0,ys1,true,rfl,rfl,⟨Int.le_refl _,by rw [Mi Y4,Zk Z9];rfl⟩⟩)))))
 exact ak (ar (Zm (r1 [0] ⟨z1,ys1,bb1,rfl,rfl,⟨by omega,by rw [Mi Y4,Za Z9]⟩⟩)))
theorem Fq (rdp:Nat) (xs:LI) (b:Bool) (hb:RB xs:=by exact ob):Zo 69 [.p rdp 0] [.obj rdp [Z4 xs,.b b]] (fun r h=>∃(l:LI) (ys:LI) (bb:Bool),r=Z4 l/\h=[.obj rdp [Z4 ys,.b bb]]/\Tw false (xs,b)=(l,ys,bb)):=by
 refine ZE 20 Tryz.func69 (Y1 (Yf 1 (ic [0] (Fp rdp xs b (hb:=hb)) ?_)))
 rintro _ _ ⟨z1,ys1,bb1,rfl,rfl,Y4⟩
 have hM:=Y4.2
 have hz0:=Y4.1
 have hrm:=CW hb Y4.2
 refine Z9m z1 z1.toNat [AV.i 0] 1 om fun g1=>?_
 refine Z1 (YM 1 (io (.i z1.toNat) (.i z1.toNat) (lr _) (Z1 (ab 0 (Y0 (fun fz gz m F h=>∃(k:Nat) (acc:LI) (yl:LI) (bl:Bool),(k<=z1.toNat)/\(acc.length=k)/\((acc++(V3 (Wx false) (z1.toNat-k) (yl,bl)).1,(V3 (Wx false) (z1.toNat-k) (yl,bl)).2)=Tw false (xs,b))/\(RB yl)/\F=sF [0,3,9] fz [(10,.i k)]/\h=[.obj rdp [Z4 yl,.b bl],.row (.slice (some ⟨g1,0,none⟩) z1.toNat z1.toNat) 1 (Zg (Z6 (acc++List.replicate (z1.toNat-k) 0)))]/\m=z1.toNat-k) _ _ _ ⟨0,[],ys1,bb1,ob,ob,(by rw [Tw,hM];exact Fs),hrm.1,rfl,rfl,rfl⟩ (wk [1,0] (Ya fl) (e:=(rc (rr (ls:=(List.replicate z1.toNat [AV.i 0]).flatten) (Z75 _) rz)))) ?_)))))
 rintro m F h ⟨k,acc,yl,bl,Yj,Zf,ZB,YL,rfl,rfl,rfl⟩
 refine Y1 (aq (WA ((k:Int)<(z1.toNat:Int)) (fun Z9=>?_) (fun Z9=>?_)))
 ·refine ak (aq (ab 1 (Y1 (az (Z0 3 (ic [0] (At rdp yl bl (hb:=YL)) ?_))))))
  rintro _ _ ⟨z2,ys2,bb2,rfl,rfl,Yr⟩
  have hN:=Yr
  have hrn:=Ja YL Yr
  exact Zs (W6 g1 z1.toNat z1.toNat k 1 (k:Int)) (DF 1 g1 z1.toNat z1.toNat 1 (k*1) [.i z2] (Zg (Z6 (acc++List.replicate (z1.toNat-k) 0))) (Zg (Z6 ((acc++[z2])++List.replicate (z1.toNat-(k+1)) 0))) (by rw [Z76,ZX,List.length_replicate];simp only [Yo,YC];omega) (Z77 z2 Zf om) (ie (az (ZD k (Z1 (ZF ⟨k+1,(acc++[z2]),ys2,bb2,ob,(by rw [ZX,Zf];rfl),(Fu om hN ZB),hrn.1,rfl,rfl,rfl⟩ (wk [1,0] (ZI k fl))))))))
 exact ax 0 (Y1 (Z2l (HS 1 (.slice (some ⟨g1,0,none⟩) z1.toNat z1.toNat) 1 (Zg (Z6 (acc++List.replicate (z1.toNat-k) 0))) (Zg (Z6 acc)) (by rw [show z1.toNat-k=0 by omega,List.replicate_zero,T0])) (PT 2 0 (v:=(⟨some ⟨g1,0,none⟩,z1.toNat,z1.toNat⟩:Hd)) (Z6 acc) (YD _) (ZY (r2 [1] [ZH acc ((⟨some ⟨g1,0,none⟩,z1.toNat,z1.toNat⟩:Hd).v)] ⟨acc,yl,bl,rfl,rfl,(Ft om ZB).symm⟩ (Zd.forget _ _))))))
theorem Zdv (rdp:Nat) (xs:LI) (b:Bool) (hb:RB xs:=by exact ob):Zo 35 [.p rdp 0] [.obj rdp [Z4 xs,.b b]] (fun r h=>∃(im:YA) (ys:LI) (bb:Bool),r=V7 im/\h=[.obj rdp [Z4 ys,.b bb]]/\DX false (xs,b)=(im,ys,bb)):=by
 refine ZE 83 Tryz.func35 (ar (iA [nl,nl] fun b1=>ie (ar (iA [nl,nl] fun b2=>ie (YM 1 (ic [2] (Fp rdp xs b) ?_))))))
 rintro _ _ ⟨z1,ys1,bb1,rfl,rfl,Y4⟩
 have hMhp1:=CW (by assumption) Y4.2
 have hBhp1:=hMhp1.1
 have hNhp1:=hMhp1.2.1
 have hzhp1:=Y4.1
 refine Z1 (ab 0 (Dc 3 (Y0 (fun fz gz m F h=>∃(k:Nat) (ds:List Zb) (u:Value) (yl:LI) (bl:Bool),(k<=z1.toNat)/\(ds.length=k)/\((ds++(V3 (CV false) (z1.toNat-k) (yl,bl)).1,(V3 (CV false) (z1.toNat-k) (yl,bl)).2)=DW false (xs,b))/\(RB yl)/\F=sF [0,2,3,8] fz [(9,.i k)]/\h=[.obj rdp [Z4 yl,.b bl],.obj b2 [Tt ds u,nl],Zi gz 3,.tail u 3]/\m=z1.toNat-k) _ _ _ ⟨0,[],(.slice none 0 0),ys1,bb1,ob,ob,(by rw [DW,Y4.2];exact Fs),hBhp1,rfl,rfl,rfl⟩ (wk [1,1,1,0] (Ya fl)) ?_)))
 rintro m F h ⟨k,ds,u,yl,bl,Yj,Zf,ZB,YL,rfl,rfl,rfl⟩
 refine Y1 (aq (WA ((k:Int)<z1) (fun Z9=>?_) (fun Z9=>?_)))
 ·refine ak (aq (ab 1 (Yf 1 (ic [0] (At rdp yl bl) ?_))))
  rintro _ _ ⟨z2,ys2,bb2,rfl,rfl,Yr⟩
  have hBhp2:=(Ja (by assumption) Yr).1
  refine Z0 1 (ic [0] (At rdp ys2 bb2) ?_)
  rintro _ _ ⟨z3,ys3,bb3,rfl,rfl,YR⟩
  have hBhp3:=(Ja (by assumption) YR).1
  refine Z0 1 (iA [.i 0,.i 0,nl] fun b3=>Zy 0 b3 [.i z2,.i z3,nl] (ie (YM 1 (ic [1] (Fp rdp ys3 bb3) ?_))))
  rintro _ _ ⟨z4,ys4,bb4,rfl,rfl,YV⟩
  have hMhp4:=CW (by assumption) YV.2
  have hBhp4:=hMhp4.1
  have hNhp4:=hMhp4.2.1
  have hzhp4:=YV.1
  refine Z1 (ab 2 (Dc 1 (Y0 (fun fz gz m F h=>∃(j:Nat) (cs:List Yd) (u2:Value) (yl2:LI) (bl2:Bool),(j<=z4.toNat)/\(cs.length=j)/\((cs++(V3 (CU false) (z4.toNat-j) (yl2,bl2)).1,(V3 (CU false) (z4.toNat-j) (yl2,bl2)).2)=DV false (ys3,bb3))/\(RB yl2)/\F=sF [0,2,3,4,8,9,17] fz [(18,.i j)]/\h=[.obj rdp [Z4 yl2,.b bl2],.obj b3 [.i z2,.i z3,BQ cs u2],Zi gz 3,Zi gz 4,Zi gz 5,.tail u2 1]/\m=z4.toNat-j) _ _ _ ⟨0,[],(.slice none 0 0),ys4,bb4,ob,ob,(by rw [DV,YV.2];exact Fs),hBhp4,rfl,rfl,rfl⟩ (wk [1,1,1,1,1,0] (Ya fl)) ?_)))
  rintro m F h ⟨j,cs,u2,yl2,bl2,VA,Xs,XT,Et,rfl,rfl,rfl⟩
  refine Y1 (aq (WA ((j:Int)<z4) (fun Zj=>?_) (fun Zj=>?_)))
  ·refine ak (aq (ab 3 (aE 9 (ZW 6 9 [0,1,2] [1] (Z7 3 (dc 3 [0] [0] [b3] (Fq rdp yl2 bl2) ?_))))))
   rintro _ _ ⟨l1,ys5,bb5,rfl,rfl,Xc⟩
   have hBhp5:=(Fm (by assumption) Xc).1
   exact Zp 4 5 [4] (Z7 5 (dL 5 [1] [b3] (XU [Yd.mk l1]) 1 1 fun v1=>Yt 3 3 [] [(25,Qo [Yd.mk l1])] (Z7 6 (dp 6 6 [] [] (XU (cs++[Yd.mk l1])) (XU cs) (XU [Yd.mk l1]) u2 none 1 (Cu _) (Cu _) (IR _) (by simp<;>omega) (by simp [Z5b,XU]) fun v2=>Zp 1 2 [7] (Z7 8 (X3 8 3 [] [] b3 [.i z2,.i z3,BQ (cs++[Yd.mk l1]) v2] (de (az (ZD j (Z1 (ZF ⟨j+1,(cs++[Yd.mk l1]),v2,ys5,bb5,ob,(by rw [ZX,Xs];rfl),(Fu om (Zdc Xc) XT),hBhp5,rfl,rfl,rfl⟩ (wk [3,0,2,2,2,0] (ZI j fl)))))))))))))
  exact ax 2 (az (QI 3 [(31,.agg [.i z2,.i z3,Qo cs])] [2,1] (iL (YS [Zb.mk z2 z3 cs]) 1 3 fun v3=>ZQ 0 [(32,Ye [Zb.mk z2 z3 cs])] (ip 5 (YS (ds++[Zb.mk z2 z3 cs])) (YS ds) (YS [Zb.mk z2 z3 cs]) u none 3 (Qv _) (Qv _) (Do _) (by simp<;>omega) (by simp [NX,YS]) fun v4=>Z0 1 (Zy 4 b2 [Tt (ds++[Zb.mk z2 z3 cs]) v4,nl] (ie (az (ZD k (Z1 (ZF ⟨k+1,(ds++[Zb.mk z2 z3 cs]),v4,yl2,bl2,ob,(by rw [ZX,Zf];rfl),(Fu om (Zdf Yr YR (Ft om XT).symm) ZB),Et,rfl,rfl,rfl⟩ (wk [3,0,3,0] (ZI k fl))))))))))))
 refine ax 0 (YM 1 (ic [0] (Fp rdp yl bl) ?_))
 rintro _ _ ⟨z5,ys6,bb6,rfl,rfl,XK⟩
 have hMhp6:=CW (by assumption) XK.2
 have hBhp6:=hMhp6.1
 have hNhp6:=hMhp6.2.1
 have hzhp6:=XK.1
 refine Z1 (ab 4 (Dc 5 (Y0 (fun fz gz m F h=>∃(k2:Nat) (ps:List ZT) (u3:Value) (yl3:LI) (bl3:Bool),(k2<=z5.toNat)/\(ps.length=k2)/\((ps++(V3 (BX false) (z5.toNat-k2) (yl3,bl3)).1,(V3 (BX false) (z5.toNat-k2) (yl3,bl3)).2)=DY false (yl,bl))/\(RB yl3)/\F=sF [0,2,3,37] fz [(38,.i k2)]/\h=[.obj rdp [Z4 yl3,.b bl3],.obj b2 [Tt ds u,VL ps u3],Zi gz 3,Zi gz 4,.tail u3 5]/\m=z5.toNat-k2) _ _ _ ⟨0,[],(.slice none 0 0),ys6,bb6,ob,ob,(by rw [DY,XK.2];exact Fs),hBhp6,rfl,rfl,rfl⟩ (wk [1,1,1,1,0] (Ya fl)) ?_)))
 rintro m F h ⟨k2,ps,u3,yl3,bl3,Eu,QU,A7,Z3j,rfl,rfl,rfl⟩
 refine Y1 (aq (WA ((k2:Int)<z5) (fun ZA=>?_) (fun ZA=>?_)))
 ·refine ak (aq (ab 5 (Yf 1 (ic [0] (Fq rdp yl3 bl3) ?_))))
  rintro _ _ ⟨l2,ys7,bb7,rfl,rfl,Wc⟩
  have hBhp7:=(Fm (by assumption) Wc).1
  refine Z0 1 (ic [0] (Fq rdp ys7 bb7) ?_)
  rintro _ _ ⟨l3,ys8,bb8,rfl,rfl,WF⟩
  have hBhp8:=(Fm (by assumption) WF).1
  refine Z0 1 (ic [0] (At rdp ys8 bb8) ?_)
  rintro _ _ ⟨z6,ys9,bb9,rfl,rfl,V1⟩
  have hBhp9:=(Ja (by assumption) V1).1
  refine Z0 1 (ic [0] (At rdp ys9 bb9) ?_)
  rintro _ _ ⟨z7,ys10,bb10,rfl,rfl,Ue⟩
  have hBhp10:=(Ja (by assumption) Ue).1
  refine Z0 1 (iA [nl,nl,.i 0,.i 0,nl] fun b4=>Zy 0 b4 [Z4 l2,Z4 l3,.i z6,.i z7,nl] (ie (YM 1 (ic [1] (Fp rdp ys10 bb10) ?_))))
  rintro _ _ ⟨z8,ys11,bb11,rfl,rfl,UG⟩
  have hMhp11:=CW (by assumption) UG.2
  have hBhp11:=hMhp11.1
  have hNhp11:=hMhp11.2.1
  have hzhp11:=UG.1
  refine Z1 (ab 6 (Dc 6 (Y0 (fun fz gz m F h=>∃(j2:Nat) (is:List Instr) (u4:Value) (yl4:LI) (bl4:Bool),(j2<=z8.toNat)/\(is.length=j2)/\((is++(V3 (CX false) (z8.toNat-j2) (yl4,bl4)).1,(V3 (CX false) (z8.toNat-j2) (yl4,bl4)).2)=DZ false (ys10,bb10))/\(RB yl4)/\F=sF [0,2,3,5,37,38,50] fz [(51,.i j2)]/\h=[.obj rdp [Z4 yl4,.b bl4],.obj b4 [Z4 l2,Z4 l3,.i z6,.i z7,F9 is u4],Zi gz 3,Zi gz 4,Zi gz 5,Zi gz 6,.tail u4 6]/\m=z8.toNat-j2) _ _ _ ⟨0,[],(.slice none 0 0),ys11,bb11,ob,ob,(by rw [DZ,UG.2];exact Fs),hBhp11,rfl,rfl,rfl⟩ (wk [1,1,1,1,1,1,0] (Ya fl)) ?_)))
  rintro m F h ⟨j2,is,u4,yl4,bl4,Z3k,Ev,NC,Z3l,rfl,rfl,rfl⟩
  refine Y1 (aq (WA ((j2:Int)<z8) (fun Yi=>?_) (fun Yi=>?_)))
  ·refine ak (aq (ab 7 (Yf 1 (ic [0] (At rdp yl4 bl4) ?_))))
   rintro _ _ ⟨z9,ys12,bb12,rfl,rfl,Ut⟩
   have hBhp12:=(Ja (by assumption) Ut).1
   refine Z0 1 (ic [0] (At rdp ys12 bb12) ?_)
   rintro _ _ ⟨z10,ys13,bb13,rfl,rfl,TW⟩
   have hBhp13:=(Ja (by assumption) TW).1
   refine Z0 1 (ic [0] (At rdp ys13 bb13) ?_)
   rintro _ _ ⟨z11,ys14,bb14,rfl,rfl,Tq⟩
   have hBhp14:=(Ja (by assumption) Tq).1
   refine Z0 1 (ic [0] (At rdp ys14 bb14) ?_)
   rintro _ _ ⟨z12,ys15,bb15,rfl,rfl,K4⟩
   have hBhp15:=(Ja (by assumption) K4).1
   refine Z0 1 (iA [.i 0,.i 0,.i 0,.i 0,nl,nl] fun b5=>Zy 0 b5 [.i z9,.i z10,.i z11,.i z12,nl,nl] (ie (Yf 1 (ic [1] (Fq rdp ys15 bb15) ?_))))
   rintro _ _ ⟨l4,ys16,bb16,rfl,rfl,K5⟩
   have hBhp16:=(Fm (by assumption) K5).1
   refine Z0 1 (ic [0] (Fq rdp ys16 bb16) ?_)
   rintro _ _ ⟨l5,ys17,bb17,rfl,rfl,Ak⟩
   have hBhp17:=(Fm (by assumption) Ak).1
   exact Z0 1 (Zy 1 b5 [.i z9,.i z10,.i z11,.i z12,Z4 l4,nl] (Z0 1 (Zy 0 b5 [.i z9,.i z10,.i z11,.i z12,Z4 l4,Z4 l5] (ie (az (Zz 3 [2,0] (iL (Y9 [Instr.mk z9 z10 z11 z12 l4 l5]) 1 6 fun v5=>ZQ 0 [(71,K8 [Instr.mk z9 z10 z11 z12 l4 l5])] (ip 8 (Y9 (is++[Instr.mk z9 z10 z11 z12 l4 l5])) (Y9 is) (Y9 [Instr.mk z9 z10 z11 z12 l4 l5]) u4 none 6 (Jw _) (Jw _) (EB _) (by simp<;>omega) (by simp [Bz,Y9]) fun v6=>Z0 1 (Zy 4 b4 [Z4 l2,Z4 l3,.i z6,.i z7,F9 (is++[Instr.mk z9 z10 z11 z12 l4 l5]) v6] (ie (az (ZD j2 (Z1 (ZF ⟨j2+1,(is++[Instr.mk z9 z10 z11 z12 l4 l5]),v6,ys17,bb17,ob,(by rw [ZX,Ev];rfl),(Fu om (Zdr Ut TW Tq K4 K5 Ak) NC),hBhp17,rfl,rfl,rfl⟩ (wk [4,0,3,3,3,3,0] (ZI j2 fl))))))))))))))))
  exact ax 6 (az (QI 3 [(77,.agg [Z4 l2,Z4 l3,.i z6,.i z7,K8 is])] [2,1] (iL (W5 [ZT.mk l2 l3 z6 z7 is]) 1 5 fun v7=>ZQ 0 [(78,He [ZT.mk l2 l3 z6 z7 is])] (ip 6 (W5 (ps++[ZT.mk l2 l3 z6 z7 is])) (W5 ps) (W5 [ZT.mk l2 l3 z6 z7 is]) u3 none 5 (Kv _) (Kv _) (IX _) (by simp<;>omega) (by simp [NY,W5]) fun v8=>Z0 1 (Zy 4 b2 [Tt ds u,VL (ps++[ZT.mk l2 l3 z6 z7 is]) v8] (ie (az (ZD k2 (Z1 (ZF ⟨k2+1,(ps++[ZT.mk l2 l3 z6 z7 is]),v8,yl4,bl4,ob,(by rw [ZX,QU];rfl),(Fu om (Zdp Wc WF V1 Ue (Ft om NC).symm) A7),Z3l,rfl,rfl,rfl⟩ (wk [3,0,3,3,0] (ZI k2 fl))))))))))))
 exact ax 4 (Zq 1 [1] (Zy 2 b1 [Tt ds u,VL ps u3] (ie (ZY (r3 [1] [.agg [Tt ds u,VL ps u3]] [0] [(b1,b1)] ⟨(YA.mk ds ps),yl3,bl3,rfl,rfl,(Zdh (Ft om ZB).symm (Ft om A7).symm)⟩ (Zd.agg (.cons (Zd.forget _ _) (.cons (Zd.forget _ _) .nil))))))))
theorem Za4 (im:YA) (lz:Nat) (hV:VK im=true:=by exact ob) (hz:IZ im lz:=by exact ob) (hlz:lz<=100:=by exact ob):Zo 13 [Z4 (Xx im)] [] (Yx (.tup [V7 im,.b true])):=by
 have hri:=EU hV hz hlz
 have hey:=O6 hV
 have hrb:RB (Xx im):=by rw [hey];exact Z5p hri
 have hel:=O5 hz hlz
 have hE0:DX false (Xx im,false)=(im,[],false):=by rw [hey];exact Zdg hri
 refine ZE 26 Tryz.func13 (ar (iA [nl,nl] fun b1=>Z1 (Yf 2 (iA [nl,.b false] fun b2=>Zy 0 b2 [Z4 (Xx im),.b false] (ie (ar (ic [0] (Zdv b2 (Xx im) false (hb:=hrb)) ?_)))))))
 rintro _ _ ⟨im1,ys1,bb1,rfl,rfl,Y4⟩
 have hE:=hE0.symm.trans Y4
 have hI:im1=im:=(Yl Prod.fst hE).symm
 have hys:ys1=[]:=(Yl (fun q=>q.2.1) hE).symm
 have hbb:bb1=false:=(Yl (fun q=>q.2.2) hE).symm
 have hec:Xx im1=Xx im:=by rw [hI]
 have hcl:(Xx im1).length<=40000000:=by rw [hec];exact hel
 refine iA [nl,nl] fun b3=>Zy 0 b3 (Vd im1) (ie (Xd (X6 8 [0,2,5] [(16,.b (bb1||(decide ((ys1.length:Int)>0))))] (fun gz=>gz) ?_ (fun hj1=>?_))))
 ·refine Xp [2,5] [(23,.b ((bb1||(decide ((ys1.length:Int)>0)))||(!(decide ((Xx im1)=(Xx im))))))] (fun gz=>gz) ?_ ?_
  ·refine Z0 1 (ib (b:=(bb1||(decide ((ys1.length:Int)>0)))) 17 (fun Zc=>?_) (fun Zc=>?_))
   ·have Yr:(bb1=true)∨((ys1.length:Int)>0):=((ZO Iff.rfl dq)).1 Zc
    exact Z1 (Zv 3 (Zl true Zc fl))
   have YR:¬((bb1=true)∨((ys1.length:Int)>0)):=Y7 (ZO Iff.rfl dq) Zc
   exact Zz 1 [0] (Zw [] (PD im1 lz (hz:=(by rw [hI];exact hz)) (hlz:=hlz)) (Z0 1 (Zw [] (Zfb (Xx im1) (Xx im)) (Z1 (Zv 3 (Zl (!(decide ((Xx im1)=(Xx im)))) Zc fl))))))
  refine ac ((bb1||(decide ((ys1.length:Int)>0)))||(!(decide ((Xx im1)=(Xx im))))) (p:=((bb1=true)∨((ys1.length:Int)>0))∨(¬((Xx im1)=(Xx im)))) (ZO (ZO Iff.rfl dq) (Yh dq)) (fun Z9=>?_) (fun Z9=>?_)
  ·exact absurd Z9 (by rw [hbb,hys,hec];simp)
  exact ak (Zq 1 [0] (Zy 2 b1 (Vd im1) (Zm (r3 [] [V7 im1,.b true] [0] [(b1,b1)] ⟨rfl,rfl⟩ (Zd.tup (.cons (Zd.agg (.cons (Zd.sl _ (Yl YS (by rw [hI]))) (.cons (Zd.sl _ (Yl W5 (by rw [hI]))) .nil))) (.cons (lr _) .nil)))))))
 refine Zz 3 [1] (ib (b:=bb1) 11 (fun ZC=>?_) (fun ZC=>?_))
 ·have YV:bb1=true:=(Iff.rfl).1 ZC
  exact Z0 5 (Y5 (Zv 3 (Zl true ZC fl)) hj1)
 have Xc:¬(bb1=true):=Y7 Iff.rfl ZC
 exact Zz 2 [1] (iw (Yc ys1) (Z0 2 (Y5 (Zv 3 (Zl (decide ((ys1.length:Int)>0)) ZC fl)) hj1)))
theorem Z0h (im:YA) (lz:Nat) (hz:IZ im lz:=by exact ob) (hlz:lz<=100:=by exact ob):Zo 12 [V7 im] [] (Yx (Z4 (Xx im))):=by
 refine ZE 8 Tryz.func12 (ar (iA (Vd im) fun b1=>Z1 (Ys 1 [0] (Zw [] (Zgr im lz (hz:=hz)) (YB (!(VK im)) (p:=¬((VK im)=true)) (Yh Iff.rfl) (fun Z9=>?_) (fun Z9=>?_))))))
 ·exact ar (Zm (ZM (nl) (Zd.sl _ (by rw [Xx,Za Z9];rfl))))
 have hV:VK im=true:=VP.1 Z9
 have hri:=EU hV hz hlz
 exact ak (Zq 1 [0] (Zw [] (Zfy im (hr:=hri)) (Zm (ZM (Z4 (To im)) (Zd.sl _ (Yl Z6 (by rw [Xx,Zk hV])))))))
theorem Zb8 (code:LI) (hcb:∀z∈code,0<=z/\z<=255):Zo 3 [Um code] [] (Yx (.b true)):=by
 refine ZE 58 Tryz.func3 (Y1 (YM 1 (iw (Ct code) (Y2 ((code.length:Int)>1048576) (fun Z9=>?_) (fun Z9=>?_)))))
 ·exact ar (Zm (MO))
 have hcl:code.length<=1048576:=by omega
 refine ak (Yf 1 (ic [] (Z7j code (hcl:=hcl) (hcb:=hcb)) ?_))
 rintro _ _ ⟨y1,rfl,rfl,Y4⟩
 have hdz:=Y4
 have hdl:=hdz.len
 have hecl:=O5 hdz om
 refine iA [nl,nl] fun b1=>Zy 0 b1 (Vd y1) (ie (Zq 1 [0] (Zw [] (PD y1 1 (hz:=hdz) (hlz:=om)) (Z1 (Ys 2 [0] (Zw [] (Z0h y1 1 (hz:=hdz) (hlz:=om)) (Zw [] (CK (Xx y1) (Xx y1)) (Xp [3,4] [(24,.b ((!(decide ((Xx y1)=(Xx y1))))||((((Xx y1).length:Nat):Int)==0)))] (fun gz=>gz) ?_ ?_))))))))
 ·refine Z0 2 (ib (b:=(!(decide ((Xx y1)=(Xx y1))))) 20 (fun Zc=>?_) (fun Zc=>?_))
  ·have Yr:¬((Xx y1)=(Xx y1)):=((Yh dq)).1 Zc
   exact Z1 (wk [0] (fc (x:=.b true) (lb (by rw [Zc];rfl)) fl))
  have YR:¬(¬((Xx y1)=(Xx y1))):=Y7 (Yh dq) Zc
  exact Z0 1 (io (.i (((Xx y1).length:Nat):Int)) (.i (((Z6 (Xx y1)).length:Nat):Int)) (li (by rw [Yc])) (Z1 (wk [0] (fc (x:=.b ((((Xx y1).length:Nat):Int)==0)) (lb (by rw [Zc];rfl)) fl))))
 refine ac ((!(decide ((Xx y1)=(Xx y1))))||((((Xx y1).length:Nat):Int)==0)) (p:=(¬((Xx y1)=(Xx y1)))∨((((Xx y1).length:Nat):Int)=0)) (ZO (Yh dq) Ze) (fun Zj=>?_) (fun Zj=>?_)
 ·exact Zq 2 [0] (Zw [] (Z0h y1 1 (hz:=hdz) (hlz:=om)) (Zw [] (CK (Xx y1) (Xx y1)) (Zm (ZM (.b (decide ((Xx y1)=(Xx y1)))) (lb (by first|rfl|(simp;done)|(exfalso;omega)))))))
 have hV:VK y1=true:=Z5m (fun z=>Zj (.inr (by rw [z];rfl)))
 have hri:=EU hV hdz om
 have hE:=O6 hV
 have hisz:=(Za3 hV hdz om).isz
 refine ak (Y6 (ab 0 (Y0 (fun fz gz m F h=>∃(k:Nat),(k<=(Xx y1).length)/\F=sF [3,4] fz [(5,.i k)]/\h=gz/\m=(Xx y1).length-k) _ _ _ ⟨0,ob,rfl,rfl,rfl⟩ (wk [0] (Ya fl)) ?_)))
 rintro m F h ⟨k,Yj,rfl,rfl,rfl⟩
 refine YM 2 (io (.i (((Xx y1).length:Nat):Int)) (.i (((Z6 (Xx y1)).length:Nat):Int)) (li (by rw [Yc])) (Y2 ((k:Int)<(((Xx y1).length:Nat):Int)) (fun ZA=>?_) (fun ZA=>?_)))
 ·refine ak (aq (ab 1 (Yf 2 ?_)))
  obtain ⟨x1,Z3⟩:=Zt (Xx y1) k om
  have hby:=Oh hri _ (by rw [<-hE];exact Y3 Z3)
  refine Zs (Zh none (k:Int) 1 (Y8 Z3)) (Xp [3,4,5] [(46,.b ((decide (x1<0))||(decide (x1>255))))] (fun gz=>gz) ?_ ?_)
  ·refine Z0 3 (ib (b:=(decide (x1<0))) 40 (fun ZC=>?_) (fun ZC=>?_))
   ·have YV:x1<0:=(dq).1 ZC
    exact Z1 (wk [0] (fc (x:=.b true) (lb (by rw [ZC];rfl)) fl))
   have Xc:¬(x1<0):=Y7 dq ZC
   exact Z0 2 (Zs (Zh none (k:Int) 1 (Y8 Z3)) (Z1 (wk [0] (fc (x:=.b (decide (x1>255))) (lb (by rw [ZC];rfl)) fl))))
  refine ac ((decide (x1<0))||(decide (x1>255))) (p:=(x1<0)∨(x1>255)) (ZO dq dq) (fun Yi=>?_) (fun Yi=>?_)
  ·exact ar (Zm (ZM (.b false) (lb (by first|rfl|(simp;done)|(exfalso;omega)))))
  exact ak (az (Z0 1 (ZD k (Z1 (ZF ⟨k+1,ob,rfl,rfl,rfl⟩ (wk [0] (ZI k fl)))))))
 exact ax 0 (Yf 1 (Zw [] (Za4 y1 1 (hV:=hV) (hz:=hdz) (hlz:=om)) (Z0 3 (iA [nl,nl] fun b2=>Zy 0 b2 (Vd y1) (Z1 (Zq 4 [0,1] (Zw [] (Zba y1 y1 (ha:=hisz) (hb:=hisz)) (Zm (ZM (.b (decide (y1=y1))) (lb (by first|rfl|(simp;done)|(exfalso;omega))))))))))))
end Go.Abs
