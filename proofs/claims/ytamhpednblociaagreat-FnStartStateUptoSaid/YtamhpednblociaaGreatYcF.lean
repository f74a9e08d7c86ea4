/-
  A part of the proofs of several laws (see the last file): no condition.
-/
import Derived.Test.YtamhpednblociaaGreatYcE
set_option linter.all false
set_option linter.unusedVariables false
set_option linter.unusedSimpArgs false
set_option linter.unusedSectionVars false
set_option maxRecDepth 10000
set_option maxHeartbeats 4000000
namespace Go.Abs
open Go.Proofs
theorem Z8q (im:YG) (p:ZZ) (hx:im.procs[0]? = some p:=by exact ob) (hr:0<=p.regs/\p.regs<=2000:=by exact ob):Zo 90 [V0 im,.i 0,.i 0] [] (Ym (Bb (f0 p.regs.toNat))):=by
 refine ZE 23 Tryz.func90 (ar (iA (V4 im) fun b1=>iA [.i 0,.i 0,.i 0,nl,nl,nl] fun b2=>ie (Zp 3 [1] ?_)))
 obtain ⟨x1,Z4⟩:=Zv im.procs 0 (by have:=(Xc.1 hx).1;omega)
 obtain rfl:x1=p:=Ko (Z4.symm.trans hx)
 refine Zq (Zk none 0 5 (Ky Z4)) (Z1 (aD 10 (Zs 5 10 [0,1,2,4,6] (Au (fun fz gz F h=>∃(v1:Value) (v2:Value) (v3:Value),F=sF [6] fz []/\h=[.obj b2 [.i 0,.i 0,.i 0,ZG (List.replicate x1.regs.toNat 0) v1,ZG (List.replicate x1.regs.toNat 0) v2,ZG (List.replicate x1.regs.toNat 0) v3],Zi gz 1]) ?_ ?_))))
 ·refine Z3h 3 5 7 ?_ ?_ ?_
  ·refine Qg 3 [] [] x1.regs x1.regs.toNat om fun v1=>VK 5 7 ?_ ?_
   ·exact Qg 5 [] [] x1.regs x1.regs.toNat om fun v2=>Z8 7 (Qg 7 [] [] x1.regs x1.regs.toNat om fun v3=>Zs 1 2 [8] (Z8 9 (YT 9 3 [] [] b2 [.i 0,.i 0,.i 0,ZG (List.replicate x1.regs.toNat 0) v1,ZG (List.replicate x1.regs.toNat 0) v2,ZG (List.replicate x1.regs.toNat 0) v3] (de (ZH ⟨v1,v2,v3,rfl,rfl⟩ (wk [0,3] fl))))))
   exact Qg 7 [] [] x1.regs x1.regs.toNat om fun v4=>Z8 5 (Qg 5 [] [] x1.regs x1.regs.toNat om fun v5=>Zs 1 2 [8] (Z8 9 (YT 9 3 [] [] b2 [.i 0,.i 0,.i 0,ZG (List.replicate x1.regs.toNat 0) v1,ZG (List.replicate x1.regs.toNat 0) v5,ZG (List.replicate x1.regs.toNat 0) v4] (de (ZH ⟨v1,v5,v4,rfl,rfl⟩ (wk [0,3] fl))))))
  ·refine Qg 5 [] [] x1.regs x1.regs.toNat om fun v6=>VK 3 7 ?_ ?_
   ·exact Qg 3 [] [] x1.regs x1.regs.toNat om fun v7=>Z8 7 (Qg 7 [] [] x1.regs x1.regs.toNat om fun v8=>Zs 1 2 [8] (Z8 9 (YT 9 3 [] [] b2 [.i 0,.i 0,.i 0,ZG (List.replicate x1.regs.toNat 0) v7,ZG (List.replicate x1.regs.toNat 0) v6,ZG (List.replicate x1.regs.toNat 0) v8] (de (ZH ⟨v7,v6,v8,rfl,rfl⟩ (wk [0,3] fl))))))
   exact Qg 7 [] [] x1.regs x1.regs.toNat om fun v9=>Z8 3 (Qg 3 [] [] x1.regs x1.regs.toNat om fun v10=>Zs 1 2 [8] (Z8 9 (YT 9 3 [] [] b2 [.i 0,.i 0,.i 0,ZG (List.replicate x1.regs.toNat 0) v10,ZG (List.replicate x1.regs.toNat 0) v6,ZG (List.replicate x1.regs.toNat 0) v9] (de (ZH ⟨v10,v6,v9,rfl,rfl⟩ (wk [0,3] fl))))))
  refine Qg 7 [] [] x1.regs x1.regs.toNat om fun v11=>VK 3 5 ?_ ?_
  ·exact Qg 3 [] [] x1.regs x1.regs.toNat om fun v12=>Z8 5 (Qg 5 [] [] x1.regs x1.regs.toNat om fun v13=>Zs 1 2 [8] (Z8 9 (YT 9 3 [] [] b2 [.i 0,.i 0,.i 0,ZG (List.replicate x1.regs.toNat 0) v12,ZG (List.replicate x1.regs.toNat 0) v13,ZG (List.replicate x1.regs.toNat 0) v11] (de (ZH ⟨v12,v13,v11,rfl,rfl⟩ (wk [0,3] fl))))))
  exact Qg 5 [] [] x1.regs x1.regs.toNat om fun v14=>Z8 3 (Qg 3 [] [] x1.regs x1.regs.toNat om fun v15=>Zs 1 2 [8] (Z8 9 (YT 9 3 [] [] b2 [.i 0,.i 0,.i 0,ZG (List.replicate x1.regs.toNat 0) v15,ZG (List.replicate x1.regs.toNat 0) v14,ZG (List.replicate x1.regs.toNat 0) v11] (de (ZH ⟨v15,v14,v11,rfl,rfl⟩ (wk [0,3] fl))))))
 rintro F h ⟨v1,v2,v3,rfl,rfl⟩
 exact at_ (r3 [] [.agg [.i 0,.i 0,.i 0,ZG (List.replicate x1.regs.toNat 0) v1,ZG (List.replicate x1.regs.toNat 0) v2,ZG (List.replicate x1.regs.toNat 0) v3]] [0] [(b2,b2)] ⟨rfl,rfl⟩ (Zc.agg (.cons li (.cons li (.cons li (.cons (Zc.sl _ (Yj Z6 ob)) (.cons (Zc.sl _ (Yj Z6 ob)) (.cons (Zc.sl _ (Yj Z6 ob)) .nil))))))))
theorem Z8u (im:YG) (mo:Int) (p:ZZ) (hx:im.procs[0]? = some p:=by exact ob) (hr:0<=p.regs/\p.regs<=2000:=by exact ob):Zo 51 [V0 im,.i mo] [] (Ym (JH (Km mo p.regs.toNat))):=by
 exact ZE 10 Tryz.func51 (ar (iA (V4 im) fun b1=>iA [.i 0,.i 0,.i 0,.i 0,nl,nl,nl] fun b2=>ie (Zp 2 [1] (Zt [] (Z8q im p) (iL (K5 [f0 p.regs.toNat]) 1 6 fun v1=>Z0 1 (Zz 1 b2 [.i 3,.i 0,.i 0,.i mo,nl,nl,Gu [f0 p.regs.toNat] v1] (ie (at_ (r3 [] [.agg [.i 3,.i 0,.i 0,.i mo,nl,nl,Gu [f0 p.regs.toNat] v1]] [0] [(b2,b2)] ⟨rfl,rfl⟩ (Zc.agg (.cons li (.cons li (.cons li (.cons li (.cons (Zc.sl _ rfl) (.cons (Zc.sl _ rfl) (.cons (Zc.sl _ (Yj K5 ob)) .nil)))))))))))))))))
theorem Z8d (im:YG) (mo:Int) (lz:Nat) (hz:IZ im lz:=by exact ob) (hlz:lz<=100:=by exact ob):Zo 26 [V0 im,.i mo] [] (Ym (.tup [JH ((YB im mo).1),.b ((YB im mo).2)])):=by
 have hil:=hz.len
 obtain ⟨p,hp⟩:=Zv im.procs 0 om
 refine ZE 21 Tryz.func26 (ar (iA (V4 im) fun b1=>iA [.i 0,.i 0,.i 0,.i 0,nl,nl,nl] fun b2=>Z1 (Yr 1 [1] (Zt [] (OH im lz (hz:=hz)) (YK 7 [1,2,4] [(12,.b ((!(XJ im))||(decide (mo<0))))] (fun gz=>gz) ?_ (fun hj1=>?_))))))
 ·refine Xn [1,2,4] [(16,.b (((!(XJ im))||(decide (mo<0)))||(decide (mo>40))))] (fun gz=>gz) ?_ ?_
  ·refine Z0 1 (ib (b:=((!(XJ im))||(decide (mo<0)))) 13 (fun Za=>?_) (fun Za=>?_))
   ·have Y3:(¬((XJ im)=true))∨(mo<0):=((ZB (Yg Iff.rfl) dq)).1 Za
    exact Z1 (wk [0,0] (Zf true Za fl))
   have Yq:¬((¬((XJ im)=true))∨(mo<0)):=ZV (ZB (Yg Iff.rfl) dq) Za
   exact Z1 (wk [0,0] (Zf (decide (mo>40)) Za fl))
  refine ac (((!(XJ im))||(decide (mo<0)))||(decide (mo>40))) (p:=((¬((XJ im)=true))∨(mo<0))∨(mo>40)) (ZB (ZB (Yg Iff.rfl) dq) dq) (fun Z9=>?_) (fun Z9=>?_)
  ·refine Ya 1 (Zz 0 b2 [.i 0,.i 0,.i 0,.i 0,nl,nl,nl] (Z1 ?_))
   have hE:YB im mo=(H9,false):=H6 (fun z=>by rcases Z9 with (q|q)|q;exact q z.1;all_goals omega)
   exact at_ (r3 [] [.agg [.i 0,.i 0,.i 0,.i 0,nl,nl,nl],.b false] [0] [(b2,b2)] ⟨rfl,rfl⟩ (Zc.tup (.cons (Zc.agg (.cons (li (by first|(rw [hE];done)|(rw [hE];rfl))) (.cons (li (by first|(rw [hE];done)|(rw [hE];rfl))) (.cons (li (by first|(rw [hE];done)|(rw [hE];rfl))) (.cons (li (by first|(rw [hE];done)|(rw [hE];rfl))) (.cons (Zc.sl _ (by first|(rw [hE];done)|(rw [hE];rfl))) (.cons (Zc.sl _ (by first|(rw [hE];done)|(rw [hE];rfl))) (.cons (Zc.sl _ (by first|(rw [hE];done)|(rw [hE];rfl))) .nil)))))))) (.cons (lb (by rw [hE])) .nil))))
  have hV:XJ im=true/\0<=mo/\mo<=40:=⟨JB fun z=>Z9 (.inl (.inl z)),by have h1:=fun q=>Z9 (.inl (.inr q));have h2:=fun q=>Z9 (.inr q);omega⟩
  have hre:=(Eu hV.1 (Y4 hp)).1
  refine ak (Zp 2 [1] (Zt [] (Z8u im mo p (hx:=hp) (hr:=om)) (Zz 0 b2 (AO (Km mo p.regs.toNat)) (Z1 ?_))))
  have hE:YB im mo=(Km mo p.regs.toNat,true):=by rw [H7 hV,LE hp]
  exact at_ (r3 [] [JH (Km mo p.regs.toNat),.b true] [0] [(b2,b2)] ⟨rfl,rfl⟩ (Zc.tup (.cons (Zc.agg (.cons (li (by first|(rw [hE];done)|(rw [hE];rfl))) (.cons (li (by first|(rw [hE];done)|(rw [hE];rfl))) (.cons (li (by first|(rw [hE];done)|(rw [hE];rfl))) (.cons (li (by first|(rw [hE];done)|(rw [hE];rfl))) (.cons (Zc.sl _ (Yj Z6 (by first|(rw [hE];done)|(rw [hE];rfl)))) (.cons (Zc.sl _ (Yj Jb (by first|(rw [hE];done)|(rw [hE];rfl)))) (.cons (Zc.sl _ (Yj K5 (by first|(rw [hE];done)|(rw [hE];rfl)))) .nil)))))))) (.cons (lb (by rw [hE])) .nil))))
 refine Z0 2 (ib (b:=(!(XJ im))) 9 (fun ZA=>?_) (fun ZA=>?_))
 ·have YR:¬((XJ im)=true):=((Yg Iff.rfl)).1 ZA
  exact Z0 3 (ZJ (wk [0,0] (Zf true ZA fl)) hj1)
 have X1:¬(¬((XJ im)=true)):=ZV (Yg Iff.rfl) ZA
 exact Z0 3 (ZJ (wk [0,0] (Zf (decide (mo<0)) ZA fl)) hj1)
theorem M3 (j:Int) (hj:0<=j/\j<=2000:=by exact ob):Zo 131 [.i j] [] (Ym (Z3 (Qc j.toNat))):=by
 exact ZE 5 Tryz.func131 (Y1 (Ya 1 (iMz j j.toNat om fun v1=>Zm (ZP (ZG (List.replicate j.toNat 0) v1) (Zc.sl _ (Yj Z6 ob))))))
theorem Ze0 (im:YG) (p:ZZ) (hx:im.procs[0]? = some p:=by exact ob) (hr:0<=p.regs/\p.regs<=2000:=by exact ob):Zo 91 [V0 im,.i 0,.i 0,Z3 [],Z3 []] [] (Ym (Bb (f0 p.regs.toNat))):=by
 refine ZE 37 Tryz.func91 (ar (iA (V4 im) fun b1=>iA [.i 0,.i 0,.i 0,nl,nl,nl] fun b2=>ie (Zp 3 [1] ?_)))
 obtain ⟨x1,Z4⟩:=Zv im.procs 0 (by have:=(Xc.1 hx).1;omega)
 obtain rfl:x1=p:=Ko (Z4.symm.trans hx)
 exact Zq (Zk none 0 5 (Ky Z4)) (Z1 (Ya 1 (Zt [] (M3 x1.regs (hj:=hr)) (Z1 (Ya 1 (Zt [] (M3 x1.regs (hj:=hr)) (Z1 (Ya 2 (Zq (OY 3 (Z6 (Qc x1.regs.toNat)) none none) (ie (Ya 2 (Zq (OY 3 (Z6 (Qc x1.regs.toNat)) none none) (ie (Ya 5 (Zt [] (M3 x1.regs (hj:=hr)) (Z0 1 (Zz 0 b2 [.i 0,.i 0,.i 0,Z3 (Qc x1.regs.toNat),Z3 (Qc x1.regs.toNat),Z3 (Qc x1.regs.toNat)] (ie (at_ (r3 [] [.agg [.i 0,.i 0,.i 0,Z3 (Qc x1.regs.toNat),Z3 (Qc x1.regs.toNat),Z3 (Qc x1.regs.toNat)]] [0] [(b2,b2)] ⟨rfl,rfl⟩ (Zc.agg (.cons li (.cons li (.cons li (.cons (Zc.sl _ (Yj Z6 ob)) (.cons (Zc.sl _ (Yj Z6 ob)) (.cons (Zc.sl _ (Yj Z6 ob)) .nil)))))))))))))))))))))))))))
theorem Zek (im:YG) (mo:Int) (p:ZZ) (hx:im.procs[0]? = some p:=by exact ob) (hr:0<=p.regs/\p.regs<=2000:=by exact ob):Zo 52 [V0 im,.i mo] [] (Ym (JH (Km mo p.regs.toNat))):=by
 exact ZE 14 Tryz.func52 (ar (iA (V4 im) fun b1=>iA [.i 0,.i 0,.i 0,.i 0,nl,nl,nl] fun b2=>ie (Ya 1 (iL (Z6 []) 0 1 fun v1=>iL (Jb []) 0 3 fun v2=>Zu 1 [3] (iL (Z6 []) 0 1 fun v3=>iL (Z6 []) 0 1 fun v4=>ZU 0 [(9,Z3 []),(10,Z3 [])] (Zt [] (Ze0 im p) (iL (K5 [f0 p.regs.toNat]) 1 6 fun v5=>Z0 1 (Zz 5 b2 [.i 3,.i 0,.i 0,.i mo,ZG [] v1,Py [] v2,Gu [f0 p.regs.toNat] v5] (ie (at_ (r3 [] [.agg [.i 3,.i 0,.i 0,.i mo,ZG [] v1,Py [] v2,Gu [f0 p.regs.toNat] v5]] [0] [(b2,b2)] ⟨rfl,rfl⟩ (Zc.agg (.cons li (.cons li (.cons li (.cons li (.cons (Zc.sl _ (Yj Z6 ob)) (.cons (Zc.sl _ (Yj Jb ob)) (.cons (Zc.sl _ (Yj K5 ob)) .nil)))))))))))))))))))
theorem Zdk (im:YG) (mo:Int) (lz:Nat) (hz:IZ im lz:=by exact ob) (hlz:lz<=100:=by exact ob):Zo 27 [V0 im,.i mo] [] (Ym (.tup [JH ((YB im mo).1),.b ((YB im mo).2)])):=by
 have hil:=hz.len
 obtain ⟨p,hp⟩:=Zv im.procs 0 om
 refine ZE 18 Tryz.func27 (ar (iA (V4 im) fun b1=>iA [.i 0,.i 0,.i 0,.i 0,nl,nl,nl] fun b2=>Z1 (Yr 1 [1] (Zt [] (Zes im lz (hz:=hz)) (Xn [1,2,4] [(13,.b ((!(XJ im))||(!(decide (0<=mo/\mo<=40)))))] (fun gz=>gz) ?_ ?_)))))
 ·refine Z0 2 (ib (b:=(!(XJ im))) 9 (fun Za=>?_) (fun Za=>?_))
  ·have Y3:¬((XJ im)=true):=((Yg Iff.rfl)).1 Za
   exact Z1 (wk [0,0] (Zf true Za fl))
  have Yq:¬(¬((XJ im)=true)):=ZV (Yg Iff.rfl) Za
  exact Z0 1 (Zt [] (V5 mo 0 40) (Z1 (wk [0,0] (Zf (!(decide (0<=mo/\mo<=40))) Za fl))))
 refine ac ((!(XJ im))||(!(decide (0<=mo/\mo<=40)))) (p:=(¬((XJ im)=true))∨(¬(0<=mo/\mo<=40))) (ZB (Yg Iff.rfl) (Yg dq)) (fun Z9=>?_) (fun Z9=>?_)
 ·refine Ya 1 (Zz 0 b2 [.i 0,.i 0,.i 0,.i 0,nl,nl,nl] (Z1 ?_))
  have hE:YB im mo=(H9,false):=H6 (fun z=>by rcases Z9 with q|q;exact q z.1;exact q z.2)
  exact at_ (r3 [] [.agg [.i 0,.i 0,.i 0,.i 0,nl,nl,nl],.b false] [0] [(b2,b2)] ⟨rfl,rfl⟩ (Zc.tup (.cons (Zc.agg (.cons (li (by first|(rw [hE];done)|(rw [hE];rfl))) (.cons (li (by first|(rw [hE];done)|(rw [hE];rfl))) (.cons (li (by first|(rw [hE];done)|(rw [hE];rfl))) (.cons (li (by first|(rw [hE];done)|(rw [hE];rfl))) (.cons (Zc.sl _ (by first|(rw [hE];done)|(rw [hE];rfl))) (.cons (Zc.sl _ (by first|(rw [hE];done)|(rw [hE];rfl))) (.cons (Zc.sl _ (by first|(rw [hE];done)|(rw [hE];rfl))) .nil)))))))) (.cons (lb (by rw [hE])) .nil))))
 have hV:XJ im=true/\0<=mo/\mo<=40:=⟨JB fun z=>Z9 (.inl z),JB fun z=>Z9 (.inr z)⟩
 have hre:=(Eu hV.1 (Y4 hp)).1
 refine ak (Zp 2 [1] (Zt [] (Zek im mo p (hx:=hp) (hr:=om)) (Zz 0 b2 (AO (Km mo p.regs.toNat)) (Z1 ?_))))
 have hE:YB im mo=(Km mo p.regs.toNat,true):=by rw [H7 hV,LE hp]
 exact at_ (r3 [] [JH (Km mo p.regs.toNat),.b true] [0] [(b2,b2)] ⟨rfl,rfl⟩ (Zc.tup (.cons (Zc.agg (.cons (li (by first|(rw [hE];done)|(rw [hE];rfl))) (.cons (li (by first|(rw [hE];done)|(rw [hE];rfl))) (.cons (li (by first|(rw [hE];done)|(rw [hE];rfl))) (.cons (li (by first|(rw [hE];done)|(rw [hE];rfl))) (.cons (Zc.sl _ (Yj Z6 (by first|(rw [hE];done)|(rw [hE];rfl)))) (.cons (Zc.sl _ (Yj Jb (by first|(rw [hE];done)|(rw [hE];rfl)))) (.cons (Zc.sl _ (Yj K5 (by first|(rw [hE];done)|(rw [hE];rfl)))) .nil)))))))) (.cons (lb (by rw [hE])) .nil))))
theorem OK (z:Int) :Zo 94 [.i z] [] (fun r h=>r=.b (decide (-999<=z/\z<=999))/\h=[]):=by
 refine ZE 9 Tryz.func94 (Y1 (ar (YK 6 [] [(8,.b ((decide (z>=(-999)))&&(decide (z<=999))))] (fun gz=>gz) ?_ (fun hj1=>?_))))
 ·exact Zm (ZP (.b ((decide (z>=(-999)))&&(decide (z<=999)))) (lb (by rw [Yb];simp)))
 refine Z0 3 (ib (b:=(decide (z>=(-999)))) 5 (fun Za=>?_) (fun Za=>?_))
 ·have Y3:z>=(-999):=(dq).1 Za
  exact Z0 3 (ZJ (wk [] (Zf (decide (z<=999)) Za fl)) hj1)
 have Yq:¬(z>=(-999)):=ZV dq Za
 exact Z0 3 (ZJ (wk [] (Zf false Za fl)) hj1)
theorem Z8h (hh:List Tg) (h0:hh.length=0:=by exact ob):Zo 95 [EC hh] [] (Ym (.tup [Z3 [],.b true])):=by
 refine ZE 159 Tryz.func95 (Y1 (Ya 1 (iw (Jc hh) (iM hh.length hh.length fun v1=>?_))))
 refine Z1 (YO 1 (iw (Jc hh) (Z1 (ab 0 (Y5 (fun fz gz m F h=>∃(k:Nat),(k=0)/\F=sF [0,24,25] fz [(4,Z3 (List.replicate hh.length 0)),(26,.i k)]/\h=[]/\m=0-k) _ _ _ ⟨0,ob,rfl,rfl,rfl⟩ (wk [] (fc (x:=ZG (List.replicate hh.length 0) v1) (Zc.forget _ _) (Ye fl))) ?_)))))
 rintro m F h ⟨k,Yl,rfl,rfl,rfl⟩
 refine Y1 (aq (WZ ((k:Int)<(hh.length:Int)) (fun Z9=>?_) (fun Z9=>?_)))
 ·exfalso;omega
 refine ax 0 (YO 1 (iw (Jc hh) (Z0 2 (ib (b:=(decide ((hh.length:Int)>0))) 59 (fun Za=>?_) (fun Za=>?_)))))
 ·have Y3:(hh.length:Int)>0:=(dq).1 Za
  exfalso;omega
 have Yq:¬((hh.length:Int)>0):=ZV dq Za
 refine Z1 (WW (ak (Ya 1 (ic [] (Z2e (List.replicate hh.length 0)) ?_))))
 rintro _ _ ⟨v2,rfl,rfl⟩
 refine Z1 (Y1 (Y1 (YO 1 (iw (Jc hh) (Z1 (ab 4 (Y5 (fun fz gz m F h=>∃(k2:Nat),(k2=0)/\F=sF [0,4,13,71,72] fz [(11,Z3 (List.replicate hh.length 0)),(12,Z3 []),(73,.i k2)]/\h=[]/\m=0-k2) _ _ _ ⟨0,ob,rfl,rfl,rfl⟩ (wk [] (fc (x:=ZG (List.replicate hh.length 0) v2) (Zc.forget _ _) (fc (x:=nl) (Zc.sl _ rfl) (Ye fl)))) ?_)))))))
 rintro m F h ⟨k2,Fv,rfl,rfl,rfl⟩
 refine Y1 (aq (WZ ((k2:Int)<(hh.length:Int)) (fun Zh=>?_) (fun Zh=>?_)))
 ·exfalso;omega
 refine ax 4 (aq (ab 6 (Y5 (fun fz gz m F h=>∃(k3:Nat),(k3=0)/\F=sF [0,4,11,12] fz [(13,.i k3)]/\h=gz/\m=0-k3) _ _ _ ⟨0,ob,rfl,rfl,rfl⟩ (wk [] (Ye fl)) ?_)))
 rintro m F h ⟨k3,Z1z,rfl,rfl,rfl⟩
 refine YO 1 (io (.i 0) (.i ((([]:List AV).length:Nat):Int)) (li rfl) (Y0 ((0:Int)>0) (fun ZC=>?_) (fun ZC=>?_)))
 ·exfalso;omega
 exact ax 6 (Ya 3 (iw (Jc hh) (Zm (r2 [] [Z3 (List.replicate hh.length 0),.b ((k3:Int)==(hh.length:Int))] ⟨rfl,rfl⟩ (Zc.tup (.cons (Zc.sl _ (Yj Z6 (by rw [h0];rfl))) (.cons (lb (by rw [Z1z,h0];rfl)) .nil)))))))
theorem Z8y (ys:LI) (h0:ys.length=0:=by exact ob):Zo 125 [Z3 ys,.val (.func (.func 96) #[] #[])] [] (Ym (.i (-1))):=by
 refine ZE 19 Tryz.func125 (Y1 (YO 1 (iw (Yc ys) (Z1 (ab 0 (Y5 (fun fz gz m F h=>∃(k:Nat),(k=0)/\F=sF [0,1,7] fz [(8,.i k)]/\h=gz/\m=0-k) _ _ _ ⟨0,ob,rfl,rfl,rfl⟩ (wk [] (Ye fl)) ?_))))))
 rintro m F h ⟨k,Yl,rfl,rfl,rfl⟩
 refine Y1 (aq (WZ ((k:Int)<(ys.length:Int)) (fun Z9=>?_) (fun Z9=>?_)))
 ·exfalso;omega
 exact ax 0 (ar (Zm (BK)))
theorem Z2z (ys:LI) (h0:ys.length=0:=by exact ob):Zo 79 [Z3 ys,.val (.func (.func 96) #[] #[])] [] (Ym (.b false)):=by
 exact ZE 9 Tryz.func79 (Y1 (Ya 2 (Zt [] (Z8y ys) (Zm (ZP (.b (decide ((-1)>=0))) lb)))))
theorem Z8m (im:YG) (p:ZZ) (n:Nat) (fr:UU) (hf:fr=f0 n:=by exact ob) (hx:im.procs[0]? = some p:=by exact ob) (hn:(n:Int)=p.regs:=by exact ob) (hr:n<=2000:=by exact ob) (hc:1<=p.code.length/\p.code.length<=2000:=by exact ob):Zo 97 [V0 im,Bb fr] [] (Ym (.b true)):=by
 have e1:fr.proc=0:=by rw [hf];rfl
 have e2:fr.at_=0:=by rw [hf];rfl
 have e3:fr.regs.length=n:=by rw [hf];exact BM n
 have e4:fr.own.length=n:=by rw [hf];exact BM n
 have e5:fr.held.length=n:=by rw [hf];exact BM n
 have e6:fr.dst=0:=by rw [hf];rfl
 have hpl:=(Xc.1 hx).1
 refine ZE 92 Tryz.func97 (ar (iA (V4 im) fun b1=>iA (Do fr) fun b2=>Z1 (Xa (Xn [2,3] [(18,.b ((decide (fr.proc<0))||(decide (fr.proc>=(im.procs.length:Int)))))] (fun gz=>gz) ?_ ?_))))
 ·refine Zu 4 [0] (ib (b:=(decide (fr.proc<0))) 11 (fun Za=>?_) (fun Za=>?_))
  ·have Y3:fr.proc<0:=(dq).1 Za
   exact Z1 (wk [0,0] (Zf true Za fl))
  have Yq:¬(fr.proc<0):=ZV dq Za
  exact Zu 4 [0,1] (iw (JY im.procs) (Z1 (wk [0,0] (Zf (decide (fr.proc>=(im.procs.length:Int))) Za fl))))
 refine ac ((decide (fr.proc<0))||(decide (fr.proc>=(im.procs.length:Int)))) (p:=(fr.proc<0)∨(fr.proc>=(im.procs.length:Int))) (ZB dq dq) (fun Z9=>?_) (fun Z9=>?_)
 ·exfalso;omega
 refine ak (Zp 4 [1,0] ?_)
 obtain ⟨x1,Z4⟩:=Zv im.procs fr.proc.toNat om
 obtain rfl:x1=p:=Ko (Z4.symm.trans (by rw [e1];exact hx))
 refine Zq (Zk none fr.proc 5 (Ky Z4)) (Z0 1 (iA [nl,nl,.i 0,.i 0,nl] fun b3=>Zz 0 b3 (UO x1) (ie (Xa (YK 11 [3,5] [(35,.b ((decide (fr.at_<0))||(decide (fr.at_>=(x1.code.length:Int)))))] (fun gz=>gz) ?_ (fun hj1=>?_))))))
 ·refine YK 19 [3,5] [(43,.b (((decide (fr.at_<0))||(decide (fr.at_>=(x1.code.length:Int))))||((fr.regs.length:Int) != x1.regs)))] (fun gz=>gz) ?_ (fun hj2=>?_)
  ·refine YK 27 [3,5] [(51,.b ((((decide (fr.at_<0))||(decide (fr.at_>=(x1.code.length:Int))))||((fr.regs.length:Int) != x1.regs))||((fr.own.length:Int) != x1.regs)))] (fun gz=>gz) ?_ (fun hj3=>?_)
   ·refine Xn [3] [(59,.b (((((decide (fr.at_<0))||(decide (fr.at_>=(x1.code.length:Int))))||((fr.regs.length:Int) != x1.regs))||((fr.own.length:Int) != x1.regs))||((fr.held.length:Int) != x1.regs)))] (fun gz=>gz) ?_ ?_
    ·refine Z0 1 (ib (b:=((((decide (fr.at_<0))||(decide (fr.at_>=(x1.code.length:Int))))||((fr.regs.length:Int) != x1.regs))||((fr.own.length:Int) != x1.regs))) 52 (fun ZA=>?_) (fun ZA=>?_))
     ·have YR:(((fr.at_<0)∨(fr.at_>=(x1.code.length:Int)))∨((fr.regs.length:Int)≠x1.regs))∨((fr.own.length:Int)≠x1.regs):=((ZB (ZB (ZB dq dq) Yi) Yi)).1 ZA
      exact Z1 (Zw 3 (Zf true ZA fl))
     have X1:¬((((fr.at_<0)∨(fr.at_>=(x1.code.length:Int)))∨((fr.regs.length:Int)≠x1.regs))∨((fr.own.length:Int)≠x1.regs)):=ZV (ZB (ZB (ZB dq dq) Yi) Yi) ZA
     exact Zu 2 [1] (iw (Yc fr.held) (WI [0] (Zw 3 (Zf ((fr.held.length:Int) != x1.regs) ZA fl))))
    refine ac (((((decide (fr.at_<0))||(decide (fr.at_>=(x1.code.length:Int))))||((fr.regs.length:Int) != x1.regs))||((fr.own.length:Int) != x1.regs))||((fr.held.length:Int) != x1.regs)) (p:=((((fr.at_<0)∨(fr.at_>=(x1.code.length:Int)))∨((fr.regs.length:Int)≠x1.regs))∨((fr.own.length:Int)≠x1.regs))∨((fr.held.length:Int)≠x1.regs)) (ZB (ZB (ZB (ZB dq dq) Yi) Yi) Yi) (fun Zh=>?_) (fun Zh=>?_)
    ·exfalso;omega
    refine ak (Yr 2 [1] (iw (Yc fr.regs) (Z1 (ab 0 (Y5 (fun fz gz m F h=>∃(k:Nat),(k<=n)/\F=sF [3,61,62] fz [(63,.i k)]/\h=[Zi gz 1]/\m=n-k) _ _ _ ⟨0,ob,rfl,rfl,rfl⟩ (wk [1] (Ye fl)) ?_)))))
    rintro m F h ⟨k,Yl,rfl,rfl,rfl⟩
    refine Y1 (aq (WZ ((k:Int)<(fr.regs.length:Int)) (fun ZC=>?_) (fun ZC=>?_)))
    ·refine ak (aq (ab 1 (Ya 1 ?_)))
     obtain ⟨x2,Zy⟩:=Zv fr.regs k om
     have hz1:=Hp (n:=n) (by rw [hf] at Zy;exact Zy)
     refine Zq (Zk none (k:Int) 1 (Y7 Zy)) (Z1 (Ya 1 (Zt [] (OK x2) (YK 7 [3,6,61,62,63] [(74,.b ((!(decide (-999<=x2/\x2<=999)))&&(decide (x2<1000))))] (fun gz=>gz) ?_ (fun hj4=>?_)))))
     ·refine Z0 1 (ib (b:=((!(decide (-999<=x2/\x2<=999)))&&(decide (x2<1000)))) 75 (fun Yf=>?_) (fun Yf=>?_))
      ·have Xe:(¬(-999<=x2/\x2<=999))/\(x2<1000):=((Y2 (Yg dq) dq)).1 Yf
       exact Z1 (Vn (ar (Zm (ZP (.b false) lb))))
      have XO:¬((¬(-999<=x2/\x2<=999))/\(x2<1000)):=ZV (Y2 (Yg dq) dq) Yf
      refine Zu 3 [0] ?_
      obtain ⟨x3,YX⟩:=Zv fr.own k om
      have hz2:=Hp (n:=n) (by rw [hf] at YX;exact YX)
      refine Zq (Zk none (k:Int) 1 (Y7 YX)) (Z0 4 (ib (b:=(decide (x3<0))) 83 (fun YQ=>?_) (fun YQ=>?_)))
      ·have W9:x3<0:=(dq).1 YQ
       exact Z1 (Vn (ar (Zm (ZP (.b false) lb))))
      have WB:¬(x3<0):=ZV dq YQ
      refine Zu 3 [0] (Zq (Zk none (k:Int) 1 (Y7 YX)) (Y0 (x3>999999) (fun Yh=>?_) (fun Yh=>?_)))
      ·exfalso;omega
      exact ak (az (ZK k (Z1 (ZM ⟨k+1,ob,rfl,rfl,rfl⟩ (wk [0] (ZW k fl))))))
     refine Z0 2 (ib (b:=(!(decide (-999<=x2/\x2<=999)))) 71 (fun Xd=>?_) (fun Xd=>?_))
     ·have WY:¬(-999<=x2/\x2<=999):=((Yg dq)).1 Xd
      exact Z0 3 (ZJ (wk [0] (Zf (decide (x2<1000)) Xd fl)) hj4)
     have U5:¬(¬(-999<=x2/\x2<=999)):=ZV (Yg dq) Xd
     exact Z0 3 (ZJ (wk [0] (Zf false Xd fl)) hj4)
    exact ax 0 (ar (Zm (BK)))
   refine Z0 1 (ib (b:=(((decide (fr.at_<0))||(decide (fr.at_>=(x1.code.length:Int))))||((fr.regs.length:Int) != x1.regs))) 44 (fun Xw=>?_) (fun Xw=>?_))
   ·have Uy:((fr.at_<0)∨(fr.at_>=(x1.code.length:Int)))∨((fr.regs.length:Int)≠x1.regs):=((ZB (ZB dq dq) Yi)).1 Xw
    exact Z0 7 (ZJ (Zw 3 (Zf true Xw fl)) hj3)
   have Ub:¬(((fr.at_<0)∨(fr.at_>=(x1.code.length:Int)))∨((fr.regs.length:Int)≠x1.regs)):=ZV (ZB (ZB dq dq) Yi) Xw
   exact Zu 2 [1] (iw (Yc fr.own) (Zu 4 [0] (ZJ (Zw 3 (Zf ((fr.own.length:Int) != x1.regs) Xw fl)) hj3)))
  refine Z0 1 (ib (b:=((decide (fr.at_<0))||(decide (fr.at_>=(x1.code.length:Int))))) 36 (fun XT=>?_) (fun XT=>?_))
  ·have TM:(fr.at_<0)∨(fr.at_>=(x1.code.length:Int)):=((ZB dq dq)).1 XT
   exact Z0 7 (ZJ (Zw 3 (Zf true XT fl)) hj2)
  have Tm:¬((fr.at_<0)∨(fr.at_>=(x1.code.length:Int))):=ZV (ZB dq dq) XT
  exact Zu 2 [1] (iw (Yc fr.regs) (Zu 4 [0] (ZJ (Zw 3 (Zf ((fr.regs.length:Int) != x1.regs) XT fl)) hj2)))
 refine Zu 4 [1] (ib (b:=(decide (fr.at_<0))) 28 (fun XX=>?_) (fun XX=>?_))
 ·have UN:fr.at_<0:=(dq).1 XX
  exact Z0 7 (ZJ (Zw 3 (Zf true XX fl)) hj1)
 have QJ:¬(fr.at_<0):=ZV dq XX
 exact Zu 4 [1,0] (iw (QD x1.code) (Z0 2 (ZJ (Zw 3 (Zf (decide (fr.at_>=(x1.code.length:Int))) XX fl)) hj1)))
theorem Z8w (n:Nat) (fr:UU) (hh:List Tg) (ow:LI) (he:LI) (hf:fr=f0 n:=by exact ob) (hr:n<=2000:=by exact ob) (h0:hh.length=0:=by exact ob):Zo 98 [Bb fr,EC hh,Z3 ow,Z3 he] [] (Ym (.b true)):=by
 have e1:fr.proc=0:=by rw [hf];rfl
 have e2:fr.at_=0:=by rw [hf];rfl
 have e3:fr.regs.length=n:=by rw [hf];exact BM n
 have e4:fr.own.length=n:=by rw [hf];exact BM n
 have e5:fr.held.length=n:=by rw [hf];exact BM n
 have e6:fr.dst=0:=by rw [hf];rfl
 refine ZE 78 Tryz.func98 (ar (iA (Do fr) fun b1=>?_))
 refine Z1 (Yr 2 [0] (iw (Yc fr.own) (Z1 (ab 0 (Y5 (fun fz gz m F h=>∃(k:Nat),(k<=n)/\F=sF [1,2,3,4,15,16] fz [(17,.i k)]/\h=gz/\m=n-k) _ _ _ ⟨0,ob,rfl,rfl,rfl⟩ (wk [0] (Ye fl)) ?_)))))
 rintro m F h ⟨k,Yl,rfl,rfl,rfl⟩
 refine Y1 (aq (WZ ((k:Int)<(fr.own.length:Int)) (fun Z9=>?_) (fun Z9=>?_)))
 ·refine ak (aq (ab 1 (Ya 1 ?_)))
  obtain ⟨x1,Z4⟩:=Zv fr.own k om
  have hz1:=Hp (n:=n) (by rw [hf] at Z4;exact Z4)
  refine Zq (Zk none (k:Int) 1 (Y7 Z4)) (Z1 (Xa (Y0 (x1>0) (fun Zh=>?_) (fun Zh=>?_))))
  ·exfalso;omega
  refine ak (Zp 3 [0] ?_)
  obtain ⟨x2,Zy⟩:=Zv fr.held k om
  have hz2:=Hp (n:=n) (by rw [hf] at Zy;exact Zy)
  refine Zq (Zk none (k:Int) 1 (Y7 Zy)) (Yz (x2 != 0) Yi (fun ZC=>?_) (fun ZC=>?_))
  ·exfalso;omega
  exact ak (az (ZK k (Z1 (ZM ⟨k+1,ob,rfl,rfl,rfl⟩ (wk [0] (ZW k fl))))))
 exact ax 0 (ar (Zm (BK)))
theorem Z8v (im:YG) (p:ZZ) (n:Nat) (mo:Int) (s:Qw) (hs:s=Km mo n:=by exact ob) (hx:im.procs[0]? = some p:=by exact ob) (hn:(n:Int)=p.regs:=by exact ob) (hr:n<=2000:=by exact ob) (hc:1<=p.code.length/\p.code.length<=2000:=by exact ob) (hm:0<=mo/\mo<=40:=by exact ob):Zo 55 [V0 im,JH s] [] (Ym (.b true)):=by
 have e_status:s.status=3:=by rw [hs];rfl
 have e_value:s.value=0:=by rw [hs];rfl
 have e_calls:s.calls=0:=by rw [hs];rfl
 have e_most:s.most=mo:=by rw [hs];rfl
 have e_out:s.out.length=0:=by rw [hs];rfl
 have e_heap:s.heap.length=0:=by rw [hs];rfl
 have e_fl:s.frames.length=1:=by rw [hs];rfl
 have ef:s.frames=[f0 n]:=by rw [hs];rfl
 refine ZE 188 Tryz.func55 (ar (iA (V4 im) fun b1=>iA (AO s) fun b2=>Z1 (Xa (YK 8 [2,3] [(19,.b ((decide (s.status<0))||(decide (s.status>3))))] (fun gz=>gz) ?_ (fun hj1=>?_)))))
 ·refine YK 18 [2,3] [(29,.b (((decide (s.status<0))||(decide (s.status>3)))||((s.status==0) != ((s.frames.length:Int)==0))))] (fun gz=>gz) ?_ (fun hj2=>?_)
  ·refine YK 24 [2,3] [(35,.b ((((decide (s.status<0))||(decide (s.status>3)))||((s.status==0) != ((s.frames.length:Int)==0)))||(!(decide (-999<=s.value/\s.value<=999)))))] (fun gz=>gz) ?_ (fun hj3=>?_)
   ·refine Xn [2,3] [(45,.b (((((decide (s.status<0))||(decide (s.status>3)))||((s.status==0) != ((s.frames.length:Int)==0)))||(!(decide (-999<=s.value/\s.value<=999))))||((s.value != 0)&&(s.status != 0))))] (fun gz=>gz) ?_ ?_
    ·refine Z0 1 (ib (b:=((((decide (s.status<0))||(decide (s.status>3)))||((s.status==0) != ((s.frames.length:Int)==0)))||(!(decide (-999<=s.value/\s.value<=999))))) 36 (fun Za=>?_) (fun Za=>?_))
     ·have Y3:(((s.status<0)∨(s.status>3))∨((s.status==0)≠((s.frames.length:Int)==0)))∨(¬(-999<=s.value/\s.value<=999)):=((ZB (ZB (ZB dq dq) Yi) (Yg dq))).1 Za
      exact Z1 (wk [0,0] (Zf true Za fl))
     have Yq:¬((((s.status<0)∨(s.status>3))∨((s.status==0)≠((s.frames.length:Int)==0)))∨(¬(-999<=s.value/\s.value<=999))):=ZV (ZB (ZB (ZB dq dq) Yi) (Yg dq)) Za
     refine Zu 4 [0] (ib (b:=(s.value != 0)) 40 (fun ZA=>?_) (fun ZA=>?_))
     ·have YR:s.value≠0:=(Yi).1 ZA
      exact WI [0] (wk [0,0] (Zf (s.status != 0) (And.intro Za ZA) fl))
     have X1:¬(s.value≠0):=ZV Yi ZA
     exact Z1 (wk [0,0] (Zf false (And.intro Za ZA) fl))
    refine ac (((((decide (s.status<0))||(decide (s.status>3)))||((s.status==0) != ((s.frames.length:Int)==0)))||(!(decide (-999<=s.value/\s.value<=999))))||((s.value != 0)&&(s.status != 0))) (p:=((((s.status<0)∨(s.status>3))∨((s.status==0)≠((s.frames.length:Int)==0)))∨(¬(-999<=s.value/\s.value<=999)))∨((s.value≠0)/\(s.status≠0))) (ZB (ZB (ZB (ZB dq dq) Yi) (Yg dq)) (Y2 Yi Yi)) (fun Z9=>?_) (fun Z9=>?_)
    ·exfalso;rw [e_status,e_value,e_fl] at Z9;revert Z9;simp
    refine ak (Xa (YK 8 [2,3] [(53,.b ((decide (s.most<0))||(decide (s.most>40))))] (fun gz=>gz) ?_ (fun hj4=>?_)))
    ·refine YK 13 [2,3] [(58,.b (((decide (s.most<0))||(decide (s.most>40)))||(decide (s.calls<0))))] (fun gz=>gz) ?_ (fun hj5=>?_)
     ·refine YK 20 [2,3] [(65,.b ((((decide (s.most<0))||(decide (s.most>40)))||(decide (s.calls<0)))||(decide (s.calls>s.most))))] (fun gz=>gz) ?_ (fun hj6=>?_)
      ·refine Xn [2,3] [(74,.b (((((decide (s.most<0))||(decide (s.most>40)))||(decide (s.calls<0)))||(decide (s.calls>s.most)))||(decide ((s.frames.length:Int)>(s.calls+1)))))] (fun gz=>gz) ?_ ?_
       ·refine Z0 1 (ib (b:=((((decide (s.most<0))||(decide (s.most>40)))||(decide (s.calls<0)))||(decide (s.calls>s.most)))) 66 (fun Yf=>?_) (fun Yf=>?_))
        ·have Xe:(((s.most<0)∨(s.most>40))∨(s.calls<0))∨(s.calls>s.most):=((ZB (ZB (ZB dq dq) dq) dq)).1 Yf
         exact Z1 (wk [0,0] (Zf true Yf fl))
        have XO:¬((((s.most<0)∨(s.most>40))∨(s.calls<0))∨(s.calls>s.most)):=ZV (ZB (ZB (ZB dq dq) dq) dq) Yf
        exact Zu 2 [0] (iw (Cd s.frames) (Zu 2 [0] (ia ((s.calls+1)) ((s.calls)+(1)) (Z1 (wk [0,0] (Zf (decide ((s.frames.length:Int)>(s.calls+1))) Yf fl))))))
       refine ac (((((decide (s.most<0))||(decide (s.most>40)))||(decide (s.calls<0)))||(decide (s.calls>s.most)))||(decide ((s.frames.length:Int)>(s.calls+1)))) (p:=((((s.most<0)∨(s.most>40))∨(s.calls<0))∨(s.calls>s.most))∨((s.frames.length:Int)>(s.calls+1))) (ZB (ZB (ZB (ZB dq dq) dq) dq) dq) (fun Zh=>?_) (fun Zh=>?_)
       ·exfalso;omega
       refine ak (Zp 2 [0] (Zt [] (Z8h s.heap (h0:=e_heap)) (Z1 (Yr 5 [0] (Zt [] (Z2z s.out (h0:=e_out)) (Z1 (WW (ak (Zp 2 [0] (iw (Jc s.heap) (iM s.heap.length s.heap.length fun v1=>?_)))))))))))
       refine Z1 (Yr 2 [1] (iw (Cd s.frames) (Z1 (ab 0 (Y5 (fun fz gz m F h=>∃(k:Nat),(k<=1)/\F=sF [2,3,5,93,94] fz [(7,Z3 (List.replicate s.heap.length 0)),(95,.i k)]/\h=[Zi gz 1,Zi gz 2]/\m=1-k) _ _ _ ⟨0,ob,rfl,rfl,rfl⟩ (wk [1,1] (fc (x:=ZG (List.replicate s.heap.length 0) v1) (Zc.forget _ _) (Ye fl))) ?_)))))
       rintro m F h ⟨k,Yl,rfl,rfl,rfl⟩
       refine Y1 (aq (WZ ((k:Int)<(s.frames.length:Int)) (fun ZC=>?_) (fun ZC=>?_)))
       ·refine ak (aq (ab 1 (Ya 1 ?_)))
        obtain ⟨x1,Z4⟩:=Zv s.frames k om
        have hk0:k=0:=by omega
        have hf1:x1=f0 n:=by rw [ef,hk0] at Z4;exact (Ko Z4).symm
        have e_d:x1.dst=0:=by rw [hf1];rfl
        refine Zq (Zk none (k:Int) 6 (E9 Z4)) (Z0 1 (iA [.i 0,.i 0,.i 0,nl,nl,nl] fun b3=>Z0 1 (Zz 0 b3 (Do x1) (ie (Yr 2 [2,0] (Zt [] (Z8m im p n x1 (hf:=hf1)) (Z1 (WW (ak (aq (aD 43 (Zs 40 43 [0,1,2] (db (b:=((k:Int)==0)) 106 (fun YQ=>?_) (fun YQ=>?_))))))))))))))
        ·have W9:(k:Int)=0:=(Zb).1 YQ
         refine ZY 35 40 [3,4,5,6,7] [0] (db (b:=(x1.dst != 0)) 111 (fun Xd=>?_) (fun Xd=>?_))
         ·have WB:x1.dst≠0:=(Yi).1 Xd
          exfalso;omega
         have WY:¬(x1.dst≠0):=ZV Yi Xd
         refine Zs 32 35 [8,9,10] (db (b:=(decide ((k:Int)>0))) 114 (fun Xw=>?_) (fun Xw=>?_))
         ·have U5:(k:Int)>0:=(dq).1 Xw
          exfalso;omega
         have Uy:¬((k:Int)>0):=ZV dq Xw
         exact Zs 0 32 [11,12,13,14,15,16,17,18,19,20,21,22,23,24,25,26,27,28,29,30,31,32,33,34,35,36,37,38,39,40,41,42] (de (WW (ak (Zp 5 [0,1] (Zt [] (Z8w n x1 s.heap [] (List.replicate s.heap.length 0) (hf:=hf1) (h0:=e_heap)) (Z1 (WW (ak (az (ZK k (Z1 (ZM ⟨k+1,ob,rfl,rfl,rfl⟩ (wk [1,1] (fr (ZW k fl)))))))))))))))
        have Ub:¬((k:Int)=0):=ZV Zb YQ
        exfalso;omega
       refine ax 0 (Yr 2 [0] (iw (Jc s.heap) (Z1 (ab 2 (Y5 (fun fz gz m F h=>∃(k2:Nat),(k2=0)/\F=sF [5,7,156,157] fz [(158,.i k2)]/\h=[]/\m=0-k2) _ _ _ ⟨0,ob,rfl,rfl,rfl⟩ (wk [] (Ye fl)) ?_)))))
       rintro m F h ⟨k2,U8,rfl,rfl,rfl⟩
       refine Y1 (aq (WZ ((k2:Int)<(s.heap.length:Int)) (fun Yh=>?_) (fun Yh=>?_)))
       ·exfalso;omega
       exact ax 2 (ar (Zm (BK)))
      refine Z0 1 (ib (b:=(((decide (s.most<0))||(decide (s.most>40)))||(decide (s.calls<0)))) 59 (fun XT=>?_) (fun XT=>?_))
      ·have TM:((s.most<0)∨(s.most>40))∨(s.calls<0):=((ZB (ZB dq dq) dq)).1 XT
       exact Z0 6 (ZJ (wk [0,0] (Zf true XT fl)) hj6)
      have Tm:¬(((s.most<0)∨(s.most>40))∨(s.calls<0)):=ZV (ZB (ZB dq dq) dq) XT
      exact Zu 6 [0,0] (ZJ (wk [0,0] (Zf (decide (s.calls>s.most)) XT fl)) hj6)
     refine Z0 1 (ib (b:=((decide (s.most<0))||(decide (s.most>40)))) 54 (fun XX=>?_) (fun XX=>?_))
     ·have UN:(s.most<0)∨(s.most>40):=((ZB dq dq)).1 XX
      exact Z0 4 (ZJ (wk [0,0] (Zf true XX fl)) hj5)
     have QJ:¬((s.most<0)∨(s.most>40)):=ZV (ZB dq dq) XX
     exact Zu 4 [0] (ZJ (wk [0,0] (Zf (decide (s.calls<0)) XX fl)) hj5)
    refine Zu 4 [0] (ib (b:=(decide (s.most<0))) 49 (fun Wc=>?_) (fun Wc=>?_))
    ·have AL:s.most<0:=(dq).1 Wc
     exact Z0 4 (ZJ (wk [0,0] (Zf true Wc fl)) hj4)
    have Jl:¬(s.most<0):=ZV dq Wc
    exact Zu 4 [0] (ZJ (wk [0,0] (Zf (decide (s.most>40)) Wc fl)) hj4)
   refine Z0 1 (ib (b:=(((decide (s.status<0))||(decide (s.status>3)))||((s.status==0) != ((s.frames.length:Int)==0)))) 30 (fun WX=>?_) (fun WX=>?_))
   ·have Em:((s.status<0)∨(s.status>3))∨((s.status==0)≠((s.frames.length:Int)==0)):=((ZB (ZB dq dq) Yi)).1 WX
    exact Z0 5 (ZJ (wk [0,0] (Zf true WX fl)) hj3)
   have En:¬(((s.status<0)∨(s.status>3))∨((s.status==0)≠((s.frames.length:Int)==0))):=ZV (ZB (ZB dq dq) Yi) WX
   exact Zu 2 [0] (Zt [] (OK s.value) (Z0 2 (ZJ (wk [0,0] (Zf (!(decide (-999<=s.value/\s.value<=999))) WX fl)) hj3)))
  refine Z0 1 (ib (b:=((decide (s.status<0))||(decide (s.status>3)))) 20 (fun UL=>?_) (fun UL=>?_))
  ·have Di:(s.status<0)∨(s.status>3):=((ZB dq dq)).1 UL
   exact Z0 9 (ZJ (wk [0,0] (Zf true UL fl)) hj2)
  have IN:¬((s.status<0)∨(s.status>3)):=ZV (ZB dq dq) UL
  exact Zu 5 [0,0] (iw (Cd s.frames) (Z0 1 (Zq (OX (s.status==0) ((s.frames.length:Int)==0)) (Z0 1 (ZJ (wk [0,0] (Zf ((s.status==0) != ((s.frames.length:Int)==0)) UL fl)) hj2)))))
 refine Zu 4 [0] (ib (b:=(decide (s.status<0))) 15 (fun UM=>?_) (fun UM=>?_))
 ·have IP:s.status<0:=(dq).1 UM
  exact Z0 4 (ZJ (wk [0,0] (Zf true UM fl)) hj1)
 have IQ:¬(s.status<0):=ZV dq UM
 exact Zu 4 [0] (ZJ (wk [0,0] (Zf (decide (s.status>3)) UM fl)) hj1)
theorem Z8e (im:YG) (p:ZZ) (n:Nat) (mo:Int) (s:Qw) (lz:Nat) (hs:s=Km mo n:=by exact ob) (hx:im.procs[0]? = some p:=by exact ob) (hn:XJ im=true->(n:Int)=p.regs:=by exact ob) (hm:0<=mo/\mo<=40:=by exact ob) (hz:IZ im lz:=by exact ob) (hlz:lz<=100:=by exact ob):Zo 29 [V0 im,JH s] [] (Ym (.b (XJ im))):=by
 refine ZE 12 Tryz.func29 (ar (iA (V4 im) fun b1=>iA (AO s) fun b2=>Z1 (Zp 1 [1] (Zt [] (OH im lz (hz:=hz)) (YK 7 [] [(11,.b (XJ im))] (fun gz=>gz) ?_ (fun hj1=>?_))))))
 ·exact Zm (BK)
 refine Z0 1 (ib (b:=(XJ im)) 7 (fun Za=>?_) (fun Za=>?_))
 ·have Y3:(XJ im)=true:=(Iff.rfl).1 Za
  exact Zu 2 [1,0] (Zt [] (Z8v im p n mo s (hs:=hs) (hx:=hx) (hn:=(hn (by assumption))) (hr:=(by have h1:=hn (by assumption);have h2:=(Eu (by assumption) (Y4 hx)).1;omega)) (hc:=(Z8b (by assumption) (Y4 hx)).2) (hm:=hm)) (Z0 1 (ZJ (wk [0,0] (fc (x:=.b true) (lb Za.symm) fl)) hj1)))
 have Yq:¬((XJ im)=true):=ZV Iff.rfl Za
 exact Z0 4 (ZJ (wk [0,0] (fc (x:=.b false) (lb Za.symm) fl)) hj1)
theorem Z7k (rd:Nat) (bs:LI) (p:Nat) (ZL:∀z∈bs,0<=z/\z<=255) (hp:p+5<=1000000000:=by exact ob):Zo 50 [.p rd 0] [YC rd bs p] (fun r h=>∃(zm:Int) (p2:Nat),r=.i zm/\h=[YC rd bs p2]/\-1<=zm/\zm<=41/\p<=p2/\p2<=p+5):=by
 refine ZE 8 Tryz.func50 (Y1 (Ya 2 (ic [0] (XU rd bs p 12 (ZL:=ob)) ?_)))
 rintro _ _ ⟨k1,rfl,rfl,Y3⟩
 have hpkhp1:=Y3
 unfold Pk at hpkhp1
 refine iL (Z6 [40,40,k1,0,3,20,40,41,-1]) 9 1 fun v1=>ZU 0 [(6,Z3 [40,40,k1,0,3,20,40,41,-1])] (ic [1] (Uw rd bs (p+1) [40,40,k1,0,3,20,40,41,-1] (ZL:=ob)) ?_)
 rintro _ _ ⟨z1,rfl,rfl,Yq⟩
 have honhp2:=Yq
 simp only [YM,List.not_mem_nil,or_false] at honhp2
 exact Zm (r1 [0] ⟨z1,(p+1)+1,rfl,rfl,⟨by omega,by omega,by omega⟩⟩)
theorem Z5t (code:LI) (hcl:code.length<=1048576:=by exact ob) (hcb:∀z∈code,0<=z/\z<=255):Zo 25 [Uc code] [] (fun r h=>∃(y:YG) (mz:Int),r=.tup [V0 y,.i mz]/\h=[]/\IZ y 1/\(-1<=mz/\mz<=41)):=by
 refine ZE 13 Tryz.func25 (ar (iA [nl,nl] fun b1=>Z1 (Ya 1 (ic [] (Z77 code (hc:=hcb)) ?_))))
 rintro _ _ ⟨rd1,bs1,rfl,rfl,Y3⟩
 have hnr:=Y3
 refine Z1 (Ya 1 (ic [0] (Z5v rd1 bs1 0 (ZL:=hnr)) ?_))
 rintro _ _ ⟨y1,p21,rfl,rfl,Yq⟩
 have hai:=Yq.1
 refine iA [nl,nl] fun b2=>Zz 0 b2 (V4 y1) (ie (aD 5 (ZY 3 5 [0,1] [0] (Z8 2 (dc 2 [1] [0] [b2] (Z7k rd1 bs1 p21 (ZL:=hnr)) ?_)))))
 rintro _ _ ⟨zm1,p22,rfl,rfl,YR⟩
 have hsm:=YR.1
 exact Z8 3 (YT 3 2 [] [] b1 (V4 y1) (Zs 0 1 [4] (de (at_ (r3 [] [V0 y1,.i zm1] [0] [(b1,b1)] ⟨y1,zm1,rfl,rfl,⟨hai,by omega⟩⟩ (lr _))))))
theorem Z9n (code:LI) (hcb:∀z∈code,0<=z/\z<=255):Zo 8 [Uc code] [] (Ym (.b true)):=by
 refine ZE 97 Tryz.func8 (Y1 (YO 1 (iw (C9 code) (Y0 ((code.length:Int)>1048576) (fun Z9=>?_) (fun Z9=>?_)))))
 ·exact ar (Zm (BK))
 have hcl:code.length<=1048576:=by omega
 refine ak (Ya 1 (ic [] (Z5t code (hcl:=hcl) (hcb:=hcb)) ?_))
 rintro _ _ ⟨y1,mz1,rfl,rfl,Y3⟩
 have hdz:=Y3.1
 have hdm:=Y3.2
 have hdl:=hdz.len
 have Xx:=Zf1 y1 mz1
 obtain ⟨p0,IM⟩:=Zv y1.procs 0 om
 refine Z0 3 (iA [nl,nl] fun b1=>Zz 0 b1 (V4 y1) (Z1 (Zp 2 [0] (Zt [] (Z8d y1 mz1 1 (hz:=hdz) (hlz:=om)) (Z0 3 (iA [.i 0,.i 0,.i 0,.i 0,nl,nl,nl] fun b2=>Zz 0 b2 (AO ((YB y1 mz1).1)) (Z1 (Zp 2 [1] (Zt [] (Zdk y1 mz1 1 (hz:=hdz) (hlz:=om)) (Z0 3 (iA [.i 0,.i 0,.i 0,.i 0,nl,nl,nl] fun b3=>Zz 0 b3 (AO ((YB y1 mz1).1)) (Z1 (Yr 2 [1,0] (Zt [] (P8 ((YB y1 mz1).1) ((YB y1 mz1).1) (h1:=Xx) (h2:=Xx)) (YK 9 [3,4,5,6,7,8] [(37,.b ((!(decide (((YB y1 mz1).1)=((YB y1 mz1).1))))||(((YB y1 mz1).2) != ((YB y1 mz1).2))))] (fun gz=>gz) ?_ (fun hj1=>?_))))))))))))))))
 ·refine Xn [3,4,5,6,7,8] [(41,.b (((!(decide (((YB y1 mz1).1)=((YB y1 mz1).1))))||(((YB y1 mz1).2) != ((YB y1 mz1).2)))||(!(YB y1 mz1).2)))] (fun gz=>gz) ?_ ?_
  ·refine Z0 1 (ib (b:=((!(decide (((YB y1 mz1).1)=((YB y1 mz1).1))))||(((YB y1 mz1).2) != ((YB y1 mz1).2)))) 38 (fun Za=>?_) (fun Za=>?_))
   ·have Yq:(¬(((YB y1 mz1).1)=((YB y1 mz1).1)))∨(((YB y1 mz1).2)≠((YB y1 mz1).2)):=((ZB (Yg dq) Yi)).1 Za
    exact Z1 (Zw 3 (fc (x:=.b true) (lb (by rw [Za];rfl)) fl))
   have YR:¬((¬(((YB y1 mz1).1)=((YB y1 mz1).1)))∨(((YB y1 mz1).2)≠((YB y1 mz1).2))):=ZV (ZB (Yg dq) Yi) Za
   exact Z1 (Zw 3 (fc (x:=.b (!(YB y1 mz1).2)) (lb (by rw [Za];rfl)) fl))
  refine ac (((!(decide (((YB y1 mz1).1)=((YB y1 mz1).1))))||(((YB y1 mz1).2) != ((YB y1 mz1).2)))||(!(YB y1 mz1).2)) (p:=((¬(((YB y1 mz1).1)=((YB y1 mz1).1)))∨(((YB y1 mz1).2)≠((YB y1 mz1).2)))∨(¬((YB y1 mz1).2=true))) (ZB (ZB (Yg dq) Yi) (Yg Iff.rfl)) (fun Zh=>?_) (fun Zh=>?_)
  ·refine Zp 2 [1,0] (Zt [] (P8 ((YB y1 mz1).1) ((YB y1 mz1).1) (h1:=Xx) (h2:=Xx)) (YK 8 [] [(49,.b ((decide (((YB y1 mz1).1)=((YB y1 mz1).1)))&&(((YB y1 mz1).2)==((YB y1 mz1).2))))] (fun gz=>gz) ?_ (fun hj2=>?_)))
   ·exact Zm (ZP (.b ((decide (((YB y1 mz1).1)=((YB y1 mz1).1)))&&(((YB y1 mz1).2)==((YB y1 mz1).2)))) (lb (by first|rfl|(rw [s5];rfl)|(exfalso;omega)|(exfalso;exact UN ⟨⟨hV.1,s1⟩,by omega⟩)|(simp;done)|(simp_all;done))))
   refine Z0 1 (ib (b:=(decide (((YB y1 mz1).1)=((YB y1 mz1).1)))) 45 (fun ZA=>?_) (fun ZA=>?_))
   ·have X1:((YB y1 mz1).1)=((YB y1 mz1).1):=(dq).1 ZA
    exact Z0 2 (Zq (Z9b ((YB y1 mz1).2) ((YB y1 mz1).2)) (Z0 1 (ZJ (Zw 3 (fc (x:=.b (((YB y1 mz1).2)==((YB y1 mz1).2))) (lb (by rw [ZA];rfl)) fl)) hj2)))
   have Xe:¬(((YB y1 mz1).1)=((YB y1 mz1).1)):=ZV dq ZA
   exact Z0 4 (ZJ (Zw 3 (fc (x:=.b false) (lb (by rw [ZA];rfl)) fl)) hj2)
  have hV:=Zf0 (im:=y1) (mo:=mz1) (JB fun z=>Zh (.inr z))
  have hS:(YB y1 mz1).1=Km mz1 (Kf y1):=by rw [H7 hV]
  have s1:(YB y1 mz1).1.status=3:=by rw [hS];rfl
  have s2:(YB y1 mz1).1.frames.length=1:=by rw [hS];rfl
  have s3:(YB y1 mz1).1.heap.length=0:=by rw [hS];rfl
  have s4:(YB y1 mz1).1.most=mz1:=by rw [hS];rfl
  have s5:(YB y1 mz1).1.calls=0:=by rw [hS];rfl
  have sf:(YB y1 mz1).1.frames=[f0 (Kf y1)]:=by rw [hS];rfl
  refine ak (Zp 2 [2,1] (Zt [] (Z8e y1 p0 (Kf y1) mz1 ((YB y1 mz1).1) 1 (hs:=hS) (hx:=IM) (hn:=(fun _=>by rw [LE IM];have:=(Eu hV.1 (Y4 IM)).1;omega)) (hm:=hV.2) (hz:=hdz) (hlz:=om)) (YK 8 [4,5] [(57,.b ((XJ y1)&&((((YB y1 mz1).1).status)==3)))] (fun gz=>gz) ?_ (fun hj3=>?_))))
  ·refine YK 14 [4,5] [(63,.b (((XJ y1)&&((((YB y1 mz1).1).status)==3))&&((((((YB y1 mz1).1).frames).length:Nat):Int)==1)))] (fun gz=>gz) ?_ (fun hj4=>?_)
   ·refine Z0 1 (ib (b:=(((XJ y1)&&((((YB y1 mz1).1).status)==3))&&((((((YB y1 mz1).1).frames).length:Nat):Int)==1))) 64 (fun Yf=>?_) (fun Yf=>?_))
    ·have XO:(((XJ y1)=true)/\((((YB y1 mz1).1).status)=3))/\((((((YB y1 mz1).1).frames).length:Nat):Int)=1):=((Y2 (Y2 Iff.rfl Zb) Zb)).1 Yf
     refine Zu 2 [1] ?_
     obtain ⟨x1,Z4⟩:=Zv (((YB y1 mz1).1).frames) 0 om
     have hf1:x1=f0 (Kf y1):=by rw [sf] at Z4;exact (Ko Z4).symm
     have g1:x1.proc=0:=by rw [hf1];rfl
     have g2:x1.at_=0:=by rw [hf1];rfl
     refine Zq (Zk none 0 6 (E9 Z4)) (Z0 5 (ib (b:=(x1.proc==0)) 72 (fun YQ=>?_) (fun YQ=>?_)))
     ·have W9:x1.proc=0:=(Zb).1 YQ
      refine Zu 2 [1] (Zq (Zk none 0 6 (E9 Z4)) (Z0 5 (ib (b:=(x1.at_==0)) 80 (fun Xd=>?_) (fun Xd=>?_))))
      ·have WB:x1.at_=0:=(Zb).1 Xd
       refine Zu 2 [1] (io (.i (((((YB y1 mz1).1).heap).length:Nat):Int)) (.i (((Jb (((YB y1 mz1).1).heap)).length:Nat):Int)) (li (by rw [Jc])) (Z0 3 (ib (b:=((((((YB y1 mz1).1).heap).length:Nat):Int)==0)) 86 (fun Xw=>?_) (fun Xw=>?_))))
       ·have WY:(((((YB y1 mz1).1).heap).length:Nat):Int)=0:=(Zb).1 Xw
        refine Zu 6 [1] (ib (b:=((((YB y1 mz1).1).most)==mz1)) 92 (fun XT=>?_) (fun XT=>?_))
        ·have U5:(((YB y1 mz1).1).most)=mz1:=(Zb).1 XT
         exact WI [1] (at_ (ZP (.b ((((YB y1 mz1).1).calls)==0)) (lb (by first|rfl|(rw [s5];rfl)|(exfalso;omega)|(exfalso;exact UN ⟨⟨hV.1,s1⟩,by omega⟩)|(simp;done)|(simp_all;done)))))
        have Uy:¬((((YB y1 mz1).1).most)=mz1):=ZV Zb XT
        exact Zm (ZP (.b false) (lb (by first|rfl|(rw [s5];rfl)|(exfalso;omega)|(exfalso;exact UN ⟨⟨hV.1,s1⟩,by omega⟩)|(simp;done)|(simp_all;done))))
       have Ub:¬((((((YB y1 mz1).1).heap).length:Nat):Int)=0):=ZV Zb Xw
       exact Zm (ZP (.b false) (lb (by first|rfl|(rw [s5];rfl)|(exfalso;omega)|(exfalso;exact UN ⟨⟨hV.1,s1⟩,by omega⟩)|(simp;done)|(simp_all;done))))
      have TM:¬(x1.at_=0):=ZV Zb Xd
      exact Zm (ZP (.b false) (lb (by first|rfl|(rw [s5];rfl)|(exfalso;omega)|(exfalso;exact UN ⟨⟨hV.1,s1⟩,by omega⟩)|(simp;done)|(simp_all;done))))
     have Tm:¬(x1.proc=0):=ZV Zb YQ
     exact Zm (ZP (.b false) (lb (by first|rfl|(rw [s5];rfl)|(exfalso;omega)|(exfalso;exact UN ⟨⟨hV.1,s1⟩,by omega⟩)|(simp;done)|(simp_all;done))))
    have UN:¬((((XJ y1)=true)/\((((YB y1 mz1).1).status)=3))/\((((((YB y1 mz1).1).frames).length:Nat):Int)=1)):=ZV (Y2 (Y2 Iff.rfl Zb) Zb) Yf
    exact Zm (ZP (.b false) (lb (by first|rfl|(rw [s5];rfl)|(exfalso;omega)|(exfalso;exact UN ⟨⟨hV.1,s1⟩,by omega⟩)|(simp;done)|(simp_all;done))))
   refine Z0 1 (ib (b:=((XJ y1)&&((((YB y1 mz1).1).status)==3))) 58 (fun XX=>?_) (fun XX=>?_))
   ·have QJ:((XJ y1)=true)/\((((YB y1 mz1).1).status)=3):=((Y2 Iff.rfl Zb)).1 XX
    exact Zu 2 [1] (io (.i (((((YB y1 mz1).1).frames).length:Nat):Int)) (.i (((K5 (((YB y1 mz1).1).frames)).length:Nat):Int)) (li (by rw [Cd])) (Z0 2 (ZJ (Zw 3 (fc (x:=.b ((((((YB y1 mz1).1).frames).length:Nat):Int)==1)) (lb (by rw [XX];rfl)) fl)) hj4)))
   have AL:¬(((XJ y1)=true)/\((((YB y1 mz1).1).status)=3)):=ZV (Y2 Iff.rfl Zb) XX
   exact Z0 5 (ZJ (Zw 3 (fc (x:=.b false) (lb (by rw [XX];rfl)) fl)) hj4)
  refine Z0 1 (ib (b:=(XJ y1)) 53 (fun Wc=>?_) (fun Wc=>?_))
  ·have Jl:(XJ y1)=true:=(Iff.rfl).1 Wc
   exact Zu 4 [1] (ZJ (Zw 3 (fc (x:=.b ((((YB y1 mz1).1).status)==3)) (lb (by rw [Wc];rfl)) fl)) hj3)
  have Em:¬((XJ y1)=true):=ZV Iff.rfl Wc
  exact Z0 4 (ZJ (Zw 3 (fc (x:=.b false) (lb (by rw [Wc];rfl)) fl)) hj3)
 refine Z0 2 (ib (b:=(!(decide (((YB y1 mz1).1)=((YB y1 mz1).1))))) 33 (fun WX=>?_) (fun WX=>?_))
 ·have En:¬(((YB y1 mz1).1)=((YB y1 mz1).1)):=((Yg dq)).1 WX
  exact Z0 4 (ZJ (Zw 3 (fc (x:=.b true) (lb (by rw [WX];rfl)) fl)) hj1)
 have Di:¬(¬(((YB y1 mz1).1)=((YB y1 mz1).1))):=ZV (Yg dq) WX
 exact Z0 2 (Zq (OX ((YB y1 mz1).2) ((YB y1 mz1).2)) (Z0 1 (ZJ (Zw 3 (fc (x:=.b (((YB y1 mz1).2) != ((YB y1 mz1).2))) (lb (by rw [WX];rfl)) fl)) hj1)))
end Go.Abs
