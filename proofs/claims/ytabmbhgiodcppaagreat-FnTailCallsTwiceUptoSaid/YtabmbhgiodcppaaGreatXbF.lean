/-
  A part of the proofs of several laws (see the last file): no condition.
-/
import Derived.Test.YtabmbhgiodcppaaGreatXbE
set_option linter.all false
set_option linter.unusedVariables false
set_option linter.unusedSimpArgs false
set_option linter.unusedSectionVars false
set_option maxRecDepth 10000
set_option maxHeartbeats 4000000
namespace Go.Abs
open Go.Proofs
theorem Za4 (cs:List Instr) (k:Nat) (reg:Int) (g:Nat) (nq:Nat) (c:Nat) (hB:BB cs:=by exact ob) (hn:cs.length=nq:=by exact ob) (hk:k<nq:=by exact ob) (hl:nq<=200000000:=by exact ob):Zp 40 [.ms g 0 nq c,.i k,.i reg] [.row (.slice (some ⟨g,0,none⟩) nq c) 6 (Z9 (ZC cs))] (fun r h=>r=.b (WZ cs k reg)/\h=[.row (.slice (some ⟨g,0,none⟩) nq c) 6 (Z9 (ZC cs))]):=by
 refine ZG 45 Tryz.func40 (Y3 (ab 0 (Y6 (fun fz gz m F h=>∃(j:Nat) (rg:Int),(j<nq)/\(WZ cs j rg=WZ cs k reg)/\F=sF [0] fz [(1,.i j),(2,.i rg)]/\h=gz/\m=nq-j) _ _ _ ⟨k,reg,ob,rfl,rfl,rfl,rfl⟩ (wk [0] fl) ?_)))
 rintro m F h ⟨j,rg,Yk,Zh,rfl,rfl,rfl⟩
 obtain ⟨xi,hxi⟩:=Zu cs j om
 refine ab 1 (Yj 2 (Zq (XJ g nq c j 6 (j:Int)) (VD (WM 0 g nq c 6 (j*6) (Z9 (ZC cs)) (Ww xi) 35 (UI xi) (DD hxi)) (iA [.i 0,.i 0,.i 0,.i 0,nl,nl] fun b1=>Zy 0 b1 (Ww xi) (ie (ab 2 (Qg [0] (ac (xi.op==22) Zf (fun Za=>?_) (fun Za=>?_)))))))))
 ·exact az (V0 [0] (⟨_,_,_,(by have:=hB.j _ _ hxi (by assumption);omega),⟨xi.num.toNat,rg,(by have:=hB.j _ _ hxi (by assumption);omega),((Mv hB.fwd hxi (by assumption)).trans Zh),rfl,rfl,rfl⟩,(wk [1] (fc (x:=.i xi.num) (li (by have:=hB.j _ _ hxi (by assumption);omega)) fl))⟩))
 refine Zs 4 [0] (ib (b:=(xi.op==18)) 33 (fun Zc=>?_) (fun Zc=>?_))
 ·have Y9:xi.op=18:=(Zf).1 Zc
  refine ZA 2 [0] ?_
  obtain ⟨x1,Z3⟩:=Zu xi.args 0 (by first|exact Jm.2 (hB.a _ _ hxi (.inl om))|exact Jm.2 (hB.a _ _ hxi (.inr om)))
  have hg:=QB Z3
  refine Zq (Zi none 0 1 (Yb Z3)) (YD (x1==rg) Zf (fun Zj=>?_) (fun Zj=>?_))
  ·exact Qg [0] (az (Z0 1 (ZE j (Z2 (ZH ⟨j+1,xi.dst,(by have:=hB.l _ _ hxi om;omega),((SA hB.fwd hxi ⟨by omega,by rw [hg];omega⟩).trans Zh),rfl,rfl,rfl⟩ (wk [1] (ZJ j fl)))))))
  refine ar (X2 11 [] [(22,.b ((xi.op==23)&&(x1==rg)))] (fun gz=>gz) ?_ (fun hj1=>?_))
  ·exact Zm (r2 [1] [.b ((xi.op==23)&&(x1==rg))] ⟨rfl,rfl⟩ (lb (by first|(rw [<-Zh,<-Ki hxi (fun z=>by simp_all) (by assumption)];simp_all;done)|(rw [<-Zh,<-Ki hxi (fun z=>by simp_all) (by assumption)];simp_all;rw [Yc];simp))))
  refine ZA 4 [0] (ib (b:=(xi.op==23)) 15 (fun ZD=>?_) (fun ZD=>?_))
  ·have Yt:xi.op=23:=(Zf).1 ZD
   exact ZA 2 [0] (Zq (Zi none 0 1 (Yb Z3)) (Z0 4 (Y1 (wk [0,0] (Zl (x1==rg) ZD fl)) hj1)))
  have YS:¬(xi.op=23):=Y4 Zf ZD
  exact Z0 7 (Y1 (wk [0,0] (Zl false ZD fl)) hj1)
 have YX:¬(xi.op=18):=Y4 Zf Zc
 refine Z2 (Vb (Zs 4 [0] (ib (b:=(xi.op==23)) 15 (fun Yf=>?_) (fun Yf=>?_))))
 ·have Xe:xi.op=23:=(Zf).1 Yf
  refine ZA 2 [0] ?_
  obtain ⟨x2,Zw⟩:=Zu xi.args 0 (by first|exact Jm.2 (hB.a _ _ hxi (.inl om))|exact Jm.2 (hB.a _ _ hxi (.inr om)))
  have hg:=QB Zw
  exact Zq (Zi none 0 1 (Yb Zw)) (Zm (r2 [1] [.b (x2==rg)] ⟨rfl,rfl⟩ (lb (by first|(rw [<-Zh,<-Ki hxi (fun z=>by simp_all) (by assumption)];simp_all;done)|(rw [<-Zh,<-Ki hxi (fun z=>by simp_all) (by assumption)];simp_all;rw [Yc];simp)))))
 have XP:¬(xi.op=23):=Y4 Zf Yf
 exact Zm (r2 [1] [.b false] ⟨rfl,rfl⟩ (lb (by first|(rw [<-Zh,<-Ki hxi (fun z=>by simp_all) (by assumption)];simp_all;done)|(rw [<-Zh,<-Ki hxi (fun z=>by simp_all) (by assumption)];simp_all;rw [Yc];simp))))
theorem LN (im:Yv) (lz:Nat) (hz:IZ im lz:=by exact ob) (hlz:lz<=100:=by exact ob):Zp 15 [V5 im] [] (Yz (.tup [V5 ((ZT im).1),.b ((ZT im).2)])):=by
 have hil:=hz.len
 refine ZG 55 Tryz.func15 (ar (iA (WA im) fun b1=>iA [nl,nl] fun b2=>Z2 (Yp 1 [1] (Zv [] (PA im lz (hz:=hz)) (YD (!(Wc im)) (p:=¬((Wc im)=true)) (Yd Iff.rfl) (fun Za=>?_) (fun Za=>?_))))))
 ·refine Yj 1 (Zy 0 b2 [nl,nl] (Z2 ?_))
  have hE:=HZ Za
  exact ZQ (r3 [] [.agg [nl,nl],.b false] [0] [(b2,b2)] ⟨rfl,rfl⟩ (Ze.tup (.cons (Ze.agg (.cons (Ze.sl _ (by rw [hE];rfl)) (.cons (Ze.sl _ (by rw [hE];rfl)) .nil))) (.cons (lb (by rw [hE])) .nil))))
 have hV:Wc im=true:=VX.1 Za
 obtain ⟨Xn,hl4,_⟩:=MI hV
 refine ak (Zs 1 [1] (ic [] (Za5 im lz (hz:=hz) (hd:=Xn) (hc:=(fun p hp=>(Py hV hp).1))) ?_))
 rintro _ _ ⟨v1,U1,rfl,rfl⟩
 refine CT 0 im.procs.length (v:=v1) (KH (Xd U1) im.procs 0) om (fun g1 c1 he1=>?_)
 subst he1
 refine iA [nl,nl] fun b3=>?_
 refine Zy 0 b3 [Y5 im.decls,.ms g1 0 im.procs.length c1] (ie (Yp 2 [0] (io (.i im.procs.length) (.i im.procs.length) (lr _) (Z2 (ab 0 (Y6 (fun fz gz m F h=>∃(k:Nat),(k<=im.procs.length)/\F=sF [2,4,16,17] fz [(18,.i k)]/\h=[Zg gz 0,Zg gz 6,.row (.slice (some ⟨g1,0,none⟩) im.procs.length c1) 5 (pD (Xd U1) (VF im.procs k) 0),rK (U1 0) 6 (Z9 (ZC (cL (VF im.procs k) 0))),rK (U1 1) 6 (Z9 (ZC (cL (VF im.procs k) 1))),rK (U1 2) 6 (Z9 (ZC (cL (VF im.procs k) 2))),rK (U1 3) 6 (Z9 (ZC (cL (VF im.procs k) 3)))]/\m=im.procs.length-k) _ _ _ ⟨0,ob,rfl,rfl,rfl⟩ (wk [0,5,0,0,0,0,0] (Ye fl) (e:=(rc (rc (rr (ls:=pD (Xd U1) im.procs 0) (by rw [FG]) (rr (ls:=Z9 (ZC (cL im.procs 0))) (by rw [FG]) (rr (ls:=Z9 (ZC (cL im.procs 1))) (by rw [FG]) (rr (ls:=Z9 (ZC (cL im.procs 2))) (by rw [FG]) (rr (ls:=Z9 (ZC (cL im.procs 3))) (by rw [FG]) rz))))))))) ?_))))))
 rintro m F h ⟨k,Yk,rfl,rfl,rfl⟩
 refine Y3 (aq (Vh ((k:Int)<(im.procs.length:Int)) (fun Zj=>?_) (fun Zj=>?_)))
 ·refine ak (aq (ab 1 (ar ?_)))
  obtain ⟨xp,hxq⟩:=Zu im.procs k om
  have hxp:=Zha hxq
  have hpm:=Y7 hxq
  have hbb:=Px hV hpm
  have hpl:=Py hV hpm
  obtain ⟨uf1,huf1⟩:∃u:Hd,u=U1 k:=⟨_,rfl⟩
  refine Xb (MV 3 3 3 3 U1 (VF im.procs k) k uf1 xp.code om huf1 (By hxp)) (CT 0 xp.code.length (v:=uf1) (Ul _) om (fun g2 c2 he2=>?_))
  subst he2
  refine Xb (FI [0,3,3,3,0,0,0] (h':=[.row (.slice (some ⟨g2,0,none⟩) xp.code.length c2) 6 (Z9 (ZC xp.code)),.obj b3 [Y5 im.decls,.ms g1 0 im.procs.length c1],.obj b2 [nl,nl],.row (.slice (some ⟨g1,0,none⟩) im.procs.length c1) 5 (pD (Xd U1) (VF im.procs k) 0),rK (U1 ((k+1) % 4)) 6 (Z9 (ZC (cL (VF im.procs k) ((k+1) % 4)))),rK (U1 ((k+2) % 4)) 6 (Z9 (ZC (cL (VF im.procs k) ((k+2) % 4)))),rK (U1 ((k+3) % 4)) 6 (Z9 (ZC (cL (VF im.procs k) ((k+3) % 4))))]) (d:=[]) kr) (Zq (XJ g1 im.procs.length c1 k 5 (k:Int)) (VD (WM 3 g1 im.procs.length c1 5 (k*5) (pD (Xd U1) (VF im.procs k) 0) [Z4 xp.params,Z4 xp.lent,.i xp.result,.i xp.regs,.ms g2 0 xp.code.length c2] 32 (.agg [Z4 xp.params,Z4 xp.lent,.i xp.result,.i xp.regs,.ms g2 0 xp.code.length c2]) (by have h:=Ml (D:=Xd U1) hxp;rw [show Am (Xd U1 k) xp=BM xp (U1 k).v from rfl,<-huf1] at h;exact h)) (iA [nl,nl,.i 0,.i 0,nl] fun b4=>?_)))
  refine Zy 0 b4 [Z4 xp.params,Z4 xp.lent,.i xp.result,.i xp.regs,.ms g2 0 xp.code.length c2] (ie (Zs 2 [0] (io (.i xp.code.length) (.i xp.code.length) (lr _) (Z2 (ab 2 (Y6 (fun fz gz m F h=>∃(j:Nat) (cs:List Instr),(j<=xp.code.length)/\(cs=TO xp.code j)/\F=sF [2,4,6,16,17,18,23,24] fz [(25,.i j)]/\h=[Zg gz 0,Zg gz 2,Zg gz 3,.row (.slice (some ⟨g2,0,none⟩) xp.code.length c2) 6 (Z9 (ZC cs)),Zg gz 4,Zg gz 5,Zg gz 6,Zg gz 7]/\m=xp.code.length-j) _ _ _ ⟨0,xp.code,ob,(Zh9 _).symm,rfl,rfl,rfl⟩ (wk [0,1,1,0,0,0,0,0] (Ye fl)) ?_))))))
  rintro m F h ⟨j,cs,Vr,Xs,rfl,rfl,rfl⟩
  refine Y3 (aq (Vh ((j:Int)<(xp.code.length:Int)) (fun Zz=>?_) (fun Zz=>?_)))
  ·obtain ⟨xi,hxi⟩:=Zu xp.code j om
   have hxc:cs[j]? = some xi:=by rw [Xs];exact Z1h hxi
   have hcl:cs.length=xp.code.length:=by rw [Xs,El]
   refine ak (aq (ab 3 (Yj 1 (Zq (XJ g2 xp.code.length c2 j 6 (j:Int)) (VD (WM 3 g2 xp.code.length c2 6 (j*6) (Z9 (ZC cs)) (Ww xi) 35 (UI xi) (DD hxc)) (iA [.i 0,.i 0,.i 0,.i 0,nl,nl] fun b5=>Z0 1 (Zy 0 b5 (Ww xi) (ie (ar (Xu [2,4,6,7,16,17,18,23,24,25] [(41,.b ((xi.op==9)&&(WZ cs (j+1) xi.dst)))] (fun gz=>[Zg gz 4,Zg gz 0,Zg gz 1,Zg gz 2,Zg gz 3,Zg gz 5,Zg gz 6,Zg gz 7,Zg gz 8]) ?_ ?_))))))))))
   ·refine ZA 4 [0] (ib (b:=(xi.op==9)) 33 (fun Zc=>?_) (fun Zc=>?_))
    ·have Y9:xi.op=9:=(Zf).1 Zc
     exact ZA 3 [1] (ZE j (ZA 2 [0] (Zv [4] (Za4 cs (j+1) xi.dst g2 xp.code.length c2 (hB:=(by rw [Xs];exact hbb.tj j)) (hk:=(hbb.l j xi hxi ⟨by omega,by omega⟩))) (Z2 (Zt 9 (Zl (WZ cs (j+1) xi.dst) Zc fl))))))
    have Yt:¬(xi.op=9):=Y4 Zf Zc
    exact Z2 (wk [4,0,0,0,0,0,0,0,0] (Zl false Zc fl))
   refine ac ((xi.op==9)&&(WZ cs (j+1) xi.dst)) (p:=(xi.op=9)/\((WZ cs (j+1) xi.dst)=true)) (Ys Zf Iff.rfl) (fun Yg=>?_) (fun Yg=>?_)
   ·refine aE 12 (ZZ 6 12 [0,1,2,3,4,5] [2,2] (dx 6 (XJ g2 xp.code.length c2 j 6 (j:Int)) (Zo 4 5 [7] (Z7 8 (Qy 8 0 [1] [b4] g2 xp.code.length c2 6 (j*6) [.i 24] (Z9 (ZC cs)) (Z9 (ZC (cs.set j (Instr.mk 24 xi.dst xi.num xi.into xi.args xi.jumps)))) (by rw [Ul];simp only [YA,X6,VG];omega) (Z7b 24 hxc) (dx 9 (XJ g2 xp.code.length c2 j 6 (j:Int)) (Zo 1 2 [10] (Z7 11 (Qy 11 0 [] [] g2 xp.code.length c2 6 (j*6+1) [.i 0] (Z9 (ZC (cs.set j (Instr.mk 24 xi.dst xi.num xi.into xi.args xi.jumps)))) (Z9 (ZC ((cs.set j (Instr.mk 24 xi.dst xi.num xi.into xi.args xi.jumps)).set j (Instr.mk 24 0 xi.num xi.into xi.args xi.jumps)))) (by rw [Ul];simp only [YA,X6,VG];omega) (Z79 0 (List.getElem?_set_self om)) ?_)))))))))
    exact de (az (ZE j (Z2 (ZH ⟨j+1,((cs.set j (Instr.mk 24 xi.dst xi.num xi.into xi.args xi.jumps)).set j (Instr.mk 24 0 xi.num xi.into xi.args xi.jumps)),ob,(by rw [Z1i hxi,<-Xs,List.set_set,V8,Zk ⟨Yg.1,by rw [<-SB _ j,<-Xs];exact Yg.2⟩,Z9z hV hpm hxi Yg.1]),rfl,rfl,rfl⟩ (wk [2,2,2,0,1,1,1,1] (ZJ j fl))))))
   exact ak (az (ZE j (Z2 (ZH ⟨j+1,cs,ob,(by rw [Zh8 hxi (by rw [V8,Zb (fun z=>Yg ⟨z.1,by rw [Xs,SB];exact z.2⟩)])];exact Xs),rfl,rfl,rfl⟩ (wk [2,2,2,0,1,1,1,1] (ZJ j fl))))))
  have hcs:cs=Vg xp.code:=by rw [Xs,Zh7 om]
  exact Jp (D9 3 4 4 4 U1 (VF im.procs k) (VF im.procs (k+1)) k (⟨some ⟨g2,0,none⟩,xp.code.length,c2⟩:Hd) cs om huf1 (by rw [MX hxq,Dl hxp,hcs];rfl) (fun i hi=>by rw [MX hxq];exact Dk hi)) (ax 2 (az (ZE k (Z2 (ZH ⟨k+1,ob,rfl,rfl,rfl⟩ (wk [5,5,5,0,0,0,0] (ZJ k fl) (e:=(rc (rc (rr (ls:=pD (Xd U1) (VF im.procs k) 0) (by first|rfl|(rw [MX hxq];exact (Mi hxp).symm)) (rc (rc (rc (rc rz))))))))))))))
 refine ax 0 (ar (Xb (C4 2 2 2 2 2 U1 (VF im.procs k) (.slice (some ⟨g1,0,none⟩) im.procs.length c1) (by rw [Zhc];omega)) (Xb (Uy 0 0 1 (.slice (some ⟨g1,0,none⟩) im.procs.length c1) 5 b3 (We (VF im.procs k)) [Y5 im.decls,.ms g1 0 im.procs.length c1] (J0 _) rfl) (ZA 1 [0] (Zy 2 b2 [Y5 im.decls,Uf (VF im.procs k) (.slice (some ⟨g1,0,none⟩) im.procs.length c1)] (Z2 ?_))))))
 have hE:=Av hV
 exact ZQ (r3 [] [.agg [Y5 im.decls,Uf (VF im.procs k) (.slice (some ⟨g1,0,none⟩) im.procs.length c1)],.b true] [0] [(b2,b2)] ⟨rfl,rfl⟩ (Ze.tup (.cons (Ze.agg (.cons (Ze.sl _ (Yq Yy (by rw [hE];rfl))) (.cons (Ze.sl _ (Yq We (by rw [hE];exact Zhb om))) .nil))) (.cons (lb (by rw [hE])) .nil))))
theorem Z0a (im:Yv) (lz:Nat) (hz:IZ im lz:=by exact ob) (hlz:lz<=100:=by exact ob):Zp 16 [V5 im] [] (Yz (.tup [V5 ((ZT im).1),.b ((ZT im).2)])):=by
 refine ZG 10 Tryz.func16 (ar (iA (WA im) fun b1=>iA [nl,nl] fun b2=>Z2 (Yp 1 [1] (Zv [] (Zgb im lz (hz:=hz)) (YD (!(Wc im)) (p:=¬((Wc im)=true)) (Yd Iff.rfl) (fun Za=>?_) (fun Za=>?_))))))
 ·refine Yj 1 (Zy 0 b2 [nl,nl] (Z2 ?_))
  have hE:=HZ Za
  exact ZQ (r3 [] [.agg [nl,nl],.b false] [0] [(b2,b2)] ⟨rfl,rfl⟩ (Ze.tup (.cons (Ze.agg (.cons (Ze.sl _ (by rw [hE];rfl)) (.cons (Ze.sl _ (by rw [hE];rfl)) .nil))) (.cons (lb (by rw [hE])) .nil))))
 have hV:Wc im=true:=VX.1 Za
 obtain ⟨Xn,hl4,_⟩:=MI hV
 refine ak (Zs 1 [1] (Zv [] (Z0r im (hg:=(H1 hV hz hlz))) (Zy 0 b2 (WA (VV im)) (Z2 ?_))))
 have hE:=Av hV
 exact ZQ (r3 [] [V5 (VV im),.b true] [0] [(b2,b2)] ⟨rfl,rfl⟩ (Ze.tup (.cons (Ze.agg (.cons (Ze.sl _ (Yq Yy (by rw [hE]))) (.cons (Ze.sl _ (Yq We (by rw [hE]))) .nil))) (.cons (lb (by rw [hE])) .nil))))
theorem F6 (xs:LI) (ys:LI) (hxl:xs.length<=1000000000:=by exact ob) (hyl:ys.length<=1000000000:=by exact ob):Zp 21 [Z4 xs,Z4 ys] [] (Yz (.b (decide (xs=ys)))):=by
 refine ZG 26 Tryz.func21 (Y3 (YP 1 (iw (Yi xs) (Z0 1 (iw (Yi ys) (YD ((xs.length:Int) != (ys.length:Int)) Ym (fun Za=>?_) (fun Za=>?_)))))))
 ·exact ar (Zm (ZW (.b false) (lb (decide_eq_false (fun z=>Za (by rw [z]))).symm)))
 refine ak (Y8 (ab 0 (Y6 (fun fz gz m F h=>∃(k:Nat),(k<=xs.length)/\(∀i,i<k->xs[i]? = ys[i]?)/\F=sF [0,1] fz [(5,.i k)]/\h=gz/\m=xs.length-k) _ _ _ ⟨0,ob,(fun i h=>absurd h om),rfl,rfl,rfl⟩ (wk [] (Ye fl)) ?_)))
 rintro m F h ⟨k,Yk,Zh,rfl,rfl,rfl⟩
 refine YP 2 (iw (Yi xs) (Y2 ((k:Int)<(xs.length:Int)) (fun Zj=>?_) (fun Zj=>?_)))
 ·refine ak (aq (ab 1 (aD 9 (Zo 7 9 [0,1] ?_))))
  obtain ⟨x1,Z3⟩:=Zu xs k om
  refine dx 2 (Zi none (k:Int) 1 (Yb Z3)) (Zo 3 6 [3,4,5] ?_)
  obtain ⟨x2,Zw⟩:=Zu ys k om
  refine dx 6 (Zi none (k:Int) 1 (Yb Zw)) (Zo 0 2 [7,8] (de (ac (x1 != x2) Ym (fun Zz=>?_) (fun Zz=>?_))))
  ·exact ar (Zm (ZW (.b false) (lb (decide_eq_false (fun z=>Zz (by rw [z,Zw] at Z3;cases Z3;rfl))).symm)))
  exact ak (az (Z0 1 (ZE k (Z2 (ZH ⟨k+1,ob,(fun i h=>(Nat.lt_succ_iff_lt_or_eq.1 h).elim (Zh i) (fun z=>by rw [z,Z3,Zw,VX.1 Zz])),rfl,rfl,rfl⟩ (wk [] (ZJ k fl)))))))
 exact ax 0 (ar (Zm (ZW (.b true) (lb (decide_eq_true (Z5u om (fun i hi=>Zh i om))).symm))))
theorem Zb7 (ds:List Zd) (es:List Zd) (hd:TR ds:=by exact ob) (he:TR es:=by exact ob):Zp 42 [Y5 ds,Y5 es] [] (Yz (.b (decide (ds=es)))):=by
 have hdl:=hd.len
 have hel:=he.len
 refine ZG 87 Tryz.func42 (Y3 (YP 1 (iw (Ui ds) (Z0 1 (iw (Ui es) (YD ((ds.length:Int) != (es.length:Int)) Ym (fun Za=>?_) (fun Za=>?_)))))))
 ·exact ar (Zm (ZW (.b false) (lb (decide_eq_false (fun z=>Za (by rw [z]))).symm)))
 refine ak (Y8 (ab 0 (Y6 (fun fz gz m F h=>∃(k:Nat),(k<=ds.length)/\(∀i,i<k->ds[i]? = es[i]?)/\F=sF [0,1] fz [(5,.i k)]/\h=gz/\m=ds.length-k) _ _ _ ⟨0,ob,I4,rfl,rfl,rfl⟩ (wk [] (Ye fl)) ?_)))
 rintro m F h ⟨k,Yk,Zh,rfl,rfl,rfl⟩
 refine YP 2 (iw (Ui ds) (Y2 ((k:Int)<(ds.length:Int)) (fun Zj=>?_) (fun Zj=>?_)))
 ·refine ak (aq (ab 1 (aq (aD 39 (Zo 37 39 [0,1] ?_)))))
  obtain ⟨x1,Z3⟩:=Zu ds k om
  have hcl:=hd.cons_at Z3
  refine dx 2 (Zi none (k:Int) 3 (WE Z3)) (Zo 32 36 [3,4,5,6] ?_)
  obtain ⟨x2,Zw⟩:=Zu es k om
  refine dx 7 (Zi none (k:Int) 3 (WE Zw)) (AN [0,1,5] [(56,.b ((x1.frm != x2.frm)||((x1.to_ != x2.to_)||((x1.cons.length:Int) != (x2.cons.length:Int)))))] (fun gz=>gz) ?_ ?_)
  ·refine Zo 27 31 [8,9,10,11] (db (b:=(x1.frm != x2.frm)) 29 (fun Zc=>?_) (fun Zc=>?_))
   ·have Y9:x1.frm≠x2.frm:=(Ym).1 Zc
    exact Zo 0 27 [12,13,14,15,16,17,18,19,20,21,22,23,24,25,26,27,28,29,30,31,32,33,34,35,36,37,38] (de (wk [] (Zl true Zc fl)))
   have Yt:¬(x1.frm≠x2.frm):=Y4 Ym Zc
   refine Zo 25 27 [12,13] (dx 14 (Zi none (k:Int) 3 (WE Z3)) (Zo 20 24 [15,16,17,18] (dx 19 (Zi none (k:Int) 3 (WE Zw)) (Zo 14 19 [20,21,22,23,24] (db (b:=(x1.to_ != x2.to_)) 42 (fun ZD=>?_) (fun ZD=>?_))))))
   ·have YS:x1.to_≠x2.to_:=(Ym).1 ZD
    exact Zo 0 14 [25,26,27,28,29,30,31,32,33,34,35,36,37,38] (de (wk [] (Zl true (And.intro Zc ZD) fl)))
   have YX:¬(x1.to_≠x2.to_):=Y4 Ym ZD
   exact Zo 12 14 [25,26] (dx 27 (Zi none (k:Int) 3 (WE Z3)) (Zo 9 11 [28,29] (dw 30 (Uu x1.cons) (Zo 6 8 [31,32] (dx 33 (Zi none (k:Int) 3 (WE Zw)) (Zo 3 5 [34,35] (dw 36 (Uu x2.cons) (Zo 0 2 [37,38] (de (wk [] (Zl ((x1.cons.length:Int) != (x2.cons.length:Int)) (And.intro Zc ZD) fl)))))))))))
  refine ac ((x1.frm != x2.frm)||((x1.to_ != x2.to_)||((x1.cons.length:Int) != (x2.cons.length:Int)))) (p:=(x1.frm≠x2.frm)∨((x1.to_≠x2.to_)∨((x1.cons.length:Int)≠(x2.cons.length:Int)))) (ZO Ym (ZO Ym Ym)) (fun Zz=>?_) (fun Zz=>?_)
  ·exact ar (Zm (ZW (.b false) (lb (decide_eq_false (Dj Z3 Zw (fun z=>by rw [z] at Zz;simp at Zz))).symm)))
  simp only [not_or,ne_eq,VX,decide_eq_true_eq] at Zz
  obtain ⟨hq1,hq2,hq3⟩:=Zz
  refine ak (Y3 (ab 2 (Y6 (fun fz gz m F h=>∃(j:Nat),(j<=x1.cons.length)/\(∀i,i<j->x1.cons[i]? = x2.cons[i]?)/\F=sF [0,1,5] fz [(6,.i j)]/\h=gz/\m=x1.cons.length-j) _ _ _ ⟨0,ob,I4,rfl,rfl,rfl⟩ (wk [] (Ye fl)) ?_)))
  rintro m F h ⟨j,Vr,Xs,rfl,rfl,rfl⟩
  refine YP 3 (Zq (Zi none (k:Int) 3 (WE Z3)) (Z0 2 (iw (Uu x1.cons) (Y2 ((j:Int)<(x1.cons.length:Int)) (fun Yg=>?_) (fun Yg=>?_)))))
  ·refine ak (aq (ab 3 (aD 20 (Zo 18 20 [0,1] (dx 2 (Zi none (k:Int) 3 (WE Z3)) (Zo 14 17 [3,4,5] ?_))))))
   obtain ⟨x3,YT⟩:=Zu x1.cons j om
   refine dx 6 (Zi none (j:Int) 1 (Ae YT)) (Zo 9 13 [7,8,9,10] (dx 11 (Zi none (k:Int) 3 (WE Zw)) (Zo 5 8 [12,13,14] ?_)))
   obtain ⟨x4,Vn⟩:=Zu x2.cons j om
   refine dx 15 (Zi none (j:Int) 1 (Ae Vn)) (Zo 2 4 [16,17] (Z7 18 (YE 18 [] [] [] (F6 x3.fields x4.fields (hxl:=(V9 (hd.fields_at Z3 YT) (by decide))) (hyl:=(V9 (he.fields_at Zw Vn) (by decide)))) (Zo 0 1 [19] (de (ac (!(decide (x3.fields=x4.fields))) (p:=¬(x3.fields=x4.fields)) (Yd dq) (fun YL=>?_) (fun YL=>?_)))))))
   ·exact ar (Zm (ZW (.b false) (lb (decide_eq_false (Dj Z3 Zw (fun z=>Dj YT Vn (fun w=>YL (Yq Yh.fields w)) (Yq Zd.cons z)))).symm)))
   exact ak (az (Z0 1 (ZE j (Z2 (ZH ⟨j+1,ob,(I5 Xs YT Vn (Yh.ext1 (VX.1 YL))),rfl,rfl,rfl⟩ (wk [] (ZJ j fl)))))))
  have hE:=Gr (xs:=x1.cons) (ys:=x2.cons) om (fun i hi=>Xs i om)
  exact ax 2 (az (Z0 1 (ZE k (Z2 (ZH ⟨k+1,ob,(I5 Zh Z3 Zw (Zd.ext3 hq1 hq2 hE)),rfl,rfl,rfl⟩ (wk [] (ZJ k fl)))))))
 exact ax 0 (ar (Zm (ZW (.b true) (lb (decide_eq_true (Gr om (fun i hi=>Zh i om))).symm))))
theorem Zb8 (x:Instr) (y:Instr) (h1:x.args.length<=1000000000:=by exact ob) (h2:x.jumps.length<=1000000000:=by exact ob) (h3:y.args.length<=1000000000:=by exact ob) (h4:y.jumps.length<=1000000000:=by exact ob):Zp 43 [UI x,UI y] [] (Yz (.b (decide (x=y)))):=by
 refine ZG 45 Tryz.func43 (ar (iA (Ww x) fun b1=>iA (Ww y) fun b2=>Z2 (ar (X2 12 [2,3] [(16,.b ((x.op==y.op)&&(x.dst==y.dst)))] (fun gz=>gz) ?_ (fun hj1=>?_)))))
 ·refine X2 19 [2,3] [(23,.b (((x.op==y.op)&&(x.dst==y.dst))&&(x.num==y.num)))] (fun gz=>gz) ?_ (fun hj2=>?_)
  ·refine X2 26 [2,3] [(30,.b ((((x.op==y.op)&&(x.dst==y.dst))&&(x.num==y.num))&&(x.into==y.into)))] (fun gz=>gz) ?_ (fun hj3=>?_)
   ·refine X2 33 [2,3] [(37,.b (((((x.op==y.op)&&(x.dst==y.dst))&&(x.num==y.num))&&(x.into==y.into))&&(decide (x.args=y.args))))] (fun gz=>gz) ?_ (fun hj4=>?_)
    ·refine X2 40 [] [(44,.b ((((((x.op==y.op)&&(x.dst==y.dst))&&(x.num==y.num))&&(x.into==y.into))&&(decide (x.args=y.args)))&&(decide (x.jumps=y.jumps))))] (fun gz=>gz) ?_ (fun hj5=>?_)
     ·exact Zm (ZW (.b ((((((x.op==y.op)&&(x.dst==y.dst))&&(x.num==y.num))&&(x.into==y.into))&&(decide (x.args=y.args)))&&(decide (x.jumps=y.jumps)))) (lb (by rw [Yc];simp only [Xj,decide_eq_true_eq,Zf,Instr.eq_iff,and_assoc])))
     refine Z0 1 (ib (b:=(((((x.op==y.op)&&(x.dst==y.dst))&&(x.num==y.num))&&(x.into==y.into))&&(decide (x.args=y.args)))) 38 (fun Zc=>?_) (fun Zc=>?_))
     ·have Y9:((((x.op=y.op)/\(x.dst=y.dst))/\(x.num=y.num))/\(x.into=y.into))/\(x.args=y.args):=((Ys (Ys (Ys (Ys Zf Zf) Zf) Zf) dq)).1 Zc
      exact ZA 4 [1,0] (Zv [] (F6 x.jumps y.jumps) (Z0 1 (Y1 (wk [0,0] (Zl (decide (x.jumps=y.jumps)) Zc fl)) hj5)))
     have Yt:¬(((((x.op=y.op)/\(x.dst=y.dst))/\(x.num=y.num))/\(x.into=y.into))/\(x.args=y.args)):=Y4 (Ys (Ys (Ys (Ys Zf Zf) Zf) Zf) dq) Zc
     exact Z0 6 (Y1 (wk [0,0] (Zl false Zc fl)) hj5)
    refine Z0 1 (ib (b:=((((x.op==y.op)&&(x.dst==y.dst))&&(x.num==y.num))&&(x.into==y.into))) 31 (fun ZD=>?_) (fun ZD=>?_))
    ·have YS:(((x.op=y.op)/\(x.dst=y.dst))/\(x.num=y.num))/\(x.into=y.into):=((Ys (Ys (Ys Zf Zf) Zf) Zf)).1 ZD
     exact ZA 4 [1,0] (Zv [] (F6 x.args y.args) (Z0 1 (Y1 (wk [0,0] (Zl (decide (x.args=y.args)) ZD fl)) hj4)))
    have YX:¬((((x.op=y.op)/\(x.dst=y.dst))/\(x.num=y.num))/\(x.into=y.into)):=Y4 (Ys (Ys (Ys Zf Zf) Zf) Zf) ZD
    exact Z0 6 (Y1 (wk [0,0] (Zl false ZD fl)) hj4)
   refine Z0 1 (ib (b:=(((x.op==y.op)&&(x.dst==y.dst))&&(x.num==y.num))) 24 (fun Yf=>?_) (fun Yf=>?_))
   ·have Xe:((x.op=y.op)/\(x.dst=y.dst))/\(x.num=y.num):=((Ys (Ys Zf Zf) Zf)).1 Yf
    exact ZA 6 [1,0] (Y1 (wk [0,0] (Zl (x.into==y.into) Yf fl)) hj3)
   have XP:¬(((x.op=y.op)/\(x.dst=y.dst))/\(x.num=y.num)):=Y4 (Ys (Ys Zf Zf) Zf) Yf
   exact Z0 6 (Y1 (wk [0,0] (Zl false Yf fl)) hj3)
  refine Z0 1 (ib (b:=((x.op==y.op)&&(x.dst==y.dst))) 17 (fun YR=>?_) (fun YR=>?_))
  ·have Wf:(x.op=y.op)/\(x.dst=y.dst):=((Ys Zf Zf)).1 YR
   exact ZA 6 [1,0] (Y1 (wk [0,0] (Zl (x.num==y.num) YR fl)) hj2)
  have WL:¬((x.op=y.op)/\(x.dst=y.dst)):=Y4 (Ys Zf Zf) YR
  exact Z0 6 (Y1 (wk [0,0] (Zl false YR fl)) hj2)
 refine ZA 6 [1,0] (ib (b:=(x.op==y.op)) 10 (fun Xt=>?_) (fun Xt=>?_))
 ·have Vf:x.op=y.op:=(Zf).1 Xt
  exact ZA 6 [1,0] (Y1 (wk [0,0] (Zl (x.dst==y.dst) Xt fl)) hj1)
 have UD:¬(x.op=y.op):=Y4 Zf Xt
 exact Z0 6 (Y1 (wk [0,0] (Zl false Xt fl)) hj1)
theorem F5 (a:Yv) (b:Yv) (ha:JV a:=by exact ob) (hb:JV b:=by exact ob):Zp 17 [V5 a,V5 b] [] (Yz (.b (decide (a=b)))):=by
 have hal:=ha.len
 have hbl:=hb.len
 refine ZG 97 Tryz.func17 (ar (iA (WA a) fun b1=>iA (WA b) fun b2=>Z2 (Yp 4 [1,0] (Zv [] (Zb7 a.decls b.decls (hd:=ha.decls) (he:=hb.decls)) (Xu [2,3] [(23,.b ((!(decide (a.decls=b.decls)))||((a.procs.length:Int) != (b.procs.length:Int))))] (fun gz=>gz) ?_ ?_)))))
 ·refine Z0 2 (ib (b:=(!(decide (a.decls=b.decls)))) 15 (fun Zc=>?_) (fun Zc=>?_))
  ·have Y9:¬(a.decls=b.decls):=((Yd dq)).1 Zc
   exact Z2 (wk [0,0] (Zl true Zc fl))
  have Yt:¬(¬(a.decls=b.decls)):=Y4 (Yd dq) Zc
  exact ZA 2 [1] (iw (Qd a.procs) (ZA 2 [0] (iw (Qd b.procs) (Z2 (wk [0,0] (Zl ((a.procs.length:Int) != (b.procs.length:Int)) Zc fl))))))
 refine ac ((!(decide (a.decls=b.decls)))||((a.procs.length:Int) != (b.procs.length:Int))) (p:=(¬(a.decls=b.decls))∨((a.procs.length:Int)≠(b.procs.length:Int))) (ZO (Yd dq) Ym) (fun Za=>?_) (fun Za=>?_)
 ·exact ar (Zm (ZW (.b false) (lb (decide_eq_false (fun z=>by rw [z] at Za;simp at Za)).symm)))
 simp only [not_or,ne_eq,VX,decide_eq_true_eq] at Za
 obtain ⟨hq1,hq2⟩:=Za
 refine ak (Y8 (ab 0 (Y6 (fun fz gz m F h=>∃(k:Nat),(k<=a.procs.length)/\(∀i,i<k->a.procs[i]? = b.procs[i]?)/\F=sF [2,3] fz [(5,.i k)]/\h=gz/\m=a.procs.length-k) _ _ _ ⟨0,ob,I4,rfl,rfl,rfl⟩ (wk [0,0] (Ye fl)) ?_)))
 rintro m F h ⟨k,Yk,Zh,rfl,rfl,rfl⟩
 refine Yp 3 [1] (iw (Qd a.procs) (Y2 ((k:Int)<(a.procs.length:Int)) (fun Zj=>?_) (fun Zj=>?_)))
 ·refine ak (aq (ab 1 (Zs 3 [1] ?_)))
  obtain ⟨x1,Z3⟩:=Zu a.procs k om
  have hm1:=ha.procs _ (Y7 Z3)
  have ha1:=hm1.params
  have ha2:=hm1.lent
  have ha3:=hm1.len
  refine Zq (Zi none (k:Int) 5 (Qc Z3)) (Z0 1 (iA [nl,nl,.i 0,.i 0,nl] fun b3=>Zy 0 b3 (UE x1) (ie (Zs 3 [1] ?_))))
  obtain ⟨x2,Zw⟩:=Zu b.procs k om
  have hm2:=hb.procs _ (Y7 Zw)
  have Zc:=hm2.params
  have ZD:=hm2.lent
  have Yf:=hm2.len
  refine Zq (Zi none (k:Int) 5 (Qc Zw)) (Z0 1 (iA [nl,nl,.i 0,.i 0,nl] fun b4=>Zy 0 b4 (UE x2) (ie (Yp 4 [1,0] (Zv [] (F6 x1.params x2.params) (X2 14 [2,3,5,6,7] [(54,.b ((!(decide (x1.params=x2.params)))||(!(decide (x1.lent=x2.lent)))))] (fun gz=>gz) ?_ (fun hj1=>?_)))))))
  ·refine X2 21 [2,3,5,6,7] [(61,.b (((!(decide (x1.params=x2.params)))||(!(decide (x1.lent=x2.lent))))||(x1.result != x2.result)))] (fun gz=>gz) ?_ (fun hj2=>?_)
   ·refine X2 28 [2,3,5,6,7] [(68,.b ((((!(decide (x1.params=x2.params)))||(!(decide (x1.lent=x2.lent))))||(x1.result != x2.result))||(x1.regs != x2.regs)))] (fun gz=>gz) ?_ (fun hj3=>?_)
    ·refine Xu [2,3,5,6,7] [(77,.b (((((!(decide (x1.params=x2.params)))||(!(decide (x1.lent=x2.lent))))||(x1.result != x2.result))||(x1.regs != x2.regs))||((x1.code.length:Int) != (x2.code.length:Int))))] (fun gz=>gz) ?_ ?_
     ·refine Z0 1 (ib (b:=((((!(decide (x1.params=x2.params)))||(!(decide (x1.lent=x2.lent))))||(x1.result != x2.result))||(x1.regs != x2.regs))) 69 (fun ZD=>?_) (fun ZD=>?_))
      ·have YS:(((¬(x1.params=x2.params))∨(¬(x1.lent=x2.lent)))∨(x1.result≠x2.result))∨(x1.regs≠x2.regs):=((ZO (ZO (ZO (Yd dq) (Yd dq)) Ym) Ym)).1 ZD
       exact Z2 (Zt 4 (Zl true ZD fl))
      have YX:¬((((¬(x1.params=x2.params))∨(¬(x1.lent=x2.lent)))∨(x1.result≠x2.result))∨(x1.regs≠x2.regs)):=Y4 (ZO (ZO (ZO (Yd dq) (Yd dq)) Ym) Ym) ZD
      exact ZA 2 [1] (iw (Tw x1.code) (ZA 2 [0] (iw (Tw x2.code) (Z2 (Zt 4 (Zl ((x1.code.length:Int) != (x2.code.length:Int)) ZD fl))))))
     refine ac (((((!(decide (x1.params=x2.params)))||(!(decide (x1.lent=x2.lent))))||(x1.result != x2.result))||(x1.regs != x2.regs))||((x1.code.length:Int) != (x2.code.length:Int))) (p:=((((¬(x1.params=x2.params))∨(¬(x1.lent=x2.lent)))∨(x1.result≠x2.result))∨(x1.regs≠x2.regs))∨((x1.code.length:Int)≠(x2.code.length:Int))) (ZO (ZO (ZO (ZO (Yd dq) (Yd dq)) Ym) Ym) Ym) (fun Zz=>?_) (fun Zz=>?_)
     ·exact ar (Zm (ZW (.b false) (lb (decide_eq_false (fun z=>Dj Z3 Zw (fun w=>by rw [w] at Zz;simp at Zz) (Yq Yv.procs z))).symm)))
     simp only [not_or,ne_eq,VX,decide_eq_true_eq] at Zz
     obtain ⟨⟨⟨⟨hw1,hw2⟩,hw3⟩,hw4⟩,hw5⟩:=Zz
     refine ak (Y3 (ab 2 (Y6 (fun fz gz m F h=>∃(j:Nat),(j<=x1.code.length)/\(∀i,i<j->x1.code[i]? = x2.code[i]?)/\F=sF [2,3,5,6,7] fz [(8,.i j)]/\h=gz/\m=x1.code.length-j) _ _ _ ⟨0,ob,I4,rfl,rfl,rfl⟩ (Zt 4 (Ye fl)) ?_)))
     rintro m F h ⟨j,Vr,Xs,rfl,rfl,rfl⟩
     refine Yp 3 [1] (iw (Tw x1.code) (Y2 ((j:Int)<(x1.code.length:Int)) (fun Yg=>?_) (fun Yg=>?_)))
     ·refine ak (aq (ab 3 (aD 12 (ZZ 9 12 [0,1,2] [1] ?_))))
      obtain ⟨x3,YT⟩:=Zu x1.code j om
      have hs1:=hm1.sz _ (Y7 YT)
      refine dx 3 (Zi none (j:Int) 6 (QZ YT)) (ZZ 4 8 [4,5,6,7] [0] ?_)
      obtain ⟨x4,Vn⟩:=Zu x2.code j om
      have hs2:=hm2.sz _ (Y7 Vn)
      refine dx 8 (Zi none (j:Int) 6 (QZ Vn)) (Zo 2 3 [9] (Z7 10 (YE 10 [] [] [] (Zb8 x3 x4) (Zo 0 1 [11] (de (ac (!(decide (x3=x4))) (p:=¬(x3=x4)) (Yd dq) (fun YL=>?_) (fun YL=>?_)))))))
      ·exact ar (Zm (ZW (.b false) (lb (decide_eq_false (fun z=>Dj Z3 Zw (fun w=>Dj YT Vn (by assumption) (Yq ZX.code w)) (Yq Yv.procs z))).symm)))
      exact ak (az (Z0 1 (ZE j (Z2 (ZH ⟨j+1,ob,(I5 Xs YT Vn (VX.1 (by assumption))),rfl,rfl,rfl⟩ (Zt 4 (ZJ j fl)))))))
     have hCE:=Gr (xs:=x1.code) (ys:=x2.code) om (fun i hi=>Xs i om)
     exact ax 2 (az (Z0 1 (ZE k (Z2 (ZH ⟨k+1,ob,(I5 Zh Z3 Zw (ZX.ext5 hw1 hw2 hw3 hw4 hCE)),rfl,rfl,rfl⟩ (wk [2,2] (ZJ k fl)))))))
    refine Z0 1 (ib (b:=(((!(decide (x1.params=x2.params)))||(!(decide (x1.lent=x2.lent))))||(x1.result != x2.result))) 62 (fun Yf=>?_) (fun Yf=>?_))
    ·have Xe:((¬(x1.params=x2.params))∨(¬(x1.lent=x2.lent)))∨(x1.result≠x2.result):=((ZO (ZO (Yd dq) (Yd dq)) Ym)).1 Yf
     exact Z0 6 (Y1 (Zt 4 (Zl true Yf fl)) hj3)
    have XP:¬(((¬(x1.params=x2.params))∨(¬(x1.lent=x2.lent)))∨(x1.result≠x2.result)):=Y4 (ZO (ZO (Yd dq) (Yd dq)) Ym) Yf
    exact ZA 6 [1,0] (Y1 (Zt 4 (Zl (x1.regs != x2.regs) Yf fl)) hj3)
   refine Z0 1 (ib (b:=((!(decide (x1.params=x2.params)))||(!(decide (x1.lent=x2.lent))))) 55 (fun YR=>?_) (fun YR=>?_))
   ·have Wf:(¬(x1.params=x2.params))∨(¬(x1.lent=x2.lent)):=((ZO (Yd dq) (Yd dq))).1 YR
    exact Z0 6 (Y1 (Zt 4 (Zl true YR fl)) hj2)
   have WL:¬((¬(x1.params=x2.params))∨(¬(x1.lent=x2.lent))):=Y4 (ZO (Yd dq) (Yd dq)) YR
   exact ZA 6 [1,0] (Y1 (Zt 4 (Zl (x1.result != x2.result) YR fl)) hj2)
  refine Z0 2 (ib (b:=(!(decide (x1.params=x2.params)))) 47 (fun Xt=>?_) (fun Xt=>?_))
  ·have Vf:¬(x1.params=x2.params):=((Yd dq)).1 Xt
   exact Z0 7 (Y1 (Zt 4 (Zl true Xt fl)) hj1)
  have UD:¬(¬(x1.params=x2.params)):=Y4 (Yd dq) Xt
  exact ZA 4 [1,0] (Zv [] (F6 x1.lent x2.lent) (Z0 2 (Y1 (Zt 4 (Zl (!(decide (x1.lent=x2.lent))) Xt fl)) hj1)))
 exact ax 0 (ar (Zm (ZW (.b true) (lb (decide_eq_true (Yv.ext2 hq1 (Gr om (fun i hi=>Zh i om)))).symm))))
theorem He (a:Yv) (op:Int) (ha:JV a:=by exact ob):Zp 18 [V5 a,.i op] [] (Yz (.i (((W6 op a.procs):Nat):Int))):=by
 have hal:=ha.len
 have hob:=Bb op ha
 refine ZG 41 Tryz.func18 (ar (iA (WA a) fun b1=>?_))
 refine Z2 (Y3 (Y8 (ab 0 (Y6 (fun fz gz m F h=>∃(k:Nat) (t:Nat),(k<=a.procs.length)/\(t+W6 op (a.procs.drop k)=W6 op a.procs)/\F=sF [1,2] fz [(5,.i t),(6,.i k)]/\h=gz/\m=a.procs.length-k) _ _ _ ⟨0,0,ob,(by rw [Wg];rfl),rfl,rfl,rfl⟩ (wk [0] (Ye (Ye fl))) ?_))))
 rintro m F h ⟨k,t,Yk,Zh,rfl,rfl,rfl⟩
 refine Yp 3 [0] (iw (Qd a.procs) (Y2 ((k:Int)<(a.procs.length:Int)) (fun Za=>?_) (fun Za=>?_)))
 ·obtain ⟨xp,hxp⟩:=Zu a.procs k om
  have hpl:=(ha.procs _ (Y7 hxp)).len
  have hqb:W6 op (a.procs.drop k)=UF op xp.code+W6 op (a.procs.drop (k+1)):=by rw [Yl hxp,W6]
  refine ak (aq (ab 1 (Y3 (ab 2 (Y6 (fun fz gz m F h=>∃(j:Nat) (q:Nat),(j<=xp.code.length)/\(q+UF op (xp.code.drop j)=t+UF op xp.code)/\F=sF [1,2,6] fz [(5,.i q),(7,.i j)]/\h=gz/\m=xp.code.length-j) _ _ _ ⟨0,t,ob,rfl,rfl,rfl,rfl⟩ (wk [0] (fr (Ye fl))) ?_)))))
  rintro m F h ⟨j,q,Vr,Xs,rfl,rfl,rfl⟩
  refine Yp 4 [0] ?_
  obtain ⟨x1,Z3⟩:=Zu a.procs k om
  have hxe:=Yq ZX.code (Cf (Z3.symm.trans hxp))
  have hxl:=Yq List.length hxe
  refine Zq (Zi none (k:Int) 5 (Qc Z3)) (Z0 2 (iw (Tw x1.code) (Y2 ((j:Int)<(x1.code.length:Int)) (fun Zj=>?_) (fun Zj=>?_))))
  ·refine ak (aq (ab 3 (Zs 3 [0] (Zq (Zi none (k:Int) 5 (Qc Z3)) (Z0 3 ?_)))))
   obtain ⟨x2,Zw⟩:=Zu x1.code j om
   have hxg:=Zw
   rw [hxe] at hxg
   refine Zq (Zi none (j:Int) 6 (QZ Zw)) (Z2 (Ab (fun fz gz F h=>F=sF [1,2,6,7] fz [(5,.i (if x2.op=op then ((q+1:Nat):Int) else (q:Int)))]/\h=gz) (fun _ _=>rfl) ?_ ?_))
   ·refine ac (x2.op==op) Zf (fun Zz=>?_) (fun Zz=>?_)
    ·exact az (Z0 1 (ZE q (Z2 (ZI ⟨rfl,rfl⟩ (wk [0] (fc (x:=.i (q+1:Nat)) (li (by first|rfl|(rw [Zk Zz])|(rw [Zb Zz])|(simp [Zz];done)|(rw [Yc];simp [Zz];done)|omega)) fl))))))
    exact ak (ZI ⟨rfl,rfl⟩ (wk [0] (fc (x:=.i q) (li (by first|rfl|(rw [Zk Zz])|(rw [Zb Zz])|(simp [Zz];done)|(rw [Yc];simp [Zz];done)|omega)) fl)))
   rintro F h ⟨rfl,rfl⟩
   exact az (Z0 1 (ZE j (Z2 (ZH ⟨j+1,(if x2.op=op then q+1 else q),ob,(Zcy hxg Xs),rfl,rfl,rfl⟩ (wk [0] (fc (x:=.i (if x2.op=op then ((q+1:Nat):Int) else (q:Int))) (li (by split<;>rfl)) (ZJ j fl)))))))
  exact ax 2 (az (Z0 1 (ZE k (Z2 (ZH ⟨k+1,q,ob,(by have h:=Zcx om Xs;rw [h];exact Zd0 hxp Zh),rfl,rfl,rfl⟩ (wk [0] (fr (ZJ k fl))))))))
 exact ax 0 (ar (Zm (ZW (.i t) (li (by have h:=Zcz om Zh;omega)))))
theorem Zb5 (code:LI) (hcb:∀z∈code,0<=z/\z<=255):Zp 5 [Un code] [] (Yz (.b true)):=by
 refine ZG 89 Tryz.func5 (Y3 (YP 1 (iw (BA code) (Y2 ((code.length:Int)>1048576) (fun Za=>?_) (fun Za=>?_)))))
 ·exact ar (Zm (I1))
 have hcl:code.length<=1048576:=by omega
 refine ak (Yj 1 (ic [] (OX code (hcl:=hcl) (hcb:=hcb)) ?_))
 rintro _ _ ⟨y1,rfl,rfl,Y9⟩
 have hdz:=Y9
 have hdl:=hdz.len
 have hti:=Z1c hdz om
 refine iA [nl,nl] fun b1=>Zy 0 b1 (WA y1) (ie (Zs 1 [0] (Zv [] (LN y1 1 (hz:=(by first|exact hdz|exact I0 hV hdz)) (hlz:=om)) (Z0 3 (iA [nl,nl] fun b2=>Zy 0 b2 (WA ((ZT y1).1)) (Z2 (Zs 1 [1] (Zv [] (Z0a y1 1 (hz:=hdz) (hlz:=om)) (Z0 3 (iA [nl,nl] fun b3=>Zy 0 b3 (WA ((ZT y1).1)) (Z2 (Yp 2 [1,0] (Zv [] (F5 ((ZT y1).1) ((ZT y1).1) (ha:=(by first|exact hti|(rw [Qs hV];exact hti))) (hb:=(by first|exact hti|(rw [Qs hV];exact hti)))) (X2 9 [3,4,5,6,7] [(32,.b ((!(decide (((ZT y1).1)=((ZT y1).1))))||(((ZT y1).2) != ((ZT y1).2))))] (fun gz=>gz) ?_ (fun hj1=>?_)))))))))))))))
 ·refine Xu [3,4,5,6,7] [(36,.b (((!(decide (((ZT y1).1)=((ZT y1).1))))||(((ZT y1).2) != ((ZT y1).2)))||(!(ZT y1).2)))] (fun gz=>gz) ?_ ?_
  ·refine Z0 1 (ib (b:=((!(decide (((ZT y1).1)=((ZT y1).1))))||(((ZT y1).2) != ((ZT y1).2)))) 33 (fun Zc=>?_) (fun Zc=>?_))
   ·have Yt:(¬(((ZT y1).1)=((ZT y1).1)))∨(((ZT y1).2)≠((ZT y1).2)):=((ZO (Yd dq) Ym)).1 Zc
    exact Z2 (Zt 3 (fc (x:=.b true) (lb (by rw [Zc];rfl)) fl))
   have YS:¬((¬(((ZT y1).1)=((ZT y1).1)))∨(((ZT y1).2)≠((ZT y1).2))):=Y4 (ZO (Yd dq) Ym) Zc
   exact Z2 (Zt 3 (fc (x:=.b (!(ZT y1).2)) (lb (by rw [Zc];rfl)) fl))
  refine ac (((!(decide (((ZT y1).1)=((ZT y1).1))))||(((ZT y1).2) != ((ZT y1).2)))||(!(ZT y1).2)) (p:=((¬(((ZT y1).1)=((ZT y1).1)))∨(((ZT y1).2)≠((ZT y1).2)))∨(¬((ZT y1).2=true))) (ZO (ZO (Yd dq) Ym) (Yd Iff.rfl)) (fun Zj=>?_) (fun Zj=>?_)
  ·refine Zs 2 [1,0] (Zv [] (F5 ((ZT y1).1) ((ZT y1).1) (ha:=(by first|exact hti|(rw [Qs hV];exact hti))) (hb:=(by first|exact hti|(rw [Qs hV];exact hti)))) (X2 8 [] [(44,.b ((decide (((ZT y1).1)=((ZT y1).1)))&&(((ZT y1).2)==((ZT y1).2))))] (fun gz=>gz) ?_ (fun hj2=>?_)))
   ·exact Zm (ZW (.b ((decide (((ZT y1).1)=((ZT y1).1)))&&(((ZT y1).2)==((ZT y1).2)))) (lb (by first|rfl|(simp;done)|(exfalso;omega)|(rw [Da hV,hto];simp;done)|(rw [Qs hV];simp;done))))
   refine Z0 1 (ib (b:=(decide (((ZT y1).1)=((ZT y1).1)))) 40 (fun ZD=>?_) (fun ZD=>?_))
   ·have YX:((ZT y1).1)=((ZT y1).1):=(dq).1 ZD
    exact Z0 2 (Zq (PQ ((ZT y1).2) ((ZT y1).2)) (Z0 1 (Y1 (Zt 3 (fc (x:=.b (((ZT y1).2)==((ZT y1).2))) (lb (by rw [ZD];rfl)) fl)) hj2)))
   have Xe:¬(((ZT y1).1)=((ZT y1).1)):=Y4 dq ZD
   exact Z0 4 (Y1 (Zt 3 (fc (x:=.b false) (lb (by rw [ZD];rfl)) fl)) hj2)
  have hV:Wc y1=true:=Z1d (C9 fun z=>Zj (by simp_all))
  have hii:=(H1 hV hdz om).isz
  have htl:=Z1e hV
  have hto:=Z1f hV
  have hob1:=Bb 9 hti
  have hob2:=Bb 24 hti
  have hob3:=Bb 9 hii
  have hob4:=Bb 24 hii
  refine ak (Y8 (ab 0 (Y6 (fun fz gz m F h=>∃(k:Nat),(k<=y1.procs.length)/\F=sF [3,4] fz [(8,.i k)]/\h=[Zg gz 1,Zg gz 2]/\m=y1.procs.length-k) _ _ _ ⟨0,ob,rfl,rfl,rfl⟩ (wk [1,1] (Ye fl)) ?_)))
  rintro m F h ⟨k,Yk,rfl,rfl,rfl⟩
  refine Yp 3 [1] (iw (Qd y1.procs) (Y2 ((k:Int)<(y1.procs.length:Int)) (fun Zz=>?_) (fun Zz=>?_)))
  ·refine ak (aq (ab 1 (aD 22 (ZZ 19 22 [0,1,2] [0] (dn 3 (.i (((((ZT y1).1).procs).length:Nat):Int)) (.i (((We (((ZT y1).1).procs)).length:Nat):Int)) (li (by rw [Qd])) (Zo 16 18 [4,5] (db (b:=(decide ((k:Int)>=(((((ZT y1).1).procs).length:Nat):Int)))) 57 (fun Yf=>?_) (fun Yf=>?_))))))))
   ·have XP:(k:Int)>=(((((ZT y1).1).procs).length:Nat):Int):=(dq).1 Yf
    exact Zo 0 16 [6,7,8,9,10,11,12,13,14,15,16,17,18,19,20,21] (de (Vk (ar (Zm (ZW (.b false) (lb (by first|rfl|(simp;done)|(exfalso;omega)|(rw [Da hV,hto];simp;done)|(rw [Qs hV];simp;done))))))))
   have Wf:¬((k:Int)>=(((((ZT y1).1).procs).length:Nat):Int)):=Y4 dq Yf
   refine ZZ 13 16 [6,7,8] [0] ?_
   obtain ⟨x1,Z3⟩:=Zu (((ZT y1).1).procs) k om
   refine dx 9 (Zi none (k:Int) 5 (Qc Z3)) (Zo 10 12 [10,11] (dw 12 (Tw x1.code) (ZZ 6 9 [13,14,15] [1] ?_)))
   obtain ⟨x2,Zw⟩:=Zu y1.procs k om
   have hxl:=Zh4 hV Z3 Zw
   refine dx 16 (Zi none (k:Int) 5 (Qc Zw)) (Zo 3 5 [17,18] (dw 19 (Tw x2.code) (Zo 0 2 [20,21] (de (ac ((x1.code.length:Int) != (x2.code.length:Int)) Ym (fun Yg=>?_) (fun Yg=>?_))))))
   ·exact ar (Zm (ZW (.b false) (lb (by first|rfl|(simp;done)|(exfalso;omega)|(rw [Da hV,hto];simp;done)|(rw [Qs hV];simp;done)))))
   exact ak (az (Z0 1 (ZE k (Z2 (ZH ⟨k+1,ob,rfl,rfl,rfl⟩ (wk [0,0] (ZJ k fl)))))))
  refine ax 0 (aD 16 (ZZ 15 16 [0] [0] (Z7 1 (YE 1 [] [] [] (PA ((ZT y1).1) 1 (hz:=(I0 hV hdz))) (AN [] [(2,.b ((Wc ((ZT y1).1))&&((((W6 9 ((ZT y1).1).procs)+(W6 24 ((ZT y1).1).procs):Nat):Int)==(((W6 9 y1.procs)+(W6 24 y1.procs):Nat):Int))))] (fun gz=>gz) ?_ ?_)))))
  ·refine Zo 13 14 [2] (db (b:=(Wc ((ZT y1).1))) 76 (fun YR=>?_) (fun YR=>?_))
   ·have WL:(Wc ((ZT y1).1))=true:=(Iff.rfl).1 YR
    exact ZZ 9 13 [3,5,8,10] [0,0,1,1] (Z7 4 (YE 4 [] [1,1,0] [b1,b1,b2] (He ((ZT y1).1) 9 (ha:=(by first|exact hti|exact hii))) (Z7 6 (YE 6 [] [1,1] [b1,b1] (He ((ZT y1).1) 24 (ha:=(by first|exact hti|exact hii))) (da 7 ((((W6 9 ((ZT y1).1).procs)+(W6 24 ((ZT y1).1).procs):Nat):Int)) (((((W6 9 ((ZT y1).1).procs):Nat):Int))+((((W6 24 ((ZT y1).1).procs):Nat):Int))) (Z7 9 (YE 9 [] [1] [b1] (He y1 9 (ha:=(by first|exact hti|exact hii))) (Z7 11 (YE 11 [] [] [] (He y1 24 (ha:=(by first|exact hti|exact hii))) (da 12 ((((W6 9 y1.procs)+(W6 24 y1.procs):Nat):Int)) (((((W6 9 y1.procs):Nat):Int))+((((W6 24 y1.procs):Nat):Int))) (Zo 0 3 [13,14,15] (de (wk [0,0] (fc (x:=.b ((((W6 9 ((ZT y1).1).procs)+(W6 24 ((ZT y1).1).procs):Nat):Int)==(((W6 9 y1.procs)+(W6 24 y1.procs):Nat):Int))) (lb (by rw [YR];rfl)) fl))))))))))))))
   have Vf:¬((Wc ((ZT y1).1))=true):=Y4 Iff.rfl YR
   exact Zo 0 13 [3,4,5,6,7,8,9,10,11,12,13,14,15] (de (wk [0,0] (fc (x:=.b false) (lb (by rw [YR];rfl)) fl)))
  exact ZQ (ZW (.b ((Wc ((ZT y1).1))&&((((W6 9 ((ZT y1).1).procs)+(W6 24 ((ZT y1).1).procs):Nat):Int)==(((W6 9 y1.procs)+(W6 24 y1.procs):Nat):Int)))) (lb (by first|rfl|(simp;done)|(exfalso;omega)|(rw [Da hV,hto];simp;done)|(rw [Qs hV];simp;done))))
 refine Z0 2 (ib (b:=(!(decide (((ZT y1).1)=((ZT y1).1))))) 28 (fun Xt=>?_) (fun Xt=>?_))
 ·have UD:¬(((ZT y1).1)=((ZT y1).1)):=((Yd dq)).1 Xt
  exact Z0 4 (Y1 (Zt 3 (fc (x:=.b true) (lb (by rw [Xt];rfl)) fl)) hj1)
 have Ty:¬(¬(((ZT y1).1)=((ZT y1).1))):=Y4 (Yd dq) Xt
 exact Z0 2 (Zq (PR ((ZT y1).2) ((ZT y1).2)) (Z0 1 (Y1 (Zt 3 (fc (x:=.b (((ZT y1).2) != ((ZT y1).2))) (lb (by rw [Xt];rfl)) fl)) hj1)))
theorem Zb6 (code:LI) (hcb:∀z∈code,0<=z/\z<=255):Zp 6 [Un code] [] (Yz (.b true)):=by
 refine ZG 57 Tryz.func6 (Y3 (YP 1 (iw (BA code) (Y2 ((code.length:Int)>1048576) (fun Za=>?_) (fun Za=>?_)))))
 ·exact ar (Zm (I1))
 have hcl:code.length<=1048576:=by omega
 refine ak (Yj 1 (ic [] (OX code (hcl:=hcl) (hcb:=hcb)) ?_))
 rintro _ _ ⟨y1,rfl,rfl,Y9⟩
 have hdz:=Y9
 have hdl:=hdz.len
 have hti:=Z1c hdz om
 refine iA [nl,nl] fun b1=>Zy 0 b1 (WA y1) (ie (Zs 1 [0] (Zv [] (LN y1 1 (hz:=(by first|exact hdz|exact I0 hV hdz)) (hlz:=om)) (Z0 3 (iA [nl,nl] fun b2=>Zy 0 b2 (WA ((ZT y1).1)) (Z2 (Zs 1 [1] (Zv [] (Z0a y1 1 (hz:=hdz) (hlz:=om)) (Z0 3 (iA [nl,nl] fun b3=>Zy 0 b3 (WA ((ZT y1).1)) (Z2 (Yp 2 [1,0] (Zv [] (F5 ((ZT y1).1) ((ZT y1).1) (ha:=(by first|exact hti|(rw [Qs hV];exact hti))) (hb:=(by first|exact hti|(rw [Qs hV];exact hti)))) (X2 9 [4,5,6,7] [(33,.b ((!(decide (((ZT y1).1)=((ZT y1).1))))||(((ZT y1).2) != ((ZT y1).2))))] (fun gz=>gz) ?_ (fun hj1=>?_)))))))))))))))
 ·refine Xu [4,5,6,7] [(37,.b (((!(decide (((ZT y1).1)=((ZT y1).1))))||(((ZT y1).2) != ((ZT y1).2)))||(!(ZT y1).2)))] (fun gz=>gz) ?_ ?_
  ·refine Z0 1 (ib (b:=((!(decide (((ZT y1).1)=((ZT y1).1))))||(((ZT y1).2) != ((ZT y1).2)))) 34 (fun Zc=>?_) (fun Zc=>?_))
   ·have Yt:(¬(((ZT y1).1)=((ZT y1).1)))∨(((ZT y1).2)≠((ZT y1).2)):=((ZO (Yd dq) Ym)).1 Zc
    exact Z2 (Zt 3 (fc (x:=.b true) (lb (by rw [Zc];rfl)) fl))
   have YS:¬((¬(((ZT y1).1)=((ZT y1).1)))∨(((ZT y1).2)≠((ZT y1).2))):=Y4 (ZO (Yd dq) Ym) Zc
   exact Z2 (Zt 3 (fc (x:=.b (!(ZT y1).2)) (lb (by rw [Zc];rfl)) fl))
  refine ac (((!(decide (((ZT y1).1)=((ZT y1).1))))||(((ZT y1).2) != ((ZT y1).2)))||(!(ZT y1).2)) (p:=((¬(((ZT y1).1)=((ZT y1).1)))∨(((ZT y1).2)≠((ZT y1).2)))∨(¬((ZT y1).2=true))) (ZO (ZO (Yd dq) Ym) (Yd Iff.rfl)) (fun Zj=>?_) (fun Zj=>?_)
  ·refine Zs 2 [1,0] (Zv [] (F5 ((ZT y1).1) ((ZT y1).1) (ha:=(by first|exact hti|(rw [Qs hV];exact hti))) (hb:=(by first|exact hti|(rw [Qs hV];exact hti)))) (X2 8 [] [(45,.b ((decide (((ZT y1).1)=((ZT y1).1)))&&(((ZT y1).2)==((ZT y1).2))))] (fun gz=>gz) ?_ (fun hj2=>?_)))
   ·exact Zm (ZW (.b ((decide (((ZT y1).1)=((ZT y1).1)))&&(((ZT y1).2)==((ZT y1).2)))) (lb (by first|rfl|(simp;done)|(exfalso;omega)|(rw [Da hV,hto];simp;done)|(rw [Qs hV];simp;done))))
   refine Z0 1 (ib (b:=(decide (((ZT y1).1)=((ZT y1).1)))) 41 (fun ZD=>?_) (fun ZD=>?_))
   ·have YX:((ZT y1).1)=((ZT y1).1):=(dq).1 ZD
    exact Z0 2 (Zq (PQ ((ZT y1).2) ((ZT y1).2)) (Z0 1 (Y1 (Zt 3 (fc (x:=.b (((ZT y1).2)==((ZT y1).2))) (lb (by rw [ZD];rfl)) fl)) hj2)))
   have Xe:¬(((ZT y1).1)=((ZT y1).1)):=Y4 dq ZD
   exact Z0 4 (Y1 (Zt 3 (fc (x:=.b false) (lb (by rw [ZD];rfl)) fl)) hj2)
  have hV:Wc y1=true:=Z1d (C9 fun z=>Zj (by simp_all))
  have hii:=(H1 hV hdz om).isz
  have htl:=Z1e hV
  have hto:=Z1f hV
  have hob1:=Bb 9 hti
  have hob2:=Bb 24 hti
  have hob3:=Bb 9 hii
  have hob4:=Bb 24 hii
  refine ak (Zs 1 [1] (Zv [] (LN ((ZT y1).1) 1 (hz:=(by first|exact hdz|exact I0 hV hdz)) (hlz:=om)) (Z0 3 (iA [nl,nl] fun b4=>Zy 0 b4 (WA ((ZT ((ZT y1).1)).1)) (Z2 (ar (X2 6 [] [(56,.b ((ZT ((ZT y1).1)).2&&(decide (((ZT ((ZT y1).1)).1)=((ZT y1).1)))))] (fun gz=>gz) ?_ (fun hj3=>?_))))))))
  ·exact Zm (ZW (.b ((ZT ((ZT y1).1)).2&&(decide (((ZT ((ZT y1).1)).1)=((ZT y1).1))))) (lb (by first|rfl|(simp;done)|(exfalso;omega)|(rw [Da hV,hto];simp;done)|(rw [Qs hV];simp;done))))
  refine Z0 2 (ib (b:=(ZT ((ZT y1).1)).2) 52 (fun Yf=>?_) (fun Yf=>?_))
  ·have XP:(ZT ((ZT y1).1)).2=true:=(Iff.rfl).1 Yf
   exact ZA 2 [0,2] (Zv [] (F5 ((ZT ((ZT y1).1)).1) ((ZT y1).1) (ha:=(by first|exact hti|(rw [Qs hV];exact hti))) (hb:=(by first|exact hti|(rw [Qs hV];exact hti)))) (Z0 1 (Y1 (Zt 4 (fc (x:=.b (decide (((ZT ((ZT y1).1)).1)=((ZT y1).1)))) (lb (by rw [Yf];rfl)) fl)) hj3)))
  have Wf:¬((ZT ((ZT y1).1)).2=true):=Y4 Iff.rfl Yf
  exact Z0 4 (Y1 (Zt 4 (fc (x:=.b false) (lb (by rw [Yf];rfl)) fl)) hj3)
 refine Z0 2 (ib (b:=(!(decide (((ZT y1).1)=((ZT y1).1))))) 29 (fun YR=>?_) (fun YR=>?_))
 ·have WL:¬(((ZT y1).1)=((ZT y1).1)):=((Yd dq)).1 YR
  exact Z0 4 (Y1 (Zt 3 (fc (x:=.b true) (lb (by rw [YR];rfl)) fl)) hj1)
 have Vf:¬(¬(((ZT y1).1)=((ZT y1).1))):=Y4 (Yd dq) YR
 exact Z0 2 (Zq (PR ((ZT y1).2) ((ZT y1).2)) (Z0 1 (Y1 (Zt 3 (fc (x:=.b (((ZT y1).2) != ((ZT y1).2))) (lb (by rw [YR];rfl)) fl)) hj1)))
end Go.Abs
