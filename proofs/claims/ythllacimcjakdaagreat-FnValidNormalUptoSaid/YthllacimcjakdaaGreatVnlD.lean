/-
  A part of the proof of FnValidNormalUptoSaid (see the last file): no condition.
-/
import Derived.Test.YthllacimcjakdaaGreatVnlC
set_option linter.all false
set_option linter.unusedVariables false
set_option linter.unusedSimpArgs false
set_option linter.unusedSectionVars false
set_option maxRecDepth 10000
set_option maxHeartbeats 4000000
namespace Go.Abs
open Go.Proofs
theorem T3 (ps:List Int) (rt:Int) :Zj Tryz.prog 154 [Z0 ps,.i rt] [] (fun r h=>r=KS (Func.mk ps rt (Z2.mk 0 0 []))/\h=[]):=by
 refine ZK 8 Tryz.func154 (ar (iA [nl,.i 0,.i 0,.i 0,nl] ?_))
 intro b1
 refine ie (ar (ir 3 [(4,.p b1 0),(7,.agg [Z0 ps,.i rt,.i 0,.i 0,nl])] (ZH 0 b1 [Z0 ps,.i rt,.i 0,.i 0,nl] (ie ?_))))
 exact Zc (r3 [] [.agg [Z0 ps,.i rt,.i 0,.i 0,nl]] [0] [(b1,b1)] ⟨rfl,rfl⟩ (Zg.agg (.cons (Zg.sl _ (Yv Z8 ob)) (.cons li (.cons li (.cons li (.cons (Zg.sl _ rfl) .nil)))))))
theorem Sk (rd:Nat) (bs:List Int) (p:Nat) (xs:List Int) (ZD:∀z∈bs,0<=z/\z<=255) (hp:p+1<=1000000000:=by exact ob) (hx:0<xs.length/\xs.length<=1000000:=by exact ob) (hy:xs.all (fun x=>decide (0<=x))=true:=by exact ob):Zj Tryz.prog 72 [.p rd 0,Z0 xs] [Yl rd bs p] (fun r h=>∃(nn:Nat),r=.i nn/\h=[.obj rd [X9 bs,.i (p+1:Nat)]]/\(nn:Int)∈xs):=(Vt rd bs p xs ZD hp hx).mono fun r h ⟨z,hr,hh,hz⟩=>by
  have h0:0<=z:=of_decide_eq_true (Ke.1 hy z hz)
  exact ⟨z.toNat,by rw [hr,Int.toNat_of_nonneg h0],hh,by rw [Int.toNat_of_nonneg h0];exact hz⟩
theorem Ry (rd:Nat) (bs:List Int) (p:Nat) (g:XT) (gb:Nat) (rs:List Func) (f:Func) (i:Int) (nl:Nat) (ZD:∀z∈bs,0<=z/\z<=255) (hp:p+90000<=1000000000:=by exact ob) (hg:GP g:=by exact ob) (W8:g.funcs <+: rs:=by exact ob) (hi:0<=i:=by exact ob) (hf:g.funcs[i.toNat]? = some f:=by exact ob) (h0:i=0->f.params.length=0:=by exact ob) (hn:g.funcs.length=nl:=by exact ob):Zj Tryz.prog 155 [.p rd 0,.agg [Zd g.decls,.ms gb 0 nl 4],.i i] [Yl rd bs p,YI gb rs] (fun r h=>∃(e:Z2) (p2:Nat),r=ZF e/\h=[Yl rd bs p2,YI gb rs]/\GE g f.params.length 30 e/\p<=p2/\p2<=p+90000):=(by subst hn;exact Rx rd bs p g gb rs f i ZD hp hg W8 hi hf h0)
theorem RY (rd:Nat) (bs:List Int) (p:Nat) (ZD:∀z∈bs,0<=z/\z<=255) (hp:p+400000<=1000000000):Zj Tryz.prog 120 [.p rd 0] [Yl rd bs p] (fun r h=>∃(rs:List Func) (ds:List Zf) (m:Nat) (gb:Nat) (p2:Nat),r=.agg [Zd ds,.ms gb 0 m 4]/\h=[YI gb rs,Yl rd bs p2]/\(GL ds m 0 rs/\GD ds/\1<=m/\m<=4)/\p<=p2/\p2<=p+400000):=by
 refine ZK 110 Tryz.func120 (ar (iA [nl,nl] ?_))
 intro b1
 refine ie (ar (ir 1 [(0,.p rd 0),(2,.p b1 0),(10,.p rd 0)] (ic [1] (RW rd bs p (ZD:=ob)) ?_)))
 rintro _ _ ⟨ds1,v1,rfl,rfl,ZP⟩
 have hgd:=ZP
 refine Z1 1 12 (.agg [Ud ds1 v1,nl]) (iA [nl,nl] ?_)
 intro b2
 refine ZH 0 b2 [Ud ds1 v1,nl] (ie (ar (iL (Z8 [1]) 1 1 ?_)))
 intro v2
 refine Z5 0 (.n 13 (Z0 [1]) (.p .r)) (ZA [] (T3 [1] 0) (iL (Z8 [1,1]) 2 1 ?_))
 intro v3
 refine Z5 0 (.n 15 (Z0 [1,1]) (.p .r)) (ZA [] (T3 [1,1] 1) (iL (Z8 [1]) 1 1 ?_))
 intro v4
 refine Z5 0 (.n 17 (Z0 [1]) (.p .r)) (ZA [] (T3 [1] 1) (iL (Z8 [1,0]) 2 1 ?_))
 intro v5
 refine Z5 0 (.n 19 (Z0 [1,0]) (.p .r)) (ZA [] (T3 [1,0] 1) (iL (Z8 [2,1]) 2 1 ?_))
 intro v6
 refine Z5 0 (.n 21 (Z0 [2,1]) (.p .r)) (ZA [] (T3 [2,1] 1) (iL (Z8 [1,1]) 2 1 ?_))
 intro v7
 refine Z5 0 (.n 23 (Z0 [1,1]) (.p .r)) (ZA [] (T3 [1,1] 0) (iL (Xc [Func.mk [1] 0 (Z2.mk 0 0 []),Func.mk [1,1] 1 (Z2.mk 0 0 []),Func.mk [1] 1 (Z2.mk 0 0 []),Func.mk [1,0] 1 (Z2.mk 0 0 []),Func.mk [2,1] 1 (Z2.mk 0 0 []),Func.mk [1,1] 0 (Z2.mk 0 0 [])]) 6 5 ?_))
 intro v8
 refine Z1 1 4 (Jk [Func.mk [1] 0 (Z2.mk 0 0 []),Func.mk [1,1] 1 (Z2.mk 0 0 []),Func.mk [1] 1 (Z2.mk 0 0 []),Func.mk [1,0] 1 (Z2.mk 0 0 []),Func.mk [2,1] 1 (Z2.mk 0 0 []),Func.mk [1,1] 0 (Z2.mk 0 0 [])] v8) (ie (ar (iL (Z8 [3]) 1 1 ?_)))
 intro v9
 refine Z5 0 (.n 26 (Z0 [3]) (.p .r)) (ZA [] (T3 [3] 0) (iL (Z8 [0]) 1 1 ?_))
 intro v10
 refine Z5 0 (.n 28 (Z0 [0]) (.p .r)) (ZA [] (T3 [0] 1) (iL (Z8 [0,1]) 2 1 ?_))
 intro v11
 refine Z5 0 (.n 30 (Z0 [0,1]) (.p .r)) (ZA [] (T3 [0,1] 1) (iL (Z8 [3,0]) 2 1 ?_))
 intro v12
 refine Z5 0 (.n 32 (Z0 [3,0]) (.p .r)) (ZA [] (T3 [3,0] 3) (iL (Z8 [3]) 1 1 ?_))
 intro v13
 refine Z5 0 (.n 34 (Z0 [3]) (.p .r)) (ZA [] (T3 [3] 1) (iL (Z8 [1,3,0]) 3 1 ?_))
 intro v14
 refine Z5 0 (.n 36 (Z0 [1,3,0]) (.p .r)) (ZA [] (T3 [1,3,0] 0) (iL (Xc [Func.mk [3] 0 (Z2.mk 0 0 []),Func.mk [0] 1 (Z2.mk 0 0 []),Func.mk [0,1] 1 (Z2.mk 0 0 []),Func.mk [3,0] 3 (Z2.mk 0 0 []),Func.mk [3] 1 (Z2.mk 0 0 []),Func.mk [1,3,0] 0 (Z2.mk 0 0 [])]) 6 5 ?_))
 intro v15
 refine Z1 1 5 (Jk [Func.mk [3] 0 (Z2.mk 0 0 []),Func.mk [0] 1 (Z2.mk 0 0 []),Func.mk [0,1] 1 (Z2.mk 0 0 []),Func.mk [3,0] 3 (Z2.mk 0 0 []),Func.mk [3] 1 (Z2.mk 0 0 []),Func.mk [1,3,0] 0 (Z2.mk 0 0 [])] v15) (ie (ar (iL (Z8 [0]) 1 1 ?_)))
 intro v16
 refine Z5 0 (.n 39 (Z0 [0]) (.p .r)) (ZA [] (T3 [0] 0) (iL (Z8 [0,0]) 2 1 ?_))
 intro v17
 refine Z5 0 (.n 41 (Z0 [0,0]) (.p .r)) (ZA [] (T3 [0,0] 0) (iL (Z8 [1,0]) 2 1 ?_))
 intro v18
 refine Z5 0 (.n 43 (Z0 [1,0]) (.p .r)) (ZA [] (T3 [1,0] 0) (iL (Z8 [0]) 1 1 ?_))
 intro v19
 refine Z5 0 (.n 45 (Z0 [0]) (.p .r)) (ZA [] (T3 [0] 1) (iL (Xc [Func.mk [0] 0 (Z2.mk 0 0 []),Func.mk [0,0] 0 (Z2.mk 0 0 []),Func.mk [1,0] 0 (Z2.mk 0 0 []),Func.mk [0] 1 (Z2.mk 0 0 [])]) 4 5 ?_))
 intro v20
 refine Z1 1 6 (Jk [Func.mk [0] 0 (Z2.mk 0 0 []),Func.mk [0,0] 0 (Z2.mk 0 0 []),Func.mk [1,0] 0 (Z2.mk 0 0 []),Func.mk [0] 1 (Z2.mk 0 0 [])] v20) (ie (aD 26 (ZZ 23 26 [2,3,4] (.n 50 (Jk [Func.mk [1] 0 (Z2.mk 0 0 []),Func.mk [1,1] 1 (Z2.mk 0 0 []),Func.mk [1] 1 (Z2.mk 0 0 []),Func.mk [1,0] 1 (Z2.mk 0 0 []),Func.mk [2,1] 1 (Z2.mk 0 0 []),Func.mk [1,1] 0 (Z2.mk 0 0 [])] v8) (.n 51 (.p rd 0) (.n 52 (Jk [Func.mk [1] 0 (Z2.mk 0 0 []),Func.mk [1,1] 1 (Z2.mk 0 0 []),Func.mk [1] 1 (Z2.mk 0 0 []),Func.mk [1,0] 1 (Z2.mk 0 0 []),Func.mk [2,1] 1 (Z2.mk 0 0 []),Func.mk [1,1] 0 (Z2.mk 0 0 [])] v8) .r))) (dn 5 (.i (([Func.mk [1] 0 (Z2.mk 0 0 []),Func.mk [1,1] 1 (Z2.mk 0 0 []),Func.mk [1] 1 (Z2.mk 0 0 []),Func.mk [1,0] 1 (Z2.mk 0 0 []),Func.mk [2,1] 1 (Z2.mk 0 0 []),Func.mk [1,1] 0 (Z2.mk 0 0 [])].length:Nat):Int)) (.i (((Xc [Func.mk [1] 0 (Z2.mk 0 0 []),Func.mk [1,1] 1 (Z2.mk 0 0 []),Func.mk [1] 1 (Z2.mk 0 0 []),Func.mk [1,0] 1 (Z2.mk 0 0 []),Func.mk [2,1] 1 (Z2.mk 0 0 []),Func.mk [1,1] 0 (Z2.mk 0 0 [])]).length:Nat):Int)) (li (by rw [Bg])) (ZZ 19 22 [9,10,11] (.n 57 (Jk [Func.mk [3] 0 (Z2.mk 0 0 []),Func.mk [0] 1 (Z2.mk 0 0 []),Func.mk [0,1] 1 (Z2.mk 0 0 []),Func.mk [3,0] 3 (Z2.mk 0 0 []),Func.mk [3] 1 (Z2.mk 0 0 []),Func.mk [1,3,0] 0 (Z2.mk 0 0 [])] v15) (.n 58 (.p rd 0) (.n 59 (Jk [Func.mk [3] 0 (Z2.mk 0 0 []),Func.mk [0] 1 (Z2.mk 0 0 []),Func.mk [0,1] 1 (Z2.mk 0 0 []),Func.mk [3,0] 3 (Z2.mk 0 0 []),Func.mk [3] 1 (Z2.mk 0 0 []),Func.mk [1,3,0] 0 (Z2.mk 0 0 [])] v15) .r))) (dn 12 (.i (([Func.mk [3] 0 (Z2.mk 0 0 []),Func.mk [0] 1 (Z2.mk 0 0 []),Func.mk [0,1] 1 (Z2.mk 0 0 []),Func.mk [3,0] 3 (Z2.mk 0 0 []),Func.mk [3] 1 (Z2.mk 0 0 []),Func.mk [1,3,0] 0 (Z2.mk 0 0 [])].length:Nat):Int)) (.i (((Xc [Func.mk [3] 0 (Z2.mk 0 0 []),Func.mk [0] 1 (Z2.mk 0 0 []),Func.mk [0,1] 1 (Z2.mk 0 0 []),Func.mk [3,0] 3 (Z2.mk 0 0 []),Func.mk [3] 1 (Z2.mk 0 0 []),Func.mk [1,3,0] 0 (Z2.mk 0 0 [])]).length:Nat):Int)) (li (by rw [Bg])) (ZZ 15 18 [16,17,18] (.n 64 (Jk [Func.mk [0] 0 (Z2.mk 0 0 []),Func.mk [0,0] 0 (Z2.mk 0 0 []),Func.mk [1,0] 0 (Z2.mk 0 0 []),Func.mk [0] 1 (Z2.mk 0 0 [])] v20) (.n 65 (.p rd 0) (.n 66 (Jk [Func.mk [0] 0 (Z2.mk 0 0 []),Func.mk [0,0] 0 (Z2.mk 0 0 []),Func.mk [1,0] 0 (Z2.mk 0 0 []),Func.mk [0] 1 (Z2.mk 0 0 [])] v20) .r))) (dn 19 (.i (([Func.mk [0] 0 (Z2.mk 0 0 []),Func.mk [0,0] 0 (Z2.mk 0 0 []),Func.mk [1,0] 0 (Z2.mk 0 0 []),Func.mk [0] 1 (Z2.mk 0 0 [])].length:Nat):Int)) (.i (((Xc [Func.mk [0] 0 (Z2.mk 0 0 []),Func.mk [0,0] 0 (Z2.mk 0 0 []),Func.mk [1,0] 0 (Z2.mk 0 0 []),Func.mk [0] 1 (Z2.mk 0 0 [])]).length:Nat):Int)) (li (by rw [Bg])) (Z9 0 (dL 0 [] [] (Z8 []) 0 1 ?_))))))))))
 intro v21
 refine ZZ 13 13 [] (.n 48 (Z0 []) (.p .r)) (Z9 1 (Ys 1 [] [] [] (T3 [] 0) (Z9 6 (dc 6 [22] [] [] (XU rd bs (p+1) (([Func.mk [1] 0 (Z2.mk 0 0 []),Func.mk [1,1] 1 (Z2.mk 0 0 []),Func.mk [1] 1 (Z2.mk 0 0 []),Func.mk [1,0] 1 (Z2.mk 0 0 []),Func.mk [2,1] 1 (Z2.mk 0 0 []),Func.mk [1,1] 0 (Z2.mk 0 0 [])].length:Nat):Int) (ZD:=ob)) ?_))))
 rintro _ _ ⟨k1,rfl,rfl,Y0⟩
 have qhp2:=Y0.lt (by simp)
 simp only [YS,Xn] at qhp2
 obtain ⟨x1,Z3⟩:=Zs (xs:=[Func.mk [1] 0 (Z2.mk 0 0 []),Func.mk [1,1] 1 (Z2.mk 0 0 []),Func.mk [1] 1 (Z2.mk 0 0 []),Func.mk [1,0] 1 (Z2.mk 0 0 []),Func.mk [2,1] 1 (Z2.mk 0 0 []),Func.mk [1,1] 0 (Z2.mk 0 0 [])]) (j:=k1.toNat) (by simp only [YS,Xn];omega)
 refine dx 7 (Zo (some v8) k1 5 (Dh Z3)) (ZZ 9 10 [8] (.n 56 (KS x1) (.p (.p (.q 49 (.d (.q 67 (.k (.k (.d (.q 60 (.k (.k (.d (.p (.d (.d (.d (.d (.p (.p (.d (.p (.d (.p (.d (.p (.d (.d (.p (.p (.d (.p (.d (.p (.d (.p (.d (.p (.d (.p (.d (.d (.p (.p (.d (.p (.d (.p (.d (.p (.d (.p (.d (.p (.d (.q 3 (.d (.p (.k (.k .z)))))))))))))))))))))))))))))))))))))))))))))))))))))))))))) (Z9 13 (dc 13 [0] [] [] (XU rd bs ((p+1)+1) (([Func.mk [3] 0 (Z2.mk 0 0 []),Func.mk [0] 1 (Z2.mk 0 0 []),Func.mk [0,1] 1 (Z2.mk 0 0 []),Func.mk [3,0] 3 (Z2.mk 0 0 []),Func.mk [3] 1 (Z2.mk 0 0 []),Func.mk [1,3,0] 0 (Z2.mk 0 0 [])].length:Nat):Int) (ZD:=ob)) ?_)))
 rintro _ _ ⟨k2,rfl,rfl,YB⟩
 have qhp3:=YB.lt (by simp)
 simp only [YS,Xn] at qhp3
 obtain ⟨x2,Zv⟩:=Zs (xs:=[Func.mk [3] 0 (Z2.mk 0 0 []),Func.mk [0] 1 (Z2.mk 0 0 []),Func.mk [0,1] 1 (Z2.mk 0 0 []),Func.mk [3,0] 3 (Z2.mk 0 0 []),Func.mk [3] 1 (Z2.mk 0 0 []),Func.mk [1,3,0] 0 (Z2.mk 0 0 [])]) (j:=k2.toNat) (by simp only [YS,Xn];omega)
 refine dx 14 (Zo (some v15) k2 5 (Dh Zv)) (ZY 6 7 [15] 63 (KS x2) (Z9 20 (dc 20 [0] [] [] (XU rd bs (((p+1)+1)+1) (([Func.mk [0] 0 (Z2.mk 0 0 []),Func.mk [0,0] 0 (Z2.mk 0 0 []),Func.mk [1,0] 0 (Z2.mk 0 0 []),Func.mk [0] 1 (Z2.mk 0 0 [])].length:Nat):Int) (ZD:=ob)) ?_)))
 rintro _ _ ⟨k3,rfl,rfl,YN⟩
 have qhp4:=YN.lt (by simp)
 simp only [YS,Xn] at qhp4
 obtain ⟨x3,YT⟩:=Zs (xs:=[Func.mk [0] 0 (Z2.mk 0 0 []),Func.mk [0,0] 0 (Z2.mk 0 0 []),Func.mk [1,0] 0 (Z2.mk 0 0 []),Func.mk [0] 1 (Z2.mk 0 0 [])]) (j:=k3.toNat) (by simp only [YS,Xn];omega)
 refine dx 21 (Zo (some v20) k3 5 (Dh YT)) (ZY 3 4 [22] 70 (KS x3) (Z9 23 (Pp 23 [] [] (Zl (Xc [Func.mk [] 0 (Z2.mk 0 0 []),x1,x2,x3])) 4 5 ?_)))
 intro g1
 refine ZY 1 2 [24] 72 (.p b2 1) (Z9 25 (YK 25 22 [] [] b2 [Ud ds1 v1,.ms g1 0 4 4] (de (ar (Z1 1 73 (.p rd 0) (iL (Z8 [4,4,3,2,4]) 5 1 ?_))))))
 intro v22
 refine Z5 0 (.n 74 (Z0 [4,4,3,2,4]) (.p .r)) (ic [3] (Sk rd bs ((((p+1)+1)+1)+1) [4,4,3,2,4] (ZD:=ob) (hy:=(by decide))) ?_)
 rintro _ _ ⟨nn1,rfl,rfl,YX⟩
 have hnn:=Z2e (a:=2) (b:=4) YX (by decide)
 refine Z1 1 7 (.i nn1) (ie (ar (Y1 3 77 (.ms g1 0 4 4) 78 (.i nn1) [2] [b2] (Zq (Ga 3 g1 4 4 nn1 5 (Zl (Xc [Func.mk [] 0 (Z2.mk 0 0 []),x1,x2,x3]))) (Z1 1 80 (.p b2 1) (ZH 2 b2 [Ud ds1 v1,.ms g1 0 nn1 4] (ie (aq (ar (Z1 1 81 (.i nn1) (ia (((nn1:Int)-1)) (((nn1:Int))-(1)) (Z1 1 8 (.i ((nn1:Int)-1)) (ie (ab 0 (al (fun m F h=>∃(j:Nat) (rq:List Func) (pq:Nat),(j<=nn1)/\(GL ds1 nn1 j rq)/\(p<=pq/\pq+90000*j<=p+10+90000*nn1)/\F=[(0,.p rd 0),(2,.p b1 0),(3,.p b2 0),(8,.i ((j:Int)-1))]/\h=[.obj b2 [Ud ds1 v1,.ms g1 0 nn1 4],Yl rd bs pq,.obj b1 [nl,nl],.tail v1 3,YI g1 rq]/\m=j+1) _ _ _ ⟨nn1,[Func.mk [] 0 (Z2.mk 0 0 []),x1,x2,x3],((((p+1)+1)+1)+1)+1,ob,(GL.start (GT Z3 (by decide)) (GT Zv (by decide)) (GT YT (by decide))),ob,rfl,rfl,rfl⟩ (wk [0,0,23,22,1] fl) ?_)))))))))))))))
 rintro m F h ⟨j,rq,pq,Ym,Zp,Zz,rfl,rfl,rfl⟩
 refine aq (ar (Z1 2 84 (.b (decide (((j:Int)-1)>=0))) (ie (ZM (((j:Int)-1)>=0) (fun Ze=>?_) (fun Ze=>?_)))))
 ·obtain ⟨f1,hf1⟩:=Zs (xs:=rq.take nn1) (j:=((j:Int)-1).toNat) (by rw [Zp.len_take om];omega)
  have hfq:rq[j-1]? = some f1:=by have h:=hf1;rw [show ((j:Int)-1).toNat=j-1 by omega,List.getElem?_take_of_lt om] at h;exact h
  refine ak (aq (ab 1 (ar (Y2 3 (.n 87 (.p rd 0) (.n 88 (.agg [Zd ds1,.ms g1 0 nn1 4]) (.n 89 (.i ((j:Int)-1)) .r))) [0] [b2] (ic [1,3] (Ry rd bs pq (XT.mk ds1 (rq.take nn1)) g1 rq f1 ((j:Int)-1) nn1 (ZD:=ob) (hg:=(Zp.gp hgd om)) (W8:=(List.take_prefix nn1 rq)) (hf:=hf1) (h0:=(fun h=>Zp.zero f1 (by rw [<-hfq,show j-1=0 by omega]))) (hn:=(Zp.len_take om))) ?_)))))
  rintro _ _ ⟨e1,p21,rfl,rfl,Xy⟩
  have hbw:eW ds1 nn1 f1.params.length e1/\(e1).sz<=30:=by have h:=Xy.1;unfold GE at h;rw [show (XT.mk ds1 (rq.take nn1)).funcs.length=nn1 from Zp.len_take om] at h;exact h
  refine iA [.i 0,.i 0,nl] ?_
  intro b3
  refine ZH 0 b3 (Yy e1) (ie (aE 19 (Y6 13 19 [0,1,2,3,4,5] (.n 92 (.ms g1 0 nn1 4) (.n 93 (.i ((j:Int)-1)) (.n 95 (.ms g1 0 nn1 4) (.n 96 (.i ((j:Int)-1)) .r)))) [3,3] [b2,b2] (dx 6 (W5 g1 nn1 4 (((j:Int)-1).toNat) 5 ((j:Int)-1)) (ZY 11 12 [7] 98 (.val (.pointer (some ⟨g1,(((j:Int)-1).toNat)*5,none⟩))) (VM 8 (WV 2 g1 4 4 5 ((((j:Int)-1).toNat)*5+0) (Zl (Xc rq)) [Z0 f1.params] 27 (Z0 f1.params) (VY (List.take_prefix nn1 rq) hf1 0 rfl (WF rfl))) (Y6 7 10 [9,10,11] (.n 101 (.ms g1 0 nn1 4) (.n 102 (.i ((j:Int)-1)) .r)) [3] [b2] (dx 12 (W5 g1 nn1 4 (((j:Int)-1).toNat) 5 ((j:Int)-1)) (ZY 5 6 [13] 104 (.val (.pointer (some ⟨g1,(((j:Int)-1).toNat)*5+1,none⟩))) (VM 14 (WV 2 g1 4 4 5 ((((j:Int)-1).toNat)*5+1) (Zl (Xc rq)) [.i f1.result] 3 (.i f1.result) (VY (List.take_prefix nn1 rq) hf1 1 rfl (WF rfl))) (Y6 2 4 [15,16] (.n 107 (.agg [Z0 f1.params,.i f1.result,.i e1.op,.i e1.num,X3 e1.kids]) .r) [0] [b3] (dx 17 (W5 g1 nn1 4 (((j:Int)-1).toNat) 5 ((j:Int)-1)) (Z9 18 (At 18 2 [] [] g1 4 4 5 ((((j:Int)-1).toNat)*5) [Z0 f1.params,.i f1.result,.i e1.op,.i e1.num,X3 e1.kids] (Zl (Xc rq)) (Zl (Xc (rq.set ((j:Int)-1).toNat ⟨f1.params,f1.result,e1⟩))) (by rw [FD,Zp.len];simp only [YS,Xn];omega) (Ri ⟨f1.params,f1.result,e1⟩ (by rw [Zp.len];omega)) (de (az (Z1 1 85 (.i ((j:Int)-1)) (ia ((((j:Int)-1)-1)) (((j:Int)-1)-(1)) (ir 1 [(0,.p rd 0),(2,.p b1 0),(3,.p b2 0),(8,.i (((j:Int)-1)-1))] (ie ?_))))))))))))))))))))
  exact ZQ ⟨(j-1),(rq.set ((j:Int)-1).toNat ⟨f1.params,f1.result,e1⟩),p21,ob,(by rw [show ((j:Int)-1).toNat=j-1 by omega];exact Zp.set om hfq hbw),ob,rfl,rfl,rfl⟩ (wk [3,2,2,2,0] (fw (fr (fc (x:=.i (((j:Int)-1)-1)) li fl))))
 refine ax 0 (ar (Yk 1 109 (.agg [Ud ds1 v1,.ms g1 0 nn1 4]) [0] [b2] (ZH 2 b1 [Ud ds1 v1,.ms g1 0 nn1 4] (ie ?_))))
 exact Zc (r3 [4,2] [.agg [Ud ds1 v1,.ms g1 0 nn1 4]] [0] [(b1,b1)] ⟨rq,ds1,nn1,g1,pq,rfl,rfl,⟨⟨by rw [show j=0 by omega] at Zp;exact Zp,hgd,by omega,by omega⟩,by omega⟩⟩ (Zg.agg (.cons (Zg.forget _ _) (.cons (lr _) .nil))))
theorem RX (rd:Nat) (bs:List Int) (p:Nat) (ZD:∀z∈bs,0<=z/\z<=255) (hp:p+400000<=1000000000:=by exact ob):Zj Tryz.prog 120 [.p rd 0] [Yl rd bs p] (fun r h=>∃(g:XT) (p2:Nat),r=Tf g/\h=[Yl rd bs p2]/\EK g/\p<=p2/\p2<=p+400000):=(Zj.frzP (E:=List Func × List Zf × Nat × Nat) (ds:=fun e=>e.2.1) (rs:=fun e=>e.1) (m:=fun e=>e.2.2.1) (hs:=fun e=>[.obj rd [X9 bs,.i (e.2.2.2:Nat)]]) (Q:=fun e=>(GL e.2.1 e.2.2.1 0 e.1/\GD e.2.1/\1<=e.2.2.1/\e.2.2.1<=4)/\p<=e.2.2.2/\e.2.2.2<=p+400000)
  ((RY rd bs p ZD hp).mono fun r h ⟨rs,ds,m,gb,p2,hr,hh,hq⟩=>⟨(rs,ds,m,p2),gb,hr,hh,hq⟩) fun e hq=>⟨hq.1.2.2.2,hq.1.1.len⟩).mono
  fun r h ⟨e,hr,hh,hq⟩=>⟨⟨e.2.1,e.1.take e.2.2.1⟩,e.2.2.2,hr,hh,hq.1.1.done hq.1.2.1 hq.1.2.2,hq.2⟩
theorem FP (a:Nat) (n:Nat) (ha:a<=1000000:=by exact ob) (hn:n<=1000000:=by exact ob):Zj Tryz.prog 153 [.i a,.i n] [] (fun r h=>∃(xs:List Int),r=Z0 xs/\h=[]/\xs.length=n/\∀i∈xs,(a:Int)<=i/\i<(a:Int)+n):=by
 refine ZK 20 Tryz.func153 (ar (ir 1 [(0,.i a),(1,.i n)] (ie (ar (iL (Z8 []) 0 1 ?_)))))
 intro v1
 refine Z1 1 5 (Z6 [] v1) (ie (aq (ar (Z1 1 6 (.i 0) (ie (ab 0 (al (fun m F h=>∃(k:Nat) (ys:List Int) (u:Value),(k<=n)/\(ys.length=k)/\(∀i∈ys,(a:Int)<=i/\i<(a:Int)+n)/\F=[(0,.i a),(1,.i n),(5,Z6 ys u),(6,.i k)]/\h=[.tail u 1]/\m=n-k) _ _ _ ⟨0,[],v1,ob,ob,(fun i hi=>by cases hi),rfl,rfl,rfl⟩ (wk [0] (fw (fr (Ye fl)))) ?_)))))))
 rintro m F h ⟨k,ys,u,Ym,Zp,Zz,rfl,rfl,rfl⟩
 refine aq (ar (Z1 3 10 (.b (decide ((k:Int)<(n:Int)))) (ie (ZM ((k:Int)<(n:Int)) (fun Ze=>?_) (fun Ze=>?_)))))
 ·refine ak (aq (ab 1 (az (Z5 3 (.n 13 (Z6 ys u) (.n 14 (.i a) (.n 15 (.i k) .r))) (ia (((a+k:Nat):Int)) (((a:Int))+((k:Int))) (iL (Z8 [((a+k:Nat):Int)]) 1 1 ?_))))))
  intro v2
  refine Z5 0 (.n 17 (Z0 [((a+k:Nat):Int)]) (.p .r)) (ip 1 (Z8 (ys++[((a+k:Nat):Int)])) (Z8 ys) (Z8 [((a+k:Nat):Int)]) u none 1 (YD _) (YD _) (XY _) (by simp<;>omega) (by simp [XX,Z8]) ?_)
  intro v3
  refine Z5 1 (.n 5 (Z6 (ys++[((a+k:Nat):Int)]) v3) (.p (.d (.p (.d (.d (.d (.d (.k (.k (.d .r))))))))))) (ie (az (Z1 1 11 (.i k) (ZO k (Z5 1 (.n 6 (.i (k+1:Nat)) (.p (.d (.k (.k (.k .z)))))) (ie ?_))))))
  exact ZQ ⟨k+1,(ys++[((a+k:Nat):Int)]),v3,ob,ob,(Xq Zz om),rfl,rfl,rfl⟩ (wk [0] (fw (fr (ZW k fl))))
 refine ax 0 (ar (ir 2 [(4,Z6 ys u)] (ie ?_)))
 exact Zc (r2 [] [Z6 ys u] ⟨ys,rfl,rfl,⟨by omega,Zz⟩⟩ (Zg.forget _ _))
theorem IK (l:Nat) (xs:List Z4) (w:Value) (q:Nat) (s:Z4) (hl:xs.length<=4000000000:=by exact ob) (hq:q<=1000000:=by exact ob):Zj Tryz.prog 218 [.p l 0,Y4 s] [.obj l [ZX xs w,.i q],.tail w 5] (fun r h=>∃(w2:Value),r=.i q/\h=[.obj l [ZX (xs++[s]) w2,.i (((q+1):Nat):Int)],.tail w2 5]):=by
 refine ZK 28 Tryz.func218 (ar (iA (Yg s) ?_))
 intro b1
 refine ir 1 [(0,.p l 0),(3,.p b1 0)] (ie (aD 11 (Y6 5 11 [0,1,2,3,4,5] (.n 5 (.p l 0) (.n 9 (ZX xs w) (.n 10 (Y4 s) .r))) [1,0] [l,b1] (Z9 6 (Wj 6 [1] [l] [Y4 s] (Zt [s]) (Vb [s]).symm 1 5 ?_)))))
 intro v1
 refine ZZ 4 4 [] (.n 11 (Yj [s]) (.p .r)) (Z9 7 (dp 7 3 [] [] (Zt (xs++[s])) (Zt xs) (Zt [s]) w none 5 (X8 _) (X8 _) (Vs _) (by simp<;>omega) (by simp [Wx,Zt]) ?_))
 intro v2
 refine ZY 1 3 [8,9] 14 (.p l 0) (Z9 10 (YK 10 3 [] [] l [ZX (xs++[s]) v2,.i q] (de (ar (Y1 5 15 (.p l 0) 19 (.i q) [0] [l] (ZO q (Z1 2 22 (.p l 1) (ZH 0 l [ZX (xs++[s]) v2,.i (q+1:Nat)] (ie (ar (iR 4 [(26,.i (q+1:Nat))] [0] [l] (ia ((((q+1:Nat):Int)-1)) ((((q+1:Nat):Int))-(1)) (ir 1 [(4,.i (((q+1:Nat):Int)-1))] (ie ?_))))))))))))))
 exact Zc (r2 [0,0] [.i (((q+1:Nat):Int)-1)] ⟨v2,rfl,rfl⟩ li)
theorem IV (g:XT) (e:Z2) (us:List Int) (q:Nat) (bb:Nat) (he:eW g.decls g.funcs.length us.length e:=by exact ob) (hu:∀a∈us,0<=a/\a<(q:Int)) (hul:us.length+4*e.sz<=100000:=by exact ob) (hql:q+6*e.sz<=100000:=by exact ob) (hb:e.sz<bb:=by exact ob) (ih:∀(l:Nat) (e2:Z2) (us2:List Int) (xs2:List Z4) (w2:Value) (q2:Nat),(eW g.decls g.funcs.length us2.length e2)->(∀a∈us2,0<=a/\a<(q2:Int))->(us2.length+4*e2.sz<=100000)->(xs2.length+6*e2.sz<=100000)->(q2+6*e2.sz<=100000)->(e2.sz<bb)->Zj Tryz.prog 188 [.p l 0,Tf g,ZF e2,Z0 us2] [.obj l [ZX xs2 w2,.i q2],.tail w2 5] (fun r h=>∃(ys:List Z4) (v:Int) (w2:Value),r=.i v/\h=[.obj l [ZX (xs2++ys) w2,.i (((q2+YO ys):Nat):Int)],.tail w2 5]/\LW g.decls g.funcs.length q2 e2 ys v)):Zj Tryz.prog 152 [Tf g,ZF e,Z0 us,.i q] [] (fun r h=>∃(b:Z7),r=Zx b/\h=[]/\LB g.decls g.funcs.length q e b):=by
 refine ZK 26 Tryz.func152 (ar (iA (Jh g) ?_))
 intro b1
 refine iA (Yy e) ?_
 intro b2
 refine iA [nl,.i 0] ?_
 intro b3
 refine ie (ar (iL (Zt []) 0 5 ?_))
 intro v1
 refine ir 2 [(2,Z0 us),(4,.p b1 0),(5,.p b2 0),(8,.p b3 0),(13,.agg [ZX [] v1,.i q])] (iA [ZX [] v1,.i q] ?_)
 intro b4
 refine Z1 1 9 (.p b4 0) (ie (ar (Y2 4 (.n 15 (.p b4 0) (.n 16 (Tf g) (.n 17 (ZF e) (.n 18 (Z0 us) .r)))) [4,3] [b1,b2] (ic [0,0] (ih b4 e us [] v1 q he hu ob ob ob ob) ?_))))
 rintro _ _ ⟨ys1,v2,w21,rfl,rfl,ZP⟩
 have hlw:=ZP
 refine Z1 1 10 (.i v2) (ie (ar (Yk 6 25 (.agg [ZX ([]++ys1) w21,.i v2]) [0] [b4] (ZH 2 b3 [ZX ([]++ys1) w21,.i v2] (ie ?_)))))
 exact Zc (r3 [] [.agg [ZX ([]++ys1) w21,.i v2]] [0] [(b3,b3)] ⟨(Z7.mk ([]++ys1) v2),rfl,rfl,(by rw [AZ];exact hlw.block)⟩ (Zg.agg (.cons (Zg.forget _ _) (.cons (lr _) .nil))))
theorem Sb (l:Nat) (g:XT) (e:Z2) (us:List Int) (xs:List Z4) (w:Value) (q:Nat) (hd:GD g.decls) (he:eW g.decls g.funcs.length us.length e) (hu:∀a∈us,0<=a/\a<(q:Int)) (hul:us.length+4*e.sz<=100000) (hxl:xs.length+6*e.sz<=100000) (hql:q+6*e.sz<=100000) (ih:∀(l:Nat) (e2:Z2) (us2:List Int) (xs2:List Z4) (w2:Value) (q2:Nat),(eW g.decls g.funcs.length us2.length e2)->(∀a∈us2,0<=a/\a<(q2:Int))->(us2.length+4*e2.sz<=100000)->(xs2.length+6*e2.sz<=100000)->(q2+6*e2.sz<=100000)->(e2.sz<e.sz)->Zj Tryz.prog 188 [.p l 0,Tf g,ZF e2,Z0 us2] [.obj l [ZX xs2 w2,.i q2],.tail w2 5] (fun r h=>∃(ys:List Z4) (v:Int) (w2:Value),r=.i v/\h=[.obj l [ZX (xs2++ys) w2,.i (((q2+YO ys):Nat):Int)],.tail w2 5]/\LW g.decls g.funcs.length q2 e2 ys v)):Zj Tryz.prog 188 [.p l 0,Tf g,ZF e,Z0 us] [.obj l [ZX xs w,.i q],.tail w 5] (fun r h=>∃(ys:List Z4) (v:Int) (w2:Value),r=.i v/\h=[.obj l [ZX (xs++ys) w2,.i (((q+YO ys):Nat):Int)],.tail w2 5]/\LW g.decls g.funcs.length q e ys v):=by
 have Xu:=hd.ok
 obtain ⟨ho,h12,h13,h7,h8,h9,hnum,hkl,hks⟩:=(R4 e).1 he
 have hez:=e.sz_eq
 refine ZK 148 Tryz.func188 (ar (iA (Jh g) ?_))
 intro b1
 refine iA (Yy e) ?_
 intro b2
 refine ir 1 [(0,.p l 0),(3,Z0 us),(5,.p b1 0),(6,.p b2 0)] (ie (aq (ar (Yk 2 19 (.i e.op) [0] [b2] (ie (ab 0 (ar (Z1 2 20 (.b (e.op==12)) (ie (ac (e.op==12) Zh (fun Ze=>?_) (fun Ze=>?_)))))))))))
 ·refine ar (iR 3 [(22,Z0 us),(24,.i e.num)] [0] [b2] ?_)
  obtain ⟨x1,Z3⟩:=Zs (xs:=us) (j:=e.num.toNat) (by have:=h12 om;omega)
  have huv:=hu _ (Y7 Z3)
  refine Zq (Zo none e.num 1 (Y3 Z3)) (ir 2 [(8,.i x1)] (ie ?_))
  exact Zc (r1 [2,2] ⟨[],x1,w,rfl,rfl,(LW.var huv)⟩ (eq:=(ro (ls:=[ZX xs w,.i q]) (by simp [YO]) (rc rz))))
 refine ar (Z1 2 27 (.b (e.op==13)) (ie (ac (e.op==13) Zh (fun Zk=>?_) (fun Zk=>?_))))
 ·refine aD 9 (Y6 5 9 [0,1,2,3] (.n 29 (.p l 0) (.n 30 (Tf g) (.n 32 (X3 e.kids) .r))) [1,0] [b1,b2] ?_)
  obtain ⟨x2,Zv⟩:=Zs (xs:=e.kids) (j:=0) (by have:=h13 om;omega)
  have hekx2:=Bi hks Zv
  have hszx2:=Ay Zv
  have htzx2:=JN Zv
  rw [WQ] at hekx2
  rw [MS om] at hekx2
  refine dx 4 (Zo none 0 3 (Bf Zv)) (ZZ 2 4 [5,6] (.n 34 (ZF x2) (.n 35 (Z0 us) .r)) (Z9 7 (dc 7 [2,2] [] [] (ih l x2 us xs w q (by first|assumption|(rw [Yx];assumption)) (by first|assumption|exact CO hu hlwhp1.v|exact Ev hu) (by first|omega|(simp only [Yx,YS,Xn];omega)) (by first|omega|(simp only [Yx,YS,Xn];omega)) ob ob) ?_)))
  rintro _ _ ⟨ys1,v1,w21,rfl,rfl,ZP⟩
  have hlwhp1:=ZP
  have hldhp1:=ZP.dn
  refine ZY 0 1 [8] 9 (.i v1) (de (aD 12 (Y6 8 12 [0,1,2,3] (.n 37 (.p l 0) (.n 38 (Tf g) (.n 40 (X3 e.kids) .r))) [3,2] [b1,b2] ?_)))
  obtain ⟨x3,YT⟩:=Zs (xs:=e.kids) (j:=1) (by have:=h13 om;omega)
  have hz2:=Io Zv YT
  have hz3:=x2.sz_eq
  have hekx3:=Bi hks YT
  have hszx3:=Ay YT
  have htzx3:=JN YT
  rw [WQ] at hekx3
  rw [MS om] at hekx3
  refine dx 4 (Zo none 1 3 (Bf YT)) (ZZ 4 7 [5,6,7] (.n 42 (ZF x3) (.n 43 (Z0 us) (.n 44 (.i v1) .r))) (Z9 8 (dL 8 [1,2] [b2,b1] (Z8 [v1]) 1 1 ?_)))
  intro v2
  refine ZZ 3 3 [] (.n 45 (Z0 [v1]) (.p .r)) (Z9 9 (dc 9 [] [1,2] [b2,b1] (Q2 us [v1]) ?_))
  rintro _ _ ⟨v3,rfl,rfl⟩
  refine ZZ 2 2 [] (.n 46 (Z0 (us++[v1])) (.p .r)) (Z9 10 (dc 10 [2,2] [] [] (ih l x3 (us++[v1]) (xs++ys1) w21 (q+YO ys1) (by first|assumption|(rw [Yx];assumption)) (by first|assumption|exact CO hu hlwhp1.v|exact Ev hu) (by first|omega|(simp only [Yx,YS,Xn];omega)) (by first|omega|(simp only [Yx,YS,Xn];omega)) ob ob) ?_))
  rintro _ _ ⟨ys2,v4,w22,rfl,rfl,Y0⟩
  have hlwhp2:=Y0
  have hldhp2:=Y0.dn
  refine Xa 0 1 [11] [(8,.i v4)] (de ?_)
  exact Zc (r1 [0,0] ⟨(ys1++ys2),v4,w22,rfl,rfl,(LW.let_ hlwhp1 hlwhp2 (by have:=Io Zv YT;omega))⟩ (eq:=(ro (ls:=[ZX ((xs++ys1)++ys2) w22,.i ((((q+YO ys1)+YO ys2):Nat):Int)]) (by rw [QY,<-Ju,TI]) (rc rz))))
 refine aq (ar (Z1 2 48 (.b (e.op==7)) (ie (XI (fun F h=>F=[(0,.p l 0),(3,Z0 us),(5,.p b1 0),(6,.p b2 0),(48,.b ((e.op==7)||(e.op==8)))]/\h=[.obj b2 (Yy e),.obj b1 (Jh g),.obj l [ZX xs w,.i q],.tail w 5]) ?_ ?_))))
 ·refine ac (e.op==7) Zh (fun ZI=>?_) (fun ZI=>?_)
  ·refine ak ?_
   exact ZV ⟨rfl,rfl⟩ (ZL 4 (fq (fc (x:=.b (e.op==7)) (lb (by first|rfl|(rw [Zm ZI])|(rw [Zb ZI])|(simp [ZI];done)|(rw [Xm];simp [ZI];done)|omega)) fl)))
  refine az (ir 2 [(0,.p l 0),(3,Z0 us),(5,.p b1 0),(6,.p b2 0),(48,.b (e.op==8))] (ie ?_))
  exact ZV ⟨rfl,rfl⟩ (ZL 4 (fq (fc (x:=.b (e.op==8)) (lb (by first|rfl|(rw [Zm ZI])|(rw [Zb ZI])|(simp [ZI];done)|(rw [Xm];simp [ZI];done)|omega)) fl)))
 rintro F h ⟨rfl,rfl⟩
 refine ac ((e.op==7)||(e.op==8)) (p:=(e.op=7)∨(e.op=8)) (Yh Zh Zh) (fun Yi=>?_) (fun Yi=>?_)
 ·refine aD 9 (W2 5 9 [0,1,2,3] [(0,.p l 0),(3,Z0 us),(5,.p b1 0),(6,.p b2 0),(51,.p l 0),(52,Tf g),(54,X3 e.kids)] [1,0] [b1,b2] ?_)
  obtain ⟨x4,Ub⟩:=Zs (xs:=e.kids) (j:=0) om
  have hekx4:=Bi hks Ub
  have hszx4:=Ay Ub
  have htzx4:=JN Ub
  rw [WQ] at hekx4
  rw [Z48 om] at hekx4
  refine dx 4 (Zo none 0 3 (Bf Ub)) (ZZ 2 4 [5,6] (.n 56 (ZF x4) (.n 57 (Z0 us) .r)) (Z9 7 (dc 7 [2,2] [] [] (ih l x4 us xs w q (by first|assumption|(rw [Yx];assumption)) (by first|assumption|exact CO hu hlwhp1.v|exact Ev hu) (by first|omega|(simp only [Yx,YS,Xn];omega)) (by first|omega|(simp only [Yx,YS,Xn];omega)) ob ob) ?_)))
  rintro _ _ ⟨ys3,v5,w23,rfl,rfl,YB⟩
  have hlwhp3:=YB
  have hldhp3:=YB.dn
  refine ZY 0 1 [8] 10 (.i v5) (de (ar (iL (YH []) 0 2 ?_)))
  intro v6
  refine Z1 1 11 (X4 [] v6) (ie (ar (Y1 4 61 (Zd g.decls) 63 (.i e.num) [4,3] [b1,b2] (ic [] (KH g.decls e.num) ?_))))
  rintro _ _ ⟨v7,rfl,rfl⟩
  refine Z1 1 12 (Z6 (Zu g.decls e.num) v7) (ie (aq (ar (Z1 1 13 (.i 1) (ie (ab 1 (al (fun m F h=>∃(k:Nat) (cs:List Z7) (u:Value),(1<=k/\k<=e.kids.length)/\(cs.length+1=k)/\(T2 g.decls g.funcs.length (Ut g.decls e.op e.num (q+YO ys3)) 0 cs)/\(YY cs+6*x4.sz<=cs.length+6*Xo (e.kids.take k))/\(TX Wq cs)/\F=[(0,.p l 0),(3,Z0 us),(5,.p b1 0),(6,.p b2 0),(10,.i v5),(11,X4 cs u),(12,Z0 (Zu g.decls e.num)),(13,.i k)]/\h=[.obj l [ZX (xs++ys3) w23,.i (((q+YO ys3):Nat):Int)],.obj b2 (Yy e),.obj b1 (Jh g),.tail u 2,.tail w23 5]/\m=e.kids.length-k) _ _ _ ⟨1,[],v6,ob,ob,True.intro,(by have h:Xo (e.kids.take 1)=Xo (e.kids.take 0)+x4.sz:=JN Ub;simp only [YY,Xn];omega),True.intro,rfl,rfl,rfl⟩ (wk [2,3,3,1,1] (fq (fw (fc (x:=Z6 (Zu g.decls e.num) v7) (Zg.forget _ _) (fc (x:=.i 1) li fl))))) ?_)))))))
  rintro m F h ⟨k,cs,u,Ym,Zp,Zz,YJ,Wd,rfl,rfl,rfl⟩
  refine aq (ar (Y1 3 65 (.i k) 67 (X3 e.kids) [1] [b2] (iw (Ft e.kids) (Z1 1 69 (.b (decide ((k:Int)<(e.kids.length:Int)))) (ie (ZM ((k:Int)<(e.kids.length:Int)) (fun Xk=>?_) (fun Xk=>?_)))))))
  ·refine ak (aq (ab 2 (ar (Z1 1 14 (.i 0) (ie (aq (ar (Yk 3 74 (.b (e.op==8)) [1] [b2] (ie (XI (fun F h=>∃(mf:Nat),(Ut g.decls e.op e.num (q+YO ys3) cs.length=(q+YO ys3)+mf)/\(mf<=3)/\(Tb g.decls e.op e.num us.length k=us.length+mf)/\F=[(0,.p l 0),(3,Z0 us),(5,.p b1 0),(6,.p b2 0),(10,.i v5),(11,X4 cs u),(12,Z0 (Zu g.decls e.num)),(13,.i k),(14,.i mf)]/\h=[.obj l [ZX (xs++ys3) w23,.i (((q+YO ys3):Nat):Int)],.obj b2 (Yy e),.obj b1 (Jh g),.tail u 2,.tail w23 5]) ?_ ?_))))))))))
   ·refine ac (e.op==8) Zh (fun Xl=>?_) (fun Xl=>?_)
    ·refine aE 10 (W2 6 10 [0,1,2,3] [(0,.p l 0),(3,Z0 us),(5,.p b1 0),(6,.p b2 0),(10,.i v5),(11,X4 cs u),(12,Z0 (Zu g.decls e.num)),(13,.i k),(14,.i 0),(76,Zd g.decls),(77,Z0 (Zu g.decls e.num)),(78,.i k)] [2] [b1] (da 4 (((k-1:Nat):Int)) (((k:Int))-(1)) ?_))
     obtain ⟨x5,UF⟩:=Zs (xs:=Zu g.decls e.num) (j:=k-1) (by have:=h8 om;omega)
     refine dx 5 (Zo none ((k-1:Nat):Int) 1 (Y3 UF)) (ZY 3 4 [6] 81 (.i x5) (Z9 7 (Ys 7 [] [] [] (Qh g.decls x5) (dn 8 (.i (((ZB g.decls x5).length:Nat):Int)) (.i (((Z8 (ZB g.decls x5)).length:Nat):Int)) (li (by rw [Yd])) (ZZ 0 1 [9] (.n 14 (.i (((ZB g.decls x5).length:Nat):Int)) (.p (.p (.d (.p (.p (.w (.w .z)))))))) (de ?_))))))
     exact ZV ⟨(ZB g.decls x5).length,(GO om (by rw [show cs.length=k-1 by omega];exact UF)),(by have:=VH Xu x5;omega),(Z49 om (show k=(k-1)+1 by omega) UF),rfl,rfl⟩ (ZL 5 (fq (fq (fc (x:=.i (((ZB g.decls x5).length:Nat):Int)) (li (by first|rfl|(rw [Zm Xl])|(rw [Zb Xl])|(simp [Xl];done)|(rw [Xm];simp [Xl];done)|omega)) fl))))
    refine ak ?_
    exact ZV ⟨0,(GQ om),om,(MT om),rfl,rfl⟩ (ZL 5 (fq (fq (fc (x:=.i 0) (li (by first|rfl|(rw [Zm Xl])|(rw [Zb Xl])|(simp [Xl];done)|(rw [Xm];simp [Xl];done)|omega)) fl))))
   rintro F h ⟨mf,Z11,Z81,Z12,rfl,rfl⟩
   refine aE 25 (W2 20 25 [0,1,2,3,4] [(0,.p l 0),(3,Z0 us),(5,.p b1 0),(6,.p b2 0),(10,.i v5),(11,X4 cs u),(12,Z0 (Zu g.decls e.num)),(13,.i k),(14,.i mf),(84,X4 cs u),(85,Tf g),(87,X3 e.kids),(88,.i k)] [2,1] [b1,b2] ?_)
   obtain ⟨x6,AH⟩:=Zs (xs:=e.kids) (j:=k) om
   have hekx6:=Bi hks AH
   have hszx6:=Ay AH
   have htzx6:=JN AH
   rw [WQ] at hekx6
   rw [Z12] at hekx6
   have htk:=J5 (xs:=e.kids) (k+1)
   have hbl:=D5 cs
   refine dx 5 (Zo none (k:Int) 3 (Bf AH)) (Y6 7 19 [6,7,8,9,10,11,12,15,16,17,18,19] (.n 90 (ZF x6) (.n 91 (Z0 us) (.n 95 (.i (((q+YO ys3):Nat):Int)) (.n 96 (.i mf) (.n 102 (.i (((q+YO ys3):Nat):Int)) (.n 103 (.i mf) .r)))))) [0,0] [l,l] (da 20 ((((q+YO ys3)+mf:Nat):Int)) (((((q+YO ys3):Nat):Int))+((mf:Int))) (Z9 13 (dc 13 [] [0,1,2] [l,b2,b1] (FP (q+YO ys3) mf) ?_))))
   rintro _ _ ⟨xs1,rfl,rfl,YN⟩
   have hnx:=YN
   refine Z9 14 (dc 14 [] [0,1,2] [l,b2,b1] (Q2 us xs1) ?_)
   rintro _ _ ⟨v8,rfl,rfl⟩
   refine ZZ 4 4 [] (.n 98 (Z0 (us++xs1)) (.p .r)) (Z9 21 (dc 21 [] [] [] (IV g x6 (us++xs1) ((q+YO ys3)+mf) e.sz (he:=(by rw [Yx,hnx.1];exact hekx6)) (hu:=(Z70 hu hnx.2)) (hul:=(by rw [Yx,hnx.1];omega)) (hql:=om) (ih:=ih)) ?_))
   rintro _ _ ⟨b3,rfl,rfl,YX⟩
   have hlb:=YX
   refine Z9 22 (Wj 22 [] [] [Zx b3] (YH [b3]) (Um [b3]).symm 1 2 ?_)
   intro v9
   refine ZZ 2 2 [] (.n 106 (Yz [b3]) (.p .r)) (Z9 23 (dp 23 5 [] [] (YH (cs++[b3])) (YH cs) (YH [b3]) u none 2 (T0 _) (T0 _) (Df _) (by simp<;>omega) (by simp [J0,YH]) ?_))
   intro v10
   refine ZZ 0 1 [24] (.n 11 (X4 (cs++[b3]) v10) (.p (.d (.p (.d (.p (.p (.d (.d (.d (.d (.d (.d (.p (.w (.k (.d (.k (.k .z))))))))))))))))))) (de (az (Z1 1 70 (.i k) (ZO k (Z5 1 (.n 13 (.i (k+1:Nat)) (.p (.d (.w (.k (.k (.k .z))))))) (ie ?_))))))
   exact ZQ ⟨k+1,(cs++[b3]),v10,ob,ob,(Iq Zz (by rw [Z11];exact hlb.1)),(by have:=hlb.2;rw [BV,Yx];simp only [YY,YS,Xn];omega),(Mb Wd hlb.op),rfl,rfl,rfl⟩ (wk [3,3,3,0,2] (fq (fw (fr (ZW k fl)))))
  refine ax 1 (ar (Y2 6 (.n 108 (.p l 0) (.n 110 (.i e.op) (.n 112 (.i e.num) (.n 113 (.i v5) .r)))) [1,1] [b2,b2] (iL (Z8 [v5]) 1 1 ?_)))
  intro v11
  refine Z1 2 116 (.agg [.i e.op,.i e.num,.i 0,Z0 [v5],Yz cs]) (ic [1,4] (IK l (xs++ys3) w23 (q+YO ys3) (Z4.mk e.op e.num 0 [v5] cs) (hl:=(by first|(have h1:=K8 zs;have h2:=J5 (xs:=e.kids) k;have h3:=Au zs;(try simp only [Yx]);omega)|((try simp only [Yx]);omega))) (hq:=(by first|(have h1:=K8 zs;have h2:=J5 (xs:=e.kids) k;have h3:=Au zs;(try simp only [Yx]);omega)|((try simp only [Yx]);omega)))) ?_)
  rintro _ _ ⟨w24,rfl,rfl⟩
  refine ir 1 [(8,.i (((q+YO ys3):Nat):Int))] (ie ?_)
  have hcb:YF e.op=false:=by simp [YF];omega
  exact Zc (r1 [0,0] ⟨(ys3++[Z4.mk e.op e.num 0 [v5] cs]),(((q+YO ys3):Nat):Int),w24,rfl,rfl,(LW.branch (s0:=x4.sz) (sr:=Xo (e.kids.take k)-x4.sz) om (fun h=>by have:=h7 h;omega) (fun h=>by have:=h8 h;omega) hnum hlwhp3.fs hlwhp3.v Zz om hlwhp3.sz (by have:=D5 cs;omega) (by have:=J5 (xs:=e.kids) k;omega) hlwhp3.op Wd)⟩ (eq:=(ro (ls:=[ZX ((xs++ys3)++[(Z4.mk e.op e.num 0 [v5] cs)]) w24,.i ((((q+YO ys3)+1):Nat):Int)]) (by rw [BZ (s:=Z4.mk e.op e.num 0 [v5] cs) hcb,<-Ju,TI]) (rc rz))))
 refine ak (ar (iL (Z8 []) 0 1 ?_))
 intro v12
 refine ir 1 [(0,.p l 0),(3,Z0 us),(5,.p b1 0),(6,.p b2 0),(15,Z6 [] v12)] (ie (aq (ar (Z1 1 16 (.i 0) (ie (ab 3 (al (fun m F h=>∃(k:Nat) (asl:List Int) (u:Value) (zs:List Z4) (w3:Value),(k<=e.kids.length)/\(asl.length=k)/\(UC g.decls g.funcs.length q zs)/\(∀a∈asl,0<=a/\a<((q+YO zs:Nat):Int))/\(Yu zs<=6*Xo (e.kids.take k))/\(Ta Wq zs)/\F=[(0,.p l 0),(3,Z0 us),(5,.p b1 0),(6,.p b2 0),(15,Z6 asl u),(16,.i k)]/\h=[.obj b2 (Yy e),.obj b1 (Jh g),.obj l [ZX (xs++zs) w3,.i (((q+YO zs):Nat):Int)],.tail u 1,.tail w3 5]/\m=e.kids.length-k) _ _ _ ⟨0,[],v12,[],w,ob,ob,True.intro,(fun a ha=>by cases ha),(by simp [Yu]),True.intro,rfl,rfl,rfl⟩ (wk [1,1,1,0,0] (fq (fr (Ye fl))) (e:=(rc (rc (ro (ls:=[ZX xs w,.i q]) (by simp [YO]) (rc (rc rz))))))) ?_)))))))
 rintro m F h ⟨k,asl,u,zs,w3,Uj,We,XJ,F4,Z7q,HU,rfl,rfl,rfl⟩
 refine aq (ar (Y1 3 119 (.i k) 121 (X3 e.kids) [0] [b2] (iw (Ft e.kids) (Z1 1 123 (.b (decide ((k:Int)<(e.kids.length:Int)))) (ie (ZM ((k:Int)<(e.kids.length:Int)) (fun Vu=>?_) (fun Vu=>?_)))))))
 ·refine ak (aq (ab 4 (aD 10 (Y6 5 10 [0,1,2,3,4] (.n 126 (.p l 0) (.n 127 (Tf g) (.n 129 (X3 e.kids) (.n 130 (.i k) .r)))) [1,0] [b1,b2] ?_))))
  obtain ⟨x7,DE⟩:=Zs (xs:=e.kids) (j:=k) om
  have hzl:=K8 zs
  have hzd:=Au zs
  have htk:=J5 (xs:=e.kids) (k+1)
  have hekx7:=Bi hks DE
  have hszx7:=Ay DE
  have htzx7:=JN DE
  rw [WQ] at hekx7
  rw [MT om] at hekx7
  refine dx 5 (Zo none (k:Int) 3 (Bf DE)) (ZZ 2 4 [6,7] (.n 132 (ZF x7) (.n 133 (Z0 us) .r)) (Z9 8 (dc 8 [2,3] [] [] (ih l x7 us (xs++zs) w3 (q+YO zs) (by first|assumption|(rw [Yx];assumption)) (by first|assumption|exact CO hu hlwhp1.v|exact Ev hu) (by first|omega|(simp only [Yx,YS,Xn];omega)) (by first|omega|(simp only [Yx,YS,Xn];omega)) ob ob) ?_)))
  rintro _ _ ⟨ys4,v13,w25,rfl,rfl,Xy⟩
  have hlwhp6:=Xy
  have hldhp6:=Xy.dn
  refine ZY 0 1 [9] 17 (.i v13) (de (az (Yo 2 135 (Z6 asl u) 136 (.i v13) (iL (Z8 [v13]) 1 1 ?_))))
  intro v14
  refine Z5 0 (.n 137 (Z0 [v13]) (.p .r)) (ip 5 (Z8 (asl++[v13])) (Z8 asl) (Z8 [v13]) u none 1 (YD _) (YD _) (XY _) (by simp<;>omega) (by simp [XX,Z8]) ?_)
  intro v15
  refine ir 1 [(0,.p l 0),(3,Z0 us),(5,.p b1 0),(6,.p b2 0),(15,Z6 (asl++[v13]) v15),(16,.i k)] (ie (az (Z1 1 124 (.i k) (ZO k (Z5 1 (.n 16 (.i (k+1:Nat)) (.p (.d (.w (.k .z))))) (ie ?_))))))
  exact ZQ ⟨k+1,(asl++[v13]),v15,(zs++ys4),w25,ob,ob,(Bk.2 ⟨XJ,hlwhp6.fs⟩),(by rw [QY,<-Ju];exact CO F4 hlwhp6.v),(by have:=hlwhp6.sz;rw [UJ];omega),(E2.2 ⟨HU,hlwhp6.op⟩),rfl,rfl,rfl⟩ (wk [4,4,2,0,1] (fq (fr (ZW k fl))) (e:=(rc (rc (ro (ls:=[ZX ((xs++zs)++ys4) w25,.i ((((q+YO zs)+YO ys4):Nat):Int)]) (by rw [QY,<-Ju,TI]) (rc (rc rz)))))))
 refine ax 3 (ar (iR 6 [(139,.p l 0),(141,.i e.op),(143,.i e.num),(144,Z6 asl u)] [0,0] [b2,b2] (iL (YH []) 0 2 ?_)))
 intro v16
 refine Z1 1 146 (.agg [.i e.op,.i e.num,.i 0,Z0 asl,Yz []]) (ic [3,4] (IK l (xs++zs) w3 (q+YO zs) (Z4.mk e.op e.num 0 asl []) (hl:=(by first|(have h1:=K8 zs;have h2:=J5 (xs:=e.kids) k;have h3:=Au zs;(try simp only [Yx]);omega)|((try simp only [Yx]);omega))) (hq:=(by first|(have h1:=K8 zs;have h2:=J5 (xs:=e.kids) k;have h3:=Au zs;(try simp only [Yx]);omega)|((try simp only [Yx]);omega)))) ?_)
 rintro _ _ ⟨w26,rfl,rfl⟩
 refine ir 1 [(8,.i (((q+YO zs):Nat):Int))] (ie ?_)
 have hcb:YF e.op=false:=by simp [YF];omega
 exact Zc (r1 [0,0] ⟨(zs++[Z4.mk e.op e.num 0 asl []]),(((q+YO zs):Nat):Int),w26,rfl,rfl,(LW.node om h9 hnum XJ F4 om (by have:=J5 (xs:=e.kids) k;omega) HU)⟩ (eq:=(ro (ls:=[ZX ((xs++zs)++[(Z4.mk e.op e.num 0 asl [])]) w26,.i ((((q+YO zs)+1):Nat):Int)]) (by rw [BZ (s:=Z4.mk e.op e.num 0 asl []) hcb,<-Ju,<-TI]) (rc rz))))
theorem Sa (l:Nat) (g:XT) (e:Z2) (us:List Int) (xs:List Z4) (w:Value) (q:Nat) (hd:GD g.decls) (he:eW g.decls g.funcs.length us.length e) (hu:∀a∈us,0<=a/\a<(q:Int)) (hul:us.length+4*e.sz<=100000) (hxl:xs.length+6*e.sz<=100000) (hql:q+6*e.sz<=100000):Zj Tryz.prog 188 [.p l 0,Tf g,ZF e,Z0 us] [.obj l [ZX xs w,.i q],.tail w 5] (fun r h=>∃(ys:List Z4) (v:Int) (w2:Value),r=.i v/\h=[.obj l [ZX (xs++ys) w2,.i (((q+YO ys):Nat):Int)],.tail w2 5]/\LW g.decls g.funcs.length q e ys v):=by
 have key:∀k:Nat,∀(l:Nat) (e2:Z2) (us2:List Int) (xs2:List Z4) (w2:Value) (q2:Nat),(eW g.decls g.funcs.length us2.length e2)->(∀a∈us2,0<=a/\a<(q2:Int))->(us2.length+4*e2.sz<=100000)->(xs2.length+6*e2.sz<=100000)->(q2+6*e2.sz<=100000)->(e2.sz<k)->Zj Tryz.prog 188 [.p l 0,Tf g,ZF e2,Z0 us2] [.obj l [ZX xs2 w2,.i q2],.tail w2 5] (fun r h=>∃(ys:List Z4) (v:Int) (w2:Value),r=.i v/\h=[.obj l [ZX (xs2++ys) w2,.i (((q2+YO ys):Nat):Int)],.tail w2 5]/\LW g.decls g.funcs.length q2 e2 ys v):=by
  intro k
  induction k with
  | zero=>intro l e2 us2 xs2 w2 q2 h1 h2 h3 h4 h5 h6;omega
  | succ k ih=>intro l e2 us2 xs2 w2 q2 h1 h2 h3 h4 h5 h6;exact Sb l g e2 us2 xs2 w2 q2 hd h1 h2 h3 h4 h5 fun l e3 us3 xs3 w3 q3 a1 a2 a3 a4 a5 a6=>ih l e3 us3 xs3 w3 q3 a1 a2 a3 a4 a5 om
 exact key (e.sz+1) l e us xs w q he hu hul hxl hql om
theorem FM (g:XT) (e:Z2) (us:List Int) (q:Nat) (hd:GD g.decls:=by exact ob) (he:eW g.decls g.funcs.length us.length e:=by exact ob) (hu:∀a∈us,0<=a/\a<(q:Int)) (hul:us.length+4*e.sz<=100000:=by exact ob) (hql:q+6*e.sz<=100000:=by exact ob):Zj Tryz.prog 152 [Tf g,ZF e,Z0 us,.i q] [] (fun r h=>∃(b:Z7),r=Zx b/\h=[]/\LB g.decls g.funcs.length q e b):=(IV g e us q (e.sz+1) he hu hul hql om (fun l e2 us2 xs2 w2 q2 h1 h2 h3 h4 h5 _=>Sa l g e2 us2 xs2 w2 q2 hd h1 h2 h3 h4 h5))
theorem AQ (ds:List Zf) (hd:Wm ds:=by exact ob):Zj Tryz.prog 113 [Zd ds] [] (fun r h=>r=Zd ds/\h=[]):=by
 have hdl:=hd.len
 refine ZK 55 Tryz.func113 (ar (ir 1 [(0,Zd ds)] (ie (ar (iL (YV []) 0 3 ?_)))))
 intro v1
 refine Z1 1 3 (Ud [] v1) (ie (aq (ar (Z1 1 4 (.i 0) (ie (ab 0 (al (fun m F h=>∃(k:Nat) (v:Value),(k<=ds.length)/\F=[(0,Zd ds),(3,Ud (ds.take k) v),(4,.i k)]/\h=[.tail v 3]/\m=ds.length-k) _ _ _ ⟨0,v1,ob,rfl,rfl,rfl⟩ (wk [0] (fr (fc (x:=Ud [] v1) (Zg.slh _ (Yv YV rfl)) (Ye fl)))) ?_)))))))
 rintro m F h ⟨k,v,Ym,rfl,rfl,rfl⟩
 refine aq (ar (Yo 2 8 (.i k) 9 (Zd ds) (iw (VN ds) (Z1 1 11 (.b (decide ((k:Int)<(ds.length:Int)))) (ie (ZM ((k:Int)<(ds.length:Int)) (fun Ze=>?_) (fun Ze=>?_)))))))
 ·obtain ⟨xd,hxd⟩:=Zs (xs:=ds) (j:=k) om
  have hcl:=hd.cons_at hxd
  refine ak (aq (ab 1 (ar (iL (Ww []) 0 1 ?_))))
  intro v2
  refine Z1 1 5 (QI [] v2) (ie (aq (ar (Z1 1 6 (.i 0) (ie (ab 2 (al (fun m F h=>∃(j:Nat) (u:Value),(j<=xd.cons.length)/\F=[(0,Zd ds),(3,Ud (ds.take k) v),(4,.i k),(5,QI (xd.cons.take j) u),(6,.i j)]/\h=[.tail u 1,.tail v 3]/\m=xd.cons.length-j) _ _ _ ⟨0,v2,ob,rfl,rfl,rfl⟩ (wk [0,0] (fw (fr (fc (x:=QI [] v2) (Zg.slh _ (Yv Ww rfl)) (Ye fl))))) ?_)))))))
  rintro m F h ⟨j,u,Uj,rfl,rfl,rfl⟩
  refine aq (ar (Z5 3 (.n 15 (.i j) (.n 16 (Zd ds) (.n 17 (.i k) .r))) (Zq (Zo none (k:Int) 3 (Vi hxd)) (Z1 2 20 (W6 xd.cons) (iw (U6 xd.cons) (Z1 1 22 (.b (decide ((j:Int)<(xd.cons.length:Int)))) (ie (ZM ((j:Int)<(xd.cons.length:Int)) (fun Zk=>?_) (fun Zk=>?_)))))))))
  ·refine ak (aq (ab 3 (az (Z5 3 (.n 25 (QI (xd.cons.take j) u) (.n 26 (Zd ds) (.n 27 (.i k) .r))) (Zq (Zo none (k:Int) 3 (Vi hxd)) (Yo 3 30 (W6 xd.cons) 31 (.i j) ?_))))))
   obtain ⟨x1,Z3⟩:=Zs (xs:=xd.cons) (j:=j) om
   have hfl:=hd.fields_at hxd Z3
   refine Zq (Zo none (j:Int) 1 (Bc Z3)) (Z1 2 34 (Z0 x1.fields) (ic [] (VJ x1.fields) ?_))
   rintro _ _ ⟨v3,rfl,rfl⟩
   refine Z1 1 36 (An x1) (iL (Ww [x1]) 1 1 ?_)
   intro v4
   refine Z5 0 (.n 37 (W6 [x1]) (.p .r)) (ip 2 (Ww (xd.cons.take (j+1))) (Ww (xd.cons.take j)) (Ww [x1]) u none 1 (Fp _) (Fp _) (PQ _) (by simp<;>omega) (by rw [WO Z3];simp [Ww]) ?_)
   intro v5
   refine ir 1 [(0,Zd ds),(3,Ud (ds.take k) v),(4,.i k),(5,QI (xd.cons.take (j+1)) v5),(6,.i j)] (ie (az (Z1 1 23 (.i j) (ZO j (Z5 1 (.n 6 (.i (j+1:Nat)) (.p (.d (.w .z)))) (ie ?_))))))
   exact ZQ ⟨j+1,v5,ob,rfl,rfl,rfl⟩ (wk [0,2] (fq (ZW j fl)))
  refine ax 2 (aE 16 (ZZ 13 16 [0,1,2] (.n 39 (Ud (ds.take k) v) (.n 40 (Zd ds) (.n 41 (.i k) .r))) (dx 3 (Zo none (k:Int) 3 (Vi hxd)) (ZZ 8 12 [4,5,6,7] (.n 44 (.i xd.frm) (.n 45 (Zd ds) (.n 46 (.i k) .r))) (dx 8 (Zo none (k:Int) 3 (Vi hxd)) (ZY 3 7 [9,10,11,12] 51 (.agg [.i xd.frm,.i xd.to_,W6 (xd.cons.take j)]) (Z9 13 (dL 13 [] [] (YV [Zf.mk xd.frm xd.to_ (xd.cons.take j)]) 1 3 ?_))))))))
  intro v6
  refine ZZ 2 2 [] (.n 52 (Zd [Zf.mk xd.frm xd.to_ (xd.cons.take j)]) (.p .r)) (Z9 14 (dp 14 2 [] [] (YV (ds.take (k+1))) (YV (ds.take k)) (YV [Zf.mk xd.frm xd.to_ (xd.cons.take j)]) v none 3 (QZ _) (QZ _) (Dg _) (by simp<;>omega) (by rw [WO hxd];simp [YV,Ve (show xd.cons.length<=j by omega)]) ?_))
  intro v7
  refine Xa 0 1 [15] [(0,Zd ds),(3,Ud (ds.take (k+1)) v7),(4,.i k)] (de (az (Z1 1 12 (.i k) (ZO k (Z5 1 (.n 4 (.i (k+1:Nat)) (.p (.d (.k (.k .z))))) (ie ?_))))))
  exact ZQ ⟨k+1,v7,ob,rfl,rfl,rfl⟩ (wk [0] (fw (ZW k fl)))
 refine ax 0 (ar (ir 2 [(2,Ud (ds.take k) v)] (ie ?_)))
 exact Zc (r2 [] [Ud (ds.take k) v] ⟨rfl,rfl⟩ (Zg.sl _ (Yv YV (by rw [Ve om]))))
theorem Sj (g:XT) (hg:EK g:=by exact ob):Zj Tryz.prog 119 [Tf g] [] (fun r h=>∃(n:Zy),r=ZE n/\h=[]/\FO n 181 Wq):=by
 have hgl:=hg.gp.len
 have Xu:=hg.gp.decls.ok
 refine ZK 49 Tryz.func119 (ar (iA (Jh g) ?_))
 intro b1
 refine iA [nl,nl] ?_
 intro b2
 refine ie (ar (iR 2 [(1,.p b1 0),(2,.p b2 0),(9,Zd g.decls)] [1] [b1] (ZA [] (AQ g.decls) (iL (YM []) 0 5 ?_))))
 intro v1
 refine Z1 1 12 (.agg [Zd g.decls,Xh [] v1]) (iA [nl,nl] ?_)
 intro b3
 refine ZH 0 b3 [Zd g.decls,Xh [] v1] (ie (aq (ar (Z1 1 4 (.i 0) (ie (ab 0 (al (fun m F h=>∃(k:Nat) (rs:List Yf) (u:Value),(k<=g.funcs.length)/\(rs.length=k)/\(∀r∈rs,RN g.decls g.funcs.length r)/\F=[(1,.p b1 0),(2,.p b2 0),(3,.p b3 0),(4,.i k)]/\h=[.obj b3 [Zd g.decls,Xh rs u],.obj b2 [nl,nl],.obj b1 (Jh g),.tail u 5]/\m=g.funcs.length-k) _ _ _ ⟨0,[],v1,ob,ob,(fun r hr=>by cases hr),rfl,rfl,rfl⟩ (wk [0,1,1,0] (fw (fr (Ye fl)))) ?_)))))))
 rintro m F h ⟨k,rs,u,Ym,Zp,Zz,rfl,rfl,rfl⟩
 refine aq (ar (Y1 3 13 (.i k) 15 (By g.funcs) [2] [b1] (iw (Bg g.funcs) (Z1 1 17 (.b (decide ((k:Int)<(g.funcs.length:Int)))) (ie (ZM ((k:Int)<(g.funcs.length:Int)) (fun Ze=>?_) (fun Ze=>?_)))))))
 ·refine ak (aq (ab 1 (ar (Y1 3 21 (By g.funcs) 22 (.i k) [2] [b1] ?_))))
  obtain ⟨x1,Z3⟩:=Zs (xs:=g.funcs) (j:=k) om
  have hso:=(hg.gp.sigs _ (Y7 Z3)).bd
  have hsi:=hg.gp.sigs _ (Y7 Z3)
  have hbo:=hg.body _ (Y7 Z3)
  refine Zq (Zo none (k:Int) 5 (Dh Z3)) (Z1 1 24 (KS x1) (iA [nl,.i 0,.i 0,.i 0,nl] ?_))
  intro b4
  refine ZH 0 b4 (Cm x1) (ie (ar (Yk 2 26 (Z0 x1.params) [0] [b4] (iw (Yd x1.params) (Z1 1 6 (.i x1.params.length) (ie (aD 9 (Y6 4 9 [0,1,2,3,5] (.n 28 (Tf g) (.n 30 (ZF x1.body) (.n 31 (.i x1.params.length) (.n 33 (.i x1.params.length) .r)))) [3,0] [b1,b4] (dK (fun F h=>∃(b5:Z7) (b6:Nat) (xs1:List Int),(xs1.length=x1.params.length/\∀i∈xs1,(0:Int)<=i/\i<(0:Int)+x1.params.length)/\(LB g.decls g.funcs.length x1.params.length x1.body b5)/\F=[(1,.p b1 0),(2,.p b2 0),(3,.p b3 0),(4,.i k),(5,.p b4 0),(7,.p b6 0)]/\h=[.obj b6 (Yn b5),.obj b4 (Cm x1),.obj b3 [Zd g.decls,Xh rs u],.obj b2 [nl,nl],.obj b1 (Jh g),.tail u 5]) ?_ ?_)))))))))
  ·refine Vh 4 7 ?_ ?_
   ·refine dc 4 [] [0,3] [b4,b1] (FP 0 x1.params.length) ?_
    rintro _ _ ⟨xs1,rfl,rfl,ZP⟩
    have hnx:=ZP
    refine Vh 6 7 ?_ ?_
    ·refine dc 6 [] [] [] (FM g x1.body xs1 x1.params.length (hd:=hg.gp.decls) (he:=(by rw [hnx.1];exact hbo.1)) (hu:=(fun a ha=>by have:=hnx.2 a ha;omega))) ?_
     rintro _ _ ⟨b5,rfl,rfl,Y0⟩
     have hlb:=Y0
     refine Z9 7 (dA 7 [] [] [nl,.i 0] ?_)
     intro b6
     refine Z9 8 (YK 8 0 [] [] b6 (Yn b5) (de ?_))
     exact ZV ⟨_,b6,_,(by assumption),(by assumption),rfl,rfl⟩ (ZL 6 fl)
    refine dA 7 [0,3] [b4,b1] [nl,.i 0] ?_
    intro b7
    refine Z9 6 (dc 6 [] [] [] (FM g x1.body xs1 x1.params.length (hd:=hg.gp.decls) (he:=(by rw [hnx.1];exact hbo.1)) (hu:=(fun a ha=>by have:=hnx.2 a ha;omega))) ?_)
    rintro _ _ ⟨b8,rfl,rfl,YB⟩
    have hlb:=YB
    refine Z9 8 (YK 8 0 [] [] b7 (Yn b8) (de ?_))
    exact ZV ⟨_,b7,_,(by assumption),(by assumption),rfl,rfl⟩ (ZL 6 fl)
   refine dA 7 [0,3] [b4,b1] [nl,.i 0] ?_
   intro b9
   refine Z9 4 (dc 4 [] [1,4] [b4,b1] (FP 0 x1.params.length) ?_)
   rintro _ _ ⟨xs2,rfl,rfl,YN⟩
   have hnx:=YN
   refine Z9 6 (dc 6 [] [] [] (FM g x1.body xs2 x1.params.length (hd:=hg.gp.decls) (he:=(by rw [hnx.1];exact hbo.1)) (hu:=(fun a ha=>by have:=hnx.2 a ha;omega))) ?_)
   rintro _ _ ⟨b10,rfl,rfl,YX⟩
   have hlb:=YX
   refine Z9 8 (YK 8 0 [] [] b9 (Yn b10) (de ?_))
   exact ZV ⟨_,b9,_,(by assumption),(by assumption),rfl,rfl⟩ (ZL 6 fl)
  rintro F h ⟨b5,b6,xs1,ZP,Y0,rfl,rfl⟩
  have hnx:=ZP
  have hlb:=Y0
  refine aE 14 (W2 7 14 [0,1,2,3,6,7,8] [(1,.p b1 0),(2,.p b2 0),(3,.p b3 0),(4,.i k),(36,Xh rs u),(38,Z0 x1.params),(42,.i x1.result),(43,Zx b5)] [2,1,1,0] [b3,b4,b4,b6] (Vh 4 5 ?_ ?_))
  ·refine dc 4 [] [0,1,2] [b6,b4,b3] (VJ x1.params) ?_
   rintro _ _ ⟨v2,rfl,rfl⟩
   refine Z9 5 (dL 5 [0,1,2] [b6,b4,b3] (Z8 []) 0 1 ?_)
   intro v3
   refine Xa 4 5 [9] [(1,.p b1 0),(2,.p b2 0),(3,.p b3 0),(4,.i k),(36,Xh rs u),(44,.agg [Z0 x1.params,Z0 [],.i x1.result,Yj b5.steps,.i b5.result])] (Z9 10 (dL 10 [2] [b3] (YM [Yf.mk x1.params [] x1.result (Z7.mk b5.steps b5.result)]) 1 5 ?_))
   intro v4
   refine ZZ 3 3 [] (.n 45 (YZ [Yf.mk x1.params [] x1.result (Z7.mk b5.steps b5.result)]) (.p .r)) (Z9 11 (dp 11 8 [] [] (YM (rs++[Yf.mk x1.params [] x1.result (Z7.mk b5.steps b5.result)])) (YM rs) (YM [Yf.mk x1.params [] x1.result (Z7.mk b5.steps b5.result)]) u none 5 (U7 _) (U7 _) (JM _) (by simp<;>omega) (by simp [Aw,YM]) ?_))
   intro v5
   refine ZY 1 2 [12] 47 (.p b3 1) (Z9 13 (YK 13 6 [] [] b3 [Zd g.decls,Xh (rs++[Yf.mk x1.params [] x1.result (Z7.mk b5.steps b5.result)]) v5] (de (az (Z1 1 18 (.i k) (ZO k (ir 1 [(1,.p b1 0),(2,.p b2 0),(3,.p b3 0),(4,.i (k+1:Nat))] (ie ?_))))))))
   exact ZQ ⟨k+1,(rs++[Yf.mk x1.params [] x1.result (Z7.mk b5.steps b5.result)]),v5,ob,ob,(Xq Zz (RN.of hsi hlb hbo.2)),rfl,rfl,rfl⟩ (wk [0,6,6,0] (fw (fr (ZW k fl))))
  refine dL 5 [0,1,1,2] [b6,b4,b4,b3] (Z8 []) 0 1 ?_
  intro v6
  refine Z9 4 (dc 4 [] [0,1,2] [b6,b4,b3] (VJ x1.params) ?_)
  rintro _ _ ⟨v7,rfl,rfl⟩
  refine Xa 4 5 [9] [(1,.p b1 0),(2,.p b2 0),(3,.p b3 0),(4,.i k),(36,Xh rs u),(44,.agg [Z0 x1.params,Z0 [],.i x1.result,Yj b5.steps,.i b5.result])] (Z9 10 (dL 10 [2] [b3] (YM [Yf.mk x1.params [] x1.result (Z7.mk b5.steps b5.result)]) 1 5 ?_))
  intro v8
  refine ZZ 3 3 [] (.n 45 (YZ [Yf.mk x1.params [] x1.result (Z7.mk b5.steps b5.result)]) (.p .r)) (Z9 11 (dp 11 8 [] [] (YM (rs++[Yf.mk x1.params [] x1.result (Z7.mk b5.steps b5.result)])) (YM rs) (YM [Yf.mk x1.params [] x1.result (Z7.mk b5.steps b5.result)]) u none 5 (U7 _) (U7 _) (JM _) (by simp<;>omega) (by simp [Aw,YM]) ?_))
  intro v9
  refine ZY 1 2 [12] 47 (.p b3 1) (Z9 13 (YK 13 6 [] [] b3 [Zd g.decls,Xh (rs++[Yf.mk x1.params [] x1.result (Z7.mk b5.steps b5.result)]) v9] (de (az (Z1 1 18 (.i k) (ZO k (ir 1 [(1,.p b1 0),(2,.p b2 0),(3,.p b3 0),(4,.i (k+1:Nat))] (ie ?_))))))))
  exact ZQ ⟨k+1,(rs++[Yf.mk x1.params [] x1.result (Z7.mk b5.steps b5.result)]),v9,ob,ob,(Xq Zz (RN.of hsi hlb hbo.2)),rfl,rfl,rfl⟩ (wk [0,6,6,0] (fw (fr (ZW k fl))))
 refine ax 0 (ar (Yk 1 48 (.agg [Zd g.decls,Xh rs u]) [0] [b3] (ZH 1 b2 [Zd g.decls,Xh rs u] (ie ?_))))
 exact Zc (r3 [] [.agg [Zd g.decls,Xh rs u]] [0] [(b2,b2)] ⟨(Zy.mk g.decls rs),rfl,rfl,(RN.all hg.gp.decls (by show 1<=rs.length/\rs.length<=4;omega) (by show ∀r∈rs,RN g.decls rs.length r;rw [show rs.length=g.funcs.length by omega];exact Zz) om)⟩ (Zg.agg (.cons (lr _) (.cons (Zg.forget _ _) .nil))))
theorem Nq (n:Zy) (hz:Q5 n:=by exact ob):Zj Tryz.prog 62 [ZE n] [] (fun r h=>r=.b (Xd n)/\h=[]):=by
 have hzl:=hz.len
 refine ZK 35 Tryz.func62 (ar (iA (ZU n) ?_))
 intro b1
 refine ir 1 [(1,.p b1 0)] (ie (aq (ar (Yk 1 5 (ZE n) [0] [b1] (ZA [] (Z5p n (hz:=hz.decls) (hr:=(fun r hr=>⟨hz.params r hr,hz.lent r hr⟩))) (Z1 1 7 (.b (!XV n)) (ie (ac (!XV n) (p:=¬(XV n=true)) (Yt Iff.rfl) (fun Ze=>?_) (fun Ze=>?_)))))))))
 ·refine ar (ir 1 [(2,.b false)] (ie ?_))
  exact Zc (r2 [] [.b false] ⟨rfl,rfl⟩ (lb (by first|rfl|omega|grind [Xd])))
 have hok:=DZ hz (by simpa using Ze)
 refine ak (aq (ar (Z1 1 3 (.i 0) (ie (ab 0 (al (fun m F h=>∃(k:Nat),(k<=n.routines.length)/\(TZ n (n.routines.drop k)=TZ n n.routines)/\F=[(1,.p b1 0),(3,.i k)]/\h=[.obj b1 (ZU n)]/\m=n.routines.length-k) _ _ _ ⟨0,ob,ob,rfl,rfl,rfl⟩ (wk [0] (fr (Ye fl))) ?_))))))
 rintro m F h ⟨k,Ym,Zp,rfl,rfl,rfl⟩
 refine aq (ar (Y1 3 8 (.i k) 10 (YZ n.routines) [0] [b1] (iw (U8 n.routines) (Z1 1 12 (.b (decide ((k:Int)<(n.routines.length:Int)))) (ie (ZM ((k:Int)<(n.routines.length:Int)) (fun Zk=>?_) (fun Zk=>?_)))))))
 ·refine ak (aq (ab 1 (ar (Y1 3 16 (YZ n.routines) 17 (.i k) [0] [b1] ?_))))
  obtain ⟨x1,Z3⟩:=Zs (xs:=n.routines) (j:=k) om
  have ZD:=hz.body _ (Y7 Z3)
  have hps:=hok.params_at Z3
  refine Zq (Zo none (k:Int) 5 (WB Z3)) (Z1 1 19 (WZ x1) (iA [nl,nl,.i 0,nl,.i 0] ?_))
  intro b2
  refine ZH 0 b2 (VO x1) (ie (aD 15 (Y6 13 15 [0,1] (.n 21 (Zx x1.body) .r) [0] [b2] (Z9 2 (Ys 2 [] [] [] (Z5k x1.body) (KY [(1,.p b1 0),(3,.i k),(34,.b ((decide ((Vd x1.body)<0))||((YR n x1.params x1.body) != x1.result)))] [.obj b2 (VO x1),.obj b1 (ZU n)] ?_ ?_))))))
  ·refine Xa 10 12 [3,4] [(1,.p b1 0),(3,.i k),(4,.p b2 0),(24,.b (decide ((Vd x1.body)<0)))] (db (b:=(decide ((Vd x1.body)<0))) 24 (fun Za=>?_) (fun Za=>?_))
   ·have ZP:(Vd x1.body)<0:=(dq).1 Za
    refine ZZ 0 10 [5,6,7,8,9,10,11,12,13,14] (.n 34 (.b true) (.d (.k (.k .z)))) (de ?_)
    exact wk [0,0] (fw (Zr true Za fl))
   have Y0:¬((Vd x1.body)<0):=ZG dq Za
   refine Y6 3 10 [5,6,7,8,9,11,12] (.n 25 (ZE n) (.n 27 (Z0 x1.params) (.n 29 (Zx x1.body) (.n 32 (.i x1.result) (.k (.k (.k .z))))))) [1,0,0,0] [b1,b2,b2,b2] (Z9 10 (Ys 10 [] [0] [b2] (Nc n x1.params x1.body ob ob) (ZY 0 2 [13,14] 34 (.b ((YR n x1.params x1.body) != x1.result)) (de ?_))))
   exact wk [0,0] (fw (Zr ((YR n x1.params x1.body) != x1.result) Za fl))
  refine ac ((decide ((Vd x1.body)<0))||((YR n x1.params x1.body) != x1.result)) (p:=((Vd x1.body)<0)∨((YR n x1.params x1.body)≠x1.result)) (Yh dq Yc) (fun ZI=>?_) (fun ZI=>?_)
  ·refine ar (ir 1 [(2,.b false)] (ie ?_))
   rw [Yb Z3] at Zp
   exact Zc (r2 [] [.b false] ⟨rfl,rfl⟩ (lb (by clear Z3;first|rfl|omega|grind [TZ,Xd])))
  refine ak (az (ir 1 [(1,.p b1 0),(13,.i k)] (ZO k (Z1 1 3 (.i (k+1:Nat)) (ie ?_)))))
  have hdr:=Yb Z3
  exact ZQ ⟨k+1,ob,(by rw [hdr] at Zp;clear hdr Z3;grind [TZ]),rfl,rfl,rfl⟩ (wk [1] (fr (ZW k fl)))
 refine ax 0 (ar (ir 1 [(2,.b true)] (ie ?_)))
 try rw [Xx (xs:=n.routines) (k:=k) om] at Zp
 exact Zc (r2 [] [.b true] ⟨rfl,rfl⟩ (lb (by first|rfl|omega|grind [TZ,Xd])))
theorem Ni (op:Int) :Zj Tryz.prog 145 [.i op] [] (fun r h=>r=.b (YF op)/\h=[]):=by
 refine ZK 5 Tryz.func145 (ar (ir 1 [(0,.i op)] (ie (ar (ir 1 [(3,.i op)] (ZA [] (Uv op 14 17) (ir 1 [(2,.b (decide (14<=op/\op<=17)))] (ie ?_))))))))
 exact Zc (r2 [] [.b (decide (14<=op/\op<=17))] ⟨rfl,rfl⟩ (lb (by first|rfl|omega|grind [YF])))
theorem Nf (op:Int) :Zj Tryz.prog 226 [.i op] [] (fun r h=>r=.b (UZ op)/\h=[]):=by
 refine ZK 17 Tryz.func226 (ar (ir 1 [(0,.i op)] (ie (ar (XP 6 [(0,.i op),(8,.b ((op==6)||(op==9)))] [] ?_ (fun hj1=>?_))))))
 ·refine XP 10 [(0,.i op),(12,.b (((op==6)||(op==9))||(op==10)))] [] ?_ (fun hj2=>?_)
  ·refine XP 14 [(16,.b ((((op==6)||(op==9))||(op==10))||(op==11)))] [] ?_ (fun hj3=>?_)
   ·refine ir 1 [(2,.b ((((op==6)||(op==9))||(op==10))||(op==11)))] (ie ?_)
    exact Zc (r2 [] [.b ((((op==6)||(op==9))||(op==10))||(op==11))] ⟨rfl,rfl⟩ (lb (by first|rfl|omega|grind [UZ])))
   refine ir 1 [(0,.i op),(13,.b (((op==6)||(op==9))||(op==10)))] (ib (b:=(((op==6)||(op==9))||(op==10))) 13 (fun Za=>?_) (fun Za=>?_))
   ·have ZP:((op=6)∨(op=9))∨(op=10):=((Yh (Yh Zh Zh) Zh)).1 Za
    refine ir 3 [(16,.b true)] ?_
    exact YG (wk [] (Zr true Za fl)) hj3
   have Y0:¬(((op=6)∨(op=9))∨(op=10)):=ZG (Yh (Yh Zh Zh) Zh) Za
   refine ir 3 [(16,.b (op==11))] ?_
   exact YG (wk [] (Zr (op==11) Za fl)) hj3
  refine ir 1 [(0,.i op),(9,.b ((op==6)||(op==9)))] (ib (b:=((op==6)||(op==9))) 9 (fun Zw=>?_) (fun Zw=>?_))
  ·have YB:(op=6)∨(op=9):=((Yh Zh Zh)).1 Zw
   refine ir 3 [(0,.i op),(12,.b true)] ?_
   exact YG (wk [] (fr (Zr true Zw fl))) hj2
  have YN:¬((op=6)∨(op=9)):=ZG (Yh Zh Zh) Zw
  refine ir 3 [(0,.i op),(12,.b (op==10))] ?_
  exact YG (wk [] (fr (Zr (op==10) Zw fl))) hj2
 refine ir 3 [(0,.i op),(5,.b (op==6))] (ib (b:=(op==6)) 5 (fun Yw=>?_) (fun Yw=>?_))
 ·have YX:op=6:=(Zh).1 Yw
  refine ir 3 [(0,.i op),(8,.b true)] ?_
  exact YG (wk [] (fr (Zr true Yw fl))) hj1
 have Xy:¬(op=6):=ZG Zh Yw
 refine ir 3 [(0,.i op),(8,.b (op==9))] ?_
 exact YG (wk [] (fr (Zr (op==9) Yw fl))) hj1
theorem CK (n:Zy) (s:Z4) (i:Nat) (hn:Xe n:=by exact ob) (hnum:s.op=9->0<=s.num/\s.num<n.routines.length:=by exact ob):Zj Tryz.prog 227 [ZE n,Y4 s,.i i] [] (fun r h=>r=.b (WK n s.op s.num i)/\h=[]):=by
 refine ZK 21 Tryz.func227 (ar (iA (ZU n) ?_))
 intro b1
 refine iA (Yg s) ?_
 intro b2
 refine ir 1 [(2,.i i),(3,.p b1 0),(4,.p b2 0)] (ie (ar (Yk 4 10 (.b (s.op==9)) [0] [b2] (ib (b:=(s.op==9)) 10 (fun Za=>?_) (fun Za=>?_)))))
 ·have ZP:s.op=9:=(Zh).1 Za
  refine Y2 4 (.n 12 (YZ n.routines) (.n 14 (.i s.num) (.k (.d .r)))) [1,0] [b1,b2] ?_
  obtain ⟨x1,Z3⟩:=Zs (xs:=n.routines) (j:=s.num.toNat) om
  have hlt:=hn.lent_at Z3
  have hlr:=Z1u (n:=n) ZP Z3
  refine Zq (Zo none s.num 5 (WB Z3)) (Yo 3 17 (Z0 x1.lent) 18 (.i i) (ZA [] (U0 x1.lent (i:Int)) (ir 2 [(6,.b (decide ((i:Int)∈x1.lent)))] (ie ?_))))
  exact Zc (r2 [] [.b (decide ((i:Int)∈x1.lent))] ⟨rfl,rfl⟩ (lb (by rw [WK,hlr])))
 have Y0:¬(s.op=9):=ZG Zh Za
 refine ir 11 [(6,.b false)] (ie ?_)
 exact Zc (r2 [] [.b false] ⟨rfl,rfl⟩ (lb (by rw [WK,DW,Zb Y0];simp)))
theorem Ep (n:Zy) (us:List Int) (s:Z4) (i:Nat) (a:Int) (hn:Xe n:=by exact ob) (hnum:s.op=9->0<=s.num/\s.num<n.routines.length:=by exact ob) (ha:s.args[i]? = some a:=by exact ob) (hi:0<=a/\a<us.length:=by exact ob):Zj Tryz.prog 261 [ZE n,Z0 us,Y4 s,.i i] [] (fun r h=>r=.b (UN n us s.op s.num a i)/\h=[]):=by
 have hal:=(XM.1 ha).1
 refine ZK 30 Tryz.func261 (ar (iA (ZU n) ?_))
 intro b1
 refine iA (Yg s) ?_
 intro b2
 refine ir 1 [(1,Z0 us),(3,.i i),(4,.p b1 0),(6,.p b2 0)] (ie (ar (Yk 2 10 (.i s.op) [0] [b2] (ZA [] (Nf s.op) (Z1 1 12 (.b (UZ s.op)) (ib (b:=UZ s.op) 12 (fun Za=>?_) (fun Za=>?_)))))))
 ·have ZP:UZ s.op=true:=(Iff.rfl).1 Za
  refine Y2 4 (.n 13 (Z0 us) (.n 15 (Z0 s.args) (.n 16 (.i i) (.k (.d .r))))) [0] [b2] ?_
  obtain ⟨x1,Z3⟩:=Zs (xs:=s.args) (j:=i) om
  have hxa:x1=a:=by rw [ha] at Z3;exact (Jv Z3).symm
  subst hxa
  refine Zq (Zo none (i:Int) 1 (Y3 Z3)) (Z1 1 18 (.i x1) ?_)
  obtain ⟨x2,Zv⟩:=Zs (xs:=us) (j:=x1.toNat) om
  have hga:=UQ Zv
  refine Zq (Zo none x1 1 (Y3 Zv)) (Z1 4 23 (.b (x2 != 0)) (ib (b:=(x2 != 0)) 23 (fun Zw=>?_) (fun Zw=>?_)))
  ·have Y0:x2≠0:=(Yc).1 Zw
   refine iR 3 [(23,.b true),(24,ZE n),(25,Y4 s),(26,.i i)] [1,0] [b1,b2] (ZA [] (CK n s i) (ir 3 [(8,.b (!WK n s.op s.num i))] (ie ?_)))
   exact Zc (r2 [] [.b (!WK n s.op s.num i)] ⟨rfl,rfl⟩ (lb (by clear Z3 Zv;first|rfl|(rw [UN];grind))))
  have YB:¬(x2≠0):=ZG Yc Zw
  refine ir 7 [(8,.b false)] (ie ?_)
  exact Zc (r2 [] [.b false] ⟨rfl,rfl⟩ (lb (by clear Z3 Zv;first|rfl|(rw [UN];grind))))
 have YN:¬(UZ s.op=true):=ZG Iff.rfl Za
 refine ir 18 [(8,.b false)] (ie ?_)
 exact Zc (r2 [] [.b false] ⟨rfl,rfl⟩ (lb (by  first|rfl|(rw [UN];grind))))
theorem Nl (xs:List Int) (ys:List Int) (hl_xs:xs.length<=4294967296:=by exact ob) (hl_ys:ys.length<=4294967296:=by exact ob):Zj Tryz.prog 263 [Z0 xs,Z0 ys] [] (fun r h=>r=.b (decide (xs=ys))/\h=[]):=by
 refine ZK 26 Tryz.func263 (ar (ir 1 [(0,Z0 xs),(1,Z0 ys)] (ie (aq (ar (Z1 1 6 (Z0 xs) (iw (Yd xs) (Z1 1 8 (Z0 ys) (iw (Yd ys) (Z1 1 10 (.b ((xs.length:Int) != (ys.length:Int))) (ie (ac ((xs.length:Int) != (ys.length:Int)) Yc (fun Ze=>?_) (fun Ze=>?_)))))))))))))
 ·refine ar (ir 1 [(4,.b false)] (ie ?_))
  exact Zc (r2 [] [.b false] ⟨rfl,rfl⟩ (lb (eq_comm.1 (decide_eq_false (fun q=>by rw [q] at Ze;exact Ze rfl)))))
 refine ak (aq (ar (Z1 1 5 (.i 0) (ie (ab 0 (al (fun m F h=>∃(k:Nat),(k<=xs.length)/\(xs.take k=ys.take k)/\F=[(0,Z0 xs),(1,Z0 ys),(5,.i k)]/\h=[]/\m=xs.length-k) _ _ _ ⟨0,ob,ob,rfl,rfl,rfl⟩ (wk [] (fw (Ye fl))) ?_))))))
 rintro m F h ⟨k,Ym,Zp,rfl,rfl,rfl⟩
 refine aq (ar (Yo 2 11 (.i k) 12 (Z0 xs) (iw (Yd xs) (Z1 1 14 (.b (decide ((k:Int)<(xs.length:Int)))) (ie (ZM ((k:Int)<(xs.length:Int)) (fun Zk=>?_) (fun Zk=>?_)))))))
 ·refine ak (aq (ab 1 (aD 9 (ZZ 7 9 [0,1] (.n 17 (Z0 xs) (.n 18 (.i k) .r)) ?_))))
  obtain ⟨x1,Z3⟩:=Zs (xs:=xs) (j:=k) om
  refine dx 2 (Zo none (k:Int) 1 (Y3 Z3)) (ZZ 3 6 [3,4,5] (.n 20 (.i x1) (.n 21 (Z0 ys) (.n 22 (.i k) .r))) ?_)
  obtain ⟨x2,Zv⟩:=Zs (xs:=ys) (j:=k) om
  refine dx 6 (Zo none (k:Int) 1 (Y3 Zv)) (ZY 0 2 [7,8] 25 (.b (x1 != x2)) (de (ac (x1 != x2) Yc (fun ZI=>?_) (fun ZI=>?_))))
  ·refine ar (ir 1 [(4,.b false)] (ie ?_))
   exact Zc (r2 [] [.b false] ⟨rfl,rfl⟩ (lb (eq_comm.1 (decide_eq_false (fun q=>by subst q;rw [Z3] at Zv;cases Zv;exact ZI rfl)))))
  refine ak (az (Z1 1 15 (.i k) (ZO k (ir 1 [(0,Z0 xs),(1,Z0 ys),(5,.i (k+1:Nat))] (ie ?_)))))
  have hdr:=Yb Z3
  exact ZQ ⟨k+1,ob,(by rw [WO Z3,WO Zv,Zp];have hxx:x1=x2:=om;rw [hxx]),rfl,rfl,rfl⟩ (wk [] (fw (ZW k fl)))
 refine ax 0 (ar (ir 1 [(4,.b true)] (ie ?_)))
 exact Zc (r2 [] [.b true] ⟨rfl,rfl⟩ (lb (eq_comm.1 (decide_eq_true (by rw [Ve om,Ve om] at Zp;exact Zp)))))
theorem A6 (xs:List Int) (hlen:xs.length<=4294967296:=by exact ob):Zj Tryz.prog 51 [Z0 xs] [] (fun r h=>∃(v:Hd),r=.h v/\h=[rV v xs]):=by
 refine ZK 6 Tryz.func51 (ar (ir 1 [(0,Z0 xs)] (ie (ar (SW [] 0 ?_)))))
 intro v1
 refine Z1 1 4 (Z0 xs) (Kw 0 v1 [] xs none ?_)
 intro v2
 refine ir 1 [(2,.h v2)] (ie ?_)
 exact Zc (r1 [0] ⟨v2,rfl,rfl⟩ (eq:=(rv (xs:=([]++xs)) ob rz)))
theorem Qe (b:Nat) (ga:Hd) (gb:Hd) (gc:Hd) (gd:Hd) (ge:Hd) (gf:Hd) (L:ZJ) (ln:List Int) (t:Int) (o:Int) (p:Int) (hlb:L.vars.length<=1000000000:=by exact ob) (hlk:Uz L:=by exact ob):Zj Tryz.prog 232 [.p b 0,.i t,.i o,.i p] [.obj b [.h ga,.h gb,.h gc,.h gd,.h ge,.h gf,Z0 ln],rV ga L.vars,rV gb L.own,rV gc L.par,rV gd L.con,rV ge L.fst,rV gf L.tok] (fun r h=>∃(wa:Hd) (wb:Hd) (wc:Hd) (wd:Hd) (we:Hd) (wf:Hd),h=[.obj b [.h wa,.h wb,.h wc,.h wd,.h we,.h wf,Z0 ln],rV wa ((L.grow t o p).vars),rV wb ((L.grow t o p).own),rV wc ((L.grow t o p).par),rV wd ((L.grow t o p).con),rV we ((L.grow t o p).fst),rV wf ((L.grow t o p).tok)]):=by
 obtain ⟨e1,e2,e3,e4,e5⟩:=hlk
 refine ZK 65 Tryz.func232 (ar (iR 6 [(0,.p b 0),(2,.i o),(3,.i p),(8,.p b 0),(12,.h ga),(13,.i t)] [0] [b] (iL (Z8 [t]) 1 1 ?_)))
 intro v1
 refine Z5 0 (.n 14 (Z0 [t]) (.p .r)) (Kw 2 ga L.vars [t] none ?_)
 intro v2
 refine Z1 2 17 (.p b 0) (ZH 2 b [.h v2,.h gb,.h gc,.h gd,.h ge,.h gf,Z0 ln] (ie (ar (Y2 6 (.n 18 (.p b 0) (.n 22 (.h gb) (.n 23 (.i o) .r))) [0] [b] (iL (Z8 [o]) 1 1 ?_)))))
 intro v3
 refine Z5 0 (.n 24 (Z0 [o]) (.p .r)) (Kw 4 gb L.own [o] none ?_)
 intro v4
 refine Z1 2 27 (.p b 1) (ZH 2 b [.h v2,.h v4,.h gc,.h gd,.h ge,.h gf,Z0 ln] (ie (ar (Y2 6 (.n 28 (.p b 0) (.n 32 (.h gc) (.n 33 (.i p) .r))) [0] [b] (iL (Z8 [p]) 1 1 ?_)))))
 intro v5
 refine Z5 0 (.n 34 (Z0 [p]) (.p .r)) (Kw 6 gc L.par [p] none ?_)
 intro v6
 refine Z1 2 37 (.p b 2) (ZH 2 b [.h v2,.h v4,.h v6,.h gd,.h ge,.h gf,Z0 ln] (ie (ar (Y1 5 38 (.p b 0) 42 (.h gd) [0] [b] (iL (Z8 [-1]) 1 1 ?_)))))
 intro v7
 refine Z5 0 (.n 43 (Z0 [-1]) (.p .r)) (Kw 8 gd L.con [-1] none ?_)
 intro v8
 refine Z1 2 46 (.p b 3) (ZH 2 b [.h v2,.h v4,.h v6,.h v8,.h ge,.h gf,Z0 ln] (ie (ar (Y1 5 47 (.p b 0) 51 (.h ge) [0] [b] (iL (Z8 [-1]) 1 1 ?_)))))
 intro v9
 refine Z5 0 (.n 52 (Z0 [-1]) (.p .r)) (Kw 10 ge L.fst [-1] none ?_)
 intro v10
 refine Z1 2 55 (.p b 4) (ZH 2 b [.h v2,.h v4,.h v6,.h v8,.h v10,.h gf,Z0 ln] (ie (az (iR 5 [(56,.p b 0),(60,.h gf)] [0] [b] (iL (Z8 [-1]) 1 1 ?_)))))
 intro v11
 refine Z5 0 (.n 61 (Z0 [-1]) (.p .r)) (Kw 12 gf L.tok [-1] none ?_)
 intro v12
 refine Z1 2 64 (.p b 5) (ZH 2 b [.h v2,.h v4,.h v6,.h v8,.h v10,.h v12,Z0 ln] (ie ?_))
 exact r2 [0,10,8,6,4,2,0] [] ⟨v2,v4,v6,v8,v10,v12,rfl⟩ (lr _) (eq:=(rc (rv (xs:=(L.vars++[t])) ob (rv (xs:=(L.own++[o])) ob (rv (xs:=(L.par++[p])) ob (rv (xs:=(L.con++[-1])) ob (rv (xs:=(L.fst++[-1])) ob (rv (xs:=(L.tok++[-1])) ob rz))))))))
theorem Z1p (b:Nat) (ga:Hd) (gb:Hd) (gc:Hd) (gd:Hd) (ge:Hd) (gf:Hd) (L:ZJ) (ln:List Int) (hlb:L.vars.length<=1000000000:=by exact ob) (hlk:Uz L:=by exact ob) (hln:ln.length<=4294967296:=by exact ob):Zj Tryz.prog 269 [.p b 0] [.obj b [.h ga,.h gb,.h gc,.h gd,.h ge,.h gf,Z0 ln],rV ga L.vars,rV gb L.own,rV gc L.par,rV gd L.con,rV ge L.fst,rV gf L.tok] (fun r h=>∃(c:Nat) (wa:Hd) (wb:Hd) (wc:Hd) (wd:Hd) (we:Hd) (wf:Hd),r=.p c 0/\h=[.obj c [.h wa,.h wb,.h wc,.h wd,.h we,.h wf,Z0 ln],rV wa L.vars,rV wb L.own,rV wc L.par,rV wd L.con,rV we L.fst,rV wf L.tok,.obj b [.h ga,.h gb,.h gc,.h gd,.h ge,.h gf,Z0 ln],rV ga L.vars,rV gb L.own,rV gc L.par,rV gd L.con,rV ge L.fst,rV gf L.tok]):=by
 obtain ⟨e1,e2,e3,e4,e5⟩:=hlk
 refine ZK 40 Tryz.func269 (ar (ir 1 [(0,.p b 0)] (ie (aD 38 (W2 10 38 [0,1,2,3,5,6,7,8,10,11,12,13,15,16,17,18,20,21,22,23,25,26,27,28,30,31,32,33] [(6,.h ga),(11,.h gb),(16,.h gc),(21,.h gd),(26,.h ge),(31,.h gf),(36,Z0 ln)] [0,0,0,0,0,0,0] [b,b,b,b,b,b,b] (Z9 4 (Kn 4 [1] [0,0,0,0,0,0] [b,b,b,b,b,b] [rV ga L.vars] (A6 L.vars) B7 (gL (v:=ga) 0 gN) (QE Kx) ?_)))))))
 rintro _ _ ⟨v1,rfl,rfl⟩
 refine Z9 9 (Kn 9 [3] [0,0,0,0,0] [b,b,b,b,b] [rV gb L.own] (A6 L.own) B7 (gL (v:=gb) 0 gN) (QE Kx) ?_)
 rintro _ _ ⟨v2,rfl,rfl⟩
 refine Z9 14 (Kn 14 [5] [0,0,0,0] [b,b,b,b] [rV gc L.par] (A6 L.par) B7 (gL (v:=gc) 0 gN) (QE Kx) ?_)
 rintro _ _ ⟨v3,rfl,rfl⟩
 refine Z9 19 (Kn 19 [7] [0,0,0] [b,b,b] [rV gd L.con] (A6 L.con) B7 (gL (v:=gd) 0 gN) (QE Kx) ?_)
 rintro _ _ ⟨v4,rfl,rfl⟩
 refine Z9 24 (Kn 24 [9] [0,0] [b,b] [rV ge L.fst] (A6 L.fst) B7 (gL (v:=ge) 0 gN) (QE Kx) ?_)
 rintro _ _ ⟨v5,rfl,rfl⟩
 refine Z9 29 (Kn 29 [11] [0] [b] [rV gf L.tok] (A6 L.tok) B7 (gL (v:=gf) 0 gN) (QE Kx) ?_)
 rintro _ _ ⟨v6,rfl,rfl⟩
 refine Z9 34 (dc 34 [] [] [] (VJ ln) ?_)
 rintro _ _ ⟨v7,rfl,rfl⟩
 refine Xa 2 3 [35] [(38,.agg [.h v1,.h v2,.h v3,.h v4,.h v5,.h v6,Z0 ln])] (Z9 36 (dA 36 [] [] [.h v1,.h v2,.h v3,.h v4,.h v5,.h v6,Z0 ln] ?_))
 intro b1
 refine Xa 0 1 [37] [(2,.p b1 0)] (de ?_)
 exact Zc (r1 [0,11,9,7,5,3,1,7,6,5,4,3,2,1] ⟨b1,v1,v2,v3,v4,v5,v6,rfl,rfl⟩)
theorem DT (b:Nat) (ga:Hd) (gb:Hd) (gc:Hd) (gd:Hd) (ge:Hd) (gf:Hd) (L:ZJ) (ln:List Int) (i:Int) (hlk:Uz L:=by exact ob) (hi:0<=i/\i<L.vars.length:=by exact ob) (hq:∀x∈L.own,0<=x/\x<=1000000000):Zj Tryz.prog 233 [.p b 0,.i i] [.obj b [.h ga,.h gb,.h gc,.h gd,.h ge,.h gf,Z0 ln],rV ga L.vars,rV gb L.own,rV gc L.par,rV gd L.con,rV ge L.fst,rV gf L.tok] (fun r h=>(∃(wa:Hd) (wb:Hd) (wc:Hd) (wd:Hd) (we:Hd) (wf:Hd) (L':ZJ),r=.b true/\h=[.obj b [.h wa,.h wb,.h wc,.h wd,.h we,.h wf,Z0 ln],rV wa L'.vars,rV wb L'.own,rV wc L'.par,rV wd L'.con,rV we L'.fst,rV wf L'.tok]/\Te L i=some L')∨(r=.b false/\h=[]/\Te L i=none)):=by
 obtain ⟨e1,e2,e3,e4,e5⟩:=hlk
 refine ZK 27 Tryz.func233 (ar (ir 1 [(0,.p b 0),(1,.i i)] (ie (aq (ar (Y1 5 8 (.h gb) 9 (.i i) [0] [b] (Zq (Vz 2 gb L.own i i.toNat (hq:=rfl)) ?_)))))))
 obtain ⟨x1,Z3⟩:=Zs (xs:=L.own) (j:=i.toNat) om
 have hxq:=hq _ (Y7 Z3)
 have hgi:=UQ Z3
 refine VI (Tp 2 gb L.own i.toNat x1 Z3) (Z1 1 12 (.b (decide (x1<1))) (ie (ZM (x1<1) (fun Ze=>?_) (fun Ze=>?_))))
 ·refine ar (ir 1 [(4,.b false)] (ie ?_))
  exact Zc (r1 [] (.inr ⟨rfl,rfl,(by rw [Te,hgi,Zm Ze])⟩))
 refine ak (aD 15 (W2 5 15 [0,1,2,3,4,5,6,7,8,9] [(16,.h gb),(17,.i i),(21,.h gb),(22,.i i)] [0,0] [b,b] (dx 10 (Vz 2 gb L.own i i.toNat (hq:=rfl)) (VM 11 (Tp 2 gb L.own i.toNat x1 Z3) (da 12 ((x1-1)) ((x1)-(1)) (dx 13 (Vz 2 gb L.own i i.toNat (hq:=rfl)) (Z9 14 (JJ 14 2 [] [] gb L.own i.toNat (x1-1) (de (ar (ir 1 [(4,.b true)] (ie ?_))))))))))))
 exact Zc (r1 [1,1,0,0,0,0,0] (.inl ⟨ga,gb,gc,gd,ge,gf,(ZJ.mk L.vars (L.own.set i.toNat (x1-1)) L.par L.con L.fst L.tok),rfl,rfl,(by rw [Te,hgi,Zb Ze])⟩) (eq:=(rc (rv (xs:=L.vars) ob (rv (xs:=(L.own.set i.toNat (x1-1))) ob (rv (xs:=L.par) ob (rv (xs:=L.con) ob (rv (xs:=L.fst) ob (rv (xs:=L.tok) ob rz)))))))))
theorem DS (b:Nat) (ga:Hd) (gb:Hd) (gc:Hd) (gd:Hd) (ge:Hd) (gf:Hd) (L:ZJ) (ln:List Int) (i:Int) (hlk:Uz L:=by exact ob) (hln:ln.length<=4294967296:=by exact ob) (hi:0<=i/\i<L.vars.length:=by exact ob) (hd:∀j:Int,0<=j->j<L.vars.length->gI L.par j<j):Zj Tryz.prog 162 [.p b 0,.i i] [.obj b [.h ga,.h gb,.h gc,.h gd,.h ge,.h gf,Z0 ln],rV ga L.vars,rV gb L.own,rV gc L.par,rV gd L.con,rV ge L.fst,rV gf L.tok] (fun r h=>r=.b (VB L ln i)/\h=[.obj b [.h ga,.h gb,.h gc,.h gd,.h ge,.h gf,Z0 ln],rV ga L.vars,rV gb L.own,rV gc L.par,rV gd L.con,rV ge L.fst,rV gf L.tok]):=by
 obtain ⟨e1,e2,e3,e4,e5⟩:=hlk
 refine ZK 31 Tryz.func162 (ar (ir 1 [(0,.p b 0),(1,.i i)] (ie (aq (ab 0 (al (fun m F h=>∃(j:Int),(0<=j/\j<L.vars.length)/\(TM L.own L.par ln (j.toNat+1) j=VB L ln i)/\F=[(0,.p b 0),(1,.i j)]/\h=[.obj b [.h ga,.h gb,.h gc,.h gd,.h ge,.h gf,Z0 ln],rV ga L.vars,rV gb L.own,rV gc L.par,rV gd L.con,rV ge L.fst,rV gf L.tok]/\m=j.toNat) _ _ _ ⟨i,ob,ob,rfl,rfl,rfl⟩ (ZL 7 fl) ?_))))))
 rintro m F h ⟨j,Ym,Zp,rfl,rfl,rfl⟩
 refine aq (ar (Y1 5 8 (.h gb) 9 (.i j) [0] [b] (Zq (Vz 2 gb L.own j j.toNat (hq:=rfl)) ?_)))
 obtain ⟨x1,Z3⟩:=Zs (xs:=L.own) (j:=j.toNat) om
 have hg1:=UQ Z3
 refine VI (Tp 2 gb L.own j.toNat x1 Z3) (Xp [(0,.p b 0),(1,.i j),(21,.b ((decide (x1<1))&&(!(decide (j∈ln)))))] [.obj b [.h ga,.h gb,.h gc,.h gd,.h ge,.h gf,Z0 ln],rV ga L.vars,rV gb L.own,rV gc L.par,rV gd L.con,rV ge L.fst,rV gf L.tok] ?_ ?_)
 ·refine ir 2 [(0,.p b 0),(1,.i j),(13,.b (decide (x1<1)))] (ib (b:=(decide (x1<1))) 13 (fun Za=>?_) (fun Za=>?_))
  ·have ZP:x1<1:=(dq).1 Za
   refine Y2 5 (.n 17 (Z0 ln) (.n 18 (.i j) (.k (.k (.k .z))))) [0] [b] (ZA [] (U0 ln j) (Z1 2 21 (.b (!(decide (j∈ln)))) (ie ?_)))
   exact ZL 7 (fw (Zr (!(decide (j∈ln))) Za fl))
  have Y0:¬(x1<1):=ZG dq Za
  refine Z5 8 (.n 21 (.b false) (.d (.k (.k .z)))) (ie ?_)
  exact ZL 7 (fw (Zr false Za fl))
 refine ac ((decide (x1<1))&&(!(decide (j∈ln)))) (p:=(x1<1)/\(¬(j∈ln))) (YE dq (Yt dq)) (fun Ze=>?_) (fun Ze=>?_)
 ·refine ak (ab 1 (ar (iR 5 [(0,.p b 0),(25,.h gc),(26,.i j)] [0] [b] (Zq (Vz 3 gc L.par j j.toNat (hq:=rfl)) ?_))))
  obtain ⟨x2,Zv⟩:=Zs (xs:=L.par) (j:=j.toNat) om
  have hg2:=UQ Zv
  have hdj:=hd j om om
  rw [hg2] at hdj
  refine VI (Tp 3 gc L.par j.toNat x2 Zv) (Z1 1 1 (.i x2) (ie (ar (Z1 2 30 (.b (decide (x2<0))) (ie (ZM (x2<0) (fun Zk=>?_) (fun Zk=>?_)))))))
  ·refine ar (ir 1 [(4,.b false)] (ie ?_))
   exact Zc (r2 [0,0,0,0,0,0,0] [.b false] ⟨rfl,rfl⟩ (lb (Oi hg1 hg2 Ze Zk Zp)))
  refine ak ?_
  exact ZQ ⟨x2,om,(Oj hg1 hg2 Ym Ze Zk hd Zp),rfl,rfl,rfl⟩ (ZL 7 fl)
 refine ax 0 (ar (ir 1 [(4,.b true)] (ie ?_)))
 exact Zc (r2 [0,0,0,0,0,0,0] [.b true] ⟨rfl,rfl⟩ (lb (Ok hg1 Ze Zp)))
theorem LI (b:Nat) (ga:Hd) (gb:Hd) (gc:Hd) (gd:Hd) (ge:Hd) (gf:Hd) (L:ZJ) (ln:List Int) (mm:Nat) (hlk:Uz L:=by exact ob) (hlb:L.vars.length<=1000000000:=by exact ob) (hm:mm<=L.vars.length:=by exact ob):Zj Tryz.prog 273 [.p b 0,.i mm] [.obj b [.h ga,.h gb,.h gc,.h gd,.h ge,.h gf,Z0 ln],rV ga L.vars,rV gb L.own,rV gc L.par,rV gd L.con,rV ge L.fst,rV gf L.tok] (fun r h=>(∃(wa:Hd) (wb:Hd) (wc:Hd) (wd:Hd) (we:Hd) (wf:Hd) (L':ZJ),r=.b true/\h=[.obj b [.h wa,.h wb,.h wc,.h wd,.h we,.h wf,Z0 ln],rV wa L'.vars,rV wb L'.own,rV wc L'.par,rV wd L'.con,rV we L'.fst,rV wf L'.tok]/\Km L mm=some L')∨(r=.b false/\h=[]/\Km L mm=none)):=by
 obtain ⟨e1,e2,e3,e4,e5⟩:=hlk
 refine ZK 88 Tryz.func273 (ar (ir 1 [(0,.p b 0),(1,.i mm)] (ie (aq (ar (Z1 2 5 (.i mm) (ie (ab 0 (al (fun m F h=>∃(k:Nat),(mm<=k/\k<=L.vars.length)/\(Ad (L.own.drop k) (L.tok.drop k)=Ad (L.own.drop mm) (L.tok.drop mm))/\F=[(0,.p b 0),(1,.i mm),(5,.i k)]/\h=[.obj b [.h ga,.h gb,.h gc,.h gd,.h ge,.h gf,Z0 ln],rV ga L.vars,rV gb L.own,rV gc L.par,rV gd L.con,rV ge L.fst,rV gf L.tok]/\m=L.vars.length-k) _ _ _ ⟨mm,ob,ob,rfl,rfl,rfl⟩ (ZL 7 fl) ?_)))))))))
 rintro m F h ⟨k,Ym,Zp,rfl,rfl,rfl⟩
 refine aq (ar (Y1 5 7 (.i k) 11 (.h ga) [0] [b] (Zq (Jo 1 ga L.vars) (Z1 1 13 (.b (decide ((k:Int)<(L.vars.length:Int)))) (ie (ZM ((k:Int)<(L.vars.length:Int)) (fun Ze=>?_) (fun Ze=>?_)))))))
 ·refine ak (aq (ab 1 (ar (Y1 5 19 (.h gb) 20 (.i k) [0] [b] (Zq (Vz 2 gb L.own (k:Int) k) ?_)))))
  obtain ⟨x1,Z3⟩:=Zs (xs:=L.own) (j:=k) om
  refine VI (Tp 2 gb L.own k x1 Z3) (Z1 2 24 (.b (x1 != 0)) (ib (b:=(x1 != 0)) 24 (fun Za=>?_) (fun Za=>?_)))
  ·have ZP:x1≠0:=(Yc).1 Za
   refine Z5 9 (.n 33 (.b true) (.k (.d .r))) (ie (WL (ar (ir 1 [(4,.b false)] (ie ?_)))))
   obtain ⟨y2,hy2⟩:=Zs (xs:=L.tok) (j:=k) om
   exact Zc (r1 [] (.inr ⟨rfl,rfl,(by rw [Km,<-Zp,Yb Z3,Yb hy2,Ad,Zm (show x1≠0∨0<=y2 by omega)];rfl)⟩))
  have Y0:¬(x1≠0):=ZG Yc Za
  refine Y2 5 (.n 28 (.h gf) (.n 29 (.i k) (.k (.d .r)))) [0] [b] (Zq (Vz 6 gf L.tok (k:Int) k) ?_)
  obtain ⟨x2,Zv⟩:=Zs (xs:=L.tok) (j:=k) om
  refine VI (Tp 6 gf L.tok k x2 Zv) (Z1 2 33 (.b (decide (x2>=0))) (ie (ZM (x2>=0) (fun Zk=>?_) (fun Zk=>?_))))
  ·refine ar (ir 1 [(4,.b false)] (ie ?_))
   exact Zc (r1 [] (.inr ⟨rfl,rfl,(by rw [Km,<-Zp,Yb Z3,Yb Zv,Ad,Zm (show x1≠0∨0<=x2 by omega)];rfl)⟩))
  refine ak (az (Z1 1 14 (.i k) (ZO k (ir 1 [(0,.p b 0),(1,.i mm),(5,.i (k+1:Nat))] (ie ?_)))))
  exact ZQ ⟨k+1,ob,(by rw [Yb Z3,Yb Zv,Ad,Zb om] at Zp;exact Zp),rfl,rfl,rfl⟩ (ZL 7 (fw (ZW k fl)))
 refine ax 0 (ar (Y2 6 (.n 34 (.p b 0) (.n 38 (.h ga) (.n 39 (.i mm) .r))) [0] [b] (Zq (Ab 1 ga L.vars mm) (Z1 2 42 (.p b 0) (XK (AT 1 mm ga L.vars) (ZH 1 b [.h (ga.cut mm),.h gb,.h gc,.h gd,.h ge,.h gf,Z0 ln] (ie (ar (Y2 6 (.n 43 (.p b 0) (.n 47 (.h gb) (.n 48 (.i mm) .r))) [0] [b] (Zq (Ab 2 gb L.own mm) (Z1 2 51 (.p b 1) (XK (AT 2 mm gb L.own) (ZH 1 b [.h (ga.cut mm),.h (gb.cut mm),.h gc,.h gd,.h ge,.h gf,Z0 ln] (ie (ar (Y2 6 (.n 52 (.p b 0) (.n 56 (.h gc) (.n 57 (.i mm) .r))) [0] [b] (Zq (Ab 3 gc L.par mm) (Z1 2 60 (.p b 2) (XK (AT 3 mm gc L.par) (ZH 1 b [.h (ga.cut mm),.h (gb.cut mm),.h (gc.cut mm),.h gd,.h ge,.h gf,Z0 ln] (ie (ar (Y2 6 (.n 61 (.p b 0) (.n 65 (.h gd) (.n 66 (.i mm) .r))) [0] [b] (Zq (Ab 4 gd L.con mm) (Z1 2 69 (.p b 3) (XK (AT 4 mm gd L.con) (ZH 1 b [.h (ga.cut mm),.h (gb.cut mm),.h (gc.cut mm),.h (gd.cut mm),.h ge,.h gf,Z0 ln] (ie (ar (Y2 6 (.n 70 (.p b 0) (.n 74 (.h ge) (.n 75 (.i mm) .r))) [0] [b] (Zq (Ab 5 ge L.fst mm) (Z1 2 78 (.p b 4) (XK (AT 5 mm ge L.fst) (ZH 1 b [.h (ga.cut mm),.h (gb.cut mm),.h (gc.cut mm),.h (gd.cut mm),.h (ge.cut mm),.h gf,Z0 ln] (ie (ar (iR 6 [(79,.p b 0),(83,.h gf),(84,.i mm)] [0] [b] (Zq (Ab 6 gf L.tok mm) (Z1 2 87 (.p b 5) (XK (AT 6 mm gf L.tok) (ZH 1 b [.h (ga.cut mm),.h (gb.cut mm),.h (gc.cut mm),.h (gd.cut mm),.h (ge.cut mm),.h (gf.cut mm),Z0 ln] (ie (ar (ir 1 [(4,.b true)] (ie ?_)))))))))))))))))))))))))))))))))))))))))))))
 exact Zc (r1 [0,5,4,3,2,1,0] (.inl ⟨(ga.cut mm),(gb.cut mm),(gc.cut mm),(gd.cut mm),(ge.cut mm),(gf.cut mm),(ZJ.mk (L.vars.take mm) (L.own.take mm) (L.par.take mm) (L.con.take mm) (L.fst.take mm) (L.tok.take mm)),rfl,rfl,(by rw [Km,Zm (by rw [<-Zp,Xx om];rfl)];rfl)⟩) (eq:=(rc (rv (xs:=(L.vars.take mm)) ob (rv (xs:=(L.own.take mm)) ob (rv (xs:=(L.par.take mm)) ob (rv (xs:=(L.con.take mm)) ob (rv (xs:=(L.fst.take mm)) ob (rv (xs:=(L.tok.take mm)) ob rz)))))))))
theorem Z1r (b:Nat) (ga:Hd) (gb:Hd) (gc:Hd) (gd:Hd) (ge:Hd) (gf:Hd) (n:Zy) (s:Z4) (L:ZJ) (ln:List Int) (q:Int) (x:Int) (hn:Xe n:=by exact ob) (hk:Xz n.decls L q:=by exact ob) (hlb:L.vars.length<=1000000000:=by exact ob) (ha:s.args[0]? = some x:=by exact ob) (hx:0<=x/\x<L.vars.length:=by exact ob) (hq:0<=q/\q<=999999990:=by exact ob):Zj Tryz.prog 234 [.p b 0,ZE n,Y4 s] [.obj b [.h ga,.h gb,.h gc,.h gd,.h ge,.h gf,Z0 ln],rV ga L.vars,rV gb L.own,rV gc L.par,rV gd L.con,rV ge L.fst,rV gf L.tok] (fun r h=>(∃(wa:Hd) (wb:Hd) (wc:Hd) (wd:Hd) (we:Hd) (wf:Hd) (L':ZJ),r=.b true/\h=[.obj b [.h wa,.h wb,.h wc,.h wd,.h we,.h wf,Z0 ln],rV wa L'.vars,rV wb L'.own,rV wc L'.par,rV wd L'.con,rV we L'.fst,rV wf L'.tok]/\Kz n.decls L s.op x=some L')∨(r=.b false/\h=[]/\Kz n.decls L s.op x=none)):=by
 obtain ⟨e1,e2,e3,e4,e5⟩:=hk.len
 have Xu:=hn.decls
 have hal:=(XM.1 ha).1
 obtain ⟨xcon,hxcon⟩:=Zs (xs:=L.con) (j:=(x).toNat) om
 have hgcon:=UQ hxcon
 obtain ⟨xtok,hxtok⟩:=Zs (xs:=L.tok) (j:=(x).toNat) om
 have hgtok:=UQ hxtok
 obtain ⟨xfst,hxfst⟩:=Zs (xs:=L.fst) (j:=(x).toNat) om
 have hgfst:=UQ hxfst
 have hfl:=VH Xu xcon
 have har:=hk.arm x om om
 rw [hgcon,hgfst] at har
 refine ZK 105 Tryz.func234 (ar (iA (ZU n) ?_))
 intro b1
 refine iA (Yg s) ?_
 intro b2
 refine ir 1 [(0,.p b 0),(4,.p b1 0),(5,.p b2 0)] (ie (ar (Yk 2 11 (Z0 s.args) [0] [b2] (Zq (Zo none 0 1 (Y3 ha)) (Z1 2 7 (.i x) (ie (aq (ar (Y1 5 17 (.h gd) 18 (.i x) [2] [b] (Zq (Vz 6 gd L.con x x.toNat (hq:=rfl)) (VI (Tp 6 gd L.con x.toNat xcon hxcon) (XP 23 [(0,.p b 0),(4,.p b1 0),(5,.p b2 0),(7,.i x),(36,.b ((decide (xcon<0))||((s.op==17)&&(decide (xtok>=0)))))] [.obj b2 (Yg s),.obj b1 (ZU n),.obj b [.h ga,.h gb,.h gc,.h gd,.h ge,.h gf,Z0 ln],rV ga L.vars,rV gb L.own,rV gc L.par,rV gd L.con,rV ge L.fst,rV gf L.tok] ?_ (fun hj1=>?_)))))))))))))
 ·refine ir 1 [(0,.p b 0),(4,.p b1 0),(5,.p b2 0),(7,.i x),(37,.b ((decide (xcon<0))||((s.op==17)&&(decide (xtok>=0)))))] (ib (b:=((decide (xcon<0))||((s.op==17)&&(decide (xtok>=0))))) 37 (fun Za=>?_) (fun Za=>?_))
  ·have ZP:(xcon<0)∨((s.op=17)/\(xtok>=0)):=((Yh dq (YE Zh dq))).1 Za
   refine Z5 5 (.n 42 (.b true) (.d (.w .z))) (ie (WL (ar (ir 1 [(6,.b false)] (ie ?_)))))
   exact Zc (r1 [] (.inr ⟨rfl,rfl,(by rw [Kz,hgcon,hgtok,Zm om])⟩))
  have Y0:¬((xcon<0)∨((s.op=17)/\(xtok>=0))):=ZG (Yh dq (YE Zh dq)) Za
  refine Z5 2 (.n 38 (.p b 0) (.n 39 (.i x) (.w (.k .z)))) (ic [2,2,2,2,2,2,2] (DT b ga gb gc gd ge gf L ln x (hlk:=hk.len) (hq:=(fun y hy=>⟨hk.nn y hy,by have:=hk.bd y hy;omega⟩))) ?_)
  rintro _ _ (⟨wa1,wb1,wc1,wd1,we1,wf1,L'1,rfl,rfl,YB⟩|⟨rfl,rfl,YN⟩)
  ·obtain ⟨t1,t2,t3,t4,t5,t6,t7⟩:=Kb YB
   have hk1:=hk.take YB
   obtain ⟨f1,f2,f3,f4,f5⟩:=hk1.len
   have hxcon1:L'1.con[x.toNat]? = some xcon:=by rw [t4];exact hxcon
   have hvl:L'1.vars.length=L.vars.length:=by rw [t2]
   have har2:=har om
   have hxfst1:L'1.fst[x.toNat]? = some xfst:=by rw [t5];exact hxfst
   refine Z1 2 42 (.b false) (ie (WS (ak (aD 11 (Y6 4 11 [0,1,2,3,4,5,6] (.n 44 (Zd n.decls) (.n 48 (.h wd1) (.n 49 (.i x) .r))) [8,0] [b1,b] (dx 7 (Vz 4 wd1 L'1.con x x.toNat (hq:=rfl)) (VM 8 (Tp 4 wd1 L'1.con x.toNat xcon hxcon1) (Z9 9 (Ys 9 [] [] [] (Qh n.decls xcon) (ZY 0 1 [10] 8 (Z0 (ZB n.decls xcon)) (de (aq (ar (Z1 1 9 (.i 0) (ie (ab 0 (al (fun m F h=>∃(k:Nat) (o:List Int),(k<=(ZB n.decls xcon).length)/\(o.length=L.vars.length)/\(∀y∈o,0<=y/\y<=q+k)/\(Tv o (xfst+k) ((ZB n.decls xcon).drop k)=Tv L'1.own xfst (ZB n.decls xcon))/\F=[(0,.p b 0),(5,.p b2 0),(7,.i x),(8,Z0 (ZB n.decls xcon)),(9,.i k)]/\h=[.obj b [.h wa1,.h wb1,.h wc1,.h wd1,.h we1,.h wf1,Z0 ln],rV wa1 L'1.vars,rV wb1 o,rV wc1 L'1.par,rV wd1 L'1.con,rV we1 L'1.fst,rV wf1 L'1.tok,.obj b2 (Yg s)]/\m=(ZB n.decls xcon).length-k) _ _ _ ⟨0,L'1.own,ob,om,(by intro y hy;have h1:=hk1.nn y hy;have h2:=hk1.bd y hy;omega),(by rw [show xfst+((0:Nat):Int)=xfst by omega,Jr]),rfl,rfl,rfl⟩ (ZL 8 (fq (Ye fl))) ?_)))))))))))))))))
   rintro m F h ⟨k,o,Ym,Zp,Zz,YJ,rfl,rfl,rfl⟩
   refine aq (ar (Yo 2 53 (.i k) 54 (Z0 (ZB n.decls xcon)) (io (.i (((ZB n.decls xcon).length:Nat):Int)) (.i (((Z8 (ZB n.decls xcon)).length:Nat):Int)) (li (by rw [Yd])) (Z1 1 56 (.b (decide ((k:Int)<(((ZB n.decls xcon).length:Nat):Int)))) (ie (ZM ((k:Int)<(((ZB n.decls xcon).length:Nat):Int)) (fun Ze=>?_) (fun Ze=>?_)))))))
   ·refine ak (aq (ab 1 (ar (Yo 2 59 (Z0 (ZB n.decls xcon)) 60 (.i k) ?_))))
    obtain ⟨x1,Z3⟩:=Zs (xs:=ZB n.decls xcon) (j:=k) om
    refine Zq (Zo none (k:Int) 1 (Y3 Z3)) (Z1 2 63 (.b (x1 != 0)) (ie (ac (x1 != 0) Yc (fun Zk=>?_) (fun Zk=>?_))))
    ·refine aE 31 (Y6 22 31 [0,1,2,3,4,5,6,7,8] (.n 67 (.h wb1) (.n 71 (.h we1) (.n 72 (.i x) .r))) [0,0] [b,b] (dx 9 (Vz 5 we1 L'1.fst x x.toNat (hq:=rfl)) (VM 10 (Tp 5 we1 L'1.fst x.toNat xfst hxfst1) (ZY 19 20 [11] 75 (.i k) (da 12 ((xfst+(k:Int))) ((xfst)+((k:Int))) (Y6 9 18 [13,14,15,16,17,18,19,20,21] (.n 80 (.h wb1) (.n 84 (.h we1) (.n 85 (.i x) .r))) [0,0] [b,b] (dx 22 (Vz 5 we1 L'1.fst x x.toNat (hq:=rfl)) (VM 23 (Tp 5 we1 L'1.fst x.toNat xfst hxfst1) (ZY 6 7 [24] 88 (.i k) (da 25 ((xfst+(k:Int))) ((xfst)+((k:Int))) (dx 26 (Vz 2 wb1 o (xfst+(k:Int)) ((xfst+(k:Int)).toNat) (hq:=rfl)) ?_)))))))))))
     obtain ⟨x2,Zv⟩:=Zs (xs:=o) (j:=((xfst+(k:Int)).toNat)) om
     have hy2:=Zz _ (Y7 Zv)
     refine VM 27 (Tp 2 wb1 o ((xfst+(k:Int)).toNat) x2 Zv) (da 28 ((x2+1)) ((x2)+(1)) (dx 29 (Vz 2 wb1 o (xfst+(k:Int)) ((xfst+(k:Int)).toNat) (hq:=rfl)) (Z9 30 (JJ 30 2 [] [] wb1 o ((xfst+(k:Int)).toNat) (x2+1) (de (az (Z1 1 57 (.i k) (ZO k (ir 1 [(0,.p b 0),(5,.p b2 0),(7,.i x),(8,Z0 (ZB n.decls xcon)),(9,.i (k+1:Nat))] (ie ?_))))))))))
     exact ZQ ⟨k+1,(o.set (xfst+(k:Nat)).toNat (x2+1)),ob,ob,(by intro y hy;first|(rcases Ky hy with hy|rfl<;>first|(have:=Zz y hy;omega)|omega)|(have:=Zz y hy;omega)),(by rw [Yb Z3,Tv] at YJ;first|(rw [Zm Zk,UQ Zv] at YJ;rw [show xfst+((k+1:Nat):Int)=xfst+k+1 by omega];exact YJ)|(rw [Zb Zk] at YJ;rw [show xfst+((k+1:Nat):Int)=xfst+k+1 by omega];exact YJ)),rfl,rfl,rfl⟩ (wk [1,1,0,0,0,0,0,0] (fq (ZW k fl)) (e:=(rc (rc (rv (xs:=(o.set ((xfst+(k:Int)).toNat) (x2+1))) ob (rc (rc (rc (rc (rc rz))))))))))
    refine ak (az (Z1 1 57 (.i k) (ZO k (ir 1 [(0,.p b 0),(5,.p b2 0),(7,.i x),(8,Z0 (ZB n.decls xcon)),(9,.i (k+1:Nat))] (ie ?_)))))
    exact ZQ ⟨k+1,o,ob,ob,(by intro y hy;first|(rcases Ky hy with hy|rfl<;>first|(have:=Zz y hy;omega)|omega)|(have:=Zz y hy;omega)),(by rw [Yb Z3,Tv] at YJ;first|(rw [Zm Zk,UQ Zv] at YJ;rw [show xfst+((k+1:Nat):Int)=xfst+k+1 by omega];exact YJ)|(rw [Zb Zk] at YJ;rw [show xfst+((k+1:Nat):Int)=xfst+k+1 by omega];exact YJ)),rfl,rfl,rfl⟩ (ZL 8 (fq (ZW k fl)))
   refine ax 0 (aq (ar (Yk 3 96 (.b (s.op==17)) [7] [b2] (ie (ac (s.op==17) Zh (fun ZI=>?_) (fun ZI=>?_))))))
   ·refine az (iR 6 [(100,.h wf1),(101,.i x),(102,Z0 (ZB n.decls xcon))] [0] [b] (io (.i (((ZB n.decls xcon).length:Nat):Int)) (.i (((Z8 (ZB n.decls xcon)).length:Nat):Int)) (li (by rw [Yd])) (Zq (Vz 6 wf1 L'1.tok x x.toNat (hq:=rfl)) (Le 6 wf1 L'1.tok x.toNat (((ZB n.decls xcon).length:Nat):Int) (ie (ar (ir 1 [(6,.b true)] (ie ?_))))))))
    have hof:o=Tv L'1.own xfst (ZB n.decls xcon):=by rw [<-YJ,Xx om];rfl
    exact Zc (r1 [1,1,1,1,1,1,0] (.inl ⟨wa1,wb1,wc1,wd1,we1,wf1,(ZJ.mk L'1.vars o L'1.par L'1.con L'1.fst (L'1.tok.set x.toNat (((ZB n.decls xcon).length:Nat):Int))),rfl,rfl,(by rw [Kz,hgcon,hgfst,hgtok,Zb om,YB,hof,t6];simp [ZI,t2,t3,t4,t5])⟩) (eq:=(rc (rv (xs:=L'1.vars) ob (rv (xs:=o) ob (rv (xs:=L'1.par) ob (rv (xs:=L'1.con) ob (rv (xs:=L'1.fst) ob (rv (xs:=(L'1.tok.set x.toNat (((ZB n.decls xcon).length:Nat):Int))) ob rz)))))))))
   refine ak (ar (ir 1 [(6,.b true)] (ie ?_)))
   have hof:o=Tv L'1.own xfst (ZB n.decls xcon):=by rw [<-YJ,Xx om];rfl
   exact Zc (r1 [0,0,0,0,0,0,0] (.inl ⟨wa1,wb1,wc1,wd1,we1,wf1,(ZJ.mk L'1.vars o L'1.par L'1.con L'1.fst L'1.tok),rfl,rfl,(by rw [Kz,hgcon,hgfst,hgtok,Zb om,YB,hof,t6];simp [ZI,t2,t3,t4,t5])⟩) (eq:=(rc (rv (xs:=L'1.vars) ob (rv (xs:=o) ob (rv (xs:=L'1.par) ob (rv (xs:=L'1.con) ob (rv (xs:=L'1.fst) ob (rv (xs:=L'1.tok) ob rz)))))))))
  refine Z1 2 42 (.b true) (ie (WL (ar (ir 1 [(6,.b false)] (ie ?_)))))
  exact Zc (r1 [] (.inr ⟨rfl,rfl,(by rw [Kz,hgcon,hgtok,Zb om,YN])⟩))
 refine ir 2 [(0,.p b 0),(4,.p b1 0),(5,.p b2 0),(7,.i x),(22,.b (decide (xcon<0)))] (ib (b:=(decide (xcon<0))) 22 (fun Zw=>?_) (fun Zw=>?_))
 ·have YX:xcon<0:=(dq).1 Zw
  refine Z5 14 (.n 36 (.b true) (.d (.w .z))) ?_
  exact YG (ZL 9 (fq (Zr true Zw fl))) hj1
 have Xy:¬(xcon<0):=ZG dq Zw
 refine Y2 4 (.n 26 (.b (s.op==17)) (.w (.k .z))) [0] [b2] (ib (b:=(s.op==17)) 26 (fun Yw=>?_) (fun Yw=>?_))
 ·have Wh:s.op=17:=(Zh).1 Yw
  refine Y2 5 (.n 30 (.h gf) (.n 31 (.i x) (.k (.d .r)))) [2] [b] (Zq (Vz 8 gf L.tok x x.toNat (hq:=rfl)) (VI (Tp 8 gf L.tok x.toNat xtok hxtok) (Z1 3 36 (.b (decide (xtok>=0))) ?_)))
  exact YG (ZL 9 (fq (Zr (decide (xtok>=0)) (And.intro Zw Yw) fl))) hj1
 have WJ:¬(s.op=17):=ZG Zh Yw
 refine Z5 10 (.n 36 (.b false) (.k (.d .r))) ?_
 exact YG (ZL 9 (fq (Zr false (And.intro Zw Yw) fl))) hj1
theorem Z1q (b:Nat) (ga:Hd) (gb:Hd) (gc:Hd) (gd:Hd) (ge:Hd) (gf:Hd) (n:Zy) (s:Z4) (L:ZJ) (ln:List Int) (q:Int) (hn:Xe n:=by exact ob) (hnum:s.op=9->0<=s.num/\s.num<n.routines.length:=by exact ob) (hk:Xz n.decls L q:=by exact ob) (hlb:L.vars.length<=1000000000:=by exact ob) (hargs:∀a∈s.args,0<=a/\a<L.vars.length) (hinto:0<s.into->s.into<=L.vars.length:=by exact ob) (hal:s.args.length<=1000000000:=by exact ob) (hln:ln.length<=4294967296:=by exact ob) (hq:0<=q/\q<=999999990:=by exact ob):Zj Tryz.prog 236 [.p b 0,ZE n,Y4 s] [.obj b [.h ga,.h gb,.h gc,.h gd,.h ge,.h gf,Z0 ln],rV ga L.vars,rV gb L.own,rV gc L.par,rV gd L.con,rV ge L.fst,rV gf L.tok] (fun r h=>(∃(wa:Hd) (wb:Hd) (wc:Hd) (wd:Hd) (we:Hd) (wf:Hd) (L':ZJ),r=.b true/\h=[.obj b [.h wa,.h wb,.h wc,.h wd,.h we,.h wf,Z0 ln],rV wa L'.vars,rV wb L'.own,rV wc L'.par,rV wd L'.con,rV we L'.fst,rV wf L'.tok]/\K0 n ln L s.op s.num s.into s.args=some L')∨(r=.b false/\h=[]/\K0 n ln L s.op s.num s.into s.args=none)):=by
 obtain ⟨e1,e2,e3,e4,e5⟩:=hk.len
 refine ZK 79 Tryz.func236 (ar (iA (ZU n) ?_))
 intro b1
 refine iA (Yg s) ?_
 intro b2
 refine ir 1 [(0,.p b 0),(4,.p b1 0),(5,.p b2 0)] (ie (aq (ar (Z1 1 7 (.i 0) (ie (ab 0 (al (fun m F h=>∃(k:Nat) (L2:ZJ) (ka:Hd) (kb:Hd) (kc:Hd) (kd:Hd) (ke:Hd) (kf:Hd),(k<=s.args.length)/\(Xz n.decls L2 q)/\(L2.vars=L.vars)/\(Qd n s.op s.num (s.args.drop k) k L2=Qd n s.op s.num s.args 0 L)/\F=[(0,.p b 0),(4,.p b1 0),(5,.p b2 0),(7,.i k)]/\h=[.obj b2 (Yg s),.obj b1 (ZU n),.obj b [.h ka,.h kb,.h kc,.h kd,.h ke,.h kf,Z0 ln],rV ka L2.vars,rV kb L2.own,rV kc L2.par,rV kd L2.con,rV ke L2.fst,rV kf L2.tok]/\m=s.args.length-k) _ _ _ ⟨0,L,ga,gb,gc,gd,ge,gf,ob,hk,ob,ob,rfl,rfl,rfl⟩ (ZL 9 (fw (fr (Ye fl)))) ?_)))))))
 rintro m F h ⟨k,L2,ka,kb,kc,kd,ke,kf,Ym,Zp,Zz,YJ,rfl,rfl,rfl⟩
 refine aq (ar (Y1 3 9 (.i k) 11 (Z0 s.args) [0] [b2] (iw (Yd s.args) (Z1 1 13 (.b (decide ((k:Int)<(s.args.length:Int)))) (ie (ZM ((k:Int)<(s.args.length:Int)) (fun Ze=>?_) (fun Ze=>?_)))))))
 ·obtain ⟨a1,ha1⟩:=Zs (xs:=s.args) (j:=k) om
  obtain ⟨e6,e7,e8,e9,e10⟩:=Zp.len
  have hav:=hargs a1 (Y7 ha1)
  have hvl:L2.vars.length=L.vars.length:=by rw [Zz]
  refine ak (aq (ab 1 (aD 18 (Y6 11 18 [0,1,2,3,4,5,6] (.n 16 (ZE n) (.n 20 (.h ka) (.n 21 (Y4 s) (.n 22 (.i k) .r)))) [1,2,0] [b1,b,b2] (Z9 7 (Kn 7 [3] [] [] [rV ka L2.vars] (Ep n L2.vars s k a1 (ha:=ha1)) Da (gS (gL (v:=ka) 0 (gS (gS gN)))) (QE Kx) ?_))))))
  rintro _ _ ⟨rfl,rfl⟩
  refine ZY 9 10 [8] 24 (.b (UN n L2.vars s.op s.num a1 k)) (db (b:=UN n L2.vars s.op s.num a1 k) 24 (fun Za=>?_) (fun Za=>?_))
  ·have ZP:UN n L2.vars s.op s.num a1 k=true:=(Iff.rfl).1 Za
   refine Y6 5 9 [9,10,11,12] (.n 25 (.p b 0) (.n 27 (Z0 s.args) (.n 28 (.i k) (.k (.d .r))))) [1] [b2] (dx 13 (Zo none (k:Int) 1 (Y3 ha1)) (ZY 3 4 [14] 30 (.i a1) (Z9 15 (dc 15 [3,0,2,2,2,2,2] [] [] (DT b ka kb kc kd ke kf L2 ln a1 (hlk:=Zp.len) (hq:=(fun y hy=>⟨Zp.nn y hy,by have:=Zp.bd y hy;omega⟩))) ?_))))
   rintro _ _ (⟨wa1,wb1,wc1,wd1,we1,wf1,L'1,rfl,rfl,Y0⟩|⟨rfl,rfl,YB⟩)
   ·obtain ⟨t1,t2,t3,t4,t5,t6,t7⟩:=Kb Y0
    have hk2:=Zp.take Y0
    refine ZY 0 2 [16,17] 33 (.b false) (de (WS (ak (az (Z1 1 14 (.i k) (ZO k (ir 1 [(0,.p b 0),(4,.p b1 0),(5,.p b2 0),(7,.i (k+1:Nat))] (ie ?_))))))))
    exact ZQ ⟨k+1,L'1,wa1,wb1,wc1,wd1,we1,wf1,ob,hk2,(t2.trans Zz),(by rw [Yb ha1,Qd,Zm ZP] at YJ;simp only [Y0] at YJ;exact YJ),rfl,rfl,rfl⟩ (wk [7,7,0,0,0,0,0,0,0] (fw (fr (ZW k fl))))
   refine ZY 0 2 [16,17] 33 (.b true) (de (WL (ar (ir 1 [(6,.b false)] (ie ?_)))))
   exact Zc (r1 [] (.inr ⟨rfl,rfl,(by rw [K0,<-YJ,Yb ha1,Qd,Zm ZP,YB])⟩))
  have YN:¬(UN n L2.vars s.op s.num a1 k=true):=ZG Iff.rfl Za
  refine ZZ 0 9 [9,10,11,12,13,14,15,16,17] (.n 33 (.b false) (.k (.d .r))) (de (WS (ak (az (Z1 1 14 (.i k) (ZO k (ir 1 [(0,.p b 0),(4,.p b1 0),(5,.p b2 0),(7,.i (k+1:Nat))] (ie ?_))))))))
  exact ZQ ⟨k+1,L2,ka,kb,kc,kd,ke,kf,ob,Zp,Zz,(by rw [Yb ha1,Qd,Zb YN] at YJ;exact YJ),rfl,rfl,rfl⟩ (wk [1,1,1,0,0,0,0,0,0] (fw (fr (ZW k fl))))
 have hT:Qd n s.op s.num s.args 0 L=some L2:=by rw [<-YJ,Xx om];rfl
 obtain ⟨e6,e7,e8,e9,e10⟩:=Zp.len
 have hvl:L2.vars.length=L.vars.length:=by rw [Zz]
 refine ax 0 (aq (ar (Z1 1 8 (.i 0) (ie (ab 2 (al (fun m F h=>∃(j:Nat),(j<=s.args.length)/\(JQ n s.op s.num ln L2 (s.args.drop j) j=JQ n s.op s.num ln L2 s.args 0)/\F=[(0,.p b 0),(4,.p b1 0),(5,.p b2 0),(8,.i j)]/\h=[.obj b2 (Yg s),.obj b1 (ZU n),.obj b [.h ka,.h kb,.h kc,.h kd,.h ke,.h kf,Z0 ln],rV ka L2.vars,rV kb L2.own,rV kc L2.par,rV kd L2.con,rV ke L2.fst,rV kf L2.tok]/\m=s.args.length-j) _ _ _ ⟨0,ob,ob,rfl,rfl,rfl⟩ (ZL 9 (fw (fr (Ye fl)))) ?_))))))
 rintro m F h ⟨j,Uj,We,rfl,rfl,rfl⟩
 refine aq (ar (Y1 3 34 (.i j) 36 (Z0 s.args) [0] [b2] (iw (Yd s.args) (Z1 1 38 (.b (decide ((j:Int)<(s.args.length:Int)))) (ie (ZM ((j:Int)<(s.args.length:Int)) (fun Zk=>?_) (fun Zk=>?_)))))))
 ·obtain ⟨a2,ha2⟩:=Zs (xs:=s.args) (j:=j) om
  have hav:=hargs a2 (Y7 ha2)
  refine ak (aq (ab 3 (ar (Y2 3 (.n 41 (ZE n) (.n 42 (Y4 s) (.n 43 (.i j) .r))) [1,0] [b1,b2] (ZA [] (CK n s j) (Xp [(0,.p b 0),(4,.p b1 0),(5,.p b2 0),(8,.i j),(54,.b (WK n s.op s.num j&&(!VB L2 ln a2)))] [.obj b [.h ka,.h kb,.h kc,.h kd,.h ke,.h kf,Z0 ln],rV ka L2.vars,rV kb L2.own,rV kc L2.par,rV kd L2.con,rV ke L2.fst,rV kf L2.tok,.obj b2 (Yg s),.obj b1 (ZU n)] ?_ ?_))))))
  ·refine ir 1 [(0,.p b 0),(4,.p b1 0),(5,.p b2 0),(8,.i j),(45,.b (WK n s.op s.num j))] (ib (b:=WK n s.op s.num j) 45 (fun Zw=>?_) (fun Zw=>?_))
   ·have YX:WK n s.op s.num j=true:=(Iff.rfl).1 Zw
    refine Y2 4 (.n 46 (.p b 0) (.n 48 (Z0 s.args) (.n 49 (.i j) (.w (.k .z))))) [0] [b2] (Zq (Zo none (j:Int) 1 (Y3 ha2)) (Z1 1 51 (.i a2) (ZA [2,2,2,2,2,2,2] (DS b ka kb kc kd ke kf L2 ln a2 (hlk:=Zp.len) (hd:=Zp.down)) (Z1 2 54 (.b (!VB L2 ln a2)) (ie ?_)))))
    exact ZL 9 (fq (Zr (!VB L2 ln a2) Zw fl))
   have Xy:¬(WK n s.op s.num j=true):=ZG Iff.rfl Zw
   refine Z5 9 (.n 54 (.b false) (.d (.w .z))) (ie ?_)
   exact wk [2,2,2,2,2,2,2,0,0] (fq (Zr false Zw fl))
  refine ac (WK n s.op s.num j&&(!VB L2 ln a2)) (p:=(WK n s.op s.num j=true)/\(¬(VB L2 ln a2=true))) (YE Iff.rfl (Yt Iff.rfl)) (fun ZI=>?_) (fun ZI=>?_)
  ·refine ar (ir 1 [(6,.b false)] (ie ?_))
   have hA:JQ n s.op s.num ln L2 s.args 0=false:=by rw [<-We,Yb ha2,JQ,Zm ZI]
   exact Zc (r1 [] (.inr ⟨rfl,rfl,(by rw [K0,hT];simp only [hA];rfl)⟩))
  refine ak (az (ir 1 [(0,.p b 0),(4,.p b1 0),(5,.p b2 0),(39,.i j)] (ZO j (Z1 1 8 (.i (j+1:Nat)) (ie ?_)))))
  exact ZQ ⟨j+1,ob,(by rw [Yb ha2,JQ,Zb ZI] at We;exact We),rfl,rfl,rfl⟩ (wk [7,7,0,0,0,0,0,0,0] (fw (fr (ZW j fl))))
 have hA:JQ n s.op s.num ln L2 s.args 0=true:=by rw [<-We,Xx om];rfl
 refine ax 2 (aq (ar (Yk 3 57 (.b (decide (s.into>0))) [0] [b2] (ie (ZM (s.into>0) (fun Yi=>?_) (fun Yi=>?_))))))
 ·obtain ⟨xt,hxt⟩:=Zs (xs:=L2.tok) (j:=(s.into-1).toNat) (by have:=hinto Yi;omega)
  have hgt:=UQ hxt
  refine aq (aD 13 (Y6 7 13 [0,1,2,3,4,5] (.n 61 (.h kf) (.n 63 (.i s.into) .r)) [2,0] [b,b2] (da 6 ((s.into-1)) ((s.into)-(1)) (dx 7 (Vz 8 kf L2.tok (s.into-1) ((s.into-1).toNat) (hq:=rfl)) (VM 8 (Tp 8 kf L2.tok ((s.into-1).toNat) xt hxt) (Y6 2 4 [9,10] (.n 68 (Z0 s.args) .r) [0] [b2] (dw 11 (Yd s.args) (ZY 0 1 [12] 70 (.b (xt != (s.args.length:Int))) (de (ac (xt != (s.args.length:Int)) Yc (fun Xk=>?_) (fun Xk=>?_)))))))))))
  ·refine ar (ir 1 [(6,.b false)] (ie ?_))
   exact Zc (r1 [] (.inr ⟨rfl,rfl,(by rw [K0,hT];simp only [hA,↓reduceIte];rw [Cb,Zm Yi,hgt,Zm Xk])⟩))
  refine ak (aE 9 (W2 3 9 [0,1,2,3,4,5] [(74,.h kf),(76,.i s.into)] [2,0] [b,b2] (da 6 ((s.into-1)) ((s.into)-(1)) (dx 7 (Vz 8 kf L2.tok (s.into-1) ((s.into-1).toNat) (hq:=rfl)) (Z9 8 (JJ 8 8 [] [] kf L2.tok ((s.into-1).toNat) (-1) (de (ar (ir 1 [(6,.b true)] (ie ?_))))))))))
  exact Zc (r1 [3,3,3,3,3,3,0] (.inl ⟨ka,kb,kc,kd,ke,kf,(ZJ.mk L2.vars L2.own L2.par L2.con L2.fst (L2.tok.set ((s.into-1).toNat) (-1))),rfl,rfl,(by rw [K0,hT];simp only [hA,↓reduceIte];rw [Cb,Zm Yi,hgt,Zb Xk])⟩) (eq:=(rc (rv (xs:=L2.vars) ob (rv (xs:=L2.own) ob (rv (xs:=L2.par) ob (rv (xs:=L2.con) ob (rv (xs:=L2.fst) ob (rv (xs:=(L2.tok.set ((s.into-1).toNat) (-1))) ob rz)))))))))
 refine ak (ar (ir 1 [(6,.b true)] (ie ?_)))
 exact Zc (r1 [2,2,2,2,2,2,2] (.inl ⟨ka,kb,kc,kd,ke,kf,L2,rfl,rfl,(by rw [K0,hT];simp only [hA,↓reduceIte];rw [Cb,Zb Yi])⟩))
theorem RE (b:Z7) (t:Int) (hz:b.sz<=1000000) (ih:∀(b2:Z7) (t:Int),(b2.sz<=1000000)->(b2.sz<b.sz)->Zj Tryz.prog 225 [Zx b2,.i t] [] (fun r h=>∃(wr:Bool),r=.b wr/\h=[])):Zj Tryz.prog 225 [Zx b,.i t] [] (fun r h=>∃(wr:Bool),r=.b wr/\h=[]):=by
 have ZD:=Vx b
 have hbl:=K8 b.steps
 have hbe:=b.sz_eq
 refine ZK 53 Tryz.func225 (ar (iA (Yn b) ?_))
 intro b1
 refine ir 1 [(1,.i t),(2,.p b1 0)] (ie (aq (ar (Z1 1 5 (.i 0) (ie (ab 0 (al (fun m F h=>∃(k:Nat),(k<=b.steps.length)/\F=[(1,.i t),(2,.p b1 0),(5,.i k)]/\h=[.obj b1 (Yn b)]/\m=b.steps.length-k) _ _ _ ⟨0,ob,rfl,rfl,rfl⟩ (wk [0] (fw (Ye fl))) ?_)))))))
 rintro m F h ⟨k,Ym,rfl,rfl,rfl⟩
 refine aq (ar (Y1 3 7 (.i k) 9 (Yj b.steps) [0] [b1] (iw (VE b.steps) (Z1 1 11 (.b (decide ((k:Int)<(b.steps.length:Int)))) (ie (ZM ((k:Int)<(b.steps.length:Int)) (fun Ze=>?_) (fun Ze=>?_)))))))
 ·refine ak (aq (ab 1 (aq (ar (Y1 3 15 (Yj b.steps) 16 (.i k) [0] [b1] ?_)))))
  obtain ⟨x1,Z3⟩:=Zs (xs:=b.steps) (j:=k) om
  have hxs:=H2 (Y7 Z3)
  have hxe:=(x1).sz_eq
  have hxk:=T8 x1
  refine Zq (Zo none (k:Int) 5 (Wy Z3)) (Xp [(1,.i t),(2,.p b1 0),(5,.i k),(30,.b ((x1.op==10)&&(x1.num==t)))] [.obj b1 (Yn b)] ?_ ?_)
  ·refine ir 4 [(1,.i t),(2,.p b1 0),(5,.i k),(21,.b (x1.op==10))] (ib (b:=(x1.op==10)) 21 (fun Za=>?_) (fun Za=>?_))
   ·have ZP:x1.op=10:=(Zh).1 Za
    refine Y2 3 (.n 23 (Yj b.steps) (.n 24 (.i k) (.w .z))) [0] [b1] (Zq (Zo none (k:Int) 5 (Wy Z3)) (Z1 5 30 (.b (x1.num==t)) (ie ?_)))
    exact wk [0] (fw (fr (Zr (x1.num==t) Za fl)))
   have Y0:¬(x1.op=10):=ZG Zh Za
   refine Z5 9 (.n 30 (.b false) (.d (.k (.k (.k .z))))) (ie ?_)
   exact wk [0] (fw (fr (Zr false Za fl)))
  refine ac ((x1.op==10)&&(x1.num==t)) (p:=(x1.op=10)/\(x1.num=t)) (YE Zh Zh) (fun Zk=>?_) (fun Zk=>?_)
  ·refine ar (ir 1 [(4,.b true)] (ie ?_))
   exact Zc (r1 [] ⟨true,rfl,rfl⟩)
  refine ak (ar (ir 1 [(1,.i t),(2,.p b1 0),(5,.i k),(6,.i 0)] (ie (ab 2 (al (fun m F h=>∃(j:Nat),(j<=x1.kids.length)/\F=[(1,.i t),(2,.p b1 0),(5,.i k),(6,.i j)]/\h=[.obj b1 (Yn b)]/\m=x1.kids.length-j) _ _ _ ⟨0,ob,rfl,rfl,rfl⟩ (wk [0] (fw (fr (Ye fl)))) ?_)))))
  rintro m F h ⟨j,Uj,rfl,rfl,rfl⟩
  refine aq (ar (Y2 4 (.n 31 (.i j) (.n 33 (Yj b.steps) (.n 34 (.i k) .r))) [0] [b1] (Zq (Zo none (k:Int) 5 (Wy Z3)) (Z1 2 37 (Yz x1.kids) (iw (VX x1.kids) (Z1 1 39 (.b (decide ((j:Int)<(x1.kids.length:Int)))) (ie (ZM ((j:Int)<(x1.kids.length:Int)) (fun ZI=>?_) (fun ZI=>?_)))))))))
  ·refine ak (aq (ab 3 (ar (Y1 3 43 (Yj b.steps) 44 (.i k) [0] [b1] (Zq (Zo none (k:Int) 5 (Wy Z3)) (Yo 3 47 (Yz x1.kids) 48 (.i j) ?_))))))
   obtain ⟨x2,Zv⟩:=Zs (xs:=x1.kids) (j:=j) om
   have hkx:=EZ (Y7 Zv)
   refine Zq (Zo none (j:Int) 2 (UA Zv)) (Yo 2 50 (Zx x2) 51 (.i t) (ic [] (ih x2 t ob ob) ?_))
   rintro _ _ ⟨wr1,rfl,rfl⟩
   refine ie (ac wr1 Iff.rfl (fun Yi=>?_) (fun Yi=>?_))
   ·refine ar (ir 1 [(4,.b true)] (ie ?_))
    exact Zc (r1 [] ⟨true,rfl,rfl⟩)
   refine ak (az (Z1 1 40 (.i j) (ZO j (ir 1 [(1,.i t),(2,.p b1 0),(5,.i k),(6,.i (j+1:Nat))] (ie ?_)))))
   exact ZQ ⟨j+1,ob,rfl,rfl,rfl⟩ (wk [0] (fw (fr (ZW j fl))))
  refine ax 2 (az (Z1 1 12 (.i k) (ZO k (ir 1 [(1,.i t),(2,.p b1 0),(5,.i (k+1:Nat))] (ie ?_)))))
  exact ZQ ⟨k+1,ob,rfl,rfl,rfl⟩ (wk [0] (fw (ZW k fl)))
 refine ax 0 (ar (ir 1 [(4,.b false)] (ie ?_)))
 exact Zc (r1 [] ⟨false,rfl,rfl⟩)
theorem RD (b:Z7) (t:Int) (hz:b.sz<=1000000:=by exact ob):Zj Tryz.prog 225 [Zx b,.i t] [] (fun r h=>∃(wr:Bool),r=.b wr/\h=[]):=by
 have key:∀k:Nat,∀(b2:Z7) (t:Int),(b2.sz<=1000000)->(b2.sz<k)->Zj Tryz.prog 225 [Zx b2,.i t] [] (fun r h=>∃(wr:Bool),r=.b wr/\h=[]):=by
  intro k
  induction k with
  | zero=>intro b2 t h1 h2;omega
  | succ k ih=>intro b2 t h1 h2;exact RE b2 t h1 fun b3 t3 q1 q2=>ih b3 t3 q1 om
 exact key (b.sz+1) b t hz om
theorem RZ (n:Zy) (t:Int) (qz:Nat) (hn:FN n qz:=by exact ob) (hqz:qz<=100000:=by exact ob):Zj Tryz.prog 197 [ZE n,.i t] [] (fun r h=>∃(wr:Bool),r=.b wr/\h=[]):=by
 have hnl:=hn.len
 refine ZK 21 Tryz.func197 (ar (iA (ZU n) ?_))
 intro b1
 refine ir 1 [(1,.i t),(2,.p b1 0)] (ie (aq (ar (Z1 1 5 (.i 0) (ie (ab 0 (al (fun m F h=>∃(k:Nat),(k<=n.routines.length)/\F=[(1,.i t),(2,.p b1 0),(5,.i k)]/\h=[.obj b1 (ZU n)]/\m=n.routines.length-k) _ _ _ ⟨0,ob,rfl,rfl,rfl⟩ (wk [0] (fw (Ye fl))) ?_)))))))
 rintro m F h ⟨k,Ym,rfl,rfl,rfl⟩
 refine aq (ar (Y1 3 6 (.i k) 8 (YZ n.routines) [0] [b1] (iw (U8 n.routines) (Z1 1 10 (.b (decide ((k:Int)<(n.routines.length:Int)))) (ie (ZM ((k:Int)<(n.routines.length:Int)) (fun Ze=>?_) (fun Ze=>?_)))))))
 ·refine ak (aq (ab 1 (ar (Y1 3 14 (YZ n.routines) 15 (.i k) [0] [b1] ?_))))
  obtain ⟨x1,Z3⟩:=Zs (xs:=n.routines) (j:=k) om
  have hbz:=(hn.body _ (Y7 Z3)).2
  refine Zq (Zo none (k:Int) 5 (WB Z3)) (Yo 3 18 (Zx x1.body) 19 (.i t) (ic [] (RD x1.body t) ?_))
  rintro _ _ ⟨wr1,rfl,rfl⟩
  refine ie (ac wr1 Iff.rfl (fun Zk=>?_) (fun Zk=>?_))
  ·refine ar (ir 1 [(4,.b true)] (ie ?_))
   exact Zc (r1 [] ⟨true,rfl,rfl⟩)
  refine ak (az (Z1 1 11 (.i k) (ZO k (ir 1 [(1,.i t),(2,.p b1 0),(5,.i (k+1:Nat))] (ie ?_)))))
  exact ZQ ⟨k+1,ob,rfl,rfl,rfl⟩ (wk [0] (fw (ZW k fl)))
 refine ax 0 (ar (ir 1 [(4,.b false)] (ie ?_)))
 exact Zc (r1 [] ⟨false,rfl,rfl⟩)
theorem IS (fs:List Int) (q:Nat) (hl:fs.length<=1000000:=by exact ob) (hq:q<=1000000:=by exact ob):Zj Tryz.prog 198 [Z0 fs,.i q] [] (fun r h=>∃(xs:List Int),r=Z0 xs/\h=[]/\xs.length<=fs.length/\∀i∈xs,(q:Int)<=i/\i<(q:Int)+fs.length):=by
 refine ZK 26 Tryz.func198 (ar (ir 1 [(0,Z0 fs),(1,.i q)] (ie (ar (iL (Z8 []) 0 1 ?_)))))
 intro v1
 refine Z1 1 5 (Z6 [] v1) (ie (aq (ar (Z1 1 6 (.i 0) (ie (ab 0 (al (fun m F h=>∃(k:Nat) (ys:List Int) (u:Value),(k<=fs.length)/\(ys.length<=k)/\(∀i∈ys,(q:Int)<=i/\i<(q:Int)+fs.length)/\F=[(0,Z0 fs),(1,.i q),(5,Z6 ys u),(6,.i k)]/\h=[.tail u 1]/\m=fs.length-k) _ _ _ ⟨0,[],v1,ob,ob,(fun i hi=>by cases hi),rfl,rfl,rfl⟩ (wk [0] (fw (fr (Ye fl)))) ?_)))))))
 rintro m F h ⟨k,ys,u,Ym,Zp,Zz,rfl,rfl,rfl⟩
 refine aq (ar (Yo 2 8 (.i k) 9 (Z0 fs) (iw (Yd fs) (Z1 1 11 (.b (decide ((k:Int)<(fs.length:Int)))) (ie (ZM ((k:Int)<(fs.length:Int)) (fun Ze=>?_) (fun Ze=>?_)))))))
 ·refine ak (aq (ab 1 (ar (Yo 2 14 (Z0 fs) 15 (.i k) ?_))))
  obtain ⟨x1,Z3⟩:=Zs (xs:=fs) (j:=k) om
  refine Zq (Zo none (k:Int) 1 (Y3 Z3)) (Z1 2 18 (.b (x1 != 0)) (ie (ac (x1 != 0) Yc (fun Zk=>?_) (fun Zk=>?_))))
  ·refine az (Z5 3 (.n 19 (Z6 ys u) (.n 20 (.i q) (.n 21 (.i k) .r))) (ia (((q+k:Nat):Int)) (((q:Int))+((k:Int))) (iL (Z8 [((q+k:Nat):Int)]) 1 1 ?_)))
   intro v2
   refine Z5 0 (.n 23 (Z0 [((q+k:Nat):Int)]) (.p .r)) (ip 1 (Z8 (ys++[((q+k:Nat):Int)])) (Z8 ys) (Z8 [((q+k:Nat):Int)]) u none 1 (YD _) (YD _) (XY _) (by simp<;>omega) (by simp [XX,Z8]) ?_)
   intro v3
   refine ir 1 [(0,Z0 fs),(1,.i q),(5,Z6 (ys++[((q+k:Nat):Int)]) v3),(6,.i k)] (ie (az (Z1 1 12 (.i k) (ZO k (Z5 1 (.n 6 (.i (k+1:Nat)) (.p (.d (.k (.k (.k .z)))))) (ie ?_))))))
   exact ZQ ⟨k+1,(ys++[((q+k:Nat):Int)]),v3,ob,ob,(Xq Zz om),rfl,rfl,rfl⟩ (wk [0] (fw (fr (ZW k fl))))
  refine ak (az (Z1 1 12 (.i k) (ZO k (ir 1 [(0,Z0 fs),(1,.i q),(5,Z6 ys u),(6,.i (k+1:Nat))] (ie ?_)))))
  exact ZQ ⟨k+1,ys,u,ob,ob,ob,rfl,rfl,rfl⟩ (wk [0] (fw (fr (ZW k fl))))
 refine ax 0 (ar (ir 2 [(4,Z6 ys u)] (ie ?_)))
 exact Zc (r2 [] [Z6 ys u] ⟨ys,rfl,rfl,⟨by omega,Zz⟩⟩ (Zg.forget _ _))
theorem IL (n:Zy) (qz:Nat) (hn:FN n qz:=by exact ob) (hqz:qz<=100000:=by exact ob):Zj Tryz.prog 157 [ZE n] [] (fun r h=>∃(xs:List (List Int)),r=WD xs/\h=[]/\LC n n.routines.length xs):=by
 have hnl:=hn.len
 refine ZK 31 Tryz.func157 (ar (iA (ZU n) ?_))
 intro b1
 refine ir 1 [(1,.p b1 0)] (ie (ar (iL (W7 []) 0 1 ?_)))
 intro v1
 refine Z1 1 3 (UT [] v1) (ie (aq (ar (Z1 1 4 (.i 0) (ie (ab 0 (al (fun m F h=>∃(k:Nat) (ys:List (List Int)) (u:Value),(k<=n.routines.length)/\(ys.length=k)/\(LC n k ys)/\F=[(1,.p b1 0),(3,UT ys u),(4,.i k)]/\h=[.obj b1 (ZU n),.tail u 1]/\m=n.routines.length-k) _ _ _ ⟨0,[],v1,ob,ob,LC.nil,rfl,rfl,rfl⟩ (wk [1,0] (fw (Ye fl))) ?_)))))))
 rintro m F h ⟨k,ys,u,Ym,Zp,Zz,rfl,rfl,rfl⟩
 refine aq (ar (Y1 3 6 (.i k) 8 (YZ n.routines) [0] [b1] (iw (U8 n.routines) (Z1 1 10 (.b (decide ((k:Int)<(n.routines.length:Int)))) (ie (ZM ((k:Int)<(n.routines.length:Int)) (fun Ze=>?_) (fun Ze=>?_)))))))
 ·refine ak (aq (ab 1 (ar (Y1 2 13 (ZE n) 14 (.i k) [0] [b1] (ic [] (RZ n (k:Int) qz) ?_)))))
  rintro _ _ ⟨wr1,rfl,rfl⟩
  refine ie (ac wr1 Iff.rfl (fun Zk=>?_) (fun Zk=>?_))
  ·refine az (Z1 1 16 (UT ys u) (iL (Z8 []) 0 1 ?_))
   intro v2
   refine Z5 0 (.n 17 (Z0 []) (.p .r)) (iL (W7 [[]]) 1 1 ?_)
   intro v3
   refine Z5 0 (.n 18 (WD [[]]) (.p .r)) (ip 3 (W7 (ys++[[]])) (W7 ys) (W7 [[]]) u none 1 (JL _) (JL _) (Dl _) (by simp<;>omega) (by simp [Fu,W7]) ?_)
   intro v4
   refine ir 1 [(1,.p b1 0),(3,UT (ys++[[]]) v4),(4,.i k)] (ie (az (Z1 1 11 (.i k) (ZO k (Z5 1 (.n 4 (.i (k+1:Nat)) (.p (.d (.k (.k .z))))) (ie ?_))))))
   exact ZQ ⟨k+1,(ys++[[]]),v4,ob,ob,(Zz.snoc (by simp) (fun r hr v hv=>by cases hv)),rfl,rfl,rfl⟩ (wk [3,0] (fw (ZW k fl)))
  refine az (Y2 4 (.n 20 (UT ys u) (.n 22 (YZ n.routines) (.n 23 (.i k) .r))) [0] [b1] ?_)
  obtain ⟨x1,Z3⟩:=Zs (xs:=n.routines) (j:=k) om
  have hrp:=(FN.ok hn).params_at Z3
  have hss:=(UL.bd (f:=⟨(x1).params,(x1).result,default⟩) (hn.sigs _ (Y7 Z3))).1
  refine Zq (Zo none (k:Int) 5 (WB Z3)) (Z1 2 26 (Z0 x1.params) (ic [] (IS x1.params 0) ?_))
  rintro _ _ ⟨xs1,rfl,rfl,ZP⟩
  have hhf:=ZP
  refine iL (W7 [xs1]) 1 1 ?_
  intro v5
  refine Z5 0 (.n 28 (WD [xs1]) (.p .r)) (ip 2 (W7 (ys++[xs1])) (W7 ys) (W7 [xs1]) u none 1 (JL _) (JL _) (Dl _) (by simp<;>omega) (by simp [Fu,W7]) ?_)
  intro v6
  refine ir 1 [(1,.p b1 0),(3,UT (ys++[xs1]) v6),(4,.i k)] (ie (az (Z1 1 11 (.i k) (ZO k (Z5 1 (.n 4 (.i (k+1:Nat)) (.p (.d (.k (.k .z))))) (ie ?_))))))
  exact ZQ ⟨k+1,(ys++[xs1]),v6,ob,ob,(Zz.snoc om (fun r hr v hv=>by rw [Z3] at hr;cases hr;have:=hhf.2 v hv;omega)),rfl,rfl,rfl⟩ (wk [2,0] (fw (ZW k fl)))
 refine ax 0 (ar (ir 2 [(2,UT ys u)] (ie ?_)))
 exact Zc (r2 [] [UT ys u] ⟨ys,rfl,rfl,(by rw [show n.routines.length=k by omega];exact Zz)⟩ (Zg.forget _ _))
theorem RI (n:Zy) (b:Z7) (t:Int) (mq:Nat) (hn:Xe n) (hf:fB n.decls n.routines.length mq b) (hz:b.sz<=1000000) (ih:∀(b2:Z7) (t:Int) (m2:Nat),(fB n.decls n.routines.length m2 b2)->(b2.sz<=1000000)->(b2.sz<b.sz)->Zj Tryz.prog 199 [ZE n,Zx b2,.i t] [] (fun r h=>∃(wr:Bool),r=.b wr/\h=[])):Zj Tryz.prog 199 [ZE n,Zx b,.i t] [] (fun r h=>∃(wr:Bool),r=.b wr/\h=[]):=by
 have hbl:=K8 b.steps
 have hbe:=b.sz_eq
 refine ZK 68 Tryz.func199 (ar (iA (ZU n) ?_))
 intro b1
 refine iA (Yn b) ?_
 intro b2
 refine ir 1 [(2,.i t),(3,.p b1 0),(4,.p b2 0)] (ie (aq (ar (Yk 4 14 (.b (b.result==t)) [0] [b2] (ie (ac (b.result==t) Zh (fun Ze=>?_) (fun Ze=>?_)))))))
 ·refine ar (ir 1 [(6,.b true)] (ie ?_))
  exact Zc (r1 [] ⟨true,rfl,rfl⟩)
 refine ak (aq (ar (Z1 1 7 (.i 0) (ie (ab 0 (al (fun m F h=>∃(k:Nat),(k<=b.steps.length)/\F=[(2,.i t),(3,.p b1 0),(4,.p b2 0),(7,.i k)]/\h=[.obj b2 (Yn b),.obj b1 (ZU n)]/\m=b.steps.length-k) _ _ _ ⟨0,ob,rfl,rfl,rfl⟩ (wk [0,0] (fw (fr (Ye fl)))) ?_))))))
 rintro m F h ⟨k,Ym,rfl,rfl,rfl⟩
 refine aq (ar (Y1 3 15 (.i k) 17 (Yj b.steps) [0] [b2] (iw (VE b.steps) (Z1 1 19 (.b (decide ((k:Int)<(b.steps.length:Int)))) (ie (ZM ((k:Int)<(b.steps.length:Int)) (fun Zk=>?_) (fun Zk=>?_)))))))
 ·refine ak (aq (ab 1 (ar (Y1 3 23 (Yj b.steps) 24 (.i k) [0] [b2] ?_))))
  obtain ⟨x1,Z3⟩:=Zs (xs:=b.steps) (j:=k) om
  have hfs:=(Do x1).1 (C6 ((C4 b).1 hf).1 Z3)
  have hxs:=H2 (Y7 Z3)
  have hxe:=(x1).sz_eq
  have hxk:=T8 x1
  refine Zq (Zo none (k:Int) 5 (Wy Z3)) (Z1 1 26 (Y4 x1) (iA [.i 0,.i 0,.i 0,nl,nl] ?_))
  intro b3
  refine ZH 0 b3 (Yg x1) (ie (aq (ar (Z1 1 9 (.i 0) (ie (ab 2 (al (fun m F h=>∃(j:Nat),(j<=x1.args.length)/\F=[(2,.i t),(3,.p b1 0),(4,.p b2 0),(7,.i k),(8,.p b3 0),(9,.i j)]/\h=[.obj b3 (Yg x1),.obj b2 (Yn b),.obj b1 (ZU n)]/\m=x1.args.length-j) _ _ _ ⟨0,ob,rfl,rfl,rfl⟩ (ZL 3 (fq (fr (Ye fl)))) ?_)))))))
  rintro m F h ⟨j,Uj,rfl,rfl,rfl⟩
  refine aq (ar (Y1 3 27 (.i j) 29 (Z0 x1.args) [0] [b3] (iw (Yd x1.args) (Z1 1 31 (.b (decide ((j:Int)<(x1.args.length:Int)))) (ie (ZM ((j:Int)<(x1.args.length:Int)) (fun ZI=>?_) (fun ZI=>?_)))))))
  ·refine ak (aq (ab 3 (ar (Y1 3 35 (Z0 x1.args) 36 (.i j) [0] [b3] ?_))))
   obtain ⟨x2,Zv⟩:=Zs (xs:=x1.args) (j:=j) om
   refine Zq (Zo none (j:Int) 1 (Y3 Zv)) (XP 12 [(2,.i t),(3,.p b1 0),(4,.p b2 0),(7,.i k),(8,.p b3 0),(9,.i j),(45,.b ((x2==t)&&UZ x1.op))] [.obj b3 (Yg x1),.obj b2 (Yn b),.obj b1 (ZU n)] ?_ (fun hj1=>?_))
   ·refine Xp [(2,.i t),(3,.p b1 0),(4,.p b2 0),(7,.i k),(8,.p b3 0),(9,.i j),(52,.b (((x2==t)&&UZ x1.op)&&(!WK n x1.op x1.num j)))] [.obj b3 (Yg x1),.obj b2 (Yn b),.obj b1 (ZU n)] ?_ ?_
    ·refine ir 1 [(2,.i t),(3,.p b1 0),(4,.p b2 0),(7,.i k),(8,.p b3 0),(9,.i j),(46,.b ((x2==t)&&UZ x1.op))] (ib (b:=((x2==t)&&UZ x1.op)) 46 (fun Za=>?_) (fun Za=>?_))
     ·have ZP:(x2=t)/\(UZ x1.op=true):=((YE Zh Iff.rfl)).1 Za
      refine Y2 3 (.n 47 (ZE n) (.n 48 (Y4 x1) (.n 49 (.i j) (.w (.k (.k (.k .z))))))) [2,0] [b1,b3] (ZA [] (CK n x1 j (hnum:=hfs.call)) (Z1 2 52 (.b (!WK n x1.op x1.num j)) (ie ?_)))
      exact ZL 3 (fq (fw (Zr (!WK n x1.op x1.num j) Za fl)))
     have Y0:¬((x2=t)/\(UZ x1.op=true)):=ZG (YE Zh Iff.rfl) Za
     refine Z5 6 (.n 52 (.b false) (.d (.w (.k (.k .z))))) (ie ?_)
     exact ZL 3 (fq (fw (Zr false Za fl)))
    refine ac (((x2==t)&&UZ x1.op)&&(!WK n x1.op x1.num j)) (p:=((x2=t)/\(UZ x1.op=true))/\(¬(WK n x1.op x1.num j=true))) (YE (YE Zh Iff.rfl) (Yt Iff.rfl)) (fun Yi=>?_) (fun Yi=>?_)
    ·refine ar (ir 1 [(6,.b true)] (ie ?_))
     exact Zc (r1 [] ⟨true,rfl,rfl⟩)
    refine ak (az (ir 1 [(2,.i t),(3,.p b1 0),(4,.p b2 0),(7,.i k),(8,.p b3 0),(32,.i j)] (ZO j (Z1 1 9 (.i (j+1:Nat)) (ie ?_)))))
    exact ZQ ⟨j+1,ob,rfl,rfl,rfl⟩ (ZL 3 (fq (fr (ZW j fl))))
   refine ir 4 [(2,.i t),(3,.p b1 0),(4,.p b2 0),(7,.i k),(8,.p b3 0),(9,.i j),(41,.b (x2==t))] (ib (b:=(x2==t)) 41 (fun Zw=>?_) (fun Zw=>?_))
   ·have YB:x2=t:=(Zh).1 Zw
    refine Y2 2 (.n 43 (.i x1.op) (.w (.k (.k (.k .z))))) [0] [b3] (ZA [] (Nf x1.op) (Z1 1 45 (.b (UZ x1.op)) ?_))
    exact YG (ZL 3 (fq (fw (Zr (UZ x1.op) Zw fl)))) hj1
   have YN:¬(x2=t):=ZG Zh Zw
   refine Z5 4 (.n 45 (.b false) (.d (.w (.k (.k .z))))) ?_
   exact YG (ZL 3 (fq (fw (Zr false Zw fl)))) hj1
  refine ax 2 (ar (Z1 1 10 (.i 0) (ie (ab 4 (al (fun m F h=>∃(j:Nat),(j<=x1.kids.length)/\F=[(2,.i t),(3,.p b1 0),(4,.p b2 0),(7,.i k),(8,.p b3 0),(10,.i j)]/\h=[.obj b3 (Yg x1),.obj b2 (Yn b),.obj b1 (ZU n)]/\m=x1.kids.length-j) _ _ _ ⟨0,ob,rfl,rfl,rfl⟩ (ZL 3 (fq (fr (Ye fl)))) ?_)))))
  rintro m F h ⟨j,HV,rfl,rfl,rfl⟩
  refine aq (ar (Y1 3 53 (.i j) 55 (Yz x1.kids) [0] [b3] (iw (VX x1.kids) (Z1 1 57 (.b (decide ((j:Int)<(x1.kids.length:Int)))) (ie (ZM ((j:Int)<(x1.kids.length:Int)) (fun Xk=>?_) (fun Xk=>?_)))))))
  ·refine ak (aq (ab 5 (aD 8 (Y6 4 8 [0,1,2,3] (.n 60 (ZE n) (.n 62 (Yz x1.kids) (.n 63 (.i j) .r))) [2,0] [b1,b3] ?_))))
   obtain ⟨x3,YT⟩:=Zs (xs:=x1.kids) (j:=j) om
   have hkx:=EZ (Y7 YT)
   have hfk:=C5 hfs.kids YT
   refine dx 4 (Zo none (j:Int) 2 (UA YT)) (ZZ 1 3 [5,6] (.n 65 (Zx x3) (.n 66 (.i t) .r)) (Z9 7 (dc 7 [] [] [] (ih x3 t (Ut n.decls x1.op x1.num (mq+YO (b.steps.take k)) (0+j)) hfk ob ob) ?_)))
   rintro _ _ ⟨wr1,rfl,rfl⟩
   refine de (ac wr1 Iff.rfl (fun Xl=>?_) (fun Xl=>?_))
   ·refine ar (ir 1 [(6,.b true)] (ie ?_))
    exact Zc (r1 [] ⟨true,rfl,rfl⟩)
   refine ak (az (Z1 1 58 (.i j) (ZO j (ir 1 [(2,.i t),(3,.p b1 0),(4,.p b2 0),(7,.i k),(8,.p b3 0),(10,.i (j+1:Nat))] (ie ?_)))))
   exact ZQ ⟨j+1,ob,rfl,rfl,rfl⟩ (ZL 3 (fq (fr (ZW j fl))))
  refine ax 4 (az (Z1 1 20 (.i k) (ZO k (ir 1 [(2,.i t),(3,.p b1 0),(4,.p b2 0),(7,.i (k+1:Nat))] (ie ?_)))))
  exact ZQ ⟨k+1,ob,rfl,rfl,rfl⟩ (wk [1,1] (fw (fr (ZW k fl))))
 refine ax 0 (ar (ir 1 [(6,.b false)] (ie ?_)))
 exact Zc (r1 [] ⟨false,rfl,rfl⟩)
theorem RH (n:Zy) (b:Z7) (t:Int) (mq:Nat) (hn:Xe n:=by exact ob) (hf:fB n.decls n.routines.length mq b:=by exact ob) (hz:b.sz<=1000000:=by exact ob):Zj Tryz.prog 199 [ZE n,Zx b,.i t] [] (fun r h=>∃(wr:Bool),r=.b wr/\h=[]):=by
 have key:∀k:Nat,∀(b2:Z7) (t:Int) (m2:Nat),(fB n.decls n.routines.length m2 b2)->(b2.sz<=1000000)->(b2.sz<k)->Zj Tryz.prog 199 [ZE n,Zx b2,.i t] [] (fun r h=>∃(wr:Bool),r=.b wr/\h=[]):=by
  intro k
  induction k with
  | zero=>intro b2 t m2 h1 h2 h3;omega
  | succ k ih=>intro b2 t m2 h1 h2 h3;exact RI n b2 t m2 hn h1 h2 fun b3 t3 m3 q1 q2 q3=>ih b3 t3 m3 q1 q2 om
 exact key (b.sz+1) b t mq hf hz om
theorem S0 (n:Zy) (rt:Yf) (i:Nat) (qz:Nat) (hn:FN n qz:=by exact ob) (hqz:qz<=100000:=by exact ob) (hr:n.routines[i]? = some rt:=by exact ob):Zj Tryz.prog 158 [ZE n,.i i] [] (fun r h=>∃(xs:List Int),r=Z0 xs/\h=[]/\xs.length<=rt.lent.length/\∀v∈xs,v∈rt.lent):=by
 have hok:=FN.ok hn
 have hrl:=hn.lent rt (Y7 hr)
 have hrb:=hn.body rt (Y7 hr)
 obtain ⟨hil,_⟩:=XM.1 hr
 have hnl:=hn.len
 refine ZK 50 Tryz.func158 (ar (iA (ZU n) ?_))
 intro b1
 refine ir 1 [(1,.i i),(2,.p b1 0)] (ie (ar (iL (Z8 []) 0 1 ?_)))
 intro v1
 refine Z1 1 5 (Z6 [] v1) (ie (aq (ar (Z1 1 6 (.i 0) (ie (ab 0 (al (fun m F h=>∃(k:Nat) (ys:List Int) (u:Value),(k<=rt.lent.length)/\(ys.length<=k)/\(∀v∈ys,v∈rt.lent)/\F=[(1,.i i),(2,.p b1 0),(5,Z6 ys u),(6,.i k)]/\h=[.obj b1 (ZU n),.tail u 1]/\m=rt.lent.length-k) _ _ _ ⟨0,[],v1,ob,ob,(fun v hv=>by cases hv),rfl,rfl,rfl⟩ (wk [1,0] (fw (fr (Ye fl)))) ?_)))))))
 rintro m F h ⟨k,ys,u,Ym,Zp,Zz,rfl,rfl,rfl⟩
 refine aq (ar (Y2 4 (.n 8 (.i k) (.n 10 (YZ n.routines) (.n 11 (.i i) .r))) [0] [b1] (Zq (Zo none (i:Int) 5 (WB hr)) (Z1 2 14 (Z0 rt.lent) (iw (Yd rt.lent) (Z1 1 16 (.b (decide ((k:Int)<(rt.lent.length:Int)))) (ie (ZM ((k:Int)<(rt.lent.length:Int)) (fun Ze=>?_) (fun Ze=>?_)))))))))
 ·refine ak (aq (ab 1 (aD 18 (Y6 14 18 [0,1,2,3] (.n 19 (ZE n) (.n 21 (YZ n.routines) (.n 22 (.i i) .r))) [0,0] [b1,b1] (dx 4 (Zo none (i:Int) 5 (WB hr)) (Y6 8 13 [5,6,7,8,9] (.n 25 (Zx rt.body) (.n 27 (YZ n.routines) (.n 28 (.i i) .r))) [0] [b1] (dx 10 (Zo none (i:Int) 5 (WB hr)) (ZZ 4 7 [11,12,13] (.n 31 (Z0 rt.lent) (.n 32 (.i k) .r)) ?_))))))))
  obtain ⟨x1,Z3⟩:=Zs (xs:=rt.lent) (j:=k) om
  refine dx 14 (Zo none (k:Int) 1 (Y3 Z3)) (ZY 2 3 [15] 34 (.i x1) (Z9 16 (dc 16 [] [] [] (RH n rt.body x1 rt.params.length (hn:=hok) (hf:=hrb.1)) ?_)))
  rintro _ _ ⟨wr1,rfl,rfl⟩
  refine ZY 0 1 [17] 36 (.b (!wr1)) (de (ac (!wr1) (p:=¬(wr1=true)) (Yt Iff.rfl) (fun Zk=>?_) (fun Zk=>?_)))
  ·refine az (Y2 4 (.n 37 (Z6 ys u) (.n 39 (YZ n.routines) (.n 40 (.i i) .r))) [0] [b1] (Zq (Zo none (i:Int) 5 (WB hr)) (Yo 3 43 (Z0 rt.lent) 44 (.i k) (Zq (Zo none (k:Int) 1 (Y3 Z3)) (Z1 1 46 (.i x1) (iL (Z8 [x1]) 1 1 ?_))))))
   intro v2
   refine Z5 0 (.n 47 (Z0 [x1]) (.p .r)) (ip 2 (Z8 (ys++[x1])) (Z8 ys) (Z8 [x1]) u none 1 (YD _) (YD _) (XY _) (by simp<;>omega) (by simp [XX,Z8]) ?_)
   intro v3
   refine ir 1 [(1,.i i),(2,.p b1 0),(5,Z6 (ys++[x1]) v3),(6,.i k)] (ie (az (Z1 1 17 (.i k) (ZO k (Z5 1 (.n 6 (.i (k+1:Nat)) (.p (.d (.k (.k (.k .z)))))) (ie ?_))))))
   exact ZQ ⟨k+1,(ys++[x1]),v3,ob,ob,(Xq Zz (Y7 Z3)),rfl,rfl,rfl⟩ (wk [2,0] (fw (fr (ZW k fl))))
  refine ak (az (Z1 1 17 (.i k) (ZO k (ir 1 [(1,.i i),(2,.p b1 0),(5,Z6 ys u),(6,.i (k+1:Nat))] (ie ?_)))))
  exact ZQ ⟨k+1,ys,u,ob,ob,ob,rfl,rfl,rfl⟩ (wk [0,0] (fw (fr (ZW k fl))))
 refine ax 0 (ar (ir 2 [(4,Z6 ys u)] (ie ?_)))
 exact Zc (r2 [] [Z6 ys u] ⟨ys,rfl,rfl,⟨by omega,Zz⟩⟩ (Zg.forget _ _))
theorem Z51 (s:Z4) (ih:∀(b2:Z7),(b2.sz<s.sz)->(b2.sz<=1000000000)->Zj Tryz.prog 86 [Zx b2] [] (fun r h=>r=Zx b2/\h=[])) (hz:s.sz<=1000000000):Zj Tryz.prog 127 [Y4 s] [] (fun r h=>r=Y4 s/\h=[]):=by
 have hkz:=T8 s
 have haz:=Q7 s
 refine ZK 33 Tryz.func127 (ar (iA (Yg s) ?_))
 intro b1
 refine iA [.i 0,.i 0,.i 0,nl,nl] ?_
 intro b2
 refine ie (ar (iL (YH []) 0 2 ?_))
 intro v1
 refine ir 1 [(1,.p b1 0),(2,.p b2 0),(3,X4 [] v1)] (ie (aq (ar (Z1 1 4 (.i 0) (ie (ab 0 (al (fun m F h=>∃(k:Nat) (v:Value),(k<=s.kids.length)/\F=[(1,.p b1 0),(2,.p b2 0),(3,X4 (s.kids.take k) v),(4,.i k)]/\h=[.obj b2 [.i 0,.i 0,.i 0,nl,nl],.obj b1 (Yg s),.tail v 2]/\m=s.kids.length-k) _ _ _ ⟨0,v1,ob,rfl,rfl,rfl⟩ (wk [1,1,0] (fw (fc (x:=X4 [] v1) (Zg.slh _ (Yv YH rfl)) (Ye fl)))) ?_)))))))
 rintro m F h ⟨k,v,Ym,rfl,rfl,rfl⟩
 refine aq (ar (Y1 3 6 (.i k) 8 (Yz s.kids) [1] [b1] (iw (VX s.kids) (Z1 1 10 (.b (decide ((k:Int)<(s.kids.length:Int)))) (ie (ZM ((k:Int)<(s.kids.length:Int)) (fun Ze=>?_) (fun Ze=>?_)))))))
 ·refine ak (aq (ab 1 (az (Y2 4 (.n 13 (X4 (s.kids.take k) v) (.n 15 (Yz s.kids) (.n 16 (.i k) .r))) [1] [b1] ?_))))
  obtain ⟨x1,Z3⟩:=Zs (xs:=s.kids) (j:=k) om
  have hks:=T7 Z3
  refine Zq (Zo none (k:Int) 2 (UA Z3)) (Z1 1 18 (Zx x1) (ZA [] (ih x1 ob ob) (iL [Zx x1] 1 2 ?_)))
  intro v2
  refine Z5 0 (.n 20 (.sl [Zx x1] none) (.p .r)) (ip 3 (YH (s.kids.take (k+1))) (YH (s.kids.take k)) [Zx x1] v none 2 (T0 _) (TA rfl) rfl (by simp<;>omega) (by rw [WO Z3];simp [Um]) ?_)
  intro v3
  refine ir 1 [(1,.p b1 0),(2,.p b2 0),(3,X4 (s.kids.take (k+1)) v3),(4,.i k)] (ie (az (Z1 1 11 (.i k) (ZO k (Z5 1 (.n 4 (.i (k+1:Nat)) (.p (.d (.k (.k (.k .z)))))) (ie ?_))))))
  exact ZQ ⟨k+1,v3,ob,rfl,rfl,rfl⟩ (wk [2,2,0] (fw (fr (ZW k fl))))
 refine ax 0 (aD 12 (W2 3 12 [0,1,2,3,4,5,6,7,9] [(2,.p b2 0),(23,.i s.op),(25,.i s.num),(27,.i s.into),(29,Z0 s.args),(31,X4 (s.kids.take k) v)] [1,1,1,1] [b1,b1,b1,b1] (Z9 8 (dc 8 [] [1,1,1] [b1,b1,b1] (VJ s.args) ?_))))
 rintro _ _ ⟨v4,rfl,rfl⟩
 refine ZY 1 2 [10] 32 (.agg [.i s.op,.i s.num,.i s.into,Z6 s.args v4,X4 (s.kids.take k) v]) (Z9 11 (YK 11 1 [] [] b2 [.i s.op,.i s.num,.i s.into,Z6 s.args v4,X4 (s.kids.take k) v] (de ?_)))
 exact Zc (r3 [] [.agg [.i s.op,.i s.num,.i s.into,Z6 s.args v4,X4 (s.kids.take k) v]] [0] [(b2,b2)] ⟨rfl,rfl⟩ (Zg.agg (.cons (lr _) (.cons (lr _) (.cons (lr _) (.cons (Zg.forget _ _) (.cons (Zg.sl _ (Yv YH (by rw [Ve om]))) .nil)))))))
theorem Z50 (b:Z7) (ih:∀(s2:Z4),(s2.sz<b.sz)->(s2.sz<=1000000000)->Zj Tryz.prog 127 [Y4 s2] [] (fun r h=>r=Y4 s2/\h=[])) (hz:b.sz<=1000000000):Zj Tryz.prog 86 [Zx b] [] (fun r h=>r=Zx b/\h=[]):=by
 have hbz:=Vx b
 refine ZK 28 Tryz.func86 (ar (iA (Yn b) ?_))
 intro b1
 refine iA [nl,.i 0] ?_
 intro b2
 refine ie (ar (iL (Zt []) 0 5 ?_))
 intro v1
 refine iR 3 [(1,.p b1 0),(2,.p b2 0),(8,.agg [ZX [] v1,.i b.result])] [2] [b1] (iA [nl,.i 0] ?_)
 intro b3
 refine ZH 0 b3 [ZX [] v1,.i b.result] (ie (aq (ar (Z1 1 4 (.i 0) (ie (ab 0 (al (fun m F h=>∃(k:Nat) (v:Value),(k<=b.steps.length)/\F=[(1,.p b1 0),(2,.p b2 0),(3,.p b3 0),(4,.i k)]/\h=[.obj b3 [ZX (b.steps.take k) v,.i b.result],.obj b2 [nl,.i 0],.obj b1 (Yn b),.tail v 5]/\m=b.steps.length-k) _ _ _ ⟨0,v1,ob,rfl,rfl,rfl⟩ (wk [0,1,1,0] (fw (fr (Ye fl)))) ?_)))))))
 rintro m F h ⟨k,v,Ym,rfl,rfl,rfl⟩
 refine aq (ar (Y1 3 9 (.i k) 11 (Yj b.steps) [2] [b1] (iw (VE b.steps) (Z1 1 13 (.b (decide ((k:Int)<(b.steps.length:Int)))) (ie (ZM ((k:Int)<(b.steps.length:Int)) (fun Ze=>?_) (fun Ze=>?_)))))))
 ·refine ak (aq (ab 1 (aE 12 (Y6 7 12 [0,1,2,3,4] (.n 17 (ZX (b.steps.take k) v) (.n 19 (Yj b.steps) (.n 20 (.i k) .r))) [0,2] [b3,b1] ?_))))
  obtain ⟨x1,Z3⟩:=Zs (xs:=b.steps) (j:=k) om
  have hss:=KJ Z3
  refine dx 5 (Zo none (k:Int) 5 (Wy Z3)) (ZY 5 6 [6] 22 (Y4 x1) (Z9 7 (Ys 7 [] [0] [b3] (ih x1 ob ob) (Z9 8 (dL 8 [0] [b3] [Y4 x1] 1 5 ?_)))))
  intro v2
  refine ZZ 3 3 [] (.n 24 (.sl [Y4 x1] none) (.p .r)) (Z9 9 (dp 9 4 [] [] (Zt (b.steps.take (k+1))) (Zt (b.steps.take k)) [Y4 x1] v none 5 (X8 _) (TA rfl) rfl (by simp<;>omega) (by rw [WO Z3];simp [Vb]) ?_))
  intro v3
  refine ZY 1 2 [10] 26 (.p b3 0) (Z9 11 (YK 11 2 [] [] b3 [ZX (b.steps.take (k+1)) v3,.i b.result] (de (az (Z1 1 14 (.i k) (ZO k (ir 1 [(1,.p b1 0),(2,.p b2 0),(3,.p b3 0),(4,.i (k+1:Nat))] (ie ?_))))))))
  exact ZQ ⟨k+1,v3,ob,rfl,rfl,rfl⟩ (wk [0,2,2,0] (fw (fr (ZW k fl))))
 refine ax 0 (ar (Yk 1 27 (.agg [ZX (b.steps.take k) v,.i b.result]) [0] [b3] (ZH 1 b2 [ZX (b.steps.take k) v,.i b.result] (ie ?_))))
 exact Zc (r3 [] [.agg [ZX (b.steps.take k) v,.i b.result]] [0] [(b2,b2)] ⟨rfl,rfl⟩ (Zg.agg (.cons (Zg.sl _ (Yv Zt (by rw [Ve om]))) (.cons (lr _) .nil))))
theorem Nh (k:Nat):(∀(s:Z4),(s.sz<=k)->(s.sz<=1000000000)->Zj Tryz.prog 127 [Y4 s] [] (fun r h=>r=Y4 s/\h=[]))/\(∀(b:Z7),(b.sz<=k)->(b.sz<=1000000000)->Zj Tryz.prog 86 [Zx b] [] (fun r h=>r=Zx b/\h=[])):=by
 induction k with
 | zero=>exact ⟨fun s h=>by have:=s.sz_pos;omega,fun s h=>by have:=s.sz_pos;omega⟩
 | succ k ih=>exact ⟨fun s h hz=>Z51 s (fun b2 h2 h3=>ih.2 b2 om h3) hz,fun b h hz=>Z50 b (fun s2 h2 h3=>ih.1 s2 om h3) hz⟩
theorem Ng (s:Z4) (hz:s.sz<=1000000000:=by exact ob):Zj Tryz.prog 127 [Y4 s] [] (fun r h=>r=Y4 s/\h=[]):=(Nh s.sz).1 s (X7 _) hz
theorem Eo (b:Z7) (hz:b.sz<=1000000000:=by exact ob):Zj Tryz.prog 86 [Zx b] [] (fun r h=>r=Zx b/\h=[]):=(Nh b.sz).2 b (X7 _) hz
theorem DA (n:Zy) (ls:List (List Int)) (qz:Nat) (hn:FO n qz Wq:=by exact ob) (hqz:qz<=100000:=by exact ob) (hls:LC n n.routines.length ls:=by exact ob):Zj Tryz.prog 156 [ZE n,WD ls] [] (fun r h=>∃(n2:Zy),r=ZE n2/\h=[]/\FO n2 qz Wq/\n2.routines.length=n.routines.length):=by
 have hnl:=hn.fn.len
 have Xu:=hn.fn.decls.ok
 have hll:=hls.len
 refine ZK 45 Tryz.func156 (ar (iA (ZU n) ?_))
 intro b1
 refine iA [nl,nl] ?_
 intro b2
 refine ie (ar (iR 2 [(1,WD ls),(2,.p b1 0),(4,.p b2 0),(9,Zd n.decls)] [1] [b1] (ZA [] (AQ n.decls) (iL (YM []) 0 5 ?_))))
 intro v1
 refine Z1 1 12 (.agg [Zd n.decls,Xh [] v1]) (iA [nl,nl] ?_)
 intro b3
 refine ZH 0 b3 [Zd n.decls,Xh [] v1] (ie (aq (ar (Z1 1 6 (.i 0) (ie (ab 0 (al (fun m F h=>∃(k:Nat) (rs:List Yf) (u:Value),(k<=n.routines.length)/\(rs.length=k)/\(∀r∈rs,RF n.decls n.routines.length qz Wq r)/\F=[(1,WD ls),(2,.p b1 0),(4,.p b2 0),(5,.p b3 0),(6,.i k)]/\h=[.obj b3 [Zd n.decls,Xh rs u],.obj b2 [nl,nl],.obj b1 (ZU n),.tail u 5]/\m=n.routines.length-k) _ _ _ ⟨0,[],v1,ob,ob,(fun r hr=>by cases hr),rfl,rfl,rfl⟩ (wk [0,1,1,0] (fq (Ye fl))) ?_)))))))
 rintro m F h ⟨k,rs,u,Ym,Zp,Zz,rfl,rfl,rfl⟩
 refine aq (ar (Y1 3 13 (.i k) 15 (YZ n.routines) [2] [b1] (iw (U8 n.routines) (Z1 1 17 (.b (decide ((k:Int)<(n.routines.length:Int)))) (ie (ZM ((k:Int)<(n.routines.length:Int)) (fun Ze=>?_) (fun Ze=>?_)))))))
 ·refine ak (aq (ab 1 (ar (Y1 3 21 (YZ n.routines) 22 (.i k) [2] [b1] ?_))))
  obtain ⟨x1,Z3⟩:=Zs (xs:=n.routines) (j:=k) om
  have hrf:=hn.rf (Y7 Z3)
  have hrp:=hn.fn.ok.params_at Z3
  have hrz:=hrf.body.2
  refine Zq (Zo none (k:Int) 5 (WB Z3)) (Z1 1 24 (WZ x1) (iA [nl,nl,.i 0,nl,.i 0] ?_))
  intro b4
  refine ZH 0 b4 (VO x1) (ie (aE 20 (Y6 14 20 [0,1,2,3,5,6] (.n 26 (Xh rs u) (.n 28 (Z0 x1.params) (.n 30 (WD ls) (.n 31 (.i k) .r)))) [1,0] [b3,b4] ?_)))
  obtain ⟨x2,Zv⟩:=Zs (xs:=ls) (j:=k) om
  have hlc:=hls.at Zv Z3
  refine dx 7 (Zo none (k:Int) 1 (Dj Zv)) (Y6 8 13 [8,10,11,12,13] (.n 33 (Z0 x2) (.n 36 (.i x1.result) (.n 38 (Zx x1.body) .r))) [0,0] [b4,b4] (Z9 4 (dc 4 [] [0,0,1] [b4,b4,b3] (VJ x1.params) ?_)))
  rintro _ _ ⟨v2,rfl,rfl⟩
  refine Z9 9 (dc 9 [] [0,0,1] [b4,b4,b3] (VJ x2) ?_)
  rintro _ _ ⟨v3,rfl,rfl⟩
  refine Z9 14 (Ys 14 [] [0,1] [b4,b3] (Eo x1.body) (ZY 4 5 [15] 40 (.agg [Z0 x1.params,Z0 x2,.i x1.result,Yj x1.body.steps,.i x1.body.result]) (Z9 16 (dL 16 [1] [b3] (YM [Yf.mk x1.params x2 x1.result (Z7.mk x1.body.steps x1.body.result)]) 1 5 ?_))))
  intro v4
  refine ZZ 3 3 [] (.n 41 (YZ [Yf.mk x1.params x2 x1.result (Z7.mk x1.body.steps x1.body.result)]) (.p .r)) (Z9 17 (dp 17 7 [] [] (YM (rs++[Yf.mk x1.params x2 x1.result (Z7.mk x1.body.steps x1.body.result)])) (YM rs) (YM [Yf.mk x1.params x2 x1.result (Z7.mk x1.body.steps x1.body.result)]) u none 5 (U7 _) (U7 _) (JM _) (by simp<;>omega) (by simp [Aw,YM]) ?_))
  intro v5
  refine ZY 1 2 [18] 43 (.p b3 1) (Z9 19 (YK 19 5 [] [] b3 [Zd n.decls,Xh (rs++[Yf.mk x1.params x2 x1.result (Z7.mk x1.body.steps x1.body.result)]) v5] (de (az (Z1 1 18 (.i k) (ZO k (ir 1 [(1,WD ls),(2,.p b1 0),(4,.p b2 0),(5,.p b3 0),(6,.i (k+1:Nat))] (ie ?_))))))))
  exact ZQ ⟨k+1,(rs++[Yf.mk x1.params x2 x1.result (Z7.mk x1.body.steps x1.body.result)]),v5,ob,ob,(Xq Zz (by rw [Z7.eta];exact hrf.lend hlc.1 hlc.2)),rfl,rfl,rfl⟩ (wk [0,5,5,0] (fq (ZW k fl)))
 refine ax 0 (ar (Yk 1 44 (.agg [Zd n.decls,Xh rs u]) [0] [b3] (ZH 1 b2 [Zd n.decls,Xh rs u] (ie ?_))))
 exact Zc (r3 [] [.agg [Zd n.decls,Xh rs u]] [0] [(b2,b2)] ⟨(Zy.mk n.decls rs),rfl,rfl,(FO.fin hn.fn om Zz)⟩ (Zg.agg (.cons (lr _) (.cons (Zg.forget _ _) .nil))))
theorem S8 (n:Zy) (qz:Nat) (hn:FO n qz Wq:=by exact ob) (hqz:qz<=100000:=by exact ob):Zj Tryz.prog 121 [ZE n] [] (fun r h=>∃(n2:Zy),r=ZE n2/\h=[]/\FO n2 qz Wq):=by
 refine ZK 33 Tryz.func121 (ar (iA (ZU n) ?_))
 intro b1
 refine iA [nl,nl] ?_
 intro b2
 refine ie (aD 6 (W2 4 6 [0,1] [(2,.p b2 0),(7,ZE n),(8,ZE n)] [1,1] [b1,b1] (dK (fun F h=>∃(n21:Zy) (b3:Nat) (xs1:List (List Int)),(LC n n.routines.length xs1)/\(FO n21 qz Wq/\n21.routines.length=n.routines.length)/\F=[(2,.p b2 0),(3,.p b3 0)]/\h=[.obj b3 (ZU n21),.obj b2 [nl,nl],.obj b1 (ZU n)]) ?_ ?_)))
 ·refine Vh 2 4 ?_ ?_
  ·refine dc 2 [] [1] [b1] (IL n qz (hn:=hn.fn)) ?_
   rintro _ _ ⟨xs1,rfl,rfl,ZP⟩
   refine Vh 3 4 ?_ ?_
   ·refine dc 3 [] [] [] (DA n xs1 qz (hls:=(by first|assumption|(rw [<-hjl];exact We)))) ?_
    rintro _ _ ⟨n21,rfl,rfl,Y0⟩
    have hwl:=Y0
    refine Z9 4 (dA 4 [] [] [nl,nl] ?_)
    intro b3
    refine Z9 5 (YK 5 0 [] [] b3 (ZU n21) (de ?_))
    exact ZV ⟨_,b3,_,(by assumption),(by assumption),rfl,rfl⟩ (ZL 3 fl)
   refine dA 4 [1] [b1] [nl,nl] ?_
   intro b4
   refine Z9 3 (dc 3 [] [] [] (DA n xs1 qz (hls:=(by first|assumption|(rw [<-hjl];exact We)))) ?_)
   rintro _ _ ⟨n22,rfl,rfl,YB⟩
   have hwl:=YB
   refine Z9 5 (YK 5 0 [] [] b4 (ZU n22) (de ?_))
   exact ZV ⟨_,b4,_,(by assumption),(by assumption),rfl,rfl⟩ (ZL 3 fl)
  refine dA 4 [1,1] [b1,b1] [nl,nl] ?_
  intro b5
  refine Z9 2 (dc 2 [] [2] [b1] (IL n qz (hn:=hn.fn)) ?_)
  rintro _ _ ⟨xs2,rfl,rfl,YN⟩
  refine Z9 3 (dc 3 [] [] [] (DA n xs2 qz (hls:=(by first|assumption|(rw [<-hjl];exact We)))) ?_)
  rintro _ _ ⟨n23,rfl,rfl,YX⟩
  have hwl:=YX
  refine Z9 5 (YK 5 0 [] [] b5 (ZU n23) (de ?_))
  exact ZV ⟨_,b5,_,(by assumption),(by assumption),rfl,rfl⟩ (ZL 3 fl)
 rintro F h ⟨n21,b3,xs1,ZP,Y0,rfl,rfl⟩
 have hwl:=Y0
 refine aq (ar (ir 1 [(2,.p b2 0),(3,.p b3 0),(4,.i 0)] (ie (ab 0 (al (fun m F h=>∃(k:Nat) (nn:Zy),(k<=13)/\(FO nn qz Wq)/\F=[(2,.p b2 0),(3,.p b3 0),(4,.i k)]/\h=[.obj b3 (ZU nn),.obj b2 [nl,nl]]/\m=13-k) _ _ _ ⟨0,n21,ob,hwl.1,rfl,rfl,rfl⟩ (wk [0,0] (fw (Ye fl))) ?_)))))
 rintro m F h ⟨k,nn,Ym,Zp,rfl,rfl,rfl⟩
 refine aq (ar (Z1 2 12 (.b (decide ((k:Int)<=12))) (ie (ZM ((k:Int)<=12) (fun Ze=>?_) (fun Ze=>?_)))))
 ·refine ak (aq (ab 1 (ar (iL (W7 []) 0 1 ?_))))
  intro v1
  refine Z1 1 5 (UT [] v1) (ie (aq (ar (Z1 1 6 (.i 0) (ie (ab 2 (al (fun m F h=>∃(j:Nat) (ls:List (List Int)) (u:Value),(j<=nn.routines.length)/\(LC nn j ls)/\(ls.length=j)/\F=[(2,.p b2 0),(3,.p b3 0),(4,.i k),(5,UT ls u),(6,.i j)]/\h=[.obj b3 (ZU nn),.obj b2 [nl,nl],.tail u 1]/\m=nn.routines.length-j) _ _ _ ⟨0,[],v1,ob,LC.nil,ob,rfl,rfl,rfl⟩ (wk [1,1,0] (fq (Ye fl))) ?_)))))))
  rintro m F h ⟨j,ls,u,Uj,We,XJ,rfl,rfl,rfl⟩
  refine aq (ar (Y1 3 16 (.i j) 18 (YZ nn.routines) [0] [b3] (iw (U8 nn.routines) (Z1 1 20 (.b (decide ((j:Int)<(nn.routines.length:Int)))) (ie (ZM ((j:Int)<(nn.routines.length:Int)) (fun Zk=>?_) (fun Zk=>?_)))))))
  ·obtain ⟨rt,hrt⟩:=Zs (xs:=nn.routines) (j:=j) om
   have hrl:=(Zp.rf (Y7 hrt)).lent
   have hnl4:=Zp.fn.len
   refine ak (aq (ab 3 (az (Y2 3 (.n 23 (UT ls u) (.n 24 (ZE nn) (.n 25 (.i j) .r))) [0] [b3] (ic [] (S0 nn rt j qz (hn:=Zp.fn) (hr:=hrt)) ?_)))))
   rintro _ _ ⟨xs3,rfl,rfl,Xy⟩
   have hkl:=Xy
   refine iL (W7 [xs3]) 1 1 ?_
   intro v2
   refine Z5 0 (.n 27 (WD [xs3]) (.p .r)) (ip 3 (W7 (ls++[xs3])) (W7 ls) (W7 [xs3]) u none 1 (JL _) (JL _) (Dl _) (by simp<;>omega) (by simp [Fu,W7]) ?_)
   intro v3
   refine Z5 1 (.n 5 (UT (ls++[xs3]) v3) (.p (.d (.p (.d (.d (.d (.d (.p (.d (.d (.k (.k (.k (.d .r))))))))))))))) (ie (az (Z1 1 21 (.i j) (ZO j (Z5 1 (.n 6 (.i (j+1:Nat)) (.p (.d (.w .z)))) (ie ?_))))))
   exact ZQ ⟨j+1,(ls++[xs3]),v3,ob,(We.snoc om (fun r hr v hv=>by rw [hrt] at hr;cases hr;exact hrl.2 v (hkl.2 v hv))),ob,rfl,rfl,rfl⟩ (wk [2,2,0] (fq (ZW j fl)))
  have hjl:j=nn.routines.length:=by omega
  refine ax 2 (az (Y1 2 29 (ZE nn) 30 (WD ls) [0] [b3] (ic [] (DA nn ls qz (hls:=(by first|assumption|(rw [<-hjl];exact We)))) ?_)))
  rintro _ _ ⟨n24,rfl,rfl,Wh⟩
  have hwl:=Wh
  refine ZH 0 b3 (ZU n24) (ie (az (Z1 1 13 (.i k) (ZO k (ir 1 [(2,.p b2 0),(3,.p b3 0),(4,.i (k+1:Nat))] (ie ?_))))))
  exact ZQ ⟨k+1,n24,ob,hwl.1,rfl,rfl,rfl⟩ (wk [0,0] (fw (ZW k fl)))
 refine ax 0 (ar (Yk 1 32 (ZE nn) [0] [b3] (ZH 1 b2 (ZU nn) (ie ?_))))
 exact Zc (r3 [] [ZE nn] [0] [(b2,b2)] ⟨nn,rfl,rfl,(by first|exact Zp|exact hwl.1)⟩ (lr _))
theorem Ca (xs:List Int) (y:Int) (hl:xs.length<=1000000000:=by exact ob):Zj Tryz.prog 118 [Z0 xs,.i y] [] (fun r h=>∃(v:Value),r=Z6 (V3 xs y) v/\h=[.tail v 1]):=by
 refine ZK 49 Tryz.func118 (ar (ir 1 [(0,Z0 xs),(1,.i y)] (ie (ar (iL (Z8 []) 0 1 ?_)))))
 intro v1
 refine Z1 1 5 (Z6 [] v1) (ie (ar (Z1 1 6 (.b false) (ie (aq (ar (Z1 1 7 (.i 0) (ie (ab 0 (al (fun m F h=>∃(k:Nat) (acc:List Int) (d:Bool) (v:Value),(k<=xs.length)/\(acc.length<=k+(if d=true then 1 else 0))/\(acc++Tn d (xs.drop k) y=V3 xs y)/\F=[(0,Z0 xs),(1,.i y),(5,Z6 acc v),(6,.b d),(7,.i k)]/\h=[.tail v 1]/\m=xs.length-k) _ _ _ ⟨0,[],false,v1,ob,(by simp),rfl,rfl,rfl,rfl⟩ (wk [0] (fq (Ye fl))) ?_))))))))))
 rintro m F h ⟨k,acc,d,v,Ym,Zp,Zz,rfl,rfl,rfl⟩
 refine aq (ar (Yo 2 9 (.i k) 10 (Z0 xs) (iw (Yd xs) (Z1 1 12 (.b (decide ((k:Int)<(xs.length:Int)))) (ie (ZM ((k:Int)<(xs.length:Int)) (fun Ze=>?_) (fun Ze=>?_)))))))
 ·obtain ⟨x1,Z3⟩:=Zs (xs:=xs) (j:=k) om
  have hil:acc.length<=k+1:=Vf Zp (by split<;>omega)
  refine ak (aq (ab 1 (aq (ar (Xp [(0,Z0 xs),(1,.i y),(5,Z6 acc v),(6,.b d),(7,.i k),(24,.b ((!d)&&(decide (x1>=y))))] [.tail v 1] ?_ ?_)))))
  ·refine ir 3 [(0,Z0 xs),(1,.i y),(5,Z6 acc v),(6,.b d),(7,.i k),(17,.b (!d))] (ib (b:=(!d)) 17 (fun Za=>?_) (fun Za=>?_))
   ·have ZP:¬(d=true):=((Yt Iff.rfl)).1 Za
    refine Z5 2 (.n 18 (Z0 xs) (.n 19 (.i k) (.w (.k (.k .z))))) (Zq (Zo none (k:Int) 1 (Y3 Z3)) (Z1 4 24 (.b (decide (x1>=y))) (ie ?_)))
    exact wk [0] (fq (fr (Zr (decide (x1>=y)) Za fl)))
   have Y0:¬(¬(d=true)):=ZG (Yt Iff.rfl) Za
   refine Z5 7 (.n 24 (.b false) (.d (.w (.k .z)))) (ie ?_)
   exact wk [0] (fq (fr (Zr false Za fl)))
  refine XI (fun F h=>∃(acc2:List Int) (d2:Bool) (w:Value),((acc2=acc/\d2=d/\(d=true∨¬x1>=y))∨(acc2=acc++[y]/\d2=true/\¬d=true/\x1>y)∨(acc2=acc/\d2=true/\¬d=true/\x1=y))/\(acc2.length<=k+(if d2=true then 1 else 0))/\(acc2.length<=k+1)/\F=[(0,Z0 xs),(1,.i y),(5,Z6 acc2 w),(6,.b d2),(7,.i k)]/\h=[.tail w 1]) ?_ ?_
  ·refine ac ((!d)&&(decide (x1>=y))) (p:=(¬(d=true))/\(x1>=y)) (YE (Yt Iff.rfl) dq) (fun Zk=>?_) (fun Zk=>?_)
   ·refine aq (ar (ir 2 [(0,Z0 xs),(1,.i y),(5,Z6 acc v),(7,.i k),(25,Z0 xs),(26,.i k)] (Zq (Zo none (k:Int) 1 (Y3 Z3)) (Z1 3 30 (.b (decide (x1>y))) (ie (XI (fun F h=>∃(w3:Value),F=[(0,Z0 xs),(1,.i y),(5,Z6 (if x1>y then (acc++[y]) else acc) w3),(7,.i k)]/\h=[.tail w3 1]) ?_ ?_))))))
    ·refine ZM (x1>y) (fun ZI=>?_) (fun ZI=>?_)
     ·refine az (ir 2 [(0,Z0 xs),(1,.i y),(7,.i k),(31,Z6 acc v),(32,.i y)] (iL (Z8 [y]) 1 1 ?_))
      intro v2
      refine Z5 0 (.n 33 (Z0 [y]) (.p .r)) (ip 1 (Z8 (acc++[y])) (Z8 acc) (Z8 [y]) v none 1 (YD _) (YD _) (XY _) (by simp<;>omega) (by simp [XX,Z8]) ?_)
      intro v3
      refine Z1 1 5 (Z6 (acc++[y]) v3) (ie ?_)
      exact ZV ⟨v3,rfl,rfl⟩ (wk [0] (fw (fc (x:=Z6 (acc++[y]) v3) (Zg.slh _ (Yv Z8 (by first|rfl|(rw [Zm ZI])|(rw [Zb ZI])|(simp [ZI];done)|(rw [Xm];simp [ZI];done)|omega))) fl)))
     refine ak ?_
     exact ZV ⟨v,rfl,rfl⟩ (wk [0] (fw (fc (x:=Z6 acc v) (Zg.slh _ (Yv Z8 (by first|rfl|(rw [Zm ZI])|(rw [Zb ZI])|(simp [ZI];done)|(rw [Xm];simp [ZI];done)|omega))) fl)))
    rintro F h ⟨w3,rfl,rfl⟩
    refine az (ir 1 [(0,Z0 xs),(1,.i y),(5,Z6 (if x1>y then (acc++[y]) else acc) w3),(6,.b true),(7,.i k)] (ie ?_))
    exact ZV ⟨(if x1>y then (acc++[y]) else acc),true,w3,(if h:x1>y then (by rw [Zm h];exact .inr (.inl ⟨rfl,rfl,Zk.1,h⟩)) else (by rw [Zb h];exact .inr (.inr ⟨rfl,rfl,Zk.1,by have:=Zk.2;omega⟩))),(by have h1:=Zp;rw [Zb Zk.1] at h1;split<;>(simp<;>omega)),(by have h1:=Zp;rw [Zb Zk.1] at h1;split<;>(simp<;>omega)),rfl,rfl⟩ (wk [0] fl)
   refine ak ?_
   exact ZV ⟨acc,d,v,(.inl ⟨rfl,rfl,by by_cases q:d=true;exact .inl q;exact .inr (fun z=>Zk ⟨q,z⟩)⟩),Zp,hil,rfl,rfl⟩ (wk [0] fl)
  rintro F h ⟨acc2,d2,w,Vv,Jg,G9,rfl,rfl⟩
  refine az (ir 3 [(0,Z0 xs),(1,.i y),(6,.b d2),(7,.i k),(35,Z6 acc2 w),(36,Z0 xs),(37,.i k)] (Zq (Zo none (k:Int) 1 (Y3 Z3)) (Z1 1 39 (.i x1) (iL (Z8 [x1]) 1 1 ?_))))
  intro v4
  refine Z5 0 (.n 40 (Z0 [x1]) (.p .r)) (ip 1 (Z8 (acc2++[x1])) (Z8 acc2) (Z8 [x1]) w none 1 (YD _) (YD _) (XY _) (by simp<;>omega) (by simp [XX,Z8]) ?_)
  intro v5
  refine Z1 1 5 (Z6 (acc2++[x1]) v5) (ie (az (Z1 1 13 (.i k) (ZO k (Z5 1 (.n 7 (.i (k+1:Nat)) (.p (.d (.k (.p (.d (.d (.p (.k (.k (.k .z))))))))))) (ie ?_))))))
  exact ZQ ⟨k+1,(acc2++[x1]),d2,v5,ob,(by simp only [Yx,YS,Xn];omega),(Z0q Z3 Zz Vv),rfl,rfl,rfl⟩ (wk [0] (fq (ZW k fl)))
 have hil:acc.length<=k+1:=Vf Zp (by split<;>omega)
 refine ax 0 (aq (ar (Z1 2 43 (.b (!d)) (ie (XI (fun F h=>∃(w4:Value),F=[(5,Z6 (if d=true then acc else (acc++[y])) w4)]/\h=[.tail w4 1]) ?_ ?_)))))
 ·refine ac (!d) (p:=¬(d=true)) (Yt Iff.rfl) (fun Yi=>?_) (fun Yi=>?_)
  ·refine az (ir 2 [(44,Z6 acc v),(45,.i y)] (iL (Z8 [y]) 1 1 ?_))
   intro v6
   refine Z5 0 (.n 46 (Z0 [y]) (.p .r)) (ip 1 (Z8 (acc++[y])) (Z8 acc) (Z8 [y]) v none 1 (YD _) (YD _) (XY _) (by simp<;>omega) (by simp [XX,Z8]) ?_)
   intro v7
   refine ir 1 [(5,Z6 (acc++[y]) v7)] (ie ?_)
   exact ZV ⟨v7,rfl,rfl⟩ (wk [0] (fc (x:=Z6 (acc++[y]) v7) (Zg.slh _ (Yv Z8 (by first|rfl|(rw [Zm Yi])|(rw [Zb Yi])|(simp [Yi];done)|(rw [Xm];simp [Yi];done)|omega))) fl))
  refine ak ?_
  exact ZV ⟨v,rfl,rfl⟩ (wk [0] (fc (x:=Z6 acc v) (Zg.slh _ (Yv Z8 (by first|rfl|(rw [Zm Yi])|(rw [Zb Yi])|(simp [Yi];done)|(rw [Xm];simp [Yi];done)|omega))) fl))
 rintro F h ⟨w4,rfl,rfl⟩
 refine ar (ir 2 [(4,Z6 (if d=true then acc else (acc++[y])) w4)] (ie ?_))
 exact Zc (r2 [0] [Z6 (if d=true then acc else (acc++[y])) w4] ⟨w4,rfl,rfl⟩ (Zg.slh _ (Yv Z8 (Z0p om Zz))))
theorem L5 (xs:List Int) (y:Int) (hl:xs.length<=1000000000:=by exact ob):Zj Tryz.prog 260 [Z0 xs,.i y] [] (fun r h=>∃(v:Value),r=Z6 (UI xs y) v/\h=[.tail v 1]):=by
 refine ZK 28 Tryz.func260 (ar (ir 1 [(0,Z0 xs),(1,.i y)] (ie (ar (iL (Z8 []) 0 1 ?_)))))
 intro v1
 refine Z1 1 5 (Z6 [] v1) (ie (aq (ar (Z1 1 6 (.i 0) (ie (ab 0 (al (fun m F h=>∃(k:Nat) (acc:List Int) (v:Value),(k<=xs.length)/\(acc.length<=k)/\(acc++UI (xs.drop k) y=UI xs y)/\F=[(0,Z0 xs),(1,.i y),(5,Z6 acc v),(6,.i k)]/\h=[.tail v 1]/\m=xs.length-k) _ _ _ ⟨0,[],v1,ob,ob,rfl,rfl,rfl,rfl⟩ (wk [0] (fw (fr (Ye fl)))) ?_)))))))
 rintro m F h ⟨k,acc,v,Ym,Zp,Zz,rfl,rfl,rfl⟩
 refine aq (ar (Yo 2 8 (.i k) 9 (Z0 xs) (iw (Yd xs) (Z1 1 11 (.b (decide ((k:Int)<(xs.length:Int)))) (ie (ZM ((k:Int)<(xs.length:Int)) (fun Ze=>?_) (fun Ze=>?_)))))))
 ·refine ak (aq (ab 1 (ar (Yo 2 14 (Z0 xs) 15 (.i k) ?_))))
  obtain ⟨x1,Z3⟩:=Zs (xs:=xs) (j:=k) om
  refine Zq (Zo none (k:Int) 1 (Y3 Z3)) (Z1 3 19 (.b (x1 != y)) (ie (JB (fun F h=>∃(w:Value),F=[(0,Z0 xs),(1,.i y),(5,Z6 (if x1≠y then (acc++[x1]) else acc) w),(6,.i k)]/\h=[.tail w 1]) (fun _ _=>rfl) ?_ ?_)))
  ·refine ac (x1 != y) Yc (fun Zk=>?_) (fun Zk=>?_)
   ·refine az (ir 3 [(0,Z0 xs),(1,.i y),(6,.i k),(20,Z6 acc v),(21,Z0 xs),(22,.i k)] (Zq (Zo none (k:Int) 1 (Y3 Z3)) (Z1 1 24 (.i x1) (iL (Z8 [x1]) 1 1 ?_))))
    intro v2
    refine Z5 0 (.n 25 (Z0 [x1]) (.p .r)) (ip 1 (Z8 (acc++[x1])) (Z8 acc) (Z8 [x1]) v none 1 (YD _) (YD _) (XY _) (by simp<;>omega) (by simp [XX,Z8]) ?_)
    intro v3
    refine Z1 1 5 (Z6 (acc++[x1]) v3) (ie ?_)
    exact ZV ⟨v3,rfl,rfl⟩ (wk [0] (fw (fc (x:=Z6 (acc++[x1]) v3) (Zg.slh _ (Yv Z8 (by first|rfl|(rw [Zm Zk])|(rw [Zb Zk])|(simp [Zk];done)|(rw [Xm];simp [Zk];done)|omega))) fl)))
   refine ak ?_
   exact ZV ⟨v,rfl,rfl⟩ (wk [0] (fw (fc (x:=Z6 acc v) (Zg.slh _ (Yv Z8 (by first|rfl|(rw [Zm Zk])|(rw [Zb Zk])|(simp [Zk];done)|(rw [Xm];simp [Zk];done)|omega))) fl)))
  rintro F h ⟨w,rfl,rfl⟩
  refine az (ir 1 [(0,Z0 xs),(1,.i y),(5,Z6 (if x1≠y then (acc++[x1]) else acc) w),(12,.i k)] (ZO k (Z1 1 6 (.i (k+1:Nat)) (ie ?_))))
  exact ZQ ⟨k+1,(if x1≠y then (acc++[x1]) else acc),w,ob,(by split<;>(try simp)<;>omega),(Z2z Z3 Zz),rfl,rfl,rfl⟩ (wk [0] (fw (fr (ZW k fl))))
 refine ax 0 (ar (ir 2 [(4,Z6 acc v)] (ie ?_)))
 exact Zc (r2 [0] [Z6 acc v] ⟨v,rfl,rfl⟩ (Zg.slh _ (Yv Z8 (Z2y om Zz))))
theorem Z4v (s:Z4) (q:Int) (xs:List Int) (ih:∀(b2:Z7) (q:Int) (k2:Nat) (xs2:List Int),(b2.sz<s.sz)->(k2<=b2.steps.length)->(xs2.length+b2.sz<=1000000000)->Zj Tryz.prog 83 [Zx b2,.i q,.i k2,Z0 xs2] [] (fun r h=>r=Z0 (Vy q (VS q (b2.steps.drop k2) xs2) b2.result)/\h=[])) (hz:xs.length+s.sz<=1000000000):Zj Tryz.prog 117 [Y4 s,.i q,Z0 xs] [] (fun r h=>r=Z0 (QQ q s xs)/\h=[]):=by
 have hkz:=T8 s
 have haz:=Q7 s
 have hse:=s.sz_eq
 refine ZK 58 Tryz.func117 (ar (iA (Yg s) ?_))
 intro b1
 refine ir 1 [(1,.i q),(2,Z0 xs),(3,.p b1 0)] (ie (aq (ar (Yk 2 10 (.i s.op) [0] [b1] (ZA [] (Ni s.op) (ie (ac (YF s.op) Iff.rfl (fun Ze=>?_) (fun Ze=>?_))))))))
 ·refine ar (ir 2 [(6,Z0 xs)] (ie ?_))
  exact Zc (r2 [] [Z0 xs] ⟨rfl,rfl⟩ (Zg.sl _ (Yv Z8 (by rw [NR,Zm (by assumption)]))))
 refine ak (aq (ar (Z1 1 7 (.i 0) (ie (ab 0 (al (fun m F h=>∃(j:Nat) (ys:List Int),(j<=s.args.length)/\(ys.length<=xs.length+j)/\(TF q (s.args.drop j) ys=TF q s.args xs)/\F=[(1,.i q),(2,Z0 ys),(3,.p b1 0),(7,.i j)]/\h=[.obj b1 (Yg s)]/\m=s.args.length-j) _ _ _ ⟨0,xs,ob,ob,rfl,rfl,rfl,rfl⟩ (wk [0] (fw (fr (Ye fl)))) ?_))))))
 rintro m F h ⟨j,ys,Ym,Zp,Zz,rfl,rfl,rfl⟩
 refine aq (ar (Y1 3 13 (.i j) 15 (Z0 s.args) [0] [b1] (iw (Yd s.args) (Z1 1 17 (.b (decide ((j:Int)<(s.args.length:Int)))) (ie (ZM ((j:Int)<(s.args.length:Int)) (fun Zk=>?_) (fun Zk=>?_)))))))
 ·refine ak (aq (ab 1 (ar (Y1 3 21 (Z0 s.args) 22 (.i j) [0] [b1] ?_))))
  obtain ⟨x1,Z3⟩:=Zs (xs:=s.args) (j:=j) om
  refine Zq (Zo none (j:Int) 1 (Y3 Z3)) (Xp [(1,.i q),(2,Z0 ys),(3,.p b1 0),(7,.i j),(34,.b ((decide (x1>=0))&&(decide (x1<q))))] [.obj b1 (Yg s)] ?_ ?_)
  ·refine ir 3 [(1,.i q),(2,Z0 ys),(3,.p b1 0),(7,.i j),(26,.b (decide (x1>=0)))] (ib (b:=(decide (x1>=0))) 26 (fun Za=>?_) (fun Za=>?_))
   ·have ZP:x1>=0:=(dq).1 Za
    refine Y2 3 (.n 28 (Z0 s.args) (.n 29 (.i j) (.w (.k .z)))) [0] [b1] (Zq (Zo none (j:Int) 1 (Y3 Z3)) (Z1 4 34 (.b (decide (x1<q))) (ie ?_)))
    exact wk [0] (fq (Zr (decide (x1<q)) Za fl))
   have Y0:¬(x1>=0):=ZG dq Za
   refine Z5 8 (.n 34 (.b false) (.d (.w .z))) (ie ?_)
   exact wk [0] (fq (Zr false Za fl))
  refine JB (fun F h=>F=[(1,.i q),(2,Z0 (Vy q ys x1)),(3,.p b1 0),(7,.i j)]/\h=[.obj b1 (Yg s)]) (fun _ _=>rfl) ?_ ?_
  ·refine ac ((decide (x1>=0))&&(decide (x1<q))) (p:=(x1>=0)/\(x1<q)) (YE dq dq) (fun ZI=>?_) (fun ZI=>?_)
   ·refine az (iR 4 [(1,.i q),(3,.p b1 0),(7,.i j),(35,Z0 ys),(37,Z0 s.args),(38,.i j)] [0] [b1] (Zq (Zo none (j:Int) 1 (Y3 Z3)) (Z1 1 40 (.i x1) (ic [] (Ca ys x1) ?_))))
    rintro _ _ ⟨v1,rfl,rfl⟩
    refine Z1 1 2 (Z6 (V3 ys x1) v1) (ie ?_)
    exact ZV ⟨rfl,rfl⟩ (wk [1] (fr (fc (x:=Z6 (V3 ys x1) v1) (Zg.sl _ (Yv Z8 (by rw [Vy,Zm (by assumption)]))) fl)))
   refine ak ?_
   exact ZV ⟨rfl,rfl⟩ (wk [0] (fr (fc (x:=Z0 ys) (Zg.sl _ (Yv Z8 (by rw [Vy,Zb (by assumption)]))) fl)))
  rintro F h ⟨rfl,rfl⟩
  refine az (ir 1 [(1,.i q),(2,Z0 (Vy q ys x1)),(3,.p b1 0),(18,.i j)] (ZO j (Z1 1 7 (.i (j+1:Nat)) (ie ?_))))
  exact ZQ ⟨j+1,(Vy q ys x1),ob,(by have:=Eu (n:=q) ys x1;omega),(Z6v Z3 Zz),rfl,rfl,rfl⟩ (wk [0] (fw (fr (ZW j fl))))
 have hA:TF q s.args xs=ys:=(Z6u om Zz).symm
 refine ax 0 (aq (ar (Z1 1 8 (.i 0) (ie (ab 2 (al (fun m F h=>∃(j:Nat) (zs:List Int),(j<=s.kids.length)/\(zs.length<=xs.length+s.args.length+YY (s.kids.take j))/\(QP q (s.kids.drop j) zs=QP q s.kids (TF q s.args xs))/\F=[(1,.i q),(2,Z0 zs),(3,.p b1 0),(8,.i j)]/\h=[.obj b1 (Yg s)]/\m=s.kids.length-j) _ _ _ ⟨0,ys,ob,(by rw [List.take_zero,YY];omega),(by rw [hA];rfl),rfl,rfl,rfl⟩ (wk [0] (fw (fr (Ye fl)))) ?_))))))
 rintro m F h ⟨j,zs,Uj,We,XJ,rfl,rfl,rfl⟩
 refine aq (ar (Y1 3 42 (.i j) 44 (Yz s.kids) [0] [b1] (iw (VX s.kids) (Z1 1 46 (.b (decide ((j:Int)<(s.kids.length:Int)))) (ie (ZM ((j:Int)<(s.kids.length:Int)) (fun Yi=>?_) (fun Yi=>?_)))))))
 ·refine ak (aq (ab 3 (az (Y1 3 50 (Yz s.kids) 51 (.i j) [0] [b1] ?_))))
  obtain ⟨x2,Zv⟩:=Zs (xs:=s.kids) (j:=j) om
  have hks:=T7 Zv
  have hbt:=D7 Zv
  have hbx:=D6 Zv
  have hul:=Et (n:=q) x2 zs
  refine Zq (Zo none (j:Int) 2 (UA Zv)) (Z5 3 (.n 53 (Zx x2) (.n 54 (.i q) (.n 55 (Z0 zs) .r))) (ZA [] (ih x2 q 0 zs ob ob ob) (ir 1 [(1,.i q),(2,Z0 (Vy q (VS q (x2.steps.drop 0) zs) x2.result)),(3,.p b1 0),(8,.i j)] (ie (az (Z1 1 47 (.i j) (ZO j (Z5 1 (.n 8 (.i (j+1:Nat)) (.p (.d (.k (.k (.k .z)))))) (ie ?_)))))))))
  exact ZQ ⟨j+1,(XZ q x2 zs),ob,om,(Z6x Zv XJ),rfl,rfl,rfl⟩ (wk [0] (fr (fc (x:=Z0 (Vy q (VS q (x2.steps.drop 0) zs) x2.result)) (Zg.sl _ (Yv Z8 (by rw [NP];rfl))) (fr (ZW j fl)))))
 refine ax 2 (ar (ir 2 [(6,Z0 zs)] (ie ?_)))
 exact Zc (r2 [] [Z0 zs] ⟨rfl,rfl⟩ (Zg.sl _ (Yv Z8 (by rw [NR,Zb (by assumption)];exact (Z6w om XJ)))))
theorem Z4w (b:Z7) (q:Int) (k0:Nat) (xs:List Int) (ih:∀(s2:Z4) (q:Int) (xs2:List Int),(s2.sz<b.sz)->(xs2.length+s2.sz<=1000000000)->Zj Tryz.prog 117 [Y4 s2,.i q,Z0 xs2] [] (fun r h=>r=Z0 (QQ q s2 xs2)/\h=[])) (hk:k0<=b.steps.length) (hz:xs.length+b.sz<=1000000000):Zj Tryz.prog 83 [Zx b,.i q,.i k0,Z0 xs] [] (fun r h=>r=Z0 (Vy q (VS q (b.steps.drop k0) xs) b.result)/\h=[]):=by
 have hbz:=Vx b
 have hbe:=b.sz_eq
 have hsd:=Nu b.steps k0
 refine ZK 40 Tryz.func83 (ar (iA (Yn b) ?_))
 intro b1
 refine ir 1 [(1,.i q),(2,.i k0),(3,Z0 xs),(4,.p b1 0)] (ie (aq (ar (Z1 2 9 (.i k0) (ie (ab 0 (al (fun m F h=>∃(k:Nat) (ys:List Int),(k<=b.steps.length)/\(ys.length+Yu (b.steps.drop k)<=xs.length+Yu (b.steps.drop k0))/\(VS q (b.steps.drop k) ys=VS q (b.steps.drop k0) xs)/\F=[(1,.i q),(3,Z0 ys),(4,.p b1 0),(9,.i k)]/\h=[.obj b1 (Yn b)]/\m=b.steps.length-k) _ _ _ ⟨k0,xs,ob,(X7 _),rfl,rfl,rfl,rfl⟩ (wk [0] fl) ?_)))))))
 rintro m F h ⟨k,ys,Ym,Zp,Zz,rfl,rfl,rfl⟩
 refine aq (ar (Y1 3 11 (.i k) 13 (Yj b.steps) [0] [b1] (iw (VE b.steps) (Z1 1 15 (.b (decide ((k:Int)<(b.steps.length:Int)))) (ie (ZM ((k:Int)<(b.steps.length:Int)) (fun Ze=>?_) (fun Ze=>?_)))))))
 ·refine ak (aq (ab 1 (az (Y1 3 19 (Yj b.steps) 20 (.i k) [0] [b1] ?_))))
  obtain ⟨x1,Z3⟩:=Zs (xs:=b.steps) (j:=k) om
  have hss:=KJ Z3
  have hsd1:=Nt Z3
  have hul:=NS (n:=q) x1 ys
  refine Zq (Zo none (k:Int) 5 (Wy Z3)) (Z5 3 (.n 22 (Y4 x1) (.n 23 (.i q) (.n 24 (Z0 ys) .r))) (ZA [] (ih x1 q ys ob ob) (ir 1 [(1,.i q),(3,Z0 (QQ q x1 ys)),(4,.p b1 0),(9,.i k)] (ie (az (Z1 1 16 (.i k) (ZO k (Z5 1 (.n 9 (.i (k+1:Nat)) (.p (.d (.k (.k (.k .z)))))) (ie ?_)))))))))
  exact ZQ ⟨k+1,(QQ q x1 ys),ob,ob,(Z6z Z3 Zz),rfl,rfl,rfl⟩ (wk [0] (fw (fr (ZW k fl))))
 refine ax 0 (aq (ar (Xp [(3,Z0 ys),(4,.p b1 0),(34,.b ((decide (b.result>=0))&&(decide (b.result<q))))] [.obj b1 (Yn b)] ?_ ?_)))
 ·refine iR 4 [(1,.i q),(3,Z0 ys),(4,.p b1 0),(29,.b (decide (b.result>=0)))] [0] [b1] (ib (b:=(decide (b.result>=0))) 29 (fun Za=>?_) (fun Za=>?_))
  ·have ZP:b.result>=0:=(dq).1 Za
   refine Y2 5 (.n 34 (.b (decide (b.result<q))) (.d (.d (.k (.k .z))))) [0] [b1] (ie ?_)
   exact wk [0] (fw (Zr (decide (b.result<q)) Za fl))
  have Y0:¬(b.result>=0):=ZG dq Za
  refine Z5 5 (.n 34 (.b false) (.d (.d (.k (.k .z))))) (ie ?_)
  exact wk [0] (fw (Zr false Za fl))
 refine XI (fun F h=>F=[(3,Z0 (Vy q ys b.result))]/\h=[]) ?_ ?_
 ·refine ac ((decide (b.result>=0))&&(decide (b.result<q))) (p:=(b.result>=0)/\(b.result<q)) (YE dq dq) (fun Zk=>?_) (fun Zk=>?_)
  ·refine az (iR 3 [(35,Z0 ys),(37,.i b.result)] [0] [b1] (ic [] (Ca ys b.result) ?_))
   rintro _ _ ⟨v1,rfl,rfl⟩
   refine ir 1 [(3,Z6 (V3 ys b.result) v1)] (ie ?_)
   exact ZV ⟨rfl,rfl⟩ (wk [] (fc (x:=Z6 (V3 ys b.result) v1) (Zg.sl _ (Yv Z8 (by rw [Vy,Zm (by assumption)]))) fl))
  refine ak ?_
  exact ZV ⟨rfl,rfl⟩ (wk [] (fc (x:=Z0 ys) (Zg.sl _ (Yv Z8 (by rw [Vy,Zb (by assumption)]))) fl))
 rintro F h ⟨rfl,rfl⟩
 refine ar (ir 2 [(8,Z0 (Vy q ys b.result))] (ie ?_))
 exact Zc (r2 [] [Z0 (Vy q ys b.result)] ⟨rfl,rfl⟩ (Zg.sl _ (Yv Z8 (by rw [Z6y om Zz]))))
theorem Z5l (k:Nat):(∀(s:Z4) (q:Int) (xs:List Int),(s.sz<=k)->(xs.length+s.sz<=1000000000)->Zj Tryz.prog 117 [Y4 s,.i q,Z0 xs] [] (fun r h=>r=Z0 (QQ q s xs)/\h=[]))/\(∀(b:Z7) (q:Int) (k0:Nat) (xs:List Int),(b.sz<=k)->(k0<=b.steps.length)->(xs.length+b.sz<=1000000000)->Zj Tryz.prog 83 [Zx b,.i q,.i k0,Z0 xs] [] (fun r h=>r=Z0 (Vy q (VS q (b.steps.drop k0) xs) b.result)/\h=[])):=by
 induction k with
 | zero=>exact ⟨fun s q xs h=>by have:=s.sz_pos;omega,fun b q k0 xs h=>by have:=b.sz_pos;omega⟩
 | succ k ih=>exact ⟨fun s q xs h hz=>Z4v s q xs (fun b2 q k2 xs2 h2 hk h3=>ih.2 b2 q k2 xs2 om hk h3) hz,fun b q k0 xs h hk hz=>Z4w b q k0 xs (fun s2 q xs2 h2 h3=>ih.1 s2 q xs2 om h3) hk hz⟩
theorem N8 (b:Z7) (q:Int) (k0:Nat) (xs:List Int) (hk:k0<=b.steps.length:=by exact ob) (hz:xs.length+b.sz<=1000000000:=by exact ob):Zj Tryz.prog 83 [Zx b,.i q,.i k0,Z0 xs] [] (fun r h=>r=Z0 (Vy q (VS q (b.steps.drop k0) xs) b.result)/\h=[]):=(Z5l b.sz).2 b q k0 xs (X7 _) hk hz
theorem Np (b:Z7) (q:Int) (hz:b.sz<=100000000:=by exact ob):Zj Tryz.prog 75 [Zx b,.i q] [] (fun r h=>r=Z0 (XZ q b [])/\h=[]):=by
 refine ZK 9 Tryz.func75 (ar (iA (Yn b) ?_))
 intro b1
 refine ir 1 [(1,.i q),(2,.p b1 0)] (ie (ar (iR 2 [(5,Zx b),(6,.i q)] [0] [b1] (iL (Z8 []) 0 1 ?_))))
 intro v1
 refine Z5 0 (.n 7 (Z0 []) (.p .r)) (ZA [] (N8 b q 0 [] (hk:=(QV _))) (ir 1 [(4,Z0 (Vy q (VS q (b.steps.drop 0) []) b.result))] (ie ?_)))
 exact Zc (r2 [] [Z0 (Vy q (VS q (b.steps.drop 0) []) b.result)] ⟨rfl,rfl⟩ (Zg.sl _ (Yv Z8 (by rw [NP];rfl))))
theorem Sz (xs:List Int) (ys:List Int) (hz:xs.length+ys.length<=100000000:=by exact ob):Zj Tryz.prog 255 [Z0 xs,Z0 ys] [] (fun r h=>∃(zs:List Int),r=Z0 zs/\h=[]/\zs.length<=xs.length+ys.length):=by
 refine ZK 22 Tryz.func255 (ar (ir 1 [(0,Z0 xs),(1,Z0 ys)] (ie (ar (Z1 1 7 (Z0 xs) (ic [] (VJ xs) ?_))))))
 rintro _ _ ⟨v1,rfl,rfl⟩
 refine Z1 1 5 (Z6 xs v1) (ie (aq (ar (Z1 1 6 (.i 0) (ie (ab 0 (al (fun m F h=>∃(k:Nat) (zs:List Int),(k<=ys.length)/\(zs.length<=xs.length+k)/\F=[(1,Z0 ys),(5,Z0 zs),(6,.i k)]/\h=[]/\m=ys.length-k) _ _ _ ⟨0,xs,ob,ob,rfl,rfl,rfl⟩ (wk [] (fr (fc (x:=Z6 xs v1) (Zg.forget _ _) (Ye fl)))) ?_)))))))
 rintro m F h ⟨k,zs,Ym,Zp,rfl,rfl,rfl⟩
 refine aq (ar (Yo 2 9 (.i k) 10 (Z0 ys) (iw (Yd ys) (Z1 1 12 (.b (decide ((k:Int)<(ys.length:Int)))) (ie (ZM ((k:Int)<(ys.length:Int)) (fun Ze=>?_) (fun Ze=>?_)))))))
 ·refine ak (aq (ab 1 (az (Z5 3 (.n 15 (Z0 zs) (.n 16 (Z0 ys) (.n 17 (.i k) .r))) ?_))))
  obtain ⟨x1,Z3⟩:=Zs (xs:=ys) (j:=k) om
  refine Zq (Zo none (k:Int) 1 (Y3 Z3)) (Z1 1 19 (.i x1) (ic [] (Ca zs x1) ?_))
  rintro _ _ ⟨v2,rfl,rfl⟩
  refine ir 1 [(1,Z0 ys),(5,Z6 (V3 zs x1) v2),(6,.i k)] (ie (az (Z1 1 13 (.i k) (ZO k (Z5 1 (.n 6 (.i (k+1:Nat)) (.p (.d (.k (.k .z))))) (ie ?_))))))
  exact ZQ ⟨k+1,(V3 zs x1),ob,(by have:=Bs zs x1;omega),rfl,rfl,rfl⟩ (wk [] (fr (fc (x:=Z6 (V3 zs x1) v2) (Zg.forget _ _) (ZW k fl))))
 refine ax 0 (ar (ir 2 [(4,Z0 zs)] (ie ?_)))
 exact Zc (r1 [] ⟨zs,rfl,rfl,ob⟩)
theorem IN (xs:List Int) (ys:List Int) (hz:xs.length<=100000000:=by exact ob) (hy:ys.length<=100000000:=by exact ob):Zj Tryz.prog 268 [Z0 xs,Z0 ys] [] (fun r h=>∃(zs:List Int) (v:Value),r=Z6 zs v/\h=[.tail v 1]/\zs.length<=xs.length/\∀z∈zs,z∈xs):=by
 refine ZK 28 Tryz.func268 (ar (ir 1 [(0,Z0 xs),(1,Z0 ys)] (ie (ar (iL (Z8 []) 0 1 ?_)))))
 intro v1
 refine Z1 1 5 (Z6 [] v1) (ie (aq (ar (Z1 1 6 (.i 0) (ie (ab 0 (al (fun m F h=>∃(k:Nat) (zs:List Int) (u:Value),(k<=xs.length)/\(zs.length<=k)/\(∀z∈zs,z∈xs)/\F=[(0,Z0 xs),(1,Z0 ys),(5,Z6 zs u),(6,.i k)]/\h=[.tail u 1]/\m=xs.length-k) _ _ _ ⟨0,[],v1,ob,ob,(fun z hz=>by cases hz),rfl,rfl,rfl⟩ (wk [0] (fw (fr (Ye fl)))) ?_)))))))
 rintro m F h ⟨k,zs,u,Ym,Zp,Zz,rfl,rfl,rfl⟩
 refine aq (ar (Yo 2 8 (.i k) 9 (Z0 xs) (iw (Yd xs) (Z1 1 11 (.b (decide ((k:Int)<(xs.length:Int)))) (ie (ZM ((k:Int)<(xs.length:Int)) (fun Ze=>?_) (fun Ze=>?_)))))))
 ·refine ak (aq (ab 1 (ar (Z5 3 (.n 14 (Z0 ys) (.n 15 (Z0 xs) (.n 16 (.i k) .r))) ?_))))
  obtain ⟨x1,Z3⟩:=Zs (xs:=xs) (j:=k) om
  refine Zq (Zo none (k:Int) 1 (Y3 Z3)) (Z1 1 18 (.i x1) (ZA [] (U0 ys x1) (ie (ZM (x1∈ys) (fun Zk=>?_) (fun Zk=>?_)))))
  ·refine az (Z5 3 (.n 20 (Z6 zs u) (.n 21 (Z0 xs) (.n 22 (.i k) .r))) (Zq (Zo none (k:Int) 1 (Y3 Z3)) (Z1 1 24 (.i x1) (iL (Z8 [x1]) 1 1 ?_))))
   intro v2
   refine Z5 0 (.n 25 (Z0 [x1]) (.p .r)) (ip 1 (Z8 (zs++[x1])) (Z8 zs) (Z8 [x1]) u none 1 (YD _) (YD _) (XY _) (by simp<;>omega) (by simp [XX,Z8]) ?_)
   intro v3
   refine ir 1 [(0,Z0 xs),(1,Z0 ys),(5,Z6 (zs++[x1]) v3),(6,.i k)] (ie (az (Z1 1 12 (.i k) (ZO k (Z5 1 (.n 6 (.i (k+1:Nat)) (.p (.d (.k (.k (.k .z)))))) (ie ?_))))))
   exact ZQ ⟨k+1,(zs++[x1]),v3,ob,ob,(by first|exact Zz|exact Xq Zz (Y7 Z3)),rfl,rfl,rfl⟩ (wk [0] (fw (fr (ZW k fl))))
  refine ak (az (Z1 1 12 (.i k) (ZO k (ir 1 [(0,Z0 xs),(1,Z0 ys),(5,Z6 zs u),(6,.i (k+1:Nat))] (ie ?_)))))
  exact ZQ ⟨k+1,zs,u,ob,ob,(by first|exact Zz|exact Xq Zz (Y7 Z3)),rfl,rfl,rfl⟩ (wk [0] (fw (fr (ZW k fl))))
 refine ax 0 (ar (ir 2 [(4,Z6 zs u)] (ie ?_)))
 exact Zc (r1 [0] ⟨zs,u,rfl,rfl,⟨by omega,Zz⟩⟩)
theorem FL (xs:List Int) (q:Int) (hz:xs.length<=100000000:=by exact ob):Zj Tryz.prog 272 [Z0 xs,.i q] [] (fun r h=>∃(zs:List Int) (v:Value),r=Z6 zs v/\h=[.tail v 1]/\zs.length<=xs.length/\∀z∈zs,z∈xs):=by
 refine ZK 28 Tryz.func272 (ar (ir 1 [(0,Z0 xs),(1,.i q)] (ie (ar (iL (Z8 []) 0 1 ?_)))))
 intro v1
 refine Z1 1 5 (Z6 [] v1) (ie (aq (ar (Z1 1 6 (.i 0) (ie (ab 0 (al (fun m F h=>∃(k:Nat) (zs:List Int) (u:Value),(k<=xs.length)/\(zs.length<=k)/\(∀z∈zs,z∈xs)/\F=[(0,Z0 xs),(1,.i q),(5,Z6 zs u),(6,.i k)]/\h=[.tail u 1]/\m=xs.length-k) _ _ _ ⟨0,[],v1,ob,ob,(fun z hz=>by cases hz),rfl,rfl,rfl⟩ (wk [0] (fw (fr (Ye fl)))) ?_)))))))
 rintro m F h ⟨k,zs,u,Ym,Zp,Zz,rfl,rfl,rfl⟩
 refine aq (ar (Yo 2 8 (.i k) 9 (Z0 xs) (iw (Yd xs) (Z1 1 11 (.b (decide ((k:Int)<(xs.length:Int)))) (ie (ZM ((k:Int)<(xs.length:Int)) (fun Ze=>?_) (fun Ze=>?_)))))))
 ·refine ak (aq (ab 1 (ar (Yo 2 14 (Z0 xs) 15 (.i k) ?_))))
  obtain ⟨x1,Z3⟩:=Zs (xs:=xs) (j:=k) om
  refine Zq (Zo none (k:Int) 1 (Y3 Z3)) (Z1 3 19 (.b (decide (x1<q))) (ie (ZM (x1<q) (fun Zk=>?_) (fun Zk=>?_))))
  ·refine az (Z5 3 (.n 20 (Z6 zs u) (.n 21 (Z0 xs) (.n 22 (.i k) .r))) (Zq (Zo none (k:Int) 1 (Y3 Z3)) (Z1 1 24 (.i x1) (iL (Z8 [x1]) 1 1 ?_))))
   intro v2
   refine Z5 0 (.n 25 (Z0 [x1]) (.p .r)) (ip 1 (Z8 (zs++[x1])) (Z8 zs) (Z8 [x1]) u none 1 (YD _) (YD _) (XY _) (by simp<;>omega) (by simp [XX,Z8]) ?_)
   intro v3
   refine ir 1 [(0,Z0 xs),(1,.i q),(5,Z6 (zs++[x1]) v3),(6,.i k)] (ie (az (Z1 1 12 (.i k) (ZO k (Z5 1 (.n 6 (.i (k+1:Nat)) (.p (.d (.k (.k (.k .z)))))) (ie ?_))))))
   exact ZQ ⟨k+1,(zs++[x1]),v3,ob,ob,(by first|exact Zz|exact Xq Zz (Y7 Z3)),rfl,rfl,rfl⟩ (wk [0] (fw (fr (ZW k fl))))
  refine ak (az (Z1 1 12 (.i k) (ZO k (ir 1 [(0,Z0 xs),(1,.i q),(5,Z6 zs u),(6,.i (k+1:Nat))] (ie ?_)))))
  exact ZQ ⟨k+1,zs,u,ob,ob,(by first|exact Zz|exact Xq Zz (Y7 Z3)),rfl,rfl,rfl⟩ (wk [0] (fw (fr (ZW k fl))))
 refine ax 0 (ar (ir 2 [(4,Z6 zs u)] (ie ?_)))
 exact Zc (r1 [0] ⟨zs,u,rfl,rfl,⟨by omega,Zz⟩⟩)
theorem KI (op:Int) (v:Int) :Zj Tryz.prog 88 [.i op,.i v] [] (fun r h=>r=Y4 (Zi op v)/\h=[]):=by
 refine ZK 10 Tryz.func88 (ar (iA [.i 0,.i 0,.i 0,nl,nl] ?_))
 intro b1
 refine ie (ar (ir 2 [(4,.p b1 0),(5,.i op),(6,.i v)] (iL (Z8 [v]) 1 1 ?_)))
 intro v1
 refine iL (YH []) 0 2 ?_
 intro v2
 refine Z1 1 9 (.agg [.i op,.i 0,.i 0,Z6 [v] v1,X4 [] v2]) (ZH 2 b1 [.i op,.i 0,.i 0,Z6 [v] v1,X4 [] v2] (ie ?_))
 exact Zc (r3 [] [.agg [.i op,.i 0,.i 0,Z6 [v] v1,X4 [] v2]] [0] [(b1,b1)] ⟨rfl,rfl⟩ (Zg.agg (.cons li (.cons li (.cons li (.cons (Zg.sl _ (Yv Z8 rfl)) (.cons (Zg.sl _ (Yv YH rfl)) .nil)))))))
theorem Qi (op:Int) (xs:List Int) (hl:xs.length<=1000000000:=by exact ob):Zj Tryz.prog 229 [.i op,Z0 xs] [] (fun r h=>∃(v:Value),r=ZX (xs.map (Zi op)) v/\h=[.tail v 5]):=by
 refine ZK 24 Tryz.func229 (ar (ir 1 [(0,.i op),(1,Z0 xs)] (ie (ar (iL (Zt []) 0 5 ?_)))))
 intro v1
 refine Z1 1 5 (ZX [] v1) (ie (aq (ar (Z1 1 6 (.i 0) (ie (ab 0 (al (fun m F h=>∃(k:Nat) (v:Value),(k<=xs.length)/\F=[(0,.i op),(1,Z0 xs),(5,ZX ((xs.take k).map (Zi op)) v),(6,.i k)]/\h=[.tail v 5]/\m=xs.length-k) _ _ _ ⟨0,v1,ob,rfl,rfl,rfl⟩ (wk [0] (fw (fc (x:=ZX [] v1) (Zg.slh _ (Yv Zt rfl)) (Ye fl)))) ?_)))))))
 rintro m F h ⟨k,v,Ym,rfl,rfl,rfl⟩
 refine aq (ar (Yo 2 8 (.i k) 9 (Z0 xs) (iw (Yd xs) (Z1 1 11 (.b (decide ((k:Int)<(xs.length:Int)))) (ie (ZM ((k:Int)<(xs.length:Int)) (fun Ze=>?_) (fun Ze=>?_)))))))
 ·refine ak (aq (ab 1 (az (Z5 4 (.n 14 (ZX ((xs.take k).map (Zi op)) v) (.n 15 (.i op) (.n 16 (Z0 xs) (.n 17 (.i k) .r)))) ?_))))
  obtain ⟨x1,Z3⟩:=Zs (xs:=xs) (j:=k) om
  refine Zq (Zo none (k:Int) 1 (Y3 Z3)) (Z1 1 19 (.i x1) (ZA [] (KI op x1) (iL [Y4 (Zi op x1)] 1 5 ?_)))
  intro v2
  refine Z5 0 (.n 21 (.sl [Y4 (Zi op x1)] none) (.p .r)) (ip 1 (Zt ((xs.take (k+1)).map (Zi op))) (Zt ((xs.take k).map (Zi op))) [Y4 (Zi op x1)] v none 5 (X8 _) (TA rfl) rfl (by simp<;>omega) (by rw [WO Z3];simp [Vb]) ?_)
  intro v3
  refine ir 1 [(0,.i op),(1,Z0 xs),(5,ZX ((xs.take (k+1)).map (Zi op)) v3),(6,.i k)] (ie (az (Z1 1 12 (.i k) (ZO k (Z5 1 (.n 6 (.i (k+1:Nat)) (.p (.d (.k (.k (.k .z)))))) (ie ?_))))))
  exact ZQ ⟨k+1,v3,ob,rfl,rfl,rfl⟩ (wk [0] (fw (fr (ZW k fl))))
 refine ax 0 (ar (ir 2 [(4,ZX ((xs.take k).map (Zi op)) v)] (ie ?_)))
 exact Zc (r2 [0] [ZX ((xs.take k).map (Zi op)) v] ⟨v,rfl,rfl⟩ (Zg.slh _ (Yv Zt (by rw [Ve om]))))
theorem Sd (n:Zy) (s:Z4) (i:Nat) (mm:Nat) (hn:Xe n:=by exact ob) (hf:FS n.decls n.routines.length mm s:=by exact ob) (hi:i<s.args.length:=by exact ob):Zj Tryz.prog 271 [ZE n,Y4 s,.i i] [] (fun r h=>∃(wr:Bool),r=.b wr/\h=[]):=by
 have hal:=hf.alen
 refine ZK 42 Tryz.func271 (ar (iA (ZU n) ?_))
 intro b1
 refine iA (Yg s) ?_
 intro b2
 refine ir 1 [(2,.i i),(3,.p b1 0),(4,.p b2 0)] (ie (aq (ar (Z1 1 7 (.i 0) (ie (ab 0 (al (fun m F h=>∃(k:Nat),(k<=s.args.length)/\F=[(2,.i i),(3,.p b1 0),(4,.p b2 0),(7,.i k)]/\h=[.obj b2 (Yg s),.obj b1 (ZU n)]/\m=s.args.length-k) _ _ _ ⟨0,ob,rfl,rfl,rfl⟩ (wk [0,0] (fw (fr (Ye fl)))) ?_)))))))
 rintro m F h ⟨k,Ym,rfl,rfl,rfl⟩
 refine aq (ar (Y1 3 8 (.i k) 10 (Z0 s.args) [0] [b2] (iw (Yd s.args) (Z1 1 12 (.b (decide ((k:Int)<(s.args.length:Int)))) (ie (ZM ((k:Int)<(s.args.length:Int)) (fun Ze=>?_) (fun Ze=>?_)))))))
 ·refine ak (aq (ab 1 (aD 27 (ZY 23 27 [0,1,2,3] 18 (.b ((k:Int) != (i:Int))) (db (b:=((k:Int) != (i:Int))) 18 (fun Za=>?_) (fun Za=>?_))))))
  ·have ZP:(k:Int)≠(i:Int):=(Yc).1 Za
   refine Y6 20 23 [4,5,6] (.n 20 (Z0 s.args) (.n 21 (.i k) (.k (.d .r)))) [0] [b2] ?_
   obtain ⟨x1,Z3⟩:=Zs (xs:=s.args) (j:=k) om
   refine dx 7 (Zo none (k:Int) 1 (Y3 Z3)) (Y6 15 19 [8,9,10,11] (.n 23 (.i x1) (.n 25 (Z0 s.args) (.n 26 (.i i) .r))) [0] [b2] ?_)
   obtain ⟨x2,Zv⟩:=Zs (xs:=s.args) (j:=i) om
   refine dx 12 (Zo none (i:Int) 1 (Y3 Zv)) (ZY 10 14 [13,14,15,16] 31 (.b (x1==x2)) (db (b:=(x1==x2)) 31 (fun Zw=>?_) (fun Zw=>?_)))
   ·have Y0:x1=x2:=(Zh).1 Zw
    refine ZZ 6 10 [17,18,19,20] (.n 35 (.b (decide ((k:Int)>(i:Int)))) (.k (.d .r))) (db (b:=(decide ((k:Int)>(i:Int)))) 35 (fun Yw=>?_) (fun Yw=>?_))
    ·have YB:(k:Int)>(i:Int):=(dq).1 Yw
     refine ZZ 0 6 [21,22,23,24,25,26] (.n 41 (.b true) (.k (.d .r))) (de (WL (ar (ir 1 [(6,.b true)] (ie ?_)))))
     exact Zc (r1 [] ⟨true,rfl,rfl⟩)
    have YN:¬((k:Int)>(i:Int)):=ZG dq Yw
    refine Y6 3 6 [21,22,23] (.n 36 (ZE n) (.n 37 (Y4 s) (.n 38 (.i k) (.k (.d .r))))) [1,0] [b1,b2] (Z9 24 (Ys 24 [] [] [] (CK n s k (hnum:=hf.call)) (ZY 0 2 [25,26] 41 (.b (WK n s.op s.num k)) (de (ac (WK n s.op s.num k) Iff.rfl (fun Zk=>?_) (fun Zk=>?_))))))
    ·refine ar (ir 1 [(6,.b true)] (ie ?_))
     exact Zc (r1 [] ⟨true,rfl,rfl⟩)
    refine ak (az (Z1 1 13 (.i k) (ZO k (ir 1 [(2,.i i),(3,.p b1 0),(4,.p b2 0),(7,.i (k+1:Nat))] (ie ?_)))))
    exact ZQ ⟨k+1,ob,rfl,rfl,rfl⟩ (wk [0,0] (fw (fr (ZW k fl))))
   have YX:¬(x1=x2):=ZG Zh Zw
   refine ZZ 0 10 [17,18,19,20,21,22,23,24,25,26] (.n 41 (.b false) (.k (.d .r))) (de (WS (ak (az (Z1 1 13 (.i k) (ZO k (ir 1 [(2,.i i),(3,.p b1 0),(4,.p b2 0),(7,.i (k+1:Nat))] (ie ?_))))))))
   exact ZQ ⟨k+1,ob,rfl,rfl,rfl⟩ (wk [0,0] (fw (fr (ZW k fl))))
  have Xy:¬((k:Int)≠(i:Int)):=ZG Yc Za
  refine ZZ 0 23 [4,5,6,7,8,9,10,11,12,13,14,15,16,17,18,19,20,21,22,23,24,25,26] (.n 41 (.b false) (.k (.d .r))) (de (WS (ak (az (Z1 1 13 (.i k) (ZO k (ir 1 [(2,.i i),(3,.p b1 0),(4,.p b2 0),(7,.i (k+1:Nat))] (ie ?_))))))))
  exact ZQ ⟨k+1,ob,rfl,rfl,rfl⟩ (wk [0,0] (fw (fr (ZW k fl))))
 refine ax 0 (ar (ir 1 [(6,.b false)] (ie ?_)))
 exact Zc (r1 [] ⟨false,rfl,rfl⟩)
theorem IU (n:Zy) (s:Z4) (i:Nat) (mm:Nat) (os:List Int) (ls:List Int) (hn:Xe n:=by exact ob) (hf:FS n.decls n.routines.length mm s:=by exact ob) (hi:i<s.args.length:=by exact ob) (ho:os.length<=100000000:=by exact ob) (hl:ls.length<=100000000:=by exact ob):Zj Tryz.prog 266 [ZE n,Y4 s,.i i,Z0 os,Z0 ls] [] (fun r h=>∃(wr:Bool),r=.b wr/\h=[]):=by
 refine ZK 34 Tryz.func266 (ar (iA (ZU n) ?_))
 intro b1
 refine iA (Yg s) ?_
 intro b2
 refine ir 1 [(2,.i i),(3,Z0 os),(4,Z0 ls),(5,.p b1 0),(6,.p b2 0)] (ie (ar (Y2 4 (.n 11 (Z0 ls) (.n 13 (Z0 s.args) (.n 14 (.i i) .r))) [0] [b2] ?_)))
 obtain ⟨x1,Z3⟩:=Zs (xs:=s.args) (j:=i) om
 refine Zq (Zo none (i:Int) 1 (Y3 Z3)) (Z1 1 16 (.i x1) (ZA [] (U0 ls x1) (Z1 1 18 (.b (decide (x1∈ls))) (ib (b:=(decide (x1∈ls))) 18 (fun Za=>?_) (fun Za=>?_)))))
 ·have ZP:x1∈ls:=(dq).1 Za
  refine ir 16 [(10,.b true)] (ie ?_)
  exact Zc (r1 [] ⟨true,rfl,rfl⟩)
 have Y0:¬(x1∈ls):=ZG dq Za
 refine Y2 4 (.n 19 (Z0 os) (.n 21 (Z0 s.args) (.n 22 (.i i) (.k (.d .r))))) [0] [b2] (Zq (Zo none (i:Int) 1 (Y3 Z3)) (Z1 1 24 (.i x1) (ZA [] (U0 os x1) (Z1 3 28 (.b (!(decide (x1∈os)))) (ib (b:=(!(decide (x1∈os)))) 28 (fun Zw=>?_) (fun Zw=>?_))))))
 ·have YB:¬(x1∈os):=((Yt dq)).1 Zw
  refine ir 6 [(10,.b true)] (ie ?_)
  exact Zc (r1 [] ⟨true,rfl,rfl⟩)
 have YN:¬(¬(x1∈os)):=ZG (Yt dq) Zw
 refine iR 3 [(28,.b false),(29,ZE n),(30,Y4 s),(31,.i i)] [1,0] [b1,b2] (ic [] (Sd n s i mm) ?_)
 rintro _ _ ⟨wr1,rfl,rfl⟩
 refine ir 2 [(10,.b wr1)] (ie ?_)
 exact Zc (r1 [] ⟨wr1,rfl,rfl⟩)
theorem RS (n:Zy) (us:List Int) (s:Z4) (os:List Int) (ls:List Int) (mm:Nat) (hn:Xe n:=by exact ob) (hf:FS n.decls n.routines.length mm s:=by exact ob) (hvl:us.length=mm:=by exact ob) (hm:mm<=100000000:=by exact ob) (ho:os.length<=100000000:=by exact ob) (hl:ls.length<=100000000:=by exact ob):Zj Tryz.prog 256 [ZE n,Z0 us,Y4 s,Z0 os,Z0 ls] [] (fun r h=>∃(zs:List Int),r=Z0 zs/\h=[]/\zs.length<=s.args.length/\∀z∈zs,z∈s.args):=by
 have hal:=hf.alen
 refine ZK 43 Tryz.func256 (ar (iA (ZU n) ?_))
 intro b1
 refine iA (Yg s) ?_
 intro b2
 refine ir 1 [(1,Z0 us),(3,Z0 os),(4,Z0 ls),(5,.p b1 0),(7,.p b2 0)] (ie (ar (iL (Z8 []) 0 1 ?_)))
 intro v1
 refine Z1 1 11 (Z6 [] v1) (ie (aq (ar (Z1 1 12 (.i 0) (ie (ab 0 (al (fun m F h=>∃(k:Nat) (zs:List Int) (u:Value),(k<=s.args.length)/\(zs.length<=k)/\(∀z∈zs,z∈s.args)/\F=[(1,Z0 us),(3,Z0 os),(4,Z0 ls),(5,.p b1 0),(7,.p b2 0),(11,Z6 zs u),(12,.i k)]/\h=[.obj b2 (Yg s),.obj b1 (ZU n),.tail u 1]/\m=s.args.length-k) _ _ _ ⟨0,[],v1,ob,ob,(fun z hz=>by cases hz),rfl,rfl,rfl⟩ (wk [1,1,0] (fq (fw (Ye fl)))) ?_)))))))
 rintro m F h ⟨k,zs,u,Ym,Zp,Zz,rfl,rfl,rfl⟩
 refine aq (ar (Y1 3 14 (.i k) 16 (Z0 s.args) [0] [b2] (iw (Yd s.args) (Z1 1 18 (.b (decide ((k:Int)<(s.args.length:Int)))) (ie (ZM ((k:Int)<(s.args.length:Int)) (fun Ze=>?_) (fun Ze=>?_)))))))
 ·obtain ⟨a1,ha1⟩:=Zs (xs:=s.args) (j:=k) om
  have har:=hf.args a1 (Y7 ha1)
  refine ak (aq (ab 1 (ar (Y2 4 (.n 21 (ZE n) (.n 22 (Z0 us) (.n 23 (Y4 s) (.n 24 (.i k) .r)))) [1,0] [b1,b2] (ZA [] (Ep n us s k a1 (hnum:=hf.call) (ha:=ha1)) (Z1 1 26 (.b (UN n us s.op s.num a1 k)) (ib (b:=UN n us s.op s.num a1 k) 26 (fun Za=>?_) (fun Za=>?_))))))))
  ·have ZP:UN n us s.op s.num a1 k=true:=(Iff.rfl).1 Za
   refine Y2 5 (.n 27 (ZE n) (.n 28 (Y4 s) (.n 29 (.i k) (.n 30 (Z0 os) (.n 31 (Z0 ls) (.k (.d .r))))))) [1,0] [b1,b2] (ic [] (IU n s k mm os ls) ?_)
   rintro _ _ ⟨wr1,rfl,rfl⟩
   refine Z1 1 33 (.b wr1) (ie (ac wr1 Iff.rfl (fun Zk=>?_) (fun Zk=>?_)))
   ·refine az (Y2 4 (.n 34 (Z6 zs u) (.n 36 (Z0 s.args) (.n 37 (.i k) .r))) [0] [b2] (Zq (Zo none (k:Int) 1 (Y3 ha1)) (Z1 1 39 (.i a1) (iL (Z8 [a1]) 1 1 ?_))))
    intro v2
    refine Z5 0 (.n 40 (Z0 [a1]) (.p .r)) (ip 3 (Z8 (zs++[a1])) (Z8 zs) (Z8 [a1]) u none 1 (YD _) (YD _) (XY _) (by simp<;>omega) (by simp [XX,Z8]) ?_)
    intro v3
    refine ir 1 [(1,Z0 us),(3,Z0 os),(4,Z0 ls),(5,.p b1 0),(7,.p b2 0),(11,Z6 (zs++[a1]) v3),(12,.i k)] (ie (az (Z1 1 19 (.i k) (ZO k (Z5 1 (.n 12 (.i (k+1:Nat)) (.p (.d (.w (.k (.k .z)))))) (ie ?_))))))
    exact ZQ ⟨k+1,(zs++[a1]),v3,ob,ob,(by first|exact Zz|exact Xq Zz (Y7 ha1)),rfl,rfl,rfl⟩ (wk [2,2,0] (fq (fw (ZW k fl))))
   refine ak (az (Z1 1 19 (.i k) (ZO k (ir 1 [(1,Z0 us),(3,Z0 os),(4,Z0 ls),(5,.p b1 0),(7,.p b2 0),(11,Z6 zs u),(12,.i (k+1:Nat))] (ie ?_)))))
   exact ZQ ⟨k+1,zs,u,ob,ob,(by first|exact Zz|exact Xq Zz (Y7 ha1)),rfl,rfl,rfl⟩ (ZL 3 (fq (fw (ZW k fl))))
  have Y0:¬(UN n us s.op s.num a1 k=true):=ZG Iff.rfl Za
  refine Z5 7 (.n 33 (.b false) (.k (.d .r))) (ie (WS (ak (az (Z1 1 19 (.i k) (ZO k (ir 1 [(1,Z0 us),(3,Z0 os),(4,Z0 ls),(5,.p b1 0),(7,.p b2 0),(11,Z6 zs u),(12,.i (k+1:Nat))] (ie ?_))))))))
  exact ZQ ⟨k+1,zs,u,ob,ob,(by first|exact Zz|exact Xq Zz (Y7 ha1)),rfl,rfl,rfl⟩ (ZL 3 (fq (fw (ZW k fl))))
 refine ax 0 (ar (ir 2 [(10,Z6 zs u)] (ie ?_)))
 exact Zc (r2 [] [Z6 zs u] ⟨zs,rfl,rfl,⟨by omega,Zz⟩⟩ (Zg.forget _ _))
theorem S6 (n:Zy) (us:List Int) (s:Z4) (os:List Int) (ls:List Int) (mm:Nat) (hn:Xe n:=by exact ob) (hf:FS n.decls n.routines.length mm s:=by exact ob) (hvl:us.length=mm:=by exact ob) (hm:mm<=100000000:=by exact ob) (ho:os.length<=100000000:=by exact ob) (hl:ls.length<=100000000:=by exact ob):Zj Tryz.prog 258 [ZE n,Z0 us,Y4 s,Z0 os,Z0 ls] [] (fun r h=>∃(zs:List Int) (v:Value),r=Z6 zs v/\h=[.tail v 1]/\zs.length<=os.length/\∀z∈zs,z∈os):=by
 have hal:=hf.alen
 refine ZK 55 Tryz.func258 (ar (iA (ZU n) ?_))
 intro b1
 refine iA (Yg s) ?_
 intro b2
 refine ir 1 [(1,Z0 us),(3,Z0 os),(4,Z0 ls),(5,.p b1 0),(7,.p b2 0)] (ie (aq (ar (Yk 4 16 (.b (s.op==7)) [0] [b2] (ib (b:=(s.op==7)) 16 (fun Za=>?_) (fun Za=>?_))))))
 ·have ZP:s.op=7:=(Zh).1 Za
  refine Z5 4 (.n 20 (.b true) (.d (.d .r))) (ie (WL (ar (ir 2 [(21,Z0 os),(22,Z0 ls)] (ic [] (IN os ls) ?_)))))
  rintro _ _ ⟨zs1,v1,rfl,rfl,Y0⟩
  have hco:=Y0
  refine ir 1 [(10,Z6 zs1 v1)] (ie ?_)
  exact Zc (r1 [0] ⟨zs1,v1,rfl,rfl,(by first|exact hco|exact ⟨by omega,Zz⟩)⟩)
 have YB:¬(s.op=7):=ZG Zh Za
 refine Y2 4 (.n 20 (.b (s.op==8)) (.d (.d .r))) [0] [b2] (ie (ac (s.op==8) Zh (fun Ze=>?_) (fun Ze=>?_)))
 ·refine ar (ir 2 [(21,Z0 os),(22,Z0 ls)] (ic [] (IN os ls) ?_))
  rintro _ _ ⟨zs2,v2,rfl,rfl,YN⟩
  have hco:=YN
  refine ir 1 [(10,Z6 zs2 v2)] (ie ?_)
  exact Zc (r1 [0] ⟨zs2,v2,rfl,rfl,(by first|exact hco|exact ⟨by omega,Zz⟩)⟩)
 refine ak (ar (Z1 1 24 (Z0 os) (ic [] (VJ os) ?_)))
 rintro _ _ ⟨v3,rfl,rfl⟩
 refine Z1 1 11 (Z6 os v3) (ie (aq (ar (Z1 1 12 (.i 0) (ie (ab 0 (al (fun m F h=>∃(k:Nat) (zs:List Int) (u:Value),(k<=s.args.length)/\(zs.length<=os.length)/\(∀z∈zs,z∈os)/\F=[(1,Z0 us),(3,Z0 os),(4,Z0 ls),(5,.p b1 0),(7,.p b2 0),(11,Z6 zs u),(12,.i k)]/\h=[.obj b2 (Yg s),.obj b1 (ZU n),.tail u 1]/\m=s.args.length-k) _ _ _ ⟨0,os,v3,ob,ob,(fun z hz=>hz),rfl,rfl,rfl⟩ (wk [1,1,0] (fq (fw (Ye fl)))) ?_)))))))
 rintro m F h ⟨k,zs,u,Ym,Zp,Zz,rfl,rfl,rfl⟩
 refine aq (ar (Y1 3 26 (.i k) 28 (Z0 s.args) [0] [b2] (iw (Yd s.args) (Z1 1 30 (.b (decide ((k:Int)<(s.args.length:Int)))) (ie (ZM ((k:Int)<(s.args.length:Int)) (fun Zk=>?_) (fun Zk=>?_)))))))
 ·obtain ⟨a1,ha1⟩:=Zs (xs:=s.args) (j:=k) om
  have har:=hf.args a1 (Y7 ha1)
  refine ak (aq (ab 1 (ar (Y2 4 (.n 33 (ZE n) (.n 34 (Z0 us) (.n 35 (Y4 s) (.n 36 (.i k) .r)))) [1,0] [b1,b2] (ZA [] (Ep n us s k a1 (hnum:=hf.call) (ha:=ha1)) (Z1 1 38 (.b (UN n us s.op s.num a1 k)) (ib (b:=UN n us s.op s.num a1 k) 38 (fun Zw=>?_) (fun Zw=>?_))))))))
  ·have YX:UN n us s.op s.num a1 k=true:=(Iff.rfl).1 Zw
   refine Y2 5 (.n 39 (ZE n) (.n 40 (Y4 s) (.n 41 (.i k) (.n 42 (Z0 os) (.n 43 (Z0 ls) (.k (.d .r))))))) [1,0] [b1,b2] (ic [] (IU n s k mm os ls) ?_)
   rintro _ _ ⟨wr1,rfl,rfl⟩
   refine Z1 2 46 (.b (!wr1)) (ie (ac (!wr1) (p:=¬(wr1=true)) (Yt Iff.rfl) (fun ZI=>?_) (fun ZI=>?_)))
   ·refine az (Y2 4 (.n 47 (Z6 zs u) (.n 49 (Z0 s.args) (.n 50 (.i k) .r))) [0] [b2] (Zq (Zo none (k:Int) 1 (Y3 ha1)) (Z5 1 (.n 47 (Z0 zs) (.n 52 (.i a1) (.q 51 (.d .r)))) (ic [] (L5 zs a1) ?_))))
    rintro _ _ ⟨v4,rfl,rfl⟩
    refine ir 1 [(1,Z0 us),(3,Z0 os),(4,Z0 ls),(5,.p b1 0),(7,.p b2 0),(11,Z6 (UI zs a1) v4),(12,.i k)] (ie (az (Z1 1 31 (.i k) (ZO k (Z5 1 (.n 12 (.i (k+1:Nat)) (.p (.d (.w (.k (.k .z)))))) (ie ?_))))))
    exact ZQ ⟨k+1,(UI zs a1),v4,ob,(by first|exact Zp|exact Vf (Cz _ _) Zp),(by first|exact Zz|exact (fun z hz=>Zz z (BC hz))),rfl,rfl,rfl⟩ (wk [1,1,0] (fq (fw (ZW k fl))))
   refine ak (az (Z1 1 31 (.i k) (ZO k (ir 1 [(1,Z0 us),(3,Z0 os),(4,Z0 ls),(5,.p b1 0),(7,.p b2 0),(11,Z6 zs u),(12,.i (k+1:Nat))] (ie ?_)))))
   exact ZQ ⟨k+1,zs,u,ob,(by first|exact Zp|exact Vf (Cz _ _) Zp),(by first|exact Zz|exact (fun z hz=>Zz z (BC hz))),rfl,rfl,rfl⟩ (ZL 3 (fq (fw (ZW k fl))))
  have Xy:¬(UN n us s.op s.num a1 k=true):=ZG Iff.rfl Zw
  refine Z5 8 (.n 46 (.b false) (.k (.d .r))) (ie (WS (ak (az (Z1 1 31 (.i k) (ZO k (ir 1 [(1,Z0 us),(3,Z0 os),(4,Z0 ls),(5,.p b1 0),(7,.p b2 0),(11,Z6 zs u),(12,.i (k+1:Nat))] (ie ?_))))))))
  exact ZQ ⟨k+1,zs,u,ob,(by first|exact Zp|exact Vf (Cz _ _) Zp),(by first|exact Zz|exact (fun z hz=>Zz z (BC hz))),rfl,rfl,rfl⟩ (ZL 3 (fq (fw (ZW k fl))))
 refine ax 0 (ar (ir 2 [(10,Z6 zs u)] (ie ?_)))
 exact Zc (r1 [2] ⟨zs,u,rfl,rfl,(by first|exact hco|exact ⟨by omega,Zz⟩)⟩)
theorem S7 (n:Zy) (s:Z4) (os:List Int) (ls:List Int) (mm:Nat) (hn:Xe n:=by exact ob) (hf:FS n.decls n.routines.length mm s:=by exact ob) (ho:os.length<=100000000:=by exact ob) (hl:ls.length<=100000000:=by exact ob):Zj Tryz.prog 259 [ZE n,Y4 s,Z0 os,Z0 ls] [] (fun r h=>∃(zs:List Int),r=Z0 zs/\h=[]/\zs.length<=s.args.length/\∀z∈zs,z∈s.args):=by
 have hal:=hf.alen
 refine ZK 50 Tryz.func259 (ar (iA (ZU n) ?_))
 intro b1
 refine iA (Yg s) ?_
 intro b2
 refine ir 1 [(2,Z0 os),(3,Z0 ls),(4,.p b1 0),(5,.p b2 0)] (ie (ar (iL (Z8 []) 0 1 ?_)))
 intro v1
 refine Z1 1 9 (Z6 [] v1) (ie (aq (ar (Z1 1 10 (.i 0) (ie (ab 0 (al (fun m F h=>∃(k:Nat) (zs:List Int) (u:Value),(k<=s.args.length)/\(zs.length<=k)/\(∀z∈zs,z∈s.args)/\F=[(2,Z0 os),(3,Z0 ls),(4,.p b1 0),(5,.p b2 0),(9,Z6 zs u),(10,.i k)]/\h=[.obj b2 (Yg s),.obj b1 (ZU n),.tail u 1]/\m=s.args.length-k) _ _ _ ⟨0,[],v1,ob,ob,(fun z hz=>by cases hz),rfl,rfl,rfl⟩ (wk [1,1,0] (fq (fr (Ye fl)))) ?_)))))))
 rintro m F h ⟨k,zs,u,Ym,Zp,Zz,rfl,rfl,rfl⟩
 refine aq (ar (Y1 3 12 (.i k) 14 (Z0 s.args) [0] [b2] (iw (Yd s.args) (Z1 1 16 (.b (decide ((k:Int)<(s.args.length:Int)))) (ie (ZM ((k:Int)<(s.args.length:Int)) (fun Ze=>?_) (fun Ze=>?_)))))))
 ·obtain ⟨a1,ha1⟩:=Zs (xs:=s.args) (j:=k) om
  have har:=hf.args a1 (Y7 ha1)
  refine ak (aq (ab 1 (ar (Y2 3 (.n 19 (ZE n) (.n 20 (Y4 s) (.n 21 (.i k) .r))) [1,0] [b1,b2] (ZA [] (CK n s k (hnum:=hf.call)) (XP 13 [(2,Z0 os),(3,Z0 ls),(4,.p b1 0),(5,.p b2 0),(9,Z6 zs u),(10,.i k),(31,.b (WK n s.op s.num k&&(decide (a1∈os))))] [.obj b2 (Yg s),.obj b1 (ZU n),.tail u 1] ?_ (fun hj1=>?_)))))))
  ·refine Xp [(2,Z0 os),(3,Z0 ls),(4,.p b1 0),(5,.p b2 0),(9,Z6 zs u),(10,.i k),(41,.b ((WK n s.op s.num k&&(decide (a1∈os)))&&(!(decide (a1∈ls)))))] [.obj b2 (Yg s),.obj b1 (ZU n),.tail u 1] ?_ ?_
   ·refine ir 1 [(2,Z0 os),(3,Z0 ls),(4,.p b1 0),(5,.p b2 0),(9,Z6 zs u),(10,.i k),(32,.b (WK n s.op s.num k&&(decide (a1∈os))))] (ib (b:=(WK n s.op s.num k&&(decide (a1∈os)))) 32 (fun Za=>?_) (fun Za=>?_))
    ·have ZP:(WK n s.op s.num k=true)/\(a1∈os):=((YE Iff.rfl dq)).1 Za
     refine Y2 4 (.n 33 (Z0 ls) (.n 35 (Z0 s.args) (.n 36 (.i k) (.w (.k (.k (.k .z))))))) [0] [b2] (Zq (Zo none (k:Int) 1 (Y3 ha1)) (Z1 1 38 (.i a1) (ZA [] (U0 ls a1) (Z1 2 41 (.b (!(decide (a1∈ls)))) (ie ?_)))))
     exact ZL 3 (fq (fw (Zr (!(decide (a1∈ls))) Za fl)))
    have Y0:¬((WK n s.op s.num k=true)/\(a1∈os)):=ZG (YE Iff.rfl dq) Za
    refine Z5 9 (.n 41 (.b false) (.d (.w (.k (.k .z))))) (ie ?_)
    exact ZL 3 (fq (fw (Zr false Za fl)))
   refine ac ((WK n s.op s.num k&&(decide (a1∈os)))&&(!(decide (a1∈ls)))) (p:=((WK n s.op s.num k=true)/\(a1∈os))/\(¬(a1∈ls))) (YE (YE Iff.rfl dq) (Yt dq)) (fun Zk=>?_) (fun Zk=>?_)
   ·refine az (iR 4 [(2,Z0 os),(3,Z0 ls),(4,.p b1 0),(5,.p b2 0),(10,.i k),(42,Z6 zs u),(44,Z0 s.args),(45,.i k)] [0] [b2] (Zq (Zo none (k:Int) 1 (Y3 ha1)) (Z5 1 (.n 42 (Z0 zs) (.n 47 (.i a1) (.p (.w (.k .z))))) (ic [] (Ca zs a1) ?_))))
    rintro _ _ ⟨v2,rfl,rfl⟩
    refine Z1 1 9 (Z6 (V3 zs a1) v2) (ie (az (Z1 1 17 (.i k) (ZO k (Z5 1 (.n 10 (.i (k+1:Nat)) (.p (.d (.k (.p (.d (.d (.w .z)))))))) (ie ?_))))))
    exact ZQ ⟨k+1,(V3 zs a1),v2,ob,(by first|omega|(have:=Bs zs a1;omega)),(by first|exact Zz|exact (fun z hz=>(Ci.1 hz).elim (Zz z) (fun e=>e▸Y7 ha1))),rfl,rfl,rfl⟩ (wk [1,1,0] (fq (fr (ZW k fl))))
   refine ak (az (ir 1 [(2,Z0 os),(3,Z0 ls),(4,.p b1 0),(5,.p b2 0),(9,Z6 zs u),(17,.i k)] (ZO k (Z1 1 10 (.i (k+1:Nat)) (ie ?_)))))
   exact ZQ ⟨k+1,zs,u,ob,(by first|omega|(have:=Bs zs a1;omega)),(by first|exact Zz|exact (fun z hz=>(Ci.1 hz).elim (Zz z) (fun e=>e▸Y7 ha1))),rfl,rfl,rfl⟩ (ZL 3 (fq (fr (ZW k fl))))
  refine ir 1 [(2,Z0 os),(3,Z0 ls),(4,.p b1 0),(5,.p b2 0),(9,Z6 zs u),(10,.i k),(23,.b (WK n s.op s.num k))] (ib (b:=WK n s.op s.num k) 23 (fun Zw=>?_) (fun Zw=>?_))
  ·have YB:WK n s.op s.num k=true:=(Iff.rfl).1 Zw
   refine Y2 4 (.n 24 (Z0 os) (.n 26 (Z0 s.args) (.n 27 (.i k) (.w (.k (.k (.k .z))))))) [0] [b2] (Zq (Zo none (k:Int) 1 (Y3 ha1)) (Z1 1 29 (.i a1) (ZA [] (U0 os a1) (Z1 1 31 (.b (decide (a1∈os))) ?_))))
   exact YG (ZL 3 (fq (fw (Zr (decide (a1∈os)) Zw fl)))) hj1
  have YN:¬(WK n s.op s.num k=true):=ZG Iff.rfl Zw
  refine Z5 8 (.n 31 (.b false) (.d (.w (.k (.k .z))))) ?_
  exact YG (ZL 3 (fq (fw (Zr false Zw fl)))) hj1
 refine ax 0 (ar (ir 2 [(8,Z6 zs u)] (ie ?_)))
 exact Zc (r2 [] [Z6 zs u] ⟨zs,rfl,rfl,⟨by omega,Zz⟩⟩ (Zg.forget _ _))
theorem BK (rt:Yf) (b:Z7) (hp:rt.params.length<=4294967296:=by exact ob) (hl:rt.lent.length<=4294967296:=by exact ob):Zj Tryz.prog 114 [WZ rt,Zx b] [] (fun r h=>r=WZ (Yf.mk rt.params rt.lent rt.result b)/\h=[]):=by
 refine ZK 15 Tryz.func114 (ar (iA (VO rt) ?_))
 intro b1
 refine iA (Yn b) ?_
 intro b2
 refine iA [nl,nl,.i 0,nl,.i 0] ?_
 intro b3
 refine ie (aD 11 (W2 4 11 [0,1,3,4,6,7,8] [(4,.p b3 0),(6,Z0 rt.params),(9,Z0 rt.lent),(12,.i rt.result),(13,Zx b)] [2,2,2,1] [b1,b1,b1,b2] (Z9 2 (dc 2 [] [1,2,2] [b2,b1,b1] (VJ rt.params) ?_))))
 rintro _ _ ⟨v1,rfl,rfl⟩
 refine Z9 5 (dc 5 [] [1,2] [b2,b1] (VJ rt.lent) ?_)
 rintro _ _ ⟨v2,rfl,rfl⟩
 refine ZY 1 2 [9] 14 (.agg [Z6 rt.params v1,Z6 rt.lent v2,.i rt.result,Yj b.steps,.i b.result]) (Z9 10 (YK 10 2 [] [] b3 [Z6 rt.params v1,Z6 rt.lent v2,.i rt.result,Yj b.steps,.i b.result] (de ?_)))
 exact Zc (r3 [] [.agg [Z6 rt.params v1,Z6 rt.lent v2,.i rt.result,Yj b.steps,.i b.result]] [0] [(b3,b3)] ⟨rfl,rfl⟩ (Zg.agg (.cons (Zg.sl _ (Yv Z8 ob)) (.cons (Zg.sl _ (Yv Z8 ob)) (.cons li (.cons (Zg.sl _ (Yv Zt ob)) (.cons li .nil)))))))
theorem RM (n:Zy) (us:List Int) (fds:List Int) (kd:Z7) (os:List Int) (ls:List Int) (mm:Nat) (bb:Nat) (hn:Xe n:=by exact ob) (hf:fB n.decls n.routines.length (mm+fds.length) kd:=by exact ob) (hop:WW Wq kd:=by exact ob) (hul:us.length=mm:=by exact ob) (hfl:fds.length<=3:=by exact ob) (hm:mm+3+4*kd.sz<=100000:=by exact ob) (hor:∀v∈os,0<=v/\v<(mm:Int)) (hol:os.length+3+4*kd.sz<=730:=by exact ob) (hal:ls.length+2000*kd.sz<=1000000:=by exact ob) (hbz:kd.sz<=500:=by exact ob) (hb:kd.sz<bb:=by exact ob) (ih:∀(us2:List Int) (b2:Z7) (os2:List Int) (as2:List Int) (m2:Nat),(fB n.decls n.routines.length m2 b2)->(WW Wq b2)->(us2.length=m2)->(m2+4*b2.sz<=100000)->(∀v∈os2,0<=v/\v<(m2:Int))->(os2.length+4*b2.sz<=730)->(as2.length+2000*b2.sz<=1000000)->(b2.sz<=500)->(b2.sz<bb)->Zj Tryz.prog 228 [ZE n,Z0 us2,Zx b2,Z0 os2,Z0 as2] [] (fun r h=>∃(y:Z7),r=Zx y/\h=[]/\KB n.decls n.routines.length m2 y (4500*b2.sz))):Zj Tryz.prog 267 [ZE n,Z0 us,Z0 fds,Zx kd,Z0 os,Z0 ls] [] (fun r h=>∃(y:Z7),r=Zx y/\h=[]/\KB n.decls n.routines.length (mm+fds.length) y (4500*kd.sz+1470)):=by
 refine ZK 115 Tryz.func267 (ar (iA (ZU n) ?_))
 intro b1
 refine iA (Yn kd) ?_
 intro b2
 refine iA [nl,.i 0] ?_
 intro b3
 refine ie (ar (ir 1 [(1,Z0 us),(2,Z0 fds),(4,Z0 os),(5,Z0 ls),(6,.p b1 0),(9,.p b2 0),(12,.p b3 0),(23,Z0 us)] (iw (Yd us) (Z1 1 13 (.i us.length) (ie (ar (Yo 2 25 (Z0 us) 26 (Z0 fds) (ic [] (Q2 us fds) ?_))))))))
 rintro _ _ ⟨v1,rfl,rfl⟩
 refine Z1 1 14 (Z6 (us++fds) v1) (ie (ar (Y1 2 28 (Zx kd) 29 (Z6 (us++fds) v1) [2] [b2] (io (.i (((us++fds).length:Nat):Int)) (.i (((Z8 (us++fds)).length:Nat):Int)) (li (by rw [Yd])) (ZA [] (Np kd (((us++fds).length:Nat):Int)) ?_)))))
 have hub:=Et (n:=(((us++fds).length:Nat):Int)) kd []
 simp only [Xn,WQ] at hub
 refine Z1 1 15 (Z0 (XZ (((us++fds).length:Nat):Int) kd [])) (ie (ar (iL (Z8 []) 0 1 ?_)))
 intro v2
 refine Z1 1 16 (Z6 [] v2) (ie (ar (iL (Z8 []) 0 1 ?_)))
 intro v3
 refine Z1 1 17 (Z6 [] v3) (ie (aq (ar (Z1 1 18 (.i 0) (ie (ab 0 (al (fun m F h=>∃(k:Nat) (ms:List Int) (u:Value) (dr:List Int) (w:Value),(k<=os.length)/\(ms.length<=k)/\(dr.length<=k)/\(∀v∈ms,0<=v/\v<(mm:Int))/\(∀v∈dr,0<=v/\v<(mm:Int))/\F=[(2,Z0 fds),(4,Z0 os),(5,Z0 ls),(6,.p b1 0),(9,.p b2 0),(12,.p b3 0),(13,.i us.length),(14,Z0 (us++fds)),(15,Z0 (XZ (((us++fds).length:Nat):Int) kd [])),(16,Z6 ms u),(17,Z6 dr w),(18,.i k)]/\h=[.obj b3 [nl,.i 0],.obj b2 (Yn kd),.obj b1 (ZU n),.tail u 1,.tail w 1]/\m=os.length-k) _ _ _ ⟨0,[],v2,[],v3,ob,ob,ob,(fun v hv=>by cases hv),(fun v hv=>by cases hv),rfl,rfl,rfl⟩ (wk [3,3,3,1,0] (fq (fw (fr (fc (x:=Z6 (us++fds) v1) (Zg.forget _ _) (fw (fr (Ye fl)))))))) ?_)))))))
 rintro m F h ⟨k,ms,u,dr,w,Ym,Zp,Zz,YJ,Wd,rfl,rfl,rfl⟩
 refine aq (ar (Yo 2 34 (.i k) 35 (Z0 os) (iw (Yd os) (Z1 1 37 (.b (decide ((k:Int)<(os.length:Int)))) (ie (ZM ((k:Int)<(os.length:Int)) (fun Ze=>?_) (fun Ze=>?_)))))))
 ·obtain ⟨o1,ho1⟩:=Zs (xs:=os) (j:=k) om
  have hor1:=hor o1 (Y7 ho1)
  refine ak (aq (ab 1 (ar (Z5 3 (.n 40 (Z0 (XZ (((us++fds).length:Nat):Int) kd [])) (.n 41 (Z0 os) (.n 42 (.i k) .r))) (Zq (Zo none (k:Int) 1 (Y3 ho1)) (Z1 1 44 (.i o1) (ZA [] (U0 (XZ (((us++fds).length:Nat):Int) kd []) o1) (Xp [(2,Z0 fds),(4,Z0 os),(5,Z0 ls),(6,.p b1 0),(9,.p b2 0),(12,.p b3 0),(13,.i us.length),(14,Z0 (us++fds)),(15,Z0 (XZ (((us++fds).length:Nat):Int) kd [])),(16,Z6 ms u),(17,Z6 dr w),(18,.i k),(53,.b ((decide (o1∈(XZ (((us++fds).length:Nat):Int) kd [])))||(decide (o1∈ls))))] [.obj b3 [nl,.i 0],.obj b2 (Yn kd),.obj b1 (ZU n),.tail u 1,.tail w 1] ?_ ?_))))))))
  ·refine ir 1 [(2,Z0 fds),(4,Z0 os),(5,Z0 ls),(6,.p b1 0),(9,.p b2 0),(12,.p b3 0),(13,.i us.length),(14,Z0 (us++fds)),(15,Z0 (XZ (((us++fds).length:Nat):Int) kd [])),(16,Z6 ms u),(17,Z6 dr w),(18,.i k),(46,.b (decide (o1∈(XZ (((us++fds).length:Nat):Int) kd []))))] (ib (b:=(decide (o1∈(XZ (((us++fds).length:Nat):Int) kd [])))) 46 (fun Za=>?_) (fun Za=>?_))
   ·have ZP:o1∈(XZ (((us++fds).length:Nat):Int) kd []):=(dq).1 Za
    refine Z5 7 (.n 53 (.b true) (.d (.w (.w (.w .z))))) (ie ?_)
    exact ZL 5 (fq (fq (fq (Zr true Za fl))))
   have Y0:¬(o1∈(XZ (((us++fds).length:Nat):Int) kd [])):=ZG dq Za
   refine Z5 3 (.n 47 (Z0 ls) (.n 48 (Z0 os) (.n 49 (.i k) (.w (.w (.w (.k .z))))))) (Zq (Zo none (k:Int) 1 (Y3 ho1)) (Z1 1 51 (.i o1) (ZA [] (U0 ls o1) (Z1 1 53 (.b (decide (o1∈ls))) (ie ?_)))))
   exact ZL 5 (fq (fq (fq (Zr (decide (o1∈ls)) Za fl))))
  refine ac ((decide (o1∈(XZ (((us++fds).length:Nat):Int) kd [])))||(decide (o1∈ls))) (p:=(o1∈(XZ (((us++fds).length:Nat):Int) kd []))∨(o1∈ls)) (Yh dq dq) (fun Zk=>?_) (fun Zk=>?_)
  ·refine az (ir 3 [(2,Z0 fds),(4,Z0 os),(5,Z0 ls),(6,.p b1 0),(9,.p b2 0),(12,.p b3 0),(13,.i us.length),(14,Z0 (us++fds)),(15,Z0 (XZ (((us++fds).length:Nat):Int) kd [])),(17,Z6 dr w),(18,.i k),(54,Z6 ms u),(55,Z0 os),(56,.i k)] (Zq (Zo none (k:Int) 1 (Y3 ho1)) (Z1 1 58 (.i o1) (iL (Z8 [o1]) 1 1 ?_))))
   intro v4
   refine Z5 0 (.n 59 (Z0 [o1]) (.p .r)) (ip 4 (Z8 (ms++[o1])) (Z8 ms) (Z8 [o1]) u none 1 (YD _) (YD _) (XY _) (by simp<;>omega) (by simp [XX,Z8]) ?_)
   intro v5
   refine Z1 1 16 (Z6 (ms++[o1]) v5) (ie (az (Z1 1 38 (.i k) (ZO k (Z5 1 (.n 18 (.i (k+1:Nat)) (.p (.d (.k (.p (.d (.d (.p (.w (.w (.k (.k .z)))))))))))) (ie ?_))))))
   exact ZQ ⟨k+1,(ms++[o1]),v5,dr,w,ob,ob,ob,(by first|exact YJ|exact Xq YJ hor1),(by first|exact Wd|exact Xq Wd hor1),rfl,rfl,rfl⟩ (wk [2,2,2,0,1] (fq (fq (fw (fr (ZW k fl))))))
  refine az (ir 3 [(2,Z0 fds),(4,Z0 os),(5,Z0 ls),(6,.p b1 0),(9,.p b2 0),(12,.p b3 0),(13,.i us.length),(14,Z0 (us++fds)),(15,Z0 (XZ (((us++fds).length:Nat):Int) kd [])),(16,Z6 ms u),(18,.i k),(61,Z6 dr w),(62,Z0 os),(63,.i k)] (Zq (Zo none (k:Int) 1 (Y3 ho1)) (Z1 1 65 (.i o1) (iL (Z8 [o1]) 1 1 ?_))))
  intro v6
  refine Z5 0 (.n 66 (Z0 [o1]) (.p .r)) (ip 5 (Z8 (dr++[o1])) (Z8 dr) (Z8 [o1]) w none 1 (YD _) (YD _) (XY _) (by simp<;>omega) (by simp [XX,Z8]) ?_)
  intro v7
  refine Z1 1 17 (Z6 (dr++[o1]) v7) (ie (az (Z1 1 38 (.i k) (ZO k (Z5 1 (.n 18 (.i (k+1:Nat)) (.p (.d (.k (.p (.d (.d (.p (.w (.w (.k (.k .z)))))))))))) (ie ?_))))))
  exact ZQ ⟨k+1,ms,u,(dr++[o1]),v7,ob,ob,ob,(by first|exact YJ|exact Xq YJ hor1),(by first|exact Wd|exact Xq Wd hor1),rfl,rfl,rfl⟩ (wk [2,2,2,2,0] (fq (fq (fw (fr (ZW k fl))))))
 refine ax 0 (ar (iL (Z8 []) 0 1 ?_))
 intro v8
 refine Z1 1 19 (Z6 [] v8) (ie (aq (ar (Z1 1 20 (.i 0) (ie (ab 2 (al (fun m F h=>∃(k:Nat) (ps:List Int) (w2:Value),(k<=fds.length)/\(ps.length<=k)/\(∀v∈ps,(mm:Int)<=v/\v<((mm+fds.length:Nat):Int))/\F=[(2,Z0 fds),(5,Z0 ls),(6,.p b1 0),(9,.p b2 0),(12,.p b3 0),(13,.i us.length),(14,Z0 (us++fds)),(15,Z0 (XZ (((us++fds).length:Nat):Int) kd [])),(16,Z6 ms u),(17,Z6 dr w),(19,Z6 ps w2),(20,.i k)]/\h=[.obj b3 [nl,.i 0],.obj b2 (Yn kd),.obj b1 (ZU n),.tail u 1,.tail w 1,.tail w2 1]/\m=fds.length-k) _ _ _ ⟨0,[],v8,ob,ob,(fun v hv=>by cases hv),rfl,rfl,rfl⟩ (wk [1,1,1,1,1,0] (fq (fq (fw (fr (Ye fl)))))) ?_)))))))
 rintro m F h ⟨k,ps,w2,Uj,We,XJ,rfl,rfl,rfl⟩
 refine aq (ar (Yo 2 69 (.i k) 70 (Z0 fds) (iw (Yd fds) (Z1 1 72 (.b (decide ((k:Int)<(fds.length:Int)))) (ie (ZM ((k:Int)<(fds.length:Int)) (fun ZI=>?_) (fun ZI=>?_)))))))
 ·refine ak (aq (ab 3 (ar (Yo 2 75 (Z0 fds) 76 (.i k) ?_))))
  obtain ⟨x1,Z3⟩:=Zs (xs:=fds) (j:=k) om
  refine Zq (Zo none (k:Int) 1 (Y3 Z3)) (Xp [(2,Z0 fds),(5,Z0 ls),(6,.p b1 0),(9,.p b2 0),(12,.p b3 0),(13,.i us.length),(14,Z0 (us++fds)),(15,Z0 (XZ (((us++fds).length:Nat):Int) kd [])),(16,Z6 ms u),(17,Z6 dr w),(19,Z6 ps w2),(20,.i k),(86,.b ((x1 != 0)&&(decide (((us.length+k:Nat):Int)∈(XZ (((us++fds).length:Nat):Int) kd [])))))] [.obj b3 [nl,.i 0],.obj b2 (Yn kd),.obj b1 (ZU n),.tail u 1,.tail w 1,.tail w2 1] ?_ ?_)
  ·refine ir 3 [(2,Z0 fds),(5,Z0 ls),(6,.p b1 0),(9,.p b2 0),(12,.p b3 0),(13,.i us.length),(14,Z0 (us++fds)),(15,Z0 (XZ (((us++fds).length:Nat):Int) kd [])),(16,Z6 ms u),(17,Z6 dr w),(19,Z6 ps w2),(20,.i k),(80,.b (x1 != 0))] (ib (b:=(x1 != 0)) 80 (fun Zw=>?_) (fun Zw=>?_))
   ·have YB:x1≠0:=(Yc).1 Zw
    refine Z5 3 (.n 81 (Z0 (XZ (((us++fds).length:Nat):Int) kd [])) (.n 82 (.i us.length) (.n 83 (.i k) (.w (.w (.w (.k .z))))))) (ia (((us.length+k:Nat):Int)) (((us.length:Int))+((k:Int))) (ZA [] (U0 (XZ (((us++fds).length:Nat):Int) kd []) ((us.length+k:Nat):Int)) (Z1 1 86 (.b (decide (((us.length+k:Nat):Int)∈(XZ (((us++fds).length:Nat):Int) kd [])))) (ie ?_))))
    exact ZL 6 (fq (fq (fq (Zr (decide (((us.length+k:Nat):Int)∈(XZ (((us++fds).length:Nat):Int) kd []))) Zw fl))))
   have YN:¬(x1≠0):=ZG Yc Zw
   refine Z5 6 (.n 86 (.b false) (.d (.w (.w (.w .z))))) (ie ?_)
   exact ZL 6 (fq (fq (fq (Zr false Zw fl))))
  refine ac ((x1 != 0)&&(decide (((us.length+k:Nat):Int)∈(XZ (((us++fds).length:Nat):Int) kd [])))) (p:=(x1≠0)/\(((us.length+k:Nat):Int)∈(XZ (((us++fds).length:Nat):Int) kd []))) (YE Yc dq) (fun Yi=>?_) (fun Yi=>?_)
  ·refine az (ir 3 [(2,Z0 fds),(5,Z0 ls),(6,.p b1 0),(9,.p b2 0),(12,.p b3 0),(13,.i us.length),(14,Z0 (us++fds)),(15,Z0 (XZ (((us++fds).length:Nat):Int) kd [])),(16,Z6 ms u),(17,Z6 dr w),(20,.i k),(87,Z6 ps w2),(88,.i us.length),(89,.i k)] (ia (((us.length+k:Nat):Int)) (((us.length:Int))+((k:Int))) (iL (Z8 [((us.length+k:Nat):Int)]) 1 1 ?_)))
   intro v9
   refine Z5 0 (.n 91 (Z0 [((us.length+k:Nat):Int)]) (.p .r)) (ip 6 (Z8 (ps++[((us.length+k:Nat):Int)])) (Z8 ps) (Z8 [((us.length+k:Nat):Int)]) w2 none 1 (YD _) (YD _) (XY _) (by simp<;>omega) (by simp [XX,Z8]) ?_)
   intro v10
   refine Z1 1 19 (Z6 (ps++[((us.length+k:Nat):Int)]) v10) (ie (az (Z1 1 73 (.i k) (ZO k (Z5 1 (.n 20 (.i (k+1:Nat)) (.p (.d (.k (.p (.d (.p (.w (.w (.k (.k .z))))))))))) (ie ?_))))))
   exact ZQ ⟨k+1,(ps++[((us.length+k:Nat):Int)]),v10,ob,ob,(by first|exact XJ|exact Xq XJ om),rfl,rfl,rfl⟩ (wk [2,2,2,2,2,0] (fq (fq (fw (fr (ZW k fl))))))
  refine ak (az (ir 1 [(2,Z0 fds),(5,Z0 ls),(6,.p b1 0),(9,.p b2 0),(12,.p b3 0),(13,.i us.length),(14,Z0 (us++fds)),(15,Z0 (XZ (((us++fds).length:Nat):Int) kd [])),(16,Z6 ms u),(17,Z6 dr w),(19,Z6 ps w2),(73,.i k)] (ZO k (Z1 1 20 (.i (k+1:Nat)) (ie ?_)))))
  exact ZQ ⟨k+1,ps,w2,ob,ob,(by first|exact XJ|exact Xq XJ om),rfl,rfl,rfl⟩ (ZL 6 (fq (fq (fw (fr (ZW k fl))))))
 refine ax 2 (ar (Z1 1 93 (Z0 ps) (ic [] (Qi 14 ps) ?_)))
 rintro _ _ ⟨v11,rfl,rfl⟩
 refine Z1 1 95 (Z0 dr) (ic [] (Qi 15 dr) ?_)
 rintro _ _ ⟨v12,rfl,rfl⟩
 refine Z5 0 (.n 96 (Yj (dr.map (Zi 15))) (.p .r)) (ip 1 (Zt ((ps.map (Zi 14))++(dr.map (Zi 15)))) (Zt (ps.map (Zi 14))) (Zt (dr.map (Zi 15))) v11 none 5 (X8 _) (X8 _) (Vs _) (by simp<;>omega) (by simp [Wx,Zt]) ?_)
 intro v13
 refine Z1 1 21 (ZX ((ps.map (Zi 14))++(dr.map (Zi 15))) v13) (ie (aD 12 (Y6 5 12 [0,1,2,3,4,6,7] (.n 98 (ZE n) (.n 99 (Z0 (us++fds)) (.n 100 (Zx kd) (.n 101 (Z6 ms u) (.n 102 (Z6 ps w2) (.n 104 (Z0 ls) (.n 105 (.i us.length) .r))))))) [4,3] [b1,b2] (dK (fun F h=>∃(y1:Z7) (b4:Nat) (zs1:List Int),(zs1.length<=ls.length/\∀z∈zs1,z∈ls)/\(KB n.decls n.routines.length (mm+fds.length) y1 (4500*kd.sz))/\F=[(12,.p b3 0),(21,ZX ((ps.map (Zi 14))++(dr.map (Zi 15))) v13),(22,.p b4 0)]/\h=[.obj b4 (Yn y1),.tail v13 5,.tail v12 5,.obj b3 [nl,.i 0],.obj b2 (Yn kd),.obj b1 (ZU n),.tail w 1,.tail w2 1]) ?_ ?_))))
 ·refine Vh 5 10 ?_ ?_
  ·refine dp 5 5 [1,2] [b2,b1] (Z8 (ms++ps)) (Z8 ms) (Z8 ps) u (some w2) 1 (YD _) (YD _) (XY _) (by simp<;>omega) (by simp [XX,Z8]) ?_
   intro v14
   refine Vh 8 10 ?_ ?_
   ·refine dc 8 [] [1,2] [b2,b1] (FL ls (us.length:Int)) ?_
    rintro _ _ ⟨zs1,v15,rfl,rfl,YX⟩
    have hbl:=YX
    refine Xa 3 3 [] [(12,.p b3 0),(21,ZX ((ps.map (Zi 14))++(dr.map (Zi 15))) v13),(98,ZE n),(99,Z0 (us++fds)),(100,Zx kd),(103,Z0 (ms++ps)),(106,Z0 zs1)] (Vh 9 10 ?_ ?_)
    ·refine dc 9 [] [] [] (ih (us++fds) kd (ms++ps) zs1 (mm+fds.length) hf hop (by rw [Yx,hul]) ob (fun v hv=>by rcases Xr.1 hv with h|h;exact (by have:=YJ v h;omega);exact (by have:=XJ v h;omega)) (by rw [Yx];omega) ob ob ob) ?_
     rintro _ _ ⟨y1,rfl,rfl,Xy⟩
     have hkb:=Xy
     have hkl:=hkb.len
     refine Z9 10 (dA 10 [] [] [nl,.i 0] ?_)
     intro b4
     refine Z9 11 (YK 11 0 [] [] b4 (Yn y1) (de ?_))
     exact ZV ⟨_,b4,_,(by assumption),(by assumption),rfl,rfl⟩ (wk [0,2,2,2,2,2,2,2] fl)
    refine dA 10 [1,2] [b2,b1] [nl,.i 0] ?_
    intro b5
    refine Z9 9 (dc 9 [] [] [] (ih (us++fds) kd (ms++ps) zs1 (mm+fds.length) hf hop (by rw [Yx,hul]) ob (fun v hv=>by rcases Xr.1 hv with h|h;exact (by have:=YJ v h;omega);exact (by have:=XJ v h;omega)) (by rw [Yx];omega) ob ob ob) ?_)
    rintro _ _ ⟨y2,rfl,rfl,Wh⟩
    have hkb:=Wh
    have hkl:=hkb.len
    refine Z9 11 (YK 11 0 [] [] b5 (Yn y2) (de ?_))
    exact ZV ⟨_,b5,_,(by assumption),(by assumption),rfl,rfl⟩ (wk [0,2,2,2,2,2,2,2] fl)
   refine dA 10 [1,2] [b2,b1] [nl,.i 0] ?_
   intro b6
   refine Z9 8 (dc 8 [] [2,3] [b2,b1] (FL ls (us.length:Int)) ?_)
   rintro _ _ ⟨zs2,v16,rfl,rfl,WJ⟩
   have hbl:=WJ
   refine Xa 2 2 [] [(12,.p b3 0),(21,ZX ((ps.map (Zi 14))++(dr.map (Zi 15))) v13),(22,.p b6 0),(98,ZE n),(99,Z0 (us++fds)),(100,Zx kd),(103,Z0 (ms++ps)),(106,Z0 zs2)] (Z9 9 (dc 9 [] [] [] (ih (us++fds) kd (ms++ps) zs2 (mm+fds.length) hf hop (by rw [Yx,hul]) ob (fun v hv=>by rcases Xr.1 hv with h|h;exact (by have:=YJ v h;omega);exact (by have:=XJ v h;omega)) (by rw [Yx];omega) ob ob ob) ?_))
   rintro _ _ ⟨y3,rfl,rfl,V2⟩
   have hkb:=V2
   have hkl:=hkb.len
   refine Z9 11 (YK 11 1 [] [] b6 (Yn y3) (de ?_))
   exact ZV ⟨_,b6,_,(by assumption),(by assumption),rfl,rfl⟩ (wk [0,2,2,2,2,2,2,2] fl)
  refine dA 10 [1,2] [b2,b1] [nl,.i 0] ?_
  intro b7
  refine Xa 4 4 [] [(12,.p b3 0),(21,ZX ((ps.map (Zi 14))++(dr.map (Zi 15))) v13),(22,.p b7 0),(98,ZE n),(99,Z0 (us++fds)),(100,Zx kd),(101,Z6 ms u),(102,Z0 ps),(104,Z0 ls),(105,.i us.length)] (Z9 5 (dp 5 6 [2,3] [b2,b1] (Z8 (ms++ps)) (Z8 ms) (Z8 ps) u none 1 (YD _) (YD _) (XY _) (by simp<;>omega) (by simp [XX,Z8]) ?_))
  intro v17
  refine Z9 8 (dc 8 [] [2,3] [b2,b1] (FL ls (us.length:Int)) ?_)
  rintro _ _ ⟨zs3,v18,rfl,rfl,Ua⟩
  have hbl:=Ua
  refine ZZ 2 2 [] (.n 103 (Z0 (ms++ps)) (.n 106 (Z0 zs3) (.p (.p .r)))) (Z9 9 (dc 9 [] [] [] (ih (us++fds) kd (ms++ps) zs3 (mm+fds.length) hf hop (by rw [Yx,hul]) ob (fun v hv=>by rcases Xr.1 hv with h|h;exact (by have:=YJ v h;omega);exact (by have:=XJ v h;omega)) (by rw [Yx];omega) ob ob ob) ?_))
  rintro _ _ ⟨y4,rfl,rfl,UE⟩
  have hkb:=UE
  have hkl:=hkb.len
  refine Z9 11 (YK 11 2 [] [] b7 (Yn y4) (de ?_))
  exact ZV ⟨_,b7,_,(by assumption),(by assumption),rfl,rfl⟩ (wk [0,2,2,2,2,2,2,2] fl)
 rintro F h ⟨y1,b4,zs1,YX,Xy,rfl,rfl⟩
 have hbl:=YX
 have hkb:=Xy
 have hkl:=hkb.len
 refine aD 8 (W2 3 8 [0,1,2,4,5] [(12,.p b3 0),(108,ZX ((ps.map (Zi 14))++(dr.map (Zi 15))) v13),(110,Yj y1.steps),(113,.i y1.result)] [0,0] [b4,b4] (Z9 3 (dp 3 1 [0] [b4] (Zt (((ps.map (Zi 14))++(dr.map (Zi 15)))++y1.steps)) (Zt ((ps.map (Zi 14))++(dr.map (Zi 15)))) (Zt y1.steps) v13 none 5 (X8 _) (X8 _) (Vs _) (by simp<;>omega) (by simp [Wx,Zt]) ?_)))
 intro v19
 refine ZY 1 2 [6] 114 (.agg [ZX (((ps.map (Zi 14))++(dr.map (Zi 15)))++y1.steps) v19,.i y1.result]) (Z9 7 (YK 7 3 [] [] b3 [ZX (((ps.map (Zi 14))++(dr.map (Zi 15)))++y1.steps) v19,.i y1.result] (de ?_)))
 exact Zc (r3 [] [.agg [ZX (((ps.map (Zi 14))++(dr.map (Zi 15)))++y1.steps) v19,.i y1.result]] [0] [(b3,b3)] ⟨(Z7.mk (((ps.map (Zi 14))++(dr.map (Zi 15)))++y1.steps) y1.result),rfl,rfl,((hkb.put (fun v hv=>by have:=XJ v hv;omega) (fun v hv=>by have:=Wd v hv;omega)).le om)⟩ (Zg.agg (.cons (Zg.forget _ _) (.cons (lr _) .nil))))
theorem RO (n:Zy) (us:List Int) (s:Z4) (os:List Int) (ls:List Int) (mm:Nat) (bb:Nat) (hn:Xe n:=by exact ob) (hf:FS n.decls n.routines.length mm s:=by exact ob) (h11:s.op<=11:=by exact ob) (hop:TX Wq s.kids:=by exact ob) (hul:us.length=mm:=by exact ob) (hm:mm+4*s.sz<=100000:=by exact ob) (hor:∀v∈os,0<=v/\v<(mm:Int)) (hol:os.length+4*s.sz<=730:=by exact ob) (hal:ls.length+2000*s.sz<=1000000:=by exact ob) (hbz:s.sz<=500:=by exact ob) (hb:s.sz<=bb:=by exact ob) (ih:∀(us2:List Int) (b2:Z7) (os2:List Int) (as2:List Int) (m2:Nat),(fB n.decls n.routines.length m2 b2)->(WW Wq b2)->(us2.length=m2)->(m2+4*b2.sz<=100000)->(∀v∈os2,0<=v/\v<(m2:Int))->(os2.length+4*b2.sz<=730)->(as2.length+2000*b2.sz<=1000000)->(b2.sz<=500)->(b2.sz<bb)->Zj Tryz.prog 228 [ZE n,Z0 us2,Zx b2,Z0 os2,Z0 as2] [] (fun r h=>∃(y:Z7),r=Zx y/\h=[]/\KB n.decls n.routines.length m2 y (4500*b2.sz))):Zj Tryz.prog 257 [ZE n,Z0 us,Y4 s,Z0 os,Z0 ls] [] (fun r h=>∃(y:Z4),r=Y4 y/\h=[]/\KT n.decls n.routines.length mm y (4500*YY s.kids+4420)):=by
 have Xu:=hn.decls
 have hkf:=hf.few Xu
 have hsa:=hf.alen
 refine ZK 62 Tryz.func257 (ar (iA (ZU n) ?_))
 intro b1
 refine iA (Yg s) ?_
 intro b2
 refine iA [.i 0,.i 0,.i 0,nl,nl] ?_
 intro b3
 refine ie (ar (iL (YH []) 0 2 ?_))
 intro v1
 refine ir 1 [(1,Z0 us),(3,Z0 os),(4,Z0 ls),(5,.p b1 0),(7,.p b2 0),(10,.p b3 0),(11,X4 [] v1)] (ie (ar (Y1 4 17 (Zd n.decls) 19 (.i s.num) [3,2] [b1,b2] (ic [] (KH n.decls s.num) ?_))))
 rintro _ _ ⟨v2,rfl,rfl⟩
 refine Z1 1 12 (Z6 (Zu n.decls s.num) v2) (ie (aq (ar (Z1 1 13 (.i 0) (ie (ab 0 (al (fun m F h=>∃(k:Nat) (ks:List Z7) (u:Value),(k<=s.kids.length)/\(ks.length=k)/\(KK n.decls n.routines.length (Ut n.decls s.op s.num mm) ks (4500*YY (s.kids.take k)+1470*k))/\F=[(1,Z0 us),(3,Z0 os),(4,Z0 ls),(5,.p b1 0),(7,.p b2 0),(10,.p b3 0),(11,X4 ks u),(12,Z0 (Zu n.decls s.num)),(13,.i k)]/\h=[.obj b3 [.i 0,.i 0,.i 0,nl,nl],.obj b2 (Yg s),.obj b1 (ZU n),.tail u 2]/\m=s.kids.length-k) _ _ _ ⟨0,[],v1,ob,ob,(KK.nil.le (QV _)),rfl,rfl,rfl⟩ (wk [2,2,2,1] (fq (fw (fr (fc (x:=Z6 (Zu n.decls s.num) v2) (Zg.forget _ _) (Ye fl)))))) ?_)))))))
 rintro m F h ⟨k,ks,u,Ym,Zp,Zz,rfl,rfl,rfl⟩
 refine aq (ar (Y1 3 21 (.i k) 23 (Yz s.kids) [1] [b2] (iw (VX s.kids) (Z1 1 25 (.b (decide ((k:Int)<(s.kids.length:Int)))) (ie (ZM ((k:Int)<(s.kids.length:Int)) (fun Ze=>?_) (fun Ze=>?_)))))))
 ·refine ak (aq (ab 1 (ar (iL (Z8 []) 0 1 ?_))))
  intro v3
  refine Z1 1 14 (Z6 [] v3) (ie (aq (ar (Yk 3 31 (.b (s.op==8)) [2] [b2] (ie (XI (fun F h=>∃(fds:List Int),(Ut n.decls s.op s.num mm k=mm+fds.length)/\(fds.length<=3)/\F=[(1,Z0 us),(3,Z0 os),(4,Z0 ls),(5,.p b1 0),(7,.p b2 0),(10,.p b3 0),(11,X4 ks u),(12,Z0 (Zu n.decls s.num)),(13,.i k),(14,Z0 fds)]/\h=[.obj b3 [.i 0,.i 0,.i 0,nl,nl],.obj b2 (Yg s),.obj b1 (ZU n),.tail u 2]) ?_ ?_))))))
  ·refine ac (s.op==8) Zh (fun Zk=>?_) (fun Zk=>?_)
   ·refine aE 8 (W2 4 8 [0,1,2,3] [(1,Z0 us),(3,Z0 os),(4,Z0 ls),(5,.p b1 0),(7,.p b2 0),(10,.p b3 0),(11,X4 ks u),(12,Z0 (Zu n.decls s.num)),(13,.i k),(14,Z6 [] v3),(33,Zd n.decls),(34,Z0 (Zu n.decls s.num)),(35,.i k)] [3] [b1] ?_)
    obtain ⟨x1,Z3⟩:=Zs (xs:=Zu n.decls s.num) (j:=k) (by have:=hf.k8 (by assumption);omega)
    have hcf:=VH Xu x1
    refine dx 4 (Zo none (k:Int) 1 (Y3 Z3)) (ZY 2 3 [5] 37 (.i x1) (Z9 6 (Ys 6 [] [] [] (Qh n.decls x1) (ZZ 0 1 [7] (.n 14 (Z0 (ZB n.decls x1)) (.p (.d (.p (.w (.w (.k .z))))))) (de ?_)))))
    exact ZV ⟨ZB n.decls x1,(GO (by assumption) Z3),ob,rfl,rfl⟩ (wk [1,1,1,1] fl)
   refine ak ?_
   exact ZV ⟨[],(by rw [GQ (by assumption)];rfl),ob,rfl,rfl⟩ (wk [1,1,1,1] fl)
  rintro F h ⟨fds,Vv,Jg,rfl,rfl⟩
  refine aE 15 (W2 8 15 [0,1,2,3,4,5,6] [(1,Z0 us),(3,Z0 os),(4,Z0 ls),(5,.p b1 0),(7,.p b2 0),(10,.p b3 0),(11,X4 ks u),(12,Z0 (Zu n.decls s.num)),(13,.i k),(39,X4 ks u),(40,ZE n),(41,Z0 us),(42,Z0 fds),(44,Yz s.kids),(45,.i k)] [2,1] [b1,b2] ?_)
  obtain ⟨x2,Zv⟩:=Zs (xs:=s.kids) (j:=k) om
  have hkz:=T7 Zv
  have hfk:=C5 hf.kids Zv
  rw [WQ,Vv] at hfk
  have hok:=BB.1 hop x2 (Y7 Zv)
  have hbt:=D6 Zv
  have hba:=D7 Zv
  refine dx 7 (Zo none (k:Int) 2 (UA Zv)) (ZZ 4 7 [8,9,10] (.n 47 (Zx x2) (.n 48 (Z0 os) (.n 49 (Z0 ls) .r))) (Z9 11 (dc 11 [] [] [] (RM n us fds x2 os ls mm bb (hf:=hfk) (hop:=hok) (hor:=hor) (ih:=ih)) ?_)))
  rintro _ _ ⟨y1,rfl,rfl,ZP⟩
  have hkb:=ZP
  refine Z9 12 (Wj 12 [] [] [Zx y1] (YH [y1]) (Um [y1]).symm 1 2 ?_)
  intro v4
  refine ZZ 2 2 [] (.n 51 (Yz [y1]) (.p .r)) (Z9 13 (dp 13 4 [] [] (YH (ks++[y1])) (YH ks) (YH [y1]) u none 2 (T0 _) (T0 _) (Df _) (by simp<;>omega) (by simp [J0,YH]) ?_))
  intro v5
  refine ZZ 0 1 [14] (.n 11 (X4 (ks++[y1]) v5) (.q 52 (.k (.q 50 (.k (.k (.k (.q 46 (.w (.k (.k (.d .r)))))))))))) (de (az (Z1 1 26 (.i k) (ZO k (Z5 1 (.n 13 (.i (k+1:Nat)) (.p (.d (.k (.d (.d (.d (.d (.d (.d (.d (.w (.k (.k (.k .z))))))))))))))) (ie ?_))))))
  exact ZQ ⟨k+1,(ks++[y1]),v5,ob,ob,((Zz.snoc Zp (by rw [Vv];exact hkb)).le om),rfl,rfl,rfl⟩ (wk [2,2,2,0] (fq (fq (ZW k fl))))
 refine ax 0 (aD 10 (Y6 3 10 [0,1,2,3,4,5,7] (.n 54 (.i s.op) (.n 56 (.i s.num) (.n 58 (Z0 s.args) (.n 60 (X4 ks u) .r)))) [1,1,1] [b2,b2,b2] (Z9 6 (dc 6 [] [1,1] [b2,b2] (VJ s.args) ?_))))
 rintro _ _ ⟨v6,rfl,rfl⟩
 refine ZY 1 2 [8] 61 (.agg [.i s.op,.i s.num,.i 0,Z6 s.args v6,X4 ks u]) (Z9 9 (YK 9 1 [] [] b3 [.i s.op,.i s.num,.i 0,Z6 s.args v6,X4 ks u] (de ?_)))
 exact Zc (r3 [] [.agg [.i s.op,.i s.num,.i 0,Z6 s.args v6,X4 ks u]] [0] [(b3,b3)] ⟨(Z4.mk s.op s.num 0 s.args ks),rfl,rfl,((KT.of (into:=0) hf h11 om om Zz).le (by have:=F3 (xs:=s.kids) (k:=k) om;omega))⟩ (Zg.agg (.cons (lr _) (.cons (lr _) (.cons (lr _) (.cons (Zg.forget _ _) (.cons (Zg.forget _ _) .nil)))))))
theorem RK (n:Zy) (us:List Int) (b:Z7) (os:List Int) (ls:List Int) (mm:Nat) (hn:Xe n) (hf:fB n.decls n.routines.length mm b) (hop:WW Wq b) (hul:us.length=mm) (hm:mm+4*b.sz<=100000) (hor:∀v∈os,0<=v/\v<(mm:Int)) (hol:os.length+4*b.sz<=730) (hal:ls.length+2000*b.sz<=1000000) (hbz:b.sz<=500) (ih:∀(us2:List Int) (b2:Z7) (os2:List Int) (as2:List Int) (m2:Nat),(fB n.decls n.routines.length m2 b2)->(WW Wq b2)->(us2.length=m2)->(m2+4*b2.sz<=100000)->(∀v∈os2,0<=v/\v<(m2:Int))->(os2.length+4*b2.sz<=730)->(as2.length+2000*b2.sz<=1000000)->(b2.sz<=500)->(b2.sz<b.sz)->Zj Tryz.prog 228 [ZE n,Z0 us2,Zx b2,Z0 os2,Z0 as2] [] (fun r h=>∃(y:Z7),r=Zx y/\h=[]/\KB n.decls n.routines.length m2 y (4500*b2.sz))):Zj Tryz.prog 228 [ZE n,Z0 us,Zx b,Z0 os,Z0 ls] [] (fun r h=>∃(y:Z7),r=Zx y/\h=[]/\KB n.decls n.routines.length mm y (4500*b.sz)):=by
 have Xu:=hn.decls
 have hbe:=b.sz_eq
 have ZD:=Vx b
 obtain ⟨hfs,hr1,hr2⟩:=(C4 b).1 hf
 have hos:=AO.1 ((E1 b).1 hop)
 have hdn:=Fg hos
 have hdl:=hdn b.steps.length (X7 _)
 rw [Vl] at hdl
 refine ZK 149 Tryz.func228 (ar (iA (ZU n) ?_))
 intro b1
 refine iA (Yn b) ?_
 intro b2
 refine iA [nl,.i 0] ?_
 intro b3
 refine ie (ar (iL (Zt []) 0 5 ?_))
 intro v1
 refine ir 1 [(1,Z0 us),(3,Z0 os),(4,Z0 ls),(5,.p b1 0),(7,.p b2 0),(10,.p b3 0),(11,ZX [] v1)] (ie (ar (Z1 1 22 (Z0 us) (ic [] (VJ us) ?_))))
 rintro _ _ ⟨v2,rfl,rfl⟩
 refine Z1 1 12 (Z6 us v2) (ie (ar (Z1 1 24 (Z0 os) (ic [] (VJ os) ?_))))
 rintro _ _ ⟨v3,rfl,rfl⟩
 refine Z1 1 13 (Z6 os v3) (ie (aq (ar (Z1 1 14 (.i 0) (ie (ab 0 (al (fun m F h=>∃(k:Nat) (vs:List Int) (w:Value) (ms:List Int) (u:Value) (xs:List Z4) (v:Value),(k<=b.steps.length)/\(vs.length=mm+k)/\(CL n.decls n.routines.length mm xs k (4500*Yu (b.steps.take k)))/\(ms.length<=os.length+k)/\(∀v∈ms,0<=v/\v<((mm+k:Nat):Int))/\F=[(4,Z0 ls),(5,.p b1 0),(7,.p b2 0),(10,.p b3 0),(11,ZX xs v),(12,Z6 vs w),(13,Z6 ms u),(14,.i k)]/\h=[.obj b3 [nl,.i 0],.obj b2 (Yn b),.obj b1 (ZU n),.tail u 1,.tail v 5,.tail w 1]/\m=b.steps.length-k) _ _ _ ⟨0,us,v2,os,v3,[],v1,ob,ob,CL.nil,ob,hor,rfl,rfl,rfl⟩ (wk [3,3,3,0,1,0] (fq (fw (fr (Ye fl))))) ?_)))))))
 rintro m F h ⟨k,vs,w,ms,u,xs,v,Ym,Zp,Zz,YJ,Wd,rfl,rfl,rfl⟩
 refine aq (ar (Y1 3 26 (.i k) 28 (Yj b.steps) [1] [b2] (iw (VE b.steps) (Z1 1 30 (.b (decide ((k:Int)<(b.steps.length:Int)))) (ie (ZM ((k:Int)<(b.steps.length:Int)) (fun Ze=>?_) (fun Ze=>?_)))))))
 ·refine ak (aq (ab 1 (ar (Y1 3 34 (Yj b.steps) 35 (.i k) [1] [b2] ?_))))
  obtain ⟨x1,Z3⟩:=Zs (xs:=b.steps) (j:=k) om
  have XC:=AS Z3
  have hfS:=(Do x1).1 (C6 hfs Z3)
  rw [hdn k om] at hfS
  have hoS:=(Cx x1).1 (hos x1 (Y7 Z3))
  have htk:=H3 Z3
  have hse:=(x1).sz_eq
  have hal4:=hfS.alen
  have hxl:=Zz.len
  have htl:=Qk b.steps (k+1)
  have hsd:=Nu b.steps (k+1)
  have hul2:=Hg (n:=((vs.length+1:Nat):Int)) (b.steps.drop (k+1)) []
  have hul3:=Eu (n:=((vs.length+1:Nat):Int)) (VS ((vs.length+1:Nat):Int) (b.steps.drop (k+1)) []) b.result
  simp only [Xn,WQ] at hul2
  refine Zq (Zo none (k:Int) 5 (Wy Z3)) (Z1 1 37 (Y4 x1) (iA [.i 0,.i 0,.i 0,nl,nl] ?_))
  intro b4
  refine ZH 0 b4 (Yg x1) (ie (ar (Z1 1 38 (Z6 vs w) (iw (Yd vs) (Z1 1 16 (.i vs.length) (ie (ar (Y2 3 (.n 40 (ZE n) (.n 41 (Z0 vs) (.n 42 (Y4 x1) .r))) [3,0] [b1,b4] (ZA [] (H0 n vs x1 ob ob) (Z1 1 17 (.i (ZT n vs x1)) (ie (ar (Y1 2 44 (Zx b) 45 (.i vs.length) [2] [b2] (ia (((vs.length+1:Nat):Int)) (((vs.length:Int))+(1)) (Z1 1 47 (.i k) (ZO k (iL (Z8 []) 0 1 ?_)))))))))))))))))
  intro v4
  refine Z5 0 (.n 49 (Z0 []) (.p .r)) (ZA [] (N8 b ((vs.length+1:Nat):Int) (k+1) [] (hk:=om) (hz:=(by simp only [Xn];omega))) (Z1 1 51 (Z0 ls) (ic [] (Sz (Vy ((vs.length+1:Nat):Int) (VS ((vs.length+1:Nat):Int) (b.steps.drop (k+1)) []) b.result) ls) ?_)))
  rintro _ _ ⟨zs1,rfl,rfl,ZP⟩
  have hun:=ZP
  refine Z1 1 18 (Z0 zs1) (ie (ar (Y2 6 (.n 53 (ZX xs v) (.n 54 (ZE n) (.n 55 (Z0 vs) (.n 56 (Y4 x1) (.n 57 (Z0 ms) (.n 58 (Z0 zs1) .r)))))) [4,1] [b1,b4] (ic [] (RS n vs x1 ms zs1 (mm+k) (hf:=hfS)) ?_))))
  rintro _ _ ⟨zs2,rfl,rfl,Y0⟩
  have hdu:=Y0
  have hq1:=Zz.cnts (op:=14) (.inl rfl) (vs:=zs2) (fun v hv=>hfS.args v (hdu.2 v hv))
  have hl1:=hq1.len
  refine ic [] (Qi 14 zs2) ?_
  rintro _ _ ⟨v5,rfl,rfl⟩
  refine Z5 0 (.n 60 (Yj (zs2.map (Zi 14))) (.p .r)) (ip 7 (Zt (xs++(zs2.map (Zi 14)))) (Zt xs) (Zt (zs2.map (Zi 14))) v none 5 (X8 _) (X8 _) (Vs _) (by simp<;>omega) (by simp [Wx,Zt]) ?_)
  intro v6
  refine Z5 1 (.n 11 (ZX (xs++(zs2.map (Zi 14))) v6) (.p (.d (.p (.d (.d (.d (.d (.d (.d (.k (.p (.d (.p (.d (.p (.d (.p (.d (.d (.k (.p (.d (.d (.d (.k (.p (.d (.q 15 (.d (.p (.d (.d (.d (.p (.d (.d (.w (.d .r))))))))))))))))))))))))))))))))))))))) (ie (ar (Y2 6 (.n 62 (ZX (xs++(zs2.map (Zi 14))) v6) (.n 63 (ZE n) (.n 64 (Z0 vs) (.n 65 (Y4 x1) (.n 66 (Z0 ms) (.n 67 (Z0 zs1) .r)))))) [6,3] [b1,b4] (ic [] (RO n vs x1 ms zs1 (mm+k) b.sz (hf:=hfS) (h11:=hoS.1) (hop:=hoS.2) (hor:=Wd) (ih:=ih)) ?_))))
  rintro _ _ ⟨y1,rfl,rfl,YB⟩
  have hkt:=YB
  have hq2:=hq1.kt hkt
  have hl2:=hq2.len
  refine VZ [Y4 y1] (Zt [y1]) (Vb [y1]).symm 1 5 ?_
  intro v7
  refine Z5 0 (.n 69 (Yj [y1]) (.p .r)) (ip 1 (Zt ((xs++(zs2.map (Zi 14)))++[y1])) (Zt (xs++(zs2.map (Zi 14)))) (Zt [y1]) v6 none 5 (X8 _) (X8 _) (Vs _) (by simp<;>omega) (by simp [Wx,Zt]) ?_)
  intro v8
  refine Z5 1 (.n 11 (ZX ((xs++(zs2.map (Zi 14)))++[y1]) v8) (.p (.d (.p (.d (.d (.d (.d (.d (.d (.d .r))))))))))) (ie (ar (Y2 5 (.n 71 (ZE n) (.n 72 (Z0 vs) (.n 73 (Y4 x1) (.n 74 (Z0 ms) (.n 75 (Z0 zs1) .r))))) [7,4] [b1,b4] (ic [] (S6 n vs x1 ms zs1 (mm+k) (hf:=hfS)) ?_))))
  rintro _ _ ⟨zs3,v9,rfl,rfl,YN⟩
  have hla:=YN
  refine Z5 1 (.n 13 (Z6 zs3 v9) (.p (.d (.d (.d (.d (.d (.w (.w (.k (.k (.d .r)))))))))))) (ie (ar (Y2 4 (.n 77 (ZE n) (.n 78 (Y4 x1) (.n 79 (Z0 zs3) (.n 80 (Z0 zs1) .r)))) [8,5] [b1,b4] (ic [] (S7 n x1 zs3 zs1 (mm+k) (hf:=hfS)) ?_))))
  rintro _ _ ⟨zs4,rfl,rfl,YX⟩
  have hld:=YX
  have hq3:=hq2.cnts (op:=15) (.inr rfl) (vs:=zs4) (fun v hv=>by have:=hfS.args v (hld.2 v hv);omega)
  have hl3:=hq3.len
  refine Z1 1 19 (Z0 zs4) (ie (ar (Yo 2 82 (ZX ((xs++(zs2.map (Zi 14)))++[y1]) v8) 83 (Z0 zs4) (ic [] (Qi 15 zs4) ?_))))
  rintro _ _ ⟨v10,rfl,rfl⟩
  refine Z5 0 (.n 84 (Yj (zs4.map (Zi 15))) (.p .r)) (ip 2 (Zt (((xs++(zs2.map (Zi 14)))++[y1])++(zs4.map (Zi 15)))) (Zt ((xs++(zs2.map (Zi 14)))++[y1])) (Zt (zs4.map (Zi 15))) v8 none 5 (X8 _) (X8 _) (Vs _) (by simp<;>omega) (by simp [Wx,Zt]) ?_)
  intro v11
  refine Z5 1 (.n 11 (ZX (((xs++(zs2.map (Zi 14)))++[y1])++(zs4.map (Zi 15))) v11) (.q 85 (.w (.q 81 (.w (.k (.d .r))))))) (ie (aq (ar (Z1 1 20 (.i 0) (ie (ab 2 (al (fun m F h=>∃(j:Nat) (m3:List Int) (u3:Value) (v3:Value) (w3:Value),(j<=zs4.length)/\(m3.length<=os.length+k)/\(∀v∈m3,0<=v/\v<((mm+k:Nat):Int))/\F=[(4,Z0 ls),(5,.p b1 0),(7,.p b2 0),(10,.p b3 0),(11,ZX (((xs++(zs2.map (Zi 14)))++[y1])++(zs4.map (Zi 15))) v3),(12,Z6 vs w3),(13,Z6 m3 u3),(14,.i k),(16,.i vs.length),(17,.i (ZT n vs x1)),(18,Z0 zs1),(19,Z0 zs4),(20,.i j)]/\h=[.obj b3 [nl,.i 0],.obj b2 (Yn b),.obj b1 (ZU n),.tail u3 1,.tail v3 5,.tail w3 1]/\m=zs4.length-j) _ _ _ ⟨0,zs3,v9,v11,w,ob,ob,(fun v hv=>Wd v (hla.2 v hv)),rfl,rfl,rfl⟩ (wk [7,7,7,2,0,6] (fq (fq (fq (Ye fl))))) ?_)))))))
  rintro m F h ⟨j,m3,u3,v3,w3,Uj,We,XJ,rfl,rfl,rfl⟩
  refine aq (ar (Yo 2 86 (.i j) 87 (Z0 zs4) (iw (Yd zs4) (Z1 1 89 (.b (decide ((j:Int)<(zs4.length:Int)))) (ie (ZM ((j:Int)<(zs4.length:Int)) (fun Zk=>?_) (fun Zk=>?_)))))))
  ·refine ak (aq (ab 3 (az (Z5 3 (.n 92 (Z6 m3 u3) (.n 93 (Z0 zs4) (.n 94 (.i j) .r))) ?_))))
   obtain ⟨x2,Zv⟩:=Zs (xs:=zs4) (j:=j) om
   refine Zq (Zo none (j:Int) 1 (Y3 Zv)) (Z5 1 (.n 92 (Z0 m3) (.n 96 (.i x2) (.q 95 (.d .r)))) (ic [] (L5 m3 x2) ?_))
   rintro _ _ ⟨v12,rfl,rfl⟩
   refine Z5 1 (.n 13 (Z6 (UI m3 x2) v12) (.p (.d (.d (.d (.d (.d (.d (.p (.d (.d (.w (.k (.k (.d .r))))))))))))))) (ie (az (Z1 1 90 (.i j) (ZO j (Z5 1 (.n 20 (.i (j+1:Nat)) (.p (.d (.w (.w (.w .z)))))) (ie ?_))))))
   exact ZQ ⟨j+1,(UI m3 x2),v12,v3,w3,ob,(Vf (Cz _ _) We),(fun v hv=>XJ v (BC hv)),rfl,rfl,rfl⟩ (wk [1,1,1,0,1,1] (fq (fq (fq (ZW j fl)))))
  refine ax 2 (ar (Yo 2 98 (Z6 vs w3) 99 (.i (ZT n vs x1)) (iL (Z8 [ZT n vs x1]) 1 1 ?_)))
  intro v13
  refine Z5 0 (.n 100 (Z0 [ZT n vs x1]) (.p .r)) (ip 6 (Z8 (vs++[ZT n vs x1])) (Z8 vs) (Z8 [ZT n vs x1]) w3 none 1 (YD _) (YD _) (XY _) (by simp<;>omega) (by simp [XX,Z8]) ?_)
  intro v14
  refine Z5 1 (.n 12 (Z6 (vs++[ZT n vs x1]) v14) (.q 101 (.w (.q 88 (.w (.k (.k (.k (.d .r))))))))) (ie (ar (Xp [(4,Z0 ls),(5,.p b1 0),(7,.p b2 0),(10,.p b3 0),(11,ZX (((xs++(zs2.map (Zi 14)))++[y1])++(zs4.map (Zi 15))) v3),(12,Z6 (vs++[ZT n vs x1]) v14),(13,Z6 m3 u3),(14,.i k),(16,.i vs.length),(17,.i (ZT n vs x1)),(108,.b (((ZT n vs x1) != 0)&&(decide ((vs.length:Int)∈zs1))))] [.tail v14 1,.tail v13 1,.obj b3 [nl,.i 0],.obj b2 (Yn b),.obj b1 (ZU n),.tail u3 1,.tail v3 5] ?_ ?_)))
  ·refine ir 3 [(4,Z0 ls),(5,.p b1 0),(7,.p b2 0),(10,.p b3 0),(11,ZX (((xs++(zs2.map (Zi 14)))++[y1])++(zs4.map (Zi 15))) v3),(12,Z6 (vs++[ZT n vs x1]) v14),(13,Z6 m3 u3),(14,.i k),(16,.i vs.length),(17,.i (ZT n vs x1)),(18,Z0 zs1),(104,.b ((ZT n vs x1) != 0))] (ib (b:=((ZT n vs x1) != 0)) 104 (fun Za=>?_) (fun Za=>?_))
   ·have Xy:(ZT n vs x1)≠0:=(Yc).1 Za
    refine Z5 2 (.n 105 (Z0 zs1) (.n 106 (.i vs.length) (.w (.w (.k (.k (.k .z))))))) (ZA [] (U0 zs1 (vs.length:Int)) (Z1 1 108 (.b (decide ((vs.length:Int)∈zs1))) (ie ?_)))
    exact ZL 7 (fq (fq (fw (Zr (decide ((vs.length:Int)∈zs1)) Za fl))))
   have Wh:¬((ZT n vs x1)≠0):=ZG Yc Za
   refine Z5 4 (.n 108 (.b false) (.d (.w (.w (.k (.k .z)))))) (ie ?_)
   exact ZL 7 (fq (fq (fw (Zr false Za fl))))
  refine ac (((ZT n vs x1) != 0)&&(decide ((vs.length:Int)∈zs1))) (p:=((ZT n vs x1)≠0)/\((vs.length:Int)∈zs1)) (YE Yc dq) (fun ZI=>?_) (fun ZI=>?_)
  ·refine az (ir 2 [(4,Z0 ls),(5,.p b1 0),(7,.p b2 0),(10,.p b3 0),(11,ZX (((xs++(zs2.map (Zi 14)))++[y1])++(zs4.map (Zi 15))) v3),(12,Z6 (vs++[ZT n vs x1]) v14),(14,.i k),(109,Z6 m3 u3),(110,.i vs.length)] (iL (Z8 [(vs.length:Int)]) 1 1 ?_))
   intro v15
   refine Z5 0 (.n 111 (Z0 [(vs.length:Int)]) (.p .r)) (ip 6 (Z8 (m3++[(vs.length:Int)])) (Z8 m3) (Z8 [(vs.length:Int)]) u3 none 1 (YD _) (YD _) (XY _) (by simp<;>omega) (by simp [XX,Z8]) ?_)
   intro v16
   refine Z1 1 13 (Z6 (m3++[(vs.length:Int)]) v16) (ie (az (Z1 1 31 (.i k) (ZO k (Z5 1 (.n 14 (.i (k+1:Nat)) (.p (.d (.k (.p (.d (.w (.k (.k .z))))))))) (ie ?_))))))
   exact ZQ ⟨k+1,(vs++[ZT n vs x1]),v14,(m3++[(vs.length:Int)]),v16,(((xs++(zs2.map (Zi 14)))++[y1])++(zs4.map (Zi 15))),v3,ob,ob,(by first|exact hq3.le om|exact (hq3.cnt (op:=15) (.inr rfl) om).le om),ob,(by first|exact Xq (fun v hv=>by have:=XJ v hv;omega) om|exact (fun v hv=>by have:=XJ v hv;omega)),rfl,rfl,rfl⟩ (wk [4,4,4,0,3,1] (fq (fw (fr (ZW k fl)))))
  refine ar (ir 2 [(4,Z0 ls),(5,.p b1 0),(7,.p b2 0),(10,.p b3 0),(11,ZX (((xs++(zs2.map (Zi 14)))++[y1])++(zs4.map (Zi 15))) v3),(12,Z6 (vs++[ZT n vs x1]) v14),(13,Z6 m3 u3),(14,.i k),(16,.i vs.length),(114,.b ((ZT n vs x1) != 0))] (ie (ac ((ZT n vs x1) != 0) Yc (fun Yi=>?_) (fun Yi=>?_))))
  ·refine az (Yo 2 115 (ZX (((xs++(zs2.map (Zi 14)))++[y1])++(zs4.map (Zi 15))) v3) 116 (.i vs.length) (ZA [] (KI 15 (vs.length:Int)) (VZ [Y4 (Zi 15 (vs.length:Int))] (Zt [(Zi 15 (vs.length:Int))]) (Vb [(Zi 15 (vs.length:Int))]).symm 1 5 ?_)))
   intro v17
   refine Z5 0 (.n 118 (Yj [(Zi 15 (vs.length:Int))]) (.p .r)) (ip 7 (Zt ((((xs++(zs2.map (Zi 14)))++[y1])++(zs4.map (Zi 15)))++[(Zi 15 (vs.length:Int))])) (Zt (((xs++(zs2.map (Zi 14)))++[y1])++(zs4.map (Zi 15)))) (Zt [(Zi 15 (vs.length:Int))]) v3 none 5 (X8 _) (X8 _) (Vs _) (by simp<;>omega) (by simp [Wx,Zt]) ?_)
   intro v18
   refine Z5 1 (.n 11 (ZX ((((xs++(zs2.map (Zi 14)))++[y1])++(zs4.map (Zi 15)))++[(Zi 15 (vs.length:Int))]) v18) (.q 119 (.k (.q 117 (.w (.k (.k (.d .r)))))))) (ie (az (Z1 1 31 (.i k) (ZO k (Z5 1 (.n 14 (.i (k+1:Nat)) (.p (.d (.k (.d (.d (.d (.d (.d (.w (.k (.k .z)))))))))))) (ie ?_))))))
   exact ZQ ⟨k+1,(vs++[ZT n vs x1]),v14,m3,u3,((((xs++(zs2.map (Zi 14)))++[y1])++(zs4.map (Zi 15)))++[(Zi 15 (vs.length:Int))]),v18,ob,ob,(by first|exact hq3.le om|exact (hq3.cnt (op:=15) (.inr rfl) om).le om),ob,(by first|exact Xq (fun v hv=>by have:=XJ v hv;omega) om|exact (fun v hv=>by have:=XJ v hv;omega)),rfl,rfl,rfl⟩ (wk [4,4,4,4,0,1] (fq (fw (fr (ZW k fl)))))
  refine ak (az (Z1 1 31 (.i k) (ZO k (Z5 1 (.n 14 (.i (k+1:Nat)) (.p (.d (.w (.k (.k (.k .z))))))) (ie ?_)))))
  exact ZQ ⟨k+1,(vs++[ZT n vs x1]),v14,m3,u3,(((xs++(zs2.map (Zi 14)))++[y1])++(zs4.map (Zi 15))),v3,ob,ob,(by first|exact hq3.le om|exact (hq3.cnt (op:=15) (.inr rfl) om).le om),ob,(by first|exact Xq (fun v hv=>by have:=XJ v hv;omega) om|exact (fun v hv=>by have:=XJ v hv;omega)),rfl,rfl,rfl⟩ (wk [2,2,2,2,2,0] (fq (fw (fr (ZW k fl)))))
 have hxl:=Zz.len
 have htl:=Qk b.steps k
 refine ax 0 (aq (ar (Y1 3 120 (Z6 vs w) 122 (.i b.result) [1] [b2] ?_)))
 obtain ⟨x3,YT⟩:=Zs (xs:=vs) (j:=b.result.toNat) om
 refine Zq (Zo (some w) b.result 1 (Y3 YT)) (Xp [(7,.p b2 0),(10,.p b3 0),(11,ZX xs v),(138,.b ((x3 != 0)&&((decide (b.result∈ls))||(!(decide (b.result∈ms))))))] [.obj b3 [nl,.i 0],.obj b2 (Yn b),.obj b1 (ZU n),.tail u 1,.tail v 5,.tail w 1] ?_ ?_)
 ·refine ir 3 [(4,Z0 ls),(7,.p b2 0),(10,.p b3 0),(11,ZX xs v),(13,Z6 ms u),(126,.b (x3 != 0))] (ib (b:=(x3 != 0)) 126 (fun Zw=>?_) (fun Zw=>?_))
  ·have WJ:x3≠0:=(Yc).1 Zw
   refine Y2 3 (.n 127 (Z0 ls) (.n 129 (.i b.result) (.k (.d (.w .z))))) [1] [b2] (ZA [] (U0 ls b.result) (Z1 1 131 (.b (decide (b.result∈ls))) (ib (b:=(decide (b.result∈ls))) 131 (fun Yw=>?_) (fun Yw=>?_))))
   ·have V2:b.result∈ls:=(dq).1 Yw
    refine Z5 7 (.n 138 (.b true) (.k (.d .r))) (ie ?_)
    exact ZL 6 (fw (fr (Zr true (And.intro Zw Yw) fl)))
   have Ua:¬(b.result∈ls):=ZG dq Yw
   refine Y2 3 (.n 132 (Z0 ms) (.n 134 (.i b.result) (.k (.d .r)))) [1] [b2] (ZA [] (U0 ms b.result) (Z1 3 138 (.b (!(decide (b.result∈ms)))) (ie ?_)))
   exact ZL 6 (fw (fr (Zr (!(decide (b.result∈ms))) (And.intro Zw Yw) fl)))
  have UE:¬(x3≠0):=ZG Yc Zw
  refine Z5 12 (.n 138 (.b false) (.d (.d (.k (.k (.k .z)))))) (ie ?_)
  exact ZL 6 (fw (fr (Zr false Zw fl)))
 refine ac ((x3 != 0)&&((decide (b.result∈ls))||(!(decide (b.result∈ms))))) (p:=(x3≠0)/\((b.result∈ls)∨(¬(b.result∈ms)))) (YE Yc (Yh dq (Yt dq))) (fun Xk=>?_) (fun Xk=>?_)
 ·refine az (iR 3 [(7,.p b2 0),(10,.p b3 0),(139,ZX xs v),(141,.i b.result)] [1] [b2] (ZA [] (KI 14 b.result) (VZ [Y4 (Zi 14 b.result)] (Zt [Zi 14 b.result]) (Vb [Zi 14 b.result]).symm 1 5 ?_)))
  intro v19
  refine Z5 0 (.n 143 (Yj [Zi 14 b.result]) (.p .r)) (ip 5 (Zt (xs++[Zi 14 b.result])) (Zt xs) (Zt [Zi 14 b.result]) v none 5 (X8 _) (X8 _) (Vs _) (by simp<;>omega) (by simp [Wx,Zt]) ?_)
  intro v20
  refine Z1 1 11 (ZX (xs++[Zi 14 b.result]) v20) (ie (ar (Yk 4 148 (.agg [ZX (xs++[Zi 14 b.result]) v20,.i b.result]) [3] [b2] (ZH 2 b3 [ZX (xs++[Zi 14 b.result]) v20,.i b.result] (ie ?_)))))
  exact Zc (r3 [] [.agg [ZX (xs++[Zi 14 b.result]) v20,.i b.result]] [0] [(b3,b3)] ⟨(Z7.mk (xs++[Zi 14 b.result]) b.result),rfl,rfl,(((Zz.cnt (op:=14) (.inl rfl) om).block om).le (by have:=Qk b.steps k;omega))⟩ (Zg.agg (.cons (Zg.forget _ _) (.cons (lr _) .nil))))
 refine ak (ar (iR 4 [(10,.p b3 0),(148,.agg [ZX xs v,.i b.result])] [1] [b2] (ZH 0 b3 [ZX xs v,.i b.result] (ie ?_))))
 exact Zc (r3 [] [.agg [ZX xs v,.i b.result]] [0] [(b3,b3)] ⟨(Z7.mk xs b.result),rfl,rfl,((Zz.block om).le (by have:=Qk b.steps k;omega))⟩ (Zg.agg (.cons (Zg.forget _ _) (.cons (lr _) .nil))))
theorem RJ (n:Zy) (us:List Int) (b:Z7) (os:List Int) (ls:List Int) (mm:Nat) (hn:Xe n:=by exact ob) (hf:fB n.decls n.routines.length mm b:=by exact ob) (hop:WW Wq b:=by exact ob) (hul:us.length=mm:=by exact ob) (hm:mm+4*b.sz<=100000:=by exact ob) (hor:∀v∈os,0<=v/\v<(mm:Int)) (hol:os.length+4*b.sz<=730:=by exact ob) (hal:ls.length+2000*b.sz<=1000000:=by exact ob) (hbz:b.sz<=500:=by exact ob):Zj Tryz.prog 228 [ZE n,Z0 us,Zx b,Z0 os,Z0 ls] [] (fun r h=>∃(y:Z7),r=Zx y/\h=[]/\KB n.decls n.routines.length mm y (4500*b.sz)):=by
 have key:∀k:Nat,∀(us2:List Int) (b2:Z7) (os2:List Int) (as2:List Int) (m2:Nat),(fB n.decls n.routines.length m2 b2)->(WW Wq b2)->(us2.length=m2)->(m2+4*b2.sz<=100000)->(∀v∈os2,0<=v/\v<(m2:Int))->(os2.length+4*b2.sz<=730)->(as2.length+2000*b2.sz<=1000000)->(b2.sz<=500)->(b2.sz<k)->Zj Tryz.prog 228 [ZE n,Z0 us2,Zx b2,Z0 os2,Z0 as2] [] (fun r h=>∃(y:Z7),r=Zx y/\h=[]/\KB n.decls n.routines.length m2 y (4500*b2.sz)):=by
  intro k
  induction k with
  | zero=>intro us2 b2 os2 as2 m2 h1 h2 h3 h4 h5 h6 h7 h8 h9;omega
  | succ k ih=>intro us2 b2 os2 as2 m2 h1 h2 h3 h4 h5 h6 h7 h8 h9;exact RK n us2 b2 os2 as2 m2 hn h1 h2 h3 h4 h5 h6 h7 h8 fun us3 b3 os3 as3 m3 q1 q2 q3 q4 q5 q6 q7 q8 q9=>ih us3 b3 os3 as3 m3 q1 q2 q3 q4 q5 q6 q7 q8 om
 exact key (b.sz+1) us b os ls mm hf hop hul hm hor hol hal hbz om
theorem RL (n:Zy) (rt:Yf) (qz:Nat) (hn:Xe n:=by exact ob) (hr:RF n.decls n.routines.length qz Wq rt:=by exact ob) (hqz:qz<=181:=by exact ob):Zj Tryz.prog 200 [ZE n,WZ rt] [] (fun r h=>∃(y:Z7),r=Zx y/\h=[]/\KB n.decls n.routines.length rt.params.length y (4500*qz+10)):=by
 have hrp:rt.params.length<=3:=(UL.bd (f:=⟨rt.params,rt.result,default⟩) hr.sig).1
 have hrl:=hr.lent.1
 have hrz:=hr.body.2
 refine ZK 65 Tryz.func200 (ar (iA (ZU n) ?_))
 intro b1
 refine iA (VO rt) ?_
 intro b2
 refine iA [nl,.i 0] ?_
 intro b3
 refine ie (ar (iR 4 [(2,.p b1 0),(3,.p b2 0),(4,.p b3 0),(11,Zx rt.body),(13,Z0 rt.params)] [1,1] [b2,b2] (iw (Yd rt.params) (ZA [] (Np rt.body (rt.params.length:Int)) ?_))))
 have hub:=Et (n:=(rt.params.length:Int)) rt.body []
 simp only [Xn,WQ] at hub
 refine Z1 1 5 (Z0 (XZ (rt.params.length:Int) rt.body [])) (ie (ar (iL (Z8 []) 0 1 ?_)))
 intro v1
 refine Z1 1 6 (Z6 [] v1) (ie (ar (iL (Z8 []) 0 1 ?_)))
 intro v2
 refine Z1 1 7 (Z6 [] v2) (ie (aq (ar (Z1 1 8 (.i 0) (ie (ab 0 (al (fun m F h=>∃(k:Nat) (os:List Int) (u:Value) (dr:List Int) (w:Value),(k<=rt.params.length)/\(os.length<=k)/\(dr.length<=k)/\(∀v∈os,0<=v/\v<(rt.params.length:Int))/\(∀v∈dr,0<=v/\v<(rt.params.length:Int))/\F=[(2,.p b1 0),(3,.p b2 0),(4,.p b3 0),(5,Z0 (XZ (rt.params.length:Int) rt.body [])),(6,Z6 os u),(7,Z6 dr w),(8,.i k)]/\h=[.obj b3 [nl,.i 0],.obj b2 (VO rt),.obj b1 (ZU n),.tail u 1,.tail w 1]/\m=rt.params.length-k) _ _ _ ⟨0,[],v1,[],v2,ob,ob,ob,(fun v hv=>by cases hv),(fun v hv=>by cases hv),rfl,rfl,rfl⟩ (wk [2,2,2,1,0] (fq (fw (Ye fl)))) ?_)))))))
 rintro m F h ⟨k,os,u,dr,w,Ym,Zp,Zz,YJ,Wd,rfl,rfl,rfl⟩
 refine aq (ar (Y1 3 18 (.i k) 20 (Z0 rt.params) [1] [b2] (iw (Yd rt.params) (Z1 1 22 (.b (decide ((k:Int)<(rt.params.length:Int)))) (ie (ZM ((k:Int)<(rt.params.length:Int)) (fun Ze=>?_) (fun Ze=>?_)))))))
 ·refine ak (aq (ab 1 (ar (Y1 3 26 (Z0 rt.params) 27 (.i k) [1] [b2] ?_))))
  obtain ⟨x1,Z3⟩:=Zs (xs:=rt.params) (j:=k) om
  refine Zq (Zo none (k:Int) 1 (Y3 Z3)) (Xp [(2,.p b1 0),(3,.p b2 0),(4,.p b3 0),(5,Z0 (XZ (rt.params.length:Int) rt.body [])),(6,Z6 os u),(7,Z6 dr w),(8,.i k),(37,.b ((x1 != 0)&&(!(decide ((k:Int)∈rt.lent)))))] [.obj b3 [nl,.i 0],.obj b2 (VO rt),.obj b1 (ZU n),.tail u 1,.tail w 1] ?_ ?_)
  ·refine ir 3 [(2,.p b1 0),(3,.p b2 0),(4,.p b3 0),(5,Z0 (XZ (rt.params.length:Int) rt.body [])),(6,Z6 os u),(7,Z6 dr w),(8,.i k),(31,.b (x1 != 0))] (ib (b:=(x1 != 0)) 31 (fun Za=>?_) (fun Za=>?_))
   ·have ZP:x1≠0:=(Yc).1 Za
    refine Y2 3 (.n 33 (Z0 rt.lent) (.n 34 (.i k) (.w (.w .z)))) [1] [b2] (ZA [] (U0 rt.lent (k:Int)) (Z1 2 37 (.b (!(decide ((k:Int)∈rt.lent)))) (ie ?_)))
    exact ZL 5 (fq (fw (fr (Zr (!(decide ((k:Int)∈rt.lent))) Za fl))))
   have Y0:¬(x1≠0):=ZG Yc Za
   refine Z5 6 (.n 37 (.b false) (.d (.w (.k (.k (.k .z)))))) (ie ?_)
   exact ZL 5 (fq (fw (fr (Zr false Za fl))))
  refine ac ((x1 != 0)&&(!(decide ((k:Int)∈rt.lent)))) (p:=(x1≠0)/\(¬((k:Int)∈rt.lent))) (YE Yc (Yt dq)) (fun Zk=>?_) (fun Zk=>?_)
  ·refine ar (ir 2 [(2,.p b1 0),(3,.p b2 0),(4,.p b3 0),(5,Z0 (XZ (rt.params.length:Int) rt.body [])),(6,Z6 os u),(7,Z6 dr w),(8,.i k),(38,Z0 (XZ (rt.params.length:Int) rt.body [])),(39,.i k)] (ZA [] (U0 (XZ (rt.params.length:Int) rt.body []) (k:Int)) (ie (ZM ((k:Int)∈(XZ (rt.params.length:Int) rt.body [])) (fun ZI=>?_) (fun ZI=>?_)))))
   ·refine az (Yo 2 41 (Z6 os u) 42 (.i k) (iL (Z8 [(k:Int)]) 1 1 ?_))
    intro v3
    refine Z5 0 (.n 43 (Z0 [(k:Int)]) (.p .r)) (ip 4 (Z8 (os++[(k:Int)])) (Z8 os) (Z8 [(k:Int)]) u none 1 (YD _) (YD _) (XY _) (by simp<;>omega) (by simp [XX,Z8]) ?_)
    intro v4
    refine Z5 1 (.n 6 (Z6 (os++[(k:Int)]) v4) (.q 44 (.k (.k (.k (.q 40 (.w (.d .r)))))))) (ie (az (Z1 1 23 (.i k) (ZO k (Z5 1 (.n 8 (.i (k+1:Nat)) (.p (.d (.k (.d (.d (.d (.d (.d (.w (.k .z))))))))))) (ie ?_))))))
    exact ZQ ⟨k+1,(os++[(k:Int)]),v4,dr,w,ob,ob,ob,(by first|exact YJ|exact Xq YJ om),(by first|exact Wd|exact Xq Wd om),rfl,rfl,rfl⟩ (wk [2,2,2,0,1] (fq (fw (ZW k fl))))
   refine az (Yo 2 45 (Z6 dr w) 46 (.i k) (iL (Z8 [(k:Int)]) 1 1 ?_))
   intro v5
   refine Z5 0 (.n 47 (Z0 [(k:Int)]) (.p .r)) (ip 5 (Z8 (dr++[(k:Int)])) (Z8 dr) (Z8 [(k:Int)]) w none 1 (YD _) (YD _) (XY _) (by simp<;>omega) (by simp [XX,Z8]) ?_)
   intro v6
   refine Z5 1 (.n 7 (Z6 (dr++[(k:Int)]) v6) (.p (.d (.d (.d (.p (.w (.k (.d (.k .z)))))))))) (ie (az (Z1 1 23 (.i k) (ZO k (Z5 1 (.n 8 (.i (k+1:Nat)) (.p (.d (.w (.k (.k .z)))))) (ie ?_))))))
   exact ZQ ⟨k+1,os,u,(dr++[(k:Int)]),v6,ob,ob,ob,(by first|exact YJ|exact Xq YJ om),(by first|exact Wd|exact Xq Wd om),rfl,rfl,rfl⟩ (wk [2,2,2,2,0] (fq (fw (ZW k fl))))
  refine ak (az (ir 1 [(2,.p b1 0),(3,.p b2 0),(4,.p b3 0),(5,Z0 (XZ (rt.params.length:Int) rt.body [])),(6,Z6 os u),(7,Z6 dr w),(23,.i k)] (ZO k (Z1 1 8 (.i (k+1:Nat)) (ie ?_)))))
  exact ZQ ⟨k+1,os,u,dr,w,ob,ob,ob,(by first|exact YJ|exact Xq YJ om),(by first|exact Wd|exact Xq Wd om),rfl,rfl,rfl⟩ (ZL 5 (fq (fw (ZW k fl))))
 refine ax 0 (ar (Y2 6 (.n 49 (ZE n) (.n 51 (Z0 rt.params) (.n 53 (Zx rt.body) (.n 54 (Z6 os u) .r)))) [2,1,1] [b1,b2,b2] (iL (Z8 []) 0 1 ?_)))
 intro v7
 refine Z5 0 (.n 54 (Z0 os) (.n 55 (Z0 []) (.p (.k (.k (.k (.d .r))))))) (ic [] (RJ n rt.params rt.body os [] rt.params.length (hf:=hr.body.1) (hop:=hr.op) (hor:=YJ) (hal:=(by simp only [Xn];omega))) ?_)
 rintro _ _ ⟨y1,rfl,rfl,YB⟩
 have hkb:=YB
 have hkl:=hkb.len
 refine iA [nl,.i 0] ?_
 intro b4
 refine ZH 0 b4 (Yn y1) (ie (aD 9 (Y6 4 9 [0,2,3,5,6] (.n 57 (Z0 dr) (.n 60 (Yj y1.steps) (.n 63 (.i y1.result) .r))) [0,0] [b4,b4] (Z9 1 (dc 1 [] [0,0] [b4,b4] (Qi 15 dr) ?_)))))
 rintro _ _ ⟨v8,rfl,rfl⟩
 refine Z9 4 (dp 4 0 [0] [b4] (Zt ((dr.map (Zi 15))++y1.steps)) (Zt (dr.map (Zi 15))) (Zt y1.steps) v8 none 5 (X8 _) (X8 _) (Vs _) (by simp<;>omega) (by simp [Wx,Zt]) ?_)
 intro v9
 refine ZY 1 2 [7] 64 (.agg [ZX ((dr.map (Zi 15))++y1.steps) v9,.i y1.result]) (Z9 8 (YK 8 3 [] [] b3 [ZX ((dr.map (Zi 15))++y1.steps) v9,.i y1.result] (de ?_)))
 exact Zc (r3 [] [.agg [ZX ((dr.map (Zi 15))++y1.steps) v9,.i y1.result]] [0] [(b3,b3)] ⟨(Z7.mk ((dr.map (Zi 15))++y1.steps) y1.result),rfl,rfl,((hkb.put1 (op:=15) (.inr rfl) Wd).le om)⟩ (Zg.agg (.cons (Zg.forget _ _) (.cons (lr _) .nil))))
theorem RP (n:Zy) (qz:Nat) (hn:FO n qz Wq:=by exact ob) (hqz:qz<=181:=by exact ob):Zj Tryz.prog 159 [ZE n] [] (fun r h=>∃(n2:Zy),r=ZE n2/\h=[]/\FO n2 (4500*qz+10) V9):=by
 have hnl:=hn.fn.len
 have Xu:=hn.fn.decls.ok
 have hok:=hn.fn.ok
 refine ZK 36 Tryz.func159 (ar (iA (ZU n) ?_))
 intro b1
 refine iA [nl,nl] ?_
 intro b2
 refine ie (ar (iR 2 [(1,.p b1 0),(2,.p b2 0),(6,Zd n.decls)] [1] [b1] (ZA [] (AQ n.decls) (iL (YM []) 0 5 ?_))))
 intro v1
 refine Z1 1 9 (.agg [Zd n.decls,Xh [] v1]) (iA [nl,nl] ?_)
 intro b3
 refine ZH 0 b3 [Zd n.decls,Xh [] v1] (ie (aq (ar (Z1 1 4 (.i 0) (ie (ab 0 (al (fun m F h=>∃(k:Nat) (rs:List Yf) (u:Value),(k<=n.routines.length)/\(rs.length=k)/\(∀r∈rs,RF n.decls n.routines.length (4500*qz+10) V9 r)/\F=[(1,.p b1 0),(2,.p b2 0),(3,.p b3 0),(4,.i k)]/\h=[.obj b3 [Zd n.decls,Xh rs u],.obj b2 [nl,nl],.obj b1 (ZU n),.tail u 5]/\m=n.routines.length-k) _ _ _ ⟨0,[],v1,ob,ob,(fun r hr=>by cases hr),rfl,rfl,rfl⟩ (wk [0,1,1,0] (fw (fr (Ye fl)))) ?_)))))))
 rintro m F h ⟨k,rs,u,Ym,Zp,Zz,rfl,rfl,rfl⟩
 refine aq (ar (Y1 3 10 (.i k) 12 (YZ n.routines) [2] [b1] (iw (U8 n.routines) (Z1 1 14 (.b (decide ((k:Int)<(n.routines.length:Int)))) (ie (ZM ((k:Int)<(n.routines.length:Int)) (fun Ze=>?_) (fun Ze=>?_)))))))
 ·refine ak (aq (ab 1 (aE 19 (Y6 14 19 [0,1,2,3,4] (.n 18 (Xh rs u) (.n 20 (YZ n.routines) (.n 21 (.i k) .r))) [0,2] [b3,b1] ?_))))
  obtain ⟨x1,Z3⟩:=Zs (xs:=n.routines) (j:=k) om
  have hrf:=hn.rf (Y7 Z3)
  have hrp:(x1).params.length<=3:=(UL.bd (f:=⟨(x1).params,(x1).result,default⟩) hrf.sig).1
  have hrl:=hrf.lent.1
  have hrz:=hrf.body.2
  refine dx 5 (Zo none (k:Int) 5 (WB Z3)) (Y6 8 13 [6,7,8,9,10] (.n 23 (WZ x1) (.n 24 (ZE n) (.n 26 (YZ n.routines) (.n 27 (.i k) .r)))) [2,2] [b1,b1] (dx 11 (Zo none (k:Int) 5 (WB Z3)) (ZY 6 7 [12] 29 (WZ x1) (Z9 13 (dc 13 [] [2,0] [b1,b3] (RL n x1 qz (hr:=hrf)) ?_)))))
  rintro _ _ ⟨y1,rfl,rfl,ZP⟩
  have hkb:=ZP
  refine Z9 14 (Ys 14 [] [0] [b3] (BK x1 y1 (hp:=om) (hl:=om)) (Z9 15 (dL 15 [0] [b3] (YM [Yf.mk x1.params x1.lent x1.result y1]) 1 5 ?_)))
  intro v2
  refine ZZ 3 3 [] (.n 32 (YZ [Yf.mk x1.params x1.lent x1.result y1]) (.p .r)) (Z9 16 (dp 16 4 [] [] (YM (rs++[Yf.mk x1.params x1.lent x1.result y1])) (YM rs) (YM [Yf.mk x1.params x1.lent x1.result y1]) u none 5 (U7 _) (U7 _) (JM _) (by simp<;>omega) (by simp [Aw,YM]) ?_))
  intro v3
  refine ZY 1 2 [17] 34 (.p b3 1) (Z9 18 (YK 18 2 [] [] b3 [Zd n.decls,Xh (rs++[Yf.mk x1.params x1.lent x1.result y1]) v3] (de (az (Z1 1 15 (.i k) (ZO k (ir 1 [(1,.p b1 0),(2,.p b2 0),(3,.p b3 0),(4,.i (k+1:Nat))] (ie ?_))))))))
  exact ZQ ⟨k+1,(rs++[Yf.mk x1.params x1.lent x1.result y1]),v3,ob,ob,(Xq Zz (by first|exact hrf.with hkb.fb hkb.sz hkb.op|(rw [Z7.eta];exact hrf.with hkb.fb hkb.sz hkb.op))),rfl,rfl,rfl⟩ (wk [0,2,2,0] (fw (fr (ZW k fl))))
 refine ax 0 (ar (Yk 1 35 (.agg [Zd n.decls,Xh rs u]) [0] [b3] (ZH 1 b2 [Zd n.decls,Xh rs u] (ie ?_))))
 exact Zc (r3 [] [.agg [Zd n.decls,Xh rs u]] [0] [(b2,b2)] ⟨(Zy.mk n.decls rs),rfl,rfl,(FO.fin hn.fn om Zz).1⟩ (Zg.agg (.cons (lr _) (.cons (Zg.forget _ _) .nil))))
theorem RG (n:Zy) (us:List Int) (s:Z4) (mm:Nat) (hn:Xe n:=by exact ob) (hf:FS n.decls n.routines.length mm s:=by exact ob) (hvl:us.length=mm:=by exact ob) (hm:mm<=100000000:=by exact ob):Zj Tryz.prog 230 [ZE n,Z0 us,Y4 s] [] (fun r h=>∃(zs:List Int),r=Z0 zs/\h=[]/\zs.length<=s.args.length/\∀z∈zs,z∈s.args):=by
 have hal:=hf.alen
 refine ZK 31 Tryz.func230 (ar (iA (ZU n) ?_))
 intro b1
 refine iA (Yg s) ?_
 intro b2
 refine ir 1 [(1,Z0 us),(3,.p b1 0),(5,.p b2 0)] (ie (ar (iL (Z8 []) 0 1 ?_)))
 intro v1
 refine Z1 1 7 (Z6 [] v1) (ie (aq (ar (Z1 1 8 (.i 0) (ie (ab 0 (al (fun m F h=>∃(k:Nat) (zs:List Int) (u:Value),(k<=s.args.length)/\(zs.length<=k)/\(∀z∈zs,z∈s.args)/\F=[(1,Z0 us),(3,.p b1 0),(5,.p b2 0),(7,Z6 zs u),(8,.i k)]/\h=[.obj b2 (Yg s),.obj b1 (ZU n),.tail u 1]/\m=s.args.length-k) _ _ _ ⟨0,[],v1,ob,ob,(fun z hz=>by cases hz),rfl,rfl,rfl⟩ (wk [1,1,0] (fq (Ye fl))) ?_)))))))
 rintro m F h ⟨k,zs,u,Ym,Zp,Zz,rfl,rfl,rfl⟩
 refine aq (ar (Y1 3 10 (.i k) 12 (Z0 s.args) [0] [b2] (iw (Yd s.args) (Z1 1 14 (.b (decide ((k:Int)<(s.args.length:Int)))) (ie (ZM ((k:Int)<(s.args.length:Int)) (fun Ze=>?_) (fun Ze=>?_)))))))
 ·obtain ⟨a1,ha1⟩:=Zs (xs:=s.args) (j:=k) om
  have har:=hf.args a1 (Y7 ha1)
  refine ak (aq (ab 1 (ar (Y2 4 (.n 17 (ZE n) (.n 18 (Z0 us) (.n 19 (Y4 s) (.n 20 (.i k) .r)))) [1,0] [b1,b2] (ZA [] (Ep n us s k a1 (hnum:=hf.call) (ha:=ha1)) (ie (ac (UN n us s.op s.num a1 k) Iff.rfl (fun Zk=>?_) (fun Zk=>?_))))))))
  ·refine az (Y2 4 (.n 22 (Z6 zs u) (.n 24 (Z0 s.args) (.n 25 (.i k) .r))) [0] [b2] (Zq (Zo none (k:Int) 1 (Y3 ha1)) (Z1 1 27 (.i a1) (iL (Z8 [a1]) 1 1 ?_))))
   intro v2
   refine Z5 0 (.n 28 (Z0 [a1]) (.p .r)) (ip 3 (Z8 (zs++[a1])) (Z8 zs) (Z8 [a1]) u none 1 (YD _) (YD _) (XY _) (by simp<;>omega) (by simp [XX,Z8]) ?_)
   intro v3
   refine ir 1 [(1,Z0 us),(3,.p b1 0),(5,.p b2 0),(7,Z6 (zs++[a1]) v3),(8,.i k)] (ie (az (Z1 1 15 (.i k) (ZO k (Z5 1 (.n 8 (.i (k+1:Nat)) (.p (.d (.w .z)))) (ie ?_))))))
   exact ZQ ⟨k+1,(zs++[a1]),v3,ob,ob,(by first|exact Zz|exact Xq Zz (Y7 ha1)),rfl,rfl,rfl⟩ (wk [2,2,0] (fq (ZW k fl)))
  refine ak (az (Z1 1 15 (.i k) (ZO k (ir 1 [(1,Z0 us),(3,.p b1 0),(5,.p b2 0),(7,Z6 zs u),(8,.i (k+1:Nat))] (ie ?_)))))
  exact ZQ ⟨k+1,zs,u,ob,ob,(by first|exact Zz|exact Xq Zz (Y7 ha1)),rfl,rfl,rfl⟩ (ZL 3 (fq (ZW k fl)))
 refine ax 0 (ar (ir 2 [(6,Z6 zs u)] (ie ?_)))
 exact Zc (r2 [] [Z6 zs u] ⟨zs,rfl,rfl,⟨by omega,Zz⟩⟩ (Zg.forget _ _))
theorem S4 (n:Zy) (us:List Int) (s:Z4) (mm:Nat) (bb:Nat) (hn:Xe n:=by exact ob) (hf:FS n.decls n.routines.length mm s:=by exact ob) (h11:s.op<=11:=by exact ob) (hop:TX Wq s.kids:=by exact ob) (hul:us.length=mm:=by exact ob) (hm:mm+4*s.sz<=100000:=by exact ob) (hbz:s.sz<=500:=by exact ob) (hb:s.sz<=bb:=by exact ob) (ih:∀(us2:List Int) (b2:Z7) (mi2:List Int) (m2:Nat),(fB n.decls n.routines.length m2 b2)->(WW Wq b2)->(us2.length=m2)->(m2+4*b2.sz<=100000)->(∀v∈mi2,0<=v/\v<(m2:Int))->(mi2.length<=3)->(b2.sz<=500)->(b2.sz<bb)->Zj Tryz.prog 201 [ZE n,Z0 us2,Zx b2,Z0 mi2] [] (fun r h=>∃(y:Z7),r=Zx y/\h=[]/\KB n.decls n.routines.length m2 y (60*b2.sz))):Zj Tryz.prog 231 [ZE n,Z0 us,Y4 s] [] (fun r h=>∃(y:Z4),r=Y4 y/\h=[]/\KT n.decls n.routines.length mm y (60*YY s.kids+23)):=by
 have Xu:=hn.decls
 have hkf:=hf.few Xu
 have hsa:=hf.alen
 refine ZK 72 Tryz.func231 (ar (iA (ZU n) ?_))
 intro b1
 refine iA (Yg s) ?_
 intro b2
 refine iA [.i 0,.i 0,.i 0,nl,nl] ?_
 intro b3
 refine ie (ar (iL (YH []) 0 2 ?_))
 intro v1
 refine ir 1 [(1,Z0 us),(3,.p b1 0),(5,.p b2 0),(6,.p b3 0),(7,X4 [] v1)] (ie (ar (Y1 4 15 (Zd n.decls) 17 (.i s.num) [3,2] [b1,b2] (ic [] (KH n.decls s.num) ?_))))
 rintro _ _ ⟨v2,rfl,rfl⟩
 refine Z1 1 8 (Z6 (Zu n.decls s.num) v2) (ie (aq (ar (Z1 1 9 (.i 0) (ie (ab 0 (al (fun m F h=>∃(k:Nat) (ks:List Z7) (u:Value),(k<=s.kids.length)/\(ks.length=k)/\(KK n.decls n.routines.length (Ut n.decls s.op s.num mm) ks (60*YY (s.kids.take k)+6*k))/\F=[(1,Z0 us),(3,.p b1 0),(5,.p b2 0),(6,.p b3 0),(7,X4 ks u),(8,Z0 (Zu n.decls s.num)),(9,.i k)]/\h=[.obj b3 [.i 0,.i 0,.i 0,nl,nl],.obj b2 (Yg s),.obj b1 (ZU n),.tail u 2]/\m=s.kids.length-k) _ _ _ ⟨0,[],v1,ob,ob,(KK.nil.le (QV _)),rfl,rfl,rfl⟩ (wk [2,2,2,1] (fq (fr (fc (x:=Z6 (Zu n.decls s.num) v2) (Zg.forget _ _) (Ye fl))))) ?_)))))))
 rintro m F h ⟨k,ks,u,Ym,Zp,Zz,rfl,rfl,rfl⟩
 refine aq (ar (Y1 3 19 (.i k) 21 (Yz s.kids) [1] [b2] (iw (VX s.kids) (Z1 1 23 (.b (decide ((k:Int)<(s.kids.length:Int)))) (ie (ZM ((k:Int)<(s.kids.length:Int)) (fun Ze=>?_) (fun Ze=>?_)))))))
 ·refine ak (aq (ab 1 (ar (iL (Z8 []) 0 1 ?_))))
  intro v3
  refine Z1 1 10 (Z6 [] v3) (ie (aq (ar (Yk 3 29 (.b (s.op==8)) [2] [b2] (ie (XI (fun F h=>∃(fds:List Int),(Ut n.decls s.op s.num mm k=mm+fds.length)/\(fds.length<=3)/\F=[(1,Z0 us),(3,.p b1 0),(5,.p b2 0),(6,.p b3 0),(7,X4 ks u),(8,Z0 (Zu n.decls s.num)),(9,.i k),(10,Z0 fds)]/\h=[.obj b3 [.i 0,.i 0,.i 0,nl,nl],.obj b2 (Yg s),.obj b1 (ZU n),.tail u 2]) ?_ ?_))))))
  ·refine ac (s.op==8) Zh (fun Zk=>?_) (fun Zk=>?_)
   ·refine aE 8 (W2 4 8 [0,1,2,3] [(1,Z0 us),(3,.p b1 0),(5,.p b2 0),(6,.p b3 0),(7,X4 ks u),(8,Z0 (Zu n.decls s.num)),(9,.i k),(10,Z6 [] v3),(31,Zd n.decls),(32,Z0 (Zu n.decls s.num)),(33,.i k)] [3] [b1] ?_)
    obtain ⟨x1,Z3⟩:=Zs (xs:=Zu n.decls s.num) (j:=k) (by have:=hf.k8 (by assumption);omega)
    have hcf:=VH Xu x1
    refine dx 4 (Zo none (k:Int) 1 (Y3 Z3)) (ZY 2 3 [5] 35 (.i x1) (Z9 6 (Ys 6 [] [] [] (Qh n.decls x1) (ZZ 0 1 [7] (.n 10 (Z0 (ZB n.decls x1)) (.p (.d (.p (.w (.k (.k (.k .z)))))))) (de ?_)))))
    exact ZV ⟨ZB n.decls x1,(GO (by assumption) Z3),ob,rfl,rfl⟩ (wk [1,1,1,1] fl)
   refine ak ?_
   exact ZV ⟨[],(by rw [GQ (by assumption)];rfl),ob,rfl,rfl⟩ (wk [1,1,1,1] fl)
  rintro F h ⟨fds,Vv,Jg,rfl,rfl⟩
  refine ar (ir 2 [(1,Z0 us),(3,.p b1 0),(5,.p b2 0),(6,.p b3 0),(7,X4 ks u),(8,Z0 (Zu n.decls s.num)),(9,.i k),(10,Z0 fds),(37,Z0 fds),(38,Z0 us)] (iw (Yd us) (ic [] (IS fds us.length) ?_)))
  rintro _ _ ⟨xs1,rfl,rfl,ZP⟩
  have hhf:=ZP
  refine Z1 1 11 (Z0 xs1) (ie (aD 13 (Y6 7 13 [0,1,2,4,5,6] (.n 41 (ZE n) (.n 42 (Z0 us) (.n 43 (Z0 fds) (.n 46 (Yz s.kids) (.n 47 (.i k) .r))))) [2,1] [b1,b2] ?_)))
  obtain ⟨x2,Zv⟩:=Zs (xs:=s.kids) (j:=k) om
  have hkz:=T7 Zv
  have hfk:=C5 hf.kids Zv
  rw [WQ,Vv] at hfk
  have hok:=BB.1 hop x2 (Y7 Zv)
  have hbt:=D6 Zv
  have hba:=D7 Zv
  refine dx 7 (Zo none (k:Int) 2 (UA Zv)) (ZZ 4 6 [8,9] (.n 49 (Zx x2) (.n 50 (Z0 xs1) .r)) (dK (fun F h=>∃(y1:Z7) (b4:Nat),(KB n.decls n.routines.length (mm+fds.length) y1 (60*x2.sz))/\F=[(1,Z0 us),(3,.p b1 0),(5,.p b2 0),(6,.p b3 0),(7,X4 ks u),(8,Z0 (Zu n.decls s.num)),(9,.i k),(11,Z0 xs1),(12,.p b4 0)]/\h=[.obj b4 (Yn y1),.obj b3 [.i 0,.i 0,.i 0,nl,nl],.obj b2 (Yg s),.obj b1 (ZU n),.tail u 2]) ?_ ?_))
  ·refine Vh 3 11 ?_ ?_
   ·refine dc 3 [] [1,2] [b2,b1] (Q2 us fds) ?_
    rintro _ _ ⟨v4,rfl,rfl⟩
    refine Xa 3 3 [] [(1,Z0 us),(3,.p b1 0),(5,.p b2 0),(6,.p b3 0),(7,X4 ks u),(8,Z0 (Zu n.decls s.num)),(9,.i k),(11,Z0 xs1),(41,ZE n),(44,Z0 (us++fds)),(49,Zx x2),(50,Z0 xs1)] (Vh 10 11 ?_ ?_)
    ·refine dc 10 [] [] [] (ih (us++fds) x2 xs1 (mm+fds.length) hfk hok (by rw [Yx,hul]) ob (fun v hv=>by have:=hhf.2 v hv;omega) ob ob ob) ?_
     rintro _ _ ⟨y1,rfl,rfl,Y0⟩
     have hkb:=Y0
     have hkl:=hkb.len
     refine Z9 11 (dA 11 [] [] [nl,.i 0] ?_)
     intro b4
     refine Z9 12 (YK 12 0 [] [] b4 (Yn y1) (de ?_))
     exact ZV ⟨_,b4,(by assumption),rfl,rfl⟩ (wk [0,1,1,1,1] fl)
    refine dA 11 [1,2] [b2,b1] [nl,.i 0] ?_
    intro b5
    refine Z9 10 (dc 10 [] [] [] (ih (us++fds) x2 xs1 (mm+fds.length) hfk hok (by rw [Yx,hul]) ob (fun v hv=>by have:=hhf.2 v hv;omega) ob ob ob) ?_)
    rintro _ _ ⟨y2,rfl,rfl,YB⟩
    have hkb:=YB
    have hkl:=hkb.len
    refine Z9 12 (YK 12 0 [] [] b5 (Yn y2) (de ?_))
    exact ZV ⟨_,b5,(by assumption),rfl,rfl⟩ (wk [0,1,1,1,1] fl)
   refine dA 11 [1,2] [b2,b1] [nl,.i 0] ?_
   intro b6
   refine Z9 3 (dc 3 [] [2,3] [b2,b1] (Q2 us fds) ?_)
   rintro _ _ ⟨v5,rfl,rfl⟩
   refine Xa 2 2 [] [(1,Z0 us),(3,.p b1 0),(5,.p b2 0),(6,.p b3 0),(7,X4 ks u),(8,Z0 (Zu n.decls s.num)),(9,.i k),(11,Z0 xs1),(12,.p b6 0),(41,ZE n),(44,Z0 (us++fds)),(49,Zx x2),(50,Z0 xs1)] (Z9 10 (dc 10 [] [] [] (ih (us++fds) x2 xs1 (mm+fds.length) hfk hok (by rw [Yx,hul]) ob (fun v hv=>by have:=hhf.2 v hv;omega) ob ob ob) ?_))
   rintro _ _ ⟨y3,rfl,rfl,YN⟩
   have hkb:=YN
   have hkl:=hkb.len
   refine Z9 12 (YK 12 1 [] [] b6 (Yn y3) (de ?_))
   exact ZV ⟨_,b6,(by assumption),rfl,rfl⟩ (wk [0,1,1,1,1] fl)
  rintro F h ⟨y1,b4,Y0,rfl,rfl⟩
  have hkb:=Y0
  have hkl:=hkb.len
  refine aE 12 (W2 6 12 [0,1,3,4,6,7] [(1,Z0 us),(3,.p b1 0),(5,.p b2 0),(6,.p b3 0),(7,X4 ks u),(8,Z0 (Zu n.decls s.num)),(9,.i k),(52,X4 ks u),(53,Z0 xs1),(56,Yj y1.steps),(59,.i y1.result)] [0,0] [b4,b4] (Z9 2 (dc 2 [] [0,0] [b4,b4] (Qi 14 xs1) ?_)))
  rintro _ _ ⟨v6,rfl,rfl⟩
  refine Z9 5 (dp 5 0 [0] [b4] (Zt ((xs1.map (Zi 14))++y1.steps)) (Zt (xs1.map (Zi 14))) (Zt y1.steps) v6 none 5 (X8 _) (X8 _) (Vs _) (by simp<;>omega) (by simp [Wx,Zt]) ?_)
  intro v7
  refine ZY 3 4 [8] 60 (.agg [Yj ((xs1.map (Zi 14))++y1.steps),.i y1.result]) (Z9 9 (Wj 9 [] [] [Zx (Z7.mk ((xs1.map (Zi 14))++y1.steps) y1.result)] (YH [Z7.mk ((xs1.map (Zi 14))++y1.steps) y1.result]) (Um [Z7.mk ((xs1.map (Zi 14))++y1.steps) y1.result]).symm 1 2 ?_))
  intro v8
  refine ZZ 2 2 [] (.n 61 (Yz [Z7.mk ((xs1.map (Zi 14))++y1.steps) y1.result]) (.p .r)) (Z9 10 (dp 10 6 [] [] (YH (ks++[Z7.mk ((xs1.map (Zi 14))++y1.steps) y1.result])) (YH ks) (YH [Z7.mk ((xs1.map (Zi 14))++y1.steps) y1.result]) u none 2 (T0 _) (T0 _) (Df _) (by simp<;>omega) (by simp [J0,YH]) ?_))
  intro v9
  refine ZZ 0 1 [11] (.n 7 (X4 (ks++[Z7.mk ((xs1.map (Zi 14))++y1.steps) y1.result]) v9) (.q 62 (.k (.k (.q 57 (.q 54 (.w (.d .r)))))))) (de (az (Z1 1 24 (.i k) (ZO k (Z5 1 (.n 9 (.i (k+1:Nat)) (.p (.d (.k (.d (.d (.d (.d (.d (.w (.k .z))))))))))) (ie ?_))))))
  exact ZQ ⟨k+1,(ks++[Z7.mk ((xs1.map (Zi 14))++y1.steps) y1.result]),v9,ob,ob,((Zz.snoc Zp (by rw [Vv];exact hkb.put1 (op:=14) (.inl rfl) (fun v hv=>by have:=hhf.2 v hv;omega))).le om),rfl,rfl,rfl⟩ (wk [4,4,4,0] (fq (fw (ZW k fl))))
 refine ax 0 (aD 10 (W2 3 10 [0,1,2,3,4,5,7] [(6,.p b3 0),(64,.i s.op),(66,.i s.num),(68,Z0 s.args),(70,X4 ks u)] [1,1,1] [b2,b2,b2] (Z9 6 (dc 6 [] [1,1] [b2,b2] (VJ s.args) ?_))))
 rintro _ _ ⟨v10,rfl,rfl⟩
 refine ZY 1 2 [8] 71 (.agg [.i s.op,.i s.num,.i 0,Z6 s.args v10,X4 ks u]) (Z9 9 (YK 9 1 [] [] b3 [.i s.op,.i s.num,.i 0,Z6 s.args v10,X4 ks u] (de ?_)))
 exact Zc (r3 [] [.agg [.i s.op,.i s.num,.i 0,Z6 s.args v10,X4 ks u]] [0] [(b3,b3)] ⟨(Z4.mk s.op s.num 0 s.args ks),rfl,rfl,((KT.of (into:=0) hf h11 om om Zz).le (by have:=F3 (xs:=s.kids) (k:=k) om;omega))⟩ (Zg.agg (.cons (lr _) (.cons (lr _) (.cons (lr _) (.cons (Zg.forget _ _) (.cons (Zg.forget _ _) .nil)))))))
theorem S3 (n:Zy) (us:List Int) (b:Z7) (mi:List Int) (mm:Nat) (hn:Xe n) (hf:fB n.decls n.routines.length mm b) (hop:WW Wq b) (hul:us.length=mm) (hm:mm+4*b.sz<=100000) (hmr:∀v∈mi,0<=v/\v<(mm:Int)) (hml:mi.length<=3) (hbz:b.sz<=500) (ih:∀(us2:List Int) (b2:Z7) (mi2:List Int) (m2:Nat),(fB n.decls n.routines.length m2 b2)->(WW Wq b2)->(us2.length=m2)->(m2+4*b2.sz<=100000)->(∀v∈mi2,0<=v/\v<(m2:Int))->(mi2.length<=3)->(b2.sz<=500)->(b2.sz<b.sz)->Zj Tryz.prog 201 [ZE n,Z0 us2,Zx b2,Z0 mi2] [] (fun r h=>∃(y:Z7),r=Zx y/\h=[]/\KB n.decls n.routines.length m2 y (60*b2.sz))):Zj Tryz.prog 201 [ZE n,Z0 us,Zx b,Z0 mi] [] (fun r h=>∃(y:Z7),r=Zx y/\h=[]/\KB n.decls n.routines.length mm y (60*b.sz)):=by
 have Xu:=hn.decls
 have hbe:=b.sz_eq
 have ZD:=Vx b
 obtain ⟨hfs,hr1,hr2⟩:=(C4 b).1 hf
 have hos:=AO.1 ((E1 b).1 hop)
 have hdn:=Fg hos
 have hdl:=hdn b.steps.length (X7 _)
 rw [Vl] at hdl
 refine ZK 80 Tryz.func201 (ar (iA (ZU n) ?_))
 intro b1
 refine iA (Yn b) ?_
 intro b2
 refine iA [nl,.i 0] ?_
 intro b3
 refine ie (ar (iL (Zt []) 0 5 ?_))
 intro v1
 refine ir 1 [(1,Z0 us),(3,Z0 mi),(4,.p b1 0),(6,.p b2 0),(8,.p b3 0),(9,ZX [] v1)] (ie (ar (Z1 1 16 (Z0 us) (ic [] (VJ us) ?_))))
 rintro _ _ ⟨v2,rfl,rfl⟩
 refine Z1 1 10 (Z6 us v2) (ie (ar (Z1 1 18 (Z0 mi) (ic [] (VJ mi) ?_))))
 rintro _ _ ⟨v3,rfl,rfl⟩
 refine Z1 1 11 (Z6 mi v3) (ie (aq (ar (Z1 1 12 (.i 0) (ie (ab 0 (al (fun m F h=>∃(k:Nat) (vs:List Int) (w:Value) (ow:List Int) (u:Value) (xs:List Z4) (v:Value) (z0:Nat),(k<=b.steps.length)/\(vs.length=mm+k)/\(CL n.decls n.routines.length mm xs k z0)/\(z0+2*ow.length<=60*Yu (b.steps.take k)+2*mi.length)/\(∀v∈ow,0<=v/\v<((mm+k:Nat):Int))/\F=[(4,.p b1 0),(6,.p b2 0),(8,.p b3 0),(9,ZX xs v),(10,Z6 vs w),(11,Z6 ow u),(12,.i k)]/\h=[.obj b3 [nl,.i 0],.obj b2 (Yn b),.obj b1 (ZU n),.tail u 1,.tail v 5,.tail w 1]/\m=b.steps.length-k) _ _ _ ⟨0,us,v2,mi,v3,[],v1,0,ob,ob,CL.nil,(by simp),hmr,rfl,rfl,rfl⟩ (wk [3,3,3,0,1,0] (fq (fw (Ye fl)))) ?_)))))))
 rintro m F h ⟨k,vs,w,ow,u,xs,v,z0,Ym,Zp,Zz,YJ,Wd,rfl,rfl,rfl⟩
 refine aq (ar (Y1 3 20 (.i k) 22 (Yj b.steps) [1] [b2] (iw (VE b.steps) (Z1 1 24 (.b (decide ((k:Int)<(b.steps.length:Int)))) (ie (ZM ((k:Int)<(b.steps.length:Int)) (fun Ze=>?_) (fun Ze=>?_)))))))
 ·refine ak (aq (ab 1 (ar (Y1 3 28 (Yj b.steps) 29 (.i k) [1] [b2] ?_))))
  obtain ⟨x1,Z3⟩:=Zs (xs:=b.steps) (j:=k) om
  have XC:=AS Z3
  have hfS:=(Do x1).1 (C6 hfs Z3)
  rw [hdn k om] at hfS
  have hoS:=(Cx x1).1 (hos x1 (Y7 Z3))
  have htk:=H3 Z3
  have hse:=(x1).sz_eq
  have hal4:=hfS.alen
  have hxl:=Zz.len
  have htl:=Qk b.steps (k+1)
  refine Zq (Zo none (k:Int) 5 (Wy Z3)) (Z1 1 31 (Y4 x1) (iA [.i 0,.i 0,.i 0,nl,nl] ?_))
  intro b4
  refine ZH 0 b4 (Yg x1) (ie (ar (Y2 3 (.n 32 (ZE n) (.n 33 (Z0 vs) (.n 34 (Y4 x1) .r))) [3,0] [b1,b4] (ZA [] (H0 n vs x1 ob ob) (Z1 1 14 (.i (ZT n vs x1)) (ie (ar (Y2 4 (.n 36 (ZX xs v) (.n 37 (ZE n) (.n 38 (Z0 vs) (.n 39 (Y4 x1) .r)))) [3,0] [b1,b4] (ic [] (RG n vs x1 (mm+k) (hf:=hfS)) ?_)))))))))
  rintro _ _ ⟨zs1,rfl,rfl,ZP⟩
  have hdu:=ZP
  have hq1:=Zz.cnts (op:=14) (.inl rfl) (vs:=zs1) (fun v hv=>hfS.args v (hdu.2 v hv))
  have hl1:=hq1.len
  refine ic [] (Qi 14 zs1) ?_
  rintro _ _ ⟨v4,rfl,rfl⟩
  refine Z5 0 (.n 41 (Yj (zs1.map (Zi 14))) (.p .r)) (ip 6 (Zt (xs++(zs1.map (Zi 14)))) (Zt xs) (Zt (zs1.map (Zi 14))) v none 5 (X8 _) (X8 _) (Vs _) (by simp<;>omega) (by simp [Wx,Zt]) ?_)
  intro v5
  refine Z5 1 (.n 9 (ZX (xs++(zs1.map (Zi 14))) v5) (.p (.d (.p (.d (.d (.d (.d (.k (.p (.d (.d (.d (.q 13 (.d (.p (.d (.d (.d (.p (.d (.d (.k (.k (.k (.d .r)))))))))))))))))))))))))) (ie (ar (Y2 4 (.n 43 (ZX (xs++(zs1.map (Zi 14))) v5) (.n 44 (ZE n) (.n 45 (Z0 vs) (.n 46 (Y4 x1) .r)))) [5,2] [b1,b4] (ic [] (S4 n vs x1 (mm+k) b.sz (hf:=hfS) (h11:=hoS.1) (hop:=hoS.2) (ih:=ih)) ?_))))
  rintro _ _ ⟨y1,rfl,rfl,Y0⟩
  have hkt:=Y0
  have hq2:=hq1.kt hkt
  have hl2:=hq2.len
  refine VZ [Y4 y1] (Zt [y1]) (Vb [y1]).symm 1 5 ?_
  intro v6
  refine Z5 0 (.n 48 (Yj [y1]) (.p .r)) (ip 1 (Zt ((xs++(zs1.map (Zi 14)))++[y1])) (Zt (xs++(zs1.map (Zi 14)))) (Zt [y1]) v5 none 5 (X8 _) (X8 _) (Vs _) (by simp<;>omega) (by simp [Wx,Zt]) ?_)
  intro v7
  refine Z5 1 (.n 9 (ZX ((xs++(zs1.map (Zi 14)))++[y1]) v7) (.q 49 (.k (.q 47 (.w (.d .r)))))) (ie (aq (ar (Z1 2 51 (.b ((ZT n vs x1) != 0)) (ie (ac ((ZT n vs x1) != 0) Yc (fun Zk=>?_) (fun Zk=>?_)))))))
  ·refine az (Yo 2 52 (Z6 ow u) 53 (Z6 vs w) (iw (Yd vs) (iL (Z8 [(vs.length:Int)]) 1 1 ?_)))
   intro v8
   refine Z5 0 (.n 55 (Z0 [(vs.length:Int)]) (.p .r)) (ip 8 (Z8 (ow++[(vs.length:Int)])) (Z8 ow) (Z8 [(vs.length:Int)]) u none 1 (YD _) (YD _) (XY _) (by simp<;>omega) (by simp [XX,Z8]) ?_)
   intro v9
   refine Z5 1 (.n 11 (Z6 (ow++[(vs.length:Int)]) v9) (.p (.d (.p (.d (.d (.d (.k (.d (.d (.d (.d (.d (.d (.d (.k (.d (.w (.d .r))))))))))))))))))) (ie (az (Yo 2 57 (Z6 vs w) 58 (.i (ZT n vs x1)) (iL (Z8 [ZT n vs x1]) 1 1 ?_))))
   intro v10
   refine Z5 0 (.n 59 (Z0 [ZT n vs x1]) (.p .r)) (ip 10 (Z8 (vs++[ZT n vs x1])) (Z8 vs) (Z8 [ZT n vs x1]) w none 1 (YD _) (YD _) (XY _) (by simp<;>omega) (by simp [XX,Z8]) ?_)
   intro v11
   refine Z5 1 (.n 10 (Z6 (vs++[ZT n vs x1]) v11) (.p (.d (.d (.d (.k (.k (.d (.k (.k (.k (.d .r)))))))))))) (ie (az (Z1 1 25 (.i k) (ZO k (Z5 1 (.n 12 (.i (k+1:Nat)) (.p (.d (.w (.k (.k .z)))))) (ie ?_))))))
   exact ZQ ⟨k+1,(vs++[ZT n vs x1]),v11,(ow++[(vs.length:Int)]),v9,((xs++(zs1.map (Zi 14)))++[y1]),v7,_,ob,ob,hq2,(by (try simp only [Yx,YS,Xn]);omega),(by first|exact Xq (fun v hv=>by have:=Wd v hv;omega) om|exact (fun v hv=>by have:=Wd v hv;omega)),rfl,rfl,rfl⟩ (wk [8,8,8,2,3,0] (fq (fw (ZW k fl))))
  refine ak (az (Yo 2 57 (Z6 vs w) 58 (.i (ZT n vs x1)) (iL (Z8 [ZT n vs x1]) 1 1 ?_)))
  intro v12
  refine Z5 0 (.n 59 (Z0 [ZT n vs x1]) (.p .r)) (ip 9 (Z8 (vs++[ZT n vs x1])) (Z8 vs) (Z8 [ZT n vs x1]) w none 1 (YD _) (YD _) (XY _) (by simp<;>omega) (by simp [XX,Z8]) ?_)
  intro v13
  refine Z5 1 (.n 10 (Z6 (vs++[ZT n vs x1]) v13) (.p (.d (.d (.d (.d (.k (.d (.d (.d (.d (.d (.d (.d (.d (.d (.k (.k (.k (.d .r)))))))))))))))))))) (ie (az (Z1 1 25 (.i k) (ZO k (Z5 1 (.n 12 (.i (k+1:Nat)) (.p (.d (.w (.k (.k .z)))))) (ie ?_))))))
  exact ZQ ⟨k+1,(vs++[ZT n vs x1]),v13,ow,u,((xs++(zs1.map (Zi 14)))++[y1]),v7,_,ob,ob,hq2,(by (try simp only [Yx,YS,Xn]);omega),(by first|exact Xq (fun v hv=>by have:=Wd v hv;omega) om|exact (fun v hv=>by have:=Wd v hv;omega)),rfl,rfl,rfl⟩ (wk [6,6,6,6,2,0] (fq (fw (ZW k fl))))
 have hxl:=Zz.len
 have htl:=Qk b.steps k
 refine ax 0 (aq (ar (Y1 3 61 (Z6 vs w) 63 (.i b.result) [1] [b2] ?_)))
 obtain ⟨x2,Zv⟩:=Zs (xs:=vs) (j:=b.result.toNat) om
 refine Zq (Zo (some w) b.result 1 (Y3 Zv)) (Z1 2 66 (.b (x2 != 0)) (ie (ac (x2 != 0) Yc (fun ZI=>?_) (fun ZI=>?_))))
 ·refine az (Y1 3 67 (ZX xs v) 69 (.i b.result) [1] [b2] (ZA [] (KI 14 b.result) (VZ [Y4 (Zi 14 b.result)] (Zt [Zi 14 b.result]) (Vb [Zi 14 b.result]).symm 1 5 ?_)))
  intro v14
  refine Z5 0 (.n 71 (Yj [Zi 14 b.result]) (.p .r)) (ip 5 (Zt (xs++[Zi 14 b.result])) (Zt xs) (Zt [Zi 14 b.result]) v none 5 (X8 _) (X8 _) (Vs _) (by simp<;>omega) (by simp [Wx,Zt]) ?_)
  intro v15
  refine ir 1 [(6,.p b2 0),(8,.p b3 0),(9,ZX (xs++[Zi 14 b.result]) v15),(11,Z6 ow u)] (ie (aD 8 (Y6 4 8 [0,1,4,5] (.n 73 (ZX (xs++[Zi 14 b.result]) v15) (.n 74 (Z0 ow) (.n 78 (.i b.result) .r))) [3] [b2] (Z9 2 (dc 2 [] [1] [b2] (Qi 15 ow) ?_)))))
  rintro _ _ ⟨v16,rfl,rfl⟩
  refine ZZ 3 3 [] (.n 75 (Yj (ow.map (Zi 15))) (.p .r)) (Z9 3 (dp 3 1 [1] [b2] (Zt ((xs++[Zi 14 b.result])++(ow.map (Zi 15)))) (Zt (xs++[Zi 14 b.result])) (Zt (ow.map (Zi 15))) v15 none 5 (X8 _) (X8 _) (Vs _) (by simp<;>omega) (by simp [Wx,Zt]) ?_))
  intro v17
  refine ZY 1 2 [6] 79 (.agg [ZX ((xs++[Zi 14 b.result])++(ow.map (Zi 15))) v17,.i b.result]) (Z9 7 (YK 7 3 [] [] b3 [ZX ((xs++[Zi 14 b.result])++(ow.map (Zi 15))) v17,.i b.result] (de ?_)))
  exact Zc (r3 [] [.agg [ZX ((xs++[Zi 14 b.result])++(ow.map (Zi 15))) v17,.i b.result]] [0] [(b3,b3)] ⟨(Z7.mk ((xs++[Zi 14 b.result])++(ow.map (Zi 15))) b.result),rfl,rfl,((((Zz.cnt (op:=14) (.inl rfl) om).cnts (op:=15) (.inr rfl) (fun v hv=>by have:=Wd v hv;omega)).block om).le (by have:=Qk b.steps k;omega))⟩ (Zg.agg (.cons (Zg.forget _ _) (.cons (lr _) .nil))))
 refine ak (aD 8 (Y6 4 8 [0,1,4,5] (.n 73 (ZX xs v) (.n 74 (Z0 ow) (.n 78 (.i b.result) .r))) [1] [b2] (Z9 2 (dc 2 [] [1] [b2] (Qi 15 ow) ?_))))
 rintro _ _ ⟨v18,rfl,rfl⟩
 refine ZZ 3 3 [] (.n 75 (Yj (ow.map (Zi 15))) (.p .r)) (Z9 3 (dp 3 5 [1] [b2] (Zt (xs++(ow.map (Zi 15)))) (Zt xs) (Zt (ow.map (Zi 15))) v none 5 (X8 _) (X8 _) (Vs _) (by simp<;>omega) (by simp [Wx,Zt]) ?_))
 intro v19
 refine ZY 1 2 [6] 79 (.agg [ZX (xs++(ow.map (Zi 15))) v19,.i b.result]) (Z9 7 (YK 7 2 [] [] b3 [ZX (xs++(ow.map (Zi 15))) v19,.i b.result] (de ?_)))
 exact Zc (r3 [] [.agg [ZX (xs++(ow.map (Zi 15))) v19,.i b.result]] [0] [(b3,b3)] ⟨(Z7.mk (xs++(ow.map (Zi 15))) b.result),rfl,rfl,(((Zz.cnts (op:=15) (.inr rfl) (fun v hv=>by have:=Wd v hv;omega)).block om).le (by have:=Qk b.steps k;omega))⟩ (Zg.agg (.cons (Zg.forget _ _) (.cons (lr _) .nil))))
theorem S2 (n:Zy) (us:List Int) (b:Z7) (mi:List Int) (mm:Nat) (hn:Xe n:=by exact ob) (hf:fB n.decls n.routines.length mm b:=by exact ob) (hop:WW Wq b:=by exact ob) (hul:us.length=mm:=by exact ob) (hm:mm+4*b.sz<=100000:=by exact ob) (hmr:∀v∈mi,0<=v/\v<(mm:Int)) (hml:mi.length<=3:=by exact ob) (hbz:b.sz<=500:=by exact ob):Zj Tryz.prog 201 [ZE n,Z0 us,Zx b,Z0 mi] [] (fun r h=>∃(y:Z7),r=Zx y/\h=[]/\KB n.decls n.routines.length mm y (60*b.sz)):=by
 have key:∀k:Nat,∀(us2:List Int) (b2:Z7) (mi2:List Int) (m2:Nat),(fB n.decls n.routines.length m2 b2)->(WW Wq b2)->(us2.length=m2)->(m2+4*b2.sz<=100000)->(∀v∈mi2,0<=v/\v<(m2:Int))->(mi2.length<=3)->(b2.sz<=500)->(b2.sz<k)->Zj Tryz.prog 201 [ZE n,Z0 us2,Zx b2,Z0 mi2] [] (fun r h=>∃(y:Z7),r=Zx y/\h=[]/\KB n.decls n.routines.length m2 y (60*b2.sz)):=by
  intro k
  induction k with
  | zero=>intro us2 b2 mi2 m2 h1 h2 h3 h4 h5 h6 h7 h9;omega
  | succ k ih=>intro us2 b2 mi2 m2 h1 h2 h3 h4 h5 h6 h7 h9;exact S3 n us2 b2 mi2 m2 hn h1 h2 h3 h4 h5 h6 h7 fun us3 b3 mi3 m3 q1 q2 q3 q4 q5 q6 q7 q9=>ih us3 b3 mi3 m3 q1 q2 q3 q4 q5 q6 q7 om
 exact key (b.sz+1) us b mi mm hf hop hul hm hmr hml hbz om
theorem Sn (rt:Yf) (hp:rt.params.length<=1000000:=by exact ob) (hl:rt.lent.length<=1000000:=by exact ob):Zj Tryz.prog 202 [WZ rt] [] (fun r h=>∃(os:List Int),r=Z0 os/\h=[]/\os.length<=rt.params.length/\∀v∈os,0<=v/\v<(rt.params.length:Int)):=by
 refine ZK 31 Tryz.func202 (ar (iA (VO rt) ?_))
 intro b1
 refine ir 1 [(1,.p b1 0)] (ie (ar (iL (Z8 []) 0 1 ?_)))
 intro v1
 refine Z1 1 3 (Z6 [] v1) (ie (aq (ar (Z1 1 4 (.i 0) (ie (ab 0 (al (fun m F h=>∃(k:Nat) (os:List Int) (u:Value),(k<=rt.params.length)/\(os.length<=k)/\(∀v∈os,0<=v/\v<(rt.params.length:Int))/\F=[(1,.p b1 0),(3,Z6 os u),(4,.i k)]/\h=[.obj b1 (VO rt),.tail u 1]/\m=rt.params.length-k) _ _ _ ⟨0,[],v1,ob,ob,(fun v hv=>by cases hv),rfl,rfl,rfl⟩ (wk [1,0] (fw (Ye fl))) ?_)))))))
 rintro m F h ⟨k,os,u,Ym,Zp,Zz,rfl,rfl,rfl⟩
 refine aq (ar (Y1 3 6 (.i k) 8 (Z0 rt.params) [0] [b1] (iw (Yd rt.params) (Z1 1 10 (.b (decide ((k:Int)<(rt.params.length:Int)))) (ie (ZM ((k:Int)<(rt.params.length:Int)) (fun Ze=>?_) (fun Ze=>?_)))))))
 ·refine ak (aq (ab 1 (ar (Y1 3 14 (Z0 rt.params) 15 (.i k) [0] [b1] ?_))))
  obtain ⟨x1,Z3⟩:=Zs (xs:=rt.params) (j:=k) om
  refine Zq (Zo none (k:Int) 1 (Y3 Z3)) (Xp [(1,.p b1 0),(3,Z6 os u),(4,.i k),(25,.b ((x1 != 0)&&(!(decide ((k:Int)∈rt.lent)))))] [.obj b1 (VO rt),.tail u 1] ?_ ?_)
  ·refine ir 3 [(1,.p b1 0),(3,Z6 os u),(4,.i k),(19,.b (x1 != 0))] (ib (b:=(x1 != 0)) 19 (fun Za=>?_) (fun Za=>?_))
   ·have ZP:x1≠0:=(Yc).1 Za
    refine Y2 3 (.n 21 (Z0 rt.lent) (.n 22 (.i k) (.w .z))) [0] [b1] (ZA [] (U0 rt.lent (k:Int)) (Z1 2 25 (.b (!(decide ((k:Int)∈rt.lent)))) (ie ?_)))
    exact wk [0,0] (fw (fr (Zr (!(decide ((k:Int)∈rt.lent))) Za fl)))
   have Y0:¬(x1≠0):=ZG Yc Za
   refine Z5 6 (.n 25 (.b false) (.d (.k (.k (.k .z))))) (ie ?_)
   exact wk [0,0] (fw (fr (Zr false Za fl)))
  refine ac ((x1 != 0)&&(!(decide ((k:Int)∈rt.lent)))) (p:=(x1≠0)/\(¬((k:Int)∈rt.lent))) (YE Yc (Yt dq)) (fun Zk=>?_) (fun Zk=>?_)
  ·refine az (ir 2 [(1,.p b1 0),(4,.i k),(26,Z6 os u),(27,.i k)] (iL (Z8 [(k:Int)]) 1 1 ?_))
   intro v2
   refine Z5 0 (.n 28 (Z0 [(k:Int)]) (.p .r)) (ip 2 (Z8 (os++[(k:Int)])) (Z8 os) (Z8 [(k:Int)]) u none 1 (YD _) (YD _) (XY _) (by simp<;>omega) (by simp [XX,Z8]) ?_)
   intro v3
   refine Z1 1 3 (Z6 (os++[(k:Int)]) v3) (ie (az (Z1 1 11 (.i k) (ZO k (Z5 1 (.n 4 (.i (k+1:Nat)) (.p (.d (.k (.p (.d (.k .z))))))) (ie ?_))))))
   exact ZQ ⟨k+1,(os++[(k:Int)]),v3,ob,ob,(by first|exact Zz|exact Xq Zz om),rfl,rfl,rfl⟩ (wk [2,0] (fw (ZW k fl)))
  refine ak (az (ir 1 [(1,.p b1 0),(3,Z6 os u),(11,.i k)] (ZO k (Z1 1 4 (.i (k+1:Nat)) (ie ?_)))))
  exact ZQ ⟨k+1,os,u,ob,ob,(by first|exact Zz|exact Xq Zz om),rfl,rfl,rfl⟩ (wk [0,0] (fw (ZW k fl)))
 refine ax 0 (ar (ir 2 [(2,Z6 os u)] (ie ?_)))
 exact Zc (r2 [] [Z6 os u] ⟨os,rfl,rfl,⟨by omega,Zz⟩⟩ (Zg.forget _ _))
theorem S1 (n:Zy) (qz:Nat) (hn:FO n qz Wq:=by exact ob) (hqz:qz<=181:=by exact ob):Zj Tryz.prog 160 [ZE n] [] (fun r h=>∃(n2:Zy),r=ZE n2/\h=[]/\FO n2 (60*qz) V9):=by
 have hnl:=hn.fn.len
 have Xu:=hn.fn.decls.ok
 have hok:=hn.fn.ok
 refine ZK 39 Tryz.func160 (ar (iA (ZU n) ?_))
 intro b1
 refine iA [nl,nl] ?_
 intro b2
 refine ie (ar (iR 2 [(1,.p b1 0),(2,.p b2 0),(7,Zd n.decls)] [1] [b1] (ZA [] (AQ n.decls) (iL (YM []) 0 5 ?_))))
 intro v1
 refine Z1 1 10 (.agg [Zd n.decls,Xh [] v1]) (iA [nl,nl] ?_)
 intro b3
 refine ZH 0 b3 [Zd n.decls,Xh [] v1] (ie (aq (ar (Z1 1 4 (.i 0) (ie (ab 0 (al (fun m F h=>∃(k:Nat) (rs:List Yf) (u:Value),(k<=n.routines.length)/\(rs.length=k)/\(∀r∈rs,RF n.decls n.routines.length (60*qz) V9 r)/\F=[(1,.p b1 0),(2,.p b2 0),(3,.p b3 0),(4,.i k)]/\h=[.obj b3 [Zd n.decls,Xh rs u],.obj b2 [nl,nl],.obj b1 (ZU n),.tail u 5]/\m=n.routines.length-k) _ _ _ ⟨0,[],v1,ob,ob,(fun r hr=>by cases hr),rfl,rfl,rfl⟩ (wk [0,1,1,0] (fw (fr (Ye fl)))) ?_)))))))
 rintro m F h ⟨k,rs,u,Ym,Zp,Zz,rfl,rfl,rfl⟩
 refine aq (ar (Y1 3 11 (.i k) 13 (YZ n.routines) [2] [b1] (iw (U8 n.routines) (Z1 1 15 (.b (decide ((k:Int)<(n.routines.length:Int)))) (ie (ZM ((k:Int)<(n.routines.length:Int)) (fun Ze=>?_) (fun Ze=>?_)))))))
 ·refine ak (aq (ab 1 (ar (Y1 3 19 (YZ n.routines) 20 (.i k) [2] [b1] ?_))))
  obtain ⟨x1,Z3⟩:=Zs (xs:=n.routines) (j:=k) om
  have hrf:=hn.rf (Y7 Z3)
  have hrp:(x1).params.length<=3:=(UL.bd (f:=⟨(x1).params,(x1).result,default⟩) hrf.sig).1
  have hrl:=hrf.lent.1
  have hrz:=hrf.body.2
  refine Zq (Zo none (k:Int) 5 (WB Z3)) (Z1 1 22 (WZ x1) (iA [nl,nl,.i 0,nl,.i 0] ?_))
  intro b4
  refine ZH 0 b4 (VO x1) (ie (aE 16 (Y6 7 16 [0,1,2,3,4,5,6,7,8] (.n 24 (Xh rs u) (.n 25 (WZ x1) (.n 26 (ZE n) (.n 28 (Z0 x1.params) (.n 30 (Zx x1.body) (.n 31 (WZ x1) .r)))))) [1,0,3,0,0,0] [b3,b4,b1,b4,b4,b4] (Z9 9 (dc 9 [] [0,0,3,0,1] [b4,b4,b1,b4,b3] (Sn x1) ?_)))))
  rintro _ _ ⟨os1,rfl,rfl,ZP⟩
  have hop:=ZP
  refine Z9 10 (dc 10 [] [0,1] [b4,b3] (S2 n x1.params x1.body os1 _ (hf:=hrf.body.1) (hop:=hrf.op) (hul:=rfl) (hmr:=hop.2)) ?_)
  rintro _ _ ⟨y1,rfl,rfl,Y0⟩
  have hkb0:=Y0
  have hkb:=hkb0.le (z2:=60*qz) om
  refine Z9 11 (Ys 11 [] [1] [b3] (BK x1 y1 (hp:=om) (hl:=om)) (Z9 12 (dL 12 [1] [b3] (YM [Yf.mk x1.params x1.lent x1.result y1]) 1 5 ?_)))
  intro v2
  refine ZZ 3 3 [] (.n 35 (YZ [Yf.mk x1.params x1.lent x1.result y1]) (.p .r)) (Z9 13 (dp 13 5 [] [] (YM (rs++[Yf.mk x1.params x1.lent x1.result y1])) (YM rs) (YM [Yf.mk x1.params x1.lent x1.result y1]) u none 5 (U7 _) (U7 _) (JM _) (by simp<;>omega) (by simp [Aw,YM]) ?_))
  intro v3
  refine ZY 1 2 [14] 37 (.p b3 1) (Z9 15 (YK 15 3 [] [] b3 [Zd n.decls,Xh (rs++[Yf.mk x1.params x1.lent x1.result y1]) v3] (de (az (Z1 1 16 (.i k) (ZO k (ir 1 [(1,.p b1 0),(2,.p b2 0),(3,.p b3 0),(4,.i (k+1:Nat))] (ie ?_))))))))
  exact ZQ ⟨k+1,(rs++[Yf.mk x1.params x1.lent x1.result y1]),v3,ob,ob,(Xq Zz (by first|exact hrf.with hkb.fb hkb.sz hkb.op|(rw [Z7.eta];exact hrf.with hkb.fb hkb.sz hkb.op))),rfl,rfl,rfl⟩ (wk [0,3,3,0] (fw (fr (ZW k fl))))
 refine ax 0 (ar (Yk 1 38 (.agg [Zd n.decls,Xh rs u]) [0] [b3] (ZH 1 b2 [Zd n.decls,Xh rs u] (ie ?_))))
 exact Zc (r3 [] [.agg [Zd n.decls,Xh rs u]] [0] [(b2,b2)] ⟨(Zy.mk n.decls rs),rfl,rfl,(FO.fin hn.fn om Zz).1⟩ (Zg.agg (.cons (lr _) (.cons (Zg.forget _ _) .nil))))
theorem Nj (s:Z4) :Zj Tryz.prog 206 [Y4 s] [] (fun r h=>r=.b ((s.op==14)||(s.op==15))/\h=[]):=by
 refine ZK 11 Tryz.func206 (ar (iA (Yg s) ?_))
 intro b1
 refine ir 1 [(1,.p b1 0)] (ie (ar (XP 8 [(10,.b ((s.op==14)||(s.op==15)))] [.obj b1 (Yg s)] ?_ (fun hj1=>?_))))
 ·refine ir 1 [(2,.b ((s.op==14)||(s.op==15)))] (ie ?_)
  exact Zc (r1 [] ⟨rfl,rfl⟩)
 refine iR 4 [(1,.p b1 0),(6,.b (s.op==14))] [0] [b1] (ib (b:=(s.op==14)) 6 (fun Za=>?_) (fun Za=>?_))
 ·have ZP:s.op=14:=(Zh).1 Za
  refine ir 4 [(10,.b true)] ?_
  exact YG (wk [0] (Zr true Za fl)) hj1
 have Y0:¬(s.op=14):=ZG Zh Za
 refine iR 4 [(10,.b (s.op==15))] [0] [b1] ?_
 exact YG (wk [0] (Zr (s.op==15) Za fl)) hj1
theorem SA (rn:List Z4) (hrn:∀s∈rn,∃a,s.args=[a]) (hl:rn.length<=100000000:=by exact ob):Zj Tryz.prog 237 [Yj rn] [] (fun r h=>∃(vs:List Int),r=Z0 vs/\h=[]/\Al vs/\vs.length<=rn.length/\∀v∈vs,∃s∈rn,s.args=[v]):=by
 refine ZK 22 Tryz.func237 (ar (ir 1 [(0,Yj rn)] (ie (ar (iL (Z8 []) 0 1 ?_)))))
 intro v1
 refine Z1 1 3 (Z6 [] v1) (ie (aq (ar (Z1 1 4 (.i 0) (ie (ab 0 (al (fun m F h=>∃(k:Nat) (vs:List Int),(k<=rn.length)/\(vs.length<=k)/\(Al vs)/\(∀v∈vs,∃s∈rn,s.args=[v])/\F=[(0,Yj rn),(3,Z0 vs),(4,.i k)]/\h=[]/\m=rn.length-k) _ _ _ ⟨0,[],ob,ob,List.Pairwise.nil,(fun v hv=>by cases hv),rfl,rfl,rfl⟩ (wk [] (fr (fc (x:=Z6 [] v1) (Zg.forget _ _) (Ye fl)))) ?_)))))))
 rintro m F h ⟨k,vs,Ym,Zp,Zz,YJ,rfl,rfl,rfl⟩
 refine aq (ar (Yo 2 6 (.i k) 7 (Yj rn) (iw (VE rn) (Z1 1 9 (.b (decide ((k:Int)<(rn.length:Int)))) (ie (ZM ((k:Int)<(rn.length:Int)) (fun Ze=>?_) (fun Ze=>?_)))))))
 ·refine ak (aq (ab 1 (az (Z5 3 (.n 12 (Z0 vs) (.n 13 (Yj rn) (.n 14 (.i k) .r))) ?_))))
  obtain ⟨x1,Z3⟩:=Zs (xs:=rn) (j:=k) om
  have hxm:=Y7 Z3
  obtain ⟨xa,hxa⟩:=hrn _ hxm
  refine Zq (Zo none (k:Int) 5 (Wy Z3)) (Z1 2 17 (Z0 x1.args) ?_)
  obtain ⟨x2,Zv⟩:=Zs (xs:=x1.args) (j:=0) (by rw [hxa];simp)
  have hxe:x1.args=[x2]:=by have h:=Zv;rw [hxa] at h;rw [hxa];simpa using h
  refine Zq (Zo none 0 1 (Y3 Zv)) (Z1 1 19 (.i x2) (ic [] (Ca vs x2) ?_))
  rintro _ _ ⟨v2,rfl,rfl⟩
  refine ir 1 [(0,Yj rn),(3,Z6 (V3 vs x2) v2),(4,.i k)] (ie (az (Z1 1 10 (.i k) (ZO k (Z5 1 (.n 4 (.i (k+1:Nat)) (.p (.d (.k (.k .z))))) (ie ?_))))))
  exact ZQ ⟨k+1,(V3 vs x2),ob,(by have:=Bs vs x2;omega),(Lm Zz),(fun v hv=>(Ci.1 hv).elim (YJ v) (fun e=>⟨x1,hxm,by rw [e];exact hxe⟩)),rfl,rfl,rfl⟩ (wk [] (fr (fc (x:=Z6 (V3 vs x2) v2) (Zg.forget _ _) (ZW k fl))))
 refine ax 0 (ar (ir 2 [(2,Z0 vs)] (ie ?_)))
 exact Zc (r1 [] ⟨vs,rfl,rfl,⟨Zz,by omega,YJ⟩⟩)
theorem Se (rn:List Z4) (v:Int) (hrn:∀s∈rn,∃a,s.args=[a]) (hl:rn.length<=100000000:=by exact ob):Zj Tryz.prog 238 [Yj rn,.i v] [] (fun r h=>∃(z:Int),r=.i z/\h=[]/\-((Vg rn v:Nat):Int)<=z/\z<=((Vg rn v:Nat):Int)):=by
 refine ZK 44 Tryz.func238 (ar (ir 1 [(0,Yj rn),(1,.i v)] (ie (ar (Z1 1 5 (.i 0) (ie (aq (ar (Z1 1 6 (.i 0) (ie (ab 0 (al (fun m F h=>∃(k:Nat) (z:Int),(k<=rn.length)/\(-((Vg (rn.take k) v:Nat):Int)<=z/\z<=((Vg (rn.take k) v:Nat):Int))/\F=[(0,Yj rn),(1,.i v),(5,.i z),(6,.i k)]/\h=[]/\m=rn.length-k) _ _ _ ⟨0,0,ob,(by simp [Vg]),rfl,rfl,rfl⟩ (wk [] (fw (fr (Ye fl)))) ?_))))))))))))
 rintro m F h ⟨k,z,Ym,Zp,rfl,rfl,rfl⟩
 refine aq (ar (Yo 2 7 (.i k) 8 (Yj rn) (iw (VE rn) (Z1 1 10 (.b (decide ((k:Int)<(rn.length:Int)))) (ie (ZM ((k:Int)<(rn.length:Int)) (fun Ze=>?_) (fun Ze=>?_)))))))
 ·refine ak (aq (ab 1 (ar (Yo 2 13 (Yj rn) 14 (.i k) ?_))))
  obtain ⟨x1,Z3⟩:=Zs (xs:=rn) (j:=k) om
  have hxm:=Y7 Z3
  obtain ⟨xa,hxa⟩:=hrn _ hxm
  have hct:=P1 Z3 v
  have hcl:=P2 rn (k+1) v
  have hcm:=HY rn v
  refine Zq (Zo none (k:Int) 5 (Wy Z3)) (Z1 2 17 (Z0 x1.args) ?_)
  obtain ⟨x2,Zv⟩:=Zs (xs:=x1.args) (j:=0) (by rw [hxa];simp)
  have hg0:=J7 Zv
  rw [hg0] at hct
  refine Zq (Zo none 0 1 (Y3 Zv)) (Xp [(0,Yj rn),(1,.i v),(5,.i z),(6,.i k),(29,.b ((x2==v)&&(x1.op==14)))] [] ?_ ?_)
  ·refine ir 4 [(0,Yj rn),(1,.i v),(5,.i z),(6,.i k),(22,.b (x2==v))] (ib (b:=(x2==v)) 22 (fun Za=>?_) (fun Za=>?_))
   ·have ZP:x2=v:=(Zh).1 Za
    refine Z5 2 (.n 23 (Yj rn) (.n 24 (.i k) (.w (.k .z)))) (Zq (Zo none (k:Int) 5 (Wy Z3)) (Z1 4 29 (.b (x1.op==14)) (ie ?_)))
    exact wk [] (fq (Zr (x1.op==14) Za fl))
   have Y0:¬(x2=v):=ZG Zh Za
   refine Z5 7 (.n 29 (.b false) (.d (.w .z))) (ie ?_)
   exact wk [] (fq (Zr false Za fl))
  refine ac ((x2==v)&&(x1.op==14)) (p:=(x2=v)/\(x1.op=14)) (YE Zh Zh) (fun Zk=>?_) (fun Zk=>?_)
  ·refine az (ir 1 [(0,Yj rn),(1,.i v),(6,.i k),(30,.i z)] (ia ((z+1)) ((z)+(1)) (Z1 1 5 (.i (z+1)) (ie (az (Z1 1 11 (.i k) (ZO k (Z5 1 (.n 6 (.i (k+1:Nat)) (.p (.d (.k (.p (.k (.k .z))))))) (ie ?_)))))))))
   exact ZQ ⟨k+1,(z+1),ob,(by first|(rw [hct,Zm om];omega)|(rw [hct,Zb om];omega)),rfl,rfl,rfl⟩ (wk [] (fw (fr (ZW k fl))))
  refine ar (ir 2 [(0,Yj rn),(1,.i v),(5,.i z),(6,.i k),(32,Yj rn),(33,.i k)] (Zq (Zo none (k:Int) 5 (Wy Z3)) (Z1 2 36 (Z0 x1.args) (Zq (Zo none 0 1 (Y3 Zv)) (Z1 3 40 (.b (x2==v)) (ie (ac (x2==v) Zh (fun ZI=>?_) (fun ZI=>?_))))))))
  ·refine az (Z1 1 41 (.i z) (ia ((z-1)) ((z)-(1)) (ir 1 [(0,Yj rn),(1,.i v),(5,.i (z-1)),(6,.i k)] (ie (az (Z1 1 11 (.i k) (ZO k (Z5 1 (.n 6 (.i (k+1:Nat)) (.p (.d (.k (.k (.k .z)))))) (ie ?_)))))))))
   exact ZQ ⟨k+1,(z-1),ob,(by first|(rw [hct,Zm om];omega)|(rw [hct,Zb om];omega)),rfl,rfl,rfl⟩ (wk [] (fw (fr (ZW k fl))))
  refine ak (az (Z1 1 11 (.i k) (ZO k (ir 1 [(0,Yj rn),(1,.i v),(5,.i z),(6,.i (k+1:Nat))] (ie ?_)))))
  exact ZQ ⟨k+1,z,ob,(by first|(rw [hct,Zm om];omega)|(rw [hct,Zb om];omega)),rfl,rfl,rfl⟩ (wk [] (fw (fr (ZW k fl))))
 refine ax 0 (ar (ir 2 [(4,.i z)] (ie ?_)))
 exact Zc (r1 [] ⟨z,rfl,rfl,(by have e:=Zp;rw [Ve om] at e;exact e)⟩)
theorem IY (rn:List Z4) (hrn:∀s∈rn,∃a,s.args=[a]) (hl:rn.length<=100000000:=by exact ob):Zj Tryz.prog 207 [Yj rn] [] (fun r h=>∃(D:List Int) (R:List Int) (v:Value),r=ZX (D.map (Zi 14)++R.map (Zi 15)) v/\h=[.tail v 5]/\D.length+R.length<=rn.length/\(∀v∈D,∃s∈rn,s.args=[v])/\∀v∈R,∃s∈rn,s.args=[v]):=by
 refine ZK 51 Tryz.func207 (ar (ir 1 [(0,Yj rn)] (ie (ar (iL (Z8 []) 0 1 ?_)))))
 intro v1
 refine Z1 1 3 (Z6 [] v1) (ie (ar (iL (Z8 []) 0 1 ?_)))
 intro v2
 refine Z1 1 4 (Z6 [] v2) (ie (ar (Z1 1 10 (Yj rn) (ic [] (SA rn (hrn:=ob)) ?_))))
 rintro _ _ ⟨vs1,rfl,rfl,ZP⟩
 have hvo:=ZP
 have hsl:=NG rn hvo.1
 refine Z1 1 5 (Z0 vs1) (ie (aq (ar (Z1 1 6 (.i 0) (ie (ab 0 (al (fun m F h=>∃(k:Nat) (D:List Int) (u:Value) (R:List Int) (w:Value),(k<=vs1.length)/\(D.length+R.length<=V8 rn (vs1.take k))/\(∀v∈D,v∈vs1)/\(∀v∈R,v∈vs1)/\F=[(0,Yj rn),(3,Z6 D u),(4,Z6 R w),(5,Z0 vs1),(6,.i k)]/\h=[.tail u 1,.tail w 1]/\m=vs1.length-k) _ _ _ ⟨0,[],v1,[],v2,ob,(by simp [V8]),(fun v hv=>by cases hv),(fun v hv=>by cases hv),rfl,rfl,rfl⟩ (wk [1,0] (fq (Ye fl))) ?_)))))))
 rintro m F h ⟨k,D,u,R,w,Ym,Zp,Zz,YJ,rfl,rfl,rfl⟩
 refine aq (ar (Yo 2 12 (.i k) 13 (Z0 vs1) (iw (Yd vs1) (Z1 1 15 (.b (decide ((k:Int)<(vs1.length:Int)))) (ie (ZM ((k:Int)<(vs1.length:Int)) (fun Ze=>?_) (fun Ze=>?_)))))))
 ·refine ak (aq (ab 1 (ar (Z5 3 (.n 18 (Yj rn) (.n 19 (Z0 vs1) (.n 20 (.i k) .r))) ?_))))
  obtain ⟨x1,Z3⟩:=Zs (xs:=vs1) (j:=k) om
  have hst:=Z6l (rn:=rn) Z3
  have hsk:=H5 rn vs1 (k+1)
  have hxm:=Y7 Z3
  refine Zq (Zo none (k:Int) 1 (Y3 Z3)) (Z1 1 22 (.i x1) (ic [] (Se rn x1 (hrn:=ob)) ?_))
  rintro _ _ ⟨z1,rfl,rfl,Y0⟩
  have hnt:=Y0
  refine Z1 1 7 (.i z1) (ie (aq (ab 2 (al (fun m F h=>∃(z:Int) (D2:List Int) (u2:Value) (w2:Value),((D2.length:Int)+(R.length:Int)+z<=((V8 rn (vs1.take k):Nat):Int)+((Vg rn x1:Nat):Int))/\((D2.length:Int)+(R.length:Int)-z<=((V8 rn (vs1.take k):Nat):Int)+((Vg rn x1:Nat):Int))/\(∀v∈D2,v∈vs1)/\F=[(0,Yj rn),(3,Z6 D2 u2),(4,Z6 R w2),(5,Z0 vs1),(6,.i k),(7,.i z)]/\h=[.tail u2 1,.tail w2 1]/\m=z.toNat) _ _ _ ⟨z1,D,u,w,om,om,Zz,rfl,rfl,rfl⟩ (wk [0,0] fl) ?_))))
  rintro m F h ⟨z,D2,u2,w2,Uj,We,XJ,rfl,rfl,rfl⟩
  refine aq (ar (Z1 2 25 (.b (decide (z>0))) (ie (ZM (z>0) (fun Zk=>?_) (fun Zk=>?_)))))
  ·refine ak (aq (ab 3 (az (Z5 3 (.n 28 (Z6 D2 u2) (.n 29 (Z0 vs1) (.n 30 (.i k) .r))) (Zq (Zo none (k:Int) 1 (Y3 Z3)) (Z1 1 32 (.i x1) (iL (Z8 [x1]) 1 1 ?_)))))))
   intro v3
   refine Z5 0 (.n 33 (Z0 [x1]) (.p .r)) (ip 1 (Z8 (D2++[x1])) (Z8 D2) (Z8 [x1]) u2 none 1 (YD _) (YD _) (XY _) (by simp<;>omega) (by simp [XX,Z8]) ?_)
   intro v4
   refine Z5 1 (.n 3 (Z6 (D2++[x1]) v4) (.p (.d (.d (.p (.d (.d (.d (.d (.k (.d .r))))))))))) (ie (az (Z1 1 26 (.i z) (ia ((z-1)) ((z)-(1)) (Z5 1 (.n 7 (.i (z-1)) (.p (.d (.w (.k .z))))) (ie ?_))))))
   exact ZQ ⟨(z-1),(D2++[x1]),v4,w2,(by simp only [Yx,YS,Xn];omega),(by simp only [Yx,YS,Xn];omega),(Xq XJ hxm),rfl,rfl,rfl⟩ (wk [0,1] fl)
  refine ax 2 (ab 4 (al (fun m F h=>∃(y:Int) (R2:List Int) (u3:Value) (w3:Value),((D2.length:Int)+(R2.length:Int)+y<=((V8 rn (vs1.take k):Nat):Int)+((Vg rn x1:Nat):Int))/\((D2.length:Int)+(R2.length:Int)-y<=((V8 rn (vs1.take k):Nat):Int)+((Vg rn x1:Nat):Int))/\(∀v∈R2,v∈vs1)/\F=[(0,Yj rn),(3,Z6 D2 u3),(4,Z6 R2 w3),(5,Z0 vs1),(6,.i k),(7,.i y)]/\h=[.tail u3 1,.tail w3 1]/\m=(-y).toNat) _ _ _ ⟨z,R,u2,w2,ob,ob,YJ,rfl,rfl,rfl⟩ (wk [0,0] fl) ?_))
  rintro m F h ⟨y,R2,u3,w3,HV,D8,HW,rfl,rfl,rfl⟩
  refine aq (ar (Z1 2 36 (.b (decide (y<0))) (ie (ZM (y<0) (fun ZI=>?_) (fun ZI=>?_)))))
  ·refine ak (aq (ab 5 (az (Z5 3 (.n 39 (Z6 R2 w3) (.n 40 (Z0 vs1) (.n 41 (.i k) .r))) (Zq (Zo none (k:Int) 1 (Y3 Z3)) (Z1 1 43 (.i x1) (iL (Z8 [x1]) 1 1 ?_)))))))
   intro v5
   refine Z5 0 (.n 44 (Z0 [x1]) (.p .r)) (ip 2 (Z8 (R2++[x1])) (Z8 R2) (Z8 [x1]) w3 none 1 (YD _) (YD _) (XY _) (by simp<;>omega) (by simp [XX,Z8]) ?_)
   intro v6
   refine Z5 1 (.n 4 (Z6 (R2++[x1]) v6) (.p (.d (.d (.p (.d (.d (.d (.d (.k (.k (.d .r)))))))))))) (ie (az (Z1 1 37 (.i y) (ia ((y+1)) ((y)+(1)) (Z5 1 (.n 7 (.i (y+1)) (.p (.d (.w (.k .z))))) (ie ?_))))))
   exact ZQ ⟨(y+1),(R2++[x1]),u3,v6,(by simp only [Yx,YS,Xn];omega),(by simp only [Yx,YS,Xn];omega),(Xq HW hxm),rfl,rfl,rfl⟩ (wk [2,0] fl)
  refine ax 4 (az (Z1 1 16 (.i k) (ZO k (Z5 1 (.n 6 (.i (k+1:Nat)) (.p (.d (.d (.w .z))))) (ie ?_)))))
  exact ZQ ⟨k+1,D2,u3,R2,w3,ob,(by rw [hst];omega),XJ,HW,rfl,rfl,rfl⟩ (wk [0,0] (fq (ZW k fl)))
 have XC:=H5 rn vs1 k
 refine ax 0 (ar (Z1 1 46 (Z0 D) (ic [] (Qi 14 D) ?_)))
 rintro _ _ ⟨v7,rfl,rfl⟩
 refine Z1 1 48 (Z0 R) (ic [] (Qi 15 R) ?_)
 rintro _ _ ⟨v8,rfl,rfl⟩
 refine Z5 0 (.n 49 (Yj (R.map (Zi 15))) (.p .r)) (ip 1 (Zt ((D.map (Zi 14))++(R.map (Zi 15)))) (Zt (D.map (Zi 14))) (Zt (R.map (Zi 15))) v7 none 5 (X8 _) (X8 _) (Vs _) (by simp<;>omega) (by simp [Wx,Zt]) ?_)
 intro v9
 refine ir 1 [(2,ZX ((D.map (Zi 14))++(R.map (Zi 15))) v9)] (ie ?_)
 exact Zc (r2 [0] [ZX ((D.map (Zi 14))++(R.map (Zi 15))) v9] ⟨_,_,v9,rfl,rfl,⟨by have:=H5 rn vs1 k;omega,fun v hv=>hvo.2.2 v (Zz v hv),fun v hv=>hvo.2.2 v (YJ v hv)⟩⟩ (Zg.slh _ (Yv Zt ob)))
theorem RB (ds:List Zf) (nf:Nat) (b:Z7) (mm:Nat) (hf:fB ds nf mm b) (hop:WW V9 b) (hz:b.sz<=100000000) (ih:∀(b2:Z7) (m2:Nat),(fB ds nf m2 b2)->(WW V9 b2)->(b2.sz<=100000000)->(b2.sz<b.sz)->Zj Tryz.prog 163 [Zx b2] [] (fun r h=>∃(y:Z7),r=Zx y/\h=[]/\KB ds nf m2 y b2.sz)):Zj Tryz.prog 163 [Zx b] [] (fun r h=>∃(y:Z7),r=Zx y/\h=[]/\KB ds nf mm y b.sz):=by
 have hbe:=b.sz_eq
 have ZD:=Vx b
 obtain ⟨hfs,hr1,hr2⟩:=(C4 b).1 hf
 have hos:=AO.1 ((E1 b).1 hop)
 refine ZK 72 Tryz.func163 (ar (iA (Yn b) ?_))
 intro b1
 refine iA [nl,.i 0] ?_
 intro b2
 refine ie (ar (iL (Zt []) 0 5 ?_))
 intro v1
 refine ir 1 [(1,.p b1 0),(2,.p b2 0),(3,ZX [] v1)] (ie (ar (iL (Zt []) 0 5 ?_)))
 intro v2
 refine Z1 1 4 (ZX [] v2) (ie (aq (ar (Z1 1 5 (.i 0) (ie (ab 0 (al (fun m F h=>∃(k:Nat) (xs:List Z4) (v:Value) (rn:List Z4) (u:Value) (z0:Nat),(k<=b.steps.length)/\(CL ds nf mm xs (YO (b.steps.take k)) z0)/\(z0+2*rn.length<=Yu (b.steps.take k))/\(Hs (mm+(YO (b.steps.take k))) rn)/\F=[(1,.p b1 0),(2,.p b2 0),(3,ZX xs v),(4,ZX rn u),(5,.i k)]/\h=[.obj b2 [nl,.i 0],.obj b1 (Yn b),.tail u 5,.tail v 5]/\m=b.steps.length-k) _ _ _ ⟨0,[],v1,[],v2,0,ob,CL.nil,(by simp [Yu]),(fun s hs=>by cases hs),rfl,rfl,rfl⟩ (wk [2,2,0,0] (fq (Ye fl))) ?_)))))))
 rintro m F h ⟨k,xs,v,rn,u,z0,Ym,Zp,Zz,YJ,rfl,rfl,rfl⟩
 refine aq (ar (Y1 3 11 (.i k) 13 (Yj b.steps) [1] [b1] (iw (VE b.steps) (Z1 1 15 (.b (decide ((k:Int)<(b.steps.length:Int)))) (ie (ZM ((k:Int)<(b.steps.length:Int)) (fun Ze=>?_) (fun Ze=>?_)))))))
 ·refine ak (aq (ab 1 (ar (Y1 3 19 (Yj b.steps) 20 (.i k) [1] [b1] ?_))))
  obtain ⟨x1,Z3⟩:=Zs (xs:=b.steps) (j:=k) om
  have XC:=AS Z3
  have hfS:=(Do x1).1 (C6 hfs Z3)
  have hoS:=(Cx x1).1 (hos x1 (Y7 Z3))
  have htk:=H3 Z3
  have htl:=Qk b.steps (k+1)
  have hse:=(x1).sz_eq
  have hdt:=Ib Z3
  have hxl:=Zp.len
  have hkl2:=D5 (x1).kids
  refine Zq (Zo none (k:Int) 5 (Wy Z3)) (Z1 1 22 (Y4 x1) (iA [.i 0,.i 0,.i 0,nl,nl] ?_))
  intro b3
  refine ZH 0 b3 (Yg x1) (ie (ar (Yk 1 23 (Y4 x1) [0] [b3] (ZA [] (Nj x1) (ie (ac ((x1.op==14)||(x1.op==15)) (p:=(x1.op=14)∨(x1.op=15)) (Yh Zh Zh) (fun Zk=>?_) (fun Zk=>?_)))))))
  ·refine az (Y1 2 25 (ZX rn u) 26 (Y4 x1) [0] [b3] (VZ [Y4 x1] (Zt [x1]) (Vb [x1]).symm 1 5 ?_))
   intro v3
   refine Z5 0 (.n 27 (Yj [x1]) (.p .r)) (ip 4 (Zt (rn++[x1])) (Zt rn) (Zt [x1]) u none 5 (X8 _) (X8 _) (Vs _) (by simp<;>omega) (by simp [Wx,Zt]) ?_)
   intro v4
   refine ir 1 [(1,.p b1 0),(2,.p b2 0),(3,ZX xs v),(4,ZX (rn++[x1]) v4),(5,.i k)] (ie (az (Z1 1 16 (.i k) (ZO k (Z5 1 (.n 5 (.i (k+1:Nat)) (.p (.d (.w .z)))) (ie ?_))))))
   obtain ⟨⟨pa,hpa,hpr⟩,Y0,hpc⟩:=hfS.pair (by assumption)
   rw [Zm hpc,B1] at hdt
   exact ZQ ⟨k+1,xs,v,(rn++[x1]),v4,_,ob,(by rw [hdt];exact Zp),(by rw [htk];simp only [Yx,YS,Xn];omega),(by rw [hdt];exact Xq YJ ⟨pa,hpa,hpr⟩),rfl,rfl,rfl⟩ (wk [3,3,0,2] (fq (ZW k fl)))
  refine ar (Yo 2 29 (ZX xs v) 30 (Yj rn) (ic [] (IY rn (hrn:=(fun s hs=>(YJ s hs).elim fun a h=>⟨a,h.1⟩))) ?_))
  rintro _ _ ⟨D1,R1,v5,rfl,rfl,ZP⟩
  have hsr:=ZP
  have hq1:=Zp.run YJ hsr.2.1 hsr.2.2
  have hl1:=Zp.len
  have htl1:=Qk b.steps k
  refine Z5 0 (.n 31 (Yj (D1.map (Zi 14)++R1.map (Zi 15))) (.p .r)) (ip 5 (Zt (xs++(D1.map (Zi 14)++R1.map (Zi 15)))) (Zt xs) (Zt (D1.map (Zi 14)++R1.map (Zi 15))) v none 5 (X8 _) (X8 _) (Vs _) (by simp<;>omega) (by simp [Wx,Zt]) ?_)
  intro v6
  refine ir 1 [(1,.p b1 0),(2,.p b2 0),(3,ZX (xs++(D1.map (Zi 14)++R1.map (Zi 15))) v6),(5,.i k),(6,.p b3 0)] (ie (ar (iL (Zt []) 0 5 ?_)))
  intro v7
  refine Z1 1 4 (ZX [] v7) (ie (ar (iL (YH []) 0 2 ?_)))
  intro v8
  refine Z1 1 7 (X4 [] v8) (ie (aq (ar (Z1 1 8 (.i 0) (ie (ab 2 (al (fun m F h=>∃(j:Nat) (ks:List Z7) (w:Value) (v3:Value) (u4:Value),(j<=x1.kids.length)/\(ks.length=j)/\(KK ds nf (Ut ds x1.op x1.num (mm+(YO (b.steps.take k)))) ks (YY (x1.kids.take j)))/\F=[(1,.p b1 0),(2,.p b2 0),(3,ZX (xs++(D1.map (Zi 14)++R1.map (Zi 15))) v3),(4,ZX [] u4),(5,.i k),(6,.p b3 0),(7,X4 ks w),(8,.i j)]/\h=[.obj b3 (Yg x1),.obj b2 [nl,.i 0],.obj b1 (Yn b),.tail u4 5,.tail v3 5,.tail w 2]/\m=x1.kids.length-j) _ _ _ ⟨0,[],v8,v6,v7,ob,ob,(KK.nil.le (QV _)),rfl,rfl,rfl⟩ (wk [4,4,4,1,1,0] (fq (fw (fr (Ye fl))))) ?_)))))))
  rintro m F h ⟨j,ks,w,v3,u4,Uj,We,XJ,rfl,rfl,rfl⟩
  refine aq (ar (Y1 3 35 (.i j) 37 (Yz x1.kids) [0] [b3] (iw (VX x1.kids) (Z1 1 39 (.b (decide ((j:Int)<(x1.kids.length:Int)))) (ie (ZM ((j:Int)<(x1.kids.length:Int)) (fun ZI=>?_) (fun ZI=>?_)))))))
  ·refine ak (aq (ab 3 (az (Y2 4 (.n 42 (X4 ks w) (.n 44 (Yz x1.kids) (.n 45 (.i j) .r))) [0] [b3] ?_))))
   obtain ⟨x2,Zv⟩:=Zs (xs:=x1.kids) (j:=j) om
   have hkz:=T7 Zv
   have hfk:=C5 hfS.kids Zv
   rw [WQ] at hfk
   have hok:=BB.1 hoS.2 x2 (Y7 Zv)
   have hbt:=D6 Zv
   refine Zq (Zo none (j:Int) 2 (UA Zv)) (Z1 1 47 (Zx x2) (ic [] (ih x2 (Ut ds x1.op x1.num (mm+(YO (b.steps.take k))) j) hfk hok ob ob) ?_))
   rintro _ _ ⟨y1,rfl,rfl,Y0⟩
   have hkb:=Y0
   refine VZ [Zx y1] (YH [y1]) (Um [y1]).symm 1 2 ?_
   intro v9
   refine Z5 0 (.n 49 (Yz [y1]) (.p .r)) (ip 6 (YH (ks++[y1])) (YH ks) (YH [y1]) w none 2 (T0 _) (T0 _) (Df _) (by simp<;>omega) (by simp [J0,YH]) ?_)
   intro v10
   refine Z5 1 (.n 7 (X4 (ks++[y1]) v10) (.p (.d (.p (.d (.p (.d (.d (.d (.d (.p (.d (.d (.w (.k (.k (.d .r))))))))))))))))) (ie (az (Z1 1 40 (.i j) (ZO j (Z5 1 (.n 8 (.i (j+1:Nat)) (.p (.d (.w (.k (.k (.k .z))))))) (ie ?_))))))
   exact ZQ ⟨j+1,(ks++[y1]),v10,v3,u4,ob,ob,((XJ.snoc We hkb).le om),rfl,rfl,rfl⟩ (wk [2,2,2,2,2,0] (fq (fw (fr (ZW j fl)))))
  refine ax 2 (aE 15 (Y6 5 15 [0,1,2,3,4,5,6,7,8,10] (.n 51 (ZX (xs++(D1.map (Zi 14)++R1.map (Zi 15))) v3) (.n 53 (.i x1.op) (.n 55 (.i x1.num) (.n 57 (.i x1.into) (.n 59 (Z0 x1.args) (.n 61 (X4 ks w) .r)))))) [0,0,0,0] [b3,b3,b3,b3] (Z9 9 (dc 9 [] [0,0,0] [b3,b3,b3] (VJ x1.args) ?_))))
  rintro _ _ ⟨v11,rfl,rfl⟩
  refine ZY 3 4 [11] 62 (.agg [.i x1.op,.i x1.num,.i x1.into,Z0 x1.args,Yz ks]) (Z9 12 (Wj 12 [] [] [Y4 (Z4.mk x1.op x1.num x1.into x1.args ks)] (Zt [Z4.mk x1.op x1.num x1.into x1.args ks]) (Vb [Z4.mk x1.op x1.num x1.into x1.args ks]).symm 1 5 ?_))
  intro v12
  refine ZZ 2 2 [] (.n 63 (Yj [Z4.mk x1.op x1.num x1.into x1.args ks]) (.p .r)) (Z9 13 (dp 13 6 [] [] (Zt ((xs++(D1.map (Zi 14)++R1.map (Zi 15)))++[Z4.mk x1.op x1.num x1.into x1.args ks])) (Zt (xs++(D1.map (Zi 14)++R1.map (Zi 15)))) (Zt [Z4.mk x1.op x1.num x1.into x1.args ks]) v3 none 5 (X8 _) (X8 _) (Vs _) (by simp<;>omega) (by simp [Wx,Zt]) ?_))
  intro v13
  refine Xa 0 1 [14] [(1,.p b1 0),(2,.p b2 0),(3,ZX ((xs++(D1.map (Zi 14)++R1.map (Zi 15)))++[Z4.mk x1.op x1.num x1.into x1.args ks]) v13),(4,ZX [] u4),(5,.i k)] (de (az (Z1 1 16 (.i k) (ZO k (Z5 1 (.n 5 (.i (k+1:Nat)) (.p (.d (.w .z)))) (ie ?_))))))
  obtain ⟨hn1,hn2⟩:=hfS.not_pair (by assumption) hoS.1
  rw [Zb (by rw [hn2];simp)] at hdt
  have hbj:=F3 (xs:=x1.kids) (k:=j) om
  have hkt:=KT.eq hfS hn1 om XJ
  have hq2:=hq1.kt hkt
  exact ZQ ⟨k+1,((xs++(D1.map (Zi 14)++R1.map (Zi 15)))++[Z4.mk x1.op x1.num x1.into x1.args ks]),v13,[],u4,_,ob,(by rw [hdt];exact hq2),(by rw [htk];simp only [Xn];omega),(fun s hs=>by cases hs),rfl,rfl,rfl⟩ (wk [4,4,4,0] (fq (ZW k fl)))
 have htl2:=Qk b.steps k
 have hxl2:=Zp.len
 refine ax 0 (aD 8 (Y6 4 8 [0,1,4,5] (.n 65 (ZX xs v) (.n 66 (Yj rn) (.n 70 (.i b.result) .r))) [1] [b1] (Z9 2 (dc 2 [] [1] [b1] (IY rn (hrn:=(fun s hs=>(YJ s hs).elim fun a h=>⟨a,h.1⟩))) ?_))))
 rintro _ _ ⟨D2,R2,v14,rfl,rfl,YB⟩
 have hsr:=YB
 have hq1:=Zp.run YJ hsr.2.1 hsr.2.2
 have hl1:=Zp.len
 have htl1:=Qk b.steps k
 refine ZZ 3 3 [] (.n 67 (Yj (D2.map (Zi 14)++R2.map (Zi 15))) (.p .r)) (Z9 3 (dp 3 4 [1] [b1] (Zt (xs++(D2.map (Zi 14)++R2.map (Zi 15)))) (Zt xs) (Zt (D2.map (Zi 14)++R2.map (Zi 15))) v none 5 (X8 _) (X8 _) (Vs _) (by simp<;>omega) (by simp [Wx,Zt]) ?_))
 intro v15
 refine ZY 1 2 [6] 71 (.agg [ZX (xs++(D2.map (Zi 14)++R2.map (Zi 15))) v15,.i b.result]) (Z9 7 (YK 7 2 [] [] b2 [ZX (xs++(D2.map (Zi 14)++R2.map (Zi 15))) v15,.i b.result] (de ?_)))
 exact Zc (r3 [] [.agg [ZX (xs++(D2.map (Zi 14)++R2.map (Zi 15))) v15,.i b.result]] [0] [(b2,b2)] ⟨(Z7.mk (xs++(D2.map (Zi 14)++R2.map (Zi 15))) b.result),rfl,rfl,(by have e:b.steps.take k=b.steps:=Ve om;rw [e] at Zz hq1;exact (hq1.block ⟨hr1,hr2⟩).le om)⟩ (Zg.agg (.cons (Zg.forget _ _) (.cons (lr _) .nil))))
theorem RA (ds:List Zf) (nf:Nat) (b:Z7) (mm:Nat) (hf:fB ds nf mm b:=by exact ob) (hop:WW V9 b:=by exact ob) (hz:b.sz<=100000000:=by exact ob):Zj Tryz.prog 163 [Zx b] [] (fun r h=>∃(y:Z7),r=Zx y/\h=[]/\KB ds nf mm y b.sz):=by
 have key:∀k:Nat,∀(b2:Z7) (m2:Nat),(fB ds nf m2 b2)->(WW V9 b2)->(b2.sz<=100000000)->(b2.sz<k)->Zj Tryz.prog 163 [Zx b2] [] (fun r h=>∃(y:Z7),r=Zx y/\h=[]/\KB ds nf m2 y b2.sz):=by
  intro k
  induction k with
  | zero=>intro b2 m2 h1 h2 h3 h9;omega
  | succ k ih=>intro b2 m2 h1 h2 h3 h9;exact RB ds nf b2 m2 h1 h2 h3 fun b3 m3 q1 q2 q3 q9=>ih b3 m3 q1 q2 q3 om
 exact key (b.sz+1) b mm hf hop hz om
theorem RC (n:Zy) (qz:Nat) (hn:FO n qz V9:=by exact ob) (hqz:qz<=10000000:=by exact ob):Zj Tryz.prog 124 [ZE n] [] (fun r h=>∃(n2:Zy),r=ZE n2/\h=[]/\FO n2 qz V9):=by
 have hnl:=hn.fn.len
 have Xu:=hn.fn.decls.ok
 have hok:=hn.fn.ok
 refine ZK 36 Tryz.func124 (ar (iA (ZU n) ?_))
 intro b1
 refine iA [nl,nl] ?_
 intro b2
 refine ie (ar (iR 2 [(1,.p b1 0),(2,.p b2 0),(6,Zd n.decls)] [1] [b1] (ZA [] (AQ n.decls) (iL (YM []) 0 5 ?_))))
 intro v1
 refine Z1 1 9 (.agg [Zd n.decls,Xh [] v1]) (iA [nl,nl] ?_)
 intro b3
 refine ZH 0 b3 [Zd n.decls,Xh [] v1] (ie (aq (ar (Z1 1 4 (.i 0) (ie (ab 0 (al (fun m F h=>∃(k:Nat) (rs:List Yf) (u:Value),(k<=n.routines.length)/\(rs.length=k)/\(∀r∈rs,RF n.decls n.routines.length qz V9 r)/\F=[(1,.p b1 0),(2,.p b2 0),(3,.p b3 0),(4,.i k)]/\h=[.obj b3 [Zd n.decls,Xh rs u],.obj b2 [nl,nl],.obj b1 (ZU n),.tail u 5]/\m=n.routines.length-k) _ _ _ ⟨0,[],v1,ob,ob,(fun r hr=>by cases hr),rfl,rfl,rfl⟩ (wk [0,1,1,0] (fw (fr (Ye fl)))) ?_)))))))
 rintro m F h ⟨k,rs,u,Ym,Zp,Zz,rfl,rfl,rfl⟩
 refine aq (ar (Y1 3 10 (.i k) 12 (YZ n.routines) [2] [b1] (iw (U8 n.routines) (Z1 1 14 (.b (decide ((k:Int)<(n.routines.length:Int)))) (ie (ZM ((k:Int)<(n.routines.length:Int)) (fun Ze=>?_) (fun Ze=>?_)))))))
 ·refine ak (aq (ab 1 (aE 19 (Y6 14 19 [0,1,2,3,4] (.n 18 (Xh rs u) (.n 20 (YZ n.routines) (.n 21 (.i k) .r))) [0,2] [b3,b1] ?_))))
  obtain ⟨x1,Z3⟩:=Zs (xs:=n.routines) (j:=k) om
  have hrf:=hn.rf (Y7 Z3)
  have hrp:(x1).params.length<=3:=(UL.bd (f:=⟨(x1).params,(x1).result,default⟩) hrf.sig).1
  have hrl:=hrf.lent.1
  have hrz:=hrf.body.2
  refine dx 5 (Zo none (k:Int) 5 (WB Z3)) (Y6 9 13 [6,7,8,9] (.n 23 (WZ x1) (.n 25 (YZ n.routines) (.n 26 (.i k) .r))) [2] [b1] (dx 10 (Zo none (k:Int) 5 (WB Z3)) (ZY 6 8 [11,12] 29 (Zx x1.body) (Z9 13 (dc 13 [] [2,0] [b1,b3] (RA n.decls n.routines.length x1.body _ (hf:=hrf.body.1) (hop:=hrf.op)) ?_)))))
  rintro _ _ ⟨y1,rfl,rfl,ZP⟩
  have hkb0:=ZP
  have hkb:=hkb0.le (z2:=qz) hrz
  refine Z9 14 (Ys 14 [] [0] [b3] (BK x1 y1 (hp:=om) (hl:=om)) (Z9 15 (dL 15 [0] [b3] (YM [Yf.mk x1.params x1.lent x1.result y1]) 1 5 ?_)))
  intro v2
  refine ZZ 3 3 [] (.n 32 (YZ [Yf.mk x1.params x1.lent x1.result y1]) (.p .r)) (Z9 16 (dp 16 4 [] [] (YM (rs++[Yf.mk x1.params x1.lent x1.result y1])) (YM rs) (YM [Yf.mk x1.params x1.lent x1.result y1]) u none 5 (U7 _) (U7 _) (JM _) (by simp<;>omega) (by simp [Aw,YM]) ?_))
  intro v3
  refine ZY 1 2 [17] 34 (.p b3 1) (Z9 18 (YK 18 2 [] [] b3 [Zd n.decls,Xh (rs++[Yf.mk x1.params x1.lent x1.result y1]) v3] (de (az (Z1 1 15 (.i k) (ZO k (ir 1 [(1,.p b1 0),(2,.p b2 0),(3,.p b3 0),(4,.i (k+1:Nat))] (ie ?_))))))))
  exact ZQ ⟨k+1,(rs++[Yf.mk x1.params x1.lent x1.result y1]),v3,ob,ob,(Xq Zz (hrf.with hkb.fb hkb.sz hkb.op)),rfl,rfl,rfl⟩ (wk [0,2,2,0] (fw (fr (ZW k fl))))
 refine ax 0 (ar (Yk 1 35 (.agg [Zd n.decls,Xh rs u]) [0] [b3] (ZH 1 b2 [Zd n.decls,Xh rs u] (ie ?_))))
 exact Zc (r3 [] [.agg [Zd n.decls,Xh rs u]] [0] [(b2,b2)] ⟨(Zy.mk n.decls rs),rfl,rfl,(FO.fin hn.fn om Zz).1⟩ (Zg.agg (.cons (lr _) (.cons (Zg.forget _ _) .nil))))
end Go.Abs
