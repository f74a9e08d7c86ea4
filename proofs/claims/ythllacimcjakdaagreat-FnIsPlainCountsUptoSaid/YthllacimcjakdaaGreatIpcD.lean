/-
  A part of the proof of FnIsPlainCountsUptoSaid (see the last file): no condition.
-/
import Derived.Test.YthllacimcjakdaaGreatIpcC
set_option linter.all false
set_option linter.unusedVariables false
set_option linter.unusedSimpArgs false
set_option linter.unusedSectionVars false
set_option maxRecDepth 10000
set_option maxHeartbeats 4000000
namespace Go.Abs
open Go.Proofs
theorem Ta (ps:List Int) (rt:Int) :Zi Tryz.prog 154 [Z0 ps,.i rt] [] (fun r h=>r=J2 (Func.mk ps rt (Z2.mk 0 0 []))/\h=[]):=by
 refine ZK 8 Tryz.func154 (ar (iA [nl,.i 0,.i 0,.i 0,nl] ?_))
 intro b1
 refine ie (ar (ir 3 [(4,.p b1 0),(7,.agg [Z0 ps,.i rt,.i 0,.i 0,nl])] (ZF 0 b1 [Z0 ps,.i rt,.i 0,.i 0,nl] (ie ?_))))
 exact Zb (r3 [] [.agg [Z0 ps,.i rt,.i 0,.i 0,nl]] [0] [(b1,b1)] ⟨rfl,rfl⟩ (Zg.agg (.cons (Zg.sl _ (Yx Z8 ob)) (.cons li (.cons li (.cons li (.cons (Zg.sl _ rfl) .nil)))))))
theorem SZ (rd:Nat) (bs:List Int) (p:Nat) (xs:List Int) (ZE:∀z∈bs,0<=z/\z<=255) (hp:p+1<=1000000000:=by exact ob) (hx:0<xs.length/\xs.length<=1000000:=by exact ob) (hy:xs.all (fun x=>decide (0<=x))=true:=by exact ob):Zi Tryz.prog 72 [.p rd 0,Z0 xs] [Yn rd bs p] (fun r h=>∃(nn:Nat),r=.i nn/\h=[.obj rd [X9 bs,.i (p+1:Nat)]]/\(nn:Int)∈xs):=(Vw rd bs p xs ZE hp hx).mono fun r h ⟨z,hr,hh,hz⟩=>by
  have h0:0<=z:=of_decide_eq_true (Kq.1 hy z hz)
  exact ⟨z.toNat,by rw [hr,Int.toNat_of_nonneg h0],hh,by rw [Int.toNat_of_nonneg h0];exact hz⟩
theorem Sc (rd:Nat) (bs:List Int) (p:Nat) (g:XU) (gb:Nat) (rs:List Func) (f:Func) (i:Int) (nl:Nat) (ZE:∀z∈bs,0<=z/\z<=255) (hp:p+90000<=1000000000:=by exact ob) (hg:GP g:=by exact ob) (W9:g.funcs <+: rs:=by exact ob) (hi:0<=i:=by exact ob) (hf:g.funcs[i.toNat]? = some f:=by exact ob) (h0:i=0->f.params.length=0:=by exact ob) (hn:g.funcs.length=nl:=by exact ob):Zi Tryz.prog 155 [.p rd 0,.agg [Zd g.decls,.ms gb 0 nl 4],.i i] [Yn rd bs p,YI gb rs] (fun r h=>∃(e:Z2) (p2:Nat),r=ZH e/\h=[Yn rd bs p2,YI gb rs]/\GE g f.params.length 30 e/\p<=p2/\p2<=p+90000):=(by subst hn;exact Sb rd bs p g gb rs f i ZE hp hg W9 hi hf h0)
theorem SA (rd:Nat) (bs:List Int) (p:Nat) (ZE:∀z∈bs,0<=z/\z<=255) (hp:p+400000<=1000000000):Zi Tryz.prog 120 [.p rd 0] [Yn rd bs p] (fun r h=>∃(rs:List Func) (ds:List Zf) (m:Nat) (gb:Nat) (p2:Nat),r=.agg [Zd ds,.ms gb 0 m 4]/\h=[YI gb rs,Yn rd bs p2]/\(GL ds m 0 rs/\GD ds/\1<=m/\m<=4)/\p<=p2/\p2<=p+400000):=by
 refine ZK 110 Tryz.func120 (ar (iA [nl,nl] ?_))
 intro b1
 refine ie (ar (ir 1 [(0,.p rd 0),(2,.p b1 0),(10,.p rd 0)] (ic [1] (Sy rd bs p (ZE:=ob)) ?_)))
 rintro _ _ ⟨ds1,v1,rfl,rfl,ZP⟩
 have hgd:=ZP
 refine Z1 1 12 (.agg [Uj ds1 v1,nl]) (iA [nl,nl] ?_)
 intro b2
 refine ZF 0 b2 [Uj ds1 v1,nl] (ie (ar (iL (Z8 [1]) 1 1 ?_)))
 intro v2
 refine Z5 0 (.n 13 (Z0 [1]) (.p .r)) (ZA [] (Ta [1] 0) (iL (Z8 [1,1]) 2 1 ?_))
 intro v3
 refine Z5 0 (.n 15 (Z0 [1,1]) (.p .r)) (ZA [] (Ta [1,1] 1) (iL (Z8 [1]) 1 1 ?_))
 intro v4
 refine Z5 0 (.n 17 (Z0 [1]) (.p .r)) (ZA [] (Ta [1] 1) (iL (Z8 [1,0]) 2 1 ?_))
 intro v5
 refine Z5 0 (.n 19 (Z0 [1,0]) (.p .r)) (ZA [] (Ta [1,0] 1) (iL (Z8 [2,1]) 2 1 ?_))
 intro v6
 refine Z5 0 (.n 21 (Z0 [2,1]) (.p .r)) (ZA [] (Ta [2,1] 1) (iL (Z8 [1,1]) 2 1 ?_))
 intro v7
 refine Z5 0 (.n 23 (Z0 [1,1]) (.p .r)) (ZA [] (Ta [1,1] 0) (iL (Xc [Func.mk [1] 0 (Z2.mk 0 0 []),Func.mk [1,1] 1 (Z2.mk 0 0 []),Func.mk [1] 1 (Z2.mk 0 0 []),Func.mk [1,0] 1 (Z2.mk 0 0 []),Func.mk [2,1] 1 (Z2.mk 0 0 []),Func.mk [1,1] 0 (Z2.mk 0 0 [])]) 6 5 ?_))
 intro v8
 refine Z1 1 4 (Js [Func.mk [1] 0 (Z2.mk 0 0 []),Func.mk [1,1] 1 (Z2.mk 0 0 []),Func.mk [1] 1 (Z2.mk 0 0 []),Func.mk [1,0] 1 (Z2.mk 0 0 []),Func.mk [2,1] 1 (Z2.mk 0 0 []),Func.mk [1,1] 0 (Z2.mk 0 0 [])] v8) (ie (ar (iL (Z8 [3]) 1 1 ?_)))
 intro v9
 refine Z5 0 (.n 26 (Z0 [3]) (.p .r)) (ZA [] (Ta [3] 0) (iL (Z8 [0]) 1 1 ?_))
 intro v10
 refine Z5 0 (.n 28 (Z0 [0]) (.p .r)) (ZA [] (Ta [0] 1) (iL (Z8 [0,1]) 2 1 ?_))
 intro v11
 refine Z5 0 (.n 30 (Z0 [0,1]) (.p .r)) (ZA [] (Ta [0,1] 1) (iL (Z8 [3,0]) 2 1 ?_))
 intro v12
 refine Z5 0 (.n 32 (Z0 [3,0]) (.p .r)) (ZA [] (Ta [3,0] 3) (iL (Z8 [3]) 1 1 ?_))
 intro v13
 refine Z5 0 (.n 34 (Z0 [3]) (.p .r)) (ZA [] (Ta [3] 1) (iL (Z8 [1,3,0]) 3 1 ?_))
 intro v14
 refine Z5 0 (.n 36 (Z0 [1,3,0]) (.p .r)) (ZA [] (Ta [1,3,0] 0) (iL (Xc [Func.mk [3] 0 (Z2.mk 0 0 []),Func.mk [0] 1 (Z2.mk 0 0 []),Func.mk [0,1] 1 (Z2.mk 0 0 []),Func.mk [3,0] 3 (Z2.mk 0 0 []),Func.mk [3] 1 (Z2.mk 0 0 []),Func.mk [1,3,0] 0 (Z2.mk 0 0 [])]) 6 5 ?_))
 intro v15
 refine Z1 1 5 (Js [Func.mk [3] 0 (Z2.mk 0 0 []),Func.mk [0] 1 (Z2.mk 0 0 []),Func.mk [0,1] 1 (Z2.mk 0 0 []),Func.mk [3,0] 3 (Z2.mk 0 0 []),Func.mk [3] 1 (Z2.mk 0 0 []),Func.mk [1,3,0] 0 (Z2.mk 0 0 [])] v15) (ie (ar (iL (Z8 [0]) 1 1 ?_)))
 intro v16
 refine Z5 0 (.n 39 (Z0 [0]) (.p .r)) (ZA [] (Ta [0] 0) (iL (Z8 [0,0]) 2 1 ?_))
 intro v17
 refine Z5 0 (.n 41 (Z0 [0,0]) (.p .r)) (ZA [] (Ta [0,0] 0) (iL (Z8 [1,0]) 2 1 ?_))
 intro v18
 refine Z5 0 (.n 43 (Z0 [1,0]) (.p .r)) (ZA [] (Ta [1,0] 0) (iL (Z8 [0]) 1 1 ?_))
 intro v19
 refine Z5 0 (.n 45 (Z0 [0]) (.p .r)) (ZA [] (Ta [0] 1) (iL (Xc [Func.mk [0] 0 (Z2.mk 0 0 []),Func.mk [0,0] 0 (Z2.mk 0 0 []),Func.mk [1,0] 0 (Z2.mk 0 0 []),Func.mk [0] 1 (Z2.mk 0 0 [])]) 4 5 ?_))
 intro v20
 refine Z1 1 6 (Js [Func.mk [0] 0 (Z2.mk 0 0 []),Func.mk [0,0] 0 (Z2.mk 0 0 []),Func.mk [1,0] 0 (Z2.mk 0 0 []),Func.mk [0] 1 (Z2.mk 0 0 [])] v20) (ie (aD 26 (Y0 23 26 [2,3,4] (.n 50 (Js [Func.mk [1] 0 (Z2.mk 0 0 []),Func.mk [1,1] 1 (Z2.mk 0 0 []),Func.mk [1] 1 (Z2.mk 0 0 []),Func.mk [1,0] 1 (Z2.mk 0 0 []),Func.mk [2,1] 1 (Z2.mk 0 0 []),Func.mk [1,1] 0 (Z2.mk 0 0 [])] v8) (.n 51 (.p rd 0) (.n 52 (Js [Func.mk [1] 0 (Z2.mk 0 0 []),Func.mk [1,1] 1 (Z2.mk 0 0 []),Func.mk [1] 1 (Z2.mk 0 0 []),Func.mk [1,0] 1 (Z2.mk 0 0 []),Func.mk [2,1] 1 (Z2.mk 0 0 []),Func.mk [1,1] 0 (Z2.mk 0 0 [])] v8) .r))) (dn 5 (.i (([Func.mk [1] 0 (Z2.mk 0 0 []),Func.mk [1,1] 1 (Z2.mk 0 0 []),Func.mk [1] 1 (Z2.mk 0 0 []),Func.mk [1,0] 1 (Z2.mk 0 0 []),Func.mk [2,1] 1 (Z2.mk 0 0 []),Func.mk [1,1] 0 (Z2.mk 0 0 [])].length:Nat):Int)) (.i (((Xc [Func.mk [1] 0 (Z2.mk 0 0 []),Func.mk [1,1] 1 (Z2.mk 0 0 []),Func.mk [1] 1 (Z2.mk 0 0 []),Func.mk [1,0] 1 (Z2.mk 0 0 []),Func.mk [2,1] 1 (Z2.mk 0 0 []),Func.mk [1,1] 0 (Z2.mk 0 0 [])]).length:Nat):Int)) (li (by rw [Bs])) (Y0 19 22 [9,10,11] (.n 57 (Js [Func.mk [3] 0 (Z2.mk 0 0 []),Func.mk [0] 1 (Z2.mk 0 0 []),Func.mk [0,1] 1 (Z2.mk 0 0 []),Func.mk [3,0] 3 (Z2.mk 0 0 []),Func.mk [3] 1 (Z2.mk 0 0 []),Func.mk [1,3,0] 0 (Z2.mk 0 0 [])] v15) (.n 58 (.p rd 0) (.n 59 (Js [Func.mk [3] 0 (Z2.mk 0 0 []),Func.mk [0] 1 (Z2.mk 0 0 []),Func.mk [0,1] 1 (Z2.mk 0 0 []),Func.mk [3,0] 3 (Z2.mk 0 0 []),Func.mk [3] 1 (Z2.mk 0 0 []),Func.mk [1,3,0] 0 (Z2.mk 0 0 [])] v15) .r))) (dn 12 (.i (([Func.mk [3] 0 (Z2.mk 0 0 []),Func.mk [0] 1 (Z2.mk 0 0 []),Func.mk [0,1] 1 (Z2.mk 0 0 []),Func.mk [3,0] 3 (Z2.mk 0 0 []),Func.mk [3] 1 (Z2.mk 0 0 []),Func.mk [1,3,0] 0 (Z2.mk 0 0 [])].length:Nat):Int)) (.i (((Xc [Func.mk [3] 0 (Z2.mk 0 0 []),Func.mk [0] 1 (Z2.mk 0 0 []),Func.mk [0,1] 1 (Z2.mk 0 0 []),Func.mk [3,0] 3 (Z2.mk 0 0 []),Func.mk [3] 1 (Z2.mk 0 0 []),Func.mk [1,3,0] 0 (Z2.mk 0 0 [])]).length:Nat):Int)) (li (by rw [Bs])) (Y0 15 18 [16,17,18] (.n 64 (Js [Func.mk [0] 0 (Z2.mk 0 0 []),Func.mk [0,0] 0 (Z2.mk 0 0 []),Func.mk [1,0] 0 (Z2.mk 0 0 []),Func.mk [0] 1 (Z2.mk 0 0 [])] v20) (.n 65 (.p rd 0) (.n 66 (Js [Func.mk [0] 0 (Z2.mk 0 0 []),Func.mk [0,0] 0 (Z2.mk 0 0 []),Func.mk [1,0] 0 (Z2.mk 0 0 []),Func.mk [0] 1 (Z2.mk 0 0 [])] v20) .r))) (dn 19 (.i (([Func.mk [0] 0 (Z2.mk 0 0 []),Func.mk [0,0] 0 (Z2.mk 0 0 []),Func.mk [1,0] 0 (Z2.mk 0 0 []),Func.mk [0] 1 (Z2.mk 0 0 [])].length:Nat):Int)) (.i (((Xc [Func.mk [0] 0 (Z2.mk 0 0 []),Func.mk [0,0] 0 (Z2.mk 0 0 []),Func.mk [1,0] 0 (Z2.mk 0 0 []),Func.mk [0] 1 (Z2.mk 0 0 [])]).length:Nat):Int)) (li (by rw [Bs])) (Z9 0 (dL 0 [] [] (Z8 []) 0 1 ?_))))))))))
 intro v21
 refine Y0 13 13 [] (.n 48 (Z0 []) (.p .r)) (Z9 1 (Yv 1 [] [] [] (Ta [] 0) (Z9 6 (dc 6 [22] [] [] (XP rd bs (p+1) (([Func.mk [1] 0 (Z2.mk 0 0 []),Func.mk [1,1] 1 (Z2.mk 0 0 []),Func.mk [1] 1 (Z2.mk 0 0 []),Func.mk [1,0] 1 (Z2.mk 0 0 []),Func.mk [2,1] 1 (Z2.mk 0 0 []),Func.mk [1,1] 0 (Z2.mk 0 0 [])].length:Nat):Int) (ZE:=ob)) ?_))))
 rintro _ _ ⟨k1,rfl,rfl,Y1⟩
 have qhp2:=Y1.lt (by simp)
 simp only [YS,Xm] at qhp2
 obtain ⟨x1,Z3⟩:=Zr (xs:=[Func.mk [1] 0 (Z2.mk 0 0 []),Func.mk [1,1] 1 (Z2.mk 0 0 []),Func.mk [1] 1 (Z2.mk 0 0 []),Func.mk [1,0] 1 (Z2.mk 0 0 []),Func.mk [2,1] 1 (Z2.mk 0 0 []),Func.mk [1,1] 0 (Z2.mk 0 0 [])]) (j:=k1.toNat) (by simp only [YS,Xm];omega)
 refine dx 7 (Zm (some v8) k1 5 (Dt Z3)) (Y0 9 10 [8] (.n 56 (J2 x1) (.p (.p (.q 49 (.d (.q 67 (.k (.k (.d (.q 60 (.k (.k (.d (.p (.d (.d (.d (.d (.p (.p (.d (.p (.d (.p (.d (.p (.d (.d (.p (.p (.d (.p (.d (.p (.d (.p (.d (.p (.d (.p (.d (.d (.p (.p (.d (.p (.d (.p (.d (.p (.d (.p (.d (.p (.d (.q 3 (.d (.p (.k (.k .z)))))))))))))))))))))))))))))))))))))))))))))))))))))))))))) (Z9 13 (dc 13 [0] [] [] (XP rd bs ((p+1)+1) (([Func.mk [3] 0 (Z2.mk 0 0 []),Func.mk [0] 1 (Z2.mk 0 0 []),Func.mk [0,1] 1 (Z2.mk 0 0 []),Func.mk [3,0] 3 (Z2.mk 0 0 []),Func.mk [3] 1 (Z2.mk 0 0 []),Func.mk [1,3,0] 0 (Z2.mk 0 0 [])].length:Nat):Int) (ZE:=ob)) ?_)))
 rintro _ _ ⟨k2,rfl,rfl,Yy⟩
 have qhp3:=Yy.lt (by simp)
 simp only [YS,Xm] at qhp3
 obtain ⟨x2,Zt⟩:=Zr (xs:=[Func.mk [3] 0 (Z2.mk 0 0 []),Func.mk [0] 1 (Z2.mk 0 0 []),Func.mk [0,1] 1 (Z2.mk 0 0 []),Func.mk [3,0] 3 (Z2.mk 0 0 []),Func.mk [3] 1 (Z2.mk 0 0 []),Func.mk [1,3,0] 0 (Z2.mk 0 0 [])]) (j:=k2.toNat) (by simp only [YS,Xm];omega)
 refine dx 14 (Zm (some v15) k2 5 (Dt Zt)) (ZZ 6 7 [15] 63 (J2 x2) (Z9 20 (dc 20 [0] [] [] (XP rd bs (((p+1)+1)+1) (([Func.mk [0] 0 (Z2.mk 0 0 []),Func.mk [0,0] 0 (Z2.mk 0 0 []),Func.mk [1,0] 0 (Z2.mk 0 0 []),Func.mk [0] 1 (Z2.mk 0 0 [])].length:Nat):Int) (ZE:=ob)) ?_)))
 rintro _ _ ⟨k3,rfl,rfl,YK⟩
 have qhp4:=YK.lt (by simp)
 simp only [YS,Xm] at qhp4
 obtain ⟨x3,YT⟩:=Zr (xs:=[Func.mk [0] 0 (Z2.mk 0 0 []),Func.mk [0,0] 0 (Z2.mk 0 0 []),Func.mk [1,0] 0 (Z2.mk 0 0 []),Func.mk [0] 1 (Z2.mk 0 0 [])]) (j:=k3.toNat) (by simp only [YS,Xm];omega)
 refine dx 21 (Zm (some v20) k3 5 (Dt YT)) (ZZ 3 4 [22] 70 (J2 x3) (Z9 23 (PY 23 [] [] (Zl (Xc [Func.mk [] 0 (Z2.mk 0 0 []),x1,x2,x3])) 4 5 ?_)))
 intro g1
 refine ZZ 1 2 [24] 72 (.p b2 1) (Z9 25 (YL 25 22 [] [] b2 [Uj ds1 v1,.ms g1 0 4 4] (de (ar (Z1 1 73 (.p rd 0) (iL (Z8 [4,4,3,2,4]) 5 1 ?_))))))
 intro v22
 refine Z5 0 (.n 74 (Z0 [4,4,3,2,4]) (.p .r)) (ic [3] (SZ rd bs ((((p+1)+1)+1)+1) [4,4,3,2,4] (ZE:=ob) (hy:=(by decide))) ?_)
 rintro _ _ ⟨nn1,rfl,rfl,X0⟩
 have hnn:=Z3p (a:=2) (b:=4) X0 (by decide)
 refine Z1 1 7 (.i nn1) (ie (ar (ZY 3 77 (.ms g1 0 4 4) 78 (.i nn1) [2] [b2] (Zq (Gt 3 g1 4 4 nn1 5 (Zl (Xc [Func.mk [] 0 (Z2.mk 0 0 []),x1,x2,x3]))) (Z1 1 80 (.p b2 1) (ZF 2 b2 [Uj ds1 v1,.ms g1 0 nn1 4] (ie (aq (ar (Z1 1 81 (.i nn1) (ia (((nn1:Int)-1)) (((nn1:Int))-(1)) (Z1 1 8 (.i ((nn1:Int)-1)) (ie (ab 0 (al (fun m F h=>∃(j:Nat) (rq:List Func) (pq:Nat),(j<=nn1)/\(GL ds1 nn1 j rq)/\(p<=pq/\pq+90000*j<=p+10+90000*nn1)/\F=[(0,.p rd 0),(2,.p b1 0),(3,.p b2 0),(8,.i ((j:Int)-1))]/\h=[.obj b2 [Uj ds1 v1,.ms g1 0 nn1 4],Yn rd bs pq,.obj b1 [nl,nl],.tail v1 3,YI g1 rq]/\m=j+1) _ _ _ ⟨nn1,[Func.mk [] 0 (Z2.mk 0 0 []),x1,x2,x3],((((p+1)+1)+1)+1)+1,ob,(GL.start (H9 Z3 (by decide)) (H9 Zt (by decide)) (H9 YT (by decide))),ob,rfl,rfl,rfl⟩ (wk [0,0,23,22,1] fl) ?_)))))))))))))))
 rintro m F h ⟨j,rq,pq,Yj,Zp,Zy,rfl,rfl,rfl⟩
 refine aq (ar (Z1 2 84 (.b (decide (((j:Int)-1)>=0))) (ie (ZM (((j:Int)-1)>=0) (fun Ze=>?_) (fun Ze=>?_)))))
 ·obtain ⟨f1,hf1⟩:=Zr (xs:=rq.take nn1) (j:=((j:Int)-1).toNat) (by rw [Zp.len_take om];omega)
  have hfq:rq[j-1]? = some f1:=by have h:=hf1;rw [show ((j:Int)-1).toNat=j-1 by omega,List.getElem?_take_of_lt om] at h;exact h
  refine ak (aq (ab 1 (ar (Y2 3 (.n 87 (.p rd 0) (.n 88 (.agg [Zd ds1,.ms g1 0 nn1 4]) (.n 89 (.i ((j:Int)-1)) .r))) [0] [b2] (ic [1,3] (Sc rd bs pq (XU.mk ds1 (rq.take nn1)) g1 rq f1 ((j:Int)-1) nn1 (ZE:=ob) (hg:=(Zp.gp hgd om)) (W9:=(List.take_prefix nn1 rq)) (hf:=hf1) (h0:=(fun h=>Zp.zero f1 (by rw [<-hfq,show j-1=0 by omega]))) (hn:=(Zp.len_take om))) ?_)))))
  rintro _ _ ⟨e1,p21,rfl,rfl,XB⟩
  have hbw:eW ds1 nn1 f1.params.length e1/\(e1).sz<=30:=by have h:=XB.1;unfold GE at h;rw [show (XU.mk ds1 (rq.take nn1)).funcs.length=nn1 from Zp.len_take om] at h;exact h
  refine iA [.i 0,.i 0,nl] ?_
  intro b3
  refine ZF 0 b3 (YA e1) (ie (aE 19 (Y6 13 19 [0,1,2,3,4,5] (.n 92 (.ms g1 0 nn1 4) (.n 93 (.i ((j:Int)-1)) (.n 95 (.ms g1 0 nn1 4) (.n 96 (.i ((j:Int)-1)) .r)))) [3,3] [b2,b2] (dx 6 (W4 g1 nn1 4 (((j:Int)-1).toNat) 5 ((j:Int)-1)) (ZZ 11 12 [7] 98 (.val (.pointer (some ⟨g1,(((j:Int)-1).toNat)*5,none⟩))) (VT 8 (WY 2 g1 4 4 5 ((((j:Int)-1).toNat)*5+0) (Zl (Xc rq)) [Z0 f1.params] 27 (Z0 f1.params) (U6 (List.take_prefix nn1 rq) hf1 0 rfl (WF rfl))) (Y6 7 10 [9,10,11] (.n 101 (.ms g1 0 nn1 4) (.n 102 (.i ((j:Int)-1)) .r)) [3] [b2] (dx 12 (W4 g1 nn1 4 (((j:Int)-1).toNat) 5 ((j:Int)-1)) (ZZ 5 6 [13] 104 (.val (.pointer (some ⟨g1,(((j:Int)-1).toNat)*5+1,none⟩))) (VT 14 (WY 2 g1 4 4 5 ((((j:Int)-1).toNat)*5+1) (Zl (Xc rq)) [.i f1.result] 3 (.i f1.result) (U6 (List.take_prefix nn1 rq) hf1 1 rfl (WF rfl))) (Y6 2 4 [15,16] (.n 107 (.agg [Z0 f1.params,.i f1.result,.i e1.op,.i e1.num,X3 e1.kids]) .r) [0] [b3] (dx 17 (W4 g1 nn1 4 (((j:Int)-1).toNat) 5 ((j:Int)-1)) (Z9 18 (AJ 18 2 [] [] g1 4 4 5 ((((j:Int)-1).toNat)*5) [Z0 f1.params,.i f1.result,.i e1.op,.i e1.num,X3 e1.kids] (Zl (Xc rq)) (Zl (Xc (rq.set ((j:Int)-1).toNat ⟨f1.params,f1.result,e1⟩))) (by rw [FX,Zp.len];simp only [YS,Xm];omega) (RW ⟨f1.params,f1.result,e1⟩ (by rw [Zp.len];omega)) (de (az (Z1 1 85 (.i ((j:Int)-1)) (ia ((((j:Int)-1)-1)) (((j:Int)-1)-(1)) (ir 1 [(0,.p rd 0),(2,.p b1 0),(3,.p b2 0),(8,.i (((j:Int)-1)-1))] (ie ?_))))))))))))))))))))
  exact ZO ⟨(j-1),(rq.set ((j:Int)-1).toNat ⟨f1.params,f1.result,e1⟩),p21,ob,(by rw [show ((j:Int)-1).toNat=j-1 by omega];exact Zp.set om hfq hbw),ob,rfl,rfl,rfl⟩ (wk [3,2,2,2,0] (fw (fr (fc (x:=.i (((j:Int)-1)-1)) li fl))))
 refine ax 0 (ar (Yl 1 109 (.agg [Uj ds1 v1,.ms g1 0 nn1 4]) [0] [b2] (ZF 2 b1 [Uj ds1 v1,.ms g1 0 nn1 4] (ie ?_))))
 exact Zb (r3 [4,2] [.agg [Uj ds1 v1,.ms g1 0 nn1 4]] [0] [(b1,b1)] ⟨rq,ds1,nn1,g1,pq,rfl,rfl,⟨⟨by rw [show j=0 by omega] at Zp;exact Zp,hgd,by omega,by omega⟩,by omega⟩⟩ (Zg.agg (.cons (Zg.forget _ _) (.cons (lr _) .nil))))
theorem Sz (rd:Nat) (bs:List Int) (p:Nat) (ZE:∀z∈bs,0<=z/\z<=255) (hp:p+400000<=1000000000:=by exact ob):Zi Tryz.prog 120 [.p rd 0] [Yn rd bs p] (fun r h=>∃(g:XU) (p2:Nat),r=Tk g/\h=[Yn rd bs p2]/\F4 g/\p<=p2/\p2<=p+400000):=(Zi.frzP (E:=List Func × List Zf × Nat × Nat) (ds:=fun e=>e.2.1) (rs:=fun e=>e.1) (m:=fun e=>e.2.2.1) (hs:=fun e=>[.obj rd [X9 bs,.i (e.2.2.2:Nat)]]) (Q:=fun e=>(GL e.2.1 e.2.2.1 0 e.1/\GD e.2.1/\1<=e.2.2.1/\e.2.2.1<=4)/\p<=e.2.2.2/\e.2.2.2<=p+400000)
  ((SA rd bs p ZE hp).mono fun r h ⟨rs,ds,m,gb,p2,hr,hh,hq⟩=>⟨(rs,ds,m,p2),gb,hr,hh,hq⟩) fun e hq=>⟨hq.1.2.2.2,hq.1.1.len⟩).mono
  fun r h ⟨e,hr,hh,hq⟩=>⟨⟨e.2.1,e.1.take e.2.2.1⟩,e.2.2.2,hr,hh,hq.1.1.done hq.1.2.1 hq.1.2.2,hq.2⟩
theorem G9 (a:Nat) (n:Nat) (ha:a<=1000000:=by exact ob) (hn:n<=1000000:=by exact ob):Zi Tryz.prog 153 [.i a,.i n] [] (fun r h=>∃(xs:List Int),r=Z0 xs/\h=[]/\xs.length=n/\∀i∈xs,(a:Int)<=i/\i<(a:Int)+n):=by
 refine ZK 20 Tryz.func153 (ar (ir 1 [(0,.i a),(1,.i n)] (ie (ar (iL (Z8 []) 0 1 ?_)))))
 intro v1
 refine Z1 1 5 (Z7 [] v1) (ie (aq (ar (Z1 1 6 (.i 0) (ie (ab 0 (al (fun m F h=>∃(k:Nat) (ys:List Int) (u:Value),(k<=n)/\(ys.length=k)/\(∀i∈ys,(a:Int)<=i/\i<(a:Int)+n)/\F=[(0,.i a),(1,.i n),(5,Z7 ys u),(6,.i k)]/\h=[.tail u 1]/\m=n-k) _ _ _ ⟨0,[],v1,ob,ob,(fun i hi=>by cases hi),rfl,rfl,rfl⟩ (wk [0] (fw (fr (Ya fl)))) ?_)))))))
 rintro m F h ⟨k,ys,u,Yj,Zp,Zy,rfl,rfl,rfl⟩
 refine aq (ar (Z1 3 10 (.b (decide ((k:Int)<(n:Int)))) (ie (ZM ((k:Int)<(n:Int)) (fun Ze=>?_) (fun Ze=>?_)))))
 ·refine ak (aq (ab 1 (az (Z5 3 (.n 13 (Z7 ys u) (.n 14 (.i a) (.n 15 (.i k) .r))) (ia (((a+k:Nat):Int)) (((a:Int))+((k:Int))) (iL (Z8 [((a+k:Nat):Int)]) 1 1 ?_))))))
  intro v2
  refine Z5 0 (.n 17 (Z0 [((a+k:Nat):Int)]) (.p .r)) (ip 1 (Z8 (ys++[((a+k:Nat):Int)])) (Z8 ys) (Z8 [((a+k:Nat):Int)]) u none 1 (YF _) (YF _) (XX _) (by simp<;>omega) (by simp [XW,Z8]) ?_)
  intro v3
  refine Z5 1 (.n 5 (Z7 (ys++[((a+k:Nat):Int)]) v3) (.p (.d (.p (.d (.d (.d (.d (.k (.k (.d .r))))))))))) (ie (az (Z1 1 11 (.i k) (ZL k (Z5 1 (.n 6 (.i (k+1:Nat)) (.p (.d (.k (.k (.k .z)))))) (ie ?_))))))
  exact ZO ⟨k+1,(ys++[((a+k:Nat):Int)]),v3,ob,ob,(Xp Zy om),rfl,rfl,rfl⟩ (wk [0] (fw (fr (ZQ k fl))))
 refine ax 0 (ar (ir 2 [(4,Z7 ys u)] (ie ?_)))
 exact Zb (r2 [] [Z7 ys u] ⟨ys,rfl,rfl,⟨by omega,Zy⟩⟩ (Zg.forget _ _))
theorem L5 (l:Nat) (xs:List Z4) (w:Value) (q:Nat) (s:Z4) (hl:xs.length<=4000000000:=by exact ob) (hq:q<=1000000:=by exact ob):Zi Tryz.prog 218 [.p l 0,Y3 s] [.obj l [ZX xs w,.i q],.tail w 5] (fun r h=>∃(w2:Value),r=.i q/\h=[.obj l [ZX (xs++[s]) w2,.i (((q+1):Nat):Int)],.tail w2 5]):=by
 refine ZK 28 Tryz.func218 (ar (iA (Yg s) ?_))
 intro b1
 refine ir 1 [(0,.p l 0),(3,.p b1 0)] (ie (aD 11 (Y6 5 11 [0,1,2,3,4,5] (.n 5 (.p l 0) (.n 9 (ZX xs w) (.n 10 (Y3 s) .r))) [1,0] [l,b1] (Z9 6 (Wj 6 [1] [l] [Y3 s] (Zv [s]) (Vd [s]).symm 1 5 ?_)))))
 intro v1
 refine Y0 4 4 [] (.n 11 (Ye [s]) (.p .r)) (Z9 7 (dp 7 3 [] [] (Zv (xs++[s])) (Zv xs) (Zv [s]) w none 5 (X8 _) (X8 _) (Vv _) (by simp<;>omega) (by simp [Wy,Zv]) ?_))
 intro v2
 refine ZZ 1 3 [8,9] 14 (.p l 0) (Z9 10 (YL 10 3 [] [] l [ZX (xs++[s]) v2,.i q] (de (ar (ZY 5 15 (.p l 0) 19 (.i q) [0] [l] (ZL q (Z1 2 22 (.p l 1) (ZF 0 l [ZX (xs++[s]) v2,.i (q+1:Nat)] (ie (ar (iR 4 [(26,.i (q+1:Nat))] [0] [l] (ia ((((q+1:Nat):Int)-1)) ((((q+1:Nat):Int))-(1)) (ir 1 [(4,.i (((q+1:Nat):Int)-1))] (ie ?_))))))))))))))
 exact Zb (r2 [0,0] [.i (((q+1:Nat):Int)-1)] ⟨v2,rfl,rfl⟩ li)
theorem Lg (g:XU) (e:Z2) (us:List Int) (q:Nat) (bb:Nat) (he:eW g.decls g.funcs.length us.length e:=by exact ob) (hu:∀a∈us,0<=a/\a<(q:Int)) (hul:us.length+4*e.sz<=100000:=by exact ob) (hql:q+6*e.sz<=100000:=by exact ob) (hb:e.sz<bb:=by exact ob) (ih:∀(l:Nat) (e2:Z2) (us2:List Int) (xs2:List Z4) (w2:Value) (q2:Nat),(eW g.decls g.funcs.length us2.length e2)->(∀a∈us2,0<=a/\a<(q2:Int))->(us2.length+4*e2.sz<=100000)->(xs2.length+6*e2.sz<=100000)->(q2+6*e2.sz<=100000)->(e2.sz<bb)->Zi Tryz.prog 188 [.p l 0,Tk g,ZH e2,Z0 us2] [.obj l [ZX xs2 w2,.i q2],.tail w2 5] (fun r h=>∃(ys:List Z4) (v:Int) (w2:Value),r=.i v/\h=[.obj l [ZX (xs2++ys) w2,.i (((q2+YO ys):Nat):Int)],.tail w2 5]/\LW g.decls g.funcs.length q2 e2 ys v)):Zi Tryz.prog 152 [Tk g,ZH e,Z0 us,.i q] [] (fun r h=>∃(b:Z6),r=Zs b/\h=[]/\LB g.decls g.funcs.length q e b):=by
 refine ZK 26 Tryz.func152 (ar (iA (Jp g) ?_))
 intro b1
 refine iA (YA e) ?_
 intro b2
 refine iA [nl,.i 0] ?_
 intro b3
 refine ie (ar (iL (Zv []) 0 5 ?_))
 intro v1
 refine ir 2 [(2,Z0 us),(4,.p b1 0),(5,.p b2 0),(8,.p b3 0),(13,.agg [ZX [] v1,.i q])] (iA [ZX [] v1,.i q] ?_)
 intro b4
 refine Z1 1 9 (.p b4 0) (ie (ar (Y2 4 (.n 15 (.p b4 0) (.n 16 (Tk g) (.n 17 (ZH e) (.n 18 (Z0 us) .r)))) [4,3] [b1,b2] (ic [0,0] (ih b4 e us [] v1 q he hu ob ob ob ob) ?_))))
 rintro _ _ ⟨ys1,v2,w21,rfl,rfl,ZP⟩
 have hlw:=ZP
 refine Z1 1 10 (.i v2) (ie (ar (Yl 6 25 (.agg [ZX ([]++ys1) w21,.i v2]) [0] [b4] (ZF 2 b3 [ZX ([]++ys1) w21,.i v2] (ie ?_)))))
 exact Zb (r3 [] [.agg [ZX ([]++ys1) w21,.i v2]] [0] [(b3,b3)] ⟨(Z6.mk ([]++ys1) v2),rfl,rfl,(by rw [Av];exact hlw.block)⟩ (Zg.agg (.cons (Zg.forget _ _) (.cons (lr _) .nil))))
theorem SQ (l:Nat) (g:XU) (e:Z2) (us:List Int) (xs:List Z4) (w:Value) (q:Nat) (hd:GD g.decls) (he:eW g.decls g.funcs.length us.length e) (hu:∀a∈us,0<=a/\a<(q:Int)) (hul:us.length+4*e.sz<=100000) (hxl:xs.length+6*e.sz<=100000) (hql:q+6*e.sz<=100000) (ih:∀(l:Nat) (e2:Z2) (us2:List Int) (xs2:List Z4) (w2:Value) (q2:Nat),(eW g.decls g.funcs.length us2.length e2)->(∀a∈us2,0<=a/\a<(q2:Int))->(us2.length+4*e2.sz<=100000)->(xs2.length+6*e2.sz<=100000)->(q2+6*e2.sz<=100000)->(e2.sz<e.sz)->Zi Tryz.prog 188 [.p l 0,Tk g,ZH e2,Z0 us2] [.obj l [ZX xs2 w2,.i q2],.tail w2 5] (fun r h=>∃(ys:List Z4) (v:Int) (w2:Value),r=.i v/\h=[.obj l [ZX (xs2++ys) w2,.i (((q2+YO ys):Nat):Int)],.tail w2 5]/\LW g.decls g.funcs.length q2 e2 ys v)):Zi Tryz.prog 188 [.p l 0,Tk g,ZH e,Z0 us] [.obj l [ZX xs w,.i q],.tail w 5] (fun r h=>∃(ys:List Z4) (v:Int) (w2:Value),r=.i v/\h=[.obj l [ZX (xs++ys) w2,.i (((q+YO ys):Nat):Int)],.tail w2 5]/\LW g.decls g.funcs.length q e ys v):=by
 have Xu:=hd.ok
 obtain ⟨ho,h12,h13,h7,h8,h9,hnum,hkl,hks⟩:=(RD e).1 he
 have hez:=e.sz_eq
 refine ZK 148 Tryz.func188 (ar (iA (Jp g) ?_))
 intro b1
 refine iA (YA e) ?_
 intro b2
 refine ir 1 [(0,.p l 0),(3,Z0 us),(5,.p b1 0),(6,.p b2 0)] (ie (aq (ar (Yl 2 19 (.i e.op) [0] [b2] (ie (ab 0 (ar (Z1 2 20 (.b (e.op==12)) (ie (ac (e.op==12) Zh (fun Ze=>?_) (fun Ze=>?_)))))))))))
 ·refine ar (iR 3 [(22,Z0 us),(24,.i e.num)] [0] [b2] ?_)
  obtain ⟨x1,Z3⟩:=Zr (xs:=us) (j:=e.num.toNat) (by have:=h12 om;omega)
  have huv:=hu _ (Y7 Z3)
  refine Zq (Zm none e.num 1 (Y4 Z3)) (ir 2 [(8,.i x1)] (ie ?_))
  exact Zb (r1 [2,2] ⟨[],x1,w,rfl,rfl,(LW.var huv)⟩ (eq:=(ro (ls:=[ZX xs w,.i q]) (by simp [YO]) (rc rz))))
 refine ar (Z1 2 27 (.b (e.op==13)) (ie (ac (e.op==13) Zh (fun Zk=>?_) (fun Zk=>?_))))
 ·refine aD 9 (Y6 5 9 [0,1,2,3] (.n 29 (.p l 0) (.n 30 (Tk g) (.n 32 (X3 e.kids) .r))) [1,0] [b1,b2] ?_)
  obtain ⟨x2,Zt⟩:=Zr (xs:=e.kids) (j:=0) (by have:=h13 om;omega)
  have hekx2:=Bu hks Zt
  have hszx2:=AO Zt
  have htzx2:=JY Zt
  rw [WQ] at hekx2
  rw [Ni om] at hekx2
  refine dx 4 (Zm none 0 3 (Br Zt)) (Y0 2 4 [5,6] (.n 34 (ZH x2) (.n 35 (Z0 us) .r)) (Z9 7 (dc 7 [2,2] [] [] (ih l x2 us xs w q (by first|assumption|(rw [Yz];assumption)) (by first|assumption|exact D3 hu hlwhp1.v|exact EL hu) (by first|omega|(simp only [Yz,YS,Xm];omega)) (by first|omega|(simp only [Yz,YS,Xm];omega)) ob ob) ?_)))
  rintro _ _ ⟨ys1,v1,w21,rfl,rfl,ZP⟩
  have hlwhp1:=ZP
  have hldhp1:=ZP.dn
  refine ZZ 0 1 [8] 9 (.i v1) (de (aD 12 (Y6 8 12 [0,1,2,3] (.n 37 (.p l 0) (.n 38 (Tk g) (.n 40 (X3 e.kids) .r))) [3,2] [b1,b2] ?_)))
  obtain ⟨x3,YT⟩:=Zr (xs:=e.kids) (j:=1) (by have:=h13 om;omega)
  have hz2:=IG Zt YT
  have hz3:=x2.sz_eq
  have hekx3:=Bu hks YT
  have hszx3:=AO YT
  have htzx3:=JY YT
  rw [WQ] at hekx3
  rw [Ni om] at hekx3
  refine dx 4 (Zm none 1 3 (Br YT)) (Y0 4 7 [5,6,7] (.n 42 (ZH x3) (.n 43 (Z0 us) (.n 44 (.i v1) .r))) (Z9 8 (dL 8 [1,2] [b2,b1] (Z8 [v1]) 1 1 ?_)))
  intro v2
  refine Y0 3 3 [] (.n 45 (Z0 [v1]) (.p .r)) (Z9 9 (dc 9 [] [1,2] [b2,b1] (Q9 us [v1]) ?_))
  rintro _ _ ⟨v3,rfl,rfl⟩
  refine Y0 2 2 [] (.n 46 (Z0 (us++[v1])) (.p .r)) (Z9 10 (dc 10 [2,2] [] [] (ih l x3 (us++[v1]) (xs++ys1) w21 (q+YO ys1) (by first|assumption|(rw [Yz];assumption)) (by first|assumption|exact D3 hu hlwhp1.v|exact EL hu) (by first|omega|(simp only [Yz,YS,Xm];omega)) (by first|omega|(simp only [Yz,YS,Xm];omega)) ob ob) ?_))
  rintro _ _ ⟨ys2,v4,w22,rfl,rfl,Y1⟩
  have hlwhp2:=Y1
  have hldhp2:=Y1.dn
  refine Xa 0 1 [11] [(8,.i v4)] (de ?_)
  exact Zb (r1 [0,0] ⟨(ys1++ys2),v4,w22,rfl,rfl,(LW.let_ hlwhp1 hlwhp2 (by have:=IG Zt YT;omega))⟩ (eq:=(ro (ls:=[ZX ((xs++ys1)++ys2) w22,.i ((((q+YO ys1)+YO ys2):Nat):Int)]) (by rw [K9,<-JD,TA]) (rc rz))))
 refine aq (ar (Z1 2 48 (.b (e.op==7)) (ie (XI (fun F h=>F=[(0,.p l 0),(3,Z0 us),(5,.p b1 0),(6,.p b2 0),(48,.b ((e.op==7)||(e.op==8)))]/\h=[.obj b2 (YA e),.obj b1 (Jp g),.obj l [ZX xs w,.i q],.tail w 5]) ?_ ?_))))
 ·refine ac (e.op==7) Zh (fun ZG=>?_) (fun ZG=>?_)
  ·refine ak ?_
   exact ZW ⟨rfl,rfl⟩ (ZT 4 (fq (fc (x:=.b (e.op==7)) (lb (by first|rfl|(rw [Zo ZG])|(rw [Zc ZG])|(simp [ZG];done)|(rw [Xl];simp [ZG];done)|omega)) fl)))
  refine az (ir 2 [(0,.p l 0),(3,Z0 us),(5,.p b1 0),(6,.p b2 0),(48,.b (e.op==8))] (ie ?_))
  exact ZW ⟨rfl,rfl⟩ (ZT 4 (fq (fc (x:=.b (e.op==8)) (lb (by first|rfl|(rw [Zo ZG])|(rw [Zc ZG])|(simp [ZG];done)|(rw [Xl];simp [ZG];done)|omega)) fl)))
 rintro F h ⟨rfl,rfl⟩
 refine ac ((e.op==7)||(e.op==8)) (p:=(e.op=7)∨(e.op=8)) (Yo Zh Zh) (fun Ym=>?_) (fun Ym=>?_)
 ·refine aD 9 (W2 5 9 [0,1,2,3] [(0,.p l 0),(3,Z0 us),(5,.p b1 0),(6,.p b2 0),(51,.p l 0),(52,Tk g),(54,X3 e.kids)] [1,0] [b1,b2] ?_)
  obtain ⟨x4,Uh⟩:=Zr (xs:=e.kids) (j:=0) om
  have hekx4:=Bu hks Uh
  have hszx4:=AO Uh
  have htzx4:=JY Uh
  rw [WQ] at hekx4
  rw [Z5v om] at hekx4
  refine dx 4 (Zm none 0 3 (Br Uh)) (Y0 2 4 [5,6] (.n 56 (ZH x4) (.n 57 (Z0 us) .r)) (Z9 7 (dc 7 [2,2] [] [] (ih l x4 us xs w q (by first|assumption|(rw [Yz];assumption)) (by first|assumption|exact D3 hu hlwhp1.v|exact EL hu) (by first|omega|(simp only [Yz,YS,Xm];omega)) (by first|omega|(simp only [Yz,YS,Xm];omega)) ob ob) ?_)))
  rintro _ _ ⟨ys3,v5,w23,rfl,rfl,Yy⟩
  have hlwhp3:=Yy
  have hldhp3:=Yy.dn
  refine ZZ 0 1 [8] 10 (.i v5) (de (ar (iL (YH []) 0 2 ?_)))
  intro v6
  refine Z1 1 11 (X4 [] v6) (ie (ar (ZY 4 61 (Zd g.decls) 63 (.i e.num) [4,3] [b1,b2] (ic [] (KS g.decls e.num) ?_))))
  rintro _ _ ⟨v7,rfl,rfl⟩
  refine Z1 1 12 (Z7 (Zw g.decls e.num) v7) (ie (aq (ar (Z1 1 13 (.i 1) (ie (ab 1 (al (fun m F h=>∃(k:Nat) (cs:List Z6) (u:Value),(1<=k/\k<=e.kids.length)/\(cs.length+1=k)/\(T9 g.decls g.funcs.length (UA g.decls e.op e.num (q+YO ys3)) 0 cs)/\(YR cs+6*x4.sz<=cs.length+6*Xn (e.kids.take k))/\(Q4 Wr cs)/\F=[(0,.p l 0),(3,Z0 us),(5,.p b1 0),(6,.p b2 0),(10,.i v5),(11,X4 cs u),(12,Z0 (Zw g.decls e.num)),(13,.i k)]/\h=[.obj l [ZX (xs++ys3) w23,.i (((q+YO ys3):Nat):Int)],.obj b2 (YA e),.obj b1 (Jp g),.tail u 2,.tail w23 5]/\m=e.kids.length-k) _ _ _ ⟨1,[],v6,ob,ob,True.intro,(by have h:Xn (e.kids.take 1)=Xn (e.kids.take 0)+x4.sz:=JY Uh;simp only [YR,Xm];omega),True.intro,rfl,rfl,rfl⟩ (wk [2,3,3,1,1] (fq (fw (fc (x:=Z7 (Zw g.decls e.num) v7) (Zg.forget _ _) (fc (x:=.i 1) li fl))))) ?_)))))))
  rintro m F h ⟨k,cs,u,Yj,Zp,Zy,YJ,Wg,rfl,rfl,rfl⟩
  refine aq (ar (ZY 3 65 (.i k) 67 (X3 e.kids) [1] [b2] (iw (FJ e.kids) (Z1 1 69 (.b (decide ((k:Int)<(e.kids.length:Int)))) (ie (ZM ((k:Int)<(e.kids.length:Int)) (fun Xi=>?_) (fun Xi=>?_)))))))
  ·refine ak (aq (ab 2 (ar (Z1 1 14 (.i 0) (ie (aq (ar (Yl 3 74 (.b (e.op==8)) [1] [b2] (ie (XI (fun F h=>∃(mf:Nat),(UA g.decls e.op e.num (q+YO ys3) cs.length=(q+YO ys3)+mf)/\(mf<=3)/\(Tf g.decls e.op e.num us.length k=us.length+mf)/\F=[(0,.p l 0),(3,Z0 us),(5,.p b1 0),(6,.p b2 0),(10,.i v5),(11,X4 cs u),(12,Z0 (Zw g.decls e.num)),(13,.i k),(14,.i mf)]/\h=[.obj l [ZX (xs++ys3) w23,.i (((q+YO ys3):Nat):Int)],.obj b2 (YA e),.obj b1 (Jp g),.tail u 2,.tail w23 5]) ?_ ?_))))))))))
   ·refine ac (e.op==8) Zh (fun Xj=>?_) (fun Xj=>?_)
    ·refine aE 10 (W2 6 10 [0,1,2,3] [(0,.p l 0),(3,Z0 us),(5,.p b1 0),(6,.p b2 0),(10,.i v5),(11,X4 cs u),(12,Z0 (Zw g.decls e.num)),(13,.i k),(14,.i 0),(76,Zd g.decls),(77,Z0 (Zw g.decls e.num)),(78,.i k)] [2] [b1] (da 4 (((k-1:Nat):Int)) (((k:Int))-(1)) ?_))
     obtain ⟨x5,UN⟩:=Zr (xs:=Zw g.decls e.num) (j:=k-1) (by have:=h8 om;omega)
     refine dx 5 (Zm none ((k-1:Nat):Int) 1 (Y4 UN)) (ZZ 3 4 [6] 81 (.i x5) (Z9 7 (Yv 7 [] [] [] (Qr g.decls x5) (dn 8 (.i (((ZC g.decls x5).length:Nat):Int)) (.i (((Z8 (ZC g.decls x5)).length:Nat):Int)) (li (by rw [Yh])) (Y0 0 1 [9] (.n 14 (.i (((ZC g.decls x5).length:Nat):Int)) (.p (.p (.d (.p (.p (.w (.w .z)))))))) (de ?_))))))
     exact ZW ⟨(ZC g.decls x5).length,(H6 om (by rw [show cs.length=k-1 by omega];exact UN)),(by have:=VK Xu x5;omega),(Z5w om (show k=(k-1)+1 by omega) UN),rfl,rfl⟩ (ZT 5 (fq (fq (fc (x:=.i (((ZC g.decls x5).length:Nat):Int)) (li (by first|rfl|(rw [Zo Xj])|(rw [Zc Xj])|(simp [Xj];done)|(rw [Xl];simp [Xj];done)|omega)) fl))))
    refine ak ?_
    exact ZW ⟨0,(H7 om),om,(Nj om),rfl,rfl⟩ (ZT 5 (fq (fq (fc (x:=.i 0) (li (by first|rfl|(rw [Zo Xj])|(rw [Zc Xj])|(simp [Xj];done)|(rw [Xl];simp [Xj];done)|omega)) fl))))
   rintro F h ⟨mf,Z2c,Z9o,Z2d,rfl,rfl⟩
   refine aE 25 (W2 20 25 [0,1,2,3,4] [(0,.p l 0),(3,Z0 us),(5,.p b1 0),(6,.p b2 0),(10,.i v5),(11,X4 cs u),(12,Z0 (Zw g.decls e.num)),(13,.i k),(14,.i mf),(84,X4 cs u),(85,Tk g),(87,X3 e.kids),(88,.i k)] [2,1] [b1,b2] ?_)
   obtain ⟨x6,AX⟩:=Zr (xs:=e.kids) (j:=k) om
   have hekx6:=Bu hks AX
   have hszx6:=AO AX
   have htzx6:=JY AX
   rw [WQ] at hekx6
   rw [Z2d] at hekx6
   have htk:=Jd (xs:=e.kids) (k+1)
   have hbl:=Di cs
   refine dx 5 (Zm none (k:Int) 3 (Br AX)) (Y6 7 19 [6,7,8,9,10,11,12,15,16,17,18,19] (.n 90 (ZH x6) (.n 91 (Z0 us) (.n 95 (.i (((q+YO ys3):Nat):Int)) (.n 96 (.i mf) (.n 102 (.i (((q+YO ys3):Nat):Int)) (.n 103 (.i mf) .r)))))) [0,0] [l,l] (da 20 ((((q+YO ys3)+mf:Nat):Int)) (((((q+YO ys3):Nat):Int))+((mf:Int))) (Z9 13 (dc 13 [] [0,1,2] [l,b2,b1] (G9 (q+YO ys3) mf) ?_))))
   rintro _ _ ⟨xs1,rfl,rfl,YK⟩
   have hnx:=YK
   refine Z9 14 (dc 14 [] [0,1,2] [l,b2,b1] (Q9 us xs1) ?_)
   rintro _ _ ⟨v8,rfl,rfl⟩
   refine Y0 4 4 [] (.n 98 (Z0 (us++xs1)) (.p .r)) (Z9 21 (dc 21 [] [] [] (Lg g x6 (us++xs1) ((q+YO ys3)+mf) e.sz (he:=(by rw [Yz,hnx.1];exact hekx6)) (hu:=(Z8r hu hnx.2)) (hul:=(by rw [Yz,hnx.1];omega)) (hql:=om) (ih:=ih)) ?_))
   rintro _ _ ⟨b3,rfl,rfl,X0⟩
   have hlb:=X0
   refine Z9 22 (Wj 22 [] [] [Zs b3] (YH [b3]) (Ur [b3]).symm 1 2 ?_)
   intro v9
   refine Y0 2 2 [] (.n 106 (Yu [b3]) (.p .r)) (Z9 23 (dp 23 5 [] [] (YH (cs++[b3])) (YH cs) (YH [b3]) u none 2 (T7 _) (T7 _) (Dr _) (by simp<;>omega) (by simp [J8,YH]) ?_))
   intro v10
   refine Y0 0 1 [24] (.n 11 (X4 (cs++[b3]) v10) (.p (.d (.p (.d (.p (.p (.d (.d (.d (.d (.d (.d (.p (.w (.k (.d (.k (.k .z))))))))))))))))))) (de (az (Z1 1 70 (.i k) (ZL k (Z5 1 (.n 13 (.i (k+1:Nat)) (.p (.d (.w (.k (.k (.k .z))))))) (ie ?_))))))
   exact ZO ⟨k+1,(cs++[b3]),v10,ob,ob,(II Zy (by rw [Z2c];exact hlb.1)),(by have:=hlb.2;rw [C8,Yz];simp only [YR,YS,Xm];omega),(Mn Wg hlb.op),rfl,rfl,rfl⟩ (wk [3,3,3,0,2] (fq (fw (fr (ZQ k fl)))))
  refine ax 1 (ar (Y2 6 (.n 108 (.p l 0) (.n 110 (.i e.op) (.n 112 (.i e.num) (.n 113 (.i v5) .r)))) [1,1] [b2,b2] (iL (Z8 [v5]) 1 1 ?_)))
  intro v11
  refine Z1 2 116 (.agg [.i e.op,.i e.num,.i 0,Z0 [v5],Yu cs]) (ic [1,4] (L5 l (xs++ys3) w23 (q+YO ys3) (Z4.mk e.op e.num 0 [v5] cs) (hl:=(by first|(have h1:=Kk zs;have h2:=Jd (xs:=e.kids) k;have h3:=AK zs;(try simp only [Yz]);omega)|((try simp only [Yz]);omega))) (hq:=(by first|(have h1:=Kk zs;have h2:=Jd (xs:=e.kids) k;have h3:=AK zs;(try simp only [Yz]);omega)|((try simp only [Yz]);omega)))) ?_)
  rintro _ _ ⟨w24,rfl,rfl⟩
  refine ir 1 [(8,.i (((q+YO ys3):Nat):Int))] (ie ?_)
  have hcb:Yf e.op=false:=by simp [Yf];omega
  exact Zb (r1 [0,0] ⟨(ys3++[Z4.mk e.op e.num 0 [v5] cs]),(((q+YO ys3):Nat):Int),w24,rfl,rfl,(LW.branch (s0:=x4.sz) (sr:=Xn (e.kids.take k)-x4.sz) om (fun h=>by have:=h7 h;omega) (fun h=>by have:=h8 h;omega) hnum hlwhp3.fs hlwhp3.v Zy om hlwhp3.sz (by have:=Di cs;omega) (by have:=Jd (xs:=e.kids) k;omega) hlwhp3.op Wg)⟩ (eq:=(ro (ls:=[ZX ((xs++ys3)++[(Z4.mk e.op e.num 0 [v5] cs)]) w24,.i ((((q+YO ys3)+1):Nat):Int)]) (by rw [Ce (s:=Z4.mk e.op e.num 0 [v5] cs) hcb,<-JD,TA]) (rc rz))))
 refine ak (ar (iL (Z8 []) 0 1 ?_))
 intro v12
 refine ir 1 [(0,.p l 0),(3,Z0 us),(5,.p b1 0),(6,.p b2 0),(15,Z7 [] v12)] (ie (aq (ar (Z1 1 16 (.i 0) (ie (ab 3 (al (fun m F h=>∃(k:Nat) (asl:List Int) (u:Value) (zs:List Z4) (w3:Value),(k<=e.kids.length)/\(asl.length=k)/\(UJ g.decls g.funcs.length q zs)/\(∀a∈asl,0<=a/\a<((q+YO zs:Nat):Int))/\(Yp zs<=6*Xn (e.kids.take k))/\(Te Wr zs)/\F=[(0,.p l 0),(3,Z0 us),(5,.p b1 0),(6,.p b2 0),(15,Z7 asl u),(16,.i k)]/\h=[.obj b2 (YA e),.obj b1 (Jp g),.obj l [ZX (xs++zs) w3,.i (((q+YO zs):Nat):Int)],.tail u 1,.tail w3 5]/\m=e.kids.length-k) _ _ _ ⟨0,[],v12,[],w,ob,ob,True.intro,(fun a ha=>by cases ha),(by simp [Yp]),True.intro,rfl,rfl,rfl⟩ (wk [1,1,1,0,0] (fq (fr (Ya fl))) (e:=(rc (rc (ro (ls:=[ZX xs w,.i q]) (by simp [YO]) (rc (rc rz))))))) ?_)))))))
 rintro m F h ⟨k,asl,u,zs,w3,VS,XH,XE,Fk,Z9d,Ic,rfl,rfl,rfl⟩
 refine aq (ar (ZY 3 119 (.i k) 121 (X3 e.kids) [0] [b2] (iw (FJ e.kids) (Z1 1 123 (.b (decide ((k:Int)<(e.kids.length:Int)))) (ie (ZM ((k:Int)<(e.kids.length:Int)) (fun Vx=>?_) (fun Vx=>?_)))))))
 ·refine ak (aq (ab 4 (aD 10 (Y6 5 10 [0,1,2,3,4] (.n 126 (.p l 0) (.n 127 (Tk g) (.n 129 (X3 e.kids) (.n 130 (.i k) .r)))) [1,0] [b1,b2] ?_))))
  obtain ⟨x7,DQ⟩:=Zr (xs:=e.kids) (j:=k) om
  have hzl:=Kk zs
  have hzd:=AK zs
  have htk:=Jd (xs:=e.kids) (k+1)
  have hekx7:=Bu hks DQ
  have hszx7:=AO DQ
  have htzx7:=JY DQ
  rw [WQ] at hekx7
  rw [Nj om] at hekx7
  refine dx 5 (Zm none (k:Int) 3 (Br DQ)) (Y0 2 4 [6,7] (.n 132 (ZH x7) (.n 133 (Z0 us) .r)) (Z9 8 (dc 8 [2,3] [] [] (ih l x7 us (xs++zs) w3 (q+YO zs) (by first|assumption|(rw [Yz];assumption)) (by first|assumption|exact D3 hu hlwhp1.v|exact EL hu) (by first|omega|(simp only [Yz,YS,Xm];omega)) (by first|omega|(simp only [Yz,YS,Xm];omega)) ob ob) ?_)))
  rintro _ _ ⟨ys4,v13,w25,rfl,rfl,XB⟩
  have hlwhp6:=XB
  have hldhp6:=XB.dn
  refine ZZ 0 1 [9] 17 (.i v13) (de (az (Yq 2 135 (Z7 asl u) 136 (.i v13) (iL (Z8 [v13]) 1 1 ?_))))
  intro v14
  refine Z5 0 (.n 137 (Z0 [v13]) (.p .r)) (ip 5 (Z8 (asl++[v13])) (Z8 asl) (Z8 [v13]) u none 1 (YF _) (YF _) (XX _) (by simp<;>omega) (by simp [XW,Z8]) ?_)
  intro v15
  refine ir 1 [(0,.p l 0),(3,Z0 us),(5,.p b1 0),(6,.p b2 0),(15,Z7 (asl++[v13]) v15),(16,.i k)] (ie (az (Z1 1 124 (.i k) (ZL k (Z5 1 (.n 16 (.i (k+1:Nat)) (.p (.d (.w (.k .z))))) (ie ?_))))))
  exact ZO ⟨k+1,(asl++[v13]),v15,(zs++ys4),w25,ob,ob,(Bw.2 ⟨XE,hlwhp6.fs⟩),(by rw [K9,<-JD];exact D3 Fk hlwhp6.v),(by have:=hlwhp6.sz;rw [US];omega),(Ee.2 ⟨Ic,hlwhp6.op⟩),rfl,rfl,rfl⟩ (wk [4,4,2,0,1] (fq (fr (ZQ k fl))) (e:=(rc (rc (ro (ls:=[ZX ((xs++zs)++ys4) w25,.i ((((q+YO zs)+YO ys4):Nat):Int)]) (by rw [K9,<-JD,TA]) (rc (rc rz)))))))
 refine ax 3 (ar (iR 6 [(139,.p l 0),(141,.i e.op),(143,.i e.num),(144,Z7 asl u)] [0,0] [b2,b2] (iL (YH []) 0 2 ?_)))
 intro v16
 refine Z1 1 146 (.agg [.i e.op,.i e.num,.i 0,Z0 asl,Yu []]) (ic [3,4] (L5 l (xs++zs) w3 (q+YO zs) (Z4.mk e.op e.num 0 asl []) (hl:=(by first|(have h1:=Kk zs;have h2:=Jd (xs:=e.kids) k;have h3:=AK zs;(try simp only [Yz]);omega)|((try simp only [Yz]);omega))) (hq:=(by first|(have h1:=Kk zs;have h2:=Jd (xs:=e.kids) k;have h3:=AK zs;(try simp only [Yz]);omega)|((try simp only [Yz]);omega)))) ?_)
 rintro _ _ ⟨w26,rfl,rfl⟩
 refine ir 1 [(8,.i (((q+YO zs):Nat):Int))] (ie ?_)
 have hcb:Yf e.op=false:=by simp [Yf];omega
 exact Zb (r1 [0,0] ⟨(zs++[Z4.mk e.op e.num 0 asl []]),(((q+YO zs):Nat):Int),w26,rfl,rfl,(LW.node om h9 hnum XE Fk om (by have:=Jd (xs:=e.kids) k;omega) Ic)⟩ (eq:=(ro (ls:=[ZX ((xs++zs)++[(Z4.mk e.op e.num 0 asl [])]) w26,.i ((((q+YO zs)+1):Nat):Int)]) (by rw [Ce (s:=Z4.mk e.op e.num 0 asl []) hcb,<-JD,<-TA]) (rc rz))))
theorem SP (l:Nat) (g:XU) (e:Z2) (us:List Int) (xs:List Z4) (w:Value) (q:Nat) (hd:GD g.decls) (he:eW g.decls g.funcs.length us.length e) (hu:∀a∈us,0<=a/\a<(q:Int)) (hul:us.length+4*e.sz<=100000) (hxl:xs.length+6*e.sz<=100000) (hql:q+6*e.sz<=100000):Zi Tryz.prog 188 [.p l 0,Tk g,ZH e,Z0 us] [.obj l [ZX xs w,.i q],.tail w 5] (fun r h=>∃(ys:List Z4) (v:Int) (w2:Value),r=.i v/\h=[.obj l [ZX (xs++ys) w2,.i (((q+YO ys):Nat):Int)],.tail w2 5]/\LW g.decls g.funcs.length q e ys v):=by
 have key:∀k:Nat,∀(l:Nat) (e2:Z2) (us2:List Int) (xs2:List Z4) (w2:Value) (q2:Nat),(eW g.decls g.funcs.length us2.length e2)->(∀a∈us2,0<=a/\a<(q2:Int))->(us2.length+4*e2.sz<=100000)->(xs2.length+6*e2.sz<=100000)->(q2+6*e2.sz<=100000)->(e2.sz<k)->Zi Tryz.prog 188 [.p l 0,Tk g,ZH e2,Z0 us2] [.obj l [ZX xs2 w2,.i q2],.tail w2 5] (fun r h=>∃(ys:List Z4) (v:Int) (w2:Value),r=.i v/\h=[.obj l [ZX (xs2++ys) w2,.i (((q2+YO ys):Nat):Int)],.tail w2 5]/\LW g.decls g.funcs.length q2 e2 ys v):=by
  intro k
  induction k with
  | zero=>intro l e2 us2 xs2 w2 q2 h1 h2 h3 h4 h5 h6;omega
  | succ k ih=>intro l e2 us2 xs2 w2 q2 h1 h2 h3 h4 h5 h6;exact SQ l g e2 us2 xs2 w2 q2 hd h1 h2 h3 h4 h5 fun l e3 us3 xs3 w3 q3 a1 a2 a3 a4 a5 a6=>ih l e3 us3 xs3 w3 q3 a1 a2 a3 a4 a5 om
 exact key (e.sz+1) l e us xs w q he hu hul hxl hql om
theorem G8 (g:XU) (e:Z2) (us:List Int) (q:Nat) (hd:GD g.decls:=by exact ob) (he:eW g.decls g.funcs.length us.length e:=by exact ob) (hu:∀a∈us,0<=a/\a<(q:Int)) (hul:us.length+4*e.sz<=100000:=by exact ob) (hql:q+6*e.sz<=100000:=by exact ob):Zi Tryz.prog 152 [Tk g,ZH e,Z0 us,.i q] [] (fun r h=>∃(b:Z6),r=Zs b/\h=[]/\LB g.decls g.funcs.length q e b):=(Lg g e us q (e.sz+1) he hu hul hql om (fun l e2 us2 xs2 w2 q2 h1 h2 h3 h4 h5 _=>SP l g e2 us2 xs2 w2 q2 hd h1 h2 h3 h4 h5))
theorem B7 (ds:List Zf) (hd:Wn ds:=by exact ob):Zi Tryz.prog 113 [Zd ds] [] (fun r h=>r=Zd ds/\h=[]):=by
 have hdl:=hd.len
 refine ZK 55 Tryz.func113 (ar (ir 1 [(0,Zd ds)] (ie (ar (iL (YW []) 0 3 ?_)))))
 intro v1
 refine Z1 1 3 (Uj [] v1) (ie (aq (ar (Z1 1 4 (.i 0) (ie (ab 0 (al (fun m F h=>∃(k:Nat) (v:Value),(k<=ds.length)/\F=[(0,Zd ds),(3,Uj (ds.take k) v),(4,.i k)]/\h=[.tail v 3]/\m=ds.length-k) _ _ _ ⟨0,v1,ob,rfl,rfl,rfl⟩ (wk [0] (fr (fc (x:=Uj [] v1) (Zg.slh _ (Yx YW rfl)) (Ya fl)))) ?_)))))))
 rintro m F h ⟨k,v,Yj,rfl,rfl,rfl⟩
 refine aq (ar (Yq 2 8 (.i k) 9 (Zd ds) (iw (VU ds) (Z1 1 11 (.b (decide ((k:Int)<(ds.length:Int)))) (ie (ZM ((k:Int)<(ds.length:Int)) (fun Ze=>?_) (fun Ze=>?_)))))))
 ·obtain ⟨xd,hxd⟩:=Zr (xs:=ds) (j:=k) om
  have hcl:=hd.cons_at hxd
  refine ak (aq (ab 1 (ar (iL (Wx []) 0 1 ?_))))
  intro v2
  refine Z1 1 5 (QQ [] v2) (ie (aq (ar (Z1 1 6 (.i 0) (ie (ab 2 (al (fun m F h=>∃(j:Nat) (u:Value),(j<=xd.cons.length)/\F=[(0,Zd ds),(3,Uj (ds.take k) v),(4,.i k),(5,QQ (xd.cons.take j) u),(6,.i j)]/\h=[.tail u 1,.tail v 3]/\m=xd.cons.length-j) _ _ _ ⟨0,v2,ob,rfl,rfl,rfl⟩ (wk [0,0] (fw (fr (fc (x:=QQ [] v2) (Zg.slh _ (Yx Wx rfl)) (Ya fl))))) ?_)))))))
  rintro m F h ⟨j,u,VS,rfl,rfl,rfl⟩
  refine aq (ar (Z5 3 (.n 15 (.i j) (.n 16 (Zd ds) (.n 17 (.i k) .r))) (Zq (Zm none (k:Int) 3 (Vk hxd)) (Z1 2 20 (W5 xd.cons) (iw (Ud xd.cons) (Z1 1 22 (.b (decide ((j:Int)<(xd.cons.length:Int)))) (ie (ZM ((j:Int)<(xd.cons.length:Int)) (fun Zk=>?_) (fun Zk=>?_)))))))))
  ·refine ak (aq (ab 3 (az (Z5 3 (.n 25 (QQ (xd.cons.take j) u) (.n 26 (Zd ds) (.n 27 (.i k) .r))) (Zq (Zm none (k:Int) 3 (Vk hxd)) (Yq 3 30 (W5 xd.cons) 31 (.i j) ?_))))))
   obtain ⟨x1,Z3⟩:=Zr (xs:=xd.cons) (j:=j) om
   have hfl:=hd.fields_at hxd Z3
   refine Zq (Zm none (j:Int) 1 (Bo Z3)) (Z1 2 34 (Z0 x1.fields) (ic [] (VP x1.fields) ?_))
   rintro _ _ ⟨v3,rfl,rfl⟩
   refine Z1 1 36 (AB x1) (iL (Wx [x1]) 1 1 ?_)
   intro v4
   refine Z5 0 (.n 37 (W5 [x1]) (.p .r)) (ip 2 (Wx (xd.cons.take (j+1))) (Wx (xd.cons.take j)) (Wx [x1]) u none 1 (FG _) (FG _) (Rr _) (by simp<;>omega) (by rw [WM Z3];simp [Wx]) ?_)
   intro v5
   refine ir 1 [(0,Zd ds),(3,Uj (ds.take k) v),(4,.i k),(5,QQ (xd.cons.take (j+1)) v5),(6,.i j)] (ie (az (Z1 1 23 (.i j) (ZL j (Z5 1 (.n 6 (.i (j+1:Nat)) (.p (.d (.w .z)))) (ie ?_))))))
   exact ZO ⟨j+1,v5,ob,rfl,rfl,rfl⟩ (wk [0,2] (fq (ZQ j fl)))
  refine ax 2 (aE 16 (Y0 13 16 [0,1,2] (.n 39 (Uj (ds.take k) v) (.n 40 (Zd ds) (.n 41 (.i k) .r))) (dx 3 (Zm none (k:Int) 3 (Vk hxd)) (Y0 8 12 [4,5,6,7] (.n 44 (.i xd.frm) (.n 45 (Zd ds) (.n 46 (.i k) .r))) (dx 8 (Zm none (k:Int) 3 (Vk hxd)) (ZZ 3 7 [9,10,11,12] 51 (.agg [.i xd.frm,.i xd.to_,W5 (xd.cons.take j)]) (Z9 13 (dL 13 [] [] (YW [Zf.mk xd.frm xd.to_ (xd.cons.take j)]) 1 3 ?_))))))))
  intro v6
  refine Y0 2 2 [] (.n 52 (Zd [Zf.mk xd.frm xd.to_ (xd.cons.take j)]) (.p .r)) (Z9 14 (dp 14 2 [] [] (YW (ds.take (k+1))) (YW (ds.take k)) (YW [Zf.mk xd.frm xd.to_ (xd.cons.take j)]) v none 3 (Ka _) (Ka _) (Ds _) (by simp<;>omega) (by rw [WM hxd];simp [YW,Vg (show xd.cons.length<=j by omega)]) ?_))
  intro v7
  refine Xa 0 1 [15] [(0,Zd ds),(3,Uj (ds.take (k+1)) v7),(4,.i k)] (de (az (Z1 1 12 (.i k) (ZL k (Z5 1 (.n 4 (.i (k+1:Nat)) (.p (.d (.k (.k .z))))) (ie ?_))))))
  exact ZO ⟨k+1,v7,ob,rfl,rfl,rfl⟩ (wk [0] (fw (ZQ k fl)))
 refine ax 0 (ar (ir 2 [(2,Uj (ds.take k) v)] (ie ?_)))
 exact Zb (r2 [] [Uj (ds.take k) v] ⟨rfl,rfl⟩ (Zg.sl _ (Yx YW (by rw [Vg om]))))
theorem SY (g:XU) (hg:F4 g:=by exact ob):Zi Tryz.prog 119 [Tk g] [] (fun r h=>∃(n:Zx),r=ZD n/\h=[]/\FO n 181 Wr):=by
 have hgl:=hg.gp.len
 have Xu:=hg.gp.decls.ok
 refine ZK 49 Tryz.func119 (ar (iA (Jp g) ?_))
 intro b1
 refine iA [nl,nl] ?_
 intro b2
 refine ie (ar (iR 2 [(1,.p b1 0),(2,.p b2 0),(9,Zd g.decls)] [1] [b1] (ZA [] (B7 g.decls) (iL (YN []) 0 5 ?_))))
 intro v1
 refine Z1 1 12 (.agg [Zd g.decls,Xg [] v1]) (iA [nl,nl] ?_)
 intro b3
 refine ZF 0 b3 [Zd g.decls,Xg [] v1] (ie (aq (ar (Z1 1 4 (.i 0) (ie (ab 0 (al (fun m F h=>∃(k:Nat) (rs:List Yb) (u:Value),(k<=g.funcs.length)/\(rs.length=k)/\(∀r∈rs,RN g.decls g.funcs.length r)/\F=[(1,.p b1 0),(2,.p b2 0),(3,.p b3 0),(4,.i k)]/\h=[.obj b3 [Zd g.decls,Xg rs u],.obj b2 [nl,nl],.obj b1 (Jp g),.tail u 5]/\m=g.funcs.length-k) _ _ _ ⟨0,[],v1,ob,ob,(fun r hr=>by cases hr),rfl,rfl,rfl⟩ (wk [0,1,1,0] (fw (fr (Ya fl)))) ?_)))))))
 rintro m F h ⟨k,rs,u,Yj,Zp,Zy,rfl,rfl,rfl⟩
 refine aq (ar (ZY 3 13 (.i k) 15 (BK g.funcs) [2] [b1] (iw (Bs g.funcs) (Z1 1 17 (.b (decide ((k:Int)<(g.funcs.length:Int)))) (ie (ZM ((k:Int)<(g.funcs.length:Int)) (fun Ze=>?_) (fun Ze=>?_)))))))
 ·refine ak (aq (ab 1 (ar (ZY 3 21 (BK g.funcs) 22 (.i k) [2] [b1] ?_))))
  obtain ⟨x1,Z3⟩:=Zr (xs:=g.funcs) (j:=k) om
  have hso:=(hg.gp.sigs _ (Y7 Z3)).bd
  have hsi:=hg.gp.sigs _ (Y7 Z3)
  have hbo:=hg.body _ (Y7 Z3)
  refine Zq (Zm none (k:Int) 5 (Dt Z3)) (Z1 1 24 (J2 x1) (iA [nl,.i 0,.i 0,.i 0,nl] ?_))
  intro b4
  refine ZF 0 b4 (CD x1) (ie (ar (Yl 2 26 (Z0 x1.params) [0] [b4] (iw (Yh x1.params) (Z1 1 6 (.i x1.params.length) (ie (aD 9 (Y6 4 9 [0,1,2,3,5] (.n 28 (Tk g) (.n 30 (ZH x1.body) (.n 31 (.i x1.params.length) (.n 33 (.i x1.params.length) .r)))) [3,0] [b1,b4] (dK (fun F h=>∃(b5:Z6) (b6:Nat) (xs1:List Int),(xs1.length=x1.params.length/\∀i∈xs1,(0:Int)<=i/\i<(0:Int)+x1.params.length)/\(LB g.decls g.funcs.length x1.params.length x1.body b5)/\F=[(1,.p b1 0),(2,.p b2 0),(3,.p b3 0),(4,.i k),(5,.p b4 0),(7,.p b6 0)]/\h=[.obj b6 (Yk b5),.obj b4 (CD x1),.obj b3 [Zd g.decls,Xg rs u],.obj b2 [nl,nl],.obj b1 (Jp g),.tail u 5]) ?_ ?_)))))))))
  ·refine Vj 4 7 ?_ ?_
   ·refine dc 4 [] [0,3] [b4,b1] (G9 0 x1.params.length) ?_
    rintro _ _ ⟨xs1,rfl,rfl,ZP⟩
    have hnx:=ZP
    refine Vj 6 7 ?_ ?_
    ·refine dc 6 [] [] [] (G8 g x1.body xs1 x1.params.length (hd:=hg.gp.decls) (he:=(by rw [hnx.1];exact hbo.1)) (hu:=(fun a ha=>by have:=hnx.2 a ha;omega))) ?_
     rintro _ _ ⟨b5,rfl,rfl,Y1⟩
     have hlb:=Y1
     refine Z9 7 (dA 7 [] [] [nl,.i 0] ?_)
     intro b6
     refine Z9 8 (YL 8 0 [] [] b6 (Yk b5) (de ?_))
     exact ZW ⟨_,b6,_,(by assumption),(by assumption),rfl,rfl⟩ (ZT 6 fl)
    refine dA 7 [0,3] [b4,b1] [nl,.i 0] ?_
    intro b7
    refine Z9 6 (dc 6 [] [] [] (G8 g x1.body xs1 x1.params.length (hd:=hg.gp.decls) (he:=(by rw [hnx.1];exact hbo.1)) (hu:=(fun a ha=>by have:=hnx.2 a ha;omega))) ?_)
    rintro _ _ ⟨b8,rfl,rfl,Yy⟩
    have hlb:=Yy
    refine Z9 8 (YL 8 0 [] [] b7 (Yk b8) (de ?_))
    exact ZW ⟨_,b7,_,(by assumption),(by assumption),rfl,rfl⟩ (ZT 6 fl)
   refine dA 7 [0,3] [b4,b1] [nl,.i 0] ?_
   intro b9
   refine Z9 4 (dc 4 [] [1,4] [b4,b1] (G9 0 x1.params.length) ?_)
   rintro _ _ ⟨xs2,rfl,rfl,YK⟩
   have hnx:=YK
   refine Z9 6 (dc 6 [] [] [] (G8 g x1.body xs2 x1.params.length (hd:=hg.gp.decls) (he:=(by rw [hnx.1];exact hbo.1)) (hu:=(fun a ha=>by have:=hnx.2 a ha;omega))) ?_)
   rintro _ _ ⟨b10,rfl,rfl,X0⟩
   have hlb:=X0
   refine Z9 8 (YL 8 0 [] [] b9 (Yk b10) (de ?_))
   exact ZW ⟨_,b9,_,(by assumption),(by assumption),rfl,rfl⟩ (ZT 6 fl)
  rintro F h ⟨b5,b6,xs1,ZP,Y1,rfl,rfl⟩
  have hnx:=ZP
  have hlb:=Y1
  refine aE 14 (W2 7 14 [0,1,2,3,6,7,8] [(1,.p b1 0),(2,.p b2 0),(3,.p b3 0),(4,.i k),(36,Xg rs u),(38,Z0 x1.params),(42,.i x1.result),(43,Zs b5)] [2,1,1,0] [b3,b4,b4,b6] (Vj 4 5 ?_ ?_))
  ·refine dc 4 [] [0,1,2] [b6,b4,b3] (VP x1.params) ?_
   rintro _ _ ⟨v2,rfl,rfl⟩
   refine Z9 5 (dL 5 [0,1,2] [b6,b4,b3] (Z8 []) 0 1 ?_)
   intro v3
   refine Xa 4 5 [9] [(1,.p b1 0),(2,.p b2 0),(3,.p b3 0),(4,.i k),(36,Xg rs u),(44,.agg [Z0 x1.params,Z0 [],.i x1.result,Ye b5.steps,.i b5.result])] (Z9 10 (dL 10 [2] [b3] (YN [Yb.mk x1.params [] x1.result (Z6.mk b5.steps b5.result)]) 1 5 ?_))
   intro v4
   refine Y0 3 3 [] (.n 45 (YZ [Yb.mk x1.params [] x1.result (Z6.mk b5.steps b5.result)]) (.p .r)) (Z9 11 (dp 11 8 [] [] (YN (rs++[Yb.mk x1.params [] x1.result (Z6.mk b5.steps b5.result)])) (YN rs) (YN [Yb.mk x1.params [] x1.result (Z6.mk b5.steps b5.result)]) u none 5 (Ue _) (Ue _) (JX _) (by simp<;>omega) (by simp [AM,YN]) ?_))
   intro v5
   refine ZZ 1 2 [12] 47 (.p b3 1) (Z9 13 (YL 13 6 [] [] b3 [Zd g.decls,Xg (rs++[Yb.mk x1.params [] x1.result (Z6.mk b5.steps b5.result)]) v5] (de (az (Z1 1 18 (.i k) (ZL k (ir 1 [(1,.p b1 0),(2,.p b2 0),(3,.p b3 0),(4,.i (k+1:Nat))] (ie ?_))))))))
   exact ZO ⟨k+1,(rs++[Yb.mk x1.params [] x1.result (Z6.mk b5.steps b5.result)]),v5,ob,ob,(Xp Zy (RN.of hsi hlb hbo.2)),rfl,rfl,rfl⟩ (wk [0,6,6,0] (fw (fr (ZQ k fl))))
  refine dL 5 [0,1,1,2] [b6,b4,b4,b3] (Z8 []) 0 1 ?_
  intro v6
  refine Z9 4 (dc 4 [] [0,1,2] [b6,b4,b3] (VP x1.params) ?_)
  rintro _ _ ⟨v7,rfl,rfl⟩
  refine Xa 4 5 [9] [(1,.p b1 0),(2,.p b2 0),(3,.p b3 0),(4,.i k),(36,Xg rs u),(44,.agg [Z0 x1.params,Z0 [],.i x1.result,Ye b5.steps,.i b5.result])] (Z9 10 (dL 10 [2] [b3] (YN [Yb.mk x1.params [] x1.result (Z6.mk b5.steps b5.result)]) 1 5 ?_))
  intro v8
  refine Y0 3 3 [] (.n 45 (YZ [Yb.mk x1.params [] x1.result (Z6.mk b5.steps b5.result)]) (.p .r)) (Z9 11 (dp 11 8 [] [] (YN (rs++[Yb.mk x1.params [] x1.result (Z6.mk b5.steps b5.result)])) (YN rs) (YN [Yb.mk x1.params [] x1.result (Z6.mk b5.steps b5.result)]) u none 5 (Ue _) (Ue _) (JX _) (by simp<;>omega) (by simp [AM,YN]) ?_))
  intro v9
  refine ZZ 1 2 [12] 47 (.p b3 1) (Z9 13 (YL 13 6 [] [] b3 [Zd g.decls,Xg (rs++[Yb.mk x1.params [] x1.result (Z6.mk b5.steps b5.result)]) v9] (de (az (Z1 1 18 (.i k) (ZL k (ir 1 [(1,.p b1 0),(2,.p b2 0),(3,.p b3 0),(4,.i (k+1:Nat))] (ie ?_))))))))
  exact ZO ⟨k+1,(rs++[Yb.mk x1.params [] x1.result (Z6.mk b5.steps b5.result)]),v9,ob,ob,(Xp Zy (RN.of hsi hlb hbo.2)),rfl,rfl,rfl⟩ (wk [0,6,6,0] (fw (fr (ZQ k fl))))
 refine ax 0 (ar (Yl 1 48 (.agg [Zd g.decls,Xg rs u]) [0] [b3] (ZF 1 b2 [Zd g.decls,Xg rs u] (ie ?_))))
 exact Zb (r3 [] [.agg [Zd g.decls,Xg rs u]] [0] [(b2,b2)] ⟨(Zx.mk g.decls rs),rfl,rfl,(RN.all hg.gp.decls (by show 1<=rs.length/\rs.length<=4;omega) (by show ∀r∈rs,RN g.decls rs.length r;rw [show rs.length=g.funcs.length by omega];exact Zy) om)⟩ (Zg.agg (.cons (lr _) (.cons (Zg.forget _ _) .nil))))
theorem NO (n:Zx) (hz:TC n:=by exact ob):Zi Tryz.prog 62 [ZD n] [] (fun r h=>r=.b (Wd n)/\h=[]):=by
 have hzl:=hz.len
 refine ZK 35 Tryz.func62 (ar (iA (ZU n) ?_))
 intro b1
 refine ir 1 [(1,.p b1 0)] (ie (aq (ar (Yl 1 5 (ZD n) [0] [b1] (ZA [] (Z7g n (hz:=hz.decls) (hr:=(fun r hr=>⟨hz.params r hr,hz.lent r hr⟩))) (Z1 1 7 (.b (!VL n)) (ie (ac (!VL n) (p:=¬(VL n=true)) (Yw Iff.rfl) (fun Ze=>?_) (fun Ze=>?_)))))))))
 ·refine ar (ir 1 [(2,.b false)] (ie ?_))
  exact Zb (r2 [] [.b false] ⟨rfl,rfl⟩ (lb (by first|rfl|omega|grind [Wd])))
 have hok:=GO hz (by simpa using Ze)
 refine ak (aq (ar (Z1 1 3 (.i 0) (ie (ab 0 (al (fun m F h=>∃(k:Nat),(k<=n.routines.length)/\(Q6 n (n.routines.drop k)=Q6 n n.routines)/\F=[(1,.p b1 0),(3,.i k)]/\h=[.obj b1 (ZU n)]/\m=n.routines.length-k) _ _ _ ⟨0,ob,ob,rfl,rfl,rfl⟩ (wk [0] (fr (Ya fl))) ?_))))))
 rintro m F h ⟨k,Yj,Zp,rfl,rfl,rfl⟩
 refine aq (ar (ZY 3 8 (.i k) 10 (YZ n.routines) [0] [b1] (iw (VV n.routines) (Z1 1 12 (.b (decide ((k:Int)<(n.routines.length:Int)))) (ie (ZM ((k:Int)<(n.routines.length:Int)) (fun Zk=>?_) (fun Zk=>?_)))))))
 ·refine ak (aq (ab 1 (ar (ZY 3 16 (YZ n.routines) 17 (.i k) [0] [b1] ?_))))
  obtain ⟨x1,Z3⟩:=Zr (xs:=n.routines) (j:=k) om
  have ZE:=hz.body _ (Y7 Z3)
  have hps:=hok.params_at Z3
  refine Zq (Zm none (k:Int) 5 (WB Z3)) (Z1 1 19 (WS x1) (iA [nl,nl,.i 0,nl,.i 0] ?_))
  intro b2
  refine ZF 0 b2 (VW x1) (ie (aD 15 (Y6 13 15 [0,1] (.n 21 (Zs x1.body) .r) [0] [b2] (Z9 2 (Yv 2 [] [] [] (Z7b x1.body) (JU [(1,.p b1 0),(3,.i k),(34,.b ((decide ((U9 x1.body)<0))||((YV n x1.params x1.body) != x1.result)))] [.obj b2 (VW x1),.obj b1 (ZU n)] ?_ ?_))))))
  ·refine Xa 10 12 [3,4] [(1,.p b1 0),(3,.i k),(4,.p b2 0),(24,.b (decide ((U9 x1.body)<0)))] (db (b:=(decide ((U9 x1.body)<0))) 24 (fun Za=>?_) (fun Za=>?_))
   ·have ZP:(U9 x1.body)<0:=(dq).1 Za
    refine Y0 0 10 [5,6,7,8,9,10,11,12,13,14] (.n 34 (.b true) (.d (.k (.k .z)))) (de ?_)
    exact wk [0,0] (fw (Zu true Za fl))
   have Y1:¬((U9 x1.body)<0):=ZI dq Za
   refine Y6 3 10 [5,6,7,8,9,11,12] (.n 25 (ZD n) (.n 27 (Z0 x1.params) (.n 29 (Zs x1.body) (.n 32 (.i x1.result) (.k (.k (.k .z))))))) [1,0,0,0] [b1,b2,b2,b2] (Z9 10 (Yv 10 [] [0] [b2] (ND n x1.params x1.body ob ob) (ZZ 0 2 [13,14] 34 (.b ((YV n x1.params x1.body) != x1.result)) (de ?_))))
   exact wk [0,0] (fw (Zu ((YV n x1.params x1.body) != x1.result) Za fl))
  refine ac ((decide ((U9 x1.body)<0))||((YV n x1.params x1.body) != x1.result)) (p:=((U9 x1.body)<0)∨((YV n x1.params x1.body)≠x1.result)) (Yo dq Yi) (fun ZG=>?_) (fun ZG=>?_)
  ·refine ar (ir 1 [(2,.b false)] (ie ?_))
   rw [Y8 Z3] at Zp
   exact Zb (r2 [] [.b false] ⟨rfl,rfl⟩ (lb (by clear Z3;first|rfl|omega|grind [Q6,Wd])))
  refine ak (az (ir 1 [(1,.p b1 0),(13,.i k)] (ZL k (Z1 1 3 (.i (k+1:Nat)) (ie ?_)))))
  have hdr:=Y8 Z3
  exact ZO ⟨k+1,ob,(by rw [hdr] at Zp;clear hdr Z3;grind [Q6]),rfl,rfl,rfl⟩ (wk [1] (fr (ZQ k fl)))
 refine ax 0 (ar (ir 1 [(2,.b true)] (ie ?_)))
 try rw [Xb (xs:=n.routines) (k:=k) om] at Zp
 exact Zb (r2 [] [.b true] ⟨rfl,rfl⟩ (lb (by first|rfl|omega|grind [Q6,Wd])))
theorem Hh (op:Int) :Zi Tryz.prog 145 [.i op] [] (fun r h=>r=.b (Yf op)/\h=[]):=by
 refine ZK 5 Tryz.func145 (ar (ir 1 [(0,.i op)] (ie (ar (ir 1 [(3,.i op)] (ZA [] (UC op 14 17) (ir 1 [(2,.b (decide (14<=op/\op<=17)))] (ie ?_))))))))
 exact Zb (r2 [] [.b (decide (14<=op/\op<=17))] ⟨rfl,rfl⟩ (lb (by first|rfl|omega|grind [Yf])))
theorem NE (op:Int) :Zi Tryz.prog 226 [.i op] [] (fun r h=>r=.b (T6 op)/\h=[]):=by
 refine ZK 17 Tryz.func226 (ar (ir 1 [(0,.i op)] (ie (ar (XQ 6 [(0,.i op),(8,.b ((op==6)||(op==9)))] [] ?_ (fun hj1=>?_))))))
 ·refine XQ 10 [(0,.i op),(12,.b (((op==6)||(op==9))||(op==10)))] [] ?_ (fun hj2=>?_)
  ·refine XQ 14 [(16,.b ((((op==6)||(op==9))||(op==10))||(op==11)))] [] ?_ (fun hj3=>?_)
   ·refine ir 1 [(2,.b ((((op==6)||(op==9))||(op==10))||(op==11)))] (ie ?_)
    exact Zb (r2 [] [.b ((((op==6)||(op==9))||(op==10))||(op==11))] ⟨rfl,rfl⟩ (lb (by first|rfl|omega|grind [T6])))
   refine ir 1 [(0,.i op),(13,.b (((op==6)||(op==9))||(op==10)))] (ib (b:=(((op==6)||(op==9))||(op==10))) 13 (fun Za=>?_) (fun Za=>?_))
   ·have ZP:((op=6)∨(op=9))∨(op=10):=((Yo (Yo Zh Zh) Zh)).1 Za
    refine ir 3 [(16,.b true)] ?_
    exact YG (wk [] (Zu true Za fl)) hj3
   have Y1:¬(((op=6)∨(op=9))∨(op=10)):=ZI (Yo (Yo Zh Zh) Zh) Za
   refine ir 3 [(16,.b (op==11))] ?_
   exact YG (wk [] (Zu (op==11) Za fl)) hj3
  refine ir 1 [(0,.i op),(9,.b ((op==6)||(op==9)))] (ib (b:=((op==6)||(op==9))) 9 (fun Zz=>?_) (fun Zz=>?_))
  ·have Yy:(op=6)∨(op=9):=((Yo Zh Zh)).1 Zz
   refine ir 3 [(0,.i op),(12,.b true)] ?_
   exact YG (wk [] (fr (Zu true Zz fl))) hj2
  have YK:¬((op=6)∨(op=9)):=ZI (Yo Zh Zh) Zz
  refine ir 3 [(0,.i op),(12,.b (op==10))] ?_
  exact YG (wk [] (fr (Zu (op==10) Zz fl))) hj2
 refine ir 3 [(0,.i op),(5,.b (op==6))] (ib (b:=(op==6)) 5 (fun YE=>?_) (fun YE=>?_))
 ·have X0:op=6:=(Zh).1 YE
  refine ir 3 [(0,.i op),(8,.b true)] ?_
  exact YG (wk [] (fr (Zu true YE fl))) hj1
 have XB:¬(op=6):=ZI Zh YE
 refine ir 3 [(0,.i op),(8,.b (op==9))] ?_
 exact YG (wk [] (fr (Zu (op==9) YE fl))) hj1
theorem CY (n:Zx) (s:Z4) (i:Nat) (hn:Xd n:=by exact ob) (hnum:s.op=9->0<=s.num/\s.num<n.routines.length:=by exact ob):Zi Tryz.prog 227 [ZD n,Y3 s,.i i] [] (fun r h=>r=.b (WK n s.op s.num i)/\h=[]):=by
 refine ZK 21 Tryz.func227 (ar (iA (ZU n) ?_))
 intro b1
 refine iA (Yg s) ?_
 intro b2
 refine ir 1 [(2,.i i),(3,.p b1 0),(4,.p b2 0)] (ie (ar (Yl 4 10 (.b (s.op==9)) [0] [b2] (ib (b:=(s.op==9)) 10 (fun Za=>?_) (fun Za=>?_)))))
 ·have ZP:s.op=9:=(Zh).1 Za
  refine Y2 4 (.n 12 (YZ n.routines) (.n 14 (.i s.num) (.k (.d .r)))) [1,0] [b1,b2] ?_
  obtain ⟨x1,Z3⟩:=Zr (xs:=n.routines) (j:=s.num.toNat) om
  have hlt:=hn.lent_at Z3
  have hlr:=Z35 (n:=n) ZP Z3
  refine Zq (Zm none s.num 5 (WB Z3)) (Yq 3 17 (Z0 x1.lent) 18 (.i i) (ZA [] (U8 x1.lent (i:Int)) (ir 2 [(6,.b (decide ((i:Int)∈x1.lent)))] (ie ?_))))
  exact Zb (r2 [] [.b (decide ((i:Int)∈x1.lent))] ⟨rfl,rfl⟩ (lb (by rw [WK,hlr])))
 have Y1:¬(s.op=9):=ZI Zh Za
 refine ir 11 [(6,.b false)] (ie ?_)
 exact Zb (r2 [] [.b false] ⟨rfl,rfl⟩ (lb (by rw [WK,E9,Zc Y1];simp)))
theorem EF (n:Zx) (us:List Int) (s:Z4) (i:Nat) (a:Int) (hn:Xd n:=by exact ob) (hnum:s.op=9->0<=s.num/\s.num<n.routines.length:=by exact ob) (ha:s.args[i]? = some a:=by exact ob) (hi:0<=a/\a<us.length:=by exact ob):Zi Tryz.prog 261 [ZD n,Z0 us,Y3 s,.i i] [] (fun r h=>r=.b (UX n us s.op s.num a i)/\h=[]):=by
 have hal:=(XM.1 ha).1
 refine ZK 30 Tryz.func261 (ar (iA (ZU n) ?_))
 intro b1
 refine iA (Yg s) ?_
 intro b2
 refine ir 1 [(1,Z0 us),(3,.i i),(4,.p b1 0),(6,.p b2 0)] (ie (ar (Yl 2 10 (.i s.op) [0] [b2] (ZA [] (NE s.op) (Z1 1 12 (.b (T6 s.op)) (ib (b:=T6 s.op) 12 (fun Za=>?_) (fun Za=>?_)))))))
 ·have ZP:T6 s.op=true:=(Iff.rfl).1 Za
  refine Y2 4 (.n 13 (Z0 us) (.n 15 (Z0 s.args) (.n 16 (.i i) (.k (.d .r))))) [0] [b2] ?_
  obtain ⟨x1,Z3⟩:=Zr (xs:=s.args) (j:=i) om
  have hxa:x1=a:=by rw [ha] at Z3;exact (JE Z3).symm
  subst hxa
  refine Zq (Zm none (i:Int) 1 (Y4 Z3)) (Z1 1 18 (.i x1) ?_)
  obtain ⟨x2,Zt⟩:=Zr (xs:=us) (j:=x1.toNat) om
  have hga:=UK Zt
  refine Zq (Zm none x1 1 (Y4 Zt)) (Z1 4 23 (.b (x2 != 0)) (ib (b:=(x2 != 0)) 23 (fun Zz=>?_) (fun Zz=>?_)))
  ·have Y1:x2≠0:=(Yi).1 Zz
   refine iR 3 [(23,.b true),(24,ZD n),(25,Y3 s),(26,.i i)] [1,0] [b1,b2] (ZA [] (CY n s i) (ir 3 [(8,.b (!WK n s.op s.num i))] (ie ?_)))
   exact Zb (r2 [] [.b (!WK n s.op s.num i)] ⟨rfl,rfl⟩ (lb (by clear Z3 Zt;first|rfl|(rw [UX];grind))))
  have Yy:¬(x2≠0):=ZI Yi Zz
  refine ir 7 [(8,.b false)] (ie ?_)
  exact Zb (r2 [] [.b false] ⟨rfl,rfl⟩ (lb (by clear Z3 Zt;first|rfl|(rw [UX];grind))))
 have YK:¬(T6 s.op=true):=ZI Iff.rfl Za
 refine ir 18 [(8,.b false)] (ie ?_)
 exact Zb (r2 [] [.b false] ⟨rfl,rfl⟩ (lb (by  first|rfl|(rw [UX];grind))))
theorem NJ (xs:List Int) (ys:List Int) (hl_xs:xs.length<=4294967296:=by exact ob) (hl_ys:ys.length<=4294967296:=by exact ob):Zi Tryz.prog 263 [Z0 xs,Z0 ys] [] (fun r h=>r=.b (decide (xs=ys))/\h=[]):=by
 refine ZK 26 Tryz.func263 (ar (ir 1 [(0,Z0 xs),(1,Z0 ys)] (ie (aq (ar (Z1 1 6 (Z0 xs) (iw (Yh xs) (Z1 1 8 (Z0 ys) (iw (Yh ys) (Z1 1 10 (.b ((xs.length:Int) != (ys.length:Int))) (ie (ac ((xs.length:Int) != (ys.length:Int)) Yi (fun Ze=>?_) (fun Ze=>?_)))))))))))))
 ·refine ar (ir 1 [(4,.b false)] (ie ?_))
  exact Zb (r2 [] [.b false] ⟨rfl,rfl⟩ (lb (eq_comm.1 (decide_eq_false (fun q=>by rw [q] at Ze;exact Ze rfl)))))
 refine ak (aq (ar (Z1 1 5 (.i 0) (ie (ab 0 (al (fun m F h=>∃(k:Nat),(k<=xs.length)/\(xs.take k=ys.take k)/\F=[(0,Z0 xs),(1,Z0 ys),(5,.i k)]/\h=[]/\m=xs.length-k) _ _ _ ⟨0,ob,ob,rfl,rfl,rfl⟩ (wk [] (fw (Ya fl))) ?_))))))
 rintro m F h ⟨k,Yj,Zp,rfl,rfl,rfl⟩
 refine aq (ar (Yq 2 11 (.i k) 12 (Z0 xs) (iw (Yh xs) (Z1 1 14 (.b (decide ((k:Int)<(xs.length:Int)))) (ie (ZM ((k:Int)<(xs.length:Int)) (fun Zk=>?_) (fun Zk=>?_)))))))
 ·refine ak (aq (ab 1 (aD 9 (Y0 7 9 [0,1] (.n 17 (Z0 xs) (.n 18 (.i k) .r)) ?_))))
  obtain ⟨x1,Z3⟩:=Zr (xs:=xs) (j:=k) om
  refine dx 2 (Zm none (k:Int) 1 (Y4 Z3)) (Y0 3 6 [3,4,5] (.n 20 (.i x1) (.n 21 (Z0 ys) (.n 22 (.i k) .r))) ?_)
  obtain ⟨x2,Zt⟩:=Zr (xs:=ys) (j:=k) om
  refine dx 6 (Zm none (k:Int) 1 (Y4 Zt)) (ZZ 0 2 [7,8] 25 (.b (x1 != x2)) (de (ac (x1 != x2) Yi (fun ZG=>?_) (fun ZG=>?_))))
  ·refine ar (ir 1 [(4,.b false)] (ie ?_))
   exact Zb (r2 [] [.b false] ⟨rfl,rfl⟩ (lb (eq_comm.1 (decide_eq_false (fun q=>by subst q;rw [Z3] at Zt;cases Zt;exact ZG rfl)))))
  refine ak (az (Z1 1 15 (.i k) (ZL k (ir 1 [(0,Z0 xs),(1,Z0 ys),(5,.i (k+1:Nat))] (ie ?_)))))
  have hdr:=Y8 Z3
  exact ZO ⟨k+1,ob,(by rw [WM Z3,WM Zt,Zp];have hxx:x1=x2:=om;rw [hxx]),rfl,rfl,rfl⟩ (wk [] (fw (ZQ k fl)))
 refine ax 0 (ar (ir 1 [(4,.b true)] (ie ?_)))
 exact Zb (r2 [] [.b true] ⟨rfl,rfl⟩ (lb (eq_comm.1 (decide_eq_true (by rw [Vg om,Vg om] at Zp;exact Zp)))))
theorem Ai (xs:List Int) (hlen:xs.length<=4294967296:=by exact ob):Zi Tryz.prog 51 [Z0 xs] [] (fun r h=>∃(v:Hd),r=.h v/\h=[rV v xs]):=by
 refine ZK 6 Tryz.func51 (ar (ir 1 [(0,Z0 xs)] (ie (ar (iVL [] 0 ?_)))))
 intro v1
 refine Z1 1 4 (Z0 xs) (KI 0 v1 [] xs none ?_)
 intro v2
 refine ir 1 [(2,.h v2)] (ie ?_)
 exact Zb (r1 [0] ⟨v2,rfl,rfl⟩ (eq:=(rv (xs:=([]++xs)) ob rz)))
theorem Qn (b:Nat) (ga:Hd) (gb:Hd) (gc:Hd) (gd:Hd) (ge:Hd) (gf:Hd) (L:ZJ) (ln:List Int) (t:Int) (o:Int) (p:Int) (hlb:L.vars.length<=1000000000:=by exact ob) (hlk:UH L:=by exact ob):Zi Tryz.prog 232 [.p b 0,.i t,.i o,.i p] [.obj b [.h ga,.h gb,.h gc,.h gd,.h ge,.h gf,Z0 ln],rV ga L.vars,rV gb L.own,rV gc L.par,rV gd L.con,rV ge L.fst,rV gf L.tok] (fun r h=>∃(wa:Hd) (wb:Hd) (wc:Hd) (wd:Hd) (we:Hd) (wf:Hd),h=[.obj b [.h wa,.h wb,.h wc,.h wd,.h we,.h wf,Z0 ln],rV wa ((L.grow t o p).vars),rV wb ((L.grow t o p).own),rV wc ((L.grow t o p).par),rV wd ((L.grow t o p).con),rV we ((L.grow t o p).fst),rV wf ((L.grow t o p).tok)]):=by
 obtain ⟨e1,e2,e3,e4,e5⟩:=hlk
 refine ZK 65 Tryz.func232 (ar (iR 6 [(0,.p b 0),(2,.i o),(3,.i p),(8,.p b 0),(12,.h ga),(13,.i t)] [0] [b] (iL (Z8 [t]) 1 1 ?_)))
 intro v1
 refine Z5 0 (.n 14 (Z0 [t]) (.p .r)) (KI 2 ga L.vars [t] none ?_)
 intro v2
 refine Z1 2 17 (.p b 0) (ZF 2 b [.h v2,.h gb,.h gc,.h gd,.h ge,.h gf,Z0 ln] (ie (ar (Y2 6 (.n 18 (.p b 0) (.n 22 (.h gb) (.n 23 (.i o) .r))) [0] [b] (iL (Z8 [o]) 1 1 ?_)))))
 intro v3
 refine Z5 0 (.n 24 (Z0 [o]) (.p .r)) (KI 4 gb L.own [o] none ?_)
 intro v4
 refine Z1 2 27 (.p b 1) (ZF 2 b [.h v2,.h v4,.h gc,.h gd,.h ge,.h gf,Z0 ln] (ie (ar (Y2 6 (.n 28 (.p b 0) (.n 32 (.h gc) (.n 33 (.i p) .r))) [0] [b] (iL (Z8 [p]) 1 1 ?_)))))
 intro v5
 refine Z5 0 (.n 34 (Z0 [p]) (.p .r)) (KI 6 gc L.par [p] none ?_)
 intro v6
 refine Z1 2 37 (.p b 2) (ZF 2 b [.h v2,.h v4,.h v6,.h gd,.h ge,.h gf,Z0 ln] (ie (ar (ZY 5 38 (.p b 0) 42 (.h gd) [0] [b] (iL (Z8 [-1]) 1 1 ?_)))))
 intro v7
 refine Z5 0 (.n 43 (Z0 [-1]) (.p .r)) (KI 8 gd L.con [-1] none ?_)
 intro v8
 refine Z1 2 46 (.p b 3) (ZF 2 b [.h v2,.h v4,.h v6,.h v8,.h ge,.h gf,Z0 ln] (ie (ar (ZY 5 47 (.p b 0) 51 (.h ge) [0] [b] (iL (Z8 [-1]) 1 1 ?_)))))
 intro v9
 refine Z5 0 (.n 52 (Z0 [-1]) (.p .r)) (KI 10 ge L.fst [-1] none ?_)
 intro v10
 refine Z1 2 55 (.p b 4) (ZF 2 b [.h v2,.h v4,.h v6,.h v8,.h v10,.h gf,Z0 ln] (ie (az (iR 5 [(56,.p b 0),(60,.h gf)] [0] [b] (iL (Z8 [-1]) 1 1 ?_)))))
 intro v11
 refine Z5 0 (.n 61 (Z0 [-1]) (.p .r)) (KI 12 gf L.tok [-1] none ?_)
 intro v12
 refine Z1 2 64 (.p b 5) (ZF 2 b [.h v2,.h v4,.h v6,.h v8,.h v10,.h v12,Z0 ln] (ie ?_))
 exact r2 [0,10,8,6,4,2,0] [] ⟨v2,v4,v6,v8,v10,v12,rfl⟩ (lr _) (eq:=(rc (rv (xs:=(L.vars++[t])) ob (rv (xs:=(L.own++[o])) ob (rv (xs:=(L.par++[p])) ob (rv (xs:=(L.con++[-1])) ob (rv (xs:=(L.fst++[-1])) ob (rv (xs:=(L.tok++[-1])) ob rz))))))))
theorem Z30 (b:Nat) (ga:Hd) (gb:Hd) (gc:Hd) (gd:Hd) (ge:Hd) (gf:Hd) (L:ZJ) (ln:List Int) (hlb:L.vars.length<=1000000000:=by exact ob) (hlk:UH L:=by exact ob) (hln:ln.length<=4294967296:=by exact ob):Zi Tryz.prog 269 [.p b 0] [.obj b [.h ga,.h gb,.h gc,.h gd,.h ge,.h gf,Z0 ln],rV ga L.vars,rV gb L.own,rV gc L.par,rV gd L.con,rV ge L.fst,rV gf L.tok] (fun r h=>∃(c:Nat) (wa:Hd) (wb:Hd) (wc:Hd) (wd:Hd) (we:Hd) (wf:Hd),r=.p c 0/\h=[.obj c [.h wa,.h wb,.h wc,.h wd,.h we,.h wf,Z0 ln],rV wa L.vars,rV wb L.own,rV wc L.par,rV wd L.con,rV we L.fst,rV wf L.tok,.obj b [.h ga,.h gb,.h gc,.h gd,.h ge,.h gf,Z0 ln],rV ga L.vars,rV gb L.own,rV gc L.par,rV gd L.con,rV ge L.fst,rV gf L.tok]):=by
 obtain ⟨e1,e2,e3,e4,e5⟩:=hlk
 refine ZK 40 Tryz.func269 (ar (ir 1 [(0,.p b 0)] (ie (aD 38 (W2 10 38 [0,1,2,3,5,6,7,8,10,11,12,13,15,16,17,18,20,21,22,23,25,26,27,28,30,31,32,33] [(6,.h ga),(11,.h gb),(16,.h gc),(21,.h gd),(26,.h ge),(31,.h gf),(36,Z0 ln)] [0,0,0,0,0,0,0] [b,b,b,b,b,b,b] (Z9 4 (Kz 4 [1] [0,0,0,0,0,0] [b,b,b,b,b,b] [rV ga L.vars] (Ai L.vars) Bj (gL (v:=ga) 0 gN) (Qo Kf) ?_)))))))
 rintro _ _ ⟨v1,rfl,rfl⟩
 refine Z9 9 (Kz 9 [3] [0,0,0,0,0] [b,b,b,b,b] [rV gb L.own] (Ai L.own) Bj (gL (v:=gb) 0 gN) (Qo Kf) ?_)
 rintro _ _ ⟨v2,rfl,rfl⟩
 refine Z9 14 (Kz 14 [5] [0,0,0,0] [b,b,b,b] [rV gc L.par] (Ai L.par) Bj (gL (v:=gc) 0 gN) (Qo Kf) ?_)
 rintro _ _ ⟨v3,rfl,rfl⟩
 refine Z9 19 (Kz 19 [7] [0,0,0] [b,b,b] [rV gd L.con] (Ai L.con) Bj (gL (v:=gd) 0 gN) (Qo Kf) ?_)
 rintro _ _ ⟨v4,rfl,rfl⟩
 refine Z9 24 (Kz 24 [9] [0,0] [b,b] [rV ge L.fst] (Ai L.fst) Bj (gL (v:=ge) 0 gN) (Qo Kf) ?_)
 rintro _ _ ⟨v5,rfl,rfl⟩
 refine Z9 29 (Kz 29 [11] [0] [b] [rV gf L.tok] (Ai L.tok) Bj (gL (v:=gf) 0 gN) (Qo Kf) ?_)
 rintro _ _ ⟨v6,rfl,rfl⟩
 refine Z9 34 (dc 34 [] [] [] (VP ln) ?_)
 rintro _ _ ⟨v7,rfl,rfl⟩
 refine Xa 2 3 [35] [(38,.agg [.h v1,.h v2,.h v3,.h v4,.h v5,.h v6,Z0 ln])] (Z9 36 (dA 36 [] [] [.h v1,.h v2,.h v3,.h v4,.h v5,.h v6,Z0 ln] ?_))
 intro b1
 refine Xa 0 1 [37] [(2,.p b1 0)] (de ?_)
 exact Zb (r1 [0,11,9,7,5,3,1,7,6,5,4,3,2,1] ⟨b1,v1,v2,v3,v4,v5,v6,rfl,rfl⟩)
theorem E6 (b:Nat) (ga:Hd) (gb:Hd) (gc:Hd) (gd:Hd) (ge:Hd) (gf:Hd) (L:ZJ) (ln:List Int) (i:Int) (hlk:UH L:=by exact ob) (hi:0<=i/\i<L.vars.length:=by exact ob) (hq:∀x∈L.own,0<=x/\x<=1000000000):Zi Tryz.prog 233 [.p b 0,.i i] [.obj b [.h ga,.h gb,.h gc,.h gd,.h ge,.h gf,Z0 ln],rV ga L.vars,rV gb L.own,rV gc L.par,rV gd L.con,rV ge L.fst,rV gf L.tok] (fun r h=>(∃(wa:Hd) (wb:Hd) (wc:Hd) (wd:Hd) (we:Hd) (wf:Hd) (L':ZJ),r=.b true/\h=[.obj b [.h wa,.h wb,.h wc,.h wd,.h we,.h wf,Z0 ln],rV wa L'.vars,rV wb L'.own,rV wc L'.par,rV wd L'.con,rV we L'.fst,rV wf L'.tok]/\Ti L i=some L')∨(r=.b false/\h=[]/\Ti L i=none)):=by
 obtain ⟨e1,e2,e3,e4,e5⟩:=hlk
 refine ZK 27 Tryz.func233 (ar (ir 1 [(0,.p b 0),(1,.i i)] (ie (aq (ar (ZY 5 8 (.h gb) 9 (.i i) [0] [b] (Zq (Vo 2 gb L.own i i.toNat (hq:=rfl)) ?_)))))))
 obtain ⟨x1,Z3⟩:=Zr (xs:=L.own) (j:=i.toNat) om
 have hxq:=hq _ (Y7 Z3)
 have hgi:=UK Z3
 refine VI (Tj 2 gb L.own i.toNat x1 Z3) (Z1 1 12 (.b (decide (x1<1))) (ie (ZM (x1<1) (fun Ze=>?_) (fun Ze=>?_))))
 ·refine ar (ir 1 [(4,.b false)] (ie ?_))
  exact Zb (r1 [] (.inr ⟨rfl,rfl,(by rw [Ti,hgi,Zo Ze])⟩))
 refine ak (aD 15 (W2 5 15 [0,1,2,3,4,5,6,7,8,9] [(16,.h gb),(17,.i i),(21,.h gb),(22,.i i)] [0,0] [b,b] (dx 10 (Vo 2 gb L.own i i.toNat (hq:=rfl)) (VT 11 (Tj 2 gb L.own i.toNat x1 Z3) (da 12 ((x1-1)) ((x1)-(1)) (dx 13 (Vo 2 gb L.own i i.toNat (hq:=rfl)) (Z9 14 (JT 14 2 [] [] gb L.own i.toNat (x1-1) (de (ar (ir 1 [(4,.b true)] (ie ?_))))))))))))
 exact Zb (r1 [1,1,0,0,0,0,0] (.inl ⟨ga,gb,gc,gd,ge,gf,(ZJ.mk L.vars (L.own.set i.toNat (x1-1)) L.par L.con L.fst L.tok),rfl,rfl,(by rw [Ti,hgi,Zc Ze])⟩) (eq:=(rc (rv (xs:=L.vars) ob (rv (xs:=(L.own.set i.toNat (x1-1))) ob (rv (xs:=L.par) ob (rv (xs:=L.con) ob (rv (xs:=L.fst) ob (rv (xs:=L.tok) ob rz)))))))))
theorem E5 (b:Nat) (ga:Hd) (gb:Hd) (gc:Hd) (gd:Hd) (ge:Hd) (gf:Hd) (L:ZJ) (ln:List Int) (i:Int) (hlk:UH L:=by exact ob) (hln:ln.length<=4294967296:=by exact ob) (hi:0<=i/\i<L.vars.length:=by exact ob) (hd:∀j:Int,0<=j->j<L.vars.length->gI L.par j<j):Zi Tryz.prog 162 [.p b 0,.i i] [.obj b [.h ga,.h gb,.h gc,.h gd,.h ge,.h gf,Z0 ln],rV ga L.vars,rV gb L.own,rV gc L.par,rV gd L.con,rV ge L.fst,rV gf L.tok] (fun r h=>r=.b (VD L ln i)/\h=[.obj b [.h ga,.h gb,.h gc,.h gd,.h ge,.h gf,Z0 ln],rV ga L.vars,rV gb L.own,rV gc L.par,rV gd L.con,rV ge L.fst,rV gf L.tok]):=by
 obtain ⟨e1,e2,e3,e4,e5⟩:=hlk
 refine ZK 31 Tryz.func162 (ar (ir 1 [(0,.p b 0),(1,.i i)] (ie (aq (ab 0 (al (fun m F h=>∃(j:Int),(0<=j/\j<L.vars.length)/\(TU L.own L.par ln (j.toNat+1) j=VD L ln i)/\F=[(0,.p b 0),(1,.i j)]/\h=[.obj b [.h ga,.h gb,.h gc,.h gd,.h ge,.h gf,Z0 ln],rV ga L.vars,rV gb L.own,rV gc L.par,rV gd L.con,rV ge L.fst,rV gf L.tok]/\m=j.toNat) _ _ _ ⟨i,ob,ob,rfl,rfl,rfl⟩ (ZT 7 fl) ?_))))))
 rintro m F h ⟨j,Yj,Zp,rfl,rfl,rfl⟩
 refine aq (ar (ZY 5 8 (.h gb) 9 (.i j) [0] [b] (Zq (Vo 2 gb L.own j j.toNat (hq:=rfl)) ?_)))
 obtain ⟨x1,Z3⟩:=Zr (xs:=L.own) (j:=j.toNat) om
 have hg1:=UK Z3
 refine VI (Tj 2 gb L.own j.toNat x1 Z3) (Xo [(0,.p b 0),(1,.i j),(21,.b ((decide (x1<1))&&(!(decide (j∈ln)))))] [.obj b [.h ga,.h gb,.h gc,.h gd,.h ge,.h gf,Z0 ln],rV ga L.vars,rV gb L.own,rV gc L.par,rV gd L.con,rV ge L.fst,rV gf L.tok] ?_ ?_)
 ·refine ir 2 [(0,.p b 0),(1,.i j),(13,.b (decide (x1<1)))] (ib (b:=(decide (x1<1))) 13 (fun Za=>?_) (fun Za=>?_))
  ·have ZP:x1<1:=(dq).1 Za
   refine Y2 5 (.n 17 (Z0 ln) (.n 18 (.i j) (.k (.k (.k .z))))) [0] [b] (ZA [] (U8 ln j) (Z1 2 21 (.b (!(decide (j∈ln)))) (ie ?_)))
   exact ZT 7 (fw (Zu (!(decide (j∈ln))) Za fl))
  have Y1:¬(x1<1):=ZI dq Za
  refine Z5 8 (.n 21 (.b false) (.d (.k (.k .z)))) (ie ?_)
  exact ZT 7 (fw (Zu false Za fl))
 refine ac ((decide (x1<1))&&(!(decide (j∈ln)))) (p:=(x1<1)/\(¬(j∈ln))) (YD dq (Yw dq)) (fun Ze=>?_) (fun Ze=>?_)
 ·refine ak (ab 1 (ar (iR 5 [(0,.p b 0),(25,.h gc),(26,.i j)] [0] [b] (Zq (Vo 3 gc L.par j j.toNat (hq:=rfl)) ?_))))
  obtain ⟨x2,Zt⟩:=Zr (xs:=L.par) (j:=j.toNat) om
  have hg2:=UK Zt
  have hdj:=hd j om om
  rw [hg2] at hdj
  refine VI (Tj 3 gc L.par j.toNat x2 Zt) (Z1 1 1 (.i x2) (ie (ar (Z1 2 30 (.b (decide (x2<0))) (ie (ZM (x2<0) (fun Zk=>?_) (fun Zk=>?_)))))))
  ·refine ar (ir 1 [(4,.b false)] (ie ?_))
   exact Zb (r2 [0,0,0,0,0,0,0] [.b false] ⟨rfl,rfl⟩ (lb (OI hg1 hg2 Ze Zk Zp)))
  refine ak ?_
  exact ZO ⟨x2,om,(OJ hg1 hg2 Yj Ze Zk hd Zp),rfl,rfl,rfl⟩ (ZT 7 fl)
 refine ax 0 (ar (ir 1 [(4,.b true)] (ie ?_)))
 exact Zb (r2 [0,0,0,0,0,0,0] [.b true] ⟨rfl,rfl⟩ (lb (OK hg1 Ze Zp)))
theorem LX (b:Nat) (ga:Hd) (gb:Hd) (gc:Hd) (gd:Hd) (ge:Hd) (gf:Hd) (L:ZJ) (ln:List Int) (mm:Nat) (hlk:UH L:=by exact ob) (hlb:L.vars.length<=1000000000:=by exact ob) (hm:mm<=L.vars.length:=by exact ob):Zi Tryz.prog 273 [.p b 0,.i mm] [.obj b [.h ga,.h gb,.h gc,.h gd,.h ge,.h gf,Z0 ln],rV ga L.vars,rV gb L.own,rV gc L.par,rV gd L.con,rV ge L.fst,rV gf L.tok] (fun r h=>(∃(wa:Hd) (wb:Hd) (wc:Hd) (wd:Hd) (we:Hd) (wf:Hd) (L':ZJ),r=.b true/\h=[.obj b [.h wa,.h wb,.h wc,.h wd,.h we,.h wf,Z0 ln],rV wa L'.vars,rV wb L'.own,rV wc L'.par,rV wd L'.con,rV we L'.fst,rV wf L'.tok]/\Ky L mm=some L')∨(r=.b false/\h=[]/\Ky L mm=none)):=by
 obtain ⟨e1,e2,e3,e4,e5⟩:=hlk
 refine ZK 88 Tryz.func273 (ar (ir 1 [(0,.p b 0),(1,.i mm)] (ie (aq (ar (Z1 2 5 (.i mm) (ie (ab 0 (al (fun m F h=>∃(k:Nat),(mm<=k/\k<=L.vars.length)/\(Ar (L.own.drop k) (L.tok.drop k)=Ar (L.own.drop mm) (L.tok.drop mm))/\F=[(0,.p b 0),(1,.i mm),(5,.i k)]/\h=[.obj b [.h ga,.h gb,.h gc,.h gd,.h ge,.h gf,Z0 ln],rV ga L.vars,rV gb L.own,rV gc L.par,rV gd L.con,rV ge L.fst,rV gf L.tok]/\m=L.vars.length-k) _ _ _ ⟨mm,ob,ob,rfl,rfl,rfl⟩ (ZT 7 fl) ?_)))))))))
 rintro m F h ⟨k,Yj,Zp,rfl,rfl,rfl⟩
 refine aq (ar (ZY 5 7 (.i k) 11 (.h ga) [0] [b] (Zq (Jw 1 ga L.vars) (Z1 1 13 (.b (decide ((k:Int)<(L.vars.length:Int)))) (ie (ZM ((k:Int)<(L.vars.length:Int)) (fun Ze=>?_) (fun Ze=>?_)))))))
 ·refine ak (aq (ab 1 (ar (ZY 5 19 (.h gb) 20 (.i k) [0] [b] (Zq (Vo 2 gb L.own (k:Int) k) ?_)))))
  obtain ⟨x1,Z3⟩:=Zr (xs:=L.own) (j:=k) om
  refine VI (Tj 2 gb L.own k x1 Z3) (Z1 2 24 (.b (x1 != 0)) (ib (b:=(x1 != 0)) 24 (fun Za=>?_) (fun Za=>?_)))
  ·have ZP:x1≠0:=(Yi).1 Za
   refine Z5 9 (.n 33 (.b true) (.k (.d .r))) (ie (WU (ar (ir 1 [(4,.b false)] (ie ?_)))))
   obtain ⟨y2,hy2⟩:=Zr (xs:=L.tok) (j:=k) om
   exact Zb (r1 [] (.inr ⟨rfl,rfl,(by rw [Ky,<-Zp,Y8 Z3,Y8 hy2,Ar,Zo (show x1≠0∨0<=y2 by omega)];rfl)⟩))
  have Y1:¬(x1≠0):=ZI Yi Za
  refine Y2 5 (.n 28 (.h gf) (.n 29 (.i k) (.k (.d .r)))) [0] [b] (Zq (Vo 6 gf L.tok (k:Int) k) ?_)
  obtain ⟨x2,Zt⟩:=Zr (xs:=L.tok) (j:=k) om
  refine VI (Tj 6 gf L.tok k x2 Zt) (Z1 2 33 (.b (decide (x2>=0))) (ie (ZM (x2>=0) (fun Zk=>?_) (fun Zk=>?_))))
  ·refine ar (ir 1 [(4,.b false)] (ie ?_))
   exact Zb (r1 [] (.inr ⟨rfl,rfl,(by rw [Ky,<-Zp,Y8 Z3,Y8 Zt,Ar,Zo (show x1≠0∨0<=x2 by omega)];rfl)⟩))
  refine ak (az (Z1 1 14 (.i k) (ZL k (ir 1 [(0,.p b 0),(1,.i mm),(5,.i (k+1:Nat))] (ie ?_)))))
  exact ZO ⟨k+1,ob,(by rw [Y8 Z3,Y8 Zt,Ar,Zc om] at Zp;exact Zp),rfl,rfl,rfl⟩ (ZT 7 (fw (ZQ k fl)))
 refine ax 0 (ar (Y2 6 (.n 34 (.p b 0) (.n 38 (.h ga) (.n 39 (.i mm) .r))) [0] [b] (Zq (Ap 1 ga L.vars mm) (Z1 2 42 (.p b 0) (XK (B9 1 mm ga L.vars) (ZF 1 b [.h (ga.cut mm),.h gb,.h gc,.h gd,.h ge,.h gf,Z0 ln] (ie (ar (Y2 6 (.n 43 (.p b 0) (.n 47 (.h gb) (.n 48 (.i mm) .r))) [0] [b] (Zq (Ap 2 gb L.own mm) (Z1 2 51 (.p b 1) (XK (B9 2 mm gb L.own) (ZF 1 b [.h (ga.cut mm),.h (gb.cut mm),.h gc,.h gd,.h ge,.h gf,Z0 ln] (ie (ar (Y2 6 (.n 52 (.p b 0) (.n 56 (.h gc) (.n 57 (.i mm) .r))) [0] [b] (Zq (Ap 3 gc L.par mm) (Z1 2 60 (.p b 2) (XK (B9 3 mm gc L.par) (ZF 1 b [.h (ga.cut mm),.h (gb.cut mm),.h (gc.cut mm),.h gd,.h ge,.h gf,Z0 ln] (ie (ar (Y2 6 (.n 61 (.p b 0) (.n 65 (.h gd) (.n 66 (.i mm) .r))) [0] [b] (Zq (Ap 4 gd L.con mm) (Z1 2 69 (.p b 3) (XK (B9 4 mm gd L.con) (ZF 1 b [.h (ga.cut mm),.h (gb.cut mm),.h (gc.cut mm),.h (gd.cut mm),.h ge,.h gf,Z0 ln] (ie (ar (Y2 6 (.n 70 (.p b 0) (.n 74 (.h ge) (.n 75 (.i mm) .r))) [0] [b] (Zq (Ap 5 ge L.fst mm) (Z1 2 78 (.p b 4) (XK (B9 5 mm ge L.fst) (ZF 1 b [.h (ga.cut mm),.h (gb.cut mm),.h (gc.cut mm),.h (gd.cut mm),.h (ge.cut mm),.h gf,Z0 ln] (ie (ar (iR 6 [(79,.p b 0),(83,.h gf),(84,.i mm)] [0] [b] (Zq (Ap 6 gf L.tok mm) (Z1 2 87 (.p b 5) (XK (B9 6 mm gf L.tok) (ZF 1 b [.h (ga.cut mm),.h (gb.cut mm),.h (gc.cut mm),.h (gd.cut mm),.h (ge.cut mm),.h (gf.cut mm),Z0 ln] (ie (ar (ir 1 [(4,.b true)] (ie ?_)))))))))))))))))))))))))))))))))))))))))))))
 exact Zb (r1 [0,5,4,3,2,1,0] (.inl ⟨(ga.cut mm),(gb.cut mm),(gc.cut mm),(gd.cut mm),(ge.cut mm),(gf.cut mm),(ZJ.mk (L.vars.take mm) (L.own.take mm) (L.par.take mm) (L.con.take mm) (L.fst.take mm) (L.tok.take mm)),rfl,rfl,(by rw [Ky,Zo (by rw [<-Zp,Xb om];rfl)];rfl)⟩) (eq:=(rc (rv (xs:=(L.vars.take mm)) ob (rv (xs:=(L.own.take mm)) ob (rv (xs:=(L.par.take mm)) ob (rv (xs:=(L.con.take mm)) ob (rv (xs:=(L.fst.take mm)) ob (rv (xs:=(L.tok.take mm)) ob rz)))))))))
theorem Z32 (b:Nat) (ga:Hd) (gb:Hd) (gc:Hd) (gd:Hd) (ge:Hd) (gf:Hd) (n:Zx) (s:Z4) (L:ZJ) (ln:List Int) (q:Int) (x:Int) (hn:Xd n:=by exact ob) (hk:Xx n.decls L q:=by exact ob) (hlb:L.vars.length<=1000000000:=by exact ob) (ha:s.args[0]? = some x:=by exact ob) (hx:0<=x/\x<L.vars.length:=by exact ob) (hq:0<=q/\q<=999999990:=by exact ob):Zi Tryz.prog 234 [.p b 0,ZD n,Y3 s] [.obj b [.h ga,.h gb,.h gc,.h gd,.h ge,.h gf,Z0 ln],rV ga L.vars,rV gb L.own,rV gc L.par,rV gd L.con,rV ge L.fst,rV gf L.tok] (fun r h=>(∃(wa:Hd) (wb:Hd) (wc:Hd) (wd:Hd) (we:Hd) (wf:Hd) (L':ZJ),r=.b true/\h=[.obj b [.h wa,.h wb,.h wc,.h wd,.h we,.h wf,Z0 ln],rV wa L'.vars,rV wb L'.own,rV wc L'.par,rV wd L'.con,rV we L'.fst,rV wf L'.tok]/\KL n.decls L s.op x=some L')∨(r=.b false/\h=[]/\KL n.decls L s.op x=none)):=by
 obtain ⟨e1,e2,e3,e4,e5⟩:=hk.len
 have Xu:=hn.decls
 have hal:=(XM.1 ha).1
 obtain ⟨xcon,hxcon⟩:=Zr (xs:=L.con) (j:=(x).toNat) om
 have hgcon:=UK hxcon
 obtain ⟨xtok,hxtok⟩:=Zr (xs:=L.tok) (j:=(x).toNat) om
 have hgtok:=UK hxtok
 obtain ⟨xfst,hxfst⟩:=Zr (xs:=L.fst) (j:=(x).toNat) om
 have hgfst:=UK hxfst
 have hfl:=VK Xu xcon
 have har:=hk.arm x om om
 rw [hgcon,hgfst] at har
 refine ZK 105 Tryz.func234 (ar (iA (ZU n) ?_))
 intro b1
 refine iA (Yg s) ?_
 intro b2
 refine ir 1 [(0,.p b 0),(4,.p b1 0),(5,.p b2 0)] (ie (ar (Yl 2 11 (Z0 s.args) [0] [b2] (Zq (Zm none 0 1 (Y4 ha)) (Z1 2 7 (.i x) (ie (aq (ar (ZY 5 17 (.h gd) 18 (.i x) [2] [b] (Zq (Vo 6 gd L.con x x.toNat (hq:=rfl)) (VI (Tj 6 gd L.con x.toNat xcon hxcon) (XQ 23 [(0,.p b 0),(4,.p b1 0),(5,.p b2 0),(7,.i x),(36,.b ((decide (xcon<0))||((s.op==17)&&(decide (xtok>=0)))))] [.obj b2 (Yg s),.obj b1 (ZU n),.obj b [.h ga,.h gb,.h gc,.h gd,.h ge,.h gf,Z0 ln],rV ga L.vars,rV gb L.own,rV gc L.par,rV gd L.con,rV ge L.fst,rV gf L.tok] ?_ (fun hj1=>?_)))))))))))))
 ·refine ir 1 [(0,.p b 0),(4,.p b1 0),(5,.p b2 0),(7,.i x),(37,.b ((decide (xcon<0))||((s.op==17)&&(decide (xtok>=0)))))] (ib (b:=((decide (xcon<0))||((s.op==17)&&(decide (xtok>=0))))) 37 (fun Za=>?_) (fun Za=>?_))
  ·have ZP:(xcon<0)∨((s.op=17)/\(xtok>=0)):=((Yo dq (YD Zh dq))).1 Za
   refine Z5 5 (.n 42 (.b true) (.d (.w .z))) (ie (WU (ar (ir 1 [(6,.b false)] (ie ?_)))))
   exact Zb (r1 [] (.inr ⟨rfl,rfl,(by rw [KL,hgcon,hgtok,Zo om])⟩))
  have Y1:¬((xcon<0)∨((s.op=17)/\(xtok>=0))):=ZI (Yo dq (YD Zh dq)) Za
  refine Z5 2 (.n 38 (.p b 0) (.n 39 (.i x) (.w (.k .z)))) (ic [2,2,2,2,2,2,2] (E6 b ga gb gc gd ge gf L ln x (hlk:=hk.len) (hq:=(fun y hy=>⟨hk.nn y hy,by have:=hk.bd y hy;omega⟩))) ?_)
  rintro _ _ (⟨wa1,wb1,wc1,wd1,we1,wf1,L'1,rfl,rfl,Yy⟩|⟨rfl,rfl,YK⟩)
  ·obtain ⟨t1,t2,t3,t4,t5,t6,t7⟩:=Kn Yy
   have hk1:=hk.take Yy
   obtain ⟨f1,f2,f3,f4,f5⟩:=hk1.len
   have hxcon1:L'1.con[x.toNat]? = some xcon:=by rw [t4];exact hxcon
   have hvl:L'1.vars.length=L.vars.length:=by rw [t2]
   have har2:=har om
   have hxfst1:L'1.fst[x.toNat]? = some xfst:=by rw [t5];exact hxfst
   refine Z1 2 42 (.b false) (ie (WT (ak (aD 11 (Y6 4 11 [0,1,2,3,4,5,6] (.n 44 (Zd n.decls) (.n 48 (.h wd1) (.n 49 (.i x) .r))) [8,0] [b1,b] (dx 7 (Vo 4 wd1 L'1.con x x.toNat (hq:=rfl)) (VT 8 (Tj 4 wd1 L'1.con x.toNat xcon hxcon1) (Z9 9 (Yv 9 [] [] [] (Qr n.decls xcon) (ZZ 0 1 [10] 8 (Z0 (ZC n.decls xcon)) (de (aq (ar (Z1 1 9 (.i 0) (ie (ab 0 (al (fun m F h=>∃(k:Nat) (o:List Int),(k<=(ZC n.decls xcon).length)/\(o.length=L.vars.length)/\(∀y∈o,0<=y/\y<=q+k)/\(TE o (xfst+k) ((ZC n.decls xcon).drop k)=TE L'1.own xfst (ZC n.decls xcon))/\F=[(0,.p b 0),(5,.p b2 0),(7,.i x),(8,Z0 (ZC n.decls xcon)),(9,.i k)]/\h=[.obj b [.h wa1,.h wb1,.h wc1,.h wd1,.h we1,.h wf1,Z0 ln],rV wa1 L'1.vars,rV wb1 o,rV wc1 L'1.par,rV wd1 L'1.con,rV we1 L'1.fst,rV wf1 L'1.tok,.obj b2 (Yg s)]/\m=(ZC n.decls xcon).length-k) _ _ _ ⟨0,L'1.own,ob,om,(by intro y hy;have h1:=hk1.nn y hy;have h2:=hk1.bd y hy;omega),(by rw [show xfst+((0:Nat):Int)=xfst by omega,Jz]),rfl,rfl,rfl⟩ (ZT 8 (fq (Ya fl))) ?_)))))))))))))))))
   rintro m F h ⟨k,o,Yj,Zp,Zy,YJ,rfl,rfl,rfl⟩
   refine aq (ar (Yq 2 53 (.i k) 54 (Z0 (ZC n.decls xcon)) (io (.i (((ZC n.decls xcon).length:Nat):Int)) (.i (((Z8 (ZC n.decls xcon)).length:Nat):Int)) (li (by rw [Yh])) (Z1 1 56 (.b (decide ((k:Int)<(((ZC n.decls xcon).length:Nat):Int)))) (ie (ZM ((k:Int)<(((ZC n.decls xcon).length:Nat):Int)) (fun Ze=>?_) (fun Ze=>?_)))))))
   ·refine ak (aq (ab 1 (ar (Yq 2 59 (Z0 (ZC n.decls xcon)) 60 (.i k) ?_))))
    obtain ⟨x1,Z3⟩:=Zr (xs:=ZC n.decls xcon) (j:=k) om
    refine Zq (Zm none (k:Int) 1 (Y4 Z3)) (Z1 2 63 (.b (x1 != 0)) (ie (ac (x1 != 0) Yi (fun Zk=>?_) (fun Zk=>?_))))
    ·refine aE 31 (Y6 22 31 [0,1,2,3,4,5,6,7,8] (.n 67 (.h wb1) (.n 71 (.h we1) (.n 72 (.i x) .r))) [0,0] [b,b] (dx 9 (Vo 5 we1 L'1.fst x x.toNat (hq:=rfl)) (VT 10 (Tj 5 we1 L'1.fst x.toNat xfst hxfst1) (ZZ 19 20 [11] 75 (.i k) (da 12 ((xfst+(k:Int))) ((xfst)+((k:Int))) (Y6 9 18 [13,14,15,16,17,18,19,20,21] (.n 80 (.h wb1) (.n 84 (.h we1) (.n 85 (.i x) .r))) [0,0] [b,b] (dx 22 (Vo 5 we1 L'1.fst x x.toNat (hq:=rfl)) (VT 23 (Tj 5 we1 L'1.fst x.toNat xfst hxfst1) (ZZ 6 7 [24] 88 (.i k) (da 25 ((xfst+(k:Int))) ((xfst)+((k:Int))) (dx 26 (Vo 2 wb1 o (xfst+(k:Int)) ((xfst+(k:Int)).toNat) (hq:=rfl)) ?_)))))))))))
     obtain ⟨x2,Zt⟩:=Zr (xs:=o) (j:=((xfst+(k:Int)).toNat)) om
     have hy2:=Zy _ (Y7 Zt)
     refine VT 27 (Tj 2 wb1 o ((xfst+(k:Int)).toNat) x2 Zt) (da 28 ((x2+1)) ((x2)+(1)) (dx 29 (Vo 2 wb1 o (xfst+(k:Int)) ((xfst+(k:Int)).toNat) (hq:=rfl)) (Z9 30 (JT 30 2 [] [] wb1 o ((xfst+(k:Int)).toNat) (x2+1) (de (az (Z1 1 57 (.i k) (ZL k (ir 1 [(0,.p b 0),(5,.p b2 0),(7,.i x),(8,Z0 (ZC n.decls xcon)),(9,.i (k+1:Nat))] (ie ?_))))))))))
     exact ZO ⟨k+1,(o.set (xfst+(k:Nat)).toNat (x2+1)),ob,ob,(by intro y hy;first|(rcases Kg hy with hy|rfl<;>first|(have:=Zy y hy;omega)|omega)|(have:=Zy y hy;omega)),(by rw [Y8 Z3,TE] at YJ;first|(rw [Zo Zk,UK Zt] at YJ;rw [show xfst+((k+1:Nat):Int)=xfst+k+1 by omega];exact YJ)|(rw [Zc Zk] at YJ;rw [show xfst+((k+1:Nat):Int)=xfst+k+1 by omega];exact YJ)),rfl,rfl,rfl⟩ (wk [1,1,0,0,0,0,0,0] (fq (ZQ k fl)) (e:=(rc (rc (rv (xs:=(o.set ((xfst+(k:Int)).toNat) (x2+1))) ob (rc (rc (rc (rc (rc rz))))))))))
    refine ak (az (Z1 1 57 (.i k) (ZL k (ir 1 [(0,.p b 0),(5,.p b2 0),(7,.i x),(8,Z0 (ZC n.decls xcon)),(9,.i (k+1:Nat))] (ie ?_)))))
    exact ZO ⟨k+1,o,ob,ob,(by intro y hy;first|(rcases Kg hy with hy|rfl<;>first|(have:=Zy y hy;omega)|omega)|(have:=Zy y hy;omega)),(by rw [Y8 Z3,TE] at YJ;first|(rw [Zo Zk,UK Zt] at YJ;rw [show xfst+((k+1:Nat):Int)=xfst+k+1 by omega];exact YJ)|(rw [Zc Zk] at YJ;rw [show xfst+((k+1:Nat):Int)=xfst+k+1 by omega];exact YJ)),rfl,rfl,rfl⟩ (ZT 8 (fq (ZQ k fl)))
   refine ax 0 (aq (ar (Yl 3 96 (.b (s.op==17)) [7] [b2] (ie (ac (s.op==17) Zh (fun ZG=>?_) (fun ZG=>?_))))))
   ·refine az (iR 6 [(100,.h wf1),(101,.i x),(102,Z0 (ZC n.decls xcon))] [0] [b] (io (.i (((ZC n.decls xcon).length:Nat):Int)) (.i (((Z8 (ZC n.decls xcon)).length:Nat):Int)) (li (by rw [Yh])) (Zq (Vo 6 wf1 L'1.tok x x.toNat (hq:=rfl)) (Gm 6 wf1 L'1.tok x.toNat (((ZC n.decls xcon).length:Nat):Int) (ie (ar (ir 1 [(6,.b true)] (ie ?_))))))))
    have hof:o=TE L'1.own xfst (ZC n.decls xcon):=by rw [<-YJ,Xb om];rfl
    exact Zb (r1 [1,1,1,1,1,1,0] (.inl ⟨wa1,wb1,wc1,wd1,we1,wf1,(ZJ.mk L'1.vars o L'1.par L'1.con L'1.fst (L'1.tok.set x.toNat (((ZC n.decls xcon).length:Nat):Int))),rfl,rfl,(by rw [KL,hgcon,hgfst,hgtok,Zc om,Yy,hof,t6];simp [ZG,t2,t3,t4,t5])⟩) (eq:=(rc (rv (xs:=L'1.vars) ob (rv (xs:=o) ob (rv (xs:=L'1.par) ob (rv (xs:=L'1.con) ob (rv (xs:=L'1.fst) ob (rv (xs:=(L'1.tok.set x.toNat (((ZC n.decls xcon).length:Nat):Int))) ob rz)))))))))
   refine ak (ar (ir 1 [(6,.b true)] (ie ?_)))
   have hof:o=TE L'1.own xfst (ZC n.decls xcon):=by rw [<-YJ,Xb om];rfl
   exact Zb (r1 [0,0,0,0,0,0,0] (.inl ⟨wa1,wb1,wc1,wd1,we1,wf1,(ZJ.mk L'1.vars o L'1.par L'1.con L'1.fst L'1.tok),rfl,rfl,(by rw [KL,hgcon,hgfst,hgtok,Zc om,Yy,hof,t6];simp [ZG,t2,t3,t4,t5])⟩) (eq:=(rc (rv (xs:=L'1.vars) ob (rv (xs:=o) ob (rv (xs:=L'1.par) ob (rv (xs:=L'1.con) ob (rv (xs:=L'1.fst) ob (rv (xs:=L'1.tok) ob rz)))))))))
  refine Z1 2 42 (.b true) (ie (WU (ar (ir 1 [(6,.b false)] (ie ?_)))))
  exact Zb (r1 [] (.inr ⟨rfl,rfl,(by rw [KL,hgcon,hgtok,Zc om,YK])⟩))
 refine ir 2 [(0,.p b 0),(4,.p b1 0),(5,.p b2 0),(7,.i x),(22,.b (decide (xcon<0)))] (ib (b:=(decide (xcon<0))) 22 (fun Zz=>?_) (fun Zz=>?_))
 ·have X0:xcon<0:=(dq).1 Zz
  refine Z5 14 (.n 36 (.b true) (.d (.w .z))) ?_
  exact YG (ZT 9 (fq (Zu true Zz fl))) hj1
 have XB:¬(xcon<0):=ZI dq Zz
 refine Y2 4 (.n 26 (.b (s.op==17)) (.w (.k .z))) [0] [b2] (ib (b:=(s.op==17)) 26 (fun YE=>?_) (fun YE=>?_))
 ·have Wk:s.op=17:=(Zh).1 YE
  refine Y2 5 (.n 30 (.h gf) (.n 31 (.i x) (.k (.d .r)))) [2] [b] (Zq (Vo 8 gf L.tok x x.toNat (hq:=rfl)) (VI (Tj 8 gf L.tok x.toNat xtok hxtok) (Z1 3 36 (.b (decide (xtok>=0))) ?_)))
  exact YG (ZT 9 (fq (Zu (decide (xtok>=0)) (And.intro Zz YE) fl))) hj1
 have WJ:¬(s.op=17):=ZI Zh YE
 refine Z5 10 (.n 36 (.b false) (.k (.d .r))) ?_
 exact YG (ZT 9 (fq (Zu false (And.intro Zz YE) fl))) hj1
theorem Z31 (b:Nat) (ga:Hd) (gb:Hd) (gc:Hd) (gd:Hd) (ge:Hd) (gf:Hd) (n:Zx) (s:Z4) (L:ZJ) (ln:List Int) (q:Int) (hn:Xd n:=by exact ob) (hnum:s.op=9->0<=s.num/\s.num<n.routines.length:=by exact ob) (hk:Xx n.decls L q:=by exact ob) (hlb:L.vars.length<=1000000000:=by exact ob) (hargs:∀a∈s.args,0<=a/\a<L.vars.length) (hinto:0<s.into->s.into<=L.vars.length:=by exact ob) (hal:s.args.length<=1000000000:=by exact ob) (hln:ln.length<=4294967296:=by exact ob) (hq:0<=q/\q<=999999990:=by exact ob):Zi Tryz.prog 236 [.p b 0,ZD n,Y3 s] [.obj b [.h ga,.h gb,.h gc,.h gd,.h ge,.h gf,Z0 ln],rV ga L.vars,rV gb L.own,rV gc L.par,rV gd L.con,rV ge L.fst,rV gf L.tok] (fun r h=>(∃(wa:Hd) (wb:Hd) (wc:Hd) (wd:Hd) (we:Hd) (wf:Hd) (L':ZJ),r=.b true/\h=[.obj b [.h wa,.h wb,.h wc,.h wd,.h we,.h wf,Z0 ln],rV wa L'.vars,rV wb L'.own,rV wc L'.par,rV wd L'.con,rV we L'.fst,rV wf L'.tok]/\Kb n ln L s.op s.num s.into s.args=some L')∨(r=.b false/\h=[]/\Kb n ln L s.op s.num s.into s.args=none)):=by
 obtain ⟨e1,e2,e3,e4,e5⟩:=hk.len
 refine ZK 79 Tryz.func236 (ar (iA (ZU n) ?_))
 intro b1
 refine iA (Yg s) ?_
 intro b2
 refine ir 1 [(0,.p b 0),(4,.p b1 0),(5,.p b2 0)] (ie (aq (ar (Z1 1 7 (.i 0) (ie (ab 0 (al (fun m F h=>∃(k:Nat) (L2:ZJ) (ka:Hd) (kb:Hd) (kc:Hd) (kd:Hd) (ke:Hd) (kf:Hd),(k<=s.args.length)/\(Xx n.decls L2 q)/\(L2.vars=L.vars)/\(Qm n s.op s.num (s.args.drop k) k L2=Qm n s.op s.num s.args 0 L)/\F=[(0,.p b 0),(4,.p b1 0),(5,.p b2 0),(7,.i k)]/\h=[.obj b2 (Yg s),.obj b1 (ZU n),.obj b [.h ka,.h kb,.h kc,.h kd,.h ke,.h kf,Z0 ln],rV ka L2.vars,rV kb L2.own,rV kc L2.par,rV kd L2.con,rV ke L2.fst,rV kf L2.tok]/\m=s.args.length-k) _ _ _ ⟨0,L,ga,gb,gc,gd,ge,gf,ob,hk,ob,ob,rfl,rfl,rfl⟩ (ZT 9 (fw (fr (Ya fl)))) ?_)))))))
 rintro m F h ⟨k,L2,ka,kb,kc,kd,ke,kf,Yj,Zp,Zy,YJ,rfl,rfl,rfl⟩
 refine aq (ar (ZY 3 9 (.i k) 11 (Z0 s.args) [0] [b2] (iw (Yh s.args) (Z1 1 13 (.b (decide ((k:Int)<(s.args.length:Int)))) (ie (ZM ((k:Int)<(s.args.length:Int)) (fun Ze=>?_) (fun Ze=>?_)))))))
 ·obtain ⟨a1,ha1⟩:=Zr (xs:=s.args) (j:=k) om
  obtain ⟨e6,e7,e8,e9,e10⟩:=Zp.len
  have hav:=hargs a1 (Y7 ha1)
  have hvl:L2.vars.length=L.vars.length:=by rw [Zy]
  refine ak (aq (ab 1 (aD 18 (Y6 11 18 [0,1,2,3,4,5,6] (.n 16 (ZD n) (.n 20 (.h ka) (.n 21 (Y3 s) (.n 22 (.i k) .r)))) [1,2,0] [b1,b,b2] (Z9 7 (Kz 7 [3] [] [] [rV ka L2.vars] (EF n L2.vars s k a1 (ha:=ha1)) Cb (gS (gL (v:=ka) 0 (gS (gS gN)))) (Qo Kf) ?_))))))
  rintro _ _ ⟨rfl,rfl⟩
  refine ZZ 9 10 [8] 24 (.b (UX n L2.vars s.op s.num a1 k)) (db (b:=UX n L2.vars s.op s.num a1 k) 24 (fun Za=>?_) (fun Za=>?_))
  ·have ZP:UX n L2.vars s.op s.num a1 k=true:=(Iff.rfl).1 Za
   refine Y6 5 9 [9,10,11,12] (.n 25 (.p b 0) (.n 27 (Z0 s.args) (.n 28 (.i k) (.k (.d .r))))) [1] [b2] (dx 13 (Zm none (k:Int) 1 (Y4 ha1)) (ZZ 3 4 [14] 30 (.i a1) (Z9 15 (dc 15 [3,0,2,2,2,2,2] [] [] (E6 b ka kb kc kd ke kf L2 ln a1 (hlk:=Zp.len) (hq:=(fun y hy=>⟨Zp.nn y hy,by have:=Zp.bd y hy;omega⟩))) ?_))))
   rintro _ _ (⟨wa1,wb1,wc1,wd1,we1,wf1,L'1,rfl,rfl,Y1⟩|⟨rfl,rfl,Yy⟩)
   ·obtain ⟨t1,t2,t3,t4,t5,t6,t7⟩:=Kn Y1
    have hk2:=Zp.take Y1
    refine ZZ 0 2 [16,17] 33 (.b false) (de (WT (ak (az (Z1 1 14 (.i k) (ZL k (ir 1 [(0,.p b 0),(4,.p b1 0),(5,.p b2 0),(7,.i (k+1:Nat))] (ie ?_))))))))
    exact ZO ⟨k+1,L'1,wa1,wb1,wc1,wd1,we1,wf1,ob,hk2,(t2.trans Zy),(by rw [Y8 ha1,Qm,Zo ZP] at YJ;simp only [Y1] at YJ;exact YJ),rfl,rfl,rfl⟩ (wk [7,7,0,0,0,0,0,0,0] (fw (fr (ZQ k fl))))
   refine ZZ 0 2 [16,17] 33 (.b true) (de (WU (ar (ir 1 [(6,.b false)] (ie ?_)))))
   exact Zb (r1 [] (.inr ⟨rfl,rfl,(by rw [Kb,<-YJ,Y8 ha1,Qm,Zo ZP,Yy])⟩))
  have YK:¬(UX n L2.vars s.op s.num a1 k=true):=ZI Iff.rfl Za
  refine Y0 0 9 [9,10,11,12,13,14,15,16,17] (.n 33 (.b false) (.k (.d .r))) (de (WT (ak (az (Z1 1 14 (.i k) (ZL k (ir 1 [(0,.p b 0),(4,.p b1 0),(5,.p b2 0),(7,.i (k+1:Nat))] (ie ?_))))))))
  exact ZO ⟨k+1,L2,ka,kb,kc,kd,ke,kf,ob,Zp,Zy,(by rw [Y8 ha1,Qm,Zc YK] at YJ;exact YJ),rfl,rfl,rfl⟩ (wk [1,1,1,0,0,0,0,0,0] (fw (fr (ZQ k fl))))
 have hT:Qm n s.op s.num s.args 0 L=some L2:=by rw [<-YJ,Xb om];rfl
 obtain ⟨e6,e7,e8,e9,e10⟩:=Zp.len
 have hvl:L2.vars.length=L.vars.length:=by rw [Zy]
 refine ax 0 (aq (ar (Z1 1 8 (.i 0) (ie (ab 2 (al (fun m F h=>∃(j:Nat),(j<=s.args.length)/\(A1 n s.op s.num ln L2 (s.args.drop j) j=A1 n s.op s.num ln L2 s.args 0)/\F=[(0,.p b 0),(4,.p b1 0),(5,.p b2 0),(8,.i j)]/\h=[.obj b2 (Yg s),.obj b1 (ZU n),.obj b [.h ka,.h kb,.h kc,.h kd,.h ke,.h kf,Z0 ln],rV ka L2.vars,rV kb L2.own,rV kc L2.par,rV kd L2.con,rV ke L2.fst,rV kf L2.tok]/\m=s.args.length-j) _ _ _ ⟨0,ob,ob,rfl,rfl,rfl⟩ (ZT 9 (fw (fr (Ya fl)))) ?_))))))
 rintro m F h ⟨j,VS,XH,rfl,rfl,rfl⟩
 refine aq (ar (ZY 3 34 (.i j) 36 (Z0 s.args) [0] [b2] (iw (Yh s.args) (Z1 1 38 (.b (decide ((j:Int)<(s.args.length:Int)))) (ie (ZM ((j:Int)<(s.args.length:Int)) (fun Zk=>?_) (fun Zk=>?_)))))))
 ·obtain ⟨a2,ha2⟩:=Zr (xs:=s.args) (j:=j) om
  have hav:=hargs a2 (Y7 ha2)
  refine ak (aq (ab 3 (ar (Y2 3 (.n 41 (ZD n) (.n 42 (Y3 s) (.n 43 (.i j) .r))) [1,0] [b1,b2] (ZA [] (CY n s j) (Xo [(0,.p b 0),(4,.p b1 0),(5,.p b2 0),(8,.i j),(54,.b (WK n s.op s.num j&&(!VD L2 ln a2)))] [.obj b [.h ka,.h kb,.h kc,.h kd,.h ke,.h kf,Z0 ln],rV ka L2.vars,rV kb L2.own,rV kc L2.par,rV kd L2.con,rV ke L2.fst,rV kf L2.tok,.obj b2 (Yg s),.obj b1 (ZU n)] ?_ ?_))))))
  ·refine ir 1 [(0,.p b 0),(4,.p b1 0),(5,.p b2 0),(8,.i j),(45,.b (WK n s.op s.num j))] (ib (b:=WK n s.op s.num j) 45 (fun Zz=>?_) (fun Zz=>?_))
   ·have X0:WK n s.op s.num j=true:=(Iff.rfl).1 Zz
    refine Y2 4 (.n 46 (.p b 0) (.n 48 (Z0 s.args) (.n 49 (.i j) (.w (.k .z))))) [0] [b2] (Zq (Zm none (j:Int) 1 (Y4 ha2)) (Z1 1 51 (.i a2) (ZA [2,2,2,2,2,2,2] (E5 b ka kb kc kd ke kf L2 ln a2 (hlk:=Zp.len) (hd:=Zp.down)) (Z1 2 54 (.b (!VD L2 ln a2)) (ie ?_)))))
    exact ZT 9 (fq (Zu (!VD L2 ln a2) Zz fl))
   have XB:¬(WK n s.op s.num j=true):=ZI Iff.rfl Zz
   refine Z5 9 (.n 54 (.b false) (.d (.w .z))) (ie ?_)
   exact wk [2,2,2,2,2,2,2,0,0] (fq (Zu false Zz fl))
  refine ac (WK n s.op s.num j&&(!VD L2 ln a2)) (p:=(WK n s.op s.num j=true)/\(¬(VD L2 ln a2=true))) (YD Iff.rfl (Yw Iff.rfl)) (fun ZG=>?_) (fun ZG=>?_)
  ·refine ar (ir 1 [(6,.b false)] (ie ?_))
   have hA:A1 n s.op s.num ln L2 s.args 0=false:=by rw [<-XH,Y8 ha2,A1,Zo ZG]
   exact Zb (r1 [] (.inr ⟨rfl,rfl,(by rw [Kb,hT];simp only [hA];rfl)⟩))
  refine ak (az (ir 1 [(0,.p b 0),(4,.p b1 0),(5,.p b2 0),(39,.i j)] (ZL j (Z1 1 8 (.i (j+1:Nat)) (ie ?_)))))
  exact ZO ⟨j+1,ob,(by rw [Y8 ha2,A1,Zc ZG] at XH;exact XH),rfl,rfl,rfl⟩ (wk [7,7,0,0,0,0,0,0,0] (fw (fr (ZQ j fl))))
 have hA:A1 n s.op s.num ln L2 s.args 0=true:=by rw [<-XH,Xb om];rfl
 refine ax 2 (aq (ar (Yl 3 57 (.b (decide (s.into>0))) [0] [b2] (ie (ZM (s.into>0) (fun Ym=>?_) (fun Ym=>?_))))))
 ·obtain ⟨xt,hxt⟩:=Zr (xs:=L2.tok) (j:=(s.into-1).toNat) (by have:=hinto Ym;omega)
  have hgt:=UK hxt
  refine aq (aD 13 (Y6 7 13 [0,1,2,3,4,5] (.n 61 (.h kf) (.n 63 (.i s.into) .r)) [2,0] [b,b2] (da 6 ((s.into-1)) ((s.into)-(1)) (dx 7 (Vo 8 kf L2.tok (s.into-1) ((s.into-1).toNat) (hq:=rfl)) (VT 8 (Tj 8 kf L2.tok ((s.into-1).toNat) xt hxt) (Y6 2 4 [9,10] (.n 68 (Z0 s.args) .r) [0] [b2] (dw 11 (Yh s.args) (ZZ 0 1 [12] 70 (.b (xt != (s.args.length:Int))) (de (ac (xt != (s.args.length:Int)) Yi (fun Xi=>?_) (fun Xi=>?_)))))))))))
  ·refine ar (ir 1 [(6,.b false)] (ie ?_))
   exact Zb (r1 [] (.inr ⟨rfl,rfl,(by rw [Kb,hT];simp only [hA,↓reduceIte];rw [Cr,Zo Ym,hgt,Zo Xi])⟩))
  refine ak (aE 9 (W2 3 9 [0,1,2,3,4,5] [(74,.h kf),(76,.i s.into)] [2,0] [b,b2] (da 6 ((s.into-1)) ((s.into)-(1)) (dx 7 (Vo 8 kf L2.tok (s.into-1) ((s.into-1).toNat) (hq:=rfl)) (Z9 8 (JT 8 8 [] [] kf L2.tok ((s.into-1).toNat) (-1) (de (ar (ir 1 [(6,.b true)] (ie ?_))))))))))
  exact Zb (r1 [3,3,3,3,3,3,0] (.inl ⟨ka,kb,kc,kd,ke,kf,(ZJ.mk L2.vars L2.own L2.par L2.con L2.fst (L2.tok.set ((s.into-1).toNat) (-1))),rfl,rfl,(by rw [Kb,hT];simp only [hA,↓reduceIte];rw [Cr,Zo Ym,hgt,Zc Xi])⟩) (eq:=(rc (rv (xs:=L2.vars) ob (rv (xs:=L2.own) ob (rv (xs:=L2.par) ob (rv (xs:=L2.con) ob (rv (xs:=L2.fst) ob (rv (xs:=(L2.tok.set ((s.into-1).toNat) (-1))) ob rz)))))))))
 refine ak (ar (ir 1 [(6,.b true)] (ie ?_)))
 exact Zb (r1 [2,2,2,2,2,2,2] (.inl ⟨ka,kb,kc,kd,ke,kf,L2,rfl,rfl,(by rw [Kb,hT];simp only [hA,↓reduceIte];rw [Cr,Zc Ym])⟩))
theorem Sj (b:Z6) (t:Int) (hz:b.sz<=1000000) (ih:∀(b2:Z6) (t:Int),(b2.sz<=1000000)->(b2.sz<b.sz)->Zi Tryz.prog 225 [Zs b2,.i t] [] (fun r h=>∃(wr:Bool),r=.b wr/\h=[])):Zi Tryz.prog 225 [Zs b,.i t] [] (fun r h=>∃(wr:Bool),r=.b wr/\h=[]):=by
 have ZE:=Vf b
 have hbl:=Kk b.steps
 have hbe:=b.sz_eq
 refine ZK 53 Tryz.func225 (ar (iA (Yk b) ?_))
 intro b1
 refine ir 1 [(1,.i t),(2,.p b1 0)] (ie (aq (ar (Z1 1 5 (.i 0) (ie (ab 0 (al (fun m F h=>∃(k:Nat),(k<=b.steps.length)/\F=[(1,.i t),(2,.p b1 0),(5,.i k)]/\h=[.obj b1 (Yk b)]/\m=b.steps.length-k) _ _ _ ⟨0,ob,rfl,rfl,rfl⟩ (wk [0] (fw (Ya fl))) ?_)))))))
 rintro m F h ⟨k,Yj,rfl,rfl,rfl⟩
 refine aq (ar (ZY 3 7 (.i k) 9 (Ye b.steps) [0] [b1] (iw (Vl b.steps) (Z1 1 11 (.b (decide ((k:Int)<(b.steps.length:Int)))) (ie (ZM ((k:Int)<(b.steps.length:Int)) (fun Ze=>?_) (fun Ze=>?_)))))))
 ·refine ak (aq (ab 1 (aq (ar (ZY 3 15 (Ye b.steps) 16 (.i k) [0] [b1] ?_)))))
  obtain ⟨x1,Z3⟩:=Zr (xs:=b.steps) (j:=k) om
  have hxs:=Hn (Y7 Z3)
  have hxe:=(x1).sz_eq
  have hxk:=Uz x1
  refine Zq (Zm none (k:Int) 5 (Wa Z3)) (Xo [(1,.i t),(2,.p b1 0),(5,.i k),(30,.b ((x1.op==10)&&(x1.num==t)))] [.obj b1 (Yk b)] ?_ ?_)
  ·refine ir 4 [(1,.i t),(2,.p b1 0),(5,.i k),(21,.b (x1.op==10))] (ib (b:=(x1.op==10)) 21 (fun Za=>?_) (fun Za=>?_))
   ·have ZP:x1.op=10:=(Zh).1 Za
    refine Y2 3 (.n 23 (Ye b.steps) (.n 24 (.i k) (.w .z))) [0] [b1] (Zq (Zm none (k:Int) 5 (Wa Z3)) (Z1 5 30 (.b (x1.num==t)) (ie ?_)))
    exact wk [0] (fw (fr (Zu (x1.num==t) Za fl)))
   have Y1:¬(x1.op=10):=ZI Zh Za
   refine Z5 9 (.n 30 (.b false) (.d (.k (.k (.k .z))))) (ie ?_)
   exact wk [0] (fw (fr (Zu false Za fl)))
  refine ac ((x1.op==10)&&(x1.num==t)) (p:=(x1.op=10)/\(x1.num=t)) (YD Zh Zh) (fun Zk=>?_) (fun Zk=>?_)
  ·refine ar (ir 1 [(4,.b true)] (ie ?_))
   exact Zb (r1 [] ⟨true,rfl,rfl⟩)
  refine ak (ar (ir 1 [(1,.i t),(2,.p b1 0),(5,.i k),(6,.i 0)] (ie (ab 2 (al (fun m F h=>∃(j:Nat),(j<=x1.kids.length)/\F=[(1,.i t),(2,.p b1 0),(5,.i k),(6,.i j)]/\h=[.obj b1 (Yk b)]/\m=x1.kids.length-j) _ _ _ ⟨0,ob,rfl,rfl,rfl⟩ (wk [0] (fw (fr (Ya fl)))) ?_)))))
  rintro m F h ⟨j,VS,rfl,rfl,rfl⟩
  refine aq (ar (Y2 4 (.n 31 (.i j) (.n 33 (Ye b.steps) (.n 34 (.i k) .r))) [0] [b1] (Zq (Zm none (k:Int) 5 (Wa Z3)) (Z1 2 37 (Yu x1.kids) (iw (VG x1.kids) (Z1 1 39 (.b (decide ((j:Int)<(x1.kids.length:Int)))) (ie (ZM ((j:Int)<(x1.kids.length:Int)) (fun ZG=>?_) (fun ZG=>?_)))))))))
  ·refine ak (aq (ab 3 (ar (ZY 3 43 (Ye b.steps) 44 (.i k) [0] [b1] (Zq (Zm none (k:Int) 5 (Wa Z3)) (Yq 3 47 (Yu x1.kids) 48 (.i j) ?_))))))
   obtain ⟨x2,Zt⟩:=Zr (xs:=x1.kids) (j:=j) om
   have hkx:=Fj (Y7 Zt)
   refine Zq (Zm none (j:Int) 2 (U5 Zt)) (Yq 2 50 (Zs x2) 51 (.i t) (ic [] (ih x2 t ob ob) ?_))
   rintro _ _ ⟨wr1,rfl,rfl⟩
   refine ie (ac wr1 Iff.rfl (fun Ym=>?_) (fun Ym=>?_))
   ·refine ar (ir 1 [(4,.b true)] (ie ?_))
    exact Zb (r1 [] ⟨true,rfl,rfl⟩)
   refine ak (az (Z1 1 40 (.i j) (ZL j (ir 1 [(1,.i t),(2,.p b1 0),(5,.i k),(6,.i (j+1:Nat))] (ie ?_)))))
   exact ZO ⟨j+1,ob,rfl,rfl,rfl⟩ (wk [0] (fw (fr (ZQ j fl))))
  refine ax 2 (az (Z1 1 12 (.i k) (ZL k (ir 1 [(1,.i t),(2,.p b1 0),(5,.i (k+1:Nat))] (ie ?_)))))
  exact ZO ⟨k+1,ob,rfl,rfl,rfl⟩ (wk [0] (fw (ZQ k fl)))
 refine ax 0 (ar (ir 1 [(4,.b false)] (ie ?_)))
 exact Zb (r1 [] ⟨false,rfl,rfl⟩)
theorem Si (b:Z6) (t:Int) (hz:b.sz<=1000000:=by exact ob):Zi Tryz.prog 225 [Zs b,.i t] [] (fun r h=>∃(wr:Bool),r=.b wr/\h=[]):=by
 have key:∀k:Nat,∀(b2:Z6) (t:Int),(b2.sz<=1000000)->(b2.sz<k)->Zi Tryz.prog 225 [Zs b2,.i t] [] (fun r h=>∃(wr:Bool),r=.b wr/\h=[]):=by
  intro k
  induction k with
  | zero=>intro b2 t h1 h2;omega
  | succ k ih=>intro b2 t h1 h2;exact Sj b2 t h1 fun b3 t3 q1 q2=>ih b3 t3 q1 om
 exact key (b.sz+1) b t hz om
theorem SB (n:Zx) (t:Int) (qz:Nat) (hn:FN n qz:=by exact ob) (hqz:qz<=100000:=by exact ob):Zi Tryz.prog 197 [ZD n,.i t] [] (fun r h=>∃(wr:Bool),r=.b wr/\h=[]):=by
 have hnl:=hn.len
 refine ZK 21 Tryz.func197 (ar (iA (ZU n) ?_))
 intro b1
 refine ir 1 [(1,.i t),(2,.p b1 0)] (ie (aq (ar (Z1 1 5 (.i 0) (ie (ab 0 (al (fun m F h=>∃(k:Nat),(k<=n.routines.length)/\F=[(1,.i t),(2,.p b1 0),(5,.i k)]/\h=[.obj b1 (ZU n)]/\m=n.routines.length-k) _ _ _ ⟨0,ob,rfl,rfl,rfl⟩ (wk [0] (fw (Ya fl))) ?_)))))))
 rintro m F h ⟨k,Yj,rfl,rfl,rfl⟩
 refine aq (ar (ZY 3 6 (.i k) 8 (YZ n.routines) [0] [b1] (iw (VV n.routines) (Z1 1 10 (.b (decide ((k:Int)<(n.routines.length:Int)))) (ie (ZM ((k:Int)<(n.routines.length:Int)) (fun Ze=>?_) (fun Ze=>?_)))))))
 ·refine ak (aq (ab 1 (ar (ZY 3 14 (YZ n.routines) 15 (.i k) [0] [b1] ?_))))
  obtain ⟨x1,Z3⟩:=Zr (xs:=n.routines) (j:=k) om
  have hbz:=(hn.body _ (Y7 Z3)).2
  refine Zq (Zm none (k:Int) 5 (WB Z3)) (Yq 3 18 (Zs x1.body) 19 (.i t) (ic [] (Si x1.body t) ?_))
  rintro _ _ ⟨wr1,rfl,rfl⟩
  refine ie (ac wr1 Iff.rfl (fun Zk=>?_) (fun Zk=>?_))
  ·refine ar (ir 1 [(4,.b true)] (ie ?_))
   exact Zb (r1 [] ⟨true,rfl,rfl⟩)
  refine ak (az (Z1 1 11 (.i k) (ZL k (ir 1 [(1,.i t),(2,.p b1 0),(5,.i (k+1:Nat))] (ie ?_)))))
  exact ZO ⟨k+1,ob,rfl,rfl,rfl⟩ (wk [0] (fw (ZQ k fl)))
 refine ax 0 (ar (ir 1 [(4,.b false)] (ie ?_)))
 exact Zb (r1 [] ⟨false,rfl,rfl⟩)
theorem Ld (fs:List Int) (q:Nat) (hl:fs.length<=1000000:=by exact ob) (hq:q<=1000000:=by exact ob):Zi Tryz.prog 198 [Z0 fs,.i q] [] (fun r h=>∃(xs:List Int),r=Z0 xs/\h=[]/\xs.length<=fs.length/\∀i∈xs,(q:Int)<=i/\i<(q:Int)+fs.length):=by
 refine ZK 26 Tryz.func198 (ar (ir 1 [(0,Z0 fs),(1,.i q)] (ie (ar (iL (Z8 []) 0 1 ?_)))))
 intro v1
 refine Z1 1 5 (Z7 [] v1) (ie (aq (ar (Z1 1 6 (.i 0) (ie (ab 0 (al (fun m F h=>∃(k:Nat) (ys:List Int) (u:Value),(k<=fs.length)/\(ys.length<=k)/\(∀i∈ys,(q:Int)<=i/\i<(q:Int)+fs.length)/\F=[(0,Z0 fs),(1,.i q),(5,Z7 ys u),(6,.i k)]/\h=[.tail u 1]/\m=fs.length-k) _ _ _ ⟨0,[],v1,ob,ob,(fun i hi=>by cases hi),rfl,rfl,rfl⟩ (wk [0] (fw (fr (Ya fl)))) ?_)))))))
 rintro m F h ⟨k,ys,u,Yj,Zp,Zy,rfl,rfl,rfl⟩
 refine aq (ar (Yq 2 8 (.i k) 9 (Z0 fs) (iw (Yh fs) (Z1 1 11 (.b (decide ((k:Int)<(fs.length:Int)))) (ie (ZM ((k:Int)<(fs.length:Int)) (fun Ze=>?_) (fun Ze=>?_)))))))
 ·refine ak (aq (ab 1 (ar (Yq 2 14 (Z0 fs) 15 (.i k) ?_))))
  obtain ⟨x1,Z3⟩:=Zr (xs:=fs) (j:=k) om
  refine Zq (Zm none (k:Int) 1 (Y4 Z3)) (Z1 2 18 (.b (x1 != 0)) (ie (ac (x1 != 0) Yi (fun Zk=>?_) (fun Zk=>?_))))
  ·refine az (Z5 3 (.n 19 (Z7 ys u) (.n 20 (.i q) (.n 21 (.i k) .r))) (ia (((q+k:Nat):Int)) (((q:Int))+((k:Int))) (iL (Z8 [((q+k:Nat):Int)]) 1 1 ?_)))
   intro v2
   refine Z5 0 (.n 23 (Z0 [((q+k:Nat):Int)]) (.p .r)) (ip 1 (Z8 (ys++[((q+k:Nat):Int)])) (Z8 ys) (Z8 [((q+k:Nat):Int)]) u none 1 (YF _) (YF _) (XX _) (by simp<;>omega) (by simp [XW,Z8]) ?_)
   intro v3
   refine ir 1 [(0,Z0 fs),(1,.i q),(5,Z7 (ys++[((q+k:Nat):Int)]) v3),(6,.i k)] (ie (az (Z1 1 12 (.i k) (ZL k (Z5 1 (.n 6 (.i (k+1:Nat)) (.p (.d (.k (.k (.k .z)))))) (ie ?_))))))
   exact ZO ⟨k+1,(ys++[((q+k:Nat):Int)]),v3,ob,ob,(Xp Zy om),rfl,rfl,rfl⟩ (wk [0] (fw (fr (ZQ k fl))))
  refine ak (az (Z1 1 12 (.i k) (ZL k (ir 1 [(0,Z0 fs),(1,.i q),(5,Z7 ys u),(6,.i (k+1:Nat))] (ie ?_)))))
  exact ZO ⟨k+1,ys,u,ob,ob,ob,rfl,rfl,rfl⟩ (wk [0] (fw (fr (ZQ k fl))))
 refine ax 0 (ar (ir 2 [(4,Z7 ys u)] (ie ?_)))
 exact Zb (r2 [] [Z7 ys u] ⟨ys,rfl,rfl,⟨by omega,Zy⟩⟩ (Zg.forget _ _))
theorem L7 (n:Zx) (qz:Nat) (hn:FN n qz:=by exact ob) (hqz:qz<=100000:=by exact ob):Zi Tryz.prog 157 [ZD n] [] (fun r h=>∃(xs:List (List Int)),r=WD xs/\h=[]/\LC n n.routines.length xs):=by
 have hnl:=hn.len
 refine ZK 31 Tryz.func157 (ar (iA (ZU n) ?_))
 intro b1
 refine ir 1 [(1,.p b1 0)] (ie (ar (iL (W7 []) 0 1 ?_)))
 intro v1
 refine Z1 1 3 (T2 [] v1) (ie (aq (ar (Z1 1 4 (.i 0) (ie (ab 0 (al (fun m F h=>∃(k:Nat) (ys:List (List Int)) (u:Value),(k<=n.routines.length)/\(ys.length=k)/\(LC n k ys)/\F=[(1,.p b1 0),(3,T2 ys u),(4,.i k)]/\h=[.obj b1 (ZU n),.tail u 1]/\m=n.routines.length-k) _ _ _ ⟨0,[],v1,ob,ob,LC.nil,rfl,rfl,rfl⟩ (wk [1,0] (fw (Ya fl))) ?_)))))))
 rintro m F h ⟨k,ys,u,Yj,Zp,Zy,rfl,rfl,rfl⟩
 refine aq (ar (ZY 3 6 (.i k) 8 (YZ n.routines) [0] [b1] (iw (VV n.routines) (Z1 1 10 (.b (decide ((k:Int)<(n.routines.length:Int)))) (ie (ZM ((k:Int)<(n.routines.length:Int)) (fun Ze=>?_) (fun Ze=>?_)))))))
 ·refine ak (aq (ab 1 (ar (ZY 2 13 (ZD n) 14 (.i k) [0] [b1] (ic [] (SB n (k:Int) qz) ?_)))))
  rintro _ _ ⟨wr1,rfl,rfl⟩
  refine ie (ac wr1 Iff.rfl (fun Zk=>?_) (fun Zk=>?_))
  ·refine az (Z1 1 16 (T2 ys u) (iL (Z8 []) 0 1 ?_))
   intro v2
   refine Z5 0 (.n 17 (Z0 []) (.p .r)) (iL (W7 [[]]) 1 1 ?_)
   intro v3
   refine Z5 0 (.n 18 (WD [[]]) (.p .r)) (ip 3 (W7 (ys++[[]])) (W7 ys) (W7 [[]]) u none 1 (JW _) (JW _) (Dx _) (by simp<;>omega) (by simp [FK,W7]) ?_)
   intro v4
   refine ir 1 [(1,.p b1 0),(3,T2 (ys++[[]]) v4),(4,.i k)] (ie (az (Z1 1 11 (.i k) (ZL k (Z5 1 (.n 4 (.i (k+1:Nat)) (.p (.d (.k (.k .z))))) (ie ?_))))))
   exact ZO ⟨k+1,(ys++[[]]),v4,ob,ob,(Zy.snoc (by simp) (fun r hr v hv=>by cases hv)),rfl,rfl,rfl⟩ (wk [3,0] (fw (ZQ k fl)))
  refine az (Y2 4 (.n 20 (T2 ys u) (.n 22 (YZ n.routines) (.n 23 (.i k) .r))) [0] [b1] ?_)
  obtain ⟨x1,Z3⟩:=Zr (xs:=n.routines) (j:=k) om
  have hrp:=(FN.ok hn).params_at Z3
  have hss:=(UV.bd (f:=⟨(x1).params,(x1).result,default⟩) (hn.sigs _ (Y7 Z3))).1
  refine Zq (Zm none (k:Int) 5 (WB Z3)) (Z1 2 26 (Z0 x1.params) (ic [] (Ld x1.params 0) ?_))
  rintro _ _ ⟨xs1,rfl,rfl,ZP⟩
  have hhf:=ZP
  refine iL (W7 [xs1]) 1 1 ?_
  intro v5
  refine Z5 0 (.n 28 (WD [xs1]) (.p .r)) (ip 2 (W7 (ys++[xs1])) (W7 ys) (W7 [xs1]) u none 1 (JW _) (JW _) (Dx _) (by simp<;>omega) (by simp [FK,W7]) ?_)
  intro v6
  refine ir 1 [(1,.p b1 0),(3,T2 (ys++[xs1]) v6),(4,.i k)] (ie (az (Z1 1 11 (.i k) (ZL k (Z5 1 (.n 4 (.i (k+1:Nat)) (.p (.d (.k (.k .z))))) (ie ?_))))))
  exact ZO ⟨k+1,(ys++[xs1]),v6,ob,ob,(Zy.snoc om (fun r hr v hv=>by rw [Z3] at hr;cases hr;have:=hhf.2 v hv;omega)),rfl,rfl,rfl⟩ (wk [2,0] (fw (ZQ k fl)))
 refine ax 0 (ar (ir 2 [(2,T2 ys u)] (ie ?_)))
 exact Zb (r2 [] [T2 ys u] ⟨ys,rfl,rfl,(by rw [show n.routines.length=k by omega];exact Zy)⟩ (Zg.forget _ _))
theorem Sm (n:Zx) (b:Z6) (t:Int) (mq:Nat) (hn:Xd n) (hf:fB n.decls n.routines.length mq b) (hz:b.sz<=1000000) (ih:∀(b2:Z6) (t:Int) (m2:Nat),(fB n.decls n.routines.length m2 b2)->(b2.sz<=1000000)->(b2.sz<b.sz)->Zi Tryz.prog 199 [ZD n,Zs b2,.i t] [] (fun r h=>∃(wr:Bool),r=.b wr/\h=[])):Zi Tryz.prog 199 [ZD n,Zs b,.i t] [] (fun r h=>∃(wr:Bool),r=.b wr/\h=[]):=by
 have hbl:=Kk b.steps
 have hbe:=b.sz_eq
 refine ZK 68 Tryz.func199 (ar (iA (ZU n) ?_))
 intro b1
 refine iA (Yk b) ?_
 intro b2
 refine ir 1 [(2,.i t),(3,.p b1 0),(4,.p b2 0)] (ie (aq (ar (Yl 4 14 (.b (b.result==t)) [0] [b2] (ie (ac (b.result==t) Zh (fun Ze=>?_) (fun Ze=>?_)))))))
 ·refine ar (ir 1 [(6,.b true)] (ie ?_))
  exact Zb (r1 [] ⟨true,rfl,rfl⟩)
 refine ak (aq (ar (Z1 1 7 (.i 0) (ie (ab 0 (al (fun m F h=>∃(k:Nat),(k<=b.steps.length)/\F=[(2,.i t),(3,.p b1 0),(4,.p b2 0),(7,.i k)]/\h=[.obj b2 (Yk b),.obj b1 (ZU n)]/\m=b.steps.length-k) _ _ _ ⟨0,ob,rfl,rfl,rfl⟩ (wk [0,0] (fw (fr (Ya fl)))) ?_))))))
 rintro m F h ⟨k,Yj,rfl,rfl,rfl⟩
 refine aq (ar (ZY 3 15 (.i k) 17 (Ye b.steps) [0] [b2] (iw (Vl b.steps) (Z1 1 19 (.b (decide ((k:Int)<(b.steps.length:Int)))) (ie (ZM ((k:Int)<(b.steps.length:Int)) (fun Zk=>?_) (fun Zk=>?_)))))))
 ·refine ak (aq (ab 1 (ar (ZY 3 23 (Ye b.steps) 24 (.i k) [0] [b2] ?_))))
  obtain ⟨x1,Z3⟩:=Zr (xs:=b.steps) (j:=k) om
  have hfs:=(DA x1).1 (Cl ((Cj b).1 hf).1 Z3)
  have hxs:=Hn (Y7 Z3)
  have hxe:=(x1).sz_eq
  have hxk:=Uz x1
  refine Zq (Zm none (k:Int) 5 (Wa Z3)) (Z1 1 26 (Y3 x1) (iA [.i 0,.i 0,.i 0,nl,nl] ?_))
  intro b3
  refine ZF 0 b3 (Yg x1) (ie (aq (ar (Z1 1 9 (.i 0) (ie (ab 2 (al (fun m F h=>∃(j:Nat),(j<=x1.args.length)/\F=[(2,.i t),(3,.p b1 0),(4,.p b2 0),(7,.i k),(8,.p b3 0),(9,.i j)]/\h=[.obj b3 (Yg x1),.obj b2 (Yk b),.obj b1 (ZU n)]/\m=x1.args.length-j) _ _ _ ⟨0,ob,rfl,rfl,rfl⟩ (ZT 3 (fq (fr (Ya fl)))) ?_)))))))
  rintro m F h ⟨j,VS,rfl,rfl,rfl⟩
  refine aq (ar (ZY 3 27 (.i j) 29 (Z0 x1.args) [0] [b3] (iw (Yh x1.args) (Z1 1 31 (.b (decide ((j:Int)<(x1.args.length:Int)))) (ie (ZM ((j:Int)<(x1.args.length:Int)) (fun ZG=>?_) (fun ZG=>?_)))))))
  ·refine ak (aq (ab 3 (ar (ZY 3 35 (Z0 x1.args) 36 (.i j) [0] [b3] ?_))))
   obtain ⟨x2,Zt⟩:=Zr (xs:=x1.args) (j:=j) om
   refine Zq (Zm none (j:Int) 1 (Y4 Zt)) (XQ 12 [(2,.i t),(3,.p b1 0),(4,.p b2 0),(7,.i k),(8,.p b3 0),(9,.i j),(45,.b ((x2==t)&&T6 x1.op))] [.obj b3 (Yg x1),.obj b2 (Yk b),.obj b1 (ZU n)] ?_ (fun hj1=>?_))
   ·refine Xo [(2,.i t),(3,.p b1 0),(4,.p b2 0),(7,.i k),(8,.p b3 0),(9,.i j),(52,.b (((x2==t)&&T6 x1.op)&&(!WK n x1.op x1.num j)))] [.obj b3 (Yg x1),.obj b2 (Yk b),.obj b1 (ZU n)] ?_ ?_
    ·refine ir 1 [(2,.i t),(3,.p b1 0),(4,.p b2 0),(7,.i k),(8,.p b3 0),(9,.i j),(46,.b ((x2==t)&&T6 x1.op))] (ib (b:=((x2==t)&&T6 x1.op)) 46 (fun Za=>?_) (fun Za=>?_))
     ·have ZP:(x2=t)/\(T6 x1.op=true):=((YD Zh Iff.rfl)).1 Za
      refine Y2 3 (.n 47 (ZD n) (.n 48 (Y3 x1) (.n 49 (.i j) (.w (.k (.k (.k .z))))))) [2,0] [b1,b3] (ZA [] (CY n x1 j (hnum:=hfs.call)) (Z1 2 52 (.b (!WK n x1.op x1.num j)) (ie ?_)))
      exact ZT 3 (fq (fw (Zu (!WK n x1.op x1.num j) Za fl)))
     have Y1:¬((x2=t)/\(T6 x1.op=true)):=ZI (YD Zh Iff.rfl) Za
     refine Z5 6 (.n 52 (.b false) (.d (.w (.k (.k .z))))) (ie ?_)
     exact ZT 3 (fq (fw (Zu false Za fl)))
    refine ac (((x2==t)&&T6 x1.op)&&(!WK n x1.op x1.num j)) (p:=((x2=t)/\(T6 x1.op=true))/\(¬(WK n x1.op x1.num j=true))) (YD (YD Zh Iff.rfl) (Yw Iff.rfl)) (fun Ym=>?_) (fun Ym=>?_)
    ·refine ar (ir 1 [(6,.b true)] (ie ?_))
     exact Zb (r1 [] ⟨true,rfl,rfl⟩)
    refine ak (az (ir 1 [(2,.i t),(3,.p b1 0),(4,.p b2 0),(7,.i k),(8,.p b3 0),(32,.i j)] (ZL j (Z1 1 9 (.i (j+1:Nat)) (ie ?_)))))
    exact ZO ⟨j+1,ob,rfl,rfl,rfl⟩ (ZT 3 (fq (fr (ZQ j fl))))
   refine ir 4 [(2,.i t),(3,.p b1 0),(4,.p b2 0),(7,.i k),(8,.p b3 0),(9,.i j),(41,.b (x2==t))] (ib (b:=(x2==t)) 41 (fun Zz=>?_) (fun Zz=>?_))
   ·have Yy:x2=t:=(Zh).1 Zz
    refine Y2 2 (.n 43 (.i x1.op) (.w (.k (.k (.k .z))))) [0] [b3] (ZA [] (NE x1.op) (Z1 1 45 (.b (T6 x1.op)) ?_))
    exact YG (ZT 3 (fq (fw (Zu (T6 x1.op) Zz fl)))) hj1
   have YK:¬(x2=t):=ZI Zh Zz
   refine Z5 4 (.n 45 (.b false) (.d (.w (.k (.k .z))))) ?_
   exact YG (ZT 3 (fq (fw (Zu false Zz fl)))) hj1
  refine ax 2 (ar (Z1 1 10 (.i 0) (ie (ab 4 (al (fun m F h=>∃(j:Nat),(j<=x1.kids.length)/\F=[(2,.i t),(3,.p b1 0),(4,.p b2 0),(7,.i k),(8,.p b3 0),(10,.i j)]/\h=[.obj b3 (Yg x1),.obj b2 (Yk b),.obj b1 (ZU n)]/\m=x1.kids.length-j) _ _ _ ⟨0,ob,rfl,rfl,rfl⟩ (ZT 3 (fq (fr (Ya fl)))) ?_)))))
  rintro m F h ⟨j,Ie,rfl,rfl,rfl⟩
  refine aq (ar (ZY 3 53 (.i j) 55 (Yu x1.kids) [0] [b3] (iw (VG x1.kids) (Z1 1 57 (.b (decide ((j:Int)<(x1.kids.length:Int)))) (ie (ZM ((j:Int)<(x1.kids.length:Int)) (fun Xi=>?_) (fun Xi=>?_)))))))
  ·refine ak (aq (ab 5 (aD 8 (Y6 4 8 [0,1,2,3] (.n 60 (ZD n) (.n 62 (Yu x1.kids) (.n 63 (.i j) .r))) [2,0] [b1,b3] ?_))))
   obtain ⟨x3,YT⟩:=Zr (xs:=x1.kids) (j:=j) om
   have hkx:=Fj (Y7 YT)
   have hfk:=Ck hfs.kids YT
   refine dx 4 (Zm none (j:Int) 2 (U5 YT)) (Y0 1 3 [5,6] (.n 65 (Zs x3) (.n 66 (.i t) .r)) (Z9 7 (dc 7 [] [] [] (ih x3 t (UA n.decls x1.op x1.num (mq+YO (b.steps.take k)) (0+j)) hfk ob ob) ?_)))
   rintro _ _ ⟨wr1,rfl,rfl⟩
   refine de (ac wr1 Iff.rfl (fun Xj=>?_) (fun Xj=>?_))
   ·refine ar (ir 1 [(6,.b true)] (ie ?_))
    exact Zb (r1 [] ⟨true,rfl,rfl⟩)
   refine ak (az (Z1 1 58 (.i j) (ZL j (ir 1 [(2,.i t),(3,.p b1 0),(4,.p b2 0),(7,.i k),(8,.p b3 0),(10,.i (j+1:Nat))] (ie ?_)))))
   exact ZO ⟨j+1,ob,rfl,rfl,rfl⟩ (ZT 3 (fq (fr (ZQ j fl))))
  refine ax 4 (az (Z1 1 20 (.i k) (ZL k (ir 1 [(2,.i t),(3,.p b1 0),(4,.p b2 0),(7,.i (k+1:Nat))] (ie ?_)))))
  exact ZO ⟨k+1,ob,rfl,rfl,rfl⟩ (wk [1,1] (fw (fr (ZQ k fl))))
 refine ax 0 (ar (ir 1 [(6,.b false)] (ie ?_)))
 exact Zb (r1 [] ⟨false,rfl,rfl⟩)
theorem Sl (n:Zx) (b:Z6) (t:Int) (mq:Nat) (hn:Xd n:=by exact ob) (hf:fB n.decls n.routines.length mq b:=by exact ob) (hz:b.sz<=1000000:=by exact ob):Zi Tryz.prog 199 [ZD n,Zs b,.i t] [] (fun r h=>∃(wr:Bool),r=.b wr/\h=[]):=by
 have key:∀k:Nat,∀(b2:Z6) (t:Int) (m2:Nat),(fB n.decls n.routines.length m2 b2)->(b2.sz<=1000000)->(b2.sz<k)->Zi Tryz.prog 199 [ZD n,Zs b2,.i t] [] (fun r h=>∃(wr:Bool),r=.b wr/\h=[]):=by
  intro k
  induction k with
  | zero=>intro b2 t m2 h1 h2 h3;omega
  | succ k ih=>intro b2 t m2 h1 h2 h3;exact Sm n b2 t m2 hn h1 h2 fun b3 t3 m3 q1 q2 q3=>ih b3 t3 m3 q1 q2 om
 exact key (b.sz+1) b t mq hf hz om
theorem SC (n:Zx) (rt:Yb) (i:Nat) (qz:Nat) (hn:FN n qz:=by exact ob) (hqz:qz<=100000:=by exact ob) (hr:n.routines[i]? = some rt:=by exact ob):Zi Tryz.prog 158 [ZD n,.i i] [] (fun r h=>∃(xs:List Int),r=Z0 xs/\h=[]/\xs.length<=rt.lent.length/\∀v∈xs,v∈rt.lent):=by
 have hok:=FN.ok hn
 have hrl:=hn.lent rt (Y7 hr)
 have hrb:=hn.body rt (Y7 hr)
 obtain ⟨hil,_⟩:=XM.1 hr
 have hnl:=hn.len
 refine ZK 50 Tryz.func158 (ar (iA (ZU n) ?_))
 intro b1
 refine ir 1 [(1,.i i),(2,.p b1 0)] (ie (ar (iL (Z8 []) 0 1 ?_)))
 intro v1
 refine Z1 1 5 (Z7 [] v1) (ie (aq (ar (Z1 1 6 (.i 0) (ie (ab 0 (al (fun m F h=>∃(k:Nat) (ys:List Int) (u:Value),(k<=rt.lent.length)/\(ys.length<=k)/\(∀v∈ys,v∈rt.lent)/\F=[(1,.i i),(2,.p b1 0),(5,Z7 ys u),(6,.i k)]/\h=[.obj b1 (ZU n),.tail u 1]/\m=rt.lent.length-k) _ _ _ ⟨0,[],v1,ob,ob,(fun v hv=>by cases hv),rfl,rfl,rfl⟩ (wk [1,0] (fw (fr (Ya fl)))) ?_)))))))
 rintro m F h ⟨k,ys,u,Yj,Zp,Zy,rfl,rfl,rfl⟩
 refine aq (ar (Y2 4 (.n 8 (.i k) (.n 10 (YZ n.routines) (.n 11 (.i i) .r))) [0] [b1] (Zq (Zm none (i:Int) 5 (WB hr)) (Z1 2 14 (Z0 rt.lent) (iw (Yh rt.lent) (Z1 1 16 (.b (decide ((k:Int)<(rt.lent.length:Int)))) (ie (ZM ((k:Int)<(rt.lent.length:Int)) (fun Ze=>?_) (fun Ze=>?_)))))))))
 ·refine ak (aq (ab 1 (aD 18 (Y6 14 18 [0,1,2,3] (.n 19 (ZD n) (.n 21 (YZ n.routines) (.n 22 (.i i) .r))) [0,0] [b1,b1] (dx 4 (Zm none (i:Int) 5 (WB hr)) (Y6 8 13 [5,6,7,8,9] (.n 25 (Zs rt.body) (.n 27 (YZ n.routines) (.n 28 (.i i) .r))) [0] [b1] (dx 10 (Zm none (i:Int) 5 (WB hr)) (Y0 4 7 [11,12,13] (.n 31 (Z0 rt.lent) (.n 32 (.i k) .r)) ?_))))))))
  obtain ⟨x1,Z3⟩:=Zr (xs:=rt.lent) (j:=k) om
  refine dx 14 (Zm none (k:Int) 1 (Y4 Z3)) (ZZ 2 3 [15] 34 (.i x1) (Z9 16 (dc 16 [] [] [] (Sl n rt.body x1 rt.params.length (hn:=hok) (hf:=hrb.1)) ?_)))
  rintro _ _ ⟨wr1,rfl,rfl⟩
  refine ZZ 0 1 [17] 36 (.b (!wr1)) (de (ac (!wr1) (p:=¬(wr1=true)) (Yw Iff.rfl) (fun Zk=>?_) (fun Zk=>?_)))
  ·refine az (Y2 4 (.n 37 (Z7 ys u) (.n 39 (YZ n.routines) (.n 40 (.i i) .r))) [0] [b1] (Zq (Zm none (i:Int) 5 (WB hr)) (Yq 3 43 (Z0 rt.lent) 44 (.i k) (Zq (Zm none (k:Int) 1 (Y4 Z3)) (Z1 1 46 (.i x1) (iL (Z8 [x1]) 1 1 ?_))))))
   intro v2
   refine Z5 0 (.n 47 (Z0 [x1]) (.p .r)) (ip 2 (Z8 (ys++[x1])) (Z8 ys) (Z8 [x1]) u none 1 (YF _) (YF _) (XX _) (by simp<;>omega) (by simp [XW,Z8]) ?_)
   intro v3
   refine ir 1 [(1,.i i),(2,.p b1 0),(5,Z7 (ys++[x1]) v3),(6,.i k)] (ie (az (Z1 1 17 (.i k) (ZL k (Z5 1 (.n 6 (.i (k+1:Nat)) (.p (.d (.k (.k (.k .z)))))) (ie ?_))))))
   exact ZO ⟨k+1,(ys++[x1]),v3,ob,ob,(Xp Zy (Y7 Z3)),rfl,rfl,rfl⟩ (wk [2,0] (fw (fr (ZQ k fl))))
  refine ak (az (Z1 1 17 (.i k) (ZL k (ir 1 [(1,.i i),(2,.p b1 0),(5,Z7 ys u),(6,.i (k+1:Nat))] (ie ?_)))))
  exact ZO ⟨k+1,ys,u,ob,ob,ob,rfl,rfl,rfl⟩ (wk [0,0] (fw (fr (ZQ k fl))))
 refine ax 0 (ar (ir 2 [(4,Z7 ys u)] (ie ?_)))
 exact Zb (r2 [] [Z7 ys u] ⟨ys,rfl,rfl,⟨by omega,Zy⟩⟩ (Zg.forget _ _))
theorem Z6o (s:Z4) (ih:∀(b2:Z6),(b2.sz<s.sz)->(b2.sz<=1000000000)->Zi Tryz.prog 86 [Zs b2] [] (fun r h=>r=Zs b2/\h=[])) (hz:s.sz<=1000000000):Zi Tryz.prog 127 [Y3 s] [] (fun r h=>r=Y3 s/\h=[]):=by
 have hkz:=Uz s
 have haz:=Qg s
 refine ZK 33 Tryz.func127 (ar (iA (Yg s) ?_))
 intro b1
 refine iA [.i 0,.i 0,.i 0,nl,nl] ?_
 intro b2
 refine ie (ar (iL (YH []) 0 2 ?_))
 intro v1
 refine ir 1 [(1,.p b1 0),(2,.p b2 0),(3,X4 [] v1)] (ie (aq (ar (Z1 1 4 (.i 0) (ie (ab 0 (al (fun m F h=>∃(k:Nat) (v:Value),(k<=s.kids.length)/\F=[(1,.p b1 0),(2,.p b2 0),(3,X4 (s.kids.take k) v),(4,.i k)]/\h=[.obj b2 [.i 0,.i 0,.i 0,nl,nl],.obj b1 (Yg s),.tail v 2]/\m=s.kids.length-k) _ _ _ ⟨0,v1,ob,rfl,rfl,rfl⟩ (wk [1,1,0] (fw (fc (x:=X4 [] v1) (Zg.slh _ (Yx YH rfl)) (Ya fl)))) ?_)))))))
 rintro m F h ⟨k,v,Yj,rfl,rfl,rfl⟩
 refine aq (ar (ZY 3 6 (.i k) 8 (Yu s.kids) [1] [b1] (iw (VG s.kids) (Z1 1 10 (.b (decide ((k:Int)<(s.kids.length:Int)))) (ie (ZM ((k:Int)<(s.kids.length:Int)) (fun Ze=>?_) (fun Ze=>?_)))))))
 ·refine ak (aq (ab 1 (az (Y2 4 (.n 13 (X4 (s.kids.take k) v) (.n 15 (Yu s.kids) (.n 16 (.i k) .r))) [1] [b1] ?_))))
  obtain ⟨x1,Z3⟩:=Zr (xs:=s.kids) (j:=k) om
  have hks:=Uy Z3
  refine Zq (Zm none (k:Int) 2 (U5 Z3)) (Z1 1 18 (Zs x1) (ZA [] (ih x1 ob ob) (iL [Zs x1] 1 2 ?_)))
  intro v2
  refine Z5 0 (.n 20 (.sl [Zs x1] none) (.p .r)) (ip 3 (YH (s.kids.take (k+1))) (YH (s.kids.take k)) [Zs x1] v none 2 (T7 _) (TJ rfl) rfl (by simp<;>omega) (by rw [WM Z3];simp [Ur]) ?_)
  intro v3
  refine ir 1 [(1,.p b1 0),(2,.p b2 0),(3,X4 (s.kids.take (k+1)) v3),(4,.i k)] (ie (az (Z1 1 11 (.i k) (ZL k (Z5 1 (.n 4 (.i (k+1:Nat)) (.p (.d (.k (.k (.k .z)))))) (ie ?_))))))
  exact ZO ⟨k+1,v3,ob,rfl,rfl,rfl⟩ (wk [2,2,0] (fw (fr (ZQ k fl))))
 refine ax 0 (aD 12 (W2 3 12 [0,1,2,3,4,5,6,7,9] [(2,.p b2 0),(23,.i s.op),(25,.i s.num),(27,.i s.into),(29,Z0 s.args),(31,X4 (s.kids.take k) v)] [1,1,1,1] [b1,b1,b1,b1] (Z9 8 (dc 8 [] [1,1,1] [b1,b1,b1] (VP s.args) ?_))))
 rintro _ _ ⟨v4,rfl,rfl⟩
 refine ZZ 1 2 [10] 32 (.agg [.i s.op,.i s.num,.i s.into,Z7 s.args v4,X4 (s.kids.take k) v]) (Z9 11 (YL 11 1 [] [] b2 [.i s.op,.i s.num,.i s.into,Z7 s.args v4,X4 (s.kids.take k) v] (de ?_)))
 exact Zb (r3 [] [.agg [.i s.op,.i s.num,.i s.into,Z7 s.args v4,X4 (s.kids.take k) v]] [0] [(b2,b2)] ⟨rfl,rfl⟩ (Zg.agg (.cons (lr _) (.cons (lr _) (.cons (lr _) (.cons (Zg.forget _ _) (.cons (Zg.sl _ (Yx YH (by rw [Vg om]))) .nil)))))))
theorem Z6n (b:Z6) (ih:∀(s2:Z4),(s2.sz<b.sz)->(s2.sz<=1000000000)->Zi Tryz.prog 127 [Y3 s2] [] (fun r h=>r=Y3 s2/\h=[])) (hz:b.sz<=1000000000):Zi Tryz.prog 86 [Zs b] [] (fun r h=>r=Zs b/\h=[]):=by
 have hbz:=Vf b
 refine ZK 28 Tryz.func86 (ar (iA (Yk b) ?_))
 intro b1
 refine iA [nl,.i 0] ?_
 intro b2
 refine ie (ar (iL (Zv []) 0 5 ?_))
 intro v1
 refine iR 3 [(1,.p b1 0),(2,.p b2 0),(8,.agg [ZX [] v1,.i b.result])] [2] [b1] (iA [nl,.i 0] ?_)
 intro b3
 refine ZF 0 b3 [ZX [] v1,.i b.result] (ie (aq (ar (Z1 1 4 (.i 0) (ie (ab 0 (al (fun m F h=>∃(k:Nat) (v:Value),(k<=b.steps.length)/\F=[(1,.p b1 0),(2,.p b2 0),(3,.p b3 0),(4,.i k)]/\h=[.obj b3 [ZX (b.steps.take k) v,.i b.result],.obj b2 [nl,.i 0],.obj b1 (Yk b),.tail v 5]/\m=b.steps.length-k) _ _ _ ⟨0,v1,ob,rfl,rfl,rfl⟩ (wk [0,1,1,0] (fw (fr (Ya fl)))) ?_)))))))
 rintro m F h ⟨k,v,Yj,rfl,rfl,rfl⟩
 refine aq (ar (ZY 3 9 (.i k) 11 (Ye b.steps) [2] [b1] (iw (Vl b.steps) (Z1 1 13 (.b (decide ((k:Int)<(b.steps.length:Int)))) (ie (ZM ((k:Int)<(b.steps.length:Int)) (fun Ze=>?_) (fun Ze=>?_)))))))
 ·refine ak (aq (ab 1 (aE 12 (Y6 7 12 [0,1,2,3,4] (.n 17 (ZX (b.steps.take k) v) (.n 19 (Ye b.steps) (.n 20 (.i k) .r))) [0,2] [b3,b1] ?_))))
  obtain ⟨x1,Z3⟩:=Zr (xs:=b.steps) (j:=k) om
  have hss:=QY Z3
  refine dx 5 (Zm none (k:Int) 5 (Wa Z3)) (ZZ 5 6 [6] 22 (Y3 x1) (Z9 7 (Yv 7 [] [0] [b3] (ih x1 ob ob) (Z9 8 (dL 8 [0] [b3] [Y3 x1] 1 5 ?_)))))
  intro v2
  refine Y0 3 3 [] (.n 24 (.sl [Y3 x1] none) (.p .r)) (Z9 9 (dp 9 4 [] [] (Zv (b.steps.take (k+1))) (Zv (b.steps.take k)) [Y3 x1] v none 5 (X8 _) (TJ rfl) rfl (by simp<;>omega) (by rw [WM Z3];simp [Vd]) ?_))
  intro v3
  refine ZZ 1 2 [10] 26 (.p b3 0) (Z9 11 (YL 11 2 [] [] b3 [ZX (b.steps.take (k+1)) v3,.i b.result] (de (az (Z1 1 14 (.i k) (ZL k (ir 1 [(1,.p b1 0),(2,.p b2 0),(3,.p b3 0),(4,.i (k+1:Nat))] (ie ?_))))))))
  exact ZO ⟨k+1,v3,ob,rfl,rfl,rfl⟩ (wk [0,2,2,0] (fw (fr (ZQ k fl))))
 refine ax 0 (ar (Yl 1 27 (.agg [ZX (b.steps.take k) v,.i b.result]) [0] [b3] (ZF 1 b2 [ZX (b.steps.take k) v,.i b.result] (ie ?_))))
 exact Zb (r3 [] [.agg [ZX (b.steps.take k) v,.i b.result]] [0] [(b2,b2)] ⟨rfl,rfl⟩ (Zg.agg (.cons (Zg.sl _ (Yx Zv (by rw [Vg om]))) (.cons (lr _) .nil))))
theorem NG (k:Nat):(∀(s:Z4),(s.sz<=k)->(s.sz<=1000000000)->Zi Tryz.prog 127 [Y3 s] [] (fun r h=>r=Y3 s/\h=[]))/\(∀(b:Z6),(b.sz<=k)->(b.sz<=1000000000)->Zi Tryz.prog 86 [Zs b] [] (fun r h=>r=Zs b/\h=[])):=by
 induction k with
 | zero=>exact ⟨fun s h=>by have:=s.sz_pos;omega,fun s h=>by have:=s.sz_pos;omega⟩
 | succ k ih=>exact ⟨fun s h hz=>Z6o s (fun b2 h2 h3=>ih.2 b2 om h3) hz,fun b h hz=>Z6n b (fun s2 h2 h3=>ih.1 s2 om h3) hz⟩
theorem NF (s:Z4) (hz:s.sz<=1000000000:=by exact ob):Zi Tryz.prog 127 [Y3 s] [] (fun r h=>r=Y3 s/\h=[]):=(NG s.sz).1 s (X6 _) hz
theorem EE (b:Z6) (hz:b.sz<=1000000000:=by exact ob):Zi Tryz.prog 86 [Zs b] [] (fun r h=>r=Zs b/\h=[]):=(NG b.sz).2 b (X6 _) hz
theorem DM (n:Zx) (ls:List (List Int)) (qz:Nat) (hn:FO n qz Wr:=by exact ob) (hqz:qz<=100000:=by exact ob) (hls:LC n n.routines.length ls:=by exact ob):Zi Tryz.prog 156 [ZD n,WD ls] [] (fun r h=>∃(n2:Zx),r=ZD n2/\h=[]/\FO n2 qz Wr/\n2.routines.length=n.routines.length):=by
 have hnl:=hn.fn.len
 have Xu:=hn.fn.decls.ok
 have hll:=hls.len
 refine ZK 45 Tryz.func156 (ar (iA (ZU n) ?_))
 intro b1
 refine iA [nl,nl] ?_
 intro b2
 refine ie (ar (iR 2 [(1,WD ls),(2,.p b1 0),(4,.p b2 0),(9,Zd n.decls)] [1] [b1] (ZA [] (B7 n.decls) (iL (YN []) 0 5 ?_))))
 intro v1
 refine Z1 1 12 (.agg [Zd n.decls,Xg [] v1]) (iA [nl,nl] ?_)
 intro b3
 refine ZF 0 b3 [Zd n.decls,Xg [] v1] (ie (aq (ar (Z1 1 6 (.i 0) (ie (ab 0 (al (fun m F h=>∃(k:Nat) (rs:List Yb) (u:Value),(k<=n.routines.length)/\(rs.length=k)/\(∀r∈rs,RF n.decls n.routines.length qz Wr r)/\F=[(1,WD ls),(2,.p b1 0),(4,.p b2 0),(5,.p b3 0),(6,.i k)]/\h=[.obj b3 [Zd n.decls,Xg rs u],.obj b2 [nl,nl],.obj b1 (ZU n),.tail u 5]/\m=n.routines.length-k) _ _ _ ⟨0,[],v1,ob,ob,(fun r hr=>by cases hr),rfl,rfl,rfl⟩ (wk [0,1,1,0] (fq (Ya fl))) ?_)))))))
 rintro m F h ⟨k,rs,u,Yj,Zp,Zy,rfl,rfl,rfl⟩
 refine aq (ar (ZY 3 13 (.i k) 15 (YZ n.routines) [2] [b1] (iw (VV n.routines) (Z1 1 17 (.b (decide ((k:Int)<(n.routines.length:Int)))) (ie (ZM ((k:Int)<(n.routines.length:Int)) (fun Ze=>?_) (fun Ze=>?_)))))))
 ·refine ak (aq (ab 1 (ar (ZY 3 21 (YZ n.routines) 22 (.i k) [2] [b1] ?_))))
  obtain ⟨x1,Z3⟩:=Zr (xs:=n.routines) (j:=k) om
  have hrf:=hn.rf (Y7 Z3)
  have hrp:=hn.fn.ok.params_at Z3
  have hrz:=hrf.body.2
  refine Zq (Zm none (k:Int) 5 (WB Z3)) (Z1 1 24 (WS x1) (iA [nl,nl,.i 0,nl,.i 0] ?_))
  intro b4
  refine ZF 0 b4 (VW x1) (ie (aE 20 (Y6 14 20 [0,1,2,3,5,6] (.n 26 (Xg rs u) (.n 28 (Z0 x1.params) (.n 30 (WD ls) (.n 31 (.i k) .r)))) [1,0] [b3,b4] ?_)))
  obtain ⟨x2,Zt⟩:=Zr (xs:=ls) (j:=k) om
  have hlc:=hls.at Zt Z3
  refine dx 7 (Zm none (k:Int) 1 (Dv Zt)) (Y6 8 13 [8,10,11,12,13] (.n 33 (Z0 x2) (.n 36 (.i x1.result) (.n 38 (Zs x1.body) .r))) [0,0] [b4,b4] (Z9 4 (dc 4 [] [0,0,1] [b4,b4,b3] (VP x1.params) ?_)))
  rintro _ _ ⟨v2,rfl,rfl⟩
  refine Z9 9 (dc 9 [] [0,0,1] [b4,b4,b3] (VP x2) ?_)
  rintro _ _ ⟨v3,rfl,rfl⟩
  refine Z9 14 (Yv 14 [] [0,1] [b4,b3] (EE x1.body) (ZZ 4 5 [15] 40 (.agg [Z0 x1.params,Z0 x2,.i x1.result,Ye x1.body.steps,.i x1.body.result]) (Z9 16 (dL 16 [1] [b3] (YN [Yb.mk x1.params x2 x1.result (Z6.mk x1.body.steps x1.body.result)]) 1 5 ?_))))
  intro v4
  refine Y0 3 3 [] (.n 41 (YZ [Yb.mk x1.params x2 x1.result (Z6.mk x1.body.steps x1.body.result)]) (.p .r)) (Z9 17 (dp 17 7 [] [] (YN (rs++[Yb.mk x1.params x2 x1.result (Z6.mk x1.body.steps x1.body.result)])) (YN rs) (YN [Yb.mk x1.params x2 x1.result (Z6.mk x1.body.steps x1.body.result)]) u none 5 (Ue _) (Ue _) (JX _) (by simp<;>omega) (by simp [AM,YN]) ?_))
  intro v5
  refine ZZ 1 2 [18] 43 (.p b3 1) (Z9 19 (YL 19 5 [] [] b3 [Zd n.decls,Xg (rs++[Yb.mk x1.params x2 x1.result (Z6.mk x1.body.steps x1.body.result)]) v5] (de (az (Z1 1 18 (.i k) (ZL k (ir 1 [(1,WD ls),(2,.p b1 0),(4,.p b2 0),(5,.p b3 0),(6,.i (k+1:Nat))] (ie ?_))))))))
  exact ZO ⟨k+1,(rs++[Yb.mk x1.params x2 x1.result (Z6.mk x1.body.steps x1.body.result)]),v5,ob,ob,(Xp Zy (by rw [Z6.eta];exact hrf.lend hlc.1 hlc.2)),rfl,rfl,rfl⟩ (wk [0,5,5,0] (fq (ZQ k fl)))
 refine ax 0 (ar (Yl 1 44 (.agg [Zd n.decls,Xg rs u]) [0] [b3] (ZF 1 b2 [Zd n.decls,Xg rs u] (ie ?_))))
 exact Zb (r3 [] [.agg [Zd n.decls,Xg rs u]] [0] [(b2,b2)] ⟨(Zx.mk n.decls rs),rfl,rfl,(FO.fin hn.fn om Zy)⟩ (Zg.agg (.cons (lr _) (.cons (Zg.forget _ _) .nil))))
theorem SN (n:Zx) (qz:Nat) (hn:FO n qz Wr:=by exact ob) (hqz:qz<=100000:=by exact ob):Zi Tryz.prog 121 [ZD n] [] (fun r h=>∃(n2:Zx),r=ZD n2/\h=[]/\FO n2 qz Wr):=by
 refine ZK 33 Tryz.func121 (ar (iA (ZU n) ?_))
 intro b1
 refine iA [nl,nl] ?_
 intro b2
 refine ie (aD 6 (W2 4 6 [0,1] [(2,.p b2 0),(7,ZD n),(8,ZD n)] [1,1] [b1,b1] (dK (fun F h=>∃(n21:Zx) (b3:Nat) (xs1:List (List Int)),(LC n n.routines.length xs1)/\(FO n21 qz Wr/\n21.routines.length=n.routines.length)/\F=[(2,.p b2 0),(3,.p b3 0)]/\h=[.obj b3 (ZU n21),.obj b2 [nl,nl],.obj b1 (ZU n)]) ?_ ?_)))
 ·refine Vj 2 4 ?_ ?_
  ·refine dc 2 [] [1] [b1] (L7 n qz (hn:=hn.fn)) ?_
   rintro _ _ ⟨xs1,rfl,rfl,ZP⟩
   refine Vj 3 4 ?_ ?_
   ·refine dc 3 [] [] [] (DM n xs1 qz (hls:=(by first|assumption|(rw [<-hjl];exact XH)))) ?_
    rintro _ _ ⟨n21,rfl,rfl,Y1⟩
    have hwl:=Y1
    refine Z9 4 (dA 4 [] [] [nl,nl] ?_)
    intro b3
    refine Z9 5 (YL 5 0 [] [] b3 (ZU n21) (de ?_))
    exact ZW ⟨_,b3,_,(by assumption),(by assumption),rfl,rfl⟩ (ZT 3 fl)
   refine dA 4 [1] [b1] [nl,nl] ?_
   intro b4
   refine Z9 3 (dc 3 [] [] [] (DM n xs1 qz (hls:=(by first|assumption|(rw [<-hjl];exact XH)))) ?_)
   rintro _ _ ⟨n22,rfl,rfl,Yy⟩
   have hwl:=Yy
   refine Z9 5 (YL 5 0 [] [] b4 (ZU n22) (de ?_))
   exact ZW ⟨_,b4,_,(by assumption),(by assumption),rfl,rfl⟩ (ZT 3 fl)
  refine dA 4 [1,1] [b1,b1] [nl,nl] ?_
  intro b5
  refine Z9 2 (dc 2 [] [2] [b1] (L7 n qz (hn:=hn.fn)) ?_)
  rintro _ _ ⟨xs2,rfl,rfl,YK⟩
  refine Z9 3 (dc 3 [] [] [] (DM n xs2 qz (hls:=(by first|assumption|(rw [<-hjl];exact XH)))) ?_)
  rintro _ _ ⟨n23,rfl,rfl,X0⟩
  have hwl:=X0
  refine Z9 5 (YL 5 0 [] [] b5 (ZU n23) (de ?_))
  exact ZW ⟨_,b5,_,(by assumption),(by assumption),rfl,rfl⟩ (ZT 3 fl)
 rintro F h ⟨n21,b3,xs1,ZP,Y1,rfl,rfl⟩
 have hwl:=Y1
 refine aq (ar (ir 1 [(2,.p b2 0),(3,.p b3 0),(4,.i 0)] (ie (ab 0 (al (fun m F h=>∃(k:Nat) (nn:Zx),(k<=13)/\(FO nn qz Wr)/\F=[(2,.p b2 0),(3,.p b3 0),(4,.i k)]/\h=[.obj b3 (ZU nn),.obj b2 [nl,nl]]/\m=13-k) _ _ _ ⟨0,n21,ob,hwl.1,rfl,rfl,rfl⟩ (wk [0,0] (fw (Ya fl))) ?_)))))
 rintro m F h ⟨k,nn,Yj,Zp,rfl,rfl,rfl⟩
 refine aq (ar (Z1 2 12 (.b (decide ((k:Int)<=12))) (ie (ZM ((k:Int)<=12) (fun Ze=>?_) (fun Ze=>?_)))))
 ·refine ak (aq (ab 1 (ar (iL (W7 []) 0 1 ?_))))
  intro v1
  refine Z1 1 5 (T2 [] v1) (ie (aq (ar (Z1 1 6 (.i 0) (ie (ab 2 (al (fun m F h=>∃(j:Nat) (ls:List (List Int)) (u:Value),(j<=nn.routines.length)/\(LC nn j ls)/\(ls.length=j)/\F=[(2,.p b2 0),(3,.p b3 0),(4,.i k),(5,T2 ls u),(6,.i j)]/\h=[.obj b3 (ZU nn),.obj b2 [nl,nl],.tail u 1]/\m=nn.routines.length-j) _ _ _ ⟨0,[],v1,ob,LC.nil,ob,rfl,rfl,rfl⟩ (wk [1,1,0] (fq (Ya fl))) ?_)))))))
  rintro m F h ⟨j,ls,u,VS,XH,XE,rfl,rfl,rfl⟩
  refine aq (ar (ZY 3 16 (.i j) 18 (YZ nn.routines) [0] [b3] (iw (VV nn.routines) (Z1 1 20 (.b (decide ((j:Int)<(nn.routines.length:Int)))) (ie (ZM ((j:Int)<(nn.routines.length:Int)) (fun Zk=>?_) (fun Zk=>?_)))))))
  ·obtain ⟨rt,hrt⟩:=Zr (xs:=nn.routines) (j:=j) om
   have hrl:=(Zp.rf (Y7 hrt)).lent
   have hnl4:=Zp.fn.len
   refine ak (aq (ab 3 (az (Y2 3 (.n 23 (T2 ls u) (.n 24 (ZD nn) (.n 25 (.i j) .r))) [0] [b3] (ic [] (SC nn rt j qz (hn:=Zp.fn) (hr:=hrt)) ?_)))))
   rintro _ _ ⟨xs3,rfl,rfl,XB⟩
   have hkl:=XB
   refine iL (W7 [xs3]) 1 1 ?_
   intro v2
   refine Z5 0 (.n 27 (WD [xs3]) (.p .r)) (ip 3 (W7 (ls++[xs3])) (W7 ls) (W7 [xs3]) u none 1 (JW _) (JW _) (Dx _) (by simp<;>omega) (by simp [FK,W7]) ?_)
   intro v3
   refine Z5 1 (.n 5 (T2 (ls++[xs3]) v3) (.p (.d (.p (.d (.d (.d (.d (.p (.d (.d (.k (.k (.k (.d .r))))))))))))))) (ie (az (Z1 1 21 (.i j) (ZL j (Z5 1 (.n 6 (.i (j+1:Nat)) (.p (.d (.w .z)))) (ie ?_))))))
   exact ZO ⟨j+1,(ls++[xs3]),v3,ob,(XH.snoc om (fun r hr v hv=>by rw [hrt] at hr;cases hr;exact hrl.2 v (hkl.2 v hv))),ob,rfl,rfl,rfl⟩ (wk [2,2,0] (fq (ZQ j fl)))
  have hjl:j=nn.routines.length:=by omega
  refine ax 2 (az (ZY 2 29 (ZD nn) 30 (WD ls) [0] [b3] (ic [] (DM nn ls qz (hls:=(by first|assumption|(rw [<-hjl];exact XH)))) ?_)))
  rintro _ _ ⟨n24,rfl,rfl,Wk⟩
  have hwl:=Wk
  refine ZF 0 b3 (ZU n24) (ie (az (Z1 1 13 (.i k) (ZL k (ir 1 [(2,.p b2 0),(3,.p b3 0),(4,.i (k+1:Nat))] (ie ?_))))))
  exact ZO ⟨k+1,n24,ob,hwl.1,rfl,rfl,rfl⟩ (wk [0,0] (fw (ZQ k fl)))
 refine ax 0 (ar (Yl 1 32 (ZD nn) [0] [b3] (ZF 1 b2 (ZU nn) (ie ?_))))
 exact Zb (r3 [] [ZD nn] [0] [(b2,b2)] ⟨nn,rfl,rfl,(by first|exact Zp|exact hwl.1)⟩ (lr _))
theorem Cq (xs:List Int) (y:Int) (hl:xs.length<=1000000000:=by exact ob):Zi Tryz.prog 118 [Z0 xs,.i y] [] (fun r h=>∃(v:Value),r=Z7 (V5 xs y) v/\h=[.tail v 1]):=by
 refine ZK 49 Tryz.func118 (ar (ir 1 [(0,Z0 xs),(1,.i y)] (ie (ar (iL (Z8 []) 0 1 ?_)))))
 intro v1
 refine Z1 1 5 (Z7 [] v1) (ie (ar (Z1 1 6 (.b false) (ie (aq (ar (Z1 1 7 (.i 0) (ie (ab 0 (al (fun m F h=>∃(k:Nat) (acc:List Int) (d:Bool) (v:Value),(k<=xs.length)/\(acc.length<=k+(if d=true then 1 else 0))/\(acc++Tv d (xs.drop k) y=V5 xs y)/\F=[(0,Z0 xs),(1,.i y),(5,Z7 acc v),(6,.b d),(7,.i k)]/\h=[.tail v 1]/\m=xs.length-k) _ _ _ ⟨0,[],false,v1,ob,(by simp),rfl,rfl,rfl,rfl⟩ (wk [0] (fq (Ya fl))) ?_))))))))))
 rintro m F h ⟨k,acc,d,v,Yj,Zp,Zy,rfl,rfl,rfl⟩
 refine aq (ar (Yq 2 9 (.i k) 10 (Z0 xs) (iw (Yh xs) (Z1 1 12 (.b (decide ((k:Int)<(xs.length:Int)))) (ie (ZM ((k:Int)<(xs.length:Int)) (fun Ze=>?_) (fun Ze=>?_)))))))
 ·obtain ⟨x1,Z3⟩:=Zr (xs:=xs) (j:=k) om
  have hil:acc.length<=k+1:=Vh Zp (by split<;>omega)
  refine ak (aq (ab 1 (aq (ar (Xo [(0,Z0 xs),(1,.i y),(5,Z7 acc v),(6,.b d),(7,.i k),(24,.b ((!d)&&(decide (x1>=y))))] [.tail v 1] ?_ ?_)))))
  ·refine ir 3 [(0,Z0 xs),(1,.i y),(5,Z7 acc v),(6,.b d),(7,.i k),(17,.b (!d))] (ib (b:=(!d)) 17 (fun Za=>?_) (fun Za=>?_))
   ·have ZP:¬(d=true):=((Yw Iff.rfl)).1 Za
    refine Z5 2 (.n 18 (Z0 xs) (.n 19 (.i k) (.w (.k (.k .z))))) (Zq (Zm none (k:Int) 1 (Y4 Z3)) (Z1 4 24 (.b (decide (x1>=y))) (ie ?_)))
    exact wk [0] (fq (fr (Zu (decide (x1>=y)) Za fl)))
   have Y1:¬(¬(d=true)):=ZI (Yw Iff.rfl) Za
   refine Z5 7 (.n 24 (.b false) (.d (.w (.k .z)))) (ie ?_)
   exact wk [0] (fq (fr (Zu false Za fl)))
  refine XI (fun F h=>∃(acc2:List Int) (d2:Bool) (w:Value),((acc2=acc/\d2=d/\(d=true∨¬x1>=y))∨(acc2=acc++[y]/\d2=true/\¬d=true/\x1>y)∨(acc2=acc/\d2=true/\¬d=true/\x1=y))/\(acc2.length<=k+(if d2=true then 1 else 0))/\(acc2.length<=k+1)/\F=[(0,Z0 xs),(1,.i y),(5,Z7 acc2 w),(6,.b d2),(7,.i k)]/\h=[.tail w 1]) ?_ ?_
  ·refine ac ((!d)&&(decide (x1>=y))) (p:=(¬(d=true))/\(x1>=y)) (YD (Yw Iff.rfl) dq) (fun Zk=>?_) (fun Zk=>?_)
   ·refine aq (ar (ir 2 [(0,Z0 xs),(1,.i y),(5,Z7 acc v),(7,.i k),(25,Z0 xs),(26,.i k)] (Zq (Zm none (k:Int) 1 (Y4 Z3)) (Z1 3 30 (.b (decide (x1>y))) (ie (XI (fun F h=>∃(w3:Value),F=[(0,Z0 xs),(1,.i y),(5,Z7 (if x1>y then (acc++[y]) else acc) w3),(7,.i k)]/\h=[.tail w3 1]) ?_ ?_))))))
    ·refine ZM (x1>y) (fun ZG=>?_) (fun ZG=>?_)
     ·refine az (ir 2 [(0,Z0 xs),(1,.i y),(7,.i k),(31,Z7 acc v),(32,.i y)] (iL (Z8 [y]) 1 1 ?_))
      intro v2
      refine Z5 0 (.n 33 (Z0 [y]) (.p .r)) (ip 1 (Z8 (acc++[y])) (Z8 acc) (Z8 [y]) v none 1 (YF _) (YF _) (XX _) (by simp<;>omega) (by simp [XW,Z8]) ?_)
      intro v3
      refine Z1 1 5 (Z7 (acc++[y]) v3) (ie ?_)
      exact ZW ⟨v3,rfl,rfl⟩ (wk [0] (fw (fc (x:=Z7 (acc++[y]) v3) (Zg.slh _ (Yx Z8 (by first|rfl|(rw [Zo ZG])|(rw [Zc ZG])|(simp [ZG];done)|(rw [Xl];simp [ZG];done)|omega))) fl)))
     refine ak ?_
     exact ZW ⟨v,rfl,rfl⟩ (wk [0] (fw (fc (x:=Z7 acc v) (Zg.slh _ (Yx Z8 (by first|rfl|(rw [Zo ZG])|(rw [Zc ZG])|(simp [ZG];done)|(rw [Xl];simp [ZG];done)|omega))) fl)))
    rintro F h ⟨w3,rfl,rfl⟩
    refine az (ir 1 [(0,Z0 xs),(1,.i y),(5,Z7 (if x1>y then (acc++[y]) else acc) w3),(6,.b true),(7,.i k)] (ie ?_))
    exact ZW ⟨(if x1>y then (acc++[y]) else acc),true,w3,(if h:x1>y then (by rw [Zo h];exact .inr (.inl ⟨rfl,rfl,Zk.1,h⟩)) else (by rw [Zc h];exact .inr (.inr ⟨rfl,rfl,Zk.1,by have:=Zk.2;omega⟩))),(by have h1:=Zp;rw [Zc Zk.1] at h1;split<;>(simp<;>omega)),(by have h1:=Zp;rw [Zc Zk.1] at h1;split<;>(simp<;>omega)),rfl,rfl⟩ (wk [0] fl)
   refine ak ?_
   exact ZW ⟨acc,d,v,(.inl ⟨rfl,rfl,by by_cases q:d=true;exact .inl q;exact .inr (fun z=>Zk ⟨q,z⟩)⟩),Zp,hil,rfl,rfl⟩ (wk [0] fl)
  rintro F h ⟨acc2,d2,w,Vy,Jo,Gs,rfl,rfl⟩
  refine az (ir 3 [(0,Z0 xs),(1,.i y),(6,.b d2),(7,.i k),(35,Z7 acc2 w),(36,Z0 xs),(37,.i k)] (Zq (Zm none (k:Int) 1 (Y4 Z3)) (Z1 1 39 (.i x1) (iL (Z8 [x1]) 1 1 ?_))))
  intro v4
  refine Z5 0 (.n 40 (Z0 [x1]) (.p .r)) (ip 1 (Z8 (acc2++[x1])) (Z8 acc2) (Z8 [x1]) w none 1 (YF _) (YF _) (XX _) (by simp<;>omega) (by simp [XW,Z8]) ?_)
  intro v5
  refine Z1 1 5 (Z7 (acc2++[x1]) v5) (ie (az (Z1 1 13 (.i k) (ZL k (Z5 1 (.n 7 (.i (k+1:Nat)) (.p (.d (.k (.p (.d (.d (.p (.k (.k (.k .z))))))))))) (ie ?_))))))
  exact ZO ⟨k+1,(acc2++[x1]),d2,v5,ob,(by simp only [Yz,YS,Xm];omega),(Z21 Z3 Zy Vy),rfl,rfl,rfl⟩ (wk [0] (fq (ZQ k fl)))
 have hil:acc.length<=k+1:=Vh Zp (by split<;>omega)
 refine ax 0 (aq (ar (Z1 2 43 (.b (!d)) (ie (XI (fun F h=>∃(w4:Value),F=[(5,Z7 (if d=true then acc else (acc++[y])) w4)]/\h=[.tail w4 1]) ?_ ?_)))))
 ·refine ac (!d) (p:=¬(d=true)) (Yw Iff.rfl) (fun Ym=>?_) (fun Ym=>?_)
  ·refine az (ir 2 [(44,Z7 acc v),(45,.i y)] (iL (Z8 [y]) 1 1 ?_))
   intro v6
   refine Z5 0 (.n 46 (Z0 [y]) (.p .r)) (ip 1 (Z8 (acc++[y])) (Z8 acc) (Z8 [y]) v none 1 (YF _) (YF _) (XX _) (by simp<;>omega) (by simp [XW,Z8]) ?_)
   intro v7
   refine ir 1 [(5,Z7 (acc++[y]) v7)] (ie ?_)
   exact ZW ⟨v7,rfl,rfl⟩ (wk [0] (fc (x:=Z7 (acc++[y]) v7) (Zg.slh _ (Yx Z8 (by first|rfl|(rw [Zo Ym])|(rw [Zc Ym])|(simp [Ym];done)|(rw [Xl];simp [Ym];done)|omega))) fl))
  refine ak ?_
  exact ZW ⟨v,rfl,rfl⟩ (wk [0] (fc (x:=Z7 acc v) (Zg.slh _ (Yx Z8 (by first|rfl|(rw [Zo Ym])|(rw [Zc Ym])|(simp [Ym];done)|(rw [Xl];simp [Ym];done)|omega))) fl))
 rintro F h ⟨w4,rfl,rfl⟩
 refine ar (ir 2 [(4,Z7 (if d=true then acc else (acc++[y])) w4)] (ie ?_))
 exact Zb (r2 [0] [Z7 (if d=true then acc else (acc++[y])) w4] ⟨w4,rfl,rfl⟩ (Zg.slh _ (Yx Z8 (Z20 om Zy))))
theorem Lm (xs:List Int) (y:Int) (hl:xs.length<=1000000000:=by exact ob):Zi Tryz.prog 260 [Z0 xs,.i y] [] (fun r h=>∃(v:Value),r=Z7 (UR xs y) v/\h=[.tail v 1]):=by
 refine ZK 28 Tryz.func260 (ar (ir 1 [(0,Z0 xs),(1,.i y)] (ie (ar (iL (Z8 []) 0 1 ?_)))))
 intro v1
 refine Z1 1 5 (Z7 [] v1) (ie (aq (ar (Z1 1 6 (.i 0) (ie (ab 0 (al (fun m F h=>∃(k:Nat) (acc:List Int) (v:Value),(k<=xs.length)/\(acc.length<=k)/\(acc++UR (xs.drop k) y=UR xs y)/\F=[(0,Z0 xs),(1,.i y),(5,Z7 acc v),(6,.i k)]/\h=[.tail v 1]/\m=xs.length-k) _ _ _ ⟨0,[],v1,ob,ob,rfl,rfl,rfl,rfl⟩ (wk [0] (fw (fr (Ya fl)))) ?_)))))))
 rintro m F h ⟨k,acc,v,Yj,Zp,Zy,rfl,rfl,rfl⟩
 refine aq (ar (Yq 2 8 (.i k) 9 (Z0 xs) (iw (Yh xs) (Z1 1 11 (.b (decide ((k:Int)<(xs.length:Int)))) (ie (ZM ((k:Int)<(xs.length:Int)) (fun Ze=>?_) (fun Ze=>?_)))))))
 ·refine ak (aq (ab 1 (ar (Yq 2 14 (Z0 xs) 15 (.i k) ?_))))
  obtain ⟨x1,Z3⟩:=Zr (xs:=xs) (j:=k) om
  refine Zq (Zm none (k:Int) 1 (Y4 Z3)) (Z1 3 19 (.b (x1 != y)) (ie (JK (fun F h=>∃(w:Value),F=[(0,Z0 xs),(1,.i y),(5,Z7 (if x1≠y then (acc++[x1]) else acc) w),(6,.i k)]/\h=[.tail w 1]) (fun _ _=>rfl) ?_ ?_)))
  ·refine ac (x1 != y) Yi (fun Zk=>?_) (fun Zk=>?_)
   ·refine az (ir 3 [(0,Z0 xs),(1,.i y),(6,.i k),(20,Z7 acc v),(21,Z0 xs),(22,.i k)] (Zq (Zm none (k:Int) 1 (Y4 Z3)) (Z1 1 24 (.i x1) (iL (Z8 [x1]) 1 1 ?_))))
    intro v2
    refine Z5 0 (.n 25 (Z0 [x1]) (.p .r)) (ip 1 (Z8 (acc++[x1])) (Z8 acc) (Z8 [x1]) v none 1 (YF _) (YF _) (XX _) (by simp<;>omega) (by simp [XW,Z8]) ?_)
    intro v3
    refine Z1 1 5 (Z7 (acc++[x1]) v3) (ie ?_)
    exact ZW ⟨v3,rfl,rfl⟩ (wk [0] (fw (fc (x:=Z7 (acc++[x1]) v3) (Zg.slh _ (Yx Z8 (by first|rfl|(rw [Zo Zk])|(rw [Zc Zk])|(simp [Zk];done)|(rw [Xl];simp [Zk];done)|omega))) fl)))
   refine ak ?_
   exact ZW ⟨v,rfl,rfl⟩ (wk [0] (fw (fc (x:=Z7 acc v) (Zg.slh _ (Yx Z8 (by first|rfl|(rw [Zo Zk])|(rw [Zc Zk])|(simp [Zk];done)|(rw [Xl];simp [Zk];done)|omega))) fl)))
  rintro F h ⟨w,rfl,rfl⟩
  refine az (ir 1 [(0,Z0 xs),(1,.i y),(5,Z7 (if x1≠y then (acc++[x1]) else acc) w),(12,.i k)] (ZL k (Z1 1 6 (.i (k+1:Nat)) (ie ?_))))
  exact ZO ⟨k+1,(if x1≠y then (acc++[x1]) else acc),w,ob,(by split<;>(try simp)<;>omega),(Z4b Z3 Zy),rfl,rfl,rfl⟩ (wk [0] (fw (fr (ZQ k fl))))
 refine ax 0 (ar (ir 2 [(4,Z7 acc v)] (ie ?_)))
 exact Zb (r2 [0] [Z7 acc v] ⟨v,rfl,rfl⟩ (Zg.slh _ (Yx Z8 (Z4a om Zy))))
theorem Z6i (s:Z4) (q:Int) (xs:List Int) (ih:∀(b2:Z6) (q:Int) (k2:Nat) (xs2:List Int),(b2.sz<s.sz)->(k2<=b2.steps.length)->(xs2.length+b2.sz<=1000000000)->Zi Tryz.prog 83 [Zs b2,.i q,.i k2,Z0 xs2] [] (fun r h=>r=Z0 (VB q (VZ q (b2.steps.drop k2) xs2) b2.result)/\h=[])) (hz:xs.length+s.sz<=1000000000):Zi Tryz.prog 117 [Y3 s,.i q,Z0 xs] [] (fun r h=>r=Z0 (K0 q s xs)/\h=[]):=by
 have hkz:=Uz s
 have haz:=Qg s
 have hse:=s.sz_eq
 refine ZK 58 Tryz.func117 (ar (iA (Yg s) ?_))
 intro b1
 refine ir 1 [(1,.i q),(2,Z0 xs),(3,.p b1 0)] (ie (aq (ar (Yl 2 10 (.i s.op) [0] [b1] (ZA [] (Hh s.op) (ie (ac (Yf s.op) Iff.rfl (fun Ze=>?_) (fun Ze=>?_))))))))
 ·refine ar (ir 2 [(6,Z0 xs)] (ie ?_))
  exact Zb (r2 [] [Z0 xs] ⟨rfl,rfl⟩ (Zg.sl _ (Yx Z8 (by rw [Oe,Zo (by assumption)]))))
 refine ak (aq (ar (Z1 1 7 (.i 0) (ie (ab 0 (al (fun m F h=>∃(j:Nat) (ys:List Int),(j<=s.args.length)/\(ys.length<=xs.length+j)/\(TO q (s.args.drop j) ys=TO q s.args xs)/\F=[(1,.i q),(2,Z0 ys),(3,.p b1 0),(7,.i j)]/\h=[.obj b1 (Yg s)]/\m=s.args.length-j) _ _ _ ⟨0,xs,ob,ob,rfl,rfl,rfl,rfl⟩ (wk [0] (fw (fr (Ya fl)))) ?_))))))
 rintro m F h ⟨j,ys,Yj,Zp,Zy,rfl,rfl,rfl⟩
 refine aq (ar (ZY 3 13 (.i j) 15 (Z0 s.args) [0] [b1] (iw (Yh s.args) (Z1 1 17 (.b (decide ((j:Int)<(s.args.length:Int)))) (ie (ZM ((j:Int)<(s.args.length:Int)) (fun Zk=>?_) (fun Zk=>?_)))))))
 ·refine ak (aq (ab 1 (ar (ZY 3 21 (Z0 s.args) 22 (.i j) [0] [b1] ?_))))
  obtain ⟨x1,Z3⟩:=Zr (xs:=s.args) (j:=j) om
  refine Zq (Zm none (j:Int) 1 (Y4 Z3)) (Xo [(1,.i q),(2,Z0 ys),(3,.p b1 0),(7,.i j),(34,.b ((decide (x1>=0))&&(decide (x1<q))))] [.obj b1 (Yg s)] ?_ ?_)
  ·refine ir 3 [(1,.i q),(2,Z0 ys),(3,.p b1 0),(7,.i j),(26,.b (decide (x1>=0)))] (ib (b:=(decide (x1>=0))) 26 (fun Za=>?_) (fun Za=>?_))
   ·have ZP:x1>=0:=(dq).1 Za
    refine Y2 3 (.n 28 (Z0 s.args) (.n 29 (.i j) (.w (.k .z)))) [0] [b1] (Zq (Zm none (j:Int) 1 (Y4 Z3)) (Z1 4 34 (.b (decide (x1<q))) (ie ?_)))
    exact wk [0] (fq (Zu (decide (x1<q)) Za fl))
   have Y1:¬(x1>=0):=ZI dq Za
   refine Z5 8 (.n 34 (.b false) (.d (.w .z))) (ie ?_)
   exact wk [0] (fq (Zu false Za fl))
  refine JK (fun F h=>F=[(1,.i q),(2,Z0 (VB q ys x1)),(3,.p b1 0),(7,.i j)]/\h=[.obj b1 (Yg s)]) (fun _ _=>rfl) ?_ ?_
  ·refine ac ((decide (x1>=0))&&(decide (x1<q))) (p:=(x1>=0)/\(x1<q)) (YD dq dq) (fun ZG=>?_) (fun ZG=>?_)
   ·refine az (iR 4 [(1,.i q),(3,.p b1 0),(7,.i j),(35,Z0 ys),(37,Z0 s.args),(38,.i j)] [0] [b1] (Zq (Zm none (j:Int) 1 (Y4 Z3)) (Z1 1 40 (.i x1) (ic [] (Cq ys x1) ?_))))
    rintro _ _ ⟨v1,rfl,rfl⟩
    refine Z1 1 2 (Z7 (V5 ys x1) v1) (ie ?_)
    exact ZW ⟨rfl,rfl⟩ (wk [1] (fr (fc (x:=Z7 (V5 ys x1) v1) (Zg.sl _ (Yx Z8 (by rw [VB,Zo (by assumption)]))) fl)))
   refine ak ?_
   exact ZW ⟨rfl,rfl⟩ (wk [0] (fr (fc (x:=Z0 ys) (Zg.sl _ (Yx Z8 (by rw [VB,Zc (by assumption)]))) fl)))
  rintro F h ⟨rfl,rfl⟩
  refine az (ir 1 [(1,.i q),(2,Z0 (VB q ys x1)),(3,.p b1 0),(18,.i j)] (ZL j (Z1 1 7 (.i (j+1:Nat)) (ie ?_))))
  exact ZO ⟨j+1,(VB q ys x1),ob,(by have:=EK (n:=q) ys x1;omega),(Z8m Z3 Zy),rfl,rfl,rfl⟩ (wk [0] (fw (fr (ZQ j fl))))
 have hA:TO q s.args xs=ys:=(Z8l om Zy).symm
 refine ax 0 (aq (ar (Z1 1 8 (.i 0) (ie (ab 2 (al (fun m F h=>∃(j:Nat) (zs:List Int),(j<=s.kids.length)/\(zs.length<=xs.length+s.args.length+YR (s.kids.take j))/\(QZ q (s.kids.drop j) zs=QZ q s.kids (TO q s.args xs))/\F=[(1,.i q),(2,Z0 zs),(3,.p b1 0),(8,.i j)]/\h=[.obj b1 (Yg s)]/\m=s.kids.length-j) _ _ _ ⟨0,ys,ob,(by rw [List.take_zero,YR];omega),(by rw [hA];rfl),rfl,rfl,rfl⟩ (wk [0] (fw (fr (Ya fl)))) ?_))))))
 rintro m F h ⟨j,zs,VS,XH,XE,rfl,rfl,rfl⟩
 refine aq (ar (ZY 3 42 (.i j) 44 (Yu s.kids) [0] [b1] (iw (VG s.kids) (Z1 1 46 (.b (decide ((j:Int)<(s.kids.length:Int)))) (ie (ZM ((j:Int)<(s.kids.length:Int)) (fun Ym=>?_) (fun Ym=>?_)))))))
 ·refine ak (aq (ab 3 (az (ZY 3 50 (Yu s.kids) 51 (.i j) [0] [b1] ?_))))
  obtain ⟨x2,Zt⟩:=Zr (xs:=s.kids) (j:=j) om
  have hks:=Uy Zt
  have hbt:=C9 Zt
  have hbx:=Dj Zt
  have hul:=EJ (n:=q) x2 zs
  refine Zq (Zm none (j:Int) 2 (U5 Zt)) (Z5 3 (.n 53 (Zs x2) (.n 54 (.i q) (.n 55 (Z0 zs) .r))) (ZA [] (ih x2 q 0 zs ob ob ob) (ir 1 [(1,.i q),(2,Z0 (VB q (VZ q (x2.steps.drop 0) zs) x2.result)),(3,.p b1 0),(8,.i j)] (ie (az (Z1 1 47 (.i j) (ZL j (Z5 1 (.n 8 (.i (j+1:Nat)) (.p (.d (.k (.k (.k .z)))))) (ie ?_)))))))))
  exact ZO ⟨j+1,(XZ q x2 zs),ob,om,(Z8o Zt XE),rfl,rfl,rfl⟩ (wk [0] (fr (fc (x:=Z0 (VB q (VZ q (x2.steps.drop 0) zs) x2.result)) (Zg.sl _ (Yx Z8 (by rw [Oc];rfl))) (fr (ZQ j fl)))))
 refine ax 2 (ar (ir 2 [(6,Z0 zs)] (ie ?_)))
 exact Zb (r2 [] [Z0 zs] ⟨rfl,rfl⟩ (Zg.sl _ (Yx Z8 (by rw [Oe,Zc (by assumption)];exact (Z8n om XE)))))
theorem Z6j (b:Z6) (q:Int) (k0:Nat) (xs:List Int) (ih:∀(s2:Z4) (q:Int) (xs2:List Int),(s2.sz<b.sz)->(xs2.length+s2.sz<=1000000000)->Zi Tryz.prog 117 [Y3 s2,.i q,Z0 xs2] [] (fun r h=>r=Z0 (K0 q s2 xs2)/\h=[])) (hk:k0<=b.steps.length) (hz:xs.length+b.sz<=1000000000):Zi Tryz.prog 83 [Zs b,.i q,.i k0,Z0 xs] [] (fun r h=>r=Z0 (VB q (VZ q (b.steps.drop k0) xs) b.result)/\h=[]):=by
 have hbz:=Vf b
 have hbe:=b.sz_eq
 have hsd:=NS b.steps k0
 refine ZK 40 Tryz.func83 (ar (iA (Yk b) ?_))
 intro b1
 refine ir 1 [(1,.i q),(2,.i k0),(3,Z0 xs),(4,.p b1 0)] (ie (aq (ar (Z1 2 9 (.i k0) (ie (ab 0 (al (fun m F h=>∃(k:Nat) (ys:List Int),(k<=b.steps.length)/\(ys.length+Yp (b.steps.drop k)<=xs.length+Yp (b.steps.drop k0))/\(VZ q (b.steps.drop k) ys=VZ q (b.steps.drop k0) xs)/\F=[(1,.i q),(3,Z0 ys),(4,.p b1 0),(9,.i k)]/\h=[.obj b1 (Yk b)]/\m=b.steps.length-k) _ _ _ ⟨k0,xs,ob,(X6 _),rfl,rfl,rfl,rfl⟩ (wk [0] fl) ?_)))))))
 rintro m F h ⟨k,ys,Yj,Zp,Zy,rfl,rfl,rfl⟩
 refine aq (ar (ZY 3 11 (.i k) 13 (Ye b.steps) [0] [b1] (iw (Vl b.steps) (Z1 1 15 (.b (decide ((k:Int)<(b.steps.length:Int)))) (ie (ZM ((k:Int)<(b.steps.length:Int)) (fun Ze=>?_) (fun Ze=>?_)))))))
 ·refine ak (aq (ab 1 (az (ZY 3 19 (Ye b.steps) 20 (.i k) [0] [b1] ?_))))
  obtain ⟨x1,Z3⟩:=Zr (xs:=b.steps) (j:=k) om
  have hss:=QY Z3
  have hsd1:=NR Z3
  have hul:=Of (n:=q) x1 ys
  refine Zq (Zm none (k:Int) 5 (Wa Z3)) (Z5 3 (.n 22 (Y3 x1) (.n 23 (.i q) (.n 24 (Z0 ys) .r))) (ZA [] (ih x1 q ys ob ob) (ir 1 [(1,.i q),(3,Z0 (K0 q x1 ys)),(4,.p b1 0),(9,.i k)] (ie (az (Z1 1 16 (.i k) (ZL k (Z5 1 (.n 9 (.i (k+1:Nat)) (.p (.d (.k (.k (.k .z)))))) (ie ?_)))))))))
  exact ZO ⟨k+1,(K0 q x1 ys),ob,ob,(Z8q Z3 Zy),rfl,rfl,rfl⟩ (wk [0] (fw (fr (ZQ k fl))))
 refine ax 0 (aq (ar (Xo [(3,Z0 ys),(4,.p b1 0),(34,.b ((decide (b.result>=0))&&(decide (b.result<q))))] [.obj b1 (Yk b)] ?_ ?_)))
 ·refine iR 4 [(1,.i q),(3,Z0 ys),(4,.p b1 0),(29,.b (decide (b.result>=0)))] [0] [b1] (ib (b:=(decide (b.result>=0))) 29 (fun Za=>?_) (fun Za=>?_))
  ·have ZP:b.result>=0:=(dq).1 Za
   refine Y2 5 (.n 34 (.b (decide (b.result<q))) (.d (.d (.k (.k .z))))) [0] [b1] (ie ?_)
   exact wk [0] (fw (Zu (decide (b.result<q)) Za fl))
  have Y1:¬(b.result>=0):=ZI dq Za
  refine Z5 5 (.n 34 (.b false) (.d (.d (.k (.k .z))))) (ie ?_)
  exact wk [0] (fw (Zu false Za fl))
 refine XI (fun F h=>F=[(3,Z0 (VB q ys b.result))]/\h=[]) ?_ ?_
 ·refine ac ((decide (b.result>=0))&&(decide (b.result<q))) (p:=(b.result>=0)/\(b.result<q)) (YD dq dq) (fun Zk=>?_) (fun Zk=>?_)
  ·refine az (iR 3 [(35,Z0 ys),(37,.i b.result)] [0] [b1] (ic [] (Cq ys b.result) ?_))
   rintro _ _ ⟨v1,rfl,rfl⟩
   refine ir 1 [(3,Z7 (V5 ys b.result) v1)] (ie ?_)
   exact ZW ⟨rfl,rfl⟩ (wk [] (fc (x:=Z7 (V5 ys b.result) v1) (Zg.sl _ (Yx Z8 (by rw [VB,Zo (by assumption)]))) fl))
  refine ak ?_
  exact ZW ⟨rfl,rfl⟩ (wk [] (fc (x:=Z0 ys) (Zg.sl _ (Yx Z8 (by rw [VB,Zc (by assumption)]))) fl))
 rintro F h ⟨rfl,rfl⟩
 refine ar (ir 2 [(8,Z0 (VB q ys b.result))] (ie ?_))
 exact Zb (r2 [] [Z0 (VB q ys b.result)] ⟨rfl,rfl⟩ (Zg.sl _ (Yx Z8 (by rw [Z8p om Zy]))))
theorem Z7c (k:Nat):(∀(s:Z4) (q:Int) (xs:List Int),(s.sz<=k)->(xs.length+s.sz<=1000000000)->Zi Tryz.prog 117 [Y3 s,.i q,Z0 xs] [] (fun r h=>r=Z0 (K0 q s xs)/\h=[]))/\(∀(b:Z6) (q:Int) (k0:Nat) (xs:List Int),(b.sz<=k)->(k0<=b.steps.length)->(xs.length+b.sz<=1000000000)->Zi Tryz.prog 83 [Zs b,.i q,.i k0,Z0 xs] [] (fun r h=>r=Z0 (VB q (VZ q (b.steps.drop k0) xs) b.result)/\h=[])):=by
 induction k with
 | zero=>exact ⟨fun s q xs h=>by have:=s.sz_pos;omega,fun b q k0 xs h=>by have:=b.sz_pos;omega⟩
 | succ k ih=>exact ⟨fun s q xs h hz=>Z6i s q xs (fun b2 q k2 xs2 h2 hk h3=>ih.2 b2 q k2 xs2 om hk h3) hz,fun b q k0 xs h hk hz=>Z6j b q k0 xs (fun s2 q xs2 h2 h3=>ih.1 s2 q xs2 om h3) hk hz⟩
theorem Nz (b:Z6) (q:Int) (k0:Nat) (xs:List Int) (hk:k0<=b.steps.length:=by exact ob) (hz:xs.length+b.sz<=1000000000:=by exact ob):Zi Tryz.prog 83 [Zs b,.i q,.i k0,Z0 xs] [] (fun r h=>r=Z0 (VB q (VZ q (b.steps.drop k0) xs) b.result)/\h=[]):=(Z7c b.sz).2 b q k0 xs (X6 _) hk hz
theorem NN (b:Z6) (q:Int) (hz:b.sz<=100000000:=by exact ob):Zi Tryz.prog 75 [Zs b,.i q] [] (fun r h=>r=Z0 (XZ q b [])/\h=[]):=by
 refine ZK 9 Tryz.func75 (ar (iA (Yk b) ?_))
 intro b1
 refine ir 1 [(1,.i q),(2,.p b1 0)] (ie (ar (iR 2 [(5,Zs b),(6,.i q)] [0] [b1] (iL (Z8 []) 0 1 ?_))))
 intro v1
 refine Z5 0 (.n 7 (Z0 []) (.p .r)) (ZA [] (Nz b q 0 [] (hk:=(K5 _))) (ir 1 [(4,Z0 (VB q (VZ q (b.steps.drop 0) []) b.result))] (ie ?_)))
 exact Zb (r2 [] [Z0 (VB q (VZ q (b.steps.drop 0) []) b.result)] ⟨rfl,rfl⟩ (Zg.sl _ (Yx Z8 (by rw [Oc];rfl))))
theorem Z0e (xs:List Int) (ys:List Int) (hz:xs.length+ys.length<=100000000:=by exact ob):Zi Tryz.prog 255 [Z0 xs,Z0 ys] [] (fun r h=>∃(zs:List Int),r=Z0 zs/\h=[]/\zs.length<=xs.length+ys.length):=by
 refine ZK 22 Tryz.func255 (ar (ir 1 [(0,Z0 xs),(1,Z0 ys)] (ie (ar (Z1 1 7 (Z0 xs) (ic [] (VP xs) ?_))))))
 rintro _ _ ⟨v1,rfl,rfl⟩
 refine Z1 1 5 (Z7 xs v1) (ie (aq (ar (Z1 1 6 (.i 0) (ie (ab 0 (al (fun m F h=>∃(k:Nat) (zs:List Int),(k<=ys.length)/\(zs.length<=xs.length+k)/\F=[(1,Z0 ys),(5,Z0 zs),(6,.i k)]/\h=[]/\m=ys.length-k) _ _ _ ⟨0,xs,ob,ob,rfl,rfl,rfl⟩ (wk [] (fr (fc (x:=Z7 xs v1) (Zg.forget _ _) (Ya fl)))) ?_)))))))
 rintro m F h ⟨k,zs,Yj,Zp,rfl,rfl,rfl⟩
 refine aq (ar (Yq 2 9 (.i k) 10 (Z0 ys) (iw (Yh ys) (Z1 1 12 (.b (decide ((k:Int)<(ys.length:Int)))) (ie (ZM ((k:Int)<(ys.length:Int)) (fun Ze=>?_) (fun Ze=>?_)))))))
 ·refine ak (aq (ab 1 (az (Z5 3 (.n 15 (Z0 zs) (.n 16 (Z0 ys) (.n 17 (.i k) .r))) ?_))))
  obtain ⟨x1,Z3⟩:=Zr (xs:=ys) (j:=k) om
  refine Zq (Zm none (k:Int) 1 (Y4 Z3)) (Z1 1 19 (.i x1) (ic [] (Cq zs x1) ?_))
  rintro _ _ ⟨v2,rfl,rfl⟩
  refine ir 1 [(1,Z0 ys),(5,Z7 (V5 zs x1) v2),(6,.i k)] (ie (az (Z1 1 13 (.i k) (ZL k (Z5 1 (.n 6 (.i (k+1:Nat)) (.p (.d (.k (.k .z))))) (ie ?_))))))
  exact ZO ⟨k+1,(V5 zs x1),ob,(by have:=BE zs x1;omega),rfl,rfl,rfl⟩ (wk [] (fr (fc (x:=Z7 (V5 zs x1) v2) (Zg.forget _ _) (ZQ k fl))))
 refine ax 0 (ar (ir 2 [(4,Z0 zs)] (ie ?_)))
 exact Zb (r1 [] ⟨zs,rfl,rfl,ob⟩)
theorem L9 (xs:List Int) (ys:List Int) (hz:xs.length<=100000000:=by exact ob) (hy:ys.length<=100000000:=by exact ob):Zi Tryz.prog 268 [Z0 xs,Z0 ys] [] (fun r h=>∃(zs:List Int) (v:Value),r=Z7 zs v/\h=[.tail v 1]/\zs.length<=xs.length/\∀z∈zs,z∈xs):=by
 refine ZK 28 Tryz.func268 (ar (ir 1 [(0,Z0 xs),(1,Z0 ys)] (ie (ar (iL (Z8 []) 0 1 ?_)))))
 intro v1
 refine Z1 1 5 (Z7 [] v1) (ie (aq (ar (Z1 1 6 (.i 0) (ie (ab 0 (al (fun m F h=>∃(k:Nat) (zs:List Int) (u:Value),(k<=xs.length)/\(zs.length<=k)/\(∀z∈zs,z∈xs)/\F=[(0,Z0 xs),(1,Z0 ys),(5,Z7 zs u),(6,.i k)]/\h=[.tail u 1]/\m=xs.length-k) _ _ _ ⟨0,[],v1,ob,ob,(fun z hz=>by cases hz),rfl,rfl,rfl⟩ (wk [0] (fw (fr (Ya fl)))) ?_)))))))
 rintro m F h ⟨k,zs,u,Yj,Zp,Zy,rfl,rfl,rfl⟩
 refine aq (ar (Yq 2 8 (.i k) 9 (Z0 xs) (iw (Yh xs) (Z1 1 11 (.b (decide ((k:Int)<(xs.length:Int)))) (ie (ZM ((k:Int)<(xs.length:Int)) (fun Ze=>?_) (fun Ze=>?_)))))))
 ·refine ak (aq (ab 1 (ar (Z5 3 (.n 14 (Z0 ys) (.n 15 (Z0 xs) (.n 16 (.i k) .r))) ?_))))
  obtain ⟨x1,Z3⟩:=Zr (xs:=xs) (j:=k) om
  refine Zq (Zm none (k:Int) 1 (Y4 Z3)) (Z1 1 18 (.i x1) (ZA [] (U8 ys x1) (ie (ZM (x1∈ys) (fun Zk=>?_) (fun Zk=>?_)))))
  ·refine az (Z5 3 (.n 20 (Z7 zs u) (.n 21 (Z0 xs) (.n 22 (.i k) .r))) (Zq (Zm none (k:Int) 1 (Y4 Z3)) (Z1 1 24 (.i x1) (iL (Z8 [x1]) 1 1 ?_))))
   intro v2
   refine Z5 0 (.n 25 (Z0 [x1]) (.p .r)) (ip 1 (Z8 (zs++[x1])) (Z8 zs) (Z8 [x1]) u none 1 (YF _) (YF _) (XX _) (by simp<;>omega) (by simp [XW,Z8]) ?_)
   intro v3
   refine ir 1 [(0,Z0 xs),(1,Z0 ys),(5,Z7 (zs++[x1]) v3),(6,.i k)] (ie (az (Z1 1 12 (.i k) (ZL k (Z5 1 (.n 6 (.i (k+1:Nat)) (.p (.d (.k (.k (.k .z)))))) (ie ?_))))))
   exact ZO ⟨k+1,(zs++[x1]),v3,ob,ob,(by first|exact Zy|exact Xp Zy (Y7 Z3)),rfl,rfl,rfl⟩ (wk [0] (fw (fr (ZQ k fl))))
  refine ak (az (Z1 1 12 (.i k) (ZL k (ir 1 [(0,Z0 xs),(1,Z0 ys),(5,Z7 zs u),(6,.i (k+1:Nat))] (ie ?_)))))
  exact ZO ⟨k+1,zs,u,ob,ob,(by first|exact Zy|exact Xp Zy (Y7 Z3)),rfl,rfl,rfl⟩ (wk [0] (fw (fr (ZQ k fl))))
 refine ax 0 (ar (ir 2 [(4,Z7 zs u)] (ie ?_)))
 exact Zb (r1 [0] ⟨zs,u,rfl,rfl,⟨by omega,Zy⟩⟩)
theorem G7 (xs:List Int) (q:Int) (hz:xs.length<=100000000:=by exact ob):Zi Tryz.prog 272 [Z0 xs,.i q] [] (fun r h=>∃(zs:List Int) (v:Value),r=Z7 zs v/\h=[.tail v 1]/\zs.length<=xs.length/\∀z∈zs,z∈xs):=by
 refine ZK 28 Tryz.func272 (ar (ir 1 [(0,Z0 xs),(1,.i q)] (ie (ar (iL (Z8 []) 0 1 ?_)))))
 intro v1
 refine Z1 1 5 (Z7 [] v1) (ie (aq (ar (Z1 1 6 (.i 0) (ie (ab 0 (al (fun m F h=>∃(k:Nat) (zs:List Int) (u:Value),(k<=xs.length)/\(zs.length<=k)/\(∀z∈zs,z∈xs)/\F=[(0,Z0 xs),(1,.i q),(5,Z7 zs u),(6,.i k)]/\h=[.tail u 1]/\m=xs.length-k) _ _ _ ⟨0,[],v1,ob,ob,(fun z hz=>by cases hz),rfl,rfl,rfl⟩ (wk [0] (fw (fr (Ya fl)))) ?_)))))))
 rintro m F h ⟨k,zs,u,Yj,Zp,Zy,rfl,rfl,rfl⟩
 refine aq (ar (Yq 2 8 (.i k) 9 (Z0 xs) (iw (Yh xs) (Z1 1 11 (.b (decide ((k:Int)<(xs.length:Int)))) (ie (ZM ((k:Int)<(xs.length:Int)) (fun Ze=>?_) (fun Ze=>?_)))))))
 ·refine ak (aq (ab 1 (ar (Yq 2 14 (Z0 xs) 15 (.i k) ?_))))
  obtain ⟨x1,Z3⟩:=Zr (xs:=xs) (j:=k) om
  refine Zq (Zm none (k:Int) 1 (Y4 Z3)) (Z1 3 19 (.b (decide (x1<q))) (ie (ZM (x1<q) (fun Zk=>?_) (fun Zk=>?_))))
  ·refine az (Z5 3 (.n 20 (Z7 zs u) (.n 21 (Z0 xs) (.n 22 (.i k) .r))) (Zq (Zm none (k:Int) 1 (Y4 Z3)) (Z1 1 24 (.i x1) (iL (Z8 [x1]) 1 1 ?_))))
   intro v2
   refine Z5 0 (.n 25 (Z0 [x1]) (.p .r)) (ip 1 (Z8 (zs++[x1])) (Z8 zs) (Z8 [x1]) u none 1 (YF _) (YF _) (XX _) (by simp<;>omega) (by simp [XW,Z8]) ?_)
   intro v3
   refine ir 1 [(0,Z0 xs),(1,.i q),(5,Z7 (zs++[x1]) v3),(6,.i k)] (ie (az (Z1 1 12 (.i k) (ZL k (Z5 1 (.n 6 (.i (k+1:Nat)) (.p (.d (.k (.k (.k .z)))))) (ie ?_))))))
   exact ZO ⟨k+1,(zs++[x1]),v3,ob,ob,(by first|exact Zy|exact Xp Zy (Y7 Z3)),rfl,rfl,rfl⟩ (wk [0] (fw (fr (ZQ k fl))))
  refine ak (az (Z1 1 12 (.i k) (ZL k (ir 1 [(0,Z0 xs),(1,.i q),(5,Z7 zs u),(6,.i (k+1:Nat))] (ie ?_)))))
  exact ZO ⟨k+1,zs,u,ob,ob,(by first|exact Zy|exact Xp Zy (Y7 Z3)),rfl,rfl,rfl⟩ (wk [0] (fw (fr (ZQ k fl))))
 refine ax 0 (ar (ir 2 [(4,Z7 zs u)] (ie ?_)))
 exact Zb (r1 [0] ⟨zs,u,rfl,rfl,⟨by omega,Zy⟩⟩)
theorem KU (op:Int) (v:Int) :Zi Tryz.prog 88 [.i op,.i v] [] (fun r h=>r=Y3 (Zj op v)/\h=[]):=by
 refine ZK 10 Tryz.func88 (ar (iA [.i 0,.i 0,.i 0,nl,nl] ?_))
 intro b1
 refine ie (ar (ir 2 [(4,.p b1 0),(5,.i op),(6,.i v)] (iL (Z8 [v]) 1 1 ?_)))
 intro v1
 refine iL (YH []) 0 2 ?_
 intro v2
 refine Z1 1 9 (.agg [.i op,.i 0,.i 0,Z7 [v] v1,X4 [] v2]) (ZF 2 b1 [.i op,.i 0,.i 0,Z7 [v] v1,X4 [] v2] (ie ?_))
 exact Zb (r3 [] [.agg [.i op,.i 0,.i 0,Z7 [v] v1,X4 [] v2]] [0] [(b1,b1)] ⟨rfl,rfl⟩ (Zg.agg (.cons li (.cons li (.cons li (.cons (Zg.sl _ (Yx Z8 rfl)) (.cons (Zg.sl _ (Yx YH rfl)) .nil)))))))
theorem Qs (op:Int) (xs:List Int) (hl:xs.length<=1000000000:=by exact ob):Zi Tryz.prog 229 [.i op,Z0 xs] [] (fun r h=>∃(v:Value),r=ZX (xs.map (Zj op)) v/\h=[.tail v 5]):=by
 refine ZK 24 Tryz.func229 (ar (ir 1 [(0,.i op),(1,Z0 xs)] (ie (ar (iL (Zv []) 0 5 ?_)))))
 intro v1
 refine Z1 1 5 (ZX [] v1) (ie (aq (ar (Z1 1 6 (.i 0) (ie (ab 0 (al (fun m F h=>∃(k:Nat) (v:Value),(k<=xs.length)/\F=[(0,.i op),(1,Z0 xs),(5,ZX ((xs.take k).map (Zj op)) v),(6,.i k)]/\h=[.tail v 5]/\m=xs.length-k) _ _ _ ⟨0,v1,ob,rfl,rfl,rfl⟩ (wk [0] (fw (fc (x:=ZX [] v1) (Zg.slh _ (Yx Zv rfl)) (Ya fl)))) ?_)))))))
 rintro m F h ⟨k,v,Yj,rfl,rfl,rfl⟩
 refine aq (ar (Yq 2 8 (.i k) 9 (Z0 xs) (iw (Yh xs) (Z1 1 11 (.b (decide ((k:Int)<(xs.length:Int)))) (ie (ZM ((k:Int)<(xs.length:Int)) (fun Ze=>?_) (fun Ze=>?_)))))))
 ·refine ak (aq (ab 1 (az (Z5 4 (.n 14 (ZX ((xs.take k).map (Zj op)) v) (.n 15 (.i op) (.n 16 (Z0 xs) (.n 17 (.i k) .r)))) ?_))))
  obtain ⟨x1,Z3⟩:=Zr (xs:=xs) (j:=k) om
  refine Zq (Zm none (k:Int) 1 (Y4 Z3)) (Z1 1 19 (.i x1) (ZA [] (KU op x1) (iL [Y3 (Zj op x1)] 1 5 ?_)))
  intro v2
  refine Z5 0 (.n 21 (.sl [Y3 (Zj op x1)] none) (.p .r)) (ip 1 (Zv ((xs.take (k+1)).map (Zj op))) (Zv ((xs.take k).map (Zj op))) [Y3 (Zj op x1)] v none 5 (X8 _) (TJ rfl) rfl (by simp<;>omega) (by rw [WM Z3];simp [Vd]) ?_)
  intro v3
  refine ir 1 [(0,.i op),(1,Z0 xs),(5,ZX ((xs.take (k+1)).map (Zj op)) v3),(6,.i k)] (ie (az (Z1 1 12 (.i k) (ZL k (Z5 1 (.n 6 (.i (k+1:Nat)) (.p (.d (.k (.k (.k .z)))))) (ie ?_))))))
  exact ZO ⟨k+1,v3,ob,rfl,rfl,rfl⟩ (wk [0] (fw (fr (ZQ k fl))))
 refine ax 0 (ar (ir 2 [(4,ZX ((xs.take k).map (Zj op)) v)] (ie ?_)))
 exact Zb (r2 [0] [ZX ((xs.take k).map (Zj op)) v] ⟨v,rfl,rfl⟩ (Zg.slh _ (Yx Zv (by rw [Vg om]))))
theorem SS (n:Zx) (s:Z4) (i:Nat) (mm:Nat) (hn:Xd n:=by exact ob) (hf:FS n.decls n.routines.length mm s:=by exact ob) (hi:i<s.args.length:=by exact ob):Zi Tryz.prog 271 [ZD n,Y3 s,.i i] [] (fun r h=>∃(wr:Bool),r=.b wr/\h=[]):=by
 have hal:=hf.alen
 refine ZK 42 Tryz.func271 (ar (iA (ZU n) ?_))
 intro b1
 refine iA (Yg s) ?_
 intro b2
 refine ir 1 [(2,.i i),(3,.p b1 0),(4,.p b2 0)] (ie (aq (ar (Z1 1 7 (.i 0) (ie (ab 0 (al (fun m F h=>∃(k:Nat),(k<=s.args.length)/\F=[(2,.i i),(3,.p b1 0),(4,.p b2 0),(7,.i k)]/\h=[.obj b2 (Yg s),.obj b1 (ZU n)]/\m=s.args.length-k) _ _ _ ⟨0,ob,rfl,rfl,rfl⟩ (wk [0,0] (fw (fr (Ya fl)))) ?_)))))))
 rintro m F h ⟨k,Yj,rfl,rfl,rfl⟩
 refine aq (ar (ZY 3 8 (.i k) 10 (Z0 s.args) [0] [b2] (iw (Yh s.args) (Z1 1 12 (.b (decide ((k:Int)<(s.args.length:Int)))) (ie (ZM ((k:Int)<(s.args.length:Int)) (fun Ze=>?_) (fun Ze=>?_)))))))
 ·refine ak (aq (ab 1 (aD 27 (ZZ 23 27 [0,1,2,3] 18 (.b ((k:Int) != (i:Int))) (db (b:=((k:Int) != (i:Int))) 18 (fun Za=>?_) (fun Za=>?_))))))
  ·have ZP:(k:Int)≠(i:Int):=(Yi).1 Za
   refine Y6 20 23 [4,5,6] (.n 20 (Z0 s.args) (.n 21 (.i k) (.k (.d .r)))) [0] [b2] ?_
   obtain ⟨x1,Z3⟩:=Zr (xs:=s.args) (j:=k) om
   refine dx 7 (Zm none (k:Int) 1 (Y4 Z3)) (Y6 15 19 [8,9,10,11] (.n 23 (.i x1) (.n 25 (Z0 s.args) (.n 26 (.i i) .r))) [0] [b2] ?_)
   obtain ⟨x2,Zt⟩:=Zr (xs:=s.args) (j:=i) om
   refine dx 12 (Zm none (i:Int) 1 (Y4 Zt)) (ZZ 10 14 [13,14,15,16] 31 (.b (x1==x2)) (db (b:=(x1==x2)) 31 (fun Zz=>?_) (fun Zz=>?_)))
   ·have Y1:x1=x2:=(Zh).1 Zz
    refine Y0 6 10 [17,18,19,20] (.n 35 (.b (decide ((k:Int)>(i:Int)))) (.k (.d .r))) (db (b:=(decide ((k:Int)>(i:Int)))) 35 (fun YE=>?_) (fun YE=>?_))
    ·have Yy:(k:Int)>(i:Int):=(dq).1 YE
     refine Y0 0 6 [21,22,23,24,25,26] (.n 41 (.b true) (.k (.d .r))) (de (WU (ar (ir 1 [(6,.b true)] (ie ?_)))))
     exact Zb (r1 [] ⟨true,rfl,rfl⟩)
    have YK:¬((k:Int)>(i:Int)):=ZI dq YE
    refine Y6 3 6 [21,22,23] (.n 36 (ZD n) (.n 37 (Y3 s) (.n 38 (.i k) (.k (.d .r))))) [1,0] [b1,b2] (Z9 24 (Yv 24 [] [] [] (CY n s k (hnum:=hf.call)) (ZZ 0 2 [25,26] 41 (.b (WK n s.op s.num k)) (de (ac (WK n s.op s.num k) Iff.rfl (fun Zk=>?_) (fun Zk=>?_))))))
    ·refine ar (ir 1 [(6,.b true)] (ie ?_))
     exact Zb (r1 [] ⟨true,rfl,rfl⟩)
    refine ak (az (Z1 1 13 (.i k) (ZL k (ir 1 [(2,.i i),(3,.p b1 0),(4,.p b2 0),(7,.i (k+1:Nat))] (ie ?_)))))
    exact ZO ⟨k+1,ob,rfl,rfl,rfl⟩ (wk [0,0] (fw (fr (ZQ k fl))))
   have X0:¬(x1=x2):=ZI Zh Zz
   refine Y0 0 10 [17,18,19,20,21,22,23,24,25,26] (.n 41 (.b false) (.k (.d .r))) (de (WT (ak (az (Z1 1 13 (.i k) (ZL k (ir 1 [(2,.i i),(3,.p b1 0),(4,.p b2 0),(7,.i (k+1:Nat))] (ie ?_))))))))
   exact ZO ⟨k+1,ob,rfl,rfl,rfl⟩ (wk [0,0] (fw (fr (ZQ k fl))))
  have XB:¬((k:Int)≠(i:Int)):=ZI Yi Za
  refine Y0 0 23 [4,5,6,7,8,9,10,11,12,13,14,15,16,17,18,19,20,21,22,23,24,25,26] (.n 41 (.b false) (.k (.d .r))) (de (WT (ak (az (Z1 1 13 (.i k) (ZL k (ir 1 [(2,.i i),(3,.p b1 0),(4,.p b2 0),(7,.i (k+1:Nat))] (ie ?_))))))))
  exact ZO ⟨k+1,ob,rfl,rfl,rfl⟩ (wk [0,0] (fw (fr (ZQ k fl))))
 refine ax 0 (ar (ir 1 [(6,.b false)] (ie ?_)))
 exact Zb (r1 [] ⟨false,rfl,rfl⟩)
theorem Lf (n:Zx) (s:Z4) (i:Nat) (mm:Nat) (os:List Int) (ls:List Int) (hn:Xd n:=by exact ob) (hf:FS n.decls n.routines.length mm s:=by exact ob) (hi:i<s.args.length:=by exact ob) (ho:os.length<=100000000:=by exact ob) (hl:ls.length<=100000000:=by exact ob):Zi Tryz.prog 266 [ZD n,Y3 s,.i i,Z0 os,Z0 ls] [] (fun r h=>∃(wr:Bool),r=.b wr/\h=[]):=by
 refine ZK 34 Tryz.func266 (ar (iA (ZU n) ?_))
 intro b1
 refine iA (Yg s) ?_
 intro b2
 refine ir 1 [(2,.i i),(3,Z0 os),(4,Z0 ls),(5,.p b1 0),(6,.p b2 0)] (ie (ar (Y2 4 (.n 11 (Z0 ls) (.n 13 (Z0 s.args) (.n 14 (.i i) .r))) [0] [b2] ?_)))
 obtain ⟨x1,Z3⟩:=Zr (xs:=s.args) (j:=i) om
 refine Zq (Zm none (i:Int) 1 (Y4 Z3)) (Z1 1 16 (.i x1) (ZA [] (U8 ls x1) (Z1 1 18 (.b (decide (x1∈ls))) (ib (b:=(decide (x1∈ls))) 18 (fun Za=>?_) (fun Za=>?_)))))
 ·have ZP:x1∈ls:=(dq).1 Za
  refine ir 16 [(10,.b true)] (ie ?_)
  exact Zb (r1 [] ⟨true,rfl,rfl⟩)
 have Y1:¬(x1∈ls):=ZI dq Za
 refine Y2 4 (.n 19 (Z0 os) (.n 21 (Z0 s.args) (.n 22 (.i i) (.k (.d .r))))) [0] [b2] (Zq (Zm none (i:Int) 1 (Y4 Z3)) (Z1 1 24 (.i x1) (ZA [] (U8 os x1) (Z1 3 28 (.b (!(decide (x1∈os)))) (ib (b:=(!(decide (x1∈os)))) 28 (fun Zz=>?_) (fun Zz=>?_))))))
 ·have Yy:¬(x1∈os):=((Yw dq)).1 Zz
  refine ir 6 [(10,.b true)] (ie ?_)
  exact Zb (r1 [] ⟨true,rfl,rfl⟩)
 have YK:¬(¬(x1∈os)):=ZI (Yw dq) Zz
 refine iR 3 [(28,.b false),(29,ZD n),(30,Y3 s),(31,.i i)] [1,0] [b1,b2] (ic [] (SS n s i mm) ?_)
 rintro _ _ ⟨wr1,rfl,rfl⟩
 refine ir 2 [(10,.b wr1)] (ie ?_)
 exact Zb (r1 [] ⟨wr1,rfl,rfl⟩)
theorem Sv (n:Zx) (us:List Int) (s:Z4) (os:List Int) (ls:List Int) (mm:Nat) (hn:Xd n:=by exact ob) (hf:FS n.decls n.routines.length mm s:=by exact ob) (hvl:us.length=mm:=by exact ob) (hm:mm<=100000000:=by exact ob) (ho:os.length<=100000000:=by exact ob) (hl:ls.length<=100000000:=by exact ob):Zi Tryz.prog 256 [ZD n,Z0 us,Y3 s,Z0 os,Z0 ls] [] (fun r h=>∃(zs:List Int),r=Z0 zs/\h=[]/\zs.length<=s.args.length/\∀z∈zs,z∈s.args):=by
 have hal:=hf.alen
 refine ZK 43 Tryz.func256 (ar (iA (ZU n) ?_))
 intro b1
 refine iA (Yg s) ?_
 intro b2
 refine ir 1 [(1,Z0 us),(3,Z0 os),(4,Z0 ls),(5,.p b1 0),(7,.p b2 0)] (ie (ar (iL (Z8 []) 0 1 ?_)))
 intro v1
 refine Z1 1 11 (Z7 [] v1) (ie (aq (ar (Z1 1 12 (.i 0) (ie (ab 0 (al (fun m F h=>∃(k:Nat) (zs:List Int) (u:Value),(k<=s.args.length)/\(zs.length<=k)/\(∀z∈zs,z∈s.args)/\F=[(1,Z0 us),(3,Z0 os),(4,Z0 ls),(5,.p b1 0),(7,.p b2 0),(11,Z7 zs u),(12,.i k)]/\h=[.obj b2 (Yg s),.obj b1 (ZU n),.tail u 1]/\m=s.args.length-k) _ _ _ ⟨0,[],v1,ob,ob,(fun z hz=>by cases hz),rfl,rfl,rfl⟩ (wk [1,1,0] (fq (fw (Ya fl)))) ?_)))))))
 rintro m F h ⟨k,zs,u,Yj,Zp,Zy,rfl,rfl,rfl⟩
 refine aq (ar (ZY 3 14 (.i k) 16 (Z0 s.args) [0] [b2] (iw (Yh s.args) (Z1 1 18 (.b (decide ((k:Int)<(s.args.length:Int)))) (ie (ZM ((k:Int)<(s.args.length:Int)) (fun Ze=>?_) (fun Ze=>?_)))))))
 ·obtain ⟨a1,ha1⟩:=Zr (xs:=s.args) (j:=k) om
  have har:=hf.args a1 (Y7 ha1)
  refine ak (aq (ab 1 (ar (Y2 4 (.n 21 (ZD n) (.n 22 (Z0 us) (.n 23 (Y3 s) (.n 24 (.i k) .r)))) [1,0] [b1,b2] (ZA [] (EF n us s k a1 (hnum:=hf.call) (ha:=ha1)) (Z1 1 26 (.b (UX n us s.op s.num a1 k)) (ib (b:=UX n us s.op s.num a1 k) 26 (fun Za=>?_) (fun Za=>?_))))))))
  ·have ZP:UX n us s.op s.num a1 k=true:=(Iff.rfl).1 Za
   refine Y2 5 (.n 27 (ZD n) (.n 28 (Y3 s) (.n 29 (.i k) (.n 30 (Z0 os) (.n 31 (Z0 ls) (.k (.d .r))))))) [1,0] [b1,b2] (ic [] (Lf n s k mm os ls) ?_)
   rintro _ _ ⟨wr1,rfl,rfl⟩
   refine Z1 1 33 (.b wr1) (ie (ac wr1 Iff.rfl (fun Zk=>?_) (fun Zk=>?_)))
   ·refine az (Y2 4 (.n 34 (Z7 zs u) (.n 36 (Z0 s.args) (.n 37 (.i k) .r))) [0] [b2] (Zq (Zm none (k:Int) 1 (Y4 ha1)) (Z1 1 39 (.i a1) (iL (Z8 [a1]) 1 1 ?_))))
    intro v2
    refine Z5 0 (.n 40 (Z0 [a1]) (.p .r)) (ip 3 (Z8 (zs++[a1])) (Z8 zs) (Z8 [a1]) u none 1 (YF _) (YF _) (XX _) (by simp<;>omega) (by simp [XW,Z8]) ?_)
    intro v3
    refine ir 1 [(1,Z0 us),(3,Z0 os),(4,Z0 ls),(5,.p b1 0),(7,.p b2 0),(11,Z7 (zs++[a1]) v3),(12,.i k)] (ie (az (Z1 1 19 (.i k) (ZL k (Z5 1 (.n 12 (.i (k+1:Nat)) (.p (.d (.w (.k (.k .z)))))) (ie ?_))))))
    exact ZO ⟨k+1,(zs++[a1]),v3,ob,ob,(by first|exact Zy|exact Xp Zy (Y7 ha1)),rfl,rfl,rfl⟩ (wk [2,2,0] (fq (fw (ZQ k fl))))
   refine ak (az (Z1 1 19 (.i k) (ZL k (ir 1 [(1,Z0 us),(3,Z0 os),(4,Z0 ls),(5,.p b1 0),(7,.p b2 0),(11,Z7 zs u),(12,.i (k+1:Nat))] (ie ?_)))))
   exact ZO ⟨k+1,zs,u,ob,ob,(by first|exact Zy|exact Xp Zy (Y7 ha1)),rfl,rfl,rfl⟩ (ZT 3 (fq (fw (ZQ k fl))))
  have Y1:¬(UX n us s.op s.num a1 k=true):=ZI Iff.rfl Za
  refine Z5 7 (.n 33 (.b false) (.k (.d .r))) (ie (WT (ak (az (Z1 1 19 (.i k) (ZL k (ir 1 [(1,Z0 us),(3,Z0 os),(4,Z0 ls),(5,.p b1 0),(7,.p b2 0),(11,Z7 zs u),(12,.i (k+1:Nat))] (ie ?_))))))))
  exact ZO ⟨k+1,zs,u,ob,ob,(by first|exact Zy|exact Xp Zy (Y7 ha1)),rfl,rfl,rfl⟩ (ZT 3 (fq (fw (ZQ k fl))))
 refine ax 0 (ar (ir 2 [(10,Z7 zs u)] (ie ?_)))
 exact Zb (r2 [] [Z7 zs u] ⟨zs,rfl,rfl,⟨by omega,Zy⟩⟩ (Zg.forget _ _))
theorem SK (n:Zx) (us:List Int) (s:Z4) (os:List Int) (ls:List Int) (mm:Nat) (hn:Xd n:=by exact ob) (hf:FS n.decls n.routines.length mm s:=by exact ob) (hvl:us.length=mm:=by exact ob) (hm:mm<=100000000:=by exact ob) (ho:os.length<=100000000:=by exact ob) (hl:ls.length<=100000000:=by exact ob):Zi Tryz.prog 258 [ZD n,Z0 us,Y3 s,Z0 os,Z0 ls] [] (fun r h=>∃(zs:List Int) (v:Value),r=Z7 zs v/\h=[.tail v 1]/\zs.length<=os.length/\∀z∈zs,z∈os):=by
 have hal:=hf.alen
 refine ZK 55 Tryz.func258 (ar (iA (ZU n) ?_))
 intro b1
 refine iA (Yg s) ?_
 intro b2
 refine ir 1 [(1,Z0 us),(3,Z0 os),(4,Z0 ls),(5,.p b1 0),(7,.p b2 0)] (ie (aq (ar (Yl 4 16 (.b (s.op==7)) [0] [b2] (ib (b:=(s.op==7)) 16 (fun Za=>?_) (fun Za=>?_))))))
 ·have ZP:s.op=7:=(Zh).1 Za
  refine Z5 4 (.n 20 (.b true) (.d (.d .r))) (ie (WU (ar (ir 2 [(21,Z0 os),(22,Z0 ls)] (ic [] (L9 os ls) ?_)))))
  rintro _ _ ⟨zs1,v1,rfl,rfl,Y1⟩
  have hco:=Y1
  refine ir 1 [(10,Z7 zs1 v1)] (ie ?_)
  exact Zb (r1 [0] ⟨zs1,v1,rfl,rfl,(by first|exact hco|exact ⟨by omega,Zy⟩)⟩)
 have Yy:¬(s.op=7):=ZI Zh Za
 refine Y2 4 (.n 20 (.b (s.op==8)) (.d (.d .r))) [0] [b2] (ie (ac (s.op==8) Zh (fun Ze=>?_) (fun Ze=>?_)))
 ·refine ar (ir 2 [(21,Z0 os),(22,Z0 ls)] (ic [] (L9 os ls) ?_))
  rintro _ _ ⟨zs2,v2,rfl,rfl,YK⟩
  have hco:=YK
  refine ir 1 [(10,Z7 zs2 v2)] (ie ?_)
  exact Zb (r1 [0] ⟨zs2,v2,rfl,rfl,(by first|exact hco|exact ⟨by omega,Zy⟩)⟩)
 refine ak (ar (Z1 1 24 (Z0 os) (ic [] (VP os) ?_)))
 rintro _ _ ⟨v3,rfl,rfl⟩
 refine Z1 1 11 (Z7 os v3) (ie (aq (ar (Z1 1 12 (.i 0) (ie (ab 0 (al (fun m F h=>∃(k:Nat) (zs:List Int) (u:Value),(k<=s.args.length)/\(zs.length<=os.length)/\(∀z∈zs,z∈os)/\F=[(1,Z0 us),(3,Z0 os),(4,Z0 ls),(5,.p b1 0),(7,.p b2 0),(11,Z7 zs u),(12,.i k)]/\h=[.obj b2 (Yg s),.obj b1 (ZU n),.tail u 1]/\m=s.args.length-k) _ _ _ ⟨0,os,v3,ob,ob,(fun z hz=>hz),rfl,rfl,rfl⟩ (wk [1,1,0] (fq (fw (Ya fl)))) ?_)))))))
 rintro m F h ⟨k,zs,u,Yj,Zp,Zy,rfl,rfl,rfl⟩
 refine aq (ar (ZY 3 26 (.i k) 28 (Z0 s.args) [0] [b2] (iw (Yh s.args) (Z1 1 30 (.b (decide ((k:Int)<(s.args.length:Int)))) (ie (ZM ((k:Int)<(s.args.length:Int)) (fun Zk=>?_) (fun Zk=>?_)))))))
 ·obtain ⟨a1,ha1⟩:=Zr (xs:=s.args) (j:=k) om
  have har:=hf.args a1 (Y7 ha1)
  refine ak (aq (ab 1 (ar (Y2 4 (.n 33 (ZD n) (.n 34 (Z0 us) (.n 35 (Y3 s) (.n 36 (.i k) .r)))) [1,0] [b1,b2] (ZA [] (EF n us s k a1 (hnum:=hf.call) (ha:=ha1)) (Z1 1 38 (.b (UX n us s.op s.num a1 k)) (ib (b:=UX n us s.op s.num a1 k) 38 (fun Zz=>?_) (fun Zz=>?_))))))))
  ·have X0:UX n us s.op s.num a1 k=true:=(Iff.rfl).1 Zz
   refine Y2 5 (.n 39 (ZD n) (.n 40 (Y3 s) (.n 41 (.i k) (.n 42 (Z0 os) (.n 43 (Z0 ls) (.k (.d .r))))))) [1,0] [b1,b2] (ic [] (Lf n s k mm os ls) ?_)
   rintro _ _ ⟨wr1,rfl,rfl⟩
   refine Z1 2 46 (.b (!wr1)) (ie (ac (!wr1) (p:=¬(wr1=true)) (Yw Iff.rfl) (fun ZG=>?_) (fun ZG=>?_)))
   ·refine az (Y2 4 (.n 47 (Z7 zs u) (.n 49 (Z0 s.args) (.n 50 (.i k) .r))) [0] [b2] (Zq (Zm none (k:Int) 1 (Y4 ha1)) (Z5 1 (.n 47 (Z0 zs) (.n 52 (.i a1) (.q 51 (.d .r)))) (ic [] (Lm zs a1) ?_))))
    rintro _ _ ⟨v4,rfl,rfl⟩
    refine ir 1 [(1,Z0 us),(3,Z0 os),(4,Z0 ls),(5,.p b1 0),(7,.p b2 0),(11,Z7 (UR zs a1) v4),(12,.i k)] (ie (az (Z1 1 31 (.i k) (ZL k (Z5 1 (.n 12 (.i (k+1:Nat)) (.p (.d (.w (.k (.k .z)))))) (ie ?_))))))
    exact ZO ⟨k+1,(UR zs a1),v4,ob,(by first|exact Zp|exact Vh (CO _ _) Zp),(by first|exact Zy|exact (fun z hz=>Zy z (BO hz))),rfl,rfl,rfl⟩ (wk [1,1,0] (fq (fw (ZQ k fl))))
   refine ak (az (Z1 1 31 (.i k) (ZL k (ir 1 [(1,Z0 us),(3,Z0 os),(4,Z0 ls),(5,.p b1 0),(7,.p b2 0),(11,Z7 zs u),(12,.i (k+1:Nat))] (ie ?_)))))
   exact ZO ⟨k+1,zs,u,ob,(by first|exact Zp|exact Vh (CO _ _) Zp),(by first|exact Zy|exact (fun z hz=>Zy z (BO hz))),rfl,rfl,rfl⟩ (ZT 3 (fq (fw (ZQ k fl))))
  have XB:¬(UX n us s.op s.num a1 k=true):=ZI Iff.rfl Zz
  refine Z5 8 (.n 46 (.b false) (.k (.d .r))) (ie (WT (ak (az (Z1 1 31 (.i k) (ZL k (ir 1 [(1,Z0 us),(3,Z0 os),(4,Z0 ls),(5,.p b1 0),(7,.p b2 0),(11,Z7 zs u),(12,.i (k+1:Nat))] (ie ?_))))))))
  exact ZO ⟨k+1,zs,u,ob,(by first|exact Zp|exact Vh (CO _ _) Zp),(by first|exact Zy|exact (fun z hz=>Zy z (BO hz))),rfl,rfl,rfl⟩ (ZT 3 (fq (fw (ZQ k fl))))
 refine ax 0 (ar (ir 2 [(10,Z7 zs u)] (ie ?_)))
 exact Zb (r1 [2] ⟨zs,u,rfl,rfl,(by first|exact hco|exact ⟨by omega,Zy⟩)⟩)
theorem SM (n:Zx) (s:Z4) (os:List Int) (ls:List Int) (mm:Nat) (hn:Xd n:=by exact ob) (hf:FS n.decls n.routines.length mm s:=by exact ob) (ho:os.length<=100000000:=by exact ob) (hl:ls.length<=100000000:=by exact ob):Zi Tryz.prog 259 [ZD n,Y3 s,Z0 os,Z0 ls] [] (fun r h=>∃(zs:List Int),r=Z0 zs/\h=[]/\zs.length<=s.args.length/\∀z∈zs,z∈s.args):=by
 have hal:=hf.alen
 refine ZK 50 Tryz.func259 (ar (iA (ZU n) ?_))
 intro b1
 refine iA (Yg s) ?_
 intro b2
 refine ir 1 [(2,Z0 os),(3,Z0 ls),(4,.p b1 0),(5,.p b2 0)] (ie (ar (iL (Z8 []) 0 1 ?_)))
 intro v1
 refine Z1 1 9 (Z7 [] v1) (ie (aq (ar (Z1 1 10 (.i 0) (ie (ab 0 (al (fun m F h=>∃(k:Nat) (zs:List Int) (u:Value),(k<=s.args.length)/\(zs.length<=k)/\(∀z∈zs,z∈s.args)/\F=[(2,Z0 os),(3,Z0 ls),(4,.p b1 0),(5,.p b2 0),(9,Z7 zs u),(10,.i k)]/\h=[.obj b2 (Yg s),.obj b1 (ZU n),.tail u 1]/\m=s.args.length-k) _ _ _ ⟨0,[],v1,ob,ob,(fun z hz=>by cases hz),rfl,rfl,rfl⟩ (wk [1,1,0] (fq (fr (Ya fl)))) ?_)))))))
 rintro m F h ⟨k,zs,u,Yj,Zp,Zy,rfl,rfl,rfl⟩
 refine aq (ar (ZY 3 12 (.i k) 14 (Z0 s.args) [0] [b2] (iw (Yh s.args) (Z1 1 16 (.b (decide ((k:Int)<(s.args.length:Int)))) (ie (ZM ((k:Int)<(s.args.length:Int)) (fun Ze=>?_) (fun Ze=>?_)))))))
 ·obtain ⟨a1,ha1⟩:=Zr (xs:=s.args) (j:=k) om
  have har:=hf.args a1 (Y7 ha1)
  refine ak (aq (ab 1 (ar (Y2 3 (.n 19 (ZD n) (.n 20 (Y3 s) (.n 21 (.i k) .r))) [1,0] [b1,b2] (ZA [] (CY n s k (hnum:=hf.call)) (XQ 13 [(2,Z0 os),(3,Z0 ls),(4,.p b1 0),(5,.p b2 0),(9,Z7 zs u),(10,.i k),(31,.b (WK n s.op s.num k&&(decide (a1∈os))))] [.obj b2 (Yg s),.obj b1 (ZU n),.tail u 1] ?_ (fun hj1=>?_)))))))
  ·refine Xo [(2,Z0 os),(3,Z0 ls),(4,.p b1 0),(5,.p b2 0),(9,Z7 zs u),(10,.i k),(41,.b ((WK n s.op s.num k&&(decide (a1∈os)))&&(!(decide (a1∈ls)))))] [.obj b2 (Yg s),.obj b1 (ZU n),.tail u 1] ?_ ?_
   ·refine ir 1 [(2,Z0 os),(3,Z0 ls),(4,.p b1 0),(5,.p b2 0),(9,Z7 zs u),(10,.i k),(32,.b (WK n s.op s.num k&&(decide (a1∈os))))] (ib (b:=(WK n s.op s.num k&&(decide (a1∈os)))) 32 (fun Za=>?_) (fun Za=>?_))
    ·have ZP:(WK n s.op s.num k=true)/\(a1∈os):=((YD Iff.rfl dq)).1 Za
     refine Y2 4 (.n 33 (Z0 ls) (.n 35 (Z0 s.args) (.n 36 (.i k) (.w (.k (.k (.k .z))))))) [0] [b2] (Zq (Zm none (k:Int) 1 (Y4 ha1)) (Z1 1 38 (.i a1) (ZA [] (U8 ls a1) (Z1 2 41 (.b (!(decide (a1∈ls)))) (ie ?_)))))
     exact ZT 3 (fq (fw (Zu (!(decide (a1∈ls))) Za fl)))
    have Y1:¬((WK n s.op s.num k=true)/\(a1∈os)):=ZI (YD Iff.rfl dq) Za
    refine Z5 9 (.n 41 (.b false) (.d (.w (.k (.k .z))))) (ie ?_)
    exact ZT 3 (fq (fw (Zu false Za fl)))
   refine ac ((WK n s.op s.num k&&(decide (a1∈os)))&&(!(decide (a1∈ls)))) (p:=((WK n s.op s.num k=true)/\(a1∈os))/\(¬(a1∈ls))) (YD (YD Iff.rfl dq) (Yw dq)) (fun Zk=>?_) (fun Zk=>?_)
   ·refine az (iR 4 [(2,Z0 os),(3,Z0 ls),(4,.p b1 0),(5,.p b2 0),(10,.i k),(42,Z7 zs u),(44,Z0 s.args),(45,.i k)] [0] [b2] (Zq (Zm none (k:Int) 1 (Y4 ha1)) (Z5 1 (.n 42 (Z0 zs) (.n 47 (.i a1) (.p (.w (.k .z))))) (ic [] (Cq zs a1) ?_))))
    rintro _ _ ⟨v2,rfl,rfl⟩
    refine Z1 1 9 (Z7 (V5 zs a1) v2) (ie (az (Z1 1 17 (.i k) (ZL k (Z5 1 (.n 10 (.i (k+1:Nat)) (.p (.d (.k (.p (.d (.d (.w .z)))))))) (ie ?_))))))
    exact ZO ⟨k+1,(V5 zs a1),v2,ob,(by first|omega|(have:=BE zs a1;omega)),(by first|exact Zy|exact (fun z hz=>(Cy.1 hz).elim (Zy z) (fun e=>e▸Y7 ha1))),rfl,rfl,rfl⟩ (wk [1,1,0] (fq (fr (ZQ k fl))))
   refine ak (az (ir 1 [(2,Z0 os),(3,Z0 ls),(4,.p b1 0),(5,.p b2 0),(9,Z7 zs u),(17,.i k)] (ZL k (Z1 1 10 (.i (k+1:Nat)) (ie ?_)))))
   exact ZO ⟨k+1,zs,u,ob,(by first|omega|(have:=BE zs a1;omega)),(by first|exact Zy|exact (fun z hz=>(Cy.1 hz).elim (Zy z) (fun e=>e▸Y7 ha1))),rfl,rfl,rfl⟩ (ZT 3 (fq (fr (ZQ k fl))))
  refine ir 1 [(2,Z0 os),(3,Z0 ls),(4,.p b1 0),(5,.p b2 0),(9,Z7 zs u),(10,.i k),(23,.b (WK n s.op s.num k))] (ib (b:=WK n s.op s.num k) 23 (fun Zz=>?_) (fun Zz=>?_))
  ·have Yy:WK n s.op s.num k=true:=(Iff.rfl).1 Zz
   refine Y2 4 (.n 24 (Z0 os) (.n 26 (Z0 s.args) (.n 27 (.i k) (.w (.k (.k (.k .z))))))) [0] [b2] (Zq (Zm none (k:Int) 1 (Y4 ha1)) (Z1 1 29 (.i a1) (ZA [] (U8 os a1) (Z1 1 31 (.b (decide (a1∈os))) ?_))))
   exact YG (ZT 3 (fq (fw (Zu (decide (a1∈os)) Zz fl)))) hj1
  have YK:¬(WK n s.op s.num k=true):=ZI Iff.rfl Zz
  refine Z5 8 (.n 31 (.b false) (.d (.w (.k (.k .z))))) ?_
  exact YG (ZT 3 (fq (fw (Zu false Zz fl)))) hj1
 refine ax 0 (ar (ir 2 [(8,Z7 zs u)] (ie ?_)))
 exact Zb (r2 [] [Z7 zs u] ⟨zs,rfl,rfl,⟨by omega,Zy⟩⟩ (Zg.forget _ _))
theorem BX (rt:Yb) (b:Z6) (hp:rt.params.length<=4294967296:=by exact ob) (hl:rt.lent.length<=4294967296:=by exact ob):Zi Tryz.prog 114 [WS rt,Zs b] [] (fun r h=>r=WS (Yb.mk rt.params rt.lent rt.result b)/\h=[]):=by
 refine ZK 15 Tryz.func114 (ar (iA (VW rt) ?_))
 intro b1
 refine iA (Yk b) ?_
 intro b2
 refine iA [nl,nl,.i 0,nl,.i 0] ?_
 intro b3
 refine ie (aD 11 (W2 4 11 [0,1,3,4,6,7,8] [(4,.p b3 0),(6,Z0 rt.params),(9,Z0 rt.lent),(12,.i rt.result),(13,Zs b)] [2,2,2,1] [b1,b1,b1,b2] (Z9 2 (dc 2 [] [1,2,2] [b2,b1,b1] (VP rt.params) ?_))))
 rintro _ _ ⟨v1,rfl,rfl⟩
 refine Z9 5 (dc 5 [] [1,2] [b2,b1] (VP rt.lent) ?_)
 rintro _ _ ⟨v2,rfl,rfl⟩
 refine ZZ 1 2 [9] 14 (.agg [Z7 rt.params v1,Z7 rt.lent v2,.i rt.result,Ye b.steps,.i b.result]) (Z9 10 (YL 10 2 [] [] b3 [Z7 rt.params v1,Z7 rt.lent v2,.i rt.result,Ye b.steps,.i b.result] (de ?_)))
 exact Zb (r3 [] [.agg [Z7 rt.params v1,Z7 rt.lent v2,.i rt.result,Ye b.steps,.i b.result]] [0] [(b3,b3)] ⟨rfl,rfl⟩ (Zg.agg (.cons (Zg.sl _ (Yx Z8 ob)) (.cons (Zg.sl _ (Yx Z8 ob)) (.cons li (.cons (Zg.sl _ (Yx Zv ob)) (.cons li .nil)))))))
theorem Sq (n:Zx) (us:List Int) (fds:List Int) (kd:Z6) (os:List Int) (ls:List Int) (mm:Nat) (bb:Nat) (hn:Xd n:=by exact ob) (hf:fB n.decls n.routines.length (mm+fds.length) kd:=by exact ob) (hop:WZ Wr kd:=by exact ob) (hul:us.length=mm:=by exact ob) (hfl:fds.length<=3:=by exact ob) (hm:mm+3+4*kd.sz<=100000:=by exact ob) (hor:∀v∈os,0<=v/\v<(mm:Int)) (hol:os.length+3+4*kd.sz<=730:=by exact ob) (hal:ls.length+2000*kd.sz<=1000000:=by exact ob) (hbz:kd.sz<=500:=by exact ob) (hb:kd.sz<bb:=by exact ob) (ih:∀(us2:List Int) (b2:Z6) (os2:List Int) (as2:List Int) (m2:Nat),(fB n.decls n.routines.length m2 b2)->(WZ Wr b2)->(us2.length=m2)->(m2+4*b2.sz<=100000)->(∀v∈os2,0<=v/\v<(m2:Int))->(os2.length+4*b2.sz<=730)->(as2.length+2000*b2.sz<=1000000)->(b2.sz<=500)->(b2.sz<bb)->Zi Tryz.prog 228 [ZD n,Z0 us2,Zs b2,Z0 os2,Z0 as2] [] (fun r h=>∃(y:Z6),r=Zs y/\h=[]/\KB n.decls n.routines.length m2 y (4500*b2.sz))):Zi Tryz.prog 267 [ZD n,Z0 us,Z0 fds,Zs kd,Z0 os,Z0 ls] [] (fun r h=>∃(y:Z6),r=Zs y/\h=[]/\KB n.decls n.routines.length (mm+fds.length) y (4500*kd.sz+1470)):=by
 refine ZK 115 Tryz.func267 (ar (iA (ZU n) ?_))
 intro b1
 refine iA (Yk kd) ?_
 intro b2
 refine iA [nl,.i 0] ?_
 intro b3
 refine ie (ar (ir 1 [(1,Z0 us),(2,Z0 fds),(4,Z0 os),(5,Z0 ls),(6,.p b1 0),(9,.p b2 0),(12,.p b3 0),(23,Z0 us)] (iw (Yh us) (Z1 1 13 (.i us.length) (ie (ar (Yq 2 25 (Z0 us) 26 (Z0 fds) (ic [] (Q9 us fds) ?_))))))))
 rintro _ _ ⟨v1,rfl,rfl⟩
 refine Z1 1 14 (Z7 (us++fds) v1) (ie (ar (ZY 2 28 (Zs kd) 29 (Z7 (us++fds) v1) [2] [b2] (io (.i (((us++fds).length:Nat):Int)) (.i (((Z8 (us++fds)).length:Nat):Int)) (li (by rw [Yh])) (ZA [] (NN kd (((us++fds).length:Nat):Int)) ?_)))))
 have hub:=EJ (n:=(((us++fds).length:Nat):Int)) kd []
 simp only [Xm,WQ] at hub
 refine Z1 1 15 (Z0 (XZ (((us++fds).length:Nat):Int) kd [])) (ie (ar (iL (Z8 []) 0 1 ?_)))
 intro v2
 refine Z1 1 16 (Z7 [] v2) (ie (ar (iL (Z8 []) 0 1 ?_)))
 intro v3
 refine Z1 1 17 (Z7 [] v3) (ie (aq (ar (Z1 1 18 (.i 0) (ie (ab 0 (al (fun m F h=>∃(k:Nat) (ms:List Int) (u:Value) (dr:List Int) (w:Value),(k<=os.length)/\(ms.length<=k)/\(dr.length<=k)/\(∀v∈ms,0<=v/\v<(mm:Int))/\(∀v∈dr,0<=v/\v<(mm:Int))/\F=[(2,Z0 fds),(4,Z0 os),(5,Z0 ls),(6,.p b1 0),(9,.p b2 0),(12,.p b3 0),(13,.i us.length),(14,Z0 (us++fds)),(15,Z0 (XZ (((us++fds).length:Nat):Int) kd [])),(16,Z7 ms u),(17,Z7 dr w),(18,.i k)]/\h=[.obj b3 [nl,.i 0],.obj b2 (Yk kd),.obj b1 (ZU n),.tail u 1,.tail w 1]/\m=os.length-k) _ _ _ ⟨0,[],v2,[],v3,ob,ob,ob,(fun v hv=>by cases hv),(fun v hv=>by cases hv),rfl,rfl,rfl⟩ (wk [3,3,3,1,0] (fq (fw (fr (fc (x:=Z7 (us++fds) v1) (Zg.forget _ _) (fw (fr (Ya fl)))))))) ?_)))))))
 rintro m F h ⟨k,ms,u,dr,w,Yj,Zp,Zy,YJ,Wg,rfl,rfl,rfl⟩
 refine aq (ar (Yq 2 34 (.i k) 35 (Z0 os) (iw (Yh os) (Z1 1 37 (.b (decide ((k:Int)<(os.length:Int)))) (ie (ZM ((k:Int)<(os.length:Int)) (fun Ze=>?_) (fun Ze=>?_)))))))
 ·obtain ⟨o1,ho1⟩:=Zr (xs:=os) (j:=k) om
  have hor1:=hor o1 (Y7 ho1)
  refine ak (aq (ab 1 (ar (Z5 3 (.n 40 (Z0 (XZ (((us++fds).length:Nat):Int) kd [])) (.n 41 (Z0 os) (.n 42 (.i k) .r))) (Zq (Zm none (k:Int) 1 (Y4 ho1)) (Z1 1 44 (.i o1) (ZA [] (U8 (XZ (((us++fds).length:Nat):Int) kd []) o1) (Xo [(2,Z0 fds),(4,Z0 os),(5,Z0 ls),(6,.p b1 0),(9,.p b2 0),(12,.p b3 0),(13,.i us.length),(14,Z0 (us++fds)),(15,Z0 (XZ (((us++fds).length:Nat):Int) kd [])),(16,Z7 ms u),(17,Z7 dr w),(18,.i k),(53,.b ((decide (o1∈(XZ (((us++fds).length:Nat):Int) kd [])))||(decide (o1∈ls))))] [.obj b3 [nl,.i 0],.obj b2 (Yk kd),.obj b1 (ZU n),.tail u 1,.tail w 1] ?_ ?_))))))))
  ·refine ir 1 [(2,Z0 fds),(4,Z0 os),(5,Z0 ls),(6,.p b1 0),(9,.p b2 0),(12,.p b3 0),(13,.i us.length),(14,Z0 (us++fds)),(15,Z0 (XZ (((us++fds).length:Nat):Int) kd [])),(16,Z7 ms u),(17,Z7 dr w),(18,.i k),(46,.b (decide (o1∈(XZ (((us++fds).length:Nat):Int) kd []))))] (ib (b:=(decide (o1∈(XZ (((us++fds).length:Nat):Int) kd [])))) 46 (fun Za=>?_) (fun Za=>?_))
   ·have ZP:o1∈(XZ (((us++fds).length:Nat):Int) kd []):=(dq).1 Za
    refine Z5 7 (.n 53 (.b true) (.d (.w (.w (.w .z))))) (ie ?_)
    exact ZT 5 (fq (fq (fq (Zu true Za fl))))
   have Y1:¬(o1∈(XZ (((us++fds).length:Nat):Int) kd [])):=ZI dq Za
   refine Z5 3 (.n 47 (Z0 ls) (.n 48 (Z0 os) (.n 49 (.i k) (.w (.w (.w (.k .z))))))) (Zq (Zm none (k:Int) 1 (Y4 ho1)) (Z1 1 51 (.i o1) (ZA [] (U8 ls o1) (Z1 1 53 (.b (decide (o1∈ls))) (ie ?_)))))
   exact ZT 5 (fq (fq (fq (Zu (decide (o1∈ls)) Za fl))))
  refine ac ((decide (o1∈(XZ (((us++fds).length:Nat):Int) kd [])))||(decide (o1∈ls))) (p:=(o1∈(XZ (((us++fds).length:Nat):Int) kd []))∨(o1∈ls)) (Yo dq dq) (fun Zk=>?_) (fun Zk=>?_)
  ·refine az (ir 3 [(2,Z0 fds),(4,Z0 os),(5,Z0 ls),(6,.p b1 0),(9,.p b2 0),(12,.p b3 0),(13,.i us.length),(14,Z0 (us++fds)),(15,Z0 (XZ (((us++fds).length:Nat):Int) kd [])),(17,Z7 dr w),(18,.i k),(54,Z7 ms u),(55,Z0 os),(56,.i k)] (Zq (Zm none (k:Int) 1 (Y4 ho1)) (Z1 1 58 (.i o1) (iL (Z8 [o1]) 1 1 ?_))))
   intro v4
   refine Z5 0 (.n 59 (Z0 [o1]) (.p .r)) (ip 4 (Z8 (ms++[o1])) (Z8 ms) (Z8 [o1]) u none 1 (YF _) (YF _) (XX _) (by simp<;>omega) (by simp [XW,Z8]) ?_)
   intro v5
   refine Z1 1 16 (Z7 (ms++[o1]) v5) (ie (az (Z1 1 38 (.i k) (ZL k (Z5 1 (.n 18 (.i (k+1:Nat)) (.p (.d (.k (.p (.d (.d (.p (.w (.w (.k (.k .z)))))))))))) (ie ?_))))))
   exact ZO ⟨k+1,(ms++[o1]),v5,dr,w,ob,ob,ob,(by first|exact YJ|exact Xp YJ hor1),(by first|exact Wg|exact Xp Wg hor1),rfl,rfl,rfl⟩ (wk [2,2,2,0,1] (fq (fq (fw (fr (ZQ k fl))))))
  refine az (ir 3 [(2,Z0 fds),(4,Z0 os),(5,Z0 ls),(6,.p b1 0),(9,.p b2 0),(12,.p b3 0),(13,.i us.length),(14,Z0 (us++fds)),(15,Z0 (XZ (((us++fds).length:Nat):Int) kd [])),(16,Z7 ms u),(18,.i k),(61,Z7 dr w),(62,Z0 os),(63,.i k)] (Zq (Zm none (k:Int) 1 (Y4 ho1)) (Z1 1 65 (.i o1) (iL (Z8 [o1]) 1 1 ?_))))
  intro v6
  refine Z5 0 (.n 66 (Z0 [o1]) (.p .r)) (ip 5 (Z8 (dr++[o1])) (Z8 dr) (Z8 [o1]) w none 1 (YF _) (YF _) (XX _) (by simp<;>omega) (by simp [XW,Z8]) ?_)
  intro v7
  refine Z1 1 17 (Z7 (dr++[o1]) v7) (ie (az (Z1 1 38 (.i k) (ZL k (Z5 1 (.n 18 (.i (k+1:Nat)) (.p (.d (.k (.p (.d (.d (.p (.w (.w (.k (.k .z)))))))))))) (ie ?_))))))
  exact ZO ⟨k+1,ms,u,(dr++[o1]),v7,ob,ob,ob,(by first|exact YJ|exact Xp YJ hor1),(by first|exact Wg|exact Xp Wg hor1),rfl,rfl,rfl⟩ (wk [2,2,2,2,0] (fq (fq (fw (fr (ZQ k fl))))))
 refine ax 0 (ar (iL (Z8 []) 0 1 ?_))
 intro v8
 refine Z1 1 19 (Z7 [] v8) (ie (aq (ar (Z1 1 20 (.i 0) (ie (ab 2 (al (fun m F h=>∃(k:Nat) (ps:List Int) (w2:Value),(k<=fds.length)/\(ps.length<=k)/\(∀v∈ps,(mm:Int)<=v/\v<((mm+fds.length:Nat):Int))/\F=[(2,Z0 fds),(5,Z0 ls),(6,.p b1 0),(9,.p b2 0),(12,.p b3 0),(13,.i us.length),(14,Z0 (us++fds)),(15,Z0 (XZ (((us++fds).length:Nat):Int) kd [])),(16,Z7 ms u),(17,Z7 dr w),(19,Z7 ps w2),(20,.i k)]/\h=[.obj b3 [nl,.i 0],.obj b2 (Yk kd),.obj b1 (ZU n),.tail u 1,.tail w 1,.tail w2 1]/\m=fds.length-k) _ _ _ ⟨0,[],v8,ob,ob,(fun v hv=>by cases hv),rfl,rfl,rfl⟩ (wk [1,1,1,1,1,0] (fq (fq (fw (fr (Ya fl)))))) ?_)))))))
 rintro m F h ⟨k,ps,w2,VS,XH,XE,rfl,rfl,rfl⟩
 refine aq (ar (Yq 2 69 (.i k) 70 (Z0 fds) (iw (Yh fds) (Z1 1 72 (.b (decide ((k:Int)<(fds.length:Int)))) (ie (ZM ((k:Int)<(fds.length:Int)) (fun ZG=>?_) (fun ZG=>?_)))))))
 ·refine ak (aq (ab 3 (ar (Yq 2 75 (Z0 fds) 76 (.i k) ?_))))
  obtain ⟨x1,Z3⟩:=Zr (xs:=fds) (j:=k) om
  refine Zq (Zm none (k:Int) 1 (Y4 Z3)) (Xo [(2,Z0 fds),(5,Z0 ls),(6,.p b1 0),(9,.p b2 0),(12,.p b3 0),(13,.i us.length),(14,Z0 (us++fds)),(15,Z0 (XZ (((us++fds).length:Nat):Int) kd [])),(16,Z7 ms u),(17,Z7 dr w),(19,Z7 ps w2),(20,.i k),(86,.b ((x1 != 0)&&(decide (((us.length+k:Nat):Int)∈(XZ (((us++fds).length:Nat):Int) kd [])))))] [.obj b3 [nl,.i 0],.obj b2 (Yk kd),.obj b1 (ZU n),.tail u 1,.tail w 1,.tail w2 1] ?_ ?_)
  ·refine ir 3 [(2,Z0 fds),(5,Z0 ls),(6,.p b1 0),(9,.p b2 0),(12,.p b3 0),(13,.i us.length),(14,Z0 (us++fds)),(15,Z0 (XZ (((us++fds).length:Nat):Int) kd [])),(16,Z7 ms u),(17,Z7 dr w),(19,Z7 ps w2),(20,.i k),(80,.b (x1 != 0))] (ib (b:=(x1 != 0)) 80 (fun Zz=>?_) (fun Zz=>?_))
   ·have Yy:x1≠0:=(Yi).1 Zz
    refine Z5 3 (.n 81 (Z0 (XZ (((us++fds).length:Nat):Int) kd [])) (.n 82 (.i us.length) (.n 83 (.i k) (.w (.w (.w (.k .z))))))) (ia (((us.length+k:Nat):Int)) (((us.length:Int))+((k:Int))) (ZA [] (U8 (XZ (((us++fds).length:Nat):Int) kd []) ((us.length+k:Nat):Int)) (Z1 1 86 (.b (decide (((us.length+k:Nat):Int)∈(XZ (((us++fds).length:Nat):Int) kd [])))) (ie ?_))))
    exact ZT 6 (fq (fq (fq (Zu (decide (((us.length+k:Nat):Int)∈(XZ (((us++fds).length:Nat):Int) kd []))) Zz fl))))
   have YK:¬(x1≠0):=ZI Yi Zz
   refine Z5 6 (.n 86 (.b false) (.d (.w (.w (.w .z))))) (ie ?_)
   exact ZT 6 (fq (fq (fq (Zu false Zz fl))))
  refine ac ((x1 != 0)&&(decide (((us.length+k:Nat):Int)∈(XZ (((us++fds).length:Nat):Int) kd [])))) (p:=(x1≠0)/\(((us.length+k:Nat):Int)∈(XZ (((us++fds).length:Nat):Int) kd []))) (YD Yi dq) (fun Ym=>?_) (fun Ym=>?_)
  ·refine az (ir 3 [(2,Z0 fds),(5,Z0 ls),(6,.p b1 0),(9,.p b2 0),(12,.p b3 0),(13,.i us.length),(14,Z0 (us++fds)),(15,Z0 (XZ (((us++fds).length:Nat):Int) kd [])),(16,Z7 ms u),(17,Z7 dr w),(20,.i k),(87,Z7 ps w2),(88,.i us.length),(89,.i k)] (ia (((us.length+k:Nat):Int)) (((us.length:Int))+((k:Int))) (iL (Z8 [((us.length+k:Nat):Int)]) 1 1 ?_)))
   intro v9
   refine Z5 0 (.n 91 (Z0 [((us.length+k:Nat):Int)]) (.p .r)) (ip 6 (Z8 (ps++[((us.length+k:Nat):Int)])) (Z8 ps) (Z8 [((us.length+k:Nat):Int)]) w2 none 1 (YF _) (YF _) (XX _) (by simp<;>omega) (by simp [XW,Z8]) ?_)
   intro v10
   refine Z1 1 19 (Z7 (ps++[((us.length+k:Nat):Int)]) v10) (ie (az (Z1 1 73 (.i k) (ZL k (Z5 1 (.n 20 (.i (k+1:Nat)) (.p (.d (.k (.p (.d (.p (.w (.w (.k (.k .z))))))))))) (ie ?_))))))
   exact ZO ⟨k+1,(ps++[((us.length+k:Nat):Int)]),v10,ob,ob,(by first|exact XE|exact Xp XE om),rfl,rfl,rfl⟩ (wk [2,2,2,2,2,0] (fq (fq (fw (fr (ZQ k fl))))))
  refine ak (az (ir 1 [(2,Z0 fds),(5,Z0 ls),(6,.p b1 0),(9,.p b2 0),(12,.p b3 0),(13,.i us.length),(14,Z0 (us++fds)),(15,Z0 (XZ (((us++fds).length:Nat):Int) kd [])),(16,Z7 ms u),(17,Z7 dr w),(19,Z7 ps w2),(73,.i k)] (ZL k (Z1 1 20 (.i (k+1:Nat)) (ie ?_)))))
  exact ZO ⟨k+1,ps,w2,ob,ob,(by first|exact XE|exact Xp XE om),rfl,rfl,rfl⟩ (ZT 6 (fq (fq (fw (fr (ZQ k fl))))))
 refine ax 2 (ar (Z1 1 93 (Z0 ps) (ic [] (Qs 14 ps) ?_)))
 rintro _ _ ⟨v11,rfl,rfl⟩
 refine Z1 1 95 (Z0 dr) (ic [] (Qs 15 dr) ?_)
 rintro _ _ ⟨v12,rfl,rfl⟩
 refine Z5 0 (.n 96 (Ye (dr.map (Zj 15))) (.p .r)) (ip 1 (Zv ((ps.map (Zj 14))++(dr.map (Zj 15)))) (Zv (ps.map (Zj 14))) (Zv (dr.map (Zj 15))) v11 none 5 (X8 _) (X8 _) (Vv _) (by simp<;>omega) (by simp [Wy,Zv]) ?_)
 intro v13
 refine Z1 1 21 (ZX ((ps.map (Zj 14))++(dr.map (Zj 15))) v13) (ie (aD 12 (Y6 5 12 [0,1,2,3,4,6,7] (.n 98 (ZD n) (.n 99 (Z0 (us++fds)) (.n 100 (Zs kd) (.n 101 (Z7 ms u) (.n 102 (Z7 ps w2) (.n 104 (Z0 ls) (.n 105 (.i us.length) .r))))))) [4,3] [b1,b2] (dK (fun F h=>∃(y1:Z6) (b4:Nat) (zs1:List Int),(zs1.length<=ls.length/\∀z∈zs1,z∈ls)/\(KB n.decls n.routines.length (mm+fds.length) y1 (4500*kd.sz))/\F=[(12,.p b3 0),(21,ZX ((ps.map (Zj 14))++(dr.map (Zj 15))) v13),(22,.p b4 0)]/\h=[.obj b4 (Yk y1),.tail v13 5,.tail v12 5,.obj b3 [nl,.i 0],.obj b2 (Yk kd),.obj b1 (ZU n),.tail w 1,.tail w2 1]) ?_ ?_))))
 ·refine Vj 5 10 ?_ ?_
  ·refine dp 5 5 [1,2] [b2,b1] (Z8 (ms++ps)) (Z8 ms) (Z8 ps) u (some w2) 1 (YF _) (YF _) (XX _) (by simp<;>omega) (by simp [XW,Z8]) ?_
   intro v14
   refine Vj 8 10 ?_ ?_
   ·refine dc 8 [] [1,2] [b2,b1] (G7 ls (us.length:Int)) ?_
    rintro _ _ ⟨zs1,v15,rfl,rfl,X0⟩
    have hbl:=X0
    refine Xa 3 3 [] [(12,.p b3 0),(21,ZX ((ps.map (Zj 14))++(dr.map (Zj 15))) v13),(98,ZD n),(99,Z0 (us++fds)),(100,Zs kd),(103,Z0 (ms++ps)),(106,Z0 zs1)] (Vj 9 10 ?_ ?_)
    ·refine dc 9 [] [] [] (ih (us++fds) kd (ms++ps) zs1 (mm+fds.length) hf hop (by rw [Yz,hul]) ob (fun v hv=>by rcases Xr.1 hv with h|h;exact (by have:=YJ v h;omega);exact (by have:=XE v h;omega)) (by rw [Yz];omega) ob ob ob) ?_
     rintro _ _ ⟨y1,rfl,rfl,XB⟩
     have hkb:=XB
     have hkl:=hkb.len
     refine Z9 10 (dA 10 [] [] [nl,.i 0] ?_)
     intro b4
     refine Z9 11 (YL 11 0 [] [] b4 (Yk y1) (de ?_))
     exact ZW ⟨_,b4,_,(by assumption),(by assumption),rfl,rfl⟩ (wk [0,2,2,2,2,2,2,2] fl)
    refine dA 10 [1,2] [b2,b1] [nl,.i 0] ?_
    intro b5
    refine Z9 9 (dc 9 [] [] [] (ih (us++fds) kd (ms++ps) zs1 (mm+fds.length) hf hop (by rw [Yz,hul]) ob (fun v hv=>by rcases Xr.1 hv with h|h;exact (by have:=YJ v h;omega);exact (by have:=XE v h;omega)) (by rw [Yz];omega) ob ob ob) ?_)
    rintro _ _ ⟨y2,rfl,rfl,Wk⟩
    have hkb:=Wk
    have hkl:=hkb.len
    refine Z9 11 (YL 11 0 [] [] b5 (Yk y2) (de ?_))
    exact ZW ⟨_,b5,_,(by assumption),(by assumption),rfl,rfl⟩ (wk [0,2,2,2,2,2,2,2] fl)
   refine dA 10 [1,2] [b2,b1] [nl,.i 0] ?_
   intro b6
   refine Z9 8 (dc 8 [] [2,3] [b2,b1] (G7 ls (us.length:Int)) ?_)
   rintro _ _ ⟨zs2,v16,rfl,rfl,WJ⟩
   have hbl:=WJ
   refine Xa 2 2 [] [(12,.p b3 0),(21,ZX ((ps.map (Zj 14))++(dr.map (Zj 15))) v13),(22,.p b6 0),(98,ZD n),(99,Z0 (us++fds)),(100,Zs kd),(103,Z0 (ms++ps)),(106,Z0 zs2)] (Z9 9 (dc 9 [] [] [] (ih (us++fds) kd (ms++ps) zs2 (mm+fds.length) hf hop (by rw [Yz,hul]) ob (fun v hv=>by rcases Xr.1 hv with h|h;exact (by have:=YJ v h;omega);exact (by have:=XE v h;omega)) (by rw [Yz];omega) ob ob ob) ?_))
   rintro _ _ ⟨y3,rfl,rfl,V4⟩
   have hkb:=V4
   have hkl:=hkb.len
   refine Z9 11 (YL 11 1 [] [] b6 (Yk y3) (de ?_))
   exact ZW ⟨_,b6,_,(by assumption),(by assumption),rfl,rfl⟩ (wk [0,2,2,2,2,2,2,2] fl)
  refine dA 10 [1,2] [b2,b1] [nl,.i 0] ?_
  intro b7
  refine Xa 4 4 [] [(12,.p b3 0),(21,ZX ((ps.map (Zj 14))++(dr.map (Zj 15))) v13),(22,.p b7 0),(98,ZD n),(99,Z0 (us++fds)),(100,Zs kd),(101,Z7 ms u),(102,Z0 ps),(104,Z0 ls),(105,.i us.length)] (Z9 5 (dp 5 6 [2,3] [b2,b1] (Z8 (ms++ps)) (Z8 ms) (Z8 ps) u none 1 (YF _) (YF _) (XX _) (by simp<;>omega) (by simp [XW,Z8]) ?_))
  intro v17
  refine Z9 8 (dc 8 [] [2,3] [b2,b1] (G7 ls (us.length:Int)) ?_)
  rintro _ _ ⟨zs3,v18,rfl,rfl,Ug⟩
  have hbl:=Ug
  refine Y0 2 2 [] (.n 103 (Z0 (ms++ps)) (.n 106 (Z0 zs3) (.p (.p .r)))) (Z9 9 (dc 9 [] [] [] (ih (us++fds) kd (ms++ps) zs3 (mm+fds.length) hf hop (by rw [Yz,hul]) ob (fun v hv=>by rcases Xr.1 hv with h|h;exact (by have:=YJ v h;omega);exact (by have:=XE v h;omega)) (by rw [Yz];omega) ob ob ob) ?_))
  rintro _ _ ⟨y4,rfl,rfl,UM⟩
  have hkb:=UM
  have hkl:=hkb.len
  refine Z9 11 (YL 11 2 [] [] b7 (Yk y4) (de ?_))
  exact ZW ⟨_,b7,_,(by assumption),(by assumption),rfl,rfl⟩ (wk [0,2,2,2,2,2,2,2] fl)
 rintro F h ⟨y1,b4,zs1,X0,XB,rfl,rfl⟩
 have hbl:=X0
 have hkb:=XB
 have hkl:=hkb.len
 refine aD 8 (W2 3 8 [0,1,2,4,5] [(12,.p b3 0),(108,ZX ((ps.map (Zj 14))++(dr.map (Zj 15))) v13),(110,Ye y1.steps),(113,.i y1.result)] [0,0] [b4,b4] (Z9 3 (dp 3 1 [0] [b4] (Zv (((ps.map (Zj 14))++(dr.map (Zj 15)))++y1.steps)) (Zv ((ps.map (Zj 14))++(dr.map (Zj 15)))) (Zv y1.steps) v13 none 5 (X8 _) (X8 _) (Vv _) (by simp<;>omega) (by simp [Wy,Zv]) ?_)))
 intro v19
 refine ZZ 1 2 [6] 114 (.agg [ZX (((ps.map (Zj 14))++(dr.map (Zj 15)))++y1.steps) v19,.i y1.result]) (Z9 7 (YL 7 3 [] [] b3 [ZX (((ps.map (Zj 14))++(dr.map (Zj 15)))++y1.steps) v19,.i y1.result] (de ?_)))
 exact Zb (r3 [] [.agg [ZX (((ps.map (Zj 14))++(dr.map (Zj 15)))++y1.steps) v19,.i y1.result]] [0] [(b3,b3)] ⟨(Z6.mk (((ps.map (Zj 14))++(dr.map (Zj 15)))++y1.steps) y1.result),rfl,rfl,((hkb.put (fun v hv=>by have:=XE v hv;omega) (fun v hv=>by have:=Wg v hv;omega)).le om)⟩ (Zg.agg (.cons (Zg.forget _ _) (.cons (lr _) .nil))))
theorem Sr (n:Zx) (us:List Int) (s:Z4) (os:List Int) (ls:List Int) (mm:Nat) (bb:Nat) (hn:Xd n:=by exact ob) (hf:FS n.decls n.routines.length mm s:=by exact ob) (h11:s.op<=11:=by exact ob) (hop:Q4 Wr s.kids:=by exact ob) (hul:us.length=mm:=by exact ob) (hm:mm+4*s.sz<=100000:=by exact ob) (hor:∀v∈os,0<=v/\v<(mm:Int)) (hol:os.length+4*s.sz<=730:=by exact ob) (hal:ls.length+2000*s.sz<=1000000:=by exact ob) (hbz:s.sz<=500:=by exact ob) (hb:s.sz<=bb:=by exact ob) (ih:∀(us2:List Int) (b2:Z6) (os2:List Int) (as2:List Int) (m2:Nat),(fB n.decls n.routines.length m2 b2)->(WZ Wr b2)->(us2.length=m2)->(m2+4*b2.sz<=100000)->(∀v∈os2,0<=v/\v<(m2:Int))->(os2.length+4*b2.sz<=730)->(as2.length+2000*b2.sz<=1000000)->(b2.sz<=500)->(b2.sz<bb)->Zi Tryz.prog 228 [ZD n,Z0 us2,Zs b2,Z0 os2,Z0 as2] [] (fun r h=>∃(y:Z6),r=Zs y/\h=[]/\KB n.decls n.routines.length m2 y (4500*b2.sz))):Zi Tryz.prog 257 [ZD n,Z0 us,Y3 s,Z0 os,Z0 ls] [] (fun r h=>∃(y:Z4),r=Y3 y/\h=[]/\KT n.decls n.routines.length mm y (4500*YR s.kids+4420)):=by
 have Xu:=hn.decls
 have hkf:=hf.few Xu
 have hsa:=hf.alen
 refine ZK 62 Tryz.func257 (ar (iA (ZU n) ?_))
 intro b1
 refine iA (Yg s) ?_
 intro b2
 refine iA [.i 0,.i 0,.i 0,nl,nl] ?_
 intro b3
 refine ie (ar (iL (YH []) 0 2 ?_))
 intro v1
 refine ir 1 [(1,Z0 us),(3,Z0 os),(4,Z0 ls),(5,.p b1 0),(7,.p b2 0),(10,.p b3 0),(11,X4 [] v1)] (ie (ar (ZY 4 17 (Zd n.decls) 19 (.i s.num) [3,2] [b1,b2] (ic [] (KS n.decls s.num) ?_))))
 rintro _ _ ⟨v2,rfl,rfl⟩
 refine Z1 1 12 (Z7 (Zw n.decls s.num) v2) (ie (aq (ar (Z1 1 13 (.i 0) (ie (ab 0 (al (fun m F h=>∃(k:Nat) (ks:List Z6) (u:Value),(k<=s.kids.length)/\(ks.length=k)/\(KK n.decls n.routines.length (UA n.decls s.op s.num mm) ks (4500*YR (s.kids.take k)+1470*k))/\F=[(1,Z0 us),(3,Z0 os),(4,Z0 ls),(5,.p b1 0),(7,.p b2 0),(10,.p b3 0),(11,X4 ks u),(12,Z0 (Zw n.decls s.num)),(13,.i k)]/\h=[.obj b3 [.i 0,.i 0,.i 0,nl,nl],.obj b2 (Yg s),.obj b1 (ZU n),.tail u 2]/\m=s.kids.length-k) _ _ _ ⟨0,[],v1,ob,ob,(KK.nil.le (K5 _)),rfl,rfl,rfl⟩ (wk [2,2,2,1] (fq (fw (fr (fc (x:=Z7 (Zw n.decls s.num) v2) (Zg.forget _ _) (Ya fl)))))) ?_)))))))
 rintro m F h ⟨k,ks,u,Yj,Zp,Zy,rfl,rfl,rfl⟩
 refine aq (ar (ZY 3 21 (.i k) 23 (Yu s.kids) [1] [b2] (iw (VG s.kids) (Z1 1 25 (.b (decide ((k:Int)<(s.kids.length:Int)))) (ie (ZM ((k:Int)<(s.kids.length:Int)) (fun Ze=>?_) (fun Ze=>?_)))))))
 ·refine ak (aq (ab 1 (ar (iL (Z8 []) 0 1 ?_))))
  intro v3
  refine Z1 1 14 (Z7 [] v3) (ie (aq (ar (Yl 3 31 (.b (s.op==8)) [2] [b2] (ie (XI (fun F h=>∃(fds:List Int),(UA n.decls s.op s.num mm k=mm+fds.length)/\(fds.length<=3)/\F=[(1,Z0 us),(3,Z0 os),(4,Z0 ls),(5,.p b1 0),(7,.p b2 0),(10,.p b3 0),(11,X4 ks u),(12,Z0 (Zw n.decls s.num)),(13,.i k),(14,Z0 fds)]/\h=[.obj b3 [.i 0,.i 0,.i 0,nl,nl],.obj b2 (Yg s),.obj b1 (ZU n),.tail u 2]) ?_ ?_))))))
  ·refine ac (s.op==8) Zh (fun Zk=>?_) (fun Zk=>?_)
   ·refine aE 8 (W2 4 8 [0,1,2,3] [(1,Z0 us),(3,Z0 os),(4,Z0 ls),(5,.p b1 0),(7,.p b2 0),(10,.p b3 0),(11,X4 ks u),(12,Z0 (Zw n.decls s.num)),(13,.i k),(14,Z7 [] v3),(33,Zd n.decls),(34,Z0 (Zw n.decls s.num)),(35,.i k)] [3] [b1] ?_)
    obtain ⟨x1,Z3⟩:=Zr (xs:=Zw n.decls s.num) (j:=k) (by have:=hf.k8 (by assumption);omega)
    have hcf:=VK Xu x1
    refine dx 4 (Zm none (k:Int) 1 (Y4 Z3)) (ZZ 2 3 [5] 37 (.i x1) (Z9 6 (Yv 6 [] [] [] (Qr n.decls x1) (Y0 0 1 [7] (.n 14 (Z0 (ZC n.decls x1)) (.p (.d (.p (.w (.w (.k .z))))))) (de ?_)))))
    exact ZW ⟨ZC n.decls x1,(H6 (by assumption) Z3),ob,rfl,rfl⟩ (wk [1,1,1,1] fl)
   refine ak ?_
   exact ZW ⟨[],(by rw [H7 (by assumption)];rfl),ob,rfl,rfl⟩ (wk [1,1,1,1] fl)
  rintro F h ⟨fds,Vy,Jo,rfl,rfl⟩
  refine aE 15 (W2 8 15 [0,1,2,3,4,5,6] [(1,Z0 us),(3,Z0 os),(4,Z0 ls),(5,.p b1 0),(7,.p b2 0),(10,.p b3 0),(11,X4 ks u),(12,Z0 (Zw n.decls s.num)),(13,.i k),(39,X4 ks u),(40,ZD n),(41,Z0 us),(42,Z0 fds),(44,Yu s.kids),(45,.i k)] [2,1] [b1,b2] ?_)
  obtain ⟨x2,Zt⟩:=Zr (xs:=s.kids) (j:=k) om
  have hkz:=Uy Zt
  have hfk:=Ck hf.kids Zt
  rw [WQ,Vy] at hfk
  have hok:=BN.1 hop x2 (Y7 Zt)
  have hbt:=Dj Zt
  have hba:=C9 Zt
  refine dx 7 (Zm none (k:Int) 2 (U5 Zt)) (Y0 4 7 [8,9,10] (.n 47 (Zs x2) (.n 48 (Z0 os) (.n 49 (Z0 ls) .r))) (Z9 11 (dc 11 [] [] [] (Sq n us fds x2 os ls mm bb (hf:=hfk) (hop:=hok) (hor:=hor) (ih:=ih)) ?_)))
  rintro _ _ ⟨y1,rfl,rfl,ZP⟩
  have hkb:=ZP
  refine Z9 12 (Wj 12 [] [] [Zs y1] (YH [y1]) (Ur [y1]).symm 1 2 ?_)
  intro v4
  refine Y0 2 2 [] (.n 51 (Yu [y1]) (.p .r)) (Z9 13 (dp 13 4 [] [] (YH (ks++[y1])) (YH ks) (YH [y1]) u none 2 (T7 _) (T7 _) (Dr _) (by simp<;>omega) (by simp [J8,YH]) ?_))
  intro v5
  refine Y0 0 1 [14] (.n 11 (X4 (ks++[y1]) v5) (.q 52 (.k (.q 50 (.k (.k (.k (.q 46 (.w (.k (.k (.d .r)))))))))))) (de (az (Z1 1 26 (.i k) (ZL k (Z5 1 (.n 13 (.i (k+1:Nat)) (.p (.d (.k (.d (.d (.d (.d (.d (.d (.d (.w (.k (.k (.k .z))))))))))))))) (ie ?_))))))
  exact ZO ⟨k+1,(ks++[y1]),v5,ob,ob,((Zy.snoc Zp (by rw [Vy];exact hkb)).le om),rfl,rfl,rfl⟩ (wk [2,2,2,0] (fq (fq (ZQ k fl))))
 refine ax 0 (aD 10 (Y6 3 10 [0,1,2,3,4,5,7] (.n 54 (.i s.op) (.n 56 (.i s.num) (.n 58 (Z0 s.args) (.n 60 (X4 ks u) .r)))) [1,1,1] [b2,b2,b2] (Z9 6 (dc 6 [] [1,1] [b2,b2] (VP s.args) ?_))))
 rintro _ _ ⟨v6,rfl,rfl⟩
 refine ZZ 1 2 [8] 61 (.agg [.i s.op,.i s.num,.i 0,Z7 s.args v6,X4 ks u]) (Z9 9 (YL 9 1 [] [] b3 [.i s.op,.i s.num,.i 0,Z7 s.args v6,X4 ks u] (de ?_)))
 exact Zb (r3 [] [.agg [.i s.op,.i s.num,.i 0,Z7 s.args v6,X4 ks u]] [0] [(b3,b3)] ⟨(Z4.mk s.op s.num 0 s.args ks),rfl,rfl,((KT.of (into:=0) hf h11 om om Zy).le (by have:=Dk (xs:=s.kids) (k:=k) om;omega))⟩ (Zg.agg (.cons (lr _) (.cons (lr _) (.cons (lr _) (.cons (Zg.forget _ _) (.cons (Zg.forget _ _) .nil)))))))
theorem So (n:Zx) (us:List Int) (b:Z6) (os:List Int) (ls:List Int) (mm:Nat) (hn:Xd n) (hf:fB n.decls n.routines.length mm b) (hop:WZ Wr b) (hul:us.length=mm) (hm:mm+4*b.sz<=100000) (hor:∀v∈os,0<=v/\v<(mm:Int)) (hol:os.length+4*b.sz<=730) (hal:ls.length+2000*b.sz<=1000000) (hbz:b.sz<=500) (ih:∀(us2:List Int) (b2:Z6) (os2:List Int) (as2:List Int) (m2:Nat),(fB n.decls n.routines.length m2 b2)->(WZ Wr b2)->(us2.length=m2)->(m2+4*b2.sz<=100000)->(∀v∈os2,0<=v/\v<(m2:Int))->(os2.length+4*b2.sz<=730)->(as2.length+2000*b2.sz<=1000000)->(b2.sz<=500)->(b2.sz<b.sz)->Zi Tryz.prog 228 [ZD n,Z0 us2,Zs b2,Z0 os2,Z0 as2] [] (fun r h=>∃(y:Z6),r=Zs y/\h=[]/\KB n.decls n.routines.length m2 y (4500*b2.sz))):Zi Tryz.prog 228 [ZD n,Z0 us,Zs b,Z0 os,Z0 ls] [] (fun r h=>∃(y:Z6),r=Zs y/\h=[]/\KB n.decls n.routines.length mm y (4500*b.sz)):=by
 have Xu:=hn.decls
 have hbe:=b.sz_eq
 have ZE:=Vf b
 obtain ⟨hfs,hr1,hr2⟩:=(Cj b).1 hf
 have hos:=B5.1 ((Ed b).1 hop)
 have hdn:=Fy hos
 have hdl:=hdn b.steps.length (X6 _)
 rw [Vp] at hdl
 refine ZK 149 Tryz.func228 (ar (iA (ZU n) ?_))
 intro b1
 refine iA (Yk b) ?_
 intro b2
 refine iA [nl,.i 0] ?_
 intro b3
 refine ie (ar (iL (Zv []) 0 5 ?_))
 intro v1
 refine ir 1 [(1,Z0 us),(3,Z0 os),(4,Z0 ls),(5,.p b1 0),(7,.p b2 0),(10,.p b3 0),(11,ZX [] v1)] (ie (ar (Z1 1 22 (Z0 us) (ic [] (VP us) ?_))))
 rintro _ _ ⟨v2,rfl,rfl⟩
 refine Z1 1 12 (Z7 us v2) (ie (ar (Z1 1 24 (Z0 os) (ic [] (VP os) ?_))))
 rintro _ _ ⟨v3,rfl,rfl⟩
 refine Z1 1 13 (Z7 os v3) (ie (aq (ar (Z1 1 14 (.i 0) (ie (ab 0 (al (fun m F h=>∃(k:Nat) (vs:List Int) (w:Value) (ms:List Int) (u:Value) (xs:List Z4) (v:Value),(k<=b.steps.length)/\(vs.length=mm+k)/\(CL n.decls n.routines.length mm xs k (4500*Yp (b.steps.take k)))/\(ms.length<=os.length+k)/\(∀v∈ms,0<=v/\v<((mm+k:Nat):Int))/\F=[(4,Z0 ls),(5,.p b1 0),(7,.p b2 0),(10,.p b3 0),(11,ZX xs v),(12,Z7 vs w),(13,Z7 ms u),(14,.i k)]/\h=[.obj b3 [nl,.i 0],.obj b2 (Yk b),.obj b1 (ZU n),.tail u 1,.tail v 5,.tail w 1]/\m=b.steps.length-k) _ _ _ ⟨0,us,v2,os,v3,[],v1,ob,ob,CL.nil,ob,hor,rfl,rfl,rfl⟩ (wk [3,3,3,0,1,0] (fq (fw (fr (Ya fl))))) ?_)))))))
 rintro m F h ⟨k,vs,w,ms,u,xs,v,Yj,Zp,Zy,YJ,Wg,rfl,rfl,rfl⟩
 refine aq (ar (ZY 3 26 (.i k) 28 (Ye b.steps) [1] [b2] (iw (Vl b.steps) (Z1 1 30 (.b (decide ((k:Int)<(b.steps.length:Int)))) (ie (ZM ((k:Int)<(b.steps.length:Int)) (fun Ze=>?_) (fun Ze=>?_)))))))
 ·refine ak (aq (ab 1 (ar (ZY 3 34 (Ye b.steps) 35 (.i k) [1] [b2] ?_))))
  obtain ⟨x1,Z3⟩:=Zr (xs:=b.steps) (j:=k) om
  have Xq:=An Z3
  have hfS:=(DA x1).1 (Cl hfs Z3)
  rw [hdn k om] at hfS
  have hoS:=(CM x1).1 (hos x1 (Y7 Z3))
  have htk:=EH Z3
  have hse:=(x1).sz_eq
  have hal4:=hfS.alen
  have hxl:=Zy.len
  have htl:=Qa b.steps (k+1)
  have hsd:=NS b.steps (k+1)
  have hul2:=Hz (n:=((vs.length+1:Nat):Int)) (b.steps.drop (k+1)) []
  have hul3:=EK (n:=((vs.length+1:Nat):Int)) (VZ ((vs.length+1:Nat):Int) (b.steps.drop (k+1)) []) b.result
  simp only [Xm,WQ] at hul2
  refine Zq (Zm none (k:Int) 5 (Wa Z3)) (Z1 1 37 (Y3 x1) (iA [.i 0,.i 0,.i 0,nl,nl] ?_))
  intro b4
  refine ZF 0 b4 (Yg x1) (ie (ar (Z1 1 38 (Z7 vs w) (iw (Yh vs) (Z1 1 16 (.i vs.length) (ie (ar (Y2 3 (.n 40 (ZD n) (.n 41 (Z0 vs) (.n 42 (Y3 x1) .r))) [3,0] [b1,b4] (ZA [] (Hl n vs x1 ob ob) (Z1 1 17 (.i (ZV n vs x1)) (ie (ar (ZY 2 44 (Zs b) 45 (.i vs.length) [2] [b2] (ia (((vs.length+1:Nat):Int)) (((vs.length:Int))+(1)) (Z1 1 47 (.i k) (ZL k (iL (Z8 []) 0 1 ?_)))))))))))))))))
  intro v4
  refine Z5 0 (.n 49 (Z0 []) (.p .r)) (ZA [] (Nz b ((vs.length+1:Nat):Int) (k+1) [] (hk:=om) (hz:=(by simp only [Xm];omega))) (Z1 1 51 (Z0 ls) (ic [] (Z0e (VB ((vs.length+1:Nat):Int) (VZ ((vs.length+1:Nat):Int) (b.steps.drop (k+1)) []) b.result) ls) ?_)))
  rintro _ _ ⟨zs1,rfl,rfl,ZP⟩
  have hun:=ZP
  refine Z1 1 18 (Z0 zs1) (ie (ar (Y2 6 (.n 53 (ZX xs v) (.n 54 (ZD n) (.n 55 (Z0 vs) (.n 56 (Y3 x1) (.n 57 (Z0 ms) (.n 58 (Z0 zs1) .r)))))) [4,1] [b1,b4] (ic [] (Sv n vs x1 ms zs1 (mm+k) (hf:=hfS)) ?_))))
  rintro _ _ ⟨zs2,rfl,rfl,Y1⟩
  have hdu:=Y1
  have hq1:=Zy.cnts (op:=14) (.inl rfl) (vs:=zs2) (fun v hv=>hfS.args v (hdu.2 v hv))
  have hl1:=hq1.len
  refine ic [] (Qs 14 zs2) ?_
  rintro _ _ ⟨v5,rfl,rfl⟩
  refine Z5 0 (.n 60 (Ye (zs2.map (Zj 14))) (.p .r)) (ip 7 (Zv (xs++(zs2.map (Zj 14)))) (Zv xs) (Zv (zs2.map (Zj 14))) v none 5 (X8 _) (X8 _) (Vv _) (by simp<;>omega) (by simp [Wy,Zv]) ?_)
  intro v6
  refine Z5 1 (.n 11 (ZX (xs++(zs2.map (Zj 14))) v6) (.p (.d (.p (.d (.d (.d (.d (.d (.d (.k (.p (.d (.p (.d (.p (.d (.p (.d (.d (.k (.p (.d (.d (.d (.k (.p (.d (.q 15 (.d (.p (.d (.d (.d (.p (.d (.d (.w (.d .r))))))))))))))))))))))))))))))))))))))) (ie (ar (Y2 6 (.n 62 (ZX (xs++(zs2.map (Zj 14))) v6) (.n 63 (ZD n) (.n 64 (Z0 vs) (.n 65 (Y3 x1) (.n 66 (Z0 ms) (.n 67 (Z0 zs1) .r)))))) [6,3] [b1,b4] (ic [] (Sr n vs x1 ms zs1 (mm+k) b.sz (hf:=hfS) (h11:=hoS.1) (hop:=hoS.2) (hor:=Wg) (ih:=ih)) ?_))))
  rintro _ _ ⟨y1,rfl,rfl,Yy⟩
  have hkt:=Yy
  have hq2:=hq1.kt hkt
  have hl2:=hq2.len
  refine U7 [Y3 y1] (Zv [y1]) (Vd [y1]).symm 1 5 ?_
  intro v7
  refine Z5 0 (.n 69 (Ye [y1]) (.p .r)) (ip 1 (Zv ((xs++(zs2.map (Zj 14)))++[y1])) (Zv (xs++(zs2.map (Zj 14)))) (Zv [y1]) v6 none 5 (X8 _) (X8 _) (Vv _) (by simp<;>omega) (by simp [Wy,Zv]) ?_)
  intro v8
  refine Z5 1 (.n 11 (ZX ((xs++(zs2.map (Zj 14)))++[y1]) v8) (.p (.d (.p (.d (.d (.d (.d (.d (.d (.d .r))))))))))) (ie (ar (Y2 5 (.n 71 (ZD n) (.n 72 (Z0 vs) (.n 73 (Y3 x1) (.n 74 (Z0 ms) (.n 75 (Z0 zs1) .r))))) [7,4] [b1,b4] (ic [] (SK n vs x1 ms zs1 (mm+k) (hf:=hfS)) ?_))))
  rintro _ _ ⟨zs3,v9,rfl,rfl,YK⟩
  have hla:=YK
  refine Z5 1 (.n 13 (Z7 zs3 v9) (.p (.d (.d (.d (.d (.d (.w (.w (.k (.k (.d .r)))))))))))) (ie (ar (Y2 4 (.n 77 (ZD n) (.n 78 (Y3 x1) (.n 79 (Z0 zs3) (.n 80 (Z0 zs1) .r)))) [8,5] [b1,b4] (ic [] (SM n x1 zs3 zs1 (mm+k) (hf:=hfS)) ?_))))
  rintro _ _ ⟨zs4,rfl,rfl,X0⟩
  have hld:=X0
  have hq3:=hq2.cnts (op:=15) (.inr rfl) (vs:=zs4) (fun v hv=>by have:=hfS.args v (hld.2 v hv);omega)
  have hl3:=hq3.len
  refine Z1 1 19 (Z0 zs4) (ie (ar (Yq 2 82 (ZX ((xs++(zs2.map (Zj 14)))++[y1]) v8) 83 (Z0 zs4) (ic [] (Qs 15 zs4) ?_))))
  rintro _ _ ⟨v10,rfl,rfl⟩
  refine Z5 0 (.n 84 (Ye (zs4.map (Zj 15))) (.p .r)) (ip 2 (Zv (((xs++(zs2.map (Zj 14)))++[y1])++(zs4.map (Zj 15)))) (Zv ((xs++(zs2.map (Zj 14)))++[y1])) (Zv (zs4.map (Zj 15))) v8 none 5 (X8 _) (X8 _) (Vv _) (by simp<;>omega) (by simp [Wy,Zv]) ?_)
  intro v11
  refine Z5 1 (.n 11 (ZX (((xs++(zs2.map (Zj 14)))++[y1])++(zs4.map (Zj 15))) v11) (.q 85 (.w (.q 81 (.w (.k (.d .r))))))) (ie (aq (ar (Z1 1 20 (.i 0) (ie (ab 2 (al (fun m F h=>∃(j:Nat) (m3:List Int) (u3:Value) (v3:Value) (w3:Value),(j<=zs4.length)/\(m3.length<=os.length+k)/\(∀v∈m3,0<=v/\v<((mm+k:Nat):Int))/\F=[(4,Z0 ls),(5,.p b1 0),(7,.p b2 0),(10,.p b3 0),(11,ZX (((xs++(zs2.map (Zj 14)))++[y1])++(zs4.map (Zj 15))) v3),(12,Z7 vs w3),(13,Z7 m3 u3),(14,.i k),(16,.i vs.length),(17,.i (ZV n vs x1)),(18,Z0 zs1),(19,Z0 zs4),(20,.i j)]/\h=[.obj b3 [nl,.i 0],.obj b2 (Yk b),.obj b1 (ZU n),.tail u3 1,.tail v3 5,.tail w3 1]/\m=zs4.length-j) _ _ _ ⟨0,zs3,v9,v11,w,ob,ob,(fun v hv=>Wg v (hla.2 v hv)),rfl,rfl,rfl⟩ (wk [7,7,7,2,0,6] (fq (fq (fq (Ya fl))))) ?_)))))))
  rintro m F h ⟨j,m3,u3,v3,w3,VS,XH,XE,rfl,rfl,rfl⟩
  refine aq (ar (Yq 2 86 (.i j) 87 (Z0 zs4) (iw (Yh zs4) (Z1 1 89 (.b (decide ((j:Int)<(zs4.length:Int)))) (ie (ZM ((j:Int)<(zs4.length:Int)) (fun Zk=>?_) (fun Zk=>?_)))))))
  ·refine ak (aq (ab 3 (az (Z5 3 (.n 92 (Z7 m3 u3) (.n 93 (Z0 zs4) (.n 94 (.i j) .r))) ?_))))
   obtain ⟨x2,Zt⟩:=Zr (xs:=zs4) (j:=j) om
   refine Zq (Zm none (j:Int) 1 (Y4 Zt)) (Z5 1 (.n 92 (Z0 m3) (.n 96 (.i x2) (.q 95 (.d .r)))) (ic [] (Lm m3 x2) ?_))
   rintro _ _ ⟨v12,rfl,rfl⟩
   refine Z5 1 (.n 13 (Z7 (UR m3 x2) v12) (.p (.d (.d (.d (.d (.d (.d (.p (.d (.d (.w (.k (.k (.d .r))))))))))))))) (ie (az (Z1 1 90 (.i j) (ZL j (Z5 1 (.n 20 (.i (j+1:Nat)) (.p (.d (.w (.w (.w .z)))))) (ie ?_))))))
   exact ZO ⟨j+1,(UR m3 x2),v12,v3,w3,ob,(Vh (CO _ _) XH),(fun v hv=>XE v (BO hv)),rfl,rfl,rfl⟩ (wk [1,1,1,0,1,1] (fq (fq (fq (ZQ j fl)))))
  refine ax 2 (ar (Yq 2 98 (Z7 vs w3) 99 (.i (ZV n vs x1)) (iL (Z8 [ZV n vs x1]) 1 1 ?_)))
  intro v13
  refine Z5 0 (.n 100 (Z0 [ZV n vs x1]) (.p .r)) (ip 6 (Z8 (vs++[ZV n vs x1])) (Z8 vs) (Z8 [ZV n vs x1]) w3 none 1 (YF _) (YF _) (XX _) (by simp<;>omega) (by simp [XW,Z8]) ?_)
  intro v14
  refine Z5 1 (.n 12 (Z7 (vs++[ZV n vs x1]) v14) (.q 101 (.w (.q 88 (.w (.k (.k (.k (.d .r))))))))) (ie (ar (Xo [(4,Z0 ls),(5,.p b1 0),(7,.p b2 0),(10,.p b3 0),(11,ZX (((xs++(zs2.map (Zj 14)))++[y1])++(zs4.map (Zj 15))) v3),(12,Z7 (vs++[ZV n vs x1]) v14),(13,Z7 m3 u3),(14,.i k),(16,.i vs.length),(17,.i (ZV n vs x1)),(108,.b (((ZV n vs x1) != 0)&&(decide ((vs.length:Int)∈zs1))))] [.tail v14 1,.tail v13 1,.obj b3 [nl,.i 0],.obj b2 (Yk b),.obj b1 (ZU n),.tail u3 1,.tail v3 5] ?_ ?_)))
  ·refine ir 3 [(4,Z0 ls),(5,.p b1 0),(7,.p b2 0),(10,.p b3 0),(11,ZX (((xs++(zs2.map (Zj 14)))++[y1])++(zs4.map (Zj 15))) v3),(12,Z7 (vs++[ZV n vs x1]) v14),(13,Z7 m3 u3),(14,.i k),(16,.i vs.length),(17,.i (ZV n vs x1)),(18,Z0 zs1),(104,.b ((ZV n vs x1) != 0))] (ib (b:=((ZV n vs x1) != 0)) 104 (fun Za=>?_) (fun Za=>?_))
   ·have XB:(ZV n vs x1)≠0:=(Yi).1 Za
    refine Z5 2 (.n 105 (Z0 zs1) (.n 106 (.i vs.length) (.w (.w (.k (.k (.k .z))))))) (ZA [] (U8 zs1 (vs.length:Int)) (Z1 1 108 (.b (decide ((vs.length:Int)∈zs1))) (ie ?_)))
    exact ZT 7 (fq (fq (fw (Zu (decide ((vs.length:Int)∈zs1)) Za fl))))
   have Wk:¬((ZV n vs x1)≠0):=ZI Yi Za
   refine Z5 4 (.n 108 (.b false) (.d (.w (.w (.k (.k .z)))))) (ie ?_)
   exact ZT 7 (fq (fq (fw (Zu false Za fl))))
  refine ac (((ZV n vs x1) != 0)&&(decide ((vs.length:Int)∈zs1))) (p:=((ZV n vs x1)≠0)/\((vs.length:Int)∈zs1)) (YD Yi dq) (fun ZG=>?_) (fun ZG=>?_)
  ·refine az (ir 2 [(4,Z0 ls),(5,.p b1 0),(7,.p b2 0),(10,.p b3 0),(11,ZX (((xs++(zs2.map (Zj 14)))++[y1])++(zs4.map (Zj 15))) v3),(12,Z7 (vs++[ZV n vs x1]) v14),(14,.i k),(109,Z7 m3 u3),(110,.i vs.length)] (iL (Z8 [(vs.length:Int)]) 1 1 ?_))
   intro v15
   refine Z5 0 (.n 111 (Z0 [(vs.length:Int)]) (.p .r)) (ip 6 (Z8 (m3++[(vs.length:Int)])) (Z8 m3) (Z8 [(vs.length:Int)]) u3 none 1 (YF _) (YF _) (XX _) (by simp<;>omega) (by simp [XW,Z8]) ?_)
   intro v16
   refine Z1 1 13 (Z7 (m3++[(vs.length:Int)]) v16) (ie (az (Z1 1 31 (.i k) (ZL k (Z5 1 (.n 14 (.i (k+1:Nat)) (.p (.d (.k (.p (.d (.w (.k (.k .z))))))))) (ie ?_))))))
   exact ZO ⟨k+1,(vs++[ZV n vs x1]),v14,(m3++[(vs.length:Int)]),v16,(((xs++(zs2.map (Zj 14)))++[y1])++(zs4.map (Zj 15))),v3,ob,ob,(by first|exact hq3.le om|exact (hq3.cnt (op:=15) (.inr rfl) om).le om),ob,(by first|exact Xp (fun v hv=>by have:=XE v hv;omega) om|exact (fun v hv=>by have:=XE v hv;omega)),rfl,rfl,rfl⟩ (wk [4,4,4,0,3,1] (fq (fw (fr (ZQ k fl)))))
  refine ar (ir 2 [(4,Z0 ls),(5,.p b1 0),(7,.p b2 0),(10,.p b3 0),(11,ZX (((xs++(zs2.map (Zj 14)))++[y1])++(zs4.map (Zj 15))) v3),(12,Z7 (vs++[ZV n vs x1]) v14),(13,Z7 m3 u3),(14,.i k),(16,.i vs.length),(114,.b ((ZV n vs x1) != 0))] (ie (ac ((ZV n vs x1) != 0) Yi (fun Ym=>?_) (fun Ym=>?_))))
  ·refine az (Yq 2 115 (ZX (((xs++(zs2.map (Zj 14)))++[y1])++(zs4.map (Zj 15))) v3) 116 (.i vs.length) (ZA [] (KU 15 (vs.length:Int)) (U7 [Y3 (Zj 15 (vs.length:Int))] (Zv [(Zj 15 (vs.length:Int))]) (Vd [(Zj 15 (vs.length:Int))]).symm 1 5 ?_)))
   intro v17
   refine Z5 0 (.n 118 (Ye [(Zj 15 (vs.length:Int))]) (.p .r)) (ip 7 (Zv ((((xs++(zs2.map (Zj 14)))++[y1])++(zs4.map (Zj 15)))++[(Zj 15 (vs.length:Int))])) (Zv (((xs++(zs2.map (Zj 14)))++[y1])++(zs4.map (Zj 15)))) (Zv [(Zj 15 (vs.length:Int))]) v3 none 5 (X8 _) (X8 _) (Vv _) (by simp<;>omega) (by simp [Wy,Zv]) ?_)
   intro v18
   refine Z5 1 (.n 11 (ZX ((((xs++(zs2.map (Zj 14)))++[y1])++(zs4.map (Zj 15)))++[(Zj 15 (vs.length:Int))]) v18) (.q 119 (.k (.q 117 (.w (.k (.k (.d .r)))))))) (ie (az (Z1 1 31 (.i k) (ZL k (Z5 1 (.n 14 (.i (k+1:Nat)) (.p (.d (.k (.d (.d (.d (.d (.d (.w (.k (.k .z)))))))))))) (ie ?_))))))
   exact ZO ⟨k+1,(vs++[ZV n vs x1]),v14,m3,u3,((((xs++(zs2.map (Zj 14)))++[y1])++(zs4.map (Zj 15)))++[(Zj 15 (vs.length:Int))]),v18,ob,ob,(by first|exact hq3.le om|exact (hq3.cnt (op:=15) (.inr rfl) om).le om),ob,(by first|exact Xp (fun v hv=>by have:=XE v hv;omega) om|exact (fun v hv=>by have:=XE v hv;omega)),rfl,rfl,rfl⟩ (wk [4,4,4,4,0,1] (fq (fw (fr (ZQ k fl)))))
  refine ak (az (Z1 1 31 (.i k) (ZL k (Z5 1 (.n 14 (.i (k+1:Nat)) (.p (.d (.w (.k (.k (.k .z))))))) (ie ?_)))))
  exact ZO ⟨k+1,(vs++[ZV n vs x1]),v14,m3,u3,(((xs++(zs2.map (Zj 14)))++[y1])++(zs4.map (Zj 15))),v3,ob,ob,(by first|exact hq3.le om|exact (hq3.cnt (op:=15) (.inr rfl) om).le om),ob,(by first|exact Xp (fun v hv=>by have:=XE v hv;omega) om|exact (fun v hv=>by have:=XE v hv;omega)),rfl,rfl,rfl⟩ (wk [2,2,2,2,2,0] (fq (fw (fr (ZQ k fl)))))
 have hxl:=Zy.len
 have htl:=Qa b.steps k
 refine ax 0 (aq (ar (ZY 3 120 (Z7 vs w) 122 (.i b.result) [1] [b2] ?_)))
 obtain ⟨x3,YT⟩:=Zr (xs:=vs) (j:=b.result.toNat) om
 refine Zq (Zm (some w) b.result 1 (Y4 YT)) (Xo [(7,.p b2 0),(10,.p b3 0),(11,ZX xs v),(138,.b ((x3 != 0)&&((decide (b.result∈ls))||(!(decide (b.result∈ms))))))] [.obj b3 [nl,.i 0],.obj b2 (Yk b),.obj b1 (ZU n),.tail u 1,.tail v 5,.tail w 1] ?_ ?_)
 ·refine ir 3 [(4,Z0 ls),(7,.p b2 0),(10,.p b3 0),(11,ZX xs v),(13,Z7 ms u),(126,.b (x3 != 0))] (ib (b:=(x3 != 0)) 126 (fun Zz=>?_) (fun Zz=>?_))
  ·have WJ:x3≠0:=(Yi).1 Zz
   refine Y2 3 (.n 127 (Z0 ls) (.n 129 (.i b.result) (.k (.d (.w .z))))) [1] [b2] (ZA [] (U8 ls b.result) (Z1 1 131 (.b (decide (b.result∈ls))) (ib (b:=(decide (b.result∈ls))) 131 (fun YE=>?_) (fun YE=>?_))))
   ·have V4:b.result∈ls:=(dq).1 YE
    refine Z5 7 (.n 138 (.b true) (.k (.d .r))) (ie ?_)
    exact ZT 6 (fw (fr (Zu true (And.intro Zz YE) fl)))
   have Ug:¬(b.result∈ls):=ZI dq YE
   refine Y2 3 (.n 132 (Z0 ms) (.n 134 (.i b.result) (.k (.d .r)))) [1] [b2] (ZA [] (U8 ms b.result) (Z1 3 138 (.b (!(decide (b.result∈ms)))) (ie ?_)))
   exact ZT 6 (fw (fr (Zu (!(decide (b.result∈ms))) (And.intro Zz YE) fl)))
  have UM:¬(x3≠0):=ZI Yi Zz
  refine Z5 12 (.n 138 (.b false) (.d (.d (.k (.k (.k .z)))))) (ie ?_)
  exact ZT 6 (fw (fr (Zu false Zz fl)))
 refine ac ((x3 != 0)&&((decide (b.result∈ls))||(!(decide (b.result∈ms))))) (p:=(x3≠0)/\((b.result∈ls)∨(¬(b.result∈ms)))) (YD Yi (Yo dq (Yw dq))) (fun Xi=>?_) (fun Xi=>?_)
 ·refine az (iR 3 [(7,.p b2 0),(10,.p b3 0),(139,ZX xs v),(141,.i b.result)] [1] [b2] (ZA [] (KU 14 b.result) (U7 [Y3 (Zj 14 b.result)] (Zv [Zj 14 b.result]) (Vd [Zj 14 b.result]).symm 1 5 ?_)))
  intro v19
  refine Z5 0 (.n 143 (Ye [Zj 14 b.result]) (.p .r)) (ip 5 (Zv (xs++[Zj 14 b.result])) (Zv xs) (Zv [Zj 14 b.result]) v none 5 (X8 _) (X8 _) (Vv _) (by simp<;>omega) (by simp [Wy,Zv]) ?_)
  intro v20
  refine Z1 1 11 (ZX (xs++[Zj 14 b.result]) v20) (ie (ar (Yl 4 148 (.agg [ZX (xs++[Zj 14 b.result]) v20,.i b.result]) [3] [b2] (ZF 2 b3 [ZX (xs++[Zj 14 b.result]) v20,.i b.result] (ie ?_)))))
  exact Zb (r3 [] [.agg [ZX (xs++[Zj 14 b.result]) v20,.i b.result]] [0] [(b3,b3)] ⟨(Z6.mk (xs++[Zj 14 b.result]) b.result),rfl,rfl,(((Zy.cnt (op:=14) (.inl rfl) om).block om).le (by have:=Qa b.steps k;omega))⟩ (Zg.agg (.cons (Zg.forget _ _) (.cons (lr _) .nil))))
 refine ak (ar (iR 4 [(10,.p b3 0),(148,.agg [ZX xs v,.i b.result])] [1] [b2] (ZF 0 b3 [ZX xs v,.i b.result] (ie ?_))))
 exact Zb (r3 [] [.agg [ZX xs v,.i b.result]] [0] [(b3,b3)] ⟨(Z6.mk xs b.result),rfl,rfl,((Zy.block om).le (by have:=Qa b.steps k;omega))⟩ (Zg.agg (.cons (Zg.forget _ _) (.cons (lr _) .nil))))
theorem Sn (n:Zx) (us:List Int) (b:Z6) (os:List Int) (ls:List Int) (mm:Nat) (hn:Xd n:=by exact ob) (hf:fB n.decls n.routines.length mm b:=by exact ob) (hop:WZ Wr b:=by exact ob) (hul:us.length=mm:=by exact ob) (hm:mm+4*b.sz<=100000:=by exact ob) (hor:∀v∈os,0<=v/\v<(mm:Int)) (hol:os.length+4*b.sz<=730:=by exact ob) (hal:ls.length+2000*b.sz<=1000000:=by exact ob) (hbz:b.sz<=500:=by exact ob):Zi Tryz.prog 228 [ZD n,Z0 us,Zs b,Z0 os,Z0 ls] [] (fun r h=>∃(y:Z6),r=Zs y/\h=[]/\KB n.decls n.routines.length mm y (4500*b.sz)):=by
 have key:∀k:Nat,∀(us2:List Int) (b2:Z6) (os2:List Int) (as2:List Int) (m2:Nat),(fB n.decls n.routines.length m2 b2)->(WZ Wr b2)->(us2.length=m2)->(m2+4*b2.sz<=100000)->(∀v∈os2,0<=v/\v<(m2:Int))->(os2.length+4*b2.sz<=730)->(as2.length+2000*b2.sz<=1000000)->(b2.sz<=500)->(b2.sz<k)->Zi Tryz.prog 228 [ZD n,Z0 us2,Zs b2,Z0 os2,Z0 as2] [] (fun r h=>∃(y:Z6),r=Zs y/\h=[]/\KB n.decls n.routines.length m2 y (4500*b2.sz)):=by
  intro k
  induction k with
  | zero=>intro us2 b2 os2 as2 m2 h1 h2 h3 h4 h5 h6 h7 h8 h9;omega
  | succ k ih=>intro us2 b2 os2 as2 m2 h1 h2 h3 h4 h5 h6 h7 h8 h9;exact So n us2 b2 os2 as2 m2 hn h1 h2 h3 h4 h5 h6 h7 h8 fun us3 b3 os3 as3 m3 q1 q2 q3 q4 q5 q6 q7 q8 q9=>ih us3 b3 os3 as3 m3 q1 q2 q3 q4 q5 q6 q7 q8 om
 exact key (b.sz+1) us b os ls mm hf hop hul hm hor hol hal hbz om
theorem Sp (n:Zx) (rt:Yb) (qz:Nat) (hn:Xd n:=by exact ob) (hr:RF n.decls n.routines.length qz Wr rt:=by exact ob) (hqz:qz<=181:=by exact ob):Zi Tryz.prog 200 [ZD n,WS rt] [] (fun r h=>∃(y:Z6),r=Zs y/\h=[]/\KB n.decls n.routines.length rt.params.length y (4500*qz+10)):=by
 have hrp:rt.params.length<=3:=(UV.bd (f:=⟨rt.params,rt.result,default⟩) hr.sig).1
 have hrl:=hr.lent.1
 have hrz:=hr.body.2
 refine ZK 65 Tryz.func200 (ar (iA (ZU n) ?_))
 intro b1
 refine iA (VW rt) ?_
 intro b2
 refine iA [nl,.i 0] ?_
 intro b3
 refine ie (ar (iR 4 [(2,.p b1 0),(3,.p b2 0),(4,.p b3 0),(11,Zs rt.body),(13,Z0 rt.params)] [1,1] [b2,b2] (iw (Yh rt.params) (ZA [] (NN rt.body (rt.params.length:Int)) ?_))))
 have hub:=EJ (n:=(rt.params.length:Int)) rt.body []
 simp only [Xm,WQ] at hub
 refine Z1 1 5 (Z0 (XZ (rt.params.length:Int) rt.body [])) (ie (ar (iL (Z8 []) 0 1 ?_)))
 intro v1
 refine Z1 1 6 (Z7 [] v1) (ie (ar (iL (Z8 []) 0 1 ?_)))
 intro v2
 refine Z1 1 7 (Z7 [] v2) (ie (aq (ar (Z1 1 8 (.i 0) (ie (ab 0 (al (fun m F h=>∃(k:Nat) (os:List Int) (u:Value) (dr:List Int) (w:Value),(k<=rt.params.length)/\(os.length<=k)/\(dr.length<=k)/\(∀v∈os,0<=v/\v<(rt.params.length:Int))/\(∀v∈dr,0<=v/\v<(rt.params.length:Int))/\F=[(2,.p b1 0),(3,.p b2 0),(4,.p b3 0),(5,Z0 (XZ (rt.params.length:Int) rt.body [])),(6,Z7 os u),(7,Z7 dr w),(8,.i k)]/\h=[.obj b3 [nl,.i 0],.obj b2 (VW rt),.obj b1 (ZU n),.tail u 1,.tail w 1]/\m=rt.params.length-k) _ _ _ ⟨0,[],v1,[],v2,ob,ob,ob,(fun v hv=>by cases hv),(fun v hv=>by cases hv),rfl,rfl,rfl⟩ (wk [2,2,2,1,0] (fq (fw (Ya fl)))) ?_)))))))
 rintro m F h ⟨k,os,u,dr,w,Yj,Zp,Zy,YJ,Wg,rfl,rfl,rfl⟩
 refine aq (ar (ZY 3 18 (.i k) 20 (Z0 rt.params) [1] [b2] (iw (Yh rt.params) (Z1 1 22 (.b (decide ((k:Int)<(rt.params.length:Int)))) (ie (ZM ((k:Int)<(rt.params.length:Int)) (fun Ze=>?_) (fun Ze=>?_)))))))
 ·refine ak (aq (ab 1 (ar (ZY 3 26 (Z0 rt.params) 27 (.i k) [1] [b2] ?_))))
  obtain ⟨x1,Z3⟩:=Zr (xs:=rt.params) (j:=k) om
  refine Zq (Zm none (k:Int) 1 (Y4 Z3)) (Xo [(2,.p b1 0),(3,.p b2 0),(4,.p b3 0),(5,Z0 (XZ (rt.params.length:Int) rt.body [])),(6,Z7 os u),(7,Z7 dr w),(8,.i k),(37,.b ((x1 != 0)&&(!(decide ((k:Int)∈rt.lent)))))] [.obj b3 [nl,.i 0],.obj b2 (VW rt),.obj b1 (ZU n),.tail u 1,.tail w 1] ?_ ?_)
  ·refine ir 3 [(2,.p b1 0),(3,.p b2 0),(4,.p b3 0),(5,Z0 (XZ (rt.params.length:Int) rt.body [])),(6,Z7 os u),(7,Z7 dr w),(8,.i k),(31,.b (x1 != 0))] (ib (b:=(x1 != 0)) 31 (fun Za=>?_) (fun Za=>?_))
   ·have ZP:x1≠0:=(Yi).1 Za
    refine Y2 3 (.n 33 (Z0 rt.lent) (.n 34 (.i k) (.w (.w .z)))) [1] [b2] (ZA [] (U8 rt.lent (k:Int)) (Z1 2 37 (.b (!(decide ((k:Int)∈rt.lent)))) (ie ?_)))
    exact ZT 5 (fq (fw (fr (Zu (!(decide ((k:Int)∈rt.lent))) Za fl))))
   have Y1:¬(x1≠0):=ZI Yi Za
   refine Z5 6 (.n 37 (.b false) (.d (.w (.k (.k (.k .z)))))) (ie ?_)
   exact ZT 5 (fq (fw (fr (Zu false Za fl))))
  refine ac ((x1 != 0)&&(!(decide ((k:Int)∈rt.lent)))) (p:=(x1≠0)/\(¬((k:Int)∈rt.lent))) (YD Yi (Yw dq)) (fun Zk=>?_) (fun Zk=>?_)
  ·refine ar (ir 2 [(2,.p b1 0),(3,.p b2 0),(4,.p b3 0),(5,Z0 (XZ (rt.params.length:Int) rt.body [])),(6,Z7 os u),(7,Z7 dr w),(8,.i k),(38,Z0 (XZ (rt.params.length:Int) rt.body [])),(39,.i k)] (ZA [] (U8 (XZ (rt.params.length:Int) rt.body []) (k:Int)) (ie (ZM ((k:Int)∈(XZ (rt.params.length:Int) rt.body [])) (fun ZG=>?_) (fun ZG=>?_)))))
   ·refine az (Yq 2 41 (Z7 os u) 42 (.i k) (iL (Z8 [(k:Int)]) 1 1 ?_))
    intro v3
    refine Z5 0 (.n 43 (Z0 [(k:Int)]) (.p .r)) (ip 4 (Z8 (os++[(k:Int)])) (Z8 os) (Z8 [(k:Int)]) u none 1 (YF _) (YF _) (XX _) (by simp<;>omega) (by simp [XW,Z8]) ?_)
    intro v4
    refine Z5 1 (.n 6 (Z7 (os++[(k:Int)]) v4) (.q 44 (.k (.k (.k (.q 40 (.w (.d .r)))))))) (ie (az (Z1 1 23 (.i k) (ZL k (Z5 1 (.n 8 (.i (k+1:Nat)) (.p (.d (.k (.d (.d (.d (.d (.d (.w (.k .z))))))))))) (ie ?_))))))
    exact ZO ⟨k+1,(os++[(k:Int)]),v4,dr,w,ob,ob,ob,(by first|exact YJ|exact Xp YJ om),(by first|exact Wg|exact Xp Wg om),rfl,rfl,rfl⟩ (wk [2,2,2,0,1] (fq (fw (ZQ k fl))))
   refine az (Yq 2 45 (Z7 dr w) 46 (.i k) (iL (Z8 [(k:Int)]) 1 1 ?_))
   intro v5
   refine Z5 0 (.n 47 (Z0 [(k:Int)]) (.p .r)) (ip 5 (Z8 (dr++[(k:Int)])) (Z8 dr) (Z8 [(k:Int)]) w none 1 (YF _) (YF _) (XX _) (by simp<;>omega) (by simp [XW,Z8]) ?_)
   intro v6
   refine Z5 1 (.n 7 (Z7 (dr++[(k:Int)]) v6) (.p (.d (.d (.d (.p (.w (.k (.d (.k .z)))))))))) (ie (az (Z1 1 23 (.i k) (ZL k (Z5 1 (.n 8 (.i (k+1:Nat)) (.p (.d (.w (.k (.k .z)))))) (ie ?_))))))
   exact ZO ⟨k+1,os,u,(dr++[(k:Int)]),v6,ob,ob,ob,(by first|exact YJ|exact Xp YJ om),(by first|exact Wg|exact Xp Wg om),rfl,rfl,rfl⟩ (wk [2,2,2,2,0] (fq (fw (ZQ k fl))))
  refine ak (az (ir 1 [(2,.p b1 0),(3,.p b2 0),(4,.p b3 0),(5,Z0 (XZ (rt.params.length:Int) rt.body [])),(6,Z7 os u),(7,Z7 dr w),(23,.i k)] (ZL k (Z1 1 8 (.i (k+1:Nat)) (ie ?_)))))
  exact ZO ⟨k+1,os,u,dr,w,ob,ob,ob,(by first|exact YJ|exact Xp YJ om),(by first|exact Wg|exact Xp Wg om),rfl,rfl,rfl⟩ (ZT 5 (fq (fw (ZQ k fl))))
 refine ax 0 (ar (Y2 6 (.n 49 (ZD n) (.n 51 (Z0 rt.params) (.n 53 (Zs rt.body) (.n 54 (Z7 os u) .r)))) [2,1,1] [b1,b2,b2] (iL (Z8 []) 0 1 ?_)))
 intro v7
 refine Z5 0 (.n 54 (Z0 os) (.n 55 (Z0 []) (.p (.k (.k (.k (.d .r))))))) (ic [] (Sn n rt.params rt.body os [] rt.params.length (hf:=hr.body.1) (hop:=hr.op) (hor:=YJ) (hal:=(by simp only [Xm];omega))) ?_)
 rintro _ _ ⟨y1,rfl,rfl,Yy⟩
 have hkb:=Yy
 have hkl:=hkb.len
 refine iA [nl,.i 0] ?_
 intro b4
 refine ZF 0 b4 (Yk y1) (ie (aD 9 (Y6 4 9 [0,2,3,5,6] (.n 57 (Z0 dr) (.n 60 (Ye y1.steps) (.n 63 (.i y1.result) .r))) [0,0] [b4,b4] (Z9 1 (dc 1 [] [0,0] [b4,b4] (Qs 15 dr) ?_)))))
 rintro _ _ ⟨v8,rfl,rfl⟩
 refine Z9 4 (dp 4 0 [0] [b4] (Zv ((dr.map (Zj 15))++y1.steps)) (Zv (dr.map (Zj 15))) (Zv y1.steps) v8 none 5 (X8 _) (X8 _) (Vv _) (by simp<;>omega) (by simp [Wy,Zv]) ?_)
 intro v9
 refine ZZ 1 2 [7] 64 (.agg [ZX ((dr.map (Zj 15))++y1.steps) v9,.i y1.result]) (Z9 8 (YL 8 3 [] [] b3 [ZX ((dr.map (Zj 15))++y1.steps) v9,.i y1.result] (de ?_)))
 exact Zb (r3 [] [.agg [ZX ((dr.map (Zj 15))++y1.steps) v9,.i y1.result]] [0] [(b3,b3)] ⟨(Z6.mk ((dr.map (Zj 15))++y1.steps) y1.result),rfl,rfl,((hkb.put1 (op:=15) (.inr rfl) Wg).le om)⟩ (Zg.agg (.cons (Zg.forget _ _) (.cons (lr _) .nil))))
theorem Ss (n:Zx) (qz:Nat) (hn:FO n qz Wr:=by exact ob) (hqz:qz<=181:=by exact ob):Zi Tryz.prog 159 [ZD n] [] (fun r h=>∃(n2:Zx),r=ZD n2/\h=[]/\FO n2 (4500*qz+10) Vb):=by
 have hnl:=hn.fn.len
 have Xu:=hn.fn.decls.ok
 have hok:=hn.fn.ok
 refine ZK 36 Tryz.func159 (ar (iA (ZU n) ?_))
 intro b1
 refine iA [nl,nl] ?_
 intro b2
 refine ie (ar (iR 2 [(1,.p b1 0),(2,.p b2 0),(6,Zd n.decls)] [1] [b1] (ZA [] (B7 n.decls) (iL (YN []) 0 5 ?_))))
 intro v1
 refine Z1 1 9 (.agg [Zd n.decls,Xg [] v1]) (iA [nl,nl] ?_)
 intro b3
 refine ZF 0 b3 [Zd n.decls,Xg [] v1] (ie (aq (ar (Z1 1 4 (.i 0) (ie (ab 0 (al (fun m F h=>∃(k:Nat) (rs:List Yb) (u:Value),(k<=n.routines.length)/\(rs.length=k)/\(∀r∈rs,RF n.decls n.routines.length (4500*qz+10) Vb r)/\F=[(1,.p b1 0),(2,.p b2 0),(3,.p b3 0),(4,.i k)]/\h=[.obj b3 [Zd n.decls,Xg rs u],.obj b2 [nl,nl],.obj b1 (ZU n),.tail u 5]/\m=n.routines.length-k) _ _ _ ⟨0,[],v1,ob,ob,(fun r hr=>by cases hr),rfl,rfl,rfl⟩ (wk [0,1,1,0] (fw (fr (Ya fl)))) ?_)))))))
 rintro m F h ⟨k,rs,u,Yj,Zp,Zy,rfl,rfl,rfl⟩
 refine aq (ar (ZY 3 10 (.i k) 12 (YZ n.routines) [2] [b1] (iw (VV n.routines) (Z1 1 14 (.b (decide ((k:Int)<(n.routines.length:Int)))) (ie (ZM ((k:Int)<(n.routines.length:Int)) (fun Ze=>?_) (fun Ze=>?_)))))))
 ·refine ak (aq (ab 1 (aE 19 (Y6 14 19 [0,1,2,3,4] (.n 18 (Xg rs u) (.n 20 (YZ n.routines) (.n 21 (.i k) .r))) [0,2] [b3,b1] ?_))))
  obtain ⟨x1,Z3⟩:=Zr (xs:=n.routines) (j:=k) om
  have hrf:=hn.rf (Y7 Z3)
  have hrp:(x1).params.length<=3:=(UV.bd (f:=⟨(x1).params,(x1).result,default⟩) hrf.sig).1
  have hrl:=hrf.lent.1
  have hrz:=hrf.body.2
  refine dx 5 (Zm none (k:Int) 5 (WB Z3)) (Y6 8 13 [6,7,8,9,10] (.n 23 (WS x1) (.n 24 (ZD n) (.n 26 (YZ n.routines) (.n 27 (.i k) .r)))) [2,2] [b1,b1] (dx 11 (Zm none (k:Int) 5 (WB Z3)) (ZZ 6 7 [12] 29 (WS x1) (Z9 13 (dc 13 [] [2,0] [b1,b3] (Sp n x1 qz (hr:=hrf)) ?_)))))
  rintro _ _ ⟨y1,rfl,rfl,ZP⟩
  have hkb:=ZP
  refine Z9 14 (Yv 14 [] [0] [b3] (BX x1 y1 (hp:=om) (hl:=om)) (Z9 15 (dL 15 [0] [b3] (YN [Yb.mk x1.params x1.lent x1.result y1]) 1 5 ?_)))
  intro v2
  refine Y0 3 3 [] (.n 32 (YZ [Yb.mk x1.params x1.lent x1.result y1]) (.p .r)) (Z9 16 (dp 16 4 [] [] (YN (rs++[Yb.mk x1.params x1.lent x1.result y1])) (YN rs) (YN [Yb.mk x1.params x1.lent x1.result y1]) u none 5 (Ue _) (Ue _) (JX _) (by simp<;>omega) (by simp [AM,YN]) ?_))
  intro v3
  refine ZZ 1 2 [17] 34 (.p b3 1) (Z9 18 (YL 18 2 [] [] b3 [Zd n.decls,Xg (rs++[Yb.mk x1.params x1.lent x1.result y1]) v3] (de (az (Z1 1 15 (.i k) (ZL k (ir 1 [(1,.p b1 0),(2,.p b2 0),(3,.p b3 0),(4,.i (k+1:Nat))] (ie ?_))))))))
  exact ZO ⟨k+1,(rs++[Yb.mk x1.params x1.lent x1.result y1]),v3,ob,ob,(Xp Zy (by first|exact hrf.with hkb.fb hkb.sz hkb.op|(rw [Z6.eta];exact hrf.with hkb.fb hkb.sz hkb.op))),rfl,rfl,rfl⟩ (wk [0,2,2,0] (fw (fr (ZQ k fl))))
 refine ax 0 (ar (Yl 1 35 (.agg [Zd n.decls,Xg rs u]) [0] [b3] (ZF 1 b2 [Zd n.decls,Xg rs u] (ie ?_))))
 exact Zb (r3 [] [.agg [Zd n.decls,Xg rs u]] [0] [(b2,b2)] ⟨(Zx.mk n.decls rs),rfl,rfl,(FO.fin hn.fn om Zy).1⟩ (Zg.agg (.cons (lr _) (.cons (Zg.forget _ _) .nil))))
theorem Sk (n:Zx) (us:List Int) (s:Z4) (mm:Nat) (hn:Xd n:=by exact ob) (hf:FS n.decls n.routines.length mm s:=by exact ob) (hvl:us.length=mm:=by exact ob) (hm:mm<=100000000:=by exact ob):Zi Tryz.prog 230 [ZD n,Z0 us,Y3 s] [] (fun r h=>∃(zs:List Int),r=Z0 zs/\h=[]/\zs.length<=s.args.length/\∀z∈zs,z∈s.args):=by
 have hal:=hf.alen
 refine ZK 31 Tryz.func230 (ar (iA (ZU n) ?_))
 intro b1
 refine iA (Yg s) ?_
 intro b2
 refine ir 1 [(1,Z0 us),(3,.p b1 0),(5,.p b2 0)] (ie (ar (iL (Z8 []) 0 1 ?_)))
 intro v1
 refine Z1 1 7 (Z7 [] v1) (ie (aq (ar (Z1 1 8 (.i 0) (ie (ab 0 (al (fun m F h=>∃(k:Nat) (zs:List Int) (u:Value),(k<=s.args.length)/\(zs.length<=k)/\(∀z∈zs,z∈s.args)/\F=[(1,Z0 us),(3,.p b1 0),(5,.p b2 0),(7,Z7 zs u),(8,.i k)]/\h=[.obj b2 (Yg s),.obj b1 (ZU n),.tail u 1]/\m=s.args.length-k) _ _ _ ⟨0,[],v1,ob,ob,(fun z hz=>by cases hz),rfl,rfl,rfl⟩ (wk [1,1,0] (fq (Ya fl))) ?_)))))))
 rintro m F h ⟨k,zs,u,Yj,Zp,Zy,rfl,rfl,rfl⟩
 refine aq (ar (ZY 3 10 (.i k) 12 (Z0 s.args) [0] [b2] (iw (Yh s.args) (Z1 1 14 (.b (decide ((k:Int)<(s.args.length:Int)))) (ie (ZM ((k:Int)<(s.args.length:Int)) (fun Ze=>?_) (fun Ze=>?_)))))))
 ·obtain ⟨a1,ha1⟩:=Zr (xs:=s.args) (j:=k) om
  have har:=hf.args a1 (Y7 ha1)
  refine ak (aq (ab 1 (ar (Y2 4 (.n 17 (ZD n) (.n 18 (Z0 us) (.n 19 (Y3 s) (.n 20 (.i k) .r)))) [1,0] [b1,b2] (ZA [] (EF n us s k a1 (hnum:=hf.call) (ha:=ha1)) (ie (ac (UX n us s.op s.num a1 k) Iff.rfl (fun Zk=>?_) (fun Zk=>?_))))))))
  ·refine az (Y2 4 (.n 22 (Z7 zs u) (.n 24 (Z0 s.args) (.n 25 (.i k) .r))) [0] [b2] (Zq (Zm none (k:Int) 1 (Y4 ha1)) (Z1 1 27 (.i a1) (iL (Z8 [a1]) 1 1 ?_))))
   intro v2
   refine Z5 0 (.n 28 (Z0 [a1]) (.p .r)) (ip 3 (Z8 (zs++[a1])) (Z8 zs) (Z8 [a1]) u none 1 (YF _) (YF _) (XX _) (by simp<;>omega) (by simp [XW,Z8]) ?_)
   intro v3
   refine ir 1 [(1,Z0 us),(3,.p b1 0),(5,.p b2 0),(7,Z7 (zs++[a1]) v3),(8,.i k)] (ie (az (Z1 1 15 (.i k) (ZL k (Z5 1 (.n 8 (.i (k+1:Nat)) (.p (.d (.w .z)))) (ie ?_))))))
   exact ZO ⟨k+1,(zs++[a1]),v3,ob,ob,(by first|exact Zy|exact Xp Zy (Y7 ha1)),rfl,rfl,rfl⟩ (wk [2,2,0] (fq (ZQ k fl)))
  refine ak (az (Z1 1 15 (.i k) (ZL k (ir 1 [(1,Z0 us),(3,.p b1 0),(5,.p b2 0),(7,Z7 zs u),(8,.i (k+1:Nat))] (ie ?_)))))
  exact ZO ⟨k+1,zs,u,ob,ob,(by first|exact Zy|exact Xp Zy (Y7 ha1)),rfl,rfl,rfl⟩ (ZT 3 (fq (ZQ k fl)))
 refine ax 0 (ar (ir 2 [(6,Z7 zs u)] (ie ?_)))
 exact Zb (r2 [] [Z7 zs u] ⟨zs,rfl,rfl,⟨by omega,Zy⟩⟩ (Zg.forget _ _))
theorem SH (n:Zx) (us:List Int) (s:Z4) (mm:Nat) (bb:Nat) (hn:Xd n:=by exact ob) (hf:FS n.decls n.routines.length mm s:=by exact ob) (h11:s.op<=11:=by exact ob) (hop:Q4 Wr s.kids:=by exact ob) (hul:us.length=mm:=by exact ob) (hm:mm+4*s.sz<=100000:=by exact ob) (hbz:s.sz<=500:=by exact ob) (hb:s.sz<=bb:=by exact ob) (ih:∀(us2:List Int) (b2:Z6) (mi2:List Int) (m2:Nat),(fB n.decls n.routines.length m2 b2)->(WZ Wr b2)->(us2.length=m2)->(m2+4*b2.sz<=100000)->(∀v∈mi2,0<=v/\v<(m2:Int))->(mi2.length<=3)->(b2.sz<=500)->(b2.sz<bb)->Zi Tryz.prog 201 [ZD n,Z0 us2,Zs b2,Z0 mi2] [] (fun r h=>∃(y:Z6),r=Zs y/\h=[]/\KB n.decls n.routines.length m2 y (60*b2.sz))):Zi Tryz.prog 231 [ZD n,Z0 us,Y3 s] [] (fun r h=>∃(y:Z4),r=Y3 y/\h=[]/\KT n.decls n.routines.length mm y (60*YR s.kids+23)):=by
 have Xu:=hn.decls
 have hkf:=hf.few Xu
 have hsa:=hf.alen
 refine ZK 72 Tryz.func231 (ar (iA (ZU n) ?_))
 intro b1
 refine iA (Yg s) ?_
 intro b2
 refine iA [.i 0,.i 0,.i 0,nl,nl] ?_
 intro b3
 refine ie (ar (iL (YH []) 0 2 ?_))
 intro v1
 refine ir 1 [(1,Z0 us),(3,.p b1 0),(5,.p b2 0),(6,.p b3 0),(7,X4 [] v1)] (ie (ar (ZY 4 15 (Zd n.decls) 17 (.i s.num) [3,2] [b1,b2] (ic [] (KS n.decls s.num) ?_))))
 rintro _ _ ⟨v2,rfl,rfl⟩
 refine Z1 1 8 (Z7 (Zw n.decls s.num) v2) (ie (aq (ar (Z1 1 9 (.i 0) (ie (ab 0 (al (fun m F h=>∃(k:Nat) (ks:List Z6) (u:Value),(k<=s.kids.length)/\(ks.length=k)/\(KK n.decls n.routines.length (UA n.decls s.op s.num mm) ks (60*YR (s.kids.take k)+6*k))/\F=[(1,Z0 us),(3,.p b1 0),(5,.p b2 0),(6,.p b3 0),(7,X4 ks u),(8,Z0 (Zw n.decls s.num)),(9,.i k)]/\h=[.obj b3 [.i 0,.i 0,.i 0,nl,nl],.obj b2 (Yg s),.obj b1 (ZU n),.tail u 2]/\m=s.kids.length-k) _ _ _ ⟨0,[],v1,ob,ob,(KK.nil.le (K5 _)),rfl,rfl,rfl⟩ (wk [2,2,2,1] (fq (fr (fc (x:=Z7 (Zw n.decls s.num) v2) (Zg.forget _ _) (Ya fl))))) ?_)))))))
 rintro m F h ⟨k,ks,u,Yj,Zp,Zy,rfl,rfl,rfl⟩
 refine aq (ar (ZY 3 19 (.i k) 21 (Yu s.kids) [1] [b2] (iw (VG s.kids) (Z1 1 23 (.b (decide ((k:Int)<(s.kids.length:Int)))) (ie (ZM ((k:Int)<(s.kids.length:Int)) (fun Ze=>?_) (fun Ze=>?_)))))))
 ·refine ak (aq (ab 1 (ar (iL (Z8 []) 0 1 ?_))))
  intro v3
  refine Z1 1 10 (Z7 [] v3) (ie (aq (ar (Yl 3 29 (.b (s.op==8)) [2] [b2] (ie (XI (fun F h=>∃(fds:List Int),(UA n.decls s.op s.num mm k=mm+fds.length)/\(fds.length<=3)/\F=[(1,Z0 us),(3,.p b1 0),(5,.p b2 0),(6,.p b3 0),(7,X4 ks u),(8,Z0 (Zw n.decls s.num)),(9,.i k),(10,Z0 fds)]/\h=[.obj b3 [.i 0,.i 0,.i 0,nl,nl],.obj b2 (Yg s),.obj b1 (ZU n),.tail u 2]) ?_ ?_))))))
  ·refine ac (s.op==8) Zh (fun Zk=>?_) (fun Zk=>?_)
   ·refine aE 8 (W2 4 8 [0,1,2,3] [(1,Z0 us),(3,.p b1 0),(5,.p b2 0),(6,.p b3 0),(7,X4 ks u),(8,Z0 (Zw n.decls s.num)),(9,.i k),(10,Z7 [] v3),(31,Zd n.decls),(32,Z0 (Zw n.decls s.num)),(33,.i k)] [3] [b1] ?_)
    obtain ⟨x1,Z3⟩:=Zr (xs:=Zw n.decls s.num) (j:=k) (by have:=hf.k8 (by assumption);omega)
    have hcf:=VK Xu x1
    refine dx 4 (Zm none (k:Int) 1 (Y4 Z3)) (ZZ 2 3 [5] 35 (.i x1) (Z9 6 (Yv 6 [] [] [] (Qr n.decls x1) (Y0 0 1 [7] (.n 10 (Z0 (ZC n.decls x1)) (.p (.d (.p (.w (.k (.k (.k .z)))))))) (de ?_)))))
    exact ZW ⟨ZC n.decls x1,(H6 (by assumption) Z3),ob,rfl,rfl⟩ (wk [1,1,1,1] fl)
   refine ak ?_
   exact ZW ⟨[],(by rw [H7 (by assumption)];rfl),ob,rfl,rfl⟩ (wk [1,1,1,1] fl)
  rintro F h ⟨fds,Vy,Jo,rfl,rfl⟩
  refine ar (ir 2 [(1,Z0 us),(3,.p b1 0),(5,.p b2 0),(6,.p b3 0),(7,X4 ks u),(8,Z0 (Zw n.decls s.num)),(9,.i k),(10,Z0 fds),(37,Z0 fds),(38,Z0 us)] (iw (Yh us) (ic [] (Ld fds us.length) ?_)))
  rintro _ _ ⟨xs1,rfl,rfl,ZP⟩
  have hhf:=ZP
  refine Z1 1 11 (Z0 xs1) (ie (aD 13 (Y6 7 13 [0,1,2,4,5,6] (.n 41 (ZD n) (.n 42 (Z0 us) (.n 43 (Z0 fds) (.n 46 (Yu s.kids) (.n 47 (.i k) .r))))) [2,1] [b1,b2] ?_)))
  obtain ⟨x2,Zt⟩:=Zr (xs:=s.kids) (j:=k) om
  have hkz:=Uy Zt
  have hfk:=Ck hf.kids Zt
  rw [WQ,Vy] at hfk
  have hok:=BN.1 hop x2 (Y7 Zt)
  have hbt:=Dj Zt
  have hba:=C9 Zt
  refine dx 7 (Zm none (k:Int) 2 (U5 Zt)) (Y0 4 6 [8,9] (.n 49 (Zs x2) (.n 50 (Z0 xs1) .r)) (dK (fun F h=>∃(y1:Z6) (b4:Nat),(KB n.decls n.routines.length (mm+fds.length) y1 (60*x2.sz))/\F=[(1,Z0 us),(3,.p b1 0),(5,.p b2 0),(6,.p b3 0),(7,X4 ks u),(8,Z0 (Zw n.decls s.num)),(9,.i k),(11,Z0 xs1),(12,.p b4 0)]/\h=[.obj b4 (Yk y1),.obj b3 [.i 0,.i 0,.i 0,nl,nl],.obj b2 (Yg s),.obj b1 (ZU n),.tail u 2]) ?_ ?_))
  ·refine Vj 3 11 ?_ ?_
   ·refine dc 3 [] [1,2] [b2,b1] (Q9 us fds) ?_
    rintro _ _ ⟨v4,rfl,rfl⟩
    refine Xa 3 3 [] [(1,Z0 us),(3,.p b1 0),(5,.p b2 0),(6,.p b3 0),(7,X4 ks u),(8,Z0 (Zw n.decls s.num)),(9,.i k),(11,Z0 xs1),(41,ZD n),(44,Z0 (us++fds)),(49,Zs x2),(50,Z0 xs1)] (Vj 10 11 ?_ ?_)
    ·refine dc 10 [] [] [] (ih (us++fds) x2 xs1 (mm+fds.length) hfk hok (by rw [Yz,hul]) ob (fun v hv=>by have:=hhf.2 v hv;omega) ob ob ob) ?_
     rintro _ _ ⟨y1,rfl,rfl,Y1⟩
     have hkb:=Y1
     have hkl:=hkb.len
     refine Z9 11 (dA 11 [] [] [nl,.i 0] ?_)
     intro b4
     refine Z9 12 (YL 12 0 [] [] b4 (Yk y1) (de ?_))
     exact ZW ⟨_,b4,(by assumption),rfl,rfl⟩ (wk [0,1,1,1,1] fl)
    refine dA 11 [1,2] [b2,b1] [nl,.i 0] ?_
    intro b5
    refine Z9 10 (dc 10 [] [] [] (ih (us++fds) x2 xs1 (mm+fds.length) hfk hok (by rw [Yz,hul]) ob (fun v hv=>by have:=hhf.2 v hv;omega) ob ob ob) ?_)
    rintro _ _ ⟨y2,rfl,rfl,Yy⟩
    have hkb:=Yy
    have hkl:=hkb.len
    refine Z9 12 (YL 12 0 [] [] b5 (Yk y2) (de ?_))
    exact ZW ⟨_,b5,(by assumption),rfl,rfl⟩ (wk [0,1,1,1,1] fl)
   refine dA 11 [1,2] [b2,b1] [nl,.i 0] ?_
   intro b6
   refine Z9 3 (dc 3 [] [2,3] [b2,b1] (Q9 us fds) ?_)
   rintro _ _ ⟨v5,rfl,rfl⟩
   refine Xa 2 2 [] [(1,Z0 us),(3,.p b1 0),(5,.p b2 0),(6,.p b3 0),(7,X4 ks u),(8,Z0 (Zw n.decls s.num)),(9,.i k),(11,Z0 xs1),(12,.p b6 0),(41,ZD n),(44,Z0 (us++fds)),(49,Zs x2),(50,Z0 xs1)] (Z9 10 (dc 10 [] [] [] (ih (us++fds) x2 xs1 (mm+fds.length) hfk hok (by rw [Yz,hul]) ob (fun v hv=>by have:=hhf.2 v hv;omega) ob ob ob) ?_))
   rintro _ _ ⟨y3,rfl,rfl,YK⟩
   have hkb:=YK
   have hkl:=hkb.len
   refine Z9 12 (YL 12 1 [] [] b6 (Yk y3) (de ?_))
   exact ZW ⟨_,b6,(by assumption),rfl,rfl⟩ (wk [0,1,1,1,1] fl)
  rintro F h ⟨y1,b4,Y1,rfl,rfl⟩
  have hkb:=Y1
  have hkl:=hkb.len
  refine aE 12 (W2 6 12 [0,1,3,4,6,7] [(1,Z0 us),(3,.p b1 0),(5,.p b2 0),(6,.p b3 0),(7,X4 ks u),(8,Z0 (Zw n.decls s.num)),(9,.i k),(52,X4 ks u),(53,Z0 xs1),(56,Ye y1.steps),(59,.i y1.result)] [0,0] [b4,b4] (Z9 2 (dc 2 [] [0,0] [b4,b4] (Qs 14 xs1) ?_)))
  rintro _ _ ⟨v6,rfl,rfl⟩
  refine Z9 5 (dp 5 0 [0] [b4] (Zv ((xs1.map (Zj 14))++y1.steps)) (Zv (xs1.map (Zj 14))) (Zv y1.steps) v6 none 5 (X8 _) (X8 _) (Vv _) (by simp<;>omega) (by simp [Wy,Zv]) ?_)
  intro v7
  refine ZZ 3 4 [8] 60 (.agg [Ye ((xs1.map (Zj 14))++y1.steps),.i y1.result]) (Z9 9 (Wj 9 [] [] [Zs (Z6.mk ((xs1.map (Zj 14))++y1.steps) y1.result)] (YH [Z6.mk ((xs1.map (Zj 14))++y1.steps) y1.result]) (Ur [Z6.mk ((xs1.map (Zj 14))++y1.steps) y1.result]).symm 1 2 ?_))
  intro v8
  refine Y0 2 2 [] (.n 61 (Yu [Z6.mk ((xs1.map (Zj 14))++y1.steps) y1.result]) (.p .r)) (Z9 10 (dp 10 6 [] [] (YH (ks++[Z6.mk ((xs1.map (Zj 14))++y1.steps) y1.result])) (YH ks) (YH [Z6.mk ((xs1.map (Zj 14))++y1.steps) y1.result]) u none 2 (T7 _) (T7 _) (Dr _) (by simp<;>omega) (by simp [J8,YH]) ?_))
  intro v9
  refine Y0 0 1 [11] (.n 7 (X4 (ks++[Z6.mk ((xs1.map (Zj 14))++y1.steps) y1.result]) v9) (.q 62 (.k (.k (.q 57 (.q 54 (.w (.d .r)))))))) (de (az (Z1 1 24 (.i k) (ZL k (Z5 1 (.n 9 (.i (k+1:Nat)) (.p (.d (.k (.d (.d (.d (.d (.d (.w (.k .z))))))))))) (ie ?_))))))
  exact ZO ⟨k+1,(ks++[Z6.mk ((xs1.map (Zj 14))++y1.steps) y1.result]),v9,ob,ob,((Zy.snoc Zp (by rw [Vy];exact hkb.put1 (op:=14) (.inl rfl) (fun v hv=>by have:=hhf.2 v hv;omega))).le om),rfl,rfl,rfl⟩ (wk [4,4,4,0] (fq (fw (ZQ k fl))))
 refine ax 0 (aD 10 (W2 3 10 [0,1,2,3,4,5,7] [(6,.p b3 0),(64,.i s.op),(66,.i s.num),(68,Z0 s.args),(70,X4 ks u)] [1,1,1] [b2,b2,b2] (Z9 6 (dc 6 [] [1,1] [b2,b2] (VP s.args) ?_))))
 rintro _ _ ⟨v10,rfl,rfl⟩
 refine ZZ 1 2 [8] 71 (.agg [.i s.op,.i s.num,.i 0,Z7 s.args v10,X4 ks u]) (Z9 9 (YL 9 1 [] [] b3 [.i s.op,.i s.num,.i 0,Z7 s.args v10,X4 ks u] (de ?_)))
 exact Zb (r3 [] [.agg [.i s.op,.i s.num,.i 0,Z7 s.args v10,X4 ks u]] [0] [(b3,b3)] ⟨(Z4.mk s.op s.num 0 s.args ks),rfl,rfl,((KT.of (into:=0) hf h11 om om Zy).le (by have:=Dk (xs:=s.kids) (k:=k) om;omega))⟩ (Zg.agg (.cons (lr _) (.cons (lr _) (.cons (lr _) (.cons (Zg.forget _ _) (.cons (Zg.forget _ _) .nil)))))))
theorem SG (n:Zx) (us:List Int) (b:Z6) (mi:List Int) (mm:Nat) (hn:Xd n) (hf:fB n.decls n.routines.length mm b) (hop:WZ Wr b) (hul:us.length=mm) (hm:mm+4*b.sz<=100000) (hmr:∀v∈mi,0<=v/\v<(mm:Int)) (hml:mi.length<=3) (hbz:b.sz<=500) (ih:∀(us2:List Int) (b2:Z6) (mi2:List Int) (m2:Nat),(fB n.decls n.routines.length m2 b2)->(WZ Wr b2)->(us2.length=m2)->(m2+4*b2.sz<=100000)->(∀v∈mi2,0<=v/\v<(m2:Int))->(mi2.length<=3)->(b2.sz<=500)->(b2.sz<b.sz)->Zi Tryz.prog 201 [ZD n,Z0 us2,Zs b2,Z0 mi2] [] (fun r h=>∃(y:Z6),r=Zs y/\h=[]/\KB n.decls n.routines.length m2 y (60*b2.sz))):Zi Tryz.prog 201 [ZD n,Z0 us,Zs b,Z0 mi] [] (fun r h=>∃(y:Z6),r=Zs y/\h=[]/\KB n.decls n.routines.length mm y (60*b.sz)):=by
 have Xu:=hn.decls
 have hbe:=b.sz_eq
 have ZE:=Vf b
 obtain ⟨hfs,hr1,hr2⟩:=(Cj b).1 hf
 have hos:=B5.1 ((Ed b).1 hop)
 have hdn:=Fy hos
 have hdl:=hdn b.steps.length (X6 _)
 rw [Vp] at hdl
 refine ZK 80 Tryz.func201 (ar (iA (ZU n) ?_))
 intro b1
 refine iA (Yk b) ?_
 intro b2
 refine iA [nl,.i 0] ?_
 intro b3
 refine ie (ar (iL (Zv []) 0 5 ?_))
 intro v1
 refine ir 1 [(1,Z0 us),(3,Z0 mi),(4,.p b1 0),(6,.p b2 0),(8,.p b3 0),(9,ZX [] v1)] (ie (ar (Z1 1 16 (Z0 us) (ic [] (VP us) ?_))))
 rintro _ _ ⟨v2,rfl,rfl⟩
 refine Z1 1 10 (Z7 us v2) (ie (ar (Z1 1 18 (Z0 mi) (ic [] (VP mi) ?_))))
 rintro _ _ ⟨v3,rfl,rfl⟩
 refine Z1 1 11 (Z7 mi v3) (ie (aq (ar (Z1 1 12 (.i 0) (ie (ab 0 (al (fun m F h=>∃(k:Nat) (vs:List Int) (w:Value) (ow:List Int) (u:Value) (xs:List Z4) (v:Value) (z0:Nat),(k<=b.steps.length)/\(vs.length=mm+k)/\(CL n.decls n.routines.length mm xs k z0)/\(z0+2*ow.length<=60*Yp (b.steps.take k)+2*mi.length)/\(∀v∈ow,0<=v/\v<((mm+k:Nat):Int))/\F=[(4,.p b1 0),(6,.p b2 0),(8,.p b3 0),(9,ZX xs v),(10,Z7 vs w),(11,Z7 ow u),(12,.i k)]/\h=[.obj b3 [nl,.i 0],.obj b2 (Yk b),.obj b1 (ZU n),.tail u 1,.tail v 5,.tail w 1]/\m=b.steps.length-k) _ _ _ ⟨0,us,v2,mi,v3,[],v1,0,ob,ob,CL.nil,(by simp),hmr,rfl,rfl,rfl⟩ (wk [3,3,3,0,1,0] (fq (fw (Ya fl)))) ?_)))))))
 rintro m F h ⟨k,vs,w,ow,u,xs,v,z0,Yj,Zp,Zy,YJ,Wg,rfl,rfl,rfl⟩
 refine aq (ar (ZY 3 20 (.i k) 22 (Ye b.steps) [1] [b2] (iw (Vl b.steps) (Z1 1 24 (.b (decide ((k:Int)<(b.steps.length:Int)))) (ie (ZM ((k:Int)<(b.steps.length:Int)) (fun Ze=>?_) (fun Ze=>?_)))))))
 ·refine ak (aq (ab 1 (ar (ZY 3 28 (Ye b.steps) 29 (.i k) [1] [b2] ?_))))
  obtain ⟨x1,Z3⟩:=Zr (xs:=b.steps) (j:=k) om
  have Xq:=An Z3
  have hfS:=(DA x1).1 (Cl hfs Z3)
  rw [hdn k om] at hfS
  have hoS:=(CM x1).1 (hos x1 (Y7 Z3))
  have htk:=EH Z3
  have hse:=(x1).sz_eq
  have hal4:=hfS.alen
  have hxl:=Zy.len
  have htl:=Qa b.steps (k+1)
  refine Zq (Zm none (k:Int) 5 (Wa Z3)) (Z1 1 31 (Y3 x1) (iA [.i 0,.i 0,.i 0,nl,nl] ?_))
  intro b4
  refine ZF 0 b4 (Yg x1) (ie (ar (Y2 3 (.n 32 (ZD n) (.n 33 (Z0 vs) (.n 34 (Y3 x1) .r))) [3,0] [b1,b4] (ZA [] (Hl n vs x1 ob ob) (Z1 1 14 (.i (ZV n vs x1)) (ie (ar (Y2 4 (.n 36 (ZX xs v) (.n 37 (ZD n) (.n 38 (Z0 vs) (.n 39 (Y3 x1) .r)))) [3,0] [b1,b4] (ic [] (Sk n vs x1 (mm+k) (hf:=hfS)) ?_)))))))))
  rintro _ _ ⟨zs1,rfl,rfl,ZP⟩
  have hdu:=ZP
  have hq1:=Zy.cnts (op:=14) (.inl rfl) (vs:=zs1) (fun v hv=>hfS.args v (hdu.2 v hv))
  have hl1:=hq1.len
  refine ic [] (Qs 14 zs1) ?_
  rintro _ _ ⟨v4,rfl,rfl⟩
  refine Z5 0 (.n 41 (Ye (zs1.map (Zj 14))) (.p .r)) (ip 6 (Zv (xs++(zs1.map (Zj 14)))) (Zv xs) (Zv (zs1.map (Zj 14))) v none 5 (X8 _) (X8 _) (Vv _) (by simp<;>omega) (by simp [Wy,Zv]) ?_)
  intro v5
  refine Z5 1 (.n 9 (ZX (xs++(zs1.map (Zj 14))) v5) (.p (.d (.p (.d (.d (.d (.d (.k (.p (.d (.d (.d (.q 13 (.d (.p (.d (.d (.d (.p (.d (.d (.k (.k (.k (.d .r)))))))))))))))))))))))))) (ie (ar (Y2 4 (.n 43 (ZX (xs++(zs1.map (Zj 14))) v5) (.n 44 (ZD n) (.n 45 (Z0 vs) (.n 46 (Y3 x1) .r)))) [5,2] [b1,b4] (ic [] (SH n vs x1 (mm+k) b.sz (hf:=hfS) (h11:=hoS.1) (hop:=hoS.2) (ih:=ih)) ?_))))
  rintro _ _ ⟨y1,rfl,rfl,Y1⟩
  have hkt:=Y1
  have hq2:=hq1.kt hkt
  have hl2:=hq2.len
  refine U7 [Y3 y1] (Zv [y1]) (Vd [y1]).symm 1 5 ?_
  intro v6
  refine Z5 0 (.n 48 (Ye [y1]) (.p .r)) (ip 1 (Zv ((xs++(zs1.map (Zj 14)))++[y1])) (Zv (xs++(zs1.map (Zj 14)))) (Zv [y1]) v5 none 5 (X8 _) (X8 _) (Vv _) (by simp<;>omega) (by simp [Wy,Zv]) ?_)
  intro v7
  refine Z5 1 (.n 9 (ZX ((xs++(zs1.map (Zj 14)))++[y1]) v7) (.q 49 (.k (.q 47 (.w (.d .r)))))) (ie (aq (ar (Z1 2 51 (.b ((ZV n vs x1) != 0)) (ie (ac ((ZV n vs x1) != 0) Yi (fun Zk=>?_) (fun Zk=>?_)))))))
  ·refine az (Yq 2 52 (Z7 ow u) 53 (Z7 vs w) (iw (Yh vs) (iL (Z8 [(vs.length:Int)]) 1 1 ?_)))
   intro v8
   refine Z5 0 (.n 55 (Z0 [(vs.length:Int)]) (.p .r)) (ip 8 (Z8 (ow++[(vs.length:Int)])) (Z8 ow) (Z8 [(vs.length:Int)]) u none 1 (YF _) (YF _) (XX _) (by simp<;>omega) (by simp [XW,Z8]) ?_)
   intro v9
   refine Z5 1 (.n 11 (Z7 (ow++[(vs.length:Int)]) v9) (.p (.d (.p (.d (.d (.d (.k (.d (.d (.d (.d (.d (.d (.d (.k (.d (.w (.d .r))))))))))))))))))) (ie (az (Yq 2 57 (Z7 vs w) 58 (.i (ZV n vs x1)) (iL (Z8 [ZV n vs x1]) 1 1 ?_))))
   intro v10
   refine Z5 0 (.n 59 (Z0 [ZV n vs x1]) (.p .r)) (ip 10 (Z8 (vs++[ZV n vs x1])) (Z8 vs) (Z8 [ZV n vs x1]) w none 1 (YF _) (YF _) (XX _) (by simp<;>omega) (by simp [XW,Z8]) ?_)
   intro v11
   refine Z5 1 (.n 10 (Z7 (vs++[ZV n vs x1]) v11) (.p (.d (.d (.d (.k (.k (.d (.k (.k (.k (.d .r)))))))))))) (ie (az (Z1 1 25 (.i k) (ZL k (Z5 1 (.n 12 (.i (k+1:Nat)) (.p (.d (.w (.k (.k .z)))))) (ie ?_))))))
   exact ZO ⟨k+1,(vs++[ZV n vs x1]),v11,(ow++[(vs.length:Int)]),v9,((xs++(zs1.map (Zj 14)))++[y1]),v7,_,ob,ob,hq2,(by (try simp only [Yz,YS,Xm]);omega),(by first|exact Xp (fun v hv=>by have:=Wg v hv;omega) om|exact (fun v hv=>by have:=Wg v hv;omega)),rfl,rfl,rfl⟩ (wk [8,8,8,2,3,0] (fq (fw (ZQ k fl))))
  refine ak (az (Yq 2 57 (Z7 vs w) 58 (.i (ZV n vs x1)) (iL (Z8 [ZV n vs x1]) 1 1 ?_)))
  intro v12
  refine Z5 0 (.n 59 (Z0 [ZV n vs x1]) (.p .r)) (ip 9 (Z8 (vs++[ZV n vs x1])) (Z8 vs) (Z8 [ZV n vs x1]) w none 1 (YF _) (YF _) (XX _) (by simp<;>omega) (by simp [XW,Z8]) ?_)
  intro v13
  refine Z5 1 (.n 10 (Z7 (vs++[ZV n vs x1]) v13) (.p (.d (.d (.d (.d (.k (.d (.d (.d (.d (.d (.d (.d (.d (.d (.k (.k (.k (.d .r)))))))))))))))))))) (ie (az (Z1 1 25 (.i k) (ZL k (Z5 1 (.n 12 (.i (k+1:Nat)) (.p (.d (.w (.k (.k .z)))))) (ie ?_))))))
  exact ZO ⟨k+1,(vs++[ZV n vs x1]),v13,ow,u,((xs++(zs1.map (Zj 14)))++[y1]),v7,_,ob,ob,hq2,(by (try simp only [Yz,YS,Xm]);omega),(by first|exact Xp (fun v hv=>by have:=Wg v hv;omega) om|exact (fun v hv=>by have:=Wg v hv;omega)),rfl,rfl,rfl⟩ (wk [6,6,6,6,2,0] (fq (fw (ZQ k fl))))
 have hxl:=Zy.len
 have htl:=Qa b.steps k
 refine ax 0 (aq (ar (ZY 3 61 (Z7 vs w) 63 (.i b.result) [1] [b2] ?_)))
 obtain ⟨x2,Zt⟩:=Zr (xs:=vs) (j:=b.result.toNat) om
 refine Zq (Zm (some w) b.result 1 (Y4 Zt)) (Z1 2 66 (.b (x2 != 0)) (ie (ac (x2 != 0) Yi (fun ZG=>?_) (fun ZG=>?_))))
 ·refine az (ZY 3 67 (ZX xs v) 69 (.i b.result) [1] [b2] (ZA [] (KU 14 b.result) (U7 [Y3 (Zj 14 b.result)] (Zv [Zj 14 b.result]) (Vd [Zj 14 b.result]).symm 1 5 ?_)))
  intro v14
  refine Z5 0 (.n 71 (Ye [Zj 14 b.result]) (.p .r)) (ip 5 (Zv (xs++[Zj 14 b.result])) (Zv xs) (Zv [Zj 14 b.result]) v none 5 (X8 _) (X8 _) (Vv _) (by simp<;>omega) (by simp [Wy,Zv]) ?_)
  intro v15
  refine ir 1 [(6,.p b2 0),(8,.p b3 0),(9,ZX (xs++[Zj 14 b.result]) v15),(11,Z7 ow u)] (ie (aD 8 (Y6 4 8 [0,1,4,5] (.n 73 (ZX (xs++[Zj 14 b.result]) v15) (.n 74 (Z0 ow) (.n 78 (.i b.result) .r))) [3] [b2] (Z9 2 (dc 2 [] [1] [b2] (Qs 15 ow) ?_)))))
  rintro _ _ ⟨v16,rfl,rfl⟩
  refine Y0 3 3 [] (.n 75 (Ye (ow.map (Zj 15))) (.p .r)) (Z9 3 (dp 3 1 [1] [b2] (Zv ((xs++[Zj 14 b.result])++(ow.map (Zj 15)))) (Zv (xs++[Zj 14 b.result])) (Zv (ow.map (Zj 15))) v15 none 5 (X8 _) (X8 _) (Vv _) (by simp<;>omega) (by simp [Wy,Zv]) ?_))
  intro v17
  refine ZZ 1 2 [6] 79 (.agg [ZX ((xs++[Zj 14 b.result])++(ow.map (Zj 15))) v17,.i b.result]) (Z9 7 (YL 7 3 [] [] b3 [ZX ((xs++[Zj 14 b.result])++(ow.map (Zj 15))) v17,.i b.result] (de ?_)))
  exact Zb (r3 [] [.agg [ZX ((xs++[Zj 14 b.result])++(ow.map (Zj 15))) v17,.i b.result]] [0] [(b3,b3)] ⟨(Z6.mk ((xs++[Zj 14 b.result])++(ow.map (Zj 15))) b.result),rfl,rfl,((((Zy.cnt (op:=14) (.inl rfl) om).cnts (op:=15) (.inr rfl) (fun v hv=>by have:=Wg v hv;omega)).block om).le (by have:=Qa b.steps k;omega))⟩ (Zg.agg (.cons (Zg.forget _ _) (.cons (lr _) .nil))))
 refine ak (aD 8 (Y6 4 8 [0,1,4,5] (.n 73 (ZX xs v) (.n 74 (Z0 ow) (.n 78 (.i b.result) .r))) [1] [b2] (Z9 2 (dc 2 [] [1] [b2] (Qs 15 ow) ?_))))
 rintro _ _ ⟨v18,rfl,rfl⟩
 refine Y0 3 3 [] (.n 75 (Ye (ow.map (Zj 15))) (.p .r)) (Z9 3 (dp 3 5 [1] [b2] (Zv (xs++(ow.map (Zj 15)))) (Zv xs) (Zv (ow.map (Zj 15))) v none 5 (X8 _) (X8 _) (Vv _) (by simp<;>omega) (by simp [Wy,Zv]) ?_))
 intro v19
 refine ZZ 1 2 [6] 79 (.agg [ZX (xs++(ow.map (Zj 15))) v19,.i b.result]) (Z9 7 (YL 7 2 [] [] b3 [ZX (xs++(ow.map (Zj 15))) v19,.i b.result] (de ?_)))
 exact Zb (r3 [] [.agg [ZX (xs++(ow.map (Zj 15))) v19,.i b.result]] [0] [(b3,b3)] ⟨(Z6.mk (xs++(ow.map (Zj 15))) b.result),rfl,rfl,(((Zy.cnts (op:=15) (.inr rfl) (fun v hv=>by have:=Wg v hv;omega)).block om).le (by have:=Qa b.steps k;omega))⟩ (Zg.agg (.cons (Zg.forget _ _) (.cons (lr _) .nil))))
theorem SF (n:Zx) (us:List Int) (b:Z6) (mi:List Int) (mm:Nat) (hn:Xd n:=by exact ob) (hf:fB n.decls n.routines.length mm b:=by exact ob) (hop:WZ Wr b:=by exact ob) (hul:us.length=mm:=by exact ob) (hm:mm+4*b.sz<=100000:=by exact ob) (hmr:∀v∈mi,0<=v/\v<(mm:Int)) (hml:mi.length<=3:=by exact ob) (hbz:b.sz<=500:=by exact ob):Zi Tryz.prog 201 [ZD n,Z0 us,Zs b,Z0 mi] [] (fun r h=>∃(y:Z6),r=Zs y/\h=[]/\KB n.decls n.routines.length mm y (60*b.sz)):=by
 have key:∀k:Nat,∀(us2:List Int) (b2:Z6) (mi2:List Int) (m2:Nat),(fB n.decls n.routines.length m2 b2)->(WZ Wr b2)->(us2.length=m2)->(m2+4*b2.sz<=100000)->(∀v∈mi2,0<=v/\v<(m2:Int))->(mi2.length<=3)->(b2.sz<=500)->(b2.sz<k)->Zi Tryz.prog 201 [ZD n,Z0 us2,Zs b2,Z0 mi2] [] (fun r h=>∃(y:Z6),r=Zs y/\h=[]/\KB n.decls n.routines.length m2 y (60*b2.sz)):=by
  intro k
  induction k with
  | zero=>intro us2 b2 mi2 m2 h1 h2 h3 h4 h5 h6 h7 h9;omega
  | succ k ih=>intro us2 b2 mi2 m2 h1 h2 h3 h4 h5 h6 h7 h9;exact SG n us2 b2 mi2 m2 hn h1 h2 h3 h4 h5 h6 h7 fun us3 b3 mi3 m3 q1 q2 q3 q4 q5 q6 q7 q9=>ih us3 b3 mi3 m3 q1 q2 q3 q4 q5 q6 q7 om
 exact key (b.sz+1) us b mi mm hf hop hul hm hmr hml hbz om
theorem Z02 (rt:Yb) (hp:rt.params.length<=1000000:=by exact ob) (hl:rt.lent.length<=1000000:=by exact ob):Zi Tryz.prog 202 [WS rt] [] (fun r h=>∃(os:List Int),r=Z0 os/\h=[]/\os.length<=rt.params.length/\∀v∈os,0<=v/\v<(rt.params.length:Int)):=by
 refine ZK 31 Tryz.func202 (ar (iA (VW rt) ?_))
 intro b1
 refine ir 1 [(1,.p b1 0)] (ie (ar (iL (Z8 []) 0 1 ?_)))
 intro v1
 refine Z1 1 3 (Z7 [] v1) (ie (aq (ar (Z1 1 4 (.i 0) (ie (ab 0 (al (fun m F h=>∃(k:Nat) (os:List Int) (u:Value),(k<=rt.params.length)/\(os.length<=k)/\(∀v∈os,0<=v/\v<(rt.params.length:Int))/\F=[(1,.p b1 0),(3,Z7 os u),(4,.i k)]/\h=[.obj b1 (VW rt),.tail u 1]/\m=rt.params.length-k) _ _ _ ⟨0,[],v1,ob,ob,(fun v hv=>by cases hv),rfl,rfl,rfl⟩ (wk [1,0] (fw (Ya fl))) ?_)))))))
 rintro m F h ⟨k,os,u,Yj,Zp,Zy,rfl,rfl,rfl⟩
 refine aq (ar (ZY 3 6 (.i k) 8 (Z0 rt.params) [0] [b1] (iw (Yh rt.params) (Z1 1 10 (.b (decide ((k:Int)<(rt.params.length:Int)))) (ie (ZM ((k:Int)<(rt.params.length:Int)) (fun Ze=>?_) (fun Ze=>?_)))))))
 ·refine ak (aq (ab 1 (ar (ZY 3 14 (Z0 rt.params) 15 (.i k) [0] [b1] ?_))))
  obtain ⟨x1,Z3⟩:=Zr (xs:=rt.params) (j:=k) om
  refine Zq (Zm none (k:Int) 1 (Y4 Z3)) (Xo [(1,.p b1 0),(3,Z7 os u),(4,.i k),(25,.b ((x1 != 0)&&(!(decide ((k:Int)∈rt.lent)))))] [.obj b1 (VW rt),.tail u 1] ?_ ?_)
  ·refine ir 3 [(1,.p b1 0),(3,Z7 os u),(4,.i k),(19,.b (x1 != 0))] (ib (b:=(x1 != 0)) 19 (fun Za=>?_) (fun Za=>?_))
   ·have ZP:x1≠0:=(Yi).1 Za
    refine Y2 3 (.n 21 (Z0 rt.lent) (.n 22 (.i k) (.w .z))) [0] [b1] (ZA [] (U8 rt.lent (k:Int)) (Z1 2 25 (.b (!(decide ((k:Int)∈rt.lent)))) (ie ?_)))
    exact wk [0,0] (fw (fr (Zu (!(decide ((k:Int)∈rt.lent))) Za fl)))
   have Y1:¬(x1≠0):=ZI Yi Za
   refine Z5 6 (.n 25 (.b false) (.d (.k (.k (.k .z))))) (ie ?_)
   exact wk [0,0] (fw (fr (Zu false Za fl)))
  refine ac ((x1 != 0)&&(!(decide ((k:Int)∈rt.lent)))) (p:=(x1≠0)/\(¬((k:Int)∈rt.lent))) (YD Yi (Yw dq)) (fun Zk=>?_) (fun Zk=>?_)
  ·refine az (ir 2 [(1,.p b1 0),(4,.i k),(26,Z7 os u),(27,.i k)] (iL (Z8 [(k:Int)]) 1 1 ?_))
   intro v2
   refine Z5 0 (.n 28 (Z0 [(k:Int)]) (.p .r)) (ip 2 (Z8 (os++[(k:Int)])) (Z8 os) (Z8 [(k:Int)]) u none 1 (YF _) (YF _) (XX _) (by simp<;>omega) (by simp [XW,Z8]) ?_)
   intro v3
   refine Z1 1 3 (Z7 (os++[(k:Int)]) v3) (ie (az (Z1 1 11 (.i k) (ZL k (Z5 1 (.n 4 (.i (k+1:Nat)) (.p (.d (.k (.p (.d (.k .z))))))) (ie ?_))))))
   exact ZO ⟨k+1,(os++[(k:Int)]),v3,ob,ob,(by first|exact Zy|exact Xp Zy om),rfl,rfl,rfl⟩ (wk [2,0] (fw (ZQ k fl)))
  refine ak (az (ir 1 [(1,.p b1 0),(3,Z7 os u),(11,.i k)] (ZL k (Z1 1 4 (.i (k+1:Nat)) (ie ?_)))))
  exact ZO ⟨k+1,os,u,ob,ob,(by first|exact Zy|exact Xp Zy om),rfl,rfl,rfl⟩ (wk [0,0] (fw (ZQ k fl)))
 refine ax 0 (ar (ir 2 [(2,Z7 os u)] (ie ?_)))
 exact Zb (r2 [] [Z7 os u] ⟨os,rfl,rfl,⟨by omega,Zy⟩⟩ (Zg.forget _ _))
theorem SD (n:Zx) (qz:Nat) (hn:FO n qz Wr:=by exact ob) (hqz:qz<=181:=by exact ob):Zi Tryz.prog 160 [ZD n] [] (fun r h=>∃(n2:Zx),r=ZD n2/\h=[]/\FO n2 (60*qz) Vb):=by
 have hnl:=hn.fn.len
 have Xu:=hn.fn.decls.ok
 have hok:=hn.fn.ok
 refine ZK 39 Tryz.func160 (ar (iA (ZU n) ?_))
 intro b1
 refine iA [nl,nl] ?_
 intro b2
 refine ie (ar (iR 2 [(1,.p b1 0),(2,.p b2 0),(7,Zd n.decls)] [1] [b1] (ZA [] (B7 n.decls) (iL (YN []) 0 5 ?_))))
 intro v1
 refine Z1 1 10 (.agg [Zd n.decls,Xg [] v1]) (iA [nl,nl] ?_)
 intro b3
 refine ZF 0 b3 [Zd n.decls,Xg [] v1] (ie (aq (ar (Z1 1 4 (.i 0) (ie (ab 0 (al (fun m F h=>∃(k:Nat) (rs:List Yb) (u:Value),(k<=n.routines.length)/\(rs.length=k)/\(∀r∈rs,RF n.decls n.routines.length (60*qz) Vb r)/\F=[(1,.p b1 0),(2,.p b2 0),(3,.p b3 0),(4,.i k)]/\h=[.obj b3 [Zd n.decls,Xg rs u],.obj b2 [nl,nl],.obj b1 (ZU n),.tail u 5]/\m=n.routines.length-k) _ _ _ ⟨0,[],v1,ob,ob,(fun r hr=>by cases hr),rfl,rfl,rfl⟩ (wk [0,1,1,0] (fw (fr (Ya fl)))) ?_)))))))
 rintro m F h ⟨k,rs,u,Yj,Zp,Zy,rfl,rfl,rfl⟩
 refine aq (ar (ZY 3 11 (.i k) 13 (YZ n.routines) [2] [b1] (iw (VV n.routines) (Z1 1 15 (.b (decide ((k:Int)<(n.routines.length:Int)))) (ie (ZM ((k:Int)<(n.routines.length:Int)) (fun Ze=>?_) (fun Ze=>?_)))))))
 ·refine ak (aq (ab 1 (ar (ZY 3 19 (YZ n.routines) 20 (.i k) [2] [b1] ?_))))
  obtain ⟨x1,Z3⟩:=Zr (xs:=n.routines) (j:=k) om
  have hrf:=hn.rf (Y7 Z3)
  have hrp:(x1).params.length<=3:=(UV.bd (f:=⟨(x1).params,(x1).result,default⟩) hrf.sig).1
  have hrl:=hrf.lent.1
  have hrz:=hrf.body.2
  refine Zq (Zm none (k:Int) 5 (WB Z3)) (Z1 1 22 (WS x1) (iA [nl,nl,.i 0,nl,.i 0] ?_))
  intro b4
  refine ZF 0 b4 (VW x1) (ie (aE 16 (Y6 7 16 [0,1,2,3,4,5,6,7,8] (.n 24 (Xg rs u) (.n 25 (WS x1) (.n 26 (ZD n) (.n 28 (Z0 x1.params) (.n 30 (Zs x1.body) (.n 31 (WS x1) .r)))))) [1,0,3,0,0,0] [b3,b4,b1,b4,b4,b4] (Z9 9 (dc 9 [] [0,0,3,0,1] [b4,b4,b1,b4,b3] (Z02 x1) ?_)))))
  rintro _ _ ⟨os1,rfl,rfl,ZP⟩
  have hop:=ZP
  refine Z9 10 (dc 10 [] [0,1] [b4,b3] (SF n x1.params x1.body os1 _ (hf:=hrf.body.1) (hop:=hrf.op) (hul:=rfl) (hmr:=hop.2)) ?_)
  rintro _ _ ⟨y1,rfl,rfl,Y1⟩
  have hkb0:=Y1
  have hkb:=hkb0.le (z2:=60*qz) om
  refine Z9 11 (Yv 11 [] [1] [b3] (BX x1 y1 (hp:=om) (hl:=om)) (Z9 12 (dL 12 [1] [b3] (YN [Yb.mk x1.params x1.lent x1.result y1]) 1 5 ?_)))
  intro v2
  refine Y0 3 3 [] (.n 35 (YZ [Yb.mk x1.params x1.lent x1.result y1]) (.p .r)) (Z9 13 (dp 13 5 [] [] (YN (rs++[Yb.mk x1.params x1.lent x1.result y1])) (YN rs) (YN [Yb.mk x1.params x1.lent x1.result y1]) u none 5 (Ue _) (Ue _) (JX _) (by simp<;>omega) (by simp [AM,YN]) ?_))
  intro v3
  refine ZZ 1 2 [14] 37 (.p b3 1) (Z9 15 (YL 15 3 [] [] b3 [Zd n.decls,Xg (rs++[Yb.mk x1.params x1.lent x1.result y1]) v3] (de (az (Z1 1 16 (.i k) (ZL k (ir 1 [(1,.p b1 0),(2,.p b2 0),(3,.p b3 0),(4,.i (k+1:Nat))] (ie ?_))))))))
  exact ZO ⟨k+1,(rs++[Yb.mk x1.params x1.lent x1.result y1]),v3,ob,ob,(Xp Zy (by first|exact hrf.with hkb.fb hkb.sz hkb.op|(rw [Z6.eta];exact hrf.with hkb.fb hkb.sz hkb.op))),rfl,rfl,rfl⟩ (wk [0,3,3,0] (fw (fr (ZQ k fl))))
 refine ax 0 (ar (Yl 1 38 (.agg [Zd n.decls,Xg rs u]) [0] [b3] (ZF 1 b2 [Zd n.decls,Xg rs u] (ie ?_))))
 exact Zb (r3 [] [.agg [Zd n.decls,Xg rs u]] [0] [(b2,b2)] ⟨(Zx.mk n.decls rs),rfl,rfl,(FO.fin hn.fn om Zy).1⟩ (Zg.agg (.cons (lr _) (.cons (Zg.forget _ _) .nil))))
theorem NH (s:Z4) :Zi Tryz.prog 206 [Y3 s] [] (fun r h=>r=.b ((s.op==14)||(s.op==15))/\h=[]):=by
 refine ZK 11 Tryz.func206 (ar (iA (Yg s) ?_))
 intro b1
 refine ir 1 [(1,.p b1 0)] (ie (ar (XQ 8 [(10,.b ((s.op==14)||(s.op==15)))] [.obj b1 (Yg s)] ?_ (fun hj1=>?_))))
 ·refine ir 1 [(2,.b ((s.op==14)||(s.op==15)))] (ie ?_)
  exact Zb (r1 [] ⟨rfl,rfl⟩)
 refine iR 4 [(1,.p b1 0),(6,.b (s.op==14))] [0] [b1] (ib (b:=(s.op==14)) 6 (fun Za=>?_) (fun Za=>?_))
 ·have ZP:s.op=14:=(Zh).1 Za
  refine ir 4 [(10,.b true)] ?_
  exact YG (wk [0] (Zu true Za fl)) hj1
 have Y1:¬(s.op=14):=ZI Zh Za
 refine iR 4 [(10,.b (s.op==15))] [0] [b1] ?_
 exact YG (wk [0] (Zu (s.op==15) Za fl)) hj1
theorem Z0f (rn:List Z4) (hrn:∀s∈rn,∃a,s.args=[a]) (hl:rn.length<=100000000:=by exact ob):Zi Tryz.prog 237 [Ye rn] [] (fun r h=>∃(vs:List Int),r=Z0 vs/\h=[]/\Az vs/\vs.length<=rn.length/\∀v∈vs,∃s∈rn,s.args=[v]):=by
 refine ZK 22 Tryz.func237 (ar (ir 1 [(0,Ye rn)] (ie (ar (iL (Z8 []) 0 1 ?_)))))
 intro v1
 refine Z1 1 3 (Z7 [] v1) (ie (aq (ar (Z1 1 4 (.i 0) (ie (ab 0 (al (fun m F h=>∃(k:Nat) (vs:List Int),(k<=rn.length)/\(vs.length<=k)/\(Az vs)/\(∀v∈vs,∃s∈rn,s.args=[v])/\F=[(0,Ye rn),(3,Z0 vs),(4,.i k)]/\h=[]/\m=rn.length-k) _ _ _ ⟨0,[],ob,ob,List.Pairwise.nil,(fun v hv=>by cases hv),rfl,rfl,rfl⟩ (wk [] (fr (fc (x:=Z7 [] v1) (Zg.forget _ _) (Ya fl)))) ?_)))))))
 rintro m F h ⟨k,vs,Yj,Zp,Zy,YJ,rfl,rfl,rfl⟩
 refine aq (ar (Yq 2 6 (.i k) 7 (Ye rn) (iw (Vl rn) (Z1 1 9 (.b (decide ((k:Int)<(rn.length:Int)))) (ie (ZM ((k:Int)<(rn.length:Int)) (fun Ze=>?_) (fun Ze=>?_)))))))
 ·refine ak (aq (ab 1 (az (Z5 3 (.n 12 (Z0 vs) (.n 13 (Ye rn) (.n 14 (.i k) .r))) ?_))))
  obtain ⟨x1,Z3⟩:=Zr (xs:=rn) (j:=k) om
  have hxm:=Y7 Z3
  obtain ⟨xa,hxa⟩:=hrn _ hxm
  refine Zq (Zm none (k:Int) 5 (Wa Z3)) (Z1 2 17 (Z0 x1.args) ?_)
  obtain ⟨x2,Zt⟩:=Zr (xs:=x1.args) (j:=0) (by rw [hxa];simp)
  have hxe:x1.args=[x2]:=by have h:=Zt;rw [hxa] at h;rw [hxa];simpa using h
  refine Zq (Zm none 0 1 (Y4 Zt)) (Z1 1 19 (.i x2) (ic [] (Cq vs x2) ?_))
  rintro _ _ ⟨v2,rfl,rfl⟩
  refine ir 1 [(0,Ye rn),(3,Z7 (V5 vs x2) v2),(4,.i k)] (ie (az (Z1 1 10 (.i k) (ZL k (Z5 1 (.n 4 (.i (k+1:Nat)) (.p (.d (.k (.k .z))))) (ie ?_))))))
  exact ZO ⟨k+1,(V5 vs x2),ob,(by have:=BE vs x2;omega),(LD Zy),(fun v hv=>(Cy.1 hv).elim (YJ v) (fun e=>⟨x1,hxm,by rw [e];exact hxe⟩)),rfl,rfl,rfl⟩ (wk [] (fr (fc (x:=Z7 (V5 vs x2) v2) (Zg.forget _ _) (ZQ k fl))))
 refine ax 0 (ar (ir 2 [(2,Z0 vs)] (ie ?_)))
 exact Zb (r1 [] ⟨vs,rfl,rfl,⟨Zy,by omega,YJ⟩⟩)
theorem SU (rn:List Z4) (v:Int) (hrn:∀s∈rn,∃a,s.args=[a]) (hl:rn.length<=100000000:=by exact ob):Zi Tryz.prog 238 [Ye rn,.i v] [] (fun r h=>∃(z:Int),r=.i z/\h=[]/\-((Vi rn v:Nat):Int)<=z/\z<=((Vi rn v:Nat):Int)):=by
 refine ZK 44 Tryz.func238 (ar (ir 1 [(0,Ye rn),(1,.i v)] (ie (ar (Z1 1 5 (.i 0) (ie (aq (ar (Z1 1 6 (.i 0) (ie (ab 0 (al (fun m F h=>∃(k:Nat) (z:Int),(k<=rn.length)/\(-((Vi (rn.take k) v:Nat):Int)<=z/\z<=((Vi (rn.take k) v:Nat):Int))/\F=[(0,Ye rn),(1,.i v),(5,.i z),(6,.i k)]/\h=[]/\m=rn.length-k) _ _ _ ⟨0,0,ob,(by simp [Vi]),rfl,rfl,rfl⟩ (wk [] (fw (fr (Ya fl)))) ?_))))))))))))
 rintro m F h ⟨k,z,Yj,Zp,rfl,rfl,rfl⟩
 refine aq (ar (Yq 2 7 (.i k) 8 (Ye rn) (iw (Vl rn) (Z1 1 10 (.b (decide ((k:Int)<(rn.length:Int)))) (ie (ZM ((k:Int)<(rn.length:Int)) (fun Ze=>?_) (fun Ze=>?_)))))))
 ·refine ak (aq (ab 1 (ar (Yq 2 13 (Ye rn) 14 (.i k) ?_))))
  obtain ⟨x1,Z3⟩:=Zr (xs:=rn) (j:=k) om
  have hxm:=Y7 Z3
  obtain ⟨xa,hxa⟩:=hrn _ hxm
  have hct:=Pz Z3 v
  have hcl:=PA rn (k+1) v
  have hcm:=Ih rn v
  refine Zq (Zm none (k:Int) 5 (Wa Z3)) (Z1 2 17 (Z0 x1.args) ?_)
  obtain ⟨x2,Zt⟩:=Zr (xs:=x1.args) (j:=0) (by rw [hxa];simp)
  have hg0:=Jf Zt
  rw [hg0] at hct
  refine Zq (Zm none 0 1 (Y4 Zt)) (Xo [(0,Ye rn),(1,.i v),(5,.i z),(6,.i k),(29,.b ((x2==v)&&(x1.op==14)))] [] ?_ ?_)
  ·refine ir 4 [(0,Ye rn),(1,.i v),(5,.i z),(6,.i k),(22,.b (x2==v))] (ib (b:=(x2==v)) 22 (fun Za=>?_) (fun Za=>?_))
   ·have ZP:x2=v:=(Zh).1 Za
    refine Z5 2 (.n 23 (Ye rn) (.n 24 (.i k) (.w (.k .z)))) (Zq (Zm none (k:Int) 5 (Wa Z3)) (Z1 4 29 (.b (x1.op==14)) (ie ?_)))
    exact wk [] (fq (Zu (x1.op==14) Za fl))
   have Y1:¬(x2=v):=ZI Zh Za
   refine Z5 7 (.n 29 (.b false) (.d (.w .z))) (ie ?_)
   exact wk [] (fq (Zu false Za fl))
  refine ac ((x2==v)&&(x1.op==14)) (p:=(x2=v)/\(x1.op=14)) (YD Zh Zh) (fun Zk=>?_) (fun Zk=>?_)
  ·refine az (ir 1 [(0,Ye rn),(1,.i v),(6,.i k),(30,.i z)] (ia ((z+1)) ((z)+(1)) (Z1 1 5 (.i (z+1)) (ie (az (Z1 1 11 (.i k) (ZL k (Z5 1 (.n 6 (.i (k+1:Nat)) (.p (.d (.k (.p (.k (.k .z))))))) (ie ?_)))))))))
   exact ZO ⟨k+1,(z+1),ob,(by first|(rw [hct,Zo om];omega)|(rw [hct,Zc om];omega)),rfl,rfl,rfl⟩ (wk [] (fw (fr (ZQ k fl))))
  refine ar (ir 2 [(0,Ye rn),(1,.i v),(5,.i z),(6,.i k),(32,Ye rn),(33,.i k)] (Zq (Zm none (k:Int) 5 (Wa Z3)) (Z1 2 36 (Z0 x1.args) (Zq (Zm none 0 1 (Y4 Zt)) (Z1 3 40 (.b (x2==v)) (ie (ac (x2==v) Zh (fun ZG=>?_) (fun ZG=>?_))))))))
  ·refine az (Z1 1 41 (.i z) (ia ((z-1)) ((z)-(1)) (ir 1 [(0,Ye rn),(1,.i v),(5,.i (z-1)),(6,.i k)] (ie (az (Z1 1 11 (.i k) (ZL k (Z5 1 (.n 6 (.i (k+1:Nat)) (.p (.d (.k (.k (.k .z)))))) (ie ?_)))))))))
   exact ZO ⟨k+1,(z-1),ob,(by first|(rw [hct,Zo om];omega)|(rw [hct,Zc om];omega)),rfl,rfl,rfl⟩ (wk [] (fw (fr (ZQ k fl))))
  refine ak (az (Z1 1 11 (.i k) (ZL k (ir 1 [(0,Ye rn),(1,.i v),(5,.i z),(6,.i (k+1:Nat))] (ie ?_)))))
  exact ZO ⟨k+1,z,ob,(by first|(rw [hct,Zo om];omega)|(rw [hct,Zc om];omega)),rfl,rfl,rfl⟩ (wk [] (fw (fr (ZQ k fl))))
 refine ax 0 (ar (ir 2 [(4,.i z)] (ie ?_)))
 exact Zb (r1 [] ⟨z,rfl,rfl,(by have e:=Zp;rw [Vg om] at e;exact e)⟩)
theorem Li (rn:List Z4) (hrn:∀s∈rn,∃a,s.args=[a]) (hl:rn.length<=100000000:=by exact ob):Zi Tryz.prog 207 [Ye rn] [] (fun r h=>∃(D:List Int) (R:List Int) (v:Value),r=ZX (D.map (Zj 14)++R.map (Zj 15)) v/\h=[.tail v 5]/\D.length+R.length<=rn.length/\(∀v∈D,∃s∈rn,s.args=[v])/\∀v∈R,∃s∈rn,s.args=[v]):=by
 refine ZK 51 Tryz.func207 (ar (ir 1 [(0,Ye rn)] (ie (ar (iL (Z8 []) 0 1 ?_)))))
 intro v1
 refine Z1 1 3 (Z7 [] v1) (ie (ar (iL (Z8 []) 0 1 ?_)))
 intro v2
 refine Z1 1 4 (Z7 [] v2) (ie (ar (Z1 1 10 (Ye rn) (ic [] (Z0f rn (hrn:=ob)) ?_))))
 rintro _ _ ⟨vs1,rfl,rfl,ZP⟩
 have hvo:=ZP
 have hsl:=O4 rn hvo.1
 refine Z1 1 5 (Z0 vs1) (ie (aq (ar (Z1 1 6 (.i 0) (ie (ab 0 (al (fun m F h=>∃(k:Nat) (D:List Int) (u:Value) (R:List Int) (w:Value),(k<=vs1.length)/\(D.length+R.length<=Va rn (vs1.take k))/\(∀v∈D,v∈vs1)/\(∀v∈R,v∈vs1)/\F=[(0,Ye rn),(3,Z7 D u),(4,Z7 R w),(5,Z0 vs1),(6,.i k)]/\h=[.tail u 1,.tail w 1]/\m=vs1.length-k) _ _ _ ⟨0,[],v1,[],v2,ob,(by simp [Va]),(fun v hv=>by cases hv),(fun v hv=>by cases hv),rfl,rfl,rfl⟩ (wk [1,0] (fq (Ya fl))) ?_)))))))
 rintro m F h ⟨k,D,u,R,w,Yj,Zp,Zy,YJ,rfl,rfl,rfl⟩
 refine aq (ar (Yq 2 12 (.i k) 13 (Z0 vs1) (iw (Yh vs1) (Z1 1 15 (.b (decide ((k:Int)<(vs1.length:Int)))) (ie (ZM ((k:Int)<(vs1.length:Int)) (fun Ze=>?_) (fun Ze=>?_)))))))
 ·refine ak (aq (ab 1 (ar (Z5 3 (.n 18 (Ye rn) (.n 19 (Z0 vs1) (.n 20 (.i k) .r))) ?_))))
  obtain ⟨x1,Z3⟩:=Zr (xs:=vs1) (j:=k) om
  have hst:=Z8c (rn:=rn) Z3
  have hsk:=Hp rn vs1 (k+1)
  have hxm:=Y7 Z3
  refine Zq (Zm none (k:Int) 1 (Y4 Z3)) (Z1 1 22 (.i x1) (ic [] (SU rn x1 (hrn:=ob)) ?_))
  rintro _ _ ⟨z1,rfl,rfl,Y1⟩
  have hnt:=Y1
  refine Z1 1 7 (.i z1) (ie (aq (ab 2 (al (fun m F h=>∃(z:Int) (D2:List Int) (u2:Value) (w2:Value),((D2.length:Int)+(R.length:Int)+z<=((Va rn (vs1.take k):Nat):Int)+((Vi rn x1:Nat):Int))/\((D2.length:Int)+(R.length:Int)-z<=((Va rn (vs1.take k):Nat):Int)+((Vi rn x1:Nat):Int))/\(∀v∈D2,v∈vs1)/\F=[(0,Ye rn),(3,Z7 D2 u2),(4,Z7 R w2),(5,Z0 vs1),(6,.i k),(7,.i z)]/\h=[.tail u2 1,.tail w2 1]/\m=z.toNat) _ _ _ ⟨z1,D,u,w,om,om,Zy,rfl,rfl,rfl⟩ (wk [0,0] fl) ?_))))
  rintro m F h ⟨z,D2,u2,w2,VS,XH,XE,rfl,rfl,rfl⟩
  refine aq (ar (Z1 2 25 (.b (decide (z>0))) (ie (ZM (z>0) (fun Zk=>?_) (fun Zk=>?_)))))
  ·refine ak (aq (ab 3 (az (Z5 3 (.n 28 (Z7 D2 u2) (.n 29 (Z0 vs1) (.n 30 (.i k) .r))) (Zq (Zm none (k:Int) 1 (Y4 Z3)) (Z1 1 32 (.i x1) (iL (Z8 [x1]) 1 1 ?_)))))))
   intro v3
   refine Z5 0 (.n 33 (Z0 [x1]) (.p .r)) (ip 1 (Z8 (D2++[x1])) (Z8 D2) (Z8 [x1]) u2 none 1 (YF _) (YF _) (XX _) (by simp<;>omega) (by simp [XW,Z8]) ?_)
   intro v4
   refine Z5 1 (.n 3 (Z7 (D2++[x1]) v4) (.p (.d (.d (.p (.d (.d (.d (.d (.k (.d .r))))))))))) (ie (az (Z1 1 26 (.i z) (ia ((z-1)) ((z)-(1)) (Z5 1 (.n 7 (.i (z-1)) (.p (.d (.w (.k .z))))) (ie ?_))))))
   exact ZO ⟨(z-1),(D2++[x1]),v4,w2,(by simp only [Yz,YS,Xm];omega),(by simp only [Yz,YS,Xm];omega),(Xp XE hxm),rfl,rfl,rfl⟩ (wk [0,1] fl)
  refine ax 2 (ab 4 (al (fun m F h=>∃(y:Int) (R2:List Int) (u3:Value) (w3:Value),((D2.length:Int)+(R2.length:Int)+y<=((Va rn (vs1.take k):Nat):Int)+((Vi rn x1:Nat):Int))/\((D2.length:Int)+(R2.length:Int)-y<=((Va rn (vs1.take k):Nat):Int)+((Vi rn x1:Nat):Int))/\(∀v∈R2,v∈vs1)/\F=[(0,Ye rn),(3,Z7 D2 u3),(4,Z7 R2 w3),(5,Z0 vs1),(6,.i k),(7,.i y)]/\h=[.tail u3 1,.tail w3 1]/\m=(-y).toNat) _ _ _ ⟨z,R,u2,w2,ob,ob,YJ,rfl,rfl,rfl⟩ (wk [0,0] fl) ?_))
  rintro m F h ⟨y,R2,u3,w3,Ie,Dl,If,rfl,rfl,rfl⟩
  refine aq (ar (Z1 2 36 (.b (decide (y<0))) (ie (ZM (y<0) (fun ZG=>?_) (fun ZG=>?_)))))
  ·refine ak (aq (ab 5 (az (Z5 3 (.n 39 (Z7 R2 w3) (.n 40 (Z0 vs1) (.n 41 (.i k) .r))) (Zq (Zm none (k:Int) 1 (Y4 Z3)) (Z1 1 43 (.i x1) (iL (Z8 [x1]) 1 1 ?_)))))))
   intro v5
   refine Z5 0 (.n 44 (Z0 [x1]) (.p .r)) (ip 2 (Z8 (R2++[x1])) (Z8 R2) (Z8 [x1]) w3 none 1 (YF _) (YF _) (XX _) (by simp<;>omega) (by simp [XW,Z8]) ?_)
   intro v6
   refine Z5 1 (.n 4 (Z7 (R2++[x1]) v6) (.p (.d (.d (.p (.d (.d (.d (.d (.k (.k (.d .r)))))))))))) (ie (az (Z1 1 37 (.i y) (ia ((y+1)) ((y)+(1)) (Z5 1 (.n 7 (.i (y+1)) (.p (.d (.w (.k .z))))) (ie ?_))))))
   exact ZO ⟨(y+1),(R2++[x1]),u3,v6,(by simp only [Yz,YS,Xm];omega),(by simp only [Yz,YS,Xm];omega),(Xp If hxm),rfl,rfl,rfl⟩ (wk [2,0] fl)
  refine ax 4 (az (Z1 1 16 (.i k) (ZL k (Z5 1 (.n 6 (.i (k+1:Nat)) (.p (.d (.d (.w .z))))) (ie ?_)))))
  exact ZO ⟨k+1,D2,u3,R2,w3,ob,(by rw [hst];omega),XE,If,rfl,rfl,rfl⟩ (wk [0,0] (fq (ZQ k fl)))
 have Xq:=Hp rn vs1 k
 refine ax 0 (ar (Z1 1 46 (Z0 D) (ic [] (Qs 14 D) ?_)))
 rintro _ _ ⟨v7,rfl,rfl⟩
 refine Z1 1 48 (Z0 R) (ic [] (Qs 15 R) ?_)
 rintro _ _ ⟨v8,rfl,rfl⟩
 refine Z5 0 (.n 49 (Ye (R.map (Zj 15))) (.p .r)) (ip 1 (Zv ((D.map (Zj 14))++(R.map (Zj 15)))) (Zv (D.map (Zj 14))) (Zv (R.map (Zj 15))) v7 none 5 (X8 _) (X8 _) (Vv _) (by simp<;>omega) (by simp [Wy,Zv]) ?_)
 intro v9
 refine ir 1 [(2,ZX ((D.map (Zj 14))++(R.map (Zj 15))) v9)] (ie ?_)
 exact Zb (r2 [0] [ZX ((D.map (Zj 14))++(R.map (Zj 15))) v9] ⟨_,_,v9,rfl,rfl,⟨by have:=Hp rn vs1 k;omega,fun v hv=>hvo.2.2 v (Zy v hv),fun v hv=>hvo.2.2 v (YJ v hv)⟩⟩ (Zg.slh _ (Yx Zv ob)))
theorem Sf (ds:List Zf) (nf:Nat) (b:Z6) (mm:Nat) (hf:fB ds nf mm b) (hop:WZ Vb b) (hz:b.sz<=100000000) (ih:∀(b2:Z6) (m2:Nat),(fB ds nf m2 b2)->(WZ Vb b2)->(b2.sz<=100000000)->(b2.sz<b.sz)->Zi Tryz.prog 163 [Zs b2] [] (fun r h=>∃(y:Z6),r=Zs y/\h=[]/\KB ds nf m2 y b2.sz)):Zi Tryz.prog 163 [Zs b] [] (fun r h=>∃(y:Z6),r=Zs y/\h=[]/\KB ds nf mm y b.sz):=by
 have hbe:=b.sz_eq
 have ZE:=Vf b
 obtain ⟨hfs,hr1,hr2⟩:=(Cj b).1 hf
 have hos:=B5.1 ((Ed b).1 hop)
 refine ZK 72 Tryz.func163 (ar (iA (Yk b) ?_))
 intro b1
 refine iA [nl,.i 0] ?_
 intro b2
 refine ie (ar (iL (Zv []) 0 5 ?_))
 intro v1
 refine ir 1 [(1,.p b1 0),(2,.p b2 0),(3,ZX [] v1)] (ie (ar (iL (Zv []) 0 5 ?_)))
 intro v2
 refine Z1 1 4 (ZX [] v2) (ie (aq (ar (Z1 1 5 (.i 0) (ie (ab 0 (al (fun m F h=>∃(k:Nat) (xs:List Z4) (v:Value) (rn:List Z4) (u:Value) (z0:Nat),(k<=b.steps.length)/\(CL ds nf mm xs (YO (b.steps.take k)) z0)/\(z0+2*rn.length<=Yp (b.steps.take k))/\(HJ (mm+(YO (b.steps.take k))) rn)/\F=[(1,.p b1 0),(2,.p b2 0),(3,ZX xs v),(4,ZX rn u),(5,.i k)]/\h=[.obj b2 [nl,.i 0],.obj b1 (Yk b),.tail u 5,.tail v 5]/\m=b.steps.length-k) _ _ _ ⟨0,[],v1,[],v2,0,ob,CL.nil,(by simp [Yp]),(fun s hs=>by cases hs),rfl,rfl,rfl⟩ (wk [2,2,0,0] (fq (Ya fl))) ?_)))))))
 rintro m F h ⟨k,xs,v,rn,u,z0,Yj,Zp,Zy,YJ,rfl,rfl,rfl⟩
 refine aq (ar (ZY 3 11 (.i k) 13 (Ye b.steps) [1] [b1] (iw (Vl b.steps) (Z1 1 15 (.b (decide ((k:Int)<(b.steps.length:Int)))) (ie (ZM ((k:Int)<(b.steps.length:Int)) (fun Ze=>?_) (fun Ze=>?_)))))))
 ·refine ak (aq (ab 1 (ar (ZY 3 19 (Ye b.steps) 20 (.i k) [1] [b1] ?_))))
  obtain ⟨x1,Z3⟩:=Zr (xs:=b.steps) (j:=k) om
  have Xq:=An Z3
  have hfS:=(DA x1).1 (Cl hfs Z3)
  have hoS:=(CM x1).1 (hos x1 (Y7 Z3))
  have htk:=EH Z3
  have htl:=Qa b.steps (k+1)
  have hse:=(x1).sz_eq
  have hdt:=Iu Z3
  have hxl:=Zp.len
  have hkl2:=Di (x1).kids
  refine Zq (Zm none (k:Int) 5 (Wa Z3)) (Z1 1 22 (Y3 x1) (iA [.i 0,.i 0,.i 0,nl,nl] ?_))
  intro b3
  refine ZF 0 b3 (Yg x1) (ie (ar (Yl 1 23 (Y3 x1) [0] [b3] (ZA [] (NH x1) (ie (ac ((x1.op==14)||(x1.op==15)) (p:=(x1.op=14)∨(x1.op=15)) (Yo Zh Zh) (fun Zk=>?_) (fun Zk=>?_)))))))
  ·refine az (ZY 2 25 (ZX rn u) 26 (Y3 x1) [0] [b3] (U7 [Y3 x1] (Zv [x1]) (Vd [x1]).symm 1 5 ?_))
   intro v3
   refine Z5 0 (.n 27 (Ye [x1]) (.p .r)) (ip 4 (Zv (rn++[x1])) (Zv rn) (Zv [x1]) u none 5 (X8 _) (X8 _) (Vv _) (by simp<;>omega) (by simp [Wy,Zv]) ?_)
   intro v4
   refine ir 1 [(1,.p b1 0),(2,.p b2 0),(3,ZX xs v),(4,ZX (rn++[x1]) v4),(5,.i k)] (ie (az (Z1 1 16 (.i k) (ZL k (Z5 1 (.n 5 (.i (k+1:Nat)) (.p (.d (.w .z)))) (ie ?_))))))
   obtain ⟨⟨pa,hpa,hpr⟩,Y1,hpc⟩:=hfS.pair (by assumption)
   rw [Zo hpc,Be] at hdt
   exact ZO ⟨k+1,xs,v,(rn++[x1]),v4,_,ob,(by rw [hdt];exact Zp),(by rw [htk];simp only [Yz,YS,Xm];omega),(by rw [hdt];exact Xp YJ ⟨pa,hpa,hpr⟩),rfl,rfl,rfl⟩ (wk [3,3,0,2] (fq (ZQ k fl)))
  refine ar (Yq 2 29 (ZX xs v) 30 (Ye rn) (ic [] (Li rn (hrn:=(fun s hs=>(YJ s hs).elim fun a h=>⟨a,h.1⟩))) ?_))
  rintro _ _ ⟨D1,R1,v5,rfl,rfl,ZP⟩
  have hsr:=ZP
  have hq1:=Zp.run YJ hsr.2.1 hsr.2.2
  have hl1:=Zp.len
  have htl1:=Qa b.steps k
  refine Z5 0 (.n 31 (Ye (D1.map (Zj 14)++R1.map (Zj 15))) (.p .r)) (ip 5 (Zv (xs++(D1.map (Zj 14)++R1.map (Zj 15)))) (Zv xs) (Zv (D1.map (Zj 14)++R1.map (Zj 15))) v none 5 (X8 _) (X8 _) (Vv _) (by simp<;>omega) (by simp [Wy,Zv]) ?_)
  intro v6
  refine ir 1 [(1,.p b1 0),(2,.p b2 0),(3,ZX (xs++(D1.map (Zj 14)++R1.map (Zj 15))) v6),(5,.i k),(6,.p b3 0)] (ie (ar (iL (Zv []) 0 5 ?_)))
  intro v7
  refine Z1 1 4 (ZX [] v7) (ie (ar (iL (YH []) 0 2 ?_)))
  intro v8
  refine Z1 1 7 (X4 [] v8) (ie (aq (ar (Z1 1 8 (.i 0) (ie (ab 2 (al (fun m F h=>∃(j:Nat) (ks:List Z6) (w:Value) (v3:Value) (u4:Value),(j<=x1.kids.length)/\(ks.length=j)/\(KK ds nf (UA ds x1.op x1.num (mm+(YO (b.steps.take k)))) ks (YR (x1.kids.take j)))/\F=[(1,.p b1 0),(2,.p b2 0),(3,ZX (xs++(D1.map (Zj 14)++R1.map (Zj 15))) v3),(4,ZX [] u4),(5,.i k),(6,.p b3 0),(7,X4 ks w),(8,.i j)]/\h=[.obj b3 (Yg x1),.obj b2 [nl,.i 0],.obj b1 (Yk b),.tail u4 5,.tail v3 5,.tail w 2]/\m=x1.kids.length-j) _ _ _ ⟨0,[],v8,v6,v7,ob,ob,(KK.nil.le (K5 _)),rfl,rfl,rfl⟩ (wk [4,4,4,1,1,0] (fq (fw (fr (Ya fl))))) ?_)))))))
  rintro m F h ⟨j,ks,w,v3,u4,VS,XH,XE,rfl,rfl,rfl⟩
  refine aq (ar (ZY 3 35 (.i j) 37 (Yu x1.kids) [0] [b3] (iw (VG x1.kids) (Z1 1 39 (.b (decide ((j:Int)<(x1.kids.length:Int)))) (ie (ZM ((j:Int)<(x1.kids.length:Int)) (fun ZG=>?_) (fun ZG=>?_)))))))
  ·refine ak (aq (ab 3 (az (Y2 4 (.n 42 (X4 ks w) (.n 44 (Yu x1.kids) (.n 45 (.i j) .r))) [0] [b3] ?_))))
   obtain ⟨x2,Zt⟩:=Zr (xs:=x1.kids) (j:=j) om
   have hkz:=Uy Zt
   have hfk:=Ck hfS.kids Zt
   rw [WQ] at hfk
   have hok:=BN.1 hoS.2 x2 (Y7 Zt)
   have hbt:=Dj Zt
   refine Zq (Zm none (j:Int) 2 (U5 Zt)) (Z1 1 47 (Zs x2) (ic [] (ih x2 (UA ds x1.op x1.num (mm+(YO (b.steps.take k))) j) hfk hok ob ob) ?_))
   rintro _ _ ⟨y1,rfl,rfl,Y1⟩
   have hkb:=Y1
   refine U7 [Zs y1] (YH [y1]) (Ur [y1]).symm 1 2 ?_
   intro v9
   refine Z5 0 (.n 49 (Yu [y1]) (.p .r)) (ip 6 (YH (ks++[y1])) (YH ks) (YH [y1]) w none 2 (T7 _) (T7 _) (Dr _) (by simp<;>omega) (by simp [J8,YH]) ?_)
   intro v10
   refine Z5 1 (.n 7 (X4 (ks++[y1]) v10) (.p (.d (.p (.d (.p (.d (.d (.d (.d (.p (.d (.d (.w (.k (.k (.d .r))))))))))))))))) (ie (az (Z1 1 40 (.i j) (ZL j (Z5 1 (.n 8 (.i (j+1:Nat)) (.p (.d (.w (.k (.k (.k .z))))))) (ie ?_))))))
   exact ZO ⟨j+1,(ks++[y1]),v10,v3,u4,ob,ob,((XE.snoc XH hkb).le om),rfl,rfl,rfl⟩ (wk [2,2,2,2,2,0] (fq (fw (fr (ZQ j fl)))))
  refine ax 2 (aE 15 (Y6 5 15 [0,1,2,3,4,5,6,7,8,10] (.n 51 (ZX (xs++(D1.map (Zj 14)++R1.map (Zj 15))) v3) (.n 53 (.i x1.op) (.n 55 (.i x1.num) (.n 57 (.i x1.into) (.n 59 (Z0 x1.args) (.n 61 (X4 ks w) .r)))))) [0,0,0,0] [b3,b3,b3,b3] (Z9 9 (dc 9 [] [0,0,0] [b3,b3,b3] (VP x1.args) ?_))))
  rintro _ _ ⟨v11,rfl,rfl⟩
  refine ZZ 3 4 [11] 62 (.agg [.i x1.op,.i x1.num,.i x1.into,Z0 x1.args,Yu ks]) (Z9 12 (Wj 12 [] [] [Y3 (Z4.mk x1.op x1.num x1.into x1.args ks)] (Zv [Z4.mk x1.op x1.num x1.into x1.args ks]) (Vd [Z4.mk x1.op x1.num x1.into x1.args ks]).symm 1 5 ?_))
  intro v12
  refine Y0 2 2 [] (.n 63 (Ye [Z4.mk x1.op x1.num x1.into x1.args ks]) (.p .r)) (Z9 13 (dp 13 6 [] [] (Zv ((xs++(D1.map (Zj 14)++R1.map (Zj 15)))++[Z4.mk x1.op x1.num x1.into x1.args ks])) (Zv (xs++(D1.map (Zj 14)++R1.map (Zj 15)))) (Zv [Z4.mk x1.op x1.num x1.into x1.args ks]) v3 none 5 (X8 _) (X8 _) (Vv _) (by simp<;>omega) (by simp [Wy,Zv]) ?_))
  intro v13
  refine Xa 0 1 [14] [(1,.p b1 0),(2,.p b2 0),(3,ZX ((xs++(D1.map (Zj 14)++R1.map (Zj 15)))++[Z4.mk x1.op x1.num x1.into x1.args ks]) v13),(4,ZX [] u4),(5,.i k)] (de (az (Z1 1 16 (.i k) (ZL k (Z5 1 (.n 5 (.i (k+1:Nat)) (.p (.d (.w .z)))) (ie ?_))))))
  obtain ⟨hn1,hn2⟩:=hfS.not_pair (by assumption) hoS.1
  rw [Zc (by rw [hn2];simp)] at hdt
  have hbj:=Dk (xs:=x1.kids) (k:=j) om
  have hkt:=KT.eq hfS hn1 om XE
  have hq2:=hq1.kt hkt
  exact ZO ⟨k+1,((xs++(D1.map (Zj 14)++R1.map (Zj 15)))++[Z4.mk x1.op x1.num x1.into x1.args ks]),v13,[],u4,_,ob,(by rw [hdt];exact hq2),(by rw [htk];simp only [Xm];omega),(fun s hs=>by cases hs),rfl,rfl,rfl⟩ (wk [4,4,4,0] (fq (ZQ k fl)))
 have htl2:=Qa b.steps k
 have hxl2:=Zp.len
 refine ax 0 (aD 8 (Y6 4 8 [0,1,4,5] (.n 65 (ZX xs v) (.n 66 (Ye rn) (.n 70 (.i b.result) .r))) [1] [b1] (Z9 2 (dc 2 [] [1] [b1] (Li rn (hrn:=(fun s hs=>(YJ s hs).elim fun a h=>⟨a,h.1⟩))) ?_))))
 rintro _ _ ⟨D2,R2,v14,rfl,rfl,Yy⟩
 have hsr:=Yy
 have hq1:=Zp.run YJ hsr.2.1 hsr.2.2
 have hl1:=Zp.len
 have htl1:=Qa b.steps k
 refine Y0 3 3 [] (.n 67 (Ye (D2.map (Zj 14)++R2.map (Zj 15))) (.p .r)) (Z9 3 (dp 3 4 [1] [b1] (Zv (xs++(D2.map (Zj 14)++R2.map (Zj 15)))) (Zv xs) (Zv (D2.map (Zj 14)++R2.map (Zj 15))) v none 5 (X8 _) (X8 _) (Vv _) (by simp<;>omega) (by simp [Wy,Zv]) ?_))
 intro v15
 refine ZZ 1 2 [6] 71 (.agg [ZX (xs++(D2.map (Zj 14)++R2.map (Zj 15))) v15,.i b.result]) (Z9 7 (YL 7 2 [] [] b2 [ZX (xs++(D2.map (Zj 14)++R2.map (Zj 15))) v15,.i b.result] (de ?_)))
 exact Zb (r3 [] [.agg [ZX (xs++(D2.map (Zj 14)++R2.map (Zj 15))) v15,.i b.result]] [0] [(b2,b2)] ⟨(Z6.mk (xs++(D2.map (Zj 14)++R2.map (Zj 15))) b.result),rfl,rfl,(by have e:b.steps.take k=b.steps:=Vg om;rw [e] at Zy hq1;exact (hq1.block ⟨hr1,hr2⟩).le om)⟩ (Zg.agg (.cons (Zg.forget _ _) (.cons (lr _) .nil))))
theorem Se (ds:List Zf) (nf:Nat) (b:Z6) (mm:Nat) (hf:fB ds nf mm b:=by exact ob) (hop:WZ Vb b:=by exact ob) (hz:b.sz<=100000000:=by exact ob):Zi Tryz.prog 163 [Zs b] [] (fun r h=>∃(y:Z6),r=Zs y/\h=[]/\KB ds nf mm y b.sz):=by
 have key:∀k:Nat,∀(b2:Z6) (m2:Nat),(fB ds nf m2 b2)->(WZ Vb b2)->(b2.sz<=100000000)->(b2.sz<k)->Zi Tryz.prog 163 [Zs b2] [] (fun r h=>∃(y:Z6),r=Zs y/\h=[]/\KB ds nf m2 y b2.sz):=by
  intro k
  induction k with
  | zero=>intro b2 m2 h1 h2 h3 h9;omega
  | succ k ih=>intro b2 m2 h1 h2 h3 h9;exact Sf ds nf b2 m2 h1 h2 h3 fun b3 m3 q1 q2 q3 q9=>ih b3 m3 q1 q2 q3 om
 exact key (b.sz+1) b mm hf hop hz om
theorem Sh (n:Zx) (qz:Nat) (hn:FO n qz Vb:=by exact ob) (hqz:qz<=10000000:=by exact ob):Zi Tryz.prog 124 [ZD n] [] (fun r h=>∃(n2:Zx),r=ZD n2/\h=[]/\FO n2 qz Vb):=by
 have hnl:=hn.fn.len
 have Xu:=hn.fn.decls.ok
 have hok:=hn.fn.ok
 refine ZK 36 Tryz.func124 (ar (iA (ZU n) ?_))
 intro b1
 refine iA [nl,nl] ?_
 intro b2
 refine ie (ar (iR 2 [(1,.p b1 0),(2,.p b2 0),(6,Zd n.decls)] [1] [b1] (ZA [] (B7 n.decls) (iL (YN []) 0 5 ?_))))
 intro v1
 refine Z1 1 9 (.agg [Zd n.decls,Xg [] v1]) (iA [nl,nl] ?_)
 intro b3
 refine ZF 0 b3 [Zd n.decls,Xg [] v1] (ie (aq (ar (Z1 1 4 (.i 0) (ie (ab 0 (al (fun m F h=>∃(k:Nat) (rs:List Yb) (u:Value),(k<=n.routines.length)/\(rs.length=k)/\(∀r∈rs,RF n.decls n.routines.length qz Vb r)/\F=[(1,.p b1 0),(2,.p b2 0),(3,.p b3 0),(4,.i k)]/\h=[.obj b3 [Zd n.decls,Xg rs u],.obj b2 [nl,nl],.obj b1 (ZU n),.tail u 5]/\m=n.routines.length-k) _ _ _ ⟨0,[],v1,ob,ob,(fun r hr=>by cases hr),rfl,rfl,rfl⟩ (wk [0,1,1,0] (fw (fr (Ya fl)))) ?_)))))))
 rintro m F h ⟨k,rs,u,Yj,Zp,Zy,rfl,rfl,rfl⟩
 refine aq (ar (ZY 3 10 (.i k) 12 (YZ n.routines) [2] [b1] (iw (VV n.routines) (Z1 1 14 (.b (decide ((k:Int)<(n.routines.length:Int)))) (ie (ZM ((k:Int)<(n.routines.length:Int)) (fun Ze=>?_) (fun Ze=>?_)))))))
 ·refine ak (aq (ab 1 (aE 19 (Y6 14 19 [0,1,2,3,4] (.n 18 (Xg rs u) (.n 20 (YZ n.routines) (.n 21 (.i k) .r))) [0,2] [b3,b1] ?_))))
  obtain ⟨x1,Z3⟩:=Zr (xs:=n.routines) (j:=k) om
  have hrf:=hn.rf (Y7 Z3)
  have hrp:(x1).params.length<=3:=(UV.bd (f:=⟨(x1).params,(x1).result,default⟩) hrf.sig).1
  have hrl:=hrf.lent.1
  have hrz:=hrf.body.2
  refine dx 5 (Zm none (k:Int) 5 (WB Z3)) (Y6 9 13 [6,7,8,9] (.n 23 (WS x1) (.n 25 (YZ n.routines) (.n 26 (.i k) .r))) [2] [b1] (dx 10 (Zm none (k:Int) 5 (WB Z3)) (ZZ 6 8 [11,12] 29 (Zs x1.body) (Z9 13 (dc 13 [] [2,0] [b1,b3] (Se n.decls n.routines.length x1.body _ (hf:=hrf.body.1) (hop:=hrf.op)) ?_)))))
  rintro _ _ ⟨y1,rfl,rfl,ZP⟩
  have hkb0:=ZP
  have hkb:=hkb0.le (z2:=qz) hrz
  refine Z9 14 (Yv 14 [] [0] [b3] (BX x1 y1 (hp:=om) (hl:=om)) (Z9 15 (dL 15 [0] [b3] (YN [Yb.mk x1.params x1.lent x1.result y1]) 1 5 ?_)))
  intro v2
  refine Y0 3 3 [] (.n 32 (YZ [Yb.mk x1.params x1.lent x1.result y1]) (.p .r)) (Z9 16 (dp 16 4 [] [] (YN (rs++[Yb.mk x1.params x1.lent x1.result y1])) (YN rs) (YN [Yb.mk x1.params x1.lent x1.result y1]) u none 5 (Ue _) (Ue _) (JX _) (by simp<;>omega) (by simp [AM,YN]) ?_))
  intro v3
  refine ZZ 1 2 [17] 34 (.p b3 1) (Z9 18 (YL 18 2 [] [] b3 [Zd n.decls,Xg (rs++[Yb.mk x1.params x1.lent x1.result y1]) v3] (de (az (Z1 1 15 (.i k) (ZL k (ir 1 [(1,.p b1 0),(2,.p b2 0),(3,.p b3 0),(4,.i (k+1:Nat))] (ie ?_))))))))
  exact ZO ⟨k+1,(rs++[Yb.mk x1.params x1.lent x1.result y1]),v3,ob,ob,(Xp Zy (hrf.with hkb.fb hkb.sz hkb.op)),rfl,rfl,rfl⟩ (wk [0,2,2,0] (fw (fr (ZQ k fl))))
 refine ax 0 (ar (Yl 1 35 (.agg [Zd n.decls,Xg rs u]) [0] [b3] (ZF 1 b2 [Zd n.decls,Xg rs u] (ie ?_))))
 exact Zb (r3 [] [.agg [Zd n.decls,Xg rs u]] [0] [(b2,b2)] ⟨(Zx.mk n.decls rs),rfl,rfl,(FO.fin hn.fn om Zy).1⟩ (Zg.agg (.cons (lr _) (.cons (Zg.forget _ _) .nil))))
end Go.Abs
