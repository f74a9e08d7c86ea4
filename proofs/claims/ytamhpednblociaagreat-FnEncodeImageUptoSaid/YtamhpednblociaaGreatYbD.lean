/-
  A part of the proofs of several laws (see the last file): no condition.
-/
import Derived.Test.YtamhpednblociaaGreatYbC
set_option linter.all false
set_option linter.unusedVariables false
set_option linter.unusedSimpArgs false
set_option linter.unusedSectionVars false
set_option maxRecDepth 10000
set_option maxHeartbeats 4000000
namespace Go.Abs
open Go.Proofs
theorem TU (ps:LI) (rt:Int) :Zo 180 [Z4 ps,.i rt] [] (Yx (Eo (Func.mk ps rt (Z2.mk 0 0 [])))):=by
 exact ZE 8 Tryz.func180 (ar (iA [nl,.i 0,.i 0,.i 0,nl] fun b1=>ie (Yf 3 (Zy 0 b1 [Z4 ps,.i rt,.i 0,.i 0,nl] (ie (ZY (r3 [] [.agg [Z4 ps,.i rt,.i 0,.i 0,nl]] [0] [(b1,b1)] ⟨rfl,rfl⟩ (Zd.agg (.cons (Zd.sl _ (Yl Z6 ob)) (.cons li (.cons li (.cons li (.cons (Zd.sl _ rfl) .nil)))))))))))))
theorem Z91 (rd:Nat) (bs:LI) (p:Nat) (xs:LI) (ZL:∀z∈bs,0<=z/\z<=255) (hp:p+1<=1000000000:=by exact ob) (hx:0<xs.length/\xs.length<=1000000:=by exact ob) (hy:xs.all (fun x=>decide (0<=x))=true:=by exact ob):Zo 41 [.p rd 0,Z4 xs] [YI rd bs p] (fun r h=>∃(nn:Nat),r=.i nn/\h=[.obj rd [Um bs,.i (p+1:Nat)]]/\(nn:Int)∈xs):=(UT rd bs p xs ZL hp hx).mono fun r h ⟨z,hr,hh,hz⟩=>by
  have h0:0<=z:=of_decide_eq_true (JU.1 hy z hz)
  exact ⟨z.toNat,by rw [hr,Int.toNat_of_nonneg h0],hh,by rw [Int.toNat_of_nonneg h0];exact hz⟩
theorem Z7r (rd:Nat) (bs:LI) (p:Nat) (g:W8) (gb:Nat) (rs:List Func) (f:Func) (i:Int) (nl:Nat) (ZL:∀z∈bs,0<=z/\z<=255) (hp:p+90000<=1000000000:=by exact ob) (hg:GP g:=by exact ob) (Wo:g.funcs <+: rs:=by exact ob) (hi:0<=i:=by exact ob) (hf:g.funcs[i.toNat]? = some f:=by exact ob) (h0:i=0->f.params.length=0:=by exact ob) (hn:g.funcs.length=nl:=by exact ob):Zo 181 [.p rd 0,.agg [Ye g.decls,.ms gb 0 nl 4],.i i] [YI rd bs p,XR gb rs] (fun r h=>∃(e:Z2) (p2:Nat),r=Yb e/\h=[YI rd bs p2,XR gb rs]/\GE g f.params.length 30 e/\p<=p2/\p2<=p+90000):=(by subst hn;exact Z7q rd bs p g gb rs f i ZL hp hg Wo hi hf h0)
theorem Z8g (rd:Nat) (bs:LI) (p:Nat) (ZL:∀z∈bs,0<=z/\z<=255) (hp:p+400000<=1000000000):Zo 166 [.p rd 0] [YI rd bs p] (fun r h=>∃(rs:List Func) (ds:List Zb) (m:Nat) (gb:Nat) (p2:Nat),r=.agg [Ye ds,.ms gb 0 m 4]/\h=[XR gb rs,YI rd bs p2]/\(GL ds m 0 rs/\GD ds/\1<=m/\m<=4)/\p<=p2/\p2<=p+400000):=by
 refine ZE 110 Tryz.func166 (ar (iA [nl,nl] fun b1=>ie (Yf 1 (ic [1] (Z8d rd bs p (ZL:=ob)) ?_))))
 rintro _ _ ⟨ds1,v1,rfl,rfl,Y4⟩
 have hgd:=Y4
 refine Z0 1 (iA [nl,nl] fun b2=>Zy 0 b2 [Tt ds1 v1,nl] (ie (ar (iL (Z6 [1]) 1 1 fun v2=>ZQ 0 [(13,Z4 [1])] (Zw [] (TU [1] 0) (iL (Z6 [1,1]) 2 1 fun v3=>ZQ 0 [(15,Z4 [1,1])] (Zw [] (TU [1,1] 1) (iL (Z6 [1]) 1 1 fun v4=>ZQ 0 [(17,Z4 [1])] (Zw [] (TU [1] 1) (iL (Z6 [1,0]) 2 1 fun v5=>ZQ 0 [(19,Z4 [1,0])] (Zw [] (TU [1,0] 1) (iL (Z6 [2,1]) 2 1 fun v6=>ZQ 0 [(21,Z4 [2,1])] (Zw [] (TU [2,1] 1) (iL (Z6 [1,1]) 2 1 fun v7=>ZQ 0 [(23,Z4 [1,1])] (Zw [] (TU [1,1] 0) (iL (Xt [Func.mk [1] 0 (Z2.mk 0 0 []),Func.mk [1,1] 1 (Z2.mk 0 0 []),Func.mk [1] 1 (Z2.mk 0 0 []),Func.mk [1,0] 1 (Z2.mk 0 0 []),Func.mk [2,1] 1 (Z2.mk 0 0 []),Func.mk [1,1] 0 (Z2.mk 0 0 [])]) 6 5 fun v8=>Z1 (ar (iL (Z6 [3]) 1 1 fun v9=>ZQ 0 [(26,Z4 [3])] (Zw [] (TU [3] 0) (iL (Z6 [0]) 1 1 fun v10=>ZQ 0 [(28,Z4 [0])] (Zw [] (TU [0] 1) (iL (Z6 [0,1]) 2 1 fun v11=>ZQ 0 [(30,Z4 [0,1])] (Zw [] (TU [0,1] 1) (iL (Z6 [3,0]) 2 1 fun v12=>ZQ 0 [(32,Z4 [3,0])] (Zw [] (TU [3,0] 3) (iL (Z6 [3]) 1 1 fun v13=>ZQ 0 [(34,Z4 [3])] (Zw [] (TU [3] 1) (iL (Z6 [1,3,0]) 3 1 fun v14=>ZQ 0 [(36,Z4 [1,3,0])] (Zw [] (TU [1,3,0] 0) (iL (Xt [Func.mk [3] 0 (Z2.mk 0 0 []),Func.mk [0] 1 (Z2.mk 0 0 []),Func.mk [0,1] 1 (Z2.mk 0 0 []),Func.mk [3,0] 3 (Z2.mk 0 0 []),Func.mk [3] 1 (Z2.mk 0 0 []),Func.mk [1,3,0] 0 (Z2.mk 0 0 [])]) 6 5 fun v15=>Z1 (ar (iL (Z6 [0]) 1 1 fun v16=>ZQ 0 [(39,Z4 [0])] (Zw [] (TU [0] 0) (iL (Z6 [0,0]) 2 1 fun v17=>ZQ 0 [(41,Z4 [0,0])] (Zw [] (TU [0,0] 0) (iL (Z6 [1,0]) 2 1 fun v18=>ZQ 0 [(43,Z4 [1,0])] (Zw [] (TU [1,0] 0) (iL (Z6 [0]) 1 1 fun v19=>ZQ 0 [(45,Z4 [0])] (Zw [] (TU [0] 1) (iL (Xt [Func.mk [0] 0 (Z2.mk 0 0 []),Func.mk [0,0] 0 (Z2.mk 0 0 []),Func.mk [1,0] 0 (Z2.mk 0 0 []),Func.mk [0] 1 (Z2.mk 0 0 [])]) 4 5 fun v20=>Z1 (aD 26 (Zp 23 26 [2,3,4] (dn 5 (.i (([Func.mk [1] 0 (Z2.mk 0 0 []),Func.mk [1,1] 1 (Z2.mk 0 0 []),Func.mk [1] 1 (Z2.mk 0 0 []),Func.mk [1,0] 1 (Z2.mk 0 0 []),Func.mk [2,1] 1 (Z2.mk 0 0 []),Func.mk [1,1] 0 (Z2.mk 0 0 [])].length:Nat):Int)) (.i (((Xt [Func.mk [1] 0 (Z2.mk 0 0 []),Func.mk [1,1] 1 (Z2.mk 0 0 []),Func.mk [1] 1 (Z2.mk 0 0 []),Func.mk [1,0] 1 (Z2.mk 0 0 []),Func.mk [2,1] 1 (Z2.mk 0 0 []),Func.mk [1,1] 0 (Z2.mk 0 0 [])]).length:Nat):Int)) (li (by rw [Dr])) (Zp 19 22 [9,10,11] (dn 12 (.i (([Func.mk [3] 0 (Z2.mk 0 0 []),Func.mk [0] 1 (Z2.mk 0 0 []),Func.mk [0,1] 1 (Z2.mk 0 0 []),Func.mk [3,0] 3 (Z2.mk 0 0 []),Func.mk [3] 1 (Z2.mk 0 0 []),Func.mk [1,3,0] 0 (Z2.mk 0 0 [])].length:Nat):Int)) (.i (((Xt [Func.mk [3] 0 (Z2.mk 0 0 []),Func.mk [0] 1 (Z2.mk 0 0 []),Func.mk [0,1] 1 (Z2.mk 0 0 []),Func.mk [3,0] 3 (Z2.mk 0 0 []),Func.mk [3] 1 (Z2.mk 0 0 []),Func.mk [1,3,0] 0 (Z2.mk 0 0 [])]).length:Nat):Int)) (li (by rw [Dr])) (Zp 15 18 [16,17,18] (dn 19 (.i (([Func.mk [0] 0 (Z2.mk 0 0 []),Func.mk [0,0] 0 (Z2.mk 0 0 []),Func.mk [1,0] 0 (Z2.mk 0 0 []),Func.mk [0] 1 (Z2.mk 0 0 [])].length:Nat):Int)) (.i (((Xt [Func.mk [0] 0 (Z2.mk 0 0 []),Func.mk [0,0] 0 (Z2.mk 0 0 []),Func.mk [1,0] 0 (Z2.mk 0 0 []),Func.mk [0] 1 (Z2.mk 0 0 [])]).length:Nat):Int)) (li (by rw [Dr])) (Z7 0 (dL 0 [] [] (Z6 []) 0 1 fun v21=>Yt 13 13 [] [(48,Z4 [])] (Z7 1 (YH 1 [] [] [] (TU [] 0) (Z7 6 (dc 6 [22] [] [] (XX rd bs (p+1) (([Func.mk [1] 0 (Z2.mk 0 0 []),Func.mk [1,1] 1 (Z2.mk 0 0 []),Func.mk [1] 1 (Z2.mk 0 0 []),Func.mk [1,0] 1 (Z2.mk 0 0 []),Func.mk [2,1] 1 (Z2.mk 0 0 []),Func.mk [1,1] 0 (Z2.mk 0 0 [])].length:Nat):Int) (ZL:=ob)) ?_)))))))))))))))))))))))))))))))))))))))))))))))))))))
 rintro _ _ ⟨k1,rfl,rfl,Yr⟩
 have qhp2:=Yr.lt (by simp)
 simp only [Yo,YC] at qhp2
 obtain ⟨x1,Z3⟩:=Zt [Func.mk [1] 0 (Z2.mk 0 0 []),Func.mk [1,1] 1 (Z2.mk 0 0 []),Func.mk [1] 1 (Z2.mk 0 0 []),Func.mk [1,0] 1 (Z2.mk 0 0 []),Func.mk [2,1] 1 (Z2.mk 0 0 []),Func.mk [1,1] 0 (Z2.mk 0 0 [])] k1.toNat (by simp only [Yo,YC];omega)
 refine dx 7 (Zh (some v8) k1 5 (Gl Z3)) (Zp 9 10 [8] (Z7 13 (dc 13 [0] [] [] (XX rd bs ((p+1)+1) (([Func.mk [3] 0 (Z2.mk 0 0 []),Func.mk [0] 1 (Z2.mk 0 0 []),Func.mk [0,1] 1 (Z2.mk 0 0 []),Func.mk [3,0] 3 (Z2.mk 0 0 []),Func.mk [3] 1 (Z2.mk 0 0 []),Func.mk [1,3,0] 0 (Z2.mk 0 0 [])].length:Nat):Int) (ZL:=ob)) ?_)))
 rintro _ _ ⟨k2,rfl,rfl,YR⟩
 have qhp3:=YR.lt (by simp)
 simp only [Yo,YC] at qhp3
 obtain ⟨x2,Zu⟩:=Zt [Func.mk [3] 0 (Z2.mk 0 0 []),Func.mk [0] 1 (Z2.mk 0 0 []),Func.mk [0,1] 1 (Z2.mk 0 0 []),Func.mk [3,0] 3 (Z2.mk 0 0 []),Func.mk [3] 1 (Z2.mk 0 0 []),Func.mk [1,3,0] 0 (Z2.mk 0 0 [])] k2.toNat (by simp only [Yo,YC];omega)
 refine dx 14 (Zh (some v15) k2 5 (Gl Zu)) (Zp 6 7 [15] (Z7 20 (dc 20 [0] [] [] (XX rd bs (((p+1)+1)+1) (([Func.mk [0] 0 (Z2.mk 0 0 []),Func.mk [0,0] 0 (Z2.mk 0 0 []),Func.mk [1,0] 0 (Z2.mk 0 0 []),Func.mk [0] 1 (Z2.mk 0 0 [])].length:Nat):Int) (ZL:=ob)) ?_)))
 rintro _ _ ⟨k3,rfl,rfl,YV⟩
 have qhp4:=YV.lt (by simp)
 simp only [Yo,YC] at qhp4
 obtain ⟨x3,YP⟩:=Zt [Func.mk [0] 0 (Z2.mk 0 0 []),Func.mk [0,0] 0 (Z2.mk 0 0 []),Func.mk [1,0] 0 (Z2.mk 0 0 []),Func.mk [0] 1 (Z2.mk 0 0 [])] k3.toNat (by simp only [Yo,YC];omega)
 refine dx 21 (Zh (some v20) k3 5 (Gl YP)) (Zp 3 4 [22] (Z7 23 (dKN 23 [] [] (Zg (Xt [Func.mk [] 0 (Z2.mk 0 0 []),x1,x2,x3])) 4 5 fun g1=>Zp 1 2 [24] (Z7 25 (X3 25 22 [] [] b2 [Tt ds1 v1,.ms g1 0 4 4] (de (Yf 1 (iL (Z6 [4,4,3,2,4]) 5 1 fun v22=>ZQ 0 [(74,Z4 [4,4,3,2,4])] (ic [3] (Z91 rd bs ((((p+1)+1)+1)+1) [4,4,3,2,4] (ZL:=ob) (hy:=(by decide))) ?_)))))))))
 rintro _ _ ⟨nn1,rfl,rfl,Xc⟩
 have hnn:=Zcf (a:=2) (b:=4) Xc (by decide)
 refine Z1 (Zq 3 [2] (Zs (PS 3 g1 4 4 nn1 5 (Zg (Xt [Func.mk [] 0 (Z2.mk 0 0 []),x1,x2,x3]))) (Z0 1 (Zy 2 b2 [Tt ds1 v1,.ms g1 0 nn1 4] (ie (YM 1 (ia (((nn1:Int)-1)) (((nn1:Int))-(1)) (Z1 (ab 0 (Y0 (fun fz gz m F h=>∃(j:Nat) (rq:List Func) (pq:Nat),(j<=nn1)/\(GL ds1 nn1 j rq)/\(p<=pq/\pq+90000*j<=p+10+90000*nn1)/\F=sF [0,2,3] fz [(8,.i ((j:Int)-1))]/\h=[Zi gz 0,YI rd bs pq,Zi gz 25,Zi gz 24,XR g1 rq]/\m=j+1) _ _ _ ⟨nn1,[Func.mk [] 0 (Z2.mk 0 0 []),x1,x2,x3],((((p+1)+1)+1)+1)+1,ob,(GL.start (My Z3 (by decide)) (My Zu (by decide)) (My YP (by decide))),ob,rfl,rfl,rfl⟩ (wk [0,0,23,22,1] fl) ?_))))))))))
 rintro m F h ⟨j,rq,pq,Yj,Zf,ZB,rfl,rfl,rfl⟩
 refine Xd (Y2 (((j:Int)-1)>=0) (fun Z9=>?_) (fun Z9=>?_))
 ·obtain ⟨f1,hf1⟩:=Zt (rq.take nn1) (((j:Int)-1).toNat) (by rw [Zf.len_take om];omega)
  have hfq:rq[j-1]? = some f1:=by have h:=hf1;rw [show ((j:Int)-1).toNat=j-1 by omega,List.getElem?_take_of_lt om] at h;exact h
  refine ak (aq (ab 1 (ar (QI 3 [(88,.agg [Ye ds1,.ms g1 0 nn1 4])] [0] (ic [1,3] (Z7r rd bs pq (W8.mk ds1 (rq.take nn1)) g1 rq f1 ((j:Int)-1) nn1 (ZL:=ob) (hg:=(Zf.gp hgd om)) (Wo:=(List.take_prefix nn1 rq)) (hf:=hf1) (h0:=(fun h=>Zf.zero f1 (by rw [<-hfq,show j-1=0 by omega]))) (hn:=(Zf.len_take om))) ?_)))))
  rintro _ _ ⟨e1,p21,rfl,rfl,XK⟩
  have hbw:eW ds1 nn1 f1.params.length e1/\(e1).sz<=30:=by have h:=XK.1;unfold GE at h;rw [show (W8.mk ds1 (rq.take nn1)).funcs.length=nn1 from Zf.len_take om] at h;exact h
  exact iA [.i 0,.i 0,nl] fun b3=>Zy 0 b3 (YY e1) (ie (aE 19 (ZW 13 19 [0,1,2,3,4,5] [3,3] (dx 6 (W6 g1 nn1 4 (((j:Int)-1).toNat) 5 ((j:Int)-1)) (Zp 11 12 [7] (UA 8 (Vo 2 g1 4 4 5 ((((j:Int)-1).toNat)*5+0) (Zg (Xt rq)) [Z4 f1.params] 28 (Z4 f1.params) (UD (List.take_prefix nn1 rq) hf1 0 rfl (Vb rfl))) (ZW 7 10 [9,10,11] [3] (dx 12 (W6 g1 nn1 4 (((j:Int)-1).toNat) 5 ((j:Int)-1)) (Zp 5 6 [13] (UA 14 (Vo 2 g1 4 4 5 ((((j:Int)-1).toNat)*5+1) (Zg (Xt rq)) [.i f1.result] 3 (.i f1.result) (UD (List.take_prefix nn1 rq) hf1 1 rfl (Vb rfl))) (ZW 2 4 [15,16] [0] (dx 17 (W6 g1 nn1 4 (((j:Int)-1).toNat) 5 ((j:Int)-1)) (Z7 18 (Ac 18 2 [] [] g1 4 4 5 ((((j:Int)-1).toNat)*5) [Z4 f1.params,.i f1.result,.i e1.op,.i e1.num,XA e1.kids] (Zg (Xt rq)) (Zg (Xt (rq.set ((j:Int)-1).toNat ⟨f1.params,f1.result,e1⟩))) (by rw [Lj,Zf.len];simp only [Yo,YC];omega) (Z74 ⟨f1.params,f1.result,e1⟩ (by rw [Zf.len];omega)) (de (az (Z0 1 (ia ((((j:Int)-1)-1)) (((j:Int)-1)-(1)) (Z1 (ZF ⟨(j-1),(rq.set ((j:Int)-1).toNat ⟨f1.params,f1.result,e1⟩),p21,ob,(by rw [show ((j:Int)-1).toNat=j-1 by omega];exact Zf.set om hfq hbw),ob,rfl,rfl,rfl⟩ (wk [3,2,2,2,0] (fc (x:=.i (((j:Int)-1)-1)) li fl))))))))))))))))))))))
 exact ax 0 (Zq 1 [0] (Zy 2 b1 [Tt ds1 v1,.ms g1 0 nn1 4] (ie (ZY (r3 [4,2] [.agg [Tt ds1 v1,.ms g1 0 nn1 4]] [0] [(b1,b1)] ⟨rq,ds1,nn1,g1,pq,rfl,rfl,⟨⟨by rw [show j=0 by omega] at Zf;exact Zf,hgd,by omega,by omega⟩,by omega⟩⟩ (Zd.agg (.cons (Zd.forget _ _) (.cons (lr _) .nil))))))))
theorem Z8f (rd:Nat) (bs:LI) (p:Nat) (ZL:∀z∈bs,0<=z/\z<=255) (hp:p+400000<=1000000000:=by exact ob):Zo 166 [.p rd 0] [YI rd bs p] (fun r h=>∃(g:W8) (p2:Nat),r=AK g/\h=[YI rd bs p2]/\If g/\p<=p2/\p2<=p+400000):=(WZ.frzP (E:=List Func × List Zb × Nat × Nat) (ds:=fun e=>e.2.1) (rs:=fun e=>e.1) (m:=fun e=>e.2.2.1) (hs:=fun e=>[.obj rd [Um bs,.i (e.2.2.2:Nat)]]) (Q:=fun e=>(GL e.2.1 e.2.2.1 0 e.1/\GD e.2.1/\1<=e.2.2.1/\e.2.2.1<=4)/\p<=e.2.2.2/\e.2.2.2<=p+400000)
  ((Z8g rd bs p ZL hp).mono fun r h ⟨rs,ds,m,gb,p2,hr,hh,hq⟩=>⟨(rs,ds,m,p2),gb,hr,hh,hq⟩) fun e hq=>⟨hq.1.2.2.2,hq.1.1.len⟩).mono
  fun r h ⟨e,hr,hh,hq⟩=>⟨⟨e.2.1,e.1.take e.2.2.1⟩,e.2.2.2,hr,hh,hq.1.1.done hq.1.2.1 hq.1.2.2,hq.2⟩
theorem Ls (a:Nat) (n:Nat) (ha:a<=1000000:=by exact ob) (hn:n<=1000000:=by exact ob):Zo 109 [.i a,.i n] [] (fun r h=>∃(xs:LI),r=Z4 xs/\h=[]/\xs.length=n/\∀i∈xs,(a:Int)<=i/\i<(a:Int)+n):=by
 refine ZE 20 Tryz.func109 (Y1 (ar (iL (Z6 []) 0 1 fun v1=>?_)))
 refine Z1 (Y6 (ab 0 (Y0 (fun fz gz m F h=>∃(k:Nat) (ys:LI) (u:Value),(k<=n)/\(ys.length=k)/\(∀i∈ys,(a:Int)<=i/\i<(a:Int)+n)/\F=sF [0,1] fz [(5,ZH ys u),(6,.i k)]/\h=[.tail u 1]/\m=n-k) _ _ _ ⟨0,[],v1,ob,ob,(fun i hi=>by cases hi),rfl,rfl,rfl⟩ (wk [0] (fr (Ya fl))) ?_)))
 rintro m F h ⟨k,ys,u,Yj,Zf,ZB,rfl,rfl,rfl⟩
 refine Xd (Y2 ((k:Int)<(n:Int)) (fun Z9=>?_) (fun Z9=>?_))
 ·exact ak (aq (ab 1 (az (Z0 3 (ia (((a+k:Nat):Int)) (((a:Int))+((k:Int))) (iL (Z6 [((a+k:Nat):Int)]) 1 1 fun v2=>ZQ 0 [(17,Z4 [((a+k:Nat):Int)])] (ip 1 (Z6 (ys++[((a+k:Nat):Int)])) (Z6 ys) (Z6 [((a+k:Nat):Int)]) u none 1 (YD _) (YD _) (W2 _) (by simp<;>omega) (by simp [W1,Z6]) fun v3=>Z1 (az (Z0 1 (ZD k (Z1 (ZF ⟨k+1,(ys++[((a+k:Nat):Int)]),v3,ob,ob,(XD ZB om),rfl,rfl,rfl⟩ (wk [0] (fr (ZI k fl)))))))))))))))
 exact ax 0 (ar (Zm (r2 [] [ZH ys u] ⟨ys,rfl,rfl,⟨by omega,ZB⟩⟩ (Zd.forget _ _))))
theorem P4 (l:Nat) (xs:List Z5) (w:Value) (q:Nat) (s:Z5) (hl:xs.length<=4000000000:=by exact ob) (hq:q<=1000000:=by exact ob):Zo 239 [.p l 0,X4 s] [.obj l [Xg xs w,.i q],.tail w 5] (fun r h=>∃(w2:Value),r=.i q/\h=[.obj l [Xg (xs++[s]) w2,.i (((q+1):Nat):Int)],.tail w2 5]):=by
 exact ZE 28 Tryz.func239 (ar (iA (Wd s) fun b1=>Z1 (aD 11 (ZW 5 11 [0,1,2,3,4,5] [1,0] (Z7 6 (WC 6 [1] [l] [X4 s] (ZU [s]) (U5 [s]).symm 1 5 fun v1=>Yt 4 4 [] [(11,Vp [s])] (Z7 7 (dp 7 3 [] [] (ZU (xs++[s])) (ZU xs) (ZU [s]) w none 5 (XE _) (XE _) (Uk _) (by simp<;>omega) (by simp [Vt,ZU]) fun v2=>Zp 1 3 [8,9] (Z7 10 (X3 10 3 [] [] l [Xg (xs++[s]) v2,.i q] (de (Zq 5 [0] (ZD q (Z0 2 (Zy 0 l [Xg (xs++[s]) v2,.i (q+1:Nat)] (ie (Zq 4 [0] (ia ((((q+1:Nat):Int)-1)) ((((q+1:Nat):Int))-(1)) (Zm (r2 [0,0] [.i (((q+1:Nat):Int)-1)] ⟨v2,rfl,rfl⟩ li))))))))))))))))))))
theorem Pe (g:W8) (e:Z2) (us:LI) (q:Nat) (bb:Nat) (he:eW g.decls g.funcs.length us.length e:=by exact ob) (hu:∀a∈us,0<=a/\a<(q:Int)) (hul:us.length+4*e.sz<=100000:=by exact ob) (hql:q+6*e.sz<=100000:=by exact ob) (hb:e.sz<bb:=by exact ob) (ih:∀(l:Nat) (e2:Z2) (us2:LI) (xs2:List Z5) (w2:Value) (q2:Nat),(eW g.decls g.funcs.length us2.length e2)->(∀a∈us2,0<=a/\a<(q2:Int))->(us2.length+4*e2.sz<=100000)->(xs2.length+6*e2.sz<=100000)->(q2+6*e2.sz<=100000)->(e2.sz<bb)->Zo 207 [.p l 0,AK g,Yb e2,Z4 us2] [.obj l [Xg xs2 w2,.i q2],.tail w2 5] (fun r h=>∃(ys:List Z5) (v:Int) (w2:Value),r=.i v/\h=[.obj l [Xg (xs2++ys) w2,.i (((q2+Yv ys):Nat):Int)],.tail w2 5]/\LW g.decls g.funcs.length q2 e2 ys v)):Zo 179 [AK g,Yb e,Z4 us,.i q] [] (fun r h=>∃(b:Z8),r=Yq b/\h=[]/\LB g.decls g.funcs.length q e b):=by
 refine ZE 26 Tryz.func179 (ar (iA (LU g) fun b1=>iA (YY e) fun b2=>iA [nl,.i 0] fun b3=>ie (ar (iL (ZU []) 0 5 fun v1=>Z0 2 (iA [Xg [] v1,.i q] fun b4=>Z1 (Zq 4 [4,3] (ic [0,0] (ih b4 e us [] v1 q he hu ob ob ob ob) ?_)))))))
 rintro _ _ ⟨ys1,v2,w21,rfl,rfl,Y4⟩
 have hlw:=Y4
 exact Z1 (Zq 6 [0] (Zy 2 b3 [Xg ([]++ys1) w21,.i v2] (ie (ZY (r3 [] [.agg [Xg ([]++ys1) w21,.i v2]] [0] [(b3,b3)] ⟨(Z8.mk ([]++ys1) v2),rfl,rfl,(by rw [Jm];exact hlw.block)⟩ (Zd.agg (.cons (Zd.forget _ _) (.cons (lr _) .nil))))))))
theorem Z8t (l:Nat) (g:W8) (e:Z2) (us:LI) (xs:List Z5) (w:Value) (q:Nat) (hd:GD g.decls) (he:eW g.decls g.funcs.length us.length e) (hu:∀a∈us,0<=a/\a<(q:Int)) (hul:us.length+4*e.sz<=100000) (hxl:xs.length+6*e.sz<=100000) (hql:q+6*e.sz<=100000) (ih:∀(l:Nat) (e2:Z2) (us2:LI) (xs2:List Z5) (w2:Value) (q2:Nat),(eW g.decls g.funcs.length us2.length e2)->(∀a∈us2,0<=a/\a<(q2:Int))->(us2.length+4*e2.sz<=100000)->(xs2.length+6*e2.sz<=100000)->(q2+6*e2.sz<=100000)->(e2.sz<e.sz)->Zo 207 [.p l 0,AK g,Yb e2,Z4 us2] [.obj l [Xg xs2 w2,.i q2],.tail w2 5] (fun r h=>∃(ys:List Z5) (v:Int) (w2:Value),r=.i v/\h=[.obj l [Xg (xs2++ys) w2,.i (((q2+Yv ys):Nat):Int)],.tail w2 5]/\LW g.decls g.funcs.length q2 e2 ys v)):Zo 207 [.p l 0,AK g,Yb e,Z4 us] [.obj l [Xg xs w,.i q],.tail w 5] (fun r h=>∃(ys:List Z5) (v:Int) (w2:Value),r=.i v/\h=[.obj l [Xg (xs++ys) w2,.i (((q+Yv ys):Nat):Int)],.tail w2 5]/\LW g.decls g.funcs.length q e ys v):=by
 have Xq:=hd.ok
 obtain ⟨ho,h12,h13,h7,h8,h9,hnum,hkl,hks⟩:=(Z5j e).1 he
 have hez:=e.sz_eq
 refine ZE 148 Tryz.func207 (ar (iA (LU g) fun b1=>iA (YY e) fun b2=>Z1 (Xd (V4 [0] (ab 0 (ar (YB (e.op==12) Ze (fun Z9=>?_) (fun Z9=>?_))))))))
 ·refine Zq 3 [0] ?_
  obtain ⟨x1,Z3⟩:=Zt us e.num.toNat (by have:=h12 om;omega)
  have huv:=hu _ (Y3 Z3)
  exact Zs (Zh none e.num 1 (Y8 Z3)) (Zm (r1 [2,2] ⟨[],x1,w,rfl,rfl,(LW.var huv)⟩ (eq:=(ro (ls:=[Xg xs w,.i q]) (by simp [Yv]) (rc rz)))))
 refine ar (YB (e.op==13) Ze (fun Zj=>?_) (fun Zj=>?_))
 ·refine aD 9 (ZW 5 9 [0,1,2,3] [1,0] ?_)
  obtain ⟨x2,Zu⟩:=Zt e.kids 0 (by have:=h13 om;omega)
  have hekx2:=Dv hks Zu
  have hszx2:=Cw Zu
  have htzx2:=BC Zu
  rw [Wj] at hekx2
  rw [SZ om] at hekx2
  refine dx 4 (Zh none 0 3 (Dq Zu)) (Zp 2 4 [5,6] (Z7 7 (dc 7 [2,2] [] [] (ih l x2 us xs w q (by first|assumption|(rw [ZX];assumption)) (by first|assumption|exact FJ hu hlwhp1.v|exact I2 hu) (by first|omega|(simp only [ZX,Yo,YC];omega)) (by first|omega|(simp only [ZX,Yo,YC];omega)) ob ob) ?_)))
  rintro _ _ ⟨ys1,v1,w21,rfl,rfl,Y4⟩
  have hlwhp1:=Y4
  have hldhp1:=Y4.dn
  refine Zp 0 1 [8] (de (aD 12 (ZW 8 12 [0,1,2,3] [3,2] ?_)))
  obtain ⟨x3,YP⟩:=Zt e.kids 1 (by have:=h13 om;omega)
  have hz2:=Ox Zu YP
  have hz3:=x2.sz_eq
  have hekx3:=Dv hks YP
  have hszx3:=Cw YP
  have htzx3:=BC YP
  rw [Wj] at hekx3
  rw [SZ om] at hekx3
  refine dx 4 (Zh none 1 3 (Dq YP)) (Zp 4 7 [5,6,7] (Z7 8 (dL 8 [1,2] [b2,b1] (Z6 [v1]) 1 1 fun v2=>Yt 3 3 [] [(45,Z4 [v1])] (Z7 9 (dc 9 [] [1,2] [b2,b1] (Tz us [v1]) ?_)))))
  rintro _ _ ⟨v3,rfl,rfl⟩
  refine Yt 2 2 [] [(46,Z4 (us++[v1]))] (Z7 10 (dc 10 [2,2] [] [] (ih l x3 (us++[v1]) (xs++ys1) w21 (q+Yv ys1) (by first|assumption|(rw [ZX];assumption)) (by first|assumption|exact FJ hu hlwhp1.v|exact I2 hu) (by first|omega|(simp only [ZX,Yo,YC];omega)) (by first|omega|(simp only [ZX,Yo,YC];omega)) ob ob) ?_))
  rintro _ _ ⟨ys2,v4,w22,rfl,rfl,Yr⟩
  have hlwhp2:=Yr
  have hldhp2:=Yr.dn
  exact Zp 0 1 [11] (de (ZY (r1 [0,0] ⟨(ys1++ys2),v4,w22,rfl,rfl,(LW.let_ hlwhp1 hlwhp2 (by have:=Ox Zu YP;omega))⟩ (eq:=(ro (ls:=[Xg ((xs++ys1)++ys2) w22,.i ((((q+Yv ys1)+Yv ys2):Nat):Int)]) (by rw [T6,<-AC,XW]) (rc rz))))))
 refine Y6 (Xv (fun fz gz F h=>F=sF [0,3,5,6] fz [(48,.b ((e.op==7)||(e.op==8)))]/\h=gz) ?_ ?_)
 ·refine ac (e.op==7) Ze (fun ZA=>?_) (fun ZA=>?_)
  ·exact ak (ZJ ⟨rfl,rfl⟩ (Zv 4 (fc (x:=.b (e.op==7)) (lb (by first|rfl|(rw [Zk ZA])|(rw [Za ZA])|(simp [ZA];done)|(rw [Yg];simp [ZA];done)|omega)) fl)))
  exact Vv (ZJ ⟨rfl,rfl⟩ (Zv 4 (fc (x:=.b (e.op==8)) (lb (by first|rfl|(rw [Zk ZA])|(rw [Za ZA])|(simp [ZA];done)|(rw [Yg];simp [ZA];done)|omega)) fl)))
 rintro F h ⟨rfl,rfl⟩
 refine ac ((e.op==7)||(e.op==8)) (p:=(e.op=7)∨(e.op=8)) (ZO Ze Ze) (fun Yi=>?_) (fun Yi=>?_)
 ·refine aD 9 (ZW 5 9 [0,1,2,3] [1,0] ?_)
  obtain ⟨x4,WR⟩:=Zt e.kids 0 om
  have hekx4:=Dv hks WR
  have hszx4:=Cw WR
  have htzx4:=BC WR
  rw [Wj] at hekx4
  rw [Zf3 om] at hekx4
  refine dx 4 (Zh none 0 3 (Dq WR)) (Zp 2 4 [5,6] (Z7 7 (dc 7 [2,2] [] [] (ih l x4 us xs w q (by first|assumption|(rw [ZX];assumption)) (by first|assumption|exact FJ hu hlwhp1.v|exact I2 hu) (by first|omega|(simp only [ZX,Yo,YC];omega)) (by first|omega|(simp only [ZX,Yo,YC];omega)) ob ob) ?_)))
  rintro _ _ ⟨ys3,v5,w23,rfl,rfl,YR⟩
  have hlwhp3:=YR
  have hldhp3:=YR.dn
  refine Zp 0 1 [8] (de (ar (iL (XP []) 0 2 fun v6=>Z1 (Zq 4 [4,3] (ic [] (Jd g.decls e.num) ?_)))))
  rintro _ _ ⟨v7,rfl,rfl⟩
  refine Z1 (Y6 (ab 1 (Y0 (fun fz gz m F h=>∃(k:Nat) (cs:List Z8) (u:Value),(1<=k/\k<=e.kids.length)/\(cs.length+1=k)/\(U6 g.decls g.funcs.length (WX g.decls e.op e.num (q+Yv ys3)) 0 cs)/\(YW cs+6*x4.sz<=cs.length+6*Xz (e.kids.take k))/\(Ka WP cs)/\F=sF [0,3,5,6,10] fz [(11,Qp cs u),(12,Z4 (ZZ g.decls e.num)),(13,.i k)]/\h=[Zi gz 2,Zi gz 4,Zi gz 5,.tail u 2,Zi gz 3]/\m=e.kids.length-k) _ _ _ ⟨1,[],v6,ob,ob,True.intro,(by have h:Xz (e.kids.take 1)=Xz (e.kids.take 0)+x4.sz:=BC WR;simp only [YW,YC];omega),True.intro,rfl,rfl,rfl⟩ (wk [2,3,3,1,1] (fr (fc (x:=ZH (ZZ g.decls e.num) v7) (Zd.forget _ _) (fc (x:=.i 1) li fl)))) ?_)))
  rintro m F h ⟨k,cs,u,Yj,Zf,ZB,YL,Wh,rfl,rfl,rfl⟩
  refine Ys 3 [1] (iw (IU e.kids) (Y2 ((k:Int)<(e.kids.length:Int)) (fun YG=>?_) (fun YG=>?_)))
  ·refine ak (aq (ab 2 (Y1 (Xd (V4 [1] (Xv (fun fz gz F h=>∃(mf:Nat),(WX g.decls e.op e.num (q+Yv ys3) cs.length=(q+Yv ys3)+mf)/\(mf<=3)/\(Q2 g.decls e.op e.num us.length k=us.length+mf)/\F=sF [0,3,5,6,10,11,12,13] fz [(14,.i mf)]/\h=gz) ?_ ?_))))))
   ·refine ac (e.op==8) Ze (fun X2=>?_) (fun X2=>?_)
    ·refine aE 10 (ZW 6 10 [0,1,2,3] [2] (da 4 (((k-1:Nat):Int)) (((k:Int))-(1)) ?_))
     obtain ⟨x5,Uu⟩:=Zt (ZZ g.decls e.num) (k-1) (by have:=h8 om;omega)
     exact dx 5 (Zh none ((k-1:Nat):Int) 1 (Y8 Uu)) (Zp 3 4 [6] (Z7 7 (YH 7 [] [] [] (Qr g.decls x5) (dn 8 (.i (((ZP g.decls x5).length:Nat):Int)) (.i (((Z6 (ZP g.decls x5)).length:Nat):Int)) (li (by rw [Yc])) (Zp 0 1 [9] (de (ZJ ⟨(ZP g.decls x5).length,(Mv om (by rw [show cs.length=k-1 by omega];exact Uu)),(by have:=Vj Xq x5;omega),(Zf4 om (show k=(k-1)+1 by omega) Uu),rfl,rfl⟩ (Zv 5 (fc (x:=.i (((ZP g.decls x5).length:Nat):Int)) (li (by first|rfl|(rw [Zk X2])|(rw [Za X2])|(simp [X2];done)|(rw [Yg];simp [X2];done)|omega)) fl)))))))))
    exact ak (ZJ ⟨0,(Mw om),om,(Z00 om),rfl,rfl⟩ (Zv 5 (fc (x:=.i 0) (li (by first|rfl|(rw [Zk X2])|(rw [Za X2])|(simp [X2];done)|(rw [Yg];simp [X2];done)|omega)) fl)))
   rintro F h ⟨mf,Zau,Zj0,Zav,rfl,rfl⟩
   refine aE 25 (ZW 20 25 [0,1,2,3,4] [2,1] ?_)
   obtain ⟨x6,CF⟩:=Zt e.kids k om
   have hekx6:=Dv hks CF
   have hszx6:=Cw CF
   have htzx6:=BC CF
   rw [Wj] at hekx6
   rw [Zav] at hekx6
   have htk:=AX (xs:=e.kids) (k+1)
   have hbl:=G9 cs
   refine dx 5 (Zh none (k:Int) 3 (Dq CF)) (ZW 7 19 [6,7,8,9,10,11,12,15,16,17,18,19] [0,0] (da 20 ((((q+Yv ys3)+mf:Nat):Int)) (((((q+Yv ys3):Nat):Int))+((mf:Int))) (Z7 13 (dc 13 [] [0,1,2] [l,b2,b1] (Ls (q+Yv ys3) mf) ?_))))
   rintro _ _ ⟨xs1,rfl,rfl,YV⟩
   have hnx:=YV
   refine Z7 14 (dc 14 [] [0,1,2] [l,b2,b1] (Tz us xs1) ?_)
   rintro _ _ ⟨v8,rfl,rfl⟩
   refine Yt 4 4 [] [(98,Z4 (us++xs1))] (Z7 21 (dc 21 [] [] [] (Pe g x6 (us++xs1) ((q+Yv ys3)+mf) e.sz (he:=(by rw [ZX,hnx.1];exact hekx6)) (hu:=(Zi1 hu hnx.2)) (hul:=(by rw [ZX,hnx.1];omega)) (hql:=om) (ih:=ih)) ?_))
   rintro _ _ ⟨b3,rfl,rfl,Xc⟩
   have hlb:=Xc
   exact Z7 22 (WC 22 [] [] [Yq b3] (XP [b3]) (QW [b3]).symm 1 2 fun v9=>Yt 2 2 [] [(106,JL [b3])] (Z7 23 (dp 23 5 [] [] (XP (cs++[b3])) (XP cs) (XP [b3]) u none 2 (KX _) (KX _) (Gk _) (by simp<;>omega) (by simp [Cs,XP]) fun v10=>Zp 0 1 [24] (de (az (Z0 1 (ZD k (Z1 (ZF ⟨k+1,(cs++[b3]),v10,ob,ob,(OA ZB (by rw [Zau];exact hlb.1)),(by have:=hlb.2;rw [G8,ZX];simp only [YW,Yo,YC];omega),(Ry Wh hlb.op),rfl,rfl,rfl⟩ (wk [3,3,3,0,2] (fw (ZI k fl))))))))))))
  refine ax 1 (Zq 6 [1,1] (iL (Z6 [v5]) 1 1 fun v11=>ZQ 2 [(116,.agg [.i e.op,.i e.num,.i 0,Z4 [v5],JL cs])] (ic [1,4] (P4 l (xs++ys3) w23 (q+Yv ys3) (Z5.mk e.op e.num 0 [v5] cs) (hl:=(by first|(have h1:=Jf zs;have h2:=AX (xs:=e.kids) k;have h3:=AR zs;(try simp only [ZX]);omega)|((try simp only [ZX]);omega))) (hq:=(by first|(have h1:=Jf zs;have h2:=AX (xs:=e.kids) k;have h3:=AR zs;(try simp only [ZX]);omega)|((try simp only [ZX]);omega)))) ?_)))
  rintro _ _ ⟨w24,rfl,rfl⟩
  refine Z1 ?_
  have hcb:YO e.op=false:=by simp [YO];omega
  exact ZY (r1 [0,0] ⟨(ys3++[Z5.mk e.op e.num 0 [v5] cs]),(((q+Yv ys3):Nat):Int),w24,rfl,rfl,(LW.branch (s0:=x4.sz) (sr:=Xz (e.kids.take k)-x4.sz) om (fun h=>by have:=h7 h;omega) (fun h=>by have:=h8 h;omega) hnum hlwhp3.fs hlwhp3.v ZB om hlwhp3.sz (by have:=G9 cs;omega) (by have:=AX (xs:=e.kids) k;omega) hlwhp3.op Wh)⟩ (eq:=(ro (ls:=[Xg ((xs++ys3)++[(Z5.mk e.op e.num 0 [v5] cs)]) w24,.i ((((q+Yv ys3)+1):Nat):Int)]) (by rw [EA (s:=Z5.mk e.op e.num 0 [v5] cs) hcb,<-AC,XW]) (rc rz))))
 refine ak (ar (iL (Z6 []) 0 1 fun v12=>?_))
 refine Z1 (Y6 (ab 3 (Y0 (fun fz gz m F h=>∃(k:Nat) (asl:LI) (u:Value) (zs:List Z5) (w3:Value),(k<=e.kids.length)/\(asl.length=k)/\(Wa g.decls g.funcs.length q zs)/\(∀a∈asl,0<=a/\a<((q+Yv zs:Nat):Int))/\(Yw zs<=6*Xz (e.kids.take k))/\(TX WP zs)/\F=sF [0,3,5,6] fz [(15,ZH asl u),(16,.i k)]/\h=[Zi gz 1,Zi gz 2,.obj l [Xg (xs++zs) w3,.i (((q+Yv zs):Nat):Int)],.tail u 1,.tail w3 5]/\m=e.kids.length-k) _ _ _ ⟨0,[],v12,[],w,ob,ob,True.intro,(fun a ha=>by cases ha),(by simp [Yw]),True.intro,rfl,rfl,rfl⟩ (wk [1,1,1,0,0] (fr (Ya fl)) (e:=(rc (rc (ro (ls:=[Xg xs w,.i q]) (by simp [Yv]) (rc (rc rz))))))) ?_)))
 rintro m F h ⟨k,asl,u,zs,w3,VA,Xs,XT,Et,Zip,NB,rfl,rfl,rfl⟩
 refine Ys 3 [0] (iw (IU e.kids) (Y2 ((k:Int)<(e.kids.length:Int)) (fun Wz=>?_) (fun Wz=>?_)))
 ·refine ak (aq (ab 4 (aD 10 (ZW 5 10 [0,1,2,3,4] [1,0] ?_))))
  obtain ⟨x7,GT⟩:=Zt e.kids k om
  have hzl:=Jf zs
  have hzd:=AR zs
  have htk:=AX (xs:=e.kids) (k+1)
  have hekx7:=Dv hks GT
  have hszx7:=Cw GT
  have htzx7:=BC GT
  rw [Wj] at hekx7
  rw [Z00 om] at hekx7
  refine dx 5 (Zh none (k:Int) 3 (Dq GT)) (Zp 2 4 [6,7] (Z7 8 (dc 8 [2,3] [] [] (ih l x7 us (xs++zs) w3 (q+Yv zs) (by first|assumption|(rw [ZX];assumption)) (by first|assumption|exact FJ hu hlwhp1.v|exact I2 hu) (by first|omega|(simp only [ZX,Yo,YC];omega)) (by first|omega|(simp only [ZX,Yo,YC];omega)) ob ob) ?_)))
  rintro _ _ ⟨ys4,v13,w25,rfl,rfl,XK⟩
  have hlwhp6:=XK
  have hldhp6:=XK.dn
  exact Zp 0 1 [9] (de (az (Z0 2 (iL (Z6 [v13]) 1 1 fun v14=>ZQ 0 [(137,Z4 [v13])] (ip 5 (Z6 (asl++[v13])) (Z6 asl) (Z6 [v13]) u none 1 (YD _) (YD _) (W2 _) (by simp<;>omega) (by simp [W1,Z6]) fun v15=>Z1 (az (Z0 1 (ZD k (Z1 (ZF ⟨k+1,(asl++[v13]),v15,(zs++ys4),w25,ob,ob,(Ai.2 ⟨XT,hlwhp6.fs⟩),(by rw [T6,<-AC];exact FJ Et hlwhp6.v),(by have:=hlwhp6.sz;rw [Q4];omega),(Hm.2 ⟨NB,hlwhp6.op⟩),rfl,rfl,rfl⟩ (wk [4,4,2,0,1] (fr (ZI k fl)) (e:=(rc (rc (ro (ls:=[Xg ((xs++zs)++ys4) w25,.i ((((q+Yv zs)+Yv ys4):Nat):Int)]) (by rw [T6,<-AC,XW]) (rc (rc rz)))))))))))))))))
 refine ax 3 (Zq 6 [0,0] (iL (XP []) 0 2 fun v16=>ZQ 1 [(146,.agg [.i e.op,.i e.num,.i 0,Z4 asl,JL []])] (ic [3,4] (P4 l (xs++zs) w3 (q+Yv zs) (Z5.mk e.op e.num 0 asl []) (hl:=(by first|(have h1:=Jf zs;have h2:=AX (xs:=e.kids) k;have h3:=AR zs;(try simp only [ZX]);omega)|((try simp only [ZX]);omega))) (hq:=(by first|(have h1:=Jf zs;have h2:=AX (xs:=e.kids) k;have h3:=AR zs;(try simp only [ZX]);omega)|((try simp only [ZX]);omega)))) ?_)))
 rintro _ _ ⟨w26,rfl,rfl⟩
 refine Z1 ?_
 have hcb:YO e.op=false:=by simp [YO];omega
 exact ZY (r1 [0,0] ⟨(zs++[Z5.mk e.op e.num 0 asl []]),(((q+Yv zs):Nat):Int),w26,rfl,rfl,(LW.node om h9 hnum XT Et om (by have:=AX (xs:=e.kids) k;omega) NB)⟩ (eq:=(ro (ls:=[Xg ((xs++zs)++[(Z5.mk e.op e.num 0 asl [])]) w26,.i ((((q+Yv zs)+1):Nat):Int)]) (by rw [EA (s:=Z5.mk e.op e.num 0 asl []) hcb,<-AC,<-XW]) (rc rz))))
theorem Z8s (l:Nat) (g:W8) (e:Z2) (us:LI) (xs:List Z5) (w:Value) (q:Nat) (hd:GD g.decls) (he:eW g.decls g.funcs.length us.length e) (hu:∀a∈us,0<=a/\a<(q:Int)) (hul:us.length+4*e.sz<=100000) (hxl:xs.length+6*e.sz<=100000) (hql:q+6*e.sz<=100000):Zo 207 [.p l 0,AK g,Yb e,Z4 us] [.obj l [Xg xs w,.i q],.tail w 5] (fun r h=>∃(ys:List Z5) (v:Int) (w2:Value),r=.i v/\h=[.obj l [Xg (xs++ys) w2,.i (((q+Yv ys):Nat):Int)],.tail w2 5]/\LW g.decls g.funcs.length q e ys v):=by
 have key:∀k:Nat,∀(l:Nat) (e2:Z2) (us2:LI) (xs2:List Z5) (w2:Value) (q2:Nat),(eW g.decls g.funcs.length us2.length e2)->(∀a∈us2,0<=a/\a<(q2:Int))->(us2.length+4*e2.sz<=100000)->(xs2.length+6*e2.sz<=100000)->(q2+6*e2.sz<=100000)->(e2.sz<k)->Zo 207 [.p l 0,AK g,Yb e2,Z4 us2] [.obj l [Xg xs2 w2,.i q2],.tail w2 5] (fun r h=>∃(ys:List Z5) (v:Int) (w2:Value),r=.i v/\h=[.obj l [Xg (xs2++ys) w2,.i (((q2+Yv ys):Nat):Int)],.tail w2 5]/\LW g.decls g.funcs.length q2 e2 ys v):=by
  intro k
  induction k with
  | zero=>intro l e2 us2 xs2 w2 q2 h1 h2 h3 h4 h5 h6;omega
  | succ k ih=>intro l e2 us2 xs2 w2 q2 h1 h2 h3 h4 h5 h6;exact Z8t l g e2 us2 xs2 w2 q2 hd h1 h2 h3 h4 h5 fun l e3 us3 xs3 w3 q3 a1 a2 a3 a4 a5 a6=>ih l e3 us3 xs3 w3 q3 a1 a2 a3 a4 a5 om
 exact key (e.sz+1) l e us xs w q he hu hul hxl hql om
theorem Lr (g:W8) (e:Z2) (us:LI) (q:Nat) (hd:GD g.decls:=by exact ob) (he:eW g.decls g.funcs.length us.length e:=by exact ob) (hu:∀a∈us,0<=a/\a<(q:Int)) (hul:us.length+4*e.sz<=100000:=by exact ob) (hql:q+6*e.sz<=100000:=by exact ob):Zo 179 [AK g,Yb e,Z4 us,.i q] [] (fun r h=>∃(b:Z8),r=Yq b/\h=[]/\LB g.decls g.funcs.length q e b):=(Pe g e us q (e.sz+1) he hu hul hql om (fun l e2 us2 xs2 w2 q2 h1 h2 h3 h4 h5 _=>Z8s l g e2 us2 xs2 w2 q2 hd h1 h2 h3 h4 h5))
theorem Bf (ds:List Zb) (hd:Xr ds:=by exact ob):Zo 108 [Ye ds] [] (Yx (Ye ds)):=by
 have hdl:=hd.len
 refine ZE 55 Tryz.func108 (Y1 (ar (iL (YS []) 0 3 fun v1=>?_)))
 refine Z1 (Y6 (ab 0 (Y0 (fun fz gz m F h=>∃(k:Nat) (v:Value),(k<=ds.length)/\F=sF [0] fz [(3,Tt (ds.take k) v),(4,.i k)]/\h=[.tail v 3]/\m=ds.length-k) _ _ _ ⟨0,v1,ob,rfl,rfl,rfl⟩ (wk [0] (fc (x:=Tt [] v1) (Zd.slh _ (Yl YS rfl)) (Ya fl))) ?_)))
 rintro m F h ⟨k,v,Yj,rfl,rfl,rfl⟩
 refine YM 2 (iw (VB ds) (Y2 ((k:Int)<(ds.length:Int)) (fun Z9=>?_) (fun Z9=>?_)))
 ·obtain ⟨xd,hxd⟩:=Zt ds k om
  have hcl:=hd.cons_at hxd
  refine ak (aq (ab 1 (ar (iL (XU []) 0 1 fun v2=>?_))))
  refine Z1 (Y6 (ab 2 (Y0 (fun fz gz m F h=>∃(j:Nat) (u:Value),(j<=xd.cons.length)/\F=sF [0,3,4] fz [(5,BQ (xd.cons.take j) u),(6,.i j)]/\h=[.tail u 1,Zi gz 1]/\m=xd.cons.length-j) _ _ _ ⟨0,v2,ob,rfl,rfl,rfl⟩ (wk [0,0] (fc (x:=BQ [] v2) (Zd.slh _ (Yl XU rfl)) (Ya fl))) ?_)))
  rintro m F h ⟨j,u,VA,rfl,rfl,rfl⟩
  refine YM 3 (Zs (Zh none (k:Int) 3 (Wg hxd)) (Z0 2 (iw (VT xd.cons) (Y2 ((j:Int)<(xd.cons.length:Int)) (fun Zj=>?_) (fun Zj=>?_)))))
  ·refine ak (aq (ab 3 (az (Z0 3 (Zs (Zh none (k:Int) 3 (Wg hxd)) (Z0 3 ?_))))))
   obtain ⟨x1,Z3⟩:=Zt xd.cons j om
   have hfl:=hd.fields_at hxd Z3
   refine Zs (Zh none (j:Int) 1 (Jv Z3)) (Z0 2 (ic [] (WV x1.fields) ?_))
   rintro _ _ ⟨v3,rfl,rfl⟩
   exact ZQ 1 [(36,Db x1)] (iL (XU [x1]) 1 1 fun v4=>ZQ 0 [(37,Qo [x1])] (ip 2 (XU (xd.cons.take (j+1))) (XU (xd.cons.take j)) (XU [x1]) u none 1 (Cu _) (Cu _) (IR _) (by simp<;>omega) (by rw [V5 Z3];simp [XU]) fun v5=>Z1 (az (Z0 1 (ZD j (Z1 (ZF ⟨j+1,v5,ob,rfl,rfl,rfl⟩ (wk [0,2] (fr (ZI j fl))))))))))
  exact ax 2 (aE 16 (Zp 13 16 [0,1,2] (dx 3 (Zh none (k:Int) 3 (Wg hxd)) (Zp 8 12 [4,5,6,7] (dx 8 (Zh none (k:Int) 3 (Wg hxd)) (Yt 3 7 [9,10,11,12] [(51,.agg [.i xd.frm,.i xd.to_,Qo (xd.cons.take j)])] (Z7 13 (dL 13 [] [] (YS [Zb.mk xd.frm xd.to_ (xd.cons.take j)]) 1 3 fun v6=>Yt 2 2 [] [(52,Ye [Zb.mk xd.frm xd.to_ (xd.cons.take j)])] (Z7 14 (dp 14 2 [] [] (YS (ds.take (k+1))) (YS (ds.take k)) (YS [Zb.mk xd.frm xd.to_ (xd.cons.take j)]) v none 3 (Qv _) (Qv _) (Do _) (by simp<;>omega) (by rw [V5 hxd];simp [YS,WI (show xd.cons.length<=j by omega)]) fun v7=>Zp 0 1 [15] (de (az (Z0 1 (ZD k (Z1 (ZF ⟨k+1,v7,ob,rfl,rfl,rfl⟩ (wk [0] (fr (ZI k fl)))))))))))))))))))
 exact ax 0 (ar (Zm (ZM (Tt (ds.take k) v) (Zd.sl _ (Yl YS (by rw [WI om]))))))
theorem Z90 (g:W8) (hg:If g:=by exact ob):Zo 165 [AK g] [] (fun r h=>∃(n:ZG),r=YF n/\h=[]/\FO n 181 WP):=by
 have hgl:=hg.gp.len
 have Xq:=hg.gp.decls.ok
 refine ZE 49 Tryz.func165 (ar (iA (LU g) fun b1=>iA [nl,nl] fun b2=>ie (Zq 2 [1] (Zw [] (Bf g.decls) (iL (X9 []) 0 5 fun v1=>Z0 1 (iA [nl,nl] fun b3=>?_))))))
 refine Zy 0 b3 [Ye g.decls,WT [] v1] (ie (Y6 (ab 0 (Y0 (fun fz gz m F h=>∃(k:Nat) (rs:List YE) (u:Value),(k<=g.funcs.length)/\(rs.length=k)/\(∀r∈rs,RN g.decls g.funcs.length r)/\F=sF [1,2,3] fz [(4,.i k)]/\h=[.obj b3 [Ye g.decls,WT rs u],Zi gz 2,Zi gz 3,.tail u 5]/\m=g.funcs.length-k) _ _ _ ⟨0,[],v1,ob,ob,(fun r hr=>by cases hr),rfl,rfl,rfl⟩ (wk [0,1,1,0] (Ya fl)) ?_))))
 rintro m F h ⟨k,rs,u,Yj,Zf,ZB,rfl,rfl,rfl⟩
 refine Ys 3 [2] (iw (Dr g.funcs) (Y2 ((k:Int)<(g.funcs.length:Int)) (fun Z9=>?_) (fun Z9=>?_)))
 ·refine ak (aq (ab 1 (Zq 3 [2] ?_)))
  obtain ⟨x1,Z3⟩:=Zt g.funcs k om
  have hso:=(hg.gp.sigs _ (Y3 Z3)).bd
  have hsi:=hg.gp.sigs _ (Y3 Z3)
  have hbo:=hg.body _ (Y3 Z3)
  refine Zs (Zh none (k:Int) 5 (Gl Z3)) (Z0 1 (iA [nl,.i 0,.i 0,.i 0,nl] fun b4=>?_))
  refine Zy 0 b4 (H3 x1) (ie (Zq 2 [0] (iw (Yc x1.params) (Z1 (aD 9 (ZW 4 9 [0,1,2,3,5] [3,0] (Bw (fun fz gz F h=>∃(b5:Z8) (b6:Nat) (xs1:LI),(xs1.length=x1.params.length/\∀i∈xs1,(0:Int)<=i/\i<(0:Int)+x1.params.length)/\(LB g.decls g.funcs.length x1.params.length x1.body b5)/\F=sF [1,2,3,4,5] fz [(7,.p b6 0)]/\h=[.obj b6 (XV b5),Zi gz 0,Zi gz 1,Zi gz 2,Zi gz 3,Zi gz 4]) ?_ ?_)))))))
  ·refine Uj 4 7 ?_ ?_
   ·refine dc 4 [] [0,3] [b4,b1] (Ls 0 x1.params.length) ?_
    rintro _ _ ⟨xs1,rfl,rfl,Y4⟩
    have hnx:=Y4
    refine Uj 6 7 ?_ ?_
    ·refine dc 6 [] [] [] (Lr g x1.body xs1 x1.params.length (hd:=hg.gp.decls) (he:=(by rw [hnx.1];exact hbo.1)) (hu:=(fun a ha=>by have:=hnx.2 a ha;omega))) ?_
     rintro _ _ ⟨b5,rfl,rfl,Yr⟩
     have hlb:=Yr
     exact Z7 7 (dA 7 [] [] [nl,.i 0] fun b6=>Z7 8 (X3 8 0 [] [] b6 (XV b5) (de (ZJ ⟨_,b6,_,(by assumption),(by assumption),rfl,rfl⟩ (Zv 6 fl)))))
    refine dA 7 [0,3] [b4,b1] [nl,.i 0] fun b7=>Z7 6 (dc 6 [] [] [] (Lr g x1.body xs1 x1.params.length (hd:=hg.gp.decls) (he:=(by rw [hnx.1];exact hbo.1)) (hu:=(fun a ha=>by have:=hnx.2 a ha;omega))) ?_)
    rintro _ _ ⟨b8,rfl,rfl,YR⟩
    have hlb:=YR
    exact Z7 8 (X3 8 0 [] [] b7 (XV b8) (de (ZJ ⟨_,b7,_,(by assumption),(by assumption),rfl,rfl⟩ (Zv 6 fl))))
   refine dA 7 [0,3] [b4,b1] [nl,.i 0] fun b9=>Z7 4 (dc 4 [] [1,4] [b4,b1] (Ls 0 x1.params.length) ?_)
   rintro _ _ ⟨xs2,rfl,rfl,YV⟩
   have hnx:=YV
   refine Z7 6 (dc 6 [] [] [] (Lr g x1.body xs2 x1.params.length (hd:=hg.gp.decls) (he:=(by rw [hnx.1];exact hbo.1)) (hu:=(fun a ha=>by have:=hnx.2 a ha;omega))) ?_)
   rintro _ _ ⟨b10,rfl,rfl,Xc⟩
   have hlb:=Xc
   exact Z7 8 (X3 8 0 [] [] b9 (XV b10) (de (ZJ ⟨_,b9,_,(by assumption),(by assumption),rfl,rfl⟩ (Zv 6 fl))))
  rintro F h ⟨b5,b6,xs1,Y4,Yr,rfl,rfl⟩
  have hnx:=Y4
  have hlb:=Yr
  refine aE 14 (ZW 7 14 [0,1,2,3,6,7,8] [2,1,1,0] (Uj 4 5 ?_ ?_))
  ·refine dc 4 [] [0,1,2] [b6,b4,b3] (WV x1.params) ?_
   rintro _ _ ⟨v2,rfl,rfl⟩
   exact Z7 5 (dL 5 [0,1,2] [b6,b4,b3] (Z6 []) 0 1 fun v3=>Yt 4 5 [9] [(44,.agg [Z4 x1.params,Z4 [],.i x1.result,Vp b5.steps,.i b5.result])] (Z7 10 (dL 10 [2] [b3] (X9 [YE.mk x1.params [] x1.result (Z8.mk b5.steps b5.result)]) 1 5 fun v4=>Yt 3 3 [] [(45,JM [YE.mk x1.params [] x1.result (Z8.mk b5.steps b5.result)])] (Z7 11 (dp 11 8 [] [] (X9 (rs++[YE.mk x1.params [] x1.result (Z8.mk b5.steps b5.result)])) (X9 rs) (X9 [YE.mk x1.params [] x1.result (Z8.mk b5.steps b5.result)]) u none 5 (T9 _) (T9 _) (BA _) (by simp<;>omega) (by simp [Dt,X9]) fun v5=>Zp 1 2 [12] (Z7 13 (X3 13 6 [] [] b3 [Ye g.decls,WT (rs++[YE.mk x1.params [] x1.result (Z8.mk b5.steps b5.result)]) v5] (de (az (Z0 1 (ZD k (Z1 (ZF ⟨k+1,(rs++[YE.mk x1.params [] x1.result (Z8.mk b5.steps b5.result)]),v5,ob,ob,(XD ZB (RN.of hsi hlb hbo.2)),rfl,rfl,rfl⟩ (wk [0,6,6,0] (ZI k fl)))))))))))))))
  refine dL 5 [0,1,1,2] [b6,b4,b4,b3] (Z6 []) 0 1 fun v6=>Z7 4 (dc 4 [] [0,1,2] [b6,b4,b3] (WV x1.params) ?_)
  rintro _ _ ⟨v7,rfl,rfl⟩
  exact Yt 4 5 [9] [(44,.agg [Z4 x1.params,Z4 [],.i x1.result,Vp b5.steps,.i b5.result])] (Z7 10 (dL 10 [2] [b3] (X9 [YE.mk x1.params [] x1.result (Z8.mk b5.steps b5.result)]) 1 5 fun v8=>Yt 3 3 [] [(45,JM [YE.mk x1.params [] x1.result (Z8.mk b5.steps b5.result)])] (Z7 11 (dp 11 8 [] [] (X9 (rs++[YE.mk x1.params [] x1.result (Z8.mk b5.steps b5.result)])) (X9 rs) (X9 [YE.mk x1.params [] x1.result (Z8.mk b5.steps b5.result)]) u none 5 (T9 _) (T9 _) (BA _) (by simp<;>omega) (by simp [Dt,X9]) fun v9=>Zp 1 2 [12] (Z7 13 (X3 13 6 [] [] b3 [Ye g.decls,WT (rs++[YE.mk x1.params [] x1.result (Z8.mk b5.steps b5.result)]) v9] (de (az (Z0 1 (ZD k (Z1 (ZF ⟨k+1,(rs++[YE.mk x1.params [] x1.result (Z8.mk b5.steps b5.result)]),v9,ob,ob,(XD ZB (RN.of hsi hlb hbo.2)),rfl,rfl,rfl⟩ (wk [0,6,6,0] (ZI k fl))))))))))))))
 exact ax 0 (Zq 1 [0] (Zy 1 b2 [Ye g.decls,WT rs u] (ie (ZY (r3 [] [.agg [Ye g.decls,WT rs u]] [0] [(b2,b2)] ⟨(ZG.mk g.decls rs),rfl,rfl,(RN.all hg.gp.decls (by show 1<=rs.length/\rs.length<=4;omega) (by show ∀r∈rs,RN g.decls rs.length r;rw [show rs.length=g.funcs.length by omega];exact ZB) om)⟩ (Zd.agg (.cons (lr _) (.cons (Zd.forget _ _) .nil))))))))
theorem Zgw (n:ZG) (hz:JW n:=by exact ob):Zo 171 [YF n] [] (Yx (.b (Kj n))):=by
 have hzl:=hz.len
 refine ZE 35 Tryz.func171 (ar (iA (X8 n) fun b1=>Z1 (Ys 1 [0] (Zw [] (Zgv n (hz:=hz.decls) (hr:=(fun r hr=>⟨hz.params r hr,hz.lent r hr⟩))) (YB (!Ao n) (p:=¬(Ao n=true)) (Yh Iff.rfl) (fun Z9=>?_) (fun Z9=>?_))))))
 ·exact ar (Zm (ZM (.b false) (lb (by first|rfl|omega|grind [Kj]))))
 have hok:=Rp hz (by simpa using Z9)
 refine ak (Y6 (ab 0 (Y0 (fun fz gz m F h=>∃(k:Nat),(k<=n.routines.length)/\(Be n (n.routines.drop k)=Be n n.routines)/\F=sF [1] fz [(3,.i k)]/\h=gz/\m=n.routines.length-k) _ _ _ ⟨0,ob,ob,rfl,rfl,rfl⟩ (wk [0] (Ya fl)) ?_)))
 rintro m F h ⟨k,Yj,Zf,rfl,rfl,rfl⟩
 refine Ys 3 [0] (iw (TS n.routines) (Y2 ((k:Int)<(n.routines.length:Int)) (fun Zj=>?_) (fun Zj=>?_)))
 ·refine ak (aq (ab 1 (Zq 3 [0] ?_)))
  obtain ⟨x1,Z3⟩:=Zt n.routines k om
  have ZL:=hz.body _ (Y3 Z3)
  have hps:=hok.params_at Z3
  refine Zs (Zh none (k:Int) 5 (VJ Z3)) (Z0 1 (iA [nl,nl,.i 0,nl,.i 0] fun b2=>Zy 0 b2 (JH x1) (ie (aD 15 (ZW 13 15 [0,1] [0] (Z7 2 (YH 2 [] [] [] (Zgm x1.body) (Bv [1,3] [(34,.b ((decide ((Bh x1.body)<0))||((W4 n x1.params x1.body) != x1.result)))] (fun gz=>gz) ?_ ?_))))))))
  ·refine Zp 10 12 [3,4] (db (b:=(decide ((Bh x1.body)<0))) 24 (fun Zc=>?_) (fun Zc=>?_))
   ·exact Zp 0 10 [5,6,7,8,9,10,11,12,13,14] (de (wk [0,0] (Zl true Zc fl)))
   exact ZW 3 10 [5,6,7,8,9,11,12] [1,0,0,0] (Z7 10 (YH 10 [] [0] [b2] (Z0m n x1.params x1.body ob ob) (Zp 0 2 [13,14] (de (wk [0,0] (Zl ((W4 n x1.params x1.body) != x1.result) Zc fl))))))
  refine ac ((decide ((Bh x1.body)<0))||((W4 n x1.params x1.body) != x1.result)) (p:=((Bh x1.body)<0)∨((W4 n x1.params x1.body)≠x1.result)) (ZO dq Yp) (fun ZA=>?_) (fun ZA=>?_)
  ·refine Y1 ?_
   rw [Yk Z3] at Zf
   exact ZY (ZM (.b false) (lb (by clear Z3;first|rfl|omega|grind [Be,Kj])))
  refine ak (az (Z0 1 (ZD k (Z1 ?_))))
  have hdr:=Yk Z3
  exact ZF ⟨k+1,ob,(by rw [hdr] at Zf;clear hdr Z3;grind [Be]),rfl,rfl,rfl⟩ (wk [1] (ZI k fl))
 refine ax 0 (Y1 ?_)
 try rw [Xm (xs:=n.routines) (k:=k) om] at Zf
 exact ZY (ZM (.b true) (lb (by first|rfl|omega|grind [Be,Kj])))
theorem Z0p (op:Int) :Zo 238 [.i op] [] (Yx (.b (YO op))):=by
 exact ZE 5 Tryz.func238 (Y1 (Yf 1 (Zw [] (Vf op 14 17) (Zm (ZM (.b (decide (14<=op/\op<=17))) (lb (by first|rfl|omega|grind [YO])))))))
theorem Z0n (op:Int) :Zo 248 [.i op] [] (Yx (.b (Aa op))):=by
 refine ZE 17 Tryz.func248 (Y1 (ar (X6 6 [0] [(8,.b ((op==6)||(op==9)))] (fun gz=>gz) ?_ (fun hj1=>?_))))
 ·refine X6 10 [0] [(12,.b (((op==6)||(op==9))||(op==10)))] (fun gz=>gz) ?_ (fun hj2=>?_)
  ·refine X6 14 [] [(16,.b ((((op==6)||(op==9))||(op==10))||(op==11)))] (fun gz=>gz) ?_ (fun hj3=>?_)
   ·exact Zm (ZM (.b ((((op==6)||(op==9))||(op==10))||(op==11))) (lb (by first|rfl|omega|grind [Aa])))
   refine Z0 1 (ib (b:=(((op==6)||(op==9))||(op==10))) 13 (fun Zc=>?_) (fun Zc=>?_))
   ·exact Z0 3 (Y5 (wk [] (Zl true Zc fl)) hj3)
   exact Z0 3 (Y5 (wk [] (Zl (op==11) Zc fl)) hj3)
  refine Z0 1 (ib (b:=((op==6)||(op==9))) 9 (fun ZC=>?_) (fun ZC=>?_))
  ·exact Z0 3 (Y5 (wk [] (Zl true ZC fl)) hj2)
  exact Z0 3 (Y5 (wk [] (Zl (op==10) ZC fl)) hj2)
 refine Z0 3 (ib (b:=(op==6)) 5 (fun Yn=>?_) (fun Yn=>?_))
 ·exact Z0 3 (Y5 (wk [] (Zl true Yn fl)) hj1)
 exact Z0 3 (Y5 (wk [] (Zl (op==9) Yn fl)) hj1)
theorem FE (n:ZG) (s:Z5) (i:Nat) (hn:Xu n:=by exact ob) (hnum:s.op=9->0<=s.num/\s.num<n.routines.length:=by exact ob):Zo 236 [YF n,X4 s,.i i] [] (Yx (.b (UU n s.op s.num i))):=by
 refine ZE 21 Tryz.func236 (ar (iA (X8 n) fun b1=>iA (Wd s) fun b2=>Z1 (Zq 4 [0] (ib (b:=(s.op==9)) 10 (fun Zc=>?_) (fun Zc=>?_)))))
 ·have Y4:s.op=9:=(Ze).1 Zc
  refine Zz 4 [1,0] ?_
  obtain ⟨x1,Z3⟩:=Zt n.routines s.num.toNat om
  have hlt:=hn.lent_at Z3
  have hlr:=Zbp (n:=n) Y4 Z3
  exact Zs (Zh none s.num 5 (VJ Z3)) (Z0 3 (Zw [] (UM x1.lent (i:Int)) (Zm (ZM (.b (decide ((i:Int)∈x1.lent))) (lb (by rw [UU,hlr]))))))
 have Yr:¬(s.op=9):=Y7 Ze Zc
 exact Zm (ZM (.b false) (lb (by rw [UU,DK,Za Yr];simp)))
theorem HO (n:ZG) (us:LI) (s:Z5) (i:Nat) (a:Int) (hn:Xu n:=by exact ob) (hnum:s.op=9->0<=s.num/\s.num<n.routines.length:=by exact ob) (ha:s.args[i]? = some a:=by exact ob) (hi:0<=a/\a<us.length:=by exact ob):Zo 231 [YF n,Z4 us,X4 s,.i i] [] (Yx (.b (Jt n us s.op s.num a i))):=by
 have hal:=(Xh.1 ha).1
 refine ZE 30 Tryz.func231 (ar (iA (X8 n) fun b1=>iA (Wd s) fun b2=>Z1 (Zq 2 [0] (Zw [] (Z0n s.op) (Z0 1 (ib (b:=Aa s.op) 12 (fun Zc=>?_) (fun Zc=>?_)))))))
 ·refine Zz 4 [0] ?_
  obtain ⟨x1,Z3⟩:=Zt s.args i om
  have hxa:x1=a:=by rw [ha] at Z3;exact (Da Z3).symm
  subst hxa
  refine Zs (Zh none (i:Int) 1 (Y8 Z3)) (Z0 1 ?_)
  obtain ⟨x2,Zu⟩:=Zt us x1.toNat om
  have hga:=Te Zu
  refine Zs (Zh none x1 1 (Y8 Zu)) (Z0 4 (ib (b:=(x2 != 0)) 23 (fun ZC=>?_) (fun ZC=>?_)))
  ·exact Zz 3 [1,0] (Zw [] (FE n s i) (Zm (ZM (.b (!UU n s.op s.num i)) (lb (by clear Z3 Zu;first|rfl|(rw [Jt];grind))))))
  exact Zm (ZM (.b false) (lb (by clear Z3 Zu;first|rfl|(rw [Jt];grind))))
 exact Zm (ZM (.b false) (lb (by  first|rfl|(rw [Jt];grind))))
theorem Z0u (xs:LI) (ys:LI) (hl_xs:xs.length<=4294967296:=by exact ob) (hl_ys:ys.length<=4294967296:=by exact ob):Zo 235 [Z4 xs,Z4 ys] [] (Yx (.b (decide (xs=ys)))):=by
 refine ZE 26 Tryz.func235 (Y1 (YM 1 (iw (Yc xs) (Z0 1 (iw (Yc ys) (YB ((xs.length:Int) != (ys.length:Int)) Yp (fun Z9=>?_) (fun Z9=>?_)))))))
 ·exact ar (Zm (ZM (.b false) (lb (eq_comm.1 (decide_eq_false (fun q=>by rw [q] at Z9;exact Z9 rfl))))))
 refine ak (Y6 (ab 0 (Y0 (fun fz gz m F h=>∃(k:Nat),(k<=xs.length)/\(xs.take k=ys.take k)/\F=sF [0,1] fz [(5,.i k)]/\h=gz/\m=xs.length-k) _ _ _ ⟨0,ob,ob,rfl,rfl,rfl⟩ (wk [] (Ya fl)) ?_)))
 rintro m F h ⟨k,Yj,Zf,rfl,rfl,rfl⟩
 refine YM 2 (iw (Yc xs) (Y2 ((k:Int)<(xs.length:Int)) (fun Zj=>?_) (fun Zj=>?_)))
 ·refine ak (aq (ab 1 (aD 9 (Zp 7 9 [0,1] ?_))))
  obtain ⟨x1,Z3⟩:=Zt xs k om
  refine dx 2 (Zh none (k:Int) 1 (Y8 Z3)) (Zp 3 6 [3,4,5] ?_)
  obtain ⟨x2,Zu⟩:=Zt ys k om
  refine dx 6 (Zh none (k:Int) 1 (Y8 Zu)) (Zp 0 2 [7,8] (de (ac (x1 != x2) Yp (fun ZA=>?_) (fun ZA=>?_))))
  ·exact ar (Zm (ZM (.b false) (lb (eq_comm.1 (decide_eq_false (fun q=>by subst q;rw [Z3] at Zu;cases Zu;exact ZA rfl))))))
  refine ak (az (Z0 1 (ZD k (Z1 ?_))))
  have hdr:=Yk Z3
  exact ZF ⟨k+1,ob,(by rw [V5 Z3,V5 Zu,Zf];have hxx:x1=x2:=om;rw [hxx]),rfl,rfl,rfl⟩ (wk [] (ZI k fl))
 exact ax 0 (ar (Zm (ZM (.b true) (lb (eq_comm.1 (decide_eq_true (by rw [WI om,WI om] at Zf;exact Zf)))))))
theorem Bg (xs:LI) (hlen:xs.length<=4294967296:=by exact ob):Zo 48 [Z4 xs] [] (fun r h=>∃(v:Hd),r=.h v/\h=[rV v xs]):=by
 exact ZE 6 Tryz.func48 (Y1 (ar (iVL [] 0 fun v1=>Z0 1 (B7 0 v1 [] xs none fun v2=>Zm (r1 [0] ⟨v2,rfl,rfl⟩ (eq:=(rv (xs:=([]++xs)) ob rz)))))))
theorem KE (b:Nat) (ga:Hd) (gb:Hd) (gc:Hd) (gd:Hd) (ge:Hd) (gf:Hd) (L:ZK) (ln:LI) (t:Int) (o:Int) (p:Int) (hlb:L.vars.length<=1000000000:=by exact ob) (hlk:Tl L:=by exact ob):Zo 194 [.p b 0,.i t,.i o,.i p] [.obj b [.h ga,.h gb,.h gc,.h gd,.h ge,.h gf,Z4 ln],rV ga L.vars,rV gb L.own,rV gc L.par,rV gd L.con,rV ge L.fst,rV gf L.tok] (fun r h=>∃(wa:Hd) (wb:Hd) (wc:Hd) (wd:Hd) (we:Hd) (wf:Hd),h=[.obj b [.h wa,.h wb,.h wc,.h wd,.h we,.h wf,Z4 ln],rV wa ((L.grow t o p).vars),rV wb ((L.grow t o p).own),rV wc ((L.grow t o p).par),rV wd ((L.grow t o p).con),rV we ((L.grow t o p).fst),rV wf ((L.grow t o p).tok)]):=by
 obtain ⟨e1,e2,e3,e4,e5⟩:=hlk
 exact ZE 65 Tryz.func194 (Zq 6 [0] (iL (Z6 [t]) 1 1 fun v1=>ZQ 0 [(14,Z4 [t])] (B7 2 ga L.vars [t] none fun v2=>Z0 2 (Zy 2 b [.h v2,.h gb,.h gc,.h gd,.h ge,.h gf,Z4 ln] (ie (Zq 6 [0] (iL (Z6 [o]) 1 1 fun v3=>ZQ 0 [(24,Z4 [o])] (B7 4 gb L.own [o] none fun v4=>Z0 2 (Zy 2 b [.h v2,.h v4,.h gc,.h gd,.h ge,.h gf,Z4 ln] (ie (Zq 6 [0] (iL (Z6 [p]) 1 1 fun v5=>ZQ 0 [(34,Z4 [p])] (B7 6 gc L.par [p] none fun v6=>Z0 2 (Zy 2 b [.h v2,.h v4,.h v6,.h gd,.h ge,.h gf,Z4 ln] (ie (Zq 5 [0] (iL (Z6 [-1]) 1 1 fun v7=>ZQ 0 [(43,Z4 [-1])] (B7 8 gd L.con [-1] none fun v8=>Z0 2 (Zy 2 b [.h v2,.h v4,.h v6,.h v8,.h ge,.h gf,Z4 ln] (ie (Zq 5 [0] (iL (Z6 [-1]) 1 1 fun v9=>ZQ 0 [(52,Z4 [-1])] (B7 10 ge L.fst [-1] none fun v10=>Z0 2 (Zy 2 b [.h v2,.h v4,.h v6,.h v8,.h v10,.h gf,Z4 ln] (ie (az (Zz 5 [0] (iL (Z6 [-1]) 1 1 fun v11=>ZQ 0 [(61,Z4 [-1])] (B7 12 gf L.tok [-1] none fun v12=>Z0 2 (Zy 2 b [.h v2,.h v4,.h v6,.h v8,.h v10,.h v12,Z4 ln] (ie (r2 [0,10,8,6,4,2,0] [] ⟨v2,v4,v6,v8,v10,v12,rfl⟩ (lr _) (eq:=(rc (rv (xs:=(L.vars++[t])) ob (rv (xs:=(L.own++[o])) ob (rv (xs:=(L.par++[p])) ob (rv (xs:=(L.con++[-1])) ob (rv (xs:=(L.fst++[-1])) ob (rv (xs:=(L.tok++[-1])) ob rz))))))))))))))))))))))))))))))))))))))))
theorem Zbj (b:Nat) (ga:Hd) (gb:Hd) (gc:Hd) (gd:Hd) (ge:Hd) (gf:Hd) (L:ZK) (ln:LI) (hlb:L.vars.length<=1000000000:=by exact ob) (hlk:Tl L:=by exact ob) (hln:ln.length<=4294967296:=by exact ob):Zo 254 [.p b 0] [.obj b [.h ga,.h gb,.h gc,.h gd,.h ge,.h gf,Z4 ln],rV ga L.vars,rV gb L.own,rV gc L.par,rV gd L.con,rV ge L.fst,rV gf L.tok] (fun r h=>∃(c:Nat) (wa:Hd) (wb:Hd) (wc:Hd) (wd:Hd) (we:Hd) (wf:Hd),r=.p c 0/\h=[.obj c [.h wa,.h wb,.h wc,.h wd,.h we,.h wf,Z4 ln],rV wa L.vars,rV wb L.own,rV wc L.par,rV wd L.con,rV we L.fst,rV wf L.tok,.obj b [.h ga,.h gb,.h gc,.h gd,.h ge,.h gf,Z4 ln],rV ga L.vars,rV gb L.own,rV gc L.par,rV gd L.con,rV ge L.fst,rV gf L.tok]):=by
 obtain ⟨e1,e2,e3,e4,e5⟩:=hlk
 refine ZE 40 Tryz.func254 (Y1 (aD 38 (ZW 10 38 [0,1,2,3,5,6,7,8,10,11,12,13,15,16,17,18,20,21,22,23,25,26,27,28,30,31,32,33] [0,0,0,0,0,0,0] (Z7 4 (Ab 4 [1] [0,0,0,0,0,0] [b,b,b,b,b,b] [rV ga L.vars] (Bg L.vars) Dh (gL (v:=ga) 0 gN) (J7 An) ?_)))))
 rintro _ _ ⟨v1,rfl,rfl⟩
 refine Z7 9 (Ab 9 [3] [0,0,0,0,0] [b,b,b,b,b] [rV gb L.own] (Bg L.own) Dh (gL (v:=gb) 0 gN) (J7 An) ?_)
 rintro _ _ ⟨v2,rfl,rfl⟩
 refine Z7 14 (Ab 14 [5] [0,0,0,0] [b,b,b,b] [rV gc L.par] (Bg L.par) Dh (gL (v:=gc) 0 gN) (J7 An) ?_)
 rintro _ _ ⟨v3,rfl,rfl⟩
 refine Z7 19 (Ab 19 [7] [0,0,0] [b,b,b] [rV gd L.con] (Bg L.con) Dh (gL (v:=gd) 0 gN) (J7 An) ?_)
 rintro _ _ ⟨v4,rfl,rfl⟩
 refine Z7 24 (Ab 24 [9] [0,0] [b,b] [rV ge L.fst] (Bg L.fst) Dh (gL (v:=ge) 0 gN) (J7 An) ?_)
 rintro _ _ ⟨v5,rfl,rfl⟩
 refine Z7 29 (Ab 29 [11] [0] [b] [rV gf L.tok] (Bg L.tok) Dh (gL (v:=gf) 0 gN) (J7 An) ?_)
 rintro _ _ ⟨v6,rfl,rfl⟩
 refine Z7 34 (dc 34 [] [] [] (WV ln) ?_)
 rintro _ _ ⟨v7,rfl,rfl⟩
 exact Yt 2 3 [35] [(38,.agg [.h v1,.h v2,.h v3,.h v4,.h v5,.h v6,Z4 ln])] (Z7 36 (dA 36 [] [] [.h v1,.h v2,.h v3,.h v4,.h v5,.h v6,Z4 ln] fun b1=>Zp 0 1 [37] (de (ZY (r1 [0,11,9,7,5,3,1,7,6,5,4,3,2,1] ⟨b1,v1,v2,v3,v4,v5,v6,rfl,rfl⟩)))))
theorem H7 (b:Nat) (ga:Hd) (gb:Hd) (gc:Hd) (gd:Hd) (ge:Hd) (gf:Hd) (L:ZK) (ln:LI) (i:Int) (hlk:Tl L:=by exact ob) (hi:0<=i/\i<L.vars.length:=by exact ob) (hq:∀x∈L.own,0<=x/\x<=1000000000):Zo 195 [.p b 0,.i i] [.obj b [.h ga,.h gb,.h gc,.h gd,.h ge,.h gf,Z4 ln],rV ga L.vars,rV gb L.own,rV gc L.par,rV gd L.con,rV ge L.fst,rV gf L.tok] (fun r h=>(∃(wa:Hd) (wb:Hd) (wc:Hd) (wd:Hd) (we:Hd) (wf:Hd) (L':ZK),r=.b true/\h=[.obj b [.h wa,.h wb,.h wc,.h wd,.h we,.h wf,Z4 ln],rV wa L'.vars,rV wb L'.own,rV wc L'.par,rV wd L'.con,rV we L'.fst,rV wf L'.tok]/\Q5 L i=some L')∨(r=.b false/\h=[]/\Q5 L i=none)):=by
 obtain ⟨e1,e2,e3,e4,e5⟩:=hlk
 refine ZE 27 Tryz.func195 (Y1 (Ys 5 [0] (Zs (Ua 2 gb L.own i i.toNat (hq:=rfl)) ?_)))
 obtain ⟨x1,Z3⟩:=Zt L.own i.toNat om
 have hxq:=hq _ (Y3 Z3)
 have hgi:=Te Z3
 refine Uh (Qs 2 gb L.own i.toNat x1 Z3) (Y2 (x1<1) (fun Z9=>?_) (fun Z9=>?_))
 ·exact ar (Zm (r1 [] (.inr ⟨rfl,rfl,(by rw [Q5,hgi,Zk Z9])⟩)))
 exact ak (aD 15 (ZW 5 15 [0,1,2,3,4,5,6,7,8,9] [0,0] (dx 10 (Ua 2 gb L.own i i.toNat (hq:=rfl)) (UA 11 (Qs 2 gb L.own i.toNat x1 Z3) (da 12 ((x1-1)) ((x1)-(1)) (dx 13 (Ua 2 gb L.own i i.toNat (hq:=rfl)) (Z7 14 (Co 14 2 [] [] gb L.own i.toNat (x1-1) (de (ar (Zm (r1 [1,1,0,0,0,0,0] (.inl ⟨ga,gb,gc,gd,ge,gf,(ZK.mk L.vars (L.own.set i.toNat (x1-1)) L.par L.con L.fst L.tok),rfl,rfl,(by rw [Q5,hgi,Za Z9])⟩) (eq:=(rc (rv (xs:=L.vars) ob (rv (xs:=(L.own.set i.toNat (x1-1))) ob (rv (xs:=L.par) ob (rv (xs:=L.con) ob (rv (xs:=L.fst) ob (rv (xs:=L.tok) ob rz))))))))))))))))))))
theorem H6 (b:Nat) (ga:Hd) (gb:Hd) (gc:Hd) (gd:Hd) (ge:Hd) (gf:Hd) (L:ZK) (ln:LI) (i:Int) (hlk:Tl L:=by exact ob) (hln:ln.length<=4294967296:=by exact ob) (hi:0<=i/\i<L.vars.length:=by exact ob) (hd:∀j:Int,0<=j->j<L.vars.length->gI L.par j<j):Zo 151 [.p b 0,.i i] [.obj b [.h ga,.h gb,.h gc,.h gd,.h ge,.h gf,Z4 ln],rV ga L.vars,rV gb L.own,rV gc L.par,rV gd L.con,rV ge L.fst,rV gf L.tok] (fun r h=>r=.b (T3 L ln i)/\h=[.obj b [.h ga,.h gb,.h gc,.h gd,.h ge,.h gf,Z4 ln],rV ga L.vars,rV gb L.own,rV gc L.par,rV gd L.con,rV ge L.fst,rV gf L.tok]):=by
 obtain ⟨e1,e2,e3,e4,e5⟩:=hlk
 refine ZE 31 Tryz.func151 (Y1 (aq (ab 0 (Y0 (fun fz gz m F h=>∃(j:Int),(0<=j/\j<L.vars.length)/\(QR L.own L.par ln (j.toNat+1) j=T3 L ln i)/\F=sF [0] fz [(1,.i j)]/\h=gz/\m=j.toNat) _ _ _ ⟨i,ob,ob,rfl,rfl,rfl⟩ (Zv 7 fl) ?_))))
 rintro m F h ⟨j,Yj,Zf,rfl,rfl,rfl⟩
 refine Ys 5 [0] (Zs (Ua 2 gb L.own j j.toNat (hq:=rfl)) ?_)
 obtain ⟨x1,Z3⟩:=Zt L.own j.toNat om
 have hg1:=Te Z3
 refine Uh (Qs 2 gb L.own j.toNat x1 Z3) (Xp [0,1] [(21,.b ((decide (x1<1))&&(!(decide (j∈ln)))))] (fun gz=>gz) ?_ ?_)
 ·refine Z0 2 (ib (b:=(decide (x1<1))) 13 (fun Zc=>?_) (fun Zc=>?_))
  ·exact Zz 5 [0] (Zw [] (UM ln j) (Z1 (Zv 7 (Zl (!(decide (j∈ln))) Zc fl))))
  exact Z1 (Zv 7 (Zl false Zc fl))
 refine ac ((decide (x1<1))&&(!(decide (j∈ln)))) (p:=(x1<1)/\(¬(j∈ln))) (Yu dq (Yh dq)) (fun Z9=>?_) (fun Z9=>?_)
 ·refine ak (ab 1 (Zq 5 [0] (Zs (Ua 3 gc L.par j j.toNat (hq:=rfl)) ?_)))
  obtain ⟨x2,Zu⟩:=Zt L.par j.toNat om
  have hg2:=Te Zu
  have hdj:=hd j om om
  rw [hg2] at hdj
  refine Uh (Qs 3 gc L.par j.toNat x2 Zu) (Z1 (ar (Y2 (x2<0) (fun Zj=>?_) (fun Zj=>?_))))
  ·exact ar (Zm (r2 [0,0,0,0,0,0,0] [.b false] ⟨rfl,rfl⟩ (lb (Z2r hg1 hg2 Z9 Zj Zf))))
  exact ak (ZF ⟨x2,om,(Z2s hg1 hg2 Yj Z9 Zj hd Zf),rfl,rfl,rfl⟩ (Zv 7 fl))
 exact ax 0 (ar (Zm (r2 [0,0,0,0,0,0,0] [.b true] ⟨rfl,rfl⟩ (lb (Z2t hg1 Z9 Zf)))))
theorem R4 (b:Nat) (ga:Hd) (gb:Hd) (gc:Hd) (gd:Hd) (ge:Hd) (gf:Hd) (L:ZK) (ln:LI) (mm:Nat) (hlk:Tl L:=by exact ob) (hlb:L.vars.length<=1000000000:=by exact ob) (hm:mm<=L.vars.length:=by exact ob):Zo 267 [.p b 0,.i mm] [.obj b [.h ga,.h gb,.h gc,.h gd,.h ge,.h gf,Z4 ln],rV ga L.vars,rV gb L.own,rV gc L.par,rV gd L.con,rV ge L.fst,rV gf L.tok] (fun r h=>(∃(wa:Hd) (wb:Hd) (wc:Hd) (wd:Hd) (we:Hd) (wf:Hd) (L':ZK),r=.b true/\h=[.obj b [.h wa,.h wb,.h wc,.h wd,.h we,.h wf,Z4 ln],rV wa L'.vars,rV wb L'.own,rV wc L'.par,rV wd L'.con,rV we L'.fst,rV wf L'.tok]/\Ju L mm=some L')∨(r=.b false/\h=[]/\Ju L mm=none)):=by
 obtain ⟨e1,e2,e3,e4,e5⟩:=hlk
 refine ZE 88 Tryz.func267 (Y1 (Y6 (ab 0 (Y0 (fun fz gz m F h=>∃(k:Nat),(mm<=k/\k<=L.vars.length)/\(C6 (L.own.drop k) (L.tok.drop k)=C6 (L.own.drop mm) (L.tok.drop mm))/\F=sF [0,1] fz [(5,.i k)]/\h=gz/\m=L.vars.length-k) _ _ _ ⟨mm,ob,ob,rfl,rfl,rfl⟩ (Zv 7 fl) ?_))))
 rintro m F h ⟨k,Yj,Zf,rfl,rfl,rfl⟩
 refine Ys 5 [0] (Zs (D5 1 ga L.vars) (Y2 ((k:Int)<(L.vars.length:Int)) (fun Z9=>?_) (fun Z9=>?_)))
 ·refine ak (aq (ab 1 (Zq 5 [0] (Zs (Ua 2 gb L.own (k:Int) k) ?_))))
  obtain ⟨x1,Z3⟩:=Zt L.own k om
  refine Uh (Qs 2 gb L.own k x1 Z3) (Z0 2 (ib (b:=(x1 != 0)) 24 (fun Zc=>?_) (fun Zc=>?_)))
  ·have Y4:x1≠0:=(Yp).1 Zc
   refine Z1 (VR (Y1 ?_))
   obtain ⟨y2,hy2⟩:=Zt L.tok k om
   exact ZY (r1 [] (.inr ⟨rfl,rfl,(by rw [Ju,<-Zf,Yk Z3,Yk hy2,C6,Zk (show x1≠0∨0<=y2 by omega)];rfl)⟩))
  have Yr:¬(x1≠0):=Y7 Yp Zc
  refine Zz 5 [0] (Zs (Ua 6 gf L.tok (k:Int) k) ?_)
  obtain ⟨x2,Zu⟩:=Zt L.tok k om
  refine Uh (Qs 6 gf L.tok k x2 Zu) (Y2 (x2>=0) (fun Zj=>?_) (fun Zj=>?_))
  ·exact ar (Zm (r1 [] (.inr ⟨rfl,rfl,(by rw [Ju,<-Zf,Yk Z3,Yk Zu,C6,Zk (show x1≠0∨0<=x2 by omega)];rfl)⟩)))
  exact ak (az (Z0 1 (ZD k (Z1 (ZF ⟨k+1,ob,(by rw [Yk Z3,Yk Zu,C6,Za om] at Zf;exact Zf),rfl,rfl,rfl⟩ (Zv 7 (ZI k fl)))))))
 exact ax 0 (Zq 6 [0] (Zs (Eg 1 ga L.vars mm) (Z0 2 (Xn (Ed 1 mm ga L.vars) (Zy 1 b [.h (ga.cut mm),.h gb,.h gc,.h gd,.h ge,.h gf,Z4 ln] (ie (Zq 6 [0] (Zs (Eg 2 gb L.own mm) (Z0 2 (Xn (Ed 2 mm gb L.own) (Zy 1 b [.h (ga.cut mm),.h (gb.cut mm),.h gc,.h gd,.h ge,.h gf,Z4 ln] (ie (Zq 6 [0] (Zs (Eg 3 gc L.par mm) (Z0 2 (Xn (Ed 3 mm gc L.par) (Zy 1 b [.h (ga.cut mm),.h (gb.cut mm),.h (gc.cut mm),.h gd,.h ge,.h gf,Z4 ln] (ie (Zq 6 [0] (Zs (Eg 4 gd L.con mm) (Z0 2 (Xn (Ed 4 mm gd L.con) (Zy 1 b [.h (ga.cut mm),.h (gb.cut mm),.h (gc.cut mm),.h (gd.cut mm),.h ge,.h gf,Z4 ln] (ie (Zq 6 [0] (Zs (Eg 5 ge L.fst mm) (Z0 2 (Xn (Ed 5 mm ge L.fst) (Zy 1 b [.h (ga.cut mm),.h (gb.cut mm),.h (gc.cut mm),.h (gd.cut mm),.h (ge.cut mm),.h gf,Z4 ln] (ie (Zq 6 [0] (Zs (Eg 6 gf L.tok mm) (Z0 2 (Xn (Ed 6 mm gf L.tok) (Zy 1 b [.h (ga.cut mm),.h (gb.cut mm),.h (gc.cut mm),.h (gd.cut mm),.h (ge.cut mm),.h (gf.cut mm),Z4 ln] (ie (ar (Zm (r1 [0,5,4,3,2,1,0] (.inl ⟨(ga.cut mm),(gb.cut mm),(gc.cut mm),(gd.cut mm),(ge.cut mm),(gf.cut mm),(ZK.mk (L.vars.take mm) (L.own.take mm) (L.par.take mm) (L.con.take mm) (L.fst.take mm) (L.tok.take mm)),rfl,rfl,(by rw [Ju,Zk (by rw [<-Zf,Xm om];rfl)];rfl)⟩) (eq:=(rc (rv (xs:=(L.vars.take mm)) ob (rv (xs:=(L.own.take mm)) ob (rv (xs:=(L.par.take mm)) ob (rv (xs:=(L.con.take mm)) ob (rv (xs:=(L.fst.take mm)) ob (rv (xs:=(L.tok.take mm)) ob rz)))))))))))))))))))))))))))))))))))))))))))))))
theorem Zbl (b:Nat) (ga:Hd) (gb:Hd) (gc:Hd) (gd:Hd) (ge:Hd) (gf:Hd) (n:ZG) (s:Z5) (L:ZK) (ln:LI) (q:Int) (x:Int) (hn:Xu n:=by exact ob) (hk:XI n.decls L q:=by exact ob) (hlb:L.vars.length<=1000000000:=by exact ob) (ha:s.args[0]? = some x:=by exact ob) (hx:0<=x/\x<L.vars.length:=by exact ob) (hq:0<=q/\q<=999999990:=by exact ob):Zo 196 [.p b 0,YF n,X4 s] [.obj b [.h ga,.h gb,.h gc,.h gd,.h ge,.h gf,Z4 ln],rV ga L.vars,rV gb L.own,rV gc L.par,rV gd L.con,rV ge L.fst,rV gf L.tok] (fun r h=>(∃(wa:Hd) (wb:Hd) (wc:Hd) (wd:Hd) (we:Hd) (wf:Hd) (L':ZK),r=.b true/\h=[.obj b [.h wa,.h wb,.h wc,.h wd,.h we,.h wf,Z4 ln],rV wa L'.vars,rV wb L'.own,rV wc L'.par,rV wd L'.con,rV we L'.fst,rV wf L'.tok]/\Ap n.decls L s.op x=some L')∨(r=.b false/\h=[]/\Ap n.decls L s.op x=none)):=by
 obtain ⟨e1,e2,e3,e4,e5⟩:=hk.len
 have Xq:=hn.decls
 have hal:=(Xh.1 ha).1
 obtain ⟨xcon,hxcon⟩:=Zt L.con ((x).toNat) om
 have hgcon:=Te hxcon
 obtain ⟨xtok,hxtok⟩:=Zt L.tok ((x).toNat) om
 have hgtok:=Te hxtok
 obtain ⟨xfst,hxfst⟩:=Zt L.fst ((x).toNat) om
 have hgfst:=Te hxfst
 have hfl:=Vj Xq xcon
 have har:=hk.arm x om om
 rw [hgcon,hgfst] at har
 refine ZE 105 Tryz.func196 (ar (iA (X8 n) fun b1=>iA (Wd s) fun b2=>Z1 (Zq 2 [0] (Zs (Zh none 0 1 (Y8 ha)) (Z1 (Ys 5 [2] (Zs (Ua 6 gd L.con x x.toNat (hq:=rfl)) (Uh (Qs 6 gd L.con x.toNat xcon hxcon) (X6 23 [0,4,5,7] [(36,.b ((decide (xcon<0))||((s.op==17)&&(decide (xtok>=0)))))] (fun gz=>gz) ?_ (fun hj1=>?_))))))))))
 ·refine Z0 1 (ib (b:=((decide (xcon<0))||((s.op==17)&&(decide (xtok>=0))))) 37 (fun Zc=>?_) (fun Zc=>?_))
  ·have Y4:(xcon<0)∨((s.op=17)/\(xtok>=0)):=((ZO dq (Yu Ze dq))).1 Zc
   exact Z1 (VR (ar (Zm (r1 [] (.inr ⟨rfl,rfl,(by rw [Ap,hgcon,hgtok,Zk om])⟩)))))
  have Yr:¬((xcon<0)∨((s.op=17)/\(xtok>=0))):=Y7 (ZO dq (Yu Ze dq)) Zc
  refine Z0 2 (ic [2,2,2,2,2,2,2] (H7 b ga gb gc gd ge gf L ln x (hlk:=hk.len) (hq:=(fun y hy=>⟨hk.nn y hy,by have:=hk.bd y hy;omega⟩))) ?_)
  rintro _ _ (⟨wa1,wb1,wc1,wd1,we1,wf1,L'1,rfl,rfl,YR⟩|⟨rfl,rfl,YV⟩)
  ·obtain ⟨t1,t2,t3,t4,t5,t6,t7⟩:=JQ YR
   have hk1:=hk.take YR
   obtain ⟨f1,f2,f3,f4,f5⟩:=hk1.len
   have hxcon1:L'1.con[x.toNat]? = some xcon:=by rw [t4];exact hxcon
   have hvl:L'1.vars.length=L.vars.length:=by rw [t2]
   have har2:=har om
   have hxfst1:L'1.fst[x.toNat]? = some xfst:=by rw [t5];exact hxfst
   refine Z1 (VG (ak (aD 11 (ZW 4 11 [0,1,2,3,4,5,6] [8,0] (dx 7 (Ua 4 wd1 L'1.con x x.toNat (hq:=rfl)) (UA 8 (Qs 4 wd1 L'1.con x.toNat xcon hxcon1) (Z7 9 (YH 9 [] [] [] (Qr n.decls xcon) (Zp 0 1 [10] (de (Y6 (ab 0 (Y0 (fun fz gz m F h=>∃(k:Nat) (o:LI),(k<=(ZP n.decls xcon).length)/\(o.length=L.vars.length)/\(∀y∈o,0<=y/\y<=q+k)/\(Qu o (xfst+k) ((ZP n.decls xcon).drop k)=Qu L'1.own xfst (ZP n.decls xcon))/\F=sF [0,5,7,8] fz [(9,.i k)]/\h=[Zi gz 0,Zi gz 1,rV wb1 o,Zi gz 3,Zi gz 4,Zi gz 5,Zi gz 6,Zi gz 7]/\m=(ZP n.decls xcon).length-k) _ _ _ ⟨0,L'1.own,ob,om,(by intro y hy;have h1:=hk1.nn y hy;have h2:=hk1.bd y hy;omega),(by rw [show xfst+((0:Nat):Int)=xfst by omega,Kk]),rfl,rfl,rfl⟩ (Zv 8 (Ya fl)) ?_)))))))))))))
   rintro m F h ⟨k,o,Yj,Zf,ZB,YL,rfl,rfl,rfl⟩
   refine YM 2 (io (.i (((ZP n.decls xcon).length:Nat):Int)) (.i (((Z6 (ZP n.decls xcon)).length:Nat):Int)) (li (by rw [Yc])) (Y2 ((k:Int)<(((ZP n.decls xcon).length:Nat):Int)) (fun Z9=>?_) (fun Z9=>?_)))
   ·refine ak (aq (ab 1 (Yf 2 ?_)))
    obtain ⟨x1,Z3⟩:=Zt (ZP n.decls xcon) k om
    refine Zs (Zh none (k:Int) 1 (Y8 Z3)) (YB (x1 != 0) Yp (fun Zj=>?_) (fun Zj=>?_))
    ·refine aE 31 (ZW 22 31 [0,1,2,3,4,5,6,7,8] [0,0] (dx 9 (Ua 5 we1 L'1.fst x x.toNat (hq:=rfl)) (UA 10 (Qs 5 we1 L'1.fst x.toNat xfst hxfst1) (Zp 19 20 [11] (da 12 ((xfst+(k:Int))) ((xfst)+((k:Int))) (ZW 9 18 [13,14,15,16,17,18,19,20,21] [0,0] (dx 22 (Ua 5 we1 L'1.fst x x.toNat (hq:=rfl)) (UA 23 (Qs 5 we1 L'1.fst x.toNat xfst hxfst1) (Zp 6 7 [24] (da 25 ((xfst+(k:Int))) ((xfst)+((k:Int))) (dx 26 (Ua 2 wb1 o (xfst+(k:Int)) ((xfst+(k:Int)).toNat) (hq:=rfl)) ?_)))))))))))
     obtain ⟨x2,Zu⟩:=Zt o ((xfst+(k:Int)).toNat) om
     have hy2:=ZB _ (Y3 Zu)
     exact UA 27 (Qs 2 wb1 o ((xfst+(k:Int)).toNat) x2 Zu) (da 28 ((x2+1)) ((x2)+(1)) (dx 29 (Ua 2 wb1 o (xfst+(k:Int)) ((xfst+(k:Int)).toNat) (hq:=rfl)) (Z7 30 (Co 30 2 [] [] wb1 o ((xfst+(k:Int)).toNat) (x2+1) (de (az (Z0 1 (ZD k (Z1 (ZF ⟨k+1,(o.set (xfst+(k:Nat)).toNat (x2+1)),ob,ob,(by intro y hy;first|(rcases JK hy with hy|rfl<;>first|(have:=ZB y hy;omega)|omega)|(have:=ZB y hy;omega)),(by rw [Yk Z3,Qu] at YL;first|(rw [Zk Zj,Te Zu] at YL;rw [show xfst+((k+1:Nat):Int)=xfst+k+1 by omega];exact YL)|(rw [Za Zj] at YL;rw [show xfst+((k+1:Nat):Int)=xfst+k+1 by omega];exact YL)),rfl,rfl,rfl⟩ (wk [1,1,0,0,0,0,0,0] (ZI k fl) (e:=(rc (rc (rv (xs:=(o.set ((xfst+(k:Int)).toNat) (x2+1))) ob (rc (rc (rc (rc (rc rz))))))))))))))))))))
    exact ak (az (Z0 1 (ZD k (Z1 (ZF ⟨k+1,o,ob,ob,(by intro y hy;first|(rcases JK hy with hy|rfl<;>first|(have:=ZB y hy;omega)|omega)|(have:=ZB y hy;omega)),(by rw [Yk Z3,Qu] at YL;first|(rw [Zk Zj,Te Zu] at YL;rw [show xfst+((k+1:Nat):Int)=xfst+k+1 by omega];exact YL)|(rw [Za Zj] at YL;rw [show xfst+((k+1:Nat):Int)=xfst+k+1 by omega];exact YL)),rfl,rfl,rfl⟩ (Zv 8 (ZI k fl)))))))
   refine ax 0 (Xd (V4 [7] (ac (s.op==17) Ze (fun ZA=>?_) (fun ZA=>?_))))
   ·refine az (Zz 6 [0] (io (.i (((ZP n.decls xcon).length:Nat):Int)) (.i (((Z6 (ZP n.decls xcon)).length:Nat):Int)) (li (by rw [Yc])) (Zs (Ua 6 wf1 L'1.tok x x.toNat (hq:=rfl)) (LH 6 wf1 L'1.tok x.toNat (((ZP n.decls xcon).length:Nat):Int) (ie (Y1 ?_))))))
    have hof:o=Qu L'1.own xfst (ZP n.decls xcon):=by rw [<-YL,Xm om];rfl
    exact ZY (r1 [1,1,1,1,1,1,0] (.inl ⟨wa1,wb1,wc1,wd1,we1,wf1,(ZK.mk L'1.vars o L'1.par L'1.con L'1.fst (L'1.tok.set x.toNat (((ZP n.decls xcon).length:Nat):Int))),rfl,rfl,(by rw [Ap,hgcon,hgfst,hgtok,Za om,YR,hof,t6];simp [ZA,t2,t3,t4,t5])⟩) (eq:=(rc (rv (xs:=L'1.vars) ob (rv (xs:=o) ob (rv (xs:=L'1.par) ob (rv (xs:=L'1.con) ob (rv (xs:=L'1.fst) ob (rv (xs:=(L'1.tok.set x.toNat (((ZP n.decls xcon).length:Nat):Int))) ob rz)))))))))
   refine ak (Y1 ?_)
   have hof:o=Qu L'1.own xfst (ZP n.decls xcon):=by rw [<-YL,Xm om];rfl
   exact ZY (r1 [0,0,0,0,0,0,0] (.inl ⟨wa1,wb1,wc1,wd1,we1,wf1,(ZK.mk L'1.vars o L'1.par L'1.con L'1.fst L'1.tok),rfl,rfl,(by rw [Ap,hgcon,hgfst,hgtok,Za om,YR,hof,t6];simp [ZA,t2,t3,t4,t5])⟩) (eq:=(rc (rv (xs:=L'1.vars) ob (rv (xs:=o) ob (rv (xs:=L'1.par) ob (rv (xs:=L'1.con) ob (rv (xs:=L'1.fst) ob (rv (xs:=L'1.tok) ob rz)))))))))
  exact Z1 (VR (ar (Zm (r1 [] (.inr ⟨rfl,rfl,(by rw [Ap,hgcon,hgtok,Za om,YV])⟩)))))
 refine Z0 2 (ib (b:=(decide (xcon<0))) 22 (fun ZC=>?_) (fun ZC=>?_))
 ·have Xc:xcon<0:=(dq).1 ZC
  exact Z0 14 (Y5 (Zv 9 (Zl true ZC fl)) hj1)
 have XK:¬(xcon<0):=Y7 dq ZC
 refine Zz 4 [0] (ib (b:=(s.op==17)) 26 (fun Yn=>?_) (fun Yn=>?_))
 ·have Wc:s.op=17:=(Ze).1 Yn
  exact Zz 5 [2] (Zs (Ua 8 gf L.tok x x.toNat (hq:=rfl)) (Uh (Qs 8 gf L.tok x.toNat xtok hxtok) (Z0 3 (Y5 (Zv 9 (Zl (decide (xtok>=0)) (And.intro ZC Yn) fl)) hj1))))
 have WF:¬(s.op=17):=Y7 Ze Yn
 exact Z0 10 (Y5 (Zv 9 (Zl false (And.intro ZC Yn) fl)) hj1)
theorem Zbk (b:Nat) (ga:Hd) (gb:Hd) (gc:Hd) (gd:Hd) (ge:Hd) (gf:Hd) (n:ZG) (s:Z5) (L:ZK) (ln:LI) (q:Int) (hn:Xu n:=by exact ob) (hnum:s.op=9->0<=s.num/\s.num<n.routines.length:=by exact ob) (hk:XI n.decls L q:=by exact ob) (hlb:L.vars.length<=1000000000:=by exact ob) (hargs:∀a∈s.args,0<=a/\a<L.vars.length) (hinto:0<s.into->s.into<=L.vars.length:=by exact ob) (hal:s.args.length<=1000000000:=by exact ob) (hln:ln.length<=4294967296:=by exact ob) (hq:0<=q/\q<=999999990:=by exact ob):Zo 198 [.p b 0,YF n,X4 s] [.obj b [.h ga,.h gb,.h gc,.h gd,.h ge,.h gf,Z4 ln],rV ga L.vars,rV gb L.own,rV gc L.par,rV gd L.con,rV ge L.fst,rV gf L.tok] (fun r h=>(∃(wa:Hd) (wb:Hd) (wc:Hd) (wd:Hd) (we:Hd) (wf:Hd) (L':ZK),r=.b true/\h=[.obj b [.h wa,.h wb,.h wc,.h wd,.h we,.h wf,Z4 ln],rV wa L'.vars,rV wb L'.own,rV wc L'.par,rV wd L'.con,rV we L'.fst,rV wf L'.tok]/\Jy n ln L s.op s.num s.into s.args=some L')∨(r=.b false/\h=[]/\Jy n ln L s.op s.num s.into s.args=none)):=by
 obtain ⟨e1,e2,e3,e4,e5⟩:=hk.len
 refine ZE 79 Tryz.func198 (ar (iA (X8 n) fun b1=>iA (Wd s) fun b2=>?_))
 refine Z1 (Y6 (ab 0 (Y0 (fun fz gz m F h=>∃(k:Nat) (L2:ZK) (ka:Hd) (kb:Hd) (kc:Hd) (kd:Hd) (ke:Hd) (kf:Hd),(k<=s.args.length)/\(XI n.decls L2 q)/\(L2.vars=L.vars)/\(KA n s.op s.num (s.args.drop k) k L2=KA n s.op s.num s.args 0 L)/\F=sF [0,4,5] fz [(7,.i k)]/\h=[Zi gz 0,Zi gz 1,.obj b [.h ka,.h kb,.h kc,.h kd,.h ke,.h kf,Z4 ln],rV ka L2.vars,rV kb L2.own,rV kc L2.par,rV kd L2.con,rV ke L2.fst,rV kf L2.tok]/\m=s.args.length-k) _ _ _ ⟨0,L,ga,gb,gc,gd,ge,gf,ob,hk,ob,ob,rfl,rfl,rfl⟩ (Zv 9 (Ya fl)) ?_)))
 rintro m F h ⟨k,L2,ka,kb,kc,kd,ke,kf,Yj,Zf,ZB,YL,rfl,rfl,rfl⟩
 refine Ys 3 [0] (iw (Yc s.args) (Y2 ((k:Int)<(s.args.length:Int)) (fun Z9=>?_) (fun Z9=>?_)))
 ·obtain ⟨a1,ha1⟩:=Zt s.args k om
  obtain ⟨e6,e7,e8,e9,e10⟩:=Zf.len
  have hav:=hargs a1 (Y3 ha1)
  have hvl:L2.vars.length=L.vars.length:=by rw [ZB]
  refine ak (aq (ab 1 (aD 18 (ZW 11 18 [0,1,2,3,4,5,6] [1,2,0] (Z7 7 (Ab 7 [3] [] [] [rV ka L2.vars] (HO n L2.vars s k a1 (ha:=ha1)) Gf (gS (gL (v:=ka) 0 (gS (gS gN)))) (J7 An) ?_))))))
  rintro _ _ ⟨rfl,rfl⟩
  refine Zp 9 10 [8] (db (b:=Jt n L2.vars s.op s.num a1 k) 24 (fun Zc=>?_) (fun Zc=>?_))
  ·have Y4:Jt n L2.vars s.op s.num a1 k=true:=(Iff.rfl).1 Zc
   refine ZW 5 9 [9,10,11,12] [1] (dx 13 (Zh none (k:Int) 1 (Y8 ha1)) (Zp 3 4 [14] (Z7 15 (dc 15 [3,0,2,2,2,2,2] [] [] (H7 b ka kb kc kd ke kf L2 ln a1 (hlk:=Zf.len) (hq:=(fun y hy=>⟨Zf.nn y hy,by have:=Zf.bd y hy;omega⟩))) ?_))))
   rintro _ _ (⟨wa1,wb1,wc1,wd1,we1,wf1,L'1,rfl,rfl,Yr⟩|⟨rfl,rfl,YR⟩)
   ·obtain ⟨t1,t2,t3,t4,t5,t6,t7⟩:=JQ Yr
    have hk2:=Zf.take Yr
    exact Zp 0 2 [16,17] (de (VG (ak (az (Z0 1 (ZD k (Z1 (ZF ⟨k+1,L'1,wa1,wb1,wc1,wd1,we1,wf1,ob,hk2,(t2.trans ZB),(by rw [Yk ha1,KA,Zk Y4] at YL;simp only [Yr] at YL;exact YL),rfl,rfl,rfl⟩ (wk [7,7,0,0,0,0,0,0,0] (ZI k fl))))))))))
   exact Zp 0 2 [16,17] (de (VR (ar (Zm (r1 [] (.inr ⟨rfl,rfl,(by rw [Jy,<-YL,Yk ha1,KA,Zk Y4,YR])⟩))))))
  have YV:¬(Jt n L2.vars s.op s.num a1 k=true):=Y7 Iff.rfl Zc
  exact Zp 0 9 [9,10,11,12,13,14,15,16,17] (de (VG (ak (az (Z0 1 (ZD k (Z1 (ZF ⟨k+1,L2,ka,kb,kc,kd,ke,kf,ob,Zf,ZB,(by rw [Yk ha1,KA,Za YV] at YL;exact YL),rfl,rfl,rfl⟩ (wk [1,1,1,0,0,0,0,0,0] (ZI k fl))))))))))
 have hT:KA n s.op s.num s.args 0 L=some L2:=by rw [<-YL,Xm om];rfl
 obtain ⟨e6,e7,e8,e9,e10⟩:=Zf.len
 have hvl:L2.vars.length=L.vars.length:=by rw [ZB]
 refine ax 0 (Y6 (ab 2 (Y0 (fun fz gz m F h=>∃(j:Nat),(j<=s.args.length)/\(BH n s.op s.num ln L2 (s.args.drop j) j=BH n s.op s.num ln L2 s.args 0)/\F=sF [0,4,5] fz [(8,.i j)]/\h=gz/\m=s.args.length-j) _ _ _ ⟨0,ob,ob,rfl,rfl,rfl⟩ (Zv 9 (Ya fl)) ?_)))
 rintro m F h ⟨j,VA,Xs,rfl,rfl,rfl⟩
 refine Ys 3 [0] (iw (Yc s.args) (Y2 ((j:Int)<(s.args.length:Int)) (fun Zj=>?_) (fun Zj=>?_)))
 ·obtain ⟨a2,ha2⟩:=Zt s.args j om
  have hav:=hargs a2 (Y3 ha2)
  refine ak (aq (ab 3 (Zq 3 [1,0] (Zw [] (FE n s j) (Xp [0,4,5,8] [(54,.b (UU n s.op s.num j&&(!T3 L2 ln a2)))] (fun gz=>[Zi gz 2,Zi gz 3,Zi gz 4,Zi gz 5,Zi gz 6,Zi gz 7,Zi gz 8,Zi gz 0,Zi gz 1]) ?_ ?_)))))
  ·refine Z0 1 (ib (b:=UU n s.op s.num j) 45 (fun ZC=>?_) (fun ZC=>?_))
   ·exact Zz 4 [0] (Zs (Zh none (j:Int) 1 (Y8 ha2)) (Z0 1 (Zw [2,2,2,2,2,2,2] (H6 b ka kb kc kd ke kf L2 ln a2 (hlk:=Zf.len) (hd:=Zf.down)) (Z1 (Zv 9 (Zl (!T3 L2 ln a2) ZC fl))))))
   exact Z1 (wk [2,2,2,2,2,2,2,0,0] (Zl false ZC fl))
  refine ac (UU n s.op s.num j&&(!T3 L2 ln a2)) (p:=(UU n s.op s.num j=true)/\(¬(T3 L2 ln a2=true))) (Yu Iff.rfl (Yh Iff.rfl)) (fun ZA=>?_) (fun ZA=>?_)
  ·refine Y1 ?_
   have hA:BH n s.op s.num ln L2 s.args 0=false:=by rw [<-Xs,Yk ha2,BH,Zk ZA]
   exact ZY (r1 [] (.inr ⟨rfl,rfl,(by rw [Jy,hT];simp only [hA];rfl)⟩))
  exact ak (az (Z0 1 (ZD j (Z1 (ZF ⟨j+1,ob,(by rw [Yk ha2,BH,Za ZA] at Xs;exact Xs),rfl,rfl,rfl⟩ (wk [7,7,0,0,0,0,0,0,0] (ZI j fl)))))))
 have hA:BH n s.op s.num ln L2 s.args 0=true:=by rw [<-Xs,Xm om];rfl
 refine ax 2 (Xd (V4 [0] (WA (s.into>0) (fun Yi=>?_) (fun Yi=>?_))))
 ·obtain ⟨xt,hxt⟩:=Zt L2.tok ((s.into-1).toNat) (by have:=hinto Yi;omega)
  have hgt:=Te hxt
  refine aq (aD 13 (ZW 7 13 [0,1,2,3,4,5] [2,0] (da 6 ((s.into-1)) ((s.into)-(1)) (dx 7 (Ua 8 kf L2.tok (s.into-1) ((s.into-1).toNat) (hq:=rfl)) (UA 8 (Qs 8 kf L2.tok ((s.into-1).toNat) xt hxt) (ZW 2 4 [9,10] [0] (dw 11 (Yc s.args) (Zp 0 1 [12] (de (ac (xt != (s.args.length:Int)) Yp (fun YG=>?_) (fun YG=>?_)))))))))))
  ·exact ar (Zm (r1 [] (.inr ⟨rfl,rfl,(by rw [Jy,hT];simp only [hA,↓reduceIte];rw [EO,Zk Yi,hgt,Zk YG])⟩)))
  exact ak (aE 9 (ZW 3 9 [0,1,2,3,4,5] [2,0] (da 6 ((s.into-1)) ((s.into)-(1)) (dx 7 (Ua 8 kf L2.tok (s.into-1) ((s.into-1).toNat) (hq:=rfl)) (Z7 8 (Co 8 8 [] [] kf L2.tok ((s.into-1).toNat) (-1) (de (ar (Zm (r1 [3,3,3,3,3,3,0] (.inl ⟨ka,kb,kc,kd,ke,kf,(ZK.mk L2.vars L2.own L2.par L2.con L2.fst (L2.tok.set ((s.into-1).toNat) (-1))),rfl,rfl,(by rw [Jy,hT];simp only [hA,↓reduceIte];rw [EO,Zk Yi,hgt,Za YG])⟩) (eq:=(rc (rv (xs:=L2.vars) ob (rv (xs:=L2.own) ob (rv (xs:=L2.par) ob (rv (xs:=L2.con) ob (rv (xs:=L2.fst) ob (rv (xs:=(L2.tok.set ((s.into-1).toNat) (-1))) ob rz))))))))))))))))))
 exact ak (ar (Zm (r1 [2,2,2,2,2,2,2] (.inl ⟨ka,kb,kc,kd,ke,kf,L2,rfl,rfl,(by rw [Jy,hT];simp only [hA,↓reduceIte];rw [EO,Za Yi])⟩))))
theorem Z7x (b:Z8) (t:Int) (hz:b.sz<=1000000) (ih:∀(b2:Z8) (t:Int),(b2.sz<=1000000)->(b2.sz<b.sz)->Zo 247 [Yq b2,.i t] [] (fun r h=>∃(wr:Bool),r=.b wr/\h=[])):Zo 247 [Yq b,.i t] [] (fun r h=>∃(wr:Bool),r=.b wr/\h=[]):=by
 have ZL:=Ux b
 have hbl:=Jf b.steps
 have hbe:=b.sz_eq
 refine ZE 53 Tryz.func247 (ar (iA (XV b) fun b1=>?_))
 refine Z1 (Y6 (ab 0 (Y0 (fun fz gz m F h=>∃(k:Nat),(k<=b.steps.length)/\F=sF [1,2] fz [(5,.i k)]/\h=gz/\m=b.steps.length-k) _ _ _ ⟨0,ob,rfl,rfl,rfl⟩ (wk [0] (Ya fl)) ?_)))
 rintro m F h ⟨k,Yj,rfl,rfl,rfl⟩
 refine Ys 3 [0] (iw (UB b.steps) (Y2 ((k:Int)<(b.steps.length:Int)) (fun Z9=>?_) (fun Z9=>?_)))
 ·refine ak (aq (ab 1 (Ys 3 [0] ?_)))
  obtain ⟨x1,Z3⟩:=Zt b.steps k om
  have hxs:=MG (Y3 Z3)
  have hxe:=(x1).sz_eq
  have hxk:=K6 x1
  refine Zs (Zh none (k:Int) 5 (V8 Z3)) (Xp [1,2,5] [(30,.b ((x1.op==10)&&(x1.num==t)))] (fun gz=>gz) ?_ ?_)
  ·refine Z0 4 (ib (b:=(x1.op==10)) 21 (fun Zc=>?_) (fun Zc=>?_))
   ·exact Zz 3 [0] (Zs (Zh none (k:Int) 5 (V8 Z3)) (Z1 (wk [0] (Zl (x1.num==t) Zc fl))))
   exact Z1 (wk [0] (Zl false Zc fl))
  refine ac ((x1.op==10)&&(x1.num==t)) (p:=(x1.op=10)/\(x1.num=t)) (Yu Ze Ze) (fun Zj=>?_) (fun Zj=>?_)
  ·exact ar (Zm (r1 [] ⟨true,rfl,rfl⟩))
  refine ak (Y1 (ab 2 (Y0 (fun fz gz m F h=>∃(j:Nat),(j<=x1.kids.length)/\F=sF [1,2,5] fz [(6,.i j)]/\h=gz/\m=x1.kids.length-j) _ _ _ ⟨0,ob,rfl,rfl,rfl⟩ (wk [0] (Ya fl)) ?_)))
  rintro m F h ⟨j,VA,rfl,rfl,rfl⟩
  refine Ys 4 [0] (Zs (Zh none (k:Int) 5 (V8 Z3)) (Z0 2 (iw (Kt x1.kids) (Y2 ((j:Int)<(x1.kids.length:Int)) (fun ZA=>?_) (fun ZA=>?_)))))
  ·refine ak (aq (ab 3 (Zq 3 [0] (Zs (Zh none (k:Int) 5 (V8 Z3)) (Z0 3 ?_)))))
   obtain ⟨x2,Zu⟩:=Zt x1.kids j om
   have hkx:=Iw (Y3 Zu)
   refine Zs (Zh none (j:Int) 2 (US Zu)) (Z0 2 (ic [] (ih x2 t ob ob) ?_))
   rintro _ _ ⟨wr1,rfl,rfl⟩
   refine ie (ac wr1 Iff.rfl (fun Yi=>?_) (fun Yi=>?_))
   ·exact ar (Zm (r1 [] ⟨true,rfl,rfl⟩))
   exact ak (az (Z0 1 (ZD j (Z1 (ZF ⟨j+1,ob,rfl,rfl,rfl⟩ (wk [0] (ZI j fl)))))))
  exact ax 2 (az (Z0 1 (ZD k (Z1 (ZF ⟨k+1,ob,rfl,rfl,rfl⟩ (wk [0] (ZI k fl)))))))
 exact ax 0 (ar (Zm (r1 [] ⟨false,rfl,rfl⟩)))
theorem Z7w (b:Z8) (t:Int) (hz:b.sz<=1000000:=by exact ob):Zo 247 [Yq b,.i t] [] (fun r h=>∃(wr:Bool),r=.b wr/\h=[]):=by
 have key:∀k:Nat,∀(b2:Z8) (t:Int),(b2.sz<=1000000)->(b2.sz<k)->Zo 247 [Yq b2,.i t] [] (fun r h=>∃(wr:Bool),r=.b wr/\h=[]):=by
  intro k
  induction k with
  | zero=>intro b2 t h1 h2;omega
  | succ k ih=>intro b2 t h1 h2;exact Z7x b2 t h1 fun b3 t3 q1 q2=>ih b3 t3 q1 om
 exact key (b.sz+1) b t hz om
theorem Z8h (n:ZG) (t:Int) (qz:Nat) (hn:FN n qz:=by exact ob) (hqz:qz<=100000:=by exact ob):Zo 217 [YF n,.i t] [] (fun r h=>∃(wr:Bool),r=.b wr/\h=[]):=by
 have hnl:=hn.len
 refine ZE 21 Tryz.func217 (ar (iA (X8 n) fun b1=>?_))
 refine Z1 (Y6 (ab 0 (Y0 (fun fz gz m F h=>∃(k:Nat),(k<=n.routines.length)/\F=sF [1,2] fz [(5,.i k)]/\h=gz/\m=n.routines.length-k) _ _ _ ⟨0,ob,rfl,rfl,rfl⟩ (wk [0] (Ya fl)) ?_)))
 rintro m F h ⟨k,Yj,rfl,rfl,rfl⟩
 refine Ys 3 [0] (iw (TS n.routines) (Y2 ((k:Int)<(n.routines.length:Int)) (fun Z9=>?_) (fun Z9=>?_)))
 ·refine ak (aq (ab 1 (Zq 3 [0] ?_)))
  obtain ⟨x1,Z3⟩:=Zt n.routines k om
  have hbz:=(hn.body _ (Y3 Z3)).2
  refine Zs (Zh none (k:Int) 5 (VJ Z3)) (Z0 3 (ic [] (Z7w x1.body t) ?_))
  rintro _ _ ⟨wr1,rfl,rfl⟩
  refine ie (ac wr1 Iff.rfl (fun Zj=>?_) (fun Zj=>?_))
  ·exact ar (Zm (r1 [] ⟨true,rfl,rfl⟩))
  exact ak (az (Z0 1 (ZD k (Z1 (ZF ⟨k+1,ob,rfl,rfl,rfl⟩ (wk [0] (ZI k fl)))))))
 exact ax 0 (ar (Zm (r1 [] ⟨false,rfl,rfl⟩)))
theorem Pb (fs:LI) (q:Nat) (hl:fs.length<=1000000:=by exact ob) (hq:q<=1000000:=by exact ob):Zo 146 [Z4 fs,.i q] [] (fun r h=>∃(xs:LI),r=Z4 xs/\h=[]/\xs.length<=fs.length/\∀i∈xs,(q:Int)<=i/\i<(q:Int)+fs.length):=by
 refine ZE 26 Tryz.func146 (Y1 (ar (iL (Z6 []) 0 1 fun v1=>?_)))
 refine Z1 (Y6 (ab 0 (Y0 (fun fz gz m F h=>∃(k:Nat) (ys:LI) (u:Value),(k<=fs.length)/\(ys.length<=k)/\(∀i∈ys,(q:Int)<=i/\i<(q:Int)+fs.length)/\F=sF [0,1] fz [(5,ZH ys u),(6,.i k)]/\h=[.tail u 1]/\m=fs.length-k) _ _ _ ⟨0,[],v1,ob,ob,(fun i hi=>by cases hi),rfl,rfl,rfl⟩ (wk [0] (fr (Ya fl))) ?_)))
 rintro m F h ⟨k,ys,u,Yj,Zf,ZB,rfl,rfl,rfl⟩
 refine YM 2 (iw (Yc fs) (Y2 ((k:Int)<(fs.length:Int)) (fun Z9=>?_) (fun Z9=>?_)))
 ·refine ak (aq (ab 1 (Yf 2 ?_)))
  obtain ⟨x1,Z3⟩:=Zt fs k om
  refine Zs (Zh none (k:Int) 1 (Y8 Z3)) (YB (x1 != 0) Yp (fun Zj=>?_) (fun Zj=>?_))
  ·exact az (Z0 3 (ia (((q+k:Nat):Int)) (((q:Int))+((k:Int))) (iL (Z6 [((q+k:Nat):Int)]) 1 1 fun v2=>ZQ 0 [(23,Z4 [((q+k:Nat):Int)])] (ip 1 (Z6 (ys++[((q+k:Nat):Int)])) (Z6 ys) (Z6 [((q+k:Nat):Int)]) u none 1 (YD _) (YD _) (W2 _) (by simp<;>omega) (by simp [W1,Z6]) fun v3=>Z1 (az (Z0 1 (ZD k (Z1 (ZF ⟨k+1,(ys++[((q+k:Nat):Int)]),v3,ob,ob,(XD ZB om),rfl,rfl,rfl⟩ (wk [0] (fr (ZI k fl))))))))))))
  exact ak (az (Z0 1 (ZD k (Z1 (ZF ⟨k+1,ys,u,ob,ob,ob,rfl,rfl,rfl⟩ (wk [0] (fr (ZI k fl))))))))
 exact ax 0 (ar (Zm (r2 [] [ZH ys u] ⟨ys,rfl,rfl,⟨by omega,ZB⟩⟩ (Zd.forget _ _))))
theorem P5 (n:ZG) (qz:Nat) (hn:FN n qz:=by exact ob) (hqz:qz<=100000:=by exact ob):Zo 183 [YF n] [] (fun r h=>∃(xs:List LI),r=DL xs/\h=[]/\LC n n.routines.length xs):=by
 have hnl:=hn.len
 refine ZE 31 Tryz.func183 (ar (iA (X8 n) fun b1=>Z1 (ar (iL (Vk []) 0 1 fun v1=>?_))))
 refine Z1 (Y6 (ab 0 (Y0 (fun fz gz m F h=>∃(k:Nat) (ys:List LI) (u:Value),(k<=n.routines.length)/\(ys.length=k)/\(LC n k ys)/\F=sF [1] fz [(3,M9 ys u),(4,.i k)]/\h=[Zi gz 1,.tail u 1]/\m=n.routines.length-k) _ _ _ ⟨0,[],v1,ob,ob,LC.nil,rfl,rfl,rfl⟩ (wk [1,0] (fr (Ya fl))) ?_)))
 rintro m F h ⟨k,ys,u,Yj,Zf,ZB,rfl,rfl,rfl⟩
 refine Ys 3 [0] (iw (TS n.routines) (Y2 ((k:Int)<(n.routines.length:Int)) (fun Z9=>?_) (fun Z9=>?_)))
 ·refine ak (aq (ab 1 (Zq 2 [0] (ic [] (Z8h n (k:Int) qz) ?_))))
  rintro _ _ ⟨wr1,rfl,rfl⟩
  refine ie (ac wr1 Iff.rfl (fun Zj=>?_) (fun Zj=>?_))
  ·exact az (Z0 1 (iL (Z6 []) 0 1 fun v2=>ZQ 0 [(17,Z4 [])] (iL (Vk [[]]) 1 1 fun v3=>ZQ 0 [(18,DL [[]])] (ip 3 (Vk (ys++[[]])) (Vk ys) (Vk [[]]) u none 1 (Ds _) (Ds _) (IW _) (by simp<;>omega) (by simp [IV,Vk]) fun v4=>Z1 (az (Z0 1 (ZD k (Z1 (ZF ⟨k+1,(ys++[[]]),v4,ob,ob,(ZB.snoc (by simp) (fun r hr v hv=>by cases hv)),rfl,rfl,rfl⟩ (wk [3,0] (fr (ZI k fl))))))))))))
  refine az (Zz 4 [0] ?_)
  obtain ⟨x1,Z3⟩:=Zt n.routines k om
  have hrp:=(FN.ok hn).params_at Z3
  have hss:=(Tm.bd (f:=⟨(x1).params,(x1).result,default⟩) (hn.sigs _ (Y3 Z3))).1
  refine Zs (Zh none (k:Int) 5 (VJ Z3)) (Z0 2 (ic [] (Pb x1.params 0) ?_))
  rintro _ _ ⟨xs1,rfl,rfl,Y4⟩
  have hhf:=Y4
  exact iL (Vk [xs1]) 1 1 fun v5=>ZQ 0 [(28,DL [xs1])] (ip 2 (Vk (ys++[xs1])) (Vk ys) (Vk [xs1]) u none 1 (Ds _) (Ds _) (IW _) (by simp<;>omega) (by simp [IV,Vk]) fun v6=>Z1 (az (Z0 1 (ZD k (Z1 (ZF ⟨k+1,(ys++[xs1]),v6,ob,ob,(ZB.snoc om (fun r hr v hv=>by rw [Z3] at hr;cases hr;have:=hhf.2 v hv;omega)),rfl,rfl,rfl⟩ (wk [2,0] (fr (ZI k fl)))))))))
 exact ax 0 (ar (Zm (r2 [] [M9 ys u] ⟨ys,rfl,rfl,(by rw [show n.routines.length=k by omega];exact ZB)⟩ (Zd.forget _ _))))
theorem Z80 (n:ZG) (b:Z8) (t:Int) (mq:Nat) (hn:Xu n) (hf:fB n.decls n.routines.length mq b) (hz:b.sz<=1000000) (ih:∀(b2:Z8) (t:Int) (m2:Nat),(fB n.decls n.routines.length m2 b2)->(b2.sz<=1000000)->(b2.sz<b.sz)->Zo 218 [YF n,Yq b2,.i t] [] (fun r h=>∃(wr:Bool),r=.b wr/\h=[])):Zo 218 [YF n,Yq b,.i t] [] (fun r h=>∃(wr:Bool),r=.b wr/\h=[]):=by
 have hbl:=Jf b.steps
 have hbe:=b.sz_eq
 refine ZE 68 Tryz.func218 (ar (iA (X8 n) fun b1=>iA (XV b) fun b2=>Z1 (Xd (V4 [0] (ac (b.result==t) Ze (fun Z9=>?_) (fun Z9=>?_))))))
 ·exact ar (Zm (r1 [] ⟨true,rfl,rfl⟩))
 refine ak (Y6 (ab 0 (Y0 (fun fz gz m F h=>∃(k:Nat),(k<=b.steps.length)/\F=sF [2,3,4] fz [(7,.i k)]/\h=gz/\m=b.steps.length-k) _ _ _ ⟨0,ob,rfl,rfl,rfl⟩ (wk [0,0] (Ya fl)) ?_)))
 rintro m F h ⟨k,Yj,rfl,rfl,rfl⟩
 refine Ys 3 [0] (iw (UB b.steps) (Y2 ((k:Int)<(b.steps.length:Int)) (fun Zj=>?_) (fun Zj=>?_)))
 ·refine ak (aq (ab 1 (Zq 3 [0] ?_)))
  obtain ⟨x1,Z3⟩:=Zt b.steps k om
  have hfs:=(AY x1).1 (Dx ((KY b).1 hf).1 Z3)
  have hxs:=MG (Y3 Z3)
  have hxe:=(x1).sz_eq
  have hxk:=K6 x1
  refine Zs (Zh none (k:Int) 5 (V8 Z3)) (Z0 1 (iA [.i 0,.i 0,.i 0,nl,nl] fun b3=>?_))
  refine Zy 0 b3 (Wd x1) (ie (Y6 (ab 2 (Y0 (fun fz gz m F h=>∃(j:Nat),(j<=x1.args.length)/\F=sF [2,3,4,7,8] fz [(9,.i j)]/\h=gz/\m=x1.args.length-j) _ _ _ ⟨0,ob,rfl,rfl,rfl⟩ (Zv 3 (Ya fl)) ?_))))
  rintro m F h ⟨j,VA,rfl,rfl,rfl⟩
  refine Ys 3 [0] (iw (Yc x1.args) (Y2 ((j:Int)<(x1.args.length:Int)) (fun ZA=>?_) (fun ZA=>?_)))
  ·refine ak (aq (ab 3 (Zq 3 [0] ?_)))
   obtain ⟨x2,Zu⟩:=Zt x1.args j om
   refine Zs (Zh none (j:Int) 1 (Y8 Zu)) (X6 12 [2,3,4,7,8,9] [(45,.b ((x2==t)&&Aa x1.op))] (fun gz=>gz) ?_ (fun hj1=>?_))
   ·refine Xp [2,3,4,7,8,9] [(52,.b (((x2==t)&&Aa x1.op)&&(!UU n x1.op x1.num j)))] (fun gz=>gz) ?_ ?_
    ·refine Z0 1 (ib (b:=((x2==t)&&Aa x1.op)) 46 (fun Zc=>?_) (fun Zc=>?_))
     ·exact Zz 3 [2,0] (Zw [] (FE n x1 j (hnum:=hfs.call)) (Z1 (Zv 3 (Zl (!UU n x1.op x1.num j) Zc fl))))
     exact Z1 (Zv 3 (Zl false Zc fl))
    refine ac (((x2==t)&&Aa x1.op)&&(!UU n x1.op x1.num j)) (p:=((x2=t)/\(Aa x1.op=true))/\(¬(UU n x1.op x1.num j=true))) (Yu (Yu Ze Iff.rfl) (Yh Iff.rfl)) (fun Yi=>?_) (fun Yi=>?_)
    ·exact ar (Zm (r1 [] ⟨true,rfl,rfl⟩))
    exact ak (az (Z0 1 (ZD j (Z1 (ZF ⟨j+1,ob,rfl,rfl,rfl⟩ (Zv 3 (ZI j fl)))))))
   refine Z0 4 (ib (b:=(x2==t)) 41 (fun ZC=>?_) (fun ZC=>?_))
   ·exact Zz 2 [0] (Zw [] (Z0n x1.op) (Z0 1 (Y5 (Zv 3 (Zl (Aa x1.op) ZC fl)) hj1)))
   exact Z0 4 (Y5 (Zv 3 (Zl false ZC fl)) hj1)
  refine ax 2 (Y1 (ab 4 (Y0 (fun fz gz m F h=>∃(j:Nat),(j<=x1.kids.length)/\F=sF [2,3,4,7,8] fz [(10,.i j)]/\h=gz/\m=x1.kids.length-j) _ _ _ ⟨0,ob,rfl,rfl,rfl⟩ (Zv 3 (Ya fl)) ?_)))
  rintro m F h ⟨j,Eu,rfl,rfl,rfl⟩
  refine Ys 3 [0] (iw (Kt x1.kids) (Y2 ((j:Int)<(x1.kids.length:Int)) (fun YG=>?_) (fun YG=>?_)))
  ·refine ak (aq (ab 5 (aD 8 (ZW 4 8 [0,1,2,3] [2,0] ?_))))
   obtain ⟨x3,YP⟩:=Zt x1.kids j om
   have hkx:=Iw (Y3 YP)
   have hfk:=BD hfs.kids YP
   refine dx 4 (Zh none (j:Int) 2 (US YP)) (Zp 1 3 [5,6] (Z7 7 (dc 7 [] [] [] (ih x3 t (WX n.decls x1.op x1.num (mq+Yv (b.steps.take k)) (0+j)) hfk ob ob) ?_)))
   rintro _ _ ⟨wr1,rfl,rfl⟩
   refine de (ac wr1 Iff.rfl (fun X2=>?_) (fun X2=>?_))
   ·exact ar (Zm (r1 [] ⟨true,rfl,rfl⟩))
   exact ak (az (Z0 1 (ZD j (Z1 (ZF ⟨j+1,ob,rfl,rfl,rfl⟩ (Zv 3 (ZI j fl)))))))
  exact ax 4 (az (Z0 1 (ZD k (Z1 (ZF ⟨k+1,ob,rfl,rfl,rfl⟩ (wk [1,1] (ZI k fl)))))))
 exact ax 0 (ar (Zm (r1 [] ⟨false,rfl,rfl⟩)))
theorem Z7z (n:ZG) (b:Z8) (t:Int) (mq:Nat) (hn:Xu n:=by exact ob) (hf:fB n.decls n.routines.length mq b:=by exact ob) (hz:b.sz<=1000000:=by exact ob):Zo 218 [YF n,Yq b,.i t] [] (fun r h=>∃(wr:Bool),r=.b wr/\h=[]):=by
 have key:∀k:Nat,∀(b2:Z8) (t:Int) (m2:Nat),(fB n.decls n.routines.length m2 b2)->(b2.sz<=1000000)->(b2.sz<k)->Zo 218 [YF n,Yq b2,.i t] [] (fun r h=>∃(wr:Bool),r=.b wr/\h=[]):=by
  intro k
  induction k with
  | zero=>intro b2 t m2 h1 h2 h3;omega
  | succ k ih=>intro b2 t m2 h1 h2 h3;exact Z80 n b2 t m2 hn h1 h2 fun b3 t3 m3 q1 q2 q3=>ih b3 t3 m3 q1 q2 om
 exact key (b.sz+1) b t mq hf hz om
theorem Z8i (n:ZG) (rt:YE) (i:Nat) (qz:Nat) (hn:FN n qz:=by exact ob) (hqz:qz<=100000:=by exact ob) (hr:n.routines[i]? = some rt:=by exact ob):Zo 184 [YF n,.i i] [] (fun r h=>∃(xs:LI),r=Z4 xs/\h=[]/\xs.length<=rt.lent.length/\∀v∈xs,v∈rt.lent):=by
 have hok:=FN.ok hn
 have hrl:=hn.lent rt (Y3 hr)
 have hrb:=hn.body rt (Y3 hr)
 obtain ⟨hil,_⟩:=Xh.1 hr
 have hnl:=hn.len
 refine ZE 50 Tryz.func184 (ar (iA (X8 n) fun b1=>Z1 (ar (iL (Z6 []) 0 1 fun v1=>?_))))
 refine Z1 (Y6 (ab 0 (Y0 (fun fz gz m F h=>∃(k:Nat) (ys:LI) (u:Value),(k<=rt.lent.length)/\(ys.length<=k)/\(∀v∈ys,v∈rt.lent)/\F=sF [1,2] fz [(5,ZH ys u),(6,.i k)]/\h=[Zi gz 1,.tail u 1]/\m=rt.lent.length-k) _ _ _ ⟨0,[],v1,ob,ob,(fun v hv=>by cases hv),rfl,rfl,rfl⟩ (wk [1,0] (fr (Ya fl))) ?_)))
 rintro m F h ⟨k,ys,u,Yj,Zf,ZB,rfl,rfl,rfl⟩
 refine Ys 4 [0] (Zs (Zh none (i:Int) 5 (VJ hr)) (Z0 2 (iw (Yc rt.lent) (Y2 ((k:Int)<(rt.lent.length:Int)) (fun Z9=>?_) (fun Z9=>?_)))))
 ·refine ak (aq (ab 1 (aD 18 (ZW 14 18 [0,1,2,3] [0,0] (dx 4 (Zh none (i:Int) 5 (VJ hr)) (ZW 8 13 [5,6,7,8,9] [0] (dx 10 (Zh none (i:Int) 5 (VJ hr)) (Zp 4 7 [11,12,13] ?_))))))))
  obtain ⟨x1,Z3⟩:=Zt rt.lent k om
  refine dx 14 (Zh none (k:Int) 1 (Y8 Z3)) (Zp 2 3 [15] (Z7 16 (dc 16 [] [] [] (Z7z n rt.body x1 rt.params.length (hn:=hok) (hf:=hrb.1)) ?_)))
  rintro _ _ ⟨wr1,rfl,rfl⟩
  refine Zp 0 1 [17] (de (ac (!wr1) (p:=¬(wr1=true)) (Yh Iff.rfl) (fun Zj=>?_) (fun Zj=>?_)))
  ·exact az (Zz 4 [0] (Zs (Zh none (i:Int) 5 (VJ hr)) (Z0 3 (Zs (Zh none (k:Int) 1 (Y8 Z3)) (Z0 1 (iL (Z6 [x1]) 1 1 fun v2=>ZQ 0 [(47,Z4 [x1])] (ip 2 (Z6 (ys++[x1])) (Z6 ys) (Z6 [x1]) u none 1 (YD _) (YD _) (W2 _) (by simp<;>omega) (by simp [W1,Z6]) fun v3=>Z1 (az (Z0 1 (ZD k (Z1 (ZF ⟨k+1,(ys++[x1]),v3,ob,ob,(XD ZB (Y3 Z3)),rfl,rfl,rfl⟩ (wk [2,0] (fr (ZI k fl)))))))))))))))
  exact ak (az (Z0 1 (ZD k (Z1 (ZF ⟨k+1,ys,u,ob,ob,ob,rfl,rfl,rfl⟩ (wk [0,0] (fr (ZI k fl))))))))
 exact ax 0 (ar (Zm (r2 [] [ZH ys u] ⟨ys,rfl,rfl,⟨by omega,ZB⟩⟩ (Zd.forget _ _))))
theorem Zft (s:Z5) (ih:∀(b2:Z8),(b2.sz<s.sz)->(b2.sz<=1000000000)->Zo 216 [Yq b2] [] (Yx (Yq b2))) (hz:s.sz<=1000000000):Zo 246 [X4 s] [] (Yx (X4 s)):=by
 have hkz:=K6 s
 have haz:=Jr s
 refine ZE 33 Tryz.func246 (ar (iA (Wd s) fun b1=>iA [.i 0,.i 0,.i 0,nl,nl] fun b2=>ie (ar (iL (XP []) 0 2 fun v1=>?_))))
 refine Z1 (Y6 (ab 0 (Y0 (fun fz gz m F h=>∃(k:Nat) (v:Value),(k<=s.kids.length)/\F=sF [1,2] fz [(3,Qp (s.kids.take k) v),(4,.i k)]/\h=[Zi gz 1,Zi gz 2,.tail v 2]/\m=s.kids.length-k) _ _ _ ⟨0,v1,ob,rfl,rfl,rfl⟩ (wk [1,1,0] (fc (x:=Qp [] v1) (Zd.slh _ (Yl XP rfl)) (Ya fl))) ?_)))
 rintro m F h ⟨k,v,Yj,rfl,rfl,rfl⟩
 refine Ys 3 [1] (iw (Kt s.kids) (Y2 ((k:Int)<(s.kids.length:Int)) (fun Z9=>?_) (fun Z9=>?_)))
 ·refine ak (aq (ab 1 (az (Zz 4 [1] ?_))))
  obtain ⟨x1,Z3⟩:=Zt s.kids k om
  have hks:=Qm Z3
  exact Zs (Zh none (k:Int) 2 (US Z3)) (Z0 1 (Zw [] (ih x1 ob ob) (iL [Yq x1] 1 2 fun v2=>ZQ 0 [(20,.sl [Yq x1] none)] (ip 3 (XP (s.kids.take (k+1))) (XP (s.kids.take k)) [Yq x1] v none 2 (KX _) (J6 rfl) rfl (by simp<;>omega) (by rw [V5 Z3];simp [QW]) fun v3=>Z1 (az (Z0 1 (ZD k (Z1 (ZF ⟨k+1,v3,ob,rfl,rfl,rfl⟩ (wk [2,2,0] (fr (ZI k fl))))))))))))
 refine ax 0 (aD 12 (ZW 3 12 [0,1,2,3,4,5,6,7,9] [1,1,1,1] (Z7 8 (dc 8 [] [1,1,1] [b1,b1,b1] (WV s.args) ?_))))
 rintro _ _ ⟨v4,rfl,rfl⟩
 exact Zp 1 2 [10] (Z7 11 (X3 11 1 [] [] b2 [.i s.op,.i s.num,.i s.into,ZH s.args v4,Qp (s.kids.take k) v] (de (ZY (r3 [] [.agg [.i s.op,.i s.num,.i s.into,ZH s.args v4,Qp (s.kids.take k) v]] [0] [(b2,b2)] ⟨rfl,rfl⟩ (Zd.agg (.cons (lr _) (.cons (lr _) (.cons (lr _) (.cons (Zd.forget _ _) (.cons (Zd.sl _ (Yl XP (by rw [WI om]))) .nil)))))))))))
theorem Zfq (b:Z8) (ih:∀(s2:Z5),(s2.sz<b.sz)->(s2.sz<=1000000000)->Zo 246 [X4 s2] [] (Yx (X4 s2))) (hz:b.sz<=1000000000):Zo 216 [Yq b] [] (Yx (Yq b)):=by
 have hbz:=Ux b
 refine ZE 28 Tryz.func216 (ar (iA (XV b) fun b1=>iA [nl,.i 0] fun b2=>ie (ar (iL (ZU []) 0 5 fun v1=>Zz 3 [2] (iA [nl,.i 0] fun b3=>?_)))))
 refine Zy 0 b3 [Xg [] v1,.i b.result] (ie (Y6 (ab 0 (Y0 (fun fz gz m F h=>∃(k:Nat) (v:Value),(k<=b.steps.length)/\F=sF [1,2,3] fz [(4,.i k)]/\h=[.obj b3 [Xg (b.steps.take k) v,.i b.result],Zi gz 2,Zi gz 3,.tail v 5]/\m=b.steps.length-k) _ _ _ ⟨0,v1,ob,rfl,rfl,rfl⟩ (wk [0,1,1,0] (Ya fl)) ?_))))
 rintro m F h ⟨k,v,Yj,rfl,rfl,rfl⟩
 refine Ys 3 [2] (iw (UB b.steps) (Y2 ((k:Int)<(b.steps.length:Int)) (fun Z9=>?_) (fun Z9=>?_)))
 ·refine ak (aq (ab 1 (aE 12 (ZW 7 12 [0,1,2,3,4] [0,2] ?_))))
  obtain ⟨x1,Z3⟩:=Zt b.steps k om
  have hss:=Eb Z3
  exact dx 5 (Zh none (k:Int) 5 (V8 Z3)) (Zp 5 6 [6] (Z7 7 (YH 7 [] [0] [b3] (ih x1 ob ob) (Z7 8 (dL 8 [0] [b3] [X4 x1] 1 5 fun v2=>Yt 3 3 [] [(24,.sl [X4 x1] none)] (Z7 9 (dp 9 4 [] [] (ZU (b.steps.take (k+1))) (ZU (b.steps.take k)) [X4 x1] v none 5 (XE _) (J6 rfl) rfl (by simp<;>omega) (by rw [V5 Z3];simp [U5]) fun v3=>Zp 1 2 [10] (Z7 11 (X3 11 2 [] [] b3 [Xg (b.steps.take (k+1)) v3,.i b.result] (de (az (Z0 1 (ZD k (Z1 (ZF ⟨k+1,v3,ob,rfl,rfl,rfl⟩ (wk [0,2,2,0] (ZI k fl)))))))))))))))))
 exact ax 0 (Zq 1 [0] (Zy 1 b2 [Xg (b.steps.take k) v,.i b.result] (ie (ZY (r3 [] [.agg [Xg (b.steps.take k) v,.i b.result]] [0] [(b2,b2)] ⟨rfl,rfl⟩ (Zd.agg (.cons (Zd.sl _ (Yl ZU (by rw [WI om]))) (.cons (lr _) .nil))))))))
theorem Z0o (k:Nat):(∀(s:Z5),(s.sz<=k)->(s.sz<=1000000000)->Zo 246 [X4 s] [] (Yx (X4 s)))/\(∀(b:Z8),(b.sz<=k)->(b.sz<=1000000000)->Zo 216 [Yq b] [] (Yx (Yq b))):=by
 induction k with
 | zero=>exact ⟨fun s h=>by have:=s.sz_pos;omega,fun s h=>by have:=s.sz_pos;omega⟩
 | succ k ih=>exact ⟨fun s h hz=>Zft s (fun b2 h2 h3=>ih.2 b2 om h3) hz,fun b h hz=>Zfq b (fun s2 h2 h3=>ih.1 s2 om h3) hz⟩
theorem Zfs (s:Z5) (hz:s.sz<=1000000000:=by exact ob):Zo 246 [X4 s] [] (Yx (X4 s)):=(Z0o s.sz).1 s (X0 _) hz
theorem Zfp (b:Z8) (hz:b.sz<=1000000000:=by exact ob):Zo 216 [Yq b] [] (Yx (Yq b)):=(Z0o b.sz).2 b (X0 _) hz
theorem GJ (n:ZG) (ls:List LI) (qz:Nat) (hn:FO n qz WP:=by exact ob) (hqz:qz<=100000:=by exact ob) (hls:LC n n.routines.length ls:=by exact ob):Zo 182 [YF n,DL ls] [] (fun r h=>∃(n2:ZG),r=YF n2/\h=[]/\FO n2 qz WP/\n2.routines.length=n.routines.length):=by
 have hnl:=hn.fn.len
 have Xq:=hn.fn.decls.ok
 have hll:=hls.len
 refine ZE 45 Tryz.func182 (ar (iA (X8 n) fun b1=>iA [nl,nl] fun b2=>ie (Zq 2 [1] (Zw [] (Bf n.decls) (iL (X9 []) 0 5 fun v1=>Z0 1 (iA [nl,nl] fun b3=>?_))))))
 refine Zy 0 b3 [Ye n.decls,WT [] v1] (ie (Y6 (ab 0 (Y0 (fun fz gz m F h=>∃(k:Nat) (rs:List YE) (u:Value),(k<=n.routines.length)/\(rs.length=k)/\(∀r∈rs,RF n.decls n.routines.length qz WP r)/\F=sF [1,2,4,5] fz [(6,.i k)]/\h=[.obj b3 [Ye n.decls,WT rs u],Zi gz 2,Zi gz 3,.tail u 5]/\m=n.routines.length-k) _ _ _ ⟨0,[],v1,ob,ob,(fun r hr=>by cases hr),rfl,rfl,rfl⟩ (wk [0,1,1,0] (Ya fl)) ?_))))
 rintro m F h ⟨k,rs,u,Yj,Zf,ZB,rfl,rfl,rfl⟩
 refine Ys 3 [2] (iw (TS n.routines) (Y2 ((k:Int)<(n.routines.length:Int)) (fun Z9=>?_) (fun Z9=>?_)))
 ·refine ak (aq (ab 1 (Zq 3 [2] ?_)))
  obtain ⟨x1,Z3⟩:=Zt n.routines k om
  have hrf:=hn.rf (Y3 Z3)
  have hrp:=hn.fn.ok.params_at Z3
  have hrz:=hrf.body.2
  refine Zs (Zh none (k:Int) 5 (VJ Z3)) (Z0 1 (iA [nl,nl,.i 0,nl,.i 0] fun b4=>Zy 0 b4 (JH x1) (ie (aE 20 (ZW 14 20 [0,1,2,3,5,6] [1,0] ?_)))))
  obtain ⟨x2,Zu⟩:=Zt ls k om
  have hlc:=hls.at Zu Z3
  refine dx 7 (Zh none (k:Int) 1 (Z5f Zu)) (ZW 8 13 [8,10,11,12,13] [0,0] (Z7 4 (dc 4 [] [0,0,1] [b4,b4,b3] (WV x1.params) ?_)))
  rintro _ _ ⟨v2,rfl,rfl⟩
  refine Z7 9 (dc 9 [] [0,0,1] [b4,b4,b3] (WV x2) ?_)
  rintro _ _ ⟨v3,rfl,rfl⟩
  exact Z7 14 (YH 14 [] [0,1] [b4,b3] (Zfp x1.body) (Yt 4 5 [15] [(40,.agg [Z4 x1.params,Z4 x2,.i x1.result,Vp x1.body.steps,.i x1.body.result])] (Z7 16 (dL 16 [1] [b3] (X9 [YE.mk x1.params x2 x1.result (Z8.mk x1.body.steps x1.body.result)]) 1 5 fun v4=>Yt 3 3 [] [(41,JM [YE.mk x1.params x2 x1.result (Z8.mk x1.body.steps x1.body.result)])] (Z7 17 (dp 17 7 [] [] (X9 (rs++[YE.mk x1.params x2 x1.result (Z8.mk x1.body.steps x1.body.result)])) (X9 rs) (X9 [YE.mk x1.params x2 x1.result (Z8.mk x1.body.steps x1.body.result)]) u none 5 (T9 _) (T9 _) (BA _) (by simp<;>omega) (by simp [Dt,X9]) fun v5=>Zp 1 2 [18] (Z7 19 (X3 19 5 [] [] b3 [Ye n.decls,WT (rs++[YE.mk x1.params x2 x1.result (Z8.mk x1.body.steps x1.body.result)]) v5] (de (az (Z0 1 (ZD k (Z1 (ZF ⟨k+1,(rs++[YE.mk x1.params x2 x1.result (Z8.mk x1.body.steps x1.body.result)]),v5,ob,ob,(XD ZB (by rw [Z8.eta];exact hrf.lend hlc.1 hlc.2)),rfl,rfl,rfl⟩ (wk [0,5,5,0] (ZI k fl))))))))))))))))
 exact ax 0 (Zq 1 [0] (Zy 1 b2 [Ye n.decls,WT rs u] (ie (ZY (r3 [] [.agg [Ye n.decls,WT rs u]] [0] [(b2,b2)] ⟨(ZG.mk n.decls rs),rfl,rfl,(FO.fin hn.fn om ZB)⟩ (Zd.agg (.cons (lr _) (.cons (Zd.forget _ _) .nil))))))))
theorem Z8q (n:ZG) (qz:Nat) (hn:FO n qz WP:=by exact ob) (hqz:qz<=100000:=by exact ob):Zo 167 [YF n] [] (fun r h=>∃(n2:ZG),r=YF n2/\h=[]/\FO n2 qz WP):=by
 refine ZE 33 Tryz.func167 (ar (iA (X8 n) fun b1=>iA [nl,nl] fun b2=>?_))
 refine ie (aD 6 (ZW 4 6 [0,1] [1,1] (Bw (fun fz gz F h=>∃(n21:ZG) (b3:Nat) (xs1:List LI),(LC n n.routines.length xs1)/\(FO n21 qz WP/\n21.routines.length=n.routines.length)/\F=sF [2] fz [(3,.p b3 0)]/\h=[.obj b3 (X8 n21),Zi gz 0,Zi gz 1]) ?_ ?_)))
 ·refine Uj 2 4 ?_ ?_
  ·refine dc 2 [] [1] [b1] (P5 n qz (hn:=hn.fn)) ?_
   rintro _ _ ⟨xs1,rfl,rfl,Y4⟩
   refine Uj 3 4 ?_ ?_
   ·refine dc 3 [] [] [] (GJ n xs1 qz (hls:=(by first|assumption|(rw [<-hjl];exact Xs)))) ?_
    rintro _ _ ⟨n21,rfl,rfl,Yr⟩
    have hwl:=Yr
    exact Z7 4 (dA 4 [] [] [nl,nl] fun b3=>Z7 5 (X3 5 0 [] [] b3 (X8 n21) (de (ZJ ⟨_,b3,_,(by assumption),(by assumption),rfl,rfl⟩ (Zv 3 fl)))))
   refine dA 4 [1] [b1] [nl,nl] fun b4=>Z7 3 (dc 3 [] [] [] (GJ n xs1 qz (hls:=(by first|assumption|(rw [<-hjl];exact Xs)))) ?_)
   rintro _ _ ⟨n22,rfl,rfl,YR⟩
   have hwl:=YR
   exact Z7 5 (X3 5 0 [] [] b4 (X8 n22) (de (ZJ ⟨_,b4,_,(by assumption),(by assumption),rfl,rfl⟩ (Zv 3 fl))))
  refine dA 4 [1,1] [b1,b1] [nl,nl] fun b5=>Z7 2 (dc 2 [] [2] [b1] (P5 n qz (hn:=hn.fn)) ?_)
  rintro _ _ ⟨xs2,rfl,rfl,YV⟩
  refine Z7 3 (dc 3 [] [] [] (GJ n xs2 qz (hls:=(by first|assumption|(rw [<-hjl];exact Xs)))) ?_)
  rintro _ _ ⟨n23,rfl,rfl,Xc⟩
  have hwl:=Xc
  exact Z7 5 (X3 5 0 [] [] b5 (X8 n23) (de (ZJ ⟨_,b5,_,(by assumption),(by assumption),rfl,rfl⟩ (Zv 3 fl))))
 rintro F h ⟨n21,b3,xs1,Y4,Yr,rfl,rfl⟩
 have hwl:=Yr
 refine Y6 (ab 0 (Y0 (fun fz gz m F h=>∃(k:Nat) (nn:ZG),(k<=13)/\(FO nn qz WP)/\F=sF [2,3] fz [(4,.i k)]/\h=[.obj b3 (X8 nn),Zi gz 1]/\m=13-k) _ _ _ ⟨0,n21,ob,hwl.1,rfl,rfl,rfl⟩ (wk [0,0] (Ya fl)) ?_))
 rintro m F h ⟨k,nn,Yj,Zf,rfl,rfl,rfl⟩
 refine Xd (Y2 ((k:Int)<=12) (fun Z9=>?_) (fun Z9=>?_))
 ·refine ak (aq (ab 1 (ar (iL (Vk []) 0 1 fun v1=>?_))))
  refine Z1 (Y6 (ab 2 (Y0 (fun fz gz m F h=>∃(j:Nat) (ls:List LI) (u:Value),(j<=nn.routines.length)/\(LC nn j ls)/\(ls.length=j)/\F=sF [2,3,4] fz [(5,M9 ls u),(6,.i j)]/\h=[Zi gz 1,Zi gz 2,.tail u 1]/\m=nn.routines.length-j) _ _ _ ⟨0,[],v1,ob,LC.nil,ob,rfl,rfl,rfl⟩ (wk [1,1,0] (fr (Ya fl))) ?_)))
  rintro m F h ⟨j,ls,u,VA,Xs,XT,rfl,rfl,rfl⟩
  refine Ys 3 [0] (iw (TS nn.routines) (Y2 ((j:Int)<(nn.routines.length:Int)) (fun Zj=>?_) (fun Zj=>?_)))
  ·obtain ⟨rt,hrt⟩:=Zt nn.routines j om
   have hrl:=(Zf.rf (Y3 hrt)).lent
   have hnl4:=Zf.fn.len
   refine ak (aq (ab 3 (az (Zz 3 [0] (ic [] (Z8i nn rt j qz (hn:=Zf.fn) (hr:=hrt)) ?_)))))
   rintro _ _ ⟨xs3,rfl,rfl,XK⟩
   have hkl:=XK
   exact iL (Vk [xs3]) 1 1 fun v2=>ZQ 0 [(27,DL [xs3])] (ip 3 (Vk (ls++[xs3])) (Vk ls) (Vk [xs3]) u none 1 (Ds _) (Ds _) (IW _) (by simp<;>omega) (by simp [IV,Vk]) fun v3=>Z1 (az (Z0 1 (ZD j (Z1 (ZF ⟨j+1,(ls++[xs3]),v3,ob,(Xs.snoc om (fun r hr v hv=>by rw [hrt] at hr;cases hr;exact hrl.2 v (hkl.2 v hv))),ob,rfl,rfl,rfl⟩ (wk [2,2,0] (fr (ZI j fl)))))))))
  have hjl:j=nn.routines.length:=by omega
  refine ax 2 (az (QI 2 [(30,DL ls)] [0] (ic [] (GJ nn ls qz (hls:=(by first|assumption|(rw [<-hjl];exact Xs)))) ?_)))
  rintro _ _ ⟨n24,rfl,rfl,Wc⟩
  have hwl:=Wc
  exact Zy 0 b3 (X8 n24) (ie (az (Z0 1 (ZD k (Z1 (ZF ⟨k+1,n24,ob,hwl.1,rfl,rfl,rfl⟩ (wk [0,0] (ZI k fl))))))))
 exact ax 0 (Zq 1 [0] (Zy 1 b2 (X8 nn) (ie (ZY (r3 [] [YF nn] [0] [(b2,b2)] ⟨nn,rfl,rfl,(by first|exact Zf|exact hwl.1)⟩ (lr _))))))
theorem EM (xs:LI) (y:Int) (hl:xs.length<=1000000000:=by exact ob):Zo 129 [Z4 xs,.i y] [] (fun r h=>∃(v:Value),r=ZH (Uf xs y) v/\h=[.tail v 1]):=by
 refine ZE 49 Tryz.func129 (Y1 (ar (iL (Z6 []) 0 1 fun v1=>?_)))
 refine Z1 (Y1 (Y6 (ab 0 (Y0 (fun fz gz m F h=>∃(k:Nat) (acc:LI) (d:Bool) (v:Value),(k<=xs.length)/\(acc.length<=k+(if d=true then 1 else 0))/\(acc++Qk d (xs.drop k) y=Uf xs y)/\F=sF [0,1] fz [(5,ZH acc v),(6,.b d),(7,.i k)]/\h=[.tail v 1]/\m=xs.length-k) _ _ _ ⟨0,[],false,v1,ob,(by simp),rfl,rfl,rfl,rfl⟩ (wk [0] (fw (Ya fl))) ?_))))
 rintro m F h ⟨k,acc,d,v,Yj,Zf,ZB,rfl,rfl,rfl⟩
 refine YM 2 (iw (Yc xs) (Y2 ((k:Int)<(xs.length:Int)) (fun Z9=>?_) (fun Z9=>?_)))
 ·obtain ⟨x1,Z3⟩:=Zt xs k om
  have hil:acc.length<=k+1:=V6 Zf (by split<;>omega)
  refine ak (aq (ab 1 (Xd (Xp [0,1,5,6,7] [(24,.b ((!d)&&(decide (x1>=y))))] (fun gz=>gz) ?_ ?_))))
  ·refine Z0 3 (ib (b:=(!d)) 17 (fun Zc=>?_) (fun Zc=>?_))
   ·exact Z0 2 (Zs (Zh none (k:Int) 1 (Y8 Z3)) (Z1 (wk [0] (Zl (decide (x1>=y)) Zc fl))))
   exact Z1 (wk [0] (Zl false Zc fl))
  refine Xv (fun fz gz F h=>∃(acc2:LI) (d2:Bool) (w:Value),((acc2=acc/\d2=d/\(d=true∨¬x1>=y))∨(acc2=acc++[y]/\d2=true/\¬d=true/\x1>y)∨(acc2=acc/\d2=true/\¬d=true/\x1=y))/\(acc2.length<=k+(if d2=true then 1 else 0))/\(acc2.length<=k+1)/\F=sF [0,1,7] fz [(5,ZH acc2 w),(6,.b d2)]/\h=[.tail w 1]) ?_ ?_
  ·refine ac ((!d)&&(decide (x1>=y))) (p:=(¬(d=true))/\(x1>=y)) (Yu (Yh Iff.rfl) dq) (fun Zj=>?_) (fun Zj=>?_)
   ·refine YM 2 (Zs (Zh none (k:Int) 1 (Y8 Z3)) (Z1 (Xv (fun fz gz F h=>∃(w3:Value),F=sF [0,1,7] fz [(5,ZH (if x1>y then (acc++[y]) else acc) w3)]/\h=[.tail w3 1]) ?_ ?_)))
    ·refine WA (x1>y) (fun ZA=>?_) (fun ZA=>?_)
     ·exact az (Z0 2 (iL (Z6 [y]) 1 1 fun v2=>ZQ 0 [(33,Z4 [y])] (ip 1 (Z6 (acc++[y])) (Z6 acc) (Z6 [y]) v none 1 (YD _) (YD _) (W2 _) (by simp<;>omega) (by simp [W1,Z6]) fun v3=>Z1 (ZJ ⟨v3,rfl,rfl⟩ (wk [0] (fc (x:=ZH (acc++[y]) v3) (Zd.slh _ (Yl Z6 (by first|rfl|(rw [Zk ZA])|(rw [Za ZA])|(simp [ZA];done)|(rw [Yg];simp [ZA];done)|omega))) fl))))))
     exact ak (ZJ ⟨v,rfl,rfl⟩ (wk [0] (fc (x:=ZH acc v) (Zd.slh _ (Yl Z6 (by first|rfl|(rw [Zk ZA])|(rw [Za ZA])|(simp [ZA];done)|(rw [Yg];simp [ZA];done)|omega))) fl)))
    rintro F h ⟨w3,rfl,rfl⟩
    exact Vv (ZJ ⟨(if x1>y then (acc++[y]) else acc),true,w3,(if h:x1>y then (by rw [Zk h];exact .inr (.inl ⟨rfl,rfl,Zj.1,h⟩)) else (by rw [Za h];exact .inr (.inr ⟨rfl,rfl,Zj.1,by have:=Zj.2;omega⟩))),(by have h1:=Zf;rw [Za Zj.1] at h1;split<;>(simp<;>omega)),(by have h1:=Zf;rw [Za Zj.1] at h1;split<;>(simp<;>omega)),rfl,rfl⟩ (wk [0] fl))
   exact ak (ZJ ⟨acc,d,v,(.inl ⟨rfl,rfl,by by_cases q:d=true;exact .inl q;exact .inr (fun z=>Zj ⟨q,z⟩)⟩),Zf,hil,rfl,rfl⟩ (wk [0] fl))
  rintro F h ⟨acc2,d2,w,VD,B8,LO,rfl,rfl⟩
  exact az (Z0 3 (Zs (Zh none (k:Int) 1 (Y8 Z3)) (Z0 1 (iL (Z6 [x1]) 1 1 fun v4=>ZQ 0 [(40,Z4 [x1])] (ip 1 (Z6 (acc2++[x1])) (Z6 acc2) (Z6 [x1]) w none 1 (YD _) (YD _) (W2 _) (by simp<;>omega) (by simp [W1,Z6]) fun v5=>Z1 (az (Z0 1 (ZD k (Z1 (ZF ⟨k+1,(acc2++[x1]),d2,v5,ob,(by simp only [ZX,Yo,YC];omega),(Zal Z3 ZB VD),rfl,rfl,rfl⟩ (wk [0] (fw (ZI k fl)))))))))))))
 have hil:acc.length<=k+1:=V6 Zf (by split<;>omega)
 refine ax 0 (Y6 (Xv (fun fz gz F h=>∃(w4:Value),F=sF [] fz [(5,ZH (if d=true then acc else (acc++[y])) w4)]/\h=[.tail w4 1]) ?_ ?_))
 ·refine ac (!d) (p:=¬(d=true)) (Yh Iff.rfl) (fun Yi=>?_) (fun Yi=>?_)
  ·exact az (Z0 2 (iL (Z6 [y]) 1 1 fun v6=>ZQ 0 [(46,Z4 [y])] (ip 1 (Z6 (acc++[y])) (Z6 acc) (Z6 [y]) v none 1 (YD _) (YD _) (W2 _) (by simp<;>omega) (by simp [W1,Z6]) fun v7=>Z1 (ZJ ⟨v7,rfl,rfl⟩ (wk [0] (fc (x:=ZH (acc++[y]) v7) (Zd.slh _ (Yl Z6 (by first|rfl|(rw [Zk Yi])|(rw [Za Yi])|(simp [Yi];done)|(rw [Yg];simp [Yi];done)|omega))) fl))))))
  exact ak (ZJ ⟨v,rfl,rfl⟩ (wk [0] (fc (x:=ZH acc v) (Zd.slh _ (Yl Z6 (by first|rfl|(rw [Zk Yi])|(rw [Za Yi])|(simp [Yi];done)|(rw [Yg];simp [Yi];done)|omega))) fl)))
 rintro F h ⟨w4,rfl,rfl⟩
 exact ar (Zm (r2 [0] [ZH (if d=true then acc else (acc++[y])) w4] ⟨w4,rfl,rfl⟩ (Zd.slh _ (Yl Z6 (Zak om ZB)))))
theorem Pl (xs:LI) (y:Int) (hl:xs.length<=1000000000:=by exact ob):Zo 88 [Z4 xs,.i y] [] (fun r h=>∃(v:Value),r=ZH (TY xs y) v/\h=[.tail v 1]):=by
 refine ZE 28 Tryz.func88 (Y1 (ar (iL (Z6 []) 0 1 fun v1=>?_)))
 refine Z1 (Y6 (ab 0 (Y0 (fun fz gz m F h=>∃(k:Nat) (acc:LI) (v:Value),(k<=xs.length)/\(acc.length<=k)/\(acc++TY (xs.drop k) y=TY xs y)/\F=sF [0,1] fz [(5,ZH acc v),(6,.i k)]/\h=[.tail v 1]/\m=xs.length-k) _ _ _ ⟨0,[],v1,ob,ob,rfl,rfl,rfl,rfl⟩ (wk [0] (fr (Ya fl))) ?_)))
 rintro m F h ⟨k,acc,v,Yj,Zf,ZB,rfl,rfl,rfl⟩
 refine YM 2 (iw (Yc xs) (Y2 ((k:Int)<(xs.length:Int)) (fun Z9=>?_) (fun Z9=>?_)))
 ·refine ak (aq (ab 1 (Yf 2 ?_)))
  obtain ⟨x1,Z3⟩:=Zt xs k om
  refine Zs (Zh none (k:Int) 1 (Y8 Z3)) (Z1 (AO (fun fz gz F h=>∃(w:Value),F=sF [0,1,6] fz [(5,ZH (if x1≠y then (acc++[x1]) else acc) w)]/\h=[.tail w 1]) (fun _ _=>rfl) ?_ ?_))
  ·refine ac (x1 != y) Yp (fun Zj=>?_) (fun Zj=>?_)
   ·exact az (Z0 3 (Zs (Zh none (k:Int) 1 (Y8 Z3)) (Z0 1 (iL (Z6 [x1]) 1 1 fun v2=>ZQ 0 [(25,Z4 [x1])] (ip 1 (Z6 (acc++[x1])) (Z6 acc) (Z6 [x1]) v none 1 (YD _) (YD _) (W2 _) (by simp<;>omega) (by simp [W1,Z6]) fun v3=>Z1 (ZJ ⟨v3,rfl,rfl⟩ (wk [0] (fc (x:=ZH (acc++[x1]) v3) (Zd.slh _ (Yl Z6 (by first|rfl|(rw [Zk Zj])|(rw [Za Zj])|(simp [Zj];done)|(rw [Yg];simp [Zj];done)|omega))) fl))))))))
   exact ak (ZJ ⟨v,rfl,rfl⟩ (wk [0] (fc (x:=ZH acc v) (Zd.slh _ (Yl Z6 (by first|rfl|(rw [Zk Zj])|(rw [Za Zj])|(simp [Zj];done)|(rw [Yg];simp [Zj];done)|omega))) fl)))
  rintro F h ⟨w,rfl,rfl⟩
  exact az (Z0 1 (ZD k (Z1 (ZF ⟨k+1,(if x1≠y then (acc++[x1]) else acc),w,ob,(by split<;>(try simp)<;>omega),(Zd0 Z3 ZB),rfl,rfl,rfl⟩ (wk [0] (fr (ZI k fl)))))))
 exact ax 0 (ar (Zm (r2 [0] [ZH acc v] ⟨v,rfl,rfl⟩ (Zd.slh _ (Yl Z6 (Zcz om ZB))))))
theorem Zfj (s:Z5) (q:Int) (xs:LI) (ih:∀(b2:Z8) (q:Int) (k2:Nat) (xs2:LI),(b2.sz<s.sz)->(k2<=b2.steps.length)->(xs2.length+b2.sz<=1000000000)->Zo 219 [Yq b2,.i q,.i k2,Z4 xs2] [] (Yx (Z4 (UN q (UX q (b2.steps.drop k2) xs2) b2.result)))) (hz:xs.length+s.sz<=1000000000):Zo 249 [X4 s,.i q,Z4 xs] [] (Yx (Z4 (JR q s xs))):=by
 have hkz:=K6 s
 have haz:=Jr s
 have hse:=s.sz_eq
 refine ZE 58 Tryz.func249 (ar (iA (Wd s) fun b1=>Z1 (Ys 2 [0] (Zw [] (Z0p s.op) (ie (ac (YO s.op) Iff.rfl (fun Z9=>?_) (fun Z9=>?_)))))))
 ·exact ar (Zm (ZM (Z4 xs) (Zd.sl _ (Yl Z6 (by rw [Z1r,Zk (by assumption)])))))
 refine ak (Y6 (ab 0 (Y0 (fun fz gz m F h=>∃(j:Nat) (ys:LI),(j<=s.args.length)/\(ys.length<=xs.length+j)/\(QM q (s.args.drop j) ys=QM q s.args xs)/\F=sF [1,3] fz [(2,Z4 ys),(7,.i j)]/\h=gz/\m=s.args.length-j) _ _ _ ⟨0,xs,ob,ob,rfl,rfl,rfl,rfl⟩ (wk [0] (fr (Ya fl))) ?_)))
 rintro m F h ⟨j,ys,Yj,Zf,ZB,rfl,rfl,rfl⟩
 refine Ys 3 [0] (iw (Yc s.args) (Y2 ((j:Int)<(s.args.length:Int)) (fun Zj=>?_) (fun Zj=>?_)))
 ·refine ak (aq (ab 1 (Zq 3 [0] ?_)))
  obtain ⟨x1,Z3⟩:=Zt s.args j om
  refine Zs (Zh none (j:Int) 1 (Y8 Z3)) (Xp [1,2,3,7] [(34,.b ((decide (x1>=0))&&(decide (x1<q))))] (fun gz=>gz) ?_ ?_)
  ·refine Z0 3 (ib (b:=(decide (x1>=0))) 26 (fun Zc=>?_) (fun Zc=>?_))
   ·exact Zz 3 [0] (Zs (Zh none (j:Int) 1 (Y8 Z3)) (Z1 (wk [0] (Zl (decide (x1<q)) Zc fl))))
   exact Z1 (wk [0] (Zl false Zc fl))
  refine AO (fun fz gz F h=>F=sF [1,3,7] fz [(2,Z4 (UN q ys x1))]/\h=gz) (fun _ _=>rfl) ?_ ?_
  ·refine ac ((decide (x1>=0))&&(decide (x1<q))) (p:=(x1>=0)/\(x1<q)) (Yu dq dq) (fun ZA=>?_) (fun ZA=>?_)
   ·refine az (Zz 4 [0] (Zs (Zh none (j:Int) 1 (Y8 Z3)) (Z0 1 (ic [] (EM ys x1) ?_))))
    rintro _ _ ⟨v1,rfl,rfl⟩
    exact Z1 (ZJ ⟨rfl,rfl⟩ (wk [1] (fc (x:=ZH (Uf ys x1) v1) (Zd.sl _ (Yl Z6 (by rw [UN,Zk (by assumption)]))) fl)))
   exact ak (ZJ ⟨rfl,rfl⟩ (wk [0] (fc (x:=Z4 ys) (Zd.sl _ (Yl Z6 (by rw [UN,Za (by assumption)]))) fl)))
  rintro F h ⟨rfl,rfl⟩
  exact az (Z0 1 (ZD j (Z1 (ZF ⟨j+1,(UN q ys x1),ob,(by have:=I1 (n:=q) ys x1;omega),(Zhw Z3 ZB),rfl,rfl,rfl⟩ (wk [0] (fr (ZI j fl)))))))
 have hA:QM q s.args xs=ys:=(Zhv om ZB).symm
 refine ax 0 (Y6 (ab 2 (Y0 (fun fz gz m F h=>∃(j:Nat) (zs:LI),(j<=s.kids.length)/\(zs.length<=xs.length+s.args.length+YW (s.kids.take j))/\(Jh q (s.kids.drop j) zs=Jh q s.kids (QM q s.args xs))/\F=sF [1,3] fz [(2,Z4 zs),(8,.i j)]/\h=gz/\m=s.kids.length-j) _ _ _ ⟨0,ys,ob,(by rw [List.take_zero,YW];omega),(by rw [hA];rfl),rfl,rfl,rfl⟩ (wk [0] (fr (Ya fl))) ?_)))
 rintro m F h ⟨j,zs,VA,Xs,XT,rfl,rfl,rfl⟩
 refine Ys 3 [0] (iw (Kt s.kids) (Y2 ((j:Int)<(s.kids.length:Int)) (fun Yi=>?_) (fun Yi=>?_)))
 ·refine ak (aq (ab 3 (az (Zz 3 [0] ?_))))
  obtain ⟨x2,Zu⟩:=Zt s.kids j om
  have hks:=Qm Zu
  have hbt:=Gc Zu
  have hbx:=Ga Zu
  have hul:=I0 (n:=q) x2 zs
  exact Zs (Zh none (j:Int) 2 (US Zu)) (Z0 3 (Zw [] (ih x2 q 0 zs ob ob ob) (Z1 (az (Z0 1 (ZD j (Z1 (ZF ⟨j+1,(UW q x2 zs),ob,om,(Zhy Zu XT),rfl,rfl,rfl⟩ (wk [0] (fc (x:=Z4 (UN q (UX q (x2.steps.drop 0) zs) x2.result)) (Zd.sl _ (Yl Z6 (by rw [Z1p];rfl))) (ZI j fl)))))))))))
 exact ax 2 (ar (Zm (ZM (Z4 zs) (Zd.sl _ (Yl Z6 (by rw [Z1r,Za (by assumption)];exact (Zhx om XT)))))))
theorem Zfk (b:Z8) (q:Int) (k0:Nat) (xs:LI) (ih:∀(s2:Z5) (q:Int) (xs2:LI),(s2.sz<b.sz)->(xs2.length+s2.sz<=1000000000)->Zo 249 [X4 s2,.i q,Z4 xs2] [] (Yx (Z4 (JR q s2 xs2)))) (hk:k0<=b.steps.length) (hz:xs.length+b.sz<=1000000000):Zo 219 [Yq b,.i q,.i k0,Z4 xs] [] (Yx (Z4 (UN q (UX q (b.steps.drop k0) xs) b.result))):=by
 have hbz:=Ux b
 have hbe:=b.sz_eq
 have hsd:=Z14 b.steps k0
 refine ZE 40 Tryz.func219 (ar (iA (XV b) fun b1=>?_))
 refine Z1 (Y6 (ab 0 (Y0 (fun fz gz m F h=>∃(k:Nat) (ys:LI),(k<=b.steps.length)/\(ys.length+Yw (b.steps.drop k)<=xs.length+Yw (b.steps.drop k0))/\(UX q (b.steps.drop k) ys=UX q (b.steps.drop k0) xs)/\F=sF [1,4] fz [(3,Z4 ys),(9,.i k)]/\h=gz/\m=b.steps.length-k) _ _ _ ⟨k0,xs,ob,(X0 _),rfl,rfl,rfl,rfl⟩ (wk [0] fl) ?_)))
 rintro m F h ⟨k,ys,Yj,Zf,ZB,rfl,rfl,rfl⟩
 refine Ys 3 [0] (iw (UB b.steps) (Y2 ((k:Int)<(b.steps.length:Int)) (fun Z9=>?_) (fun Z9=>?_)))
 ·refine ak (aq (ab 1 (az (Zz 3 [0] ?_))))
  obtain ⟨x1,Z3⟩:=Zt b.steps k om
  have hss:=Eb Z3
  have hsd1:=Z13 Z3
  have hul:=Z1s (n:=q) x1 ys
  exact Zs (Zh none (k:Int) 5 (V8 Z3)) (Z0 3 (Zw [] (ih x1 q ys ob ob) (Z1 (az (Z0 1 (ZD k (Z1 (ZF ⟨k+1,(JR q x1 ys),ob,ob,(Zi0 Z3 ZB),rfl,rfl,rfl⟩ (wk [0] (fr (ZI k fl)))))))))))
 refine ax 0 (Xd (Xp [3,4] [(34,.b ((decide (b.result>=0))&&(decide (b.result<q))))] (fun gz=>gz) ?_ ?_))
 ·refine Zz 4 [0] (ib (b:=(decide (b.result>=0))) 29 (fun Zc=>?_) (fun Zc=>?_))
  ·exact V4 [0] (wk [0] (Zl (decide (b.result<q)) Zc fl))
  exact Z1 (wk [0] (Zl false Zc fl))
 refine Xv (fun fz gz F h=>F=sF [] fz [(3,Z4 (UN q ys b.result))]/\h=[]) ?_ ?_
 ·refine ac ((decide (b.result>=0))&&(decide (b.result<q))) (p:=(b.result>=0)/\(b.result<q)) (Yu dq dq) (fun Zj=>?_) (fun Zj=>?_)
  ·refine az (Zz 3 [0] (ic [] (EM ys b.result) ?_))
   rintro _ _ ⟨v1,rfl,rfl⟩
   exact Z1 (ZJ ⟨rfl,rfl⟩ (wk [] (fc (x:=ZH (Uf ys b.result) v1) (Zd.sl _ (Yl Z6 (by rw [UN,Zk (by assumption)]))) fl)))
  exact ak (ZJ ⟨rfl,rfl⟩ (wk [] (fc (x:=Z4 ys) (Zd.sl _ (Yl Z6 (by rw [UN,Za (by assumption)]))) fl)))
 rintro F h ⟨rfl,rfl⟩
 exact ar (Zm (ZM (Z4 (UN q ys b.result)) (Zd.sl _ (Yl Z6 (by rw [Zhz om ZB])))))
theorem Zgp (k:Nat):(∀(s:Z5) (q:Int) (xs:LI),(s.sz<=k)->(xs.length+s.sz<=1000000000)->Zo 249 [X4 s,.i q,Z4 xs] [] (Yx (Z4 (JR q s xs))))/\(∀(b:Z8) (q:Int) (k0:Nat) (xs:LI),(b.sz<=k)->(k0<=b.steps.length)->(xs.length+b.sz<=1000000000)->Zo 219 [Yq b,.i q,.i k0,Z4 xs] [] (Yx (Z4 (UN q (UX q (b.steps.drop k0) xs) b.result)))):=by
 induction k with
 | zero=>exact ⟨fun s q xs h=>by have:=s.sz_pos;omega,fun b q k0 xs h=>by have:=b.sz_pos;omega⟩
 | succ k ih=>exact ⟨fun s q xs h hz=>Zfj s q xs (fun b2 q k2 xs2 h2 hk h3=>ih.2 b2 q k2 xs2 om hk h3) hz,fun b q k0 xs h hk hz=>Zfk b q k0 xs (fun s2 q xs2 h2 h3=>ih.1 s2 q xs2 om h3) hk hz⟩
theorem Z0i (b:Z8) (q:Int) (k0:Nat) (xs:LI) (hk:k0<=b.steps.length:=by exact ob) (hz:xs.length+b.sz<=1000000000:=by exact ob):Zo 219 [Yq b,.i q,.i k0,Z4 xs] [] (Yx (Z4 (UN q (UX q (b.steps.drop k0) xs) b.result))):=(Zgp b.sz).2 b q k0 xs (X0 _) hk hz
theorem Z0y (b:Z8) (q:Int) (hz:b.sz<=100000000:=by exact ob):Zo 185 [Yq b,.i q] [] (Yx (Z4 (UW q b []))):=by
 exact ZE 9 Tryz.func185 (ar (iA (XV b) fun b1=>Z1 (Zq 2 [0] (iL (Z6 []) 0 1 fun v1=>ZQ 0 [(7,Z4 [])] (Zw [] (Z0i b q 0 [] (hk:=(Q9 _))) (Zm (ZM (Z4 (UN q (UX q (b.steps.drop 0) []) b.result)) (Zd.sl _ (Yl Z6 (by rw [Z1p];rfl))))))))))
theorem Z9c (xs:LI) (ys:LI) (hz:xs.length+ys.length<=100000000:=by exact ob):Zo 86 [Z4 xs,Z4 ys] [] (fun r h=>∃(zs:LI),r=Z4 zs/\h=[]/\zs.length<=xs.length+ys.length):=by
 refine ZE 22 Tryz.func86 (Y1 (Yf 1 (ic [] (WV xs) ?_)))
 rintro _ _ ⟨v1,rfl,rfl⟩
 refine Z1 (Y6 (ab 0 (Y0 (fun fz gz m F h=>∃(k:Nat) (zs:LI),(k<=ys.length)/\(zs.length<=xs.length+k)/\F=sF [1] fz [(5,Z4 zs),(6,.i k)]/\h=[]/\m=ys.length-k) _ _ _ ⟨0,xs,ob,ob,rfl,rfl,rfl⟩ (wk [] (fc (x:=ZH xs v1) (Zd.forget _ _) (Ya fl))) ?_)))
 rintro m F h ⟨k,zs,Yj,Zf,rfl,rfl,rfl⟩
 refine YM 2 (iw (Yc ys) (Y2 ((k:Int)<(ys.length:Int)) (fun Z9=>?_) (fun Z9=>?_)))
 ·refine ak (aq (ab 1 (az (Z0 3 ?_))))
  obtain ⟨x1,Z3⟩:=Zt ys k om
  refine Zs (Zh none (k:Int) 1 (Y8 Z3)) (Z0 1 (ic [] (EM zs x1) ?_))
  rintro _ _ ⟨v2,rfl,rfl⟩
  exact Z1 (az (Z0 1 (ZD k (Z1 (ZF ⟨k+1,(Uf zs x1),ob,(by have:=DG zs x1;omega),rfl,rfl,rfl⟩ (wk [] (fc (x:=ZH (Uf zs x1) v2) (Zd.forget _ _) (ZI k fl))))))))
 exact ax 0 (ar (Zm (r1 [] ⟨zs,rfl,rfl,ob⟩)))
theorem P7 (xs:LI) (ys:LI) (hz:xs.length<=100000000:=by exact ob) (hy:ys.length<=100000000:=by exact ob):Zo 252 [Z4 xs,Z4 ys] [] (fun r h=>∃(zs:LI) (v:Value),r=ZH zs v/\h=[.tail v 1]/\zs.length<=xs.length/\∀z∈zs,z∈xs):=by
 refine ZE 28 Tryz.func252 (Y1 (ar (iL (Z6 []) 0 1 fun v1=>?_)))
 refine Z1 (Y6 (ab 0 (Y0 (fun fz gz m F h=>∃(k:Nat) (zs:LI) (u:Value),(k<=xs.length)/\(zs.length<=k)/\(∀z∈zs,z∈xs)/\F=sF [0,1] fz [(5,ZH zs u),(6,.i k)]/\h=[.tail u 1]/\m=xs.length-k) _ _ _ ⟨0,[],v1,ob,ob,(fun z hz=>by cases hz),rfl,rfl,rfl⟩ (wk [0] (fr (Ya fl))) ?_)))
 rintro m F h ⟨k,zs,u,Yj,Zf,ZB,rfl,rfl,rfl⟩
 refine YM 2 (iw (Yc xs) (Y2 ((k:Int)<(xs.length:Int)) (fun Z9=>?_) (fun Z9=>?_)))
 ·refine ak (aq (ab 1 (Yf 3 ?_)))
  obtain ⟨x1,Z3⟩:=Zt xs k om
  refine Zs (Zh none (k:Int) 1 (Y8 Z3)) (Z0 1 (Zw [] (UM ys x1) (ie (WA (x1∈ys) (fun Zj=>?_) (fun Zj=>?_)))))
  ·exact az (Z0 3 (Zs (Zh none (k:Int) 1 (Y8 Z3)) (Z0 1 (iL (Z6 [x1]) 1 1 fun v2=>ZQ 0 [(25,Z4 [x1])] (ip 1 (Z6 (zs++[x1])) (Z6 zs) (Z6 [x1]) u none 1 (YD _) (YD _) (W2 _) (by simp<;>omega) (by simp [W1,Z6]) fun v3=>Z1 (az (Z0 1 (ZD k (Z1 (ZF ⟨k+1,(zs++[x1]),v3,ob,ob,(by first|exact ZB|exact XD ZB (Y3 Z3)),rfl,rfl,rfl⟩ (wk [0] (fr (ZI k fl)))))))))))))
  exact ak (az (Z0 1 (ZD k (Z1 (ZF ⟨k+1,zs,u,ob,ob,(by first|exact ZB|exact XD ZB (Y3 Z3)),rfl,rfl,rfl⟩ (wk [0] (fr (ZI k fl))))))))
 exact ax 0 (ar (Zm (r1 [0] ⟨zs,u,rfl,rfl,⟨by omega,ZB⟩⟩)))
theorem Lq (xs:LI) (q:Int) (hz:xs.length<=100000000:=by exact ob):Zo 266 [Z4 xs,.i q] [] (fun r h=>∃(zs:LI) (v:Value),r=ZH zs v/\h=[.tail v 1]/\zs.length<=xs.length/\∀z∈zs,z∈xs):=by
 refine ZE 28 Tryz.func266 (Y1 (ar (iL (Z6 []) 0 1 fun v1=>?_)))
 refine Z1 (Y6 (ab 0 (Y0 (fun fz gz m F h=>∃(k:Nat) (zs:LI) (u:Value),(k<=xs.length)/\(zs.length<=k)/\(∀z∈zs,z∈xs)/\F=sF [0,1] fz [(5,ZH zs u),(6,.i k)]/\h=[.tail u 1]/\m=xs.length-k) _ _ _ ⟨0,[],v1,ob,ob,(fun z hz=>by cases hz),rfl,rfl,rfl⟩ (wk [0] (fr (Ya fl))) ?_)))
 rintro m F h ⟨k,zs,u,Yj,Zf,ZB,rfl,rfl,rfl⟩
 refine YM 2 (iw (Yc xs) (Y2 ((k:Int)<(xs.length:Int)) (fun Z9=>?_) (fun Z9=>?_)))
 ·refine ak (aq (ab 1 (Yf 2 ?_)))
  obtain ⟨x1,Z3⟩:=Zt xs k om
  refine Zs (Zh none (k:Int) 1 (Y8 Z3)) (Y2 (x1<q) (fun Zj=>?_) (fun Zj=>?_))
  ·exact az (Z0 3 (Zs (Zh none (k:Int) 1 (Y8 Z3)) (Z0 1 (iL (Z6 [x1]) 1 1 fun v2=>ZQ 0 [(25,Z4 [x1])] (ip 1 (Z6 (zs++[x1])) (Z6 zs) (Z6 [x1]) u none 1 (YD _) (YD _) (W2 _) (by simp<;>omega) (by simp [W1,Z6]) fun v3=>Z1 (az (Z0 1 (ZD k (Z1 (ZF ⟨k+1,(zs++[x1]),v3,ob,ob,(by first|exact ZB|exact XD ZB (Y3 Z3)),rfl,rfl,rfl⟩ (wk [0] (fr (ZI k fl)))))))))))))
  exact ak (az (Z0 1 (ZD k (Z1 (ZF ⟨k+1,zs,u,ob,ob,(by first|exact ZB|exact XD ZB (Y3 Z3)),rfl,rfl,rfl⟩ (wk [0] (fr (ZI k fl))))))))
 exact ax 0 (ar (Zm (r1 [0] ⟨zs,u,rfl,rfl,⟨by omega,ZB⟩⟩)))
theorem C3 (op:Int) (v:Int) :Zo 153 [.i op,.i v] [] (Yx (X4 (Zx op v))):=by
 exact ZE 10 Tryz.func153 (ar (iA [.i 0,.i 0,.i 0,nl,nl] fun b1=>ie (Yf 2 (iL (Z6 [v]) 1 1 fun v1=>iL (XP []) 0 2 fun v2=>Z0 1 (Zy 2 b1 [.i op,.i 0,.i 0,ZH [v] v1,Qp [] v2] (ie (ZY (r3 [] [.agg [.i op,.i 0,.i 0,ZH [v] v1,Qp [] v2]] [0] [(b1,b1)] ⟨rfl,rfl⟩ (Zd.agg (.cons li (.cons li (.cons li (.cons (Zd.sl _ (Yl Z6 rfl)) (.cons (Zd.sl _ (Yl XP rfl)) .nil))))))))))))))
theorem KL (op:Int) (xs:LI) (hl:xs.length<=1000000000:=by exact ob):Zo 187 [.i op,Z4 xs] [] (fun r h=>∃(v:Value),r=Xg (xs.map (Zx op)) v/\h=[.tail v 5]):=by
 refine ZE 24 Tryz.func187 (Y1 (ar (iL (ZU []) 0 5 fun v1=>?_)))
 refine Z1 (Y6 (ab 0 (Y0 (fun fz gz m F h=>∃(k:Nat) (v:Value),(k<=xs.length)/\F=sF [0,1] fz [(5,Xg ((xs.take k).map (Zx op)) v),(6,.i k)]/\h=[.tail v 5]/\m=xs.length-k) _ _ _ ⟨0,v1,ob,rfl,rfl,rfl⟩ (wk [0] (fc (x:=Xg [] v1) (Zd.slh _ (Yl ZU rfl)) (Ya fl))) ?_)))
 rintro m F h ⟨k,v,Yj,rfl,rfl,rfl⟩
 refine YM 2 (iw (Yc xs) (Y2 ((k:Int)<(xs.length:Int)) (fun Z9=>?_) (fun Z9=>?_)))
 ·refine ak (aq (ab 1 (az (Z0 4 ?_))))
  obtain ⟨x1,Z3⟩:=Zt xs k om
  exact Zs (Zh none (k:Int) 1 (Y8 Z3)) (Z0 1 (Zw [] (C3 op x1) (iL [X4 (Zx op x1)] 1 5 fun v2=>ZQ 0 [(21,.sl [X4 (Zx op x1)] none)] (ip 1 (ZU ((xs.take (k+1)).map (Zx op))) (ZU ((xs.take k).map (Zx op))) [X4 (Zx op x1)] v none 5 (XE _) (J6 rfl) rfl (by simp<;>omega) (by rw [V5 Z3];simp [U5]) fun v3=>Z1 (az (Z0 1 (ZD k (Z1 (ZF ⟨k+1,v3,ob,rfl,rfl,rfl⟩ (wk [0] (fr (ZI k fl))))))))))))
 exact ax 0 (ar (Zm (r2 [0] [Xg ((xs.take k).map (Zx op)) v] ⟨v,rfl,rfl⟩ (Zd.slh _ (Yl ZU (by rw [WI om]))))))
theorem Z8v (n:ZG) (s:Z5) (i:Nat) (mm:Nat) (hn:Xu n:=by exact ob) (hf:FS n.decls n.routines.length mm s:=by exact ob) (hi:i<s.args.length:=by exact ob):Zo 265 [YF n,X4 s,.i i] [] (fun r h=>∃(wr:Bool),r=.b wr/\h=[]):=by
 have hal:=hf.alen
 refine ZE 42 Tryz.func265 (ar (iA (X8 n) fun b1=>iA (Wd s) fun b2=>?_))
 refine Z1 (Y6 (ab 0 (Y0 (fun fz gz m F h=>∃(k:Nat),(k<=s.args.length)/\F=sF [2,3,4] fz [(7,.i k)]/\h=gz/\m=s.args.length-k) _ _ _ ⟨0,ob,rfl,rfl,rfl⟩ (wk [0,0] (Ya fl)) ?_)))
 rintro m F h ⟨k,Yj,rfl,rfl,rfl⟩
 refine Ys 3 [0] (iw (Yc s.args) (Y2 ((k:Int)<(s.args.length:Int)) (fun Z9=>?_) (fun Z9=>?_)))
 ·refine ak (aq (ab 1 (aD 27 (Zp 23 27 [0,1,2,3] (db (b:=((k:Int) != (i:Int))) 18 (fun Zc=>?_) (fun Zc=>?_))))))
  ·refine ZW 20 23 [4,5,6] [0] ?_
   obtain ⟨x1,Z3⟩:=Zt s.args k om
   refine dx 7 (Zh none (k:Int) 1 (Y8 Z3)) (ZW 15 19 [8,9,10,11] [0] ?_)
   obtain ⟨x2,Zu⟩:=Zt s.args i om
   refine dx 12 (Zh none (i:Int) 1 (Y8 Zu)) (Zp 10 14 [13,14,15,16] (db (b:=(x1==x2)) 31 (fun ZC=>?_) (fun ZC=>?_)))
   ·refine Zp 6 10 [17,18,19,20] (db (b:=(decide ((k:Int)>(i:Int)))) 35 (fun Yn=>?_) (fun Yn=>?_))
    ·exact Zp 0 6 [21,22,23,24,25,26] (de (VR (ar (Zm (r1 [] ⟨true,rfl,rfl⟩)))))
    refine ZW 3 6 [21,22,23] [1,0] (Z7 24 (YH 24 [] [] [] (FE n s k (hnum:=hf.call)) (Zp 0 2 [25,26] (de (ac (UU n s.op s.num k) Iff.rfl (fun Zj=>?_) (fun Zj=>?_))))))
    ·exact ar (Zm (r1 [] ⟨true,rfl,rfl⟩))
    exact ak (az (Z0 1 (ZD k (Z1 (ZF ⟨k+1,ob,rfl,rfl,rfl⟩ (wk [0,0] (ZI k fl)))))))
   exact Zp 0 10 [17,18,19,20,21,22,23,24,25,26] (de (VG (ak (az (Z0 1 (ZD k (Z1 (ZF ⟨k+1,ob,rfl,rfl,rfl⟩ (wk [0,0] (ZI k fl))))))))))
  exact Zp 0 23 [4,5,6,7,8,9,10,11,12,13,14,15,16,17,18,19,20,21,22,23,24,25,26] (de (VG (ak (az (Z0 1 (ZD k (Z1 (ZF ⟨k+1,ob,rfl,rfl,rfl⟩ (wk [0,0] (ZI k fl))))))))))
 exact ax 0 (ar (Zm (r1 [] ⟨false,rfl,rfl⟩)))
theorem Pd (n:ZG) (s:Z5) (i:Nat) (mm:Nat) (os:LI) (ls:LI) (hn:Xu n:=by exact ob) (hf:FS n.decls n.routines.length mm s:=by exact ob) (hi:i<s.args.length:=by exact ob) (ho:os.length<=100000000:=by exact ob) (hl:ls.length<=100000000:=by exact ob):Zo 250 [YF n,X4 s,.i i,Z4 os,Z4 ls] [] (fun r h=>∃(wr:Bool),r=.b wr/\h=[]):=by
 refine ZE 34 Tryz.func250 (ar (iA (X8 n) fun b1=>iA (Wd s) fun b2=>Z1 (Zq 4 [0] ?_)))
 obtain ⟨x1,Z3⟩:=Zt s.args i om
 refine Zs (Zh none (i:Int) 1 (Y8 Z3)) (Z0 1 (Zw [] (UM ls x1) (Z0 1 (ib (b:=(decide (x1∈ls))) 18 (fun Zc=>?_) (fun Zc=>?_)))))
 ·exact Zm (r1 [] ⟨true,rfl,rfl⟩)
 refine Zz 4 [0] (Zs (Zh none (i:Int) 1 (Y8 Z3)) (Z0 1 (Zw [] (UM os x1) (Z0 3 (ib (b:=(!(decide (x1∈os)))) 28 (fun ZC=>?_) (fun ZC=>?_))))))
 ·exact Zm (r1 [] ⟨true,rfl,rfl⟩)
 refine Zz 3 [1,0] (ic [] (Z8v n s i mm) ?_)
 rintro _ _ ⟨wr1,rfl,rfl⟩
 exact Zm (r1 [] ⟨wr1,rfl,rfl⟩)
theorem Z89 (n:ZG) (us:LI) (s:Z5) (os:LI) (ls:LI) (mm:Nat) (hn:Xu n:=by exact ob) (hf:FS n.decls n.routines.length mm s:=by exact ob) (hvl:us.length=mm:=by exact ob) (hm:mm<=100000000:=by exact ob) (ho:os.length<=100000000:=by exact ob) (hl:ls.length<=100000000:=by exact ob):Zo 220 [YF n,Z4 us,X4 s,Z4 os,Z4 ls] [] (fun r h=>∃(zs:LI),r=Z4 zs/\h=[]/\zs.length<=s.args.length/\∀z∈zs,z∈s.args):=by
 have hal:=hf.alen
 refine ZE 43 Tryz.func220 (ar (iA (X8 n) fun b1=>iA (Wd s) fun b2=>Z1 (ar (iL (Z6 []) 0 1 fun v1=>?_))))
 refine Z1 (Y6 (ab 0 (Y0 (fun fz gz m F h=>∃(k:Nat) (zs:LI) (u:Value),(k<=s.args.length)/\(zs.length<=k)/\(∀z∈zs,z∈s.args)/\F=sF [1,3,4,5,7] fz [(11,ZH zs u),(12,.i k)]/\h=[Zi gz 1,Zi gz 2,.tail u 1]/\m=s.args.length-k) _ _ _ ⟨0,[],v1,ob,ob,(fun z hz=>by cases hz),rfl,rfl,rfl⟩ (wk [1,1,0] (fr (Ya fl))) ?_)))
 rintro m F h ⟨k,zs,u,Yj,Zf,ZB,rfl,rfl,rfl⟩
 refine Ys 3 [0] (iw (Yc s.args) (Y2 ((k:Int)<(s.args.length:Int)) (fun Z9=>?_) (fun Z9=>?_)))
 ·obtain ⟨a1,ha1⟩:=Zt s.args k om
  have har:=hf.args a1 (Y3 ha1)
  refine ak (aq (ab 1 (Zq 4 [1,0] (Zw [] (HO n us s k a1 (hnum:=hf.call) (ha:=ha1)) (Z0 1 (ib (b:=Jt n us s.op s.num a1 k) 26 (fun Zc=>?_) (fun Zc=>?_)))))))
  ·refine Zz 5 [1,0] (ic [] (Pd n s k mm os ls) ?_)
   rintro _ _ ⟨wr1,rfl,rfl⟩
   refine YB wr1 Iff.rfl (fun Zj=>?_) (fun Zj=>?_)
   ·exact az (Zz 4 [0] (Zs (Zh none (k:Int) 1 (Y8 ha1)) (Z0 1 (iL (Z6 [a1]) 1 1 fun v2=>ZQ 0 [(40,Z4 [a1])] (ip 3 (Z6 (zs++[a1])) (Z6 zs) (Z6 [a1]) u none 1 (YD _) (YD _) (W2 _) (by simp<;>omega) (by simp [W1,Z6]) fun v3=>Z1 (az (Z0 1 (ZD k (Z1 (ZF ⟨k+1,(zs++[a1]),v3,ob,ob,(by first|exact ZB|exact XD ZB (Y3 ha1)),rfl,rfl,rfl⟩ (wk [2,2,0] (fr (ZI k fl)))))))))))))
   exact ak (az (Z0 1 (ZD k (Z1 (ZF ⟨k+1,zs,u,ob,ob,(by first|exact ZB|exact XD ZB (Y3 ha1)),rfl,rfl,rfl⟩ (Zv 3 (fr (ZI k fl))))))))
  exact Z1 (VG (ak (az (Z0 1 (ZD k (Z1 (ZF ⟨k+1,zs,u,ob,ob,(by first|exact ZB|exact XD ZB (Y3 ha1)),rfl,rfl,rfl⟩ (Zv 3 (fr (ZI k fl))))))))))
 exact ax 0 (ar (Zm (r2 [] [ZH zs u] ⟨zs,rfl,rfl,⟨by omega,ZB⟩⟩ (Zd.forget _ _))))
theorem Z8o (n:ZG) (us:LI) (s:Z5) (os:LI) (ls:LI) (mm:Nat) (hn:Xu n:=by exact ob) (hf:FS n.decls n.routines.length mm s:=by exact ob) (hvl:us.length=mm:=by exact ob) (hm:mm<=100000000:=by exact ob) (ho:os.length<=100000000:=by exact ob) (hl:ls.length<=100000000:=by exact ob):Zo 222 [YF n,Z4 us,X4 s,Z4 os,Z4 ls] [] (fun r h=>∃(zs:LI) (v:Value),r=ZH zs v/\h=[.tail v 1]/\zs.length<=os.length/\∀z∈zs,z∈os):=by
 have hal:=hf.alen
 refine ZE 55 Tryz.func222 (ar (iA (X8 n) fun b1=>iA (Wd s) fun b2=>Z1 (Ys 4 [0] (ib (b:=(s.op==7)) 16 (fun Zc=>?_) (fun Zc=>?_)))))
 ·refine Z1 (VR (Yf 2 (ic [] (P7 os ls) ?_)))
  rintro _ _ ⟨zs1,v1,rfl,rfl,Yr⟩
  have hco:=Yr
  exact Zm (r1 [0] ⟨zs1,v1,rfl,rfl,(by first|exact hco|exact ⟨by omega,ZB⟩)⟩)
 refine V4 [0] (ac (s.op==8) Ze (fun Z9=>?_) (fun Z9=>?_))
 ·refine Yf 2 (ic [] (P7 os ls) ?_)
  rintro _ _ ⟨zs2,v2,rfl,rfl,YV⟩
  have hco:=YV
  exact Zm (r1 [0] ⟨zs2,v2,rfl,rfl,(by first|exact hco|exact ⟨by omega,ZB⟩)⟩)
 refine ak (Yf 1 (ic [] (WV os) ?_))
 rintro _ _ ⟨v3,rfl,rfl⟩
 refine Z1 (Y6 (ab 0 (Y0 (fun fz gz m F h=>∃(k:Nat) (zs:LI) (u:Value),(k<=s.args.length)/\(zs.length<=os.length)/\(∀z∈zs,z∈os)/\F=sF [1,3,4,5,7] fz [(11,ZH zs u),(12,.i k)]/\h=[Zi gz 1,Zi gz 2,.tail u 1]/\m=s.args.length-k) _ _ _ ⟨0,os,v3,ob,ob,(fun z hz=>hz),rfl,rfl,rfl⟩ (wk [1,1,0] (fr (Ya fl))) ?_)))
 rintro m F h ⟨k,zs,u,Yj,Zf,ZB,rfl,rfl,rfl⟩
 refine Ys 3 [0] (iw (Yc s.args) (Y2 ((k:Int)<(s.args.length:Int)) (fun Zj=>?_) (fun Zj=>?_)))
 ·obtain ⟨a1,ha1⟩:=Zt s.args k om
  have har:=hf.args a1 (Y3 ha1)
  refine ak (aq (ab 1 (Zq 4 [1,0] (Zw [] (HO n us s k a1 (hnum:=hf.call) (ha:=ha1)) (Z0 1 (ib (b:=Jt n us s.op s.num a1 k) 38 (fun ZC=>?_) (fun ZC=>?_)))))))
  ·refine Zz 5 [1,0] (ic [] (Pd n s k mm os ls) ?_)
   rintro _ _ ⟨wr1,rfl,rfl⟩
   refine YB (!wr1) (p:=¬(wr1=true)) (Yh Iff.rfl) (fun ZA=>?_) (fun ZA=>?_)
   ·refine az (Zz 4 [0] (Zs (Zh none (k:Int) 1 (Y8 ha1)) (ZQ 1 [(47,Z4 zs)] (ic [] (Pl zs a1) ?_))))
    rintro _ _ ⟨v4,rfl,rfl⟩
    exact Z1 (az (Z0 1 (ZD k (Z1 (ZF ⟨k+1,(TY zs a1),v4,ob,(by first|exact Zf|exact V6 (Fd _ _) Zf),(by first|exact ZB|exact (fun z hz=>ZB z (DR hz))),rfl,rfl,rfl⟩ (wk [1,1,0] (fr (ZI k fl))))))))
   exact ak (az (Z0 1 (ZD k (Z1 (ZF ⟨k+1,zs,u,ob,(by first|exact Zf|exact V6 (Fd _ _) Zf),(by first|exact ZB|exact (fun z hz=>ZB z (DR hz))),rfl,rfl,rfl⟩ (Zv 3 (fr (ZI k fl))))))))
  exact Z1 (VG (ak (az (Z0 1 (ZD k (Z1 (ZF ⟨k+1,zs,u,ob,(by first|exact Zf|exact V6 (Fd _ _) Zf),(by first|exact ZB|exact (fun z hz=>ZB z (DR hz))),rfl,rfl,rfl⟩ (Zv 3 (fr (ZI k fl))))))))))
 exact ax 0 (ar (Zm (r1 [2] ⟨zs,u,rfl,rfl,(by first|exact hco|exact ⟨by omega,ZB⟩)⟩)))
theorem Z8p (n:ZG) (s:Z5) (os:LI) (ls:LI) (mm:Nat) (hn:Xu n:=by exact ob) (hf:FS n.decls n.routines.length mm s:=by exact ob) (ho:os.length<=100000000:=by exact ob) (hl:ls.length<=100000000:=by exact ob):Zo 223 [YF n,X4 s,Z4 os,Z4 ls] [] (fun r h=>∃(zs:LI),r=Z4 zs/\h=[]/\zs.length<=s.args.length/\∀z∈zs,z∈s.args):=by
 have hal:=hf.alen
 refine ZE 50 Tryz.func223 (ar (iA (X8 n) fun b1=>iA (Wd s) fun b2=>Z1 (ar (iL (Z6 []) 0 1 fun v1=>?_))))
 refine Z1 (Y6 (ab 0 (Y0 (fun fz gz m F h=>∃(k:Nat) (zs:LI) (u:Value),(k<=s.args.length)/\(zs.length<=k)/\(∀z∈zs,z∈s.args)/\F=sF [2,3,4,5] fz [(9,ZH zs u),(10,.i k)]/\h=[Zi gz 1,Zi gz 2,.tail u 1]/\m=s.args.length-k) _ _ _ ⟨0,[],v1,ob,ob,(fun z hz=>by cases hz),rfl,rfl,rfl⟩ (wk [1,1,0] (fr (Ya fl))) ?_)))
 rintro m F h ⟨k,zs,u,Yj,Zf,ZB,rfl,rfl,rfl⟩
 refine Ys 3 [0] (iw (Yc s.args) (Y2 ((k:Int)<(s.args.length:Int)) (fun Z9=>?_) (fun Z9=>?_)))
 ·obtain ⟨a1,ha1⟩:=Zt s.args k om
  have har:=hf.args a1 (Y3 ha1)
  refine ak (aq (ab 1 (Zq 3 [1,0] (Zw [] (FE n s k (hnum:=hf.call)) (X6 13 [2,3,4,5,9,10] [(31,.b (UU n s.op s.num k&&(decide (a1∈os))))] (fun gz=>gz) ?_ (fun hj1=>?_))))))
  ·refine Xp [2,3,4,5,9,10] [(41,.b ((UU n s.op s.num k&&(decide (a1∈os)))&&(!(decide (a1∈ls)))))] (fun gz=>gz) ?_ ?_
   ·refine Z0 1 (ib (b:=(UU n s.op s.num k&&(decide (a1∈os)))) 32 (fun Zc=>?_) (fun Zc=>?_))
    ·exact Zz 4 [0] (Zs (Zh none (k:Int) 1 (Y8 ha1)) (Z0 1 (Zw [] (UM ls a1) (Z1 (Zv 3 (Zl (!(decide (a1∈ls))) Zc fl))))))
    exact Z1 (Zv 3 (Zl false Zc fl))
   refine ac ((UU n s.op s.num k&&(decide (a1∈os)))&&(!(decide (a1∈ls)))) (p:=((UU n s.op s.num k=true)/\(a1∈os))/\(¬(a1∈ls))) (Yu (Yu Iff.rfl dq) (Yh dq)) (fun Zj=>?_) (fun Zj=>?_)
   ·refine az (Zz 4 [0] (Zs (Zh none (k:Int) 1 (Y8 ha1)) (ZQ 1 [(42,Z4 zs)] (ic [] (EM zs a1) ?_))))
    rintro _ _ ⟨v2,rfl,rfl⟩
    exact Z1 (az (Z0 1 (ZD k (Z1 (ZF ⟨k+1,(Uf zs a1),v2,ob,(by first|omega|(have:=DG zs a1;omega)),(by first|exact ZB|exact (fun z hz=>(EW.1 hz).elim (ZB z) (fun e=>e▸Y3 ha1))),rfl,rfl,rfl⟩ (wk [1,1,0] (fr (ZI k fl))))))))
   exact ak (az (Z0 1 (ZD k (Z1 (ZF ⟨k+1,zs,u,ob,(by first|omega|(have:=DG zs a1;omega)),(by first|exact ZB|exact (fun z hz=>(EW.1 hz).elim (ZB z) (fun e=>e▸Y3 ha1))),rfl,rfl,rfl⟩ (Zv 3 (fr (ZI k fl))))))))
  refine Z0 1 (ib (b:=UU n s.op s.num k) 23 (fun ZC=>?_) (fun ZC=>?_))
  ·exact Zz 4 [0] (Zs (Zh none (k:Int) 1 (Y8 ha1)) (Z0 1 (Zw [] (UM os a1) (Z0 1 (Y5 (Zv 3 (Zl (decide (a1∈os)) ZC fl)) hj1)))))
  exact Z0 8 (Y5 (Zv 3 (Zl false ZC fl)) hj1)
 exact ax 0 (ar (Zm (r2 [] [ZH zs u] ⟨zs,rfl,rfl,⟨by omega,ZB⟩⟩ (Zd.forget _ _))))
theorem E7 (rt:YE) (b:Z8) (hp:rt.params.length<=4294967296:=by exact ob) (hl:rt.lent.length<=4294967296:=by exact ob):Zo 155 [JY rt,Yq b] [] (Yx (JY (YE.mk rt.params rt.lent rt.result b))):=by
 refine ZE 15 Tryz.func155 (ar (iA (JH rt) fun b1=>iA (XV b) fun b2=>iA [nl,nl,.i 0,nl,.i 0] fun b3=>ie (aD 11 (ZW 4 11 [0,1,3,4,6,7,8] [2,2,2,1] (Z7 2 (dc 2 [] [1,2,2] [b2,b1,b1] (WV rt.params) ?_))))))
 rintro _ _ ⟨v1,rfl,rfl⟩
 refine Z7 5 (dc 5 [] [1,2] [b2,b1] (WV rt.lent) ?_)
 rintro _ _ ⟨v2,rfl,rfl⟩
 exact Zp 1 2 [9] (Z7 10 (X3 10 2 [] [] b3 [ZH rt.params v1,ZH rt.lent v2,.i rt.result,Vp b.steps,.i b.result] (de (ZY (r3 [] [.agg [ZH rt.params v1,ZH rt.lent v2,.i rt.result,Vp b.steps,.i b.result]] [0] [(b3,b3)] ⟨rfl,rfl⟩ (Zd.agg (.cons (Zd.sl _ (Yl Z6 ob)) (.cons (Zd.sl _ (Yl Z6 ob)) (.cons li (.cons (Zd.sl _ (Yl ZU ob)) (.cons li .nil)))))))))))
theorem Z84 (n:ZG) (us:LI) (fds:LI) (kd:Z8) (os:LI) (ls:LI) (mm:Nat) (bb:Nat) (hn:Xu n:=by exact ob) (hf:fB n.decls n.routines.length (mm+fds.length) kd:=by exact ob) (hop:Vq WP kd:=by exact ob) (hul:us.length=mm:=by exact ob) (hfl:fds.length<=3:=by exact ob) (hm:mm+3+4*kd.sz<=100000:=by exact ob) (hor:∀v∈os,0<=v/\v<(mm:Int)) (hol:os.length+3+4*kd.sz<=730:=by exact ob) (hal:ls.length+2000*kd.sz<=1000000:=by exact ob) (hbz:kd.sz<=500:=by exact ob) (hb:kd.sz<bb:=by exact ob) (ih:∀(us2:LI) (b2:Z8) (os2:LI) (as2:LI) (m2:Nat),(fB n.decls n.routines.length m2 b2)->(Vq WP b2)->(us2.length=m2)->(m2+4*b2.sz<=100000)->(∀v∈os2,0<=v/\v<(m2:Int))->(os2.length+4*b2.sz<=730)->(as2.length+2000*b2.sz<=1000000)->(b2.sz<=500)->(b2.sz<bb)->Zo 186 [YF n,Z4 us2,Yq b2,Z4 os2,Z4 as2] [] (fun r h=>∃(y:Z8),r=Yq y/\h=[]/\KB n.decls n.routines.length m2 y (4500*b2.sz))):Zo 251 [YF n,Z4 us,Z4 fds,Yq kd,Z4 os,Z4 ls] [] (fun r h=>∃(y:Z8),r=Yq y/\h=[]/\KB n.decls n.routines.length (mm+fds.length) y (4500*kd.sz+1470)):=by
 refine ZE 115 Tryz.func251 (ar (iA (X8 n) fun b1=>iA (XV kd) fun b2=>iA [nl,.i 0] fun b3=>ie (Yf 1 (iw (Yc us) (Z1 (Yf 2 (ic [] (Tz us fds) ?_)))))))
 rintro _ _ ⟨v1,rfl,rfl⟩
 refine Z1 (Zq 2 [2] (io (.i (((us++fds).length:Nat):Int)) (.i (((Z6 (us++fds)).length:Nat):Int)) (li (by rw [Yc])) (Zw [] (Z0y kd (((us++fds).length:Nat):Int)) ?_)))
 have hub:=I0 (n:=(((us++fds).length:Nat):Int)) kd []
 simp only [YC,Wj] at hub
 refine Z1 (ar (iL (Z6 []) 0 1 fun v2=>Z1 (ar (iL (Z6 []) 0 1 fun v3=>?_))))
 refine Z1 (Y6 (ab 0 (Y0 (fun fz gz m F h=>∃(k:Nat) (ms:LI) (u:Value) (dr:LI) (w:Value),(k<=os.length)/\(ms.length<=k)/\(dr.length<=k)/\(∀v∈ms,0<=v/\v<(mm:Int))/\(∀v∈dr,0<=v/\v<(mm:Int))/\F=sF [2,4,5,6,9,12,13,15] fz [(14,Z4 (us++fds)),(16,ZH ms u),(17,ZH dr w),(18,.i k)]/\h=[Zi gz 3,Zi gz 4,Zi gz 5,.tail u 1,.tail w 1]/\m=os.length-k) _ _ _ ⟨0,[],v2,[],v3,ob,ob,ob,(fun v hv=>by cases hv),(fun v hv=>by cases hv),rfl,rfl,rfl⟩ (wk [3,3,3,1,0] (fc (x:=ZH (us++fds) v1) (Zd.forget _ _) (fw (Ya fl)))) ?_)))
 rintro m F h ⟨k,ms,u,dr,w,Yj,Zf,ZB,YL,Wh,rfl,rfl,rfl⟩
 refine YM 2 (iw (Yc os) (Y2 ((k:Int)<(os.length:Int)) (fun Z9=>?_) (fun Z9=>?_)))
 ·obtain ⟨o1,ho1⟩:=Zt os k om
  have hor1:=hor o1 (Y3 ho1)
  refine ak (aq (ab 1 (Yf 3 (Zs (Zh none (k:Int) 1 (Y8 ho1)) (Z0 1 (Zw [] (UM (UW (((us++fds).length:Nat):Int) kd []) o1) (Xp [2,4,5,6,9,12,13,14,15,16,17,18] [(53,.b ((decide (o1∈(UW (((us++fds).length:Nat):Int) kd [])))||(decide (o1∈ls))))] (fun gz=>gz) ?_ ?_)))))))
  ·refine Z0 1 (ib (b:=(decide (o1∈(UW (((us++fds).length:Nat):Int) kd [])))) 46 (fun Zc=>?_) (fun Zc=>?_))
   ·exact Z1 (Zv 5 (Zl true Zc fl))
   exact Z0 3 (Zs (Zh none (k:Int) 1 (Y8 ho1)) (Z0 1 (Zw [] (UM ls o1) (Z1 (Zv 5 (Zl (decide (o1∈ls)) Zc fl))))))
  refine ac ((decide (o1∈(UW (((us++fds).length:Nat):Int) kd [])))||(decide (o1∈ls))) (p:=(o1∈(UW (((us++fds).length:Nat):Int) kd []))∨(o1∈ls)) (ZO dq dq) (fun Zj=>?_) (fun Zj=>?_)
  ·exact az (Z0 3 (Zs (Zh none (k:Int) 1 (Y8 ho1)) (Z0 1 (iL (Z6 [o1]) 1 1 fun v4=>ZQ 0 [(59,Z4 [o1])] (ip 4 (Z6 (ms++[o1])) (Z6 ms) (Z6 [o1]) u none 1 (YD _) (YD _) (W2 _) (by simp<;>omega) (by simp [W1,Z6]) fun v5=>Z1 (az (Z0 1 (ZD k (Z1 (ZF ⟨k+1,(ms++[o1]),v5,dr,w,ob,ob,ob,(by first|exact YL|exact XD YL hor1),(by first|exact Wh|exact XD Wh hor1),rfl,rfl,rfl⟩ (wk [2,2,2,0,1] (fw (fr (ZI k fl))))))))))))))
  exact az (Z0 3 (Zs (Zh none (k:Int) 1 (Y8 ho1)) (Z0 1 (iL (Z6 [o1]) 1 1 fun v6=>ZQ 0 [(66,Z4 [o1])] (ip 5 (Z6 (dr++[o1])) (Z6 dr) (Z6 [o1]) w none 1 (YD _) (YD _) (W2 _) (by simp<;>omega) (by simp [W1,Z6]) fun v7=>Z1 (az (Z0 1 (ZD k (Z1 (ZF ⟨k+1,ms,u,(dr++[o1]),v7,ob,ob,ob,(by first|exact YL|exact XD YL hor1),(by first|exact Wh|exact XD Wh hor1),rfl,rfl,rfl⟩ (wk [2,2,2,2,0] (fw (fr (ZI k fl))))))))))))))
 refine ax 0 (ar (iL (Z6 []) 0 1 fun v8=>?_))
 refine Z1 (Y6 (ab 2 (Y0 (fun fz gz m F h=>∃(k:Nat) (ps:LI) (w2:Value),(k<=fds.length)/\(ps.length<=k)/\(∀v∈ps,(mm:Int)<=v/\v<((mm+fds.length:Nat):Int))/\F=sF [2,5,6,9,12,13,14,15,16,17] fz [(19,ZH ps w2),(20,.i k)]/\h=[Zi gz 1,Zi gz 2,Zi gz 3,Zi gz 4,Zi gz 5,.tail w2 1]/\m=fds.length-k) _ _ _ ⟨0,[],v8,ob,ob,(fun v hv=>by cases hv),rfl,rfl,rfl⟩ (wk [1,1,1,1,1,0] (fr (Ya fl))) ?_)))
 rintro m F h ⟨k,ps,w2,VA,Xs,XT,rfl,rfl,rfl⟩
 refine YM 2 (iw (Yc fds) (Y2 ((k:Int)<(fds.length:Int)) (fun ZA=>?_) (fun ZA=>?_)))
 ·refine ak (aq (ab 3 (Yf 2 ?_)))
  obtain ⟨x1,Z3⟩:=Zt fds k om
  refine Zs (Zh none (k:Int) 1 (Y8 Z3)) (Xp [2,5,6,9,12,13,14,15,16,17,19,20] [(86,.b ((x1 != 0)&&(decide (((us.length+k:Nat):Int)∈(UW (((us++fds).length:Nat):Int) kd [])))))] (fun gz=>gz) ?_ ?_)
  ·refine Z0 3 (ib (b:=(x1 != 0)) 80 (fun ZC=>?_) (fun ZC=>?_))
   ·exact Z0 3 (ia (((us.length+k:Nat):Int)) (((us.length:Int))+((k:Int))) (Zw [] (UM (UW (((us++fds).length:Nat):Int) kd []) ((us.length+k:Nat):Int)) (Z1 (Zv 6 (Zl (decide (((us.length+k:Nat):Int)∈(UW (((us++fds).length:Nat):Int) kd []))) ZC fl)))))
   exact Z1 (Zv 6 (Zl false ZC fl))
  refine ac ((x1 != 0)&&(decide (((us.length+k:Nat):Int)∈(UW (((us++fds).length:Nat):Int) kd [])))) (p:=(x1≠0)/\(((us.length+k:Nat):Int)∈(UW (((us++fds).length:Nat):Int) kd []))) (Yu Yp dq) (fun Yi=>?_) (fun Yi=>?_)
  ·exact az (Z0 3 (ia (((us.length+k:Nat):Int)) (((us.length:Int))+((k:Int))) (iL (Z6 [((us.length+k:Nat):Int)]) 1 1 fun v9=>ZQ 0 [(91,Z4 [((us.length+k:Nat):Int)])] (ip 6 (Z6 (ps++[((us.length+k:Nat):Int)])) (Z6 ps) (Z6 [((us.length+k:Nat):Int)]) w2 none 1 (YD _) (YD _) (W2 _) (by simp<;>omega) (by simp [W1,Z6]) fun v10=>Z1 (az (Z0 1 (ZD k (Z1 (ZF ⟨k+1,(ps++[((us.length+k:Nat):Int)]),v10,ob,ob,(by first|exact XT|exact XD XT om),rfl,rfl,rfl⟩ (wk [2,2,2,2,2,0] (fr (ZI k fl))))))))))))
  exact ak (az (Z0 1 (ZD k (Z1 (ZF ⟨k+1,ps,w2,ob,ob,(by first|exact XT|exact XD XT om),rfl,rfl,rfl⟩ (Zv 6 (fr (ZI k fl))))))))
 refine ax 2 (ar (ZQ 1 [(93,Z4 ps)] (ic [] (KL 14 ps) ?_)))
 rintro _ _ ⟨v11,rfl,rfl⟩
 refine ZQ 1 [(95,Z4 dr)] (ic [] (KL 15 dr) ?_)
 rintro _ _ ⟨v12,rfl,rfl⟩
 refine ZQ 0 [(96,Vp (dr.map (Zx 15)))] (ip 1 (ZU ((ps.map (Zx 14))++(dr.map (Zx 15)))) (ZU (ps.map (Zx 14))) (ZU (dr.map (Zx 15))) v11 none 5 (XE _) (XE _) (Uk _) (by simp<;>omega) (by simp [Vt,ZU]) fun v13=>?_)
 refine Z1 (aD 12 (ZW 5 12 [0,1,2,3,4,6,7] [4,3] (Bw (fun fz gz F h=>∃(y1:Z8) (b4:Nat) (zs1:LI),(zs1.length<=ls.length/\∀z∈zs1,z∈ls)/\(KB n.decls n.routines.length (mm+fds.length) y1 (4500*kd.sz))/\F=sF [12,21] fz [(22,.p b4 0)]/\h=[.obj b4 (XV y1),Zi gz 0,Zi gz 1,Zi gz 2,Zi gz 3,Zi gz 4,Zi gz 6,Zi gz 7]) ?_ ?_)))
 ·refine Uj 5 10 ?_ ?_
  ·refine dp 5 5 [1,2] [b2,b1] (Z6 (ms++ps)) (Z6 ms) (Z6 ps) u (some w2) 1 (YD _) (YD _) (W2 _) (by simp<;>omega) (by simp [W1,Z6]) fun v14=>Uj 8 10 ?_ ?_
   ·refine dc 8 [] [1,2] [b2,b1] (Lq ls (us.length:Int)) ?_
    rintro _ _ ⟨zs1,v15,rfl,rfl,Xc⟩
    have hbl:=Xc
    refine Yt 3 3 [] [(103,Z4 (ms++ps)),(106,Z4 zs1)] (Uj 9 10 ?_ ?_)
    ·refine dc 9 [] [] [] (ih (us++fds) kd (ms++ps) zs1 (mm+fds.length) hf hop (by rw [ZX,hul]) ob (fun v hv=>by rcases Xl.1 hv with h|h;exact (by have:=YL v h;omega);exact (by have:=XT v h;omega)) (by rw [ZX];omega) ob ob ob) ?_
     rintro _ _ ⟨y1,rfl,rfl,XK⟩
     have hkb:=XK
     have hkl:=hkb.len
     exact Z7 10 (dA 10 [] [] [nl,.i 0] fun b4=>Z7 11 (X3 11 0 [] [] b4 (XV y1) (de (ZJ ⟨_,b4,_,(by assumption),(by assumption),rfl,rfl⟩ (wk [0,2,2,2,2,2,2,2] fl)))))
    refine dA 10 [1,2] [b2,b1] [nl,.i 0] fun b5=>Z7 9 (dc 9 [] [] [] (ih (us++fds) kd (ms++ps) zs1 (mm+fds.length) hf hop (by rw [ZX,hul]) ob (fun v hv=>by rcases Xl.1 hv with h|h;exact (by have:=YL v h;omega);exact (by have:=XT v h;omega)) (by rw [ZX];omega) ob ob ob) ?_)
    rintro _ _ ⟨y2,rfl,rfl,Wc⟩
    have hkb:=Wc
    have hkl:=hkb.len
    exact Z7 11 (X3 11 0 [] [] b5 (XV y2) (de (ZJ ⟨_,b5,_,(by assumption),(by assumption),rfl,rfl⟩ (wk [0,2,2,2,2,2,2,2] fl))))
   refine dA 10 [1,2] [b2,b1] [nl,.i 0] fun b6=>Z7 8 (dc 8 [] [2,3] [b2,b1] (Lq ls (us.length:Int)) ?_)
   rintro _ _ ⟨zs2,v16,rfl,rfl,WF⟩
   have hbl:=WF
   refine Yt 2 2 [] [(103,Z4 (ms++ps)),(106,Z4 zs2)] (Z7 9 (dc 9 [] [] [] (ih (us++fds) kd (ms++ps) zs2 (mm+fds.length) hf hop (by rw [ZX,hul]) ob (fun v hv=>by rcases Xl.1 hv with h|h;exact (by have:=YL v h;omega);exact (by have:=XT v h;omega)) (by rw [ZX];omega) ob ob ob) ?_))
   rintro _ _ ⟨y3,rfl,rfl,V1⟩
   have hkb:=V1
   have hkl:=hkb.len
   exact Z7 11 (X3 11 1 [] [] b6 (XV y3) (de (ZJ ⟨_,b6,_,(by assumption),(by assumption),rfl,rfl⟩ (wk [0,2,2,2,2,2,2,2] fl))))
  refine dA 10 [1,2] [b2,b1] [nl,.i 0] fun b7=>Yt 4 4 [] [(102,Z4 ps)] (Z7 5 (dp 5 6 [2,3] [b2,b1] (Z6 (ms++ps)) (Z6 ms) (Z6 ps) u none 1 (YD _) (YD _) (W2 _) (by simp<;>omega) (by simp [W1,Z6]) fun v17=>Z7 8 (dc 8 [] [2,3] [b2,b1] (Lq ls (us.length:Int)) ?_)))
  rintro _ _ ⟨zs3,v18,rfl,rfl,Ue⟩
  have hbl:=Ue
  refine Yt 2 2 [] [(103,Z4 (ms++ps)),(106,Z4 zs3)] (Z7 9 (dc 9 [] [] [] (ih (us++fds) kd (ms++ps) zs3 (mm+fds.length) hf hop (by rw [ZX,hul]) ob (fun v hv=>by rcases Xl.1 hv with h|h;exact (by have:=YL v h;omega);exact (by have:=XT v h;omega)) (by rw [ZX];omega) ob ob ob) ?_))
  rintro _ _ ⟨y4,rfl,rfl,UG⟩
  have hkb:=UG
  have hkl:=hkb.len
  exact Z7 11 (X3 11 2 [] [] b7 (XV y4) (de (ZJ ⟨_,b7,_,(by assumption),(by assumption),rfl,rfl⟩ (wk [0,2,2,2,2,2,2,2] fl))))
 rintro F h ⟨y1,b4,zs1,Xc,XK,rfl,rfl⟩
 have hbl:=Xc
 have hkb:=XK
 have hkl:=hkb.len
 exact aD 8 (ZW 3 8 [0,1,2,4,5] [0,0] (Z7 3 (dp 3 1 [0] [b4] (ZU (((ps.map (Zx 14))++(dr.map (Zx 15)))++y1.steps)) (ZU ((ps.map (Zx 14))++(dr.map (Zx 15)))) (ZU y1.steps) v13 none 5 (XE _) (XE _) (Uk _) (by simp<;>omega) (by simp [Vt,ZU]) fun v19=>Zp 1 2 [6] (Z7 7 (X3 7 3 [] [] b3 [Xg (((ps.map (Zx 14))++(dr.map (Zx 15)))++y1.steps) v19,.i y1.result] (de (ZY (r3 [] [.agg [Xg (((ps.map (Zx 14))++(dr.map (Zx 15)))++y1.steps) v19,.i y1.result]] [0] [(b3,b3)] ⟨(Z8.mk (((ps.map (Zx 14))++(dr.map (Zx 15)))++y1.steps) y1.result),rfl,rfl,((hkb.put (fun v hv=>by have:=XT v hv;omega) (fun v hv=>by have:=Wh v hv;omega)).le om)⟩ (Zd.agg (.cons (Zd.forget _ _) (.cons (lr _) .nil)))))))))))
theorem Z85 (n:ZG) (us:LI) (s:Z5) (os:LI) (ls:LI) (mm:Nat) (bb:Nat) (hn:Xu n:=by exact ob) (hf:FS n.decls n.routines.length mm s:=by exact ob) (h11:s.op<=11:=by exact ob) (hop:Ka WP s.kids:=by exact ob) (hul:us.length=mm:=by exact ob) (hm:mm+4*s.sz<=100000:=by exact ob) (hor:∀v∈os,0<=v/\v<(mm:Int)) (hol:os.length+4*s.sz<=730:=by exact ob) (hal:ls.length+2000*s.sz<=1000000:=by exact ob) (hbz:s.sz<=500:=by exact ob) (hb:s.sz<=bb:=by exact ob) (ih:∀(us2:LI) (b2:Z8) (os2:LI) (as2:LI) (m2:Nat),(fB n.decls n.routines.length m2 b2)->(Vq WP b2)->(us2.length=m2)->(m2+4*b2.sz<=100000)->(∀v∈os2,0<=v/\v<(m2:Int))->(os2.length+4*b2.sz<=730)->(as2.length+2000*b2.sz<=1000000)->(b2.sz<=500)->(b2.sz<bb)->Zo 186 [YF n,Z4 us2,Yq b2,Z4 os2,Z4 as2] [] (fun r h=>∃(y:Z8),r=Yq y/\h=[]/\KB n.decls n.routines.length m2 y (4500*b2.sz))):Zo 221 [YF n,Z4 us,X4 s,Z4 os,Z4 ls] [] (fun r h=>∃(y:Z5),r=X4 y/\h=[]/\KT n.decls n.routines.length mm y (4500*YW s.kids+4420)):=by
 have Xq:=hn.decls
 have hkf:=hf.few Xq
 have hsa:=hf.alen
 refine ZE 62 Tryz.func221 (ar (iA (X8 n) fun b1=>iA (Wd s) fun b2=>iA [.i 0,.i 0,.i 0,nl,nl] fun b3=>ie (ar (iL (XP []) 0 2 fun v1=>Z1 (Zq 4 [3,2] (ic [] (Jd n.decls s.num) ?_))))))
 rintro _ _ ⟨v2,rfl,rfl⟩
 refine Z1 (Y6 (ab 0 (Y0 (fun fz gz m F h=>∃(k:Nat) (ks:List Z8) (u:Value),(k<=s.kids.length)/\(ks.length=k)/\(KK n.decls n.routines.length (WX n.decls s.op s.num mm) ks (4500*YW (s.kids.take k)+1470*k))/\F=sF [1,3,4,5,7,10] fz [(11,Qp ks u),(12,Z4 (ZZ n.decls s.num)),(13,.i k)]/\h=[Zi gz 2,Zi gz 3,Zi gz 4,.tail u 2]/\m=s.kids.length-k) _ _ _ ⟨0,[],v1,ob,ob,(KK.nil.le (Q9 _)),rfl,rfl,rfl⟩ (wk [2,2,2,1] (fr (fc (x:=ZH (ZZ n.decls s.num) v2) (Zd.forget _ _) (Ya fl)))) ?_)))
 rintro m F h ⟨k,ks,u,Yj,Zf,ZB,rfl,rfl,rfl⟩
 refine Ys 3 [1] (iw (Kt s.kids) (Y2 ((k:Int)<(s.kids.length:Int)) (fun Z9=>?_) (fun Z9=>?_)))
 ·refine ak (aq (ab 1 (ar (iL (Z6 []) 0 1 fun v3=>?_))))
  refine Z1 (Xd (V4 [2] (Xv (fun fz gz F h=>∃(fds:LI),(WX n.decls s.op s.num mm k=mm+fds.length)/\(fds.length<=3)/\F=sF [1,3,4,5,7,10,11,12,13] fz [(14,Z4 fds)]/\h=[Zi gz 1,Zi gz 2,Zi gz 3,Zi gz 4]) ?_ ?_)))
  ·refine ac (s.op==8) Ze (fun Zj=>?_) (fun Zj=>?_)
   ·refine aE 8 (ZW 4 8 [0,1,2,3] [3] ?_)
    obtain ⟨x1,Z3⟩:=Zt (ZZ n.decls s.num) k (by have:=hf.k8 (by assumption);omega)
    have hcf:=Vj Xq x1
    exact dx 4 (Zh none (k:Int) 1 (Y8 Z3)) (Zp 2 3 [5] (Z7 6 (YH 6 [] [] [] (Qr n.decls x1) (Zp 0 1 [7] (de (ZJ ⟨ZP n.decls x1,(Mv (by assumption) Z3),ob,rfl,rfl⟩ (wk [1,1,1,1] fl)))))))
   exact ak (ZJ ⟨[],(by rw [Mw (by assumption)];rfl),ob,rfl,rfl⟩ (wk [1,1,1,1] fl))
  rintro F h ⟨fds,VD,B8,rfl,rfl⟩
  refine aE 15 (ZW 8 15 [0,1,2,3,4,5,6] [2,1] ?_)
  obtain ⟨x2,Zu⟩:=Zt s.kids k om
  have hkz:=Qm Zu
  have hfk:=BD hf.kids Zu
  rw [Wj,VD] at hfk
  have hok:=DP.1 hop x2 (Y3 Zu)
  have hbt:=Ga Zu
  have hba:=Gc Zu
  refine dx 7 (Zh none (k:Int) 2 (US Zu)) (Zp 4 7 [8,9,10] (Z7 11 (dc 11 [] [] [] (Z84 n us fds x2 os ls mm bb (hf:=hfk) (hop:=hok) (hor:=hor) (ih:=ih)) ?_)))
  rintro _ _ ⟨y1,rfl,rfl,Y4⟩
  have hkb:=Y4
  exact Z7 12 (WC 12 [] [] [Yq y1] (XP [y1]) (QW [y1]).symm 1 2 fun v4=>Yt 2 2 [] [(51,JL [y1])] (Z7 13 (dp 13 4 [] [] (XP (ks++[y1])) (XP ks) (XP [y1]) u none 2 (KX _) (KX _) (Gk _) (by simp<;>omega) (by simp [Cs,XP]) fun v5=>Zp 0 1 [14] (de (az (Z0 1 (ZD k (Z1 (ZF ⟨k+1,(ks++[y1]),v5,ob,ob,((ZB.snoc Zf (by rw [VD];exact hkb)).le om),rfl,rfl,rfl⟩ (wk [2,2,2,0] (fw (ZI k fl))))))))))))
 refine ax 0 (aD 10 (ZW 3 10 [0,1,2,3,4,5,7] [1,1,1] (Z7 6 (dc 6 [] [1,1] [b2,b2] (WV s.args) ?_))))
 rintro _ _ ⟨v6,rfl,rfl⟩
 exact Zp 1 2 [8] (Z7 9 (X3 9 1 [] [] b3 [.i s.op,.i s.num,.i 0,ZH s.args v6,Qp ks u] (de (ZY (r3 [] [.agg [.i s.op,.i s.num,.i 0,ZH s.args v6,Qp ks u]] [0] [(b3,b3)] ⟨(Z5.mk s.op s.num 0 s.args ks),rfl,rfl,((KT.of (into:=0) hf h11 om om ZB).le (by have:=Ix (xs:=s.kids) (k:=k) om;omega))⟩ (Zd.agg (.cons (lr _) (.cons (lr _) (.cons (lr _) (.cons (Zd.forget _ _) (.cons (Zd.forget _ _) .nil)))))))))))
theorem Z82 (n:ZG) (us:LI) (b:Z8) (os:LI) (ls:LI) (mm:Nat) (hn:Xu n) (hf:fB n.decls n.routines.length mm b) (hop:Vq WP b) (hul:us.length=mm) (hm:mm+4*b.sz<=100000) (hor:∀v∈os,0<=v/\v<(mm:Int)) (hol:os.length+4*b.sz<=730) (hal:ls.length+2000*b.sz<=1000000) (hbz:b.sz<=500) (ih:∀(us2:LI) (b2:Z8) (os2:LI) (as2:LI) (m2:Nat),(fB n.decls n.routines.length m2 b2)->(Vq WP b2)->(us2.length=m2)->(m2+4*b2.sz<=100000)->(∀v∈os2,0<=v/\v<(m2:Int))->(os2.length+4*b2.sz<=730)->(as2.length+2000*b2.sz<=1000000)->(b2.sz<=500)->(b2.sz<b.sz)->Zo 186 [YF n,Z4 us2,Yq b2,Z4 os2,Z4 as2] [] (fun r h=>∃(y:Z8),r=Yq y/\h=[]/\KB n.decls n.routines.length m2 y (4500*b2.sz))):Zo 186 [YF n,Z4 us,Yq b,Z4 os,Z4 ls] [] (fun r h=>∃(y:Z8),r=Yq y/\h=[]/\KB n.decls n.routines.length mm y (4500*b.sz)):=by
 have Xq:=hn.decls
 have hbe:=b.sz_eq
 have ZL:=Ux b
 obtain ⟨hfs,hr1,hr2⟩:=(KY b).1 hf
 have hos:=CS.1 ((Hl b).1 hop)
 have hdn:=IJ hos
 have hdl:=hdn b.steps.length (X0 _)
 rw [Ub] at hdl
 refine ZE 149 Tryz.func186 (ar (iA (X8 n) fun b1=>iA (XV b) fun b2=>iA [nl,.i 0] fun b3=>ie (ar (iL (ZU []) 0 5 fun v1=>Z1 (Yf 1 (ic [] (WV us) ?_))))))
 rintro _ _ ⟨v2,rfl,rfl⟩
 refine Z1 (Yf 1 (ic [] (WV os) ?_))
 rintro _ _ ⟨v3,rfl,rfl⟩
 refine Z1 (Y6 (ab 0 (Y0 (fun fz gz m F h=>∃(k:Nat) (vs:LI) (w:Value) (ms:LI) (u:Value) (xs:List Z5) (v:Value),(k<=b.steps.length)/\(vs.length=mm+k)/\(CL n.decls n.routines.length mm xs k (4500*Yw (b.steps.take k)))/\(ms.length<=os.length+k)/\(∀v∈ms,0<=v/\v<((mm+k:Nat):Int))/\F=sF [4,5,7,10] fz [(11,Xg xs v),(12,ZH vs w),(13,ZH ms u),(14,.i k)]/\h=[Zi gz 3,Zi gz 4,Zi gz 5,.tail u 1,.tail v 5,.tail w 1]/\m=b.steps.length-k) _ _ _ ⟨0,us,v2,os,v3,[],v1,ob,ob,CL.nil,ob,hor,rfl,rfl,rfl⟩ (wk [3,3,3,0,1,0] (fw (fr (Ya fl)))) ?_)))
 rintro m F h ⟨k,vs,w,ms,u,xs,v,Yj,Zf,ZB,YL,Wh,rfl,rfl,rfl⟩
 refine Ys 3 [1] (iw (UB b.steps) (Y2 ((k:Int)<(b.steps.length:Int)) (fun Z9=>?_) (fun Z9=>?_)))
 ·refine ak (aq (ab 1 (Zq 3 [1] ?_)))
  obtain ⟨x1,Z3⟩:=Zt b.steps k om
  have XO:=D3 Z3
  have hfS:=(AY x1).1 (Dx hfs Z3)
  rw [hdn k om] at hfS
  have hoS:=(Fc x1).1 (hos x1 (Y3 Z3))
  have htk:=HP Z3
  have hse:=(x1).sz_eq
  have hal4:=hfS.alen
  have hxl:=ZB.len
  have htl:=KN b.steps (k+1)
  have hsd:=Z14 b.steps (k+1)
  have hul2:=MR (n:=((vs.length+1:Nat):Int)) (b.steps.drop (k+1)) []
  have hul3:=I1 (n:=((vs.length+1:Nat):Int)) (UX ((vs.length+1:Nat):Int) (b.steps.drop (k+1)) []) b.result
  simp only [YC,Wj] at hul2
  refine Zs (Zh none (k:Int) 5 (V8 Z3)) (Z0 1 (iA [.i 0,.i 0,.i 0,nl,nl] fun b4=>Zy 0 b4 (Wd x1) (ie (Yf 1 (iw (Yc vs) (Z1 (ar (QI 3 [(41,Z4 vs)] [3,0] (Zw [] (ME n vs x1 ob ob) (Z1 (Zq 2 [2] (ia (((vs.length+1:Nat):Int)) (((vs.length:Int))+(1)) (Z0 1 (ZD k (iL (Z6 []) 0 1 fun v4=>ZQ 0 [(49,Z4 [])] (Zw [] (Z0i b ((vs.length+1:Nat):Int) (k+1) [] (hk:=om) (hz:=(by simp only [YC];omega))) (Z0 1 (ic [] (Z9c (UN ((vs.length+1:Nat):Int) (UX ((vs.length+1:Nat):Int) (b.steps.drop (k+1)) []) b.result) ls) ?_))))))))))))))))))
  rintro _ _ ⟨zs1,rfl,rfl,Y4⟩
  have hun:=Y4
  refine Z1 (ar (QI 6 [(55,Z4 vs),(57,Z4 ms)] [4,1] (ic [] (Z89 n vs x1 ms zs1 (mm+k) (hf:=hfS)) ?_)))
  rintro _ _ ⟨zs2,rfl,rfl,Yr⟩
  have hdu:=Yr
  have hq1:=ZB.cnts (op:=14) (.inl rfl) (vs:=zs2) (fun v hv=>hfS.args v (hdu.2 v hv))
  have hl1:=hq1.len
  refine ic [] (KL 14 zs2) ?_
  rintro _ _ ⟨v5,rfl,rfl⟩
  refine ZQ 0 [(60,Vp (zs2.map (Zx 14)))] (ip 7 (ZU (xs++(zs2.map (Zx 14)))) (ZU xs) (ZU (zs2.map (Zx 14))) v none 5 (XE _) (XE _) (Uk _) (by simp<;>omega) (by simp [Vt,ZU]) fun v6=>Z1 (ar (QI 6 [(64,Z4 vs),(66,Z4 ms)] [6,3] (ic [] (Z85 n vs x1 ms zs1 (mm+k) b.sz (hf:=hfS) (h11:=hoS.1) (hop:=hoS.2) (hor:=Wh) (ih:=ih)) ?_))))
  rintro _ _ ⟨y1,rfl,rfl,YR⟩
  have hkt:=YR
  have hq2:=hq1.kt hkt
  have hl2:=hq2.len
  refine UH [X4 y1] (ZU [y1]) (U5 [y1]).symm 1 5 fun v7=>ZQ 0 [(69,Vp [y1])] (ip 1 (ZU ((xs++(zs2.map (Zx 14)))++[y1])) (ZU (xs++(zs2.map (Zx 14)))) (ZU [y1]) v6 none 5 (XE _) (XE _) (Uk _) (by simp<;>omega) (by simp [Vt,ZU]) fun v8=>Z1 (ar (QI 5 [(72,Z4 vs),(74,Z4 ms)] [7,4] (ic [] (Z8o n vs x1 ms zs1 (mm+k) (hf:=hfS)) ?_))))
  rintro _ _ ⟨zs3,v9,rfl,rfl,YV⟩
  have hla:=YV
  refine Z1 (ar (QI 4 [(79,Z4 zs3)] [8,5] (ic [] (Z8p n x1 zs3 zs1 (mm+k) (hf:=hfS)) ?_)))
  rintro _ _ ⟨zs4,rfl,rfl,Xc⟩
  have hld:=Xc
  have hq3:=hq2.cnts (op:=15) (.inr rfl) (vs:=zs4) (fun v hv=>by have:=hfS.args v (hld.2 v hv);omega)
  have hl3:=hq3.len
  refine Z1 (Yf 2 (ic [] (KL 15 zs4) ?_))
  rintro _ _ ⟨v10,rfl,rfl⟩
  refine ZQ 0 [(84,Vp (zs4.map (Zx 15)))] (ip 2 (ZU (((xs++(zs2.map (Zx 14)))++[y1])++(zs4.map (Zx 15)))) (ZU ((xs++(zs2.map (Zx 14)))++[y1])) (ZU (zs4.map (Zx 15))) v8 none 5 (XE _) (XE _) (Uk _) (by simp<;>omega) (by simp [Vt,ZU]) fun v11=>?_)
  refine Z1 (Y6 (ab 2 (Y0 (fun fz gz m F h=>∃(j:Nat) (m3:LI) (u3:Value) (v3:Value) (w3:Value),(j<=zs4.length)/\(m3.length<=os.length+k)/\(∀v∈m3,0<=v/\v<((mm+k:Nat):Int))/\F=sF [4,5,7,10,14,16,17,18,19] fz [(11,Xg (((xs++(zs2.map (Zx 14)))++[y1])++(zs4.map (Zx 15))) v3),(12,ZH vs w3),(13,ZH m3 u3),(20,.i j)]/\h=[Zi gz 7,Zi gz 8,Zi gz 9,.tail u3 1,.tail v3 5,.tail w3 1]/\m=zs4.length-j) _ _ _ ⟨0,zs3,v9,v11,w,ob,ob,(fun v hv=>Wh v (hla.2 v hv)),rfl,rfl,rfl⟩ (wk [7,7,7,2,0,6] (fw (fr (Ya fl)))) ?_)))
  rintro m F h ⟨j,m3,u3,v3,w3,VA,Xs,XT,rfl,rfl,rfl⟩
  refine YM 2 (iw (Yc zs4) (Y2 ((j:Int)<(zs4.length:Int)) (fun Zj=>?_) (fun Zj=>?_)))
  ·refine ak (aq (ab 3 (az (Z0 3 ?_))))
   obtain ⟨x2,Zu⟩:=Zt zs4 j om
   refine Zs (Zh none (j:Int) 1 (Y8 Zu)) (ZQ 1 [(92,Z4 m3)] (ic [] (Pl m3 x2) ?_))
   rintro _ _ ⟨v12,rfl,rfl⟩
   exact Z1 (az (Z0 1 (ZD j (Z1 (ZF ⟨j+1,(TY m3 x2),v12,v3,w3,ob,(V6 (Fd _ _) Xs),(fun v hv=>XT v (DR hv)),rfl,rfl,rfl⟩ (wk [1,1,1,0,1,1] (fw (fr (ZI j fl)))))))))
  refine ax 2 (Yf 2 (iL (Z6 [YZ n vs x1]) 1 1 fun v13=>ZQ 0 [(100,Z4 [YZ n vs x1])] (ip 6 (Z6 (vs++[YZ n vs x1])) (Z6 vs) (Z6 [YZ n vs x1]) w3 none 1 (YD _) (YD _) (W2 _) (by simp<;>omega) (by simp [W1,Z6]) fun v14=>Z1 (ar (Xp [4,5,7,10,11,12,13,14,16,17] [(108,.b (((YZ n vs x1) != 0)&&(decide ((vs.length:Int)∈zs1))))] (fun gz=>gz) ?_ ?_)))))
  ·refine Z0 3 (ib (b:=((YZ n vs x1) != 0)) 104 (fun Zc=>?_) (fun Zc=>?_))
   ·exact Z0 2 (Zw [] (UM zs1 (vs.length:Int)) (Z1 (Zv 7 (Zl (decide ((vs.length:Int)∈zs1)) Zc fl))))
   exact Z1 (Zv 7 (Zl false Zc fl))
  refine ac (((YZ n vs x1) != 0)&&(decide ((vs.length:Int)∈zs1))) (p:=((YZ n vs x1)≠0)/\((vs.length:Int)∈zs1)) (Yu Yp dq) (fun ZA=>?_) (fun ZA=>?_)
  ·exact az (Z0 2 (iL (Z6 [(vs.length:Int)]) 1 1 fun v15=>ZQ 0 [(111,Z4 [(vs.length:Int)])] (ip 6 (Z6 (m3++[(vs.length:Int)])) (Z6 m3) (Z6 [(vs.length:Int)]) u3 none 1 (YD _) (YD _) (W2 _) (by simp<;>omega) (by simp [W1,Z6]) fun v16=>Z1 (az (Z0 1 (ZD k (Z1 (ZF ⟨k+1,(vs++[YZ n vs x1]),v14,(m3++[(vs.length:Int)]),v16,(((xs++(zs2.map (Zx 14)))++[y1])++(zs4.map (Zx 15))),v3,ob,ob,(by first|exact hq3.le om|exact (hq3.cnt (op:=15) (.inr rfl) om).le om),ob,(by first|exact XD (fun v hv=>by have:=XT v hv;omega) om|exact (fun v hv=>by have:=XT v hv;omega)),rfl,rfl,rfl⟩ (wk [4,4,4,0,3,1] (fw (fr (ZI k fl))))))))))))
  refine ar (YB ((YZ n vs x1) != 0) Yp (fun Yi=>?_) (fun Yi=>?_))
  ·exact az (Z0 2 (Zw [] (C3 15 (vs.length:Int)) (UH [X4 (Zx 15 (vs.length:Int))] (ZU [(Zx 15 (vs.length:Int))]) (U5 [(Zx 15 (vs.length:Int))]).symm 1 5 fun v17=>ZQ 0 [(118,Vp [(Zx 15 (vs.length:Int))])] (ip 7 (ZU ((((xs++(zs2.map (Zx 14)))++[y1])++(zs4.map (Zx 15)))++[(Zx 15 (vs.length:Int))])) (ZU (((xs++(zs2.map (Zx 14)))++[y1])++(zs4.map (Zx 15)))) (ZU [(Zx 15 (vs.length:Int))]) v3 none 5 (XE _) (XE _) (Uk _) (by simp<;>omega) (by simp [Vt,ZU]) fun v18=>Z1 (az (Z0 1 (ZD k (Z1 (ZF ⟨k+1,(vs++[YZ n vs x1]),v14,m3,u3,((((xs++(zs2.map (Zx 14)))++[y1])++(zs4.map (Zx 15)))++[(Zx 15 (vs.length:Int))]),v18,ob,ob,(by first|exact hq3.le om|exact (hq3.cnt (op:=15) (.inr rfl) om).le om),ob,(by first|exact XD (fun v hv=>by have:=XT v hv;omega) om|exact (fun v hv=>by have:=XT v hv;omega)),rfl,rfl,rfl⟩ (wk [4,4,4,4,0,1] (fw (fr (ZI k fl)))))))))))))
  exact ak (az (Z0 1 (ZD k (Z1 (ZF ⟨k+1,(vs++[YZ n vs x1]),v14,m3,u3,(((xs++(zs2.map (Zx 14)))++[y1])++(zs4.map (Zx 15))),v3,ob,ob,(by first|exact hq3.le om|exact (hq3.cnt (op:=15) (.inr rfl) om).le om),ob,(by first|exact XD (fun v hv=>by have:=XT v hv;omega) om|exact (fun v hv=>by have:=XT v hv;omega)),rfl,rfl,rfl⟩ (wk [2,2,2,2,2,0] (fw (fr (ZI k fl)))))))))
 have hxl:=ZB.len
 have htl:=KN b.steps k
 refine ax 0 (Ys 3 [1] ?_)
 obtain ⟨x3,YP⟩:=Zt vs b.result.toNat om
 refine Zs (Zh (some w) b.result 1 (Y8 YP)) (Xp [7,10,11] [(138,.b ((x3 != 0)&&((decide (b.result∈ls))||(!(decide (b.result∈ms))))))] (fun gz=>gz) ?_ ?_)
 ·refine Z0 3 (ib (b:=(x3 != 0)) 126 (fun ZC=>?_) (fun ZC=>?_))
  ·refine Zz 3 [1] (Zw [] (UM ls b.result) (Z0 1 (ib (b:=(decide (b.result∈ls))) 131 (fun Yn=>?_) (fun Yn=>?_))))
   ·exact Z1 (Zv 6 (Zl true (And.intro ZC Yn) fl))
   exact QI 3 [(132,Z4 ms)] [1] (Zw [] (UM ms b.result) (Z1 (Zv 6 (Zl (!(decide (b.result∈ms))) (And.intro ZC Yn) fl))))
  exact Z1 (Zv 6 (Zl false ZC fl))
 refine ac ((x3 != 0)&&((decide (b.result∈ls))||(!(decide (b.result∈ms))))) (p:=(x3≠0)/\((b.result∈ls)∨(¬(b.result∈ms)))) (Yu Yp (ZO dq (Yh dq))) (fun YG=>?_) (fun YG=>?_)
 ·exact az (Zz 3 [1] (Zw [] (C3 14 b.result) (UH [X4 (Zx 14 b.result)] (ZU [Zx 14 b.result]) (U5 [Zx 14 b.result]).symm 1 5 fun v19=>ZQ 0 [(143,Vp [Zx 14 b.result])] (ip 5 (ZU (xs++[Zx 14 b.result])) (ZU xs) (ZU [Zx 14 b.result]) v none 5 (XE _) (XE _) (Uk _) (by simp<;>omega) (by simp [Vt,ZU]) fun v20=>Z1 (Zq 4 [3] (Zy 2 b3 [Xg (xs++[Zx 14 b.result]) v20,.i b.result] (ie (ZY (r3 [] [.agg [Xg (xs++[Zx 14 b.result]) v20,.i b.result]] [0] [(b3,b3)] ⟨(Z8.mk (xs++[Zx 14 b.result]) b.result),rfl,rfl,(((ZB.cnt (op:=14) (.inl rfl) om).block om).le (by have:=KN b.steps k;omega))⟩ (Zd.agg (.cons (Zd.forget _ _) (.cons (lr _) .nil))))))))))))
 exact ak (Zq 4 [1] (Zy 0 b3 [Xg xs v,.i b.result] (ie (ZY (r3 [] [.agg [Xg xs v,.i b.result]] [0] [(b3,b3)] ⟨(Z8.mk xs b.result),rfl,rfl,((ZB.block om).le (by have:=KN b.steps k;omega))⟩ (Zd.agg (.cons (Zd.forget _ _) (.cons (lr _) .nil))))))))
theorem Z81 (n:ZG) (us:LI) (b:Z8) (os:LI) (ls:LI) (mm:Nat) (hn:Xu n:=by exact ob) (hf:fB n.decls n.routines.length mm b:=by exact ob) (hop:Vq WP b:=by exact ob) (hul:us.length=mm:=by exact ob) (hm:mm+4*b.sz<=100000:=by exact ob) (hor:∀v∈os,0<=v/\v<(mm:Int)) (hol:os.length+4*b.sz<=730:=by exact ob) (hal:ls.length+2000*b.sz<=1000000:=by exact ob) (hbz:b.sz<=500:=by exact ob):Zo 186 [YF n,Z4 us,Yq b,Z4 os,Z4 ls] [] (fun r h=>∃(y:Z8),r=Yq y/\h=[]/\KB n.decls n.routines.length mm y (4500*b.sz)):=by
 have key:∀k:Nat,∀(us2:LI) (b2:Z8) (os2:LI) (as2:LI) (m2:Nat),(fB n.decls n.routines.length m2 b2)->(Vq WP b2)->(us2.length=m2)->(m2+4*b2.sz<=100000)->(∀v∈os2,0<=v/\v<(m2:Int))->(os2.length+4*b2.sz<=730)->(as2.length+2000*b2.sz<=1000000)->(b2.sz<=500)->(b2.sz<k)->Zo 186 [YF n,Z4 us2,Yq b2,Z4 os2,Z4 as2] [] (fun r h=>∃(y:Z8),r=Yq y/\h=[]/\KB n.decls n.routines.length m2 y (4500*b2.sz)):=by
  intro k
  induction k with
  | zero=>intro us2 b2 os2 as2 m2 h1 h2 h3 h4 h5 h6 h7 h8 h9;omega
  | succ k ih=>intro us2 b2 os2 as2 m2 h1 h2 h3 h4 h5 h6 h7 h8 h9;exact Z82 n us2 b2 os2 as2 m2 hn h1 h2 h3 h4 h5 h6 h7 h8 fun us3 b3 os3 as3 m3 q1 q2 q3 q4 q5 q6 q7 q8 q9=>ih us3 b3 os3 as3 m3 q1 q2 q3 q4 q5 q6 q7 q8 om
 exact key (b.sz+1) us b os ls mm hf hop hul hm hor hol hal hbz om
theorem Z83 (n:ZG) (rt:YE) (qz:Nat) (hn:Xu n:=by exact ob) (hr:RF n.decls n.routines.length qz WP rt:=by exact ob) (hqz:qz<=181:=by exact ob):Zo 168 [YF n,JY rt] [] (fun r h=>∃(y:Z8),r=Yq y/\h=[]/\KB n.decls n.routines.length rt.params.length y (4500*qz+10)):=by
 have hrp:rt.params.length<=3:=(Tm.bd (f:=⟨rt.params,rt.result,default⟩) hr.sig).1
 have hrl:=hr.lent.1
 have hrz:=hr.body.2
 refine ZE 65 Tryz.func168 (ar (iA (X8 n) fun b1=>iA (JH rt) fun b2=>iA [nl,.i 0] fun b3=>ie (Zq 4 [1,1] (iw (Yc rt.params) (Zw [] (Z0y rt.body (rt.params.length:Int)) ?_)))))
 have hub:=I0 (n:=(rt.params.length:Int)) rt.body []
 simp only [YC,Wj] at hub
 refine Z1 (ar (iL (Z6 []) 0 1 fun v1=>Z1 (ar (iL (Z6 []) 0 1 fun v2=>?_))))
 refine Z1 (Y6 (ab 0 (Y0 (fun fz gz m F h=>∃(k:Nat) (os:LI) (u:Value) (dr:LI) (w:Value),(k<=rt.params.length)/\(os.length<=k)/\(dr.length<=k)/\(∀v∈os,0<=v/\v<(rt.params.length:Int))/\(∀v∈dr,0<=v/\v<(rt.params.length:Int))/\F=sF [2,3,4,5] fz [(6,ZH os u),(7,ZH dr w),(8,.i k)]/\h=[Zi gz 2,Zi gz 3,Zi gz 4,.tail u 1,.tail w 1]/\m=rt.params.length-k) _ _ _ ⟨0,[],v1,[],v2,ob,ob,ob,(fun v hv=>by cases hv),(fun v hv=>by cases hv),rfl,rfl,rfl⟩ (wk [2,2,2,1,0] (fw (Ya fl))) ?_)))
 rintro m F h ⟨k,os,u,dr,w,Yj,Zf,ZB,YL,Wh,rfl,rfl,rfl⟩
 refine Ys 3 [1] (iw (Yc rt.params) (Y2 ((k:Int)<(rt.params.length:Int)) (fun Z9=>?_) (fun Z9=>?_)))
 ·refine ak (aq (ab 1 (Zq 3 [1] ?_)))
  obtain ⟨x1,Z3⟩:=Zt rt.params k om
  refine Zs (Zh none (k:Int) 1 (Y8 Z3)) (Xp [2,3,4,5,6,7,8] [(37,.b ((x1 != 0)&&(!(decide ((k:Int)∈rt.lent)))))] (fun gz=>gz) ?_ ?_)
  ·refine Z0 3 (ib (b:=(x1 != 0)) 31 (fun Zc=>?_) (fun Zc=>?_))
   ·exact Zz 3 [1] (Zw [] (UM rt.lent (k:Int)) (Z1 (Zv 5 (Zl (!(decide ((k:Int)∈rt.lent))) Zc fl))))
   exact Z1 (Zv 5 (Zl false Zc fl))
  refine ac ((x1 != 0)&&(!(decide ((k:Int)∈rt.lent)))) (p:=(x1≠0)/\(¬((k:Int)∈rt.lent))) (Yu Yp (Yh dq)) (fun Zj=>?_) (fun Zj=>?_)
  ·refine Yf 2 (Zw [] (UM (UW (rt.params.length:Int) rt.body []) (k:Int)) (ie (WA ((k:Int)∈(UW (rt.params.length:Int) rt.body [])) (fun ZA=>?_) (fun ZA=>?_))))
   ·exact az (Z0 2 (iL (Z6 [(k:Int)]) 1 1 fun v3=>ZQ 0 [(43,Z4 [(k:Int)])] (ip 4 (Z6 (os++[(k:Int)])) (Z6 os) (Z6 [(k:Int)]) u none 1 (YD _) (YD _) (W2 _) (by simp<;>omega) (by simp [W1,Z6]) fun v4=>Z1 (az (Z0 1 (ZD k (Z1 (ZF ⟨k+1,(os++[(k:Int)]),v4,dr,w,ob,ob,ob,(by first|exact YL|exact XD YL om),(by first|exact Wh|exact XD Wh om),rfl,rfl,rfl⟩ (wk [2,2,2,0,1] (fw (ZI k fl)))))))))))
   exact az (Z0 2 (iL (Z6 [(k:Int)]) 1 1 fun v5=>ZQ 0 [(47,Z4 [(k:Int)])] (ip 5 (Z6 (dr++[(k:Int)])) (Z6 dr) (Z6 [(k:Int)]) w none 1 (YD _) (YD _) (W2 _) (by simp<;>omega) (by simp [W1,Z6]) fun v6=>Z1 (az (Z0 1 (ZD k (Z1 (ZF ⟨k+1,os,u,(dr++[(k:Int)]),v6,ob,ob,ob,(by first|exact YL|exact XD YL om),(by first|exact Wh|exact XD Wh om),rfl,rfl,rfl⟩ (wk [2,2,2,2,0] (fw (ZI k fl)))))))))))
  exact ak (az (Z0 1 (ZD k (Z1 (ZF ⟨k+1,os,u,dr,w,ob,ob,ob,(by first|exact YL|exact XD YL om),(by first|exact Wh|exact XD Wh om),rfl,rfl,rfl⟩ (Zv 5 (fw (ZI k fl))))))))
 refine ax 0 (Zq 6 [2,1,1] (iL (Z6 []) 0 1 fun v7=>ZQ 0 [(54,Z4 os),(55,Z4 [])] (ic [] (Z81 n rt.params rt.body os [] rt.params.length (hf:=hr.body.1) (hop:=hr.op) (hor:=YL) (hal:=(by simp only [YC];omega))) ?_)))
 rintro _ _ ⟨y1,rfl,rfl,YR⟩
 have hkb:=YR
 have hkl:=hkb.len
 refine iA [nl,.i 0] fun b4=>Zy 0 b4 (XV y1) (ie (aD 9 (Dm 4 9 [0,2,3,5,6] [(57,Z4 dr)] [0,0] (Z7 1 (dc 1 [] [0,0] [b4,b4] (KL 15 dr) ?_)))))
 rintro _ _ ⟨v8,rfl,rfl⟩
 exact Z7 4 (dp 4 0 [0] [b4] (ZU ((dr.map (Zx 15))++y1.steps)) (ZU (dr.map (Zx 15))) (ZU y1.steps) v8 none 5 (XE _) (XE _) (Uk _) (by simp<;>omega) (by simp [Vt,ZU]) fun v9=>Zp 1 2 [7] (Z7 8 (X3 8 3 [] [] b3 [Xg ((dr.map (Zx 15))++y1.steps) v9,.i y1.result] (de (ZY (r3 [] [.agg [Xg ((dr.map (Zx 15))++y1.steps) v9,.i y1.result]] [0] [(b3,b3)] ⟨(Z8.mk ((dr.map (Zx 15))++y1.steps) y1.result),rfl,rfl,((hkb.put1 (op:=15) (.inr rfl) Wh).le om)⟩ (Zd.agg (.cons (Zd.forget _ _) (.cons (lr _) .nil)))))))))
theorem Z86 (n:ZG) (qz:Nat) (hn:FO n qz WP:=by exact ob) (hqz:qz<=181:=by exact ob):Zo 148 [YF n] [] (fun r h=>∃(n2:ZG),r=YF n2/\h=[]/\FO n2 (4500*qz+10) Vy):=by
 have hnl:=hn.fn.len
 have Xq:=hn.fn.decls.ok
 have hok:=hn.fn.ok
 refine ZE 36 Tryz.func148 (ar (iA (X8 n) fun b1=>iA [nl,nl] fun b2=>ie (Zq 2 [1] (Zw [] (Bf n.decls) (iL (X9 []) 0 5 fun v1=>Z0 1 (iA [nl,nl] fun b3=>?_))))))
 refine Zy 0 b3 [Ye n.decls,WT [] v1] (ie (Y6 (ab 0 (Y0 (fun fz gz m F h=>∃(k:Nat) (rs:List YE) (u:Value),(k<=n.routines.length)/\(rs.length=k)/\(∀r∈rs,RF n.decls n.routines.length (4500*qz+10) Vy r)/\F=sF [1,2,3] fz [(4,.i k)]/\h=[.obj b3 [Ye n.decls,WT rs u],Zi gz 2,Zi gz 3,.tail u 5]/\m=n.routines.length-k) _ _ _ ⟨0,[],v1,ob,ob,(fun r hr=>by cases hr),rfl,rfl,rfl⟩ (wk [0,1,1,0] (Ya fl)) ?_))))
 rintro m F h ⟨k,rs,u,Yj,Zf,ZB,rfl,rfl,rfl⟩
 refine Ys 3 [2] (iw (TS n.routines) (Y2 ((k:Int)<(n.routines.length:Int)) (fun Z9=>?_) (fun Z9=>?_)))
 ·refine ak (aq (ab 1 (aE 19 (ZW 14 19 [0,1,2,3,4] [0,2] ?_))))
  obtain ⟨x1,Z3⟩:=Zt n.routines k om
  have hrf:=hn.rf (Y3 Z3)
  have hrp:(x1).params.length<=3:=(Tm.bd (f:=⟨(x1).params,(x1).result,default⟩) hrf.sig).1
  have hrl:=hrf.lent.1
  have hrz:=hrf.body.2
  refine dx 5 (Zh none (k:Int) 5 (VJ Z3)) (ZW 8 13 [6,7,8,9,10] [2,2] (dx 11 (Zh none (k:Int) 5 (VJ Z3)) (Zp 6 7 [12] (Z7 13 (dc 13 [] [2,0] [b1,b3] (Z83 n x1 qz (hr:=hrf)) ?_)))))
  rintro _ _ ⟨y1,rfl,rfl,Y4⟩
  have hkb:=Y4
  exact Z7 14 (YH 14 [] [0] [b3] (E7 x1 y1 (hp:=om) (hl:=om)) (Z7 15 (dL 15 [0] [b3] (X9 [YE.mk x1.params x1.lent x1.result y1]) 1 5 fun v2=>Yt 3 3 [] [(32,JM [YE.mk x1.params x1.lent x1.result y1])] (Z7 16 (dp 16 4 [] [] (X9 (rs++[YE.mk x1.params x1.lent x1.result y1])) (X9 rs) (X9 [YE.mk x1.params x1.lent x1.result y1]) u none 5 (T9 _) (T9 _) (BA _) (by simp<;>omega) (by simp [Dt,X9]) fun v3=>Zp 1 2 [17] (Z7 18 (X3 18 2 [] [] b3 [Ye n.decls,WT (rs++[YE.mk x1.params x1.lent x1.result y1]) v3] (de (az (Z0 1 (ZD k (Z1 (ZF ⟨k+1,(rs++[YE.mk x1.params x1.lent x1.result y1]),v3,ob,ob,(XD ZB (by first|exact hrf.with hkb.fb hkb.sz hkb.op|(rw [Z8.eta];exact hrf.with hkb.fb hkb.sz hkb.op))),rfl,rfl,rfl⟩ (wk [0,2,2,0] (ZI k fl)))))))))))))))
 exact ax 0 (Zq 1 [0] (Zy 1 b2 [Ye n.decls,WT rs u] (ie (ZY (r3 [] [.agg [Ye n.decls,WT rs u]] [0] [(b2,b2)] ⟨(ZG.mk n.decls rs),rfl,rfl,(FO.fin hn.fn om ZB).1⟩ (Zd.agg (.cons (lr _) (.cons (Zd.forget _ _) .nil))))))))
theorem Z7y (n:ZG) (us:LI) (s:Z5) (mm:Nat) (hn:Xu n:=by exact ob) (hf:FS n.decls n.routines.length mm s:=by exact ob) (hvl:us.length=mm:=by exact ob) (hm:mm<=100000000:=by exact ob):Zo 189 [YF n,Z4 us,X4 s] [] (fun r h=>∃(zs:LI),r=Z4 zs/\h=[]/\zs.length<=s.args.length/\∀z∈zs,z∈s.args):=by
 have hal:=hf.alen
 refine ZE 31 Tryz.func189 (ar (iA (X8 n) fun b1=>iA (Wd s) fun b2=>Z1 (ar (iL (Z6 []) 0 1 fun v1=>?_))))
 refine Z1 (Y6 (ab 0 (Y0 (fun fz gz m F h=>∃(k:Nat) (zs:LI) (u:Value),(k<=s.args.length)/\(zs.length<=k)/\(∀z∈zs,z∈s.args)/\F=sF [1,3,5] fz [(7,ZH zs u),(8,.i k)]/\h=[Zi gz 1,Zi gz 2,.tail u 1]/\m=s.args.length-k) _ _ _ ⟨0,[],v1,ob,ob,(fun z hz=>by cases hz),rfl,rfl,rfl⟩ (wk [1,1,0] (fr (Ya fl))) ?_)))
 rintro m F h ⟨k,zs,u,Yj,Zf,ZB,rfl,rfl,rfl⟩
 refine Ys 3 [0] (iw (Yc s.args) (Y2 ((k:Int)<(s.args.length:Int)) (fun Z9=>?_) (fun Z9=>?_)))
 ·obtain ⟨a1,ha1⟩:=Zt s.args k om
  have har:=hf.args a1 (Y3 ha1)
  refine ak (aq (ab 1 (Zq 4 [1,0] (Zw [] (HO n us s k a1 (hnum:=hf.call) (ha:=ha1)) (ie (ac (Jt n us s.op s.num a1 k) Iff.rfl (fun Zj=>?_) (fun Zj=>?_)))))))
  ·exact az (Zz 4 [0] (Zs (Zh none (k:Int) 1 (Y8 ha1)) (Z0 1 (iL (Z6 [a1]) 1 1 fun v2=>ZQ 0 [(28,Z4 [a1])] (ip 3 (Z6 (zs++[a1])) (Z6 zs) (Z6 [a1]) u none 1 (YD _) (YD _) (W2 _) (by simp<;>omega) (by simp [W1,Z6]) fun v3=>Z1 (az (Z0 1 (ZD k (Z1 (ZF ⟨k+1,(zs++[a1]),v3,ob,ob,(by first|exact ZB|exact XD ZB (Y3 ha1)),rfl,rfl,rfl⟩ (wk [2,2,0] (fr (ZI k fl)))))))))))))
  exact ak (az (Z0 1 (ZD k (Z1 (ZF ⟨k+1,zs,u,ob,ob,(by first|exact ZB|exact XD ZB (Y3 ha1)),rfl,rfl,rfl⟩ (Zv 3 (fr (ZI k fl))))))))
 exact ax 0 (ar (Zm (r2 [] [ZH zs u] ⟨zs,rfl,rfl,⟨by omega,ZB⟩⟩ (Zd.forget _ _))))
theorem Z8m (n:ZG) (us:LI) (s:Z5) (mm:Nat) (bb:Nat) (hn:Xu n:=by exact ob) (hf:FS n.decls n.routines.length mm s:=by exact ob) (h11:s.op<=11:=by exact ob) (hop:Ka WP s.kids:=by exact ob) (hul:us.length=mm:=by exact ob) (hm:mm+4*s.sz<=100000:=by exact ob) (hbz:s.sz<=500:=by exact ob) (hb:s.sz<=bb:=by exact ob) (ih:∀(us2:LI) (b2:Z8) (mi2:LI) (m2:Nat),(fB n.decls n.routines.length m2 b2)->(Vq WP b2)->(us2.length=m2)->(m2+4*b2.sz<=100000)->(∀v∈mi2,0<=v/\v<(m2:Int))->(mi2.length<=3)->(b2.sz<=500)->(b2.sz<bb)->Zo 169 [YF n,Z4 us2,Yq b2,Z4 mi2] [] (fun r h=>∃(y:Z8),r=Yq y/\h=[]/\KB n.decls n.routines.length m2 y (60*b2.sz))):Zo 190 [YF n,Z4 us,X4 s] [] (fun r h=>∃(y:Z5),r=X4 y/\h=[]/\KT n.decls n.routines.length mm y (60*YW s.kids+23)):=by
 have Xq:=hn.decls
 have hkf:=hf.few Xq
 have hsa:=hf.alen
 refine ZE 72 Tryz.func190 (ar (iA (X8 n) fun b1=>iA (Wd s) fun b2=>iA [.i 0,.i 0,.i 0,nl,nl] fun b3=>ie (ar (iL (XP []) 0 2 fun v1=>Z1 (Zq 4 [3,2] (ic [] (Jd n.decls s.num) ?_))))))
 rintro _ _ ⟨v2,rfl,rfl⟩
 refine Z1 (Y6 (ab 0 (Y0 (fun fz gz m F h=>∃(k:Nat) (ks:List Z8) (u:Value),(k<=s.kids.length)/\(ks.length=k)/\(KK n.decls n.routines.length (WX n.decls s.op s.num mm) ks (60*YW (s.kids.take k)+6*k))/\F=sF [1,3,5,6] fz [(7,Qp ks u),(8,Z4 (ZZ n.decls s.num)),(9,.i k)]/\h=[Zi gz 2,Zi gz 3,Zi gz 4,.tail u 2]/\m=s.kids.length-k) _ _ _ ⟨0,[],v1,ob,ob,(KK.nil.le (Q9 _)),rfl,rfl,rfl⟩ (wk [2,2,2,1] (fr (fc (x:=ZH (ZZ n.decls s.num) v2) (Zd.forget _ _) (Ya fl)))) ?_)))
 rintro m F h ⟨k,ks,u,Yj,Zf,ZB,rfl,rfl,rfl⟩
 refine Ys 3 [1] (iw (Kt s.kids) (Y2 ((k:Int)<(s.kids.length:Int)) (fun Z9=>?_) (fun Z9=>?_)))
 ·refine ak (aq (ab 1 (ar (iL (Z6 []) 0 1 fun v3=>?_))))
  refine Z1 (Xd (V4 [2] (Xv (fun fz gz F h=>∃(fds:LI),(WX n.decls s.op s.num mm k=mm+fds.length)/\(fds.length<=3)/\F=sF [1,3,5,6,7,8,9] fz [(10,Z4 fds)]/\h=[Zi gz 1,Zi gz 2,Zi gz 3,Zi gz 4]) ?_ ?_)))
  ·refine ac (s.op==8) Ze (fun Zj=>?_) (fun Zj=>?_)
   ·refine aE 8 (ZW 4 8 [0,1,2,3] [3] ?_)
    obtain ⟨x1,Z3⟩:=Zt (ZZ n.decls s.num) k (by have:=hf.k8 (by assumption);omega)
    have hcf:=Vj Xq x1
    exact dx 4 (Zh none (k:Int) 1 (Y8 Z3)) (Zp 2 3 [5] (Z7 6 (YH 6 [] [] [] (Qr n.decls x1) (Zp 0 1 [7] (de (ZJ ⟨ZP n.decls x1,(Mv (by assumption) Z3),ob,rfl,rfl⟩ (wk [1,1,1,1] fl)))))))
   exact ak (ZJ ⟨[],(by rw [Mw (by assumption)];rfl),ob,rfl,rfl⟩ (wk [1,1,1,1] fl))
  rintro F h ⟨fds,VD,B8,rfl,rfl⟩
  refine Yf 2 (iw (Yc us) (ic [] (Pb fds us.length) ?_))
  rintro _ _ ⟨xs1,rfl,rfl,Y4⟩
  have hhf:=Y4
  refine Z1 (aD 13 (ZW 7 13 [0,1,2,4,5,6] [2,1] ?_))
  obtain ⟨x2,Zu⟩:=Zt s.kids k om
  have hkz:=Qm Zu
  have hfk:=BD hf.kids Zu
  rw [Wj,VD] at hfk
  have hok:=DP.1 hop x2 (Y3 Zu)
  have hbt:=Ga Zu
  have hba:=Gc Zu
  refine dx 7 (Zh none (k:Int) 2 (US Zu)) (Zp 4 6 [8,9] (Bw (fun fz gz F h=>∃(y1:Z8) (b4:Nat),(KB n.decls n.routines.length (mm+fds.length) y1 (60*x2.sz))/\F=sF [1,3,5,6,7,8,9,11] fz [(12,.p b4 0)]/\h=[.obj b4 (XV y1),Zi gz 0,Zi gz 1,Zi gz 2,Zi gz 3]) ?_ ?_))
  ·refine Uj 3 11 ?_ ?_
   ·refine dc 3 [] [1,2] [b2,b1] (Tz us fds) ?_
    rintro _ _ ⟨v4,rfl,rfl⟩
    refine Yt 3 3 [] [(44,Z4 (us++fds))] (Uj 10 11 ?_ ?_)
    ·refine dc 10 [] [] [] (ih (us++fds) x2 xs1 (mm+fds.length) hfk hok (by rw [ZX,hul]) ob (fun v hv=>by have:=hhf.2 v hv;omega) ob ob ob) ?_
     rintro _ _ ⟨y1,rfl,rfl,Yr⟩
     have hkb:=Yr
     have hkl:=hkb.len
     exact Z7 11 (dA 11 [] [] [nl,.i 0] fun b4=>Z7 12 (X3 12 0 [] [] b4 (XV y1) (de (ZJ ⟨_,b4,(by assumption),rfl,rfl⟩ (wk [0,1,1,1,1] fl)))))
    refine dA 11 [1,2] [b2,b1] [nl,.i 0] fun b5=>Z7 10 (dc 10 [] [] [] (ih (us++fds) x2 xs1 (mm+fds.length) hfk hok (by rw [ZX,hul]) ob (fun v hv=>by have:=hhf.2 v hv;omega) ob ob ob) ?_)
    rintro _ _ ⟨y2,rfl,rfl,YR⟩
    have hkb:=YR
    have hkl:=hkb.len
    exact Z7 12 (X3 12 0 [] [] b5 (XV y2) (de (ZJ ⟨_,b5,(by assumption),rfl,rfl⟩ (wk [0,1,1,1,1] fl))))
   refine dA 11 [1,2] [b2,b1] [nl,.i 0] fun b6=>Z7 3 (dc 3 [] [2,3] [b2,b1] (Tz us fds) ?_)
   rintro _ _ ⟨v5,rfl,rfl⟩
   refine Yt 2 2 [] [(44,Z4 (us++fds))] (Z7 10 (dc 10 [] [] [] (ih (us++fds) x2 xs1 (mm+fds.length) hfk hok (by rw [ZX,hul]) ob (fun v hv=>by have:=hhf.2 v hv;omega) ob ob ob) ?_))
   rintro _ _ ⟨y3,rfl,rfl,YV⟩
   have hkb:=YV
   have hkl:=hkb.len
   exact Z7 12 (X3 12 1 [] [] b6 (XV y3) (de (ZJ ⟨_,b6,(by assumption),rfl,rfl⟩ (wk [0,1,1,1,1] fl))))
  rintro F h ⟨y1,b4,Yr,rfl,rfl⟩
  have hkb:=Yr
  have hkl:=hkb.len
  refine aE 12 (ZW 6 12 [0,1,3,4,6,7] [0,0] (Z7 2 (dc 2 [] [0,0] [b4,b4] (KL 14 xs1) ?_)))
  rintro _ _ ⟨v6,rfl,rfl⟩
  exact Z7 5 (dp 5 0 [0] [b4] (ZU ((xs1.map (Zx 14))++y1.steps)) (ZU (xs1.map (Zx 14))) (ZU y1.steps) v6 none 5 (XE _) (XE _) (Uk _) (by simp<;>omega) (by simp [Vt,ZU]) fun v7=>Yt 3 4 [8] [(60,.agg [Vp ((xs1.map (Zx 14))++y1.steps),.i y1.result])] (Z7 9 (WC 9 [] [] [Yq (Z8.mk ((xs1.map (Zx 14))++y1.steps) y1.result)] (XP [Z8.mk ((xs1.map (Zx 14))++y1.steps) y1.result]) (QW [Z8.mk ((xs1.map (Zx 14))++y1.steps) y1.result]).symm 1 2 fun v8=>Yt 2 2 [] [(61,JL [Z8.mk ((xs1.map (Zx 14))++y1.steps) y1.result])] (Z7 10 (dp 10 6 [] [] (XP (ks++[Z8.mk ((xs1.map (Zx 14))++y1.steps) y1.result])) (XP ks) (XP [Z8.mk ((xs1.map (Zx 14))++y1.steps) y1.result]) u none 2 (KX _) (KX _) (Gk _) (by simp<;>omega) (by simp [Cs,XP]) fun v9=>Zp 0 1 [11] (de (az (Z0 1 (ZD k (Z1 (ZF ⟨k+1,(ks++[Z8.mk ((xs1.map (Zx 14))++y1.steps) y1.result]),v9,ob,ob,((ZB.snoc Zf (by rw [VD];exact hkb.put1 (op:=14) (.inl rfl) (fun v hv=>by have:=hhf.2 v hv;omega))).le om),rfl,rfl,rfl⟩ (wk [4,4,4,0] (fw (ZI k fl))))))))))))))
 refine ax 0 (aD 10 (ZW 3 10 [0,1,2,3,4,5,7] [1,1,1] (Z7 6 (dc 6 [] [1,1] [b2,b2] (WV s.args) ?_))))
 rintro _ _ ⟨v10,rfl,rfl⟩
 exact Zp 1 2 [8] (Z7 9 (X3 9 1 [] [] b3 [.i s.op,.i s.num,.i 0,ZH s.args v10,Qp ks u] (de (ZY (r3 [] [.agg [.i s.op,.i s.num,.i 0,ZH s.args v10,Qp ks u]] [0] [(b3,b3)] ⟨(Z5.mk s.op s.num 0 s.args ks),rfl,rfl,((KT.of (into:=0) hf h11 om om ZB).le (by have:=Ix (xs:=s.kids) (k:=k) om;omega))⟩ (Zd.agg (.cons (lr _) (.cons (lr _) (.cons (lr _) (.cons (Zd.forget _ _) (.cons (Zd.forget _ _) .nil)))))))))))
theorem Z8l (n:ZG) (us:LI) (b:Z8) (mi:LI) (mm:Nat) (hn:Xu n) (hf:fB n.decls n.routines.length mm b) (hop:Vq WP b) (hul:us.length=mm) (hm:mm+4*b.sz<=100000) (hmr:∀v∈mi,0<=v/\v<(mm:Int)) (hml:mi.length<=3) (hbz:b.sz<=500) (ih:∀(us2:LI) (b2:Z8) (mi2:LI) (m2:Nat),(fB n.decls n.routines.length m2 b2)->(Vq WP b2)->(us2.length=m2)->(m2+4*b2.sz<=100000)->(∀v∈mi2,0<=v/\v<(m2:Int))->(mi2.length<=3)->(b2.sz<=500)->(b2.sz<b.sz)->Zo 169 [YF n,Z4 us2,Yq b2,Z4 mi2] [] (fun r h=>∃(y:Z8),r=Yq y/\h=[]/\KB n.decls n.routines.length m2 y (60*b2.sz))):Zo 169 [YF n,Z4 us,Yq b,Z4 mi] [] (fun r h=>∃(y:Z8),r=Yq y/\h=[]/\KB n.decls n.routines.length mm y (60*b.sz)):=by
 have Xq:=hn.decls
 have hbe:=b.sz_eq
 have ZL:=Ux b
 obtain ⟨hfs,hr1,hr2⟩:=(KY b).1 hf
 have hos:=CS.1 ((Hl b).1 hop)
 have hdn:=IJ hos
 have hdl:=hdn b.steps.length (X0 _)
 rw [Ub] at hdl
 refine ZE 80 Tryz.func169 (ar (iA (X8 n) fun b1=>iA (XV b) fun b2=>iA [nl,.i 0] fun b3=>ie (ar (iL (ZU []) 0 5 fun v1=>Z1 (Yf 1 (ic [] (WV us) ?_))))))
 rintro _ _ ⟨v2,rfl,rfl⟩
 refine Z1 (Yf 1 (ic [] (WV mi) ?_))
 rintro _ _ ⟨v3,rfl,rfl⟩
 refine Z1 (Y6 (ab 0 (Y0 (fun fz gz m F h=>∃(k:Nat) (vs:LI) (w:Value) (ow:LI) (u:Value) (xs:List Z5) (v:Value) (z0:Nat),(k<=b.steps.length)/\(vs.length=mm+k)/\(CL n.decls n.routines.length mm xs k z0)/\(z0+2*ow.length<=60*Yw (b.steps.take k)+2*mi.length)/\(∀v∈ow,0<=v/\v<((mm+k:Nat):Int))/\F=sF [4,6,8] fz [(9,Xg xs v),(10,ZH vs w),(11,ZH ow u),(12,.i k)]/\h=[Zi gz 3,Zi gz 4,Zi gz 5,.tail u 1,.tail v 5,.tail w 1]/\m=b.steps.length-k) _ _ _ ⟨0,us,v2,mi,v3,[],v1,0,ob,ob,CL.nil,(by simp),hmr,rfl,rfl,rfl⟩ (wk [3,3,3,0,1,0] (fw (fr (Ya fl)))) ?_)))
 rintro m F h ⟨k,vs,w,ow,u,xs,v,z0,Yj,Zf,ZB,YL,Wh,rfl,rfl,rfl⟩
 refine Ys 3 [1] (iw (UB b.steps) (Y2 ((k:Int)<(b.steps.length:Int)) (fun Z9=>?_) (fun Z9=>?_)))
 ·refine ak (aq (ab 1 (Zq 3 [1] ?_)))
  obtain ⟨x1,Z3⟩:=Zt b.steps k om
  have XO:=D3 Z3
  have hfS:=(AY x1).1 (Dx hfs Z3)
  rw [hdn k om] at hfS
  have hoS:=(Fc x1).1 (hos x1 (Y3 Z3))
  have htk:=HP Z3
  have hse:=(x1).sz_eq
  have hal4:=hfS.alen
  have hxl:=ZB.len
  have htl:=KN b.steps (k+1)
  refine Zs (Zh none (k:Int) 5 (V8 Z3)) (Z0 1 (iA [.i 0,.i 0,.i 0,nl,nl] fun b4=>Zy 0 b4 (Wd x1) (ie (ar (QI 3 [(33,Z4 vs)] [3,0] (Zw [] (ME n vs x1 ob ob) (Z1 (ar (QI 4 [(38,Z4 vs)] [3,0] (ic [] (Z7y n vs x1 (mm+k) (hf:=hfS)) ?_))))))))))
  rintro _ _ ⟨zs1,rfl,rfl,Y4⟩
  have hdu:=Y4
  have hq1:=ZB.cnts (op:=14) (.inl rfl) (vs:=zs1) (fun v hv=>hfS.args v (hdu.2 v hv))
  have hl1:=hq1.len
  refine ic [] (KL 14 zs1) ?_
  rintro _ _ ⟨v4,rfl,rfl⟩
  refine ZQ 0 [(41,Vp (zs1.map (Zx 14)))] (ip 6 (ZU (xs++(zs1.map (Zx 14)))) (ZU xs) (ZU (zs1.map (Zx 14))) v none 5 (XE _) (XE _) (Uk _) (by simp<;>omega) (by simp [Vt,ZU]) fun v5=>Z1 (ar (QI 4 [(45,Z4 vs)] [5,2] (ic [] (Z8m n vs x1 (mm+k) b.sz (hf:=hfS) (h11:=hoS.1) (hop:=hoS.2) (ih:=ih)) ?_))))
  rintro _ _ ⟨y1,rfl,rfl,Yr⟩
  have hkt:=Yr
  have hq2:=hq1.kt hkt
  have hl2:=hq2.len
  refine UH [X4 y1] (ZU [y1]) (U5 [y1]).symm 1 5 fun v6=>ZQ 0 [(48,Vp [y1])] (ip 1 (ZU ((xs++(zs1.map (Zx 14)))++[y1])) (ZU (xs++(zs1.map (Zx 14)))) (ZU [y1]) v5 none 5 (XE _) (XE _) (Uk _) (by simp<;>omega) (by simp [Vt,ZU]) fun v7=>Z1 (Xd (YB ((YZ n vs x1) != 0) Yp (fun Zj=>?_) (fun Zj=>?_))))
  ·exact az (Z0 2 (iw (Yc vs) (iL (Z6 [(vs.length:Int)]) 1 1 fun v8=>ZQ 0 [(55,Z4 [(vs.length:Int)])] (ip 8 (Z6 (ow++[(vs.length:Int)])) (Z6 ow) (Z6 [(vs.length:Int)]) u none 1 (YD _) (YD _) (W2 _) (by simp<;>omega) (by simp [W1,Z6]) fun v9=>Z1 (az (Z0 2 (iL (Z6 [YZ n vs x1]) 1 1 fun v10=>ZQ 0 [(59,Z4 [YZ n vs x1])] (ip 10 (Z6 (vs++[YZ n vs x1])) (Z6 vs) (Z6 [YZ n vs x1]) w none 1 (YD _) (YD _) (W2 _) (by simp<;>omega) (by simp [W1,Z6]) fun v11=>Z1 (az (Z0 1 (ZD k (Z1 (ZF ⟨k+1,(vs++[YZ n vs x1]),v11,(ow++[(vs.length:Int)]),v9,((xs++(zs1.map (Zx 14)))++[y1]),v7,_,ob,ob,hq2,(by (try simp only [ZX,Yo,YC]);omega),(by first|exact XD (fun v hv=>by have:=Wh v hv;omega) om|exact (fun v hv=>by have:=Wh v hv;omega)),rfl,rfl,rfl⟩ (wk [8,8,8,2,3,0] (fw (fr (ZI k fl)))))))))))))))))
  exact ak (az (Z0 2 (iL (Z6 [YZ n vs x1]) 1 1 fun v12=>ZQ 0 [(59,Z4 [YZ n vs x1])] (ip 9 (Z6 (vs++[YZ n vs x1])) (Z6 vs) (Z6 [YZ n vs x1]) w none 1 (YD _) (YD _) (W2 _) (by simp<;>omega) (by simp [W1,Z6]) fun v13=>Z1 (az (Z0 1 (ZD k (Z1 (ZF ⟨k+1,(vs++[YZ n vs x1]),v13,ow,u,((xs++(zs1.map (Zx 14)))++[y1]),v7,_,ob,ob,hq2,(by (try simp only [ZX,Yo,YC]);omega),(by first|exact XD (fun v hv=>by have:=Wh v hv;omega) om|exact (fun v hv=>by have:=Wh v hv;omega)),rfl,rfl,rfl⟩ (wk [6,6,6,6,2,0] (fw (fr (ZI k fl)))))))))))))
 have hxl:=ZB.len
 have htl:=KN b.steps k
 refine ax 0 (Ys 3 [1] ?_)
 obtain ⟨x2,Zu⟩:=Zt vs b.result.toNat om
 refine Zs (Zh (some w) b.result 1 (Y8 Zu)) (YB (x2 != 0) Yp (fun ZA=>?_) (fun ZA=>?_))
 ·refine az (Zz 3 [1] (Zw [] (C3 14 b.result) (UH [X4 (Zx 14 b.result)] (ZU [Zx 14 b.result]) (U5 [Zx 14 b.result]).symm 1 5 fun v14=>ZQ 0 [(71,Vp [Zx 14 b.result])] (ip 5 (ZU (xs++[Zx 14 b.result])) (ZU xs) (ZU [Zx 14 b.result]) v none 5 (XE _) (XE _) (Uk _) (by simp<;>omega) (by simp [Vt,ZU]) fun v15=>Z1 (aD 8 (Dm 4 8 [0,1,4,5] [(74,Z4 ow)] [3] (Z7 2 (dc 2 [] [1] [b2] (KL 15 ow) ?_))))))))
  rintro _ _ ⟨v16,rfl,rfl⟩
  exact Yt 3 3 [] [(75,Vp (ow.map (Zx 15)))] (Z7 3 (dp 3 1 [1] [b2] (ZU ((xs++[Zx 14 b.result])++(ow.map (Zx 15)))) (ZU (xs++[Zx 14 b.result])) (ZU (ow.map (Zx 15))) v15 none 5 (XE _) (XE _) (Uk _) (by simp<;>omega) (by simp [Vt,ZU]) fun v17=>Zp 1 2 [6] (Z7 7 (X3 7 3 [] [] b3 [Xg ((xs++[Zx 14 b.result])++(ow.map (Zx 15))) v17,.i b.result] (de (ZY (r3 [] [.agg [Xg ((xs++[Zx 14 b.result])++(ow.map (Zx 15))) v17,.i b.result]] [0] [(b3,b3)] ⟨(Z8.mk ((xs++[Zx 14 b.result])++(ow.map (Zx 15))) b.result),rfl,rfl,((((ZB.cnt (op:=14) (.inl rfl) om).cnts (op:=15) (.inr rfl) (fun v hv=>by have:=Wh v hv;omega)).block om).le (by have:=KN b.steps k;omega))⟩ (Zd.agg (.cons (Zd.forget _ _) (.cons (lr _) .nil))))))))))
 refine ak (aD 8 (Dm 4 8 [0,1,4,5] [(74,Z4 ow)] [1] (Z7 2 (dc 2 [] [1] [b2] (KL 15 ow) ?_))))
 rintro _ _ ⟨v18,rfl,rfl⟩
 exact Yt 3 3 [] [(75,Vp (ow.map (Zx 15)))] (Z7 3 (dp 3 5 [1] [b2] (ZU (xs++(ow.map (Zx 15)))) (ZU xs) (ZU (ow.map (Zx 15))) v none 5 (XE _) (XE _) (Uk _) (by simp<;>omega) (by simp [Vt,ZU]) fun v19=>Zp 1 2 [6] (Z7 7 (X3 7 2 [] [] b3 [Xg (xs++(ow.map (Zx 15))) v19,.i b.result] (de (ZY (r3 [] [.agg [Xg (xs++(ow.map (Zx 15))) v19,.i b.result]] [0] [(b3,b3)] ⟨(Z8.mk (xs++(ow.map (Zx 15))) b.result),rfl,rfl,(((ZB.cnts (op:=15) (.inr rfl) (fun v hv=>by have:=Wh v hv;omega)).block om).le (by have:=KN b.steps k;omega))⟩ (Zd.agg (.cons (Zd.forget _ _) (.cons (lr _) .nil))))))))))
theorem Z8k (n:ZG) (us:LI) (b:Z8) (mi:LI) (mm:Nat) (hn:Xu n:=by exact ob) (hf:fB n.decls n.routines.length mm b:=by exact ob) (hop:Vq WP b:=by exact ob) (hul:us.length=mm:=by exact ob) (hm:mm+4*b.sz<=100000:=by exact ob) (hmr:∀v∈mi,0<=v/\v<(mm:Int)) (hml:mi.length<=3:=by exact ob) (hbz:b.sz<=500:=by exact ob):Zo 169 [YF n,Z4 us,Yq b,Z4 mi] [] (fun r h=>∃(y:Z8),r=Yq y/\h=[]/\KB n.decls n.routines.length mm y (60*b.sz)):=by
 have key:∀k:Nat,∀(us2:LI) (b2:Z8) (mi2:LI) (m2:Nat),(fB n.decls n.routines.length m2 b2)->(Vq WP b2)->(us2.length=m2)->(m2+4*b2.sz<=100000)->(∀v∈mi2,0<=v/\v<(m2:Int))->(mi2.length<=3)->(b2.sz<=500)->(b2.sz<k)->Zo 169 [YF n,Z4 us2,Yq b2,Z4 mi2] [] (fun r h=>∃(y:Z8),r=Yq y/\h=[]/\KB n.decls n.routines.length m2 y (60*b2.sz)):=by
  intro k
  induction k with
  | zero=>intro us2 b2 mi2 m2 h1 h2 h3 h4 h5 h6 h7 h9;omega
  | succ k ih=>intro us2 b2 mi2 m2 h1 h2 h3 h4 h5 h6 h7 h9;exact Z8l n us2 b2 mi2 m2 hn h1 h2 h3 h4 h5 h6 h7 fun us3 b3 mi3 m3 q1 q2 q3 q4 q5 q6 q7 q9=>ih us3 b3 mi3 m3 q1 q2 q3 q4 q5 q6 q7 om
 exact key (b.sz+1) us b mi mm hf hop hul hm hmr hml hbz om
theorem Z94 (rt:YE) (hp:rt.params.length<=1000000:=by exact ob) (hl:rt.lent.length<=1000000:=by exact ob):Zo 170 [JY rt] [] (fun r h=>∃(os:LI),r=Z4 os/\h=[]/\os.length<=rt.params.length/\∀v∈os,0<=v/\v<(rt.params.length:Int)):=by
 refine ZE 31 Tryz.func170 (ar (iA (JH rt) fun b1=>Z1 (ar (iL (Z6 []) 0 1 fun v1=>?_))))
 refine Z1 (Y6 (ab 0 (Y0 (fun fz gz m F h=>∃(k:Nat) (os:LI) (u:Value),(k<=rt.params.length)/\(os.length<=k)/\(∀v∈os,0<=v/\v<(rt.params.length:Int))/\F=sF [1] fz [(3,ZH os u),(4,.i k)]/\h=[Zi gz 1,.tail u 1]/\m=rt.params.length-k) _ _ _ ⟨0,[],v1,ob,ob,(fun v hv=>by cases hv),rfl,rfl,rfl⟩ (wk [1,0] (fr (Ya fl))) ?_)))
 rintro m F h ⟨k,os,u,Yj,Zf,ZB,rfl,rfl,rfl⟩
 refine Ys 3 [0] (iw (Yc rt.params) (Y2 ((k:Int)<(rt.params.length:Int)) (fun Z9=>?_) (fun Z9=>?_)))
 ·refine ak (aq (ab 1 (Zq 3 [0] ?_)))
  obtain ⟨x1,Z3⟩:=Zt rt.params k om
  refine Zs (Zh none (k:Int) 1 (Y8 Z3)) (Xp [1,3,4] [(25,.b ((x1 != 0)&&(!(decide ((k:Int)∈rt.lent)))))] (fun gz=>gz) ?_ ?_)
  ·refine Z0 3 (ib (b:=(x1 != 0)) 19 (fun Zc=>?_) (fun Zc=>?_))
   ·exact Zz 3 [0] (Zw [] (UM rt.lent (k:Int)) (Z1 (wk [0,0] (Zl (!(decide ((k:Int)∈rt.lent))) Zc fl))))
   exact Z1 (wk [0,0] (Zl false Zc fl))
  refine ac ((x1 != 0)&&(!(decide ((k:Int)∈rt.lent)))) (p:=(x1≠0)/\(¬((k:Int)∈rt.lent))) (Yu Yp (Yh dq)) (fun Zj=>?_) (fun Zj=>?_)
  ·exact az (Z0 2 (iL (Z6 [(k:Int)]) 1 1 fun v2=>ZQ 0 [(28,Z4 [(k:Int)])] (ip 2 (Z6 (os++[(k:Int)])) (Z6 os) (Z6 [(k:Int)]) u none 1 (YD _) (YD _) (W2 _) (by simp<;>omega) (by simp [W1,Z6]) fun v3=>Z1 (az (Z0 1 (ZD k (Z1 (ZF ⟨k+1,(os++[(k:Int)]),v3,ob,ob,(by first|exact ZB|exact XD ZB om),rfl,rfl,rfl⟩ (wk [2,0] (fr (ZI k fl)))))))))))
  exact ak (az (Z0 1 (ZD k (Z1 (ZF ⟨k+1,os,u,ob,ob,(by first|exact ZB|exact XD ZB om),rfl,rfl,rfl⟩ (wk [0,0] (fr (ZI k fl))))))))
 exact ax 0 (ar (Zm (r2 [] [ZH os u] ⟨os,rfl,rfl,⟨by omega,ZB⟩⟩ (Zd.forget _ _))))
theorem Z8j (n:ZG) (qz:Nat) (hn:FO n qz WP:=by exact ob) (hqz:qz<=181:=by exact ob):Zo 149 [YF n] [] (fun r h=>∃(n2:ZG),r=YF n2/\h=[]/\FO n2 (60*qz) Vy):=by
 have hnl:=hn.fn.len
 have Xq:=hn.fn.decls.ok
 have hok:=hn.fn.ok
 refine ZE 39 Tryz.func149 (ar (iA (X8 n) fun b1=>iA [nl,nl] fun b2=>ie (Zq 2 [1] (Zw [] (Bf n.decls) (iL (X9 []) 0 5 fun v1=>Z0 1 (iA [nl,nl] fun b3=>?_))))))
 refine Zy 0 b3 [Ye n.decls,WT [] v1] (ie (Y6 (ab 0 (Y0 (fun fz gz m F h=>∃(k:Nat) (rs:List YE) (u:Value),(k<=n.routines.length)/\(rs.length=k)/\(∀r∈rs,RF n.decls n.routines.length (60*qz) Vy r)/\F=sF [1,2,3] fz [(4,.i k)]/\h=[.obj b3 [Ye n.decls,WT rs u],Zi gz 2,Zi gz 3,.tail u 5]/\m=n.routines.length-k) _ _ _ ⟨0,[],v1,ob,ob,(fun r hr=>by cases hr),rfl,rfl,rfl⟩ (wk [0,1,1,0] (Ya fl)) ?_))))
 rintro m F h ⟨k,rs,u,Yj,Zf,ZB,rfl,rfl,rfl⟩
 refine Ys 3 [2] (iw (TS n.routines) (Y2 ((k:Int)<(n.routines.length:Int)) (fun Z9=>?_) (fun Z9=>?_)))
 ·refine ak (aq (ab 1 (Zq 3 [2] ?_)))
  obtain ⟨x1,Z3⟩:=Zt n.routines k om
  have hrf:=hn.rf (Y3 Z3)
  have hrp:(x1).params.length<=3:=(Tm.bd (f:=⟨(x1).params,(x1).result,default⟩) hrf.sig).1
  have hrl:=hrf.lent.1
  have hrz:=hrf.body.2
  refine Zs (Zh none (k:Int) 5 (VJ Z3)) (Z0 1 (iA [nl,nl,.i 0,nl,.i 0] fun b4=>Zy 0 b4 (JH x1) (ie (aE 16 (ZW 7 16 [0,1,2,3,4,5,6,7,8] [1,0,3,0,0,0] (Z7 9 (dc 9 [] [0,0,3,0,1] [b4,b4,b1,b4,b3] (Z94 x1) ?_)))))))
  rintro _ _ ⟨os1,rfl,rfl,Y4⟩
  have hop:=Y4
  refine Z7 10 (dc 10 [] [0,1] [b4,b3] (Z8k n x1.params x1.body os1 _ (hf:=hrf.body.1) (hop:=hrf.op) (hul:=rfl) (hmr:=hop.2)) ?_)
  rintro _ _ ⟨y1,rfl,rfl,Yr⟩
  have hkb0:=Yr
  have hkb:=hkb0.le (z2:=60*qz) om
  exact Z7 11 (YH 11 [] [1] [b3] (E7 x1 y1 (hp:=om) (hl:=om)) (Z7 12 (dL 12 [1] [b3] (X9 [YE.mk x1.params x1.lent x1.result y1]) 1 5 fun v2=>Yt 3 3 [] [(35,JM [YE.mk x1.params x1.lent x1.result y1])] (Z7 13 (dp 13 5 [] [] (X9 (rs++[YE.mk x1.params x1.lent x1.result y1])) (X9 rs) (X9 [YE.mk x1.params x1.lent x1.result y1]) u none 5 (T9 _) (T9 _) (BA _) (by simp<;>omega) (by simp [Dt,X9]) fun v3=>Zp 1 2 [14] (Z7 15 (X3 15 3 [] [] b3 [Ye n.decls,WT (rs++[YE.mk x1.params x1.lent x1.result y1]) v3] (de (az (Z0 1 (ZD k (Z1 (ZF ⟨k+1,(rs++[YE.mk x1.params x1.lent x1.result y1]),v3,ob,ob,(XD ZB (by first|exact hrf.with hkb.fb hkb.sz hkb.op|(rw [Z8.eta];exact hrf.with hkb.fb hkb.sz hkb.op))),rfl,rfl,rfl⟩ (wk [0,3,3,0] (ZI k fl)))))))))))))))
 exact ax 0 (Zq 1 [0] (Zy 1 b2 [Ye n.decls,WT rs u] (ie (ZY (r3 [] [.agg [Ye n.decls,WT rs u]] [0] [(b2,b2)] ⟨(ZG.mk n.decls rs),rfl,rfl,(FO.fin hn.fn om ZB).1⟩ (Zd.agg (.cons (lr _) (.cons (Zd.forget _ _) .nil))))))))
theorem Z0q (s:Z5) :Zo 175 [X4 s] [] (Yx (.b ((s.op==14)||(s.op==15)))):=by
 refine ZE 11 Tryz.func175 (ar (iA (Wd s) fun b1=>Z1 (ar (X6 8 [] [(10,.b ((s.op==14)||(s.op==15)))] (fun gz=>gz) ?_ (fun hj1=>?_)))))
 ·exact Zm (MO)
 refine Zz 4 [0] (ib (b:=(s.op==14)) 6 (fun Zc=>?_) (fun Zc=>?_))
 ·exact Z0 4 (Y5 (wk [0] (Zl true Zc fl)) hj1)
 exact Zz 4 [0] (Y5 (wk [0] (Zl (s.op==15) Zc fl)) hj1)
theorem Z9d (rn:List Z5) (hrn:∀s∈rn,∃a,s.args=[a]) (hl:rn.length<=100000000:=by exact ob):Zo 199 [Vp rn] [] (fun r h=>∃(vs:LI),r=Z4 vs/\h=[]/\Cd vs/\vs.length<=rn.length/\∀v∈vs,∃s∈rn,s.args=[v]):=by
 refine ZE 22 Tryz.func199 (Y1 (ar (iL (Z6 []) 0 1 fun v1=>?_)))
 refine Z1 (Y6 (ab 0 (Y0 (fun fz gz m F h=>∃(k:Nat) (vs:LI),(k<=rn.length)/\(vs.length<=k)/\(Cd vs)/\(∀v∈vs,∃s∈rn,s.args=[v])/\F=sF [0] fz [(3,Z4 vs),(4,.i k)]/\h=[]/\m=rn.length-k) _ _ _ ⟨0,[],ob,ob,List.Pairwise.nil,(fun v hv=>by cases hv),rfl,rfl,rfl⟩ (wk [] (fc (x:=ZH [] v1) (Zd.forget _ _) (Ya fl))) ?_)))
 rintro m F h ⟨k,vs,Yj,Zf,ZB,YL,rfl,rfl,rfl⟩
 refine YM 2 (iw (UB rn) (Y2 ((k:Int)<(rn.length:Int)) (fun Z9=>?_) (fun Z9=>?_)))
 ·refine ak (aq (ab 1 (az (Z0 3 ?_))))
  obtain ⟨x1,Z3⟩:=Zt rn k om
  have hxm:=Y3 Z3
  obtain ⟨xa,hxa⟩:=hrn _ hxm
  refine Zs (Zh none (k:Int) 5 (V8 Z3)) (Z0 2 ?_)
  obtain ⟨x2,Zu⟩:=Zt x1.args 0 (by rw [hxa];simp)
  have hxe:x1.args=[x2]:=by have h:=Zu;rw [hxa] at h;rw [hxa];simpa using h
  refine Zs (Zh none 0 1 (Y8 Zu)) (Z0 1 (ic [] (EM vs x2) ?_))
  rintro _ _ ⟨v2,rfl,rfl⟩
  exact Z1 (az (Z0 1 (ZD k (Z1 (ZF ⟨k+1,(Uf vs x2),ob,(by have:=DG vs x2;omega),(PI ZB),(fun v hv=>(EW.1 hv).elim (YL v) (fun e=>⟨x1,hxm,by rw [e];exact hxe⟩)),rfl,rfl,rfl⟩ (wk [] (fc (x:=ZH (Uf vs x2) v2) (Zd.forget _ _) (ZI k fl))))))))
 exact ax 0 (ar (Zm (r1 [] ⟨vs,rfl,rfl,⟨ZB,by omega,YL⟩⟩)))
theorem Z8w (rn:List Z5) (v:Int) (hrn:∀s∈rn,∃a,s.args=[a]) (hl:rn.length<=100000000:=by exact ob):Zo 200 [Vp rn,.i v] [] (fun r h=>∃(z:Int),r=.i z/\h=[]/\-((VI rn v:Nat):Int)<=z/\z<=((VI rn v:Nat):Int)):=by
 refine ZE 44 Tryz.func200 (Y1 (Y1 (Y6 (ab 0 (Y0 (fun fz gz m F h=>∃(k:Nat) (z:Int),(k<=rn.length)/\(-((VI (rn.take k) v:Nat):Int)<=z/\z<=((VI (rn.take k) v:Nat):Int))/\F=sF [0,1] fz [(5,.i z),(6,.i k)]/\h=gz/\m=rn.length-k) _ _ _ ⟨0,0,ob,(by simp [VI]),rfl,rfl,rfl⟩ (wk [] (fr (Ya fl))) ?_)))))
 rintro m F h ⟨k,z,Yj,Zf,rfl,rfl,rfl⟩
 refine YM 2 (iw (UB rn) (Y2 ((k:Int)<(rn.length:Int)) (fun Z9=>?_) (fun Z9=>?_)))
 ·refine ak (aq (ab 1 (Yf 2 ?_)))
  obtain ⟨x1,Z3⟩:=Zt rn k om
  have hxm:=Y3 Z3
  obtain ⟨xa,hxa⟩:=hrn _ hxm
  have hct:=Z43 Z3 v
  have hcl:=Z44 rn (k+1) v
  have hcm:=ND rn v
  refine Zs (Zh none (k:Int) 5 (V8 Z3)) (Z0 2 ?_)
  obtain ⟨x2,Zu⟩:=Zt x1.args 0 (by rw [hxa];simp)
  have hg0:=Kz Zu
  rw [hg0] at hct
  refine Zs (Zh none 0 1 (Y8 Zu)) (Xp [0,1,5,6] [(29,.b ((x2==v)&&(x1.op==14)))] (fun gz=>gz) ?_ ?_)
  ·refine Z0 4 (ib (b:=(x2==v)) 22 (fun Zc=>?_) (fun Zc=>?_))
   ·exact Z0 2 (Zs (Zh none (k:Int) 5 (V8 Z3)) (Z1 (wk [] (Zl (x1.op==14) Zc fl))))
   exact Z1 (wk [] (Zl false Zc fl))
  refine ac ((x2==v)&&(x1.op==14)) (p:=(x2=v)/\(x1.op=14)) (Yu Ze Ze) (fun Zj=>?_) (fun Zj=>?_)
  ·exact az (Z0 1 (ia ((z+1)) ((z)+(1)) (Z1 (az (Z0 1 (ZD k (Z1 (ZF ⟨k+1,(z+1),ob,(by first|(rw [hct,Zk om];omega)|(rw [hct,Za om];omega)),rfl,rfl,rfl⟩ (wk [] (fr (ZI k fl)))))))))))
  refine Yf 2 (Zs (Zh none (k:Int) 5 (V8 Z3)) (Z0 2 (Zs (Zh none 0 1 (Y8 Zu)) (YB (x2==v) Ze (fun ZA=>?_) (fun ZA=>?_)))))
  ·exact az (Z0 1 (ia ((z-1)) ((z)-(1)) (Z1 (az (Z0 1 (ZD k (Z1 (ZF ⟨k+1,(z-1),ob,(by first|(rw [hct,Zk om];omega)|(rw [hct,Za om];omega)),rfl,rfl,rfl⟩ (wk [] (fr (ZI k fl)))))))))))
  exact ak (az (Z0 1 (ZD k (Z1 (ZF ⟨k+1,z,ob,(by first|(rw [hct,Zk om];omega)|(rw [hct,Za om];omega)),rfl,rfl,rfl⟩ (wk [] (fr (ZI k fl))))))))
 exact ax 0 (ar (Zm (r1 [] ⟨z,rfl,rfl,(by have e:=Zf;rw [WI om] at e;exact e)⟩)))
theorem Ph (rn:List Z5) (hrn:∀s∈rn,∃a,s.args=[a]) (hl:rn.length<=100000000:=by exact ob):Zo 176 [Vp rn] [] (fun r h=>∃(D:LI) (R:LI) (v:Value),r=Xg (D.map (Zx 14)++R.map (Zx 15)) v/\h=[.tail v 5]/\D.length+R.length<=rn.length/\(∀v∈D,∃s∈rn,s.args=[v])/\∀v∈R,∃s∈rn,s.args=[v]):=by
 refine ZE 51 Tryz.func176 (Y1 (ar (iL (Z6 []) 0 1 fun v1=>Z1 (ar (iL (Z6 []) 0 1 fun v2=>Z1 (Yf 1 (ic [] (Z9d rn (hrn:=ob)) ?_)))))))
 rintro _ _ ⟨vs1,rfl,rfl,Y4⟩
 have hvo:=Y4
 have hsl:=Z1e rn hvo.1
 refine Z1 (Y6 (ab 0 (Y0 (fun fz gz m F h=>∃(k:Nat) (D:LI) (u:Value) (R:LI) (w:Value),(k<=vs1.length)/\(D.length+R.length<=Vw rn (vs1.take k))/\(∀v∈D,v∈vs1)/\(∀v∈R,v∈vs1)/\F=sF [0,5] fz [(3,ZH D u),(4,ZH R w),(6,.i k)]/\h=[.tail u 1,.tail w 1]/\m=vs1.length-k) _ _ _ ⟨0,[],v1,[],v2,ob,(by simp [Vw]),(fun v hv=>by cases hv),(fun v hv=>by cases hv),rfl,rfl,rfl⟩ (wk [1,0] (fw (Ya fl))) ?_)))
 rintro m F h ⟨k,D,u,R,w,Yj,Zf,ZB,YL,rfl,rfl,rfl⟩
 refine YM 2 (iw (Yc vs1) (Y2 ((k:Int)<(vs1.length:Int)) (fun Z9=>?_) (fun Z9=>?_)))
 ·refine ak (aq (ab 1 (Yf 3 ?_)))
  obtain ⟨x1,Z3⟩:=Zt vs1 k om
  have hst:=Zhg (rn:=rn) Z3
  have hsk:=MK rn vs1 (k+1)
  have hxm:=Y3 Z3
  refine Zs (Zh none (k:Int) 1 (Y8 Z3)) (Z0 1 (ic [] (Z8w rn x1 (hrn:=ob)) ?_))
  rintro _ _ ⟨z1,rfl,rfl,Yr⟩
  have hnt:=Yr
  refine Z1 (aq (ab 2 (Y0 (fun fz gz m F h=>∃(z:Int) (D2:LI) (u2:Value) (w2:Value),((D2.length:Int)+(R.length:Int)+z<=((Vw rn (vs1.take k):Nat):Int)+((VI rn x1:Nat):Int))/\((D2.length:Int)+(R.length:Int)-z<=((Vw rn (vs1.take k):Nat):Int)+((VI rn x1:Nat):Int))/\(∀v∈D2,v∈vs1)/\F=sF [0,5,6] fz [(3,ZH D2 u2),(4,ZH R w2),(7,.i z)]/\h=[.tail u2 1,.tail w2 1]/\m=z.toNat) _ _ _ ⟨z1,D,u,w,om,om,ZB,rfl,rfl,rfl⟩ (wk [0,0] fl) ?_)))
  rintro m F h ⟨z,D2,u2,w2,VA,Xs,XT,rfl,rfl,rfl⟩
  refine Xd (Y2 (z>0) (fun Zj=>?_) (fun Zj=>?_))
  ·exact ak (aq (ab 3 (az (Z0 3 (Zs (Zh none (k:Int) 1 (Y8 Z3)) (Z0 1 (iL (Z6 [x1]) 1 1 fun v3=>ZQ 0 [(33,Z4 [x1])] (ip 1 (Z6 (D2++[x1])) (Z6 D2) (Z6 [x1]) u2 none 1 (YD _) (YD _) (W2 _) (by simp<;>omega) (by simp [W1,Z6]) fun v4=>Z1 (az (Z0 1 (ia ((z-1)) ((z)-(1)) (Z1 (ZF ⟨(z-1),(D2++[x1]),v4,w2,(by simp only [ZX,Yo,YC];omega),(by simp only [ZX,Yo,YC];omega),(XD XT hxm),rfl,rfl,rfl⟩ (wk [0,1] fl))))))))))))))
  refine ax 2 (ab 4 (Y0 (fun fz gz m F h=>∃(y:Int) (R2:LI) (u3:Value) (w3:Value),((D2.length:Int)+(R2.length:Int)+y<=((Vw rn (vs1.take k):Nat):Int)+((VI rn x1:Nat):Int))/\((D2.length:Int)+(R2.length:Int)-y<=((Vw rn (vs1.take k):Nat):Int)+((VI rn x1:Nat):Int))/\(∀v∈R2,v∈vs1)/\F=sF [0,5,6] fz [(3,ZH D2 u3),(4,ZH R2 w3),(7,.i y)]/\h=[.tail u3 1,.tail w3 1]/\m=(-y).toNat) _ _ _ ⟨z,R,u2,w2,ob,ob,YL,rfl,rfl,rfl⟩ (wk [0,0] fl) ?_))
  rintro m F h ⟨y,R2,u3,w3,Eu,QU,A7,rfl,rfl,rfl⟩
  refine Xd (Y2 (y<0) (fun ZA=>?_) (fun ZA=>?_))
  ·exact ak (aq (ab 5 (az (Z0 3 (Zs (Zh none (k:Int) 1 (Y8 Z3)) (Z0 1 (iL (Z6 [x1]) 1 1 fun v5=>ZQ 0 [(44,Z4 [x1])] (ip 2 (Z6 (R2++[x1])) (Z6 R2) (Z6 [x1]) w3 none 1 (YD _) (YD _) (W2 _) (by simp<;>omega) (by simp [W1,Z6]) fun v6=>Z1 (az (Z0 1 (ia ((y+1)) ((y)+(1)) (Z1 (ZF ⟨(y+1),(R2++[x1]),u3,v6,(by simp only [ZX,Yo,YC];omega),(by simp only [ZX,Yo,YC];omega),(XD A7 hxm),rfl,rfl,rfl⟩ (wk [2,0] fl))))))))))))))
  exact ax 4 (az (Z0 1 (ZD k (Z1 (ZF ⟨k+1,D2,u3,R2,w3,ob,(by rw [hst];omega),XT,A7,rfl,rfl,rfl⟩ (wk [0,0] (fw (ZI k fl))))))))
 have XO:=MK rn vs1 k
 refine ax 0 (ar (ZQ 1 [(46,Z4 D)] (ic [] (KL 14 D) ?_)))
 rintro _ _ ⟨v7,rfl,rfl⟩
 refine ZQ 1 [(48,Z4 R)] (ic [] (KL 15 R) ?_)
 rintro _ _ ⟨v8,rfl,rfl⟩
 exact ZQ 0 [(49,Vp (R.map (Zx 15)))] (ip 1 (ZU ((D.map (Zx 14))++(R.map (Zx 15)))) (ZU (D.map (Zx 14))) (ZU (R.map (Zx 15))) v7 none 5 (XE _) (XE _) (Uk _) (by simp<;>omega) (by simp [Vt,ZU]) fun v9=>Zm (r2 [0] [Xg ((D.map (Zx 14))++(R.map (Zx 15))) v9] ⟨_,_,v9,rfl,rfl,⟨by have:=MK rn vs1 k;omega,fun v hv=>hvo.2.2 v (ZB v hv),fun v hv=>hvo.2.2 v (YL v hv)⟩⟩ (Zd.slh _ (Yl ZU ob))))
theorem Z7u (ds:List Zb) (nf:Nat) (b:Z8) (mm:Nat) (hf:fB ds nf mm b) (hop:Vq Vy b) (hz:b.sz<=100000000) (ih:∀(b2:Z8) (m2:Nat),(fB ds nf m2 b2)->(Vq Vy b2)->(b2.sz<=100000000)->(b2.sz<b.sz)->Zo 156 [Yq b2] [] (fun r h=>∃(y:Z8),r=Yq y/\h=[]/\KB ds nf m2 y b2.sz)):Zo 156 [Yq b] [] (fun r h=>∃(y:Z8),r=Yq y/\h=[]/\KB ds nf mm y b.sz):=by
 have hbe:=b.sz_eq
 have ZL:=Ux b
 obtain ⟨hfs,hr1,hr2⟩:=(KY b).1 hf
 have hos:=CS.1 ((Hl b).1 hop)
 refine ZE 72 Tryz.func156 (ar (iA (XV b) fun b1=>iA [nl,.i 0] fun b2=>ie (ar (iL (ZU []) 0 5 fun v1=>Z1 (ar (iL (ZU []) 0 5 fun v2=>?_))))))
 refine Z1 (Y6 (ab 0 (Y0 (fun fz gz m F h=>∃(k:Nat) (xs:List Z5) (v:Value) (rn:List Z5) (u:Value) (z0:Nat),(k<=b.steps.length)/\(CL ds nf mm xs (Yv (b.steps.take k)) z0)/\(z0+2*rn.length<=Yw (b.steps.take k))/\(N5 (mm+(Yv (b.steps.take k))) rn)/\F=sF [1,2] fz [(3,Xg xs v),(4,Xg rn u),(5,.i k)]/\h=[Zi gz 2,Zi gz 3,.tail u 5,.tail v 5]/\m=b.steps.length-k) _ _ _ ⟨0,[],v1,[],v2,0,ob,CL.nil,(by simp [Yw]),(fun s hs=>by cases hs),rfl,rfl,rfl⟩ (wk [2,2,0,0] (fw (Ya fl))) ?_)))
 rintro m F h ⟨k,xs,v,rn,u,z0,Yj,Zf,ZB,YL,rfl,rfl,rfl⟩
 refine Ys 3 [1] (iw (UB b.steps) (Y2 ((k:Int)<(b.steps.length:Int)) (fun Z9=>?_) (fun Z9=>?_)))
 ·refine ak (aq (ab 1 (Zq 3 [1] ?_)))
  obtain ⟨x1,Z3⟩:=Zt b.steps k om
  have XO:=D3 Z3
  have hfS:=(AY x1).1 (Dx hfs Z3)
  have hoS:=(Fc x1).1 (hos x1 (Y3 Z3))
  have htk:=HP Z3
  have htl:=KN b.steps (k+1)
  have hse:=(x1).sz_eq
  have hdt:=NU Z3
  have hxl:=Zf.len
  have hkl2:=G9 (x1).kids
  refine Zs (Zh none (k:Int) 5 (V8 Z3)) (Z0 1 (iA [.i 0,.i 0,.i 0,nl,nl] fun b3=>Zy 0 b3 (Wd x1) (ie (Zq 1 [0] (Zw [] (Z0q x1) (ie (ac ((x1.op==14)||(x1.op==15)) (p:=(x1.op=14)∨(x1.op=15)) (ZO Ze Ze) (fun Zj=>?_) (fun Zj=>?_))))))))
  ·refine az (Zz 2 [0] (UH [X4 x1] (ZU [x1]) (U5 [x1]).symm 1 5 fun v3=>ZQ 0 [(27,Vp [x1])] (ip 4 (ZU (rn++[x1])) (ZU rn) (ZU [x1]) u none 5 (XE _) (XE _) (Uk _) (by simp<;>omega) (by simp [Vt,ZU]) fun v4=>Z1 (az (Z0 1 (ZD k (Z1 ?_)))))))
   obtain ⟨⟨pa,hpa,hpr⟩,Yr,hpc⟩:=hfS.pair (by assumption)
   rw [Zk hpc,Cb] at hdt
   exact ZF ⟨k+1,xs,v,(rn++[x1]),v4,_,ob,(by rw [hdt];exact Zf),(by rw [htk];simp only [ZX,Yo,YC];omega),(by rw [hdt];exact XD YL ⟨pa,hpa,hpr⟩),rfl,rfl,rfl⟩ (wk [3,3,0,2] (fw (ZI k fl)))
  refine ar (ZQ 2 [(30,Vp rn)] (ic [] (Ph rn (hrn:=(fun s hs=>(YL s hs).elim fun a h=>⟨a,h.1⟩))) ?_))
  rintro _ _ ⟨D1,R1,v5,rfl,rfl,Y4⟩
  have hsr:=Y4
  have hq1:=Zf.run YL hsr.2.1 hsr.2.2
  have hl1:=Zf.len
  have htl1:=KN b.steps k
  refine ZQ 0 [(31,Vp (D1.map (Zx 14)++R1.map (Zx 15)))] (ip 5 (ZU (xs++(D1.map (Zx 14)++R1.map (Zx 15)))) (ZU xs) (ZU (D1.map (Zx 14)++R1.map (Zx 15))) v none 5 (XE _) (XE _) (Uk _) (by simp<;>omega) (by simp [Vt,ZU]) fun v6=>Z1 (ar (iL (ZU []) 0 5 fun v7=>Z1 (ar (iL (XP []) 0 2 fun v8=>?_)))))
  refine Z1 (Y6 (ab 2 (Y0 (fun fz gz m F h=>∃(j:Nat) (ks:List Z8) (w:Value) (v3:Value) (u4:Value),(j<=x1.kids.length)/\(ks.length=j)/\(KK ds nf (WX ds x1.op x1.num (mm+(Yv (b.steps.take k)))) ks (YW (x1.kids.take j)))/\F=sF [1,2,5,6] fz [(3,Xg (xs++(D1.map (Zx 14)++R1.map (Zx 15))) v3),(4,Xg [] u4),(7,Qp ks w),(8,.i j)]/\h=[Zi gz 4,Zi gz 5,Zi gz 6,.tail u4 5,.tail v3 5,.tail w 2]/\m=x1.kids.length-j) _ _ _ ⟨0,[],v8,v6,v7,ob,ob,(KK.nil.le (Q9 _)),rfl,rfl,rfl⟩ (wk [4,4,4,1,1,0] (fw (fr (Ya fl)))) ?_)))
  rintro m F h ⟨j,ks,w,v3,u4,VA,Xs,XT,rfl,rfl,rfl⟩
  refine Ys 3 [0] (iw (Kt x1.kids) (Y2 ((j:Int)<(x1.kids.length:Int)) (fun ZA=>?_) (fun ZA=>?_)))
  ·refine ak (aq (ab 3 (az (Zz 4 [0] ?_))))
   obtain ⟨x2,Zu⟩:=Zt x1.kids j om
   have hkz:=Qm Zu
   have hfk:=BD hfS.kids Zu
   rw [Wj] at hfk
   have hok:=DP.1 hoS.2 x2 (Y3 Zu)
   have hbt:=Ga Zu
   refine Zs (Zh none (j:Int) 2 (US Zu)) (Z0 1 (ic [] (ih x2 (WX ds x1.op x1.num (mm+(Yv (b.steps.take k))) j) hfk hok ob ob) ?_))
   rintro _ _ ⟨y1,rfl,rfl,Yr⟩
   have hkb:=Yr
   exact UH [Yq y1] (XP [y1]) (QW [y1]).symm 1 2 fun v9=>ZQ 0 [(49,JL [y1])] (ip 6 (XP (ks++[y1])) (XP ks) (XP [y1]) w none 2 (KX _) (KX _) (Gk _) (by simp<;>omega) (by simp [Cs,XP]) fun v10=>Z1 (az (Z0 1 (ZD j (Z1 (ZF ⟨j+1,(ks++[y1]),v10,v3,u4,ob,ob,((XT.snoc Xs hkb).le om),rfl,rfl,rfl⟩ (wk [2,2,2,2,2,0] (fw (fr (ZI j fl))))))))))
  refine ax 2 (aE 15 (ZW 5 15 [0,1,2,3,4,5,6,7,8,10] [0,0,0,0] (Z7 9 (dc 9 [] [0,0,0] [b3,b3,b3] (WV x1.args) ?_))))
  rintro _ _ ⟨v11,rfl,rfl⟩
  refine Yt 3 4 [11] [(62,.agg [.i x1.op,.i x1.num,.i x1.into,Z4 x1.args,JL ks])] (Z7 12 (WC 12 [] [] [X4 (Z5.mk x1.op x1.num x1.into x1.args ks)] (ZU [Z5.mk x1.op x1.num x1.into x1.args ks]) (U5 [Z5.mk x1.op x1.num x1.into x1.args ks]).symm 1 5 fun v12=>Yt 2 2 [] [(63,Vp [Z5.mk x1.op x1.num x1.into x1.args ks])] (Z7 13 (dp 13 6 [] [] (ZU ((xs++(D1.map (Zx 14)++R1.map (Zx 15)))++[Z5.mk x1.op x1.num x1.into x1.args ks])) (ZU (xs++(D1.map (Zx 14)++R1.map (Zx 15)))) (ZU [Z5.mk x1.op x1.num x1.into x1.args ks]) v3 none 5 (XE _) (XE _) (Uk _) (by simp<;>omega) (by simp [Vt,ZU]) fun v13=>Zp 0 1 [14] (de (az (Z0 1 (ZD k (Z1 ?_)))))))))
  obtain ⟨hn1,hn2⟩:=hfS.not_pair (by assumption) hoS.1
  rw [Za (by rw [hn2];simp)] at hdt
  have hbj:=Ix (xs:=x1.kids) (k:=j) om
  have hkt:=KT.eq hfS hn1 om XT
  have hq2:=hq1.kt hkt
  exact ZF ⟨k+1,((xs++(D1.map (Zx 14)++R1.map (Zx 15)))++[Z5.mk x1.op x1.num x1.into x1.args ks]),v13,[],u4,_,ob,(by rw [hdt];exact hq2),(by rw [htk];simp only [YC];omega),(fun s hs=>by cases hs),rfl,rfl,rfl⟩ (wk [4,4,4,0] (fw (ZI k fl)))
 have htl2:=KN b.steps k
 have hxl2:=Zf.len
 refine ax 0 (aD 8 (Dm 4 8 [0,1,4,5] [(66,Vp rn)] [1] (Z7 2 (dc 2 [] [1] [b1] (Ph rn (hrn:=(fun s hs=>(YL s hs).elim fun a h=>⟨a,h.1⟩))) ?_))))
 rintro _ _ ⟨D2,R2,v14,rfl,rfl,YR⟩
 have hsr:=YR
 have hq1:=Zf.run YL hsr.2.1 hsr.2.2
 have hl1:=Zf.len
 have htl1:=KN b.steps k
 exact Yt 3 3 [] [(67,Vp (D2.map (Zx 14)++R2.map (Zx 15)))] (Z7 3 (dp 3 4 [1] [b1] (ZU (xs++(D2.map (Zx 14)++R2.map (Zx 15)))) (ZU xs) (ZU (D2.map (Zx 14)++R2.map (Zx 15))) v none 5 (XE _) (XE _) (Uk _) (by simp<;>omega) (by simp [Vt,ZU]) fun v15=>Zp 1 2 [6] (Z7 7 (X3 7 2 [] [] b2 [Xg (xs++(D2.map (Zx 14)++R2.map (Zx 15))) v15,.i b.result] (de (ZY (r3 [] [.agg [Xg (xs++(D2.map (Zx 14)++R2.map (Zx 15))) v15,.i b.result]] [0] [(b2,b2)] ⟨(Z8.mk (xs++(D2.map (Zx 14)++R2.map (Zx 15))) b.result),rfl,rfl,(by have e:b.steps.take k=b.steps:=WI om;rw [e] at ZB hq1;exact (hq1.block ⟨hr1,hr2⟩).le om)⟩ (Zd.agg (.cons (Zd.forget _ _) (.cons (lr _) .nil))))))))))
theorem Z7t (ds:List Zb) (nf:Nat) (b:Z8) (mm:Nat) (hf:fB ds nf mm b:=by exact ob) (hop:Vq Vy b:=by exact ob) (hz:b.sz<=100000000:=by exact ob):Zo 156 [Yq b] [] (fun r h=>∃(y:Z8),r=Yq y/\h=[]/\KB ds nf mm y b.sz):=by
 have key:∀k:Nat,∀(b2:Z8) (m2:Nat),(fB ds nf m2 b2)->(Vq Vy b2)->(b2.sz<=100000000)->(b2.sz<k)->Zo 156 [Yq b2] [] (fun r h=>∃(y:Z8),r=Yq y/\h=[]/\KB ds nf m2 y b2.sz):=by
  intro k
  induction k with
  | zero=>intro b2 m2 h1 h2 h3 h9;omega
  | succ k ih=>intro b2 m2 h1 h2 h3 h9;exact Z7u ds nf b2 m2 h1 h2 h3 fun b3 m3 q1 q2 q3 q9=>ih b3 m3 q1 q2 q3 om
 exact key (b.sz+1) b mm hf hop hz om
theorem Z7v (n:ZG) (qz:Nat) (hn:FO n qz Vy:=by exact ob) (hqz:qz<=10000000:=by exact ob):Zo 115 [YF n] [] (fun r h=>∃(n2:ZG),r=YF n2/\h=[]/\FO n2 qz Vy):=by
 have hnl:=hn.fn.len
 have Xq:=hn.fn.decls.ok
 have hok:=hn.fn.ok
 refine ZE 36 Tryz.func115 (ar (iA (X8 n) fun b1=>iA [nl,nl] fun b2=>ie (Zq 2 [1] (Zw [] (Bf n.decls) (iL (X9 []) 0 5 fun v1=>Z0 1 (iA [nl,nl] fun b3=>?_))))))
 refine Zy 0 b3 [Ye n.decls,WT [] v1] (ie (Y6 (ab 0 (Y0 (fun fz gz m F h=>∃(k:Nat) (rs:List YE) (u:Value),(k<=n.routines.length)/\(rs.length=k)/\(∀r∈rs,RF n.decls n.routines.length qz Vy r)/\F=sF [1,2,3] fz [(4,.i k)]/\h=[.obj b3 [Ye n.decls,WT rs u],Zi gz 2,Zi gz 3,.tail u 5]/\m=n.routines.length-k) _ _ _ ⟨0,[],v1,ob,ob,(fun r hr=>by cases hr),rfl,rfl,rfl⟩ (wk [0,1,1,0] (Ya fl)) ?_))))
 rintro m F h ⟨k,rs,u,Yj,Zf,ZB,rfl,rfl,rfl⟩
 refine Ys 3 [2] (iw (TS n.routines) (Y2 ((k:Int)<(n.routines.length:Int)) (fun Z9=>?_) (fun Z9=>?_)))
 ·refine ak (aq (ab 1 (aE 19 (ZW 14 19 [0,1,2,3,4] [0,2] ?_))))
  obtain ⟨x1,Z3⟩:=Zt n.routines k om
  have hrf:=hn.rf (Y3 Z3)
  have hrp:(x1).params.length<=3:=(Tm.bd (f:=⟨(x1).params,(x1).result,default⟩) hrf.sig).1
  have hrl:=hrf.lent.1
  have hrz:=hrf.body.2
  refine dx 5 (Zh none (k:Int) 5 (VJ Z3)) (ZW 9 13 [6,7,8,9] [2] (dx 10 (Zh none (k:Int) 5 (VJ Z3)) (Zp 6 8 [11,12] (Z7 13 (dc 13 [] [2,0] [b1,b3] (Z7t n.decls n.routines.length x1.body _ (hf:=hrf.body.1) (hop:=hrf.op)) ?_)))))
  rintro _ _ ⟨y1,rfl,rfl,Y4⟩
  have hkb0:=Y4
  have hkb:=hkb0.le (z2:=qz) hrz
  exact Z7 14 (YH 14 [] [0] [b3] (E7 x1 y1 (hp:=om) (hl:=om)) (Z7 15 (dL 15 [0] [b3] (X9 [YE.mk x1.params x1.lent x1.result y1]) 1 5 fun v2=>Yt 3 3 [] [(32,JM [YE.mk x1.params x1.lent x1.result y1])] (Z7 16 (dp 16 4 [] [] (X9 (rs++[YE.mk x1.params x1.lent x1.result y1])) (X9 rs) (X9 [YE.mk x1.params x1.lent x1.result y1]) u none 5 (T9 _) (T9 _) (BA _) (by simp<;>omega) (by simp [Dt,X9]) fun v3=>Zp 1 2 [17] (Z7 18 (X3 18 2 [] [] b3 [Ye n.decls,WT (rs++[YE.mk x1.params x1.lent x1.result y1]) v3] (de (az (Z0 1 (ZD k (Z1 (ZF ⟨k+1,(rs++[YE.mk x1.params x1.lent x1.result y1]),v3,ob,ob,(XD ZB (hrf.with hkb.fb hkb.sz hkb.op)),rfl,rfl,rfl⟩ (wk [0,2,2,0] (ZI k fl)))))))))))))))
 exact ax 0 (Zq 1 [0] (Zy 1 b2 [Ye n.decls,WT rs u] (ie (ZY (r3 [] [.agg [Ye n.decls,WT rs u]] [0] [(b2,b2)] ⟨(ZG.mk n.decls rs),rfl,rfl,(FO.fin hn.fn om ZB).1⟩ (Zd.agg (.cons (lr _) (.cons (Zd.forget _ _) .nil))))))))
theorem R5 (b:Nat) (ga:Hd) (gb:Hd) (gc:Hd) (gd:Hd) (ge:Hd) (gf:Hd) (n:ZG) (s:Z5) (L:ZK) (ln:LI) (q:Int) (i:Nat) (kb0:Z8) (m:LI) (hn:Xu n:=by exact ob) (hk:XI n.decls L q:=by exact ob) (hf:Ce n L.vars s:=by exact ob) (hop:s.op=7∨s.op=8:=by exact ob) (hkb:s.kids[i]? = some kb0:=by exact ob) (harm:(W0 n.decls s.op s.num)[i]? = some m:=by exact ob) (hbt:0<=W4 n (L.vars++m) kb0:=by exact ob) (hb:L.vars.length+4*s.sz<=1000000000:=by exact ob) (hq:0<=q/\q+4*s.sz<=999999990:=by exact ob) (hln:ln.length<=4294967296:=by exact ob) (ih:∀(b2:Z8) (c:Nat) (ra:Hd) (rb:Hd) (rc:Hd) (rd:Hd) (re:Hd) (rf:Hd) (M:ZK) (mm:Nat) (p:Int),(b2.sz<s.sz)->(XI n.decls M p)->(0<=W4 n M.vars b2)->(mm<=M.vars.length)->(M.vars.length+4*b2.sz<=1000000000)->(0<=p/\p+4*b2.sz<=999999990)->Zo 255 [.p c 0,YF n,Yq b2,.i mm] [.obj c [.h ra,.h rb,.h rc,.h rd,.h re,.h rf,Z4 ln],rV ra M.vars,rV rb M.own,rV rc M.par,rV rd M.con,rV re M.fst,rV rf M.tok] (fun r h=>(∃(wa:Hd) (wb:Hd) (wc:Hd) (wd:Hd) (we:Hd) (wf:Hd) (M':ZK),r=.b true/\h=[.obj c [.h wa,.h wb,.h wc,.h wd,.h we,.h wf,Z4 ln],rV wa M'.vars,rV wb M'.own,rV wc M'.par,rV wd M'.con,rV we M'.fst,rV wf M'.tok]/\U2 n ln M mm b2=some M')∨(r=.b false/\h=[]/\U2 n ln M mm b2=none))):Zo 234 [.p b 0,YF n,X4 s,.i i] [.obj b [.h ga,.h gb,.h gc,.h gd,.h ge,.h gf,Z4 ln],rV ga L.vars,rV gb L.own,rV gc L.par,rV gd L.con,rV ge L.fst,rV gf L.tok] (fun r h=>(∃(c:Nat) (wa:Hd) (wb:Hd) (wc:Hd) (wd:Hd) (we:Hd) (wf:Hd) (L':ZK),r=.tup [.p c 0,.b true]/\h=[.obj c [.h wa,.h wb,.h wc,.h wd,.h we,.h wf,Z4 ln],rV wa L'.vars,rV wb L'.own,rV wc L'.par,rV wd L'.con,rV we L'.fst,rV wf L'.tok,.obj b [.h ga,.h gb,.h gc,.h gd,.h ge,.h gf,Z4 ln],rV ga L.vars,rV gb L.own,rV gc L.par,rV gd L.con,rV ge L.fst,rV gf L.tok]/\U2 n ln (TF n.decls L s.op s.num s.args i) L.vars.length kb0=some L')∨(r=.tup [.any,.b false]/\h=[.obj b [.h ga,.h gb,.h gc,.h gd,.h ge,.h gf,Z4 ln],rV ga L.vars,rV gb L.own,rV gc L.par,rV gd L.con,rV ge L.fst,rV gf L.tok]/\U2 n ln (TF n.decls L s.op s.num s.args i) L.vars.length kb0=none)):=by
 obtain ⟨e1,e2,e3,e4,e5⟩:=hk.len
 have Xq:=hn.decls
 have hkz:=K6 s
 have haz:=Jr s
 have hK:=H2 hk hq.1 hf hop harm
 have hm3:=Nj Xq harm
 have hkl:=(Xh.1 hkb).1
 have hks:=Qm hkb
 refine ZE 83 Tryz.func234 (ar (iA (X8 n) fun b1=>iA (Wd s) fun b2=>Z1 (Zq 4 [2] (Zs (D5 3 ga L.vars) (Z1 (Yf 1 (ic [2,2,2,2,2,2,2] (Zbj b ga gb gc gd ge gf L ln (hlk:=hk.len)) ?_)))))))
 rintro _ _ ⟨c1,wa1,wb1,wc1,wd1,we1,wf1,rfl,rfl⟩
 refine Z1 (Xd (V4 [14] (ac (s.op==8) Ze (fun Z9=>?_) (fun Z9=>?_))))
 ·obtain ⟨x,hxa⟩:=hf.one om
  have ha:s.args[0]? = some x:=by rw [hxa];rfl
  have hx:=hf.args x (by rw [hxa];simp)
  obtain ⟨cc,hcc,hmc⟩:=Z3a Z9 harm
  have hal:=(Xh.1 ha).1
  have hcl:=(Xh.1 hcc).1
  have hm4:=hm3
  rw [hmc] at hm4
  refine Zq 4 [15,14] (ic [] (Jd n.decls s.num) ?_)
  rintro _ _ ⟨v1,rfl,rfl⟩
  refine Z0 1 (Zs (Zh (some v1) (i:Int) 1 (Y8 hcc)) (Z1 (Zq 3 [16] (Zw [] (Qr n.decls cc) (Z1 (aD 11 (ZW 5 11 [0,1,2,3,4,5] [1,15] (dx 6 (Zh none 0 1 (Y8 ha)) (Zp 2 4 [7,8] (dx 9 (Ua 5 wd1 L.con x x.toNat (hq:=rfl)) (Z7 10 (Co 10 5 [] [] wd1 L.con x.toNat cc (de (aD 11 (ZW 5 11 [0,1,2,3,4,5] [2,15] (dx 6 (Zh none 0 1 (Y8 ha)) (Zp 2 4 [7,8] (dx 9 (Ua 6 we1 L.fst x x.toNat (hq:=rfl)) (Z7 10 (Co 10 6 [] [] we1 L.fst x.toNat (L.vars.length:Int) (de (Y1 (ab 0 (Y0 (fun fz gz m F h=>∃(k:Nat) (L3:ZK) (ka:Hd) (kb:Hd) (kc:Hd) (kd:Hd) (ke:Hd) (kf:Hd),(k<=(ZP n.decls cc).length)/\(Tl L3)/\(L3.vars.length=L.vars.length+k)/\(CC L3 x ((ZP n.decls cc).drop k)=Ci n.decls L x cc)/\F=sF [3,5,6,10,11,13] fz [(14,.i k)]/\h=[.obj c1 [.h ka,.h kb,.h kc,.h kd,.h ke,.h kf,Z4 ln],Zi gz 8,Zi gz 9,Zi gz 10,Zi gz 11,Zi gz 12,Zi gz 13,Zi gz 14,Zi gz 15,Zi gz 16,rV ka L3.vars,rV kb L3.own,rV kc L3.par,rV kd L3.con,rV ke L3.fst,rV kf L3.tok]/\m=(ZP n.decls cc).length-k) _ _ _ ⟨0,(ZK.mk L.vars L.own L.par (L.con.set x.toNat cc) (L.fst.set x.toNat (L.vars.length:Int)) L.tok),wa1,wb1,wc1,wd1,we1,wf1,ob,(Tl.arm hk.len),ob,(by rw [Ci];rfl),rfl,rfl,rfl⟩ (wk [3,7,7,7,7,7,7,7,7,7,3,3,3,1,0,1] (Ya fl) (e:=(rc (rc (rc (rc (rc (rc (rc (rc (rc (rc (rv (xs:=L.vars) ob (rv (xs:=L.own) ob (rv (xs:=L.par) ob (rv (xs:=(L.con.set x.toNat cc)) ob (rv (xs:=(L.fst.set x.toNat (L.vars.length:Int))) ob (rv (xs:=L.tok) ob rz)))))))))))))))))) ?_))))))))))))))))))))))))
  rintro m F h ⟨k,L3,ka,kb,kc,kd,ke,kf,Yj,Zf,ZB,YL,rfl,rfl,rfl⟩
  refine YM 2 (io (.i (((ZP n.decls cc).length:Nat):Int)) (.i (((Z6 (ZP n.decls cc)).length:Nat):Int)) (li (by rw [Yc])) (Y2 ((k:Int)<(((ZP n.decls cc).length:Nat):Int)) (fun Zj=>?_) (fun Zj=>?_)))
  ·refine ak (aq (ab 1 (aE 10 (Zp 7 10 [0,1,2] ?_))))
   obtain ⟨x1,Z3⟩:=Zt (ZP n.decls cc) k om
   refine dx 3 (Zh none (k:Int) 1 (Y8 Z3)) (ZW 3 6 [4,5,6] [8] (dx 7 (Zh none 0 1 (Y8 ha)) (Zp 1 2 [8] (Z7 9 (dc 9 [0,9,9,9,9,9,9] [] [] (KE c1 ka kb kc kd ke kf L3 ln x1 0 x (hlk:=Zf)) ?_)))))
   rintro _ _ ⟨wa2,wb2,wc2,wd2,we2,wf2,rfl⟩
   exact de (az (Z0 1 (ZD k (Z1 (ZF ⟨k+1,(L3.grow x1 0 x),wa2,wb2,wc2,wd2,we2,wf2,ob,(Tl.grow Zf),(by simp [ZK.grow];omega),(by rw [Yk Z3,CC] at YL;exact YL),rfl,rfl,rfl⟩ (wk [0,6,6,6,6,6,6,6,6,6,0,0,0,0,0,0] (ZI k fl)))))))
  have hE:TF n.decls L s.op s.num s.args i=L3:=by rw [Zb0 Z9 ha hcc,<-YL,Xm om];rfl
  refine ax 0 (aD 12 (ZW 6 12 [0,1,2,3,4,5] [9,8] (dx 6 (Zh none (i:Int) 2 (US hkb)) (Zp 3 5 [7,8] (Z7 9 (dc 9 [0,9,9,9,9,9,9] [] [] (ih kb0 c1 ka kb kc kd ke kf L3 L.vars.length q ob (by rw [<-hE];exact hK.1) (by rw [<-hE,hK.2];exact hbt) (by rw [<-hE,hK.2];simp) (by rw [<-hE,hK.2,ZX];omega) ob) ?_))))))
  rintro _ _ (⟨wa3,wb3,wc3,wd3,we3,wf3,M'1,rfl,rfl,Y4⟩|⟨rfl,rfl,Yr⟩)
  ·exact Zp 0 2 [10,11] (de (ZY (r2 [0,0,0,0,0,0,0,0,0,0,0,0,0,0] [.p c1 0,.b true] (.inl ⟨c1,wa3,wb3,wc3,wd3,we3,wf3,M'1,rfl,rfl,(by rw [hE];exact Y4)⟩) (lr _))))
  exact Zp 0 2 [10,11] (de (ZY (r2 [0,0,0,0,0,0,0] [.p c1 0,.b false] (.inr ⟨rfl,rfl,(by rw [hE];exact Yr)⟩) (Zd.tup (.cons (Zd.any _) (.cons (lr _) .nil))))))
 have hE:=Zb1 (ds:=n.decls) (L:=L) (num:=s.num) (args:=s.args) (i:=i) Z9
 refine ak (aD 12 (ZW 6 12 [0,1,2,3,4,5] [15,14] (dx 6 (Zh none (i:Int) 2 (US hkb)) (Zp 3 5 [7,8] (Z7 9 (dc 9 [0,0,0,0,0,0,0] [] [] (ih kb0 c1 wa1 wb1 wc1 wd1 we1 wf1 L L.vars.length q ob (by rw [<-hE];exact hK.1) (by rw [<-hE,hK.2];exact hbt) (by rw [<-hE,hK.2];simp) (by rw [<-hE,hK.2,ZX];omega) ob) ?_))))))
 rintro _ _ (⟨wa4,wb4,wc4,wd4,we4,wf4,M'2,rfl,rfl,YR⟩|⟨rfl,rfl,YV⟩)
 ·exact Zp 0 2 [10,11] (de (ZY (r2 [0,0,0,0,0,0,0,0,0,0,0,0,0,0] [.p c1 0,.b true] (.inl ⟨c1,wa4,wb4,wc4,wd4,we4,wf4,M'2,rfl,rfl,(by rw [hE];exact YR)⟩) (lr _))))
 exact Zp 0 2 [10,11] (de (ZY (r2 [0,0,0,0,0,0,0] [.p c1 0,.b false] (.inr ⟨rfl,rfl,(by rw [hE];exact YV)⟩) (Zd.tup (.cons (Zd.any _) (.cons (lr _) .nil))))))
theorem Zbi (b:Nat) (ga:Hd) (gb:Hd) (gc:Hd) (gd:Hd) (ge:Hd) (gf:Hd) (n:ZG) (s:Z5) (L:ZK) (ln:LI) (q:Int) (hn:Xu n:=by exact ob) (hk:XI n.decls L q:=by exact ob) (hf:Ce n L.vars s:=by exact ob) (hop:s.op=7∨s.op=8:=by exact ob) (hb:L.vars.length+4*s.sz<=1000000000:=by exact ob) (hq:0<=q/\q+4*s.sz<=999999990:=by exact ob) (hln:ln.length<=4294967296:=by exact ob) (ih:∀(b2:Z8) (c:Nat) (ra:Hd) (rb:Hd) (rc:Hd) (rd:Hd) (re:Hd) (rf:Hd) (M:ZK) (mm:Nat) (p:Int),(b2.sz<s.sz)->(XI n.decls M p)->(0<=W4 n M.vars b2)->(mm<=M.vars.length)->(M.vars.length+4*b2.sz<=1000000000)->(0<=p/\p+4*b2.sz<=999999990)->Zo 255 [.p c 0,YF n,Yq b2,.i mm] [.obj c [.h ra,.h rb,.h rc,.h rd,.h re,.h rf,Z4 ln],rV ra M.vars,rV rb M.own,rV rc M.par,rV rd M.con,rV re M.fst,rV rf M.tok] (fun r h=>(∃(wa:Hd) (wb:Hd) (wc:Hd) (wd:Hd) (we:Hd) (wf:Hd) (M':ZK),r=.b true/\h=[.obj c [.h wa,.h wb,.h wc,.h wd,.h we,.h wf,Z4 ln],rV wa M'.vars,rV wb M'.own,rV wc M'.par,rV wd M'.con,rV we M'.fst,rV wf M'.tok]/\U2 n ln M mm b2=some M')∨(r=.b false/\h=[]/\U2 n ln M mm b2=none))):Zo 197 [.p b 0,YF n,X4 s] [.obj b [.h ga,.h gb,.h gc,.h gd,.h ge,.h gf,Z4 ln],rV ga L.vars,rV gb L.own,rV gc L.par,rV gd L.con,rV ge L.fst,rV gf L.tok] (fun r h=>(∃(wa:Hd) (wb:Hd) (wc:Hd) (wd:Hd) (we:Hd) (wf:Hd) (L':ZK),r=.b true/\h=[.obj b [.h wa,.h wb,.h wc,.h wd,.h we,.h wf,Z4 ln],rV wa L'.vars,rV wb L'.own,rV wc L'.par,rV wd L'.con,rV we L'.fst,rV wf L'.tok]/\Cl n ln L s=some L')∨(r=.b false/\h=[]/\Cl n ln L s=none)):=by
 obtain ⟨e1,e2,e3,e4,e5⟩:=hk.len
 have Xq:=hn.decls
 have hkz:=K6 s
 have haz:=Jr s
 obtain ⟨hk1,hk2,hk3⟩:=hf.kids hop
 obtain ⟨kd,hkd⟩:=Zt s.kids 0 om
 obtain ⟨m0,hm0⟩:=Zt (W0 n.decls s.op s.num) 0 om
 obtain ⟨x,hxa⟩:=hf.one om
 have ha:s.args[0]? = some x:=by rw [hxa];rfl
 have hx:=hf.args x (by rw [hxa];simp)
 have hgx:=Kz ha
 have hal:=(Xh.1 ha).1
 refine ZE 88 Tryz.func197 (ar (iA (X8 n) fun b1=>iA (Wd s) fun b2=>Z1 (Xd (Xp [0,4,5] [(23,.b ((s.op==8)&&(!T3 L ln x)))] (fun gz=>[Zi gz 2,Zi gz 3,Zi gz 4,Zi gz 5,Zi gz 6,Zi gz 7,Zi gz 8,Zi gz 0,Zi gz 1]) ?_ ?_))))
 ·refine Zz 4 [0] (ib (b:=(s.op==8)) 15 (fun Zc=>?_) (fun Zc=>?_))
  ·exact Zz 3 [0] (Zs (Zh none 0 1 (Y8 ha)) (Z0 1 (Zw [2,2,2,2,2,2,2] (H6 b ga gb gc gd ge gf L ln x (hlk:=hk.len) (hd:=hk.down)) (Z1 (Zv 9 (Zl (!T3 L ln x) Zc fl))))))
  exact Z1 (wk [2,2,2,2,2,2,2,0,0] (Zl false Zc fl))
 refine ac ((s.op==8)&&(!T3 L ln x)) (p:=(s.op=8)/\(¬(T3 L ln x=true))) (Yu Ze (Yh Iff.rfl)) (fun Z9=>?_) (fun Z9=>?_)
 ·exact ar (Zm (r1 [] (.inr ⟨rfl,rfl,(by rw [Cl,Zk (by rw [hgx];exact Z9)])⟩)))
 have hgo:=Z3z (n:=n) (ln:=ln) (L:=L) (s:=s) (by rw [hgx];exact Z9) hkd
 refine ak (Zq 3 [8,7] (ic [0,0,0,0,0,0,0] (R5 b ga gb gc gd ge gf n s L ln q 0 kd m0 (hkb:=hkd) (harm:=hm0) (hbt:=(hk3 0 kd m0 hkd hm0)) (ih:=ob)) ?_))
 rintro _ _ (⟨c1,wa1,wb1,wc1,wd1,we1,wf1,L'1,rfl,rfl,YR⟩|⟨rfl,rfl,YV⟩)
 ·have hone:=YR
  obtain ⟨l1,l2⟩:=PV hn hk hq.1 hf hop hkd hm0 (hk3 0 kd m0 hkd hm0) hone
  refine Z1 (Y6 (VG (ak (Y6 (ab 0 (Y0 (fun fz gz m F h=>∃(k:Nat),(1<=k/\k<=s.kids.length)/\(JF n ln L s.op s.num s.args L'1 (s.kids.drop k) k=JF n ln L s.op s.num s.args L'1 (s.kids.drop 1) 1)/\F=sF [0,4,5,7] fz [(9,.i k)]/\h=gz/\m=s.kids.length-k) _ _ _ ⟨1,ob,ob,rfl,rfl,rfl⟩ (Zv 16 (fc (x:=.i 1) li fl)) ?_))))))
  rintro m F h ⟨k,Yj,Zf,rfl,rfl,rfl⟩
  refine Ys 3 [14] (iw (Kt s.kids) (Y2 ((k:Int)<(s.kids.length:Int)) (fun Zj=>?_) (fun Zj=>?_)))
  ·obtain ⟨ke,hke⟩:=Zt s.kids k om
   obtain ⟨mk,hmk⟩:=Zt (W0 n.decls s.op s.num) k om
   have hcs:=Zb3 (n:=n) (ln:=ln) (L:=L) (op:=s.op) (num:=s.num) (args:=s.args) (one:=L'1) hke
   refine ak (aq (ab 1 (Zq 4 [15,14] (ic [7,7,7,7,7,7,7] (R5 b ga gb gc gd ge gf n s L ln q k ke mk (hkb:=hke) (harm:=hmk) (hbt:=(hk3 k ke mk hke hmk)) (ih:=ob)) ?_))))
   rintro _ _ (⟨c2,wa2,wb2,wc2,wd2,we2,wf2,L'2,rfl,rfl,Xc⟩|⟨rfl,rfl,XK⟩)
   ·have htwo:=Xc
    obtain ⟨l3,l4⟩:=PV hn hk hq.1 hf hop hke hmk (hk3 k ke mk hke hmk) htwo
    refine Z1 (aD 26 (ZW 15 26 [0,1,2,3,4,5,6,7,8,9,10] [14,0] (Z7 11 (Ab 11 [16,2] [] [] [rV wb1 L'1.own,rV wb2 L'2.own] (Z0u L'1.own L'2.own) Gf (gL (v:=wb1) 0 (gL (v:=wb2) 1 gN)) (J7 (J7 An)) ?_))))
    rintro _ _ ⟨rfl,rfl⟩
    refine Bv [0,4,5,7,9] [(73,.b ((!(decide (L'1.own=L'2.own)))||(!(decide (L'1.tok=L'2.tok)))))] (fun gz=>gz) ?_ ?_
    ·refine Zp 11 14 [12,13,14] (db (b:=(!(decide (L'1.own=L'2.own)))) 62 (fun ZC=>?_) (fun ZC=>?_))
     ·exact Zp 0 11 [15,16,17,18,19,20,21,22,23,24,25] (de (Zv 23 (Zl true ZC fl)))
     refine ZW 3 11 [15,16,17,18,19,20,21,22] [15,2] (Z7 23 (Ab 23 [20,7] [] [] [rV wf1 L'1.tok,rV wf2 L'2.tok] (Z0u L'1.tok L'2.tok) Gf (gL (v:=wf1) 0 (gL (v:=wf2) 1 gN)) (J7 (J7 An)) ?_))
     rintro _ _ ⟨rfl,rfl⟩
     exact Zp 0 2 [24,25] (de (wk [2,2,2,2,2,2,2,1,1,1,1,1,1,1,1,1,1,1,1,1,0,0,0] (Zl (!(decide (L'1.tok=L'2.tok))) ZC fl)))
    refine ac ((!(decide (L'1.own=L'2.own)))||(!(decide (L'1.tok=L'2.tok)))) (p:=(¬(L'1.own=L'2.own))∨(¬(L'1.tok=L'2.tok))) (ZO (Yh dq) (Yh dq)) (fun ZA=>?_) (fun ZA=>?_)
    ·exact ar (Zm (r1 [] (.inr ⟨rfl,rfl,(by rw [hgo,hone];exact Rk (by rw [<-Zf,hcs,htwo];exact Zf1 ZA))⟩)))
    exact ak (az (Z0 1 (ZD k (Z1 (ZF ⟨k+1,ob,(by rw [hcs,htwo,Zf2 ZA] at Zf;exact Zf),rfl,rfl,rfl⟩ (wk [15,15,0,14,14,14,14,7,7,7,7,7,7,7,7,7] (ZI k fl)))))))
   have htwo:=XK
   exact Z1 (aD 26 (Zp 0 26 [0,1,2,3,4,5,6,7,8,9,10,11,12,13,14,15,16,17,18,19,20,21,22,23,24,25] (de (VR (ar (Zm (r1 [] (.inr ⟨rfl,rfl,(by rw [hgo,hone];exact Rk (by rw [<-Zf,hcs,htwo];rfl))⟩))))))))
  have hE:JF n ln L s.op s.num s.args L'1 (s.kids.drop 1) 1=true:=by rw [<-Zf,Xm om,JF]
  exact ax 0 (Zq 7 [0] (Zy 7 b [.h ga,.h wb1,.h gc,.h gd,.h ge,.h gf,Z4 ln] (ie (Zq 7 [1] (Zy 0 b [.h ga,.h wb1,.h gc,.h gd,.h ge,.h wf1,Z4 ln] (ie (ar (Zm (r1 [0,7,2,7,7,7,5] (.inl ⟨ga,wb1,gc,gd,ge,wf1,(ZK.mk L.vars L'1.own L.par L.con L.fst L'1.tok),rfl,rfl,(by rw [hgo,hone];exact Zby hE)⟩) (eq:=(rc (rv (xs:=L.vars) ob (rv (xs:=L'1.own) ob (rv (xs:=L.par) ob (rv (xs:=L.con) ob (rv (xs:=L.fst) ob (rv (xs:=L'1.tok) ob rz)))))))))))))))))
 have hone:=YV
 exact Z1 (Y6 (VR (ar (Zm (r1 [] (.inr ⟨rfl,rfl,(by rw [hgo,hone];rfl)⟩))))))
theorem R6 (b:Nat) (ga:Hd) (gb:Hd) (gc:Hd) (gd:Hd) (ge:Hd) (gf:Hd) (n:ZG) (s:Z5) (L:ZK) (ln:LI) (q:Int) (hn:Xu n:=by exact ob) (hk:XI n.decls L q:=by exact ob) (ht:0<=YZ n L.vars s:=by exact ob) (hb:L.vars.length+4*s.sz<=1000000000:=by exact ob) (hq:0<=q/\q+4*s.sz<=999999990:=by exact ob) (hln:ln.length<=4294967296:=by exact ob) (ih:∀(b2:Z8) (c:Nat) (ra:Hd) (rb:Hd) (rc:Hd) (rd:Hd) (re:Hd) (rf:Hd) (M:ZK) (mm:Nat) (p:Int),(b2.sz<s.sz)->(XI n.decls M p)->(0<=W4 n M.vars b2)->(mm<=M.vars.length)->(M.vars.length+4*b2.sz<=1000000000)->(0<=p/\p+4*b2.sz<=999999990)->Zo 255 [.p c 0,YF n,Yq b2,.i mm] [.obj c [.h ra,.h rb,.h rc,.h rd,.h re,.h rf,Z4 ln],rV ra M.vars,rV rb M.own,rV rc M.par,rV rd M.con,rV re M.fst,rV rf M.tok] (fun r h=>(∃(wa:Hd) (wb:Hd) (wc:Hd) (wd:Hd) (we:Hd) (wf:Hd) (M':ZK),r=.b true/\h=[.obj c [.h wa,.h wb,.h wc,.h wd,.h we,.h wf,Z4 ln],rV wa M'.vars,rV wb M'.own,rV wc M'.par,rV wd M'.con,rV we M'.fst,rV wf M'.tok]/\U2 n ln M mm b2=some M')∨(r=.b false/\h=[]/\U2 n ln M mm b2=none))):Zo 173 [.p b 0,YF n,X4 s] [.obj b [.h ga,.h gb,.h gc,.h gd,.h ge,.h gf,Z4 ln],rV ga L.vars,rV gb L.own,rV gc L.par,rV gd L.con,rV ge L.fst,rV gf L.tok] (fun r h=>(∃(wa:Hd) (wb:Hd) (wc:Hd) (wd:Hd) (we:Hd) (wf:Hd) (L':ZK),r=.b true/\h=[.obj b [.h wa,.h wb,.h wc,.h wd,.h we,.h wf,Z4 ln],rV wa L'.vars,rV wb L'.own,rV wc L'.par,rV wd L'.con,rV we L'.fst,rV wf L'.tok]/\QK n ln L s=some L')∨(r=.b false/\h=[]/\QK n ln L s=none)):=by
 obtain ⟨e1,e2,e3,e4,e5⟩:=hk.len
 have Xq:=hn.decls
 have hkz:=K6 s
 have haz:=Jr s
 have hf:=Z1a ht
 refine ZE 89 Tryz.func173 (ar (iA (X8 n) fun b1=>iA (Wd s) fun b2=>Z1 (aD 8 (ZW 2 8 [0,1,2,3,4,5] [1,2,0] (Z7 6 (Ab 6 [3] [] [] [rV ga L.vars] (ME n L.vars s ob ob) Gf (gS (gL (v:=ga) 0 (gS gN))) (J7 An) ?_))))))
 rintro _ _ ⟨rfl,rfl⟩
 refine Zp 0 1 [7] (de (Y1 (Xd (V4 [1] (ab 0 (ar (YB (s.op==14) Ze (fun Z9=>?_) (fun Z9=>?_))))))))
 ·obtain ⟨x,hxa⟩:=hf.one om
  have ha:s.args[0]? = some x:=by rw [hxa];rfl
  have hx:=hf.args x (by rw [hxa];simp)
  have hgx:=Kz ha
  have hal:=(Xh.1 ha).1
  obtain ⟨xo,hxo⟩:=Zt L.own x.toNat om
  have hgo:=Te hxo
  have hob:=hk.bd xo (Y3 hxo)
  have hon:=hk.nn xo (Y3 hxo)
  refine Zq 3 [1] (Zs (Zh none 0 1 (Y8 ha)) (Z0 1 (Zw [3,0,2,2,2,2,2] (H6 b ga gb gc gd ge gf L ln x (hlk:=hk.len) (hd:=hk.down)) (Z1 (aE 21 (ZW 15 21 [0,1,2,3,4,5] [0,7] (dx 6 (Zh none 0 1 (Y8 ha)) (ZW 7 14 [7,8,9,10,11,12,13] [0,7] (dx 14 (Zh none 0 1 (Y8 ha)) (Zp 5 6 [15] (dx 16 (Ua 2 gb L.own x x.toNat (hq:=rfl)) (UA 17 (Qs 2 gb L.own x.toNat xo hxo) (da 18 ((xo+1)) ((xo)+(1)) (dx 19 (Ua 2 gb L.own x x.toNat (hq:=rfl)) (Z7 20 (Co 20 2 [] [] gb L.own x.toNat (xo+1) (de (Xd (YB (!T3 L ln x) (p:=¬(T3 L ln x=true)) (Yh Iff.rfl) (fun Zj=>?_) (fun Zj=>?_))))))))))))))))))))
  ·have hP:=(RU (n:=n) (ln:=ln) (L:=L) Z9 hgx).trans (Z57 Zj)
   exact ar (Zm (r1 [] (.inr ⟨rfl,rfl,(by rw [Tj,hP];first|rfl|exact Tb (by assumption)|exact Tc (by assumption) (by assumption)|exact Td (by assumption))⟩)))
  have hP:=(RU (n:=n) (ln:=ln) (L:=L) Z9 hgx).trans (Z58 Zj hgo)
  obtain ⟨kx,hxv⟩:=Ff hn hk hq.1 hf hP
  refine ak (Ys 2 [7] (Zw [] (Kg s.op) (Xp [0,5,7] [(80,.b (Xf s.op&&((YZ n L.vars s) != 0)))] (fun gz=>gz) ?_ ?_)))
  ·refine Z0 1 (ib (b:=Xf s.op) 77 (fun Zc=>?_) (fun Zc=>?_))
   ·exact Z1 (Zv 9 (Zl ((YZ n L.vars s) != 0) Zc fl))
   exact Z1 (Zv 9 (Zl false Zc fl))
  refine ac (Xf s.op&&((YZ n L.vars s) != 0)) (p:=(Xf s.op=true)/\((YZ n L.vars s)≠0)) (Yu Iff.rfl Yp) (fun ZA=>?_) (fun ZA=>?_)
  ·refine az (Z0 2 (ic [1,1,0,0,0,0,0] (KE b ga gb gc gd ge gf (ZK.mk L.vars (L.own.set x.toNat (xo+1)) L.par L.con L.fst L.tok) ln (YZ n L.vars s) 1 (-1) (hlb:=(by rw [hxv];omega)) (hlk:=kx.len)) ?_))
   rintro _ _ ⟨wa1,wb1,wc1,wd1,we1,wf1,rfl⟩
   exact ie (ar (Zm (r1 [0,0,0,0,0,0,0] (.inl ⟨wa1,wb1,wc1,wd1,we1,wf1,((ZK.mk L.vars (L.own.set x.toNat (xo+1)) L.par L.con L.fst L.tok).grow (YZ n L.vars s) 1 (-1)),rfl,rfl,(by rw [Tj,hP];first|rfl|exact Tb (by assumption)|exact Tc (by assumption) (by assumption)|exact Td (by assumption))⟩))))
  refine Zq 2 [7] (Zw [] (Kg s.op) (ie (ac (Xf s.op) Iff.rfl (fun Yi=>?_) (fun Yi=>?_))))
  ·refine az (Z0 1 (ic [1,1,0,0,0,0,0] (KE b ga gb gc gd ge gf (ZK.mk L.vars (L.own.set x.toNat (xo+1)) L.par L.con L.fst L.tok) ln 0 0 (-1) (hlb:=(by rw [hxv];omega)) (hlk:=kx.len)) ?_))
   rintro _ _ ⟨wa2,wb2,wc2,wd2,we2,wf2,rfl⟩
   exact ie (ar (Zm (r1 [0,0,0,0,0,0,0] (.inl ⟨wa2,wb2,wc2,wd2,we2,wf2,((ZK.mk L.vars (L.own.set x.toNat (xo+1)) L.par L.con L.fst L.tok).grow 0 0 (-1)),rfl,rfl,(by rw [Tj,hP];first|rfl|exact Tb (by assumption)|exact Tc (by assumption) (by assumption)|exact Td (by assumption))⟩))))
  exact ak (ar (Zm (r1 [1,1,0,0,0,0,0] (.inl ⟨ga,gb,gc,gd,ge,gf,(ZK.mk L.vars (L.own.set x.toNat (xo+1)) L.par L.con L.fst L.tok),rfl,rfl,(by rw [Tj,hP];first|rfl|exact Tb (by assumption)|exact Tc (by assumption) (by assumption)|exact Td (by assumption))⟩) (eq:=(rc (rv (xs:=L.vars) ob (rv (xs:=(L.own.set x.toNat (xo+1))) ob (rv (xs:=L.par) ob (rv (xs:=L.con) ob (rv (xs:=L.fst) ob (rv (xs:=L.tok) ob rz)))))))))))
 refine ar (YB (s.op==15) Ze (fun YG=>?_) (fun YG=>?_))
 ·obtain ⟨x,hxa⟩:=hf.one om
  have ha:s.args[0]? = some x:=by rw [hxa];rfl
  have hx:=hf.args x (by rw [hxa];simp)
  have hgx:=Kz ha
  have hal:=(Xh.1 ha).1
  refine az (Zz 3 [1] (Zs (Zh none 0 1 (Y8 ha)) (Z0 1 (ic [3,0,2,2,2,2,2] (H7 b ga gb gc gd ge gf L ln x (hlk:=hk.len) (hq:=(fun y hy=>⟨hk.nn y hy,by have:=hk.bd y hy;omega⟩))) ?_))))
  rintro _ _ (⟨wa3,wb3,wc3,wd3,we3,wf3,L'1,rfl,rfl,YR⟩|⟨rfl,rfl,YV⟩)
  ·have hP:=(RW (n:=n) (ln:=ln) (L:=L) YG hgx).trans (YR)
   obtain ⟨kx,hxv⟩:=Ff hn hk hq.1 hf hP
   refine Z1 (Y6 (VG (ak (Ys 2 [7] (Zw [] (Kg s.op) (Xp [0,5,7] [(80,.b (Xf s.op&&((YZ n L.vars s) != 0)))] (fun gz=>gz) ?_ ?_))))))
   ·refine Z0 1 (ib (b:=Xf s.op) 77 (fun ZC=>?_) (fun ZC=>?_))
    ·exact Z1 (Zv 9 (Zl ((YZ n L.vars s) != 0) ZC fl))
    exact Z1 (Zv 9 (Zl false ZC fl))
   refine ac (Xf s.op&&((YZ n L.vars s) != 0)) (p:=(Xf s.op=true)/\((YZ n L.vars s)≠0)) (Yu Iff.rfl Yp) (fun X2=>?_) (fun X2=>?_)
   ·refine az (Z0 2 (ic [0,0,0,0,0,0,0] (KE b wa3 wb3 wc3 wd3 we3 wf3 L'1 ln (YZ n L.vars s) 1 (-1) (hlb:=(by rw [hxv];omega)) (hlk:=kx.len)) ?_))
    rintro _ _ ⟨wa4,wb4,wc4,wd4,we4,wf4,rfl⟩
    exact ie (ar (Zm (r1 [0,0,0,0,0,0,0] (.inl ⟨wa4,wb4,wc4,wd4,we4,wf4,(L'1.grow (YZ n L.vars s) 1 (-1)),rfl,rfl,(by rw [Tj,hP];first|rfl|exact Tb (by assumption)|exact Tc (by assumption) (by assumption)|exact Td (by assumption))⟩))))
   refine Zq 2 [7] (Zw [] (Kg s.op) (ie (ac (Xf s.op) Iff.rfl (fun Wz=>?_) (fun Wz=>?_))))
   ·refine az (Z0 1 (ic [0,0,0,0,0,0,0] (KE b wa3 wb3 wc3 wd3 we3 wf3 L'1 ln 0 0 (-1) (hlb:=(by rw [hxv];omega)) (hlk:=kx.len)) ?_))
    rintro _ _ ⟨wa5,wb5,wc5,wd5,we5,wf5,rfl⟩
    exact ie (ar (Zm (r1 [0,0,0,0,0,0,0] (.inl ⟨wa5,wb5,wc5,wd5,we5,wf5,(L'1.grow 0 0 (-1)),rfl,rfl,(by rw [Tj,hP];first|rfl|exact Tb (by assumption)|exact Tc (by assumption) (by assumption)|exact Td (by assumption))⟩))))
   exact ak (ar (Zm (r1 [0,0,0,0,0,0,0] (.inl ⟨wa3,wb3,wc3,wd3,we3,wf3,L'1,rfl,rfl,(by rw [Tj,hP];first|rfl|exact Tb (by assumption)|exact Tc (by assumption) (by assumption)|exact Td (by assumption))⟩))))
  have hP:=(RW (n:=n) (ln:=ln) (L:=L) YG hgx).trans (YV)
  exact Z1 (Y6 (VR (ar (Zm (r1 [] (.inr ⟨rfl,rfl,(by rw [Tj,hP];first|rfl|exact Tb (by assumption)|exact Tc (by assumption) (by assumption)|exact Td (by assumption))⟩))))))
 refine Y6 (Xv (fun fz gz F h=>F=sF [0,4,5,7,17] fz [(58,.b ((s.op==16)||(s.op==17)))]/\h=gz) ?_ ?_)
 ·refine ac (s.op==16) Ze (fun VC=>?_) (fun VC=>?_)
  ·exact ak (ZJ ⟨rfl,rfl⟩ (Zv 9 (fc (x:=.b (s.op==16)) (lb (by first|rfl|(rw [Zk VC])|(rw [Za VC])|(simp [VC];done)|(rw [Yg];simp [VC];done)|omega)) fl)))
  exact Vv (ZJ ⟨rfl,rfl⟩ (Zv 9 (fc (x:=.b (s.op==17)) (lb (by first|rfl|(rw [Zk VC])|(rw [Za VC])|(simp [VC];done)|(rw [Yg];simp [VC];done)|omega)) fl)))
 rintro F h ⟨rfl,rfl⟩
 refine ac ((s.op==16)||(s.op==17)) (p:=(s.op=16)∨(s.op=17)) (ZO Ze Ze) (fun Va=>?_) (fun Va=>?_)
 ·obtain ⟨x,hxa⟩:=hf.one om
  have ha:s.args[0]? = some x:=by rw [hxa];rfl
  have hx:=hf.args x (by rw [hxa];simp)
  have hgx:=Kz ha
  have hal:=(Xh.1 ha).1
  refine az (Zz 3 [2,1] (ic [3,0,2,2,2,2,2] (Zbl b ga gb gc gd ge gf n s L ln q x) ?_))
  rintro _ _ (⟨wa6,wb6,wc6,wd6,we6,wf6,L'2,rfl,rfl,Wc⟩|⟨rfl,rfl,WF⟩)
  ·have hP:=(RY (n:=n) (ln:=ln) (L:=L) Va hgx).trans (Wc)
   obtain ⟨kx,hxv⟩:=Ff hn hk hq.1 hf hP
   refine Z1 (Y6 (VG (ak (Ys 2 [7] (Zw [] (Kg s.op) (Xp [0,5,7] [(80,.b (Xf s.op&&((YZ n L.vars s) != 0)))] (fun gz=>gz) ?_ ?_))))))
   ·refine Z0 1 (ib (b:=Xf s.op) 77 (fun Yn=>?_) (fun Yn=>?_))
    ·exact Z1 (Zv 9 (Zl ((YZ n L.vars s) != 0) Yn fl))
    exact Z1 (Zv 9 (Zl false Yn fl))
   refine ac (Xf s.op&&((YZ n L.vars s) != 0)) (p:=(Xf s.op=true)/\((YZ n L.vars s)≠0)) (Yu Iff.rfl Yp) (fun Vm=>?_) (fun Vm=>?_)
   ·refine az (Z0 2 (ic [0,0,0,0,0,0,0] (KE b wa6 wb6 wc6 wd6 we6 wf6 L'2 ln (YZ n L.vars s) 1 (-1) (hlb:=(by rw [hxv];omega)) (hlk:=kx.len)) ?_))
    rintro _ _ ⟨wa7,wb7,wc7,wd7,we7,wf7,rfl⟩
    exact ie (ar (Zm (r1 [0,0,0,0,0,0,0] (.inl ⟨wa7,wb7,wc7,wd7,we7,wf7,(L'2.grow (YZ n L.vars s) 1 (-1)),rfl,rfl,(by rw [Tj,hP];first|rfl|exact Tb (by assumption)|exact Tc (by assumption) (by assumption)|exact Td (by assumption))⟩))))
   refine Zq 2 [7] (Zw [] (Kg s.op) (ie (ac (Xf s.op) Iff.rfl (fun Tp=>?_) (fun Tp=>?_))))
   ·refine az (Z0 1 (ic [0,0,0,0,0,0,0] (KE b wa6 wb6 wc6 wd6 we6 wf6 L'2 ln 0 0 (-1) (hlb:=(by rw [hxv];omega)) (hlk:=kx.len)) ?_))
    rintro _ _ ⟨wa8,wb8,wc8,wd8,we8,wf8,rfl⟩
    exact ie (ar (Zm (r1 [0,0,0,0,0,0,0] (.inl ⟨wa8,wb8,wc8,wd8,we8,wf8,(L'2.grow 0 0 (-1)),rfl,rfl,(by rw [Tj,hP];first|rfl|exact Tb (by assumption)|exact Tc (by assumption) (by assumption)|exact Td (by assumption))⟩))))
   exact ak (ar (Zm (r1 [0,0,0,0,0,0,0] (.inl ⟨wa6,wb6,wc6,wd6,we6,wf6,L'2,rfl,rfl,(by rw [Tj,hP];first|rfl|exact Tb (by assumption)|exact Tc (by assumption) (by assumption)|exact Td (by assumption))⟩))))
  have hP:=(RY (n:=n) (ln:=ln) (L:=L) Va hgx).trans (WF)
  exact Z1 (Y6 (VR (ar (Zm (r1 [] (.inr ⟨rfl,rfl,(by rw [Tj,hP];first|rfl|exact Tb (by assumption)|exact Tc (by assumption) (by assumption)|exact Td (by assumption))⟩))))))
 refine Y6 (Xv (fun fz gz F h=>F=sF [0,4,5,7] fz [(65,.b ((s.op==7)||(s.op==8)))]/\h=gz) ?_ ?_)
 ·refine ac (s.op==7) Ze (fun Vn=>?_) (fun Vn=>?_)
  ·exact ak (ZJ ⟨rfl,rfl⟩ (Zv 9 (fc (x:=.b (s.op==7)) (lb (by first|rfl|(rw [Zk Vn])|(rw [Za Vn])|(simp [Vn];done)|(rw [Yg];simp [Vn];done)|omega)) fl)))
  exact Vv (ZJ ⟨rfl,rfl⟩ (Zv 9 (fc (x:=.b (s.op==8)) (lb (by first|rfl|(rw [Zk Vn])|(rw [Za Vn])|(simp [Vn];done)|(rw [Yg];simp [Vn];done)|omega)) fl)))
 rintro F h ⟨rfl,rfl⟩
 refine ac ((s.op==7)||(s.op==8)) (p:=(s.op=7)∨(s.op=8)) (ZO Ze Ze) (fun TV=>?_) (fun TV=>?_)
 ·refine az (Zz 3 [2,1] (ic [3,0,2,2,2,2,2] (Zbi b ga gb gc gd ge gf n s L ln q (ih:=ob)) ?_))
  rintro _ _ (⟨wa9,wb9,wc9,wd9,we9,wf9,L'3,rfl,rfl,UG⟩|⟨rfl,rfl,Ut⟩)
  ·have hP:=(RZ (n:=n) (ln:=ln) (L:=L) TV).trans (UG)
   obtain ⟨kx,hxv⟩:=Ff hn hk hq.1 hf hP
   refine Z1 (Y6 (VG (ak (Ys 2 [7] (Zw [] (Kg s.op) (Xp [0,5,7] [(80,.b (Xf s.op&&((YZ n L.vars s) != 0)))] (fun gz=>gz) ?_ ?_))))))
   ·refine Z0 1 (ib (b:=Xf s.op) 77 (fun X1=>?_) (fun X1=>?_))
    ·exact Z1 (Zv 9 (Zl ((YZ n L.vars s) != 0) X1 fl))
    exact Z1 (Zv 9 (Zl false X1 fl))
   refine ac (Xf s.op&&((YZ n L.vars s) != 0)) (p:=(Xf s.op=true)/\((YZ n L.vars s)≠0)) (Yu Iff.rfl Yp) (fun CD=>?_) (fun CD=>?_)
   ·refine az (Z0 2 (ic [0,0,0,0,0,0,0] (KE b wa9 wb9 wc9 wd9 we9 wf9 L'3 ln (YZ n L.vars s) 1 (-1) (hlb:=(by rw [hxv];omega)) (hlk:=kx.len)) ?_))
    rintro _ _ ⟨wa10,wb10,wc10,wd10,we10,wf10,rfl⟩
    exact ie (ar (Zm (r1 [0,0,0,0,0,0,0] (.inl ⟨wa10,wb10,wc10,wd10,we10,wf10,(L'3.grow (YZ n L.vars s) 1 (-1)),rfl,rfl,(by rw [Tj,hP];first|rfl|exact Tb (by assumption)|exact Tc (by assumption) (by assumption)|exact Td (by assumption))⟩))))
   refine Zq 2 [7] (Zw [] (Kg s.op) (ie (ac (Xf s.op) Iff.rfl (fun EQ=>?_) (fun EQ=>?_))))
   ·refine az (Z0 1 (ic [0,0,0,0,0,0,0] (KE b wa9 wb9 wc9 wd9 we9 wf9 L'3 ln 0 0 (-1) (hlb:=(by rw [hxv];omega)) (hlk:=kx.len)) ?_))
    rintro _ _ ⟨wa11,wb11,wc11,wd11,we11,wf11,rfl⟩
    exact ie (ar (Zm (r1 [0,0,0,0,0,0,0] (.inl ⟨wa11,wb11,wc11,wd11,we11,wf11,(L'3.grow 0 0 (-1)),rfl,rfl,(by rw [Tj,hP];first|rfl|exact Tb (by assumption)|exact Tc (by assumption) (by assumption)|exact Td (by assumption))⟩))))
   exact ak (ar (Zm (r1 [0,0,0,0,0,0,0] (.inl ⟨wa9,wb9,wc9,wd9,we9,wf9,L'3,rfl,rfl,(by rw [Tj,hP];first|rfl|exact Tb (by assumption)|exact Tc (by assumption) (by assumption)|exact Td (by assumption))⟩))))
  have hP:=(RZ (n:=n) (ln:=ln) (L:=L) TV).trans (Ut)
  exact Z1 (Y6 (VR (ar (Zm (r1 [] (.inr ⟨rfl,rfl,(by rw [Tj,hP];first|rfl|exact Tb (by assumption)|exact Tc (by assumption) (by assumption)|exact Td (by assumption))⟩))))))
 refine az (Zz 3 [2,1] (ic [3,0,2,2,2,2,2] (Zbk b ga gb gc gd ge gf n s L ln q (hnum:=hf.num) (hargs:=hf.args) (hinto:=(fun q=>(hf.into om).2))) ?_))
 rintro _ _ (⟨wa12,wb12,wc12,wd12,we12,wf12,L'4,rfl,rfl,K4⟩|⟨rfl,rfl,K5⟩)
 ·have hP:=(S0 (n:=n) (ln:=ln) (L:=L) Z9 YG Va TV).trans (K4)
  obtain ⟨kx,hxv⟩:=Ff hn hk hq.1 hf hP
  refine Z1 (Y6 (VG (ak (Ys 2 [7] (Zw [] (Kg s.op) (Xp [0,5,7] [(80,.b (Xf s.op&&((YZ n L.vars s) != 0)))] (fun gz=>gz) ?_ ?_))))))
  ·refine Z0 1 (ib (b:=Xf s.op) 77 (fun XF=>?_) (fun XF=>?_))
   ·exact Z1 (Zv 9 (Zl ((YZ n L.vars s) != 0) XF fl))
   exact Z1 (Zv 9 (Zl false XF fl))
  refine ac (Xf s.op&&((YZ n L.vars s) != 0)) (p:=(Xf s.op=true)/\((YZ n L.vars s)≠0)) (Yu Iff.rfl Yp) (fun KC=>?_) (fun KC=>?_)
  ·refine az (Z0 2 (ic [0,0,0,0,0,0,0] (KE b wa12 wb12 wc12 wd12 we12 wf12 L'4 ln (YZ n L.vars s) 1 (-1) (hlb:=(by rw [hxv];omega)) (hlk:=kx.len)) ?_))
   rintro _ _ ⟨wa13,wb13,wc13,wd13,we13,wf13,rfl⟩
   exact ie (ar (Zm (r1 [0,0,0,0,0,0,0] (.inl ⟨wa13,wb13,wc13,wd13,we13,wf13,(L'4.grow (YZ n L.vars s) 1 (-1)),rfl,rfl,(by rw [Tj,hP];first|rfl|exact Tb (by assumption)|exact Tc (by assumption) (by assumption)|exact Td (by assumption))⟩))))
  refine Zq 2 [7] (Zw [] (Kg s.op) (ie (ac (Xf s.op) Iff.rfl (fun KD=>?_) (fun KD=>?_))))
  ·refine az (Z0 1 (ic [0,0,0,0,0,0,0] (KE b wa12 wb12 wc12 wd12 we12 wf12 L'4 ln 0 0 (-1) (hlb:=(by rw [hxv];omega)) (hlk:=kx.len)) ?_))
   rintro _ _ ⟨wa14,wb14,wc14,wd14,we14,wf14,rfl⟩
   exact ie (ar (Zm (r1 [0,0,0,0,0,0,0] (.inl ⟨wa14,wb14,wc14,wd14,we14,wf14,(L'4.grow 0 0 (-1)),rfl,rfl,(by rw [Tj,hP];first|rfl|exact Tb (by assumption)|exact Tc (by assumption) (by assumption)|exact Td (by assumption))⟩))))
  exact ak (ar (Zm (r1 [0,0,0,0,0,0,0] (.inl ⟨wa12,wb12,wc12,wd12,we12,wf12,L'4,rfl,rfl,(by rw [Tj,hP];first|rfl|exact Tb (by assumption)|exact Tc (by assumption) (by assumption)|exact Td (by assumption))⟩))))
 have hP:=(S0 (n:=n) (ln:=ln) (L:=L) Z9 YG Va TV).trans (K5)
 exact Z1 (Y6 (VR (ar (Zm (r1 [] (.inr ⟨rfl,rfl,(by rw [Tj,hP];first|rfl|exact Tb (by assumption)|exact Tc (by assumption) (by assumption)|exact Td (by assumption))⟩))))))
theorem Zbg (c:Nat) (ga:Hd) (gb:Hd) (gc:Hd) (gd:Hd) (ge:Hd) (gf:Hd) (n:ZG) (b:Z8) (L:ZK) (ln:LI) (q:Int) (mm:Nat) (hn:Xu n) (hk:XI n.decls L q) (ht:0<=W4 n L.vars b) (hm:mm<=L.vars.length) (hb:L.vars.length+4*b.sz<=1000000000) (hq:0<=q/\q+4*b.sz<=999999990) (hln:ln.length<=4294967296) (ih:∀(s2:Z5) (c:Nat) (ra:Hd) (rb:Hd) (rc:Hd) (rd:Hd) (re:Hd) (rf:Hd) (M:ZK) (p:Int),(s2.sz<b.sz)->(XI n.decls M p)->(0<=YZ n M.vars s2)->(M.vars.length+4*s2.sz<=1000000000)->(0<=p/\p+4*s2.sz<=999999990)->Zo 173 [.p c 0,YF n,X4 s2] [.obj c [.h ra,.h rb,.h rc,.h rd,.h re,.h rf,Z4 ln],rV ra M.vars,rV rb M.own,rV rc M.par,rV rd M.con,rV re M.fst,rV rf M.tok] (fun r h=>(∃(wa:Hd) (wb:Hd) (wc:Hd) (wd:Hd) (we:Hd) (wf:Hd) (M':ZK),r=.b true/\h=[.obj c [.h wa,.h wb,.h wc,.h wd,.h we,.h wf,Z4 ln],rV wa M'.vars,rV wb M'.own,rV wc M'.par,rV wd M'.con,rV we M'.fst,rV wf M'.tok]/\QK n ln M s2=some M')∨(r=.b false/\h=[]/\QK n ln M s2=none))):Zo 255 [.p c 0,YF n,Yq b,.i mm] [.obj c [.h ga,.h gb,.h gc,.h gd,.h ge,.h gf,Z4 ln],rV ga L.vars,rV gb L.own,rV gc L.par,rV gd L.con,rV ge L.fst,rV gf L.tok] (fun r h=>(∃(wa:Hd) (wb:Hd) (wc:Hd) (wd:Hd) (we:Hd) (wf:Hd) (L':ZK),r=.b true/\h=[.obj c [.h wa,.h wb,.h wc,.h wd,.h we,.h wf,Z4 ln],rV wa L'.vars,rV wb L'.own,rV wc L'.par,rV wd L'.con,rV we L'.fst,rV wf L'.tok]/\U2 n ln L mm b=some L')∨(r=.b false/\h=[]/\U2 n ln L mm b=none)):=by
 have hbz:=b.sz_eq
 obtain ⟨vs,rt,hvs,hres,hrt⟩:=Nv ht
 have hri:=Cj hres
 have XO:=Ux b
 refine ZE 45 Tryz.func255 (ar (iA (X8 n) fun b1=>iA (XV b) fun b2=>?_))
 refine Z1 (Y6 (ab 0 (Y0 (fun fz gz m F h=>∃(k:Nat) (q2:Int) (L2:ZK) (ka:Hd) (kb:Hd) (kc:Hd) (kd:Hd) (ke:Hd) (kf:Hd),(k<=b.steps.length)/\(XI n.decls L2 q2)/\(0<=q2/\q2+4*Yw (b.steps.drop k)<=999999990)/\(L2.vars.length+4*Yw (b.steps.drop k)<=1000000000)/\(Uw n (b.steps.drop k) L2.vars=some vs)/\(JP n ln L2 (b.steps.drop k)=JP n ln L b.steps)/\(L.vars.length<=L2.vars.length)/\F=sF [0,3,5,6] fz [(9,.i k)]/\h=[Zi gz 0,Zi gz 1,.obj c [.h ka,.h kb,.h kc,.h kd,.h ke,.h kf,Z4 ln],rV ka L2.vars,rV kb L2.own,rV kc L2.par,rV kd L2.con,rV ke L2.fst,rV kf L2.tok]/\m=b.steps.length-k) _ _ _ ⟨0,q,L,ga,gb,gc,gd,ge,gf,ob,hk,(by rw [Kk];omega),(by rw [Kk];omega),hvs,rfl,om,rfl,rfl,rfl⟩ (Zv 9 (Ya fl)) ?_)))
 rintro m F h ⟨k,q2,L2,ka,kb,kc,kd,ke,kf,Yj,Zf,ZB,YL,Wh,QT,NA,rfl,rfl,rfl⟩
 refine Ys 3 [0] (iw (UB b.steps) (Y2 ((k:Int)<(b.steps.length:Int)) (fun Z9=>?_) (fun Z9=>?_)))
 ·obtain ⟨s1,hs1⟩:=Zt b.steps k om
  have hss:=Eb hs1
  have hdr:=Yk hs1
  have hz:Yw (b.steps.drop k)=s1.sz+Yw (b.steps.drop (k+1)):=by rw [hdr,Yw]
  rw [hdr] at Wh QT
  obtain ⟨g1,g2⟩:=Z1c Wh
  refine ak (aq (ab 1 (aD 9 (ZW 4 9 [0,1,2,3,4] [1,0] (dx 5 (Zh none (k:Int) 5 (V8 hs1)) (Zp 2 3 [6] (Z7 7 (dc 7 [2,2,2,2,2,2,2] [] [] (ih s1 c ka kb kc kd ke kf L2 q2 ob Zf g1 om om) ?_))))))))
  rintro _ _ (⟨wa1,wb1,wc1,wd1,we1,wf1,M'1,rfl,rfl,Y4⟩|⟨rfl,rfl,Yr⟩)
  ·have hP:=Y4
   have kx:=Z19 hn Zf ZB.1 g1 hP
   exact Zp 0 1 [8] (de (VG (ak (az (Z0 1 (ZD k (Z1 (ZF ⟨k+1,(q2+4*s1.sz),M'1,wa1,wb1,wc1,wd1,we1,wf1,ob,kx.1,om,(by rw [kx.2];have:=Z02 n L2.vars s1;omega),(by rw [kx.2];exact g2),(by rw [<-QT,JP,hP];rfl),(by rw [kx.2];have:=Z02 n L2.vars s1;omega),rfl,rfl,rfl⟩ (wk [7,7,0,0,0,0,0,0,0] (ZI k fl))))))))))
  have hP:=Yr
  exact Zp 0 1 [8] (de (VR (ar (Zm (r1 [] (.inr ⟨rfl,rfl,(by rw [It,<-QT,JP,hP];rfl)⟩))))))
 rw [Xm om] at Wh QT
 have hvv:L2.vars=vs:=by rw [Uw] at Wh;exact Da Wh
 have hB:U2 n ln L mm b=Ah mm b.result L2:=by rw [It,<-QT,JP];rfl
 obtain ⟨xr,hxr⟩:=Zt L2.vars b.result.toNat (by rw [hvv];omega)
 have hgr:=Te hxr
 have hrl:0<=b.result/\b.result<L2.vars.length:=by rw [hvv];omega
 rw [Uw] at Wh
 refine ax 0 (aq (aD 16 (ZW 10 16 [0,1,2,3,4,5] [2,0] (dx 6 (Ua 3 ka L2.vars b.result b.result.toNat (hq:=rfl)) (UA 7 (Qs 3 ka L2.vars b.result.toNat xr hxr) (Zp 6 8 [8,9] (db (b:=(xr != 0)) 35 (fun Zc=>?_) (fun Zc=>?_))))))))
 ·have YR:xr≠0:=(Yp).1 Zc
  refine ZW 3 6 [10,11,12] [0] (Z7 13 (dc 13 [2,2,2,2,2,2,2] [] [] (H7 c ka kb kc kd ke kf L2 ln b.result (hlk:=Zf.len) (hq:=(fun y hy=>⟨Zf.nn y hy,by have:=Zf.bd y hy;omega⟩))) ?_))
  rintro _ _ (⟨wa2,wb2,wc2,wd2,we2,wf2,L'1,rfl,rfl,YV⟩|⟨rfl,rfl,Xc⟩)
  ·have hE:=hB.trans (Z5v hgr (by assumption) YV)
   have kx:=Zf.take YV
   have hxv:L'1.vars.length=L2.vars.length:=by rw [(JQ YV).2.1]
   refine Zp 0 2 [14,15] (de (VG (ak (Yf 2 (ic [0,0,0,0,0,0,0] (R4 c wa2 wb2 wc2 wd2 we2 wf2 L'1 ln mm (hlk:=(by first|exact kx.len|exact Zf.len)) (hlb:=om) (hm:=om)) ?_)))))
   rintro _ _ (⟨wa3,wb3,wc3,wd3,we3,wf3,L'2,rfl,rfl,XK⟩|⟨rfl,rfl,Wc⟩)
   ·exact Zm (r1 [0,0,0,0,0,0,0] (.inl ⟨wa3,wb3,wc3,wd3,we3,wf3,L'2,rfl,rfl,(by first|exact hE|(rw [hE];exact XK)|(rw [hB,EF hgr (by assumption)];exact XK))⟩))
   exact Zm (r1 [] (.inr ⟨rfl,rfl,(by first|exact hE|(rw [hE];exact Wc)|(rw [hB,EF hgr (by assumption)];exact Wc))⟩))
  have hE:=hB.trans (Z5u hgr (by assumption) Xc)
  exact Zp 0 2 [14,15] (de (VR (ar (Zm (r1 [] (.inr ⟨rfl,rfl,(by first|exact hE|(rw [hE];exact Xc)|(rw [hB,EF hgr (by assumption)];exact Xc))⟩))))))
 have WF:¬(xr≠0):=Y7 Yp Zc
 refine Zp 0 6 [10,11,12,13,14,15] (de (VG (ak (Yf 2 (ic [2,2,2,2,2,2,2] (R4 c ka kb kc kd ke kf L2 ln mm (hlk:=(by first|exact kx.len|exact Zf.len)) (hlb:=om) (hm:=om)) ?_)))))
 rintro _ _ (⟨wa4,wb4,wc4,wd4,we4,wf4,L'3,rfl,rfl,V1⟩|⟨rfl,rfl,Ue⟩)
 ·exact Zm (r1 [0,0,0,0,0,0,0] (.inl ⟨wa4,wb4,wc4,wd4,we4,wf4,L'3,rfl,rfl,(by first|exact hE|(rw [hE];exact V1)|(rw [hB,EF hgr (by assumption)];exact V1))⟩))
 exact Zm (r1 [] (.inr ⟨rfl,rfl,(by first|exact hE|(rw [hE];exact Ue)|(rw [hB,EF hgr (by assumption)];exact Ue))⟩))
theorem Zbh (n:ZG) (ln:LI) (hn:Xu n) (hln:ln.length<=4294967296) (m:Nat):∀(b2:Z8) (c:Nat) (ra:Hd) (rb:Hd) (rc:Hd) (rd:Hd) (re:Hd) (rf:Hd) (M:ZK) (mm:Nat) (p:Int),(b2.sz<m+1)->(XI n.decls M p)->(0<=W4 n M.vars b2)->(mm<=M.vars.length)->(M.vars.length+4*b2.sz<=1000000000)->(0<=p/\p+4*b2.sz<=999999990)->Zo 255 [.p c 0,YF n,Yq b2,.i mm] [.obj c [.h ra,.h rb,.h rc,.h rd,.h re,.h rf,Z4 ln],rV ra M.vars,rV rb M.own,rV rc M.par,rV rd M.con,rV re M.fst,rV rf M.tok] (fun r h=>(∃(wa:Hd) (wb:Hd) (wc:Hd) (wd:Hd) (we:Hd) (wf:Hd) (M':ZK),r=.b true/\h=[.obj c [.h wa,.h wb,.h wc,.h wd,.h we,.h wf,Z4 ln],rV wa M'.vars,rV wb M'.own,rV wc M'.par,rV wd M'.con,rV we M'.fst,rV wf M'.tok]/\U2 n ln M mm b2=some M')∨(r=.b false/\h=[]/\U2 n ln M mm b2=none)):=by
 induction m with
 | zero=>intro b c ga gb gc gd ge gf L mm q h;have:=b.sz_pos;omega
 | succ m ih=>
  intro b c ga gb gc gd ge gf L mm q h1 hk ht hm hb hp
  exact Zbg c ga gb gc gd ge gf n b L ln q mm hn hk ht hm hb hp hln fun s c ga gb gc gd ge gf L q h2 hk ht hb hp=>R6 c ga gb gc gd ge gf n s L ln q hn hk ht hb hp hln
   fun b2 c ga gb gc gd ge gf L mm q h3 hk ht hm hb hp=>ih b2 c ga gb gc gd ge gf L mm q om hk ht hm hb hp
theorem Zbn (n:ZG) (ln:LI) (hn:Xu n) (hln:ln.length<=4294967296) (m:Nat):∀(s2:Z5) (c:Nat) (ra:Hd) (rb:Hd) (rc:Hd) (rd:Hd) (re:Hd) (rf:Hd) (M:ZK) (p:Int),(s2.sz<m+1)->(XI n.decls M p)->(0<=YZ n M.vars s2)->(M.vars.length+4*s2.sz<=1000000000)->(0<=p/\p+4*s2.sz<=999999990)->Zo 173 [.p c 0,YF n,X4 s2] [.obj c [.h ra,.h rb,.h rc,.h rd,.h re,.h rf,Z4 ln],rV ra M.vars,rV rb M.own,rV rc M.par,rV rd M.con,rV re M.fst,rV rf M.tok] (fun r h=>(∃(wa:Hd) (wb:Hd) (wc:Hd) (wd:Hd) (we:Hd) (wf:Hd) (M':ZK),r=.b true/\h=[.obj c [.h wa,.h wb,.h wc,.h wd,.h we,.h wf,Z4 ln],rV wa M'.vars,rV wb M'.own,rV wc M'.par,rV wd M'.con,rV we M'.fst,rV wf M'.tok]/\QK n ln M s2=some M')∨(r=.b false/\h=[]/\QK n ln M s2=none)):=by
 intro s c ga gb gc gd ge gf L q h2 hk ht hb hp
 exact R6 c ga gb gc gd ge gf n s L ln q hn hk ht hb hp hln fun b2 c ga gb gc gd ge gf L mm q h3 hk ht hm hb hp=>Zbh n ln hn hln m b2 c ga gb gc gd ge gf L mm q om hk ht hm hb hp
theorem Zbm (c:Nat) (ra:Hd) (rb:Hd) (rc:Hd) (rd:Hd) (re:Hd) (rf:Hd) (n:ZG) (s2:Z5) (M:ZK) (ln:LI) (p:Int) (hn:Xu n) (hln:ln.length<=4294967296) (hk:XI n.decls M p) (ht:0<=YZ n M.vars s2) (hb:M.vars.length+4*s2.sz<=1000000000) (hp:0<=p/\p+4*s2.sz<=999999990):Zo 173 [.p c 0,YF n,X4 s2] [.obj c [.h ra,.h rb,.h rc,.h rd,.h re,.h rf,Z4 ln],rV ra M.vars,rV rb M.own,rV rc M.par,rV rd M.con,rV re M.fst,rV rf M.tok] (fun r h=>(∃(wa:Hd) (wb:Hd) (wc:Hd) (wd:Hd) (we:Hd) (wf:Hd) (M':ZK),r=.b true/\h=[.obj c [.h wa,.h wb,.h wc,.h wd,.h we,.h wf,Z4 ln],rV wa M'.vars,rV wb M'.own,rV wc M'.par,rV wd M'.con,rV we M'.fst,rV wf M'.tok]/\QK n ln M s2=some M')∨(r=.b false/\h=[]/\QK n ln M s2=none)):=Zbn n ln hn hln s2.sz s2 c ra rb rc rd re rf M p om hk ht hb hp
theorem Zg2 (rt:YE) (hp:rt.params.length<=1000000:=by exact ob) (hl:rt.lent.length<=4294967296:=by exact ob):Zo 172 [JY rt] [] (fun r h=>∃(c:Nat) (wa:Hd) (wb:Hd) (wc:Hd) (wd:Hd) (we:Hd) (wf:Hd),r=.p c 0/\h=[.obj c [.h wa,.h wb,.h wc,.h wd,.h we,.h wf,Z4 rt.lent],rV wa ((KG rt).vars),rV wb ((KG rt).own),rV wc ((KG rt).par),rV wd ((KG rt).con),rV we ((KG rt).fst),rV wf ((KG rt).tok)]):=by
 refine ZE 45 Tryz.func172 (ar (iA (JH rt) fun b1=>Z1 (Zq 2 [0] (ic [] (WV rt.lent) ?_))))
 rintro _ _ ⟨v1,rfl,rfl⟩
 refine ZQ 1 [(8,.agg [nl,nl,nl,nl,nl,nl,Z4 rt.lent])] (iA [nl,nl,nl,nl,nl,nl,Z4 rt.lent] fun b2=>?_)
 refine Xn (Zhn 0 b2 [nl,nl,nl,nl,nl,nl,Z4 rt.lent] [.h hN,.h hN,.h hN,.h hN,.h hN,.h hN,Z4 rt.lent] (.cons (Zd.hd (v:=hN)) (.cons (Zd.hd (v:=hN)) (.cons (Zd.hd (v:=hN)) (.cons (Zd.hd (v:=hN)) (.cons (Zd.hd (v:=hN)) (.cons (Zd.hd (v:=hN)) (.cons (lr _) .nil)))))))) (Xn (Ee) (Xn (Ee) (Xn (Ee) (Xn (Ee) (Xn (Ee) (Xn (Ee) (Z1 (Y6 (ab 0 (Y0 (fun fz gz m F h=>∃(k:Nat) (L2:ZK) (ka:Hd) (kb:Hd) (kc:Hd) (kd:Hd) (ke:Hd) (kf:Hd),(k<=rt.params.length)/\(Tl L2)/\(L2.vars.length=k)/\(Bc rt.lent (rt.params.drop k) k L2=KG rt)/\F=sF [1,3] fz [(4,.i k)]/\h=[.obj b2 [.h ka,.h kb,.h kc,.h kd,.h ke,.h kf,Z4 rt.lent],Zi gz 8,rV ka L2.vars,rV kb L2.own,rV kc L2.par,rV kd L2.con,rV ke L2.fst,rV kf L2.tok]/\m=rt.params.length-k) _ _ _ ⟨0,(ZK.mk [] [] [] [] [] []),hN,hN,hN,hN,hN,hN,ob,⟨rfl,rfl,rfl,rfl,rfl⟩,rfl,rfl,rfl,rfl,rfl⟩ (wk [6,7,0,0,0,0,0,0] (Ya fl) (e:=(rc (rc (rv (xs:=[]) ob (rv (xs:=[]) ob (rv (xs:=[]) ob (rv (xs:=[]) ob (rv (xs:=[]) ob (rv (xs:=[]) ob rz)))))))))) ?_))))))))))
 rintro m F h ⟨k,L2,ka,kb,kc,kd,ke,kf,Yj,Zf,ZB,YL,rfl,rfl,rfl⟩
 refine Ys 3 [1] (iw (Yc rt.params) (Y2 ((k:Int)<(rt.params.length:Int)) (fun Z9=>?_) (fun Z9=>?_)))
 ·refine ak (aq (ab 1 (Zq 3 [1] ?_)))
  obtain ⟨x1,Z3⟩:=Zt rt.params k om
  refine Zs (Zh none (k:Int) 1 (Y8 Z3)) (Xp [1,3,4] [(29,.b ((x1 != 0)&&(!(decide ((k:Int)∈rt.lent)))))] (fun gz=>gz) ?_ ?_)
  ·refine Z0 3 (ib (b:=(x1 != 0)) 23 (fun Zc=>?_) (fun Zc=>?_))
   ·exact Zz 3 [1] (Zw [] (UM rt.lent (k:Int)) (Z1 (Zv 8 (Zl (!(decide ((k:Int)∈rt.lent))) Zc fl))))
   exact Z1 (Zv 8 (Zl false Zc fl))
  refine ac ((x1 != 0)&&(!(decide ((k:Int)∈rt.lent)))) (p:=(x1≠0)/\(¬((k:Int)∈rt.lent))) (Yu Yp (Yh dq)) (fun Zj=>?_) (fun Zj=>?_)
  ·refine az (Zz 4 [1] (Zs (Zh none (k:Int) 1 (Y8 Z3)) (Z0 1 (ic [0,1,1,1,1,1,1] (KE b2 ka kb kc kd ke kf L2 rt.lent x1 1 (-1) (hlk:=Zf)) ?_))))
   rintro _ _ ⟨wa1,wb1,wc1,wd1,we1,wf1,rfl⟩
   exact ie (az (Z0 1 (ZD k (Z1 (ZF ⟨k+1,(L2.grow x1 1 (-1)),wa1,wb1,wc1,wd1,we1,wf1,ob,(Tl.grow Zf),(by simp [ZK.grow];omega),(by rw [Yk Z3,Bc] at YL;first|(rw [Zk Zj] at YL;exact YL)|(rw [Za Zj] at YL;exact YL)),rfl,rfl,rfl⟩ (wk [0,6,0,0,0,0,0,0] (ZI k fl)))))))
  refine az (Zz 4 [1] (Zs (Zh none (k:Int) 1 (Y8 Z3)) (Z0 1 (ic [0,1,1,1,1,1,1] (KE b2 ka kb kc kd ke kf L2 rt.lent x1 0 (-1) (hlk:=Zf)) ?_))))
  rintro _ _ ⟨wa2,wb2,wc2,wd2,we2,wf2,rfl⟩
  exact ie (az (Z0 1 (ZD k (Z1 (ZF ⟨k+1,(L2.grow x1 0 (-1)),wa2,wb2,wc2,wd2,we2,wf2,ob,(Tl.grow Zf),(by simp [ZK.grow];omega),(by rw [Yk Z3,Bc] at YL;first|(rw [Zk Zj] at YL;exact YL)|(rw [Za Zj] at YL;exact YL)),rfl,rfl,rfl⟩ (wk [0,6,0,0,0,0,0,0] (ZI k fl)))))))
 refine ax 0 (Y1 ?_)
 have hNl:L2=KG rt:=by rw [<-YL,Xm om];rfl
 exact ZY (r1 [0,1,1,1,1,1,1] ⟨b2,ka,kb,kc,kd,ke,kf,rfl,rfl⟩ (eq:=(rc (rv (xs:=L2.vars) (by rw [hNl]) (rv (xs:=L2.own) (by rw [hNl]) (rv (xs:=L2.par) (by rw [hNl]) (rv (xs:=L2.con) (by rw [hNl]) (rv (xs:=L2.fst) (by rw [hNl]) (rv (xs:=L2.tok) (by rw [hNl]) rz)))))))))
theorem Z8n (n:ZG) (f0:Nat) (k0:Nat) (rt:YE) (hz:JW n:=by exact ob) (hr:n.routines[f0]? = some rt:=by exact ob) (hk0:k0<=rt.body.steps.length:=by exact ob):Zo 150 [YF n,.i f0,.i k0] [] (fun r h=>(∃(c:Nat) (wa:Hd) (wb:Hd) (wc:Hd) (wd:Hd) (we:Hd) (wf:Hd) (L:ZK) (q:Int),r=.tup [.p c 0,.b true]/\h=[.obj c [.h wa,.h wb,.h wc,.h wd,.h we,.h wf,Z4 rt.lent],rV wa L.vars,rV wb L.own,rV wc L.par,rV wd L.con,rV we L.fst,rV wf L.tok]/\XI n.decls L q/\L.vars.length=rt.params.length+Yv (rt.body.steps.take k0)/\L.vars.length<=500000000/\rt.lent.length<=4194304)∨(r=.tup [.any,.b false]/\h=[]/\True)):=by
 have hzl:=hz.len
 have hfl:=(Xh.1 hr).1
 have hrm:=Y3 hr
 have hbz:=hz.body _ hrm
 have ZL:=Ux rt.body
 have hbe:=rt.body.sz_eq
 obtain ⟨hk,hkv⟩:=Zc1 n.decls rt
 refine ZE 64 Tryz.func150 (ar (iA (X8 n) fun b1=>Z1 (Ys 1 [0] (Zw [] (Zgw n) (X6 12 [1,2,3] [(21,.b ((!Kj n)||(!(decide (0<=(f0:Int)/\(f0:Int)<=((n.routines.length:Int)-1))))))] (fun gz=>gz) ?_ (fun hj1=>?_))))))
 ·refine Xp [1,2,3] [(34,.b (((!Kj n)||(!(decide (0<=(f0:Int)/\(f0:Int)<=((n.routines.length:Int)-1)))))||(!(decide (0<=(k0:Int)/\(k0:Int)<=(rt.body.steps.length:Int))))))] (fun gz=>gz) ?_ ?_
  ·refine Z0 1 (ib (b:=((!Kj n)||(!(decide (0<=(f0:Int)/\(f0:Int)<=((n.routines.length:Int)-1)))))) 22 (fun Zc=>?_) (fun Zc=>?_))
   ·exact Z1 (wk [0] (Zl true Zc fl))
   exact Zz 4 [0] (Zs (Zh none (f0:Int) 5 (VJ hr)) (Z0 3 (iw (UB rt.body.steps) (Zw [] (Vf (k0:Int) 0 (rt.body.steps.length:Int)) (Z1 (wk [0] (Zl (!(decide (0<=(k0:Int)/\(k0:Int)<=(rt.body.steps.length:Int)))) Zc fl)))))))
  refine ac (((!Kj n)||(!(decide (0<=(f0:Int)/\(f0:Int)<=((n.routines.length:Int)-1)))))||(!(decide (0<=(k0:Int)/\(k0:Int)<=(rt.body.steps.length:Int))))) (p:=((¬(Kj n=true))∨(¬(0<=(f0:Int)/\(f0:Int)<=((n.routines.length:Int)-1))))∨(¬(0<=(k0:Int)/\(k0:Int)<=(rt.body.steps.length:Int)))) (ZO (ZO (Yh Iff.rfl) (Yh dq)) (Yh dq)) (fun Z9=>?_) (fun Z9=>?_)
  ·exact ar (ZQ 1 [(35,.agg [.sl [] none,.sl [] none,.sl [] none,.sl [] none,.sl [] none,.sl [] none,.sl [] none])] (iA [.sl [] none,.sl [] none,.sl [] none,.sl [] none,.sl [] none,.sl [] none,.sl [] none] fun b2=>Zm (r2 [] [.p b2 0,.b false] (.inr ⟨rfl,rfl,(by first|exact True.intro|exact ⟨Zf,by rw [show k0=j by omega];exact QT,by omega,hll⟩)⟩) (Zd.tup (.cons (Zd.any _) (.cons (lr _) .nil))))))
  have hV:Kj n=true:=C7 fun z=>Z9 (.inl (.inl z))
  obtain ⟨hok,hall⟩:=Zi2 hz hV
  have hty:=hall rt hrm
  obtain ⟨vs,t0,hvs,hres,hrt0⟩:=Nv hty
  have hpl:=hok.params_at hr
  have hll:=hok.lent_at hr
  refine ak (Zq 3 [0] (Zs (Zh none (f0:Int) 5 (VJ hr)) (Z0 1 (ic [] (Zg2 rt) ?_))))
  rintro _ _ ⟨c1,wa1,wb1,wc1,wd1,we1,wf1,rfl,rfl⟩
  refine Z1 (Y6 (ab 0 (Y0 (fun fz gz m F h=>∃(j:Nat) (q2:Int) (L2:ZK) (ka:Hd) (kb:Hd) (kc:Hd) (kd:Hd) (ke:Hd) (kf:Hd),(j<=k0)/\(XI n.decls L2 q2)/\(0<=q2/\q2+4*Yw (rt.body.steps.drop j)<=999999990)/\(L2.vars.length+4*Yw (rt.body.steps.drop j)<=400000000)/\(Uw n (rt.body.steps.drop j) L2.vars=some vs)/\(L2.vars.length=rt.params.length+Yv (rt.body.steps.take j))/\F=sF [1,2,3,8] fz [(9,.i j)]/\h=[.obj c1 [.h ka,.h kb,.h kc,.h kd,.h ke,.h kf,Z4 rt.lent],Zi gz 7,rV ka L2.vars,rV kb L2.own,rV kc L2.par,rV kd L2.con,rV ke L2.fst,rV kf L2.tok]/\m=k0-j) _ _ _ ⟨0,1,(KG rt),wa1,wb1,wc1,wd1,we1,wf1,ob,hk,(by rw [Kk];omega),(by rw [Kk,hkv];omega),(by rw [Kk,hkv];exact hvs),(by rw [hkv];rfl),rfl,rfl,rfl⟩ (wk [0,6,0,0,0,0,0,0] (Ya fl)) ?_)))
  rintro m F h ⟨j,q2,L2,ka,kb,kc,kd,ke,kf,Yj,Zf,ZB,YL,Wh,QT,rfl,rfl,rfl⟩
  refine Xd (Y2 ((j:Int)<(k0:Int)) (fun Zj=>?_) (fun Zj=>?_))
  ·obtain ⟨s1,hs1⟩:=Zt rt.body.steps j om
   have hss:=Eb hs1
   have hsp:=s1.sz_pos
   have hzd:=Z13 hs1
   have hdt:=NU hs1
   have hdr:=Yk hs1
   rw [hdr] at Wh
   obtain ⟨g1,g2⟩:=Z1c Wh
   refine ak (aq (ab 1 (aD 14 (ZW 9 14 [0,1,2,3,4] [1,1] (dx 5 (Zh none (f0:Int) 5 (VJ hr)) (Zp 4 8 [6,7,8,9] (dx 10 (Zh none (j:Int) 5 (V8 hs1)) (Zp 2 3 [11] (Z7 12 (dc 12 [0,1,1,1,1,1,1] [] [] (Zbm c1 ka kb kc kd ke kf n s1 L2 rt.lent q2 hok ob Zf g1 om om) ?_))))))))))
   rintro _ _ (⟨wa2,wb2,wc2,wd2,we2,wf2,M'1,rfl,rfl,YR⟩|⟨rfl,rfl,YV⟩)
   ·have hP:=YR
    have kx:=Z19 hok Zf ZB.1 g1 hP
    have hsf:=Zf9 g1
    exact Zp 0 1 [13] (de (VG (ak (az (Z0 1 (ZD j (Z1 (ZF ⟨j+1,(q2+4*s1.sz),M'1,wa2,wb2,wc2,wd2,we2,wf2,ob,kx.1,om,(by rw [kx.2,hsf];split<;>omega),(by rw [kx.2];exact g2),(by rw [kx.2,hsf,hdt];split<;>omega),rfl,rfl,rfl⟩ (wk [0,6,0,0,0,0,0,0] (ZI j fl))))))))))
   exact Zp 0 1 [13] (de (VR (ar (Zm (r2 [] [.p c1 0,.b false] (.inr ⟨rfl,rfl,(by first|exact True.intro|exact ⟨Zf,by rw [show k0=j by omega];exact QT,by omega,hll⟩)⟩) (Zd.tup (.cons (Zd.any _) (.cons (lr _) .nil))))))))
  exact ax 0 (ar (Zm (r2 [0,1,1,1,1,1,1] [.p c1 0,.b true] (.inl ⟨c1,ka,kb,kc,kd,ke,kf,L2,_,rfl,rfl,(by first|exact True.intro|exact ⟨Zf,by rw [show k0=j by omega];exact QT,by omega,hll⟩)⟩) (lr _))))
 refine Z0 2 (ib (b:=(!Kj n)) 13 (fun ZC=>?_) (fun ZC=>?_))
 ·exact Z0 8 (Y5 (wk [0] (Zl true ZC fl)) hj1)
 exact Zz 3 [0] (iw (TS n.routines) (ia (((n.routines.length:Int)-1)) (((n.routines.length:Int))-(1)) (Zw [] (Vf (f0:Int) 0 ((n.routines.length:Int)-1)) (Z0 2 (Y5 (wk [0] (Zl (!(decide (0<=(f0:Int)/\(f0:Int)<=((n.routines.length:Int)-1)))) ZC fl)) hj1)))))
theorem Pg (b:Z8) (i0:Nat) (s:Z5) (hi:i0<=b.steps.length:=by exact ob) (hz:b.sz<=100000000:=by exact ob):Zo 152 [Yq b,.i i0,X4 s] [] (Yx (Yq (Z8.mk (WL b.steps i0 s) b.result))):=by
 have ZL:=Ux b
 exact ZE 26 Tryz.func152 (ar (iA (XV b) fun b1=>iA (Wd s) fun b2=>iA [nl,.i 0] fun b3=>ie (ar (iL (ZU []) 0 5 fun v1=>Zz 3 [3] (Zs (Ax (es:=ZU b.steps) (hv:=none) (l:=0) (m:=(i0:Int)) (sz:=5) (es':=ZU (b.steps.take i0)) kr om (by simp<;>omega) (by simp<;>omega) (XE _) (by first|(simp only [UZ,Ub,AU,AT];done)|(simp only [UZ,Ub,AU,AT];rfl)|(simp [AU,AT];done))) (ip 0 (ZU (b.steps.take i0)) (ZU []) (ZU (b.steps.take i0)) v1 none 5 (XE _) (XE _) (Uk _) (by simp<;>omega) (by simp [U5]) fun v2=>Z1 (aD 13 (ZW 8 13 [0,1,4,5,6] [2,3] (dx 7 (Ax (es:=ZU b.steps) (hv:=none) (l:=(i0:Int)) (m:=(((ZU b.steps).length:Nat):Int)) (sz:=5) (es':=ZU (b.steps.drop i0)) kr om (by simp<;>omega) (by simp<;>omega) (XE _) (by first|(simp only [UZ,Ub,AU,AT];done)|(simp only [UZ,Ub,AU,AT];rfl)|(simp [AU,AT];done))) (ZW 5 7 [9,10] [3] (Z7 2 (dL 2 [2,2] [b1,b1] [X4 s] 1 5 fun v3=>Yt 4 4 [] [(16,.sl [X4 s] none)] (Z7 3 (dp 3 1 [2,2] [b1,b1] (ZU ((b.steps.take i0)++[s])) (ZU (b.steps.take i0)) [X4 s] v2 none 5 (XE _) (J6 rfl) rfl (by simp<;>omega) (by simp [Vt,U5]) fun v4=>Z7 8 (dp 8 0 [2] [b1] (ZU (WL b.steps i0 s)) (ZU ((b.steps.take i0)++[s])) (ZU (b.steps.drop i0)) v4 none 5 (XE _) (XE _) (Uk _) (by simp<;>omega) (by simp only [WL,Vt]) fun v5=>Zp 1 2 [11] (Z7 12 (X3 12 2 [] [] b3 [Xg (WL b.steps i0 s) v5,.i b.result] (de (ZY (r3 [] [.agg [Xg (WL b.steps i0 s) v5,.i b.result]] [0] [(b3,b3)] ⟨rfl,rfl⟩ (Zd.agg (.cons (Zd.sl _ (Yl ZU rfl)) (.cons li .nil)))))))))))))))))))))))
theorem Z9g (n:ZG) (f0:Nat) (b:Z8) (rt:YE) (hr:n.routines[f0]? = some rt) (hl:n.routines.length<=1000000) (hp:rt.params.length<=4294967296) (hl2:rt.lent.length<=4294967296):Zo 154 [YF n,.i f0,Yq b] [] (fun r h=>∃(g:Nat) (c:Nat),r=.agg [Ye n.decls,.ms g 0 n.routines.length c]/\h=[.row (.slice (some ⟨g,0,none⟩) n.routines.length c) 5 (Zg (X9 (n.routines.set f0 (YE.mk rt.params rt.lent rt.result b))))]):=by
 have hfl:=(Xh.1 hr).1
 refine ZE 26 Tryz.func154 (ar (iA (X8 n) fun b1=>iA (XV b) fun b2=>iA [nl,nl] fun b3=>ie (ar (ES 5 fun g1=>Zz 2 [3] (iKC 0 g1 5 (X9 n.routines) none (T9 _) (by simp<;>omega) fun v1=>ER 0 n.routines.length (v:=v1) (OV _) om (fun g2 c1 he1=>?_))))))
 subst he1
 exact Z1 (aD 11 (ZW 6 11 [0,1,2,3,4] [3] (dx 5 (Zh none (f0:Int) 5 (VJ hr)) (ZW 3 5 [6,7] [2] (Z7 8 (YH 8 [] [] [] (E7 rt b) (dx 9 (W6 g2 n.routines.length c1 f0 5 (f0:Int)) (Z7 10 (Ac 10 0 [] [] g2 n.routines.length c1 5 (f0*5) (JH (YE.mk rt.params rt.lent rt.result b)) (Zg (X9 n.routines)) (Zg (X9 (n.routines.set f0 (YE.mk rt.params rt.lent rt.result b)))) (by rw [OV];simp only [Yo,YC];omega) (Z7b (YE.mk rt.params rt.lent rt.result b) hfl) (de (Zq 4 [3] (Zy 1 b3 [Ye n.decls,.ms g2 0 n.routines.length c1] (ie (ZY (r3 [1] [.agg [Ye n.decls,.ms g2 0 n.routines.length c1]] [0] [(b3,b3)] ⟨g2,c1,rfl,rfl⟩ (lr _))))))))))))))))
theorem Z9f (n:ZG) (f0:Nat) (b:Z8) (rt:YE) (hr:n.routines[f0]? = some rt:=by exact ob) (hl:n.routines.length<=1000000:=by exact ob) (hp:rt.params.length<=4294967296:=by exact ob) (hl2:rt.lent.length<=4294967296:=by exact ob):Zo 154 [YF n,.i f0,Yq b] [] (Yx (YF (withR n f0 rt b))):=(WZ.frzN (ds:=n.decls) (rs:=(n.routines.set f0 (YE.mk rt.params rt.lent rt.result b))) (hs:=[]) ((Z9g n f0 b rt hr hl hp hl2).mono fun r h ⟨g,c,e1,e2⟩=>⟨g,c,by rw [e1];simp only [VQ],by rw [e2];simp only [VQ]⟩))
theorem Jx (rd:Nat) (bs:LI) (p:Nat) (mx:Nat) (ZL:∀z∈bs,0<=z/\z<=255) (hp:p+1<=1000000000:=by exact ob) (hmx:0<mx:=by exact ob):Zo 40 [.p rd 0,.i mx] [YI rd bs p] (fun r h=>∃(kn:Nat),r=.i kn/\h=[.obj rd [Um bs,.i (p+1:Nat)]]/\kn<mx):=(XX rd bs p mx ZL hp).mono fun r h ⟨z,hr,hh,hz⟩=>by
  have h0:=hz.lt om
  exact ⟨z.toNat,by rw [hr,Int.toNat_of_nonneg h0.1],hh,by omega⟩
theorem Pc (rd:Nat) (bs:LI) (p:Nat) (n:ZG) (ZL:∀z∈bs,0<=z/\z<=255) (hp:p+4<=1000000000:=by exact ob) (hz:JW n:=by exact ob) (hl1:1<=n.routines.length/\n.routines.length<=1000000:=by exact ob):Zo 114 [.p rd 0,YF n] [YI rd bs p] (fun r h=>∃(n2:ZG) (p2:Nat),r=YF n2/\h=[YI rd bs p2]/\FZ n n2/\p<=p2/\p2<=p+4):=by
 refine ZE 102 Tryz.func114 (ar (iA (X8 n) fun b1=>iA [nl,nl] fun b2=>ie (Zq 3 [1] (iw (TS n.routines) (ic [2] (Jx rd bs p n.routines.length (ZL:=ob)) ?_)))))
 rintro _ _ ⟨YU,rfl,rfl,Y4⟩
 refine Z1 (Zq 3 [2] ?_)
 obtain ⟨x1,Z3⟩:=Zt n.routines YU om
 have hrm:=Y3 Z3
 have hbz:=hz.body _ hrm
 have ZL:=Ux (x1).body
 have hpl:=hz.params _ hrm
 have hll:=hz.lent _ hrm
 have hrx:=Z3
 refine Zs (Zh none (YU:Int) 5 (VJ Z3)) (Z0 2 (iA [nl,.i 0] fun b3=>Zy 0 b3 (XV x1.body) (ie (Zq 3 [0] (iw (UB x1.body.steps) (ia (((x1.body.steps.length+1:Nat):Int)) (((x1.body.steps.length:Int))+(1)) (ic [1] (Jx rd bs (p+1) (x1.body.steps.length+1) (ZL:=ob)) ?_)))))))
 rintro _ _ ⟨Xi,rfl,rfl,Yr⟩
 refine Z1 (Zq 3 [3] (ic [] (Z8n n YU Xi x1 (hr:=hrx)) ?_))
 rintro _ _ (⟨c1,wa1,wb1,wc1,wd1,we1,wf1,L1,q1,rfl,rfl,YR⟩|⟨rfl,rfl,YV⟩)
 ·obtain ⟨hLO,hLv,hLb,hLl⟩:=YR
  have hLn:=hLO.len
  obtain ⟨e1,e2,e3,e4,e5⟩:=hLO.len
  refine Z1 (Y6 (VG (ak (ar (iL (Z6 []) 0 1 fun v1=>?_)))))
  refine Z1 (Y6 (ab 0 (Y0 (fun fz gz m F h=>∃(k:Nat) (vl:LI) (u:Value),(k<=L1.vars.length)/\(vl.length<=k)/\(∀v∈vl,0<=v/\v<(L1.vars.length:Int))/\F=sF [0,3,4,5,6,7,8] fz [(10,ZH vl u),(11,.i k)]/\h=[Zi gz 1,Zi gz 2,Zi gz 3,Zi gz 4,Zi gz 5,Zi gz 6,Zi gz 7,Zi gz 8,Zi gz 9,Zi gz 10,Zi gz 11,.tail u 1]/\m=L1.vars.length-k) _ _ _ ⟨0,[],v1,ob,ob,(fun v hv=>by cases hv),rfl,rfl,rfl⟩ (wk [1,1,1,1,1,1,1,1,1,1,1,0] (fr (Ya fl))) ?_)))
  rintro m F h ⟨k,vl,u,Yj,Zf,ZB,rfl,rfl,rfl⟩
  refine Ys 5 [0] (Zs (D5 1 wa1 L1.vars) (Y2 ((k:Int)<(L1.vars.length:Int)) (fun Z9=>?_) (fun Z9=>?_)))
  ·refine ak (aq (ab 1 (Zq 5 [0] (Zs (Ua 1 wa1 L1.vars (k:Int) k) ?_))))
   obtain ⟨x2,Zu⟩:=Zt L1.vars k om
   refine Uh (Qs 1 wa1 L1.vars k x2 Zu) (Z0 2 (ib (b:=(x2 != 0)) 59 (fun Zc=>?_) (fun Zc=>?_)))
   ·refine Z0 2 (Zw [0,0,0,0,0,0,0] (H6 c1 wa1 wb1 wc1 wd1 we1 wf1 L1 x1.lent (k:Int) (hlk:=hLO.len) (hd:=hLO.down)) (YB (T3 L1 x1.lent (k:Int)) Iff.rfl (fun Zj=>?_) (fun Zj=>?_)))
    ·exact az (Z0 2 (iL (Z6 [(k:Int)]) 1 1 fun v2=>ZQ 0 [(66,Z4 [(k:Int)])] (ip 12 (Z6 (vl++[(k:Int)])) (Z6 vl) (Z6 [(k:Int)]) u none 1 (YD _) (YD _) (W2 _) (by simp<;>omega) (by simp [W1,Z6]) fun v3=>Z1 (az (Z0 1 (ZD k (Z1 (ZF ⟨k+1,(vl++[(k:Int)]),v3,ob,ob,(by first|exact ZB|exact XD ZB om),rfl,rfl,rfl⟩ (wk [2,2,2,2,2,2,2,2,2,2,2,0] (fr (ZI k fl)))))))))))
    exact ak (az (Z0 1 (ZD k (Z1 (ZF ⟨k+1,vl,u,ob,ob,(by first|exact ZB|exact XD ZB om),rfl,rfl,rfl⟩ (Zv 12 (fr (ZI k fl))))))))
   exact Z1 (VG (ak (az (Z0 1 (ZD k (Z1 (ZF ⟨k+1,vl,u,ob,ob,(by first|exact ZB|exact XD ZB om),rfl,rfl,rfl⟩ (Zv 12 (fr (ZI k fl))))))))))
  refine ax 0 (YM 1 (iw (Yc vl) (YB ((vl.length:Int)==0) Ze (fun ZA=>?_) (fun ZA=>?_))))
  ·exact Zq 1 [10] (Zy 9 b2 (X8 n) (ie (ZY (r3 [8] [YF n] [0] [(b2,b2)] ⟨n,(p+1)+1,rfl,rfl,(by first|exact ⟨.inl rfl,by omega,by omega⟩|(have hv:=ZB x3 (Y3 YP);exact ⟨.inr ⟨YU,x1,Xi,Xi+Qn,x3,hrx,by omega,by omega,hv.1,by omega,rfl⟩,by omega,by omega⟩))⟩ (lr _)))))
  refine ak (Yf 3 (iw (Yc vl) (ic [7] (Jx rd bs ((p+1)+1) vl.length (ZL:=ob)) ?_)))
  rintro _ _ ⟨K7,rfl,rfl,Wc⟩
  obtain ⟨x3,YP⟩:=Zt vl K7 om
  refine Zs (Zh (some u) (K7:Int) 1 (Y8 YP)) (Z1 (Zq 4 [8] (iw (UB x1.body.steps) (Z0 1 (ia ((((x1.body.steps.length-Xi):Nat):Int)) (((x1.body.steps.length:Int))-((Xi:Int))) (ia ((((x1.body.steps.length-Xi)+1:Nat):Int)) (((((x1.body.steps.length-Xi):Nat):Int))+(1)) (ic [0] (Jx rd bs (((p+1)+1)+1) ((x1.body.steps.length-Xi)+1) (ZL:=ob)) ?_)))))))
  rintro _ _ ⟨Qn,rfl,rfl,WF⟩
  exact ia (((Xi+Qn:Nat):Int)) (((Xi:Int))+((Qn:Int))) (Z1 (aD 6 (ZW 3 6 [0,1,2] [8] (Z7 3 (YH 3 [] [2] [b3] (C3 15 x3) (Z7 4 (YH 4 [] [] [] (Pg x1.body (Xi+Qn) (Zx 15 x3) (hi:=(by first|omega|(show Xi<=(WL _ _ _).length;rw [S3 om];omega))) (hz:=(by first|omega|(rw [Z8.sz,Hv];have e:(Zx 15 x3).sz=2:=rfl;have e2:=x1.body.sz_eq;omega)))) (Z7 5 (X3 5 8 [] [] b3 (XV (Z8.mk (WL x1.body.steps (Xi+Qn) (Zx 15 x3)) x1.body.result)) (de (aD 9 (ZW 4 9 [0,1,2,3,4] [10,0] (Z7 5 (YH 5 [] [0,4] [b3,b1] (C3 14 x3) (Z7 6 (YH 6 [] [4] [b1] (Pg (Z8.mk (WL x1.body.steps (Xi+Qn) (Zx 15 x3)) x1.body.result) Xi (Zx 14 x3) (hi:=(by first|omega|(show Xi<=(WL _ _ _).length;rw [S3 om];omega))) (hz:=(by first|omega|(rw [Z8.sz,Hv];have e:(Zx 15 x3).sz=2:=rfl;have e2:=x1.body.sz_eq;omega)))) (Z7 7 (YH 7 [] [] [] (Z9f n YU (Z8.mk (WL (Z8.mk (WL x1.body.steps (Xi+Qn) (Zx 15 x3)) x1.body.result).steps Xi (Zx 14 x3)) (Z8.mk (WL x1.body.steps (Xi+Qn) (Zx 15 x3)) x1.body.result).result) x1 (hr:=hrx)) (Z7 8 (X3 8 9 [] [] b2 (X8 (withR n YU x1 (Z8.mk (WL (Z8.mk (WL x1.body.steps (Xi+Qn) (Zx 15 x3)) x1.body.result).steps Xi (Zx 14 x3)) (Z8.mk (WL x1.body.steps (Xi+Qn) (Zx 15 x3)) x1.body.result).result))) (de (ZY (r3 [2] [YF (withR n YU x1 (Z8.mk (WL (Z8.mk (WL x1.body.steps (Xi+Qn) (Zx 15 x3)) x1.body.result).steps Xi (Zx 14 x3)) (Z8.mk (WL x1.body.steps (Xi+Qn) (Zx 15 x3)) x1.body.result).result))] [0] [(b2,b2)] ⟨(withR n YU x1 (Z8.mk (WL (Z8.mk (WL x1.body.steps (Xi+Qn) (Zx 15 x3)) x1.body.result).steps Xi (Zx 14 x3)) (Z8.mk (WL x1.body.steps (Xi+Qn) (Zx 15 x3)) x1.body.result).result)),(((p+1)+1)+1)+1,rfl,rfl,(by first|exact ⟨.inl rfl,by omega,by omega⟩|(have hv:=ZB x3 (Y3 YP);exact ⟨.inr ⟨YU,x1,Xi,Xi+Qn,x3,hrx,by omega,by omega,hv.1,by omega,rfl⟩,by omega,by omega⟩))⟩ (lr _))))))))))))))))))))))))
 exact Z1 (Y6 (VR (Zq 1 [3] (Zy 2 b2 (X8 n) (ie (ZY (r3 [1] [YF n] [0] [(b2,b2)] ⟨n,(p+1)+1,rfl,rfl,(by first|exact ⟨.inl rfl,by omega,by omega⟩|(have hv:=ZB x3 (Y3 YP);exact ⟨.inr ⟨YU,x1,Xi,Xi+Qn,x3,hrx,by omega,by omega,hv.1,by omega,rfl⟩,by omega,by omega⟩))⟩ (lr _))))))))
end Go.Abs
