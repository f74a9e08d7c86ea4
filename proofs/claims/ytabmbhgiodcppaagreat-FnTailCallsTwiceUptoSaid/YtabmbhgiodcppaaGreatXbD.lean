/-
  A part of the proofs of several laws (see the last file): no condition.
-/
import Derived.Test.YtabmbhgiodcppaaGreatXbC
set_option linter.all false
set_option linter.unusedVariables false
set_option linter.unusedSimpArgs false
set_option linter.unusedSectionVars false
set_option maxRecDepth 10000
set_option maxHeartbeats 4000000
namespace Go.Abs
open Go.Proofs
theorem TX (ps:LI) (rt:Int) :Zp 150 [Z4 ps,.i rt] [] (Yz (Eu (Func.mk ps rt (Z1.mk 0 0 [])))):=by
 exact ZG 8 Tryz.func150 (ar (iA [nl,.i 0,.i 0,.i 0,nl] fun b1=>ie (Yj 3 (Zy 0 b1 [Z4 ps,.i rt,.i 0,.i 0,nl] (ie (ZQ (r3 [] [.agg [Z4 ps,.i rt,.i 0,.i 0,nl]] [0] [(b1,b1)] ⟨rfl,rfl⟩ (Ze.agg (.cons (Ze.sl _ (Yq Z6 ob)) (.cons li (.cons li (.cons li (.cons (Ze.sl _ rfl) .nil)))))))))))))
theorem Z91 (rd:Nat) (bs:LI) (p:Nat) (xs:LI) (ZK:∀z∈bs,0<=z/\z<=255) (hp:p+1<=1000000000:=by exact ob) (hx:0<xs.length/\xs.length<=1000000:=by exact ob) (hy:xs.all (fun x=>decide (0<=x))=true:=by exact ob):Zp 55 [.p rd 0,Z4 xs] [YI rd bs p] (fun r h=>∃(nn:Nat),r=.i nn/\h=[.obj rd [Un bs,.i (p+1:Nat)]]/\(nn:Int)∈xs):=(T1 rd bs p xs ZK hp hx).mono fun r h ⟨z,hr,hh,hz⟩=>by
  have h0:0<=z:=of_decide_eq_true (Ay.1 hy z hz)
  exact ⟨z.toNat,by rw [hr,Int.toNat_of_nonneg h0],hh,by rw [Int.toNat_of_nonneg h0];exact hz⟩
theorem Z7s (rd:Nat) (bs:LI) (p:Nat) (g:W8) (gb:Nat) (rs:List Func) (f:Func) (i:Int) (nl:Nat) (ZK:∀z∈bs,0<=z/\z<=255) (hp:p+90000<=1000000000:=by exact ob) (hg:GP g:=by exact ob) (Wk:g.funcs <+: rs:=by exact ob) (hi:0<=i:=by exact ob) (hf:g.funcs[i.toNat]? = some f:=by exact ob) (h0:i=0->f.params.length=0:=by exact ob) (hn:g.funcs.length=nl:=by exact ob):Zp 151 [.p rd 0,.agg [Y5 g.decls,.ms gb 0 nl 4],.i i] [YI rd bs p,XT gb rs] (fun r h=>∃(e:Z1) (p2:Nat),r=Ya e/\h=[YI rd bs p2,XT gb rs]/\GE g f.params.length 30 e/\p<=p2/\p2<=p+90000):=(by subst hn;exact Z7r rd bs p g gb rs f i ZK hp hg Wk hi hf h0)
theorem Z8g (rd:Nat) (bs:LI) (p:Nat) (ZK:∀z∈bs,0<=z/\z<=255) (hp:p+400000<=1000000000):Zp 137 [.p rd 0] [YI rd bs p] (fun r h=>∃(rs:List Func) (ds:List Zd) (m:Nat) (gb:Nat) (p2:Nat),r=.agg [Y5 ds,.ms gb 0 m 4]/\h=[XT gb rs,YI rd bs p2]/\(GL ds m 0 rs/\GD ds/\1<=m/\m<=4)/\p<=p2/\p2<=p+400000):=by
 refine ZG 110 Tryz.func137 (ar (iA [nl,nl] fun b1=>ie (Yj 1 (ic [1] (Z8d rd bs p (ZK:=ob)) ?_))))
 rintro _ _ ⟨ds1,v1,rfl,rfl,Y9⟩
 have hgd:=Y9
 refine Z0 1 (iA [nl,nl] fun b2=>Zy 0 b2 [KG ds1 v1,nl] (ie (ar (iL (Z6 [1]) 1 1 fun v2=>ZY 0 [(13,Z4 [1])] (Zv [] (TX [1] 0) (iL (Z6 [1,1]) 2 1 fun v3=>ZY 0 [(15,Z4 [1,1])] (Zv [] (TX [1,1] 1) (iL (Z6 [1]) 1 1 fun v4=>ZY 0 [(17,Z4 [1])] (Zv [] (TX [1] 1) (iL (Z6 [1,0]) 2 1 fun v5=>ZY 0 [(19,Z4 [1,0])] (Zv [] (TX [1,0] 1) (iL (Z6 [2,1]) 2 1 fun v6=>ZY 0 [(21,Z4 [2,1])] (Zv [] (TX [2,1] 1) (iL (Z6 [1,1]) 2 1 fun v7=>ZY 0 [(23,Z4 [1,1])] (Zv [] (TX [1,1] 0) (iL (Xv [Func.mk [1] 0 (Z1.mk 0 0 []),Func.mk [1,1] 1 (Z1.mk 0 0 []),Func.mk [1] 1 (Z1.mk 0 0 []),Func.mk [1,0] 1 (Z1.mk 0 0 []),Func.mk [2,1] 1 (Z1.mk 0 0 []),Func.mk [1,1] 0 (Z1.mk 0 0 [])]) 6 5 fun v8=>Z2 (ar (iL (Z6 [3]) 1 1 fun v9=>ZY 0 [(26,Z4 [3])] (Zv [] (TX [3] 0) (iL (Z6 [0]) 1 1 fun v10=>ZY 0 [(28,Z4 [0])] (Zv [] (TX [0] 1) (iL (Z6 [0,1]) 2 1 fun v11=>ZY 0 [(30,Z4 [0,1])] (Zv [] (TX [0,1] 1) (iL (Z6 [3,0]) 2 1 fun v12=>ZY 0 [(32,Z4 [3,0])] (Zv [] (TX [3,0] 3) (iL (Z6 [3]) 1 1 fun v13=>ZY 0 [(34,Z4 [3])] (Zv [] (TX [3] 1) (iL (Z6 [1,3,0]) 3 1 fun v14=>ZY 0 [(36,Z4 [1,3,0])] (Zv [] (TX [1,3,0] 0) (iL (Xv [Func.mk [3] 0 (Z1.mk 0 0 []),Func.mk [0] 1 (Z1.mk 0 0 []),Func.mk [0,1] 1 (Z1.mk 0 0 []),Func.mk [3,0] 3 (Z1.mk 0 0 []),Func.mk [3] 1 (Z1.mk 0 0 []),Func.mk [1,3,0] 0 (Z1.mk 0 0 [])]) 6 5 fun v15=>Z2 (ar (iL (Z6 [0]) 1 1 fun v16=>ZY 0 [(39,Z4 [0])] (Zv [] (TX [0] 0) (iL (Z6 [0,0]) 2 1 fun v17=>ZY 0 [(41,Z4 [0,0])] (Zv [] (TX [0,0] 0) (iL (Z6 [1,0]) 2 1 fun v18=>ZY 0 [(43,Z4 [1,0])] (Zv [] (TX [1,0] 0) (iL (Z6 [0]) 1 1 fun v19=>ZY 0 [(45,Z4 [0])] (Zv [] (TX [0] 1) (iL (Xv [Func.mk [0] 0 (Z1.mk 0 0 []),Func.mk [0,0] 0 (Z1.mk 0 0 []),Func.mk [1,0] 0 (Z1.mk 0 0 []),Func.mk [0] 1 (Z1.mk 0 0 [])]) 4 5 fun v20=>Z2 (aD 26 (Zo 23 26 [2,3,4] (dn 5 (.i (([Func.mk [1] 0 (Z1.mk 0 0 []),Func.mk [1,1] 1 (Z1.mk 0 0 []),Func.mk [1] 1 (Z1.mk 0 0 []),Func.mk [1,0] 1 (Z1.mk 0 0 []),Func.mk [2,1] 1 (Z1.mk 0 0 []),Func.mk [1,1] 0 (Z1.mk 0 0 [])].length:Nat):Int)) (.i (((Xv [Func.mk [1] 0 (Z1.mk 0 0 []),Func.mk [1,1] 1 (Z1.mk 0 0 []),Func.mk [1] 1 (Z1.mk 0 0 []),Func.mk [1,0] 1 (Z1.mk 0 0 []),Func.mk [2,1] 1 (Z1.mk 0 0 []),Func.mk [1,1] 0 (Z1.mk 0 0 [])]).length:Nat):Int)) (li (by rw [Dv])) (Zo 19 22 [9,10,11] (dn 12 (.i (([Func.mk [3] 0 (Z1.mk 0 0 []),Func.mk [0] 1 (Z1.mk 0 0 []),Func.mk [0,1] 1 (Z1.mk 0 0 []),Func.mk [3,0] 3 (Z1.mk 0 0 []),Func.mk [3] 1 (Z1.mk 0 0 []),Func.mk [1,3,0] 0 (Z1.mk 0 0 [])].length:Nat):Int)) (.i (((Xv [Func.mk [3] 0 (Z1.mk 0 0 []),Func.mk [0] 1 (Z1.mk 0 0 []),Func.mk [0,1] 1 (Z1.mk 0 0 []),Func.mk [3,0] 3 (Z1.mk 0 0 []),Func.mk [3] 1 (Z1.mk 0 0 []),Func.mk [1,3,0] 0 (Z1.mk 0 0 [])]).length:Nat):Int)) (li (by rw [Dv])) (Zo 15 18 [16,17,18] (dn 19 (.i (([Func.mk [0] 0 (Z1.mk 0 0 []),Func.mk [0,0] 0 (Z1.mk 0 0 []),Func.mk [1,0] 0 (Z1.mk 0 0 []),Func.mk [0] 1 (Z1.mk 0 0 [])].length:Nat):Int)) (.i (((Xv [Func.mk [0] 0 (Z1.mk 0 0 []),Func.mk [0,0] 0 (Z1.mk 0 0 []),Func.mk [1,0] 0 (Z1.mk 0 0 []),Func.mk [0] 1 (Z1.mk 0 0 [])]).length:Nat):Int)) (li (by rw [Dv])) (Z7 0 (dL 0 [] [] (Z6 []) 0 1 fun v21=>Yx 13 13 [] [(48,Z4 [])] (Z7 1 (YE 1 [] [] [] (TX [] 0) (Z7 6 (dc 6 [22] [] [] (XX rd bs (p+1) (([Func.mk [1] 0 (Z1.mk 0 0 []),Func.mk [1,1] 1 (Z1.mk 0 0 []),Func.mk [1] 1 (Z1.mk 0 0 []),Func.mk [1,0] 1 (Z1.mk 0 0 []),Func.mk [2,1] 1 (Z1.mk 0 0 []),Func.mk [1,1] 0 (Z1.mk 0 0 [])].length:Nat):Int) (ZK:=ob)) ?_)))))))))))))))))))))))))))))))))))))))))))))))))))))
 rintro _ _ ⟨k1,rfl,rfl,Yt⟩
 have qhp2:=Yt.lt (by simp)
 simp only [YA,X6] at qhp2
 obtain ⟨x1,Z3⟩:=Zu [Func.mk [1] 0 (Z1.mk 0 0 []),Func.mk [1,1] 1 (Z1.mk 0 0 []),Func.mk [1] 1 (Z1.mk 0 0 []),Func.mk [1,0] 1 (Z1.mk 0 0 []),Func.mk [2,1] 1 (Z1.mk 0 0 []),Func.mk [1,1] 0 (Z1.mk 0 0 [])] k1.toNat (by simp only [YA,X6];omega)
 refine dx 7 (Zi (some v8) k1 5 (Gm Z3)) (Zo 9 10 [8] (Z7 13 (dc 13 [0] [] [] (XX rd bs ((p+1)+1) (([Func.mk [3] 0 (Z1.mk 0 0 []),Func.mk [0] 1 (Z1.mk 0 0 []),Func.mk [0,1] 1 (Z1.mk 0 0 []),Func.mk [3,0] 3 (Z1.mk 0 0 []),Func.mk [3] 1 (Z1.mk 0 0 []),Func.mk [1,3,0] 0 (Z1.mk 0 0 [])].length:Nat):Int) (ZK:=ob)) ?_)))
 rintro _ _ ⟨k2,rfl,rfl,YS⟩
 have qhp3:=YS.lt (by simp)
 simp only [YA,X6] at qhp3
 obtain ⟨x2,Zw⟩:=Zu [Func.mk [3] 0 (Z1.mk 0 0 []),Func.mk [0] 1 (Z1.mk 0 0 []),Func.mk [0,1] 1 (Z1.mk 0 0 []),Func.mk [3,0] 3 (Z1.mk 0 0 []),Func.mk [3] 1 (Z1.mk 0 0 []),Func.mk [1,3,0] 0 (Z1.mk 0 0 [])] k2.toNat (by simp only [YA,X6];omega)
 refine dx 14 (Zi (some v15) k2 5 (Gm Zw)) (Zo 6 7 [15] (Z7 20 (dc 20 [0] [] [] (XX rd bs (((p+1)+1)+1) (([Func.mk [0] 0 (Z1.mk 0 0 []),Func.mk [0,0] 0 (Z1.mk 0 0 []),Func.mk [1,0] 0 (Z1.mk 0 0 []),Func.mk [0] 1 (Z1.mk 0 0 [])].length:Nat):Int) (ZK:=ob)) ?_)))
 rintro _ _ ⟨k3,rfl,rfl,YX⟩
 have qhp4:=YX.lt (by simp)
 simp only [YA,X6] at qhp4
 obtain ⟨x3,YT⟩:=Zu [Func.mk [0] 0 (Z1.mk 0 0 []),Func.mk [0,0] 0 (Z1.mk 0 0 []),Func.mk [1,0] 0 (Z1.mk 0 0 []),Func.mk [0] 1 (Z1.mk 0 0 [])] k3.toNat (by simp only [YA,X6];omega)
 refine dx 21 (Zi (some v20) k3 5 (Gm YT)) (Zo 3 4 [22] (Z7 23 (dKN 23 [] [] (Z9 (Xv [Func.mk [] 0 (Z1.mk 0 0 []),x1,x2,x3])) 4 5 fun g1=>Zo 1 2 [24] (Z7 25 (X1 25 22 [] [] b2 [KG ds1 v1,.ms g1 0 4 4] (de (Yj 1 (iL (Z6 [4,4,3,2,4]) 5 1 fun v22=>ZY 0 [(74,Z4 [4,4,3,2,4])] (ic [3] (Z91 rd bs ((((p+1)+1)+1)+1) [4,4,3,2,4] (ZK:=ob) (hy:=(by decide))) ?_)))))))))
 rintro _ _ ⟨nn1,rfl,rfl,Xe⟩
 have hnn:=Zcd (a:=2) (b:=4) Xe (by decide)
 refine Z2 (Zs 3 [2] (Zq (PS 3 g1 4 4 nn1 5 (Z9 (Xv [Func.mk [] 0 (Z1.mk 0 0 []),x1,x2,x3]))) (Z0 1 (Zy 2 b2 [KG ds1 v1,.ms g1 0 nn1 4] (ie (YP 1 (ia (((nn1:Int)-1)) (((nn1:Int))-(1)) (Z2 (ab 0 (Y6 (fun fz gz m F h=>∃(j:Nat) (rq:List Func) (pq:Nat),(j<=nn1)/\(GL ds1 nn1 j rq)/\(p<=pq/\pq+90000*j<=p+10+90000*nn1)/\F=sF [0,2,3] fz [(8,.i ((j:Int)-1))]/\h=[Zg gz 0,YI rd bs pq,Zg gz 25,Zg gz 24,XT g1 rq]/\m=j+1) _ _ _ ⟨nn1,[Func.mk [] 0 (Z1.mk 0 0 []),x1,x2,x3],((((p+1)+1)+1)+1)+1,ob,(GL.start (MG Z3 (by decide)) (MG Zw (by decide)) (MG YT (by decide))),ob,rfl,rfl,rfl⟩ (wk [0,0,23,22,1] fl) ?_))))))))))
 rintro m F h ⟨j,rq,pq,Yk,Zh,ZB,rfl,rfl,rfl⟩
 refine Xk (Y2 (((j:Int)-1)>=0) (fun Za=>?_) (fun Za=>?_))
 ·obtain ⟨f1,hf1⟩:=Zu (rq.take nn1) (((j:Int)-1).toNat) (by rw [Zh.len_take om];omega)
  have hfq:rq[j-1]? = some f1:=by have h:=hf1;rw [show ((j:Int)-1).toNat=j-1 by omega,List.getElem?_take_of_lt om] at h;exact h
  refine ak (aq (ab 1 (ar (Kj 3 [(88,.agg [Y5 ds1,.ms g1 0 nn1 4])] [0] (ic [1,3] (Z7s rd bs pq (W8.mk ds1 (rq.take nn1)) g1 rq f1 ((j:Int)-1) nn1 (ZK:=ob) (hg:=(Zh.gp hgd om)) (Wk:=(List.take_prefix nn1 rq)) (hf:=hf1) (h0:=(fun h=>Zh.zero f1 (by rw [<-hfq,show j-1=0 by omega]))) (hn:=(Zh.len_take om))) ?_)))))
  rintro _ _ ⟨e1,p21,rfl,rfl,XP⟩
  have hbw:eW ds1 nn1 f1.params.length e1/\(e1).sz<=30:=by have h:=XP.1;unfold GE at h;rw [show (W8.mk ds1 (rq.take nn1)).funcs.length=nn1 from Zh.len_take om] at h;exact h
  exact iA [.i 0,.i 0,nl] fun b3=>Zy 0 b3 (YZ e1) (ie (aE 19 (ZZ 13 19 [0,1,2,3,4,5] [3,3] (dx 6 (XJ g1 nn1 4 (((j:Int)-1).toNat) 5 ((j:Int)-1)) (Zo 11 12 [7] (UC 8 (WM 2 g1 4 4 5 ((((j:Int)-1).toNat)*5+0) (Z9 (Xv rq)) [Z4 f1.params] 29 (Z4 f1.params) (UM (List.take_prefix nn1 rq) hf1 0 rfl (Vp rfl))) (ZZ 7 10 [9,10,11] [3] (dx 12 (XJ g1 nn1 4 (((j:Int)-1).toNat) 5 ((j:Int)-1)) (Zo 5 6 [13] (UC 14 (WM 2 g1 4 4 5 ((((j:Int)-1).toNat)*5+1) (Z9 (Xv rq)) [.i f1.result] 3 (.i f1.result) (UM (List.take_prefix nn1 rq) hf1 1 rfl (Vp rfl))) (ZZ 2 4 [15,16] [0] (dx 17 (XJ g1 nn1 4 (((j:Int)-1).toNat) 5 ((j:Int)-1)) (Z7 18 (Qy 18 2 [] [] g1 4 4 5 ((((j:Int)-1).toNat)*5) [Z4 f1.params,.i f1.result,.i e1.op,.i e1.num,XE e1.kids] (Z9 (Xv rq)) (Z9 (Xv (rq.set ((j:Int)-1).toNat ⟨f1.params,f1.result,e1⟩))) (by rw [Ln,Zh.len];simp only [YA,X6];omega) (Z77 ⟨f1.params,f1.result,e1⟩ (by rw [Zh.len];omega)) (de (az (Z0 1 (ia ((((j:Int)-1)-1)) (((j:Int)-1)-(1)) (Z2 (ZH ⟨(j-1),(rq.set ((j:Int)-1).toNat ⟨f1.params,f1.result,e1⟩),p21,ob,(by rw [show ((j:Int)-1).toNat=j-1 by omega];exact Zh.set om hfq hbw),ob,rfl,rfl,rfl⟩ (wk [3,2,2,2,0] (fc (x:=.i (((j:Int)-1)-1)) li fl))))))))))))))))))))))
 exact ax 0 (Zs 1 [0] (Zy 2 b1 [KG ds1 v1,.ms g1 0 nn1 4] (ie (ZQ (r3 [4,2] [.agg [KG ds1 v1,.ms g1 0 nn1 4]] [0] [(b1,b1)] ⟨rq,ds1,nn1,g1,pq,rfl,rfl,⟨⟨by rw [show j=0 by omega] at Zh;exact Zh,hgd,by omega,by omega⟩,by omega⟩⟩ (Ze.agg (.cons (Ze.forget _ _) (.cons (lr _) .nil))))))))
theorem Z8f (rd:Nat) (bs:LI) (p:Nat) (ZK:∀z∈bs,0<=z/\z<=255) (hp:p+400000<=1000000000:=by exact ob):Zp 137 [.p rd 0] [YI rd bs p] (fun r h=>∃(g:W8) (p2:Nat),r=AJ g/\h=[YI rd bs p2]/\Ij g/\p<=p2/\p2<=p+400000):=(WI.frzP (E:=List Func × List Zd × Nat × Nat) (ds:=fun e=>e.2.1) (rs:=fun e=>e.1) (m:=fun e=>e.2.2.1) (hs:=fun e=>[.obj rd [Un bs,.i (e.2.2.2:Nat)]]) (Q:=fun e=>(GL e.2.1 e.2.2.1 0 e.1/\GD e.2.1/\1<=e.2.2.1/\e.2.2.1<=4)/\p<=e.2.2.2/\e.2.2.2<=p+400000)
  ((Z8g rd bs p ZK hp).mono fun r h ⟨rs,ds,m,gb,p2,hr,hh,hq⟩=>⟨(rs,ds,m,p2),gb,hr,hh,hq⟩) fun e hq=>⟨hq.1.2.2.2,hq.1.1.len⟩).mono
  fun r h ⟨e,hr,hh,hq⟩=>⟨⟨e.2.1,e.1.take e.2.2.1⟩,e.2.2.2,hr,hh,hq.1.1.done hq.1.2.1 hq.1.2.2,hq.2⟩
theorem Lx (a:Nat) (n:Nat) (ha:a<=1000000:=by exact ob) (hn:n<=1000000:=by exact ob):Zp 71 [.i a,.i n] [] (fun r h=>∃(xs:LI),r=Z4 xs/\h=[]/\xs.length=n/\∀i∈xs,(a:Int)<=i/\i<(a:Int)+n):=by
 refine ZG 20 Tryz.func71 (Y3 (ar (iL (Z6 []) 0 1 fun v1=>?_)))
 refine Z2 (Y8 (ab 0 (Y6 (fun fz gz m F h=>∃(k:Nat) (ys:LI) (u:Value),(k<=n)/\(ys.length=k)/\(∀i∈ys,(a:Int)<=i/\i<(a:Int)+n)/\F=sF [0,1] fz [(5,ZL ys u),(6,.i k)]/\h=[.tail u 1]/\m=n-k) _ _ _ ⟨0,[],v1,ob,ob,(fun i hi=>by cases hi),rfl,rfl,rfl⟩ (wk [0] (fr (Ye fl))) ?_)))
 rintro m F h ⟨k,ys,u,Yk,Zh,ZB,rfl,rfl,rfl⟩
 refine Xk (Y2 ((k:Int)<(n:Int)) (fun Za=>?_) (fun Za=>?_))
 ·exact ak (aq (ab 1 (az (Z0 3 (ia (((a+k:Nat):Int)) (((a:Int))+((k:Int))) (iL (Z6 [((a+k:Nat):Int)]) 1 1 fun v2=>ZY 0 [(17,Z4 [((a+k:Nat):Int)])] (ip 1 (Z6 (ys++[((a+k:Nat):Int)])) (Z6 ys) (Z6 [((a+k:Nat):Int)]) u none 1 (YH _) (YH _) (W4 _) (by simp<;>omega) (by simp [Wa,Z6]) fun v3=>Z2 (az (Z0 1 (ZE k (Z2 (ZH ⟨k+1,(ys++[((a+k:Nat):Int)]),v3,ob,ob,(XG ZB om),rfl,rfl,rfl⟩ (wk [0] (fr (ZJ k fl)))))))))))))))
 exact ax 0 (ar (Zm (r2 [] [ZL ys u] ⟨ys,rfl,rfl,⟨by omega,ZB⟩⟩ (Ze.forget _ _))))
theorem OY (l:Nat) (xs:List Z5) (w:Value) (q:Nat) (s:Z5) (hl:xs.length<=4000000000:=by exact ob) (hq:q<=1000000:=by exact ob):Zp 211 [.p l 0,X5 s] [.obj l [Xi xs w,.i q],.tail w 5] (fun r h=>∃(w2:Value),r=.i q/\h=[.obj l [Xi (xs++[s]) w2,.i (((q+1):Nat):Int)],.tail w2 5]):=by
 exact ZG 28 Tryz.func211 (ar (iA (Wd s) fun b1=>Z2 (aD 11 (ZZ 5 11 [0,1,2,3,4,5] [1,0] (Z7 6 (WD 6 [1] [l] [X5 s] (ZV [s]) (Uc [s]).symm 1 5 fun v1=>Yx 4 4 [] [(11,Vx [s])] (Z7 7 (dp 7 3 [] [] (ZV (xs++[s])) (ZV xs) (ZV [s]) w none 5 (XH _) (XH _) (Uv _) (by simp<;>omega) (by simp [VB,ZV]) fun v2=>Zo 1 3 [8,9] (Z7 10 (X1 10 3 [] [] l [Xi (xs++[s]) v2,.i q] (de (Zs 5 [0] (ZE q (Z0 2 (Zy 0 l [Xi (xs++[s]) v2,.i (q+1:Nat)] (ie (Zs 4 [0] (ia ((((q+1:Nat):Int)-1)) ((((q+1:Nat):Int))-(1)) (Zm (r2 [0,0] [.i (((q+1:Nat):Int)-1)] ⟨v2,rfl,rfl⟩ li))))))))))))))))))))
theorem Pa (g:W8) (e:Z1) (us:LI) (q:Nat) (bb:Nat) (he:eW g.decls g.funcs.length us.length e:=by exact ob) (hu:∀a∈us,0<=a/\a<(q:Int)) (hul:us.length+4*e.sz<=100000:=by exact ob) (hql:q+6*e.sz<=100000:=by exact ob) (hb:e.sz<bb:=by exact ob) (ih:∀(l:Nat) (e2:Z1) (us2:LI) (xs2:List Z5) (w2:Value) (q2:Nat),(eW g.decls g.funcs.length us2.length e2)->(∀a∈us2,0<=a/\a<(q2:Int))->(us2.length+4*e2.sz<=100000)->(xs2.length+6*e2.sz<=100000)->(q2+6*e2.sz<=100000)->(e2.sz<bb)->Zp 177 [.p l 0,AJ g,Ya e2,Z4 us2] [.obj l [Xi xs2 w2,.i q2],.tail w2 5] (fun r h=>∃(ys:List Z5) (v:Int) (w2:Value),r=.i v/\h=[.obj l [Xi (xs2++ys) w2,.i (((q2+Yu ys):Nat):Int)],.tail w2 5]/\LW g.decls g.funcs.length q2 e2 ys v)):Zp 149 [AJ g,Ya e,Z4 us,.i q] [] (fun r h=>∃(b:Z8),r=Yo b/\h=[]/\LB g.decls g.funcs.length q e b):=by
 refine ZG 26 Tryz.func149 (ar (iA (LX g) fun b1=>iA (YZ e) fun b2=>iA [nl,.i 0] fun b3=>ie (ar (iL (ZV []) 0 5 fun v1=>Z0 2 (iA [Xi [] v1,.i q] fun b4=>Z2 (Zs 4 [4,3] (ic [0,0] (ih b4 e us [] v1 q he hu ob ob ob ob) ?_)))))))
 rintro _ _ ⟨ys1,v2,w21,rfl,rfl,Y9⟩
 have hlw:=Y9
 exact Z2 (Zs 6 [0] (Zy 2 b3 [Xi ([]++ys1) w21,.i v2] (ie (ZQ (r3 [] [.agg [Xi ([]++ys1) w21,.i v2]] [0] [(b3,b3)] ⟨(Z8.mk ([]++ys1) v2),rfl,rfl,(by rw [Cd];exact hlw.block)⟩ (Ze.agg (.cons (Ze.forget _ _) (.cons (lr _) .nil))))))))
theorem Z8t (l:Nat) (g:W8) (e:Z1) (us:LI) (xs:List Z5) (w:Value) (q:Nat) (hd:GD g.decls) (he:eW g.decls g.funcs.length us.length e) (hu:∀a∈us,0<=a/\a<(q:Int)) (hul:us.length+4*e.sz<=100000) (hxl:xs.length+6*e.sz<=100000) (hql:q+6*e.sz<=100000) (ih:∀(l:Nat) (e2:Z1) (us2:LI) (xs2:List Z5) (w2:Value) (q2:Nat),(eW g.decls g.funcs.length us2.length e2)->(∀a∈us2,0<=a/\a<(q2:Int))->(us2.length+4*e2.sz<=100000)->(xs2.length+6*e2.sz<=100000)->(q2+6*e2.sz<=100000)->(e2.sz<e.sz)->Zp 177 [.p l 0,AJ g,Ya e2,Z4 us2] [.obj l [Xi xs2 w2,.i q2],.tail w2 5] (fun r h=>∃(ys:List Z5) (v:Int) (w2:Value),r=.i v/\h=[.obj l [Xi (xs2++ys) w2,.i (((q2+Yu ys):Nat):Int)],.tail w2 5]/\LW g.decls g.funcs.length q2 e2 ys v)):Zp 177 [.p l 0,AJ g,Ya e,Z4 us] [.obj l [Xi xs w,.i q],.tail w 5] (fun r h=>∃(ys:List Z5) (v:Int) (w2:Value),r=.i v/\h=[.obj l [Xi (xs++ys) w2,.i (((q+Yu ys):Nat):Int)],.tail w2 5]/\LW g.decls g.funcs.length q e ys v):=by
 have Xn:=hd.ok
 obtain ⟨ho,h12,h13,h7,h8,h9,hnum,hkl,hks⟩:=(Z5p e).1 he
 have hez:=e.sz_eq
 refine ZG 148 Tryz.func177 (ar (iA (LX g) fun b1=>iA (YZ e) fun b2=>Z2 (Xk (V0 [0] (ab 0 (ar (YD (e.op==12) Zf (fun Za=>?_) (fun Za=>?_))))))))
 ·refine Zs 3 [0] ?_
  obtain ⟨x1,Z3⟩:=Zu us e.num.toNat (by have:=h12 om;omega)
  have huv:=hu _ (Y7 Z3)
  exact Zq (Zi none e.num 1 (Yb Z3)) (Zm (r1 [2,2] ⟨[],x1,w,rfl,rfl,(LW.var huv)⟩ (eq:=(ro (ls:=[Xi xs w,.i q]) (by simp [Yu]) (rc rz)))))
 refine ar (YD (e.op==13) Zf (fun Zj=>?_) (fun Zj=>?_))
 ·refine aD 9 (ZZ 5 9 [0,1,2,3] [1,0] ?_)
  obtain ⟨x2,Zw⟩:=Zu e.kids 0 (by have:=h13 om;omega)
  have hekx2:=DA hks Zw
  have hszx2:=CF Zw
  have htzx2:=BD Zw
  rw [Wg] at hekx2
  rw [SS om] at hekx2
  refine dx 4 (Zi none 0 3 (Du Zw)) (Zo 2 4 [5,6] (Z7 7 (dc 7 [2,2] [] [] (ih l x2 us xs w q (by first|assumption|(rw [Yr];assumption)) (by first|assumption|exact FK hu hlwhp1.v|exact I8 hu) (by first|omega|(simp only [Yr,YA,X6];omega)) (by first|omega|(simp only [Yr,YA,X6];omega)) ob ob) ?_)))
  rintro _ _ ⟨ys1,v1,w21,rfl,rfl,Y9⟩
  have hlwhp1:=Y9
  have hldhp1:=Y9.dn
  refine Zo 0 1 [8] (de (aD 12 (ZZ 8 12 [0,1,2,3] [3,2] ?_)))
  obtain ⟨x3,YT⟩:=Zu e.kids 1 (by have:=h13 om;omega)
  have hz2:=Ol Zw YT
  have hz3:=x2.sz_eq
  have hekx3:=DA hks YT
  have hszx3:=CF YT
  have htzx3:=BD YT
  rw [Wg] at hekx3
  rw [SS om] at hekx3
  refine dx 4 (Zi none 1 3 (Du YT)) (Zo 4 7 [5,6,7] (Z7 8 (dL 8 [1,2] [b2,b1] (Z6 [v1]) 1 1 fun v2=>Yx 3 3 [] [(45,Z4 [v1])] (Z7 9 (dc 9 [] [1,2] [b2,b1] (TD us [v1]) ?_)))))
  rintro _ _ ⟨v3,rfl,rfl⟩
  refine Yx 2 2 [] [(46,Z4 (us++[v1]))] (Z7 10 (dc 10 [2,2] [] [] (ih l x3 (us++[v1]) (xs++ys1) w21 (q+Yu ys1) (by first|assumption|(rw [Yr];assumption)) (by first|assumption|exact FK hu hlwhp1.v|exact I8 hu) (by first|omega|(simp only [Yr,YA,X6];omega)) (by first|omega|(simp only [Yr,YA,X6];omega)) ob ob) ?_))
  rintro _ _ ⟨ys2,v4,w22,rfl,rfl,Yt⟩
  have hlwhp2:=Yt
  have hldhp2:=Yt.dn
  exact Zo 0 1 [11] (de (ZQ (r1 [0,0] ⟨(ys1++ys2),v4,w22,rfl,rfl,(LW.let_ hlwhp1 hlwhp2 (by have:=Ol Zw YT;omega))⟩ (eq:=(ro (ls:=[Xi ((xs++ys1)++ys2) w22,.i ((((q+Yu ys1)+Yu ys2):Nat):Int)]) (by rw [Ta,<-JU,Vi]) (rc rz))))))
 refine Y8 (XC (fun fz gz F h=>F=sF [0,3,5,6] fz [(48,.b ((e.op==7)||(e.op==8)))]/\h=gz) ?_ ?_)
 ·refine ac (e.op==7) Zf (fun Zz=>?_) (fun Zz=>?_)
  ·exact ak (ZI ⟨rfl,rfl⟩ (Zt 4 (fc (x:=.b (e.op==7)) (lb (by first|rfl|(rw [Zk Zz])|(rw [Zb Zz])|(simp [Zz];done)|(rw [Yc];simp [Zz];done)|omega)) fl)))
  exact VC (ZI ⟨rfl,rfl⟩ (Zt 4 (fc (x:=.b (e.op==8)) (lb (by first|rfl|(rw [Zk Zz])|(rw [Zb Zz])|(simp [Zz];done)|(rw [Yc];simp [Zz];done)|omega)) fl)))
 rintro F h ⟨rfl,rfl⟩
 refine ac ((e.op==7)||(e.op==8)) (p:=(e.op=7)∨(e.op=8)) (ZO Zf Zf) (fun Yg=>?_) (fun Yg=>?_)
 ·refine aD 9 (ZZ 5 9 [0,1,2,3] [1,0] ?_)
  obtain ⟨x4,Vn⟩:=Zu e.kids 0 om
  have hekx4:=DA hks Vn
  have hszx4:=CF Vn
  have htzx4:=BD Vn
  rw [Wg] at hekx4
  rw [Zes om] at hekx4
  refine dx 4 (Zi none 0 3 (Du Vn)) (Zo 2 4 [5,6] (Z7 7 (dc 7 [2,2] [] [] (ih l x4 us xs w q (by first|assumption|(rw [Yr];assumption)) (by first|assumption|exact FK hu hlwhp1.v|exact I8 hu) (by first|omega|(simp only [Yr,YA,X6];omega)) (by first|omega|(simp only [Yr,YA,X6];omega)) ob ob) ?_)))
  rintro _ _ ⟨ys3,v5,w23,rfl,rfl,YS⟩
  have hlwhp3:=YS
  have hldhp3:=YS.dn
  refine Zo 0 1 [8] (de (ar (iL (XR []) 0 2 fun v6=>Z2 (Zs 4 [4,3] (ic [] (Jf g.decls e.num) ?_)))))
  rintro _ _ ⟨v7,rfl,rfl⟩
  refine Z2 (Y8 (ab 1 (Y6 (fun fz gz m F h=>∃(k:Nat) (cs:List Z8) (u:Value),(1<=k/\k<=e.kids.length)/\(cs.length+1=k)/\(Ud g.decls g.funcs.length (V1 g.decls e.op e.num (q+Yu ys3)) 0 cs)/\(YV cs+6*x4.sz<=cs.length+6*XD (e.kids.take k))/\(Kc WQ cs)/\F=sF [0,3,5,6,10] fz [(11,Qq cs u),(12,Z4 (Y0 g.decls e.num)),(13,.i k)]/\h=[Zg gz 2,Zg gz 4,Zg gz 5,.tail u 2,Zg gz 3]/\m=e.kids.length-k) _ _ _ ⟨1,[],v6,ob,ob,True.intro,(by have h:XD (e.kids.take 1)=XD (e.kids.take 0)+x4.sz:=BD Vn;simp only [YV,X6];omega),True.intro,rfl,rfl,rfl⟩ (wk [2,3,3,1,1] (fr (fc (x:=ZL (Y0 g.decls e.num) v7) (Ze.forget _ _) (fc (x:=.i 1) li fl)))) ?_)))
  rintro m F h ⟨k,cs,u,Yk,Zh,ZB,YN,Wi,rfl,rfl,rfl⟩
  refine Yp 3 [1] (iw (L6 e.kids) (Y2 ((k:Int)<(e.kids.length:Int)) (fun YL=>?_) (fun YL=>?_)))
  ·refine ak (aq (ab 2 (Y3 (Xk (V0 [1] (XC (fun fz gz F h=>∃(mf:Nat),(V1 g.decls e.op e.num (q+Yu ys3) cs.length=(q+Yu ys3)+mf)/\(mf<=3)/\(Q2 g.decls e.op e.num us.length k=us.length+mf)/\F=sF [0,3,5,6,10,11,12,13] fz [(14,.i mf)]/\h=gz) ?_ ?_))))))
   ·refine ac (e.op==8) Zf (fun X3=>?_) (fun X3=>?_)
    ·refine aE 10 (ZZ 6 10 [0,1,2,3] [2] (da 4 (((k-1:Nat):Int)) (((k:Int))-(1)) ?_))
     obtain ⟨x5,Tz⟩:=Zu (Y0 g.decls e.num) (k-1) (by have:=h8 om;omega)
     exact dx 5 (Zi none ((k-1:Nat):Int) 1 (Yb Tz)) (Zo 3 4 [6] (Z7 7 (YE 7 [] [] [] (Qr g.decls x5) (dn 8 (.i (((ZP g.decls x5).length:Nat):Int)) (.i (((Z6 (ZP g.decls x5)).length:Nat):Int)) (li (by rw [Yi])) (Zo 0 1 [9] (de (ZI ⟨(ZP g.decls x5).length,(MD om (by rw [show cs.length=k-1 by omega];exact Tz)),(by have:=Vs Xn x5;omega),(Zet om (show k=(k-1)+1 by omega) Tz),rfl,rfl⟩ (Zt 5 (fc (x:=.i (((ZP g.decls x5).length:Nat):Int)) (li (by first|rfl|(rw [Zk X3])|(rw [Zb X3])|(simp [X3];done)|(rw [Yc];simp [X3];done)|omega)) fl)))))))))
    exact ak (ZI ⟨0,(ME om),om,(SU om),rfl,rfl⟩ (Zt 5 (fc (x:=.i 0) (li (by first|rfl|(rw [Zk X3])|(rw [Zb X3])|(simp [X3];done)|(rw [Yc];simp [X3];done)|omega)) fl)))
   rintro F h ⟨mf,Zas,Zit,Zat,rfl,rfl⟩
   refine aE 25 (ZZ 20 25 [0,1,2,3,4] [2,1] ?_)
   obtain ⟨x6,CS⟩:=Zu e.kids k om
   have hekx6:=DA hks CS
   have hszx6:=CF CS
   have htzx6:=BD CS
   rw [Wg] at hekx6
   rw [Zat] at hekx6
   have htk:=AW (xs:=e.kids) (k+1)
   have hbl:=Ga cs
   refine dx 5 (Zi none (k:Int) 3 (Du CS)) (ZZ 7 19 [6,7,8,9,10,11,12,15,16,17,18,19] [0,0] (da 20 ((((q+Yu ys3)+mf:Nat):Int)) (((((q+Yu ys3):Nat):Int))+((mf:Int))) (Z7 13 (dc 13 [] [0,1,2] [l,b2,b1] (Lx (q+Yu ys3) mf) ?_))))
   rintro _ _ ⟨xs1,rfl,rfl,YX⟩
   have hnx:=YX
   refine Z7 14 (dc 14 [] [0,1,2] [l,b2,b1] (TD us xs1) ?_)
   rintro _ _ ⟨v8,rfl,rfl⟩
   refine Yx 4 4 [] [(98,Z4 (us++xs1))] (Z7 21 (dc 21 [] [] [] (Pa g x6 (us++xs1) ((q+Yu ys3)+mf) e.sz (he:=(by rw [Yr,hnx.1];exact hekx6)) (hu:=(Zhs hu hnx.2)) (hul:=(by rw [Yr,hnx.1];omega)) (hql:=om) (ih:=ih)) ?_))
   rintro _ _ ⟨b3,rfl,rfl,Xe⟩
   have hlb:=Xe
   exact Z7 22 (WD 22 [] [] [Yo b3] (XR [b3]) (QY [b3]).symm 1 2 fun v9=>Yx 2 2 [] [(106,JK [b3])] (Z7 23 (dp 23 5 [] [] (XR (cs++[b3])) (XR cs) (XR [b3]) u none 2 (KZ _) (KZ _) (Gl _) (by simp<;>omega) (by simp [Cz,XR]) fun v10=>Zo 0 1 [24] (de (az (Z0 1 (ZE k (Z2 (ZH ⟨k+1,(cs++[b3]),v10,ob,ob,(Oo ZB (by rw [Zas];exact hlb.1)),(by have:=hlb.2;rw [G9,Yr];simp only [YV,YA,X6];omega),(Rw Wi hlb.op),rfl,rfl,rfl⟩ (wk [3,3,3,0,2] (fw (ZJ k fl))))))))))))
  refine ax 1 (Zs 6 [1,1] (iL (Z6 [v5]) 1 1 fun v11=>ZY 2 [(116,.agg [.i e.op,.i e.num,.i 0,Z4 [v5],JK cs])] (ic [1,4] (OY l (xs++ys3) w23 (q+Yu ys3) (Z5.mk e.op e.num 0 [v5] cs) (hl:=(by first|(have h1:=Jh zs;have h2:=AW (xs:=e.kids) k;have h3:=AQ zs;(try simp only [Yr]);omega)|((try simp only [Yr]);omega))) (hq:=(by first|(have h1:=Jh zs;have h2:=AW (xs:=e.kids) k;have h3:=AQ zs;(try simp only [Yr]);omega)|((try simp only [Yr]);omega)))) ?_)))
  rintro _ _ ⟨w24,rfl,rfl⟩
  refine Z2 ?_
  have hcb:YO e.op=false:=by simp [YO];omega
  exact ZQ (r1 [0,0] ⟨(ys3++[Z5.mk e.op e.num 0 [v5] cs]),(((q+Yu ys3):Nat):Int),w24,rfl,rfl,(LW.branch (s0:=x4.sz) (sr:=XD (e.kids.take k)-x4.sz) om (fun h=>by have:=h7 h;omega) (fun h=>by have:=h8 h;omega) hnum hlwhp3.fs hlwhp3.v ZB om hlwhp3.sz (by have:=Ga cs;omega) (by have:=AW (xs:=e.kids) k;omega) hlwhp3.op Wi)⟩ (eq:=(ro (ls:=[Xi ((xs++ys3)++[(Z5.mk e.op e.num 0 [v5] cs)]) w24,.i ((((q+Yu ys3)+1):Nat):Int)]) (by rw [EA (s:=Z5.mk e.op e.num 0 [v5] cs) hcb,<-JU,Vi]) (rc rz))))
 refine ak (ar (iL (Z6 []) 0 1 fun v12=>?_))
 refine Z2 (Y8 (ab 3 (Y6 (fun fz gz m F h=>∃(k:Nat) (asl:LI) (u:Value) (zs:List Z5) (w3:Value),(k<=e.kids.length)/\(asl.length=k)/\(Wb g.decls g.funcs.length q zs)/\(∀a∈asl,0<=a/\a<((q+Yu zs:Nat):Int))/\(Yw zs<=6*XD (e.kids.take k))/\(TZ WQ zs)/\F=sF [0,3,5,6] fz [(15,ZL asl u),(16,.i k)]/\h=[Zg gz 1,Zg gz 2,.obj l [Xi (xs++zs) w3,.i (((q+Yu zs):Nat):Int)],.tail u 1,.tail w3 5]/\m=e.kids.length-k) _ _ _ ⟨0,[],v12,[],w,ob,ob,True.intro,(fun a ha=>by cases ha),(by simp [Yw]),True.intro,rfl,rfl,rfl⟩ (wk [1,1,1,0,0] (fr (Ye fl)) (e:=(rc (rc (ro (ls:=[Xi xs w,.i q]) (by simp [Yu]) (rc (rc rz))))))) ?_)))
 rintro m F h ⟨k,asl,u,zs,w3,Vr,Xs,XU,IE,Zig,NO,rfl,rfl,rfl⟩
 refine Yp 3 [0] (iw (L6 e.kids) (Y2 ((k:Int)<(e.kids.length:Int)) (fun Wz=>?_) (fun Wz=>?_)))
 ·refine ak (aq (ab 4 (aD 10 (ZZ 5 10 [0,1,2,3,4] [1,0] ?_))))
  obtain ⟨x7,GY⟩:=Zu e.kids k om
  have hzl:=Jh zs
  have hzd:=AQ zs
  have htk:=AW (xs:=e.kids) (k+1)
  have hekx7:=DA hks GY
  have hszx7:=CF GY
  have htzx7:=BD GY
  rw [Wg] at hekx7
  rw [SU om] at hekx7
  refine dx 5 (Zi none (k:Int) 3 (Du GY)) (Zo 2 4 [6,7] (Z7 8 (dc 8 [2,3] [] [] (ih l x7 us (xs++zs) w3 (q+Yu zs) (by first|assumption|(rw [Yr];assumption)) (by first|assumption|exact FK hu hlwhp1.v|exact I8 hu) (by first|omega|(simp only [Yr,YA,X6];omega)) (by first|omega|(simp only [Yr,YA,X6];omega)) ob ob) ?_)))
  rintro _ _ ⟨ys4,v13,w25,rfl,rfl,XP⟩
  have hlwhp6:=XP
  have hldhp6:=XP.dn
  exact Zo 0 1 [9] (de (az (Z0 2 (iL (Z6 [v13]) 1 1 fun v14=>ZY 0 [(137,Z4 [v13])] (ip 5 (Z6 (asl++[v13])) (Z6 asl) (Z6 [v13]) u none 1 (YH _) (YH _) (W4 _) (by simp<;>omega) (by simp [Wa,Z6]) fun v15=>Z2 (az (Z0 1 (ZE k (Z2 (ZH ⟨k+1,(asl++[v13]),v15,(zs++ys4),w25,ob,ob,(Aj.2 ⟨XU,hlwhp6.fs⟩),(by rw [Ta,<-JU];exact FK IE hlwhp6.v),(by have:=hlwhp6.sz;rw [Q4];omega),(Ht.2 ⟨NO,hlwhp6.op⟩),rfl,rfl,rfl⟩ (wk [4,4,2,0,1] (fr (ZJ k fl)) (e:=(rc (rc (ro (ls:=[Xi ((xs++zs)++ys4) w25,.i ((((q+Yu zs)+Yu ys4):Nat):Int)]) (by rw [Ta,<-JU,Vi]) (rc (rc rz)))))))))))))))))
 refine ax 3 (Zs 6 [0,0] (iL (XR []) 0 2 fun v16=>ZY 1 [(146,.agg [.i e.op,.i e.num,.i 0,Z4 asl,JK []])] (ic [3,4] (OY l (xs++zs) w3 (q+Yu zs) (Z5.mk e.op e.num 0 asl []) (hl:=(by first|(have h1:=Jh zs;have h2:=AW (xs:=e.kids) k;have h3:=AQ zs;(try simp only [Yr]);omega)|((try simp only [Yr]);omega))) (hq:=(by first|(have h1:=Jh zs;have h2:=AW (xs:=e.kids) k;have h3:=AQ zs;(try simp only [Yr]);omega)|((try simp only [Yr]);omega)))) ?_)))
 rintro _ _ ⟨w26,rfl,rfl⟩
 refine Z2 ?_
 have hcb:YO e.op=false:=by simp [YO];omega
 exact ZQ (r1 [0,0] ⟨(zs++[Z5.mk e.op e.num 0 asl []]),(((q+Yu zs):Nat):Int),w26,rfl,rfl,(LW.node om h9 hnum XU IE om (by have:=AW (xs:=e.kids) k;omega) NO)⟩ (eq:=(ro (ls:=[Xi ((xs++zs)++[(Z5.mk e.op e.num 0 asl [])]) w26,.i ((((q+Yu zs)+1):Nat):Int)]) (by rw [EA (s:=Z5.mk e.op e.num 0 asl []) hcb,<-JU,<-Vi]) (rc rz))))
theorem Z8s (l:Nat) (g:W8) (e:Z1) (us:LI) (xs:List Z5) (w:Value) (q:Nat) (hd:GD g.decls) (he:eW g.decls g.funcs.length us.length e) (hu:∀a∈us,0<=a/\a<(q:Int)) (hul:us.length+4*e.sz<=100000) (hxl:xs.length+6*e.sz<=100000) (hql:q+6*e.sz<=100000):Zp 177 [.p l 0,AJ g,Ya e,Z4 us] [.obj l [Xi xs w,.i q],.tail w 5] (fun r h=>∃(ys:List Z5) (v:Int) (w2:Value),r=.i v/\h=[.obj l [Xi (xs++ys) w2,.i (((q+Yu ys):Nat):Int)],.tail w2 5]/\LW g.decls g.funcs.length q e ys v):=by
 have key:∀k:Nat,∀(l:Nat) (e2:Z1) (us2:LI) (xs2:List Z5) (w2:Value) (q2:Nat),(eW g.decls g.funcs.length us2.length e2)->(∀a∈us2,0<=a/\a<(q2:Int))->(us2.length+4*e2.sz<=100000)->(xs2.length+6*e2.sz<=100000)->(q2+6*e2.sz<=100000)->(e2.sz<k)->Zp 177 [.p l 0,AJ g,Ya e2,Z4 us2] [.obj l [Xi xs2 w2,.i q2],.tail w2 5] (fun r h=>∃(ys:List Z5) (v:Int) (w2:Value),r=.i v/\h=[.obj l [Xi (xs2++ys) w2,.i (((q2+Yu ys):Nat):Int)],.tail w2 5]/\LW g.decls g.funcs.length q2 e2 ys v):=by
  intro k
  induction k with
  | zero=>intro l e2 us2 xs2 w2 q2 h1 h2 h3 h4 h5 h6;omega
  | succ k ih=>intro l e2 us2 xs2 w2 q2 h1 h2 h3 h4 h5 h6;exact Z8t l g e2 us2 xs2 w2 q2 hd h1 h2 h3 h4 h5 fun l e3 us3 xs3 w3 q3 a1 a2 a3 a4 a5 a6=>ih l e3 us3 xs3 w3 q3 a1 a2 a3 a4 a5 om
 exact key (e.sz+1) l e us xs w q he hu hul hxl hql om
theorem Lw (g:W8) (e:Z1) (us:LI) (q:Nat) (hd:GD g.decls:=by exact ob) (he:eW g.decls g.funcs.length us.length e:=by exact ob) (hu:∀a∈us,0<=a/\a<(q:Int)) (hul:us.length+4*e.sz<=100000:=by exact ob) (hql:q+6*e.sz<=100000:=by exact ob):Zp 149 [AJ g,Ya e,Z4 us,.i q] [] (fun r h=>∃(b:Z8),r=Yo b/\h=[]/\LB g.decls g.funcs.length q e b):=(Pa g e us q (e.sz+1) he hu hul hql om (fun l e2 us2 xs2 w2 q2 h1 h2 h3 h4 h5 _=>Z8s l g e2 us2 xs2 w2 q2 hd h1 h2 h3 h4 h5))
theorem Bf (ds:List Zd) (hd:Xq ds:=by exact ob):Zp 70 [Y5 ds] [] (Yz (Y5 ds)):=by
 have hdl:=hd.len
 refine ZG 55 Tryz.func70 (Y3 (ar (iL (Yy []) 0 3 fun v1=>?_)))
 refine Z2 (Y8 (ab 0 (Y6 (fun fz gz m F h=>∃(k:Nat) (v:Value),(k<=ds.length)/\F=sF [0] fz [(3,KG (ds.take k) v),(4,.i k)]/\h=[.tail v 3]/\m=ds.length-k) _ _ _ ⟨0,v1,ob,rfl,rfl,rfl⟩ (wk [0] (fc (x:=KG [] v1) (Ze.slh _ (Yq Yy rfl)) (Ye fl))) ?_)))
 rintro m F h ⟨k,v,Yk,rfl,rfl,rfl⟩
 refine YP 2 (iw (Ui ds) (Y2 ((k:Int)<(ds.length:Int)) (fun Za=>?_) (fun Za=>?_)))
 ·obtain ⟨xd,hxd⟩:=Zu ds k om
  have hcl:=hd.cons_at hxd
  refine ak (aq (ab 1 (ar (iL (Xy []) 0 1 fun v2=>?_))))
  refine Z2 (Y8 (ab 2 (Y6 (fun fz gz m F h=>∃(j:Nat) (u:Value),(j<=xd.cons.length)/\F=sF [0,3,4] fz [(5,DZ (xd.cons.take j) u),(6,.i j)]/\h=[.tail u 1,Zg gz 1]/\m=xd.cons.length-j) _ _ _ ⟨0,v2,ob,rfl,rfl,rfl⟩ (wk [0,0] (fc (x:=DZ [] v2) (Ze.slh _ (Yq Xy rfl)) (Ye fl))) ?_)))
  rintro m F h ⟨j,u,Vr,rfl,rfl,rfl⟩
  refine YP 3 (Zq (Zi none (k:Int) 3 (WE hxd)) (Z0 2 (iw (Uu xd.cons) (Y2 ((j:Int)<(xd.cons.length:Int)) (fun Zj=>?_) (fun Zj=>?_)))))
  ·refine ak (aq (ab 3 (az (Z0 3 (Zq (Zi none (k:Int) 3 (WE hxd)) (Z0 3 ?_))))))
   obtain ⟨x1,Z3⟩:=Zu xd.cons j om
   have hfl:=hd.fields_at hxd Z3
   refine Zq (Zi none (j:Int) 1 (Ae Z3)) (Z0 2 (ic [] (WV x1.fields) ?_))
   rintro _ _ ⟨v3,rfl,rfl⟩
   exact ZY 1 [(36,Cl x1)] (iL (Xy [x1]) 1 1 fun v4=>ZY 0 [(37,QH [x1])] (ip 2 (Xy (xd.cons.take (j+1))) (Xy (xd.cons.take j)) (Xy [x1]) u none 1 (CA _) (CA _) (O7 _) (by simp<;>omega) (by rw [V2 Z3];simp [Xy]) fun v5=>Z2 (az (Z0 1 (ZE j (Z2 (ZH ⟨j+1,v5,ob,rfl,rfl,rfl⟩ (wk [0,2] (fr (ZJ j fl))))))))))
  exact ax 2 (aE 16 (Zo 13 16 [0,1,2] (dx 3 (Zi none (k:Int) 3 (WE hxd)) (Zo 8 12 [4,5,6,7] (dx 8 (Zi none (k:Int) 3 (WE hxd)) (Yx 3 7 [9,10,11,12] [(51,.agg [.i xd.frm,.i xd.to_,QH (xd.cons.take j)])] (Z7 13 (dL 13 [] [] (Yy [Zd.mk xd.frm xd.to_ (xd.cons.take j)]) 1 3 fun v6=>Yx 2 2 [] [(52,Y5 [Zd.mk xd.frm xd.to_ (xd.cons.take j)])] (Z7 14 (dp 14 2 [] [] (Yy (ds.take (k+1))) (Yy (ds.take k)) (Yy [Zd.mk xd.frm xd.to_ (xd.cons.take j)]) v none 3 (Qz _) (Qz _) (EB _) (by simp<;>omega) (by rw [V2 hxd];simp [Yy,Wh (show xd.cons.length<=j by omega)]) fun v7=>Zo 0 1 [15] (de (az (Z0 1 (ZE k (Z2 (ZH ⟨k+1,v7,ob,rfl,rfl,rfl⟩ (wk [0] (fr (ZJ k fl)))))))))))))))))))
 exact ax 0 (ar (Zm (ZW (KG (ds.take k) v) (Ze.sl _ (Yq Yy (by rw [Wh om]))))))
theorem Z90 (g:W8) (hg:Ij g:=by exact ob):Zp 136 [AJ g] [] (fun r h=>∃(n:ZF),r=YG n/\h=[]/\FO n 181 WQ):=by
 have hgl:=hg.gp.len
 have Xn:=hg.gp.decls.ok
 refine ZG 49 Tryz.func136 (ar (iA (LX g) fun b1=>iA [nl,nl] fun b2=>ie (Zs 2 [1] (Zv [] (Bf g.decls) (iL (Xa []) 0 5 fun v1=>Z0 1 (iA [nl,nl] fun b3=>?_))))))
 refine Zy 0 b3 [Y5 g.decls,WT [] v1] (ie (Y8 (ab 0 (Y6 (fun fz gz m F h=>∃(k:Nat) (rs:List YF) (u:Value),(k<=g.funcs.length)/\(rs.length=k)/\(∀r∈rs,RN g.decls g.funcs.length r)/\F=sF [1,2,3] fz [(4,.i k)]/\h=[.obj b3 [Y5 g.decls,WT rs u],Zg gz 2,Zg gz 3,.tail u 5]/\m=g.funcs.length-k) _ _ _ ⟨0,[],v1,ob,ob,(fun r hr=>by cases hr),rfl,rfl,rfl⟩ (wk [0,1,1,0] (Ye fl)) ?_))))
 rintro m F h ⟨k,rs,u,Yk,Zh,ZB,rfl,rfl,rfl⟩
 refine Yp 3 [2] (iw (Dv g.funcs) (Y2 ((k:Int)<(g.funcs.length:Int)) (fun Za=>?_) (fun Za=>?_)))
 ·refine ak (aq (ab 1 (Zs 3 [2] ?_)))
  obtain ⟨x1,Z3⟩:=Zu g.funcs k om
  have hso:=(hg.gp.sigs _ (Y7 Z3)).bd
  have hsi:=hg.gp.sigs _ (Y7 Z3)
  have hbo:=hg.body _ (Y7 Z3)
  refine Zq (Zi none (k:Int) 5 (Gm Z3)) (Z0 1 (iA [nl,.i 0,.i 0,.i 0,nl] fun b4=>?_))
  refine Zy 0 b4 (Ha x1) (ie (Zs 2 [0] (iw (Yi x1.params) (Z2 (aD 9 (ZZ 4 9 [0,1,2,3,5] [3,0] (Bz (fun fz gz F h=>∃(b5:Z8) (b6:Nat) (xs1:LI),(xs1.length=x1.params.length/\∀i∈xs1,(0:Int)<=i/\i<(0:Int)+x1.params.length)/\(LB g.decls g.funcs.length x1.params.length x1.body b5)/\F=sF [1,2,3,4,5] fz [(7,.p b6 0)]/\h=[.obj b6 (W0 b5),Zg gz 0,Zg gz 1,Zg gz 2,Zg gz 3,Zg gz 4]) ?_ ?_)))))))
  ·refine Ut 4 7 ?_ ?_
   ·refine dc 4 [] [0,3] [b4,b1] (Lx 0 x1.params.length) ?_
    rintro _ _ ⟨xs1,rfl,rfl,Y9⟩
    have hnx:=Y9
    refine Ut 6 7 ?_ ?_
    ·refine dc 6 [] [] [] (Lw g x1.body xs1 x1.params.length (hd:=hg.gp.decls) (he:=(by rw [hnx.1];exact hbo.1)) (hu:=(fun a ha=>by have:=hnx.2 a ha;omega))) ?_
     rintro _ _ ⟨b5,rfl,rfl,Yt⟩
     have hlb:=Yt
     exact Z7 7 (dA 7 [] [] [nl,.i 0] fun b6=>Z7 8 (X1 8 0 [] [] b6 (W0 b5) (de (ZI ⟨_,b6,_,(by assumption),(by assumption),rfl,rfl⟩ (Zt 6 fl)))))
    refine dA 7 [0,3] [b4,b1] [nl,.i 0] fun b7=>Z7 6 (dc 6 [] [] [] (Lw g x1.body xs1 x1.params.length (hd:=hg.gp.decls) (he:=(by rw [hnx.1];exact hbo.1)) (hu:=(fun a ha=>by have:=hnx.2 a ha;omega))) ?_)
    rintro _ _ ⟨b8,rfl,rfl,YS⟩
    have hlb:=YS
    exact Z7 8 (X1 8 0 [] [] b7 (W0 b8) (de (ZI ⟨_,b7,_,(by assumption),(by assumption),rfl,rfl⟩ (Zt 6 fl))))
   refine dA 7 [0,3] [b4,b1] [nl,.i 0] fun b9=>Z7 4 (dc 4 [] [1,4] [b4,b1] (Lx 0 x1.params.length) ?_)
   rintro _ _ ⟨xs2,rfl,rfl,YX⟩
   have hnx:=YX
   refine Z7 6 (dc 6 [] [] [] (Lw g x1.body xs2 x1.params.length (hd:=hg.gp.decls) (he:=(by rw [hnx.1];exact hbo.1)) (hu:=(fun a ha=>by have:=hnx.2 a ha;omega))) ?_)
   rintro _ _ ⟨b10,rfl,rfl,Xe⟩
   have hlb:=Xe
   exact Z7 8 (X1 8 0 [] [] b9 (W0 b10) (de (ZI ⟨_,b9,_,(by assumption),(by assumption),rfl,rfl⟩ (Zt 6 fl))))
  rintro F h ⟨b5,b6,xs1,Y9,Yt,rfl,rfl⟩
  have hnx:=Y9
  have hlb:=Yt
  refine aE 14 (ZZ 7 14 [0,1,2,3,6,7,8] [2,1,1,0] (Ut 4 5 ?_ ?_))
  ·refine dc 4 [] [0,1,2] [b6,b4,b3] (WV x1.params) ?_
   rintro _ _ ⟨v2,rfl,rfl⟩
   exact Z7 5 (dL 5 [0,1,2] [b6,b4,b3] (Z6 []) 0 1 fun v3=>Yx 4 5 [9] [(44,.agg [Z4 x1.params,Z4 [],.i x1.result,Vx b5.steps,.i b5.result])] (Z7 10 (dL 10 [2] [b3] (Xa [YF.mk x1.params [] x1.result (Z8.mk b5.steps b5.result)]) 1 5 fun v4=>Yx 3 3 [] [(45,JL [YF.mk x1.params [] x1.result (Z8.mk b5.steps b5.result)])] (Z7 11 (dp 11 8 [] [] (Xa (rs++[YF.mk x1.params [] x1.result (Z8.mk b5.steps b5.result)])) (Xa rs) (Xa [YF.mk x1.params [] x1.result (Z8.mk b5.steps b5.result)]) u none 5 (Tc _) (Tc _) (BC _) (by simp<;>omega) (by simp [Dy,Xa]) fun v5=>Zo 1 2 [12] (Z7 13 (X1 13 6 [] [] b3 [Y5 g.decls,WT (rs++[YF.mk x1.params [] x1.result (Z8.mk b5.steps b5.result)]) v5] (de (az (Z0 1 (ZE k (Z2 (ZH ⟨k+1,(rs++[YF.mk x1.params [] x1.result (Z8.mk b5.steps b5.result)]),v5,ob,ob,(XG ZB (RN.of hsi hlb hbo.2)),rfl,rfl,rfl⟩ (wk [0,6,6,0] (ZJ k fl)))))))))))))))
  refine dL 5 [0,1,1,2] [b6,b4,b4,b3] (Z6 []) 0 1 fun v6=>Z7 4 (dc 4 [] [0,1,2] [b6,b4,b3] (WV x1.params) ?_)
  rintro _ _ ⟨v7,rfl,rfl⟩
  exact Yx 4 5 [9] [(44,.agg [Z4 x1.params,Z4 [],.i x1.result,Vx b5.steps,.i b5.result])] (Z7 10 (dL 10 [2] [b3] (Xa [YF.mk x1.params [] x1.result (Z8.mk b5.steps b5.result)]) 1 5 fun v8=>Yx 3 3 [] [(45,JL [YF.mk x1.params [] x1.result (Z8.mk b5.steps b5.result)])] (Z7 11 (dp 11 8 [] [] (Xa (rs++[YF.mk x1.params [] x1.result (Z8.mk b5.steps b5.result)])) (Xa rs) (Xa [YF.mk x1.params [] x1.result (Z8.mk b5.steps b5.result)]) u none 5 (Tc _) (Tc _) (BC _) (by simp<;>omega) (by simp [Dy,Xa]) fun v9=>Zo 1 2 [12] (Z7 13 (X1 13 6 [] [] b3 [Y5 g.decls,WT (rs++[YF.mk x1.params [] x1.result (Z8.mk b5.steps b5.result)]) v9] (de (az (Z0 1 (ZE k (Z2 (ZH ⟨k+1,(rs++[YF.mk x1.params [] x1.result (Z8.mk b5.steps b5.result)]),v9,ob,ob,(XG ZB (RN.of hsi hlb hbo.2)),rfl,rfl,rfl⟩ (wk [0,6,6,0] (ZJ k fl))))))))))))))
 exact ax 0 (Zs 1 [0] (Zy 1 b2 [Y5 g.decls,WT rs u] (ie (ZQ (r3 [] [.agg [Y5 g.decls,WT rs u]] [0] [(b2,b2)] ⟨(ZF.mk g.decls rs),rfl,rfl,(RN.all hg.gp.decls (by show 1<=rs.length/\rs.length<=4;omega) (by show ∀r∈rs,RN g.decls rs.length r;rw [show rs.length=g.funcs.length by omega];exact ZB) om)⟩ (Ze.agg (.cons (lr _) (.cons (Ze.forget _ _) .nil))))))))
theorem Zgg (n:ZF) (hz:JW n:=by exact ob):Zp 142 [YG n] [] (Yz (.b (Ko n))):=by
 have hzl:=hz.len
 refine ZG 35 Tryz.func142 (ar (iA (X8 n) fun b1=>Z2 (Yp 1 [0] (Zv [] (Zgf n (hz:=hz.decls) (hr:=(fun r hr=>⟨hz.params r hr,hz.lent r hr⟩))) (YD (!Ap n) (p:=¬(Ap n=true)) (Yd Iff.rfl) (fun Za=>?_) (fun Za=>?_))))))
 ·exact ar (Zm (ZW (.b false) (lb (by first|rfl|omega|grind [Ko]))))
 have hok:=Rn hz (by simpa using Za)
 refine ak (Y8 (ab 0 (Y6 (fun fz gz m F h=>∃(k:Nat),(k<=n.routines.length)/\(Be n (n.routines.drop k)=Be n n.routines)/\F=sF [1] fz [(3,.i k)]/\h=gz/\m=n.routines.length-k) _ _ _ ⟨0,ob,ob,rfl,rfl,rfl⟩ (wk [0] (Ye fl)) ?_)))
 rintro m F h ⟨k,Yk,Zh,rfl,rfl,rfl⟩
 refine Yp 3 [0] (iw (TW n.routines) (Y2 ((k:Int)<(n.routines.length:Int)) (fun Zj=>?_) (fun Zj=>?_)))
 ·refine ak (aq (ab 1 (Zs 3 [0] ?_)))
  obtain ⟨x1,Z3⟩:=Zu n.routines k om
  have ZK:=hz.body _ (Y7 Z3)
  have hps:=hok.params_at Z3
  refine Zq (Zi none (k:Int) 5 (VS Z3)) (Z0 1 (iA [nl,nl,.i 0,nl,.i 0] fun b2=>Zy 0 b2 (JG x1) (ie (aD 15 (ZZ 13 15 [0,1] [0] (Z7 2 (YE 2 [] [] [] (Zg7 x1.body) (AN [1,3] [(34,.b ((decide ((Bi x1.body)<0))||((W3 n x1.params x1.body) != x1.result)))] (fun gz=>gz) ?_ ?_))))))))
  ·refine Zo 10 12 [3,4] (db (b:=(decide ((Bi x1.body)<0))) 24 (fun Zc=>?_) (fun Zc=>?_))
   ·exact Zo 0 10 [5,6,7,8,9,10,11,12,13,14] (de (wk [0,0] (Zl true Zc fl)))
   exact ZZ 3 10 [5,6,7,8,9,11,12] [1,0,0,0] (Z7 10 (YE 10 [] [0] [b2] (Z0f n x1.params x1.body ob ob) (Zo 0 2 [13,14] (de (wk [0,0] (Zl ((W3 n x1.params x1.body) != x1.result) Zc fl))))))
  refine ac ((decide ((Bi x1.body)<0))||((W3 n x1.params x1.body) != x1.result)) (p:=((Bi x1.body)<0)∨((W3 n x1.params x1.body)≠x1.result)) (ZO dq Ym) (fun Zz=>?_) (fun Zz=>?_)
  ·refine Y3 ?_
   rw [Yl Z3] at Zh
   exact ZQ (ZW (.b false) (lb (by clear Z3;first|rfl|omega|grind [Be,Ko])))
  refine ak (az (Z0 1 (ZE k (Z2 ?_))))
  have hdr:=Yl Z3
  exact ZH ⟨k+1,ob,(by rw [hdr] at Zh;clear hdr Z3;grind [Be]),rfl,rfl,rfl⟩ (wk [1] (ZJ k fl))
 refine ax 0 (Y3 ?_)
 try rw [Xr (xs:=n.routines) (k:=k) om] at Zh
 exact ZQ (ZW (.b true) (lb (by first|rfl|omega|grind [Be,Ko])))
theorem Z0i (op:Int) :Zp 210 [.i op] [] (Yz (.b (YO op))):=by
 exact ZG 5 Tryz.func210 (Y3 (Yj 1 (Zv [] (Vo op 14 17) (Zm (ZW (.b (decide (14<=op/\op<=17))) (lb (by first|rfl|omega|grind [YO])))))))
theorem Z0g (op:Int) :Zp 220 [.i op] [] (Yz (.b (Aa op))):=by
 refine ZG 17 Tryz.func220 (Y3 (ar (X2 6 [0] [(8,.b ((op==6)||(op==9)))] (fun gz=>gz) ?_ (fun hj1=>?_))))
 ·refine X2 10 [0] [(12,.b (((op==6)||(op==9))||(op==10)))] (fun gz=>gz) ?_ (fun hj2=>?_)
  ·refine X2 14 [] [(16,.b ((((op==6)||(op==9))||(op==10))||(op==11)))] (fun gz=>gz) ?_ (fun hj3=>?_)
   ·exact Zm (ZW (.b ((((op==6)||(op==9))||(op==10))||(op==11))) (lb (by first|rfl|omega|grind [Aa])))
   refine Z0 1 (ib (b:=(((op==6)||(op==9))||(op==10))) 13 (fun Zc=>?_) (fun Zc=>?_))
   ·exact Z0 3 (Y1 (wk [] (Zl true Zc fl)) hj3)
   exact Z0 3 (Y1 (wk [] (Zl (op==11) Zc fl)) hj3)
  refine Z0 1 (ib (b:=((op==6)||(op==9))) 9 (fun ZD=>?_) (fun ZD=>?_))
  ·exact Z0 3 (Y1 (wk [] (Zl true ZD fl)) hj2)
  exact Z0 3 (Y1 (wk [] (Zl (op==10) ZD fl)) hj2)
 refine Z0 3 (ib (b:=(op==6)) 5 (fun Yf=>?_) (fun Yf=>?_))
 ·exact Z0 3 (Y1 (wk [] (Zl true Yf fl)) hj1)
 exact Z0 3 (Y1 (wk [] (Zl (op==9) Yf fl)) hj1)
theorem FB (n:ZF) (s:Z5) (i:Nat) (hn:Xx n:=by exact ob) (hnum:s.op=9->0<=s.num/\s.num<n.routines.length:=by exact ob):Zp 208 [YG n,X5 s,.i i] [] (Yz (.b (T2 n s.op s.num i))):=by
 refine ZG 21 Tryz.func208 (ar (iA (X8 n) fun b1=>iA (Wd s) fun b2=>Z2 (Zs 4 [0] (ib (b:=(s.op==9)) 10 (fun Zc=>?_) (fun Zc=>?_)))))
 ·have Y9:s.op=9:=(Zf).1 Zc
  refine ZA 4 [1,0] ?_
  obtain ⟨x1,Z3⟩:=Zu n.routines s.num.toNat om
  have hlt:=hn.lent_at Z3
  have hlr:=Zbm (n:=n) Y9 Z3
  exact Zq (Zi none s.num 5 (VS Z3)) (Z0 3 (Zv [] (UV x1.lent (i:Int)) (Zm (ZW (.b (decide ((i:Int)∈x1.lent))) (lb (by rw [T2,hlr]))))))
 have Yt:¬(s.op=9):=Y4 Zf Zc
 exact Zm (ZW (.b false) (lb (by rw [T2,DU,Zb Yt];simp)))
theorem HW (n:ZF) (us:LI) (s:Z5) (i:Nat) (a:Int) (hn:Xx n:=by exact ob) (hnum:s.op=9->0<=s.num/\s.num<n.routines.length:=by exact ob) (ha:s.args[i]? = some a:=by exact ob) (hi:0<=a/\a<us.length:=by exact ob):Zp 203 [YG n,Z4 us,X5 s,.i i] [] (Yz (.b (Js n us s.op s.num a i))):=by
 have hal:=(Xc.1 ha).1
 refine ZG 30 Tryz.func203 (ar (iA (X8 n) fun b1=>iA (Wd s) fun b2=>Z2 (Zs 2 [0] (Zv [] (Z0g s.op) (Z0 1 (ib (b:=Aa s.op) 12 (fun Zc=>?_) (fun Zc=>?_)))))))
 ·refine ZA 4 [0] ?_
  obtain ⟨x1,Z3⟩:=Zu s.args i om
  have hxa:x1=a:=by rw [ha] at Z3;exact (Cf Z3).symm
  subst hxa
  refine Zq (Zi none (i:Int) 1 (Yb Z3)) (Z0 1 ?_)
  obtain ⟨x2,Zw⟩:=Zu us x1.toNat om
  have hga:=Ti Zw
  refine Zq (Zi none x1 1 (Yb Zw)) (Z0 4 (ib (b:=(x2 != 0)) 23 (fun ZD=>?_) (fun ZD=>?_)))
  ·exact ZA 3 [1,0] (Zv [] (FB n s i) (Zm (ZW (.b (!T2 n s.op s.num i)) (lb (by clear Z3 Zw;first|rfl|(rw [Js];grind))))))
  exact Zm (ZW (.b false) (lb (by clear Z3 Zw;first|rfl|(rw [Js];grind))))
 exact Zm (ZW (.b false) (lb (by  first|rfl|(rw [Js];grind))))
theorem Z0n (xs:LI) (ys:LI) (hl_xs:xs.length<=4294967296:=by exact ob) (hl_ys:ys.length<=4294967296:=by exact ob):Zp 207 [Z4 xs,Z4 ys] [] (Yz (.b (decide (xs=ys)))):=by
 refine ZG 26 Tryz.func207 (Y3 (YP 1 (iw (Yi xs) (Z0 1 (iw (Yi ys) (YD ((xs.length:Int) != (ys.length:Int)) Ym (fun Za=>?_) (fun Za=>?_)))))))
 ·exact ar (Zm (ZW (.b false) (lb (eq_comm.1 (decide_eq_false (fun q=>by rw [q] at Za;exact Za rfl))))))
 refine ak (Y8 (ab 0 (Y6 (fun fz gz m F h=>∃(k:Nat),(k<=xs.length)/\(xs.take k=ys.take k)/\F=sF [0,1] fz [(5,.i k)]/\h=gz/\m=xs.length-k) _ _ _ ⟨0,ob,ob,rfl,rfl,rfl⟩ (wk [] (Ye fl)) ?_)))
 rintro m F h ⟨k,Yk,Zh,rfl,rfl,rfl⟩
 refine YP 2 (iw (Yi xs) (Y2 ((k:Int)<(xs.length:Int)) (fun Zj=>?_) (fun Zj=>?_)))
 ·refine ak (aq (ab 1 (aD 9 (Zo 7 9 [0,1] ?_))))
  obtain ⟨x1,Z3⟩:=Zu xs k om
  refine dx 2 (Zi none (k:Int) 1 (Yb Z3)) (Zo 3 6 [3,4,5] ?_)
  obtain ⟨x2,Zw⟩:=Zu ys k om
  refine dx 6 (Zi none (k:Int) 1 (Yb Zw)) (Zo 0 2 [7,8] (de (ac (x1 != x2) Ym (fun Zz=>?_) (fun Zz=>?_))))
  ·exact ar (Zm (ZW (.b false) (lb (eq_comm.1 (decide_eq_false (fun q=>by subst q;rw [Z3] at Zw;cases Zw;exact Zz rfl))))))
  refine ak (az (Z0 1 (ZE k (Z2 ?_))))
  have hdr:=Yl Z3
  exact ZH ⟨k+1,ob,(by rw [V2 Z3,V2 Zw,Zh];have hxx:x1=x2:=om;rw [hxx]),rfl,rfl,rfl⟩ (wk [] (ZJ k fl))
 exact ax 0 (ar (Zm (ZW (.b true) (lb (eq_comm.1 (decide_eq_true (by rw [Wh om,Wh om] at Zh;exact Zh)))))))
theorem Bg (xs:LI) (hlen:xs.length<=4294967296:=by exact ob):Zp 74 [Z4 xs] [] (fun r h=>∃(v:Hd),r=.h v/\h=[rV v xs]):=by
 exact ZG 6 Tryz.func74 (Y3 (ar (iVL [] 0 fun v1=>Z0 1 (B7 0 v1 [] xs none fun v2=>Zm (r1 [0] ⟨v2,rfl,rfl⟩ (eq:=(rv (xs:=([]++xs)) ob rz)))))))
theorem KA (b:Nat) (ga:Hd) (gb:Hd) (gc:Hd) (gd:Hd) (ge:Hd) (gf:Hd) (L:ZM) (ln:LI) (t:Int) (o:Int) (p:Int) (hlb:L.vars.length<=1000000000:=by exact ob) (hlk:Ts L:=by exact ob):Zp 164 [.p b 0,.i t,.i o,.i p] [.obj b [.h ga,.h gb,.h gc,.h gd,.h ge,.h gf,Z4 ln],rV ga L.vars,rV gb L.own,rV gc L.par,rV gd L.con,rV ge L.fst,rV gf L.tok] (fun r h=>∃(wa:Hd) (wb:Hd) (wc:Hd) (wd:Hd) (we:Hd) (wf:Hd),h=[.obj b [.h wa,.h wb,.h wc,.h wd,.h we,.h wf,Z4 ln],rV wa ((L.grow t o p).vars),rV wb ((L.grow t o p).own),rV wc ((L.grow t o p).par),rV wd ((L.grow t o p).con),rV we ((L.grow t o p).fst),rV wf ((L.grow t o p).tok)]):=by
 obtain ⟨e1,e2,e3,e4,e5⟩:=hlk
 exact ZG 65 Tryz.func164 (Zs 6 [0] (iL (Z6 [t]) 1 1 fun v1=>ZY 0 [(14,Z4 [t])] (B7 2 ga L.vars [t] none fun v2=>Z0 2 (Zy 2 b [.h v2,.h gb,.h gc,.h gd,.h ge,.h gf,Z4 ln] (ie (Zs 6 [0] (iL (Z6 [o]) 1 1 fun v3=>ZY 0 [(24,Z4 [o])] (B7 4 gb L.own [o] none fun v4=>Z0 2 (Zy 2 b [.h v2,.h v4,.h gc,.h gd,.h ge,.h gf,Z4 ln] (ie (Zs 6 [0] (iL (Z6 [p]) 1 1 fun v5=>ZY 0 [(34,Z4 [p])] (B7 6 gc L.par [p] none fun v6=>Z0 2 (Zy 2 b [.h v2,.h v4,.h v6,.h gd,.h ge,.h gf,Z4 ln] (ie (Zs 5 [0] (iL (Z6 [-1]) 1 1 fun v7=>ZY 0 [(43,Z4 [-1])] (B7 8 gd L.con [-1] none fun v8=>Z0 2 (Zy 2 b [.h v2,.h v4,.h v6,.h v8,.h ge,.h gf,Z4 ln] (ie (Zs 5 [0] (iL (Z6 [-1]) 1 1 fun v9=>ZY 0 [(52,Z4 [-1])] (B7 10 ge L.fst [-1] none fun v10=>Z0 2 (Zy 2 b [.h v2,.h v4,.h v6,.h v8,.h v10,.h gf,Z4 ln] (ie (az (ZA 5 [0] (iL (Z6 [-1]) 1 1 fun v11=>ZY 0 [(61,Z4 [-1])] (B7 12 gf L.tok [-1] none fun v12=>Z0 2 (Zy 2 b [.h v2,.h v4,.h v6,.h v8,.h v10,.h v12,Z4 ln] (ie (r2 [0,10,8,6,4,2,0] [] ⟨v2,v4,v6,v8,v10,v12,rfl⟩ (lr _) (eq:=(rc (rv (xs:=(L.vars++[t])) ob (rv (xs:=(L.own++[o])) ob (rv (xs:=(L.par++[p])) ob (rv (xs:=(L.con++[-1])) ob (rv (xs:=(L.fst++[-1])) ob (rv (xs:=(L.tok++[-1])) ob rz))))))))))))))))))))))))))))))))))))))))
theorem Zbg (b:Nat) (ga:Hd) (gb:Hd) (gc:Hd) (gd:Hd) (ge:Hd) (gf:Hd) (L:ZM) (ln:LI) (hlb:L.vars.length<=1000000000:=by exact ob) (hlk:Ts L:=by exact ob) (hln:ln.length<=4294967296:=by exact ob):Zp 226 [.p b 0] [.obj b [.h ga,.h gb,.h gc,.h gd,.h ge,.h gf,Z4 ln],rV ga L.vars,rV gb L.own,rV gc L.par,rV gd L.con,rV ge L.fst,rV gf L.tok] (fun r h=>∃(c:Nat) (wa:Hd) (wb:Hd) (wc:Hd) (wd:Hd) (we:Hd) (wf:Hd),r=.p c 0/\h=[.obj c [.h wa,.h wb,.h wc,.h wd,.h we,.h wf,Z4 ln],rV wa L.vars,rV wb L.own,rV wc L.par,rV wd L.con,rV we L.fst,rV wf L.tok,.obj b [.h ga,.h gb,.h gc,.h gd,.h ge,.h gf,Z4 ln],rV ga L.vars,rV gb L.own,rV gc L.par,rV gd L.con,rV ge L.fst,rV gf L.tok]):=by
 obtain ⟨e1,e2,e3,e4,e5⟩:=hlk
 refine ZG 40 Tryz.func226 (Y3 (aD 38 (ZZ 10 38 [0,1,2,3,5,6,7,8,10,11,12,13,15,16,17,18,20,21,22,23,25,26,27,28,30,31,32,33] [0,0,0,0,0,0,0] (Z7 4 (Ac 4 [1] [0,0,0,0,0,0] [b,b,b,b,b,b] [rV ga L.vars] (Bg L.vars) Dm (gL (v:=ga) 0 gN) (J9 Ao) ?_)))))
 rintro _ _ ⟨v1,rfl,rfl⟩
 refine Z7 9 (Ac 9 [3] [0,0,0,0,0] [b,b,b,b,b] [rV gb L.own] (Bg L.own) Dm (gL (v:=gb) 0 gN) (J9 Ao) ?_)
 rintro _ _ ⟨v2,rfl,rfl⟩
 refine Z7 14 (Ac 14 [5] [0,0,0,0] [b,b,b,b] [rV gc L.par] (Bg L.par) Dm (gL (v:=gc) 0 gN) (J9 Ao) ?_)
 rintro _ _ ⟨v3,rfl,rfl⟩
 refine Z7 19 (Ac 19 [7] [0,0,0] [b,b,b] [rV gd L.con] (Bg L.con) Dm (gL (v:=gd) 0 gN) (J9 Ao) ?_)
 rintro _ _ ⟨v4,rfl,rfl⟩
 refine Z7 24 (Ac 24 [9] [0,0] [b,b] [rV ge L.fst] (Bg L.fst) Dm (gL (v:=ge) 0 gN) (J9 Ao) ?_)
 rintro _ _ ⟨v5,rfl,rfl⟩
 refine Z7 29 (Ac 29 [11] [0] [b] [rV gf L.tok] (Bg L.tok) Dm (gL (v:=gf) 0 gN) (J9 Ao) ?_)
 rintro _ _ ⟨v6,rfl,rfl⟩
 refine Z7 34 (dc 34 [] [] [] (WV ln) ?_)
 rintro _ _ ⟨v7,rfl,rfl⟩
 exact Yx 2 3 [35] [(38,.agg [.h v1,.h v2,.h v3,.h v4,.h v5,.h v6,Z4 ln])] (Z7 36 (dA 36 [] [] [.h v1,.h v2,.h v3,.h v4,.h v5,.h v6,Z4 ln] fun b1=>Zo 0 1 [37] (de (ZQ (r1 [0,11,9,7,5,3,1,7,6,5,4,3,2,1] ⟨b1,v1,v2,v3,v4,v5,v6,rfl,rfl⟩)))))
theorem Hg (b:Nat) (ga:Hd) (gb:Hd) (gc:Hd) (gd:Hd) (ge:Hd) (gf:Hd) (L:ZM) (ln:LI) (i:Int) (hlk:Ts L:=by exact ob) (hi:0<=i/\i<L.vars.length:=by exact ob) (hq:∀x∈L.own,0<=x/\x<=1000000000):Zp 165 [.p b 0,.i i] [.obj b [.h ga,.h gb,.h gc,.h gd,.h ge,.h gf,Z4 ln],rV ga L.vars,rV gb L.own,rV gc L.par,rV gd L.con,rV ge L.fst,rV gf L.tok] (fun r h=>(∃(wa:Hd) (wb:Hd) (wc:Hd) (wd:Hd) (we:Hd) (wf:Hd) (L':ZM),r=.b true/\h=[.obj b [.h wa,.h wb,.h wc,.h wd,.h we,.h wf,Z4 ln],rV wa L'.vars,rV wb L'.own,rV wc L'.par,rV wd L'.con,rV we L'.fst,rV wf L'.tok]/\Q5 L i=some L')∨(r=.b false/\h=[]/\Q5 L i=none)):=by
 obtain ⟨e1,e2,e3,e4,e5⟩:=hlk
 refine ZG 27 Tryz.func165 (Y3 (Yp 5 [0] (Zq (Uh 2 gb L.own i i.toNat (hq:=rfl)) ?_)))
 obtain ⟨x1,Z3⟩:=Zu L.own i.toNat om
 have hxq:=hq _ (Y7 Z3)
 have hgi:=Ti Z3
 refine VD (Qt 2 gb L.own i.toNat x1 Z3) (Y2 (x1<1) (fun Za=>?_) (fun Za=>?_))
 ·exact ar (Zm (r1 [] (.inr ⟨rfl,rfl,(by rw [Q5,hgi,Zk Za])⟩)))
 exact ak (aD 15 (ZZ 5 15 [0,1,2,3,4,5,6,7,8,9] [0,0] (dx 10 (Uh 2 gb L.own i i.toNat (hq:=rfl)) (UC 11 (Qt 2 gb L.own i.toNat x1 Z3) (da 12 ((x1-1)) ((x1)-(1)) (dx 13 (Uh 2 gb L.own i i.toNat (hq:=rfl)) (Z7 14 (Cw 14 2 [] [] gb L.own i.toNat (x1-1) (de (ar (Zm (r1 [1,1,0,0,0,0,0] (.inl ⟨ga,gb,gc,gd,ge,gf,(ZM.mk L.vars (L.own.set i.toNat (x1-1)) L.par L.con L.fst L.tok),rfl,rfl,(by rw [Q5,hgi,Zb Za])⟩) (eq:=(rc (rv (xs:=L.vars) ob (rv (xs:=(L.own.set i.toNat (x1-1))) ob (rv (xs:=L.par) ob (rv (xs:=L.con) ob (rv (xs:=L.fst) ob (rv (xs:=L.tok) ob rz))))))))))))))))))))
theorem Hf (b:Nat) (ga:Hd) (gb:Hd) (gc:Hd) (gd:Hd) (ge:Hd) (gf:Hd) (L:ZM) (ln:LI) (i:Int) (hlk:Ts L:=by exact ob) (hln:ln.length<=4294967296:=by exact ob) (hi:0<=i/\i<L.vars.length:=by exact ob) (hd:∀j:Int,0<=j->j<L.vars.length->gI L.par j<j):Zp 115 [.p b 0,.i i] [.obj b [.h ga,.h gb,.h gc,.h gd,.h ge,.h gf,Z4 ln],rV ga L.vars,rV gb L.own,rV gc L.par,rV gd L.con,rV ge L.fst,rV gf L.tok] (fun r h=>r=.b (T8 L ln i)/\h=[.obj b [.h ga,.h gb,.h gc,.h gd,.h ge,.h gf,Z4 ln],rV ga L.vars,rV gb L.own,rV gc L.par,rV gd L.con,rV ge L.fst,rV gf L.tok]):=by
 obtain ⟨e1,e2,e3,e4,e5⟩:=hlk
 refine ZG 31 Tryz.func115 (Y3 (aq (ab 0 (Y6 (fun fz gz m F h=>∃(j:Int),(0<=j/\j<L.vars.length)/\(QT L.own L.par ln (j.toNat+1) j=T8 L ln i)/\F=sF [0] fz [(1,.i j)]/\h=gz/\m=j.toNat) _ _ _ ⟨i,ob,ob,rfl,rfl,rfl⟩ (Zt 7 fl) ?_))))
 rintro m F h ⟨j,Yk,Zh,rfl,rfl,rfl⟩
 refine Yp 5 [0] (Zq (Uh 2 gb L.own j j.toNat (hq:=rfl)) ?_)
 obtain ⟨x1,Z3⟩:=Zu L.own j.toNat om
 have hg1:=Ti Z3
 refine VD (Qt 2 gb L.own j.toNat x1 Z3) (Xu [0,1] [(21,.b ((decide (x1<1))&&(!(decide (j∈ln)))))] (fun gz=>gz) ?_ ?_)
 ·refine Z0 2 (ib (b:=(decide (x1<1))) 13 (fun Zc=>?_) (fun Zc=>?_))
  ·exact ZA 5 [0] (Zv [] (UV ln j) (Z2 (Zt 7 (Zl (!(decide (j∈ln))) Zc fl))))
  exact Z2 (Zt 7 (Zl false Zc fl))
 refine ac ((decide (x1<1))&&(!(decide (j∈ln)))) (p:=(x1<1)/\(¬(j∈ln))) (Ys dq (Yd dq)) (fun Za=>?_) (fun Za=>?_)
 ·refine ak (ab 1 (Zs 5 [0] (Zq (Uh 3 gc L.par j j.toNat (hq:=rfl)) ?_)))
  obtain ⟨x2,Zw⟩:=Zu L.par j.toNat om
  have hg2:=Ti Zw
  have hdj:=hd j om om
  rw [hg2] at hdj
  refine VD (Qt 3 gc L.par j.toNat x2 Zw) (Z2 (ar (Y2 (x2<0) (fun Zj=>?_) (fun Zj=>?_))))
  ·exact ar (Zm (r2 [0,0,0,0,0,0,0] [.b false] ⟨rfl,rfl⟩ (lb (Z2r hg1 hg2 Za Zj Zh))))
  exact ak (ZH ⟨x2,om,(Z2s hg1 hg2 Yk Za Zj hd Zh),rfl,rfl,rfl⟩ (Zt 7 fl))
 exact ax 0 (ar (Zm (r2 [0,0,0,0,0,0,0] [.b true] ⟨rfl,rfl⟩ (lb (Z2t hg1 Za Zh)))))
theorem R6 (b:Nat) (ga:Hd) (gb:Hd) (gc:Hd) (gd:Hd) (ge:Hd) (gf:Hd) (L:ZM) (ln:LI) (mm:Nat) (hlk:Ts L:=by exact ob) (hlb:L.vars.length<=1000000000:=by exact ob) (hm:mm<=L.vars.length:=by exact ob):Zp 239 [.p b 0,.i mm] [.obj b [.h ga,.h gb,.h gc,.h gd,.h ge,.h gf,Z4 ln],rV ga L.vars,rV gb L.own,rV gc L.par,rV gd L.con,rV ge L.fst,rV gf L.tok] (fun r h=>(∃(wa:Hd) (wb:Hd) (wc:Hd) (wd:Hd) (we:Hd) (wf:Hd) (L':ZM),r=.b true/\h=[.obj b [.h wa,.h wb,.h wc,.h wd,.h we,.h wf,Z4 ln],rV wa L'.vars,rV wb L'.own,rV wc L'.par,rV wd L'.con,rV we L'.fst,rV wf L'.tok]/\Jt L mm=some L')∨(r=.b false/\h=[]/\Jt L mm=none)):=by
 obtain ⟨e1,e2,e3,e4,e5⟩:=hlk
 refine ZG 88 Tryz.func239 (Y3 (Y8 (ab 0 (Y6 (fun fz gz m F h=>∃(k:Nat),(mm<=k/\k<=L.vars.length)/\(C8 (L.own.drop k) (L.tok.drop k)=C8 (L.own.drop mm) (L.tok.drop mm))/\F=sF [0,1] fz [(5,.i k)]/\h=gz/\m=L.vars.length-k) _ _ _ ⟨mm,ob,ob,rfl,rfl,rfl⟩ (Zt 7 fl) ?_))))
 rintro m F h ⟨k,Yk,Zh,rfl,rfl,rfl⟩
 refine Yp 5 [0] (Zq (Db 1 ga L.vars) (Y2 ((k:Int)<(L.vars.length:Int)) (fun Za=>?_) (fun Za=>?_)))
 ·refine ak (aq (ab 1 (Zs 5 [0] (Zq (Uh 2 gb L.own (k:Int) k) ?_))))
  obtain ⟨x1,Z3⟩:=Zu L.own k om
  refine VD (Qt 2 gb L.own k x1 Z3) (Z0 2 (ib (b:=(x1 != 0)) 24 (fun Zc=>?_) (fun Zc=>?_)))
  ·have Y9:x1≠0:=(Ym).1 Zc
   refine Z2 (Vk (Y3 ?_))
   obtain ⟨y2,hy2⟩:=Zu L.tok k om
   exact ZQ (r1 [] (.inr ⟨rfl,rfl,(by rw [Jt,<-Zh,Yl Z3,Yl hy2,C8,Zk (show x1≠0∨0<=y2 by omega)];rfl)⟩))
  have Yt:¬(x1≠0):=Y4 Ym Zc
  refine ZA 5 [0] (Zq (Uh 6 gf L.tok (k:Int) k) ?_)
  obtain ⟨x2,Zw⟩:=Zu L.tok k om
  refine VD (Qt 6 gf L.tok k x2 Zw) (Y2 (x2>=0) (fun Zj=>?_) (fun Zj=>?_))
  ·exact ar (Zm (r1 [] (.inr ⟨rfl,rfl,(by rw [Jt,<-Zh,Yl Z3,Yl Zw,C8,Zk (show x1≠0∨0<=x2 by omega)];rfl)⟩)))
  exact ak (az (Z0 1 (ZE k (Z2 (ZH ⟨k+1,ob,(by rw [Yl Z3,Yl Zw,C8,Zb om] at Zh;exact Zh),rfl,rfl,rfl⟩ (Zt 7 (ZJ k fl)))))))
 exact ax 0 (Zs 6 [0] (Zq (Em 1 ga L.vars mm) (Z0 2 (Xb (Ei 1 mm ga L.vars) (Zy 1 b [.h (ga.cut mm),.h gb,.h gc,.h gd,.h ge,.h gf,Z4 ln] (ie (Zs 6 [0] (Zq (Em 2 gb L.own mm) (Z0 2 (Xb (Ei 2 mm gb L.own) (Zy 1 b [.h (ga.cut mm),.h (gb.cut mm),.h gc,.h gd,.h ge,.h gf,Z4 ln] (ie (Zs 6 [0] (Zq (Em 3 gc L.par mm) (Z0 2 (Xb (Ei 3 mm gc L.par) (Zy 1 b [.h (ga.cut mm),.h (gb.cut mm),.h (gc.cut mm),.h gd,.h ge,.h gf,Z4 ln] (ie (Zs 6 [0] (Zq (Em 4 gd L.con mm) (Z0 2 (Xb (Ei 4 mm gd L.con) (Zy 1 b [.h (ga.cut mm),.h (gb.cut mm),.h (gc.cut mm),.h (gd.cut mm),.h ge,.h gf,Z4 ln] (ie (Zs 6 [0] (Zq (Em 5 ge L.fst mm) (Z0 2 (Xb (Ei 5 mm ge L.fst) (Zy 1 b [.h (ga.cut mm),.h (gb.cut mm),.h (gc.cut mm),.h (gd.cut mm),.h (ge.cut mm),.h gf,Z4 ln] (ie (Zs 6 [0] (Zq (Em 6 gf L.tok mm) (Z0 2 (Xb (Ei 6 mm gf L.tok) (Zy 1 b [.h (ga.cut mm),.h (gb.cut mm),.h (gc.cut mm),.h (gd.cut mm),.h (ge.cut mm),.h (gf.cut mm),Z4 ln] (ie (ar (Zm (r1 [0,5,4,3,2,1,0] (.inl ⟨(ga.cut mm),(gb.cut mm),(gc.cut mm),(gd.cut mm),(ge.cut mm),(gf.cut mm),(ZM.mk (L.vars.take mm) (L.own.take mm) (L.par.take mm) (L.con.take mm) (L.fst.take mm) (L.tok.take mm)),rfl,rfl,(by rw [Jt,Zk (by rw [<-Zh,Xr om];rfl)];rfl)⟩) (eq:=(rc (rv (xs:=(L.vars.take mm)) ob (rv (xs:=(L.own.take mm)) ob (rv (xs:=(L.par.take mm)) ob (rv (xs:=(L.con.take mm)) ob (rv (xs:=(L.fst.take mm)) ob (rv (xs:=(L.tok.take mm)) ob rz)))))))))))))))))))))))))))))))))))))))))))))))
theorem Zbi (b:Nat) (ga:Hd) (gb:Hd) (gc:Hd) (gd:Hd) (ge:Hd) (gf:Hd) (n:ZF) (s:Z5) (L:ZM) (ln:LI) (q:Int) (x:Int) (hn:Xx n:=by exact ob) (hk:XK n.decls L q:=by exact ob) (hlb:L.vars.length<=1000000000:=by exact ob) (ha:s.args[0]? = some x:=by exact ob) (hx:0<=x/\x<L.vars.length:=by exact ob) (hq:0<=q/\q<=999999990:=by exact ob):Zp 166 [.p b 0,YG n,X5 s] [.obj b [.h ga,.h gb,.h gc,.h gd,.h ge,.h gf,Z4 ln],rV ga L.vars,rV gb L.own,rV gc L.par,rV gd L.con,rV ge L.fst,rV gf L.tok] (fun r h=>(∃(wa:Hd) (wb:Hd) (wc:Hd) (wd:Hd) (we:Hd) (wf:Hd) (L':ZM),r=.b true/\h=[.obj b [.h wa,.h wb,.h wc,.h wd,.h we,.h wf,Z4 ln],rV wa L'.vars,rV wb L'.own,rV wc L'.par,rV wd L'.con,rV we L'.fst,rV wf L'.tok]/\Aq n.decls L s.op x=some L')∨(r=.b false/\h=[]/\Aq n.decls L s.op x=none)):=by
 obtain ⟨e1,e2,e3,e4,e5⟩:=hk.len
 have Xn:=hn.decls
 have hal:=(Xc.1 ha).1
 obtain ⟨xcon,hxcon⟩:=Zu L.con ((x).toNat) om
 have hgcon:=Ti hxcon
 obtain ⟨xtok,hxtok⟩:=Zu L.tok ((x).toNat) om
 have hgtok:=Ti hxtok
 obtain ⟨xfst,hxfst⟩:=Zu L.fst ((x).toNat) om
 have hgfst:=Ti hxfst
 have hfl:=Vs Xn xcon
 have har:=hk.arm x om om
 rw [hgcon,hgfst] at har
 refine ZG 105 Tryz.func166 (ar (iA (X8 n) fun b1=>iA (Wd s) fun b2=>Z2 (Zs 2 [0] (Zq (Zi none 0 1 (Yb ha)) (Z2 (Yp 5 [2] (Zq (Uh 6 gd L.con x x.toNat (hq:=rfl)) (VD (Qt 6 gd L.con x.toNat xcon hxcon) (X2 23 [0,4,5,7] [(36,.b ((decide (xcon<0))||((s.op==17)&&(decide (xtok>=0)))))] (fun gz=>gz) ?_ (fun hj1=>?_))))))))))
 ·refine Z0 1 (ib (b:=((decide (xcon<0))||((s.op==17)&&(decide (xtok>=0))))) 37 (fun Zc=>?_) (fun Zc=>?_))
  ·have Y9:(xcon<0)∨((s.op=17)/\(xtok>=0)):=((ZO dq (Ys Zf dq))).1 Zc
   exact Z2 (Vk (ar (Zm (r1 [] (.inr ⟨rfl,rfl,(by rw [Aq,hgcon,hgtok,Zk om])⟩)))))
  have Yt:¬((xcon<0)∨((s.op=17)/\(xtok>=0))):=Y4 (ZO dq (Ys Zf dq)) Zc
  refine Z0 2 (ic [2,2,2,2,2,2,2] (Hg b ga gb gc gd ge gf L ln x (hlk:=hk.len) (hq:=(fun y hy=>⟨hk.nn y hy,by have:=hk.bd y hy;omega⟩))) ?_)
  rintro _ _ (⟨wa1,wb1,wc1,wd1,we1,wf1,L'1,rfl,rfl,YS⟩|⟨rfl,rfl,YX⟩)
  ·obtain ⟨t1,t2,t3,t4,t5,t6,t7⟩:=JO YS
   have hk1:=hk.take YS
   obtain ⟨f1,f2,f3,f4,f5⟩:=hk1.len
   have hxcon1:L'1.con[x.toNat]? = some xcon:=by rw [t4];exact hxcon
   have hvl:L'1.vars.length=L.vars.length:=by rw [t2]
   have har2:=har om
   have hxfst1:L'1.fst[x.toNat]? = some xfst:=by rw [t5];exact hxfst
   refine Z2 (Vb (ak (aD 11 (ZZ 4 11 [0,1,2,3,4,5,6] [8,0] (dx 7 (Uh 4 wd1 L'1.con x x.toNat (hq:=rfl)) (UC 8 (Qt 4 wd1 L'1.con x.toNat xcon hxcon1) (Z7 9 (YE 9 [] [] [] (Qr n.decls xcon) (Zo 0 1 [10] (de (Y8 (ab 0 (Y6 (fun fz gz m F h=>∃(k:Nat) (o:LI),(k<=(ZP n.decls xcon).length)/\(o.length=L.vars.length)/\(∀y∈o,0<=y/\y<=q+k)/\(Qx o (xfst+k) ((ZP n.decls xcon).drop k)=Qx L'1.own xfst (ZP n.decls xcon))/\F=sF [0,5,7,8] fz [(9,.i k)]/\h=[Zg gz 0,Zg gz 1,rV wb1 o,Zg gz 3,Zg gz 4,Zg gz 5,Zg gz 6,Zg gz 7]/\m=(ZP n.decls xcon).length-k) _ _ _ ⟨0,L'1.own,ob,om,(by intro y hy;have h1:=hk1.nn y hy;have h2:=hk1.bd y hy;omega),(by rw [show xfst+((0:Nat):Int)=xfst by omega,Ca]),rfl,rfl,rfl⟩ (Zt 8 (Ye fl)) ?_)))))))))))))
   rintro m F h ⟨k,o,Yk,Zh,ZB,YN,rfl,rfl,rfl⟩
   refine YP 2 (io (.i (((ZP n.decls xcon).length:Nat):Int)) (.i (((Z6 (ZP n.decls xcon)).length:Nat):Int)) (li (by rw [Yi])) (Y2 ((k:Int)<(((ZP n.decls xcon).length:Nat):Int)) (fun Za=>?_) (fun Za=>?_)))
   ·refine ak (aq (ab 1 (Yj 2 ?_)))
    obtain ⟨x1,Z3⟩:=Zu (ZP n.decls xcon) k om
    refine Zq (Zi none (k:Int) 1 (Yb Z3)) (YD (x1 != 0) Ym (fun Zj=>?_) (fun Zj=>?_))
    ·refine aE 31 (ZZ 22 31 [0,1,2,3,4,5,6,7,8] [0,0] (dx 9 (Uh 5 we1 L'1.fst x x.toNat (hq:=rfl)) (UC 10 (Qt 5 we1 L'1.fst x.toNat xfst hxfst1) (Zo 19 20 [11] (da 12 ((xfst+(k:Int))) ((xfst)+((k:Int))) (ZZ 9 18 [13,14,15,16,17,18,19,20,21] [0,0] (dx 22 (Uh 5 we1 L'1.fst x x.toNat (hq:=rfl)) (UC 23 (Qt 5 we1 L'1.fst x.toNat xfst hxfst1) (Zo 6 7 [24] (da 25 ((xfst+(k:Int))) ((xfst)+((k:Int))) (dx 26 (Uh 2 wb1 o (xfst+(k:Int)) ((xfst+(k:Int)).toNat) (hq:=rfl)) ?_)))))))))))
     obtain ⟨x2,Zw⟩:=Zu o ((xfst+(k:Int)).toNat) om
     have hy2:=ZB _ (Y7 Zw)
     exact UC 27 (Qt 2 wb1 o ((xfst+(k:Int)).toNat) x2 Zw) (da 28 ((x2+1)) ((x2)+(1)) (dx 29 (Uh 2 wb1 o (xfst+(k:Int)) ((xfst+(k:Int)).toNat) (hq:=rfl)) (Z7 30 (Cw 30 2 [] [] wb1 o ((xfst+(k:Int)).toNat) (x2+1) (de (az (Z0 1 (ZE k (Z2 (ZH ⟨k+1,(o.set (xfst+(k:Nat)).toNat (x2+1)),ob,ob,(by intro y hy;first|(rcases JJ hy with hy|rfl<;>first|(have:=ZB y hy;omega)|omega)|(have:=ZB y hy;omega)),(by rw [Yl Z3,Qx] at YN;first|(rw [Zk Zj,Ti Zw] at YN;rw [show xfst+((k+1:Nat):Int)=xfst+k+1 by omega];exact YN)|(rw [Zb Zj] at YN;rw [show xfst+((k+1:Nat):Int)=xfst+k+1 by omega];exact YN)),rfl,rfl,rfl⟩ (wk [1,1,0,0,0,0,0,0] (ZJ k fl) (e:=(rc (rc (rv (xs:=(o.set ((xfst+(k:Int)).toNat) (x2+1))) ob (rc (rc (rc (rc (rc rz))))))))))))))))))))
    exact ak (az (Z0 1 (ZE k (Z2 (ZH ⟨k+1,o,ob,ob,(by intro y hy;first|(rcases JJ hy with hy|rfl<;>first|(have:=ZB y hy;omega)|omega)|(have:=ZB y hy;omega)),(by rw [Yl Z3,Qx] at YN;first|(rw [Zk Zj,Ti Zw] at YN;rw [show xfst+((k+1:Nat):Int)=xfst+k+1 by omega];exact YN)|(rw [Zb Zj] at YN;rw [show xfst+((k+1:Nat):Int)=xfst+k+1 by omega];exact YN)),rfl,rfl,rfl⟩ (Zt 8 (ZJ k fl)))))))
   refine ax 0 (Xk (V0 [7] (ac (s.op==17) Zf (fun Zz=>?_) (fun Zz=>?_))))
   ·refine az (ZA 6 [0] (io (.i (((ZP n.decls xcon).length:Nat):Int)) (.i (((Z6 (ZP n.decls xcon)).length:Nat):Int)) (li (by rw [Yi])) (Zq (Uh 6 wf1 L'1.tok x x.toNat (hq:=rfl)) (LM 6 wf1 L'1.tok x.toNat (((ZP n.decls xcon).length:Nat):Int) (ie (Y3 ?_))))))
    have hof:o=Qx L'1.own xfst (ZP n.decls xcon):=by rw [<-YN,Xr om];rfl
    exact ZQ (r1 [1,1,1,1,1,1,0] (.inl ⟨wa1,wb1,wc1,wd1,we1,wf1,(ZM.mk L'1.vars o L'1.par L'1.con L'1.fst (L'1.tok.set x.toNat (((ZP n.decls xcon).length:Nat):Int))),rfl,rfl,(by rw [Aq,hgcon,hgfst,hgtok,Zb om,YS,hof,t6];simp [Zz,t2,t3,t4,t5])⟩) (eq:=(rc (rv (xs:=L'1.vars) ob (rv (xs:=o) ob (rv (xs:=L'1.par) ob (rv (xs:=L'1.con) ob (rv (xs:=L'1.fst) ob (rv (xs:=(L'1.tok.set x.toNat (((ZP n.decls xcon).length:Nat):Int))) ob rz)))))))))
   refine ak (Y3 ?_)
   have hof:o=Qx L'1.own xfst (ZP n.decls xcon):=by rw [<-YN,Xr om];rfl
   exact ZQ (r1 [0,0,0,0,0,0,0] (.inl ⟨wa1,wb1,wc1,wd1,we1,wf1,(ZM.mk L'1.vars o L'1.par L'1.con L'1.fst L'1.tok),rfl,rfl,(by rw [Aq,hgcon,hgfst,hgtok,Zb om,YS,hof,t6];simp [Zz,t2,t3,t4,t5])⟩) (eq:=(rc (rv (xs:=L'1.vars) ob (rv (xs:=o) ob (rv (xs:=L'1.par) ob (rv (xs:=L'1.con) ob (rv (xs:=L'1.fst) ob (rv (xs:=L'1.tok) ob rz)))))))))
  exact Z2 (Vk (ar (Zm (r1 [] (.inr ⟨rfl,rfl,(by rw [Aq,hgcon,hgtok,Zb om,YX])⟩)))))
 refine Z0 2 (ib (b:=(decide (xcon<0))) 22 (fun ZD=>?_) (fun ZD=>?_))
 ·have Xe:xcon<0:=(dq).1 ZD
  exact Z0 14 (Y1 (Zt 9 (Zl true ZD fl)) hj1)
 have XP:¬(xcon<0):=Y4 dq ZD
 refine ZA 4 [0] (ib (b:=(s.op==17)) 26 (fun Yf=>?_) (fun Yf=>?_))
 ·have Wf:s.op=17:=(Zf).1 Yf
  exact ZA 5 [2] (Zq (Uh 8 gf L.tok x x.toNat (hq:=rfl)) (VD (Qt 8 gf L.tok x.toNat xtok hxtok) (Z0 3 (Y1 (Zt 9 (Zl (decide (xtok>=0)) (And.intro ZD Yf) fl)) hj1))))
 have WL:¬(s.op=17):=Y4 Zf Yf
 exact Z0 10 (Y1 (Zt 9 (Zl false (And.intro ZD Yf) fl)) hj1)
theorem Zbh (b:Nat) (ga:Hd) (gb:Hd) (gc:Hd) (gd:Hd) (ge:Hd) (gf:Hd) (n:ZF) (s:Z5) (L:ZM) (ln:LI) (q:Int) (hn:Xx n:=by exact ob) (hnum:s.op=9->0<=s.num/\s.num<n.routines.length:=by exact ob) (hk:XK n.decls L q:=by exact ob) (hlb:L.vars.length<=1000000000:=by exact ob) (hargs:∀a∈s.args,0<=a/\a<L.vars.length) (hinto:0<s.into->s.into<=L.vars.length:=by exact ob) (hal:s.args.length<=1000000000:=by exact ob) (hln:ln.length<=4294967296:=by exact ob) (hq:0<=q/\q<=999999990:=by exact ob):Zp 168 [.p b 0,YG n,X5 s] [.obj b [.h ga,.h gb,.h gc,.h gd,.h ge,.h gf,Z4 ln],rV ga L.vars,rV gb L.own,rV gc L.par,rV gd L.con,rV ge L.fst,rV gf L.tok] (fun r h=>(∃(wa:Hd) (wb:Hd) (wc:Hd) (wd:Hd) (we:Hd) (wf:Hd) (L':ZM),r=.b true/\h=[.obj b [.h wa,.h wb,.h wc,.h wd,.h we,.h wf,Z4 ln],rV wa L'.vars,rV wb L'.own,rV wc L'.par,rV wd L'.con,rV we L'.fst,rV wf L'.tok]/\Jw n ln L s.op s.num s.into s.args=some L')∨(r=.b false/\h=[]/\Jw n ln L s.op s.num s.into s.args=none)):=by
 obtain ⟨e1,e2,e3,e4,e5⟩:=hk.len
 refine ZG 79 Tryz.func168 (ar (iA (X8 n) fun b1=>iA (Wd s) fun b2=>?_))
 refine Z2 (Y8 (ab 0 (Y6 (fun fz gz m F h=>∃(k:Nat) (L2:ZM) (ka:Hd) (kb:Hd) (kc:Hd) (kd:Hd) (ke:Hd) (kf:Hd),(k<=s.args.length)/\(XK n.decls L2 q)/\(L2.vars=L.vars)/\(Kx n s.op s.num (s.args.drop k) k L2=Kx n s.op s.num s.args 0 L)/\F=sF [0,4,5] fz [(7,.i k)]/\h=[Zg gz 0,Zg gz 1,.obj b [.h ka,.h kb,.h kc,.h kd,.h ke,.h kf,Z4 ln],rV ka L2.vars,rV kb L2.own,rV kc L2.par,rV kd L2.con,rV ke L2.fst,rV kf L2.tok]/\m=s.args.length-k) _ _ _ ⟨0,L,ga,gb,gc,gd,ge,gf,ob,hk,ob,ob,rfl,rfl,rfl⟩ (Zt 9 (Ye fl)) ?_)))
 rintro m F h ⟨k,L2,ka,kb,kc,kd,ke,kf,Yk,Zh,ZB,YN,rfl,rfl,rfl⟩
 refine Yp 3 [0] (iw (Yi s.args) (Y2 ((k:Int)<(s.args.length:Int)) (fun Za=>?_) (fun Za=>?_)))
 ·obtain ⟨a1,ha1⟩:=Zu s.args k om
  obtain ⟨e6,e7,e8,e9,e10⟩:=Zh.len
  have hav:=hargs a1 (Y7 ha1)
  have hvl:L2.vars.length=L.vars.length:=by rw [ZB]
  refine ak (aq (ab 1 (aD 18 (ZZ 11 18 [0,1,2,3,4,5,6] [1,2,0] (Z7 7 (Ac 7 [3] [] [] [rV ka L2.vars] (HW n L2.vars s k a1 (ha:=ha1)) Gf (gS (gL (v:=ka) 0 (gS (gS gN)))) (J9 Ao) ?_))))))
  rintro _ _ ⟨rfl,rfl⟩
  refine Zo 9 10 [8] (db (b:=Js n L2.vars s.op s.num a1 k) 24 (fun Zc=>?_) (fun Zc=>?_))
  ·have Y9:Js n L2.vars s.op s.num a1 k=true:=(Iff.rfl).1 Zc
   refine ZZ 5 9 [9,10,11,12] [1] (dx 13 (Zi none (k:Int) 1 (Yb ha1)) (Zo 3 4 [14] (Z7 15 (dc 15 [3,0,2,2,2,2,2] [] [] (Hg b ka kb kc kd ke kf L2 ln a1 (hlk:=Zh.len) (hq:=(fun y hy=>⟨Zh.nn y hy,by have:=Zh.bd y hy;omega⟩))) ?_))))
   rintro _ _ (⟨wa1,wb1,wc1,wd1,we1,wf1,L'1,rfl,rfl,Yt⟩|⟨rfl,rfl,YS⟩)
   ·obtain ⟨t1,t2,t3,t4,t5,t6,t7⟩:=JO Yt
    have hk2:=Zh.take Yt
    exact Zo 0 2 [16,17] (de (Vb (ak (az (Z0 1 (ZE k (Z2 (ZH ⟨k+1,L'1,wa1,wb1,wc1,wd1,we1,wf1,ob,hk2,(t2.trans ZB),(by rw [Yl ha1,Kx,Zk Y9] at YN;simp only [Yt] at YN;exact YN),rfl,rfl,rfl⟩ (wk [7,7,0,0,0,0,0,0,0] (ZJ k fl))))))))))
   exact Zo 0 2 [16,17] (de (Vk (ar (Zm (r1 [] (.inr ⟨rfl,rfl,(by rw [Jw,<-YN,Yl ha1,Kx,Zk Y9,YS])⟩))))))
  have YX:¬(Js n L2.vars s.op s.num a1 k=true):=Y4 Iff.rfl Zc
  exact Zo 0 9 [9,10,11,12,13,14,15,16,17] (de (Vb (ak (az (Z0 1 (ZE k (Z2 (ZH ⟨k+1,L2,ka,kb,kc,kd,ke,kf,ob,Zh,ZB,(by rw [Yl ha1,Kx,Zb YX] at YN;exact YN),rfl,rfl,rfl⟩ (wk [1,1,1,0,0,0,0,0,0] (ZJ k fl))))))))))
 have hT:Kx n s.op s.num s.args 0 L=some L2:=by rw [<-YN,Xr om];rfl
 obtain ⟨e6,e7,e8,e9,e10⟩:=Zh.len
 have hvl:L2.vars.length=L.vars.length:=by rw [ZB]
 refine ax 0 (Y8 (ab 2 (Y6 (fun fz gz m F h=>∃(j:Nat),(j<=s.args.length)/\(BI n s.op s.num ln L2 (s.args.drop j) j=BI n s.op s.num ln L2 s.args 0)/\F=sF [0,4,5] fz [(8,.i j)]/\h=gz/\m=s.args.length-j) _ _ _ ⟨0,ob,ob,rfl,rfl,rfl⟩ (Zt 9 (Ye fl)) ?_)))
 rintro m F h ⟨j,Vr,Xs,rfl,rfl,rfl⟩
 refine Yp 3 [0] (iw (Yi s.args) (Y2 ((j:Int)<(s.args.length:Int)) (fun Zj=>?_) (fun Zj=>?_)))
 ·obtain ⟨a2,ha2⟩:=Zu s.args j om
  have hav:=hargs a2 (Y7 ha2)
  refine ak (aq (ab 3 (Zs 3 [1,0] (Zv [] (FB n s j) (Xu [0,4,5,8] [(54,.b (T2 n s.op s.num j&&(!T8 L2 ln a2)))] (fun gz=>[Zg gz 2,Zg gz 3,Zg gz 4,Zg gz 5,Zg gz 6,Zg gz 7,Zg gz 8,Zg gz 0,Zg gz 1]) ?_ ?_)))))
  ·refine Z0 1 (ib (b:=T2 n s.op s.num j) 45 (fun ZD=>?_) (fun ZD=>?_))
   ·exact ZA 4 [0] (Zq (Zi none (j:Int) 1 (Yb ha2)) (Z0 1 (Zv [2,2,2,2,2,2,2] (Hf b ka kb kc kd ke kf L2 ln a2 (hlk:=Zh.len) (hd:=Zh.down)) (Z2 (Zt 9 (Zl (!T8 L2 ln a2) ZD fl))))))
   exact Z2 (wk [2,2,2,2,2,2,2,0,0] (Zl false ZD fl))
  refine ac (T2 n s.op s.num j&&(!T8 L2 ln a2)) (p:=(T2 n s.op s.num j=true)/\(¬(T8 L2 ln a2=true))) (Ys Iff.rfl (Yd Iff.rfl)) (fun Zz=>?_) (fun Zz=>?_)
  ·refine Y3 ?_
   have hA:BI n s.op s.num ln L2 s.args 0=false:=by rw [<-Xs,Yl ha2,BI,Zk Zz]
   exact ZQ (r1 [] (.inr ⟨rfl,rfl,(by rw [Jw,hT];simp only [hA];rfl)⟩))
  exact ak (az (Z0 1 (ZE j (Z2 (ZH ⟨j+1,ob,(by rw [Yl ha2,BI,Zb Zz] at Xs;exact Xs),rfl,rfl,rfl⟩ (wk [7,7,0,0,0,0,0,0,0] (ZJ j fl)))))))
 have hA:BI n s.op s.num ln L2 s.args 0=true:=by rw [<-Xs,Xr om];rfl
 refine ax 2 (Xk (V0 [0] (Vh (s.into>0) (fun Yg=>?_) (fun Yg=>?_))))
 ·obtain ⟨xt,hxt⟩:=Zu L2.tok ((s.into-1).toNat) (by have:=hinto Yg;omega)
  have hgt:=Ti hxt
  refine aq (aD 13 (ZZ 7 13 [0,1,2,3,4,5] [2,0] (da 6 ((s.into-1)) ((s.into)-(1)) (dx 7 (Uh 8 kf L2.tok (s.into-1) ((s.into-1).toNat) (hq:=rfl)) (UC 8 (Qt 8 kf L2.tok ((s.into-1).toNat) xt hxt) (ZZ 2 4 [9,10] [0] (dw 11 (Yi s.args) (Zo 0 1 [12] (de (ac (xt != (s.args.length:Int)) Ym (fun YL=>?_) (fun YL=>?_)))))))))))
  ·exact ar (Zm (r1 [] (.inr ⟨rfl,rfl,(by rw [Jw,hT];simp only [hA,↓reduceIte];rw [EL,Zk Yg,hgt,Zk YL])⟩)))
  exact ak (aE 9 (ZZ 3 9 [0,1,2,3,4,5] [2,0] (da 6 ((s.into-1)) ((s.into)-(1)) (dx 7 (Uh 8 kf L2.tok (s.into-1) ((s.into-1).toNat) (hq:=rfl)) (Z7 8 (Cw 8 8 [] [] kf L2.tok ((s.into-1).toNat) (-1) (de (ar (Zm (r1 [3,3,3,3,3,3,0] (.inl ⟨ka,kb,kc,kd,ke,kf,(ZM.mk L2.vars L2.own L2.par L2.con L2.fst (L2.tok.set ((s.into-1).toNat) (-1))),rfl,rfl,(by rw [Jw,hT];simp only [hA,↓reduceIte];rw [EL,Zk Yg,hgt,Zb YL])⟩) (eq:=(rc (rv (xs:=L2.vars) ob (rv (xs:=L2.own) ob (rv (xs:=L2.par) ob (rv (xs:=L2.con) ob (rv (xs:=L2.fst) ob (rv (xs:=(L2.tok.set ((s.into-1).toNat) (-1))) ob rz))))))))))))))))))
 exact ak (ar (Zm (r1 [2,2,2,2,2,2,2] (.inl ⟨ka,kb,kc,kd,ke,kf,L2,rfl,rfl,(by rw [Jw,hT];simp only [hA,↓reduceIte];rw [EL,Zb Yg])⟩))))
theorem Z7y (b:Z8) (t:Int) (hz:b.sz<=1000000) (ih:∀(b2:Z8) (t:Int),(b2.sz<=1000000)->(b2.sz<b.sz)->Zp 219 [Yo b2,.i t] [] (fun r h=>∃(wr:Bool),r=.b wr/\h=[])):Zp 219 [Yo b,.i t] [] (fun r h=>∃(wr:Bool),r=.b wr/\h=[]):=by
 have ZK:=UH b
 have hbl:=Jh b.steps
 have hbe:=b.sz_eq
 refine ZG 53 Tryz.func219 (ar (iA (W0 b) fun b1=>?_))
 refine Z2 (Y8 (ab 0 (Y6 (fun fz gz m F h=>∃(k:Nat),(k<=b.steps.length)/\F=sF [1,2] fz [(5,.i k)]/\h=gz/\m=b.steps.length-k) _ _ _ ⟨0,ob,rfl,rfl,rfl⟩ (wk [0] (Ye fl)) ?_)))
 rintro m F h ⟨k,Yk,rfl,rfl,rfl⟩
 refine Yp 3 [0] (iw (UK b.steps) (Y2 ((k:Int)<(b.steps.length:Int)) (fun Za=>?_) (fun Za=>?_)))
 ·refine ak (aq (ab 1 (Yp 3 [0] ?_)))
  obtain ⟨x1,Z3⟩:=Zu b.steps k om
  have hxs:=MQ (Y7 Z3)
  have hxe:=(x1).sz_eq
  have hxk:=K9 x1
  refine Zq (Zi none (k:Int) 5 (Vc Z3)) (Xu [1,2,5] [(30,.b ((x1.op==10)&&(x1.num==t)))] (fun gz=>gz) ?_ ?_)
  ·refine Z0 4 (ib (b:=(x1.op==10)) 21 (fun Zc=>?_) (fun Zc=>?_))
   ·exact ZA 3 [0] (Zq (Zi none (k:Int) 5 (Vc Z3)) (Z2 (wk [0] (Zl (x1.num==t) Zc fl))))
   exact Z2 (wk [0] (Zl false Zc fl))
  refine ac ((x1.op==10)&&(x1.num==t)) (p:=(x1.op=10)/\(x1.num=t)) (Ys Zf Zf) (fun Zj=>?_) (fun Zj=>?_)
  ·exact ar (Zm (r1 [] ⟨true,rfl,rfl⟩))
  refine ak (Y3 (ab 2 (Y6 (fun fz gz m F h=>∃(j:Nat),(j<=x1.kids.length)/\F=sF [1,2,5] fz [(6,.i j)]/\h=gz/\m=x1.kids.length-j) _ _ _ ⟨0,ob,rfl,rfl,rfl⟩ (wk [0] (Ye fl)) ?_)))
  rintro m F h ⟨j,Vr,rfl,rfl,rfl⟩
  refine Yp 4 [0] (Zq (Zi none (k:Int) 5 (Vc Z3)) (Z0 2 (iw (Kw x1.kids) (Y2 ((j:Int)<(x1.kids.length:Int)) (fun Zz=>?_) (fun Zz=>?_)))))
  ·refine ak (aq (ab 3 (Zs 3 [0] (Zq (Zi none (k:Int) 5 (Vc Z3)) (Z0 3 ?_)))))
   obtain ⟨x2,Zw⟩:=Zu x1.kids j om
   have hkx:=IA (Y7 Zw)
   refine Zq (Zi none (j:Int) 2 (T0 Zw)) (Z0 2 (ic [] (ih x2 t ob ob) ?_))
   rintro _ _ ⟨wr1,rfl,rfl⟩
   refine ie (ac wr1 Iff.rfl (fun Yg=>?_) (fun Yg=>?_))
   ·exact ar (Zm (r1 [] ⟨true,rfl,rfl⟩))
   exact ak (az (Z0 1 (ZE j (Z2 (ZH ⟨j+1,ob,rfl,rfl,rfl⟩ (wk [0] (ZJ j fl)))))))
  exact ax 2 (az (Z0 1 (ZE k (Z2 (ZH ⟨k+1,ob,rfl,rfl,rfl⟩ (wk [0] (ZJ k fl)))))))
 exact ax 0 (ar (Zm (r1 [] ⟨false,rfl,rfl⟩)))
theorem Z7x (b:Z8) (t:Int) (hz:b.sz<=1000000:=by exact ob):Zp 219 [Yo b,.i t] [] (fun r h=>∃(wr:Bool),r=.b wr/\h=[]):=by
 have key:∀k:Nat,∀(b2:Z8) (t:Int),(b2.sz<=1000000)->(b2.sz<k)->Zp 219 [Yo b2,.i t] [] (fun r h=>∃(wr:Bool),r=.b wr/\h=[]):=by
  intro k
  induction k with
  | zero=>intro b2 t h1 h2;omega
  | succ k ih=>intro b2 t h1 h2;exact Z7y b2 t h1 fun b3 t3 q1 q2=>ih b3 t3 q1 om
 exact key (b.sz+1) b t hz om
theorem Z8h (n:ZF) (t:Int) (qz:Nat) (hn:FN n qz:=by exact ob) (hqz:qz<=100000:=by exact ob):Zp 187 [YG n,.i t] [] (fun r h=>∃(wr:Bool),r=.b wr/\h=[]):=by
 have hnl:=hn.len
 refine ZG 21 Tryz.func187 (ar (iA (X8 n) fun b1=>?_))
 refine Z2 (Y8 (ab 0 (Y6 (fun fz gz m F h=>∃(k:Nat),(k<=n.routines.length)/\F=sF [1,2] fz [(5,.i k)]/\h=gz/\m=n.routines.length-k) _ _ _ ⟨0,ob,rfl,rfl,rfl⟩ (wk [0] (Ye fl)) ?_)))
 rintro m F h ⟨k,Yk,rfl,rfl,rfl⟩
 refine Yp 3 [0] (iw (TW n.routines) (Y2 ((k:Int)<(n.routines.length:Int)) (fun Za=>?_) (fun Za=>?_)))
 ·refine ak (aq (ab 1 (Zs 3 [0] ?_)))
  obtain ⟨x1,Z3⟩:=Zu n.routines k om
  have hbz:=(hn.body _ (Y7 Z3)).2
  refine Zq (Zi none (k:Int) 5 (VS Z3)) (Z0 3 (ic [] (Z7x x1.body t) ?_))
  rintro _ _ ⟨wr1,rfl,rfl⟩
  refine ie (ac wr1 Iff.rfl (fun Zj=>?_) (fun Zj=>?_))
  ·exact ar (Zm (r1 [] ⟨true,rfl,rfl⟩))
  exact ak (az (Z0 1 (ZE k (Z2 (ZH ⟨k+1,ob,rfl,rfl,rfl⟩ (wk [0] (ZJ k fl)))))))
 exact ax 0 (ar (Zm (r1 [] ⟨false,rfl,rfl⟩)))
theorem P7 (fs:LI) (q:Nat) (hl:fs.length<=1000000:=by exact ob) (hq:q<=1000000:=by exact ob):Zp 108 [Z4 fs,.i q] [] (fun r h=>∃(xs:LI),r=Z4 xs/\h=[]/\xs.length<=fs.length/\∀i∈xs,(q:Int)<=i/\i<(q:Int)+fs.length):=by
 refine ZG 26 Tryz.func108 (Y3 (ar (iL (Z6 []) 0 1 fun v1=>?_)))
 refine Z2 (Y8 (ab 0 (Y6 (fun fz gz m F h=>∃(k:Nat) (ys:LI) (u:Value),(k<=fs.length)/\(ys.length<=k)/\(∀i∈ys,(q:Int)<=i/\i<(q:Int)+fs.length)/\F=sF [0,1] fz [(5,ZL ys u),(6,.i k)]/\h=[.tail u 1]/\m=fs.length-k) _ _ _ ⟨0,[],v1,ob,ob,(fun i hi=>by cases hi),rfl,rfl,rfl⟩ (wk [0] (fr (Ye fl))) ?_)))
 rintro m F h ⟨k,ys,u,Yk,Zh,ZB,rfl,rfl,rfl⟩
 refine YP 2 (iw (Yi fs) (Y2 ((k:Int)<(fs.length:Int)) (fun Za=>?_) (fun Za=>?_)))
 ·refine ak (aq (ab 1 (Yj 2 ?_)))
  obtain ⟨x1,Z3⟩:=Zu fs k om
  refine Zq (Zi none (k:Int) 1 (Yb Z3)) (YD (x1 != 0) Ym (fun Zj=>?_) (fun Zj=>?_))
  ·exact az (Z0 3 (ia (((q+k:Nat):Int)) (((q:Int))+((k:Int))) (iL (Z6 [((q+k:Nat):Int)]) 1 1 fun v2=>ZY 0 [(23,Z4 [((q+k:Nat):Int)])] (ip 1 (Z6 (ys++[((q+k:Nat):Int)])) (Z6 ys) (Z6 [((q+k:Nat):Int)]) u none 1 (YH _) (YH _) (W4 _) (by simp<;>omega) (by simp [Wa,Z6]) fun v3=>Z2 (az (Z0 1 (ZE k (Z2 (ZH ⟨k+1,(ys++[((q+k:Nat):Int)]),v3,ob,ob,(XG ZB om),rfl,rfl,rfl⟩ (wk [0] (fr (ZJ k fl))))))))))))
  exact ak (az (Z0 1 (ZE k (Z2 (ZH ⟨k+1,ys,u,ob,ob,ob,rfl,rfl,rfl⟩ (wk [0] (fr (ZJ k fl))))))))
 exact ax 0 (ar (Zm (r2 [] [ZL ys u] ⟨ys,rfl,rfl,⟨by omega,ZB⟩⟩ (Ze.forget _ _))))
theorem P0 (n:ZF) (qz:Nat) (hn:FN n qz:=by exact ob) (hqz:qz<=100000:=by exact ob):Zp 153 [YG n] [] (fun r h=>∃(xs:List LI),r=DV xs/\h=[]/\LC n n.routines.length xs):=by
 have hnl:=hn.len
 refine ZG 31 Tryz.func153 (ar (iA (X8 n) fun b1=>Z2 (ar (iL (Vt []) 0 1 fun v1=>?_))))
 refine Z2 (Y8 (ab 0 (Y6 (fun fz gz m F h=>∃(k:Nat) (ys:List LI) (u:Value),(k<=n.routines.length)/\(ys.length=k)/\(LC n k ys)/\F=sF [1] fz [(3,Mf ys u),(4,.i k)]/\h=[Zg gz 1,.tail u 1]/\m=n.routines.length-k) _ _ _ ⟨0,[],v1,ob,ob,LC.nil,rfl,rfl,rfl⟩ (wk [1,0] (fr (Ye fl))) ?_)))
 rintro m F h ⟨k,ys,u,Yk,Zh,ZB,rfl,rfl,rfl⟩
 refine Yp 3 [0] (iw (TW n.routines) (Y2 ((k:Int)<(n.routines.length:Int)) (fun Za=>?_) (fun Za=>?_)))
 ·refine ak (aq (ab 1 (Zs 2 [0] (ic [] (Z8h n (k:Int) qz) ?_))))
  rintro _ _ ⟨wr1,rfl,rfl⟩
  refine ie (ac wr1 Iff.rfl (fun Zj=>?_) (fun Zj=>?_))
  ·exact az (Z0 1 (iL (Z6 []) 0 1 fun v2=>ZY 0 [(17,Z4 [])] (iL (Vt [[]]) 1 1 fun v3=>ZY 0 [(18,DV [[]])] (ip 3 (Vt (ys++[[]])) (Vt ys) (Vt [[]]) u none 1 (Dx _) (Dx _) (L8 _) (by simp<;>omega) (by simp [L7,Vt]) fun v4=>Z2 (az (Z0 1 (ZE k (Z2 (ZH ⟨k+1,(ys++[[]]),v4,ob,ob,(ZB.snoc (by simp) (fun r hr v hv=>by cases hv)),rfl,rfl,rfl⟩ (wk [3,0] (fr (ZJ k fl))))))))))))
  refine az (ZA 4 [0] ?_)
  obtain ⟨x1,Z3⟩:=Zu n.routines k om
  have hrp:=(FN.ok hn).params_at Z3
  have hss:=(Tt.bd (f:=⟨(x1).params,(x1).result,default⟩) (hn.sigs _ (Y7 Z3))).1
  refine Zq (Zi none (k:Int) 5 (VS Z3)) (Z0 2 (ic [] (P7 x1.params 0) ?_))
  rintro _ _ ⟨xs1,rfl,rfl,Y9⟩
  have hhf:=Y9
  exact iL (Vt [xs1]) 1 1 fun v5=>ZY 0 [(28,DV [xs1])] (ip 2 (Vt (ys++[xs1])) (Vt ys) (Vt [xs1]) u none 1 (Dx _) (Dx _) (L8 _) (by simp<;>omega) (by simp [L7,Vt]) fun v6=>Z2 (az (Z0 1 (ZE k (Z2 (ZH ⟨k+1,(ys++[xs1]),v6,ob,ob,(ZB.snoc om (fun r hr v hv=>by rw [Z3] at hr;cases hr;have:=hhf.2 v hv;omega)),rfl,rfl,rfl⟩ (wk [2,0] (fr (ZJ k fl)))))))))
 exact ax 0 (ar (Zm (r2 [] [Mf ys u] ⟨ys,rfl,rfl,(by rw [show n.routines.length=k by omega];exact ZB)⟩ (Ze.forget _ _))))
theorem Z81 (n:ZF) (b:Z8) (t:Int) (mq:Nat) (hn:Xx n) (hf:fB n.decls n.routines.length mq b) (hz:b.sz<=1000000) (ih:∀(b2:Z8) (t:Int) (m2:Nat),(fB n.decls n.routines.length m2 b2)->(b2.sz<=1000000)->(b2.sz<b.sz)->Zp 188 [YG n,Yo b2,.i t] [] (fun r h=>∃(wr:Bool),r=.b wr/\h=[])):Zp 188 [YG n,Yo b,.i t] [] (fun r h=>∃(wr:Bool),r=.b wr/\h=[]):=by
 have hbl:=Jh b.steps
 have hbe:=b.sz_eq
 refine ZG 68 Tryz.func188 (ar (iA (X8 n) fun b1=>iA (W0 b) fun b2=>Z2 (Xk (V0 [0] (ac (b.result==t) Zf (fun Za=>?_) (fun Za=>?_))))))
 ·exact ar (Zm (r1 [] ⟨true,rfl,rfl⟩))
 refine ak (Y8 (ab 0 (Y6 (fun fz gz m F h=>∃(k:Nat),(k<=b.steps.length)/\F=sF [2,3,4] fz [(7,.i k)]/\h=gz/\m=b.steps.length-k) _ _ _ ⟨0,ob,rfl,rfl,rfl⟩ (wk [0,0] (Ye fl)) ?_)))
 rintro m F h ⟨k,Yk,rfl,rfl,rfl⟩
 refine Yp 3 [0] (iw (UK b.steps) (Y2 ((k:Int)<(b.steps.length:Int)) (fun Zj=>?_) (fun Zj=>?_)))
 ·refine ak (aq (ab 1 (Zs 3 [0] ?_)))
  obtain ⟨x1,Z3⟩:=Zu b.steps k om
  have hfs:=(AX x1).1 (DC ((J1 b).1 hf).1 Z3)
  have hxs:=MQ (Y7 Z3)
  have hxe:=(x1).sz_eq
  have hxk:=K9 x1
  refine Zq (Zi none (k:Int) 5 (Vc Z3)) (Z0 1 (iA [.i 0,.i 0,.i 0,nl,nl] fun b3=>?_))
  refine Zy 0 b3 (Wd x1) (ie (Y8 (ab 2 (Y6 (fun fz gz m F h=>∃(j:Nat),(j<=x1.args.length)/\F=sF [2,3,4,7,8] fz [(9,.i j)]/\h=gz/\m=x1.args.length-j) _ _ _ ⟨0,ob,rfl,rfl,rfl⟩ (Zt 3 (Ye fl)) ?_))))
  rintro m F h ⟨j,Vr,rfl,rfl,rfl⟩
  refine Yp 3 [0] (iw (Yi x1.args) (Y2 ((j:Int)<(x1.args.length:Int)) (fun Zz=>?_) (fun Zz=>?_)))
  ·refine ak (aq (ab 3 (Zs 3 [0] ?_)))
   obtain ⟨x2,Zw⟩:=Zu x1.args j om
   refine Zq (Zi none (j:Int) 1 (Yb Zw)) (X2 12 [2,3,4,7,8,9] [(45,.b ((x2==t)&&Aa x1.op))] (fun gz=>gz) ?_ (fun hj1=>?_))
   ·refine Xu [2,3,4,7,8,9] [(52,.b (((x2==t)&&Aa x1.op)&&(!T2 n x1.op x1.num j)))] (fun gz=>gz) ?_ ?_
    ·refine Z0 1 (ib (b:=((x2==t)&&Aa x1.op)) 46 (fun Zc=>?_) (fun Zc=>?_))
     ·exact ZA 3 [2,0] (Zv [] (FB n x1 j (hnum:=hfs.call)) (Z2 (Zt 3 (Zl (!T2 n x1.op x1.num j) Zc fl))))
     exact Z2 (Zt 3 (Zl false Zc fl))
    refine ac (((x2==t)&&Aa x1.op)&&(!T2 n x1.op x1.num j)) (p:=((x2=t)/\(Aa x1.op=true))/\(¬(T2 n x1.op x1.num j=true))) (Ys (Ys Zf Iff.rfl) (Yd Iff.rfl)) (fun Yg=>?_) (fun Yg=>?_)
    ·exact ar (Zm (r1 [] ⟨true,rfl,rfl⟩))
    exact ak (az (Z0 1 (ZE j (Z2 (ZH ⟨j+1,ob,rfl,rfl,rfl⟩ (Zt 3 (ZJ j fl)))))))
   refine Z0 4 (ib (b:=(x2==t)) 41 (fun ZD=>?_) (fun ZD=>?_))
   ·exact ZA 2 [0] (Zv [] (Z0g x1.op) (Z0 1 (Y1 (Zt 3 (Zl (Aa x1.op) ZD fl)) hj1)))
   exact Z0 4 (Y1 (Zt 3 (Zl false ZD fl)) hj1)
  refine ax 2 (Y3 (ab 4 (Y6 (fun fz gz m F h=>∃(j:Nat),(j<=x1.kids.length)/\F=sF [2,3,4,7,8] fz [(10,.i j)]/\h=gz/\m=x1.kids.length-j) _ _ _ ⟨0,ob,rfl,rfl,rfl⟩ (Zt 3 (Ye fl)) ?_)))
  rintro m F h ⟨j,IF,rfl,rfl,rfl⟩
  refine Yp 3 [0] (iw (Kw x1.kids) (Y2 ((j:Int)<(x1.kids.length:Int)) (fun YL=>?_) (fun YL=>?_)))
  ·refine ak (aq (ab 5 (aD 8 (ZZ 4 8 [0,1,2,3] [2,0] ?_))))
   obtain ⟨x3,YT⟩:=Zu x1.kids j om
   have hkx:=IA (Y7 YT)
   have hfk:=BE hfs.kids YT
   refine dx 4 (Zi none (j:Int) 2 (T0 YT)) (Zo 1 3 [5,6] (Z7 7 (dc 7 [] [] [] (ih x3 t (V1 n.decls x1.op x1.num (mq+Yu (b.steps.take k)) (0+j)) hfk ob ob) ?_)))
   rintro _ _ ⟨wr1,rfl,rfl⟩
   refine de (ac wr1 Iff.rfl (fun X3=>?_) (fun X3=>?_))
   ·exact ar (Zm (r1 [] ⟨true,rfl,rfl⟩))
   exact ak (az (Z0 1 (ZE j (Z2 (ZH ⟨j+1,ob,rfl,rfl,rfl⟩ (Zt 3 (ZJ j fl)))))))
  exact ax 4 (az (Z0 1 (ZE k (Z2 (ZH ⟨k+1,ob,rfl,rfl,rfl⟩ (wk [1,1] (ZJ k fl)))))))
 exact ax 0 (ar (Zm (r1 [] ⟨false,rfl,rfl⟩)))
theorem Z80 (n:ZF) (b:Z8) (t:Int) (mq:Nat) (hn:Xx n:=by exact ob) (hf:fB n.decls n.routines.length mq b:=by exact ob) (hz:b.sz<=1000000:=by exact ob):Zp 188 [YG n,Yo b,.i t] [] (fun r h=>∃(wr:Bool),r=.b wr/\h=[]):=by
 have key:∀k:Nat,∀(b2:Z8) (t:Int) (m2:Nat),(fB n.decls n.routines.length m2 b2)->(b2.sz<=1000000)->(b2.sz<k)->Zp 188 [YG n,Yo b2,.i t] [] (fun r h=>∃(wr:Bool),r=.b wr/\h=[]):=by
  intro k
  induction k with
  | zero=>intro b2 t m2 h1 h2 h3;omega
  | succ k ih=>intro b2 t m2 h1 h2 h3;exact Z81 n b2 t m2 hn h1 h2 fun b3 t3 m3 q1 q2 q3=>ih b3 t3 m3 q1 q2 om
 exact key (b.sz+1) b t mq hf hz om
theorem Z8i (n:ZF) (rt:YF) (i:Nat) (qz:Nat) (hn:FN n qz:=by exact ob) (hqz:qz<=100000:=by exact ob) (hr:n.routines[i]? = some rt:=by exact ob):Zp 154 [YG n,.i i] [] (fun r h=>∃(xs:LI),r=Z4 xs/\h=[]/\xs.length<=rt.lent.length/\∀v∈xs,v∈rt.lent):=by
 have hok:=FN.ok hn
 have hrl:=hn.lent rt (Y7 hr)
 have hrb:=hn.body rt (Y7 hr)
 obtain ⟨hil,_⟩:=Xc.1 hr
 have hnl:=hn.len
 refine ZG 50 Tryz.func154 (ar (iA (X8 n) fun b1=>Z2 (ar (iL (Z6 []) 0 1 fun v1=>?_))))
 refine Z2 (Y8 (ab 0 (Y6 (fun fz gz m F h=>∃(k:Nat) (ys:LI) (u:Value),(k<=rt.lent.length)/\(ys.length<=k)/\(∀v∈ys,v∈rt.lent)/\F=sF [1,2] fz [(5,ZL ys u),(6,.i k)]/\h=[Zg gz 1,.tail u 1]/\m=rt.lent.length-k) _ _ _ ⟨0,[],v1,ob,ob,(fun v hv=>by cases hv),rfl,rfl,rfl⟩ (wk [1,0] (fr (Ye fl))) ?_)))
 rintro m F h ⟨k,ys,u,Yk,Zh,ZB,rfl,rfl,rfl⟩
 refine Yp 4 [0] (Zq (Zi none (i:Int) 5 (VS hr)) (Z0 2 (iw (Yi rt.lent) (Y2 ((k:Int)<(rt.lent.length:Int)) (fun Za=>?_) (fun Za=>?_)))))
 ·refine ak (aq (ab 1 (aD 18 (ZZ 14 18 [0,1,2,3] [0,0] (dx 4 (Zi none (i:Int) 5 (VS hr)) (ZZ 8 13 [5,6,7,8,9] [0] (dx 10 (Zi none (i:Int) 5 (VS hr)) (Zo 4 7 [11,12,13] ?_))))))))
  obtain ⟨x1,Z3⟩:=Zu rt.lent k om
  refine dx 14 (Zi none (k:Int) 1 (Yb Z3)) (Zo 2 3 [15] (Z7 16 (dc 16 [] [] [] (Z80 n rt.body x1 rt.params.length (hn:=hok) (hf:=hrb.1)) ?_)))
  rintro _ _ ⟨wr1,rfl,rfl⟩
  refine Zo 0 1 [17] (de (ac (!wr1) (p:=¬(wr1=true)) (Yd Iff.rfl) (fun Zj=>?_) (fun Zj=>?_)))
  ·exact az (ZA 4 [0] (Zq (Zi none (i:Int) 5 (VS hr)) (Z0 3 (Zq (Zi none (k:Int) 1 (Yb Z3)) (Z0 1 (iL (Z6 [x1]) 1 1 fun v2=>ZY 0 [(47,Z4 [x1])] (ip 2 (Z6 (ys++[x1])) (Z6 ys) (Z6 [x1]) u none 1 (YH _) (YH _) (W4 _) (by simp<;>omega) (by simp [Wa,Z6]) fun v3=>Z2 (az (Z0 1 (ZE k (Z2 (ZH ⟨k+1,(ys++[x1]),v3,ob,ob,(XG ZB (Y7 Z3)),rfl,rfl,rfl⟩ (wk [2,0] (fr (ZJ k fl)))))))))))))))
  exact ak (az (Z0 1 (ZE k (Z2 (ZH ⟨k+1,ys,u,ob,ob,ob,rfl,rfl,rfl⟩ (wk [0,0] (fr (ZJ k fl))))))))
 exact ax 0 (ar (Zm (r2 [] [ZL ys u] ⟨ys,rfl,rfl,⟨by omega,ZB⟩⟩ (Ze.forget _ _))))
theorem Zfh (s:Z5) (ih:∀(b2:Z8),(b2.sz<s.sz)->(b2.sz<=1000000000)->Zp 186 [Yo b2] [] (Yz (Yo b2))) (hz:s.sz<=1000000000):Zp 218 [X5 s] [] (Yz (X5 s)):=by
 have hkz:=K9 s
 have haz:=Jr s
 refine ZG 33 Tryz.func218 (ar (iA (Wd s) fun b1=>iA [.i 0,.i 0,.i 0,nl,nl] fun b2=>ie (ar (iL (XR []) 0 2 fun v1=>?_))))
 refine Z2 (Y8 (ab 0 (Y6 (fun fz gz m F h=>∃(k:Nat) (v:Value),(k<=s.kids.length)/\F=sF [1,2] fz [(3,Qq (s.kids.take k) v),(4,.i k)]/\h=[Zg gz 1,Zg gz 2,.tail v 2]/\m=s.kids.length-k) _ _ _ ⟨0,v1,ob,rfl,rfl,rfl⟩ (wk [1,1,0] (fc (x:=Qq [] v1) (Ze.slh _ (Yq XR rfl)) (Ye fl))) ?_)))
 rintro m F h ⟨k,v,Yk,rfl,rfl,rfl⟩
 refine Yp 3 [1] (iw (Kw s.kids) (Y2 ((k:Int)<(s.kids.length:Int)) (fun Za=>?_) (fun Za=>?_)))
 ·refine ak (aq (ab 1 (az (ZA 4 [1] ?_))))
  obtain ⟨x1,Z3⟩:=Zu s.kids k om
  have hks:=Qo Z3
  exact Zq (Zi none (k:Int) 2 (T0 Z3)) (Z0 1 (Zv [] (ih x1 ob ob) (iL [Yo x1] 1 2 fun v2=>ZY 0 [(20,.sl [Yo x1] none)] (ip 3 (XR (s.kids.take (k+1))) (XR (s.kids.take k)) [Yo x1] v none 2 (KZ _) (KC rfl) rfl (by simp<;>omega) (by rw [V2 Z3];simp [QY]) fun v3=>Z2 (az (Z0 1 (ZE k (Z2 (ZH ⟨k+1,v3,ob,rfl,rfl,rfl⟩ (wk [2,2,0] (fr (ZJ k fl))))))))))))
 refine ax 0 (aD 12 (ZZ 3 12 [0,1,2,3,4,5,6,7,9] [1,1,1,1] (Z7 8 (dc 8 [] [1,1,1] [b1,b1,b1] (WV s.args) ?_))))
 rintro _ _ ⟨v4,rfl,rfl⟩
 exact Zo 1 2 [10] (Z7 11 (X1 11 1 [] [] b2 [.i s.op,.i s.num,.i s.into,ZL s.args v4,Qq (s.kids.take k) v] (de (ZQ (r3 [] [.agg [.i s.op,.i s.num,.i s.into,ZL s.args v4,Qq (s.kids.take k) v]] [0] [(b2,b2)] ⟨rfl,rfl⟩ (Ze.agg (.cons (lr _) (.cons (lr _) (.cons (lr _) (.cons (Ze.forget _ _) (.cons (Ze.sl _ (Yq XR (by rw [Wh om]))) .nil)))))))))))
theorem Zfe (b:Z8) (ih:∀(s2:Z5),(s2.sz<b.sz)->(s2.sz<=1000000000)->Zp 218 [X5 s2] [] (Yz (X5 s2))) (hz:b.sz<=1000000000):Zp 186 [Yo b] [] (Yz (Yo b)):=by
 have hbz:=UH b
 refine ZG 28 Tryz.func186 (ar (iA (W0 b) fun b1=>iA [nl,.i 0] fun b2=>ie (ar (iL (ZV []) 0 5 fun v1=>ZA 3 [2] (iA [nl,.i 0] fun b3=>?_)))))
 refine Zy 0 b3 [Xi [] v1,.i b.result] (ie (Y8 (ab 0 (Y6 (fun fz gz m F h=>∃(k:Nat) (v:Value),(k<=b.steps.length)/\F=sF [1,2,3] fz [(4,.i k)]/\h=[.obj b3 [Xi (b.steps.take k) v,.i b.result],Zg gz 2,Zg gz 3,.tail v 5]/\m=b.steps.length-k) _ _ _ ⟨0,v1,ob,rfl,rfl,rfl⟩ (wk [0,1,1,0] (Ye fl)) ?_))))
 rintro m F h ⟨k,v,Yk,rfl,rfl,rfl⟩
 refine Yp 3 [2] (iw (UK b.steps) (Y2 ((k:Int)<(b.steps.length:Int)) (fun Za=>?_) (fun Za=>?_)))
 ·refine ak (aq (ab 1 (aE 12 (ZZ 7 12 [0,1,2,3,4] [0,2] ?_))))
  obtain ⟨x1,Z3⟩:=Zu b.steps k om
  have hss:=Eh Z3
  exact dx 5 (Zi none (k:Int) 5 (Vc Z3)) (Zo 5 6 [6] (Z7 7 (YE 7 [] [0] [b3] (ih x1 ob ob) (Z7 8 (dL 8 [0] [b3] [X5 x1] 1 5 fun v2=>Yx 3 3 [] [(24,.sl [X5 x1] none)] (Z7 9 (dp 9 4 [] [] (ZV (b.steps.take (k+1))) (ZV (b.steps.take k)) [X5 x1] v none 5 (XH _) (KC rfl) rfl (by simp<;>omega) (by rw [V2 Z3];simp [Uc]) fun v3=>Zo 1 2 [10] (Z7 11 (X1 11 2 [] [] b3 [Xi (b.steps.take (k+1)) v3,.i b.result] (de (az (Z0 1 (ZE k (Z2 (ZH ⟨k+1,v3,ob,rfl,rfl,rfl⟩ (wk [0,2,2,0] (ZJ k fl)))))))))))))))))
 exact ax 0 (Zs 1 [0] (Zy 1 b2 [Xi (b.steps.take k) v,.i b.result] (ie (ZQ (r3 [] [.agg [Xi (b.steps.take k) v,.i b.result]] [0] [(b2,b2)] ⟨rfl,rfl⟩ (Ze.agg (.cons (Ze.sl _ (Yq ZV (by rw [Wh om]))) (.cons (lr _) .nil))))))))
theorem Z0h (k:Nat):(∀(s:Z5),(s.sz<=k)->(s.sz<=1000000000)->Zp 218 [X5 s] [] (Yz (X5 s)))/\(∀(b:Z8),(b.sz<=k)->(b.sz<=1000000000)->Zp 186 [Yo b] [] (Yz (Yo b))):=by
 induction k with
 | zero=>exact ⟨fun s h=>by have:=s.sz_pos;omega,fun s h=>by have:=s.sz_pos;omega⟩
 | succ k ih=>exact ⟨fun s h hz=>Zfh s (fun b2 h2 h3=>ih.2 b2 om h3) hz,fun b h hz=>Zfe b (fun s2 h2 h3=>ih.1 s2 om h3) hz⟩
theorem Zfg (s:Z5) (hz:s.sz<=1000000000:=by exact ob):Zp 218 [X5 s] [] (Yz (X5 s)):=(Z0h s.sz).1 s (X9 _) hz
theorem Zfd (b:Z8) (hz:b.sz<=1000000000:=by exact ob):Zp 186 [Yo b] [] (Yz (Yo b)):=(Z0h b.sz).2 b (X9 _) hz
theorem GJ (n:ZF) (ls:List LI) (qz:Nat) (hn:FO n qz WQ:=by exact ob) (hqz:qz<=100000:=by exact ob) (hls:LC n n.routines.length ls:=by exact ob):Zp 152 [YG n,DV ls] [] (fun r h=>∃(n2:ZF),r=YG n2/\h=[]/\FO n2 qz WQ/\n2.routines.length=n.routines.length):=by
 have hnl:=hn.fn.len
 have Xn:=hn.fn.decls.ok
 have hll:=hls.len
 refine ZG 45 Tryz.func152 (ar (iA (X8 n) fun b1=>iA [nl,nl] fun b2=>ie (Zs 2 [1] (Zv [] (Bf n.decls) (iL (Xa []) 0 5 fun v1=>Z0 1 (iA [nl,nl] fun b3=>?_))))))
 refine Zy 0 b3 [Y5 n.decls,WT [] v1] (ie (Y8 (ab 0 (Y6 (fun fz gz m F h=>∃(k:Nat) (rs:List YF) (u:Value),(k<=n.routines.length)/\(rs.length=k)/\(∀r∈rs,RF n.decls n.routines.length qz WQ r)/\F=sF [1,2,4,5] fz [(6,.i k)]/\h=[.obj b3 [Y5 n.decls,WT rs u],Zg gz 2,Zg gz 3,.tail u 5]/\m=n.routines.length-k) _ _ _ ⟨0,[],v1,ob,ob,(fun r hr=>by cases hr),rfl,rfl,rfl⟩ (wk [0,1,1,0] (Ye fl)) ?_))))
 rintro m F h ⟨k,rs,u,Yk,Zh,ZB,rfl,rfl,rfl⟩
 refine Yp 3 [2] (iw (TW n.routines) (Y2 ((k:Int)<(n.routines.length:Int)) (fun Za=>?_) (fun Za=>?_)))
 ·refine ak (aq (ab 1 (Zs 3 [2] ?_)))
  obtain ⟨x1,Z3⟩:=Zu n.routines k om
  have hrf:=hn.rf (Y7 Z3)
  have hrp:=hn.fn.ok.params_at Z3
  have hrz:=hrf.body.2
  refine Zq (Zi none (k:Int) 5 (VS Z3)) (Z0 1 (iA [nl,nl,.i 0,nl,.i 0] fun b4=>Zy 0 b4 (JG x1) (ie (aE 20 (ZZ 14 20 [0,1,2,3,5,6] [1,0] ?_)))))
  obtain ⟨x2,Zw⟩:=Zu ls k om
  have hlc:=hls.at Zw Z3
  refine dx 7 (Zi none (k:Int) 1 (Z5k Zw)) (ZZ 8 13 [8,10,11,12,13] [0,0] (Z7 4 (dc 4 [] [0,0,1] [b4,b4,b3] (WV x1.params) ?_)))
  rintro _ _ ⟨v2,rfl,rfl⟩
  refine Z7 9 (dc 9 [] [0,0,1] [b4,b4,b3] (WV x2) ?_)
  rintro _ _ ⟨v3,rfl,rfl⟩
  exact Z7 14 (YE 14 [] [0,1] [b4,b3] (Zfd x1.body) (Yx 4 5 [15] [(40,.agg [Z4 x1.params,Z4 x2,.i x1.result,Vx x1.body.steps,.i x1.body.result])] (Z7 16 (dL 16 [1] [b3] (Xa [YF.mk x1.params x2 x1.result (Z8.mk x1.body.steps x1.body.result)]) 1 5 fun v4=>Yx 3 3 [] [(41,JL [YF.mk x1.params x2 x1.result (Z8.mk x1.body.steps x1.body.result)])] (Z7 17 (dp 17 7 [] [] (Xa (rs++[YF.mk x1.params x2 x1.result (Z8.mk x1.body.steps x1.body.result)])) (Xa rs) (Xa [YF.mk x1.params x2 x1.result (Z8.mk x1.body.steps x1.body.result)]) u none 5 (Tc _) (Tc _) (BC _) (by simp<;>omega) (by simp [Dy,Xa]) fun v5=>Zo 1 2 [18] (Z7 19 (X1 19 5 [] [] b3 [Y5 n.decls,WT (rs++[YF.mk x1.params x2 x1.result (Z8.mk x1.body.steps x1.body.result)]) v5] (de (az (Z0 1 (ZE k (Z2 (ZH ⟨k+1,(rs++[YF.mk x1.params x2 x1.result (Z8.mk x1.body.steps x1.body.result)]),v5,ob,ob,(XG ZB (by rw [Z8.eta];exact hrf.lend hlc.1 hlc.2)),rfl,rfl,rfl⟩ (wk [0,5,5,0] (ZJ k fl))))))))))))))))
 exact ax 0 (Zs 1 [0] (Zy 1 b2 [Y5 n.decls,WT rs u] (ie (ZQ (r3 [] [.agg [Y5 n.decls,WT rs u]] [0] [(b2,b2)] ⟨(ZF.mk n.decls rs),rfl,rfl,(FO.fin hn.fn om ZB)⟩ (Ze.agg (.cons (lr _) (.cons (Ze.forget _ _) .nil))))))))
theorem Z8q (n:ZF) (qz:Nat) (hn:FO n qz WQ:=by exact ob) (hqz:qz<=100000:=by exact ob):Zp 138 [YG n] [] (fun r h=>∃(n2:ZF),r=YG n2/\h=[]/\FO n2 qz WQ):=by
 refine ZG 33 Tryz.func138 (ar (iA (X8 n) fun b1=>iA [nl,nl] fun b2=>?_))
 refine ie (aD 6 (ZZ 4 6 [0,1] [1,1] (Bz (fun fz gz F h=>∃(n21:ZF) (b3:Nat) (xs1:List LI),(LC n n.routines.length xs1)/\(FO n21 qz WQ/\n21.routines.length=n.routines.length)/\F=sF [2] fz [(3,.p b3 0)]/\h=[.obj b3 (X8 n21),Zg gz 0,Zg gz 1]) ?_ ?_)))
 ·refine Ut 2 4 ?_ ?_
  ·refine dc 2 [] [1] [b1] (P0 n qz (hn:=hn.fn)) ?_
   rintro _ _ ⟨xs1,rfl,rfl,Y9⟩
   refine Ut 3 4 ?_ ?_
   ·refine dc 3 [] [] [] (GJ n xs1 qz (hls:=(by first|assumption|(rw [<-hjl];exact Xs)))) ?_
    rintro _ _ ⟨n21,rfl,rfl,Yt⟩
    have hwl:=Yt
    exact Z7 4 (dA 4 [] [] [nl,nl] fun b3=>Z7 5 (X1 5 0 [] [] b3 (X8 n21) (de (ZI ⟨_,b3,_,(by assumption),(by assumption),rfl,rfl⟩ (Zt 3 fl)))))
   refine dA 4 [1] [b1] [nl,nl] fun b4=>Z7 3 (dc 3 [] [] [] (GJ n xs1 qz (hls:=(by first|assumption|(rw [<-hjl];exact Xs)))) ?_)
   rintro _ _ ⟨n22,rfl,rfl,YS⟩
   have hwl:=YS
   exact Z7 5 (X1 5 0 [] [] b4 (X8 n22) (de (ZI ⟨_,b4,_,(by assumption),(by assumption),rfl,rfl⟩ (Zt 3 fl))))
  refine dA 4 [1,1] [b1,b1] [nl,nl] fun b5=>Z7 2 (dc 2 [] [2] [b1] (P0 n qz (hn:=hn.fn)) ?_)
  rintro _ _ ⟨xs2,rfl,rfl,YX⟩
  refine Z7 3 (dc 3 [] [] [] (GJ n xs2 qz (hls:=(by first|assumption|(rw [<-hjl];exact Xs)))) ?_)
  rintro _ _ ⟨n23,rfl,rfl,Xe⟩
  have hwl:=Xe
  exact Z7 5 (X1 5 0 [] [] b5 (X8 n23) (de (ZI ⟨_,b5,_,(by assumption),(by assumption),rfl,rfl⟩ (Zt 3 fl))))
 rintro F h ⟨n21,b3,xs1,Y9,Yt,rfl,rfl⟩
 have hwl:=Yt
 refine Y8 (ab 0 (Y6 (fun fz gz m F h=>∃(k:Nat) (nn:ZF),(k<=13)/\(FO nn qz WQ)/\F=sF [2,3] fz [(4,.i k)]/\h=[.obj b3 (X8 nn),Zg gz 1]/\m=13-k) _ _ _ ⟨0,n21,ob,hwl.1,rfl,rfl,rfl⟩ (wk [0,0] (Ye fl)) ?_))
 rintro m F h ⟨k,nn,Yk,Zh,rfl,rfl,rfl⟩
 refine Xk (Y2 ((k:Int)<=12) (fun Za=>?_) (fun Za=>?_))
 ·refine ak (aq (ab 1 (ar (iL (Vt []) 0 1 fun v1=>?_))))
  refine Z2 (Y8 (ab 2 (Y6 (fun fz gz m F h=>∃(j:Nat) (ls:List LI) (u:Value),(j<=nn.routines.length)/\(LC nn j ls)/\(ls.length=j)/\F=sF [2,3,4] fz [(5,Mf ls u),(6,.i j)]/\h=[Zg gz 1,Zg gz 2,.tail u 1]/\m=nn.routines.length-j) _ _ _ ⟨0,[],v1,ob,LC.nil,ob,rfl,rfl,rfl⟩ (wk [1,1,0] (fr (Ye fl))) ?_)))
  rintro m F h ⟨j,ls,u,Vr,Xs,XU,rfl,rfl,rfl⟩
  refine Yp 3 [0] (iw (TW nn.routines) (Y2 ((j:Int)<(nn.routines.length:Int)) (fun Zj=>?_) (fun Zj=>?_)))
  ·obtain ⟨rt,hrt⟩:=Zu nn.routines j om
   have hrl:=(Zh.rf (Y7 hrt)).lent
   have hnl4:=Zh.fn.len
   refine ak (aq (ab 3 (az (ZA 3 [0] (ic [] (Z8i nn rt j qz (hn:=Zh.fn) (hr:=hrt)) ?_)))))
   rintro _ _ ⟨xs3,rfl,rfl,XP⟩
   have hkl:=XP
   exact iL (Vt [xs3]) 1 1 fun v2=>ZY 0 [(27,DV [xs3])] (ip 3 (Vt (ls++[xs3])) (Vt ls) (Vt [xs3]) u none 1 (Dx _) (Dx _) (L8 _) (by simp<;>omega) (by simp [L7,Vt]) fun v3=>Z2 (az (Z0 1 (ZE j (Z2 (ZH ⟨j+1,(ls++[xs3]),v3,ob,(Xs.snoc om (fun r hr v hv=>by rw [hrt] at hr;cases hr;exact hrl.2 v (hkl.2 v hv))),ob,rfl,rfl,rfl⟩ (wk [2,2,0] (fr (ZJ j fl)))))))))
  have hjl:j=nn.routines.length:=by omega
  refine ax 2 (az (Kj 2 [(30,DV ls)] [0] (ic [] (GJ nn ls qz (hls:=(by first|assumption|(rw [<-hjl];exact Xs)))) ?_)))
  rintro _ _ ⟨n24,rfl,rfl,Wf⟩
  have hwl:=Wf
  exact Zy 0 b3 (X8 n24) (ie (az (Z0 1 (ZE k (Z2 (ZH ⟨k+1,n24,ob,hwl.1,rfl,rfl,rfl⟩ (wk [0,0] (ZJ k fl))))))))
 exact ax 0 (Zs 1 [0] (Zy 1 b2 (X8 nn) (ie (ZQ (r3 [] [YG nn] [0] [(b2,b2)] ⟨nn,rfl,rfl,(by first|exact Zh|exact hwl.1)⟩ (lr _))))))
theorem EJ (xs:LI) (y:Int) (hl:xs.length<=1000000000:=by exact ob):Zp 50 [Z4 xs,.i y] [] (fun r h=>∃(v:Value),r=ZL (Um xs y) v/\h=[.tail v 1]):=by
 refine ZG 49 Tryz.func50 (Y3 (ar (iL (Z6 []) 0 1 fun v1=>?_)))
 refine Z2 (Y3 (Y8 (ab 0 (Y6 (fun fz gz m F h=>∃(k:Nat) (acc:LI) (d:Bool) (v:Value),(k<=xs.length)/\(acc.length<=k+(if d=true then 1 else 0))/\(acc++Qm d (xs.drop k) y=Um xs y)/\F=sF [0,1] fz [(5,ZL acc v),(6,.b d),(7,.i k)]/\h=[.tail v 1]/\m=xs.length-k) _ _ _ ⟨0,[],false,v1,ob,(by simp),rfl,rfl,rfl,rfl⟩ (wk [0] (fw (Ye fl))) ?_))))
 rintro m F h ⟨k,acc,d,v,Yk,Zh,ZB,rfl,rfl,rfl⟩
 refine YP 2 (iw (Yi xs) (Y2 ((k:Int)<(xs.length:Int)) (fun Za=>?_) (fun Za=>?_)))
 ·obtain ⟨x1,Z3⟩:=Zu xs k om
  have hil:acc.length<=k+1:=V9 Zh (by split<;>omega)
  refine ak (aq (ab 1 (Xk (Xu [0,1,5,6,7] [(24,.b ((!d)&&(decide (x1>=y))))] (fun gz=>gz) ?_ ?_))))
  ·refine Z0 3 (ib (b:=(!d)) 17 (fun Zc=>?_) (fun Zc=>?_))
   ·exact Z0 2 (Zq (Zi none (k:Int) 1 (Yb Z3)) (Z2 (wk [0] (Zl (decide (x1>=y)) Zc fl))))
   exact Z2 (wk [0] (Zl false Zc fl))
  refine XC (fun fz gz F h=>∃(acc2:LI) (d2:Bool) (w:Value),((acc2=acc/\d2=d/\(d=true∨¬x1>=y))∨(acc2=acc++[y]/\d2=true/\¬d=true/\x1>y)∨(acc2=acc/\d2=true/\¬d=true/\x1=y))/\(acc2.length<=k+(if d2=true then 1 else 0))/\(acc2.length<=k+1)/\F=sF [0,1,7] fz [(5,ZL acc2 w),(6,.b d2)]/\h=[.tail w 1]) ?_ ?_
  ·refine ac ((!d)&&(decide (x1>=y))) (p:=(¬(d=true))/\(x1>=y)) (Ys (Yd Iff.rfl) dq) (fun Zj=>?_) (fun Zj=>?_)
   ·refine YP 2 (Zq (Zi none (k:Int) 1 (Yb Z3)) (Z2 (XC (fun fz gz F h=>∃(w3:Value),F=sF [0,1,7] fz [(5,ZL (if x1>y then (acc++[y]) else acc) w3)]/\h=[.tail w3 1]) ?_ ?_)))
    ·refine Vh (x1>y) (fun Zz=>?_) (fun Zz=>?_)
     ·exact az (Z0 2 (iL (Z6 [y]) 1 1 fun v2=>ZY 0 [(33,Z4 [y])] (ip 1 (Z6 (acc++[y])) (Z6 acc) (Z6 [y]) v none 1 (YH _) (YH _) (W4 _) (by simp<;>omega) (by simp [Wa,Z6]) fun v3=>Z2 (ZI ⟨v3,rfl,rfl⟩ (wk [0] (fc (x:=ZL (acc++[y]) v3) (Ze.slh _ (Yq Z6 (by first|rfl|(rw [Zk Zz])|(rw [Zb Zz])|(simp [Zz];done)|(rw [Yc];simp [Zz];done)|omega))) fl))))))
     exact ak (ZI ⟨v,rfl,rfl⟩ (wk [0] (fc (x:=ZL acc v) (Ze.slh _ (Yq Z6 (by first|rfl|(rw [Zk Zz])|(rw [Zb Zz])|(simp [Zz];done)|(rw [Yc];simp [Zz];done)|omega))) fl)))
    rintro F h ⟨w3,rfl,rfl⟩
    exact VC (ZI ⟨(if x1>y then (acc++[y]) else acc),true,w3,(if h:x1>y then (by rw [Zk h];exact .inr (.inl ⟨rfl,rfl,Zj.1,h⟩)) else (by rw [Zb h];exact .inr (.inr ⟨rfl,rfl,Zj.1,by have:=Zj.2;omega⟩))),(by have h1:=Zh;rw [Zb Zj.1] at h1;split<;>(simp<;>omega)),(by have h1:=Zh;rw [Zb Zj.1] at h1;split<;>(simp<;>omega)),rfl,rfl⟩ (wk [0] fl))
   exact ak (ZI ⟨acc,d,v,(.inl ⟨rfl,rfl,by by_cases q:d=true;exact .inl q;exact .inr (fun z=>Zj ⟨q,z⟩)⟩),Zh,hil,rfl,rfl⟩ (wk [0] fl))
  rintro F h ⟨acc2,d2,w,VM,B8,LS,rfl,rfl⟩
  exact az (Z0 3 (Zq (Zi none (k:Int) 1 (Yb Z3)) (Z0 1 (iL (Z6 [x1]) 1 1 fun v4=>ZY 0 [(40,Z4 [x1])] (ip 1 (Z6 (acc2++[x1])) (Z6 acc2) (Z6 [x1]) w none 1 (YH _) (YH _) (W4 _) (by simp<;>omega) (by simp [Wa,Z6]) fun v5=>Z2 (az (Z0 1 (ZE k (Z2 (ZH ⟨k+1,(acc2++[x1]),d2,v5,ob,(by simp only [Yr,YA,X6];omega),(Zak Z3 ZB VM),rfl,rfl,rfl⟩ (wk [0] (fw (ZJ k fl)))))))))))))
 have hil:acc.length<=k+1:=V9 Zh (by split<;>omega)
 refine ax 0 (Y8 (XC (fun fz gz F h=>∃(w4:Value),F=sF [] fz [(5,ZL (if d=true then acc else (acc++[y])) w4)]/\h=[.tail w4 1]) ?_ ?_))
 ·refine ac (!d) (p:=¬(d=true)) (Yd Iff.rfl) (fun Yg=>?_) (fun Yg=>?_)
  ·exact az (Z0 2 (iL (Z6 [y]) 1 1 fun v6=>ZY 0 [(46,Z4 [y])] (ip 1 (Z6 (acc++[y])) (Z6 acc) (Z6 [y]) v none 1 (YH _) (YH _) (W4 _) (by simp<;>omega) (by simp [Wa,Z6]) fun v7=>Z2 (ZI ⟨v7,rfl,rfl⟩ (wk [0] (fc (x:=ZL (acc++[y]) v7) (Ze.slh _ (Yq Z6 (by first|rfl|(rw [Zk Yg])|(rw [Zb Yg])|(simp [Yg];done)|(rw [Yc];simp [Yg];done)|omega))) fl))))))
  exact ak (ZI ⟨v,rfl,rfl⟩ (wk [0] (fc (x:=ZL acc v) (Ze.slh _ (Yq Z6 (by first|rfl|(rw [Zk Yg])|(rw [Zb Yg])|(simp [Yg];done)|(rw [Yc];simp [Yg];done)|omega))) fl)))
 rintro F h ⟨w4,rfl,rfl⟩
 exact ar (Zm (r2 [0] [ZL (if d=true then acc else (acc++[y])) w4] ⟨w4,rfl,rfl⟩ (Ze.slh _ (Yq Z6 (Zaj om ZB)))))
theorem Pg (xs:LI) (y:Int) (hl:xs.length<=1000000000:=by exact ob):Zp 195 [Z4 xs,.i y] [] (fun r h=>∃(v:Value),r=ZL (Q0 xs y) v/\h=[.tail v 1]):=by
 refine ZG 28 Tryz.func195 (Y3 (ar (iL (Z6 []) 0 1 fun v1=>?_)))
 refine Z2 (Y8 (ab 0 (Y6 (fun fz gz m F h=>∃(k:Nat) (acc:LI) (v:Value),(k<=xs.length)/\(acc.length<=k)/\(acc++Q0 (xs.drop k) y=Q0 xs y)/\F=sF [0,1] fz [(5,ZL acc v),(6,.i k)]/\h=[.tail v 1]/\m=xs.length-k) _ _ _ ⟨0,[],v1,ob,ob,rfl,rfl,rfl,rfl⟩ (wk [0] (fr (Ye fl))) ?_)))
 rintro m F h ⟨k,acc,v,Yk,Zh,ZB,rfl,rfl,rfl⟩
 refine YP 2 (iw (Yi xs) (Y2 ((k:Int)<(xs.length:Int)) (fun Za=>?_) (fun Za=>?_)))
 ·refine ak (aq (ab 1 (Yj 2 ?_)))
  obtain ⟨x1,Z3⟩:=Zu xs k om
  refine Zq (Zi none (k:Int) 1 (Yb Z3)) (Z2 (Ab (fun fz gz F h=>∃(w:Value),F=sF [0,1,6] fz [(5,ZL (if x1≠y then (acc++[x1]) else acc) w)]/\h=[.tail w 1]) (fun _ _=>rfl) ?_ ?_))
  ·refine ac (x1 != y) Ym (fun Zj=>?_) (fun Zj=>?_)
   ·exact az (Z0 3 (Zq (Zi none (k:Int) 1 (Yb Z3)) (Z0 1 (iL (Z6 [x1]) 1 1 fun v2=>ZY 0 [(25,Z4 [x1])] (ip 1 (Z6 (acc++[x1])) (Z6 acc) (Z6 [x1]) v none 1 (YH _) (YH _) (W4 _) (by simp<;>omega) (by simp [Wa,Z6]) fun v3=>Z2 (ZI ⟨v3,rfl,rfl⟩ (wk [0] (fc (x:=ZL (acc++[x1]) v3) (Ze.slh _ (Yq Z6 (by first|rfl|(rw [Zk Zj])|(rw [Zb Zj])|(simp [Zj];done)|(rw [Yc];simp [Zj];done)|omega))) fl))))))))
   exact ak (ZI ⟨v,rfl,rfl⟩ (wk [0] (fc (x:=ZL acc v) (Ze.slh _ (Yq Z6 (by first|rfl|(rw [Zk Zj])|(rw [Zb Zj])|(simp [Zj];done)|(rw [Yc];simp [Zj];done)|omega))) fl)))
  rintro F h ⟨w,rfl,rfl⟩
  exact az (Z0 1 (ZE k (Z2 (ZH ⟨k+1,(if x1≠y then (acc++[x1]) else acc),w,ob,(by split<;>(try simp)<;>omega),(Zd2 Z3 ZB),rfl,rfl,rfl⟩ (wk [0] (fr (ZJ k fl)))))))
 exact ax 0 (ar (Zm (r2 [0] [ZL acc v] ⟨v,rfl,rfl⟩ (Ze.slh _ (Yq Z6 (Zd1 om ZB))))))
theorem Zf7 (s:Z5) (q:Int) (xs:LI) (ih:∀(b2:Z8) (q:Int) (k2:Nat) (xs2:LI),(b2.sz<s.sz)->(k2<=b2.steps.length)->(xs2.length+b2.sz<=1000000000)->Zp 189 [Yo b2,.i q,.i k2,Z4 xs2] [] (Yz (Z4 (UW q (T4 q (b2.steps.drop k2) xs2) b2.result)))) (hz:xs.length+s.sz<=1000000000):Zp 221 [X5 s,.i q,Z4 xs] [] (Yz (Z4 (JP q s xs))):=by
 have hkz:=K9 s
 have haz:=Jr s
 have hse:=s.sz_eq
 refine ZG 58 Tryz.func221 (ar (iA (Wd s) fun b1=>Z2 (Yp 2 [0] (Zv [] (Z0i s.op) (ie (ac (YO s.op) Iff.rfl (fun Za=>?_) (fun Za=>?_)))))))
 ·exact ar (Zm (ZW (Z4 xs) (Ze.sl _ (Yq Z6 (by rw [Z1t,Zk (by assumption)])))))
 refine ak (Y8 (ab 0 (Y6 (fun fz gz m F h=>∃(j:Nat) (ys:LI),(j<=s.args.length)/\(ys.length<=xs.length+j)/\(QO q (s.args.drop j) ys=QO q s.args xs)/\F=sF [1,3] fz [(2,Z4 ys),(7,.i j)]/\h=gz/\m=s.args.length-j) _ _ _ ⟨0,xs,ob,ob,rfl,rfl,rfl,rfl⟩ (wk [0] (fr (Ye fl))) ?_)))
 rintro m F h ⟨j,ys,Yk,Zh,ZB,rfl,rfl,rfl⟩
 refine Yp 3 [0] (iw (Yi s.args) (Y2 ((j:Int)<(s.args.length:Int)) (fun Zj=>?_) (fun Zj=>?_)))
 ·refine ak (aq (ab 1 (Zs 3 [0] ?_)))
  obtain ⟨x1,Z3⟩:=Zu s.args j om
  refine Zq (Zi none (j:Int) 1 (Yb Z3)) (Xu [1,2,3,7] [(34,.b ((decide (x1>=0))&&(decide (x1<q))))] (fun gz=>gz) ?_ ?_)
  ·refine Z0 3 (ib (b:=(decide (x1>=0))) 26 (fun Zc=>?_) (fun Zc=>?_))
   ·exact ZA 3 [0] (Zq (Zi none (j:Int) 1 (Yb Z3)) (Z2 (wk [0] (Zl (decide (x1<q)) Zc fl))))
   exact Z2 (wk [0] (Zl false Zc fl))
  refine Ab (fun fz gz F h=>F=sF [1,3,7] fz [(2,Z4 (UW q ys x1))]/\h=gz) (fun _ _=>rfl) ?_ ?_
  ·refine ac ((decide (x1>=0))&&(decide (x1<q))) (p:=(x1>=0)/\(x1<q)) (Ys dq dq) (fun Zz=>?_) (fun Zz=>?_)
   ·refine az (ZA 4 [0] (Zq (Zi none (j:Int) 1 (Yb Z3)) (Z0 1 (ic [] (EJ ys x1) ?_))))
    rintro _ _ ⟨v1,rfl,rfl⟩
    exact Z2 (ZI ⟨rfl,rfl⟩ (wk [1] (fc (x:=ZL (Um ys x1) v1) (Ze.sl _ (Yq Z6 (by rw [UW,Zk (by assumption)]))) fl)))
   exact ak (ZI ⟨rfl,rfl⟩ (wk [0] (fc (x:=Z4 ys) (Ze.sl _ (Yq Z6 (by rw [UW,Zb (by assumption)]))) fl)))
  rintro F h ⟨rfl,rfl⟩
  exact az (Z0 1 (ZE j (Z2 (ZH ⟨j+1,(UW q ys x1),ob,(by have:=I7 (n:=q) ys x1;omega),(Zhn Z3 ZB),rfl,rfl,rfl⟩ (wk [0] (fr (ZJ j fl)))))))
 have hA:QO q s.args xs=ys:=(Zhm om ZB).symm
 refine ax 0 (Y8 (ab 2 (Y6 (fun fz gz m F h=>∃(j:Nat) (zs:LI),(j<=s.kids.length)/\(zs.length<=xs.length+s.args.length+YV (s.kids.take j))/\(Ji q (s.kids.drop j) zs=Ji q s.kids (QO q s.args xs))/\F=sF [1,3] fz [(2,Z4 zs),(8,.i j)]/\h=gz/\m=s.kids.length-j) _ _ _ ⟨0,ys,ob,(by rw [List.take_zero,YV];omega),(by rw [hA];rfl),rfl,rfl,rfl⟩ (wk [0] (fr (Ye fl))) ?_)))
 rintro m F h ⟨j,zs,Vr,Xs,XU,rfl,rfl,rfl⟩
 refine Yp 3 [0] (iw (Kw s.kids) (Y2 ((j:Int)<(s.kids.length:Int)) (fun Yg=>?_) (fun Yg=>?_)))
 ·refine ak (aq (ab 3 (az (ZA 3 [0] ?_))))
  obtain ⟨x2,Zw⟩:=Zu s.kids j om
  have hks:=Qo Zw
  have hbt:=Gd Zw
  have hbx:=Gc Zw
  have hul:=I6 (n:=q) x2 zs
  exact Zq (Zi none (j:Int) 2 (T0 Zw)) (Z0 3 (Zv [] (ih x2 q 0 zs ob ob ob) (Z2 (az (Z0 1 (ZE j (Z2 (ZH ⟨j+1,(T3 q x2 zs),ob,om,(Zhp Zw XU),rfl,rfl,rfl⟩ (wk [0] (fc (x:=Z4 (UW q (T4 q (x2.steps.drop 0) zs) x2.result)) (Ze.sl _ (Yq Z6 (by rw [Z1r];rfl))) (ZJ j fl)))))))))))
 exact ax 2 (ar (Zm (ZW (Z4 zs) (Ze.sl _ (Yq Z6 (by rw [Z1t,Zb (by assumption)];exact (Zho om XU)))))))
theorem Zf8 (b:Z8) (q:Int) (k0:Nat) (xs:LI) (ih:∀(s2:Z5) (q:Int) (xs2:LI),(s2.sz<b.sz)->(xs2.length+s2.sz<=1000000000)->Zp 221 [X5 s2,.i q,Z4 xs2] [] (Yz (Z4 (JP q s2 xs2)))) (hk:k0<=b.steps.length) (hz:xs.length+b.sz<=1000000000):Zp 189 [Yo b,.i q,.i k0,Z4 xs] [] (Yz (Z4 (UW q (T4 q (b.steps.drop k0) xs) b.result))):=by
 have hbz:=UH b
 have hbe:=b.sz_eq
 have hsd:=Z0y b.steps k0
 refine ZG 40 Tryz.func189 (ar (iA (W0 b) fun b1=>?_))
 refine Z2 (Y8 (ab 0 (Y6 (fun fz gz m F h=>∃(k:Nat) (ys:LI),(k<=b.steps.length)/\(ys.length+Yw (b.steps.drop k)<=xs.length+Yw (b.steps.drop k0))/\(T4 q (b.steps.drop k) ys=T4 q (b.steps.drop k0) xs)/\F=sF [1,4] fz [(3,Z4 ys),(9,.i k)]/\h=gz/\m=b.steps.length-k) _ _ _ ⟨k0,xs,ob,(X9 _),rfl,rfl,rfl,rfl⟩ (wk [0] fl) ?_)))
 rintro m F h ⟨k,ys,Yk,Zh,ZB,rfl,rfl,rfl⟩
 refine Yp 3 [0] (iw (UK b.steps) (Y2 ((k:Int)<(b.steps.length:Int)) (fun Za=>?_) (fun Za=>?_)))
 ·refine ak (aq (ab 1 (az (ZA 3 [0] ?_))))
  obtain ⟨x1,Z3⟩:=Zu b.steps k om
  have hss:=Eh Z3
  have hsd1:=Z0x Z3
  have hul:=Z1u (n:=q) x1 ys
  exact Zq (Zi none (k:Int) 5 (Vc Z3)) (Z0 3 (Zv [] (ih x1 q ys ob ob) (Z2 (az (Z0 1 (ZE k (Z2 (ZH ⟨k+1,(JP q x1 ys),ob,ob,(Zhr Z3 ZB),rfl,rfl,rfl⟩ (wk [0] (fr (ZJ k fl)))))))))))
 refine ax 0 (Xk (Xu [3,4] [(34,.b ((decide (b.result>=0))&&(decide (b.result<q))))] (fun gz=>gz) ?_ ?_))
 ·refine ZA 4 [0] (ib (b:=(decide (b.result>=0))) 29 (fun Zc=>?_) (fun Zc=>?_))
  ·exact V0 [0] (wk [0] (Zl (decide (b.result<q)) Zc fl))
  exact Z2 (wk [0] (Zl false Zc fl))
 refine XC (fun fz gz F h=>F=sF [] fz [(3,Z4 (UW q ys b.result))]/\h=[]) ?_ ?_
 ·refine ac ((decide (b.result>=0))&&(decide (b.result<q))) (p:=(b.result>=0)/\(b.result<q)) (Ys dq dq) (fun Zj=>?_) (fun Zj=>?_)
  ·refine az (ZA 3 [0] (ic [] (EJ ys b.result) ?_))
   rintro _ _ ⟨v1,rfl,rfl⟩
   exact Z2 (ZI ⟨rfl,rfl⟩ (wk [] (fc (x:=ZL (Um ys b.result) v1) (Ze.sl _ (Yq Z6 (by rw [UW,Zk (by assumption)]))) fl)))
  exact ak (ZI ⟨rfl,rfl⟩ (wk [] (fc (x:=Z4 ys) (Ze.sl _ (Yq Z6 (by rw [UW,Zb (by assumption)]))) fl)))
 rintro F h ⟨rfl,rfl⟩
 exact ar (Zm (ZW (Z4 (UW q ys b.result)) (Ze.sl _ (Yq Z6 (by rw [Zhq om ZB])))))
theorem Zg9 (k:Nat):(∀(s:Z5) (q:Int) (xs:LI),(s.sz<=k)->(xs.length+s.sz<=1000000000)->Zp 221 [X5 s,.i q,Z4 xs] [] (Yz (Z4 (JP q s xs))))/\(∀(b:Z8) (q:Int) (k0:Nat) (xs:LI),(b.sz<=k)->(k0<=b.steps.length)->(xs.length+b.sz<=1000000000)->Zp 189 [Yo b,.i q,.i k0,Z4 xs] [] (Yz (Z4 (UW q (T4 q (b.steps.drop k0) xs) b.result)))):=by
 induction k with
 | zero=>exact ⟨fun s q xs h=>by have:=s.sz_pos;omega,fun b q k0 xs h=>by have:=b.sz_pos;omega⟩
 | succ k ih=>exact ⟨fun s q xs h hz=>Zf7 s q xs (fun b2 q k2 xs2 h2 hk h3=>ih.2 b2 q k2 xs2 om hk h3) hz,fun b q k0 xs h hk hz=>Zf8 b q k0 xs (fun s2 q xs2 h2 h3=>ih.1 s2 q xs2 om h3) hk hz⟩
theorem Z0b (b:Z8) (q:Int) (k0:Nat) (xs:LI) (hk:k0<=b.steps.length:=by exact ob) (hz:xs.length+b.sz<=1000000000:=by exact ob):Zp 189 [Yo b,.i q,.i k0,Z4 xs] [] (Yz (Z4 (UW q (T4 q (b.steps.drop k0) xs) b.result))):=(Zg9 b.sz).2 b q k0 xs (X9 _) hk hz
theorem Z0s (b:Z8) (q:Int) (hz:b.sz<=100000000:=by exact ob):Zp 155 [Yo b,.i q] [] (Yz (Z4 (T3 q b []))):=by
 exact ZG 9 Tryz.func155 (ar (iA (W0 b) fun b1=>Z2 (Zs 2 [0] (iL (Z6 []) 0 1 fun v1=>ZY 0 [(7,Z4 [])] (Zv [] (Z0b b q 0 [] (hk:=(Q9 _))) (Zm (ZW (Z4 (UW q (T4 q (b.steps.drop 0) []) b.result)) (Ze.sl _ (Yq Z6 (by rw [Z1r];rfl))))))))))
theorem Z9c (xs:LI) (ys:LI) (hz:xs.length+ys.length<=100000000:=by exact ob):Zp 190 [Z4 xs,Z4 ys] [] (fun r h=>∃(zs:LI),r=Z4 zs/\h=[]/\zs.length<=xs.length+ys.length):=by
 refine ZG 22 Tryz.func190 (Y3 (Yj 1 (ic [] (WV xs) ?_)))
 rintro _ _ ⟨v1,rfl,rfl⟩
 refine Z2 (Y8 (ab 0 (Y6 (fun fz gz m F h=>∃(k:Nat) (zs:LI),(k<=ys.length)/\(zs.length<=xs.length+k)/\F=sF [1] fz [(5,Z4 zs),(6,.i k)]/\h=[]/\m=ys.length-k) _ _ _ ⟨0,xs,ob,ob,rfl,rfl,rfl⟩ (wk [] (fc (x:=ZL xs v1) (Ze.forget _ _) (Ye fl))) ?_)))
 rintro m F h ⟨k,zs,Yk,Zh,rfl,rfl,rfl⟩
 refine YP 2 (iw (Yi ys) (Y2 ((k:Int)<(ys.length:Int)) (fun Za=>?_) (fun Za=>?_)))
 ·refine ak (aq (ab 1 (az (Z0 3 ?_))))
  obtain ⟨x1,Z3⟩:=Zu ys k om
  refine Zq (Zi none (k:Int) 1 (Yb Z3)) (Z0 1 (ic [] (EJ zs x1) ?_))
  rintro _ _ ⟨v2,rfl,rfl⟩
  exact Z2 (az (Z0 1 (ZE k (Z2 (ZH ⟨k+1,(Um zs x1),ob,(by have:=DN zs x1;omega),rfl,rfl,rfl⟩ (wk [] (fc (x:=ZL (Um zs x1) v2) (Ze.forget _ _) (ZJ k fl))))))))
 exact ax 0 (ar (Zm (r1 [] ⟨zs,rfl,rfl,ob⟩)))
theorem P2 (xs:LI) (ys:LI) (hz:xs.length<=100000000:=by exact ob) (hy:ys.length<=100000000:=by exact ob):Zp 224 [Z4 xs,Z4 ys] [] (fun r h=>∃(zs:LI) (v:Value),r=ZL zs v/\h=[.tail v 1]/\zs.length<=xs.length/\∀z∈zs,z∈xs):=by
 refine ZG 28 Tryz.func224 (Y3 (ar (iL (Z6 []) 0 1 fun v1=>?_)))
 refine Z2 (Y8 (ab 0 (Y6 (fun fz gz m F h=>∃(k:Nat) (zs:LI) (u:Value),(k<=xs.length)/\(zs.length<=k)/\(∀z∈zs,z∈xs)/\F=sF [0,1] fz [(5,ZL zs u),(6,.i k)]/\h=[.tail u 1]/\m=xs.length-k) _ _ _ ⟨0,[],v1,ob,ob,(fun z hz=>by cases hz),rfl,rfl,rfl⟩ (wk [0] (fr (Ye fl))) ?_)))
 rintro m F h ⟨k,zs,u,Yk,Zh,ZB,rfl,rfl,rfl⟩
 refine YP 2 (iw (Yi xs) (Y2 ((k:Int)<(xs.length:Int)) (fun Za=>?_) (fun Za=>?_)))
 ·refine ak (aq (ab 1 (Yj 3 ?_)))
  obtain ⟨x1,Z3⟩:=Zu xs k om
  refine Zq (Zi none (k:Int) 1 (Yb Z3)) (Z0 1 (Zv [] (UV ys x1) (ie (Vh (x1∈ys) (fun Zj=>?_) (fun Zj=>?_)))))
  ·exact az (Z0 3 (Zq (Zi none (k:Int) 1 (Yb Z3)) (Z0 1 (iL (Z6 [x1]) 1 1 fun v2=>ZY 0 [(25,Z4 [x1])] (ip 1 (Z6 (zs++[x1])) (Z6 zs) (Z6 [x1]) u none 1 (YH _) (YH _) (W4 _) (by simp<;>omega) (by simp [Wa,Z6]) fun v3=>Z2 (az (Z0 1 (ZE k (Z2 (ZH ⟨k+1,(zs++[x1]),v3,ob,ob,(by first|exact ZB|exact XG ZB (Y7 Z3)),rfl,rfl,rfl⟩ (wk [0] (fr (ZJ k fl)))))))))))))
  exact ak (az (Z0 1 (ZE k (Z2 (ZH ⟨k+1,zs,u,ob,ob,(by first|exact ZB|exact XG ZB (Y7 Z3)),rfl,rfl,rfl⟩ (wk [0] (fr (ZJ k fl))))))))
 exact ax 0 (ar (Zm (r1 [0] ⟨zs,u,rfl,rfl,⟨by omega,ZB⟩⟩)))
theorem Lv (xs:LI) (q:Int) (hz:xs.length<=100000000:=by exact ob):Zp 238 [Z4 xs,.i q] [] (fun r h=>∃(zs:LI) (v:Value),r=ZL zs v/\h=[.tail v 1]/\zs.length<=xs.length/\∀z∈zs,z∈xs):=by
 refine ZG 28 Tryz.func238 (Y3 (ar (iL (Z6 []) 0 1 fun v1=>?_)))
 refine Z2 (Y8 (ab 0 (Y6 (fun fz gz m F h=>∃(k:Nat) (zs:LI) (u:Value),(k<=xs.length)/\(zs.length<=k)/\(∀z∈zs,z∈xs)/\F=sF [0,1] fz [(5,ZL zs u),(6,.i k)]/\h=[.tail u 1]/\m=xs.length-k) _ _ _ ⟨0,[],v1,ob,ob,(fun z hz=>by cases hz),rfl,rfl,rfl⟩ (wk [0] (fr (Ye fl))) ?_)))
 rintro m F h ⟨k,zs,u,Yk,Zh,ZB,rfl,rfl,rfl⟩
 refine YP 2 (iw (Yi xs) (Y2 ((k:Int)<(xs.length:Int)) (fun Za=>?_) (fun Za=>?_)))
 ·refine ak (aq (ab 1 (Yj 2 ?_)))
  obtain ⟨x1,Z3⟩:=Zu xs k om
  refine Zq (Zi none (k:Int) 1 (Yb Z3)) (Y2 (x1<q) (fun Zj=>?_) (fun Zj=>?_))
  ·exact az (Z0 3 (Zq (Zi none (k:Int) 1 (Yb Z3)) (Z0 1 (iL (Z6 [x1]) 1 1 fun v2=>ZY 0 [(25,Z4 [x1])] (ip 1 (Z6 (zs++[x1])) (Z6 zs) (Z6 [x1]) u none 1 (YH _) (YH _) (W4 _) (by simp<;>omega) (by simp [Wa,Z6]) fun v3=>Z2 (az (Z0 1 (ZE k (Z2 (ZH ⟨k+1,(zs++[x1]),v3,ob,ob,(by first|exact ZB|exact XG ZB (Y7 Z3)),rfl,rfl,rfl⟩ (wk [0] (fr (ZJ k fl)))))))))))))
  exact ak (az (Z0 1 (ZE k (Z2 (ZH ⟨k+1,zs,u,ob,ob,(by first|exact ZB|exact XG ZB (Y7 Z3)),rfl,rfl,rfl⟩ (wk [0] (fr (ZJ k fl))))))))
 exact ax 0 (ar (Zm (r1 [0] ⟨zs,u,rfl,rfl,⟨by omega,ZB⟩⟩)))
theorem C2 (op:Int) (v:Int) :Zp 117 [.i op,.i v] [] (Yz (X5 (Zx op v))):=by
 exact ZG 10 Tryz.func117 (ar (iA [.i 0,.i 0,.i 0,nl,nl] fun b1=>ie (Yj 2 (iL (Z6 [v]) 1 1 fun v1=>iL (XR []) 0 2 fun v2=>Z0 1 (Zy 2 b1 [.i op,.i 0,.i 0,ZL [v] v1,Qq [] v2] (ie (ZQ (r3 [] [.agg [.i op,.i 0,.i 0,ZL [v] v1,Qq [] v2]] [0] [(b1,b1)] ⟨rfl,rfl⟩ (Ze.agg (.cons li (.cons li (.cons li (.cons (Ze.sl _ (Yq Z6 rfl)) (.cons (Ze.sl _ (Yq XR rfl)) .nil))))))))))))))
theorem KL (op:Int) (xs:LI) (hl:xs.length<=1000000000:=by exact ob):Zp 157 [.i op,Z4 xs] [] (fun r h=>∃(v:Value),r=Xi (xs.map (Zx op)) v/\h=[.tail v 5]):=by
 refine ZG 24 Tryz.func157 (Y3 (ar (iL (ZV []) 0 5 fun v1=>?_)))
 refine Z2 (Y8 (ab 0 (Y6 (fun fz gz m F h=>∃(k:Nat) (v:Value),(k<=xs.length)/\F=sF [0,1] fz [(5,Xi ((xs.take k).map (Zx op)) v),(6,.i k)]/\h=[.tail v 5]/\m=xs.length-k) _ _ _ ⟨0,v1,ob,rfl,rfl,rfl⟩ (wk [0] (fc (x:=Xi [] v1) (Ze.slh _ (Yq ZV rfl)) (Ye fl))) ?_)))
 rintro m F h ⟨k,v,Yk,rfl,rfl,rfl⟩
 refine YP 2 (iw (Yi xs) (Y2 ((k:Int)<(xs.length:Int)) (fun Za=>?_) (fun Za=>?_)))
 ·refine ak (aq (ab 1 (az (Z0 4 ?_))))
  obtain ⟨x1,Z3⟩:=Zu xs k om
  exact Zq (Zi none (k:Int) 1 (Yb Z3)) (Z0 1 (Zv [] (C2 op x1) (iL [X5 (Zx op x1)] 1 5 fun v2=>ZY 0 [(21,.sl [X5 (Zx op x1)] none)] (ip 1 (ZV ((xs.take (k+1)).map (Zx op))) (ZV ((xs.take k).map (Zx op))) [X5 (Zx op x1)] v none 5 (XH _) (KC rfl) rfl (by simp<;>omega) (by rw [V2 Z3];simp [Uc]) fun v3=>Z2 (az (Z0 1 (ZE k (Z2 (ZH ⟨k+1,v3,ob,rfl,rfl,rfl⟩ (wk [0] (fr (ZJ k fl))))))))))))
 exact ax 0 (ar (Zm (r2 [0] [Xi ((xs.take k).map (Zx op)) v] ⟨v,rfl,rfl⟩ (Ze.slh _ (Yq ZV (by rw [Wh om]))))))
theorem Z8v (n:ZF) (s:Z5) (i:Nat) (mm:Nat) (hn:Xx n:=by exact ob) (hf:FS n.decls n.routines.length mm s:=by exact ob) (hi:i<s.args.length:=by exact ob):Zp 237 [YG n,X5 s,.i i] [] (fun r h=>∃(wr:Bool),r=.b wr/\h=[]):=by
 have hal:=hf.alen
 refine ZG 42 Tryz.func237 (ar (iA (X8 n) fun b1=>iA (Wd s) fun b2=>?_))
 refine Z2 (Y8 (ab 0 (Y6 (fun fz gz m F h=>∃(k:Nat),(k<=s.args.length)/\F=sF [2,3,4] fz [(7,.i k)]/\h=gz/\m=s.args.length-k) _ _ _ ⟨0,ob,rfl,rfl,rfl⟩ (wk [0,0] (Ye fl)) ?_)))
 rintro m F h ⟨k,Yk,rfl,rfl,rfl⟩
 refine Yp 3 [0] (iw (Yi s.args) (Y2 ((k:Int)<(s.args.length:Int)) (fun Za=>?_) (fun Za=>?_)))
 ·refine ak (aq (ab 1 (aD 27 (Zo 23 27 [0,1,2,3] (db (b:=((k:Int) != (i:Int))) 18 (fun Zc=>?_) (fun Zc=>?_))))))
  ·refine ZZ 20 23 [4,5,6] [0] ?_
   obtain ⟨x1,Z3⟩:=Zu s.args k om
   refine dx 7 (Zi none (k:Int) 1 (Yb Z3)) (ZZ 15 19 [8,9,10,11] [0] ?_)
   obtain ⟨x2,Zw⟩:=Zu s.args i om
   refine dx 12 (Zi none (i:Int) 1 (Yb Zw)) (Zo 10 14 [13,14,15,16] (db (b:=(x1==x2)) 31 (fun ZD=>?_) (fun ZD=>?_)))
   ·refine Zo 6 10 [17,18,19,20] (db (b:=(decide ((k:Int)>(i:Int)))) 35 (fun Yf=>?_) (fun Yf=>?_))
    ·exact Zo 0 6 [21,22,23,24,25,26] (de (Vk (ar (Zm (r1 [] ⟨true,rfl,rfl⟩)))))
    refine ZZ 3 6 [21,22,23] [1,0] (Z7 24 (YE 24 [] [] [] (FB n s k (hnum:=hf.call)) (Zo 0 2 [25,26] (de (ac (T2 n s.op s.num k) Iff.rfl (fun Zj=>?_) (fun Zj=>?_))))))
    ·exact ar (Zm (r1 [] ⟨true,rfl,rfl⟩))
    exact ak (az (Z0 1 (ZE k (Z2 (ZH ⟨k+1,ob,rfl,rfl,rfl⟩ (wk [0,0] (ZJ k fl)))))))
   exact Zo 0 10 [17,18,19,20,21,22,23,24,25,26] (de (Vb (ak (az (Z0 1 (ZE k (Z2 (ZH ⟨k+1,ob,rfl,rfl,rfl⟩ (wk [0,0] (ZJ k fl))))))))))
  exact Zo 0 23 [4,5,6,7,8,9,10,11,12,13,14,15,16,17,18,19,20,21,22,23,24,25,26] (de (Vb (ak (az (Z0 1 (ZE k (Z2 (ZH ⟨k+1,ob,rfl,rfl,rfl⟩ (wk [0,0] (ZJ k fl))))))))))
 exact ax 0 (ar (Zm (r1 [] ⟨false,rfl,rfl⟩)))
theorem P9 (n:ZF) (s:Z5) (i:Nat) (mm:Nat) (os:LI) (ls:LI) (hn:Xx n:=by exact ob) (hf:FS n.decls n.routines.length mm s:=by exact ob) (hi:i<s.args.length:=by exact ob) (ho:os.length<=100000000:=by exact ob) (hl:ls.length<=100000000:=by exact ob):Zp 222 [YG n,X5 s,.i i,Z4 os,Z4 ls] [] (fun r h=>∃(wr:Bool),r=.b wr/\h=[]):=by
 refine ZG 34 Tryz.func222 (ar (iA (X8 n) fun b1=>iA (Wd s) fun b2=>Z2 (Zs 4 [0] ?_)))
 obtain ⟨x1,Z3⟩:=Zu s.args i om
 refine Zq (Zi none (i:Int) 1 (Yb Z3)) (Z0 1 (Zv [] (UV ls x1) (Z0 1 (ib (b:=(decide (x1∈ls))) 18 (fun Zc=>?_) (fun Zc=>?_)))))
 ·exact Zm (r1 [] ⟨true,rfl,rfl⟩)
 refine ZA 4 [0] (Zq (Zi none (i:Int) 1 (Yb Z3)) (Z0 1 (Zv [] (UV os x1) (Z0 3 (ib (b:=(!(decide (x1∈os)))) 28 (fun ZD=>?_) (fun ZD=>?_))))))
 ·exact Zm (r1 [] ⟨true,rfl,rfl⟩)
 refine ZA 3 [1,0] (ic [] (Z8v n s i mm) ?_)
 rintro _ _ ⟨wr1,rfl,rfl⟩
 exact Zm (r1 [] ⟨wr1,rfl,rfl⟩)
theorem Z8a (n:ZF) (us:LI) (s:Z5) (os:LI) (ls:LI) (mm:Nat) (hn:Xx n:=by exact ob) (hf:FS n.decls n.routines.length mm s:=by exact ob) (hvl:us.length=mm:=by exact ob) (hm:mm<=100000000:=by exact ob) (ho:os.length<=100000000:=by exact ob) (hl:ls.length<=100000000:=by exact ob):Zp 191 [YG n,Z4 us,X5 s,Z4 os,Z4 ls] [] (fun r h=>∃(zs:LI),r=Z4 zs/\h=[]/\zs.length<=s.args.length/\∀z∈zs,z∈s.args):=by
 have hal:=hf.alen
 refine ZG 43 Tryz.func191 (ar (iA (X8 n) fun b1=>iA (Wd s) fun b2=>Z2 (ar (iL (Z6 []) 0 1 fun v1=>?_))))
 refine Z2 (Y8 (ab 0 (Y6 (fun fz gz m F h=>∃(k:Nat) (zs:LI) (u:Value),(k<=s.args.length)/\(zs.length<=k)/\(∀z∈zs,z∈s.args)/\F=sF [1,3,4,5,7] fz [(11,ZL zs u),(12,.i k)]/\h=[Zg gz 1,Zg gz 2,.tail u 1]/\m=s.args.length-k) _ _ _ ⟨0,[],v1,ob,ob,(fun z hz=>by cases hz),rfl,rfl,rfl⟩ (wk [1,1,0] (fr (Ye fl))) ?_)))
 rintro m F h ⟨k,zs,u,Yk,Zh,ZB,rfl,rfl,rfl⟩
 refine Yp 3 [0] (iw (Yi s.args) (Y2 ((k:Int)<(s.args.length:Int)) (fun Za=>?_) (fun Za=>?_)))
 ·obtain ⟨a1,ha1⟩:=Zu s.args k om
  have har:=hf.args a1 (Y7 ha1)
  refine ak (aq (ab 1 (Zs 4 [1,0] (Zv [] (HW n us s k a1 (hnum:=hf.call) (ha:=ha1)) (Z0 1 (ib (b:=Js n us s.op s.num a1 k) 26 (fun Zc=>?_) (fun Zc=>?_)))))))
  ·refine ZA 5 [1,0] (ic [] (P9 n s k mm os ls) ?_)
   rintro _ _ ⟨wr1,rfl,rfl⟩
   refine YD wr1 Iff.rfl (fun Zj=>?_) (fun Zj=>?_)
   ·exact az (ZA 4 [0] (Zq (Zi none (k:Int) 1 (Yb ha1)) (Z0 1 (iL (Z6 [a1]) 1 1 fun v2=>ZY 0 [(40,Z4 [a1])] (ip 3 (Z6 (zs++[a1])) (Z6 zs) (Z6 [a1]) u none 1 (YH _) (YH _) (W4 _) (by simp<;>omega) (by simp [Wa,Z6]) fun v3=>Z2 (az (Z0 1 (ZE k (Z2 (ZH ⟨k+1,(zs++[a1]),v3,ob,ob,(by first|exact ZB|exact XG ZB (Y7 ha1)),rfl,rfl,rfl⟩ (wk [2,2,0] (fr (ZJ k fl)))))))))))))
   exact ak (az (Z0 1 (ZE k (Z2 (ZH ⟨k+1,zs,u,ob,ob,(by first|exact ZB|exact XG ZB (Y7 ha1)),rfl,rfl,rfl⟩ (Zt 3 (fr (ZJ k fl))))))))
  exact Z2 (Vb (ak (az (Z0 1 (ZE k (Z2 (ZH ⟨k+1,zs,u,ob,ob,(by first|exact ZB|exact XG ZB (Y7 ha1)),rfl,rfl,rfl⟩ (Zt 3 (fr (ZJ k fl))))))))))
 exact ax 0 (ar (Zm (r2 [] [ZL zs u] ⟨zs,rfl,rfl,⟨by omega,ZB⟩⟩ (Ze.forget _ _))))
theorem Z8o (n:ZF) (us:LI) (s:Z5) (os:LI) (ls:LI) (mm:Nat) (hn:Xx n:=by exact ob) (hf:FS n.decls n.routines.length mm s:=by exact ob) (hvl:us.length=mm:=by exact ob) (hm:mm<=100000000:=by exact ob) (ho:os.length<=100000000:=by exact ob) (hl:ls.length<=100000000:=by exact ob):Zp 193 [YG n,Z4 us,X5 s,Z4 os,Z4 ls] [] (fun r h=>∃(zs:LI) (v:Value),r=ZL zs v/\h=[.tail v 1]/\zs.length<=os.length/\∀z∈zs,z∈os):=by
 have hal:=hf.alen
 refine ZG 55 Tryz.func193 (ar (iA (X8 n) fun b1=>iA (Wd s) fun b2=>Z2 (Yp 4 [0] (ib (b:=(s.op==7)) 16 (fun Zc=>?_) (fun Zc=>?_)))))
 ·refine Z2 (Vk (Yj 2 (ic [] (P2 os ls) ?_)))
  rintro _ _ ⟨zs1,v1,rfl,rfl,Yt⟩
  have hco:=Yt
  exact Zm (r1 [0] ⟨zs1,v1,rfl,rfl,(by first|exact hco|exact ⟨by omega,ZB⟩)⟩)
 refine V0 [0] (ac (s.op==8) Zf (fun Za=>?_) (fun Za=>?_))
 ·refine Yj 2 (ic [] (P2 os ls) ?_)
  rintro _ _ ⟨zs2,v2,rfl,rfl,YX⟩
  have hco:=YX
  exact Zm (r1 [0] ⟨zs2,v2,rfl,rfl,(by first|exact hco|exact ⟨by omega,ZB⟩)⟩)
 refine ak (Yj 1 (ic [] (WV os) ?_))
 rintro _ _ ⟨v3,rfl,rfl⟩
 refine Z2 (Y8 (ab 0 (Y6 (fun fz gz m F h=>∃(k:Nat) (zs:LI) (u:Value),(k<=s.args.length)/\(zs.length<=os.length)/\(∀z∈zs,z∈os)/\F=sF [1,3,4,5,7] fz [(11,ZL zs u),(12,.i k)]/\h=[Zg gz 1,Zg gz 2,.tail u 1]/\m=s.args.length-k) _ _ _ ⟨0,os,v3,ob,ob,(fun z hz=>hz),rfl,rfl,rfl⟩ (wk [1,1,0] (fr (Ye fl))) ?_)))
 rintro m F h ⟨k,zs,u,Yk,Zh,ZB,rfl,rfl,rfl⟩
 refine Yp 3 [0] (iw (Yi s.args) (Y2 ((k:Int)<(s.args.length:Int)) (fun Zj=>?_) (fun Zj=>?_)))
 ·obtain ⟨a1,ha1⟩:=Zu s.args k om
  have har:=hf.args a1 (Y7 ha1)
  refine ak (aq (ab 1 (Zs 4 [1,0] (Zv [] (HW n us s k a1 (hnum:=hf.call) (ha:=ha1)) (Z0 1 (ib (b:=Js n us s.op s.num a1 k) 38 (fun ZD=>?_) (fun ZD=>?_)))))))
  ·refine ZA 5 [1,0] (ic [] (P9 n s k mm os ls) ?_)
   rintro _ _ ⟨wr1,rfl,rfl⟩
   refine YD (!wr1) (p:=¬(wr1=true)) (Yd Iff.rfl) (fun Zz=>?_) (fun Zz=>?_)
   ·refine az (ZA 4 [0] (Zq (Zi none (k:Int) 1 (Yb ha1)) (ZY 1 [(47,Z4 zs)] (ic [] (Pg zs a1) ?_))))
    rintro _ _ ⟨v4,rfl,rfl⟩
    exact Z2 (az (Z0 1 (ZE k (Z2 (ZH ⟨k+1,(Q0 zs a1),v4,ob,(by first|exact Zh|exact V9 (Fg _ _) Zh),(by first|exact ZB|exact (fun z hz=>ZB z (E2 hz))),rfl,rfl,rfl⟩ (wk [1,1,0] (fr (ZJ k fl))))))))
   exact ak (az (Z0 1 (ZE k (Z2 (ZH ⟨k+1,zs,u,ob,(by first|exact Zh|exact V9 (Fg _ _) Zh),(by first|exact ZB|exact (fun z hz=>ZB z (E2 hz))),rfl,rfl,rfl⟩ (Zt 3 (fr (ZJ k fl))))))))
  exact Z2 (Vb (ak (az (Z0 1 (ZE k (Z2 (ZH ⟨k+1,zs,u,ob,(by first|exact Zh|exact V9 (Fg _ _) Zh),(by first|exact ZB|exact (fun z hz=>ZB z (E2 hz))),rfl,rfl,rfl⟩ (Zt 3 (fr (ZJ k fl))))))))))
 exact ax 0 (ar (Zm (r1 [2] ⟨zs,u,rfl,rfl,(by first|exact hco|exact ⟨by omega,ZB⟩)⟩)))
theorem Z8p (n:ZF) (s:Z5) (os:LI) (ls:LI) (mm:Nat) (hn:Xx n:=by exact ob) (hf:FS n.decls n.routines.length mm s:=by exact ob) (ho:os.length<=100000000:=by exact ob) (hl:ls.length<=100000000:=by exact ob):Zp 194 [YG n,X5 s,Z4 os,Z4 ls] [] (fun r h=>∃(zs:LI),r=Z4 zs/\h=[]/\zs.length<=s.args.length/\∀z∈zs,z∈s.args):=by
 have hal:=hf.alen
 refine ZG 50 Tryz.func194 (ar (iA (X8 n) fun b1=>iA (Wd s) fun b2=>Z2 (ar (iL (Z6 []) 0 1 fun v1=>?_))))
 refine Z2 (Y8 (ab 0 (Y6 (fun fz gz m F h=>∃(k:Nat) (zs:LI) (u:Value),(k<=s.args.length)/\(zs.length<=k)/\(∀z∈zs,z∈s.args)/\F=sF [2,3,4,5] fz [(9,ZL zs u),(10,.i k)]/\h=[Zg gz 1,Zg gz 2,.tail u 1]/\m=s.args.length-k) _ _ _ ⟨0,[],v1,ob,ob,(fun z hz=>by cases hz),rfl,rfl,rfl⟩ (wk [1,1,0] (fr (Ye fl))) ?_)))
 rintro m F h ⟨k,zs,u,Yk,Zh,ZB,rfl,rfl,rfl⟩
 refine Yp 3 [0] (iw (Yi s.args) (Y2 ((k:Int)<(s.args.length:Int)) (fun Za=>?_) (fun Za=>?_)))
 ·obtain ⟨a1,ha1⟩:=Zu s.args k om
  have har:=hf.args a1 (Y7 ha1)
  refine ak (aq (ab 1 (Zs 3 [1,0] (Zv [] (FB n s k (hnum:=hf.call)) (X2 13 [2,3,4,5,9,10] [(31,.b (T2 n s.op s.num k&&(decide (a1∈os))))] (fun gz=>gz) ?_ (fun hj1=>?_))))))
  ·refine Xu [2,3,4,5,9,10] [(41,.b ((T2 n s.op s.num k&&(decide (a1∈os)))&&(!(decide (a1∈ls)))))] (fun gz=>gz) ?_ ?_
   ·refine Z0 1 (ib (b:=(T2 n s.op s.num k&&(decide (a1∈os)))) 32 (fun Zc=>?_) (fun Zc=>?_))
    ·exact ZA 4 [0] (Zq (Zi none (k:Int) 1 (Yb ha1)) (Z0 1 (Zv [] (UV ls a1) (Z2 (Zt 3 (Zl (!(decide (a1∈ls))) Zc fl))))))
    exact Z2 (Zt 3 (Zl false Zc fl))
   refine ac ((T2 n s.op s.num k&&(decide (a1∈os)))&&(!(decide (a1∈ls)))) (p:=((T2 n s.op s.num k=true)/\(a1∈os))/\(¬(a1∈ls))) (Ys (Ys Iff.rfl dq) (Yd dq)) (fun Zj=>?_) (fun Zj=>?_)
   ·refine az (ZA 4 [0] (Zq (Zi none (k:Int) 1 (Yb ha1)) (ZY 1 [(42,Z4 zs)] (ic [] (EJ zs a1) ?_))))
    rintro _ _ ⟨v2,rfl,rfl⟩
    exact Z2 (az (Z0 1 (ZE k (Z2 (ZH ⟨k+1,(Um zs a1),v2,ob,(by first|omega|(have:=DN zs a1;omega)),(by first|exact ZB|exact (fun z hz=>(EX.1 hz).elim (ZB z) (fun e=>e▸Y7 ha1))),rfl,rfl,rfl⟩ (wk [1,1,0] (fr (ZJ k fl))))))))
   exact ak (az (Z0 1 (ZE k (Z2 (ZH ⟨k+1,zs,u,ob,(by first|omega|(have:=DN zs a1;omega)),(by first|exact ZB|exact (fun z hz=>(EX.1 hz).elim (ZB z) (fun e=>e▸Y7 ha1))),rfl,rfl,rfl⟩ (Zt 3 (fr (ZJ k fl))))))))
  refine Z0 1 (ib (b:=T2 n s.op s.num k) 23 (fun ZD=>?_) (fun ZD=>?_))
  ·exact ZA 4 [0] (Zq (Zi none (k:Int) 1 (Yb ha1)) (Z0 1 (Zv [] (UV os a1) (Z0 1 (Y1 (Zt 3 (Zl (decide (a1∈os)) ZD fl)) hj1)))))
  exact Z0 8 (Y1 (Zt 3 (Zl false ZD fl)) hj1)
 exact ax 0 (ar (Zm (r2 [] [ZL zs u] ⟨zs,rfl,rfl,⟨by omega,ZB⟩⟩ (Ze.forget _ _))))
theorem Ed (rt:YF) (b:Z8) (hp:rt.params.length<=4294967296:=by exact ob) (hl:rt.lent.length<=4294967296:=by exact ob):Zp 119 [JY rt,Yo b] [] (Yz (JY (YF.mk rt.params rt.lent rt.result b))):=by
 refine ZG 15 Tryz.func119 (ar (iA (JG rt) fun b1=>iA (W0 b) fun b2=>iA [nl,nl,.i 0,nl,.i 0] fun b3=>ie (aD 11 (ZZ 4 11 [0,1,3,4,6,7,8] [2,2,2,1] (Z7 2 (dc 2 [] [1,2,2] [b2,b1,b1] (WV rt.params) ?_))))))
 rintro _ _ ⟨v1,rfl,rfl⟩
 refine Z7 5 (dc 5 [] [1,2] [b2,b1] (WV rt.lent) ?_)
 rintro _ _ ⟨v2,rfl,rfl⟩
 exact Zo 1 2 [9] (Z7 10 (X1 10 2 [] [] b3 [ZL rt.params v1,ZL rt.lent v2,.i rt.result,Vx b.steps,.i b.result] (de (ZQ (r3 [] [.agg [ZL rt.params v1,ZL rt.lent v2,.i rt.result,Vx b.steps,.i b.result]] [0] [(b3,b3)] ⟨rfl,rfl⟩ (Ze.agg (.cons (Ze.sl _ (Yq Z6 ob)) (.cons (Ze.sl _ (Yq Z6 ob)) (.cons li (.cons (Ze.sl _ (Yq ZV ob)) (.cons li .nil)))))))))))
theorem Z85 (n:ZF) (us:LI) (fds:LI) (kd:Z8) (os:LI) (ls:LI) (mm:Nat) (bb:Nat) (hn:Xx n:=by exact ob) (hf:fB n.decls n.routines.length (mm+fds.length) kd:=by exact ob) (hop:Vy WQ kd:=by exact ob) (hul:us.length=mm:=by exact ob) (hfl:fds.length<=3:=by exact ob) (hm:mm+3+4*kd.sz<=100000:=by exact ob) (hor:∀v∈os,0<=v/\v<(mm:Int)) (hol:os.length+3+4*kd.sz<=730:=by exact ob) (hal:ls.length+2000*kd.sz<=1000000:=by exact ob) (hbz:kd.sz<=500:=by exact ob) (hb:kd.sz<bb:=by exact ob) (ih:∀(us2:LI) (b2:Z8) (os2:LI) (as2:LI) (m2:Nat),(fB n.decls n.routines.length m2 b2)->(Vy WQ b2)->(us2.length=m2)->(m2+4*b2.sz<=100000)->(∀v∈os2,0<=v/\v<(m2:Int))->(os2.length+4*b2.sz<=730)->(as2.length+2000*b2.sz<=1000000)->(b2.sz<=500)->(b2.sz<bb)->Zp 156 [YG n,Z4 us2,Yo b2,Z4 os2,Z4 as2] [] (fun r h=>∃(y:Z8),r=Yo y/\h=[]/\KB n.decls n.routines.length m2 y (4500*b2.sz))):Zp 223 [YG n,Z4 us,Z4 fds,Yo kd,Z4 os,Z4 ls] [] (fun r h=>∃(y:Z8),r=Yo y/\h=[]/\KB n.decls n.routines.length (mm+fds.length) y (4500*kd.sz+1470)):=by
 refine ZG 115 Tryz.func223 (ar (iA (X8 n) fun b1=>iA (W0 kd) fun b2=>iA [nl,.i 0] fun b3=>ie (Yj 1 (iw (Yi us) (Z2 (Yj 2 (ic [] (TD us fds) ?_)))))))
 rintro _ _ ⟨v1,rfl,rfl⟩
 refine Z2 (Zs 2 [2] (io (.i (((us++fds).length:Nat):Int)) (.i (((Z6 (us++fds)).length:Nat):Int)) (li (by rw [Yi])) (Zv [] (Z0s kd (((us++fds).length:Nat):Int)) ?_)))
 have hub:=I6 (n:=(((us++fds).length:Nat):Int)) kd []
 simp only [X6,Wg] at hub
 refine Z2 (ar (iL (Z6 []) 0 1 fun v2=>Z2 (ar (iL (Z6 []) 0 1 fun v3=>?_))))
 refine Z2 (Y8 (ab 0 (Y6 (fun fz gz m F h=>∃(k:Nat) (ms:LI) (u:Value) (dr:LI) (w:Value),(k<=os.length)/\(ms.length<=k)/\(dr.length<=k)/\(∀v∈ms,0<=v/\v<(mm:Int))/\(∀v∈dr,0<=v/\v<(mm:Int))/\F=sF [2,4,5,6,9,12,13,15] fz [(14,Z4 (us++fds)),(16,ZL ms u),(17,ZL dr w),(18,.i k)]/\h=[Zg gz 3,Zg gz 4,Zg gz 5,.tail u 1,.tail w 1]/\m=os.length-k) _ _ _ ⟨0,[],v2,[],v3,ob,ob,ob,(fun v hv=>by cases hv),(fun v hv=>by cases hv),rfl,rfl,rfl⟩ (wk [3,3,3,1,0] (fc (x:=ZL (us++fds) v1) (Ze.forget _ _) (fw (Ye fl)))) ?_)))
 rintro m F h ⟨k,ms,u,dr,w,Yk,Zh,ZB,YN,Wi,rfl,rfl,rfl⟩
 refine YP 2 (iw (Yi os) (Y2 ((k:Int)<(os.length:Int)) (fun Za=>?_) (fun Za=>?_)))
 ·obtain ⟨o1,ho1⟩:=Zu os k om
  have hor1:=hor o1 (Y7 ho1)
  refine ak (aq (ab 1 (Yj 3 (Zq (Zi none (k:Int) 1 (Yb ho1)) (Z0 1 (Zv [] (UV (T3 (((us++fds).length:Nat):Int) kd []) o1) (Xu [2,4,5,6,9,12,13,14,15,16,17,18] [(53,.b ((decide (o1∈(T3 (((us++fds).length:Nat):Int) kd [])))||(decide (o1∈ls))))] (fun gz=>gz) ?_ ?_)))))))
  ·refine Z0 1 (ib (b:=(decide (o1∈(T3 (((us++fds).length:Nat):Int) kd [])))) 46 (fun Zc=>?_) (fun Zc=>?_))
   ·exact Z2 (Zt 5 (Zl true Zc fl))
   exact Z0 3 (Zq (Zi none (k:Int) 1 (Yb ho1)) (Z0 1 (Zv [] (UV ls o1) (Z2 (Zt 5 (Zl (decide (o1∈ls)) Zc fl))))))
  refine ac ((decide (o1∈(T3 (((us++fds).length:Nat):Int) kd [])))||(decide (o1∈ls))) (p:=(o1∈(T3 (((us++fds).length:Nat):Int) kd []))∨(o1∈ls)) (ZO dq dq) (fun Zj=>?_) (fun Zj=>?_)
  ·exact az (Z0 3 (Zq (Zi none (k:Int) 1 (Yb ho1)) (Z0 1 (iL (Z6 [o1]) 1 1 fun v4=>ZY 0 [(59,Z4 [o1])] (ip 4 (Z6 (ms++[o1])) (Z6 ms) (Z6 [o1]) u none 1 (YH _) (YH _) (W4 _) (by simp<;>omega) (by simp [Wa,Z6]) fun v5=>Z2 (az (Z0 1 (ZE k (Z2 (ZH ⟨k+1,(ms++[o1]),v5,dr,w,ob,ob,ob,(by first|exact YN|exact XG YN hor1),(by first|exact Wi|exact XG Wi hor1),rfl,rfl,rfl⟩ (wk [2,2,2,0,1] (fw (fr (ZJ k fl))))))))))))))
  exact az (Z0 3 (Zq (Zi none (k:Int) 1 (Yb ho1)) (Z0 1 (iL (Z6 [o1]) 1 1 fun v6=>ZY 0 [(66,Z4 [o1])] (ip 5 (Z6 (dr++[o1])) (Z6 dr) (Z6 [o1]) w none 1 (YH _) (YH _) (W4 _) (by simp<;>omega) (by simp [Wa,Z6]) fun v7=>Z2 (az (Z0 1 (ZE k (Z2 (ZH ⟨k+1,ms,u,(dr++[o1]),v7,ob,ob,ob,(by first|exact YN|exact XG YN hor1),(by first|exact Wi|exact XG Wi hor1),rfl,rfl,rfl⟩ (wk [2,2,2,2,0] (fw (fr (ZJ k fl))))))))))))))
 refine ax 0 (ar (iL (Z6 []) 0 1 fun v8=>?_))
 refine Z2 (Y8 (ab 2 (Y6 (fun fz gz m F h=>∃(k:Nat) (ps:LI) (w2:Value),(k<=fds.length)/\(ps.length<=k)/\(∀v∈ps,(mm:Int)<=v/\v<((mm+fds.length:Nat):Int))/\F=sF [2,5,6,9,12,13,14,15,16,17] fz [(19,ZL ps w2),(20,.i k)]/\h=[Zg gz 1,Zg gz 2,Zg gz 3,Zg gz 4,Zg gz 5,.tail w2 1]/\m=fds.length-k) _ _ _ ⟨0,[],v8,ob,ob,(fun v hv=>by cases hv),rfl,rfl,rfl⟩ (wk [1,1,1,1,1,0] (fr (Ye fl))) ?_)))
 rintro m F h ⟨k,ps,w2,Vr,Xs,XU,rfl,rfl,rfl⟩
 refine YP 2 (iw (Yi fds) (Y2 ((k:Int)<(fds.length:Int)) (fun Zz=>?_) (fun Zz=>?_)))
 ·refine ak (aq (ab 3 (Yj 2 ?_)))
  obtain ⟨x1,Z3⟩:=Zu fds k om
  refine Zq (Zi none (k:Int) 1 (Yb Z3)) (Xu [2,5,6,9,12,13,14,15,16,17,19,20] [(86,.b ((x1 != 0)&&(decide (((us.length+k:Nat):Int)∈(T3 (((us++fds).length:Nat):Int) kd [])))))] (fun gz=>gz) ?_ ?_)
  ·refine Z0 3 (ib (b:=(x1 != 0)) 80 (fun ZD=>?_) (fun ZD=>?_))
   ·exact Z0 3 (ia (((us.length+k:Nat):Int)) (((us.length:Int))+((k:Int))) (Zv [] (UV (T3 (((us++fds).length:Nat):Int) kd []) ((us.length+k:Nat):Int)) (Z2 (Zt 6 (Zl (decide (((us.length+k:Nat):Int)∈(T3 (((us++fds).length:Nat):Int) kd []))) ZD fl)))))
   exact Z2 (Zt 6 (Zl false ZD fl))
  refine ac ((x1 != 0)&&(decide (((us.length+k:Nat):Int)∈(T3 (((us++fds).length:Nat):Int) kd [])))) (p:=(x1≠0)/\(((us.length+k:Nat):Int)∈(T3 (((us++fds).length:Nat):Int) kd []))) (Ys Ym dq) (fun Yg=>?_) (fun Yg=>?_)
  ·exact az (Z0 3 (ia (((us.length+k:Nat):Int)) (((us.length:Int))+((k:Int))) (iL (Z6 [((us.length+k:Nat):Int)]) 1 1 fun v9=>ZY 0 [(91,Z4 [((us.length+k:Nat):Int)])] (ip 6 (Z6 (ps++[((us.length+k:Nat):Int)])) (Z6 ps) (Z6 [((us.length+k:Nat):Int)]) w2 none 1 (YH _) (YH _) (W4 _) (by simp<;>omega) (by simp [Wa,Z6]) fun v10=>Z2 (az (Z0 1 (ZE k (Z2 (ZH ⟨k+1,(ps++[((us.length+k:Nat):Int)]),v10,ob,ob,(by first|exact XU|exact XG XU om),rfl,rfl,rfl⟩ (wk [2,2,2,2,2,0] (fr (ZJ k fl))))))))))))
  exact ak (az (Z0 1 (ZE k (Z2 (ZH ⟨k+1,ps,w2,ob,ob,(by first|exact XU|exact XG XU om),rfl,rfl,rfl⟩ (Zt 6 (fr (ZJ k fl))))))))
 refine ax 2 (ar (ZY 1 [(93,Z4 ps)] (ic [] (KL 14 ps) ?_)))
 rintro _ _ ⟨v11,rfl,rfl⟩
 refine ZY 1 [(95,Z4 dr)] (ic [] (KL 15 dr) ?_)
 rintro _ _ ⟨v12,rfl,rfl⟩
 refine ZY 0 [(96,Vx (dr.map (Zx 15)))] (ip 1 (ZV ((ps.map (Zx 14))++(dr.map (Zx 15)))) (ZV (ps.map (Zx 14))) (ZV (dr.map (Zx 15))) v11 none 5 (XH _) (XH _) (Uv _) (by simp<;>omega) (by simp [VB,ZV]) fun v13=>?_)
 refine Z2 (aD 12 (ZZ 5 12 [0,1,2,3,4,6,7] [4,3] (Bz (fun fz gz F h=>∃(y1:Z8) (b4:Nat) (zs1:LI),(zs1.length<=ls.length/\∀z∈zs1,z∈ls)/\(KB n.decls n.routines.length (mm+fds.length) y1 (4500*kd.sz))/\F=sF [12,21] fz [(22,.p b4 0)]/\h=[.obj b4 (W0 y1),Zg gz 0,Zg gz 1,Zg gz 2,Zg gz 3,Zg gz 4,Zg gz 6,Zg gz 7]) ?_ ?_)))
 ·refine Ut 5 10 ?_ ?_
  ·refine dp 5 5 [1,2] [b2,b1] (Z6 (ms++ps)) (Z6 ms) (Z6 ps) u (some w2) 1 (YH _) (YH _) (W4 _) (by simp<;>omega) (by simp [Wa,Z6]) fun v14=>Ut 8 10 ?_ ?_
   ·refine dc 8 [] [1,2] [b2,b1] (Lv ls (us.length:Int)) ?_
    rintro _ _ ⟨zs1,v15,rfl,rfl,Xe⟩
    have hbl:=Xe
    refine Yx 3 3 [] [(103,Z4 (ms++ps)),(106,Z4 zs1)] (Ut 9 10 ?_ ?_)
    ·refine dc 9 [] [] [] (ih (us++fds) kd (ms++ps) zs1 (mm+fds.length) hf hop (by rw [Yr,hul]) ob (fun v hv=>by rcases Xf.1 hv with h|h;exact (by have:=YN v h;omega);exact (by have:=XU v h;omega)) (by rw [Yr];omega) ob ob ob) ?_
     rintro _ _ ⟨y1,rfl,rfl,XP⟩
     have hkb:=XP
     have hkl:=hkb.len
     exact Z7 10 (dA 10 [] [] [nl,.i 0] fun b4=>Z7 11 (X1 11 0 [] [] b4 (W0 y1) (de (ZI ⟨_,b4,_,(by assumption),(by assumption),rfl,rfl⟩ (wk [0,2,2,2,2,2,2,2] fl)))))
    refine dA 10 [1,2] [b2,b1] [nl,.i 0] fun b5=>Z7 9 (dc 9 [] [] [] (ih (us++fds) kd (ms++ps) zs1 (mm+fds.length) hf hop (by rw [Yr,hul]) ob (fun v hv=>by rcases Xf.1 hv with h|h;exact (by have:=YN v h;omega);exact (by have:=XU v h;omega)) (by rw [Yr];omega) ob ob ob) ?_)
    rintro _ _ ⟨y2,rfl,rfl,Wf⟩
    have hkb:=Wf
    have hkl:=hkb.len
    exact Z7 11 (X1 11 0 [] [] b5 (W0 y2) (de (ZI ⟨_,b5,_,(by assumption),(by assumption),rfl,rfl⟩ (wk [0,2,2,2,2,2,2,2] fl))))
   refine dA 10 [1,2] [b2,b1] [nl,.i 0] fun b6=>Z7 8 (dc 8 [] [2,3] [b2,b1] (Lv ls (us.length:Int)) ?_)
   rintro _ _ ⟨zs2,v16,rfl,rfl,WL⟩
   have hbl:=WL
   refine Yx 2 2 [] [(103,Z4 (ms++ps)),(106,Z4 zs2)] (Z7 9 (dc 9 [] [] [] (ih (us++fds) kd (ms++ps) zs2 (mm+fds.length) hf hop (by rw [Yr,hul]) ob (fun v hv=>by rcases Xf.1 hv with h|h;exact (by have:=YN v h;omega);exact (by have:=XU v h;omega)) (by rw [Yr];omega) ob ob ob) ?_))
   rintro _ _ ⟨y3,rfl,rfl,Vf⟩
   have hkb:=Vf
   have hkl:=hkb.len
   exact Z7 11 (X1 11 1 [] [] b6 (W0 y3) (de (ZI ⟨_,b6,_,(by assumption),(by assumption),rfl,rfl⟩ (wk [0,2,2,2,2,2,2,2] fl))))
  refine dA 10 [1,2] [b2,b1] [nl,.i 0] fun b7=>Yx 4 4 [] [(102,Z4 ps)] (Z7 5 (dp 5 6 [2,3] [b2,b1] (Z6 (ms++ps)) (Z6 ms) (Z6 ps) u none 1 (YH _) (YH _) (W4 _) (by simp<;>omega) (by simp [Wa,Z6]) fun v17=>Z7 8 (dc 8 [] [2,3] [b2,b1] (Lv ls (us.length:Int)) ?_)))
  rintro _ _ ⟨zs3,v18,rfl,rfl,UD⟩
  have hbl:=UD
  refine Yx 2 2 [] [(103,Z4 (ms++ps)),(106,Z4 zs3)] (Z7 9 (dc 9 [] [] [] (ih (us++fds) kd (ms++ps) zs3 (mm+fds.length) hf hop (by rw [Yr,hul]) ob (fun v hv=>by rcases Xf.1 hv with h|h;exact (by have:=YN v h;omega);exact (by have:=XU v h;omega)) (by rw [Yr];omega) ob ob ob) ?_))
  rintro _ _ ⟨y4,rfl,rfl,Ty⟩
  have hkb:=Ty
  have hkl:=hkb.len
  exact Z7 11 (X1 11 2 [] [] b7 (W0 y4) (de (ZI ⟨_,b7,_,(by assumption),(by assumption),rfl,rfl⟩ (wk [0,2,2,2,2,2,2,2] fl))))
 rintro F h ⟨y1,b4,zs1,Xe,XP,rfl,rfl⟩
 have hbl:=Xe
 have hkb:=XP
 have hkl:=hkb.len
 exact aD 8 (ZZ 3 8 [0,1,2,4,5] [0,0] (Z7 3 (dp 3 1 [0] [b4] (ZV (((ps.map (Zx 14))++(dr.map (Zx 15)))++y1.steps)) (ZV ((ps.map (Zx 14))++(dr.map (Zx 15)))) (ZV y1.steps) v13 none 5 (XH _) (XH _) (Uv _) (by simp<;>omega) (by simp [VB,ZV]) fun v19=>Zo 1 2 [6] (Z7 7 (X1 7 3 [] [] b3 [Xi (((ps.map (Zx 14))++(dr.map (Zx 15)))++y1.steps) v19,.i y1.result] (de (ZQ (r3 [] [.agg [Xi (((ps.map (Zx 14))++(dr.map (Zx 15)))++y1.steps) v19,.i y1.result]] [0] [(b3,b3)] ⟨(Z8.mk (((ps.map (Zx 14))++(dr.map (Zx 15)))++y1.steps) y1.result),rfl,rfl,((hkb.put (fun v hv=>by have:=XU v hv;omega) (fun v hv=>by have:=Wi v hv;omega)).le om)⟩ (Ze.agg (.cons (Ze.forget _ _) (.cons (lr _) .nil)))))))))))
theorem Z86 (n:ZF) (us:LI) (s:Z5) (os:LI) (ls:LI) (mm:Nat) (bb:Nat) (hn:Xx n:=by exact ob) (hf:FS n.decls n.routines.length mm s:=by exact ob) (h11:s.op<=11:=by exact ob) (hop:Kc WQ s.kids:=by exact ob) (hul:us.length=mm:=by exact ob) (hm:mm+4*s.sz<=100000:=by exact ob) (hor:∀v∈os,0<=v/\v<(mm:Int)) (hol:os.length+4*s.sz<=730:=by exact ob) (hal:ls.length+2000*s.sz<=1000000:=by exact ob) (hbz:s.sz<=500:=by exact ob) (hb:s.sz<=bb:=by exact ob) (ih:∀(us2:LI) (b2:Z8) (os2:LI) (as2:LI) (m2:Nat),(fB n.decls n.routines.length m2 b2)->(Vy WQ b2)->(us2.length=m2)->(m2+4*b2.sz<=100000)->(∀v∈os2,0<=v/\v<(m2:Int))->(os2.length+4*b2.sz<=730)->(as2.length+2000*b2.sz<=1000000)->(b2.sz<=500)->(b2.sz<bb)->Zp 156 [YG n,Z4 us2,Yo b2,Z4 os2,Z4 as2] [] (fun r h=>∃(y:Z8),r=Yo y/\h=[]/\KB n.decls n.routines.length m2 y (4500*b2.sz))):Zp 192 [YG n,Z4 us,X5 s,Z4 os,Z4 ls] [] (fun r h=>∃(y:Z5),r=X5 y/\h=[]/\KT n.decls n.routines.length mm y (4500*YV s.kids+4420)):=by
 have Xn:=hn.decls
 have hkf:=hf.few Xn
 have hsa:=hf.alen
 refine ZG 62 Tryz.func192 (ar (iA (X8 n) fun b1=>iA (Wd s) fun b2=>iA [.i 0,.i 0,.i 0,nl,nl] fun b3=>ie (ar (iL (XR []) 0 2 fun v1=>Z2 (Zs 4 [3,2] (ic [] (Jf n.decls s.num) ?_))))))
 rintro _ _ ⟨v2,rfl,rfl⟩
 refine Z2 (Y8 (ab 0 (Y6 (fun fz gz m F h=>∃(k:Nat) (ks:List Z8) (u:Value),(k<=s.kids.length)/\(ks.length=k)/\(KK n.decls n.routines.length (V1 n.decls s.op s.num mm) ks (4500*YV (s.kids.take k)+1470*k))/\F=sF [1,3,4,5,7,10] fz [(11,Qq ks u),(12,Z4 (Y0 n.decls s.num)),(13,.i k)]/\h=[Zg gz 2,Zg gz 3,Zg gz 4,.tail u 2]/\m=s.kids.length-k) _ _ _ ⟨0,[],v1,ob,ob,(KK.nil.le (Q9 _)),rfl,rfl,rfl⟩ (wk [2,2,2,1] (fr (fc (x:=ZL (Y0 n.decls s.num) v2) (Ze.forget _ _) (Ye fl)))) ?_)))
 rintro m F h ⟨k,ks,u,Yk,Zh,ZB,rfl,rfl,rfl⟩
 refine Yp 3 [1] (iw (Kw s.kids) (Y2 ((k:Int)<(s.kids.length:Int)) (fun Za=>?_) (fun Za=>?_)))
 ·refine ak (aq (ab 1 (ar (iL (Z6 []) 0 1 fun v3=>?_))))
  refine Z2 (Xk (V0 [2] (XC (fun fz gz F h=>∃(fds:LI),(V1 n.decls s.op s.num mm k=mm+fds.length)/\(fds.length<=3)/\F=sF [1,3,4,5,7,10,11,12,13] fz [(14,Z4 fds)]/\h=[Zg gz 1,Zg gz 2,Zg gz 3,Zg gz 4]) ?_ ?_)))
  ·refine ac (s.op==8) Zf (fun Zj=>?_) (fun Zj=>?_)
   ·refine aE 8 (ZZ 4 8 [0,1,2,3] [3] ?_)
    obtain ⟨x1,Z3⟩:=Zu (Y0 n.decls s.num) k (by have:=hf.k8 (by assumption);omega)
    have hcf:=Vs Xn x1
    exact dx 4 (Zi none (k:Int) 1 (Yb Z3)) (Zo 2 3 [5] (Z7 6 (YE 6 [] [] [] (Qr n.decls x1) (Zo 0 1 [7] (de (ZI ⟨ZP n.decls x1,(MD (by assumption) Z3),ob,rfl,rfl⟩ (wk [1,1,1,1] fl)))))))
   exact ak (ZI ⟨[],(by rw [ME (by assumption)];rfl),ob,rfl,rfl⟩ (wk [1,1,1,1] fl))
  rintro F h ⟨fds,VM,B8,rfl,rfl⟩
  refine aE 15 (ZZ 8 15 [0,1,2,3,4,5,6] [2,1] ?_)
  obtain ⟨x2,Zw⟩:=Zu s.kids k om
  have hkz:=Qo Zw
  have hfk:=BE hf.kids Zw
  rw [Wg,VM] at hfk
  have hok:=E0.1 hop x2 (Y7 Zw)
  have hbt:=Gc Zw
  have hba:=Gd Zw
  refine dx 7 (Zi none (k:Int) 2 (T0 Zw)) (Zo 4 7 [8,9,10] (Z7 11 (dc 11 [] [] [] (Z85 n us fds x2 os ls mm bb (hf:=hfk) (hop:=hok) (hor:=hor) (ih:=ih)) ?_)))
  rintro _ _ ⟨y1,rfl,rfl,Y9⟩
  have hkb:=Y9
  exact Z7 12 (WD 12 [] [] [Yo y1] (XR [y1]) (QY [y1]).symm 1 2 fun v4=>Yx 2 2 [] [(51,JK [y1])] (Z7 13 (dp 13 4 [] [] (XR (ks++[y1])) (XR ks) (XR [y1]) u none 2 (KZ _) (KZ _) (Gl _) (by simp<;>omega) (by simp [Cz,XR]) fun v5=>Zo 0 1 [14] (de (az (Z0 1 (ZE k (Z2 (ZH ⟨k+1,(ks++[y1]),v5,ob,ob,((ZB.snoc Zh (by rw [VM];exact hkb)).le om),rfl,rfl,rfl⟩ (wk [2,2,2,0] (fw (ZJ k fl))))))))))))
 refine ax 0 (aD 10 (ZZ 3 10 [0,1,2,3,4,5,7] [1,1,1] (Z7 6 (dc 6 [] [1,1] [b2,b2] (WV s.args) ?_))))
 rintro _ _ ⟨v6,rfl,rfl⟩
 exact Zo 1 2 [8] (Z7 9 (X1 9 1 [] [] b3 [.i s.op,.i s.num,.i 0,ZL s.args v6,Qq ks u] (de (ZQ (r3 [] [.agg [.i s.op,.i s.num,.i 0,ZL s.args v6,Qq ks u]] [0] [(b3,b3)] ⟨(Z5.mk s.op s.num 0 s.args ks),rfl,rfl,((KT.of (into:=0) hf h11 om om ZB).le (by have:=IC (xs:=s.kids) (k:=k) om;omega))⟩ (Ze.agg (.cons (lr _) (.cons (lr _) (.cons (lr _) (.cons (Ze.forget _ _) (.cons (Ze.forget _ _) .nil)))))))))))
theorem Z83 (n:ZF) (us:LI) (b:Z8) (os:LI) (ls:LI) (mm:Nat) (hn:Xx n) (hf:fB n.decls n.routines.length mm b) (hop:Vy WQ b) (hul:us.length=mm) (hm:mm+4*b.sz<=100000) (hor:∀v∈os,0<=v/\v<(mm:Int)) (hol:os.length+4*b.sz<=730) (hal:ls.length+2000*b.sz<=1000000) (hbz:b.sz<=500) (ih:∀(us2:LI) (b2:Z8) (os2:LI) (as2:LI) (m2:Nat),(fB n.decls n.routines.length m2 b2)->(Vy WQ b2)->(us2.length=m2)->(m2+4*b2.sz<=100000)->(∀v∈os2,0<=v/\v<(m2:Int))->(os2.length+4*b2.sz<=730)->(as2.length+2000*b2.sz<=1000000)->(b2.sz<=500)->(b2.sz<b.sz)->Zp 156 [YG n,Z4 us2,Yo b2,Z4 os2,Z4 as2] [] (fun r h=>∃(y:Z8),r=Yo y/\h=[]/\KB n.decls n.routines.length m2 y (4500*b2.sz))):Zp 156 [YG n,Z4 us,Yo b,Z4 os,Z4 ls] [] (fun r h=>∃(y:Z8),r=Yo y/\h=[]/\KB n.decls n.routines.length mm y (4500*b.sz)):=by
 have Xn:=hn.decls
 have hbe:=b.sz_eq
 have ZK:=UH b
 obtain ⟨hfs,hr1,hr2⟩:=(J1 b).1 hf
 have hos:=D3.1 ((Hs b).1 hop)
 have hdn:=IT hos
 have hdl:=hdn b.steps.length (X9 _)
 rw [UA] at hdl
 refine ZG 149 Tryz.func156 (ar (iA (X8 n) fun b1=>iA (W0 b) fun b2=>iA [nl,.i 0] fun b3=>ie (ar (iL (ZV []) 0 5 fun v1=>Z2 (Yj 1 (ic [] (WV us) ?_))))))
 rintro _ _ ⟨v2,rfl,rfl⟩
 refine Z2 (Yj 1 (ic [] (WV os) ?_))
 rintro _ _ ⟨v3,rfl,rfl⟩
 refine Z2 (Y8 (ab 0 (Y6 (fun fz gz m F h=>∃(k:Nat) (vs:LI) (w:Value) (ms:LI) (u:Value) (xs:List Z5) (v:Value),(k<=b.steps.length)/\(vs.length=mm+k)/\(CL n.decls n.routines.length mm xs k (4500*Yw (b.steps.take k)))/\(ms.length<=os.length+k)/\(∀v∈ms,0<=v/\v<((mm+k:Nat):Int))/\F=sF [4,5,7,10] fz [(11,Xi xs v),(12,ZL vs w),(13,ZL ms u),(14,.i k)]/\h=[Zg gz 3,Zg gz 4,Zg gz 5,.tail u 1,.tail v 5,.tail w 1]/\m=b.steps.length-k) _ _ _ ⟨0,us,v2,os,v3,[],v1,ob,ob,CL.nil,ob,hor,rfl,rfl,rfl⟩ (wk [3,3,3,0,1,0] (fw (fr (Ye fl)))) ?_)))
 rintro m F h ⟨k,vs,w,ms,u,xs,v,Yk,Zh,ZB,YN,Wi,rfl,rfl,rfl⟩
 refine Yp 3 [1] (iw (UK b.steps) (Y2 ((k:Int)<(b.steps.length:Int)) (fun Za=>?_) (fun Za=>?_)))
 ·refine ak (aq (ab 1 (Zs 3 [1] ?_)))
  obtain ⟨x1,Z3⟩:=Zu b.steps k om
  have XQ:=D8 Z3
  have hfS:=(AX x1).1 (DC hfs Z3)
  rw [hdn k om] at hfS
  have hoS:=(Ff x1).1 (hos x1 (Y7 Z3))
  have htk:=HX Z3
  have hse:=(x1).sz_eq
  have hal4:=hfS.alen
  have hxl:=ZB.len
  have htl:=KN b.steps (k+1)
  have hsd:=Z0y b.steps (k+1)
  have hul2:=N1 (n:=((vs.length+1:Nat):Int)) (b.steps.drop (k+1)) []
  have hul3:=I7 (n:=((vs.length+1:Nat):Int)) (T4 ((vs.length+1:Nat):Int) (b.steps.drop (k+1)) []) b.result
  simp only [X6,Wg] at hul2
  refine Zq (Zi none (k:Int) 5 (Vc Z3)) (Z0 1 (iA [.i 0,.i 0,.i 0,nl,nl] fun b4=>Zy 0 b4 (Wd x1) (ie (Yj 1 (iw (Yi vs) (Z2 (ar (Kj 3 [(41,Z4 vs)] [3,0] (Zv [] (MO n vs x1 ob ob) (Z2 (Zs 2 [2] (ia (((vs.length+1:Nat):Int)) (((vs.length:Int))+(1)) (Z0 1 (ZE k (iL (Z6 []) 0 1 fun v4=>ZY 0 [(49,Z4 [])] (Zv [] (Z0b b ((vs.length+1:Nat):Int) (k+1) [] (hk:=om) (hz:=(by simp only [X6];omega))) (Z0 1 (ic [] (Z9c (UW ((vs.length+1:Nat):Int) (T4 ((vs.length+1:Nat):Int) (b.steps.drop (k+1)) []) b.result) ls) ?_))))))))))))))))))
  rintro _ _ ⟨zs1,rfl,rfl,Y9⟩
  have hun:=Y9
  refine Z2 (ar (Kj 6 [(55,Z4 vs),(57,Z4 ms)] [4,1] (ic [] (Z8a n vs x1 ms zs1 (mm+k) (hf:=hfS)) ?_)))
  rintro _ _ ⟨zs2,rfl,rfl,Yt⟩
  have hdu:=Yt
  have hq1:=ZB.cnts (op:=14) (.inl rfl) (vs:=zs2) (fun v hv=>hfS.args v (hdu.2 v hv))
  have hl1:=hq1.len
  refine ic [] (KL 14 zs2) ?_
  rintro _ _ ⟨v5,rfl,rfl⟩
  refine ZY 0 [(60,Vx (zs2.map (Zx 14)))] (ip 7 (ZV (xs++(zs2.map (Zx 14)))) (ZV xs) (ZV (zs2.map (Zx 14))) v none 5 (XH _) (XH _) (Uv _) (by simp<;>omega) (by simp [VB,ZV]) fun v6=>Z2 (ar (Kj 6 [(64,Z4 vs),(66,Z4 ms)] [6,3] (ic [] (Z86 n vs x1 ms zs1 (mm+k) b.sz (hf:=hfS) (h11:=hoS.1) (hop:=hoS.2) (hor:=Wi) (ih:=ih)) ?_))))
  rintro _ _ ⟨y1,rfl,rfl,YS⟩
  have hkt:=YS
  have hq2:=hq1.kt hkt
  have hl2:=hq2.len
  refine UQ [X5 y1] (ZV [y1]) (Uc [y1]).symm 1 5 fun v7=>ZY 0 [(69,Vx [y1])] (ip 1 (ZV ((xs++(zs2.map (Zx 14)))++[y1])) (ZV (xs++(zs2.map (Zx 14)))) (ZV [y1]) v6 none 5 (XH _) (XH _) (Uv _) (by simp<;>omega) (by simp [VB,ZV]) fun v8=>Z2 (ar (Kj 5 [(72,Z4 vs),(74,Z4 ms)] [7,4] (ic [] (Z8o n vs x1 ms zs1 (mm+k) (hf:=hfS)) ?_))))
  rintro _ _ ⟨zs3,v9,rfl,rfl,YX⟩
  have hla:=YX
  refine Z2 (ar (Kj 4 [(79,Z4 zs3)] [8,5] (ic [] (Z8p n x1 zs3 zs1 (mm+k) (hf:=hfS)) ?_)))
  rintro _ _ ⟨zs4,rfl,rfl,Xe⟩
  have hld:=Xe
  have hq3:=hq2.cnts (op:=15) (.inr rfl) (vs:=zs4) (fun v hv=>by have:=hfS.args v (hld.2 v hv);omega)
  have hl3:=hq3.len
  refine Z2 (Yj 2 (ic [] (KL 15 zs4) ?_))
  rintro _ _ ⟨v10,rfl,rfl⟩
  refine ZY 0 [(84,Vx (zs4.map (Zx 15)))] (ip 2 (ZV (((xs++(zs2.map (Zx 14)))++[y1])++(zs4.map (Zx 15)))) (ZV ((xs++(zs2.map (Zx 14)))++[y1])) (ZV (zs4.map (Zx 15))) v8 none 5 (XH _) (XH _) (Uv _) (by simp<;>omega) (by simp [VB,ZV]) fun v11=>?_)
  refine Z2 (Y8 (ab 2 (Y6 (fun fz gz m F h=>∃(j:Nat) (m3:LI) (u3:Value) (v3:Value) (w3:Value),(j<=zs4.length)/\(m3.length<=os.length+k)/\(∀v∈m3,0<=v/\v<((mm+k:Nat):Int))/\F=sF [4,5,7,10,14,16,17,18,19] fz [(11,Xi (((xs++(zs2.map (Zx 14)))++[y1])++(zs4.map (Zx 15))) v3),(12,ZL vs w3),(13,ZL m3 u3),(20,.i j)]/\h=[Zg gz 7,Zg gz 8,Zg gz 9,.tail u3 1,.tail v3 5,.tail w3 1]/\m=zs4.length-j) _ _ _ ⟨0,zs3,v9,v11,w,ob,ob,(fun v hv=>Wi v (hla.2 v hv)),rfl,rfl,rfl⟩ (wk [7,7,7,2,0,6] (fw (fr (Ye fl)))) ?_)))
  rintro m F h ⟨j,m3,u3,v3,w3,Vr,Xs,XU,rfl,rfl,rfl⟩
  refine YP 2 (iw (Yi zs4) (Y2 ((j:Int)<(zs4.length:Int)) (fun Zj=>?_) (fun Zj=>?_)))
  ·refine ak (aq (ab 3 (az (Z0 3 ?_))))
   obtain ⟨x2,Zw⟩:=Zu zs4 j om
   refine Zq (Zi none (j:Int) 1 (Yb Zw)) (ZY 1 [(92,Z4 m3)] (ic [] (Pg m3 x2) ?_))
   rintro _ _ ⟨v12,rfl,rfl⟩
   exact Z2 (az (Z0 1 (ZE j (Z2 (ZH ⟨j+1,(Q0 m3 x2),v12,v3,w3,ob,(V9 (Fg _ _) Xs),(fun v hv=>XU v (E2 hv)),rfl,rfl,rfl⟩ (wk [1,1,1,0,1,1] (fw (fr (ZJ j fl)))))))))
  refine ax 2 (Yj 2 (iL (Z6 [X0 n vs x1]) 1 1 fun v13=>ZY 0 [(100,Z4 [X0 n vs x1])] (ip 6 (Z6 (vs++[X0 n vs x1])) (Z6 vs) (Z6 [X0 n vs x1]) w3 none 1 (YH _) (YH _) (W4 _) (by simp<;>omega) (by simp [Wa,Z6]) fun v14=>Z2 (ar (Xu [4,5,7,10,11,12,13,14,16,17] [(108,.b (((X0 n vs x1) != 0)&&(decide ((vs.length:Int)∈zs1))))] (fun gz=>gz) ?_ ?_)))))
  ·refine Z0 3 (ib (b:=((X0 n vs x1) != 0)) 104 (fun Zc=>?_) (fun Zc=>?_))
   ·exact Z0 2 (Zv [] (UV zs1 (vs.length:Int)) (Z2 (Zt 7 (Zl (decide ((vs.length:Int)∈zs1)) Zc fl))))
   exact Z2 (Zt 7 (Zl false Zc fl))
  refine ac (((X0 n vs x1) != 0)&&(decide ((vs.length:Int)∈zs1))) (p:=((X0 n vs x1)≠0)/\((vs.length:Int)∈zs1)) (Ys Ym dq) (fun Zz=>?_) (fun Zz=>?_)
  ·exact az (Z0 2 (iL (Z6 [(vs.length:Int)]) 1 1 fun v15=>ZY 0 [(111,Z4 [(vs.length:Int)])] (ip 6 (Z6 (m3++[(vs.length:Int)])) (Z6 m3) (Z6 [(vs.length:Int)]) u3 none 1 (YH _) (YH _) (W4 _) (by simp<;>omega) (by simp [Wa,Z6]) fun v16=>Z2 (az (Z0 1 (ZE k (Z2 (ZH ⟨k+1,(vs++[X0 n vs x1]),v14,(m3++[(vs.length:Int)]),v16,(((xs++(zs2.map (Zx 14)))++[y1])++(zs4.map (Zx 15))),v3,ob,ob,(by first|exact hq3.le om|exact (hq3.cnt (op:=15) (.inr rfl) om).le om),ob,(by first|exact XG (fun v hv=>by have:=XU v hv;omega) om|exact (fun v hv=>by have:=XU v hv;omega)),rfl,rfl,rfl⟩ (wk [4,4,4,0,3,1] (fw (fr (ZJ k fl))))))))))))
  refine ar (YD ((X0 n vs x1) != 0) Ym (fun Yg=>?_) (fun Yg=>?_))
  ·exact az (Z0 2 (Zv [] (C2 15 (vs.length:Int)) (UQ [X5 (Zx 15 (vs.length:Int))] (ZV [(Zx 15 (vs.length:Int))]) (Uc [(Zx 15 (vs.length:Int))]).symm 1 5 fun v17=>ZY 0 [(118,Vx [(Zx 15 (vs.length:Int))])] (ip 7 (ZV ((((xs++(zs2.map (Zx 14)))++[y1])++(zs4.map (Zx 15)))++[(Zx 15 (vs.length:Int))])) (ZV (((xs++(zs2.map (Zx 14)))++[y1])++(zs4.map (Zx 15)))) (ZV [(Zx 15 (vs.length:Int))]) v3 none 5 (XH _) (XH _) (Uv _) (by simp<;>omega) (by simp [VB,ZV]) fun v18=>Z2 (az (Z0 1 (ZE k (Z2 (ZH ⟨k+1,(vs++[X0 n vs x1]),v14,m3,u3,((((xs++(zs2.map (Zx 14)))++[y1])++(zs4.map (Zx 15)))++[(Zx 15 (vs.length:Int))]),v18,ob,ob,(by first|exact hq3.le om|exact (hq3.cnt (op:=15) (.inr rfl) om).le om),ob,(by first|exact XG (fun v hv=>by have:=XU v hv;omega) om|exact (fun v hv=>by have:=XU v hv;omega)),rfl,rfl,rfl⟩ (wk [4,4,4,4,0,1] (fw (fr (ZJ k fl)))))))))))))
  exact ak (az (Z0 1 (ZE k (Z2 (ZH ⟨k+1,(vs++[X0 n vs x1]),v14,m3,u3,(((xs++(zs2.map (Zx 14)))++[y1])++(zs4.map (Zx 15))),v3,ob,ob,(by first|exact hq3.le om|exact (hq3.cnt (op:=15) (.inr rfl) om).le om),ob,(by first|exact XG (fun v hv=>by have:=XU v hv;omega) om|exact (fun v hv=>by have:=XU v hv;omega)),rfl,rfl,rfl⟩ (wk [2,2,2,2,2,0] (fw (fr (ZJ k fl)))))))))
 have hxl:=ZB.len
 have htl:=KN b.steps k
 refine ax 0 (Yp 3 [1] ?_)
 obtain ⟨x3,YT⟩:=Zu vs b.result.toNat om
 refine Zq (Zi (some w) b.result 1 (Yb YT)) (Xu [7,10,11] [(138,.b ((x3 != 0)&&((decide (b.result∈ls))||(!(decide (b.result∈ms))))))] (fun gz=>gz) ?_ ?_)
 ·refine Z0 3 (ib (b:=(x3 != 0)) 126 (fun ZD=>?_) (fun ZD=>?_))
  ·refine ZA 3 [1] (Zv [] (UV ls b.result) (Z0 1 (ib (b:=(decide (b.result∈ls))) 131 (fun Yf=>?_) (fun Yf=>?_))))
   ·exact Z2 (Zt 6 (Zl true (And.intro ZD Yf) fl))
   exact Kj 3 [(132,Z4 ms)] [1] (Zv [] (UV ms b.result) (Z2 (Zt 6 (Zl (!(decide (b.result∈ms))) (And.intro ZD Yf) fl))))
  exact Z2 (Zt 6 (Zl false ZD fl))
 refine ac ((x3 != 0)&&((decide (b.result∈ls))||(!(decide (b.result∈ms))))) (p:=(x3≠0)/\((b.result∈ls)∨(¬(b.result∈ms)))) (Ys Ym (ZO dq (Yd dq))) (fun YL=>?_) (fun YL=>?_)
 ·exact az (ZA 3 [1] (Zv [] (C2 14 b.result) (UQ [X5 (Zx 14 b.result)] (ZV [Zx 14 b.result]) (Uc [Zx 14 b.result]).symm 1 5 fun v19=>ZY 0 [(143,Vx [Zx 14 b.result])] (ip 5 (ZV (xs++[Zx 14 b.result])) (ZV xs) (ZV [Zx 14 b.result]) v none 5 (XH _) (XH _) (Uv _) (by simp<;>omega) (by simp [VB,ZV]) fun v20=>Z2 (Zs 4 [3] (Zy 2 b3 [Xi (xs++[Zx 14 b.result]) v20,.i b.result] (ie (ZQ (r3 [] [.agg [Xi (xs++[Zx 14 b.result]) v20,.i b.result]] [0] [(b3,b3)] ⟨(Z8.mk (xs++[Zx 14 b.result]) b.result),rfl,rfl,(((ZB.cnt (op:=14) (.inl rfl) om).block om).le (by have:=KN b.steps k;omega))⟩ (Ze.agg (.cons (Ze.forget _ _) (.cons (lr _) .nil))))))))))))
 exact ak (Zs 4 [1] (Zy 0 b3 [Xi xs v,.i b.result] (ie (ZQ (r3 [] [.agg [Xi xs v,.i b.result]] [0] [(b3,b3)] ⟨(Z8.mk xs b.result),rfl,rfl,((ZB.block om).le (by have:=KN b.steps k;omega))⟩ (Ze.agg (.cons (Ze.forget _ _) (.cons (lr _) .nil))))))))
theorem Z82 (n:ZF) (us:LI) (b:Z8) (os:LI) (ls:LI) (mm:Nat) (hn:Xx n:=by exact ob) (hf:fB n.decls n.routines.length mm b:=by exact ob) (hop:Vy WQ b:=by exact ob) (hul:us.length=mm:=by exact ob) (hm:mm+4*b.sz<=100000:=by exact ob) (hor:∀v∈os,0<=v/\v<(mm:Int)) (hol:os.length+4*b.sz<=730:=by exact ob) (hal:ls.length+2000*b.sz<=1000000:=by exact ob) (hbz:b.sz<=500:=by exact ob):Zp 156 [YG n,Z4 us,Yo b,Z4 os,Z4 ls] [] (fun r h=>∃(y:Z8),r=Yo y/\h=[]/\KB n.decls n.routines.length mm y (4500*b.sz)):=by
 have key:∀k:Nat,∀(us2:LI) (b2:Z8) (os2:LI) (as2:LI) (m2:Nat),(fB n.decls n.routines.length m2 b2)->(Vy WQ b2)->(us2.length=m2)->(m2+4*b2.sz<=100000)->(∀v∈os2,0<=v/\v<(m2:Int))->(os2.length+4*b2.sz<=730)->(as2.length+2000*b2.sz<=1000000)->(b2.sz<=500)->(b2.sz<k)->Zp 156 [YG n,Z4 us2,Yo b2,Z4 os2,Z4 as2] [] (fun r h=>∃(y:Z8),r=Yo y/\h=[]/\KB n.decls n.routines.length m2 y (4500*b2.sz)):=by
  intro k
  induction k with
  | zero=>intro us2 b2 os2 as2 m2 h1 h2 h3 h4 h5 h6 h7 h8 h9;omega
  | succ k ih=>intro us2 b2 os2 as2 m2 h1 h2 h3 h4 h5 h6 h7 h8 h9;exact Z83 n us2 b2 os2 as2 m2 hn h1 h2 h3 h4 h5 h6 h7 h8 fun us3 b3 os3 as3 m3 q1 q2 q3 q4 q5 q6 q7 q8 q9=>ih us3 b3 os3 as3 m3 q1 q2 q3 q4 q5 q6 q7 q8 om
 exact key (b.sz+1) us b os ls mm hf hop hul hm hor hol hal hbz om
theorem Z84 (n:ZF) (rt:YF) (qz:Nat) (hn:Xx n:=by exact ob) (hr:RF n.decls n.routines.length qz WQ rt:=by exact ob) (hqz:qz<=181:=by exact ob):Zp 139 [YG n,JY rt] [] (fun r h=>∃(y:Z8),r=Yo y/\h=[]/\KB n.decls n.routines.length rt.params.length y (4500*qz+10)):=by
 have hrp:rt.params.length<=3:=(Tt.bd (f:=⟨rt.params,rt.result,default⟩) hr.sig).1
 have hrl:=hr.lent.1
 have hrz:=hr.body.2
 refine ZG 65 Tryz.func139 (ar (iA (X8 n) fun b1=>iA (JG rt) fun b2=>iA [nl,.i 0] fun b3=>ie (Zs 4 [1,1] (iw (Yi rt.params) (Zv [] (Z0s rt.body (rt.params.length:Int)) ?_)))))
 have hub:=I6 (n:=(rt.params.length:Int)) rt.body []
 simp only [X6,Wg] at hub
 refine Z2 (ar (iL (Z6 []) 0 1 fun v1=>Z2 (ar (iL (Z6 []) 0 1 fun v2=>?_))))
 refine Z2 (Y8 (ab 0 (Y6 (fun fz gz m F h=>∃(k:Nat) (os:LI) (u:Value) (dr:LI) (w:Value),(k<=rt.params.length)/\(os.length<=k)/\(dr.length<=k)/\(∀v∈os,0<=v/\v<(rt.params.length:Int))/\(∀v∈dr,0<=v/\v<(rt.params.length:Int))/\F=sF [2,3,4,5] fz [(6,ZL os u),(7,ZL dr w),(8,.i k)]/\h=[Zg gz 2,Zg gz 3,Zg gz 4,.tail u 1,.tail w 1]/\m=rt.params.length-k) _ _ _ ⟨0,[],v1,[],v2,ob,ob,ob,(fun v hv=>by cases hv),(fun v hv=>by cases hv),rfl,rfl,rfl⟩ (wk [2,2,2,1,0] (fw (Ye fl))) ?_)))
 rintro m F h ⟨k,os,u,dr,w,Yk,Zh,ZB,YN,Wi,rfl,rfl,rfl⟩
 refine Yp 3 [1] (iw (Yi rt.params) (Y2 ((k:Int)<(rt.params.length:Int)) (fun Za=>?_) (fun Za=>?_)))
 ·refine ak (aq (ab 1 (Zs 3 [1] ?_)))
  obtain ⟨x1,Z3⟩:=Zu rt.params k om
  refine Zq (Zi none (k:Int) 1 (Yb Z3)) (Xu [2,3,4,5,6,7,8] [(37,.b ((x1 != 0)&&(!(decide ((k:Int)∈rt.lent)))))] (fun gz=>gz) ?_ ?_)
  ·refine Z0 3 (ib (b:=(x1 != 0)) 31 (fun Zc=>?_) (fun Zc=>?_))
   ·exact ZA 3 [1] (Zv [] (UV rt.lent (k:Int)) (Z2 (Zt 5 (Zl (!(decide ((k:Int)∈rt.lent))) Zc fl))))
   exact Z2 (Zt 5 (Zl false Zc fl))
  refine ac ((x1 != 0)&&(!(decide ((k:Int)∈rt.lent)))) (p:=(x1≠0)/\(¬((k:Int)∈rt.lent))) (Ys Ym (Yd dq)) (fun Zj=>?_) (fun Zj=>?_)
  ·refine Yj 2 (Zv [] (UV (T3 (rt.params.length:Int) rt.body []) (k:Int)) (ie (Vh ((k:Int)∈(T3 (rt.params.length:Int) rt.body [])) (fun Zz=>?_) (fun Zz=>?_))))
   ·exact az (Z0 2 (iL (Z6 [(k:Int)]) 1 1 fun v3=>ZY 0 [(43,Z4 [(k:Int)])] (ip 4 (Z6 (os++[(k:Int)])) (Z6 os) (Z6 [(k:Int)]) u none 1 (YH _) (YH _) (W4 _) (by simp<;>omega) (by simp [Wa,Z6]) fun v4=>Z2 (az (Z0 1 (ZE k (Z2 (ZH ⟨k+1,(os++[(k:Int)]),v4,dr,w,ob,ob,ob,(by first|exact YN|exact XG YN om),(by first|exact Wi|exact XG Wi om),rfl,rfl,rfl⟩ (wk [2,2,2,0,1] (fw (ZJ k fl)))))))))))
   exact az (Z0 2 (iL (Z6 [(k:Int)]) 1 1 fun v5=>ZY 0 [(47,Z4 [(k:Int)])] (ip 5 (Z6 (dr++[(k:Int)])) (Z6 dr) (Z6 [(k:Int)]) w none 1 (YH _) (YH _) (W4 _) (by simp<;>omega) (by simp [Wa,Z6]) fun v6=>Z2 (az (Z0 1 (ZE k (Z2 (ZH ⟨k+1,os,u,(dr++[(k:Int)]),v6,ob,ob,ob,(by first|exact YN|exact XG YN om),(by first|exact Wi|exact XG Wi om),rfl,rfl,rfl⟩ (wk [2,2,2,2,0] (fw (ZJ k fl)))))))))))
  exact ak (az (Z0 1 (ZE k (Z2 (ZH ⟨k+1,os,u,dr,w,ob,ob,ob,(by first|exact YN|exact XG YN om),(by first|exact Wi|exact XG Wi om),rfl,rfl,rfl⟩ (Zt 5 (fw (ZJ k fl))))))))
 refine ax 0 (Zs 6 [2,1,1] (iL (Z6 []) 0 1 fun v7=>ZY 0 [(54,Z4 os),(55,Z4 [])] (ic [] (Z82 n rt.params rt.body os [] rt.params.length (hf:=hr.body.1) (hop:=hr.op) (hor:=YN) (hal:=(by simp only [X6];omega))) ?_)))
 rintro _ _ ⟨y1,rfl,rfl,YS⟩
 have hkb:=YS
 have hkl:=hkb.len
 refine iA [nl,.i 0] fun b4=>Zy 0 b4 (W0 y1) (ie (aD 9 (Dr 4 9 [0,2,3,5,6] [(57,Z4 dr)] [0,0] (Z7 1 (dc 1 [] [0,0] [b4,b4] (KL 15 dr) ?_)))))
 rintro _ _ ⟨v8,rfl,rfl⟩
 exact Z7 4 (dp 4 0 [0] [b4] (ZV ((dr.map (Zx 15))++y1.steps)) (ZV (dr.map (Zx 15))) (ZV y1.steps) v8 none 5 (XH _) (XH _) (Uv _) (by simp<;>omega) (by simp [VB,ZV]) fun v9=>Zo 1 2 [7] (Z7 8 (X1 8 3 [] [] b3 [Xi ((dr.map (Zx 15))++y1.steps) v9,.i y1.result] (de (ZQ (r3 [] [.agg [Xi ((dr.map (Zx 15))++y1.steps) v9,.i y1.result]] [0] [(b3,b3)] ⟨(Z8.mk ((dr.map (Zx 15))++y1.steps) y1.result),rfl,rfl,((hkb.put1 (op:=15) (.inr rfl) Wi).le om)⟩ (Ze.agg (.cons (Ze.forget _ _) (.cons (lr _) .nil)))))))))
theorem Z87 (n:ZF) (qz:Nat) (hn:FO n qz WQ:=by exact ob) (hqz:qz<=181:=by exact ob):Zp 112 [YG n] [] (fun r h=>∃(n2:ZF),r=YG n2/\h=[]/\FO n2 (4500*qz+10) VI):=by
 have hnl:=hn.fn.len
 have Xn:=hn.fn.decls.ok
 have hok:=hn.fn.ok
 refine ZG 36 Tryz.func112 (ar (iA (X8 n) fun b1=>iA [nl,nl] fun b2=>ie (Zs 2 [1] (Zv [] (Bf n.decls) (iL (Xa []) 0 5 fun v1=>Z0 1 (iA [nl,nl] fun b3=>?_))))))
 refine Zy 0 b3 [Y5 n.decls,WT [] v1] (ie (Y8 (ab 0 (Y6 (fun fz gz m F h=>∃(k:Nat) (rs:List YF) (u:Value),(k<=n.routines.length)/\(rs.length=k)/\(∀r∈rs,RF n.decls n.routines.length (4500*qz+10) VI r)/\F=sF [1,2,3] fz [(4,.i k)]/\h=[.obj b3 [Y5 n.decls,WT rs u],Zg gz 2,Zg gz 3,.tail u 5]/\m=n.routines.length-k) _ _ _ ⟨0,[],v1,ob,ob,(fun r hr=>by cases hr),rfl,rfl,rfl⟩ (wk [0,1,1,0] (Ye fl)) ?_))))
 rintro m F h ⟨k,rs,u,Yk,Zh,ZB,rfl,rfl,rfl⟩
 refine Yp 3 [2] (iw (TW n.routines) (Y2 ((k:Int)<(n.routines.length:Int)) (fun Za=>?_) (fun Za=>?_)))
 ·refine ak (aq (ab 1 (aE 19 (ZZ 14 19 [0,1,2,3,4] [0,2] ?_))))
  obtain ⟨x1,Z3⟩:=Zu n.routines k om
  have hrf:=hn.rf (Y7 Z3)
  have hrp:(x1).params.length<=3:=(Tt.bd (f:=⟨(x1).params,(x1).result,default⟩) hrf.sig).1
  have hrl:=hrf.lent.1
  have hrz:=hrf.body.2
  refine dx 5 (Zi none (k:Int) 5 (VS Z3)) (ZZ 8 13 [6,7,8,9,10] [2,2] (dx 11 (Zi none (k:Int) 5 (VS Z3)) (Zo 6 7 [12] (Z7 13 (dc 13 [] [2,0] [b1,b3] (Z84 n x1 qz (hr:=hrf)) ?_)))))
  rintro _ _ ⟨y1,rfl,rfl,Y9⟩
  have hkb:=Y9
  exact Z7 14 (YE 14 [] [0] [b3] (Ed x1 y1 (hp:=om) (hl:=om)) (Z7 15 (dL 15 [0] [b3] (Xa [YF.mk x1.params x1.lent x1.result y1]) 1 5 fun v2=>Yx 3 3 [] [(32,JL [YF.mk x1.params x1.lent x1.result y1])] (Z7 16 (dp 16 4 [] [] (Xa (rs++[YF.mk x1.params x1.lent x1.result y1])) (Xa rs) (Xa [YF.mk x1.params x1.lent x1.result y1]) u none 5 (Tc _) (Tc _) (BC _) (by simp<;>omega) (by simp [Dy,Xa]) fun v3=>Zo 1 2 [17] (Z7 18 (X1 18 2 [] [] b3 [Y5 n.decls,WT (rs++[YF.mk x1.params x1.lent x1.result y1]) v3] (de (az (Z0 1 (ZE k (Z2 (ZH ⟨k+1,(rs++[YF.mk x1.params x1.lent x1.result y1]),v3,ob,ob,(XG ZB (by first|exact hrf.with hkb.fb hkb.sz hkb.op|(rw [Z8.eta];exact hrf.with hkb.fb hkb.sz hkb.op))),rfl,rfl,rfl⟩ (wk [0,2,2,0] (ZJ k fl)))))))))))))))
 exact ax 0 (Zs 1 [0] (Zy 1 b2 [Y5 n.decls,WT rs u] (ie (ZQ (r3 [] [.agg [Y5 n.decls,WT rs u]] [0] [(b2,b2)] ⟨(ZF.mk n.decls rs),rfl,rfl,(FO.fin hn.fn om ZB).1⟩ (Ze.agg (.cons (lr _) (.cons (Ze.forget _ _) .nil))))))))
theorem Z7z (n:ZF) (us:LI) (s:Z5) (mm:Nat) (hn:Xx n:=by exact ob) (hf:FS n.decls n.routines.length mm s:=by exact ob) (hvl:us.length=mm:=by exact ob) (hm:mm<=100000000:=by exact ob):Zp 159 [YG n,Z4 us,X5 s] [] (fun r h=>∃(zs:LI),r=Z4 zs/\h=[]/\zs.length<=s.args.length/\∀z∈zs,z∈s.args):=by
 have hal:=hf.alen
 refine ZG 31 Tryz.func159 (ar (iA (X8 n) fun b1=>iA (Wd s) fun b2=>Z2 (ar (iL (Z6 []) 0 1 fun v1=>?_))))
 refine Z2 (Y8 (ab 0 (Y6 (fun fz gz m F h=>∃(k:Nat) (zs:LI) (u:Value),(k<=s.args.length)/\(zs.length<=k)/\(∀z∈zs,z∈s.args)/\F=sF [1,3,5] fz [(7,ZL zs u),(8,.i k)]/\h=[Zg gz 1,Zg gz 2,.tail u 1]/\m=s.args.length-k) _ _ _ ⟨0,[],v1,ob,ob,(fun z hz=>by cases hz),rfl,rfl,rfl⟩ (wk [1,1,0] (fr (Ye fl))) ?_)))
 rintro m F h ⟨k,zs,u,Yk,Zh,ZB,rfl,rfl,rfl⟩
 refine Yp 3 [0] (iw (Yi s.args) (Y2 ((k:Int)<(s.args.length:Int)) (fun Za=>?_) (fun Za=>?_)))
 ·obtain ⟨a1,ha1⟩:=Zu s.args k om
  have har:=hf.args a1 (Y7 ha1)
  refine ak (aq (ab 1 (Zs 4 [1,0] (Zv [] (HW n us s k a1 (hnum:=hf.call) (ha:=ha1)) (ie (ac (Js n us s.op s.num a1 k) Iff.rfl (fun Zj=>?_) (fun Zj=>?_)))))))
  ·exact az (ZA 4 [0] (Zq (Zi none (k:Int) 1 (Yb ha1)) (Z0 1 (iL (Z6 [a1]) 1 1 fun v2=>ZY 0 [(28,Z4 [a1])] (ip 3 (Z6 (zs++[a1])) (Z6 zs) (Z6 [a1]) u none 1 (YH _) (YH _) (W4 _) (by simp<;>omega) (by simp [Wa,Z6]) fun v3=>Z2 (az (Z0 1 (ZE k (Z2 (ZH ⟨k+1,(zs++[a1]),v3,ob,ob,(by first|exact ZB|exact XG ZB (Y7 ha1)),rfl,rfl,rfl⟩ (wk [2,2,0] (fr (ZJ k fl)))))))))))))
  exact ak (az (Z0 1 (ZE k (Z2 (ZH ⟨k+1,zs,u,ob,ob,(by first|exact ZB|exact XG ZB (Y7 ha1)),rfl,rfl,rfl⟩ (Zt 3 (fr (ZJ k fl))))))))
 exact ax 0 (ar (Zm (r2 [] [ZL zs u] ⟨zs,rfl,rfl,⟨by omega,ZB⟩⟩ (Ze.forget _ _))))
theorem Z8m (n:ZF) (us:LI) (s:Z5) (mm:Nat) (bb:Nat) (hn:Xx n:=by exact ob) (hf:FS n.decls n.routines.length mm s:=by exact ob) (h11:s.op<=11:=by exact ob) (hop:Kc WQ s.kids:=by exact ob) (hul:us.length=mm:=by exact ob) (hm:mm+4*s.sz<=100000:=by exact ob) (hbz:s.sz<=500:=by exact ob) (hb:s.sz<=bb:=by exact ob) (ih:∀(us2:LI) (b2:Z8) (mi2:LI) (m2:Nat),(fB n.decls n.routines.length m2 b2)->(Vy WQ b2)->(us2.length=m2)->(m2+4*b2.sz<=100000)->(∀v∈mi2,0<=v/\v<(m2:Int))->(mi2.length<=3)->(b2.sz<=500)->(b2.sz<bb)->Zp 140 [YG n,Z4 us2,Yo b2,Z4 mi2] [] (fun r h=>∃(y:Z8),r=Yo y/\h=[]/\KB n.decls n.routines.length m2 y (60*b2.sz))):Zp 160 [YG n,Z4 us,X5 s] [] (fun r h=>∃(y:Z5),r=X5 y/\h=[]/\KT n.decls n.routines.length mm y (60*YV s.kids+23)):=by
 have Xn:=hn.decls
 have hkf:=hf.few Xn
 have hsa:=hf.alen
 refine ZG 72 Tryz.func160 (ar (iA (X8 n) fun b1=>iA (Wd s) fun b2=>iA [.i 0,.i 0,.i 0,nl,nl] fun b3=>ie (ar (iL (XR []) 0 2 fun v1=>Z2 (Zs 4 [3,2] (ic [] (Jf n.decls s.num) ?_))))))
 rintro _ _ ⟨v2,rfl,rfl⟩
 refine Z2 (Y8 (ab 0 (Y6 (fun fz gz m F h=>∃(k:Nat) (ks:List Z8) (u:Value),(k<=s.kids.length)/\(ks.length=k)/\(KK n.decls n.routines.length (V1 n.decls s.op s.num mm) ks (60*YV (s.kids.take k)+6*k))/\F=sF [1,3,5,6] fz [(7,Qq ks u),(8,Z4 (Y0 n.decls s.num)),(9,.i k)]/\h=[Zg gz 2,Zg gz 3,Zg gz 4,.tail u 2]/\m=s.kids.length-k) _ _ _ ⟨0,[],v1,ob,ob,(KK.nil.le (Q9 _)),rfl,rfl,rfl⟩ (wk [2,2,2,1] (fr (fc (x:=ZL (Y0 n.decls s.num) v2) (Ze.forget _ _) (Ye fl)))) ?_)))
 rintro m F h ⟨k,ks,u,Yk,Zh,ZB,rfl,rfl,rfl⟩
 refine Yp 3 [1] (iw (Kw s.kids) (Y2 ((k:Int)<(s.kids.length:Int)) (fun Za=>?_) (fun Za=>?_)))
 ·refine ak (aq (ab 1 (ar (iL (Z6 []) 0 1 fun v3=>?_))))
  refine Z2 (Xk (V0 [2] (XC (fun fz gz F h=>∃(fds:LI),(V1 n.decls s.op s.num mm k=mm+fds.length)/\(fds.length<=3)/\F=sF [1,3,5,6,7,8,9] fz [(10,Z4 fds)]/\h=[Zg gz 1,Zg gz 2,Zg gz 3,Zg gz 4]) ?_ ?_)))
  ·refine ac (s.op==8) Zf (fun Zj=>?_) (fun Zj=>?_)
   ·refine aE 8 (ZZ 4 8 [0,1,2,3] [3] ?_)
    obtain ⟨x1,Z3⟩:=Zu (Y0 n.decls s.num) k (by have:=hf.k8 (by assumption);omega)
    have hcf:=Vs Xn x1
    exact dx 4 (Zi none (k:Int) 1 (Yb Z3)) (Zo 2 3 [5] (Z7 6 (YE 6 [] [] [] (Qr n.decls x1) (Zo 0 1 [7] (de (ZI ⟨ZP n.decls x1,(MD (by assumption) Z3),ob,rfl,rfl⟩ (wk [1,1,1,1] fl)))))))
   exact ak (ZI ⟨[],(by rw [ME (by assumption)];rfl),ob,rfl,rfl⟩ (wk [1,1,1,1] fl))
  rintro F h ⟨fds,VM,B8,rfl,rfl⟩
  refine Yj 2 (iw (Yi us) (ic [] (P7 fds us.length) ?_))
  rintro _ _ ⟨xs1,rfl,rfl,Y9⟩
  have hhf:=Y9
  refine Z2 (aD 13 (ZZ 7 13 [0,1,2,4,5,6] [2,1] ?_))
  obtain ⟨x2,Zw⟩:=Zu s.kids k om
  have hkz:=Qo Zw
  have hfk:=BE hf.kids Zw
  rw [Wg,VM] at hfk
  have hok:=E0.1 hop x2 (Y7 Zw)
  have hbt:=Gc Zw
  have hba:=Gd Zw
  refine dx 7 (Zi none (k:Int) 2 (T0 Zw)) (Zo 4 6 [8,9] (Bz (fun fz gz F h=>∃(y1:Z8) (b4:Nat),(KB n.decls n.routines.length (mm+fds.length) y1 (60*x2.sz))/\F=sF [1,3,5,6,7,8,9,11] fz [(12,.p b4 0)]/\h=[.obj b4 (W0 y1),Zg gz 0,Zg gz 1,Zg gz 2,Zg gz 3]) ?_ ?_))
  ·refine Ut 3 11 ?_ ?_
   ·refine dc 3 [] [1,2] [b2,b1] (TD us fds) ?_
    rintro _ _ ⟨v4,rfl,rfl⟩
    refine Yx 3 3 [] [(44,Z4 (us++fds))] (Ut 10 11 ?_ ?_)
    ·refine dc 10 [] [] [] (ih (us++fds) x2 xs1 (mm+fds.length) hfk hok (by rw [Yr,hul]) ob (fun v hv=>by have:=hhf.2 v hv;omega) ob ob ob) ?_
     rintro _ _ ⟨y1,rfl,rfl,Yt⟩
     have hkb:=Yt
     have hkl:=hkb.len
     exact Z7 11 (dA 11 [] [] [nl,.i 0] fun b4=>Z7 12 (X1 12 0 [] [] b4 (W0 y1) (de (ZI ⟨_,b4,(by assumption),rfl,rfl⟩ (wk [0,1,1,1,1] fl)))))
    refine dA 11 [1,2] [b2,b1] [nl,.i 0] fun b5=>Z7 10 (dc 10 [] [] [] (ih (us++fds) x2 xs1 (mm+fds.length) hfk hok (by rw [Yr,hul]) ob (fun v hv=>by have:=hhf.2 v hv;omega) ob ob ob) ?_)
    rintro _ _ ⟨y2,rfl,rfl,YS⟩
    have hkb:=YS
    have hkl:=hkb.len
    exact Z7 12 (X1 12 0 [] [] b5 (W0 y2) (de (ZI ⟨_,b5,(by assumption),rfl,rfl⟩ (wk [0,1,1,1,1] fl))))
   refine dA 11 [1,2] [b2,b1] [nl,.i 0] fun b6=>Z7 3 (dc 3 [] [2,3] [b2,b1] (TD us fds) ?_)
   rintro _ _ ⟨v5,rfl,rfl⟩
   refine Yx 2 2 [] [(44,Z4 (us++fds))] (Z7 10 (dc 10 [] [] [] (ih (us++fds) x2 xs1 (mm+fds.length) hfk hok (by rw [Yr,hul]) ob (fun v hv=>by have:=hhf.2 v hv;omega) ob ob ob) ?_))
   rintro _ _ ⟨y3,rfl,rfl,YX⟩
   have hkb:=YX
   have hkl:=hkb.len
   exact Z7 12 (X1 12 1 [] [] b6 (W0 y3) (de (ZI ⟨_,b6,(by assumption),rfl,rfl⟩ (wk [0,1,1,1,1] fl))))
  rintro F h ⟨y1,b4,Yt,rfl,rfl⟩
  have hkb:=Yt
  have hkl:=hkb.len
  refine aE 12 (ZZ 6 12 [0,1,3,4,6,7] [0,0] (Z7 2 (dc 2 [] [0,0] [b4,b4] (KL 14 xs1) ?_)))
  rintro _ _ ⟨v6,rfl,rfl⟩
  exact Z7 5 (dp 5 0 [0] [b4] (ZV ((xs1.map (Zx 14))++y1.steps)) (ZV (xs1.map (Zx 14))) (ZV y1.steps) v6 none 5 (XH _) (XH _) (Uv _) (by simp<;>omega) (by simp [VB,ZV]) fun v7=>Yx 3 4 [8] [(60,.agg [Vx ((xs1.map (Zx 14))++y1.steps),.i y1.result])] (Z7 9 (WD 9 [] [] [Yo (Z8.mk ((xs1.map (Zx 14))++y1.steps) y1.result)] (XR [Z8.mk ((xs1.map (Zx 14))++y1.steps) y1.result]) (QY [Z8.mk ((xs1.map (Zx 14))++y1.steps) y1.result]).symm 1 2 fun v8=>Yx 2 2 [] [(61,JK [Z8.mk ((xs1.map (Zx 14))++y1.steps) y1.result])] (Z7 10 (dp 10 6 [] [] (XR (ks++[Z8.mk ((xs1.map (Zx 14))++y1.steps) y1.result])) (XR ks) (XR [Z8.mk ((xs1.map (Zx 14))++y1.steps) y1.result]) u none 2 (KZ _) (KZ _) (Gl _) (by simp<;>omega) (by simp [Cz,XR]) fun v9=>Zo 0 1 [11] (de (az (Z0 1 (ZE k (Z2 (ZH ⟨k+1,(ks++[Z8.mk ((xs1.map (Zx 14))++y1.steps) y1.result]),v9,ob,ob,((ZB.snoc Zh (by rw [VM];exact hkb.put1 (op:=14) (.inl rfl) (fun v hv=>by have:=hhf.2 v hv;omega))).le om),rfl,rfl,rfl⟩ (wk [4,4,4,0] (fw (ZJ k fl))))))))))))))
 refine ax 0 (aD 10 (ZZ 3 10 [0,1,2,3,4,5,7] [1,1,1] (Z7 6 (dc 6 [] [1,1] [b2,b2] (WV s.args) ?_))))
 rintro _ _ ⟨v10,rfl,rfl⟩
 exact Zo 1 2 [8] (Z7 9 (X1 9 1 [] [] b3 [.i s.op,.i s.num,.i 0,ZL s.args v10,Qq ks u] (de (ZQ (r3 [] [.agg [.i s.op,.i s.num,.i 0,ZL s.args v10,Qq ks u]] [0] [(b3,b3)] ⟨(Z5.mk s.op s.num 0 s.args ks),rfl,rfl,((KT.of (into:=0) hf h11 om om ZB).le (by have:=IC (xs:=s.kids) (k:=k) om;omega))⟩ (Ze.agg (.cons (lr _) (.cons (lr _) (.cons (lr _) (.cons (Ze.forget _ _) (.cons (Ze.forget _ _) .nil)))))))))))
theorem Z8l (n:ZF) (us:LI) (b:Z8) (mi:LI) (mm:Nat) (hn:Xx n) (hf:fB n.decls n.routines.length mm b) (hop:Vy WQ b) (hul:us.length=mm) (hm:mm+4*b.sz<=100000) (hmr:∀v∈mi,0<=v/\v<(mm:Int)) (hml:mi.length<=3) (hbz:b.sz<=500) (ih:∀(us2:LI) (b2:Z8) (mi2:LI) (m2:Nat),(fB n.decls n.routines.length m2 b2)->(Vy WQ b2)->(us2.length=m2)->(m2+4*b2.sz<=100000)->(∀v∈mi2,0<=v/\v<(m2:Int))->(mi2.length<=3)->(b2.sz<=500)->(b2.sz<b.sz)->Zp 140 [YG n,Z4 us2,Yo b2,Z4 mi2] [] (fun r h=>∃(y:Z8),r=Yo y/\h=[]/\KB n.decls n.routines.length m2 y (60*b2.sz))):Zp 140 [YG n,Z4 us,Yo b,Z4 mi] [] (fun r h=>∃(y:Z8),r=Yo y/\h=[]/\KB n.decls n.routines.length mm y (60*b.sz)):=by
 have Xn:=hn.decls
 have hbe:=b.sz_eq
 have ZK:=UH b
 obtain ⟨hfs,hr1,hr2⟩:=(J1 b).1 hf
 have hos:=D3.1 ((Hs b).1 hop)
 have hdn:=IT hos
 have hdl:=hdn b.steps.length (X9 _)
 rw [UA] at hdl
 refine ZG 80 Tryz.func140 (ar (iA (X8 n) fun b1=>iA (W0 b) fun b2=>iA [nl,.i 0] fun b3=>ie (ar (iL (ZV []) 0 5 fun v1=>Z2 (Yj 1 (ic [] (WV us) ?_))))))
 rintro _ _ ⟨v2,rfl,rfl⟩
 refine Z2 (Yj 1 (ic [] (WV mi) ?_))
 rintro _ _ ⟨v3,rfl,rfl⟩
 refine Z2 (Y8 (ab 0 (Y6 (fun fz gz m F h=>∃(k:Nat) (vs:LI) (w:Value) (ow:LI) (u:Value) (xs:List Z5) (v:Value) (z0:Nat),(k<=b.steps.length)/\(vs.length=mm+k)/\(CL n.decls n.routines.length mm xs k z0)/\(z0+2*ow.length<=60*Yw (b.steps.take k)+2*mi.length)/\(∀v∈ow,0<=v/\v<((mm+k:Nat):Int))/\F=sF [4,6,8] fz [(9,Xi xs v),(10,ZL vs w),(11,ZL ow u),(12,.i k)]/\h=[Zg gz 3,Zg gz 4,Zg gz 5,.tail u 1,.tail v 5,.tail w 1]/\m=b.steps.length-k) _ _ _ ⟨0,us,v2,mi,v3,[],v1,0,ob,ob,CL.nil,(by simp),hmr,rfl,rfl,rfl⟩ (wk [3,3,3,0,1,0] (fw (fr (Ye fl)))) ?_)))
 rintro m F h ⟨k,vs,w,ow,u,xs,v,z0,Yk,Zh,ZB,YN,Wi,rfl,rfl,rfl⟩
 refine Yp 3 [1] (iw (UK b.steps) (Y2 ((k:Int)<(b.steps.length:Int)) (fun Za=>?_) (fun Za=>?_)))
 ·refine ak (aq (ab 1 (Zs 3 [1] ?_)))
  obtain ⟨x1,Z3⟩:=Zu b.steps k om
  have XQ:=D8 Z3
  have hfS:=(AX x1).1 (DC hfs Z3)
  rw [hdn k om] at hfS
  have hoS:=(Ff x1).1 (hos x1 (Y7 Z3))
  have htk:=HX Z3
  have hse:=(x1).sz_eq
  have hal4:=hfS.alen
  have hxl:=ZB.len
  have htl:=KN b.steps (k+1)
  refine Zq (Zi none (k:Int) 5 (Vc Z3)) (Z0 1 (iA [.i 0,.i 0,.i 0,nl,nl] fun b4=>Zy 0 b4 (Wd x1) (ie (ar (Kj 3 [(33,Z4 vs)] [3,0] (Zv [] (MO n vs x1 ob ob) (Z2 (ar (Kj 4 [(38,Z4 vs)] [3,0] (ic [] (Z7z n vs x1 (mm+k) (hf:=hfS)) ?_))))))))))
  rintro _ _ ⟨zs1,rfl,rfl,Y9⟩
  have hdu:=Y9
  have hq1:=ZB.cnts (op:=14) (.inl rfl) (vs:=zs1) (fun v hv=>hfS.args v (hdu.2 v hv))
  have hl1:=hq1.len
  refine ic [] (KL 14 zs1) ?_
  rintro _ _ ⟨v4,rfl,rfl⟩
  refine ZY 0 [(41,Vx (zs1.map (Zx 14)))] (ip 6 (ZV (xs++(zs1.map (Zx 14)))) (ZV xs) (ZV (zs1.map (Zx 14))) v none 5 (XH _) (XH _) (Uv _) (by simp<;>omega) (by simp [VB,ZV]) fun v5=>Z2 (ar (Kj 4 [(45,Z4 vs)] [5,2] (ic [] (Z8m n vs x1 (mm+k) b.sz (hf:=hfS) (h11:=hoS.1) (hop:=hoS.2) (ih:=ih)) ?_))))
  rintro _ _ ⟨y1,rfl,rfl,Yt⟩
  have hkt:=Yt
  have hq2:=hq1.kt hkt
  have hl2:=hq2.len
  refine UQ [X5 y1] (ZV [y1]) (Uc [y1]).symm 1 5 fun v6=>ZY 0 [(48,Vx [y1])] (ip 1 (ZV ((xs++(zs1.map (Zx 14)))++[y1])) (ZV (xs++(zs1.map (Zx 14)))) (ZV [y1]) v5 none 5 (XH _) (XH _) (Uv _) (by simp<;>omega) (by simp [VB,ZV]) fun v7=>Z2 (Xk (YD ((X0 n vs x1) != 0) Ym (fun Zj=>?_) (fun Zj=>?_))))
  ·exact az (Z0 2 (iw (Yi vs) (iL (Z6 [(vs.length:Int)]) 1 1 fun v8=>ZY 0 [(55,Z4 [(vs.length:Int)])] (ip 8 (Z6 (ow++[(vs.length:Int)])) (Z6 ow) (Z6 [(vs.length:Int)]) u none 1 (YH _) (YH _) (W4 _) (by simp<;>omega) (by simp [Wa,Z6]) fun v9=>Z2 (az (Z0 2 (iL (Z6 [X0 n vs x1]) 1 1 fun v10=>ZY 0 [(59,Z4 [X0 n vs x1])] (ip 10 (Z6 (vs++[X0 n vs x1])) (Z6 vs) (Z6 [X0 n vs x1]) w none 1 (YH _) (YH _) (W4 _) (by simp<;>omega) (by simp [Wa,Z6]) fun v11=>Z2 (az (Z0 1 (ZE k (Z2 (ZH ⟨k+1,(vs++[X0 n vs x1]),v11,(ow++[(vs.length:Int)]),v9,((xs++(zs1.map (Zx 14)))++[y1]),v7,_,ob,ob,hq2,(by (try simp only [Yr,YA,X6]);omega),(by first|exact XG (fun v hv=>by have:=Wi v hv;omega) om|exact (fun v hv=>by have:=Wi v hv;omega)),rfl,rfl,rfl⟩ (wk [8,8,8,2,3,0] (fw (fr (ZJ k fl)))))))))))))))))
  exact ak (az (Z0 2 (iL (Z6 [X0 n vs x1]) 1 1 fun v12=>ZY 0 [(59,Z4 [X0 n vs x1])] (ip 9 (Z6 (vs++[X0 n vs x1])) (Z6 vs) (Z6 [X0 n vs x1]) w none 1 (YH _) (YH _) (W4 _) (by simp<;>omega) (by simp [Wa,Z6]) fun v13=>Z2 (az (Z0 1 (ZE k (Z2 (ZH ⟨k+1,(vs++[X0 n vs x1]),v13,ow,u,((xs++(zs1.map (Zx 14)))++[y1]),v7,_,ob,ob,hq2,(by (try simp only [Yr,YA,X6]);omega),(by first|exact XG (fun v hv=>by have:=Wi v hv;omega) om|exact (fun v hv=>by have:=Wi v hv;omega)),rfl,rfl,rfl⟩ (wk [6,6,6,6,2,0] (fw (fr (ZJ k fl)))))))))))))
 have hxl:=ZB.len
 have htl:=KN b.steps k
 refine ax 0 (Yp 3 [1] ?_)
 obtain ⟨x2,Zw⟩:=Zu vs b.result.toNat om
 refine Zq (Zi (some w) b.result 1 (Yb Zw)) (YD (x2 != 0) Ym (fun Zz=>?_) (fun Zz=>?_))
 ·refine az (ZA 3 [1] (Zv [] (C2 14 b.result) (UQ [X5 (Zx 14 b.result)] (ZV [Zx 14 b.result]) (Uc [Zx 14 b.result]).symm 1 5 fun v14=>ZY 0 [(71,Vx [Zx 14 b.result])] (ip 5 (ZV (xs++[Zx 14 b.result])) (ZV xs) (ZV [Zx 14 b.result]) v none 5 (XH _) (XH _) (Uv _) (by simp<;>omega) (by simp [VB,ZV]) fun v15=>Z2 (aD 8 (Dr 4 8 [0,1,4,5] [(74,Z4 ow)] [3] (Z7 2 (dc 2 [] [1] [b2] (KL 15 ow) ?_))))))))
  rintro _ _ ⟨v16,rfl,rfl⟩
  exact Yx 3 3 [] [(75,Vx (ow.map (Zx 15)))] (Z7 3 (dp 3 1 [1] [b2] (ZV ((xs++[Zx 14 b.result])++(ow.map (Zx 15)))) (ZV (xs++[Zx 14 b.result])) (ZV (ow.map (Zx 15))) v15 none 5 (XH _) (XH _) (Uv _) (by simp<;>omega) (by simp [VB,ZV]) fun v17=>Zo 1 2 [6] (Z7 7 (X1 7 3 [] [] b3 [Xi ((xs++[Zx 14 b.result])++(ow.map (Zx 15))) v17,.i b.result] (de (ZQ (r3 [] [.agg [Xi ((xs++[Zx 14 b.result])++(ow.map (Zx 15))) v17,.i b.result]] [0] [(b3,b3)] ⟨(Z8.mk ((xs++[Zx 14 b.result])++(ow.map (Zx 15))) b.result),rfl,rfl,((((ZB.cnt (op:=14) (.inl rfl) om).cnts (op:=15) (.inr rfl) (fun v hv=>by have:=Wi v hv;omega)).block om).le (by have:=KN b.steps k;omega))⟩ (Ze.agg (.cons (Ze.forget _ _) (.cons (lr _) .nil))))))))))
 refine ak (aD 8 (Dr 4 8 [0,1,4,5] [(74,Z4 ow)] [1] (Z7 2 (dc 2 [] [1] [b2] (KL 15 ow) ?_))))
 rintro _ _ ⟨v18,rfl,rfl⟩
 exact Yx 3 3 [] [(75,Vx (ow.map (Zx 15)))] (Z7 3 (dp 3 5 [1] [b2] (ZV (xs++(ow.map (Zx 15)))) (ZV xs) (ZV (ow.map (Zx 15))) v none 5 (XH _) (XH _) (Uv _) (by simp<;>omega) (by simp [VB,ZV]) fun v19=>Zo 1 2 [6] (Z7 7 (X1 7 2 [] [] b3 [Xi (xs++(ow.map (Zx 15))) v19,.i b.result] (de (ZQ (r3 [] [.agg [Xi (xs++(ow.map (Zx 15))) v19,.i b.result]] [0] [(b3,b3)] ⟨(Z8.mk (xs++(ow.map (Zx 15))) b.result),rfl,rfl,(((ZB.cnts (op:=15) (.inr rfl) (fun v hv=>by have:=Wi v hv;omega)).block om).le (by have:=KN b.steps k;omega))⟩ (Ze.agg (.cons (Ze.forget _ _) (.cons (lr _) .nil))))))))))
theorem Z8k (n:ZF) (us:LI) (b:Z8) (mi:LI) (mm:Nat) (hn:Xx n:=by exact ob) (hf:fB n.decls n.routines.length mm b:=by exact ob) (hop:Vy WQ b:=by exact ob) (hul:us.length=mm:=by exact ob) (hm:mm+4*b.sz<=100000:=by exact ob) (hmr:∀v∈mi,0<=v/\v<(mm:Int)) (hml:mi.length<=3:=by exact ob) (hbz:b.sz<=500:=by exact ob):Zp 140 [YG n,Z4 us,Yo b,Z4 mi] [] (fun r h=>∃(y:Z8),r=Yo y/\h=[]/\KB n.decls n.routines.length mm y (60*b.sz)):=by
 have key:∀k:Nat,∀(us2:LI) (b2:Z8) (mi2:LI) (m2:Nat),(fB n.decls n.routines.length m2 b2)->(Vy WQ b2)->(us2.length=m2)->(m2+4*b2.sz<=100000)->(∀v∈mi2,0<=v/\v<(m2:Int))->(mi2.length<=3)->(b2.sz<=500)->(b2.sz<k)->Zp 140 [YG n,Z4 us2,Yo b2,Z4 mi2] [] (fun r h=>∃(y:Z8),r=Yo y/\h=[]/\KB n.decls n.routines.length m2 y (60*b2.sz)):=by
  intro k
  induction k with
  | zero=>intro us2 b2 mi2 m2 h1 h2 h3 h4 h5 h6 h7 h9;omega
  | succ k ih=>intro us2 b2 mi2 m2 h1 h2 h3 h4 h5 h6 h7 h9;exact Z8l n us2 b2 mi2 m2 hn h1 h2 h3 h4 h5 h6 h7 fun us3 b3 mi3 m3 q1 q2 q3 q4 q5 q6 q7 q9=>ih us3 b3 mi3 m3 q1 q2 q3 q4 q5 q6 q7 om
 exact key (b.sz+1) us b mi mm hf hop hul hm hmr hml hbz om
theorem Z94 (rt:YF) (hp:rt.params.length<=1000000:=by exact ob) (hl:rt.lent.length<=1000000:=by exact ob):Zp 141 [JY rt] [] (fun r h=>∃(os:LI),r=Z4 os/\h=[]/\os.length<=rt.params.length/\∀v∈os,0<=v/\v<(rt.params.length:Int)):=by
 refine ZG 31 Tryz.func141 (ar (iA (JG rt) fun b1=>Z2 (ar (iL (Z6 []) 0 1 fun v1=>?_))))
 refine Z2 (Y8 (ab 0 (Y6 (fun fz gz m F h=>∃(k:Nat) (os:LI) (u:Value),(k<=rt.params.length)/\(os.length<=k)/\(∀v∈os,0<=v/\v<(rt.params.length:Int))/\F=sF [1] fz [(3,ZL os u),(4,.i k)]/\h=[Zg gz 1,.tail u 1]/\m=rt.params.length-k) _ _ _ ⟨0,[],v1,ob,ob,(fun v hv=>by cases hv),rfl,rfl,rfl⟩ (wk [1,0] (fr (Ye fl))) ?_)))
 rintro m F h ⟨k,os,u,Yk,Zh,ZB,rfl,rfl,rfl⟩
 refine Yp 3 [0] (iw (Yi rt.params) (Y2 ((k:Int)<(rt.params.length:Int)) (fun Za=>?_) (fun Za=>?_)))
 ·refine ak (aq (ab 1 (Zs 3 [0] ?_)))
  obtain ⟨x1,Z3⟩:=Zu rt.params k om
  refine Zq (Zi none (k:Int) 1 (Yb Z3)) (Xu [1,3,4] [(25,.b ((x1 != 0)&&(!(decide ((k:Int)∈rt.lent)))))] (fun gz=>gz) ?_ ?_)
  ·refine Z0 3 (ib (b:=(x1 != 0)) 19 (fun Zc=>?_) (fun Zc=>?_))
   ·exact ZA 3 [0] (Zv [] (UV rt.lent (k:Int)) (Z2 (wk [0,0] (Zl (!(decide ((k:Int)∈rt.lent))) Zc fl))))
   exact Z2 (wk [0,0] (Zl false Zc fl))
  refine ac ((x1 != 0)&&(!(decide ((k:Int)∈rt.lent)))) (p:=(x1≠0)/\(¬((k:Int)∈rt.lent))) (Ys Ym (Yd dq)) (fun Zj=>?_) (fun Zj=>?_)
  ·exact az (Z0 2 (iL (Z6 [(k:Int)]) 1 1 fun v2=>ZY 0 [(28,Z4 [(k:Int)])] (ip 2 (Z6 (os++[(k:Int)])) (Z6 os) (Z6 [(k:Int)]) u none 1 (YH _) (YH _) (W4 _) (by simp<;>omega) (by simp [Wa,Z6]) fun v3=>Z2 (az (Z0 1 (ZE k (Z2 (ZH ⟨k+1,(os++[(k:Int)]),v3,ob,ob,(by first|exact ZB|exact XG ZB om),rfl,rfl,rfl⟩ (wk [2,0] (fr (ZJ k fl)))))))))))
  exact ak (az (Z0 1 (ZE k (Z2 (ZH ⟨k+1,os,u,ob,ob,(by first|exact ZB|exact XG ZB om),rfl,rfl,rfl⟩ (wk [0,0] (fr (ZJ k fl))))))))
 exact ax 0 (ar (Zm (r2 [] [ZL os u] ⟨os,rfl,rfl,⟨by omega,ZB⟩⟩ (Ze.forget _ _))))
theorem Z8j (n:ZF) (qz:Nat) (hn:FO n qz WQ:=by exact ob) (hqz:qz<=181:=by exact ob):Zp 113 [YG n] [] (fun r h=>∃(n2:ZF),r=YG n2/\h=[]/\FO n2 (60*qz) VI):=by
 have hnl:=hn.fn.len
 have Xn:=hn.fn.decls.ok
 have hok:=hn.fn.ok
 refine ZG 39 Tryz.func113 (ar (iA (X8 n) fun b1=>iA [nl,nl] fun b2=>ie (Zs 2 [1] (Zv [] (Bf n.decls) (iL (Xa []) 0 5 fun v1=>Z0 1 (iA [nl,nl] fun b3=>?_))))))
 refine Zy 0 b3 [Y5 n.decls,WT [] v1] (ie (Y8 (ab 0 (Y6 (fun fz gz m F h=>∃(k:Nat) (rs:List YF) (u:Value),(k<=n.routines.length)/\(rs.length=k)/\(∀r∈rs,RF n.decls n.routines.length (60*qz) VI r)/\F=sF [1,2,3] fz [(4,.i k)]/\h=[.obj b3 [Y5 n.decls,WT rs u],Zg gz 2,Zg gz 3,.tail u 5]/\m=n.routines.length-k) _ _ _ ⟨0,[],v1,ob,ob,(fun r hr=>by cases hr),rfl,rfl,rfl⟩ (wk [0,1,1,0] (Ye fl)) ?_))))
 rintro m F h ⟨k,rs,u,Yk,Zh,ZB,rfl,rfl,rfl⟩
 refine Yp 3 [2] (iw (TW n.routines) (Y2 ((k:Int)<(n.routines.length:Int)) (fun Za=>?_) (fun Za=>?_)))
 ·refine ak (aq (ab 1 (Zs 3 [2] ?_)))
  obtain ⟨x1,Z3⟩:=Zu n.routines k om
  have hrf:=hn.rf (Y7 Z3)
  have hrp:(x1).params.length<=3:=(Tt.bd (f:=⟨(x1).params,(x1).result,default⟩) hrf.sig).1
  have hrl:=hrf.lent.1
  have hrz:=hrf.body.2
  refine Zq (Zi none (k:Int) 5 (VS Z3)) (Z0 1 (iA [nl,nl,.i 0,nl,.i 0] fun b4=>Zy 0 b4 (JG x1) (ie (aE 16 (ZZ 7 16 [0,1,2,3,4,5,6,7,8] [1,0,3,0,0,0] (Z7 9 (dc 9 [] [0,0,3,0,1] [b4,b4,b1,b4,b3] (Z94 x1) ?_)))))))
  rintro _ _ ⟨os1,rfl,rfl,Y9⟩
  have hop:=Y9
  refine Z7 10 (dc 10 [] [0,1] [b4,b3] (Z8k n x1.params x1.body os1 _ (hf:=hrf.body.1) (hop:=hrf.op) (hul:=rfl) (hmr:=hop.2)) ?_)
  rintro _ _ ⟨y1,rfl,rfl,Yt⟩
  have hkb0:=Yt
  have hkb:=hkb0.le (z2:=60*qz) om
  exact Z7 11 (YE 11 [] [1] [b3] (Ed x1 y1 (hp:=om) (hl:=om)) (Z7 12 (dL 12 [1] [b3] (Xa [YF.mk x1.params x1.lent x1.result y1]) 1 5 fun v2=>Yx 3 3 [] [(35,JL [YF.mk x1.params x1.lent x1.result y1])] (Z7 13 (dp 13 5 [] [] (Xa (rs++[YF.mk x1.params x1.lent x1.result y1])) (Xa rs) (Xa [YF.mk x1.params x1.lent x1.result y1]) u none 5 (Tc _) (Tc _) (BC _) (by simp<;>omega) (by simp [Dy,Xa]) fun v3=>Zo 1 2 [14] (Z7 15 (X1 15 3 [] [] b3 [Y5 n.decls,WT (rs++[YF.mk x1.params x1.lent x1.result y1]) v3] (de (az (Z0 1 (ZE k (Z2 (ZH ⟨k+1,(rs++[YF.mk x1.params x1.lent x1.result y1]),v3,ob,ob,(XG ZB (by first|exact hrf.with hkb.fb hkb.sz hkb.op|(rw [Z8.eta];exact hrf.with hkb.fb hkb.sz hkb.op))),rfl,rfl,rfl⟩ (wk [0,3,3,0] (ZJ k fl)))))))))))))))
 exact ax 0 (Zs 1 [0] (Zy 1 b2 [Y5 n.decls,WT rs u] (ie (ZQ (r3 [] [.agg [Y5 n.decls,WT rs u]] [0] [(b2,b2)] ⟨(ZF.mk n.decls rs),rfl,rfl,(FO.fin hn.fn om ZB).1⟩ (Ze.agg (.cons (lr _) (.cons (Ze.forget _ _) .nil))))))))
theorem Z0j (s:Z5) :Zp 145 [X5 s] [] (Yz (.b ((s.op==14)||(s.op==15)))):=by
 refine ZG 11 Tryz.func145 (ar (iA (Wd s) fun b1=>Z2 (ar (X2 8 [] [(10,.b ((s.op==14)||(s.op==15)))] (fun gz=>gz) ?_ (fun hj1=>?_)))))
 ·exact Zm (I1)
 refine ZA 4 [0] (ib (b:=(s.op==14)) 6 (fun Zc=>?_) (fun Zc=>?_))
 ·exact Z0 4 (Y1 (wk [0] (Zl true Zc fl)) hj1)
 exact ZA 4 [0] (Y1 (wk [0] (Zl (s.op==15) Zc fl)) hj1)
theorem Z9d (rn:List Z5) (hrn:∀s∈rn,∃a,s.args=[a]) (hl:rn.length<=100000000:=by exact ob):Zp 169 [Vx rn] [] (fun r h=>∃(vs:LI),r=Z4 vs/\h=[]/\Ch vs/\vs.length<=rn.length/\∀v∈vs,∃s∈rn,s.args=[v]):=by
 refine ZG 22 Tryz.func169 (Y3 (ar (iL (Z6 []) 0 1 fun v1=>?_)))
 refine Z2 (Y8 (ab 0 (Y6 (fun fz gz m F h=>∃(k:Nat) (vs:LI),(k<=rn.length)/\(vs.length<=k)/\(Ch vs)/\(∀v∈vs,∃s∈rn,s.args=[v])/\F=sF [0] fz [(3,Z4 vs),(4,.i k)]/\h=[]/\m=rn.length-k) _ _ _ ⟨0,[],ob,ob,List.Pairwise.nil,(fun v hv=>by cases hv),rfl,rfl,rfl⟩ (wk [] (fc (x:=ZL [] v1) (Ze.forget _ _) (Ye fl))) ?_)))
 rintro m F h ⟨k,vs,Yk,Zh,ZB,YN,rfl,rfl,rfl⟩
 refine YP 2 (iw (UK rn) (Y2 ((k:Int)<(rn.length:Int)) (fun Za=>?_) (fun Za=>?_)))
 ·refine ak (aq (ab 1 (az (Z0 3 ?_))))
  obtain ⟨x1,Z3⟩:=Zu rn k om
  have hxm:=Y7 Z3
  obtain ⟨xa,hxa⟩:=hrn _ hxm
  refine Zq (Zi none (k:Int) 5 (Vc Z3)) (Z0 2 ?_)
  obtain ⟨x2,Zw⟩:=Zu x1.args 0 (by rw [hxa];simp)
  have hxe:x1.args=[x2]:=by have h:=Zw;rw [hxa] at h;rw [hxa];simpa using h
  refine Zq (Zi none 0 1 (Yb Zw)) (Z0 1 (ic [] (EJ vs x2) ?_))
  rintro _ _ ⟨v2,rfl,rfl⟩
  exact Z2 (az (Z0 1 (ZE k (Z2 (ZH ⟨k+1,(Um vs x2),ob,(by have:=DN vs x2;omega),(PF ZB),(fun v hv=>(EX.1 hv).elim (YN v) (fun e=>⟨x1,hxm,by rw [e];exact hxe⟩)),rfl,rfl,rfl⟩ (wk [] (fc (x:=ZL (Um vs x2) v2) (Ze.forget _ _) (ZJ k fl))))))))
 exact ax 0 (ar (Zm (r1 [] ⟨vs,rfl,rfl,⟨ZB,by omega,YN⟩⟩)))
theorem Z8w (rn:List Z5) (v:Int) (hrn:∀s∈rn,∃a,s.args=[a]) (hl:rn.length<=100000000:=by exact ob):Zp 170 [Vx rn,.i v] [] (fun r h=>∃(z:Int),r=.i z/\h=[]/\-((VR rn v:Nat):Int)<=z/\z<=((VR rn v:Nat):Int)):=by
 refine ZG 44 Tryz.func170 (Y3 (Y3 (Y8 (ab 0 (Y6 (fun fz gz m F h=>∃(k:Nat) (z:Int),(k<=rn.length)/\(-((VR (rn.take k) v:Nat):Int)<=z/\z<=((VR (rn.take k) v:Nat):Int))/\F=sF [0,1] fz [(5,.i z),(6,.i k)]/\h=gz/\m=rn.length-k) _ _ _ ⟨0,0,ob,(by simp [VR]),rfl,rfl,rfl⟩ (wk [] (fr (Ye fl))) ?_)))))
 rintro m F h ⟨k,z,Yk,Zh,rfl,rfl,rfl⟩
 refine YP 2 (iw (UK rn) (Y2 ((k:Int)<(rn.length:Int)) (fun Za=>?_) (fun Za=>?_)))
 ·refine ak (aq (ab 1 (Yj 2 ?_)))
  obtain ⟨x1,Z3⟩:=Zu rn k om
  have hxm:=Y7 Z3
  obtain ⟨xa,hxa⟩:=hrn _ hxm
  have hct:=Z40 Z3 v
  have hcl:=Z41 rn (k+1) v
  have hcm:=NP rn v
  refine Zq (Zi none (k:Int) 5 (Vc Z3)) (Z0 2 ?_)
  obtain ⟨x2,Zw⟩:=Zu x1.args 0 (by rw [hxa];simp)
  have hg0:=QB Zw
  rw [hg0] at hct
  refine Zq (Zi none 0 1 (Yb Zw)) (Xu [0,1,5,6] [(29,.b ((x2==v)&&(x1.op==14)))] (fun gz=>gz) ?_ ?_)
  ·refine Z0 4 (ib (b:=(x2==v)) 22 (fun Zc=>?_) (fun Zc=>?_))
   ·exact Z0 2 (Zq (Zi none (k:Int) 5 (Vc Z3)) (Z2 (wk [] (Zl (x1.op==14) Zc fl))))
   exact Z2 (wk [] (Zl false Zc fl))
  refine ac ((x2==v)&&(x1.op==14)) (p:=(x2=v)/\(x1.op=14)) (Ys Zf Zf) (fun Zj=>?_) (fun Zj=>?_)
  ·exact az (Z0 1 (ia ((z+1)) ((z)+(1)) (Z2 (az (Z0 1 (ZE k (Z2 (ZH ⟨k+1,(z+1),ob,(by first|(rw [hct,Zk om];omega)|(rw [hct,Zb om];omega)),rfl,rfl,rfl⟩ (wk [] (fr (ZJ k fl)))))))))))
  refine Yj 2 (Zq (Zi none (k:Int) 5 (Vc Z3)) (Z0 2 (Zq (Zi none 0 1 (Yb Zw)) (YD (x2==v) Zf (fun Zz=>?_) (fun Zz=>?_)))))
  ·exact az (Z0 1 (ia ((z-1)) ((z)-(1)) (Z2 (az (Z0 1 (ZE k (Z2 (ZH ⟨k+1,(z-1),ob,(by first|(rw [hct,Zk om];omega)|(rw [hct,Zb om];omega)),rfl,rfl,rfl⟩ (wk [] (fr (ZJ k fl)))))))))))
  exact ak (az (Z0 1 (ZE k (Z2 (ZH ⟨k+1,z,ob,(by first|(rw [hct,Zk om];omega)|(rw [hct,Zb om];omega)),rfl,rfl,rfl⟩ (wk [] (fr (ZJ k fl))))))))
 exact ax 0 (ar (Zm (r1 [] ⟨z,rfl,rfl,(by have e:=Zh;rw [Wh om] at e;exact e)⟩)))
theorem Pd (rn:List Z5) (hrn:∀s∈rn,∃a,s.args=[a]) (hl:rn.length<=100000000:=by exact ob):Zp 146 [Vx rn] [] (fun r h=>∃(D:LI) (R:LI) (v:Value),r=Xi (D.map (Zx 14)++R.map (Zx 15)) v/\h=[.tail v 5]/\D.length+R.length<=rn.length/\(∀v∈D,∃s∈rn,s.args=[v])/\∀v∈R,∃s∈rn,s.args=[v]):=by
 refine ZG 51 Tryz.func146 (Y3 (ar (iL (Z6 []) 0 1 fun v1=>Z2 (ar (iL (Z6 []) 0 1 fun v2=>Z2 (Yj 1 (ic [] (Z9d rn (hrn:=ob)) ?_)))))))
 rintro _ _ ⟨vs1,rfl,rfl,Y9⟩
 have hvo:=Y9
 have hsl:=Z18 rn hvo.1
 refine Z2 (Y8 (ab 0 (Y6 (fun fz gz m F h=>∃(k:Nat) (D:LI) (u:Value) (R:LI) (w:Value),(k<=vs1.length)/\(D.length+R.length<=VE rn (vs1.take k))/\(∀v∈D,v∈vs1)/\(∀v∈R,v∈vs1)/\F=sF [0,5] fz [(3,ZL D u),(4,ZL R w),(6,.i k)]/\h=[.tail u 1,.tail w 1]/\m=vs1.length-k) _ _ _ ⟨0,[],v1,[],v2,ob,(by simp [VE]),(fun v hv=>by cases hv),(fun v hv=>by cases hv),rfl,rfl,rfl⟩ (wk [1,0] (fw (Ye fl))) ?_)))
 rintro m F h ⟨k,D,u,R,w,Yk,Zh,ZB,YN,rfl,rfl,rfl⟩
 refine YP 2 (iw (Yi vs1) (Y2 ((k:Int)<(vs1.length:Int)) (fun Za=>?_) (fun Za=>?_)))
 ·refine ak (aq (ab 1 (Yj 3 ?_)))
  obtain ⟨x1,Z3⟩:=Zu vs1 k om
  have hst:=Zh0 (rn:=rn) Z3
  have hsk:=MU rn vs1 (k+1)
  have hxm:=Y7 Z3
  refine Zq (Zi none (k:Int) 1 (Yb Z3)) (Z0 1 (ic [] (Z8w rn x1 (hrn:=ob)) ?_))
  rintro _ _ ⟨z1,rfl,rfl,Yt⟩
  have hnt:=Yt
  refine Z2 (aq (ab 2 (Y6 (fun fz gz m F h=>∃(z:Int) (D2:LI) (u2:Value) (w2:Value),((D2.length:Int)+(R.length:Int)+z<=((VE rn (vs1.take k):Nat):Int)+((VR rn x1:Nat):Int))/\((D2.length:Int)+(R.length:Int)-z<=((VE rn (vs1.take k):Nat):Int)+((VR rn x1:Nat):Int))/\(∀v∈D2,v∈vs1)/\F=sF [0,5,6] fz [(3,ZL D2 u2),(4,ZL R w2),(7,.i z)]/\h=[.tail u2 1,.tail w2 1]/\m=z.toNat) _ _ _ ⟨z1,D,u,w,om,om,ZB,rfl,rfl,rfl⟩ (wk [0,0] fl) ?_)))
  rintro m F h ⟨z,D2,u2,w2,Vr,Xs,XU,rfl,rfl,rfl⟩
  refine Xk (Y2 (z>0) (fun Zj=>?_) (fun Zj=>?_))
  ·exact ak (aq (ab 3 (az (Z0 3 (Zq (Zi none (k:Int) 1 (Yb Z3)) (Z0 1 (iL (Z6 [x1]) 1 1 fun v3=>ZY 0 [(33,Z4 [x1])] (ip 1 (Z6 (D2++[x1])) (Z6 D2) (Z6 [x1]) u2 none 1 (YH _) (YH _) (W4 _) (by simp<;>omega) (by simp [Wa,Z6]) fun v4=>Z2 (az (Z0 1 (ia ((z-1)) ((z)-(1)) (Z2 (ZH ⟨(z-1),(D2++[x1]),v4,w2,(by simp only [Yr,YA,X6];omega),(by simp only [Yr,YA,X6];omega),(XG XU hxm),rfl,rfl,rfl⟩ (wk [0,1] fl))))))))))))))
  refine ax 2 (ab 4 (Y6 (fun fz gz m F h=>∃(y:Int) (R2:LI) (u3:Value) (w3:Value),((D2.length:Int)+(R2.length:Int)+y<=((VE rn (vs1.take k):Nat):Int)+((VR rn x1:Nat):Int))/\((D2.length:Int)+(R2.length:Int)-y<=((VE rn (vs1.take k):Nat):Int)+((VR rn x1:Nat):Int))/\(∀v∈R2,v∈vs1)/\F=sF [0,5,6] fz [(3,ZL D2 u3),(4,ZL R2 w3),(7,.i y)]/\h=[.tail u3 1,.tail w3 1]/\m=(-y).toNat) _ _ _ ⟨z,R,u2,w2,ob,ob,YN,rfl,rfl,rfl⟩ (wk [0,0] fl) ?_))
  rintro m F h ⟨y,R2,u3,w3,IF,Cs,Ct,rfl,rfl,rfl⟩
  refine Xk (Y2 (y<0) (fun Zz=>?_) (fun Zz=>?_))
  ·exact ak (aq (ab 5 (az (Z0 3 (Zq (Zi none (k:Int) 1 (Yb Z3)) (Z0 1 (iL (Z6 [x1]) 1 1 fun v5=>ZY 0 [(44,Z4 [x1])] (ip 2 (Z6 (R2++[x1])) (Z6 R2) (Z6 [x1]) w3 none 1 (YH _) (YH _) (W4 _) (by simp<;>omega) (by simp [Wa,Z6]) fun v6=>Z2 (az (Z0 1 (ia ((y+1)) ((y)+(1)) (Z2 (ZH ⟨(y+1),(R2++[x1]),u3,v6,(by simp only [Yr,YA,X6];omega),(by simp only [Yr,YA,X6];omega),(XG Ct hxm),rfl,rfl,rfl⟩ (wk [2,0] fl))))))))))))))
  exact ax 4 (az (Z0 1 (ZE k (Z2 (ZH ⟨k+1,D2,u3,R2,w3,ob,(by rw [hst];omega),XU,Ct,rfl,rfl,rfl⟩ (wk [0,0] (fw (ZJ k fl))))))))
 have XQ:=MU rn vs1 k
 refine ax 0 (ar (ZY 1 [(46,Z4 D)] (ic [] (KL 14 D) ?_)))
 rintro _ _ ⟨v7,rfl,rfl⟩
 refine ZY 1 [(48,Z4 R)] (ic [] (KL 15 R) ?_)
 rintro _ _ ⟨v8,rfl,rfl⟩
 exact ZY 0 [(49,Vx (R.map (Zx 15)))] (ip 1 (ZV ((D.map (Zx 14))++(R.map (Zx 15)))) (ZV (D.map (Zx 14))) (ZV (R.map (Zx 15))) v7 none 5 (XH _) (XH _) (Uv _) (by simp<;>omega) (by simp [VB,ZV]) fun v9=>Zm (r2 [0] [Xi ((D.map (Zx 14))++(R.map (Zx 15))) v9] ⟨_,_,v9,rfl,rfl,⟨by have:=MU rn vs1 k;omega,fun v hv=>hvo.2.2 v (ZB v hv),fun v hv=>hvo.2.2 v (YN v hv)⟩⟩ (Ze.slh _ (Yq ZV ob))))
theorem Z7v (ds:List Zd) (nf:Nat) (b:Z8) (mm:Nat) (hf:fB ds nf mm b) (hop:Vy VI b) (hz:b.sz<=100000000) (ih:∀(b2:Z8) (m2:Nat),(fB ds nf m2 b2)->(Vy VI b2)->(b2.sz<=100000000)->(b2.sz<b.sz)->Zp 120 [Yo b2] [] (fun r h=>∃(y:Z8),r=Yo y/\h=[]/\KB ds nf m2 y b2.sz)):Zp 120 [Yo b] [] (fun r h=>∃(y:Z8),r=Yo y/\h=[]/\KB ds nf mm y b.sz):=by
 have hbe:=b.sz_eq
 have ZK:=UH b
 obtain ⟨hfs,hr1,hr2⟩:=(J1 b).1 hf
 have hos:=D3.1 ((Hs b).1 hop)
 refine ZG 72 Tryz.func120 (ar (iA (W0 b) fun b1=>iA [nl,.i 0] fun b2=>ie (ar (iL (ZV []) 0 5 fun v1=>Z2 (ar (iL (ZV []) 0 5 fun v2=>?_))))))
 refine Z2 (Y8 (ab 0 (Y6 (fun fz gz m F h=>∃(k:Nat) (xs:List Z5) (v:Value) (rn:List Z5) (u:Value) (z0:Nat),(k<=b.steps.length)/\(CL ds nf mm xs (Yu (b.steps.take k)) z0)/\(z0+2*rn.length<=Yw (b.steps.take k))/\(Ni (mm+(Yu (b.steps.take k))) rn)/\F=sF [1,2] fz [(3,Xi xs v),(4,Xi rn u),(5,.i k)]/\h=[Zg gz 2,Zg gz 3,.tail u 5,.tail v 5]/\m=b.steps.length-k) _ _ _ ⟨0,[],v1,[],v2,0,ob,CL.nil,(by simp [Yw]),(fun s hs=>by cases hs),rfl,rfl,rfl⟩ (wk [2,2,0,0] (fw (Ye fl))) ?_)))
 rintro m F h ⟨k,xs,v,rn,u,z0,Yk,Zh,ZB,YN,rfl,rfl,rfl⟩
 refine Yp 3 [1] (iw (UK b.steps) (Y2 ((k:Int)<(b.steps.length:Int)) (fun Za=>?_) (fun Za=>?_)))
 ·refine ak (aq (ab 1 (Zs 3 [1] ?_)))
  obtain ⟨x1,Z3⟩:=Zu b.steps k om
  have XQ:=D8 Z3
  have hfS:=(AX x1).1 (DC hfs Z3)
  have hoS:=(Ff x1).1 (hos x1 (Y7 Z3))
  have htk:=HX Z3
  have htl:=KN b.steps (k+1)
  have hse:=(x1).sz_eq
  have hdt:=O4 Z3
  have hxl:=Zh.len
  have hkl2:=Ga (x1).kids
  refine Zq (Zi none (k:Int) 5 (Vc Z3)) (Z0 1 (iA [.i 0,.i 0,.i 0,nl,nl] fun b3=>Zy 0 b3 (Wd x1) (ie (Zs 1 [0] (Zv [] (Z0j x1) (ie (ac ((x1.op==14)||(x1.op==15)) (p:=(x1.op=14)∨(x1.op=15)) (ZO Zf Zf) (fun Zj=>?_) (fun Zj=>?_))))))))
  ·refine az (ZA 2 [0] (UQ [X5 x1] (ZV [x1]) (Uc [x1]).symm 1 5 fun v3=>ZY 0 [(27,Vx [x1])] (ip 4 (ZV (rn++[x1])) (ZV rn) (ZV [x1]) u none 5 (XH _) (XH _) (Uv _) (by simp<;>omega) (by simp [VB,ZV]) fun v4=>Z2 (az (Z0 1 (ZE k (Z2 ?_)))))))
   obtain ⟨⟨pa,hpa,hpr⟩,Yt,hpc⟩:=hfS.pair (by assumption)
   rw [Zk hpc,Bo] at hdt
   exact ZH ⟨k+1,xs,v,(rn++[x1]),v4,_,ob,(by rw [hdt];exact Zh),(by rw [htk];simp only [Yr,YA,X6];omega),(by rw [hdt];exact XG YN ⟨pa,hpa,hpr⟩),rfl,rfl,rfl⟩ (wk [3,3,0,2] (fw (ZJ k fl)))
  refine ar (ZY 2 [(30,Vx rn)] (ic [] (Pd rn (hrn:=(fun s hs=>(YN s hs).elim fun a h=>⟨a,h.1⟩))) ?_))
  rintro _ _ ⟨D1,R1,v5,rfl,rfl,Y9⟩
  have hsr:=Y9
  have hq1:=Zh.run YN hsr.2.1 hsr.2.2
  have hl1:=Zh.len
  have htl1:=KN b.steps k
  refine ZY 0 [(31,Vx (D1.map (Zx 14)++R1.map (Zx 15)))] (ip 5 (ZV (xs++(D1.map (Zx 14)++R1.map (Zx 15)))) (ZV xs) (ZV (D1.map (Zx 14)++R1.map (Zx 15))) v none 5 (XH _) (XH _) (Uv _) (by simp<;>omega) (by simp [VB,ZV]) fun v6=>Z2 (ar (iL (ZV []) 0 5 fun v7=>Z2 (ar (iL (XR []) 0 2 fun v8=>?_)))))
  refine Z2 (Y8 (ab 2 (Y6 (fun fz gz m F h=>∃(j:Nat) (ks:List Z8) (w:Value) (v3:Value) (u4:Value),(j<=x1.kids.length)/\(ks.length=j)/\(KK ds nf (V1 ds x1.op x1.num (mm+(Yu (b.steps.take k)))) ks (YV (x1.kids.take j)))/\F=sF [1,2,5,6] fz [(3,Xi (xs++(D1.map (Zx 14)++R1.map (Zx 15))) v3),(4,Xi [] u4),(7,Qq ks w),(8,.i j)]/\h=[Zg gz 4,Zg gz 5,Zg gz 6,.tail u4 5,.tail v3 5,.tail w 2]/\m=x1.kids.length-j) _ _ _ ⟨0,[],v8,v6,v7,ob,ob,(KK.nil.le (Q9 _)),rfl,rfl,rfl⟩ (wk [4,4,4,1,1,0] (fw (fr (Ye fl)))) ?_)))
  rintro m F h ⟨j,ks,w,v3,u4,Vr,Xs,XU,rfl,rfl,rfl⟩
  refine Yp 3 [0] (iw (Kw x1.kids) (Y2 ((j:Int)<(x1.kids.length:Int)) (fun Zz=>?_) (fun Zz=>?_)))
  ·refine ak (aq (ab 3 (az (ZA 4 [0] ?_))))
   obtain ⟨x2,Zw⟩:=Zu x1.kids j om
   have hkz:=Qo Zw
   have hfk:=BE hfS.kids Zw
   rw [Wg] at hfk
   have hok:=E0.1 hoS.2 x2 (Y7 Zw)
   have hbt:=Gc Zw
   refine Zq (Zi none (j:Int) 2 (T0 Zw)) (Z0 1 (ic [] (ih x2 (V1 ds x1.op x1.num (mm+(Yu (b.steps.take k))) j) hfk hok ob ob) ?_))
   rintro _ _ ⟨y1,rfl,rfl,Yt⟩
   have hkb:=Yt
   exact UQ [Yo y1] (XR [y1]) (QY [y1]).symm 1 2 fun v9=>ZY 0 [(49,JK [y1])] (ip 6 (XR (ks++[y1])) (XR ks) (XR [y1]) w none 2 (KZ _) (KZ _) (Gl _) (by simp<;>omega) (by simp [Cz,XR]) fun v10=>Z2 (az (Z0 1 (ZE j (Z2 (ZH ⟨j+1,(ks++[y1]),v10,v3,u4,ob,ob,((XU.snoc Xs hkb).le om),rfl,rfl,rfl⟩ (wk [2,2,2,2,2,0] (fw (fr (ZJ j fl))))))))))
  refine ax 2 (aE 15 (ZZ 5 15 [0,1,2,3,4,5,6,7,8,10] [0,0,0,0] (Z7 9 (dc 9 [] [0,0,0] [b3,b3,b3] (WV x1.args) ?_))))
  rintro _ _ ⟨v11,rfl,rfl⟩
  refine Yx 3 4 [11] [(62,.agg [.i x1.op,.i x1.num,.i x1.into,Z4 x1.args,JK ks])] (Z7 12 (WD 12 [] [] [X5 (Z5.mk x1.op x1.num x1.into x1.args ks)] (ZV [Z5.mk x1.op x1.num x1.into x1.args ks]) (Uc [Z5.mk x1.op x1.num x1.into x1.args ks]).symm 1 5 fun v12=>Yx 2 2 [] [(63,Vx [Z5.mk x1.op x1.num x1.into x1.args ks])] (Z7 13 (dp 13 6 [] [] (ZV ((xs++(D1.map (Zx 14)++R1.map (Zx 15)))++[Z5.mk x1.op x1.num x1.into x1.args ks])) (ZV (xs++(D1.map (Zx 14)++R1.map (Zx 15)))) (ZV [Z5.mk x1.op x1.num x1.into x1.args ks]) v3 none 5 (XH _) (XH _) (Uv _) (by simp<;>omega) (by simp [VB,ZV]) fun v13=>Zo 0 1 [14] (de (az (Z0 1 (ZE k (Z2 ?_)))))))))
  obtain ⟨hn1,hn2⟩:=hfS.not_pair (by assumption) hoS.1
  rw [Zb (by rw [hn2];simp)] at hdt
  have hbj:=IC (xs:=x1.kids) (k:=j) om
  have hkt:=KT.eq hfS hn1 om XU
  have hq2:=hq1.kt hkt
  exact ZH ⟨k+1,((xs++(D1.map (Zx 14)++R1.map (Zx 15)))++[Z5.mk x1.op x1.num x1.into x1.args ks]),v13,[],u4,_,ob,(by rw [hdt];exact hq2),(by rw [htk];simp only [X6];omega),(fun s hs=>by cases hs),rfl,rfl,rfl⟩ (wk [4,4,4,0] (fw (ZJ k fl)))
 have htl2:=KN b.steps k
 have hxl2:=Zh.len
 refine ax 0 (aD 8 (Dr 4 8 [0,1,4,5] [(66,Vx rn)] [1] (Z7 2 (dc 2 [] [1] [b1] (Pd rn (hrn:=(fun s hs=>(YN s hs).elim fun a h=>⟨a,h.1⟩))) ?_))))
 rintro _ _ ⟨D2,R2,v14,rfl,rfl,YS⟩
 have hsr:=YS
 have hq1:=Zh.run YN hsr.2.1 hsr.2.2
 have hl1:=Zh.len
 have htl1:=KN b.steps k
 exact Yx 3 3 [] [(67,Vx (D2.map (Zx 14)++R2.map (Zx 15)))] (Z7 3 (dp 3 4 [1] [b1] (ZV (xs++(D2.map (Zx 14)++R2.map (Zx 15)))) (ZV xs) (ZV (D2.map (Zx 14)++R2.map (Zx 15))) v none 5 (XH _) (XH _) (Uv _) (by simp<;>omega) (by simp [VB,ZV]) fun v15=>Zo 1 2 [6] (Z7 7 (X1 7 2 [] [] b2 [Xi (xs++(D2.map (Zx 14)++R2.map (Zx 15))) v15,.i b.result] (de (ZQ (r3 [] [.agg [Xi (xs++(D2.map (Zx 14)++R2.map (Zx 15))) v15,.i b.result]] [0] [(b2,b2)] ⟨(Z8.mk (xs++(D2.map (Zx 14)++R2.map (Zx 15))) b.result),rfl,rfl,(by have e:b.steps.take k=b.steps:=Wh om;rw [e] at ZB hq1;exact (hq1.block ⟨hr1,hr2⟩).le om)⟩ (Ze.agg (.cons (Ze.forget _ _) (.cons (lr _) .nil))))))))))
theorem Z7u (ds:List Zd) (nf:Nat) (b:Z8) (mm:Nat) (hf:fB ds nf mm b:=by exact ob) (hop:Vy VI b:=by exact ob) (hz:b.sz<=100000000:=by exact ob):Zp 120 [Yo b] [] (fun r h=>∃(y:Z8),r=Yo y/\h=[]/\KB ds nf mm y b.sz):=by
 have key:∀k:Nat,∀(b2:Z8) (m2:Nat),(fB ds nf m2 b2)->(Vy VI b2)->(b2.sz<=100000000)->(b2.sz<k)->Zp 120 [Yo b2] [] (fun r h=>∃(y:Z8),r=Yo y/\h=[]/\KB ds nf m2 y b2.sz):=by
  intro k
  induction k with
  | zero=>intro b2 m2 h1 h2 h3 h9;omega
  | succ k ih=>intro b2 m2 h1 h2 h3 h9;exact Z7v ds nf b2 m2 h1 h2 h3 fun b3 m3 q1 q2 q3 q9=>ih b3 m3 q1 q2 q3 om
 exact key (b.sz+1) b mm hf hop hz om
theorem Z7w (n:ZF) (qz:Nat) (hn:FO n qz VI:=by exact ob) (hqz:qz<=10000000:=by exact ob):Zp 78 [YG n] [] (fun r h=>∃(n2:ZF),r=YG n2/\h=[]/\FO n2 qz VI):=by
 have hnl:=hn.fn.len
 have Xn:=hn.fn.decls.ok
 have hok:=hn.fn.ok
 refine ZG 36 Tryz.func78 (ar (iA (X8 n) fun b1=>iA [nl,nl] fun b2=>ie (Zs 2 [1] (Zv [] (Bf n.decls) (iL (Xa []) 0 5 fun v1=>Z0 1 (iA [nl,nl] fun b3=>?_))))))
 refine Zy 0 b3 [Y5 n.decls,WT [] v1] (ie (Y8 (ab 0 (Y6 (fun fz gz m F h=>∃(k:Nat) (rs:List YF) (u:Value),(k<=n.routines.length)/\(rs.length=k)/\(∀r∈rs,RF n.decls n.routines.length qz VI r)/\F=sF [1,2,3] fz [(4,.i k)]/\h=[.obj b3 [Y5 n.decls,WT rs u],Zg gz 2,Zg gz 3,.tail u 5]/\m=n.routines.length-k) _ _ _ ⟨0,[],v1,ob,ob,(fun r hr=>by cases hr),rfl,rfl,rfl⟩ (wk [0,1,1,0] (Ye fl)) ?_))))
 rintro m F h ⟨k,rs,u,Yk,Zh,ZB,rfl,rfl,rfl⟩
 refine Yp 3 [2] (iw (TW n.routines) (Y2 ((k:Int)<(n.routines.length:Int)) (fun Za=>?_) (fun Za=>?_)))
 ·refine ak (aq (ab 1 (aE 19 (ZZ 14 19 [0,1,2,3,4] [0,2] ?_))))
  obtain ⟨x1,Z3⟩:=Zu n.routines k om
  have hrf:=hn.rf (Y7 Z3)
  have hrp:(x1).params.length<=3:=(Tt.bd (f:=⟨(x1).params,(x1).result,default⟩) hrf.sig).1
  have hrl:=hrf.lent.1
  have hrz:=hrf.body.2
  refine dx 5 (Zi none (k:Int) 5 (VS Z3)) (ZZ 9 13 [6,7,8,9] [2] (dx 10 (Zi none (k:Int) 5 (VS Z3)) (Zo 6 8 [11,12] (Z7 13 (dc 13 [] [2,0] [b1,b3] (Z7u n.decls n.routines.length x1.body _ (hf:=hrf.body.1) (hop:=hrf.op)) ?_)))))
  rintro _ _ ⟨y1,rfl,rfl,Y9⟩
  have hkb0:=Y9
  have hkb:=hkb0.le (z2:=qz) hrz
  exact Z7 14 (YE 14 [] [0] [b3] (Ed x1 y1 (hp:=om) (hl:=om)) (Z7 15 (dL 15 [0] [b3] (Xa [YF.mk x1.params x1.lent x1.result y1]) 1 5 fun v2=>Yx 3 3 [] [(32,JL [YF.mk x1.params x1.lent x1.result y1])] (Z7 16 (dp 16 4 [] [] (Xa (rs++[YF.mk x1.params x1.lent x1.result y1])) (Xa rs) (Xa [YF.mk x1.params x1.lent x1.result y1]) u none 5 (Tc _) (Tc _) (BC _) (by simp<;>omega) (by simp [Dy,Xa]) fun v3=>Zo 1 2 [17] (Z7 18 (X1 18 2 [] [] b3 [Y5 n.decls,WT (rs++[YF.mk x1.params x1.lent x1.result y1]) v3] (de (az (Z0 1 (ZE k (Z2 (ZH ⟨k+1,(rs++[YF.mk x1.params x1.lent x1.result y1]),v3,ob,ob,(XG ZB (hrf.with hkb.fb hkb.sz hkb.op)),rfl,rfl,rfl⟩ (wk [0,2,2,0] (ZJ k fl)))))))))))))))
 exact ax 0 (Zs 1 [0] (Zy 1 b2 [Y5 n.decls,WT rs u] (ie (ZQ (r3 [] [.agg [Y5 n.decls,WT rs u]] [0] [(b2,b2)] ⟨(ZF.mk n.decls rs),rfl,rfl,(FO.fin hn.fn om ZB).1⟩ (Ze.agg (.cons (lr _) (.cons (Ze.forget _ _) .nil))))))))
theorem R7 (b:Nat) (ga:Hd) (gb:Hd) (gc:Hd) (gd:Hd) (ge:Hd) (gf:Hd) (n:ZF) (s:Z5) (L:ZM) (ln:LI) (q:Int) (i:Nat) (kb0:Z8) (m:LI) (hn:Xx n:=by exact ob) (hk:XK n.decls L q:=by exact ob) (hf:Cj n L.vars s:=by exact ob) (hop:s.op=7∨s.op=8:=by exact ob) (hkb:s.kids[i]? = some kb0:=by exact ob) (harm:(W2 n.decls s.op s.num)[i]? = some m:=by exact ob) (hbt:0<=W3 n (L.vars++m) kb0:=by exact ob) (hb:L.vars.length+4*s.sz<=1000000000:=by exact ob) (hq:0<=q/\q+4*s.sz<=999999990:=by exact ob) (hln:ln.length<=4294967296:=by exact ob) (ih:∀(b2:Z8) (c:Nat) (ra:Hd) (rb:Hd) (rc:Hd) (rd:Hd) (re:Hd) (rf:Hd) (M:ZM) (mm:Nat) (p:Int),(b2.sz<s.sz)->(XK n.decls M p)->(0<=W3 n M.vars b2)->(mm<=M.vars.length)->(M.vars.length+4*b2.sz<=1000000000)->(0<=p/\p+4*b2.sz<=999999990)->Zp 227 [.p c 0,YG n,Yo b2,.i mm] [.obj c [.h ra,.h rb,.h rc,.h rd,.h re,.h rf,Z4 ln],rV ra M.vars,rV rb M.own,rV rc M.par,rV rd M.con,rV re M.fst,rV rf M.tok] (fun r h=>(∃(wa:Hd) (wb:Hd) (wc:Hd) (wd:Hd) (we:Hd) (wf:Hd) (M':ZM),r=.b true/\h=[.obj c [.h wa,.h wb,.h wc,.h wd,.h we,.h wf,Z4 ln],rV wa M'.vars,rV wb M'.own,rV wc M'.par,rV wd M'.con,rV we M'.fst,rV wf M'.tok]/\U9 n ln M mm b2=some M')∨(r=.b false/\h=[]/\U9 n ln M mm b2=none))):Zp 206 [.p b 0,YG n,X5 s,.i i] [.obj b [.h ga,.h gb,.h gc,.h gd,.h ge,.h gf,Z4 ln],rV ga L.vars,rV gb L.own,rV gc L.par,rV gd L.con,rV ge L.fst,rV gf L.tok] (fun r h=>(∃(c:Nat) (wa:Hd) (wb:Hd) (wc:Hd) (wd:Hd) (we:Hd) (wf:Hd) (L':ZM),r=.tup [.p c 0,.b true]/\h=[.obj c [.h wa,.h wb,.h wc,.h wd,.h we,.h wf,Z4 ln],rV wa L'.vars,rV wb L'.own,rV wc L'.par,rV wd L'.con,rV we L'.fst,rV wf L'.tok,.obj b [.h ga,.h gb,.h gc,.h gd,.h ge,.h gf,Z4 ln],rV ga L.vars,rV gb L.own,rV gc L.par,rV gd L.con,rV ge L.fst,rV gf L.tok]/\U9 n ln (TN n.decls L s.op s.num s.args i) L.vars.length kb0=some L')∨(r=.tup [.any,.b false]/\h=[.obj b [.h ga,.h gb,.h gc,.h gd,.h ge,.h gf,Z4 ln],rV ga L.vars,rV gb L.own,rV gc L.par,rV gd L.con,rV ge L.fst,rV gf L.tok]/\U9 n ln (TN n.decls L s.op s.num s.args i) L.vars.length kb0=none)):=by
 obtain ⟨e1,e2,e3,e4,e5⟩:=hk.len
 have Xn:=hn.decls
 have hkz:=K9 s
 have haz:=Jr s
 have hK:=H9 hk hq.1 hf hop harm
 have hm3:=Nv Xn harm
 have hkl:=(Xc.1 hkb).1
 have hks:=Qo hkb
 refine ZG 83 Tryz.func206 (ar (iA (X8 n) fun b1=>iA (Wd s) fun b2=>Z2 (Zs 4 [2] (Zq (Db 3 ga L.vars) (Z2 (Yj 1 (ic [2,2,2,2,2,2,2] (Zbg b ga gb gc gd ge gf L ln (hlk:=hk.len)) ?_)))))))
 rintro _ _ ⟨c1,wa1,wb1,wc1,wd1,we1,wf1,rfl,rfl⟩
 refine Z2 (Xk (V0 [14] (ac (s.op==8) Zf (fun Za=>?_) (fun Za=>?_))))
 ·obtain ⟨x,hxa⟩:=hf.one om
  have ha:s.args[0]? = some x:=by rw [hxa];rfl
  have hx:=hf.args x (by rw [hxa];simp)
  obtain ⟨cc,hcc,hmc⟩:=Z39 Za harm
  have hal:=(Xc.1 ha).1
  have hcl:=(Xc.1 hcc).1
  have hm4:=hm3
  rw [hmc] at hm4
  refine Zs 4 [15,14] (ic [] (Jf n.decls s.num) ?_)
  rintro _ _ ⟨v1,rfl,rfl⟩
  refine Z0 1 (Zq (Zi (some v1) (i:Int) 1 (Yb hcc)) (Z2 (Zs 3 [16] (Zv [] (Qr n.decls cc) (Z2 (aD 11 (ZZ 5 11 [0,1,2,3,4,5] [1,15] (dx 6 (Zi none 0 1 (Yb ha)) (Zo 2 4 [7,8] (dx 9 (Uh 5 wd1 L.con x x.toNat (hq:=rfl)) (Z7 10 (Cw 10 5 [] [] wd1 L.con x.toNat cc (de (aD 11 (ZZ 5 11 [0,1,2,3,4,5] [2,15] (dx 6 (Zi none 0 1 (Yb ha)) (Zo 2 4 [7,8] (dx 9 (Uh 6 we1 L.fst x x.toNat (hq:=rfl)) (Z7 10 (Cw 10 6 [] [] we1 L.fst x.toNat (L.vars.length:Int) (de (Y3 (ab 0 (Y6 (fun fz gz m F h=>∃(k:Nat) (L3:ZM) (ka:Hd) (kb:Hd) (kc:Hd) (kd:Hd) (ke:Hd) (kf:Hd),(k<=(ZP n.decls cc).length)/\(Ts L3)/\(L3.vars.length=L.vars.length+k)/\(CK L3 x ((ZP n.decls cc).drop k)=Cq n.decls L x cc)/\F=sF [3,5,6,10,11,13] fz [(14,.i k)]/\h=[.obj c1 [.h ka,.h kb,.h kc,.h kd,.h ke,.h kf,Z4 ln],Zg gz 8,Zg gz 9,Zg gz 10,Zg gz 11,Zg gz 12,Zg gz 13,Zg gz 14,Zg gz 15,Zg gz 16,rV ka L3.vars,rV kb L3.own,rV kc L3.par,rV kd L3.con,rV ke L3.fst,rV kf L3.tok]/\m=(ZP n.decls cc).length-k) _ _ _ ⟨0,(ZM.mk L.vars L.own L.par (L.con.set x.toNat cc) (L.fst.set x.toNat (L.vars.length:Int)) L.tok),wa1,wb1,wc1,wd1,we1,wf1,ob,(Ts.arm hk.len),ob,(by rw [Cq];rfl),rfl,rfl,rfl⟩ (wk [3,7,7,7,7,7,7,7,7,7,3,3,3,1,0,1] (Ye fl) (e:=(rc (rc (rc (rc (rc (rc (rc (rc (rc (rc (rv (xs:=L.vars) ob (rv (xs:=L.own) ob (rv (xs:=L.par) ob (rv (xs:=(L.con.set x.toNat cc)) ob (rv (xs:=(L.fst.set x.toNat (L.vars.length:Int))) ob (rv (xs:=L.tok) ob rz)))))))))))))))))) ?_))))))))))))))))))))))))
  rintro m F h ⟨k,L3,ka,kb,kc,kd,ke,kf,Yk,Zh,ZB,YN,rfl,rfl,rfl⟩
  refine YP 2 (io (.i (((ZP n.decls cc).length:Nat):Int)) (.i (((Z6 (ZP n.decls cc)).length:Nat):Int)) (li (by rw [Yi])) (Y2 ((k:Int)<(((ZP n.decls cc).length:Nat):Int)) (fun Zj=>?_) (fun Zj=>?_)))
  ·refine ak (aq (ab 1 (aE 10 (Zo 7 10 [0,1,2] ?_))))
   obtain ⟨x1,Z3⟩:=Zu (ZP n.decls cc) k om
   refine dx 3 (Zi none (k:Int) 1 (Yb Z3)) (ZZ 3 6 [4,5,6] [8] (dx 7 (Zi none 0 1 (Yb ha)) (Zo 1 2 [8] (Z7 9 (dc 9 [0,9,9,9,9,9,9] [] [] (KA c1 ka kb kc kd ke kf L3 ln x1 0 x (hlk:=Zh)) ?_)))))
   rintro _ _ ⟨wa2,wb2,wc2,wd2,we2,wf2,rfl⟩
   exact de (az (Z0 1 (ZE k (Z2 (ZH ⟨k+1,(L3.grow x1 0 x),wa2,wb2,wc2,wd2,we2,wf2,ob,(Ts.grow Zh),(by simp [ZM.grow];omega),(by rw [Yl Z3,CK] at YN;exact YN),rfl,rfl,rfl⟩ (wk [0,6,6,6,6,6,6,6,6,6,0,0,0,0,0,0] (ZJ k fl)))))))
  have hE:TN n.decls L s.op s.num s.args i=L3:=by rw [Zaw Za ha hcc,<-YN,Xr om];rfl
  refine ax 0 (aD 12 (ZZ 6 12 [0,1,2,3,4,5] [9,8] (dx 6 (Zi none (i:Int) 2 (T0 hkb)) (Zo 3 5 [7,8] (Z7 9 (dc 9 [0,9,9,9,9,9,9] [] [] (ih kb0 c1 ka kb kc kd ke kf L3 L.vars.length q ob (by rw [<-hE];exact hK.1) (by rw [<-hE,hK.2];exact hbt) (by rw [<-hE,hK.2];simp) (by rw [<-hE,hK.2,Yr];omega) ob) ?_))))))
  rintro _ _ (⟨wa3,wb3,wc3,wd3,we3,wf3,M'1,rfl,rfl,Y9⟩|⟨rfl,rfl,Yt⟩)
  ·exact Zo 0 2 [10,11] (de (ZQ (r2 [0,0,0,0,0,0,0,0,0,0,0,0,0,0] [.p c1 0,.b true] (.inl ⟨c1,wa3,wb3,wc3,wd3,we3,wf3,M'1,rfl,rfl,(by rw [hE];exact Y9)⟩) (lr _))))
  exact Zo 0 2 [10,11] (de (ZQ (r2 [0,0,0,0,0,0,0] [.p c1 0,.b false] (.inr ⟨rfl,rfl,(by rw [hE];exact Yt)⟩) (Ze.tup (.cons (Ze.any _) (.cons (lr _) .nil))))))
 have hE:=Zax (ds:=n.decls) (L:=L) (num:=s.num) (args:=s.args) (i:=i) Za
 refine ak (aD 12 (ZZ 6 12 [0,1,2,3,4,5] [15,14] (dx 6 (Zi none (i:Int) 2 (T0 hkb)) (Zo 3 5 [7,8] (Z7 9 (dc 9 [0,0,0,0,0,0,0] [] [] (ih kb0 c1 wa1 wb1 wc1 wd1 we1 wf1 L L.vars.length q ob (by rw [<-hE];exact hK.1) (by rw [<-hE,hK.2];exact hbt) (by rw [<-hE,hK.2];simp) (by rw [<-hE,hK.2,Yr];omega) ob) ?_))))))
 rintro _ _ (⟨wa4,wb4,wc4,wd4,we4,wf4,M'2,rfl,rfl,YS⟩|⟨rfl,rfl,YX⟩)
 ·exact Zo 0 2 [10,11] (de (ZQ (r2 [0,0,0,0,0,0,0,0,0,0,0,0,0,0] [.p c1 0,.b true] (.inl ⟨c1,wa4,wb4,wc4,wd4,we4,wf4,M'2,rfl,rfl,(by rw [hE];exact YS)⟩) (lr _))))
 exact Zo 0 2 [10,11] (de (ZQ (r2 [0,0,0,0,0,0,0] [.p c1 0,.b false] (.inr ⟨rfl,rfl,(by rw [hE];exact YX)⟩) (Ze.tup (.cons (Ze.any _) (.cons (lr _) .nil))))))
theorem Zbf (b:Nat) (ga:Hd) (gb:Hd) (gc:Hd) (gd:Hd) (ge:Hd) (gf:Hd) (n:ZF) (s:Z5) (L:ZM) (ln:LI) (q:Int) (hn:Xx n:=by exact ob) (hk:XK n.decls L q:=by exact ob) (hf:Cj n L.vars s:=by exact ob) (hop:s.op=7∨s.op=8:=by exact ob) (hb:L.vars.length+4*s.sz<=1000000000:=by exact ob) (hq:0<=q/\q+4*s.sz<=999999990:=by exact ob) (hln:ln.length<=4294967296:=by exact ob) (ih:∀(b2:Z8) (c:Nat) (ra:Hd) (rb:Hd) (rc:Hd) (rd:Hd) (re:Hd) (rf:Hd) (M:ZM) (mm:Nat) (p:Int),(b2.sz<s.sz)->(XK n.decls M p)->(0<=W3 n M.vars b2)->(mm<=M.vars.length)->(M.vars.length+4*b2.sz<=1000000000)->(0<=p/\p+4*b2.sz<=999999990)->Zp 227 [.p c 0,YG n,Yo b2,.i mm] [.obj c [.h ra,.h rb,.h rc,.h rd,.h re,.h rf,Z4 ln],rV ra M.vars,rV rb M.own,rV rc M.par,rV rd M.con,rV re M.fst,rV rf M.tok] (fun r h=>(∃(wa:Hd) (wb:Hd) (wc:Hd) (wd:Hd) (we:Hd) (wf:Hd) (M':ZM),r=.b true/\h=[.obj c [.h wa,.h wb,.h wc,.h wd,.h we,.h wf,Z4 ln],rV wa M'.vars,rV wb M'.own,rV wc M'.par,rV wd M'.con,rV we M'.fst,rV wf M'.tok]/\U9 n ln M mm b2=some M')∨(r=.b false/\h=[]/\U9 n ln M mm b2=none))):Zp 167 [.p b 0,YG n,X5 s] [.obj b [.h ga,.h gb,.h gc,.h gd,.h ge,.h gf,Z4 ln],rV ga L.vars,rV gb L.own,rV gc L.par,rV gd L.con,rV ge L.fst,rV gf L.tok] (fun r h=>(∃(wa:Hd) (wb:Hd) (wc:Hd) (wd:Hd) (we:Hd) (wf:Hd) (L':ZM),r=.b true/\h=[.obj b [.h wa,.h wb,.h wc,.h wd,.h we,.h wf,Z4 ln],rV wa L'.vars,rV wb L'.own,rV wc L'.par,rV wd L'.con,rV we L'.fst,rV wf L'.tok]/\Cu n ln L s=some L')∨(r=.b false/\h=[]/\Cu n ln L s=none)):=by
 obtain ⟨e1,e2,e3,e4,e5⟩:=hk.len
 have Xn:=hn.decls
 have hkz:=K9 s
 have haz:=Jr s
 obtain ⟨hk1,hk2,hk3⟩:=hf.kids hop
 obtain ⟨kd,hkd⟩:=Zu s.kids 0 om
 obtain ⟨m0,hm0⟩:=Zu (W2 n.decls s.op s.num) 0 om
 obtain ⟨x,hxa⟩:=hf.one om
 have ha:s.args[0]? = some x:=by rw [hxa];rfl
 have hx:=hf.args x (by rw [hxa];simp)
 have hgx:=QB ha
 have hal:=(Xc.1 ha).1
 refine ZG 88 Tryz.func167 (ar (iA (X8 n) fun b1=>iA (Wd s) fun b2=>Z2 (Xk (Xu [0,4,5] [(23,.b ((s.op==8)&&(!T8 L ln x)))] (fun gz=>[Zg gz 2,Zg gz 3,Zg gz 4,Zg gz 5,Zg gz 6,Zg gz 7,Zg gz 8,Zg gz 0,Zg gz 1]) ?_ ?_))))
 ·refine ZA 4 [0] (ib (b:=(s.op==8)) 15 (fun Zc=>?_) (fun Zc=>?_))
  ·exact ZA 3 [0] (Zq (Zi none 0 1 (Yb ha)) (Z0 1 (Zv [2,2,2,2,2,2,2] (Hf b ga gb gc gd ge gf L ln x (hlk:=hk.len) (hd:=hk.down)) (Z2 (Zt 9 (Zl (!T8 L ln x) Zc fl))))))
  exact Z2 (wk [2,2,2,2,2,2,2,0,0] (Zl false Zc fl))
 refine ac ((s.op==8)&&(!T8 L ln x)) (p:=(s.op=8)/\(¬(T8 L ln x=true))) (Ys Zf (Yd Iff.rfl)) (fun Za=>?_) (fun Za=>?_)
 ·exact ar (Zm (r1 [] (.inr ⟨rfl,rfl,(by rw [Cu,Zk (by rw [hgx];exact Za)])⟩)))
 have hgo:=Z3u (n:=n) (ln:=ln) (L:=L) (s:=s) (by rw [hgx];exact Za) hkd
 refine ak (Zs 3 [8,7] (ic [0,0,0,0,0,0,0] (R7 b ga gb gc gd ge gf n s L ln q 0 kd m0 (hkb:=hkd) (harm:=hm0) (hbt:=(hk3 0 kd m0 hkd hm0)) (ih:=ob)) ?_))
 rintro _ _ (⟨c1,wa1,wb1,wc1,wd1,we1,wf1,L'1,rfl,rfl,YS⟩|⟨rfl,rfl,YX⟩)
 ·have hone:=YS
  obtain ⟨l1,l2⟩:=PW hn hk hq.1 hf hop hkd hm0 (hk3 0 kd m0 hkd hm0) hone
  refine Z2 (Y8 (Vb (ak (Y8 (ab 0 (Y6 (fun fz gz m F h=>∃(k:Nat),(1<=k/\k<=s.kids.length)/\(JE n ln L s.op s.num s.args L'1 (s.kids.drop k) k=JE n ln L s.op s.num s.args L'1 (s.kids.drop 1) 1)/\F=sF [0,4,5,7] fz [(9,.i k)]/\h=gz/\m=s.kids.length-k) _ _ _ ⟨1,ob,ob,rfl,rfl,rfl⟩ (Zt 16 (fc (x:=.i 1) li fl)) ?_))))))
  rintro m F h ⟨k,Yk,Zh,rfl,rfl,rfl⟩
  refine Yp 3 [14] (iw (Kw s.kids) (Y2 ((k:Int)<(s.kids.length:Int)) (fun Zj=>?_) (fun Zj=>?_)))
  ·obtain ⟨ke,hke⟩:=Zu s.kids k om
   obtain ⟨mk,hmk⟩:=Zu (W2 n.decls s.op s.num) k om
   have hcs:=Zaz (n:=n) (ln:=ln) (L:=L) (op:=s.op) (num:=s.num) (args:=s.args) (one:=L'1) hke
   refine ak (aq (ab 1 (Zs 4 [15,14] (ic [7,7,7,7,7,7,7] (R7 b ga gb gc gd ge gf n s L ln q k ke mk (hkb:=hke) (harm:=hmk) (hbt:=(hk3 k ke mk hke hmk)) (ih:=ob)) ?_))))
   rintro _ _ (⟨c2,wa2,wb2,wc2,wd2,we2,wf2,L'2,rfl,rfl,Xe⟩|⟨rfl,rfl,XP⟩)
   ·have htwo:=Xe
    obtain ⟨l3,l4⟩:=PW hn hk hq.1 hf hop hke hmk (hk3 k ke mk hke hmk) htwo
    refine Z2 (aD 26 (ZZ 15 26 [0,1,2,3,4,5,6,7,8,9,10] [14,0] (Z7 11 (Ac 11 [16,2] [] [] [rV wb1 L'1.own,rV wb2 L'2.own] (Z0n L'1.own L'2.own) Gf (gL (v:=wb1) 0 (gL (v:=wb2) 1 gN)) (J9 (J9 Ao)) ?_))))
    rintro _ _ ⟨rfl,rfl⟩
    refine AN [0,4,5,7,9] [(73,.b ((!(decide (L'1.own=L'2.own)))||(!(decide (L'1.tok=L'2.tok)))))] (fun gz=>gz) ?_ ?_
    ·refine Zo 11 14 [12,13,14] (db (b:=(!(decide (L'1.own=L'2.own)))) 62 (fun ZD=>?_) (fun ZD=>?_))
     ·exact Zo 0 11 [15,16,17,18,19,20,21,22,23,24,25] (de (Zt 23 (Zl true ZD fl)))
     refine ZZ 3 11 [15,16,17,18,19,20,21,22] [15,2] (Z7 23 (Ac 23 [20,7] [] [] [rV wf1 L'1.tok,rV wf2 L'2.tok] (Z0n L'1.tok L'2.tok) Gf (gL (v:=wf1) 0 (gL (v:=wf2) 1 gN)) (J9 (J9 Ao)) ?_))
     rintro _ _ ⟨rfl,rfl⟩
     exact Zo 0 2 [24,25] (de (wk [2,2,2,2,2,2,2,1,1,1,1,1,1,1,1,1,1,1,1,1,0,0,0] (Zl (!(decide (L'1.tok=L'2.tok))) ZD fl)))
    refine ac ((!(decide (L'1.own=L'2.own)))||(!(decide (L'1.tok=L'2.tok)))) (p:=(¬(L'1.own=L'2.own))∨(¬(L'1.tok=L'2.tok))) (ZO (Yd dq) (Yd dq)) (fun Zz=>?_) (fun Zz=>?_)
    ·exact ar (Zm (r1 [] (.inr ⟨rfl,rfl,(by rw [hgo,hone];exact Rj (by rw [<-Zh,hcs,htwo];exact Zeq Zz))⟩)))
    exact ak (az (Z0 1 (ZE k (Z2 (ZH ⟨k+1,ob,(by rw [hcs,htwo,Zer Zz] at Zh;exact Zh),rfl,rfl,rfl⟩ (wk [15,15,0,14,14,14,14,7,7,7,7,7,7,7,7,7] (ZJ k fl)))))))
   have htwo:=XP
   exact Z2 (aD 26 (Zo 0 26 [0,1,2,3,4,5,6,7,8,9,10,11,12,13,14,15,16,17,18,19,20,21,22,23,24,25] (de (Vk (ar (Zm (r1 [] (.inr ⟨rfl,rfl,(by rw [hgo,hone];exact Rj (by rw [<-Zh,hcs,htwo];rfl))⟩))))))))
  have hE:JE n ln L s.op s.num s.args L'1 (s.kids.drop 1) 1=true:=by rw [<-Zh,Xr om,JE]
  exact ax 0 (Zs 7 [0] (Zy 7 b [.h ga,.h wb1,.h gc,.h gd,.h ge,.h gf,Z4 ln] (ie (Zs 7 [1] (Zy 0 b [.h ga,.h wb1,.h gc,.h gd,.h ge,.h wf1,Z4 ln] (ie (ar (Zm (r1 [0,7,2,7,7,7,5] (.inl ⟨ga,wb1,gc,gd,ge,wf1,(ZM.mk L.vars L'1.own L.par L.con L.fst L'1.tok),rfl,rfl,(by rw [hgo,hone];exact Zbv hE)⟩) (eq:=(rc (rv (xs:=L.vars) ob (rv (xs:=L'1.own) ob (rv (xs:=L.par) ob (rv (xs:=L.con) ob (rv (xs:=L.fst) ob (rv (xs:=L'1.tok) ob rz)))))))))))))))))
 have hone:=YX
 exact Z2 (Y8 (Vk (ar (Zm (r1 [] (.inr ⟨rfl,rfl,(by rw [hgo,hone];rfl)⟩))))))
theorem R8 (b:Nat) (ga:Hd) (gb:Hd) (gc:Hd) (gd:Hd) (ge:Hd) (gf:Hd) (n:ZF) (s:Z5) (L:ZM) (ln:LI) (q:Int) (hn:Xx n:=by exact ob) (hk:XK n.decls L q:=by exact ob) (ht:0<=X0 n L.vars s:=by exact ob) (hb:L.vars.length+4*s.sz<=1000000000:=by exact ob) (hq:0<=q/\q+4*s.sz<=999999990:=by exact ob) (hln:ln.length<=4294967296:=by exact ob) (ih:∀(b2:Z8) (c:Nat) (ra:Hd) (rb:Hd) (rc:Hd) (rd:Hd) (re:Hd) (rf:Hd) (M:ZM) (mm:Nat) (p:Int),(b2.sz<s.sz)->(XK n.decls M p)->(0<=W3 n M.vars b2)->(mm<=M.vars.length)->(M.vars.length+4*b2.sz<=1000000000)->(0<=p/\p+4*b2.sz<=999999990)->Zp 227 [.p c 0,YG n,Yo b2,.i mm] [.obj c [.h ra,.h rb,.h rc,.h rd,.h re,.h rf,Z4 ln],rV ra M.vars,rV rb M.own,rV rc M.par,rV rd M.con,rV re M.fst,rV rf M.tok] (fun r h=>(∃(wa:Hd) (wb:Hd) (wc:Hd) (wd:Hd) (we:Hd) (wf:Hd) (M':ZM),r=.b true/\h=[.obj c [.h wa,.h wb,.h wc,.h wd,.h we,.h wf,Z4 ln],rV wa M'.vars,rV wb M'.own,rV wc M'.par,rV wd M'.con,rV we M'.fst,rV wf M'.tok]/\U9 n ln M mm b2=some M')∨(r=.b false/\h=[]/\U9 n ln M mm b2=none))):Zp 144 [.p b 0,YG n,X5 s] [.obj b [.h ga,.h gb,.h gc,.h gd,.h ge,.h gf,Z4 ln],rV ga L.vars,rV gb L.own,rV gc L.par,rV gd L.con,rV ge L.fst,rV gf L.tok] (fun r h=>(∃(wa:Hd) (wb:Hd) (wc:Hd) (wd:Hd) (we:Hd) (wf:Hd) (L':ZM),r=.b true/\h=[.obj b [.h wa,.h wb,.h wc,.h wd,.h we,.h wf,Z4 ln],rV wa L'.vars,rV wb L'.own,rV wc L'.par,rV wd L'.con,rV we L'.fst,rV wf L'.tok]/\QN n ln L s=some L')∨(r=.b false/\h=[]/\QN n ln L s=none)):=by
 obtain ⟨e1,e2,e3,e4,e5⟩:=hk.len
 have Xn:=hn.decls
 have hkz:=K9 s
 have haz:=Jr s
 have hf:=Z14 ht
 refine ZG 89 Tryz.func144 (ar (iA (X8 n) fun b1=>iA (Wd s) fun b2=>Z2 (aD 8 (ZZ 2 8 [0,1,2,3,4,5] [1,2,0] (Z7 6 (Ac 6 [3] [] [] [rV ga L.vars] (MO n L.vars s ob ob) Gf (gS (gL (v:=ga) 0 (gS gN))) (J9 Ao) ?_))))))
 rintro _ _ ⟨rfl,rfl⟩
 refine Zo 0 1 [7] (de (Y3 (Xk (V0 [1] (ab 0 (ar (YD (s.op==14) Zf (fun Za=>?_) (fun Za=>?_))))))))
 ·obtain ⟨x,hxa⟩:=hf.one om
  have ha:s.args[0]? = some x:=by rw [hxa];rfl
  have hx:=hf.args x (by rw [hxa];simp)
  have hgx:=QB ha
  have hal:=(Xc.1 ha).1
  obtain ⟨xo,hxo⟩:=Zu L.own x.toNat om
  have hgo:=Ti hxo
  have hob:=hk.bd xo (Y7 hxo)
  have hon:=hk.nn xo (Y7 hxo)
  refine Zs 3 [1] (Zq (Zi none 0 1 (Yb ha)) (Z0 1 (Zv [3,0,2,2,2,2,2] (Hf b ga gb gc gd ge gf L ln x (hlk:=hk.len) (hd:=hk.down)) (Z2 (aE 21 (ZZ 15 21 [0,1,2,3,4,5] [0,7] (dx 6 (Zi none 0 1 (Yb ha)) (ZZ 7 14 [7,8,9,10,11,12,13] [0,7] (dx 14 (Zi none 0 1 (Yb ha)) (Zo 5 6 [15] (dx 16 (Uh 2 gb L.own x x.toNat (hq:=rfl)) (UC 17 (Qt 2 gb L.own x.toNat xo hxo) (da 18 ((xo+1)) ((xo)+(1)) (dx 19 (Uh 2 gb L.own x x.toNat (hq:=rfl)) (Z7 20 (Cw 20 2 [] [] gb L.own x.toNat (xo+1) (de (Xk (YD (!T8 L ln x) (p:=¬(T8 L ln x=true)) (Yd Iff.rfl) (fun Zj=>?_) (fun Zj=>?_))))))))))))))))))))
  ·have hP:=(RQ (n:=n) (ln:=ln) (L:=L) Za hgx).trans (Z56 Zj)
   exact ar (Zm (r1 [] (.inr ⟨rfl,rfl,(by rw [To,hP];first|rfl|exact Te (by assumption)|exact Tf (by assumption) (by assumption)|exact Tg (by assumption))⟩)))
  have hP:=(RQ (n:=n) (ln:=ln) (L:=L) Za hgx).trans (Z57 Zj hgo)
  obtain ⟨kx,hxv⟩:=Fj hn hk hq.1 hf hP
  refine ak (Yp 2 [7] (Zv [] (Km s.op) (Xu [0,5,7] [(80,.b (Xh s.op&&((X0 n L.vars s) != 0)))] (fun gz=>gz) ?_ ?_)))
  ·refine Z0 1 (ib (b:=Xh s.op) 77 (fun Zc=>?_) (fun Zc=>?_))
   ·exact Z2 (Zt 9 (Zl ((X0 n L.vars s) != 0) Zc fl))
   exact Z2 (Zt 9 (Zl false Zc fl))
  refine ac (Xh s.op&&((X0 n L.vars s) != 0)) (p:=(Xh s.op=true)/\((X0 n L.vars s)≠0)) (Ys Iff.rfl Ym) (fun Zz=>?_) (fun Zz=>?_)
  ·refine az (Z0 2 (ic [1,1,0,0,0,0,0] (KA b ga gb gc gd ge gf (ZM.mk L.vars (L.own.set x.toNat (xo+1)) L.par L.con L.fst L.tok) ln (X0 n L.vars s) 1 (-1) (hlb:=(by rw [hxv];omega)) (hlk:=kx.len)) ?_))
   rintro _ _ ⟨wa1,wb1,wc1,wd1,we1,wf1,rfl⟩
   exact ie (ar (Zm (r1 [0,0,0,0,0,0,0] (.inl ⟨wa1,wb1,wc1,wd1,we1,wf1,((ZM.mk L.vars (L.own.set x.toNat (xo+1)) L.par L.con L.fst L.tok).grow (X0 n L.vars s) 1 (-1)),rfl,rfl,(by rw [To,hP];first|rfl|exact Te (by assumption)|exact Tf (by assumption) (by assumption)|exact Tg (by assumption))⟩))))
  refine Zs 2 [7] (Zv [] (Km s.op) (ie (ac (Xh s.op) Iff.rfl (fun Yg=>?_) (fun Yg=>?_))))
  ·refine az (Z0 1 (ic [1,1,0,0,0,0,0] (KA b ga gb gc gd ge gf (ZM.mk L.vars (L.own.set x.toNat (xo+1)) L.par L.con L.fst L.tok) ln 0 0 (-1) (hlb:=(by rw [hxv];omega)) (hlk:=kx.len)) ?_))
   rintro _ _ ⟨wa2,wb2,wc2,wd2,we2,wf2,rfl⟩
   exact ie (ar (Zm (r1 [0,0,0,0,0,0,0] (.inl ⟨wa2,wb2,wc2,wd2,we2,wf2,((ZM.mk L.vars (L.own.set x.toNat (xo+1)) L.par L.con L.fst L.tok).grow 0 0 (-1)),rfl,rfl,(by rw [To,hP];first|rfl|exact Te (by assumption)|exact Tf (by assumption) (by assumption)|exact Tg (by assumption))⟩))))
  exact ak (ar (Zm (r1 [1,1,0,0,0,0,0] (.inl ⟨ga,gb,gc,gd,ge,gf,(ZM.mk L.vars (L.own.set x.toNat (xo+1)) L.par L.con L.fst L.tok),rfl,rfl,(by rw [To,hP];first|rfl|exact Te (by assumption)|exact Tf (by assumption) (by assumption)|exact Tg (by assumption))⟩) (eq:=(rc (rv (xs:=L.vars) ob (rv (xs:=(L.own.set x.toNat (xo+1))) ob (rv (xs:=L.par) ob (rv (xs:=L.con) ob (rv (xs:=L.fst) ob (rv (xs:=L.tok) ob rz)))))))))))
 refine ar (YD (s.op==15) Zf (fun YL=>?_) (fun YL=>?_))
 ·obtain ⟨x,hxa⟩:=hf.one om
  have ha:s.args[0]? = some x:=by rw [hxa];rfl
  have hx:=hf.args x (by rw [hxa];simp)
  have hgx:=QB ha
  have hal:=(Xc.1 ha).1
  refine az (ZA 3 [1] (Zq (Zi none 0 1 (Yb ha)) (Z0 1 (ic [3,0,2,2,2,2,2] (Hg b ga gb gc gd ge gf L ln x (hlk:=hk.len) (hq:=(fun y hy=>⟨hk.nn y hy,by have:=hk.bd y hy;omega⟩))) ?_))))
  rintro _ _ (⟨wa3,wb3,wc3,wd3,we3,wf3,L'1,rfl,rfl,YS⟩|⟨rfl,rfl,YX⟩)
  ·have hP:=(RR (n:=n) (ln:=ln) (L:=L) YL hgx).trans (YS)
   obtain ⟨kx,hxv⟩:=Fj hn hk hq.1 hf hP
   refine Z2 (Y8 (Vb (ak (Yp 2 [7] (Zv [] (Km s.op) (Xu [0,5,7] [(80,.b (Xh s.op&&((X0 n L.vars s) != 0)))] (fun gz=>gz) ?_ ?_))))))
   ·refine Z0 1 (ib (b:=Xh s.op) 77 (fun ZD=>?_) (fun ZD=>?_))
    ·exact Z2 (Zt 9 (Zl ((X0 n L.vars s) != 0) ZD fl))
    exact Z2 (Zt 9 (Zl false ZD fl))
   refine ac (Xh s.op&&((X0 n L.vars s) != 0)) (p:=(Xh s.op=true)/\((X0 n L.vars s)≠0)) (Ys Iff.rfl Ym) (fun X3=>?_) (fun X3=>?_)
   ·refine az (Z0 2 (ic [0,0,0,0,0,0,0] (KA b wa3 wb3 wc3 wd3 we3 wf3 L'1 ln (X0 n L.vars s) 1 (-1) (hlb:=(by rw [hxv];omega)) (hlk:=kx.len)) ?_))
    rintro _ _ ⟨wa4,wb4,wc4,wd4,we4,wf4,rfl⟩
    exact ie (ar (Zm (r1 [0,0,0,0,0,0,0] (.inl ⟨wa4,wb4,wc4,wd4,we4,wf4,(L'1.grow (X0 n L.vars s) 1 (-1)),rfl,rfl,(by rw [To,hP];first|rfl|exact Te (by assumption)|exact Tf (by assumption) (by assumption)|exact Tg (by assumption))⟩))))
   refine Zs 2 [7] (Zv [] (Km s.op) (ie (ac (Xh s.op) Iff.rfl (fun Wz=>?_) (fun Wz=>?_))))
   ·refine az (Z0 1 (ic [0,0,0,0,0,0,0] (KA b wa3 wb3 wc3 wd3 we3 wf3 L'1 ln 0 0 (-1) (hlb:=(by rw [hxv];omega)) (hlk:=kx.len)) ?_))
    rintro _ _ ⟨wa5,wb5,wc5,wd5,we5,wf5,rfl⟩
    exact ie (ar (Zm (r1 [0,0,0,0,0,0,0] (.inl ⟨wa5,wb5,wc5,wd5,we5,wf5,(L'1.grow 0 0 (-1)),rfl,rfl,(by rw [To,hP];first|rfl|exact Te (by assumption)|exact Tf (by assumption) (by assumption)|exact Tg (by assumption))⟩))))
   exact ak (ar (Zm (r1 [0,0,0,0,0,0,0] (.inl ⟨wa3,wb3,wc3,wd3,we3,wf3,L'1,rfl,rfl,(by rw [To,hP];first|rfl|exact Te (by assumption)|exact Tf (by assumption) (by assumption)|exact Tg (by assumption))⟩))))
  have hP:=(RR (n:=n) (ln:=ln) (L:=L) YL hgx).trans (YX)
  exact Z2 (Y8 (Vk (ar (Zm (r1 [] (.inr ⟨rfl,rfl,(by rw [To,hP];first|rfl|exact Te (by assumption)|exact Tf (by assumption) (by assumption)|exact Tg (by assumption))⟩))))))
 refine Y8 (XC (fun fz gz F h=>F=sF [0,4,5,7,17] fz [(58,.b ((s.op==16)||(s.op==17)))]/\h=gz) ?_ ?_)
 ·refine ac (s.op==16) Zf (fun VK=>?_) (fun VK=>?_)
  ·exact ak (ZI ⟨rfl,rfl⟩ (Zt 9 (fc (x:=.b (s.op==16)) (lb (by first|rfl|(rw [Zk VK])|(rw [Zb VK])|(simp [VK];done)|(rw [Yc];simp [VK];done)|omega)) fl)))
  exact VC (ZI ⟨rfl,rfl⟩ (Zt 9 (fc (x:=.b (s.op==17)) (lb (by first|rfl|(rw [Zk VK])|(rw [Zb VK])|(simp [VK];done)|(rw [Yc];simp [VK];done)|omega)) fl)))
 rintro F h ⟨rfl,rfl⟩
 refine ac ((s.op==16)||(s.op==17)) (p:=(s.op=16)∨(s.op=17)) (ZO Zf Zf) (fun Ve=>?_) (fun Ve=>?_)
 ·obtain ⟨x,hxa⟩:=hf.one om
  have ha:s.args[0]? = some x:=by rw [hxa];rfl
  have hx:=hf.args x (by rw [hxa];simp)
  have hgx:=QB ha
  have hal:=(Xc.1 ha).1
  refine az (ZA 3 [2,1] (ic [3,0,2,2,2,2,2] (Zbi b ga gb gc gd ge gf n s L ln q x) ?_))
  rintro _ _ (⟨wa6,wb6,wc6,wd6,we6,wf6,L'2,rfl,rfl,Wf⟩|⟨rfl,rfl,WL⟩)
  ·have hP:=(RS (n:=n) (ln:=ln) (L:=L) Ve hgx).trans (Wf)
   obtain ⟨kx,hxv⟩:=Fj hn hk hq.1 hf hP
   refine Z2 (Y8 (Vb (ak (Yp 2 [7] (Zv [] (Km s.op) (Xu [0,5,7] [(80,.b (Xh s.op&&((X0 n L.vars s) != 0)))] (fun gz=>gz) ?_ ?_))))))
   ·refine Z0 1 (ib (b:=Xh s.op) 77 (fun Yf=>?_) (fun Yf=>?_))
    ·exact Z2 (Zt 9 (Zl ((X0 n L.vars s) != 0) Yf fl))
    exact Z2 (Zt 9 (Zl false Yf fl))
   refine ac (Xh s.op&&((X0 n L.vars s) != 0)) (p:=(Xh s.op=true)/\((X0 n L.vars s)≠0)) (Ys Iff.rfl Ym) (fun Vv=>?_) (fun Vv=>?_)
   ·refine az (Z0 2 (ic [0,0,0,0,0,0,0] (KA b wa6 wb6 wc6 wd6 we6 wf6 L'2 ln (X0 n L.vars s) 1 (-1) (hlb:=(by rw [hxv];omega)) (hlk:=kx.len)) ?_))
    rintro _ _ ⟨wa7,wb7,wc7,wd7,we7,wf7,rfl⟩
    exact ie (ar (Zm (r1 [0,0,0,0,0,0,0] (.inl ⟨wa7,wb7,wc7,wd7,we7,wf7,(L'2.grow (X0 n L.vars s) 1 (-1)),rfl,rfl,(by rw [To,hP];first|rfl|exact Te (by assumption)|exact Tf (by assumption) (by assumption)|exact Tg (by assumption))⟩))))
   refine Zs 2 [7] (Zv [] (Km s.op) (ie (ac (Xh s.op) Iff.rfl (fun Tx=>?_) (fun Tx=>?_))))
   ·refine az (Z0 1 (ic [0,0,0,0,0,0,0] (KA b wa6 wb6 wc6 wd6 we6 wf6 L'2 ln 0 0 (-1) (hlb:=(by rw [hxv];omega)) (hlk:=kx.len)) ?_))
    rintro _ _ ⟨wa8,wb8,wc8,wd8,we8,wf8,rfl⟩
    exact ie (ar (Zm (r1 [0,0,0,0,0,0,0] (.inl ⟨wa8,wb8,wc8,wd8,we8,wf8,(L'2.grow 0 0 (-1)),rfl,rfl,(by rw [To,hP];first|rfl|exact Te (by assumption)|exact Tf (by assumption) (by assumption)|exact Tg (by assumption))⟩))))
   exact ak (ar (Zm (r1 [0,0,0,0,0,0,0] (.inl ⟨wa6,wb6,wc6,wd6,we6,wf6,L'2,rfl,rfl,(by rw [To,hP];first|rfl|exact Te (by assumption)|exact Tf (by assumption) (by assumption)|exact Tg (by assumption))⟩))))
  have hP:=(RS (n:=n) (ln:=ln) (L:=L) Ve hgx).trans (WL)
  exact Z2 (Y8 (Vk (ar (Zm (r1 [] (.inr ⟨rfl,rfl,(by rw [To,hP];first|rfl|exact Te (by assumption)|exact Tf (by assumption) (by assumption)|exact Tg (by assumption))⟩))))))
 refine Y8 (XC (fun fz gz F h=>F=sF [0,4,5,7] fz [(65,.b ((s.op==7)||(s.op==8)))]/\h=gz) ?_ ?_)
 ·refine ac (s.op==7) Zf (fun Vw=>?_) (fun Vw=>?_)
  ·exact ak (ZI ⟨rfl,rfl⟩ (Zt 9 (fc (x:=.b (s.op==7)) (lb (by first|rfl|(rw [Zk Vw])|(rw [Zb Vw])|(simp [Vw];done)|(rw [Yc];simp [Vw];done)|omega)) fl)))
  exact VC (ZI ⟨rfl,rfl⟩ (Zt 9 (fc (x:=.b (s.op==8)) (lb (by first|rfl|(rw [Zk Vw])|(rw [Zb Vw])|(simp [Vw];done)|(rw [Yc];simp [Vw];done)|omega)) fl)))
 rintro F h ⟨rfl,rfl⟩
 refine ac ((s.op==7)||(s.op==8)) (p:=(s.op=7)∨(s.op=8)) (ZO Zf Zf) (fun TY=>?_) (fun TY=>?_)
 ·refine az (ZA 3 [2,1] (ic [3,0,2,2,2,2,2] (Zbf b ga gb gc gd ge gf n s L ln q (ih:=ob)) ?_))
  rintro _ _ (⟨wa9,wb9,wc9,wd9,we9,wf9,L'3,rfl,rfl,Ty⟩|⟨rfl,rfl,Tk⟩)
  ·have hP:=(RT (n:=n) (ln:=ln) (L:=L) TY).trans (Ty)
   obtain ⟨kx,hxv⟩:=Fj hn hk hq.1 hf hP
   refine Z2 (Y8 (Vb (ak (Yp 2 [7] (Zv [] (Km s.op) (Xu [0,5,7] [(80,.b (Xh s.op&&((X0 n L.vars s) != 0)))] (fun gz=>gz) ?_ ?_))))))
   ·refine Z0 1 (ib (b:=Xh s.op) 77 (fun YR=>?_) (fun YR=>?_))
    ·exact Z2 (Zt 9 (Zl ((X0 n L.vars s) != 0) YR fl))
    exact Z2 (Zt 9 (Zl false YR fl))
   refine ac (Xh s.op&&((X0 n L.vars s) != 0)) (p:=(Xh s.op=true)/\((X0 n L.vars s)≠0)) (Ys Iff.rfl Ym) (fun CM=>?_) (fun CM=>?_)
   ·refine az (Z0 2 (ic [0,0,0,0,0,0,0] (KA b wa9 wb9 wc9 wd9 we9 wf9 L'3 ln (X0 n L.vars s) 1 (-1) (hlb:=(by rw [hxv];omega)) (hlk:=kx.len)) ?_))
    rintro _ _ ⟨wa10,wb10,wc10,wd10,we10,wf10,rfl⟩
    exact ie (ar (Zm (r1 [0,0,0,0,0,0,0] (.inl ⟨wa10,wb10,wc10,wd10,we10,wf10,(L'3.grow (X0 n L.vars s) 1 (-1)),rfl,rfl,(by rw [To,hP];first|rfl|exact Te (by assumption)|exact Tf (by assumption) (by assumption)|exact Tg (by assumption))⟩))))
   refine Zs 2 [7] (Zv [] (Km s.op) (ie (ac (Xh s.op) Iff.rfl (fun EN=>?_) (fun EN=>?_))))
   ·refine az (Z0 1 (ic [0,0,0,0,0,0,0] (KA b wa9 wb9 wc9 wd9 we9 wf9 L'3 ln 0 0 (-1) (hlb:=(by rw [hxv];omega)) (hlk:=kx.len)) ?_))
    rintro _ _ ⟨wa11,wb11,wc11,wd11,we11,wf11,rfl⟩
    exact ie (ar (Zm (r1 [0,0,0,0,0,0,0] (.inl ⟨wa11,wb11,wc11,wd11,we11,wf11,(L'3.grow 0 0 (-1)),rfl,rfl,(by rw [To,hP];first|rfl|exact Te (by assumption)|exact Tf (by assumption) (by assumption)|exact Tg (by assumption))⟩))))
   exact ak (ar (Zm (r1 [0,0,0,0,0,0,0] (.inl ⟨wa9,wb9,wc9,wd9,we9,wf9,L'3,rfl,rfl,(by rw [To,hP];first|rfl|exact Te (by assumption)|exact Tf (by assumption) (by assumption)|exact Tg (by assumption))⟩))))
  have hP:=(RT (n:=n) (ln:=ln) (L:=L) TY).trans (Tk)
  exact Z2 (Y8 (Vk (ar (Zm (r1 [] (.inr ⟨rfl,rfl,(by rw [To,hP];first|rfl|exact Te (by assumption)|exact Tf (by assumption) (by assumption)|exact Tg (by assumption))⟩))))))
 refine az (ZA 3 [2,1] (ic [3,0,2,2,2,2,2] (Zbh b ga gb gc gd ge gf n s L ln q (hnum:=hf.num) (hargs:=hf.args) (hinto:=(fun q=>(hf.into om).2))) ?_))
 rintro _ _ (⟨wa12,wb12,wc12,wd12,we12,wf12,L'4,rfl,rfl,JC⟩|⟨rfl,rfl,JD⟩)
 ·have hP:=(RU (n:=n) (ln:=ln) (L:=L) Za YL Ve TY).trans (JC)
  obtain ⟨kx,hxv⟩:=Fj hn hk hq.1 hf hP
  refine Z2 (Y8 (Vb (ak (Yp 2 [7] (Zv [] (Km s.op) (Xu [0,5,7] [(80,.b (Xh s.op&&((X0 n L.vars s) != 0)))] (fun gz=>gz) ?_ ?_))))))
  ·refine Z0 1 (ib (b:=Xh s.op) 77 (fun Xt=>?_) (fun Xt=>?_))
   ·exact Z2 (Zt 9 (Zl ((X0 n L.vars s) != 0) Xt fl))
   exact Z2 (Zt 9 (Zl false Xt fl))
  refine ac (Xh s.op&&((X0 n L.vars s) != 0)) (p:=(Xh s.op=true)/\((X0 n L.vars s)≠0)) (Ys Iff.rfl Ym) (fun Ky=>?_) (fun Ky=>?_)
  ·refine az (Z0 2 (ic [0,0,0,0,0,0,0] (KA b wa12 wb12 wc12 wd12 we12 wf12 L'4 ln (X0 n L.vars s) 1 (-1) (hlb:=(by rw [hxv];omega)) (hlk:=kx.len)) ?_))
   rintro _ _ ⟨wa13,wb13,wc13,wd13,we13,wf13,rfl⟩
   exact ie (ar (Zm (r1 [0,0,0,0,0,0,0] (.inl ⟨wa13,wb13,wc13,wd13,we13,wf13,(L'4.grow (X0 n L.vars s) 1 (-1)),rfl,rfl,(by rw [To,hP];first|rfl|exact Te (by assumption)|exact Tf (by assumption) (by assumption)|exact Tg (by assumption))⟩))))
  refine Zs 2 [7] (Zv [] (Km s.op) (ie (ac (Xh s.op) Iff.rfl (fun Kz=>?_) (fun Kz=>?_))))
  ·refine az (Z0 1 (ic [0,0,0,0,0,0,0] (KA b wa12 wb12 wc12 wd12 we12 wf12 L'4 ln 0 0 (-1) (hlb:=(by rw [hxv];omega)) (hlk:=kx.len)) ?_))
   rintro _ _ ⟨wa14,wb14,wc14,wd14,we14,wf14,rfl⟩
   exact ie (ar (Zm (r1 [0,0,0,0,0,0,0] (.inl ⟨wa14,wb14,wc14,wd14,we14,wf14,(L'4.grow 0 0 (-1)),rfl,rfl,(by rw [To,hP];first|rfl|exact Te (by assumption)|exact Tf (by assumption) (by assumption)|exact Tg (by assumption))⟩))))
  exact ak (ar (Zm (r1 [0,0,0,0,0,0,0] (.inl ⟨wa12,wb12,wc12,wd12,we12,wf12,L'4,rfl,rfl,(by rw [To,hP];first|rfl|exact Te (by assumption)|exact Tf (by assumption) (by assumption)|exact Tg (by assumption))⟩))))
 have hP:=(RU (n:=n) (ln:=ln) (L:=L) Za YL Ve TY).trans (JD)
 exact Z2 (Y8 (Vk (ar (Zm (r1 [] (.inr ⟨rfl,rfl,(by rw [To,hP];first|rfl|exact Te (by assumption)|exact Tf (by assumption) (by assumption)|exact Tg (by assumption))⟩))))))
theorem Zbd (c:Nat) (ga:Hd) (gb:Hd) (gc:Hd) (gd:Hd) (ge:Hd) (gf:Hd) (n:ZF) (b:Z8) (L:ZM) (ln:LI) (q:Int) (mm:Nat) (hn:Xx n) (hk:XK n.decls L q) (ht:0<=W3 n L.vars b) (hm:mm<=L.vars.length) (hb:L.vars.length+4*b.sz<=1000000000) (hq:0<=q/\q+4*b.sz<=999999990) (hln:ln.length<=4294967296) (ih:∀(s2:Z5) (c:Nat) (ra:Hd) (rb:Hd) (rc:Hd) (rd:Hd) (re:Hd) (rf:Hd) (M:ZM) (p:Int),(s2.sz<b.sz)->(XK n.decls M p)->(0<=X0 n M.vars s2)->(M.vars.length+4*s2.sz<=1000000000)->(0<=p/\p+4*s2.sz<=999999990)->Zp 144 [.p c 0,YG n,X5 s2] [.obj c [.h ra,.h rb,.h rc,.h rd,.h re,.h rf,Z4 ln],rV ra M.vars,rV rb M.own,rV rc M.par,rV rd M.con,rV re M.fst,rV rf M.tok] (fun r h=>(∃(wa:Hd) (wb:Hd) (wc:Hd) (wd:Hd) (we:Hd) (wf:Hd) (M':ZM),r=.b true/\h=[.obj c [.h wa,.h wb,.h wc,.h wd,.h we,.h wf,Z4 ln],rV wa M'.vars,rV wb M'.own,rV wc M'.par,rV wd M'.con,rV we M'.fst,rV wf M'.tok]/\QN n ln M s2=some M')∨(r=.b false/\h=[]/\QN n ln M s2=none))):Zp 227 [.p c 0,YG n,Yo b,.i mm] [.obj c [.h ga,.h gb,.h gc,.h gd,.h ge,.h gf,Z4 ln],rV ga L.vars,rV gb L.own,rV gc L.par,rV gd L.con,rV ge L.fst,rV gf L.tok] (fun r h=>(∃(wa:Hd) (wb:Hd) (wc:Hd) (wd:Hd) (we:Hd) (wf:Hd) (L':ZM),r=.b true/\h=[.obj c [.h wa,.h wb,.h wc,.h wd,.h we,.h wf,Z4 ln],rV wa L'.vars,rV wb L'.own,rV wc L'.par,rV wd L'.con,rV we L'.fst,rV wf L'.tok]/\U9 n ln L mm b=some L')∨(r=.b false/\h=[]/\U9 n ln L mm b=none)):=by
 have hbz:=b.sz_eq
 obtain ⟨vs,rt,hvs,hres,hrt⟩:=NF ht
 have hri:=Di hres
 have XQ:=UH b
 refine ZG 45 Tryz.func227 (ar (iA (X8 n) fun b1=>iA (W0 b) fun b2=>?_))
 refine Z2 (Y8 (ab 0 (Y6 (fun fz gz m F h=>∃(k:Nat) (q2:Int) (L2:ZM) (ka:Hd) (kb:Hd) (kc:Hd) (kd:Hd) (ke:Hd) (kf:Hd),(k<=b.steps.length)/\(XK n.decls L2 q2)/\(0<=q2/\q2+4*Yw (b.steps.drop k)<=999999990)/\(L2.vars.length+4*Yw (b.steps.drop k)<=1000000000)/\(UG n (b.steps.drop k) L2.vars=some vs)/\(JN n ln L2 (b.steps.drop k)=JN n ln L b.steps)/\(L.vars.length<=L2.vars.length)/\F=sF [0,3,5,6] fz [(9,.i k)]/\h=[Zg gz 0,Zg gz 1,.obj c [.h ka,.h kb,.h kc,.h kd,.h ke,.h kf,Z4 ln],rV ka L2.vars,rV kb L2.own,rV kc L2.par,rV kd L2.con,rV ke L2.fst,rV kf L2.tok]/\m=b.steps.length-k) _ _ _ ⟨0,q,L,ga,gb,gc,gd,ge,gf,ob,hk,(by rw [Ca];omega),(by rw [Ca];omega),hvs,rfl,om,rfl,rfl,rfl⟩ (Zt 9 (Ye fl)) ?_)))
 rintro m F h ⟨k,q2,L2,ka,kb,kc,kd,ke,kf,Yk,Zh,ZB,YN,Wi,QW,NN,rfl,rfl,rfl⟩
 refine Yp 3 [0] (iw (UK b.steps) (Y2 ((k:Int)<(b.steps.length:Int)) (fun Za=>?_) (fun Za=>?_)))
 ·obtain ⟨s1,hs1⟩:=Zu b.steps k om
  have hss:=Eh hs1
  have hdr:=Yl hs1
  have hz:Yw (b.steps.drop k)=s1.sz+Yw (b.steps.drop (k+1)):=by rw [hdr,Yw]
  rw [hdr] at Wi QW
  obtain ⟨g1,g2⟩:=Z16 Wi
  refine ak (aq (ab 1 (aD 9 (ZZ 4 9 [0,1,2,3,4] [1,0] (dx 5 (Zi none (k:Int) 5 (Vc hs1)) (Zo 2 3 [6] (Z7 7 (dc 7 [2,2,2,2,2,2,2] [] [] (ih s1 c ka kb kc kd ke kf L2 q2 ob Zh g1 om om) ?_))))))))
  rintro _ _ (⟨wa1,wb1,wc1,wd1,we1,wf1,M'1,rfl,rfl,Y9⟩|⟨rfl,rfl,Yt⟩)
  ·have hP:=Y9
   have kx:=Z13 hn Zh ZB.1 g1 hP
   exact Zo 0 1 [8] (de (Vb (ak (az (Z0 1 (ZE k (Z2 (ZH ⟨k+1,(q2+4*s1.sz),M'1,wa1,wb1,wc1,wd1,we1,wf1,ob,kx.1,om,(by rw [kx.2];have:=SW n L2.vars s1;omega),(by rw [kx.2];exact g2),(by rw [<-QW,JN,hP];rfl),(by rw [kx.2];have:=SW n L2.vars s1;omega),rfl,rfl,rfl⟩ (wk [7,7,0,0,0,0,0,0,0] (ZJ k fl))))))))))
  have hP:=Yt
  exact Zo 0 1 [8] (de (Vk (ar (Zm (r1 [] (.inr ⟨rfl,rfl,(by rw [Ix,<-QW,JN,hP];rfl)⟩))))))
 rw [Xr om] at Wi QW
 have hvv:L2.vars=vs:=by rw [UG] at Wi;exact Cf Wi
 have hB:U9 n ln L mm b=Ai mm b.result L2:=by rw [Ix,<-QW,JN];rfl
 obtain ⟨xr,hxr⟩:=Zu L2.vars b.result.toNat (by rw [hvv];omega)
 have hgr:=Ti hxr
 have hrl:0<=b.result/\b.result<L2.vars.length:=by rw [hvv];omega
 rw [UG] at Wi
 refine ax 0 (aq (aD 16 (ZZ 10 16 [0,1,2,3,4,5] [2,0] (dx 6 (Uh 3 ka L2.vars b.result b.result.toNat (hq:=rfl)) (UC 7 (Qt 3 ka L2.vars b.result.toNat xr hxr) (Zo 6 8 [8,9] (db (b:=(xr != 0)) 35 (fun Zc=>?_) (fun Zc=>?_))))))))
 ·have YS:xr≠0:=(Ym).1 Zc
  refine ZZ 3 6 [10,11,12] [0] (Z7 13 (dc 13 [2,2,2,2,2,2,2] [] [] (Hg c ka kb kc kd ke kf L2 ln b.result (hlk:=Zh.len) (hq:=(fun y hy=>⟨Zh.nn y hy,by have:=Zh.bd y hy;omega⟩))) ?_))
  rintro _ _ (⟨wa2,wb2,wc2,wd2,we2,wf2,L'1,rfl,rfl,YX⟩|⟨rfl,rfl,Xe⟩)
  ·have hE:=hB.trans (Z5t hgr (by assumption) YX)
   have kx:=Zh.take YX
   have hxv:L'1.vars.length=L2.vars.length:=by rw [(JO YX).2.1]
   refine Zo 0 2 [14,15] (de (Vb (ak (Yj 2 (ic [0,0,0,0,0,0,0] (R6 c wa2 wb2 wc2 wd2 we2 wf2 L'1 ln mm (hlk:=(by first|exact kx.len|exact Zh.len)) (hlb:=om) (hm:=om)) ?_)))))
   rintro _ _ (⟨wa3,wb3,wc3,wd3,we3,wf3,L'2,rfl,rfl,XP⟩|⟨rfl,rfl,Wf⟩)
   ·exact Zm (r1 [0,0,0,0,0,0,0] (.inl ⟨wa3,wb3,wc3,wd3,we3,wf3,L'2,rfl,rfl,(by first|exact hE|(rw [hE];exact XP)|(rw [hB,ED hgr (by assumption)];exact XP))⟩))
   exact Zm (r1 [] (.inr ⟨rfl,rfl,(by first|exact hE|(rw [hE];exact Wf)|(rw [hB,ED hgr (by assumption)];exact Wf))⟩))
  have hE:=hB.trans (Z5s hgr (by assumption) Xe)
  exact Zo 0 2 [14,15] (de (Vk (ar (Zm (r1 [] (.inr ⟨rfl,rfl,(by first|exact hE|(rw [hE];exact Xe)|(rw [hB,ED hgr (by assumption)];exact Xe))⟩))))))
 have WL:¬(xr≠0):=Y4 Ym Zc
 refine Zo 0 6 [10,11,12,13,14,15] (de (Vb (ak (Yj 2 (ic [2,2,2,2,2,2,2] (R6 c ka kb kc kd ke kf L2 ln mm (hlk:=(by first|exact kx.len|exact Zh.len)) (hlb:=om) (hm:=om)) ?_)))))
 rintro _ _ (⟨wa4,wb4,wc4,wd4,we4,wf4,L'3,rfl,rfl,Vf⟩|⟨rfl,rfl,UD⟩)
 ·exact Zm (r1 [0,0,0,0,0,0,0] (.inl ⟨wa4,wb4,wc4,wd4,we4,wf4,L'3,rfl,rfl,(by first|exact hE|(rw [hE];exact Vf)|(rw [hB,ED hgr (by assumption)];exact Vf))⟩))
 exact Zm (r1 [] (.inr ⟨rfl,rfl,(by first|exact hE|(rw [hE];exact UD)|(rw [hB,ED hgr (by assumption)];exact UD))⟩))
theorem Zbe (n:ZF) (ln:LI) (hn:Xx n) (hln:ln.length<=4294967296) (m:Nat):∀(b2:Z8) (c:Nat) (ra:Hd) (rb:Hd) (rc:Hd) (rd:Hd) (re:Hd) (rf:Hd) (M:ZM) (mm:Nat) (p:Int),(b2.sz<m+1)->(XK n.decls M p)->(0<=W3 n M.vars b2)->(mm<=M.vars.length)->(M.vars.length+4*b2.sz<=1000000000)->(0<=p/\p+4*b2.sz<=999999990)->Zp 227 [.p c 0,YG n,Yo b2,.i mm] [.obj c [.h ra,.h rb,.h rc,.h rd,.h re,.h rf,Z4 ln],rV ra M.vars,rV rb M.own,rV rc M.par,rV rd M.con,rV re M.fst,rV rf M.tok] (fun r h=>(∃(wa:Hd) (wb:Hd) (wc:Hd) (wd:Hd) (we:Hd) (wf:Hd) (M':ZM),r=.b true/\h=[.obj c [.h wa,.h wb,.h wc,.h wd,.h we,.h wf,Z4 ln],rV wa M'.vars,rV wb M'.own,rV wc M'.par,rV wd M'.con,rV we M'.fst,rV wf M'.tok]/\U9 n ln M mm b2=some M')∨(r=.b false/\h=[]/\U9 n ln M mm b2=none)):=by
 induction m with
 | zero=>intro b c ga gb gc gd ge gf L mm q h;have:=b.sz_pos;omega
 | succ m ih=>
  intro b c ga gb gc gd ge gf L mm q h1 hk ht hm hb hp
  exact Zbd c ga gb gc gd ge gf n b L ln q mm hn hk ht hm hb hp hln fun s c ga gb gc gd ge gf L q h2 hk ht hb hp=>R8 c ga gb gc gd ge gf n s L ln q hn hk ht hb hp hln
   fun b2 c ga gb gc gd ge gf L mm q h3 hk ht hm hb hp=>ih b2 c ga gb gc gd ge gf L mm q om hk ht hm hb hp
theorem Zbk (n:ZF) (ln:LI) (hn:Xx n) (hln:ln.length<=4294967296) (m:Nat):∀(s2:Z5) (c:Nat) (ra:Hd) (rb:Hd) (rc:Hd) (rd:Hd) (re:Hd) (rf:Hd) (M:ZM) (p:Int),(s2.sz<m+1)->(XK n.decls M p)->(0<=X0 n M.vars s2)->(M.vars.length+4*s2.sz<=1000000000)->(0<=p/\p+4*s2.sz<=999999990)->Zp 144 [.p c 0,YG n,X5 s2] [.obj c [.h ra,.h rb,.h rc,.h rd,.h re,.h rf,Z4 ln],rV ra M.vars,rV rb M.own,rV rc M.par,rV rd M.con,rV re M.fst,rV rf M.tok] (fun r h=>(∃(wa:Hd) (wb:Hd) (wc:Hd) (wd:Hd) (we:Hd) (wf:Hd) (M':ZM),r=.b true/\h=[.obj c [.h wa,.h wb,.h wc,.h wd,.h we,.h wf,Z4 ln],rV wa M'.vars,rV wb M'.own,rV wc M'.par,rV wd M'.con,rV we M'.fst,rV wf M'.tok]/\QN n ln M s2=some M')∨(r=.b false/\h=[]/\QN n ln M s2=none)):=by
 intro s c ga gb gc gd ge gf L q h2 hk ht hb hp
 exact R8 c ga gb gc gd ge gf n s L ln q hn hk ht hb hp hln fun b2 c ga gb gc gd ge gf L mm q h3 hk ht hm hb hp=>Zbe n ln hn hln m b2 c ga gb gc gd ge gf L mm q om hk ht hm hb hp
theorem Zbj (c:Nat) (ra:Hd) (rb:Hd) (rc:Hd) (rd:Hd) (re:Hd) (rf:Hd) (n:ZF) (s2:Z5) (M:ZM) (ln:LI) (p:Int) (hn:Xx n) (hln:ln.length<=4294967296) (hk:XK n.decls M p) (ht:0<=X0 n M.vars s2) (hb:M.vars.length+4*s2.sz<=1000000000) (hp:0<=p/\p+4*s2.sz<=999999990):Zp 144 [.p c 0,YG n,X5 s2] [.obj c [.h ra,.h rb,.h rc,.h rd,.h re,.h rf,Z4 ln],rV ra M.vars,rV rb M.own,rV rc M.par,rV rd M.con,rV re M.fst,rV rf M.tok] (fun r h=>(∃(wa:Hd) (wb:Hd) (wc:Hd) (wd:Hd) (we:Hd) (wf:Hd) (M':ZM),r=.b true/\h=[.obj c [.h wa,.h wb,.h wc,.h wd,.h we,.h wf,Z4 ln],rV wa M'.vars,rV wb M'.own,rV wc M'.par,rV wd M'.con,rV we M'.fst,rV wf M'.tok]/\QN n ln M s2=some M')∨(r=.b false/\h=[]/\QN n ln M s2=none)):=Zbk n ln hn hln s2.sz s2 c ra rb rc rd re rf M p om hk ht hb hp
theorem Zfp (rt:YF) (hp:rt.params.length<=1000000:=by exact ob) (hl:rt.lent.length<=4294967296:=by exact ob):Zp 143 [JY rt] [] (fun r h=>∃(c:Nat) (wa:Hd) (wb:Hd) (wc:Hd) (wd:Hd) (we:Hd) (wf:Hd),r=.p c 0/\h=[.obj c [.h wa,.h wb,.h wc,.h wd,.h we,.h wf,Z4 rt.lent],rV wa ((KF rt).vars),rV wb ((KF rt).own),rV wc ((KF rt).par),rV wd ((KF rt).con),rV we ((KF rt).fst),rV wf ((KF rt).tok)]):=by
 refine ZG 45 Tryz.func143 (ar (iA (JG rt) fun b1=>Z2 (Zs 2 [0] (ic [] (WV rt.lent) ?_))))
 rintro _ _ ⟨v1,rfl,rfl⟩
 refine ZY 1 [(8,.agg [nl,nl,nl,nl,nl,nl,Z4 rt.lent])] (iA [nl,nl,nl,nl,nl,nl,Z4 rt.lent] fun b2=>?_)
 refine Xb (Z1m 0 b2 [nl,nl,nl,nl,nl,nl,Z4 rt.lent] [.h hN,.h hN,.h hN,.h hN,.h hN,.h hN,Z4 rt.lent] (.cons (Ze.hd (v:=hN)) (.cons (Ze.hd (v:=hN)) (.cons (Ze.hd (v:=hN)) (.cons (Ze.hd (v:=hN)) (.cons (Ze.hd (v:=hN)) (.cons (Ze.hd (v:=hN)) (.cons (lr _) .nil)))))))) (Xb (Ej) (Xb (Ej) (Xb (Ej) (Xb (Ej) (Xb (Ej) (Xb (Ej) (Z2 (Y8 (ab 0 (Y6 (fun fz gz m F h=>∃(k:Nat) (L2:ZM) (ka:Hd) (kb:Hd) (kc:Hd) (kd:Hd) (ke:Hd) (kf:Hd),(k<=rt.params.length)/\(Ts L2)/\(L2.vars.length=k)/\(Bc rt.lent (rt.params.drop k) k L2=KF rt)/\F=sF [1,3] fz [(4,.i k)]/\h=[.obj b2 [.h ka,.h kb,.h kc,.h kd,.h ke,.h kf,Z4 rt.lent],Zg gz 8,rV ka L2.vars,rV kb L2.own,rV kc L2.par,rV kd L2.con,rV ke L2.fst,rV kf L2.tok]/\m=rt.params.length-k) _ _ _ ⟨0,(ZM.mk [] [] [] [] [] []),hN,hN,hN,hN,hN,hN,ob,⟨rfl,rfl,rfl,rfl,rfl⟩,rfl,rfl,rfl,rfl,rfl⟩ (wk [6,7,0,0,0,0,0,0] (Ye fl) (e:=(rc (rc (rv (xs:=[]) ob (rv (xs:=[]) ob (rv (xs:=[]) ob (rv (xs:=[]) ob (rv (xs:=[]) ob (rv (xs:=[]) ob rz)))))))))) ?_))))))))))
 rintro m F h ⟨k,L2,ka,kb,kc,kd,ke,kf,Yk,Zh,ZB,YN,rfl,rfl,rfl⟩
 refine Yp 3 [1] (iw (Yi rt.params) (Y2 ((k:Int)<(rt.params.length:Int)) (fun Za=>?_) (fun Za=>?_)))
 ·refine ak (aq (ab 1 (Zs 3 [1] ?_)))
  obtain ⟨x1,Z3⟩:=Zu rt.params k om
  refine Zq (Zi none (k:Int) 1 (Yb Z3)) (Xu [1,3,4] [(29,.b ((x1 != 0)&&(!(decide ((k:Int)∈rt.lent)))))] (fun gz=>gz) ?_ ?_)
  ·refine Z0 3 (ib (b:=(x1 != 0)) 23 (fun Zc=>?_) (fun Zc=>?_))
   ·exact ZA 3 [1] (Zv [] (UV rt.lent (k:Int)) (Z2 (Zt 8 (Zl (!(decide ((k:Int)∈rt.lent))) Zc fl))))
   exact Z2 (Zt 8 (Zl false Zc fl))
  refine ac ((x1 != 0)&&(!(decide ((k:Int)∈rt.lent)))) (p:=(x1≠0)/\(¬((k:Int)∈rt.lent))) (Ys Ym (Yd dq)) (fun Zj=>?_) (fun Zj=>?_)
  ·refine az (ZA 4 [1] (Zq (Zi none (k:Int) 1 (Yb Z3)) (Z0 1 (ic [0,1,1,1,1,1,1] (KA b2 ka kb kc kd ke kf L2 rt.lent x1 1 (-1) (hlk:=Zh)) ?_))))
   rintro _ _ ⟨wa1,wb1,wc1,wd1,we1,wf1,rfl⟩
   exact ie (az (Z0 1 (ZE k (Z2 (ZH ⟨k+1,(L2.grow x1 1 (-1)),wa1,wb1,wc1,wd1,we1,wf1,ob,(Ts.grow Zh),(by simp [ZM.grow];omega),(by rw [Yl Z3,Bc] at YN;first|(rw [Zk Zj] at YN;exact YN)|(rw [Zb Zj] at YN;exact YN)),rfl,rfl,rfl⟩ (wk [0,6,0,0,0,0,0,0] (ZJ k fl)))))))
  refine az (ZA 4 [1] (Zq (Zi none (k:Int) 1 (Yb Z3)) (Z0 1 (ic [0,1,1,1,1,1,1] (KA b2 ka kb kc kd ke kf L2 rt.lent x1 0 (-1) (hlk:=Zh)) ?_))))
  rintro _ _ ⟨wa2,wb2,wc2,wd2,we2,wf2,rfl⟩
  exact ie (az (Z0 1 (ZE k (Z2 (ZH ⟨k+1,(L2.grow x1 0 (-1)),wa2,wb2,wc2,wd2,we2,wf2,ob,(Ts.grow Zh),(by simp [ZM.grow];omega),(by rw [Yl Z3,Bc] at YN;first|(rw [Zk Zj] at YN;exact YN)|(rw [Zb Zj] at YN;exact YN)),rfl,rfl,rfl⟩ (wk [0,6,0,0,0,0,0,0] (ZJ k fl)))))))
 refine ax 0 (Y3 ?_)
 have hNl:L2=KF rt:=by rw [<-YN,Xr om];rfl
 exact ZQ (r1 [0,1,1,1,1,1,1] ⟨b2,ka,kb,kc,kd,ke,kf,rfl,rfl⟩ (eq:=(rc (rv (xs:=L2.vars) (by rw [hNl]) (rv (xs:=L2.own) (by rw [hNl]) (rv (xs:=L2.par) (by rw [hNl]) (rv (xs:=L2.con) (by rw [hNl]) (rv (xs:=L2.fst) (by rw [hNl]) (rv (xs:=L2.tok) (by rw [hNl]) rz)))))))))
theorem Z8n (n:ZF) (f0:Nat) (k0:Nat) (rt:YF) (hz:JW n:=by exact ob) (hr:n.routines[f0]? = some rt:=by exact ob) (hk0:k0<=rt.body.steps.length:=by exact ob):Zp 114 [YG n,.i f0,.i k0] [] (fun r h=>(∃(c:Nat) (wa:Hd) (wb:Hd) (wc:Hd) (wd:Hd) (we:Hd) (wf:Hd) (L:ZM) (q:Int),r=.tup [.p c 0,.b true]/\h=[.obj c [.h wa,.h wb,.h wc,.h wd,.h we,.h wf,Z4 rt.lent],rV wa L.vars,rV wb L.own,rV wc L.par,rV wd L.con,rV we L.fst,rV wf L.tok]/\XK n.decls L q/\L.vars.length=rt.params.length+Yu (rt.body.steps.take k0)/\L.vars.length<=500000000/\rt.lent.length<=4194304)∨(r=.tup [.any,.b false]/\h=[]/\True)):=by
 have hzl:=hz.len
 have hfl:=(Xc.1 hr).1
 have hrm:=Y7 hr
 have hbz:=hz.body _ hrm
 have ZK:=UH rt.body
 have hbe:=rt.body.sz_eq
 obtain ⟨hk,hkv⟩:=Zby n.decls rt
 refine ZG 64 Tryz.func114 (ar (iA (X8 n) fun b1=>Z2 (Yp 1 [0] (Zv [] (Zgg n) (X2 12 [1,2,3] [(21,.b ((!Ko n)||(!(decide (0<=(f0:Int)/\(f0:Int)<=((n.routines.length:Int)-1))))))] (fun gz=>gz) ?_ (fun hj1=>?_))))))
 ·refine Xu [1,2,3] [(34,.b (((!Ko n)||(!(decide (0<=(f0:Int)/\(f0:Int)<=((n.routines.length:Int)-1)))))||(!(decide (0<=(k0:Int)/\(k0:Int)<=(rt.body.steps.length:Int))))))] (fun gz=>gz) ?_ ?_
  ·refine Z0 1 (ib (b:=((!Ko n)||(!(decide (0<=(f0:Int)/\(f0:Int)<=((n.routines.length:Int)-1)))))) 22 (fun Zc=>?_) (fun Zc=>?_))
   ·exact Z2 (wk [0] (Zl true Zc fl))
   exact ZA 4 [0] (Zq (Zi none (f0:Int) 5 (VS hr)) (Z0 3 (iw (UK rt.body.steps) (Zv [] (Vo (k0:Int) 0 (rt.body.steps.length:Int)) (Z2 (wk [0] (Zl (!(decide (0<=(k0:Int)/\(k0:Int)<=(rt.body.steps.length:Int)))) Zc fl)))))))
  refine ac (((!Ko n)||(!(decide (0<=(f0:Int)/\(f0:Int)<=((n.routines.length:Int)-1)))))||(!(decide (0<=(k0:Int)/\(k0:Int)<=(rt.body.steps.length:Int))))) (p:=((¬(Ko n=true))∨(¬(0<=(f0:Int)/\(f0:Int)<=((n.routines.length:Int)-1))))∨(¬(0<=(k0:Int)/\(k0:Int)<=(rt.body.steps.length:Int)))) (ZO (ZO (Yd Iff.rfl) (Yd dq)) (Yd dq)) (fun Za=>?_) (fun Za=>?_)
  ·exact ar (ZY 1 [(35,.agg [.sl [] none,.sl [] none,.sl [] none,.sl [] none,.sl [] none,.sl [] none,.sl [] none])] (iA [.sl [] none,.sl [] none,.sl [] none,.sl [] none,.sl [] none,.sl [] none,.sl [] none] fun b2=>Zm (r2 [] [.p b2 0,.b false] (.inr ⟨rfl,rfl,(by first|exact True.intro|exact ⟨Zh,by rw [show k0=j by omega];exact QW,by omega,hll⟩)⟩) (Ze.tup (.cons (Ze.any _) (.cons (lr _) .nil))))))
  have hV:Ko n=true:=C9 fun z=>Za (.inl (.inl z))
  obtain ⟨hok,hall⟩:=Zht hz hV
  have hty:=hall rt hrm
  obtain ⟨vs,t0,hvs,hres,hrt0⟩:=NF hty
  have hpl:=hok.params_at hr
  have hll:=hok.lent_at hr
  refine ak (Zs 3 [0] (Zq (Zi none (f0:Int) 5 (VS hr)) (Z0 1 (ic [] (Zfp rt) ?_))))
  rintro _ _ ⟨c1,wa1,wb1,wc1,wd1,we1,wf1,rfl,rfl⟩
  refine Z2 (Y8 (ab 0 (Y6 (fun fz gz m F h=>∃(j:Nat) (q2:Int) (L2:ZM) (ka:Hd) (kb:Hd) (kc:Hd) (kd:Hd) (ke:Hd) (kf:Hd),(j<=k0)/\(XK n.decls L2 q2)/\(0<=q2/\q2+4*Yw (rt.body.steps.drop j)<=999999990)/\(L2.vars.length+4*Yw (rt.body.steps.drop j)<=400000000)/\(UG n (rt.body.steps.drop j) L2.vars=some vs)/\(L2.vars.length=rt.params.length+Yu (rt.body.steps.take j))/\F=sF [1,2,3,8] fz [(9,.i j)]/\h=[.obj c1 [.h ka,.h kb,.h kc,.h kd,.h ke,.h kf,Z4 rt.lent],Zg gz 7,rV ka L2.vars,rV kb L2.own,rV kc L2.par,rV kd L2.con,rV ke L2.fst,rV kf L2.tok]/\m=k0-j) _ _ _ ⟨0,1,(KF rt),wa1,wb1,wc1,wd1,we1,wf1,ob,hk,(by rw [Ca];omega),(by rw [Ca,hkv];omega),(by rw [Ca,hkv];exact hvs),(by rw [hkv];rfl),rfl,rfl,rfl⟩ (wk [0,6,0,0,0,0,0,0] (Ye fl)) ?_)))
  rintro m F h ⟨j,q2,L2,ka,kb,kc,kd,ke,kf,Yk,Zh,ZB,YN,Wi,QW,rfl,rfl,rfl⟩
  refine Xk (Y2 ((j:Int)<(k0:Int)) (fun Zj=>?_) (fun Zj=>?_))
  ·obtain ⟨s1,hs1⟩:=Zu rt.body.steps j om
   have hss:=Eh hs1
   have hsp:=s1.sz_pos
   have hzd:=Z0x hs1
   have hdt:=O4 hs1
   have hdr:=Yl hs1
   rw [hdr] at Wi
   obtain ⟨g1,g2⟩:=Z16 Wi
   refine ak (aq (ab 1 (aD 14 (ZZ 9 14 [0,1,2,3,4] [1,1] (dx 5 (Zi none (f0:Int) 5 (VS hr)) (Zo 4 8 [6,7,8,9] (dx 10 (Zi none (j:Int) 5 (Vc hs1)) (Zo 2 3 [11] (Z7 12 (dc 12 [0,1,1,1,1,1,1] [] [] (Zbj c1 ka kb kc kd ke kf n s1 L2 rt.lent q2 hok ob Zh g1 om om) ?_))))))))))
   rintro _ _ (⟨wa2,wb2,wc2,wd2,we2,wf2,M'1,rfl,rfl,YS⟩|⟨rfl,rfl,YX⟩)
   ·have hP:=YS
    have kx:=Z13 hok Zh ZB.1 g1 hP
    have hsf:=Zey g1
    exact Zo 0 1 [13] (de (Vb (ak (az (Z0 1 (ZE j (Z2 (ZH ⟨j+1,(q2+4*s1.sz),M'1,wa2,wb2,wc2,wd2,we2,wf2,ob,kx.1,om,(by rw [kx.2,hsf];split<;>omega),(by rw [kx.2];exact g2),(by rw [kx.2,hsf,hdt];split<;>omega),rfl,rfl,rfl⟩ (wk [0,6,0,0,0,0,0,0] (ZJ j fl))))))))))
   exact Zo 0 1 [13] (de (Vk (ar (Zm (r2 [] [.p c1 0,.b false] (.inr ⟨rfl,rfl,(by first|exact True.intro|exact ⟨Zh,by rw [show k0=j by omega];exact QW,by omega,hll⟩)⟩) (Ze.tup (.cons (Ze.any _) (.cons (lr _) .nil))))))))
  exact ax 0 (ar (Zm (r2 [0,1,1,1,1,1,1] [.p c1 0,.b true] (.inl ⟨c1,ka,kb,kc,kd,ke,kf,L2,_,rfl,rfl,(by first|exact True.intro|exact ⟨Zh,by rw [show k0=j by omega];exact QW,by omega,hll⟩)⟩) (lr _))))
 refine Z0 2 (ib (b:=(!Ko n)) 13 (fun ZD=>?_) (fun ZD=>?_))
 ·exact Z0 8 (Y1 (wk [0] (Zl true ZD fl)) hj1)
 exact ZA 3 [0] (iw (TW n.routines) (ia (((n.routines.length:Int)-1)) (((n.routines.length:Int))-(1)) (Zv [] (Vo (f0:Int) 0 ((n.routines.length:Int)-1)) (Z0 2 (Y1 (wk [0] (Zl (!(decide (0<=(f0:Int)/\(f0:Int)<=((n.routines.length:Int)-1)))) ZD fl)) hj1)))))
theorem Pc (b:Z8) (i0:Nat) (s:Z5) (hi:i0<=b.steps.length:=by exact ob) (hz:b.sz<=100000000:=by exact ob):Zp 116 [Yo b,.i i0,X5 s] [] (Yz (Yo (Z8.mk (WO b.steps i0 s) b.result))):=by
 have ZK:=UH b
 exact ZG 26 Tryz.func116 (ar (iA (W0 b) fun b1=>iA (Wd s) fun b2=>iA [nl,.i 0] fun b3=>ie (ar (iL (ZV []) 0 5 fun v1=>ZA 3 [3] (Zq (Bh (es:=ZV b.steps) (hv:=none) (l:=0) (m:=(i0:Int)) (sz:=5) (es':=ZV (b.steps.take i0)) kr om (by simp<;>omega) (by simp<;>omega) (XH _) (by first|(simp only [TF,UA,AT,AS];done)|(simp only [TF,UA,AT,AS];rfl)|(simp [AT,AS];done))) (ip 0 (ZV (b.steps.take i0)) (ZV []) (ZV (b.steps.take i0)) v1 none 5 (XH _) (XH _) (Uv _) (by simp<;>omega) (by simp [Uc]) fun v2=>Z2 (aD 13 (ZZ 8 13 [0,1,4,5,6] [2,3] (dx 7 (Bh (es:=ZV b.steps) (hv:=none) (l:=(i0:Int)) (m:=(((ZV b.steps).length:Nat):Int)) (sz:=5) (es':=ZV (b.steps.drop i0)) kr om (by simp<;>omega) (by simp<;>omega) (XH _) (by first|(simp only [TF,UA,AT,AS];done)|(simp only [TF,UA,AT,AS];rfl)|(simp [AT,AS];done))) (ZZ 5 7 [9,10] [3] (Z7 2 (dL 2 [2,2] [b1,b1] [X5 s] 1 5 fun v3=>Yx 4 4 [] [(16,.sl [X5 s] none)] (Z7 3 (dp 3 1 [2,2] [b1,b1] (ZV ((b.steps.take i0)++[s])) (ZV (b.steps.take i0)) [X5 s] v2 none 5 (XH _) (KC rfl) rfl (by simp<;>omega) (by simp [VB,Uc]) fun v4=>Z7 8 (dp 8 0 [2] [b1] (ZV (WO b.steps i0 s)) (ZV ((b.steps.take i0)++[s])) (ZV (b.steps.drop i0)) v4 none 5 (XH _) (XH _) (Uv _) (by simp<;>omega) (by simp only [WO,VB]) fun v5=>Zo 1 2 [11] (Z7 12 (X1 12 2 [] [] b3 [Xi (WO b.steps i0 s) v5,.i b.result] (de (ZQ (r3 [] [.agg [Xi (WO b.steps i0 s) v5,.i b.result]] [0] [(b3,b3)] ⟨rfl,rfl⟩ (Ze.agg (.cons (Ze.sl _ (Yq ZV rfl)) (.cons li .nil)))))))))))))))))))))))
theorem Z9g (n:ZF) (f0:Nat) (b:Z8) (rt:YF) (hr:n.routines[f0]? = some rt) (hl:n.routines.length<=1000000) (hp:rt.params.length<=4294967296) (hl2:rt.lent.length<=4294967296):Zp 118 [YG n,.i f0,Yo b] [] (fun r h=>∃(g:Nat) (c:Nat),r=.agg [Y5 n.decls,.ms g 0 n.routines.length c]/\h=[.row (.slice (some ⟨g,0,none⟩) n.routines.length c) 5 (Z9 (Xa (n.routines.set f0 (YF.mk rt.params rt.lent rt.result b))))]):=by
 have hfl:=(Xc.1 hr).1
 refine ZG 26 Tryz.func118 (ar (iA (X8 n) fun b1=>iA (W0 b) fun b2=>iA [nl,nl] fun b3=>ie (ar (BK 5 fun g1=>ZA 2 [3] (GZ 0 g1 5 (Xa n.routines) none (Tc _) (by simp<;>omega) fun v1=>CT 0 n.routines.length (v:=v1) (OO _) om (fun g2 c1 he1=>?_))))))
 subst he1
 exact Z2 (aD 11 (ZZ 6 11 [0,1,2,3,4] [3] (dx 5 (Zi none (f0:Int) 5 (VS hr)) (ZZ 3 5 [6,7] [2] (Z7 8 (YE 8 [] [] [] (Ed rt b) (dx 9 (XJ g2 n.routines.length c1 f0 5 (f0:Int)) (Z7 10 (Qy 10 0 [] [] g2 n.routines.length c1 5 (f0*5) (JG (YF.mk rt.params rt.lent rt.result b)) (Z9 (Xa n.routines)) (Z9 (Xa (n.routines.set f0 (YF.mk rt.params rt.lent rt.result b)))) (by rw [OO];simp only [YA,X6];omega) (Z7f (YF.mk rt.params rt.lent rt.result b) hfl) (de (Zs 4 [3] (Zy 1 b3 [Y5 n.decls,.ms g2 0 n.routines.length c1] (ie (ZQ (r3 [1] [.agg [Y5 n.decls,.ms g2 0 n.routines.length c1]] [0] [(b3,b3)] ⟨g2,c1,rfl,rfl⟩ (lr _))))))))))))))))
theorem Z9f (n:ZF) (f0:Nat) (b:Z8) (rt:YF) (hr:n.routines[f0]? = some rt:=by exact ob) (hl:n.routines.length<=1000000:=by exact ob) (hp:rt.params.length<=4294967296:=by exact ob) (hl2:rt.lent.length<=4294967296:=by exact ob):Zp 118 [YG n,.i f0,Yo b] [] (Yz (YG (withR n f0 rt b))):=(WI.frzN (ds:=n.decls) (rs:=(n.routines.set f0 (YF.mk rt.params rt.lent rt.result b))) (hs:=[]) ((Z9g n f0 b rt hr hl hp hl2).mono fun r h ⟨g,c,e1,e2⟩=>⟨g,c,by rw [e1];simp only [VG],by rw [e2];simp only [VG]⟩))
theorem Jv (rd:Nat) (bs:LI) (p:Nat) (mx:Nat) (ZK:∀z∈bs,0<=z/\z<=255) (hp:p+1<=1000000000:=by exact ob) (hmx:0<mx:=by exact ob):Zp 38 [.p rd 0,.i mx] [YI rd bs p] (fun r h=>∃(kn:Nat),r=.i kn/\h=[.obj rd [Un bs,.i (p+1:Nat)]]/\kn<mx):=(XX rd bs p mx ZK hp).mono fun r h ⟨z,hr,hh,hz⟩=>by
  have h0:=hz.lt om
  exact ⟨z.toNat,by rw [hr,Int.toNat_of_nonneg h0.1],hh,by omega⟩
theorem P8 (rd:Nat) (bs:LI) (p:Nat) (n:ZF) (ZK:∀z∈bs,0<=z/\z<=255) (hp:p+4<=1000000000:=by exact ob) (hz:JW n:=by exact ob) (hl1:1<=n.routines.length/\n.routines.length<=1000000:=by exact ob):Zp 77 [.p rd 0,YG n] [YI rd bs p] (fun r h=>∃(n2:ZF) (p2:Nat),r=YG n2/\h=[YI rd bs p2]/\G0 n n2/\p<=p2/\p2<=p+4):=by
 refine ZG 102 Tryz.func77 (ar (iA (X8 n) fun b1=>iA [nl,nl] fun b2=>ie (Zs 3 [1] (iw (TW n.routines) (ic [2] (Jv rd bs p n.routines.length (ZK:=ob)) ?_)))))
 rintro _ _ ⟨YU,rfl,rfl,Y9⟩
 refine Z2 (Zs 3 [2] ?_)
 obtain ⟨x1,Z3⟩:=Zu n.routines YU om
 have hrm:=Y7 Z3
 have hbz:=hz.body _ hrm
 have ZK:=UH (x1).body
 have hpl:=hz.params _ hrm
 have hll:=hz.lent _ hrm
 have hrx:=Z3
 refine Zq (Zi none (YU:Int) 5 (VS Z3)) (Z0 2 (iA [nl,.i 0] fun b3=>Zy 0 b3 (W0 x1.body) (ie (Zs 3 [0] (iw (UK x1.body.steps) (ia (((x1.body.steps.length+1:Nat):Int)) (((x1.body.steps.length:Int))+(1)) (ic [1] (Jv rd bs (p+1) (x1.body.steps.length+1) (ZK:=ob)) ?_)))))))
 rintro _ _ ⟨Xl,rfl,rfl,Yt⟩
 refine Z2 (Zs 3 [3] (ic [] (Z8n n YU Xl x1 (hr:=hrx)) ?_))
 rintro _ _ (⟨c1,wa1,wb1,wc1,wd1,we1,wf1,L1,q1,rfl,rfl,YS⟩|⟨rfl,rfl,YX⟩)
 ·obtain ⟨hLO,hLv,hLb,hLl⟩:=YS
  have hLn:=hLO.len
  obtain ⟨e1,e2,e3,e4,e5⟩:=hLO.len
  refine Z2 (Y8 (Vb (ak (ar (iL (Z6 []) 0 1 fun v1=>?_)))))
  refine Z2 (Y8 (ab 0 (Y6 (fun fz gz m F h=>∃(k:Nat) (vl:LI) (u:Value),(k<=L1.vars.length)/\(vl.length<=k)/\(∀v∈vl,0<=v/\v<(L1.vars.length:Int))/\F=sF [0,3,4,5,6,7,8] fz [(10,ZL vl u),(11,.i k)]/\h=[Zg gz 1,Zg gz 2,Zg gz 3,Zg gz 4,Zg gz 5,Zg gz 6,Zg gz 7,Zg gz 8,Zg gz 9,Zg gz 10,Zg gz 11,.tail u 1]/\m=L1.vars.length-k) _ _ _ ⟨0,[],v1,ob,ob,(fun v hv=>by cases hv),rfl,rfl,rfl⟩ (wk [1,1,1,1,1,1,1,1,1,1,1,0] (fr (Ye fl))) ?_)))
  rintro m F h ⟨k,vl,u,Yk,Zh,ZB,rfl,rfl,rfl⟩
  refine Yp 5 [0] (Zq (Db 1 wa1 L1.vars) (Y2 ((k:Int)<(L1.vars.length:Int)) (fun Za=>?_) (fun Za=>?_)))
  ·refine ak (aq (ab 1 (Zs 5 [0] (Zq (Uh 1 wa1 L1.vars (k:Int) k) ?_))))
   obtain ⟨x2,Zw⟩:=Zu L1.vars k om
   refine VD (Qt 1 wa1 L1.vars k x2 Zw) (Z0 2 (ib (b:=(x2 != 0)) 59 (fun Zc=>?_) (fun Zc=>?_)))
   ·refine Z0 2 (Zv [0,0,0,0,0,0,0] (Hf c1 wa1 wb1 wc1 wd1 we1 wf1 L1 x1.lent (k:Int) (hlk:=hLO.len) (hd:=hLO.down)) (YD (T8 L1 x1.lent (k:Int)) Iff.rfl (fun Zj=>?_) (fun Zj=>?_)))
    ·exact az (Z0 2 (iL (Z6 [(k:Int)]) 1 1 fun v2=>ZY 0 [(66,Z4 [(k:Int)])] (ip 12 (Z6 (vl++[(k:Int)])) (Z6 vl) (Z6 [(k:Int)]) u none 1 (YH _) (YH _) (W4 _) (by simp<;>omega) (by simp [Wa,Z6]) fun v3=>Z2 (az (Z0 1 (ZE k (Z2 (ZH ⟨k+1,(vl++[(k:Int)]),v3,ob,ob,(by first|exact ZB|exact XG ZB om),rfl,rfl,rfl⟩ (wk [2,2,2,2,2,2,2,2,2,2,2,0] (fr (ZJ k fl)))))))))))
    exact ak (az (Z0 1 (ZE k (Z2 (ZH ⟨k+1,vl,u,ob,ob,(by first|exact ZB|exact XG ZB om),rfl,rfl,rfl⟩ (Zt 12 (fr (ZJ k fl))))))))
   exact Z2 (Vb (ak (az (Z0 1 (ZE k (Z2 (ZH ⟨k+1,vl,u,ob,ob,(by first|exact ZB|exact XG ZB om),rfl,rfl,rfl⟩ (Zt 12 (fr (ZJ k fl))))))))))
  refine ax 0 (YP 1 (iw (Yi vl) (YD ((vl.length:Int)==0) Zf (fun Zz=>?_) (fun Zz=>?_))))
  ·exact Zs 1 [10] (Zy 9 b2 (X8 n) (ie (ZQ (r3 [8] [YG n] [0] [(b2,b2)] ⟨n,(p+1)+1,rfl,rfl,(by first|exact ⟨.inl rfl,by omega,by omega⟩|(have hv:=ZB x3 (Y7 YT);exact ⟨.inr ⟨YU,x1,Xl,Xl+Qp,x3,hrx,by omega,by omega,hv.1,by omega,rfl⟩,by omega,by omega⟩))⟩ (lr _)))))
  refine ak (Yj 3 (iw (Yi vl) (ic [7] (Jv rd bs ((p+1)+1) vl.length (ZK:=ob)) ?_)))
  rintro _ _ ⟨Ka,rfl,rfl,Wf⟩
  obtain ⟨x3,YT⟩:=Zu vl Ka om
  refine Zq (Zi (some u) (Ka:Int) 1 (Yb YT)) (Z2 (Zs 4 [8] (iw (UK x1.body.steps) (Z0 1 (ia ((((x1.body.steps.length-Xl):Nat):Int)) (((x1.body.steps.length:Int))-((Xl:Int))) (ia ((((x1.body.steps.length-Xl)+1:Nat):Int)) (((((x1.body.steps.length-Xl):Nat):Int))+(1)) (ic [0] (Jv rd bs (((p+1)+1)+1) ((x1.body.steps.length-Xl)+1) (ZK:=ob)) ?_)))))))
  rintro _ _ ⟨Qp,rfl,rfl,WL⟩
  exact ia (((Xl+Qp:Nat):Int)) (((Xl:Int))+((Qp:Int))) (Z2 (aD 6 (ZZ 3 6 [0,1,2] [8] (Z7 3 (YE 3 [] [2] [b3] (C2 15 x3) (Z7 4 (YE 4 [] [] [] (Pc x1.body (Xl+Qp) (Zx 15 x3) (hi:=(by first|omega|(show Xl<=(WO _ _ _).length;rw [RY om];omega))) (hz:=(by first|omega|(rw [Z8.sz,HB];have e:(Zx 15 x3).sz=2:=rfl;have e2:=x1.body.sz_eq;omega)))) (Z7 5 (X1 5 8 [] [] b3 (W0 (Z8.mk (WO x1.body.steps (Xl+Qp) (Zx 15 x3)) x1.body.result)) (de (aD 9 (ZZ 4 9 [0,1,2,3,4] [10,0] (Z7 5 (YE 5 [] [0,4] [b3,b1] (C2 14 x3) (Z7 6 (YE 6 [] [4] [b1] (Pc (Z8.mk (WO x1.body.steps (Xl+Qp) (Zx 15 x3)) x1.body.result) Xl (Zx 14 x3) (hi:=(by first|omega|(show Xl<=(WO _ _ _).length;rw [RY om];omega))) (hz:=(by first|omega|(rw [Z8.sz,HB];have e:(Zx 15 x3).sz=2:=rfl;have e2:=x1.body.sz_eq;omega)))) (Z7 7 (YE 7 [] [] [] (Z9f n YU (Z8.mk (WO (Z8.mk (WO x1.body.steps (Xl+Qp) (Zx 15 x3)) x1.body.result).steps Xl (Zx 14 x3)) (Z8.mk (WO x1.body.steps (Xl+Qp) (Zx 15 x3)) x1.body.result).result) x1 (hr:=hrx)) (Z7 8 (X1 8 9 [] [] b2 (X8 (withR n YU x1 (Z8.mk (WO (Z8.mk (WO x1.body.steps (Xl+Qp) (Zx 15 x3)) x1.body.result).steps Xl (Zx 14 x3)) (Z8.mk (WO x1.body.steps (Xl+Qp) (Zx 15 x3)) x1.body.result).result))) (de (ZQ (r3 [2] [YG (withR n YU x1 (Z8.mk (WO (Z8.mk (WO x1.body.steps (Xl+Qp) (Zx 15 x3)) x1.body.result).steps Xl (Zx 14 x3)) (Z8.mk (WO x1.body.steps (Xl+Qp) (Zx 15 x3)) x1.body.result).result))] [0] [(b2,b2)] ⟨(withR n YU x1 (Z8.mk (WO (Z8.mk (WO x1.body.steps (Xl+Qp) (Zx 15 x3)) x1.body.result).steps Xl (Zx 14 x3)) (Z8.mk (WO x1.body.steps (Xl+Qp) (Zx 15 x3)) x1.body.result).result)),(((p+1)+1)+1)+1,rfl,rfl,(by first|exact ⟨.inl rfl,by omega,by omega⟩|(have hv:=ZB x3 (Y7 YT);exact ⟨.inr ⟨YU,x1,Xl,Xl+Qp,x3,hrx,by omega,by omega,hv.1,by omega,rfl⟩,by omega,by omega⟩))⟩ (lr _))))))))))))))))))))))))
 exact Z2 (Y8 (Vk (Zs 1 [3] (Zy 2 b2 (X8 n) (ie (ZQ (r3 [1] [YG n] [0] [(b2,b2)] ⟨n,(p+1)+1,rfl,rfl,(by first|exact ⟨.inl rfl,by omega,by omega⟩|(have hv:=ZB x3 (Y7 YT);exact ⟨.inr ⟨YU,x1,Xl,Xl+Qp,x3,hrx,by omega,by omega,hv.1,by omega,rfl⟩,by omega,by omega⟩))⟩ (lr _))))))))
end Go.Abs
