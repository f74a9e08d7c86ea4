/-
  A part of the proofs of several laws (see the last file): no condition.
-/
import Derived.Test.YtlcniflebhfdpaaGreatYaD
set_option linter.all false
set_option linter.unusedVariables false
set_option linter.unusedSimpArgs false
set_option linter.unusedSectionVars false
set_option maxRecDepth 10000
set_option maxHeartbeats 4000000
namespace Go.Abs
open Go.Proofs
theorem Ec (rt:Yz) (b:Z7) (hp:rt.params.length<=4294967296:=by exact ob) (hl:rt.lent.length<=4294967296:=by exact ob):Zm 88 [A7 rt,Ym b] [] (Yt (A7 (Yz.mk rt.params rt.lent rt.result b))):=by
 refine ZD 15 Tryz.func88 (ar (iA (JL rt) fun b1=>iA (XW b) fun b2=>iA [nl,nl,.i 0,nl,.i 0] fun b3=>ie (aD 11 (ZV 4 11 [0,1,3,4,6,7,8] [2,2,2,1] (Z8 2 (dc 2 [] [1,2,2] [b2,b1,b1] (Vf rt.params) ?_))))))
 rintro _ _ ⟨v1,rfl,rfl⟩
 refine Z8 5 (dc 5 [] [1,2] [b2,b1] (Vf rt.lent) ?_)
 rintro _ _ ⟨v2,rfl,rfl⟩
 exact Zo 1 2 [9] (Z8 10 (X5 10 2 [] [] b3 [Y6 rt.params v1,Y6 rt.lent v2,.i rt.result,Vl b.steps,.i b.result] (de (Yc (r3 [] [.agg [Y6 rt.params v1,Y6 rt.lent v2,.i rt.result,Vl b.steps,.i b.result]] [0] [(b3,b3)] ⟨rfl,rfl⟩ (Zl.agg (.cons (Zl.sl _ (Yn Z6 ob)) (.cons (Zl.sl _ (Yn Z6 ob)) (.cons li (.cons (Zl.sl _ (Yn ZQ ob)) (.cons li .nil)))))))))))
theorem Z8q (n:ZF) (us:LI) (fds:LI) (kd:Z7) (os:LI) (ls:LI) (mm:Nat) (bb:Nat) (hn:Xv n:=by exact ob) (hf:fB n.decls n.routines.length (mm+fds.length) kd:=by exact ob) (hop:Vm WQ kd:=by exact ob) (hul:us.length=mm:=by exact ob) (hfl:fds.length<=3:=by exact ob) (hm:mm+3+4*kd.sz<=100000:=by exact ob) (hor:∀v∈os,0<=v/\v<(mm:Int)) (hol:os.length+3+4*kd.sz<=730:=by exact ob) (hal:ls.length+2000*kd.sz<=1000000:=by exact ob) (hbz:kd.sz<=500:=by exact ob) (hb:kd.sz<bb:=by exact ob) (ih:∀(us2:LI) (b2:Z7) (os2:LI) (as2:LI) (m2:Nat),(fB n.decls n.routines.length m2 b2)->(Vm WQ b2)->(us2.length=m2)->(m2+4*b2.sz<=100000)->(∀v∈os2,0<=v/\v<(m2:Int))->(os2.length+4*b2.sz<=730)->(as2.length+2000*b2.sz<=1000000)->(b2.sz<=500)->(b2.sz<bb)->Zm 271 [YC n,Z4 us2,Ym b2,Z4 os2,Z4 as2] [] (fun r h=>∃(y:Z7),r=Ym y/\h=[]/\KB n.decls n.routines.length m2 y (4500*b2.sz))):Zm 341 [YC n,Z4 us,Z4 fds,Ym kd,Z4 os,Z4 ls] [] (fun r h=>∃(y:Z7),r=Ym y/\h=[]/\KB n.decls n.routines.length (mm+fds.length) y (4500*kd.sz+1470)):=by
 refine ZD 115 Tryz.func341 (ar (iA (X7 n) fun b1=>iA (XW kd) fun b2=>iA [nl,.i 0] fun b3=>ie (ZX 1 (iw (Y9 us) (Z1 (ZX 2 (ic [] (TA us fds) ?_)))))))
 rintro _ _ ⟨v1,rfl,rfl⟩
 refine Z1 (Zq 2 [2] (io (.i (((us++fds).length:Nat):Int)) (.i (((Z6 (us++fds)).length:Nat):Int)) (li (by rw [Y9])) (Zw [] (Z1u kd (((us++fds).length:Nat):Int)) ?_)))
 have hub:=I4 (n:=(((us++fds).length:Nat):Int)) kd []
 simp only [YF,Wj] at hub
 refine Z1 (ar (iL (Z6 []) 0 1 fun v2=>Z1 (ar (iL (Z6 []) 0 1 fun v3=>?_))))
 refine Z1 (Y5 (ab 0 (Y1 (fun fz gz m F h=>∃(k:Nat) (ms:LI) (u:Value) (dr:LI) (w:Value),(k<=os.length)/\(ms.length<=k)/\(dr.length<=k)/\(∀v∈ms,0<=v/\v<(mm:Int))/\(∀v∈dr,0<=v/\v<(mm:Int))/\F=sF [2,4,5,6,9,12,13,15] fz [(14,Z4 (us++fds)),(16,Y6 ms u),(17,Y6 dr w),(18,.i k)]/\h=[Zi gz 3,Zi gz 4,Zi gz 5,.tail u 1,.tail w 1]/\m=os.length-k) _ _ _ ⟨0,[],v2,[],v3,ob,ob,ob,(fun v hv=>by cases hv),(fun v hv=>by cases hv),rfl,rfl,rfl⟩ (wk [3,3,3,1,0] (fc (x:=Y6 (us++fds) v1) (Zl.forget _ _) (fw (Ya fl)))) ?_)))
 rintro m F h ⟨k,ms,u,dr,w,Yi,Zd,Zz,YA,Wb,rfl,rfl,rfl⟩
 refine YR 2 (iw (Y9 os) (Y3 ((k:Int)<(os.length:Int)) (fun Z9=>?_) (fun Z9=>?_)))
 ·obtain ⟨o1,ho1⟩:=Zt os k om
  have hor1:=hor o1 (Y4 ho1)
  refine ak (aq (ab 1 (ZX 3 (Zp (Ze none (k:Int) 1 (Y7 ho1)) (Z0 1 (Zw [] (UK (UX (((us++fds).length:Nat):Int) kd []) o1) (Xi [2,4,5,6,9,12,13,14,15,16,17,18] [(53,.b ((decide (o1∈(UX (((us++fds).length:Nat):Int) kd [])))||(decide (o1∈ls))))] (fun gz=>gz) ?_ ?_)))))))
  ·refine Z0 1 (ib (b:=(decide (o1∈(UX (((us++fds).length:Nat):Int) kd [])))) 46 (fun Zb=>?_) (fun Zb=>?_))
   ·exact Z1 (Zs 5 (Zj true Zb fl))
   exact Z0 3 (Zp (Ze none (k:Int) 1 (Y7 ho1)) (Z0 1 (Zw [] (UK ls o1) (Z1 (Zs 5 (Zj (decide (o1∈ls)) Zb fl))))))
  refine ac ((decide (o1∈(UX (((us++fds).length:Nat):Int) kd [])))||(decide (o1∈ls))) (p:=(o1∈(UX (((us++fds).length:Nat):Int) kd []))∨(o1∈ls)) (ZJ dq dq) (fun Zh=>?_) (fun Zh=>?_)
  ·exact az (Z0 3 (Zp (Ze none (k:Int) 1 (Y7 ho1)) (Z0 1 (iL (Z6 [o1]) 1 1 fun v4=>Y0 0 [(59,Z4 [o1])] (ip 4 (Z6 (ms++[o1])) (Z6 ms) (Z6 [o1]) u none 1 (YG _) (YG _) (XT _) (by simp<;>omega) (by simp [XX,Z6]) fun v5=>Z1 (az (Z0 1 (ZC k (Z1 (ZE ⟨k+1,(ms++[o1]),v5,dr,w,ob,ob,ob,(by first|exact YA|exact XC YA hor1),(by first|exact Wb|exact XC Wb hor1),rfl,rfl,rfl⟩ (wk [2,2,2,0,1] (fw (fr (ZI k fl))))))))))))))
  exact az (Z0 3 (Zp (Ze none (k:Int) 1 (Y7 ho1)) (Z0 1 (iL (Z6 [o1]) 1 1 fun v6=>Y0 0 [(66,Z4 [o1])] (ip 5 (Z6 (dr++[o1])) (Z6 dr) (Z6 [o1]) w none 1 (YG _) (YG _) (XT _) (by simp<;>omega) (by simp [XX,Z6]) fun v7=>Z1 (az (Z0 1 (ZC k (Z1 (ZE ⟨k+1,ms,u,(dr++[o1]),v7,ob,ob,ob,(by first|exact YA|exact XC YA hor1),(by first|exact Wb|exact XC Wb hor1),rfl,rfl,rfl⟩ (wk [2,2,2,2,0] (fw (fr (ZI k fl))))))))))))))
 refine ax 0 (ar (iL (Z6 []) 0 1 fun v8=>?_))
 refine Z1 (Y5 (ab 2 (Y1 (fun fz gz m F h=>∃(k:Nat) (ps:LI) (w2:Value),(k<=fds.length)/\(ps.length<=k)/\(∀v∈ps,(mm:Int)<=v/\v<((mm+fds.length:Nat):Int))/\F=sF [2,5,6,9,12,13,14,15,16,17] fz [(19,Y6 ps w2),(20,.i k)]/\h=[Zi gz 1,Zi gz 2,Zi gz 3,Zi gz 4,Zi gz 5,.tail w2 1]/\m=fds.length-k) _ _ _ ⟨0,[],v8,ob,ob,(fun v hv=>by cases hv),rfl,rfl,rfl⟩ (wk [1,1,1,1,1,0] (fr (Ya fl))) ?_)))
 rintro m F h ⟨k,ps,w2,VG,Xm,XN,rfl,rfl,rfl⟩
 refine YR 2 (iw (Y9 fds) (Y3 ((k:Int)<(fds.length:Int)) (fun ZA=>?_) (fun ZA=>?_)))
 ·refine ak (aq (ab 3 (ZX 2 ?_)))
  obtain ⟨x1,Z3⟩:=Zt fds k om
  refine Zp (Ze none (k:Int) 1 (Y7 Z3)) (Xi [2,5,6,9,12,13,14,15,16,17,19,20] [(86,.b ((x1 != 0)&&(decide (((us.length+k:Nat):Int)∈(UX (((us++fds).length:Nat):Int) kd [])))))] (fun gz=>gz) ?_ ?_)
  ·refine Z0 3 (ib (b:=(x1 != 0)) 80 (fun Zy=>?_) (fun Zy=>?_))
   ·exact Z0 3 (ia (((us.length+k:Nat):Int)) (((us.length:Int))+((k:Int))) (Zw [] (UK (UX (((us++fds).length:Nat):Int) kd []) ((us.length+k:Nat):Int)) (Z1 (Zs 6 (Zj (decide (((us.length+k:Nat):Int)∈(UX (((us++fds).length:Nat):Int) kd []))) Zy fl)))))
   exact Z1 (Zs 6 (Zj false Zy fl))
  refine ac ((x1 != 0)&&(decide (((us.length+k:Nat):Int)∈(UX (((us++fds).length:Nat):Int) kd [])))) (p:=(x1≠0)/\(((us.length+k:Nat):Int)∈(UX (((us++fds).length:Nat):Int) kd []))) (Yo Yh dq) (fun Yk=>?_) (fun Yk=>?_)
  ·exact az (Z0 3 (ia (((us.length+k:Nat):Int)) (((us.length:Int))+((k:Int))) (iL (Z6 [((us.length+k:Nat):Int)]) 1 1 fun v9=>Y0 0 [(91,Z4 [((us.length+k:Nat):Int)])] (ip 6 (Z6 (ps++[((us.length+k:Nat):Int)])) (Z6 ps) (Z6 [((us.length+k:Nat):Int)]) w2 none 1 (YG _) (YG _) (XT _) (by simp<;>omega) (by simp [XX,Z6]) fun v10=>Z1 (az (Z0 1 (ZC k (Z1 (ZE ⟨k+1,(ps++[((us.length+k:Nat):Int)]),v10,ob,ob,(by first|exact XN|exact XC XN om),rfl,rfl,rfl⟩ (wk [2,2,2,2,2,0] (fr (ZI k fl))))))))))))
  exact ak (az (Z0 1 (ZC k (Z1 (ZE ⟨k+1,ps,w2,ob,ob,(by first|exact XN|exact XC XN om),rfl,rfl,rfl⟩ (Zs 6 (fr (ZI k fl))))))))
 refine ax 2 (ar (Y0 1 [(93,Z4 ps)] (ic [] (KN 14 ps) ?_)))
 rintro _ _ ⟨v11,rfl,rfl⟩
 refine Y0 1 [(95,Z4 dr)] (ic [] (KN 15 dr) ?_)
 rintro _ _ ⟨v12,rfl,rfl⟩
 refine Y0 0 [(96,Vl (dr.map (Zx 15)))] (ip 1 (ZQ ((ps.map (Zx 14))++(dr.map (Zx 15)))) (ZQ (ps.map (Zx 14))) (ZQ (dr.map (Zx 15))) v11 none 5 (XD _) (XD _) (Uk _) (by simp<;>omega) (by simp [Vt,ZQ]) fun v13=>?_)
 refine Z1 (aD 12 (ZV 5 12 [0,1,2,3,4,6,7] [4,3] (BM (fun fz gz F h=>∃(y1:Z7) (b4:Nat) (zs1:LI),(zs1.length<=ls.length/\∀z∈zs1,z∈ls)/\(KB n.decls n.routines.length (mm+fds.length) y1 (4500*kd.sz))/\F=sF [12,21] fz [(22,.p b4 0)]/\h=[.obj b4 (XW y1),Zi gz 0,Zi gz 1,Zi gz 2,Zi gz 3,Zi gz 4,Zi gz 6,Zi gz 7]) ?_ ?_)))
 ·refine Uj 5 10 ?_ ?_
  ·refine dp 5 5 [1,2] [b2,b1] (Z6 (ms++ps)) (Z6 ms) (Z6 ps) u (some w2) 1 (YG _) (YG _) (XT _) (by simp<;>omega) (by simp [XX,Z6]) fun v14=>Uj 8 10 ?_ ?_
   ·refine dc 8 [] [1,2] [b2,b1] (LE ls (us.length:Int)) ?_
    rintro _ _ ⟨zs1,v15,rfl,rfl,X4⟩
    have hbl:=X4
    refine Yy 3 3 [] [(103,Z4 (ms++ps)),(106,Z4 zs1)] (Uj 9 10 ?_ ?_)
    ·refine dc 9 [] [] [] (ih (us++fds) kd (ms++ps) zs1 (mm+fds.length) hf hop (by rw [ZH,hul]) ob (fun v hv=>by rcases Xg.1 hv with h|h;exact (by have:=YA v h;omega);exact (by have:=XN v h;omega)) (by rw [ZH];omega) ob ob ob) ?_
     rintro _ _ ⟨y1,rfl,rfl,Xy⟩
     have hkb:=Xy
     have hkl:=hkb.len
     exact Z8 10 (dA 10 [] [] [nl,.i 0] fun b4=>Z8 11 (X5 11 0 [] [] b4 (XW y1) (de (ZM ⟨_,b4,_,(by assumption),(by assumption),rfl,rfl⟩ (wk [0,2,2,2,2,2,2,2] fl)))))
    refine dA 10 [1,2] [b2,b1] [nl,.i 0] fun b5=>Z8 9 (dc 9 [] [] [] (ih (us++fds) kd (ms++ps) zs1 (mm+fds.length) hf hop (by rw [ZH,hul]) ob (fun v hv=>by rcases Xg.1 hv with h|h;exact (by have:=YA v h;omega);exact (by have:=XN v h;omega)) (by rw [ZH];omega) ob ob ob) ?_)
    rintro _ _ ⟨y2,rfl,rfl,Wx⟩
    have hkb:=Wx
    have hkl:=hkb.len
    exact Z8 11 (X5 11 0 [] [] b5 (XW y2) (de (ZM ⟨_,b5,_,(by assumption),(by assumption),rfl,rfl⟩ (wk [0,2,2,2,2,2,2,2] fl))))
   refine dA 10 [1,2] [b2,b1] [nl,.i 0] fun b6=>Z8 8 (dc 8 [] [2,3] [b2,b1] (LE ls (us.length:Int)) ?_)
   rintro _ _ ⟨zs2,v16,rfl,rfl,WZ⟩
   have hbl:=WZ
   refine Yy 2 2 [] [(103,Z4 (ms++ps)),(106,Z4 zs2)] (Z8 9 (dc 9 [] [] [] (ih (us++fds) kd (ms++ps) zs2 (mm+fds.length) hf hop (by rw [ZH,hul]) ob (fun v hv=>by rcases Xg.1 hv with h|h;exact (by have:=YA v h;omega);exact (by have:=XN v h;omega)) (by rw [ZH];omega) ob ob ob) ?_))
   rintro _ _ ⟨y3,rfl,rfl,Vw⟩
   have hkb:=Vw
   have hkl:=hkb.len
   exact Z8 11 (X5 11 1 [] [] b6 (XW y3) (de (ZM ⟨_,b6,_,(by assumption),(by assumption),rfl,rfl⟩ (wk [0,2,2,2,2,2,2,2] fl))))
  refine dA 10 [1,2] [b2,b1] [nl,.i 0] fun b7=>Yy 4 4 [] [(102,Z4 ps)] (Z8 5 (dp 5 6 [2,3] [b2,b1] (Z6 (ms++ps)) (Z6 ms) (Z6 ps) u none 1 (YG _) (YG _) (XT _) (by simp<;>omega) (by simp [XX,Z6]) fun v17=>Z8 8 (dc 8 [] [2,3] [b2,b1] (LE ls (us.length:Int)) ?_)))
  rintro _ _ ⟨zs3,v18,rfl,rfl,Ua⟩
  have hbl:=Ua
  refine Yy 2 2 [] [(103,Z4 (ms++ps)),(106,Z4 zs3)] (Z8 9 (dc 9 [] [] [] (ih (us++fds) kd (ms++ps) zs3 (mm+fds.length) hf hop (by rw [ZH,hul]) ob (fun v hv=>by rcases Xg.1 hv with h|h;exact (by have:=YA v h;omega);exact (by have:=XN v h;omega)) (by rw [ZH];omega) ob ob ob) ?_))
  rintro _ _ ⟨y4,rfl,rfl,UF⟩
  have hkb:=UF
  have hkl:=hkb.len
  exact Z8 11 (X5 11 2 [] [] b7 (XW y4) (de (ZM ⟨_,b7,_,(by assumption),(by assumption),rfl,rfl⟩ (wk [0,2,2,2,2,2,2,2] fl))))
 rintro F h ⟨y1,b4,zs1,X4,Xy,rfl,rfl⟩
 have hbl:=X4
 have hkb:=Xy
 have hkl:=hkb.len
 exact aD 8 (ZV 3 8 [0,1,2,4,5] [0,0] (Z8 3 (dp 3 1 [0] [b4] (ZQ (((ps.map (Zx 14))++(dr.map (Zx 15)))++y1.steps)) (ZQ ((ps.map (Zx 14))++(dr.map (Zx 15)))) (ZQ y1.steps) v13 none 5 (XD _) (XD _) (Uk _) (by simp<;>omega) (by simp [Vt,ZQ]) fun v19=>Zo 1 2 [6] (Z8 7 (X5 7 3 [] [] b3 [Xe (((ps.map (Zx 14))++(dr.map (Zx 15)))++y1.steps) v19,.i y1.result] (de (Yc (r3 [] [.agg [Xe (((ps.map (Zx 14))++(dr.map (Zx 15)))++y1.steps) v19,.i y1.result]] [0] [(b3,b3)] ⟨(Z7.mk (((ps.map (Zx 14))++(dr.map (Zx 15)))++y1.steps) y1.result),rfl,rfl,((hkb.put (fun v hv=>by have:=XN v hv;omega) (fun v hv=>by have:=Wb v hv;omega)).le om)⟩ (Zl.agg (.cons (Zl.forget _ _) (.cons (lr _) .nil)))))))))))
theorem Z8r (n:ZF) (us:LI) (s:Z5) (os:LI) (ls:LI) (mm:Nat) (bb:Nat) (hn:Xv n:=by exact ob) (hf:FS n.decls n.routines.length mm s:=by exact ob) (h11:s.op<=11:=by exact ob) (hop:Kc WQ s.kids:=by exact ob) (hul:us.length=mm:=by exact ob) (hm:mm+4*s.sz<=100000:=by exact ob) (hor:∀v∈os,0<=v/\v<(mm:Int)) (hol:os.length+4*s.sz<=730:=by exact ob) (hal:ls.length+2000*s.sz<=1000000:=by exact ob) (hbz:s.sz<=500:=by exact ob) (hb:s.sz<=bb:=by exact ob) (ih:∀(us2:LI) (b2:Z7) (os2:LI) (as2:LI) (m2:Nat),(fB n.decls n.routines.length m2 b2)->(Vm WQ b2)->(us2.length=m2)->(m2+4*b2.sz<=100000)->(∀v∈os2,0<=v/\v<(m2:Int))->(os2.length+4*b2.sz<=730)->(as2.length+2000*b2.sz<=1000000)->(b2.sz<=500)->(b2.sz<bb)->Zm 271 [YC n,Z4 us2,Ym b2,Z4 os2,Z4 as2] [] (fun r h=>∃(y:Z7),r=Ym y/\h=[]/\KB n.decls n.routines.length m2 y (4500*b2.sz))):Zm 318 [YC n,Z4 us,X3 s,Z4 os,Z4 ls] [] (fun r h=>∃(y:Z5),r=X3 y/\h=[]/\KT n.decls n.routines.length mm y (4500*YV s.kids+4420)):=by
 have Xp:=hn.decls
 have hkf:=hf.few Xp
 have hsa:=hf.alen
 refine ZD 62 Tryz.func318 (ar (iA (X7 n) fun b1=>iA (W7 s) fun b2=>iA [.i 0,.i 0,.i 0,nl,nl] fun b3=>ie (ar (iL (XL []) 0 2 fun v1=>Z1 (Zq 4 [3,2] (ic [] (Je n.decls s.num) ?_))))))
 rintro _ _ ⟨v2,rfl,rfl⟩
 refine Z1 (Y5 (ab 0 (Y1 (fun fz gz m F h=>∃(k:Nat) (ks:List Z7) (u:Value),(k<=s.kids.length)/\(ks.length=k)/\(KK n.decls n.routines.length (WK n.decls s.op s.num mm) ks (4500*YV (s.kids.take k)+1470*k))/\F=sF [1,3,4,5,7,10] fz [(11,Qu ks u),(12,Z4 (ZU n.decls s.num)),(13,.i k)]/\h=[Zi gz 2,Zi gz 3,Zi gz 4,.tail u 2]/\m=s.kids.length-k) _ _ _ ⟨0,[],v1,ob,ob,(KK.nil.le (T2 _)),rfl,rfl,rfl⟩ (wk [2,2,2,1] (fr (fc (x:=Y6 (ZU n.decls s.num) v2) (Zl.forget _ _) (Ya fl)))) ?_)))
 rintro m F h ⟨k,ks,u,Yi,Zd,Zz,rfl,rfl,rfl⟩
 refine Yq 3 [1] (iw (Kz s.kids) (Y3 ((k:Int)<(s.kids.length:Int)) (fun Z9=>?_) (fun Z9=>?_)))
 ·refine ak (aq (ab 1 (ar (iL (Z6 []) 0 1 fun v3=>?_))))
  refine Z1 (X6 (Vb [2] (Xw (fun fz gz F h=>∃(fds:LI),(WK n.decls s.op s.num mm k=mm+fds.length)/\(fds.length<=3)/\F=sF [1,3,4,5,7,10,11,12,13] fz [(14,Z4 fds)]/\h=[Zi gz 1,Zi gz 2,Zi gz 3,Zi gz 4]) ?_ ?_)))
  ·refine ac (s.op==8) Zg (fun Zh=>?_) (fun Zh=>?_)
   ·refine aE 8 (ZV 4 8 [0,1,2,3] [3] ?_)
    obtain ⟨x1,Z3⟩:=Zt (ZU n.decls s.num) k (by have:=hf.k8 (by assumption);omega)
    have hcf:=V8 Xp x1
    exact dx 4 (Ze none (k:Int) 1 (Y7 Z3)) (Zo 2 3 [5] (Z8 6 (YD 6 [] [] [] (Qy n.decls x1) (Zo 0 1 [7] (de (ZM ⟨ZO n.decls x1,(MH (by assumption) Z3),ob,rfl,rfl⟩ (wk [1,1,1,1] fl)))))))
   exact ak (ZM ⟨[],(by rw [MI (by assumption)];rfl),ob,rfl,rfl⟩ (wk [1,1,1,1] fl))
  rintro F h ⟨fds,VE,Bj,rfl,rfl⟩
  refine aE 15 (ZV 8 15 [0,1,2,3,4,5,6] [2,1] ?_)
  obtain ⟨x2,Zv⟩:=Zt s.kids k om
  have hkz:=Qs Zv
  have hfk:=BT hf.kids Zv
  rw [Wj,VE] at hfk
  have hok:=DZ.1 hop x2 (Y4 Zv)
  have hbt:=Gm Zv
  have hba:=Gn Zv
  refine dx 7 (Ze none (k:Int) 2 (UQ Zv)) (Zo 4 7 [8,9,10] (Z8 11 (dc 11 [] [] [] (Z8q n us fds x2 os ls mm bb (hf:=hfk) (hop:=hok) (hor:=hor) (ih:=ih)) ?_)))
  rintro _ _ ⟨y1,rfl,rfl,ZT⟩
  have hkb:=ZT
  exact Z8 12 (WB 12 [] [] [Ym y1] (XL [y1]) (K0 [y1]).symm 1 2 fun v4=>Yy 2 2 [] [(51,JQ [y1])] (Z8 13 (dp 13 4 [] [] (XL (ks++[y1])) (XL ks) (XL [y1]) u none 2 (J0 _) (J0 _) (Gw _) (by simp<;>omega) (by simp [CD,XL]) fun v5=>Zo 0 1 [14] (de (az (Z0 1 (ZC k (Z1 (ZE ⟨k+1,(ks++[y1]),v5,ob,ob,((Zz.snoc Zd (by rw [VE];exact hkb)).le om),rfl,rfl,rfl⟩ (wk [2,2,2,0] (fw (ZI k fl))))))))))))
 refine ax 0 (aD 10 (ZV 3 10 [0,1,2,3,4,5,7] [1,1,1] (Z8 6 (dc 6 [] [1,1] [b2,b2] (Vf s.args) ?_))))
 rintro _ _ ⟨v6,rfl,rfl⟩
 exact Zo 1 2 [8] (Z8 9 (X5 9 1 [] [] b3 [.i s.op,.i s.num,.i 0,Y6 s.args v6,Qu ks u] (de (Yc (r3 [] [.agg [.i s.op,.i s.num,.i 0,Y6 s.args v6,Qu ks u]] [0] [(b3,b3)] ⟨(Z5.mk s.op s.num 0 s.args ks),rfl,rfl,((KT.of (into:=0) hf h11 om om Zz).le (by have:=IJ (xs:=s.kids) (k:=k) om;omega))⟩ (Zl.agg (.cons (lr _) (.cons (lr _) (.cons (lr _) (.cons (Zl.forget _ _) (.cons (Zl.forget _ _) .nil)))))))))))
theorem Z8o (n:ZF) (us:LI) (b:Z7) (os:LI) (ls:LI) (mm:Nat) (hn:Xv n) (hf:fB n.decls n.routines.length mm b) (hop:Vm WQ b) (hul:us.length=mm) (hm:mm+4*b.sz<=100000) (hor:∀v∈os,0<=v/\v<(mm:Int)) (hol:os.length+4*b.sz<=730) (hal:ls.length+2000*b.sz<=1000000) (hbz:b.sz<=500) (ih:∀(us2:LI) (b2:Z7) (os2:LI) (as2:LI) (m2:Nat),(fB n.decls n.routines.length m2 b2)->(Vm WQ b2)->(us2.length=m2)->(m2+4*b2.sz<=100000)->(∀v∈os2,0<=v/\v<(m2:Int))->(os2.length+4*b2.sz<=730)->(as2.length+2000*b2.sz<=1000000)->(b2.sz<=500)->(b2.sz<b.sz)->Zm 271 [YC n,Z4 us2,Ym b2,Z4 os2,Z4 as2] [] (fun r h=>∃(y:Z7),r=Ym y/\h=[]/\KB n.decls n.routines.length m2 y (4500*b2.sz))):Zm 271 [YC n,Z4 us,Ym b,Z4 os,Z4 ls] [] (fun r h=>∃(y:Z7),r=Ym y/\h=[]/\KB n.decls n.routines.length mm y (4500*b.sz)):=by
 have Xp:=hn.decls
 have hbe:=b.sz_eq
 have Yd:=Ux b
 obtain ⟨hfs,hr1,hr2⟩:=(J3 b).1 hf
 have hos:=D5.1 ((Hw b).1 hop)
 have hdn:=IX hos
 have hdl:=hdn b.steps.length (X2 _)
 rw [U7] at hdl
 refine ZD 149 Tryz.func271 (ar (iA (X7 n) fun b1=>iA (XW b) fun b2=>iA [nl,.i 0] fun b3=>ie (ar (iL (ZQ []) 0 5 fun v1=>Z1 (ZX 1 (ic [] (Vf us) ?_))))))
 rintro _ _ ⟨v2,rfl,rfl⟩
 refine Z1 (ZX 1 (ic [] (Vf os) ?_))
 rintro _ _ ⟨v3,rfl,rfl⟩
 refine Z1 (Y5 (ab 0 (Y1 (fun fz gz m F h=>∃(k:Nat) (vs:LI) (w:Value) (ms:LI) (u:Value) (xs:List Z5) (v:Value),(k<=b.steps.length)/\(vs.length=mm+k)/\(CL n.decls n.routines.length mm xs k (4500*Yr (b.steps.take k)))/\(ms.length<=os.length+k)/\(∀v∈ms,0<=v/\v<((mm+k:Nat):Int))/\F=sF [4,5,7,10] fz [(11,Xe xs v),(12,Y6 vs w),(13,Y6 ms u),(14,.i k)]/\h=[Zi gz 3,Zi gz 4,Zi gz 5,.tail u 1,.tail v 5,.tail w 1]/\m=b.steps.length-k) _ _ _ ⟨0,us,v2,os,v3,[],v1,ob,ob,CL.nil,ob,hor,rfl,rfl,rfl⟩ (wk [3,3,3,0,1,0] (fw (fr (Ya fl)))) ?_)))
 rintro m F h ⟨k,vs,w,ms,u,xs,v,Yi,Zd,Zz,YA,Wb,rfl,rfl,rfl⟩
 refine Yq 3 [1] (iw (UA b.steps) (Y3 ((k:Int)<(b.steps.length:Int)) (fun Z9=>?_) (fun Z9=>?_)))
 ·refine ak (aq (ab 1 (Zq 3 [1] ?_)))
  obtain ⟨x1,Z3⟩:=Zt b.steps k om
  have Xo:=Dc Z3
  have hfS:=(Bb x1).1 (DI hfs Z3)
  rw [hdn k om] at hfS
  have hoS:=(Fe x1).1 (hos x1 (Y4 Z3))
  have htk:=HX Z3
  have hse:=(x1).sz_eq
  have hal4:=hfS.alen
  have hxl:=Zz.len
  have htl:=KP b.steps (k+1)
  have hsd:=Z20 b.steps (k+1)
  have hul2:=N1 (n:=((vs.length+1:Nat):Int)) (b.steps.drop (k+1)) []
  have hul3:=I5 (n:=((vs.length+1:Nat):Int)) (UY ((vs.length+1:Nat):Int) (b.steps.drop (k+1)) []) b.result
  simp only [YF,Wj] at hul2
  refine Zp (Ze none (k:Int) 5 (V9 Z3)) (Z0 1 (iA [.i 0,.i 0,.i 0,nl,nl] fun b4=>ZG 0 b4 (W7 x1) (ie (ZX 1 (iw (Y9 vs) (Z1 (ar (QM 3 [(41,Z4 vs)] [3,0] (Zw [] (MQ n vs x1 ob ob) (Z1 (Zq 2 [2] (ia (((vs.length+1:Nat):Int)) (((vs.length:Int))+(1)) (Z0 1 (ZC k (iL (Z6 []) 0 1 fun v4=>Y0 0 [(49,Z4 [])] (Zw [] (Z1f b ((vs.length+1:Nat):Int) (k+1) [] (hk:=om) (hz:=(by simp only [YF];omega))) (Z0 1 (ic [] (Z9y (UL ((vs.length+1:Nat):Int) (UY ((vs.length+1:Nat):Int) (b.steps.drop (k+1)) []) b.result) ls) ?_))))))))))))))))))
  rintro _ _ ⟨zs1,rfl,rfl,ZT⟩
  have hun:=ZT
  refine Z1 (ar (QM 6 [(55,Z4 vs),(57,Z4 ms)] [4,1] (ic [] (Z8v n vs x1 ms zs1 (mm+k) (hf:=hfS)) ?_)))
  rintro _ _ ⟨zs2,rfl,rfl,Yg⟩
  have hdu:=Yg
  have hq1:=Zz.cnts (op:=14) (.inl rfl) (vs:=zs2) (fun v hv=>hfS.args v (hdu.2 v hv))
  have hl1:=hq1.len
  refine ic [] (KN 14 zs2) ?_
  rintro _ _ ⟨v5,rfl,rfl⟩
  refine Y0 0 [(60,Vl (zs2.map (Zx 14)))] (ip 7 (ZQ (xs++(zs2.map (Zx 14)))) (ZQ xs) (ZQ (zs2.map (Zx 14))) v none 5 (XD _) (XD _) (Uk _) (by simp<;>omega) (by simp [Vt,ZQ]) fun v6=>Z1 (ar (QM 6 [(64,Z4 vs),(66,Z4 ms)] [6,3] (ic [] (Z8r n vs x1 ms zs1 (mm+k) b.sz (hf:=hfS) (h11:=hoS.1) (hop:=hoS.2) (hor:=Wb) (ih:=ih)) ?_))))
  rintro _ _ ⟨y1,rfl,rfl,YJ⟩
  have hkt:=YJ
  have hq2:=hq1.kt hkt
  have hl2:=hq2.len
  refine UG [X3 y1] (ZQ [y1]) (U4 [y1]).symm 1 5 fun v7=>Y0 0 [(69,Vl [y1])] (ip 1 (ZQ ((xs++(zs2.map (Zx 14)))++[y1])) (ZQ (xs++(zs2.map (Zx 14)))) (ZQ [y1]) v6 none 5 (XD _) (XD _) (Uk _) (by simp<;>omega) (by simp [Vt,ZQ]) fun v8=>Z1 (ar (QM 5 [(72,Z4 vs),(74,Z4 ms)] [7,4] (ic [] (Z9b n vs x1 ms zs1 (mm+k) (hf:=hfS)) ?_))))
  rintro _ _ ⟨zs3,v9,rfl,rfl,YQ⟩
  have hla:=YQ
  refine Z1 (ar (QM 4 [(79,Z4 zs3)] [8,5] (ic [] (Z9c n x1 zs3 zs1 (mm+k) (hf:=hfS)) ?_)))
  rintro _ _ ⟨zs4,rfl,rfl,X4⟩
  have hld:=X4
  have hq3:=hq2.cnts (op:=15) (.inr rfl) (vs:=zs4) (fun v hv=>by have:=hfS.args v (hld.2 v hv);omega)
  have hl3:=hq3.len
  refine Z1 (ZX 2 (ic [] (KN 15 zs4) ?_))
  rintro _ _ ⟨v10,rfl,rfl⟩
  refine Y0 0 [(84,Vl (zs4.map (Zx 15)))] (ip 2 (ZQ (((xs++(zs2.map (Zx 14)))++[y1])++(zs4.map (Zx 15)))) (ZQ ((xs++(zs2.map (Zx 14)))++[y1])) (ZQ (zs4.map (Zx 15))) v8 none 5 (XD _) (XD _) (Uk _) (by simp<;>omega) (by simp [Vt,ZQ]) fun v11=>?_)
  refine Z1 (Y5 (ab 2 (Y1 (fun fz gz m F h=>∃(j:Nat) (m3:LI) (u3:Value) (v3:Value) (w3:Value),(j<=zs4.length)/\(m3.length<=os.length+k)/\(∀v∈m3,0<=v/\v<((mm+k:Nat):Int))/\F=sF [4,5,7,10,14,16,17,18,19] fz [(11,Xe (((xs++(zs2.map (Zx 14)))++[y1])++(zs4.map (Zx 15))) v3),(12,Y6 vs w3),(13,Y6 m3 u3),(20,.i j)]/\h=[Zi gz 7,Zi gz 8,Zi gz 9,.tail u3 1,.tail v3 5,.tail w3 1]/\m=zs4.length-j) _ _ _ ⟨0,zs3,v9,v11,w,ob,ob,(fun v hv=>Wb v (hla.2 v hv)),rfl,rfl,rfl⟩ (wk [7,7,7,2,0,6] (fw (fr (Ya fl)))) ?_)))
  rintro m F h ⟨j,m3,u3,v3,w3,VG,Xm,XN,rfl,rfl,rfl⟩
  refine YR 2 (iw (Y9 zs4) (Y3 ((j:Int)<(zs4.length:Int)) (fun Zh=>?_) (fun Zh=>?_)))
  ·refine ak (aq (ab 3 (az (Z0 3 ?_))))
   obtain ⟨x2,Zv⟩:=Zt zs4 j om
   refine Zp (Ze none (j:Int) 1 (Y7 Zv)) (Y0 1 [(92,Z4 m3)] (ic [] (PI m3 x2) ?_))
   rintro _ _ ⟨v12,rfl,rfl⟩
   exact Z1 (az (Z0 1 (ZC j (Z1 (ZE ⟨j+1,(Q7 m3 x2),v12,v3,w3,ob,(V7 (Ff _ _) Xm),(fun v hv=>XN v (E1 hv)),rfl,rfl,rfl⟩ (wk [1,1,1,0,1,1] (fw (fr (ZI j fl)))))))))
  refine ax 2 (ZX 2 (iL (Z6 [YZ n vs x1]) 1 1 fun v13=>Y0 0 [(100,Z4 [YZ n vs x1])] (ip 6 (Z6 (vs++[YZ n vs x1])) (Z6 vs) (Z6 [YZ n vs x1]) w3 none 1 (YG _) (YG _) (XT _) (by simp<;>omega) (by simp [XX,Z6]) fun v14=>Z1 (ar (Xi [4,5,7,10,11,12,13,14,16,17] [(108,.b (((YZ n vs x1) != 0)&&(decide ((vs.length:Int)∈zs1))))] (fun gz=>gz) ?_ ?_)))))
  ·refine Z0 3 (ib (b:=((YZ n vs x1) != 0)) 104 (fun Zb=>?_) (fun Zb=>?_))
   ·exact Z0 2 (Zw [] (UK zs1 (vs.length:Int)) (Z1 (Zs 7 (Zj (decide ((vs.length:Int)∈zs1)) Zb fl))))
   exact Z1 (Zs 7 (Zj false Zb fl))
  refine ac (((YZ n vs x1) != 0)&&(decide ((vs.length:Int)∈zs1))) (p:=((YZ n vs x1)≠0)/\((vs.length:Int)∈zs1)) (Yo Yh dq) (fun ZA=>?_) (fun ZA=>?_)
  ·exact az (Z0 2 (iL (Z6 [(vs.length:Int)]) 1 1 fun v15=>Y0 0 [(111,Z4 [(vs.length:Int)])] (ip 6 (Z6 (m3++[(vs.length:Int)])) (Z6 m3) (Z6 [(vs.length:Int)]) u3 none 1 (YG _) (YG _) (XT _) (by simp<;>omega) (by simp [XX,Z6]) fun v16=>Z1 (az (Z0 1 (ZC k (Z1 (ZE ⟨k+1,(vs++[YZ n vs x1]),v14,(m3++[(vs.length:Int)]),v16,(((xs++(zs2.map (Zx 14)))++[y1])++(zs4.map (Zx 15))),v3,ob,ob,(by first|exact hq3.le om|exact (hq3.cnt (op:=15) (.inr rfl) om).le om),ob,(by first|exact XC (fun v hv=>by have:=XN v hv;omega) om|exact (fun v hv=>by have:=XN v hv;omega)),rfl,rfl,rfl⟩ (wk [4,4,4,0,3,1] (fw (fr (ZI k fl))))))))))))
  refine ar (YS ((YZ n vs x1) != 0) Yh (fun Yk=>?_) (fun Yk=>?_))
  ·exact az (Z0 2 (Zw [] (Ch 15 (vs.length:Int)) (UG [X3 (Zx 15 (vs.length:Int))] (ZQ [(Zx 15 (vs.length:Int))]) (U4 [(Zx 15 (vs.length:Int))]).symm 1 5 fun v17=>Y0 0 [(118,Vl [(Zx 15 (vs.length:Int))])] (ip 7 (ZQ ((((xs++(zs2.map (Zx 14)))++[y1])++(zs4.map (Zx 15)))++[(Zx 15 (vs.length:Int))])) (ZQ (((xs++(zs2.map (Zx 14)))++[y1])++(zs4.map (Zx 15)))) (ZQ [(Zx 15 (vs.length:Int))]) v3 none 5 (XD _) (XD _) (Uk _) (by simp<;>omega) (by simp [Vt,ZQ]) fun v18=>Z1 (az (Z0 1 (ZC k (Z1 (ZE ⟨k+1,(vs++[YZ n vs x1]),v14,m3,u3,((((xs++(zs2.map (Zx 14)))++[y1])++(zs4.map (Zx 15)))++[(Zx 15 (vs.length:Int))]),v18,ob,ob,(by first|exact hq3.le om|exact (hq3.cnt (op:=15) (.inr rfl) om).le om),ob,(by first|exact XC (fun v hv=>by have:=XN v hv;omega) om|exact (fun v hv=>by have:=XN v hv;omega)),rfl,rfl,rfl⟩ (wk [4,4,4,4,0,1] (fw (fr (ZI k fl)))))))))))))
  exact ak (az (Z0 1 (ZC k (Z1 (ZE ⟨k+1,(vs++[YZ n vs x1]),v14,m3,u3,(((xs++(zs2.map (Zx 14)))++[y1])++(zs4.map (Zx 15))),v3,ob,ob,(by first|exact hq3.le om|exact (hq3.cnt (op:=15) (.inr rfl) om).le om),ob,(by first|exact XC (fun v hv=>by have:=XN v hv;omega) om|exact (fun v hv=>by have:=XN v hv;omega)),rfl,rfl,rfl⟩ (wk [2,2,2,2,2,0] (fw (fr (ZI k fl)))))))))
 have hxl:=Zz.len
 have htl:=KP b.steps k
 refine ax 0 (Yq 3 [1] ?_)
 obtain ⟨x3,YN⟩:=Zt vs b.result.toNat om
 refine Zp (Ze (some w) b.result 1 (Y7 YN)) (Xi [7,10,11] [(138,.b ((x3 != 0)&&((decide (b.result∈ls))||(!(decide (b.result∈ms))))))] (fun gz=>gz) ?_ ?_)
 ·refine Z0 3 (ib (b:=(x3 != 0)) 126 (fun Zy=>?_) (fun Zy=>?_))
  ·refine ZB 3 [1] (Zw [] (UK ls b.result) (Z0 1 (ib (b:=(decide (b.result∈ls))) 131 (fun Yf=>?_) (fun Yf=>?_))))
   ·exact Z1 (Zs 6 (Zj true (And.intro Zy Yf) fl))
   exact QM 3 [(132,Z4 ms)] [1] (Zw [] (UK ms b.result) (Z1 (Zs 6 (Zj (!(decide (b.result∈ms))) (And.intro Zy Yf) fl))))
  exact Z1 (Zs 6 (Zj false Zy fl))
 refine ac ((x3 != 0)&&((decide (b.result∈ls))||(!(decide (b.result∈ms))))) (p:=(x3≠0)/\((b.result∈ls)∨(¬(b.result∈ms)))) (Yo Yh (ZJ dq (Y8 dq))) (fun YI=>?_) (fun YI=>?_)
 ·exact az (ZB 3 [1] (Zw [] (Ch 14 b.result) (UG [X3 (Zx 14 b.result)] (ZQ [Zx 14 b.result]) (U4 [Zx 14 b.result]).symm 1 5 fun v19=>Y0 0 [(143,Vl [Zx 14 b.result])] (ip 5 (ZQ (xs++[Zx 14 b.result])) (ZQ xs) (ZQ [Zx 14 b.result]) v none 5 (XD _) (XD _) (Uk _) (by simp<;>omega) (by simp [Vt,ZQ]) fun v20=>Z1 (Zq 4 [3] (ZG 2 b3 [Xe (xs++[Zx 14 b.result]) v20,.i b.result] (ie (Yc (r3 [] [.agg [Xe (xs++[Zx 14 b.result]) v20,.i b.result]] [0] [(b3,b3)] ⟨(Z7.mk (xs++[Zx 14 b.result]) b.result),rfl,rfl,(((Zz.cnt (op:=14) (.inl rfl) om).block om).le (by have:=KP b.steps k;omega))⟩ (Zl.agg (.cons (Zl.forget _ _) (.cons (lr _) .nil))))))))))))
 exact ak (Zq 4 [1] (ZG 0 b3 [Xe xs v,.i b.result] (ie (Yc (r3 [] [.agg [Xe xs v,.i b.result]] [0] [(b3,b3)] ⟨(Z7.mk xs b.result),rfl,rfl,((Zz.block om).le (by have:=KP b.steps k;omega))⟩ (Zl.agg (.cons (Zl.forget _ _) (.cons (lr _) .nil))))))))
theorem Z8n (n:ZF) (us:LI) (b:Z7) (os:LI) (ls:LI) (mm:Nat) (hn:Xv n:=by exact ob) (hf:fB n.decls n.routines.length mm b:=by exact ob) (hop:Vm WQ b:=by exact ob) (hul:us.length=mm:=by exact ob) (hm:mm+4*b.sz<=100000:=by exact ob) (hor:∀v∈os,0<=v/\v<(mm:Int)) (hol:os.length+4*b.sz<=730:=by exact ob) (hal:ls.length+2000*b.sz<=1000000:=by exact ob) (hbz:b.sz<=500:=by exact ob):Zm 271 [YC n,Z4 us,Ym b,Z4 os,Z4 ls] [] (fun r h=>∃(y:Z7),r=Ym y/\h=[]/\KB n.decls n.routines.length mm y (4500*b.sz)):=by
 have key:∀k:Nat,∀(us2:LI) (b2:Z7) (os2:LI) (as2:LI) (m2:Nat),(fB n.decls n.routines.length m2 b2)->(Vm WQ b2)->(us2.length=m2)->(m2+4*b2.sz<=100000)->(∀v∈os2,0<=v/\v<(m2:Int))->(os2.length+4*b2.sz<=730)->(as2.length+2000*b2.sz<=1000000)->(b2.sz<=500)->(b2.sz<k)->Zm 271 [YC n,Z4 us2,Ym b2,Z4 os2,Z4 as2] [] (fun r h=>∃(y:Z7),r=Ym y/\h=[]/\KB n.decls n.routines.length m2 y (4500*b2.sz)):=by
  intro k
  induction k with
  | zero=>intro us2 b2 os2 as2 m2 h1 h2 h3 h4 h5 h6 h7 h8 h9;omega
  | succ k ih=>intro us2 b2 os2 as2 m2 h1 h2 h3 h4 h5 h6 h7 h8 h9;exact Z8o n us2 b2 os2 as2 m2 hn h1 h2 h3 h4 h5 h6 h7 h8 fun us3 b3 os3 as3 m3 q1 q2 q3 q4 q5 q6 q7 q8 q9=>ih us3 b3 os3 as3 m3 q1 q2 q3 q4 q5 q6 q7 q8 om
 exact key (b.sz+1) us b os ls mm hf hop hul hm hor hol hal hbz om
theorem Z8p (n:ZF) (rt:Yz) (qz:Nat) (hn:Xv n:=by exact ob) (hr:RF n.decls n.routines.length qz WQ rt:=by exact ob) (hqz:qz<=181:=by exact ob):Zm 224 [YC n,A7 rt] [] (fun r h=>∃(y:Z7),r=Ym y/\h=[]/\KB n.decls n.routines.length rt.params.length y (4500*qz+10)):=by
 have hrp:rt.params.length<=3:=(To.bd (f:=⟨rt.params,rt.result,default⟩) hr.sig).1
 have hrl:=hr.lent.1
 have hrz:=hr.body.2
 refine ZD 65 Tryz.func224 (ar (iA (X7 n) fun b1=>iA (JL rt) fun b2=>iA [nl,.i 0] fun b3=>ie (Zq 4 [1,1] (iw (Y9 rt.params) (Zw [] (Z1u rt.body (rt.params.length:Int)) ?_)))))
 have hub:=I4 (n:=(rt.params.length:Int)) rt.body []
 simp only [YF,Wj] at hub
 refine Z1 (ar (iL (Z6 []) 0 1 fun v1=>Z1 (ar (iL (Z6 []) 0 1 fun v2=>?_))))
 refine Z1 (Y5 (ab 0 (Y1 (fun fz gz m F h=>∃(k:Nat) (os:LI) (u:Value) (dr:LI) (w:Value),(k<=rt.params.length)/\(os.length<=k)/\(dr.length<=k)/\(∀v∈os,0<=v/\v<(rt.params.length:Int))/\(∀v∈dr,0<=v/\v<(rt.params.length:Int))/\F=sF [2,3,4,5] fz [(6,Y6 os u),(7,Y6 dr w),(8,.i k)]/\h=[Zi gz 2,Zi gz 3,Zi gz 4,.tail u 1,.tail w 1]/\m=rt.params.length-k) _ _ _ ⟨0,[],v1,[],v2,ob,ob,ob,(fun v hv=>by cases hv),(fun v hv=>by cases hv),rfl,rfl,rfl⟩ (wk [2,2,2,1,0] (fw (Ya fl))) ?_)))
 rintro m F h ⟨k,os,u,dr,w,Yi,Zd,Zz,YA,Wb,rfl,rfl,rfl⟩
 refine Yq 3 [1] (iw (Y9 rt.params) (Y3 ((k:Int)<(rt.params.length:Int)) (fun Z9=>?_) (fun Z9=>?_)))
 ·refine ak (aq (ab 1 (Zq 3 [1] ?_)))
  obtain ⟨x1,Z3⟩:=Zt rt.params k om
  refine Zp (Ze none (k:Int) 1 (Y7 Z3)) (Xi [2,3,4,5,6,7,8] [(37,.b ((x1 != 0)&&(!(decide ((k:Int)∈rt.lent)))))] (fun gz=>gz) ?_ ?_)
  ·refine Z0 3 (ib (b:=(x1 != 0)) 31 (fun Zb=>?_) (fun Zb=>?_))
   ·exact ZB 3 [1] (Zw [] (UK rt.lent (k:Int)) (Z1 (Zs 5 (Zj (!(decide ((k:Int)∈rt.lent))) Zb fl))))
   exact Z1 (Zs 5 (Zj false Zb fl))
  refine ac ((x1 != 0)&&(!(decide ((k:Int)∈rt.lent)))) (p:=(x1≠0)/\(¬((k:Int)∈rt.lent))) (Yo Yh (Y8 dq)) (fun Zh=>?_) (fun Zh=>?_)
  ·refine ZX 2 (Zw [] (UK (UX (rt.params.length:Int) rt.body []) (k:Int)) (ie (Wt ((k:Int)∈(UX (rt.params.length:Int) rt.body [])) (fun ZA=>?_) (fun ZA=>?_))))
   ·exact az (Z0 2 (iL (Z6 [(k:Int)]) 1 1 fun v3=>Y0 0 [(43,Z4 [(k:Int)])] (ip 4 (Z6 (os++[(k:Int)])) (Z6 os) (Z6 [(k:Int)]) u none 1 (YG _) (YG _) (XT _) (by simp<;>omega) (by simp [XX,Z6]) fun v4=>Z1 (az (Z0 1 (ZC k (Z1 (ZE ⟨k+1,(os++[(k:Int)]),v4,dr,w,ob,ob,ob,(by first|exact YA|exact XC YA om),(by first|exact Wb|exact XC Wb om),rfl,rfl,rfl⟩ (wk [2,2,2,0,1] (fw (ZI k fl)))))))))))
   exact az (Z0 2 (iL (Z6 [(k:Int)]) 1 1 fun v5=>Y0 0 [(47,Z4 [(k:Int)])] (ip 5 (Z6 (dr++[(k:Int)])) (Z6 dr) (Z6 [(k:Int)]) w none 1 (YG _) (YG _) (XT _) (by simp<;>omega) (by simp [XX,Z6]) fun v6=>Z1 (az (Z0 1 (ZC k (Z1 (ZE ⟨k+1,os,u,(dr++[(k:Int)]),v6,ob,ob,ob,(by first|exact YA|exact XC YA om),(by first|exact Wb|exact XC Wb om),rfl,rfl,rfl⟩ (wk [2,2,2,2,0] (fw (ZI k fl)))))))))))
  exact ak (az (Z0 1 (ZC k (Z1 (ZE ⟨k+1,os,u,dr,w,ob,ob,ob,(by first|exact YA|exact XC YA om),(by first|exact Wb|exact XC Wb om),rfl,rfl,rfl⟩ (Zs 5 (fw (ZI k fl))))))))
 refine ax 0 (Zq 6 [2,1,1] (iL (Z6 []) 0 1 fun v7=>Y0 0 [(54,Z4 os),(55,Z4 [])] (ic [] (Z8n n rt.params rt.body os [] rt.params.length (hf:=hr.body.1) (hop:=hr.op) (hor:=YA) (hal:=(by simp only [YF];omega))) ?_)))
 rintro _ _ ⟨y1,rfl,rfl,YJ⟩
 have hkb:=YJ
 have hkl:=hkb.len
 refine iA [nl,.i 0] fun b4=>ZG 0 b4 (XW y1) (ie (aD 9 (Dv 4 9 [0,2,3,5,6] [(57,Z4 dr)] [0,0] (Z8 1 (dc 1 [] [0,0] [b4,b4] (KN 15 dr) ?_)))))
 rintro _ _ ⟨v8,rfl,rfl⟩
 exact Z8 4 (dp 4 0 [0] [b4] (ZQ ((dr.map (Zx 15))++y1.steps)) (ZQ (dr.map (Zx 15))) (ZQ y1.steps) v8 none 5 (XD _) (XD _) (Uk _) (by simp<;>omega) (by simp [Vt,ZQ]) fun v9=>Zo 1 2 [7] (Z8 8 (X5 8 3 [] [] b3 [Xe ((dr.map (Zx 15))++y1.steps) v9,.i y1.result] (de (Yc (r3 [] [.agg [Xe ((dr.map (Zx 15))++y1.steps) v9,.i y1.result]] [0] [(b3,b3)] ⟨(Z7.mk ((dr.map (Zx 15))++y1.steps) y1.result),rfl,rfl,((hkb.put1 (op:=15) (.inr rfl) Wb).le om)⟩ (Zl.agg (.cons (Zl.forget _ _) (.cons (lr _) .nil)))))))))
theorem Z8s (n:ZF) (qz:Nat) (hn:FO n qz WQ:=by exact ob) (hqz:qz<=181:=by exact ob):Zm 175 [YC n] [] (fun r h=>∃(n2:ZF),r=YC n2/\h=[]/\FO n2 (4500*qz+10) Vz):=by
 have hnl:=hn.fn.len
 have Xp:=hn.fn.decls.ok
 have hok:=hn.fn.ok
 refine ZD 36 Tryz.func175 (ar (iA (X7 n) fun b1=>iA [nl,nl] fun b2=>ie (Zq 2 [1] (Zw [] (Br n.decls) (iL (X8 []) 0 5 fun v1=>Z0 1 (iA [nl,nl] fun b3=>?_))))))
 refine ZG 0 b3 [Yu n.decls,WU [] v1] (ie (Y5 (ab 0 (Y1 (fun fz gz m F h=>∃(k:Nat) (rs:List Yz) (u:Value),(k<=n.routines.length)/\(rs.length=k)/\(∀r∈rs,RF n.decls n.routines.length (4500*qz+10) Vz r)/\F=sF [1,2,3] fz [(4,.i k)]/\h=[.obj b3 [Yu n.decls,WU rs u],Zi gz 2,Zi gz 3,.tail u 5]/\m=n.routines.length-k) _ _ _ ⟨0,[],v1,ob,ob,(fun r hr=>by cases hr),rfl,rfl,rfl⟩ (wk [0,1,1,0] (Ya fl)) ?_))))
 rintro m F h ⟨k,rs,u,Yi,Zd,Zz,rfl,rfl,rfl⟩
 refine Yq 3 [2] (iw (TW n.routines) (Y3 ((k:Int)<(n.routines.length:Int)) (fun Z9=>?_) (fun Z9=>?_)))
 ·refine ak (aq (ab 1 (aE 19 (ZV 14 19 [0,1,2,3,4] [0,2] ?_))))
  obtain ⟨x1,Z3⟩:=Zt n.routines k om
  have hrf:=hn.rf (Y4 Z3)
  have hrp:(x1).params.length<=3:=(To.bd (f:=⟨(x1).params,(x1).result,default⟩) hrf.sig).1
  have hrl:=hrf.lent.1
  have hrz:=hrf.body.2
  refine dx 5 (Ze none (k:Int) 5 (VJ Z3)) (ZV 8 13 [6,7,8,9,10] [2,2] (dx 11 (Ze none (k:Int) 5 (VJ Z3)) (Zo 6 7 [12] (Z8 13 (dc 13 [] [2,0] [b1,b3] (Z8p n x1 qz (hr:=hrf)) ?_)))))
  rintro _ _ ⟨y1,rfl,rfl,ZT⟩
  have hkb:=ZT
  exact Z8 14 (YD 14 [] [0] [b3] (Ec x1 y1 (hp:=om) (hl:=om)) (Z8 15 (dL 15 [0] [b3] (X8 [Yz.mk x1.params x1.lent x1.result y1]) 1 5 fun v2=>Yy 3 3 [] [(32,JS [Yz.mk x1.params x1.lent x1.result y1])] (Z8 16 (dp 16 4 [] [] (X8 (rs++[Yz.mk x1.params x1.lent x1.result y1])) (X8 rs) (X8 [Yz.mk x1.params x1.lent x1.result y1]) u none 5 (T8 _) (T8 _) (BR _) (by simp<;>omega) (by simp [DE,X8]) fun v3=>Zo 1 2 [17] (Z8 18 (X5 18 2 [] [] b3 [Yu n.decls,WU (rs++[Yz.mk x1.params x1.lent x1.result y1]) v3] (de (az (Z0 1 (ZC k (Z1 (ZE ⟨k+1,(rs++[Yz.mk x1.params x1.lent x1.result y1]),v3,ob,ob,(XC Zz (by first|exact hrf.with hkb.fb hkb.sz hkb.op|(rw [Z7.eta];exact hrf.with hkb.fb hkb.sz hkb.op))),rfl,rfl,rfl⟩ (wk [0,2,2,0] (ZI k fl)))))))))))))))
 exact ax 0 (Zq 1 [0] (ZG 1 b2 [Yu n.decls,WU rs u] (ie (Yc (r3 [] [.agg [Yu n.decls,WU rs u]] [0] [(b2,b2)] ⟨(ZF.mk n.decls rs),rfl,rfl,(FO.fin hn.fn om Zz).1⟩ (Zl.agg (.cons (lr _) (.cons (Zl.forget _ _) .nil))))))))
theorem Z8k (n:ZF) (us:LI) (s:Z5) (mm:Nat) (hn:Xv n:=by exact ob) (hf:FS n.decls n.routines.length mm s:=by exact ob) (hvl:us.length=mm:=by exact ob) (hm:mm<=100000000:=by exact ob):Zm 272 [YC n,Z4 us,X3 s] [] (fun r h=>∃(zs:LI),r=Z4 zs/\h=[]/\zs.length<=s.args.length/\∀z∈zs,z∈s.args):=by
 have hal:=hf.alen
 refine ZD 31 Tryz.func272 (ar (iA (X7 n) fun b1=>iA (W7 s) fun b2=>Z1 (ar (iL (Z6 []) 0 1 fun v1=>?_))))
 refine Z1 (Y5 (ab 0 (Y1 (fun fz gz m F h=>∃(k:Nat) (zs:LI) (u:Value),(k<=s.args.length)/\(zs.length<=k)/\(∀z∈zs,z∈s.args)/\F=sF [1,3,5] fz [(7,Y6 zs u),(8,.i k)]/\h=[Zi gz 1,Zi gz 2,.tail u 1]/\m=s.args.length-k) _ _ _ ⟨0,[],v1,ob,ob,(fun z hz=>by cases hz),rfl,rfl,rfl⟩ (wk [1,1,0] (fr (Ya fl))) ?_)))
 rintro m F h ⟨k,zs,u,Yi,Zd,Zz,rfl,rfl,rfl⟩
 refine Yq 3 [0] (iw (Y9 s.args) (Y3 ((k:Int)<(s.args.length:Int)) (fun Z9=>?_) (fun Z9=>?_)))
 ·obtain ⟨a1,ha1⟩:=Zt s.args k om
  have har:=hf.args a1 (Y4 ha1)
  refine ak (aq (ab 1 (Zq 4 [1,0] (Zw [] (HW n us s k a1 (hnum:=hf.call) (ha:=ha1)) (ie (ac (Jx n us s.op s.num a1 k) Iff.rfl (fun Zh=>?_) (fun Zh=>?_)))))))
  ·exact az (ZB 4 [0] (Zp (Ze none (k:Int) 1 (Y7 ha1)) (Z0 1 (iL (Z6 [a1]) 1 1 fun v2=>Y0 0 [(28,Z4 [a1])] (ip 3 (Z6 (zs++[a1])) (Z6 zs) (Z6 [a1]) u none 1 (YG _) (YG _) (XT _) (by simp<;>omega) (by simp [XX,Z6]) fun v3=>Z1 (az (Z0 1 (ZC k (Z1 (ZE ⟨k+1,(zs++[a1]),v3,ob,ob,(by first|exact Zz|exact XC Zz (Y4 ha1)),rfl,rfl,rfl⟩ (wk [2,2,0] (fr (ZI k fl)))))))))))))
  exact ak (az (Z0 1 (ZC k (Z1 (ZE ⟨k+1,zs,u,ob,ob,(by first|exact Zz|exact XC Zz (Y4 ha1)),rfl,rfl,rfl⟩ (Zs 3 (fr (ZI k fl))))))))
 exact ax 0 (ar (Zk (r2 [] [Y6 zs u] ⟨zs,rfl,rfl,⟨by omega,Zz⟩⟩ (Zl.forget _ _))))
theorem Z99 (n:ZF) (us:LI) (s:Z5) (mm:Nat) (bb:Nat) (hn:Xv n:=by exact ob) (hf:FS n.decls n.routines.length mm s:=by exact ob) (h11:s.op<=11:=by exact ob) (hop:Kc WQ s.kids:=by exact ob) (hul:us.length=mm:=by exact ob) (hm:mm+4*s.sz<=100000:=by exact ob) (hbz:s.sz<=500:=by exact ob) (hb:s.sz<=bb:=by exact ob) (ih:∀(us2:LI) (b2:Z7) (mi2:LI) (m2:Nat),(fB n.decls n.routines.length m2 b2)->(Vm WQ b2)->(us2.length=m2)->(m2+4*b2.sz<=100000)->(∀v∈mi2,0<=v/\v<(m2:Int))->(mi2.length<=3)->(b2.sz<=500)->(b2.sz<bb)->Zm 225 [YC n,Z4 us2,Ym b2,Z4 mi2] [] (fun r h=>∃(y:Z7),r=Ym y/\h=[]/\KB n.decls n.routines.length m2 y (60*b2.sz))):Zm 273 [YC n,Z4 us,X3 s] [] (fun r h=>∃(y:Z5),r=X3 y/\h=[]/\KT n.decls n.routines.length mm y (60*YV s.kids+23)):=by
 have Xp:=hn.decls
 have hkf:=hf.few Xp
 have hsa:=hf.alen
 refine ZD 72 Tryz.func273 (ar (iA (X7 n) fun b1=>iA (W7 s) fun b2=>iA [.i 0,.i 0,.i 0,nl,nl] fun b3=>ie (ar (iL (XL []) 0 2 fun v1=>Z1 (Zq 4 [3,2] (ic [] (Je n.decls s.num) ?_))))))
 rintro _ _ ⟨v2,rfl,rfl⟩
 refine Z1 (Y5 (ab 0 (Y1 (fun fz gz m F h=>∃(k:Nat) (ks:List Z7) (u:Value),(k<=s.kids.length)/\(ks.length=k)/\(KK n.decls n.routines.length (WK n.decls s.op s.num mm) ks (60*YV (s.kids.take k)+6*k))/\F=sF [1,3,5,6] fz [(7,Qu ks u),(8,Z4 (ZU n.decls s.num)),(9,.i k)]/\h=[Zi gz 2,Zi gz 3,Zi gz 4,.tail u 2]/\m=s.kids.length-k) _ _ _ ⟨0,[],v1,ob,ob,(KK.nil.le (T2 _)),rfl,rfl,rfl⟩ (wk [2,2,2,1] (fr (fc (x:=Y6 (ZU n.decls s.num) v2) (Zl.forget _ _) (Ya fl)))) ?_)))
 rintro m F h ⟨k,ks,u,Yi,Zd,Zz,rfl,rfl,rfl⟩
 refine Yq 3 [1] (iw (Kz s.kids) (Y3 ((k:Int)<(s.kids.length:Int)) (fun Z9=>?_) (fun Z9=>?_)))
 ·refine ak (aq (ab 1 (ar (iL (Z6 []) 0 1 fun v3=>?_))))
  refine Z1 (X6 (Vb [2] (Xw (fun fz gz F h=>∃(fds:LI),(WK n.decls s.op s.num mm k=mm+fds.length)/\(fds.length<=3)/\F=sF [1,3,5,6,7,8,9] fz [(10,Z4 fds)]/\h=[Zi gz 1,Zi gz 2,Zi gz 3,Zi gz 4]) ?_ ?_)))
  ·refine ac (s.op==8) Zg (fun Zh=>?_) (fun Zh=>?_)
   ·refine aE 8 (ZV 4 8 [0,1,2,3] [3] ?_)
    obtain ⟨x1,Z3⟩:=Zt (ZU n.decls s.num) k (by have:=hf.k8 (by assumption);omega)
    have hcf:=V8 Xp x1
    exact dx 4 (Ze none (k:Int) 1 (Y7 Z3)) (Zo 2 3 [5] (Z8 6 (YD 6 [] [] [] (Qy n.decls x1) (Zo 0 1 [7] (de (ZM ⟨ZO n.decls x1,(MH (by assumption) Z3),ob,rfl,rfl⟩ (wk [1,1,1,1] fl)))))))
   exact ak (ZM ⟨[],(by rw [MI (by assumption)];rfl),ob,rfl,rfl⟩ (wk [1,1,1,1] fl))
  rintro F h ⟨fds,VE,Bj,rfl,rfl⟩
  refine ZX 2 (iw (Y9 us) (ic [] (Py fds us.length) ?_))
  rintro _ _ ⟨xs1,rfl,rfl,ZT⟩
  have hhf:=ZT
  refine Z1 (aD 13 (ZV 7 13 [0,1,2,4,5,6] [2,1] ?_))
  obtain ⟨x2,Zv⟩:=Zt s.kids k om
  have hkz:=Qs Zv
  have hfk:=BT hf.kids Zv
  rw [Wj,VE] at hfk
  have hok:=DZ.1 hop x2 (Y4 Zv)
  have hbt:=Gm Zv
  have hba:=Gn Zv
  refine dx 7 (Ze none (k:Int) 2 (UQ Zv)) (Zo 4 6 [8,9] (BM (fun fz gz F h=>∃(y1:Z7) (b4:Nat),(KB n.decls n.routines.length (mm+fds.length) y1 (60*x2.sz))/\F=sF [1,3,5,6,7,8,9,11] fz [(12,.p b4 0)]/\h=[.obj b4 (XW y1),Zi gz 0,Zi gz 1,Zi gz 2,Zi gz 3]) ?_ ?_))
  ·refine Uj 3 11 ?_ ?_
   ·refine dc 3 [] [1,2] [b2,b1] (TA us fds) ?_
    rintro _ _ ⟨v4,rfl,rfl⟩
    refine Yy 3 3 [] [(44,Z4 (us++fds))] (Uj 10 11 ?_ ?_)
    ·refine dc 10 [] [] [] (ih (us++fds) x2 xs1 (mm+fds.length) hfk hok (by rw [ZH,hul]) ob (fun v hv=>by have:=hhf.2 v hv;omega) ob ob ob) ?_
     rintro _ _ ⟨y1,rfl,rfl,Yg⟩
     have hkb:=Yg
     have hkl:=hkb.len
     exact Z8 11 (dA 11 [] [] [nl,.i 0] fun b4=>Z8 12 (X5 12 0 [] [] b4 (XW y1) (de (ZM ⟨_,b4,(by assumption),rfl,rfl⟩ (wk [0,1,1,1,1] fl)))))
    refine dA 11 [1,2] [b2,b1] [nl,.i 0] fun b5=>Z8 10 (dc 10 [] [] [] (ih (us++fds) x2 xs1 (mm+fds.length) hfk hok (by rw [ZH,hul]) ob (fun v hv=>by have:=hhf.2 v hv;omega) ob ob ob) ?_)
    rintro _ _ ⟨y2,rfl,rfl,YJ⟩
    have hkb:=YJ
    have hkl:=hkb.len
    exact Z8 12 (X5 12 0 [] [] b5 (XW y2) (de (ZM ⟨_,b5,(by assumption),rfl,rfl⟩ (wk [0,1,1,1,1] fl))))
   refine dA 11 [1,2] [b2,b1] [nl,.i 0] fun b6=>Z8 3 (dc 3 [] [2,3] [b2,b1] (TA us fds) ?_)
   rintro _ _ ⟨v5,rfl,rfl⟩
   refine Yy 2 2 [] [(44,Z4 (us++fds))] (Z8 10 (dc 10 [] [] [] (ih (us++fds) x2 xs1 (mm+fds.length) hfk hok (by rw [ZH,hul]) ob (fun v hv=>by have:=hhf.2 v hv;omega) ob ob ob) ?_))
   rintro _ _ ⟨y3,rfl,rfl,YQ⟩
   have hkb:=YQ
   have hkl:=hkb.len
   exact Z8 12 (X5 12 1 [] [] b6 (XW y3) (de (ZM ⟨_,b6,(by assumption),rfl,rfl⟩ (wk [0,1,1,1,1] fl))))
  rintro F h ⟨y1,b4,Yg,rfl,rfl⟩
  have hkb:=Yg
  have hkl:=hkb.len
  refine aE 12 (ZV 6 12 [0,1,3,4,6,7] [0,0] (Z8 2 (dc 2 [] [0,0] [b4,b4] (KN 14 xs1) ?_)))
  rintro _ _ ⟨v6,rfl,rfl⟩
  exact Z8 5 (dp 5 0 [0] [b4] (ZQ ((xs1.map (Zx 14))++y1.steps)) (ZQ (xs1.map (Zx 14))) (ZQ y1.steps) v6 none 5 (XD _) (XD _) (Uk _) (by simp<;>omega) (by simp [Vt,ZQ]) fun v7=>Yy 3 4 [8] [(60,.agg [Vl ((xs1.map (Zx 14))++y1.steps),.i y1.result])] (Z8 9 (WB 9 [] [] [Ym (Z7.mk ((xs1.map (Zx 14))++y1.steps) y1.result)] (XL [Z7.mk ((xs1.map (Zx 14))++y1.steps) y1.result]) (K0 [Z7.mk ((xs1.map (Zx 14))++y1.steps) y1.result]).symm 1 2 fun v8=>Yy 2 2 [] [(61,JQ [Z7.mk ((xs1.map (Zx 14))++y1.steps) y1.result])] (Z8 10 (dp 10 6 [] [] (XL (ks++[Z7.mk ((xs1.map (Zx 14))++y1.steps) y1.result])) (XL ks) (XL [Z7.mk ((xs1.map (Zx 14))++y1.steps) y1.result]) u none 2 (J0 _) (J0 _) (Gw _) (by simp<;>omega) (by simp [CD,XL]) fun v9=>Zo 0 1 [11] (de (az (Z0 1 (ZC k (Z1 (ZE ⟨k+1,(ks++[Z7.mk ((xs1.map (Zx 14))++y1.steps) y1.result]),v9,ob,ob,((Zz.snoc Zd (by rw [VE];exact hkb.put1 (op:=14) (.inl rfl) (fun v hv=>by have:=hhf.2 v hv;omega))).le om),rfl,rfl,rfl⟩ (wk [4,4,4,0] (fw (ZI k fl))))))))))))))
 refine ax 0 (aD 10 (ZV 3 10 [0,1,2,3,4,5,7] [1,1,1] (Z8 6 (dc 6 [] [1,1] [b2,b2] (Vf s.args) ?_))))
 rintro _ _ ⟨v10,rfl,rfl⟩
 exact Zo 1 2 [8] (Z8 9 (X5 9 1 [] [] b3 [.i s.op,.i s.num,.i 0,Y6 s.args v10,Qu ks u] (de (Yc (r3 [] [.agg [.i s.op,.i s.num,.i 0,Y6 s.args v10,Qu ks u]] [0] [(b3,b3)] ⟨(Z5.mk s.op s.num 0 s.args ks),rfl,rfl,((KT.of (into:=0) hf h11 om om Zz).le (by have:=IJ (xs:=s.kids) (k:=k) om;omega))⟩ (Zl.agg (.cons (lr _) (.cons (lr _) (.cons (lr _) (.cons (Zl.forget _ _) (.cons (Zl.forget _ _) .nil)))))))))))
theorem Z98 (n:ZF) (us:LI) (b:Z7) (mi:LI) (mm:Nat) (hn:Xv n) (hf:fB n.decls n.routines.length mm b) (hop:Vm WQ b) (hul:us.length=mm) (hm:mm+4*b.sz<=100000) (hmr:∀v∈mi,0<=v/\v<(mm:Int)) (hml:mi.length<=3) (hbz:b.sz<=500) (ih:∀(us2:LI) (b2:Z7) (mi2:LI) (m2:Nat),(fB n.decls n.routines.length m2 b2)->(Vm WQ b2)->(us2.length=m2)->(m2+4*b2.sz<=100000)->(∀v∈mi2,0<=v/\v<(m2:Int))->(mi2.length<=3)->(b2.sz<=500)->(b2.sz<b.sz)->Zm 225 [YC n,Z4 us2,Ym b2,Z4 mi2] [] (fun r h=>∃(y:Z7),r=Ym y/\h=[]/\KB n.decls n.routines.length m2 y (60*b2.sz))):Zm 225 [YC n,Z4 us,Ym b,Z4 mi] [] (fun r h=>∃(y:Z7),r=Ym y/\h=[]/\KB n.decls n.routines.length mm y (60*b.sz)):=by
 have Xp:=hn.decls
 have hbe:=b.sz_eq
 have Yd:=Ux b
 obtain ⟨hfs,hr1,hr2⟩:=(J3 b).1 hf
 have hos:=D5.1 ((Hw b).1 hop)
 have hdn:=IX hos
 have hdl:=hdn b.steps.length (X2 _)
 rw [U7] at hdl
 refine ZD 80 Tryz.func225 (ar (iA (X7 n) fun b1=>iA (XW b) fun b2=>iA [nl,.i 0] fun b3=>ie (ar (iL (ZQ []) 0 5 fun v1=>Z1 (ZX 1 (ic [] (Vf us) ?_))))))
 rintro _ _ ⟨v2,rfl,rfl⟩
 refine Z1 (ZX 1 (ic [] (Vf mi) ?_))
 rintro _ _ ⟨v3,rfl,rfl⟩
 refine Z1 (Y5 (ab 0 (Y1 (fun fz gz m F h=>∃(k:Nat) (vs:LI) (w:Value) (ow:LI) (u:Value) (xs:List Z5) (v:Value) (z0:Nat),(k<=b.steps.length)/\(vs.length=mm+k)/\(CL n.decls n.routines.length mm xs k z0)/\(z0+2*ow.length<=60*Yr (b.steps.take k)+2*mi.length)/\(∀v∈ow,0<=v/\v<((mm+k:Nat):Int))/\F=sF [4,6,8] fz [(9,Xe xs v),(10,Y6 vs w),(11,Y6 ow u),(12,.i k)]/\h=[Zi gz 3,Zi gz 4,Zi gz 5,.tail u 1,.tail v 5,.tail w 1]/\m=b.steps.length-k) _ _ _ ⟨0,us,v2,mi,v3,[],v1,0,ob,ob,CL.nil,(by simp),hmr,rfl,rfl,rfl⟩ (wk [3,3,3,0,1,0] (fw (fr (Ya fl)))) ?_)))
 rintro m F h ⟨k,vs,w,ow,u,xs,v,z0,Yi,Zd,Zz,YA,Wb,rfl,rfl,rfl⟩
 refine Yq 3 [1] (iw (UA b.steps) (Y3 ((k:Int)<(b.steps.length:Int)) (fun Z9=>?_) (fun Z9=>?_)))
 ·refine ak (aq (ab 1 (Zq 3 [1] ?_)))
  obtain ⟨x1,Z3⟩:=Zt b.steps k om
  have Xo:=Dc Z3
  have hfS:=(Bb x1).1 (DI hfs Z3)
  rw [hdn k om] at hfS
  have hoS:=(Fe x1).1 (hos x1 (Y4 Z3))
  have htk:=HX Z3
  have hse:=(x1).sz_eq
  have hal4:=hfS.alen
  have hxl:=Zz.len
  have htl:=KP b.steps (k+1)
  refine Zp (Ze none (k:Int) 5 (V9 Z3)) (Z0 1 (iA [.i 0,.i 0,.i 0,nl,nl] fun b4=>ZG 0 b4 (W7 x1) (ie (ar (QM 3 [(33,Z4 vs)] [3,0] (Zw [] (MQ n vs x1 ob ob) (Z1 (ar (QM 4 [(38,Z4 vs)] [3,0] (ic [] (Z8k n vs x1 (mm+k) (hf:=hfS)) ?_))))))))))
  rintro _ _ ⟨zs1,rfl,rfl,ZT⟩
  have hdu:=ZT
  have hq1:=Zz.cnts (op:=14) (.inl rfl) (vs:=zs1) (fun v hv=>hfS.args v (hdu.2 v hv))
  have hl1:=hq1.len
  refine ic [] (KN 14 zs1) ?_
  rintro _ _ ⟨v4,rfl,rfl⟩
  refine Y0 0 [(41,Vl (zs1.map (Zx 14)))] (ip 6 (ZQ (xs++(zs1.map (Zx 14)))) (ZQ xs) (ZQ (zs1.map (Zx 14))) v none 5 (XD _) (XD _) (Uk _) (by simp<;>omega) (by simp [Vt,ZQ]) fun v5=>Z1 (ar (QM 4 [(45,Z4 vs)] [5,2] (ic [] (Z99 n vs x1 (mm+k) b.sz (hf:=hfS) (h11:=hoS.1) (hop:=hoS.2) (ih:=ih)) ?_))))
  rintro _ _ ⟨y1,rfl,rfl,Yg⟩
  have hkt:=Yg
  have hq2:=hq1.kt hkt
  have hl2:=hq2.len
  refine UG [X3 y1] (ZQ [y1]) (U4 [y1]).symm 1 5 fun v6=>Y0 0 [(48,Vl [y1])] (ip 1 (ZQ ((xs++(zs1.map (Zx 14)))++[y1])) (ZQ (xs++(zs1.map (Zx 14)))) (ZQ [y1]) v5 none 5 (XD _) (XD _) (Uk _) (by simp<;>omega) (by simp [Vt,ZQ]) fun v7=>Z1 (X6 (YS ((YZ n vs x1) != 0) Yh (fun Zh=>?_) (fun Zh=>?_))))
  ·exact az (Z0 2 (iw (Y9 vs) (iL (Z6 [(vs.length:Int)]) 1 1 fun v8=>Y0 0 [(55,Z4 [(vs.length:Int)])] (ip 8 (Z6 (ow++[(vs.length:Int)])) (Z6 ow) (Z6 [(vs.length:Int)]) u none 1 (YG _) (YG _) (XT _) (by simp<;>omega) (by simp [XX,Z6]) fun v9=>Z1 (az (Z0 2 (iL (Z6 [YZ n vs x1]) 1 1 fun v10=>Y0 0 [(59,Z4 [YZ n vs x1])] (ip 10 (Z6 (vs++[YZ n vs x1])) (Z6 vs) (Z6 [YZ n vs x1]) w none 1 (YG _) (YG _) (XT _) (by simp<;>omega) (by simp [XX,Z6]) fun v11=>Z1 (az (Z0 1 (ZC k (Z1 (ZE ⟨k+1,(vs++[YZ n vs x1]),v11,(ow++[(vs.length:Int)]),v9,((xs++(zs1.map (Zx 14)))++[y1]),v7,_,ob,ob,hq2,(by (try simp only [ZH,Ys,YF]);omega),(by first|exact XC (fun v hv=>by have:=Wb v hv;omega) om|exact (fun v hv=>by have:=Wb v hv;omega)),rfl,rfl,rfl⟩ (wk [8,8,8,2,3,0] (fw (fr (ZI k fl)))))))))))))))))
  exact ak (az (Z0 2 (iL (Z6 [YZ n vs x1]) 1 1 fun v12=>Y0 0 [(59,Z4 [YZ n vs x1])] (ip 9 (Z6 (vs++[YZ n vs x1])) (Z6 vs) (Z6 [YZ n vs x1]) w none 1 (YG _) (YG _) (XT _) (by simp<;>omega) (by simp [XX,Z6]) fun v13=>Z1 (az (Z0 1 (ZC k (Z1 (ZE ⟨k+1,(vs++[YZ n vs x1]),v13,ow,u,((xs++(zs1.map (Zx 14)))++[y1]),v7,_,ob,ob,hq2,(by (try simp only [ZH,Ys,YF]);omega),(by first|exact XC (fun v hv=>by have:=Wb v hv;omega) om|exact (fun v hv=>by have:=Wb v hv;omega)),rfl,rfl,rfl⟩ (wk [6,6,6,6,2,0] (fw (fr (ZI k fl)))))))))))))
 have hxl:=Zz.len
 have htl:=KP b.steps k
 refine ax 0 (Yq 3 [1] ?_)
 obtain ⟨x2,Zv⟩:=Zt vs b.result.toNat om
 refine Zp (Ze (some w) b.result 1 (Y7 Zv)) (YS (x2 != 0) Yh (fun ZA=>?_) (fun ZA=>?_))
 ·refine az (ZB 3 [1] (Zw [] (Ch 14 b.result) (UG [X3 (Zx 14 b.result)] (ZQ [Zx 14 b.result]) (U4 [Zx 14 b.result]).symm 1 5 fun v14=>Y0 0 [(71,Vl [Zx 14 b.result])] (ip 5 (ZQ (xs++[Zx 14 b.result])) (ZQ xs) (ZQ [Zx 14 b.result]) v none 5 (XD _) (XD _) (Uk _) (by simp<;>omega) (by simp [Vt,ZQ]) fun v15=>Z1 (aD 8 (Dv 4 8 [0,1,4,5] [(74,Z4 ow)] [3] (Z8 2 (dc 2 [] [1] [b2] (KN 15 ow) ?_))))))))
  rintro _ _ ⟨v16,rfl,rfl⟩
  exact Yy 3 3 [] [(75,Vl (ow.map (Zx 15)))] (Z8 3 (dp 3 1 [1] [b2] (ZQ ((xs++[Zx 14 b.result])++(ow.map (Zx 15)))) (ZQ (xs++[Zx 14 b.result])) (ZQ (ow.map (Zx 15))) v15 none 5 (XD _) (XD _) (Uk _) (by simp<;>omega) (by simp [Vt,ZQ]) fun v17=>Zo 1 2 [6] (Z8 7 (X5 7 3 [] [] b3 [Xe ((xs++[Zx 14 b.result])++(ow.map (Zx 15))) v17,.i b.result] (de (Yc (r3 [] [.agg [Xe ((xs++[Zx 14 b.result])++(ow.map (Zx 15))) v17,.i b.result]] [0] [(b3,b3)] ⟨(Z7.mk ((xs++[Zx 14 b.result])++(ow.map (Zx 15))) b.result),rfl,rfl,((((Zz.cnt (op:=14) (.inl rfl) om).cnts (op:=15) (.inr rfl) (fun v hv=>by have:=Wb v hv;omega)).block om).le (by have:=KP b.steps k;omega))⟩ (Zl.agg (.cons (Zl.forget _ _) (.cons (lr _) .nil))))))))))
 refine ak (aD 8 (Dv 4 8 [0,1,4,5] [(74,Z4 ow)] [1] (Z8 2 (dc 2 [] [1] [b2] (KN 15 ow) ?_))))
 rintro _ _ ⟨v18,rfl,rfl⟩
 exact Yy 3 3 [] [(75,Vl (ow.map (Zx 15)))] (Z8 3 (dp 3 5 [1] [b2] (ZQ (xs++(ow.map (Zx 15)))) (ZQ xs) (ZQ (ow.map (Zx 15))) v none 5 (XD _) (XD _) (Uk _) (by simp<;>omega) (by simp [Vt,ZQ]) fun v19=>Zo 1 2 [6] (Z8 7 (X5 7 2 [] [] b3 [Xe (xs++(ow.map (Zx 15))) v19,.i b.result] (de (Yc (r3 [] [.agg [Xe (xs++(ow.map (Zx 15))) v19,.i b.result]] [0] [(b3,b3)] ⟨(Z7.mk (xs++(ow.map (Zx 15))) b.result),rfl,rfl,(((Zz.cnts (op:=15) (.inr rfl) (fun v hv=>by have:=Wb v hv;omega)).block om).le (by have:=KP b.steps k;omega))⟩ (Zl.agg (.cons (Zl.forget _ _) (.cons (lr _) .nil))))))))))
theorem Z97 (n:ZF) (us:LI) (b:Z7) (mi:LI) (mm:Nat) (hn:Xv n:=by exact ob) (hf:fB n.decls n.routines.length mm b:=by exact ob) (hop:Vm WQ b:=by exact ob) (hul:us.length=mm:=by exact ob) (hm:mm+4*b.sz<=100000:=by exact ob) (hmr:∀v∈mi,0<=v/\v<(mm:Int)) (hml:mi.length<=3:=by exact ob) (hbz:b.sz<=500:=by exact ob):Zm 225 [YC n,Z4 us,Ym b,Z4 mi] [] (fun r h=>∃(y:Z7),r=Ym y/\h=[]/\KB n.decls n.routines.length mm y (60*b.sz)):=by
 have key:∀k:Nat,∀(us2:LI) (b2:Z7) (mi2:LI) (m2:Nat),(fB n.decls n.routines.length m2 b2)->(Vm WQ b2)->(us2.length=m2)->(m2+4*b2.sz<=100000)->(∀v∈mi2,0<=v/\v<(m2:Int))->(mi2.length<=3)->(b2.sz<=500)->(b2.sz<k)->Zm 225 [YC n,Z4 us2,Ym b2,Z4 mi2] [] (fun r h=>∃(y:Z7),r=Ym y/\h=[]/\KB n.decls n.routines.length m2 y (60*b2.sz)):=by
  intro k
  induction k with
  | zero=>intro us2 b2 mi2 m2 h1 h2 h3 h4 h5 h6 h7 h9;omega
  | succ k ih=>intro us2 b2 mi2 m2 h1 h2 h3 h4 h5 h6 h7 h9;exact Z98 n us2 b2 mi2 m2 hn h1 h2 h3 h4 h5 h6 h7 fun us3 b3 mi3 m3 q1 q2 q3 q4 q5 q6 q7 q9=>ih us3 b3 mi3 m3 q1 q2 q3 q4 q5 q6 q7 om
 exact key (b.sz+1) us b mi mm hf hop hul hm hmr hml hbz om
theorem Z9r (rt:Yz) (hp:rt.params.length<=1000000:=by exact ob) (hl:rt.lent.length<=1000000:=by exact ob):Zm 226 [A7 rt] [] (fun r h=>∃(os:LI),r=Z4 os/\h=[]/\os.length<=rt.params.length/\∀v∈os,0<=v/\v<(rt.params.length:Int)):=by
 refine ZD 31 Tryz.func226 (ar (iA (JL rt) fun b1=>Z1 (ar (iL (Z6 []) 0 1 fun v1=>?_))))
 refine Z1 (Y5 (ab 0 (Y1 (fun fz gz m F h=>∃(k:Nat) (os:LI) (u:Value),(k<=rt.params.length)/\(os.length<=k)/\(∀v∈os,0<=v/\v<(rt.params.length:Int))/\F=sF [1] fz [(3,Y6 os u),(4,.i k)]/\h=[Zi gz 1,.tail u 1]/\m=rt.params.length-k) _ _ _ ⟨0,[],v1,ob,ob,(fun v hv=>by cases hv),rfl,rfl,rfl⟩ (wk [1,0] (fr (Ya fl))) ?_)))
 rintro m F h ⟨k,os,u,Yi,Zd,Zz,rfl,rfl,rfl⟩
 refine Yq 3 [0] (iw (Y9 rt.params) (Y3 ((k:Int)<(rt.params.length:Int)) (fun Z9=>?_) (fun Z9=>?_)))
 ·refine ak (aq (ab 1 (Zq 3 [0] ?_)))
  obtain ⟨x1,Z3⟩:=Zt rt.params k om
  refine Zp (Ze none (k:Int) 1 (Y7 Z3)) (Xi [1,3,4] [(25,.b ((x1 != 0)&&(!(decide ((k:Int)∈rt.lent)))))] (fun gz=>gz) ?_ ?_)
  ·refine Z0 3 (ib (b:=(x1 != 0)) 19 (fun Zb=>?_) (fun Zb=>?_))
   ·exact ZB 3 [0] (Zw [] (UK rt.lent (k:Int)) (Z1 (wk [0,0] (Zj (!(decide ((k:Int)∈rt.lent))) Zb fl))))
   exact Z1 (wk [0,0] (Zj false Zb fl))
  refine ac ((x1 != 0)&&(!(decide ((k:Int)∈rt.lent)))) (p:=(x1≠0)/\(¬((k:Int)∈rt.lent))) (Yo Yh (Y8 dq)) (fun Zh=>?_) (fun Zh=>?_)
  ·exact az (Z0 2 (iL (Z6 [(k:Int)]) 1 1 fun v2=>Y0 0 [(28,Z4 [(k:Int)])] (ip 2 (Z6 (os++[(k:Int)])) (Z6 os) (Z6 [(k:Int)]) u none 1 (YG _) (YG _) (XT _) (by simp<;>omega) (by simp [XX,Z6]) fun v3=>Z1 (az (Z0 1 (ZC k (Z1 (ZE ⟨k+1,(os++[(k:Int)]),v3,ob,ob,(by first|exact Zz|exact XC Zz om),rfl,rfl,rfl⟩ (wk [2,0] (fr (ZI k fl)))))))))))
  exact ak (az (Z0 1 (ZC k (Z1 (ZE ⟨k+1,os,u,ob,ob,(by first|exact Zz|exact XC Zz om),rfl,rfl,rfl⟩ (wk [0,0] (fr (ZI k fl))))))))
 exact ax 0 (ar (Zk (r2 [] [Y6 os u] ⟨os,rfl,rfl,⟨by omega,Zz⟩⟩ (Zl.forget _ _))))
theorem Z96 (n:ZF) (qz:Nat) (hn:FO n qz WQ:=by exact ob) (hqz:qz<=181:=by exact ob):Zm 176 [YC n] [] (fun r h=>∃(n2:ZF),r=YC n2/\h=[]/\FO n2 (60*qz) Vz):=by
 have hnl:=hn.fn.len
 have Xp:=hn.fn.decls.ok
 have hok:=hn.fn.ok
 refine ZD 39 Tryz.func176 (ar (iA (X7 n) fun b1=>iA [nl,nl] fun b2=>ie (Zq 2 [1] (Zw [] (Br n.decls) (iL (X8 []) 0 5 fun v1=>Z0 1 (iA [nl,nl] fun b3=>?_))))))
 refine ZG 0 b3 [Yu n.decls,WU [] v1] (ie (Y5 (ab 0 (Y1 (fun fz gz m F h=>∃(k:Nat) (rs:List Yz) (u:Value),(k<=n.routines.length)/\(rs.length=k)/\(∀r∈rs,RF n.decls n.routines.length (60*qz) Vz r)/\F=sF [1,2,3] fz [(4,.i k)]/\h=[.obj b3 [Yu n.decls,WU rs u],Zi gz 2,Zi gz 3,.tail u 5]/\m=n.routines.length-k) _ _ _ ⟨0,[],v1,ob,ob,(fun r hr=>by cases hr),rfl,rfl,rfl⟩ (wk [0,1,1,0] (Ya fl)) ?_))))
 rintro m F h ⟨k,rs,u,Yi,Zd,Zz,rfl,rfl,rfl⟩
 refine Yq 3 [2] (iw (TW n.routines) (Y3 ((k:Int)<(n.routines.length:Int)) (fun Z9=>?_) (fun Z9=>?_)))
 ·refine ak (aq (ab 1 (Zq 3 [2] ?_)))
  obtain ⟨x1,Z3⟩:=Zt n.routines k om
  have hrf:=hn.rf (Y4 Z3)
  have hrp:(x1).params.length<=3:=(To.bd (f:=⟨(x1).params,(x1).result,default⟩) hrf.sig).1
  have hrl:=hrf.lent.1
  have hrz:=hrf.body.2
  refine Zp (Ze none (k:Int) 5 (VJ Z3)) (Z0 1 (iA [nl,nl,.i 0,nl,.i 0] fun b4=>ZG 0 b4 (JL x1) (ie (aE 16 (ZV 7 16 [0,1,2,3,4,5,6,7,8] [1,0,3,0,0,0] (Z8 9 (dc 9 [] [0,0,3,0,1] [b4,b4,b1,b4,b3] (Z9r x1) ?_)))))))
  rintro _ _ ⟨os1,rfl,rfl,ZT⟩
  have hop:=ZT
  refine Z8 10 (dc 10 [] [0,1] [b4,b3] (Z97 n x1.params x1.body os1 _ (hf:=hrf.body.1) (hop:=hrf.op) (hul:=rfl) (hmr:=hop.2)) ?_)
  rintro _ _ ⟨y1,rfl,rfl,Yg⟩
  have hkb0:=Yg
  have hkb:=hkb0.le (z2:=60*qz) om
  exact Z8 11 (YD 11 [] [1] [b3] (Ec x1 y1 (hp:=om) (hl:=om)) (Z8 12 (dL 12 [1] [b3] (X8 [Yz.mk x1.params x1.lent x1.result y1]) 1 5 fun v2=>Yy 3 3 [] [(35,JS [Yz.mk x1.params x1.lent x1.result y1])] (Z8 13 (dp 13 5 [] [] (X8 (rs++[Yz.mk x1.params x1.lent x1.result y1])) (X8 rs) (X8 [Yz.mk x1.params x1.lent x1.result y1]) u none 5 (T8 _) (T8 _) (BR _) (by simp<;>omega) (by simp [DE,X8]) fun v3=>Zo 1 2 [14] (Z8 15 (X5 15 3 [] [] b3 [Yu n.decls,WU (rs++[Yz.mk x1.params x1.lent x1.result y1]) v3] (de (az (Z0 1 (ZC k (Z1 (ZE ⟨k+1,(rs++[Yz.mk x1.params x1.lent x1.result y1]),v3,ob,ob,(XC Zz (by first|exact hrf.with hkb.fb hkb.sz hkb.op|(rw [Z7.eta];exact hrf.with hkb.fb hkb.sz hkb.op))),rfl,rfl,rfl⟩ (wk [0,3,3,0] (ZI k fl)))))))))))))))
 exact ax 0 (Zq 1 [0] (ZG 1 b2 [Yu n.decls,WU rs u] (ie (Yc (r3 [] [.agg [Yu n.decls,WU rs u]] [0] [(b2,b2)] ⟨(ZF.mk n.decls rs),rfl,rfl,(FO.fin hn.fn om Zz).1⟩ (Zl.agg (.cons (lr _) (.cons (Zl.forget _ _) .nil))))))))
theorem Z1n (s:Z5) :Zm 147 [X3 s] [] (Yt (.b ((s.op==14)||(s.op==15)))):=by
 refine ZD 11 Tryz.func147 (ar (iA (W7 s) fun b1=>Z1 (ar (YW 8 [] [(10,.b ((s.op==14)||(s.op==15)))] (fun gz=>gz) ?_ (fun hj1=>?_)))))
 ·exact Zk (I2)
 refine ZB 4 [0] (ib (b:=(s.op==14)) 6 (fun Zb=>?_) (fun Zb=>?_))
 ·exact Z0 4 (ZZ (wk [0] (Zj true Zb fl)) hj1)
 exact ZB 4 [0] (ZZ (wk [0] (Zj (s.op==15) Zb fl)) hj1)
theorem Z9z (rn:List Z5) (hrn:∀s∈rn,∃a,s.args=[a]) (hl:rn.length<=100000000:=by exact ob):Zm 202 [Vl rn] [] (fun r h=>∃(vs:LI),r=Z4 vs/\h=[]/\Cr vs/\vs.length<=rn.length/\∀v∈vs,∃s∈rn,s.args=[v]):=by
 refine ZD 22 Tryz.func202 (ZY (ar (iL (Z6 []) 0 1 fun v1=>?_)))
 refine Z1 (Y5 (ab 0 (Y1 (fun fz gz m F h=>∃(k:Nat) (vs:LI),(k<=rn.length)/\(vs.length<=k)/\(Cr vs)/\(∀v∈vs,∃s∈rn,s.args=[v])/\F=sF [0] fz [(3,Z4 vs),(4,.i k)]/\h=[]/\m=rn.length-k) _ _ _ ⟨0,[],ob,ob,List.Pairwise.nil,(fun v hv=>by cases hv),rfl,rfl,rfl⟩ (wk [] (fc (x:=Y6 [] v1) (Zl.forget _ _) (Ya fl))) ?_)))
 rintro m F h ⟨k,vs,Yi,Zd,Zz,YA,rfl,rfl,rfl⟩
 refine YR 2 (iw (UA rn) (Y3 ((k:Int)<(rn.length:Int)) (fun Z9=>?_) (fun Z9=>?_)))
 ·refine ak (aq (ab 1 (az (Z0 3 ?_))))
  obtain ⟨x1,Z3⟩:=Zt rn k om
  have hxm:=Y4 Z3
  obtain ⟨xa,hxa⟩:=hrn _ hxm
  refine Zp (Ze none (k:Int) 5 (V9 Z3)) (Z0 2 ?_)
  obtain ⟨x2,Zv⟩:=Zt x1.args 0 (by rw [hxa];simp)
  have hxe:x1.args=[x2]:=by have h:=Zv;rw [hxa] at h;rw [hxa];simpa using h
  refine Zp (Ze none 0 1 (Y7 Zv)) (Z0 1 (ic [] (EO vs x2) ?_))
  rintro _ _ ⟨v2,rfl,rfl⟩
  exact Z1 (az (Z0 1 (ZC k (Z1 (ZE ⟨k+1,(Ub vs x2),ob,(by have:=DQ vs x2;omega),(Rc Zz),(fun v hv=>(EY.1 hv).elim (YA v) (fun e=>⟨x1,hxm,by rw [e];exact hxe⟩)),rfl,rfl,rfl⟩ (wk [] (fc (x:=Y6 (Ub vs x2) v2) (Zl.forget _ _) (ZI k fl))))))))
 exact ax 0 (ar (Zk (r1 [] ⟨vs,rfl,rfl,⟨Zz,by omega,YA⟩⟩)))
theorem Z9j (rn:List Z5) (v:Int) (hrn:∀s∈rn,∃a,s.args=[a]) (hl:rn.length<=100000000:=by exact ob):Zm 203 [Vl rn,.i v] [] (fun r h=>∃(z:Int),r=.i z/\h=[]/\-((VH rn v:Nat):Int)<=z/\z<=((VH rn v:Nat):Int)):=by
 refine ZD 44 Tryz.func203 (ZY (ZY (Y5 (ab 0 (Y1 (fun fz gz m F h=>∃(k:Nat) (z:Int),(k<=rn.length)/\(-((VH (rn.take k) v:Nat):Int)<=z/\z<=((VH (rn.take k) v:Nat):Int))/\F=sF [0,1] fz [(5,.i z),(6,.i k)]/\h=gz/\m=rn.length-k) _ _ _ ⟨0,0,ob,(by simp [VH]),rfl,rfl,rfl⟩ (wk [] (fr (Ya fl))) ?_)))))
 rintro m F h ⟨k,z,Yi,Zd,rfl,rfl,rfl⟩
 refine YR 2 (iw (UA rn) (Y3 ((k:Int)<(rn.length:Int)) (fun Z9=>?_) (fun Z9=>?_)))
 ·refine ak (aq (ab 1 (ZX 2 ?_)))
  obtain ⟨x1,Z3⟩:=Zt rn k om
  have hxm:=Y4 Z3
  obtain ⟨xa,hxa⟩:=hrn _ hxm
  have hct:=Z4u Z3 v
  have hcl:=Z4v rn (k+1) v
  have hcm:=NS rn v
  refine Zp (Ze none (k:Int) 5 (V9 Z3)) (Z0 2 ?_)
  obtain ⟨x2,Zv⟩:=Zt x1.args 0 (by rw [hxa];simp)
  have hg0:=KC Zv
  rw [hg0] at hct
  refine Zp (Ze none 0 1 (Y7 Zv)) (Xi [0,1,5,6] [(29,.b ((x2==v)&&(x1.op==14)))] (fun gz=>gz) ?_ ?_)
  ·refine Z0 4 (ib (b:=(x2==v)) 22 (fun Zb=>?_) (fun Zb=>?_))
   ·exact Z0 2 (Zp (Ze none (k:Int) 5 (V9 Z3)) (Z1 (wk [] (Zj (x1.op==14) Zb fl))))
   exact Z1 (wk [] (Zj false Zb fl))
  refine ac ((x2==v)&&(x1.op==14)) (p:=(x2=v)/\(x1.op=14)) (Yo Zg Zg) (fun Zh=>?_) (fun Zh=>?_)
  ·exact az (Z0 1 (ia ((z+1)) ((z)+(1)) (Z1 (az (Z0 1 (ZC k (Z1 (ZE ⟨k+1,(z+1),ob,(by first|(rw [hct,Zf om];omega)|(rw [hct,Za om];omega)),rfl,rfl,rfl⟩ (wk [] (fr (ZI k fl)))))))))))
  refine ZX 2 (Zp (Ze none (k:Int) 5 (V9 Z3)) (Z0 2 (Zp (Ze none 0 1 (Y7 Zv)) (YS (x2==v) Zg (fun ZA=>?_) (fun ZA=>?_)))))
  ·exact az (Z0 1 (ia ((z-1)) ((z)-(1)) (Z1 (az (Z0 1 (ZC k (Z1 (ZE ⟨k+1,(z-1),ob,(by first|(rw [hct,Zf om];omega)|(rw [hct,Za om];omega)),rfl,rfl,rfl⟩ (wk [] (fr (ZI k fl)))))))))))
  exact ak (az (Z0 1 (ZC k (Z1 (ZE ⟨k+1,z,ob,(by first|(rw [hct,Zf om];omega)|(rw [hct,Za om];omega)),rfl,rfl,rfl⟩ (wk [] (fr (ZI k fl))))))))
 exact ax 0 (ar (Zk (r1 [] ⟨z,rfl,rfl,(by have e:=Zd;rw [U8 om] at e;exact e)⟩)))
theorem PF (rn:List Z5) (hrn:∀s∈rn,∃a,s.args=[a]) (hl:rn.length<=100000000:=by exact ob):Zm 148 [Vl rn] [] (fun r h=>∃(D:LI) (R:LI) (v:Value),r=Xe (D.map (Zx 14)++R.map (Zx 15)) v/\h=[.tail v 5]/\D.length+R.length<=rn.length/\(∀v∈D,∃s∈rn,s.args=[v])/\∀v∈R,∃s∈rn,s.args=[v]):=by
 refine ZD 51 Tryz.func148 (ZY (ar (iL (Z6 []) 0 1 fun v1=>Z1 (ar (iL (Z6 []) 0 1 fun v2=>Z1 (ZX 1 (ic [] (Z9z rn (hrn:=ob)) ?_)))))))
 rintro _ _ ⟨vs1,rfl,rfl,ZT⟩
 have hvo:=ZT
 have hsl:=Z2a rn hvo.1
 refine Z1 (Y5 (ab 0 (Y1 (fun fz gz m F h=>∃(k:Nat) (D:LI) (u:Value) (R:LI) (w:Value),(k<=vs1.length)/\(D.length+R.length<=Vx rn (vs1.take k))/\(∀v∈D,v∈vs1)/\(∀v∈R,v∈vs1)/\F=sF [0,5] fz [(3,Y6 D u),(4,Y6 R w),(6,.i k)]/\h=[.tail u 1,.tail w 1]/\m=vs1.length-k) _ _ _ ⟨0,[],v1,[],v2,ob,(by simp [Vx]),(fun v hv=>by cases hv),(fun v hv=>by cases hv),rfl,rfl,rfl⟩ (wk [1,0] (fw (Ya fl))) ?_)))
 rintro m F h ⟨k,D,u,R,w,Yi,Zd,Zz,YA,rfl,rfl,rfl⟩
 refine YR 2 (iw (Y9 vs1) (Y3 ((k:Int)<(vs1.length:Int)) (fun Z9=>?_) (fun Z9=>?_)))
 ·refine ak (aq (ab 1 (ZX 3 ?_)))
  obtain ⟨x1,Z3⟩:=Zt vs1 k om
  have hst:=Zi9 (rn:=rn) Z3
  have hsk:=MW rn vs1 (k+1)
  have hxm:=Y4 Z3
  refine Zp (Ze none (k:Int) 1 (Y7 Z3)) (Z0 1 (ic [] (Z9j rn x1 (hrn:=ob)) ?_))
  rintro _ _ ⟨z1,rfl,rfl,Yg⟩
  have hnt:=Yg
  refine Z1 (aq (ab 2 (Y1 (fun fz gz m F h=>∃(z:Int) (D2:LI) (u2:Value) (w2:Value),((D2.length:Int)+(R.length:Int)+z<=((Vx rn (vs1.take k):Nat):Int)+((VH rn x1:Nat):Int))/\((D2.length:Int)+(R.length:Int)-z<=((Vx rn (vs1.take k):Nat):Int)+((VH rn x1:Nat):Int))/\(∀v∈D2,v∈vs1)/\F=sF [0,5,6] fz [(3,Y6 D2 u2),(4,Y6 R w2),(7,.i z)]/\h=[.tail u2 1,.tail w2 1]/\m=z.toNat) _ _ _ ⟨z1,D,u,w,om,om,Zz,rfl,rfl,rfl⟩ (wk [0,0] fl) ?_)))
  rintro m F h ⟨z,D2,u2,w2,VG,Xm,XN,rfl,rfl,rfl⟩
  refine X6 (Y3 (z>0) (fun Zh=>?_) (fun Zh=>?_))
  ·exact ak (aq (ab 3 (az (Z0 3 (Zp (Ze none (k:Int) 1 (Y7 Z3)) (Z0 1 (iL (Z6 [x1]) 1 1 fun v3=>Y0 0 [(33,Z4 [x1])] (ip 1 (Z6 (D2++[x1])) (Z6 D2) (Z6 [x1]) u2 none 1 (YG _) (YG _) (XT _) (by simp<;>omega) (by simp [XX,Z6]) fun v4=>Z1 (az (Z0 1 (ia ((z-1)) ((z)-(1)) (Z1 (ZE ⟨(z-1),(D2++[x1]),v4,w2,(by simp only [ZH,Ys,YF];omega),(by simp only [ZH,Ys,YF];omega),(XC XN hxm),rfl,rfl,rfl⟩ (wk [0,1] fl))))))))))))))
  refine ax 2 (ab 4 (Y1 (fun fz gz m F h=>∃(y:Int) (R2:LI) (u3:Value) (w3:Value),((D2.length:Int)+(R2.length:Int)+y<=((Vx rn (vs1.take k):Nat):Int)+((VH rn x1:Nat):Int))/\((D2.length:Int)+(R2.length:Int)-y<=((Vx rn (vs1.take k):Nat):Int)+((VH rn x1:Nat):Int))/\(∀v∈R2,v∈vs1)/\F=sF [0,5,6] fz [(3,Y6 D2 u3),(4,Y6 R2 w3),(7,.i y)]/\h=[.tail u3 1,.tail w3 1]/\m=(-y).toNat) _ _ _ ⟨z,R,u2,w2,ob,ob,YA,rfl,rfl,rfl⟩ (wk [0,0] fl) ?_))
  rintro m F h ⟨y,R2,u3,w3,Ex,QY,Ae,rfl,rfl,rfl⟩
  refine X6 (Y3 (y<0) (fun ZA=>?_) (fun ZA=>?_))
  ·exact ak (aq (ab 5 (az (Z0 3 (Zp (Ze none (k:Int) 1 (Y7 Z3)) (Z0 1 (iL (Z6 [x1]) 1 1 fun v5=>Y0 0 [(44,Z4 [x1])] (ip 2 (Z6 (R2++[x1])) (Z6 R2) (Z6 [x1]) w3 none 1 (YG _) (YG _) (XT _) (by simp<;>omega) (by simp [XX,Z6]) fun v6=>Z1 (az (Z0 1 (ia ((y+1)) ((y)+(1)) (Z1 (ZE ⟨(y+1),(R2++[x1]),u3,v6,(by simp only [ZH,Ys,YF];omega),(by simp only [ZH,Ys,YF];omega),(XC Ae hxm),rfl,rfl,rfl⟩ (wk [2,0] fl))))))))))))))
  exact ax 4 (az (Z0 1 (ZC k (Z1 (ZE ⟨k+1,D2,u3,R2,w3,ob,(by rw [hst];omega),XN,Ae,rfl,rfl,rfl⟩ (wk [0,0] (fw (ZI k fl))))))))
 have Xo:=MW rn vs1 k
 refine ax 0 (ar (Y0 1 [(46,Z4 D)] (ic [] (KN 14 D) ?_)))
 rintro _ _ ⟨v7,rfl,rfl⟩
 refine Y0 1 [(48,Z4 R)] (ic [] (KN 15 R) ?_)
 rintro _ _ ⟨v8,rfl,rfl⟩
 exact Y0 0 [(49,Vl (R.map (Zx 15)))] (ip 1 (ZQ ((D.map (Zx 14))++(R.map (Zx 15)))) (ZQ (D.map (Zx 14))) (ZQ (R.map (Zx 15))) v7 none 5 (XD _) (XD _) (Uk _) (by simp<;>omega) (by simp [Vt,ZQ]) fun v9=>Zk (r2 [0] [Xe ((D.map (Zx 14))++(R.map (Zx 15))) v9] ⟨_,_,v9,rfl,rfl,⟨by have:=MW rn vs1 k;omega,fun v hv=>hvo.2.2 v (Zz v hv),fun v hv=>hvo.2.2 v (YA v hv)⟩⟩ (Zl.slh _ (Yn ZQ ob))))
theorem Z8g (ds:List Zc) (nf:Nat) (b:Z7) (mm:Nat) (hf:fB ds nf mm b) (hop:Vm Vz b) (hz:b.sz<=100000000) (ih:∀(b2:Z7) (m2:Nat),(fB ds nf m2 b2)->(Vm Vz b2)->(b2.sz<=100000000)->(b2.sz<b.sz)->Zm 89 [Ym b2] [] (fun r h=>∃(y:Z7),r=Ym y/\h=[]/\KB ds nf m2 y b2.sz)):Zm 89 [Ym b] [] (fun r h=>∃(y:Z7),r=Ym y/\h=[]/\KB ds nf mm y b.sz):=by
 have hbe:=b.sz_eq
 have Yd:=Ux b
 obtain ⟨hfs,hr1,hr2⟩:=(J3 b).1 hf
 have hos:=D5.1 ((Hw b).1 hop)
 refine ZD 72 Tryz.func89 (ar (iA (XW b) fun b1=>iA [nl,.i 0] fun b2=>ie (ar (iL (ZQ []) 0 5 fun v1=>Z1 (ar (iL (ZQ []) 0 5 fun v2=>?_))))))
 refine Z1 (Y5 (ab 0 (Y1 (fun fz gz m F h=>∃(k:Nat) (xs:List Z5) (v:Value) (rn:List Z5) (u:Value) (z0:Nat),(k<=b.steps.length)/\(CL ds nf mm xs (Yp (b.steps.take k)) z0)/\(z0+2*rn.length<=Yr (b.steps.take k))/\(Nj (mm+(Yp (b.steps.take k))) rn)/\F=sF [1,2] fz [(3,Xe xs v),(4,Xe rn u),(5,.i k)]/\h=[Zi gz 2,Zi gz 3,.tail u 5,.tail v 5]/\m=b.steps.length-k) _ _ _ ⟨0,[],v1,[],v2,0,ob,CL.nil,(by simp [Yr]),(fun s hs=>by cases hs),rfl,rfl,rfl⟩ (wk [2,2,0,0] (fw (Ya fl))) ?_)))
 rintro m F h ⟨k,xs,v,rn,u,z0,Yi,Zd,Zz,YA,rfl,rfl,rfl⟩
 refine Yq 3 [1] (iw (UA b.steps) (Y3 ((k:Int)<(b.steps.length:Int)) (fun Z9=>?_) (fun Z9=>?_)))
 ·refine ak (aq (ab 1 (Zq 3 [1] ?_)))
  obtain ⟨x1,Z3⟩:=Zt b.steps k om
  have Xo:=Dc Z3
  have hfS:=(Bb x1).1 (DI hfs Z3)
  have hoS:=(Fe x1).1 (hos x1 (Y4 Z3))
  have htk:=HX Z3
  have htl:=KP b.steps (k+1)
  have hse:=(x1).sz_eq
  have hdt:=Oa Z3
  have hxl:=Zd.len
  have hkl2:=Gl (x1).kids
  refine Zp (Ze none (k:Int) 5 (V9 Z3)) (Z0 1 (iA [.i 0,.i 0,.i 0,nl,nl] fun b3=>ZG 0 b3 (W7 x1) (ie (Zq 1 [0] (Zw [] (Z1n x1) (ie (ac ((x1.op==14)||(x1.op==15)) (p:=(x1.op=14)∨(x1.op=15)) (ZJ Zg Zg) (fun Zh=>?_) (fun Zh=>?_))))))))
  ·refine az (ZB 2 [0] (UG [X3 x1] (ZQ [x1]) (U4 [x1]).symm 1 5 fun v3=>Y0 0 [(27,Vl [x1])] (ip 4 (ZQ (rn++[x1])) (ZQ rn) (ZQ [x1]) u none 5 (XD _) (XD _) (Uk _) (by simp<;>omega) (by simp [Vt,ZQ]) fun v4=>Z1 (az (Z0 1 (ZC k (Z1 ?_)))))))
   obtain ⟨⟨pa,hpa,hpr⟩,Yg,hpc⟩:=hfS.pair (by assumption)
   rw [Zf hpc,Cp] at hdt
   exact ZE ⟨k+1,xs,v,(rn++[x1]),v4,_,ob,(by rw [hdt];exact Zd),(by rw [htk];simp only [ZH,Ys,YF];omega),(by rw [hdt];exact XC YA ⟨pa,hpa,hpr⟩),rfl,rfl,rfl⟩ (wk [3,3,0,2] (fw (ZI k fl)))
  refine ar (Y0 2 [(30,Vl rn)] (ic [] (PF rn (hrn:=(fun s hs=>(YA s hs).elim fun a h=>⟨a,h.1⟩))) ?_))
  rintro _ _ ⟨D1,R1,v5,rfl,rfl,ZT⟩
  have hsr:=ZT
  have hq1:=Zd.run YA hsr.2.1 hsr.2.2
  have hl1:=Zd.len
  have htl1:=KP b.steps k
  refine Y0 0 [(31,Vl (D1.map (Zx 14)++R1.map (Zx 15)))] (ip 5 (ZQ (xs++(D1.map (Zx 14)++R1.map (Zx 15)))) (ZQ xs) (ZQ (D1.map (Zx 14)++R1.map (Zx 15))) v none 5 (XD _) (XD _) (Uk _) (by simp<;>omega) (by simp [Vt,ZQ]) fun v6=>Z1 (ar (iL (ZQ []) 0 5 fun v7=>Z1 (ar (iL (XL []) 0 2 fun v8=>?_)))))
  refine Z1 (Y5 (ab 2 (Y1 (fun fz gz m F h=>∃(j:Nat) (ks:List Z7) (w:Value) (v3:Value) (u4:Value),(j<=x1.kids.length)/\(ks.length=j)/\(KK ds nf (WK ds x1.op x1.num (mm+(Yp (b.steps.take k)))) ks (YV (x1.kids.take j)))/\F=sF [1,2,5,6] fz [(3,Xe (xs++(D1.map (Zx 14)++R1.map (Zx 15))) v3),(4,Xe [] u4),(7,Qu ks w),(8,.i j)]/\h=[Zi gz 4,Zi gz 5,Zi gz 6,.tail u4 5,.tail v3 5,.tail w 2]/\m=x1.kids.length-j) _ _ _ ⟨0,[],v8,v6,v7,ob,ob,(KK.nil.le (T2 _)),rfl,rfl,rfl⟩ (wk [4,4,4,1,1,0] (fw (fr (Ya fl)))) ?_)))
  rintro m F h ⟨j,ks,w,v3,u4,VG,Xm,XN,rfl,rfl,rfl⟩
  refine Yq 3 [0] (iw (Kz x1.kids) (Y3 ((j:Int)<(x1.kids.length:Int)) (fun ZA=>?_) (fun ZA=>?_)))
  ·refine ak (aq (ab 3 (az (ZB 4 [0] ?_))))
   obtain ⟨x2,Zv⟩:=Zt x1.kids j om
   have hkz:=Qs Zv
   have hfk:=BT hfS.kids Zv
   rw [Wj] at hfk
   have hok:=DZ.1 hoS.2 x2 (Y4 Zv)
   have hbt:=Gm Zv
   refine Zp (Ze none (j:Int) 2 (UQ Zv)) (Z0 1 (ic [] (ih x2 (WK ds x1.op x1.num (mm+(Yp (b.steps.take k))) j) hfk hok ob ob) ?_))
   rintro _ _ ⟨y1,rfl,rfl,Yg⟩
   have hkb:=Yg
   exact UG [Ym y1] (XL [y1]) (K0 [y1]).symm 1 2 fun v9=>Y0 0 [(49,JQ [y1])] (ip 6 (XL (ks++[y1])) (XL ks) (XL [y1]) w none 2 (J0 _) (J0 _) (Gw _) (by simp<;>omega) (by simp [CD,XL]) fun v10=>Z1 (az (Z0 1 (ZC j (Z1 (ZE ⟨j+1,(ks++[y1]),v10,v3,u4,ob,ob,((XN.snoc Xm hkb).le om),rfl,rfl,rfl⟩ (wk [2,2,2,2,2,0] (fw (fr (ZI j fl))))))))))
  refine ax 2 (aE 15 (ZV 5 15 [0,1,2,3,4,5,6,7,8,10] [0,0,0,0] (Z8 9 (dc 9 [] [0,0,0] [b3,b3,b3] (Vf x1.args) ?_))))
  rintro _ _ ⟨v11,rfl,rfl⟩
  refine Yy 3 4 [11] [(62,.agg [.i x1.op,.i x1.num,.i x1.into,Z4 x1.args,JQ ks])] (Z8 12 (WB 12 [] [] [X3 (Z5.mk x1.op x1.num x1.into x1.args ks)] (ZQ [Z5.mk x1.op x1.num x1.into x1.args ks]) (U4 [Z5.mk x1.op x1.num x1.into x1.args ks]).symm 1 5 fun v12=>Yy 2 2 [] [(63,Vl [Z5.mk x1.op x1.num x1.into x1.args ks])] (Z8 13 (dp 13 6 [] [] (ZQ ((xs++(D1.map (Zx 14)++R1.map (Zx 15)))++[Z5.mk x1.op x1.num x1.into x1.args ks])) (ZQ (xs++(D1.map (Zx 14)++R1.map (Zx 15)))) (ZQ [Z5.mk x1.op x1.num x1.into x1.args ks]) v3 none 5 (XD _) (XD _) (Uk _) (by simp<;>omega) (by simp [Vt,ZQ]) fun v13=>Zo 0 1 [14] (de (az (Z0 1 (ZC k (Z1 ?_)))))))))
  obtain ⟨hn1,hn2⟩:=hfS.not_pair (by assumption) hoS.1
  rw [Za (by rw [hn2];simp)] at hdt
  have hbj:=IJ (xs:=x1.kids) (k:=j) om
  have hkt:=KT.eq hfS hn1 om XN
  have hq2:=hq1.kt hkt
  exact ZE ⟨k+1,((xs++(D1.map (Zx 14)++R1.map (Zx 15)))++[Z5.mk x1.op x1.num x1.into x1.args ks]),v13,[],u4,_,ob,(by rw [hdt];exact hq2),(by rw [htk];simp only [YF];omega),(fun s hs=>by cases hs),rfl,rfl,rfl⟩ (wk [4,4,4,0] (fw (ZI k fl)))
 have htl2:=KP b.steps k
 have hxl2:=Zd.len
 refine ax 0 (aD 8 (Dv 4 8 [0,1,4,5] [(66,Vl rn)] [1] (Z8 2 (dc 2 [] [1] [b1] (PF rn (hrn:=(fun s hs=>(YA s hs).elim fun a h=>⟨a,h.1⟩))) ?_))))
 rintro _ _ ⟨D2,R2,v14,rfl,rfl,YJ⟩
 have hsr:=YJ
 have hq1:=Zd.run YA hsr.2.1 hsr.2.2
 have hl1:=Zd.len
 have htl1:=KP b.steps k
 exact Yy 3 3 [] [(67,Vl (D2.map (Zx 14)++R2.map (Zx 15)))] (Z8 3 (dp 3 4 [1] [b1] (ZQ (xs++(D2.map (Zx 14)++R2.map (Zx 15)))) (ZQ xs) (ZQ (D2.map (Zx 14)++R2.map (Zx 15))) v none 5 (XD _) (XD _) (Uk _) (by simp<;>omega) (by simp [Vt,ZQ]) fun v15=>Zo 1 2 [6] (Z8 7 (X5 7 2 [] [] b2 [Xe (xs++(D2.map (Zx 14)++R2.map (Zx 15))) v15,.i b.result] (de (Yc (r3 [] [.agg [Xe (xs++(D2.map (Zx 14)++R2.map (Zx 15))) v15,.i b.result]] [0] [(b2,b2)] ⟨(Z7.mk (xs++(D2.map (Zx 14)++R2.map (Zx 15))) b.result),rfl,rfl,(by have e:b.steps.take k=b.steps:=U8 om;rw [e] at Zz hq1;exact (hq1.block ⟨hr1,hr2⟩).le om)⟩ (Zl.agg (.cons (Zl.forget _ _) (.cons (lr _) .nil))))))))))
theorem Z8f (ds:List Zc) (nf:Nat) (b:Z7) (mm:Nat) (hf:fB ds nf mm b:=by exact ob) (hop:Vm Vz b:=by exact ob) (hz:b.sz<=100000000:=by exact ob):Zm 89 [Ym b] [] (fun r h=>∃(y:Z7),r=Ym y/\h=[]/\KB ds nf mm y b.sz):=by
 have key:∀k:Nat,∀(b2:Z7) (m2:Nat),(fB ds nf m2 b2)->(Vm Vz b2)->(b2.sz<=100000000)->(b2.sz<k)->Zm 89 [Ym b2] [] (fun r h=>∃(y:Z7),r=Ym y/\h=[]/\KB ds nf m2 y b2.sz):=by
  intro k
  induction k with
  | zero=>intro b2 m2 h1 h2 h3 h9;omega
  | succ k ih=>intro b2 m2 h1 h2 h3 h9;exact Z8g ds nf b2 m2 h1 h2 h3 fun b3 m3 q1 q2 q3 q9=>ih b3 m3 q1 q2 q3 om
 exact key (b.sz+1) b mm hf hop hz om
theorem Z8h (n:ZF) (qz:Nat) (hn:FO n qz Vz:=by exact ob) (hqz:qz<=10000000:=by exact ob):Zm 43 [YC n] [] (fun r h=>∃(n2:ZF),r=YC n2/\h=[]/\FO n2 qz Vz):=by
 have hnl:=hn.fn.len
 have Xp:=hn.fn.decls.ok
 have hok:=hn.fn.ok
 refine ZD 36 Tryz.func43 (ar (iA (X7 n) fun b1=>iA [nl,nl] fun b2=>ie (Zq 2 [1] (Zw [] (Br n.decls) (iL (X8 []) 0 5 fun v1=>Z0 1 (iA [nl,nl] fun b3=>?_))))))
 refine ZG 0 b3 [Yu n.decls,WU [] v1] (ie (Y5 (ab 0 (Y1 (fun fz gz m F h=>∃(k:Nat) (rs:List Yz) (u:Value),(k<=n.routines.length)/\(rs.length=k)/\(∀r∈rs,RF n.decls n.routines.length qz Vz r)/\F=sF [1,2,3] fz [(4,.i k)]/\h=[.obj b3 [Yu n.decls,WU rs u],Zi gz 2,Zi gz 3,.tail u 5]/\m=n.routines.length-k) _ _ _ ⟨0,[],v1,ob,ob,(fun r hr=>by cases hr),rfl,rfl,rfl⟩ (wk [0,1,1,0] (Ya fl)) ?_))))
 rintro m F h ⟨k,rs,u,Yi,Zd,Zz,rfl,rfl,rfl⟩
 refine Yq 3 [2] (iw (TW n.routines) (Y3 ((k:Int)<(n.routines.length:Int)) (fun Z9=>?_) (fun Z9=>?_)))
 ·refine ak (aq (ab 1 (aE 19 (ZV 14 19 [0,1,2,3,4] [0,2] ?_))))
  obtain ⟨x1,Z3⟩:=Zt n.routines k om
  have hrf:=hn.rf (Y4 Z3)
  have hrp:(x1).params.length<=3:=(To.bd (f:=⟨(x1).params,(x1).result,default⟩) hrf.sig).1
  have hrl:=hrf.lent.1
  have hrz:=hrf.body.2
  refine dx 5 (Ze none (k:Int) 5 (VJ Z3)) (ZV 9 13 [6,7,8,9] [2] (dx 10 (Ze none (k:Int) 5 (VJ Z3)) (Zo 6 8 [11,12] (Z8 13 (dc 13 [] [2,0] [b1,b3] (Z8f n.decls n.routines.length x1.body _ (hf:=hrf.body.1) (hop:=hrf.op)) ?_)))))
  rintro _ _ ⟨y1,rfl,rfl,ZT⟩
  have hkb0:=ZT
  have hkb:=hkb0.le (z2:=qz) hrz
  exact Z8 14 (YD 14 [] [0] [b3] (Ec x1 y1 (hp:=om) (hl:=om)) (Z8 15 (dL 15 [0] [b3] (X8 [Yz.mk x1.params x1.lent x1.result y1]) 1 5 fun v2=>Yy 3 3 [] [(32,JS [Yz.mk x1.params x1.lent x1.result y1])] (Z8 16 (dp 16 4 [] [] (X8 (rs++[Yz.mk x1.params x1.lent x1.result y1])) (X8 rs) (X8 [Yz.mk x1.params x1.lent x1.result y1]) u none 5 (T8 _) (T8 _) (BR _) (by simp<;>omega) (by simp [DE,X8]) fun v3=>Zo 1 2 [17] (Z8 18 (X5 18 2 [] [] b3 [Yu n.decls,WU (rs++[Yz.mk x1.params x1.lent x1.result y1]) v3] (de (az (Z0 1 (ZC k (Z1 (ZE ⟨k+1,(rs++[Yz.mk x1.params x1.lent x1.result y1]),v3,ob,ob,(XC Zz (hrf.with hkb.fb hkb.sz hkb.op)),rfl,rfl,rfl⟩ (wk [0,2,2,0] (ZI k fl)))))))))))))))
 exact ax 0 (Zq 1 [0] (ZG 1 b2 [Yu n.decls,WU rs u] (ie (Yc (r3 [] [.agg [Yu n.decls,WU rs u]] [0] [(b2,b2)] ⟨(ZF.mk n.decls rs),rfl,rfl,(FO.fin hn.fn om Zz).1⟩ (Zl.agg (.cons (lr _) (.cons (Zl.forget _ _) .nil))))))))
theorem RC (b:Nat) (ga:Hd) (gb:Hd) (gc:Hd) (gd:Hd) (ge:Hd) (gf:Hd) (n:ZF) (s:Z5) (L:ZK) (ln:LI) (q:Int) (i:Nat) (kb0:Z7) (m:LI) (hn:Xv n:=by exact ob) (hk:XH n.decls L q:=by exact ob) (hf:Cs n L.vars s:=by exact ob) (hop:s.op=7∨s.op=8:=by exact ob) (hkb:s.kids[i]? = some kb0:=by exact ob) (harm:(W1 n.decls s.op s.num)[i]? = some m:=by exact ob) (hbt:0<=W2 n (L.vars++m) kb0:=by exact ob) (hb:L.vars.length+4*s.sz<=1000000000:=by exact ob) (hq:0<=q/\q+4*s.sz<=999999990:=by exact ob) (hln:ln.length<=4294967296:=by exact ob) (ih:∀(b2:Z7) (c:Nat) (ra:Hd) (rb:Hd) (rc:Hd) (rd:Hd) (re:Hd) (rf:Hd) (M:ZK) (mm:Nat) (p:Int),(b2.sz<s.sz)->(XH n.decls M p)->(0<=W2 n M.vars b2)->(mm<=M.vars.length)->(M.vars.length+4*b2.sz<=1000000000)->(0<=p/\p+4*b2.sz<=999999990)->Zm 144 [.p c 0,YC n,Ym b2,.i mm] [.obj c [.h ra,.h rb,.h rc,.h rd,.h re,.h rf,Z4 ln],rV ra M.vars,rV rb M.own,rV rc M.par,rV rd M.con,rV re M.fst,rV rf M.tok] (fun r h=>(∃(wa:Hd) (wb:Hd) (wc:Hd) (wd:Hd) (we:Hd) (wf:Hd) (M':ZK),r=.b true/\h=[.obj c [.h wa,.h wb,.h wc,.h wd,.h we,.h wf,Z4 ln],rV wa M'.vars,rV wb M'.own,rV wc M'.par,rV wd M'.con,rV we M'.fst,rV wf M'.tok]/\U1 n ln M mm b2=some M')∨(r=.b false/\h=[]/\U1 n ln M mm b2=none))):Zm 282 [.p b 0,YC n,X3 s,.i i] [.obj b [.h ga,.h gb,.h gc,.h gd,.h ge,.h gf,Z4 ln],rV ga L.vars,rV gb L.own,rV gc L.par,rV gd L.con,rV ge L.fst,rV gf L.tok] (fun r h=>(∃(c:Nat) (wa:Hd) (wb:Hd) (wc:Hd) (wd:Hd) (we:Hd) (wf:Hd) (L':ZK),r=.tup [.p c 0,.b true]/\h=[.obj c [.h wa,.h wb,.h wc,.h wd,.h we,.h wf,Z4 ln],rV wa L'.vars,rV wb L'.own,rV wc L'.par,rV wd L'.con,rV we L'.fst,rV wf L'.tok,.obj b [.h ga,.h gb,.h gc,.h gd,.h ge,.h gf,Z4 ln],rV ga L.vars,rV gb L.own,rV gc L.par,rV gd L.con,rV ge L.fst,rV gf L.tok]/\U1 n ln (TJ n.decls L s.op s.num s.args i) L.vars.length kb0=some L')∨(r=.tup [.any,.b false]/\h=[.obj b [.h ga,.h gb,.h gc,.h gd,.h ge,.h gf,Z4 ln],rV ga L.vars,rV gb L.own,rV gc L.par,rV gd L.con,rV ge L.fst,rV gf L.tok]/\U1 n ln (TJ n.decls L s.op s.num s.args i) L.vars.length kb0=none)):=by
 obtain ⟨e1,e2,e3,e4,e5⟩:=hk.len
 have Xp:=hn.decls
 have hkz:=K9 s
 have haz:=Jv s
 have hK:=Hf hk hq.1 hf hop harm
 have hm3:=Nx Xp harm
 have hkl:=(Xu.1 hkb).1
 have hks:=Qs hkb
 refine ZD 83 Tryz.func282 (ar (iA (X7 n) fun b1=>iA (W7 s) fun b2=>Z1 (Zq 4 [2] (Zp (I7 3 ga L.vars) (Z1 (ZX 1 (ic [2,2,2,2,2,2,2] (Zc9 b ga gb gc gd ge gf L ln (hlk:=hk.len)) ?_)))))))
 rintro _ _ ⟨c1,wa1,wb1,wc1,wd1,we1,wf1,rfl,rfl⟩
 refine Z1 (X6 (Vb [14] (ac (s.op==8) Zg (fun Z9=>?_) (fun Z9=>?_))))
 ·obtain ⟨x,hxa⟩:=hf.one om
  have ha:s.args[0]? = some x:=by rw [hxa];rfl
  have hx:=hf.args x (by rw [hxa];simp)
  obtain ⟨cc,hcc,hmc⟩:=Z46 Z9 harm
  have hal:=(Xu.1 ha).1
  have hcl:=(Xu.1 hcc).1
  have hm4:=hm3
  rw [hmc] at hm4
  refine Zq 4 [15,14] (ic [] (Je n.decls s.num) ?_)
  rintro _ _ ⟨v1,rfl,rfl⟩
  refine Z0 1 (Zp (Ze (some v1) (i:Int) 1 (Y7 hcc)) (Z1 (Zq 3 [16] (Zw [] (Qy n.decls cc) (Z1 (aD 11 (ZV 5 11 [0,1,2,3,4,5] [1,15] (dx 6 (Ze none 0 1 (Y7 ha)) (Zo 2 4 [7,8] (dx 9 (Ue 5 wd1 L.con x x.toNat (hq:=rfl)) (Z8 10 (Dw 10 5 [] [] wd1 L.con x.toNat cc (de (aD 11 (ZV 5 11 [0,1,2,3,4,5] [2,15] (dx 6 (Ze none 0 1 (Y7 ha)) (Zo 2 4 [7,8] (dx 9 (Ue 6 we1 L.fst x x.toNat (hq:=rfl)) (Z8 10 (Dw 10 6 [] [] we1 L.fst x.toNat (L.vars.length:Int) (de (ZY (ab 0 (Y1 (fun fz gz m F h=>∃(k:Nat) (L3:ZK) (ka:Hd) (kb:Hd) (kc:Hd) (kd:Hd) (ke:Hd) (kf:Hd),(k<=(ZO n.decls cc).length)/\(Tn L3)/\(L3.vars.length=L.vars.length+k)/\(CJ L3 x ((ZO n.decls cc).drop k)=Cx n.decls L x cc)/\F=sF [3,5,6,10,11,13] fz [(14,.i k)]/\h=[.obj c1 [.h ka,.h kb,.h kc,.h kd,.h ke,.h kf,Z4 ln],Zi gz 8,Zi gz 9,Zi gz 10,Zi gz 11,Zi gz 12,Zi gz 13,Zi gz 14,Zi gz 15,Zi gz 16,rV ka L3.vars,rV kb L3.own,rV kc L3.par,rV kd L3.con,rV ke L3.fst,rV kf L3.tok]/\m=(ZO n.decls cc).length-k) _ _ _ ⟨0,(ZK.mk L.vars L.own L.par (L.con.set x.toNat cc) (L.fst.set x.toNat (L.vars.length:Int)) L.tok),wa1,wb1,wc1,wd1,we1,wf1,ob,(Tn.arm hk.len),ob,(by rw [Cx];rfl),rfl,rfl,rfl⟩ (wk [3,7,7,7,7,7,7,7,7,7,3,3,3,1,0,1] (Ya fl) (e:=(rc (rc (rc (rc (rc (rc (rc (rc (rc (rc (rv (xs:=L.vars) ob (rv (xs:=L.own) ob (rv (xs:=L.par) ob (rv (xs:=(L.con.set x.toNat cc)) ob (rv (xs:=(L.fst.set x.toNat (L.vars.length:Int))) ob (rv (xs:=L.tok) ob rz)))))))))))))))))) ?_))))))))))))))))))))))))
  rintro m F h ⟨k,L3,ka,kb,kc,kd,ke,kf,Yi,Zd,Zz,YA,rfl,rfl,rfl⟩
  refine YR 2 (io (.i (((ZO n.decls cc).length:Nat):Int)) (.i (((Z6 (ZO n.decls cc)).length:Nat):Int)) (li (by rw [Y9])) (Y3 ((k:Int)<(((ZO n.decls cc).length:Nat):Int)) (fun Zh=>?_) (fun Zh=>?_)))
  ·refine ak (aq (ab 1 (aE 10 (Zo 7 10 [0,1,2] ?_))))
   obtain ⟨x1,Z3⟩:=Zt (ZO n.decls cc) k om
   refine dx 3 (Ze none (k:Int) 1 (Y7 Z3)) (ZV 3 6 [4,5,6] [8] (dx 7 (Ze none 0 1 (Y7 ha)) (Zo 1 2 [8] (Z8 9 (dc 9 [0,9,9,9,9,9,9] [] [] (KG c1 ka kb kc kd ke kf L3 ln x1 0 x (hlk:=Zd)) ?_)))))
   rintro _ _ ⟨wa2,wb2,wc2,wd2,we2,wf2,rfl⟩
   exact de (az (Z0 1 (ZC k (Z1 (ZE ⟨k+1,(L3.grow x1 0 x),wa2,wb2,wc2,wd2,we2,wf2,ob,(Tn.grow Zd),(by simp [ZK.grow];omega),(by rw [Yj Z3,CJ] at YA;exact YA),rfl,rfl,rfl⟩ (wk [0,6,6,6,6,6,6,6,6,6,0,0,0,0,0,0] (ZI k fl)))))))
  have hE:TJ n.decls L s.op s.num s.args i=L3:=by rw [Zbp Z9 ha hcc,<-YA,Xj om];rfl
  refine ax 0 (aD 12 (ZV 6 12 [0,1,2,3,4,5] [9,8] (dx 6 (Ze none (i:Int) 2 (UQ hkb)) (Zo 3 5 [7,8] (Z8 9 (dc 9 [0,9,9,9,9,9,9] [] [] (ih kb0 c1 ka kb kc kd ke kf L3 L.vars.length q ob (by rw [<-hE];exact hK.1) (by rw [<-hE,hK.2];exact hbt) (by rw [<-hE,hK.2];simp) (by rw [<-hE,hK.2,ZH];omega) ob) ?_))))))
  rintro _ _ (⟨wa3,wb3,wc3,wd3,we3,wf3,M'1,rfl,rfl,ZT⟩|⟨rfl,rfl,Yg⟩)
  ·exact Zo 0 2 [10,11] (de (Yc (r2 [0,0,0,0,0,0,0,0,0,0,0,0,0,0] [.p c1 0,.b true] (.inl ⟨c1,wa3,wb3,wc3,wd3,we3,wf3,M'1,rfl,rfl,(by rw [hE];exact ZT)⟩) (lr _))))
  exact Zo 0 2 [10,11] (de (Yc (r2 [0,0,0,0,0,0,0] [.p c1 0,.b false] (.inr ⟨rfl,rfl,(by rw [hE];exact Yg)⟩) (Zl.tup (.cons (Zl.any _) (.cons (lr _) .nil))))))
 have hE:=Zbq (ds:=n.decls) (L:=L) (num:=s.num) (args:=s.args) (i:=i) Z9
 refine ak (aD 12 (ZV 6 12 [0,1,2,3,4,5] [15,14] (dx 6 (Ze none (i:Int) 2 (UQ hkb)) (Zo 3 5 [7,8] (Z8 9 (dc 9 [0,0,0,0,0,0,0] [] [] (ih kb0 c1 wa1 wb1 wc1 wd1 we1 wf1 L L.vars.length q ob (by rw [<-hE];exact hK.1) (by rw [<-hE,hK.2];exact hbt) (by rw [<-hE,hK.2];simp) (by rw [<-hE,hK.2,ZH];omega) ob) ?_))))))
 rintro _ _ (⟨wa4,wb4,wc4,wd4,we4,wf4,M'2,rfl,rfl,YJ⟩|⟨rfl,rfl,YQ⟩)
 ·exact Zo 0 2 [10,11] (de (Yc (r2 [0,0,0,0,0,0,0,0,0,0,0,0,0,0] [.p c1 0,.b true] (.inl ⟨c1,wa4,wb4,wc4,wd4,we4,wf4,M'2,rfl,rfl,(by rw [hE];exact YJ)⟩) (lr _))))
 exact Zo 0 2 [10,11] (de (Yc (r2 [0,0,0,0,0,0,0] [.p c1 0,.b false] (.inr ⟨rfl,rfl,(by rw [hE];exact YQ)⟩) (Zl.tup (.cons (Zl.any _) (.cons (lr _) .nil))))))
theorem Zc8 (b:Nat) (ga:Hd) (gb:Hd) (gc:Hd) (gd:Hd) (ge:Hd) (gf:Hd) (n:ZF) (s:Z5) (L:ZK) (ln:LI) (q:Int) (hn:Xv n:=by exact ob) (hk:XH n.decls L q:=by exact ob) (hf:Cs n L.vars s:=by exact ob) (hop:s.op=7∨s.op=8:=by exact ob) (hb:L.vars.length+4*s.sz<=1000000000:=by exact ob) (hq:0<=q/\q+4*s.sz<=999999990:=by exact ob) (hln:ln.length<=4294967296:=by exact ob) (ih:∀(b2:Z7) (c:Nat) (ra:Hd) (rb:Hd) (rc:Hd) (rd:Hd) (re:Hd) (rf:Hd) (M:ZK) (mm:Nat) (p:Int),(b2.sz<s.sz)->(XH n.decls M p)->(0<=W2 n M.vars b2)->(mm<=M.vars.length)->(M.vars.length+4*b2.sz<=1000000000)->(0<=p/\p+4*b2.sz<=999999990)->Zm 144 [.p c 0,YC n,Ym b2,.i mm] [.obj c [.h ra,.h rb,.h rc,.h rd,.h re,.h rf,Z4 ln],rV ra M.vars,rV rb M.own,rV rc M.par,rV rd M.con,rV re M.fst,rV rf M.tok] (fun r h=>(∃(wa:Hd) (wb:Hd) (wc:Hd) (wd:Hd) (we:Hd) (wf:Hd) (M':ZK),r=.b true/\h=[.obj c [.h wa,.h wb,.h wc,.h wd,.h we,.h wf,Z4 ln],rV wa M'.vars,rV wb M'.own,rV wc M'.par,rV wd M'.con,rV we M'.fst,rV wf M'.tok]/\U1 n ln M mm b2=some M')∨(r=.b false/\h=[]/\U1 n ln M mm b2=none))):Zm 238 [.p b 0,YC n,X3 s] [.obj b [.h ga,.h gb,.h gc,.h gd,.h ge,.h gf,Z4 ln],rV ga L.vars,rV gb L.own,rV gc L.par,rV gd L.con,rV ge L.fst,rV gf L.tok] (fun r h=>(∃(wa:Hd) (wb:Hd) (wc:Hd) (wd:Hd) (we:Hd) (wf:Hd) (L':ZK),r=.b true/\h=[.obj b [.h wa,.h wb,.h wc,.h wd,.h we,.h wf,Z4 ln],rV wa L'.vars,rV wb L'.own,rV wc L'.par,rV wd L'.con,rV we L'.fst,rV wf L'.tok]/\Cy n ln L s=some L')∨(r=.b false/\h=[]/\Cy n ln L s=none)):=by
 obtain ⟨e1,e2,e3,e4,e5⟩:=hk.len
 have Xp:=hn.decls
 have hkz:=K9 s
 have haz:=Jv s
 obtain ⟨hk1,hk2,hk3⟩:=hf.kids hop
 obtain ⟨kd,hkd⟩:=Zt s.kids 0 om
 obtain ⟨m0,hm0⟩:=Zt (W1 n.decls s.op s.num) 0 om
 obtain ⟨x,hxa⟩:=hf.one om
 have ha:s.args[0]? = some x:=by rw [hxa];rfl
 have hx:=hf.args x (by rw [hxa];simp)
 have hgx:=KC ha
 have hal:=(Xu.1 ha).1
 refine ZD 88 Tryz.func238 (ar (iA (X7 n) fun b1=>iA (W7 s) fun b2=>Z1 (X6 (Xi [0,4,5] [(23,.b ((s.op==8)&&(!T3 L ln x)))] (fun gz=>[Zi gz 2,Zi gz 3,Zi gz 4,Zi gz 5,Zi gz 6,Zi gz 7,Zi gz 8,Zi gz 0,Zi gz 1]) ?_ ?_))))
 ·refine ZB 4 [0] (ib (b:=(s.op==8)) 15 (fun Zb=>?_) (fun Zb=>?_))
  ·exact ZB 3 [0] (Zp (Ze none 0 1 (Y7 ha)) (Z0 1 (Zw [2,2,2,2,2,2,2] (Hl b ga gb gc gd ge gf L ln x (hlk:=hk.len) (hd:=hk.down)) (Z1 (Zs 9 (Zj (!T3 L ln x) Zb fl))))))
  exact Z1 (wk [2,2,2,2,2,2,2,0,0] (Zj false Zb fl))
 refine ac ((s.op==8)&&(!T3 L ln x)) (p:=(s.op=8)/\(¬(T3 L ln x=true))) (Yo Zg (Y8 Iff.rfl)) (fun Z9=>?_) (fun Z9=>?_)
 ·exact ar (Zk (r1 [] (.inr ⟨rfl,rfl,(by rw [Cy,Zf (by rw [hgx];exact Z9)])⟩)))
 have hgo:=Z4r (n:=n) (ln:=ln) (L:=L) (s:=s) (by rw [hgx];exact Z9) hkd
 refine ak (Zq 3 [8,7] (ic [0,0,0,0,0,0,0] (RC b ga gb gc gd ge gf n s L ln q 0 kd m0 (hkb:=hkd) (harm:=hm0) (hbt:=(hk3 0 kd m0 hkd hm0)) (ih:=ob)) ?_))
 rintro _ _ (⟨c1,wa1,wb1,wc1,wd1,we1,wf1,L'1,rfl,rfl,YJ⟩|⟨rfl,rfl,YQ⟩)
 ·have hone:=YJ
  obtain ⟨l1,l2⟩:=Rt hn hk hq.1 hf hop hkd hm0 (hk3 0 kd m0 hkd hm0) hone
  refine Z1 (Y5 (VP (ak (Y5 (ab 0 (Y1 (fun fz gz m F h=>∃(k:Nat),(1<=k/\k<=s.kids.length)/\(JJ n ln L s.op s.num s.args L'1 (s.kids.drop k) k=JJ n ln L s.op s.num s.args L'1 (s.kids.drop 1) 1)/\F=sF [0,4,5,7] fz [(9,.i k)]/\h=gz/\m=s.kids.length-k) _ _ _ ⟨1,ob,ob,rfl,rfl,rfl⟩ (Zs 16 (fc (x:=.i 1) li fl)) ?_))))))
  rintro m F h ⟨k,Yi,Zd,rfl,rfl,rfl⟩
  refine Yq 3 [14] (iw (Kz s.kids) (Y3 ((k:Int)<(s.kids.length:Int)) (fun Zh=>?_) (fun Zh=>?_)))
  ·obtain ⟨ke,hke⟩:=Zt s.kids k om
   obtain ⟨mk,hmk⟩:=Zt (W1 n.decls s.op s.num) k om
   have hcs:=Zbs (n:=n) (ln:=ln) (L:=L) (op:=s.op) (num:=s.num) (args:=s.args) (one:=L'1) hke
   refine ak (aq (ab 1 (Zq 4 [15,14] (ic [7,7,7,7,7,7,7] (RC b ga gb gc gd ge gf n s L ln q k ke mk (hkb:=hke) (harm:=hmk) (hbt:=(hk3 k ke mk hke hmk)) (ih:=ob)) ?_))))
   rintro _ _ (⟨c2,wa2,wb2,wc2,wd2,we2,wf2,L'2,rfl,rfl,X4⟩|⟨rfl,rfl,Xy⟩)
   ·have htwo:=X4
    obtain ⟨l3,l4⟩:=Rt hn hk hq.1 hf hop hke hmk (hk3 k ke mk hke hmk) htwo
    refine Z1 (aD 26 (ZV 15 26 [0,1,2,3,4,5,6,7,8,9,10] [14,0] (Z8 11 (Ai 11 [16,2] [] [] [rV wb1 L'1.own,rV wb2 L'2.own] (Z1r L'1.own L'2.own) Gr (gL (v:=wb1) 0 (gL (v:=wb2) 1 gN)) (J9 (J9 Ax)) ?_))))
    rintro _ _ ⟨rfl,rfl⟩
    refine BK [0,4,5,7,9] [(73,.b ((!(decide (L'1.own=L'2.own)))||(!(decide (L'1.tok=L'2.tok)))))] (fun gz=>gz) ?_ ?_
    ·refine Zo 11 14 [12,13,14] (db (b:=(!(decide (L'1.own=L'2.own)))) 62 (fun Zy=>?_) (fun Zy=>?_))
     ·exact Zo 0 11 [15,16,17,18,19,20,21,22,23,24,25] (de (Zs 23 (Zj true Zy fl)))
     refine ZV 3 11 [15,16,17,18,19,20,21,22] [15,2] (Z8 23 (Ai 23 [20,7] [] [] [rV wf1 L'1.tok,rV wf2 L'2.tok] (Z1r L'1.tok L'2.tok) Gr (gL (v:=wf1) 0 (gL (v:=wf2) 1 gN)) (J9 (J9 Ax)) ?_))
     rintro _ _ ⟨rfl,rfl⟩
     exact Zo 0 2 [24,25] (de (wk [2,2,2,2,2,2,2,1,1,1,1,1,1,1,1,1,1,1,1,1,0,0,0] (Zj (!(decide (L'1.tok=L'2.tok))) Zy fl)))
    refine ac ((!(decide (L'1.own=L'2.own)))||(!(decide (L'1.tok=L'2.tok)))) (p:=(¬(L'1.own=L'2.own))∨(¬(L'1.tok=L'2.tok))) (ZJ (Y8 dq) (Y8 dq)) (fun ZA=>?_) (fun ZA=>?_)
    ·exact ar (Zk (r1 [] (.inr ⟨rfl,rfl,(by rw [hgo,hone];exact RW (by rw [<-Zd,hcs,htwo];exact Zfs ZA))⟩)))
    exact ak (az (Z0 1 (ZC k (Z1 (ZE ⟨k+1,ob,(by rw [hcs,htwo,Zft ZA] at Zd;exact Zd),rfl,rfl,rfl⟩ (wk [15,15,0,14,14,14,14,7,7,7,7,7,7,7,7,7] (ZI k fl)))))))
   have htwo:=Xy
   exact Z1 (aD 26 (Zo 0 26 [0,1,2,3,4,5,6,7,8,9,10,11,12,13,14,15,16,17,18,19,20,21,22,23,24,25] (de (Vq (ar (Zk (r1 [] (.inr ⟨rfl,rfl,(by rw [hgo,hone];exact RW (by rw [<-Zd,hcs,htwo];rfl))⟩))))))))
  have hE:JJ n ln L s.op s.num s.args L'1 (s.kids.drop 1) 1=true:=by rw [<-Zd,Xj om,JJ]
  exact ax 0 (Zq 7 [0] (ZG 7 b [.h ga,.h wb1,.h gc,.h gd,.h ge,.h gf,Z4 ln] (ie (Zq 7 [1] (ZG 0 b [.h ga,.h wb1,.h gc,.h gd,.h ge,.h wf1,Z4 ln] (ie (ar (Zk (r1 [0,7,2,7,7,7,5] (.inl ⟨ga,wb1,gc,gd,ge,wf1,(ZK.mk L.vars L'1.own L.par L.con L.fst L'1.tok),rfl,rfl,(by rw [hgo,hone];exact Zcn hE)⟩) (eq:=(rc (rv (xs:=L.vars) ob (rv (xs:=L'1.own) ob (rv (xs:=L.par) ob (rv (xs:=L.con) ob (rv (xs:=L.fst) ob (rv (xs:=L'1.tok) ob rz)))))))))))))))))
 have hone:=YQ
 exact Z1 (Y5 (Vq (ar (Zk (r1 [] (.inr ⟨rfl,rfl,(by rw [hgo,hone];rfl)⟩))))))
theorem RE (b:Nat) (ga:Hd) (gb:Hd) (gc:Hd) (gd:Hd) (ge:Hd) (gf:Hd) (n:ZF) (s:Z5) (L:ZK) (ln:LI) (q:Int) (hn:Xv n:=by exact ob) (hk:XH n.decls L q:=by exact ob) (ht:0<=YZ n L.vars s:=by exact ob) (hb:L.vars.length+4*s.sz<=1000000000:=by exact ob) (hq:0<=q/\q+4*s.sz<=999999990:=by exact ob) (hln:ln.length<=4294967296:=by exact ob) (ih:∀(b2:Z7) (c:Nat) (ra:Hd) (rb:Hd) (rc:Hd) (rd:Hd) (re:Hd) (rf:Hd) (M:ZK) (mm:Nat) (p:Int),(b2.sz<s.sz)->(XH n.decls M p)->(0<=W2 n M.vars b2)->(mm<=M.vars.length)->(M.vars.length+4*b2.sz<=1000000000)->(0<=p/\p+4*b2.sz<=999999990)->Zm 144 [.p c 0,YC n,Ym b2,.i mm] [.obj c [.h ra,.h rb,.h rc,.h rd,.h re,.h rf,Z4 ln],rV ra M.vars,rV rb M.own,rV rc M.par,rV rd M.con,rV re M.fst,rV rf M.tok] (fun r h=>(∃(wa:Hd) (wb:Hd) (wc:Hd) (wd:Hd) (we:Hd) (wf:Hd) (M':ZK),r=.b true/\h=[.obj c [.h wa,.h wb,.h wc,.h wd,.h we,.h wf,Z4 ln],rV wa M'.vars,rV wb M'.own,rV wc M'.par,rV wd M'.con,rV we M'.fst,rV wf M'.tok]/\U1 n ln M mm b2=some M')∨(r=.b false/\h=[]/\U1 n ln M mm b2=none))):Zm 200 [.p b 0,YC n,X3 s] [.obj b [.h ga,.h gb,.h gc,.h gd,.h ge,.h gf,Z4 ln],rV ga L.vars,rV gb L.own,rV gc L.par,rV gd L.con,rV ge L.fst,rV gf L.tok] (fun r h=>(∃(wa:Hd) (wb:Hd) (wc:Hd) (wd:Hd) (we:Hd) (wf:Hd) (L':ZK),r=.b true/\h=[.obj b [.h wa,.h wb,.h wc,.h wd,.h we,.h wf,Z4 ln],rV wa L'.vars,rV wb L'.own,rV wc L'.par,rV wd L'.con,rV we L'.fst,rV wf L'.tok]/\QO n ln L s=some L')∨(r=.b false/\h=[]/\QO n ln L s=none)):=by
 obtain ⟨e1,e2,e3,e4,e5⟩:=hk.len
 have Xp:=hn.decls
 have hkz:=K9 s
 have haz:=Jv s
 have hf:=Z26 ht
 refine ZD 89 Tryz.func200 (ar (iA (X7 n) fun b1=>iA (W7 s) fun b2=>Z1 (aD 8 (ZV 2 8 [0,1,2,3,4,5] [1,2,0] (Z8 6 (Ai 6 [3] [] [] [rV ga L.vars] (MQ n L.vars s ob ob) Gr (gS (gL (v:=ga) 0 (gS gN))) (J9 Ax) ?_))))))
 rintro _ _ ⟨rfl,rfl⟩
 refine Zo 0 1 [7] (de (ZY (X6 (Vb [1] (ab 0 (ar (YS (s.op==14) Zg (fun Z9=>?_) (fun Z9=>?_))))))))
 ·obtain ⟨x,hxa⟩:=hf.one om
  have ha:s.args[0]? = some x:=by rw [hxa];rfl
  have hx:=hf.args x (by rw [hxa];simp)
  have hgx:=KC ha
  have hal:=(Xu.1 ha).1
  obtain ⟨xo,hxo⟩:=Zt L.own x.toNat om
  have hgo:=Te hxo
  have hob:=hk.bd xo (Y4 hxo)
  have hon:=hk.nn xo (Y4 hxo)
  refine Zq 3 [1] (Zp (Ze none 0 1 (Y7 ha)) (Z0 1 (Zw [3,0,2,2,2,2,2] (Hl b ga gb gc gd ge gf L ln x (hlk:=hk.len) (hd:=hk.down)) (Z1 (aE 21 (ZV 15 21 [0,1,2,3,4,5] [0,7] (dx 6 (Ze none 0 1 (Y7 ha)) (ZV 7 14 [7,8,9,10,11,12,13] [0,7] (dx 14 (Ze none 0 1 (Y7 ha)) (Zo 5 6 [15] (dx 16 (Ue 2 gb L.own x x.toNat (hq:=rfl)) (TU 17 (Qz 2 gb L.own x.toNat xo hxo) (da 18 ((xo+1)) ((xo)+(1)) (dx 19 (Ue 2 gb L.own x x.toNat (hq:=rfl)) (Z8 20 (Dw 20 2 [] [] gb L.own x.toNat (xo+1) (de (X6 (YS (!T3 L ln x) (p:=¬(T3 L ln x=true)) (Y8 Iff.rfl) (fun Zh=>?_) (fun Zh=>?_))))))))))))))))))))
  ·have hP:=(Sq (n:=n) (ln:=ln) (L:=L) Z9 hgx).trans (Z60 Zh)
   exact ar (Zk (r1 [] (.inr ⟨rfl,rfl,(by rw [Tl,hP];first|rfl|exact Tb (by assumption)|exact Tc (by assumption) (by assumption)|exact Td (by assumption))⟩)))
  have hP:=(Sq (n:=n) (ln:=ln) (L:=L) Z9 hgx).trans (Z61 Zh hgo)
  obtain ⟨kx,hxv⟩:=Fh hn hk hq.1 hf hP
  refine ak (Yq 2 [7] (Zw [] (Ko s.op) (Xi [0,5,7] [(80,.b (Xd s.op&&((YZ n L.vars s) != 0)))] (fun gz=>gz) ?_ ?_)))
  ·refine Z0 1 (ib (b:=Xd s.op) 77 (fun Zb=>?_) (fun Zb=>?_))
   ·exact Z1 (Zs 9 (Zj ((YZ n L.vars s) != 0) Zb fl))
   exact Z1 (Zs 9 (Zj false Zb fl))
  refine ac (Xd s.op&&((YZ n L.vars s) != 0)) (p:=(Xd s.op=true)/\((YZ n L.vars s)≠0)) (Yo Iff.rfl Yh) (fun ZA=>?_) (fun ZA=>?_)
  ·refine az (Z0 2 (ic [1,1,0,0,0,0,0] (KG b ga gb gc gd ge gf (ZK.mk L.vars (L.own.set x.toNat (xo+1)) L.par L.con L.fst L.tok) ln (YZ n L.vars s) 1 (-1) (hlb:=(by rw [hxv];omega)) (hlk:=kx.len)) ?_))
   rintro _ _ ⟨wa1,wb1,wc1,wd1,we1,wf1,rfl⟩
   exact ie (ar (Zk (r1 [0,0,0,0,0,0,0] (.inl ⟨wa1,wb1,wc1,wd1,we1,wf1,((ZK.mk L.vars (L.own.set x.toNat (xo+1)) L.par L.con L.fst L.tok).grow (YZ n L.vars s) 1 (-1)),rfl,rfl,(by rw [Tl,hP];first|rfl|exact Tb (by assumption)|exact Tc (by assumption) (by assumption)|exact Td (by assumption))⟩))))
  refine Zq 2 [7] (Zw [] (Ko s.op) (ie (ac (Xd s.op) Iff.rfl (fun Yk=>?_) (fun Yk=>?_))))
  ·refine az (Z0 1 (ic [1,1,0,0,0,0,0] (KG b ga gb gc gd ge gf (ZK.mk L.vars (L.own.set x.toNat (xo+1)) L.par L.con L.fst L.tok) ln 0 0 (-1) (hlb:=(by rw [hxv];omega)) (hlk:=kx.len)) ?_))
   rintro _ _ ⟨wa2,wb2,wc2,wd2,we2,wf2,rfl⟩
   exact ie (ar (Zk (r1 [0,0,0,0,0,0,0] (.inl ⟨wa2,wb2,wc2,wd2,we2,wf2,((ZK.mk L.vars (L.own.set x.toNat (xo+1)) L.par L.con L.fst L.tok).grow 0 0 (-1)),rfl,rfl,(by rw [Tl,hP];first|rfl|exact Tb (by assumption)|exact Tc (by assumption) (by assumption)|exact Td (by assumption))⟩))))
  exact ak (ar (Zk (r1 [1,1,0,0,0,0,0] (.inl ⟨ga,gb,gc,gd,ge,gf,(ZK.mk L.vars (L.own.set x.toNat (xo+1)) L.par L.con L.fst L.tok),rfl,rfl,(by rw [Tl,hP];first|rfl|exact Tb (by assumption)|exact Tc (by assumption) (by assumption)|exact Td (by assumption))⟩) (eq:=(rc (rv (xs:=L.vars) ob (rv (xs:=(L.own.set x.toNat (xo+1))) ob (rv (xs:=L.par) ob (rv (xs:=L.con) ob (rv (xs:=L.fst) ob (rv (xs:=L.tok) ob rz)))))))))))
 refine ar (YS (s.op==15) Zg (fun YI=>?_) (fun YI=>?_))
 ·obtain ⟨x,hxa⟩:=hf.one om
  have ha:s.args[0]? = some x:=by rw [hxa];rfl
  have hx:=hf.args x (by rw [hxa];simp)
  have hgx:=KC ha
  have hal:=(Xu.1 ha).1
  refine az (ZB 3 [1] (Zp (Ze none 0 1 (Y7 ha)) (Z0 1 (ic [3,0,2,2,2,2,2] (Hm b ga gb gc gd ge gf L ln x (hlk:=hk.len) (hq:=(fun y hy=>⟨hk.nn y hy,by have:=hk.bd y hy;omega⟩))) ?_))))
  rintro _ _ (⟨wa3,wb3,wc3,wd3,we3,wf3,L'1,rfl,rfl,YJ⟩|⟨rfl,rfl,YQ⟩)
  ·have hP:=(Sr (n:=n) (ln:=ln) (L:=L) YI hgx).trans (YJ)
   obtain ⟨kx,hxv⟩:=Fh hn hk hq.1 hf hP
   refine Z1 (Y5 (VP (ak (Yq 2 [7] (Zw [] (Ko s.op) (Xi [0,5,7] [(80,.b (Xd s.op&&((YZ n L.vars s) != 0)))] (fun gz=>gz) ?_ ?_))))))
   ·refine Z0 1 (ib (b:=Xd s.op) 77 (fun Zy=>?_) (fun Zy=>?_))
    ·exact Z1 (Zs 9 (Zj ((YZ n L.vars s) != 0) Zy fl))
    exact Z1 (Zs 9 (Zj false Zy fl))
   refine ac (Xd s.op&&((YZ n L.vars s) != 0)) (p:=(Xd s.op=true)/\((YZ n L.vars s)≠0)) (Yo Iff.rfl Yh) (fun X9=>?_) (fun X9=>?_)
   ·refine az (Z0 2 (ic [0,0,0,0,0,0,0] (KG b wa3 wb3 wc3 wd3 we3 wf3 L'1 ln (YZ n L.vars s) 1 (-1) (hlb:=(by rw [hxv];omega)) (hlk:=kx.len)) ?_))
    rintro _ _ ⟨wa4,wb4,wc4,wd4,we4,wf4,rfl⟩
    exact ie (ar (Zk (r1 [0,0,0,0,0,0,0] (.inl ⟨wa4,wb4,wc4,wd4,we4,wf4,(L'1.grow (YZ n L.vars s) 1 (-1)),rfl,rfl,(by rw [Tl,hP];first|rfl|exact Tb (by assumption)|exact Tc (by assumption) (by assumption)|exact Td (by assumption))⟩))))
   refine Zq 2 [7] (Zw [] (Ko s.op) (ie (ac (Xd s.op) Iff.rfl (fun WH=>?_) (fun WH=>?_))))
   ·refine az (Z0 1 (ic [0,0,0,0,0,0,0] (KG b wa3 wb3 wc3 wd3 we3 wf3 L'1 ln 0 0 (-1) (hlb:=(by rw [hxv];omega)) (hlk:=kx.len)) ?_))
    rintro _ _ ⟨wa5,wb5,wc5,wd5,we5,wf5,rfl⟩
    exact ie (ar (Zk (r1 [0,0,0,0,0,0,0] (.inl ⟨wa5,wb5,wc5,wd5,we5,wf5,(L'1.grow 0 0 (-1)),rfl,rfl,(by rw [Tl,hP];first|rfl|exact Tb (by assumption)|exact Tc (by assumption) (by assumption)|exact Td (by assumption))⟩))))
   exact ak (ar (Zk (r1 [0,0,0,0,0,0,0] (.inl ⟨wa3,wb3,wc3,wd3,we3,wf3,L'1,rfl,rfl,(by rw [Tl,hP];first|rfl|exact Tb (by assumption)|exact Tc (by assumption) (by assumption)|exact Td (by assumption))⟩))))
  have hP:=(Sr (n:=n) (ln:=ln) (L:=L) YI hgx).trans (YQ)
  exact Z1 (Y5 (Vq (ar (Zk (r1 [] (.inr ⟨rfl,rfl,(by rw [Tl,hP];first|rfl|exact Tb (by assumption)|exact Tc (by assumption) (by assumption)|exact Td (by assumption))⟩))))))
 refine Y5 (Xw (fun fz gz F h=>F=sF [0,4,5,7,17] fz [(58,.b ((s.op==16)||(s.op==17)))]/\h=gz) ?_ ?_)
 ·refine ac (s.op==16) Zg (fun VS=>?_) (fun VS=>?_)
  ·exact ak (ZM ⟨rfl,rfl⟩ (Zs 9 (fc (x:=.b (s.op==16)) (lb (by first|rfl|(rw [Zf VS])|(rw [Za VS])|(simp [VS];done)|(rw [Ye];simp [VS];done)|omega)) fl)))
  exact Vv (ZM ⟨rfl,rfl⟩ (Zs 9 (fc (x:=.b (s.op==17)) (lb (by first|rfl|(rw [Zf VS])|(rw [Za VS])|(simp [VS];done)|(rw [Ye];simp [VS];done)|omega)) fl)))
 rintro F h ⟨rfl,rfl⟩
 refine ac ((s.op==16)||(s.op==17)) (p:=(s.op=16)∨(s.op=17)) (ZJ Zg Zg) (fun Vj=>?_) (fun Vj=>?_)
 ·obtain ⟨x,hxa⟩:=hf.one om
  have ha:s.args[0]? = some x:=by rw [hxa];rfl
  have hx:=hf.args x (by rw [hxa];simp)
  have hgx:=KC ha
  have hal:=(Xu.1 ha).1
  refine az (ZB 3 [2,1] (ic [3,0,2,2,2,2,2] (Zcb b ga gb gc gd ge gf n s L ln q x) ?_))
  rintro _ _ (⟨wa6,wb6,wc6,wd6,we6,wf6,L'2,rfl,rfl,Wx⟩|⟨rfl,rfl,WZ⟩)
  ·have hP:=(Ss (n:=n) (ln:=ln) (L:=L) Vj hgx).trans (Wx)
   obtain ⟨kx,hxv⟩:=Fh hn hk hq.1 hf hP
   refine Z1 (Y5 (VP (ak (Yq 2 [7] (Zw [] (Ko s.op) (Xi [0,5,7] [(80,.b (Xd s.op&&((YZ n L.vars s) != 0)))] (fun gz=>gz) ?_ ?_))))))
   ·refine Z0 1 (ib (b:=Xd s.op) 77 (fun Yf=>?_) (fun Yf=>?_))
    ·exact Z1 (Zs 9 (Zj ((YZ n L.vars s) != 0) Yf fl))
    exact Z1 (Zs 9 (Zj false Yf fl))
   refine ac (Xd s.op&&((YZ n L.vars s) != 0)) (p:=(Xd s.op=true)/\((YZ n L.vars s)≠0)) (Yo Iff.rfl Yh) (fun VC=>?_) (fun VC=>?_)
   ·refine az (Z0 2 (ic [0,0,0,0,0,0,0] (KG b wa6 wb6 wc6 wd6 we6 wf6 L'2 ln (YZ n L.vars s) 1 (-1) (hlb:=(by rw [hxv];omega)) (hlk:=kx.len)) ?_))
    rintro _ _ ⟨wa7,wb7,wc7,wd7,we7,wf7,rfl⟩
    exact ie (ar (Zk (r1 [0,0,0,0,0,0,0] (.inl ⟨wa7,wb7,wc7,wd7,we7,wf7,(L'2.grow (YZ n L.vars s) 1 (-1)),rfl,rfl,(by rw [Tl,hP];first|rfl|exact Tb (by assumption)|exact Tc (by assumption) (by assumption)|exact Td (by assumption))⟩))))
   refine Zq 2 [7] (Zw [] (Ko s.op) (ie (ac (Xd s.op) Iff.rfl (fun Q1=>?_) (fun Q1=>?_))))
   ·refine az (Z0 1 (ic [0,0,0,0,0,0,0] (KG b wa6 wb6 wc6 wd6 we6 wf6 L'2 ln 0 0 (-1) (hlb:=(by rw [hxv];omega)) (hlk:=kx.len)) ?_))
    rintro _ _ ⟨wa8,wb8,wc8,wd8,we8,wf8,rfl⟩
    exact ie (ar (Zk (r1 [0,0,0,0,0,0,0] (.inl ⟨wa8,wb8,wc8,wd8,we8,wf8,(L'2.grow 0 0 (-1)),rfl,rfl,(by rw [Tl,hP];first|rfl|exact Tb (by assumption)|exact Tc (by assumption) (by assumption)|exact Td (by assumption))⟩))))
   exact ak (ar (Zk (r1 [0,0,0,0,0,0,0] (.inl ⟨wa6,wb6,wc6,wd6,we6,wf6,L'2,rfl,rfl,(by rw [Tl,hP];first|rfl|exact Tb (by assumption)|exact Tc (by assumption) (by assumption)|exact Td (by assumption))⟩))))
  have hP:=(Ss (n:=n) (ln:=ln) (L:=L) Vj hgx).trans (WZ)
  exact Z1 (Y5 (Vq (ar (Zk (r1 [] (.inr ⟨rfl,rfl,(by rw [Tl,hP];first|rfl|exact Tb (by assumption)|exact Tc (by assumption) (by assumption)|exact Td (by assumption))⟩))))))
 refine Y5 (Xw (fun fz gz F h=>F=sF [0,4,5,7] fz [(65,.b ((s.op==7)||(s.op==8)))]/\h=gz) ?_ ?_)
 ·refine ac (s.op==7) Zg (fun VD=>?_) (fun VD=>?_)
  ·exact ak (ZM ⟨rfl,rfl⟩ (Zs 9 (fc (x:=.b (s.op==7)) (lb (by first|rfl|(rw [Zf VD])|(rw [Za VD])|(simp [VD];done)|(rw [Ye];simp [VD];done)|omega)) fl)))
  exact Vv (ZM ⟨rfl,rfl⟩ (Zs 9 (fc (x:=.b (s.op==8)) (lb (by first|rfl|(rw [Zf VD])|(rw [Za VD])|(simp [VD];done)|(rw [Ye];simp [VD];done)|omega)) fl)))
 rintro F h ⟨rfl,rfl⟩
 refine ac ((s.op==7)||(s.op==8)) (p:=(s.op=7)∨(s.op=8)) (ZJ Zg Zg) (fun QF=>?_) (fun QF=>?_)
 ·refine az (ZB 3 [2,1] (ic [3,0,2,2,2,2,2] (Zc8 b ga gb gc gd ge gf n s L ln q (ih:=ob)) ?_))
  rintro _ _ (⟨wa9,wb9,wc9,wd9,we9,wf9,L'3,rfl,rfl,UF⟩|⟨rfl,rfl,Ur⟩)
  ·have hP:=(St (n:=n) (ln:=ln) (L:=L) QF).trans (UF)
   obtain ⟨kx,hxv⟩:=Fh hn hk hq.1 hf hP
   refine Z1 (Y5 (VP (ak (Yq 2 [7] (Zw [] (Ko s.op) (Xi [0,5,7] [(80,.b (Xd s.op&&((YZ n L.vars s) != 0)))] (fun gz=>gz) ?_ ?_))))))
   ·refine Z0 1 (ib (b:=Xd s.op) 77 (fun YP=>?_) (fun YP=>?_))
    ·exact Z1 (Zs 9 (Zj ((YZ n L.vars s) != 0) YP fl))
    exact Z1 (Zs 9 (Zj false YP fl))
   refine ac (Xd s.op&&((YZ n L.vars s) != 0)) (p:=(Xd s.op=true)/\((YZ n L.vars s)≠0)) (Yo Iff.rfl Yh) (fun ET=>?_) (fun ET=>?_)
   ·refine az (Z0 2 (ic [0,0,0,0,0,0,0] (KG b wa9 wb9 wc9 wd9 we9 wf9 L'3 ln (YZ n L.vars s) 1 (-1) (hlb:=(by rw [hxv];omega)) (hlk:=kx.len)) ?_))
    rintro _ _ ⟨wa10,wb10,wc10,wd10,we10,wf10,rfl⟩
    exact ie (ar (Zk (r1 [0,0,0,0,0,0,0] (.inl ⟨wa10,wb10,wc10,wd10,we10,wf10,(L'3.grow (YZ n L.vars s) 1 (-1)),rfl,rfl,(by rw [Tl,hP];first|rfl|exact Tb (by assumption)|exact Tc (by assumption) (by assumption)|exact Td (by assumption))⟩))))
   refine Zq 2 [7] (Zw [] (Ko s.op) (ie (ac (Xd s.op) Iff.rfl (fun EU=>?_) (fun EU=>?_))))
   ·refine az (Z0 1 (ic [0,0,0,0,0,0,0] (KG b wa9 wb9 wc9 wd9 we9 wf9 L'3 ln 0 0 (-1) (hlb:=(by rw [hxv];omega)) (hlk:=kx.len)) ?_))
    rintro _ _ ⟨wa11,wb11,wc11,wd11,we11,wf11,rfl⟩
    exact ie (ar (Zk (r1 [0,0,0,0,0,0,0] (.inl ⟨wa11,wb11,wc11,wd11,we11,wf11,(L'3.grow 0 0 (-1)),rfl,rfl,(by rw [Tl,hP];first|rfl|exact Tb (by assumption)|exact Tc (by assumption) (by assumption)|exact Td (by assumption))⟩))))
   exact ak (ar (Zk (r1 [0,0,0,0,0,0,0] (.inl ⟨wa9,wb9,wc9,wd9,we9,wf9,L'3,rfl,rfl,(by rw [Tl,hP];first|rfl|exact Tb (by assumption)|exact Tc (by assumption) (by assumption)|exact Td (by assumption))⟩))))
  have hP:=(St (n:=n) (ln:=ln) (L:=L) QF).trans (Ur)
  exact Z1 (Y5 (Vq (ar (Zk (r1 [] (.inr ⟨rfl,rfl,(by rw [Tl,hP];first|rfl|exact Tb (by assumption)|exact Tc (by assumption) (by assumption)|exact Td (by assumption))⟩))))))
 refine az (ZB 3 [2,1] (ic [3,0,2,2,2,2,2] (Zca b ga gb gc gd ge gf n s L ln q (hnum:=hf.num) (hargs:=hf.args) (hinto:=(fun q=>(hf.into om).2))) ?_))
 rintro _ _ (⟨wa12,wb12,wc12,wd12,we12,wf12,L'4,rfl,rfl,K7⟩|⟨rfl,rfl,K8⟩)
 ·have hP:=(Su (n:=n) (ln:=ln) (L:=L) Z9 YI Vj QF).trans (K7)
  obtain ⟨kx,hxv⟩:=Fh hn hk hq.1 hf hP
  refine Z1 (Y5 (VP (ak (Yq 2 [7] (Zw [] (Ko s.op) (Xi [0,5,7] [(80,.b (Xd s.op&&((YZ n L.vars s) != 0)))] (fun gz=>gz) ?_ ?_))))))
  ·refine Z0 1 (ib (b:=Xd s.op) 77 (fun XE=>?_) (fun XE=>?_))
   ·exact Z1 (Zs 9 (Zj ((YZ n L.vars s) != 0) XE fl))
   exact Z1 (Zs 9 (Zj false XE fl))
  refine ac (Xd s.op&&((YZ n L.vars s) != 0)) (p:=(Xd s.op=true)/\((YZ n L.vars s)≠0)) (Yo Iff.rfl Yh) (fun KE=>?_) (fun KE=>?_)
  ·refine az (Z0 2 (ic [0,0,0,0,0,0,0] (KG b wa12 wb12 wc12 wd12 we12 wf12 L'4 ln (YZ n L.vars s) 1 (-1) (hlb:=(by rw [hxv];omega)) (hlk:=kx.len)) ?_))
   rintro _ _ ⟨wa13,wb13,wc13,wd13,we13,wf13,rfl⟩
   exact ie (ar (Zk (r1 [0,0,0,0,0,0,0] (.inl ⟨wa13,wb13,wc13,wd13,we13,wf13,(L'4.grow (YZ n L.vars s) 1 (-1)),rfl,rfl,(by rw [Tl,hP];first|rfl|exact Tb (by assumption)|exact Tc (by assumption) (by assumption)|exact Td (by assumption))⟩))))
  refine Zq 2 [7] (Zw [] (Ko s.op) (ie (ac (Xd s.op) Iff.rfl (fun KF=>?_) (fun KF=>?_))))
  ·refine az (Z0 1 (ic [0,0,0,0,0,0,0] (KG b wa12 wb12 wc12 wd12 we12 wf12 L'4 ln 0 0 (-1) (hlb:=(by rw [hxv];omega)) (hlk:=kx.len)) ?_))
   rintro _ _ ⟨wa14,wb14,wc14,wd14,we14,wf14,rfl⟩
   exact ie (ar (Zk (r1 [0,0,0,0,0,0,0] (.inl ⟨wa14,wb14,wc14,wd14,we14,wf14,(L'4.grow 0 0 (-1)),rfl,rfl,(by rw [Tl,hP];first|rfl|exact Tb (by assumption)|exact Tc (by assumption) (by assumption)|exact Td (by assumption))⟩))))
  exact ak (ar (Zk (r1 [0,0,0,0,0,0,0] (.inl ⟨wa12,wb12,wc12,wd12,we12,wf12,L'4,rfl,rfl,(by rw [Tl,hP];first|rfl|exact Tb (by assumption)|exact Tc (by assumption) (by assumption)|exact Td (by assumption))⟩))))
 have hP:=(Su (n:=n) (ln:=ln) (L:=L) Z9 YI Vj QF).trans (K8)
 exact Z1 (Y5 (Vq (ar (Zk (r1 [] (.inr ⟨rfl,rfl,(by rw [Tl,hP];first|rfl|exact Tb (by assumption)|exact Tc (by assumption) (by assumption)|exact Td (by assumption))⟩))))))
theorem Zc6 (c:Nat) (ga:Hd) (gb:Hd) (gc:Hd) (gd:Hd) (ge:Hd) (gf:Hd) (n:ZF) (b:Z7) (L:ZK) (ln:LI) (q:Int) (mm:Nat) (hn:Xv n) (hk:XH n.decls L q) (ht:0<=W2 n L.vars b) (hm:mm<=L.vars.length) (hb:L.vars.length+4*b.sz<=1000000000) (hq:0<=q/\q+4*b.sz<=999999990) (hln:ln.length<=4294967296) (ih:∀(s2:Z5) (c:Nat) (ra:Hd) (rb:Hd) (rc:Hd) (rd:Hd) (re:Hd) (rf:Hd) (M:ZK) (p:Int),(s2.sz<b.sz)->(XH n.decls M p)->(0<=YZ n M.vars s2)->(M.vars.length+4*s2.sz<=1000000000)->(0<=p/\p+4*s2.sz<=999999990)->Zm 200 [.p c 0,YC n,X3 s2] [.obj c [.h ra,.h rb,.h rc,.h rd,.h re,.h rf,Z4 ln],rV ra M.vars,rV rb M.own,rV rc M.par,rV rd M.con,rV re M.fst,rV rf M.tok] (fun r h=>(∃(wa:Hd) (wb:Hd) (wc:Hd) (wd:Hd) (we:Hd) (wf:Hd) (M':ZK),r=.b true/\h=[.obj c [.h wa,.h wb,.h wc,.h wd,.h we,.h wf,Z4 ln],rV wa M'.vars,rV wb M'.own,rV wc M'.par,rV wd M'.con,rV we M'.fst,rV wf M'.tok]/\QO n ln M s2=some M')∨(r=.b false/\h=[]/\QO n ln M s2=none))):Zm 144 [.p c 0,YC n,Ym b,.i mm] [.obj c [.h ga,.h gb,.h gc,.h gd,.h ge,.h gf,Z4 ln],rV ga L.vars,rV gb L.own,rV gc L.par,rV gd L.con,rV ge L.fst,rV gf L.tok] (fun r h=>(∃(wa:Hd) (wb:Hd) (wc:Hd) (wd:Hd) (we:Hd) (wf:Hd) (L':ZK),r=.b true/\h=[.obj c [.h wa,.h wb,.h wc,.h wd,.h we,.h wf,Z4 ln],rV wa L'.vars,rV wb L'.own,rV wc L'.par,rV wd L'.con,rV we L'.fst,rV wf L'.tok]/\U1 n ln L mm b=some L')∨(r=.b false/\h=[]/\U1 n ln L mm b=none)):=by
 have hbz:=b.sz_eq
 obtain ⟨vs,rt,hvs,hres,hrt⟩:=NI ht
 have hri:=BI hres
 have Xo:=Ux b
 refine ZD 45 Tryz.func144 (ar (iA (X7 n) fun b1=>iA (XW b) fun b2=>?_))
 refine Z1 (Y5 (ab 0 (Y1 (fun fz gz m F h=>∃(k:Nat) (q2:Int) (L2:ZK) (ka:Hd) (kb:Hd) (kc:Hd) (kd:Hd) (ke:Hd) (kf:Hd),(k<=b.steps.length)/\(XH n.decls L2 q2)/\(0<=q2/\q2+4*Yr (b.steps.drop k)<=999999990)/\(L2.vars.length+4*Yr (b.steps.drop k)<=1000000000)/\(Uw n (b.steps.drop k) L2.vars=some vs)/\(JU n ln L2 (b.steps.drop k)=JU n ln L b.steps)/\(L.vars.length<=L2.vars.length)/\F=sF [0,3,5,6] fz [(9,.i k)]/\h=[Zi gz 0,Zi gz 1,.obj c [.h ka,.h kb,.h kc,.h kd,.h ke,.h kf,Z4 ln],rV ka L2.vars,rV kb L2.own,rV kc L2.par,rV kd L2.con,rV ke L2.fst,rV kf L2.tok]/\m=b.steps.length-k) _ _ _ ⟨0,q,L,ga,gb,gc,gd,ge,gf,ob,hk,(by rw [QS];omega),(by rw [QS];omega),hvs,rfl,om,rfl,rfl,rfl⟩ (Zs 9 (Ya fl)) ?_)))
 rintro m F h ⟨k,q2,L2,ka,kb,kc,kd,ke,kf,Yi,Zd,Zz,YA,Wb,QX,NP,rfl,rfl,rfl⟩
 refine Yq 3 [0] (iw (UA b.steps) (Y3 ((k:Int)<(b.steps.length:Int)) (fun Z9=>?_) (fun Z9=>?_)))
 ·obtain ⟨s1,hs1⟩:=Zt b.steps k om
  have hss:=Eg hs1
  have hdr:=Yj hs1
  have hz:Yr (b.steps.drop k)=s1.sz+Yr (b.steps.drop (k+1)):=by rw [hdr,Yr]
  rw [hdr] at Wb QX
  obtain ⟨g1,g2⟩:=Z28 Wb
  refine ak (aq (ab 1 (aD 9 (ZV 4 9 [0,1,2,3,4] [1,0] (dx 5 (Ze none (k:Int) 5 (V9 hs1)) (Zo 2 3 [6] (Z8 7 (dc 7 [2,2,2,2,2,2,2] [] [] (ih s1 c ka kb kc kd ke kf L2 q2 ob Zd g1 om om) ?_))))))))
  rintro _ _ (⟨wa1,wb1,wc1,wd1,we1,wf1,M'1,rfl,rfl,ZT⟩|⟨rfl,rfl,Yg⟩)
  ·have hP:=ZT
   have kx:=Z25 hn Zd Zz.1 g1 hP
   exact Zo 0 1 [8] (de (VP (ak (az (Z0 1 (ZC k (Z1 (ZE ⟨k+1,(q2+4*s1.sz),M'1,wa1,wb1,wc1,wd1,we1,wf1,ob,kx.1,om,(by rw [kx.2];have:=Z10 n L2.vars s1;omega),(by rw [kx.2];exact g2),(by rw [<-QX,JU,hP];rfl),(by rw [kx.2];have:=Z10 n L2.vars s1;omega),rfl,rfl,rfl⟩ (wk [7,7,0,0,0,0,0,0,0] (ZI k fl))))))))))
  have hP:=Yg
  exact Zo 0 1 [8] (de (Vq (ar (Zk (r1 [] (.inr ⟨rfl,rfl,(by rw [ID,<-QX,JU,hP];rfl)⟩))))))
 rw [Xj om] at Wb QX
 have hvv:L2.vars=vs:=by rw [Uw] at Wb;exact Dj Wb
 have hB:U1 n ln L mm b=Ao mm b.result L2:=by rw [ID,<-QX,JU];rfl
 obtain ⟨xr,hxr⟩:=Zt L2.vars b.result.toNat (by rw [hvv];omega)
 have hgr:=Te hxr
 have hrl:0<=b.result/\b.result<L2.vars.length:=by rw [hvv];omega
 rw [Uw] at Wb
 refine ax 0 (aq (aD 16 (ZV 10 16 [0,1,2,3,4,5] [2,0] (dx 6 (Ue 3 ka L2.vars b.result b.result.toNat (hq:=rfl)) (TU 7 (Qz 3 ka L2.vars b.result.toNat xr hxr) (Zo 6 8 [8,9] (db (b:=(xr != 0)) 35 (fun Zb=>?_) (fun Zb=>?_))))))))
 ·have YJ:xr≠0:=(Yh).1 Zb
  refine ZV 3 6 [10,11,12] [0] (Z8 13 (dc 13 [2,2,2,2,2,2,2] [] [] (Hm c ka kb kc kd ke kf L2 ln b.result (hlk:=Zd.len) (hq:=(fun y hy=>⟨Zd.nn y hy,by have:=Zd.bd y hy;omega⟩))) ?_))
  rintro _ _ (⟨wa2,wb2,wc2,wd2,we2,wf2,L'1,rfl,rfl,YQ⟩|⟨rfl,rfl,X4⟩)
  ·have hE:=hB.trans (Z6l hgr (by assumption) YQ)
   have kx:=Zd.take YQ
   have hxv:L'1.vars.length=L2.vars.length:=by rw [(JV YQ).2.1]
   refine Zo 0 2 [14,15] (de (VP (ak (ZX 2 (ic [0,0,0,0,0,0,0] (RA c wa2 wb2 wc2 wd2 we2 wf2 L'1 ln mm (hlk:=(by first|exact kx.len|exact Zd.len)) (hlb:=om) (hm:=om)) ?_)))))
   rintro _ _ (⟨wa3,wb3,wc3,wd3,we3,wf3,L'2,rfl,rfl,Xy⟩|⟨rfl,rfl,Wx⟩)
   ·exact Zk (r1 [0,0,0,0,0,0,0] (.inl ⟨wa3,wb3,wc3,wd3,we3,wf3,L'2,rfl,rfl,(by first|exact hE|(rw [hE];exact Xy)|(rw [hB,EH hgr (by assumption)];exact Xy))⟩))
   exact Zk (r1 [] (.inr ⟨rfl,rfl,(by first|exact hE|(rw [hE];exact Wx)|(rw [hB,EH hgr (by assumption)];exact Wx))⟩))
  have hE:=hB.trans (Z6k hgr (by assumption) X4)
  exact Zo 0 2 [14,15] (de (Vq (ar (Zk (r1 [] (.inr ⟨rfl,rfl,(by first|exact hE|(rw [hE];exact X4)|(rw [hB,EH hgr (by assumption)];exact X4))⟩))))))
 have WZ:¬(xr≠0):=Y2 Yh Zb
 refine Zo 0 6 [10,11,12,13,14,15] (de (VP (ak (ZX 2 (ic [2,2,2,2,2,2,2] (RA c ka kb kc kd ke kf L2 ln mm (hlk:=(by first|exact kx.len|exact Zd.len)) (hlb:=om) (hm:=om)) ?_)))))
 rintro _ _ (⟨wa4,wb4,wc4,wd4,we4,wf4,L'3,rfl,rfl,Vw⟩|⟨rfl,rfl,Ua⟩)
 ·exact Zk (r1 [0,0,0,0,0,0,0] (.inl ⟨wa4,wb4,wc4,wd4,we4,wf4,L'3,rfl,rfl,(by first|exact hE|(rw [hE];exact Vw)|(rw [hB,EH hgr (by assumption)];exact Vw))⟩))
 exact Zk (r1 [] (.inr ⟨rfl,rfl,(by first|exact hE|(rw [hE];exact Ua)|(rw [hB,EH hgr (by assumption)];exact Ua))⟩))
theorem Zc7 (n:ZF) (ln:LI) (hn:Xv n) (hln:ln.length<=4294967296) (m:Nat):∀(b2:Z7) (c:Nat) (ra:Hd) (rb:Hd) (rc:Hd) (rd:Hd) (re:Hd) (rf:Hd) (M:ZK) (mm:Nat) (p:Int),(b2.sz<m+1)->(XH n.decls M p)->(0<=W2 n M.vars b2)->(mm<=M.vars.length)->(M.vars.length+4*b2.sz<=1000000000)->(0<=p/\p+4*b2.sz<=999999990)->Zm 144 [.p c 0,YC n,Ym b2,.i mm] [.obj c [.h ra,.h rb,.h rc,.h rd,.h re,.h rf,Z4 ln],rV ra M.vars,rV rb M.own,rV rc M.par,rV rd M.con,rV re M.fst,rV rf M.tok] (fun r h=>(∃(wa:Hd) (wb:Hd) (wc:Hd) (wd:Hd) (we:Hd) (wf:Hd) (M':ZK),r=.b true/\h=[.obj c [.h wa,.h wb,.h wc,.h wd,.h we,.h wf,Z4 ln],rV wa M'.vars,rV wb M'.own,rV wc M'.par,rV wd M'.con,rV we M'.fst,rV wf M'.tok]/\U1 n ln M mm b2=some M')∨(r=.b false/\h=[]/\U1 n ln M mm b2=none)):=by
 induction m with
 | zero=>intro b c ga gb gc gd ge gf L mm q h;have:=b.sz_pos;omega
 | succ m ih=>
  intro b c ga gb gc gd ge gf L mm q h1 hk ht hm hb hp
  exact Zc6 c ga gb gc gd ge gf n b L ln q mm hn hk ht hm hb hp hln fun s c ga gb gc gd ge gf L q h2 hk ht hb hp=>RE c ga gb gc gd ge gf n s L ln q hn hk ht hb hp hln
   fun b2 c ga gb gc gd ge gf L mm q h3 hk ht hm hb hp=>ih b2 c ga gb gc gd ge gf L mm q om hk ht hm hb hp
theorem Zcd (n:ZF) (ln:LI) (hn:Xv n) (hln:ln.length<=4294967296) (m:Nat):∀(s2:Z5) (c:Nat) (ra:Hd) (rb:Hd) (rc:Hd) (rd:Hd) (re:Hd) (rf:Hd) (M:ZK) (p:Int),(s2.sz<m+1)->(XH n.decls M p)->(0<=YZ n M.vars s2)->(M.vars.length+4*s2.sz<=1000000000)->(0<=p/\p+4*s2.sz<=999999990)->Zm 200 [.p c 0,YC n,X3 s2] [.obj c [.h ra,.h rb,.h rc,.h rd,.h re,.h rf,Z4 ln],rV ra M.vars,rV rb M.own,rV rc M.par,rV rd M.con,rV re M.fst,rV rf M.tok] (fun r h=>(∃(wa:Hd) (wb:Hd) (wc:Hd) (wd:Hd) (we:Hd) (wf:Hd) (M':ZK),r=.b true/\h=[.obj c [.h wa,.h wb,.h wc,.h wd,.h we,.h wf,Z4 ln],rV wa M'.vars,rV wb M'.own,rV wc M'.par,rV wd M'.con,rV we M'.fst,rV wf M'.tok]/\QO n ln M s2=some M')∨(r=.b false/\h=[]/\QO n ln M s2=none)):=by
 intro s c ga gb gc gd ge gf L q h2 hk ht hb hp
 exact RE c ga gb gc gd ge gf n s L ln q hn hk ht hb hp hln fun b2 c ga gb gc gd ge gf L mm q h3 hk ht hm hb hp=>Zc7 n ln hn hln m b2 c ga gb gc gd ge gf L mm q om hk ht hm hb hp
theorem Zcc (c:Nat) (ra:Hd) (rb:Hd) (rc:Hd) (rd:Hd) (re:Hd) (rf:Hd) (n:ZF) (s2:Z5) (M:ZK) (ln:LI) (p:Int) (hn:Xv n) (hln:ln.length<=4294967296) (hk:XH n.decls M p) (ht:0<=YZ n M.vars s2) (hb:M.vars.length+4*s2.sz<=1000000000) (hp:0<=p/\p+4*s2.sz<=999999990):Zm 200 [.p c 0,YC n,X3 s2] [.obj c [.h ra,.h rb,.h rc,.h rd,.h re,.h rf,Z4 ln],rV ra M.vars,rV rb M.own,rV rc M.par,rV rd M.con,rV re M.fst,rV rf M.tok] (fun r h=>(∃(wa:Hd) (wb:Hd) (wc:Hd) (wd:Hd) (we:Hd) (wf:Hd) (M':ZK),r=.b true/\h=[.obj c [.h wa,.h wb,.h wc,.h wd,.h we,.h wf,Z4 ln],rV wa M'.vars,rV wb M'.own,rV wc M'.par,rV wd M'.con,rV we M'.fst,rV wf M'.tok]/\QO n ln M s2=some M')∨(r=.b false/\h=[]/\QO n ln M s2=none)):=Zcd n ln hn hln s2.sz s2 c ra rb rc rd re rf M p om hk ht hb hp
theorem Zgs (rt:Yz) (hp:rt.params.length<=1000000:=by exact ob) (hl:rt.lent.length<=4294967296:=by exact ob):Zm 143 [A7 rt] [] (fun r h=>∃(c:Nat) (wa:Hd) (wb:Hd) (wc:Hd) (wd:Hd) (we:Hd) (wf:Hd),r=.p c 0/\h=[.obj c [.h wa,.h wb,.h wc,.h wd,.h we,.h wf,Z4 rt.lent],rV wa ((KI rt).vars),rV wb ((KI rt).own),rV wc ((KI rt).par),rV wd ((KI rt).con),rV we ((KI rt).fst),rV wf ((KI rt).tok)]):=by
 refine ZD 45 Tryz.func143 (ar (iA (JL rt) fun b1=>Z1 (Zq 2 [0] (ic [] (Vf rt.lent) ?_))))
 rintro _ _ ⟨v1,rfl,rfl⟩
 refine Y0 1 [(8,.agg [nl,nl,nl,nl,nl,nl,Z4 rt.lent])] (iA [nl,nl,nl,nl,nl,nl,Z4 rt.lent] fun b2=>?_)
 refine Qp (Zig 0 b2 [nl,nl,nl,nl,nl,nl,Z4 rt.lent] [.h hN,.h hN,.h hN,.h hN,.h hN,.h hN,Z4 rt.lent] (.cons (Zl.hd (v:=hN)) (.cons (Zl.hd (v:=hN)) (.cons (Zl.hd (v:=hN)) (.cons (Zl.hd (v:=hN)) (.cons (Zl.hd (v:=hN)) (.cons (Zl.hd (v:=hN)) (.cons (lr _) .nil)))))))) (Qp (Eh) (Qp (Eh) (Qp (Eh) (Qp (Eh) (Qp (Eh) (Qp (Eh) (Z1 (Y5 (ab 0 (Y1 (fun fz gz m F h=>∃(k:Nat) (L2:ZK) (ka:Hd) (kb:Hd) (kc:Hd) (kd:Hd) (ke:Hd) (kf:Hd),(k<=rt.params.length)/\(Tn L2)/\(L2.vars.length=k)/\(Bm rt.lent (rt.params.drop k) k L2=KI rt)/\F=sF [1,3] fz [(4,.i k)]/\h=[.obj b2 [.h ka,.h kb,.h kc,.h kd,.h ke,.h kf,Z4 rt.lent],Zi gz 8,rV ka L2.vars,rV kb L2.own,rV kc L2.par,rV kd L2.con,rV ke L2.fst,rV kf L2.tok]/\m=rt.params.length-k) _ _ _ ⟨0,(ZK.mk [] [] [] [] [] []),hN,hN,hN,hN,hN,hN,ob,⟨rfl,rfl,rfl,rfl,rfl⟩,rfl,rfl,rfl,rfl,rfl⟩ (wk [6,7,0,0,0,0,0,0] (Ya fl) (e:=(rc (rc (rv (xs:=[]) ob (rv (xs:=[]) ob (rv (xs:=[]) ob (rv (xs:=[]) ob (rv (xs:=[]) ob (rv (xs:=[]) ob rz)))))))))) ?_))))))))))
 rintro m F h ⟨k,L2,ka,kb,kc,kd,ke,kf,Yi,Zd,Zz,YA,rfl,rfl,rfl⟩
 refine Yq 3 [1] (iw (Y9 rt.params) (Y3 ((k:Int)<(rt.params.length:Int)) (fun Z9=>?_) (fun Z9=>?_)))
 ·refine ak (aq (ab 1 (Zq 3 [1] ?_)))
  obtain ⟨x1,Z3⟩:=Zt rt.params k om
  refine Zp (Ze none (k:Int) 1 (Y7 Z3)) (Xi [1,3,4] [(29,.b ((x1 != 0)&&(!(decide ((k:Int)∈rt.lent)))))] (fun gz=>gz) ?_ ?_)
  ·refine Z0 3 (ib (b:=(x1 != 0)) 23 (fun Zb=>?_) (fun Zb=>?_))
   ·exact ZB 3 [1] (Zw [] (UK rt.lent (k:Int)) (Z1 (Zs 8 (Zj (!(decide ((k:Int)∈rt.lent))) Zb fl))))
   exact Z1 (Zs 8 (Zj false Zb fl))
  refine ac ((x1 != 0)&&(!(decide ((k:Int)∈rt.lent)))) (p:=(x1≠0)/\(¬((k:Int)∈rt.lent))) (Yo Yh (Y8 dq)) (fun Zh=>?_) (fun Zh=>?_)
  ·refine az (ZB 4 [1] (Zp (Ze none (k:Int) 1 (Y7 Z3)) (Z0 1 (ic [0,1,1,1,1,1,1] (KG b2 ka kb kc kd ke kf L2 rt.lent x1 1 (-1) (hlk:=Zd)) ?_))))
   rintro _ _ ⟨wa1,wb1,wc1,wd1,we1,wf1,rfl⟩
   exact ie (az (Z0 1 (ZC k (Z1 (ZE ⟨k+1,(L2.grow x1 1 (-1)),wa1,wb1,wc1,wd1,we1,wf1,ob,(Tn.grow Zd),(by simp [ZK.grow];omega),(by rw [Yj Z3,Bm] at YA;first|(rw [Zf Zh] at YA;exact YA)|(rw [Za Zh] at YA;exact YA)),rfl,rfl,rfl⟩ (wk [0,6,0,0,0,0,0,0] (ZI k fl)))))))
  refine az (ZB 4 [1] (Zp (Ze none (k:Int) 1 (Y7 Z3)) (Z0 1 (ic [0,1,1,1,1,1,1] (KG b2 ka kb kc kd ke kf L2 rt.lent x1 0 (-1) (hlk:=Zd)) ?_))))
  rintro _ _ ⟨wa2,wb2,wc2,wd2,we2,wf2,rfl⟩
  exact ie (az (Z0 1 (ZC k (Z1 (ZE ⟨k+1,(L2.grow x1 0 (-1)),wa2,wb2,wc2,wd2,we2,wf2,ob,(Tn.grow Zd),(by simp [ZK.grow];omega),(by rw [Yj Z3,Bm] at YA;first|(rw [Zf Zh] at YA;exact YA)|(rw [Za Zh] at YA;exact YA)),rfl,rfl,rfl⟩ (wk [0,6,0,0,0,0,0,0] (ZI k fl)))))))
 refine ax 0 (ZY ?_)
 have hNl:L2=KI rt:=by rw [<-YA,Xj om];rfl
 exact Yc (r1 [0,1,1,1,1,1,1] ⟨b2,ka,kb,kc,kd,ke,kf,rfl,rfl⟩ (eq:=(rc (rv (xs:=L2.vars) (by rw [hNl]) (rv (xs:=L2.own) (by rw [hNl]) (rv (xs:=L2.par) (by rw [hNl]) (rv (xs:=L2.con) (by rw [hNl]) (rv (xs:=L2.fst) (by rw [hNl]) (rv (xs:=L2.tok) (by rw [hNl]) rz)))))))))
theorem Z9a (n:ZF) (f0:Nat) (k0:Nat) (rt:Yz) (hz:A4 n:=by exact ob) (hr:n.routines[f0]? = some rt:=by exact ob) (hk0:k0<=rt.body.steps.length:=by exact ob):Zm 177 [YC n,.i f0,.i k0] [] (fun r h=>(∃(c:Nat) (wa:Hd) (wb:Hd) (wc:Hd) (wd:Hd) (we:Hd) (wf:Hd) (L:ZK) (q:Int),r=.tup [.p c 0,.b true]/\h=[.obj c [.h wa,.h wb,.h wc,.h wd,.h we,.h wf,Z4 rt.lent],rV wa L.vars,rV wb L.own,rV wc L.par,rV wd L.con,rV we L.fst,rV wf L.tok]/\XH n.decls L q/\L.vars.length=rt.params.length+Yp (rt.body.steps.take k0)/\L.vars.length<=500000000/\rt.lent.length<=4194304)∨(r=.tup [.any,.b false]/\h=[]/\True)):=by
 have hzl:=hz.len
 have hfl:=(Xu.1 hr).1
 have hrm:=Y4 hr
 have hbz:=hz.body _ hrm
 have Yd:=Ux rt.body
 have hbe:=rt.body.sz_eq
 obtain ⟨hk,hkv⟩:=Zcq n.decls rt
 refine ZD 64 Tryz.func177 (ar (iA (X7 n) fun b1=>Z1 (Yq 1 [0] (Zw [] (Zhl n) (YW 12 [1,2,3] [(21,.b ((!Ks n)||(!(decide (0<=(f0:Int)/\(f0:Int)<=((n.routines.length:Int)-1))))))] (fun gz=>gz) ?_ (fun hj1=>?_))))))
 ·refine Xi [1,2,3] [(34,.b (((!Ks n)||(!(decide (0<=(f0:Int)/\(f0:Int)<=((n.routines.length:Int)-1)))))||(!(decide (0<=(k0:Int)/\(k0:Int)<=(rt.body.steps.length:Int))))))] (fun gz=>gz) ?_ ?_
  ·refine Z0 1 (ib (b:=((!Ks n)||(!(decide (0<=(f0:Int)/\(f0:Int)<=((n.routines.length:Int)-1)))))) 22 (fun Zb=>?_) (fun Zb=>?_))
   ·exact Z1 (wk [0] (Zj true Zb fl))
   exact ZB 4 [0] (Zp (Ze none (f0:Int) 5 (VJ hr)) (Z0 3 (iw (UA rt.body.steps) (Zw [] (V6 (k0:Int) 0 (rt.body.steps.length:Int)) (Z1 (wk [0] (Zj (!(decide (0<=(k0:Int)/\(k0:Int)<=(rt.body.steps.length:Int)))) Zb fl)))))))
  refine ac (((!Ks n)||(!(decide (0<=(f0:Int)/\(f0:Int)<=((n.routines.length:Int)-1)))))||(!(decide (0<=(k0:Int)/\(k0:Int)<=(rt.body.steps.length:Int))))) (p:=((¬(Ks n=true))∨(¬(0<=(f0:Int)/\(f0:Int)<=((n.routines.length:Int)-1))))∨(¬(0<=(k0:Int)/\(k0:Int)<=(rt.body.steps.length:Int)))) (ZJ (ZJ (Y8 Iff.rfl) (Y8 dq)) (Y8 dq)) (fun Z9=>?_) (fun Z9=>?_)
  ·exact ar (Y0 1 [(35,.agg [.sl [] none,.sl [] none,.sl [] none,.sl [] none,.sl [] none,.sl [] none,.sl [] none])] (iA [.sl [] none,.sl [] none,.sl [] none,.sl [] none,.sl [] none,.sl [] none,.sl [] none] fun b2=>Zk (r2 [] [.p b2 0,.b false] (.inr ⟨rfl,rfl,(by first|exact True.intro|exact ⟨Zd,by rw [show k0=j by omega];exact QX,by omega,hll⟩)⟩) (Zl.tup (.cons (Zl.any _) (.cons (lr _) .nil))))))
  have hV:Ks n=true:=AQ fun z=>Z9 (.inl (.inl z))
  obtain ⟨hok,hall⟩:=Ziu hz hV
  have hty:=hall rt hrm
  obtain ⟨vs,t0,hvs,hres,hrt0⟩:=NI hty
  have hpl:=hok.params_at hr
  have hll:=hok.lent_at hr
  refine ak (Zq 3 [0] (Zp (Ze none (f0:Int) 5 (VJ hr)) (Z0 1 (ic [] (Zgs rt) ?_))))
  rintro _ _ ⟨c1,wa1,wb1,wc1,wd1,we1,wf1,rfl,rfl⟩
  refine Z1 (Y5 (ab 0 (Y1 (fun fz gz m F h=>∃(j:Nat) (q2:Int) (L2:ZK) (ka:Hd) (kb:Hd) (kc:Hd) (kd:Hd) (ke:Hd) (kf:Hd),(j<=k0)/\(XH n.decls L2 q2)/\(0<=q2/\q2+4*Yr (rt.body.steps.drop j)<=999999990)/\(L2.vars.length+4*Yr (rt.body.steps.drop j)<=400000000)/\(Uw n (rt.body.steps.drop j) L2.vars=some vs)/\(L2.vars.length=rt.params.length+Yp (rt.body.steps.take j))/\F=sF [1,2,3,8] fz [(9,.i j)]/\h=[.obj c1 [.h ka,.h kb,.h kc,.h kd,.h ke,.h kf,Z4 rt.lent],Zi gz 7,rV ka L2.vars,rV kb L2.own,rV kc L2.par,rV kd L2.con,rV ke L2.fst,rV kf L2.tok]/\m=k0-j) _ _ _ ⟨0,1,(KI rt),wa1,wb1,wc1,wd1,we1,wf1,ob,hk,(by rw [QS];omega),(by rw [QS,hkv];omega),(by rw [QS,hkv];exact hvs),(by rw [hkv];rfl),rfl,rfl,rfl⟩ (wk [0,6,0,0,0,0,0,0] (Ya fl)) ?_)))
  rintro m F h ⟨j,q2,L2,ka,kb,kc,kd,ke,kf,Yi,Zd,Zz,YA,Wb,QX,rfl,rfl,rfl⟩
  refine X6 (Y3 ((j:Int)<(k0:Int)) (fun Zh=>?_) (fun Zh=>?_))
  ·obtain ⟨s1,hs1⟩:=Zt rt.body.steps j om
   have hss:=Eg hs1
   have hsp:=s1.sz_pos
   have hzd:=Z1z hs1
   have hdt:=Oa hs1
   have hdr:=Yj hs1
   rw [hdr] at Wb
   obtain ⟨g1,g2⟩:=Z28 Wb
   refine ak (aq (ab 1 (aD 14 (ZV 9 14 [0,1,2,3,4] [1,1] (dx 5 (Ze none (f0:Int) 5 (VJ hr)) (Zo 4 8 [6,7,8,9] (dx 10 (Ze none (j:Int) 5 (V9 hs1)) (Zo 2 3 [11] (Z8 12 (dc 12 [0,1,1,1,1,1,1] [] [] (Zcc c1 ka kb kc kd ke kf n s1 L2 rt.lent q2 hok ob Zd g1 om om) ?_))))))))))
   rintro _ _ (⟨wa2,wb2,wc2,wd2,we2,wf2,M'1,rfl,rfl,YJ⟩|⟨rfl,rfl,YQ⟩)
   ·have hP:=YJ
    have kx:=Z25 hok Zd Zz.1 g1 hP
    have hsf:=Zg0 g1
    exact Zo 0 1 [13] (de (VP (ak (az (Z0 1 (ZC j (Z1 (ZE ⟨j+1,(q2+4*s1.sz),M'1,wa2,wb2,wc2,wd2,we2,wf2,ob,kx.1,om,(by rw [kx.2,hsf];split<;>omega),(by rw [kx.2];exact g2),(by rw [kx.2,hsf,hdt];split<;>omega),rfl,rfl,rfl⟩ (wk [0,6,0,0,0,0,0,0] (ZI j fl))))))))))
   exact Zo 0 1 [13] (de (Vq (ar (Zk (r2 [] [.p c1 0,.b false] (.inr ⟨rfl,rfl,(by first|exact True.intro|exact ⟨Zd,by rw [show k0=j by omega];exact QX,by omega,hll⟩)⟩) (Zl.tup (.cons (Zl.any _) (.cons (lr _) .nil))))))))
  exact ax 0 (ar (Zk (r2 [0,1,1,1,1,1,1] [.p c1 0,.b true] (.inl ⟨c1,ka,kb,kc,kd,ke,kf,L2,_,rfl,rfl,(by first|exact True.intro|exact ⟨Zd,by rw [show k0=j by omega];exact QX,by omega,hll⟩)⟩) (lr _))))
 refine Z0 2 (ib (b:=(!Ks n)) 13 (fun Zy=>?_) (fun Zy=>?_))
 ·exact Z0 8 (ZZ (wk [0] (Zj true Zy fl)) hj1)
 exact ZB 3 [0] (iw (TW n.routines) (ia (((n.routines.length:Int)-1)) (((n.routines.length:Int))-(1)) (Zw [] (V6 (f0:Int) 0 ((n.routines.length:Int)-1)) (Z0 2 (ZZ (wk [0] (Zj (!(decide (0<=(f0:Int)/\(f0:Int)<=((n.routines.length:Int)-1)))) Zy fl)) hj1)))))
theorem PE (b:Z7) (i0:Nat) (s:Z5) (hi:i0<=b.steps.length:=by exact ob) (hz:b.sz<=100000000:=by exact ob):Zm 179 [Ym b,.i i0,X3 s] [] (Yt (Ym (Z7.mk (WJ b.steps i0 s) b.result))):=by
 have Yd:=Ux b
 exact ZD 26 Tryz.func179 (ar (iA (XW b) fun b1=>iA (W7 s) fun b2=>iA [nl,.i 0] fun b3=>ie (ar (iL (ZQ []) 0 5 fun v1=>ZB 3 [3] (Zp (AO (es:=ZQ b.steps) (hv:=none) (l:=0) (m:=(i0:Int)) (sz:=5) (es':=ZQ (b.steps.take i0)) kr om (by simp<;>omega) (by simp<;>omega) (XD _) (by first|(simp only [T0,U7,B8,B7];done)|(simp only [T0,U7,B8,B7];rfl)|(simp [B8,B7];done))) (ip 0 (ZQ (b.steps.take i0)) (ZQ []) (ZQ (b.steps.take i0)) v1 none 5 (XD _) (XD _) (Uk _) (by simp<;>omega) (by simp [U4]) fun v2=>Z1 (aD 13 (ZV 8 13 [0,1,4,5,6] [2,3] (dx 7 (AO (es:=ZQ b.steps) (hv:=none) (l:=(i0:Int)) (m:=(((ZQ b.steps).length:Nat):Int)) (sz:=5) (es':=ZQ (b.steps.drop i0)) kr om (by simp<;>omega) (by simp<;>omega) (XD _) (by first|(simp only [T0,U7,B8,B7];done)|(simp only [T0,U7,B8,B7];rfl)|(simp [B8,B7];done))) (ZV 5 7 [9,10] [3] (Z8 2 (dL 2 [2,2] [b1,b1] [X3 s] 1 5 fun v3=>Yy 4 4 [] [(16,.sl [X3 s] none)] (Z8 3 (dp 3 1 [2,2] [b1,b1] (ZQ ((b.steps.take i0)++[s])) (ZQ (b.steps.take i0)) [X3 s] v2 none 5 (XD _) (JN rfl) rfl (by simp<;>omega) (by simp [Vt,U4]) fun v4=>Z8 8 (dp 8 0 [2] [b1] (ZQ (WJ b.steps i0 s)) (ZQ ((b.steps.take i0)++[s])) (ZQ (b.steps.drop i0)) v4 none 5 (XD _) (XD _) (Uk _) (by simp<;>omega) (by simp only [WJ,Vt]) fun v5=>Zo 1 2 [11] (Z8 12 (X5 12 2 [] [] b3 [Xe (WJ b.steps i0 s) v5,.i b.result] (de (Yc (r3 [] [.agg [Xe (WJ b.steps i0 s) v5,.i b.result]] [0] [(b3,b3)] ⟨rfl,rfl⟩ (Zl.agg (.cons (Zl.sl _ (Yn ZQ rfl)) (.cons li .nil)))))))))))))))))))))))
theorem Za2 (n:ZF) (f0:Nat) (b:Z7) (rt:Yz) (hr:n.routines[f0]? = some rt) (hl:n.routines.length<=1000000) (hp:rt.params.length<=4294967296) (hl2:rt.lent.length<=4294967296):Zm 181 [YC n,.i f0,Ym b] [] (fun r h=>∃(g:Nat) (c:Nat),r=.agg [Yu n.decls,.ms g 0 n.routines.length c]/\h=[.row (.slice (some ⟨g,0,none⟩) n.routines.length c) 5 (Zu (X8 (n.routines.set f0 (Yz.mk rt.params rt.lent rt.result b))))]):=by
 have hfl:=(Xu.1 hr).1
 refine ZD 26 Tryz.func181 (ar (iA (X7 n) fun b1=>iA (XW b) fun b2=>iA [nl,nl] fun b3=>ie (ar (LS 5 fun g1=>ZB 2 [3] (iKC 0 g1 5 (X8 n.routines) none (T8 _) (by simp<;>omega) fun v1=>Za8 0 n.routines.length (v:=v1) (Ph _) om (fun g2 c1 he1=>?_))))))
 subst he1
 exact Z1 (aD 11 (ZV 6 11 [0,1,2,3,4] [3] (dx 5 (Ze none (f0:Int) 5 (VJ hr)) (ZV 3 5 [6,7] [2] (Z8 8 (YD 8 [] [] [] (Ec rt b) (dx 9 (Vk g2 n.routines.length c1 f0 5 (f0:Int)) (Z8 10 (EA 10 0 [] [] g2 n.routines.length c1 5 (f0*5) (JL (Yz.mk rt.params rt.lent rt.result b)) (Zu (X8 n.routines)) (Zu (X8 (n.routines.set f0 (Yz.mk rt.params rt.lent rt.result b)))) (by rw [Ph];simp only [Ys,YF];omega) (Z85 (Yz.mk rt.params rt.lent rt.result b) hfl) (de (Zq 4 [3] (ZG 1 b3 [Yu n.decls,.ms g2 0 n.routines.length c1] (ie (Yc (r3 [1] [.agg [Yu n.decls,.ms g2 0 n.routines.length c1]] [0] [(b3,b3)] ⟨g2,c1,rfl,rfl⟩ (lr _))))))))))))))))
theorem Za1 (n:ZF) (f0:Nat) (b:Z7) (rt:Yz) (hr:n.routines[f0]? = some rt:=by exact ob) (hl:n.routines.length<=1000000:=by exact ob) (hp:rt.params.length<=4294967296:=by exact ob) (hl2:rt.lent.length<=4294967296:=by exact ob):Zm 181 [YC n,.i f0,Ym b] [] (Yt (YC (withR n f0 rt b))):=(V1.frzN (ds:=n.decls) (rs:=(n.routines.set f0 (Yz.mk rt.params rt.lent rt.result b))) (hs:=[]) ((Za2 n f0 b rt hr hl hp hl2).mono fun r h ⟨g,c,e1,e2⟩=>⟨g,c,by rw [e1];simp only [TM],by rw [e2];simp only [TM]⟩))
theorem EP (rd:Nat) (bs:LI) (p:Nat) (mx:Nat) (Yd:∀z∈bs,0<=z/\z<=255) (hp:p+1<=1000000000:=by exact ob) (hmx:0<mx:=by exact ob):Zm 27 [.p rd 0,.i mx] [YU rd bs p] (fun r h=>∃(kn:Nat),r=.i kn/\h=[.obj rd [Uv bs,.i (p+1:Nat)]]/\kn<mx):=(V3 rd bs p mx Yd hp).mono fun r h ⟨z,hr,hh,hz⟩=>by
  have h0:=hz.lt om
  exact ⟨z.toNat,by rw [hr,Int.toNat_of_nonneg h0.1],hh,by omega⟩
theorem Pz (rd:Nat) (bs:LI) (p:Nat) (n:ZF) (Yd:∀z∈bs,0<=z/\z<=255) (hp:p+4<=1000000000:=by exact ob) (hz:A4 n:=by exact ob) (hl1:1<=n.routines.length/\n.routines.length<=1000000:=by exact ob):Zm 118 [.p rd 0,YC n] [YU rd bs p] (fun r h=>∃(n2:ZF) (p2:Nat),r=YC n2/\h=[YU rd bs p2]/\Gd n n2/\p<=p2/\p2<=p+4):=by
 refine ZD 102 Tryz.func118 (ar (iA (X7 n) fun b1=>iA [nl,nl] fun b2=>ie (Zq 3 [1] (iw (TW n.routines) (ic [2] (EP rd bs p n.routines.length (Yd:=ob)) ?_)))))
 rintro _ _ ⟨Um,rfl,rfl,ZT⟩
 refine Z1 (Zq 3 [2] ?_)
 obtain ⟨x1,Z3⟩:=Zt n.routines Um om
 have hrm:=Y4 Z3
 have hbz:=hz.body _ hrm
 have Yd:=Ux (x1).body
 have hpl:=hz.params _ hrm
 have hll:=hz.lent _ hrm
 have hrx:=Z3
 refine Zp (Ze none (Um:Int) 5 (VJ Z3)) (Z0 2 (iA [nl,.i 0] fun b3=>ZG 0 b3 (XW x1.body) (ie (Zq 3 [0] (iw (UA x1.body.steps) (ia (((x1.body.steps.length+1:Nat):Int)) (((x1.body.steps.length:Int))+(1)) (ic [1] (EP rd bs (p+1) (x1.body.steps.length+1) (Yd:=ob)) ?_)))))))
 rintro _ _ ⟨Ve,rfl,rfl,Yg⟩
 refine Z1 (Zq 3 [3] (ic [] (Z9a n Um Ve x1 (hr:=hrx)) ?_))
 rintro _ _ (⟨c1,wa1,wb1,wc1,wd1,we1,wf1,L1,q1,rfl,rfl,YJ⟩|⟨rfl,rfl,YQ⟩)
 ·obtain ⟨hLO,hLv,hLb,hLl⟩:=YJ
  have hLn:=hLO.len
  obtain ⟨e1,e2,e3,e4,e5⟩:=hLO.len
  refine Z1 (Y5 (VP (ak (ar (iL (Z6 []) 0 1 fun v1=>?_)))))
  refine Z1 (Y5 (ab 0 (Y1 (fun fz gz m F h=>∃(k:Nat) (vl:LI) (u:Value),(k<=L1.vars.length)/\(vl.length<=k)/\(∀v∈vl,0<=v/\v<(L1.vars.length:Int))/\F=sF [0,3,4,5,6,7,8] fz [(10,Y6 vl u),(11,.i k)]/\h=[Zi gz 1,Zi gz 2,Zi gz 3,Zi gz 4,Zi gz 5,Zi gz 6,Zi gz 7,Zi gz 8,Zi gz 9,Zi gz 10,Zi gz 11,.tail u 1]/\m=L1.vars.length-k) _ _ _ ⟨0,[],v1,ob,ob,(fun v hv=>by cases hv),rfl,rfl,rfl⟩ (wk [1,1,1,1,1,1,1,1,1,1,1,0] (fr (Ya fl))) ?_)))
  rintro m F h ⟨k,vl,u,Yi,Zd,Zz,rfl,rfl,rfl⟩
  refine Yq 5 [0] (Zp (I7 1 wa1 L1.vars) (Y3 ((k:Int)<(L1.vars.length:Int)) (fun Z9=>?_) (fun Z9=>?_)))
  ·refine ak (aq (ab 1 (Zq 5 [0] (Zp (Ue 1 wa1 L1.vars (k:Int) k) ?_))))
   obtain ⟨x2,Zv⟩:=Zt L1.vars k om
   refine Ut (Qz 1 wa1 L1.vars k x2 Zv) (Z0 2 (ib (b:=(x2 != 0)) 59 (fun Zb=>?_) (fun Zb=>?_)))
   ·refine Z0 2 (Zw [0,0,0,0,0,0,0] (Hl c1 wa1 wb1 wc1 wd1 we1 wf1 L1 x1.lent (k:Int) (hlk:=hLO.len) (hd:=hLO.down)) (YS (T3 L1 x1.lent (k:Int)) Iff.rfl (fun Zh=>?_) (fun Zh=>?_)))
    ·exact az (Z0 2 (iL (Z6 [(k:Int)]) 1 1 fun v2=>Y0 0 [(66,Z4 [(k:Int)])] (ip 12 (Z6 (vl++[(k:Int)])) (Z6 vl) (Z6 [(k:Int)]) u none 1 (YG _) (YG _) (XT _) (by simp<;>omega) (by simp [XX,Z6]) fun v3=>Z1 (az (Z0 1 (ZC k (Z1 (ZE ⟨k+1,(vl++[(k:Int)]),v3,ob,ob,(by first|exact Zz|exact XC Zz om),rfl,rfl,rfl⟩ (wk [2,2,2,2,2,2,2,2,2,2,2,0] (fr (ZI k fl)))))))))))
    exact ak (az (Z0 1 (ZC k (Z1 (ZE ⟨k+1,vl,u,ob,ob,(by first|exact Zz|exact XC Zz om),rfl,rfl,rfl⟩ (Zs 12 (fr (ZI k fl))))))))
   exact Z1 (VP (ak (az (Z0 1 (ZC k (Z1 (ZE ⟨k+1,vl,u,ob,ob,(by first|exact Zz|exact XC Zz om),rfl,rfl,rfl⟩ (Zs 12 (fr (ZI k fl))))))))))
  refine ax 0 (YR 1 (iw (Y9 vl) (YS ((vl.length:Int)==0) Zg (fun ZA=>?_) (fun ZA=>?_))))
  ·exact Zq 1 [10] (ZG 9 b2 (X7 n) (ie (Yc (r3 [8] [YC n] [0] [(b2,b2)] ⟨n,(p+1)+1,rfl,rfl,(by first|exact ⟨.inl rfl,by omega,by omega⟩|(have hv:=Zz x3 (Y4 YN);exact ⟨.inr ⟨Um,x1,Ve,Ve+Qt,x3,hrx,by omega,by omega,hv.1,by omega,rfl⟩,by omega,by omega⟩))⟩ (lr _)))))
  refine ak (ZX 3 (iw (Y9 vl) (ic [7] (EP rd bs ((p+1)+1) vl.length (Yd:=ob)) ?_)))
  rintro _ _ ⟨Rv,rfl,rfl,Wx⟩
  obtain ⟨x3,YN⟩:=Zt vl Rv om
  refine Zp (Ze (some u) (Rv:Int) 1 (Y7 YN)) (Z1 (Zq 4 [8] (iw (UA x1.body.steps) (Z0 1 (ia ((((x1.body.steps.length-Ve):Nat):Int)) (((x1.body.steps.length:Int))-((Ve:Int))) (ia ((((x1.body.steps.length-Ve)+1:Nat):Int)) (((((x1.body.steps.length-Ve):Nat):Int))+(1)) (ic [0] (EP rd bs (((p+1)+1)+1) ((x1.body.steps.length-Ve)+1) (Yd:=ob)) ?_)))))))
  rintro _ _ ⟨Qt,rfl,rfl,WZ⟩
  exact ia (((Ve+Qt:Nat):Int)) (((Ve:Int))+((Qt:Int))) (Z1 (aD 6 (ZV 3 6 [0,1,2] [8] (Z8 3 (YD 3 [] [2] [b3] (Ch 15 x3) (Z8 4 (YD 4 [] [] [] (PE x1.body (Ve+Qt) (Zx 15 x3) (hi:=(by first|omega|(show Ve<=(WJ _ _ _).length;rw [Sx om];omega))) (hz:=(by first|omega|(rw [Z7.sz,HE];have e:(Zx 15 x3).sz=2:=rfl;have e2:=x1.body.sz_eq;omega)))) (Z8 5 (X5 5 8 [] [] b3 (XW (Z7.mk (WJ x1.body.steps (Ve+Qt) (Zx 15 x3)) x1.body.result)) (de (aD 9 (ZV 4 9 [0,1,2,3,4] [10,0] (Z8 5 (YD 5 [] [0,4] [b3,b1] (Ch 14 x3) (Z8 6 (YD 6 [] [4] [b1] (PE (Z7.mk (WJ x1.body.steps (Ve+Qt) (Zx 15 x3)) x1.body.result) Ve (Zx 14 x3) (hi:=(by first|omega|(show Ve<=(WJ _ _ _).length;rw [Sx om];omega))) (hz:=(by first|omega|(rw [Z7.sz,HE];have e:(Zx 15 x3).sz=2:=rfl;have e2:=x1.body.sz_eq;omega)))) (Z8 7 (YD 7 [] [] [] (Za1 n Um (Z7.mk (WJ (Z7.mk (WJ x1.body.steps (Ve+Qt) (Zx 15 x3)) x1.body.result).steps Ve (Zx 14 x3)) (Z7.mk (WJ x1.body.steps (Ve+Qt) (Zx 15 x3)) x1.body.result).result) x1 (hr:=hrx)) (Z8 8 (X5 8 9 [] [] b2 (X7 (withR n Um x1 (Z7.mk (WJ (Z7.mk (WJ x1.body.steps (Ve+Qt) (Zx 15 x3)) x1.body.result).steps Ve (Zx 14 x3)) (Z7.mk (WJ x1.body.steps (Ve+Qt) (Zx 15 x3)) x1.body.result).result))) (de (Yc (r3 [2] [YC (withR n Um x1 (Z7.mk (WJ (Z7.mk (WJ x1.body.steps (Ve+Qt) (Zx 15 x3)) x1.body.result).steps Ve (Zx 14 x3)) (Z7.mk (WJ x1.body.steps (Ve+Qt) (Zx 15 x3)) x1.body.result).result))] [0] [(b2,b2)] ⟨(withR n Um x1 (Z7.mk (WJ (Z7.mk (WJ x1.body.steps (Ve+Qt) (Zx 15 x3)) x1.body.result).steps Ve (Zx 14 x3)) (Z7.mk (WJ x1.body.steps (Ve+Qt) (Zx 15 x3)) x1.body.result).result)),(((p+1)+1)+1)+1,rfl,rfl,(by first|exact ⟨.inl rfl,by omega,by omega⟩|(have hv:=Zz x3 (Y4 YN);exact ⟨.inr ⟨Um,x1,Ve,Ve+Qt,x3,hrx,by omega,by omega,hv.1,by omega,rfl⟩,by omega,by omega⟩))⟩ (lr _))))))))))))))))))))))))
 exact Z1 (Y5 (Vq (Zq 1 [3] (ZG 2 b2 (X7 n) (ie (Yc (r3 [1] [YC n] [0] [(b2,b2)] ⟨n,(p+1)+1,rfl,rfl,(by first|exact ⟨.inl rfl,by omega,by omega⟩|(have hv:=Zz x3 (Y4 YN);exact ⟨.inr ⟨Um,x1,Ve,Ve+Qt,x3,hrx,by omega,by omega,hv.1,by omega,rfl⟩,by omega,by omega⟩))⟩ (lr _))))))))
theorem Zh2 (b:Z7) (hz:b.sz<=1000000000:=by exact ob):Zm 274 [Ym b] [] (Yt (.i (((XJ b.steps):Nat):Int))):=by
 have hbz:=Ux b
 refine ZD 20 Tryz.func274 (ar (iA (XW b) fun b1=>?_))
 refine Z1 (ZY (aq (ab 0 (Y1 (fun fz gz m F h=>∃(k:Nat),(k<=b.steps.length)/\(k+XJ (b.steps.drop k)=XJ b.steps)/\F=sF [1] fz [(3,.i k)]/\h=gz/\m=b.steps.length-k) _ _ _ ⟨0,ob,(by simp),rfl,rfl,rfl⟩ (wk [0] (Ya fl)) ?_))))
 rintro m F h ⟨k,Yi,Zd,rfl,rfl,rfl⟩
 refine Yq 3 [0] (iw (UA b.steps) (Z0 2 (ib (b:=(decide ((k:Int)<(b.steps.length:Int)))) 9 (fun Zb=>?_) (fun Zb=>?_))))
 ·have ZT:(k:Int)<(b.steps.length:Int):=(dq).1 Zb
  refine ZB 3 [0] ?_
  obtain ⟨x1,Z3⟩:=Zt b.steps k om
  refine Zp (Ze none (k:Int) 5 (V9 Z3)) (Z0 1 (Zw [] (Z1n x1) (YS ((x1.op==14)||(x1.op==15)) (p:=(x1.op=14)∨(x1.op=15)) (ZJ Zg Zg) (fun Z9=>?_) (fun Z9=>?_))))
  ·exact ak (ab 1 (az (Z0 1 (ZC k (Z1 (ZE ⟨k+1,ob,(Zfk Z3 Z9 Zd),rfl,rfl,rfl⟩ (wk [0] (ZI k fl))))))))
  exact ax 0 (ar (Zk (ZP (.i k) (li (by have:=Zfl Z3 Z9 Zd;omega)))))
 have Yg:¬((k:Int)<(b.steps.length:Int)):=Y2 dq Zb
 exact Z1 (VP (ax 0 (ar (Zk (ZP (.i k) (li (by have:=Zfj om Zd;omega)))))))
theorem Z1h (b:Z7) (mm:Nat) (op:Int) (hm:mm<=b.steps.length:=by exact ob) (ha:∀s∈b.steps.take mm,s.op=op->∃a,s.args=[a]) (hz:b.sz<=1000000000:=by exact ob):Zm 275 [Ym b,.i mm,.i op] [] (fun r h=>∃(v:Value),r=Y6 (Wm op (b.steps.take mm)) v/\h=[.tail v 1]):=by
 have hbz:=Ux b
 refine ZD 35 Tryz.func275 (ar (iA (XW b) fun b1=>Z1 (ar (iL (Z6 []) 0 1 fun v1=>?_))))
 refine Z1 (Y5 (ab 0 (Y1 (fun fz gz m F h=>∃(k:Nat) (acc:LI) (v:Value),(k<=mm)/\(acc.length<=k)/\(acc++Wm op ((b.steps.take mm).drop k)=Wm op (b.steps.take mm))/\F=sF [1,2,3] fz [(7,Y6 acc v),(8,.i k)]/\h=[Zi gz 1,.tail v 1]/\m=mm-k) _ _ _ ⟨0,[],v1,ob,ob,(by simp),rfl,rfl,rfl⟩ (wk [1,0] (fr (Ya fl))) ?_)))
 rintro m F h ⟨k,acc,v,Yi,Zd,Zz,rfl,rfl,rfl⟩
 refine X6 (Y3 ((k:Int)<(mm:Int)) (fun Z9=>?_) (fun Z9=>?_))
 ·refine ak (aq (ab 1 (Zq 3 [0] ?_)))
  obtain ⟨x1,Z3⟩:=Zt b.steps k om
  have hxt:(b.steps.take mm)[k]? = some x1:=by rw [List.getElem?_take_of_lt om];exact Z3
  have hxm:=Y4 hxt
  refine Zp (Ze none (k:Int) 5 (V9 Z3)) (YS (x1.op==op) Zg (fun Zh=>?_) (fun Zh=>?_))
  ·refine az (ZB 4 [0] (Zp (Ze none (k:Int) 5 (V9 Z3)) (Z0 2 ?_)))
   obtain ⟨x2,Zv⟩:=Zt x1.args 0 (by obtain ⟨a,ha2⟩:=ha x1 hxm Zh;rw [ha2];simp)
   have hg0:=KC Zv
   exact Zp (Ze none 0 1 (Y7 Zv)) (Z0 1 (iL (Z6 [x2]) 1 1 fun v2=>Y0 0 [(32,Z4 [x2])] (ip 2 (Z6 (acc++[x2])) (Z6 acc) (Z6 [x2]) v none 1 (YG _) (YG _) (XT _) (by simp<;>omega) (by simp [XX,Z6]) fun v3=>Z1 (az (Z0 1 (ZC k (Z1 (ZE ⟨k+1,(acc++[x2]),v3,ob,(by simp;omega),(by have h:=Z42 hxt Zh Zz;rw [hg0] at h;exact h),rfl,rfl,rfl⟩ (wk [2,0] (fr (ZI k fl)))))))))))
  exact ak (az (Z0 1 (ZC k (Z1 (ZE ⟨k+1,acc,v,ob,ob,(Z41 hxt Zh Zz),rfl,rfl,rfl⟩ (wk [0,0] (fr (ZI k fl))))))))
 exact ax 0 (ar (Zk (r2 [1] [Y6 acc v] ⟨v,rfl,rfl⟩ (Zl.slh _ (Yn Z6 (Z40 (by rw [Vc];omega) Zz))))))
theorem Z1y (xs:LI) (y:Int) (hl:xs.length<=1000000000:=by exact ob):Zm 276 [Z4 xs,.i y] [] (fun r h=>∃(v:Value),r=Y6 (xs.erase y) v/\h=[.tail v 1]):=by
 refine ZD 33 Tryz.func276 (ZY (ar (iL (Z6 []) 0 1 fun v1=>?_)))
 refine Z1 (ZY (Y5 (ab 0 (Y1 (fun fz gz m F h=>∃(k:Nat) (acc:LI) (d:Bool) (v:Value),(k<=xs.length)/\(acc.length<=k)/\(acc++(if d=true then xs.drop k else (xs.drop k).erase y)=xs.erase y)/\F=sF [0,1] fz [(5,Y6 acc v),(6,.b d),(7,.i k)]/\h=[.tail v 1]/\m=xs.length-k) _ _ _ ⟨0,[],false,v1,ob,ob,(by simp),rfl,rfl,rfl⟩ (wk [0] (fw (Ya fl))) ?_))))
 rintro m F h ⟨k,acc,d,v,Yi,Zd,Zz,rfl,rfl,rfl⟩
 refine YR 2 (iw (Y9 xs) (Y3 ((k:Int)<(xs.length:Int)) (fun Z9=>?_) (fun Z9=>?_)))
 ·refine ak (aq (ab 1 (ZX 2 ?_)))
  obtain ⟨x1,Z3⟩:=Zt xs k om
  refine Zp (Ze none (k:Int) 1 (Y7 Z3)) (Xi [0,1,5,6,7] [(24,.b ((x1==y)&&(!d)))] (fun gz=>gz) ?_ ?_)
  ·refine Z0 4 (ib (b:=(x1==y)) 21 (fun Zb=>?_) (fun Zb=>?_))
   ·exact Z1 (wk [0] (Zj (!d) Zb fl))
   exact Z1 (wk [0] (Zj false Zb fl))
  refine BL (fun fz gz F h=>∃(w:Value),F=sF [0,1,7] fz [(5,Y6 (if (x1=y)/\(¬(d=true)) then acc else (acc++[x1])) w),(6,.b (((x1==y)&&(!d))||d))]/\h=[.tail w 1]) (fun _ _=>rfl) ?_ ?_
  ·refine ac ((x1==y)&&(!d)) (p:=(x1=y)/\(¬(d=true))) (Yo Zg (Y8 Iff.rfl)) (fun Zh=>?_) (fun Zh=>?_)
   ·exact Vv (ZM ⟨v,rfl,rfl⟩ (wk [0] (fc (x:=Y6 acc v) (Zl.slh _ (Yn Z6 (by first|rfl|(rw [Zf Zh])|(rw [Za Zh])|(simp [Zh];done)|(rw [Ye];simp [Zh];done)|omega))) (fc (x:=.b true) (lb (by first|rfl|(rw [Zf Zh])|(rw [Za Zh])|(simp [Zh];done)|(rw [Ye];simp [Zh];done)|omega)) fl))))
   exact az (Z0 3 (Zp (Ze none (k:Int) 1 (Y7 Z3)) (Z0 1 (iL (Z6 [x1]) 1 1 fun v2=>Y0 0 [(30,Z4 [x1])] (ip 1 (Z6 (acc++[x1])) (Z6 acc) (Z6 [x1]) v none 1 (YG _) (YG _) (XT _) (by simp<;>omega) (by simp [XX,Z6]) fun v3=>Z1 (ZM ⟨v3,rfl,rfl⟩ (wk [0] (fc (x:=Y6 (acc++[x1]) v3) (Zl.slh _ (Yn Z6 (by first|rfl|(rw [Zf Zh])|(rw [Za Zh])|(simp [Zh];done)|(rw [Ye];simp [Zh];done)|omega))) (fc (x:=.b d) (lb (by cases d<;>simp_all)) fl)))))))))
  rintro F h ⟨w,rfl,rfl⟩
  exact az (Z0 1 (ZC k (Z1 (ZE ⟨k+1,(if (x1=y)/\(¬(d=true)) then acc else (acc++[x1])),(((x1==y)&&(!d))||d),w,ob,(by split<;>(try simp)<;>omega),(Z6o Z3 Zz),rfl,rfl,rfl⟩ (wk [0] (fw (ZI k fl)))))))
 exact ax 0 (ar (Zk (r2 [0] [Y6 acc v] ⟨v,rfl,rfl⟩ (Zl.slh _ (Yn Z6 (Z6n om Zz))))))
theorem Zgt (b:Z7) (x:Int) (fs:LI) (q:Nat) (ha:∀s∈b.steps,YM s.op=true->∃a,s.args=[a]) (hf:fs.length<=3:=by exact ob) (hq:q<=1000000000:=by exact ob) (hz:b.sz<=900000000:=by exact ob):Zm 227 [Ym b,.i x,Z4 fs,.i q] [] (Yt (Ym (Kv b x fs q))):=by
 have hbz:=Ux b
 have hrl:=HL b.steps
 have hal:=IC (b.steps.take (XJ b.steps))
 rw [Vc] at hal
 have her:=List.length_erase_le (a:=x) (l:=Wm 15 (b.steps.take (XJ b.steps)))
 have har:∀op:Int,YM op=true->∀s∈b.steps.take (XJ b.steps),s.op=op->∃a,s.args=[a]:=fun op ho s hs e=>ha s (QA hs) (by rw [e];exact ho)
 refine ZD 88 Tryz.func227 (ar (iA (XW b) fun b1=>iA [nl,.i 0] fun b2=>ie (Zq 1 [1] (Zw [] (Zh2 b) (Z1 (Zq 2 [1] (ic [] (Z1h b (XJ b.steps) 14 (ha:=(har _ rfl))) ?_)))))))
 rintro _ _ ⟨v1,rfl,rfl⟩
 refine Z1 (Zq 2 [2] (ic [] (Z1h b (XJ b.steps) 15 (ha:=(har _ rfl))) ?_))
 rintro _ _ ⟨v2,rfl,rfl⟩
 refine Z1 (X6 (Y0 2 [(22,Z4 (Wm 15 (b.steps.take (XJ b.steps))))] (Zw [] (UK (Wm 15 (b.steps.take (XJ b.steps))) x) (Xi [1,2,3,4,8,9,10,11] [(30,.b ((!(decide (x∈(Wm 15 (b.steps.take (XJ b.steps))))))||((fs.length:Int)==0)))] (fun gz=>gz) ?_ ?_))))
 ·refine Z0 2 (ib (b:=(!(decide (x∈(Wm 15 (b.steps.take (XJ b.steps))))))) 26 (fun Zb=>?_) (fun Zb=>?_))
  ·exact Z1 (Zs 4 (Zj true Zb fl))
  exact Z0 1 (iw (Y9 fs) (Z1 (Zs 4 (Zj ((fs.length:Int)==0) Zb fl))))
 refine ac ((!(decide (x∈(Wm 15 (b.steps.take (XJ b.steps))))))||((fs.length:Int)==0)) (p:=(¬(x∈(Wm 15 (b.steps.take (XJ b.steps)))))∨((fs.length:Int)=0)) (ZJ (Y8 dq) Zg) (fun Z9=>?_) (fun Z9=>?_)
 ·exact Zq 1 [3] (ZG 2 b2 (XW b) (ie (Yc (r3 [] [Ym b] [0] [(b2,b2)] ⟨rfl,rfl⟩ (Zl.agg (.cons (Zl.sl _ (Yn ZQ (Z3r (fun z=>Z9.elim (fun e=>e z.1) (fun e=>z.2 om))).symm)) (.cons li .nil)))))))
 refine ak (ar (Y0 2 [(32,Z4 (Wm 15 (b.steps.take (XJ b.steps))))] (ic [] (Z1y (Wm 15 (b.steps.take (XJ b.steps))) x) ?_)))
 rintro _ _ ⟨v3,rfl,rfl⟩
 refine Z1 (Y5 (ab 0 (Y1 (fun fz gz m F h=>∃(k:Nat) (D:LI) (R:LI) (v:Value),(k<=fs.length)/\(D.length<=b.steps.length)/\(R.length<=b.steps.length+k)/\(Un (fs.drop k) (q+k) D R=Jb b.steps x fs q)/\F=sF [1,2,3,4,8,9] fz [(10,Z4 D),(11,Y6 R v),(12,.i k)]/\h=[Zi gz 3,Zi gz 4,.tail v 1]/\m=fs.length-k) _ _ _ ⟨0,(Wm 14 (b.steps.take (XJ b.steps))),((Wm 15 (b.steps.take (XJ b.steps))).erase x),v3,ob,om,om,(by simp [Jb]),rfl,rfl,rfl⟩ (wk [3,3,0] (fc (x:=Y6 (Wm 14 (b.steps.take (XJ b.steps))) v1) (Zl.forget _ _) (fr (Ya fl)))) ?_)))
 rintro m F h ⟨k,D,R,v,Yi,Zd,Zz,YA,rfl,rfl,rfl⟩
 refine YR 2 (iw (Y9 fs) (Y3 ((k:Int)<(fs.length:Int)) (fun Zh=>?_) (fun Zh=>?_)))
 ·refine ak (aq (ab 1 (ZX 2 ?_)))
  obtain ⟨x1,Z3⟩:=Zt fs k om
  refine Zp (Ze none (k:Int) 1 (Y7 Z3)) (Xi [1,2,3,4,8,9,10,11,12] [(52,.b ((x1 != 0)&&(decide (((q+k:Nat):Int)∈D))))] (fun gz=>gz) ?_ ?_)
  ·refine Z0 3 (ib (b:=(x1 != 0)) 46 (fun Zy=>?_) (fun Zy=>?_))
   ·exact Z0 3 (ia (((q+k:Nat):Int)) (((q:Int))+((k:Int))) (Zw [] (UK D ((q+k:Nat):Int)) (Z1 (Zs 3 (Zj (decide (((q+k:Nat):Int)∈D)) Zy fl)))))
   exact Z1 (Zs 3 (Zj false Zy fl))
  refine BL (fun fz gz F h=>∃(D2:LI) (R2:LI) (w:Value),(Un (fs.drop (k+1)) (q+((k+1:Nat):Int)) D2 R2=Jb b.steps x fs q)/\(D2.length<=b.steps.length)/\(R2.length<=b.steps.length+(k+1))/\F=sF [1,2,3,4,8,9,12] fz [(10,Z4 D2),(11,Y6 R2 w)]/\h=[Zi gz 0,Zi gz 1,.tail w 1]) (fun _ _=>rfl) ?_ ?_
  ·refine ac ((x1 != 0)&&(decide (((q+k:Nat):Int)∈D))) (p:=(x1≠0)/\(((q+k:Nat):Int)∈D)) (Yo Yh dq) (fun ZA=>?_) (fun ZA=>?_)
   ·refine az (Z0 3 (ia (((q+k:Nat):Int)) (((q:Int))+((k:Int))) (ic [] (Z1y D ((q+k:Nat):Int)) ?_)))
    rintro _ _ ⟨v4,rfl,rfl⟩
    exact Z1 (ZM ⟨(D.erase ((q+k:Nat):Int)),R,v,(Zdl Z3 ZA.1 ZA.2 YA),(V7 List.length_erase_le Zd),ob,rfl,rfl⟩ (wk [1,1,1] fl))
   refine ZX 2 (Zp (Ze none (k:Int) 1 (Y7 Z3)) (YS (x1 != 0) Yh (fun Yk=>?_) (fun Yk=>?_)))
   ·exact az (Z0 3 (ia (((q+k:Nat):Int)) (((q:Int))+((k:Int))) (iL (Z6 [((q+k:Nat):Int)]) 1 1 fun v5=>Y0 0 [(67,Z4 [((q+k:Nat):Int)])] (ip 3 (Z6 (R++[((q+k:Nat):Int)])) (Z6 R) (Z6 [((q+k:Nat):Int)]) v none 1 (YG _) (YG _) (XT _) (by simp<;>omega) (by simp [XX,Z6]) fun v6=>Z1 (ZM ⟨D,(R++[((q+k:Nat):Int)]),v6,(Zdm Z3 Yk (fun z=>ZA ⟨Yk,z⟩) YA),ob,(by simp;omega),rfl,rfl⟩ (wk [2,2,0] fl))))))
   exact ak (ZM ⟨D,R,v,(Zdn Z3 Yk YA),ob,ob,rfl,rfl⟩ (Zs 3 fl))
  rintro F h ⟨D2,R2,w,F3,LY,DS,rfl,rfl⟩
  exact az (Z0 1 (ZC k (Z1 (ZE ⟨k+1,D2,R2,w,ob,ob,ob,ob,rfl,rfl,rfl⟩ (Zs 3 (fw (ZI k fl)))))))
 refine ax 0 (ZX 1 (ic [] (KN 14 D) ?_))
 rintro _ _ ⟨v7,rfl,rfl⟩
 refine Z0 1 (Zw [] (Ch 16 x) (iL [X3 (Zx 16 x)] 1 5 fun v8=>Y0 0 [(73,.sl [X3 (Zx 16 x)] none)] (ip 1 (ZQ ((D.map (Zx 14))++[Zx 16 x])) (ZQ (D.map (Zx 14))) [X3 (Zx 16 x)] v7 none 5 (XD _) (JN rfl) rfl (by simp<;>omega) (by simp [Vt,U4]) fun v9=>Z1 (ar (Y0 2 [(76,Z4 R)] (ic [] (KN 15 R) ?_))))))
 rintro _ _ ⟨v10,rfl,rfl⟩
 refine Y0 0 [(77,Vl (R.map (Zx 15)))] (ip 1 (ZQ (((D.map (Zx 14))++[Zx 16 x])++(R.map (Zx 15)))) (ZQ ((D.map (Zx 14))++[Zx 16 x])) (ZQ (R.map (Zx 15))) v9 none 5 (XD _) (XD _) (Uk _) (by simp<;>omega) (by simp [Vt,ZQ]) fun v11=>Z1 (aD 10 (ZV 6 10 [0,1,2,3] [4] (dx 4 (AO (es:=ZQ b.steps) (hv:=none) (l:=(((XJ b.steps):Nat):Int)) (m:=(((ZQ b.steps).length:Nat):Int)) (sz:=5) (es':=ZQ (b.steps.drop (XJ b.steps))) kr om (by simp<;>omega) (by simp<;>omega) (XD _) (by first|(simp only [T0,U7,B8,B7];done)|(simp only [T0,U7,B8,B7];rfl)|(simp [B8,B7];done))) (ZV 3 5 [6,7] [4] (Z8 5 (dp 5 0 [1] [b1] (ZQ ((((D.map (Zx 14))++[Zx 16 x])++(R.map (Zx 15)))++(b.steps.drop (XJ b.steps)))) (ZQ (((D.map (Zx 14))++[Zx 16 x])++(R.map (Zx 15)))) (ZQ (b.steps.drop (XJ b.steps))) v11 none 5 (XD _) (XD _) (Uk _) (by simp<;>omega) (by simp [Vt,ZQ]) fun v12=>Zo 1 2 [8] (Z8 9 (X5 9 3 [] [] b2 [Xe ((((D.map (Zx 14))++[Zx 16 x])++(R.map (Zx 15)))++(b.steps.drop (XJ b.steps))) v12,.i b.result] (de ?_))))))))))
 have hE:=Z3t (Vy.1 fun z=>Z9 (.inl z)) (fun z=>Z9 (.inr om)) (Zdk om YA)
 exact Yc (r3 [] [.agg [Xe ((((D.map (Zx 14))++[Zx 16 x])++(R.map (Zx 15)))++(b.steps.drop (XJ b.steps))) v12,.i b.result]] [0] [(b2,b2)] ⟨rfl,rfl⟩ (Zl.agg (.cons (Zl.sl _ (Yn ZQ hE)) (.cons li .nil))))
theorem Zh8 (n:ZF) (b:Z7) (mm:Nat) (hn:Xv n) (hw:wB n.decls b) (hb:mm+9*b.sz<=900000000) (ih:∀(b2:Z7) (m2:Nat),(wB n.decls b2)->(m2+9*b2.sz<=900000000)->(b2.sz<b.sz)->Zm 182 [YC n,Ym b2,.i m2] [] (Yt (Ym (WV n.decls m2 b2)))):Zm 182 [YC n,Ym b,.i mm] [] (Yt (Ym (WV n.decls mm b))):=by
 have Xp:=hn.decls
 have hbz:=Ux b
 have Yd:=(Jk b).1 hw
 refine ZD 107 Tryz.func182 (ar (iA (X7 n) fun b1=>iA (XW b) fun b2=>iA [nl,.i 0] fun b3=>ie (ar (iL (ZQ []) 0 5 fun v1=>ZB 3 [2] (iA [nl,.i 0] fun b4=>?_)))))
 refine ZG 0 b4 [Xe [] v1,.i b.result] (ie (Y5 (ab 0 (Y1 (fun fz gz m F h=>∃(k:Nat) (q:Nat) (xs:List Z5) (v:Value),(k<=b.steps.length)/\(q<=mm+k)/\(xs.length=k)/\(xs++VY n.decls q (b.steps.drop k)=VY n.decls mm b.steps)/\F=sF [3,4,6,7] fz [(2,.i q),(8,.i k)]/\h=[.obj b4 [Xe xs v,.i b.result],Zi gz 2,Zi gz 3,Zi gz 4,.tail v 5]/\m=b.steps.length-k) _ _ _ ⟨0,mm,[],v1,ob,ob,ob,rfl,rfl,rfl,rfl⟩ (wk [0,1,1,1,0] (fr (Ya fl))) ?_))))
 rintro m F h ⟨k,q,xs,v,Yi,Zd,Zz,YA,rfl,rfl,rfl⟩
 refine Yq 3 [2] (iw (UA b.steps) (Y3 ((k:Int)<(b.steps.length:Int)) (fun Z9=>?_) (fun Z9=>?_)))
 ·refine ak (aq (ab 1 (Zq 3 [2] ?_)))
  obtain ⟨x1,Z3⟩:=Zt b.steps k om
  have Xo:=Dc Z3
  have hws:=Z2p hw Z3
  have hkz:=K9 x1
  have haz:=Jv x1
  have hdf:=Zj9 hws
  refine Zp (Ze none (k:Int) 5 (V9 Z3)) (Z0 1 (iA [.i 0,.i 0,.i 0,nl,nl] fun b5=>ZG 0 b5 (W7 x1) (ie (ar (iL (XL []) 0 2 fun v2=>Z1 (Zq 4 [5,1] (ic [] (Je n.decls x1.num) ?_)))))))
  rintro _ _ ⟨v3,rfl,rfl⟩
  refine Z1 (Y5 (ab 2 (Y1 (fun fz gz m F h=>∃(j:Nat) (u:Value) (ks:List Z7),(j<=x1.kids.length)/\(ks.length=j)/\(ks++UJ n.decls q x1.op x1.num x1.args (x1.kids.drop j) j=UJ n.decls q x1.op x1.num x1.args x1.kids 0)/\F=sF [2,3,4,6,7,8,9,11] fz [(10,Qu ks u),(12,.i j)]/\h=[Zi gz 2,Zi gz 3,Zi gz 4,Zi gz 5,Zi gz 6,.tail u 2,Zi gz 7,Zi gz 0]/\m=x1.kids.length-j) _ _ _ ⟨0,v2,[],ob,ob,(by simp),rfl,rfl,rfl⟩ (wk [2,2,2,2,2,1,1,0] (fr (Ya fl))) ?_)))
  rintro m F h ⟨j,u,ks,VG,Xm,XN,rfl,rfl,rfl⟩
  refine Yq 3 [0] (iw (Kz x1.kids) (Y3 ((j:Int)<(x1.kids.length:Int)) (fun Zh=>?_) (fun Zh=>?_)))
  ·refine ak (aq (ab 3 (Bd [0] (ac (x1.op==8) Zg (fun ZA=>?_) (fun ZA=>?_)))))
   ·refine aD 8 (ZV 4 8 [0,1,2,3] [4] ?_)
    obtain ⟨x2,Zv⟩:=Zt (ZU n.decls x1.num) j (by have h:=(G0 hws (by assumption)).2;omega)
    have hfk:Wo n.decls x1.num j=ZO n.decls x2:=Ls (by rw [Jo,Zv];rfl)
    have hcf:=V8 Xp x2
    refine dx 4 (Ze (some v3) (j:Int) 1 (Y7 Zv)) (Zo 2 3 [5] (Z8 6 (YD 6 [] [] [] (Qy n.decls x2) (Zo 0 1 [7] (de (aE 22 (ZV 17 22 [0,1,2,3,4] [4,0] ?_)))))))
    obtain ⟨x3,YN⟩:=Zt x1.kids j om
    have hkb:=YN
    have hks:=Qs YN
    have hwk:=N7 hws YN
    have hpk:=Z7.pz_le x3
    refine dx 5 (Ze none (j:Int) 2 (UQ YN)) (Zo 13 16 [6,7,8] (dn 9 (.i (((ZO n.decls x2).length:Nat):Int)) (.i (((Z6 (ZO n.decls x2)).length:Nat):Int)) (li (by rw [Y9])) (da 10 (((q+((ZO n.decls x2).length):Nat):Int)) (((q:Int))+((((ZO n.decls x2).length:Nat):Int))) (ZV 9 11 [12,13] [0] ?_))))
    obtain ⟨x4,WS⟩:=Zt x1.args 0 (by obtain ⟨⟨a,ha2,_⟩,_⟩:=G0 hws (by assumption);rw [ha2];simp)
    have hg1:=KC WS
    exact dx 14 (Ze none 0 1 (Y7 WS)) (Zo 5 8 [15,16,17] (Z8 11 (YD 11 [] [0] [b5] (ih x3 (q+((ZO n.decls x2).length)) hwk ob ob) (Z8 18 (YD 18 [] [] [] (Zgt (WV n.decls (q+((ZO n.decls x2).length)) x3) x4 (ZO n.decls x2) q (ha:=(by rw [HR];exact Zg6 ((Jk _).1 hwk))) (hz:=(V7 (HS Xp _ hwk) om))) (Z8 19 (dL 19 [] [] [Ym (Kv (WV n.decls (q+((ZO n.decls x2).length)) x3) x4 (ZO n.decls x2) q)] 1 2 fun v4=>Yy 2 2 [] [(72,.sl [Ym (Kv (WV n.decls (q+((ZO n.decls x2).length)) x3) x4 (ZO n.decls x2) q)] none)] (Z8 20 (dp 20 6 [] [] (XL (ks++[Kv (WV n.decls (q+((ZO n.decls x2).length)) x3) x4 (ZO n.decls x2) q])) (XL ks) [Ym (Kv (WV n.decls (q+((ZO n.decls x2).length)) x3) x4 (ZO n.decls x2) q)] u none 2 (J0 _) (JN rfl) rfl (by simp<;>omega) (by simp [CD,K0]) fun v5=>Zo 0 1 [21] (de (az (Z0 1 (ZC j (Z1 (ZE ⟨j+1,v5,(ks++[Kv (WV n.decls (q+((ZO n.decls x2).length)) x3) x4 (ZO n.decls x2) q]),ob,(by simp;omega),(by have h:=Z1a hkb XN;rw [HT,Zf (by assumption),hfk,hg1] at h;exact h),rfl,rfl,rfl⟩ (wk [2,2,2,2,2,0,1,1] (fr (ZI j fl))))))))))))))))))
   refine aE 12 (ZV 7 12 [0,1,2,3,4] [4,0] ?_)
   obtain ⟨x5,Us⟩:=Zt x1.kids j om
   have hkb:=Us
   have hks:=Qs Us
   have hwk:=N7 hws Us
   have hpk:=Z7.pz_le x5
   exact dx 5 (Ze none (j:Int) 2 (UQ Us)) (Zo 4 6 [6,7] (Z8 8 (YD 8 [] [] [] (ih x5 q hwk ob ob) (Z8 9 (dL 9 [] [] [Ym (WV n.decls q x5)] 1 2 fun v6=>Yy 2 2 [] [(83,.sl [Ym (WV n.decls q x5)] none)] (Z8 10 (dp 10 6 [] [] (XL (ks++[WV n.decls q x5])) (XL ks) [Ym (WV n.decls q x5)] u none 2 (J0 _) (JN rfl) rfl (by simp<;>omega) (by simp [CD,K0]) fun v7=>Zo 0 1 [11] (de (az (Z0 1 (ZC j (Z1 (ZE ⟨j+1,v7,(ks++[WV n.decls q x5]),ob,(by simp;omega),(by have h:=Z1a hkb XN;rw [HT,Za (by assumption)] at h;exact h),rfl,rfl,rfl⟩ (wk [2,2,2,2,2,0,1,1] (fr (ZI j fl))))))))))))))))
  have hK:=Zg3 om XN
  refine ax 2 (aD 17 (ZV 6 17 [0,1,2,3,4,5,6,7,8,9,11] [1,0,0,0,0] (Z8 10 (dc 10 [] [0,0,0,1] [b5,b5,b5,b4] (Vf x1.args) ?_))))
  rintro _ _ ⟨v8,rfl,rfl⟩
  refine Yy 4 5 [12] [(97,.agg [.i x1.op,.i x1.num,.i x1.into,Z4 x1.args,JQ ks])] (Z8 13 (dL 13 [1] [b4] [X3 (Z5.mk x1.op x1.num x1.into x1.args ks)] 1 5 fun v9=>Yy 3 3 [] [(98,.sl [X3 (Z5.mk x1.op x1.num x1.into x1.args ks)] none)] (Z8 14 (dp 14 8 [] [] (ZQ (xs++[Z5.mk x1.op x1.num x1.into x1.args ks])) (ZQ xs) [X3 (Z5.mk x1.op x1.num x1.into x1.args ks)] v none 5 (XD _) (JN rfl) rfl (by simp<;>omega) (by simp [Vt,U4]) fun v10=>?_))))
  refine Zo 1 2 [15] (Z8 16 (X5 16 4 [] [] b4 [Xe (xs++[Z5.mk x1.op x1.num x1.into x1.args ks]) v10,.i b.result] (de (Zq 2 [4] (Zw [] (Ko x1.op) (ie (BL (fun fz gz F h=>F=sF [3,4,6,7,8] fz [(2,.i (((if YM x1.op=true then q else q+1):Nat):Int))]/\h=[Zi gz 0,Zi gz 5,Zi gz 6,Zi gz 7,Zi gz 1]) (fun _ _=>rfl) ?_ ?_)))))))
  ·refine ac (Xd x1.op) Iff.rfl (fun Yk=>?_) (fun Yk=>?_)
   ·exact az (Z0 1 (ZC q (Z1 (ZM ⟨rfl,rfl⟩ (wk [0,4,4,4,0] (fc (x:=.i (q+1:Nat)) (li (by rw [Za (fun z=>by rw [hdf,z] at Yk;cases Yk)])) fl))))))
   exact ak (ZM ⟨rfl,rfl⟩ (wk [0,4,4,4,0] (fc (x:=.i q) (li (by rw [Zf (AQ fun z=>Yk (by rw [hdf,Uy.2 z];rfl))])) fl)))
  rintro F h ⟨rfl,rfl⟩
  exact az (Z0 1 (ZC k (Z1 (ZE ⟨k+1,(if YM x1.op=true then q else q+1),(xs++[Z5.mk x1.op x1.num x1.into x1.args ks]),v10,ob,(by split<;>omega),(by simp;omega),(by have h:=Zg8 Z3 YA;rw [<-hK] at h;exact h),rfl,rfl,rfl⟩ (Zs 5 (fr (ZI k fl)))))))
 exact ax 0 (Zq 1 [0] (ZG 1 b3 [Xe xs v,.i b.result] (ie (Yc (r3 [] [.agg [Xe xs v,.i b.result]] [0] [(b3,b3)] ⟨rfl,rfl⟩ (Zl.agg (.cons (Zl.sl _ (Yn ZQ (by rw [HR];exact Zg7 om YA))) (.cons (li (by rw [HR];rfl)) .nil))))))))
theorem Zh6 (n:ZF) (hn:Xv n) (k:Nat):∀(b2:Z7) (m2:Nat),(wB n.decls b2)->(m2+9*b2.sz<=900000000)->(b2.sz<k)->Zm 182 [YC n,Ym b2,.i m2] [] (Yt (Ym (WV n.decls m2 b2))):=by
 induction k with
 | zero=>intro b mm _ _ h;omega
 | succ k ih=>intro b mm h1 h2 h3;exact Zh8 n b mm hn h1 h2 fun b2 m2 k1 k2 k3=>ih b2 m2 k1 k2 om
theorem Zh7 (n:ZF) (b:Z7) (mm:Nat) (hn:Xv n:=by exact ob) (hw:wB n.decls b:=by exact ob) (hb:mm+9*b.sz<=900000000:=by exact ob):Zm 182 [YC n,Ym b,.i mm] [] (Yt (Ym (WV n.decls mm b))):=Zh6 n hn (b.sz+1) b mm hw hb om
theorem MP (b:Z7) (hz:b.sz<=1000000000:=by exact ob):Zm 278 [Ym b] [] (Yt (.i (((YX b.steps):Nat):Int))):=by
 have hbz:=Ux b
 refine ZD 21 Tryz.func278 (ar (iA (XW b) fun b1=>?_))
 refine Z1 (ZY (aq (ab 0 (Y1 (fun fz gz m F h=>∃(k:Nat),(k<=b.steps.length)/\(k+YX (b.steps.drop k)=YX b.steps)/\F=sF [1] fz [(3,.i k)]/\h=gz/\m=b.steps.length-k) _ _ _ ⟨0,ob,(by simp),rfl,rfl,rfl⟩ (wk [0] (Ya fl)) ?_))))
 rintro m F h ⟨k,Yi,Zd,rfl,rfl,rfl⟩
 refine Yq 3 [0] (iw (UA b.steps) (Z0 2 (ib (b:=(decide ((k:Int)<(b.steps.length:Int)))) 9 (fun Zb=>?_) (fun Zb=>?_))))
 ·have ZT:(k:Int)<(b.steps.length:Int):=(dq).1 Zb
  refine ZB 3 [0] ?_
  obtain ⟨x1,Z3⟩:=Zt b.steps k om
  refine Zp (Ze none (k:Int) 5 (V9 Z3)) (Z0 2 (Zw [] (Z1m x1.op) (YS (YM x1.op) Iff.rfl (fun Z9=>?_) (fun Z9=>?_))))
  ·exact ak (ab 1 (az (Z0 1 (ZC k (Z1 (ZE ⟨k+1,ob,(Zc3 Z3 Z9 Zd),rfl,rfl,rfl⟩ (wk [0] (ZI k fl))))))))
  exact ax 0 (ar (Zk (ZP (.i k) (li (by have:=Zc4 Z3 Z9 Zd;omega)))))
 have Yg:¬((k:Int)<(b.steps.length:Int)):=Y2 dq Zb
 exact Z1 (VP (ax 0 (ar (Zk (ZP (.i k) (li (by have:=Zc2 om Zd;omega)))))))
theorem Z1s (b:Z7) (mm:Nat) (op:Int) (x:Int) (hm:mm<=b.steps.length:=by exact ob) (ha:∀s∈b.steps.take mm,s.op=op->∃a,s.args=[a]) (hz:b.sz<=1000000000:=by exact ob):Zm 279 [Ym b,.i mm,.i op,.i x] [] (Yt (.i (W6 op x (b.steps.take mm) 0))):=by
 have hbz:=Ux b
 refine ZD 36 Tryz.func279 (ar (iA (XW b) fun b1=>?_))
 refine Z1 (Y5 (ab 0 (Y1 (fun fz gz m F h=>∃(k:Nat),(k<=mm)/\(W6 op x ((b.steps.take mm).drop k) k=W6 op x (b.steps.take mm) 0)/\F=sF [1,2,3,4] fz [(9,.i k)]/\h=gz/\m=mm-k) _ _ _ ⟨0,ob,(by simp),rfl,rfl,rfl⟩ (wk [0] (Ya fl)) ?_)))
 rintro m F h ⟨k,Yi,Zd,rfl,rfl,rfl⟩
 refine X6 (Y3 ((k:Int)<(mm:Int)) (fun Z9=>?_) (fun Z9=>?_))
 ·refine ak (aq (ab 1 (Zq 3 [0] ?_)))
  obtain ⟨x1,Z3⟩:=Zt b.steps k om
  have hxt:(b.steps.take mm)[k]? = some x1:=by rw [List.getElem?_take_of_lt om];exact Z3
  have hxm:=Y4 hxt
  refine Zp (Ze none (k:Int) 5 (V9 Z3)) (Z0 5 (ib (b:=(x1.op==op)) 23 (fun Zb=>?_) (fun Zb=>?_)))
  ·have ZT:x1.op=op:=(Zg).1 Zb
   refine ZB 3 [0] (Zp (Ze none (k:Int) 5 (V9 Z3)) (Z0 2 ?_))
   obtain ⟨x2,Zv⟩:=Zt x1.args 0 (by obtain ⟨a,ha2⟩:=ha x1 hxm (by assumption);rw [ha2];simp)
   have hg0:=KC Zv
   refine Zp (Ze none 0 1 (Y7 Zv)) (YS (x2==x) Zg (fun Zh=>?_) (fun Zh=>?_))
   ·exact ar (Zk (ZP (.i k) (li (by have h:=Z4b hxt ⟨by assumption,by rw [hg0];assumption⟩ Zd;omega))))
   exact ak (az (Z0 1 (ZC k (Z1 (ZE ⟨k+1,ob,(NA hxt (fun z=>Zh (by rw [<-hg0];exact z.2)) Zd),rfl,rfl,rfl⟩ (wk [0] (ZI k fl)))))))
  have Yg:¬(x1.op=op):=Y2 Zg Zb
  exact Z1 (VP (ak (az (Z0 1 (ZC k (Z1 (ZE ⟨k+1,ob,(NA hxt (fun z=>absurd z.1 (by assumption)) Zd),rfl,rfl,rfl⟩ (wk [0] (ZI k fl)))))))))
 exact ax 0 (ar (Zk (ZP (.i (-1)) (li (by have h:=Z4a (by rw [Vc];omega) Zd;omega)))))
theorem Zgf (b:Z7) (frm0:Nat) (many:Nat) (hm:frm0<=b.steps.length:=by exact ob) (hz:b.sz<=1000000000:=by exact ob):Zm 322 [Ym b,.i frm0,.i many] [] (Yt (.i (Wv many (b.steps.drop frm0) frm0))):=by
 have hbz:=Ux b
 refine ZD 44 Tryz.func322 (ar (iA (XW b) fun b1=>?_))
 refine Z1 (Y5 (ab 0 (Y1 (fun fz gz m F h=>∃(k:Nat),(k<=b.steps.length)/\(Wv many (b.steps.drop k) k=Wv many (b.steps.drop frm0) frm0)/\F=sF [2,3] fz [(7,.i k)]/\h=gz/\m=b.steps.length-k) _ _ _ ⟨frm0,ob,rfl,rfl,rfl,rfl⟩ (wk [0] fl) ?_)))
 rintro m F h ⟨k,Yi,Zd,rfl,rfl,rfl⟩
 refine Yq 3 [0] (iw (UA b.steps) (Y3 ((k:Int)<(b.steps.length:Int)) (fun Z9=>?_) (fun Z9=>?_)))
 ·refine ak (aq (ab 1 (Zq 3 [0] ?_)))
  obtain ⟨x1,Z3⟩:=Zt b.steps k om
  refine Zp (Ze none (k:Int) 5 (V9 Z3)) (YW 16 [2,3,7] [(31,.b ((x1.op==6)&&(x1.into==0)))] (fun gz=>gz) ?_ (fun hj1=>?_))
  ·refine Xi [2,3,7] [(42,.b (((x1.op==6)&&(x1.into==0))&&((x1.args.length:Int)==(many:Int))))] (fun gz=>gz) ?_ ?_
   ·refine Z0 1 (ib (b:=((x1.op==6)&&(x1.into==0))) 32 (fun Zb=>?_) (fun Zb=>?_))
    ·exact ZB 3 [0] (Zp (Ze none (k:Int) 5 (V9 Z3)) (Z0 2 (iw (Y9 x1.args) (Z1 (wk [0] (Zj ((x1.args.length:Int)==(many:Int)) Zb fl))))))
    exact Z1 (wk [0] (Zj false Zb fl))
   refine ac (((x1.op==6)&&(x1.into==0))&&((x1.args.length:Int)==(many:Int))) (p:=((x1.op=6)/\(x1.into=0))/\((x1.args.length:Int)=(many:Int))) (Yo (Yo Zg Zg) Zg) (fun Zh=>?_) (fun Zh=>?_)
   ·exact ar (Zk (ZP (.i k) (li (by have h:=Z51 Z3 (show Ky many x1 from ⟨Zh.1,by omega⟩) Zd;omega))))
   exact ak (az (Z0 1 (ZC k (Z1 (ZE ⟨k+1,ob,(Z50 Z3 (fun z=>Zh ⟨z.1,by have:=z.2;omega⟩) Zd),rfl,rfl,rfl⟩ (wk [0] (ZI k fl)))))))
  refine Z0 4 (ib (b:=(x1.op==6)) 23 (fun Zy=>?_) (fun Zy=>?_))
  ·exact ZB 3 [0] (Zp (Ze none (k:Int) 5 (V9 Z3)) (Z0 4 (ZZ (wk [0] (Zj (x1.into==0) Zy fl)) hj1)))
  exact Z0 8 (ZZ (wk [0] (Zj false Zy fl)) hj1)
 exact ax 0 (ar (Zk (ZP (.i (-1)) (li (by have h:=Z4z om Zd;omega)))))
theorem Z5b (b:Z7) (hz:b.sz<=1000000000):Zm 312 [Ym b] [] (fun r h=>∃(v:Hd),r=.agg [.h v,.i b.result]/\h=[rK v 5 (Zu (ZQ b.steps))]):=by
 have hbz:=Ux b
 refine ZD 28 Tryz.func312 (ar (iA (XW b) fun b1=>iA [nl,.i 0] fun b2=>ie (ar (LS 5 fun g1=>ZB 3 [2] (iA [nl,.i 0] fun b3=>?_)))))
 refine ZG 0 b3 [.ms g1 0 0 0,.i b.result] (ie (Y5 (ab 0 (Y1 (fun fz gz m F h=>∃(k:Nat) (v:Hd),(k<=b.steps.length)/\F=sF [1,2,3] fz [(4,.i k)]/\h=[.obj b3 [.h v,.i b.result],Zi gz 2,Zi gz 3,rK v 5 (Zu (ZQ (b.steps.take k)))]/\m=b.steps.length-k) _ _ _ ⟨0,(⟨some ⟨g1,0,none⟩,0,0⟩:Hd),ob,rfl,rfl,rfl⟩ (wk [0,1,1,0] (Ya fl) (e:=(rc (rc (rc (rr (ls:=[]) ob rz)))))) ?_))))
 rintro m F h ⟨k,v,Yi,rfl,rfl,rfl⟩
 refine Yq 3 [2] (iw (UA b.steps) (Y3 ((k:Int)<(b.steps.length:Int)) (fun Z9=>?_) (fun Z9=>?_)))
 ·refine ak (aq (ab 1 (aE 12 (ZV 7 12 [0,1,2,3,4] [0,2] ?_))))
  obtain ⟨x1,Z3⟩:=Zt b.steps k om
  have hss:=Eg Z3
  exact dx 5 (Ze none (k:Int) 5 (V9 Z3)) (Zo 5 6 [6] (Z8 7 (YD 7 [] [0] [b3] (Zgj x1) (Z8 8 (dL 8 [0] [b3] [X3 x1] 1 5 fun v1=>Yy 3 3 [] [(24,.sl [X3 x1] none)] (Z8 9 (O2 9 4 k [] [] v 5 (Zu (ZQ (b.steps.take k))) [X3 x1] none (by rw [DK,Vc,Qk om]) (JN rfl) rfl (List.cons_ne_nil _ _) (by simp<;>omega) fun v2=>Zo 1 2 [10] (Z8 11 (X5 11 2 [] [] b3 [.h v2,.i b.result] (de (az (Z0 1 (ZC k (Z1 (ZE ⟨k+1,v2,ob,rfl,rfl,rfl⟩ (wk [0,2,2,0] (ZI k fl) (e:=(rc (rc (rc (rr (ls:=Zu (ZQ (b.steps.take k))++Zu [X3 x1]) (Z87 Z3) rz)))))))))))))))))))))
 exact ax 0 (Zq 1 [0] (ZG 1 b2 [.h v,.i b.result] (ie (Yc (r3 [3] [.agg [.h v,.i b.result]] [0] [(b2,b2)] ⟨v,rfl,rfl⟩ (lr _) (eq:=(rr (ls:=Zu (ZQ (b.steps.take k))) (by rw [U8 om]) rz)))))))
theorem Z5a (b:Z7) (hz:b.sz<=1000000000:=by exact ob) (h0:0<b.steps.length:=by exact ob):Zm 312 [Ym b] [] (fun r h=>∃(g:Nat) (c:Nat),r=.agg [.ms g 0 b.steps.length c,.i b.result]/\h=[.row (.slice (some ⟨g,0,none⟩) b.steps.length c) 5 (Zu (ZQ b.steps))]):=(Z5b b hz).form (T:=fun v=>.agg [.h v,.i b.result]) (m:=b.steps.length) (DK _) om h0
theorem Zgw (ds:List Zc) (b:Z7) (x:Int) (many:Nat) (hw:wB ds b:=by exact ob) (hx:0<=x/\x<=900000000:=by exact ob) (hz:b.sz<=1000000000:=by exact ob):Zm 277 [Ym b,.i x,.i many] [] (Yt (Ym (VM b x many))):=by
 have hbz:=Ux b
 have Yd:=(Jk b).1 hw
 have hrl:=F6 b.steps
 refine ZD 57 Tryz.func277 (ar (iA (XW b) fun b1=>iA [nl,.i 0] fun b2=>ie (aD 6 (ZV 3 6 [0,1,3] [1,1] (Z8 2 (YD 2 [] [1] [b1] (MP b) (Z8 4 (YD 4 [] [] [] (Z1s b (YX b.steps) 16 x (ha:=(fun s hs h16=>Nf (Ii Yd s (QA hs) (by rw [h16];rfl))))) (Zo 0 1 [5] (de (aD 6 (ZV 3 6 [0,1,3] [1,1] (Z8 2 (YD 2 [] [1] [b1] (MP b) (Z8 4 (YD 4 [] [] [] (Zgf b (YX b.steps) many) (Zo 0 1 [5] (de (X6 (Xi [1,3,6,7,8] [(26,.b ((decide ((W6 16 x (b.steps.take (YX b.steps)) 0)<0))||(decide ((Wv many (b.steps.drop (YX b.steps)) (YX b.steps))<0))))] (fun gz=>gz) ?_ ?_))))))))))))))))))))
 ·refine Z0 3 (ib (b:=(decide ((W6 16 x (b.steps.take (YX b.steps)) 0)<0))) 23 (fun Zb=>?_) (fun Zb=>?_))
  ·exact Z1 (wk [0,0] (Zj true Zb fl))
  exact Z1 (wk [0,0] (Zj (decide ((Wv many (b.steps.drop (YX b.steps)) (YX b.steps))<0)) Zb fl))
 refine ac ((decide ((W6 16 x (b.steps.take (YX b.steps)) 0)<0))||(decide ((Wv many (b.steps.drop (YX b.steps)) (YX b.steps))<0))) (p:=((W6 16 x (b.steps.take (YX b.steps)) 0)<0)∨((Wv many (b.steps.drop (YX b.steps)) (YX b.steps))<0)) (ZJ dq dq) (fun Z9=>?_) (fun Z9=>?_)
 ·exact Zq 1 [1] (ZG 0 b2 (XW b) (ie (Yc (r3 [] [Ym b] [0] [(b2,b2)] ⟨rfl,rfl⟩ (Zl.agg (.cons (Zl.sl _ (Yn ZQ (Zez Z9).symm)) (.cons li .nil)))))))
 obtain ⟨o1,o2,so,o3,o4⟩:=E0 (xs:=b.steps) (x:=x) (fun z=>Z9 (.inl z))
 obtain ⟨p1,p2,sc,p3,p4,p5⟩:=Ag (xs:=b.steps) (many:=many) (fun z=>Z9 (.inr z))
 rw [show Vn b.steps x=(W6 16 x (b.steps.take (YX b.steps)) 0) from rfl] at o1 o2
 rw [show WA b.steps many=(Wv many (b.steps.drop (YX b.steps)) (YX b.steps)) from rfl] at p1 p2
 refine ak (Zq 1 [1] (ic [] (Z5a b) ?_))
 rintro _ _ ⟨g1,c1,rfl,rfl⟩
 exact iA [nl,.i 0] fun b3=>ZG 0 b3 [.ms g1 0 b.steps.length c1,.i b.result] (ie (aD 7 (ZV 3 7 [0,1,2,3] [0] (Z8 4 (YD 4 [] [0] [b3] (Ch 17 x) (dx 5 (Vk g1 b.steps.length c1 ((W6 16 x (b.steps.take (YX b.steps)) 0).toNat) 5 (W6 16 x (b.steps.take (YX b.steps)) 0)) (Z8 6 (EA 6 1 [] [] g1 b.steps.length c1 5 (((W6 16 x (b.steps.take (YX b.steps)) 0).toNat)*5) (W7 (Zx 17 x)) (Zu (ZQ b.steps)) (Zu (ZQ (b.steps.set (W6 16 x (b.steps.take (YX b.steps)) 0).toNat (Zx 17 x)))) (by have:(W7 (Zx 17 x)).length=5:=rfl;rw [DK];omega) (Pi o3) (de (Zq 3 [1] (Zp (Vk g1 b.steps.length c1 ((Wv many (b.steps.drop (YX b.steps)) (YX b.steps)).toNat) 5 (Wv many (b.steps.drop (YX b.steps)) (YX b.steps))) (Ut (Ul 0 g1 b.steps.length c1 5 (((Wv many (b.steps.drop (YX b.steps)) (YX b.steps)).toNat)*5) (Zu (ZQ (b.steps.set (W6 16 x (b.steps.take (YX b.steps)) 0).toNat (Zx 17 x)))) (W7 sc) 152 (X3 sc) (Z86 (FC Z9 p3))) (iA [.i 0,.i 0,.i 0,nl,nl] fun b4=>ZG 0 b4 (W7 sc) (ie (Zq 8 [2,0,0] (ia ((1+x)) ((1)+(x)) (ZB 5 [0,0] (Zp (Vk g1 b.steps.length c1 ((Wv many (b.steps.drop (YX b.steps)) (YX b.steps)).toNat) 5 (Wv many (b.steps.drop (YX b.steps)) (YX b.steps))) (PW 1 g1 b.steps.length c1 5 (((Wv many (b.steps.drop (YX b.steps)) (YX b.steps)).toNat)*5) [.i sc.op,.i sc.num,.i (1+x),Z4 sc.args,JQ sc.kids] (Zu (ZQ (b.steps.set (W6 16 x (b.steps.take (YX b.steps)) 0).toNat (Zx 17 x)))) (Zu (ZQ ((b.steps.set (W6 16 x (b.steps.take (YX b.steps)) 0).toNat (Zx 17 x)).set (Wv many (b.steps.drop (YX b.steps)) (YX b.steps)).toNat (Qr (1+x) sc)))) (by rw [DK,TM];simp only [Ys,YF];omega) (Pi (t:=Qr (1+x) sc) (FC Z9 p3)) (Qp (Z2b 0 1 0 (.slice (some ⟨g1,0,none⟩) b.steps.length c1) 5 b3 (ZQ ((b.steps.set (W6 16 x (b.steps.take (YX b.steps)) 0).toNat (Zx 17 x)).set (Wv many (b.steps.drop (YX b.steps)) (YX b.steps)).toNat (Qr (1+x) sc))) [.ms g1 0 b.steps.length c1,.i b.result] (XD _) rfl) (ie (Zq 1 [0] (ZG 3 b2 [Xe ((b.steps.set (W6 16 x (b.steps.take (YX b.steps)) 0).toNat (Zx 17 x)).set (Wv many (b.steps.drop (YX b.steps)) (YX b.steps)).toNat (Qr (1+x) sc)) (.slice (some ⟨g1,0,none⟩) b.steps.length c1),.i b.result] (ie (Yc (r3 [] [.agg [Xe ((b.steps.set (W6 16 x (b.steps.take (YX b.steps)) 0).toNat (Zx 17 x)).set (Wv many (b.steps.drop (YX b.steps)) (YX b.steps)).toNat (Qr (1+x) sc)) (.slice (some ⟨g1,0,none⟩) b.steps.length c1),.i b.result]] [0] [(b2,b2)] ⟨rfl,rfl⟩ (Zl.agg (.cons (Zl.sl _ (Yn ZQ (Zf0 Z9 p5))) (.cons li .nil)))))))))))))))))))))))))))))
theorem Zgr (xs:LI) (y:Int) (hl:xs.length<=1000000000:=by exact ob):Zm 240 [Z4 xs,.i y] [] (fun r h=>∃(ys:LI),r=Z4 ys/\h=[]/\(ys.length<=xs.length+1/\∀z,z∈ys↔z∈xs∨z=y)):=by
 refine ZD 49 Tryz.func240 (ZY (ar (iL (Z6 []) 0 1 fun v1=>?_)))
 refine Z1 (ZY (Y5 (ab 0 (Y1 (fun fz gz m F h=>∃(k:Nat) (acc:LI) (d:Bool) (v:Value),(k<=xs.length)/\(KV xs y k acc d)/\F=sF [0,1] fz [(5,Y6 acc v),(6,.b d),(7,.i k)]/\h=[.tail v 1]/\m=xs.length-k) _ _ _ ⟨0,[],false,v1,ob,(KV.zero xs y),rfl,rfl,rfl⟩ (wk [0] (fw (Ya fl))) ?_))))
 rintro m F h ⟨k,acc,d,v,Yi,Zd,rfl,rfl,rfl⟩
 refine YR 2 (iw (Y9 xs) (Y3 ((k:Int)<(xs.length:Int)) (fun Z9=>?_) (fun Z9=>?_)))
 ·obtain ⟨x1,Z3⟩:=Zt xs k om
  have hil:acc.length<=k+1:=V7 Zd.len (by split<;>omega)
  refine ak (aq (ab 1 (X6 (Xi [0,1,5,6,7] [(24,.b ((!d)&&(decide (x1>=y))))] (fun gz=>gz) ?_ ?_))))
  ·refine Z0 3 (ib (b:=(!d)) 17 (fun Zb=>?_) (fun Zb=>?_))
   ·exact Z0 2 (Zp (Ze none (k:Int) 1 (Y7 Z3)) (Z1 (wk [0] (Zj (decide (x1>=y)) Zb fl))))
   exact Z1 (wk [0] (Zj false Zb fl))
  refine Xw (fun fz gz F h=>∃(acc2:LI) (d2:Bool) (w:Value),((acc2=acc/\d2=d)∨(acc2=acc++[y]/\d2=true/\¬d=true)∨(acc2=acc/\d2=true/\x1=y))/\(acc2.length<=acc.length+1)/\F=sF [0,1,7] fz [(5,Y6 acc2 w),(6,.b d2)]/\h=[.tail w 1]) ?_ ?_
  ·refine ac ((!d)&&(decide (x1>=y))) (p:=(¬(d=true))/\(x1>=y)) (Yo (Y8 Iff.rfl) dq) (fun Zh=>?_) (fun Zh=>?_)
   ·refine YR 2 (Zp (Ze none (k:Int) 1 (Y7 Z3)) (Z1 (Xw (fun fz gz F h=>∃(w3:Value),F=sF [0,1,7] fz [(5,Y6 (if x1>y then (acc++[y]) else acc) w3)]/\h=[.tail w3 1]) ?_ ?_)))
    ·refine Wt (x1>y) (fun ZA=>?_) (fun ZA=>?_)
     ·exact az (Z0 2 (iL (Z6 [y]) 1 1 fun v2=>Y0 0 [(33,Z4 [y])] (ip 1 (Z6 (acc++[y])) (Z6 acc) (Z6 [y]) v none 1 (YG _) (YG _) (XT _) (by simp<;>omega) (by simp [XX,Z6]) fun v3=>Z1 (ZM ⟨v3,rfl,rfl⟩ (wk [0] (fc (x:=Y6 (acc++[y]) v3) (Zl.slh _ (Yn Z6 (by first|rfl|(rw [Zf ZA])|(rw [Za ZA])|(simp [ZA];done)|(rw [Ye];simp [ZA];done)|omega))) fl))))))
     exact ak (ZM ⟨v,rfl,rfl⟩ (wk [0] (fc (x:=Y6 acc v) (Zl.slh _ (Yn Z6 (by first|rfl|(rw [Zf ZA])|(rw [Za ZA])|(simp [ZA];done)|(rw [Ye];simp [ZA];done)|omega))) fl)))
    rintro F h ⟨w3,rfl,rfl⟩
    exact Vv (ZM ⟨(if x1>y then (acc++[y]) else acc),true,w3,(if h:x1>y then (by rw [Zf h];exact .inr (.inl ⟨rfl,rfl,Zh.1⟩)) else (by rw [Za h];exact .inr (.inr ⟨rfl,rfl,by have:=Zh.2;omega⟩))),(by split<;>simp),rfl,rfl⟩ (wk [0] fl))
   exact ak (ZM ⟨acc,d,v,(.inl ⟨rfl,rfl⟩),ob,rfl,rfl⟩ (wk [0] fl))
  rintro F h ⟨acc2,d2,w,VE,Bj,rfl,rfl⟩
  exact az (Z0 3 (Zp (Ze none (k:Int) 1 (Y7 Z3)) (Z0 1 (iL (Z6 [x1]) 1 1 fun v4=>Y0 0 [(40,Z4 [x1])] (ip 1 (Z6 (acc2++[x1])) (Z6 acc2) (Z6 [x1]) w none 1 (YG _) (YG _) (XT _) (by simp<;>omega) (by simp [XX,Z6]) fun v5=>Z1 (az (Z0 1 (ZC k (Z1 (ZE ⟨k+1,(acc2++[x1]),d2,v5,ob,(Zd.go Z3 VE),rfl,rfl,rfl⟩ (wk [0] (fw (ZI k fl)))))))))))))
 have hil:acc.length<=k+1:=V7 Zd.len (by split<;>omega)
 refine ax 0 (Y5 (Xw (fun fz gz F h=>∃(w4:Value),F=sF [] fz [(5,Y6 (if d=true then acc else (acc++[y])) w4)]/\h=[.tail w4 1]) ?_ ?_))
 ·refine ac (!d) (p:=¬(d=true)) (Y8 Iff.rfl) (fun Yk=>?_) (fun Yk=>?_)
  ·exact az (Z0 2 (iL (Z6 [y]) 1 1 fun v6=>Y0 0 [(46,Z4 [y])] (ip 1 (Z6 (acc++[y])) (Z6 acc) (Z6 [y]) v none 1 (YG _) (YG _) (XT _) (by simp<;>omega) (by simp [XX,Z6]) fun v7=>Z1 (ZM ⟨v7,rfl,rfl⟩ (wk [0] (fc (x:=Y6 (acc++[y]) v7) (Zl.slh _ (Yn Z6 (by first|rfl|(rw [Zf Yk])|(rw [Za Yk])|(simp [Yk];done)|(rw [Ye];simp [Yk];done)|omega))) fl))))))
  exact ak (ZM ⟨v,rfl,rfl⟩ (wk [0] (fc (x:=Y6 acc v) (Zl.slh _ (Yn Z6 (by first|rfl|(rw [Zf Yk])|(rw [Za Yk])|(simp [Yk];done)|(rw [Ye];simp [Yk];done)|omega))) fl)))
 rintro F h ⟨w4,rfl,rfl⟩
 exact ar (Zk (r2 [] [Y6 (if d=true then acc else (acc++[y])) w4] ⟨(if d=true then acc else (acc++[y])),rfl,rfl,(if hd:d=true then (by rw [Zf hd];exact (Zd.fin om).1 hd) else (by rw [Za hd];exact (Zd.fin om).2 hd))⟩ (Zl.forget _ _)))
theorem Zgz (n:ZF) (s:Z5) (j:Nat) (kept:LI) (kd:Z7) (hn:Xv n) (hws:wS n.decls s) (hkd:s.kids[j]? = some kd) (hnk:Kb kd) (hK:kept.length+s.sz<=900000000) (ih:∀(b2:Z7) (K2:LI),(wB n.decls b2)->(C7 b2)->(K2.length+b2.sz<=900000000)->(b2.sz<s.sz)->Zm 183 [YC n,Ym b2,Z4 K2] [] (Yt (Ym (Ws n.decls K2 b2)))):Zm 228 [YC n,X3 s,.i j,Z4 kept] [] (Yt (Ym (Qc n.decls kept s.op s.num s.args j kd))):=by
 have Xp:=hn.decls
 have hks:=Qs hkd
 have hwk:=N7 hws hkd
 have haz:=Jv s
 have hjl:=(Xu.1 hkd).1
 refine ZD 65 Tryz.func228 (ar (iA (X7 n) fun b1=>iA (W7 s) fun b2=>iA [nl,.i 0] fun b3=>ie (X6 (Vb [1] (ac (s.op != 8) Yh (fun Z9=>?_) (fun Z9=>?_))))))
 ·refine aD 9 (ZV 5 9 [0,1,2,3] [2,1] (dx 4 (Ze none (j:Int) 2 (UQ hkd)) (Zo 2 4 [5,6] (Z8 7 (YD 7 [] [] [] (ih kd kept (by first|exact hwk|exact Bj) (by first|exact CY hnk|exact LX) ob ob) (Z8 8 (X5 8 0 [] [] b3 (XW (Ws n.decls kept kd)) (de ?_))))))))
  have hE:=Z0m (ds:=n.decls) (kept:=kept) (op:=s.op) (num:=s.num) (args:=s.args) (j:=j) (kd:=kd) (fun z=>Z9 z.1)
  exact Yc (r3 [] [Ym (Ws n.decls kept kd)] [0] [(b3,b3)] ⟨rfl,rfl⟩ (Zl.agg (.cons (Zl.sl _ (Yn ZQ (by rw [hE]))) (.cons (li (by rw [hE])) .nil))))
 refine ak (Zq 2 [1] ?_)
 obtain ⟨x1,Z3⟩:=Zt s.args 0 (by obtain ⟨⟨a,ha2,_⟩,_⟩:=G0 hws om;rw [ha2];simp)
 have hg1:=KC Z3
 have hxb:0<=x1/\x1<=900000000:=by obtain ⟨⟨a,ha2,ha3⟩,_⟩:=G0 hws om;rw [ha2] at hg1;have:a=x1:=hg1;omega
 refine Zp (Ze none 0 1 (Y7 Z3)) (Z1 (Zq 3 [1] (Zp (Ze none (j:Int) 2 (UQ hkd)) (Z0 1 (iA [nl,.i 0] fun b4=>?_)))))
 refine ZG 0 b4 (XW kd) (ie (YR 2 (Zw [] (UK kept x1) (Z1 (Xw (fun fz gz F h=>∃(B2:Z7) (K2:LI),(Ws n.decls K2 B2=Qc n.decls kept s.op s.num s.args j kd)/\(wB n.decls B2)/\(C7 B2)/\(B2.sz<=kd.sz)/\(K2.length<=kept.length+1)/\F=sF [4,8,10] fz [(3,Z4 K2)]/\h=[.obj b4 (XW B2),Zi gz 1,Zi gz 3]) ?_ ?_)))))
 ·refine ac (!(decide (x1∈kept))) (p:=¬(x1∈kept)) (Y8 dq) (fun Zh=>?_) (fun Zh=>?_)
  ·refine aD 16 (ZV 7 16 [0,1,2,3,4,5,6,7,9] [0,3,3,2] (Z8 8 (dc 8 [] [3,0] [b1,b4] (Je n.decls s.num) ?_)))
   rintro _ _ ⟨v1,rfl,rfl⟩
   obtain ⟨x2,Zv⟩:=Zt (ZU n.decls s.num) j (by have h:=(G0 hws om).2;omega)
   have hfl:(Wo n.decls s.num j).length=(ZO n.decls x2).length:=by rw [Ls (by rw [Jo,Zv];rfl)]
   have hcf:=V8 Xp x2
   refine dx 10 (Ze (some v1) (j:Int) 1 (Y7 Zv)) (Zo 4 5 [11] (Z8 12 (YD 12 [] [0] [b4] (Qy n.decls x2) (dn 13 (.i (((ZO n.decls x2).length:Nat):Int)) (.i (((Z6 (ZO n.decls x2)).length:Nat):Int)) (li (by rw [Y9])) (Z8 14 (YD 14 [] [] [] (Zgw n.decls kd x1 ((ZO n.decls x2).length) (hw:=hwk) (hx:=hxb)) ?_))))))
   have hwr:=Zj3 (x:=x1) (many:=(ZO n.decls x2).length) hwk
   have hsr:=Zex (x:=x1) (many:=(ZO n.decls x2).length) hwk
   refine Z8 15 (X5 15 1 [] [] b4 (XW (VM kd x1 ((ZO n.decls x2).length))) (de (Zq 1 [0] (Zw [] (MP (VM kd x1 ((ZO n.decls x2).length))) (Z1 (Zq 3 [0] (Zw [] (Z1s (VM kd x1 ((ZO n.decls x2).length)) (YX (VM kd x1 ((ZO n.decls x2).length)).steps) 17 x1 (hm:=(F6 _)) (ha:=(fun s2 hs2 h17=>Nf (Ii ((Jk _).1 hwr) s2 (QA hs2) (by rw [h17];rfl))))) (Y3 ((W6 17 x1 ((VM kd x1 ((ZO n.decls x2).length)).steps.take (YX (VM kd x1 ((ZO n.decls x2).length)).steps)) 0)>=0) (fun ZA=>?_) (fun ZA=>?_)))))))))
   ·refine az (Z0 2 (ic [] (Zgr kept x1) ?_))
    rintro _ _ ⟨ys1,rfl,rfl,ZT⟩
    have hin:=ZT
    exact Z1 (ZM ⟨_,_,(Zfd om hg1 Zh hfl ((Z2f ((Fa kd).1 hnk)).1 ZA) hin.2),hwr,(S6 hnk),ob,hin.1,rfl,rfl⟩ (wk [0,1,2] (fc (x:=Z4 ys1) (Zl.sl _ (Yn Z6 (by first|rfl|(rw [Zf Zh])|(rw [Za Zh])|(simp [Zh,ZA,ZT];done)|(rw [Ye];simp [Zh,ZA,ZT];done)|omega))) fl)))
   exact ak (ZM ⟨_,_,(Zfe om hg1 Zh hfl (AQ fun z=>ZA ((Z2f ((Fa kd).1 hnk)).2 z))),hwr,(S6 hnk),ob,ob,rfl,rfl⟩ (wk [0,1,2] (fc (x:=Z4 kept) (Zl.sl _ (Yn Z6 (by first|rfl|(rw [Zf Zh])|(rw [Za Zh])|(simp [Zh,ZA];done)|(rw [Ye];simp [Zh,ZA];done)|omega))) fl)))
  exact ak (ZM ⟨_,_,(Z0m (fun z=>Zh (hg1▸z.2))),hwk,(CY hnk),ob,ob,rfl,rfl⟩ (wk [0,0,1] (fc (x:=Z4 kept) (Zl.sl _ (Yn Z6 (by first|rfl|(rw [Zf Zh])|(rw [Za Zh])|(simp [Zh];done)|(rw [Ye];simp [Zh];done)|omega))) fl)))
 rintro F h ⟨B2,K2,VE,Bj,LX,Zjr,Zjs,rfl,rfl⟩
 exact Zq 3 [2,0] (Zw [] (ih B2 K2 (by first|exact hwk|exact Bj) (by first|exact CY hnk|exact LX) ob ob) (ZG 1 b3 (XW (Ws n.decls K2 B2)) (ie (Yc (r3 [] [Ym (Ws n.decls K2 B2)] [0] [(b3,b3)] ⟨rfl,rfl⟩ (Zl.agg (.cons (Zl.sl _ (Yn ZQ (by rw [VE]))) (.cons (li (by rw [VE])) .nil))))))))
theorem Zgy (n:ZF) (b:Z7) (kept:LI) (hn:Xv n) (hw:wB n.decls b) (hn2:C7 b) (hK:kept.length+b.sz<=900000000) (ih:∀(s:Z5) (j:Nat) (kept:LI) (kd:Z7),(wS n.decls s)->(s.kids[j]? = some kd)->(Kb kd)->(kept.length+s.sz<=900000000)->(s.sz<b.sz)->Zm 228 [YC n,X3 s,.i j,Z4 kept] [] (Yt (Ym (Qc n.decls kept s.op s.num s.args j kd)))):Zm 183 [YC n,Ym b,Z4 kept] [] (Yt (Ym (Ws n.decls kept b))):=by
 have Xp:=hn.decls
 have hbz:=Ux b
 refine ZD 61 Tryz.func183 (ar (iA (X7 n) fun b1=>iA (XW b) fun b2=>iA [nl,.i 0] fun b3=>ie (ar (iL (ZQ []) 0 5 fun v1=>ZB 3 [2] (iA [nl,.i 0] fun b4=>?_)))))
 refine ZG 0 b4 [Xe [] v1,.i b.result] (ie (Y5 (ab 0 (Y1 (fun fz gz m F h=>∃(k:Nat) (xs:List Z5) (v:Value),(k<=b.steps.length)/\(xs.length=k)/\(xs++U5 n.decls kept (b.steps.drop k)=U5 n.decls kept b.steps)/\F=sF [2,3,4,6,7] fz [(8,.i k)]/\h=[.obj b4 [Xe xs v,.i b.result],Zi gz 2,Zi gz 3,Zi gz 4,.tail v 5]/\m=b.steps.length-k) _ _ _ ⟨0,[],v1,ob,ob,rfl,rfl,rfl,rfl⟩ (wk [0,1,1,1,0] (Ya fl)) ?_))))
 rintro m F h ⟨k,xs,v,Yi,Zd,Zz,rfl,rfl,rfl⟩
 refine Yq 3 [2] (iw (UA b.steps) (Y3 ((k:Int)<(b.steps.length:Int)) (fun Z9=>?_) (fun Z9=>?_)))
 ·refine ak (aq (ab 1 (Zq 3 [2] ?_)))
  obtain ⟨x1,Z3⟩:=Zt b.steps k om
  have Xo:=Dc Z3
  have hws:=Z2p hw Z3
  have hkz:=K9 x1
  have haz:=Jv x1
  refine Zp (Ze none (k:Int) 5 (V9 Z3)) (Z0 1 (iA [.i 0,.i 0,.i 0,nl,nl] fun b5=>ZG 0 b5 (W7 x1) (ie (ar (iL (XL []) 0 2 fun v2=>?_)))))
  refine Z1 (Y5 (ab 2 (Y1 (fun fz gz m F h=>∃(j:Nat) (u:Value) (ks:List Z7),(j<=x1.kids.length)/\(ks.length=j)/\(ks++VX n.decls kept x1.op x1.num x1.args (x1.kids.drop j) j=VX n.decls kept x1.op x1.num x1.args x1.kids 0)/\F=sF [2,3,4,6,7,8,9] fz [(10,Qu ks u),(11,.i j)]/\h=[Zi gz 1,Zi gz 2,Zi gz 3,Zi gz 4,Zi gz 5,.tail u 2,Zi gz 6]/\m=x1.kids.length-j) _ _ _ ⟨0,v2,[],ob,ob,(by simp),rfl,rfl,rfl⟩ (wk [1,1,1,1,1,0,0] (fr (Ya fl))) ?_)))
  rintro m F h ⟨j,u,ks,VG,Xm,XN,rfl,rfl,rfl⟩
  refine Yq 3 [0] (iw (Kz x1.kids) (Y3 ((j:Int)<(x1.kids.length:Int)) (fun Zh=>?_) (fun Zh=>?_)))
  ·obtain ⟨kd,hkd⟩:=Zt x1.kids j om
   exact ak (aq (ab 3 (az (ZB 5 [4,0] (Zw [] (ih x1 j kept kd hws hkd (Zcw hn2 Z3 hkd) ob ob) (iL [Ym (Qc n.decls kept x1.op x1.num x1.args j kd)] 1 2 fun v3=>Y0 0 [(42,.sl [Ym (Qc n.decls kept x1.op x1.num x1.args j kd)] none)] (ip 6 (XL (ks++[Qc n.decls kept x1.op x1.num x1.args j kd])) (XL ks) [Ym (Qc n.decls kept x1.op x1.num x1.args j kd)] u none 2 (J0 _) (JN rfl) rfl (by simp<;>omega) (by simp [CD,K0]) fun v4=>Z1 (az (Z0 1 (ZC j (Z1 (ZE ⟨j+1,v4,(ks++[Qc n.decls kept x1.op x1.num x1.args j kd]),ob,(by simp;omega),(Zfc hkd XN),rfl,rfl,rfl⟩ (wk [2,2,2,2,2,0,1] (fr (ZI j fl)))))))))))))))
  have hK:=Zfb om XN
  refine ax 2 (aE 17 (ZV 6 17 [0,1,2,3,4,5,6,7,8,9,11] [1,0,0,0,0] (Z8 10 (dc 10 [] [0,0,0,1] [b5,b5,b5,b4] (Vf x1.args) ?_))))
  rintro _ _ ⟨v5,rfl,rfl⟩
  exact Yy 4 5 [12] [(56,.agg [.i x1.op,.i x1.num,.i x1.into,Z4 x1.args,JQ ks])] (Z8 13 (dL 13 [1] [b4] [X3 (Z5.mk x1.op x1.num x1.into x1.args ks)] 1 5 fun v6=>Yy 3 3 [] [(57,.sl [X3 (Z5.mk x1.op x1.num x1.into x1.args ks)] none)] (Z8 14 (dp 14 8 [] [] (ZQ (xs++[Z5.mk x1.op x1.num x1.into x1.args ks])) (ZQ xs) [X3 (Z5.mk x1.op x1.num x1.into x1.args ks)] v none 5 (XD _) (JN rfl) rfl (by simp<;>omega) (by simp [Vt,U4]) fun v7=>Zo 1 2 [15] (Z8 16 (X5 16 4 [] [] b4 [Xe (xs++[Z5.mk x1.op x1.num x1.into x1.args ks]) v7,.i b.result] (de (az (Z0 1 (ZC k (Z1 (ZE ⟨k+1,(xs++[Z5.mk x1.op x1.num x1.into x1.args ks]),v7,ob,(by simp;omega),(by have h:=Zfi Z3 Zz;rw [<-hK] at h;exact h),rfl,rfl,rfl⟩ (wk [0,4,4,4,0] (ZI k fl))))))))))))))
 exact ax 0 (Zq 1 [0] (ZG 1 b3 [Xe xs v,.i b.result] (ie (Yc (r3 [] [.agg [Xe xs v,.i b.result]] [0] [(b3,b3)] ⟨rfl,rfl⟩ (Zl.agg (.cons (Zl.sl _ (Yn ZQ (by rw [HJ];exact Zfh om Zz))) (.cons (li (by rw [HJ];rfl)) .nil))))))))
theorem Zh0 (n:ZF) (hn:Xv n) (k:Nat):(∀(s:Z5) (j:Nat) (kept:LI) (kd:Z7),(wS n.decls s)->(s.kids[j]? = some kd)->(Kb kd)->(kept.length+s.sz<=900000000)->(s.sz<=k)->Zm 228 [YC n,X3 s,.i j,Z4 kept] [] (Yt (Ym (Qc n.decls kept s.op s.num s.args j kd))))/\(∀(b:Z7) (kept:LI),(wB n.decls b)->(C7 b)->(kept.length+b.sz<=900000000)->(b.sz<=k)->Zm 183 [YC n,Ym b,Z4 kept] [] (Yt (Ym (Ws n.decls kept b)))):=by
 induction k with
 | zero=>exact ⟨fun s j K kd h1 h2 h3 h4 h5=>by have:=s.sz_pos;omega,fun b K h1 h2 h3 h4=>by have:=b.sz_eq;omega⟩
 | succ k ih=>exact ⟨fun s j K kd h1 h2 h3 h4 h5=>Zgz n s j K kd hn h1 h2 h3 h4 fun b2 K2 q1 q2 q3 q4=>ih.2 b2 K2 q1 q2 q3 om,fun b K h1 h2 h3 h4=>Zgy n b K hn h1 h2 h3 fun s j K2 kd q1 q2 q3 q4 q5=>ih.1 s j K2 kd q1 q2 q3 q4 om⟩
theorem Zgx (n:ZF) (b:Z7) (kept:LI) (hn:Xv n:=by exact ob) (hw:wB n.decls b:=by exact ob) (hn2:C7 b:=by exact ob) (hK:kept.length+b.sz<=900000000:=by exact ob):Zm 183 [YC n,Ym b,Z4 kept] [] (Yt (Ym (Ws n.decls kept b))):=(Zh0 n hn b.sz).2 b kept hw hn2 hK (X2 _)
theorem Z9x (n:ZF) (hn:Xv n:=by exact ob) (hz:A4 n:=by exact ob) (hwb:∀r∈n.routines,wB n.decls r.body):Zm 119 [YC n] [] (Yt (YC (Da n))):=by
 have hzl:=hn.len
 refine ZD 38 Tryz.func119 (ar (iA (X7 n) fun b1=>iA [nl,nl] fun b2=>ie (Zq 2 [1] (Zw [] (Br n.decls (hd:=hn.decls)) (iL (X8 []) 0 5 fun v1=>Z0 1 (iA [nl,nl] fun b3=>?_))))))
 refine ZG 0 b3 [Yu n.decls,WU [] v1] (ie (Y5 (ab 0 (Y1 (fun fz gz m F h=>∃(k:Nat) (v:Value),(k<=n.routines.length)/\F=sF [1,2,3] fz [(4,.i k)]/\h=[.obj b3 [Yu n.decls,WU ((n.routines.take k).map (Cg n.decls)) v],Zi gz 2,Zi gz 3,.tail v 5]/\m=n.routines.length-k) _ _ _ ⟨0,v1,ob,rfl,rfl,rfl⟩ (wk [0,1,1,0] (Ya fl)) ?_))))
 rintro m F h ⟨k,v,Yi,rfl,rfl,rfl⟩
 refine Yq 3 [2] (iw (TW n.routines) (Y3 ((k:Int)<(n.routines.length:Int)) (fun Z9=>?_) (fun Z9=>?_)))
 ·refine ak (aq (ab 1 (Zq 3 [2] ?_)))
  obtain ⟨x1,Z3⟩:=Zt n.routines k om
  have hrm:=Y4 Z3
  have hbz:=hz.body _ hrm
  have hpl:=hn.params_at Z3
  have hll:=hn.lent_at Z3
  have hww:=hwb _ hrm
  exact Zp (Ze none (k:Int) 5 (VJ Z3)) (Z0 1 (iA [nl,nl,.i 0,nl,.i 0] fun b4=>ZG 0 b4 (JL x1) (ie (aE 15 (ZV 7 15 [0,1,2,3,4,5,6,7] [1,0,3,0,0] (dw 8 (Y9 x1.params) (Z8 9 (YD 9 [] [0,1] [b4,b3] (Zh7 n x1.body x1.params.length (hw:=hww)) (Z8 10 (YD 10 [] [1] [b3] (Ec x1 (WV n.decls x1.params.length x1.body)) (Z8 11 (dL 11 [1] [b3] (X8 [Yz.mk x1.params x1.lent x1.result (WV n.decls x1.params.length x1.body)]) 1 5 fun v2=>Yy 3 3 [] [(34,JS [Yz.mk x1.params x1.lent x1.result (WV n.decls x1.params.length x1.body)])] (Z8 12 (dp 12 5 [] [] (X8 ((n.routines.take (k+1)).map (Cg n.decls))) (X8 ((n.routines.take k).map (Cg n.decls))) (X8 [Yz.mk x1.params x1.lent x1.result (WV n.decls x1.params.length x1.body)]) v none 5 (T8 _) (T8 _) (BR _) (by simp<;>omega) (by rw [VO Z3];simp [X8,Cg]) fun v3=>Zo 1 2 [13] (Z8 14 (X5 14 3 [] [] b3 [Yu n.decls,WU ((n.routines.take (k+1)).map (Cg n.decls)) v3] (de (az (Z0 1 (ZC k (Z1 (ZE ⟨k+1,v3,ob,rfl,rfl,rfl⟩ (wk [0,3,3,0] (ZI k fl))))))))))))))))))))))))
 exact ax 0 (Zq 1 [0] (ZG 1 b2 [Yu n.decls,WU ((n.routines.take k).map (Cg n.decls)) v] (ie (Yc (r3 [] [.agg [Yu n.decls,WU ((n.routines.take k).map (Cg n.decls)) v]] [0] [(b2,b2)] ⟨rfl,rfl⟩ (Zl.agg (.cons (Zl.sl _ (Yn Xn ob)) (.cons (Zl.sl _ (Yn X8 (by rw [U8 om];rfl))) .nil))))))))
theorem Z9u (n:ZF) (hn:Xv n:=by exact ob) (hz:A4 n:=by exact ob) (hwb:∀r∈n.routines,wB n.decls r.body) (hnr:∀r∈n.routines,Kb r.body):Zm 120 [YC n] [] (Yt (YC (D9 n))):=by
 have hzl:=hn.len
 refine ZD 38 Tryz.func120 (ar (iA (X7 n) fun b1=>iA [nl,nl] fun b2=>ie (Zq 2 [1] (Zw [] (Br n.decls (hd:=hn.decls)) (iL (X8 []) 0 5 fun v1=>Z0 1 (iA [nl,nl] fun b3=>?_))))))
 refine ZG 0 b3 [Yu n.decls,WU [] v1] (ie (Y5 (ab 0 (Y1 (fun fz gz m F h=>∃(k:Nat) (v:Value),(k<=n.routines.length)/\F=sF [1,2,3] fz [(4,.i k)]/\h=[.obj b3 [Yu n.decls,WU ((n.routines.take k).map (Ce n.decls)) v],Zi gz 2,Zi gz 3,.tail v 5]/\m=n.routines.length-k) _ _ _ ⟨0,v1,ob,rfl,rfl,rfl⟩ (wk [0,1,1,0] (Ya fl)) ?_))))
 rintro m F h ⟨k,v,Yi,rfl,rfl,rfl⟩
 refine Yq 3 [2] (iw (TW n.routines) (Y3 ((k:Int)<(n.routines.length:Int)) (fun Z9=>?_) (fun Z9=>?_)))
 ·refine ak (aq (ab 1 (aE 21 (ZV 16 21 [0,1,2,3,4] [0,2] ?_))))
  obtain ⟨x1,Z3⟩:=Zt n.routines k om
  have hrm:=Y4 Z3
  have hbz:=hz.body _ hrm
  have hpl:=hn.params_at Z3
  have hll:=hn.lent_at Z3
  have hww:=hwb _ hrm
  exact dx 5 (Ze none (k:Int) 5 (VJ Z3)) (ZV 10 15 [6,7,8,9,10] [2,2] (dx 11 (Ze none (k:Int) 5 (VJ Z3)) (Zo 7 9 [12,13] (Z8 14 (dL 14 [2,2,2,0] [b1,b1,b1,b3] (Z6 []) 0 1 fun v2=>Yy 6 6 [] [(31,Z4 [])] (Z8 15 (YD 15 [] [2,0] [b1,b3] (Zgx n x1.body [] (hw:=hww) (hn2:=(CY (hnr _ hrm)))) (Z8 16 (YD 16 [] [0] [b3] (Ec x1 (Ws n.decls [] x1.body)) (Z8 17 (dL 17 [0] [b3] (X8 [Yz.mk x1.params x1.lent x1.result (Ws n.decls [] x1.body)]) 1 5 fun v3=>Yy 3 3 [] [(34,JS [Yz.mk x1.params x1.lent x1.result (Ws n.decls [] x1.body)])] (Z8 18 (dp 18 5 [] [] (X8 ((n.routines.take (k+1)).map (Ce n.decls))) (X8 ((n.routines.take k).map (Ce n.decls))) (X8 [Yz.mk x1.params x1.lent x1.result (Ws n.decls [] x1.body)]) v none 5 (T8 _) (T8 _) (BR _) (by simp<;>omega) (by rw [VO Z3];simp [X8,Ce]) fun v4=>Zo 1 2 [19] (Z8 20 (X5 20 3 [] [] b3 [Yu n.decls,WU ((n.routines.take (k+1)).map (Ce n.decls)) v4] (de (az (Z0 1 (ZC k (Z1 (ZE ⟨k+1,v4,ob,rfl,rfl,rfl⟩ (wk [0,3,3,0] (ZI k fl)))))))))))))))))))))))
 exact ax 0 (Zq 1 [0] (ZG 1 b2 [Yu n.decls,WU ((n.routines.take k).map (Ce n.decls)) v] (ie (Yc (r3 [] [.agg [Yu n.decls,WU ((n.routines.take k).map (Ce n.decls)) v]] [0] [(b2,b2)] ⟨rfl,rfl⟩ (Zl.agg (.cons (Zl.sl _ (Yn Xn ob)) (.cons (Zl.sl _ (Yn X8 (by rw [U8 om];rfl))) .nil))))))))
theorem Z9t (rd:Nat) (bs:LI) (p:Nat) (Yd:∀z∈bs,0<=z/\z<=255) (hp:p+400001<=1000000000:=by exact ob):Zm 174 [.p rd 0] [YU rd bs p] (fun r h=>∃(n:ZF) (p2:Nat),r=YC n/\h=[YU rd bs p2]/\FO n 181 WQ/\p<=p2/\p2<=p+400001):=by
 refine ZD 13 Tryz.func174 (ar (iA [nl,nl] fun b1=>ie (ZX 1 (ic [1] (Z92 rd bs p (Yd:=ob)) ?_))))
 rintro _ _ ⟨g1,p21,rfl,rfl,ZT⟩
 have K6:=ZT
 refine ic [] (Z9n g1 (hg:=K6.1)) ?_
 rintro _ _ ⟨n1,rfl,rfl,Yg⟩
 have hnm:=Yg
 refine iA [nl,nl] fun b2=>ZG 0 b2 (X7 n1) (ie (YR 1 (ic [1] (V3 rd bs p21 3 (Yd:=ob)) ?_)))
 rintro _ _ ⟨k1,rfl,rfl,YJ⟩
 refine YS (k1==0) Zg (fun Z9=>?_) (fun Z9=>?_)
 ·refine Zq 1 [1] (ic [] (Z9d n1 181 (hn:=hnm)) ?_)
  rintro _ _ ⟨n21,rfl,rfl,YQ⟩
  have hlm:=YQ
  exact ZG 2 b1 (X7 n21) (ie (Yc (r3 [1] [YC n21] [0] [(b1,b1)] ⟨n21,p21+1,rfl,rfl,(by first|exact ⟨hlm,by omega,by omega⟩|exact ⟨hnm,by omega,by omega⟩)⟩ (lr _))))
 exact ak (Zq 1 [1] (ZG 2 b1 (X7 n1) (ie (Yc (r3 [1] [YC n1] [0] [(b1,b1)] ⟨n1,p21+1,rfl,rfl,(by first|exact ⟨hlm,by omega,by omega⟩|exact ⟨hnm,by omega,by omega⟩)⟩ (lr _))))))
theorem Z8t (rd:Nat) (bs:LI) (p:Nat) (Yd:∀z∈bs,0<=z/\z<=255) (hp:p+400002<=1000000000:=by exact ob):Zm 117 [.p rd 0] [YU rd bs p] (fun r h=>∃(n:ZF) (p2:Nat),r=YC n/\h=[YU rd bs p2]/\FO n 814510 Vz/\p<=p2/\p2<=p+400002):=by
 refine ZD 15 Tryz.func117 (ar (iA [nl,nl] fun b1=>ie (ZX 1 (ic [1] (Z9t rd bs p (Yd:=ob)) ?_))))
 rintro _ _ ⟨n1,p21,rfl,rfl,ZT⟩
 have hpf:=ZT
 refine iA [nl,nl] fun b2=>ZG 0 b2 (X7 n1) (ie (Zq 1 [0] (ic [] (Z8s n1 181 (hn:=hpf.1)) ?_)))
 rintro _ _ ⟨n21,rfl,rfl,Yg⟩
 have hcf:=FO.le Yg (show 4500*181+10<=814510 by omega)
 refine iA [nl,nl] fun b3=>ZG 0 b3 (X7 n21) (ie (YR 1 (ic [2] (V3 rd bs p21 4 (Yd:=ob)) ?_)))
 rintro _ _ ⟨k1,rfl,rfl,YJ⟩
 refine YS (k1==0) Zg (fun Z9=>?_) (fun Z9=>?_)
 ·refine az (ZB 1 [2] (ic [] (Z96 n1 181 (hn:=hpf.1)) ?_))
  rintro _ _ ⟨n22,rfl,rfl,YQ⟩
  have hlf:=FO.le YQ (show 60*181<=814510 by omega)
  exact ZG 1 b3 (X7 n22) (ie (Zq 1 [0] (ZG 3 b1 (X7 n22) (ie (Yc (r3 [2] [YC n22] [0] [(b1,b1)] ⟨n22,p21+1,rfl,rfl,(by first|exact ⟨hlf,by omega,by omega⟩|exact ⟨hcf,by omega,by omega⟩)⟩ (lr _)))))))
 exact ak (Zq 1 [1] (ZG 3 b1 (X7 n21) (ie (Yc (r3 [1] [YC n21] [0] [(b1,b1)] ⟨n21,p21+1,rfl,rfl,(by first|exact ⟨hlf,by omega,by omega⟩|exact ⟨hcf,by omega,by omega⟩)⟩ (lr _))))))
open Go.Proofs
open Go.Proofs
open Go.Proofs
open Go.Proofs
theorem Zgq (fs:LI) (q:Int) (hl:fs.length<=1000000:=by exact ob) (hq:0<=q/\q<=1000000000:=by exact ob):Zm 171 [Z4 fs,.i q] [] (Yt (Z4 (UE fs q))):=by
 refine ZD 26 Tryz.func171 (ZY (ar (iL (Z6 []) 0 1 fun v1=>?_)))
 refine Z1 (Y5 (ab 0 (Y1 (fun fz gz m F h=>∃(k:Nat) (acc:LI) (v:Value),(k<=fs.length)/\(acc.length<=k)/\(acc++UE (fs.drop k) (q+k)=UE fs q)/\F=sF [0,1] fz [(5,Y6 acc v),(6,.i k)]/\h=[.tail v 1]/\m=fs.length-k) _ _ _ ⟨0,[],v1,ob,ob,(by simp),rfl,rfl,rfl⟩ (wk [0] (fr (Ya fl))) ?_)))
 rintro m F h ⟨k,acc,v,Yi,Zd,Zz,rfl,rfl,rfl⟩
 refine YR 2 (iw (Y9 fs) (Y3 ((k:Int)<(fs.length:Int)) (fun Z9=>?_) (fun Z9=>?_)))
 ·refine ak (aq (ab 1 (ZX 2 ?_)))
  obtain ⟨x1,Z3⟩:=Zt fs k om
  refine Zp (Ze none (k:Int) 1 (Y7 Z3)) (Z1 (BL (fun fz gz F h=>∃(w:Value),F=sF [0,1,6] fz [(5,Y6 (if x1≠0 then acc++[q+k] else acc) w)]/\h=[.tail w 1]) (fun _ _=>rfl) ?_ ?_))
  ·refine ac (x1 != 0) Yh (fun Zh=>?_) (fun Zh=>?_)
   ·exact az (Z0 3 (ia ((q+(k:Int))) ((q)+((k:Int))) (iL (Z6 [(q+(k:Int))]) 1 1 fun v2=>Y0 0 [(23,Z4 [(q+(k:Int))])] (ip 1 (Z6 (acc++[(q+(k:Int))])) (Z6 acc) (Z6 [(q+(k:Int))]) v none 1 (YG _) (YG _) (XT _) (by simp<;>omega) (by simp [XX,Z6]) fun v3=>Z1 (ZM ⟨v3,rfl,rfl⟩ (wk [0] (fc (x:=Y6 (acc++[(q+(k:Int))]) v3) (Zl.slh _ (Yn Z6 (by first|rfl|(rw [Zf Zh])|(rw [Za Zh])|(simp [Zh];done)|(rw [Ye];simp [Zh];done)|omega))) fl)))))))
   exact ak (ZM ⟨v,rfl,rfl⟩ (wk [0] (fc (x:=Y6 acc v) (Zl.slh _ (Yn Z6 (by first|rfl|(rw [Zf Zh])|(rw [Za Zh])|(simp [Zh];done)|(rw [Ye];simp [Zh];done)|omega))) fl)))
  rintro F h ⟨w,rfl,rfl⟩
  exact az (Z0 1 (ZC k (Z1 (ZE ⟨k+1,(if x1≠0 then acc++[q+k] else acc),w,ob,(by split<;>(try simp)<;>omega),(Za6 Z3 Zz),rfl,rfl,rfl⟩ (wk [0] (fr (ZI k fl)))))))
 exact ax 0 (ar (Zk (ZP (Y6 acc v) (Zl.sl _ (Yn Z6 (Za5 om Zz))))))
theorem Z1p (mm:Nat) (hl:mm<=4294967296:=by exact ob):Zm 112 [.i 0,.i mm] [] (Yt (Z4 (XG mm))):=by
 refine ZD 20 Tryz.func112 (ZY (ar (iL (Z6 []) 0 1 fun v1=>?_)))
 refine Z1 (Y5 (ab 0 (Y1 (fun fz gz m F h=>∃(k:Nat) (v:Value),(k<=mm)/\F=sF [0,1] fz [(5,Y6 (XG k) v),(6,.i k)]/\h=[.tail v 1]/\m=mm-k) _ _ _ ⟨0,v1,ob,rfl,rfl,rfl⟩ (wk [0] (fc (x:=Y6 [] v1) (Zl.slh _ (Yn Z6 rfl)) (Ya fl))) ?_)))
 rintro m F h ⟨k,v,Yi,rfl,rfl,rfl⟩
 refine X6 (Y3 ((k:Int)<(mm:Int)) (fun Z9=>?_) (fun Z9=>?_))
 ·exact ak (aq (ab 1 (az (Z0 3 (ia ((k:Int)) ((0)+((k:Int))) (iL (Z6 [(k:Int)]) 1 1 fun v2=>Y0 0 [(17,Z4 [(k:Int)])] (ip 1 (Z6 (XG (k+1))) (Z6 (XG k)) (Z6 [(k:Int)]) v none 1 (YG _) (YG _) (XT _) (by rw [Y9,DY];simp<;>omega) (by rw [Zcz,XX]) fun v3=>Z1 (az (Z0 1 (ZC k (Z1 (ZE ⟨k+1,v3,ob,rfl,rfl,rfl⟩ (wk [0] (fr (ZI k fl)))))))))))))))
 exact ax 0 (ar (Zk (ZP (Y6 (XG k) v) (Zl.sl _ (Yn Z6 (by rw [show k=mm by omega]))))))
theorem Z1x (xs:LI) (i:Int) (y:Int) (hl_xs:xs.length<=4294967296:=by exact ob) (hi:0<=i/\i<xs.length:=by exact ob):Zm 219 [Z4 xs,.i i,.i y] [] (fun r h=>∃(v:Value),r=Y6 (xs.set i.toNat y) v/\h=[.tail v 1]):=by
 refine ZD 15 Tryz.func219 (ZY (ZX 1 (ic [] (Db xs) ?_)))
 rintro _ _ ⟨v1,rfl,rfl⟩
 exact Z1 (ZX 3 (Zp (Ue 0 v1 xs i i.toNat (hq:=rfl)) (LT 0 v1 xs i.toNat y (ie (ZY (Eu 6 0 (v:=v1) (xs:=(xs.set i.toNat y)) (Yc (r1 [0] ⟨v1.v,rfl,rfl⟩))))))))
theorem Jf (e:Nat) (v:Hd) (c:List Instr) (x:Instr) (hl:c.length<=4200000000:=by exact ob):Zm 114 [.p e 0,Ku x] [.obj e [.h v],rK v 6 (Zu (YH c))] (fun r h=>∃(v2:Hd),r=.i c.length/\h=[.obj e [.h v2],rK v2 6 (Zu (YH (c++[x])))]):=by
 exact ZD 21 Tryz.func114 (ar (iA (Uu x) fun b1=>Z1 (aD 11 (ZV 5 11 [0,1,2,3,4,5] [1,0] (Z8 6 (dL 6 [1] [e] (YH [x]) 1 6 fun v1=>Yy 4 4 [] [(11,Ka [x])] (Z8 7 (O2 7 3 c.length [] [] v 6 (Zu (YH c)) (YH [x]) none (Ar c) (Jz _) (ED _) (by simp [YH]) (by simp<;>omega) fun v2=>Zo 1 3 [8,9] (Z8 10 (X5 10 3 [] [] e [.h v2] (de (Zq 4 [0] (Zp (Rr 1 (c.length+1) v2 6 (Zu (YH c)++Zu (YH [x])) (by rw [ZH,Ar,Ar];simp only [Ys,YF];omega)) (ia ((((c.length+1:Nat):Int)-1)) ((((c.length+1:Nat):Int))-(1)) (Zk (r2 [0,0] [.i (((c.length+1:Nat):Int)-1)] ⟨v2,rfl,rfl⟩ li (eq:=(rc (rr (ls:=Zu (YH c)++Zu (YH [x])) (Z84 c x) rz)))))))))))))))))))
theorem MN (e:Nat) (v:Hd) (c:List Instr) (i:Nat) (hz:Zr c i:=by exact ob) (hl:c.length<=4200000000:=by exact ob):Zm 218 [.p e 0,.i i] [.obj e [.h v],rK v 6 (Zu (YH c))] (fun r h=>∃(v2:Hd),h=[.obj e [.h v2],rK v2 6 (Zu (YH (Vr c i)))]):=by
 have hzl:=hz.lt
 obtain ⟨x,hx,Z3,Zv⟩:=hz
 refine ZD 30 Tryz.func218 (Rq 1 c.length (v:=v) (Ar c) om (fun g1 c1 he1=>?_))
 subst he1
 exact Zq 5 [0] (Zp (Vk g1 c.length c1 i 6 (i:Int)) (Ut (Ul 1 g1 c.length c1 6 (i*6) (Zu (YH c)) (Uu x) 69 (Ku x) (Z83 hx)) (iA [.i 0,.i 0,.i 0,.i 0,nl,nl] fun b1=>ZG 0 b1 (Uu x) (ie (aE 19 (ZV 8 19 [0,1,2,3,4,5,6,7,8,9,10] [1,0,1] (dn 11 (.i c.length) (.i c.length) (lr _) (ZV 2 7 [12,13,14,15,16] [0,0] (dx 17 (Vk g1 c.length c1 i 6 (i:Int)) (Z8 18 (EA 18 2 [] [] g1 c.length c1 6 (i*6) [.i x.op,.i 0,.i c.length,.i 0,Z4 x.args,Z4 x.jumps] (Zu (YH c)) (Zu (YH (c.set i ⟨x.op,0,c.length,0,x.args,x.jumps⟩))) (by rw [Ar];simp only [Ys,YF];omega) (Pf (t:=⟨x.op,0,c.length,0,x.args,x.jumps⟩) hx) (de (r2 [2,0] [] ⟨⟨some ⟨g1,0,none⟩,c.length,c1⟩,rfl⟩ (lr _) (eq:=(rc (rr (ls:=(Zu (YH (c.set i ⟨x.op,0,c.length,0,x.args,x.jumps⟩)))) (by rw [Z3j hx Z3 Zv]) rz))))))))))))))))
theorem Zge (n:ZF) (s:Z5) (mw:Nat) (cons:LI) (first:LI) (e:Nat) (v:Hd) (c:List Instr) (hn:Xv n) (ht:fS n.decls n.routines.length mw s) (hop:s.op=7∨s.op=8) (hcl:cons.length=mw) (hfl:first.length=mw) (hfs:TC first) (hb:mw+4*s.sz<=900000000) (hcn:c.length+16*s.sz<=4000000000) (ih:∀(b2:Z7) (m2:Nat) (cons2:LI) (first2:LI) (e:Nat) (v5:Hd) (c2:List Instr),(fB n.decls n.routines.length m2 b2)->(cons2.length=m2)->(first2.length=m2)->(TC first2)->(m2+4*b2.sz<=900000000)->(c2.length+16*b2.sz<=4000000000)->(b2.sz<s.sz)->Zm 113 [.p e 0,YC n,Ym b2,Z4 cons2,Z4 first2] [.obj e [.h v5],rK v5 6 (Zu (YH c2))] (fun r h=>∃(v2:Hd),h=[.obj e [.h v2],rK v2 6 (Zu (YH (flB (XK n.decls) n.decls (cons2,first2) b2 c2)))])):Zm 169 [.p e 0,YC n,X3 s,Z4 cons,Z4 first] [.obj e [.h v],rK v 6 (Zu (YH c))] (fun r h=>∃(v2:Hd),h=[.obj e [.h v2],rK v2 6 (Zu (YH (VL (XK n.decls) n.decls (cons,first) s c)))]):=by
 have Xp:=hn.decls
 have hf:=(Bb s).1 ht
 have hse:=s.sz_eq
 have haz:=Jv s
 have hkz:=K9 s
 have hcp:cons.length<=900000000:=by omega
 refine ZD 208 Tryz.func169 (ar (iA (X7 n) fun b1=>iA (W7 s) fun b2=>ie (ZX 1 (iw (Y9 cons) (Z1 (X6 (Vb [0] (ac (s.op==7) Zg (fun Z9=>?_) (fun Z9=>?_)))))))))
 ·obtain ⟨k0,k1,hkk,ht0,ht1⟩:=Z71 hf Z9
  have hbe:YV s.kids=k0.sz+k1.sz:=by rw [hkk];simp [YV]
  have hk0:s.kids[0]? = some k0:=by rw [hkk];rfl
  have hk1:s.kids[1]? = some k1:=by rw [hkk];rfl
  have hs0:=Qs hk0
  have hs1:=Qs hk1
  refine Zq 3 [0] (ic [] (Vf s.args) ?_)
  rintro _ _ ⟨v1,rfl,rfl⟩
  refine Y0 1 [(33,.agg [.i 20,.i 0,.i 0,.i 0,Z4 s.args,.sl [] none])] (ic [3,3] (Jf e v c (Instr.mk 20 0 0 0 s.args []) (hl:=WE)) ?_)
  rintro _ _ ⟨v21,rfl,rfl⟩
  refine Z1 (aD 9 (ZV 5 9 [0,1,2,3] [4,3] (dx 4 (Ze none 0 2 (UQ hk0)) (Zo 1 4 [5,6,7] (Z8 8 (dc 8 [0,0] [] [] (ih k0 _ cons first e v21 (c++[(Instr.mk 20 0 0 0 s.args [])]) (by first|exact ht0|exact ht1|exact hbt) WE WE (by first|exact hfs|exact TC.x hfs om om) WE WE ob) ?_))))))
  rintro _ _ ⟨v22,rfl⟩
  have q1:(flB (XK n.decls) n.decls (cons,first) k0 (c++[(Instr.mk 20 0 0 0 s.args [])])).length+16<=_:=BV (XK n.decls) Xp _ _ _
  simp only [AZ,BU,Hp,ZH,Ys,YF] at q1
  refine de (Zq 4 [3] (Zp (Ze none 0 2 (UQ hk0)) (Z0 2 (iL (Z6 [k0.result]) 1 1 fun v2=>Y0 1 [(52,.agg [.i 18,.i cons.length,.i 0,.i 0,Z4 [k0.result],.sl [] none])] (ic [1,1] (Jf e v22 (flB (XK n.decls) n.decls (cons,first) k0 (c++[(Instr.mk 20 0 0 0 s.args [])])) (Instr.mk 18 (cons.length:Int) 0 0 [k0.result] []) (hl:=WE)) ?_)))))
  rintro _ _ ⟨v23,rfl,rfl⟩
  refine ie (ar (Y0 2 [(55,.agg [.i 22,.i 0,.i 0,.i 0,.sl [] none,.sl [] none])] (ic [0,0] (Jf e v23 ((flB (XK n.decls) n.decls (cons,first) k0 (c++[(Instr.mk 20 0 0 0 s.args [])]))++[(Instr.mk 18 (cons.length:Int) 0 0 [k0.result] [])]) (Instr.mk 22 0 0 0 [] []) (hl:=WE)) ?_)))
  rintro _ _ ⟨v24,rfl,rfl⟩
  refine Z1 (ZX 2 (ic [0,0] (MN e v24 (((flB (XK n.decls) n.decls (cons,first) k0 (c++[(Instr.mk 20 0 0 0 s.args [])]))++[(Instr.mk 18 (cons.length:Int) 0 0 [k0.result] [])])++[(Instr.mk 22 0 0 0 [] [])]) c.length (hz:=(by first|exact Ae ei (Y4 hei)|(repeat (first|exact Zr.new rfl rfl|refine Zr.app ?_|refine Zr.flB ?_|refine Zr.aim ?_)))) (hl:=WE)) ?_))
  rintro _ _ ⟨v25,rfl⟩
  refine ie (aD 9 (ZV 5 9 [0,1,2,3] [5,4] (dx 4 (Ze none 1 2 (UQ hk1)) (Zo 1 4 [5,6,7] (Z8 8 (dc 8 [0,0] [] [] (ih k1 _ cons first e v25 (Vr (((flB (XK n.decls) n.decls (cons,first) k0 (c++[(Instr.mk 20 0 0 0 s.args [])]))++[(Instr.mk 18 (cons.length:Int) 0 0 [k0.result] [])])++[(Instr.mk 22 0 0 0 [] [])]) c.length) (by first|exact ht0|exact ht1|exact hbt) WE WE (by first|exact hfs|exact TC.x hfs om om) WE WE ob) ?_))))))
  rintro _ _ ⟨v26,rfl⟩
  have q2:((flB (XK n.decls) n.decls (cons,first) k1 (Vr (((flB (XK n.decls) n.decls (cons,first) k0 (c++[(Instr.mk 20 0 0 0 s.args [])]))++[(Instr.mk 18 (cons.length:Int) 0 0 [k0.result] [])])++[(Instr.mk 22 0 0 0 [] [])]) c.length))).length+16<=_:=BV (XK n.decls) Xp _ _ _
  simp only [AZ,BU,Hp,ZH,Ys,YF] at q2
  refine de (Zq 4 [4] (Zp (Ze none 1 2 (UQ hk1)) (Z0 2 (iL (Z6 [k1.result]) 1 1 fun v3=>Y0 1 [(77,.agg [.i 18,.i cons.length,.i 0,.i 0,Z4 [k1.result],.sl [] none])] (ic [1,1] (Jf e v26 (flB (XK n.decls) n.decls (cons,first) k1 (Vr (((flB (XK n.decls) n.decls (cons,first) k0 (c++[(Instr.mk 20 0 0 0 s.args [])]))++[(Instr.mk 18 (cons.length:Int) 0 0 [k0.result] [])])++[(Instr.mk 22 0 0 0 [] [])]) c.length)) (Instr.mk 18 (cons.length:Int) 0 0 [k1.result] []) (hl:=WE)) ?_)))))
  rintro _ _ ⟨v27,rfl,rfl⟩
  refine ie (ZX 2 (ic [0,0] (MN e v27 ((flB (XK n.decls) n.decls (cons,first) k1 (Vr (((flB (XK n.decls) n.decls (cons,first) k0 (c++[(Instr.mk 20 0 0 0 s.args [])]))++[(Instr.mk 18 (cons.length:Int) 0 0 [k0.result] [])])++[(Instr.mk 22 0 0 0 [] [])]) c.length))++[(Instr.mk 18 (cons.length:Int) 0 0 [k1.result] [])]) (((flB (XK n.decls) n.decls (cons,first) k0 (c++[(Instr.mk 20 0 0 0 s.args [])]))++[(Instr.mk 18 (cons.length:Int) 0 0 [k0.result] [])]).length) (hz:=(by first|exact Ae ei (Y4 hei)|(repeat (first|exact Zr.new rfl rfl|refine Zr.app ?_|refine Zr.flB ?_|refine Zr.aim ?_)))) (hl:=WE)) ?_))
  rintro _ _ ⟨v28,rfl⟩
  exact ie (Yc (r2 [0,0] [] ⟨v28,rfl⟩ (lr _) (eq:=(rc (rr (ls:=Zu (YH (Vr ((flB (XK n.decls) n.decls (cons,first) k1 (Vr (((flB (XK n.decls) n.decls (cons,first) k0 (c++[(Instr.mk 20 0 0 0 s.args [])]))++[(Instr.mk 18 (cons.length:Int) 0 0 [k0.result] [])])++[(Instr.mk 22 0 0 0 [] [])]) c.length))++[(Instr.mk 18 (cons.length:Int) 0 0 [k1.result] [])]) (((flB (XK n.decls) n.decls (cons,first) k0 (c++[(Instr.mk 20 0 0 0 s.args [])]))++[(Instr.mk 18 (cons.length:Int) 0 0 [k0.result] [])]).length)))) (by rw [Z7r Z9 hkk];rfl) rz)))))
 have h8:s.op=8:=by omega
 obtain ⟨hkl,hkm⟩:=Z72 hf h8
 obtain ⟨x0,hxl⟩:=OZ hf (.inr (.inl h8))
 have PV:s.args[0]? = some x0:=by rw [hxl];rfl
 have hg0:=KC PV
 have hxb:=hf.args x0 (by rw [hxl];exact Xs.2 rfl)
 have hk3:=D0 Xp s.num
 refine ak (Zq 2 [0] (Zp (Ze none 0 1 (Y7 PV)) (Z1 (Zq 4 [1,0] (ic [] (Je n.decls s.num) ?_)))))
 rintro _ _ ⟨v4,rfl,rfl⟩
 refine Z1 (Zq 4 [1] (iL (Z6 [x0]) 1 1 fun v5=>Y0 1 [(96,.agg [.i 21,.i 0,.i s.num,.i 0,Z4 [x0],.sl [] none])] (ic [4,4] (Jf e v c (Instr.mk 21 0 s.num 0 [x0] []) (hl:=WE)) ?_)))
 rintro _ _ ⟨v29,rfl,rfl⟩
 refine Z1 (ar (iL (Z6 []) 0 1 fun v6=>Z1 (ar (iL (Z6 []) 0 1 fun v7=>?_))))
 refine Z1 (Y5 (ab 0 (Y1 (fun fz gz m F h=>∃(k:Nat) (ts:LI) (u1:Value) (es:List Nat) (u2:Value) (cc:List Instr) (r3:Hd),(k<=s.kids.length)/\(VK (XK n.decls) n.decls (cons,first) s.num x0 c.length (s.kids.drop k) k cc ts es=VL (XK n.decls) n.decls (cons,first) s c)/\(∀i∈es,Zr cc i)/\(cc[c.length]? = some (XF 21 0 s.num 0 s.args))/\(cc.length<=c.length+1+16*YV (s.kids.take k))/\(es.length<=k)/\(ts.length=k)/\F=sF [0,3,4,6,7,10,13,14,15] fz [(16,Y6 ts u1),(17,Y6 (QK es) u2),(18,.i k)]/\h=[.obj e [.h r3],Zi gz 6,Zi gz 7,.tail u1 1,.tail u2 1,Zi gz 5,rK r3 6 (Zu (YH cc))]/\m=s.kids.length-k) _ _ _ ⟨0,[],v6,[],v7,(c++[Instr.mk 21 0 s.num 0 [x0] []]),v29,ob,(by rw [QS,Z7s h8,hg0,hxl];rfl),(fun i hi=>by cases hi),(by rw [hxl];simp [XF]),(by simp [YV]),ob,ob,rfl,rfl,rfl⟩ (wk [2,5,5,1,0,2,0] (fr (fc (x:=Y6 [] v7) (Zl.slh _ (Yn Z6 ob)) (Ya fl))) (e:=(rc (rc (rc (rc (rc (rc (rr (ls:=Zu (YH (c++[(Instr.mk 21 0 s.num 0 [x0] [])]))) rfl rz))))))))) ?_)))
 rintro m F h ⟨k,ts,u1,es,u2,cc,r3,Yi,Zd,Zz,YA,Wb,QX,NP,rfl,rfl,rfl⟩
 refine YR 2 (io (.i (((ZU n.decls s.num).length:Nat):Int)) (.i (((Z6 (ZU n.decls s.num)).length:Nat):Int)) (li (by rw [Y9])) (Y3 ((k:Int)<(((ZU n.decls s.num).length:Nat):Int)) (fun Zh=>?_) (fun Zh=>?_)))
 ·obtain ⟨xk,hxk⟩:=Zt (ZU n.decls s.num) k om
  obtain ⟨kb,hkb⟩:=Zt s.kids k om
  obtain ⟨hbt,hgc,hfk⟩:=hkm k kb xk hkb hxk
  have hks:=Qs hkb
  obtain ⟨hkt1,hkt2⟩:=NN hkb
  have hcf:=V8 Xp xk
  have hfl3:(Wo n.decls s.num k).length=(ZO n.decls xk).length:=by rw [hfk]
  refine ak (aq (ab 1 (Zq 5 [0] (Zp (Rr 6 cc.length r3 6 (Zu (YH cc)) (Ar cc)) (iL (Z6 [(cc.length:Int)]) 1 1 fun v8=>Y0 0 [(112,Z4 [(cc.length:Int)])] (ip 4 (Z6 (ts++[(cc.length:Int)])) (Z6 ts) (Z6 [(cc.length:Int)]) u1 none 1 (YG _) (YG _) (XT _) (by simp<;>omega) (by simp [XX,Z6]) fun v9=>?_))))))
  refine Z1 (aD 9 (ZV 5 9 [0,1,2,3] [4] (dx 4 (Ze (some v4) (k:Int) 1 (Y7 hxk)) (Zo 3 4 [5] (Z8 6 (YD 6 [] [] [] (Qy n.decls xk) (dn 7 (.i (((ZO n.decls xk).length:Nat):Int)) (.i (((Z6 (ZO n.decls xk)).length:Nat):Int)) (li (by rw [Y9])) (Zo 0 1 [8] (de (Y5 (ab 2 (Y1 (fun fz gz m F h=>∃(i:Nat) (r4:Hd),(i<=(ZO n.decls xk).length)/\F=sF [0,3,4,6,7,10,13,14,15,16,17,18,19] fz [(20,.i i)]/\h=[.obj e [.h r4],Zi gz 3,Zi gz 4,Zi gz 5,Zi gz 6,Zi gz 0,rK r4 6 (Zu (YH (cc++Wg cons.length i x0)))]/\m=(ZO n.decls xk).length-i) _ _ _ ⟨0,r3,ob,rfl,rfl,rfl⟩ (wk [2,2,2,2,2,0,1] (Ya fl) (e:=(rc (rc (rc (rc (rc (rc (rr (ls:=Zu (YH cc)) (by simp [Wg]) rz))))))))) ?_))))))))))))
  rintro m F h ⟨i,r4,VG,rfl,rfl,rfl⟩
  refine X6 (Y3 ((i:Int)<(((ZO n.decls xk).length:Nat):Int)) (fun ZA=>?_) (fun ZA=>?_))
  ·refine ak (aq (ab 3 (az (Z0 3 (ia (((cons.length+i:Nat):Int)) (((cons.length:Int))+((i:Int))) (Z0 2 (iL (Z6 [x0]) 1 1 fun v10=>Y0 1 [(134,.agg [.i 19,.i (cons.length+i:Nat),.i i,.i 0,Z4 [x0],.sl [] none])] (ic [1,6] (Jf e r4 (cc++Wg cons.length i x0) (Instr.mk 19 ((cons.length+i:Nat):Int) (i:Int) 0 [x0] []) (hl:=WE)) ?_))))))))
   rintro _ _ ⟨v210,rfl,rfl⟩
   exact ie (az (Z0 1 (ZC i (Z1 (ZE ⟨i+1,v210,ob,rfl,rfl,rfl⟩ (wk [0,2,2,2,2,2,0] (ZI i fl) (e:=(rc (rc (rc (rc (rc (rc (rr (ls:=Zu (YH ((cc++Wg cons.length i x0)++[(Instr.mk 19 ((cons.length+i:Nat):Int) (i:Int) 0 [x0] [])]))) (by rw [Md,<-XM];rfl) rz))))))))))))))
  have hie:(ZO n.decls xk).length=i:=by omega
  have hA:(XK n.decls).arm (cons,first) x0 s.num k=(cons.set x0.toNat xk++XG (ZO n.decls xk).length,first.set x0.toNat (cons.length:Int)++XG (ZO n.decls xk).length):=by rw [<-hgc];rfl
  refine ax 2 (ZX 1 (Zw [] (Z1p ((ZO n.decls xk).length)) (Z1 (aD 23 (ZV 18 23 [0,1,2,3,4] [2,1] (dx 5 (Ze none (k:Int) 2 (UQ hkb)) (Zo 12 17 [6,7,8,9,10] (dx 11 (Ze (some v4) (k:Int) 1 (Y7 hxk)) (Zo 5 11 [12,14,16,17,18,20] (Z8 13 (dc 13 [] [1,2] [b2,b1] (Z1x cons x0 xk) ?_)))))))))))
  rintro _ _ ⟨v11,rfl,rfl⟩
  refine Yy 4 4 [] [(151,Z4 (cons.set x0.toNat xk))] (Z8 15 (dc 15 [] [1,2] [b2,b1] (TA (cons.set x0.toNat xk) (XG ((ZO n.decls xk).length)) (hl:=WE)) ?_))
  rintro _ _ ⟨v12,rfl,rfl⟩
  refine Z8 19 (dc 19 [] [1,2] [b2,b1] (Z1x first x0 (cons.length:Int)) ?_)
  rintro _ _ ⟨v13,rfl,rfl⟩
  refine Yy 2 2 [] [(157,Z4 (first.set x0.toNat (cons.length:Int)))] (Z8 21 (dc 21 [] [1,2] [b2,b1] (TA (first.set x0.toNat (cons.length:Int)) (XG ((ZO n.decls xk).length)) (hl:=WE)) ?_))
  rintro _ _ ⟨v14,rfl,rfl⟩
  refine Yy 1 1 [] [(153,Z4 ((cons.set x0.toNat xk)++(XG ((ZO n.decls xk).length)))),(159,Z4 ((first.set x0.toNat (cons.length:Int))++(XG ((ZO n.decls xk).length))))] (Z8 22 (dc 22 [4,9] [] [] (ih kb _ ((cons.set x0.toNat xk)++(XG ((ZO n.decls xk).length))) ((first.set x0.toNat (cons.length:Int))++(XG ((ZO n.decls xk).length))) e r4 (cc++Wg cons.length i x0) (by first|exact ht0|exact ht1|exact hbt) WE WE (by first|exact hfs|exact TC.x hfs om om) WE WE ob) ?_))
  rintro _ _ ⟨v211,rfl⟩
  have q3:((flB (XK n.decls) n.decls (((cons.set x0.toNat xk)++(XG ((ZO n.decls xk).length))),((first.set x0.toNat (cons.length:Int))++(XG ((ZO n.decls xk).length)))) kb (cc++Wg cons.length i x0))).length+16<=_:=BV (XK n.decls) Xp _ _ _
  simp only [AZ,BU,Hp,ZH,Ys,YF] at q3
  refine de (Zq 5 [6] (Zp (Ze none (k:Int) 2 (UQ hkb)) (Z0 2 (iL (Z6 [kb.result]) 1 1 fun v15=>Y0 1 [(170,.agg [.i 18,.i cons.length,.i 0,.i 0,Z4 [kb.result],.sl [] none])] (ic [1,1] (Jf e v211 (flB (XK n.decls) n.decls (((cons.set x0.toNat xk)++(XG ((ZO n.decls xk).length))),((first.set x0.toNat (cons.length:Int))++(XG ((ZO n.decls xk).length)))) kb (cc++Wg cons.length i x0)) (Instr.mk 18 (cons.length:Int) 0 0 [kb.result] []) (hl:=WE)) ?_)))))
  rintro _ _ ⟨v212,rfl,rfl⟩
  refine ie (ZX 2 (io (.i (((ZU n.decls s.num).length:Nat):Int)) (.i (((Z6 (ZU n.decls s.num)).length:Nat):Int)) (li (by rw [Y9])) (ia (((((ZU n.decls s.num).length:Nat):Int)-1)) (((((ZU n.decls s.num).length:Nat):Int))-(1)) (Y3 ((k:Int)<((((ZU n.decls s.num).length:Nat):Int)-1)) (fun Yk=>?_) (fun Yk=>?_)))))
  ·refine ar (Y0 2 [(178,.agg [.i 22,.i 0,.i 0,.i 0,.sl [] none,.sl [] none])] (ic [0,0] (Jf e v212 ((flB (XK n.decls) n.decls (((cons.set x0.toNat xk)++(XG ((ZO n.decls xk).length))),((first.set x0.toNat (cons.length:Int))++(XG ((ZO n.decls xk).length)))) kb (cc++Wg cons.length i x0))++[(Instr.mk 18 (cons.length:Int) 0 0 [kb.result] [])]) (Instr.mk 22 0 0 0 [] []) (hl:=WE)) ?_))
   rintro _ _ ⟨v213,rfl,rfl⟩
   exact Z1 (az (Z0 2 (iL (Z6 [((((flB (XK n.decls) n.decls (((cons.set x0.toNat xk)++(XG ((ZO n.decls xk).length))),((first.set x0.toNat (cons.length:Int))++(XG ((ZO n.decls xk).length)))) kb (cc++Wg cons.length i x0))++[(Instr.mk 18 (cons.length:Int) 0 0 [kb.result] [])]).length:Nat):Int)]) 1 1 fun v16=>Y0 0 [(182,Z4 [((((flB (XK n.decls) n.decls (((cons.set x0.toNat xk)++(XG ((ZO n.decls xk).length))),((first.set x0.toNat (cons.length:Int))++(XG ((ZO n.decls xk).length)))) kb (cc++Wg cons.length i x0))++[(Instr.mk 18 (cons.length:Int) 0 0 [kb.result] [])]).length:Nat):Int)])] (ip 10 (Z6 ((QK es)++[((((flB (XK n.decls) n.decls (((cons.set x0.toNat xk)++(XG ((ZO n.decls xk).length))),((first.set x0.toNat (cons.length:Int))++(XG ((ZO n.decls xk).length)))) kb (cc++Wg cons.length i x0))++[(Instr.mk 18 (cons.length:Int) 0 0 [kb.result] [])]).length:Nat):Int)])) (Z6 (QK es)) (Z6 [((((flB (XK n.decls) n.decls (((cons.set x0.toNat xk)++(XG ((ZO n.decls xk).length))),((first.set x0.toNat (cons.length:Int))++(XG ((ZO n.decls xk).length)))) kb (cc++Wg cons.length i x0))++[(Instr.mk 18 (cons.length:Int) 0 0 [kb.result] [])]).length:Nat):Int)]) u2 none 1 (YG _) (YG _) (XT _) (by simp [Hv]<;>omega) (by simp [XX,Z6]) fun v17=>Z1 (az (Z0 1 (ZC k (Z1 (ZE ⟨k+1,(ts++[(cc.length:Int)]),v9,(es++[((flB (XK n.decls) n.decls (((cons.set x0.toNat xk)++(XG ((ZO n.decls xk).length))),((first.set x0.toNat (cons.length:Int))++(XG ((ZO n.decls xk).length)))) kb (cc++Wg cons.length i x0))++[(Instr.mk 18 (cons.length:Int) 0 0 [kb.result] [])]).length]),v17,(((flB (XK n.decls) n.decls (((cons.set x0.toNat xk)++(XG ((ZO n.decls xk).length))),((first.set x0.toNat (cons.length:Int))++(XG ((ZO n.decls xk).length)))) kb (cc++Wg cons.length i x0))++[(Instr.mk 18 (cons.length:Int) 0 0 [kb.result] [])])++[(Instr.mk 22 0 0 0 [] [])]),v213,ob,(by have h:=Z79 (X:=XK n.decls) hkb om Zd;rw [hfl3,hie,hA] at h;exact h),(fun j hj=>(Xg.1 hj).elim (fun hj=>(Zz j hj).app.flB.app.app) fun hj=>by rw [Xs.1 hj];exact Zr.new rfl rfl),(EQ (EQ (PJ (EQ YA)))),WE,WE,WE,rfl,rfl,rfl⟩ (wk [2,8,8,9,0,7,1] (fr (fc (x:=Y6 ((QK es)++[((((flB (XK n.decls) n.decls (((cons.set x0.toNat xk)++(XG ((ZO n.decls xk).length))),((first.set x0.toNat (cons.length:Int))++(XG ((ZO n.decls xk).length)))) kb (cc++Wg cons.length i x0))++[(Instr.mk 18 (cons.length:Int) 0 0 [kb.result] [])]).length:Nat):Int)]) v17) (Zl.slh _ (Yn Z6 (Zd3 _ _))) (ZI k fl)))))))))))))
  exact ak (az (Z0 1 (ZC k (Z1 (ZE ⟨k+1,(ts++[(cc.length:Int)]),v9,es,u2,((flB (XK n.decls) n.decls (((cons.set x0.toNat xk)++(XG ((ZO n.decls xk).length))),((first.set x0.toNat (cons.length:Int))++(XG ((ZO n.decls xk).length)))) kb (cc++Wg cons.length i x0))++[(Instr.mk 18 (cons.length:Int) 0 0 [kb.result] [])]),v212,ob,(by have h:=Z7a (X:=XK n.decls) hkb om Zd;rw [hfl3,hie,hA] at h;exact h),(fun j hj=>(Zz j hj).app.flB.app),(EQ (PJ (EQ YA))),WE,WE,WE,rfl,rfl,rfl⟩ (wk [0,6,6,8,6,6,0] (fw (ZI k fl))))))))
 have hAe:=Z78 om Zd
 have hbt:YV (s.kids.take k)=YV s.kids:=by rw [U8 om]
 have hat:=(Xu.1 YA).1
 rw [hxl] at YA
 refine Rq 6 cc.length (v:=r3) (Ar cc) om (fun g1 c1 he1=>?_)
 subst he1
 refine ax 0 (aD 13 (ZV 4 13 [0,1,2,3,4,5,6,7,9] [0,1] (Z8 8 (dL 8 [1,0] [b2,e] (Z6 [x0]) 1 1 fun v18=>?_))))
 refine Zo 2 3 [10] (dx 11 (Vk g1 cc.length c1 c.length 6 (c.length:Int)) (Yy 1 1 [] [(194,.agg [.i 21,.i 0,.i s.num,.i 0,Z4 [x0],Z4 ts])] (Z8 12 (EA 12 7 [] [] g1 cc.length c1 6 (c.length*6) [.i 21,.i 0,.i s.num,.i 0,Z4 [x0],Z4 ts] (Zu (YH cc)) (Zu (YH (cc.set c.length ⟨21,0,s.num,0,[x0],ts⟩))) (by rw [Ar];simp only [Ys,YF];omega) (Pf (t:=⟨21,0,s.num,0,[x0],ts⟩) YA) (de (ZY (ab 4 (Y1 (fun fz gz m F h=>∃(i2:Nat) (cc2:List Instr) (r5:Hd),(i2<=es.length)/\(Tq cc2 (es.drop i2)=VL (XK n.decls) n.decls (cons,first) s c)/\(∀j∈es,Zr cc2 j)/\(cc2.length=cc.length)/\F=sF [0,17] fz [(23,.i i2)]/\h=[.obj e [.h r5],Zi gz 6,rK r5 6 (Zu (YH cc2))]/\m=es.length-i2) _ _ _ ⟨0,(TH cc c.length ts),(⟨some ⟨g1,0,none⟩,cc.length,c1⟩:Hd),ob,hAe,(fun j hj=>(Zz j hj).fan),(BU _ _ _),rfl,rfl,rfl⟩ (wk [2,5,0] (Ya fl) (e:=(rc (rc (rr (ls:=(Zu (YH (cc.set c.length ⟨21,0,s.num,0,[x0],ts⟩)))) (by rw [Z75 YA]) rz))))) ?_))))))))
 rintro m F h ⟨i2,cc2,r5,Ex,QY,Ae,Z4f,rfl,rfl,rfl⟩
 refine YR 2 (io (.i (((QK es).length:Nat):Int)) (.i (((Z6 (QK es)).length:Nat):Int)) (li (by rw [Y9])) (Y3 ((i2:Int)<(((QK es).length:Nat):Int)) (fun YI=>?_) (fun YI=>?_)))
 ·rw [Hv] at YI
  obtain ⟨ei,hei⟩:=Zt es i2 om
  refine ak (aq (ab 5 (az (Z0 3 (Zp (Ef (es:=Z6 (QK es)) (hv:=some u2) (j:=(i2:Int)) (sz:=1) (y:=.i ei) kr om (Y7 (Zd2 hei)) rfl) (Z0 1 (ic [0,1] (MN e r5 cc2 ei (hz:=(by first|exact Ae ei (Y4 hei)|(repeat (first|exact Zr.new rfl rfl|refine Zr.app ?_|refine Zr.flB ?_|refine Zr.aim ?_)))) (hl:=WE)) ?_)))))))
  rintro _ _ ⟨v214,rfl⟩
  exact ie (az (Z0 1 (ZC i2 (Z1 (ZE ⟨i2+1,(Vr cc2 ei),v214,ob,(Z3l hei QY),(fun j hj=>(Ae j hj).aim),WE,rfl,rfl,rfl⟩ (wk [0,1,0] (ZI i2 fl)))))))
 rw [Hv] at YI
 exact ax 4 (r2 [0,1] [] ⟨r5,rfl⟩ (lr _) (eq:=(rc (rr (ls:=Zu (YH cc2)) (by rw [Z3k om QY]) rz))))
theorem Zgn (n:ZF) (b:Z7) (mw:Nat) (cons:LI) (first:LI) (e:Nat) (v:Hd) (c:List Instr) (hn:Xv n) (ht:fB n.decls n.routines.length mw b) (hcl:cons.length=mw) (hfl:first.length=mw) (hfs:TC first) (hb:mw+4*b.sz<=900000000) (hcn:c.length+16*b.sz<=4000000000) (ih:∀(s2:Z5) (m2:Nat) (cons2:LI) (first2:LI) (e:Nat) (v5:Hd) (c2:List Instr),(fS n.decls n.routines.length m2 s2)->(s2.op=7∨s2.op=8)->(cons2.length=m2)->(first2.length=m2)->(TC first2)->(m2+4*s2.sz<=900000000)->(c2.length+16*s2.sz<=4000000000)->(s2.sz<b.sz)->Zm 169 [.p e 0,YC n,X3 s2,Z4 cons2,Z4 first2] [.obj e [.h v5],rK v5 6 (Zu (YH c2))] (fun r h=>∃(v2:Hd),h=[.obj e [.h v2],rK v2 6 (Zu (YH (VL (XK n.decls) n.decls (cons2,first2) s2 c2)))])):Zm 113 [.p e 0,YC n,Ym b,Z4 cons,Z4 first] [.obj e [.h v],rK v 6 (Zu (YH c))] (fun r h=>∃(v2:Hd),h=[.obj e [.h v2],rK v2 6 (Zu (YH (flB (XK n.decls) n.decls (cons,first) b c)))]):=by
 have Xp:=hn.decls
 have hvs:=((J3 b).1 ht).1
 have hbz:=Ux b
 have hbe:=b.sz_eq
 refine ZD 97 Tryz.func113 (ar (iA (X7 n) fun b1=>iA (XW b) fun b2=>?_))
 refine ie (ZY (ab 0 (Y1 (fun fz gz m F h=>∃(k:Nat) (cs:LI) (fs:LI) (cc:List Instr) (r3:Hd),(k<=b.steps.length)/\(mw<=cs.length/\cs.length<=mw+Yr (b.steps.take k))/\(W3 n.decls n.routines.length cs.length (b.steps.drop k))/\(U9 (XK n.decls) n.decls (cs,fs) (b.steps.drop k) cc=U9 (XK n.decls) n.decls (cons,first) b.steps c)/\(fs.length=cs.length)/\(TC fs)/\(cc.length<=c.length+16*Yr (b.steps.take k))/\F=sF [0,6,7] fz [(3,Z4 cs),(4,Z4 fs),(10,.i k)]/\h=[Zi gz 0,Zi gz 1,.obj e [.h r3],rK r3 6 (Zu (YH cc))]/\m=b.steps.length-k) _ _ _ ⟨0,cons,first,c,v,ob,om,(by rw [QS,hcl];exact hvs),rfl,om,hfs,(by simp),rfl,rfl,rfl⟩ (Zs 4 (fw (Ya fl))) ?_)))
 rintro m F h ⟨k,cs,fs,cc,r3,Yi,Zd,Zz,YA,Wb,QX,NP,rfl,rfl,rfl⟩
 refine Yq 3 [0] (iw (UA b.steps) (Y3 ((k:Int)<(b.steps.length:Int)) (fun Z9=>?_) (fun Z9=>?_)))
 ·refine ak (aq (ab 1 (Zq 3 [0] ?_)))
  obtain ⟨x1,Z3⟩:=Zt b.steps k om
  have Xo:=Dc Z3
  have hdr:=Yj Z3
  have c0_2s:=Zz
  rw [hdr] at c0_2s
  obtain ⟨g1,g2⟩:=c0_2s
  have hf:=(Bb x1).1 g1
  have hkz:=K9 x1
  have haz:=Jv x1
  have htk:=HX Z3
  have htl:=KP b.steps (k+1)
  have hsp:=x1.sz_pos
  have hdc:=Z70 hf
  have hfl:=P8 (XK n.decls) Xp x1 (cs,fs) cc
  refine Zp (Ze none (k:Int) 5 (V9 Z3)) (Z0 1 (iA [.i 0,.i 0,.i 0,nl,nl] fun b3=>?_))
  refine ZG 0 b3 (W7 x1) (ie (X6 (Vb [0] (ab 2 (Y5 (Xw (fun fz gz F h=>F=sF [0,3,4,6,7,10,11,26] fz [(41,.b ((x1.op==7)||(x1.op==8)))]/\h=gz) ?_ ?_))))))
  ·refine ac (x1.op==7) Zg (fun Zh=>?_) (fun Zh=>?_)
   ·exact ak (ZM ⟨rfl,rfl⟩ (Zs 5 (fc (x:=.b (x1.op==7)) (lb (by first|rfl|(rw [Zf Zh])|(rw [Za Zh])|(simp [Zh];done)|(rw [Ye];simp [Zh];done)|omega)) fl)))
   exact Vv (ZM ⟨rfl,rfl⟩ (Zs 5 (fc (x:=.b (x1.op==8)) (lb (by first|rfl|(rw [Zf Zh])|(rw [Za Zh])|(simp [Zh];done)|(rw [Ye];simp [Zh];done)|omega)) fl)))
  rintro F h ⟨rfl,rfl⟩
  refine BL (fun fz gz F h=>∃(r4:Hd),F=sF [0,3,4,6,7,10,11] fz []/\h=[Zi gz 0,Zi gz 1,Zi gz 2,.obj e [.h r4],rK r4 6 (Zu (YH (VL (XK n.decls) n.decls (cs,fs) x1 cc)))]) (fun _ _=>rfl) ?_ ?_
  ·refine ac ((x1.op==7)||(x1.op==8)) (p:=(x1.op=7)∨(x1.op=8)) (ZJ Zg Zg) (fun ZA=>?_) (fun ZA=>?_)
   ·refine az (ZB 5 [2,0] (ic [3,3] (ih x1 cs.length cs fs e r3 cc g1 ob ob ob QX ob ob ob) ?_))
    rintro _ _ ⟨v21,rfl⟩
    exact ie (ZM ⟨v21,rfl,rfl⟩ (wk [2,2,2,0,0] fl))
   refine Y5 (Xw (fun fz gz F h=>F=sF [0,3,4,6,7,10,11,26] fz [(50,.b ((x1.op==14)||(x1.op==15)))]/\h=gz) ?_ ?_)
   ·refine ac (x1.op==14) Zg (fun Yk=>?_) (fun Yk=>?_)
    ·exact ak (ZM ⟨rfl,rfl⟩ (Zs 5 (fc (x:=.b (x1.op==14)) (lb (by first|rfl|(rw [Zf Yk])|(rw [Za Yk])|(simp [Yk];done)|(rw [Ye];simp [Yk];done)|omega)) fl)))
    exact Vv (ZM ⟨rfl,rfl⟩ (Zs 5 (fc (x:=.b (x1.op==15)) (lb (by first|rfl|(rw [Zf Yk])|(rw [Za Yk])|(simp [Yk];done)|(rw [Ye];simp [Yk];done)|omega)) fl)))
   rintro F h ⟨rfl,rfl⟩
   refine ac ((x1.op==14)||(x1.op==15)) (p:=(x1.op=14)∨(x1.op=15)) (ZJ Zg Zg) (fun YI=>?_) (fun YI=>?_)
   ·refine aE 8 (ZV 3 8 [0,1,2,3,4] [0,0] (Z8 5 (dc 5 [] [0] [b3] (Vf x1.args) ?_)))
    rintro _ _ ⟨v1,rfl,rfl⟩
    refine Yy 1 2 [6] [(59,.agg [.i x1.op,.i 0,.i 0,.i 0,Z4 x1.args,.sl [] none])] (Z8 7 (dc 7 [4,4] [] [] (Jf e r3 cc (Instr.mk x1.op 0 0 0 x1.args []) (hl:=WE)) ?_))
    rintro _ _ ⟨v22,rfl,rfl⟩
    exact de (ZM ⟨v22,rfl,rfl⟩ (wk [3,3,3,0,0] fl (e:=(rc (rc (rc (rc (rr (ls:=Zu (YH (cc++[(Instr.mk x1.op 0 0 0 x1.args [])]))) (by rw [Z7o YI];rfl) rz))))))))
   refine Y5 (Xw (fun fz gz F h=>F=sF [0,3,4,6,7,10,11] fz [(61,.b ((x1.op==16)||(x1.op==17)))]/\h=gz) ?_ ?_)
   ·refine ac (x1.op==16) Zg (fun X9=>?_) (fun X9=>?_)
    ·exact ak (ZM ⟨rfl,rfl⟩ (Zs 5 (fc (x:=.b (x1.op==16)) (lb (by first|rfl|(rw [Zf X9])|(rw [Za X9])|(simp [X9];done)|(rw [Ye];simp [X9];done)|omega)) fl)))
    exact Vv (ZM ⟨rfl,rfl⟩ (Zs 5 (fc (x:=.b (x1.op==17)) (lb (by first|rfl|(rw [Zf X9])|(rw [Za X9])|(simp [X9];done)|(rw [Ye];simp [X9];done)|omega)) fl)))
   rintro F h ⟨rfl,rfl⟩
   refine ac ((x1.op==16)||(x1.op==17)) (p:=(x1.op=16)∨(x1.op=17)) (ZJ Zg Zg) (fun WH=>?_) (fun WH=>?_)
   ·refine Zq 2 [0] ?_
    obtain ⟨x2,Zv⟩:=Zt x1.args 0 (by obtain ⟨a,ha⟩:=OZ hf om;rw [ha];simp)
    have hg0:=KC Zv
    have hra:=hf.args x2 (Y4 Zv)
    refine Zp (Ze none 0 1 (Y7 Zv)) (Z1 (aE 20 (ZV 11 20 [0,1,2,3,4,5,6,7,8] [0,0,2] ?_)))
    obtain ⟨x3,YN⟩:=Zt cs x2.toNat om
    have hg1:=Te YN
    have hcf:=V8 Xp x3
    refine dx 9 (Ze none x2 1 (Y7 YN)) (Zo 7 10 [10,12,13] ?_)
    obtain ⟨x4,WS⟩:=Zt fs x2.toNat om
    have hg2:=Te WS
    have hgf:=QX _ (Y4 WS)
    have hhl:=GZ (ZO n.decls x3) x4
    refine dx 14 (Ze none x2 1 (Y7 WS)) (Zo 5 6 [15] (Z8 11 (YD 11 [] [0,0] [b3,b3] (Qy n.decls x3) (Z8 16 (YD 16 [] [0,0] [b3,b3] (Zgq (ZO n.decls x3) x4) (Z8 17 (dc 17 [] [0] [b3] (TA x1.args (UE (ZO n.decls x3) x4) (hl:=WE)) ?_)))))))
    rintro _ _ ⟨v2,rfl,rfl⟩
    refine Yy 1 2 [18] [(86,.agg [.i x1.op,.i 0,.i 0,.i 0,Z4 (x1.args++(UE (ZO n.decls x3) x4)),.sl [] none])] (Z8 19 (dc 19 [4,4] [] [] (Jf e r3 cc (Instr.mk x1.op 0 0 0 (x1.args++(UE (ZO n.decls x3) x4)) []) (hl:=WE)) ?_))
    rintro _ _ ⟨v23,rfl,rfl⟩
    exact de (ZM ⟨v23,rfl,rfl⟩ (wk [3,3,3,0,0] fl (e:=(rc (rc (rc (rc (rr (ls:=Zu (YH (cc++[(Instr.mk x1.op 0 0 0 (x1.args++(UE (ZO n.decls x3) x4)) [])]))) (by rw [Z7t WH];show _=Zu (YH (cc++[XF _ 0 0 0 (x1.args++UE (ZO n.decls (gI cs (gI x1.args 0))) (gI fs (gI x1.args 0)))]));rw [hg0,hg1,hg2];rfl) rz))))))))
   refine aE 14 (ZV 10 14 [0,1,2,3] [0] (dw 4 (Y9 cs) (ZV 3 9 [5,6,7,8,9,10] [0,0,0] (Z8 11 (dc 11 [] [0,0,0] [b3,b3,b3] (Vf x1.args) ?_)))))
   rintro _ _ ⟨v3,rfl,rfl⟩
   refine Yy 1 2 [12] [(39,.agg [.i x1.op,.i cs.length,.i x1.num,.i x1.into,Z4 x1.args,.sl [] none])] (Z8 13 (dc 13 [4,4] [] [] (Jf e r3 cc (Instr.mk x1.op (cs.length:Int) x1.num x1.into x1.args []) (hl:=WE)) ?_))
   rintro _ _ ⟨v24,rfl,rfl⟩
   exact de (ZM ⟨v24,rfl,rfl⟩ (wk [3,3,3,0,0] fl (e:=(rc (rc (rc (rc (rr (ls:=Zu (YH (cc++[(Instr.mk x1.op (cs.length:Int) x1.num x1.into x1.args [])]))) (by rw [Z7p om om YI WH];rfl) rz))))))))
  rintro F h ⟨r4,rfl,rfl⟩
  refine Zq 2 [0] (Zw [] (Ko x1.op) (ie (ac (Xd x1.op) Iff.rfl (fun VS=>?_) (fun VS=>?_))))
  ·refine ZX 1 (iL (Z6 [0]) 1 1 fun v4=>Y0 0 [(92,Z4 [0])] (ic [] (TA cs [0] (hl:=WE)) ?_))
   rintro _ _ ⟨v5,rfl,rfl⟩
   refine Z1 (az (Z0 1 (iL (Z6 [0]) 1 1 fun v6=>Y0 0 [(95,Z4 [0])] (ic [] (TA fs [0] (hl:=WE)) ?_))))
   rintro _ _ ⟨v7,rfl,rfl⟩
   refine Z1 (az (Z0 1 (ZC k (Z1 ?_))))
   have hnc:¬YM x1.op=true:=fun q=>by rw [q,VS] at hdc;cases hdc
   rw [Za hnc] at g2
   exact ZE ⟨k+1,(cs++[0]),(fs++[0]),(VL (XK n.decls) n.decls (cs,fs) x1 cc),r4,ob,(by rw [ZH,Jp];omega),(by rw [ZH,Jp];exact g2),(by have h:=Pe (X:=XK n.decls) Z3 YA;rw [Za hnc] at h;exact h),(by simp [Wb]),QX.snoc,om,rfl,rfl,rfl⟩ (wk [5,5,5,5] (fc (x:=Y6 (cs++[0]) v5) (Zl.sl _ (Yn Z6 ob)) (fc (x:=Y6 (fs++[0]) v7) (Zl.sl _ (Yn Z6 ob)) (ZI k fl))))
  refine ak (az (Z0 1 (ZC k (Z1 ?_))))
  have hyc:YM x1.op=true:=by cases q:YM x1.op with
   | true=>rfl
   | false=>rw [q] at hdc;exact absurd hdc VS
  rw [Zf hyc] at g2
  exact ZE ⟨k+1,cs,fs,(VL (XK n.decls) n.decls (cs,fs) x1 cc),r4,ob,om,g2,(by have h:=Pe (X:=XK n.decls) Z3 YA;rw [Zf hyc] at h;exact h),ob,ob,om,rfl,rfl,rfl⟩ (wk [1,1,1,1] (fw (ZI k fl)))
 exact ax 0 (r2 [2,2] [] ⟨r3,rfl⟩ (lr _) (eq:=(rc (rr (ls:=Zu (YH cc)) (by rw [Z7x om YA,Z7c]) rz))))
theorem Zgo (n:ZF) (hn:Xv n) (k:Nat):(∀(s:Z5) (mw:Nat) (cons:LI) (first:LI) (e:Nat) (v:Hd) (c:List Instr),(fS n.decls n.routines.length mw s)->(s.op=7∨s.op=8)->(cons.length=mw)->(first.length=mw)->(TC first)->(mw+4*s.sz<=900000000)->(c.length+16*s.sz<=4000000000)->(s.sz<=k)->Zm 169 [.p e 0,YC n,X3 s,Z4 cons,Z4 first] [.obj e [.h v],rK v 6 (Zu (YH c))] (fun r h=>∃(v2:Hd),h=[.obj e [.h v2],rK v2 6 (Zu (YH (VL (XK n.decls) n.decls (cons,first) s c)))]))/\(∀(b:Z7) (mw:Nat) (cons:LI) (first:LI) (e:Nat) (v:Hd) (c:List Instr),(fB n.decls n.routines.length mw b)->(cons.length=mw)->(first.length=mw)->(TC first)->(mw+4*b.sz<=900000000)->(c.length+16*b.sz<=4000000000)->(b.sz<=k)->Zm 113 [.p e 0,YC n,Ym b,Z4 cons,Z4 first] [.obj e [.h v],rK v 6 (Zu (YH c))] (fun r h=>∃(v2:Hd),h=[.obj e [.h v2],rK v2 6 (Zu (YH (flB (XK n.decls) n.decls (cons,first) b c)))])):=by
 induction k with
 | zero=>exact ⟨fun s m cons first e v c h1 h2 h3 h4 h5 h6 h7 h8=>by have:=s.sz_pos;omega,fun b m cons first e v c h1 h2 h3 h4 h5 h6 h7=>by have:=b.sz_eq;omega⟩
 | succ k ih=>exact ⟨fun s m cons first e v c h1 h2 h3 h4 h5 h6 h7 h8=>Zge n s m cons first e v c hn h1 h2 h3 h4 h5 h6 h7 fun b2 m2 c2 f2 e2 v2 i2 q1 q2 q3 q4 q5 q6 q7=>ih.2 b2 m2 c2 f2 e2 v2 i2 q1 q2 q3 q4 q5 q6 om,fun b m cons first e v c h1 h2 h3 h4 h5 h6 h7=>Zgn n b m cons first e v c hn h1 h2 h3 h4 h5 h6 fun s2 m2 c2 f2 e2 v2 i2 q1 q2 q3 q4 q5 q6 q7 q8=>ih.1 s2 m2 c2 f2 e2 v2 i2 q1 q2 q3 q4 q5 q6 q7 om⟩
theorem Zgm (n:ZF) (b:Z7) (mw:Nat) (cons:LI) (first:LI) (e:Nat) (v:Hd) (c:List Instr) (hn:Xv n:=by exact ob) (ht:fB n.decls n.routines.length mw b:=by exact ob) (hcl:cons.length=mw:=by exact ob) (hfl:first.length=mw:=by exact ob) (hfs:TC first:=by exact ob) (hb:mw+4*b.sz<=900000000:=by exact ob) (hcn:c.length+16*b.sz<=4000000000:=by exact ob):Zm 113 [.p e 0,YC n,Ym b,Z4 cons,Z4 first] [.obj e [.h v],rK v 6 (Zu (YH c))] (fun r h=>∃(v2:Hd),h=[.obj e [.h v2],rK v2 6 (Zu (YH (flB (XK n.decls) n.decls (cons,first) b c)))]):=(Zgo n hn b.sz).2 b mw cons first e v c ht hcl hfl hfs hb hcn (X2 _)
theorem Zgu (c:List Instr) (p:Nat) (hrg:Rg c:=by exact ob) (hlc:c.length<=1000000000:=by exact ob) (hp:p<=1000000000:=by exact ob):Zm 116 [Ka c,.i p] [] (Yt (.i (max (Uo 0 c) (p:Int)))):=by
 refine ZD 45 Tryz.func116 (ZY (ZY (Y5 (ab 0 (Y1 (fun fz gz m F h=>∃(k:Nat) (mx:Int),(k<=c.length)/\(0<=mx/\mx<=1000000001)/\(Uo mx (c.drop k)=Uo (p:Int) c)/\F=sF [0] fz [(5,.i mx),(6,.i k)]/\h=gz/\m=c.length-k) _ _ _ ⟨0,(p:Int),ob,ob,rfl,rfl,rfl,rfl⟩ (wk [] (fr (Ya fl))) ?_)))))
 rintro m F h ⟨k,mx,Yi,Zd,Zz,rfl,rfl,rfl⟩
 refine YR 2 (iw (Ts c) (Y3 ((k:Int)<(c.length:Int)) (fun Z9=>?_) (fun Z9=>?_)))
 ·refine ak (aq (ab 1 (ZX 3 ?_)))
  obtain ⟨x1,Z3⟩:=Zt c k om
  have hrx:=hrg _ (Y4 Z3)
  have hdx:=hrx.dst
  have hlx:=hrx.len
  refine Zp (Ze none (k:Int) 6 (K1 Z3)) (Z0 2 (ia ((x1.dst+1)) ((x1.dst)+(1)) (Zp (Hb mx (x1.dst+1)) (Z1 (ZY (ab 2 (Y1 (fun fz gz m F h=>∃(j:Nat) (mm:Int),(j<=x1.args.length)/\(0<=mm/\mm<=1000000001)/\((x1.args.drop j).foldl (fun m a=>max m (a+1)) mm=Kj mx x1)/\F=sF [0,6] fz [(5,.i mm),(7,.i j)]/\h=gz/\m=x1.args.length-j) _ _ _ ⟨0,(max mx (x1.dst+1)),ob,ob,rfl,rfl,rfl,rfl⟩ (wk [] (fr (Ya fl))) ?_)))))))
  rintro m F h ⟨j,mm,VG,Xm,XN,rfl,rfl,rfl⟩
  refine YR 3 (Zp (Ze none (k:Int) 6 (K1 Z3)) (Z0 2 (iw (Y9 x1.args) (Y3 ((j:Int)<(x1.args.length:Int)) (fun Zh=>?_) (fun Zh=>?_)))))
  ·refine ak (aq (ab 3 (az (Z0 3 (Zp (Ze none (k:Int) 6 (K1 Z3)) (Z0 3 ?_))))))
   obtain ⟨x2,Zv⟩:=Zt x1.args j om
   have hax:=hrx.args x2 (Y4 Zv)
   exact Zp (Ze none (j:Int) 1 (Y7 Zv)) (Z0 1 (ia ((x2+1)) ((x2)+(1)) (Zp (Hb mm (x2+1)) (Z1 (az (Z0 1 (ZC j (Z1 (ZE ⟨j+1,(max mm (x2+1)),ob,ob,(Zcm Zv XN),rfl,rfl,rfl⟩ (wk [] (fr (ZI j fl))))))))))))
  exact ax 2 (az (Z0 1 (ZC k (Z1 (ZE ⟨k+1,mm,ob,ob,(Zeu Z3 (Zcl om XN) Zz),rfl,rfl,rfl⟩ (wk [] (fr (ZI k fl))))))))
 exact ax 0 (ar (Zk (ZP (.i mx) (li (by rw [<-Zes];exact Zet om Zz)))))
theorem Z8w (n:ZF) (q:Nat) (hF:FN n q:=by exact ob) (hq:q<=10000000:=by exact ob):Zm 61 [YC n] [] (Yt (Ui (JH n))):=by
 have hn:=hF.ok
 have hzl:=hF.len
 have Xp:=hn.decls
 refine ZD 73 Tryz.func61 (ar (iA (X7 n) fun b1=>iA [nl,nl] fun b2=>ie (Zq 2 [1] (Zw [] (Br n.decls (hd:=hn.decls)) (iL (We []) 0 5 fun v1=>Z0 1 (iA [nl,nl] fun b3=>?_))))))
 refine ZG 0 b3 [Yu n.decls,Q5 [] v1] (ie (Y5 (ab 0 (Y1 (fun fz gz m F h=>∃(k:Nat) (v:Value),(k<=n.routines.length)/\F=sF [1,2,3] fz [(4,.i k)]/\h=[.obj b3 [Yu n.decls,Q5 ((n.routines.take k).map (Bn n.decls)) v],Zi gz 2,Zi gz 3,.tail v 5]/\m=n.routines.length-k) _ _ _ ⟨0,v1,ob,rfl,rfl,rfl⟩ (wk [0,1,1,0] (Ya fl)) ?_))))
 rintro m F h ⟨k,v,Yi,rfl,rfl,rfl⟩
 refine Yq 3 [2] (iw (TW n.routines) (Y3 ((k:Int)<(n.routines.length:Int)) (fun Z9=>?_) (fun Z9=>?_)))
 ·refine ak (aq (ab 1 (Zq 3 [2] ?_)))
  obtain ⟨x1,Z3⟩:=Zt n.routines k om
  have hrm:=Y4 Z3
  have hbz:=hF.body _ hrm
  have hpl:=hn.params_at Z3
  have hll:=hn.lent_at Z3
  have hcg:=IP hF hq _ hrm
  have hfl:=BV (XK n.decls) Xp (x1).body (XG (x1).params.length,XG (x1).params.length) []
  simp only [YF] at hfl
  refine Zp (Ze none (k:Int) 5 (VJ Z3)) (Z0 1 (iA [nl,nl,.i 0,nl,.i 0] fun b4=>ZG 0 b4 (JL x1) (ie (ar (LS 6 fun g1=>Z0 1 (iA [.ms g1 0 0 0] fun b5=>Z1 (Zq 2 [2] (iw (Y9 x1.params) (Zw [] (Z1p x1.params.length) (Z1 (Zq 6 [5,2] (ic [0,0] (Zgm n x1.body x1.params.length (XG x1.params.length) (XG x1.params.length) b5 (⟨some ⟨g1,0,none⟩,0,0⟩:Hd) [] (ht:=hbz.1) (hcl:=(DY _)) (hfl:=(DY _)) (hfs:=(Z2y _ om)) (hcn:=(by simp only [YF];omega))) ?_))))))))))))
  rintro _ _ ⟨v21,rfl⟩
  refine ie (Zq 4 [2] (iL (Z6 [x1.body.result]) 1 1 fun v2=>Y0 1 [(44,.agg [.i 23,.i 0,.i 0,.i 0,Z4 [x1.body.result],.sl [] none])] (ic [1,1] (Jf b5 v21 (flB (XK n.decls) n.decls ((XG x1.params.length),(XG x1.params.length)) x1.body []) (Instr.mk 23 0 0 0 [x1.body.result] []) (hl:=om)) ?_)))
  rintro _ _ ⟨v22,rfl,rfl⟩
  refine Qp (Z2c 1 v22.v 6 (Zu (YH ((flB (XK n.decls) n.decls ((XG x1.params.length),(XG x1.params.length)) x1.body [])++[(Instr.mk 23 0 0 0 [x1.body.result] [])]))) (Zu (YH (VQ n.decls x1))) (by rfl)) (Qp (Z2b 0 0 0 v22.v 6 b5 (YH (VQ n.decls x1)) [.h v22] (Jz _) rfl) (ie (aE 27 (ZV 13 27 [0,1,2,3,5,6,8,9,10,11,12,13,14,15] [4,3,3,3,0,3] (dw 16 (Y9 x1.params) (ZV 8 12 [18,19,20,21] [0] (Z8 4 (dc 4 [] [0,1,0,1,1,2] [b5,b4,b5,b4,b4,b3] (Vf x1.params) ?_))))))))
  rintro _ _ ⟨v3,rfl,rfl⟩
  refine Z8 7 (dc 7 [] [0,1,0,1,2] [b5,b4,b5,b4,b3] (Vf x1.lent) ?_)
  rintro _ _ ⟨v4,rfl,rfl⟩
  exact Yy 6 6 [] [(59,Ka (VQ n.decls x1))] (Z8 17 (YD 17 [] [0,1,2] [b5,b4,b3] (Zgu (VQ n.decls x1) x1.params.length (hrg:=hcg.1)) (Yy 4 5 [22] [(68,.agg [Z4 x1.params,Z4 x1.lent,.i x1.result,.i (max (Uo 0 (VQ n.decls x1)) (x1.params.length:Int)),Ka (VQ n.decls x1)])] (Z8 23 (dL 23 [2] [b3] (We [(YB.mk x1.params x1.lent x1.result (max (Uo 0 (VQ n.decls x1)) (x1.params.length:Int)) (VQ n.decls x1))]) 1 5 fun v5=>Yy 3 3 [] [(69,F8 [(YB.mk x1.params x1.lent x1.result (max (Uo 0 (VQ n.decls x1)) (x1.params.length:Int)) (VQ n.decls x1))])] (Z8 24 (dp 24 10 [] [] (We ((n.routines.take (k+1)).map (Bn n.decls))) (We ((n.routines.take k).map (Bn n.decls))) (We [(YB.mk x1.params x1.lent x1.result (max (Uo 0 (VQ n.decls x1)) (x1.params.length:Int)) (VQ n.decls x1))]) v none 5 (BQ _) (BQ _) (GC _) (by simp<;>omega) (by rw [VO Z3];simp [We,Bn]) fun v6=>Zo 1 2 [25] (Z8 26 (X5 26 8 [] [] b3 [Yu n.decls,Q5 ((n.routines.take (k+1)).map (Bn n.decls)) v6] (de (az (Z0 1 (ZC k (Z1 (ZE ⟨k+1,v6,ob,rfl,rfl,rfl⟩ (wk [0,8,8,0] (ZI k fl)))))))))))))))))
 exact ax 0 (Zq 1 [0] (ZG 1 b2 [Yu n.decls,Q5 ((n.routines.take k).map (Bn n.decls)) v] (ie (Yc (r3 [] [.agg [Yu n.decls,Q5 ((n.routines.take k).map (Bn n.decls)) v]] [0] [(b2,b2)] ⟨rfl,rfl⟩ (Zl.agg (.cons (Zl.sl _ (Yn Xn rfl)) (.cons (Zl.sl _ (Yn We (by rw [U8 om];rfl))) .nil))))))))
theorem Z8b (rd:Nat) (bs:LI) (p:Nat) (Yd:∀z∈bs,0<=z/\z<=255) (hp:p+400030<=1000000000:=by exact ob):Zm 62 [.p rd 0] [YU rd bs p] (fun r h=>∃(n:ZF) (p2:Nat),r=YC n/\h=[YU rd bs p2]/\FN n 7330630/\p<=p2/\p2<=p+400030):=by
 refine ZD 35 Tryz.func62 (ar (iA [nl,nl] fun b1=>ie (ZX 1 (ic [1] (Z8t rd bs p (Yd:=ob)) ?_))))
 rintro _ _ ⟨n1,p21,rfl,rfl,ZT⟩
 have hcf:=FO.le ZT.1 (show 814510<=814514 by omega)
 have hcp:=ZT
 refine iA [nl,nl] fun b2=>ZG 0 b2 (X7 n1) (ie (YR 1 (ic [1] (V3 rd bs p21 4 (Yd:=ob)) ?_)))
 rintro _ _ ⟨k1,rfl,rfl,Yg⟩
 refine Z1 (Xw (fun fz gz F h=>∃(na:ZF) (pa:Nat),(FO na 814514 Vz)/\(p<=pa/\pa<=p+400010)/\F=sF [0,2,3] fz []/\h=[YU rd bs pa,.obj b2 (X7 na),Zi gz 2]) ?_ ?_)
 ·refine ac (k1==0) Zg (fun Z9=>?_) (fun Z9=>?_)
  ·refine az (ZB 2 [1] (ic [0] (Pz rd bs (p21+1) n1 (Yd:=ob) (hz:=(by first|exact (FO.zn hcp.1).sz om|exact J7.sz om)) (hl1:=(by first|(have:=hcp.1.fn.len;omega)|(have:=J7.len;omega)))) ?_))
   rintro _ _ ⟨n21,p22,rfl,rfl,YJ⟩
   have hho:=YJ
   exact ZG 1 b2 (X7 n21) (ie (ZM ⟨n21,p22,(FO.held hcp.1 hho.1),ob,rfl,rfl⟩ (wk [1,0,0] fl)))
  exact ak (ZM ⟨n1,p21+1,hcf,ob,rfl,rfl⟩ (Zs 3 fl))
 rintro F h ⟨na,pa,Av,Zbf,rfl,rfl⟩
 refine YR 1 (ic [0] (V3 rd bs pa 4 (Yd:=ob)) ?_)
 rintro _ _ ⟨k2,rfl,rfl,YQ⟩
 refine Z1 (Xw (fun fz gz F h=>∃(nb:ZF) (pb:Nat),(FO nb 814514 Vz)/\(p<=pb/\pb<=p+400012)/\F=sF [0,2,3] fz []/\h=[YU rd bs pb,.obj b2 (X7 nb),Zi gz 2]) ?_ ?_)
 ·refine ac (k2==0) Zg (fun Zh=>?_) (fun Zh=>?_)
  ·refine az (ZB 1 [1] (ic [] (Z8h na 814514 (hn:=Av)) ?_))
   rintro _ _ ⟨n22,rfl,rfl,X4⟩
   have hca:=X4
   exact ZG 1 b2 (X7 n22) (ie (ZM ⟨n22,pa+1,hca,ob,rfl,rfl⟩ (wk [1,0,0] fl)))
  exact ak (ZM ⟨na,pa+1,Av,ob,rfl,rfl⟩ (Zs 3 fl))
 rintro F h ⟨nb,pb,VE,Bj,rfl,rfl⟩
 refine ZX 1 (ic [0] (V3 rd bs pb 3 (Yd:=ob)) ?_)
 rintro _ _ ⟨k3,rfl,rfl,Xy⟩
 refine Z1 (Y5 (Xw (fun fz gz F h=>∃(nc:ZF) (pc:Nat),(ZN nc 7330626)/\(FN nc 7330626)/\(k3>1->WN nc 7330626)/\(p<=pc/\pc<=p+400014)/\F=sF [0,2,3,4] fz []/\h=[YU rd bs pc,.obj b2 (X7 nc),Zi gz 2]) ?_ ?_))
 ·refine Wt (k3>0) (fun ZA=>?_) (fun ZA=>?_)
  ·exact az (ZB 1 [1] (Zw [] (Z9x nb (hn:=VE.fn.ok) (hz:=(VE.zn.sz om)) (hwb:=(fun r hr=>(VE.wl om r hr).w))) (ZG 1 b2 (X7 (Da nb)) (ie (ZM ⟨(Da nb),pb+1,((VE.wn om).sp.zn),(VE.fn.sp ((VE.wn om).sp.zn)),(fun _=>(VE.wn om).sp),ob,rfl,rfl⟩ (wk [1,0,0] fl))))))
  exact ak (ZM ⟨nb,pb+1,(VE.zn.le om),(VE.fn.le om),(fun h=>by omega),ob,rfl,rfl⟩ (Zs 3 fl))
 rintro F h ⟨nc,pc,F3,LY,DS,Zjt,rfl,rfl⟩
 refine Y5 (Xw (fun fz gz F h=>∃(nd:ZF) (pd:Nat),(ZN nd 7330626)/\(FN nd 7330626)/\(p<=pd/\pd<=p+400014)/\F=sF [0,2,3] fz []/\h=[YU rd bs pd,.obj b2 (X7 nd),Zi gz 2]) ?_ ?_)
 ·refine Wt (k3>1) (fun Yk=>?_) (fun Yk=>?_)
  ·exact az (ZB 1 [1] (Zw [] (Z9u nc (hn:=(DS (by assumption)).ok) (hz:=(F3.sz om)) (hwb:=(fun r hr=>((DS (by assumption)).wl r hr).w)) (hnr:=(fun r hr=>((DS (by assumption)).wl r hr).nr))) (ZG 1 b2 (X7 (D9 nc)) (ie (ZM ⟨(D9 nc),pc,(DS (by assumption)).ru,(LY.ru (DS (by assumption)).ru),ob,rfl,rfl⟩ (wk [1,0,0] fl))))))
  exact ak (ZM ⟨nc,pc,F3,LY,ob,rfl,rfl⟩ (Zs 3 fl))
 rintro F h ⟨nd,pd,J7,F4,Zju,rfl,rfl⟩
 refine YR 1 (ic [0] (V3 rd bs pd 6 (Yd:=ob)) ?_)
 rintro _ _ ⟨k4,rfl,rfl,Wx⟩
 refine YS (k4==0) Zg (fun YI=>?_) (fun YI=>?_)
 ·refine az (ZB 2 [1] (ic [0] (Pz rd bs (pd+1) nd (Yd:=ob) (hz:=(by first|exact (FO.zn hcp.1).sz om|exact J7.sz om)) (hl1:=(by first|(have:=hcp.1.fn.len;omega)|(have:=J7.len;omega)))) ?_))
  rintro _ _ ⟨n23,p23,rfl,rfl,WZ⟩
  have hho:=WZ
  exact ZG 1 b2 (X7 n23) (ie (Zq 1 [0] (ZG 2 b1 (X7 n23) (ie (Yc (r3 [2] [YC n23] [0] [(b1,b1)] ⟨n23,p23,rfl,rfl,(by first|exact ⟨F4.held hho.1 (J7.held hho.1),by omega,by omega⟩|exact ⟨F4.le om,by omega,by omega⟩)⟩ (lr _)))))))
 exact ak (Zq 1 [1] (ZG 2 b1 (X7 nd) (ie (Yc (r3 [1] [YC nd] [0] [(b1,b1)] ⟨nd,pd+1,rfl,rfl,(by first|exact ⟨F4.held hho.1 (J7.held hho.1),by omega,by omega⟩|exact ⟨F4.le om,by omega,by omega⟩)⟩ (lr _))))))
theorem Zgv (c:List Instr) (k:Nat) (reg:Int) (hf:fwd c:=by exact ob) (ha:∀x∈c,x.op=18∨x.op=23->x.args≠[]) (hn:∀x∈c,x.num<=200000000) (hl:c.length<=200000000:=by exact ob) (hk:k<=1000000000:=by exact ob):Zm 185 [Ka c,.i k,.i reg] [] (Yt (.b (Tj c k reg))):=by
 refine ZD 47 Tryz.func185 (ZY (aq (ab 0 (Y1 (fun fz gz m F h=>∃(j:Nat) (rg:Int),(j<=1000000000)/\(Tj c j rg=Tj c k reg)/\F=sF [0] fz [(1,.i j),(2,.i rg)]/\h=gz/\m=c.length-j) _ _ _ ⟨k,reg,ob,rfl,rfl,rfl,rfl⟩ (wk [] fl) ?_))))
 rintro m F h ⟨j,rg,Yi,Zd,rfl,rfl,rfl⟩
 refine YR 2 (iw (Ts c) (Y3 ((j:Int)<(c.length:Int)) (fun Z9=>?_) (fun Z9=>?_)))
 ·refine ak (ab 1 (ZX 2 ?_))
  obtain ⟨x1,Z3⟩:=Zt c j om
  have hxm:=Y4 Z3
  have hja:=fun z=>hf j _ Z3 z
  have hnx:=hn _ hxm
  refine Zp (Ze none (j:Int) 6 (K1 Z3)) (Z0 1 (iA [.i 0,.i 0,.i 0,.i 0,nl,nl] fun b1=>ZG 0 b1 (Uu x1) (ie (Zq 4 [0] (ib (b:=(x1.op==18)) 19 (fun Zb=>?_) (fun Zb=>?_))))))
  ·have ZT:x1.op=18:=(Zg).1 Zb
   refine ZB 2 [0] ?_
   obtain ⟨x2,Zv⟩:=Zt x1.args 0 (El.2 (ha _ hxm (.inl (by assumption))))
   have hg:=KC Zv
   refine Zp (Ze none 0 1 (Y7 Zv)) (YS (x2==rg) Zg (fun Zh=>?_) (fun Zh=>?_))
   ·exact Bd [0] (az (Z0 1 (ZC j (Z1 (ZE ⟨j+1,x1.dst,om,((Zfa hf Z3 ⟨ZT,by rw [hg];assumption⟩).trans Zd),rfl,rfl,rfl⟩ (wk [] (ZI j fl)))))))
   refine Bd [0] (ac (x1.op==22) Zg (fun ZA=>?_) (fun ZA=>?_))
   ·exact az (Vb [0] (⟨_,_,_,(by have:=hja (by assumption);omega),⟨x1.num.toNat,rg,(by first|omega|(have:=hja (by assumption);omega)),((Z0k hf Z3 (by assumption)).trans Zd),rfl,rfl,rfl⟩,(wk [] (fc (x:=.i x1.num) (li (by have:=hja (by assumption);omega)) fl))⟩))
   refine ar (YW 11 [] [(46,.b ((x1.op==23)&&(x2==rg)))] (fun gz=>gz) ?_ (fun hj1=>?_))
   ·exact Zk (ZP (.b ((x1.op==23)&&(x2==rg))) (lb (by first|exact (Zd▸HH om)|(rw [<-Zd,<-Cd Z3 (fun z=>by simp_all) (by assumption)];simp_all;done)|(rw [<-Zd,<-Cd Z3 (fun z=>by simp_all) (by assumption)];simp_all;rw [Ye];simp))))
   refine ZB 4 [0] (ib (b:=(x1.op==23)) 39 (fun Zy=>?_) (fun Zy=>?_))
   ·have Yg:x1.op=23:=(Zg).1 Zy
    exact ZB 2 [0] (Zp (Ze none 0 1 (Y7 Zv)) (Z0 4 (ZZ (wk [0] (Zj (x2==rg) Zy fl)) hj1)))
   have YJ:¬(x1.op=23):=Y2 Zg Zy
   exact Z0 7 (ZZ (wk [0] (Zj false Zy fl)) hj1)
  have YQ:¬(x1.op=18):=Y2 Zg Zb
  refine Z1 (VP (Bd [0] (ac (x1.op==22) Zg (fun Yk=>?_) (fun Yk=>?_))))
  ·exact az (Vb [0] (⟨_,_,_,(by have:=hja (by assumption);omega),⟨x1.num.toNat,rg,(by first|omega|(have:=hja (by assumption);omega)),((Z0k hf Z3 (by assumption)).trans Zd),rfl,rfl,rfl⟩,(wk [] (fc (x:=.i x1.num) (li (by have:=hja (by assumption);omega)) fl))⟩))
  refine Zq 4 [0] (ib (b:=(x1.op==23)) 39 (fun Yf=>?_) (fun Yf=>?_))
  ·have X4:x1.op=23:=(Zg).1 Yf
   refine ZB 2 [0] ?_
   obtain ⟨x3,YN⟩:=Zt x1.args 0 (El.2 (ha _ hxm (.inr (by assumption))))
   have hg:=KC YN
   exact Zp (Ze none 0 1 (Y7 YN)) (Zk (ZP (.b (x3==rg)) (lb (by first|exact (Zd▸HH om)|(rw [<-Zd,<-Cd Z3 (fun z=>by simp_all) (by assumption)];simp_all;done)|(rw [<-Zd,<-Cd Z3 (fun z=>by simp_all) (by assumption)];simp_all;rw [Ye];simp)))))
  have Xy:¬(x1.op=23):=Y2 Zg Yf
  exact Zk (ZP (.b false) (lb (by first|exact (Zd▸HH om)|(rw [<-Zd,<-Cd Z3 (fun z=>by simp_all) (by assumption)];simp_all;done)|(rw [<-Zd,<-Cd Z3 (fun z=>by simp_all) (by assumption)];simp_all;rw [Ye];simp))))
 exact ax 0 (ar (Zk (ZP (.b false) (lb (by first|exact (Zd▸HH om)|(rw [<-Zd,<-Cd Z3 (fun z=>by simp_all) (by assumption)];simp_all;done)|(rw [<-Zd,<-Cd Z3 (fun z=>by simp_all) (by assumption)];simp_all;rw [Ye];simp))))))
theorem Zgi (x:Instr) (h1:x.args.length<=1000000:=by exact ob) (h2:x.jumps.length<=1000000:=by exact ob):Zm 184 [Ku x] [] (Yt (Ku x)):=by
 refine ZD 18 Tryz.func184 (ar (iA (Uu x) fun b1=>iA [.i 0,.i 0,.i 0,.i 0,nl,nl] fun b2=>ie (aD 16 (ZV 4 16 [0,1,2,3,4,5,6,7,8,9,11,12] [1,1,1,1,1,1] (Z8 10 (dc 10 [] [1,1,1,1,1] [b1,b1,b1,b1,b1] (Vf x.args) ?_))))))
 rintro _ _ ⟨v1,rfl,rfl⟩
 refine Z8 13 (dc 13 [] [1,1,1,1] [b1,b1,b1,b1] (Vf x.jumps) ?_)
 rintro _ _ ⟨v2,rfl,rfl⟩
 exact Zo 1 2 [14] (Z8 15 (X5 15 2 [] [] b2 [.i x.op,.i x.dst,.i x.num,.i x.into,Y6 x.args v1,Y6 x.jumps v2] (de (Yc (r3 [] [.agg [.i x.op,.i x.dst,.i x.num,.i x.into,Y6 x.args v1,Y6 x.jumps v2]] [0] [(b2,b2)] ⟨rfl,rfl⟩ (Zl.agg (.cons (lr _) (.cons (lr _) (.cons (lr _) (.cons (lr _) (.cons (Zl.forget _ _) (.cons (Zl.forget _ _) .nil))))))))))))
theorem Zhd (c:List Instr) (hf:fwd c:=by exact ob) (ha:∀x∈c,x.op=18∨x.op=23->x.args≠[]) (hn:∀x∈c,x.num<=200000000) (hs:∀x∈c,x.args.length<=1000/\x.jumps.length<=1000) (hl:c.length<=200000000:=by exact ob):Zm 121 [Ka c] [] (Yt (Ka (Kr c))):=by
 refine ZD 44 Tryz.func121 (ZY (ar (iL (YH []) 0 6 fun v1=>?_)))
 refine Z1 (Y5 (ab 0 (Y1 (fun fz gz m F h=>∃(k:Nat) (xs:List Instr) (v:Value),(k<=c.length)/\(xs=Jh c (c.take k) 0)/\(xs.length=k)/\F=sF [0] fz [(3,D4 xs v),(4,.i k)]/\h=[.tail v 6]/\m=c.length-k) _ _ _ ⟨0,[],v1,ob,rfl,rfl,rfl,rfl,rfl⟩ (wk [0] (fr (Ya fl))) ?_)))
 rintro m F h ⟨k,xs,v,Yi,Zd,Zz,rfl,rfl,rfl⟩
 refine YR 2 (iw (Ts c) (Y3 ((k:Int)<(c.length:Int)) (fun Z9=>?_) (fun Z9=>?_)))
 ·refine ak (aq (ab 1 (ZX 2 ?_)))
  obtain ⟨x1,Z3⟩:=Zt c k om
  have hxa:=hs _ (Y4 Z3)
  refine Zp (Ze none (k:Int) 6 (K1 Z3)) (Z0 1 (Zw [] (Zgi x1) (iA [.i 0,.i 0,.i 0,.i 0,nl,nl] fun b1=>ZG 0 b1 (Uu x1) (ie (ar (Xi [0,3,4,5] [(28,.b ((x1.op==9)&&(Tj c (k+1) x1.dst)))] (fun gz=>gz) ?_ ?_))))))
  ·refine ZB 4 [0] (ib (b:=(x1.op==9)) 21 (fun Zb=>?_) (fun Zb=>?_))
   ·have ZT:x1.op=9:=(Zg).1 Zb
    exact Z0 2 (ZC k (ZB 2 [0] (Zw [] (Zgv c (k+1) x1.dst (hf:=hf) (ha:=ha) (hn:=hn)) (Z1 (wk [0,0] (Zj (Tj c (k+1) x1.dst) Zb fl))))))
   have Yg:¬(x1.op=9):=Y2 Zg Zb
   exact Z1 (wk [0,0] (Zj false Zb fl))
  refine ac ((x1.op==9)&&(Tj c (k+1) x1.dst)) (p:=(x1.op=9)/\((Tj c (k+1) x1.dst)=true)) (Yo Zg Iff.rfl) (fun Zh=>?_) (fun Zh=>?_)
  ·exact az (ZB 8 [0,0,0] (iL (YH [Instr.mk 24 0 x1.num 0 x1.args x1.jumps]) 1 6 fun v2=>Y0 0 [(37,Ka [Instr.mk 24 0 x1.num 0 x1.args x1.jumps])] (ip 2 (YH (xs++[Instr.mk 24 0 x1.num 0 x1.args x1.jumps])) (YH xs) (YH [Instr.mk 24 0 x1.num 0 x1.args x1.jumps]) v none 6 (Jz _) (Jz _) (ED _) (by simp<;>omega) (by simp [CE,YH]) fun v3=>Z1 (az (Z0 1 (ZC k (Z1 (ZE ⟨k+1,(xs++[Instr.mk 24 0 x1.num 0 x1.args x1.jumps]),v3,ob,(by rw [Zd,<-Z2d Z3,JW,Zf (by first|assumption|(constructor<;>assumption))]),(by rw [ZH,Zz];rfl),rfl,rfl,rfl⟩ (wk [0] (fr (ZI k fl)))))))))))
  exact az (ZB 2 [0] (iL (YH [x1]) 1 6 fun v4=>Y0 0 [(41,Ka [x1])] (ip 2 (YH (xs++[x1])) (YH xs) (YH [x1]) v none 6 (Jz _) (Jz _) (ED _) (by simp<;>omega) (by simp [CE,YH]) fun v5=>Z1 (az (Z0 1 (ZC k (Z1 (ZE ⟨k+1,(xs++[x1]),v5,ob,(by rw [Zd,<-Z2d Z3,JW,Za (by assumption)]),(by rw [ZH,Zz];rfl),rfl,rfl,rfl⟩ (wk [0] (fr (ZI k fl)))))))))))
 exact ax 0 (ar (Zk (ZP (D4 xs v) (Zl.sl _ (Yn YH (by rw [Zd,U8 om];rfl))))))
theorem Zhc (im:Yx) (hg:TG im:=by exact ob):Zm 63 [Ui im] [] (Yt (Ui (FV im))):=by
 have hil:=hg.len
 have Xp:=hg.decls
 refine ZD 43 Tryz.func63 (ar (iA (VV im) fun b1=>iA [nl,nl] fun b2=>ie (Zq 2 [1] (Zw [] (Br im.decls (hd:=Xp)) (iL (We []) 0 5 fun v1=>Z0 1 (iA [nl,nl] fun b3=>?_))))))
 refine ZG 0 b3 [Yu im.decls,Q5 [] v1] (ie (Y5 (ab 0 (Y1 (fun fz gz m F h=>∃(k:Nat) (xs:List YB) (v:Value),(k<=im.procs.length)/\(xs=(im.procs.take k).map I1)/\(xs.length=k)/\F=sF [1,2,3] fz [(4,.i k)]/\h=[.obj b3 [Yu im.decls,Q5 xs v],Zi gz 2,Zi gz 3,.tail v 5]/\m=im.procs.length-k) _ _ _ ⟨0,[],v1,ob,rfl,rfl,rfl,rfl,rfl⟩ (wk [0,1,1,0] (Ya fl)) ?_))))
 rintro m F h ⟨k,xs,v,Yi,Zd,Zz,rfl,rfl,rfl⟩
 refine Yq 3 [2] (iw (QC im.procs) (Y3 ((k:Int)<(im.procs.length:Int)) (fun Z9=>?_) (fun Z9=>?_)))
 ·refine ak (aq (ab 1 (Zq 3 [2] ?_)))
  obtain ⟨x1,Z3⟩:=Zt im.procs k om
  have hpg:=hg.procs _ (Y4 Z3)
  have hpl:=hpg.params
  have hll:=hpg.lent
  have hcl:=hpg.len
  refine Zp (Ze none (k:Int) 5 (J2 Z3)) (Z0 1 (iA [nl,nl,.i 0,.i 0,nl] fun b4=>ZG 0 b4 (UT x1) (ie (aE 20 (ZV 8 20 [0,1,2,3,5,6,8,9,10,11,12,13] [1,0,0,0,0,0] (Z8 4 (dc 4 [] [0,0,0,0,1] [b4,b4,b4,b4,b3] (Vf x1.params) ?_)))))))
  rintro _ _ ⟨v2,rfl,rfl⟩
  refine Z8 7 (dc 7 [] [0,0,0,1] [b4,b4,b4,b3] (Vf x1.lent) ?_)
  rintro _ _ ⟨v3,rfl,rfl⟩
  exact Z8 14 (YD 14 [] [0,0,1] [b4,b4,b3] (Zhd x1.code (hf:=hpg.fwd) (ha:=hpg.args) (hn:=hpg.num) (hs:=hpg.sz)) (Yy 4 5 [15] [(38,.agg [Z4 x1.params,Z4 x1.lent,.i x1.result,.i x1.regs,Ka (Kr x1.code)])] (Z8 16 (dL 16 [1] [b3] (We [YB.mk x1.params x1.lent x1.result x1.regs (Kr x1.code)]) 1 5 fun v4=>Yy 3 3 [] [(39,F8 [YB.mk x1.params x1.lent x1.result x1.regs (Kr x1.code)])] (Z8 17 (dp 17 7 [] [] (We (xs++[YB.mk x1.params x1.lent x1.result x1.regs (Kr x1.code)])) (We xs) (We [YB.mk x1.params x1.lent x1.result x1.regs (Kr x1.code)]) v none 5 (BQ _) (BQ _) (GC _) (by simp<;>omega) (by simp [Le,We]) fun v5=>Zo 1 2 [18] (Z8 19 (X5 19 5 [] [] b3 [Yu im.decls,Q5 (xs++[YB.mk x1.params x1.lent x1.result x1.regs (Kr x1.code)]) v5] (de (az (Z0 1 (ZC k (Z1 (ZE ⟨k+1,(xs++[YB.mk x1.params x1.lent x1.result x1.regs (Kr x1.code)]),v5,ob,(by rw [Zd,VO Z3,List.map_append];rfl),(by rw [ZH,Zz];rfl),rfl,rfl,rfl⟩ (wk [0,5,5,0] (ZI k fl))))))))))))))))
 exact ax 0 (Zq 1 [0] (ZG 1 b2 [Yu im.decls,Q5 xs v] (ie (Yc (r3 [] [.agg [Yu im.decls,Q5 xs v]] [0] [(b2,b2)] ⟨rfl,rfl⟩ (Zl.agg (.cons (Zl.sl _ (Yn Xn rfl)) (.cons (Zl.sl _ (Yn We (by rw [Zd,U8 om];rfl))) .nil))))))))
theorem Kq (g:Hd) (xs:LI) (z:Int) (hl:xs.length<=400000000000:=by exact ob) (hz:-32768<=z/\z<=1000000100:=by exact ob):Zm 58 [.h g,.i z] [rV g xs] (fun r h=>∃(w:Hd),r=.h w/\h=[rV w (xs++en z)]):=by
 exact ZD 14 Tryz.func58 (ZY (ZX 2 (ia ((z+32768)) ((z)+(32768)) (Zp (Hc (z+32768) 256 om om) (Z0 1 (ia ((z+32768)) ((z)+(32768)) (Zp (F5 (z+32768) 256 om om) (iL (Z6 [(z+32768) / 256,(z+32768) % 256]) 2 1 fun v1=>Y0 0 [(12,Z4 [(z+32768) / 256,(z+32768) % 256])] (Bi 1 g xs [(z+32768) / 256,(z+32768) % 256] none fun v2=>Zk (r1 [0] ⟨v2,rfl,rfl⟩ (eq:=(rv (xs:=(xs++[(z+32768) / 256,(z+32768) % 256])) rfl rz))))))))))))
theorem FU (g:Hd) (xs:LI) (l:LI) (hl:xs.length<=300000000000:=by exact ob) (hr:WL l:=by exact ob):Zm 59 [.h g,Z4 l] [rV g xs] (fun r h=>∃(w:Hd),r=.h w/\h=[rV w (xs++XU l)]):=by
 have hrl:=hr.len
 refine ZD 23 Tryz.func59 (ZY (ZX 2 (iw (Y9 l) (ic [0] (Kq g xs (l.length:Int)) ?_))))
 rintro _ _ ⟨w1,rfl,rfl⟩
 refine Z1 (Y5 (ab 0 (Y1 (fun fz gz m F h=>∃(j:Nat) (ys:LI) (u3:Hd),(j<=l.length)/\(ys++TX (l.drop j)=xs++XU l)/\F=sF [1] fz [(0,.h u3),(5,.i j)]/\h=[rV u3 ys]/\m=l.length-j) _ _ _ ⟨0,(xs++en (l.length:Int)),w1,ob,(by rw [XU,XM];rfl),rfl,rfl,rfl⟩ (wk [0] (fr (Ya fl))) ?_)))
 rintro m F h ⟨j,ys,u3,Yi,Zd,rfl,rfl,rfl⟩
 refine YR 2 (iw (Y9 l) (Y3 ((j:Int)<(l.length:Int)) (fun Z9=>?_) (fun Z9=>?_)))
 ·have hyl:=Q8 Zd
  rw [ZH,Wa] at hyl
  refine ak (aq (ab 1 (az (Z0 3 ?_))))
  obtain ⟨x1,Z3⟩:=Zt l j om
  have hx1r:=hr.rg _ (Y4 Z3)
  refine Zp (Ze none (j:Int) 1 (Y7 Z3)) (Z0 1 (ic [0] (Kq u3 ys x1) ?_))
  rintro _ _ ⟨w2,rfl,rfl⟩
  exact Z1 (az (Z0 1 (ZC j (Z1 (ZE ⟨j+1,(ys++en x1),w2,ob,(Lm Z3 Zd),rfl,rfl,rfl⟩ (wk [0] (fr (ZI j fl))))))))
 exact ax 0 (ar (Zk (r1 [0] ⟨u3,rfl,rfl⟩ (eq:=(rv (xs:=ys) (Ll om Zd) rz)))))
theorem Zic (g:Hd) (xs:LI) (x:Instr) (hl:xs.length<=200000000000:=by exact ob) (hr:WX x:=by exact ob):Zm 60 [.h g,Ku x] [rV g xs] (fun r h=>∃(w:Hd),r=.h w/\h=[rV w (xs++Tv x)]):=by
 have hs1:=hr.op
 have hs2:=hr.dst
 have hs3:=hr.num
 have hs4:=hr.into
 have hs5:=hr.args.len
 refine ZD 26 Tryz.func60 (ar (iA (Uu x) fun b1=>Z1 (aD 8 (ZV 3 8 [0,1,2,4,5] [0,0] (Z8 3 (dc 3 [1] [0] [b1] (Kq g xs x.op (hl:=(by (try simp only [ZH,YF,XV,Wa]);omega))) ?_))))))
 rintro _ _ ⟨w1,rfl,rfl⟩
 refine Z8 6 (dc 6 [0] [] [] (Kq w1 (xs++en x.op) x.dst (hl:=(by (try simp only [ZH,YF,XV,Wa]);omega))) ?_)
 rintro _ _ ⟨w2,rfl,rfl⟩
 refine Zo 0 1 [7] (de (aD 8 (ZV 3 8 [0,1,2,4,5] [1,1] (Z8 3 (dc 3 [0] [0] [b1] (Kq w2 ((xs++en x.op)++en x.dst) x.num (hl:=(by (try simp only [ZH,YF,XV,Wa]);omega))) ?_)))))
 rintro _ _ ⟨w3,rfl,rfl⟩
 refine Z8 6 (dc 6 [0] [] [] (Kq w3 (((xs++en x.op)++en x.dst)++en x.num) x.into (hl:=(by (try simp only [ZH,YF,XV,Wa]);omega))) ?_)
 rintro _ _ ⟨w4,rfl,rfl⟩
 refine Zo 0 1 [7] (de (aD 8 (ZV 3 8 [0,1,2,4,5] [1,1] (Z8 3 (dc 3 [0] [0] [b1] (FU w4 ((((xs++en x.op)++en x.dst)++en x.num)++en x.into) x.args (hl:=(by (try simp only [ZH,YF,XV,Wa]);omega)) (hr:=(by first|exact hr.args|exact hr.jumps))) ?_)))))
 rintro _ _ ⟨w5,rfl,rfl⟩
 refine Z8 6 (dc 6 [0] [] [] (FU w5 (((((xs++en x.op)++en x.dst)++en x.num)++en x.into)++XU x.args) x.jumps (hl:=(by (try simp only [ZH,YF,XV,Wa]);omega)) (hr:=(by first|exact hr.args|exact hr.jumps))) ?_)
 rintro _ _ ⟨w6,rfl,rfl⟩
 exact Zo 0 1 [7] (de (Yc (r1 [0] ⟨w6,rfl,rfl⟩ (eq:=(rv (xs:=((((((xs++en x.op)++en x.dst)++en x.num)++en x.into)++XU x.args)++XU x.jumps)) (by simp only [Tv,XM]) rz)))))
theorem Zib (g:Hd) (xs:LI) (ds:List Zc) (hl:xs.length<=100000000000:=by exact ob) (h4:ds.length<=4:=by exact ob) (hr:∀d∈ds,WD d):Zm 57 [.h g,Yu ds] [rV g xs] (fun r h=>∃(w:Hd),r=.h w/\h=[rV w (xs++TF ds)]):=by
 have hel:=N5 hr
 have hT1:(xs++TF ds).length<=100000050000:=by rw [ZH,TF,ZH,XV];omega
 refine ZD 60 Tryz.func57 (ZY (ZX 2 (iw (VI ds) (ic [0] (Kq g xs (ds.length:Int) (hl:=(by (try simp only [ZH,YF,XV,Wa]);omega))) ?_))))
 rintro _ _ ⟨w1,rfl,rfl⟩
 refine Z1 (Y5 (ab 0 (Y1 (fun fz gz m F h=>∃(k:Nat) (ys:LI) (u3:Hd),(k<=ds.length)/\(ys++Ta (ds.drop k)=xs++TF ds)/\F=sF [1] fz [(0,.h u3),(5,.i k)]/\h=[rV u3 ys]/\m=ds.length-k) _ _ _ ⟨0,(xs++en (ds.length:Int)),w1,ob,(by rw [TF,XM];rfl),rfl,rfl,rfl⟩ (wk [0] (fr (Ya fl))) ?_)))
 rintro m F h ⟨k,ys,u3,Yi,Zd,rfl,rfl,rfl⟩
 refine YR 2 (iw (VI ds) (Y3 ((k:Int)<(ds.length:Int)) (fun Z9=>?_) (fun Z9=>?_)))
 ·have hyl:=Q8 Zd
  refine ak (aq (ab 1 (aD 14 (Zo 11 14 [0,1,2] ?_))))
  obtain ⟨x1,Z3⟩:=Zt ds k om
  have hrd:=hr _ (Y4 Z3)
  have hyd:=Q8 (GH Z3 Zd)
  have hr1:=hrd.frm
  have hr2:=hrd.to_
  have hr3:=hrd.len
  refine dx 3 (Ze none (k:Int) 3 (Ww Z3)) (Zo 6 10 [4,5,7,8] (dx 9 (Ze none (k:Int) 3 (Ww Z3)) (Zo 3 5 [10,11] (Z8 6 (dc 6 [0] [] [] (Kq u3 ys x1.frm (hl:=(by (try simp only [ZH,YF,XV,Wa]);omega))) ?_)))))
  rintro _ _ ⟨w2,rfl,rfl⟩
  refine Z8 12 (dc 12 [0] [] [] (Kq w2 (ys++en x1.frm) x1.to_ (hl:=(by (try simp only [ZH,YF,XV,Wa]);omega))) ?_)
  rintro _ _ ⟨w3,rfl,rfl⟩
  refine Zo 0 1 [13] (de (ZX 3 (Zp (Ze none (k:Int) 3 (Ww Z3)) (Z0 2 (iw (U3 x1.cons) (ic [0] (Kq w3 ((ys++en x1.frm)++en x1.to_) (x1.cons.length:Int) (hl:=(by (try simp only [ZH,YF,XV,Wa]);omega))) ?_))))))
  rintro _ _ ⟨w4,rfl,rfl⟩
  refine Z1 (ZY (ab 2 (Y1 (fun fz gz m F h=>∃(j:Nat) (zs:LI) (u4:Hd),(j<=x1.cons.length)/\(zs++UR (x1.cons.drop j)=ys++Tt x1)/\F=sF [1,5] fz [(0,.h u4),(6,.i j)]/\h=[rV u4 zs]/\m=x1.cons.length-j) _ _ _ ⟨0,(((ys++en x1.frm)++en x1.to_)++en (x1.cons.length:Int)),w4,ob,(by rw [QS];simp only [Tt,XM]),rfl,rfl,rfl⟩ (wk [0] (fr (Ya fl))) ?_)))
  rintro m F h ⟨j,zs,u4,VG,Xm,rfl,rfl,rfl⟩
  refine YR 3 (Zp (Ze none (k:Int) 3 (Ww Z3)) (Z0 2 (iw (U3 x1.cons) (Y3 ((j:Int)<(x1.cons.length:Int)) (fun Zh=>?_) (fun Zh=>?_)))))
  ·have hzl:=Q8 Xm
   refine ak (aq (ab 3 (az (Z0 3 (Zp (Ze none (k:Int) 3 (Ww Z3)) (Z0 3 ?_))))))
   obtain ⟨x2,Zv⟩:=Zt x1.cons j om
   have hrc:=hrd.cons _ (Y4 Zv)
   refine Zp (Ze none (j:Int) 1 (Ak Zv)) (Z0 2 (ic [0] (FU u4 zs x2.fields (hl:=(by (try simp only [ZH,YF,XV,Wa]);omega)) (hr:=hrc)) ?_))
   rintro _ _ ⟨w5,rfl,rfl⟩
   exact Z1 (az (Z0 1 (ZC j (Z1 (ZE ⟨j+1,(zs++XU x2.fields),w5,ob,(Ot Zv Xm),rfl,rfl,rfl⟩ (wk [0] (fr (ZI j fl))))))))
  exact ax 2 (az (Z0 1 (ZC k (Z1 (ZE ⟨k+1,zs,u4,ob,(by rw [On om Xm];exact GH Z3 Zd),rfl,rfl,rfl⟩ (wk [0] (fr (ZI k fl))))))))
 exact ax 0 (ar (Zk (r1 [0] ⟨u3,rfl,rfl⟩ (eq:=(rv (xs:=ys) (Ow om Zd) rz)))))
theorem Zia (im:Yx) (hr:WI im:=by exact ob):Zm 25 [Ui im] [] (fun r h=>∃(w:Hd),r=.h w/\h=[rV w (W0 im)]):=by
 have hel:=N6 hr
 have hd4:=hr.dlen
 have YQ:=hr.plen
 have hrd:=hr.decls
 refine ZD 62 Tryz.func25 (ar (iA (VV im) fun b1=>Z1 (ar (PX [] 0 fun v1=>ZB 2 [1] (ic [0] (Zib v1 [] im.decls (hl:=(T2 _)) (h4:=hd4) (hr:=hrd)) ?_)))))
 rintro _ _ ⟨w1,rfl,rfl⟩
 refine Z1 (Zq 3 [1] (iw (QC im.procs) (ic [0] (Kq w1 ([]++TF im.decls) (im.procs.length:Int) (hl:=(by (try simp only [ZH,YF,XV,Wa]);omega))) ?_)))
 rintro _ _ ⟨w2,rfl,rfl⟩
 refine Z1 (Y5 (ab 0 (Y1 (fun fz gz m F h=>∃(k:Nat) (ys:LI) (u3:Hd),(k<=im.procs.length)/\(ys++UB (im.procs.drop k)=W0 im)/\F=sF [1] fz [(3,.h u3),(4,.i k)]/\h=[Zi gz 1,rV u3 ys]/\m=im.procs.length-k) _ _ _ ⟨0,(([]++TF im.decls)++en (im.procs.length:Int)),w2,ob,(by rw [QS,Jq];simp only [W0,XM]),rfl,rfl,rfl⟩ (wk [1,0] (fr (Ya fl))) ?_)))
 rintro m F h ⟨k,ys,u3,Yi,Zd,rfl,rfl,rfl⟩
 refine Yq 3 [0] (iw (QC im.procs) (Y3 ((k:Int)<(im.procs.length:Int)) (fun Z9=>?_) (fun Z9=>?_)))
 ·have hyl:=Q8 Zd
  refine ak (aq (ab 1 (Zq 3 [0] ?_)))
  obtain ⟨x1,Z3⟩:=Zt im.procs k om
  have hrp:=hr.procs _ (Y4 Z3)
  have hyp:=Q8 (GJ Z3 Zd)
  have hq1:=hrp.result
  have hq2:=hrp.regs
  have hq3:=hrp.len
  have hq4:=hrp.params.len
  have hq5:=hrp.lent.len
  refine Zp (Ze none (k:Int) 5 (J2 Z3)) (Z0 1 (iA [nl,nl,.i 0,.i 0,nl] fun b2=>ZG 0 b2 (UT x1) (ie (aD 8 (ZV 3 8 [0,1,2,4,5] [0,0] (Z8 3 (dc 3 [2] [0] [b2] (FU u3 ys x1.params (hl:=(by (try simp only [ZH,YF,XV,Wa]);omega)) (hr:=(by first|exact hrp.params|exact hrp.lent))) ?_)))))))
  rintro _ _ ⟨w3,rfl,rfl⟩
  refine Z8 6 (dc 6 [0] [] [] (FU w3 (ys++XU x1.params) x1.lent (hl:=(by (try simp only [ZH,YF,XV,Wa]);omega)) (hr:=(by first|exact hrp.params|exact hrp.lent))) ?_)
  rintro _ _ ⟨w4,rfl,rfl⟩
  refine Zo 0 1 [7] (de (aD 8 (ZV 3 8 [0,1,2,4,5] [1,1] (Z8 3 (dc 3 [0] [0] [b2] (Kq w4 ((ys++XU x1.params)++XU x1.lent) x1.result (hl:=(by (try simp only [ZH,YF,XV,Wa]);omega))) ?_)))))
  rintro _ _ ⟨w5,rfl,rfl⟩
  refine Z8 6 (dc 6 [0] [] [] (Kq w5 (((ys++XU x1.params)++XU x1.lent)++en x1.result) x1.regs (hl:=(by (try simp only [ZH,YF,XV,Wa]);omega))) ?_)
  rintro _ _ ⟨w6,rfl,rfl⟩
  refine Zo 0 1 [7] (de (Zq 3 [1] (iw (Ts x1.code) (ic [0] (Kq w6 ((((ys++XU x1.params)++XU x1.lent)++en x1.result)++en x1.regs) (x1.code.length:Int) (hl:=(by (try simp only [ZH,YF,XV,Wa]);omega))) ?_))))
  rintro _ _ ⟨w7,rfl,rfl⟩
  refine Z1 (ZY (ab 2 (Y1 (fun fz gz m F h=>∃(j:Nat) (zs:LI) (u4:Hd),(j<=x1.code.length)/\(zs++US (x1.code.drop j)=ys++Tu x1)/\F=sF [1,4,5] fz [(3,.h u4),(6,.i j)]/\h=[Zi gz 1,Zi gz 2,rV u4 zs]/\m=x1.code.length-j) _ _ _ ⟨0,(((((ys++XU x1.params)++XU x1.lent)++en x1.result)++en x1.regs)++en (x1.code.length:Int)),w7,ob,(by rw [QS];simp only [Tu,XM]),rfl,rfl,rfl⟩ (wk [1,1,0] (fr (Ya fl))) ?_)))
  rintro m F h ⟨j,zs,u4,VG,Xm,rfl,rfl,rfl⟩
  refine Yq 3 [0] (iw (Ts x1.code) (Y3 ((j:Int)<(x1.code.length:Int)) (fun Zh=>?_) (fun Zh=>?_)))
  ·have hzl:=Q8 Xm
   refine ak (aq (ab 3 (az (ZB 4 [0] ?_))))
   obtain ⟨x2,Zv⟩:=Zt x1.code j om
   have hrx:=hrp.code _ (Y4 Zv)
   refine Zp (Ze none (j:Int) 6 (K1 Zv)) (Z0 1 (ic [2] (Zic u4 zs x2 (hl:=(by (try simp only [ZH,YF,XV,Wa]);omega)) (hr:=hrx)) ?_))
   rintro _ _ ⟨w8,rfl,rfl⟩
   exact Z1 (az (Z0 1 (ZC j (Z1 (ZE ⟨j+1,(zs++Tv x2),w8,ob,(OM Zv Xm),rfl,rfl,rfl⟩ (wk [1,1,0] (fr (ZI j fl))))))))
  exact ax 2 (az (Z0 1 (ZC k (Z1 (ZE ⟨k+1,zs,u4,ob,(by rw [OJ om Xm];exact GJ Z3 Zd),rfl,rfl,rfl⟩ (wk [1,1] (fr (ZI k fl))))))))
 exact ax 0 (ar (Zk (r1 [1] ⟨u3,rfl,rfl⟩ (eq:=(rv (xs:=ys) (OD om Zd) rz)))))
theorem Z91 (rd:Nat) (bs:LI) (p:Nat) (Yd:∀z∈bs,0<=z/\z<=255) (hp:p+400031<=1000000000:=by exact ob):Zm 26 [.p rd 0] [YU rd bs p] (fun r h=>∃(im:Yx) (p2:Nat),r=Ui im/\h=[YU rd bs p2]/\WI im/\p<=p2/\p2<=p+400031):=by
 refine ZD 13 Tryz.func26 (ar (iA [nl,nl] fun b1=>ie (ZX 1 (ic [1] (Z8b rd bs p (Yd:=ob)) ?_))))
 rintro _ _ ⟨n1,p21,rfl,rfl,ZT⟩
 have hbf:=ZT.1
 refine Zw [] (Z8w n1 7330630 (hF:=hbf)) (iA [nl,nl] fun b2=>ZG 0 b2 (VV (JH n1)) (ie (YR 1 (ic [1] (V3 rd bs p21 3 (Yd:=ob)) ?_))))
 rintro _ _ ⟨k1,rfl,rfl,Yg⟩
 refine YS (k1==0) Zg (fun Z9=>?_) (fun Z9=>?_)
 ·exact Zq 1 [1] (Zw [] (Zhc (JH n1) (hg:=(R4 hbf om).tg)) (ZG 2 b1 (VV (FV (JH n1))) (ie (Yc (r3 [1] [Ui (FV (JH n1))] [0] [(b1,b1)] ⟨(FV (JH n1)),p21+1,rfl,rfl,⟨(R5 hbf om).tc,by omega,by omega⟩⟩ (lr _))))))
 exact ak (Zq 1 [1] (ZG 2 b1 (VV (JH n1)) (ie (Yc (r3 [1] [Ui (JH n1)] [0] [(b1,b1)] ⟨(JH n1),p21+1,rfl,rfl,⟨R5 hbf om,by omega,by omega⟩⟩ (lr _))))))
theorem Pr (code:LI) (hcl:code.length<=1048576:=by exact ob) (hcb:∀z∈code,0<=z/\z<=255):Zm 7 [Uv code] [] (fun r h=>∃(xs:LI),r=Z4 xs/\h=[]/\TQ xs):=by
 refine ZD 39 Tryz.func7 (ZY (ZX 1 (ic [] (Z9k code (hc:=hcb)) ?_)))
 rintro _ _ ⟨rd1,bs1,rfl,rfl,ZT⟩
 have hnr:=ZT
 refine Z1 (ZX 1 (ic [0] (Z91 rd1 bs1 0 (Yd:=hnr)) ?_))
 rintro _ _ ⟨im1,p21,rfl,rfl,Yg⟩
 have hwi:=Yg.1
 have hwl:=hwi.rbd.len
 have hev:=OA im1
 refine ic [] (Zia im1) ?_
 rintro _ _ ⟨w1,rfl,rfl⟩
 refine Z1 (ZX 2 (Zp (I7 0 w1 (W0 im1)) (ic [1] (EP rd1 bs1 p21 ((W0 im1).length) (Yd:=hnr)) ?_)))
 rintro _ _ ⟨Um,rfl,rfl,YJ⟩
 refine Z1 (YR 1 (ic [0] (V3 rd1 bs1 (p21+1) 10 (Yd:=hnr)) ?_))
 rintro _ _ ⟨k1,rfl,rfl,YQ⟩
 refine ie (ab 0 (ar (YS (k1==0) Zg (fun Z9=>?_) (fun Z9=>?_))))
 ·refine az (Z0 3 (iL (Z6 [0,128,127,255,256,-1,1]) 7 1 fun v1=>Y0 0 [(22,Z4 [0,128,127,255,256,-1,1])] (ic [1] (JA rd1 bs1 ((p21+1)+1) [0,128,127,255,256,-1,1] (Yd:=hnr)) ?_)))
  rintro _ _ ⟨z1,rfl,rfl,X4⟩
  have honhp5:=X4
  simp only [X0,List.not_mem_nil,or_false] at honhp5
  exact Zp (Ue 2 w1 (W0 im1) (Um:Int) Um) (LT 2 w1 (W0 im1) Um z1 (ie (ZY (Eu 2 0 (v:=w1) (xs:=((W0 im1).set Um z1)) (Yc (r2 [] [Y6 ((W0 im1).set Um z1) w1.v] ⟨((W0 im1).set Um z1),rfl,rfl,(TQ.set hwi _ om)⟩ (Zl.forget _ _)))))))
 refine ar (YS (k1==1) Zg (fun Zh=>?_) (fun Zh=>?_))
 ·exact az (Z0 2 (Zp (De 1 w1 (W0 im1) Um) (Z1 (ZY (Np (Dd 1 Um w1 (W0 im1)) (Eu 2 0 (v:=(w1.cut Um)) (xs:=((W0 im1).take Um)) (Yc (r2 [] [Y6 ((W0 im1).take Um) ((w1.cut Um).v)] ⟨((W0 im1).take Um),rfl,rfl,(TQ.take hwi _)⟩ (Zl.forget _ _)))))))))
 refine ar (YS (k1==2) Zg (fun ZA=>?_) (fun ZA=>?_))
 ·refine az (Z0 2 (iL (Z6 [0,128]) 2 1 fun v2=>Y0 0 [(34,Z4 [0,128])] (ic [1] (JA rd1 bs1 ((p21+1)+1) [0,128] (Yd:=hnr)) ?_)))
  rintro _ _ ⟨z2,rfl,rfl,Xy⟩
  have honhp6:=Xy
  simp only [X0,List.not_mem_nil,or_false] at honhp6
  exact iL (Z6 [z2]) 1 1 fun v3=>Y0 0 [(36,Z4 [z2])] (Bi 3 w1 (W0 im1) [z2] none fun v4=>Z1 (ZY (Eu 2 0 (v:=v4) (xs:=((W0 im1)++[z2])) (Yc (r2 [] [Y6 ((W0 im1)++[z2]) v4.v] ⟨((W0 im1)++[z2]),rfl,rfl,(TQ.app hwi om)⟩ (Zl.forget _ _))))))
 exact ak (ZY (Eu 2 1 (v:=w1) (xs:=(W0 im1)) (Yc (r2 [] [Y6 (W0 im1) w1.v] ⟨(W0 im1),rfl,rfl,hwi.rbd⟩ (Zl.forget _ _)))))
theorem DT (xs:LI) (ys:LI) (hxl:xs.length<=200000000000:=by exact ob) (hyl:ys.length<=200000000000:=by exact ob):Zm 12 [Z4 xs,Z4 ys] [] (Yt (.b (decide (xs=ys)))):=by
 refine ZD 26 Tryz.func12 (ZY (YR 1 (iw (Y9 xs) (Z0 1 (iw (Y9 ys) (YS ((xs.length:Int) != (ys.length:Int)) Yh (fun Z9=>?_) (fun Z9=>?_)))))))
 ·exact ar (Zk (ZP (.b false) (lb (decide_eq_false (fun z=>Z9 (by rw [z]))).symm)))
 refine ak (Y5 (ab 0 (Y1 (fun fz gz m F h=>∃(k:Nat),(k<=xs.length)/\(∀i,i<k->xs[i]? = ys[i]?)/\F=sF [0,1] fz [(5,.i k)]/\h=gz/\m=xs.length-k) _ _ _ ⟨0,ob,(fun i h=>absurd h om),rfl,rfl,rfl⟩ (wk [] (Ya fl)) ?_)))
 rintro m F h ⟨k,Yi,Zd,rfl,rfl,rfl⟩
 refine YR 2 (iw (Y9 xs) (Y3 ((k:Int)<(xs.length:Int)) (fun Zh=>?_) (fun Zh=>?_)))
 ·refine ak (aq (ab 1 (aD 9 (Zo 7 9 [0,1] ?_))))
  obtain ⟨x1,Z3⟩:=Zt xs k om
  refine dx 2 (Ze none (k:Int) 1 (Y7 Z3)) (Zo 3 6 [3,4,5] ?_)
  obtain ⟨x2,Zv⟩:=Zt ys k om
  refine dx 6 (Ze none (k:Int) 1 (Y7 Zv)) (Zo 0 2 [7,8] (de (ac (x1 != x2) Yh (fun ZA=>?_) (fun ZA=>?_))))
  ·exact ar (Zk (ZP (.b false) (lb (decide_eq_false (fun z=>ZA (by rw [z,Zv] at Z3;cases Z3;rfl))).symm)))
  exact ak (az (Z0 1 (ZC k (Z1 (ZE ⟨k+1,ob,(fun i h=>(Nat.lt_succ_iff_lt_or_eq.1 h).elim (Zd i) (fun z=>by rw [z,Z3,Zv,Vy.1 ZA])),rfl,rfl,rfl⟩ (wk [] (ZI k fl)))))))
 exact ax 0 (ar (Zk (ZP (.b true) (lb (decide_eq_true (Z6m om (fun i hi=>Zd i om))).symm))))
theorem Zbz (ds:List Zc) (es:List Zc) (hd:TB ds:=by exact ob) (he:TB es:=by exact ob):Zm 33 [Yu ds,Yu es] [] (Yt (.b (decide (ds=es)))):=by
 have hdl:=hd.len
 have hel:=he.len
 refine ZD 87 Tryz.func33 (ZY (YR 1 (iw (VI ds) (Z0 1 (iw (VI es) (YS ((ds.length:Int) != (es.length:Int)) Yh (fun Z9=>?_) (fun Z9=>?_)))))))
 ·exact ar (Zk (ZP (.b false) (lb (decide_eq_false (fun z=>Z9 (by rw [z]))).symm)))
 refine ak (Y5 (ab 0 (Y1 (fun fz gz m F h=>∃(k:Nat),(k<=ds.length)/\(∀i,i<k->ds[i]? = es[i]?)/\F=sF [0,1] fz [(5,.i k)]/\h=gz/\m=ds.length-k) _ _ _ ⟨0,ob,FX,rfl,rfl,rfl⟩ (wk [] (Ya fl)) ?_)))
 rintro m F h ⟨k,Yi,Zd,rfl,rfl,rfl⟩
 refine YR 2 (iw (VI ds) (Y3 ((k:Int)<(ds.length:Int)) (fun Zh=>?_) (fun Zh=>?_)))
 ·refine ak (aq (ab 1 (aq (aD 39 (Zo 37 39 [0,1] ?_)))))
  obtain ⟨x1,Z3⟩:=Zt ds k om
  have hcl:=hd.cons_at Z3
  refine dx 2 (Ze none (k:Int) 3 (Ww Z3)) (Zo 32 36 [3,4,5,6] ?_)
  obtain ⟨x2,Zv⟩:=Zt es k om
  refine dx 7 (Ze none (k:Int) 3 (Ww Zv)) (BK [0,1,5] [(56,.b ((x1.frm != x2.frm)||((x1.to_ != x2.to_)||((x1.cons.length:Int) != (x2.cons.length:Int)))))] (fun gz=>gz) ?_ ?_)
  ·refine Zo 27 31 [8,9,10,11] (db (b:=(x1.frm != x2.frm)) 29 (fun Zb=>?_) (fun Zb=>?_))
   ·have ZT:x1.frm≠x2.frm:=(Yh).1 Zb
    exact Zo 0 27 [12,13,14,15,16,17,18,19,20,21,22,23,24,25,26,27,28,29,30,31,32,33,34,35,36,37,38] (de (wk [] (Zj true Zb fl)))
   have Yg:¬(x1.frm≠x2.frm):=Y2 Yh Zb
   refine Zo 25 27 [12,13] (dx 14 (Ze none (k:Int) 3 (Ww Z3)) (Zo 20 24 [15,16,17,18] (dx 19 (Ze none (k:Int) 3 (Ww Zv)) (Zo 14 19 [20,21,22,23,24] (db (b:=(x1.to_ != x2.to_)) 42 (fun Zy=>?_) (fun Zy=>?_))))))
   ·have YJ:x1.to_≠x2.to_:=(Yh).1 Zy
    exact Zo 0 14 [25,26,27,28,29,30,31,32,33,34,35,36,37,38] (de (wk [] (Zj true (And.intro Zb Zy) fl)))
   have YQ:¬(x1.to_≠x2.to_):=Y2 Yh Zy
   exact Zo 12 14 [25,26] (dx 27 (Ze none (k:Int) 3 (Ww Z3)) (Zo 9 11 [28,29] (dw 30 (U3 x1.cons) (Zo 6 8 [31,32] (dx 33 (Ze none (k:Int) 3 (Ww Zv)) (Zo 3 5 [34,35] (dw 36 (U3 x2.cons) (Zo 0 2 [37,38] (de (wk [] (Zj ((x1.cons.length:Int) != (x2.cons.length:Int)) (And.intro Zb Zy) fl)))))))))))
  refine ac ((x1.frm != x2.frm)||((x1.to_ != x2.to_)||((x1.cons.length:Int) != (x2.cons.length:Int)))) (p:=(x1.frm≠x2.frm)∨((x1.to_≠x2.to_)∨((x1.cons.length:Int)≠(x2.cons.length:Int)))) (ZJ Yh (ZJ Yh Yh)) (fun ZA=>?_) (fun ZA=>?_)
  ·exact ar (Zk (ZP (.b false) (lb (decide_eq_false (Do Z3 Zv (fun z=>by rw [z] at ZA;simp at ZA))).symm)))
  simp only [not_or,ne_eq,Vy,decide_eq_true_eq] at ZA
  obtain ⟨hq1,hq2,hq3⟩:=ZA
  refine ak (ZY (ab 2 (Y1 (fun fz gz m F h=>∃(j:Nat),(j<=x1.cons.length)/\(∀i,i<j->x1.cons[i]? = x2.cons[i]?)/\F=sF [0,1,5] fz [(6,.i j)]/\h=gz/\m=x1.cons.length-j) _ _ _ ⟨0,ob,FX,rfl,rfl,rfl⟩ (wk [] (Ya fl)) ?_)))
  rintro m F h ⟨j,VG,Xm,rfl,rfl,rfl⟩
  refine YR 3 (Zp (Ze none (k:Int) 3 (Ww Z3)) (Z0 2 (iw (U3 x1.cons) (Y3 ((j:Int)<(x1.cons.length:Int)) (fun Yk=>?_) (fun Yk=>?_)))))
  ·refine ak (aq (ab 3 (aD 20 (Zo 18 20 [0,1] (dx 2 (Ze none (k:Int) 3 (Ww Z3)) (Zo 14 17 [3,4,5] ?_))))))
   obtain ⟨x3,YN⟩:=Zt x1.cons j om
   refine dx 6 (Ze none (j:Int) 1 (Ak YN)) (Zo 9 13 [7,8,9,10] (dx 11 (Ze none (k:Int) 3 (Ww Zv)) (Zo 5 8 [12,13,14] ?_)))
   obtain ⟨x4,WS⟩:=Zt x2.cons j om
   refine dx 15 (Ze none (j:Int) 1 (Ak WS)) (Zo 2 4 [16,17] (Z8 18 (YD 18 [] [] [] (DT x3.fields x4.fields (hxl:=(V7 (hd.fields_at Z3 YN) (by decide))) (hyl:=(V7 (he.fields_at Zv WS) (by decide)))) (Zo 0 1 [19] (de (ac (!(decide (x3.fields=x4.fields))) (p:=¬(x3.fields=x4.fields)) (Y8 dq) (fun YI=>?_) (fun YI=>?_)))))))
   ·exact ar (Zk (ZP (.b false) (lb (decide_eq_false (Do Z3 Zv (fun z=>Do YN WS (fun w=>YI (Yn YK.fields w)) (Yn Zc.cons z)))).symm)))
   exact ak (az (Z0 1 (ZC j (Z1 (ZE ⟨j+1,ob,(FY Xm YN WS (YK.ext1 (Vy.1 YI))),rfl,rfl,rfl⟩ (wk [] (ZI j fl)))))))
  have hE:=EI (xs:=x1.cons) (ys:=x2.cons) om (fun i hi=>Xm i om)
  exact ax 2 (az (Z0 1 (ZC k (Z1 (ZE ⟨k+1,ob,(FY Zd Z3 Zv (Zc.ext3 hq1 hq2 hE)),rfl,rfl,rfl⟩ (wk [] (ZI k fl)))))))
 exact ax 0 (ar (Zk (ZP (.b true) (lb (decide_eq_true (EI om (fun i hi=>Zd i om))).symm))))
theorem Zc0 (x:Instr) (y:Instr) (h1:x.args.length<=1000000000:=by exact ob) (h2:x.jumps.length<=1000000000:=by exact ob) (h3:y.args.length<=1000000000:=by exact ob) (h4:y.jumps.length<=1000000000:=by exact ob):Zm 34 [Ku x,Ku y] [] (Yt (.b (decide (x=y)))):=by
 refine ZD 45 Tryz.func34 (ar (iA (Uu x) fun b1=>iA (Uu y) fun b2=>Z1 (ar (YW 12 [2,3] [(16,.b ((x.op==y.op)&&(x.dst==y.dst)))] (fun gz=>gz) ?_ (fun hj1=>?_)))))
 ·refine YW 19 [2,3] [(23,.b (((x.op==y.op)&&(x.dst==y.dst))&&(x.num==y.num)))] (fun gz=>gz) ?_ (fun hj2=>?_)
  ·refine YW 26 [2,3] [(30,.b ((((x.op==y.op)&&(x.dst==y.dst))&&(x.num==y.num))&&(x.into==y.into)))] (fun gz=>gz) ?_ (fun hj3=>?_)
   ·refine YW 33 [2,3] [(37,.b (((((x.op==y.op)&&(x.dst==y.dst))&&(x.num==y.num))&&(x.into==y.into))&&(decide (x.args=y.args))))] (fun gz=>gz) ?_ (fun hj4=>?_)
    ·refine YW 40 [] [(44,.b ((((((x.op==y.op)&&(x.dst==y.dst))&&(x.num==y.num))&&(x.into==y.into))&&(decide (x.args=y.args)))&&(decide (x.jumps=y.jumps))))] (fun gz=>gz) ?_ (fun hj5=>?_)
     ·exact Zk (ZP (.b ((((((x.op==y.op)&&(x.dst==y.dst))&&(x.num==y.num))&&(x.into==y.into))&&(decide (x.args=y.args)))&&(decide (x.jumps=y.jumps)))) (lb (by rw [Ye];simp only [X1,decide_eq_true_eq,Zg,Instr.eq_iff,and_assoc])))
     refine Z0 1 (ib (b:=(((((x.op==y.op)&&(x.dst==y.dst))&&(x.num==y.num))&&(x.into==y.into))&&(decide (x.args=y.args)))) 38 (fun Zb=>?_) (fun Zb=>?_))
     ·have ZT:((((x.op=y.op)/\(x.dst=y.dst))/\(x.num=y.num))/\(x.into=y.into))/\(x.args=y.args):=((Yo (Yo (Yo (Yo Zg Zg) Zg) Zg) dq)).1 Zb
      exact ZB 4 [1,0] (Zw [] (DT x.jumps y.jumps) (Z0 1 (ZZ (wk [0,0] (Zj (decide (x.jumps=y.jumps)) Zb fl)) hj5)))
     have Yg:¬(((((x.op=y.op)/\(x.dst=y.dst))/\(x.num=y.num))/\(x.into=y.into))/\(x.args=y.args)):=Y2 (Yo (Yo (Yo (Yo Zg Zg) Zg) Zg) dq) Zb
     exact Z0 6 (ZZ (wk [0,0] (Zj false Zb fl)) hj5)
    refine Z0 1 (ib (b:=((((x.op==y.op)&&(x.dst==y.dst))&&(x.num==y.num))&&(x.into==y.into))) 31 (fun Zy=>?_) (fun Zy=>?_))
    ·have YJ:(((x.op=y.op)/\(x.dst=y.dst))/\(x.num=y.num))/\(x.into=y.into):=((Yo (Yo (Yo Zg Zg) Zg) Zg)).1 Zy
     exact ZB 4 [1,0] (Zw [] (DT x.args y.args) (Z0 1 (ZZ (wk [0,0] (Zj (decide (x.args=y.args)) Zy fl)) hj4)))
    have YQ:¬((((x.op=y.op)/\(x.dst=y.dst))/\(x.num=y.num))/\(x.into=y.into)):=Y2 (Yo (Yo (Yo Zg Zg) Zg) Zg) Zy
    exact Z0 6 (ZZ (wk [0,0] (Zj false Zy fl)) hj4)
   refine Z0 1 (ib (b:=(((x.op==y.op)&&(x.dst==y.dst))&&(x.num==y.num))) 24 (fun Yf=>?_) (fun Yf=>?_))
   ·have X4:((x.op=y.op)/\(x.dst=y.dst))/\(x.num=y.num):=((Yo (Yo Zg Zg) Zg)).1 Yf
    exact ZB 6 [1,0] (ZZ (wk [0,0] (Zj (x.into==y.into) Yf fl)) hj3)
   have Xy:¬(((x.op=y.op)/\(x.dst=y.dst))/\(x.num=y.num)):=Y2 (Yo (Yo Zg Zg) Zg) Yf
   exact Z0 6 (ZZ (wk [0,0] (Zj false Yf fl)) hj3)
  refine Z0 1 (ib (b:=((x.op==y.op)&&(x.dst==y.dst))) 17 (fun YP=>?_) (fun YP=>?_))
  ·have Wx:(x.op=y.op)/\(x.dst=y.dst):=((Yo Zg Zg)).1 YP
   exact ZB 6 [1,0] (ZZ (wk [0,0] (Zj (x.num==y.num) YP fl)) hj2)
  have WZ:¬((x.op=y.op)/\(x.dst=y.dst)):=Y2 (Yo Zg Zg) YP
  exact Z0 6 (ZZ (wk [0,0] (Zj false YP fl)) hj2)
 refine ZB 6 [1,0] (ib (b:=(x.op==y.op)) 10 (fun XE=>?_) (fun XE=>?_))
 ·have Vw:x.op=y.op:=(Zg).1 XE
  exact ZB 6 [1,0] (ZZ (wk [0,0] (Zj (x.dst==y.dst) XE fl)) hj1)
 have Ua:¬(x.op=y.op):=Y2 Zg XE
 exact Z0 6 (ZZ (wk [0,0] (Zj false XE fl)) hj1)
theorem Hk (a:Yx) (b:Yx) (ha:Ep a:=by exact ob) (hb:Ep b:=by exact ob):Zm 10 [Ui a,Ui b] [] (Yt (.b (decide (a=b)))):=by
 have hal:=ha.len
 have hbl:=hb.len
 refine ZD 97 Tryz.func10 (ar (iA (VV a) fun b1=>iA (VV b) fun b2=>Z1 (Yq 4 [1,0] (Zw [] (Zbz a.decls b.decls (hd:=ha.decls) (he:=hb.decls)) (Xi [2,3] [(23,.b ((!(decide (a.decls=b.decls)))||((a.procs.length:Int) != (b.procs.length:Int))))] (fun gz=>gz) ?_ ?_)))))
 ·refine Z0 2 (ib (b:=(!(decide (a.decls=b.decls)))) 15 (fun Zb=>?_) (fun Zb=>?_))
  ·have ZT:¬(a.decls=b.decls):=((Y8 dq)).1 Zb
   exact Z1 (wk [0,0] (Zj true Zb fl))
  have Yg:¬(¬(a.decls=b.decls)):=Y2 (Y8 dq) Zb
  exact ZB 2 [1] (iw (QC a.procs) (ZB 2 [0] (iw (QC b.procs) (Z1 (wk [0,0] (Zj ((a.procs.length:Int) != (b.procs.length:Int)) Zb fl))))))
 refine ac ((!(decide (a.decls=b.decls)))||((a.procs.length:Int) != (b.procs.length:Int))) (p:=(¬(a.decls=b.decls))∨((a.procs.length:Int)≠(b.procs.length:Int))) (ZJ (Y8 dq) Yh) (fun Z9=>?_) (fun Z9=>?_)
 ·exact ar (Zk (ZP (.b false) (lb (decide_eq_false (fun z=>by rw [z] at Z9;simp at Z9)).symm)))
 simp only [not_or,ne_eq,Vy,decide_eq_true_eq] at Z9
 obtain ⟨hq1,hq2⟩:=Z9
 refine ak (Y5 (ab 0 (Y1 (fun fz gz m F h=>∃(k:Nat),(k<=a.procs.length)/\(∀i,i<k->a.procs[i]? = b.procs[i]?)/\F=sF [2,3] fz [(5,.i k)]/\h=gz/\m=a.procs.length-k) _ _ _ ⟨0,ob,FX,rfl,rfl,rfl⟩ (wk [0,0] (Ya fl)) ?_)))
 rintro m F h ⟨k,Yi,Zd,rfl,rfl,rfl⟩
 refine Yq 3 [1] (iw (QC a.procs) (Y3 ((k:Int)<(a.procs.length:Int)) (fun Zh=>?_) (fun Zh=>?_)))
 ·refine ak (aq (ab 1 (Zq 3 [1] ?_)))
  obtain ⟨x1,Z3⟩:=Zt a.procs k om
  have hm1:=ha.procs _ (Y4 Z3)
  have ha1:=hm1.params
  have ha2:=hm1.lent
  have ha3:=hm1.len
  refine Zp (Ze none (k:Int) 5 (J2 Z3)) (Z0 1 (iA [nl,nl,.i 0,.i 0,nl] fun b3=>ZG 0 b3 (UT x1) (ie (Zq 3 [1] ?_))))
  obtain ⟨x2,Zv⟩:=Zt b.procs k om
  have hm2:=hb.procs _ (Y4 Zv)
  have Zb:=hm2.params
  have Zy:=hm2.lent
  have Yf:=hm2.len
  refine Zp (Ze none (k:Int) 5 (J2 Zv)) (Z0 1 (iA [nl,nl,.i 0,.i 0,nl] fun b4=>ZG 0 b4 (UT x2) (ie (Yq 4 [1,0] (Zw [] (DT x1.params x2.params) (YW 14 [2,3,5,6,7] [(54,.b ((!(decide (x1.params=x2.params)))||(!(decide (x1.lent=x2.lent)))))] (fun gz=>gz) ?_ (fun hj1=>?_)))))))
  ·refine YW 21 [2,3,5,6,7] [(61,.b (((!(decide (x1.params=x2.params)))||(!(decide (x1.lent=x2.lent))))||(x1.result != x2.result)))] (fun gz=>gz) ?_ (fun hj2=>?_)
   ·refine YW 28 [2,3,5,6,7] [(68,.b ((((!(decide (x1.params=x2.params)))||(!(decide (x1.lent=x2.lent))))||(x1.result != x2.result))||(x1.regs != x2.regs)))] (fun gz=>gz) ?_ (fun hj3=>?_)
    ·refine Xi [2,3,5,6,7] [(77,.b (((((!(decide (x1.params=x2.params)))||(!(decide (x1.lent=x2.lent))))||(x1.result != x2.result))||(x1.regs != x2.regs))||((x1.code.length:Int) != (x2.code.length:Int))))] (fun gz=>gz) ?_ ?_
     ·refine Z0 1 (ib (b:=((((!(decide (x1.params=x2.params)))||(!(decide (x1.lent=x2.lent))))||(x1.result != x2.result))||(x1.regs != x2.regs))) 69 (fun Zy=>?_) (fun Zy=>?_))
      ·have YJ:(((¬(x1.params=x2.params))∨(¬(x1.lent=x2.lent)))∨(x1.result≠x2.result))∨(x1.regs≠x2.regs):=((ZJ (ZJ (ZJ (Y8 dq) (Y8 dq)) Yh) Yh)).1 Zy
       exact Z1 (Zs 4 (Zj true Zy fl))
      have YQ:¬((((¬(x1.params=x2.params))∨(¬(x1.lent=x2.lent)))∨(x1.result≠x2.result))∨(x1.regs≠x2.regs)):=Y2 (ZJ (ZJ (ZJ (Y8 dq) (Y8 dq)) Yh) Yh) Zy
      exact ZB 2 [1] (iw (Ts x1.code) (ZB 2 [0] (iw (Ts x2.code) (Z1 (Zs 4 (Zj ((x1.code.length:Int) != (x2.code.length:Int)) Zy fl))))))
     refine ac (((((!(decide (x1.params=x2.params)))||(!(decide (x1.lent=x2.lent))))||(x1.result != x2.result))||(x1.regs != x2.regs))||((x1.code.length:Int) != (x2.code.length:Int))) (p:=((((¬(x1.params=x2.params))∨(¬(x1.lent=x2.lent)))∨(x1.result≠x2.result))∨(x1.regs≠x2.regs))∨((x1.code.length:Int)≠(x2.code.length:Int))) (ZJ (ZJ (ZJ (ZJ (Y8 dq) (Y8 dq)) Yh) Yh) Yh) (fun ZA=>?_) (fun ZA=>?_)
     ·exact ar (Zk (ZP (.b false) (lb (decide_eq_false (fun z=>Do Z3 Zv (fun w=>by rw [w] at ZA;simp at ZA) (Yn Yx.procs z))).symm)))
     simp only [not_or,ne_eq,Vy,decide_eq_true_eq] at ZA
     obtain ⟨⟨⟨⟨hw1,hw2⟩,hw3⟩,hw4⟩,hw5⟩:=ZA
     refine ak (ZY (ab 2 (Y1 (fun fz gz m F h=>∃(j:Nat),(j<=x1.code.length)/\(∀i,i<j->x1.code[i]? = x2.code[i]?)/\F=sF [2,3,5,6,7] fz [(8,.i j)]/\h=gz/\m=x1.code.length-j) _ _ _ ⟨0,ob,FX,rfl,rfl,rfl⟩ (Zs 4 (Ya fl)) ?_)))
     rintro m F h ⟨j,VG,Xm,rfl,rfl,rfl⟩
     refine Yq 3 [1] (iw (Ts x1.code) (Y3 ((j:Int)<(x1.code.length:Int)) (fun Yk=>?_) (fun Yk=>?_)))
     ·refine ak (aq (ab 3 (aD 12 (ZV 9 12 [0,1,2] [1] ?_))))
      obtain ⟨x3,YN⟩:=Zt x1.code j om
      have hs1:=hm1.sz _ (Y4 YN)
      refine dx 3 (Ze none (j:Int) 6 (K1 YN)) (ZV 4 8 [4,5,6,7] [0] ?_)
      obtain ⟨x4,WS⟩:=Zt x2.code j om
      have hs2:=hm2.sz _ (Y4 WS)
      refine dx 8 (Ze none (j:Int) 6 (K1 WS)) (Zo 2 3 [9] (Z8 10 (YD 10 [] [] [] (Zc0 x3 x4) (Zo 0 1 [11] (de (ac (!(decide (x3=x4))) (p:=¬(x3=x4)) (Y8 dq) (fun YI=>?_) (fun YI=>?_)))))))
      ·exact ar (Zk (ZP (.b false) (lb (decide_eq_false (fun z=>Do Z3 Zv (fun w=>Do YN WS (by assumption) (Yn YB.code w)) (Yn Yx.procs z))).symm)))
      exact ak (az (Z0 1 (ZC j (Z1 (ZE ⟨j+1,ob,(FY Xm YN WS (Vy.1 (by assumption))),rfl,rfl,rfl⟩ (Zs 4 (ZI j fl)))))))
     have hCE:=EI (xs:=x1.code) (ys:=x2.code) om (fun i hi=>Xm i om)
     exact ax 2 (az (Z0 1 (ZC k (Z1 (ZE ⟨k+1,ob,(FY Zd Z3 Zv (YB.ext5 hw1 hw2 hw3 hw4 hCE)),rfl,rfl,rfl⟩ (wk [2,2] (ZI k fl)))))))
    refine Z0 1 (ib (b:=(((!(decide (x1.params=x2.params)))||(!(decide (x1.lent=x2.lent))))||(x1.result != x2.result))) 62 (fun Yf=>?_) (fun Yf=>?_))
    ·have X4:((¬(x1.params=x2.params))∨(¬(x1.lent=x2.lent)))∨(x1.result≠x2.result):=((ZJ (ZJ (Y8 dq) (Y8 dq)) Yh)).1 Yf
     exact Z0 6 (ZZ (Zs 4 (Zj true Yf fl)) hj3)
    have Xy:¬(((¬(x1.params=x2.params))∨(¬(x1.lent=x2.lent)))∨(x1.result≠x2.result)):=Y2 (ZJ (ZJ (Y8 dq) (Y8 dq)) Yh) Yf
    exact ZB 6 [1,0] (ZZ (Zs 4 (Zj (x1.regs != x2.regs) Yf fl)) hj3)
   refine Z0 1 (ib (b:=((!(decide (x1.params=x2.params)))||(!(decide (x1.lent=x2.lent))))) 55 (fun YP=>?_) (fun YP=>?_))
   ·have Wx:(¬(x1.params=x2.params))∨(¬(x1.lent=x2.lent)):=((ZJ (Y8 dq) (Y8 dq))).1 YP
    exact Z0 6 (ZZ (Zs 4 (Zj true YP fl)) hj2)
   have WZ:¬((¬(x1.params=x2.params))∨(¬(x1.lent=x2.lent))):=Y2 (ZJ (Y8 dq) (Y8 dq)) YP
   exact ZB 6 [1,0] (ZZ (Zs 4 (Zj (x1.result != x2.result) YP fl)) hj2)
  refine Z0 2 (ib (b:=(!(decide (x1.params=x2.params)))) 47 (fun XE=>?_) (fun XE=>?_))
  ·have Vw:¬(x1.params=x2.params):=((Y8 dq)).1 XE
   exact Z0 7 (ZZ (Zs 4 (Zj true XE fl)) hj1)
  have Ua:¬(¬(x1.params=x2.params)):=Y2 (Y8 dq) XE
  exact ZB 4 [1,0] (Zw [] (DT x1.lent x2.lent) (Z0 2 (ZZ (Zs 4 (Zj (!(decide (x1.lent=x2.lent))) XE fl)) hj1)))
 exact ax 0 (ar (Zk (ZP (.b true) (lb (decide_eq_true (Yx.ext2 hq1 (EI om (fun i hi=>Zd i om)))).symm))))
end Go.Abs
section
namespace Go.Abs
section
variable {P:Program} {n:Nat} {ops:Array Oper} {B:Fr->List Res->Prop} {k:Nat} {F:Fr} {h:List Res}
def NK (P:Program) (ops:Array Oper) (F:Fr) (k:Nat):Option (Bool × Bool):=
 match (ZL ops k).op with
 | .binOp .eql t x y _=>match P.underlying t with
  | some .bool=>match F.ev x,F.ev y with
   | .val (.bool a),.val (.bool b)=>some (a,b)
   | _,_=>none
  | _=>none
 | _=>none
theorem Ro (a b:Bool) (hb:NK P ops F k=some (a,b):=by kernel_rfl):XS P (ZL ops k) F h [] (.b (a==b)):=by
 unfold NK at hb
 generalize hoo:ZL ops k=o at hb
 obtain ⟨dst,op,type,pos,after,guard⟩:=o
 cases op<;>simp only at hb<;>try (cases hb)
 rename_i bop t x y yt
 cases bop<;>simp only at hb<;>try (cases hb)
 split at hb
 ·rename_i ht
  split at hb
  ·rename_i a' b' h1 h2
   cases hb
   intro n w G ac hF hh
   have v1:=hF.ev x
   have v2:=hF.ev y
   rw [h1] at v1
   rw [h2] at v2
   have v1:=v1.val_inv
   have v2:=v2.val_inv
   refine ⟨_,.val,fun w' _ _=>?_⟩
   simp only [execOp,v1,v2]
   have he:(Op.equalIn (9999+1) t (.bool a) (.bool b)).run P w'=.ok (a==b) w':=by
    rw [Op.equalIn]
    simp [Sem.run_bind,U6 ht]
   refine Vp ?_
   simp only [eqGuard,binOp,Op.equal,Op.maxDepth]
   have he2:(Op.equalIn 10000 t (.bool a) (.bool b)).run P w'=.ok (a==b) w':=he
   simp [Sem.run_bind,he2]
  ·cases hb
 ·cases hb
end
end Go.Abs
namespace Go.Abs
end Go.Abs
namespace Go.Abs
end Go.Abs
end
namespace Go.Abs
open Go.Proofs
theorem Zc1 (xs:LI) (ys:LI) (hxl:xs.length<=200000000000:=by exact ob) (hyl:ys.length<=200000000000:=by exact ob):Zm 14 [Z4 xs,Z4 ys] [] (Yt (Z4 (xs++ys))):=by
 exact ZD 10 Tryz.func14 (ZY (ar (iL (Z6 []) 0 1 fun v1=>Z0 1 (ip 0 (Z6 xs) (Z6 []) (Z6 xs) v1 none 1 (YG _) (YG _) (XT _) (by simp<;>omega) (by simp [Z6]) fun v2=>Z0 1 (ip 0 (Z6 (xs++ys)) (Z6 xs) (Z6 ys) v2 none 1 (YG _) (YG _) (XT _) (by simp<;>omega) (by simp [XX,Z6]) fun v3=>Zk (ZP (Y6 (xs++ys) v3) (Zl.forget _ _)))))))
theorem Zbx (code:LI) (hcb:∀z∈code,0<=z/\z<=255):Zm 3 [Uv code] [] (Yt (.b true)):=by
 refine ZD 52 Tryz.func3 (ZY (YR 1 (iw (BP code) (Y3 ((code.length:Int)>1048576) (fun Z9=>?_) (fun Z9=>?_)))))
 ·exact ar (Zk (I2))
 have hcl:code.length<=1048576:=by omega
 refine ak (ZX 1 (ic [] (Pr code (hcl:=hcl) (hcb:=hcb)) ?_))
 rintro _ _ ⟨xs1,rfl,rfl,ZT⟩
 have hrd:=ZT
 have hrl:=hrd.len
 have Xo:=O5 xs1
 refine Z1 (ZX 1 (Zw [] (H6 xs1 (hb:=(by first|exact hrd.rb|exact hrd.more|exact hrd.less _))) (Z0 3 (iA [nl,nl] fun b1=>ZG 0 b1 (VV ((ZW xs1).1)) (Z1 (ZX 1 (Zw [] (Z1e xs1 (hb:=hrd.rb)) (Z0 3 (iA [nl,nl] fun b2=>ZG 0 b2 (VV ((ZW xs1).1)) (Z1 (Yq 2 [1,0] (Zw [] (Hk ((ZW xs1).1) ((ZW xs1).1) (ha:=Xo) (hb:=Xo)) (YW 9 [3,4,5,6,7] [(31,.b ((!(decide (((ZW xs1).1)=((ZW xs1).1))))||(((ZW xs1).2) != ((ZW xs1).2))))] (fun gz=>gz) ?_ (fun hj1=>?_))))))))))))))
 ·refine Xi [3,4,5,6,7] [(35,.b (((!(decide (((ZW xs1).1)=((ZW xs1).1))))||(((ZW xs1).2) != ((ZW xs1).2)))||(!(ZW xs1).2)))] (fun gz=>gz) ?_ ?_
  ·refine Z0 1 (ib (b:=((!(decide (((ZW xs1).1)=((ZW xs1).1))))||(((ZW xs1).2) != ((ZW xs1).2)))) 32 (fun Zb=>?_) (fun Zb=>?_))
   ·have Yg:(¬(((ZW xs1).1)=((ZW xs1).1)))∨(((ZW xs1).2)≠((ZW xs1).2)):=((ZJ (Y8 dq) Yh)).1 Zb
    exact Z1 (wk [0,0] (fc (x:=.b true) (lb (by rw [Zb];rfl)) fl))
   have YJ:¬((¬(((ZW xs1).1)=((ZW xs1).1)))∨(((ZW xs1).2)≠((ZW xs1).2))):=Y2 (ZJ (Y8 dq) Yh) Zb
   exact Z1 (wk [0,0] (fc (x:=.b (!(ZW xs1).2)) (lb (by rw [Zb];rfl)) fl))
  refine ac (((!(decide (((ZW xs1).1)=((ZW xs1).1))))||(((ZW xs1).2) != ((ZW xs1).2)))||(!(ZW xs1).2)) (p:=((¬(((ZW xs1).1)=((ZW xs1).1)))∨(((ZW xs1).2)≠((ZW xs1).2)))∨(¬((ZW xs1).2=true))) (ZJ (ZJ (Y8 dq) Yh) (Y8 Iff.rfl)) (fun Zh=>?_) (fun Zh=>?_)
  ·refine Zq 2 [1,0] (Zw [] (Hk ((ZW xs1).1) ((ZW xs1).1) (ha:=Xo) (hb:=Xo)) (YW 8 [] [(43,.b ((decide (((ZW xs1).1)=((ZW xs1).1)))&&(((ZW xs1).2)==((ZW xs1).2))))] (fun gz=>gz) ?_ (fun hj2=>?_)))
   ·exact Zk (ZP (.b ((decide (((ZW xs1).1)=((ZW xs1).1)))&&(((ZW xs1).2)==((ZW xs1).2)))) (lb (by first|rfl|(simp;done)|(rw [hV,hE];simp)|(exfalso;omega))))
   refine Z0 1 (ib (b:=(decide (((ZW xs1).1)=((ZW xs1).1)))) 39 (fun Zy=>?_) (fun Zy=>?_))
   ·have YQ:((ZW xs1).1)=((ZW xs1).1):=(dq).1 Zy
    exact Z0 2 (Zp (Ro ((ZW xs1).2) ((ZW xs1).2)) (Z0 1 (ZZ (wk [0,0] (fc (x:=.b (((ZW xs1).2)==((ZW xs1).2))) (lb (by rw [Zy];rfl)) fl)) hj2)))
   have X4:¬(((ZW xs1).1)=((ZW xs1).1)):=Y2 dq Zy
   exact Z0 4 (ZZ (wk [0,0] (fc (x:=.b false) (lb (by rw [Zy];rfl)) fl)) hj2)
  have hT:(ZW xs1).2=true:=AQ fun z=>Zh (.inr (by simpa using z))
  have hV:=(BN hT).1
  have hX:=(BN hT).2
  have hev:=Dx hT
  have hiy:=(CP hV).iy om
  have hel:=Lj (ZW xs1).1
  have hE:Uq (ZW xs1).1=xs1:=by rw [GG hV];exact hX.symm
  refine ak (Zq 1 [1] (Zw [] (R8 ((ZW xs1).1) (hz:=hiy)) (YW 8 [] [(51,.b ((Wr ((ZW xs1).1))&&(decide ((Uq ((ZW xs1).1))=xs1))))] (fun gz=>gz) ?_ (fun hj3=>?_))))
  ·exact Zk (ZP (.b ((Wr ((ZW xs1).1))&&(decide ((Uq ((ZW xs1).1))=xs1)))) (lb (by first|rfl|(simp;done)|(rw [hV,hE];simp)|(exfalso;omega))))
  refine Z0 1 (ib (b:=(Wr ((ZW xs1).1))) 46 (fun Yf=>?_) (fun Yf=>?_))
  ·have Xy:(Wr ((ZW xs1).1))=true:=(Iff.rfl).1 Yf
   exact ZB 1 [1] (Zw [] (R7 ((ZW xs1).1) (hz:=hiy)) (Z0 1 (Zw [] (DT (Uq ((ZW xs1).1)) xs1) (Z0 1 (ZZ (wk [0,0] (fc (x:=.b (decide ((Uq ((ZW xs1).1))=xs1))) (lb (by rw [Yf];rfl)) fl)) hj3)))))
  have Wx:¬((Wr ((ZW xs1).1))=true):=Y2 Iff.rfl Yf
  exact Z0 5 (ZZ (wk [0,0] (fc (x:=.b false) (lb (by rw [Yf];rfl)) fl)) hj3)
 refine Z0 2 (ib (b:=(!(decide (((ZW xs1).1)=((ZW xs1).1))))) 27 (fun YP=>?_) (fun YP=>?_))
 ·have WZ:¬(((ZW xs1).1)=((ZW xs1).1)):=((Y8 dq)).1 YP
  exact Z0 4 (ZZ (wk [0,0] (fc (x:=.b true) (lb (by rw [YP];rfl)) fl)) hj1)
 have Vw:¬(¬(((ZW xs1).1)=((ZW xs1).1))):=Y2 (Y8 dq) YP
 exact Z0 2 (Zp (Rp ((ZW xs1).2) ((ZW xs1).2)) (Z0 1 (ZZ (wk [0,0] (fc (x:=.b (((ZW xs1).2) != ((ZW xs1).2))) (lb (by rw [YP];rfl)) fl)) hj1)))
theorem Zby (code:LI) (hcb:∀z∈code,0<=z/\z<=255):Zm 4 [Uv code] [] (Yt (.b true)):=by
 refine ZD 70 Tryz.func4 (ZY (YR 1 (iw (BP code) (Y3 ((code.length:Int)>1048576) (fun Z9=>?_) (fun Z9=>?_)))))
 ·exact ar (Zk (I2))
 have hcl:code.length<=1048576:=by omega
 refine ak (ZX 1 (ic [] (Pr code (hcl:=hcl) (hcb:=hcb)) ?_))
 rintro _ _ ⟨xs1,rfl,rfl,ZT⟩
 have hrd:=ZT
 have hrl:=hrd.len
 have Xo:=O5 xs1
 refine Z1 (ZX 1 (Zw [] (H6 xs1 (hb:=(by first|exact hrd.rb|exact hrd.more|exact hrd.less _))) (Z0 3 (iA [nl,nl] fun b1=>ZG 0 b1 (VV ((ZW xs1).1)) (Z1 (ZX 1 (Zw [] (Z1e xs1 (hb:=hrd.rb)) (Z0 3 (iA [nl,nl] fun b2=>ZG 0 b2 (VV ((ZW xs1).1)) (Z1 (Yq 2 [1,0] (Zw [] (Hk ((ZW xs1).1) ((ZW xs1).1) (ha:=Xo) (hb:=Xo)) (YW 9 [3,4,5,6,7] [(35,.b ((!(decide (((ZW xs1).1)=((ZW xs1).1))))||(((ZW xs1).2) != ((ZW xs1).2))))] (fun gz=>gz) ?_ (fun hj1=>?_))))))))))))))
 ·refine Xi [3,4,5,6,7] [(39,.b (((!(decide (((ZW xs1).1)=((ZW xs1).1))))||(((ZW xs1).2) != ((ZW xs1).2)))||(!(ZW xs1).2)))] (fun gz=>gz) ?_ ?_
  ·refine Z0 1 (ib (b:=((!(decide (((ZW xs1).1)=((ZW xs1).1))))||(((ZW xs1).2) != ((ZW xs1).2)))) 36 (fun Zb=>?_) (fun Zb=>?_))
   ·have Yg:(¬(((ZW xs1).1)=((ZW xs1).1)))∨(((ZW xs1).2)≠((ZW xs1).2)):=((ZJ (Y8 dq) Yh)).1 Zb
    exact Z1 (wk [0,0] (fc (x:=.b true) (lb (by rw [Zb];rfl)) fl))
   have YJ:¬((¬(((ZW xs1).1)=((ZW xs1).1)))∨(((ZW xs1).2)≠((ZW xs1).2))):=Y2 (ZJ (Y8 dq) Yh) Zb
   exact Z1 (wk [0,0] (fc (x:=.b (!(ZW xs1).2)) (lb (by rw [Zb];rfl)) fl))
  refine ac (((!(decide (((ZW xs1).1)=((ZW xs1).1))))||(((ZW xs1).2) != ((ZW xs1).2)))||(!(ZW xs1).2)) (p:=((¬(((ZW xs1).1)=((ZW xs1).1)))∨(((ZW xs1).2)≠((ZW xs1).2)))∨(¬((ZW xs1).2=true))) (ZJ (ZJ (Y8 dq) Yh) (Y8 Iff.rfl)) (fun Zh=>?_) (fun Zh=>?_)
  ·refine Zq 2 [1,0] (Zw [] (Hk ((ZW xs1).1) ((ZW xs1).1) (ha:=Xo) (hb:=Xo)) (YW 8 [] [(47,.b ((decide (((ZW xs1).1)=((ZW xs1).1)))&&(((ZW xs1).2)==((ZW xs1).2))))] (fun gz=>gz) ?_ (fun hj2=>?_)))
   ·exact Zk (ZP (.b ((decide (((ZW xs1).1)=((ZW xs1).1)))&&(((ZW xs1).2)==((ZW xs1).2)))) (lb (by first|rfl|(simp;done)|(rw [O7 hT,O6 hT];rfl)|(exfalso;omega))))
   refine Z0 1 (ib (b:=(decide (((ZW xs1).1)=((ZW xs1).1)))) 43 (fun Zy=>?_) (fun Zy=>?_))
   ·have YQ:((ZW xs1).1)=((ZW xs1).1):=(dq).1 Zy
    exact Z0 2 (Zp (Ro ((ZW xs1).2) ((ZW xs1).2)) (Z0 1 (ZZ (wk [0,0] (fc (x:=.b (((ZW xs1).2)==((ZW xs1).2))) (lb (by rw [Zy];rfl)) fl)) hj2)))
   have X4:¬(((ZW xs1).1)=((ZW xs1).1)):=Y2 dq Zy
   exact Z0 4 (ZZ (wk [0,0] (fc (x:=.b false) (lb (by rw [Zy];rfl)) fl)) hj2)
  have hT:(ZW xs1).2=true:=AQ fun z=>Zh (.inr (by simpa using z))
  have hV:=(BN hT).1
  have hX:=(BN hT).2
  have hev:=Dx hT
  have hiy:=(CP hV).iy om
  have hel:=Lj (ZW xs1).1
  have hE:Uq (ZW xs1).1=xs1:=by rw [GG hV];exact hX.symm
  refine ak (ZX 1 (iL (Z6 [0]) 1 1 fun v1=>Y0 0 [(50,Z4 [0])] (Zw [] (Zc1 xs1 [0]) (Zw [] (H6 (xs1++[0]) (hb:=(by first|exact hrd.rb|exact hrd.more|exact hrd.less _))) (Z0 3 (iA [nl,nl] fun b3=>ZG 0 b3 (VV ((ZW (xs1++[0])).1)) (Z1 (ZX 2 (iw (Y9 xs1) (ia ((((xs1.length-1):Nat):Int)) (((xs1.length:Int))-(1)) (Zp (AO (es:=Z6 xs1) (hv:=none) (l:=0) (m:=(((xs1.length-1):Nat):Int)) (sz:=1) (es':=Z6 (xs1.take (xs1.length-1))) kr om (by simp<;>omega) (by simp<;>omega) (YG _) (by first|(simp only [T0,U7,KA,J1];done)|(simp only [T0,U7,KA,J1];rfl)|(simp [KA,J1];done))) (Zw [] (H6 (xs1.take (xs1.length-1)) (hb:=(by first|exact hrd.rb|exact hrd.more|exact hrd.less _))) (Z0 3 (iA [nl,nl] fun b4=>ZG 0 b4 (VV ((ZW (xs1.take (xs1.length-1))).1)) (Z1 (ar (YW 6 [] [(69,.b ((!(ZW (xs1++[0])).2)&&(!(ZW (xs1.take (xs1.length-1))).2)))] (fun gz=>gz) ?_ (fun hj3=>?_))))))))))))))))))
  ·exact Zk (ZP (.b ((!(ZW (xs1++[0])).2)&&(!(ZW (xs1.take (xs1.length-1))).2))) (lb (by first|rfl|(simp;done)|(rw [O7 hT,O6 hT];rfl)|(exfalso;omega))))
  refine Z0 3 (ib (b:=(!(ZW (xs1++[0])).2)) 66 (fun Yf=>?_) (fun Yf=>?_))
  ·have Xy:¬((ZW (xs1++[0])).2=true):=((Y8 Iff.rfl)).1 Yf
   exact Z0 3 (ZZ (Zs 5 (fc (x:=.b (!(ZW (xs1.take (xs1.length-1))).2)) (lb (by rw [Yf];rfl)) fl)) hj3)
  have Wx:¬(¬((ZW (xs1++[0])).2=true)):=Y2 (Y8 Iff.rfl) Yf
  exact Z0 3 (ZZ (Zs 5 (fc (x:=.b false) (lb (by rw [Yf];rfl)) fl)) hj3)
 refine Z0 2 (ib (b:=(!(decide (((ZW xs1).1)=((ZW xs1).1))))) 31 (fun YP=>?_) (fun YP=>?_))
 ·have WZ:¬(((ZW xs1).1)=((ZW xs1).1)):=((Y8 dq)).1 YP
  exact Z0 4 (ZZ (wk [0,0] (fc (x:=.b true) (lb (by rw [YP];rfl)) fl)) hj1)
 have Vw:¬(¬(((ZW xs1).1)=((ZW xs1).1))):=Y2 (Y8 dq) YP
 exact Z0 2 (Zp (Rp ((ZW xs1).2) ((ZW xs1).2)) (Z0 1 (ZZ (wk [0,0] (fc (x:=.b (((ZW xs1).2) != ((ZW xs1).2))) (lb (by rw [YP];rfl)) fl)) hj1)))
end Go.Abs
