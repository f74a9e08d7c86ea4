/-
  A part of the proof of FnValidNormalUptoSaid (see the last file): no condition.
-/
import Derived.Test.YthllacimcjakdaaGreatVnlB
import Derived.Test.YthllacimcjakdaaGreatProg
set_option linter.all false
set_option linter.unusedVariables false
set_option linter.unusedSimpArgs false
set_option linter.unusedSectionVars false
set_option maxRecDepth 10000
set_option maxHeartbeats 4000000
section
namespace Go.Abs
theorem VY {rs fs:List Func} (hp:fs <+: rs) {i:Nat} {f:Func} (hx:fs[i]? = some f) (c:Nat) {zs:List AV} (hz:((Cm f).drop c).take zs.length=zs) (hl:c+zs.length<=5):((Zl (Xc rs)).drop (i*5+c)).take zs.length=zs:=by
 obtain ⟨ys,rfl⟩:=hp
 have h1:(fs++ys)[i]? = some f:=by rw [CQ (XM.1 hx).1];exact hx
 have e1:=(Uy i (fs++ys)).symm
 rw [Yb h1] at e1
 have hl2:(Zl (Xc ((fs++ys).take i))).length=i*5:=by
  rw [UP (k:=5) _ (Di _),Bg,Wv,Vp (by have:=(XM.1 h1).1;omega)]
 have e2:Zl (Xc (fs++ys))=Zl (Xc ((fs++ys).take i))++(Cm f++Zl (Xc ((fs++ys).drop (i+1)))):=by
  conv=>lhs;rw [e1]
  simp only [Xc,Zl,List.map_append,Uh,List.flatMap_append,Js]
  rfl
 rw [e2,List.drop_append,List.drop_of_length_le om,AZ,hl2,Nat.add_sub_cancel_left,List.drop_append_of_le_length (by show c<=5;omega),List.take_append_of_le_length (by rw [Ag];show zs.length<=5-c;omega)]
 exact hz
theorem FD (rs:List Func):(Zl (Xc rs)).length=rs.length*5:=by rw [UP (k:=5) _ (Di _),Bg]
end Go.Abs
namespace Go.Abs
abbrev Y8 (g:XT) (gb:Nat):List AV:=[Zd g.decls,.ms gb 0 g.funcs.length 4]
abbrev YI (gb:Nat) (rs:List Func):Res:=.row (.slice (some ⟨gb,0,none⟩) 4 4) 5 (Zl (Xc rs))
abbrev Yl (rd:Nat) (bs:List Int) (p:Nat):Res:=.obj rd [X9 bs,.i p]

end Go.Abs
end
namespace Go.Abs
theorem Z3m {w:World} {G:Y9} {g len cap k m:Nat} {ls:List AV} {h2:List Res} (hh:YA w G (.row (.slice (some ⟨g,0,none⟩) len cap) k ls::h2)) (hle:m<=len) :
  YA w G (.row (.slice (some ⟨g,0,none⟩) m cap) k (ls.take (m*k))::h2)/\YU w G (.row (.slice (some ⟨g,0,none⟩) len cap) k ls::h2) w G (.row (.slice (some ⟨g,0,none⟩) m cap) k (ls.take (m*k))::h2):=by
 have hpw:=WP.1 hh.apart
 have hfp:∀b o,Res.fp (.row (.slice (some ⟨g,0,none⟩) m cap) k (ls.take (m*k))) b o->Res.fp (.row (.slice (some ⟨g,0,none⟩) len cap) k ls) b o:=fun b o hf=>hf
 refine ⟨⟨fun r hr=>?_,WP.2 ⟨fun r hr b o h1 h2=>hpw.1 r hr b o (hfp b o h1) h2,hpw.2⟩,fun r hr b o hf hg=>?_,hh.lt⟩,⟨rfl,rfl,rfl,X7 _,fun _ _ h=>h,fun _ _=>.inl rfl,fun _ _ _ h=>.inl h,fun b o _ hf=>?_⟩⟩
 ·rcases YQ.1 hr with rfl|hr
  ·rcases hh.ok _ (Xj ..) with ⟨h0,_⟩|⟨g',len',cap',cur,e,hv,h1,h3,h4,h5,h6⟩
   ·cases h0
   ·cases hv
    have hmk:m*k<=len*k:=TK k hle
    refine .inr ⟨g,m,cap,cur,e,rfl,h1,by omega,h4,by rw [Wv,h5];omega,?_⟩
    have:=h6.take (m*k)
    rw [List.take_take,Vp hmk] at this
    exact this
  ·exact hh.ok r (XH _ hr)
 ·rcases YQ.1 hr with rfl|hr
  ·exact hh.prot _ (Xj ..) b o (hfp b o hf) hg
  ·exact hh.prot r (XH _ hr) b o hf hg
 ·obtain ⟨r,hr,hf⟩:=hf
  rcases YQ.1 hr with rfl|hr
  ·exact ⟨_,Xj ..,hfp b o hf⟩
  ·exact ⟨r,XH _ hr,hf⟩
theorem Ri {rs:List Func} {k:Nat} (f:Func) (hk:k<rs.length):(Zl (Xc rs)).take (k*5)++Cm f++(Zl (Xc rs)).drop (k*5+5)=Zl (Xc (rs.set k f)):=by
 rw [show Xc (rs.set k f)=(Xc rs).set k (KS f) by simp [Xc,List.map_set]]
 exact Dv (y:=KS f) (Di rs) rfl (by simpa using hk)
theorem Zj.frzP {P:Program} {f:FuncId} {as1:List AV} {h0:List Res} {E:Type} {ds:E->List Zf} {rs:E->List Func} {m:E->Nat} {hs:E->List Res} {Q:E->Prop}
  (H:Zj P f as1 h0 (fun r h=>∃(e:E) (gb:Nat),r=.agg [Zd (ds e),.ms gb 0 (m e) 4]/\h=.row (.slice (some ⟨gb,0,none⟩) 4 4) 5 (Zl (Xc (rs e)))::hs e/\Q e)) (hm:∀e,Q e->m e<=4/\(rs e).length=4) :
  Zj P f as1 h0 (fun r h=>∃e:E,r=.agg [Zd (ds e),By ((rs e).take (m e))]/\h=hs e/\Q e):=by
 intro w G vs hv hh
 refine (H w G vs hv hh).mono ?_
 rintro e w' ⟨u,r,h',G',he,⟨x,gb,rfl,rfl,hq⟩,hr,hh',hx⟩
 obtain ⟨hm4,hr4⟩:=hm x hq
 obtain ⟨j1,j2⟩:=Z3m hh' hm4
 have hft:(Zl (Xc (rs x))).take (m x*5)=Zl (Xc ((rs x).take (m x))):=by
  have e1:rs x=(rs x).take (m x)++(rs x).drop (m x):=(Uy _ _).symm
  have e2:Zl (Xc (rs x))=Zl (Xc ((rs x).take (m x)))++Zl (Xc ((rs x).drop (m x))):=by
   conv=>lhs;rw [e1]
   rw [PU,Tx]
  rw [e2,List.take_append_of_le_length (by rw [FD,Wv,show min (m x) (rs x).length=m x by omega];exact X7 _),Ve (by rw [FD,Wv];exact TK 5 (Nat.min_le_left _ _))]
 rw [hft] at j1 j2
 obtain ⟨G2,h1,h2,h3⟩:=BF j1 (Di _) om
 have hA:Vq G' w' w' G2:=h2.agree j1
 refine ⟨u,_,hs x,G2,he,⟨x,rfl,rfl,hq⟩,?_,(h1.perm (List.perm_append_comm (l₁:=[_]))).left,((hx.trans j2).trans h2).sub' (Ai _ _)⟩
 cases hr with
 | agg hc=>
  cases hc with
  | cons k1 t1=>
   cases t1 with
   | cons k2 t2=>
    cases t2
    have hv2:=k2.val_inv
    subst hv2
    refine .agg (.cons (k1.mono hA) (.cons ?_ .nil))
    have hw:Zg (.sl (Xc ((rs x).take (m x))) (some (.slice (some ⟨gb,0,none⟩) (m x) 4))) (By ((rs x).take (m x))):=Zg.forget _ _
    exact hw _ _ _ h3
open Go.Proofs
theorem Z29 {xs:List Int} {k:Nat} {n x:Int} (h:n∉xs.take k) (hx:xs[k]? = some x) (hn:¬x=n):n∉xs.take (k+1):=by
 rw [List.take_add_one,hx]
 simp only [Option.toList_some,Xr,W4]
 exact fun q=>q.elim h fun q=>hn q.symm
theorem Z25 {xs:List Int} {k:Nat} {n x:Int} (hx:xs[k]? = some x) (hn:x=n):n∈xs:=hn▸Y7 hx
theorem Uv (n:Int) (low:Int) (high:Int) :Zj Tryz.prog 82 [.i n,.i low,.i high] [] (fun r h=>r=.b (decide (low<=n/\n<=high))/\h=[]):=by
 refine ZK 15 Tryz.func82 (ar (ir 1 [(0,.i n),(1,.i low),(2,.i high)] (ie (ar (XP 8 [(14,.b ((decide (low<=n))&&(decide (n<=high))))] [] ?_ (fun hj1=>?_))))))
 ·refine ir 1 [(6,.b ((decide (low<=n))&&(decide (n<=high))))] (ie ?_)
  exact Zc (r2 [] [.b ((decide (low<=n))&&(decide (n<=high)))] ⟨rfl,rfl⟩ (lb (by rw [Xm];simp)))
 refine ir 4 [(0,.i n),(2,.i high),(10,.b (decide (low<=n)))] (ib (b:=(decide (low<=n))) 10 (fun Za=>?_) (fun Za=>?_))
 ·have ZP:low<=n:=(dq).1 Za
  refine ir 4 [(14,.b (decide (n<=high)))] ?_
  exact YG (wk [] (Zr (decide (n<=high)) Za fl)) hj1
 have Y0:¬(low<=n):=ZG dq Za
 refine ir 4 [(14,.b false)] ?_
 exact YG (wk [] (Zr false Za fl)) hj1
theorem U0 (xs:List Int) (n:Int) (hlen:xs.length<=4294967296:=by exact ob):Zj Tryz.prog 205 [Z0 xs,.i n] [] (fun r h=>r=.b (decide (n∈xs))/\h=[]):=by
 refine ZK 18 Tryz.func205 (ar (ir 1 [(0,Z0 xs),(1,.i n)] (ie (aq (ar (Z1 1 5 (.i 0) (ie (ab 0 (al (fun m F h=>∃(k:Nat),(k<=xs.length)/\(n∉xs.take k)/\F=[(0,Z0 xs),(1,.i n),(5,.i k)]/\h=[]/\m=xs.length-k) _ _ _ ⟨0,ob,ob,rfl,rfl,rfl⟩ (wk [] (fw (Ye fl))) ?_)))))))))
 rintro m F h ⟨k,Ym,Zp,rfl,rfl,rfl⟩
 refine aq (ar (Yo 2 6 (.i k) 7 (Z0 xs) (iw (Yd xs) (Z1 1 9 (.b (decide ((k:Int)<(xs.length:Int)))) (ie (ZM ((k:Int)<(xs.length:Int)) (fun Ze=>?_) (fun Ze=>?_)))))))
 ·refine ak (aq (ab 1 (ar (Yo 2 12 (Z0 xs) 13 (.i k) ?_))))
  obtain ⟨x1,Z3⟩:=Zs (xs:=xs) (j:=k) om
  refine Zq (Zo none (k:Int) 1 (Y3 Z3)) (Z1 3 17 (.b (x1==n)) (ie (ac (x1==n) Zh (fun Zk=>?_) (fun Zk=>?_))))
  ·refine ar (ir 1 [(4,.b true)] (ie ?_))
   exact Zc (r2 [] [.b true] ⟨rfl,rfl⟩ (lb (by rw [eq_comm,dq];exact Z25 Z3 Zk)))
  refine ak (az (Z1 1 10 (.i k) (ZO k (ir 1 [(0,Z0 xs),(1,.i n),(5,.i (k+1:Nat))] (ie ?_)))))
  exact ZQ ⟨k+1,ob,(Z29 Zp Z3 Zk),rfl,rfl,rfl⟩ (wk [] (fw (ZW k fl)))
 refine ax 0 (ar (ir 1 [(4,.b false)] (ie ?_)))
 have hke:k=xs.length:=by omega
 exact Zc (r2 [] [.b false] ⟨rfl,rfl⟩ (lb (by rw [eq_comm,decide_eq_false_iff_not];rw [hke,Vl] at Zp;exact Zp)))
theorem VJ (xs:List Int) (hlen:xs.length<=4294967296:=by exact ob):Zj Tryz.prog 51 [Z0 xs] [] (fun r h=>∃(v:Value),r=Z6 xs v/\h=[.tail v 1]):=by
 refine ZK 6 Tryz.func51 (ar (ir 1 [(0,Z0 xs)] (ie (ar (iL (Z8 []) 0 1 ?_)))))
 intro v1
 refine Z1 1 4 (Z0 xs) (ip 0 (Z8 xs) (Z8 []) (Z8 xs) v1 none 1 (YD _) (YD _) (XY _) (by simp<;>omega) (by simp [Z8]) ?_)
 intro v2
 refine ir 1 [(2,Z6 xs v2)] (ie ?_)
 exact Zc (r1 [0] ⟨v2,rfl,rfl⟩)
theorem GY (ds:List Zf) (n:Nat) (hd:Wm ds:=by exact ob) (hn:n<=ds.length:=by exact ob):Zj Tryz.prog 173 [Zd ds,.i n] [] (fun r h=>r=.i ((Yq (ds.take n):Nat):Int)/\h=[]):=by
 refine ZK 21 Tryz.func173 (ar (ir 1 [(0,Zd ds),(1,.i n)] (ie (ar (Z1 1 5 (.i 0) (ie (aq (ar (Z1 1 6 (.i 0) (ie (ab 0 (al (fun m F h=>∃(k:Nat),(k<=n)/\F=[(0,Zd ds),(1,.i n),(5,.i ((Yq (ds.take k):Nat):Int)),(6,.i k)]/\h=[]/\m=n-k) _ _ _ ⟨0,ob,rfl,rfl,rfl⟩ (wk [] (fw (Ye (Ye fl)))) ?_))))))))))))
 rintro m F h ⟨k,Ym,rfl,rfl,rfl⟩
 refine aq (ar (Z1 3 9 (.b (decide ((k:Int)<(n:Int)))) (ie (ZM ((k:Int)<(n:Int)) (fun Ze=>?_) (fun Ze=>?_)))))
 ·refine ak (aq (ab 1 (az (Z5 3 (.n 12 (.i ((Yq (ds.take k):Nat):Int)) (.n 13 (Zd ds) (.n 14 (.i k) .r))) ?_))))
  obtain ⟨x1,Z3⟩:=Zs (xs:=ds) (j:=k) om
  refine Zq (Zo none (k:Int) 3 (Vi Z3)) (Z1 2 17 (W6 x1.cons) (iw (U6 x1.cons) (ia ((((Yq (ds.take k))+x1.cons.length:Nat):Int)) ((((Yq (ds.take k):Nat):Int))+((x1.cons.length:Int))) (hb:=(by have h1:=hd.cons_at Z3;have h2:=(hd.take k).sum;omega)) (Z5 1 (.n 5 (.i (((Yq (ds.take k))+x1.cons.length:Nat):Int)) (.p (.p (.d (.p (.d (.d (.d (.d (.k (.k (.d .r)))))))))))) (ie (az (Z1 1 10 (.i k) (ZO k (hb:=(by have:=hd.len;omega)) (Z5 1 (.n 6 (.i (k+1:Nat)) (.p (.d (.k (.k (.k .z)))))) (ie ?_))))))))))
  have hsn:Yq (ds.take (k+1))=Yq (ds.take k)+x1.cons.length:=by rw [WO Z3,BX];simp [Yq]
  exact ZQ ⟨k+1,ob,rfl,rfl,rfl⟩ (wk [] (fw (fc (x:=.i (((Yq (ds.take k))+x1.cons.length:Nat):Int)) li (ZW k fl))))
 refine ax 0 (ar (ir 2 [(4,.i ((Yq (ds.take k):Nat):Int))] (ie ?_)))
 have hke:k=n:=by omega
 subst hke
 exact Zc (r2 [] [.i ((Yq (ds.take k):Nat):Int)] ⟨rfl,rfl⟩ li)
theorem GX (ds:List Zf) (c:Int) (hd:Wm ds:=by exact ob):Zj Tryz.prog 137 [Zd ds,.i c] [] (fun r h=>r=.i (Xt ds c)/\h=[]):=by
 refine ZK 30 Tryz.func137 (ar (ir 1 [(0,Zd ds),(1,.i c)] (ie (aq (ar (Z1 1 5 (.i 0) (ie (ab 0 (al (fun m F h=>∃(k:Nat),(k<=ds.length)/\((Uk c (ds.drop k) k (Yq (ds.take k))).1=Xt ds c)/\F=[(0,Zd ds),(1,.i c),(5,.i k)]/\h=[]/\m=ds.length-k) _ _ _ ⟨0,ob,(by rfl),rfl,rfl,rfl⟩ (wk [] (fw (Ye fl))) ?_)))))))))
 rintro m F h ⟨k,Ym,Zp,rfl,rfl,rfl⟩
 refine aq (ar (Yo 2 7 (.i k) 8 (Zd ds) (iw (VN ds) (Z1 1 10 (.b (decide ((k:Int)<(ds.length:Int)))) (ie (ZM ((k:Int)<(ds.length:Int)) (fun Ze=>?_) (fun Ze=>?_)))))))
 ·refine ak (aq (ab 1 (ar (Yo 2 13 (Zd ds) 14 (.i k) (ZA [] (GY ds k) (Z1 1 6 (.i ((Yq (ds.take k):Nat):Int)) (ie (ar (Z5 5 (.n 16 (.i c) (.n 17 (.i ((Yq (ds.take k):Nat):Int)) (.n 18 (.i ((Yq (ds.take k):Nat):Int)) (.n 19 (Zd ds) (.n 20 (.i k) .r))))) ?_)))))))))
  obtain ⟨x1,Z3⟩:=Zs (xs:=ds) (j:=k) om
  refine Zq (Zo none (k:Int) 3 (Vi Z3)) (Z1 2 23 (W6 x1.cons) (iw (U6 x1.cons) (ia ((((Yq (ds.take k))+x1.cons.length:Nat):Int)) ((((Yq (ds.take k):Nat):Int))+((x1.cons.length:Int))) (hb:=(by have h1:=hd.cons_at Z3;have h2:=(hd.take k).sum;omega)) (ia (((((Yq (ds.take k))+x1.cons.length:Nat):Int)-1)) (((((Yq (ds.take k))+x1.cons.length:Nat):Int))-(1)) (hb:=(by have h1:=hd.cons_at Z3;have h2:=(hd.take k).sum;omega)) (ZA [] (Uv c ((Yq (ds.take k):Nat):Int) ((((Yq (ds.take k))+x1.cons.length:Nat):Int)-1)) (ie (ZM (((Yq (ds.take k):Nat):Int)<=c/\c<=((((Yq (ds.take k))+x1.cons.length:Nat):Int)-1)) (fun Zk=>?_) (fun Zk=>?_))))))))
  ·refine ar (ir 1 [(28,.i k)] (ZO k (hb:=(by have h2:=hd.len;omega)) (ir 1 [(4,.i (k+1:Nat))] (ie ?_))))
   exact Zc (r2 [] [.i (k+1:Nat)] ⟨rfl,rfl⟩ (li (by rw [<-Zp,Yb Z3,Uk,Zm Zk];rfl)))
  refine ak (az (Z1 1 11 (.i k) (ZO k (hb:=(by have h2:=hd.len;omega)) (ir 1 [(0,Zd ds),(1,.i c),(5,.i (k+1:Nat))] (ie ?_)))))
  have hdr:=Yb Z3
  exact ZQ ⟨k+1,ob,(by rw [hdr] at Zp;rw [<-Zp,Uk,Zb Zk,WO Z3,BX];rfl),rfl,rfl,rfl⟩ (wk [] (fw (ZW k fl)))
 refine ax 0 (ar (ir 1 [(4,.i (-1))] (ie ?_)))
 exact Zc (r2 [] [.i (-1)] ⟨rfl,rfl⟩ (li (by rw [<-Zp,Xx om];rfl)))
theorem Qh (ds:List Zf) (c:Int) (hd:Wm ds:=by exact ob):Zj Tryz.prog 138 [Zd ds,.i c] [] (fun r h=>r=Z0 (ZB ds c)/\h=[]):=by
 refine ZK 27 Tryz.func138 (ar (ir 1 [(0,Zd ds),(1,.i c)] (ie (ar (Yo 2 6 (Zd ds) 7 (.i c) (ZA [] (GX ds c) (Z1 1 5 (.i (Xt ds c)) (ie (aq (ar (Z1 2 10 (.b (decide ((Xt ds c)<1))) (ie (ZM ((Xt ds c)<1) (fun Ze=>?_) (fun Ze=>?_))))))))))))))
 ·refine ar (iL (Z8 []) 0 1 ?_)
  intro v1
  refine ir 1 [(4,Z6 [] v1)] (ie ?_)
  exact Zc (r2 [] [Z6 [] v1] ⟨rfl,rfl⟩ (Zg.sl _ (Yv Z8 (by rw [(Dd Ze).1]))))
 obtain ⟨k,d,x,hk1,hk2,hk3,hk4,hk5⟩:=F8 Ze
 have hkl:=(XM.1 hk1).1
 have hxl:=(XM.1 hk3).1
 have hsm:=(hd.take k).sum
 have hdl:=hd.cons_at hk1
 have hdn:=hd.len
 refine ak (aD 16 (ZZ 14 16 [0,1] (.n 12 (Zd ds) (.n 13 (.i (Xt ds c)) .r)) (da 2 ((k:Int)) ((Xt ds c)-(1)) (hb:=(by have:=hd.len;omega)) ?_)))
 obtain ⟨x1,Z3⟩:=Zs (xs:=ds) (j:=k) om
 have hxe:x1=d:=by rw [hk1] at Z3;exact (Jv Z3).symm
 subst hxe
 refine dx 3 (Zo none (k:Int) 3 (Vi Z3)) (Xa 7 12 [4,5,6,7,8] [(17,W6 x1.cons),(18,.i c),(19,Zd ds),(20,.i (Xt ds c))] (da 9 ((k:Int)) ((Xt ds c)-(1)) (hb:=(by have:=hd.len;omega)) (Z9 10 (Ys 10 [] [] [] (GY ds k) (da 11 ((c-((Yq (ds.take k):Nat):Int))) ((c)-(((Yq (ds.take k):Nat):Int))) ?_)))))
 obtain ⟨x2,Zv⟩:=Zs (xs:=x1.cons) (j:=(c-((Yq (ds.take k):Nat):Int)).toNat) om
 have hxe:x2=x:=by rw [show (c - ↑(Yq (ds.take k))).toNat=(c-Yq (ds.take k)).toNat from rfl,hk3] at Zv;exact (Jv Zv).symm
 subst hxe
 refine dx 12 (Zo none (c-((Yq (ds.take k):Nat):Int)) 1 (Bc Zv)) (Xa 0 3 [13,14,15] [(4,Z0 x2.fields)] (de ?_))
 exact Zc (r2 [] [Z0 x2.fields] ⟨rfl,rfl⟩ (Zg.sl _ (Yv Z8 hk5.symm)))
theorem KH (ds:List Zf) (t:Int) (hd:Wm ds:=by exact ob):Zj Tryz.prog 174 [Zd ds,.i t] [] (fun r h=>∃(v:Value),r=Z6 (Zu ds t) v/\h=[.tail v 1]):=by
 have hdn:=hd.len
 refine ZK 35 Tryz.func174 (ar (ir 1 [(0,Zd ds),(1,.i t)] (ie (ar (iL (Z8 []) 0 1 ?_)))))
 intro v1
 refine Z1 1 5 (Z6 [] v1) (ie (aq (ar (Yo 2 8 (.i t) 9 (Zd ds) (iw (VN ds) (ZA [] (Uv t 1 (ds.length:Int)) (Z1 1 12 (.b (!(decide (1<=t/\t<=(ds.length:Int))))) (ie (ac (!(decide (1<=t/\t<=(ds.length:Int)))) (p:=¬(1<=t/\t<=(ds.length:Int))) (Yt dq) (fun Ze=>?_) (fun Ze=>?_))))))))))
 ·refine ar (ir 2 [(4,Z6 [] v1)] (ie ?_))
  exact Zc (r2 [0] [Z6 [] v1] ⟨v1,rfl,rfl⟩ (Zg.slh _ (Yv Z8 (by simp [Zu];omega))))
 have Ze:1<=t/\t<=ds.length:=by simpa using Ze
 obtain ⟨d,hd1⟩:=Zs (xs:=ds) (j:=(t-1).toNat) om
 have hdc:=hd.cons_at hd1
 have hsm:=(hd.take (t-1).toNat).sum
 refine ak (aq (ar (Z1 1 6 (.i 0) (ie (ab 0 (al (fun m F h=>∃(k:Nat) (v:Value),(k<=d.cons.length)/\F=[(0,Zd ds),(1,.i t),(5,Z6 (Wu (Yq (ds.take (t-1).toNat)) k) v),(6,.i k)]/\h=[.tail v 1]/\m=d.cons.length-k) _ _ _ ⟨0,v1,(by first|omega|rfl|(simp<;>omega)|grind [Zu,Wu]),rfl,rfl,rfl⟩ (wk [0] (fw (fc (x:=Z6 [] v1) (Zg.slh _ (Yv Z8 (by first|omega|rfl|(simp<;>omega)|grind [Zu,Wu]))) (fc (x:=.i 0) (li (by first|omega|rfl|(simp<;>omega)|grind [Zu,Wu])) fl)))) ?_))))))
 rintro m F h ⟨k,v,Ym,rfl,rfl,rfl⟩
 refine aq (ar (Z5 3 (.n 14 (.i k) (.n 15 (Zd ds) (.n 16 (.i t) .r))) (ia ((((t-1).toNat:Nat):Int)) ((t)-(1)) (Zq (Zo none (((t-1).toNat:Nat):Int) 3 (Vi hd1)) (Z1 2 20 (W6 d.cons) (iw (U6 d.cons) (Z1 1 22 (.b (decide ((k:Int)<(d.cons.length:Int)))) (ie (ZM ((k:Int)<(d.cons.length:Int)) (fun Zk=>?_) (fun Zk=>?_))))))))))
 ·refine ak (aq (ab 1 (az (Z5 3 (.n 25 (Z6 (Wu (Yq (ds.take (t-1).toNat)) k) v) (.n 26 (Zd ds) (.n 27 (.i t) .r))) (ia ((((t-1).toNat:Nat):Int)) ((t)-(1)) (ZA [] (GY ds ((t-1).toNat) (hd:=(by first|omega|rfl|(simp<;>omega)|grind [Zu,Wu])) (hn:=(by first|omega|rfl|(simp<;>omega)|grind [Zu,Wu]))) (Z1 1 30 (.i k) (ia ((((Yq (ds.take ((t-1).toNat)))+k:Nat):Int)) ((((Yq (ds.take ((t-1).toNat)):Nat):Int))+((k:Int))) (iL (Z8 [(((Yq (ds.take ((t-1).toNat)))+k:Nat):Int)]) 1 1 ?_)))))))))
  intro v2
  refine Z5 0 (.n 32 (Z0 [(((Yq (ds.take ((t-1).toNat)))+k:Nat):Int)]) (.p .r)) (ip 1 (Z8 (Wu (Yq (ds.take (t-1).toNat)) k++[(((Yq (ds.take ((t-1).toNat)))+k:Nat):Int)])) (Z8 (Wu (Yq (ds.take (t-1).toNat)) k)) (Z8 [(((Yq (ds.take ((t-1).toNat)))+k:Nat):Int)]) v none 1 (YD _) (YD _) (XY _) (by simp<;>omega) (by simp [XX,Z8]) ?_)
  intro v3
  refine ir 1 [(0,Zd ds),(1,.i t),(5,Z6 (Wu (Yq (ds.take (t-1).toNat)) k++[(((Yq (ds.take ((t-1).toNat)))+k:Nat):Int)]) v3),(6,.i k)] (ie (az (Z1 1 23 (.i k) (ZO k (Z5 1 (.n 6 (.i (k+1:Nat)) (.p (.d (.k (.k (.k .z)))))) (ie ?_))))))
  exact ⟨_,_,_,(by first|omega|rfl|(simp<;>omega)|grind [Zu,Wu]),⟨k+1,v3,(by first|omega|rfl|(simp<;>omega)|grind [Zu,Wu]),rfl,rfl,rfl⟩,(wk [0] (fw (fc (x:=Z6 (Wu (Yq (ds.take (t-1).toNat)) k++[(((Yq (ds.take ((t-1).toNat)))+k:Nat):Int)]) v3) (Zg.slh _ (Yv Z8 (M5 _ _).symm)) (fc (x:=.i (k+1:Nat)) (li (by first|omega|rfl|(simp<;>omega)|grind [Zu,Wu])) fl))))⟩
 refine ax 0 (ar (ir 2 [(4,Z6 (Wu (Yq (ds.take (t-1).toNat)) k) v)] (ie ?_)))
 exact Zc (r2 [0] [Z6 (Wu (Yq (ds.take (t-1).toNat)) k) v] ⟨v,rfl,rfl⟩ (Zg.slh _ (Yv Z8 (by rw [Zu,Zm Ze,hd1,show k=d.cons.length by omega];rfl))))
theorem Nb (ds:List Zf) (frm:Int) (to_:Int) (hl_ds:ds.length<=4294967296:=by exact ob):Zj Tryz.prog 176 [Zd ds,.i frm,.i to_] [] (fun r h=>r=.i (WT ds frm to_)/\h=[]):=by
 refine ZK 41 Tryz.func176 (ar (ir 1 [(0,Zd ds),(1,.i frm),(2,.i to_)] (ie (aq (ar (Z1 1 7 (.i 0) (ie (ab 0 (al (fun m F h=>∃(k:Nat),(k<=ds.length)/\(Q8 frm to_ (ds.drop k) k=WT ds frm to_)/\F=[(0,Zd ds),(1,.i frm),(2,.i to_),(7,.i k)]/\h=[]/\m=ds.length-k) _ _ _ ⟨0,ob,ob,rfl,rfl,rfl⟩ (wk [] (fw (fr (Ye fl)))) ?_)))))))))
 rintro m F h ⟨k,Ym,Zp,rfl,rfl,rfl⟩
 refine aq (ar (Yo 2 8 (.i k) 9 (Zd ds) (iw (VN ds) (Z1 1 11 (.b (decide ((k:Int)<(ds.length:Int)))) (ie (ZM ((k:Int)<(ds.length:Int)) (fun Ze=>?_) (fun Ze=>?_)))))))
 ·refine ak (aq (ab 1 (ar (Yo 2 14 (Zd ds) 15 (.i k) ?_))))
  obtain ⟨x1,Z3⟩:=Zs (xs:=ds) (j:=k) om
  refine Zq (Zo none (k:Int) 3 (Vi Z3)) (Z1 2 18 (W6 x1.cons) (iw (U6 x1.cons) (XP 16 [(0,Zd ds),(1,.i frm),(2,.i to_),(7,.i k),(29,.b (((x1.cons.length:Int)==0)&&(x1.frm==frm)))] [] ?_ (fun hj1=>?_))))
  ·refine Xp [(0,Zd ds),(1,.i frm),(2,.i to_),(7,.i k),(38,.b ((((x1.cons.length:Int)==0)&&(x1.frm==frm))&&(x1.to_==to_)))] [] ?_ ?_
   ·refine ir 1 [(0,Zd ds),(1,.i frm),(2,.i to_),(7,.i k),(30,.b (((x1.cons.length:Int)==0)&&(x1.frm==frm)))] (ib (b:=(((x1.cons.length:Int)==0)&&(x1.frm==frm))) 30 (fun Za=>?_) (fun Za=>?_))
    ·have ZP:((x1.cons.length:Int)=0)/\(x1.frm=frm):=((YE Zh Zh)).1 Za
     refine Z5 2 (.n 31 (Zd ds) (.n 32 (.i k) (.w (.k .z)))) (Zq (Zo none (k:Int) 3 (Vi Z3)) (Z1 5 38 (.b (x1.to_==to_)) (ie ?_)))
     exact wk [] (fq (Zr (x1.to_==to_) Za fl))
    have Y0:¬(((x1.cons.length:Int)=0)/\(x1.frm=frm)):=ZG (YE Zh Zh) Za
    refine Z5 8 (.n 38 (.b false) (.d (.w .z))) (ie ?_)
    exact wk [] (fq (Zr false Za fl))
   refine ac ((((x1.cons.length:Int)==0)&&(x1.frm==frm))&&(x1.to_==to_)) (p:=(((x1.cons.length:Int)=0)/\(x1.frm=frm))/\(x1.to_=to_)) (YE (YE Zh Zh) Zh) (fun Zk=>?_) (fun Zk=>?_)
   ·refine ar (ir 1 [(39,.i k)] (ZO k (ir 1 [(6,.i (k+1:Nat))] (ie ?_))))
    rw [Yb Z3] at Zp
    exact Zc (r2 [] [.i (k+1:Nat)] ⟨rfl,rfl⟩ (li (by clear Z3;first|rfl|omega|grind [Q8])))
   refine ak (az (ir 1 [(0,Zd ds),(1,.i frm),(2,.i to_),(12,.i k)] (ZO k (Z1 1 7 (.i (k+1:Nat)) (ie ?_)))))
   have hdr:=Yb Z3
   exact ZQ ⟨k+1,ob,(by rw [hdr] at Zp;clear hdr Z3;grind [Q8]),rfl,rfl,rfl⟩ (wk [] (fw (fr (ZW k fl))))
  refine ir 2 [(0,Zd ds),(1,.i frm),(2,.i to_),(7,.i k),(21,.b ((x1.cons.length:Int)==0))] (ib (b:=((x1.cons.length:Int)==0)) 21 (fun Zw=>?_) (fun Zw=>?_))
  ·have YB:(x1.cons.length:Int)=0:=(Zh).1 Zw
   refine Z5 2 (.n 22 (Zd ds) (.n 23 (.i k) (.w (.k .z)))) (Zq (Zo none (k:Int) 3 (Vi Z3)) (Z1 5 29 (.b (x1.frm==frm)) ?_))
   exact YG (wk [] (fq (Zr (x1.frm==frm) Zw fl))) hj1
  have YN:¬((x1.cons.length:Int)=0):=ZG Zh Zw
  refine Z5 8 (.n 29 (.b false) (.d (.w .z))) ?_
  exact YG (wk [] (fq (Zr false Zw fl))) hj1
 refine ax 0 (ar (ir 1 [(6,.i (-1))] (ie ?_)))
 try rw [Xx (xs:=ds) (k:=k) om] at Zp
 exact Zc (r2 [] [.i (-1)] ⟨rfl,rfl⟩ (li (by first|rfl|omega|grind [Q8])))
theorem CJ (ds:List Zf) (t:Int) (hd:Wm ds:=by exact ob):Zj Tryz.prog 141 [Zd ds,.i t] [] (fun r h=>r=.b (X5 ds t)/\h=[]):=by
 have hdn:=hd.len
 refine ZK 19 Tryz.func141 (ar (ir 1 [(0,Zd ds),(1,.i t)] (ie (ar (Yo 2 5 (.i t) 6 (Zd ds) (iw (VN ds) (ZA [] (Uv t 1 (ds.length:Int)) (Z1 1 9 (.b (decide (1<=t/\t<=(ds.length:Int)))) (ib (b:=(decide (1<=t/\t<=(ds.length:Int)))) 9 (fun Za=>?_) (fun Za=>?_))))))))))
 ·have ZP:1<=t/\t<=(ds.length:Int):=(dq).1 Za
  refine Z5 2 (.n 10 (Zd ds) (.n 11 (.i t) (.k .z))) (ia ((t-1)) ((t)-(1)) ?_)
  obtain ⟨x1,Z3⟩:=Zs (xs:=ds) (j:=(t-1).toNat) om
  refine Zq (Zo none (t-1) 3 (Vi Z3)) (Z1 2 15 (W6 x1.cons) (iw (U6 x1.cons) (ir 3 [(4,.b ((x1.cons.length:Int)==0))] (ie ?_))))
  exact Zc (r2 [] [.b ((x1.cons.length:Int)==0)] ⟨rfl,rfl⟩ (lb (by first|omega|rfl|(rw [DN ZP Z3])|exact G5 Y0)))
 have Y0:¬(1<=t/\t<=(ds.length:Int)):=ZG dq Za
 refine ir 10 [(4,.b false)] (ie ?_)
 exact Zc (r2 [] [.b false] ⟨rfl,rfl⟩ (lb (by first|omega|rfl|(rw [DN ZP Z3])|exact G5 Y0)))
theorem Q2 (xs:List Int) (ys:List Int) (hl:xs.length+ys.length<=4294967296:=by exact ob):Zj Tryz.prog 175 [Z0 xs,Z0 ys] [] (fun r h=>∃(v:Value),r=Z6 (xs++ys) v/\h=[.tail v 1]):=by
 refine ZK 9 Tryz.func175 (ar (ir 1 [(0,Z0 xs),(1,Z0 ys)] (ie (ar (Z1 1 5 (Z0 xs) (ic [] (VJ xs) ?_))))))
 rintro _ _ ⟨v1,rfl,rfl⟩
 refine Z1 1 7 (Z0 ys) (ip 0 (Z8 (xs++ys)) (Z8 xs) (Z8 ys) v1 none 1 (YD _) (YD _) (XY _) (by simp<;>omega) (by simp [XX,Z8]) ?_)
 intro v2
 refine ir 1 [(4,Z6 (xs++ys) v2)] (ie ?_)
 exact Zc (r1 [0] ⟨v2,rfl,rfl⟩)
theorem N9 (ds:List Zf) (xs:List Int) (hl_ds:ds.length<=4294967296:=by exact ob) (hl_xs:xs.length<=4294967296:=by exact ob):Zj Tryz.prog 58 [Zd ds,Z0 xs] [] (fun r h=>r=.b (Xi ds.length xs)/\h=[]):=by
 refine ZK 20 Tryz.func58 (ar (ir 1 [(0,Zd ds),(1,Z0 xs)] (ie (aq (ar (Z1 1 5 (.i 0) (ie (ab 0 (al (fun m F h=>∃(k:Nat),(k<=xs.length)/\(Xi ds.length (xs.drop k)=Xi ds.length xs)/\F=[(0,Zd ds),(1,Z0 xs),(5,.i k)]/\h=[]/\m=xs.length-k) _ _ _ ⟨0,ob,ob,rfl,rfl,rfl⟩ (wk [] (fw (Ye fl))) ?_)))))))))
 rintro m F h ⟨k,Ym,Zp,rfl,rfl,rfl⟩
 refine aq (ar (Yo 2 6 (.i k) 7 (Z0 xs) (iw (Yd xs) (Z1 1 9 (.b (decide ((k:Int)<(xs.length:Int)))) (ie (ZM ((k:Int)<(xs.length:Int)) (fun Ze=>?_) (fun Ze=>?_)))))))
 ·refine ak (aq (ab 1 (ar (Yo 2 12 (Z0 xs) 13 (.i k) ?_))))
  obtain ⟨x1,Z3⟩:=Zs (xs:=xs) (j:=k) om
  refine Zq (Zo none (k:Int) 1 (Y3 Z3)) (Yo 2 15 (.i x1) 16 (Zd ds) (iw (VN ds) (ZA [] (Uv x1 0 (ds.length:Int)) (Z1 1 19 (.b (!(decide (0<=x1/\x1<=(ds.length:Int))))) (ie (ac (!(decide (0<=x1/\x1<=(ds.length:Int)))) (p:=¬(0<=x1/\x1<=(ds.length:Int))) (Yt dq) (fun Zk=>?_) (fun Zk=>?_)))))))
  ·refine ar (ir 1 [(4,.b false)] (ie ?_))
   rw [Yb Z3] at Zp
   exact Zc (r2 [] [.b false] ⟨rfl,rfl⟩ (lb (by clear Z3;first|rfl|omega|grind [Xi])))
  refine ak (az (Z1 1 10 (.i k) (ZO k (ir 1 [(0,Zd ds),(1,Z0 xs),(5,.i (k+1:Nat))] (ie ?_)))))
  have hdr:=Yb Z3
  exact ZQ ⟨k+1,ob,(by rw [hdr] at Zp;clear hdr Z3;grind [Xi]),rfl,rfl,rfl⟩ (wk [] (fw (ZW k fl)))
 refine ax 0 (ar (ir 1 [(4,.b true)] (ie ?_)))
 try rw [Xx (xs:=xs) (k:=k) om] at Zp
 exact Zc (r2 [] [.b true] ⟨rfl,rfl⟩ (lb (by first|rfl|omega|grind [Xi])))
theorem Sf (code:List Int) (hl:code.length<=1048576:=by exact ob) (hc:∀z∈code,0<=z/\z<=255):Zj Tryz.prog 48 [X9 code] [] (fun r h=>∃(rd:Nat) (bs:List Int),r=.p rd 0/\h=[.obj rd [X9 bs,.i 0]]/\∀z∈bs,0<=z/\z<=255):=by
 refine ZK 11 Tryz.func48 (ar (ir 1 [(0,X9 code)] (ie (aq (ar (Z1 1 3 (X9 code) (iw (Qw code) (Z1 1 5 (.b (decide ((code.length:Int)>2000))) (ie (XI (fun F h=>F=[(0,X9 (if (code.length:Int)>2000 then (code.take 2000) else code))]/\h=[]) ?_ ?_))))))))))
 ·refine ZM ((code.length:Int)>2000) (fun Ze=>?_) (fun Ze=>?_)
  ·refine az (ir 1 [(6,X9 code)] (Zq (K9 (es:=T1 code) (hv:=none) (l:=0) (m:=2000) (sz:=1) (es':=T1 (code.take 2000)) kr om (by simp<;>omega) (by simp<;>omega) (PP _) (by first|(simp only [VL,Vl,Fm,Fl];done)|(simp only [VL,Vl,Fm,Fl];rfl)|(simp [Fm,Fl];done))) (ir 1 [(0,X9 (code.take 2000))] (ie ?_))))
   exact ZV ⟨rfl,rfl⟩ (wk [] (fc (x:=X9 (code.take 2000)) (Zg.sl _ (Yv T1 (by first|rfl|(rw [Zm Ze])|(rw [Zb Ze])|(simp [Ze];done)|(rw [Xm];simp [Ze];done)|omega))) fl))
  refine ak ?_
  exact ZV ⟨rfl,rfl⟩ (wk [] (fc (x:=X9 code) (Zg.sl _ (Yv T1 (by first|rfl|(rw [Zm Ze])|(rw [Zb Ze])|(simp [Ze];done)|(rw [Xm];simp [Ze];done)|omega))) fl))
 rintro F h ⟨rfl,rfl⟩
 refine ar (ir 2 [(9,.agg [X9 (if (code.length:Int)>2000 then (code.take 2000) else code),.i 0])] (iA [X9 (if (code.length:Int)>2000 then (code.take 2000) else code),.i 0] ?_))
 intro b1
 refine ir 1 [(2,.p b1 0)] (ie ?_)
 exact Zc (r1 [0] ⟨b1,(if (code.length:Int)>2000 then (code.take 2000) else code),rfl,rfl,(by first|exact hc|exact fun z hz=>hc z (TJ hz)|(split<;>first|exact hc|exact fun z hz=>hc z (TJ hz)))⟩)
theorem XU (rd:Nat) (bs:List Int) (p:Nat) (mx:Int) (ZD:∀z∈bs,0<=z/\z<=255) (hp:p+1<=1000000000:=by exact ob):Zj Tryz.prog 50 [.p rd 0,.i mx] [Yl rd bs p] (fun r h=>∃(k:Int),r=.i k/\h=[.obj rd [X9 bs,.i (p+1:Nat)]]/\Pk mx k):=by
 refine ZK 99 Tryz.func50 (ar (ir 1 [(0,.p rd 0),(1,.i mx)] (ie (ar (Y1 5 7 (.p rd 0) 11 (.i p) [0] [rd] (ZO p (Z1 2 14 (.p rd 1) (ZH 0 rd [X9 bs,.i (p+1:Nat)] (ie (aq (ar (Xp [(0,.p rd 0),(1,.i mx),(24,.b ((decide (mx<1))||((bs.length:Int)==0)))] [.obj rd [X9 bs,.i (p+1:Nat)]] ?_ ?_))))))))))))
 ·refine ir 3 [(0,.p rd 0),(1,.i mx),(17,.b (decide (mx<1)))] (ib (b:=(decide (mx<1))) 17 (fun Za=>?_) (fun Za=>?_))
  ·have ZP:mx<1:=(dq).1 Za
   refine Z5 7 (.n 24 (.b true) (.d (.k (.k .z)))) (ie ?_)
   exact wk [0] (fw (Zr true Za fl))
  have Y0:¬(mx<1):=ZG dq Za
  refine Y2 4 (.n 21 (X9 bs) (.k (.k (.k .z)))) [0] [rd] (iw (Qw bs) (Z1 2 24 (.b ((bs.length:Int)==0)) (ie ?_)))
  exact wk [0] (fw (Zr ((bs.length:Int)==0) Za fl))
 refine ac ((decide (mx<1))||((bs.length:Int)==0)) (p:=(mx<1)∨((bs.length:Int)=0)) (Yh dq Zh) (fun Ze=>?_) (fun Ze=>?_)
 ·refine ar (ir 1 [(4,.i 0)] (ie ?_))
  exact Zc (r1 [0] ⟨0,rfl,rfl,Pk.zero⟩)
 refine ak (ar (iR 4 [(0,.p rd 0),(1,.i mx),(28,.i (p+1:Nat))] [0] [rd] (ia ((p:Int)) ((((p+1:Nat):Int))-(1)) (Z1 1 5 (.i p) (ie (aq (ar (Y1 5 30 (.i p) 34 (X9 bs) [0] [rd] (iw (Qw bs) (Z1 1 36 (.b (decide ((p:Int)<(bs.length:Int)))) (ie (ZM ((p:Int)<(bs.length:Int)) (fun Zk=>?_) (fun Zk=>?_)))))))))))))
 ·refine ar (Y1 5 40 (X9 bs) 41 (.i p) [0] [rd] ?_)
  obtain ⟨x1,Z3⟩:=Zs (xs:=bs) (j:=p) om
  have hz:=ZD _ (Y7 Z3)
  refine Zq (Zo none (p:Int) 1 (Bb Z3)) (Z1 1 43 (.val (.int .u8 x1)) (Zq (Bu x1 om) (Z1 1 45 (.i mx) (Zq (Cl x1 mx om om) (ir 1 [(4,.i (x1 % mx))] (ie ?_))))))
  exact Zc (r1 [0] ⟨(x1 % mx),rfl,rfl,(Pk.rem om om)⟩)
 have hq1:p / bs.length<=p:=Nat.div_le_self _ _
 have hq0:(0:Int)<=((p / bs.length:Nat):Int):=Int.natCast_nonneg _
 refine ak (aD 46 (Y6 37 46 [0,1,2,3,4,5,6,7,8] (.n 50 (X9 bs) (.n 51 (.i p) (.n 55 (X9 bs) .r))) [0,0] [rd,rd] (dw 9 (Qw bs) (dx 10 (DO p bs.length om om) ?_))))
 obtain ⟨x2,Zv⟩:=Zs (xs:=bs) (j:=p % bs.length) (Nat.mod_lt _ om)
 have hz:=ZD _ (Y7 Zv)
 refine dx 11 (Zo none ((p % bs.length:Nat):Int) 1 (Bb Zv)) (ZY 33 34 [12] 59 (.val (.int .u8 x2)) (dx 13 (Bu x2 om) (da 14 ((x2*131)) ((x2)*(131)) (Y6 26 31 [15,16,17,18,19] (.n 65 (X9 bs) (.n 66 (.i p) .r)) [0] [rd] (da 20 (((p*7:Nat):Int)) (((p:Int))*(7)) (da 21 (((p*7+3:Nat):Int)) ((((p*7:Nat):Int))+(3)) (Y6 20 24 [22,23,24,25] (.n 72 (X9 bs) .r) [0] [rd] (dw 26 (Qw bs) (dx 27 (DO (p*7+3) bs.length om om) ?_)))))))))
 obtain ⟨x3,YT⟩:=Zs (xs:=bs) (j:=(p*7+3) % bs.length) (Nat.mod_lt _ om)
 have hz3:=ZD _ (Y7 YT)
 refine dx 28 (Zo none (((p*7+3) % bs.length:Nat):Int) 1 (Bb YT)) (ZY 16 17 [29] 76 (.val (.int .u8 x3)) (dx 30 (Bu x3 om) (da 31 ((x3*1117)) ((x3)*(1117)) (da 32 (((x2*131)+(x3*1117))) (((x2*131))+((x3*1117))) (ZY 12 13 [33] 80 (.i p) (da 34 (((p*29:Nat):Int)) (((p:Int))*(29)) (da 35 ((((x2*131)+(x3*1117))+((p*29:Nat):Int))) ((((x2*131)+(x3*1117)))+(((p*29:Nat):Int))) (Y6 5 10 [36,37,38,39,40] (.n 83 (.i p) (.n 87 (X9 bs) .r)) [0] [rd] (dw 41 (Qw bs) (dx 42 (AJ p bs.length om om) (da 43 ((((p / bs.length:Nat):Int)*53)) ((((p / bs.length:Nat):Int))*(53)) (da 44 (((((x2*131)+(x3*1117))+((p*29:Nat):Int))+(((p / bs.length:Nat):Int)*53))) (((((x2*131)+(x3*1117))+((p*29:Nat):Int)))+((((p / bs.length:Nat):Int)*53))) (ZY 0 1 [45] 6 (.i ((((x2*131)+(x3*1117))+((p*29:Nat):Int))+(((p / bs.length:Nat):Int)*53))) (de (ar (Yo 2 92 (.i ((((x2*131)+(x3*1117))+((p*29:Nat):Int))+(((p / bs.length:Nat):Int)*53))) 93 (.i ((((x2*131)+(x3*1117))+((p*29:Nat):Int))+(((p / bs.length:Nat):Int)*53))) (Zq (Gc ((((x2*131)+(x3*1117))+((p*29:Nat):Int))+(((p / bs.length:Nat):Int)*53)) 64 om om) (Zq (Ls ((((x2*131)+(x3*1117))+((p*29:Nat):Int))+(((p / bs.length:Nat):Int)*53)) (((((x2*131)+(x3*1117))+((p*29:Nat):Int))+(((p / bs.length:Nat):Int)*53)) / 64)) (ir 1 [(1,.i mx),(6,.i (TH ((((x2*131)+(x3*1117))+((p*29:Nat):Int))+(((p / bs.length:Nat):Int)*53)) (((((x2*131)+(x3*1117))+((p*29:Nat):Int))+(((p / bs.length:Nat):Int)*53)) / 64)))] (ie (ar (ir 2 [(96,.i (TH ((((x2*131)+(x3*1117))+((p*29:Nat):Int))+(((p / bs.length:Nat):Int)*53)) (((((x2*131)+(x3*1117))+((p*29:Nat):Int))+(((p / bs.length:Nat):Int)*53)) / 64))),(97,.i mx)] (Zq (Cl (TH ((((x2*131)+(x3*1117))+((p*29:Nat):Int))+(((p / bs.length:Nat):Int)*53)) (((((x2*131)+(x3*1117))+((p*29:Nat):Int))+(((p / bs.length:Nat):Int)*53)) / 64)) mx om (Ez ⟨by omega,by omega⟩ ⟨by omega,by omega⟩).1) (ir 1 [(4,.i ((TH ((((x2*131)+(x3*1117))+((p*29:Nat):Int))+(((p / bs.length:Nat):Int)*53)) (((((x2*131)+(x3*1117))+((p*29:Nat):Int))+(((p / bs.length:Nat):Int)*53)) / 64)) % mx))] (ie ?_)))))))))))))))))))))))))
 exact Zc (r1 [0] ⟨((TH ((((x2*131)+(x3*1117))+((p*29:Nat):Int))+(((p / bs.length:Nat):Int)*53)) (((((x2*131)+(x3*1117))+((p*29:Nat):Int))+(((p / bs.length:Nat):Int)*53)) / 64)) % mx),rfl,rfl,(Pk.rem (Ez ⟨by omega,by omega⟩ ⟨by omega,by omega⟩).1 om)⟩)
theorem Vt (rd:Nat) (bs:List Int) (p:Nat) (xs:List Int) (ZD:∀z∈bs,0<=z/\z<=255) (hp:p+1<=1000000000:=by exact ob) (hx:0<xs.length/\xs.length<=1000000:=by exact ob):Zj Tryz.prog 72 [.p rd 0,Z0 xs] [Yl rd bs p] (fun r h=>∃(z:Int),r=.i z/\h=[.obj rd [X9 bs,.i (p+1:Nat)]]/\z∈xs):=by
 refine ZK 12 Tryz.func72 (ar (ir 1 [(0,.p rd 0),(1,Z0 xs)] (ie (ar (ir 3 [(5,Z0 xs),(6,.p rd 0),(7,Z0 xs)] (iw (Yd xs) (ic [0] (XU rd bs p (xs.length:Int) (ZD:=ob)) ?_)))))))
 rintro _ _ ⟨k1,rfl,rfl,ZP⟩
 have hk:=ZP.lt om
 obtain ⟨x1,Z3⟩:=Zs (xs:=xs) (j:=k1.toNat) om
 refine Zq (Zo none k1 1 (Y3 Z3)) (ir 2 [(4,.i x1)] (ie ?_))
 exact Zc (r1 [0] ⟨x1,rfl,rfl,(Y7 Z3)⟩)
theorem Tk (fs:List Int) :Zj Tryz.prog 144 [Z0 fs] [] (fun r h=>r=An (Y5.mk fs)/\h=[]):=by
 refine ZK 5 Tryz.func144 (ar (iA [nl] ?_))
 intro b1
 refine ie (ar (ir 2 [(2,.p b1 0),(4,.agg [Z0 fs])] (ZH 0 b1 [Z0 fs] (ie ?_))))
 exact Zc (r3 [] [.agg [Z0 fs]] [0] [(b1,b1)] ⟨rfl,rfl⟩ (Zg.agg (.cons (Zg.sl _ (Yv Z8 ob)) .nil)))
theorem IR (rd:Nat) (bs:List Int) (p:Nat) (ZD:∀z∈bs,0<=z/\z<=255) (hp:p+1<=1000000000:=by exact ob):Zj Tryz.prog 143 [.p rd 0] [Yl rd bs p] (fun r h=>∃(ds:List Zf) (v:Hd),r=.h v/\h=[rK v 3 (Zl (YV ds)),.obj rd [X9 bs,.i (p+1:Nat)]]/\GD ds):=by
 refine ZK 51 Tryz.func143 (ar (ir 1 [(0,.p rd 0)] (ie (ar (iL (Z8 []) 0 1 ?_)))))
 intro v1
 refine Z5 0 (.n 8 (Z0 []) (.p .r)) (ZA [] (Tk []) (iL (Z8 [0,1]) 2 1 ?_))
 intro v2
 refine Z5 0 (.n 10 (Z0 [0,1]) (.p .r)) (ZA [] (Tk [0,1]) (iL (Ww [Y5.mk [],Y5.mk [0,1]]) 2 1 ?_))
 intro v3
 refine Z1 1 13 (.agg [.i 0,.i 0,QI [Y5.mk [],Y5.mk [0,1]] v3]) (iA [.i 0,.i 0,nl] ?_)
 intro b1
 refine ZH 0 b1 [.i 0,.i 0,QI [Y5.mk [],Y5.mk [0,1]] v3] (ie (ar (iL (Z8 []) 0 1 ?_)))
 intro v4
 refine Z5 0 (.n 14 (Z0 []) (.p .r)) (ZA [] (Tk []) (iL (Z8 [3,0,3]) 3 1 ?_))
 intro v5
 refine Z5 0 (.n 16 (Z0 [3,0,3]) (.p .r)) (ZA [] (Tk [3,0,3]) (iL (Ww [Y5.mk [],Y5.mk [3,0,3]]) 2 1 ?_))
 intro v6
 refine Z1 1 19 (.agg [.i 0,.i 0,QI [Y5.mk [],Y5.mk [3,0,3]] v6]) (iA [.i 0,.i 0,nl] ?_)
 intro b2
 refine ZH 0 b2 [.i 0,.i 0,QI [Y5.mk [],Y5.mk [3,0,3]] v6] (ie (ar (iL (Z8 [1,3]) 2 1 ?_)))
 intro v7
 refine Z5 0 (.n 20 (Z0 [1,3]) (.p .r)) (ZA [] (Tk [1,3]) (iL (Ww [Y5.mk [1,3]]) 1 1 ?_))
 intro v8
 refine Yo 2 23 (.agg [.i 0,.i 0,QI [Y5.mk [1,3]] v8]) 24 (.agg [.i 1,.i 0,nl]) (iL (Z8 [1,1,0]) 3 1 ?_)
 intro v9
 refine Z5 0 (.n 25 (Z0 [1,1,0]) (.p .r)) (ZA [] (Tk [1,1,0]) (iL (Z8 [0]) 1 1 ?_))
 intro v10
 refine Z5 0 (.n 27 (Z0 [0]) (.p .r)) (ZA [] (Tk [0]) (iL (Z8 [3]) 1 1 ?_))
 intro v11
 refine Z5 0 (.n 29 (Z0 [3]) (.p .r)) (ZA [] (Tk [3]) (iL (Ww [Y5.mk [1,1,0],Y5.mk [0],Y5.mk [3]]) 3 1 ?_))
 intro v12
 refine ir 2 [(0,.p rd 0),(3,.p b1 0),(4,.p b2 0),(23,.agg [.i 0,.i 0,W6 [Y5.mk [1,3]]]),(24,.agg [.i 1,.i 0,.sl [] none]),(32,.agg [.i 0,.i 0,W6 [Y5.mk [1,1,0],Y5.mk [0],Y5.mk [3]]]),(33,.agg [.i 0,.i 1,.sl [] none])] (iL (YV [Zf.mk 0 0 [Y5.mk [1,3]],Zf.mk 1 0 [],Zf.mk 0 0 [Y5.mk [1,1,0],Y5.mk [0],Y5.mk [3]],Zf.mk 0 1 []]) 4 3 ?_)
 intro v13
 refine Z1 1 5 (Ud [Zf.mk 0 0 [Y5.mk [1,3]],Zf.mk 1 0 [],Zf.mk 0 0 [Y5.mk [1,1,0],Y5.mk [0],Y5.mk [3]],Zf.mk 0 1 []] v13) (ie (ar (Y2 3 (.n 35 (.agg [.i 0,.i 0,W6 [Y5.mk [],Y5.mk [0,1]]]) (.n 36 (.agg [.i 0,.i 0,.sl [] none]) (.n 37 (.agg [.i 0,.i 0,W6 [Y5.mk [],Y5.mk [3,0,3]]]) .r))) [11,7] [b1,b2] (SV (Zl (YV [Zf.mk 0 0 [Y5.mk [],Y5.mk [0,1]],Zf.mk 0 0 [],Zf.mk 0 0 [Y5.mk [],Y5.mk [3,0,3]]])) 3 3 ?_))))
 intro g1
 refine Z1 1 6 (.ms g1 0 3 3) (ie (ar (Z1 1 39 (.p rd 0) (ic [16] (XU rd bs p 5 (ZD:=ob)) ?_))))
 rintro _ _ ⟨k1,rfl,rfl,ZP⟩
 have hk:=ZP.lt om
 refine Z1 1 7 (.i k1) (ie (aq (ar (Z1 2 42 (.b (decide (k1<4))) (ie (ZM (k1<4) (fun Ze=>?_) (fun Ze=>?_)))))))
 ·refine az (ir 3 [(43,.ms g1 0 3 3),(44,Ud [Zf.mk 0 0 [Y5.mk [1,3]],Zf.mk 1 0 [],Zf.mk 0 0 [Y5.mk [1,1,0],Y5.mk [0],Y5.mk [3]],Zf.mk 0 1 []] v13),(45,.i k1)] ?_)
  obtain ⟨x1,Z3⟩:=Zs (xs:=[Zf.mk 0 0 [Y5.mk [1,3]],Zf.mk 1 0 [],Zf.mk 0 0 [Y5.mk [1,1,0],Y5.mk [0],Y5.mk [3]],Zf.mk 0 1 []]) (j:=k1.toNat) (by show k1.toNat<4;omega)
  refine Zq (Zo (some v13) k1 3 (Vi Z3)) (Z1 1 47 (Ui x1) (iL (YV [x1]) 1 3 ?_))
  intro v14
  refine Z5 0 (.n 48 (Zd [x1]) (.p .r)) (DG 2 3 (⟨some ⟨g1,0,none⟩,3,3⟩:Hd) 3 (Zl (YV [Zf.mk 0 0 [Y5.mk [],Y5.mk [0,1]],Zf.mk 0 0 [],Zf.mk 0 0 [Y5.mk [],Y5.mk [3,0,3]]])) (YV [x1]) none rfl (QZ _) (Dg _) (by simp [YV]) (by simp<;>omega) ?_)
  intro v15
  refine ir 1 [(6,.h v15)] (ie (ar (ir 2 [(2,.h v15)] (ie ?_))))
  exact Zc (r1 [0,1] ⟨([KW,Zf.mk 0 0 [],KX]++[x1]),v15,rfl,rfl,(GD.four Z3)⟩ (eq:=(rr (ls:=Zl (YV [Zf.mk 0 0 [Y5.mk [],Y5.mk [0,1]],Zf.mk 0 0 [],Zf.mk 0 0 [Y5.mk [],Y5.mk [3,0,3]]])++Zl (YV [x1])) (FC _ _) (rc rz))))
 refine ak (ar (ir 2 [(2,.ms g1 0 3 3)] (ie ?_)))
 exact Zc (r1 [1,0] ⟨[KW,Zf.mk 0 0 [],KX],(⟨some ⟨g1,0,none⟩,3,3⟩:Hd),rfl,rfl,GD.three⟩ (eq:=(rr (ls:=Zl (YV [Zf.mk 0 0 [Y5.mk [],Y5.mk [0,1]],Zf.mk 0 0 [],Zf.mk 0 0 [Y5.mk [],Y5.mk [3,0,3]]])) rfl (rc rz))))
theorem RW (rd:Nat) (bs:List Int) (p:Nat) (ZD:∀z∈bs,0<=z/\z<=255) (hp:p+1<=1000000000:=by exact ob):Zj Tryz.prog 143 [.p rd 0] [Yl rd bs p] (fun r h=>∃(ds:List Zf) (v:Value),r=Ud ds v/\h=[.tail v 3,.obj rd [X9 bs,.i (p+1:Nat)]]/\GD ds):=(IR rd bs p ZD hp).frz (es:=YV) (hs:=fun _=>[.obj rd [X9 bs,.i (p+1:Nat)]]) QZ om
theorem Rt (rd:Nat) (bs:List Int) (p:Nat) (ZD:∀z∈bs,0<=z/\z<=255) (hp:p+5<=1000000000:=by exact ob):Zj Tryz.prog 101 [.p rd 0] [Yl rd bs p] (fun r h=>∃(dz:List Zf) (p2:Nat),r=Zd dz/\h=[Yl rd bs p2]/\AD dz/\p<=p2/\p2<=p+5):=by
 refine ZK 89 Tryz.func101 (ar (ir 1 [(0,.p rd 0)] (ie (ar (Z1 1 5 (.p rd 0) (ic [0] (IR rd bs p (ZD:=ob)) ?_))))))
 rintro _ _ ⟨ds1,v1,rfl,rfl,ZP⟩
 have hgl:=ZP.len
 have hga:=ZP.ad
 refine DF 0 ds1.length (v:=v1) (Az _) om (fun g1 c1 he1=>?_)
 subst he1
 refine ir 1 [(0,.p rd 0),(3,.ms g1 0 ds1.length c1)] (ie (ar (Yo 2 7 (.p rd 0) 8 (.ms g1 0 ds1.length c1) (io (.i ds1.length) (.i ds1.length) (lr _) (ic [1] (XU rd bs (p+1) (ds1.length:Int) (ZD:=ob)) ?_)))))
 rintro _ _ ⟨k1,rfl,rfl,Y0⟩
 have qhp2:=Y0.lt om
 refine Z1 1 4 (.i k1) (ie (aq (ar (Z1 1 11 (.p rd 0) (ic [0] (XU rd bs ((p+1)+1) 14 (ZD:=ob)) ?_)))))
 rintro _ _ ⟨k2,rfl,rfl,YB⟩
 have qhp3:=YB.lt om
 refine ie (ab 0 (ar (Z1 2 13 (.b (k2==0)) (ie (JB (fun F h=>∃(dq:List Zf) (vq:Hd) (pq:Nat),(AD dq)/\(p<=pq/\pq<=p+5)/\F=[(3,.h vq)]/\h=[Yl rd bs pq,rK vq 3 (Zl (YV dq))]) (fun _ _=>rfl) ?_ ?_)))))
 ·refine ac (k2==0) Zh (fun Ze=>?_) (fun Ze=>?_)
  ·refine az (ir 3 [(0,.p rd 0),(3,.ms g1 0 ds1.length c1),(15,.ms g1 0 ds1.length c1),(16,.i k1),(17,.p rd 0)] (iL (Z8 [-1,5,0,2]) 4 1 ?_))
   intro v2
   refine Z5 0 (.n 18 (Z0 [-1,5,0,2]) (.p .r)) (ic [1] (Vt rd bs (((p+1)+1)+1) [-1,5,0,2] (ZD:=ob)) ?_)
   rintro _ _ ⟨z1,rfl,rfl,YN⟩
   refine Z1 1 20 (.p rd 0) (iL (Z8 [0,1,5]) 3 1 ?_)
   intro v3
   refine Z5 0 (.n 21 (Z0 [0,1,5]) (.p .r)) (ic [1] (Vt rd bs ((((p+1)+1)+1)+1) [0,1,5] (ZD:=ob)) ?_)
   rintro _ _ ⟨z2,rfl,rfl,YX⟩
   refine Z1 1 23 (.agg [.i z1,.i z2,nl]) (Zq (W5 g1 ds1.length c1 k1.toNat 3 k1) (Z5 0 (.n 23 (.agg [.i z1,.i z2,.sl [] none]) (.q 24 (.d .r))) (Cg 3 g1 ds1.length c1 3 (k1.toNat * 3) [.i z1,.i z2,.sl [] none] (Zl (YV ds1)) (Zl (YV (ds1.set k1.toNat (Zf.mk z1 z2 [])))) (by rw [Az];simp only [YS,Xn];omega) (Dr (Zf.mk z1 z2 []) om) (ie ?_))))
   exact ZV ⟨(ds1.set k1.toNat (Zf.mk z1 z2 [])),(⟨some ⟨g1,0,none⟩,ds1.length,c1⟩:Hd),((((p+1)+1)+1)+1)+1,(hga.set _ (by simp)),ob,rfl,rfl⟩ (wk [1,0] fl)
  refine ar (ir 2 [(0,.p rd 0),(3,.ms g1 0 ds1.length c1),(4,.i k1),(12,.i k2),(25,.b (k2==1))] (ie (ac (k2==1) Zh (fun Zk=>?_) (fun Zk=>?_))))
  ·refine az (Z5 3 (.n 27 (.ms g1 0 ds1.length c1) (.n 28 (.i k1) (.n 29 (.p rd 0) .r))) (iL (Z8 [-1,0,4,5]) 4 1 ?_))
   intro v4
   refine Z5 0 (.n 30 (Z0 [-1,0,4,5]) (.p .r)) (ic [1] (Vt rd bs (((p+1)+1)+1) [-1,0,4,5] (ZD:=ob)) ?_)
   rintro _ _ ⟨z3,rfl,rfl,Xy⟩
   refine iL (Z8 [z3]) 1 1 ?_
   intro v5
   refine Z5 0 (.n 32 (Z0 [z3]) (.p .r)) (ZA [] (Tk [z3]) (iL (Z8 [0,0,0,0]) 4 1 ?_))
   intro v6
   refine Z5 0 (.n 34 (Z0 [0,0,0,0]) (.p .r)) (ZA [] (Tk [0,0,0,0]) (iL (Z8 []) 0 1 ?_))
   intro v7
   refine Z5 0 (.n 36 (Z0 []) (.p .r)) (ZA [] (Tk []) (iL (Ww [Y5.mk [z3],Y5.mk [0,0,0,0],Y5.mk []]) 3 1 ?_))
   intro v8
   refine Z1 1 39 (.agg [.i 0,.i 0,QI [Y5.mk [z3],Y5.mk [0,0,0,0],Y5.mk []] v8]) (Zq (W5 g1 ds1.length c1 k1.toNat 3 k1) (Z5 0 (.n 39 (.agg [.i 0,.i 0,W6 [Y5.mk [z3],Y5.mk [0,0,0,0],Y5.mk []]]) (.q 40 (.d .r))) (Cg 6 g1 ds1.length c1 3 (k1.toNat * 3) [.i 0,.i 0,W6 [Y5.mk [z3],Y5.mk [0,0,0,0],Y5.mk []]] (Zl (YV ds1)) (Zl (YV (ds1.set k1.toNat (Zf.mk 0 0 [Y5.mk [z3],Y5.mk [0,0,0,0],Y5.mk []])))) (by rw [Az];simp only [YS,Xn];omega) (Dr (Zf.mk 0 0 [Y5.mk [z3],Y5.mk [0,0,0,0],Y5.mk []]) om) (ie ?_))))
   exact ZV ⟨(ds1.set k1.toNat (Zf.mk 0 0 [Y5.mk [z3],Y5.mk [0,0,0,0],Y5.mk []])),(⟨some ⟨g1,0,none⟩,ds1.length,c1⟩:Hd),(((p+1)+1)+1)+1,(hga.set _ (by simp)),ob,rfl,rfl⟩ (wk [5,0] fl)
  refine ar (Z1 2 41 (.b (k2==2)) (ie (ac (k2==2) Zh (fun ZI=>?_) (fun ZI=>?_))))
  ·refine az (Z5 3 (.n 43 (.ms g1 0 ds1.length c1) (.n 44 (.i k1) (.n 45 (.i k1) .r))) (ia ((k1+1)) ((k1)+(1)) (iL (Z8 [k1+1]) 1 1 ?_)))
   intro v9
   refine Z5 0 (.n 47 (Z0 [k1+1]) (.p .r)) (ZA [] (Tk [k1+1]) (iL (Ww [Y5.mk [k1+1]]) 1 1 ?_))
   intro v10
   refine Z1 1 50 (.agg [.i 0,.i 0,QI [Y5.mk [k1+1]] v10]) (Zq (W5 g1 ds1.length c1 k1.toNat 3 k1) (Z5 0 (.n 50 (.agg [.i 0,.i 0,W6 [Y5.mk [k1+1]]]) (.q 51 (.d .r))) (Cg 3 g1 ds1.length c1 3 (k1.toNat * 3) [.i 0,.i 0,W6 [Y5.mk [k1+1]]] (Zl (YV ds1)) (Zl (YV (ds1.set k1.toNat (Zf.mk 0 0 [Y5.mk [(k1+1)]])))) (by rw [Az];simp only [YS,Xn];omega) (Dr (Zf.mk 0 0 [Y5.mk [(k1+1)]]) om) (ie ?_))))
   exact ZV ⟨(ds1.set k1.toNat (Zf.mk 0 0 [Y5.mk [(k1+1)]])),(⟨some ⟨g1,0,none⟩,ds1.length,c1⟩:Hd),((p+1)+1)+1,(hga.set _ (by simp)),ob,rfl,rfl⟩ (wk [3,0] fl)
  refine ar (Z1 2 52 (.b (k2==3)) (ie (ac (k2==3) Zh (fun Yi=>?_) (fun Yi=>?_))))
  ·refine az (ir 2 [(54,.ms g1 0 ds1.length c1),(55,.p rd 0)] (iL (Z8 [0,2,1]) 3 1 ?_))
   intro v11
   refine Z5 0 (.n 56 (Z0 [0,2,1]) (.p .r)) (ic [1] (Vt rd bs (((p+1)+1)+1) [0,2,1] (ZD:=ob)) ?_)
   rintro _ _ ⟨z4,rfl,rfl,Wh⟩
   refine Z1 1 58 (.agg [.i 2,.i z4,.sl [] none]) (iL (YV [Zf.mk 2 z4 []]) 1 3 ?_)
   intro v12
   refine Z5 0 (.n 59 (Zd [Zf.mk 2 z4 []]) (.p .r)) (DG 3 ds1.length (⟨some ⟨g1,0,none⟩,ds1.length,c1⟩:Hd) 3 (Zl (YV ds1)) (YV [Zf.mk 2 z4 []]) none (Az _) (QZ _) (Dg _) (by simp [YV]) (by simp<;>omega) ?_)
   intro v13
   refine ir 1 [(3,.h v13)] (ie ?_)
   exact ZV ⟨(ds1++[Zf.mk 2 z4 []]),v13,(((p+1)+1)+1)+1,(hga.app (by simp;omega) (by simp)),ob,rfl,rfl⟩ (wk [2,0] fl (e:=(rc (rr (ls:=Zl (YV ds1)++Zl (YV [Zf.mk 2 z4 []])) (FC _ _) rz))))
  refine ar (Z1 2 61 (.b (k2==4)) (ie (ac (k2==4) Zh (fun Xk=>?_) (fun Xk=>?_))))
  ·refine az (Z5 3 (.n 63 (.ms g1 0 ds1.length c1) (.n 64 (.i k1) (.n 65 (.p rd 0) .r))) (ic [0] (XU rd bs (((p+1)+1)+1) 2 (ZD:=ob)) ?_))
   rintro _ _ ⟨k3,rfl,rfl,WJ⟩
   have qhp8:=WJ.lt om
   refine iL (Z8 []) 0 1 ?_
   intro v14
   refine Z5 0 (.n 67 (Z0 []) (.p .r)) (ZA [] (Tk []) (iL (Z8 [2]) 1 1 ?_))
   intro v15
   refine Z5 0 (.n 69 (Z0 [2]) (.p .r)) (ZA [] (Tk [2]) (iL (Z8 []) 0 1 ?_))
   intro v16
   refine Z5 0 (.n 71 (Z0 []) (.p .r)) (ZA [] (Tk []) (iL (Z8 []) 0 1 ?_))
   intro v17
   refine Z5 0 (.n 73 (Z0 []) (.p .r)) (ZA [] (Tk []) (iL (Ww [Y5.mk [],Y5.mk [2],Y5.mk [],Y5.mk []]) 4 1 ?_))
   intro v18
   refine Z1 1 76 (.p rd 0) (ic [5] (XU rd bs ((((p+1)+1)+1)+1) 3 (ZD:=ob)) ?_)
   rintro _ _ ⟨k4,rfl,rfl,V2⟩
   have qhp9:=V2.lt om
   refine Zq (K9 (es:=Ww [Y5.mk [],Y5.mk [2],Y5.mk [],Y5.mk []]) (hv:=some v18) (l:=k4) (m:=(((Ww [Y5.mk [],Y5.mk [2],Y5.mk [],Y5.mk []]).length:Nat):Int)) (sz:=1) (es':=Ww ([Y5.mk [],Y5.mk [2],Y5.mk [],Y5.mk []].drop k4.toNat)) kr om (by simp<;>omega) (by simp<;>omega) (Fp _) (by first|(simp only [VL,Vl,Fq,Fo];done)|(simp only [VL,Vl,Fq,Fo];rfl)|(simp [Fq,Fo];done))) (Z1 1 79 (.agg [.i k3,.i 0,W6 ([Y5.mk [],Y5.mk [2],Y5.mk [],Y5.mk []].drop k4.toNat)]) (Zq (W5 g1 ds1.length c1 k1.toNat 3 k1) (Cg 6 g1 ds1.length c1 3 (k1.toNat * 3) [.i k3,.i 0,W6 ([Y5.mk [],Y5.mk [2],Y5.mk [],Y5.mk []].drop k4.toNat)] (Zl (YV ds1)) (Zl (YV (ds1.set k1.toNat (Zf.mk k3 0 ([Y5.mk [],Y5.mk [2],Y5.mk [],Y5.mk []].drop k4.toNat))))) (by rw [Az];simp only [YS,Xn];omega) (Dr (Zf.mk k3 0 ([Y5.mk [],Y5.mk [2],Y5.mk [],Y5.mk []].drop k4.toNat)) om) (ie ?_))))
   exact ZV ⟨(ds1.set k1.toNat (Zf.mk k3 0 ([Y5.mk [],Y5.mk [2],Y5.mk [],Y5.mk []].drop k4.toNat))),(⟨some ⟨g1,0,none⟩,ds1.length,c1⟩:Hd),((((p+1)+1)+1)+1)+1,(hga.set _ ⟨by simp,fun c hc=>(by decide:∀c∈[Y5.mk [],Y5.mk [2],Y5.mk [],Y5.mk []],c.fields.length<=4) c (List.mem_of_mem_drop hc)⟩),ob,rfl,rfl⟩ (wk [1,0] fl)
  refine ar (Z1 2 81 (.b (k2==5)) (ie (ac (k2==5) Zh (fun Xl=>?_) (fun Xl=>?_))))
  ·refine az (ir 3 [(83,.ms g1 0 ds1.length c1),(84,.agg [.i 0,.i 0,.sl [] none]),(85,.agg [.i 3,.i 0,.sl [] none])] (iL (YV [Zf.mk 0 0 [],Zf.mk 3 0 []]) 2 3 ?_))
   intro v19
   refine Z5 0 (.n 86 (Zd [Zf.mk 0 0 [],Zf.mk 3 0 []]) (.p .r)) (DG 2 ds1.length (⟨some ⟨g1,0,none⟩,ds1.length,c1⟩:Hd) 3 (Zl (YV ds1)) (YV [Zf.mk 0 0 [],Zf.mk 3 0 []]) none (Az _) (QZ _) (Dg _) (by simp [YV]) (by simp<;>omega) ?_)
   intro v20
   refine ir 1 [(3,.h v20)] (ie ?_)
   exact ZV ⟨(ds1++[Zf.mk 0 0 [],Zf.mk 3 0 []]),v20,((p+1)+1)+1,(hga.app (by simp;omega) (by simp)),ob,rfl,rfl⟩ (wk [2,0] fl (e:=(rc (rr (ls:=Zl (YV ds1)++Zl (YV [Zf.mk 0 0 [],Zf.mk 3 0 []])) (FC _ _) rz))))
  refine ak ?_
  exact ZV ⟨ds1,(⟨some ⟨g1,0,none⟩,ds1.length,c1⟩:Hd),((p+1)+1)+1,hga,ob,rfl,rfl⟩ (wk [0,0] fl)
 rintro F h ⟨dq,vq,pq,QC,G8,rfl,rfl⟩
 refine ar (ir 2 [(2,.h vq)] (ie (Z15 2 1 (v:=vq) (YV dq) (QZ _) ?_)))
 exact Zc (r2 [1] [Ud dq vq.v] ⟨dq,pq,rfl,rfl,⟨QC,G8⟩⟩ (Zg.forget _ _))
theorem Z5m (ds:List Zf) (n:Nat) (hz:KR ds:=by exact ob) (hn:n<ds.length:=by exact ob):Zj Tryz.prog 172 [Zd ds,.i n] [] (fun r h=>r=.b (JK ds n)/\h=[]):=by
 have hl_ds:ds.length<=4294967296:=by have:=hz.len;omega
 refine ZK 100 Tryz.func172 (ar (ir 1 [(0,Zd ds),(1,.i n)] (ie (ar (Yo 2 8 (Zd ds) 9 (.i n) ?_)))))
 obtain ⟨x1,Z3⟩:=Zs (xs:=ds) (j:=n) om
 have hdo:=BY Z3
 have hz1:=hz.cons_at Z3
 refine Zq (Zo none (n:Int) 3 (Vi Z3)) (Z1 1 11 (Ui x1) (iA [.i 0,.i 0,nl] ?_))
 intro b1
 refine ZH 0 b1 (Ws x1) (ie (aq (ar (Yk 2 13 (W6 x1.cons) [0] [b1] (iw (U6 x1.cons) (Z1 1 15 (.b (decide ((x1.cons.length:Int)>0))) (ie (ZM ((x1.cons.length:Int)>0) (fun Ze=>?_) (fun Ze=>?_)))))))))
 ·refine aq (ar (Yk 2 17 (W6 x1.cons) [0] [b1] (iw (U6 x1.cons) (XP 9 [(0,Zd ds),(5,.p b1 0),(24,.b ((decide ((x1.cons.length:Int)>3))||(x1.frm != 0)))] [.obj b1 (Ws x1)] ?_ (fun hj1=>?_)))))
  ·refine Xp [(0,Zd ds),(5,.p b1 0),(29,.b (((decide ((x1.cons.length:Int)>3))||(x1.frm != 0))||(x1.to_ != 0)))] [.obj b1 (Ws x1)] ?_ ?_
   ·refine ir 1 [(0,Zd ds),(5,.p b1 0),(25,.b ((decide ((x1.cons.length:Int)>3))||(x1.frm != 0)))] (ib (b:=((decide ((x1.cons.length:Int)>3))||(x1.frm != 0))) 25 (fun Za=>?_) (fun Za=>?_))
    ·have ZP:((x1.cons.length:Int)>3)∨(x1.frm≠0):=((Yh dq Yc)).1 Za
     refine Z5 4 (.n 29 (.b true) (.d (.k (.k .z)))) (ie ?_)
     exact wk [0] (fw (Zr true Za fl))
    have Y0:¬(((x1.cons.length:Int)>3)∨(x1.frm≠0)):=ZG (Yh dq Yc) Za
    refine Y2 4 (.n 29 (.b (x1.to_ != 0)) (.d (.k (.k .z)))) [0] [b1] (ie ?_)
    exact wk [0] (fw (Zr (x1.to_ != 0) Za fl))
   refine ac (((decide ((x1.cons.length:Int)>3))||(x1.frm != 0))||(x1.to_ != 0)) (p:=(((x1.cons.length:Int)>3)∨(x1.frm≠0))∨(x1.to_≠0)) (Yh (Yh dq Yc) Yc) (fun Zk=>?_) (fun Zk=>?_)
   ·refine ar (ir 1 [(4,.b false)] (ie ?_))
    exact Zc (r2 [] [.b false] ⟨rfl,rfl⟩ (lb (by clear Z3;first|rfl|omega|grind [VW])))
   refine ak (aq (ar (ir 1 [(0,Zd ds),(5,.p b1 0),(6,.i 0)] (ie (ab 0 (al (fun m F h=>∃(k:Nat),(k<=x1.cons.length)/\(UO ds.length (x1.cons.drop k)=UO ds.length x1.cons)/\F=[(0,Zd ds),(5,.p b1 0),(6,.i k)]/\h=[.obj b1 (Ws x1)]/\m=x1.cons.length-k) _ _ _ ⟨0,ob,ob,rfl,rfl,rfl⟩ (wk [0] (fw (Ye fl))) ?_))))))
   rintro m F h ⟨k,Ym,Zp,rfl,rfl,rfl⟩
   refine aq (ar (Y1 3 30 (.i k) 32 (W6 x1.cons) [0] [b1] (iw (U6 x1.cons) (Z1 1 34 (.b (decide ((k:Int)<(x1.cons.length:Int)))) (ie (ZM ((k:Int)<(x1.cons.length:Int)) (fun ZI=>?_) (fun ZI=>?_)))))))
   ·refine ak (aq (ab 1 (ar (Y1 3 38 (W6 x1.cons) 39 (.i k) [0] [b1] ?_))))
    obtain ⟨x2,Zv⟩:=Zs (xs:=x1.cons) (j:=k) om
    refine Zq (Zo none (k:Int) 1 (Bc Zv)) (Z1 2 42 (Z0 x2.fields) (iw (Yd x2.fields) (Xp [(0,Zd ds),(5,.p b1 0),(6,.i k),(55,.b ((decide ((x2.fields.length:Int)>3))||(!Xi ds.length x2.fields)))] [.obj b1 (Ws x1)] ?_ ?_)))
    ·refine ir 2 [(0,Zd ds),(5,.p b1 0),(6,.i k),(45,.b (decide ((x2.fields.length:Int)>3)))] (ib (b:=(decide ((x2.fields.length:Int)>3))) 45 (fun Zw=>?_) (fun Zw=>?_))
     ·have YB:(x2.fields.length:Int)>3:=(dq).1 Zw
      refine Z5 10 (.n 55 (.b true) (.d (.k (.k (.k .z))))) (ie ?_)
      exact wk [0] (fw (fr (Zr true Zw fl)))
     have YN:¬((x2.fields.length:Int)>3):=ZG dq Zw
     refine Y2 4 (.n 46 (Zd ds) (.n 48 (W6 x1.cons) (.n 49 (.i k) (.w .z)))) [0] [b1] (Zq (Zo none (k:Int) 1 (Bc Zv)) (Z1 2 52 (Z0 x2.fields) (ZA [] (N9 ds x2.fields) (Z1 2 55 (.b (!Xi ds.length x2.fields)) (ie ?_)))))
     exact wk [0] (fw (fr (Zr (!Xi ds.length x2.fields) Zw fl)))
    refine ac ((decide ((x2.fields.length:Int)>3))||(!Xi ds.length x2.fields)) (p:=((x2.fields.length:Int)>3)∨(¬(Xi ds.length x2.fields=true))) (Yh dq (Yt Iff.rfl)) (fun Yi=>?_) (fun Yi=>?_)
    ·refine ar (ir 1 [(4,.b false)] (ie ?_))
     rw [Yb Zv] at Zp
     exact Zc (r2 [] [.b false] ⟨rfl,rfl⟩ (lb (by clear Z3 Zv;first|rfl|omega|grind [UO,QX,VW])))
    refine ak (az (ir 1 [(0,Zd ds),(5,.p b1 0),(35,.i k)] (ZO k (Z1 1 6 (.i (k+1:Nat)) (ie ?_)))))
    have hdr:=Yb Zv
    exact ZQ ⟨k+1,ob,(by rw [hdr] at Zp;clear hdr Z3 Zv;grind [UO,QX]),rfl,rfl,rfl⟩ (wk [0] (fw (ZW k fl)))
   refine ax 0 (ar (ir 1 [(4,.b true)] (ie ?_)))
   try rw [Xx (xs:=x1.cons) (k:=k) om] at Zp
   exact Zc (r2 [] [.b true] ⟨rfl,rfl⟩ (lb (by clear Z3;first|rfl|omega|grind [UO,QX,VW])))
  refine ir 2 [(0,Zd ds),(5,.p b1 0),(20,.b (decide ((x1.cons.length:Int)>3)))] (ib (b:=(decide ((x1.cons.length:Int)>3))) 20 (fun Yw=>?_) (fun Yw=>?_))
  ·have YX:(x1.cons.length:Int)>3:=(dq).1 Yw
   refine Z5 4 (.n 24 (.b true) (.d (.k (.k .z)))) ?_
   exact YG (wk [0] (fw (Zr true Yw fl))) hj1
  have Xy:¬((x1.cons.length:Int)>3):=ZG dq Yw
  refine Y2 4 (.n 24 (.b (x1.frm != 0)) (.d (.k (.k .z)))) [0] [b1] ?_
  exact YG (wk [0] (fw (Zr (x1.frm != 0) Yw fl))) hj1
 refine ak (aq (ar (Z1 1 7 (.i 0) (ie (ab 2 (al (fun m F h=>∃(j:Nat),(j<=n)/\(TP x1 ((ds.take n).drop j)=TP x1 (ds.take n))/\F=[(0,Zd ds),(1,.i n),(5,.p b1 0),(7,.i j)]/\h=[.obj b1 (Ws x1)]/\m=n-j) _ _ _ ⟨0,ob,ob,rfl,rfl,rfl⟩ (wk [0] (fw (fr (Ye fl)))) ?_))))))
 rintro m F h ⟨j,Uj,We,rfl,rfl,rfl⟩
 refine aq (ar (Z1 3 58 (.b (decide ((j:Int)<(n:Int)))) (ie (ZM ((j:Int)<(n:Int)) (fun Xk=>?_) (fun Xk=>?_)))))
 ·refine ak (aq (ab 3 (aD 27 (ZZ 25 27 [0,1] (.n 61 (Zd ds) (.n 62 (.i j) .r)) ?_))))
  obtain ⟨x3,YT⟩:=Zs (xs:=ds) (j:=j) om
  refine dx 2 (Zo none (j:Int) 3 (Vi YT)) (ZY 22 24 [3,4] 65 (W6 x3.cons) (dw 5 (U6 x3.cons) (KY [(0,Zd ds),(1,.i n),(5,.p b1 0),(7,.i j),(87,.b (((x3.cons.length:Int)==0)&&((x3.frm==x1.frm)&&(x3.to_==x1.to_))))] [.obj b1 (Ws x1)] ?_ ?_)))
  ·refine Xa 19 21 [6,7] [(0,Zd ds),(1,.i n),(5,.p b1 0),(7,.i j),(68,.b ((x3.cons.length:Int)==0))] (db (b:=((x3.cons.length:Int)==0)) 68 (fun Xg=>?_) (fun Xg=>?_))
   ·have Wh:(x3.cons.length:Int)=0:=(Zh).1 Xg
    refine ZZ 17 19 [8,9] (.n 69 (Zd ds) (.n 70 (.i j) (.w (.k .z)))) (dx 10 (Zo none (j:Int) 3 (Vi YT)) (Y6 9 16 [11,12,13,14,15,16,17] (.n 78 (.b (x3.frm==x1.frm)) .r) [0] [b1] (db (b:=(x3.frm==x1.frm)) 78 (fun W9=>?_) (fun W9=>?_))))
    ·have WJ:x3.frm=x1.frm:=(Zh).1 W9
     refine ZZ 7 9 [18,19] (.n 79 (Zd ds) (.n 80 (.i j) (.k (.d .r)))) (dx 20 (Zo none (j:Int) 3 (Vi YT)) (Y6 0 6 [21,22,23,24,25,26] (.n 87 (.b (x3.to_==x1.to_)) .r) [0] [b1] (de ?_)))
     exact wk [0] (fq (Zr (x3.to_==x1.to_) (And.intro Xg W9) fl))
    have V2:¬(x3.frm=x1.frm):=ZG Zh W9
    refine ZZ 0 9 [18,19,20,21,22,23,24,25,26] (.n 87 (.b false) (.k (.d .r))) (de ?_)
    exact wk [0] (fq (Zr false (And.intro Xg W9) fl))
   have Ua:¬((x3.cons.length:Int)=0):=ZG Zh Xg
   refine ZZ 0 19 [8,9,10,11,12,13,14,15,16,17,18,19,20,21,22,23,24,25,26] (.n 87 (.b false) (.d (.w .z))) (de ?_)
   exact wk [0] (fq (Zr false Xg fl))
  refine ac (((x3.cons.length:Int)==0)&&((x3.frm==x1.frm)&&(x3.to_==x1.to_))) (p:=((x3.cons.length:Int)=0)/\((x3.frm=x1.frm)/\(x3.to_=x1.to_))) (YE Zh (YE Zh Zh)) (fun Xl=>?_) (fun Xl=>?_)
  ·refine ar (ir 1 [(4,.b false)] (ie ?_))
   rw [Yb (show (ds.take n)[j]? = some x3 by rw [Q4,Zm om];exact YT),TP,Zm om] at We
   exact Zc (r2 [] [.b false] ⟨rfl,rfl⟩ (lb (by clear Z3 YT;first|rfl|omega|grind [VW])))
  refine ak (az (ir 1 [(0,Zd ds),(1,.i n),(5,.p b1 0),(59,.i j)] (ZO j (hb:=(by have:=hz.len;omega)) (Z1 1 7 (.i (j+1:Nat)) (ie ?_)))))
  have hdr:=Yb YT
  exact ZQ ⟨j+1,ob,(by rw [Yb (show (ds.take n)[j]? = some x3 by rw [Q4,Zm om];exact YT),TP,Zb om] at We;exact We),rfl,rfl,rfl⟩ (wk [0] (fw (fr (ZW j fl))))
 refine ax 2 (ar (Y1 3 89 (.i x1.frm) 90 (Zd ds) [0] [b1] (iw (VN ds) (ZA [] (Uv x1.frm 0 (ds.length:Int)) (XP 12 [(99,.b ((decide (0<=x1.frm/\x1.frm<=(ds.length:Int)))&&(decide (0<=x1.to_/\x1.to_<=(ds.length:Int)))))] [.obj b1 (Ws x1)] ?_ (fun hj2=>?_))))))
 ·refine ir 1 [(4,.b ((decide (0<=x1.frm/\x1.frm<=(ds.length:Int)))&&(decide (0<=x1.to_/\x1.to_<=(ds.length:Int)))))] (ie ?_)
  rw [Xx (show (ds.take n).length<=j by rw [Wv];omega),TP] at We
  exact Zc (r2 [] [.b ((decide (0<=x1.frm/\x1.frm<=(ds.length:Int)))&&(decide (0<=x1.to_/\x1.to_<=(ds.length:Int))))] ⟨rfl,rfl⟩ (lb (by clear Z3;first|rfl|omega|grind [VW])))
 refine ir 1 [(0,Zd ds),(5,.p b1 0),(93,.b (decide (0<=x1.frm/\x1.frm<=(ds.length:Int))))] (ib (b:=(decide (0<=x1.frm/\x1.frm<=(ds.length:Int)))) 93 (fun WC=>?_) (fun WC=>?_))
 ·have UE:0<=x1.frm/\x1.frm<=(ds.length:Int):=(dq).1 WC
  refine Y2 3 (.n 95 (.i x1.to_) (.n 96 (Zd ds) (.k .z))) [0] [b1] (iw (VN ds) (ZA [] (Uv x1.to_ 0 (ds.length:Int)) (ir 1 [(99,.b (decide (0<=x1.to_/\x1.to_<=(ds.length:Int))))] ?_)))
  exact YG (wk [0] (Zr (decide (0<=x1.to_/\x1.to_<=(ds.length:Int))) WC fl)) hj2
 have Ur:¬(0<=x1.frm/\x1.frm<=(ds.length:Int)):=ZG dq WC
 refine ir 6 [(99,.b false)] ?_
 exact YG (wk [0] (Zr false WC fl)) hj2
theorem Z5r (ds:List Zf) (hz:KR ds:=by exact ob):Zj Tryz.prog 133 [Zd ds] [] (fun r h=>r=.b (Wf ds)/\h=[]):=by
 have hzl:=hz.len
 refine ZK 17 Tryz.func133 (ar (ir 1 [(0,Zd ds)] (ie (aq (ar (Z1 1 4 (Zd ds) (iw (VN ds) (Z1 1 6 (.b (decide ((ds.length:Int)>4))) (ie (ZM ((ds.length:Int)>4) (fun Ze=>?_) (fun Ze=>?_)))))))))))
 ·refine ar (ir 1 [(2,.b false)] (ie ?_))
  exact Zc (r2 [] [.b false] ⟨rfl,rfl⟩ (lb (by first|rfl|omega|grind [Wf])))
 refine ak (aq (ar (Z1 1 3 (.i 0) (ie (ab 0 (al (fun m F h=>∃(k:Nat),(k<=ds.length)/\(Ul ds (ds.drop k) k=Ul ds ds 0)/\F=[(0,Zd ds),(3,.i k)]/\h=[]/\m=ds.length-k) _ _ _ ⟨0,ob,ob,rfl,rfl,rfl⟩ (wk [] (fr (Ye fl))) ?_))))))
 rintro m F h ⟨k,Ym,Zp,rfl,rfl,rfl⟩
 refine aq (ar (Yo 2 7 (.i k) 8 (Zd ds) (iw (VN ds) (Z1 1 10 (.b (decide ((k:Int)<(ds.length:Int)))) (ie (ZM ((k:Int)<(ds.length:Int)) (fun Zk=>?_) (fun Zk=>?_)))))))
 ·refine ak (aq (ab 1 (ar (Yo 2 13 (Zd ds) 14 (.i k) (ZA [] (Z5m ds k) (Z1 1 16 (.b (!JK ds k)) (ie (ac (!JK ds k) (p:=¬(JK ds k=true)) (Yt Iff.rfl) (fun ZI=>?_) (fun ZI=>?_)))))))))
  ·refine ar (ir 1 [(2,.b false)] (ie ?_))
   try rw [Xx (xs:=ds) (k:=k) om] at Zp
   obtain ⟨x1,Z3⟩:=Zs (xs:=ds) (j:=k) om
   rw [Yb Z3] at Zp
   exact Zc (r2 [] [.b false] ⟨rfl,rfl⟩ (lb (by first|rfl|omega|grind [Ul,Wf])))
  refine ak (az (Z1 1 11 (.i k) (ZO k (ir 1 [(0,Zd ds),(3,.i (k+1:Nat))] (ie ?_)))))
  obtain ⟨x1,Z3⟩:=Zs (xs:=ds) (j:=k) om
  have hdr:=Yb Z3
  exact ZQ ⟨k+1,ob,(by rw [hdr] at Zp;clear hdr ;grind [Ul]),rfl,rfl,rfl⟩ (wk [] (fr (ZW k fl)))
 refine ax 0 (ar (ir 1 [(2,.b true)] (ie ?_)))
 try rw [Xx (xs:=ds) (k:=k) om] at Zp
 exact Zc (r2 [] [.b true] ⟨rfl,rfl⟩ (lb (by first|rfl|omega|grind [Ul,Wf])))
theorem Z5e (n:Zy) (hz:n.routines.length<=4194304:=by exact ob):Zj Tryz.prog 95 [ZE n] [] (fun r h=>r=.agg [Zd n.decls,.sl (Wo (n.routines.map Vk)) none]/\h=[]):=by
 refine ZK 35 Tryz.func95 (ar (iA (ZU n) ?_))
 intro b1
 refine iA [nl,nl] ?_
 intro b2
 refine ie (ar (iR 2 [(1,.p b1 0),(2,.p b2 0),(6,Zd n.decls)] [1] [b1] (iL (Wo []) 0 5 ?_)))
 intro v1
 refine Z1 1 8 (.agg [Zd n.decls,.sl (Wo []) (some v1)]) (iA [nl,nl] ?_)
 intro b3
 refine ZH 0 b3 [Zd n.decls,.sl (Wo []) (some v1)] (ie (aq (ar (Z1 1 4 (.i 0) (ie (ab 0 (al (fun m F h=>∃(k:Nat) (v:Value),(k<=n.routines.length)/\F=[(1,.p b1 0),(2,.p b2 0),(3,.p b3 0),(4,.i k)]/\h=[.obj b3 [Zd n.decls,.sl (Wo ((n.routines.take k).map Vk)) (some v)],.obj b2 [nl,nl],.obj b1 (ZU n),.tail v 5]/\m=n.routines.length-k) _ _ _ ⟨0,v1,ob,rfl,rfl,rfl⟩ (wk [0,1,1,0] (fw (fr (Ye fl)))) ?_)))))))
 rintro m F h ⟨k,v,Ym,rfl,rfl,rfl⟩
 refine aq (ar (Y1 3 9 (.i k) 11 (YZ n.routines) [2] [b1] (iw (U8 n.routines) (Z1 1 13 (.b (decide ((k:Int)<(n.routines.length:Int)))) (ie (ZM ((k:Int)<(n.routines.length:Int)) (fun Ze=>?_) (fun Ze=>?_)))))))
 ·refine ak (aq (ab 1 (aE 19 (Y6 14 19 [0,1,2,3,4] (.n 17 (.sl (Wo ((n.routines.take k).map Vk)) (some v)) (.n 19 (YZ n.routines) (.n 20 (.i k) .r))) [0,2] [b3,b1] ?_))))
  obtain ⟨x1,Z3⟩:=Zs (xs:=n.routines) (j:=k) om
  refine dx 5 (Zo none (k:Int) 5 (WB Z3)) (Y6 8 13 [6,7,8,9,10] (.n 23 (Z0 x1.params) (.n 25 (YZ n.routines) (.n 26 (.i k) .r))) [2] [b1] (dx 11 (Zo none (k:Int) 5 (WB Z3)) (ZY 4 7 [12,13,14] 30 (.agg [Z0 x1.params,.i x1.result,.i 0,.i 0,.sl [] none]) (Z9 15 (dL 15 [0] [b3] (Wo [Sg.mk x1.params x1.result]) 1 5 ?_)))))
  intro v2
  refine ZZ 3 3 [] (.n 31 (.sl (Wo [Sg.mk x1.params x1.result]) none) (.p .r)) (Z9 16 (dp 16 4 [] [] (Wo ((n.routines.take (k+1)).map Vk)) (Wo ((n.routines.take k).map Vk)) (Wo [Sg.mk x1.params x1.result]) v none 5 (If _) (If _) (R0 _) (by simp<;>omega) (by rw [WO Z3];simp [Wo,Vk]) ?_))
  intro v3
  refine ZY 1 2 [17] 33 (.p b3 1) (Z9 18 (YK 18 2 [] [] b3 [Zd n.decls,.sl (Wo ((n.routines.take (k+1)).map Vk)) (some v3)] (de (az (Z1 1 14 (.i k) (ZO k (ir 1 [(1,.p b1 0),(2,.p b2 0),(3,.p b3 0),(4,.i (k+1:Nat))] (ie ?_))))))))
  have hdr:=Yb Z3
  exact ZQ ⟨k+1,v3,ob,rfl,rfl,rfl⟩ (wk [0,2,2,0] (fw (fr (ZW k fl))))
 refine ax 0 (ar (Yk 1 34 (.agg [Zd n.decls,.sl (Wo ((n.routines.take k).map Vk)) (some v)]) [0] [b3] (ZH 1 b2 [Zd n.decls,.sl (Wo ((n.routines.take k).map Vk)) (some v)] (ie ?_))))
 exact Zc (r3 [] [.agg [Zd n.decls,.sl (Wo ((n.routines.take k).map Vk)) (some v)]] [0] [(b2,b2)] ⟨rfl,rfl⟩ (Zg.agg (.cons (lr _) (.cons (Zg.sl _ (Yv Wo (by rw [show k=n.routines.length by omega,Vl]))) .nil))))
theorem Z5q (ds:List Zf) (fs:List Sg) (hz:KR ds:=by exact ob) (hf:∀f∈fs,f.params.length<=4194304):Zj Tryz.prog 94 [.agg [Zd ds,.sl (Wo fs) none]] [] (fun r h=>r=.b (Tq ds fs)/\h=[]):=by
 have hzl:=hz.len
 refine ZK 64 Tryz.func94 (ar (iA [Zd ds,.sl (Wo fs) none] ?_))
 intro b1
 refine ir 1 [(1,.p b1 0)] (ie (aq (ar (Yk 2 6 (Zd ds) [0] [b1] (ZA [] (Z5r ds) (Xp [(1,.p b1 0),(15,.b ((!Wf ds)||(!(decide (1<=(fs.length:Int)/\(fs.length:Int)<=4)))))] [.obj b1 [Zd ds,.sl (Wo fs) none]] ?_ ?_))))))
 ·refine ir 2 [(1,.p b1 0),(9,.b (!Wf ds))] (ib (b:=(!Wf ds)) 9 (fun Za=>?_) (fun Za=>?_))
  ·have ZP:¬(Wf ds=true):=((Yt Iff.rfl)).1 Za
   refine ir 6 [(1,.p b1 0),(15,.b true)] (ie ?_)
   exact wk [0] (fr (Zr true Za fl))
  have Y0:¬(¬(Wf ds=true)):=ZG (Yt Iff.rfl) Za
  refine Y2 2 (.n 11 (.sl (Wo fs) none) (.k (.k .z))) [0] [b1] (iw (Ig fs) (ZA [] (Uv (fs.length:Int) 1 4) (Z1 2 15 (.b (!(decide (1<=(fs.length:Int)/\(fs.length:Int)<=4)))) (ie ?_))))
  exact wk [0] (fr (Zr (!(decide (1<=(fs.length:Int)/\(fs.length:Int)<=4))) Za fl))
 refine ac ((!Wf ds)||(!(decide (1<=(fs.length:Int)/\(fs.length:Int)<=4)))) (p:=(¬(Wf ds=true))∨(¬(1<=(fs.length:Int)/\(fs.length:Int)<=4))) (Yh (Yt Iff.rfl) (Yt dq)) (fun Ze=>?_) (fun Ze=>?_)
 ·refine ar (ir 1 [(2,.b false)] (ie ?_))
  exact Zc (r2 [] [.b false] ⟨rfl,rfl⟩ (lb (by first|rfl|omega|grind [Tq])))
 refine ak (aq (ar (ir 1 [(1,.p b1 0),(3,.i 0)] (ie (ab 0 (al (fun m F h=>∃(k:Nat),(k<=fs.length)/\(QM ds.length (fs.drop k)=QM ds.length fs)/\F=[(1,.p b1 0),(3,.i k)]/\h=[.obj b1 [Zd ds,.sl (Wo fs) none]]/\m=fs.length-k) _ _ _ ⟨0,ob,ob,rfl,rfl,rfl⟩ (wk [0] (fr (Ye fl))) ?_))))))
 rintro m F h ⟨k,Ym,Zp,rfl,rfl,rfl⟩
 refine aq (ar (Y1 3 16 (.i k) 18 (.sl (Wo fs) none) [0] [b1] (iw (Ig fs) (Z1 1 20 (.b (decide ((k:Int)<(fs.length:Int)))) (ie (ZM ((k:Int)<(fs.length:Int)) (fun Zk=>?_) (fun Zk=>?_)))))))
 ·refine ak (aq (ab 1 (ar (Y1 3 24 (.sl (Wo fs) none) 25 (.i k) [0] [b1] ?_))))
  obtain ⟨x1,Z3⟩:=Zs (xs:=fs) (j:=k) om
  refine Zq (Zo none (k:Int) 5 (Fv Z3)) (Z1 1 27 (.agg [Z0 x1.params,.i x1.result,.i 0,.i 0,.sl [] none]) (iA [nl,.i 0,.i 0,.i 0,nl] ?_))
  intro b2
  refine ZH 0 b2 [Z0 x1.params,.i x1.result,.i 0,.i 0,.sl [] none] (ie (ar (Yk 2 29 (Z0 x1.params) [0] [b2] (iw (Yd x1.params) (XP 12 [(1,.p b1 0),(3,.i k),(4,.p b2 0),(39,.b ((decide ((x1.params.length:Int)>3))||(!Xi ds.length x1.params)))] [.obj b2 [Z0 x1.params,.i x1.result,.i 0,.i 0,.sl [] none],.obj b1 [Zd ds,.sl (Wo fs) none]] ?_ (fun hj1=>?_))))))
  ·refine Xp [(1,.p b1 0),(3,.i k),(48,.b (((decide ((x1.params.length:Int)>3))||(!Xi ds.length x1.params))||(!(decide (0<=x1.result/\x1.result<=(ds.length:Int))))))] [.obj b2 [Z0 x1.params,.i x1.result,.i 0,.i 0,.sl [] none],.obj b1 [Zd ds,.sl (Wo fs) none]] ?_ ?_
   ·refine ir 1 [(1,.p b1 0),(3,.i k),(4,.p b2 0),(40,.b ((decide ((x1.params.length:Int)>3))||(!Xi ds.length x1.params)))] (ib (b:=((decide ((x1.params.length:Int)>3))||(!Xi ds.length x1.params))) 40 (fun Zw=>?_) (fun Zw=>?_))
    ·have YB:((x1.params.length:Int)>3)∨(¬(Xi ds.length x1.params=true)):=((Yh dq (Yt Iff.rfl))).1 Zw
     refine Z5 8 (.n 48 (.b true) (.d (.k (.k .z)))) (ie ?_)
     exact wk [0,0] (fw (Zr true Zw fl))
    have YN:¬(((x1.params.length:Int)>3)∨(¬(Xi ds.length x1.params=true))):=ZG (Yh dq (Yt Iff.rfl)) Zw
    refine Y2 4 (.n 42 (.i x1.result) (.n 44 (Zd ds) (.k (.k (.k .z))))) [0,1] [b2,b1] (iw (VN ds) (ZA [] (Uv x1.result 0 (ds.length:Int)) (Z1 2 48 (.b (!(decide (0<=x1.result/\x1.result<=(ds.length:Int))))) (ie ?_))))
    exact wk [0,0] (fw (Zr (!(decide (0<=x1.result/\x1.result<=(ds.length:Int)))) Zw fl))
   refine ac (((decide ((x1.params.length:Int)>3))||(!Xi ds.length x1.params))||(!(decide (0<=x1.result/\x1.result<=(ds.length:Int))))) (p:=(((x1.params.length:Int)>3)∨(¬(Xi ds.length x1.params=true)))∨(¬(0<=x1.result/\x1.result<=(ds.length:Int)))) (Yh (Yh dq (Yt Iff.rfl)) (Yt dq)) (fun ZI=>?_) (fun ZI=>?_)
   ·refine ar (ir 1 [(2,.b false)] (ie ?_))
    rw [Yb Z3] at Zp
    exact Zc (r2 [] [.b false] ⟨rfl,rfl⟩ (lb (by clear Z3;first|rfl|omega|grind [QM,Qf,Tq])))
   refine ak (az (ir 1 [(1,.p b1 0),(21,.i k)] (ZO k (Z1 1 3 (.i (k+1:Nat)) (ie ?_)))))
   have hdr:=Yb Z3
   exact ZQ ⟨k+1,ob,(by rw [hdr] at Zp;clear hdr Z3;grind [QM,Qf]),rfl,rfl,rfl⟩ (wk [1] (fr (ZW k fl)))
  refine ir 2 [(1,.p b1 0),(3,.i k),(4,.p b2 0),(32,.b (decide ((x1.params.length:Int)>3)))] (ib (b:=(decide ((x1.params.length:Int)>3))) 32 (fun Yw=>?_) (fun Yw=>?_))
  ·have YX:(x1.params.length:Int)>3:=(dq).1 Yw
   refine Z5 7 (.n 39 (.b true) (.d (.k (.k (.k .z))))) ?_
   exact YG (wk [0,0] (fw (fr (Zr true Yw fl)))) hj1
  have Xy:¬((x1.params.length:Int)>3):=ZG dq Yw
  refine Y2 4 (.n 34 (Zd ds) (.n 36 (Z0 x1.params) (.w .z))) [1,0] [b1,b2] (ZA [] (N9 ds x1.params) (Z1 2 39 (.b (!Xi ds.length x1.params)) ?_))
  exact YG (wk [0,0] (fw (fr (Zr (!Xi ds.length x1.params) Yw fl)))) hj1
 refine ax 0 (ar (Yk 2 50 (.sl (Wo fs) none) [0] [b1] ?_))
 obtain ⟨x2,Zv⟩:=Zs (xs:=fs) (j:=0) om
 have hfo:=Iw Zv
 refine Zq (Zo none 0 5 (Fv Zv)) (Z1 2 53 (Z0 x2.params) (iw (Yd x2.params) (XP 15 [(63,.b (((x2.params.length:Int)==0)&&(x2.result==0)))] [.obj b1 [Zd ds,.sl (Wo fs) none]] ?_ (fun hj2=>?_))))
 ·refine ir 1 [(2,.b (((x2.params.length:Int)==0)&&(x2.result==0)))] (ie ?_)
  try rw [Xx (xs:=fs) (k:=k) om] at Zp
  exact Zc (r2 [] [.b (((x2.params.length:Int)==0)&&(x2.result==0))] ⟨rfl,rfl⟩ (lb (by clear Zv;first|rfl|omega|grind [QM,Qf,Tq])))
 refine ir 2 [(1,.p b1 0),(56,.b ((x2.params.length:Int)==0))] (ib (b:=((x2.params.length:Int)==0)) 56 (fun Xg=>?_) (fun Xg=>?_))
 ·have Wh:(x2.params.length:Int)=0:=(Zh).1 Xg
  refine Y2 2 (.n 58 (.sl (Wo fs) none) (.k .z)) [0] [b1] (Zq (Zo none 0 5 (Fv Zv)) (ir 4 [(63,.b (x2.result==0))] ?_))
  exact YG (wk [0] (Zr (x2.result==0) Xg fl)) hj2
 have WJ:¬((x2.params.length:Int)=0):=ZG Zh Xg
 refine ir 7 [(63,.b false)] ?_
 exact YG (wk [0] (Zr false Xg fl)) hj2
theorem Z5o (ps:List Int) (ls:List Int) (hl_ps:ps.length<=4294967296:=by exact ob) (hl_ls:ls.length<=4294967296:=by exact ob):Zj Tryz.prog 96 [Z0 ps,Z0 ls] [] (fun r h=>r=.b (Ql ps ls)/\h=[]):=by
 refine ZK 47 Tryz.func96 (ar (ir 1 [(0,Z0 ps),(1,Z0 ls)] (ie (aq (ar (Z1 1 5 (.i 0) (ie (ab 0 (al (fun m F h=>∃(k:Nat),(k<=ls.length)/\(TV ps (ls.drop k) (if k=0 then none else ls[k-1]?)=Ql ps ls)/\F=[(0,Z0 ps),(1,Z0 ls),(5,.i k)]/\h=[]/\m=ls.length-k) _ _ _ ⟨0,ob,ob,rfl,rfl,rfl⟩ (wk [] (fw (Ye fl))) ?_)))))))))
 rintro m F h ⟨k,Ym,Zp,rfl,rfl,rfl⟩
 refine aq (ar (Yo 2 6 (.i k) 7 (Z0 ls) (iw (Yd ls) (Z1 1 9 (.b (decide ((k:Int)<(ls.length:Int)))) (ie (ZM ((k:Int)<(ls.length:Int)) (fun Ze=>?_) (fun Ze=>?_)))))))
 ·refine ak (aq (ab 1 (aD 35 (ZZ 33 35 [0,1] (.n 12 (Z0 ls) (.n 13 (.i k) .r)) ?_))))
  obtain ⟨x1,Z3⟩:=Zs (xs:=ls) (j:=k) om
  refine dx 2 (Zo none (k:Int) 1 (Y3 Z3)) (ZZ 30 32 [3,4] (.n 15 (.i x1) (.n 16 (Z0 ps) .r)) (dw 5 (Yd ps) (da 6 (((ps.length:Int)-1)) (((ps.length:Int))-(1)) (Z9 7 (Ys 7 [] [] [] (Uv x1 0 ((ps.length:Int)-1)) (ZY 25 27 [8,9] 21 (.b (!(decide (0<=x1/\x1<=((ps.length:Int)-1))))) (db (b:=(!(decide (0<=x1/\x1<=((ps.length:Int)-1))))) 21 (fun Za=>?_) (fun Za=>?_))))))))
  ·have ZP:¬(0<=x1/\x1<=((ps.length:Int)-1)):=((Yt dq)).1 Za
   refine ZZ 0 25 [10,11,12,13,14,15,16,17,18,19,20,21,22,23,24,25,26,27,28,29,30,31,32,33,34] (.n 46 (.b true) (.k (.d .r))) (de (WL (ar (ir 1 [(4,.b false)] (ie ?_)))))
   rw [Yb Z3] at Zp
   exact Zc (r2 [] [.b false] ⟨rfl,rfl⟩ (lb (by have hq:=Cr (ps:=ps) (v:=x1) (r:=ls.drop (k+1)) (prev:=if k=0 then none else ls[k-1]?);rw [<-Zp,hq];rintro ⟨q1,q2,q3⟩;first|omega|(rw [hps] at q2;exact q2 (Yv some om))|(have:=q3 _ (by rw [Zb om,hls]);omega))))
  have Y0:¬(¬(0<=x1/\x1<=((ps.length:Int)-1))):=ZG (Yt dq) Za
  refine ZZ 22 25 [10,11,12] (.n 22 (Z0 ps) (.n 23 (Z0 ls) (.n 24 (.i k) (.k (.d .r))))) (dx 13 (Zo none (k:Int) 1 (Y3 Z3)) (ZY 20 21 [14] 26 (.i x1) ?_))
  obtain ⟨x2,Zv⟩:=Zs (xs:=ps) (j:=x1.toNat) om
  have hps:=Zv
  refine dx 15 (Zo none x1 1 (Y3 Zv)) (ZY 15 19 [16,17,18,19] 31 (.b (x2==0)) (db (b:=(x2==0)) 31 (fun Zw=>?_) (fun Zw=>?_)))
  ·have YB:x2=0:=(Zh).1 Zw
   refine ZZ 0 15 [20,21,22,23,24,25,26,27,28,29,30,31,32,33,34] (.n 46 (.b true) (.k (.d .r))) (de (WL (ar (ir 1 [(4,.b false)] (ie ?_)))))
   rw [Yb Z3] at Zp
   exact Zc (r2 [] [.b false] ⟨rfl,rfl⟩ (lb (by have hq:=Cr (ps:=ps) (v:=x1) (r:=ls.drop (k+1)) (prev:=if k=0 then none else ls[k-1]?);rw [<-Zp,hq];rintro ⟨q1,q2,q3⟩;first|omega|(rw [hps] at q2;exact q2 (Yv some om))|(have:=q3 _ (by rw [Zb om,hls]);omega))))
  have YN:¬(x2=0):=ZG Zh Zw
  refine ZZ 12 15 [20,21,22] (.n 34 (.b (decide ((k:Int)>0))) (.k (.d .r))) (db (b:=(decide ((k:Int)>0))) 34 (fun Yw=>?_) (fun Yw=>?_))
  ·have YX:(k:Int)>0:=(dq).1 Yw
   refine ZZ 10 12 [23,24] (.n 35 (Z0 ls) (.n 36 (.i k) (.k (.d .r)))) (dx 25 (Zo none (k:Int) 1 (Y3 Z3)) (ZZ 6 9 [26,27,28] (.n 38 (.i x1) (.n 39 (Z0 ls) (.n 40 (.i k) .r))) (da 29 (((k-1:Nat):Int)) (((k:Int))-(1)) ?_)))
   obtain ⟨x3,YT⟩:=Zs (xs:=ls) (j:=k-1) om
   have hls:=YT
   refine dx 30 (Zo none ((k-1:Nat):Int) 1 (Y3 YT)) (ZY 0 4 [31,32,33,34] 46 (.b (decide (x1<=x3))) (de (ZM (x1<=x3) (fun Zk=>?_) (fun Zk=>?_))))
   ·refine ar (ir 1 [(4,.b false)] (ie ?_))
    rw [Yb Z3] at Zp
    exact Zc (r2 [] [.b false] ⟨rfl,rfl⟩ (lb (by have hq:=Cr (ps:=ps) (v:=x1) (r:=ls.drop (k+1)) (prev:=if k=0 then none else ls[k-1]?);rw [<-Zp,hq];rintro ⟨q1,q2,q3⟩;first|omega|(rw [hps] at q2;exact q2 (Yv some om))|(have:=q3 _ (by rw [Zb om,hls]);omega))))
   refine ak (az (Z1 1 10 (.i k) (ZO k (ir 1 [(0,Z0 ps),(1,Z0 ls),(5,.i (k+1:Nat))] (ie ?_)))))
   have hl1:ls[k+1-1]? = some x1:=Z3
   have hlc:(0<=x1/\x1<=(ps.length:Int)-1)/\ps[x1.toNat]?≠some 0/\(∀p,(if k=0 then none else ls[k-1]?)=some p->p<x1):=⟨by omega,by rw [hps];intro q;cases q;omega,fun p hp=>by first|(rw [Zb om,hls] at hp;cases hp;omega)|(rw [Zm om] at hp;cases hp)⟩
   have hdr:=Yb Z3
   exact ZQ ⟨k+1,ob,(by have hq:=DV (r:=ls.drop (k+1)) hlc;rw [hdr,hq] at Zp;rw [Zb om,hl1];exact Zp),rfl,rfl,rfl⟩ (wk [] (fw (ZW k fl)))
  have Xy:¬((k:Int)>0):=ZG dq Yw
  refine ZZ 0 12 [23,24,25,26,27,28,29,30,31,32,33,34] (.n 46 (.b false) (.k (.d .r))) (de (WS (ak (az (Z1 1 10 (.i k) (ZO k (ir 1 [(0,Z0 ps),(1,Z0 ls),(5,.i (k+1:Nat))] (ie ?_))))))))
  have hl1:ls[k+1-1]? = some x1:=Z3
  have hlc:(0<=x1/\x1<=(ps.length:Int)-1)/\ps[x1.toNat]?≠some 0/\(∀p,(if k=0 then none else ls[k-1]?)=some p->p<x1):=⟨by omega,by rw [hps];intro q;cases q;omega,fun p hp=>by first|(rw [Zb om,hls] at hp;cases hp;omega)|(rw [Zm om] at hp;cases hp)⟩
  have hdr:=Yb Z3
  exact ZQ ⟨k+1,ob,(by have hq:=DV (r:=ls.drop (k+1)) hlc;rw [hdr,hq] at Zp;rw [Zb om,hl1];exact Zp),rfl,rfl,rfl⟩ (wk [] (fw (ZW k fl)))
 refine ax 0 (ar (ir 1 [(4,.b true)] (ie ?_)))
 try rw [Xx (xs:=ls) (k:=k) om] at Zp
 exact Zc (r2 [] [.b true] ⟨rfl,rfl⟩ (lb (by first|rfl|omega|grind [TV])))
theorem Z5p (n:Zy) (hz:KR n.decls:=by exact ob) (hr:∀r∈n.routines,r.params.length<=4194304/\r.lent.length<=4194304):Zj Tryz.prog 57 [ZE n] [] (fun r h=>r=.b (XV n)/\h=[]):=by
 have hzl:=hz.len
 refine ZK 35 Tryz.func57 (ar (iA (ZU n) ?_))
 intro b1
 refine ir 1 [(1,.p b1 0)] (ie (aq (ar (Yk 2 5 (YZ n.routines) [0] [b1] (iw (U8 n.routines) (Xp [(1,.p b1 0),(13,.b ((decide ((n.routines.length:Int)>4))||(!Tq n.decls (n.routines.map Vk))))] [.obj b1 (ZU n)] ?_ ?_))))))
 ·refine ir 2 [(1,.p b1 0),(8,.b (decide ((n.routines.length:Int)>4)))] (ib (b:=(decide ((n.routines.length:Int)>4))) 8 (fun Za=>?_) (fun Za=>?_))
  ·have ZP:(n.routines.length:Int)>4:=(dq).1 Za
   refine ir 5 [(1,.p b1 0),(13,.b true)] (ie ?_)
   exact wk [0] (fr (Zr true Za fl))
  have Y0:¬((n.routines.length:Int)>4):=ZG dq Za
  refine Y2 1 (.n 9 (ZE n) (.k (.k .z))) [0] [b1] (ZA [] (Z5e n) (ZA [] (Z5q n.decls (n.routines.map Vk) (hf:=(by intro f hf;obtain ⟨r,h1,rfl⟩:=W3.1 hf;exact (hr r h1).1))) (Z1 2 13 (.b (!Tq n.decls (n.routines.map Vk))) (ie ?_))))
  exact wk [0] (fr (Zr (!Tq n.decls (n.routines.map Vk)) Za fl))
 refine ac ((decide ((n.routines.length:Int)>4))||(!Tq n.decls (n.routines.map Vk))) (p:=((n.routines.length:Int)>4)∨(¬(Tq n.decls (n.routines.map Vk)=true))) (Yh dq (Yt Iff.rfl)) (fun Ze=>?_) (fun Ze=>?_)
 ·refine ar (ir 1 [(2,.b false)] (ie ?_))
  exact Zc (r2 [] [.b false] ⟨rfl,rfl⟩ (lb (by first|rfl|omega|grind [XV])))
 refine ak (aq (ar (ir 1 [(1,.p b1 0),(3,.i 0)] (ie (ab 0 (al (fun m F h=>∃(k:Nat),(k<=n.routines.length)/\(QF (n.routines.drop k)=QF n.routines)/\F=[(1,.p b1 0),(3,.i k)]/\h=[.obj b1 (ZU n)]/\m=n.routines.length-k) _ _ _ ⟨0,ob,ob,rfl,rfl,rfl⟩ (wk [0] (fr (Ye fl))) ?_))))))
 rintro m F h ⟨k,Ym,Zp,rfl,rfl,rfl⟩
 refine aq (ar (Y1 3 14 (.i k) 16 (YZ n.routines) [0] [b1] (iw (U8 n.routines) (Z1 1 18 (.b (decide ((k:Int)<(n.routines.length:Int)))) (ie (ZM ((k:Int)<(n.routines.length:Int)) (fun Zk=>?_) (fun Zk=>?_)))))))
 ·refine ak (aq (ab 1 (aD 14 (Y6 11 14 [0,1,2] (.n 22 (YZ n.routines) (.n 23 (.i k) .r)) [0] [b1] ?_))))
  obtain ⟨x1,Z3⟩:=Zs (xs:=n.routines) (j:=k) om
  refine dx 3 (Zo none (k:Int) 5 (WB Z3)) (Y6 5 10 [4,5,6,7,8] (.n 26 (Z0 x1.params) (.n 28 (YZ n.routines) (.n 29 (.i k) .r))) [0] [b1] (dx 9 (Zo none (k:Int) 5 (WB Z3)) (ZY 2 4 [10,11] 32 (Z0 x1.lent) (Z9 12 (Ys 12 [] [] [] (Z5o x1.params x1.lent (hl_ps:=(by have:=hr _ (Y7 Z3);omega)) (hl_ls:=(by have:=hr _ (Y7 Z3);omega))) (ZY 0 1 [13] 34 (.b (!Ql x1.params x1.lent)) (de (ac (!Ql x1.params x1.lent) (p:=¬(Ql x1.params x1.lent=true)) (Yt Iff.rfl) (fun ZI=>?_) (fun ZI=>?_)))))))))
  ·refine ar (ir 1 [(2,.b false)] (ie ?_))
   rw [Yb Z3] at Zp
   exact Zc (r2 [] [.b false] ⟨rfl,rfl⟩ (lb (by clear Z3;first|rfl|omega|grind [QF,XV])))
  refine ak (az (Z1 1 19 (.i k) (ZO k (ir 1 [(1,.p b1 0),(3,.i (k+1:Nat))] (ie ?_)))))
  have hdr:=Yb Z3
  exact ZQ ⟨k+1,ob,(by rw [hdr] at Zp;clear hdr Z3;grind [QF]),rfl,rfl,rfl⟩ (wk [0] (fr (ZW k fl)))
 refine ax 0 (ar (ir 1 [(2,.b true)] (ie ?_)))
 try rw [Xx (xs:=n.routines) (k:=k) om] at Zp
 exact Zc (r2 [] [.b true] ⟨rfl,rfl⟩ (lb (by first|rfl|omega|grind [QF,XV])))
theorem QN (op:Int) :Zj Tryz.prog 99 [.i op] [] (fun r h=>r=.b (Xf op)/\h=[]):=by
 refine ZK 5 Tryz.func99 (ar (ir 1 [(0,.i op)] (ie (ar (ir 1 [(3,.i op)] (ZA [] (Uv op 0 11) (ir 1 [(2,.b (decide (0<=op/\op<=11)))] (ie ?_))))))))
 exact Zc (r2 [] [.b (decide (0<=op/\op<=11))] ⟨rfl,rfl⟩ (lb (by first|rfl|omega|grind [Xf])))
theorem Z53 (op:Int) :Zj Tryz.prog 134 [.i op] [] (fun r h=>r=.b (WM op)/\h=[]):=by
 refine ZK 21 Tryz.func134 (ar (ir 1 [(0,.i op)] (ie (ar (XP 6 [(0,.i op),(8,.b ((op==0)||(op==6)))] [] ?_ (fun hj1=>?_))))))
 ·refine XP 10 [(0,.i op),(12,.b (((op==0)||(op==6))||(op==8)))] [] ?_ (fun hj2=>?_)
  ·refine XP 14 [(0,.i op),(16,.b ((((op==0)||(op==6))||(op==8))||(op==9)))] [] ?_ (fun hj3=>?_)
   ·refine XP 18 [(20,.b (((((op==0)||(op==6))||(op==8))||(op==9))||(op==10)))] [] ?_ (fun hj4=>?_)
    ·refine ir 1 [(2,.b (((((op==0)||(op==6))||(op==8))||(op==9))||(op==10)))] (ie ?_)
     exact Zc (r2 [] [.b (((((op==0)||(op==6))||(op==8))||(op==9))||(op==10))] ⟨rfl,rfl⟩ (lb (by rw [WM];simp only [Bool.or_assoc])))
    refine ir 1 [(0,.i op),(17,.b ((((op==0)||(op==6))||(op==8))||(op==9)))] (ib (b:=((((op==0)||(op==6))||(op==8))||(op==9))) 17 (fun Za=>?_) (fun Za=>?_))
    ·have ZP:(((op=0)∨(op=6))∨(op=8))∨(op=9):=((Yh (Yh (Yh Zh Zh) Zh) Zh)).1 Za
     refine ir 3 [(20,.b true)] ?_
     exact YG (wk [] (Zr true Za fl)) hj4
    have Y0:¬((((op=0)∨(op=6))∨(op=8))∨(op=9)):=ZG (Yh (Yh (Yh Zh Zh) Zh) Zh) Za
    refine ir 3 [(20,.b (op==10))] ?_
    exact YG (wk [] (Zr (op==10) Za fl)) hj4
   refine ir 1 [(0,.i op),(13,.b (((op==0)||(op==6))||(op==8)))] (ib (b:=(((op==0)||(op==6))||(op==8))) 13 (fun Zw=>?_) (fun Zw=>?_))
   ·have YB:((op=0)∨(op=6))∨(op=8):=((Yh (Yh Zh Zh) Zh)).1 Zw
    refine ir 3 [(0,.i op),(16,.b true)] ?_
    exact YG (wk [] (fr (Zr true Zw fl))) hj3
   have YN:¬(((op=0)∨(op=6))∨(op=8)):=ZG (Yh (Yh Zh Zh) Zh) Zw
   refine ir 3 [(0,.i op),(16,.b (op==9))] ?_
   exact YG (wk [] (fr (Zr (op==9) Zw fl))) hj3
  refine ir 1 [(0,.i op),(9,.b ((op==0)||(op==6)))] (ib (b:=((op==0)||(op==6))) 9 (fun Yw=>?_) (fun Yw=>?_))
  ·have YX:(op=0)∨(op=6):=((Yh Zh Zh)).1 Yw
   refine ir 3 [(0,.i op),(12,.b true)] ?_
   exact YG (wk [] (fr (Zr true Yw fl))) hj2
  have Xy:¬((op=0)∨(op=6)):=ZG (Yh Zh Zh) Yw
  refine ir 3 [(0,.i op),(12,.b (op==8))] ?_
  exact YG (wk [] (fr (Zr (op==8) Yw fl))) hj2
 refine ir 3 [(0,.i op),(5,.b (op==0))] (ib (b:=(op==0)) 5 (fun Xg=>?_) (fun Xg=>?_))
 ·have Wh:op=0:=(Zh).1 Xg
  refine ir 3 [(0,.i op),(8,.b true)] ?_
  exact YG (wk [] (fr (Zr true Xg fl))) hj1
 have WJ:¬(op=0):=ZG Zh Xg
 refine ir 3 [(0,.i op),(8,.b (op==6))] ?_
 exact YG (wk [] (fr (Zr (op==6) Xg fl))) hj1
theorem A7 (us:List Int) (args:List Int) (tys:List Int) (hl_us:us.length<=4294967296:=by exact ob) (hl_args:args.length<=4294967296:=by exact ob) (hl_tys:tys.length<=4294967296:=by exact ob):Zj Tryz.prog 136 [Z0 us,Z0 args,Z0 tys] [] (fun r h=>r=.b (XR us args tys)/\h=[]):=by
 refine ZK 42 Tryz.func136 (ar (ir 1 [(0,Z0 us),(1,Z0 args),(2,Z0 tys)] (ie (aq (ar (Z1 1 8 (Z0 args) (iw (Yd args) (Z1 1 10 (Z0 tys) (iw (Yd tys) (Z1 1 12 (.b ((args.length:Int) != (tys.length:Int))) (ie (ac ((args.length:Int) != (tys.length:Int)) Yc (fun Ze=>?_) (fun Ze=>?_)))))))))))))
 ·refine ar (ir 1 [(6,.b false)] (ie ?_))
  exact Zc (r2 [] [.b false] ⟨rfl,rfl⟩ (lb (NN om).symm))
 refine ak (aq (ar (Z1 1 7 (.i 0) (ie (ab 0 (al (fun m F h=>∃(k:Nat),(k<=args.length)/\(UK us (args.drop k) (tys.drop k)=XR us args tys)/\F=[(0,Z0 us),(1,Z0 args),(2,Z0 tys),(7,.i k)]/\h=[]/\m=args.length-k) _ _ _ ⟨0,ob,ob,rfl,rfl,rfl⟩ (wk [] (fw (fr (Ye fl)))) ?_))))))
 rintro m F h ⟨k,Ym,Zp,rfl,rfl,rfl⟩
 refine aq (ar (Yo 2 13 (.i k) 14 (Z0 args) (iw (Yd args) (Z1 1 16 (.b (decide ((k:Int)<(args.length:Int)))) (ie (ZM ((k:Int)<(args.length:Int)) (fun Zk=>?_) (fun Zk=>?_)))))))
 ·refine ak (aq (ab 1 (aD 23 (ZZ 21 23 [0,1] (.n 19 (Z0 args) (.n 20 (.i k) .r)) ?_))))
  obtain ⟨x1,Z3⟩:=Zs (xs:=args) (j:=k) om
  refine dx 2 (Zo none (k:Int) 1 (Y3 Z3)) (ZZ 18 20 [3,4] (.n 22 (.i x1) (.n 23 (Z0 us) .r)) (dw 5 (Yd us) (da 6 (((us.length:Int)-1)) (((us.length:Int))-(1)) (Z9 7 (Ys 7 [] [] [] (Uv x1 0 ((us.length:Int)-1)) (ZY 13 15 [8,9] 28 (.b (!(decide (0<=x1/\x1<=((us.length:Int)-1))))) (db (b:=(!(decide (0<=x1/\x1<=((us.length:Int)-1))))) 28 (fun Za=>?_) (fun Za=>?_))))))))
  ·have ZP:¬(0<=x1/\x1<=((us.length:Int)-1)):=((Yt dq)).1 Za
   refine ZZ 0 13 [10,11,12,13,14,15,16,17,18,19,20,21,22] (.n 41 (.b true) (.k (.d .r))) (de (WL (ar (ir 1 [(6,.b false)] (ie ?_)))))
   obtain ⟨y,hy⟩:=Zs (xs:=tys) (j:=k) om
   exact Zc (r2 [] [.b false] ⟨rfl,rfl⟩ (lb (by rw [<-Zp];exact (NM Z3 hy (by rw [Q9 ZP];simp)).symm)))
  have Y0:¬(¬(0<=x1/\x1<=((us.length:Int)-1))):=ZG (Yt dq) Za
  refine ZZ 10 13 [10,11,12] (.n 29 (Z0 us) (.n 30 (Z0 args) (.n 31 (.i k) (.k (.d .r))))) (dx 13 (Zo none (k:Int) 1 (Y3 Z3)) (ZY 8 9 [14] 33 (.i x1) ?_))
  obtain ⟨x2,Zv⟩:=Zs (xs:=us) (j:=x1.toNat) om
  refine dx 15 (Zo none x1 1 (Y3 Zv)) (ZZ 4 7 [16,17,18] (.n 35 (.i x2) (.n 36 (Z0 tys) (.n 37 (.i k) .r))) ?_)
  obtain ⟨x3,YT⟩:=Zs (xs:=tys) (j:=k) om
  refine dx 19 (Zo none (k:Int) 1 (Y3 YT)) (ZY 0 3 [20,21,22] 41 (.b (x2 != x3)) (de (ac (x2 != x3) Yc (fun ZI=>?_) (fun ZI=>?_))))
  ·refine ar (ir 1 [(6,.b false)] (ie ?_))
   exact Zc (r2 [] [.b false] ⟨rfl,rfl⟩ (lb (by rw [<-Zp];exact (NM Z3 YT (by rw [Tw om Zv];simpa using ZI)).symm)))
  refine ak (az (Z1 1 17 (.i k) (ZO k (ir 1 [(0,Z0 us),(1,Z0 args),(2,Z0 tys),(7,.i (k+1:Nat))] (ie ?_)))))
  have hdr:=Yb Z3
  exact ZQ ⟨k+1,ob,(by rw [<-Zp];exact (Z6t Z3 YT (by rw [Tw om Zv];congr 1;omega)).symm),rfl,rfl,rfl⟩ (wk [] (fw (fr (ZW k fl))))
 refine ax 0 (ar (ir 1 [(6,.b true)] (ie ?_)))
 exact Zc (r2 [] [.b true] ⟨rfl,rfl⟩ (lb (by rw [<-Zp];exact (Z6s om om).symm)))
theorem Z5n (us:List Int) (s:Z4) (hl_us:us.length<=4294967296:=by exact ob):Zj Tryz.prog 135 [Z0 us,Y4 s] [] (fun r h=>r=.b (VK us s.op s.into)/\h=[]):=by
 refine ZK 27 Tryz.func135 (ar (iA (Yg s) ?_))
 intro b1
 refine ir 1 [(0,Z0 us),(3,.p b1 0)] (ie (aq (ar (Yk 3 7 (.b (s.into==0)) [0] [b1] (ie (ac (s.into==0) Zh (fun Ze=>?_) (fun Ze=>?_)))))))
 ·refine ar (ir 1 [(4,.b true)] (ie ?_))
  exact Zc (r2 [] [.b true] ⟨rfl,rfl⟩ (lb (by rw [VK,Zm Ze])))
 refine ak (ar (XP 10 [(0,Z0 us),(3,.p b1 0),(17,.b ((s.op==6)&&(decide (1<=s.into/\s.into<=(us.length:Int)))))] [.obj b1 (Yg s)] ?_ (fun hj1=>?_)))
 ·refine ir 1 [(0,Z0 us),(3,.p b1 0),(18,.b ((s.op==6)&&(decide (1<=s.into/\s.into<=(us.length:Int)))))] (ib (b:=((s.op==6)&&(decide (1<=s.into/\s.into<=(us.length:Int))))) 18 (fun Za=>?_) (fun Za=>?_))
  ·have ZP:(s.op=6)/\(1<=s.into/\s.into<=(us.length:Int)):=((YE Zh dq)).1 Za
   refine Y2 3 (.n 19 (Z0 us) (.n 21 (.i s.into) (.k .z))) [0] [b1] (ia ((s.into-1)) ((s.into)-(1)) ?_)
   obtain ⟨x1,Z3⟩:=Zs (xs:=us) (j:=(s.into-1).toNat) om
   refine Zq (Zo none (s.into-1) 1 (Y3 Z3)) (ir 4 [(4,.b (decide (x1>0)))] (ie ?_))
   exact Zc (r2 [] [.b (decide (x1>0))] ⟨rfl,rfl⟩ (lb (by rw [VK,Zb Ze];first|(rw [Zm om,Tw om Z3];rfl)|(rw [Zm om,Q9 om];rfl)|(rw [Zb om])|(by_cases q:s.op=6;rw [Zm q,Q9 om];rfl;rw [Zb q]))))
  have Y0:¬((s.op=6)/\(1<=s.into/\s.into<=(us.length:Int))):=ZG (YE Zh dq) Za
  refine ir 9 [(4,.b false)] (ie ?_)
  exact Zc (r2 [] [.b false] ⟨rfl,rfl⟩ (lb (by rw [VK,Zb Ze];first|(rw [Zm om,Tw om Z3];rfl)|(rw [Zm om,Q9 om];rfl)|(rw [Zb om])|(by_cases q:s.op=6;rw [Zm q,Q9 om];rfl;rw [Zb q]))))
 refine iR 4 [(0,Z0 us),(3,.p b1 0),(11,.b (s.op==6))] [0] [b1] (ib (b:=(s.op==6)) 11 (fun Zw=>?_) (fun Zw=>?_))
 ·have YB:s.op=6:=(Zh).1 Zw
  refine Y2 3 (.n 13 (.i s.into) (.n 14 (Z0 us) (.k (.k (.k .z))))) [0] [b1] (iw (Yd us) (ZA [] (Uv s.into 1 (us.length:Int)) (Z1 1 17 (.b (decide (1<=s.into/\s.into<=(us.length:Int)))) ?_)))
  exact YG (wk [0] (fw (Zr (decide (1<=s.into/\s.into<=(us.length:Int))) Zw fl))) hj1
 have YN:¬(s.op=6):=ZG Zh Zw
 refine Z5 6 (.n 17 (.b false) (.d (.k (.k .z)))) ?_
 exact YG (wk [0] (fw (Zr false Zw fl))) hj1
theorem Z5c (n:Zy) (us:List Int) (s:Z4) (hn:Xe n:=by exact ob) (hl_us:us.length<=4294967296:=by exact ob) (ha:s.args.length<=1000000000:=by exact ob):Zj Tryz.prog 140 [ZE n,Z0 us,Y4 s] [] (fun r h=>r=.i (TB n us s.op s.num s.args)/\h=[]):=by
 have hrl:=hn.len
 have hdl:=hn.decls.len
 refine ZK 69 Tryz.func140 (ar (iA (ZU n) ?_))
 intro b1
 refine iA (Yg s) ?_
 intro b2
 refine ir 1 [(1,Z0 us),(3,.p b1 0),(5,.p b2 0)] (ie (aq (ar (Y1 4 10 (.i s.num) 12 (YZ n.routines) [0,1] [b2,b1] (iw (U8 n.routines) (ia (((n.routines.length:Int)-1)) (((n.routines.length:Int))-(1)) (ZA [] (Uv s.num 0 ((n.routines.length:Int)-1)) (Z1 1 16 (.b (!(decide (0<=s.num/\s.num<=((n.routines.length:Int)-1))))) (ie (ac (!(decide (0<=s.num/\s.num<=((n.routines.length:Int)-1)))) (p:=¬(0<=s.num/\s.num<=((n.routines.length:Int)-1))) (Yt dq) (fun Ze=>?_) (fun Ze=>?_)))))))))))
 ·refine ar (ir 1 [(6,.i (-1))] (ie ?_))
  exact Zc (r2 [] [.i (-1)] ⟨rfl,rfl⟩ (li (Z3i om).symm))
 refine ak (ar (Y1 4 18 (YZ n.routines) 20 (.i s.num) [1,0] [b1,b2] ?_))
 obtain ⟨x1,Z3⟩:=Zs (xs:=n.routines) (j:=s.num.toNat) om
 have hrp:=hn.params_at Z3
 have hrt:=hn.lent_at Z3
 have hre:TB n us s.op s.num s.args=QK n.decls us s.op s.args x1:=Z3h om Z3
 refine Zq (Zo none s.num 5 (WB Z3)) (Z1 1 22 (WZ x1) (iA [nl,nl,.i 0,nl,.i 0] ?_))
 intro b3
 refine ZH 0 b3 (VO x1) (ie (ar (Yk 2 24 (Z0 x1.params) [0] [b3] (iw (Yd x1.params) (Z1 1 8 (.i x1.params.length) (ie (aq (ar (Yk 3 28 (.b (s.op==9)) [1] [b2] (ie (ac (s.op==9) Zh (fun Zk=>?_) (fun Zk=>?_))))))))))))
 ·refine aq (ar (Y2 5 (.n 29 (Z0 us) (.n 31 (Z0 s.args) (.n 33 (Z0 x1.params) .r))) [1,0] [b2,b3] (ZA [] (A7 us s.args x1.params) (Z1 1 35 (.b (!XR us s.args x1.params)) (ie (ac (!XR us s.args x1.params) (p:=¬(XR us s.args x1.params=true)) (Yt Iff.rfl) (fun ZI=>?_) (fun ZI=>?_)))))))
  ·refine ar (ir 1 [(6,.i (-1))] (ie ?_))
   exact Zc (r2 [] [.i (-1)] ⟨rfl,rfl⟩ (li (by clear Z3;first|rfl|omega|grind [QK,Qu])))
  refine ak (ar (iR 3 [(6,.i x1.result)] [0] [b3] (ie ?_)))
  exact Zc (r2 [] [.i x1.result] ⟨rfl,rfl⟩ (li (by clear Z3;first|rfl|omega|grind [QK,Qu])))
 refine ak (aq (aD 20 (KY [(3,.p b1 0),(7,.p b3 0),(8,.i x1.params.length),(57,.b (((x1.params.length:Int)==0)||((decide ((x1.lent.length:Int)>0))||(!XR us s.args (x1.params.take (x1.params.length-1))))))] [.obj b3 (VO x1),.obj b2 (Yg s),.obj b1 (ZU n)] ?_ ?_)))
 ·refine Xa 17 20 [0,1,2] [(1,Z0 us),(3,.p b1 0),(5,.p b2 0),(7,.p b3 0),(8,.i x1.params.length),(40,.b ((x1.params.length:Int)==0))] (db (b:=((x1.params.length:Int)==0)) 40 (fun Za=>?_) (fun Za=>?_))
  ·have ZP:(x1.params.length:Int)=0:=(Zh).1 Za
   refine ZZ 0 17 [3,4,5,6,7,8,9,10,11,12,13,14,15,16,17,18,19] (.n 57 (.b true) (.d (.d (.k (.d (.k (.k .z))))))) (de ?_)
   exact ZL 3 (fw (fr (Zr true Za fl)))
  have Y0:¬((x1.params.length:Int)=0):=ZG Zh Za
  refine Y6 15 17 [3,4] (.n 42 (Z0 x1.lent) (.w (.k (.k .z)))) [0] [b3] (dw 5 (Yd x1.lent) (ZY 11 14 [6,7,8] 46 (.b (decide ((x1.lent.length:Int)>0))) (db (b:=(decide ((x1.lent.length:Int)>0))) 46 (fun Zw=>?_) (fun Zw=>?_))))
  ·have YB:(x1.lent.length:Int)>0:=(dq).1 Zw
   refine ZZ 0 11 [9,10,11,12,13,14,15,16,17,18,19] (.n 57 (.b true) (.k (.d .r))) (de ?_)
   exact ZL 3 (fw (fr (Zr true (And.intro Za Zw) fl)))
  have YN:¬((x1.lent.length:Int)>0):=ZG dq Zw
  refine Y6 5 11 [9,10,11,12,13,14] (.n 47 (Z0 us) (.n 49 (Z0 s.args) (.n 51 (Z0 x1.params) (.n 52 (.i x1.params.length) (.k (.d .r)))))) [1,0] [b2,b3] (da 15 (((x1.params.length-1:Nat):Int)) (((x1.params.length:Int))-(1)) (dx 16 (K9 (es:=Z8 x1.params) (hv:=none) (l:=0) (m:=((x1.params.length-1:Nat):Int)) (sz:=1) (es':=Z8 (x1.params.take (x1.params.length-1))) kr om (by simp<;>omega) (by simp<;>omega) (YD _) (by first|(simp only [VL,Vl,Kr,J1];done)|(simp only [VL,Vl,Kr,J1];rfl)|(simp [Kr,J1];done))) (Z9 17 (Ys 17 [] [] [] (A7 us s.args (x1.params.take (x1.params.length-1))) (ZY 0 2 [18,19] 57 (.b (!XR us s.args (x1.params.take (x1.params.length-1)))) (de ?_))))))
  exact ZL 3 (fw (fr (Zr (!XR us s.args (x1.params.take (x1.params.length-1))) (And.intro Za Zw) fl)))
 refine ac (((x1.params.length:Int)==0)||((decide ((x1.lent.length:Int)>0))||(!XR us s.args (x1.params.take (x1.params.length-1))))) (p:=((x1.params.length:Int)=0)∨(((x1.lent.length:Int)>0)∨(¬(XR us s.args (x1.params.take (x1.params.length-1))=true)))) (Yh Zh (Yh dq (Yt Iff.rfl))) (fun Yi=>?_) (fun Yi=>?_)
 ·refine ar (ir 1 [(6,.i (-1))] (ie ?_))
  exact Zc (r2 [] [.i (-1)] ⟨rfl,rfl⟩ (li (by clear Z3;first|rfl|omega|grind [QK,Qu])))
 refine ak (aD 12 (W2 7 12 [0,1,2,3,4] [(7,.p b3 0),(59,Zd n.decls),(61,Z0 x1.params),(62,.i x1.params.length)] [2,0] [b1,b3] (da 5 (((x1.params.length-1:Nat):Int)) (((x1.params.length:Int))-(1)) ?_)))
 obtain ⟨x2,Zv⟩:=Zs (xs:=x1.params) (j:=x1.params.length-1) om
 have hgl:=L6 Zv
 refine dx 6 (Zo none ((x1.params.length-1:Nat):Int) 1 (Y3 Zv)) (Y6 2 5 [7,8,9] (.n 65 (.i x2) (.n 67 (.i x1.result) .r)) [0] [b3] (Z9 10 (Ys 10 [] [] [] (Nb n.decls x2 x1.result) (Xa 0 1 [11] [(6,.i (WT n.decls x2 x1.result))] (de ?_)))))
 exact Zc (r2 [] [.i (WT n.decls x2 x1.result)] ⟨rfl,rfl⟩ (li (by clear Z3 Zv;first|rfl|omega|grind [QK,Qu])))
theorem Z52 (n:Zy) (us:List Int) (s:Z4) (hn:Xe n:=by exact ob) (hl_us:us.length<=4294967296:=by exact ob) (ha:s.args.length<=1000000000:=by exact ob):Zj Tryz.prog 142 [ZE n,Z0 us,Y4 s] [] (fun r h=>r=.i (Th n.decls us s.op s.args)/\h=[]):=by
 have Xu:=hn.decls
 refine ZK 52 Tryz.func142 (ar (iA (ZU n) ?_))
 intro b1
 refine iA (Yg s) ?_
 intro b2
 refine ir 1 [(1,Z0 us),(3,.p b1 0),(5,.p b2 0)] (ie (aq (ar (Yk 2 8 (Z0 s.args) [0] [b2] (iw (Yd s.args) (Z1 2 11 (.b ((s.args.length:Int) != 1)) (ib (b:=((s.args.length:Int) != 1)) 11 (fun Za=>?_) (fun Za=>?_))))))))
 ·have ZP:(s.args.length:Int)≠1:=(Yc).1 Za
  refine Z5 20 (.n 31 (.b true) (.k (.d .r))) (ie (WL (ar (ir 1 [(6,.i (-1))] (ie ?_)))))
  exact Zc (r2 [] [.i (-1)] ⟨rfl,rfl⟩ (li (by first|assumption|omega|rfl|(rw [B9 om])|(rw [Ba (Qt om Z3) om])|(rw [B8 (Qt om Z3) om Zv];clear Z3 Zv;grind))))
 have Y0:¬((s.args.length:Int)≠1):=ZG Yc Za
 refine Y2 2 (.n 13 (Z0 s.args) (.k (.d .r))) [0] [b2] ?_
 obtain ⟨x1,Z3⟩:=Zs (xs:=s.args) (j:=0) om
 refine Zq (Zo none 0 1 (Y3 Z3)) (Yo 2 15 (.i x1) 16 (Z0 us) (iw (Yd us) (ia (((us.length:Int)-1)) (((us.length:Int))-(1)) (ZA [] (Uv x1 0 ((us.length:Int)-1)) (Z1 3 22 (.b (!(decide (0<=x1/\x1<=((us.length:Int)-1))))) (ib (b:=(!(decide (0<=x1/\x1<=((us.length:Int)-1))))) 22 (fun Zw=>?_) (fun Zw=>?_)))))))
 ·have YB:¬(0<=x1/\x1<=((us.length:Int)-1)):=((Yt dq)).1 Zw
  refine Z5 9 (.n 31 (.b true) (.k (.d .r))) (ie (WL (ar (ir 1 [(6,.i (-1))] (ie ?_)))))
  exact Zc (r2 [] [.i (-1)] ⟨rfl,rfl⟩ (li (by first|assumption|omega|rfl|(rw [B9 om])|(rw [Ba (Qt om Z3) om])|(rw [B8 (Qt om Z3) om Zv];clear Z3 Zv;grind))))
 have YN:¬(¬(0<=x1/\x1<=((us.length:Int)-1))):=ZG (Yt dq) Zw
 refine Y2 3 (.n 23 (Z0 us) (.n 25 (Z0 s.args) (.k (.d .r)))) [0] [b2] (Zq (Zo none 0 1 (Y3 Z3)) (Z1 1 27 (.i x1) ?_))
 obtain ⟨x2,Zv⟩:=Zs (xs:=us) (j:=x1.toNat) om
 refine Zq (Zo none x1 1 (Y3 Zv)) (Z1 3 31 (.b (x2==0)) (ie (ac (x2==0) Zh (fun Ze=>?_) (fun Ze=>?_))))
 ·refine ar (ir 1 [(6,.i (-1))] (ie ?_))
  exact Zc (r2 [] [.i (-1)] ⟨rfl,rfl⟩ (li (by first|assumption|omega|rfl|(rw [B9 om])|(rw [Ba (Qt om Z3) om])|(rw [B8 (Qt om Z3) om Zv];clear Z3 Zv;grind))))
 refine ak (aq (aD 20 (KY [(51,.b ((s.op != 14)&&((s.op != 15)&&X5 n.decls x2)))] [.obj b2 (Yg s),.obj b1 (ZU n)] ?_ ?_)))
 ·refine W2 16 20 [0,1,2,3] [(1,Z0 us),(3,.p b1 0),(5,.p b2 0),(35,.b (s.op != 14))] [0] [b2] (db (b:=(s.op != 14)) 35 (fun Yw=>?_) (fun Yw=>?_))
  ·have YX:s.op≠14:=(Yc).1 Yw
   refine Y6 11 16 [4,5,6,7,8] (.n 40 (.b (s.op != 15)) (.d (.k (.k (.k .z))))) [0] [b2] (db (b:=(s.op != 15)) 40 (fun Xg=>?_) (fun Xg=>?_))
   ·have Xy:s.op≠15:=(Yc).1 Xg
    refine W2 6 11 [9,10,11,12,13] [(40,.b true),(42,Zd n.decls),(43,Z0 us),(45,Z0 s.args)] [1,0] [b1,b2] (dx 14 (Zo none 0 1 (Y3 Z3)) (ZY 4 5 [15] 47 (.i x1) (dx 16 (Zo none x1 1 (Y3 Zv)) (ZY 2 3 [17] 49 (.i x2) (Z9 18 (Ys 18 [] [] [] (CJ n.decls x2 (hd:=(by first|assumption|omega|rfl|(rw [B9 om])|(rw [Ba (Qt om Z3) om])|(rw [B8 (Qt om Z3) om Zv];clear Z3 Zv;grind)))) (Xa 0 1 [19] [(51,.b (X5 n.decls x2))] (de ?_))))))))
    exact wk [0,0] (Zr (X5 n.decls x2) (And.intro Yw Xg) fl)
   have Wh:¬(s.op≠15):=ZG Yc Xg
   refine Xa 0 11 [9,10,11,12,13,14,15,16,17,18,19] [(51,.b false)] (de ?_)
   exact wk [0,0] (Zr false (And.intro Yw Xg) fl)
  have WJ:¬(s.op≠14):=ZG Yc Yw
  refine Xa 0 16 [4,5,6,7,8,9,10,11,12,13,14,15,16,17,18,19] [(51,.b false)] (de ?_)
  exact wk [0,0] (Zr false Yw fl)
 refine ac ((s.op != 14)&&((s.op != 15)&&X5 n.decls x2)) (p:=(s.op≠14)/\((s.op≠15)/\(X5 n.decls x2=true))) (YE Yc (YE Yc Iff.rfl)) (fun Zk=>?_) (fun Zk=>?_)
 ·refine ar (ir 1 [(6,.i (-1))] (ie ?_))
  exact Zc (r2 [] [.i (-1)] ⟨rfl,rfl⟩ (li (by first|assumption|omega|rfl|(rw [B9 om])|(rw [Ba (Qt om Z3) om])|(rw [B8 (Qt om Z3) om Zv];clear Z3 Zv;grind))))
 refine ak (ar (ir 1 [(6,.i 0)] (ie ?_)))
 exact Zc (r2 [] [.i 0] ⟨rfl,rfl⟩ (li (by first|assumption|omega|rfl|(rw [B9 om])|(rw [Ba (Qt om Z3) om])|(rw [B8 (Qt om Z3) om Zv];clear Z3 Zv;grind))))
theorem Nk (n:Zy) (us:List Int) (s:Z4) (hn:Xe n:=by exact ob) (hop:s.op=7∨s.op=8:=by exact ob) (hb:us.length+4*s.sz<=1000000000:=by exact ob) (ih:∀(b:Z7) (us:List Int),(b.sz<s.sz)->(us.length+4*b.sz<=1000000000)->Zj Tryz.prog 60 [ZE n,Z0 us,Zx b] [] (fun r h=>r=.i (YR n us b)/\h=[])):Zj Tryz.prog 139 [ZE n,Z0 us,Y4 s] [] (fun r h=>r=.i (Uc n us s.op s.num s.kids)/\h=[]):=by
 have Xu:=hn.decls
 have hkz:=T8 s
 refine ZK 71 Tryz.func139 (ar (iA (ZU n) ?_))
 intro b1
 refine iA (Yg s) ?_
 intro b2
 refine ir 1 [(1,Z0 us),(3,.p b1 0),(5,.p b2 0)] (ie (ar (Y1 4 14 (Zd n.decls) 16 (.i s.num) [1,0] [b1,b2] (ic [] (KH n.decls s.num) ?_))))
 rintro _ _ ⟨v1,rfl,rfl⟩
 refine Z1 1 7 (Z6 (Zu n.decls s.num) v1) (ie (ar (Z1 1 18 (Z6 (Zu n.decls s.num) v1) (io (.i (((Zu n.decls s.num).length:Nat):Int)) (.i (((Z8 (Zu n.decls s.num)).length:Nat):Int)) (li (by rw [Yd])) (Z1 1 8 (.i (((Zu n.decls s.num).length:Nat):Int)) (ie (aq (ar (Yk 3 22 (.b (s.op==7)) [1] [b2] (ie (XI (fun F h=>F=[(1,Z0 us),(3,.p b1 0),(5,.p b2 0),(7,Z0 (Zu n.decls s.num)),(8,.i (((X6 n.decls s.op s.num).length:Nat):Int))]/\h=[.obj b2 (Yg s),.obj b1 (ZU n)]) ?_ ?_)))))))))))
 ·refine ac (s.op==7) Zh (fun Ze=>?_) (fun Ze=>?_)
  ·refine az (ir 1 [(1,Z0 us),(3,.p b1 0),(5,.p b2 0),(7,Z6 (Zu n.decls s.num) v1),(8,.i 2)] (ie ?_))
   exact ZV ⟨rfl,rfl⟩ (wk [1,1] (fw (fr (fc (x:=Z6 (Zu n.decls s.num) v1) (Zg.forget _ _) (fc (x:=.i 2) (li (by rw [X6,Zm Ze];rfl)) fl)))))
  refine ak ?_
  exact ZV ⟨rfl,rfl⟩ (wk [1,1] (fw (fr (fc (x:=Z6 (Zu n.decls s.num) v1) (Zg.forget _ _) (fc (x:=.i (((Zu n.decls s.num).length:Nat):Int)) (li (by rw [X6,Zb Ze,Ah])) fl)))))
 rintro F h ⟨rfl,rfl⟩
 refine aq (ar (Xp [(1,Z0 us),(3,.p b1 0),(5,.p b2 0),(7,Z0 (Zu n.decls s.num)),(8,.i (((X6 n.decls s.op s.num).length:Nat):Int)),(31,.b (((((X6 n.decls s.op s.num).length:Nat):Int)==0)||((s.kids.length:Int) != (((X6 n.decls s.op s.num).length:Nat):Int))))] [.obj b2 (Yg s),.obj b1 (ZU n)] ?_ ?_))
 ·refine ir 3 [(1,Z0 us),(3,.p b1 0),(5,.p b2 0),(7,Z0 (Zu n.decls s.num)),(8,.i (((X6 n.decls s.op s.num).length:Nat):Int)),(25,.b ((((X6 n.decls s.op s.num).length:Nat):Int)==0))] (ib (b:=((((X6 n.decls s.op s.num).length:Nat):Int)==0)) 25 (fun Za=>?_) (fun Za=>?_))
  ·have ZP:(((X6 n.decls s.op s.num).length:Nat):Int)=0:=(Zh).1 Za
   refine Z5 6 (.n 31 (.b true) (.d (.w (.k .z)))) (ie ?_)
   exact wk [0,0] (fq (fr (Zr true Za fl)))
  have Y0:¬((((X6 n.decls s.op s.num).length:Nat):Int)=0):=ZG Zh Za
  refine Y2 2 (.n 27 (Yz s.kids) (.w (.k (.k .z)))) [0] [b2] (iw (VX s.kids) (Z1 3 31 (.b ((s.kids.length:Int) != (((X6 n.decls s.op s.num).length:Nat):Int))) (ie ?_)))
  exact wk [0,0] (fq (fr (Zr ((s.kids.length:Int) != (((X6 n.decls s.op s.num).length:Nat):Int)) Za fl)))
 refine ac (((((X6 n.decls s.op s.num).length:Nat):Int)==0)||((s.kids.length:Int) != (((X6 n.decls s.op s.num).length:Nat):Int))) (p:=((((X6 n.decls s.op s.num).length:Nat):Int)=0)∨((s.kids.length:Int)≠(((X6 n.decls s.op s.num).length:Nat):Int))) (Yh Zh Yc) (fun Zk=>?_) (fun Zk=>?_)
 ·refine ar (ir 1 [(6,.i (-1))] (ie ?_))
  exact Zc (r2 [] [.i (-1)] ⟨rfl,rfl⟩ (li (by rw [Uc,Zm om])))
 refine ak (ar (ir 1 [(1,Z0 us),(3,.p b1 0),(5,.p b2 0),(7,Z0 (Zu n.decls s.num)),(8,.i (((X6 n.decls s.op s.num).length:Nat):Int)),(9,.i 0)] (ie (aq (ar (Z1 1 10 (.i 0) (ie (ab 0 (al (fun m F h=>∃(k:Nat) (t:Int),(k<=s.kids.length)/\(Wi n us (s.kids.drop k) ((X6 n.decls s.op s.num).drop k) (decide (k=0)) t=Wi n us s.kids (X6 n.decls s.op s.num) true 0)/\F=[(1,Z0 us),(3,.p b1 0),(5,.p b2 0),(7,Z0 (Zu n.decls s.num)),(8,.i (((X6 n.decls s.op s.num).length:Nat):Int)),(9,.i t),(10,.i k)]/\h=[.obj b2 (Yg s),.obj b1 (ZU n)]/\m=s.kids.length-k) _ _ _ ⟨0,0,ob,(by rfl),rfl,rfl,rfl⟩ (wk [0,0] (fq (fw (Ye fl)))) ?_)))))))))
 rintro m F h ⟨k,t,Ym,Zp,rfl,rfl,rfl⟩
 refine aq (ar (Z1 3 34 (.b (decide ((k:Int)<(((X6 n.decls s.op s.num).length:Nat):Int)))) (ie (ZM ((k:Int)<(((X6 n.decls s.op s.num).length:Nat):Int)) (fun ZI=>?_) (fun ZI=>?_)))))
 ·refine ak (aq (ab 1 (ar (Z1 2 11 (Z0 us) (ie (aq (ar (Yk 3 40 (.b (s.op==8)) [0] [b2] (ie (XI (fun F h=>∃(m:List Int),((X6 n.decls s.op s.num)[k]? = some m)/\F=[(1,Z0 us),(3,.p b1 0),(5,.p b2 0),(7,Z0 (Zu n.decls s.num)),(8,.i (((X6 n.decls s.op s.num).length:Nat):Int)),(9,.i t),(10,.i k),(11,Z0 (us++m))]/\h=[.obj b2 (Yg s),.obj b1 (ZU n)]) ?_ ?_))))))))))
  ·refine ac (s.op==8) Zh (fun Yi=>?_) (fun Yi=>?_)
   ·refine aE 10 (W2 5 10 [0,1,2,3,4] [(1,Z0 us),(3,.p b1 0),(5,.p b2 0),(7,Z0 (Zu n.decls s.num)),(8,.i (((X6 n.decls s.op s.num).length:Nat):Int)),(9,.i t),(10,.i k),(11,Z0 us),(41,Z0 us),(43,Zd n.decls),(44,Z0 (Zu n.decls s.num)),(45,.i k)] [1] [b1] ?_)
    obtain ⟨x1,Z3⟩:=Zs (xs:=Zu n.decls s.num) (j:=k) (by rw [X6,Zb om,Ah] at ZI;omega)
    refine dx 5 (Zo none (k:Int) 1 (Y3 Z3)) (ZY 3 4 [6] 47 (.i x1) (Z9 7 (Ys 7 [] [] [] (Qh n.decls x1) (Z9 8 (dc 8 [] [] [] (Q2 us (ZB n.decls x1) (hl:=(by have:=VH Xu x1;omega))) ?_)))))
    rintro _ _ ⟨v2,rfl,rfl⟩
    refine ZZ 0 1 [9] (.n 11 (Z6 (us++(ZB n.decls x1)) v2) (.p (.p (.d (.p (.w (.k (.k (.k .z))))))))) (de ?_)
    exact ZV ⟨(ZB n.decls x1),(by rw [show s.op=8 from Yi];exact OF Z3),rfl,rfl⟩ (wk [1,1] fl)
   refine ak ?_
   exact ZV ⟨[],(by rw [X6,Zm om];have:k=0∨k=1:=(by rw [X6,Zm om] at ZI;simp at ZI;omega);rcases this with rfl|rfl<;>rfl),rfl,rfl⟩ (wk [0,0] (fq (fw (fr (fc (x:=Z0 us) (Zg.sl _ (Yv Z8 (by simp))) fl)))))
  rintro F h ⟨m,TU,rfl,rfl⟩
  refine aD 9 (W2 4 9 [0,1,2,3,4] [(1,Z0 us),(3,.p b1 0),(5,.p b2 0),(7,Z0 (Zu n.decls s.num)),(8,.i (((X6 n.decls s.op s.num).length:Nat):Int)),(9,.i t),(10,.i k),(50,ZE n),(51,Z0 (us++m)),(53,Yz s.kids),(54,.i k)] [1,0] [b1,b2] ?_)
  obtain ⟨x2,Zv⟩:=Zs (xs:=s.kids) (j:=k) om
  have hks:=T7 Zv
  have hm3:=HD Xu TU
  refine dx 5 (Zo none (k:Int) 2 (UA Zv)) (ZY 2 3 [6] 56 (Zx x2) (Z9 7 (Ys 7 [] [] [] (ih x2 (us++m) ob (by simp only [Yx];omega)) (ZY 0 1 [8] 12 (.i (YR n (us++m) x2)) (de (aq (ar (Xp [(1,Z0 us),(3,.p b1 0),(5,.p b2 0),(7,Z0 (Zu n.decls s.num)),(8,.i (((X6 n.decls s.op s.num).length:Nat):Int)),(10,.i k),(12,.i (YR n (us++m) x2)),(68,.b ((decide ((YR n (us++m) x2)<0))||((decide ((k:Int)>0))&&((YR n (us++m) x2) != t))))] [.obj b2 (Yg s),.obj b1 (ZU n)] ?_ ?_))))))))
  ·refine ir 3 [(1,Z0 us),(3,.p b1 0),(5,.p b2 0),(7,Z0 (Zu n.decls s.num)),(8,.i (((X6 n.decls s.op s.num).length:Nat):Int)),(9,.i t),(10,.i k),(12,.i (YR n (us++m) x2)),(60,.b (decide ((YR n (us++m) x2)<0)))] (ib (b:=(decide ((YR n (us++m) x2)<0))) 60 (fun Zw=>?_) (fun Zw=>?_))
   ·have YB:(YR n (us++m) x2)<0:=(dq).1 Zw
    refine Z5 8 (.n 68 (.b true) (.d (.w (.k (.d (.k (.k .z))))))) (ie ?_)
    exact wk [0,0] (fq (fw (fr (Zr true Zw fl))))
   have YN:¬((YR n (us++m) x2)<0):=ZG dq Zw
   refine Z5 3 (.n 63 (.b (decide ((k:Int)>0))) (.w (.w (.k .z)))) (ib (b:=(decide ((k:Int)>0))) 63 (fun Yw=>?_) (fun Yw=>?_))
   ·have YX:(k:Int)>0:=(dq).1 Yw
    refine Z5 5 (.n 68 (.b ((YR n (us++m) x2) != t)) (.k (.d .r))) (ie ?_)
    exact wk [0,0] (fq (fw (fr (Zr ((YR n (us++m) x2) != t) (And.intro Zw Yw) fl))))
   have Xy:¬((k:Int)>0):=ZG dq Yw
   refine Z5 5 (.n 68 (.b false) (.k (.d .r))) (ie ?_)
   exact wk [0,0] (fq (fw (fr (Zr false (And.intro Zw Yw) fl))))
  refine ac ((decide ((YR n (us++m) x2)<0))||((decide ((k:Int)>0))&&((YR n (us++m) x2) != t))) (p:=((YR n (us++m) x2)<0)∨(((k:Int)>0)/\((YR n (us++m) x2)≠t))) (Yh dq (YE dq Yc)) (fun Xk=>?_) (fun Xk=>?_)
  ·refine ar (ir 1 [(6,.i (-1))] (ie ?_))
   exact Zc (r2 [] [.i (-1)] ⟨rfl,rfl⟩ (li (by rw [Uc,Zb om,<-Zp];exact (LE Zv TU Xk).symm)))
  refine ak (az (ir 2 [(1,Z0 us),(3,.p b1 0),(5,.p b2 0),(7,Z0 (Zu n.decls s.num)),(8,.i (((X6 n.decls s.op s.num).length:Nat):Int)),(9,.i (YR n (us++m) x2)),(10,.i k)] (ie (az (Z1 1 35 (.i k) (ZO k (Z5 1 (.n 10 (.i (k+1:Nat)) (.p (.d (.w (.k (.k .z)))))) (ie ?_))))))))
  exact ZQ ⟨k+1,YR n (us++m) x2,ob,(by rw [<-Zp];exact (LG Zv TU Xk).symm),rfl,rfl,rfl⟩ (wk [0,0] (fq (fw (ZW k fl))))
 refine ax 0 (ar (ir 2 [(6,.i t)] (ie ?_)))
 exact Zc (r2 [] [.i t] ⟨rfl,rfl⟩ (li (by rw [Uc,Zb om,<-Zp];exact (LF om).symm)))
theorem Nn (n:Zy) (us:List Int) (s:Z4) (hn:Xe n:=by exact ob) (hb:us.length+4*s.sz<=1000000000:=by exact ob) (ih:∀(b:Z7) (us:List Int),(b.sz<s.sz)->(us.length+4*b.sz<=1000000000)->Zj Tryz.prog 60 [ZE n,Z0 us,Zx b] [] (fun r h=>r=.i (YR n us b)/\h=[])):Zj Tryz.prog 98 [ZE n,Z0 us,Y4 s] [] (fun r h=>r=.i (ZT n us s)/\h=[]):=by
 have Xu:=hn.decls
 have hkz:=T8 s
 have haz:=Q7 s
 have hdl:=Xu.len
 have hst:=AR n us s
 refine ZK 183 Tryz.func98 (ar (iA (ZU n) ?_))
 intro b1
 refine iA (Yg s) ?_
 intro b2
 refine ir 1 [(1,Z0 us),(3,.p b1 0),(5,.p b2 0)] (ie (aq (ar (XP 9 [(1,Z0 us),(3,.p b1 0),(5,.p b2 0),(16,.b ((s.num != 0)&&(!WM s.op)))] [.obj b2 (Yg s),.obj b1 (ZU n)] ?_ (fun hj1=>?_)))))
 ·refine XP 15 [(1,Z0 us),(3,.p b1 0),(5,.p b2 0),(22,.b (((s.num != 0)&&(!WM s.op))||(!VK us s.op s.into)))] [.obj b2 (Yg s),.obj b1 (ZU n)] ?_ (fun hj2=>?_)
  ·refine Xp [(1,Z0 us),(3,.p b1 0),(5,.p b2 0),(38,.b ((((s.num != 0)&&(!WM s.op))||(!VK us s.op s.into))||((decide ((s.kids.length:Int)>0))&&((s.op != 7)&&(s.op != 8)))))] [.obj b2 (Yg s),.obj b1 (ZU n)] ?_ ?_
   ·refine ir 1 [(1,Z0 us),(3,.p b1 0),(5,.p b2 0),(23,.b (((s.num != 0)&&(!WM s.op))||(!VK us s.op s.into)))] (ib (b:=(((s.num != 0)&&(!WM s.op))||(!VK us s.op s.into))) 23 (fun Za=>?_) (fun Za=>?_))
    ·have ZP:((s.num≠0)/\(¬(WM s.op=true)))∨(¬(VK us s.op s.into=true)):=((Yh (YE Yc (Yt Iff.rfl)) (Yt Iff.rfl))).1 Za
     refine Z5 15 (.n 38 (.b true) (.d (.k (.k (.k .z))))) (ie ?_)
     exact wk [0,0] (fw (fr (Zr true Za fl)))
    have Y0:¬(((s.num≠0)/\(¬(WM s.op=true)))∨(¬(VK us s.op s.into=true))):=ZG (Yh (YE Yc (Yt Iff.rfl)) (Yt Iff.rfl)) Za
    refine Y2 2 (.n 25 (Yz s.kids) (.w .z)) [0] [b2] (iw (VX s.kids) (Z1 2 28 (.b (decide ((s.kids.length:Int)>0))) (ib (b:=(decide ((s.kids.length:Int)>0))) 28 (fun Zw=>?_) (fun Zw=>?_))))
    ·have YB:(s.kids.length:Int)>0:=(dq).1 Zw
     refine Y2 5 (.n 33 (.b (s.op != 7)) (.k (.d .r))) [0] [b2] (ib (b:=(s.op != 7)) 33 (fun Yw=>?_) (fun Yw=>?_))
     ·have YN:s.op≠7:=(Yc).1 Yw
      refine Y2 5 (.n 38 (.b (s.op != 8)) (.k (.d .r))) [0] [b2] (ie ?_)
      exact wk [0,0] (fw (fr (Zr (s.op != 8) (And.intro Za (And.intro Zw Yw)) fl)))
     have YX:¬(s.op≠7):=ZG Yc Yw
     refine Z5 5 (.n 38 (.b false) (.k (.d .r))) (ie ?_)
     exact wk [0,0] (fw (fr (Zr false (And.intro Za (And.intro Zw Yw)) fl)))
    have Xy:¬((s.kids.length:Int)>0):=ZG dq Zw
    refine Z5 10 (.n 38 (.b false) (.k (.d .r))) (ie ?_)
    exact wk [0,0] (fw (fr (Zr false (And.intro Za Zw) fl)))
   refine ac ((((s.num != 0)&&(!WM s.op))||(!VK us s.op s.into))||((decide ((s.kids.length:Int)>0))&&((s.op != 7)&&(s.op != 8)))) (p:=(((s.num≠0)/\(¬(WM s.op=true)))∨(¬(VK us s.op s.into=true)))∨(((s.kids.length:Int)>0)/\((s.op≠7)/\(s.op≠8)))) (Yh (Yh (YE Yc (Yt Iff.rfl)) (Yt Iff.rfl)) (YE dq (YE Yc Yc))) (fun Ze=>?_) (fun Ze=>?_)
   ·refine ar (ir 1 [(6,.i (-1))] (ie ?_))
    exact Zc (r2 [] [.i (-1)] ⟨rfl,rfl⟩ (li (by first|rfl|( grind)|(have q:=U3 (ds:=n.decls) (us:=us) (args:=s.args) om; grind)|(have q:=U4 (ds:=n.decls) (us:=us) (args:=s.args) om ‹s.args[0]? = some _› om; grind)|(have q:=VV (ds:=n.decls) (us:=us) (args:=s.args) om ‹s.args[0]? = some _› om ‹us[_]? = some _›; grind))))
   refine ak (aq (ar (iR 2 [(1,Z0 us),(3,.p b1 0),(5,.p b2 0),(40,.i s.op)] [0] [b2] (ie (ab 0 (ar (Z1 2 41 (.b (s.op==0)) (ie (ac (s.op==0) Zh (fun Zk=>?_) (fun Zk=>?_))))))))))
   ·refine ar (Yk 2 44 (Z0 s.args) [0] [b2] (iw (Yd s.args) (Xp [(51,.b (((s.args.length:Int)==0)&&(decide ((-999)<=s.num/\s.num<=999))))] [.obj b2 (Yg s),.obj b1 (ZU n)] ?_ ?_)))
    ·refine ir 2 [(5,.p b2 0),(47,.b ((s.args.length:Int)==0))] (ib (b:=((s.args.length:Int)==0)) 47 (fun Xg=>?_) (fun Xg=>?_))
     ·have Wh:(s.args.length:Int)=0:=(Zh).1 Xg
      refine Y2 2 (.n 49 (.i s.num) (.k .z)) [0] [b2] (ZA [] (Uv s.num (-999) 999) (ir 1 [(51,.b (decide ((-999)<=s.num/\s.num<=999)))] (ie ?_)))
      exact wk [0,0] (Zr (decide ((-999)<=s.num/\s.num<=999)) Xg fl)
     have WJ:¬((s.args.length:Int)=0):=ZG Zh Xg
     refine ir 4 [(51,.b false)] (ie ?_)
     exact wk [0,0] (Zr false Xg fl)
    refine ac (((s.args.length:Int)==0)&&(decide ((-999)<=s.num/\s.num<=999))) (p:=((s.args.length:Int)=0)/\((-999)<=s.num/\s.num<=999)) (YE Zh dq) (fun ZI=>?_) (fun ZI=>?_)
    ·refine ar (ir 1 [(6,.i 0)] (ie ?_))
     exact Zc (r2 [] [.i 0] ⟨rfl,rfl⟩ (li (by first|rfl|( grind)|(have q:=U3 (ds:=n.decls) (us:=us) (args:=s.args) om; grind)|(have q:=U4 (ds:=n.decls) (us:=us) (args:=s.args) om ‹s.args[0]? = some _› om; grind)|(have q:=VV (ds:=n.decls) (us:=us) (args:=s.args) om ‹s.args[0]? = some _› om ‹us[_]? = some _›; grind))))
    refine ak (ar (ir 1 [(6,.i (-1))] (ie ?_)))
    exact Zc (r2 [] [.i (-1)] ⟨rfl,rfl⟩ (li (by first|rfl|( grind)|(have q:=U3 (ds:=n.decls) (us:=us) (args:=s.args) om; grind)|(have q:=U4 (ds:=n.decls) (us:=us) (args:=s.args) om ‹s.args[0]? = some _› om; grind)|(have q:=VV (ds:=n.decls) (us:=us) (args:=s.args) om ‹s.args[0]? = some _› om ‹us[_]? = some _›; grind))))
   refine aq (ar (Z1 2 52 (.b (s.op==1)) (ie (XI (fun F h=>F=[(1,Z0 us),(3,.p b1 0),(5,.p b2 0),(40,.i s.op),(52,.b ((s.op==1)||((s.op==2)||((s.op==3)||(s.op==4)))))]/\h=[.obj b2 (Yg s),.obj b1 (ZU n)]) ?_ ?_))))
   ·refine ac (s.op==1) Zh (fun Yi=>?_) (fun Yi=>?_)
    ·refine ak ?_
     exact ZV ⟨rfl,rfl⟩ (wk [0,0] (fq (fc (x:=.b (s.op==1)) (lb (by first|rfl|(rw [Zm Yi])|(rw [Zb Yi])|(simp [Yi];done)|(rw [Xm];simp [Yi];done)|omega)) fl)))
    refine ar (ir 2 [(1,Z0 us),(3,.p b1 0),(5,.p b2 0),(40,.i s.op),(52,.b (s.op==2))] (ie (ac (s.op==2) Zh (fun Xk=>?_) (fun Xk=>?_))))
    ·refine ak ?_
     exact ZV ⟨rfl,rfl⟩ (wk [0,0] (fq (fc (x:=.b (s.op==2)) (lb (by first|rfl|(rw [Zm Yi])|(rw [Zb Yi])|(simp [Yi,Xk];done)|(rw [Xm];simp [Yi,Xk];done)|omega)) fl)))
    refine ar (Z5 2 (.n 52 (.b (s.op==3)) (.w .z)) (ie (ac (s.op==3) Zh (fun Xl=>?_) (fun Xl=>?_))))
    ·refine ak ?_
     exact ZV ⟨rfl,rfl⟩ (wk [0,0] (fq (fc (x:=.b (s.op==3)) (lb (by first|rfl|(rw [Zm Yi])|(rw [Zb Yi])|(simp [Yi,Xk,Xl];done)|(rw [Xm];simp [Yi,Xk,Xl];done)|omega)) fl)))
    refine az (Z5 2 (.n 52 (.b (s.op==4)) (.d .r)) (ie ?_))
    exact ZV ⟨rfl,rfl⟩ (wk [0,0] (fq (fc (x:=.b (s.op==4)) (lb (by first|rfl|(rw [Zm Yi])|(rw [Zb Yi])|(simp [Yi,Xk,Xl];done)|(rw [Xm];simp [Yi,Xk,Xl];done)|omega)) fl)))
   rintro F h ⟨rfl,rfl⟩
   refine ac ((s.op==1)||((s.op==2)||((s.op==3)||(s.op==4)))) (p:=(s.op=1)∨((s.op=2)∨((s.op=3)∨(s.op=4)))) (Yh Zh (Yh Zh (Yh Zh Zh))) (fun Vu=>?_) (fun Vu=>?_)
   ·refine ar (iR 3 [(57,Z0 us),(59,Z0 s.args)] [0] [b2] (iL (Z8 [0,0]) 2 1 ?_))
    intro v1
    refine Z5 0 (.n 60 (Z0 [0,0]) (.p .r)) (ZA [] (A7 us s.args [0,0] (hl_tys:=(by first|(simp;done)|(have:=VH Xu s.num;omega)))) (ie (ac (XR us s.args [0,0]) Iff.rfl (fun Vm=>?_) (fun Vm=>?_))))
    ·refine ar (ir 1 [(6,.i 0)] (ie ?_))
     exact Zc (r2 [] [.i 0] ⟨rfl,rfl⟩ (li (by first|rfl|( grind)|(have q:=U3 (ds:=n.decls) (us:=us) (args:=s.args) om; grind)|(have q:=U4 (ds:=n.decls) (us:=us) (args:=s.args) om ‹s.args[0]? = some _› om; grind)|(have q:=VV (ds:=n.decls) (us:=us) (args:=s.args) om ‹s.args[0]? = some _› om ‹us[_]? = some _›; grind))))
    refine ak (ar (ir 1 [(6,.i (-1))] (ie ?_)))
    exact Zc (r2 [] [.i (-1)] ⟨rfl,rfl⟩ (li (by first|rfl|( grind)|(have q:=U3 (ds:=n.decls) (us:=us) (args:=s.args) om; grind)|(have q:=U4 (ds:=n.decls) (us:=us) (args:=s.args) om ‹s.args[0]? = some _› om; grind)|(have q:=VV (ds:=n.decls) (us:=us) (args:=s.args) om ‹s.args[0]? = some _› om ‹us[_]? = some _›; grind))))
   refine ar (ir 2 [(1,Z0 us),(3,.p b1 0),(5,.p b2 0),(40,.i s.op),(62,.b (s.op==5))] (ie (ac (s.op==5) Zh (fun VF=>?_) (fun VF=>?_))))
   ·refine ar (iR 3 [(64,Z0 us),(66,Z0 s.args)] [0] [b2] (iL (Z8 [0]) 1 1 ?_))
    intro v2
    refine Z5 0 (.n 67 (Z0 [0]) (.p .r)) (ZA [] (A7 us s.args [0] (hl_tys:=(by first|(simp;done)|(have:=VH Xu s.num;omega)))) (ie (ac (XR us s.args [0]) Iff.rfl (fun UD=>?_) (fun UD=>?_))))
    ·refine ar (ir 1 [(6,.i 0)] (ie ?_))
     exact Zc (r2 [] [.i 0] ⟨rfl,rfl⟩ (li (by first|rfl|( grind)|(have q:=U3 (ds:=n.decls) (us:=us) (args:=s.args) om; grind)|(have q:=U4 (ds:=n.decls) (us:=us) (args:=s.args) om ‹s.args[0]? = some _› om; grind)|(have q:=VV (ds:=n.decls) (us:=us) (args:=s.args) om ‹s.args[0]? = some _› om ‹us[_]? = some _›; grind))))
    refine ak (ar (ir 1 [(6,.i (-1))] (ie ?_)))
    exact Zc (r2 [] [.i (-1)] ⟨rfl,rfl⟩ (li (by first|rfl|( grind)|(have q:=U3 (ds:=n.decls) (us:=us) (args:=s.args) om; grind)|(have q:=U4 (ds:=n.decls) (us:=us) (args:=s.args) om ‹s.args[0]? = some _› om; grind)|(have q:=VV (ds:=n.decls) (us:=us) (args:=s.args) om ‹s.args[0]? = some _› om ‹us[_]? = some _›; grind))))
   refine ar (Z1 2 69 (.b (s.op==6)) (ie (ac (s.op==6) Zh (fun K1=>?_) (fun K1=>?_))))
   ·refine aD 17 (Y6 13 17 [0,1,2,3] (.n 72 (Zd n.decls) (.n 74 (.i s.num) .r)) [1,0] [b1,b2] (Z9 4 (Ys 4 [] [] [] (GX n.decls s.num) (KY [(3,.p b1 0),(5,.p b2 0),(87,.b ((decide ((Xt n.decls s.num)>0))&&XR us s.args (ZB n.decls s.num)))] [.obj b2 (Yg s),.obj b1 (ZU n)] ?_ ?_))))
    ·refine Xa 10 12 [5,6] [(1,Z0 us),(3,.p b1 0),(5,.p b2 0),(77,.b (decide ((Xt n.decls s.num)>0)))] (db (b:=(decide ((Xt n.decls s.num)>0))) 77 (fun W9=>?_) (fun W9=>?_))
     ·have V2:(Xt n.decls s.num)>0:=(dq).1 W9
      refine Y6 3 10 [7,8,9,10,11,12,13] (.n 78 (Z0 us) (.n 80 (Z0 s.args) (.n 82 (Zd n.decls) (.n 84 (.i s.num) (.k (.d (.k (.k .z)))))))) [0,1,0] [b2,b1,b2] (Z9 14 (Ys 14 [] [0] [b2] (Qh n.decls s.num (hd:=Xu)) (Z9 15 (Ys 15 [] [] [] (A7 us s.args (ZB n.decls s.num) (hl_tys:=(by first|(simp;done)|(have:=VH Xu s.num;omega)))) (ZY 0 1 [16] 87 (.b (XR us s.args (ZB n.decls s.num))) (de ?_))))))
      exact wk [0,0] (fw (Zr (XR us s.args (ZB n.decls s.num)) W9 fl))
     have Ua:¬((Xt n.decls s.num)>0):=ZG dq W9
     refine ZZ 0 10 [7,8,9,10,11,12,13,14,15,16] (.n 87 (.b false) (.d (.d (.k (.k .z))))) (de ?_)
     exact wk [0,0] (fw (Zr false W9 fl))
    refine ac ((decide ((Xt n.decls s.num)>0))&&XR us s.args (ZB n.decls s.num)) (p:=((Xt n.decls s.num)>0)/\(XR us s.args (ZB n.decls s.num)=true)) (YE dq Iff.rfl) (fun T4=>?_) (fun T4=>?_)
    ·refine ar (iR 4 [(89,Zd n.decls),(91,.i s.num)] [1,0] [b1,b2] (ZA [] (GX n.decls s.num) (ir 1 [(6,.i (Xt n.decls s.num))] (ie ?_))))
     exact Zc (r2 [] [.i (Xt n.decls s.num)] ⟨rfl,rfl⟩ (li (by first|rfl|( grind)|(have q:=U3 (ds:=n.decls) (us:=us) (args:=s.args) om; grind)|(have q:=U4 (ds:=n.decls) (us:=us) (args:=s.args) om ‹s.args[0]? = some _› om; grind)|(have q:=VV (ds:=n.decls) (us:=us) (args:=s.args) om ‹s.args[0]? = some _› om ‹us[_]? = some _›; grind))))
    refine ak (ar (ir 1 [(6,.i (-1))] (ie ?_)))
    exact Zc (r2 [] [.i (-1)] ⟨rfl,rfl⟩ (li (by first|rfl|( grind)|(have q:=U3 (ds:=n.decls) (us:=us) (args:=s.args) om; grind)|(have q:=U4 (ds:=n.decls) (us:=us) (args:=s.args) om ‹s.args[0]? = some _› om; grind)|(have q:=VV (ds:=n.decls) (us:=us) (args:=s.args) om ‹s.args[0]? = some _› om ‹us[_]? = some _›; grind))))
   refine ar (Z1 2 93 (.b (s.op==7)) (ie (ac (s.op==7) Zh (fun Qy=>?_) (fun Qy=>?_))))
   ·refine ar (Y1 3 95 (Z0 us) 97 (Z0 s.args) [0] [b2] (iL (Z8 [0]) 1 1 ?_))
    intro v3
    refine Z5 0 (.n 98 (Z0 [0]) (.p .r)) (ZA [] (A7 us s.args [0] (hl_tys:=(by first|(simp;done)|(have:=VH Xu s.num;omega)))) (ie (ac (XR us s.args [0]) Iff.rfl (fun AG=>?_) (fun AG=>?_))))
    ·refine ar (iR 3 [(100,ZE n),(101,Z0 us),(102,Y4 s)] [2,1] [b1,b2] (ZA [] (Nk n us s (ih:=ob)) (ir 1 [(6,.i (Uc n us s.op s.num s.kids))] (ie ?_))))
     exact Zc (r2 [] [.i (Uc n us s.op s.num s.kids)] ⟨rfl,rfl⟩ (li (by first|rfl|( grind)|(have q:=U3 (ds:=n.decls) (us:=us) (args:=s.args) om; grind)|(have q:=U4 (ds:=n.decls) (us:=us) (args:=s.args) om ‹s.args[0]? = some _› om; grind)|(have q:=VV (ds:=n.decls) (us:=us) (args:=s.args) om ‹s.args[0]? = some _› om ‹us[_]? = some _›; grind))))
    refine ak (ar (ir 1 [(6,.i (-1))] (ie ?_)))
    exact Zc (r2 [] [.i (-1)] ⟨rfl,rfl⟩ (li (by first|rfl|( grind)|(have q:=U3 (ds:=n.decls) (us:=us) (args:=s.args) om; grind)|(have q:=U4 (ds:=n.decls) (us:=us) (args:=s.args) om ‹s.args[0]? = some _› om; grind)|(have q:=VV (ds:=n.decls) (us:=us) (args:=s.args) om ‹s.args[0]? = some _› om ‹us[_]? = some _›; grind))))
   refine ar (Z1 2 104 (.b (s.op==8)) (ie (ac (s.op==8) Zh (fun FW=>?_) (fun FW=>?_))))
   ·refine ar (Y2 5 (.n 106 (Z0 us) (.n 108 (Z0 s.args) (.n 110 (.i s.num) .r))) [0,0] [b2,b2] (iL (Z8 [s.num]) 1 1 ?_))
    intro v4
    refine Z5 0 (.n 111 (Z0 [s.num]) (.p .r)) (ZA [] (A7 us s.args [s.num] (hl_tys:=(by first|(simp;done)|(have:=VH Xu s.num;omega)))) (ie (ac (XR us s.args [s.num]) Iff.rfl (fun FX=>?_) (fun FX=>?_))))
    ·refine ar (iR 3 [(113,ZE n),(114,Z0 us),(115,Y4 s)] [2,1] [b1,b2] (ZA [] (Nk n us s (ih:=ob)) (ir 1 [(6,.i (Uc n us s.op s.num s.kids))] (ie ?_))))
     exact Zc (r2 [] [.i (Uc n us s.op s.num s.kids)] ⟨rfl,rfl⟩ (li (by first|rfl|( grind)|(have q:=U3 (ds:=n.decls) (us:=us) (args:=s.args) om; grind)|(have q:=U4 (ds:=n.decls) (us:=us) (args:=s.args) om ‹s.args[0]? = some _› om; grind)|(have q:=VV (ds:=n.decls) (us:=us) (args:=s.args) om ‹s.args[0]? = some _› om ‹us[_]? = some _›; grind))))
    refine ak (ar (ir 1 [(6,.i (-1))] (ie ?_)))
    exact Zc (r2 [] [.i (-1)] ⟨rfl,rfl⟩ (li (by first|rfl|( grind)|(have q:=U3 (ds:=n.decls) (us:=us) (args:=s.args) om; grind)|(have q:=U4 (ds:=n.decls) (us:=us) (args:=s.args) om ‹s.args[0]? = some _› om; grind)|(have q:=VV (ds:=n.decls) (us:=us) (args:=s.args) om ‹s.args[0]? = some _› om ‹us[_]? = some _›; grind))))
   refine aq (ar (Z1 2 117 (.b (s.op==9)) (ie (XI (fun F h=>F=[(1,Z0 us),(3,.p b1 0),(5,.p b2 0),(40,.i s.op),(117,.b ((s.op==9)||(s.op==10)))]/\h=[.obj b2 (Yg s),.obj b1 (ZU n)]) ?_ ?_))))
   ·refine ac (s.op==9) Zh (fun K3=>?_) (fun K3=>?_)
    ·refine ak ?_
     exact ZV ⟨rfl,rfl⟩ (wk [0,0] (fq (fc (x:=.b (s.op==9)) (lb (by first|rfl|(rw [Zm K3])|(rw [Zb K3])|(simp [K3];done)|(rw [Xm];simp [K3];done)|omega)) fl)))
    refine az (ir 2 [(1,Z0 us),(3,.p b1 0),(5,.p b2 0),(40,.i s.op),(117,.b (s.op==10))] (ie ?_))
    exact ZV ⟨rfl,rfl⟩ (wk [0,0] (fq (fc (x:=.b (s.op==10)) (lb (by first|rfl|(rw [Zm K3])|(rw [Zb K3])|(simp [K3];done)|(rw [Xm];simp [K3];done)|omega)) fl)))
   rintro F h ⟨rfl,rfl⟩
   refine ac ((s.op==9)||(s.op==10)) (p:=(s.op=9)∨(s.op=10)) (Yh Zh Zh) (fun SD=>?_) (fun SD=>?_)
   ·refine ar (iR 3 [(120,ZE n),(121,Z0 us),(122,Y4 s)] [1,0] [b1,b2] (ZA [] (Z5c n us s) (ir 1 [(6,.i (TB n us s.op s.num s.args))] (ie ?_))))
    exact Zc (r2 [] [.i (TB n us s.op s.num s.args)] ⟨rfl,rfl⟩ (li (by first|rfl|( grind)|(have q:=U3 (ds:=n.decls) (us:=us) (args:=s.args) om; grind)|(have q:=U4 (ds:=n.decls) (us:=us) (args:=s.args) om ‹s.args[0]? = some _› om; grind)|(have q:=VV (ds:=n.decls) (us:=us) (args:=s.args) om ‹s.args[0]? = some _› om ‹us[_]? = some _›; grind))))
   refine ar (ir 2 [(1,Z0 us),(3,.p b1 0),(5,.p b2 0),(40,.i s.op),(124,.b (s.op==11))] (ie (ac (s.op==11) Zh (fun SF=>?_) (fun SF=>?_))))
   ·refine aD 26 (Y6 24 26 [0,1] (.n 127 (Z0 s.args) .r) [0] [b2] (dw 2 (Yd s.args) (ZY 21 23 [3,4] 130 (.b ((s.args.length:Int)==2)) (db (b:=((s.args.length:Int)==2)) 130 (fun WC=>?_) (fun WC=>?_)))))
    ·have UE:(s.args.length:Int)=2:=(Zh).1 WC
     refine Y6 19 21 [5,6] (.n 132 (Z0 s.args) (.k (.d .r))) [0] [b2] ?_
     obtain ⟨x1,Z3⟩:=Zs (xs:=s.args) (j:=0) om
     refine dx 7 (Zo none 0 1 (Y3 Z3)) (ZZ 16 18 [8,9] (.n 134 (.i x1) (.n 135 (Z0 us) .r)) (dw 10 (Yd us) (da 11 (((us.length:Int)-1)) (((us.length:Int))-(1)) (Z9 12 (Ys 12 [] [] [] (Uv x1 0 ((us.length:Int)-1)) (ZY 11 13 [13,14] 140 (.b (decide (0<=x1/\x1<=((us.length:Int)-1)))) (db (b:=(decide (0<=x1/\x1<=((us.length:Int)-1)))) 140 (fun WU=>?_) (fun WU=>?_))))))))
     ·have Ur:0<=x1/\x1<=((us.length:Int)-1):=(dq).1 WU
      refine Y6 6 11 [15,16,17,18,19] (.n 142 (Zd n.decls) (.n 143 (Z0 us) (.n 145 (Z0 s.args) (.k (.d .r))))) [1,0] [b1,b2] (dx 20 (Zo none 0 1 (Y3 Z3)) (ZY 4 5 [21] 147 (.i x1) ?_))
      obtain ⟨x2,Zv⟩:=Zs (xs:=us) (j:=x1.toNat) om
      refine dx 22 (Zo none x1 1 (Y3 Zv)) (ZY 2 3 [23] 149 (.i x2) (Z9 24 (Ys 24 [] [] [] (CJ n.decls x2) (ZY 0 1 [25] 151 (.b (X5 n.decls x2)) (de (ac (X5 n.decls x2) Iff.rfl (fun SG=>?_) (fun SG=>?_)))))))
      ·refine aD 14 (Y6 9 14 [0,1,2,3,4] (.n 153 (Zd n.decls) (.n 154 (Z0 us) (.n 156 (Z0 s.args) .r))) [1,0] [b1,b2] (dx 5 (Zo none 0 1 (Y3 Z3)) (ZY 7 8 [6] 158 (.i x1) (dx 7 (Zo none x1 1 (Y3 Zv)) (ZY 5 6 [8] 160 (.i x2) (da 9 ((x2-1)) ((x2)-(1)) (hb:=(by have:=G6 ‹X5 n.decls _=true›;omega)) ?_))))))
       obtain ⟨x3,YT⟩:=Zs (xs:=n.decls) (j:=(x2-1).toNat) (by have:=G6 ‹X5 n.decls _=true›;omega)
       have had:=Oy (us:=us) (args:=s.args) om ‹s.args[0]? = some _› om ‹us[_]? = some _› ‹X5 n.decls _=true› YT
       refine dx 10 (A8 (es:=YV n.decls) (hv:=none) (j:=(x2-1)) (sz:=3) (y:=Ui x3) kr (by have:=G6 ‹X5 n.decls _=true›;omega) (Vi YT) rfl) (ZY 2 3 [11] 163 (Ui x3) (Z9 12 (dA 12 [0,1] [b2,b1] [.i 0,.i 0,nl] ?_)))
       intro b3
       refine Z9 13 (YK 13 0 [] [] b3 (Ws x3) (de (aD 8 (Y6 5 8 [0,1,2] (.n 164 (Z0 us) (.n 166 (Z0 s.args) .r)) [1] [b2] (dx 3 (K9 (es:=Z8 s.args) (hv:=none) (l:=1) (m:=(((Z8 s.args).length:Nat):Int)) (sz:=1) (es':=Z8 (s.args.drop 1)) kr om (by simp<;>omega) (by simp<;>omega) (YD _) (by first|(simp only [VL,Vl,Kr,J1];done)|(simp only [VL,Vl,Kr,J1];rfl)|(simp [Kr,J1];done))) (Y6 2 4 [4,5] (.n 169 (.i x3.frm) .r) [0] [b3] (Z9 6 (dL 6 [1] [b2] (Z8 [x3.frm]) 1 1 ?_))))))))
       intro v5
       refine ZZ 1 1 [] (.n 170 (Z0 [x3.frm]) (.p .r)) (Z9 7 (Ys 7 [] [] [] (A7 us (s.args.drop 1) [x3.frm] (hl_tys:=(by first|(simp;done)|(have:=VH Xu s.num;omega)))) (de (ac (XR us (s.args.drop 1) [x3.frm]) Iff.rfl (fun L9=>?_) (fun L9=>?_)))))
       ·refine ar (iR 3 [(6,.i x3.to_)] [1] [b3] (ie ?_))
        exact Zc (r2 [] [.i x3.to_] ⟨rfl,rfl⟩ (li (by first|rfl|(clear Z3 Zv YT;grind)|(have q:=U3 (ds:=n.decls) (us:=us) (args:=s.args) om;clear Z3 Zv YT;grind)|(have q:=U4 (ds:=n.decls) (us:=us) (args:=s.args) om ‹s.args[0]? = some _› om;clear Z3 Zv YT;grind)|(have q:=VV (ds:=n.decls) (us:=us) (args:=s.args) om ‹s.args[0]? = some _› om ‹us[_]? = some _›;clear Z3 Zv YT;grind))))
       refine ak (ar (ir 1 [(6,.i (-1))] (ie ?_)))
       exact Zc (r2 [] [.i (-1)] ⟨rfl,rfl⟩ (li (by first|rfl|(clear Z3 Zv YT;grind)|(have q:=U3 (ds:=n.decls) (us:=us) (args:=s.args) om;clear Z3 Zv YT;grind)|(have q:=U4 (ds:=n.decls) (us:=us) (args:=s.args) om ‹s.args[0]? = some _› om;clear Z3 Zv YT;grind)|(have q:=VV (ds:=n.decls) (us:=us) (args:=s.args) om ‹s.args[0]? = some _› om ‹us[_]? = some _›;clear Z3 Zv YT;grind))))
      refine ak (ar (ir 1 [(6,.i (-1))] (ie ?_)))
      exact Zc (r2 [] [.i (-1)] ⟨rfl,rfl⟩ (li (by first|rfl|(clear Z3 Zv;grind)|(have q:=U3 (ds:=n.decls) (us:=us) (args:=s.args) om;clear Z3 Zv;grind)|(have q:=U4 (ds:=n.decls) (us:=us) (args:=s.args) om ‹s.args[0]? = some _› om;clear Z3 Zv;grind)|(have q:=VV (ds:=n.decls) (us:=us) (args:=s.args) om ‹s.args[0]? = some _› om ‹us[_]? = some _›;clear Z3 Zv;grind))))
     have Tm:¬(0<=x1/\x1<=((us.length:Int)-1)):=ZG dq WU
     refine ZZ 0 11 [15,16,17,18,19,20,21,22,23,24,25] (.n 151 (.b false) (.k (.d .r))) (de (WS (ak (ar (ir 1 [(6,.i (-1))] (ie ?_))))))
     exact Zc (r2 [] [.i (-1)] ⟨rfl,rfl⟩ (li (by first|rfl|(clear Z3;grind)|(have q:=U3 (ds:=n.decls) (us:=us) (args:=s.args) om;clear Z3;grind)|(have q:=U4 (ds:=n.decls) (us:=us) (args:=s.args) om ‹s.args[0]? = some _› om;clear Z3;grind)|(have q:=VV (ds:=n.decls) (us:=us) (args:=s.args) om ‹s.args[0]? = some _› om ‹us[_]? = some _›;clear Z3;grind))))
    have T5:¬((s.args.length:Int)=2):=ZG Zh WC
    refine ZZ 0 21 [5,6,7,8,9,10,11,12,13,14,15,16,17,18,19,20,21,22,23,24,25] (.n 151 (.b false) (.k (.d .r))) (de (WS (ak (ar (ir 1 [(6,.i (-1))] (ie ?_))))))
    exact Zc (r2 [] [.i (-1)] ⟨rfl,rfl⟩ (li (by first|rfl|( grind)|(have q:=U3 (ds:=n.decls) (us:=us) (args:=s.args) om; grind)|(have q:=U4 (ds:=n.decls) (us:=us) (args:=s.args) om ‹s.args[0]? = some _› om; grind)|(have q:=VV (ds:=n.decls) (us:=us) (args:=s.args) om ‹s.args[0]? = some _› om ‹us[_]? = some _›; grind))))
   refine aq (ar (Z1 2 174 (.b (s.op==14)) (ie (XI (fun F h=>F=[(1,Z0 us),(3,.p b1 0),(5,.p b2 0),(174,.b ((s.op==14)||((s.op==15)||((s.op==16)||(s.op==17)))))]/\h=[.obj b2 (Yg s),.obj b1 (ZU n)]) ?_ ?_))))
   ·refine ac (s.op==14) Zh (fun UR=>?_) (fun UR=>?_)
    ·refine ak ?_
     exact ZV ⟨rfl,rfl⟩ (wk [0,0] (fw (fr (fc (x:=.b (s.op==14)) (lb (by first|rfl|(rw [Zm UR])|(rw [Zb UR])|(simp [UR];done)|(rw [Xm];simp [UR];done)|omega)) fl))))
    refine ar (ir 2 [(1,Z0 us),(3,.p b1 0),(5,.p b2 0),(40,.i s.op),(174,.b (s.op==15))] (ie (ac (s.op==15) Zh (fun Jd=>?_) (fun Jd=>?_))))
    ·refine ak ?_
     exact ZV ⟨rfl,rfl⟩ (wk [0,0] (fw (fr (fc (x:=.b (s.op==15)) (lb (by first|rfl|(rw [Zm UR])|(rw [Zb UR])|(simp [UR,Jd];done)|(rw [Xm];simp [UR,Jd];done)|omega)) fl))))
    refine ar (Z5 2 (.n 174 (.b (s.op==16)) (.w .z)) (ie (ac (s.op==16) Zh (fun Ce=>?_) (fun Ce=>?_))))
    ·refine ak ?_
     exact ZV ⟨rfl,rfl⟩ (wk [0,0] (fw (fr (fc (x:=.b (s.op==16)) (lb (by first|rfl|(rw [Zm UR])|(rw [Zb UR])|(simp [UR,Jd,Ce];done)|(rw [Xm];simp [UR,Jd,Ce];done)|omega)) fl))))
    refine az (Z5 2 (.n 174 (.b (s.op==17)) (.d .r)) (ie ?_))
    exact ZV ⟨rfl,rfl⟩ (wk [0,0] (fw (fr (fc (x:=.b (s.op==17)) (lb (by first|rfl|(rw [Zm UR])|(rw [Zb UR])|(simp [UR,Jd,Ce];done)|(rw [Xm];simp [UR,Jd,Ce];done)|omega)) fl))))
   rintro F h ⟨rfl,rfl⟩
   refine ac ((s.op==14)||((s.op==15)||((s.op==16)||(s.op==17)))) (p:=(s.op=14)∨((s.op=15)∨((s.op=16)∨(s.op=17)))) (Yh Zh (Yh Zh (Yh Zh Zh))) (fun SH=>?_) (fun SH=>?_)
   ·refine ar (iR 3 [(179,ZE n),(180,Z0 us),(181,Y4 s)] [1,0] [b1,b2] (ZA [] (Z52 n us s) (ir 1 [(6,.i (Th n.decls us s.op s.args))] (ie ?_))))
    exact Zc (r2 [] [.i (Th n.decls us s.op s.args)] ⟨rfl,rfl⟩ (li (by first|rfl|( grind)|(have q:=U3 (ds:=n.decls) (us:=us) (args:=s.args) om; grind)|(have q:=U4 (ds:=n.decls) (us:=us) (args:=s.args) om ‹s.args[0]? = some _› om; grind)|(have q:=VV (ds:=n.decls) (us:=us) (args:=s.args) om ‹s.args[0]? = some _› om ‹us[_]? = some _›; grind))))
   refine ak (ar (ir 1 [(6,.i (-1))] (ie ?_)))
   exact Zc (r2 [] [.i (-1)] ⟨rfl,rfl⟩ (li (by first|rfl|( grind)|(have q:=U3 (ds:=n.decls) (us:=us) (args:=s.args) om; grind)|(have q:=U4 (ds:=n.decls) (us:=us) (args:=s.args) om ‹s.args[0]? = some _› om; grind)|(have q:=VV (ds:=n.decls) (us:=us) (args:=s.args) om ‹s.args[0]? = some _› om ‹us[_]? = some _›; grind))))
  refine ir 1 [(1,Z0 us),(3,.p b1 0),(5,.p b2 0),(17,.b ((s.num != 0)&&(!WM s.op)))] (ib (b:=((s.num != 0)&&(!WM s.op))) 17 (fun WH=>?_) (fun WH=>?_))
  ·have Qz:(s.num≠0)/\(¬(WM s.op=true)):=((YE Yc (Yt Iff.rfl))).1 WH
   refine Z5 5 (.n 22 (.b true) (.d (.k (.k (.k .z))))) ?_
   exact YG (wk [0,0] (fw (fr (Zr true WH fl)))) hj2
  have QA:¬((s.num≠0)/\(¬(WM s.op=true))):=ZG (YE Yc (Yt Iff.rfl)) WH
  refine Y2 2 (.n 18 (Z0 us) (.n 19 (Y4 s) (.w .z))) [0] [b2] (ZA [] (Z5n us s) (Z1 2 22 (.b (!VK us s.op s.into)) ?_))
  exact YG (wk [0,0] (fw (fr (Zr (!VK us s.op s.into) WH fl)))) hj2
 refine iR 4 [(1,Z0 us),(3,.p b1 0),(5,.p b2 0),(11,.b (s.num != 0))] [0] [b2] (ib (b:=(s.num != 0)) 11 (fun WI=>?_) (fun WI=>?_))
 ·have Je:s.num≠0:=(Yc).1 WI
  refine Y2 2 (.n 13 (.i s.op) (.w .z)) [0] [b2] (ZA [] (Z53 s.op) (Z1 2 16 (.b (!WM s.op)) ?_))
  exact YG (wk [0,0] (fw (fr (Zr (!WM s.op) WI fl)))) hj1
 have QB:¬(s.num≠0):=ZG Yc WI
 refine Z5 5 (.n 16 (.b false) (.d (.k (.k (.k .z))))) ?_
 exact YG (wk [0,0] (fw (fr (Zr false WI fl)))) hj1
theorem Z4y (n:Zy) (us:List Int) (b:Z7) (hn:Xe n:=by exact ob) (hb:us.length+4*b.sz<=1000000000:=by exact ob) (ih:∀(s:Z4) (us:List Int),(s.sz<b.sz)->(us.length+4*s.sz<=1000000000)->Zj Tryz.prog 98 [ZE n,Z0 us,Y4 s] [] (fun r h=>r=.i (ZT n us s)/\h=[])):Zj Tryz.prog 60 [ZE n,Z0 us,Zx b] [] (fun r h=>r=.i (YR n us b)/\h=[]):=by
 have hbz:=Vx b
 have hbe:=D4 n us b
 refine ZK 52 Tryz.func60 (ar (iA (ZU n) ?_))
 intro b1
 refine iA (Yn b) ?_
 intro b2
 refine ir 1 [(1,Z0 us),(3,.p b1 0),(5,.p b2 0)] (ie (ar (Z1 1 10 (Z0 us) (ic [] (VJ us) ?_))))
 rintro _ _ ⟨v1,rfl,rfl⟩
 refine Z1 1 7 (Z6 us v1) (ie (aq (ar (Z1 1 8 (.i 0) (ie (ab 0 (al (fun m F h=>∃(k:Nat) (vs:List Int) (v:Value),(k<=b.steps.length)/\(vs.length<=us.length+k)/\(V7 n (b.steps.drop k) vs=V7 n b.steps us)/\F=[(3,.p b1 0),(5,.p b2 0),(7,Z6 vs v),(8,.i k)]/\h=[.obj b2 (Yn b),.obj b1 (ZU n),.tail v 1]/\m=b.steps.length-k) _ _ _ ⟨0,us,v1,ob,ob,ob,rfl,rfl,rfl⟩ (wk [1,1,0] (fw (fr (Ye fl)))) ?_)))))))
 rintro m F h ⟨k,vs,v,Ym,Zp,Zz,rfl,rfl,rfl⟩
 refine aq (ar (Y1 3 12 (.i k) 14 (Yj b.steps) [0] [b2] (iw (VE b.steps) (Z1 1 16 (.b (decide ((k:Int)<(b.steps.length:Int)))) (ie (ZM ((k:Int)<(b.steps.length:Int)) (fun Ze=>?_) (fun Ze=>?_)))))))
 ·refine ak (aq (ab 1 (aD 9 (Y6 4 9 [0,1,2,3,4] (.n 19 (ZE n) (.n 20 (Z6 vs v) (.n 22 (Yj b.steps) (.n 23 (.i k) .r)))) [1,0] [b1,b2] ?_))))
  obtain ⟨x1,Z3⟩:=Zs (xs:=b.steps) (j:=k) om
  have hss:=AS Z3
  refine dx 5 (Zo none (k:Int) 5 (Wy Z3)) (ZZ 2 3 [6] (.n 20 (Z0 vs) (.n 25 (Y4 x1) (.q 24 (.k (.d .r))))) (Z9 7 (Ys 7 [] [] [] (ih x1 vs ob ob) (ZY 0 1 [8] 9 (.i (ZT n vs x1)) (de (aq (ar (Z1 2 28 (.b (decide ((ZT n vs x1)<0))) (ie (ZM ((ZT n vs x1)<0) (fun Zk=>?_) (fun Zk=>?_)))))))))))
  ·refine ar (ir 1 [(6,.i (-1))] (ie ?_))
   rw [Yb Z3] at Zz
   exact Zc (r2 [] [.i (-1)] ⟨rfl,rfl⟩ (li (by clear Z3;first|rfl|omega|grind [V7])))
  refine ak (ar (Y1 3 30 (Yj b.steps) 31 (.i k) [0] [b2] (Zq (Zo none (k:Int) 5 (Wy Z3)) (Z1 2 34 (.i x1.op) (ZA [] (QN x1.op) (ie (JB (fun F h=>∃(w:Value),F=[(3,.p b1 0),(5,.p b2 0),(7,Z6 (if Xf x1.op=true then vs++[ZT n vs x1] else vs) w),(8,.i k)]/\h=[.obj b2 (Yn b),.obj b1 (ZU n),.tail w 1]) (fun _ _=>rfl) ?_ ?_)))))))
  ·refine ac (Xf x1.op) Iff.rfl (fun ZI=>?_) (fun ZI=>?_)
   ·refine az (ir 2 [(3,.p b1 0),(5,.p b2 0),(8,.i k),(36,Z6 vs v),(37,.i (ZT n vs x1))] (iL (Z8 [ZT n vs x1]) 1 1 ?_))
    intro v2
    refine Z5 0 (.n 38 (Z0 [ZT n vs x1]) (.p .r)) (ip 3 (Z8 (vs++[ZT n vs x1])) (Z8 vs) (Z8 [ZT n vs x1]) v none 1 (YD _) (YD _) (XY _) (by simp<;>omega) (by simp [XX,Z8]) ?_)
    intro v3
    refine Z1 1 7 (Z6 (vs++[ZT n vs x1]) v3) (ie ?_)
    exact ZV ⟨v3,rfl,rfl⟩ (wk [2,2,0] (fw (fc (x:=Z6 (vs++[ZT n vs x1]) v3) (Zg.slh _ (Yv Z8 (by first|rfl|(rw [Zm ZI])|(rw [Zb ZI])|(simp [ZI];done)|(rw [Xm];simp [ZI];done)|omega))) fl)))
   refine ak ?_
   exact ZV ⟨v,rfl,rfl⟩ (ZL 3 (fw (fc (x:=Z6 vs v) (Zg.slh _ (Yv Z8 (by first|rfl|(rw [Zm ZI])|(rw [Zb ZI])|(simp [ZI];done)|(rw [Xm];simp [ZI];done)|omega))) fl)))
  rintro F h ⟨w,rfl,rfl⟩
  refine az (ir 1 [(3,.p b1 0),(5,.p b2 0),(7,Z6 (if Xf x1.op=true then vs++[ZT n vs x1] else vs) w),(17,.i k)] (ZO k (Z1 1 8 (.i (k+1:Nat)) (ie ?_))))
  have hdr:=Yb Z3
  exact ZQ ⟨k+1,(if Xf x1.op=true then vs++[ZT n vs x1] else vs),w,ob,(by split<;>(try simp)<;>omega),(by rw [hdr] at Zz;clear hdr Z3;grind [V7]),rfl,rfl,rfl⟩ (ZL 3 (fw (fr (ZW k fl))))
 refine ax 0 (aq (ar (Y1 3 41 (.i b.result) 42 (Z6 vs v) [0] [b2] (iw (Yd vs) (ia (((vs.length:Int)-1)) (((vs.length:Int))-(1)) (ZA [] (Uv b.result 0 ((vs.length:Int)-1)) (Z1 1 46 (.b (!(decide (0<=b.result/\b.result<=((vs.length:Int)-1))))) (ie (ac (!(decide (0<=b.result/\b.result<=((vs.length:Int)-1)))) (p:=¬(0<=b.result/\b.result<=((vs.length:Int)-1))) (Yt dq) (fun Yi=>?_) (fun Yi=>?_))))))))))
 ·refine ar (ir 1 [(6,.i (-1))] (ie ?_))
  try rw [Xx (xs:=b.steps) (k:=k) om] at Zz
  exact Zc (r2 [] [.i (-1)] ⟨rfl,rfl⟩ (li (by rw [hbe,<-Zz];show _=(Xw vs b.result).getD (-1);rw [Q9 Yi];rfl)))
 refine ak (ar (iR 3 [(47,Z6 vs v),(49,.i b.result)] [0] [b2] ?_))
 obtain ⟨x2,Zv⟩:=Zs (xs:=vs) (j:=b.result.toNat) om
 refine Zq (Zo (some v) b.result 1 (Y3 Zv)) (ir 2 [(6,.i x2)] (ie ?_))
 try rw [Xx (xs:=b.steps) (k:=k) om] at Zz
 exact Zc (r2 [] [.i x2] ⟨rfl,rfl⟩ (li (by rw [hbe,<-Zz];show _=(Xw vs b.result).getD (-1);rw [Tw om Zv];rfl)))
theorem Z5j (b:Z7) (l:Int) (hb:b.sz<=1000000000) (hl:0<=l/\l<=600) (ih:∀(b2:Z7) (l:Int),(b2.sz<b.sz)->(0<=l/\l<=600)->Zj Tryz.prog 97 [Zx b2,.i l] [] (fun r h=>r=.i (W1 b2 l)/\h=[])):Zj Tryz.prog 97 [Zx b,.i l] [] (fun r h=>r=.i (W1 b l)/\h=[]):=by
 have hbz:=Vx b
 have hbe:=LM b l
 refine ZK 43 Tryz.func97 (ar (iA (Yn b) ?_))
 intro b1
 refine ir 1 [(1,.i l),(2,.p b1 0)] (ie (aq (ar (Z1 1 5 (.i 0) (ie (ab 0 (al (fun m F h=>∃(k:Nat) (q:Int),(k<=b.steps.length)/\(0<=q/\q<=600)/\(T9 (b.steps.drop k) q=T9 b.steps l)/\F=[(1,.i q),(2,.p b1 0),(5,.i k)]/\h=[.obj b1 (Yn b)]/\m=b.steps.length-k) _ _ _ ⟨0,l,ob,ob,ob,rfl,rfl,rfl⟩ (wk [0] (fw (Ye fl))) ?_)))))))
 rintro m F h ⟨k,q,Ym,Zp,Zz,rfl,rfl,rfl⟩
 refine aq (ar (Y1 3 7 (.i k) 9 (Yj b.steps) [0] [b1] (iw (VE b.steps) (Z1 1 11 (.b (decide ((k:Int)<(b.steps.length:Int)))) (ie (ZM ((k:Int)<(b.steps.length:Int)) (fun Ze=>?_) (fun Ze=>?_)))))))
 ·refine ak (aq (ab 1 (aq (ar (Z1 2 15 (.b (decide (q<1))) (ie (ZM (q<1) (fun Zk=>?_) (fun Zk=>?_))))))))
  ·refine ar (ir 1 [(4,.i (-1))] (ie ?_))
   try rw [Xx (xs:=b.steps) (k:=k) om] at Zz
   obtain ⟨x1,Z3⟩:=Zs (xs:=b.steps) (j:=k) om
   rw [Yb Z3] at Zz
   clear Z3
   exact Zc (r2 [] [.i (-1)] ⟨rfl,rfl⟩ (li (by first|rfl|omega|grind [T9])))
  obtain ⟨s1,hxs1⟩:=Zs (xs:=b.steps) (j:=k) om
  have hss:=KJ hxs1
  have hkz:=T8 s1
  refine ak (ar (Z1 1 16 (.i q) (ia ((q-1)) ((q)-(1)) (ir 1 [(1,.i (q-1)),(2,.p b1 0),(5,.i k)] (ie (ar (Z1 1 6 (.i 0) (ie (ab 2 (al (fun m F h=>∃(j:Nat) (j2:Int),(j<=s1.kids.length)/\(0<=j2/\j2<=600)/\(To (s1.kids.drop j) j2=To s1.kids (q-1))/\F=[(1,.i j2),(2,.p b1 0),(5,.i k),(6,.i j)]/\h=[.obj b1 (Yn b)]/\m=s1.kids.length-j) _ _ _ ⟨0,(q-1),ob,ob,ob,rfl,rfl,rfl⟩ (wk [0] (fw (fr (Ye fl)))) ?_))))))))))
  rintro m F h ⟨j,j2,Uj,We,XJ,rfl,rfl,rfl⟩
  refine aq (ar (Y2 4 (.n 18 (.i j) (.n 20 (Yj b.steps) (.n 21 (.i k) .r))) [0] [b1] (Zq (Zo none (k:Int) 5 (Wy hxs1)) (Z1 2 24 (Yz s1.kids) (iw (VX s1.kids) (Z1 1 26 (.b (decide ((j:Int)<(s1.kids.length:Int)))) (ie (ZM ((j:Int)<(s1.kids.length:Int)) (fun ZI=>?_) (fun ZI=>?_)))))))))
  ·refine ak (aq (ab 3 (ar (Y1 3 30 (Yj b.steps) 31 (.i k) [0] [b1] (Zq (Zo none (k:Int) 5 (Wy hxs1)) (Yo 3 34 (Yz s1.kids) 35 (.i j) ?_))))))
   obtain ⟨x1,Z3⟩:=Zs (xs:=s1.kids) (j:=j) om
   have hks:=T7 Z3
   have hle:=Gl.2 x1 j2 om
   refine Zq (Zo none (j:Int) 2 (UA Z3)) (Yo 2 37 (Zx x1) 38 (.i j2) (ZA [] (ih x1 j2 ob ob) (ir 1 [(1,.i (W1 x1 j2)),(2,.p b1 0),(5,.i k),(6,.i j)] (ie (ar (Z1 2 41 (.b (decide ((W1 x1 j2)<0))) (ie (ZM ((W1 x1 j2)<0) (fun Yi=>?_) (fun Yi=>?_)))))))))
   ·refine ar (ir 1 [(4,.i (-1))] (ie ?_))
    rw [Yb hxs1] at Zz
    rw [Yb Z3] at XJ
    have hls:=DU s1 (q-1)
    exact Zc (r2 [] [.i (-1)] ⟨rfl,rfl⟩ (li (by clear Z3 hxs1;first|rfl|omega|grind [T9,To])))
   refine ak (az (Z1 1 27 (.i j) (ZO j (Z5 1 (.n 6 (.i (j+1:Nat)) (.p (.d (.d (.k (.k (.k .z))))))) (ie ?_)))))
   have hdr:=Yb Z3
   exact ZQ ⟨j+1,(W1 x1 j2),ob,ob,(by rw [hdr] at XJ;clear hdr Z3 hxs1;grind [To]),rfl,rfl,rfl⟩ (wk [0] (fw (fr (ZW j fl))))
  refine ax 2 (az (Z1 1 12 (.i k) (ZO k (ir 1 [(1,.i j2),(2,.p b1 0),(5,.i (k+1:Nat))] (ie ?_)))))
  rw [Xx om] at XJ
  have hls:=DU s1 (q-1)
  rw [To] at XJ
  have hdr:=Yb hxs1
  exact ZQ ⟨k+1,j2,ob,ob,(by rw [hdr] at Zz;clear hdr hxs1;grind [T9]),rfl,rfl,rfl⟩ (wk [0] (fw (ZW k fl)))
 refine ax 0 (ar (ir 2 [(4,.i q)] (ie ?_)))
 try rw [Xx (xs:=b.steps) (k:=k) om] at Zz
 exact Zc (r2 [] [.i q] ⟨rfl,rfl⟩ (li (by first|rfl|omega|grind [T9])))
theorem Z5i (b:Z7) (l:Int) (hb:b.sz<=1000000000) (hl:0<=l/\l<=600):Zj Tryz.prog 97 [.agg [.sl (Zt b.steps) none,.i b.result],.i l] [] (fun r h=>r=.i (W1 b l)/\h=[]):=by
 have key:∀m:Nat,∀(b:Z7) (l:Int),b.sz<=m->b.sz<=1000000000->(0<=l/\l<=600)->Zj Tryz.prog 97 [.agg [.sl (Zt b.steps) none,.i b.result],.i l] [] (fun r h=>r=.i (W1 b l)/\h=[]):=by
  intro m
  induction m with
  | zero=>intro b l h;have:=b.sz_pos;omega
  | succ m ih=>intro b l h1 h2 h3;exact Z5j b l h2 h3 fun b2 l2 k1 k2=>ih b2 l2 om om k2
 exact key b.sz b l (X7 _) hb hl
theorem Z4x (n:Zy) (hn:Xe n) (m:Nat):∀(b:Z7) (us:List Int),(b.sz<=m)->(us.length+4*b.sz<=1000000000)->Zj Tryz.prog 60 [ZE n,Z0 us,Zx b] [] (fun r h=>r=.i (YR n us b)/\h=[]):=by
 induction m with
 | zero=>intro b us h;have:=b.sz_pos;omega
 | succ m ih=>intro b us h1 h2;exact Z4y n us b hn h2 fun s us2 k1 k2=>Nn n us2 s hn k2 fun b2 us3 q1 q2=>ih b2 us3 om q2
theorem Nc (n:Zy) (us:List Int) (b:Z7) (hn:Xe n) (hb:us.length+4*b.sz<=1000000000):Zj Tryz.prog 60 [ZE n,Z0 us,Zx b] [] (fun r h=>r=.i (YR n us b)/\h=[]):=
 Z4x n hn b.sz b us (X7 _) hb
theorem H0 (n:Zy) (us:List Int) (s:Z4) (hn:Xe n) (hb:us.length+4*s.sz<=1000000000):Zj Tryz.prog 98 [ZE n,Z0 us,Y4 s] [] (fun r h=>r=.i (ZT n us s)/\h=[]):=
 Nn n us s hn hb fun b2 us3 _ q2=>Nc n us3 b2 hn q2
theorem Z5k (b:Z7) (hb:b.sz<=1000000000:=by exact ob):Zj Tryz.prog 59 [Zx b] [] (fun r h=>r=.i (Vd b)/\h=[]):=by
 have hle:=Gl.2 b 600 om
 refine ZK 10 Tryz.func59 (ar (iA (Yn b) ?_))
 intro b1
 refine ir 1 [(1,.p b1 0)] (ie (ar (iR 1 [(4,Zx b)] [0] [b1] (ZA [] (Z5i b 600 ob ob) (ir 1 [(3,.i (W1 b 600))] (ie (aq (ar (Z1 2 7 (.b (decide ((W1 b 600)<0))) (ie (ZM ((W1 b 600)<0) (fun Ze=>?_) (fun Ze=>?_))))))))))))
 ·refine ar (ir 1 [(2,.i (-1))] (ie ?_))
  exact Zc (r2 [] [.i (-1)] ⟨rfl,rfl⟩ (li (by first|rfl|omega|grind [Vd])))
 refine ak (ar (ir 1 [(8,.i (W1 b 600))] (ia ((600-(W1 b 600))) ((600)-(W1 b 600)) (ir 1 [(2,.i (600-(W1 b 600)))] (ie ?_)))))
 exact Zc (r2 [] [.i (600-(W1 b 600))] ⟨rfl,rfl⟩ (li (by first|rfl|omega|grind [Vd])))
theorem J8 (z:Int) :Zj Tryz.prog 190 [.i z] [] (fun r h=>r=ZF (Z2.mk 0 z [])/\h=[]):=by
 refine ZK 6 Tryz.func190 (ar (iA [.i 0,.i 0,nl] ?_))
 intro b1
 refine ie (ar (ir 1 [(2,.p b1 0),(3,.i z)] (iL (Yp []) 0 3 ?_)))
 intro v1
 refine Z1 1 5 (.agg [.i 0,.i z,XQ [] v1]) (ZH 1 b1 [.i 0,.i z,XQ [] v1] (ie ?_))
 exact Zc (r3 [] [.agg [.i 0,.i z,XQ [] v1]] [0] [(b1,b1)] ⟨rfl,rfl⟩ (Zg.agg (.cons li (.cons li (.cons (Zg.sl _ (Yv Yp rfl)) .nil)))))
theorem Tl (z:Int) :Zj Tryz.prog 222 [.i z] [] (fun r h=>r=ZF (Z2.mk 12 z [])/\h=[]):=by
 refine ZK 6 Tryz.func222 (ar (iA [.i 0,.i 0,nl] ?_))
 intro b1
 refine ie (ar (ir 1 [(2,.p b1 0),(3,.i z)] (iL (Yp []) 0 3 ?_)))
 intro v1
 refine Z1 1 5 (.agg [.i 12,.i z,XQ [] v1]) (ZH 1 b1 [.i 12,.i z,XQ [] v1] (ie ?_))
 exact Zc (r3 [] [.agg [.i 12,.i z,XQ [] v1]] [0] [(b1,b1)] ⟨rfl,rfl⟩ (Zg.agg (.cons li (.cons li (.cons (Zg.sl _ (Yv Yp rfl)) .nil)))))
theorem XG (op:Int) (nm:Int) (ks:List Z2) :Zj Tryz.prog 220 [.i op,.i nm,X3 ks] [] (fun r h=>r=ZF (Z2.mk op nm ks)/\h=[]):=by
 refine ZK 11 Tryz.func220 (ar (iA [.i 0,.i 0,nl] ?_))
 intro b1
 refine ie (ar (ir 4 [(6,.p b1 0),(10,.agg [.i op,.i nm,X3 ks])] (ZH 0 b1 [.i op,.i nm,X3 ks] (ie ?_))))
 exact Zc (r3 [] [.agg [.i op,.i nm,X3 ks]] [0] [(b1,b1)] ⟨rfl,rfl⟩ (Zg.agg (.cons li (.cons li (.cons (Zg.sl _ (Yv Yp rfl)) .nil)))))
theorem IZ (rd:Nat) (bs:List Int) (p:Nat) (ZD:∀z∈bs,0<=z/\z<=255) (hp:p+4<=1000000000:=by exact ob):Zj Tryz.prog 251 [.p rd 0] [Yl rd bs p] (fun r h=>∃(z:Int),r=.i z/\h=[.obj rd [X9 bs,.i (p+4:Nat)]]/\-2000<=z/\z<=2000):=by
 refine ZK 12 Tryz.func251 (ar (ir 1 [(0,.p rd 0)] (ie (ar (Yo 2 3 (.p rd 0) 4 (.p rd 0) (ic [0] (XU rd bs p 6 (ZD:=ob)) ?_))))))
 rintro _ _ ⟨k1,rfl,rfl,ZP⟩
 have qhp1:=ZP.lt om
 refine Z1 1 6 (.p rd 0) (ic [0] (XU rd bs (p+1) 6 (ZD:=ob)) ?_)
 rintro _ _ ⟨k2,rfl,rfl,Y0⟩
 have qhp2:=Y0.lt om
 refine Z1 1 8 (.p rd 0) (ic [0] (XU rd bs ((p+1)+1) 40 (ZD:=ob)) ?_)
 rintro _ _ ⟨k3,rfl,rfl,YB⟩
 have qhp3:=YB.lt om
 refine iL (Z8 [k1,k2,0,1,2,-1,3,k3,999,-998]) 10 1 ?_
 intro v1
 refine Z5 0 (.n 10 (Z0 [k1,k2,0,1,2,-1,3,k3,999,-998]) (.p .r)) (ic [1] (Vt rd bs (((p+1)+1)+1) [k1,k2,0,1,2,-1,3,k3,999,-998] (ZD:=ob)) ?_)
 rintro _ _ ⟨z1,rfl,rfl,YN⟩
 refine ir 1 [(2,.i z1)] (ie ?_)
 exact Zc (r1 [0] ⟨z1,rfl,rfl,(by simp at YN;omega)⟩)
theorem IM (g:XT) (gb:Nat) (rs:List Func) (t:Int) (hg:GP g:=by exact ob) (W8:g.funcs <+: rs:=by exact ob):Zj Tryz.prog 265 [.agg (Y8 g gb),.i t] [YI gb rs] (fun r h=>∃(xs:List Int),r=Z0 xs/\h=[YI gb rs]/\xs.length<=4/\∀i∈xs,KO g t i):=by
 have hgl:=hg.len
 have hdl:=hg.decls.len
 refine ZK 53 Tryz.func265 (ar (iA (Y8 g gb) ?_))
 intro b1
 refine ir 1 [(1,.i t),(2,.p b1 0)] (ie (ar (iL (Z8 []) 0 1 ?_)))
 intro v1
 refine Z1 1 5 (Z6 [] v1) (ie (aq (ar (Z1 1 6 (.i 0) (ie (ab 0 (al (fun m F h=>∃(k:Nat) (ys:List Int) (u:Value),(k<=g.funcs.length)/\(ys.length<=k)/\(∀i∈ys,KO g t i)/\F=[(1,.i t),(2,.p b1 0),(5,Z6 ys u),(6,.i k)]/\h=[.obj b1 (Y8 g gb),YI gb rs,.tail u 1]/\m=g.funcs.length-k) _ _ _ ⟨0,[],v1,ob,ob,(fun i hi=>by cases hi),rfl,rfl,rfl⟩ (wk [1,1,0] (fw (fr (Ye fl)))) ?_)))))))
 rintro m F h ⟨k,ys,u,Ym,Zp,Zz,rfl,rfl,rfl⟩
 refine aq (ar (Y1 3 9 (.i k) 11 (.ms gb 0 g.funcs.length 4) [0] [b1] (io (.i g.funcs.length) (.i g.funcs.length) (lr _) (Z1 1 13 (.b (decide ((k:Int)<(g.funcs.length:Int)))) (ie (ZM ((k:Int)<(g.funcs.length:Int)) (fun Ze=>?_) (fun Ze=>?_)))))))
 ·refine ak (aq (ab 1 (ar (Y1 3 17 (.ms gb 0 g.funcs.length 4) 18 (.i k) [0] [b1] ?_))))
  obtain ⟨x1,Z3⟩:=Zs (xs:=g.funcs) (j:=k) om
  have hso:=(hg.sigs _ (Y7 Z3)).bd
  refine Zq (W5 gb g.funcs.length 4 k 5 (k:Int)) (Z1 1 20 (.val (.pointer (some ⟨gb,k*5,none⟩))) (VI (WV 1 gb 4 4 5 (k*5+0) (Zl (Xc rs)) [Z0 x1.params] 27 (Z0 x1.params) (VY W8 Z3 0 rfl (WF rfl))) (iw (Yd x1.params) (Z1 1 7 (.i x1.params.length) (ie (aD 25 (ZY 22 25 [0,1,2] 25 (.b (decide ((x1.params.length:Int)>0))) (db (b:=(decide ((x1.params.length:Int)>0))) 25 (fun Za=>?_) (fun Za=>?_)))))))))
  ·have ZP:(x1.params.length:Int)>0:=(dq).1 Za
   refine Y6 17 22 [3,4,5,6,7] (.n 27 (Zd g.decls) (.n 29 (.ms gb 0 g.funcs.length 4) (.n 30 (.i k) (.k (.d .r))))) [0,0] [b1,b1] (dx 8 (W5 gb g.funcs.length 4 k 5 (k:Int)) (ZY 15 16 [9] 32 (.val (.pointer (some ⟨gb,k*5,none⟩))) (VM 10 (WV 1 gb 4 4 5 (k*5+0) (Zl (Xc rs)) [Z0 x1.params] 27 (Z0 x1.params) (VY W8 Z3 0 rfl (WF rfl))) (ZY 13 14 [11] 34 (.i x1.params.length) (da 12 ((((x1.params.length-1):Nat):Int)) (((x1.params.length:Int))-(1)) ?_)))))
   obtain ⟨x2,Zv⟩:=Zs (xs:=x1.params) (j:=(x1.params.length-1)) om
   refine dx 13 (Zo none (((x1.params.length-1):Nat):Int) 1 (Y3 Zv)) (Y6 7 11 [14,15,16,17] (.n 37 (.i x2) (.n 39 (.ms gb 0 g.funcs.length 4) (.n 40 (.i k) .r))) [0] [b1] (dx 18 (W5 gb g.funcs.length 4 k 5 (k:Int)) (ZY 5 6 [19] 42 (.val (.pointer (some ⟨gb,k*5+1,none⟩))) (VM 20 (WV 1 gb 4 4 5 (k*5+1) (Zl (Xc rs)) [.i x1.result] 3 (.i x1.result) (VY W8 Z3 1 rfl (WF rfl))) (ZY 3 4 [22] 45 (.i t) (Z9 21 (Ys 21 [] [] [] (Nb g.decls x2 x1.result) (ZY 0 2 [23,24] 47 (.b ((WT g.decls x2 x1.result)==t)) (de (ac ((WT g.decls x2 x1.result)==t) Zh (fun Zk=>?_) (fun Zk=>?_)))))))))))
   ·refine az (Yo 2 48 (Z6 ys u) 49 (.i k) (iL (Z8 [(k:Int)]) 1 1 ?_))
    intro v2
    refine Z5 0 (.n 50 (Z0 [(k:Int)]) (.p .r)) (ip 3 (Z8 (ys++[(k:Int)])) (Z8 ys) (Z8 [(k:Int)]) u none 1 (YD _) (YD _) (XY _) (by simp<;>omega) (by simp [XX,Z8]) ?_)
    intro v3
    refine ir 1 [(1,.i t),(2,.p b1 0),(5,Z6 (ys++[(k:Int)]) v3),(6,.i k)] (ie (az (Z1 1 14 (.i k) (ZO k (Z5 1 (.n 6 (.i (k+1:Nat)) (.p (.d (.k (.k (.k .z)))))) (ie ?_))))))
    exact ZQ ⟨k+1,(ys++[(k:Int)]),v3,ob,ob,(Xq Zz (KO.mk Z3 om Zv Zk)),rfl,rfl,rfl⟩ (wk [2,2,0] (fw (fr (ZW k fl))))
   refine ak (az (Z1 1 14 (.i k) (ZO k (ir 1 [(1,.i t),(2,.p b1 0),(5,Z6 ys u),(6,.i (k+1:Nat))] (ie ?_)))))
   exact ZQ ⟨k+1,ys,u,ob,ob,ob,rfl,rfl,rfl⟩ (ZL 3 (fw (fr (ZW k fl))))
  have Y0:¬((x1.params.length:Int)>0):=ZG dq Za
  refine ZZ 0 22 [3,4,5,6,7,8,9,10,11,12,13,14,15,16,17,18,19,20,21,22,23,24] (.n 47 (.b false) (.k (.d .r))) (de (WS (ak (az (Z1 1 14 (.i k) (ZO k (ir 1 [(1,.i t),(2,.p b1 0),(5,Z6 ys u),(6,.i (k+1:Nat))] (ie ?_))))))))
  exact ZQ ⟨k+1,ys,u,ob,ob,ob,rfl,rfl,rfl⟩ (ZL 3 (fw (fr (ZW k fl))))
 refine ax 0 (ar (ir 2 [(4,Z6 ys u)] (ie ?_)))
 exact Zc (r2 [1] [Z6 ys u] ⟨ys,rfl,rfl,⟨by omega,Zz⟩⟩ (Zg.forget _ _))
theorem SB (vs:List Int) (t:Int) (hv:vs.length<=2000:=by exact ob):Zj Tryz.prog 252 [Z0 vs,.i t] [] (fun r h=>∃(xs:List Int),r=Z0 xs/\h=[]/\xs.length<=vs.length/\∀i∈xs,0<=i/\i<vs.length):=by
 refine ZK 25 Tryz.func252 (ar (ir 1 [(0,Z0 vs),(1,.i t)] (ie (ar (iL (Z8 []) 0 1 ?_)))))
 intro v1
 refine Z1 1 5 (Z6 [] v1) (ie (aq (ar (Z1 1 6 (.i 0) (ie (ab 0 (al (fun m F h=>∃(k:Nat) (ys:List Int) (u:Value),(k<=vs.length)/\(ys.length<=k)/\(∀i∈ys,0<=i/\i<vs.length)/\F=[(0,Z0 vs),(1,.i t),(5,Z6 ys u),(6,.i k)]/\h=[.tail u 1]/\m=vs.length-k) _ _ _ ⟨0,[],v1,ob,ob,(fun i hi=>by cases hi),rfl,rfl,rfl⟩ (wk [0] (fw (fr (Ye fl)))) ?_)))))))
 rintro m F h ⟨k,ys,u,Ym,Zp,Zz,rfl,rfl,rfl⟩
 refine aq (ar (Yo 2 8 (.i k) 9 (Z0 vs) (iw (Yd vs) (Z1 1 11 (.b (decide ((k:Int)<(vs.length:Int)))) (ie (ZM ((k:Int)<(vs.length:Int)) (fun Ze=>?_) (fun Ze=>?_)))))))
 ·refine ak (aq (ab 1 (ar (Yo 2 14 (Z0 vs) 15 (.i k) ?_))))
  obtain ⟨x1,Z3⟩:=Zs (xs:=vs) (j:=k) om
  refine Zq (Zo none (k:Int) 1 (Y3 Z3)) (Z1 3 19 (.b (x1==t)) (ie (ac (x1==t) Zh (fun Zk=>?_) (fun Zk=>?_))))
  ·refine az (Yo 2 20 (Z6 ys u) 21 (.i k) (iL (Z8 [(k:Int)]) 1 1 ?_))
   intro v2
   refine Z5 0 (.n 22 (Z0 [(k:Int)]) (.p .r)) (ip 1 (Z8 (ys++[(k:Int)])) (Z8 ys) (Z8 [(k:Int)]) u none 1 (YD _) (YD _) (XY _) (by simp<;>omega) (by simp [XX,Z8]) ?_)
   intro v3
   refine ir 1 [(0,Z0 vs),(1,.i t),(5,Z6 (ys++[(k:Int)]) v3),(6,.i k)] (ie (az (Z1 1 12 (.i k) (ZO k (Z5 1 (.n 6 (.i (k+1:Nat)) (.p (.d (.k (.k (.k .z)))))) (ie ?_))))))
   exact ZQ ⟨k+1,(ys++[(k:Int)]),v3,ob,ob,(Xq Zz om),rfl,rfl,rfl⟩ (wk [0] (fw (fr (ZW k fl))))
  refine ak (az (Z1 1 12 (.i k) (ZO k (ir 1 [(0,Z0 vs),(1,.i t),(5,Z6 ys u),(6,.i (k+1:Nat))] (ie ?_)))))
  exact ZQ ⟨k+1,ys,u,ob,ob,ob,rfl,rfl,rfl⟩ (wk [0] (fw (fr (ZW k fl))))
 refine ax 0 (ar (ir 2 [(4,Z6 ys u)] (ie ?_)))
 exact Zc (r2 [] [Z6 ys u] ⟨ys,rfl,rfl,⟨by omega,Zz⟩⟩ (Zg.forget _ _))
theorem Dy (g:XT) (gb:Nat) (rs:List Func) (vs:List Int) (t:Int) (hg:GP g:=by exact ob) (W8:g.funcs <+: rs:=by exact ob) (hv:vs.length<=2000:=by exact ob):Zj Tryz.prog 253 [.agg (Y8 g gb),Z0 vs,.i t] [YI gb rs] (fun r h=>∃(w:Bool),r=.b w/\h=[YI gb rs]):=by
 have Xu:=hg.decls.ok
 refine ZK 24 Tryz.func253 (ar (iA (Y8 g gb) ?_))
 intro b1
 refine ir 1 [(1,Z0 vs),(2,.i t),(3,.p b1 0)] (ie (ar (Y1 3 8 (Zd g.decls) 9 (.i t) [0] [b1] (ZA [] (CJ g.decls t) (Z1 2 12 (.b (!X5 g.decls t)) (ib (b:=(!X5 g.decls t)) 12 (fun Za=>?_) (fun Za=>?_)))))))
 ·have ZP:¬(X5 g.decls t=true):=((Yt Iff.rfl)).1 Za
  refine ir 12 [(6,.b true)] (ie ?_)
  exact Zc (r1 [1] ⟨true,rfl,rfl⟩)
 have Y0:¬(¬(X5 g.decls t=true)):=ZG (Yt Iff.rfl) Za
 refine Y2 2 (.n 13 (.agg (Y8 g gb)) (.n 14 (.i t) (.k (.d .r)))) [0] [b1] (ic [1] (IM g gb rs t) ?_)
 rintro _ _ ⟨xs1,rfl,rfl,YB⟩
 have qhp3:=YB.1
 refine iw (Yd xs1) (Z1 3 19 (.b (decide ((xs1.length:Int)>0))) (ib (b:=(decide ((xs1.length:Int)>0))) 19 (fun Zw=>?_) (fun Zw=>?_)))
 ·have YN:(xs1.length:Int)>0:=(dq).1 Zw
  refine ir 5 [(6,.b true)] (ie ?_)
  exact Zc (r1 [0] ⟨true,rfl,rfl⟩)
 have YX:¬((xs1.length:Int)>0):=ZG dq Zw
 refine Z5 2 (.n 20 (Z0 vs) (.n 21 (.i t) (.k .z))) (ZA [] (U0 vs t) (ir 2 [(6,.b (decide (t∈vs)))] (ie ?_)))
 exact Zc (r1 [0] ⟨(decide (t∈vs)),rfl,rfl⟩)
theorem St (rd:Nat) (bs:List Int) (p:Nat) (g:XT) (gb:Nat) (rs:List Func) (t:Int) (ZD:∀z∈bs,0<=z/\z<=255) (hp:p+5+15*rk t<=1000000000) (hg:GP g) (W8:g.funcs <+: rs) (ih:∀(rd:Nat) (bs:List Int) (p:Nat) (t2:Int),(∀z∈bs,0<=z/\z<=255)->(p+5+15*rk t2<=1000000000)->(rk t2<rk t)->Zj Tryz.prog 254 [.p rd 0,.agg (Y8 g gb),.i t2] [Yl rd bs p,YI gb rs] (fun r h=>∃(e:Z2) (p2:Nat),r=ZF e/\h=[Yl rd bs p2,YI gb rs]/\SE g (1+3*rk t2) e/\p<=p2/\p2<=p+5+15*rk t2)):Zj Tryz.prog 254 [.p rd 0,.agg (Y8 g gb),.i t] [Yl rd bs p,YI gb rs] (fun r h=>∃(e:Z2) (p2:Nat),r=ZF e/\h=[Yl rd bs p2,YI gb rs]/\SE g (1+3*rk t) e/\p<=p2/\p2<=p+5+15*rk t):=by
 have Xu:=hg.decls.ok
 have hgl:=hg.len
 have hrk:=Gy t
 refine ZK 118 Tryz.func254 (ar (iA (Y8 g gb) ?_))
 intro b1
 refine iA [.i 0,.i 0,nl] ?_
 intro b2
 refine ie (ar (iR 3 [(0,.p rd 0),(2,.i t),(4,.p b1 0),(6,.p b2 0),(18,Zd g.decls),(19,.i t)] [1] [b1] (ic [] (KH g.decls t) ?_)))
 rintro _ _ ⟨v1,rfl,rfl⟩
 refine Z1 1 7 (Z6 (Zu g.decls t) v1) (ie (aq (ar (Z1 1 21 (Z6 (Zu g.decls t) v1) (io (.i (((Zu g.decls t).length:Nat):Int)) (.i (((Z8 (Zu g.decls t)).length:Nat):Int)) (li (by rw [Yd])) (Z1 1 23 (.b (decide ((((Zu g.decls t).length:Nat):Int)>0))) (ie (ZM ((((Zu g.decls t).length:Nat):Int)>0) (fun Ze=>?_) (fun Ze=>?_)))))))))
 ·refine ar (Z1 1 24 (Z6 (Zu g.decls t) v1) ?_)
  obtain ⟨x1,Z3⟩:=Zs (xs:=Zu g.decls t) (j:=0) om
  refine Zq (Zo (some v1) 0 1 (Y3 Z3)) (Z1 2 8 (.i x1) (ie (aq (aq (XI (fun F h=>∃(w1:Bool) (p5:Nat),(w1=true->1<(Zu g.decls t).length)/\(p<=p5/\p5<=p+1)/\F=[(0,.p rd 0),(2,.i t),(4,.p b1 0),(6,.p b2 0),(7,Z0 (Zu g.decls t)),(8,.i x1),(34,.b w1)]/\h=[.obj b2 [.i 0,.i 0,nl],.obj b1 (Y8 g gb),Yl rd bs p5,YI gb rs]) ?_ ?_)))))
  ·refine az (ir 1 [(0,.p rd 0),(2,.i t),(4,.p b1 0),(6,.p b2 0),(7,Z6 (Zu g.decls t) v1),(8,.i x1),(27,Z6 (Zu g.decls t) v1)] (io (.i (((Zu g.decls t).length:Nat):Int)) (.i (((Z8 (Zu g.decls t)).length:Nat):Int)) (li (by rw [Yd])) (Z1 2 30 (.b (decide ((((Zu g.decls t).length:Nat):Int)>1))) (ib (b:=(decide ((((Zu g.decls t).length:Nat):Int)>1))) 30 (fun Za=>?_) (fun Za=>?_)))))
   ·have ZP:(((Zu g.decls t).length:Nat):Int)>1:=(dq).1 Za
    refine Z5 1 (.n 31 (.p rd 0) (.k (.d .r))) (ic [3] (XU rd bs p 4 (ZD:=ob)) ?_)
    rintro _ _ ⟨k1,rfl,rfl,Y0⟩
    have qhp2:=Y0.lt om
    refine Z1 2 34 (.b (k1==0)) (ie ?_)
    exact ZV ⟨(k1==0),p+1,(by first|exact (fun h=>by cases h)|exact fun _=>by omega),ob,rfl,rfl⟩ (wk [2,2,0,1] fl)
   have YB:¬((((Zu g.decls t).length:Nat):Int)>1):=ZG dq Za
   refine Z5 4 (.n 34 (.b false) (.k (.d .r))) (ie ?_)
   exact ZV ⟨false,p,(by first|exact (fun h=>by cases h)|exact fun _=>by omega),ob,rfl,rfl⟩ (wk [1,1,1,1] fl)
  rintro F h ⟨w1,p5,kR4_0,kR4_1,rfl,rfl⟩
  refine XI (fun F h=>∃(c1:Int),(c1∈Zu g.decls t)/\F=[(0,.p rd 0),(2,.i t),(4,.p b1 0),(6,.p b2 0),(7,Z0 (Zu g.decls t)),(8,.i c1)]/\h=[.obj b2 [.i 0,.i 0,nl],.obj b1 (Y8 g gb),Yl rd bs p5,YI gb rs]) ?_ ?_
  ·refine ac w1 Iff.rfl (fun Zk=>?_) (fun Zk=>?_)
   ·refine az (ir 1 [(0,.p rd 0),(2,.i t),(4,.p b1 0),(6,.p b2 0),(7,Z0 (Zu g.decls t)),(35,Z0 (Zu g.decls t))] ?_)
    obtain ⟨x2,Zv⟩:=Zs (xs:=Zu g.decls t) (j:=1) (kR4_0 (by assumption))
    refine Zq (Zo none 1 1 (Y3 Zv)) (Z1 2 8 (.i x2) (ie ?_))
    exact ZV ⟨x2,(Y7 Zv),rfl,rfl⟩ (ZL 4 fl)
   refine ak ?_
   exact ZV ⟨x1,(Y7 Z3),rfl,rfl⟩ (ZL 4 fl)
  rintro F h ⟨c1,Vv,rfl,rfl⟩
  have hcf:=VH Xu c1
  refine aq (ar (iR 3 [(0,.p rd 0),(2,.i t),(4,.p b1 0),(6,.p b2 0),(7,Z0 (Zu g.decls t)),(8,.i c1),(39,Zd g.decls),(40,.i c1)] [1] [b1] (ZA [] (Qh g.decls c1) (Z1 1 42 (.i t) (ZA [] (U0 (ZB g.decls c1) t) (ie (XI (fun F h=>∃(c2:Int),(Jz g.decls t c2)/\F=[(0,.p rd 0),(4,.p b1 0),(6,.p b2 0),(8,.i c2)]/\h=[.obj b2 [.i 0,.i 0,nl],.obj b1 (Y8 g gb),Yl rd bs p5,YI gb rs]) ?_ ?_)))))))
  ·refine ZM (t∈(ZB g.decls c1)) (fun ZI=>?_) (fun ZI=>?_)
   ·refine az (ir 1 [(0,.p rd 0),(4,.p b1 0),(6,.p b2 0),(44,Z0 (Zu g.decls t))] (Zq (Zo none 0 1 (Y3 Z3)) (Z1 2 8 (.i x1) (ie ?_))))
    exact ZV ⟨x1,(Z4b hg.decls Vv (by assumption) Z3),rfl,rfl⟩ (ZL 4 fl)
   refine ak ?_
   exact ZV ⟨c1,(Z4a hg.decls Vv (by assumption)),rfl,rfl⟩ (ZL 4 fl)
  rintro F h ⟨c2,Cj,rfl,rfl⟩
  obtain ⟨L9,UR,Jd⟩:=Cj
  refine ar (iL (Yp []) 0 3 ?_)
  intro v2
  refine ir 1 [(0,.p rd 0),(4,.p b1 0),(6,.p b2 0),(8,.i c2),(9,XQ [] v2)] (ie (ar (Y1 3 49 (Zd g.decls) 50 (.i c2) [2] [b1] (ZA [] (Qh g.decls c2) (Z1 1 10 (Z0 (ZB g.decls c2)) (ie (aq (ar (Z1 1 11 (.i 0) (ie (ab 0 (al (fun m F h=>∃(k:Nat) (ys:List Z2) (u:Value) (pq:Nat),(k<=(ZB g.decls c2).length)/\(ys.length=k)/\(∀e∈ys,SE g 1 e)/\(p<=pq/\pq<=p+1+5*k)/\F=[(0,.p rd 0),(4,.p b1 0),(6,.p b2 0),(8,.i c2),(9,XQ ys u),(10,Z0 (ZB g.decls c2)),(11,.i k)]/\h=[.obj b2 [.i 0,.i 0,nl],.obj b1 (Y8 g gb),Yl rd bs pq,YI gb rs,.tail u 3]/\m=(ZB g.decls c2).length-k) _ _ _ ⟨0,[],v2,p5,ob,ob,(fun e he=>by cases he),ob,rfl,rfl,rfl⟩ (wk [1,1,1,1,0] (fq (fw (Ye fl)))) ?_))))))))))))
  rintro m F h ⟨k,ys,u,pq,Ym,Zp,Zz,YJ,rfl,rfl,rfl⟩
  refine aq (ar (Yo 2 52 (.i k) 53 (Z0 (ZB g.decls c2)) (io (.i (((ZB g.decls c2).length:Nat):Int)) (.i (((Z8 (ZB g.decls c2)).length:Nat):Int)) (li (by rw [Yd])) (Z1 1 55 (.b (decide ((k:Int)<(((ZB g.decls c2).length:Nat):Int)))) (ie (ZM ((k:Int)<(((ZB g.decls c2).length:Nat):Int)) (fun Yi=>?_) (fun Yi=>?_)))))))
  ·refine ak (aq (ab 1 (aE 11 (Y6 6 11 [0,1,2,3,4] (.n 58 (XQ ys u) (.n 59 (.p rd 0) (.n 60 (.agg (Y8 g gb)) (.n 61 (Z0 (ZB g.decls c2)) (.n 62 (.i k) .r))))) [1] [b1] ?_))))
   obtain ⟨x3,YT⟩:=Zs (xs:=ZB g.decls c2) (j:=k) om
   have hz3:=MB (Jd _ (Y7 YT))
   refine dx 5 (Zo none (k:Int) 1 (Y3 YT)) (ZY 4 5 [6] 64 (.i x3) (Z9 7 (dc 7 [2,2] [] [] (ih rd bs pq x3 ob ob om) ?_)))
   rintro _ _ ⟨e1,p21,rfl,rfl,YN⟩
   have hse:=YN.1
   rw [hz3] at hse
   refine Z9 8 (Wj 8 [] [] [ZF e1] (Yp [e1]) (XE [e1]).symm 1 3 ?_)
   intro v3
   refine ZZ 2 2 [] (.n 66 (X3 [e1]) (.p .r)) (Z9 9 (dp 9 5 [] [] (Yp (ys++[e1])) (Yp ys) (Yp [e1]) u none 3 (Un _) (Un _) (Kq _) (by simp<;>omega) (by simp [Ko,Yp]) ?_))
   intro v4
   refine ZZ 0 1 [10] (.n 9 (XQ (ys++[e1]) v4) (.p (.d (.p (.d (.p (.d (.d (.d (.d (.d (.d (.p (.d (.d (.w (.d .r))))))))))))))))) (de (az (Z1 1 56 (.i k) (ZO k (Z5 1 (.n 11 (.i (k+1:Nat)) (.p (.d (.w (.k (.k .z)))))) (ie ?_))))))
   exact ZQ ⟨k+1,(ys++[e1]),v4,p21,ob,ob,(Xq Zz hse),ob,rfl,rfl,rfl⟩ (wk [4,4,2,2,0] (fq (fw (ZW k fl))))
  refine ax 0 (ar (Yo 2 68 (.i c2) 69 (X3 ys) (ZA [] (XG 6 c2 ys) (ZH 0 b2 (Yy (Z2.mk 6 c2 ys)) (ie ?_)))))
  exact Zc (r3 [2,2] [ZF (Z2.mk 6 c2 ys)] [0] [(b2,b2)] ⟨(Z2.mk 6 c2 ys),pq,rfl,rfl,⟨SE.node (k:=3*rk t) (.inl rfl) om Zz om om om,by omega⟩⟩ (lr _))
 refine ak (ar (Y1 2 71 (.agg (Y8 g gb)) 72 (.i t) [2] [b1] (ic [4] (IM g gb rs t) ?_)))
 rintro _ _ ⟨xs1,rfl,rfl,YX⟩
 have hcl:=YX.2
 have hcn:=YX.1
 refine Z1 1 12 (Z0 xs1) (ie (aq (ar (Xp [(0,.p rd 0),(4,.p b1 0),(6,.p b2 0),(12,Z0 xs1),(80,.b ((decide (t>0))&&(decide ((xs1.length:Int)>0))))] [YI gb rs,.tail v1 1,.obj b2 [.i 0,.i 0,nl],.obj b1 (Y8 g gb),Yl rd bs p] ?_ ?_))))
 ·refine ir 3 [(0,.p rd 0),(4,.p b1 0),(6,.p b2 0),(12,Z0 xs1),(76,.b (decide (t>0)))] (ib (b:=(decide (t>0))) 76 (fun Zw=>?_) (fun Zw=>?_))
  ·have Xy:t>0:=(dq).1 Zw
   refine Z5 1 (.n 77 (Z0 xs1) (.w (.k .z))) (iw (Yd xs1) (Z1 2 80 (.b (decide ((xs1.length:Int)>0))) (ie ?_)))
   exact ZL 5 (fq (Zr (decide ((xs1.length:Int)>0)) Zw fl))
  have Wh:¬(t>0):=ZG dq Zw
  refine Z5 4 (.n 80 (.b false) (.d (.w .z))) (ie ?_)
  exact ZL 5 (fq (Zr false Zw fl))
 refine ac ((decide (t>0))&&(decide ((xs1.length:Int)>0))) (p:=(t>0)/\((xs1.length:Int)>0)) (YE dq dq) (fun Xk=>?_) (fun Xk=>?_)
 ·refine ar (ir 3 [(0,.p rd 0),(4,.p b1 0),(6,.p b2 0),(81,Z0 xs1),(82,.p rd 0),(83,Z0 xs1)] (iw (Yd xs1) (ic [4] (XU rd bs p (xs1.length:Int) (ZD:=ob)) ?_)))
  rintro _ _ ⟨k2,rfl,rfl,WJ⟩
  have qhp8:=WJ.lt om
  obtain ⟨x4,Ub⟩:=Zs (xs:=xs1) (j:=k2.toNat) om
  have hclo:=hcl _ (Y7 Ub)
  have hcb:=hclo.lt
  refine Zq (Zo none k2 1 (Y3 Ub)) (Z1 2 13 (.i x4) (ie (ar (Y1 3 89 (.ms gb 0 g.funcs.length 4) 90 (.i x4) [4] [b1] ?_))))
  obtain ⟨x5,UF⟩:=Zs (xs:=g.funcs) (j:=x4.toNat) om
  have hso:=(hg.sigs _ (Y7 UF)).bd
  have hr1:=Z3b (t:=t) hg.decls om om
  have hfu:=UF
  refine Zq (W5 gb g.funcs.length 4 x4.toNat 5 x4) (Z1 1 92 (.val (.pointer (some ⟨gb,x4.toNat * 5,none⟩))) (VI (WV 1 gb 4 4 5 (x4.toNat * 5+0) (Zl (Xc rs)) [Z0 x5.params] 27 (Z0 x5.params) (VY W8 UF 0 rfl (WF rfl))) (Z1 1 14 (Z0 x5.params) (ie (ar (iL (Yp []) 0 3 ?_))))))
  intro v5
  refine Z1 1 15 (XQ [] v5) (ie (aq (ar (Z1 1 16 (.i 0) (ie (ab 2 (al (fun m F h=>∃(k:Nat) (ys:List Z2) (u:Value) (pq:Nat),(k<=x5.params.length)/\(ys.length=k)/\(∀e∈ys,SE g 1 e)/\(p<=pq/\pq<=p+1+5*k)/\F=[(0,.p rd 0),(4,.p b1 0),(6,.p b2 0),(13,.i x4),(14,Z0 x5.params),(15,XQ ys u),(16,.i k)]/\h=[Yl rd bs pq,YI gb rs,.obj b2 [.i 0,.i 0,nl],.obj b1 (Y8 g gb),.tail u 3]/\m=x5.params.length-k) _ _ _ ⟨0,[],v5,p+1,ob,ob,(fun e he=>by cases he),ob,rfl,rfl,rfl⟩ (wk [1,1,2,2,0] (fq (fw (Ye fl)))) ?_)))))))
  rintro m F h ⟨k,ys,u,pq,Uj,We,XJ,F4,rfl,rfl,rfl⟩
  refine aq (ar (Z1 1 95 (.i k) (ZO k (Z1 1 97 (Z0 x5.params) (iw (Yd x5.params) (Z1 1 99 (.b (decide (((k+1:Nat):Int)<(x5.params.length:Int)))) (ie (ZM (((k+1:Nat):Int)<(x5.params.length:Int)) (fun Xl=>?_) (fun Xl=>?_)))))))))
  ·refine ak (aq (ab 3 (aE 11 (Y6 6 11 [0,1,2,3,4] (.n 102 (XQ ys u) (.n 103 (.p rd 0) (.n 104 (.agg (Y8 g gb)) (.n 105 (Z0 x5.params) (.n 106 (.i k) .r))))) [3] [b1] ?_))))
   obtain ⟨x6,AH⟩:=Zs (xs:=x5.params) (j:=k) om
   have hz3:=hclo.low hg om hfu om AH
   refine dx 5 (Zo none (k:Int) 1 (Y3 AH)) (ZY 4 5 [6] 108 (.i x6) (Z9 7 (dc 7 [0,0] [] [] (ih rd bs pq x6 ob ob om) ?_)))
   rintro _ _ ⟨e2,p22,rfl,rfl,V2⟩
   have hse:=V2.1
   rw [hz3] at hse
   refine Z9 8 (Wj 8 [] [] [ZF e2] (Yp [e2]) (XE [e2]).symm 1 3 ?_)
   intro v6
   refine ZZ 2 2 [] (.n 110 (X3 [e2]) (.p .r)) (Z9 9 (dp 9 5 [] [] (Yp (ys++[e2])) (Yp ys) (Yp [e2]) u none 3 (Un _) (Un _) (Kq _) (by simp<;>omega) (by simp [Ko,Yp]) ?_))
   intro v7
   refine Xa 0 1 [10] [(0,.p rd 0),(4,.p b1 0),(6,.p b2 0),(13,.i x4),(14,Z0 x5.params),(15,XQ (ys++[e2]) v7),(16,.i k)] (de (az (Z1 1 100 (.i k) (ZO k (Z5 1 (.n 16 (.i (k+1:Nat)) (.p (.d (.w (.k (.k .z)))))) (ie ?_))))))
   exact ZQ ⟨k+1,(ys++[e2]),v7,p22,ob,ob,(Xq XJ hse),ob,rfl,rfl,rfl⟩ (wk [2,2,2,2,0] (fq (fw (ZW k fl))))
  refine ax 2 (ar (Yo 2 112 (.i x4) 113 (X3 ys) (ZA [] (XG 10 x4 ys) (ZH 2 b2 (Yy (Z2.mk 10 x4 ys)) (ie ?_)))))
  exact Zc (r3 [1,1] [ZF (Z2.mk 10 x4 ys)] [0] [(b2,b2)] ⟨(Z2.mk 10 x4 ys),pq,rfl,rfl,⟨SE.node (k:=3) (.inr rfl) om XJ om om om,by omega⟩⟩ (lr _))
 refine ak (ar (ir 1 [(6,.p b2 0),(115,.p rd 0)] (ic [4] (IZ rd bs p (ZD:=ob)) ?_)))
 rintro _ _ ⟨z1,rfl,rfl,Ua⟩
 refine ZA [] (J8 z1) (ZH 3 b2 (Yy (Z2.mk 0 z1 [])) (ie ?_))
 exact Zc (r3 [1,1] [ZF (Z2.mk 0 z1 [])] [0] [(b2,b2)] ⟨(Z2.mk 0 z1 []),p+4,rfl,rfl,⟨SE.int om om,by omega⟩⟩ (lr _))
theorem Ss (rd:Nat) (bs:List Int) (p:Nat) (g:XT) (gb:Nat) (rs:List Func) (t:Int) (ZD:∀z∈bs,0<=z/\z<=255) (hp:p+5+15*rk t<=1000000000:=by exact ob) (hg:GP g:=by exact ob) (W8:g.funcs <+: rs:=by exact ob):Zj Tryz.prog 254 [.p rd 0,.agg (Y8 g gb),.i t] [Yl rd bs p,YI gb rs] (fun r h=>∃(e:Z2) (p2:Nat),r=ZF e/\h=[Yl rd bs p2,YI gb rs]/\SE g (1+3*rk t) e/\p<=p2/\p2<=p+5+15*rk t):=by
 have key:∀k:Nat,∀(rd:Nat) (bs:List Int) (p:Nat) (t2:Int),(∀z∈bs,0<=z/\z<=255)->(p+5+15*rk t2<=1000000000)->(rk t2<k)->Zj Tryz.prog 254 [.p rd 0,.agg (Y8 g gb),.i t2] [Yl rd bs p,YI gb rs] (fun r h=>∃(e:Z2) (p2:Nat),r=ZF e/\h=[Yl rd bs p2,YI gb rs]/\SE g (1+3*rk t2) e/\p<=p2/\p2<=p+5+15*rk t2):=by
  intro k
  induction k with
  | zero=>intro rd bs p t2 h1 h2 h3;omega
  | succ k ih=>intro rd bs p t2 h1 h2 h3;exact St rd bs p g gb rs t2 h1 h2 hg W8 fun rd bs p t3 q1 q2 q3=>ih rd bs p t3 q1 q2 om
 exact key 2 rd bs p t ZD hp (by have:=Gy t;omega)
theorem Bn (rd:Nat) (bs:List Int) (p:Nat) (g:XT) (gb:Nat) (rs:List Func) (vs:List Int) (t:Int) (ZD:∀z∈bs,0<=z/\z<=255) (hp:p+30<=1000000000:=by exact ob) (hg:GP g:=by exact ob) (W8:g.funcs <+: rs:=by exact ob) (hv:vs.length<=2000:=by exact ob):Zj Tryz.prog 223 [.p rd 0,.agg (Y8 g gb),Z0 vs,.i t] [Yl rd bs p,YI gb rs] (fun r h=>∃(e:Z2) (p2:Nat),r=ZF e/\h=[Yl rd bs p2,YI gb rs]/\GE g vs.length 4 e/\p<=p2/\p2<=p+30):=by
 have hrk:=Gy t
 refine ZK 40 Tryz.func223 (ar (iA (Y8 g gb) ?_))
 intro b1
 refine iA [.i 0,.i 0,nl] ?_
 intro b2
 refine ie (ar (ir 2 [(0,.p rd 0),(3,.i t),(5,.p b1 0),(8,.p b2 0),(10,Z0 vs),(11,.i t)] (ic [] (SB vs t) ?_)))
 rintro _ _ ⟨xs1,rfl,rfl,ZP⟩
 have hxs:=ZP
 refine Z1 1 9 (Z0 xs1) (ie (aq (aq (XI (fun F h=>∃(wb:Bool) (p5:Nat),(wb=true->0<xs1.length)/\(p<=p5/\p5<=p+1)/\F=[(0,.p rd 0),(3,.i t),(5,.p b1 0),(8,.p b2 0),(9,Z0 xs1),(27,.b wb)]/\h=[.obj b2 [.i 0,.i 0,nl],.obj b1 (Y8 g gb),Yl rd bs p5,YI gb rs]) ?_ ?_))))
 ·refine az (ir 1 [(0,.p rd 0),(3,.i t),(5,.p b1 0),(8,.p b2 0),(9,Z0 xs1),(13,Z0 xs1)] (iw (Yd xs1) (Z1 2 16 (.b (decide ((xs1.length:Int)>0))) (ib (b:=(decide ((xs1.length:Int)>0))) 16 (fun Za=>?_) (fun Za=>?_)))))
  ·have Y0:(xs1.length:Int)>0:=(dq).1 Za
   refine Z5 1 (.n 17 (.p rd 0) (.k (.d .r))) (ic [2] (XU rd bs p 6 (ZD:=ob)) ?_)
   rintro _ _ ⟨k1,rfl,rfl,YB⟩
   have qhp3:=YB.lt om
   refine Z1 2 20 (.b (decide (k1>0))) (ib (b:=(decide (k1>0))) 20 (fun Zw=>?_) (fun Zw=>?_))
   ·have YN:k1>0:=(dq).1 Zw
    refine Z5 7 (.n 27 (.b true) (.k (.d .r))) (ie ?_)
    exact ZV ⟨true,p+1,(by first|exact (fun h=>Bool.noConfusion h)|exact fun _=>by omega),ob,rfl,rfl⟩ (wk [1,1,0,0] fl)
   have YX:¬(k1>0):=ZG dq Zw
   refine Y2 1 (.n 21 (.agg (Y8 g gb)) (.k (.d .r))) [2] [b1] (iL (Z8 []) 0 1 ?_)
   intro v1
   refine Z5 1 (.n 22 (Z0 []) (.n 23 (.i t) (.p .r))) (ic [4] (Dy g gb rs [] t) ?_)
   rintro _ _ ⟨w1,rfl,rfl⟩
   refine Z1 3 27 (.b (!w1)) (ie ?_)
   exact ZV ⟨(!w1),p+1,(by first|exact (fun h=>Bool.noConfusion h)|exact fun _=>by omega),ob,rfl,rfl⟩ (wk [3,3,2,0] fl)
  have Xy:¬((xs1.length:Int)>0):=ZG dq Za
  refine Z5 11 (.n 27 (.b false) (.k (.d .r))) (ie ?_)
  exact ZV ⟨false,p,(by first|exact (fun h=>Bool.noConfusion h)|exact fun _=>by omega),ob,rfl,rfl⟩ (ZL 4 fl)
 rintro F h ⟨wb,p5,kR2_0,kR2_1,rfl,rfl⟩
 refine ac wb Iff.rfl (fun Ze=>?_) (fun Ze=>?_)
 ·have hk0:=kR2_0 Ze
  refine ar (ir 3 [(8,.p b2 0),(28,Z0 xs1),(29,.p rd 0),(30,Z0 xs1)] (iw (Yd xs1) (ic [2] (XU rd bs p5 (xs1.length:Int) (ZD:=ob)) ?_)))
  rintro _ _ ⟨k2,rfl,rfl,Wh⟩
  have qhp7:=Wh.lt om
  obtain ⟨x1,Z3⟩:=Zs (xs:=xs1) (j:=k2.toNat) om
  have hxv:=hxs.2 _ (Y7 Z3)
  refine Zq (Zo none k2 1 (Y3 Z3)) (Z1 1 34 (.i x1) (ZA [] (Tl x1) (ZH 1 b2 (Yy (Z2.mk 12 x1 [])) (ie ?_))))
  exact Zc (r3 [1,2] [ZF (Z2.mk 12 x1 [])] [0] [(b2,b2)] ⟨(Z2.mk 12 x1 []),p5+1,rfl,rfl,⟨GE.var hxv om om,by omega⟩⟩ (lr _))
 refine ak (ar (iR 3 [(8,.p b2 0),(36,.p rd 0),(37,.agg (Y8 g gb)),(38,.i t)] [1] [b1] (ic [2,2] (Ss rd bs p5 g gb rs t (ZD:=ob)) ?_)))
 rintro _ _ ⟨e1,p21,rfl,rfl,WJ⟩
 have hse:=WJ.1
 refine ZH 2 b2 (Yy e1) (ie ?_)
 exact Zc (r3 [1,1] [ZF e1] [0] [(b2,b2)] ⟨e1,p21,rfl,rfl,⟨hse.ge om,by omega⟩⟩ (lr _))
theorem Rv (rd:Nat) (bs:List Int) (p:Nat) (g:XT) (gb:Nat) (rs:List Func) (vs:List Int) (ZD:∀z∈bs,0<=z/\z<=255) (hp:p+1<=1000000000:=by exact ob) (hg:GP g:=by exact ob) (W8:g.funcs <+: rs:=by exact ob) (hv:vs.length<=2000:=by exact ob):Zj Tryz.prog 246 [.p rd 0,.agg (Y8 g gb),Z0 vs] [Yl rd bs p,YI gb rs] (fun r h=>∃(z:Int),r=.i z/\h=[.obj rd [X9 bs,.i (p+1:Nat)],YI gb rs]/\0<=z/\z<=4):=by
 have Xu:=hg.decls.ok
 have hgl:=hg.len
 have hdl:=hg.decls.len
 refine ZK 24 Tryz.func246 (ar (iA (Y8 g gb) ?_))
 intro b1
 refine ir 1 [(0,.p rd 0),(2,Z0 vs),(4,.p b1 0)] (ie (ar (Z1 1 8 (.p rd 0) (iL (Z8 [1,1,3,0,2,4,3]) 7 1 ?_))))
 intro v1
 refine Z5 0 (.n 9 (Z0 [1,1,3,0,2,4,3]) (.p .r)) (ic [2] (Vt rd bs p [1,1,3,0,2,4,3] (ZD:=ob)) ?_)
 rintro _ _ ⟨z1,rfl,rfl,ZP⟩
 have hz:=JZ (a:=0) (b:=4) ZP (by decide)
 refine Z1 1 7 (.i z1) (ie (aq (aq (XI (fun F h=>∃(wb:Bool),(True)/\F=[(7,.i z1),(22,.b wb)]/\h=[.obj rd [X9 bs,.i (p+1:Nat)],YI gb rs]) ?_ ?_))))
 ·refine az (iR 3 [(2,Z0 vs),(4,.p b1 0),(7,.i z1),(11,.i z1),(13,Zd g.decls)] [2] [b1] (iw (VN g.decls) (Z1 2 16 (.b (decide (z1>(g.decls.length:Int)))) (ib (b:=(decide (z1>(g.decls.length:Int)))) 16 (fun Za=>?_) (fun Za=>?_)))))
  ·have Y0:z1>(g.decls.length:Int):=(dq).1 Za
   refine ir 6 [(7,.i z1),(22,.b true)] (ie ?_)
   exact ZV ⟨true,True.intro,rfl,rfl⟩ (wk [0,2] fl)
  have YB:¬(z1>(g.decls.length:Int)):=ZG dq Za
  refine Y2 3 (.n 17 (.agg (Y8 g gb)) (.n 18 (Z0 vs) (.n 19 (.i z1) (.k (.d .r))))) [2] [b1] (ic [3] (Dy g gb rs vs z1) ?_)
  rintro _ _ ⟨w1,rfl,rfl⟩
  refine Z1 2 22 (.b (!w1)) (ie ?_)
  exact ZV ⟨(!w1),True.intro,rfl,rfl⟩ (wk [1,0] fl)
 rintro F h ⟨wb,kR2_0,rfl,rfl⟩
 refine ac wb Iff.rfl (fun Ze=>?_) (fun Ze=>?_)
 ·refine ar (ir 1 [(6,.i 1)] (ie ?_))
  exact Zc (r1 [0,0] ⟨1,rfl,rfl,om⟩)
 refine ak (ar (ir 2 [(6,.i z1)] (ie ?_)))
 exact Zc (r1 [0,0] ⟨z1,rfl,rfl,om⟩)
theorem Rz (g:XT) (gb:Nat) (rs:List Func) (t:Int) (hg:GP g:=by exact ob) (W8:g.funcs <+: rs:=by exact ob):Zj Tryz.prog 249 [.agg (Y8 g gb),.i t] [YI gb rs] (fun r h=>∃(xs:List Int),r=Z0 xs/\h=[YI gb rs]/\xs.length<=4/\∀i∈xs,1<=i/\i<g.funcs.length):=by
 have Xu:=hg.decls.ok
 have hgl:=hg.len
 have hdl:=hg.decls.len
 refine ZK 57 Tryz.func249 (ar (iA (Y8 g gb) ?_))
 intro b1
 refine ir 1 [(1,.i t),(2,.p b1 0)] (ie (ar (iL (Z8 []) 0 1 ?_)))
 intro v1
 refine Z1 1 5 (Z6 [] v1) (ie (aq (ar (Z1 1 6 (.i 1) (ie (ab 0 (al (fun m F h=>∃(k:Nat) (ys:List Int) (u:Value),(1<=k/\k<=g.funcs.length)/\(ys.length<=k)/\(∀i∈ys,1<=i/\i<g.funcs.length)/\F=[(1,.i t),(2,.p b1 0),(5,Z6 ys u),(6,.i k)]/\h=[.obj b1 (Y8 g gb),YI gb rs,.tail u 1]/\m=g.funcs.length-k) _ _ _ ⟨1,[],v1,ob,ob,(fun i hi=>by cases hi),rfl,rfl,rfl⟩ (wk [1,1,0] (fw (fr (fc (x:=.i 1) li fl)))) ?_)))))))
 rintro m F h ⟨k,ys,u,Ym,Zp,Zz,rfl,rfl,rfl⟩
 refine aq (ar (Y1 3 10 (.i k) 12 (.ms gb 0 g.funcs.length 4) [0] [b1] (io (.i g.funcs.length) (.i g.funcs.length) (lr _) (Z1 1 14 (.b (decide ((k:Int)<(g.funcs.length:Int)))) (ie (ZM ((k:Int)<(g.funcs.length:Int)) (fun Ze=>?_) (fun Ze=>?_)))))))
 ·refine ak (aq (ab 1 (ar (Y1 3 18 (.ms gb 0 g.funcs.length 4) 19 (.i k) [0] [b1] ?_))))
  obtain ⟨x1,Z3⟩:=Zs (xs:=g.funcs) (j:=k) om
  have hso:=(hg.sigs _ (Y7 Z3)).bd
  refine Zq (W5 gb g.funcs.length 4 k 5 (k:Int)) (Z1 1 21 (.val (.pointer (some ⟨gb,k*5+1,none⟩))) (VI (WV 1 gb 4 4 5 (k*5+1) (Zl (Xc rs)) [.i x1.result] 3 (.i x1.result) (VY W8 Z3 1 rfl (WF rfl))) (Z1 3 7 (.b (x1.result==t)) (ie (aq (ar (Z1 1 8 (.i 0) (ie (ab 2 (al (fun m F h=>∃(j:Nat) (wo:Bool),(True)/\F=[(1,.i t),(2,.p b1 0),(5,Z6 ys u),(6,.i k),(7,.b wo),(8,.i j)]/\h=[.obj b1 (Y8 g gb),YI gb rs,.tail u 1]/\m=x1.params.length-j) _ _ _ ⟨0,(x1.result==t),True.intro,rfl,rfl,rfl⟩ (ZL 3 (fq (fr (Ye fl)))) ?_))))))))))
  rintro m F h ⟨j,wo,Uj,rfl,rfl,rfl⟩
  refine aq (ar (Y2 4 (.n 25 (.i j) (.n 27 (.ms gb 0 g.funcs.length 4) (.n 28 (.i k) .r))) [0] [b1] (Zq (W5 gb g.funcs.length 4 k 5 (k:Int)) (Z1 1 30 (.val (.pointer (some ⟨gb,k*5,none⟩))) (VI (WV 1 gb 4 4 5 (k*5+0) (Zl (Xc rs)) [Z0 x1.params] 27 (Z0 x1.params) (VY W8 Z3 0 rfl (WF rfl))) (iw (Yd x1.params) (Z1 1 33 (.b (decide ((j:Int)<(x1.params.length:Int)))) (ie (ZM ((j:Int)<(x1.params.length:Int)) (fun Zk=>?_) (fun Zk=>?_))))))))))
  ·refine ak (aq (ab 3 (aE 16 (ZY 14 16 [0,1] 37 (.b wo) (db (b:=wo) 37 (fun Za=>?_) (fun Za=>?_))))))
   ·have ZP:wo=true:=(Iff.rfl).1 Za
    refine Y6 10 14 [2,4,5,6] (.n 38 (.agg (Y8 g gb)) (.n 41 (.ms gb 0 g.funcs.length 4) (.n 42 (.i k) (.k (.d .r))))) [0,0] [b1,b1] (dx 7 (W5 gb g.funcs.length 4 k 5 (k:Int)) (ZY 8 9 [8] 44 (.val (.pointer (some ⟨gb,k*5,none⟩))) (VM 9 (WV 1 gb 4 4 5 (k*5+0) (Zl (Xc rs)) [Z0 x1.params] 27 (Z0 x1.params) (VY W8 Z3 0 rfl (WF rfl))) (ZY 6 7 [10] 46 (.i j) ?_))))
    obtain ⟨x2,Zv⟩:=Zs (xs:=x1.params) (j:=j) om
    refine dx 11 (Zo none (j:Int) 1 (Y3 Zv)) (ZY 4 5 [12] 48 (.i x2) (Z9 3 (dL 3 [1,0,0] [gb,b1,b1] (Z8 []) 0 1 ?_)))
    intro v2
    refine ZZ 3 3 [] (.n 39 (Z0 []) (.p .r)) (Z9 13 (dc 13 [2] [] [] (Dy g gb rs [] x2) ?_))
    rintro _ _ ⟨w1,rfl,rfl⟩
    refine Xa 0 2 [14,15] [(1,.i t),(2,.p b1 0),(5,Z6 ys u),(6,.i k),(7,.b w1),(8,.i j)] (de (az (Z1 1 34 (.i j) (ZO j (Z5 1 (.n 8 (.i (j+1:Nat)) (.p (.d (.w (.k .z))))) (ie ?_))))))
    exact ZQ ⟨j+1,w1,True.intro,rfl,rfl,rfl⟩ (wk [2,0,1] (fq (fr (ZW j fl))))
   have Y0:¬(wo=true):=ZG Iff.rfl Za
   refine ZZ 0 14 [2,3,4,5,6,7,8,9,10,11,12,13,14,15] (.n 7 (.b false) (.d (.d (.d (.p (.p (.d (.p (.d (.d (.d (.w (.d .r))))))))))))) (de (az (Z1 1 34 (.i j) (ZO j (Z5 1 (.n 8 (.i (j+1:Nat)) (.p (.d (.w (.k .z))))) (ie ?_))))))
   exact ZQ ⟨j+1,false,ob,rfl,rfl,rfl⟩ (ZL 3 (fq (fr (ZW j fl))))
  refine ax 2 (ar (Z1 1 51 (.b wo) (ie (ac wo Iff.rfl (fun ZI=>?_) (fun ZI=>?_)))))
  ·refine az (Yo 2 52 (Z6 ys u) 53 (.i k) (iL (Z8 [(k:Int)]) 1 1 ?_))
   intro v3
   refine Z5 0 (.n 54 (Z0 [(k:Int)]) (.p .r)) (ip 3 (Z8 (ys++[(k:Int)])) (Z8 ys) (Z8 [(k:Int)]) u none 1 (YD _) (YD _) (XY _) (by simp<;>omega) (by simp [XX,Z8]) ?_)
   intro v4
   refine ir 1 [(1,.i t),(2,.p b1 0),(5,Z6 (ys++[(k:Int)]) v4),(6,.i k)] (ie (az (Z1 1 15 (.i k) (ZO k (Z5 1 (.n 6 (.i (k+1:Nat)) (.p (.d (.k (.k (.k .z)))))) (ie ?_))))))
   exact ZQ ⟨k+1,(ys++[(k:Int)]),v4,ob,ob,(Xq Zz om),rfl,rfl,rfl⟩ (wk [2,2,0] (fw (fr (ZW k fl))))
  refine ak (az (Z1 1 15 (.i k) (ZO k (ir 1 [(1,.i t),(2,.p b1 0),(5,Z6 ys u),(6,.i (k+1:Nat))] (ie ?_)))))
  exact ZQ ⟨k+1,ys,u,ob,ob,ob,rfl,rfl,rfl⟩ (ZL 3 (fw (fr (ZW k fl))))
 refine ax 0 (ar (ir 2 [(4,Z6 ys u)] (ie ?_)))
 exact Zc (r2 [1] [Z6 ys u] ⟨ys,rfl,rfl,⟨by omega,Zz⟩⟩ (Zg.forget _ _))
theorem Si (e:Z2) (left:Int) (hz:e.sz<=1000000:=by exact ob) (hl:0<=left/\left<=1000:=by exact ob) (ih:∀(e2:Z2) (left:Int),(e2.sz<e.sz)->(0<=left/\left<=1000)->Zj Tryz.prog 224 [ZF e2,.i left] [] (fun r h=>∃(w:Int),r=.i w/\h=[]/\NL e2.sz left w)):Zj Tryz.prog 224 [ZF e,.i left] [] (fun r h=>∃(w:Int),r=.i w/\h=[]/\NL e.sz left w):=by
 have hes:=e.sz_eq
 have hel:=In (xs:=e.kids)
 refine ZK 27 Tryz.func224 (ar (iA (Yy e) ?_))
 intro b1
 refine ir 1 [(1,.i left),(2,.p b1 0)] (ie (aq (ar (Z1 2 7 (.b (decide (left<1))) (ie (ZM (left<1) (fun Ze=>?_) (fun Ze=>?_)))))))
 ·refine ar (ir 1 [(4,.i (-1))] (ie ?_))
  exact Zc (r1 [] ⟨(-1),rfl,rfl,(.inr ⟨by omega,rfl⟩)⟩)
 refine ak (ar (Z1 1 8 (.i left) (ia ((left-1)) ((left)-(1)) (ir 1 [(1,.i (left-1)),(2,.p b1 0)] (ie (aq (ar (Z1 1 5 (.i 0) (ie (ab 0 (al (fun m F h=>∃(k:Nat) (q:Int),(k<=e.kids.length)/\(0<=q/\q+1+Xo (e.kids.take k)=left)/\F=[(1,.i q),(2,.p b1 0),(5,.i k)]/\h=[.obj b1 (Yy e)]/\m=e.kids.length-k) _ _ _ ⟨0,(left-1),ob,(by simp [Xo];omega),rfl,rfl,rfl⟩ (wk [0] (fw (Ye fl))) ?_)))))))))))
 rintro m F h ⟨k,q,Ym,Zp,rfl,rfl,rfl⟩
 refine aq (ar (Y1 3 10 (.i k) 12 (X3 e.kids) [0] [b1] (iw (Ft e.kids) (Z1 1 14 (.b (decide ((k:Int)<(e.kids.length:Int)))) (ie (ZM ((k:Int)<(e.kids.length:Int)) (fun Zk=>?_) (fun Zk=>?_)))))))
 ·refine ak (aq (ab 1 (ar (Y1 3 18 (X3 e.kids) 19 (.i k) [0] [b1] ?_))))
  obtain ⟨x1,Z3⟩:=Zs (xs:=e.kids) (j:=k) om
  have hks:=Ay Z3
  have htk:Xo (e.kids.take (k+1))=Xo (e.kids.take k)+(x1).sz:=by rw [WO Z3,C2,Xo,Xo];rfl
  have htl:Xo (e.kids.take (k+1))<=Xo e.kids:=by have h:=Yv Xo (Uy (k+1) e.kids);rw [C2] at h;omega
  refine Zq (Zo none (k:Int) 3 (Bf Z3)) (Yo 2 21 (ZF x1) 22 (.i q) (ic [] (ih x1 q ob ob) ?_))
  rintro _ _ ⟨w1,rfl,rfl,ZP⟩
  have hnl:=ZP
  unfold NL at hnl
  refine ir 1 [(1,.i w1),(2,.p b1 0),(5,.i k)] (ie (ar (Z1 2 25 (.b (decide (w1<0))) (ie (ZM (w1<0) (fun ZI=>?_) (fun ZI=>?_))))))
  ·refine ar (ir 1 [(4,.i (-1))] (ie ?_))
   exact Zc (r1 [] ⟨(-1),rfl,rfl,(.inr ⟨by omega,rfl⟩)⟩)
  refine ak (az (Z1 1 15 (.i k) (ZO k (ir 1 [(1,.i w1),(2,.p b1 0),(5,.i (k+1:Nat))] (ie ?_)))))
  exact ZQ ⟨k+1,w1,ob,ob,rfl,rfl,rfl⟩ (wk [0] (fw (ZW k fl)))
 refine ax 0 (ar (ir 2 [(4,.i q)] (ie ?_)))
 have htk:Xo (e.kids.take k)=Xo e.kids:=by rw [Ve om]
 exact Zc (r1 [] ⟨q,rfl,rfl,(.inl ⟨by omega,by omega⟩)⟩)
theorem Sh (e:Z2) (left:Int) (hz:e.sz<=1000000:=by exact ob) (hl:0<=left/\left<=1000:=by exact ob):Zj Tryz.prog 224 [ZF e,.i left] [] (fun r h=>∃(w:Int),r=.i w/\h=[]/\NL e.sz left w):=by
 have key:∀k:Nat,∀(e2:Z2) (left:Int),(e2.sz<k)->(e2.sz<=1000000)->(0<=left/\left<=1000)->Zj Tryz.prog 224 [ZF e2,.i left] [] (fun r h=>∃(w:Int),r=.i w/\h=[]/\NL e2.sz left w):=by
  intro k
  induction k with
  | zero=>intro e2 left h;omega
  | succ k ih=>intro e2 left h1 h2 h3;exact Si e2 left h2 h3 fun e3 l3 q1 q2=>ih e3 l3 om om q2
 exact key (e.sz+1) e left om hz hl
theorem IW (e:Z2) (hz:e.sz<=1000000:=by exact ob):Zj Tryz.prog 196 [ZF e] [] (fun r h=>∃(w:Int),r=.i w/\h=[]/\((w=e.sz/\e.sz<=30)∨(w=-1/\30<e.sz))):=by
 refine ZK 10 Tryz.func196 (ar (iA (Yy e) ?_))
 intro b1
 refine ir 1 [(1,.p b1 0)] (ie (ar (iR 1 [(4,ZF e)] [0] [b1] (ic [] (Sh e 30) ?_))))
 rintro _ _ ⟨w1,rfl,rfl,ZP⟩
 have hnl:=ZP
 unfold NL at hnl
 refine ir 1 [(3,.i w1)] (ie (aq (ar (Z1 2 7 (.b (decide (w1<0))) (ie (ZM (w1<0) (fun Ze=>?_) (fun Ze=>?_)))))))
 ·refine ar (ir 1 [(2,.i (-1))] (ie ?_))
  exact Zc (r1 [] ⟨(-1),rfl,rfl,ob⟩)
 refine ak (ar (ir 1 [(8,.i w1)] (ia ((30-w1)) ((30)-(w1)) (ir 1 [(2,.i (30-w1))] (ie ?_)))))
 exact Zc (r1 [] ⟨(30-w1),rfl,rfl,ob⟩)
theorem AB (rd:Nat) (bs:List Int) (p:Nat) (g:XT) (gb:Nat) (rs:List Func) (vs:List Int) (ts:List Int) (b:Nat) (bb:Nat) (ZD:∀z∈bs,0<=z/\z<=255) (hp:p+ts.length*bC (b / ts.length)<=1000000000:=by exact ob) (hg:GP g:=by exact ob) (W8:g.funcs <+: rs:=by exact ob) (hv:vs.length+3*bb<=900:=by exact ob) (ht:ts.length<=3:=by exact ob) (hb:b<bb/\bb<=1000:=by exact ob) (ih:∀(rd:Nat) (bs:List Int) (p:Nat) (vs2:List Int) (t2:Int) (b2:Nat),(∀z∈bs,0<=z/\z<=255)->(p+bC b2<=1000000000)->(vs2.length+3*b2<=900)->(b2<bb)->Zj Tryz.prog 219 [.p rd 0,.agg (Y8 g gb),Z0 vs2,.i t2,.i b2] [Yl rd bs p,YI gb rs] (fun r h=>∃(e:Z2) (p2:Nat),r=ZF e/\h=[Yl rd bs p2,YI gb rs]/\GE g vs2.length (bS b2) e/\p<=p2/\p2<=p+bC b2)):Zj Tryz.prog 247 [.p rd 0,.agg (Y8 g gb),Z0 vs,Z0 ts,.i b] [Yl rd bs p,YI gb rs] (fun r h=>∃(ys:List Z2) (p2:Nat),r=X3 ys/\h=[Yl rd bs p2,YI gb rs]/\ys.length=ts.length/\(∀e∈ys,GE g vs.length (bS (b / ts.length)) e)/\p<=p2/\p2<=p+ts.length*bC (b / ts.length)):=by
 have hqb:=Nat.div_le_self b ts.length
 refine ZK 36 Tryz.func247 (ar (iA (Y8 g gb) ?_))
 intro b1
 refine ir 1 [(0,.p rd 0),(2,Z0 vs),(3,Z0 ts),(4,.i b),(6,.p b1 0)] (ie (ar (iL (Yp []) 0 3 ?_)))
 intro v1
 refine Z1 1 11 (XQ [] v1) (ie (aq (ar (Z1 1 12 (.i 0) (ie (ab 0 (al (fun m F h=>∃(k:Nat) (ys:List Z2) (u:Value) (pq:Nat),(k<=ts.length)/\(ys.length=k)/\(∀e∈ys,GE g vs.length (bS (b / ts.length)) e)/\(p<=pq/\pq<=p+k*bC (b / ts.length))/\F=[(0,.p rd 0),(2,Z0 vs),(3,Z0 ts),(4,.i b),(6,.p b1 0),(11,XQ ys u),(12,.i k)]/\h=[.obj b1 (Y8 g gb),Yl rd bs pq,YI gb rs,.tail u 3]/\m=ts.length-k) _ _ _ ⟨0,[],v1,p,ob,ob,(fun e he=>by cases he),(by simp),rfl,rfl,rfl⟩ (wk [1,1,1,0] (fq (fw (Ye fl)))) ?_)))))))
 rintro m F h ⟨k,ys,u,pq,Ym,Zp,Zz,YJ,rfl,rfl,rfl⟩
 refine aq (ar (Yo 2 14 (.i k) 15 (Z0 ts) (iw (Yd ts) (Z1 1 17 (.b (decide ((k:Int)<(ts.length:Int)))) (ie (ZM ((k:Int)<(ts.length:Int)) (fun Ze=>?_) (fun Ze=>?_)))))))
 ·obtain ⟨hm1,hm2⟩:=LV (k:=k) (L:=ts.length) (C:=bC (b / ts.length)) om
  refine ak (aq (ab 1 (aE 16 (Y6 10 16 [0,1,2,3,4,5] (.n 20 (XQ ys u) (.n 21 (.p rd 0) (.n 22 (.agg (Y8 g gb)) (.n 23 (Z0 vs) (.n 24 (Z0 ts) (.n 25 (.i k) .r)))))) [0] [b1] ?_))))
  obtain ⟨x1,Z3⟩:=Zs (xs:=ts) (j:=k) om
  refine dx 6 (Zo none (k:Int) 1 (Y3 Z3)) (ZZ 6 9 [7,8,9] (.n 27 (.i x1) (.n 28 (.i b) (.n 29 (Z0 ts) .r))) (dw 10 (Yd ts) (dx 11 (AJ b ts.length om om) (Z9 12 (dc 12 [1,1] [] [] (ih rd bs pq vs x1 (b / ts.length) ob ob ob ob) ?_)))))
  rintro _ _ ⟨e1,p21,rfl,rfl,ZP⟩
  have X2:=ZP.1
  refine Z9 13 (Wj 13 [] [] [ZF e1] (Yp [e1]) (XE [e1]).symm 1 3 ?_)
  intro v2
  refine ZZ 2 2 [] (.n 33 (X3 [e1]) (.p .r)) (Z9 14 (dp 14 4 [] [] (Yp (ys++[e1])) (Yp ys) (Yp [e1]) u none 3 (Un _) (Un _) (Kq _) (by simp<;>omega) (by simp [Ko,Yp]) ?_))
  intro v3
  refine Xa 0 1 [15] [(0,.p rd 0),(2,Z0 vs),(3,Z0 ts),(4,.i b),(6,.p b1 0),(11,XQ (ys++[e1]) v3),(12,.i k)] (de (az (Z1 1 18 (.i k) (ZO k (Z5 1 (.n 12 (.i (k+1:Nat)) (.p (.d (.w (.k (.k .z)))))) (ie ?_))))))
  exact ZQ ⟨k+1,(ys++[e1]),v3,p21,ob,ob,(Xq Zz (by assumption)),om,rfl,rfl,rfl⟩ (wk [4,2,2,0] (fq (fw (ZW k fl))))
 have hke:k=ts.length:=by omega
 subst hke
 refine ax 0 (ar (ir 2 [(10,XQ ys u)] (ie ?_)))
 exact Zc (r2 [1,1] [XQ ys u] ⟨ys,pq,rfl,rfl,⟨by omega,Zz,by omega⟩⟩ (Zg.forget _ _))
theorem RT (rd:Nat) (bs:List Int) (p:Nat) (g:XT) (gb:Nat) (rs:List Func) (vs:List Int) (t:Int) (b:Nat) (ZD:∀z∈bs,0<=z/\z<=255) (hp:p+(bC b-1)<=1000000000:=by exact ob) (hg:GP g:=by exact ob) (W8:g.funcs <+: rs:=by exact ob) (hv:vs.length+3*b<=900:=by exact ob) (hb:3<=b:=by exact ob) (ih:∀(rd:Nat) (bs:List Int) (p:Nat) (vs2:List Int) (t2:Int) (b2:Nat),(∀z∈bs,0<=z/\z<=255)->(p+bC b2<=1000000000)->(vs2.length+3*b2<=900)->(b2<b)->Zj Tryz.prog 219 [.p rd 0,.agg (Y8 g gb),Z0 vs2,.i t2,.i b2] [Yl rd bs p,YI gb rs] (fun r h=>∃(e:Z2) (p2:Nat),r=ZF e/\h=[Yl rd bs p2,YI gb rs]/\GE g vs2.length (bS b2) e/\p<=p2/\p2<=p+bC b2)):Zj Tryz.prog 248 [.p rd 0,.agg (Y8 g gb),Z0 vs,.i t,.i b] [Yl rd bs p,YI gb rs] (fun r h=>∃(e:Z2) (p2:Nat),r=ZF e/\h=[Yl rd bs p2,YI gb rs]/\GE g vs.length (bS b) e/\p<=p2/\p2<=p+(bC b-1)):=by
 have Xu:=hg.decls.ok
 have hgl:=hg.len
 have hdl:=hg.decls.len
 have hcm:=HJ b
 refine ZK 69 Tryz.func248 (ar (iA (Y8 g gb) ?_))
 intro b1
 refine iA [.i 0,.i 0,nl] ?_
 intro b2
 refine ie (ar (ir 1 [(0,.p rd 0),(2,Z0 vs),(3,.i t),(4,.i b),(6,.p b1 0),(10,.p b2 0),(15,.p rd 0)] (iL (Z8 [1,1,3,4]) 4 1 ?_)))
 intro v1
 refine Z5 0 (.n 16 (Z0 [1,1,3,4]) (.p .r)) (ic [3] (Vt rd bs p [1,1,3,4] (ZD:=ob)) ?_)
 rintro _ _ ⟨z1,rfl,rfl,ZP⟩
 have hz:=JZ (a:=1) (b:=4) ZP (by decide)
 refine Z1 1 11 (.i z1) (ie (aq (ar (Y1 3 18 (.i z1) 20 (Zd g.decls) [3] [b1] (iw (VN g.decls) (Xp [(0,.p rd 0),(2,Z0 vs),(3,.i t),(4,.i b),(6,.p b1 0),(10,.p b2 0),(11,.i z1),(28,.b ((decide (z1>(g.decls.length:Int)))||X5 g.decls z1))] [.obj rd [X9 bs,.i (p+1:Nat)],.tail v1 1,.obj b2 [.i 0,.i 0,nl],.obj b1 (Y8 g gb),YI gb rs] ?_ ?_))))))
 ·refine ir 2 [(0,.p rd 0),(2,Z0 vs),(3,.i t),(4,.i b),(6,.p b1 0),(10,.p b2 0),(11,.i z1),(23,.b (decide (z1>(g.decls.length:Int))))] (ib (b:=(decide (z1>(g.decls.length:Int)))) 23 (fun Za=>?_) (fun Za=>?_))
  ·have Y0:z1>(g.decls.length:Int):=(dq).1 Za
   refine Z5 5 (.n 28 (.b true) (.d (.w (.k (.k (.k .z)))))) (ie ?_)
   exact ZL 5 (fq (fw (fr (Zr true Za fl))))
  have YB:¬(z1>(g.decls.length:Int)):=ZG dq Za
  refine Y2 3 (.n 25 (Zd g.decls) (.n 26 (.i z1) (.w (.w .z)))) [3] [b1] (ZA [] (CJ g.decls z1) (Z1 1 28 (.b (X5 g.decls z1)) (ie ?_)))
  exact ZL 5 (fq (fw (fr (Zr (X5 g.decls z1) Za fl))))
 refine XI (fun F h=>∃(d:Int),(1<=d/\d<=4)/\F=[(0,.p rd 0),(2,Z0 vs),(3,.i t),(4,.i b),(6,.p b1 0),(10,.p b2 0),(11,.i d)]/\h=[.obj rd [X9 bs,.i (p+1:Nat)],.obj b2 [.i 0,.i 0,nl],.obj b1 (Y8 g gb),YI gb rs]) ?_ ?_
 ·refine ac ((decide (z1>(g.decls.length:Int)))||X5 g.decls z1) (p:=(z1>(g.decls.length:Int))∨(X5 g.decls z1=true)) (Yh dq Iff.rfl) (fun Ze=>?_) (fun Ze=>?_)
  ·refine az (ir 1 [(0,.p rd 0),(2,Z0 vs),(3,.i t),(4,.i b),(6,.p b1 0),(10,.p b2 0),(11,.i 1)] (ie ?_))
   exact ZV ⟨1,om,rfl,rfl⟩ (wk [0,1,1,1] fl)
  refine ak ?_
  exact ZV ⟨z1,om,rfl,rfl⟩ (wk [0,1,1,1] fl)
 rintro F h ⟨d,QC,rfl,rfl⟩
 have hcl:=Gr Xu d
 have hmc:=Z21 (L:=(Zu g.decls d).length) (q:=((b-2) / (Zu g.decls d).length)) (b:=b) om hb (Ti _ _)
 have hqb:=Nat.div_le_self (b-2) (Zu g.decls d).length
 refine ar (iR 3 [(0,.p rd 0),(2,Z0 vs),(3,.i t),(4,.i b),(6,.p b1 0),(10,.p b2 0),(11,.i d),(30,Zd g.decls),(31,.i d)] [2] [b1] (ic [] (KH g.decls d) ?_))
 rintro _ _ ⟨v2,rfl,rfl⟩
 refine Z1 1 12 (Z6 (Zu g.decls d) v2) (ie (ar (Y2 4 (.n 33 (.p rd 0) (.n 34 (.agg (Y8 g gb)) (.n 35 (Z0 vs) (.n 36 (.i d) .r)))) [3] [b1] (ic [1,3] (Bn rd bs (p+1) g gb rs vs d (ZD:=ob)) ?_))))
 rintro _ _ ⟨e1,p21,rfl,rfl,YN⟩
 have hle:=YN.1
 refine VZ [ZF e1] (Yp [e1]) (XE [e1]).symm 1 3 ?_
 intro v3
 refine Z1 1 13 (XQ [e1] v3) (ie (aq (ar (Z1 1 14 (.i 0) (ie (ab 0 (al (fun m F h=>∃(k:Nat) (ys:List Z2) (u:Value) (pq:Nat),(k<=(Zu g.decls d).length)/\(ys.length=k)/\(TQ g.decls g.funcs.length (Tb g.decls 8 d vs.length) 1 ys)/\(∀e∈ys,e.sz<=bS ((b-2) / (Zu g.decls d).length))/\(p<=pq/\pq<=p+31+k*bC ((b-2) / (Zu g.decls d).length))/\F=[(0,.p rd 0),(2,Z0 vs),(3,.i t),(4,.i b),(6,.p b1 0),(10,.p b2 0),(11,.i d),(12,Z0 (Zu g.decls d)),(13,XQ (e1::ys) u),(14,.i k)]/\h=[Yl rd bs pq,YI gb rs,.obj b2 [.i 0,.i 0,nl],.obj b1 (Y8 g gb),.tail u 3]/\m=(Zu g.decls d).length-k) _ _ _ ⟨0,[],v3,p21,ob,rfl,True.intro,(fun e he=>by cases he),(by simp only [Nat.zero_mul];omega),rfl,rfl,rfl⟩ (wk [1,1,2,2,0] (fq (fw (fr (fc (x:=Z6 (Zu g.decls d) v2) (Zg.forget _ _) (fc (x:=XQ [e1] v3) (Zg.slh _ (Yv Yp rfl)) (Ye fl))))))) ?_)))))))
 rintro m F h ⟨k,ys,u,pq,Ym,Zp,Zz,YJ,Wd,rfl,rfl,rfl⟩
 refine aq (ar (Yo 2 39 (.i k) 40 (Z0 (Zu g.decls d)) (io (.i (((Zu g.decls d).length:Nat):Int)) (.i (((Z8 (Zu g.decls d)).length:Nat):Int)) (li (by rw [Yd])) (Z1 1 42 (.b (decide ((k:Int)<(((Zu g.decls d).length:Nat):Int)))) (ie (ZM ((k:Int)<(((Zu g.decls d).length:Nat):Int)) (fun Zk=>?_) (fun Zk=>?_)))))))
 ·refine ak (aq (ab 1 (aE 22 (Y6 14 22 [0,1,2,3,4,5,6,7] (.n 45 (XQ (e1::ys) u) (.n 46 (.p rd 0) (.n 47 (.agg (Y8 g gb)) (.n 48 (Z0 vs) (.n 50 (Zd g.decls) (.n 51 (Z0 (Zu g.decls d)) (.n 52 (.i k) .r))))))) [3,3] [b1,b1] ?_))))
  obtain ⟨x1,Z3⟩:=Zs (xs:=Zu g.decls d) (j:=k) om
  have hcf:=VH Xu x1
  have harm:=BI (m:=vs.length) Z3
  obtain ⟨hm1,hm2⟩:=LV (k:=k) (L:=(Zu g.decls d).length) (C:=bC ((b-2) / (Zu g.decls d).length)) om
  refine dx 8 (Zo none (k:Int) 1 (Y3 Z3)) (ZZ 10 13 [9,12,13] (.n 54 (.i x1) (.n 57 (.i t) (.n 58 (.i b) .r))) (da 14 (((b-2:Nat):Int)) (((b:Int))-(2)) (ZY 8 9 [15] 60 (Z0 (Zu g.decls d)) (dn 16 (.i (((Zu g.decls d).length:Nat):Int)) (.i (((Z8 (Zu g.decls d)).length:Nat):Int)) (li (by rw [Yd])) (dx 17 (AJ (b-2) ((Zu g.decls d).length) om om) (Z9 10 (Ys 10 [] [3] [b1] (Qh g.decls x1) (Z9 11 (dc 11 [] [3] [b1] (Q2 vs (ZB g.decls x1)) ?_)))))))))
  rintro _ _ ⟨v4,rfl,rfl⟩
  refine ZZ 4 4 [] (.n 56 (Z0 (vs++(ZB g.decls x1))) (.p .r)) (Z9 18 (dc 18 [1,1] [] [] (ih rd bs pq (vs++(ZB g.decls x1)) t ((b-2) / ((Zu g.decls d).length)) ob ob (by simp only [Yx];omega) ob) ?_))
  rintro _ _ ⟨e2,p22,rfl,rfl,YX⟩
  have X2:=YX.1
  refine Z9 19 (Wj 19 [] [] [ZF e2] (Yp [e2]) (XE [e2]).symm 1 3 ?_)
  intro v5
  refine ZZ 2 2 [] (.n 64 (X3 [e2]) (.p .r)) (Z9 20 (dp 20 6 [] [] (Yp ((e1::ys)++[e2])) (Yp (e1::ys)) (Yp [e2]) u none 3 (Un _) (Un _) (Kq _) (by simp<;>omega) (by simp [Ko,Yp]) ?_))
  intro v6
  refine Xa 0 1 [21] [(0,.p rd 0),(2,Z0 vs),(3,.i t),(4,.i b),(6,.p b1 0),(10,.p b2 0),(11,.i d),(12,Z0 (Zu g.decls d)),(13,XQ ((e1::ys)++[e2]) v6),(14,.i k)] (de (az (Z1 1 43 (.i k) (ZO k (Z5 1 (.n 14 (.i (k+1:Nat)) (.p (.d (.w (.w (.k .z)))))) (ie ?_))))))
  exact ZQ ⟨k+1,(ys++[e2]),v6,p22,ob,ob,(Ij.2 ⟨Zz,by rw [Zp,harm,<-Yx];exact X2.1,True.intro⟩),(Xq YJ X2.2),om,rfl,rfl,rfl⟩ (wk [2,2,3,3,0] (fq (fq (fc (x:=XQ ((e1::ys)++[e2]) v6) (Zg.slh _ (Yv Yp rfl)) (ZW k fl)))))
 refine ax 0 (ar (Yo 2 66 (.i d) 67 (X3 (e1::ys)) (ZA [] (XG 8 d (e1::ys)) (ZH 2 b2 (Yy (Z2.mk 8 d (e1::ys))) (ie ?_)))))
 have hke:k=(Zu g.decls d).length:=by omega
 subst hke
 exact Zc (r3 [1,1] [ZF (Z2.mk 8 d (e1::ys))] [0] [(b2,b2)] ⟨(Z2.mk 8 d (e1::ys)),pq,rfl,rfl,⟨GE.match_ om hle Zz YJ Zp rfl om (Z22 om hb (Ti _ _)),by omega⟩⟩ (lr _))
theorem IQ (rd:Nat) (bs:List Int) (p:Nat) (g:XT) (gb:Nat) (rs:List Func) (vs:List Int) (t:Int) (b:Nat) (ZD:∀z∈bs,0<=z/\z<=255) (hp:p+(bC b-1)<=1000000000:=by exact ob) (hg:GP g:=by exact ob) (W8:g.funcs <+: rs:=by exact ob) (hv:vs.length+3*b<=900:=by exact ob) (hb:3<=b:=by exact ob) (ih:∀(rd:Nat) (bs:List Int) (p:Nat) (vs2:List Int) (t2:Int) (b2:Nat),(∀z∈bs,0<=z/\z<=255)->(p+bC b2<=1000000000)->(vs2.length+3*b2<=900)->(b2<b)->Zj Tryz.prog 219 [.p rd 0,.agg (Y8 g gb),Z0 vs2,.i t2,.i b2] [Yl rd bs p,YI gb rs] (fun r h=>∃(e:Z2) (p2:Nat),r=ZF e/\h=[Yl rd bs p2,YI gb rs]/\GE g vs2.length (bS b2) e/\p<=p2/\p2<=p+bC b2)):Zj Tryz.prog 250 [.p rd 0,.agg (Y8 g gb),Z0 vs,.i t,.i b] [Yl rd bs p,YI gb rs] (fun r h=>∃(e:Z2) (p2:Nat),r=ZF e/\h=[Yl rd bs p2,YI gb rs]/\GE g vs.length (bS b) e/\p<=p2/\p2<=p+(bC b-1)):=by
 have Xu:=hg.decls.ok
 have hgl:=hg.len
 have hdl:=hg.decls.len
 have hac:=Ot hb
 have has:=Ou hb
 refine ZK 120 Tryz.func250 (ar (iA (Y8 g gb) ?_))
 intro b1
 refine iA [.i 0,.i 0,nl] ?_
 intro b2
 refine ie (aq (ar (ir 1 [(0,.p rd 0),(2,Z0 vs),(3,.i t),(4,.i b),(6,.p b1 0),(10,.p b2 0),(14,.p rd 0)] (ic [2] (XU rd bs p 4 (ZD:=ob)) ?_))))
 rintro _ _ ⟨k1,rfl,rfl,ZP⟩
 have qhp1:=ZP.lt om
 refine Z1 1 16 (.b (k1==0)) (ie (XI (fun F h=>∃(p5:Nat),(p<=p5/\p5<=p+1)/\F=[(0,.p rd 0),(2,Z0 vs),(3,.i t),(4,.i b),(6,.p b1 0),(10,.p b2 0)]/\h=[Yl rd bs p5,.obj b2 [.i 0,.i 0,nl],.obj b1 (Y8 g gb),YI gb rs]) ?_ ?_))
 ·refine ac (k1==0) Zh (fun Ze=>?_) (fun Ze=>?_)
  ·refine ar (ir 1 [(0,.p rd 0),(2,Z0 vs),(3,.i t),(4,.i b),(6,.p b1 0),(10,.p b2 0),(11,.i 1)] (ie (ab 0 (al (fun m F h=>∃(a:Nat),(1<=a/\a<=g.decls.length+1)/\F=[(0,.p rd 0),(2,Z0 vs),(3,.i t),(4,.i b),(6,.p b1 0),(10,.p b2 0),(11,.i a)]/\h=[.obj rd [X9 bs,.i (p+1:Nat)],.obj b2 [.i 0,.i 0,nl],.obj b1 (Y8 g gb),YI gb rs]/\m=g.decls.length+1-a) _ _ _ ⟨1,ob,rfl,rfl,rfl⟩ (ZL 4 (fq (fw (fc (x:=.i 1) li fl)))) ?_))))
   rintro m F h ⟨a,Ym,rfl,rfl,rfl⟩
   refine aq (ar (Y1 3 17 (.i a) 19 (Zd g.decls) [2] [b1] (iw (VN g.decls) (Z1 1 21 (.b (decide ((a:Int)<=(g.decls.length:Int)))) (ie (ZM ((a:Int)<=(g.decls.length:Int)) (fun Zk=>?_) (fun Zk=>?_)))))))
   ·refine ak (aq (ab 1 (aq (XI (fun F h=>∃(wb:Bool),(True)/\F=[(0,.p rd 0),(2,Z0 vs),(3,.i t),(4,.i b),(6,.p b1 0),(10,.p b2 0),(11,.i a),(44,.b wb)]/\h=[.obj rd [X9 bs,.i (p+1:Nat)],.obj b2 [.i 0,.i 0,nl],.obj b1 (Y8 g gb),YI gb rs]) ?_ ?_))))
    ·refine az (iR 3 [(0,.p rd 0),(2,Z0 vs),(3,.i t),(4,.i b),(6,.p b1 0),(10,.p b2 0),(11,.i a),(25,Zd g.decls),(26,.i a)] [2] [b1] (ZA [] (CJ g.decls (a:Int)) (Z1 1 28 (.b (X5 g.decls (a:Int))) (ib (b:=X5 g.decls (a:Int)) 28 (fun Za=>?_) (fun Za=>?_)))))
     ·have Y0:X5 g.decls (a:Int)=true:=(Iff.rfl).1 Za
      refine Y2 3 (.n 30 (Zd g.decls) (.n 31 (.i a) (.k (.d .r)))) [2] [b1] (ia (((a-1:Nat):Int)) (((a:Int))-(1)) ?_)
      obtain ⟨x1,Z3⟩:=Zs (xs:=g.decls) (j:=a-1) om
      refine Zq (Zo none ((a-1:Nat):Int) 3 (Vi Z3)) (Z1 6 39 (.b (x1.to_==t)) (ib (b:=(x1.to_==t)) 39 (fun Zw=>?_) (fun Zw=>?_)))
      ·have YB:x1.to_=t:=(Zh).1 Zw
       refine Y2 3 (.n 40 (.agg (Y8 g gb)) (.n 41 (Z0 vs) (.n 42 (.i a) (.k (.d .r))))) [2] [b1] (ic [3] (Dy g gb rs vs (a:Int)) ?_)
       rintro _ _ ⟨w1,rfl,rfl⟩
       refine Z1 1 44 (.b w1) (ie ?_)
       exact ZV ⟨w1,True.intro,rfl,rfl⟩ (wk [1,1,1,0] fl)
      have YN:¬(x1.to_=t):=ZG Zh Zw
      refine Z5 5 (.n 44 (.b false) (.k (.d .r))) (ie ?_)
      exact ZV ⟨false,True.intro,rfl,rfl⟩ (ZL 4 fl)
     have YX:¬(X5 g.decls (a:Int)=true):=ZG Iff.rfl Za
     refine Z5 16 (.n 44 (.b false) (.k (.d .r))) (ie ?_)
     exact ZV ⟨false,True.intro,rfl,rfl⟩ (ZL 4 fl)
    rintro F h ⟨wb,kR5_0,rfl,rfl⟩
    refine ac wb Iff.rfl (fun ZI=>?_) (fun ZI=>?_)
    ·refine aD 21 (W2 11 21 [0,1,2,3,5,6,7,8,9,10] [(4,.i b),(10,.p b2 0),(45,.p rd 0),(46,.agg (Y8 g gb)),(47,Z0 vs),(48,.i a),(50,.p rd 0),(51,.agg (Y8 g gb)),(52,Z0 vs),(54,Zd g.decls),(55,.i a)] [2,2,2] [b1,b1,b1] (da 11 (((a-1:Nat):Int)) (((a:Int))-(1)) ?_))
     obtain ⟨x2,Zv⟩:=Zs (xs:=g.decls) (j:=a-1) om
     refine dx 12 (Zo none ((a-1:Nat):Int) 3 (Vi Zv)) (ZZ 6 9 [13,14,15] (.n 59 (.i x2.frm) (.n 60 (.i b) .r)) (da 16 (((b-2:Nat):Int)) (((b:Int))-(2)) (Z9 4 (dc 4 [0,2] [1,1] [b1,b1] (Bn rd bs (p+1) g gb rs vs (a:Int) (ZD:=ob)) ?_))))
     rintro _ _ ⟨e1,p21,rfl,rfl,Xy⟩
     have hle:=Xy.1
     refine Z9 17 (dc 17 [0,0] [] [] (ih rd bs p21 vs x2.frm (b-2) ob ob ob ob) ?_)
     rintro _ _ ⟨e2,p22,rfl,rfl,Wh⟩
     have X2:=Wh.1
     refine Z9 18 (Wj 18 [] [] [ZF e1,ZF e2] (Yp [e1,e2]) (XE [e1,e2]).symm 2 3 ?_)
     intro v1
     refine ZZ 2 2 [] (.n 63 (X3 [e1,e2]) (.p .r)) (Z9 19 (Ys 19 [] [] [] (XG 11 0 [e1,e2]) (Z9 20 (YK 20 3 [] [] b2 (Yy (Z2.mk 11 0 [e1,e2])) (de ?_)))))
     exact Zc (r3 [2,2] [ZF (Z2.mk 11 0 [e1,e2])] [0] [(b2,b2)] ⟨(Z2.mk 11 0 [e1,e2]),p22,rfl,rfl,⟨GE.two om om hle X2 om,by omega⟩⟩ (lr _))
    refine ak (az (ir 1 [(0,.p rd 0),(2,Z0 vs),(3,.i t),(4,.i b),(6,.p b1 0),(10,.p b2 0),(22,.i a)] (ZO a (Z1 1 11 (.i (a+1:Nat)) (ie ?_)))))
    exact ZQ ⟨a+1,ob,rfl,rfl,rfl⟩ (ZL 4 (fq (fw (ZW a fl))))
   refine ax 0 ?_
   exact ZV ⟨p+1,ob,rfl,rfl⟩ (ZL 4 fl)
  refine ak ?_
  exact ZV ⟨p+1,ob,rfl,rfl⟩ (ZL 4 fl)
 rintro F h ⟨p5,QC,rfl,rfl⟩
 refine ar (iR 3 [(0,.p rd 0),(2,Z0 vs),(3,.i t),(4,.i b),(6,.p b1 0),(10,.p b2 0),(66,Zd g.decls),(67,.i t)] [2] [b1] (ic [] (KH g.decls t) ?_))
 rintro _ _ ⟨v2,rfl,rfl⟩
 refine Z1 1 12 (Z6 (Zu g.decls t) v2) (ie (aq (ar (Z1 1 69 (Z6 (Zu g.decls t) v2) (io (.i (((Zu g.decls t).length:Nat):Int)) (.i (((Z8 (Zu g.decls t)).length:Nat):Int)) (li (by rw [Yd])) (Z1 1 71 (.b (decide ((((Zu g.decls t).length:Nat):Int)>0))) (ie (ZM ((((Zu g.decls t).length:Nat):Int)>0) (fun Yi=>?_) (fun Yi=>?_)))))))))
 ·refine ar (Z5 3 (.n 72 (Z6 (Zu g.decls t) v2) (.n 73 (.p rd 0) (.n 74 (Z6 (Zu g.decls t) v2) .r))) (io (.i (((Zu g.decls t).length:Nat):Int)) (.i (((Z8 (Zu g.decls t)).length:Nat):Int)) (li (by rw [Yd])) (ic [1] (XU rd bs p5 (((Zu g.decls t).length:Nat):Int) (ZD:=ob)) ?_)))
  rintro _ _ ⟨k2,rfl,rfl,WJ⟩
  have qhp8:=WJ.lt om
  obtain ⟨x3,YT⟩:=Zs (xs:=Zu g.decls t) (j:=k2.toNat) om
  have hcc:=hg.decls.cons_cases (Y7 YT)
  refine Zq (Zo (some v2) k2 1 (Y3 YT)) (Z1 2 13 (.i x3) (ie (aD 13 (W2 5 13 [0,1,2,3,4,5,6,8] [(10,.p b2 0),(79,.i x3),(80,.p rd 0),(81,.agg (Y8 g gb)),(82,Z0 vs),(84,Zd g.decls),(85,.i x3),(87,.i b)] [3,3] [b1,b1] (da 9 (((b-1:Nat):Int)) (((b:Int))-(1)) (Z9 7 (Ys 7 [] [2] [b1] (Qh g.decls x3) (Z9 10 (dc 10 [0,3] [] [] (AB rd bs (p5+1) g gb rs vs (ZB g.decls x3) (b-1) b (ZD:=ob) (hp:=(AL (p:=p) (by first|omega|simp) hb om om)) (ht:=(by first|omega|simp)) (hb:=om) (ih:=ih)) ?_)))))))))
  rintro _ _ ⟨ys1,p23,rfl,rfl,V2⟩
  have hga1:=V2.1
  have hga2:=V2.2.1
  have hga3:=V2.2.2
  have hnc:=Jj (b:=b) (show (ys1).length<=3 by rw [hga1];first|omega|simp) hb (Ti _ (b-1))
  rw [hga1] at hnc
  refine Z9 11 (Ys 11 [] [] [] (XG 6 x3 ys1) (Z9 12 (YK 12 3 [] [] b2 (Yy (Z2.mk 6 x3 ys1)) (de ?_))))
  exact Zc (r3 [1,1] [ZF (Z2.mk 6 x3 ys1)] [0] [(b2,b2)] ⟨(Z2.mk 6 x3 ys1),p23,rfl,rfl,⟨GE.node om (fun h=>by omega) om hga2 hga1 (by first|omega|simp) (Ct (by first|omega|simp) hb (Ti _ _)),by omega⟩⟩ (lr _))
 refine ak (aq (ar (Z1 2 92 (.b (decide (t>0))) (ie (ZM (t>0) (fun Xk=>?_) (fun Xk=>?_))))))
 ·refine ar (Y2 4 (.n 93 (.p rd 0) (.n 94 (.agg (Y8 g gb)) (.n 95 (Z0 vs) (.n 96 (.i t) .r)))) [3] [b1] (ic [1,3] (Bn rd bs p5 g gb rs vs t (ZD:=ob)) ?_))
  rintro _ _ ⟨e3,p24,rfl,rfl,Ua⟩
  have hle:=Ua.1
  refine ZH 3 b2 (Yy e3) (ie ?_)
  exact Zc (r3 [1,1] [ZF e3] [0] [(b2,b2)] ⟨e3,p24,rfl,rfl,⟨hle.le (HK b),by omega⟩⟩ (lr _))
 refine ak (aq (ar (Z1 1 98 (.p rd 0) (ic [1] (XU rd bs p5 3 (ZD:=ob)) ?_))))
 rintro _ _ ⟨k3,rfl,rfl,UE⟩
 have qhp11:=UE.lt om
 refine Z1 1 100 (.b (k3==0)) (ie (ac (k3==0) Zh (fun Xl=>?_) (fun Xl=>?_)))
 ·refine ar (Y2 3 (.n 101 (.p rd 0) (.n 102 (.agg (Y8 g gb)) (.n 103 (Z0 vs) .r))) [3] [b1] (iL (Z8 [0]) 1 1 ?_))
  intro v3
  refine Z1 1 105 (.i b) (ia (((b-1:Nat):Int)) (((b:Int))-(1)) (Z5 0 (.n 104 (Z0 [0]) (.q 106 (.k (.p .r)))) (ic [1,4] (AB rd bs (p5+1) g gb rs vs [0] (b-1) b (ZD:=ob) (hp:=(AL (p:=p) (by first|omega|simp) hb om om)) (ht:=(by first|omega|simp)) (hb:=om) (ih:=ih)) ?_)))
  rintro _ _ ⟨ys2,p25,rfl,rfl,Ur⟩
  have hga1:=Ur.1
  have hga2:=Ur.2.1
  have hga3:=Ur.2.2
  have hnc:=Jj (b:=b) (show (ys2).length<=3 by rw [hga1];first|omega|simp) hb (Ti _ (b-1))
  rw [hga1] at hnc
  refine ZA [] (XG 5 0 ys2) (ZH 4 b2 (Yy (Z2.mk 5 0 ys2)) (ie ?_))
  exact Zc (r3 [1,1] [ZF (Z2.mk 5 0 ys2)] [0] [(b2,b2)] ⟨(Z2.mk 5 0 ys2),p25,rfl,rfl,⟨GE.node om (fun h=>by omega) om hga2 hga1 (by first|omega|simp) (Ct (by first|omega|simp) hb (Ti _ _)),by omega⟩⟩ (lr _))
 refine ak (aD 12 (W2 7 12 [0,3,4,5,7] [(10,.p b2 0),(109,.p rd 0),(112,.p rd 0),(113,.agg (Y8 g gb)),(114,Z0 vs),(116,.i b)] [3] [b1] (da 8 (((b-1:Nat):Int)) (((b:Int))-(1)) (dK (fun F h=>∃(z1:Int) (ys3:List Z2) (p26:Nat),(z1∈[1,2,3,4])/\(ys3.length=[0,0].length/\(∀e∈ys3,GE g vs.length (bS ((b-1) / [0,0].length)) e)/\((p5+1)+1)<=p26/\p26<=((p5+1)+1)+[0,0].length*bC ((b-1) / [0,0].length))/\F=[(10,.p b2 0)]/\h=[.obj b2 (Yy (Z2.mk z1 0 ys3)),Yl rd bs p26,YI gb rs,.tail v2 1,.obj b1 (Y8 g gb)]) ?_ ?_))))
 ·refine Vh 1 6 ?_ ?_
  ·refine dL 1 [2] [b1] (Z8 [1,2,3,4]) 4 1 ?_
   intro v4
   refine Xa 5 5 [] [(10,.p b2 0),(109,.p rd 0),(110,Z0 [1,2,3,4]),(112,.p rd 0),(113,.agg (Y8 g gb)),(114,Z0 vs),(117,.i (b-1:Nat))] (Vh 2 6 ?_ ?_)
   ·refine dc 2 [1] [1] [b1] (Vt rd bs (p5+1) [1,2,3,4] (ZD:=ob)) ?_
    rintro _ _ ⟨z1,rfl,rfl,Tm⟩
    have hz:=JZ (a:=1) (b:=4) Tm (by decide)
    refine Z9 6 (dL 6 [2] [b1] (Z8 [0,0]) 2 1 ?_)
    intro v5
    refine Xa 3 3 [] [(10,.p b2 0),(111,.i z1),(112,.p rd 0),(113,.agg (Y8 g gb)),(114,Z0 vs),(115,Z0 [0,0]),(117,.i (b-1:Nat))] (Z9 9 (dc 9 [1,5] [] [] (AB rd bs ((p5+1)+1) g gb rs vs [0,0] (b-1) b (ZD:=ob) (hp:=(AL (p:=p) (by first|omega|simp) hb om om)) (ht:=(by first|omega|simp)) (hb:=om) (ih:=ih)) ?_))
    rintro _ _ ⟨ys3,p26,rfl,rfl,T5⟩
    have hga1:=T5.1
    have hga2:=T5.2.1
    have hga3:=T5.2.2
    have hnc:=Jj (b:=b) (show (ys3).length<=3 by rw [hga1];first|omega|simp) hb (Ti _ (b-1))
    rw [hga1] at hnc
    refine Z9 10 (Ys 10 [] [] [] (XG z1 0 ys3) (Z9 11 (YK 11 5 [] [] b2 (Yy (Z2.mk z1 0 ys3)) (de ?_))))
    exact ZV ⟨z1,ys3,p26,(by assumption),(by assumption),rfl,rfl⟩ (wk [0,0,0,2,2] fl)
   refine dL 6 [2] [b1] (Z8 [0,0]) 2 1 ?_
   intro v6
   refine Z9 2 (dc 2 [2] [1] [b1] (Vt rd bs (p5+1) [1,2,3,4] (ZD:=ob)) ?_)
   rintro _ _ ⟨z2,rfl,rfl,Qz⟩
   have hz:=JZ (a:=1) (b:=4) Qz (by decide)
   refine Xa 3 3 [] [(10,.p b2 0),(111,.i z2),(112,.p rd 0),(113,.agg (Y8 g gb)),(114,Z0 vs),(115,Z0 [0,0]),(117,.i (b-1:Nat))] (Z9 9 (dc 9 [0,5] [] [] (AB rd bs ((p5+1)+1) g gb rs vs [0,0] (b-1) b (ZD:=ob) (hp:=(AL (p:=p) (by first|omega|simp) hb om om)) (ht:=(by first|omega|simp)) (hb:=om) (ih:=ih)) ?_))
   rintro _ _ ⟨ys4,p27,rfl,rfl,QA⟩
   have hga1:=QA.1
   have hga2:=QA.2.1
   have hga3:=QA.2.2
   have hnc:=Jj (b:=b) (show (ys4).length<=3 by rw [hga1];first|omega|simp) hb (Ti _ (b-1))
   rw [hga1] at hnc
   refine Z9 10 (Ys 10 [] [] [] (XG z2 0 ys4) (Z9 11 (YK 11 5 [] [] b2 (Yy (Z2.mk z2 0 ys4)) (de ?_))))
   exact ZV ⟨z2,ys4,p27,(by assumption),(by assumption),rfl,rfl⟩ (wk [0,0,0,2,2] fl)
  refine dL 6 [2] [b1] (Z8 [0,0]) 2 1 ?_
  intro v7
  refine Z9 1 (dL 1 [2] [b1] (Z8 [1,2,3,4]) 4 1 ?_)
  intro v8
  refine Xa 4 4 [] [(10,.p b2 0),(109,.p rd 0),(110,Z0 [1,2,3,4]),(112,.p rd 0),(113,.agg (Y8 g gb)),(114,Z0 vs),(115,Z6 [0,0] v7),(117,.i (b-1:Nat))] (Z9 2 (dc 2 [2] [1] [b1] (Vt rd bs (p5+1) [1,2,3,4] (ZD:=ob)) ?_))
  rintro _ _ ⟨z3,rfl,rfl,Je⟩
  have hz:=JZ (a:=1) (b:=4) Je (by decide)
  refine ZZ 3 3 [] (.n 115 (Z0 [0,0]) (.q 111 (.k (.d (.d (.k (.k (.k (.d .r))))))))) (Z9 9 (dc 9 [0,5] [] [] (AB rd bs ((p5+1)+1) g gb rs vs [0,0] (b-1) b (ZD:=ob) (hp:=(AL (p:=p) (by first|omega|simp) hb om om)) (ht:=(by first|omega|simp)) (hb:=om) (ih:=ih)) ?_))
  rintro _ _ ⟨ys5,p28,rfl,rfl,QB⟩
  have hga1:=QB.1
  have hga2:=QB.2.1
  have hga3:=QB.2.2
  have hnc:=Jj (b:=b) (show (ys5).length<=3 by rw [hga1];first|omega|simp) hb (Ti _ (b-1))
  rw [hga1] at hnc
  refine Z9 10 (Ys 10 [] [] [] (XG z3 0 ys5) (Z9 11 (YK 11 5 [] [] b2 (Yy (Z2.mk z3 0 ys5)) (de ?_))))
  exact ZV ⟨z3,ys5,p28,(by assumption),(by assumption),rfl,rfl⟩ (wk [0,0,0,2,2] fl)
 rintro F h ⟨z1,ys3,p26,Tm,T5,rfl,rfl⟩
 have hz:=JZ (a:=1) (b:=4) Tm (by decide)
 have hga1:=T5.1
 have hga2:=T5.2.1
 have hga3:=T5.2.2
 have hnc:=Jj (b:=b) (show (ys3).length<=3 by rw [hga1];first|omega|simp) hb (Ti _ (b-1))
 rw [hga1] at hnc
 exact Zc (r3 [1,1] [ZF (Z2.mk z1 0 ys3)] [0] [(b2,b2)] ⟨(Z2.mk z1 0 ys3),p26,rfl,rfl,⟨GE.node om (fun h=>by omega) om hga2 hga1 (by first|omega|simp) (Ct (by first|omega|simp) hb (Ti _ _)),by omega⟩⟩ (lr _))
theorem RU (rd:Nat) (bs:List Int) (p:Nat) (g:XT) (gb:Nat) (rs:List Func) (vs:List Int) (t:Int) (b:Nat) (ZD:∀z∈bs,0<=z/\z<=255) (hp:p+bC b<=1000000000) (hg:GP g) (W8:g.funcs <+: rs) (hv:vs.length+3*b<=900) (ih:∀(rd:Nat) (bs:List Int) (p:Nat) (vs2:List Int) (t2:Int) (b2:Nat),(∀z∈bs,0<=z/\z<=255)->(p+bC b2<=1000000000)->(vs2.length+3*b2<=900)->(b2<b)->Zj Tryz.prog 219 [.p rd 0,.agg (Y8 g gb),Z0 vs2,.i t2,.i b2] [Yl rd bs p,YI gb rs] (fun r h=>∃(e:Z2) (p2:Nat),r=ZF e/\h=[Yl rd bs p2,YI gb rs]/\GE g vs2.length (bS b2) e/\p<=p2/\p2<=p+bC b2)):Zj Tryz.prog 219 [.p rd 0,.agg (Y8 g gb),Z0 vs,.i t,.i b] [Yl rd bs p,YI gb rs] (fun r h=>∃(e:Z2) (p2:Nat),r=ZF e/\h=[Yl rd bs p2,YI gb rs]/\GE g vs.length (bS b) e/\p<=p2/\p2<=p+bC b):=by
 have Xu:=hg.decls.ok
 have hgl:=hg.len
 have hdl:=hg.decls.len
 have hbm:=HK b
 have hcm:=HJ b
 refine ZK 114 Tryz.func219 (ar (iA (Y8 g gb) ?_))
 intro b1
 refine iA [.i 0,.i 0,nl] ?_
 intro b2
 refine ie (aq (ar (ir 2 [(0,.p rd 0),(2,Z0 vs),(3,.i t),(4,.i b),(6,.p b1 0),(10,.p b2 0),(15,.b (decide ((b:Int)<3)))] (ie (ZM ((b:Int)<3) (fun Ze=>?_) (fun Ze=>?_))))))
 ·refine ar (Y2 4 (.n 16 (.p rd 0) (.n 17 (.agg (Y8 g gb)) (.n 18 (Z0 vs) (.n 19 (.i t) .r)))) [1] [b1] (ic [2,2] (Bn rd bs p g gb rs vs t (ZD:=ob)) ?_))
  rintro _ _ ⟨e1,p21,rfl,rfl,ZP⟩
  have hle:=ZP.1
  refine ZH 2 b2 (Yy e1) (ie ?_)
  exact Zc (r3 [1,1] [ZF e1] [0] [(b2,b2)] ⟨e1,p21,rfl,rfl,⟨hle.le hbm,by omega⟩⟩ (lr _))
 have hb:3<=b:=by omega
 have hlc:=Z1v hb
 have hls:=Z1w hb
 refine ak (aq (ar (Z1 1 21 (.p rd 0) (ic [2] (XU rd bs p 12 (ZD:=ob)) ?_))))
 rintro _ _ ⟨k1,rfl,rfl,Y0⟩
 have qhp2:=Y0.lt om
 refine ie (ab 0 (ar (Z1 2 23 (.b (k1==0)) (ie (ac (k1==0) Zh (fun Zk=>?_) (fun Zk=>?_))))))
 ·refine ar (Y2 4 (.n 25 (.p rd 0) (.n 26 (.agg (Y8 g gb)) (.n 27 (Z0 vs) (.n 28 (.i t) .r)))) [2] [b1] (ic [0,2] (Bn rd bs (p+1) g gb rs vs t (ZD:=ob)) ?_))
  rintro _ _ ⟨e2,p22,rfl,rfl,YB⟩
  have hle:=YB.1
  refine ZH 2 b2 (Yy e2) (ie ?_)
  exact Zc (r3 [1,1] [ZF e2] [0] [(b2,b2)] ⟨e2,p22,rfl,rfl,⟨hle.le hbm,by omega⟩⟩ (lr _))
 refine aq (ar (Z1 2 30 (.b (k1==1)) (ie (XI (fun F h=>F=[(0,.p rd 0),(2,Z0 vs),(3,.i t),(4,.i b),(6,.p b1 0),(10,.p b2 0),(22,.i k1),(30,.b ((k1==1)||(k1==2)))]/\h=[.obj rd [X9 bs,.i (p+1:Nat)],.obj b2 [.i 0,.i 0,nl],.obj b1 (Y8 g gb),YI gb rs]) ?_ ?_))))
 ·refine ac (k1==1) Zh (fun ZI=>?_) (fun ZI=>?_)
  ·refine ak ?_
   exact ZV ⟨rfl,rfl⟩ (ZL 4 (fq (fw (fr (fc (x:=.b (k1==1)) (lb (by first|rfl|(rw [Zm ZI])|(rw [Zb ZI])|(simp [ZI];done)|(rw [Xm];simp [ZI];done)|omega)) fl)))))
  refine az (ir 2 [(0,.p rd 0),(2,Z0 vs),(3,.i t),(4,.i b),(6,.p b1 0),(10,.p b2 0),(22,.i k1),(30,.b (k1==2))] (ie ?_))
  exact ZV ⟨rfl,rfl⟩ (ZL 4 (fq (fw (fr (fc (x:=.b (k1==2)) (lb (by first|rfl|(rw [Zm ZI])|(rw [Zb ZI])|(simp [ZI];done)|(rw [Xm];simp [ZI];done)|omega)) fl)))))
 rintro F h ⟨rfl,rfl⟩
 refine ac ((k1==1)||(k1==2)) (p:=(k1=1)∨(k1=2)) (Yh Zh Zh) (fun Yi=>?_) (fun Yi=>?_)
 ·refine ar (iR 3 [(0,.p rd 0),(2,Z0 vs),(3,.i t),(4,.i b),(6,.p b1 0),(10,.p b2 0),(33,.p rd 0),(34,.agg (Y8 g gb)),(35,Z0 vs)] [2] [b1] (ic [0,2] (Rv rd bs (p+1) g gb rs vs (ZD:=ob)) ?_))
  rintro _ _ ⟨z1,rfl,rfl,YN⟩
  refine Z1 1 11 (.i z1) (ie (aD 20 (Y6 15 20 [0,1,2,3,4] (.n 37 (.p rd 0) (.n 38 (.agg (Y8 g gb)) (.n 39 (Z0 vs) (.n 40 (.i z1) (.n 41 (.i b) .r))))) [3] [b1] (dx 5 (AJ b 2 om om) (Y6 8 14 [7,8,9,10,13,14] (.n 44 (.p rd 0) (.n 45 (.agg (Y8 g gb)) (.n 46 (Z0 vs) (.n 47 (.i z1) (.n 50 (.i t) (.n 51 (.i b) .r)))))) [3] [b1] (dx 15 (AJ b 2 om om) (dK (fun F h=>∃(e3:Z2) (e4:Z2) (p24:Nat) (p23:Nat),(GE g vs.length (bS (b / 2)) e3/\((p+1)+1)<=p23/\p23<=((p+1)+1)+bC (b / 2))/\(GE g (vs++[z1]).length (bS (b / 2)) e4/\p23<=p24/\p24<=p23+bC (b / 2))/\F=[(10,.p b2 0)]/\h=[.obj b2 (Yy (Z2.mk 13 0 [e3,e4])),Yl rd bs p24,YI gb rs,.obj b1 (Y8 g gb)]) ?_ ?_)))))))
  ·refine Vh 6 11 ?_ ?_
   ·refine dc 6 [0,0] [1] [b1] (ih rd bs ((p+1)+1) vs z1 (b / 2) ob ob (by first|omega|(simp only [Yx,YS,Xn];omega)) ob) ?_
    rintro _ _ ⟨e3,p23,rfl,rfl,YX⟩
    have hgehp5:=YX.1
    refine Z9 11 (dL 11 [3] [b1] (Z8 [z1]) 1 1 ?_)
    intro v1
    refine Xa 5 5 [] [(10,.p b2 0),(43,ZF e3),(44,.p rd 0),(45,.agg (Y8 g gb)),(46,Z0 vs),(48,Z0 [z1]),(50,.i t),(52,.i (b / 2:Nat))] (Z9 12 (dc 12 [] [3] [b1] (Q2 vs [z1]) ?_))
    rintro _ _ ⟨v2,rfl,rfl⟩
    refine ZZ 4 4 [] (.n 49 (Z0 (vs++[z1])) (.p .r)) (Z9 16 (dc 16 [2,2] [] [] (ih rd bs p23 (vs++[z1]) t (b / 2) ob ob (by first|omega|(simp only [Yx,YS,Xn];omega)) ob) ?_))
    rintro _ _ ⟨e4,p24,rfl,rfl,Xy⟩
    have hgehp6:=Xy.1
    refine Z9 17 (Wj 17 [] [] [ZF e3,ZF e4] (Yp [e3,e4]) (XE [e3,e4]).symm 2 3 ?_)
    intro v3
    refine ZZ 2 2 [] (.n 54 (X3 [e3,e4]) (.p .r)) (Z9 18 (Ys 18 [] [] [] (XG 13 0 [e3,e4]) (Z9 19 (YK 19 5 [] [] b2 (Yy (Z2.mk 13 0 [e3,e4])) (de ?_)))))
    exact ZV ⟨e3,e4,p24,_,(by assumption),(by assumption),rfl,rfl⟩ (wk [0,1,1,3] fl)
   refine dL 11 [3,3] [b1,b1] (Z8 [z1]) 1 1 ?_
   intro v4
   refine Z9 6 (dc 6 [1,1] [1] [b1] (ih rd bs ((p+1)+1) vs z1 (b / 2) ob ob (by first|omega|(simp only [Yx,YS,Xn];omega)) ob) ?_)
   rintro _ _ ⟨e5,p25,rfl,rfl,Wh⟩
   have hgehp7:=Wh.1
   refine Xa 5 5 [] [(10,.p b2 0),(43,ZF e5),(44,.p rd 0),(45,.agg (Y8 g gb)),(46,Z0 vs),(48,Z0 [z1]),(50,.i t),(52,.i (b / 2:Nat))] (Z9 12 (dc 12 [] [3] [b1] (Q2 vs [z1]) ?_))
   rintro _ _ ⟨v5,rfl,rfl⟩
   refine ZZ 4 4 [] (.n 49 (Z0 (vs++[z1])) (.p .r)) (Z9 16 (dc 16 [1,1] [] [] (ih rd bs p25 (vs++[z1]) t (b / 2) ob ob (by first|omega|(simp only [Yx,YS,Xn];omega)) ob) ?_))
   rintro _ _ ⟨e6,p26,rfl,rfl,WJ⟩
   have hgehp8:=WJ.1
   refine Z9 17 (Wj 17 [] [] [ZF e5,ZF e6] (Yp [e5,e6]) (XE [e5,e6]).symm 2 3 ?_)
   intro v6
   refine ZZ 2 2 [] (.n 54 (X3 [e5,e6]) (.p .r)) (Z9 18 (Ys 18 [] [] [] (XG 13 0 [e5,e6]) (Z9 19 (YK 19 5 [] [] b2 (Yy (Z2.mk 13 0 [e5,e6])) (de ?_)))))
   exact ZV ⟨e5,e6,p26,_,(by assumption),(by assumption),rfl,rfl⟩ (wk [0,1,1,3] fl)
  rintro F h ⟨e3,e4,p24,p23,YX,Xy,rfl,rfl⟩
  have hgehp5:=YX.1
  have hgehp6:=Xy.1
  exact Zc (r3 [1,1] [ZF (Z2.mk 13 0 [e3,e4])] [0] [(b2,b2)] ⟨(Z2.mk 13 0 [e3,e4]),p24,rfl,rfl,⟨GE.let_ (by assumption) (by have h:=‹GE g (vs++[_]).length (bS (b / 2)) _›;rw [Yx] at h;exact h) hls,by omega⟩⟩ (lr _))
 refine ar (ir 2 [(0,.p rd 0),(2,Z0 vs),(3,.i t),(4,.i b),(6,.p b1 0),(10,.p b2 0),(22,.i k1),(56,.b (k1==3))] (ie (ac (k1==3) Zh (fun Xk=>?_) (fun Xk=>?_))))
 ·refine ar (Y2 5 (.n 58 (.p rd 0) (.n 59 (.agg (Y8 g gb)) (.n 60 (Z0 vs) (.n 61 (.i t) (.n 62 (.i t) .r))))) [2] [b1] (iL (Z8 [0,t,t]) 3 1 ?_))
  intro v7
  refine Z1 1 64 (.i b) (ia (((b-1:Nat):Int)) (((b:Int))-(1)) (Z5 0 (.n 63 (Z0 [0,t,t]) (.q 65 (.k (.p .r)))) (ic [1,3] (AB rd bs (p+1) g gb rs vs [0,t,t] (b-1) b (ZD:=ob) (hp:=(AL (p:=p) (by first|omega|simp) hb om om)) (ht:=(by first|omega|simp)) (hb:=om) (ih:=ih)) ?_)))
  rintro _ _ ⟨ys1,p27,rfl,rfl,V2⟩
  have hga1:=V2.1
  have hga2:=V2.2.1
  have hga3:=V2.2.2
  have hnc:=Jj (b:=b) (show (ys1).length<=3 by rw [hga1];first|omega|simp) hb (Ti _ (b-1))
  rw [hga1] at hnc
  refine ZA [] (XG 7 0 ys1) (ZH 3 b2 (Yy (Z2.mk 7 0 ys1)) (ie ?_))
  exact Zc (r3 [1,1] [ZF (Z2.mk 7 0 ys1)] [0] [(b2,b2)] ⟨(Z2.mk 7 0 ys1),p27,rfl,rfl,⟨GE.if_ om hga2 hga1 (Ct (by simp) hb (Ti 3 _)),by omega⟩⟩ (lr _))
 refine aq (ar (Z1 2 68 (.b (k1==4)) (ie (XI (fun F h=>F=[(0,.p rd 0),(2,Z0 vs),(3,.i t),(4,.i b),(6,.p b1 0),(10,.p b2 0),(22,.i k1),(68,.b ((k1==4)||((k1==5)||(k1==6))))]/\h=[.obj rd [X9 bs,.i (p+1:Nat)],.obj b2 [.i 0,.i 0,nl],.obj b1 (Y8 g gb),YI gb rs]) ?_ ?_))))
 ·refine ac (k1==4) Zh (fun Xl=>?_) (fun Xl=>?_)
  ·refine ak ?_
   exact ZV ⟨rfl,rfl⟩ (ZL 4 (fq (fw (fr (fc (x:=.b (k1==4)) (lb (by first|rfl|(rw [Zm Xl])|(rw [Zb Xl])|(simp [Xl];done)|(rw [Xm];simp [Xl];done)|omega)) fl)))))
  refine ar (ir 2 [(0,.p rd 0),(2,Z0 vs),(3,.i t),(4,.i b),(6,.p b1 0),(10,.p b2 0),(22,.i k1),(68,.b (k1==5))] (ie (ac (k1==5) Zh (fun Vu=>?_) (fun Vu=>?_))))
  ·refine ak ?_
   exact ZV ⟨rfl,rfl⟩ (ZL 4 (fq (fw (fr (fc (x:=.b (k1==5)) (lb (by first|rfl|(rw [Zm Xl])|(rw [Zb Xl])|(simp [Xl,Vu];done)|(rw [Xm];simp [Xl,Vu];done)|omega)) fl)))))
  refine az (Z5 2 (.n 68 (.b (k1==6)) (.w (.k (.k (.k .z))))) (ie ?_))
  exact ZV ⟨rfl,rfl⟩ (ZL 4 (fq (fw (fr (fc (x:=.b (k1==6)) (lb (by first|rfl|(rw [Zm Xl])|(rw [Zb Xl])|(simp [Xl,Vu];done)|(rw [Xm];simp [Xl,Vu];done)|omega)) fl)))))
 rintro F h ⟨rfl,rfl⟩
 refine ac ((k1==4)||((k1==5)||(k1==6))) (p:=(k1=4)∨((k1=5)∨(k1=6))) (Yh Zh (Yh Zh Zh)) (fun Vm=>?_) (fun Vm=>?_)
 ·refine ar (iR 5 [(10,.p b2 0),(72,.p rd 0),(73,.agg (Y8 g gb)),(74,Z0 vs),(75,.i t),(76,.i b)] [2] [b1] (ic [0,2] (RT rd bs (p+1) g gb rs vs t b (ZD:=ob) (ih:=ih)) ?_))
  rintro _ _ ⟨e7,p28,rfl,rfl,Ua⟩
  have hgm:=Ua.1
  refine ZH 2 b2 (Yy e7) (ie ?_)
  exact Zc (r3 [1,1] [ZF e7] [0] [(b2,b2)] ⟨e7,p28,rfl,rfl,⟨hgm,by omega⟩⟩ (lr _))
 refine aq (ar (ir 2 [(0,.p rd 0),(2,Z0 vs),(3,.i t),(4,.i b),(6,.p b1 0),(10,.p b2 0),(22,.i k1),(78,.b (k1==7))] (ie (XI (fun F h=>F=[(0,.p rd 0),(2,Z0 vs),(3,.i t),(4,.i b),(6,.p b1 0),(10,.p b2 0),(78,.b ((k1==7)||(k1==8)))]/\h=[.obj rd [X9 bs,.i (p+1:Nat)],.obj b2 [.i 0,.i 0,nl],.obj b1 (Y8 g gb),YI gb rs]) ?_ ?_))))
 ·refine ac (k1==7) Zh (fun VF=>?_) (fun VF=>?_)
  ·refine ak ?_
   exact ZV ⟨rfl,rfl⟩ (ZL 4 (fq (fw (fc (x:=.b (k1==7)) (lb (by first|rfl|(rw [Zm VF])|(rw [Zb VF])|(simp [VF];done)|(rw [Xm];simp [VF];done)|omega)) fl))))
  refine az (ir 2 [(0,.p rd 0),(2,Z0 vs),(3,.i t),(4,.i b),(6,.p b1 0),(10,.p b2 0),(78,.b (k1==8))] (ie ?_))
  exact ZV ⟨rfl,rfl⟩ (ZL 4 (fq (fw (fc (x:=.b (k1==8)) (lb (by first|rfl|(rw [Zm VF])|(rw [Zb VF])|(simp [VF];done)|(rw [Xm];simp [VF];done)|omega)) fl))))
 rintro F h ⟨rfl,rfl⟩
 refine ac ((k1==7)||(k1==8)) (p:=(k1=7)∨(k1=8)) (Yh Zh Zh) (fun UD=>?_) (fun UD=>?_)
 ·refine ar (iR 2 [(0,.p rd 0),(2,Z0 vs),(3,.i t),(4,.i b),(6,.p b1 0),(10,.p b2 0),(81,.agg (Y8 g gb)),(82,.i t)] [2] [b1] (ic [3] (Rz g gb rs t) ?_))
  rintro _ _ ⟨xs1,rfl,rfl,UE⟩
  have hcal:=UE
  refine Z1 1 12 (Z0 xs1) (ie (ar (Z1 1 84 (Z0 xs1) (iw (Yd xs1) (Z1 1 86 (.b (decide ((xs1.length:Int)>0))) (ie (ZM ((xs1.length:Int)>0) (fun K1=>?_) (fun K1=>?_))))))))
  ·refine ar (Z5 3 (.n 87 (Z0 xs1) (.n 88 (.p rd 0) (.n 89 (Z0 xs1) .r))) (iw (Yd xs1) (ic [1] (XU rd bs (p+1) (xs1.length:Int) (ZD:=ob)) ?_)))
   rintro _ _ ⟨k2,rfl,rfl,Ur⟩
   have qhp12:=Ur.lt om
   obtain ⟨x1,Z3⟩:=Zs (xs:=xs1) (j:=k2.toNat) om
   have hcv:=hcal.2 _ (Y7 Z3)
   refine Zq (Zo none k2 1 (Y3 Z3)) (Z1 2 13 (.i x1) (ie (aD 15 (Y6 8 15 [0,1,2,3,4,5,6] (.n 94 (.i x1) (.n 95 (.p rd 0) (.n 96 (.agg (Y8 g gb)) (.n 97 (Z0 vs) (.n 99 (.ms gb 0 g.funcs.length 4) (.n 100 (.i x1) .r)))))) [3,3] [b1,b1] ?_))))
   obtain ⟨x2,Zv⟩:=Zs (xs:=g.funcs) (j:=x1.toNat) om
   have hso:=(hg.sigs _ (Y7 Zv)).bd
   refine dx 7 (W5 gb g.funcs.length 4 x1.toNat 5 x1) (ZY 6 7 [8] 102 (.val (.pointer (some ⟨gb,x1.toNat * 5,none⟩))) (VM 9 (WV 1 gb 4 4 5 (x1.toNat * 5+0) (Zl (Xc rs)) [Z0 x2.params] 27 (Z0 x2.params) (VY W8 Zv 0 rfl (WF rfl))) (ZY 4 5 [10] 104 (.i b) (da 11 (((b-1:Nat):Int)) (((b:Int))-(1)) (Z9 12 (dc 12 [0,0] [] [] (AB rd bs ((p+1)+1) g gb rs vs x2.params (b-1) b (ZD:=ob) (hp:=(AL (p:=p) (by first|omega|simp) hb om om)) (ht:=(by first|omega|simp)) (hb:=om) (ih:=ih)) ?_))))))
   rintro _ _ ⟨ys2,p29,rfl,rfl,Tm⟩
   have hga1:=Tm.1
   have hga2:=Tm.2.1
   have hga3:=Tm.2.2
   have hnc:=Jj (b:=b) (show (ys2).length<=3 by rw [hga1];first|omega|simp) hb (Ti _ (b-1))
   rw [hga1] at hnc
   refine Z9 13 (Ys 13 [] [] [] (XG 9 x1 ys2) (Z9 14 (YK 14 2 [] [] b2 (Yy (Z2.mk 9 x1 ys2)) (de ?_))))
   exact Zc (r3 [1,1] [ZF (Z2.mk 9 x1 ys2)] [0] [(b2,b2)] ⟨(Z2.mk 9 x1 ys2),p29,rfl,rfl,⟨GE.node om (fun _=>by omega) om hga2 hga1 (by first|omega|simp) (Ct (by first|omega|simp) hb (Ti _ _)),by omega⟩⟩ (lr _))
  refine ak (ar (iR 5 [(10,.p b2 0),(108,.p rd 0),(109,.agg (Y8 g gb)),(110,Z0 vs),(111,.i t),(112,.i b)] [3] [b1] (ic [1,0] (IQ rd bs (p+1) g gb rs vs t b (ZD:=ob) (ih:=ih)) ?_)))
  rintro _ _ ⟨e8,p210,rfl,rfl,T5⟩
  have hgm:=T5.1
  refine ZH 2 b2 (Yy e8) (ie ?_)
  exact Zc (r3 [1,1] [ZF e8] [0] [(b2,b2)] ⟨e8,p210,rfl,rfl,⟨hgm,by omega⟩⟩ (lr _))
 refine ak (ar (iR 5 [(10,.p b2 0),(108,.p rd 0),(109,.agg (Y8 g gb)),(110,Z0 vs),(111,.i t),(112,.i b)] [2] [b1] (ic [0,2] (IQ rd bs (p+1) g gb rs vs t b (ZD:=ob) (ih:=ih)) ?_)))
 rintro _ _ ⟨e9,p211,rfl,rfl,Qz⟩
 have hgm:=Qz.1
 refine ZH 2 b2 (Yy e9) (ie ?_)
 exact Zc (r3 [1,1] [ZF e9] [0] [(b2,b2)] ⟨e9,p211,rfl,rfl,⟨hgm,by omega⟩⟩ (lr _))
theorem TS (rd:Nat) (bs:List Int) (p:Nat) (g:XT) (gb:Nat) (rs:List Func) (vs:List Int) (t:Int) (b:Nat) (ZD:∀z∈bs,0<=z/\z<=255) (hp:p+bC b<=1000000000:=by exact ob) (hg:GP g:=by exact ob) (W8:g.funcs <+: rs:=by exact ob) (hv:vs.length+3*b<=900:=by exact ob):Zj Tryz.prog 219 [.p rd 0,.agg (Y8 g gb),Z0 vs,.i t,.i b] [Yl rd bs p,YI gb rs] (fun r h=>∃(e:Z2) (p2:Nat),r=ZF e/\h=[Yl rd bs p2,YI gb rs]/\GE g vs.length (bS b) e/\p<=p2/\p2<=p+bC b):=by
 have key:∀k:Nat,∀(rd:Nat) (bs:List Int) (p:Nat) (vs:List Int) (t:Int) (b2:Nat),(∀z∈bs,0<=z/\z<=255)->(p+bC b2<=1000000000)->(vs.length+3*b2<=900)->(b2<k)->Zj Tryz.prog 219 [.p rd 0,.agg (Y8 g gb),Z0 vs,.i t,.i b2] [Yl rd bs p,YI gb rs] (fun r h=>∃(e:Z2) (p2:Nat),r=ZF e/\h=[Yl rd bs p2,YI gb rs]/\GE g vs.length (bS b2) e/\p<=p2/\p2<=p+bC b2):=by
  intro k
  induction k with
  | zero=>intro rd bs p vs t b2 h1 h2 h3 h4;omega
  | succ k ih=>intro rd bs p vs t b2 h1 h2 h3 h4;exact RU rd bs p g gb rs vs t b2 h1 h2 hg W8 h3 fun rd bs p vs t b3 q1 q2 q3 q4=>ih rd bs p vs t b3 q1 q2 q3 om
 exact key (b+1) rd bs p vs t b ZD hp hv om
theorem IP (rd:Nat) (bs:List Int) (p:Nat) (g:XT) (gb:Nat) (rs:List Func) (vs:List Int) (t:Int) (b:Nat) (ZD:∀z∈bs,0<=z/\z<=255) (hp:p+40000<=1000000000:=by exact ob) (hg:GP g:=by exact ob) (W8:g.funcs <+: rs:=by exact ob) (hv:vs.length+3*b<=900:=by exact ob) (hb:b<=20:=by exact ob):Zj Tryz.prog 195 [.p rd 0,.agg (Y8 g gb),Z0 vs,.i t,.i b] [Yl rd bs p,YI gb rs] (fun r h=>∃(e:Z2) (p2:Nat),r=ZF e/\h=[Yl rd bs p2,YI gb rs]/\GE g vs.length 30 e/\p<=p2/\p2<=p+40000):=by
 have Br:=D0 hb
 refine ZK 34 Tryz.func195 (ar (iA (Y8 g gb) ?_))
 intro b1
 refine iA [.i 0,.i 0,nl] ?_
 intro b2
 refine ie (ar (iR 5 [(0,.p rd 0),(2,Z0 vs),(3,.i t),(4,.i b),(6,.p b1 0),(10,.p b2 0),(12,.p rd 0),(13,.agg (Y8 g gb)),(14,Z0 vs),(15,.i t),(16,.i b)] [1] [b1] (ic [2,2] (TS rd bs p g gb rs vs t b (ZD:=ob)) ?_)))
 rintro _ _ ⟨e1,p21,rfl,rfl,ZP⟩
 have X2:=ZP.1
 refine iA [.i 0,.i 0,nl] ?_
 intro b3
 refine ZH 0 b3 (Yy e1) (ie (aq (ab 0 (al (fun m F h=>∃(bq:Nat) (eQ:Z2) (pq:Nat),(GE g vs.length (bS bq) eQ)/\(bq<=b)/\(p<=pq/\pq+1900*bq<=p+1900*(b+1))/\F=[(0,.p rd 0),(2,Z0 vs),(3,.i t),(4,.i bq),(6,.p b1 0),(10,.p b2 0),(11,.p b3 0)]/\h=[.obj b3 (Yy eQ),Yl rd bs pq,YI gb rs,.obj b2 [.i 0,.i 0,nl],.obj b1 (Y8 g gb)]/\m=bq+1) _ _ _ ⟨b,e1,p21,X2,ob,ob,rfl,rfl,rfl⟩ (ZL 5 fl) ?_))))
 rintro m F h ⟨bq,eQ,pq,Ym,Zp,Zz,rfl,rfl,rfl⟩
 refine aq (ar (Yk 1 18 (ZF eQ) [0] [b3] (ic [] (IW eQ (hz:=(by have h1:=Ym.2;have h2:=(D0 (b:=bq) om).1;omega))) ?_)))
 rintro _ _ ⟨w1,rfl,rfl,Y0⟩
 have FY:=Y0
 have hq20:=D0 (b:=bq) om
 have hq21:=D0 (b:=bq / 2) om
 have XC:=Ym.2
 refine Xp [(0,.p rd 0),(2,Z0 vs),(3,.i t),(4,.i bq),(6,.p b1 0),(10,.p b2 0),(11,.p b3 0),(24,.b ((decide (w1<0))&&(decide ((bq:Int)>2))))] [.obj b3 (Yy eQ),Yl rd bs pq,YI gb rs,.obj b2 [.i 0,.i 0,nl],.obj b1 (Y8 g gb)] ?_ ?_
 ·refine ir 2 [(0,.p rd 0),(2,Z0 vs),(3,.i t),(4,.i bq),(6,.p b1 0),(10,.p b2 0),(11,.p b3 0),(21,.b (decide (w1<0)))] (ib (b:=(decide (w1<0))) 21 (fun Za=>?_) (fun Za=>?_))
  ·have YB:w1<0:=(dq).1 Za
   refine Z5 3 (.n 24 (.b (decide ((bq:Int)>2))) (.d (.w (.k (.k (.k .z)))))) (ie ?_)
   exact ZL 5 (fq (fw (fr (Zr (decide ((bq:Int)>2)) Za fl))))
  have YN:¬(w1<0):=ZG dq Za
  refine Z5 3 (.n 24 (.b false) (.d (.w (.k (.k (.k .z)))))) (ie ?_)
  exact ZL 5 (fq (fw (fr (Zr false Za fl))))
 refine ac ((decide (w1<0))&&(decide ((bq:Int)>2))) (p:=(w1<0)/\((bq:Int)>2)) (YE dq dq) (fun Ze=>?_) (fun Ze=>?_)
 ·refine ak (ab 1 (ar (ir 1 [(0,.p rd 0),(2,Z0 vs),(3,.i t),(6,.p b1 0),(10,.p b2 0),(11,.p b3 0),(25,.i bq)] (Zq (AJ bq 2 om om) (Z1 1 4 (.i (bq / 2:Nat)) (ie (az (Y2 5 (.n 27 (.p rd 0) (.n 28 (.agg (Y8 g gb)) (.n 29 (Z0 vs) (.n 30 (.i t) (.n 31 (.i (bq / 2:Nat)) .r))))) [4] [b1] (ic [1,1] (TS rd bs pq g gb rs vs t (bq / 2) (ZD:=ob)) ?_)))))))))
  rintro _ _ ⟨e2,p22,rfl,rfl,YX⟩
  have X2:=YX.1
  refine ZH 2 b3 (Yy e2) (ie ?_)
  exact ZQ ⟨(bq / 2),e2,p22,X2,ob,ob,rfl,rfl,rfl⟩ (ZL 5 (fw (fr (fc (x:=.i (bq / 2:Nat)) li fl))))
 refine ax 0 (ar (iR 1 [(10,.p b2 0),(33,ZF eQ)] [0] [b3] (ZH 3 b2 (Yy eQ) (ie ?_))))
 exact Zc (r3 [2,2] [ZF eQ] [0] [(b2,b2)] ⟨eQ,pq,rfl,rfl,⟨⟨Ym.1,by omega⟩,by omega⟩⟩ (lr _))
theorem S9 (rd:Nat) (bs:List Int) (p:Nat) (t:Int) (ZD:∀z∈bs,0<=z/\z<=255) (hp:p+14<=1000000000:=by exact ob):Zj Tryz.prog 221 [.p rd 0,.i t] [Yl rd bs p] (fun r h=>∃(e:Z2) (p2:Nat),r=ZF e/\h=[Yl rd bs p2]/\(∀g:XT,SE g 9 e)/\p<=p2/\p2<=p+14):=by
 refine ZK 45 Tryz.func221 (ar (iA [.i 0,.i 0,nl] ?_))
 intro b1
 refine ie (ar (iL (Yp []) 0 3 ?_))
 intro v1
 refine ir 0 [(0,.p rd 0),(1,.i t),(4,.p b1 0),(10,X3 [])] (ZA [] (XG 6 0 []) (iA [.i 0,.i 0,nl] ?_))
 intro b2
 refine ZH 0 b2 (Yy (Z2.mk 6 0 [])) (ie (aq (ar (Z1 2 13 (.b (t==3)) (ie (ac (t==3) Zh (fun Ze=>?_) (fun Ze=>?_)))))))
 ·refine ar (iL (Yp []) 0 3 ?_)
  intro v2
  refine Z5 0 (.n 14 (X3 []) (.p .r)) (ZA [] (XG 6 2 []) (iA [.i 0,.i 0,nl] ?_))
  intro b3
  refine ZH 0 b3 (Yy (Z2.mk 6 2 [])) (ie (aD 9 (Y6 6 9 [0,1,4] (.n 16 (ZF (Z2.mk 6 2 [])) (.n 17 (.p rd 0) (.n 20 (ZF (Z2.mk 6 2 [])) .r))) [0,0] [b3,b3] (dK (fun F h=>∃(k1:Int) (b4:Nat),(Pk 9 k1)/\F=[(0,.p rd 0),(4,.p b1 0),(6,.p b3 0),(7,.p b4 0)]/\h=[.obj b4 (Yy (Z2.mk 6 3 [Z2.mk 6 2 [],Z2.mk 0 k1 [],Z2.mk 6 2 []])),.obj rd [X9 bs,.i (p+1:Nat)],.obj b3 (Yy (Z2.mk 6 2 [])),.tail v2 3,.obj b2 (Yy (Z2.mk 6 0 [])),.tail v1 3,.obj b1 [.i 0,.i 0,nl]]) ?_ ?_))))
  ·refine Vh 2 7 ?_ ?_
   ·refine dc 2 [5] [0,0] [b3,b3] (XU rd bs p 9 (ZD:=ob)) ?_
    rintro _ _ ⟨k1,rfl,rfl,ZP⟩
    have qhp1:=ZP.lt om
    refine Vh 3 7 ?_ ?_
    ·refine Ys 3 [] [1,1] [b3,b3] (J8 k1) (Vh 5 7 ?_ ?_)
     ·refine Wj 5 [] [] [ZF (Z2.mk 6 2 []),ZF (Z2.mk 0 k1 []),ZF (Z2.mk 6 2 [])] (Yp [Z2.mk 6 2 [],Z2.mk 0 k1 [],Z2.mk 6 2 []]) (XE [Z2.mk 6 2 [],Z2.mk 0 k1 [],Z2.mk 6 2 []]).symm 3 3 ?_
      intro v3
      refine Xa 3 3 [] [(0,.p rd 0),(4,.p b1 0),(6,.p b3 0),(21,X3 [Z2.mk 6 2 [],Z2.mk 0 k1 [],Z2.mk 6 2 []])] (Vh 6 7 ?_ ?_)
      ·refine Ys 6 [] [] [] (XG 6 3 [Z2.mk 6 2 [],Z2.mk 0 k1 [],Z2.mk 6 2 []]) (Z9 7 (dA 7 [] [] [.i 0,.i 0,nl] ?_))
       intro b4
       refine Z9 8 (YK 8 0 [] [] b4 (Yy (Z2.mk 6 3 [Z2.mk 6 2 [],Z2.mk 0 k1 [],Z2.mk 6 2 []])) (de ?_))
       exact ZV ⟨k1,b4,(by assumption),rfl,rfl⟩ (wk [0,1,1,1,1,1,1] fl)
      refine dA 7 [] [] [.i 0,.i 0,nl] ?_
      intro b5
      refine Z9 6 (Ys 6 [] [] [] (XG 6 3 [Z2.mk 6 2 [],Z2.mk 0 k1 [],Z2.mk 6 2 []]) (Z9 8 (YK 8 0 [] [] b5 (Yy (Z2.mk 6 3 [Z2.mk 6 2 [],Z2.mk 0 k1 [],Z2.mk 6 2 []])) (de ?_))))
      exact ZV ⟨k1,b5,(by assumption),rfl,rfl⟩ (wk [0,1,1,1,1,1,1] fl)
     refine dA 7 [1,1] [b3,b3] [.i 0,.i 0,nl] ?_
     intro b6
     refine Z9 5 (Wj 5 [] [] [ZF (Z2.mk 6 2 []),ZF (Z2.mk 0 k1 []),ZF (Z2.mk 6 2 [])] (Yp [Z2.mk 6 2 [],Z2.mk 0 k1 [],Z2.mk 6 2 []]) (XE [Z2.mk 6 2 [],Z2.mk 0 k1 [],Z2.mk 6 2 []]).symm 3 3 ?_)
     intro v4
     refine Xa 2 2 [] [(0,.p rd 0),(4,.p b1 0),(6,.p b3 0),(7,.p b6 0),(21,X3 [Z2.mk 6 2 [],Z2.mk 0 k1 [],Z2.mk 6 2 []])] (Z9 6 (Ys 6 [] [] [] (XG 6 3 [Z2.mk 6 2 [],Z2.mk 0 k1 [],Z2.mk 6 2 []]) (Z9 8 (YK 8 1 [] [] b6 (Yy (Z2.mk 6 3 [Z2.mk 6 2 [],Z2.mk 0 k1 [],Z2.mk 6 2 []])) (de ?_)))))
     exact ZV ⟨k1,b6,(by assumption),rfl,rfl⟩ (wk [0,1,1,1,1,1,1] fl)
    refine dA 7 [1,1] [b3,b3] [.i 0,.i 0,nl] ?_
    intro b7
    refine Z9 3 (Ys 3 [] [2,2] [b3,b3] (J8 k1) (Z9 5 (Wj 5 [] [] [ZF (Z2.mk 6 2 []),ZF (Z2.mk 0 k1 []),ZF (Z2.mk 6 2 [])] (Yp [Z2.mk 6 2 [],Z2.mk 0 k1 [],Z2.mk 6 2 []]) (XE [Z2.mk 6 2 [],Z2.mk 0 k1 [],Z2.mk 6 2 []]).symm 3 3 ?_)))
    intro v5
    refine Xa 2 2 [] [(0,.p rd 0),(4,.p b1 0),(6,.p b3 0),(7,.p b7 0),(21,X3 [Z2.mk 6 2 [],Z2.mk 0 k1 [],Z2.mk 6 2 []])] (Z9 6 (Ys 6 [] [] [] (XG 6 3 [Z2.mk 6 2 [],Z2.mk 0 k1 [],Z2.mk 6 2 []]) (Z9 8 (YK 8 1 [] [] b7 (Yy (Z2.mk 6 3 [Z2.mk 6 2 [],Z2.mk 0 k1 [],Z2.mk 6 2 []])) (de ?_)))))
    exact ZV ⟨k1,b7,(by assumption),rfl,rfl⟩ (wk [0,1,1,1,1,1,1] fl)
   refine dA 7 [0,0] [b3,b3] [.i 0,.i 0,nl] ?_
   intro b8
   refine Z9 2 (dc 2 [6] [1,1] [b3,b3] (XU rd bs p 9 (ZD:=ob)) ?_)
   rintro _ _ ⟨k2,rfl,rfl,Y0⟩
   have qhp2:=Y0.lt om
   refine Z9 3 (Ys 3 [] [2,2] [b3,b3] (J8 k2) (Z9 5 (Wj 5 [] [] [ZF (Z2.mk 6 2 []),ZF (Z2.mk 0 k2 []),ZF (Z2.mk 6 2 [])] (Yp [Z2.mk 6 2 [],Z2.mk 0 k2 [],Z2.mk 6 2 []]) (XE [Z2.mk 6 2 [],Z2.mk 0 k2 [],Z2.mk 6 2 []]).symm 3 3 ?_)))
   intro v6
   refine Xa 2 2 [] [(0,.p rd 0),(4,.p b1 0),(6,.p b3 0),(7,.p b8 0),(21,X3 [Z2.mk 6 2 [],Z2.mk 0 k2 [],Z2.mk 6 2 []])] (Z9 6 (Ys 6 [] [] [] (XG 6 3 [Z2.mk 6 2 [],Z2.mk 0 k2 [],Z2.mk 6 2 []]) (Z9 8 (YK 8 2 [] [] b8 (Yy (Z2.mk 6 3 [Z2.mk 6 2 [],Z2.mk 0 k2 [],Z2.mk 6 2 []])) (de ?_)))))
   exact ZV ⟨k2,b8,(by assumption),rfl,rfl⟩ (wk [0,1,1,1,1,1,1] fl)
  rintro F h ⟨k1,b4,ZP,rfl,rfl⟩
  have qhp1:=ZP.lt om
  refine aD 8 (W2 5 8 [0,1,4] [(4,.p b1 0),(23,ZF (Z2.mk 6 3 [Z2.mk 6 2 [],Z2.mk 0 k1 [],Z2.mk 6 2 []])),(24,.p rd 0),(27,ZF (Z2.mk 6 2 []))] [0,2] [b4,b3] (Z9 2 (dc 2 [1] [1,0] [b3,b4] (XU rd bs (p+1) 9 (ZD:=ob)) ?_)))
  rintro _ _ ⟨k3,rfl,rfl,YB⟩
  have qhp3:=YB.lt om
  refine Z9 3 (Ys 3 [] [2,1] [b3,b4] (J8 k3) (Z9 5 (Wj 5 [] [] [ZF (Z2.mk 6 3 [Z2.mk 6 2 [],Z2.mk 0 k1 [],Z2.mk 6 2 []]),ZF (Z2.mk 0 k3 []),ZF (Z2.mk 6 2 [])] (Yp [Z2.mk 6 3 [Z2.mk 6 2 [],Z2.mk 0 k1 [],Z2.mk 6 2 []],Z2.mk 0 k3 [],Z2.mk 6 2 []]) (XE [Z2.mk 6 3 [Z2.mk 6 2 [],Z2.mk 0 k1 [],Z2.mk 6 2 []],Z2.mk 0 k3 [],Z2.mk 6 2 []]).symm 3 3 ?_)))
  intro v7
  refine ZZ 2 2 [] (.n 28 (X3 [Z2.mk 6 3 [Z2.mk 6 2 [],Z2.mk 0 k1 [],Z2.mk 6 2 []],Z2.mk 0 k3 [],Z2.mk 6 2 []]) (.p .r)) (Z9 6 (Ys 6 [] [] [] (XG 6 3 [Z2.mk 6 3 [Z2.mk 6 2 [],Z2.mk 0 k1 [],Z2.mk 6 2 []],Z2.mk 0 k3 [],Z2.mk 6 2 []]) (Z9 7 (YK 7 7 [] [] b1 (Yy (Z2.mk 6 3 [Z2.mk 6 3 [Z2.mk 6 2 [],Z2.mk 0 k1 [],Z2.mk 6 2 []],Z2.mk 0 k3 [],Z2.mk 6 2 []])) (de ?_)))))
  exact Zc (r3 [2] [ZF (Z2.mk 6 3 [Z2.mk 6 3 [Z2.mk 6 2 [],Z2.mk 0 k1 [],Z2.mk 6 2 []],Z2.mk 0 k3 [],Z2.mk 6 2 []])] [0] [(b1,b1)] ⟨(Z2.mk 6 3 [Z2.mk 6 3 [Z2.mk 6 2 [],Z2.mk 0 k1 [],Z2.mk 6 2 []],Z2.mk 0 k3 [],Z2.mk 6 2 []]),(p+1)+1,rfl,rfl,⟨fun g=>SE.three (s1:=4) (s2:=1) (s3:=1) om om (SE.three (s1:=1) (s2:=1) (s3:=1) om om (SE.nil om om om) (SE.int om om) (SE.nil om om om) om) (SE.int om om) (SE.nil om om om) om,by omega⟩⟩ (lr _))
 refine ak (ar (Yk 1 30 (ZF (Z2.mk 6 0 [])) [0] [b2] (iA [.i 0,.i 0,nl] ?_)))
 intro b9
 refine ZH 0 b9 (Yy (Z2.mk 6 0 [])) (ie (aq (ar (Z1 1 31 (.p rd 0) (ic [4] (XU rd bs p 3 (ZD:=ob)) ?_)))))
 rintro _ _ ⟨k4,rfl,rfl,YN⟩
 have qhp4:=YN.lt om
 refine ia ((1+k4)) ((1)+(k4)) (Z1 1 9 (.i (1+k4)) (ie (ab 0 (al (fun m F h=>∃(j:Int) (eQ:Z2) (pq:Nat),(0<=j/\j<=3)/\(∀g:XT,SE g (7-2*j.toNat) eQ)/\(p+1<=pq/\pq+4*j.toNat<=p+13)/\F=[(0,.p rd 0),(4,.p b1 0),(8,.p b9 0),(9,.i j)]/\h=[Yl rd bs pq,.obj b9 (Yy eQ),.obj b1 [.i 0,.i 0,nl]]/\m=j.toNat) _ _ _ ⟨(1+k4),(Z2.mk 6 0 []),p+1,ob,(fun g=>SE.nil om om om),ob,rfl,rfl,rfl⟩ (wk [0,0,2] fl) ?_))))
 rintro m F h ⟨j,eQ,pq,Ym,Zp,Zz,rfl,rfl,rfl⟩
 refine aq (ar (Z1 2 35 (.b (decide (j>0))) (ie (ZM (j>0) (fun Zk=>?_) (fun Zk=>?_)))))
 ·refine ak (aq (ab 1 (aE 7 (Y6 5 7 [0,3] (.n 38 (.p rd 0) (.n 41 (ZF eQ) .r)) [1] [b9] (Z9 1 (dc 1 [0] [0] [b9] (IZ rd bs pq (ZD:=ob)) ?_))))))
  rintro _ _ ⟨z1,rfl,rfl,YX⟩
  have hz:=YX
  refine Z9 2 (Ys 2 [] [1] [b9] (J8 z1) (Z9 4 (Wj 4 [] [] [ZF (Z2.mk 0 z1 []),ZF eQ] (Yp [Z2.mk 0 z1 [],eQ]) (XE [Z2.mk 0 z1 [],eQ]).symm 2 3 ?_)))
  intro v8
  refine ZZ 2 2 [] (.n 42 (X3 [Z2.mk 0 z1 [],eQ]) (.p .r)) (Z9 5 (Ys 5 [] [] [] (XG 6 1 [Z2.mk 0 z1 [],eQ]) (Z9 6 (YK 6 2 [] [] b9 (Yy (Z2.mk 6 1 [Z2.mk 0 z1 [],eQ])) (de (az (Z1 1 36 (.i j) (ia ((j-1)) ((j)-(1)) (ir 1 [(0,.p rd 0),(4,.p b1 0),(8,.p b9 0),(9,.i (j-1))] (ie ?_))))))))))
  exact ZQ ⟨(j-1),(Z2.mk 6 1 [Z2.mk 0 z1 [],eQ]),pq+4,ob,(fun g=>SE.two om om (SE.int (q:=1) om om) (Zp g) om),ob,rfl,rfl,rfl⟩ (wk [2,0,1] fl)
 refine ax 0 (ar (Yk 1 44 (ZF eQ) [1] [b9] (ZH 2 b1 (Yy eQ) (ie ?_))))
 exact Zc (r3 [1] [ZF eQ] [0] [(b1,b1)] ⟨eQ,pq,rfl,rfl,⟨fun g=>(⟨(Zp g).1,by have:=(Zp g).2;omega⟩:SE g 9 _),by omega⟩⟩ (lr _))
theorem Sc (rd:Nat) (bs:List Int) (p:Nat) (g:XT) (gb:Nat) (rs:List Func) (ZD:∀z∈bs,0<=z/\z<=255) (hp:p+1600<=1000000000:=by exact ob) (hg:GP g:=by exact ob) (W8:g.funcs <+: rs:=by exact ob):Zj Tryz.prog 191 [.p rd 0,.agg (Y8 g gb)] [Yl rd bs p,YI gb rs] (fun r h=>∃(e:Z2) (p2:Nat),r=ZF e/\h=[Yl rd bs p2,YI gb rs]/\GE g 0 200 e/\p<=p2/\p2<=p+1600):=by
 have hbv:=BU
 refine ZK 27 Tryz.func191 (ar (iA (Y8 g gb) ?_))
 intro b1
 refine iA [.i 0,.i 0,nl] ?_
 intro b2
 refine ie (ar (ir 1 [(0,.p rd 0),(3,.p b1 0),(4,.p b2 0),(7,.p rd 0)] (iL (Z8 [1,1,3]) 3 1 ?_)))
 intro v1
 refine Z5 0 (.n 8 (Z0 [1,1,3]) (.p .r)) (ic [3] (Vt rd bs p [1,1,3] (ZD:=ob)) ?_)
 rintro _ _ ⟨z1,rfl,rfl,ZP⟩
 have hz:=JZ (a:=1) (b:=3) ZP (by decide)
 refine Z1 1 5 (.i z1) (ie (ar (Y2 3 (.n 10 (.p rd 0) (.n 11 (.agg (Y8 g gb)) (.n 12 (.i z1) .r))) [3] [b1] (iL (Z8 [z1]) 1 1 ?_))))
 intro v2
 refine Z5 0 (.n 13 (Z0 [z1]) (.p .r)) (ic [1,4] (TS rd bs (p+1) g gb rs [z1] 0 16 (ZD:=ob) (hv:=(by simp))) ?_)
 rintro _ _ ⟨e1,p21,rfl,rfl,Y0⟩
 have X2:=Y0.1
 have TT:=Y0.2
 rw [hbv.2.2.2.1] at X2
 refine iA [.i 0,.i 0,nl] ?_
 intro b3
 refine ZH 0 b3 (Yy e1) (ie (aq (ar (Z1 1 15 (.p rd 0) (ic [1] (XU rd bs p21 3 (ZD:=ob)) ?_)))))
 rintro _ _ ⟨k1,rfl,rfl,YB⟩
 have qhp3:=YB.lt om
 refine Z1 1 17 (.b (k1==0)) (ie (XI (fun F h=>∃(eQ:Z2),(GE g 1 151 eQ)/\F=[(0,.p rd 0),(4,.p b2 0),(5,.i z1),(6,.p b3 0)]/\h=[.obj rd [X9 bs,.i (p21+1:Nat)],.obj b3 (Yy eQ),YI gb rs,.obj b2 [.i 0,.i 0,nl]]) ?_ ?_))
 ·refine ac (k1==0) Zh (fun Ze=>?_) (fun Ze=>?_)
  ·refine az (iR 1 [(0,.p rd 0),(4,.p b2 0),(5,.i z1),(6,.p b3 0),(18,ZF e1)] [1] [b3] (VZ [ZF e1] (Yp [e1]) (XE [e1]).symm 1 3 ?_))
   intro v3
   refine Z5 0 (.n 19 (X3 [e1]) (.p .r)) (ZA [] (XG 5 0 [e1]) (ZH 2 b3 (Yy (Z2.mk 5 0 [e1])) (ie ?_)))
   exact ZV ⟨(Z2.mk 5 0 [e1]),(GE.one om om X2 om),rfl,rfl⟩ (wk [2,0,1,3] fl)
  refine ak ?_
  exact ZV ⟨e1,(GE.le X2 om),rfl,rfl⟩ (wk [0,0,0,2] fl)
 rintro F h ⟨eQ,QC,rfl,rfl⟩
 refine aD 7 (W2 4 7 [0,1,3] [(4,.p b2 0),(21,.p rd 0),(22,.i z1),(24,ZF eQ)] [1] [b3] (Z9 2 (dc 2 [0] [0] [b3] (S9 rd bs (p21+1) z1 (ZD:=ob)) ?_)))
 rintro _ _ ⟨e2,p22,rfl,rfl,YN⟩
 have hli:=YN.1
 refine Z9 4 (Wj 4 [] [] [ZF e2,ZF eQ] (Yp [e2,eQ]) (XE [e2,eQ]).symm 2 3 ?_)
 intro v4
 refine ZZ 2 2 [] (.n 25 (X3 [e2,eQ]) (.p .r)) (Z9 5 (Ys 5 [] [] [] (XG 13 0 [e2,eQ]) (Z9 6 (YK 6 4 [] [] b2 (Yy (Z2.mk 13 0 [e2,eQ])) (de ?_)))))
 exact Zc (r3 [2,3] [ZF (Z2.mk 13 0 [e2,eQ])] [0] [(b2,b2)] ⟨(Z2.mk 13 0 [e2,eQ]),p22,rfl,rfl,⟨GE.letS ((hli g).ge (X7 _)) QC om,by omega⟩⟩ (lr _))
theorem Sl (rd:Nat) (bs:List Int) (p:Nat) (g:XT) (gb:Nat) (rs:List Func) (f:Func) (i:Int) (w:Int) (ZD:∀z∈bs,0<=z/\z<=255) (hp:p+1000<=1000000000:=by exact ob) (hg:GP g:=by exact ob) (W8:g.funcs <+: rs:=by exact ob) (hi:0<=i:=by exact ob) (hf:g.funcs[i.toNat]? = some f:=by exact ob) (hw:0<=w/\w<f.params.length:=by exact ob):Zj Tryz.prog 192 [.p rd 0,.agg (Y8 g gb),.i i,.i w] [Yl rd bs p,YI gb rs] (fun r h=>∃(e:Z2) (p2:Nat),r=ZF e/\h=[Yl rd bs p2,YI gb rs]/\GE g f.params.length 200 e/\p<=p2/\p2<=p+1000):=by
 obtain ⟨hil,_⟩:=XM.1 hf
 have hgl:=hg.len
 have hso:=(hg.sigs f (Y7 hf)).bd
 have hbv:=BU
 refine ZK 136 Tryz.func192 (ar (iA (Y8 g gb) ?_))
 intro b1
 refine iA [.i 0,.i 0,nl] ?_
 intro b2
 refine ie (ar (iR 3 [(0,.p rd 0),(2,.i i),(3,.i w),(5,.p b1 0),(8,.p b2 0),(18,.ms gb 0 g.funcs.length 4),(19,.i i)] [1] [b1] (Zq (W5 gb g.funcs.length 4 i.toNat 5 i) (Z1 1 21 (.val (.pointer (some ⟨gb,i.toNat * 5,none⟩))) (VI (WV 3 gb 4 4 5 (i.toNat * 5+0) (Zl (Xc rs)) [Z0 f.params] 27 (Z0 f.params) (VY W8 hf 0 rfl (WF rfl))) (Z1 1 9 (Z0 f.params) (ie (ar (Z1 1 23 (Z0 f.params) (iw (Yd f.params) (Z1 1 10 (.i f.params.length) (ie (ar (Z1 1 25 (Z0 f.params) (iL (Z8 [0,1]) 2 1 ?_)))))))))))))))
 intro v1
 refine Z5 0 (.n 26 (Z0 [0,1]) (.p .r)) (ic [] (Q2 f.params [0,1]) ?_)
 rintro _ _ ⟨v2,rfl,rfl⟩
 refine Z1 1 11 (Z6 (f.params++[0,1]) v2) (ie (ar (iL (Yp []) 0 3 ?_)))
 intro v3
 refine Z1 1 12 (XQ [] v3) (ie (aq (ar (Z1 1 13 (.i 0) (ie (ab 0 (al (fun m F h=>∃(k:Nat) (ys:List Z2) (u:Value) (pq:Nat),(k<=f.params.length)/\(ys.length=k)/\(∀e∈ys,GE g (f.params.length+2) 3 e)/\(p<=pq/\pq<=p+k)/\F=[(0,.p rd 0),(2,.i i),(3,.i w),(5,.p b1 0),(8,.p b2 0),(9,Z0 f.params),(10,.i f.params.length),(11,Z0 (f.params++[0,1])),(12,XQ ys u),(13,.i k)]/\h=[.obj b2 [.i 0,.i 0,nl],.obj b1 (Y8 g gb),Yl rd bs pq,YI gb rs,.tail u 3]/\m=f.params.length-k) _ _ _ ⟨0,[],v3,p,ob,ob,(fun e he=>by cases he),ob,rfl,rfl,rfl⟩ (wk [3,3,3,3,0] (fq (fw (fr (fc (x:=Z6 (f.params++[0,1]) v2) (Zg.forget _ _) (fr (Ye fl))))))) ?_)))))))
 rintro m F h ⟨k,ys,u,pq,Ym,Zp,Zz,YJ,rfl,rfl,rfl⟩
 refine aq (ar (Z1 3 31 (.b (decide ((k:Int)<(f.params.length:Int)))) (ie (ZM ((k:Int)<(f.params.length:Int)) (fun Ze=>?_) (fun Ze=>?_)))))
 ·refine ak (aq (ab 1 (ar (Z1 3 36 (.b ((k:Int)==w)) (ie (ac ((k:Int)==w) Zh (fun Zk=>?_) (fun Zk=>?_)))))))
  ·refine az (Yo 2 37 (XQ ys u) 38 (.i f.params.length) (ia (((f.params.length+1:Nat):Int)) (((f.params.length:Int))+(1)) (ZA [] (Tl ((f.params.length+1:Nat):Int)) (VZ [ZF (Z2.mk 12 ((f.params.length+1:Nat):Int) [])] (Yp [(Z2.mk 12 ((f.params.length+1:Nat):Int) [])]) (XE [(Z2.mk 12 ((f.params.length+1:Nat):Int) [])]).symm 1 3 ?_))))
   intro v4
   refine Z5 0 (.n 41 (X3 [(Z2.mk 12 ((f.params.length+1:Nat):Int) [])]) (.p .r)) (ip 5 (Yp (ys++[(Z2.mk 12 ((f.params.length+1:Nat):Int) [])])) (Yp ys) (Yp [(Z2.mk 12 ((f.params.length+1:Nat):Int) [])]) u none 3 (Un _) (Un _) (Kq _) (by simp<;>omega) (by simp [Ko,Yp]) ?_)
   intro v5
   refine Z5 1 (.n 12 (XQ (ys++[(Z2.mk 12 ((f.params.length+1:Nat):Int) [])]) v5) (.p (.d (.p (.p (.d (.d (.d (.d (.w (.w (.d .r)))))))))))) (ie (az (Z1 1 32 (.i k) (ZO k (Z5 1 (.n 13 (.i (k+1:Nat)) (.p (.d (.w (.w (.k .z)))))) (ie ?_))))))
   exact ZQ ⟨k+1,(ys++[(Z2.mk 12 ((f.params.length+1:Nat):Int) [])]),v5,pq,ob,ob,(Xq Zz (GE.var om om om)),ob,rfl,rfl,rfl⟩ (wk [2,2,2,2,0] (fq (fq (fr (ZW k fl)))))
  refine aq (XI (fun F h=>∃(wb:Bool) (p5:Nat),(pq<=p5/\p5<=pq+1)/\F=[(0,.p rd 0),(2,.i i),(3,.i w),(5,.p b1 0),(8,.p b2 0),(9,Z0 f.params),(10,.i f.params.length),(11,Z0 (f.params++[0,1])),(12,XQ ys u),(13,.i k),(52,.b wb)]/\h=[.obj b2 [.i 0,.i 0,nl],.obj b1 (Y8 g gb),Yl rd bs p5,YI gb rs,.tail u 3]) ?_ ?_)
  ·refine az (ir 2 [(0,.p rd 0),(2,.i i),(3,.i w),(5,.p b1 0),(8,.p b2 0),(9,Z0 f.params),(10,.i f.params.length),(11,Z0 (f.params++[0,1])),(12,XQ ys u),(13,.i k),(43,Z0 f.params),(44,.i k)] ?_)
   obtain ⟨x1,Z3⟩:=Zs (xs:=f.params) (j:=k) om
   refine Zq (Zo none (k:Int) 1 (Y3 Z3)) (Z1 3 48 (.b (x1==0)) (ib (b:=(x1==0)) 48 (fun Za=>?_) (fun Za=>?_)))
   ·have ZP:x1=0:=(Zh).1 Za
    refine Z5 1 (.n 49 (.p rd 0) (.k (.d .r))) (ic [2] (XU rd bs pq 2 (ZD:=ob)) ?_)
    rintro _ _ ⟨k1,rfl,rfl,Y0⟩
    have qhp2:=Y0.lt om
    refine Z1 2 52 (.b (k1==0)) (ie ?_)
    exact ZV ⟨(k1==0),pq+1,om,rfl,rfl⟩ (wk [1,1,0,0,0] fl)
   have YB:¬(x1=0):=ZG Zh Za
   refine Z5 4 (.n 52 (.b false) (.k (.d .r))) (ie ?_)
   exact ZV ⟨false,pq,ob,rfl,rfl⟩ (ZL 5 fl)
  rintro F h ⟨wb,p5,kR10_0,rfl,rfl⟩
  refine ac wb Iff.rfl (fun ZI=>?_) (fun ZI=>?_)
  ·refine az (ir 2 [(0,.p rd 0),(2,.i i),(3,.i w),(5,.p b1 0),(8,.p b2 0),(9,Z0 f.params),(10,.i f.params.length),(11,Z0 (f.params++[0,1])),(13,.i k),(53,XQ ys u),(54,.i k)] (ZA [] (Tl (k:Int)) (Z1 1 56 (.i f.params.length) (ZA [] (Tl (f.params.length:Int)) (VZ [ZF (Z2.mk 12 (k:Int) []),ZF (Z2.mk 12 (f.params.length:Int) [])] (Yp [(Z2.mk 12 (k:Int) []),(Z2.mk 12 (f.params.length:Int) [])]) (XE [(Z2.mk 12 (k:Int) []),(Z2.mk 12 (f.params.length:Int) [])]).symm 2 3 ?_)))))
   intro v6
   refine Z5 0 (.n 58 (X3 [(Z2.mk 12 (k:Int) []),(Z2.mk 12 (f.params.length:Int) [])]) (.p .r)) (ZA [] (XG 1 0 [(Z2.mk 12 (k:Int) []),(Z2.mk 12 (f.params.length:Int) [])]) (VZ [ZF (Z2.mk 1 0 [(Z2.mk 12 (k:Int) []),(Z2.mk 12 (f.params.length:Int) [])])] (Yp [(Z2.mk 1 0 [(Z2.mk 12 (k:Int) []),(Z2.mk 12 (f.params.length:Int) [])])]) (XE [(Z2.mk 1 0 [(Z2.mk 12 (k:Int) []),(Z2.mk 12 (f.params.length:Int) [])])]).symm 1 3 ?_))
   intro v7
   refine Z5 0 (.n 60 (X3 [(Z2.mk 1 0 [(Z2.mk 12 (k:Int) []),(Z2.mk 12 (f.params.length:Int) [])])]) (.p .r)) (ip 6 (Yp (ys++[(Z2.mk 1 0 [(Z2.mk 12 (k:Int) []),(Z2.mk 12 (f.params.length:Int) [])])])) (Yp ys) (Yp [(Z2.mk 1 0 [(Z2.mk 12 (k:Int) []),(Z2.mk 12 (f.params.length:Int) [])])]) u none 3 (Un _) (Un _) (Kq _) (by simp<;>omega) (by simp [Ko,Yp]) ?_)
   intro v8
   refine Z1 1 12 (XQ (ys++[(Z2.mk 1 0 [(Z2.mk 12 (k:Int) []),(Z2.mk 12 (f.params.length:Int) [])])]) v8) (ie (az (Z1 1 32 (.i k) (ZO k (Z5 1 (.n 13 (.i (k+1:Nat)) (.p (.d (.k (.p (.d (.p (.d (.p (.d (.p (.w (.w .z))))))))))))) (ie ?_))))))
   exact ZQ ⟨k+1,(ys++[(Z2.mk 1 0 [(Z2.mk 12 (k:Int) []),(Z2.mk 12 (f.params.length:Int) [])])]),v8,p5,ob,ob,(Xq Zz (GE.two (s1:=1) (s2:=1) om om (GE.var om om om) (GE.var om om om) om)),ob,rfl,rfl,rfl⟩ (wk [3,3,3,3,0] (fq (fq (fr (ZW k fl)))))
  refine az (ir 2 [(0,.p rd 0),(2,.i i),(3,.i w),(5,.p b1 0),(8,.p b2 0),(9,Z0 f.params),(10,.i f.params.length),(11,Z0 (f.params++[0,1])),(13,.i k),(62,XQ ys u),(63,.i k)] (ZA [] (Tl (k:Int)) (VZ [ZF (Z2.mk 12 (k:Int) [])] (Yp [(Z2.mk 12 (k:Int) [])]) (XE [(Z2.mk 12 (k:Int) [])]).symm 1 3 ?_)))
  intro v9
  refine Z5 0 (.n 65 (X3 [(Z2.mk 12 (k:Int) [])]) (.p .r)) (ip 5 (Yp (ys++[(Z2.mk 12 (k:Int) [])])) (Yp ys) (Yp [(Z2.mk 12 (k:Int) [])]) u none 3 (Un _) (Un _) (Kq _) (by simp<;>omega) (by simp [Ko,Yp]) ?_)
  intro v10
  refine Z1 1 12 (XQ (ys++[(Z2.mk 12 (k:Int) [])]) v10) (ie (az (Z1 1 32 (.i k) (ZO k (Z5 1 (.n 13 (.i (k+1:Nat)) (.p (.d (.k (.p (.d (.p (.w (.w .z))))))))) (ie ?_))))))
  exact ZQ ⟨k+1,(ys++[(Z2.mk 12 (k:Int) [])]),v10,p5,ob,ob,(Xq Zz (GE.var om om om)),ob,rfl,rfl,rfl⟩ (wk [2,2,2,2,0] (fq (fq (fr (ZW k fl)))))
 refine ax 0 (ar (Yo 2 67 (.i i) 68 (X3 ys) (ZA [] (XG 9 i ys) (iA [.i 0,.i 0,nl] ?_))))
 intro b3
 refine ZH 0 b3 (Yy (Z2.mk 9 i ys)) (ie (ar (Yk 1 70 (ZF (Z2.mk 9 i ys)) [0] [b3] (iA [.i 0,.i 0,nl] ?_))))
 intro b4
 refine ZH 0 b4 (Yy (Z2.mk 9 i ys)) (ie (aq (aq (XI (fun F h=>∃(wb:Bool) (p5:Nat),(pq<=p5/\p5<=pq+1)/\F=[(0,.p rd 0),(2,.i i),(3,.i w),(5,.p b1 0),(8,.p b2 0),(9,Z0 f.params),(10,.i f.params.length),(11,Z0 (f.params++[0,1])),(14,.p b3 0),(15,.p b4 0),(82,.b wb)]/\h=[.obj b4 (Yy (Z2.mk 9 i ys)),.obj b3 (Yy (Z2.mk 9 i ys)),.obj b2 [.i 0,.i 0,nl],.obj b1 (Y8 g gb),Yl rd bs p5,YI gb rs]) ?_ ?_))))
 ·refine az (iR 3 [(0,.p rd 0),(2,.i i),(3,.i w),(5,.p b1 0),(8,.p b2 0),(9,Z0 f.params),(10,.i f.params.length),(11,Z0 (f.params++[0,1])),(14,.p b3 0),(15,.p b4 0),(72,.ms gb 0 g.funcs.length 4),(73,.i i)] [3] [b1] (Zq (W5 gb g.funcs.length 4 i.toNat 5 i) (Z1 1 75 (.val (.pointer (some ⟨gb,i.toNat * 5+1,none⟩))) (VI (WV 5 gb 4 4 5 (i.toNat * 5+1) (Zl (Xc rs)) [.i f.result] 3 (.i f.result) (VY W8 hf 1 rfl (WF rfl))) (Z1 2 78 (.b (f.result==1)) (ib (b:=(f.result==1)) 78 (fun Zw=>?_) (fun Zw=>?_)))))))
  ·have YN:f.result=1:=(Zh).1 Zw
   refine Z5 1 (.n 79 (.p rd 0) (.k (.d .r))) (ic [4] (XU rd bs pq 5 (ZD:=ob)) ?_)
   rintro _ _ ⟨k2,rfl,rfl,YX⟩
   have qhp5:=YX.lt om
   refine Z1 2 82 (.b (decide (k2>0))) (ie ?_)
   exact ZV ⟨(decide (k2>0)),pq+1,ob,rfl,rfl⟩ (wk [1,1,1,1,0,0] fl)
  have Xy:¬(f.result=1):=ZG Zh Zw
  refine Z5 4 (.n 82 (.b false) (.k (.d .r))) (ie ?_)
  exact ZV ⟨false,pq,ob,rfl,rfl⟩ (ZL 6 fl)
 rintro F h ⟨wb,p5,kR15_0,rfl,rfl⟩
 refine XI (fun F h=>∃(eQ:Z2) (p6:Nat),(GE g (f.params.length+2) 41 eQ)/\(p5<=p6/\p6<=p5+302)/\F=[(0,.p rd 0),(2,.i i),(3,.i w),(5,.p b1 0),(8,.p b2 0),(9,Z0 f.params),(15,.p b4 0)]/\h=[.obj b4 (Yy eQ),.obj b2 [.i 0,.i 0,nl],.obj b1 (Y8 g gb),Yl rd bs p6,YI gb rs]) ?_ ?_
 ·refine ac wb Iff.rfl (fun Yi=>?_) (fun Yi=>?_)
  ·refine ar (iR 3 [(0,.p rd 0),(2,.i i),(3,.i w),(5,.p b1 0),(8,.p b2 0),(9,Z0 f.params),(10,.i f.params.length),(14,.p b3 0),(15,.p b4 0),(83,.p rd 0),(84,.agg (Y8 g gb)),(85,Z0 (f.params++[0,1]))] [3] [b1] (ic [4,4] (TS rd bs p5 g gb rs (f.params++[0,1]) 0 4 (ZD:=ob) (hv:=(by first|omega|(simp only [Yx,YS,Xn];omega)))) ?_))
   rintro _ _ ⟨e1,p21,rfl,rfl,Wh⟩
   have X2:=Wh.1
   have TT:=Wh.2
   try rw [Yx] at X2
   rw [hbv.2.1] at X2
   refine iA [.i 0,.i 0,nl] ?_
   intro b5
   refine ZH 0 b5 (Yy e1) (ie (aq (aq (XI (fun F h=>∃(wc:Bool),(True)/\F=[(0,.p rd 0),(2,.i i),(3,.i w),(5,.p b1 0),(8,.p b2 0),(9,Z0 f.params),(10,.i f.params.length),(14,.p b3 0),(15,.p b4 0),(16,.p b5 0),(94,.b wc)]/\h=[.obj b5 (Yy e1),Yl rd bs p21,YI gb rs,.obj b4 (Yy (Z2.mk 9 i ys)),.obj b3 (Yy (Z2.mk 9 i ys)),.obj b2 [.i 0,.i 0,nl],.obj b1 (Y8 g gb)]) ?_ ?_))))
   ·refine az (ir 3 [(0,.p rd 0),(2,.i i),(3,.i w),(5,.p b1 0),(8,.p b2 0),(9,Z0 f.params),(10,.i f.params.length),(14,.p b3 0),(15,.p b4 0),(16,.p b5 0),(89,.b (decide ((f.params.length:Int)>1)))] (ib (b:=(decide ((f.params.length:Int)>1))) 89 (fun Yw=>?_) (fun Yw=>?_)))
    ·have WJ:(f.params.length:Int)>1:=(dq).1 Yw
     refine Z5 1 (.n 90 (Z0 f.params) (.w (.w (.k (.k (.k .z)))))) ?_
     obtain ⟨x2,Zv⟩:=Zs (xs:=f.params) (j:=0) om
     refine Zq (Zo none 0 1 (Y3 Zv)) (Z1 3 94 (.b (x2==2)) (ie ?_))
     exact ZV ⟨(x2==2),ob,rfl,rfl⟩ (ZL 7 fl)
    have V2:¬((f.params.length:Int)>1):=ZG dq Yw
    refine Z5 5 (.n 94 (.b false) (.d (.w (.w (.k (.k .z)))))) (ie ?_)
    exact ZV ⟨false,ob,rfl,rfl⟩ (ZL 7 fl)
   rintro F h ⟨wc,kR17_0,rfl,rfl⟩
   refine XI (fun F h=>∃(eA:Z2),(GE g (f.params.length+2) 30 eA)/\F=[(0,.p rd 0),(2,.i i),(3,.i w),(5,.p b1 0),(8,.p b2 0),(9,Z0 f.params),(14,.p b3 0),(15,.p b4 0),(16,.p b5 0)]/\h=[.obj b5 (Yy eA),Yl rd bs p21,YI gb rs,.obj b4 (Yy (Z2.mk 9 i ys)),.obj b3 (Yy (Z2.mk 9 i ys)),.obj b2 [.i 0,.i 0,nl],.obj b1 (Y8 g gb)]) ?_ ?_
   ·refine ac wc Iff.rfl (fun Xk=>?_) (fun Xk=>?_)
    ·refine az (ZA [] (Tl 0) (ir 1 [(0,.p rd 0),(2,.i i),(3,.i w),(5,.p b1 0),(8,.p b2 0),(9,Z0 f.params),(14,.p b3 0),(15,.p b4 0),(16,.p b5 0),(95,ZF (Z2.mk 12 0 [])),(96,.i f.params.length)] (ZA [] (Tl (f.params.length:Int)) (VZ [ZF (Z2.mk 12 0 []),ZF (Z2.mk 12 (f.params.length:Int) [])] (Yp [Z2.mk 12 0 [],(Z2.mk 12 (f.params.length:Int) [])]) (XE [Z2.mk 12 0 [],(Z2.mk 12 (f.params.length:Int) [])]).symm 2 3 ?_))))
     intro v11
     refine Z5 0 (.n 98 (X3 [Z2.mk 12 0 [],(Z2.mk 12 (f.params.length:Int) [])]) (.p .r)) (ZA [] (XG 11 0 [Z2.mk 12 0 [],(Z2.mk 12 (f.params.length:Int) [])]) (ZH 1 b5 (Yy (Z2.mk 11 0 [Z2.mk 12 0 [],(Z2.mk 12 (f.params.length:Int) [])])) (ie ?_)))
     exact ZV ⟨(Z2.mk 11 0 [Z2.mk 12 0 [],(Z2.mk 12 (f.params.length:Int) [])]),(GE.two (s1:=1) (s2:=1) om om (GE.var om om om) (GE.var om om om) om),rfl,rfl⟩ (wk [0,1,1,1,1,1,1] fl)
    refine ak ?_
    exact ZV ⟨e1,X2,rfl,rfl⟩ (ZL 7 fl)
   rintro F h ⟨eA,Z10,rfl,rfl⟩
   refine az (iR 2 [(0,.p rd 0),(2,.i i),(3,.i w),(5,.p b1 0),(8,.p b2 0),(9,Z0 f.params),(15,.p b4 0),(100,ZF eA),(101,ZF (Z2.mk 9 i ys))] [0,4] [b5,b3] (VZ [ZF eA,ZF (Z2.mk 9 i ys)] (Yp [eA,Z2.mk 9 i ys]) (XE [eA,Z2.mk 9 i ys]).symm 2 3 ?_))
   intro v12
   refine Z5 0 (.n 102 (X3 [eA,Z2.mk 9 i ys]) (.p .r)) (ZA [] (XG 6 1 [eA,Z2.mk 9 i ys]) (ZH 4 b4 (Yy (Z2.mk 6 1 [eA,Z2.mk 9 i ys])) (ie ?_)))
   exact ZV ⟨(Z2.mk 6 1 [eA,Z2.mk 9 i ys]),p21,(GE.two (s1:=30) (s2:=10) om om Z10 (GE.node (L:=f.params.length) (s:=3) (q:=10) om (fun _=>by omega) om Zz om om om) om),ob,rfl,rfl⟩ (wk [0,5,5,2,2] fl)
  refine ar (iR 3 [(0,.p rd 0),(2,.i i),(3,.i w),(5,.p b1 0),(8,.p b2 0),(9,Z0 f.params),(11,Z0 (f.params++[0,1])),(14,.p b3 0),(15,.p b4 0),(105,.ms gb 0 g.funcs.length 4),(106,.i i)] [3] [b1] (Zq (W5 gb g.funcs.length 4 i.toNat 5 i) (Z1 1 108 (.val (.pointer (some ⟨gb,i.toNat * 5+1,none⟩))) (VI (WV 5 gb 4 4 5 (i.toNat * 5+1) (Zl (Xc rs)) [.i f.result] 3 (.i f.result) (VY W8 hf 1 rfl (WF rfl))) (Z1 1 110 (.b (f.result==0)) (ie (ac (f.result==0) Zh (fun Xl=>?_) (fun Xl=>?_))))))))
  ·refine aE 11 (Y6 6 11 [0,3,4,5,7] (.n 111 (.p rd 0) (.n 114 (.p rd 0) (.n 115 (.agg (Y8 g gb)) (.n 116 (Z0 (f.params++[0,1])) (.n 118 (ZF (Z2.mk 9 i ys)) .r))))) [3,1] [b1,b3] (Z9 1 (dL 1 [1,3] [b3,b1] (Z8 [1,2]) 2 1 ?_)))
   intro v13
   refine ZZ 5 5 [] (.n 112 (Z0 [1,2]) (.p .r)) (Z9 2 (dc 2 [5] [1,3] [b3,b1] (Vt rd bs p5 [1,2] (ZD:=ob)) ?_))
   rintro _ _ ⟨z1,rfl,rfl,Ua⟩
   have hz:=JZ (a:=1) (b:=2) Ua (by decide)
   refine Z9 6 (dc 6 [0,5] [1] [b3] (TS rd bs (p5+1) g gb rs (f.params++[0,1]) 0 4 (ZD:=ob) (hv:=(by first|omega|(simp only [Yx,YS,Xn];omega)))) ?_)
   rintro _ _ ⟨e2,p22,rfl,rfl,UE⟩
   have X2:=UE.1
   have TT:=UE.2
   try rw [Yx] at X2
   rw [hbv.2.1] at X2
   refine Z9 8 (Wj 8 [] [] [ZF e2,ZF (Z2.mk 9 i ys)] (Yp [e2,Z2.mk 9 i ys]) (XE [e2,Z2.mk 9 i ys]).symm 2 3 ?_)
   intro v14
   refine ZZ 2 2 [] (.n 119 (X3 [e2,Z2.mk 9 i ys]) (.p .r)) (Z9 9 (Ys 9 [] [] [] (XG z1 0 [e2,Z2.mk 9 i ys]) (Z9 10 (YK 10 4 [] [] b4 (Yy (Z2.mk z1 0 [e2,Z2.mk 9 i ys])) (de ?_)))))
   exact ZV ⟨(Z2.mk z1 0 [e2,Z2.mk 9 i ys]),p22,(GE.two (s1:=30) (s2:=10) om om X2 (GE.node (L:=f.params.length) (s:=3) (q:=10) om (fun _=>by omega) om Zz om om om) om),ob,rfl,rfl⟩ (wk [0,5,5,1,1] fl)
  refine ak ?_
  exact ZV ⟨(Z2.mk 9 i ys),p5,(GE.le (GE.node (L:=f.params.length) (s:=3) (q:=10) om (fun _=>by omega) om Zz om om om) om),ob,rfl,rfl⟩ (wk [0,1,1,1,1] fl)
 rintro F h ⟨eQ,p6,TU,Z0z,rfl,rfl⟩
 refine aD 16 (W2 9 16 [0,2,3,4,5,6,7] [(8,.p b2 0),(15,.p b4 0),(121,.i w),(123,.p rd 0),(124,.agg (Y8 g gb)),(125,Z0 f.params),(127,.ms gb 0 g.funcs.length 4),(128,.i i)] [2,2] [b1,b1] (dx 8 (W5 gb g.funcs.length 4 i.toNat 5 i) (ZY 7 8 [9] 130 (.val (.pointer (some ⟨gb,i.toNat * 5+1,none⟩))) (VM 10 (WV 4 gb 4 4 5 (i.toNat * 5+1) (Zl (Xc rs)) [.i f.result] 3 (.i f.result) (VY W8 hf 1 rfl (WF rfl))) (Y6 5 6 [12] (.n 133 (ZF eQ) .r) [0] [b4] (Z9 1 (Ys 1 [] [0,4,2,2] [b4,gb,b1,b1] (Tl w) (Z9 11 (dc 11 [3,3] [0] [b4] (TS rd bs p6 g gb rs f.params f.result 4 (ZD:=ob) (hv:=(by first|omega|(simp only [Yx,YS,Xn];omega)))) ?_)))))))))
 rintro _ _ ⟨e3,p23,rfl,rfl,Ur⟩
 have X2:=Ur.1
 have TT:=Ur.2
 try rw [Yx] at X2
 rw [hbv.2.1] at X2
 refine Z9 13 (Wj 13 [] [] [ZF (Z2.mk 12 w []),ZF e3,ZF eQ] (Yp [Z2.mk 12 w [],e3,eQ]) (XE [Z2.mk 12 w [],e3,eQ]).symm 3 3 ?_)
 intro v15
 refine ZZ 2 2 [] (.n 134 (X3 [Z2.mk 12 w [],e3,eQ]) (.p .r)) (Z9 14 (Ys 14 [] [] [] (XG 8 1 [Z2.mk 12 w [],e3,eQ]) (Z9 15 (YK 15 4 [] [] b2 (Yy (Z2.mk 8 1 [Z2.mk 12 w [],e3,eQ])) (de ?_)))))
 exact Zc (r3 [2,2] [ZF (Z2.mk 8 1 [Z2.mk 12 w [],e3,eQ])] [0] [(b2,b2)] ⟨(Z2.mk 8 1 [Z2.mk 12 w [],e3,eQ]),p23,rfl,rfl,⟨GE.matchL hg (s1:=1) (s2:=30) (s3:=41) (GE.var om om om) X2 TU om,by omega⟩⟩ (lr _))
theorem Sm (rd:Nat) (bs:List Int) (p:Nat) (g:XT) (gb:Nat) (rs:List Func) (f:Func) (i:Int) (ZD:∀z∈bs,0<=z/\z<=255) (hp:p+1000<=1000000000:=by exact ob) (hg:GP g:=by exact ob) (W8:g.funcs <+: rs:=by exact ob) (hi:0<=i:=by exact ob) (hf:g.funcs[i.toNat]? = some f:=by exact ob) (h0:0<f.params.length:=by exact ob):Zj Tryz.prog 193 [.p rd 0,.agg (Y8 g gb),.i i] [Yl rd bs p,YI gb rs] (fun r h=>∃(e:Z2) (p2:Nat),r=ZF e/\h=[Yl rd bs p2,YI gb rs]/\GE g f.params.length 200 e/\p<=p2/\p2<=p+1000):=by
 obtain ⟨hil,_⟩:=XM.1 hf
 have hgl:=hg.len
 have hso:=(hg.sigs f (Y7 hf)).bd
 have hbv:=BU
 refine ZK 96 Tryz.func193 (ar (iA (Y8 g gb) ?_))
 intro b1
 refine iA [.i 0,.i 0,nl] ?_
 intro b2
 refine ie (ar (iR 3 [(0,.p rd 0),(2,.i i),(4,.p b1 0),(6,.p b2 0),(16,.ms gb 0 g.funcs.length 4),(17,.i i)] [1] [b1] (Zq (W5 gb g.funcs.length 4 i.toNat 5 i) (Z1 1 19 (.val (.pointer (some ⟨gb,i.toNat * 5,none⟩))) (VI (WV 3 gb 4 4 5 (i.toNat * 5+0) (Zl (Xc rs)) [Z0 f.params] 27 (Z0 f.params) (VY W8 hf 0 rfl (WF rfl))) (Z1 1 7 (Z0 f.params) (ie (ar (Z1 1 21 (Z0 f.params) (iw (Yd f.params) (Z1 1 8 (.i f.params.length) (ie (ar (Z1 1 23 (.i f.params.length) (ZA [] (Tl (f.params.length:Int)) (VZ [ZF (Z2.mk 12 (f.params.length:Int) [])] (Yp [(Z2.mk 12 (f.params.length:Int) [])]) (XE [(Z2.mk 12 (f.params.length:Int) [])]).symm 1 3 ?_))))))))))))))))
 intro v1
 refine Z1 1 9 (XQ [(Z2.mk 12 (f.params.length:Int) [])] v1) (ie (ar (Z1 1 26 (.i f.params.length) (ia (((f.params.length+2:Nat):Int)) (((f.params.length:Int))+(2)) (ZA [] (Tl ((f.params.length+2:Nat):Int)) (VZ [ZF (Z2.mk 12 ((f.params.length+2:Nat):Int) [])] (Yp [(Z2.mk 12 ((f.params.length+2:Nat):Int) [])]) (XE [(Z2.mk 12 ((f.params.length+2:Nat):Int) [])]).symm 1 3 ?_))))))
 intro v2
 refine Z1 1 10 (XQ [(Z2.mk 12 ((f.params.length+2:Nat):Int) [])] v2) (ie (aq (ar (Z1 1 11 (.i 1) (ie (ab 0 (al (fun m F h=>∃(k:Nat) (ys:List Z2) (u:Value) (zs:List Z2) (w:Value),(1<=k/\k<=f.params.length)/\(ys.length=k)/\(zs.length=k)/\(∀e∈ys,GE g (f.params.length+3) 1 e)/\(∀e∈zs,GE g (f.params.length+3) 1 e)/\F=[(0,.p rd 0),(2,.i i),(4,.p b1 0),(6,.p b2 0),(7,Z0 f.params),(8,.i f.params.length),(9,XQ ys u),(10,XQ zs w),(11,.i k)]/\h=[.obj b2 [.i 0,.i 0,nl],.obj b1 (Y8 g gb),Yl rd bs p,YI gb rs,.tail u 3,.tail w 3]/\m=f.params.length-k) _ _ _ ⟨1,[(Z2.mk 12 (f.params.length:Int) [])],v1,[(Z2.mk 12 ((f.params.length+2:Nat):Int) [])],v2,ob,ob,ob,(EV (GE.var om om om)),(EV (GE.var om om om)),rfl,rfl,rfl⟩ (wk [2,2,2,2,1,0] (fq (fq (fc (x:=.i 1) li fl)))) ?_)))))))
 rintro m F h ⟨k,ys,u,zs,w,Ym,Zp,Zz,YJ,Wd,rfl,rfl,rfl⟩
 refine aq (ar (Z1 3 32 (.b (decide ((k:Int)<(f.params.length:Int)))) (ie (ZM ((k:Int)<(f.params.length:Int)) (fun Ze=>?_) (fun Ze=>?_)))))
 ·refine ak (aq (ab 1 (ar (Yo 2 35 (XQ ys u) 36 (.i k) (ZA [] (Tl (k:Int)) (VZ [ZF (Z2.mk 12 (k:Int) [])] (Yp [(Z2.mk 12 (k:Int) [])]) (XE [(Z2.mk 12 (k:Int) [])]).symm 1 3 ?_))))))
  intro v3
  refine Z5 0 (.n 38 (X3 [(Z2.mk 12 (k:Int) [])]) (.p .r)) (ip 5 (Yp (ys++[(Z2.mk 12 (k:Int) [])])) (Yp ys) (Yp [(Z2.mk 12 (k:Int) [])]) u none 3 (Un _) (Un _) (Kq _) (by simp<;>omega) (by simp [Ko,Yp]) ?_)
  intro v4
  refine Z5 1 (.n 9 (XQ (ys++[(Z2.mk 12 (k:Int) [])]) v4) (.p (.d (.p (.d (.d (.d (.w (.k (.k (.d .r))))))))))) (ie (az (Yo 2 40 (XQ zs w) 41 (.i k) (ZA [] (Tl (k:Int)) (VZ [ZF (Z2.mk 12 (k:Int) [])] (Yp [(Z2.mk 12 (k:Int) [])]) (XE [(Z2.mk 12 (k:Int) [])]).symm 1 3 ?_)))))
  intro v5
  refine Z5 0 (.n 43 (X3 [(Z2.mk 12 (k:Int) [])]) (.p .r)) (ip 7 (Yp (zs++[(Z2.mk 12 (k:Int) [])])) (Yp zs) (Yp [(Z2.mk 12 (k:Int) [])]) w none 3 (Un _) (Un _) (Kq _) (by simp<;>omega) (by simp [Ko,Yp]) ?_)
  intro v6
  refine Z5 1 (.n 10 (XQ (zs++[(Z2.mk 12 (k:Int) [])]) v6) (.p (.d (.p (.d (.d (.w (.k (.k (.k (.d .r))))))))))) (ie (az (Z1 1 33 (.i k) (ZO k (Z5 1 (.n 11 (.i (k+1:Nat)) (.p (.d (.w (.w .z))))) (ie ?_))))))
  exact ZQ ⟨k+1,(ys++[(Z2.mk 12 (k:Int) [])]),v4,(zs++[(Z2.mk 12 (k:Int) [])]),v6,ob,ob,ob,(Xq YJ (GE.var om om om)),(Xq Wd (GE.var om om om)),rfl,rfl,rfl⟩ (wk [4,4,4,4,2,0] (fq (fq (ZW k fl))))
 refine ax 0 (ar (Yo 2 45 (.i i) 46 (X3 ys) (ZA [] (XG 9 i ys) (iA [.i 0,.i 0,nl] ?_))))
 intro b3
 refine ZH 0 b3 (Yy (Z2.mk 9 i ys)) (ie (ar (Yo 2 48 (.i i) 49 (X3 zs) (ZA [] (XG 9 i zs) (iA [.i 0,.i 0,nl] ?_)))))
 intro b4
 refine ZH 0 b4 (Yy (Z2.mk 9 i zs)) (ie (aD 14 (Y6 9 14 [0,1,2,3,7] (.n 51 (ZF (Z2.mk 9 i ys)) (.n 52 (.p rd 0) (.n 53 (.agg (Y8 g gb)) (.n 54 (Z0 f.params) (.n 58 (ZF (Z2.mk 9 i zs)) .r))))) [1,3,0] [b3,b1,b4] (dK (fun F h=>∃(e1:Z2) (p21:Nat) (b5:Nat),(GE g (f.params++[3,0,3]).length (bS 4) e1/\p<=p21/\p21<=p+bC 4)/\F=[(0,.p rd 0),(2,.i i),(4,.p b1 0),(6,.p b2 0),(7,Z0 f.params),(8,.i f.params.length),(12,.p b3 0),(14,.p b5 0)]/\h=[.obj b5 (Yy (Z2.mk 1 0 [Z2.mk 9 i ys,Z2.mk 1 0 [e1,Z2.mk 9 i zs]])),Yl rd bs p21,YI gb rs,.obj b4 (Yy (Z2.mk 9 i zs)),.obj b3 (Yy (Z2.mk 9 i ys)),.obj b2 [.i 0,.i 0,nl],.obj b1 (Y8 g gb),.tail u 3,.tail w 3]) ?_ ?_))))
 ·refine Vh 4 12 ?_ ?_
  ·refine dL 4 [0,3,1] [b4,b1,b3] (Z8 [3,0,3]) 3 1 ?_
   intro v7
   refine Xa 8 8 [] [(0,.p rd 0),(2,.i i),(4,.p b1 0),(6,.p b2 0),(7,Z0 f.params),(8,.i f.params.length),(12,.p b3 0),(51,ZF (Z2.mk 9 i ys)),(52,.p rd 0),(53,.agg (Y8 g gb)),(54,Z0 f.params),(55,Z0 [3,0,3]),(58,ZF (Z2.mk 9 i zs))] (Vh 5 12 ?_ ?_)
   ·refine dc 5 [] [0,3,1] [b4,b1,b3] (Q2 f.params [3,0,3]) ?_
    rintro _ _ ⟨v8,rfl,rfl⟩
    refine Xa 7 7 [] [(0,.p rd 0),(2,.i i),(4,.p b1 0),(6,.p b2 0),(7,Z0 f.params),(8,.i f.params.length),(12,.p b3 0),(51,ZF (Z2.mk 9 i ys)),(52,.p rd 0),(53,.agg (Y8 g gb)),(56,Z0 (f.params++[3,0,3])),(58,ZF (Z2.mk 9 i zs))] (Vh 6 12 ?_ ?_)
    ·refine dc 6 [6,6] [0,1] [b4,b3] (TS rd bs p g gb rs (f.params++[3,0,3]) 0 4 (ZD:=ob) (hv:=(by first|omega|(simp only [Yx,YS,Xn];omega)))) ?_
     rintro _ _ ⟨e1,p21,rfl,rfl,ZP⟩
     have X2:=ZP.1
     have TT:=ZP.2
     try rw [Yx] at X2
     rw [hbv.2.1] at X2
     refine Vh 8 12 ?_ ?_
     ·refine Wj 8 [3] [b3] [ZF e1,ZF (Z2.mk 9 i zs)] (Yp [e1,Z2.mk 9 i zs]) (XE [e1,Z2.mk 9 i zs]).symm 2 3 ?_
      intro v9
      refine Xa 5 5 [] [(0,.p rd 0),(2,.i i),(4,.p b1 0),(6,.p b2 0),(7,Z0 f.params),(8,.i f.params.length),(12,.p b3 0),(51,ZF (Z2.mk 9 i ys)),(59,X3 [e1,Z2.mk 9 i zs])] (Vh 9 12 ?_ ?_)
      ·refine Ys 9 [] [3] [b3] (XG 1 0 [e1,Z2.mk 9 i zs]) (Vh 10 12 ?_ ?_)
       ·refine Wj 10 [] [] [ZF (Z2.mk 9 i ys),ZF (Z2.mk 1 0 [e1,Z2.mk 9 i zs])] (Yp [Z2.mk 9 i ys,Z2.mk 1 0 [e1,Z2.mk 9 i zs]]) (XE [Z2.mk 9 i ys,Z2.mk 1 0 [e1,Z2.mk 9 i zs]]).symm 2 3 ?_
        intro v10
        refine Xa 3 3 [] [(0,.p rd 0),(2,.i i),(4,.p b1 0),(6,.p b2 0),(7,Z0 f.params),(8,.i f.params.length),(12,.p b3 0),(61,X3 [Z2.mk 9 i ys,Z2.mk 1 0 [e1,Z2.mk 9 i zs]])] (Vh 11 12 ?_ ?_)
        ·refine Ys 11 [] [] [] (XG 1 0 [Z2.mk 9 i ys,Z2.mk 1 0 [e1,Z2.mk 9 i zs]]) (Z9 12 (dA 12 [] [] [.i 0,.i 0,nl] ?_))
         intro b5
         refine Z9 13 (YK 13 0 [] [] b5 (Yy (Z2.mk 1 0 [Z2.mk 9 i ys,Z2.mk 1 0 [e1,Z2.mk 9 i zs]])) (de ?_))
         exact ZV ⟨e1,p21,b5,(by assumption),rfl,rfl⟩ (wk [0,2,2,4,4,4,4,4,4] fl)
        refine dA 12 [] [] [.i 0,.i 0,nl] ?_
        intro b6
        refine Z9 11 (Ys 11 [] [] [] (XG 1 0 [Z2.mk 9 i ys,Z2.mk 1 0 [e1,Z2.mk 9 i zs]]) (Z9 13 (YK 13 0 [] [] b6 (Yy (Z2.mk 1 0 [Z2.mk 9 i ys,Z2.mk 1 0 [e1,Z2.mk 9 i zs]])) (de ?_))))
        exact ZV ⟨e1,p21,b6,(by assumption),rfl,rfl⟩ (wk [0,2,2,4,4,4,4,4,4] fl)
       refine dA 12 [3] [b3] [.i 0,.i 0,nl] ?_
       intro b7
       refine Z9 10 (Wj 10 [] [] [ZF (Z2.mk 9 i ys),ZF (Z2.mk 1 0 [e1,Z2.mk 9 i zs])] (Yp [Z2.mk 9 i ys,Z2.mk 1 0 [e1,Z2.mk 9 i zs]]) (XE [Z2.mk 9 i ys,Z2.mk 1 0 [e1,Z2.mk 9 i zs]]).symm 2 3 ?_)
       intro v11
       refine Xa 2 2 [] [(0,.p rd 0),(2,.i i),(4,.p b1 0),(6,.p b2 0),(7,Z0 f.params),(8,.i f.params.length),(12,.p b3 0),(14,.p b7 0),(61,X3 [Z2.mk 9 i ys,Z2.mk 1 0 [e1,Z2.mk 9 i zs]])] (Z9 11 (Ys 11 [] [] [] (XG 1 0 [Z2.mk 9 i ys,Z2.mk 1 0 [e1,Z2.mk 9 i zs]]) (Z9 13 (YK 13 1 [] [] b7 (Yy (Z2.mk 1 0 [Z2.mk 9 i ys,Z2.mk 1 0 [e1,Z2.mk 9 i zs]])) (de ?_)))))
       exact ZV ⟨e1,p21,b7,(by assumption),rfl,rfl⟩ (wk [0,2,2,4,4,4,4,4,4] fl)
      refine dA 12 [3] [b3] [.i 0,.i 0,nl] ?_
      intro b8
      refine Z9 9 (Ys 9 [] [4] [b3] (XG 1 0 [e1,Z2.mk 9 i zs]) (Z9 10 (Wj 10 [] [] [ZF (Z2.mk 9 i ys),ZF (Z2.mk 1 0 [e1,Z2.mk 9 i zs])] (Yp [Z2.mk 9 i ys,Z2.mk 1 0 [e1,Z2.mk 9 i zs]]) (XE [Z2.mk 9 i ys,Z2.mk 1 0 [e1,Z2.mk 9 i zs]]).symm 2 3 ?_)))
      intro v12
      refine Xa 2 2 [] [(0,.p rd 0),(2,.i i),(4,.p b1 0),(6,.p b2 0),(7,Z0 f.params),(8,.i f.params.length),(12,.p b3 0),(14,.p b8 0),(61,X3 [Z2.mk 9 i ys,Z2.mk 1 0 [e1,Z2.mk 9 i zs]])] (Z9 11 (Ys 11 [] [] [] (XG 1 0 [Z2.mk 9 i ys,Z2.mk 1 0 [e1,Z2.mk 9 i zs]]) (Z9 13 (YK 13 1 [] [] b8 (Yy (Z2.mk 1 0 [Z2.mk 9 i ys,Z2.mk 1 0 [e1,Z2.mk 9 i zs]])) (de ?_)))))
      exact ZV ⟨e1,p21,b8,(by assumption),rfl,rfl⟩ (wk [0,2,2,4,4,4,4,4,4] fl)
     refine dA 12 [2,3] [b4,b3] [.i 0,.i 0,nl] ?_
     intro b9
     refine Z9 8 (Wj 8 [4] [b3] [ZF e1,ZF (Z2.mk 9 i zs)] (Yp [e1,Z2.mk 9 i zs]) (XE [e1,Z2.mk 9 i zs]).symm 2 3 ?_)
     intro v13
     refine Xa 4 4 [] [(0,.p rd 0),(2,.i i),(4,.p b1 0),(6,.p b2 0),(7,Z0 f.params),(8,.i f.params.length),(12,.p b3 0),(14,.p b9 0),(51,ZF (Z2.mk 9 i ys)),(59,X3 [e1,Z2.mk 9 i zs])] (Z9 9 (Ys 9 [] [4] [b3] (XG 1 0 [e1,Z2.mk 9 i zs]) (Z9 10 (Wj 10 [] [] [ZF (Z2.mk 9 i ys),ZF (Z2.mk 1 0 [e1,Z2.mk 9 i zs])] (Yp [Z2.mk 9 i ys,Z2.mk 1 0 [e1,Z2.mk 9 i zs]]) (XE [Z2.mk 9 i ys,Z2.mk 1 0 [e1,Z2.mk 9 i zs]]).symm 2 3 ?_))))
     intro v14
     refine ZZ 2 2 [] (.n 61 (X3 [Z2.mk 9 i ys,Z2.mk 1 0 [e1,Z2.mk 9 i zs]]) (.p .r)) (Z9 11 (Ys 11 [] [] [] (XG 1 0 [Z2.mk 9 i ys,Z2.mk 1 0 [e1,Z2.mk 9 i zs]]) (Z9 13 (YK 13 2 [] [] b9 (Yy (Z2.mk 1 0 [Z2.mk 9 i ys,Z2.mk 1 0 [e1,Z2.mk 9 i zs]])) (de ?_)))))
     exact ZV ⟨e1,p21,b9,(by assumption),rfl,rfl⟩ (wk [0,2,2,4,4,4,4,4,4] fl)
    refine dA 12 [0,3,1] [b4,b1,b3] [.i 0,.i 0,nl] ?_
    intro b10
    refine Z9 6 (dc 6 [7,7] [1,2] [b4,b3] (TS rd bs p g gb rs (f.params++[3,0,3]) 0 4 (ZD:=ob) (hv:=(by first|omega|(simp only [Yx,YS,Xn];omega)))) ?_)
    rintro _ _ ⟨e2,p22,rfl,rfl,Y0⟩
    have X2:=Y0.1
    have TT:=Y0.2
    try rw [Yx] at X2
    rw [hbv.2.1] at X2
    refine Z9 8 (Wj 8 [4] [b3] [ZF e2,ZF (Z2.mk 9 i zs)] (Yp [e2,Z2.mk 9 i zs]) (XE [e2,Z2.mk 9 i zs]).symm 2 3 ?_)
    intro v15
    refine Xa 4 4 [] [(0,.p rd 0),(2,.i i),(4,.p b1 0),(6,.p b2 0),(7,Z0 f.params),(8,.i f.params.length),(12,.p b3 0),(14,.p b10 0),(51,ZF (Z2.mk 9 i ys)),(59,X3 [e2,Z2.mk 9 i zs])] (Z9 9 (Ys 9 [] [4] [b3] (XG 1 0 [e2,Z2.mk 9 i zs]) (Z9 10 (Wj 10 [] [] [ZF (Z2.mk 9 i ys),ZF (Z2.mk 1 0 [e2,Z2.mk 9 i zs])] (Yp [Z2.mk 9 i ys,Z2.mk 1 0 [e2,Z2.mk 9 i zs]]) (XE [Z2.mk 9 i ys,Z2.mk 1 0 [e2,Z2.mk 9 i zs]]).symm 2 3 ?_))))
    intro v16
    refine ZZ 2 2 [] (.n 61 (X3 [Z2.mk 9 i ys,Z2.mk 1 0 [e2,Z2.mk 9 i zs]]) (.p .r)) (Z9 11 (Ys 11 [] [] [] (XG 1 0 [Z2.mk 9 i ys,Z2.mk 1 0 [e2,Z2.mk 9 i zs]]) (Z9 13 (YK 13 4 [] [] b10 (Yy (Z2.mk 1 0 [Z2.mk 9 i ys,Z2.mk 1 0 [e2,Z2.mk 9 i zs]])) (de ?_)))))
    exact ZV ⟨e2,p22,b10,(by assumption),rfl,rfl⟩ (wk [0,2,2,4,4,4,4,4,4] fl)
   refine dA 12 [0,3,1] [b4,b1,b3] [.i 0,.i 0,nl] ?_
   intro b11
   refine Z9 5 (dc 5 [] [1,4,2] [b4,b1,b3] (Q2 f.params [3,0,3]) ?_)
   rintro _ _ ⟨v17,rfl,rfl⟩
   refine Xa 6 6 [] [(0,.p rd 0),(2,.i i),(4,.p b1 0),(6,.p b2 0),(7,Z0 f.params),(8,.i f.params.length),(12,.p b3 0),(14,.p b11 0),(51,ZF (Z2.mk 9 i ys)),(52,.p rd 0),(53,.agg (Y8 g gb)),(56,Z0 (f.params++[3,0,3])),(58,ZF (Z2.mk 9 i zs))] (Z9 6 (dc 6 [7,7] [1,2] [b4,b3] (TS rd bs p g gb rs (f.params++[3,0,3]) 0 4 (ZD:=ob) (hv:=(by first|omega|(simp only [Yx,YS,Xn];omega)))) ?_))
   rintro _ _ ⟨e3,p23,rfl,rfl,YB⟩
   have X2:=YB.1
   have TT:=YB.2
   try rw [Yx] at X2
   rw [hbv.2.1] at X2
   refine Z9 8 (Wj 8 [4] [b3] [ZF e3,ZF (Z2.mk 9 i zs)] (Yp [e3,Z2.mk 9 i zs]) (XE [e3,Z2.mk 9 i zs]).symm 2 3 ?_)
   intro v18
   refine ZZ 4 4 [] (.n 59 (X3 [e3,Z2.mk 9 i zs]) (.p .r)) (Z9 9 (Ys 9 [] [4] [b3] (XG 1 0 [e3,Z2.mk 9 i zs]) (Z9 10 (Wj 10 [] [] [ZF (Z2.mk 9 i ys),ZF (Z2.mk 1 0 [e3,Z2.mk 9 i zs])] (Yp [Z2.mk 9 i ys,Z2.mk 1 0 [e3,Z2.mk 9 i zs]]) (XE [Z2.mk 9 i ys,Z2.mk 1 0 [e3,Z2.mk 9 i zs]]).symm 2 3 ?_))))
   intro v19
   refine ZZ 2 2 [] (.n 61 (X3 [Z2.mk 9 i ys,Z2.mk 1 0 [e3,Z2.mk 9 i zs]]) (.p .r)) (Z9 11 (Ys 11 [] [] [] (XG 1 0 [Z2.mk 9 i ys,Z2.mk 1 0 [e3,Z2.mk 9 i zs]]) (Z9 13 (YK 13 5 [] [] b11 (Yy (Z2.mk 1 0 [Z2.mk 9 i ys,Z2.mk 1 0 [e3,Z2.mk 9 i zs]])) (de ?_)))))
   exact ZV ⟨e3,p23,b11,(by assumption),rfl,rfl⟩ (wk [0,2,2,4,4,4,4,4,4] fl)
  refine dA 12 [0,3,1] [b4,b1,b3] [.i 0,.i 0,nl] ?_
  intro b12
  refine Z9 4 (dL 4 [1,4,2] [b4,b1,b3] (Z8 [3,0,3]) 3 1 ?_)
  intro v20
  refine Xa 7 7 [] [(0,.p rd 0),(2,.i i),(4,.p b1 0),(6,.p b2 0),(7,Z0 f.params),(8,.i f.params.length),(12,.p b3 0),(14,.p b12 0),(51,ZF (Z2.mk 9 i ys)),(52,.p rd 0),(53,.agg (Y8 g gb)),(54,Z0 f.params),(55,Z0 [3,0,3]),(58,ZF (Z2.mk 9 i zs))] (Z9 5 (dc 5 [] [1,4,2] [b4,b1,b3] (Q2 f.params [3,0,3]) ?_))
  rintro _ _ ⟨v21,rfl,rfl⟩
  refine ZZ 6 6 [] (.n 56 (Z0 (f.params++[3,0,3])) (.p .r)) (Z9 6 (dc 6 [7,7] [1,2] [b4,b3] (TS rd bs p g gb rs (f.params++[3,0,3]) 0 4 (ZD:=ob) (hv:=(by first|omega|(simp only [Yx,YS,Xn];omega)))) ?_))
  rintro _ _ ⟨e4,p24,rfl,rfl,YN⟩
  have X2:=YN.1
  have TT:=YN.2
  try rw [Yx] at X2
  rw [hbv.2.1] at X2
  refine Z9 8 (Wj 8 [4] [b3] [ZF e4,ZF (Z2.mk 9 i zs)] (Yp [e4,Z2.mk 9 i zs]) (XE [e4,Z2.mk 9 i zs]).symm 2 3 ?_)
  intro v22
  refine ZZ 4 4 [] (.n 59 (X3 [e4,Z2.mk 9 i zs]) (.p .r)) (Z9 9 (Ys 9 [] [4] [b3] (XG 1 0 [e4,Z2.mk 9 i zs]) (Z9 10 (Wj 10 [] [] [ZF (Z2.mk 9 i ys),ZF (Z2.mk 1 0 [e4,Z2.mk 9 i zs])] (Yp [Z2.mk 9 i ys,Z2.mk 1 0 [e4,Z2.mk 9 i zs]]) (XE [Z2.mk 9 i ys,Z2.mk 1 0 [e4,Z2.mk 9 i zs]]).symm 2 3 ?_))))
  intro v23
  refine ZZ 2 2 [] (.n 61 (X3 [Z2.mk 9 i ys,Z2.mk 1 0 [e4,Z2.mk 9 i zs]]) (.p .r)) (Z9 11 (Ys 11 [] [] [] (XG 1 0 [Z2.mk 9 i ys,Z2.mk 1 0 [e4,Z2.mk 9 i zs]]) (Z9 13 (YK 13 6 [] [] b12 (Yy (Z2.mk 1 0 [Z2.mk 9 i ys,Z2.mk 1 0 [e4,Z2.mk 9 i zs]])) (de ?_)))))
  exact ZV ⟨e4,p24,b12,(by assumption),rfl,rfl⟩ (wk [0,2,2,4,4,4,4,4,4] fl)
 rintro F h ⟨e1,p21,b5,ZP,rfl,rfl⟩
 have X2:=ZP.1
 have TT:=ZP.2
 try rw [Yx] at X2
 rw [hbv.2.1] at X2
 refine aq (ar (iR 3 [(0,.p rd 0),(2,.i i),(4,.p b1 0),(6,.p b2 0),(7,Z0 f.params),(8,.i f.params.length),(12,.p b3 0),(14,.p b5 0),(64,.ms gb 0 g.funcs.length 4),(65,.i i)] [6] [b1] (Zq (W5 gb g.funcs.length 4 i.toNat 5 i) (Z1 1 67 (.val (.pointer (some ⟨gb,i.toNat * 5+1,none⟩))) (VI (WV 2 gb 4 4 5 (i.toNat * 5+1) (Zl (Xc rs)) [.i f.result] 3 (.i f.result) (VY W8 hf 1 rfl (WF rfl))) (Z1 1 69 (.b (f.result==3)) (ie (XI (fun F h=>∃(eQ:Z2) (p6:Nat),(GE g (f.params.length+3) 52 eQ)/\(p<=p6/\p6<=p+650)/\F=[(0,.p rd 0),(2,.i i),(4,.p b1 0),(6,.p b2 0),(7,Z0 f.params),(14,.p b5 0)]/\h=[.obj b5 (Yy eQ),Yl rd bs p6,YI gb rs,.obj b2 [.i 0,.i 0,nl],.obj b1 (Y8 g gb)]) ?_ ?_))))))))
 ·refine ac (f.result==3) Zh (fun Zk=>?_) (fun Zk=>?_)
  ·refine aE 13 (W2 8 13 [0,1,2,3,7] [(0,.p rd 0),(2,.i i),(4,.p b1 0),(6,.p b2 0),(7,Z0 f.params),(14,.p b5 0),(70,ZF (Z2.mk 9 i ys)),(71,.p rd 0),(72,.agg (Y8 g gb)),(73,Z0 f.params),(77,.i f.params.length)] [4,6] [b3,b1] (da 8 (((f.params.length+2:Nat):Int)) (((f.params.length:Int))+(2)) (Z9 4 (dL 4 [6,4] [b1,b3] (Z8 [3,0,3]) 3 1 ?_))))
   intro v24
   refine ZZ 6 6 [] (.n 74 (Z0 [3,0,3]) (.p .r)) (Z9 5 (dc 5 [] [6,4] [b1,b3] (Q2 f.params [3,0,3]) ?_))
   rintro _ _ ⟨v25,rfl,rfl⟩
   refine ZZ 5 5 [] (.n 75 (Z0 (f.params++[3,0,3])) (.p .r)) (Z9 6 (dc 6 [3,3] [2] [b3] (TS rd bs p21 g gb rs (f.params++[3,0,3]) 0 4 (ZD:=ob) (hv:=(by first|omega|(simp only [Yx,YS,Xn];omega)))) ?_))
   rintro _ _ ⟨e5,p25,rfl,rfl,YX⟩
   have X2:=YX.1
   have TT:=YX.2
   try rw [Yx] at X2
   rw [hbv.2.1] at X2
   refine Z9 9 (Ys 9 [] [4] [b3] (Tl ((f.params.length+2:Nat):Int)) (Z9 10 (Wj 10 [] [] [ZF (Z2.mk 9 i ys),ZF e5,ZF (Z2.mk 12 ((f.params.length+2:Nat):Int) [])] (Yp [Z2.mk 9 i ys,e5,(Z2.mk 12 ((f.params.length+2:Nat):Int) [])]) (XE [Z2.mk 9 i ys,e5,(Z2.mk 12 ((f.params.length+2:Nat):Int) [])]).symm 3 3 ?_)))
   intro v26
   refine ZZ 2 2 [] (.n 80 (X3 [Z2.mk 9 i ys,e5,(Z2.mk 12 ((f.params.length+2:Nat):Int) [])]) (.p .r)) (Z9 11 (Ys 11 [] [] [] (XG 6 3 [Z2.mk 9 i ys,e5,(Z2.mk 12 ((f.params.length+2:Nat):Int) [])]) (Z9 12 (YK 12 5 [] [] b5 (Yy (Z2.mk 6 3 [Z2.mk 9 i ys,e5,(Z2.mk 12 ((f.params.length+2:Nat):Int) [])])) (de ?_)))))
   exact ZV ⟨(Z2.mk 6 3 [Z2.mk 9 i ys,e5,(Z2.mk 12 ((f.params.length+2:Nat):Int) [])]),p25,(GE.three (s1:=10) (s2:=30) (s3:=1) om om (GE.node (L:=f.params.length) (s:=1) (q:=10) om (fun _=>by omega) om YJ om om om) X2 (GE.var om om om) om),ob,rfl,rfl⟩ (wk [0,1,1,5,5] fl)
  refine ak ?_
  exact ZV ⟨(Z2.mk 1 0 [Z2.mk 9 i ys,Z2.mk 1 0 [e1,Z2.mk 9 i zs]]),p21,(GE.two (s1:=10) (s2:=41) om om (GE.node (L:=f.params.length) (s:=1) (q:=10) om (fun _=>by omega) om YJ om om om) (GE.two (s1:=30) (s2:=10) om om X2 (GE.node (L:=f.params.length) (s:=1) (q:=10) om (fun _=>by omega) om Wd om om om) om) om),ob,rfl,rfl⟩ (wk [0,0,0,2,2] fl)
 rintro F h ⟨eQ,p6,Vv,Jg,rfl,rfl⟩
 refine aD 15 (W2 9 15 [1,2,3,4,5,6] [(6,.p b2 0),(14,.p b5 0),(83,.p rd 0),(84,.agg (Y8 g gb)),(85,Z0 f.params),(87,.ms gb 0 g.funcs.length 4),(88,.i i)] [4,4] [b1,b1] (dx 7 (W5 gb g.funcs.length 4 i.toNat 5 i) (ZY 7 8 [8] 90 (.val (.pointer (some ⟨gb,i.toNat * 5+1,none⟩))) (VM 9 (WV 2 gb 4 4 5 (i.toNat * 5+1) (Zl (Xc rs)) [.i f.result] 3 (.i f.result) (VY W8 hf 1 rfl (WF rfl))) (Y6 5 6 [11] (.n 93 (ZF eQ) .r) [0] [b5] (Z9 0 (Ys 0 [] [0,2,4,4] [b5,gb,b1,b1] (Tl 0) (Z9 10 (dc 10 [1,1] [0] [b5] (TS rd bs p6 g gb rs f.params f.result 4 (ZD:=ob) (hv:=(by first|omega|(simp only [Yx,YS,Xn];omega)))) ?_)))))))))
 rintro _ _ ⟨e6,p26,rfl,rfl,Xy⟩
 have X2:=Xy.1
 have TT:=Xy.2
 try rw [Yx] at X2
 rw [hbv.2.1] at X2
 refine Z9 12 (Wj 12 [] [] [ZF (Z2.mk 12 0 []),ZF e6,ZF eQ] (Yp [Z2.mk 12 0 [],e6,eQ]) (XE [Z2.mk 12 0 [],e6,eQ]).symm 3 3 ?_)
 intro v27
 refine ZZ 2 2 [] (.n 94 (X3 [Z2.mk 12 0 [],e6,eQ]) (.p .r)) (Z9 13 (Ys 13 [] [] [] (XG 8 3 [Z2.mk 12 0 [],e6,eQ]) (Z9 14 (YK 14 4 [] [] b2 (Yy (Z2.mk 8 3 [Z2.mk 12 0 [],e6,eQ])) (de ?_)))))
 exact Zc (r3 [2,2] [ZF (Z2.mk 8 3 [Z2.mk 12 0 [],e6,eQ])] [0] [(b2,b2)] ⟨(Z2.mk 8 3 [Z2.mk 12 0 [],e6,eQ]),p26,rfl,rfl,⟨GE.matchT hg (s1:=1) (s2:=30) (s3:=52) (GE.var om om om) X2 Vv om,by omega⟩⟩ (lr _))
theorem RR (rd:Nat) (bs:List Int) (p:Nat) (g:XT) (gb:Nat) (rs:List Func) (f:Func) (i:Int) (ZD:∀z∈bs,0<=z/\z<=255) (hp:p+1000<=1000000000:=by exact ob) (hg:GP g:=by exact ob) (W8:g.funcs <+: rs:=by exact ob) (hi:0<=i:=by exact ob) (hf:g.funcs[i.toNat]? = some f:=by exact ob) (h0:0<f.params.length:=by exact ob):Zj Tryz.prog 194 [.p rd 0,.agg (Y8 g gb),.i i] [Yl rd bs p,YI gb rs] (fun r h=>∃(e:Z2) (p2:Nat),r=ZF e/\h=[Yl rd bs p2,YI gb rs]/\GE g f.params.length 200 e/\p<=p2/\p2<=p+1000):=by
 obtain ⟨hil,_⟩:=XM.1 hf
 have hgl:=hg.len
 have hso:=(hg.sigs f (Y7 hf)).bd
 have hbv:=BU
 refine ZK 75 Tryz.func194 (ar (iA (Y8 g gb) ?_))
 intro b1
 refine iA [.i 0,.i 0,nl] ?_
 intro b2
 refine ie (ar (iR 3 [(0,.p rd 0),(2,.i i),(4,.p b1 0),(6,.p b2 0),(13,.ms gb 0 g.funcs.length 4),(14,.i i)] [1] [b1] (Zq (W5 gb g.funcs.length 4 i.toNat 5 i) (Z1 1 16 (.val (.pointer (some ⟨gb,i.toNat * 5,none⟩))) (VI (WV 3 gb 4 4 5 (i.toNat * 5+0) (Zl (Xc rs)) [Z0 f.params] 27 (Z0 f.params) (VY W8 hf 0 rfl (WF rfl))) (Z1 1 7 (Z0 f.params) (ie (ar (ZA [] (Tl 0) (ZA [] (J8 1) (VZ [ZF (Z2.mk 12 0 []),ZF (Z2.mk 0 1 [])] (Yp [Z2.mk 12 0 [],Z2.mk 0 1 []]) (XE [Z2.mk 12 0 [],Z2.mk 0 1 []]).symm 2 3 ?_)))))))))))
 intro v1
 refine Z5 0 (.n 20 (X3 [Z2.mk 12 0 [],Z2.mk 0 1 []]) (.p .r)) (ZA [] (XG 2 0 [Z2.mk 12 0 [],Z2.mk 0 1 []]) (VZ [ZF (Z2.mk 2 0 [Z2.mk 12 0 [],Z2.mk 0 1 []])] (Yp [Z2.mk 2 0 [Z2.mk 12 0 [],Z2.mk 0 1 []]]) (XE [Z2.mk 2 0 [Z2.mk 12 0 [],Z2.mk 0 1 []]]).symm 1 3 ?_))
 intro v2
 refine Z1 1 8 (XQ [Z2.mk 2 0 [Z2.mk 12 0 [],Z2.mk 0 1 []]] v2) (ie (aq (ar (Z1 1 9 (.i 1) (ie (ab 0 (al (fun m F h=>∃(k:Nat) (ys:List Z2) (u:Value) (pq:Nat),(1<=k/\k<=f.params.length)/\(ys.length=k)/\(∀e∈ys,GE g f.params.length 4 e)/\(p<=pq/\pq<=p+30*k)/\F=[(0,.p rd 0),(2,.i i),(4,.p b1 0),(6,.p b2 0),(7,Z0 f.params),(8,XQ ys u),(9,.i k)]/\h=[.obj b2 [.i 0,.i 0,nl],.obj b1 (Y8 g gb),Yl rd bs pq,YI gb rs,.tail u 3]/\m=f.params.length-k) _ _ _ ⟨1,[Z2.mk 2 0 [Z2.mk 12 0 [],Z2.mk 0 1 []]],v2,p,ob,ob,(EV (GE.two (s1:=1) (s2:=1) om om (GE.var om om om) (GE.int om om) om)),ob,rfl,rfl,rfl⟩ (wk [2,2,2,2,0] (fq (fw (fc (x:=.i 1) li fl)))) ?_)))))))
 rintro m F h ⟨k,ys,u,pq,Ym,Zp,Zz,YJ,rfl,rfl,rfl⟩
 refine aq (ar (Yo 2 23 (.i k) 24 (Z0 f.params) (iw (Yd f.params) (Z1 1 26 (.b (decide ((k:Int)<(f.params.length:Int)))) (ie (ZM ((k:Int)<(f.params.length:Int)) (fun Ze=>?_) (fun Ze=>?_)))))))
 ·refine ak (aq (ab 1 (aE 12 (Y6 6 12 [0,1,2,3,4,5] (.n 29 (XQ ys u) (.n 30 (.p rd 0) (.n 31 (.agg (Y8 g gb)) (.n 32 (Z0 f.params) (.n 33 (Z0 f.params) (.n 34 (.i k) .r)))))) [1] [b1] ?_))))
  obtain ⟨x1,Z3⟩:=Zs (xs:=f.params) (j:=k) om
  refine dx 6 (Zo none (k:Int) 1 (Y3 Z3)) (ZY 4 5 [7] 36 (.i x1) (Z9 8 (dc 8 [2,2] [] [] (Bn rd bs pq g gb rs f.params x1 (ZD:=ob)) ?_)))
  rintro _ _ ⟨e1,p21,rfl,rfl,ZP⟩
  have hle:=ZP.1
  refine Z9 9 (Wj 9 [] [] [ZF e1] (Yp [e1]) (XE [e1]).symm 1 3 ?_)
  intro v3
  refine ZZ 2 2 [] (.n 38 (X3 [e1]) (.p .r)) (Z9 10 (dp 10 5 [] [] (Yp (ys++[e1])) (Yp ys) (Yp [e1]) u none 3 (Un _) (Un _) (Kq _) (by simp<;>omega) (by simp [Ko,Yp]) ?_))
  intro v4
  refine Xa 0 1 [11] [(0,.p rd 0),(2,.i i),(4,.p b1 0),(6,.p b2 0),(7,Z0 f.params),(8,XQ (ys++[e1]) v4),(9,.i k)] (de (az (Z1 1 27 (.i k) (ZO k (Z5 1 (.n 9 (.i (k+1:Nat)) (.p (.d (.w (.k (.k .z)))))) (ie ?_))))))
  exact ZQ ⟨k+1,(ys++[e1]),v4,p21,ob,ob,(Xq Zz hle),ob,rfl,rfl,rfl⟩ (wk [4,4,2,2,0] (fq (fw (ZW k fl))))
 refine ax 0 (ar (Yo 2 40 (.i i) 41 (X3 ys) (ZA [] (XG 9 i ys) (iA [.i 0,.i 0,nl] ?_))))
 intro b3
 refine ZH 0 b3 (Yy (Z2.mk 9 i ys)) (ie (aq (ar (Y1 3 44 (.ms gb 0 g.funcs.length 4) 45 (.i i) [2] [b1] (Zq (W5 gb g.funcs.length 4 i.toNat 5 i) (Z1 1 47 (.val (.pointer (some ⟨gb,i.toNat * 5+1,none⟩))) (VI (WV 4 gb 4 4 5 (i.toNat * 5+1) (Zl (Xc rs)) [.i f.result] 3 (.i f.result) (VY W8 hf 1 rfl (WF rfl))) (Z1 1 49 (.b (f.result==1)) (ie (XI (fun F h=>∃(eQ:Z2) (p6:Nat),(GE g f.params.length 34 eQ)/\(p<=p6/\p6<=p+350)/\F=[(0,.p rd 0),(2,.i i),(4,.p b1 0),(6,.p b2 0),(7,Z0 f.params),(10,.p b3 0)]/\h=[.obj b3 (Yy eQ),.obj b2 [.i 0,.i 0,nl],.obj b1 (Y8 g gb),Yl rd bs p6,YI gb rs]) ?_ ?_))))))))))
 ·refine ac (f.result==1) Zh (fun Zk=>?_) (fun Zk=>?_)
  ·refine aE 8 (W2 4 8 [0,1,2,4] [(0,.p rd 0),(2,.i i),(4,.p b1 0),(6,.p b2 0),(7,Z0 f.params),(10,.p b3 0),(50,.p rd 0),(51,.agg (Y8 g gb)),(52,Z0 f.params),(54,ZF (Z2.mk 9 i ys))] [2,0] [b1,b3] (Z9 3 (dc 3 [3,3] [0] [b3] (TS rd bs pq g gb rs f.params 0 3 (ZD:=ob)) ?_)))
   rintro _ _ ⟨e2,p22,rfl,rfl,Y0⟩
   have X2:=Y0.1
   have TT:=Y0.2
   try rw [Yx] at X2
   first|rw [hbv.2.1] at X2|rw [hbv.1] at X2
   refine Z9 5 (Wj 5 [] [] [ZF e2,ZF (Z2.mk 9 i ys)] (Yp [e2,Z2.mk 9 i ys]) (XE [e2,Z2.mk 9 i ys]).symm 2 3 ?_)
   intro v5
   refine ZZ 2 2 [] (.n 55 (X3 [e2,Z2.mk 9 i ys]) (.p .r)) (Z9 6 (Ys 6 [] [] [] (XG 6 1 [e2,Z2.mk 9 i ys]) (Z9 7 (YK 7 3 [] [] b3 (Yy (Z2.mk 6 1 [e2,Z2.mk 9 i ys])) (de ?_)))))
   exact ZV ⟨(Z2.mk 6 1 [e2,Z2.mk 9 i ys]),p22,(GE.two (s1:=20) (s2:=13) om om X2 (GE.node (L:=f.params.length) (s:=4) (q:=13) om (fun _=>by omega) om Zz om om om) om),ob,rfl,rfl⟩ (wk [0,3,3,1,1] fl)
  refine ak ?_
  exact ZV ⟨(Z2.mk 9 i ys),pq,(GE.le (GE.node (L:=f.params.length) (s:=4) (q:=13) om (fun _=>by omega) om Zz om om om) om),ob,rfl,rfl⟩ (ZL 5 fl)
 rintro F h ⟨eQ,p6,Vv,Jg,rfl,rfl⟩
 refine ar (ZA [] (J8 0) (ZA [] (Tl 0) (VZ [ZF (Z2.mk 0 0 []),ZF (Z2.mk 12 0 [])] (Yp [Z2.mk 0 0 [],Z2.mk 12 0 []]) (XE [Z2.mk 0 0 [],Z2.mk 12 0 []]).symm 2 3 ?_)))
 intro v6
 refine ir 0 [(0,.p rd 0),(2,.i i),(4,.p b1 0),(6,.p b2 0),(7,Z0 f.params),(10,.p b3 0),(59,X3 [Z2.mk 0 0 [],Z2.mk 12 0 []])] (ZA [] (XG 4 0 [Z2.mk 0 0 [],Z2.mk 12 0 []]) (iA [.i 0,.i 0,nl] ?_))
 intro b4
 refine ZH 0 b4 (Yy (Z2.mk 4 0 [Z2.mk 0 0 [],Z2.mk 12 0 []])) (ie (aD 15 (W2 7 15 [0,1,2,3,4,5,6,7] [(6,.p b2 0),(61,ZF (Z2.mk 4 0 [Z2.mk 0 0 [],Z2.mk 12 0 []])),(62,ZF eQ),(63,.p rd 0),(64,.agg (Y8 g gb)),(65,Z0 f.params),(67,.ms gb 0 g.funcs.length 4),(68,.i i)] [0,2,4,4] [b4,b3,b1,b1] (dx 8 (W5 gb g.funcs.length 4 i.toNat 5 i) (ZY 5 6 [9] 70 (.val (.pointer (some ⟨gb,i.toNat * 5+1,none⟩))) (VM 10 (WV 6 gb 4 4 5 (i.toNat * 5+1) (Zl (Xc rs)) [.i f.result] 3 (.i f.result) (VY W8 hf 1 rfl (WF rfl))) (Z9 11 (dc 11 [5,5] [1,0] [b3,b4] (TS rd bs p6 g gb rs f.params f.result 4 (ZD:=ob)) ?_))))))))
 rintro _ _ ⟨e3,p23,rfl,rfl,YB⟩
 have X2:=YB.1
 have TT:=YB.2
 try rw [Yx] at X2
 first|rw [hbv.2.1] at X2|rw [hbv.1] at X2
 refine Z9 12 (Wj 12 [] [] [ZF (Z2.mk 4 0 [Z2.mk 0 0 [],Z2.mk 12 0 []]),ZF eQ,ZF e3] (Yp [Z2.mk 4 0 [Z2.mk 0 0 [],Z2.mk 12 0 []],eQ,e3]) (XE [Z2.mk 4 0 [Z2.mk 0 0 [],Z2.mk 12 0 []],eQ,e3]).symm 3 3 ?_)
 intro v7
 refine ZZ 2 2 [] (.n 73 (X3 [Z2.mk 4 0 [Z2.mk 0 0 [],Z2.mk 12 0 []],eQ,e3]) (.p .r)) (Z9 13 (Ys 13 [] [] [] (XG 7 0 [Z2.mk 4 0 [Z2.mk 0 0 [],Z2.mk 12 0 []],eQ,e3]) (Z9 14 (YK 14 6 [] [] b2 (Yy (Z2.mk 7 0 [Z2.mk 4 0 [Z2.mk 0 0 [],Z2.mk 12 0 []],eQ,e3])) (de ?_)))))
 exact Zc (r3 [2,2] [ZF (Z2.mk 7 0 [Z2.mk 4 0 [Z2.mk 0 0 [],Z2.mk 12 0 []],eQ,e3])] [0] [(b2,b2)] ⟨(Z2.mk 7 0 [Z2.mk 4 0 [Z2.mk 0 0 [],Z2.mk 12 0 []],eQ,e3]),p23,rfl,rfl,⟨GE.three (s1:=3) (s2:=34) (s3:=30) om om (GE.two (s1:=1) (s2:=1) om om (GE.int om om) (GE.var om om om) om) Vv X2 om,by omega⟩⟩ (lr _))
theorem Sq (xs:List Int) (t:Int) (hl:xs.length<=1000:=by exact ob):Zj Tryz.prog 189 [Z0 xs,.i t] [] (fun r h=>∃(w:Int),r=.i w/\h=[]/\-1<=w/\w<xs.length):=by
 refine ZK 19 Tryz.func189 (ar (ir 1 [(0,Z0 xs),(1,.i t)] (ie (aq (ar (Z1 1 5 (.i 0) (ie (ab 0 (al (fun m F h=>∃(k:Nat),(k<=xs.length)/\F=[(0,Z0 xs),(1,.i t),(5,.i k)]/\h=[]/\m=xs.length-k) _ _ _ ⟨0,ob,rfl,rfl,rfl⟩ (wk [] (fw (Ye fl))) ?_)))))))))
 rintro m F h ⟨k,Ym,rfl,rfl,rfl⟩
 refine aq (ar (Yo 2 6 (.i k) 7 (Z0 xs) (iw (Yd xs) (Z1 1 9 (.b (decide ((k:Int)<(xs.length:Int)))) (ie (ZM ((k:Int)<(xs.length:Int)) (fun Ze=>?_) (fun Ze=>?_)))))))
 ·refine ak (aq (ab 1 (ar (Yo 2 12 (Z0 xs) 13 (.i k) ?_))))
  obtain ⟨x1,Z3⟩:=Zs (xs:=xs) (j:=k) om
  refine Zq (Zo none (k:Int) 1 (Y3 Z3)) (Z1 3 17 (.b (x1==t)) (ie (ac (x1==t) Zh (fun Zk=>?_) (fun Zk=>?_))))
  ·refine ar (ir 2 [(4,.i k)] (ie ?_))
   exact Zc (r1 [] ⟨(k:Int),rfl,rfl,ob⟩)
  refine ak (az (Z1 1 10 (.i k) (ZO k (ir 1 [(0,Z0 xs),(1,.i t),(5,.i (k+1:Nat))] (ie ?_)))))
  exact ZQ ⟨k+1,ob,rfl,rfl,rfl⟩ (wk [] (fw (ZW k fl)))
 refine ax 0 (ar (ir 1 [(4,.i (-1))] (ie ?_)))
 exact Zc (r1 [] ⟨(-1),rfl,rfl,ob⟩)
theorem Rx (rd:Nat) (bs:List Int) (p:Nat) (g:XT) (gb:Nat) (rs:List Func) (f:Func) (i:Int) (ZD:∀z∈bs,0<=z/\z<=255) (hp:p+90000<=1000000000) (hg:GP g) (W8:g.funcs <+: rs) (hi:0<=i) (hf:g.funcs[i.toNat]? = some f) (h0:i=0->f.params.length=0):Zj Tryz.prog 155 [.p rd 0,.agg (Y8 g gb),.i i] [Yl rd bs p,YI gb rs] (fun r h=>∃(e:Z2) (p2:Nat),r=ZF e/\h=[Yl rd bs p2,YI gb rs]/\GE g f.params.length 30 e/\p<=p2/\p2<=p+90000):=by
 obtain ⟨hil,_⟩:=XM.1 hf
 have hgl:=hg.len
 have hso:=(hg.sigs f (Y7 hf)).bd
 have hbv:=BU
 refine ZK 121 Tryz.func155 (ar (iA (Y8 g gb) ?_))
 intro b1
 refine iA [.i 0,.i 0,nl] ?_
 intro b2
 refine ie (ar (iR 3 [(0,.p rd 0),(2,.i i),(4,.p b1 0),(6,.p b2 0),(13,.ms gb 0 g.funcs.length 4),(14,.i i)] [1] [b1] (Zq (W5 gb g.funcs.length 4 i.toNat 5 i) (Z1 1 16 (.val (.pointer (some ⟨gb,i.toNat * 5,none⟩))) (VI (WV 3 gb 4 4 5 (i.toNat * 5+0) (Zl (Xc rs)) [Z0 f.params] 27 (Z0 f.params) (VY W8 hf 0 rfl (WF rfl))) (Z1 1 7 (Z0 f.params) (ie (ar (Y1 3 19 (.ms gb 0 g.funcs.length 4) 20 (.i i) [1] [b1] (Zq (W5 gb g.funcs.length 4 i.toNat 5 i) (Z1 1 22 (.val (.pointer (some ⟨gb,i.toNat * 5+1,none⟩))) (VI (WV 3 gb 4 4 5 (i.toNat * 5+1) (Zl (Xc rs)) [.i f.result] 3 (.i f.result) (VY W8 hf 1 rfl (WF rfl))) (Z1 1 8 (.i f.result) (ie (ar (Z1 1 24 (Z0 f.params) (ic [] (Sq f.params 1) ?_)))))))))))))))))
 rintro _ _ ⟨w1,rfl,rfl,ZP⟩
 have hpl:=ZP
 refine Z1 1 9 (.i w1) (ie (ar (ZA [] (J8 0) (iA [.i 0,.i 0,nl] ?_))))
 intro b3
 refine ZH 0 b3 (Yy (Z2.mk 0 0 [])) (ie (ar (Z1 1 27 (.p rd 0) (ic [3] (XU rd bs p 4 (ZD:=ob)) ?_))))
 rintro _ _ ⟨k1,rfl,rfl,Y0⟩
 have qhp2:=Y0.lt om
 refine Z1 1 11 (.i k1) (ie (aq (aq (XI (fun F h=>∃(wb:Bool),(wb=true->i=0)/\F=[(0,.p rd 0),(2,.i i),(4,.p b1 0),(6,.p b2 0),(7,Z0 f.params),(8,.i f.result),(9,.i w1),(10,.p b3 0),(11,.i k1),(34,.b wb)]/\h=[.obj rd [X9 bs,.i (p+1:Nat)],.obj b3 (Yy (Z2.mk 0 0 [])),.obj b2 [.i 0,.i 0,nl],.obj b1 (Y8 g gb),YI gb rs]) ?_ ?_))))
 ·refine az (ir 3 [(0,.p rd 0),(2,.i i),(4,.p b1 0),(6,.p b2 0),(7,Z0 f.params),(8,.i f.result),(9,.i w1),(10,.p b3 0),(11,.i k1),(31,.b (decide (k1<3)))] (ib (b:=(decide (k1<3))) 31 (fun Za=>?_) (fun Za=>?_)))
  ·have YB:k1<3:=(dq).1 Za
   refine Z5 3 (.n 34 (.b (i==0)) (.d (.w (.w (.k .z))))) (ie ?_)
   exact ZV ⟨(i==0),(by first|exact (fun h=>Bool.noConfusion h)|(intro h;omega)|(intro h;simp at h;omega)),rfl,rfl⟩ (ZL 5 fl)
  have YN:¬(k1<3):=ZG dq Za
  refine Z5 3 (.n 34 (.b false) (.d (.w (.w (.k .z))))) (ie ?_)
  exact ZV ⟨false,(by first|exact (fun h=>Bool.noConfusion h)|(intro h;omega)|(intro h;simp at h;omega)),rfl,rfl⟩ (ZL 5 fl)
 rintro F h ⟨wb,kR6_0,rfl,rfl⟩
 refine XI (fun F h=>∃(eQ:Z2) (p6:Nat),(GE g f.params.length 200 eQ)/\(p<=p6/\p6<=p+42000)/\F=[(0,.p rd 0),(4,.p b1 0),(6,.p b2 0),(7,Z0 f.params),(8,.i f.result),(10,.p b3 0)]/\h=[Yl rd bs p6,.obj b3 (Yy eQ),.obj b2 [.i 0,.i 0,nl],.obj b1 (Y8 g gb),YI gb rs]) ?_ ?_
 ·refine ac wb Iff.rfl (fun Ze=>?_) (fun Ze=>?_)
  ·refine az (iR 2 [(0,.p rd 0),(4,.p b1 0),(6,.p b2 0),(7,Z0 f.params),(8,.i f.result),(10,.p b3 0),(35,.p rd 0),(36,.agg (Y8 g gb))] [3] [b1] (ic [0,3] (Sc rd bs (p+1) g gb rs (ZD:=ob)) ?_))
   rintro _ _ ⟨e1,p21,rfl,rfl,YX⟩
   have hbd:=YX.1
   have hbp:=YX.2
   refine ZH 2 b3 (Yy e1) (ie ?_)
   exact ZV ⟨e1,p21,(by rw [h0 (kR6_0 (by assumption))];exact hbd),ob,rfl,rfl⟩ (wk [1,0,1,1,0] fl)
  refine aq (XI (fun F h=>∃(wb:Bool),(wb=true->0<=w1)/\F=[(0,.p rd 0),(2,.i i),(4,.p b1 0),(6,.p b2 0),(7,Z0 f.params),(8,.i f.result),(9,.i w1),(10,.p b3 0),(11,.i k1),(51,.b wb)]/\h=[.obj rd [X9 bs,.i (p+1:Nat)],.obj b3 (Yy (Z2.mk 0 0 [])),.obj b2 [.i 0,.i 0,nl],.obj b1 (Y8 g gb),YI gb rs]) ?_ ?_)
  ·refine az (ir 3 [(0,.p rd 0),(2,.i i),(4,.p b1 0),(6,.p b2 0),(7,Z0 f.params),(8,.i f.result),(9,.i w1),(10,.p b3 0),(11,.i k1),(40,.b (decide (k1<3)))] (ib (b:=(decide (k1<3))) 40 (fun Zw=>?_) (fun Zw=>?_)))
   ·have Xy:k1<3:=(dq).1 Zw
    refine Z5 4 (.n 44 (.b (decide (w1>=0))) (.d (.w (.w (.k .z))))) (ib (b:=(decide (w1>=0))) 44 (fun Yw=>?_) (fun Yw=>?_))
    ·have Wh:w1>=0:=(dq).1 Yw
     refine Z5 3 (.n 47 (.b (f.result==0)) (.k (.d .r))) (ib (b:=(f.result==0)) 47 (fun Xg=>?_) (fun Xg=>?_))
     ·have WJ:f.result=0:=(Zh).1 Xg
      refine Z5 4 (.n 51 (.b true) (.k (.d .r))) (ie ?_)
      exact ZV ⟨true,(by first|exact (fun h=>Bool.noConfusion h)|(intro h;omega)|(intro h;simp at h;omega)),rfl,rfl⟩ (ZL 5 fl)
     have V2:¬(f.result=0):=ZG Zh Xg
     refine Z5 4 (.n 51 (.b (f.result==1)) (.k (.d .r))) (ie ?_)
     exact ZV ⟨(f.result==1),(by first|exact (fun h=>Bool.noConfusion h)|(intro h;omega)|(intro h;simp at h;omega)),rfl,rfl⟩ (ZL 5 fl)
    have Ua:¬(w1>=0):=ZG dq Yw
    refine Z5 7 (.n 51 (.b false) (.d (.d .r))) (ie ?_)
    exact ZV ⟨false,(by first|exact (fun h=>Bool.noConfusion h)|(intro h;omega)|(intro h;simp at h;omega)),rfl,rfl⟩ (ZL 5 fl)
   have UE:¬(k1<3):=ZG dq Zw
   refine Z5 11 (.n 51 (.b false) (.d (.w (.w (.k .z))))) (ie ?_)
   exact ZV ⟨false,(by first|exact (fun h=>Bool.noConfusion h)|(intro h;omega)|(intro h;simp at h;omega)),rfl,rfl⟩ (ZL 5 fl)
  rintro F h ⟨wb,kR8_0,rfl,rfl⟩
  refine ac wb Iff.rfl (fun Zk=>?_) (fun Zk=>?_)
  ·refine az (iR 4 [(0,.p rd 0),(4,.p b1 0),(6,.p b2 0),(7,Z0 f.params),(8,.i f.result),(10,.p b3 0),(52,.p rd 0),(53,.agg (Y8 g gb)),(54,.i i),(55,.i w1)] [3] [b1] (ic [0,3] (Sl rd bs (p+1) g gb rs _ i w1 (ZD:=ob) (hw:=(by have:=kR8_0 (by assumption);omega))) ?_))
   rintro _ _ ⟨e2,p22,rfl,rfl,Ur⟩
   have hbd:=Ur.1
   have hbp:=Ur.2
   refine ZH 2 b3 (Yy e2) (ie ?_)
   exact ZV ⟨e2,p22,(GE.le hbd om),ob,rfl,rfl⟩ (wk [1,0,1,1,0] fl)
  refine aq (XI (fun F h=>∃(wb:Bool),(wb=true->0<f.params.length)/\F=[(0,.p rd 0),(2,.i i),(4,.p b1 0),(6,.p b2 0),(7,Z0 f.params),(8,.i f.result),(10,.p b3 0),(11,.i k1),(77,.b wb)]/\h=[.obj rd [X9 bs,.i (p+1:Nat)],.obj b3 (Yy (Z2.mk 0 0 [])),.obj b2 [.i 0,.i 0,nl],.obj b1 (Y8 g gb),YI gb rs]) ?_ ?_)
  ·refine az (ir 3 [(0,.p rd 0),(2,.i i),(4,.p b1 0),(6,.p b2 0),(7,Z0 f.params),(8,.i f.result),(10,.p b3 0),(11,.i k1),(59,.b (decide (k1<3)))] (ib (b:=(decide (k1<3))) 59 (fun W9=>?_) (fun W9=>?_)))
   ·have Tm:k1<3:=(dq).1 W9
    refine Z5 1 (.n 60 (Z0 f.params) (.w (.w (.k .z)))) (iw (Yd f.params) (Z1 3 64 (.b (decide ((f.params.length:Int)>0))) (ib (b:=(decide ((f.params.length:Int)>0))) 64 (fun WC=>?_) (fun WC=>?_))))
    ·have T5:(f.params.length:Int)>0:=(dq).1 WC
     refine Z5 1 (.n 65 (Z0 f.params) (.k (.d .r))) ?_
     obtain ⟨x1,Z3⟩:=Zs (xs:=f.params) (j:=0) om
     refine Zq (Zo none 0 1 (Y3 Z3)) (Z1 4 70 (.b (x1==3)) (ib (b:=(x1==3)) 70 (fun WU=>?_) (fun WU=>?_)))
     ·have Qz:x1=3:=(Zh).1 WU
      refine Z5 3 (.n 73 (.b (f.result==0)) (.k (.d .r))) (ib (b:=(f.result==0)) 73 (fun WH=>?_) (fun WH=>?_))
      ·have QA:f.result=0:=(Zh).1 WH
       refine Z5 4 (.n 77 (.b true) (.k (.d .r))) (ie ?_)
       exact ZV ⟨true,(by first|exact (fun h=>Bool.noConfusion h)|(intro h;omega)|(intro h;simp at h;omega)),rfl,rfl⟩ (ZL 5 fl)
      have Je:¬(f.result=0):=ZG Zh WH
      refine Z5 4 (.n 77 (.b (f.result==3)) (.k (.d .r))) (ie ?_)
      exact ZV ⟨(f.result==3),(by first|exact (fun h=>Bool.noConfusion h)|(intro h;omega)|(intro h;simp at h;omega)),rfl,rfl⟩ (ZL 5 fl)
     have QB:¬(x1=3):=ZG Zh WU
     refine Z5 7 (.n 77 (.b false) (.k (.d .r))) (ie ?_)
     exact ZV ⟨false,(by first|exact (fun h=>Bool.noConfusion h)|(intro h;omega)|(intro h;simp at h;omega)),rfl,rfl⟩ (ZL 5 fl)
    have Lb:¬((f.params.length:Int)>0):=ZG dq WC
    refine Z5 13 (.n 77 (.b false) (.k (.d .r))) (ie ?_)
    exact ZV ⟨false,(by first|exact (fun h=>Bool.noConfusion h)|(intro h;omega)|(intro h;simp at h;omega)),rfl,rfl⟩ (ZL 5 fl)
   have Lc:¬(k1<3):=ZG dq W9
   refine Z5 18 (.n 77 (.b false) (.d (.w (.w .z)))) (ie ?_)
   exact ZV ⟨false,(by first|exact (fun h=>Bool.noConfusion h)|(intro h;omega)|(intro h;simp at h;omega)),rfl,rfl⟩ (ZL 5 fl)
  rintro F h ⟨wb,kR10_0,rfl,rfl⟩
  refine ac wb Iff.rfl (fun ZI=>?_) (fun ZI=>?_)
  ·refine az (iR 3 [(0,.p rd 0),(4,.p b1 0),(6,.p b2 0),(7,Z0 f.params),(8,.i f.result),(10,.p b3 0),(78,.p rd 0),(79,.agg (Y8 g gb)),(80,.i i)] [3] [b1] (ic [0,3] (Sm rd bs (p+1) g gb rs _ i (ZD:=ob) (h0:=(kR10_0 (by assumption)))) ?_))
   rintro _ _ ⟨e3,p23,rfl,rfl,FZ⟩
   have hbd:=FZ.1
   have hbp:=FZ.2
   refine ZH 2 b3 (Yy e3) (ie ?_)
   exact ZV ⟨e3,p23,(GE.le hbd om),ob,rfl,rfl⟩ (wk [1,0,1,1,0] fl)
  refine aq (XI (fun F h=>∃(wb:Bool),(wb=true->0<f.params.length)/\F=[(0,.p rd 0),(2,.i i),(4,.p b1 0),(6,.p b2 0),(7,Z0 f.params),(8,.i f.result),(10,.p b3 0),(102,.b wb)]/\h=[.obj rd [X9 bs,.i (p+1:Nat)],.obj b3 (Yy (Z2.mk 0 0 [])),.obj b2 [.i 0,.i 0,nl],.obj b1 (Y8 g gb),YI gb rs]) ?_ ?_)
  ·refine az (ir 3 [(0,.p rd 0),(2,.i i),(4,.p b1 0),(6,.p b2 0),(7,Z0 f.params),(8,.i f.result),(10,.p b3 0),(84,.b (decide (k1<3)))] (ib (b:=(decide (k1<3))) 84 (fun WI=>?_) (fun WI=>?_)))
   ·have SK:k1<3:=(dq).1 WI
    refine Z5 1 (.n 85 (Z0 f.params) (.w (.w .z))) (iw (Yd f.params) (Z1 3 89 (.b (decide ((f.params.length:Int)>0))) (ib (b:=(decide ((f.params.length:Int)>0))) 89 (fun Ty=>?_) (fun Ty=>?_))))
    ·have SM:(f.params.length:Int)>0:=(dq).1 Ty
     refine Z5 1 (.n 90 (Z0 f.params) (.k (.d .r))) ?_
     obtain ⟨x2,Zv⟩:=Zs (xs:=f.params) (j:=0) om
     refine Zq (Zo none 0 1 (Y3 Zv)) (Z1 4 95 (.b (x2==0)) (ib (b:=(x2==0)) 95 (fun Jb=>?_) (fun Jb=>?_)))
     ·have SN:x2=0:=(Zh).1 Jb
      refine Z5 3 (.n 98 (.b (f.result==0)) (.k (.d .r))) (ib (b:=(f.result==0)) 98 (fun Jc=>?_) (fun Jc=>?_))
      ·have SO:f.result=0:=(Zh).1 Jc
       refine Z5 4 (.n 102 (.b true) (.k (.d .r))) (ie ?_)
       exact ZV ⟨true,(by first|exact (fun h=>Bool.noConfusion h)|(intro h;omega)|(intro h;simp at h;omega)),rfl,rfl⟩ (ZL 5 fl)
      have SP:¬(f.result=0):=ZG Zh Jc
      refine Z5 4 (.n 102 (.b (f.result==1)) (.k (.d .r))) (ie ?_)
      exact ZV ⟨(f.result==1),(by first|exact (fun h=>Bool.noConfusion h)|(intro h;omega)|(intro h;simp at h;omega)),rfl,rfl⟩ (ZL 5 fl)
     have SQ:¬(x2=0):=ZG Zh Jb
     refine Z5 7 (.n 102 (.b false) (.k (.d .r))) (ie ?_)
     exact ZV ⟨false,(by first|exact (fun h=>Bool.noConfusion h)|(intro h;omega)|(intro h;simp at h;omega)),rfl,rfl⟩ (ZL 5 fl)
    have SR:¬((f.params.length:Int)>0):=ZG dq Ty
    refine Z5 13 (.n 102 (.b false) (.k (.d .r))) (ie ?_)
    exact ZV ⟨false,(by first|exact (fun h=>Bool.noConfusion h)|(intro h;omega)|(intro h;simp at h;omega)),rfl,rfl⟩ (ZL 5 fl)
   have SS:¬(k1<3):=ZG dq WI
   refine Z5 18 (.n 102 (.b false) (.d (.w (.k (.k (.k .z)))))) (ie ?_)
   exact ZV ⟨false,(by first|exact (fun h=>Bool.noConfusion h)|(intro h;omega)|(intro h;simp at h;omega)),rfl,rfl⟩ (ZL 5 fl)
  rintro F h ⟨wb,kR12_0,rfl,rfl⟩
  refine ac wb Iff.rfl (fun Yi=>?_) (fun Yi=>?_)
  ·refine az (iR 3 [(0,.p rd 0),(4,.p b1 0),(6,.p b2 0),(7,Z0 f.params),(8,.i f.result),(10,.p b3 0),(103,.p rd 0),(104,.agg (Y8 g gb)),(105,.i i)] [3] [b1] (ic [0,3] (RR rd bs (p+1) g gb rs _ i (ZD:=ob) (h0:=(kR12_0 (by assumption)))) ?_))
   rintro _ _ ⟨e4,p24,rfl,rfl,G0⟩
   have hbd:=G0.1
   have hbp:=G0.2
   refine ZH 2 b3 (Yy e4) (ie ?_)
   exact ZV ⟨e4,p24,(GE.le hbd om),ob,rfl,rfl⟩ (wk [1,0,1,1,0] fl)
  refine az (iR 4 [(0,.p rd 0),(4,.p b1 0),(6,.p b2 0),(7,Z0 f.params),(8,.i f.result),(10,.p b3 0),(107,.p rd 0),(108,.agg (Y8 g gb)),(109,Z0 f.params),(110,.i f.result)] [3] [b1] (ic [0,3] (IP rd bs (p+1) g gb rs f.params f.result 18 (ZD:=ob)) ?_))
  rintro _ _ ⟨e5,p25,rfl,rfl,G3⟩
  have hbd:=G3.1
  have hbp:=G3.2
  refine ZH 2 b3 (Yy e5) (ie ?_)
  exact ZV ⟨e5,p25,(GE.le hbd om),ob,rfl,rfl⟩ (wk [1,0,1,1,0] fl)
 rintro F h ⟨eQ,p6,QC,G8,rfl,rfl⟩
 refine aq (ar (iR 1 [(0,.p rd 0),(4,.p b1 0),(6,.p b2 0),(7,Z0 f.params),(8,.i f.result),(10,.p b3 0),(112,ZF eQ)] [1] [b3] (ic [] (IW eQ (hz:=(by have:=QC.2;omega))) ?_)))
 rintro _ _ ⟨w2,rfl,rfl,Ld⟩
 have FY:=Ld
 have XC:=QC.2
 refine Z1 1 114 (.b (decide (w2<0))) (ie (ZM (w2<0) (fun Xk=>?_) (fun Xk=>?_)))
 ·refine ar (iR 4 [(6,.p b2 0),(115,.p rd 0),(116,.agg (Y8 g gb)),(117,Z0 f.params),(118,.i f.result)] [3] [b1] (ic [0,3] (IP rd bs p6 g gb rs f.params f.result 12 (ZD:=ob)) ?_))
  rintro _ _ ⟨e6,p26,rfl,rfl,DD⟩
  have hbd:=DD.1
  have hbp:=DD.2
  refine ZH 3 b2 (Yy e6) (ie ?_)
  exact Zc (r3 [1,1] [ZF e6] [0] [(b2,b2)] ⟨e6,p26,rfl,rfl,⟨hbd,by omega⟩⟩ (lr _))
 refine ak (ar (Yk 1 120 (ZF eQ) [1] [b3] (ZH 2 b2 (Yy eQ) (ie ?_))))
 exact Zc (r3 [1,3] [ZF eQ] [0] [(b2,b2)] ⟨eQ,p6,rfl,rfl,⟨⟨QC.1,by omega⟩,by omega⟩⟩ (lr _))
end Go.Abs
