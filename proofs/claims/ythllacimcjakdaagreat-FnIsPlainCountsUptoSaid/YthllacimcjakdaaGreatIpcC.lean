/-
  A part of the proof of FnIsPlainCountsUptoSaid (see the last file): no condition.
-/
import Derived.Test.YthllacimcjakdaaGreatIpcB
import Derived.Test.YthllacimcjakdaaGreatProg
set_option linter.all false
set_option linter.unusedVariables false
set_option linter.unusedSimpArgs false
set_option linter.unusedSectionVars false
set_option maxRecDepth 10000
set_option maxHeartbeats 4000000
namespace Go.Abs
theorem Nn {α:Type}:∀(A X:List α) (m:Nat) (y:α),(A++X).set (A.length+m) y=A++X.set m y
 | [],X,m,y=>by simp
 | a::r,X,m,y=>by
  have:=Nn r X m y
  rw [Qw,YS,show r.length+1+m=(r.length+m)+1 by omega,List.set_cons_succ,this,Qw]
theorem Z0h {α:Type} (A X:List α) (m:Nat):(A++X)[A.length+m]? = X[m]?:=by
 rw [EU om];congr 1;omega
section
variable {b:Z6} {kk:Nat} {u:Value} {s:Z4}
theorem Gw (hs:b.steps[kk]? = some s):Wz b kk u b.steps.length=Zl (Zv (b.steps.take kk))++(CE s u++Zl (Zv (b.steps.drop (kk+1)))):=by
 have hk:=(XM.1 hs).1
 rw [Wz,Zc om,DJ hs,Vp]
theorem Gv (hs:b.steps[kk]? = some s):(Zl (Zv (b.steps.take kk))).length=kk*5:=by
 have hk:=(XM.1 hs).1
 rw [TZ,Ww,Vq om]
theorem Z2k (hs:b.steps[kk]? = some s):(Wz b kk u b.steps.length)[kk*5+4]? = some (.val u):=by
 rw [Gw hs,<-Gv hs,Z0h];rfl
theorem E4 (hs:b.steps[kk]? = some s):((Wz b kk u b.steps.length).drop (kk*5+4)).take 1=[.val u]:=by
 rw [Gw hs,<-Gv hs,<-List.drop_drop,List.drop_left];rfl
theorem S0 {xs:List Z4} {k:Nat} {t:Z4} (hk:k<xs.length):Zl (Zv (xs.set k t))=Zl (Zv (xs.take k))++(Yg t++Zl (Zv (xs.drop (k+1)))):=by
 rw [D6,Zo hk,Wy,TG,DF]
theorem Z2l (hs:b.steps[kk]? = some s) (ks:List Z6):(Wz b kk u b.steps.length).set (kk*5+4) (.sl (YH ks) none)=Zl (Zv (b.steps.set kk ⟨s.op,s.num,s.into,s.args,ks⟩)):=by
 have hk:=(XM.1 hs).1
 rw [Gw hs,<-Gv hs,Nn,S0 hk];rfl
theorem Gy (hs:b.steps[kk]? = some s):Ux b kk b.steps.length=Zl (YH s.kids):=by
 have hk:=(XM.1 hs).1
 rw [Ux,Zc om,DJ hs]
theorem Z2m (hs:b.steps[kk]? = some s):b.steps.set kk ⟨s.op,s.num,s.into,s.args,s.kids⟩=b.steps:=by
 have e:Z4.mk s.op s.num s.into s.args s.kids=s:=by cases s;rfl
 rw [e]
 apply List.ext_getElem?
 intro i
 rw [List.getElem?_set]
 split
 ·rename_i q;subst q;rw [Zo (XM.1 hs).1];exact hs.symm
 ·rfl
end
theorem Vu.set:∀(ls:List AV) (p:Nat) {x y:AV},Zg x y->Vu (ls.set p x) (ls.set p y)
 | [],_,_,_,_=>.nil
 | a::r,0,_,_,h=>.cons h (Vu.refl r)
 | a::r,p+1,_,_,h=>.cons (Zg.refl a) (Vu.set r p h)
theorem Vu.len:∀{xs ys:List AV},Vu xs ys->ys.length=xs.length
 | _,_,.nil=>rfl
 | _,_,.cons _ t=>by rw [YS,YS,t.len]
theorem S2 (v:Value) (k:Nat) (ls ks:List AV):Res.fp (.row v k ks)=Res.fp (.row v k ls):=by
 cases v with
 | slice a _ _=>cases a<;>rfl
 | _=>rfl
theorem Z58 {w:World} {G:Yc} {v:Value} {k:Nat} {ls ls':List AV} {h2:List Res} (hle:Vu ls ls') (hh:YB w G (.row v k ls::h2)):YB w G (.row v k ls'::h2)/\YU w G (.row v k ls::h2) w G (.row v k ls'::h2):=by
 have hpw:=WP.1 hh.apart
 have hf:∀b o,Res.fp (.row v k ls') b o->Res.fp (.row v k ls) b o:=fun b o h=>by rw [S2 v k ls ls'] at h;exact h
 refine ⟨⟨fun r hr=>?_,WP.2 ⟨fun r hr b o f1 f2=>hpw.1 r hr b o (hf b o f1) f2,hpw.2⟩,fun r hr b o f1 hg=>?_,hh.lt⟩,⟨rfl,rfl,rfl,X6 _,fun _ _ h=>h,fun _ _=>.inl rfl,fun _ _ _ h=>.inl h,fun b o _ ⟨r,hr,f1⟩=>?_⟩⟩
 ·rcases YQ.1 hr with rfl|hr
  ·rcases hh.ok _ (Xh ..) with ⟨h0,h1⟩|⟨g,len,cap,cur,e,h0,h1,h3,h4,h5,h6⟩
   ·subst h1;cases hle;exact .inl ⟨h0,rfl⟩
   ·exact .inr ⟨g,len,cap,cur,e,h0,h1,h3,h4,by rw [hle.len];exact h5,hle.cs h6⟩
  ·exact hh.ok r (XG _ hr)
 ·rcases YQ.1 hr with rfl|hr
  ·exact hh.prot _ (Xh ..) b o (hf b o f1) hg
  ·exact hh.prot r (XG _ hr) b o f1 hg
 ·rcases YQ.1 hr with rfl|hr
  ·exact ⟨_,Xh ..,hf b o f1⟩
  ·exact ⟨r,XG _ hr,f1⟩
section
variable {h:List Res}
theorem O5 (j i:Nat) (b:Z6) (kk:Nat) (s:Z4) (ks:List Z6) (u v:Value) (hs:b.steps[kk]? = some s) (hp:W8 [j,i] h=some [.row u 2 (Zl (YH ks)),.row v 5 (Wz b kk u b.steps.length)]:=by kernel_rfl) :
  T4 h (.row v 5 (Zl (Zv (b.steps.set kk ⟨s.op,s.num,s.into,s.args,ks⟩)))::.tail u 2::XC [j,i] h):=by
 intro w G hh
 obtain ⟨G',a1,a2⟩:=Z8f j i (kk*5+4) hp (T7 ks) om (Z2k hs) w G hh
 obtain ⟨b1,b2⟩:=Z58 (Vu.set _ (kk*5+4) (Zg.forget (YH ks) (some u))) a1
 rw [Z2l hs] at b1 b2
 exact ⟨G',b1,a2.trans b2⟩
theorem Hq (j i:Nat) (b:Z6) (kk:Nat) (s:Z4) (u v:Value) (hs:b.steps[kk]? = some s) (hp:W8 [j,i] h=some [.row u 2 (Ux b kk b.steps.length),.row v 5 (Wz b kk u b.steps.length)]:=by kernel_rfl) :
  T4 h (.row v 5 (Zl (Zv b.steps))::.tail u 2::XC [j,i] h):=by
 have Y1:W8 [j,i] h=some [.row u 2 (Zl (YH s.kids)),.row v 5 (Wz b kk u b.steps.length)]:=by rw [hp,Gy hs]
 have:=O5 j i b kk s s.kids u v hs Y1
 rwa [Z2m hs] at this
end
theorem IQ {xs:List Z4} {k:Nat} (hk:k<xs.length):(Zl (Zv xs)).take (k*5)++(Zl (Zv xs)).drop ((k+1)*5)=Zl (Zv (xs.take k++xs.drop (k+1))):=by
 have h1:(Zl (Zv (xs.take k))).length=k*5:=by rw [TZ,Ww,Vq om]
 have h2:(Zl (Zv (xs.take (k+1)))).length=(k+1)*5:=by rw [TZ,Ww,Vq om]
 have e1:Zl (Zv xs)=Zl (Zv (xs.take k))++Zl (Zv (xs.drop k)):=by rw [<-TG,<-Wy,UF]
 have e2:Zl (Zv xs)=Zl (Zv (xs.take (k+1)))++Zl (Zv (xs.drop (k+1))):=by rw [<-TG,<-Wy,UF]
 rw [Wy,TG]
 congr 1
 ·rw [e1,<-h1,KX]
 ·conv=>lhs;rw [e2,<-h2,List.drop_left]
theorem RS {xs:List Z6} {i:Nat} {s:Z6} (h:xs[i]? = some s):((Zl (YH xs)).drop (i*2)).take 2=Yk s:=by
 have hi:=(XM.1 h).1
 have h1:(Zl (YH (xs.take i))).length=i*2:=by rw [Co,Ww,Vq om]
 have e1:Zl (YH xs)=Zl (YH (xs.take i))++Zl (YH (xs.drop i)):=by rw [<-TG,<-J8,UF]
 rw [e1,<-h1,List.drop_left,Y8 h,Ur,Un]
 rfl
section
variable {rs:List Yb} {k:Nat} {r:Yb}
theorem FY (hk:k<rs.length) (r:Yb):Zl (YN (rs.set k r))=Zl (YN (rs.take k))++((WS r).leaves++Zl (YN (rs.drop (k+1)))):=by
 rw [D6,Zo hk,AM,TG];rfl
theorem IP (hk:k<rs.length):(Zl (YN (rs.take k))).length=k*5:=by rw [DE,Ww,Vq om]
theorem RX (hk:k<rs.length) (r:Yb):((Zl (YN (rs.set k r))).drop (k*5+1)).take 1=[Z0 r.lent]:=by
 rw [FY hk,<-IP hk,<-List.drop_drop,List.drop_left];rfl
theorem RZ (hk:k<rs.length) (r:Yb) (l:List Int):(Zl (YN (rs.set k r))).take (k*5+1)++[Z0 l]++(Zl (YN (rs.set k r))).drop (k*5+1+1)=Zl (YN (rs.set k ⟨r.params,l,r.result,r.body⟩)):=by
 have hl:=IP hk
 rw [FY hk,FY hk]
 have e:(WS r).leaves=[Z0 r.params]++([Z0 r.lent]++[.i r.result,.sl (Zv r.body.steps) none,.i r.body.result]):=rfl
 have e2:(WS ⟨r.params,l,r.result,r.body⟩).leaves=[Z0 r.params]++([Z0 l]++[.i r.result,.sl (Zv r.body.steps) none,.i r.body.result]):=rfl
 rw [e,e2]
 have q:=H0 (A:=Zl (YN (rs.take k))++[Z0 r.params]) (xs:=[Z0 r.lent]) (ys:=[Z0 l]) (B:=[.i r.result,.sl (Zv r.body.steps) none,.i r.body.result]++Zl (YN (rs.drop (k+1)))) (o:=k*5+1) (by rw [Yz,hl];rfl) rfl
 simpa [TA] using q
end
end Go.Abs
section
namespace Go.Abs
theorem U6 {rs fs:List Func} (hp:fs <+: rs) {i:Nat} {f:Func} (hx:fs[i]? = some f) (c:Nat) {zs:List AV} (hz:((CD f).drop c).take zs.length=zs) (hl:c+zs.length<=5):((Zl (Xc rs)).drop (i*5+c)).take zs.length=zs:=by
 obtain ⟨ys,rfl⟩:=hp
 have h1:(fs++ys)[i]? = some f:=by rw [D5 (XM.1 hx).1];exact hx
 have e1:=(UF i (fs++ys)).symm
 rw [Y8 h1] at e1
 have hl2:(Zl (Xc ((fs++ys).take i))).length=i*5:=by
  rw [UZ (k:=5) _ (Du _),Bs,Ww,Vq (by have:=(XM.1 h1).1;omega)]
 have e2:Zl (Xc (fs++ys))=Zl (Xc ((fs++ys).take i))++(CD f++Zl (Xc ((fs++ys).drop (i+1)))):=by
  conv=>lhs;rw [e1]
  simp only [Xc,Zl,List.map_append,Un,List.flatMap_append,JA]
  rfl
 rw [e2,List.drop_append,List.drop_of_length_le om,Av,hl2,Nat.add_sub_cancel_left,List.drop_append_of_le_length (by show c<=5;omega),List.take_append_of_le_length (by rw [At];show zs.length<=5-c;omega)]
 exact hz
theorem FX (rs:List Func):(Zl (Xc rs)).length=rs.length*5:=by rw [UZ (k:=5) _ (Du _),Bs]
end Go.Abs
namespace Go.Abs
abbrev Y9 (g:XU) (gb:Nat):List AV:=[Zd g.decls,.ms gb 0 g.funcs.length 4]
abbrev YI (gb:Nat) (rs:List Func):Res:=.row (.slice (some ⟨gb,0,none⟩) 4 4) 5 (Zl (Xc rs))
abbrev Yn (rd:Nat) (bs:List Int) (p:Nat):Res:=.obj rd [X9 bs,.i p]

end Go.Abs
end
namespace Go.Abs
theorem Z5a {w:World} {G:Yc} {g len cap k m:Nat} {ls:List AV} {h2:List Res} (hh:YB w G (.row (.slice (some ⟨g,0,none⟩) len cap) k ls::h2)) (hle:m<=len) :
  YB w G (.row (.slice (some ⟨g,0,none⟩) m cap) k (ls.take (m*k))::h2)/\YU w G (.row (.slice (some ⟨g,0,none⟩) len cap) k ls::h2) w G (.row (.slice (some ⟨g,0,none⟩) m cap) k (ls.take (m*k))::h2):=by
 have hpw:=WP.1 hh.apart
 have hfp:∀b o,Res.fp (.row (.slice (some ⟨g,0,none⟩) m cap) k (ls.take (m*k))) b o->Res.fp (.row (.slice (some ⟨g,0,none⟩) len cap) k ls) b o:=fun b o hf=>hf
 refine ⟨⟨fun r hr=>?_,WP.2 ⟨fun r hr b o h1 h2=>hpw.1 r hr b o (hfp b o h1) h2,hpw.2⟩,fun r hr b o hf hg=>?_,hh.lt⟩,⟨rfl,rfl,rfl,X6 _,fun _ _ h=>h,fun _ _=>.inl rfl,fun _ _ _ h=>.inl h,fun b o _ hf=>?_⟩⟩
 ·rcases YQ.1 hr with rfl|hr
  ·rcases hh.ok _ (Xh ..) with ⟨h0,_⟩|⟨g',len',cap',cur,e,hv,h1,h3,h4,h5,h6⟩
   ·cases h0
   ·cases hv
    have hmk:m*k<=len*k:=TS k hle
    refine .inr ⟨g,m,cap,cur,e,rfl,h1,by omega,h4,by rw [Ww,h5];omega,?_⟩
    have:=h6.take (m*k)
    rw [List.take_take,Vq hmk] at this
    exact this
  ·exact hh.ok r (XG _ hr)
 ·rcases YQ.1 hr with rfl|hr
  ·exact hh.prot _ (Xh ..) b o (hfp b o hf) hg
  ·exact hh.prot r (XG _ hr) b o hf hg
 ·obtain ⟨r,hr,hf⟩:=hf
  rcases YQ.1 hr with rfl|hr
  ·exact ⟨_,Xh ..,hfp b o hf⟩
  ·exact ⟨r,XG _ hr,hf⟩
theorem RW {rs:List Func} {k:Nat} (f:Func) (hk:k<rs.length):(Zl (Xc rs)).take (k*5)++CD f++(Zl (Xc rs)).drop (k*5+5)=Zl (Xc (rs.set k f)):=by
 rw [show Xc (rs.set k f)=(Xc rs).set k (J2 f) by simp [Xc,List.map_set]]
 exact DH (y:=J2 f) (Du rs) rfl (by simpa using hk)
theorem Zi.frzP {P:Program} {f:FuncId} {as1:List AV} {h0:List Res} {E:Type} {ds:E->List Zf} {rs:E->List Func} {m:E->Nat} {hs:E->List Res} {Q:E->Prop}
  (H:Zi P f as1 h0 (fun r h=>∃(e:E) (gb:Nat),r=.agg [Zd (ds e),.ms gb 0 (m e) 4]/\h=.row (.slice (some ⟨gb,0,none⟩) 4 4) 5 (Zl (Xc (rs e)))::hs e/\Q e)) (hm:∀e,Q e->m e<=4/\(rs e).length=4) :
  Zi P f as1 h0 (fun r h=>∃e:E,r=.agg [Zd (ds e),BK ((rs e).take (m e))]/\h=hs e/\Q e):=by
 intro w G vs hv hh
 refine (H w G vs hv hh).mono ?_
 rintro e w' ⟨u,r,h',G',he,⟨x,gb,rfl,rfl,hq⟩,hr,hh',hx⟩
 obtain ⟨hm4,hr4⟩:=hm x hq
 obtain ⟨j1,j2⟩:=Z5a hh' hm4
 have hft:(Zl (Xc (rs x))).take (m x*5)=Zl (Xc ((rs x).take (m x))):=by
  have e1:rs x=(rs x).take (m x)++(rs x).drop (m x):=(UF _ _).symm
  have e2:Zl (Xc (rs x))=Zl (Xc ((rs x).take (m x)))++Zl (Xc ((rs x).drop (m x))):=by
   conv=>lhs;rw [e1]
   rw [Rv,TG]
  rw [e2,List.take_append_of_le_length (by rw [FX,Ww,show min (m x) (rs x).length=m x by omega];exact X6 _),Vg (by rw [FX,Ww];exact TS 5 (Nat.min_le_left _ _))]
 rw [hft] at j1 j2
 obtain ⟨G2,h1,h2,h3⟩:=BS j1 (Du _) om
 have hA:Vt G' w' w' G2:=h2.agree j1
 refine ⟨u,_,hs x,G2,he,⟨x,rfl,rfl,hq⟩,?_,(h1.perm (List.perm_append_comm (l₁:=[_]))).left,((hx.trans j2).trans h2).sub' (Aw _ _)⟩
 cases hr with
 | agg hc=>
  cases hc with
  | cons k1 t1=>
   cases t1 with
   | cons k2 t2=>
    cases t2
    have hv2:=k2.val_inv
    subst hv2
    refine .agg (.cons (k1.mono hA) (.cons ?_ .nil))
    have hw:Zg (.sl (Xc ((rs x).take (m x))) (some (.slice (some ⟨gb,0,none⟩) (m x) 4))) (BK ((rs x).take (m x))):=Zg.forget _ _
    exact hw _ _ _ h3
open Go.Proofs
theorem Z3k {xs:List Int} {k:Nat} {n x:Int} (h:n∉xs.take k) (hx:xs[k]? = some x) (hn:¬x=n):n∉xs.take (k+1):=by
 rw [List.take_add_one,hx]
 simp only [Option.toList_some,Xr,W3]
 exact fun q=>q.elim h fun q=>hn q.symm
theorem Z3f {xs:List Int} {k:Nat} {n x:Int} (hx:xs[k]? = some x) (hn:x=n):n∈xs:=hn▸Y7 hx
theorem UC (n:Int) (low:Int) (high:Int) :Zi Tryz.prog 82 [.i n,.i low,.i high] [] (fun r h=>r=.b (decide (low<=n/\n<=high))/\h=[]):=by
 refine ZK 15 Tryz.func82 (ar (ir 1 [(0,.i n),(1,.i low),(2,.i high)] (ie (ar (XQ 8 [(14,.b ((decide (low<=n))&&(decide (n<=high))))] [] ?_ (fun hj1=>?_))))))
 ·refine ir 1 [(6,.b ((decide (low<=n))&&(decide (n<=high))))] (ie ?_)
  exact Zb (r2 [] [.b ((decide (low<=n))&&(decide (n<=high)))] ⟨rfl,rfl⟩ (lb (by rw [Xl];simp)))
 refine ir 4 [(0,.i n),(2,.i high),(10,.b (decide (low<=n)))] (ib (b:=(decide (low<=n))) 10 (fun Za=>?_) (fun Za=>?_))
 ·have ZP:low<=n:=(dq).1 Za
  refine ir 4 [(14,.b (decide (n<=high)))] ?_
  exact YG (wk [] (Zu (decide (n<=high)) Za fl)) hj1
 have Y1:¬(low<=n):=ZI dq Za
 refine ir 4 [(14,.b false)] ?_
 exact YG (wk [] (Zu false Za fl)) hj1
theorem U8 (xs:List Int) (n:Int) (hlen:xs.length<=4294967296:=by exact ob):Zi Tryz.prog 205 [Z0 xs,.i n] [] (fun r h=>r=.b (decide (n∈xs))/\h=[]):=by
 refine ZK 18 Tryz.func205 (ar (ir 1 [(0,Z0 xs),(1,.i n)] (ie (aq (ar (Z1 1 5 (.i 0) (ie (ab 0 (al (fun m F h=>∃(k:Nat),(k<=xs.length)/\(n∉xs.take k)/\F=[(0,Z0 xs),(1,.i n),(5,.i k)]/\h=[]/\m=xs.length-k) _ _ _ ⟨0,ob,ob,rfl,rfl,rfl⟩ (wk [] (fw (Ya fl))) ?_)))))))))
 rintro m F h ⟨k,Yj,Zp,rfl,rfl,rfl⟩
 refine aq (ar (Yq 2 6 (.i k) 7 (Z0 xs) (iw (Yh xs) (Z1 1 9 (.b (decide ((k:Int)<(xs.length:Int)))) (ie (ZM ((k:Int)<(xs.length:Int)) (fun Ze=>?_) (fun Ze=>?_)))))))
 ·refine ak (aq (ab 1 (ar (Yq 2 12 (Z0 xs) 13 (.i k) ?_))))
  obtain ⟨x1,Z3⟩:=Zr (xs:=xs) (j:=k) om
  refine Zq (Zm none (k:Int) 1 (Y4 Z3)) (Z1 3 17 (.b (x1==n)) (ie (ac (x1==n) Zh (fun Zk=>?_) (fun Zk=>?_))))
  ·refine ar (ir 1 [(4,.b true)] (ie ?_))
   exact Zb (r2 [] [.b true] ⟨rfl,rfl⟩ (lb (by rw [eq_comm,dq];exact Z3f Z3 Zk)))
  refine ak (az (Z1 1 10 (.i k) (ZL k (ir 1 [(0,Z0 xs),(1,.i n),(5,.i (k+1:Nat))] (ie ?_)))))
  exact ZO ⟨k+1,ob,(Z3k Zp Z3 Zk),rfl,rfl,rfl⟩ (wk [] (fw (ZQ k fl)))
 refine ax 0 (ar (ir 1 [(4,.b false)] (ie ?_)))
 have hke:k=xs.length:=by omega
 exact Zb (r2 [] [.b false] ⟨rfl,rfl⟩ (lb (by rw [eq_comm,decide_eq_false_iff_not];rw [hke,Vp] at Zp;exact Zp)))
theorem VP (xs:List Int) (hlen:xs.length<=4294967296:=by exact ob):Zi Tryz.prog 51 [Z0 xs] [] (fun r h=>∃(v:Value),r=Z7 xs v/\h=[.tail v 1]):=by
 refine ZK 6 Tryz.func51 (ar (ir 1 [(0,Z0 xs)] (ie (ar (iL (Z8 []) 0 1 ?_)))))
 intro v1
 refine Z1 1 4 (Z0 xs) (ip 0 (Z8 xs) (Z8 []) (Z8 xs) v1 none 1 (YF _) (YF _) (XX _) (by simp<;>omega) (by simp [Z8]) ?_)
 intro v2
 refine ir 1 [(2,Z7 xs v2)] (ie ?_)
 exact Zb (r1 [0] ⟨v2,rfl,rfl⟩)
theorem Hg (ds:List Zf) (n:Nat) (hd:Wn ds:=by exact ob) (hn:n<=ds.length:=by exact ob):Zi Tryz.prog 173 [Zd ds,.i n] [] (fun r h=>r=.i ((Ys (ds.take n):Nat):Int)/\h=[]):=by
 refine ZK 21 Tryz.func173 (ar (ir 1 [(0,Zd ds),(1,.i n)] (ie (ar (Z1 1 5 (.i 0) (ie (aq (ar (Z1 1 6 (.i 0) (ie (ab 0 (al (fun m F h=>∃(k:Nat),(k<=n)/\F=[(0,Zd ds),(1,.i n),(5,.i ((Ys (ds.take k):Nat):Int)),(6,.i k)]/\h=[]/\m=n-k) _ _ _ ⟨0,ob,rfl,rfl,rfl⟩ (wk [] (fw (Ya (Ya fl)))) ?_))))))))))))
 rintro m F h ⟨k,Yj,rfl,rfl,rfl⟩
 refine aq (ar (Z1 3 9 (.b (decide ((k:Int)<(n:Int)))) (ie (ZM ((k:Int)<(n:Int)) (fun Ze=>?_) (fun Ze=>?_)))))
 ·refine ak (aq (ab 1 (az (Z5 3 (.n 12 (.i ((Ys (ds.take k):Nat):Int)) (.n 13 (Zd ds) (.n 14 (.i k) .r))) ?_))))
  obtain ⟨x1,Z3⟩:=Zr (xs:=ds) (j:=k) om
  refine Zq (Zm none (k:Int) 3 (Vk Z3)) (Z1 2 17 (W5 x1.cons) (iw (Ud x1.cons) (ia ((((Ys (ds.take k))+x1.cons.length:Nat):Int)) ((((Ys (ds.take k):Nat):Int))+((x1.cons.length:Int))) (hb:=(by have h1:=hd.cons_at Z3;have h2:=(hd.take k).sum;omega)) (Z5 1 (.n 5 (.i (((Ys (ds.take k))+x1.cons.length:Nat):Int)) (.p (.p (.d (.p (.d (.d (.d (.d (.k (.k (.d .r)))))))))))) (ie (az (Z1 1 10 (.i k) (ZL k (hb:=(by have:=hd.len;omega)) (Z5 1 (.n 6 (.i (k+1:Nat)) (.p (.d (.k (.k (.k .z)))))) (ie ?_))))))))))
  have hsn:Ys (ds.take (k+1))=Ys (ds.take k)+x1.cons.length:=by rw [WM Z3,Cc];simp [Ys]
  exact ZO ⟨k+1,ob,rfl,rfl,rfl⟩ (wk [] (fw (fc (x:=.i (((Ys (ds.take k))+x1.cons.length:Nat):Int)) li (ZQ k fl))))
 refine ax 0 (ar (ir 2 [(4,.i ((Ys (ds.take k):Nat):Int))] (ie ?_)))
 have hke:k=n:=by omega
 subst hke
 exact Zb (r2 [] [.i ((Ys (ds.take k):Nat):Int)] ⟨rfl,rfl⟩ li)
theorem Hf (ds:List Zf) (c:Int) (hd:Wn ds:=by exact ob):Zi Tryz.prog 137 [Zd ds,.i c] [] (fun r h=>r=.i (Xt ds c)/\h=[]):=by
 refine ZK 30 Tryz.func137 (ar (ir 1 [(0,Zd ds),(1,.i c)] (ie (aq (ar (Z1 1 5 (.i 0) (ie (ab 0 (al (fun m F h=>∃(k:Nat),(k<=ds.length)/\((Up c (ds.drop k) k (Ys (ds.take k))).1=Xt ds c)/\F=[(0,Zd ds),(1,.i c),(5,.i k)]/\h=[]/\m=ds.length-k) _ _ _ ⟨0,ob,(by rfl),rfl,rfl,rfl⟩ (wk [] (fw (Ya fl))) ?_)))))))))
 rintro m F h ⟨k,Yj,Zp,rfl,rfl,rfl⟩
 refine aq (ar (Yq 2 7 (.i k) 8 (Zd ds) (iw (VU ds) (Z1 1 10 (.b (decide ((k:Int)<(ds.length:Int)))) (ie (ZM ((k:Int)<(ds.length:Int)) (fun Ze=>?_) (fun Ze=>?_)))))))
 ·refine ak (aq (ab 1 (ar (Yq 2 13 (Zd ds) 14 (.i k) (ZA [] (Hg ds k) (Z1 1 6 (.i ((Ys (ds.take k):Nat):Int)) (ie (ar (Z5 5 (.n 16 (.i c) (.n 17 (.i ((Ys (ds.take k):Nat):Int)) (.n 18 (.i ((Ys (ds.take k):Nat):Int)) (.n 19 (Zd ds) (.n 20 (.i k) .r))))) ?_)))))))))
  obtain ⟨x1,Z3⟩:=Zr (xs:=ds) (j:=k) om
  refine Zq (Zm none (k:Int) 3 (Vk Z3)) (Z1 2 23 (W5 x1.cons) (iw (Ud x1.cons) (ia ((((Ys (ds.take k))+x1.cons.length:Nat):Int)) ((((Ys (ds.take k):Nat):Int))+((x1.cons.length:Int))) (hb:=(by have h1:=hd.cons_at Z3;have h2:=(hd.take k).sum;omega)) (ia (((((Ys (ds.take k))+x1.cons.length:Nat):Int)-1)) (((((Ys (ds.take k))+x1.cons.length:Nat):Int))-(1)) (hb:=(by have h1:=hd.cons_at Z3;have h2:=(hd.take k).sum;omega)) (ZA [] (UC c ((Ys (ds.take k):Nat):Int) ((((Ys (ds.take k))+x1.cons.length:Nat):Int)-1)) (ie (ZM (((Ys (ds.take k):Nat):Int)<=c/\c<=((((Ys (ds.take k))+x1.cons.length:Nat):Int)-1)) (fun Zk=>?_) (fun Zk=>?_))))))))
  ·refine ar (ir 1 [(28,.i k)] (ZL k (hb:=(by have h2:=hd.len;omega)) (ir 1 [(4,.i (k+1:Nat))] (ie ?_))))
   exact Zb (r2 [] [.i (k+1:Nat)] ⟨rfl,rfl⟩ (li (by rw [<-Zp,Y8 Z3,Up,Zo Zk];rfl)))
  refine ak (az (Z1 1 11 (.i k) (ZL k (hb:=(by have h2:=hd.len;omega)) (ir 1 [(0,Zd ds),(1,.i c),(5,.i (k+1:Nat))] (ie ?_)))))
  have hdr:=Y8 Z3
  exact ZO ⟨k+1,ob,(by rw [hdr] at Zp;rw [<-Zp,Up,Zc Zk,WM Z3,Cc];rfl),rfl,rfl,rfl⟩ (wk [] (fw (ZQ k fl)))
 refine ax 0 (ar (ir 1 [(4,.i (-1))] (ie ?_)))
 exact Zb (r2 [] [.i (-1)] ⟨rfl,rfl⟩ (li (by rw [<-Zp,Xb om];rfl)))
theorem Qr (ds:List Zf) (c:Int) (hd:Wn ds:=by exact ob):Zi Tryz.prog 138 [Zd ds,.i c] [] (fun r h=>r=Z0 (ZC ds c)/\h=[]):=by
 refine ZK 27 Tryz.func138 (ar (ir 1 [(0,Zd ds),(1,.i c)] (ie (ar (Yq 2 6 (Zd ds) 7 (.i c) (ZA [] (Hf ds c) (Z1 1 5 (.i (Xt ds c)) (ie (aq (ar (Z1 2 10 (.b (decide ((Xt ds c)<1))) (ie (ZM ((Xt ds c)<1) (fun Ze=>?_) (fun Ze=>?_))))))))))))))
 ·refine ar (iL (Z8 []) 0 1 ?_)
  intro v1
  refine ir 1 [(4,Z7 [] v1)] (ie ?_)
  exact Zb (r2 [] [Z7 [] v1] ⟨rfl,rfl⟩ (Zg.sl _ (Yx Z8 (by rw [(Dp Ze).1]))))
 obtain ⟨k,d,x,hk1,hk2,hk3,hk4,hk5⟩:=Fp Ze
 have hkl:=(XM.1 hk1).1
 have hxl:=(XM.1 hk3).1
 have hsm:=(hd.take k).sum
 have hdl:=hd.cons_at hk1
 have hdn:=hd.len
 refine ak (aD 16 (Y0 14 16 [0,1] (.n 12 (Zd ds) (.n 13 (.i (Xt ds c)) .r)) (da 2 ((k:Int)) ((Xt ds c)-(1)) (hb:=(by have:=hd.len;omega)) ?_)))
 obtain ⟨x1,Z3⟩:=Zr (xs:=ds) (j:=k) om
 have hxe:x1=d:=by rw [hk1] at Z3;exact (JE Z3).symm
 subst hxe
 refine dx 3 (Zm none (k:Int) 3 (Vk Z3)) (Xa 7 12 [4,5,6,7,8] [(17,W5 x1.cons),(18,.i c),(19,Zd ds),(20,.i (Xt ds c))] (da 9 ((k:Int)) ((Xt ds c)-(1)) (hb:=(by have:=hd.len;omega)) (Z9 10 (Yv 10 [] [] [] (Hg ds k) (da 11 ((c-((Ys (ds.take k):Nat):Int))) ((c)-(((Ys (ds.take k):Nat):Int))) ?_)))))
 obtain ⟨x2,Zt⟩:=Zr (xs:=x1.cons) (j:=(c-((Ys (ds.take k):Nat):Int)).toNat) om
 have hxe:x2=x:=by rw [show (c - ↑(Ys (ds.take k))).toNat=(c-Ys (ds.take k)).toNat from rfl,hk3] at Zt;exact (JE Zt).symm
 subst hxe
 refine dx 12 (Zm none (c-((Ys (ds.take k):Nat):Int)) 1 (Bo Zt)) (Xa 0 3 [13,14,15] [(4,Z0 x2.fields)] (de ?_))
 exact Zb (r2 [] [Z0 x2.fields] ⟨rfl,rfl⟩ (Zg.sl _ (Yx Z8 hk5.symm)))
theorem KS (ds:List Zf) (t:Int) (hd:Wn ds:=by exact ob):Zi Tryz.prog 174 [Zd ds,.i t] [] (fun r h=>∃(v:Value),r=Z7 (Zw ds t) v/\h=[.tail v 1]):=by
 have hdn:=hd.len
 refine ZK 35 Tryz.func174 (ar (ir 1 [(0,Zd ds),(1,.i t)] (ie (ar (iL (Z8 []) 0 1 ?_)))))
 intro v1
 refine Z1 1 5 (Z7 [] v1) (ie (aq (ar (Yq 2 8 (.i t) 9 (Zd ds) (iw (VU ds) (ZA [] (UC t 1 (ds.length:Int)) (Z1 1 12 (.b (!(decide (1<=t/\t<=(ds.length:Int))))) (ie (ac (!(decide (1<=t/\t<=(ds.length:Int)))) (p:=¬(1<=t/\t<=(ds.length:Int))) (Yw dq) (fun Ze=>?_) (fun Ze=>?_))))))))))
 ·refine ar (ir 2 [(4,Z7 [] v1)] (ie ?_))
  exact Zb (r2 [0] [Z7 [] v1] ⟨v1,rfl,rfl⟩ (Zg.slh _ (Yx Z8 (by simp [Zw];omega))))
 have Ze:1<=t/\t<=ds.length:=by simpa using Ze
 obtain ⟨d,hd1⟩:=Zr (xs:=ds) (j:=(t-1).toNat) om
 have hdc:=hd.cons_at hd1
 have hsm:=(hd.take (t-1).toNat).sum
 refine ak (aq (ar (Z1 1 6 (.i 0) (ie (ab 0 (al (fun m F h=>∃(k:Nat) (v:Value),(k<=d.cons.length)/\F=[(0,Zd ds),(1,.i t),(5,Z7 (Wv (Ys (ds.take (t-1).toNat)) k) v),(6,.i k)]/\h=[.tail v 1]/\m=d.cons.length-k) _ _ _ ⟨0,v1,(by first|omega|rfl|(simp<;>omega)|grind [Zw,Wv]),rfl,rfl,rfl⟩ (wk [0] (fw (fc (x:=Z7 [] v1) (Zg.slh _ (Yx Z8 (by first|omega|rfl|(simp<;>omega)|grind [Zw,Wv]))) (fc (x:=.i 0) (li (by first|omega|rfl|(simp<;>omega)|grind [Zw,Wv])) fl)))) ?_))))))
 rintro m F h ⟨k,v,Yj,rfl,rfl,rfl⟩
 refine aq (ar (Z5 3 (.n 14 (.i k) (.n 15 (Zd ds) (.n 16 (.i t) .r))) (ia ((((t-1).toNat:Nat):Int)) ((t)-(1)) (Zq (Zm none (((t-1).toNat:Nat):Int) 3 (Vk hd1)) (Z1 2 20 (W5 d.cons) (iw (Ud d.cons) (Z1 1 22 (.b (decide ((k:Int)<(d.cons.length:Int)))) (ie (ZM ((k:Int)<(d.cons.length:Int)) (fun Zk=>?_) (fun Zk=>?_))))))))))
 ·refine ak (aq (ab 1 (az (Z5 3 (.n 25 (Z7 (Wv (Ys (ds.take (t-1).toNat)) k) v) (.n 26 (Zd ds) (.n 27 (.i t) .r))) (ia ((((t-1).toNat:Nat):Int)) ((t)-(1)) (ZA [] (Hg ds ((t-1).toNat) (hd:=(by first|omega|rfl|(simp<;>omega)|grind [Zw,Wv])) (hn:=(by first|omega|rfl|(simp<;>omega)|grind [Zw,Wv]))) (Z1 1 30 (.i k) (ia ((((Ys (ds.take ((t-1).toNat)))+k:Nat):Int)) ((((Ys (ds.take ((t-1).toNat)):Nat):Int))+((k:Int))) (iL (Z8 [(((Ys (ds.take ((t-1).toNat)))+k:Nat):Int)]) 1 1 ?_)))))))))
  intro v2
  refine Z5 0 (.n 32 (Z0 [(((Ys (ds.take ((t-1).toNat)))+k:Nat):Int)]) (.p .r)) (ip 1 (Z8 (Wv (Ys (ds.take (t-1).toNat)) k++[(((Ys (ds.take ((t-1).toNat)))+k:Nat):Int)])) (Z8 (Wv (Ys (ds.take (t-1).toNat)) k)) (Z8 [(((Ys (ds.take ((t-1).toNat)))+k:Nat):Int)]) v none 1 (YF _) (YF _) (XX _) (by simp<;>omega) (by simp [XW,Z8]) ?_)
  intro v3
  refine ir 1 [(0,Zd ds),(1,.i t),(5,Z7 (Wv (Ys (ds.take (t-1).toNat)) k++[(((Ys (ds.take ((t-1).toNat)))+k:Nat):Int)]) v3),(6,.i k)] (ie (az (Z1 1 23 (.i k) (ZL k (Z5 1 (.n 6 (.i (k+1:Nat)) (.p (.d (.k (.k (.k .z)))))) (ie ?_))))))
  exact ⟨_,_,_,(by first|omega|rfl|(simp<;>omega)|grind [Zw,Wv]),⟨k+1,v3,(by first|omega|rfl|(simp<;>omega)|grind [Zw,Wv]),rfl,rfl,rfl⟩,(wk [0] (fw (fc (x:=Z7 (Wv (Ys (ds.take (t-1).toNat)) k++[(((Ys (ds.take ((t-1).toNat)))+k:Nat):Int)]) v3) (Zg.slh _ (Yx Z8 (Mh _ _).symm)) (fc (x:=.i (k+1:Nat)) (li (by first|omega|rfl|(simp<;>omega)|grind [Zw,Wv])) fl))))⟩
 refine ax 0 (ar (ir 2 [(4,Z7 (Wv (Ys (ds.take (t-1).toNat)) k) v)] (ie ?_)))
 exact Zb (r2 [0] [Z7 (Wv (Ys (ds.take (t-1).toNat)) k) v] ⟨v,rfl,rfl⟩ (Zg.slh _ (Yx Z8 (by rw [Zw,Zo Ze,hd1,show k=d.cons.length by omega];rfl))))
theorem NC (ds:List Zf) (frm:Int) (to_:Int) (hl_ds:ds.length<=4294967296:=by exact ob):Zi Tryz.prog 176 [Zd ds,.i frm,.i to_] [] (fun r h=>r=.i (WV ds frm to_)/\h=[]):=by
 refine ZK 41 Tryz.func176 (ar (ir 1 [(0,Zd ds),(1,.i frm),(2,.i to_)] (ie (aq (ar (Z1 1 7 (.i 0) (ie (ab 0 (al (fun m F h=>∃(k:Nat),(k<=ds.length)/\(Qh frm to_ (ds.drop k) k=WV ds frm to_)/\F=[(0,Zd ds),(1,.i frm),(2,.i to_),(7,.i k)]/\h=[]/\m=ds.length-k) _ _ _ ⟨0,ob,ob,rfl,rfl,rfl⟩ (wk [] (fw (fr (Ya fl)))) ?_)))))))))
 rintro m F h ⟨k,Yj,Zp,rfl,rfl,rfl⟩
 refine aq (ar (Yq 2 8 (.i k) 9 (Zd ds) (iw (VU ds) (Z1 1 11 (.b (decide ((k:Int)<(ds.length:Int)))) (ie (ZM ((k:Int)<(ds.length:Int)) (fun Ze=>?_) (fun Ze=>?_)))))))
 ·refine ak (aq (ab 1 (ar (Yq 2 14 (Zd ds) 15 (.i k) ?_))))
  obtain ⟨x1,Z3⟩:=Zr (xs:=ds) (j:=k) om
  refine Zq (Zm none (k:Int) 3 (Vk Z3)) (Z1 2 18 (W5 x1.cons) (iw (Ud x1.cons) (XQ 16 [(0,Zd ds),(1,.i frm),(2,.i to_),(7,.i k),(29,.b (((x1.cons.length:Int)==0)&&(x1.frm==frm)))] [] ?_ (fun hj1=>?_))))
  ·refine Xo [(0,Zd ds),(1,.i frm),(2,.i to_),(7,.i k),(38,.b ((((x1.cons.length:Int)==0)&&(x1.frm==frm))&&(x1.to_==to_)))] [] ?_ ?_
   ·refine ir 1 [(0,Zd ds),(1,.i frm),(2,.i to_),(7,.i k),(30,.b (((x1.cons.length:Int)==0)&&(x1.frm==frm)))] (ib (b:=(((x1.cons.length:Int)==0)&&(x1.frm==frm))) 30 (fun Za=>?_) (fun Za=>?_))
    ·have ZP:((x1.cons.length:Int)=0)/\(x1.frm=frm):=((YD Zh Zh)).1 Za
     refine Z5 2 (.n 31 (Zd ds) (.n 32 (.i k) (.w (.k .z)))) (Zq (Zm none (k:Int) 3 (Vk Z3)) (Z1 5 38 (.b (x1.to_==to_)) (ie ?_)))
     exact wk [] (fq (Zu (x1.to_==to_) Za fl))
    have Y1:¬(((x1.cons.length:Int)=0)/\(x1.frm=frm)):=ZI (YD Zh Zh) Za
    refine Z5 8 (.n 38 (.b false) (.d (.w .z))) (ie ?_)
    exact wk [] (fq (Zu false Za fl))
   refine ac ((((x1.cons.length:Int)==0)&&(x1.frm==frm))&&(x1.to_==to_)) (p:=(((x1.cons.length:Int)=0)/\(x1.frm=frm))/\(x1.to_=to_)) (YD (YD Zh Zh) Zh) (fun Zk=>?_) (fun Zk=>?_)
   ·refine ar (ir 1 [(39,.i k)] (ZL k (ir 1 [(6,.i (k+1:Nat))] (ie ?_))))
    rw [Y8 Z3] at Zp
    exact Zb (r2 [] [.i (k+1:Nat)] ⟨rfl,rfl⟩ (li (by clear Z3;first|rfl|omega|grind [Qh])))
   refine ak (az (ir 1 [(0,Zd ds),(1,.i frm),(2,.i to_),(12,.i k)] (ZL k (Z1 1 7 (.i (k+1:Nat)) (ie ?_)))))
   have hdr:=Y8 Z3
   exact ZO ⟨k+1,ob,(by rw [hdr] at Zp;clear hdr Z3;grind [Qh]),rfl,rfl,rfl⟩ (wk [] (fw (fr (ZQ k fl))))
  refine ir 2 [(0,Zd ds),(1,.i frm),(2,.i to_),(7,.i k),(21,.b ((x1.cons.length:Int)==0))] (ib (b:=((x1.cons.length:Int)==0)) 21 (fun Zz=>?_) (fun Zz=>?_))
  ·have Yy:(x1.cons.length:Int)=0:=(Zh).1 Zz
   refine Z5 2 (.n 22 (Zd ds) (.n 23 (.i k) (.w (.k .z)))) (Zq (Zm none (k:Int) 3 (Vk Z3)) (Z1 5 29 (.b (x1.frm==frm)) ?_))
   exact YG (wk [] (fq (Zu (x1.frm==frm) Zz fl))) hj1
  have YK:¬((x1.cons.length:Int)=0):=ZI Zh Zz
  refine Z5 8 (.n 29 (.b false) (.d (.w .z))) ?_
  exact YG (wk [] (fq (Zu false Zz fl))) hj1
 refine ax 0 (ar (ir 1 [(6,.i (-1))] (ie ?_)))
 try rw [Xb (xs:=ds) (k:=k) om] at Zp
 exact Zb (r2 [] [.i (-1)] ⟨rfl,rfl⟩ (li (by first|rfl|omega|grind [Qh])))
theorem CX (ds:List Zf) (t:Int) (hd:Wn ds:=by exact ob):Zi Tryz.prog 141 [Zd ds,.i t] [] (fun r h=>r=.b (X5 ds t)/\h=[]):=by
 have hdn:=hd.len
 refine ZK 19 Tryz.func141 (ar (ir 1 [(0,Zd ds),(1,.i t)] (ie (ar (Yq 2 5 (.i t) 6 (Zd ds) (iw (VU ds) (ZA [] (UC t 1 (ds.length:Int)) (Z1 1 9 (.b (decide (1<=t/\t<=(ds.length:Int)))) (ib (b:=(decide (1<=t/\t<=(ds.length:Int)))) 9 (fun Za=>?_) (fun Za=>?_))))))))))
 ·have ZP:1<=t/\t<=(ds.length:Int):=(dq).1 Za
  refine Z5 2 (.n 10 (Zd ds) (.n 11 (.i t) (.k .z))) (ia ((t-1)) ((t)-(1)) ?_)
  obtain ⟨x1,Z3⟩:=Zr (xs:=ds) (j:=(t-1).toNat) om
  refine Zq (Zm none (t-1) 3 (Vk Z3)) (Z1 2 15 (W5 x1.cons) (iw (Ud x1.cons) (ir 3 [(4,.b ((x1.cons.length:Int)==0))] (ie ?_))))
  exact Zb (r2 [] [.b ((x1.cons.length:Int)==0)] ⟨rfl,rfl⟩ (lb (by first|omega|rfl|(rw [E0 ZP Z3])|exact Gn Y1)))
 have Y1:¬(1<=t/\t<=(ds.length:Int)):=ZI dq Za
 refine ir 10 [(4,.b false)] (ie ?_)
 exact Zb (r2 [] [.b false] ⟨rfl,rfl⟩ (lb (by first|omega|rfl|(rw [E0 ZP Z3])|exact Gn Y1)))
theorem Q9 (xs:List Int) (ys:List Int) (hl:xs.length+ys.length<=4294967296:=by exact ob):Zi Tryz.prog 175 [Z0 xs,Z0 ys] [] (fun r h=>∃(v:Value),r=Z7 (xs++ys) v/\h=[.tail v 1]):=by
 refine ZK 9 Tryz.func175 (ar (ir 1 [(0,Z0 xs),(1,Z0 ys)] (ie (ar (Z1 1 5 (Z0 xs) (ic [] (VP xs) ?_))))))
 rintro _ _ ⟨v1,rfl,rfl⟩
 refine Z1 1 7 (Z0 ys) (ip 0 (Z8 (xs++ys)) (Z8 xs) (Z8 ys) v1 none 1 (YF _) (YF _) (XX _) (by simp<;>omega) (by simp [XW,Z8]) ?_)
 intro v2
 refine ir 1 [(4,Z7 (xs++ys) v2)] (ie ?_)
 exact Zb (r1 [0] ⟨v2,rfl,rfl⟩)
theorem NA (ds:List Zf) (xs:List Int) (hl_ds:ds.length<=4294967296:=by exact ob) (hl_xs:xs.length<=4294967296:=by exact ob):Zi Tryz.prog 58 [Zd ds,Z0 xs] [] (fun r h=>r=.b (XJ ds.length xs)/\h=[]):=by
 refine ZK 20 Tryz.func58 (ar (ir 1 [(0,Zd ds),(1,Z0 xs)] (ie (aq (ar (Z1 1 5 (.i 0) (ie (ab 0 (al (fun m F h=>∃(k:Nat),(k<=xs.length)/\(XJ ds.length (xs.drop k)=XJ ds.length xs)/\F=[(0,Zd ds),(1,Z0 xs),(5,.i k)]/\h=[]/\m=xs.length-k) _ _ _ ⟨0,ob,ob,rfl,rfl,rfl⟩ (wk [] (fw (Ya fl))) ?_)))))))))
 rintro m F h ⟨k,Yj,Zp,rfl,rfl,rfl⟩
 refine aq (ar (Yq 2 6 (.i k) 7 (Z0 xs) (iw (Yh xs) (Z1 1 9 (.b (decide ((k:Int)<(xs.length:Int)))) (ie (ZM ((k:Int)<(xs.length:Int)) (fun Ze=>?_) (fun Ze=>?_)))))))
 ·refine ak (aq (ab 1 (ar (Yq 2 12 (Z0 xs) 13 (.i k) ?_))))
  obtain ⟨x1,Z3⟩:=Zr (xs:=xs) (j:=k) om
  refine Zq (Zm none (k:Int) 1 (Y4 Z3)) (Yq 2 15 (.i x1) 16 (Zd ds) (iw (VU ds) (ZA [] (UC x1 0 (ds.length:Int)) (Z1 1 19 (.b (!(decide (0<=x1/\x1<=(ds.length:Int))))) (ie (ac (!(decide (0<=x1/\x1<=(ds.length:Int)))) (p:=¬(0<=x1/\x1<=(ds.length:Int))) (Yw dq) (fun Zk=>?_) (fun Zk=>?_)))))))
  ·refine ar (ir 1 [(4,.b false)] (ie ?_))
   rw [Y8 Z3] at Zp
   exact Zb (r2 [] [.b false] ⟨rfl,rfl⟩ (lb (by clear Z3;first|rfl|omega|grind [XJ])))
  refine ak (az (Z1 1 10 (.i k) (ZL k (ir 1 [(0,Zd ds),(1,Z0 xs),(5,.i (k+1:Nat))] (ie ?_)))))
  have hdr:=Y8 Z3
  exact ZO ⟨k+1,ob,(by rw [hdr] at Zp;clear hdr Z3;grind [XJ]),rfl,rfl,rfl⟩ (wk [] (fw (ZQ k fl)))
 refine ax 0 (ar (ir 1 [(4,.b true)] (ie ?_)))
 try rw [Xb (xs:=xs) (k:=k) om] at Zp
 exact Zb (r2 [] [.b true] ⟨rfl,rfl⟩ (lb (by first|rfl|omega|grind [XJ])))
theorem SV (code:List Int) (hl:code.length<=1048576:=by exact ob) (hc:∀z∈code,0<=z/\z<=255):Zi Tryz.prog 48 [X9 code] [] (fun r h=>∃(rd:Nat) (bs:List Int),r=.p rd 0/\h=[.obj rd [X9 bs,.i 0]]/\∀z∈bs,0<=z/\z<=255):=by
 refine ZK 11 Tryz.func48 (ar (ir 1 [(0,X9 code)] (ie (aq (ar (Z1 1 3 (X9 code) (iw (QG code) (Z1 1 5 (.b (decide ((code.length:Int)>2000))) (ie (XI (fun F h=>F=[(0,X9 (if (code.length:Int)>2000 then (code.take 2000) else code))]/\h=[]) ?_ ?_))))))))))
 ·refine ZM ((code.length:Int)>2000) (fun Ze=>?_) (fun Ze=>?_)
  ·refine az (ir 1 [(6,X9 code)] (Zq (Kl (es:=T8 code) (hv:=none) (l:=0) (m:=2000) (sz:=1) (es':=T8 (code.take 2000)) kr om (by simp<;>omega) (by simp<;>omega) (Rq _) (by first|(simp only [VR,Vp,FE,FD];done)|(simp only [VR,Vp,FE,FD];rfl)|(simp [FE,FD];done))) (ir 1 [(0,X9 (code.take 2000))] (ie ?_))))
   exact ZW ⟨rfl,rfl⟩ (wk [] (fc (x:=X9 (code.take 2000)) (Zg.sl _ (Yx T8 (by first|rfl|(rw [Zo Ze])|(rw [Zc Ze])|(simp [Ze];done)|(rw [Xl];simp [Ze];done)|omega))) fl))
  refine ak ?_
  exact ZW ⟨rfl,rfl⟩ (wk [] (fc (x:=X9 code) (Zg.sl _ (Yx T8 (by first|rfl|(rw [Zo Ze])|(rw [Zc Ze])|(simp [Ze];done)|(rw [Xl];simp [Ze];done)|omega))) fl))
 rintro F h ⟨rfl,rfl⟩
 refine ar (ir 2 [(9,.agg [X9 (if (code.length:Int)>2000 then (code.take 2000) else code),.i 0])] (iA [X9 (if (code.length:Int)>2000 then (code.take 2000) else code),.i 0] ?_))
 intro b1
 refine ir 1 [(2,.p b1 0)] (ie ?_)
 exact Zb (r1 [0] ⟨b1,(if (code.length:Int)>2000 then (code.take 2000) else code),rfl,rfl,(by first|exact hc|exact fun z hz=>hc z (TR hz)|(split<;>first|exact hc|exact fun z hz=>hc z (TR hz)))⟩)
theorem XP (rd:Nat) (bs:List Int) (p:Nat) (mx:Int) (ZE:∀z∈bs,0<=z/\z<=255) (hp:p+1<=1000000000:=by exact ob):Zi Tryz.prog 50 [.p rd 0,.i mx] [Yn rd bs p] (fun r h=>∃(k:Int),r=.i k/\h=[.obj rd [X9 bs,.i (p+1:Nat)]]/\Pk mx k):=by
 refine ZK 99 Tryz.func50 (ar (ir 1 [(0,.p rd 0),(1,.i mx)] (ie (ar (ZY 5 7 (.p rd 0) 11 (.i p) [0] [rd] (ZL p (Z1 2 14 (.p rd 1) (ZF 0 rd [X9 bs,.i (p+1:Nat)] (ie (aq (ar (Xo [(0,.p rd 0),(1,.i mx),(24,.b ((decide (mx<1))||((bs.length:Int)==0)))] [.obj rd [X9 bs,.i (p+1:Nat)]] ?_ ?_))))))))))))
 ·refine ir 3 [(0,.p rd 0),(1,.i mx),(17,.b (decide (mx<1)))] (ib (b:=(decide (mx<1))) 17 (fun Za=>?_) (fun Za=>?_))
  ·have ZP:mx<1:=(dq).1 Za
   refine Z5 7 (.n 24 (.b true) (.d (.k (.k .z)))) (ie ?_)
   exact wk [0] (fw (Zu true Za fl))
  have Y1:¬(mx<1):=ZI dq Za
  refine Y2 4 (.n 21 (X9 bs) (.k (.k (.k .z)))) [0] [rd] (iw (QG bs) (Z1 2 24 (.b ((bs.length:Int)==0)) (ie ?_)))
  exact wk [0] (fw (Zu ((bs.length:Int)==0) Za fl))
 refine ac ((decide (mx<1))||((bs.length:Int)==0)) (p:=(mx<1)∨((bs.length:Int)=0)) (Yo dq Zh) (fun Ze=>?_) (fun Ze=>?_)
 ·refine ar (ir 1 [(4,.i 0)] (ie ?_))
  exact Zb (r1 [0] ⟨0,rfl,rfl,Pk.zero⟩)
 refine ak (ar (iR 4 [(0,.p rd 0),(1,.i mx),(28,.i (p+1:Nat))] [0] [rd] (ia ((p:Int)) ((((p+1:Nat):Int))-(1)) (Z1 1 5 (.i p) (ie (aq (ar (ZY 5 30 (.i p) 34 (X9 bs) [0] [rd] (iw (QG bs) (Z1 1 36 (.b (decide ((p:Int)<(bs.length:Int)))) (ie (ZM ((p:Int)<(bs.length:Int)) (fun Zk=>?_) (fun Zk=>?_)))))))))))))
 ·refine ar (ZY 5 40 (X9 bs) 41 (.i p) [0] [rd] ?_)
  obtain ⟨x1,Z3⟩:=Zr (xs:=bs) (j:=p) om
  have hz:=ZE _ (Y7 Z3)
  refine Zq (Zm none (p:Int) 1 (Bn Z3)) (Z1 1 43 (.val (.int .u8 x1)) (Zq (BG x1 om) (Z1 1 45 (.i mx) (Zq (CC x1 mx om om) (ir 1 [(4,.i (x1 % mx))] (ie ?_))))))
  exact Zb (r1 [0] ⟨(x1 % mx),rfl,rfl,(Pk.rem om om)⟩)
 have hq1:p / bs.length<=p:=Nat.div_le_self _ _
 have hq0:(0:Int)<=((p / bs.length:Nat):Int):=Int.natCast_nonneg _
 refine ak (aD 46 (Y6 37 46 [0,1,2,3,4,5,6,7,8] (.n 50 (X9 bs) (.n 51 (.i p) (.n 55 (X9 bs) .r))) [0,0] [rd,rd] (dw 9 (QG bs) (dx 10 (E1 p bs.length om om) ?_))))
 obtain ⟨x2,Zt⟩:=Zr (xs:=bs) (j:=p % bs.length) (Nat.mod_lt _ om)
 have hz:=ZE _ (Y7 Zt)
 refine dx 11 (Zm none ((p % bs.length:Nat):Int) 1 (Bn Zt)) (ZZ 33 34 [12] 59 (.val (.int .u8 x2)) (dx 13 (BG x2 om) (da 14 ((x2*131)) ((x2)*(131)) (Y6 26 31 [15,16,17,18,19] (.n 65 (X9 bs) (.n 66 (.i p) .r)) [0] [rd] (da 20 (((p*7:Nat):Int)) (((p:Int))*(7)) (da 21 (((p*7+3:Nat):Int)) ((((p*7:Nat):Int))+(3)) (Y6 20 24 [22,23,24,25] (.n 72 (X9 bs) .r) [0] [rd] (dw 26 (QG bs) (dx 27 (E1 (p*7+3) bs.length om om) ?_)))))))))
 obtain ⟨x3,YT⟩:=Zr (xs:=bs) (j:=(p*7+3) % bs.length) (Nat.mod_lt _ om)
 have hz3:=ZE _ (Y7 YT)
 refine dx 28 (Zm none (((p*7+3) % bs.length:Nat):Int) 1 (Bn YT)) (ZZ 16 17 [29] 76 (.val (.int .u8 x3)) (dx 30 (BG x3 om) (da 31 ((x3*1117)) ((x3)*(1117)) (da 32 (((x2*131)+(x3*1117))) (((x2*131))+((x3*1117))) (ZZ 12 13 [33] 80 (.i p) (da 34 (((p*29:Nat):Int)) (((p:Int))*(29)) (da 35 ((((x2*131)+(x3*1117))+((p*29:Nat):Int))) ((((x2*131)+(x3*1117)))+(((p*29:Nat):Int))) (Y6 5 10 [36,37,38,39,40] (.n 83 (.i p) (.n 87 (X9 bs) .r)) [0] [rd] (dw 41 (QG bs) (dx 42 (AZ p bs.length om om) (da 43 ((((p / bs.length:Nat):Int)*53)) ((((p / bs.length:Nat):Int))*(53)) (da 44 (((((x2*131)+(x3*1117))+((p*29:Nat):Int))+(((p / bs.length:Nat):Int)*53))) (((((x2*131)+(x3*1117))+((p*29:Nat):Int)))+((((p / bs.length:Nat):Int)*53))) (ZZ 0 1 [45] 6 (.i ((((x2*131)+(x3*1117))+((p*29:Nat):Int))+(((p / bs.length:Nat):Int)*53))) (de (ar (Yq 2 92 (.i ((((x2*131)+(x3*1117))+((p*29:Nat):Int))+(((p / bs.length:Nat):Int)*53))) 93 (.i ((((x2*131)+(x3*1117))+((p*29:Nat):Int))+(((p / bs.length:Nat):Int)*53))) (Zq (Gu ((((x2*131)+(x3*1117))+((p*29:Nat):Int))+(((p / bs.length:Nat):Int)*53)) 64 om om) (Zq (LJ ((((x2*131)+(x3*1117))+((p*29:Nat):Int))+(((p / bs.length:Nat):Int)*53)) (((((x2*131)+(x3*1117))+((p*29:Nat):Int))+(((p / bs.length:Nat):Int)*53)) / 64)) (ir 1 [(1,.i mx),(6,.i (TQ ((((x2*131)+(x3*1117))+((p*29:Nat):Int))+(((p / bs.length:Nat):Int)*53)) (((((x2*131)+(x3*1117))+((p*29:Nat):Int))+(((p / bs.length:Nat):Int)*53)) / 64)))] (ie (ar (ir 2 [(96,.i (TQ ((((x2*131)+(x3*1117))+((p*29:Nat):Int))+(((p / bs.length:Nat):Int)*53)) (((((x2*131)+(x3*1117))+((p*29:Nat):Int))+(((p / bs.length:Nat):Int)*53)) / 64))),(97,.i mx)] (Zq (CC (TQ ((((x2*131)+(x3*1117))+((p*29:Nat):Int))+(((p / bs.length:Nat):Int)*53)) (((((x2*131)+(x3*1117))+((p*29:Nat):Int))+(((p / bs.length:Nat):Int)*53)) / 64)) mx om (EP ⟨by omega,by omega⟩ ⟨by omega,by omega⟩).1) (ir 1 [(4,.i ((TQ ((((x2*131)+(x3*1117))+((p*29:Nat):Int))+(((p / bs.length:Nat):Int)*53)) (((((x2*131)+(x3*1117))+((p*29:Nat):Int))+(((p / bs.length:Nat):Int)*53)) / 64)) % mx))] (ie ?_)))))))))))))))))))))))))
 exact Zb (r1 [0] ⟨((TQ ((((x2*131)+(x3*1117))+((p*29:Nat):Int))+(((p / bs.length:Nat):Int)*53)) (((((x2*131)+(x3*1117))+((p*29:Nat):Int))+(((p / bs.length:Nat):Int)*53)) / 64)) % mx),rfl,rfl,(Pk.rem (EP ⟨by omega,by omega⟩ ⟨by omega,by omega⟩).1 om)⟩)
theorem Vw (rd:Nat) (bs:List Int) (p:Nat) (xs:List Int) (ZE:∀z∈bs,0<=z/\z<=255) (hp:p+1<=1000000000:=by exact ob) (hx:0<xs.length/\xs.length<=1000000:=by exact ob):Zi Tryz.prog 72 [.p rd 0,Z0 xs] [Yn rd bs p] (fun r h=>∃(z:Int),r=.i z/\h=[.obj rd [X9 bs,.i (p+1:Nat)]]/\z∈xs):=by
 refine ZK 12 Tryz.func72 (ar (ir 1 [(0,.p rd 0),(1,Z0 xs)] (ie (ar (ir 3 [(5,Z0 xs),(6,.p rd 0),(7,Z0 xs)] (iw (Yh xs) (ic [0] (XP rd bs p (xs.length:Int) (ZE:=ob)) ?_)))))))
 rintro _ _ ⟨k1,rfl,rfl,ZP⟩
 have hk:=ZP.lt om
 obtain ⟨x1,Z3⟩:=Zr (xs:=xs) (j:=k1.toNat) om
 refine Zq (Zm none k1 1 (Y4 Z3)) (ir 2 [(4,.i x1)] (ie ?_))
 exact Zb (r1 [0] ⟨x1,rfl,rfl,(Y7 Z3)⟩)
theorem Ts (fs:List Int) :Zi Tryz.prog 144 [Z0 fs] [] (fun r h=>r=AB (Y5.mk fs)/\h=[]):=by
 refine ZK 5 Tryz.func144 (ar (iA [nl] ?_))
 intro b1
 refine ie (ar (ir 2 [(2,.p b1 0),(4,.agg [Z0 fs])] (ZF 0 b1 [Z0 fs] (ie ?_))))
 exact Zb (r3 [] [.agg [Z0 fs]] [0] [(b1,b1)] ⟨rfl,rfl⟩ (Zg.agg (.cons (Zg.sl _ (Yx Z8 ob)) .nil)))
theorem Lc (rd:Nat) (bs:List Int) (p:Nat) (ZE:∀z∈bs,0<=z/\z<=255) (hp:p+1<=1000000000:=by exact ob):Zi Tryz.prog 143 [.p rd 0] [Yn rd bs p] (fun r h=>∃(ds:List Zf) (v:Hd),r=.h v/\h=[rK v 3 (Zl (YW ds)),.obj rd [X9 bs,.i (p+1:Nat)]]/\GD ds):=by
 refine ZK 51 Tryz.func143 (ar (ir 1 [(0,.p rd 0)] (ie (ar (iL (Z8 []) 0 1 ?_)))))
 intro v1
 refine Z5 0 (.n 8 (Z0 []) (.p .r)) (ZA [] (Ts []) (iL (Z8 [0,1]) 2 1 ?_))
 intro v2
 refine Z5 0 (.n 10 (Z0 [0,1]) (.p .r)) (ZA [] (Ts [0,1]) (iL (Wx [Y5.mk [],Y5.mk [0,1]]) 2 1 ?_))
 intro v3
 refine Z1 1 13 (.agg [.i 0,.i 0,QQ [Y5.mk [],Y5.mk [0,1]] v3]) (iA [.i 0,.i 0,nl] ?_)
 intro b1
 refine ZF 0 b1 [.i 0,.i 0,QQ [Y5.mk [],Y5.mk [0,1]] v3] (ie (ar (iL (Z8 []) 0 1 ?_)))
 intro v4
 refine Z5 0 (.n 14 (Z0 []) (.p .r)) (ZA [] (Ts []) (iL (Z8 [3,0,3]) 3 1 ?_))
 intro v5
 refine Z5 0 (.n 16 (Z0 [3,0,3]) (.p .r)) (ZA [] (Ts [3,0,3]) (iL (Wx [Y5.mk [],Y5.mk [3,0,3]]) 2 1 ?_))
 intro v6
 refine Z1 1 19 (.agg [.i 0,.i 0,QQ [Y5.mk [],Y5.mk [3,0,3]] v6]) (iA [.i 0,.i 0,nl] ?_)
 intro b2
 refine ZF 0 b2 [.i 0,.i 0,QQ [Y5.mk [],Y5.mk [3,0,3]] v6] (ie (ar (iL (Z8 [1,3]) 2 1 ?_)))
 intro v7
 refine Z5 0 (.n 20 (Z0 [1,3]) (.p .r)) (ZA [] (Ts [1,3]) (iL (Wx [Y5.mk [1,3]]) 1 1 ?_))
 intro v8
 refine Yq 2 23 (.agg [.i 0,.i 0,QQ [Y5.mk [1,3]] v8]) 24 (.agg [.i 1,.i 0,nl]) (iL (Z8 [1,1,0]) 3 1 ?_)
 intro v9
 refine Z5 0 (.n 25 (Z0 [1,1,0]) (.p .r)) (ZA [] (Ts [1,1,0]) (iL (Z8 [0]) 1 1 ?_))
 intro v10
 refine Z5 0 (.n 27 (Z0 [0]) (.p .r)) (ZA [] (Ts [0]) (iL (Z8 [3]) 1 1 ?_))
 intro v11
 refine Z5 0 (.n 29 (Z0 [3]) (.p .r)) (ZA [] (Ts [3]) (iL (Wx [Y5.mk [1,1,0],Y5.mk [0],Y5.mk [3]]) 3 1 ?_))
 intro v12
 refine ir 2 [(0,.p rd 0),(3,.p b1 0),(4,.p b2 0),(23,.agg [.i 0,.i 0,W5 [Y5.mk [1,3]]]),(24,.agg [.i 1,.i 0,.sl [] none]),(32,.agg [.i 0,.i 0,W5 [Y5.mk [1,1,0],Y5.mk [0],Y5.mk [3]]]),(33,.agg [.i 0,.i 1,.sl [] none])] (iL (YW [Zf.mk 0 0 [Y5.mk [1,3]],Zf.mk 1 0 [],Zf.mk 0 0 [Y5.mk [1,1,0],Y5.mk [0],Y5.mk [3]],Zf.mk 0 1 []]) 4 3 ?_)
 intro v13
 refine Z1 1 5 (Uj [Zf.mk 0 0 [Y5.mk [1,3]],Zf.mk 1 0 [],Zf.mk 0 0 [Y5.mk [1,1,0],Y5.mk [0],Y5.mk [3]],Zf.mk 0 1 []] v13) (ie (ar (Y2 3 (.n 35 (.agg [.i 0,.i 0,W5 [Y5.mk [],Y5.mk [0,1]]]) (.n 36 (.agg [.i 0,.i 0,.sl [] none]) (.n 37 (.agg [.i 0,.i 0,W5 [Y5.mk [],Y5.mk [3,0,3]]]) .r))) [11,7] [b1,b2] (iKN (Zl (YW [Zf.mk 0 0 [Y5.mk [],Y5.mk [0,1]],Zf.mk 0 0 [],Zf.mk 0 0 [Y5.mk [],Y5.mk [3,0,3]]])) 3 3 ?_))))
 intro g1
 refine Z1 1 6 (.ms g1 0 3 3) (ie (ar (Z1 1 39 (.p rd 0) (ic [16] (XP rd bs p 5 (ZE:=ob)) ?_))))
 rintro _ _ ⟨k1,rfl,rfl,ZP⟩
 have hk:=ZP.lt om
 refine Z1 1 7 (.i k1) (ie (aq (ar (Z1 2 42 (.b (decide (k1<4))) (ie (ZM (k1<4) (fun Ze=>?_) (fun Ze=>?_)))))))
 ·refine az (ir 3 [(43,.ms g1 0 3 3),(44,Uj [Zf.mk 0 0 [Y5.mk [1,3]],Zf.mk 1 0 [],Zf.mk 0 0 [Y5.mk [1,1,0],Y5.mk [0],Y5.mk [3]],Zf.mk 0 1 []] v13),(45,.i k1)] ?_)
  obtain ⟨x1,Z3⟩:=Zr (xs:=[Zf.mk 0 0 [Y5.mk [1,3]],Zf.mk 1 0 [],Zf.mk 0 0 [Y5.mk [1,1,0],Y5.mk [0],Y5.mk [3]],Zf.mk 0 1 []]) (j:=k1.toNat) (by show k1.toNat<4;omega)
  refine Zq (Zm (some v13) k1 3 (Vk Z3)) (Z1 1 47 (Uo x1) (iL (YW [x1]) 1 3 ?_))
  intro v14
  refine Z5 0 (.n 48 (Zd [x1]) (.p .r)) (DS 2 3 (⟨some ⟨g1,0,none⟩,3,3⟩:Hd) 3 (Zl (YW [Zf.mk 0 0 [Y5.mk [],Y5.mk [0,1]],Zf.mk 0 0 [],Zf.mk 0 0 [Y5.mk [],Y5.mk [3,0,3]]])) (YW [x1]) none rfl (Ka _) (Ds _) (by simp [YW]) (by simp<;>omega) ?_)
  intro v15
  refine ir 1 [(6,.h v15)] (ie (ar (ir 2 [(2,.h v15)] (ie ?_))))
  exact Zb (r1 [0,1] ⟨([J5,Zf.mk 0 0 [],J6]++[x1]),v15,rfl,rfl,(GD.four Z3)⟩ (eq:=(rr (ls:=Zl (YW [Zf.mk 0 0 [Y5.mk [],Y5.mk [0,1]],Zf.mk 0 0 [],Zf.mk 0 0 [Y5.mk [],Y5.mk [3,0,3]]])++Zl (YW [x1])) (FW _ _) (rc rz))))
 refine ak (ar (ir 2 [(2,.ms g1 0 3 3)] (ie ?_)))
 exact Zb (r1 [1,0] ⟨[J5,Zf.mk 0 0 [],J6],(⟨some ⟨g1,0,none⟩,3,3⟩:Hd),rfl,rfl,GD.three⟩ (eq:=(rr (ls:=Zl (YW [Zf.mk 0 0 [Y5.mk [],Y5.mk [0,1]],Zf.mk 0 0 [],Zf.mk 0 0 [Y5.mk [],Y5.mk [3,0,3]]])) rfl (rc rz))))
theorem Sy (rd:Nat) (bs:List Int) (p:Nat) (ZE:∀z∈bs,0<=z/\z<=255) (hp:p+1<=1000000000:=by exact ob):Zi Tryz.prog 143 [.p rd 0] [Yn rd bs p] (fun r h=>∃(ds:List Zf) (v:Value),r=Uj ds v/\h=[.tail v 3,.obj rd [X9 bs,.i (p+1:Nat)]]/\GD ds):=(Lc rd bs p ZE hp).frz (es:=YW) (hs:=fun _=>[.obj rd [X9 bs,.i (p+1:Nat)]]) Ka om
theorem S7 (rd:Nat) (bs:List Int) (p:Nat) (ZE:∀z∈bs,0<=z/\z<=255) (hp:p+5<=1000000000:=by exact ob):Zi Tryz.prog 101 [.p rd 0] [Yn rd bs p] (fun r h=>∃(dz:List Zf) (p2:Nat),r=Zd dz/\h=[Yn rd bs p2]/\AD dz/\p<=p2/\p2<=p+5):=by
 refine ZK 89 Tryz.func101 (ar (ir 1 [(0,.p rd 0)] (ie (ar (Z1 1 5 (.p rd 0) (ic [0] (Lc rd bs p (ZE:=ob)) ?_))))))
 rintro _ _ ⟨ds1,v1,rfl,rfl,ZP⟩
 have hgl:=ZP.len
 have hga:=ZP.ad
 refine DR 0 ds1.length (v:=v1) (AP _) om (fun g1 c1 he1=>?_)
 subst he1
 refine ir 1 [(0,.p rd 0),(3,.ms g1 0 ds1.length c1)] (ie (ar (Yq 2 7 (.p rd 0) 8 (.ms g1 0 ds1.length c1) (io (.i ds1.length) (.i ds1.length) (lr _) (ic [1] (XP rd bs (p+1) (ds1.length:Int) (ZE:=ob)) ?_)))))
 rintro _ _ ⟨k1,rfl,rfl,Y1⟩
 have qhp2:=Y1.lt om
 refine Z1 1 4 (.i k1) (ie (aq (ar (Z1 1 11 (.p rd 0) (ic [0] (XP rd bs ((p+1)+1) 14 (ZE:=ob)) ?_)))))
 rintro _ _ ⟨k2,rfl,rfl,Yy⟩
 have qhp3:=Yy.lt om
 refine ie (ab 0 (ar (Z1 2 13 (.b (k2==0)) (ie (JK (fun F h=>∃(dq:List Zf) (vq:Hd) (pq:Nat),(AD dq)/\(p<=pq/\pq<=p+5)/\F=[(3,.h vq)]/\h=[Yn rd bs pq,rK vq 3 (Zl (YW dq))]) (fun _ _=>rfl) ?_ ?_)))))
 ·refine ac (k2==0) Zh (fun Ze=>?_) (fun Ze=>?_)
  ·refine az (ir 3 [(0,.p rd 0),(3,.ms g1 0 ds1.length c1),(15,.ms g1 0 ds1.length c1),(16,.i k1),(17,.p rd 0)] (iL (Z8 [-1,5,0,2]) 4 1 ?_))
   intro v2
   refine Z5 0 (.n 18 (Z0 [-1,5,0,2]) (.p .r)) (ic [1] (Vw rd bs (((p+1)+1)+1) [-1,5,0,2] (ZE:=ob)) ?_)
   rintro _ _ ⟨z1,rfl,rfl,YK⟩
   refine Z1 1 20 (.p rd 0) (iL (Z8 [0,1,5]) 3 1 ?_)
   intro v3
   refine Z5 0 (.n 21 (Z0 [0,1,5]) (.p .r)) (ic [1] (Vw rd bs ((((p+1)+1)+1)+1) [0,1,5] (ZE:=ob)) ?_)
   rintro _ _ ⟨z2,rfl,rfl,X0⟩
   refine Z1 1 23 (.agg [.i z1,.i z2,nl]) (Zq (W4 g1 ds1.length c1 k1.toNat 3 k1) (Z5 0 (.n 23 (.agg [.i z1,.i z2,.sl [] none]) (.q 24 (.d .r))) (Cw 3 g1 ds1.length c1 3 (k1.toNat * 3) [.i z1,.i z2,.sl [] none] (Zl (YW ds1)) (Zl (YW (ds1.set k1.toNat (Zf.mk z1 z2 [])))) (by rw [AP];simp only [YS,Xm];omega) (DD (Zf.mk z1 z2 []) om) (ie ?_))))
   exact ZW ⟨(ds1.set k1.toNat (Zf.mk z1 z2 [])),(⟨some ⟨g1,0,none⟩,ds1.length,c1⟩:Hd),((((p+1)+1)+1)+1)+1,(hga.set _ (by simp)),ob,rfl,rfl⟩ (wk [1,0] fl)
  refine ar (ir 2 [(0,.p rd 0),(3,.ms g1 0 ds1.length c1),(4,.i k1),(12,.i k2),(25,.b (k2==1))] (ie (ac (k2==1) Zh (fun Zk=>?_) (fun Zk=>?_))))
  ·refine az (Z5 3 (.n 27 (.ms g1 0 ds1.length c1) (.n 28 (.i k1) (.n 29 (.p rd 0) .r))) (iL (Z8 [-1,0,4,5]) 4 1 ?_))
   intro v4
   refine Z5 0 (.n 30 (Z0 [-1,0,4,5]) (.p .r)) (ic [1] (Vw rd bs (((p+1)+1)+1) [-1,0,4,5] (ZE:=ob)) ?_)
   rintro _ _ ⟨z3,rfl,rfl,XB⟩
   refine iL (Z8 [z3]) 1 1 ?_
   intro v5
   refine Z5 0 (.n 32 (Z0 [z3]) (.p .r)) (ZA [] (Ts [z3]) (iL (Z8 [0,0,0,0]) 4 1 ?_))
   intro v6
   refine Z5 0 (.n 34 (Z0 [0,0,0,0]) (.p .r)) (ZA [] (Ts [0,0,0,0]) (iL (Z8 []) 0 1 ?_))
   intro v7
   refine Z5 0 (.n 36 (Z0 []) (.p .r)) (ZA [] (Ts []) (iL (Wx [Y5.mk [z3],Y5.mk [0,0,0,0],Y5.mk []]) 3 1 ?_))
   intro v8
   refine Z1 1 39 (.agg [.i 0,.i 0,QQ [Y5.mk [z3],Y5.mk [0,0,0,0],Y5.mk []] v8]) (Zq (W4 g1 ds1.length c1 k1.toNat 3 k1) (Z5 0 (.n 39 (.agg [.i 0,.i 0,W5 [Y5.mk [z3],Y5.mk [0,0,0,0],Y5.mk []]]) (.q 40 (.d .r))) (Cw 6 g1 ds1.length c1 3 (k1.toNat * 3) [.i 0,.i 0,W5 [Y5.mk [z3],Y5.mk [0,0,0,0],Y5.mk []]] (Zl (YW ds1)) (Zl (YW (ds1.set k1.toNat (Zf.mk 0 0 [Y5.mk [z3],Y5.mk [0,0,0,0],Y5.mk []])))) (by rw [AP];simp only [YS,Xm];omega) (DD (Zf.mk 0 0 [Y5.mk [z3],Y5.mk [0,0,0,0],Y5.mk []]) om) (ie ?_))))
   exact ZW ⟨(ds1.set k1.toNat (Zf.mk 0 0 [Y5.mk [z3],Y5.mk [0,0,0,0],Y5.mk []])),(⟨some ⟨g1,0,none⟩,ds1.length,c1⟩:Hd),(((p+1)+1)+1)+1,(hga.set _ (by simp)),ob,rfl,rfl⟩ (wk [5,0] fl)
  refine ar (Z1 2 41 (.b (k2==2)) (ie (ac (k2==2) Zh (fun ZG=>?_) (fun ZG=>?_))))
  ·refine az (Z5 3 (.n 43 (.ms g1 0 ds1.length c1) (.n 44 (.i k1) (.n 45 (.i k1) .r))) (ia ((k1+1)) ((k1)+(1)) (iL (Z8 [k1+1]) 1 1 ?_)))
   intro v9
   refine Z5 0 (.n 47 (Z0 [k1+1]) (.p .r)) (ZA [] (Ts [k1+1]) (iL (Wx [Y5.mk [k1+1]]) 1 1 ?_))
   intro v10
   refine Z1 1 50 (.agg [.i 0,.i 0,QQ [Y5.mk [k1+1]] v10]) (Zq (W4 g1 ds1.length c1 k1.toNat 3 k1) (Z5 0 (.n 50 (.agg [.i 0,.i 0,W5 [Y5.mk [k1+1]]]) (.q 51 (.d .r))) (Cw 3 g1 ds1.length c1 3 (k1.toNat * 3) [.i 0,.i 0,W5 [Y5.mk [k1+1]]] (Zl (YW ds1)) (Zl (YW (ds1.set k1.toNat (Zf.mk 0 0 [Y5.mk [(k1+1)]])))) (by rw [AP];simp only [YS,Xm];omega) (DD (Zf.mk 0 0 [Y5.mk [(k1+1)]]) om) (ie ?_))))
   exact ZW ⟨(ds1.set k1.toNat (Zf.mk 0 0 [Y5.mk [(k1+1)]])),(⟨some ⟨g1,0,none⟩,ds1.length,c1⟩:Hd),((p+1)+1)+1,(hga.set _ (by simp)),ob,rfl,rfl⟩ (wk [3,0] fl)
  refine ar (Z1 2 52 (.b (k2==3)) (ie (ac (k2==3) Zh (fun Ym=>?_) (fun Ym=>?_))))
  ·refine az (ir 2 [(54,.ms g1 0 ds1.length c1),(55,.p rd 0)] (iL (Z8 [0,2,1]) 3 1 ?_))
   intro v11
   refine Z5 0 (.n 56 (Z0 [0,2,1]) (.p .r)) (ic [1] (Vw rd bs (((p+1)+1)+1) [0,2,1] (ZE:=ob)) ?_)
   rintro _ _ ⟨z4,rfl,rfl,Wk⟩
   refine Z1 1 58 (.agg [.i 2,.i z4,.sl [] none]) (iL (YW [Zf.mk 2 z4 []]) 1 3 ?_)
   intro v12
   refine Z5 0 (.n 59 (Zd [Zf.mk 2 z4 []]) (.p .r)) (DS 3 ds1.length (⟨some ⟨g1,0,none⟩,ds1.length,c1⟩:Hd) 3 (Zl (YW ds1)) (YW [Zf.mk 2 z4 []]) none (AP _) (Ka _) (Ds _) (by simp [YW]) (by simp<;>omega) ?_)
   intro v13
   refine ir 1 [(3,.h v13)] (ie ?_)
   exact ZW ⟨(ds1++[Zf.mk 2 z4 []]),v13,(((p+1)+1)+1)+1,(hga.app (by simp;omega) (by simp)),ob,rfl,rfl⟩ (wk [2,0] fl (e:=(rc (rr (ls:=Zl (YW ds1)++Zl (YW [Zf.mk 2 z4 []])) (FW _ _) rz))))
  refine ar (Z1 2 61 (.b (k2==4)) (ie (ac (k2==4) Zh (fun Xi=>?_) (fun Xi=>?_))))
  ·refine az (Z5 3 (.n 63 (.ms g1 0 ds1.length c1) (.n 64 (.i k1) (.n 65 (.p rd 0) .r))) (ic [0] (XP rd bs (((p+1)+1)+1) 2 (ZE:=ob)) ?_))
   rintro _ _ ⟨k3,rfl,rfl,WJ⟩
   have qhp8:=WJ.lt om
   refine iL (Z8 []) 0 1 ?_
   intro v14
   refine Z5 0 (.n 67 (Z0 []) (.p .r)) (ZA [] (Ts []) (iL (Z8 [2]) 1 1 ?_))
   intro v15
   refine Z5 0 (.n 69 (Z0 [2]) (.p .r)) (ZA [] (Ts [2]) (iL (Z8 []) 0 1 ?_))
   intro v16
   refine Z5 0 (.n 71 (Z0 []) (.p .r)) (ZA [] (Ts []) (iL (Z8 []) 0 1 ?_))
   intro v17
   refine Z5 0 (.n 73 (Z0 []) (.p .r)) (ZA [] (Ts []) (iL (Wx [Y5.mk [],Y5.mk [2],Y5.mk [],Y5.mk []]) 4 1 ?_))
   intro v18
   refine Z1 1 76 (.p rd 0) (ic [5] (XP rd bs ((((p+1)+1)+1)+1) 3 (ZE:=ob)) ?_)
   rintro _ _ ⟨k4,rfl,rfl,V4⟩
   have qhp9:=V4.lt om
   refine Zq (Kl (es:=Wx [Y5.mk [],Y5.mk [2],Y5.mk [],Y5.mk []]) (hv:=some v18) (l:=k4) (m:=(((Wx [Y5.mk [],Y5.mk [2],Y5.mk [],Y5.mk []]).length:Nat):Int)) (sz:=1) (es':=Wx ([Y5.mk [],Y5.mk [2],Y5.mk [],Y5.mk []].drop k4.toNat)) kr om (by simp<;>omega) (by simp<;>omega) (FG _) (by first|(simp only [VR,Vp,FH,FF];done)|(simp only [VR,Vp,FH,FF];rfl)|(simp [FH,FF];done))) (Z1 1 79 (.agg [.i k3,.i 0,W5 ([Y5.mk [],Y5.mk [2],Y5.mk [],Y5.mk []].drop k4.toNat)]) (Zq (W4 g1 ds1.length c1 k1.toNat 3 k1) (Cw 6 g1 ds1.length c1 3 (k1.toNat * 3) [.i k3,.i 0,W5 ([Y5.mk [],Y5.mk [2],Y5.mk [],Y5.mk []].drop k4.toNat)] (Zl (YW ds1)) (Zl (YW (ds1.set k1.toNat (Zf.mk k3 0 ([Y5.mk [],Y5.mk [2],Y5.mk [],Y5.mk []].drop k4.toNat))))) (by rw [AP];simp only [YS,Xm];omega) (DD (Zf.mk k3 0 ([Y5.mk [],Y5.mk [2],Y5.mk [],Y5.mk []].drop k4.toNat)) om) (ie ?_))))
   exact ZW ⟨(ds1.set k1.toNat (Zf.mk k3 0 ([Y5.mk [],Y5.mk [2],Y5.mk [],Y5.mk []].drop k4.toNat))),(⟨some ⟨g1,0,none⟩,ds1.length,c1⟩:Hd),((((p+1)+1)+1)+1)+1,(hga.set _ ⟨by simp,fun c hc=>(by decide:∀c∈[Y5.mk [],Y5.mk [2],Y5.mk [],Y5.mk []],c.fields.length<=4) c (List.mem_of_mem_drop hc)⟩),ob,rfl,rfl⟩ (wk [1,0] fl)
  refine ar (Z1 2 81 (.b (k2==5)) (ie (ac (k2==5) Zh (fun Xj=>?_) (fun Xj=>?_))))
  ·refine az (ir 3 [(83,.ms g1 0 ds1.length c1),(84,.agg [.i 0,.i 0,.sl [] none]),(85,.agg [.i 3,.i 0,.sl [] none])] (iL (YW [Zf.mk 0 0 [],Zf.mk 3 0 []]) 2 3 ?_))
   intro v19
   refine Z5 0 (.n 86 (Zd [Zf.mk 0 0 [],Zf.mk 3 0 []]) (.p .r)) (DS 2 ds1.length (⟨some ⟨g1,0,none⟩,ds1.length,c1⟩:Hd) 3 (Zl (YW ds1)) (YW [Zf.mk 0 0 [],Zf.mk 3 0 []]) none (AP _) (Ka _) (Ds _) (by simp [YW]) (by simp<;>omega) ?_)
   intro v20
   refine ir 1 [(3,.h v20)] (ie ?_)
   exact ZW ⟨(ds1++[Zf.mk 0 0 [],Zf.mk 3 0 []]),v20,((p+1)+1)+1,(hga.app (by simp;omega) (by simp)),ob,rfl,rfl⟩ (wk [2,0] fl (e:=(rc (rr (ls:=Zl (YW ds1)++Zl (YW [Zf.mk 0 0 [],Zf.mk 3 0 []])) (FW _ _) rz))))
  refine ak ?_
  exact ZW ⟨ds1,(⟨some ⟨g1,0,none⟩,ds1.length,c1⟩:Hd),((p+1)+1)+1,hga,ob,rfl,rfl⟩ (wk [0,0] fl)
 rintro F h ⟨dq,vq,pq,QM,Gr,rfl,rfl⟩
 refine ar (ir 2 [(2,.h vq)] (ie (Z2g 2 1 (v:=vq) (YW dq) (Ka _) ?_)))
 exact Zb (r2 [1] [Uj dq vq.v] ⟨dq,pq,rfl,rfl,⟨QM,Gr⟩⟩ (Zg.forget _ _))
theorem Z7d (ds:List Zf) (n:Nat) (hz:J1 ds:=by exact ob) (hn:n<ds.length:=by exact ob):Zi Tryz.prog 172 [Zd ds,.i n] [] (fun r h=>r=.b (JV ds n)/\h=[]):=by
 have hl_ds:ds.length<=4294967296:=by have:=hz.len;omega
 refine ZK 100 Tryz.func172 (ar (ir 1 [(0,Zd ds),(1,.i n)] (ie (ar (Yq 2 8 (Zd ds) 9 (.i n) ?_)))))
 obtain ⟨x1,Z3⟩:=Zr (xs:=ds) (j:=n) om
 have hdo:=Cd Z3
 have hz1:=hz.cons_at Z3
 refine Zq (Zm none (n:Int) 3 (Vk Z3)) (Z1 1 11 (Uo x1) (iA [.i 0,.i 0,nl] ?_))
 intro b1
 refine ZF 0 b1 (Wt x1) (ie (aq (ar (Yl 2 13 (W5 x1.cons) [0] [b1] (iw (Ud x1.cons) (Z1 1 15 (.b (decide ((x1.cons.length:Int)>0))) (ie (ZM ((x1.cons.length:Int)>0) (fun Ze=>?_) (fun Ze=>?_)))))))))
 ·refine aq (ar (Yl 2 17 (W5 x1.cons) [0] [b1] (iw (Ud x1.cons) (XQ 9 [(0,Zd ds),(5,.p b1 0),(24,.b ((decide ((x1.cons.length:Int)>3))||(x1.frm != 0)))] [.obj b1 (Wt x1)] ?_ (fun hj1=>?_)))))
  ·refine Xo [(0,Zd ds),(5,.p b1 0),(29,.b (((decide ((x1.cons.length:Int)>3))||(x1.frm != 0))||(x1.to_ != 0)))] [.obj b1 (Wt x1)] ?_ ?_
   ·refine ir 1 [(0,Zd ds),(5,.p b1 0),(25,.b ((decide ((x1.cons.length:Int)>3))||(x1.frm != 0)))] (ib (b:=((decide ((x1.cons.length:Int)>3))||(x1.frm != 0))) 25 (fun Za=>?_) (fun Za=>?_))
    ·have ZP:((x1.cons.length:Int)>3)∨(x1.frm≠0):=((Yo dq Yi)).1 Za
     refine Z5 4 (.n 29 (.b true) (.d (.k (.k .z)))) (ie ?_)
     exact wk [0] (fw (Zu true Za fl))
    have Y1:¬(((x1.cons.length:Int)>3)∨(x1.frm≠0)):=ZI (Yo dq Yi) Za
    refine Y2 4 (.n 29 (.b (x1.to_ != 0)) (.d (.k (.k .z)))) [0] [b1] (ie ?_)
    exact wk [0] (fw (Zu (x1.to_ != 0) Za fl))
   refine ac (((decide ((x1.cons.length:Int)>3))||(x1.frm != 0))||(x1.to_ != 0)) (p:=(((x1.cons.length:Int)>3)∨(x1.frm≠0))∨(x1.to_≠0)) (Yo (Yo dq Yi) Yi) (fun Zk=>?_) (fun Zk=>?_)
   ·refine ar (ir 1 [(4,.b false)] (ie ?_))
    exact Zb (r2 [] [.b false] ⟨rfl,rfl⟩ (lb (by clear Z3;first|rfl|omega|grind [U3])))
   refine ak (aq (ar (ir 1 [(0,Zd ds),(5,.p b1 0),(6,.i 0)] (ie (ab 0 (al (fun m F h=>∃(k:Nat),(k<=x1.cons.length)/\(UY ds.length (x1.cons.drop k)=UY ds.length x1.cons)/\F=[(0,Zd ds),(5,.p b1 0),(6,.i k)]/\h=[.obj b1 (Wt x1)]/\m=x1.cons.length-k) _ _ _ ⟨0,ob,ob,rfl,rfl,rfl⟩ (wk [0] (fw (Ya fl))) ?_))))))
   rintro m F h ⟨k,Yj,Zp,rfl,rfl,rfl⟩
   refine aq (ar (ZY 3 30 (.i k) 32 (W5 x1.cons) [0] [b1] (iw (Ud x1.cons) (Z1 1 34 (.b (decide ((k:Int)<(x1.cons.length:Int)))) (ie (ZM ((k:Int)<(x1.cons.length:Int)) (fun ZG=>?_) (fun ZG=>?_)))))))
   ·refine ak (aq (ab 1 (ar (ZY 3 38 (W5 x1.cons) 39 (.i k) [0] [b1] ?_))))
    obtain ⟨x2,Zt⟩:=Zr (xs:=x1.cons) (j:=k) om
    refine Zq (Zm none (k:Int) 1 (Bo Zt)) (Z1 2 42 (Z0 x2.fields) (iw (Yh x2.fields) (Xo [(0,Zd ds),(5,.p b1 0),(6,.i k),(55,.b ((decide ((x2.fields.length:Int)>3))||(!XJ ds.length x2.fields)))] [.obj b1 (Wt x1)] ?_ ?_)))
    ·refine ir 2 [(0,Zd ds),(5,.p b1 0),(6,.i k),(45,.b (decide ((x2.fields.length:Int)>3)))] (ib (b:=(decide ((x2.fields.length:Int)>3))) 45 (fun Zz=>?_) (fun Zz=>?_))
     ·have Yy:(x2.fields.length:Int)>3:=(dq).1 Zz
      refine Z5 10 (.n 55 (.b true) (.d (.k (.k (.k .z))))) (ie ?_)
      exact wk [0] (fw (fr (Zu true Zz fl)))
     have YK:¬((x2.fields.length:Int)>3):=ZI dq Zz
     refine Y2 4 (.n 46 (Zd ds) (.n 48 (W5 x1.cons) (.n 49 (.i k) (.w .z)))) [0] [b1] (Zq (Zm none (k:Int) 1 (Bo Zt)) (Z1 2 52 (Z0 x2.fields) (ZA [] (NA ds x2.fields) (Z1 2 55 (.b (!XJ ds.length x2.fields)) (ie ?_)))))
     exact wk [0] (fw (fr (Zu (!XJ ds.length x2.fields) Zz fl)))
    refine ac ((decide ((x2.fields.length:Int)>3))||(!XJ ds.length x2.fields)) (p:=((x2.fields.length:Int)>3)∨(¬(XJ ds.length x2.fields=true))) (Yo dq (Yw Iff.rfl)) (fun Ym=>?_) (fun Ym=>?_)
    ·refine ar (ir 1 [(4,.b false)] (ie ?_))
     rw [Y8 Zt] at Zp
     exact Zb (r2 [] [.b false] ⟨rfl,rfl⟩ (lb (by clear Z3 Zt;first|rfl|omega|grind [UY,K8,U3])))
    refine ak (az (ir 1 [(0,Zd ds),(5,.p b1 0),(35,.i k)] (ZL k (Z1 1 6 (.i (k+1:Nat)) (ie ?_)))))
    have hdr:=Y8 Zt
    exact ZO ⟨k+1,ob,(by rw [hdr] at Zp;clear hdr Z3 Zt;grind [UY,K8]),rfl,rfl,rfl⟩ (wk [0] (fw (ZQ k fl)))
   refine ax 0 (ar (ir 1 [(4,.b true)] (ie ?_)))
   try rw [Xb (xs:=x1.cons) (k:=k) om] at Zp
   exact Zb (r2 [] [.b true] ⟨rfl,rfl⟩ (lb (by clear Z3;first|rfl|omega|grind [UY,K8,U3])))
  refine ir 2 [(0,Zd ds),(5,.p b1 0),(20,.b (decide ((x1.cons.length:Int)>3)))] (ib (b:=(decide ((x1.cons.length:Int)>3))) 20 (fun YE=>?_) (fun YE=>?_))
  ·have X0:(x1.cons.length:Int)>3:=(dq).1 YE
   refine Z5 4 (.n 24 (.b true) (.d (.k (.k .z)))) ?_
   exact YG (wk [0] (fw (Zu true YE fl))) hj1
  have XB:¬((x1.cons.length:Int)>3):=ZI dq YE
  refine Y2 4 (.n 24 (.b (x1.frm != 0)) (.d (.k (.k .z)))) [0] [b1] ?_
  exact YG (wk [0] (fw (Zu (x1.frm != 0) YE fl))) hj1
 refine ak (aq (ar (Z1 1 7 (.i 0) (ie (ab 2 (al (fun m F h=>∃(j:Nat),(j<=n)/\(TX x1 ((ds.take n).drop j)=TX x1 (ds.take n))/\F=[(0,Zd ds),(1,.i n),(5,.p b1 0),(7,.i j)]/\h=[.obj b1 (Wt x1)]/\m=n-j) _ _ _ ⟨0,ob,ob,rfl,rfl,rfl⟩ (wk [0] (fw (fr (Ya fl)))) ?_))))))
 rintro m F h ⟨j,VS,XH,rfl,rfl,rfl⟩
 refine aq (ar (Z1 3 58 (.b (decide ((j:Int)<(n:Int)))) (ie (ZM ((j:Int)<(n:Int)) (fun Xi=>?_) (fun Xi=>?_)))))
 ·refine ak (aq (ab 3 (aD 27 (Y0 25 27 [0,1] (.n 61 (Zd ds) (.n 62 (.i j) .r)) ?_))))
  obtain ⟨x3,YT⟩:=Zr (xs:=ds) (j:=j) om
  refine dx 2 (Zm none (j:Int) 3 (Vk YT)) (ZZ 22 24 [3,4] 65 (W5 x3.cons) (dw 5 (Ud x3.cons) (JU [(0,Zd ds),(1,.i n),(5,.p b1 0),(7,.i j),(87,.b (((x3.cons.length:Int)==0)&&((x3.frm==x1.frm)&&(x3.to_==x1.to_))))] [.obj b1 (Wt x1)] ?_ ?_)))
  ·refine Xa 19 21 [6,7] [(0,Zd ds),(1,.i n),(5,.p b1 0),(7,.i j),(68,.b ((x3.cons.length:Int)==0))] (db (b:=((x3.cons.length:Int)==0)) 68 (fun Xf=>?_) (fun Xf=>?_))
   ·have Wk:(x3.cons.length:Int)=0:=(Zh).1 Xf
    refine Y0 17 19 [8,9] (.n 69 (Zd ds) (.n 70 (.i j) (.w (.k .z)))) (dx 10 (Zm none (j:Int) 3 (Vk YT)) (Y6 9 16 [11,12,13,14,15,16,17] (.n 78 (.b (x3.frm==x1.frm)) .r) [0] [b1] (db (b:=(x3.frm==x1.frm)) 78 (fun Wb=>?_) (fun Wb=>?_))))
    ·have WJ:x3.frm=x1.frm:=(Zh).1 Wb
     refine Y0 7 9 [18,19] (.n 79 (Zd ds) (.n 80 (.i j) (.k (.d .r)))) (dx 20 (Zm none (j:Int) 3 (Vk YT)) (Y6 0 6 [21,22,23,24,25,26] (.n 87 (.b (x3.to_==x1.to_)) .r) [0] [b1] (de ?_)))
     exact wk [0] (fq (Zu (x3.to_==x1.to_) (And.intro Xf Wb) fl))
    have V4:¬(x3.frm=x1.frm):=ZI Zh Wb
    refine Y0 0 9 [18,19,20,21,22,23,24,25,26] (.n 87 (.b false) (.k (.d .r))) (de ?_)
    exact wk [0] (fq (Zu false (And.intro Xf Wb) fl))
   have Ug:¬((x3.cons.length:Int)=0):=ZI Zh Xf
   refine Y0 0 19 [8,9,10,11,12,13,14,15,16,17,18,19,20,21,22,23,24,25,26] (.n 87 (.b false) (.d (.w .z))) (de ?_)
   exact wk [0] (fq (Zu false Xf fl))
  refine ac (((x3.cons.length:Int)==0)&&((x3.frm==x1.frm)&&(x3.to_==x1.to_))) (p:=((x3.cons.length:Int)=0)/\((x3.frm=x1.frm)/\(x3.to_=x1.to_))) (YD Zh (YD Zh Zh)) (fun Xj=>?_) (fun Xj=>?_)
  ·refine ar (ir 1 [(4,.b false)] (ie ?_))
   rw [Y8 (show (ds.take n)[j]? = some x3 by rw [Qd,Zo om];exact YT),TX,Zo om] at XH
   exact Zb (r2 [] [.b false] ⟨rfl,rfl⟩ (lb (by clear Z3 YT;first|rfl|omega|grind [U3])))
  refine ak (az (ir 1 [(0,Zd ds),(1,.i n),(5,.p b1 0),(59,.i j)] (ZL j (hb:=(by have:=hz.len;omega)) (Z1 1 7 (.i (j+1:Nat)) (ie ?_)))))
  have hdr:=Y8 YT
  exact ZO ⟨j+1,ob,(by rw [Y8 (show (ds.take n)[j]? = some x3 by rw [Qd,Zo om];exact YT),TX,Zc om] at XH;exact XH),rfl,rfl,rfl⟩ (wk [0] (fw (fr (ZQ j fl))))
 refine ax 2 (ar (ZY 3 89 (.i x1.frm) 90 (Zd ds) [0] [b1] (iw (VU ds) (ZA [] (UC x1.frm 0 (ds.length:Int)) (XQ 12 [(99,.b ((decide (0<=x1.frm/\x1.frm<=(ds.length:Int)))&&(decide (0<=x1.to_/\x1.to_<=(ds.length:Int)))))] [.obj b1 (Wt x1)] ?_ (fun hj2=>?_))))))
 ·refine ir 1 [(4,.b ((decide (0<=x1.frm/\x1.frm<=(ds.length:Int)))&&(decide (0<=x1.to_/\x1.to_<=(ds.length:Int)))))] (ie ?_)
  rw [Xb (show (ds.take n).length<=j by rw [Ww];omega),TX] at XH
  exact Zb (r2 [] [.b ((decide (0<=x1.frm/\x1.frm<=(ds.length:Int)))&&(decide (0<=x1.to_/\x1.to_<=(ds.length:Int))))] ⟨rfl,rfl⟩ (lb (by clear Z3;first|rfl|omega|grind [U3])))
 refine ir 1 [(0,Zd ds),(5,.p b1 0),(93,.b (decide (0<=x1.frm/\x1.frm<=(ds.length:Int))))] (ib (b:=(decide (0<=x1.frm/\x1.frm<=(ds.length:Int)))) 93 (fun WC=>?_) (fun WC=>?_))
 ·have UM:0<=x1.frm/\x1.frm<=(ds.length:Int):=(dq).1 WC
  refine Y2 3 (.n 95 (.i x1.to_) (.n 96 (Zd ds) (.k .z))) [0] [b1] (iw (VU ds) (ZA [] (UC x1.to_ 0 (ds.length:Int)) (ir 1 [(99,.b (decide (0<=x1.to_/\x1.to_<=(ds.length:Int))))] ?_)))
  exact YG (wk [0] (Zu (decide (0<=x1.to_/\x1.to_<=(ds.length:Int))) WC fl)) hj2
 have Uw:¬(0<=x1.frm/\x1.frm<=(ds.length:Int)):=ZI dq WC
 refine ir 6 [(99,.b false)] ?_
 exact YG (wk [0] (Zu false WC fl)) hj2
theorem Z7i (ds:List Zf) (hz:J1 ds:=by exact ob):Zi Tryz.prog 133 [Zd ds] [] (fun r h=>r=.b (Wh ds)/\h=[]):=by
 have hzl:=hz.len
 refine ZK 17 Tryz.func133 (ar (ir 1 [(0,Zd ds)] (ie (aq (ar (Z1 1 4 (Zd ds) (iw (VU ds) (Z1 1 6 (.b (decide ((ds.length:Int)>4))) (ie (ZM ((ds.length:Int)>4) (fun Ze=>?_) (fun Ze=>?_)))))))))))
 ·refine ar (ir 1 [(2,.b false)] (ie ?_))
  exact Zb (r2 [] [.b false] ⟨rfl,rfl⟩ (lb (by first|rfl|omega|grind [Wh])))
 refine ak (aq (ar (Z1 1 3 (.i 0) (ie (ab 0 (al (fun m F h=>∃(k:Nat),(k<=ds.length)/\(Uq ds (ds.drop k) k=Uq ds ds 0)/\F=[(0,Zd ds),(3,.i k)]/\h=[]/\m=ds.length-k) _ _ _ ⟨0,ob,ob,rfl,rfl,rfl⟩ (wk [] (fr (Ya fl))) ?_))))))
 rintro m F h ⟨k,Yj,Zp,rfl,rfl,rfl⟩
 refine aq (ar (Yq 2 7 (.i k) 8 (Zd ds) (iw (VU ds) (Z1 1 10 (.b (decide ((k:Int)<(ds.length:Int)))) (ie (ZM ((k:Int)<(ds.length:Int)) (fun Zk=>?_) (fun Zk=>?_)))))))
 ·refine ak (aq (ab 1 (ar (Yq 2 13 (Zd ds) 14 (.i k) (ZA [] (Z7d ds k) (Z1 1 16 (.b (!JV ds k)) (ie (ac (!JV ds k) (p:=¬(JV ds k=true)) (Yw Iff.rfl) (fun ZG=>?_) (fun ZG=>?_)))))))))
  ·refine ar (ir 1 [(2,.b false)] (ie ?_))
   try rw [Xb (xs:=ds) (k:=k) om] at Zp
   obtain ⟨x1,Z3⟩:=Zr (xs:=ds) (j:=k) om
   rw [Y8 Z3] at Zp
   exact Zb (r2 [] [.b false] ⟨rfl,rfl⟩ (lb (by first|rfl|omega|grind [Uq,Wh])))
  refine ak (az (Z1 1 11 (.i k) (ZL k (ir 1 [(0,Zd ds),(3,.i (k+1:Nat))] (ie ?_)))))
  obtain ⟨x1,Z3⟩:=Zr (xs:=ds) (j:=k) om
  have hdr:=Y8 Z3
  exact ZO ⟨k+1,ob,(by rw [hdr] at Zp;clear hdr ;grind [Uq]),rfl,rfl,rfl⟩ (wk [] (fr (ZQ k fl)))
 refine ax 0 (ar (ir 1 [(2,.b true)] (ie ?_)))
 try rw [Xb (xs:=ds) (k:=k) om] at Zp
 exact Zb (r2 [] [.b true] ⟨rfl,rfl⟩ (lb (by first|rfl|omega|grind [Uq,Wh])))
theorem Z75 (n:Zx) (hz:n.routines.length<=4194304:=by exact ob):Zi Tryz.prog 95 [ZD n] [] (fun r h=>r=.agg [Zd n.decls,.sl (Wp (n.routines.map VA)) none]/\h=[]):=by
 refine ZK 35 Tryz.func95 (ar (iA (ZU n) ?_))
 intro b1
 refine iA [nl,nl] ?_
 intro b2
 refine ie (ar (iR 2 [(1,.p b1 0),(2,.p b2 0),(6,Zd n.decls)] [1] [b1] (iL (Wp []) 0 5 ?_)))
 intro v1
 refine Z1 1 8 (.agg [Zd n.decls,.sl (Wp []) (some v1)]) (iA [nl,nl] ?_)
 intro b3
 refine ZF 0 b3 [Zd n.decls,.sl (Wp []) (some v1)] (ie (aq (ar (Z1 1 4 (.i 0) (ie (ab 0 (al (fun m F h=>∃(k:Nat) (v:Value),(k<=n.routines.length)/\F=[(1,.p b1 0),(2,.p b2 0),(3,.p b3 0),(4,.i k)]/\h=[.obj b3 [Zd n.decls,.sl (Wp ((n.routines.take k).map VA)) (some v)],.obj b2 [nl,nl],.obj b1 (ZU n),.tail v 5]/\m=n.routines.length-k) _ _ _ ⟨0,v1,ob,rfl,rfl,rfl⟩ (wk [0,1,1,0] (fw (fr (Ya fl)))) ?_)))))))
 rintro m F h ⟨k,v,Yj,rfl,rfl,rfl⟩
 refine aq (ar (ZY 3 9 (.i k) 11 (YZ n.routines) [2] [b1] (iw (VV n.routines) (Z1 1 13 (.b (decide ((k:Int)<(n.routines.length:Int)))) (ie (ZM ((k:Int)<(n.routines.length:Int)) (fun Ze=>?_) (fun Ze=>?_)))))))
 ·refine ak (aq (ab 1 (aE 19 (Y6 14 19 [0,1,2,3,4] (.n 17 (.sl (Wp ((n.routines.take k).map VA)) (some v)) (.n 19 (YZ n.routines) (.n 20 (.i k) .r))) [0,2] [b3,b1] ?_))))
  obtain ⟨x1,Z3⟩:=Zr (xs:=n.routines) (j:=k) om
  refine dx 5 (Zm none (k:Int) 5 (WB Z3)) (Y6 8 13 [6,7,8,9,10] (.n 23 (Z0 x1.params) (.n 25 (YZ n.routines) (.n 26 (.i k) .r))) [2] [b1] (dx 11 (Zm none (k:Int) 5 (WB Z3)) (ZZ 4 7 [12,13,14] 30 (.agg [Z0 x1.params,.i x1.result,.i 0,.i 0,.sl [] none]) (Z9 15 (dL 15 [0] [b3] (Wp [Sg.mk x1.params x1.result]) 1 5 ?_)))))
  intro v2
  refine Y0 3 3 [] (.n 31 (.sl (Wp [Sg.mk x1.params x1.result]) none) (.p .r)) (Z9 16 (dp 16 4 [] [] (Wp ((n.routines.take (k+1)).map VA)) (Wp ((n.routines.take k).map VA)) (Wp [Sg.mk x1.params x1.result]) v none 5 (Ix _) (Ix _) (RB _) (by simp<;>omega) (by rw [WM Z3];simp [Wp,VA]) ?_))
  intro v3
  refine ZZ 1 2 [17] 33 (.p b3 1) (Z9 18 (YL 18 2 [] [] b3 [Zd n.decls,.sl (Wp ((n.routines.take (k+1)).map VA)) (some v3)] (de (az (Z1 1 14 (.i k) (ZL k (ir 1 [(1,.p b1 0),(2,.p b2 0),(3,.p b3 0),(4,.i (k+1:Nat))] (ie ?_))))))))
  have hdr:=Y8 Z3
  exact ZO ⟨k+1,v3,ob,rfl,rfl,rfl⟩ (wk [0,2,2,0] (fw (fr (ZQ k fl))))
 refine ax 0 (ar (Yl 1 34 (.agg [Zd n.decls,.sl (Wp ((n.routines.take k).map VA)) (some v)]) [0] [b3] (ZF 1 b2 [Zd n.decls,.sl (Wp ((n.routines.take k).map VA)) (some v)] (ie ?_))))
 exact Zb (r3 [] [.agg [Zd n.decls,.sl (Wp ((n.routines.take k).map VA)) (some v)]] [0] [(b2,b2)] ⟨rfl,rfl⟩ (Zg.agg (.cons (lr _) (.cons (Zg.sl _ (Yx Wp (by rw [show k=n.routines.length by omega,Vp]))) .nil))))
theorem Z7h (ds:List Zf) (fs:List Sg) (hz:J1 ds:=by exact ob) (hf:∀f∈fs,f.params.length<=4194304):Zi Tryz.prog 94 [.agg [Zd ds,.sl (Wp fs) none]] [] (fun r h=>r=.b (Qb ds fs)/\h=[]):=by
 have hzl:=hz.len
 refine ZK 64 Tryz.func94 (ar (iA [Zd ds,.sl (Wp fs) none] ?_))
 intro b1
 refine ir 1 [(1,.p b1 0)] (ie (aq (ar (Yl 2 6 (Zd ds) [0] [b1] (ZA [] (Z7i ds) (Xo [(1,.p b1 0),(15,.b ((!Wh ds)||(!(decide (1<=(fs.length:Int)/\(fs.length:Int)<=4)))))] [.obj b1 [Zd ds,.sl (Wp fs) none]] ?_ ?_))))))
 ·refine ir 2 [(1,.p b1 0),(9,.b (!Wh ds))] (ib (b:=(!Wh ds)) 9 (fun Za=>?_) (fun Za=>?_))
  ·have ZP:¬(Wh ds=true):=((Yw Iff.rfl)).1 Za
   refine ir 6 [(1,.p b1 0),(15,.b true)] (ie ?_)
   exact wk [0] (fr (Zu true Za fl))
  have Y1:¬(¬(Wh ds=true)):=ZI (Yw Iff.rfl) Za
  refine Y2 2 (.n 11 (.sl (Wp fs) none) (.k (.k .z))) [0] [b1] (iw (Iy fs) (ZA [] (UC (fs.length:Int) 1 4) (Z1 2 15 (.b (!(decide (1<=(fs.length:Int)/\(fs.length:Int)<=4)))) (ie ?_))))
  exact wk [0] (fr (Zu (!(decide (1<=(fs.length:Int)/\(fs.length:Int)<=4))) Za fl))
 refine ac ((!Wh ds)||(!(decide (1<=(fs.length:Int)/\(fs.length:Int)<=4)))) (p:=(¬(Wh ds=true))∨(¬(1<=(fs.length:Int)/\(fs.length:Int)<=4))) (Yo (Yw Iff.rfl) (Yw dq)) (fun Ze=>?_) (fun Ze=>?_)
 ·refine ar (ir 1 [(2,.b false)] (ie ?_))
  exact Zb (r2 [] [.b false] ⟨rfl,rfl⟩ (lb (by first|rfl|omega|grind [Qb])))
 refine ak (aq (ar (ir 1 [(1,.p b1 0),(3,.i 0)] (ie (ab 0 (al (fun m F h=>∃(k:Nat),(k<=fs.length)/\(QV ds.length (fs.drop k)=QV ds.length fs)/\F=[(1,.p b1 0),(3,.i k)]/\h=[.obj b1 [Zd ds,.sl (Wp fs) none]]/\m=fs.length-k) _ _ _ ⟨0,ob,ob,rfl,rfl,rfl⟩ (wk [0] (fr (Ya fl))) ?_))))))
 rintro m F h ⟨k,Yj,Zp,rfl,rfl,rfl⟩
 refine aq (ar (ZY 3 16 (.i k) 18 (.sl (Wp fs) none) [0] [b1] (iw (Iy fs) (Z1 1 20 (.b (decide ((k:Int)<(fs.length:Int)))) (ie (ZM ((k:Int)<(fs.length:Int)) (fun Zk=>?_) (fun Zk=>?_)))))))
 ·refine ak (aq (ab 1 (ar (ZY 3 24 (.sl (Wp fs) none) 25 (.i k) [0] [b1] ?_))))
  obtain ⟨x1,Z3⟩:=Zr (xs:=fs) (j:=k) om
  refine Zq (Zm none (k:Int) 5 (FL Z3)) (Z1 1 27 (.agg [Z0 x1.params,.i x1.result,.i 0,.i 0,.sl [] none]) (iA [nl,.i 0,.i 0,.i 0,nl] ?_))
  intro b2
  refine ZF 0 b2 [Z0 x1.params,.i x1.result,.i 0,.i 0,.sl [] none] (ie (ar (Yl 2 29 (Z0 x1.params) [0] [b2] (iw (Yh x1.params) (XQ 12 [(1,.p b1 0),(3,.i k),(4,.p b2 0),(39,.b ((decide ((x1.params.length:Int)>3))||(!XJ ds.length x1.params)))] [.obj b2 [Z0 x1.params,.i x1.result,.i 0,.i 0,.sl [] none],.obj b1 [Zd ds,.sl (Wp fs) none]] ?_ (fun hj1=>?_))))))
  ·refine Xo [(1,.p b1 0),(3,.i k),(48,.b (((decide ((x1.params.length:Int)>3))||(!XJ ds.length x1.params))||(!(decide (0<=x1.result/\x1.result<=(ds.length:Int))))))] [.obj b2 [Z0 x1.params,.i x1.result,.i 0,.i 0,.sl [] none],.obj b1 [Zd ds,.sl (Wp fs) none]] ?_ ?_
   ·refine ir 1 [(1,.p b1 0),(3,.i k),(4,.p b2 0),(40,.b ((decide ((x1.params.length:Int)>3))||(!XJ ds.length x1.params)))] (ib (b:=((decide ((x1.params.length:Int)>3))||(!XJ ds.length x1.params))) 40 (fun Zz=>?_) (fun Zz=>?_))
    ·have Yy:((x1.params.length:Int)>3)∨(¬(XJ ds.length x1.params=true)):=((Yo dq (Yw Iff.rfl))).1 Zz
     refine Z5 8 (.n 48 (.b true) (.d (.k (.k .z)))) (ie ?_)
     exact wk [0,0] (fw (Zu true Zz fl))
    have YK:¬(((x1.params.length:Int)>3)∨(¬(XJ ds.length x1.params=true))):=ZI (Yo dq (Yw Iff.rfl)) Zz
    refine Y2 4 (.n 42 (.i x1.result) (.n 44 (Zd ds) (.k (.k (.k .z))))) [0,1] [b2,b1] (iw (VU ds) (ZA [] (UC x1.result 0 (ds.length:Int)) (Z1 2 48 (.b (!(decide (0<=x1.result/\x1.result<=(ds.length:Int))))) (ie ?_))))
    exact wk [0,0] (fw (Zu (!(decide (0<=x1.result/\x1.result<=(ds.length:Int)))) Zz fl))
   refine ac (((decide ((x1.params.length:Int)>3))||(!XJ ds.length x1.params))||(!(decide (0<=x1.result/\x1.result<=(ds.length:Int))))) (p:=(((x1.params.length:Int)>3)∨(¬(XJ ds.length x1.params=true)))∨(¬(0<=x1.result/\x1.result<=(ds.length:Int)))) (Yo (Yo dq (Yw Iff.rfl)) (Yw dq)) (fun ZG=>?_) (fun ZG=>?_)
   ·refine ar (ir 1 [(2,.b false)] (ie ?_))
    rw [Y8 Z3] at Zp
    exact Zb (r2 [] [.b false] ⟨rfl,rfl⟩ (lb (by clear Z3;first|rfl|omega|grind [QV,QU,Qb])))
   refine ak (az (ir 1 [(1,.p b1 0),(21,.i k)] (ZL k (Z1 1 3 (.i (k+1:Nat)) (ie ?_)))))
   have hdr:=Y8 Z3
   exact ZO ⟨k+1,ob,(by rw [hdr] at Zp;clear hdr Z3;grind [QV,QU]),rfl,rfl,rfl⟩ (wk [1] (fr (ZQ k fl)))
  refine ir 2 [(1,.p b1 0),(3,.i k),(4,.p b2 0),(32,.b (decide ((x1.params.length:Int)>3)))] (ib (b:=(decide ((x1.params.length:Int)>3))) 32 (fun YE=>?_) (fun YE=>?_))
  ·have X0:(x1.params.length:Int)>3:=(dq).1 YE
   refine Z5 7 (.n 39 (.b true) (.d (.k (.k (.k .z))))) ?_
   exact YG (wk [0,0] (fw (fr (Zu true YE fl)))) hj1
  have XB:¬((x1.params.length:Int)>3):=ZI dq YE
  refine Y2 4 (.n 34 (Zd ds) (.n 36 (Z0 x1.params) (.w .z))) [1,0] [b1,b2] (ZA [] (NA ds x1.params) (Z1 2 39 (.b (!XJ ds.length x1.params)) ?_))
  exact YG (wk [0,0] (fw (fr (Zu (!XJ ds.length x1.params) YE fl)))) hj1
 refine ax 0 (ar (Yl 2 50 (.sl (Wp fs) none) [0] [b1] ?_))
 obtain ⟨x2,Zt⟩:=Zr (xs:=fs) (j:=0) om
 have hfo:=RR Zt
 refine Zq (Zm none 0 5 (FL Zt)) (Z1 2 53 (Z0 x2.params) (iw (Yh x2.params) (XQ 15 [(63,.b (((x2.params.length:Int)==0)&&(x2.result==0)))] [.obj b1 [Zd ds,.sl (Wp fs) none]] ?_ (fun hj2=>?_))))
 ·refine ir 1 [(2,.b (((x2.params.length:Int)==0)&&(x2.result==0)))] (ie ?_)
  try rw [Xb (xs:=fs) (k:=k) om] at Zp
  exact Zb (r2 [] [.b (((x2.params.length:Int)==0)&&(x2.result==0))] ⟨rfl,rfl⟩ (lb (by clear Zt;first|rfl|omega|grind [QV,QU,Qb])))
 refine ir 2 [(1,.p b1 0),(56,.b ((x2.params.length:Int)==0))] (ib (b:=((x2.params.length:Int)==0)) 56 (fun Xf=>?_) (fun Xf=>?_))
 ·have Wk:(x2.params.length:Int)=0:=(Zh).1 Xf
  refine Y2 2 (.n 58 (.sl (Wp fs) none) (.k .z)) [0] [b1] (Zq (Zm none 0 5 (FL Zt)) (ir 4 [(63,.b (x2.result==0))] ?_))
  exact YG (wk [0] (Zu (x2.result==0) Xf fl)) hj2
 have WJ:¬((x2.params.length:Int)=0):=ZI Zh Xf
 refine ir 7 [(63,.b false)] ?_
 exact YG (wk [0] (Zu false Xf fl)) hj2
theorem Z7f (ps:List Int) (ls:List Int) (hl_ps:ps.length<=4294967296:=by exact ob) (hl_ls:ls.length<=4294967296:=by exact ob):Zi Tryz.prog 96 [Z0 ps,Z0 ls] [] (fun r h=>r=.b (K1 ps ls)/\h=[]):=by
 refine ZK 47 Tryz.func96 (ar (ir 1 [(0,Z0 ps),(1,Z0 ls)] (ie (aq (ar (Z1 1 5 (.i 0) (ie (ab 0 (al (fun m F h=>∃(k:Nat),(k<=ls.length)/\(Qp ps (ls.drop k) (if k=0 then none else ls[k-1]?)=K1 ps ls)/\F=[(0,Z0 ps),(1,Z0 ls),(5,.i k)]/\h=[]/\m=ls.length-k) _ _ _ ⟨0,ob,ob,rfl,rfl,rfl⟩ (wk [] (fw (Ya fl))) ?_)))))))))
 rintro m F h ⟨k,Yj,Zp,rfl,rfl,rfl⟩
 refine aq (ar (Yq 2 6 (.i k) 7 (Z0 ls) (iw (Yh ls) (Z1 1 9 (.b (decide ((k:Int)<(ls.length:Int)))) (ie (ZM ((k:Int)<(ls.length:Int)) (fun Ze=>?_) (fun Ze=>?_)))))))
 ·refine ak (aq (ab 1 (aD 35 (Y0 33 35 [0,1] (.n 12 (Z0 ls) (.n 13 (.i k) .r)) ?_))))
  obtain ⟨x1,Z3⟩:=Zr (xs:=ls) (j:=k) om
  refine dx 2 (Zm none (k:Int) 1 (Y4 Z3)) (Y0 30 32 [3,4] (.n 15 (.i x1) (.n 16 (Z0 ps) .r)) (dw 5 (Yh ps) (da 6 (((ps.length:Int)-1)) (((ps.length:Int))-(1)) (Z9 7 (Yv 7 [] [] [] (UC x1 0 ((ps.length:Int)-1)) (ZZ 25 27 [8,9] 21 (.b (!(decide (0<=x1/\x1<=((ps.length:Int)-1))))) (db (b:=(!(decide (0<=x1/\x1<=((ps.length:Int)-1))))) 21 (fun Za=>?_) (fun Za=>?_))))))))
  ·have ZP:¬(0<=x1/\x1<=((ps.length:Int)-1)):=((Yw dq)).1 Za
   refine Y0 0 25 [10,11,12,13,14,15,16,17,18,19,20,21,22,23,24,25,26,27,28,29,30,31,32,33,34] (.n 46 (.b true) (.k (.d .r))) (de (WU (ar (ir 1 [(4,.b false)] (ie ?_)))))
   rw [Y8 Z3] at Zp
   exact Zb (r2 [] [.b false] ⟨rfl,rfl⟩ (lb (by have hq:=E8 (ps:=ps) (v:=x1) (r:=ls.drop (k+1)) (prev:=if k=0 then none else ls[k-1]?);rw [<-Zp,hq];rintro ⟨q1,q2,q3⟩;first|omega|(rw [hps] at q2;exact q2 (Yx some om))|(have:=q3 _ (by rw [Zc om,hls]);omega))))
  have Y1:¬(¬(0<=x1/\x1<=((ps.length:Int)-1))):=ZI (Yw dq) Za
  refine Y0 22 25 [10,11,12] (.n 22 (Z0 ps) (.n 23 (Z0 ls) (.n 24 (.i k) (.k (.d .r))))) (dx 13 (Zm none (k:Int) 1 (Y4 Z3)) (ZZ 20 21 [14] 26 (.i x1) ?_))
  obtain ⟨x2,Zt⟩:=Zr (xs:=ps) (j:=x1.toNat) om
  have hps:=Zt
  refine dx 15 (Zm none x1 1 (Y4 Zt)) (ZZ 15 19 [16,17,18,19] 31 (.b (x2==0)) (db (b:=(x2==0)) 31 (fun Zz=>?_) (fun Zz=>?_)))
  ·have Yy:x2=0:=(Zh).1 Zz
   refine Y0 0 15 [20,21,22,23,24,25,26,27,28,29,30,31,32,33,34] (.n 46 (.b true) (.k (.d .r))) (de (WU (ar (ir 1 [(4,.b false)] (ie ?_)))))
   rw [Y8 Z3] at Zp
   exact Zb (r2 [] [.b false] ⟨rfl,rfl⟩ (lb (by have hq:=E8 (ps:=ps) (v:=x1) (r:=ls.drop (k+1)) (prev:=if k=0 then none else ls[k-1]?);rw [<-Zp,hq];rintro ⟨q1,q2,q3⟩;first|omega|(rw [hps] at q2;exact q2 (Yx some om))|(have:=q3 _ (by rw [Zc om,hls]);omega))))
  have YK:¬(x2=0):=ZI Zh Zz
  refine Y0 12 15 [20,21,22] (.n 34 (.b (decide ((k:Int)>0))) (.k (.d .r))) (db (b:=(decide ((k:Int)>0))) 34 (fun YE=>?_) (fun YE=>?_))
  ·have X0:(k:Int)>0:=(dq).1 YE
   refine Y0 10 12 [23,24] (.n 35 (Z0 ls) (.n 36 (.i k) (.k (.d .r)))) (dx 25 (Zm none (k:Int) 1 (Y4 Z3)) (Y0 6 9 [26,27,28] (.n 38 (.i x1) (.n 39 (Z0 ls) (.n 40 (.i k) .r))) (da 29 (((k-1:Nat):Int)) (((k:Int))-(1)) ?_)))
   obtain ⟨x3,YT⟩:=Zr (xs:=ls) (j:=k-1) om
   have hls:=YT
   refine dx 30 (Zm none ((k-1:Nat):Int) 1 (Y4 YT)) (ZZ 0 4 [31,32,33,34] 46 (.b (decide (x1<=x3))) (de (ZM (x1<=x3) (fun Zk=>?_) (fun Zk=>?_))))
   ·refine ar (ir 1 [(4,.b false)] (ie ?_))
    rw [Y8 Z3] at Zp
    exact Zb (r2 [] [.b false] ⟨rfl,rfl⟩ (lb (by have hq:=E8 (ps:=ps) (v:=x1) (r:=ls.drop (k+1)) (prev:=if k=0 then none else ls[k-1]?);rw [<-Zp,hq];rintro ⟨q1,q2,q3⟩;first|omega|(rw [hps] at q2;exact q2 (Yx some om))|(have:=q3 _ (by rw [Zc om,hls]);omega))))
   refine ak (az (Z1 1 10 (.i k) (ZL k (ir 1 [(0,Z0 ps),(1,Z0 ls),(5,.i (k+1:Nat))] (ie ?_)))))
   have hl1:ls[k+1-1]? = some x1:=Z3
   have hlc:(0<=x1/\x1<=(ps.length:Int)-1)/\ps[x1.toNat]?≠some 0/\(∀p,(if k=0 then none else ls[k-1]?)=some p->p<x1):=⟨by omega,by rw [hps];intro q;cases q;omega,fun p hp=>by first|(rw [Zc om,hls] at hp;cases hp;omega)|(rw [Zo om] at hp;cases hp)⟩
   have hdr:=Y8 Z3
   exact ZO ⟨k+1,ob,(by have hq:=GI (r:=ls.drop (k+1)) hlc;rw [hdr,hq] at Zp;rw [Zc om,hl1];exact Zp),rfl,rfl,rfl⟩ (wk [] (fw (ZQ k fl)))
  have XB:¬((k:Int)>0):=ZI dq YE
  refine Y0 0 12 [23,24,25,26,27,28,29,30,31,32,33,34] (.n 46 (.b false) (.k (.d .r))) (de (WT (ak (az (Z1 1 10 (.i k) (ZL k (ir 1 [(0,Z0 ps),(1,Z0 ls),(5,.i (k+1:Nat))] (ie ?_))))))))
  have hl1:ls[k+1-1]? = some x1:=Z3
  have hlc:(0<=x1/\x1<=(ps.length:Int)-1)/\ps[x1.toNat]?≠some 0/\(∀p,(if k=0 then none else ls[k-1]?)=some p->p<x1):=⟨by omega,by rw [hps];intro q;cases q;omega,fun p hp=>by first|(rw [Zc om,hls] at hp;cases hp;omega)|(rw [Zo om] at hp;cases hp)⟩
  have hdr:=Y8 Z3
  exact ZO ⟨k+1,ob,(by have hq:=GI (r:=ls.drop (k+1)) hlc;rw [hdr,hq] at Zp;rw [Zc om,hl1];exact Zp),rfl,rfl,rfl⟩ (wk [] (fw (ZQ k fl)))
 refine ax 0 (ar (ir 1 [(4,.b true)] (ie ?_)))
 try rw [Xb (xs:=ls) (k:=k) om] at Zp
 exact Zb (r2 [] [.b true] ⟨rfl,rfl⟩ (lb (by first|rfl|omega|grind [Qp])))
theorem Z7g (n:Zx) (hz:J1 n.decls:=by exact ob) (hr:∀r∈n.routines,r.params.length<=4194304/\r.lent.length<=4194304):Zi Tryz.prog 57 [ZD n] [] (fun r h=>r=.b (VL n)/\h=[]):=by
 have hzl:=hz.len
 refine ZK 35 Tryz.func57 (ar (iA (ZU n) ?_))
 intro b1
 refine ir 1 [(1,.p b1 0)] (ie (aq (ar (Yl 2 5 (YZ n.routines) [0] [b1] (iw (VV n.routines) (Xo [(1,.p b1 0),(13,.b ((decide ((n.routines.length:Int)>4))||(!Qb n.decls (n.routines.map VA))))] [.obj b1 (ZU n)] ?_ ?_))))))
 ·refine ir 2 [(1,.p b1 0),(8,.b (decide ((n.routines.length:Int)>4)))] (ib (b:=(decide ((n.routines.length:Int)>4))) 8 (fun Za=>?_) (fun Za=>?_))
  ·have ZP:(n.routines.length:Int)>4:=(dq).1 Za
   refine ir 5 [(1,.p b1 0),(13,.b true)] (ie ?_)
   exact wk [0] (fr (Zu true Za fl))
  have Y1:¬((n.routines.length:Int)>4):=ZI dq Za
  refine Y2 1 (.n 9 (ZD n) (.k (.k .z))) [0] [b1] (ZA [] (Z75 n) (ZA [] (Z7h n.decls (n.routines.map VA) (hf:=(by intro f hf;obtain ⟨r,h1,rfl⟩:=W6.1 hf;exact (hr r h1).1))) (Z1 2 13 (.b (!Qb n.decls (n.routines.map VA))) (ie ?_))))
  exact wk [0] (fr (Zu (!Qb n.decls (n.routines.map VA)) Za fl))
 refine ac ((decide ((n.routines.length:Int)>4))||(!Qb n.decls (n.routines.map VA))) (p:=((n.routines.length:Int)>4)∨(¬(Qb n.decls (n.routines.map VA)=true))) (Yo dq (Yw Iff.rfl)) (fun Ze=>?_) (fun Ze=>?_)
 ·refine ar (ir 1 [(2,.b false)] (ie ?_))
  exact Zb (r2 [] [.b false] ⟨rfl,rfl⟩ (lb (by first|rfl|omega|grind [VL])))
 refine ak (aq (ar (ir 1 [(1,.p b1 0),(3,.i 0)] (ie (ab 0 (al (fun m F h=>∃(k:Nat),(k<=n.routines.length)/\(KJ (n.routines.drop k)=KJ n.routines)/\F=[(1,.p b1 0),(3,.i k)]/\h=[.obj b1 (ZU n)]/\m=n.routines.length-k) _ _ _ ⟨0,ob,ob,rfl,rfl,rfl⟩ (wk [0] (fr (Ya fl))) ?_))))))
 rintro m F h ⟨k,Yj,Zp,rfl,rfl,rfl⟩
 refine aq (ar (ZY 3 14 (.i k) 16 (YZ n.routines) [0] [b1] (iw (VV n.routines) (Z1 1 18 (.b (decide ((k:Int)<(n.routines.length:Int)))) (ie (ZM ((k:Int)<(n.routines.length:Int)) (fun Zk=>?_) (fun Zk=>?_)))))))
 ·refine ak (aq (ab 1 (aD 14 (Y6 11 14 [0,1,2] (.n 22 (YZ n.routines) (.n 23 (.i k) .r)) [0] [b1] ?_))))
  obtain ⟨x1,Z3⟩:=Zr (xs:=n.routines) (j:=k) om
  refine dx 3 (Zm none (k:Int) 5 (WB Z3)) (Y6 5 10 [4,5,6,7,8] (.n 26 (Z0 x1.params) (.n 28 (YZ n.routines) (.n 29 (.i k) .r))) [0] [b1] (dx 9 (Zm none (k:Int) 5 (WB Z3)) (ZZ 2 4 [10,11] 32 (Z0 x1.lent) (Z9 12 (Yv 12 [] [] [] (Z7f x1.params x1.lent (hl_ps:=(by have:=hr _ (Y7 Z3);omega)) (hl_ls:=(by have:=hr _ (Y7 Z3);omega))) (ZZ 0 1 [13] 34 (.b (!K1 x1.params x1.lent)) (de (ac (!K1 x1.params x1.lent) (p:=¬(K1 x1.params x1.lent=true)) (Yw Iff.rfl) (fun ZG=>?_) (fun ZG=>?_)))))))))
  ·refine ar (ir 1 [(2,.b false)] (ie ?_))
   rw [Y8 Z3] at Zp
   exact Zb (r2 [] [.b false] ⟨rfl,rfl⟩ (lb (by clear Z3;first|rfl|omega|grind [KJ,VL])))
  refine ak (az (Z1 1 19 (.i k) (ZL k (ir 1 [(1,.p b1 0),(3,.i (k+1:Nat))] (ie ?_)))))
  have hdr:=Y8 Z3
  exact ZO ⟨k+1,ob,(by rw [hdr] at Zp;clear hdr Z3;grind [KJ]),rfl,rfl,rfl⟩ (wk [0] (fr (ZQ k fl)))
 refine ax 0 (ar (ir 1 [(2,.b true)] (ie ?_)))
 try rw [Xb (xs:=n.routines) (k:=k) om] at Zp
 exact Zb (r2 [] [.b true] ⟨rfl,rfl⟩ (lb (by first|rfl|omega|grind [KJ,VL])))
theorem QW (op:Int) :Zi Tryz.prog 99 [.i op] [] (fun r h=>r=.b (Xe op)/\h=[]):=by
 refine ZK 5 Tryz.func99 (ar (ir 1 [(0,.i op)] (ie (ar (ir 1 [(3,.i op)] (ZA [] (UC op 0 11) (ir 1 [(2,.b (decide (0<=op/\op<=11)))] (ie ?_))))))))
 exact Zb (r2 [] [.b (decide (0<=op/\op<=11))] ⟨rfl,rfl⟩ (lb (by first|rfl|omega|grind [Xe])))
theorem Z6q (op:Int) :Zi Tryz.prog 134 [.i op] [] (fun r h=>r=.b (WO op)/\h=[]):=by
 refine ZK 21 Tryz.func134 (ar (ir 1 [(0,.i op)] (ie (ar (XQ 6 [(0,.i op),(8,.b ((op==0)||(op==6)))] [] ?_ (fun hj1=>?_))))))
 ·refine XQ 10 [(0,.i op),(12,.b (((op==0)||(op==6))||(op==8)))] [] ?_ (fun hj2=>?_)
  ·refine XQ 14 [(0,.i op),(16,.b ((((op==0)||(op==6))||(op==8))||(op==9)))] [] ?_ (fun hj3=>?_)
   ·refine XQ 18 [(20,.b (((((op==0)||(op==6))||(op==8))||(op==9))||(op==10)))] [] ?_ (fun hj4=>?_)
    ·refine ir 1 [(2,.b (((((op==0)||(op==6))||(op==8))||(op==9))||(op==10)))] (ie ?_)
     exact Zb (r2 [] [.b (((((op==0)||(op==6))||(op==8))||(op==9))||(op==10))] ⟨rfl,rfl⟩ (lb (by rw [WO];simp only [Bool.or_assoc])))
    refine ir 1 [(0,.i op),(17,.b ((((op==0)||(op==6))||(op==8))||(op==9)))] (ib (b:=((((op==0)||(op==6))||(op==8))||(op==9))) 17 (fun Za=>?_) (fun Za=>?_))
    ·have ZP:(((op=0)∨(op=6))∨(op=8))∨(op=9):=((Yo (Yo (Yo Zh Zh) Zh) Zh)).1 Za
     refine ir 3 [(20,.b true)] ?_
     exact YG (wk [] (Zu true Za fl)) hj4
    have Y1:¬((((op=0)∨(op=6))∨(op=8))∨(op=9)):=ZI (Yo (Yo (Yo Zh Zh) Zh) Zh) Za
    refine ir 3 [(20,.b (op==10))] ?_
    exact YG (wk [] (Zu (op==10) Za fl)) hj4
   refine ir 1 [(0,.i op),(13,.b (((op==0)||(op==6))||(op==8)))] (ib (b:=(((op==0)||(op==6))||(op==8))) 13 (fun Zz=>?_) (fun Zz=>?_))
   ·have Yy:((op=0)∨(op=6))∨(op=8):=((Yo (Yo Zh Zh) Zh)).1 Zz
    refine ir 3 [(0,.i op),(16,.b true)] ?_
    exact YG (wk [] (fr (Zu true Zz fl))) hj3
   have YK:¬(((op=0)∨(op=6))∨(op=8)):=ZI (Yo (Yo Zh Zh) Zh) Zz
   refine ir 3 [(0,.i op),(16,.b (op==9))] ?_
   exact YG (wk [] (fr (Zu (op==9) Zz fl))) hj3
  refine ir 1 [(0,.i op),(9,.b ((op==0)||(op==6)))] (ib (b:=((op==0)||(op==6))) 9 (fun YE=>?_) (fun YE=>?_))
  ·have X0:(op=0)∨(op=6):=((Yo Zh Zh)).1 YE
   refine ir 3 [(0,.i op),(12,.b true)] ?_
   exact YG (wk [] (fr (Zu true YE fl))) hj2
  have XB:¬((op=0)∨(op=6)):=ZI (Yo Zh Zh) YE
  refine ir 3 [(0,.i op),(12,.b (op==8))] ?_
  exact YG (wk [] (fr (Zu (op==8) YE fl))) hj2
 refine ir 3 [(0,.i op),(5,.b (op==0))] (ib (b:=(op==0)) 5 (fun Xf=>?_) (fun Xf=>?_))
 ·have Wk:op=0:=(Zh).1 Xf
  refine ir 3 [(0,.i op),(8,.b true)] ?_
  exact YG (wk [] (fr (Zu true Xf fl))) hj1
 have WJ:¬(op=0):=ZI Zh Xf
 refine ir 3 [(0,.i op),(8,.b (op==6))] ?_
 exact YG (wk [] (fr (Zu (op==6) Xf fl))) hj1
theorem Aj (us:List Int) (args:List Int) (tys:List Int) (hl_us:us.length<=4294967296:=by exact ob) (hl_args:args.length<=4294967296:=by exact ob) (hl_tys:tys.length<=4294967296:=by exact ob):Zi Tryz.prog 136 [Z0 us,Z0 args,Z0 tys] [] (fun r h=>r=.b (XS us args tys)/\h=[]):=by
 refine ZK 42 Tryz.func136 (ar (ir 1 [(0,Z0 us),(1,Z0 args),(2,Z0 tys)] (ie (aq (ar (Z1 1 8 (Z0 args) (iw (Yh args) (Z1 1 10 (Z0 tys) (iw (Yh tys) (Z1 1 12 (.b ((args.length:Int) != (tys.length:Int))) (ie (ac ((args.length:Int) != (tys.length:Int)) Yi (fun Ze=>?_) (fun Ze=>?_)))))))))))))
 ·refine ar (ir 1 [(6,.b false)] (ie ?_))
  exact Zb (r2 [] [.b false] ⟨rfl,rfl⟩ (lb (Oa om).symm))
 refine ak (aq (ar (Z1 1 7 (.i 0) (ie (ab 0 (al (fun m F h=>∃(k:Nat),(k<=args.length)/\(UT us (args.drop k) (tys.drop k)=XS us args tys)/\F=[(0,Z0 us),(1,Z0 args),(2,Z0 tys),(7,.i k)]/\h=[]/\m=args.length-k) _ _ _ ⟨0,ob,ob,rfl,rfl,rfl⟩ (wk [] (fw (fr (Ya fl)))) ?_))))))
 rintro m F h ⟨k,Yj,Zp,rfl,rfl,rfl⟩
 refine aq (ar (Yq 2 13 (.i k) 14 (Z0 args) (iw (Yh args) (Z1 1 16 (.b (decide ((k:Int)<(args.length:Int)))) (ie (ZM ((k:Int)<(args.length:Int)) (fun Zk=>?_) (fun Zk=>?_)))))))
 ·refine ak (aq (ab 1 (aD 23 (Y0 21 23 [0,1] (.n 19 (Z0 args) (.n 20 (.i k) .r)) ?_))))
  obtain ⟨x1,Z3⟩:=Zr (xs:=args) (j:=k) om
  refine dx 2 (Zm none (k:Int) 1 (Y4 Z3)) (Y0 18 20 [3,4] (.n 22 (.i x1) (.n 23 (Z0 us) .r)) (dw 5 (Yh us) (da 6 (((us.length:Int)-1)) (((us.length:Int))-(1)) (Z9 7 (Yv 7 [] [] [] (UC x1 0 ((us.length:Int)-1)) (ZZ 13 15 [8,9] 28 (.b (!(decide (0<=x1/\x1<=((us.length:Int)-1))))) (db (b:=(!(decide (0<=x1/\x1<=((us.length:Int)-1))))) 28 (fun Za=>?_) (fun Za=>?_))))))))
  ·have ZP:¬(0<=x1/\x1<=((us.length:Int)-1)):=((Yw dq)).1 Za
   refine Y0 0 13 [10,11,12,13,14,15,16,17,18,19,20,21,22] (.n 41 (.b true) (.k (.d .r))) (de (WU (ar (ir 1 [(6,.b false)] (ie ?_)))))
   obtain ⟨y,hy⟩:=Zr (xs:=tys) (j:=k) om
   exact Zb (r2 [] [.b false] ⟨rfl,rfl⟩ (lb (by rw [<-Zp];exact (O9 Z3 hy (by rw [Qi ZP];simp)).symm)))
  have Y1:¬(¬(0<=x1/\x1<=((us.length:Int)-1))):=ZI (Yw dq) Za
  refine Y0 10 13 [10,11,12] (.n 29 (Z0 us) (.n 30 (Z0 args) (.n 31 (.i k) (.k (.d .r))))) (dx 13 (Zm none (k:Int) 1 (Y4 Z3)) (ZZ 8 9 [14] 33 (.i x1) ?_))
  obtain ⟨x2,Zt⟩:=Zr (xs:=us) (j:=x1.toNat) om
  refine dx 15 (Zm none x1 1 (Y4 Zt)) (Y0 4 7 [16,17,18] (.n 35 (.i x2) (.n 36 (Z0 tys) (.n 37 (.i k) .r))) ?_)
  obtain ⟨x3,YT⟩:=Zr (xs:=tys) (j:=k) om
  refine dx 19 (Zm none (k:Int) 1 (Y4 YT)) (ZZ 0 3 [20,21,22] 41 (.b (x2 != x3)) (de (ac (x2 != x3) Yi (fun ZG=>?_) (fun ZG=>?_))))
  ·refine ar (ir 1 [(6,.b false)] (ie ?_))
   exact Zb (r2 [] [.b false] ⟨rfl,rfl⟩ (lb (by rw [<-Zp];exact (O9 Z3 YT (by rw [TF om Zt];simpa using ZG)).symm)))
  refine ak (az (Z1 1 17 (.i k) (ZL k (ir 1 [(0,Z0 us),(1,Z0 args),(2,Z0 tys),(7,.i (k+1:Nat))] (ie ?_)))))
  have hdr:=Y8 Z3
  exact ZO ⟨k+1,ob,(by rw [<-Zp];exact (Z8k Z3 YT (by rw [TF om Zt];congr 1;omega)).symm),rfl,rfl,rfl⟩ (wk [] (fw (fr (ZQ k fl))))
 refine ax 0 (ar (ir 1 [(6,.b true)] (ie ?_)))
 exact Zb (r2 [] [.b true] ⟨rfl,rfl⟩ (lb (by rw [<-Zp];exact (Z8j om om).symm)))
theorem Z7e (us:List Int) (s:Z4) (hl_us:us.length<=4294967296:=by exact ob):Zi Tryz.prog 135 [Z0 us,Y3 s] [] (fun r h=>r=.b (VQ us s.op s.into)/\h=[]):=by
 refine ZK 27 Tryz.func135 (ar (iA (Yg s) ?_))
 intro b1
 refine ir 1 [(0,Z0 us),(3,.p b1 0)] (ie (aq (ar (Yl 3 7 (.b (s.into==0)) [0] [b1] (ie (ac (s.into==0) Zh (fun Ze=>?_) (fun Ze=>?_)))))))
 ·refine ar (ir 1 [(4,.b true)] (ie ?_))
  exact Zb (r2 [] [.b true] ⟨rfl,rfl⟩ (lb (by rw [VQ,Zo Ze])))
 refine ak (ar (XQ 10 [(0,Z0 us),(3,.p b1 0),(17,.b ((s.op==6)&&(decide (1<=s.into/\s.into<=(us.length:Int)))))] [.obj b1 (Yg s)] ?_ (fun hj1=>?_)))
 ·refine ir 1 [(0,Z0 us),(3,.p b1 0),(18,.b ((s.op==6)&&(decide (1<=s.into/\s.into<=(us.length:Int)))))] (ib (b:=((s.op==6)&&(decide (1<=s.into/\s.into<=(us.length:Int))))) 18 (fun Za=>?_) (fun Za=>?_))
  ·have ZP:(s.op=6)/\(1<=s.into/\s.into<=(us.length:Int)):=((YD Zh dq)).1 Za
   refine Y2 3 (.n 19 (Z0 us) (.n 21 (.i s.into) (.k .z))) [0] [b1] (ia ((s.into-1)) ((s.into)-(1)) ?_)
   obtain ⟨x1,Z3⟩:=Zr (xs:=us) (j:=(s.into-1).toNat) om
   refine Zq (Zm none (s.into-1) 1 (Y4 Z3)) (ir 4 [(4,.b (decide (x1>0)))] (ie ?_))
   exact Zb (r2 [] [.b (decide (x1>0))] ⟨rfl,rfl⟩ (lb (by rw [VQ,Zc Ze];first|(rw [Zo om,TF om Z3];rfl)|(rw [Zo om,Qi om];rfl)|(rw [Zc om])|(by_cases q:s.op=6;rw [Zo q,Qi om];rfl;rw [Zc q]))))
  have Y1:¬((s.op=6)/\(1<=s.into/\s.into<=(us.length:Int))):=ZI (YD Zh dq) Za
  refine ir 9 [(4,.b false)] (ie ?_)
  exact Zb (r2 [] [.b false] ⟨rfl,rfl⟩ (lb (by rw [VQ,Zc Ze];first|(rw [Zo om,TF om Z3];rfl)|(rw [Zo om,Qi om];rfl)|(rw [Zc om])|(by_cases q:s.op=6;rw [Zo q,Qi om];rfl;rw [Zc q]))))
 refine iR 4 [(0,Z0 us),(3,.p b1 0),(11,.b (s.op==6))] [0] [b1] (ib (b:=(s.op==6)) 11 (fun Zz=>?_) (fun Zz=>?_))
 ·have Yy:s.op=6:=(Zh).1 Zz
  refine Y2 3 (.n 13 (.i s.into) (.n 14 (Z0 us) (.k (.k (.k .z))))) [0] [b1] (iw (Yh us) (ZA [] (UC s.into 1 (us.length:Int)) (Z1 1 17 (.b (decide (1<=s.into/\s.into<=(us.length:Int)))) ?_)))
  exact YG (wk [0] (fw (Zu (decide (1<=s.into/\s.into<=(us.length:Int))) Zz fl))) hj1
 have YK:¬(s.op=6):=ZI Zh Zz
 refine Z5 6 (.n 17 (.b false) (.d (.k (.k .z)))) ?_
 exact YG (wk [0] (fw (Zu false Zz fl))) hj1
theorem Z73 (n:Zx) (us:List Int) (s:Z4) (hn:Xd n:=by exact ob) (hl_us:us.length<=4294967296:=by exact ob) (ha:s.args.length<=1000000000:=by exact ob):Zi Tryz.prog 140 [ZD n,Z0 us,Y3 s] [] (fun r h=>r=.i (TK n us s.op s.num s.args)/\h=[]):=by
 have hrl:=hn.len
 have hdl:=hn.decls.len
 refine ZK 69 Tryz.func140 (ar (iA (ZU n) ?_))
 intro b1
 refine iA (Yg s) ?_
 intro b2
 refine ir 1 [(1,Z0 us),(3,.p b1 0),(5,.p b2 0)] (ie (aq (ar (ZY 4 10 (.i s.num) 12 (YZ n.routines) [0,1] [b2,b1] (iw (VV n.routines) (ia (((n.routines.length:Int)-1)) (((n.routines.length:Int))-(1)) (ZA [] (UC s.num 0 ((n.routines.length:Int)-1)) (Z1 1 16 (.b (!(decide (0<=s.num/\s.num<=((n.routines.length:Int)-1))))) (ie (ac (!(decide (0<=s.num/\s.num<=((n.routines.length:Int)-1)))) (p:=¬(0<=s.num/\s.num<=((n.routines.length:Int)-1))) (Yw dq) (fun Ze=>?_) (fun Ze=>?_)))))))))))
 ·refine ar (ir 1 [(6,.i (-1))] (ie ?_))
  exact Zb (r2 [] [.i (-1)] ⟨rfl,rfl⟩ (li (Z56 om).symm))
 refine ak (ar (ZY 4 18 (YZ n.routines) 20 (.i s.num) [1,0] [b1,b2] ?_))
 obtain ⟨x1,Z3⟩:=Zr (xs:=n.routines) (j:=s.num.toNat) om
 have hrp:=hn.params_at Z3
 have hrt:=hn.lent_at Z3
 have hre:TK n us s.op s.num s.args=QS n.decls us s.op s.args x1:=Z55 om Z3
 refine Zq (Zm none s.num 5 (WB Z3)) (Z1 1 22 (WS x1) (iA [nl,nl,.i 0,nl,.i 0] ?_))
 intro b3
 refine ZF 0 b3 (VW x1) (ie (ar (Yl 2 24 (Z0 x1.params) [0] [b3] (iw (Yh x1.params) (Z1 1 8 (.i x1.params.length) (ie (aq (ar (Yl 3 28 (.b (s.op==9)) [1] [b2] (ie (ac (s.op==9) Zh (fun Zk=>?_) (fun Zk=>?_))))))))))))
 ·refine aq (ar (Y2 5 (.n 29 (Z0 us) (.n 31 (Z0 s.args) (.n 33 (Z0 x1.params) .r))) [1,0] [b2,b3] (ZA [] (Aj us s.args x1.params) (Z1 1 35 (.b (!XS us s.args x1.params)) (ie (ac (!XS us s.args x1.params) (p:=¬(XS us s.args x1.params=true)) (Yw Iff.rfl) (fun ZG=>?_) (fun ZG=>?_)))))))
  ·refine ar (ir 1 [(6,.i (-1))] (ie ?_))
   exact Zb (r2 [] [.i (-1)] ⟨rfl,rfl⟩ (li (by clear Z3;first|rfl|omega|grind [QS,QC])))
  refine ak (ar (iR 3 [(6,.i x1.result)] [0] [b3] (ie ?_)))
  exact Zb (r2 [] [.i x1.result] ⟨rfl,rfl⟩ (li (by clear Z3;first|rfl|omega|grind [QS,QC])))
 refine ak (aq (aD 20 (JU [(3,.p b1 0),(7,.p b3 0),(8,.i x1.params.length),(57,.b (((x1.params.length:Int)==0)||((decide ((x1.lent.length:Int)>0))||(!XS us s.args (x1.params.take (x1.params.length-1))))))] [.obj b3 (VW x1),.obj b2 (Yg s),.obj b1 (ZU n)] ?_ ?_)))
 ·refine Xa 17 20 [0,1,2] [(1,Z0 us),(3,.p b1 0),(5,.p b2 0),(7,.p b3 0),(8,.i x1.params.length),(40,.b ((x1.params.length:Int)==0))] (db (b:=((x1.params.length:Int)==0)) 40 (fun Za=>?_) (fun Za=>?_))
  ·have ZP:(x1.params.length:Int)=0:=(Zh).1 Za
   refine Y0 0 17 [3,4,5,6,7,8,9,10,11,12,13,14,15,16,17,18,19] (.n 57 (.b true) (.d (.d (.k (.d (.k (.k .z))))))) (de ?_)
   exact ZT 3 (fw (fr (Zu true Za fl)))
  have Y1:¬((x1.params.length:Int)=0):=ZI Zh Za
  refine Y6 15 17 [3,4] (.n 42 (Z0 x1.lent) (.w (.k (.k .z)))) [0] [b3] (dw 5 (Yh x1.lent) (ZZ 11 14 [6,7,8] 46 (.b (decide ((x1.lent.length:Int)>0))) (db (b:=(decide ((x1.lent.length:Int)>0))) 46 (fun Zz=>?_) (fun Zz=>?_))))
  ·have Yy:(x1.lent.length:Int)>0:=(dq).1 Zz
   refine Y0 0 11 [9,10,11,12,13,14,15,16,17,18,19] (.n 57 (.b true) (.k (.d .r))) (de ?_)
   exact ZT 3 (fw (fr (Zu true (And.intro Za Zz) fl)))
  have YK:¬((x1.lent.length:Int)>0):=ZI dq Zz
  refine Y6 5 11 [9,10,11,12,13,14] (.n 47 (Z0 us) (.n 49 (Z0 s.args) (.n 51 (Z0 x1.params) (.n 52 (.i x1.params.length) (.k (.d .r)))))) [1,0] [b2,b3] (da 15 (((x1.params.length-1:Nat):Int)) (((x1.params.length:Int))-(1)) (dx 16 (Kl (es:=Z8 x1.params) (hv:=none) (l:=0) (m:=((x1.params.length-1:Nat):Int)) (sz:=1) (es':=Z8 (x1.params.take (x1.params.length-1))) kr om (by simp<;>omega) (by simp<;>omega) (YF _) (by first|(simp only [VR,Vp,KD,J9];done)|(simp only [VR,Vp,KD,J9];rfl)|(simp [KD,J9];done))) (Z9 17 (Yv 17 [] [] [] (Aj us s.args (x1.params.take (x1.params.length-1))) (ZZ 0 2 [18,19] 57 (.b (!XS us s.args (x1.params.take (x1.params.length-1)))) (de ?_))))))
  exact ZT 3 (fw (fr (Zu (!XS us s.args (x1.params.take (x1.params.length-1))) (And.intro Za Zz) fl)))
 refine ac (((x1.params.length:Int)==0)||((decide ((x1.lent.length:Int)>0))||(!XS us s.args (x1.params.take (x1.params.length-1))))) (p:=((x1.params.length:Int)=0)∨(((x1.lent.length:Int)>0)∨(¬(XS us s.args (x1.params.take (x1.params.length-1))=true)))) (Yo Zh (Yo dq (Yw Iff.rfl))) (fun Ym=>?_) (fun Ym=>?_)
 ·refine ar (ir 1 [(6,.i (-1))] (ie ?_))
  exact Zb (r2 [] [.i (-1)] ⟨rfl,rfl⟩ (li (by clear Z3;first|rfl|omega|grind [QS,QC])))
 refine ak (aD 12 (W2 7 12 [0,1,2,3,4] [(7,.p b3 0),(59,Zd n.decls),(61,Z0 x1.params),(62,.i x1.params.length)] [2,0] [b1,b3] (da 5 (((x1.params.length-1:Nat):Int)) (((x1.params.length:Int))-(1)) ?_)))
 obtain ⟨x2,Zt⟩:=Zr (xs:=x1.params) (j:=x1.params.length-1) om
 have hgl:=Ln Zt
 refine dx 6 (Zm none ((x1.params.length-1:Nat):Int) 1 (Y4 Zt)) (Y6 2 5 [7,8,9] (.n 65 (.i x2) (.n 67 (.i x1.result) .r)) [0] [b3] (Z9 10 (Yv 10 [] [] [] (NC n.decls x2 x1.result) (Xa 0 1 [11] [(6,.i (WV n.decls x2 x1.result))] (de ?_)))))
 exact Zb (r2 [] [.i (WV n.decls x2 x1.result)] ⟨rfl,rfl⟩ (li (by clear Z3 Zt;first|rfl|omega|grind [QS,QC])))
theorem Z6p (n:Zx) (us:List Int) (s:Z4) (hn:Xd n:=by exact ob) (hl_us:us.length<=4294967296:=by exact ob) (ha:s.args.length<=1000000000:=by exact ob):Zi Tryz.prog 142 [ZD n,Z0 us,Y3 s] [] (fun r h=>r=.i (To n.decls us s.op s.args)/\h=[]):=by
 have Xu:=hn.decls
 refine ZK 52 Tryz.func142 (ar (iA (ZU n) ?_))
 intro b1
 refine iA (Yg s) ?_
 intro b2
 refine ir 1 [(1,Z0 us),(3,.p b1 0),(5,.p b2 0)] (ie (aq (ar (Yl 2 8 (Z0 s.args) [0] [b2] (iw (Yh s.args) (Z1 2 11 (.b ((s.args.length:Int) != 1)) (ib (b:=((s.args.length:Int) != 1)) 11 (fun Za=>?_) (fun Za=>?_))))))))
 ·have ZP:(s.args.length:Int)≠1:=(Yi).1 Za
  refine Z5 20 (.n 31 (.b true) (.k (.d .r))) (ie (WU (ar (ir 1 [(6,.i (-1))] (ie ?_)))))
  exact Zb (r2 [] [.i (-1)] ⟨rfl,rfl⟩ (li (by first|assumption|omega|rfl|(rw [Bl om])|(rw [Bm (QB om Z3) om])|(rw [Bk (QB om Z3) om Zt];clear Z3 Zt;grind))))
 have Y1:¬((s.args.length:Int)≠1):=ZI Yi Za
 refine Y2 2 (.n 13 (Z0 s.args) (.k (.d .r))) [0] [b2] ?_
 obtain ⟨x1,Z3⟩:=Zr (xs:=s.args) (j:=0) om
 refine Zq (Zm none 0 1 (Y4 Z3)) (Yq 2 15 (.i x1) 16 (Z0 us) (iw (Yh us) (ia (((us.length:Int)-1)) (((us.length:Int))-(1)) (ZA [] (UC x1 0 ((us.length:Int)-1)) (Z1 3 22 (.b (!(decide (0<=x1/\x1<=((us.length:Int)-1))))) (ib (b:=(!(decide (0<=x1/\x1<=((us.length:Int)-1))))) 22 (fun Zz=>?_) (fun Zz=>?_)))))))
 ·have Yy:¬(0<=x1/\x1<=((us.length:Int)-1)):=((Yw dq)).1 Zz
  refine Z5 9 (.n 31 (.b true) (.k (.d .r))) (ie (WU (ar (ir 1 [(6,.i (-1))] (ie ?_)))))
  exact Zb (r2 [] [.i (-1)] ⟨rfl,rfl⟩ (li (by first|assumption|omega|rfl|(rw [Bl om])|(rw [Bm (QB om Z3) om])|(rw [Bk (QB om Z3) om Zt];clear Z3 Zt;grind))))
 have YK:¬(¬(0<=x1/\x1<=((us.length:Int)-1))):=ZI (Yw dq) Zz
 refine Y2 3 (.n 23 (Z0 us) (.n 25 (Z0 s.args) (.k (.d .r)))) [0] [b2] (Zq (Zm none 0 1 (Y4 Z3)) (Z1 1 27 (.i x1) ?_))
 obtain ⟨x2,Zt⟩:=Zr (xs:=us) (j:=x1.toNat) om
 refine Zq (Zm none x1 1 (Y4 Zt)) (Z1 3 31 (.b (x2==0)) (ie (ac (x2==0) Zh (fun Ze=>?_) (fun Ze=>?_))))
 ·refine ar (ir 1 [(6,.i (-1))] (ie ?_))
  exact Zb (r2 [] [.i (-1)] ⟨rfl,rfl⟩ (li (by first|assumption|omega|rfl|(rw [Bl om])|(rw [Bm (QB om Z3) om])|(rw [Bk (QB om Z3) om Zt];clear Z3 Zt;grind))))
 refine ak (aq (aD 20 (JU [(51,.b ((s.op != 14)&&((s.op != 15)&&X5 n.decls x2)))] [.obj b2 (Yg s),.obj b1 (ZU n)] ?_ ?_)))
 ·refine W2 16 20 [0,1,2,3] [(1,Z0 us),(3,.p b1 0),(5,.p b2 0),(35,.b (s.op != 14))] [0] [b2] (db (b:=(s.op != 14)) 35 (fun YE=>?_) (fun YE=>?_))
  ·have X0:s.op≠14:=(Yi).1 YE
   refine Y6 11 16 [4,5,6,7,8] (.n 40 (.b (s.op != 15)) (.d (.k (.k (.k .z))))) [0] [b2] (db (b:=(s.op != 15)) 40 (fun Xf=>?_) (fun Xf=>?_))
   ·have XB:s.op≠15:=(Yi).1 Xf
    refine W2 6 11 [9,10,11,12,13] [(40,.b true),(42,Zd n.decls),(43,Z0 us),(45,Z0 s.args)] [1,0] [b1,b2] (dx 14 (Zm none 0 1 (Y4 Z3)) (ZZ 4 5 [15] 47 (.i x1) (dx 16 (Zm none x1 1 (Y4 Zt)) (ZZ 2 3 [17] 49 (.i x2) (Z9 18 (Yv 18 [] [] [] (CX n.decls x2 (hd:=(by first|assumption|omega|rfl|(rw [Bl om])|(rw [Bm (QB om Z3) om])|(rw [Bk (QB om Z3) om Zt];clear Z3 Zt;grind)))) (Xa 0 1 [19] [(51,.b (X5 n.decls x2))] (de ?_))))))))
    exact wk [0,0] (Zu (X5 n.decls x2) (And.intro YE Xf) fl)
   have Wk:¬(s.op≠15):=ZI Yi Xf
   refine Xa 0 11 [9,10,11,12,13,14,15,16,17,18,19] [(51,.b false)] (de ?_)
   exact wk [0,0] (Zu false (And.intro YE Xf) fl)
  have WJ:¬(s.op≠14):=ZI Yi YE
  refine Xa 0 16 [4,5,6,7,8,9,10,11,12,13,14,15,16,17,18,19] [(51,.b false)] (de ?_)
  exact wk [0,0] (Zu false YE fl)
 refine ac ((s.op != 14)&&((s.op != 15)&&X5 n.decls x2)) (p:=(s.op≠14)/\((s.op≠15)/\(X5 n.decls x2=true))) (YD Yi (YD Yi Iff.rfl)) (fun Zk=>?_) (fun Zk=>?_)
 ·refine ar (ir 1 [(6,.i (-1))] (ie ?_))
  exact Zb (r2 [] [.i (-1)] ⟨rfl,rfl⟩ (li (by first|assumption|omega|rfl|(rw [Bl om])|(rw [Bm (QB om Z3) om])|(rw [Bk (QB om Z3) om Zt];clear Z3 Zt;grind))))
 refine ak (ar (ir 1 [(6,.i 0)] (ie ?_)))
 exact Zb (r2 [] [.i 0] ⟨rfl,rfl⟩ (li (by first|assumption|omega|rfl|(rw [Bl om])|(rw [Bm (QB om Z3) om])|(rw [Bk (QB om Z3) om Zt];clear Z3 Zt;grind))))
theorem NI (n:Zx) (us:List Int) (s:Z4) (hn:Xd n:=by exact ob) (hop:s.op=7∨s.op=8:=by exact ob) (hb:us.length+4*s.sz<=1000000000:=by exact ob) (ih:∀(b:Z6) (us:List Int),(b.sz<s.sz)->(us.length+4*b.sz<=1000000000)->Zi Tryz.prog 60 [ZD n,Z0 us,Zs b] [] (fun r h=>r=.i (YV n us b)/\h=[])):Zi Tryz.prog 139 [ZD n,Z0 us,Y3 s] [] (fun r h=>r=.i (Ui n us s.op s.num s.kids)/\h=[]):=by
 have Xu:=hn.decls
 have hkz:=Uz s
 refine ZK 71 Tryz.func139 (ar (iA (ZU n) ?_))
 intro b1
 refine iA (Yg s) ?_
 intro b2
 refine ir 1 [(1,Z0 us),(3,.p b1 0),(5,.p b2 0)] (ie (ar (ZY 4 14 (Zd n.decls) 16 (.i s.num) [1,0] [b1,b2] (ic [] (KS n.decls s.num) ?_))))
 rintro _ _ ⟨v1,rfl,rfl⟩
 refine Z1 1 7 (Z7 (Zw n.decls s.num) v1) (ie (ar (Z1 1 18 (Z7 (Zw n.decls s.num) v1) (io (.i (((Zw n.decls s.num).length:Nat):Int)) (.i (((Z8 (Zw n.decls s.num)).length:Nat):Int)) (li (by rw [Yh])) (Z1 1 8 (.i (((Zw n.decls s.num).length:Nat):Int)) (ie (aq (ar (Yl 3 22 (.b (s.op==7)) [1] [b2] (ie (XI (fun F h=>F=[(1,Z0 us),(3,.p b1 0),(5,.p b2 0),(7,Z0 (Zw n.decls s.num)),(8,.i (((X7 n.decls s.op s.num).length:Nat):Int))]/\h=[.obj b2 (Yg s),.obj b1 (ZU n)]) ?_ ?_)))))))))))
 ·refine ac (s.op==7) Zh (fun Ze=>?_) (fun Ze=>?_)
  ·refine az (ir 1 [(1,Z0 us),(3,.p b1 0),(5,.p b2 0),(7,Z7 (Zw n.decls s.num) v1),(8,.i 2)] (ie ?_))
   exact ZW ⟨rfl,rfl⟩ (wk [1,1] (fw (fr (fc (x:=Z7 (Zw n.decls s.num) v1) (Zg.forget _ _) (fc (x:=.i 2) (li (by rw [X7,Zo Ze];rfl)) fl)))))
  refine ak ?_
  exact ZW ⟨rfl,rfl⟩ (wk [1,1] (fw (fr (fc (x:=Z7 (Zw n.decls s.num) v1) (Zg.forget _ _) (fc (x:=.i (((Zw n.decls s.num).length:Nat):Int)) (li (by rw [X7,Zc Ze,Au])) fl)))))
 rintro F h ⟨rfl,rfl⟩
 refine aq (ar (Xo [(1,Z0 us),(3,.p b1 0),(5,.p b2 0),(7,Z0 (Zw n.decls s.num)),(8,.i (((X7 n.decls s.op s.num).length:Nat):Int)),(31,.b (((((X7 n.decls s.op s.num).length:Nat):Int)==0)||((s.kids.length:Int) != (((X7 n.decls s.op s.num).length:Nat):Int))))] [.obj b2 (Yg s),.obj b1 (ZU n)] ?_ ?_))
 ·refine ir 3 [(1,Z0 us),(3,.p b1 0),(5,.p b2 0),(7,Z0 (Zw n.decls s.num)),(8,.i (((X7 n.decls s.op s.num).length:Nat):Int)),(25,.b ((((X7 n.decls s.op s.num).length:Nat):Int)==0))] (ib (b:=((((X7 n.decls s.op s.num).length:Nat):Int)==0)) 25 (fun Za=>?_) (fun Za=>?_))
  ·have ZP:(((X7 n.decls s.op s.num).length:Nat):Int)=0:=(Zh).1 Za
   refine Z5 6 (.n 31 (.b true) (.d (.w (.k .z)))) (ie ?_)
   exact wk [0,0] (fq (fr (Zu true Za fl)))
  have Y1:¬((((X7 n.decls s.op s.num).length:Nat):Int)=0):=ZI Zh Za
  refine Y2 2 (.n 27 (Yu s.kids) (.w (.k (.k .z)))) [0] [b2] (iw (VG s.kids) (Z1 3 31 (.b ((s.kids.length:Int) != (((X7 n.decls s.op s.num).length:Nat):Int))) (ie ?_)))
  exact wk [0,0] (fq (fr (Zu ((s.kids.length:Int) != (((X7 n.decls s.op s.num).length:Nat):Int)) Za fl)))
 refine ac (((((X7 n.decls s.op s.num).length:Nat):Int)==0)||((s.kids.length:Int) != (((X7 n.decls s.op s.num).length:Nat):Int))) (p:=((((X7 n.decls s.op s.num).length:Nat):Int)=0)∨((s.kids.length:Int)≠(((X7 n.decls s.op s.num).length:Nat):Int))) (Yo Zh Yi) (fun Zk=>?_) (fun Zk=>?_)
 ·refine ar (ir 1 [(6,.i (-1))] (ie ?_))
  exact Zb (r2 [] [.i (-1)] ⟨rfl,rfl⟩ (li (by rw [Ui,Zo om])))
 refine ak (ar (ir 1 [(1,Z0 us),(3,.p b1 0),(5,.p b2 0),(7,Z0 (Zw n.decls s.num)),(8,.i (((X7 n.decls s.op s.num).length:Nat):Int)),(9,.i 0)] (ie (aq (ar (Z1 1 10 (.i 0) (ie (ab 0 (al (fun m F h=>∃(k:Nat) (t:Int),(k<=s.kids.length)/\(Wi n us (s.kids.drop k) ((X7 n.decls s.op s.num).drop k) (decide (k=0)) t=Wi n us s.kids (X7 n.decls s.op s.num) true 0)/\F=[(1,Z0 us),(3,.p b1 0),(5,.p b2 0),(7,Z0 (Zw n.decls s.num)),(8,.i (((X7 n.decls s.op s.num).length:Nat):Int)),(9,.i t),(10,.i k)]/\h=[.obj b2 (Yg s),.obj b1 (ZU n)]/\m=s.kids.length-k) _ _ _ ⟨0,0,ob,(by rfl),rfl,rfl,rfl⟩ (wk [0,0] (fq (fw (Ya fl)))) ?_)))))))))
 rintro m F h ⟨k,t,Yj,Zp,rfl,rfl,rfl⟩
 refine aq (ar (Z1 3 34 (.b (decide ((k:Int)<(((X7 n.decls s.op s.num).length:Nat):Int)))) (ie (ZM ((k:Int)<(((X7 n.decls s.op s.num).length:Nat):Int)) (fun ZG=>?_) (fun ZG=>?_)))))
 ·refine ak (aq (ab 1 (ar (Z1 2 11 (Z0 us) (ie (aq (ar (Yl 3 40 (.b (s.op==8)) [0] [b2] (ie (XI (fun F h=>∃(m:List Int),((X7 n.decls s.op s.num)[k]? = some m)/\F=[(1,Z0 us),(3,.p b1 0),(5,.p b2 0),(7,Z0 (Zw n.decls s.num)),(8,.i (((X7 n.decls s.op s.num).length:Nat):Int)),(9,.i t),(10,.i k),(11,Z0 (us++m))]/\h=[.obj b2 (Yg s),.obj b1 (ZU n)]) ?_ ?_))))))))))
  ·refine ac (s.op==8) Zh (fun Ym=>?_) (fun Ym=>?_)
   ·refine aE 10 (W2 5 10 [0,1,2,3,4] [(1,Z0 us),(3,.p b1 0),(5,.p b2 0),(7,Z0 (Zw n.decls s.num)),(8,.i (((X7 n.decls s.op s.num).length:Nat):Int)),(9,.i t),(10,.i k),(11,Z0 us),(41,Z0 us),(43,Zd n.decls),(44,Z0 (Zw n.decls s.num)),(45,.i k)] [1] [b1] ?_)
    obtain ⟨x1,Z3⟩:=Zr (xs:=Zw n.decls s.num) (j:=k) (by rw [X7,Zc om,Au] at ZG;omega)
    refine dx 5 (Zm none (k:Int) 1 (Y4 Z3)) (ZZ 3 4 [6] 47 (.i x1) (Z9 7 (Yv 7 [] [] [] (Qr n.decls x1) (Z9 8 (dc 8 [] [] [] (Q9 us (ZC n.decls x1) (hl:=(by have:=VK Xu x1;omega))) ?_)))))
    rintro _ _ ⟨v2,rfl,rfl⟩
    refine Y0 0 1 [9] (.n 11 (Z7 (us++(ZC n.decls x1)) v2) (.p (.p (.d (.p (.w (.k (.k (.k .z))))))))) (de ?_)
    exact ZW ⟨(ZC n.decls x1),(by rw [show s.op=8 from Ym];exact P2 Z3),rfl,rfl⟩ (wk [1,1] fl)
   refine ak ?_
   exact ZW ⟨[],(by rw [X7,Zo om];have:k=0∨k=1:=(by rw [X7,Zo om] at ZG;simp at ZG;omega);rcases this with rfl|rfl<;>rfl),rfl,rfl⟩ (wk [0,0] (fq (fw (fr (fc (x:=Z0 us) (Zg.sl _ (Yx Z8 (by simp))) fl)))))
  rintro F h ⟨m,Q2,rfl,rfl⟩
  refine aD 9 (W2 4 9 [0,1,2,3,4] [(1,Z0 us),(3,.p b1 0),(5,.p b2 0),(7,Z0 (Zw n.decls s.num)),(8,.i (((X7 n.decls s.op s.num).length:Nat):Int)),(9,.i t),(10,.i k),(50,ZD n),(51,Z0 (us++m)),(53,Yu s.kids),(54,.i k)] [1,0] [b1,b2] ?_)
  obtain ⟨x2,Zt⟩:=Zr (xs:=s.kids) (j:=k) om
  have hks:=Uy Zt
  have hm3:=HU Xu Q2
  refine dx 5 (Zm none (k:Int) 2 (U5 Zt)) (ZZ 2 3 [6] 56 (Zs x2) (Z9 7 (Yv 7 [] [] [] (ih x2 (us++m) ob (by simp only [Yz];omega)) (ZZ 0 1 [8] 12 (.i (YV n (us++m) x2)) (de (aq (ar (Xo [(1,Z0 us),(3,.p b1 0),(5,.p b2 0),(7,Z0 (Zw n.decls s.num)),(8,.i (((X7 n.decls s.op s.num).length:Nat):Int)),(10,.i k),(12,.i (YV n (us++m) x2)),(68,.b ((decide ((YV n (us++m) x2)<0))||((decide ((k:Int)>0))&&((YV n (us++m) x2) != t))))] [.obj b2 (Yg s),.obj b1 (ZU n)] ?_ ?_))))))))
  ·refine ir 3 [(1,Z0 us),(3,.p b1 0),(5,.p b2 0),(7,Z0 (Zw n.decls s.num)),(8,.i (((X7 n.decls s.op s.num).length:Nat):Int)),(9,.i t),(10,.i k),(12,.i (YV n (us++m) x2)),(60,.b (decide ((YV n (us++m) x2)<0)))] (ib (b:=(decide ((YV n (us++m) x2)<0))) 60 (fun Zz=>?_) (fun Zz=>?_))
   ·have Yy:(YV n (us++m) x2)<0:=(dq).1 Zz
    refine Z5 8 (.n 68 (.b true) (.d (.w (.k (.d (.k (.k .z))))))) (ie ?_)
    exact wk [0,0] (fq (fw (fr (Zu true Zz fl))))
   have YK:¬((YV n (us++m) x2)<0):=ZI dq Zz
   refine Z5 3 (.n 63 (.b (decide ((k:Int)>0))) (.w (.w (.k .z)))) (ib (b:=(decide ((k:Int)>0))) 63 (fun YE=>?_) (fun YE=>?_))
   ·have X0:(k:Int)>0:=(dq).1 YE
    refine Z5 5 (.n 68 (.b ((YV n (us++m) x2) != t)) (.k (.d .r))) (ie ?_)
    exact wk [0,0] (fq (fw (fr (Zu ((YV n (us++m) x2) != t) (And.intro Zz YE) fl))))
   have XB:¬((k:Int)>0):=ZI dq YE
   refine Z5 5 (.n 68 (.b false) (.k (.d .r))) (ie ?_)
   exact wk [0,0] (fq (fw (fr (Zu false (And.intro Zz YE) fl))))
  refine ac ((decide ((YV n (us++m) x2)<0))||((decide ((k:Int)>0))&&((YV n (us++m) x2) != t))) (p:=((YV n (us++m) x2)<0)∨(((k:Int)>0)/\((YV n (us++m) x2)≠t))) (Yo dq (YD dq Yi)) (fun Xi=>?_) (fun Xi=>?_)
  ·refine ar (ir 1 [(6,.i (-1))] (ie ?_))
   exact Zb (r2 [] [.i (-1)] ⟨rfl,rfl⟩ (li (by rw [Ui,Zc om,<-Zp];exact (LS Zt Q2 Xi).symm)))
  refine ak (az (ir 2 [(1,Z0 us),(3,.p b1 0),(5,.p b2 0),(7,Z0 (Zw n.decls s.num)),(8,.i (((X7 n.decls s.op s.num).length:Nat):Int)),(9,.i (YV n (us++m) x2)),(10,.i k)] (ie (az (Z1 1 35 (.i k) (ZL k (Z5 1 (.n 10 (.i (k+1:Nat)) (.p (.d (.w (.k (.k .z)))))) (ie ?_))))))))
  exact ZO ⟨k+1,YV n (us++m) x2,ob,(by rw [<-Zp];exact (LU Zt Q2 Xi).symm),rfl,rfl,rfl⟩ (wk [0,0] (fq (fw (ZQ k fl))))
 refine ax 0 (ar (ir 2 [(6,.i t)] (ie ?_)))
 exact Zb (r2 [] [.i t] ⟨rfl,rfl⟩ (li (by rw [Ui,Zc om,<-Zp];exact (LT om).symm)))
theorem NM (n:Zx) (us:List Int) (s:Z4) (hn:Xd n:=by exact ob) (hb:us.length+4*s.sz<=1000000000:=by exact ob) (ih:∀(b:Z6) (us:List Int),(b.sz<s.sz)->(us.length+4*b.sz<=1000000000)->Zi Tryz.prog 60 [ZD n,Z0 us,Zs b] [] (fun r h=>r=.i (YV n us b)/\h=[])):Zi Tryz.prog 98 [ZD n,Z0 us,Y3 s] [] (fun r h=>r=.i (ZV n us s)/\h=[]):=by
 have Xu:=hn.decls
 have hkz:=Uz s
 have haz:=Qg s
 have hdl:=Xu.len
 have hst:=B8 n us s
 refine ZK 183 Tryz.func98 (ar (iA (ZU n) ?_))
 intro b1
 refine iA (Yg s) ?_
 intro b2
 refine ir 1 [(1,Z0 us),(3,.p b1 0),(5,.p b2 0)] (ie (aq (ar (XQ 9 [(1,Z0 us),(3,.p b1 0),(5,.p b2 0),(16,.b ((s.num != 0)&&(!WO s.op)))] [.obj b2 (Yg s),.obj b1 (ZU n)] ?_ (fun hj1=>?_)))))
 ·refine XQ 15 [(1,Z0 us),(3,.p b1 0),(5,.p b2 0),(22,.b (((s.num != 0)&&(!WO s.op))||(!VQ us s.op s.into)))] [.obj b2 (Yg s),.obj b1 (ZU n)] ?_ (fun hj2=>?_)
  ·refine Xo [(1,Z0 us),(3,.p b1 0),(5,.p b2 0),(38,.b ((((s.num != 0)&&(!WO s.op))||(!VQ us s.op s.into))||((decide ((s.kids.length:Int)>0))&&((s.op != 7)&&(s.op != 8)))))] [.obj b2 (Yg s),.obj b1 (ZU n)] ?_ ?_
   ·refine ir 1 [(1,Z0 us),(3,.p b1 0),(5,.p b2 0),(23,.b (((s.num != 0)&&(!WO s.op))||(!VQ us s.op s.into)))] (ib (b:=(((s.num != 0)&&(!WO s.op))||(!VQ us s.op s.into))) 23 (fun Za=>?_) (fun Za=>?_))
    ·have ZP:((s.num≠0)/\(¬(WO s.op=true)))∨(¬(VQ us s.op s.into=true)):=((Yo (YD Yi (Yw Iff.rfl)) (Yw Iff.rfl))).1 Za
     refine Z5 15 (.n 38 (.b true) (.d (.k (.k (.k .z))))) (ie ?_)
     exact wk [0,0] (fw (fr (Zu true Za fl)))
    have Y1:¬(((s.num≠0)/\(¬(WO s.op=true)))∨(¬(VQ us s.op s.into=true))):=ZI (Yo (YD Yi (Yw Iff.rfl)) (Yw Iff.rfl)) Za
    refine Y2 2 (.n 25 (Yu s.kids) (.w .z)) [0] [b2] (iw (VG s.kids) (Z1 2 28 (.b (decide ((s.kids.length:Int)>0))) (ib (b:=(decide ((s.kids.length:Int)>0))) 28 (fun Zz=>?_) (fun Zz=>?_))))
    ·have Yy:(s.kids.length:Int)>0:=(dq).1 Zz
     refine Y2 5 (.n 33 (.b (s.op != 7)) (.k (.d .r))) [0] [b2] (ib (b:=(s.op != 7)) 33 (fun YE=>?_) (fun YE=>?_))
     ·have YK:s.op≠7:=(Yi).1 YE
      refine Y2 5 (.n 38 (.b (s.op != 8)) (.k (.d .r))) [0] [b2] (ie ?_)
      exact wk [0,0] (fw (fr (Zu (s.op != 8) (And.intro Za (And.intro Zz YE)) fl)))
     have X0:¬(s.op≠7):=ZI Yi YE
     refine Z5 5 (.n 38 (.b false) (.k (.d .r))) (ie ?_)
     exact wk [0,0] (fw (fr (Zu false (And.intro Za (And.intro Zz YE)) fl)))
    have XB:¬((s.kids.length:Int)>0):=ZI dq Zz
    refine Z5 10 (.n 38 (.b false) (.k (.d .r))) (ie ?_)
    exact wk [0,0] (fw (fr (Zu false (And.intro Za Zz) fl)))
   refine ac ((((s.num != 0)&&(!WO s.op))||(!VQ us s.op s.into))||((decide ((s.kids.length:Int)>0))&&((s.op != 7)&&(s.op != 8)))) (p:=(((s.num≠0)/\(¬(WO s.op=true)))∨(¬(VQ us s.op s.into=true)))∨(((s.kids.length:Int)>0)/\((s.op≠7)/\(s.op≠8)))) (Yo (Yo (YD Yi (Yw Iff.rfl)) (Yw Iff.rfl)) (YD dq (YD Yi Yi))) (fun Ze=>?_) (fun Ze=>?_)
   ·refine ar (ir 1 [(6,.i (-1))] (ie ?_))
    exact Zb (r2 [] [.i (-1)] ⟨rfl,rfl⟩ (li (by first|rfl|( grind)|(have q:=Ub (ds:=n.decls) (us:=us) (args:=s.args) om; grind)|(have q:=Uc (ds:=n.decls) (us:=us) (args:=s.args) om ‹s.args[0]? = some _› om; grind)|(have q:=U2 (ds:=n.decls) (us:=us) (args:=s.args) om ‹s.args[0]? = some _› om ‹us[_]? = some _›; grind))))
   refine ak (aq (ar (iR 2 [(1,Z0 us),(3,.p b1 0),(5,.p b2 0),(40,.i s.op)] [0] [b2] (ie (ab 0 (ar (Z1 2 41 (.b (s.op==0)) (ie (ac (s.op==0) Zh (fun Zk=>?_) (fun Zk=>?_))))))))))
   ·refine ar (Yl 2 44 (Z0 s.args) [0] [b2] (iw (Yh s.args) (Xo [(51,.b (((s.args.length:Int)==0)&&(decide ((-999)<=s.num/\s.num<=999))))] [.obj b2 (Yg s),.obj b1 (ZU n)] ?_ ?_)))
    ·refine ir 2 [(5,.p b2 0),(47,.b ((s.args.length:Int)==0))] (ib (b:=((s.args.length:Int)==0)) 47 (fun Xf=>?_) (fun Xf=>?_))
     ·have Wk:(s.args.length:Int)=0:=(Zh).1 Xf
      refine Y2 2 (.n 49 (.i s.num) (.k .z)) [0] [b2] (ZA [] (UC s.num (-999) 999) (ir 1 [(51,.b (decide ((-999)<=s.num/\s.num<=999)))] (ie ?_)))
      exact wk [0,0] (Zu (decide ((-999)<=s.num/\s.num<=999)) Xf fl)
     have WJ:¬((s.args.length:Int)=0):=ZI Zh Xf
     refine ir 4 [(51,.b false)] (ie ?_)
     exact wk [0,0] (Zu false Xf fl)
    refine ac (((s.args.length:Int)==0)&&(decide ((-999)<=s.num/\s.num<=999))) (p:=((s.args.length:Int)=0)/\((-999)<=s.num/\s.num<=999)) (YD Zh dq) (fun ZG=>?_) (fun ZG=>?_)
    ·refine ar (ir 1 [(6,.i 0)] (ie ?_))
     exact Zb (r2 [] [.i 0] ⟨rfl,rfl⟩ (li (by first|rfl|( grind)|(have q:=Ub (ds:=n.decls) (us:=us) (args:=s.args) om; grind)|(have q:=Uc (ds:=n.decls) (us:=us) (args:=s.args) om ‹s.args[0]? = some _› om; grind)|(have q:=U2 (ds:=n.decls) (us:=us) (args:=s.args) om ‹s.args[0]? = some _› om ‹us[_]? = some _›; grind))))
    refine ak (ar (ir 1 [(6,.i (-1))] (ie ?_)))
    exact Zb (r2 [] [.i (-1)] ⟨rfl,rfl⟩ (li (by first|rfl|( grind)|(have q:=Ub (ds:=n.decls) (us:=us) (args:=s.args) om; grind)|(have q:=Uc (ds:=n.decls) (us:=us) (args:=s.args) om ‹s.args[0]? = some _› om; grind)|(have q:=U2 (ds:=n.decls) (us:=us) (args:=s.args) om ‹s.args[0]? = some _› om ‹us[_]? = some _›; grind))))
   refine aq (ar (Z1 2 52 (.b (s.op==1)) (ie (XI (fun F h=>F=[(1,Z0 us),(3,.p b1 0),(5,.p b2 0),(40,.i s.op),(52,.b ((s.op==1)||((s.op==2)||((s.op==3)||(s.op==4)))))]/\h=[.obj b2 (Yg s),.obj b1 (ZU n)]) ?_ ?_))))
   ·refine ac (s.op==1) Zh (fun Ym=>?_) (fun Ym=>?_)
    ·refine ak ?_
     exact ZW ⟨rfl,rfl⟩ (wk [0,0] (fq (fc (x:=.b (s.op==1)) (lb (by first|rfl|(rw [Zo Ym])|(rw [Zc Ym])|(simp [Ym];done)|(rw [Xl];simp [Ym];done)|omega)) fl)))
    refine ar (ir 2 [(1,Z0 us),(3,.p b1 0),(5,.p b2 0),(40,.i s.op),(52,.b (s.op==2))] (ie (ac (s.op==2) Zh (fun Xi=>?_) (fun Xi=>?_))))
    ·refine ak ?_
     exact ZW ⟨rfl,rfl⟩ (wk [0,0] (fq (fc (x:=.b (s.op==2)) (lb (by first|rfl|(rw [Zo Ym])|(rw [Zc Ym])|(simp [Ym,Xi];done)|(rw [Xl];simp [Ym,Xi];done)|omega)) fl)))
    refine ar (Z5 2 (.n 52 (.b (s.op==3)) (.w .z)) (ie (ac (s.op==3) Zh (fun Xj=>?_) (fun Xj=>?_))))
    ·refine ak ?_
     exact ZW ⟨rfl,rfl⟩ (wk [0,0] (fq (fc (x:=.b (s.op==3)) (lb (by first|rfl|(rw [Zo Ym])|(rw [Zc Ym])|(simp [Ym,Xi,Xj];done)|(rw [Xl];simp [Ym,Xi,Xj];done)|omega)) fl)))
    refine az (Z5 2 (.n 52 (.b (s.op==4)) (.d .r)) (ie ?_))
    exact ZW ⟨rfl,rfl⟩ (wk [0,0] (fq (fc (x:=.b (s.op==4)) (lb (by first|rfl|(rw [Zo Ym])|(rw [Zc Ym])|(simp [Ym,Xi,Xj];done)|(rw [Xl];simp [Ym,Xi,Xj];done)|omega)) fl)))
   rintro F h ⟨rfl,rfl⟩
   refine ac ((s.op==1)||((s.op==2)||((s.op==3)||(s.op==4)))) (p:=(s.op=1)∨((s.op=2)∨((s.op=3)∨(s.op=4)))) (Yo Zh (Yo Zh (Yo Zh Zh))) (fun Vx=>?_) (fun Vx=>?_)
   ·refine ar (iR 3 [(57,Z0 us),(59,Z0 s.args)] [0] [b2] (iL (Z8 [0,0]) 2 1 ?_))
    intro v1
    refine Z5 0 (.n 60 (Z0 [0,0]) (.p .r)) (ZA [] (Aj us s.args [0,0] (hl_tys:=(by first|(simp;done)|(have:=VK Xu s.num;omega)))) (ie (ac (XS us s.args [0,0]) Iff.rfl (fun Vr=>?_) (fun Vr=>?_))))
    ·refine ar (ir 1 [(6,.i 0)] (ie ?_))
     exact Zb (r2 [] [.i 0] ⟨rfl,rfl⟩ (li (by first|rfl|( grind)|(have q:=Ub (ds:=n.decls) (us:=us) (args:=s.args) om; grind)|(have q:=Uc (ds:=n.decls) (us:=us) (args:=s.args) om ‹s.args[0]? = some _› om; grind)|(have q:=U2 (ds:=n.decls) (us:=us) (args:=s.args) om ‹s.args[0]? = some _› om ‹us[_]? = some _›; grind))))
    refine ak (ar (ir 1 [(6,.i (-1))] (ie ?_)))
    exact Zb (r2 [] [.i (-1)] ⟨rfl,rfl⟩ (li (by first|rfl|( grind)|(have q:=Ub (ds:=n.decls) (us:=us) (args:=s.args) om; grind)|(have q:=Uc (ds:=n.decls) (us:=us) (args:=s.args) om ‹s.args[0]? = some _› om; grind)|(have q:=U2 (ds:=n.decls) (us:=us) (args:=s.args) om ‹s.args[0]? = some _› om ‹us[_]? = some _›; grind))))
   refine ar (ir 2 [(1,Z0 us),(3,.p b1 0),(5,.p b2 0),(40,.i s.op),(62,.b (s.op==5))] (ie (ac (s.op==5) Zh (fun VH=>?_) (fun VH=>?_))))
   ·refine ar (iR 3 [(64,Z0 us),(66,Z0 s.args)] [0] [b2] (iL (Z8 [0]) 1 1 ?_))
    intro v2
    refine Z5 0 (.n 67 (Z0 [0]) (.p .r)) (ZA [] (Aj us s.args [0] (hl_tys:=(by first|(simp;done)|(have:=VK Xu s.num;omega)))) (ie (ac (XS us s.args [0]) Iff.rfl (fun UL=>?_) (fun UL=>?_))))
    ·refine ar (ir 1 [(6,.i 0)] (ie ?_))
     exact Zb (r2 [] [.i 0] ⟨rfl,rfl⟩ (li (by first|rfl|( grind)|(have q:=Ub (ds:=n.decls) (us:=us) (args:=s.args) om; grind)|(have q:=Uc (ds:=n.decls) (us:=us) (args:=s.args) om ‹s.args[0]? = some _› om; grind)|(have q:=U2 (ds:=n.decls) (us:=us) (args:=s.args) om ‹s.args[0]? = some _› om ‹us[_]? = some _›; grind))))
    refine ak (ar (ir 1 [(6,.i (-1))] (ie ?_)))
    exact Zb (r2 [] [.i (-1)] ⟨rfl,rfl⟩ (li (by first|rfl|( grind)|(have q:=Ub (ds:=n.decls) (us:=us) (args:=s.args) om; grind)|(have q:=Uc (ds:=n.decls) (us:=us) (args:=s.args) om ‹s.args[0]? = some _› om; grind)|(have q:=U2 (ds:=n.decls) (us:=us) (args:=s.args) om ‹s.args[0]? = some _› om ‹us[_]? = some _›; grind))))
   refine ar (Z1 2 69 (.b (s.op==6)) (ie (ac (s.op==6) Zh (fun Kc=>?_) (fun Kc=>?_))))
   ·refine aD 17 (Y6 13 17 [0,1,2,3] (.n 72 (Zd n.decls) (.n 74 (.i s.num) .r)) [1,0] [b1,b2] (Z9 4 (Yv 4 [] [] [] (Hf n.decls s.num) (JU [(3,.p b1 0),(5,.p b2 0),(87,.b ((decide ((Xt n.decls s.num)>0))&&XS us s.args (ZC n.decls s.num)))] [.obj b2 (Yg s),.obj b1 (ZU n)] ?_ ?_))))
    ·refine Xa 10 12 [5,6] [(1,Z0 us),(3,.p b1 0),(5,.p b2 0),(77,.b (decide ((Xt n.decls s.num)>0)))] (db (b:=(decide ((Xt n.decls s.num)>0))) 77 (fun Wb=>?_) (fun Wb=>?_))
     ·have V4:(Xt n.decls s.num)>0:=(dq).1 Wb
      refine Y6 3 10 [7,8,9,10,11,12,13] (.n 78 (Z0 us) (.n 80 (Z0 s.args) (.n 82 (Zd n.decls) (.n 84 (.i s.num) (.k (.d (.k (.k .z)))))))) [0,1,0] [b2,b1,b2] (Z9 14 (Yv 14 [] [0] [b2] (Qr n.decls s.num (hd:=Xu)) (Z9 15 (Yv 15 [] [] [] (Aj us s.args (ZC n.decls s.num) (hl_tys:=(by first|(simp;done)|(have:=VK Xu s.num;omega)))) (ZZ 0 1 [16] 87 (.b (XS us s.args (ZC n.decls s.num))) (de ?_))))))
      exact wk [0,0] (fw (Zu (XS us s.args (ZC n.decls s.num)) Wb fl))
     have Ug:¬((Xt n.decls s.num)>0):=ZI dq Wb
     refine Y0 0 10 [7,8,9,10,11,12,13,14,15,16] (.n 87 (.b false) (.d (.d (.k (.k .z))))) (de ?_)
     exact wk [0,0] (fw (Zu false Wb fl))
    refine ac ((decide ((Xt n.decls s.num)>0))&&XS us s.args (ZC n.decls s.num)) (p:=((Xt n.decls s.num)>0)/\(XS us s.args (ZC n.decls s.num)=true)) (YD dq Iff.rfl) (fun Tb=>?_) (fun Tb=>?_)
    ·refine ar (iR 4 [(89,Zd n.decls),(91,.i s.num)] [1,0] [b1,b2] (ZA [] (Hf n.decls s.num) (ir 1 [(6,.i (Xt n.decls s.num))] (ie ?_))))
     exact Zb (r2 [] [.i (Xt n.decls s.num)] ⟨rfl,rfl⟩ (li (by first|rfl|( grind)|(have q:=Ub (ds:=n.decls) (us:=us) (args:=s.args) om; grind)|(have q:=Uc (ds:=n.decls) (us:=us) (args:=s.args) om ‹s.args[0]? = some _› om; grind)|(have q:=U2 (ds:=n.decls) (us:=us) (args:=s.args) om ‹s.args[0]? = some _› om ‹us[_]? = some _›; grind))))
    refine ak (ar (ir 1 [(6,.i (-1))] (ie ?_)))
    exact Zb (r2 [] [.i (-1)] ⟨rfl,rfl⟩ (li (by first|rfl|( grind)|(have q:=Ub (ds:=n.decls) (us:=us) (args:=s.args) om; grind)|(have q:=Uc (ds:=n.decls) (us:=us) (args:=s.args) om ‹s.args[0]? = some _› om; grind)|(have q:=U2 (ds:=n.decls) (us:=us) (args:=s.args) om ‹s.args[0]? = some _› om ‹us[_]? = some _›; grind))))
   refine ar (Z1 2 93 (.b (s.op==7)) (ie (ac (s.op==7) Zh (fun QI=>?_) (fun QI=>?_))))
   ·refine ar (ZY 3 95 (Z0 us) 97 (Z0 s.args) [0] [b2] (iL (Z8 [0]) 1 1 ?_))
    intro v3
    refine Z5 0 (.n 98 (Z0 [0]) (.p .r)) (ZA [] (Aj us s.args [0] (hl_tys:=(by first|(simp;done)|(have:=VK Xu s.num;omega)))) (ie (ac (XS us s.args [0]) Iff.rfl (fun AW=>?_) (fun AW=>?_))))
    ·refine ar (iR 3 [(100,ZD n),(101,Z0 us),(102,Y3 s)] [2,1] [b1,b2] (ZA [] (NI n us s (ih:=ob)) (ir 1 [(6,.i (Ui n us s.op s.num s.kids))] (ie ?_))))
     exact Zb (r2 [] [.i (Ui n us s.op s.num s.kids)] ⟨rfl,rfl⟩ (li (by first|rfl|( grind)|(have q:=Ub (ds:=n.decls) (us:=us) (args:=s.args) om; grind)|(have q:=Uc (ds:=n.decls) (us:=us) (args:=s.args) om ‹s.args[0]? = some _› om; grind)|(have q:=U2 (ds:=n.decls) (us:=us) (args:=s.args) om ‹s.args[0]? = some _› om ‹us[_]? = some _›; grind))))
    refine ak (ar (ir 1 [(6,.i (-1))] (ie ?_)))
    exact Zb (r2 [] [.i (-1)] ⟨rfl,rfl⟩ (li (by first|rfl|( grind)|(have q:=Ub (ds:=n.decls) (us:=us) (args:=s.args) om; grind)|(have q:=Uc (ds:=n.decls) (us:=us) (args:=s.args) om ‹s.args[0]? = some _› om; grind)|(have q:=U2 (ds:=n.decls) (us:=us) (args:=s.args) om ‹s.args[0]? = some _› om ‹us[_]? = some _›; grind))))
   refine ar (Z1 2 104 (.b (s.op==8)) (ie (ac (s.op==8) Zh (fun Gg=>?_) (fun Gg=>?_))))
   ·refine ar (Y2 5 (.n 106 (Z0 us) (.n 108 (Z0 s.args) (.n 110 (.i s.num) .r))) [0,0] [b2,b2] (iL (Z8 [s.num]) 1 1 ?_))
    intro v4
    refine Z5 0 (.n 111 (Z0 [s.num]) (.p .r)) (ZA [] (Aj us s.args [s.num] (hl_tys:=(by first|(simp;done)|(have:=VK Xu s.num;omega)))) (ie (ac (XS us s.args [s.num]) Iff.rfl (fun Gh=>?_) (fun Gh=>?_))))
    ·refine ar (iR 3 [(113,ZD n),(114,Z0 us),(115,Y3 s)] [2,1] [b1,b2] (ZA [] (NI n us s (ih:=ob)) (ir 1 [(6,.i (Ui n us s.op s.num s.kids))] (ie ?_))))
     exact Zb (r2 [] [.i (Ui n us s.op s.num s.kids)] ⟨rfl,rfl⟩ (li (by first|rfl|( grind)|(have q:=Ub (ds:=n.decls) (us:=us) (args:=s.args) om; grind)|(have q:=Uc (ds:=n.decls) (us:=us) (args:=s.args) om ‹s.args[0]? = some _› om; grind)|(have q:=U2 (ds:=n.decls) (us:=us) (args:=s.args) om ‹s.args[0]? = some _› om ‹us[_]? = some _›; grind))))
    refine ak (ar (ir 1 [(6,.i (-1))] (ie ?_)))
    exact Zb (r2 [] [.i (-1)] ⟨rfl,rfl⟩ (li (by first|rfl|( grind)|(have q:=Ub (ds:=n.decls) (us:=us) (args:=s.args) om; grind)|(have q:=Uc (ds:=n.decls) (us:=us) (args:=s.args) om ‹s.args[0]? = some _› om; grind)|(have q:=U2 (ds:=n.decls) (us:=us) (args:=s.args) om ‹s.args[0]? = some _› om ‹us[_]? = some _›; grind))))
   refine aq (ar (Z1 2 117 (.b (s.op==9)) (ie (XI (fun F h=>F=[(1,Z0 us),(3,.p b1 0),(5,.p b2 0),(40,.i s.op),(117,.b ((s.op==9)||(s.op==10)))]/\h=[.obj b2 (Yg s),.obj b1 (ZU n)]) ?_ ?_))))
   ·refine ac (s.op==9) Zh (fun Kd=>?_) (fun Kd=>?_)
    ·refine ak ?_
     exact ZW ⟨rfl,rfl⟩ (wk [0,0] (fq (fc (x:=.b (s.op==9)) (lb (by first|rfl|(rw [Zo Kd])|(rw [Zc Kd])|(simp [Kd];done)|(rw [Xl];simp [Kd];done)|omega)) fl)))
    refine az (ir 2 [(1,Z0 us),(3,.p b1 0),(5,.p b2 0),(40,.i s.op),(117,.b (s.op==10))] (ie ?_))
    exact ZW ⟨rfl,rfl⟩ (wk [0,0] (fq (fc (x:=.b (s.op==10)) (lb (by first|rfl|(rw [Zo Kd])|(rw [Zc Kd])|(simp [Kd];done)|(rw [Xl];simp [Kd];done)|omega)) fl)))
   rintro F h ⟨rfl,rfl⟩
   refine ac ((s.op==9)||(s.op==10)) (p:=(s.op=9)∨(s.op=10)) (Yo Zh Zh) (fun Z0i=>?_) (fun Z0i=>?_)
   ·refine ar (iR 3 [(120,ZD n),(121,Z0 us),(122,Y3 s)] [1,0] [b1,b2] (ZA [] (Z73 n us s) (ir 1 [(6,.i (TK n us s.op s.num s.args))] (ie ?_))))
    exact Zb (r2 [] [.i (TK n us s.op s.num s.args)] ⟨rfl,rfl⟩ (li (by first|rfl|( grind)|(have q:=Ub (ds:=n.decls) (us:=us) (args:=s.args) om; grind)|(have q:=Uc (ds:=n.decls) (us:=us) (args:=s.args) om ‹s.args[0]? = some _› om; grind)|(have q:=U2 (ds:=n.decls) (us:=us) (args:=s.args) om ‹s.args[0]? = some _› om ‹us[_]? = some _›; grind))))
   refine ar (ir 2 [(1,Z0 us),(3,.p b1 0),(5,.p b2 0),(40,.i s.op),(124,.b (s.op==11))] (ie (ac (s.op==11) Zh (fun Z0j=>?_) (fun Z0j=>?_))))
   ·refine aD 26 (Y6 24 26 [0,1] (.n 127 (Z0 s.args) .r) [0] [b2] (dw 2 (Yh s.args) (ZZ 21 23 [3,4] 130 (.b ((s.args.length:Int)==2)) (db (b:=((s.args.length:Int)==2)) 130 (fun WC=>?_) (fun WC=>?_)))))
    ·have UM:(s.args.length:Int)=2:=(Zh).1 WC
     refine Y6 19 21 [5,6] (.n 132 (Z0 s.args) (.k (.d .r))) [0] [b2] ?_
     obtain ⟨x1,Z3⟩:=Zr (xs:=s.args) (j:=0) om
     refine dx 7 (Zm none 0 1 (Y4 Z3)) (Y0 16 18 [8,9] (.n 134 (.i x1) (.n 135 (Z0 us) .r)) (dw 10 (Yh us) (da 11 (((us.length:Int)-1)) (((us.length:Int))-(1)) (Z9 12 (Yv 12 [] [] [] (UC x1 0 ((us.length:Int)-1)) (ZZ 11 13 [13,14] 140 (.b (decide (0<=x1/\x1<=((us.length:Int)-1)))) (db (b:=(decide (0<=x1/\x1<=((us.length:Int)-1)))) 140 (fun WX=>?_) (fun WX=>?_))))))))
     ·have Uw:0<=x1/\x1<=((us.length:Int)-1):=(dq).1 WX
      refine Y6 6 11 [15,16,17,18,19] (.n 142 (Zd n.decls) (.n 143 (Z0 us) (.n 145 (Z0 s.args) (.k (.d .r))))) [1,0] [b1,b2] (dx 20 (Zm none 0 1 (Y4 Z3)) (ZZ 4 5 [21] 147 (.i x1) ?_))
      obtain ⟨x2,Zt⟩:=Zr (xs:=us) (j:=x1.toNat) om
      refine dx 22 (Zm none x1 1 (Y4 Zt)) (ZZ 2 3 [23] 149 (.i x2) (Z9 24 (Yv 24 [] [] [] (CX n.decls x2) (ZZ 0 1 [25] 151 (.b (X5 n.decls x2)) (de (ac (X5 n.decls x2) Iff.rfl (fun Z0k=>?_) (fun Z0k=>?_)))))))
      ·refine aD 14 (Y6 9 14 [0,1,2,3,4] (.n 153 (Zd n.decls) (.n 154 (Z0 us) (.n 156 (Z0 s.args) .r))) [1,0] [b1,b2] (dx 5 (Zm none 0 1 (Y4 Z3)) (ZZ 7 8 [6] 158 (.i x1) (dx 7 (Zm none x1 1 (Y4 Zt)) (ZZ 5 6 [8] 160 (.i x2) (da 9 ((x2-1)) ((x2)-(1)) (hb:=(by have:=Gp ‹X5 n.decls _=true›;omega)) ?_))))))
       obtain ⟨x3,YT⟩:=Zr (xs:=n.decls) (j:=(x2-1).toNat) (by have:=Gp ‹X5 n.decls _=true›;omega)
       have had:=OV (us:=us) (args:=s.args) om ‹s.args[0]? = some _› om ‹us[_]? = some _› ‹X5 n.decls _=true› YT
       refine dx 10 (Ak (es:=YW n.decls) (hv:=none) (j:=(x2-1)) (sz:=3) (y:=Uo x3) kr (by have:=Gp ‹X5 n.decls _=true›;omega) (Vk YT) rfl) (ZZ 2 3 [11] 163 (Uo x3) (Z9 12 (dA 12 [0,1] [b2,b1] [.i 0,.i 0,nl] ?_)))
       intro b3
       refine Z9 13 (YL 13 0 [] [] b3 (Wt x3) (de (aD 8 (Y6 5 8 [0,1,2] (.n 164 (Z0 us) (.n 166 (Z0 s.args) .r)) [1] [b2] (dx 3 (Kl (es:=Z8 s.args) (hv:=none) (l:=1) (m:=(((Z8 s.args).length:Nat):Int)) (sz:=1) (es':=Z8 (s.args.drop 1)) kr om (by simp<;>omega) (by simp<;>omega) (YF _) (by first|(simp only [VR,Vp,KD,J9];done)|(simp only [VR,Vp,KD,J9];rfl)|(simp [KD,J9];done))) (Y6 2 4 [4,5] (.n 169 (.i x3.frm) .r) [0] [b3] (Z9 6 (dL 6 [1] [b2] (Z8 [x3.frm]) 1 1 ?_))))))))
       intro v5
       refine Y0 1 1 [] (.n 170 (Z0 [x3.frm]) (.p .r)) (Z9 7 (Yv 7 [] [] [] (Aj us (s.args.drop 1) [x3.frm] (hl_tys:=(by first|(simp;done)|(have:=VK Xu s.num;omega)))) (de (ac (XS us (s.args.drop 1) [x3.frm]) Iff.rfl (fun Lq=>?_) (fun Lq=>?_)))))
       ·refine ar (iR 3 [(6,.i x3.to_)] [1] [b3] (ie ?_))
        exact Zb (r2 [] [.i x3.to_] ⟨rfl,rfl⟩ (li (by first|rfl|(clear Z3 Zt YT;grind)|(have q:=Ub (ds:=n.decls) (us:=us) (args:=s.args) om;clear Z3 Zt YT;grind)|(have q:=Uc (ds:=n.decls) (us:=us) (args:=s.args) om ‹s.args[0]? = some _› om;clear Z3 Zt YT;grind)|(have q:=U2 (ds:=n.decls) (us:=us) (args:=s.args) om ‹s.args[0]? = some _› om ‹us[_]? = some _›;clear Z3 Zt YT;grind))))
       refine ak (ar (ir 1 [(6,.i (-1))] (ie ?_)))
       exact Zb (r2 [] [.i (-1)] ⟨rfl,rfl⟩ (li (by first|rfl|(clear Z3 Zt YT;grind)|(have q:=Ub (ds:=n.decls) (us:=us) (args:=s.args) om;clear Z3 Zt YT;grind)|(have q:=Uc (ds:=n.decls) (us:=us) (args:=s.args) om ‹s.args[0]? = some _› om;clear Z3 Zt YT;grind)|(have q:=U2 (ds:=n.decls) (us:=us) (args:=s.args) om ‹s.args[0]? = some _› om ‹us[_]? = some _›;clear Z3 Zt YT;grind))))
      refine ak (ar (ir 1 [(6,.i (-1))] (ie ?_)))
      exact Zb (r2 [] [.i (-1)] ⟨rfl,rfl⟩ (li (by first|rfl|(clear Z3 Zt;grind)|(have q:=Ub (ds:=n.decls) (us:=us) (args:=s.args) om;clear Z3 Zt;grind)|(have q:=Uc (ds:=n.decls) (us:=us) (args:=s.args) om ‹s.args[0]? = some _› om;clear Z3 Zt;grind)|(have q:=U2 (ds:=n.decls) (us:=us) (args:=s.args) om ‹s.args[0]? = some _› om ‹us[_]? = some _›;clear Z3 Zt;grind))))
     have Tu:¬(0<=x1/\x1<=((us.length:Int)-1)):=ZI dq WX
     refine Y0 0 11 [15,16,17,18,19,20,21,22,23,24,25] (.n 151 (.b false) (.k (.d .r))) (de (WT (ak (ar (ir 1 [(6,.i (-1))] (ie ?_))))))
     exact Zb (r2 [] [.i (-1)] ⟨rfl,rfl⟩ (li (by first|rfl|(clear Z3;grind)|(have q:=Ub (ds:=n.decls) (us:=us) (args:=s.args) om;clear Z3;grind)|(have q:=Uc (ds:=n.decls) (us:=us) (args:=s.args) om ‹s.args[0]? = some _› om;clear Z3;grind)|(have q:=U2 (ds:=n.decls) (us:=us) (args:=s.args) om ‹s.args[0]? = some _› om ‹us[_]? = some _›;clear Z3;grind))))
    have Tc:¬((s.args.length:Int)=2):=ZI Zh WC
    refine Y0 0 21 [5,6,7,8,9,10,11,12,13,14,15,16,17,18,19,20,21,22,23,24,25] (.n 151 (.b false) (.k (.d .r))) (de (WT (ak (ar (ir 1 [(6,.i (-1))] (ie ?_))))))
    exact Zb (r2 [] [.i (-1)] ⟨rfl,rfl⟩ (li (by first|rfl|( grind)|(have q:=Ub (ds:=n.decls) (us:=us) (args:=s.args) om; grind)|(have q:=Uc (ds:=n.decls) (us:=us) (args:=s.args) om ‹s.args[0]? = some _› om; grind)|(have q:=U2 (ds:=n.decls) (us:=us) (args:=s.args) om ‹s.args[0]? = some _› om ‹us[_]? = some _›; grind))))
   refine aq (ar (Z1 2 174 (.b (s.op==14)) (ie (XI (fun F h=>F=[(1,Z0 us),(3,.p b1 0),(5,.p b2 0),(174,.b ((s.op==14)||((s.op==15)||((s.op==16)||(s.op==17)))))]/\h=[.obj b2 (Yg s),.obj b1 (ZU n)]) ?_ ?_))))
   ·refine ac (s.op==14) Zh (fun T0=>?_) (fun T0=>?_)
    ·refine ak ?_
     exact ZW ⟨rfl,rfl⟩ (wk [0,0] (fw (fr (fc (x:=.b (s.op==14)) (lb (by first|rfl|(rw [Zo T0])|(rw [Zc T0])|(simp [T0];done)|(rw [Xl];simp [T0];done)|omega)) fl))))
    refine ar (ir 2 [(1,Z0 us),(3,.p b1 0),(5,.p b2 0),(40,.i s.op),(174,.b (s.op==15))] (ie (ac (s.op==15) Zh (fun Jl=>?_) (fun Jl=>?_))))
    ·refine ak ?_
     exact ZW ⟨rfl,rfl⟩ (wk [0,0] (fw (fr (fc (x:=.b (s.op==15)) (lb (by first|rfl|(rw [Zo T0])|(rw [Zc T0])|(simp [T0,Jl];done)|(rw [Xl];simp [T0,Jl];done)|omega)) fl))))
    refine ar (Z5 2 (.n 174 (.b (s.op==16)) (.w .z)) (ie (ac (s.op==16) Zh (fun Cu=>?_) (fun Cu=>?_))))
    ·refine ak ?_
     exact ZW ⟨rfl,rfl⟩ (wk [0,0] (fw (fr (fc (x:=.b (s.op==16)) (lb (by first|rfl|(rw [Zo T0])|(rw [Zc T0])|(simp [T0,Jl,Cu];done)|(rw [Xl];simp [T0,Jl,Cu];done)|omega)) fl))))
    refine az (Z5 2 (.n 174 (.b (s.op==17)) (.d .r)) (ie ?_))
    exact ZW ⟨rfl,rfl⟩ (wk [0,0] (fw (fr (fc (x:=.b (s.op==17)) (lb (by first|rfl|(rw [Zo T0])|(rw [Zc T0])|(simp [T0,Jl,Cu];done)|(rw [Xl];simp [T0,Jl,Cu];done)|omega)) fl))))
   rintro F h ⟨rfl,rfl⟩
   refine ac ((s.op==14)||((s.op==15)||((s.op==16)||(s.op==17)))) (p:=(s.op=14)∨((s.op=15)∨((s.op=16)∨(s.op=17)))) (Yo Zh (Yo Zh (Yo Zh Zh))) (fun Z0l=>?_) (fun Z0l=>?_)
   ·refine ar (iR 3 [(179,ZD n),(180,Z0 us),(181,Y3 s)] [1,0] [b1,b2] (ZA [] (Z6p n us s) (ir 1 [(6,.i (To n.decls us s.op s.args))] (ie ?_))))
    exact Zb (r2 [] [.i (To n.decls us s.op s.args)] ⟨rfl,rfl⟩ (li (by first|rfl|( grind)|(have q:=Ub (ds:=n.decls) (us:=us) (args:=s.args) om; grind)|(have q:=Uc (ds:=n.decls) (us:=us) (args:=s.args) om ‹s.args[0]? = some _› om; grind)|(have q:=U2 (ds:=n.decls) (us:=us) (args:=s.args) om ‹s.args[0]? = some _› om ‹us[_]? = some _›; grind))))
   refine ak (ar (ir 1 [(6,.i (-1))] (ie ?_)))
   exact Zb (r2 [] [.i (-1)] ⟨rfl,rfl⟩ (li (by first|rfl|( grind)|(have q:=Ub (ds:=n.decls) (us:=us) (args:=s.args) om; grind)|(have q:=Uc (ds:=n.decls) (us:=us) (args:=s.args) om ‹s.args[0]? = some _› om; grind)|(have q:=U2 (ds:=n.decls) (us:=us) (args:=s.args) om ‹s.args[0]? = some _› om ‹us[_]? = some _›; grind))))
  refine ir 1 [(1,Z0 us),(3,.p b1 0),(5,.p b2 0),(17,.b ((s.num != 0)&&(!WO s.op)))] (ib (b:=((s.num != 0)&&(!WO s.op))) 17 (fun WH=>?_) (fun WH=>?_))
  ·have QJ:(s.num≠0)/\(¬(WO s.op=true)):=((YD Yi (Yw Iff.rfl))).1 WH
   refine Z5 5 (.n 22 (.b true) (.d (.k (.k (.k .z))))) ?_
   exact YG (wk [0,0] (fw (fr (Zu true WH fl)))) hj2
  have QK:¬((s.num≠0)/\(¬(WO s.op=true))):=ZI (YD Yi (Yw Iff.rfl)) WH
  refine Y2 2 (.n 18 (Z0 us) (.n 19 (Y3 s) (.w .z))) [0] [b2] (ZA [] (Z7e us s) (Z1 2 22 (.b (!VQ us s.op s.into)) ?_))
  exact YG (wk [0,0] (fw (fr (Zu (!VQ us s.op s.into) WH fl)))) hj2
 refine iR 4 [(1,Z0 us),(3,.p b1 0),(5,.p b2 0),(11,.b (s.num != 0))] [0] [b2] (ib (b:=(s.num != 0)) 11 (fun WI=>?_) (fun WI=>?_))
 ·have Jm:s.num≠0:=(Yi).1 WI
  refine Y2 2 (.n 13 (.i s.op) (.w .z)) [0] [b2] (ZA [] (Z6q s.op) (Z1 2 16 (.b (!WO s.op)) ?_))
  exact YG (wk [0,0] (fw (fr (Zu (!WO s.op) WI fl)))) hj1
 have QL:¬(s.num≠0):=ZI Yi WI
 refine Z5 5 (.n 16 (.b false) (.d (.k (.k (.k .z))))) ?_
 exact YG (wk [0,0] (fw (fr (Zu false WI fl)))) hj1
theorem Z6l (n:Zx) (us:List Int) (b:Z6) (hn:Xd n:=by exact ob) (hb:us.length+4*b.sz<=1000000000:=by exact ob) (ih:∀(s:Z4) (us:List Int),(s.sz<b.sz)->(us.length+4*s.sz<=1000000000)->Zi Tryz.prog 98 [ZD n,Z0 us,Y3 s] [] (fun r h=>r=.i (ZV n us s)/\h=[])):Zi Tryz.prog 60 [ZD n,Z0 us,Zs b] [] (fun r h=>r=.i (YV n us b)/\h=[]):=by
 have hbz:=Vf b
 have hbe:=Dh n us b
 refine ZK 52 Tryz.func60 (ar (iA (ZU n) ?_))
 intro b1
 refine iA (Yk b) ?_
 intro b2
 refine ir 1 [(1,Z0 us),(3,.p b1 0),(5,.p b2 0)] (ie (ar (Z1 1 10 (Z0 us) (ic [] (VP us) ?_))))
 rintro _ _ ⟨v1,rfl,rfl⟩
 refine Z1 1 7 (Z7 us v1) (ie (aq (ar (Z1 1 8 (.i 0) (ie (ab 0 (al (fun m F h=>∃(k:Nat) (vs:List Int) (v:Value),(k<=b.steps.length)/\(vs.length<=us.length+k)/\(V9 n (b.steps.drop k) vs=V9 n b.steps us)/\F=[(3,.p b1 0),(5,.p b2 0),(7,Z7 vs v),(8,.i k)]/\h=[.obj b2 (Yk b),.obj b1 (ZU n),.tail v 1]/\m=b.steps.length-k) _ _ _ ⟨0,us,v1,ob,ob,ob,rfl,rfl,rfl⟩ (wk [1,1,0] (fw (fr (Ya fl)))) ?_)))))))
 rintro m F h ⟨k,vs,v,Yj,Zp,Zy,rfl,rfl,rfl⟩
 refine aq (ar (ZY 3 12 (.i k) 14 (Ye b.steps) [0] [b2] (iw (Vl b.steps) (Z1 1 16 (.b (decide ((k:Int)<(b.steps.length:Int)))) (ie (ZM ((k:Int)<(b.steps.length:Int)) (fun Ze=>?_) (fun Ze=>?_)))))))
 ·refine ak (aq (ab 1 (aD 9 (Y6 4 9 [0,1,2,3,4] (.n 19 (ZD n) (.n 20 (Z7 vs v) (.n 22 (Ye b.steps) (.n 23 (.i k) .r)))) [1,0] [b1,b2] ?_))))
  obtain ⟨x1,Z3⟩:=Zr (xs:=b.steps) (j:=k) om
  have hss:=An Z3
  refine dx 5 (Zm none (k:Int) 5 (Wa Z3)) (Y0 2 3 [6] (.n 20 (Z0 vs) (.n 25 (Y3 x1) (.q 24 (.k (.d .r))))) (Z9 7 (Yv 7 [] [] [] (ih x1 vs ob ob) (ZZ 0 1 [8] 9 (.i (ZV n vs x1)) (de (aq (ar (Z1 2 28 (.b (decide ((ZV n vs x1)<0))) (ie (ZM ((ZV n vs x1)<0) (fun Zk=>?_) (fun Zk=>?_)))))))))))
  ·refine ar (ir 1 [(6,.i (-1))] (ie ?_))
   rw [Y8 Z3] at Zy
   exact Zb (r2 [] [.i (-1)] ⟨rfl,rfl⟩ (li (by clear Z3;first|rfl|omega|grind [V9])))
  refine ak (ar (ZY 3 30 (Ye b.steps) 31 (.i k) [0] [b2] (Zq (Zm none (k:Int) 5 (Wa Z3)) (Z1 2 34 (.i x1.op) (ZA [] (QW x1.op) (ie (JK (fun F h=>∃(w:Value),F=[(3,.p b1 0),(5,.p b2 0),(7,Z7 (if Xe x1.op=true then vs++[ZV n vs x1] else vs) w),(8,.i k)]/\h=[.obj b2 (Yk b),.obj b1 (ZU n),.tail w 1]) (fun _ _=>rfl) ?_ ?_)))))))
  ·refine ac (Xe x1.op) Iff.rfl (fun ZG=>?_) (fun ZG=>?_)
   ·refine az (ir 2 [(3,.p b1 0),(5,.p b2 0),(8,.i k),(36,Z7 vs v),(37,.i (ZV n vs x1))] (iL (Z8 [ZV n vs x1]) 1 1 ?_))
    intro v2
    refine Z5 0 (.n 38 (Z0 [ZV n vs x1]) (.p .r)) (ip 3 (Z8 (vs++[ZV n vs x1])) (Z8 vs) (Z8 [ZV n vs x1]) v none 1 (YF _) (YF _) (XX _) (by simp<;>omega) (by simp [XW,Z8]) ?_)
    intro v3
    refine Z1 1 7 (Z7 (vs++[ZV n vs x1]) v3) (ie ?_)
    exact ZW ⟨v3,rfl,rfl⟩ (wk [2,2,0] (fw (fc (x:=Z7 (vs++[ZV n vs x1]) v3) (Zg.slh _ (Yx Z8 (by first|rfl|(rw [Zo ZG])|(rw [Zc ZG])|(simp [ZG];done)|(rw [Xl];simp [ZG];done)|omega))) fl)))
   refine ak ?_
   exact ZW ⟨v,rfl,rfl⟩ (ZT 3 (fw (fc (x:=Z7 vs v) (Zg.slh _ (Yx Z8 (by first|rfl|(rw [Zo ZG])|(rw [Zc ZG])|(simp [ZG];done)|(rw [Xl];simp [ZG];done)|omega))) fl)))
  rintro F h ⟨w,rfl,rfl⟩
  refine az (ir 1 [(3,.p b1 0),(5,.p b2 0),(7,Z7 (if Xe x1.op=true then vs++[ZV n vs x1] else vs) w),(17,.i k)] (ZL k (Z1 1 8 (.i (k+1:Nat)) (ie ?_))))
  have hdr:=Y8 Z3
  exact ZO ⟨k+1,(if Xe x1.op=true then vs++[ZV n vs x1] else vs),w,ob,(by split<;>(try simp)<;>omega),(by rw [hdr] at Zy;clear hdr Z3;grind [V9]),rfl,rfl,rfl⟩ (ZT 3 (fw (fr (ZQ k fl))))
 refine ax 0 (aq (ar (ZY 3 41 (.i b.result) 42 (Z7 vs v) [0] [b2] (iw (Yh vs) (ia (((vs.length:Int)-1)) (((vs.length:Int))-(1)) (ZA [] (UC b.result 0 ((vs.length:Int)-1)) (Z1 1 46 (.b (!(decide (0<=b.result/\b.result<=((vs.length:Int)-1))))) (ie (ac (!(decide (0<=b.result/\b.result<=((vs.length:Int)-1)))) (p:=¬(0<=b.result/\b.result<=((vs.length:Int)-1))) (Yw dq) (fun Ym=>?_) (fun Ym=>?_))))))))))
 ·refine ar (ir 1 [(6,.i (-1))] (ie ?_))
  try rw [Xb (xs:=b.steps) (k:=k) om] at Zy
  exact Zb (r2 [] [.i (-1)] ⟨rfl,rfl⟩ (li (by rw [hbe,<-Zy];show _=(Xw vs b.result).getD (-1);rw [Qi Ym];rfl)))
 refine ak (ar (iR 3 [(47,Z7 vs v),(49,.i b.result)] [0] [b2] ?_))
 obtain ⟨x2,Zt⟩:=Zr (xs:=vs) (j:=b.result.toNat) om
 refine Zq (Zm (some v) b.result 1 (Y4 Zt)) (ir 2 [(6,.i x2)] (ie ?_))
 try rw [Xb (xs:=b.steps) (k:=k) om] at Zy
 exact Zb (r2 [] [.i x2] ⟨rfl,rfl⟩ (li (by rw [hbe,<-Zy];show _=(Xw vs b.result).getD (-1);rw [TF om Zt];rfl)))
theorem Z7a (b:Z6) (l:Int) (hb:b.sz<=1000000000) (hl:0<=l/\l<=600) (ih:∀(b2:Z6) (l:Int),(b2.sz<b.sz)->(0<=l/\l<=600)->Zi Tryz.prog 97 [Zs b2,.i l] [] (fun r h=>r=.i (W1 b2 l)/\h=[])):Zi Tryz.prog 97 [Zs b,.i l] [] (fun r h=>r=.i (W1 b l)/\h=[]):=by
 have hbz:=Vf b
 have hbe:=M1 b l
 refine ZK 43 Tryz.func97 (ar (iA (Yk b) ?_))
 intro b1
 refine ir 1 [(1,.i l),(2,.p b1 0)] (ie (aq (ar (Z1 1 5 (.i 0) (ie (ab 0 (al (fun m F h=>∃(k:Nat) (q:Int),(k<=b.steps.length)/\(0<=q/\q<=600)/\(Td (b.steps.drop k) q=Td b.steps l)/\F=[(1,.i q),(2,.p b1 0),(5,.i k)]/\h=[.obj b1 (Yk b)]/\m=b.steps.length-k) _ _ _ ⟨0,l,ob,ob,ob,rfl,rfl,rfl⟩ (wk [0] (fw (Ya fl))) ?_)))))))
 rintro m F h ⟨k,q,Yj,Zp,Zy,rfl,rfl,rfl⟩
 refine aq (ar (ZY 3 7 (.i k) 9 (Ye b.steps) [0] [b1] (iw (Vl b.steps) (Z1 1 11 (.b (decide ((k:Int)<(b.steps.length:Int)))) (ie (ZM ((k:Int)<(b.steps.length:Int)) (fun Ze=>?_) (fun Ze=>?_)))))))
 ·refine ak (aq (ab 1 (aq (ar (Z1 2 15 (.b (decide (q<1))) (ie (ZM (q<1) (fun Zk=>?_) (fun Zk=>?_))))))))
  ·refine ar (ir 1 [(4,.i (-1))] (ie ?_))
   try rw [Xb (xs:=b.steps) (k:=k) om] at Zy
   obtain ⟨x1,Z3⟩:=Zr (xs:=b.steps) (j:=k) om
   rw [Y8 Z3] at Zy
   clear Z3
   exact Zb (r2 [] [.i (-1)] ⟨rfl,rfl⟩ (li (by first|rfl|omega|grind [Td])))
  obtain ⟨s1,hxs1⟩:=Zr (xs:=b.steps) (j:=k) om
  have hss:=QY hxs1
  have hkz:=Uz s1
  refine ak (ar (Z1 1 16 (.i q) (ia ((q-1)) ((q)-(1)) (ir 1 [(1,.i (q-1)),(2,.p b1 0),(5,.i k)] (ie (ar (Z1 1 6 (.i 0) (ie (ab 2 (al (fun m F h=>∃(j:Nat) (j2:Int),(j<=s1.kids.length)/\(0<=j2/\j2<=600)/\(Tw (s1.kids.drop j) j2=Tw s1.kids (q-1))/\F=[(1,.i j2),(2,.p b1 0),(5,.i k),(6,.i j)]/\h=[.obj b1 (Yk b)]/\m=s1.kids.length-j) _ _ _ ⟨0,(q-1),ob,ob,ob,rfl,rfl,rfl⟩ (wk [0] (fw (fr (Ya fl)))) ?_))))))))))
  rintro m F h ⟨j,j2,VS,XH,XE,rfl,rfl,rfl⟩
  refine aq (ar (Y2 4 (.n 18 (.i j) (.n 20 (Ye b.steps) (.n 21 (.i k) .r))) [0] [b1] (Zq (Zm none (k:Int) 5 (Wa hxs1)) (Z1 2 24 (Yu s1.kids) (iw (VG s1.kids) (Z1 1 26 (.b (decide ((j:Int)<(s1.kids.length:Int)))) (ie (ZM ((j:Int)<(s1.kids.length:Int)) (fun ZG=>?_) (fun ZG=>?_)))))))))
  ·refine ak (aq (ab 3 (ar (ZY 3 30 (Ye b.steps) 31 (.i k) [0] [b1] (Zq (Zm none (k:Int) 5 (Wa hxs1)) (Yq 3 34 (Yu s1.kids) 35 (.i j) ?_))))))
   obtain ⟨x1,Z3⟩:=Zr (xs:=s1.kids) (j:=j) om
   have hks:=Uy Z3
   have hle:=GH.2 x1 j2 om
   refine Zq (Zm none (j:Int) 2 (U5 Z3)) (Yq 2 37 (Zs x1) 38 (.i j2) (ZA [] (ih x1 j2 ob ob) (ir 1 [(1,.i (W1 x1 j2)),(2,.p b1 0),(5,.i k),(6,.i j)] (ie (ar (Z1 2 41 (.b (decide ((W1 x1 j2)<0))) (ie (ZM ((W1 x1 j2)<0) (fun Ym=>?_) (fun Ym=>?_)))))))))
   ·refine ar (ir 1 [(4,.i (-1))] (ie ?_))
    rw [Y8 hxs1] at Zy
    rw [Y8 Z3] at XE
    have hls:=E7 s1 (q-1)
    exact Zb (r2 [] [.i (-1)] ⟨rfl,rfl⟩ (li (by clear Z3 hxs1;first|rfl|omega|grind [Td,Tw])))
   refine ak (az (Z1 1 27 (.i j) (ZL j (Z5 1 (.n 6 (.i (j+1:Nat)) (.p (.d (.d (.k (.k (.k .z))))))) (ie ?_)))))
   have hdr:=Y8 Z3
   exact ZO ⟨j+1,(W1 x1 j2),ob,ob,(by rw [hdr] at XE;clear hdr Z3 hxs1;grind [Tw]),rfl,rfl,rfl⟩ (wk [0] (fw (fr (ZQ j fl))))
  refine ax 2 (az (Z1 1 12 (.i k) (ZL k (ir 1 [(1,.i j2),(2,.p b1 0),(5,.i (k+1:Nat))] (ie ?_)))))
  rw [Xb om] at XE
  have hls:=E7 s1 (q-1)
  rw [Tw] at XE
  have hdr:=Y8 hxs1
  exact ZO ⟨k+1,j2,ob,ob,(by rw [hdr] at Zy;clear hdr hxs1;grind [Td]),rfl,rfl,rfl⟩ (wk [0] (fw (ZQ k fl)))
 refine ax 0 (ar (ir 2 [(4,.i q)] (ie ?_)))
 try rw [Xb (xs:=b.steps) (k:=k) om] at Zy
 exact Zb (r2 [] [.i q] ⟨rfl,rfl⟩ (li (by first|rfl|omega|grind [Td])))
theorem Z79 (b:Z6) (l:Int) (hb:b.sz<=1000000000) (hl:0<=l/\l<=600):Zi Tryz.prog 97 [.agg [.sl (Zv b.steps) none,.i b.result],.i l] [] (fun r h=>r=.i (W1 b l)/\h=[]):=by
 have key:∀m:Nat,∀(b:Z6) (l:Int),b.sz<=m->b.sz<=1000000000->(0<=l/\l<=600)->Zi Tryz.prog 97 [.agg [.sl (Zv b.steps) none,.i b.result],.i l] [] (fun r h=>r=.i (W1 b l)/\h=[]):=by
  intro m
  induction m with
  | zero=>intro b l h;have:=b.sz_pos;omega
  | succ m ih=>intro b l h1 h2 h3;exact Z7a b l h2 h3 fun b2 l2 k1 k2=>ih b2 l2 om om k2
 exact key b.sz b l (X6 _) hb hl
theorem Z6k (n:Zx) (hn:Xd n) (m:Nat):∀(b:Z6) (us:List Int),(b.sz<=m)->(us.length+4*b.sz<=1000000000)->Zi Tryz.prog 60 [ZD n,Z0 us,Zs b] [] (fun r h=>r=.i (YV n us b)/\h=[]):=by
 induction m with
 | zero=>intro b us h;have:=b.sz_pos;omega
 | succ m ih=>intro b us h1 h2;exact Z6l n us b hn h2 fun s us2 k1 k2=>NM n us2 s hn k2 fun b2 us3 q1 q2=>ih b2 us3 om q2
theorem ND (n:Zx) (us:List Int) (b:Z6) (hn:Xd n) (hb:us.length+4*b.sz<=1000000000):Zi Tryz.prog 60 [ZD n,Z0 us,Zs b] [] (fun r h=>r=.i (YV n us b)/\h=[]):=
 Z6k n hn b.sz b us (X6 _) hb
theorem Hl (n:Zx) (us:List Int) (s:Z4) (hn:Xd n) (hb:us.length+4*s.sz<=1000000000):Zi Tryz.prog 98 [ZD n,Z0 us,Y3 s] [] (fun r h=>r=.i (ZV n us s)/\h=[]):=
 NM n us s hn hb fun b2 us3 _ q2=>ND n us3 b2 hn q2
theorem Z7b (b:Z6) (hb:b.sz<=1000000000:=by exact ob):Zi Tryz.prog 59 [Zs b] [] (fun r h=>r=.i (U9 b)/\h=[]):=by
 have hle:=GH.2 b 600 om
 refine ZK 10 Tryz.func59 (ar (iA (Yk b) ?_))
 intro b1
 refine ir 1 [(1,.p b1 0)] (ie (ar (iR 1 [(4,Zs b)] [0] [b1] (ZA [] (Z79 b 600 ob ob) (ir 1 [(3,.i (W1 b 600))] (ie (aq (ar (Z1 2 7 (.b (decide ((W1 b 600)<0))) (ie (ZM ((W1 b 600)<0) (fun Ze=>?_) (fun Ze=>?_))))))))))))
 ·refine ar (ir 1 [(2,.i (-1))] (ie ?_))
  exact Zb (r2 [] [.i (-1)] ⟨rfl,rfl⟩ (li (by first|rfl|omega|grind [U9])))
 refine ak (ar (ir 1 [(8,.i (W1 b 600))] (ia ((600-(W1 b 600))) ((600)-(W1 b 600)) (ir 1 [(2,.i (600-(W1 b 600)))] (ie ?_)))))
 exact Zb (r2 [] [.i (600-(W1 b 600))] ⟨rfl,rfl⟩ (li (by first|rfl|omega|grind [U9])))
theorem Jg (z:Int) :Zi Tryz.prog 190 [.i z] [] (fun r h=>r=ZH (Z2.mk 0 z [])/\h=[]):=by
 refine ZK 6 Tryz.func190 (ar (iA [.i 0,.i 0,nl] ?_))
 intro b1
 refine ie (ar (ir 1 [(2,.p b1 0),(3,.i z)] (iL (Yr []) 0 3 ?_)))
 intro v1
 refine Z1 1 5 (.agg [.i 0,.i z,XR [] v1]) (ZF 1 b1 [.i 0,.i z,XR [] v1] (ie ?_))
 exact Zb (r3 [] [.agg [.i 0,.i z,XR [] v1]] [0] [(b1,b1)] ⟨rfl,rfl⟩ (Zg.agg (.cons li (.cons li (.cons (Zg.sl _ (Yx Yr rfl)) .nil)))))
theorem Tt (z:Int) :Zi Tryz.prog 222 [.i z] [] (fun r h=>r=ZH (Z2.mk 12 z [])/\h=[]):=by
 refine ZK 6 Tryz.func222 (ar (iA [.i 0,.i 0,nl] ?_))
 intro b1
 refine ie (ar (ir 1 [(2,.p b1 0),(3,.i z)] (iL (Yr []) 0 3 ?_)))
 intro v1
 refine Z1 1 5 (.agg [.i 12,.i z,XR [] v1]) (ZF 1 b1 [.i 12,.i z,XR [] v1] (ie ?_))
 exact Zb (r3 [] [.agg [.i 12,.i z,XR [] v1]] [0] [(b1,b1)] ⟨rfl,rfl⟩ (Zg.agg (.cons li (.cons li (.cons (Zg.sl _ (Yx Yr rfl)) .nil)))))
theorem XF (op:Int) (nm:Int) (ks:List Z2) :Zi Tryz.prog 220 [.i op,.i nm,X3 ks] [] (fun r h=>r=ZH (Z2.mk op nm ks)/\h=[]):=by
 refine ZK 11 Tryz.func220 (ar (iA [.i 0,.i 0,nl] ?_))
 intro b1
 refine ie (ar (ir 4 [(6,.p b1 0),(10,.agg [.i op,.i nm,X3 ks])] (ZF 0 b1 [.i op,.i nm,X3 ks] (ie ?_))))
 exact Zb (r3 [] [.agg [.i op,.i nm,X3 ks]] [0] [(b1,b1)] ⟨rfl,rfl⟩ (Zg.agg (.cons li (.cons li (.cons (Zg.sl _ (Yx Yr rfl)) .nil)))))
theorem Lj (rd:Nat) (bs:List Int) (p:Nat) (ZE:∀z∈bs,0<=z/\z<=255) (hp:p+4<=1000000000:=by exact ob):Zi Tryz.prog 251 [.p rd 0] [Yn rd bs p] (fun r h=>∃(z:Int),r=.i z/\h=[.obj rd [X9 bs,.i (p+4:Nat)]]/\-2000<=z/\z<=2000):=by
 refine ZK 12 Tryz.func251 (ar (ir 1 [(0,.p rd 0)] (ie (ar (Yq 2 3 (.p rd 0) 4 (.p rd 0) (ic [0] (XP rd bs p 6 (ZE:=ob)) ?_))))))
 rintro _ _ ⟨k1,rfl,rfl,ZP⟩
 have qhp1:=ZP.lt om
 refine Z1 1 6 (.p rd 0) (ic [0] (XP rd bs (p+1) 6 (ZE:=ob)) ?_)
 rintro _ _ ⟨k2,rfl,rfl,Y1⟩
 have qhp2:=Y1.lt om
 refine Z1 1 8 (.p rd 0) (ic [0] (XP rd bs ((p+1)+1) 40 (ZE:=ob)) ?_)
 rintro _ _ ⟨k3,rfl,rfl,Yy⟩
 have qhp3:=Yy.lt om
 refine iL (Z8 [k1,k2,0,1,2,-1,3,k3,999,-998]) 10 1 ?_
 intro v1
 refine Z5 0 (.n 10 (Z0 [k1,k2,0,1,2,-1,3,k3,999,-998]) (.p .r)) (ic [1] (Vw rd bs (((p+1)+1)+1) [k1,k2,0,1,2,-1,3,k3,999,-998] (ZE:=ob)) ?_)
 rintro _ _ ⟨z1,rfl,rfl,YK⟩
 refine ir 1 [(2,.i z1)] (ie ?_)
 exact Zb (r1 [0] ⟨z1,rfl,rfl,(by simp at YK;omega)⟩)
theorem L8 (g:XU) (gb:Nat) (rs:List Func) (t:Int) (hg:GP g:=by exact ob) (W9:g.funcs <+: rs:=by exact ob):Zi Tryz.prog 265 [.agg (Y9 g gb),.i t] [YI gb rs] (fun r h=>∃(xs:List Int),r=Z0 xs/\h=[YI gb rs]/\xs.length<=4/\∀i∈xs,KY g t i):=by
 have hgl:=hg.len
 have hdl:=hg.decls.len
 refine ZK 53 Tryz.func265 (ar (iA (Y9 g gb) ?_))
 intro b1
 refine ir 1 [(1,.i t),(2,.p b1 0)] (ie (ar (iL (Z8 []) 0 1 ?_)))
 intro v1
 refine Z1 1 5 (Z7 [] v1) (ie (aq (ar (Z1 1 6 (.i 0) (ie (ab 0 (al (fun m F h=>∃(k:Nat) (ys:List Int) (u:Value),(k<=g.funcs.length)/\(ys.length<=k)/\(∀i∈ys,KY g t i)/\F=[(1,.i t),(2,.p b1 0),(5,Z7 ys u),(6,.i k)]/\h=[.obj b1 (Y9 g gb),YI gb rs,.tail u 1]/\m=g.funcs.length-k) _ _ _ ⟨0,[],v1,ob,ob,(fun i hi=>by cases hi),rfl,rfl,rfl⟩ (wk [1,1,0] (fw (fr (Ya fl)))) ?_)))))))
 rintro m F h ⟨k,ys,u,Yj,Zp,Zy,rfl,rfl,rfl⟩
 refine aq (ar (ZY 3 9 (.i k) 11 (.ms gb 0 g.funcs.length 4) [0] [b1] (io (.i g.funcs.length) (.i g.funcs.length) (lr _) (Z1 1 13 (.b (decide ((k:Int)<(g.funcs.length:Int)))) (ie (ZM ((k:Int)<(g.funcs.length:Int)) (fun Ze=>?_) (fun Ze=>?_)))))))
 ·refine ak (aq (ab 1 (ar (ZY 3 17 (.ms gb 0 g.funcs.length 4) 18 (.i k) [0] [b1] ?_))))
  obtain ⟨x1,Z3⟩:=Zr (xs:=g.funcs) (j:=k) om
  have hso:=(hg.sigs _ (Y7 Z3)).bd
  refine Zq (W4 gb g.funcs.length 4 k 5 (k:Int)) (Z1 1 20 (.val (.pointer (some ⟨gb,k*5,none⟩))) (VI (WY 1 gb 4 4 5 (k*5+0) (Zl (Xc rs)) [Z0 x1.params] 27 (Z0 x1.params) (U6 W9 Z3 0 rfl (WF rfl))) (iw (Yh x1.params) (Z1 1 7 (.i x1.params.length) (ie (aD 25 (ZZ 22 25 [0,1,2] 25 (.b (decide ((x1.params.length:Int)>0))) (db (b:=(decide ((x1.params.length:Int)>0))) 25 (fun Za=>?_) (fun Za=>?_)))))))))
  ·have ZP:(x1.params.length:Int)>0:=(dq).1 Za
   refine Y6 17 22 [3,4,5,6,7] (.n 27 (Zd g.decls) (.n 29 (.ms gb 0 g.funcs.length 4) (.n 30 (.i k) (.k (.d .r))))) [0,0] [b1,b1] (dx 8 (W4 gb g.funcs.length 4 k 5 (k:Int)) (ZZ 15 16 [9] 32 (.val (.pointer (some ⟨gb,k*5,none⟩))) (VT 10 (WY 1 gb 4 4 5 (k*5+0) (Zl (Xc rs)) [Z0 x1.params] 27 (Z0 x1.params) (U6 W9 Z3 0 rfl (WF rfl))) (ZZ 13 14 [11] 34 (.i x1.params.length) (da 12 ((((x1.params.length-1):Nat):Int)) (((x1.params.length:Int))-(1)) ?_)))))
   obtain ⟨x2,Zt⟩:=Zr (xs:=x1.params) (j:=(x1.params.length-1)) om
   refine dx 13 (Zm none (((x1.params.length-1):Nat):Int) 1 (Y4 Zt)) (Y6 7 11 [14,15,16,17] (.n 37 (.i x2) (.n 39 (.ms gb 0 g.funcs.length 4) (.n 40 (.i k) .r))) [0] [b1] (dx 18 (W4 gb g.funcs.length 4 k 5 (k:Int)) (ZZ 5 6 [19] 42 (.val (.pointer (some ⟨gb,k*5+1,none⟩))) (VT 20 (WY 1 gb 4 4 5 (k*5+1) (Zl (Xc rs)) [.i x1.result] 3 (.i x1.result) (U6 W9 Z3 1 rfl (WF rfl))) (ZZ 3 4 [22] 45 (.i t) (Z9 21 (Yv 21 [] [] [] (NC g.decls x2 x1.result) (ZZ 0 2 [23,24] 47 (.b ((WV g.decls x2 x1.result)==t)) (de (ac ((WV g.decls x2 x1.result)==t) Zh (fun Zk=>?_) (fun Zk=>?_)))))))))))
   ·refine az (Yq 2 48 (Z7 ys u) 49 (.i k) (iL (Z8 [(k:Int)]) 1 1 ?_))
    intro v2
    refine Z5 0 (.n 50 (Z0 [(k:Int)]) (.p .r)) (ip 3 (Z8 (ys++[(k:Int)])) (Z8 ys) (Z8 [(k:Int)]) u none 1 (YF _) (YF _) (XX _) (by simp<;>omega) (by simp [XW,Z8]) ?_)
    intro v3
    refine ir 1 [(1,.i t),(2,.p b1 0),(5,Z7 (ys++[(k:Int)]) v3),(6,.i k)] (ie (az (Z1 1 14 (.i k) (ZL k (Z5 1 (.n 6 (.i (k+1:Nat)) (.p (.d (.k (.k (.k .z)))))) (ie ?_))))))
    exact ZO ⟨k+1,(ys++[(k:Int)]),v3,ob,ob,(Xp Zy (KY.mk Z3 om Zt Zk)),rfl,rfl,rfl⟩ (wk [2,2,0] (fw (fr (ZQ k fl))))
   refine ak (az (Z1 1 14 (.i k) (ZL k (ir 1 [(1,.i t),(2,.p b1 0),(5,Z7 ys u),(6,.i (k+1:Nat))] (ie ?_)))))
   exact ZO ⟨k+1,ys,u,ob,ob,ob,rfl,rfl,rfl⟩ (ZT 3 (fw (fr (ZQ k fl))))
  have Y1:¬((x1.params.length:Int)>0):=ZI dq Za
  refine Y0 0 22 [3,4,5,6,7,8,9,10,11,12,13,14,15,16,17,18,19,20,21,22,23,24] (.n 47 (.b false) (.k (.d .r))) (de (WT (ak (az (Z1 1 14 (.i k) (ZL k (ir 1 [(1,.i t),(2,.p b1 0),(5,Z7 ys u),(6,.i (k+1:Nat))] (ie ?_))))))))
  exact ZO ⟨k+1,ys,u,ob,ob,ob,rfl,rfl,rfl⟩ (ZT 3 (fw (fr (ZQ k fl))))
 refine ax 0 (ar (ir 2 [(4,Z7 ys u)] (ie ?_)))
 exact Zb (r2 [1] [Z7 ys u] ⟨ys,rfl,rfl,⟨by omega,Zy⟩⟩ (Zg.forget _ _))
theorem Z0g (vs:List Int) (t:Int) (hv:vs.length<=2000:=by exact ob):Zi Tryz.prog 252 [Z0 vs,.i t] [] (fun r h=>∃(xs:List Int),r=Z0 xs/\h=[]/\xs.length<=vs.length/\∀i∈xs,0<=i/\i<vs.length):=by
 refine ZK 25 Tryz.func252 (ar (ir 1 [(0,Z0 vs),(1,.i t)] (ie (ar (iL (Z8 []) 0 1 ?_)))))
 intro v1
 refine Z1 1 5 (Z7 [] v1) (ie (aq (ar (Z1 1 6 (.i 0) (ie (ab 0 (al (fun m F h=>∃(k:Nat) (ys:List Int) (u:Value),(k<=vs.length)/\(ys.length<=k)/\(∀i∈ys,0<=i/\i<vs.length)/\F=[(0,Z0 vs),(1,.i t),(5,Z7 ys u),(6,.i k)]/\h=[.tail u 1]/\m=vs.length-k) _ _ _ ⟨0,[],v1,ob,ob,(fun i hi=>by cases hi),rfl,rfl,rfl⟩ (wk [0] (fw (fr (Ya fl)))) ?_)))))))
 rintro m F h ⟨k,ys,u,Yj,Zp,Zy,rfl,rfl,rfl⟩
 refine aq (ar (Yq 2 8 (.i k) 9 (Z0 vs) (iw (Yh vs) (Z1 1 11 (.b (decide ((k:Int)<(vs.length:Int)))) (ie (ZM ((k:Int)<(vs.length:Int)) (fun Ze=>?_) (fun Ze=>?_)))))))
 ·refine ak (aq (ab 1 (ar (Yq 2 14 (Z0 vs) 15 (.i k) ?_))))
  obtain ⟨x1,Z3⟩:=Zr (xs:=vs) (j:=k) om
  refine Zq (Zm none (k:Int) 1 (Y4 Z3)) (Z1 3 19 (.b (x1==t)) (ie (ac (x1==t) Zh (fun Zk=>?_) (fun Zk=>?_))))
  ·refine az (Yq 2 20 (Z7 ys u) 21 (.i k) (iL (Z8 [(k:Int)]) 1 1 ?_))
   intro v2
   refine Z5 0 (.n 22 (Z0 [(k:Int)]) (.p .r)) (ip 1 (Z8 (ys++[(k:Int)])) (Z8 ys) (Z8 [(k:Int)]) u none 1 (YF _) (YF _) (XX _) (by simp<;>omega) (by simp [XW,Z8]) ?_)
   intro v3
   refine ir 1 [(0,Z0 vs),(1,.i t),(5,Z7 (ys++[(k:Int)]) v3),(6,.i k)] (ie (az (Z1 1 12 (.i k) (ZL k (Z5 1 (.n 6 (.i (k+1:Nat)) (.p (.d (.k (.k (.k .z)))))) (ie ?_))))))
   exact ZO ⟨k+1,(ys++[(k:Int)]),v3,ob,ob,(Xp Zy om),rfl,rfl,rfl⟩ (wk [0] (fw (fr (ZQ k fl))))
  refine ak (az (Z1 1 12 (.i k) (ZL k (ir 1 [(0,Z0 vs),(1,.i t),(5,Z7 ys u),(6,.i (k+1:Nat))] (ie ?_)))))
  exact ZO ⟨k+1,ys,u,ob,ob,ob,rfl,rfl,rfl⟩ (wk [0] (fw (fr (ZQ k fl))))
 refine ax 0 (ar (ir 2 [(4,Z7 ys u)] (ie ?_)))
 exact Zb (r2 [] [Z7 ys u] ⟨ys,rfl,rfl,⟨by omega,Zy⟩⟩ (Zg.forget _ _))
theorem DK (g:XU) (gb:Nat) (rs:List Func) (vs:List Int) (t:Int) (hg:GP g:=by exact ob) (W9:g.funcs <+: rs:=by exact ob) (hv:vs.length<=2000:=by exact ob):Zi Tryz.prog 253 [.agg (Y9 g gb),Z0 vs,.i t] [YI gb rs] (fun r h=>∃(w:Bool),r=.b w/\h=[YI gb rs]):=by
 have Xu:=hg.decls.ok
 refine ZK 24 Tryz.func253 (ar (iA (Y9 g gb) ?_))
 intro b1
 refine ir 1 [(1,Z0 vs),(2,.i t),(3,.p b1 0)] (ie (ar (ZY 3 8 (Zd g.decls) 9 (.i t) [0] [b1] (ZA [] (CX g.decls t) (Z1 2 12 (.b (!X5 g.decls t)) (ib (b:=(!X5 g.decls t)) 12 (fun Za=>?_) (fun Za=>?_)))))))
 ·have ZP:¬(X5 g.decls t=true):=((Yw Iff.rfl)).1 Za
  refine ir 12 [(6,.b true)] (ie ?_)
  exact Zb (r1 [1] ⟨true,rfl,rfl⟩)
 have Y1:¬(¬(X5 g.decls t=true)):=ZI (Yw Iff.rfl) Za
 refine Y2 2 (.n 13 (.agg (Y9 g gb)) (.n 14 (.i t) (.k (.d .r)))) [0] [b1] (ic [1] (L8 g gb rs t) ?_)
 rintro _ _ ⟨xs1,rfl,rfl,Yy⟩
 have qhp3:=Yy.1
 refine iw (Yh xs1) (Z1 3 19 (.b (decide ((xs1.length:Int)>0))) (ib (b:=(decide ((xs1.length:Int)>0))) 19 (fun Zz=>?_) (fun Zz=>?_)))
 ·have YK:(xs1.length:Int)>0:=(dq).1 Zz
  refine ir 5 [(6,.b true)] (ie ?_)
  exact Zb (r1 [0] ⟨true,rfl,rfl⟩)
 have X0:¬((xs1.length:Int)>0):=ZI dq Zz
 refine Z5 2 (.n 20 (Z0 vs) (.n 21 (.i t) (.k .z))) (ZA [] (U8 vs t) (ir 2 [(6,.b (decide (t∈vs)))] (ie ?_)))
 exact Zb (r1 [0] ⟨(decide (t∈vs)),rfl,rfl⟩)
theorem Z08 (rd:Nat) (bs:List Int) (p:Nat) (g:XU) (gb:Nat) (rs:List Func) (t:Int) (ZE:∀z∈bs,0<=z/\z<=255) (hp:p+5+15*rk t<=1000000000) (hg:GP g) (W9:g.funcs <+: rs) (ih:∀(rd:Nat) (bs:List Int) (p:Nat) (t2:Int),(∀z∈bs,0<=z/\z<=255)->(p+5+15*rk t2<=1000000000)->(rk t2<rk t)->Zi Tryz.prog 254 [.p rd 0,.agg (Y9 g gb),.i t2] [Yn rd bs p,YI gb rs] (fun r h=>∃(e:Z2) (p2:Nat),r=ZH e/\h=[Yn rd bs p2,YI gb rs]/\SE g (1+3*rk t2) e/\p<=p2/\p2<=p+5+15*rk t2)):Zi Tryz.prog 254 [.p rd 0,.agg (Y9 g gb),.i t] [Yn rd bs p,YI gb rs] (fun r h=>∃(e:Z2) (p2:Nat),r=ZH e/\h=[Yn rd bs p2,YI gb rs]/\SE g (1+3*rk t) e/\p<=p2/\p2<=p+5+15*rk t):=by
 have Xu:=hg.decls.ok
 have hgl:=hg.len
 have hrk:=GW t
 refine ZK 118 Tryz.func254 (ar (iA (Y9 g gb) ?_))
 intro b1
 refine iA [.i 0,.i 0,nl] ?_
 intro b2
 refine ie (ar (iR 3 [(0,.p rd 0),(2,.i t),(4,.p b1 0),(6,.p b2 0),(18,Zd g.decls),(19,.i t)] [1] [b1] (ic [] (KS g.decls t) ?_)))
 rintro _ _ ⟨v1,rfl,rfl⟩
 refine Z1 1 7 (Z7 (Zw g.decls t) v1) (ie (aq (ar (Z1 1 21 (Z7 (Zw g.decls t) v1) (io (.i (((Zw g.decls t).length:Nat):Int)) (.i (((Z8 (Zw g.decls t)).length:Nat):Int)) (li (by rw [Yh])) (Z1 1 23 (.b (decide ((((Zw g.decls t).length:Nat):Int)>0))) (ie (ZM ((((Zw g.decls t).length:Nat):Int)>0) (fun Ze=>?_) (fun Ze=>?_)))))))))
 ·refine ar (Z1 1 24 (Z7 (Zw g.decls t) v1) ?_)
  obtain ⟨x1,Z3⟩:=Zr (xs:=Zw g.decls t) (j:=0) om
  refine Zq (Zm (some v1) 0 1 (Y4 Z3)) (Z1 2 8 (.i x1) (ie (aq (aq (XI (fun F h=>∃(w1:Bool) (p5:Nat),(w1=true->1<(Zw g.decls t).length)/\(p<=p5/\p5<=p+1)/\F=[(0,.p rd 0),(2,.i t),(4,.p b1 0),(6,.p b2 0),(7,Z0 (Zw g.decls t)),(8,.i x1),(34,.b w1)]/\h=[.obj b2 [.i 0,.i 0,nl],.obj b1 (Y9 g gb),Yn rd bs p5,YI gb rs]) ?_ ?_)))))
  ·refine az (ir 1 [(0,.p rd 0),(2,.i t),(4,.p b1 0),(6,.p b2 0),(7,Z7 (Zw g.decls t) v1),(8,.i x1),(27,Z7 (Zw g.decls t) v1)] (io (.i (((Zw g.decls t).length:Nat):Int)) (.i (((Z8 (Zw g.decls t)).length:Nat):Int)) (li (by rw [Yh])) (Z1 2 30 (.b (decide ((((Zw g.decls t).length:Nat):Int)>1))) (ib (b:=(decide ((((Zw g.decls t).length:Nat):Int)>1))) 30 (fun Za=>?_) (fun Za=>?_)))))
   ·have ZP:(((Zw g.decls t).length:Nat):Int)>1:=(dq).1 Za
    refine Z5 1 (.n 31 (.p rd 0) (.k (.d .r))) (ic [3] (XP rd bs p 4 (ZE:=ob)) ?_)
    rintro _ _ ⟨k1,rfl,rfl,Y1⟩
    have qhp2:=Y1.lt om
    refine Z1 2 34 (.b (k1==0)) (ie ?_)
    exact ZW ⟨(k1==0),p+1,(by first|exact (fun h=>by cases h)|exact fun _=>by omega),ob,rfl,rfl⟩ (wk [2,2,0,1] fl)
   have Yy:¬((((Zw g.decls t).length:Nat):Int)>1):=ZI dq Za
   refine Z5 4 (.n 34 (.b false) (.k (.d .r))) (ie ?_)
   exact ZW ⟨false,p,(by first|exact (fun h=>by cases h)|exact fun _=>by omega),ob,rfl,rfl⟩ (wk [1,1,1,1] fl)
  rintro F h ⟨w1,p5,kR4_0,kR4_1,rfl,rfl⟩
  refine XI (fun F h=>∃(c1:Int),(c1∈Zw g.decls t)/\F=[(0,.p rd 0),(2,.i t),(4,.p b1 0),(6,.p b2 0),(7,Z0 (Zw g.decls t)),(8,.i c1)]/\h=[.obj b2 [.i 0,.i 0,nl],.obj b1 (Y9 g gb),Yn rd bs p5,YI gb rs]) ?_ ?_
  ·refine ac w1 Iff.rfl (fun Zk=>?_) (fun Zk=>?_)
   ·refine az (ir 1 [(0,.p rd 0),(2,.i t),(4,.p b1 0),(6,.p b2 0),(7,Z0 (Zw g.decls t)),(35,Z0 (Zw g.decls t))] ?_)
    obtain ⟨x2,Zt⟩:=Zr (xs:=Zw g.decls t) (j:=1) (kR4_0 (by assumption))
    refine Zq (Zm none 1 1 (Y4 Zt)) (Z1 2 8 (.i x2) (ie ?_))
    exact ZW ⟨x2,(Y7 Zt),rfl,rfl⟩ (ZT 4 fl)
   refine ak ?_
   exact ZW ⟨x1,(Y7 Z3),rfl,rfl⟩ (ZT 4 fl)
  rintro F h ⟨c1,Vy,rfl,rfl⟩
  have hcf:=VK Xu c1
  refine aq (ar (iR 3 [(0,.p rd 0),(2,.i t),(4,.p b1 0),(6,.p b2 0),(7,Z0 (Zw g.decls t)),(8,.i c1),(39,Zd g.decls),(40,.i c1)] [1] [b1] (ZA [] (Qr g.decls c1) (Z1 1 42 (.i t) (ZA [] (U8 (ZC g.decls c1) t) (ie (XI (fun F h=>∃(c2:Int),(JI g.decls t c2)/\F=[(0,.p rd 0),(4,.p b1 0),(6,.p b2 0),(8,.i c2)]/\h=[.obj b2 [.i 0,.i 0,nl],.obj b1 (Y9 g gb),Yn rd bs p5,YI gb rs]) ?_ ?_)))))))
  ·refine ZM (t∈(ZC g.decls c1)) (fun ZG=>?_) (fun ZG=>?_)
   ·refine az (ir 1 [(0,.p rd 0),(4,.p b1 0),(6,.p b2 0),(44,Z0 (Zw g.decls t))] (Zq (Zm none 0 1 (Y4 Z3)) (Z1 2 8 (.i x1) (ie ?_))))
    exact ZW ⟨x1,(Z5y hg.decls Vy (by assumption) Z3),rfl,rfl⟩ (ZT 4 fl)
   refine ak ?_
   exact ZW ⟨c1,(Z5x hg.decls Vy (by assumption)),rfl,rfl⟩ (ZT 4 fl)
  rintro F h ⟨c2,Cz,rfl,rfl⟩
  obtain ⟨Lq,T0,Jl⟩:=Cz
  refine ar (iL (Yr []) 0 3 ?_)
  intro v2
  refine ir 1 [(0,.p rd 0),(4,.p b1 0),(6,.p b2 0),(8,.i c2),(9,XR [] v2)] (ie (ar (ZY 3 49 (Zd g.decls) 50 (.i c2) [2] [b1] (ZA [] (Qr g.decls c2) (Z1 1 10 (Z0 (ZC g.decls c2)) (ie (aq (ar (Z1 1 11 (.i 0) (ie (ab 0 (al (fun m F h=>∃(k:Nat) (ys:List Z2) (u:Value) (pq:Nat),(k<=(ZC g.decls c2).length)/\(ys.length=k)/\(∀e∈ys,SE g 1 e)/\(p<=pq/\pq<=p+1+5*k)/\F=[(0,.p rd 0),(4,.p b1 0),(6,.p b2 0),(8,.i c2),(9,XR ys u),(10,Z0 (ZC g.decls c2)),(11,.i k)]/\h=[.obj b2 [.i 0,.i 0,nl],.obj b1 (Y9 g gb),Yn rd bs pq,YI gb rs,.tail u 3]/\m=(ZC g.decls c2).length-k) _ _ _ ⟨0,[],v2,p5,ob,ob,(fun e he=>by cases he),ob,rfl,rfl,rfl⟩ (wk [1,1,1,1,0] (fq (fw (Ya fl)))) ?_))))))))))))
  rintro m F h ⟨k,ys,u,pq,Yj,Zp,Zy,YJ,rfl,rfl,rfl⟩
  refine aq (ar (Yq 2 52 (.i k) 53 (Z0 (ZC g.decls c2)) (io (.i (((ZC g.decls c2).length:Nat):Int)) (.i (((Z8 (ZC g.decls c2)).length:Nat):Int)) (li (by rw [Yh])) (Z1 1 55 (.b (decide ((k:Int)<(((ZC g.decls c2).length:Nat):Int)))) (ie (ZM ((k:Int)<(((ZC g.decls c2).length:Nat):Int)) (fun Ym=>?_) (fun Ym=>?_)))))))
  ·refine ak (aq (ab 1 (aE 11 (Y6 6 11 [0,1,2,3,4] (.n 58 (XR ys u) (.n 59 (.p rd 0) (.n 60 (.agg (Y9 g gb)) (.n 61 (Z0 (ZC g.decls c2)) (.n 62 (.i k) .r))))) [1] [b1] ?_))))
   obtain ⟨x3,YT⟩:=Zr (xs:=ZC g.decls c2) (j:=k) om
   have hz3:=MX (Jl _ (Y7 YT))
   refine dx 5 (Zm none (k:Int) 1 (Y4 YT)) (ZZ 4 5 [6] 64 (.i x3) (Z9 7 (dc 7 [2,2] [] [] (ih rd bs pq x3 ob ob om) ?_)))
   rintro _ _ ⟨e1,p21,rfl,rfl,YK⟩
   have hse:=YK.1
   rw [hz3] at hse
   refine Z9 8 (Wj 8 [] [] [ZH e1] (Yr [e1]) (XD [e1]).symm 1 3 ?_)
   intro v3
   refine Y0 2 2 [] (.n 66 (X3 [e1]) (.p .r)) (Z9 9 (dp 9 5 [] [] (Yr (ys++[e1])) (Yr ys) (Yr [e1]) u none 3 (Us _) (Us _) (KC _) (by simp<;>omega) (by simp [KA,Yr]) ?_))
   intro v4
   refine Y0 0 1 [10] (.n 9 (XR (ys++[e1]) v4) (.p (.d (.p (.d (.p (.d (.d (.d (.d (.d (.d (.p (.d (.d (.w (.d .r))))))))))))))))) (de (az (Z1 1 56 (.i k) (ZL k (Z5 1 (.n 11 (.i (k+1:Nat)) (.p (.d (.w (.k (.k .z)))))) (ie ?_))))))
   exact ZO ⟨k+1,(ys++[e1]),v4,p21,ob,ob,(Xp Zy hse),ob,rfl,rfl,rfl⟩ (wk [4,4,2,2,0] (fq (fw (ZQ k fl))))
  refine ax 0 (ar (Yq 2 68 (.i c2) 69 (X3 ys) (ZA [] (XF 6 c2 ys) (ZF 0 b2 (YA (Z2.mk 6 c2 ys)) (ie ?_)))))
  exact Zb (r3 [2,2] [ZH (Z2.mk 6 c2 ys)] [0] [(b2,b2)] ⟨(Z2.mk 6 c2 ys),pq,rfl,rfl,⟨SE.node (k:=3*rk t) (.inl rfl) om Zy om om om,by omega⟩⟩ (lr _))
 refine ak (ar (ZY 2 71 (.agg (Y9 g gb)) 72 (.i t) [2] [b1] (ic [4] (L8 g gb rs t) ?_)))
 rintro _ _ ⟨xs1,rfl,rfl,X0⟩
 have hcl:=X0.2
 have hcn:=X0.1
 refine Z1 1 12 (Z0 xs1) (ie (aq (ar (Xo [(0,.p rd 0),(4,.p b1 0),(6,.p b2 0),(12,Z0 xs1),(80,.b ((decide (t>0))&&(decide ((xs1.length:Int)>0))))] [YI gb rs,.tail v1 1,.obj b2 [.i 0,.i 0,nl],.obj b1 (Y9 g gb),Yn rd bs p] ?_ ?_))))
 ·refine ir 3 [(0,.p rd 0),(4,.p b1 0),(6,.p b2 0),(12,Z0 xs1),(76,.b (decide (t>0)))] (ib (b:=(decide (t>0))) 76 (fun Zz=>?_) (fun Zz=>?_))
  ·have XB:t>0:=(dq).1 Zz
   refine Z5 1 (.n 77 (Z0 xs1) (.w (.k .z))) (iw (Yh xs1) (Z1 2 80 (.b (decide ((xs1.length:Int)>0))) (ie ?_)))
   exact ZT 5 (fq (Zu (decide ((xs1.length:Int)>0)) Zz fl))
  have Wk:¬(t>0):=ZI dq Zz
  refine Z5 4 (.n 80 (.b false) (.d (.w .z))) (ie ?_)
  exact ZT 5 (fq (Zu false Zz fl))
 refine ac ((decide (t>0))&&(decide ((xs1.length:Int)>0))) (p:=(t>0)/\((xs1.length:Int)>0)) (YD dq dq) (fun Xi=>?_) (fun Xi=>?_)
 ·refine ar (ir 3 [(0,.p rd 0),(4,.p b1 0),(6,.p b2 0),(81,Z0 xs1),(82,.p rd 0),(83,Z0 xs1)] (iw (Yh xs1) (ic [4] (XP rd bs p (xs1.length:Int) (ZE:=ob)) ?_)))
  rintro _ _ ⟨k2,rfl,rfl,WJ⟩
  have qhp8:=WJ.lt om
  obtain ⟨x4,Uh⟩:=Zr (xs:=xs1) (j:=k2.toNat) om
  have hclo:=hcl _ (Y7 Uh)
  have hcb:=hclo.lt
  refine Zq (Zm none k2 1 (Y4 Uh)) (Z1 2 13 (.i x4) (ie (ar (ZY 3 89 (.ms gb 0 g.funcs.length 4) 90 (.i x4) [4] [b1] ?_))))
  obtain ⟨x5,UN⟩:=Zr (xs:=g.funcs) (j:=x4.toNat) om
  have hso:=(hg.sigs _ (Y7 UN)).bd
  have hr1:=Z4z (t:=t) hg.decls om om
  have hfu:=UN
  refine Zq (W4 gb g.funcs.length 4 x4.toNat 5 x4) (Z1 1 92 (.val (.pointer (some ⟨gb,x4.toNat * 5,none⟩))) (VI (WY 1 gb 4 4 5 (x4.toNat * 5+0) (Zl (Xc rs)) [Z0 x5.params] 27 (Z0 x5.params) (U6 W9 UN 0 rfl (WF rfl))) (Z1 1 14 (Z0 x5.params) (ie (ar (iL (Yr []) 0 3 ?_))))))
  intro v5
  refine Z1 1 15 (XR [] v5) (ie (aq (ar (Z1 1 16 (.i 0) (ie (ab 2 (al (fun m F h=>∃(k:Nat) (ys:List Z2) (u:Value) (pq:Nat),(k<=x5.params.length)/\(ys.length=k)/\(∀e∈ys,SE g 1 e)/\(p<=pq/\pq<=p+1+5*k)/\F=[(0,.p rd 0),(4,.p b1 0),(6,.p b2 0),(13,.i x4),(14,Z0 x5.params),(15,XR ys u),(16,.i k)]/\h=[Yn rd bs pq,YI gb rs,.obj b2 [.i 0,.i 0,nl],.obj b1 (Y9 g gb),.tail u 3]/\m=x5.params.length-k) _ _ _ ⟨0,[],v5,p+1,ob,ob,(fun e he=>by cases he),ob,rfl,rfl,rfl⟩ (wk [1,1,2,2,0] (fq (fw (Ya fl)))) ?_)))))))
  rintro m F h ⟨k,ys,u,pq,VS,XH,XE,Fk,rfl,rfl,rfl⟩
  refine aq (ar (Z1 1 95 (.i k) (ZL k (Z1 1 97 (Z0 x5.params) (iw (Yh x5.params) (Z1 1 99 (.b (decide (((k+1:Nat):Int)<(x5.params.length:Int)))) (ie (ZM (((k+1:Nat):Int)<(x5.params.length:Int)) (fun Xj=>?_) (fun Xj=>?_)))))))))
  ·refine ak (aq (ab 3 (aE 11 (Y6 6 11 [0,1,2,3,4] (.n 102 (XR ys u) (.n 103 (.p rd 0) (.n 104 (.agg (Y9 g gb)) (.n 105 (Z0 x5.params) (.n 106 (.i k) .r))))) [3] [b1] ?_))))
   obtain ⟨x6,AX⟩:=Zr (xs:=x5.params) (j:=k) om
   have hz3:=hclo.low hg om hfu om AX
   refine dx 5 (Zm none (k:Int) 1 (Y4 AX)) (ZZ 4 5 [6] 108 (.i x6) (Z9 7 (dc 7 [0,0] [] [] (ih rd bs pq x6 ob ob om) ?_)))
   rintro _ _ ⟨e2,p22,rfl,rfl,V4⟩
   have hse:=V4.1
   rw [hz3] at hse
   refine Z9 8 (Wj 8 [] [] [ZH e2] (Yr [e2]) (XD [e2]).symm 1 3 ?_)
   intro v6
   refine Y0 2 2 [] (.n 110 (X3 [e2]) (.p .r)) (Z9 9 (dp 9 5 [] [] (Yr (ys++[e2])) (Yr ys) (Yr [e2]) u none 3 (Us _) (Us _) (KC _) (by simp<;>omega) (by simp [KA,Yr]) ?_))
   intro v7
   refine Xa 0 1 [10] [(0,.p rd 0),(4,.p b1 0),(6,.p b2 0),(13,.i x4),(14,Z0 x5.params),(15,XR (ys++[e2]) v7),(16,.i k)] (de (az (Z1 1 100 (.i k) (ZL k (Z5 1 (.n 16 (.i (k+1:Nat)) (.p (.d (.w (.k (.k .z)))))) (ie ?_))))))
   exact ZO ⟨k+1,(ys++[e2]),v7,p22,ob,ob,(Xp XE hse),ob,rfl,rfl,rfl⟩ (wk [2,2,2,2,0] (fq (fw (ZQ k fl))))
  refine ax 2 (ar (Yq 2 112 (.i x4) 113 (X3 ys) (ZA [] (XF 10 x4 ys) (ZF 2 b2 (YA (Z2.mk 10 x4 ys)) (ie ?_)))))
  exact Zb (r3 [1,1] [ZH (Z2.mk 10 x4 ys)] [0] [(b2,b2)] ⟨(Z2.mk 10 x4 ys),pq,rfl,rfl,⟨SE.node (k:=3) (.inr rfl) om XE om om om,by omega⟩⟩ (lr _))
 refine ak (ar (ir 1 [(6,.p b2 0),(115,.p rd 0)] (ic [4] (Lj rd bs p (ZE:=ob)) ?_)))
 rintro _ _ ⟨z1,rfl,rfl,Ug⟩
 refine ZA [] (Jg z1) (ZF 3 b2 (YA (Z2.mk 0 z1 [])) (ie ?_))
 exact Zb (r3 [1,1] [ZH (Z2.mk 0 z1 [])] [0] [(b2,b2)] ⟨(Z2.mk 0 z1 []),p+4,rfl,rfl,⟨SE.int om om,by omega⟩⟩ (lr _))
theorem Z07 (rd:Nat) (bs:List Int) (p:Nat) (g:XU) (gb:Nat) (rs:List Func) (t:Int) (ZE:∀z∈bs,0<=z/\z<=255) (hp:p+5+15*rk t<=1000000000:=by exact ob) (hg:GP g:=by exact ob) (W9:g.funcs <+: rs:=by exact ob):Zi Tryz.prog 254 [.p rd 0,.agg (Y9 g gb),.i t] [Yn rd bs p,YI gb rs] (fun r h=>∃(e:Z2) (p2:Nat),r=ZH e/\h=[Yn rd bs p2,YI gb rs]/\SE g (1+3*rk t) e/\p<=p2/\p2<=p+5+15*rk t):=by
 have key:∀k:Nat,∀(rd:Nat) (bs:List Int) (p:Nat) (t2:Int),(∀z∈bs,0<=z/\z<=255)->(p+5+15*rk t2<=1000000000)->(rk t2<k)->Zi Tryz.prog 254 [.p rd 0,.agg (Y9 g gb),.i t2] [Yn rd bs p,YI gb rs] (fun r h=>∃(e:Z2) (p2:Nat),r=ZH e/\h=[Yn rd bs p2,YI gb rs]/\SE g (1+3*rk t2) e/\p<=p2/\p2<=p+5+15*rk t2):=by
  intro k
  induction k with
  | zero=>intro rd bs p t2 h1 h2 h3;omega
  | succ k ih=>intro rd bs p t2 h1 h2 h3;exact Z08 rd bs p g gb rs t2 h1 h2 hg W9 fun rd bs p t3 q1 q2 q3=>ih rd bs p t3 q1 q2 om
 exact key 2 rd bs p t ZE hp (by have:=GW t;omega)
theorem Bz (rd:Nat) (bs:List Int) (p:Nat) (g:XU) (gb:Nat) (rs:List Func) (vs:List Int) (t:Int) (ZE:∀z∈bs,0<=z/\z<=255) (hp:p+30<=1000000000:=by exact ob) (hg:GP g:=by exact ob) (W9:g.funcs <+: rs:=by exact ob) (hv:vs.length<=2000:=by exact ob):Zi Tryz.prog 223 [.p rd 0,.agg (Y9 g gb),Z0 vs,.i t] [Yn rd bs p,YI gb rs] (fun r h=>∃(e:Z2) (p2:Nat),r=ZH e/\h=[Yn rd bs p2,YI gb rs]/\GE g vs.length 4 e/\p<=p2/\p2<=p+30):=by
 have hrk:=GW t
 refine ZK 40 Tryz.func223 (ar (iA (Y9 g gb) ?_))
 intro b1
 refine iA [.i 0,.i 0,nl] ?_
 intro b2
 refine ie (ar (ir 2 [(0,.p rd 0),(3,.i t),(5,.p b1 0),(8,.p b2 0),(10,Z0 vs),(11,.i t)] (ic [] (Z0g vs t) ?_)))
 rintro _ _ ⟨xs1,rfl,rfl,ZP⟩
 have hxs:=ZP
 refine Z1 1 9 (Z0 xs1) (ie (aq (aq (XI (fun F h=>∃(wb:Bool) (p5:Nat),(wb=true->0<xs1.length)/\(p<=p5/\p5<=p+1)/\F=[(0,.p rd 0),(3,.i t),(5,.p b1 0),(8,.p b2 0),(9,Z0 xs1),(27,.b wb)]/\h=[.obj b2 [.i 0,.i 0,nl],.obj b1 (Y9 g gb),Yn rd bs p5,YI gb rs]) ?_ ?_))))
 ·refine az (ir 1 [(0,.p rd 0),(3,.i t),(5,.p b1 0),(8,.p b2 0),(9,Z0 xs1),(13,Z0 xs1)] (iw (Yh xs1) (Z1 2 16 (.b (decide ((xs1.length:Int)>0))) (ib (b:=(decide ((xs1.length:Int)>0))) 16 (fun Za=>?_) (fun Za=>?_)))))
  ·have Y1:(xs1.length:Int)>0:=(dq).1 Za
   refine Z5 1 (.n 17 (.p rd 0) (.k (.d .r))) (ic [2] (XP rd bs p 6 (ZE:=ob)) ?_)
   rintro _ _ ⟨k1,rfl,rfl,Yy⟩
   have qhp3:=Yy.lt om
   refine Z1 2 20 (.b (decide (k1>0))) (ib (b:=(decide (k1>0))) 20 (fun Zz=>?_) (fun Zz=>?_))
   ·have YK:k1>0:=(dq).1 Zz
    refine Z5 7 (.n 27 (.b true) (.k (.d .r))) (ie ?_)
    exact ZW ⟨true,p+1,(by first|exact (fun h=>Bool.noConfusion h)|exact fun _=>by omega),ob,rfl,rfl⟩ (wk [1,1,0,0] fl)
   have X0:¬(k1>0):=ZI dq Zz
   refine Y2 1 (.n 21 (.agg (Y9 g gb)) (.k (.d .r))) [2] [b1] (iL (Z8 []) 0 1 ?_)
   intro v1
   refine Z5 1 (.n 22 (Z0 []) (.n 23 (.i t) (.p .r))) (ic [4] (DK g gb rs [] t) ?_)
   rintro _ _ ⟨w1,rfl,rfl⟩
   refine Z1 3 27 (.b (!w1)) (ie ?_)
   exact ZW ⟨(!w1),p+1,(by first|exact (fun h=>Bool.noConfusion h)|exact fun _=>by omega),ob,rfl,rfl⟩ (wk [3,3,2,0] fl)
  have XB:¬((xs1.length:Int)>0):=ZI dq Za
  refine Z5 11 (.n 27 (.b false) (.k (.d .r))) (ie ?_)
  exact ZW ⟨false,p,(by first|exact (fun h=>Bool.noConfusion h)|exact fun _=>by omega),ob,rfl,rfl⟩ (ZT 4 fl)
 rintro F h ⟨wb,p5,kR2_0,kR2_1,rfl,rfl⟩
 refine ac wb Iff.rfl (fun Ze=>?_) (fun Ze=>?_)
 ·have hk0:=kR2_0 Ze
  refine ar (ir 3 [(8,.p b2 0),(28,Z0 xs1),(29,.p rd 0),(30,Z0 xs1)] (iw (Yh xs1) (ic [2] (XP rd bs p5 (xs1.length:Int) (ZE:=ob)) ?_)))
  rintro _ _ ⟨k2,rfl,rfl,Wk⟩
  have qhp7:=Wk.lt om
  obtain ⟨x1,Z3⟩:=Zr (xs:=xs1) (j:=k2.toNat) om
  have hxv:=hxs.2 _ (Y7 Z3)
  refine Zq (Zm none k2 1 (Y4 Z3)) (Z1 1 34 (.i x1) (ZA [] (Tt x1) (ZF 1 b2 (YA (Z2.mk 12 x1 [])) (ie ?_))))
  exact Zb (r3 [1,2] [ZH (Z2.mk 12 x1 [])] [0] [(b2,b2)] ⟨(Z2.mk 12 x1 []),p5+1,rfl,rfl,⟨GE.var hxv om om,by omega⟩⟩ (lr _))
 refine ak (ar (iR 3 [(8,.p b2 0),(36,.p rd 0),(37,.agg (Y9 g gb)),(38,.i t)] [1] [b1] (ic [2,2] (Z07 rd bs p5 g gb rs t (ZE:=ob)) ?_)))
 rintro _ _ ⟨e1,p21,rfl,rfl,WJ⟩
 have hse:=WJ.1
 refine ZF 2 b2 (YA e1) (ie ?_)
 exact Zb (r3 [1,1] [ZH e1] [0] [(b2,b2)] ⟨e1,p21,rfl,rfl,⟨hse.ge om,by omega⟩⟩ (lr _))
theorem S9 (rd:Nat) (bs:List Int) (p:Nat) (g:XU) (gb:Nat) (rs:List Func) (vs:List Int) (ZE:∀z∈bs,0<=z/\z<=255) (hp:p+1<=1000000000:=by exact ob) (hg:GP g:=by exact ob) (W9:g.funcs <+: rs:=by exact ob) (hv:vs.length<=2000:=by exact ob):Zi Tryz.prog 246 [.p rd 0,.agg (Y9 g gb),Z0 vs] [Yn rd bs p,YI gb rs] (fun r h=>∃(z:Int),r=.i z/\h=[.obj rd [X9 bs,.i (p+1:Nat)],YI gb rs]/\0<=z/\z<=4):=by
 have Xu:=hg.decls.ok
 have hgl:=hg.len
 have hdl:=hg.decls.len
 refine ZK 24 Tryz.func246 (ar (iA (Y9 g gb) ?_))
 intro b1
 refine ir 1 [(0,.p rd 0),(2,Z0 vs),(4,.p b1 0)] (ie (ar (Z1 1 8 (.p rd 0) (iL (Z8 [1,1,3,0,2,4,3]) 7 1 ?_))))
 intro v1
 refine Z5 0 (.n 9 (Z0 [1,1,3,0,2,4,3]) (.p .r)) (ic [2] (Vw rd bs p [1,1,3,0,2,4,3] (ZE:=ob)) ?_)
 rintro _ _ ⟨z1,rfl,rfl,ZP⟩
 have hz:=Ac (a:=0) (b:=4) ZP (by decide)
 refine Z1 1 7 (.i z1) (ie (aq (aq (XI (fun F h=>∃(wb:Bool),(True)/\F=[(7,.i z1),(22,.b wb)]/\h=[.obj rd [X9 bs,.i (p+1:Nat)],YI gb rs]) ?_ ?_))))
 ·refine az (iR 3 [(2,Z0 vs),(4,.p b1 0),(7,.i z1),(11,.i z1),(13,Zd g.decls)] [2] [b1] (iw (VU g.decls) (Z1 2 16 (.b (decide (z1>(g.decls.length:Int)))) (ib (b:=(decide (z1>(g.decls.length:Int)))) 16 (fun Za=>?_) (fun Za=>?_)))))
  ·have Y1:z1>(g.decls.length:Int):=(dq).1 Za
   refine ir 6 [(7,.i z1),(22,.b true)] (ie ?_)
   exact ZW ⟨true,True.intro,rfl,rfl⟩ (wk [0,2] fl)
  have Yy:¬(z1>(g.decls.length:Int)):=ZI dq Za
  refine Y2 3 (.n 17 (.agg (Y9 g gb)) (.n 18 (Z0 vs) (.n 19 (.i z1) (.k (.d .r))))) [2] [b1] (ic [3] (DK g gb rs vs z1) ?_)
  rintro _ _ ⟨w1,rfl,rfl⟩
  refine Z1 2 22 (.b (!w1)) (ie ?_)
  exact ZW ⟨(!w1),True.intro,rfl,rfl⟩ (wk [1,0] fl)
 rintro F h ⟨wb,kR2_0,rfl,rfl⟩
 refine ac wb Iff.rfl (fun Ze=>?_) (fun Ze=>?_)
 ·refine ar (ir 1 [(6,.i 1)] (ie ?_))
  exact Zb (r1 [0,0] ⟨1,rfl,rfl,om⟩)
 refine ak (ar (ir 2 [(6,.i z1)] (ie ?_)))
 exact Zb (r1 [0,0] ⟨z1,rfl,rfl,om⟩)
theorem Sd (g:XU) (gb:Nat) (rs:List Func) (t:Int) (hg:GP g:=by exact ob) (W9:g.funcs <+: rs:=by exact ob):Zi Tryz.prog 249 [.agg (Y9 g gb),.i t] [YI gb rs] (fun r h=>∃(xs:List Int),r=Z0 xs/\h=[YI gb rs]/\xs.length<=4/\∀i∈xs,1<=i/\i<g.funcs.length):=by
 have Xu:=hg.decls.ok
 have hgl:=hg.len
 have hdl:=hg.decls.len
 refine ZK 57 Tryz.func249 (ar (iA (Y9 g gb) ?_))
 intro b1
 refine ir 1 [(1,.i t),(2,.p b1 0)] (ie (ar (iL (Z8 []) 0 1 ?_)))
 intro v1
 refine Z1 1 5 (Z7 [] v1) (ie (aq (ar (Z1 1 6 (.i 1) (ie (ab 0 (al (fun m F h=>∃(k:Nat) (ys:List Int) (u:Value),(1<=k/\k<=g.funcs.length)/\(ys.length<=k)/\(∀i∈ys,1<=i/\i<g.funcs.length)/\F=[(1,.i t),(2,.p b1 0),(5,Z7 ys u),(6,.i k)]/\h=[.obj b1 (Y9 g gb),YI gb rs,.tail u 1]/\m=g.funcs.length-k) _ _ _ ⟨1,[],v1,ob,ob,(fun i hi=>by cases hi),rfl,rfl,rfl⟩ (wk [1,1,0] (fw (fr (fc (x:=.i 1) li fl)))) ?_)))))))
 rintro m F h ⟨k,ys,u,Yj,Zp,Zy,rfl,rfl,rfl⟩
 refine aq (ar (ZY 3 10 (.i k) 12 (.ms gb 0 g.funcs.length 4) [0] [b1] (io (.i g.funcs.length) (.i g.funcs.length) (lr _) (Z1 1 14 (.b (decide ((k:Int)<(g.funcs.length:Int)))) (ie (ZM ((k:Int)<(g.funcs.length:Int)) (fun Ze=>?_) (fun Ze=>?_)))))))
 ·refine ak (aq (ab 1 (ar (ZY 3 18 (.ms gb 0 g.funcs.length 4) 19 (.i k) [0] [b1] ?_))))
  obtain ⟨x1,Z3⟩:=Zr (xs:=g.funcs) (j:=k) om
  have hso:=(hg.sigs _ (Y7 Z3)).bd
  refine Zq (W4 gb g.funcs.length 4 k 5 (k:Int)) (Z1 1 21 (.val (.pointer (some ⟨gb,k*5+1,none⟩))) (VI (WY 1 gb 4 4 5 (k*5+1) (Zl (Xc rs)) [.i x1.result] 3 (.i x1.result) (U6 W9 Z3 1 rfl (WF rfl))) (Z1 3 7 (.b (x1.result==t)) (ie (aq (ar (Z1 1 8 (.i 0) (ie (ab 2 (al (fun m F h=>∃(j:Nat) (wo:Bool),(True)/\F=[(1,.i t),(2,.p b1 0),(5,Z7 ys u),(6,.i k),(7,.b wo),(8,.i j)]/\h=[.obj b1 (Y9 g gb),YI gb rs,.tail u 1]/\m=x1.params.length-j) _ _ _ ⟨0,(x1.result==t),True.intro,rfl,rfl,rfl⟩ (ZT 3 (fq (fr (Ya fl)))) ?_))))))))))
  rintro m F h ⟨j,wo,VS,rfl,rfl,rfl⟩
  refine aq (ar (Y2 4 (.n 25 (.i j) (.n 27 (.ms gb 0 g.funcs.length 4) (.n 28 (.i k) .r))) [0] [b1] (Zq (W4 gb g.funcs.length 4 k 5 (k:Int)) (Z1 1 30 (.val (.pointer (some ⟨gb,k*5,none⟩))) (VI (WY 1 gb 4 4 5 (k*5+0) (Zl (Xc rs)) [Z0 x1.params] 27 (Z0 x1.params) (U6 W9 Z3 0 rfl (WF rfl))) (iw (Yh x1.params) (Z1 1 33 (.b (decide ((j:Int)<(x1.params.length:Int)))) (ie (ZM ((j:Int)<(x1.params.length:Int)) (fun Zk=>?_) (fun Zk=>?_))))))))))
  ·refine ak (aq (ab 3 (aE 16 (ZZ 14 16 [0,1] 37 (.b wo) (db (b:=wo) 37 (fun Za=>?_) (fun Za=>?_))))))
   ·have ZP:wo=true:=(Iff.rfl).1 Za
    refine Y6 10 14 [2,4,5,6] (.n 38 (.agg (Y9 g gb)) (.n 41 (.ms gb 0 g.funcs.length 4) (.n 42 (.i k) (.k (.d .r))))) [0,0] [b1,b1] (dx 7 (W4 gb g.funcs.length 4 k 5 (k:Int)) (ZZ 8 9 [8] 44 (.val (.pointer (some ⟨gb,k*5,none⟩))) (VT 9 (WY 1 gb 4 4 5 (k*5+0) (Zl (Xc rs)) [Z0 x1.params] 27 (Z0 x1.params) (U6 W9 Z3 0 rfl (WF rfl))) (ZZ 6 7 [10] 46 (.i j) ?_))))
    obtain ⟨x2,Zt⟩:=Zr (xs:=x1.params) (j:=j) om
    refine dx 11 (Zm none (j:Int) 1 (Y4 Zt)) (ZZ 4 5 [12] 48 (.i x2) (Z9 3 (dL 3 [1,0,0] [gb,b1,b1] (Z8 []) 0 1 ?_)))
    intro v2
    refine Y0 3 3 [] (.n 39 (Z0 []) (.p .r)) (Z9 13 (dc 13 [2] [] [] (DK g gb rs [] x2) ?_))
    rintro _ _ ⟨w1,rfl,rfl⟩
    refine Xa 0 2 [14,15] [(1,.i t),(2,.p b1 0),(5,Z7 ys u),(6,.i k),(7,.b w1),(8,.i j)] (de (az (Z1 1 34 (.i j) (ZL j (Z5 1 (.n 8 (.i (j+1:Nat)) (.p (.d (.w (.k .z))))) (ie ?_))))))
    exact ZO ⟨j+1,w1,True.intro,rfl,rfl,rfl⟩ (wk [2,0,1] (fq (fr (ZQ j fl))))
   have Y1:¬(wo=true):=ZI Iff.rfl Za
   refine Y0 0 14 [2,3,4,5,6,7,8,9,10,11,12,13,14,15] (.n 7 (.b false) (.d (.d (.d (.p (.p (.d (.p (.d (.d (.d (.w (.d .r))))))))))))) (de (az (Z1 1 34 (.i j) (ZL j (Z5 1 (.n 8 (.i (j+1:Nat)) (.p (.d (.w (.k .z))))) (ie ?_))))))
   exact ZO ⟨j+1,false,ob,rfl,rfl,rfl⟩ (ZT 3 (fq (fr (ZQ j fl))))
  refine ax 2 (ar (Z1 1 51 (.b wo) (ie (ac wo Iff.rfl (fun ZG=>?_) (fun ZG=>?_)))))
  ·refine az (Yq 2 52 (Z7 ys u) 53 (.i k) (iL (Z8 [(k:Int)]) 1 1 ?_))
   intro v3
   refine Z5 0 (.n 54 (Z0 [(k:Int)]) (.p .r)) (ip 3 (Z8 (ys++[(k:Int)])) (Z8 ys) (Z8 [(k:Int)]) u none 1 (YF _) (YF _) (XX _) (by simp<;>omega) (by simp [XW,Z8]) ?_)
   intro v4
   refine ir 1 [(1,.i t),(2,.p b1 0),(5,Z7 (ys++[(k:Int)]) v4),(6,.i k)] (ie (az (Z1 1 15 (.i k) (ZL k (Z5 1 (.n 6 (.i (k+1:Nat)) (.p (.d (.k (.k (.k .z)))))) (ie ?_))))))
   exact ZO ⟨k+1,(ys++[(k:Int)]),v4,ob,ob,(Xp Zy om),rfl,rfl,rfl⟩ (wk [2,2,0] (fw (fr (ZQ k fl))))
  refine ak (az (Z1 1 15 (.i k) (ZL k (ir 1 [(1,.i t),(2,.p b1 0),(5,Z7 ys u),(6,.i (k+1:Nat))] (ie ?_)))))
  exact ZO ⟨k+1,ys,u,ob,ob,ob,rfl,rfl,rfl⟩ (ZT 3 (fw (fr (ZQ k fl))))
 refine ax 0 (ar (ir 2 [(4,Z7 ys u)] (ie ?_)))
 exact Zb (r2 [1] [Z7 ys u] ⟨ys,rfl,rfl,⟨by omega,Zy⟩⟩ (Zg.forget _ _))
theorem SX (e:Z2) (left:Int) (hz:e.sz<=1000000:=by exact ob) (hl:0<=left/\left<=1000:=by exact ob) (ih:∀(e2:Z2) (left:Int),(e2.sz<e.sz)->(0<=left/\left<=1000)->Zi Tryz.prog 224 [ZH e2,.i left] [] (fun r h=>∃(w:Int),r=.i w/\h=[]/\NL e2.sz left w)):Zi Tryz.prog 224 [ZH e,.i left] [] (fun r h=>∃(w:Int),r=.i w/\h=[]/\NL e.sz left w):=by
 have hes:=e.sz_eq
 have hel:=IF (xs:=e.kids)
 refine ZK 27 Tryz.func224 (ar (iA (YA e) ?_))
 intro b1
 refine ir 1 [(1,.i left),(2,.p b1 0)] (ie (aq (ar (Z1 2 7 (.b (decide (left<1))) (ie (ZM (left<1) (fun Ze=>?_) (fun Ze=>?_)))))))
 ·refine ar (ir 1 [(4,.i (-1))] (ie ?_))
  exact Zb (r1 [] ⟨(-1),rfl,rfl,(.inr ⟨by omega,rfl⟩)⟩)
 refine ak (ar (Z1 1 8 (.i left) (ia ((left-1)) ((left)-(1)) (ir 1 [(1,.i (left-1)),(2,.p b1 0)] (ie (aq (ar (Z1 1 5 (.i 0) (ie (ab 0 (al (fun m F h=>∃(k:Nat) (q:Int),(k<=e.kids.length)/\(0<=q/\q+1+Xn (e.kids.take k)=left)/\F=[(1,.i q),(2,.p b1 0),(5,.i k)]/\h=[.obj b1 (YA e)]/\m=e.kids.length-k) _ _ _ ⟨0,(left-1),ob,(by simp [Xn];omega),rfl,rfl,rfl⟩ (wk [0] (fw (Ya fl))) ?_)))))))))))
 rintro m F h ⟨k,q,Yj,Zp,rfl,rfl,rfl⟩
 refine aq (ar (ZY 3 10 (.i k) 12 (X3 e.kids) [0] [b1] (iw (FJ e.kids) (Z1 1 14 (.b (decide ((k:Int)<(e.kids.length:Int)))) (ie (ZM ((k:Int)<(e.kids.length:Int)) (fun Zk=>?_) (fun Zk=>?_)))))))
 ·refine ak (aq (ab 1 (ar (ZY 3 18 (X3 e.kids) 19 (.i k) [0] [b1] ?_))))
  obtain ⟨x1,Z3⟩:=Zr (xs:=e.kids) (j:=k) om
  have hks:=AO Z3
  have htk:Xn (e.kids.take (k+1))=Xn (e.kids.take k)+(x1).sz:=by rw [WM Z3,Ch,Xn,Xn];rfl
  have htl:Xn (e.kids.take (k+1))<=Xn e.kids:=by have h:=Yx Xn (UF (k+1) e.kids);rw [Ch] at h;omega
  refine Zq (Zm none (k:Int) 3 (Br Z3)) (Yq 2 21 (ZH x1) 22 (.i q) (ic [] (ih x1 q ob ob) ?_))
  rintro _ _ ⟨w1,rfl,rfl,ZP⟩
  have hnl:=ZP
  unfold NL at hnl
  refine ir 1 [(1,.i w1),(2,.p b1 0),(5,.i k)] (ie (ar (Z1 2 25 (.b (decide (w1<0))) (ie (ZM (w1<0) (fun ZG=>?_) (fun ZG=>?_))))))
  ·refine ar (ir 1 [(4,.i (-1))] (ie ?_))
   exact Zb (r1 [] ⟨(-1),rfl,rfl,(.inr ⟨by omega,rfl⟩)⟩)
  refine ak (az (Z1 1 15 (.i k) (ZL k (ir 1 [(1,.i w1),(2,.p b1 0),(5,.i (k+1:Nat))] (ie ?_)))))
  exact ZO ⟨k+1,w1,ob,ob,rfl,rfl,rfl⟩ (wk [0] (fw (ZQ k fl)))
 refine ax 0 (ar (ir 2 [(4,.i q)] (ie ?_)))
 have htk:Xn (e.kids.take k)=Xn e.kids:=by rw [Vg om]
 exact Zb (r1 [] ⟨q,rfl,rfl,(.inl ⟨by omega,by omega⟩)⟩)
theorem SW (e:Z2) (left:Int) (hz:e.sz<=1000000:=by exact ob) (hl:0<=left/\left<=1000:=by exact ob):Zi Tryz.prog 224 [ZH e,.i left] [] (fun r h=>∃(w:Int),r=.i w/\h=[]/\NL e.sz left w):=by
 have key:∀k:Nat,∀(e2:Z2) (left:Int),(e2.sz<k)->(e2.sz<=1000000)->(0<=left/\left<=1000)->Zi Tryz.prog 224 [ZH e2,.i left] [] (fun r h=>∃(w:Int),r=.i w/\h=[]/\NL e2.sz left w):=by
  intro k
  induction k with
  | zero=>intro e2 left h;omega
  | succ k ih=>intro e2 left h1 h2 h3;exact SX e2 left h2 h3 fun e3 l3 q1 q2=>ih e3 l3 om om q2
 exact key (e.sz+1) e left om hz hl
theorem Lh (e:Z2) (hz:e.sz<=1000000:=by exact ob):Zi Tryz.prog 196 [ZH e] [] (fun r h=>∃(w:Int),r=.i w/\h=[]/\((w=e.sz/\e.sz<=30)∨(w=-1/\30<e.sz))):=by
 refine ZK 10 Tryz.func196 (ar (iA (YA e) ?_))
 intro b1
 refine ir 1 [(1,.p b1 0)] (ie (ar (iR 1 [(4,ZH e)] [0] [b1] (ic [] (SW e 30) ?_))))
 rintro _ _ ⟨w1,rfl,rfl,ZP⟩
 have hnl:=ZP
 unfold NL at hnl
 refine ir 1 [(3,.i w1)] (ie (aq (ar (Z1 2 7 (.b (decide (w1<0))) (ie (ZM (w1<0) (fun Ze=>?_) (fun Ze=>?_)))))))
 ·refine ar (ir 1 [(2,.i (-1))] (ie ?_))
  exact Zb (r1 [] ⟨(-1),rfl,rfl,ob⟩)
 refine ak (ar (ir 1 [(8,.i w1)] (ia ((30-w1)) ((30)-(w1)) (ir 1 [(2,.i (30-w1))] (ie ?_)))))
 exact Zb (r1 [] ⟨(30-w1),rfl,rfl,ob⟩)
theorem AR (rd:Nat) (bs:List Int) (p:Nat) (g:XU) (gb:Nat) (rs:List Func) (vs:List Int) (ts:List Int) (b:Nat) (bb:Nat) (ZE:∀z∈bs,0<=z/\z<=255) (hp:p+ts.length*bC (b / ts.length)<=1000000000:=by exact ob) (hg:GP g:=by exact ob) (W9:g.funcs <+: rs:=by exact ob) (hv:vs.length+3*bb<=900:=by exact ob) (ht:ts.length<=3:=by exact ob) (hb:b<bb/\bb<=1000:=by exact ob) (ih:∀(rd:Nat) (bs:List Int) (p:Nat) (vs2:List Int) (t2:Int) (b2:Nat),(∀z∈bs,0<=z/\z<=255)->(p+bC b2<=1000000000)->(vs2.length+3*b2<=900)->(b2<bb)->Zi Tryz.prog 219 [.p rd 0,.agg (Y9 g gb),Z0 vs2,.i t2,.i b2] [Yn rd bs p,YI gb rs] (fun r h=>∃(e:Z2) (p2:Nat),r=ZH e/\h=[Yn rd bs p2,YI gb rs]/\GE g vs2.length (bS b2) e/\p<=p2/\p2<=p+bC b2)):Zi Tryz.prog 247 [.p rd 0,.agg (Y9 g gb),Z0 vs,Z0 ts,.i b] [Yn rd bs p,YI gb rs] (fun r h=>∃(ys:List Z2) (p2:Nat),r=X3 ys/\h=[Yn rd bs p2,YI gb rs]/\ys.length=ts.length/\(∀e∈ys,GE g vs.length (bS (b / ts.length)) e)/\p<=p2/\p2<=p+ts.length*bC (b / ts.length)):=by
 have hqb:=Nat.div_le_self b ts.length
 refine ZK 36 Tryz.func247 (ar (iA (Y9 g gb) ?_))
 intro b1
 refine ir 1 [(0,.p rd 0),(2,Z0 vs),(3,Z0 ts),(4,.i b),(6,.p b1 0)] (ie (ar (iL (Yr []) 0 3 ?_)))
 intro v1
 refine Z1 1 11 (XR [] v1) (ie (aq (ar (Z1 1 12 (.i 0) (ie (ab 0 (al (fun m F h=>∃(k:Nat) (ys:List Z2) (u:Value) (pq:Nat),(k<=ts.length)/\(ys.length=k)/\(∀e∈ys,GE g vs.length (bS (b / ts.length)) e)/\(p<=pq/\pq<=p+k*bC (b / ts.length))/\F=[(0,.p rd 0),(2,Z0 vs),(3,Z0 ts),(4,.i b),(6,.p b1 0),(11,XR ys u),(12,.i k)]/\h=[.obj b1 (Y9 g gb),Yn rd bs pq,YI gb rs,.tail u 3]/\m=ts.length-k) _ _ _ ⟨0,[],v1,p,ob,ob,(fun e he=>by cases he),(by simp),rfl,rfl,rfl⟩ (wk [1,1,1,0] (fq (fw (Ya fl)))) ?_)))))))
 rintro m F h ⟨k,ys,u,pq,Yj,Zp,Zy,YJ,rfl,rfl,rfl⟩
 refine aq (ar (Yq 2 14 (.i k) 15 (Z0 ts) (iw (Yh ts) (Z1 1 17 (.b (decide ((k:Int)<(ts.length:Int)))) (ie (ZM ((k:Int)<(ts.length:Int)) (fun Ze=>?_) (fun Ze=>?_)))))))
 ·obtain ⟨hm1,hm2⟩:=M9 (k:=k) (L:=ts.length) (C:=bC (b / ts.length)) om
  refine ak (aq (ab 1 (aE 16 (Y6 10 16 [0,1,2,3,4,5] (.n 20 (XR ys u) (.n 21 (.p rd 0) (.n 22 (.agg (Y9 g gb)) (.n 23 (Z0 vs) (.n 24 (Z0 ts) (.n 25 (.i k) .r)))))) [0] [b1] ?_))))
  obtain ⟨x1,Z3⟩:=Zr (xs:=ts) (j:=k) om
  refine dx 6 (Zm none (k:Int) 1 (Y4 Z3)) (Y0 6 9 [7,8,9] (.n 27 (.i x1) (.n 28 (.i b) (.n 29 (Z0 ts) .r))) (dw 10 (Yh ts) (dx 11 (AZ b ts.length om om) (Z9 12 (dc 12 [1,1] [] [] (ih rd bs pq vs x1 (b / ts.length) ob ob ob ob) ?_)))))
  rintro _ _ ⟨e1,p21,rfl,rfl,ZP⟩
  have X2:=ZP.1
  refine Z9 13 (Wj 13 [] [] [ZH e1] (Yr [e1]) (XD [e1]).symm 1 3 ?_)
  intro v2
  refine Y0 2 2 [] (.n 33 (X3 [e1]) (.p .r)) (Z9 14 (dp 14 4 [] [] (Yr (ys++[e1])) (Yr ys) (Yr [e1]) u none 3 (Us _) (Us _) (KC _) (by simp<;>omega) (by simp [KA,Yr]) ?_))
  intro v3
  refine Xa 0 1 [15] [(0,.p rd 0),(2,Z0 vs),(3,Z0 ts),(4,.i b),(6,.p b1 0),(11,XR (ys++[e1]) v3),(12,.i k)] (de (az (Z1 1 18 (.i k) (ZL k (Z5 1 (.n 12 (.i (k+1:Nat)) (.p (.d (.w (.k (.k .z)))))) (ie ?_))))))
  exact ZO ⟨k+1,(ys++[e1]),v3,p21,ob,ob,(Xp Zy (by assumption)),om,rfl,rfl,rfl⟩ (wk [4,2,2,0] (fq (fw (ZQ k fl))))
 have hke:k=ts.length:=by omega
 subst hke
 refine ax 0 (ar (ir 2 [(10,XR ys u)] (ie ?_)))
 exact Zb (r2 [1,1] [XR ys u] ⟨ys,pq,rfl,rfl,⟨by omega,Zy,by omega⟩⟩ (Zg.forget _ _))
theorem Sw (rd:Nat) (bs:List Int) (p:Nat) (g:XU) (gb:Nat) (rs:List Func) (vs:List Int) (t:Int) (b:Nat) (ZE:∀z∈bs,0<=z/\z<=255) (hp:p+(bC b-1)<=1000000000:=by exact ob) (hg:GP g:=by exact ob) (W9:g.funcs <+: rs:=by exact ob) (hv:vs.length+3*b<=900:=by exact ob) (hb:3<=b:=by exact ob) (ih:∀(rd:Nat) (bs:List Int) (p:Nat) (vs2:List Int) (t2:Int) (b2:Nat),(∀z∈bs,0<=z/\z<=255)->(p+bC b2<=1000000000)->(vs2.length+3*b2<=900)->(b2<b)->Zi Tryz.prog 219 [.p rd 0,.agg (Y9 g gb),Z0 vs2,.i t2,.i b2] [Yn rd bs p,YI gb rs] (fun r h=>∃(e:Z2) (p2:Nat),r=ZH e/\h=[Yn rd bs p2,YI gb rs]/\GE g vs2.length (bS b2) e/\p<=p2/\p2<=p+bC b2)):Zi Tryz.prog 248 [.p rd 0,.agg (Y9 g gb),Z0 vs,.i t,.i b] [Yn rd bs p,YI gb rs] (fun r h=>∃(e:Z2) (p2:Nat),r=ZH e/\h=[Yn rd bs p2,YI gb rs]/\GE g vs.length (bS b) e/\p<=p2/\p2<=p+(bC b-1)):=by
 have Xu:=hg.decls.ok
 have hgl:=hg.len
 have hdl:=hg.decls.len
 have hcm:=I0 b
 refine ZK 69 Tryz.func248 (ar (iA (Y9 g gb) ?_))
 intro b1
 refine iA [.i 0,.i 0,nl] ?_
 intro b2
 refine ie (ar (ir 1 [(0,.p rd 0),(2,Z0 vs),(3,.i t),(4,.i b),(6,.p b1 0),(10,.p b2 0),(15,.p rd 0)] (iL (Z8 [1,1,3,4]) 4 1 ?_)))
 intro v1
 refine Z5 0 (.n 16 (Z0 [1,1,3,4]) (.p .r)) (ic [3] (Vw rd bs p [1,1,3,4] (ZE:=ob)) ?_)
 rintro _ _ ⟨z1,rfl,rfl,ZP⟩
 have hz:=Ac (a:=1) (b:=4) ZP (by decide)
 refine Z1 1 11 (.i z1) (ie (aq (ar (ZY 3 18 (.i z1) 20 (Zd g.decls) [3] [b1] (iw (VU g.decls) (Xo [(0,.p rd 0),(2,Z0 vs),(3,.i t),(4,.i b),(6,.p b1 0),(10,.p b2 0),(11,.i z1),(28,.b ((decide (z1>(g.decls.length:Int)))||X5 g.decls z1))] [.obj rd [X9 bs,.i (p+1:Nat)],.tail v1 1,.obj b2 [.i 0,.i 0,nl],.obj b1 (Y9 g gb),YI gb rs] ?_ ?_))))))
 ·refine ir 2 [(0,.p rd 0),(2,Z0 vs),(3,.i t),(4,.i b),(6,.p b1 0),(10,.p b2 0),(11,.i z1),(23,.b (decide (z1>(g.decls.length:Int))))] (ib (b:=(decide (z1>(g.decls.length:Int)))) 23 (fun Za=>?_) (fun Za=>?_))
  ·have Y1:z1>(g.decls.length:Int):=(dq).1 Za
   refine Z5 5 (.n 28 (.b true) (.d (.w (.k (.k (.k .z)))))) (ie ?_)
   exact ZT 5 (fq (fw (fr (Zu true Za fl))))
  have Yy:¬(z1>(g.decls.length:Int)):=ZI dq Za
  refine Y2 3 (.n 25 (Zd g.decls) (.n 26 (.i z1) (.w (.w .z)))) [3] [b1] (ZA [] (CX g.decls z1) (Z1 1 28 (.b (X5 g.decls z1)) (ie ?_)))
  exact ZT 5 (fq (fw (fr (Zu (X5 g.decls z1) Za fl))))
 refine XI (fun F h=>∃(d:Int),(1<=d/\d<=4)/\F=[(0,.p rd 0),(2,Z0 vs),(3,.i t),(4,.i b),(6,.p b1 0),(10,.p b2 0),(11,.i d)]/\h=[.obj rd [X9 bs,.i (p+1:Nat)],.obj b2 [.i 0,.i 0,nl],.obj b1 (Y9 g gb),YI gb rs]) ?_ ?_
 ·refine ac ((decide (z1>(g.decls.length:Int)))||X5 g.decls z1) (p:=(z1>(g.decls.length:Int))∨(X5 g.decls z1=true)) (Yo dq Iff.rfl) (fun Ze=>?_) (fun Ze=>?_)
  ·refine az (ir 1 [(0,.p rd 0),(2,Z0 vs),(3,.i t),(4,.i b),(6,.p b1 0),(10,.p b2 0),(11,.i 1)] (ie ?_))
   exact ZW ⟨1,om,rfl,rfl⟩ (wk [0,1,1,1] fl)
  refine ak ?_
  exact ZW ⟨z1,om,rfl,rfl⟩ (wk [0,1,1,1] fl)
 rintro F h ⟨d,QM,rfl,rfl⟩
 have hcl:=GQ Xu d
 have hmc:=Z3b (L:=(Zw g.decls d).length) (q:=((b-2) / (Zw g.decls d).length)) (b:=b) om hb (Tp _ _)
 have hqb:=Nat.div_le_self (b-2) (Zw g.decls d).length
 refine ar (iR 3 [(0,.p rd 0),(2,Z0 vs),(3,.i t),(4,.i b),(6,.p b1 0),(10,.p b2 0),(11,.i d),(30,Zd g.decls),(31,.i d)] [2] [b1] (ic [] (KS g.decls d) ?_))
 rintro _ _ ⟨v2,rfl,rfl⟩
 refine Z1 1 12 (Z7 (Zw g.decls d) v2) (ie (ar (Y2 4 (.n 33 (.p rd 0) (.n 34 (.agg (Y9 g gb)) (.n 35 (Z0 vs) (.n 36 (.i d) .r)))) [3] [b1] (ic [1,3] (Bz rd bs (p+1) g gb rs vs d (ZE:=ob)) ?_))))
 rintro _ _ ⟨e1,p21,rfl,rfl,YK⟩
 have hle:=YK.1
 refine U7 [ZH e1] (Yr [e1]) (XD [e1]).symm 1 3 ?_
 intro v3
 refine Z1 1 13 (XR [e1] v3) (ie (aq (ar (Z1 1 14 (.i 0) (ie (ab 0 (al (fun m F h=>∃(k:Nat) (ys:List Z2) (u:Value) (pq:Nat),(k<=(Zw g.decls d).length)/\(ys.length=k)/\(TY g.decls g.funcs.length (Tf g.decls 8 d vs.length) 1 ys)/\(∀e∈ys,e.sz<=bS ((b-2) / (Zw g.decls d).length))/\(p<=pq/\pq<=p+31+k*bC ((b-2) / (Zw g.decls d).length))/\F=[(0,.p rd 0),(2,Z0 vs),(3,.i t),(4,.i b),(6,.p b1 0),(10,.p b2 0),(11,.i d),(12,Z0 (Zw g.decls d)),(13,XR (e1::ys) u),(14,.i k)]/\h=[Yn rd bs pq,YI gb rs,.obj b2 [.i 0,.i 0,nl],.obj b1 (Y9 g gb),.tail u 3]/\m=(Zw g.decls d).length-k) _ _ _ ⟨0,[],v3,p21,ob,rfl,True.intro,(fun e he=>by cases he),(by simp only [Nat.zero_mul];omega),rfl,rfl,rfl⟩ (wk [1,1,2,2,0] (fq (fw (fr (fc (x:=Z7 (Zw g.decls d) v2) (Zg.forget _ _) (fc (x:=XR [e1] v3) (Zg.slh _ (Yx Yr rfl)) (Ya fl))))))) ?_)))))))
 rintro m F h ⟨k,ys,u,pq,Yj,Zp,Zy,YJ,Wg,rfl,rfl,rfl⟩
 refine aq (ar (Yq 2 39 (.i k) 40 (Z0 (Zw g.decls d)) (io (.i (((Zw g.decls d).length:Nat):Int)) (.i (((Z8 (Zw g.decls d)).length:Nat):Int)) (li (by rw [Yh])) (Z1 1 42 (.b (decide ((k:Int)<(((Zw g.decls d).length:Nat):Int)))) (ie (ZM ((k:Int)<(((Zw g.decls d).length:Nat):Int)) (fun Zk=>?_) (fun Zk=>?_)))))))
 ·refine ak (aq (ab 1 (aE 22 (Y6 14 22 [0,1,2,3,4,5,6,7] (.n 45 (XR (e1::ys) u) (.n 46 (.p rd 0) (.n 47 (.agg (Y9 g gb)) (.n 48 (Z0 vs) (.n 50 (Zd g.decls) (.n 51 (Z0 (Zw g.decls d)) (.n 52 (.i k) .r))))))) [3,3] [b1,b1] ?_))))
  obtain ⟨x1,Z3⟩:=Zr (xs:=Zw g.decls d) (j:=k) om
  have hcf:=VK Xu x1
  have harm:=BV (m:=vs.length) Z3
  obtain ⟨hm1,hm2⟩:=M9 (k:=k) (L:=(Zw g.decls d).length) (C:=bC ((b-2) / (Zw g.decls d).length)) om
  refine dx 8 (Zm none (k:Int) 1 (Y4 Z3)) (Y0 10 13 [9,12,13] (.n 54 (.i x1) (.n 57 (.i t) (.n 58 (.i b) .r))) (da 14 (((b-2:Nat):Int)) (((b:Int))-(2)) (ZZ 8 9 [15] 60 (Z0 (Zw g.decls d)) (dn 16 (.i (((Zw g.decls d).length:Nat):Int)) (.i (((Z8 (Zw g.decls d)).length:Nat):Int)) (li (by rw [Yh])) (dx 17 (AZ (b-2) ((Zw g.decls d).length) om om) (Z9 10 (Yv 10 [] [3] [b1] (Qr g.decls x1) (Z9 11 (dc 11 [] [3] [b1] (Q9 vs (ZC g.decls x1)) ?_)))))))))
  rintro _ _ ⟨v4,rfl,rfl⟩
  refine Y0 4 4 [] (.n 56 (Z0 (vs++(ZC g.decls x1))) (.p .r)) (Z9 18 (dc 18 [1,1] [] [] (ih rd bs pq (vs++(ZC g.decls x1)) t ((b-2) / ((Zw g.decls d).length)) ob ob (by simp only [Yz];omega) ob) ?_))
  rintro _ _ ⟨e2,p22,rfl,rfl,X0⟩
  have X2:=X0.1
  refine Z9 19 (Wj 19 [] [] [ZH e2] (Yr [e2]) (XD [e2]).symm 1 3 ?_)
  intro v5
  refine Y0 2 2 [] (.n 64 (X3 [e2]) (.p .r)) (Z9 20 (dp 20 6 [] [] (Yr ((e1::ys)++[e2])) (Yr (e1::ys)) (Yr [e2]) u none 3 (Us _) (Us _) (KC _) (by simp<;>omega) (by simp [KA,Yr]) ?_))
  intro v6
  refine Xa 0 1 [21] [(0,.p rd 0),(2,Z0 vs),(3,.i t),(4,.i b),(6,.p b1 0),(10,.p b2 0),(11,.i d),(12,Z0 (Zw g.decls d)),(13,XR ((e1::ys)++[e2]) v6),(14,.i k)] (de (az (Z1 1 43 (.i k) (ZL k (Z5 1 (.n 14 (.i (k+1:Nat)) (.p (.d (.w (.w (.k .z)))))) (ie ?_))))))
  exact ZO ⟨k+1,(ys++[e2]),v6,p22,ob,ob,(IB.2 ⟨Zy,by rw [Zp,harm,<-Yz];exact X2.1,True.intro⟩),(Xp YJ X2.2),om,rfl,rfl,rfl⟩ (wk [2,2,3,3,0] (fq (fq (fc (x:=XR ((e1::ys)++[e2]) v6) (Zg.slh _ (Yx Yr rfl)) (ZQ k fl)))))
 refine ax 0 (ar (Yq 2 66 (.i d) 67 (X3 (e1::ys)) (ZA [] (XF 8 d (e1::ys)) (ZF 2 b2 (YA (Z2.mk 8 d (e1::ys))) (ie ?_)))))
 have hke:k=(Zw g.decls d).length:=by omega
 subst hke
 exact Zb (r3 [1,1] [ZH (Z2.mk 8 d (e1::ys))] [0] [(b2,b2)] ⟨(Z2.mk 8 d (e1::ys)),pq,rfl,rfl,⟨GE.match_ om hle Zy YJ Zp rfl om (Z3c om hb (Tp _ _)),by omega⟩⟩ (lr _))
theorem Lb (rd:Nat) (bs:List Int) (p:Nat) (g:XU) (gb:Nat) (rs:List Func) (vs:List Int) (t:Int) (b:Nat) (ZE:∀z∈bs,0<=z/\z<=255) (hp:p+(bC b-1)<=1000000000:=by exact ob) (hg:GP g:=by exact ob) (W9:g.funcs <+: rs:=by exact ob) (hv:vs.length+3*b<=900:=by exact ob) (hb:3<=b:=by exact ob) (ih:∀(rd:Nat) (bs:List Int) (p:Nat) (vs2:List Int) (t2:Int) (b2:Nat),(∀z∈bs,0<=z/\z<=255)->(p+bC b2<=1000000000)->(vs2.length+3*b2<=900)->(b2<b)->Zi Tryz.prog 219 [.p rd 0,.agg (Y9 g gb),Z0 vs2,.i t2,.i b2] [Yn rd bs p,YI gb rs] (fun r h=>∃(e:Z2) (p2:Nat),r=ZH e/\h=[Yn rd bs p2,YI gb rs]/\GE g vs2.length (bS b2) e/\p<=p2/\p2<=p+bC b2)):Zi Tryz.prog 250 [.p rd 0,.agg (Y9 g gb),Z0 vs,.i t,.i b] [Yn rd bs p,YI gb rs] (fun r h=>∃(e:Z2) (p2:Nat),r=ZH e/\h=[Yn rd bs p2,YI gb rs]/\GE g vs.length (bS b) e/\p<=p2/\p2<=p+(bC b-1)):=by
 have Xu:=hg.decls.ok
 have hgl:=hg.len
 have hdl:=hg.decls.len
 have hac:=OQ hb
 have has:=OR hb
 refine ZK 120 Tryz.func250 (ar (iA (Y9 g gb) ?_))
 intro b1
 refine iA [.i 0,.i 0,nl] ?_
 intro b2
 refine ie (aq (ar (ir 1 [(0,.p rd 0),(2,Z0 vs),(3,.i t),(4,.i b),(6,.p b1 0),(10,.p b2 0),(14,.p rd 0)] (ic [2] (XP rd bs p 4 (ZE:=ob)) ?_))))
 rintro _ _ ⟨k1,rfl,rfl,ZP⟩
 have qhp1:=ZP.lt om
 refine Z1 1 16 (.b (k1==0)) (ie (XI (fun F h=>∃(p5:Nat),(p<=p5/\p5<=p+1)/\F=[(0,.p rd 0),(2,Z0 vs),(3,.i t),(4,.i b),(6,.p b1 0),(10,.p b2 0)]/\h=[Yn rd bs p5,.obj b2 [.i 0,.i 0,nl],.obj b1 (Y9 g gb),YI gb rs]) ?_ ?_))
 ·refine ac (k1==0) Zh (fun Ze=>?_) (fun Ze=>?_)
  ·refine ar (ir 1 [(0,.p rd 0),(2,Z0 vs),(3,.i t),(4,.i b),(6,.p b1 0),(10,.p b2 0),(11,.i 1)] (ie (ab 0 (al (fun m F h=>∃(a:Nat),(1<=a/\a<=g.decls.length+1)/\F=[(0,.p rd 0),(2,Z0 vs),(3,.i t),(4,.i b),(6,.p b1 0),(10,.p b2 0),(11,.i a)]/\h=[.obj rd [X9 bs,.i (p+1:Nat)],.obj b2 [.i 0,.i 0,nl],.obj b1 (Y9 g gb),YI gb rs]/\m=g.decls.length+1-a) _ _ _ ⟨1,ob,rfl,rfl,rfl⟩ (ZT 4 (fq (fw (fc (x:=.i 1) li fl)))) ?_))))
   rintro m F h ⟨a,Yj,rfl,rfl,rfl⟩
   refine aq (ar (ZY 3 17 (.i a) 19 (Zd g.decls) [2] [b1] (iw (VU g.decls) (Z1 1 21 (.b (decide ((a:Int)<=(g.decls.length:Int)))) (ie (ZM ((a:Int)<=(g.decls.length:Int)) (fun Zk=>?_) (fun Zk=>?_)))))))
   ·refine ak (aq (ab 1 (aq (XI (fun F h=>∃(wb:Bool),(True)/\F=[(0,.p rd 0),(2,Z0 vs),(3,.i t),(4,.i b),(6,.p b1 0),(10,.p b2 0),(11,.i a),(44,.b wb)]/\h=[.obj rd [X9 bs,.i (p+1:Nat)],.obj b2 [.i 0,.i 0,nl],.obj b1 (Y9 g gb),YI gb rs]) ?_ ?_))))
    ·refine az (iR 3 [(0,.p rd 0),(2,Z0 vs),(3,.i t),(4,.i b),(6,.p b1 0),(10,.p b2 0),(11,.i a),(25,Zd g.decls),(26,.i a)] [2] [b1] (ZA [] (CX g.decls (a:Int)) (Z1 1 28 (.b (X5 g.decls (a:Int))) (ib (b:=X5 g.decls (a:Int)) 28 (fun Za=>?_) (fun Za=>?_)))))
     ·have Y1:X5 g.decls (a:Int)=true:=(Iff.rfl).1 Za
      refine Y2 3 (.n 30 (Zd g.decls) (.n 31 (.i a) (.k (.d .r)))) [2] [b1] (ia (((a-1:Nat):Int)) (((a:Int))-(1)) ?_)
      obtain ⟨x1,Z3⟩:=Zr (xs:=g.decls) (j:=a-1) om
      refine Zq (Zm none ((a-1:Nat):Int) 3 (Vk Z3)) (Z1 6 39 (.b (x1.to_==t)) (ib (b:=(x1.to_==t)) 39 (fun Zz=>?_) (fun Zz=>?_)))
      ·have Yy:x1.to_=t:=(Zh).1 Zz
       refine Y2 3 (.n 40 (.agg (Y9 g gb)) (.n 41 (Z0 vs) (.n 42 (.i a) (.k (.d .r))))) [2] [b1] (ic [3] (DK g gb rs vs (a:Int)) ?_)
       rintro _ _ ⟨w1,rfl,rfl⟩
       refine Z1 1 44 (.b w1) (ie ?_)
       exact ZW ⟨w1,True.intro,rfl,rfl⟩ (wk [1,1,1,0] fl)
      have YK:¬(x1.to_=t):=ZI Zh Zz
      refine Z5 5 (.n 44 (.b false) (.k (.d .r))) (ie ?_)
      exact ZW ⟨false,True.intro,rfl,rfl⟩ (ZT 4 fl)
     have X0:¬(X5 g.decls (a:Int)=true):=ZI Iff.rfl Za
     refine Z5 16 (.n 44 (.b false) (.k (.d .r))) (ie ?_)
     exact ZW ⟨false,True.intro,rfl,rfl⟩ (ZT 4 fl)
    rintro F h ⟨wb,kR5_0,rfl,rfl⟩
    refine ac wb Iff.rfl (fun ZG=>?_) (fun ZG=>?_)
    ·refine aD 21 (W2 11 21 [0,1,2,3,5,6,7,8,9,10] [(4,.i b),(10,.p b2 0),(45,.p rd 0),(46,.agg (Y9 g gb)),(47,Z0 vs),(48,.i a),(50,.p rd 0),(51,.agg (Y9 g gb)),(52,Z0 vs),(54,Zd g.decls),(55,.i a)] [2,2,2] [b1,b1,b1] (da 11 (((a-1:Nat):Int)) (((a:Int))-(1)) ?_))
     obtain ⟨x2,Zt⟩:=Zr (xs:=g.decls) (j:=a-1) om
     refine dx 12 (Zm none ((a-1:Nat):Int) 3 (Vk Zt)) (Y0 6 9 [13,14,15] (.n 59 (.i x2.frm) (.n 60 (.i b) .r)) (da 16 (((b-2:Nat):Int)) (((b:Int))-(2)) (Z9 4 (dc 4 [0,2] [1,1] [b1,b1] (Bz rd bs (p+1) g gb rs vs (a:Int) (ZE:=ob)) ?_))))
     rintro _ _ ⟨e1,p21,rfl,rfl,XB⟩
     have hle:=XB.1
     refine Z9 17 (dc 17 [0,0] [] [] (ih rd bs p21 vs x2.frm (b-2) ob ob ob ob) ?_)
     rintro _ _ ⟨e2,p22,rfl,rfl,Wk⟩
     have X2:=Wk.1
     refine Z9 18 (Wj 18 [] [] [ZH e1,ZH e2] (Yr [e1,e2]) (XD [e1,e2]).symm 2 3 ?_)
     intro v1
     refine Y0 2 2 [] (.n 63 (X3 [e1,e2]) (.p .r)) (Z9 19 (Yv 19 [] [] [] (XF 11 0 [e1,e2]) (Z9 20 (YL 20 3 [] [] b2 (YA (Z2.mk 11 0 [e1,e2])) (de ?_)))))
     exact Zb (r3 [2,2] [ZH (Z2.mk 11 0 [e1,e2])] [0] [(b2,b2)] ⟨(Z2.mk 11 0 [e1,e2]),p22,rfl,rfl,⟨GE.two om om hle X2 om,by omega⟩⟩ (lr _))
    refine ak (az (ir 1 [(0,.p rd 0),(2,Z0 vs),(3,.i t),(4,.i b),(6,.p b1 0),(10,.p b2 0),(22,.i a)] (ZL a (Z1 1 11 (.i (a+1:Nat)) (ie ?_)))))
    exact ZO ⟨a+1,ob,rfl,rfl,rfl⟩ (ZT 4 (fq (fw (ZQ a fl))))
   refine ax 0 ?_
   exact ZW ⟨p+1,ob,rfl,rfl⟩ (ZT 4 fl)
  refine ak ?_
  exact ZW ⟨p+1,ob,rfl,rfl⟩ (ZT 4 fl)
 rintro F h ⟨p5,QM,rfl,rfl⟩
 refine ar (iR 3 [(0,.p rd 0),(2,Z0 vs),(3,.i t),(4,.i b),(6,.p b1 0),(10,.p b2 0),(66,Zd g.decls),(67,.i t)] [2] [b1] (ic [] (KS g.decls t) ?_))
 rintro _ _ ⟨v2,rfl,rfl⟩
 refine Z1 1 12 (Z7 (Zw g.decls t) v2) (ie (aq (ar (Z1 1 69 (Z7 (Zw g.decls t) v2) (io (.i (((Zw g.decls t).length:Nat):Int)) (.i (((Z8 (Zw g.decls t)).length:Nat):Int)) (li (by rw [Yh])) (Z1 1 71 (.b (decide ((((Zw g.decls t).length:Nat):Int)>0))) (ie (ZM ((((Zw g.decls t).length:Nat):Int)>0) (fun Ym=>?_) (fun Ym=>?_)))))))))
 ·refine ar (Z5 3 (.n 72 (Z7 (Zw g.decls t) v2) (.n 73 (.p rd 0) (.n 74 (Z7 (Zw g.decls t) v2) .r))) (io (.i (((Zw g.decls t).length:Nat):Int)) (.i (((Z8 (Zw g.decls t)).length:Nat):Int)) (li (by rw [Yh])) (ic [1] (XP rd bs p5 (((Zw g.decls t).length:Nat):Int) (ZE:=ob)) ?_)))
  rintro _ _ ⟨k2,rfl,rfl,WJ⟩
  have qhp8:=WJ.lt om
  obtain ⟨x3,YT⟩:=Zr (xs:=Zw g.decls t) (j:=k2.toNat) om
  have hcc:=hg.decls.cons_cases (Y7 YT)
  refine Zq (Zm (some v2) k2 1 (Y4 YT)) (Z1 2 13 (.i x3) (ie (aD 13 (W2 5 13 [0,1,2,3,4,5,6,8] [(10,.p b2 0),(79,.i x3),(80,.p rd 0),(81,.agg (Y9 g gb)),(82,Z0 vs),(84,Zd g.decls),(85,.i x3),(87,.i b)] [3,3] [b1,b1] (da 9 (((b-1:Nat):Int)) (((b:Int))-(1)) (Z9 7 (Yv 7 [] [2] [b1] (Qr g.decls x3) (Z9 10 (dc 10 [0,3] [] [] (AR rd bs (p5+1) g gb rs vs (ZC g.decls x3) (b-1) b (ZE:=ob) (hp:=(B1 (p:=p) (by first|omega|simp) hb om om)) (ht:=(by first|omega|simp)) (hb:=om) (ih:=ih)) ?_)))))))))
  rintro _ _ ⟨ys1,p23,rfl,rfl,V4⟩
  have hga1:=V4.1
  have hga2:=V4.2.1
  have hga3:=V4.2.2
  have hnc:=Jr (b:=b) (show (ys1).length<=3 by rw [hga1];first|omega|simp) hb (Tp _ (b-1))
  rw [hga1] at hnc
  refine Z9 11 (Yv 11 [] [] [] (XF 6 x3 ys1) (Z9 12 (YL 12 3 [] [] b2 (YA (Z2.mk 6 x3 ys1)) (de ?_))))
  exact Zb (r3 [1,1] [ZH (Z2.mk 6 x3 ys1)] [0] [(b2,b2)] ⟨(Z2.mk 6 x3 ys1),p23,rfl,rfl,⟨GE.node om (fun h=>by omega) om hga2 hga1 (by first|omega|simp) (CH (by first|omega|simp) hb (Tp _ _)),by omega⟩⟩ (lr _))
 refine ak (aq (ar (Z1 2 92 (.b (decide (t>0))) (ie (ZM (t>0) (fun Xi=>?_) (fun Xi=>?_))))))
 ·refine ar (Y2 4 (.n 93 (.p rd 0) (.n 94 (.agg (Y9 g gb)) (.n 95 (Z0 vs) (.n 96 (.i t) .r)))) [3] [b1] (ic [1,3] (Bz rd bs p5 g gb rs vs t (ZE:=ob)) ?_))
  rintro _ _ ⟨e3,p24,rfl,rfl,Ug⟩
  have hle:=Ug.1
  refine ZF 3 b2 (YA e3) (ie ?_)
  exact Zb (r3 [1,1] [ZH e3] [0] [(b2,b2)] ⟨e3,p24,rfl,rfl,⟨hle.le (I1 b),by omega⟩⟩ (lr _))
 refine ak (aq (ar (Z1 1 98 (.p rd 0) (ic [1] (XP rd bs p5 3 (ZE:=ob)) ?_))))
 rintro _ _ ⟨k3,rfl,rfl,UM⟩
 have qhp11:=UM.lt om
 refine Z1 1 100 (.b (k3==0)) (ie (ac (k3==0) Zh (fun Xj=>?_) (fun Xj=>?_)))
 ·refine ar (Y2 3 (.n 101 (.p rd 0) (.n 102 (.agg (Y9 g gb)) (.n 103 (Z0 vs) .r))) [3] [b1] (iL (Z8 [0]) 1 1 ?_))
  intro v3
  refine Z1 1 105 (.i b) (ia (((b-1:Nat):Int)) (((b:Int))-(1)) (Z5 0 (.n 104 (Z0 [0]) (.q 106 (.k (.p .r)))) (ic [1,4] (AR rd bs (p5+1) g gb rs vs [0] (b-1) b (ZE:=ob) (hp:=(B1 (p:=p) (by first|omega|simp) hb om om)) (ht:=(by first|omega|simp)) (hb:=om) (ih:=ih)) ?_)))
  rintro _ _ ⟨ys2,p25,rfl,rfl,Uw⟩
  have hga1:=Uw.1
  have hga2:=Uw.2.1
  have hga3:=Uw.2.2
  have hnc:=Jr (b:=b) (show (ys2).length<=3 by rw [hga1];first|omega|simp) hb (Tp _ (b-1))
  rw [hga1] at hnc
  refine ZA [] (XF 5 0 ys2) (ZF 4 b2 (YA (Z2.mk 5 0 ys2)) (ie ?_))
  exact Zb (r3 [1,1] [ZH (Z2.mk 5 0 ys2)] [0] [(b2,b2)] ⟨(Z2.mk 5 0 ys2),p25,rfl,rfl,⟨GE.node om (fun h=>by omega) om hga2 hga1 (by first|omega|simp) (CH (by first|omega|simp) hb (Tp _ _)),by omega⟩⟩ (lr _))
 refine ak (aD 12 (W2 7 12 [0,3,4,5,7] [(10,.p b2 0),(109,.p rd 0),(112,.p rd 0),(113,.agg (Y9 g gb)),(114,Z0 vs),(116,.i b)] [3] [b1] (da 8 (((b-1:Nat):Int)) (((b:Int))-(1)) (dK (fun F h=>∃(z1:Int) (ys3:List Z2) (p26:Nat),(z1∈[1,2,3,4])/\(ys3.length=[0,0].length/\(∀e∈ys3,GE g vs.length (bS ((b-1) / [0,0].length)) e)/\((p5+1)+1)<=p26/\p26<=((p5+1)+1)+[0,0].length*bC ((b-1) / [0,0].length))/\F=[(10,.p b2 0)]/\h=[.obj b2 (YA (Z2.mk z1 0 ys3)),Yn rd bs p26,YI gb rs,.tail v2 1,.obj b1 (Y9 g gb)]) ?_ ?_))))
 ·refine Vj 1 6 ?_ ?_
  ·refine dL 1 [2] [b1] (Z8 [1,2,3,4]) 4 1 ?_
   intro v4
   refine Xa 5 5 [] [(10,.p b2 0),(109,.p rd 0),(110,Z0 [1,2,3,4]),(112,.p rd 0),(113,.agg (Y9 g gb)),(114,Z0 vs),(117,.i (b-1:Nat))] (Vj 2 6 ?_ ?_)
   ·refine dc 2 [1] [1] [b1] (Vw rd bs (p5+1) [1,2,3,4] (ZE:=ob)) ?_
    rintro _ _ ⟨z1,rfl,rfl,Tu⟩
    have hz:=Ac (a:=1) (b:=4) Tu (by decide)
    refine Z9 6 (dL 6 [2] [b1] (Z8 [0,0]) 2 1 ?_)
    intro v5
    refine Xa 3 3 [] [(10,.p b2 0),(111,.i z1),(112,.p rd 0),(113,.agg (Y9 g gb)),(114,Z0 vs),(115,Z0 [0,0]),(117,.i (b-1:Nat))] (Z9 9 (dc 9 [1,5] [] [] (AR rd bs ((p5+1)+1) g gb rs vs [0,0] (b-1) b (ZE:=ob) (hp:=(B1 (p:=p) (by first|omega|simp) hb om om)) (ht:=(by first|omega|simp)) (hb:=om) (ih:=ih)) ?_))
    rintro _ _ ⟨ys3,p26,rfl,rfl,Tc⟩
    have hga1:=Tc.1
    have hga2:=Tc.2.1
    have hga3:=Tc.2.2
    have hnc:=Jr (b:=b) (show (ys3).length<=3 by rw [hga1];first|omega|simp) hb (Tp _ (b-1))
    rw [hga1] at hnc
    refine Z9 10 (Yv 10 [] [] [] (XF z1 0 ys3) (Z9 11 (YL 11 5 [] [] b2 (YA (Z2.mk z1 0 ys3)) (de ?_))))
    exact ZW ⟨z1,ys3,p26,(by assumption),(by assumption),rfl,rfl⟩ (wk [0,0,0,2,2] fl)
   refine dL 6 [2] [b1] (Z8 [0,0]) 2 1 ?_
   intro v6
   refine Z9 2 (dc 2 [2] [1] [b1] (Vw rd bs (p5+1) [1,2,3,4] (ZE:=ob)) ?_)
   rintro _ _ ⟨z2,rfl,rfl,QJ⟩
   have hz:=Ac (a:=1) (b:=4) QJ (by decide)
   refine Xa 3 3 [] [(10,.p b2 0),(111,.i z2),(112,.p rd 0),(113,.agg (Y9 g gb)),(114,Z0 vs),(115,Z0 [0,0]),(117,.i (b-1:Nat))] (Z9 9 (dc 9 [0,5] [] [] (AR rd bs ((p5+1)+1) g gb rs vs [0,0] (b-1) b (ZE:=ob) (hp:=(B1 (p:=p) (by first|omega|simp) hb om om)) (ht:=(by first|omega|simp)) (hb:=om) (ih:=ih)) ?_))
   rintro _ _ ⟨ys4,p27,rfl,rfl,QK⟩
   have hga1:=QK.1
   have hga2:=QK.2.1
   have hga3:=QK.2.2
   have hnc:=Jr (b:=b) (show (ys4).length<=3 by rw [hga1];first|omega|simp) hb (Tp _ (b-1))
   rw [hga1] at hnc
   refine Z9 10 (Yv 10 [] [] [] (XF z2 0 ys4) (Z9 11 (YL 11 5 [] [] b2 (YA (Z2.mk z2 0 ys4)) (de ?_))))
   exact ZW ⟨z2,ys4,p27,(by assumption),(by assumption),rfl,rfl⟩ (wk [0,0,0,2,2] fl)
  refine dL 6 [2] [b1] (Z8 [0,0]) 2 1 ?_
  intro v7
  refine Z9 1 (dL 1 [2] [b1] (Z8 [1,2,3,4]) 4 1 ?_)
  intro v8
  refine Xa 4 4 [] [(10,.p b2 0),(109,.p rd 0),(110,Z0 [1,2,3,4]),(112,.p rd 0),(113,.agg (Y9 g gb)),(114,Z0 vs),(115,Z7 [0,0] v7),(117,.i (b-1:Nat))] (Z9 2 (dc 2 [2] [1] [b1] (Vw rd bs (p5+1) [1,2,3,4] (ZE:=ob)) ?_))
  rintro _ _ ⟨z3,rfl,rfl,Jm⟩
  have hz:=Ac (a:=1) (b:=4) Jm (by decide)
  refine Y0 3 3 [] (.n 115 (Z0 [0,0]) (.q 111 (.k (.d (.d (.k (.k (.k (.d .r))))))))) (Z9 9 (dc 9 [0,5] [] [] (AR rd bs ((p5+1)+1) g gb rs vs [0,0] (b-1) b (ZE:=ob) (hp:=(B1 (p:=p) (by first|omega|simp) hb om om)) (ht:=(by first|omega|simp)) (hb:=om) (ih:=ih)) ?_))
  rintro _ _ ⟨ys5,p28,rfl,rfl,QL⟩
  have hga1:=QL.1
  have hga2:=QL.2.1
  have hga3:=QL.2.2
  have hnc:=Jr (b:=b) (show (ys5).length<=3 by rw [hga1];first|omega|simp) hb (Tp _ (b-1))
  rw [hga1] at hnc
  refine Z9 10 (Yv 10 [] [] [] (XF z3 0 ys5) (Z9 11 (YL 11 5 [] [] b2 (YA (Z2.mk z3 0 ys5)) (de ?_))))
  exact ZW ⟨z3,ys5,p28,(by assumption),(by assumption),rfl,rfl⟩ (wk [0,0,0,2,2] fl)
 rintro F h ⟨z1,ys3,p26,Tu,Tc,rfl,rfl⟩
 have hz:=Ac (a:=1) (b:=4) Tu (by decide)
 have hga1:=Tc.1
 have hga2:=Tc.2.1
 have hga3:=Tc.2.2
 have hnc:=Jr (b:=b) (show (ys3).length<=3 by rw [hga1];first|omega|simp) hb (Tp _ (b-1))
 rw [hga1] at hnc
 exact Zb (r3 [1,1] [ZH (Z2.mk z1 0 ys3)] [0] [(b2,b2)] ⟨(Z2.mk z1 0 ys3),p26,rfl,rfl,⟨GE.node om (fun h=>by omega) om hga2 hga1 (by first|omega|simp) (CH (by first|omega|simp) hb (Tp _ _)),by omega⟩⟩ (lr _))
theorem Sx (rd:Nat) (bs:List Int) (p:Nat) (g:XU) (gb:Nat) (rs:List Func) (vs:List Int) (t:Int) (b:Nat) (ZE:∀z∈bs,0<=z/\z<=255) (hp:p+bC b<=1000000000) (hg:GP g) (W9:g.funcs <+: rs) (hv:vs.length+3*b<=900) (ih:∀(rd:Nat) (bs:List Int) (p:Nat) (vs2:List Int) (t2:Int) (b2:Nat),(∀z∈bs,0<=z/\z<=255)->(p+bC b2<=1000000000)->(vs2.length+3*b2<=900)->(b2<b)->Zi Tryz.prog 219 [.p rd 0,.agg (Y9 g gb),Z0 vs2,.i t2,.i b2] [Yn rd bs p,YI gb rs] (fun r h=>∃(e:Z2) (p2:Nat),r=ZH e/\h=[Yn rd bs p2,YI gb rs]/\GE g vs2.length (bS b2) e/\p<=p2/\p2<=p+bC b2)):Zi Tryz.prog 219 [.p rd 0,.agg (Y9 g gb),Z0 vs,.i t,.i b] [Yn rd bs p,YI gb rs] (fun r h=>∃(e:Z2) (p2:Nat),r=ZH e/\h=[Yn rd bs p2,YI gb rs]/\GE g vs.length (bS b) e/\p<=p2/\p2<=p+bC b):=by
 have Xu:=hg.decls.ok
 have hgl:=hg.len
 have hdl:=hg.decls.len
 have hbm:=I1 b
 have hcm:=I0 b
 refine ZK 114 Tryz.func219 (ar (iA (Y9 g gb) ?_))
 intro b1
 refine iA [.i 0,.i 0,nl] ?_
 intro b2
 refine ie (aq (ar (ir 2 [(0,.p rd 0),(2,Z0 vs),(3,.i t),(4,.i b),(6,.p b1 0),(10,.p b2 0),(15,.b (decide ((b:Int)<3)))] (ie (ZM ((b:Int)<3) (fun Ze=>?_) (fun Ze=>?_))))))
 ·refine ar (Y2 4 (.n 16 (.p rd 0) (.n 17 (.agg (Y9 g gb)) (.n 18 (Z0 vs) (.n 19 (.i t) .r)))) [1] [b1] (ic [2,2] (Bz rd bs p g gb rs vs t (ZE:=ob)) ?_))
  rintro _ _ ⟨e1,p21,rfl,rfl,ZP⟩
  have hle:=ZP.1
  refine ZF 2 b2 (YA e1) (ie ?_)
  exact Zb (r3 [1,1] [ZH e1] [0] [(b2,b2)] ⟨e1,p21,rfl,rfl,⟨hle.le hbm,by omega⟩⟩ (lr _))
 have hb:3<=b:=by omega
 have hlc:=Z36 hb
 have hls:=Z37 hb
 refine ak (aq (ar (Z1 1 21 (.p rd 0) (ic [2] (XP rd bs p 12 (ZE:=ob)) ?_))))
 rintro _ _ ⟨k1,rfl,rfl,Y1⟩
 have qhp2:=Y1.lt om
 refine ie (ab 0 (ar (Z1 2 23 (.b (k1==0)) (ie (ac (k1==0) Zh (fun Zk=>?_) (fun Zk=>?_))))))
 ·refine ar (Y2 4 (.n 25 (.p rd 0) (.n 26 (.agg (Y9 g gb)) (.n 27 (Z0 vs) (.n 28 (.i t) .r)))) [2] [b1] (ic [0,2] (Bz rd bs (p+1) g gb rs vs t (ZE:=ob)) ?_))
  rintro _ _ ⟨e2,p22,rfl,rfl,Yy⟩
  have hle:=Yy.1
  refine ZF 2 b2 (YA e2) (ie ?_)
  exact Zb (r3 [1,1] [ZH e2] [0] [(b2,b2)] ⟨e2,p22,rfl,rfl,⟨hle.le hbm,by omega⟩⟩ (lr _))
 refine aq (ar (Z1 2 30 (.b (k1==1)) (ie (XI (fun F h=>F=[(0,.p rd 0),(2,Z0 vs),(3,.i t),(4,.i b),(6,.p b1 0),(10,.p b2 0),(22,.i k1),(30,.b ((k1==1)||(k1==2)))]/\h=[.obj rd [X9 bs,.i (p+1:Nat)],.obj b2 [.i 0,.i 0,nl],.obj b1 (Y9 g gb),YI gb rs]) ?_ ?_))))
 ·refine ac (k1==1) Zh (fun ZG=>?_) (fun ZG=>?_)
  ·refine ak ?_
   exact ZW ⟨rfl,rfl⟩ (ZT 4 (fq (fw (fr (fc (x:=.b (k1==1)) (lb (by first|rfl|(rw [Zo ZG])|(rw [Zc ZG])|(simp [ZG];done)|(rw [Xl];simp [ZG];done)|omega)) fl)))))
  refine az (ir 2 [(0,.p rd 0),(2,Z0 vs),(3,.i t),(4,.i b),(6,.p b1 0),(10,.p b2 0),(22,.i k1),(30,.b (k1==2))] (ie ?_))
  exact ZW ⟨rfl,rfl⟩ (ZT 4 (fq (fw (fr (fc (x:=.b (k1==2)) (lb (by first|rfl|(rw [Zo ZG])|(rw [Zc ZG])|(simp [ZG];done)|(rw [Xl];simp [ZG];done)|omega)) fl)))))
 rintro F h ⟨rfl,rfl⟩
 refine ac ((k1==1)||(k1==2)) (p:=(k1=1)∨(k1=2)) (Yo Zh Zh) (fun Ym=>?_) (fun Ym=>?_)
 ·refine ar (iR 3 [(0,.p rd 0),(2,Z0 vs),(3,.i t),(4,.i b),(6,.p b1 0),(10,.p b2 0),(33,.p rd 0),(34,.agg (Y9 g gb)),(35,Z0 vs)] [2] [b1] (ic [0,2] (S9 rd bs (p+1) g gb rs vs (ZE:=ob)) ?_))
  rintro _ _ ⟨z1,rfl,rfl,YK⟩
  refine Z1 1 11 (.i z1) (ie (aD 20 (Y6 15 20 [0,1,2,3,4] (.n 37 (.p rd 0) (.n 38 (.agg (Y9 g gb)) (.n 39 (Z0 vs) (.n 40 (.i z1) (.n 41 (.i b) .r))))) [3] [b1] (dx 5 (AZ b 2 om om) (Y6 8 14 [7,8,9,10,13,14] (.n 44 (.p rd 0) (.n 45 (.agg (Y9 g gb)) (.n 46 (Z0 vs) (.n 47 (.i z1) (.n 50 (.i t) (.n 51 (.i b) .r)))))) [3] [b1] (dx 15 (AZ b 2 om om) (dK (fun F h=>∃(e3:Z2) (e4:Z2) (p24:Nat) (p23:Nat),(GE g vs.length (bS (b / 2)) e3/\((p+1)+1)<=p23/\p23<=((p+1)+1)+bC (b / 2))/\(GE g (vs++[z1]).length (bS (b / 2)) e4/\p23<=p24/\p24<=p23+bC (b / 2))/\F=[(10,.p b2 0)]/\h=[.obj b2 (YA (Z2.mk 13 0 [e3,e4])),Yn rd bs p24,YI gb rs,.obj b1 (Y9 g gb)]) ?_ ?_)))))))
  ·refine Vj 6 11 ?_ ?_
   ·refine dc 6 [0,0] [1] [b1] (ih rd bs ((p+1)+1) vs z1 (b / 2) ob ob (by first|omega|(simp only [Yz,YS,Xm];omega)) ob) ?_
    rintro _ _ ⟨e3,p23,rfl,rfl,X0⟩
    have hgehp5:=X0.1
    refine Z9 11 (dL 11 [3] [b1] (Z8 [z1]) 1 1 ?_)
    intro v1
    refine Xa 5 5 [] [(10,.p b2 0),(43,ZH e3),(44,.p rd 0),(45,.agg (Y9 g gb)),(46,Z0 vs),(48,Z0 [z1]),(50,.i t),(52,.i (b / 2:Nat))] (Z9 12 (dc 12 [] [3] [b1] (Q9 vs [z1]) ?_))
    rintro _ _ ⟨v2,rfl,rfl⟩
    refine Y0 4 4 [] (.n 49 (Z0 (vs++[z1])) (.p .r)) (Z9 16 (dc 16 [2,2] [] [] (ih rd bs p23 (vs++[z1]) t (b / 2) ob ob (by first|omega|(simp only [Yz,YS,Xm];omega)) ob) ?_))
    rintro _ _ ⟨e4,p24,rfl,rfl,XB⟩
    have hgehp6:=XB.1
    refine Z9 17 (Wj 17 [] [] [ZH e3,ZH e4] (Yr [e3,e4]) (XD [e3,e4]).symm 2 3 ?_)
    intro v3
    refine Y0 2 2 [] (.n 54 (X3 [e3,e4]) (.p .r)) (Z9 18 (Yv 18 [] [] [] (XF 13 0 [e3,e4]) (Z9 19 (YL 19 5 [] [] b2 (YA (Z2.mk 13 0 [e3,e4])) (de ?_)))))
    exact ZW ⟨e3,e4,p24,_,(by assumption),(by assumption),rfl,rfl⟩ (wk [0,1,1,3] fl)
   refine dL 11 [3,3] [b1,b1] (Z8 [z1]) 1 1 ?_
   intro v4
   refine Z9 6 (dc 6 [1,1] [1] [b1] (ih rd bs ((p+1)+1) vs z1 (b / 2) ob ob (by first|omega|(simp only [Yz,YS,Xm];omega)) ob) ?_)
   rintro _ _ ⟨e5,p25,rfl,rfl,Wk⟩
   have hgehp7:=Wk.1
   refine Xa 5 5 [] [(10,.p b2 0),(43,ZH e5),(44,.p rd 0),(45,.agg (Y9 g gb)),(46,Z0 vs),(48,Z0 [z1]),(50,.i t),(52,.i (b / 2:Nat))] (Z9 12 (dc 12 [] [3] [b1] (Q9 vs [z1]) ?_))
   rintro _ _ ⟨v5,rfl,rfl⟩
   refine Y0 4 4 [] (.n 49 (Z0 (vs++[z1])) (.p .r)) (Z9 16 (dc 16 [1,1] [] [] (ih rd bs p25 (vs++[z1]) t (b / 2) ob ob (by first|omega|(simp only [Yz,YS,Xm];omega)) ob) ?_))
   rintro _ _ ⟨e6,p26,rfl,rfl,WJ⟩
   have hgehp8:=WJ.1
   refine Z9 17 (Wj 17 [] [] [ZH e5,ZH e6] (Yr [e5,e6]) (XD [e5,e6]).symm 2 3 ?_)
   intro v6
   refine Y0 2 2 [] (.n 54 (X3 [e5,e6]) (.p .r)) (Z9 18 (Yv 18 [] [] [] (XF 13 0 [e5,e6]) (Z9 19 (YL 19 5 [] [] b2 (YA (Z2.mk 13 0 [e5,e6])) (de ?_)))))
   exact ZW ⟨e5,e6,p26,_,(by assumption),(by assumption),rfl,rfl⟩ (wk [0,1,1,3] fl)
  rintro F h ⟨e3,e4,p24,p23,X0,XB,rfl,rfl⟩
  have hgehp5:=X0.1
  have hgehp6:=XB.1
  exact Zb (r3 [1,1] [ZH (Z2.mk 13 0 [e3,e4])] [0] [(b2,b2)] ⟨(Z2.mk 13 0 [e3,e4]),p24,rfl,rfl,⟨GE.let_ (by assumption) (by have h:=‹GE g (vs++[_]).length (bS (b / 2)) _›;rw [Yz] at h;exact h) hls,by omega⟩⟩ (lr _))
 refine ar (ir 2 [(0,.p rd 0),(2,Z0 vs),(3,.i t),(4,.i b),(6,.p b1 0),(10,.p b2 0),(22,.i k1),(56,.b (k1==3))] (ie (ac (k1==3) Zh (fun Xi=>?_) (fun Xi=>?_))))
 ·refine ar (Y2 5 (.n 58 (.p rd 0) (.n 59 (.agg (Y9 g gb)) (.n 60 (Z0 vs) (.n 61 (.i t) (.n 62 (.i t) .r))))) [2] [b1] (iL (Z8 [0,t,t]) 3 1 ?_))
  intro v7
  refine Z1 1 64 (.i b) (ia (((b-1:Nat):Int)) (((b:Int))-(1)) (Z5 0 (.n 63 (Z0 [0,t,t]) (.q 65 (.k (.p .r)))) (ic [1,3] (AR rd bs (p+1) g gb rs vs [0,t,t] (b-1) b (ZE:=ob) (hp:=(B1 (p:=p) (by first|omega|simp) hb om om)) (ht:=(by first|omega|simp)) (hb:=om) (ih:=ih)) ?_)))
  rintro _ _ ⟨ys1,p27,rfl,rfl,V4⟩
  have hga1:=V4.1
  have hga2:=V4.2.1
  have hga3:=V4.2.2
  have hnc:=Jr (b:=b) (show (ys1).length<=3 by rw [hga1];first|omega|simp) hb (Tp _ (b-1))
  rw [hga1] at hnc
  refine ZA [] (XF 7 0 ys1) (ZF 3 b2 (YA (Z2.mk 7 0 ys1)) (ie ?_))
  exact Zb (r3 [1,1] [ZH (Z2.mk 7 0 ys1)] [0] [(b2,b2)] ⟨(Z2.mk 7 0 ys1),p27,rfl,rfl,⟨GE.if_ om hga2 hga1 (CH (by simp) hb (Tp 3 _)),by omega⟩⟩ (lr _))
 refine aq (ar (Z1 2 68 (.b (k1==4)) (ie (XI (fun F h=>F=[(0,.p rd 0),(2,Z0 vs),(3,.i t),(4,.i b),(6,.p b1 0),(10,.p b2 0),(22,.i k1),(68,.b ((k1==4)||((k1==5)||(k1==6))))]/\h=[.obj rd [X9 bs,.i (p+1:Nat)],.obj b2 [.i 0,.i 0,nl],.obj b1 (Y9 g gb),YI gb rs]) ?_ ?_))))
 ·refine ac (k1==4) Zh (fun Xj=>?_) (fun Xj=>?_)
  ·refine ak ?_
   exact ZW ⟨rfl,rfl⟩ (ZT 4 (fq (fw (fr (fc (x:=.b (k1==4)) (lb (by first|rfl|(rw [Zo Xj])|(rw [Zc Xj])|(simp [Xj];done)|(rw [Xl];simp [Xj];done)|omega)) fl)))))
  refine ar (ir 2 [(0,.p rd 0),(2,Z0 vs),(3,.i t),(4,.i b),(6,.p b1 0),(10,.p b2 0),(22,.i k1),(68,.b (k1==5))] (ie (ac (k1==5) Zh (fun Vx=>?_) (fun Vx=>?_))))
  ·refine ak ?_
   exact ZW ⟨rfl,rfl⟩ (ZT 4 (fq (fw (fr (fc (x:=.b (k1==5)) (lb (by first|rfl|(rw [Zo Xj])|(rw [Zc Xj])|(simp [Xj,Vx];done)|(rw [Xl];simp [Xj,Vx];done)|omega)) fl)))))
  refine az (Z5 2 (.n 68 (.b (k1==6)) (.w (.k (.k (.k .z))))) (ie ?_))
  exact ZW ⟨rfl,rfl⟩ (ZT 4 (fq (fw (fr (fc (x:=.b (k1==6)) (lb (by first|rfl|(rw [Zo Xj])|(rw [Zc Xj])|(simp [Xj,Vx];done)|(rw [Xl];simp [Xj,Vx];done)|omega)) fl)))))
 rintro F h ⟨rfl,rfl⟩
 refine ac ((k1==4)||((k1==5)||(k1==6))) (p:=(k1=4)∨((k1=5)∨(k1=6))) (Yo Zh (Yo Zh Zh)) (fun Vr=>?_) (fun Vr=>?_)
 ·refine ar (iR 5 [(10,.p b2 0),(72,.p rd 0),(73,.agg (Y9 g gb)),(74,Z0 vs),(75,.i t),(76,.i b)] [2] [b1] (ic [0,2] (Sw rd bs (p+1) g gb rs vs t b (ZE:=ob) (ih:=ih)) ?_))
  rintro _ _ ⟨e7,p28,rfl,rfl,Ug⟩
  have hgm:=Ug.1
  refine ZF 2 b2 (YA e7) (ie ?_)
  exact Zb (r3 [1,1] [ZH e7] [0] [(b2,b2)] ⟨e7,p28,rfl,rfl,⟨hgm,by omega⟩⟩ (lr _))
 refine aq (ar (ir 2 [(0,.p rd 0),(2,Z0 vs),(3,.i t),(4,.i b),(6,.p b1 0),(10,.p b2 0),(22,.i k1),(78,.b (k1==7))] (ie (XI (fun F h=>F=[(0,.p rd 0),(2,Z0 vs),(3,.i t),(4,.i b),(6,.p b1 0),(10,.p b2 0),(78,.b ((k1==7)||(k1==8)))]/\h=[.obj rd [X9 bs,.i (p+1:Nat)],.obj b2 [.i 0,.i 0,nl],.obj b1 (Y9 g gb),YI gb rs]) ?_ ?_))))
 ·refine ac (k1==7) Zh (fun VH=>?_) (fun VH=>?_)
  ·refine ak ?_
   exact ZW ⟨rfl,rfl⟩ (ZT 4 (fq (fw (fc (x:=.b (k1==7)) (lb (by first|rfl|(rw [Zo VH])|(rw [Zc VH])|(simp [VH];done)|(rw [Xl];simp [VH];done)|omega)) fl))))
  refine az (ir 2 [(0,.p rd 0),(2,Z0 vs),(3,.i t),(4,.i b),(6,.p b1 0),(10,.p b2 0),(78,.b (k1==8))] (ie ?_))
  exact ZW ⟨rfl,rfl⟩ (ZT 4 (fq (fw (fc (x:=.b (k1==8)) (lb (by first|rfl|(rw [Zo VH])|(rw [Zc VH])|(simp [VH];done)|(rw [Xl];simp [VH];done)|omega)) fl))))
 rintro F h ⟨rfl,rfl⟩
 refine ac ((k1==7)||(k1==8)) (p:=(k1=7)∨(k1=8)) (Yo Zh Zh) (fun UL=>?_) (fun UL=>?_)
 ·refine ar (iR 2 [(0,.p rd 0),(2,Z0 vs),(3,.i t),(4,.i b),(6,.p b1 0),(10,.p b2 0),(81,.agg (Y9 g gb)),(82,.i t)] [2] [b1] (ic [3] (Sd g gb rs t) ?_))
  rintro _ _ ⟨xs1,rfl,rfl,UM⟩
  have hcal:=UM
  refine Z1 1 12 (Z0 xs1) (ie (ar (Z1 1 84 (Z0 xs1) (iw (Yh xs1) (Z1 1 86 (.b (decide ((xs1.length:Int)>0))) (ie (ZM ((xs1.length:Int)>0) (fun Kc=>?_) (fun Kc=>?_))))))))
  ·refine ar (Z5 3 (.n 87 (Z0 xs1) (.n 88 (.p rd 0) (.n 89 (Z0 xs1) .r))) (iw (Yh xs1) (ic [1] (XP rd bs (p+1) (xs1.length:Int) (ZE:=ob)) ?_)))
   rintro _ _ ⟨k2,rfl,rfl,Uw⟩
   have qhp12:=Uw.lt om
   obtain ⟨x1,Z3⟩:=Zr (xs:=xs1) (j:=k2.toNat) om
   have hcv:=hcal.2 _ (Y7 Z3)
   refine Zq (Zm none k2 1 (Y4 Z3)) (Z1 2 13 (.i x1) (ie (aD 15 (Y6 8 15 [0,1,2,3,4,5,6] (.n 94 (.i x1) (.n 95 (.p rd 0) (.n 96 (.agg (Y9 g gb)) (.n 97 (Z0 vs) (.n 99 (.ms gb 0 g.funcs.length 4) (.n 100 (.i x1) .r)))))) [3,3] [b1,b1] ?_))))
   obtain ⟨x2,Zt⟩:=Zr (xs:=g.funcs) (j:=x1.toNat) om
   have hso:=(hg.sigs _ (Y7 Zt)).bd
   refine dx 7 (W4 gb g.funcs.length 4 x1.toNat 5 x1) (ZZ 6 7 [8] 102 (.val (.pointer (some ⟨gb,x1.toNat * 5,none⟩))) (VT 9 (WY 1 gb 4 4 5 (x1.toNat * 5+0) (Zl (Xc rs)) [Z0 x2.params] 27 (Z0 x2.params) (U6 W9 Zt 0 rfl (WF rfl))) (ZZ 4 5 [10] 104 (.i b) (da 11 (((b-1:Nat):Int)) (((b:Int))-(1)) (Z9 12 (dc 12 [0,0] [] [] (AR rd bs ((p+1)+1) g gb rs vs x2.params (b-1) b (ZE:=ob) (hp:=(B1 (p:=p) (by first|omega|simp) hb om om)) (ht:=(by first|omega|simp)) (hb:=om) (ih:=ih)) ?_))))))
   rintro _ _ ⟨ys2,p29,rfl,rfl,Tu⟩
   have hga1:=Tu.1
   have hga2:=Tu.2.1
   have hga3:=Tu.2.2
   have hnc:=Jr (b:=b) (show (ys2).length<=3 by rw [hga1];first|omega|simp) hb (Tp _ (b-1))
   rw [hga1] at hnc
   refine Z9 13 (Yv 13 [] [] [] (XF 9 x1 ys2) (Z9 14 (YL 14 2 [] [] b2 (YA (Z2.mk 9 x1 ys2)) (de ?_))))
   exact Zb (r3 [1,1] [ZH (Z2.mk 9 x1 ys2)] [0] [(b2,b2)] ⟨(Z2.mk 9 x1 ys2),p29,rfl,rfl,⟨GE.node om (fun _=>by omega) om hga2 hga1 (by first|omega|simp) (CH (by first|omega|simp) hb (Tp _ _)),by omega⟩⟩ (lr _))
  refine ak (ar (iR 5 [(10,.p b2 0),(108,.p rd 0),(109,.agg (Y9 g gb)),(110,Z0 vs),(111,.i t),(112,.i b)] [3] [b1] (ic [1,0] (Lb rd bs (p+1) g gb rs vs t b (ZE:=ob) (ih:=ih)) ?_)))
  rintro _ _ ⟨e8,p210,rfl,rfl,Tc⟩
  have hgm:=Tc.1
  refine ZF 2 b2 (YA e8) (ie ?_)
  exact Zb (r3 [1,1] [ZH e8] [0] [(b2,b2)] ⟨e8,p210,rfl,rfl,⟨hgm,by omega⟩⟩ (lr _))
 refine ak (ar (iR 5 [(10,.p b2 0),(108,.p rd 0),(109,.agg (Y9 g gb)),(110,Z0 vs),(111,.i t),(112,.i b)] [2] [b1] (ic [0,2] (Lb rd bs (p+1) g gb rs vs t b (ZE:=ob) (ih:=ih)) ?_)))
 rintro _ _ ⟨e9,p211,rfl,rfl,QJ⟩
 have hgm:=QJ.1
 refine ZF 2 b2 (YA e9) (ie ?_)
 exact Zb (r3 [1,1] [ZH e9] [0] [(b2,b2)] ⟨e9,p211,rfl,rfl,⟨hgm,by omega⟩⟩ (lr _))
theorem Q0 (rd:Nat) (bs:List Int) (p:Nat) (g:XU) (gb:Nat) (rs:List Func) (vs:List Int) (t:Int) (b:Nat) (ZE:∀z∈bs,0<=z/\z<=255) (hp:p+bC b<=1000000000:=by exact ob) (hg:GP g:=by exact ob) (W9:g.funcs <+: rs:=by exact ob) (hv:vs.length+3*b<=900:=by exact ob):Zi Tryz.prog 219 [.p rd 0,.agg (Y9 g gb),Z0 vs,.i t,.i b] [Yn rd bs p,YI gb rs] (fun r h=>∃(e:Z2) (p2:Nat),r=ZH e/\h=[Yn rd bs p2,YI gb rs]/\GE g vs.length (bS b) e/\p<=p2/\p2<=p+bC b):=by
 have key:∀k:Nat,∀(rd:Nat) (bs:List Int) (p:Nat) (vs:List Int) (t:Int) (b2:Nat),(∀z∈bs,0<=z/\z<=255)->(p+bC b2<=1000000000)->(vs.length+3*b2<=900)->(b2<k)->Zi Tryz.prog 219 [.p rd 0,.agg (Y9 g gb),Z0 vs,.i t,.i b2] [Yn rd bs p,YI gb rs] (fun r h=>∃(e:Z2) (p2:Nat),r=ZH e/\h=[Yn rd bs p2,YI gb rs]/\GE g vs.length (bS b2) e/\p<=p2/\p2<=p+bC b2):=by
  intro k
  induction k with
  | zero=>intro rd bs p vs t b2 h1 h2 h3 h4;omega
  | succ k ih=>intro rd bs p vs t b2 h1 h2 h3 h4;exact Sx rd bs p g gb rs vs t b2 h1 h2 hg W9 h3 fun rd bs p vs t b3 q1 q2 q3 q4=>ih rd bs p vs t b3 q1 q2 q3 om
 exact key (b+1) rd bs p vs t b ZE hp hv om
theorem La (rd:Nat) (bs:List Int) (p:Nat) (g:XU) (gb:Nat) (rs:List Func) (vs:List Int) (t:Int) (b:Nat) (ZE:∀z∈bs,0<=z/\z<=255) (hp:p+40000<=1000000000:=by exact ob) (hg:GP g:=by exact ob) (W9:g.funcs <+: rs:=by exact ob) (hv:vs.length+3*b<=900:=by exact ob) (hb:b<=20:=by exact ob):Zi Tryz.prog 195 [.p rd 0,.agg (Y9 g gb),Z0 vs,.i t,.i b] [Yn rd bs p,YI gb rs] (fun r h=>∃(e:Z2) (p2:Nat),r=ZH e/\h=[Yn rd bs p2,YI gb rs]/\GE g vs.length 30 e/\p<=p2/\p2<=p+40000):=by
 have BD:=Df hb
 refine ZK 34 Tryz.func195 (ar (iA (Y9 g gb) ?_))
 intro b1
 refine iA [.i 0,.i 0,nl] ?_
 intro b2
 refine ie (ar (iR 5 [(0,.p rd 0),(2,Z0 vs),(3,.i t),(4,.i b),(6,.p b1 0),(10,.p b2 0),(12,.p rd 0),(13,.agg (Y9 g gb)),(14,Z0 vs),(15,.i t),(16,.i b)] [1] [b1] (ic [2,2] (Q0 rd bs p g gb rs vs t b (ZE:=ob)) ?_)))
 rintro _ _ ⟨e1,p21,rfl,rfl,ZP⟩
 have X2:=ZP.1
 refine iA [.i 0,.i 0,nl] ?_
 intro b3
 refine ZF 0 b3 (YA e1) (ie (aq (ab 0 (al (fun m F h=>∃(bq:Nat) (eQ:Z2) (pq:Nat),(GE g vs.length (bS bq) eQ)/\(bq<=b)/\(p<=pq/\pq+1900*bq<=p+1900*(b+1))/\F=[(0,.p rd 0),(2,Z0 vs),(3,.i t),(4,.i bq),(6,.p b1 0),(10,.p b2 0),(11,.p b3 0)]/\h=[.obj b3 (YA eQ),Yn rd bs pq,YI gb rs,.obj b2 [.i 0,.i 0,nl],.obj b1 (Y9 g gb)]/\m=bq+1) _ _ _ ⟨b,e1,p21,X2,ob,ob,rfl,rfl,rfl⟩ (ZT 5 fl) ?_))))
 rintro m F h ⟨bq,eQ,pq,Yj,Zp,Zy,rfl,rfl,rfl⟩
 refine aq (ar (Yl 1 18 (ZH eQ) [0] [b3] (ic [] (Lh eQ (hz:=(by have h1:=Yj.2;have h2:=(Df (b:=bq) om).1;omega))) ?_)))
 rintro _ _ ⟨w1,rfl,rfl,Y1⟩
 have Gi:=Y1
 have hq20:=Df (b:=bq) om
 have hq21:=Df (b:=bq / 2) om
 have Xq:=Yj.2
 refine Xo [(0,.p rd 0),(2,Z0 vs),(3,.i t),(4,.i bq),(6,.p b1 0),(10,.p b2 0),(11,.p b3 0),(24,.b ((decide (w1<0))&&(decide ((bq:Int)>2))))] [.obj b3 (YA eQ),Yn rd bs pq,YI gb rs,.obj b2 [.i 0,.i 0,nl],.obj b1 (Y9 g gb)] ?_ ?_
 ·refine ir 2 [(0,.p rd 0),(2,Z0 vs),(3,.i t),(4,.i bq),(6,.p b1 0),(10,.p b2 0),(11,.p b3 0),(21,.b (decide (w1<0)))] (ib (b:=(decide (w1<0))) 21 (fun Za=>?_) (fun Za=>?_))
  ·have Yy:w1<0:=(dq).1 Za
   refine Z5 3 (.n 24 (.b (decide ((bq:Int)>2))) (.d (.w (.k (.k (.k .z)))))) (ie ?_)
   exact ZT 5 (fq (fw (fr (Zu (decide ((bq:Int)>2)) Za fl))))
  have YK:¬(w1<0):=ZI dq Za
  refine Z5 3 (.n 24 (.b false) (.d (.w (.k (.k (.k .z)))))) (ie ?_)
  exact ZT 5 (fq (fw (fr (Zu false Za fl))))
 refine ac ((decide (w1<0))&&(decide ((bq:Int)>2))) (p:=(w1<0)/\((bq:Int)>2)) (YD dq dq) (fun Ze=>?_) (fun Ze=>?_)
 ·refine ak (ab 1 (ar (ir 1 [(0,.p rd 0),(2,Z0 vs),(3,.i t),(6,.p b1 0),(10,.p b2 0),(11,.p b3 0),(25,.i bq)] (Zq (AZ bq 2 om om) (Z1 1 4 (.i (bq / 2:Nat)) (ie (az (Y2 5 (.n 27 (.p rd 0) (.n 28 (.agg (Y9 g gb)) (.n 29 (Z0 vs) (.n 30 (.i t) (.n 31 (.i (bq / 2:Nat)) .r))))) [4] [b1] (ic [1,1] (Q0 rd bs pq g gb rs vs t (bq / 2) (ZE:=ob)) ?_)))))))))
  rintro _ _ ⟨e2,p22,rfl,rfl,X0⟩
  have X2:=X0.1
  refine ZF 2 b3 (YA e2) (ie ?_)
  exact ZO ⟨(bq / 2),e2,p22,X2,ob,ob,rfl,rfl,rfl⟩ (ZT 5 (fw (fr (fc (x:=.i (bq / 2:Nat)) li fl))))
 refine ax 0 (ar (iR 1 [(10,.p b2 0),(33,ZH eQ)] [0] [b3] (ZF 3 b2 (YA eQ) (ie ?_))))
 exact Zb (r3 [2,2] [ZH eQ] [0] [(b2,b2)] ⟨eQ,pq,rfl,rfl,⟨⟨Yj.1,by omega⟩,by omega⟩⟩ (lr _))
theorem SO (rd:Nat) (bs:List Int) (p:Nat) (t:Int) (ZE:∀z∈bs,0<=z/\z<=255) (hp:p+14<=1000000000:=by exact ob):Zi Tryz.prog 221 [.p rd 0,.i t] [Yn rd bs p] (fun r h=>∃(e:Z2) (p2:Nat),r=ZH e/\h=[Yn rd bs p2]/\(∀g:XU,SE g 9 e)/\p<=p2/\p2<=p+14):=by
 refine ZK 45 Tryz.func221 (ar (iA [.i 0,.i 0,nl] ?_))
 intro b1
 refine ie (ar (iL (Yr []) 0 3 ?_))
 intro v1
 refine ir 0 [(0,.p rd 0),(1,.i t),(4,.p b1 0),(10,X3 [])] (ZA [] (XF 6 0 []) (iA [.i 0,.i 0,nl] ?_))
 intro b2
 refine ZF 0 b2 (YA (Z2.mk 6 0 [])) (ie (aq (ar (Z1 2 13 (.b (t==3)) (ie (ac (t==3) Zh (fun Ze=>?_) (fun Ze=>?_)))))))
 ·refine ar (iL (Yr []) 0 3 ?_)
  intro v2
  refine Z5 0 (.n 14 (X3 []) (.p .r)) (ZA [] (XF 6 2 []) (iA [.i 0,.i 0,nl] ?_))
  intro b3
  refine ZF 0 b3 (YA (Z2.mk 6 2 [])) (ie (aD 9 (Y6 6 9 [0,1,4] (.n 16 (ZH (Z2.mk 6 2 [])) (.n 17 (.p rd 0) (.n 20 (ZH (Z2.mk 6 2 [])) .r))) [0,0] [b3,b3] (dK (fun F h=>∃(k1:Int) (b4:Nat),(Pk 9 k1)/\F=[(0,.p rd 0),(4,.p b1 0),(6,.p b3 0),(7,.p b4 0)]/\h=[.obj b4 (YA (Z2.mk 6 3 [Z2.mk 6 2 [],Z2.mk 0 k1 [],Z2.mk 6 2 []])),.obj rd [X9 bs,.i (p+1:Nat)],.obj b3 (YA (Z2.mk 6 2 [])),.tail v2 3,.obj b2 (YA (Z2.mk 6 0 [])),.tail v1 3,.obj b1 [.i 0,.i 0,nl]]) ?_ ?_))))
  ·refine Vj 2 7 ?_ ?_
   ·refine dc 2 [5] [0,0] [b3,b3] (XP rd bs p 9 (ZE:=ob)) ?_
    rintro _ _ ⟨k1,rfl,rfl,ZP⟩
    have qhp1:=ZP.lt om
    refine Vj 3 7 ?_ ?_
    ·refine Yv 3 [] [1,1] [b3,b3] (Jg k1) (Vj 5 7 ?_ ?_)
     ·refine Wj 5 [] [] [ZH (Z2.mk 6 2 []),ZH (Z2.mk 0 k1 []),ZH (Z2.mk 6 2 [])] (Yr [Z2.mk 6 2 [],Z2.mk 0 k1 [],Z2.mk 6 2 []]) (XD [Z2.mk 6 2 [],Z2.mk 0 k1 [],Z2.mk 6 2 []]).symm 3 3 ?_
      intro v3
      refine Xa 3 3 [] [(0,.p rd 0),(4,.p b1 0),(6,.p b3 0),(21,X3 [Z2.mk 6 2 [],Z2.mk 0 k1 [],Z2.mk 6 2 []])] (Vj 6 7 ?_ ?_)
      ·refine Yv 6 [] [] [] (XF 6 3 [Z2.mk 6 2 [],Z2.mk 0 k1 [],Z2.mk 6 2 []]) (Z9 7 (dA 7 [] [] [.i 0,.i 0,nl] ?_))
       intro b4
       refine Z9 8 (YL 8 0 [] [] b4 (YA (Z2.mk 6 3 [Z2.mk 6 2 [],Z2.mk 0 k1 [],Z2.mk 6 2 []])) (de ?_))
       exact ZW ⟨k1,b4,(by assumption),rfl,rfl⟩ (wk [0,1,1,1,1,1,1] fl)
      refine dA 7 [] [] [.i 0,.i 0,nl] ?_
      intro b5
      refine Z9 6 (Yv 6 [] [] [] (XF 6 3 [Z2.mk 6 2 [],Z2.mk 0 k1 [],Z2.mk 6 2 []]) (Z9 8 (YL 8 0 [] [] b5 (YA (Z2.mk 6 3 [Z2.mk 6 2 [],Z2.mk 0 k1 [],Z2.mk 6 2 []])) (de ?_))))
      exact ZW ⟨k1,b5,(by assumption),rfl,rfl⟩ (wk [0,1,1,1,1,1,1] fl)
     refine dA 7 [1,1] [b3,b3] [.i 0,.i 0,nl] ?_
     intro b6
     refine Z9 5 (Wj 5 [] [] [ZH (Z2.mk 6 2 []),ZH (Z2.mk 0 k1 []),ZH (Z2.mk 6 2 [])] (Yr [Z2.mk 6 2 [],Z2.mk 0 k1 [],Z2.mk 6 2 []]) (XD [Z2.mk 6 2 [],Z2.mk 0 k1 [],Z2.mk 6 2 []]).symm 3 3 ?_)
     intro v4
     refine Xa 2 2 [] [(0,.p rd 0),(4,.p b1 0),(6,.p b3 0),(7,.p b6 0),(21,X3 [Z2.mk 6 2 [],Z2.mk 0 k1 [],Z2.mk 6 2 []])] (Z9 6 (Yv 6 [] [] [] (XF 6 3 [Z2.mk 6 2 [],Z2.mk 0 k1 [],Z2.mk 6 2 []]) (Z9 8 (YL 8 1 [] [] b6 (YA (Z2.mk 6 3 [Z2.mk 6 2 [],Z2.mk 0 k1 [],Z2.mk 6 2 []])) (de ?_)))))
     exact ZW ⟨k1,b6,(by assumption),rfl,rfl⟩ (wk [0,1,1,1,1,1,1] fl)
    refine dA 7 [1,1] [b3,b3] [.i 0,.i 0,nl] ?_
    intro b7
    refine Z9 3 (Yv 3 [] [2,2] [b3,b3] (Jg k1) (Z9 5 (Wj 5 [] [] [ZH (Z2.mk 6 2 []),ZH (Z2.mk 0 k1 []),ZH (Z2.mk 6 2 [])] (Yr [Z2.mk 6 2 [],Z2.mk 0 k1 [],Z2.mk 6 2 []]) (XD [Z2.mk 6 2 [],Z2.mk 0 k1 [],Z2.mk 6 2 []]).symm 3 3 ?_)))
    intro v5
    refine Xa 2 2 [] [(0,.p rd 0),(4,.p b1 0),(6,.p b3 0),(7,.p b7 0),(21,X3 [Z2.mk 6 2 [],Z2.mk 0 k1 [],Z2.mk 6 2 []])] (Z9 6 (Yv 6 [] [] [] (XF 6 3 [Z2.mk 6 2 [],Z2.mk 0 k1 [],Z2.mk 6 2 []]) (Z9 8 (YL 8 1 [] [] b7 (YA (Z2.mk 6 3 [Z2.mk 6 2 [],Z2.mk 0 k1 [],Z2.mk 6 2 []])) (de ?_)))))
    exact ZW ⟨k1,b7,(by assumption),rfl,rfl⟩ (wk [0,1,1,1,1,1,1] fl)
   refine dA 7 [0,0] [b3,b3] [.i 0,.i 0,nl] ?_
   intro b8
   refine Z9 2 (dc 2 [6] [1,1] [b3,b3] (XP rd bs p 9 (ZE:=ob)) ?_)
   rintro _ _ ⟨k2,rfl,rfl,Y1⟩
   have qhp2:=Y1.lt om
   refine Z9 3 (Yv 3 [] [2,2] [b3,b3] (Jg k2) (Z9 5 (Wj 5 [] [] [ZH (Z2.mk 6 2 []),ZH (Z2.mk 0 k2 []),ZH (Z2.mk 6 2 [])] (Yr [Z2.mk 6 2 [],Z2.mk 0 k2 [],Z2.mk 6 2 []]) (XD [Z2.mk 6 2 [],Z2.mk 0 k2 [],Z2.mk 6 2 []]).symm 3 3 ?_)))
   intro v6
   refine Xa 2 2 [] [(0,.p rd 0),(4,.p b1 0),(6,.p b3 0),(7,.p b8 0),(21,X3 [Z2.mk 6 2 [],Z2.mk 0 k2 [],Z2.mk 6 2 []])] (Z9 6 (Yv 6 [] [] [] (XF 6 3 [Z2.mk 6 2 [],Z2.mk 0 k2 [],Z2.mk 6 2 []]) (Z9 8 (YL 8 2 [] [] b8 (YA (Z2.mk 6 3 [Z2.mk 6 2 [],Z2.mk 0 k2 [],Z2.mk 6 2 []])) (de ?_)))))
   exact ZW ⟨k2,b8,(by assumption),rfl,rfl⟩ (wk [0,1,1,1,1,1,1] fl)
  rintro F h ⟨k1,b4,ZP,rfl,rfl⟩
  have qhp1:=ZP.lt om
  refine aD 8 (W2 5 8 [0,1,4] [(4,.p b1 0),(23,ZH (Z2.mk 6 3 [Z2.mk 6 2 [],Z2.mk 0 k1 [],Z2.mk 6 2 []])),(24,.p rd 0),(27,ZH (Z2.mk 6 2 []))] [0,2] [b4,b3] (Z9 2 (dc 2 [1] [1,0] [b3,b4] (XP rd bs (p+1) 9 (ZE:=ob)) ?_)))
  rintro _ _ ⟨k3,rfl,rfl,Yy⟩
  have qhp3:=Yy.lt om
  refine Z9 3 (Yv 3 [] [2,1] [b3,b4] (Jg k3) (Z9 5 (Wj 5 [] [] [ZH (Z2.mk 6 3 [Z2.mk 6 2 [],Z2.mk 0 k1 [],Z2.mk 6 2 []]),ZH (Z2.mk 0 k3 []),ZH (Z2.mk 6 2 [])] (Yr [Z2.mk 6 3 [Z2.mk 6 2 [],Z2.mk 0 k1 [],Z2.mk 6 2 []],Z2.mk 0 k3 [],Z2.mk 6 2 []]) (XD [Z2.mk 6 3 [Z2.mk 6 2 [],Z2.mk 0 k1 [],Z2.mk 6 2 []],Z2.mk 0 k3 [],Z2.mk 6 2 []]).symm 3 3 ?_)))
  intro v7
  refine Y0 2 2 [] (.n 28 (X3 [Z2.mk 6 3 [Z2.mk 6 2 [],Z2.mk 0 k1 [],Z2.mk 6 2 []],Z2.mk 0 k3 [],Z2.mk 6 2 []]) (.p .r)) (Z9 6 (Yv 6 [] [] [] (XF 6 3 [Z2.mk 6 3 [Z2.mk 6 2 [],Z2.mk 0 k1 [],Z2.mk 6 2 []],Z2.mk 0 k3 [],Z2.mk 6 2 []]) (Z9 7 (YL 7 7 [] [] b1 (YA (Z2.mk 6 3 [Z2.mk 6 3 [Z2.mk 6 2 [],Z2.mk 0 k1 [],Z2.mk 6 2 []],Z2.mk 0 k3 [],Z2.mk 6 2 []])) (de ?_)))))
  exact Zb (r3 [2] [ZH (Z2.mk 6 3 [Z2.mk 6 3 [Z2.mk 6 2 [],Z2.mk 0 k1 [],Z2.mk 6 2 []],Z2.mk 0 k3 [],Z2.mk 6 2 []])] [0] [(b1,b1)] ⟨(Z2.mk 6 3 [Z2.mk 6 3 [Z2.mk 6 2 [],Z2.mk 0 k1 [],Z2.mk 6 2 []],Z2.mk 0 k3 [],Z2.mk 6 2 []]),(p+1)+1,rfl,rfl,⟨fun g=>SE.three (s1:=4) (s2:=1) (s3:=1) om om (SE.three (s1:=1) (s2:=1) (s3:=1) om om (SE.nil om om om) (SE.int om om) (SE.nil om om om) om) (SE.int om om) (SE.nil om om om) om,by omega⟩⟩ (lr _))
 refine ak (ar (Yl 1 30 (ZH (Z2.mk 6 0 [])) [0] [b2] (iA [.i 0,.i 0,nl] ?_)))
 intro b9
 refine ZF 0 b9 (YA (Z2.mk 6 0 [])) (ie (aq (ar (Z1 1 31 (.p rd 0) (ic [4] (XP rd bs p 3 (ZE:=ob)) ?_)))))
 rintro _ _ ⟨k4,rfl,rfl,YK⟩
 have qhp4:=YK.lt om
 refine ia ((1+k4)) ((1)+(k4)) (Z1 1 9 (.i (1+k4)) (ie (ab 0 (al (fun m F h=>∃(j:Int) (eQ:Z2) (pq:Nat),(0<=j/\j<=3)/\(∀g:XU,SE g (7-2*j.toNat) eQ)/\(p+1<=pq/\pq+4*j.toNat<=p+13)/\F=[(0,.p rd 0),(4,.p b1 0),(8,.p b9 0),(9,.i j)]/\h=[Yn rd bs pq,.obj b9 (YA eQ),.obj b1 [.i 0,.i 0,nl]]/\m=j.toNat) _ _ _ ⟨(1+k4),(Z2.mk 6 0 []),p+1,ob,(fun g=>SE.nil om om om),ob,rfl,rfl,rfl⟩ (wk [0,0,2] fl) ?_))))
 rintro m F h ⟨j,eQ,pq,Yj,Zp,Zy,rfl,rfl,rfl⟩
 refine aq (ar (Z1 2 35 (.b (decide (j>0))) (ie (ZM (j>0) (fun Zk=>?_) (fun Zk=>?_)))))
 ·refine ak (aq (ab 1 (aE 7 (Y6 5 7 [0,3] (.n 38 (.p rd 0) (.n 41 (ZH eQ) .r)) [1] [b9] (Z9 1 (dc 1 [0] [0] [b9] (Lj rd bs pq (ZE:=ob)) ?_))))))
  rintro _ _ ⟨z1,rfl,rfl,X0⟩
  have hz:=X0
  refine Z9 2 (Yv 2 [] [1] [b9] (Jg z1) (Z9 4 (Wj 4 [] [] [ZH (Z2.mk 0 z1 []),ZH eQ] (Yr [Z2.mk 0 z1 [],eQ]) (XD [Z2.mk 0 z1 [],eQ]).symm 2 3 ?_)))
  intro v8
  refine Y0 2 2 [] (.n 42 (X3 [Z2.mk 0 z1 [],eQ]) (.p .r)) (Z9 5 (Yv 5 [] [] [] (XF 6 1 [Z2.mk 0 z1 [],eQ]) (Z9 6 (YL 6 2 [] [] b9 (YA (Z2.mk 6 1 [Z2.mk 0 z1 [],eQ])) (de (az (Z1 1 36 (.i j) (ia ((j-1)) ((j)-(1)) (ir 1 [(0,.p rd 0),(4,.p b1 0),(8,.p b9 0),(9,.i (j-1))] (ie ?_))))))))))
  exact ZO ⟨(j-1),(Z2.mk 6 1 [Z2.mk 0 z1 [],eQ]),pq+4,ob,(fun g=>SE.two om om (SE.int (q:=1) om om) (Zp g) om),ob,rfl,rfl,rfl⟩ (wk [2,0,1] fl)
 refine ax 0 (ar (Yl 1 44 (ZH eQ) [1] [b9] (ZF 2 b1 (YA eQ) (ie ?_))))
 exact Zb (r3 [1] [ZH eQ] [0] [(b1,b1)] ⟨eQ,pq,rfl,rfl,⟨fun g=>(⟨(Zp g).1,by have:=(Zp g).2;omega⟩:SE g 9 _),by omega⟩⟩ (lr _))
theorem SR (rd:Nat) (bs:List Int) (p:Nat) (g:XU) (gb:Nat) (rs:List Func) (ZE:∀z∈bs,0<=z/\z<=255) (hp:p+1600<=1000000000:=by exact ob) (hg:GP g:=by exact ob) (W9:g.funcs <+: rs:=by exact ob):Zi Tryz.prog 191 [.p rd 0,.agg (Y9 g gb)] [Yn rd bs p,YI gb rs] (fun r h=>∃(e:Z2) (p2:Nat),r=ZH e/\h=[Yn rd bs p2,YI gb rs]/\GE g 0 200 e/\p<=p2/\p2<=p+1600):=by
 have hbv:=C7
 refine ZK 27 Tryz.func191 (ar (iA (Y9 g gb) ?_))
 intro b1
 refine iA [.i 0,.i 0,nl] ?_
 intro b2
 refine ie (ar (ir 1 [(0,.p rd 0),(3,.p b1 0),(4,.p b2 0),(7,.p rd 0)] (iL (Z8 [1,1,3]) 3 1 ?_)))
 intro v1
 refine Z5 0 (.n 8 (Z0 [1,1,3]) (.p .r)) (ic [3] (Vw rd bs p [1,1,3] (ZE:=ob)) ?_)
 rintro _ _ ⟨z1,rfl,rfl,ZP⟩
 have hz:=Ac (a:=1) (b:=3) ZP (by decide)
 refine Z1 1 5 (.i z1) (ie (ar (Y2 3 (.n 10 (.p rd 0) (.n 11 (.agg (Y9 g gb)) (.n 12 (.i z1) .r))) [3] [b1] (iL (Z8 [z1]) 1 1 ?_))))
 intro v2
 refine Z5 0 (.n 13 (Z0 [z1]) (.p .r)) (ic [1,4] (Q0 rd bs (p+1) g gb rs [z1] 0 16 (ZE:=ob) (hv:=(by simp))) ?_)
 rintro _ _ ⟨e1,p21,rfl,rfl,Y1⟩
 have X2:=Y1.1
 have Q1:=Y1.2
 rw [hbv.2.2.2.1] at X2
 refine iA [.i 0,.i 0,nl] ?_
 intro b3
 refine ZF 0 b3 (YA e1) (ie (aq (ar (Z1 1 15 (.p rd 0) (ic [1] (XP rd bs p21 3 (ZE:=ob)) ?_)))))
 rintro _ _ ⟨k1,rfl,rfl,Yy⟩
 have qhp3:=Yy.lt om
 refine Z1 1 17 (.b (k1==0)) (ie (XI (fun F h=>∃(eQ:Z2),(GE g 1 151 eQ)/\F=[(0,.p rd 0),(4,.p b2 0),(5,.i z1),(6,.p b3 0)]/\h=[.obj rd [X9 bs,.i (p21+1:Nat)],.obj b3 (YA eQ),YI gb rs,.obj b2 [.i 0,.i 0,nl]]) ?_ ?_))
 ·refine ac (k1==0) Zh (fun Ze=>?_) (fun Ze=>?_)
  ·refine az (iR 1 [(0,.p rd 0),(4,.p b2 0),(5,.i z1),(6,.p b3 0),(18,ZH e1)] [1] [b3] (U7 [ZH e1] (Yr [e1]) (XD [e1]).symm 1 3 ?_))
   intro v3
   refine Z5 0 (.n 19 (X3 [e1]) (.p .r)) (ZA [] (XF 5 0 [e1]) (ZF 2 b3 (YA (Z2.mk 5 0 [e1])) (ie ?_)))
   exact ZW ⟨(Z2.mk 5 0 [e1]),(GE.one om om X2 om),rfl,rfl⟩ (wk [2,0,1,3] fl)
  refine ak ?_
  exact ZW ⟨e1,(GE.le X2 om),rfl,rfl⟩ (wk [0,0,0,2] fl)
 rintro F h ⟨eQ,QM,rfl,rfl⟩
 refine aD 7 (W2 4 7 [0,1,3] [(4,.p b2 0),(21,.p rd 0),(22,.i z1),(24,ZH eQ)] [1] [b3] (Z9 2 (dc 2 [0] [0] [b3] (SO rd bs (p21+1) z1 (ZE:=ob)) ?_)))
 rintro _ _ ⟨e2,p22,rfl,rfl,YK⟩
 have hli:=YK.1
 refine Z9 4 (Wj 4 [] [] [ZH e2,ZH eQ] (Yr [e2,eQ]) (XD [e2,eQ]).symm 2 3 ?_)
 intro v4
 refine Y0 2 2 [] (.n 25 (X3 [e2,eQ]) (.p .r)) (Z9 5 (Yv 5 [] [] [] (XF 13 0 [e2,eQ]) (Z9 6 (YL 6 4 [] [] b2 (YA (Z2.mk 13 0 [e2,eQ])) (de ?_)))))
 exact Zb (r3 [2,3] [ZH (Z2.mk 13 0 [e2,eQ])] [0] [(b2,b2)] ⟨(Z2.mk 13 0 [e2,eQ]),p22,rfl,rfl,⟨GE.letS ((hli g).ge (X6 _)) QM om,by omega⟩⟩ (lr _))
theorem Z00 (rd:Nat) (bs:List Int) (p:Nat) (g:XU) (gb:Nat) (rs:List Func) (f:Func) (i:Int) (w:Int) (ZE:∀z∈bs,0<=z/\z<=255) (hp:p+1000<=1000000000:=by exact ob) (hg:GP g:=by exact ob) (W9:g.funcs <+: rs:=by exact ob) (hi:0<=i:=by exact ob) (hf:g.funcs[i.toNat]? = some f:=by exact ob) (hw:0<=w/\w<f.params.length:=by exact ob):Zi Tryz.prog 192 [.p rd 0,.agg (Y9 g gb),.i i,.i w] [Yn rd bs p,YI gb rs] (fun r h=>∃(e:Z2) (p2:Nat),r=ZH e/\h=[Yn rd bs p2,YI gb rs]/\GE g f.params.length 200 e/\p<=p2/\p2<=p+1000):=by
 obtain ⟨hil,_⟩:=XM.1 hf
 have hgl:=hg.len
 have hso:=(hg.sigs f (Y7 hf)).bd
 have hbv:=C7
 refine ZK 136 Tryz.func192 (ar (iA (Y9 g gb) ?_))
 intro b1
 refine iA [.i 0,.i 0,nl] ?_
 intro b2
 refine ie (ar (iR 3 [(0,.p rd 0),(2,.i i),(3,.i w),(5,.p b1 0),(8,.p b2 0),(18,.ms gb 0 g.funcs.length 4),(19,.i i)] [1] [b1] (Zq (W4 gb g.funcs.length 4 i.toNat 5 i) (Z1 1 21 (.val (.pointer (some ⟨gb,i.toNat * 5,none⟩))) (VI (WY 3 gb 4 4 5 (i.toNat * 5+0) (Zl (Xc rs)) [Z0 f.params] 27 (Z0 f.params) (U6 W9 hf 0 rfl (WF rfl))) (Z1 1 9 (Z0 f.params) (ie (ar (Z1 1 23 (Z0 f.params) (iw (Yh f.params) (Z1 1 10 (.i f.params.length) (ie (ar (Z1 1 25 (Z0 f.params) (iL (Z8 [0,1]) 2 1 ?_)))))))))))))))
 intro v1
 refine Z5 0 (.n 26 (Z0 [0,1]) (.p .r)) (ic [] (Q9 f.params [0,1]) ?_)
 rintro _ _ ⟨v2,rfl,rfl⟩
 refine Z1 1 11 (Z7 (f.params++[0,1]) v2) (ie (ar (iL (Yr []) 0 3 ?_)))
 intro v3
 refine Z1 1 12 (XR [] v3) (ie (aq (ar (Z1 1 13 (.i 0) (ie (ab 0 (al (fun m F h=>∃(k:Nat) (ys:List Z2) (u:Value) (pq:Nat),(k<=f.params.length)/\(ys.length=k)/\(∀e∈ys,GE g (f.params.length+2) 3 e)/\(p<=pq/\pq<=p+k)/\F=[(0,.p rd 0),(2,.i i),(3,.i w),(5,.p b1 0),(8,.p b2 0),(9,Z0 f.params),(10,.i f.params.length),(11,Z0 (f.params++[0,1])),(12,XR ys u),(13,.i k)]/\h=[.obj b2 [.i 0,.i 0,nl],.obj b1 (Y9 g gb),Yn rd bs pq,YI gb rs,.tail u 3]/\m=f.params.length-k) _ _ _ ⟨0,[],v3,p,ob,ob,(fun e he=>by cases he),ob,rfl,rfl,rfl⟩ (wk [3,3,3,3,0] (fq (fw (fr (fc (x:=Z7 (f.params++[0,1]) v2) (Zg.forget _ _) (fr (Ya fl))))))) ?_)))))))
 rintro m F h ⟨k,ys,u,pq,Yj,Zp,Zy,YJ,rfl,rfl,rfl⟩
 refine aq (ar (Z1 3 31 (.b (decide ((k:Int)<(f.params.length:Int)))) (ie (ZM ((k:Int)<(f.params.length:Int)) (fun Ze=>?_) (fun Ze=>?_)))))
 ·refine ak (aq (ab 1 (ar (Z1 3 36 (.b ((k:Int)==w)) (ie (ac ((k:Int)==w) Zh (fun Zk=>?_) (fun Zk=>?_)))))))
  ·refine az (Yq 2 37 (XR ys u) 38 (.i f.params.length) (ia (((f.params.length+1:Nat):Int)) (((f.params.length:Int))+(1)) (ZA [] (Tt ((f.params.length+1:Nat):Int)) (U7 [ZH (Z2.mk 12 ((f.params.length+1:Nat):Int) [])] (Yr [(Z2.mk 12 ((f.params.length+1:Nat):Int) [])]) (XD [(Z2.mk 12 ((f.params.length+1:Nat):Int) [])]).symm 1 3 ?_))))
   intro v4
   refine Z5 0 (.n 41 (X3 [(Z2.mk 12 ((f.params.length+1:Nat):Int) [])]) (.p .r)) (ip 5 (Yr (ys++[(Z2.mk 12 ((f.params.length+1:Nat):Int) [])])) (Yr ys) (Yr [(Z2.mk 12 ((f.params.length+1:Nat):Int) [])]) u none 3 (Us _) (Us _) (KC _) (by simp<;>omega) (by simp [KA,Yr]) ?_)
   intro v5
   refine Z5 1 (.n 12 (XR (ys++[(Z2.mk 12 ((f.params.length+1:Nat):Int) [])]) v5) (.p (.d (.p (.p (.d (.d (.d (.d (.w (.w (.d .r)))))))))))) (ie (az (Z1 1 32 (.i k) (ZL k (Z5 1 (.n 13 (.i (k+1:Nat)) (.p (.d (.w (.w (.k .z)))))) (ie ?_))))))
   exact ZO ⟨k+1,(ys++[(Z2.mk 12 ((f.params.length+1:Nat):Int) [])]),v5,pq,ob,ob,(Xp Zy (GE.var om om om)),ob,rfl,rfl,rfl⟩ (wk [2,2,2,2,0] (fq (fq (fr (ZQ k fl)))))
  refine aq (XI (fun F h=>∃(wb:Bool) (p5:Nat),(pq<=p5/\p5<=pq+1)/\F=[(0,.p rd 0),(2,.i i),(3,.i w),(5,.p b1 0),(8,.p b2 0),(9,Z0 f.params),(10,.i f.params.length),(11,Z0 (f.params++[0,1])),(12,XR ys u),(13,.i k),(52,.b wb)]/\h=[.obj b2 [.i 0,.i 0,nl],.obj b1 (Y9 g gb),Yn rd bs p5,YI gb rs,.tail u 3]) ?_ ?_)
  ·refine az (ir 2 [(0,.p rd 0),(2,.i i),(3,.i w),(5,.p b1 0),(8,.p b2 0),(9,Z0 f.params),(10,.i f.params.length),(11,Z0 (f.params++[0,1])),(12,XR ys u),(13,.i k),(43,Z0 f.params),(44,.i k)] ?_)
   obtain ⟨x1,Z3⟩:=Zr (xs:=f.params) (j:=k) om
   refine Zq (Zm none (k:Int) 1 (Y4 Z3)) (Z1 3 48 (.b (x1==0)) (ib (b:=(x1==0)) 48 (fun Za=>?_) (fun Za=>?_)))
   ·have ZP:x1=0:=(Zh).1 Za
    refine Z5 1 (.n 49 (.p rd 0) (.k (.d .r))) (ic [2] (XP rd bs pq 2 (ZE:=ob)) ?_)
    rintro _ _ ⟨k1,rfl,rfl,Y1⟩
    have qhp2:=Y1.lt om
    refine Z1 2 52 (.b (k1==0)) (ie ?_)
    exact ZW ⟨(k1==0),pq+1,om,rfl,rfl⟩ (wk [1,1,0,0,0] fl)
   have Yy:¬(x1=0):=ZI Zh Za
   refine Z5 4 (.n 52 (.b false) (.k (.d .r))) (ie ?_)
   exact ZW ⟨false,pq,ob,rfl,rfl⟩ (ZT 5 fl)
  rintro F h ⟨wb,p5,kR10_0,rfl,rfl⟩
  refine ac wb Iff.rfl (fun ZG=>?_) (fun ZG=>?_)
  ·refine az (ir 2 [(0,.p rd 0),(2,.i i),(3,.i w),(5,.p b1 0),(8,.p b2 0),(9,Z0 f.params),(10,.i f.params.length),(11,Z0 (f.params++[0,1])),(13,.i k),(53,XR ys u),(54,.i k)] (ZA [] (Tt (k:Int)) (Z1 1 56 (.i f.params.length) (ZA [] (Tt (f.params.length:Int)) (U7 [ZH (Z2.mk 12 (k:Int) []),ZH (Z2.mk 12 (f.params.length:Int) [])] (Yr [(Z2.mk 12 (k:Int) []),(Z2.mk 12 (f.params.length:Int) [])]) (XD [(Z2.mk 12 (k:Int) []),(Z2.mk 12 (f.params.length:Int) [])]).symm 2 3 ?_)))))
   intro v6
   refine Z5 0 (.n 58 (X3 [(Z2.mk 12 (k:Int) []),(Z2.mk 12 (f.params.length:Int) [])]) (.p .r)) (ZA [] (XF 1 0 [(Z2.mk 12 (k:Int) []),(Z2.mk 12 (f.params.length:Int) [])]) (U7 [ZH (Z2.mk 1 0 [(Z2.mk 12 (k:Int) []),(Z2.mk 12 (f.params.length:Int) [])])] (Yr [(Z2.mk 1 0 [(Z2.mk 12 (k:Int) []),(Z2.mk 12 (f.params.length:Int) [])])]) (XD [(Z2.mk 1 0 [(Z2.mk 12 (k:Int) []),(Z2.mk 12 (f.params.length:Int) [])])]).symm 1 3 ?_))
   intro v7
   refine Z5 0 (.n 60 (X3 [(Z2.mk 1 0 [(Z2.mk 12 (k:Int) []),(Z2.mk 12 (f.params.length:Int) [])])]) (.p .r)) (ip 6 (Yr (ys++[(Z2.mk 1 0 [(Z2.mk 12 (k:Int) []),(Z2.mk 12 (f.params.length:Int) [])])])) (Yr ys) (Yr [(Z2.mk 1 0 [(Z2.mk 12 (k:Int) []),(Z2.mk 12 (f.params.length:Int) [])])]) u none 3 (Us _) (Us _) (KC _) (by simp<;>omega) (by simp [KA,Yr]) ?_)
   intro v8
   refine Z1 1 12 (XR (ys++[(Z2.mk 1 0 [(Z2.mk 12 (k:Int) []),(Z2.mk 12 (f.params.length:Int) [])])]) v8) (ie (az (Z1 1 32 (.i k) (ZL k (Z5 1 (.n 13 (.i (k+1:Nat)) (.p (.d (.k (.p (.d (.p (.d (.p (.d (.p (.w (.w .z))))))))))))) (ie ?_))))))
   exact ZO ⟨k+1,(ys++[(Z2.mk 1 0 [(Z2.mk 12 (k:Int) []),(Z2.mk 12 (f.params.length:Int) [])])]),v8,p5,ob,ob,(Xp Zy (GE.two (s1:=1) (s2:=1) om om (GE.var om om om) (GE.var om om om) om)),ob,rfl,rfl,rfl⟩ (wk [3,3,3,3,0] (fq (fq (fr (ZQ k fl)))))
  refine az (ir 2 [(0,.p rd 0),(2,.i i),(3,.i w),(5,.p b1 0),(8,.p b2 0),(9,Z0 f.params),(10,.i f.params.length),(11,Z0 (f.params++[0,1])),(13,.i k),(62,XR ys u),(63,.i k)] (ZA [] (Tt (k:Int)) (U7 [ZH (Z2.mk 12 (k:Int) [])] (Yr [(Z2.mk 12 (k:Int) [])]) (XD [(Z2.mk 12 (k:Int) [])]).symm 1 3 ?_)))
  intro v9
  refine Z5 0 (.n 65 (X3 [(Z2.mk 12 (k:Int) [])]) (.p .r)) (ip 5 (Yr (ys++[(Z2.mk 12 (k:Int) [])])) (Yr ys) (Yr [(Z2.mk 12 (k:Int) [])]) u none 3 (Us _) (Us _) (KC _) (by simp<;>omega) (by simp [KA,Yr]) ?_)
  intro v10
  refine Z1 1 12 (XR (ys++[(Z2.mk 12 (k:Int) [])]) v10) (ie (az (Z1 1 32 (.i k) (ZL k (Z5 1 (.n 13 (.i (k+1:Nat)) (.p (.d (.k (.p (.d (.p (.w (.w .z))))))))) (ie ?_))))))
  exact ZO ⟨k+1,(ys++[(Z2.mk 12 (k:Int) [])]),v10,p5,ob,ob,(Xp Zy (GE.var om om om)),ob,rfl,rfl,rfl⟩ (wk [2,2,2,2,0] (fq (fq (fr (ZQ k fl)))))
 refine ax 0 (ar (Yq 2 67 (.i i) 68 (X3 ys) (ZA [] (XF 9 i ys) (iA [.i 0,.i 0,nl] ?_))))
 intro b3
 refine ZF 0 b3 (YA (Z2.mk 9 i ys)) (ie (ar (Yl 1 70 (ZH (Z2.mk 9 i ys)) [0] [b3] (iA [.i 0,.i 0,nl] ?_))))
 intro b4
 refine ZF 0 b4 (YA (Z2.mk 9 i ys)) (ie (aq (aq (XI (fun F h=>∃(wb:Bool) (p5:Nat),(pq<=p5/\p5<=pq+1)/\F=[(0,.p rd 0),(2,.i i),(3,.i w),(5,.p b1 0),(8,.p b2 0),(9,Z0 f.params),(10,.i f.params.length),(11,Z0 (f.params++[0,1])),(14,.p b3 0),(15,.p b4 0),(82,.b wb)]/\h=[.obj b4 (YA (Z2.mk 9 i ys)),.obj b3 (YA (Z2.mk 9 i ys)),.obj b2 [.i 0,.i 0,nl],.obj b1 (Y9 g gb),Yn rd bs p5,YI gb rs]) ?_ ?_))))
 ·refine az (iR 3 [(0,.p rd 0),(2,.i i),(3,.i w),(5,.p b1 0),(8,.p b2 0),(9,Z0 f.params),(10,.i f.params.length),(11,Z0 (f.params++[0,1])),(14,.p b3 0),(15,.p b4 0),(72,.ms gb 0 g.funcs.length 4),(73,.i i)] [3] [b1] (Zq (W4 gb g.funcs.length 4 i.toNat 5 i) (Z1 1 75 (.val (.pointer (some ⟨gb,i.toNat * 5+1,none⟩))) (VI (WY 5 gb 4 4 5 (i.toNat * 5+1) (Zl (Xc rs)) [.i f.result] 3 (.i f.result) (U6 W9 hf 1 rfl (WF rfl))) (Z1 2 78 (.b (f.result==1)) (ib (b:=(f.result==1)) 78 (fun Zz=>?_) (fun Zz=>?_)))))))
  ·have YK:f.result=1:=(Zh).1 Zz
   refine Z5 1 (.n 79 (.p rd 0) (.k (.d .r))) (ic [4] (XP rd bs pq 5 (ZE:=ob)) ?_)
   rintro _ _ ⟨k2,rfl,rfl,X0⟩
   have qhp5:=X0.lt om
   refine Z1 2 82 (.b (decide (k2>0))) (ie ?_)
   exact ZW ⟨(decide (k2>0)),pq+1,ob,rfl,rfl⟩ (wk [1,1,1,1,0,0] fl)
  have XB:¬(f.result=1):=ZI Zh Zz
  refine Z5 4 (.n 82 (.b false) (.k (.d .r))) (ie ?_)
  exact ZW ⟨false,pq,ob,rfl,rfl⟩ (ZT 6 fl)
 rintro F h ⟨wb,p5,kR15_0,rfl,rfl⟩
 refine XI (fun F h=>∃(eQ:Z2) (p6:Nat),(GE g (f.params.length+2) 41 eQ)/\(p5<=p6/\p6<=p5+302)/\F=[(0,.p rd 0),(2,.i i),(3,.i w),(5,.p b1 0),(8,.p b2 0),(9,Z0 f.params),(15,.p b4 0)]/\h=[.obj b4 (YA eQ),.obj b2 [.i 0,.i 0,nl],.obj b1 (Y9 g gb),Yn rd bs p6,YI gb rs]) ?_ ?_
 ·refine ac wb Iff.rfl (fun Ym=>?_) (fun Ym=>?_)
  ·refine ar (iR 3 [(0,.p rd 0),(2,.i i),(3,.i w),(5,.p b1 0),(8,.p b2 0),(9,Z0 f.params),(10,.i f.params.length),(14,.p b3 0),(15,.p b4 0),(83,.p rd 0),(84,.agg (Y9 g gb)),(85,Z0 (f.params++[0,1]))] [3] [b1] (ic [4,4] (Q0 rd bs p5 g gb rs (f.params++[0,1]) 0 4 (ZE:=ob) (hv:=(by first|omega|(simp only [Yz,YS,Xm];omega)))) ?_))
   rintro _ _ ⟨e1,p21,rfl,rfl,Wk⟩
   have X2:=Wk.1
   have Q1:=Wk.2
   try rw [Yz] at X2
   rw [hbv.2.1] at X2
   refine iA [.i 0,.i 0,nl] ?_
   intro b5
   refine ZF 0 b5 (YA e1) (ie (aq (aq (XI (fun F h=>∃(wc:Bool),(True)/\F=[(0,.p rd 0),(2,.i i),(3,.i w),(5,.p b1 0),(8,.p b2 0),(9,Z0 f.params),(10,.i f.params.length),(14,.p b3 0),(15,.p b4 0),(16,.p b5 0),(94,.b wc)]/\h=[.obj b5 (YA e1),Yn rd bs p21,YI gb rs,.obj b4 (YA (Z2.mk 9 i ys)),.obj b3 (YA (Z2.mk 9 i ys)),.obj b2 [.i 0,.i 0,nl],.obj b1 (Y9 g gb)]) ?_ ?_))))
   ·refine az (ir 3 [(0,.p rd 0),(2,.i i),(3,.i w),(5,.p b1 0),(8,.p b2 0),(9,Z0 f.params),(10,.i f.params.length),(14,.p b3 0),(15,.p b4 0),(16,.p b5 0),(89,.b (decide ((f.params.length:Int)>1)))] (ib (b:=(decide ((f.params.length:Int)>1))) 89 (fun YE=>?_) (fun YE=>?_)))
    ·have WJ:(f.params.length:Int)>1:=(dq).1 YE
     refine Z5 1 (.n 90 (Z0 f.params) (.w (.w (.k (.k (.k .z)))))) ?_
     obtain ⟨x2,Zt⟩:=Zr (xs:=f.params) (j:=0) om
     refine Zq (Zm none 0 1 (Y4 Zt)) (Z1 3 94 (.b (x2==2)) (ie ?_))
     exact ZW ⟨(x2==2),ob,rfl,rfl⟩ (ZT 7 fl)
    have V4:¬((f.params.length:Int)>1):=ZI dq YE
    refine Z5 5 (.n 94 (.b false) (.d (.w (.w (.k (.k .z)))))) (ie ?_)
    exact ZW ⟨false,ob,rfl,rfl⟩ (ZT 7 fl)
   rintro F h ⟨wc,kR17_0,rfl,rfl⟩
   refine XI (fun F h=>∃(eA:Z2),(GE g (f.params.length+2) 30 eA)/\F=[(0,.p rd 0),(2,.i i),(3,.i w),(5,.p b1 0),(8,.p b2 0),(9,Z0 f.params),(14,.p b3 0),(15,.p b4 0),(16,.p b5 0)]/\h=[.obj b5 (YA eA),Yn rd bs p21,YI gb rs,.obj b4 (YA (Z2.mk 9 i ys)),.obj b3 (YA (Z2.mk 9 i ys)),.obj b2 [.i 0,.i 0,nl],.obj b1 (Y9 g gb)]) ?_ ?_
   ·refine ac wc Iff.rfl (fun Xi=>?_) (fun Xi=>?_)
    ·refine az (ZA [] (Tt 0) (ir 1 [(0,.p rd 0),(2,.i i),(3,.i w),(5,.p b1 0),(8,.p b2 0),(9,Z0 f.params),(14,.p b3 0),(15,.p b4 0),(16,.p b5 0),(95,ZH (Z2.mk 12 0 [])),(96,.i f.params.length)] (ZA [] (Tt (f.params.length:Int)) (U7 [ZH (Z2.mk 12 0 []),ZH (Z2.mk 12 (f.params.length:Int) [])] (Yr [Z2.mk 12 0 [],(Z2.mk 12 (f.params.length:Int) [])]) (XD [Z2.mk 12 0 [],(Z2.mk 12 (f.params.length:Int) [])]).symm 2 3 ?_))))
     intro v11
     refine Z5 0 (.n 98 (X3 [Z2.mk 12 0 [],(Z2.mk 12 (f.params.length:Int) [])]) (.p .r)) (ZA [] (XF 11 0 [Z2.mk 12 0 [],(Z2.mk 12 (f.params.length:Int) [])]) (ZF 1 b5 (YA (Z2.mk 11 0 [Z2.mk 12 0 [],(Z2.mk 12 (f.params.length:Int) [])])) (ie ?_)))
     exact ZW ⟨(Z2.mk 11 0 [Z2.mk 12 0 [],(Z2.mk 12 (f.params.length:Int) [])]),(GE.two (s1:=1) (s2:=1) om om (GE.var om om om) (GE.var om om om) om),rfl,rfl⟩ (wk [0,1,1,1,1,1,1] fl)
    refine ak ?_
    exact ZW ⟨e1,X2,rfl,rfl⟩ (ZT 7 fl)
   rintro F h ⟨eA,Z2b,rfl,rfl⟩
   refine az (iR 2 [(0,.p rd 0),(2,.i i),(3,.i w),(5,.p b1 0),(8,.p b2 0),(9,Z0 f.params),(15,.p b4 0),(100,ZH eA),(101,ZH (Z2.mk 9 i ys))] [0,4] [b5,b3] (U7 [ZH eA,ZH (Z2.mk 9 i ys)] (Yr [eA,Z2.mk 9 i ys]) (XD [eA,Z2.mk 9 i ys]).symm 2 3 ?_))
   intro v12
   refine Z5 0 (.n 102 (X3 [eA,Z2.mk 9 i ys]) (.p .r)) (ZA [] (XF 6 1 [eA,Z2.mk 9 i ys]) (ZF 4 b4 (YA (Z2.mk 6 1 [eA,Z2.mk 9 i ys])) (ie ?_)))
   exact ZW ⟨(Z2.mk 6 1 [eA,Z2.mk 9 i ys]),p21,(GE.two (s1:=30) (s2:=10) om om Z2b (GE.node (L:=f.params.length) (s:=3) (q:=10) om (fun _=>by omega) om Zy om om om) om),ob,rfl,rfl⟩ (wk [0,5,5,2,2] fl)
  refine ar (iR 3 [(0,.p rd 0),(2,.i i),(3,.i w),(5,.p b1 0),(8,.p b2 0),(9,Z0 f.params),(11,Z0 (f.params++[0,1])),(14,.p b3 0),(15,.p b4 0),(105,.ms gb 0 g.funcs.length 4),(106,.i i)] [3] [b1] (Zq (W4 gb g.funcs.length 4 i.toNat 5 i) (Z1 1 108 (.val (.pointer (some ⟨gb,i.toNat * 5+1,none⟩))) (VI (WY 5 gb 4 4 5 (i.toNat * 5+1) (Zl (Xc rs)) [.i f.result] 3 (.i f.result) (U6 W9 hf 1 rfl (WF rfl))) (Z1 1 110 (.b (f.result==0)) (ie (ac (f.result==0) Zh (fun Xj=>?_) (fun Xj=>?_))))))))
  ·refine aE 11 (Y6 6 11 [0,3,4,5,7] (.n 111 (.p rd 0) (.n 114 (.p rd 0) (.n 115 (.agg (Y9 g gb)) (.n 116 (Z0 (f.params++[0,1])) (.n 118 (ZH (Z2.mk 9 i ys)) .r))))) [3,1] [b1,b3] (Z9 1 (dL 1 [1,3] [b3,b1] (Z8 [1,2]) 2 1 ?_)))
   intro v13
   refine Y0 5 5 [] (.n 112 (Z0 [1,2]) (.p .r)) (Z9 2 (dc 2 [5] [1,3] [b3,b1] (Vw rd bs p5 [1,2] (ZE:=ob)) ?_))
   rintro _ _ ⟨z1,rfl,rfl,Ug⟩
   have hz:=Ac (a:=1) (b:=2) Ug (by decide)
   refine Z9 6 (dc 6 [0,5] [1] [b3] (Q0 rd bs (p5+1) g gb rs (f.params++[0,1]) 0 4 (ZE:=ob) (hv:=(by first|omega|(simp only [Yz,YS,Xm];omega)))) ?_)
   rintro _ _ ⟨e2,p22,rfl,rfl,UM⟩
   have X2:=UM.1
   have Q1:=UM.2
   try rw [Yz] at X2
   rw [hbv.2.1] at X2
   refine Z9 8 (Wj 8 [] [] [ZH e2,ZH (Z2.mk 9 i ys)] (Yr [e2,Z2.mk 9 i ys]) (XD [e2,Z2.mk 9 i ys]).symm 2 3 ?_)
   intro v14
   refine Y0 2 2 [] (.n 119 (X3 [e2,Z2.mk 9 i ys]) (.p .r)) (Z9 9 (Yv 9 [] [] [] (XF z1 0 [e2,Z2.mk 9 i ys]) (Z9 10 (YL 10 4 [] [] b4 (YA (Z2.mk z1 0 [e2,Z2.mk 9 i ys])) (de ?_)))))
   exact ZW ⟨(Z2.mk z1 0 [e2,Z2.mk 9 i ys]),p22,(GE.two (s1:=30) (s2:=10) om om X2 (GE.node (L:=f.params.length) (s:=3) (q:=10) om (fun _=>by omega) om Zy om om om) om),ob,rfl,rfl⟩ (wk [0,5,5,1,1] fl)
  refine ak ?_
  exact ZW ⟨(Z2.mk 9 i ys),p5,(GE.le (GE.node (L:=f.params.length) (s:=3) (q:=10) om (fun _=>by omega) om Zy om om om) om),ob,rfl,rfl⟩ (wk [0,1,1,1,1] fl)
 rintro F h ⟨eQ,p6,Q2,Z2a,rfl,rfl⟩
 refine aD 16 (W2 9 16 [0,2,3,4,5,6,7] [(8,.p b2 0),(15,.p b4 0),(121,.i w),(123,.p rd 0),(124,.agg (Y9 g gb)),(125,Z0 f.params),(127,.ms gb 0 g.funcs.length 4),(128,.i i)] [2,2] [b1,b1] (dx 8 (W4 gb g.funcs.length 4 i.toNat 5 i) (ZZ 7 8 [9] 130 (.val (.pointer (some ⟨gb,i.toNat * 5+1,none⟩))) (VT 10 (WY 4 gb 4 4 5 (i.toNat * 5+1) (Zl (Xc rs)) [.i f.result] 3 (.i f.result) (U6 W9 hf 1 rfl (WF rfl))) (Y6 5 6 [12] (.n 133 (ZH eQ) .r) [0] [b4] (Z9 1 (Yv 1 [] [0,4,2,2] [b4,gb,b1,b1] (Tt w) (Z9 11 (dc 11 [3,3] [0] [b4] (Q0 rd bs p6 g gb rs f.params f.result 4 (ZE:=ob) (hv:=(by first|omega|(simp only [Yz,YS,Xm];omega)))) ?_)))))))))
 rintro _ _ ⟨e3,p23,rfl,rfl,Uw⟩
 have X2:=Uw.1
 have Q1:=Uw.2
 try rw [Yz] at X2
 rw [hbv.2.1] at X2
 refine Z9 13 (Wj 13 [] [] [ZH (Z2.mk 12 w []),ZH e3,ZH eQ] (Yr [Z2.mk 12 w [],e3,eQ]) (XD [Z2.mk 12 w [],e3,eQ]).symm 3 3 ?_)
 intro v15
 refine Y0 2 2 [] (.n 134 (X3 [Z2.mk 12 w [],e3,eQ]) (.p .r)) (Z9 14 (Yv 14 [] [] [] (XF 8 1 [Z2.mk 12 w [],e3,eQ]) (Z9 15 (YL 15 4 [] [] b2 (YA (Z2.mk 8 1 [Z2.mk 12 w [],e3,eQ])) (de ?_)))))
 exact Zb (r3 [2,2] [ZH (Z2.mk 8 1 [Z2.mk 12 w [],e3,eQ])] [0] [(b2,b2)] ⟨(Z2.mk 8 1 [Z2.mk 12 w [],e3,eQ]),p23,rfl,rfl,⟨GE.matchL hg (s1:=1) (s2:=30) (s3:=41) (GE.var om om om) X2 Q2 om,by omega⟩⟩ (lr _))
theorem Z01 (rd:Nat) (bs:List Int) (p:Nat) (g:XU) (gb:Nat) (rs:List Func) (f:Func) (i:Int) (ZE:∀z∈bs,0<=z/\z<=255) (hp:p+1000<=1000000000:=by exact ob) (hg:GP g:=by exact ob) (W9:g.funcs <+: rs:=by exact ob) (hi:0<=i:=by exact ob) (hf:g.funcs[i.toNat]? = some f:=by exact ob) (h0:0<f.params.length:=by exact ob):Zi Tryz.prog 193 [.p rd 0,.agg (Y9 g gb),.i i] [Yn rd bs p,YI gb rs] (fun r h=>∃(e:Z2) (p2:Nat),r=ZH e/\h=[Yn rd bs p2,YI gb rs]/\GE g f.params.length 200 e/\p<=p2/\p2<=p+1000):=by
 obtain ⟨hil,_⟩:=XM.1 hf
 have hgl:=hg.len
 have hso:=(hg.sigs f (Y7 hf)).bd
 have hbv:=C7
 refine ZK 96 Tryz.func193 (ar (iA (Y9 g gb) ?_))
 intro b1
 refine iA [.i 0,.i 0,nl] ?_
 intro b2
 refine ie (ar (iR 3 [(0,.p rd 0),(2,.i i),(4,.p b1 0),(6,.p b2 0),(16,.ms gb 0 g.funcs.length 4),(17,.i i)] [1] [b1] (Zq (W4 gb g.funcs.length 4 i.toNat 5 i) (Z1 1 19 (.val (.pointer (some ⟨gb,i.toNat * 5,none⟩))) (VI (WY 3 gb 4 4 5 (i.toNat * 5+0) (Zl (Xc rs)) [Z0 f.params] 27 (Z0 f.params) (U6 W9 hf 0 rfl (WF rfl))) (Z1 1 7 (Z0 f.params) (ie (ar (Z1 1 21 (Z0 f.params) (iw (Yh f.params) (Z1 1 8 (.i f.params.length) (ie (ar (Z1 1 23 (.i f.params.length) (ZA [] (Tt (f.params.length:Int)) (U7 [ZH (Z2.mk 12 (f.params.length:Int) [])] (Yr [(Z2.mk 12 (f.params.length:Int) [])]) (XD [(Z2.mk 12 (f.params.length:Int) [])]).symm 1 3 ?_))))))))))))))))
 intro v1
 refine Z1 1 9 (XR [(Z2.mk 12 (f.params.length:Int) [])] v1) (ie (ar (Z1 1 26 (.i f.params.length) (ia (((f.params.length+2:Nat):Int)) (((f.params.length:Int))+(2)) (ZA [] (Tt ((f.params.length+2:Nat):Int)) (U7 [ZH (Z2.mk 12 ((f.params.length+2:Nat):Int) [])] (Yr [(Z2.mk 12 ((f.params.length+2:Nat):Int) [])]) (XD [(Z2.mk 12 ((f.params.length+2:Nat):Int) [])]).symm 1 3 ?_))))))
 intro v2
 refine Z1 1 10 (XR [(Z2.mk 12 ((f.params.length+2:Nat):Int) [])] v2) (ie (aq (ar (Z1 1 11 (.i 1) (ie (ab 0 (al (fun m F h=>∃(k:Nat) (ys:List Z2) (u:Value) (zs:List Z2) (w:Value),(1<=k/\k<=f.params.length)/\(ys.length=k)/\(zs.length=k)/\(∀e∈ys,GE g (f.params.length+3) 1 e)/\(∀e∈zs,GE g (f.params.length+3) 1 e)/\F=[(0,.p rd 0),(2,.i i),(4,.p b1 0),(6,.p b2 0),(7,Z0 f.params),(8,.i f.params.length),(9,XR ys u),(10,XR zs w),(11,.i k)]/\h=[.obj b2 [.i 0,.i 0,nl],.obj b1 (Y9 g gb),Yn rd bs p,YI gb rs,.tail u 3,.tail w 3]/\m=f.params.length-k) _ _ _ ⟨1,[(Z2.mk 12 (f.params.length:Int) [])],v1,[(Z2.mk 12 ((f.params.length+2:Nat):Int) [])],v2,ob,ob,ob,(Ff (GE.var om om om)),(Ff (GE.var om om om)),rfl,rfl,rfl⟩ (wk [2,2,2,2,1,0] (fq (fq (fc (x:=.i 1) li fl)))) ?_)))))))
 rintro m F h ⟨k,ys,u,zs,w,Yj,Zp,Zy,YJ,Wg,rfl,rfl,rfl⟩
 refine aq (ar (Z1 3 32 (.b (decide ((k:Int)<(f.params.length:Int)))) (ie (ZM ((k:Int)<(f.params.length:Int)) (fun Ze=>?_) (fun Ze=>?_)))))
 ·refine ak (aq (ab 1 (ar (Yq 2 35 (XR ys u) 36 (.i k) (ZA [] (Tt (k:Int)) (U7 [ZH (Z2.mk 12 (k:Int) [])] (Yr [(Z2.mk 12 (k:Int) [])]) (XD [(Z2.mk 12 (k:Int) [])]).symm 1 3 ?_))))))
  intro v3
  refine Z5 0 (.n 38 (X3 [(Z2.mk 12 (k:Int) [])]) (.p .r)) (ip 5 (Yr (ys++[(Z2.mk 12 (k:Int) [])])) (Yr ys) (Yr [(Z2.mk 12 (k:Int) [])]) u none 3 (Us _) (Us _) (KC _) (by simp<;>omega) (by simp [KA,Yr]) ?_)
  intro v4
  refine Z5 1 (.n 9 (XR (ys++[(Z2.mk 12 (k:Int) [])]) v4) (.p (.d (.p (.d (.d (.d (.w (.k (.k (.d .r))))))))))) (ie (az (Yq 2 40 (XR zs w) 41 (.i k) (ZA [] (Tt (k:Int)) (U7 [ZH (Z2.mk 12 (k:Int) [])] (Yr [(Z2.mk 12 (k:Int) [])]) (XD [(Z2.mk 12 (k:Int) [])]).symm 1 3 ?_)))))
  intro v5
  refine Z5 0 (.n 43 (X3 [(Z2.mk 12 (k:Int) [])]) (.p .r)) (ip 7 (Yr (zs++[(Z2.mk 12 (k:Int) [])])) (Yr zs) (Yr [(Z2.mk 12 (k:Int) [])]) w none 3 (Us _) (Us _) (KC _) (by simp<;>omega) (by simp [KA,Yr]) ?_)
  intro v6
  refine Z5 1 (.n 10 (XR (zs++[(Z2.mk 12 (k:Int) [])]) v6) (.p (.d (.p (.d (.d (.w (.k (.k (.k (.d .r))))))))))) (ie (az (Z1 1 33 (.i k) (ZL k (Z5 1 (.n 11 (.i (k+1:Nat)) (.p (.d (.w (.w .z))))) (ie ?_))))))
  exact ZO ⟨k+1,(ys++[(Z2.mk 12 (k:Int) [])]),v4,(zs++[(Z2.mk 12 (k:Int) [])]),v6,ob,ob,ob,(Xp YJ (GE.var om om om)),(Xp Wg (GE.var om om om)),rfl,rfl,rfl⟩ (wk [4,4,4,4,2,0] (fq (fq (ZQ k fl))))
 refine ax 0 (ar (Yq 2 45 (.i i) 46 (X3 ys) (ZA [] (XF 9 i ys) (iA [.i 0,.i 0,nl] ?_))))
 intro b3
 refine ZF 0 b3 (YA (Z2.mk 9 i ys)) (ie (ar (Yq 2 48 (.i i) 49 (X3 zs) (ZA [] (XF 9 i zs) (iA [.i 0,.i 0,nl] ?_)))))
 intro b4
 refine ZF 0 b4 (YA (Z2.mk 9 i zs)) (ie (aD 14 (Y6 9 14 [0,1,2,3,7] (.n 51 (ZH (Z2.mk 9 i ys)) (.n 52 (.p rd 0) (.n 53 (.agg (Y9 g gb)) (.n 54 (Z0 f.params) (.n 58 (ZH (Z2.mk 9 i zs)) .r))))) [1,3,0] [b3,b1,b4] (dK (fun F h=>∃(e1:Z2) (p21:Nat) (b5:Nat),(GE g (f.params++[3,0,3]).length (bS 4) e1/\p<=p21/\p21<=p+bC 4)/\F=[(0,.p rd 0),(2,.i i),(4,.p b1 0),(6,.p b2 0),(7,Z0 f.params),(8,.i f.params.length),(12,.p b3 0),(14,.p b5 0)]/\h=[.obj b5 (YA (Z2.mk 1 0 [Z2.mk 9 i ys,Z2.mk 1 0 [e1,Z2.mk 9 i zs]])),Yn rd bs p21,YI gb rs,.obj b4 (YA (Z2.mk 9 i zs)),.obj b3 (YA (Z2.mk 9 i ys)),.obj b2 [.i 0,.i 0,nl],.obj b1 (Y9 g gb),.tail u 3,.tail w 3]) ?_ ?_))))
 ·refine Vj 4 12 ?_ ?_
  ·refine dL 4 [0,3,1] [b4,b1,b3] (Z8 [3,0,3]) 3 1 ?_
   intro v7
   refine Xa 8 8 [] [(0,.p rd 0),(2,.i i),(4,.p b1 0),(6,.p b2 0),(7,Z0 f.params),(8,.i f.params.length),(12,.p b3 0),(51,ZH (Z2.mk 9 i ys)),(52,.p rd 0),(53,.agg (Y9 g gb)),(54,Z0 f.params),(55,Z0 [3,0,3]),(58,ZH (Z2.mk 9 i zs))] (Vj 5 12 ?_ ?_)
   ·refine dc 5 [] [0,3,1] [b4,b1,b3] (Q9 f.params [3,0,3]) ?_
    rintro _ _ ⟨v8,rfl,rfl⟩
    refine Xa 7 7 [] [(0,.p rd 0),(2,.i i),(4,.p b1 0),(6,.p b2 0),(7,Z0 f.params),(8,.i f.params.length),(12,.p b3 0),(51,ZH (Z2.mk 9 i ys)),(52,.p rd 0),(53,.agg (Y9 g gb)),(56,Z0 (f.params++[3,0,3])),(58,ZH (Z2.mk 9 i zs))] (Vj 6 12 ?_ ?_)
    ·refine dc 6 [6,6] [0,1] [b4,b3] (Q0 rd bs p g gb rs (f.params++[3,0,3]) 0 4 (ZE:=ob) (hv:=(by first|omega|(simp only [Yz,YS,Xm];omega)))) ?_
     rintro _ _ ⟨e1,p21,rfl,rfl,ZP⟩
     have X2:=ZP.1
     have Q1:=ZP.2
     try rw [Yz] at X2
     rw [hbv.2.1] at X2
     refine Vj 8 12 ?_ ?_
     ·refine Wj 8 [3] [b3] [ZH e1,ZH (Z2.mk 9 i zs)] (Yr [e1,Z2.mk 9 i zs]) (XD [e1,Z2.mk 9 i zs]).symm 2 3 ?_
      intro v9
      refine Xa 5 5 [] [(0,.p rd 0),(2,.i i),(4,.p b1 0),(6,.p b2 0),(7,Z0 f.params),(8,.i f.params.length),(12,.p b3 0),(51,ZH (Z2.mk 9 i ys)),(59,X3 [e1,Z2.mk 9 i zs])] (Vj 9 12 ?_ ?_)
      ·refine Yv 9 [] [3] [b3] (XF 1 0 [e1,Z2.mk 9 i zs]) (Vj 10 12 ?_ ?_)
       ·refine Wj 10 [] [] [ZH (Z2.mk 9 i ys),ZH (Z2.mk 1 0 [e1,Z2.mk 9 i zs])] (Yr [Z2.mk 9 i ys,Z2.mk 1 0 [e1,Z2.mk 9 i zs]]) (XD [Z2.mk 9 i ys,Z2.mk 1 0 [e1,Z2.mk 9 i zs]]).symm 2 3 ?_
        intro v10
        refine Xa 3 3 [] [(0,.p rd 0),(2,.i i),(4,.p b1 0),(6,.p b2 0),(7,Z0 f.params),(8,.i f.params.length),(12,.p b3 0),(61,X3 [Z2.mk 9 i ys,Z2.mk 1 0 [e1,Z2.mk 9 i zs]])] (Vj 11 12 ?_ ?_)
        ·refine Yv 11 [] [] [] (XF 1 0 [Z2.mk 9 i ys,Z2.mk 1 0 [e1,Z2.mk 9 i zs]]) (Z9 12 (dA 12 [] [] [.i 0,.i 0,nl] ?_))
         intro b5
         refine Z9 13 (YL 13 0 [] [] b5 (YA (Z2.mk 1 0 [Z2.mk 9 i ys,Z2.mk 1 0 [e1,Z2.mk 9 i zs]])) (de ?_))
         exact ZW ⟨e1,p21,b5,(by assumption),rfl,rfl⟩ (wk [0,2,2,4,4,4,4,4,4] fl)
        refine dA 12 [] [] [.i 0,.i 0,nl] ?_
        intro b6
        refine Z9 11 (Yv 11 [] [] [] (XF 1 0 [Z2.mk 9 i ys,Z2.mk 1 0 [e1,Z2.mk 9 i zs]]) (Z9 13 (YL 13 0 [] [] b6 (YA (Z2.mk 1 0 [Z2.mk 9 i ys,Z2.mk 1 0 [e1,Z2.mk 9 i zs]])) (de ?_))))
        exact ZW ⟨e1,p21,b6,(by assumption),rfl,rfl⟩ (wk [0,2,2,4,4,4,4,4,4] fl)
       refine dA 12 [3] [b3] [.i 0,.i 0,nl] ?_
       intro b7
       refine Z9 10 (Wj 10 [] [] [ZH (Z2.mk 9 i ys),ZH (Z2.mk 1 0 [e1,Z2.mk 9 i zs])] (Yr [Z2.mk 9 i ys,Z2.mk 1 0 [e1,Z2.mk 9 i zs]]) (XD [Z2.mk 9 i ys,Z2.mk 1 0 [e1,Z2.mk 9 i zs]]).symm 2 3 ?_)
       intro v11
       refine Xa 2 2 [] [(0,.p rd 0),(2,.i i),(4,.p b1 0),(6,.p b2 0),(7,Z0 f.params),(8,.i f.params.length),(12,.p b3 0),(14,.p b7 0),(61,X3 [Z2.mk 9 i ys,Z2.mk 1 0 [e1,Z2.mk 9 i zs]])] (Z9 11 (Yv 11 [] [] [] (XF 1 0 [Z2.mk 9 i ys,Z2.mk 1 0 [e1,Z2.mk 9 i zs]]) (Z9 13 (YL 13 1 [] [] b7 (YA (Z2.mk 1 0 [Z2.mk 9 i ys,Z2.mk 1 0 [e1,Z2.mk 9 i zs]])) (de ?_)))))
       exact ZW ⟨e1,p21,b7,(by assumption),rfl,rfl⟩ (wk [0,2,2,4,4,4,4,4,4] fl)
      refine dA 12 [3] [b3] [.i 0,.i 0,nl] ?_
      intro b8
      refine Z9 9 (Yv 9 [] [4] [b3] (XF 1 0 [e1,Z2.mk 9 i zs]) (Z9 10 (Wj 10 [] [] [ZH (Z2.mk 9 i ys),ZH (Z2.mk 1 0 [e1,Z2.mk 9 i zs])] (Yr [Z2.mk 9 i ys,Z2.mk 1 0 [e1,Z2.mk 9 i zs]]) (XD [Z2.mk 9 i ys,Z2.mk 1 0 [e1,Z2.mk 9 i zs]]).symm 2 3 ?_)))
      intro v12
      refine Xa 2 2 [] [(0,.p rd 0),(2,.i i),(4,.p b1 0),(6,.p b2 0),(7,Z0 f.params),(8,.i f.params.length),(12,.p b3 0),(14,.p b8 0),(61,X3 [Z2.mk 9 i ys,Z2.mk 1 0 [e1,Z2.mk 9 i zs]])] (Z9 11 (Yv 11 [] [] [] (XF 1 0 [Z2.mk 9 i ys,Z2.mk 1 0 [e1,Z2.mk 9 i zs]]) (Z9 13 (YL 13 1 [] [] b8 (YA (Z2.mk 1 0 [Z2.mk 9 i ys,Z2.mk 1 0 [e1,Z2.mk 9 i zs]])) (de ?_)))))
      exact ZW ⟨e1,p21,b8,(by assumption),rfl,rfl⟩ (wk [0,2,2,4,4,4,4,4,4] fl)
     refine dA 12 [2,3] [b4,b3] [.i 0,.i 0,nl] ?_
     intro b9
     refine Z9 8 (Wj 8 [4] [b3] [ZH e1,ZH (Z2.mk 9 i zs)] (Yr [e1,Z2.mk 9 i zs]) (XD [e1,Z2.mk 9 i zs]).symm 2 3 ?_)
     intro v13
     refine Xa 4 4 [] [(0,.p rd 0),(2,.i i),(4,.p b1 0),(6,.p b2 0),(7,Z0 f.params),(8,.i f.params.length),(12,.p b3 0),(14,.p b9 0),(51,ZH (Z2.mk 9 i ys)),(59,X3 [e1,Z2.mk 9 i zs])] (Z9 9 (Yv 9 [] [4] [b3] (XF 1 0 [e1,Z2.mk 9 i zs]) (Z9 10 (Wj 10 [] [] [ZH (Z2.mk 9 i ys),ZH (Z2.mk 1 0 [e1,Z2.mk 9 i zs])] (Yr [Z2.mk 9 i ys,Z2.mk 1 0 [e1,Z2.mk 9 i zs]]) (XD [Z2.mk 9 i ys,Z2.mk 1 0 [e1,Z2.mk 9 i zs]]).symm 2 3 ?_))))
     intro v14
     refine Y0 2 2 [] (.n 61 (X3 [Z2.mk 9 i ys,Z2.mk 1 0 [e1,Z2.mk 9 i zs]]) (.p .r)) (Z9 11 (Yv 11 [] [] [] (XF 1 0 [Z2.mk 9 i ys,Z2.mk 1 0 [e1,Z2.mk 9 i zs]]) (Z9 13 (YL 13 2 [] [] b9 (YA (Z2.mk 1 0 [Z2.mk 9 i ys,Z2.mk 1 0 [e1,Z2.mk 9 i zs]])) (de ?_)))))
     exact ZW ⟨e1,p21,b9,(by assumption),rfl,rfl⟩ (wk [0,2,2,4,4,4,4,4,4] fl)
    refine dA 12 [0,3,1] [b4,b1,b3] [.i 0,.i 0,nl] ?_
    intro b10
    refine Z9 6 (dc 6 [7,7] [1,2] [b4,b3] (Q0 rd bs p g gb rs (f.params++[3,0,3]) 0 4 (ZE:=ob) (hv:=(by first|omega|(simp only [Yz,YS,Xm];omega)))) ?_)
    rintro _ _ ⟨e2,p22,rfl,rfl,Y1⟩
    have X2:=Y1.1
    have Q1:=Y1.2
    try rw [Yz] at X2
    rw [hbv.2.1] at X2
    refine Z9 8 (Wj 8 [4] [b3] [ZH e2,ZH (Z2.mk 9 i zs)] (Yr [e2,Z2.mk 9 i zs]) (XD [e2,Z2.mk 9 i zs]).symm 2 3 ?_)
    intro v15
    refine Xa 4 4 [] [(0,.p rd 0),(2,.i i),(4,.p b1 0),(6,.p b2 0),(7,Z0 f.params),(8,.i f.params.length),(12,.p b3 0),(14,.p b10 0),(51,ZH (Z2.mk 9 i ys)),(59,X3 [e2,Z2.mk 9 i zs])] (Z9 9 (Yv 9 [] [4] [b3] (XF 1 0 [e2,Z2.mk 9 i zs]) (Z9 10 (Wj 10 [] [] [ZH (Z2.mk 9 i ys),ZH (Z2.mk 1 0 [e2,Z2.mk 9 i zs])] (Yr [Z2.mk 9 i ys,Z2.mk 1 0 [e2,Z2.mk 9 i zs]]) (XD [Z2.mk 9 i ys,Z2.mk 1 0 [e2,Z2.mk 9 i zs]]).symm 2 3 ?_))))
    intro v16
    refine Y0 2 2 [] (.n 61 (X3 [Z2.mk 9 i ys,Z2.mk 1 0 [e2,Z2.mk 9 i zs]]) (.p .r)) (Z9 11 (Yv 11 [] [] [] (XF 1 0 [Z2.mk 9 i ys,Z2.mk 1 0 [e2,Z2.mk 9 i zs]]) (Z9 13 (YL 13 4 [] [] b10 (YA (Z2.mk 1 0 [Z2.mk 9 i ys,Z2.mk 1 0 [e2,Z2.mk 9 i zs]])) (de ?_)))))
    exact ZW ⟨e2,p22,b10,(by assumption),rfl,rfl⟩ (wk [0,2,2,4,4,4,4,4,4] fl)
   refine dA 12 [0,3,1] [b4,b1,b3] [.i 0,.i 0,nl] ?_
   intro b11
   refine Z9 5 (dc 5 [] [1,4,2] [b4,b1,b3] (Q9 f.params [3,0,3]) ?_)
   rintro _ _ ⟨v17,rfl,rfl⟩
   refine Xa 6 6 [] [(0,.p rd 0),(2,.i i),(4,.p b1 0),(6,.p b2 0),(7,Z0 f.params),(8,.i f.params.length),(12,.p b3 0),(14,.p b11 0),(51,ZH (Z2.mk 9 i ys)),(52,.p rd 0),(53,.agg (Y9 g gb)),(56,Z0 (f.params++[3,0,3])),(58,ZH (Z2.mk 9 i zs))] (Z9 6 (dc 6 [7,7] [1,2] [b4,b3] (Q0 rd bs p g gb rs (f.params++[3,0,3]) 0 4 (ZE:=ob) (hv:=(by first|omega|(simp only [Yz,YS,Xm];omega)))) ?_))
   rintro _ _ ⟨e3,p23,rfl,rfl,Yy⟩
   have X2:=Yy.1
   have Q1:=Yy.2
   try rw [Yz] at X2
   rw [hbv.2.1] at X2
   refine Z9 8 (Wj 8 [4] [b3] [ZH e3,ZH (Z2.mk 9 i zs)] (Yr [e3,Z2.mk 9 i zs]) (XD [e3,Z2.mk 9 i zs]).symm 2 3 ?_)
   intro v18
   refine Y0 4 4 [] (.n 59 (X3 [e3,Z2.mk 9 i zs]) (.p .r)) (Z9 9 (Yv 9 [] [4] [b3] (XF 1 0 [e3,Z2.mk 9 i zs]) (Z9 10 (Wj 10 [] [] [ZH (Z2.mk 9 i ys),ZH (Z2.mk 1 0 [e3,Z2.mk 9 i zs])] (Yr [Z2.mk 9 i ys,Z2.mk 1 0 [e3,Z2.mk 9 i zs]]) (XD [Z2.mk 9 i ys,Z2.mk 1 0 [e3,Z2.mk 9 i zs]]).symm 2 3 ?_))))
   intro v19
   refine Y0 2 2 [] (.n 61 (X3 [Z2.mk 9 i ys,Z2.mk 1 0 [e3,Z2.mk 9 i zs]]) (.p .r)) (Z9 11 (Yv 11 [] [] [] (XF 1 0 [Z2.mk 9 i ys,Z2.mk 1 0 [e3,Z2.mk 9 i zs]]) (Z9 13 (YL 13 5 [] [] b11 (YA (Z2.mk 1 0 [Z2.mk 9 i ys,Z2.mk 1 0 [e3,Z2.mk 9 i zs]])) (de ?_)))))
   exact ZW ⟨e3,p23,b11,(by assumption),rfl,rfl⟩ (wk [0,2,2,4,4,4,4,4,4] fl)
  refine dA 12 [0,3,1] [b4,b1,b3] [.i 0,.i 0,nl] ?_
  intro b12
  refine Z9 4 (dL 4 [1,4,2] [b4,b1,b3] (Z8 [3,0,3]) 3 1 ?_)
  intro v20
  refine Xa 7 7 [] [(0,.p rd 0),(2,.i i),(4,.p b1 0),(6,.p b2 0),(7,Z0 f.params),(8,.i f.params.length),(12,.p b3 0),(14,.p b12 0),(51,ZH (Z2.mk 9 i ys)),(52,.p rd 0),(53,.agg (Y9 g gb)),(54,Z0 f.params),(55,Z0 [3,0,3]),(58,ZH (Z2.mk 9 i zs))] (Z9 5 (dc 5 [] [1,4,2] [b4,b1,b3] (Q9 f.params [3,0,3]) ?_))
  rintro _ _ ⟨v21,rfl,rfl⟩
  refine Y0 6 6 [] (.n 56 (Z0 (f.params++[3,0,3])) (.p .r)) (Z9 6 (dc 6 [7,7] [1,2] [b4,b3] (Q0 rd bs p g gb rs (f.params++[3,0,3]) 0 4 (ZE:=ob) (hv:=(by first|omega|(simp only [Yz,YS,Xm];omega)))) ?_))
  rintro _ _ ⟨e4,p24,rfl,rfl,YK⟩
  have X2:=YK.1
  have Q1:=YK.2
  try rw [Yz] at X2
  rw [hbv.2.1] at X2
  refine Z9 8 (Wj 8 [4] [b3] [ZH e4,ZH (Z2.mk 9 i zs)] (Yr [e4,Z2.mk 9 i zs]) (XD [e4,Z2.mk 9 i zs]).symm 2 3 ?_)
  intro v22
  refine Y0 4 4 [] (.n 59 (X3 [e4,Z2.mk 9 i zs]) (.p .r)) (Z9 9 (Yv 9 [] [4] [b3] (XF 1 0 [e4,Z2.mk 9 i zs]) (Z9 10 (Wj 10 [] [] [ZH (Z2.mk 9 i ys),ZH (Z2.mk 1 0 [e4,Z2.mk 9 i zs])] (Yr [Z2.mk 9 i ys,Z2.mk 1 0 [e4,Z2.mk 9 i zs]]) (XD [Z2.mk 9 i ys,Z2.mk 1 0 [e4,Z2.mk 9 i zs]]).symm 2 3 ?_))))
  intro v23
  refine Y0 2 2 [] (.n 61 (X3 [Z2.mk 9 i ys,Z2.mk 1 0 [e4,Z2.mk 9 i zs]]) (.p .r)) (Z9 11 (Yv 11 [] [] [] (XF 1 0 [Z2.mk 9 i ys,Z2.mk 1 0 [e4,Z2.mk 9 i zs]]) (Z9 13 (YL 13 6 [] [] b12 (YA (Z2.mk 1 0 [Z2.mk 9 i ys,Z2.mk 1 0 [e4,Z2.mk 9 i zs]])) (de ?_)))))
  exact ZW ⟨e4,p24,b12,(by assumption),rfl,rfl⟩ (wk [0,2,2,4,4,4,4,4,4] fl)
 rintro F h ⟨e1,p21,b5,ZP,rfl,rfl⟩
 have X2:=ZP.1
 have Q1:=ZP.2
 try rw [Yz] at X2
 rw [hbv.2.1] at X2
 refine aq (ar (iR 3 [(0,.p rd 0),(2,.i i),(4,.p b1 0),(6,.p b2 0),(7,Z0 f.params),(8,.i f.params.length),(12,.p b3 0),(14,.p b5 0),(64,.ms gb 0 g.funcs.length 4),(65,.i i)] [6] [b1] (Zq (W4 gb g.funcs.length 4 i.toNat 5 i) (Z1 1 67 (.val (.pointer (some ⟨gb,i.toNat * 5+1,none⟩))) (VI (WY 2 gb 4 4 5 (i.toNat * 5+1) (Zl (Xc rs)) [.i f.result] 3 (.i f.result) (U6 W9 hf 1 rfl (WF rfl))) (Z1 1 69 (.b (f.result==3)) (ie (XI (fun F h=>∃(eQ:Z2) (p6:Nat),(GE g (f.params.length+3) 52 eQ)/\(p<=p6/\p6<=p+650)/\F=[(0,.p rd 0),(2,.i i),(4,.p b1 0),(6,.p b2 0),(7,Z0 f.params),(14,.p b5 0)]/\h=[.obj b5 (YA eQ),Yn rd bs p6,YI gb rs,.obj b2 [.i 0,.i 0,nl],.obj b1 (Y9 g gb)]) ?_ ?_))))))))
 ·refine ac (f.result==3) Zh (fun Zk=>?_) (fun Zk=>?_)
  ·refine aE 13 (W2 8 13 [0,1,2,3,7] [(0,.p rd 0),(2,.i i),(4,.p b1 0),(6,.p b2 0),(7,Z0 f.params),(14,.p b5 0),(70,ZH (Z2.mk 9 i ys)),(71,.p rd 0),(72,.agg (Y9 g gb)),(73,Z0 f.params),(77,.i f.params.length)] [4,6] [b3,b1] (da 8 (((f.params.length+2:Nat):Int)) (((f.params.length:Int))+(2)) (Z9 4 (dL 4 [6,4] [b1,b3] (Z8 [3,0,3]) 3 1 ?_))))
   intro v24
   refine Y0 6 6 [] (.n 74 (Z0 [3,0,3]) (.p .r)) (Z9 5 (dc 5 [] [6,4] [b1,b3] (Q9 f.params [3,0,3]) ?_))
   rintro _ _ ⟨v25,rfl,rfl⟩
   refine Y0 5 5 [] (.n 75 (Z0 (f.params++[3,0,3])) (.p .r)) (Z9 6 (dc 6 [3,3] [2] [b3] (Q0 rd bs p21 g gb rs (f.params++[3,0,3]) 0 4 (ZE:=ob) (hv:=(by first|omega|(simp only [Yz,YS,Xm];omega)))) ?_))
   rintro _ _ ⟨e5,p25,rfl,rfl,X0⟩
   have X2:=X0.1
   have Q1:=X0.2
   try rw [Yz] at X2
   rw [hbv.2.1] at X2
   refine Z9 9 (Yv 9 [] [4] [b3] (Tt ((f.params.length+2:Nat):Int)) (Z9 10 (Wj 10 [] [] [ZH (Z2.mk 9 i ys),ZH e5,ZH (Z2.mk 12 ((f.params.length+2:Nat):Int) [])] (Yr [Z2.mk 9 i ys,e5,(Z2.mk 12 ((f.params.length+2:Nat):Int) [])]) (XD [Z2.mk 9 i ys,e5,(Z2.mk 12 ((f.params.length+2:Nat):Int) [])]).symm 3 3 ?_)))
   intro v26
   refine Y0 2 2 [] (.n 80 (X3 [Z2.mk 9 i ys,e5,(Z2.mk 12 ((f.params.length+2:Nat):Int) [])]) (.p .r)) (Z9 11 (Yv 11 [] [] [] (XF 6 3 [Z2.mk 9 i ys,e5,(Z2.mk 12 ((f.params.length+2:Nat):Int) [])]) (Z9 12 (YL 12 5 [] [] b5 (YA (Z2.mk 6 3 [Z2.mk 9 i ys,e5,(Z2.mk 12 ((f.params.length+2:Nat):Int) [])])) (de ?_)))))
   exact ZW ⟨(Z2.mk 6 3 [Z2.mk 9 i ys,e5,(Z2.mk 12 ((f.params.length+2:Nat):Int) [])]),p25,(GE.three (s1:=10) (s2:=30) (s3:=1) om om (GE.node (L:=f.params.length) (s:=1) (q:=10) om (fun _=>by omega) om YJ om om om) X2 (GE.var om om om) om),ob,rfl,rfl⟩ (wk [0,1,1,5,5] fl)
  refine ak ?_
  exact ZW ⟨(Z2.mk 1 0 [Z2.mk 9 i ys,Z2.mk 1 0 [e1,Z2.mk 9 i zs]]),p21,(GE.two (s1:=10) (s2:=41) om om (GE.node (L:=f.params.length) (s:=1) (q:=10) om (fun _=>by omega) om YJ om om om) (GE.two (s1:=30) (s2:=10) om om X2 (GE.node (L:=f.params.length) (s:=1) (q:=10) om (fun _=>by omega) om Wg om om om) om) om),ob,rfl,rfl⟩ (wk [0,0,0,2,2] fl)
 rintro F h ⟨eQ,p6,Vy,Jo,rfl,rfl⟩
 refine aD 15 (W2 9 15 [1,2,3,4,5,6] [(6,.p b2 0),(14,.p b5 0),(83,.p rd 0),(84,.agg (Y9 g gb)),(85,Z0 f.params),(87,.ms gb 0 g.funcs.length 4),(88,.i i)] [4,4] [b1,b1] (dx 7 (W4 gb g.funcs.length 4 i.toNat 5 i) (ZZ 7 8 [8] 90 (.val (.pointer (some ⟨gb,i.toNat * 5+1,none⟩))) (VT 9 (WY 2 gb 4 4 5 (i.toNat * 5+1) (Zl (Xc rs)) [.i f.result] 3 (.i f.result) (U6 W9 hf 1 rfl (WF rfl))) (Y6 5 6 [11] (.n 93 (ZH eQ) .r) [0] [b5] (Z9 0 (Yv 0 [] [0,2,4,4] [b5,gb,b1,b1] (Tt 0) (Z9 10 (dc 10 [1,1] [0] [b5] (Q0 rd bs p6 g gb rs f.params f.result 4 (ZE:=ob) (hv:=(by first|omega|(simp only [Yz,YS,Xm];omega)))) ?_)))))))))
 rintro _ _ ⟨e6,p26,rfl,rfl,XB⟩
 have X2:=XB.1
 have Q1:=XB.2
 try rw [Yz] at X2
 rw [hbv.2.1] at X2
 refine Z9 12 (Wj 12 [] [] [ZH (Z2.mk 12 0 []),ZH e6,ZH eQ] (Yr [Z2.mk 12 0 [],e6,eQ]) (XD [Z2.mk 12 0 [],e6,eQ]).symm 3 3 ?_)
 intro v27
 refine Y0 2 2 [] (.n 94 (X3 [Z2.mk 12 0 [],e6,eQ]) (.p .r)) (Z9 13 (Yv 13 [] [] [] (XF 8 3 [Z2.mk 12 0 [],e6,eQ]) (Z9 14 (YL 14 4 [] [] b2 (YA (Z2.mk 8 3 [Z2.mk 12 0 [],e6,eQ])) (de ?_)))))
 exact Zb (r3 [2,2] [ZH (Z2.mk 8 3 [Z2.mk 12 0 [],e6,eQ])] [0] [(b2,b2)] ⟨(Z2.mk 8 3 [Z2.mk 12 0 [],e6,eQ]),p26,rfl,rfl,⟨GE.matchT hg (s1:=1) (s2:=30) (s3:=52) (GE.var om om om) X2 Vy om,by omega⟩⟩ (lr _))
theorem Su (rd:Nat) (bs:List Int) (p:Nat) (g:XU) (gb:Nat) (rs:List Func) (f:Func) (i:Int) (ZE:∀z∈bs,0<=z/\z<=255) (hp:p+1000<=1000000000:=by exact ob) (hg:GP g:=by exact ob) (W9:g.funcs <+: rs:=by exact ob) (hi:0<=i:=by exact ob) (hf:g.funcs[i.toNat]? = some f:=by exact ob) (h0:0<f.params.length:=by exact ob):Zi Tryz.prog 194 [.p rd 0,.agg (Y9 g gb),.i i] [Yn rd bs p,YI gb rs] (fun r h=>∃(e:Z2) (p2:Nat),r=ZH e/\h=[Yn rd bs p2,YI gb rs]/\GE g f.params.length 200 e/\p<=p2/\p2<=p+1000):=by
 obtain ⟨hil,_⟩:=XM.1 hf
 have hgl:=hg.len
 have hso:=(hg.sigs f (Y7 hf)).bd
 have hbv:=C7
 refine ZK 75 Tryz.func194 (ar (iA (Y9 g gb) ?_))
 intro b1
 refine iA [.i 0,.i 0,nl] ?_
 intro b2
 refine ie (ar (iR 3 [(0,.p rd 0),(2,.i i),(4,.p b1 0),(6,.p b2 0),(13,.ms gb 0 g.funcs.length 4),(14,.i i)] [1] [b1] (Zq (W4 gb g.funcs.length 4 i.toNat 5 i) (Z1 1 16 (.val (.pointer (some ⟨gb,i.toNat * 5,none⟩))) (VI (WY 3 gb 4 4 5 (i.toNat * 5+0) (Zl (Xc rs)) [Z0 f.params] 27 (Z0 f.params) (U6 W9 hf 0 rfl (WF rfl))) (Z1 1 7 (Z0 f.params) (ie (ar (ZA [] (Tt 0) (ZA [] (Jg 1) (U7 [ZH (Z2.mk 12 0 []),ZH (Z2.mk 0 1 [])] (Yr [Z2.mk 12 0 [],Z2.mk 0 1 []]) (XD [Z2.mk 12 0 [],Z2.mk 0 1 []]).symm 2 3 ?_)))))))))))
 intro v1
 refine Z5 0 (.n 20 (X3 [Z2.mk 12 0 [],Z2.mk 0 1 []]) (.p .r)) (ZA [] (XF 2 0 [Z2.mk 12 0 [],Z2.mk 0 1 []]) (U7 [ZH (Z2.mk 2 0 [Z2.mk 12 0 [],Z2.mk 0 1 []])] (Yr [Z2.mk 2 0 [Z2.mk 12 0 [],Z2.mk 0 1 []]]) (XD [Z2.mk 2 0 [Z2.mk 12 0 [],Z2.mk 0 1 []]]).symm 1 3 ?_))
 intro v2
 refine Z1 1 8 (XR [Z2.mk 2 0 [Z2.mk 12 0 [],Z2.mk 0 1 []]] v2) (ie (aq (ar (Z1 1 9 (.i 1) (ie (ab 0 (al (fun m F h=>∃(k:Nat) (ys:List Z2) (u:Value) (pq:Nat),(1<=k/\k<=f.params.length)/\(ys.length=k)/\(∀e∈ys,GE g f.params.length 4 e)/\(p<=pq/\pq<=p+30*k)/\F=[(0,.p rd 0),(2,.i i),(4,.p b1 0),(6,.p b2 0),(7,Z0 f.params),(8,XR ys u),(9,.i k)]/\h=[.obj b2 [.i 0,.i 0,nl],.obj b1 (Y9 g gb),Yn rd bs pq,YI gb rs,.tail u 3]/\m=f.params.length-k) _ _ _ ⟨1,[Z2.mk 2 0 [Z2.mk 12 0 [],Z2.mk 0 1 []]],v2,p,ob,ob,(Ff (GE.two (s1:=1) (s2:=1) om om (GE.var om om om) (GE.int om om) om)),ob,rfl,rfl,rfl⟩ (wk [2,2,2,2,0] (fq (fw (fc (x:=.i 1) li fl)))) ?_)))))))
 rintro m F h ⟨k,ys,u,pq,Yj,Zp,Zy,YJ,rfl,rfl,rfl⟩
 refine aq (ar (Yq 2 23 (.i k) 24 (Z0 f.params) (iw (Yh f.params) (Z1 1 26 (.b (decide ((k:Int)<(f.params.length:Int)))) (ie (ZM ((k:Int)<(f.params.length:Int)) (fun Ze=>?_) (fun Ze=>?_)))))))
 ·refine ak (aq (ab 1 (aE 12 (Y6 6 12 [0,1,2,3,4,5] (.n 29 (XR ys u) (.n 30 (.p rd 0) (.n 31 (.agg (Y9 g gb)) (.n 32 (Z0 f.params) (.n 33 (Z0 f.params) (.n 34 (.i k) .r)))))) [1] [b1] ?_))))
  obtain ⟨x1,Z3⟩:=Zr (xs:=f.params) (j:=k) om
  refine dx 6 (Zm none (k:Int) 1 (Y4 Z3)) (ZZ 4 5 [7] 36 (.i x1) (Z9 8 (dc 8 [2,2] [] [] (Bz rd bs pq g gb rs f.params x1 (ZE:=ob)) ?_)))
  rintro _ _ ⟨e1,p21,rfl,rfl,ZP⟩
  have hle:=ZP.1
  refine Z9 9 (Wj 9 [] [] [ZH e1] (Yr [e1]) (XD [e1]).symm 1 3 ?_)
  intro v3
  refine Y0 2 2 [] (.n 38 (X3 [e1]) (.p .r)) (Z9 10 (dp 10 5 [] [] (Yr (ys++[e1])) (Yr ys) (Yr [e1]) u none 3 (Us _) (Us _) (KC _) (by simp<;>omega) (by simp [KA,Yr]) ?_))
  intro v4
  refine Xa 0 1 [11] [(0,.p rd 0),(2,.i i),(4,.p b1 0),(6,.p b2 0),(7,Z0 f.params),(8,XR (ys++[e1]) v4),(9,.i k)] (de (az (Z1 1 27 (.i k) (ZL k (Z5 1 (.n 9 (.i (k+1:Nat)) (.p (.d (.w (.k (.k .z)))))) (ie ?_))))))
  exact ZO ⟨k+1,(ys++[e1]),v4,p21,ob,ob,(Xp Zy hle),ob,rfl,rfl,rfl⟩ (wk [4,4,2,2,0] (fq (fw (ZQ k fl))))
 refine ax 0 (ar (Yq 2 40 (.i i) 41 (X3 ys) (ZA [] (XF 9 i ys) (iA [.i 0,.i 0,nl] ?_))))
 intro b3
 refine ZF 0 b3 (YA (Z2.mk 9 i ys)) (ie (aq (ar (ZY 3 44 (.ms gb 0 g.funcs.length 4) 45 (.i i) [2] [b1] (Zq (W4 gb g.funcs.length 4 i.toNat 5 i) (Z1 1 47 (.val (.pointer (some ⟨gb,i.toNat * 5+1,none⟩))) (VI (WY 4 gb 4 4 5 (i.toNat * 5+1) (Zl (Xc rs)) [.i f.result] 3 (.i f.result) (U6 W9 hf 1 rfl (WF rfl))) (Z1 1 49 (.b (f.result==1)) (ie (XI (fun F h=>∃(eQ:Z2) (p6:Nat),(GE g f.params.length 34 eQ)/\(p<=p6/\p6<=p+350)/\F=[(0,.p rd 0),(2,.i i),(4,.p b1 0),(6,.p b2 0),(7,Z0 f.params),(10,.p b3 0)]/\h=[.obj b3 (YA eQ),.obj b2 [.i 0,.i 0,nl],.obj b1 (Y9 g gb),Yn rd bs p6,YI gb rs]) ?_ ?_))))))))))
 ·refine ac (f.result==1) Zh (fun Zk=>?_) (fun Zk=>?_)
  ·refine aE 8 (W2 4 8 [0,1,2,4] [(0,.p rd 0),(2,.i i),(4,.p b1 0),(6,.p b2 0),(7,Z0 f.params),(10,.p b3 0),(50,.p rd 0),(51,.agg (Y9 g gb)),(52,Z0 f.params),(54,ZH (Z2.mk 9 i ys))] [2,0] [b1,b3] (Z9 3 (dc 3 [3,3] [0] [b3] (Q0 rd bs pq g gb rs f.params 0 3 (ZE:=ob)) ?_)))
   rintro _ _ ⟨e2,p22,rfl,rfl,Y1⟩
   have X2:=Y1.1
   have Q1:=Y1.2
   try rw [Yz] at X2
   first|rw [hbv.2.1] at X2|rw [hbv.1] at X2
   refine Z9 5 (Wj 5 [] [] [ZH e2,ZH (Z2.mk 9 i ys)] (Yr [e2,Z2.mk 9 i ys]) (XD [e2,Z2.mk 9 i ys]).symm 2 3 ?_)
   intro v5
   refine Y0 2 2 [] (.n 55 (X3 [e2,Z2.mk 9 i ys]) (.p .r)) (Z9 6 (Yv 6 [] [] [] (XF 6 1 [e2,Z2.mk 9 i ys]) (Z9 7 (YL 7 3 [] [] b3 (YA (Z2.mk 6 1 [e2,Z2.mk 9 i ys])) (de ?_)))))
   exact ZW ⟨(Z2.mk 6 1 [e2,Z2.mk 9 i ys]),p22,(GE.two (s1:=20) (s2:=13) om om X2 (GE.node (L:=f.params.length) (s:=4) (q:=13) om (fun _=>by omega) om Zy om om om) om),ob,rfl,rfl⟩ (wk [0,3,3,1,1] fl)
  refine ak ?_
  exact ZW ⟨(Z2.mk 9 i ys),pq,(GE.le (GE.node (L:=f.params.length) (s:=4) (q:=13) om (fun _=>by omega) om Zy om om om) om),ob,rfl,rfl⟩ (ZT 5 fl)
 rintro F h ⟨eQ,p6,Vy,Jo,rfl,rfl⟩
 refine ar (ZA [] (Jg 0) (ZA [] (Tt 0) (U7 [ZH (Z2.mk 0 0 []),ZH (Z2.mk 12 0 [])] (Yr [Z2.mk 0 0 [],Z2.mk 12 0 []]) (XD [Z2.mk 0 0 [],Z2.mk 12 0 []]).symm 2 3 ?_)))
 intro v6
 refine ir 0 [(0,.p rd 0),(2,.i i),(4,.p b1 0),(6,.p b2 0),(7,Z0 f.params),(10,.p b3 0),(59,X3 [Z2.mk 0 0 [],Z2.mk 12 0 []])] (ZA [] (XF 4 0 [Z2.mk 0 0 [],Z2.mk 12 0 []]) (iA [.i 0,.i 0,nl] ?_))
 intro b4
 refine ZF 0 b4 (YA (Z2.mk 4 0 [Z2.mk 0 0 [],Z2.mk 12 0 []])) (ie (aD 15 (W2 7 15 [0,1,2,3,4,5,6,7] [(6,.p b2 0),(61,ZH (Z2.mk 4 0 [Z2.mk 0 0 [],Z2.mk 12 0 []])),(62,ZH eQ),(63,.p rd 0),(64,.agg (Y9 g gb)),(65,Z0 f.params),(67,.ms gb 0 g.funcs.length 4),(68,.i i)] [0,2,4,4] [b4,b3,b1,b1] (dx 8 (W4 gb g.funcs.length 4 i.toNat 5 i) (ZZ 5 6 [9] 70 (.val (.pointer (some ⟨gb,i.toNat * 5+1,none⟩))) (VT 10 (WY 6 gb 4 4 5 (i.toNat * 5+1) (Zl (Xc rs)) [.i f.result] 3 (.i f.result) (U6 W9 hf 1 rfl (WF rfl))) (Z9 11 (dc 11 [5,5] [1,0] [b3,b4] (Q0 rd bs p6 g gb rs f.params f.result 4 (ZE:=ob)) ?_))))))))
 rintro _ _ ⟨e3,p23,rfl,rfl,Yy⟩
 have X2:=Yy.1
 have Q1:=Yy.2
 try rw [Yz] at X2
 first|rw [hbv.2.1] at X2|rw [hbv.1] at X2
 refine Z9 12 (Wj 12 [] [] [ZH (Z2.mk 4 0 [Z2.mk 0 0 [],Z2.mk 12 0 []]),ZH eQ,ZH e3] (Yr [Z2.mk 4 0 [Z2.mk 0 0 [],Z2.mk 12 0 []],eQ,e3]) (XD [Z2.mk 4 0 [Z2.mk 0 0 [],Z2.mk 12 0 []],eQ,e3]).symm 3 3 ?_)
 intro v7
 refine Y0 2 2 [] (.n 73 (X3 [Z2.mk 4 0 [Z2.mk 0 0 [],Z2.mk 12 0 []],eQ,e3]) (.p .r)) (Z9 13 (Yv 13 [] [] [] (XF 7 0 [Z2.mk 4 0 [Z2.mk 0 0 [],Z2.mk 12 0 []],eQ,e3]) (Z9 14 (YL 14 6 [] [] b2 (YA (Z2.mk 7 0 [Z2.mk 4 0 [Z2.mk 0 0 [],Z2.mk 12 0 []],eQ,e3])) (de ?_)))))
 exact Zb (r3 [2,2] [ZH (Z2.mk 7 0 [Z2.mk 4 0 [Z2.mk 0 0 [],Z2.mk 12 0 []],eQ,e3])] [0] [(b2,b2)] ⟨(Z2.mk 7 0 [Z2.mk 4 0 [Z2.mk 0 0 [],Z2.mk 12 0 []],eQ,e3]),p23,rfl,rfl,⟨GE.three (s1:=3) (s2:=34) (s3:=30) om om (GE.two (s1:=1) (s2:=1) om om (GE.int om om) (GE.var om om om) om) Vy X2 om,by omega⟩⟩ (lr _))
theorem Z05 (xs:List Int) (t:Int) (hl:xs.length<=1000:=by exact ob):Zi Tryz.prog 189 [Z0 xs,.i t] [] (fun r h=>∃(w:Int),r=.i w/\h=[]/\-1<=w/\w<xs.length):=by
 refine ZK 19 Tryz.func189 (ar (ir 1 [(0,Z0 xs),(1,.i t)] (ie (aq (ar (Z1 1 5 (.i 0) (ie (ab 0 (al (fun m F h=>∃(k:Nat),(k<=xs.length)/\F=[(0,Z0 xs),(1,.i t),(5,.i k)]/\h=[]/\m=xs.length-k) _ _ _ ⟨0,ob,rfl,rfl,rfl⟩ (wk [] (fw (Ya fl))) ?_)))))))))
 rintro m F h ⟨k,Yj,rfl,rfl,rfl⟩
 refine aq (ar (Yq 2 6 (.i k) 7 (Z0 xs) (iw (Yh xs) (Z1 1 9 (.b (decide ((k:Int)<(xs.length:Int)))) (ie (ZM ((k:Int)<(xs.length:Int)) (fun Ze=>?_) (fun Ze=>?_)))))))
 ·refine ak (aq (ab 1 (ar (Yq 2 12 (Z0 xs) 13 (.i k) ?_))))
  obtain ⟨x1,Z3⟩:=Zr (xs:=xs) (j:=k) om
  refine Zq (Zm none (k:Int) 1 (Y4 Z3)) (Z1 3 17 (.b (x1==t)) (ie (ac (x1==t) Zh (fun Zk=>?_) (fun Zk=>?_))))
  ·refine ar (ir 2 [(4,.i k)] (ie ?_))
   exact Zb (r1 [] ⟨(k:Int),rfl,rfl,ob⟩)
  refine ak (az (Z1 1 10 (.i k) (ZL k (ir 1 [(0,Z0 xs),(1,.i t),(5,.i (k+1:Nat))] (ie ?_)))))
  exact ZO ⟨k+1,ob,rfl,rfl,rfl⟩ (wk [] (fw (ZQ k fl)))
 refine ax 0 (ar (ir 1 [(4,.i (-1))] (ie ?_)))
 exact Zb (r1 [] ⟨(-1),rfl,rfl,ob⟩)
theorem Sb (rd:Nat) (bs:List Int) (p:Nat) (g:XU) (gb:Nat) (rs:List Func) (f:Func) (i:Int) (ZE:∀z∈bs,0<=z/\z<=255) (hp:p+90000<=1000000000) (hg:GP g) (W9:g.funcs <+: rs) (hi:0<=i) (hf:g.funcs[i.toNat]? = some f) (h0:i=0->f.params.length=0):Zi Tryz.prog 155 [.p rd 0,.agg (Y9 g gb),.i i] [Yn rd bs p,YI gb rs] (fun r h=>∃(e:Z2) (p2:Nat),r=ZH e/\h=[Yn rd bs p2,YI gb rs]/\GE g f.params.length 30 e/\p<=p2/\p2<=p+90000):=by
 obtain ⟨hil,_⟩:=XM.1 hf
 have hgl:=hg.len
 have hso:=(hg.sigs f (Y7 hf)).bd
 have hbv:=C7
 refine ZK 121 Tryz.func155 (ar (iA (Y9 g gb) ?_))
 intro b1
 refine iA [.i 0,.i 0,nl] ?_
 intro b2
 refine ie (ar (iR 3 [(0,.p rd 0),(2,.i i),(4,.p b1 0),(6,.p b2 0),(13,.ms gb 0 g.funcs.length 4),(14,.i i)] [1] [b1] (Zq (W4 gb g.funcs.length 4 i.toNat 5 i) (Z1 1 16 (.val (.pointer (some ⟨gb,i.toNat * 5,none⟩))) (VI (WY 3 gb 4 4 5 (i.toNat * 5+0) (Zl (Xc rs)) [Z0 f.params] 27 (Z0 f.params) (U6 W9 hf 0 rfl (WF rfl))) (Z1 1 7 (Z0 f.params) (ie (ar (ZY 3 19 (.ms gb 0 g.funcs.length 4) 20 (.i i) [1] [b1] (Zq (W4 gb g.funcs.length 4 i.toNat 5 i) (Z1 1 22 (.val (.pointer (some ⟨gb,i.toNat * 5+1,none⟩))) (VI (WY 3 gb 4 4 5 (i.toNat * 5+1) (Zl (Xc rs)) [.i f.result] 3 (.i f.result) (U6 W9 hf 1 rfl (WF rfl))) (Z1 1 8 (.i f.result) (ie (ar (Z1 1 24 (Z0 f.params) (ic [] (Z05 f.params 1) ?_)))))))))))))))))
 rintro _ _ ⟨w1,rfl,rfl,ZP⟩
 have hpl:=ZP
 refine Z1 1 9 (.i w1) (ie (ar (ZA [] (Jg 0) (iA [.i 0,.i 0,nl] ?_))))
 intro b3
 refine ZF 0 b3 (YA (Z2.mk 0 0 [])) (ie (ar (Z1 1 27 (.p rd 0) (ic [3] (XP rd bs p 4 (ZE:=ob)) ?_))))
 rintro _ _ ⟨k1,rfl,rfl,Y1⟩
 have qhp2:=Y1.lt om
 refine Z1 1 11 (.i k1) (ie (aq (aq (XI (fun F h=>∃(wb:Bool),(wb=true->i=0)/\F=[(0,.p rd 0),(2,.i i),(4,.p b1 0),(6,.p b2 0),(7,Z0 f.params),(8,.i f.result),(9,.i w1),(10,.p b3 0),(11,.i k1),(34,.b wb)]/\h=[.obj rd [X9 bs,.i (p+1:Nat)],.obj b3 (YA (Z2.mk 0 0 [])),.obj b2 [.i 0,.i 0,nl],.obj b1 (Y9 g gb),YI gb rs]) ?_ ?_))))
 ·refine az (ir 3 [(0,.p rd 0),(2,.i i),(4,.p b1 0),(6,.p b2 0),(7,Z0 f.params),(8,.i f.result),(9,.i w1),(10,.p b3 0),(11,.i k1),(31,.b (decide (k1<3)))] (ib (b:=(decide (k1<3))) 31 (fun Za=>?_) (fun Za=>?_)))
  ·have Yy:k1<3:=(dq).1 Za
   refine Z5 3 (.n 34 (.b (i==0)) (.d (.w (.w (.k .z))))) (ie ?_)
   exact ZW ⟨(i==0),(by first|exact (fun h=>Bool.noConfusion h)|(intro h;omega)|(intro h;simp at h;omega)),rfl,rfl⟩ (ZT 5 fl)
  have YK:¬(k1<3):=ZI dq Za
  refine Z5 3 (.n 34 (.b false) (.d (.w (.w (.k .z))))) (ie ?_)
  exact ZW ⟨false,(by first|exact (fun h=>Bool.noConfusion h)|(intro h;omega)|(intro h;simp at h;omega)),rfl,rfl⟩ (ZT 5 fl)
 rintro F h ⟨wb,kR6_0,rfl,rfl⟩
 refine XI (fun F h=>∃(eQ:Z2) (p6:Nat),(GE g f.params.length 200 eQ)/\(p<=p6/\p6<=p+42000)/\F=[(0,.p rd 0),(4,.p b1 0),(6,.p b2 0),(7,Z0 f.params),(8,.i f.result),(10,.p b3 0)]/\h=[Yn rd bs p6,.obj b3 (YA eQ),.obj b2 [.i 0,.i 0,nl],.obj b1 (Y9 g gb),YI gb rs]) ?_ ?_
 ·refine ac wb Iff.rfl (fun Ze=>?_) (fun Ze=>?_)
  ·refine az (iR 2 [(0,.p rd 0),(4,.p b1 0),(6,.p b2 0),(7,Z0 f.params),(8,.i f.result),(10,.p b3 0),(35,.p rd 0),(36,.agg (Y9 g gb))] [3] [b1] (ic [0,3] (SR rd bs (p+1) g gb rs (ZE:=ob)) ?_))
   rintro _ _ ⟨e1,p21,rfl,rfl,X0⟩
   have hbd:=X0.1
   have hbp:=X0.2
   refine ZF 2 b3 (YA e1) (ie ?_)
   exact ZW ⟨e1,p21,(by rw [h0 (kR6_0 (by assumption))];exact hbd),ob,rfl,rfl⟩ (wk [1,0,1,1,0] fl)
  refine aq (XI (fun F h=>∃(wb:Bool),(wb=true->0<=w1)/\F=[(0,.p rd 0),(2,.i i),(4,.p b1 0),(6,.p b2 0),(7,Z0 f.params),(8,.i f.result),(9,.i w1),(10,.p b3 0),(11,.i k1),(51,.b wb)]/\h=[.obj rd [X9 bs,.i (p+1:Nat)],.obj b3 (YA (Z2.mk 0 0 [])),.obj b2 [.i 0,.i 0,nl],.obj b1 (Y9 g gb),YI gb rs]) ?_ ?_)
  ·refine az (ir 3 [(0,.p rd 0),(2,.i i),(4,.p b1 0),(6,.p b2 0),(7,Z0 f.params),(8,.i f.result),(9,.i w1),(10,.p b3 0),(11,.i k1),(40,.b (decide (k1<3)))] (ib (b:=(decide (k1<3))) 40 (fun Zz=>?_) (fun Zz=>?_)))
   ·have XB:k1<3:=(dq).1 Zz
    refine Z5 4 (.n 44 (.b (decide (w1>=0))) (.d (.w (.w (.k .z))))) (ib (b:=(decide (w1>=0))) 44 (fun YE=>?_) (fun YE=>?_))
    ·have Wk:w1>=0:=(dq).1 YE
     refine Z5 3 (.n 47 (.b (f.result==0)) (.k (.d .r))) (ib (b:=(f.result==0)) 47 (fun Xf=>?_) (fun Xf=>?_))
     ·have WJ:f.result=0:=(Zh).1 Xf
      refine Z5 4 (.n 51 (.b true) (.k (.d .r))) (ie ?_)
      exact ZW ⟨true,(by first|exact (fun h=>Bool.noConfusion h)|(intro h;omega)|(intro h;simp at h;omega)),rfl,rfl⟩ (ZT 5 fl)
     have V4:¬(f.result=0):=ZI Zh Xf
     refine Z5 4 (.n 51 (.b (f.result==1)) (.k (.d .r))) (ie ?_)
     exact ZW ⟨(f.result==1),(by first|exact (fun h=>Bool.noConfusion h)|(intro h;omega)|(intro h;simp at h;omega)),rfl,rfl⟩ (ZT 5 fl)
    have Ug:¬(w1>=0):=ZI dq YE
    refine Z5 7 (.n 51 (.b false) (.d (.d .r))) (ie ?_)
    exact ZW ⟨false,(by first|exact (fun h=>Bool.noConfusion h)|(intro h;omega)|(intro h;simp at h;omega)),rfl,rfl⟩ (ZT 5 fl)
   have UM:¬(k1<3):=ZI dq Zz
   refine Z5 11 (.n 51 (.b false) (.d (.w (.w (.k .z))))) (ie ?_)
   exact ZW ⟨false,(by first|exact (fun h=>Bool.noConfusion h)|(intro h;omega)|(intro h;simp at h;omega)),rfl,rfl⟩ (ZT 5 fl)
  rintro F h ⟨wb,kR8_0,rfl,rfl⟩
  refine ac wb Iff.rfl (fun Zk=>?_) (fun Zk=>?_)
  ·refine az (iR 4 [(0,.p rd 0),(4,.p b1 0),(6,.p b2 0),(7,Z0 f.params),(8,.i f.result),(10,.p b3 0),(52,.p rd 0),(53,.agg (Y9 g gb)),(54,.i i),(55,.i w1)] [3] [b1] (ic [0,3] (Z00 rd bs (p+1) g gb rs _ i w1 (ZE:=ob) (hw:=(by have:=kR8_0 (by assumption);omega))) ?_))
   rintro _ _ ⟨e2,p22,rfl,rfl,Uw⟩
   have hbd:=Uw.1
   have hbp:=Uw.2
   refine ZF 2 b3 (YA e2) (ie ?_)
   exact ZW ⟨e2,p22,(GE.le hbd om),ob,rfl,rfl⟩ (wk [1,0,1,1,0] fl)
  refine aq (XI (fun F h=>∃(wb:Bool),(wb=true->0<f.params.length)/\F=[(0,.p rd 0),(2,.i i),(4,.p b1 0),(6,.p b2 0),(7,Z0 f.params),(8,.i f.result),(10,.p b3 0),(11,.i k1),(77,.b wb)]/\h=[.obj rd [X9 bs,.i (p+1:Nat)],.obj b3 (YA (Z2.mk 0 0 [])),.obj b2 [.i 0,.i 0,nl],.obj b1 (Y9 g gb),YI gb rs]) ?_ ?_)
  ·refine az (ir 3 [(0,.p rd 0),(2,.i i),(4,.p b1 0),(6,.p b2 0),(7,Z0 f.params),(8,.i f.result),(10,.p b3 0),(11,.i k1),(59,.b (decide (k1<3)))] (ib (b:=(decide (k1<3))) 59 (fun Wb=>?_) (fun Wb=>?_)))
   ·have Tu:k1<3:=(dq).1 Wb
    refine Z5 1 (.n 60 (Z0 f.params) (.w (.w (.k .z)))) (iw (Yh f.params) (Z1 3 64 (.b (decide ((f.params.length:Int)>0))) (ib (b:=(decide ((f.params.length:Int)>0))) 64 (fun WC=>?_) (fun WC=>?_))))
    ·have Tc:(f.params.length:Int)>0:=(dq).1 WC
     refine Z5 1 (.n 65 (Z0 f.params) (.k (.d .r))) ?_
     obtain ⟨x1,Z3⟩:=Zr (xs:=f.params) (j:=0) om
     refine Zq (Zm none 0 1 (Y4 Z3)) (Z1 4 70 (.b (x1==3)) (ib (b:=(x1==3)) 70 (fun WX=>?_) (fun WX=>?_)))
     ·have QJ:x1=3:=(Zh).1 WX
      refine Z5 3 (.n 73 (.b (f.result==0)) (.k (.d .r))) (ib (b:=(f.result==0)) 73 (fun WH=>?_) (fun WH=>?_))
      ·have QK:f.result=0:=(Zh).1 WH
       refine Z5 4 (.n 77 (.b true) (.k (.d .r))) (ie ?_)
       exact ZW ⟨true,(by first|exact (fun h=>Bool.noConfusion h)|(intro h;omega)|(intro h;simp at h;omega)),rfl,rfl⟩ (ZT 5 fl)
      have Jm:¬(f.result=0):=ZI Zh WH
      refine Z5 4 (.n 77 (.b (f.result==3)) (.k (.d .r))) (ie ?_)
      exact ZW ⟨(f.result==3),(by first|exact (fun h=>Bool.noConfusion h)|(intro h;omega)|(intro h;simp at h;omega)),rfl,rfl⟩ (ZT 5 fl)
     have QL:¬(x1=3):=ZI Zh WX
     refine Z5 7 (.n 77 (.b false) (.k (.d .r))) (ie ?_)
     exact ZW ⟨false,(by first|exact (fun h=>Bool.noConfusion h)|(intro h;omega)|(intro h;simp at h;omega)),rfl,rfl⟩ (ZT 5 fl)
    have Ls:¬((f.params.length:Int)>0):=ZI dq WC
    refine Z5 13 (.n 77 (.b false) (.k (.d .r))) (ie ?_)
    exact ZW ⟨false,(by first|exact (fun h=>Bool.noConfusion h)|(intro h;omega)|(intro h;simp at h;omega)),rfl,rfl⟩ (ZT 5 fl)
   have Lu:¬(k1<3):=ZI dq Wb
   refine Z5 18 (.n 77 (.b false) (.d (.w (.w .z)))) (ie ?_)
   exact ZW ⟨false,(by first|exact (fun h=>Bool.noConfusion h)|(intro h;omega)|(intro h;simp at h;omega)),rfl,rfl⟩ (ZT 5 fl)
  rintro F h ⟨wb,kR10_0,rfl,rfl⟩
  refine ac wb Iff.rfl (fun ZG=>?_) (fun ZG=>?_)
  ·refine az (iR 3 [(0,.p rd 0),(4,.p b1 0),(6,.p b2 0),(7,Z0 f.params),(8,.i f.result),(10,.p b3 0),(78,.p rd 0),(79,.agg (Y9 g gb)),(80,.i i)] [3] [b1] (ic [0,3] (Z01 rd bs (p+1) g gb rs _ i (ZE:=ob) (h0:=(kR10_0 (by assumption)))) ?_))
   rintro _ _ ⟨e3,p23,rfl,rfl,Gj⟩
   have hbd:=Gj.1
   have hbp:=Gj.2
   refine ZF 2 b3 (YA e3) (ie ?_)
   exact ZW ⟨e3,p23,(GE.le hbd om),ob,rfl,rfl⟩ (wk [1,0,1,1,0] fl)
  refine aq (XI (fun F h=>∃(wb:Bool),(wb=true->0<f.params.length)/\F=[(0,.p rd 0),(2,.i i),(4,.p b1 0),(6,.p b2 0),(7,Z0 f.params),(8,.i f.result),(10,.p b3 0),(102,.b wb)]/\h=[.obj rd [X9 bs,.i (p+1:Nat)],.obj b3 (YA (Z2.mk 0 0 [])),.obj b2 [.i 0,.i 0,nl],.obj b1 (Y9 g gb),YI gb rs]) ?_ ?_)
  ·refine az (ir 3 [(0,.p rd 0),(2,.i i),(4,.p b1 0),(6,.p b2 0),(7,Z0 f.params),(8,.i f.result),(10,.p b3 0),(84,.b (decide (k1<3)))] (ib (b:=(decide (k1<3))) 84 (fun WI=>?_) (fun WI=>?_)))
   ·have Z0n:k1<3:=(dq).1 WI
    refine Z5 1 (.n 85 (Z0 f.params) (.w (.w .z))) (iw (Yh f.params) (Z1 3 89 (.b (decide ((f.params.length:Int)>0))) (ib (b:=(decide ((f.params.length:Int)>0))) 89 (fun TH=>?_) (fun TH=>?_))))
    ·have Z0o:(f.params.length:Int)>0:=(dq).1 TH
     refine Z5 1 (.n 90 (Z0 f.params) (.k (.d .r))) ?_
     obtain ⟨x2,Zt⟩:=Zr (xs:=f.params) (j:=0) om
     refine Zq (Zm none 0 1 (Y4 Zt)) (Z1 4 95 (.b (x2==0)) (ib (b:=(x2==0)) 95 (fun Jj=>?_) (fun Jj=>?_)))
     ·have Z0p:x2=0:=(Zh).1 Jj
      refine Z5 3 (.n 98 (.b (f.result==0)) (.k (.d .r))) (ib (b:=(f.result==0)) 98 (fun Jk=>?_) (fun Jk=>?_))
      ·have Z0q:f.result=0:=(Zh).1 Jk
       refine Z5 4 (.n 102 (.b true) (.k (.d .r))) (ie ?_)
       exact ZW ⟨true,(by first|exact (fun h=>Bool.noConfusion h)|(intro h;omega)|(intro h;simp at h;omega)),rfl,rfl⟩ (ZT 5 fl)
      have Z0r:¬(f.result=0):=ZI Zh Jk
      refine Z5 4 (.n 102 (.b (f.result==1)) (.k (.d .r))) (ie ?_)
      exact ZW ⟨(f.result==1),(by first|exact (fun h=>Bool.noConfusion h)|(intro h;omega)|(intro h;simp at h;omega)),rfl,rfl⟩ (ZT 5 fl)
     have Z0s:¬(x2=0):=ZI Zh Jj
     refine Z5 7 (.n 102 (.b false) (.k (.d .r))) (ie ?_)
     exact ZW ⟨false,(by first|exact (fun h=>Bool.noConfusion h)|(intro h;omega)|(intro h;simp at h;omega)),rfl,rfl⟩ (ZT 5 fl)
    have Z0t:¬((f.params.length:Int)>0):=ZI dq TH
    refine Z5 13 (.n 102 (.b false) (.k (.d .r))) (ie ?_)
    exact ZW ⟨false,(by first|exact (fun h=>Bool.noConfusion h)|(intro h;omega)|(intro h;simp at h;omega)),rfl,rfl⟩ (ZT 5 fl)
   have Z0u:¬(k1<3):=ZI dq WI
   refine Z5 18 (.n 102 (.b false) (.d (.w (.k (.k (.k .z)))))) (ie ?_)
   exact ZW ⟨false,(by first|exact (fun h=>Bool.noConfusion h)|(intro h;omega)|(intro h;simp at h;omega)),rfl,rfl⟩ (ZT 5 fl)
  rintro F h ⟨wb,kR12_0,rfl,rfl⟩
  refine ac wb Iff.rfl (fun Ym=>?_) (fun Ym=>?_)
  ·refine az (iR 3 [(0,.p rd 0),(4,.p b1 0),(6,.p b2 0),(7,Z0 f.params),(8,.i f.result),(10,.p b3 0),(103,.p rd 0),(104,.agg (Y9 g gb)),(105,.i i)] [3] [b1] (ic [0,3] (Su rd bs (p+1) g gb rs _ i (ZE:=ob) (h0:=(kR12_0 (by assumption)))) ?_))
   rintro _ _ ⟨e4,p24,rfl,rfl,Gk⟩
   have hbd:=Gk.1
   have hbp:=Gk.2
   refine ZF 2 b3 (YA e4) (ie ?_)
   exact ZW ⟨e4,p24,(GE.le hbd om),ob,rfl,rfl⟩ (wk [1,0,1,1,0] fl)
  refine az (iR 4 [(0,.p rd 0),(4,.p b1 0),(6,.p b2 0),(7,Z0 f.params),(8,.i f.result),(10,.p b3 0),(107,.p rd 0),(108,.agg (Y9 g gb)),(109,Z0 f.params),(110,.i f.result)] [3] [b1] (ic [0,3] (La rd bs (p+1) g gb rs f.params f.result 18 (ZE:=ob)) ?_))
  rintro _ _ ⟨e5,p25,rfl,rfl,Gl⟩
  have hbd:=Gl.1
  have hbp:=Gl.2
  refine ZF 2 b3 (YA e5) (ie ?_)
  exact ZW ⟨e5,p25,(GE.le hbd om),ob,rfl,rfl⟩ (wk [1,0,1,1,0] fl)
 rintro F h ⟨eQ,p6,QM,Gr,rfl,rfl⟩
 refine aq (ar (iR 1 [(0,.p rd 0),(4,.p b1 0),(6,.p b2 0),(7,Z0 f.params),(8,.i f.result),(10,.p b3 0),(112,ZH eQ)] [1] [b3] (ic [] (Lh eQ (hz:=(by have:=QM.2;omega))) ?_)))
 rintro _ _ ⟨w2,rfl,rfl,Lv⟩
 have Gi:=Lv
 have Xq:=QM.2
 refine Z1 1 114 (.b (decide (w2<0))) (ie (ZM (w2<0) (fun Xi=>?_) (fun Xi=>?_)))
 ·refine ar (iR 4 [(6,.p b2 0),(115,.p rd 0),(116,.agg (Y9 g gb)),(117,Z0 f.params),(118,.i f.result)] [3] [b1] (ic [0,3] (La rd bs p6 g gb rs f.params f.result 12 (ZE:=ob)) ?_))
  rintro _ _ ⟨e6,p26,rfl,rfl,DP⟩
  have hbd:=DP.1
  have hbp:=DP.2
  refine ZF 3 b2 (YA e6) (ie ?_)
  exact Zb (r3 [1,1] [ZH e6] [0] [(b2,b2)] ⟨e6,p26,rfl,rfl,⟨hbd,by omega⟩⟩ (lr _))
 refine ak (ar (Yl 1 120 (ZH eQ) [1] [b3] (ZF 2 b2 (YA eQ) (ie ?_))))
 exact Zb (r3 [1,3] [ZH eQ] [0] [(b2,b2)] ⟨eQ,p6,rfl,rfl,⟨⟨QM.1,by omega⟩,by omega⟩⟩ (lr _))
end Go.Abs
