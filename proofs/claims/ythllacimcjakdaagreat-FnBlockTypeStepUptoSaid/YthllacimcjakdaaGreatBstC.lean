/-
  A part of the proof of FnBlockTypeStepUptoSaid (see the last file): no condition.
-/
import Derived.Test.YthllacimcjakdaaGreatBstB
import Derived.Test.YthllacimcjakdaaGreatProg
set_option linter.all false
set_option linter.unusedVariables false
set_option linter.unusedSimpArgs false
set_option linter.unusedSectionVars false
set_option maxRecDepth 10000
set_option maxHeartbeats 4000000
namespace Go.Abs
def Ju (bs:List Int) (p:Nat) (mx:Int):Int:=
 if mx<1∨bs.length=0 then 0 else if p<bs.length then (bs[p]?).getD 0 % mx else
  TN ((((bs[p % bs.length]?).getD 0*131+(bs[(p*7+3) % bs.length]?).getD 0*1117)+((p*29:Nat):Int))+(((p / bs.length:Nat):Int)*53))
   (((((bs[p % bs.length]?).getD 0*131+(bs[(p*7+3) % bs.length]?).getD 0*1117)+((p*29:Nat):Int))+(((p / bs.length:Nat):Int)*53)) / 64) % mx
theorem Z3a {bs:List Int} {p:Nat} {mx:Int} (h:0<mx):0<=Ju bs p mx/\Ju bs p mx<mx:=by
 rw [Ju]
 split
 ·omega
 ·split
  ·exact ⟨Int.emod_nonneg _ om,Int.emod_lt_of_pos _ h⟩
  ·exact ⟨Int.emod_nonneg _ om,Int.emod_lt_of_pos _ h⟩
theorem Rr {xs:List Z5} {k:Nat} {b:Z5} (h:xs[k]? = some b):Zm (YH (xs.take k))++Zm [Zr b]=Zm (YH (xs.take (k+1))):=by
 rw [WS h,J8,TD]
 congr 1
 rw [Up];rfl
def Cw (s:Z4) (u:Value):List AV:=[.i s.op,.i s.num,.i s.into,Z0 s.args,.val u]
def Ch (b:Z5) (k:Nat):Z4:=(b.steps[k]?).getD (Zi 0 0)
theorem DH {b:Z5} {k:Nat} {s:Z4} (h:b.steps[k]? = some s):Ch b k=s:=by rw [Ch,h];rfl
def WC (b:Z5) (kk:Nat) (u:Value) (k:Nat):List AV:=if k<=kk then Zm (Zo (b.steps.take k)) else Zm (Zo (b.steps.take kk))++(Cw (Ch b kk) u++Zm (Zo ((b.steps.take k).drop (kk+1))))
def Uw (b:Z5) (kk k:Nat):List AV:=if k<=kk then [] else Zm (YH (Ch b kk).kids)
theorem LE {b:Z5} {kk:Nat} {u:Value}:WC b kk u 0=[]:=by rw [WC,Zj (Qr _),List.take_zero,WY];rfl
theorem LH {b:Z5} {kk:Nat}:Uw b kk 0=[]:=Zj (Qr _)
theorem Gr {b:Z5} {kk k:Nat} {u:Value} (h:k<=b.steps.length):(WC b kk u k).length=k*5:=by
 rw [WC]
 split
 ·rw [TW,Wp,Vs h]
 ·rename_i q
  have e:(Cw (Ch b kk) u).length=5:=rfl
  rw [Yu,Yu,TW,TW,Ap,Wp,Wp,e,Vs h,Vs om]
  omega
theorem LA {b:Z5} {kk k:Nat} {u:Value} {s:Z4} (hs:b.steps[k]? = some s) (hk:¬k=kk):WC b kk u k++Zm [Y2 s]=WC b kk u (k+1):=by
 have hkl:=(XM.1 hs).1
 by_cases q:k<=kk
 ·rw [WC,Zj q,WC,Zj om]
  exact IN hs
 ·rw [WC,Za q,WC,Za om,TO,TO]
  congr 2
  rw [WS hs,List.drop_append_of_le_length (by rw [Wp];omega),Ws,TD]
  congr 1
  rw [WY];rfl
theorem LF {b:Z5} {kk k:Nat} (hk:¬k=kk):Uw b kk k=Uw b kk (k+1):=by
 by_cases q:k<=kk
 ·rw [Uw,Zj q,Uw,Zj om]
 ·rw [Uw,Za q,Uw,Za om]
theorem LD {b:Z5} {kk:Nat} {u u2:Value} {s:Z4} (hs:b.steps[kk]? = some s):WC b kk u kk++Cw s u2=WC b kk u2 (kk+1):=by
 rw [WC,Zj (Xa _),WC,Za om,DH hs,EJ (by rw [Wp];omega),WY]
 show _=_++(Cw s u2++Zm [])
 rw [Ry,Jz]
theorem LG {b:Z5} {kk:Nat} {s:Z4} (hs:b.steps[kk]? = some s):Zm (YH s.kids)=Uw b kk (kk+1):=by
 rw [Uw,Za om,DH hs]
theorem N6 {α:Type}:∀(A X:List α) (m:Nat) (y:α),(A++X).set (A.length+m) y=A++X.set m y
 | [],X,m,y=>by simp
 | a::r,X,m,y=>by
  have:=N6 r X m y
  rw [Tk,YQ,show r.length+1+m=(r.length+m)+1 by omega,List.set_cons_succ,this,Tk]
theorem SO {α:Type} (A X:List α) (m:Nat):(A++X)[A.length+m]? = X[m]?:=by
 rw [CY om];congr 1;omega
section
variable {b:Z5} {kk:Nat} {u:Value} {s:Z4}
theorem Gq (hs:b.steps[kk]? = some s):WC b kk u b.steps.length=Zm (Zo (b.steps.take kk))++(Cw s u++Zm (Zo (b.steps.drop (kk+1)))):=by
 have hk:=(XM.1 hs).1
 rw [WC,Za om,DH hs,WP]
theorem Gp (hs:b.steps[kk]? = some s):(Zm (Zo (b.steps.take kk))).length=kk*5:=by
 have hk:=(XM.1 hs).1
 rw [TW,Wp,Vs om]
theorem Z1c (hs:b.steps[kk]? = some s):(WC b kk u b.steps.length)[kk*5+4]? = some (.val u):=by
 rw [Gq hs,<-Gp hs,SO];rfl
theorem E0 (hs:b.steps[kk]? = some s):((WC b kk u b.steps.length).drop (kk*5+4)).take 1=[.val u]:=by
 rw [Gq hs,<-Gp hs,<-List.drop_drop,List.drop_left];rfl
theorem Rx {xs:List Z4} {k:Nat} {t:Z4} (hk:k<xs.length):Zm (Zo (xs.set k t))=Zm (Zo (xs.take k))++(Ye t++Zm (Zo (xs.drop (k+1)))):=by
 rw [CZ,Zj hk,Ws,TD,DB]
theorem Z1d (hs:b.steps[kk]? = some s) (ks:List Z5):(WC b kk u b.steps.length).set (kk*5+4) (.sl (YH ks) none)=Zm (Zo (b.steps.set kk ⟨s.op,s.num,s.into,s.args,ks⟩)):=by
 have hk:=(XM.1 hs).1
 rw [Gq hs,<-Gp hs,N6,Rx hk];rfl
theorem Gs (hs:b.steps[kk]? = some s):Uw b kk b.steps.length=Zm (YH s.kids):=by
 have hk:=(XM.1 hs).1
 rw [Uw,Za om,DH hs]
theorem Z1e (hs:b.steps[kk]? = some s):b.steps.set kk ⟨s.op,s.num,s.into,s.args,s.kids⟩=b.steps:=by
 have e:Z4.mk s.op s.num s.into s.args s.kids=s:=by cases s;rfl
 rw [e]
 apply List.ext_getElem?
 intro i
 rw [List.getElem?_set]
 split
 ·rename_i q;subst q;rw [Zj (XM.1 hs).1];exact hs.symm
 ·rfl
end
theorem Vo.set:∀(ls:List AV) (p:Nat) {x y:AV},Zg x y->Vo (ls.set p x) (ls.set p y)
 | [],_,_,_,_=>.nil
 | a::r,0,_,_,h=>.cons h (Vo.refl r)
 | a::r,p+1,_,_,h=>.cons (Zg.refl a) (Vo.set r p h)
theorem Vo.len:∀{xs ys:List AV},Vo xs ys->ys.length=xs.length
 | _,_,.nil=>rfl
 | _,_,.cons _ t=>by rw [YQ,YQ,t.len]
theorem Rz (v:Value) (k:Nat) (ls ks:List AV):Res.fp (.row v k ks)=Res.fp (.row v k ls):=by
 cases v with
 | slice a _ _=>cases a<;>rfl
 | _=>rfl
theorem Z3t {w:World} {G:Yb} {v:Value} {k:Nat} {ls ls':List AV} {h2:List Res} (hle:Vo ls ls') (hh:YA w G (.row v k ls::h2)):YA w G (.row v k ls'::h2)/\YU w G (.row v k ls::h2) w G (.row v k ls'::h2):=by
 have hpw:=WT.1 hh.apart
 have hf:∀b o,Res.fp (.row v k ls') b o->Res.fp (.row v k ls) b o:=fun b o h=>by rw [Rz v k ls ls'] at h;exact h
 refine ⟨⟨fun r hr=>?_,WT.2 ⟨fun r hr b o f1 f2=>hpw.1 r hr b o (hf b o f1) f2,hpw.2⟩,fun r hr b o f1 hg=>?_,hh.lt⟩,⟨rfl,rfl,rfl,Xa _,fun _ _ h=>h,fun _ _=>.inl rfl,fun _ _ _ h=>.inl h,fun b o _ ⟨r,hr,f1⟩=>?_⟩⟩
 ·rcases YP.1 hr with rfl|hr
  ·rcases hh.ok _ (Xg ..) with ⟨h0,h1⟩|⟨g,len,cap,cur,e,h0,h1,h3,h4,h5,h6⟩
   ·subst h1;cases hle;exact .inl ⟨h0,rfl⟩
   ·exact .inr ⟨g,len,cap,cur,e,h0,h1,h3,h4,by rw [hle.len];exact h5,hle.cs h6⟩
  ·exact hh.ok r (XC _ hr)
 ·rcases YP.1 hr with rfl|hr
  ·exact hh.prot _ (Xg ..) b o (hf b o f1) hg
  ·exact hh.prot r (XC _ hr) b o f1 hg
 ·rcases YP.1 hr with rfl|hr
  ·exact ⟨_,Xg ..,hf b o f1⟩
  ·exact ⟨r,XC _ hr,f1⟩
section
variable {h:List Res}
theorem NS (j i:Nat) (b:Z5) (kk:Nat) (s:Z4) (ks:List Z5) (u v:Value) (hs:b.steps[kk]? = some s) (hp:Wa [j,i] h=some [.row u 2 (Zm (YH ks)),.row v 5 (WC b kk u b.steps.length)]:=by kernel_rfl) :
  T1 h (.row v 5 (Zm (Zo (b.steps.set kk ⟨s.op,s.num,s.into,s.args,ks⟩)))::.tail u 2::XF [j,i] h):=by
 intro w G hh
 obtain ⟨G',a1,a2⟩:=Z6w j i (kk*5+4) hp (T5 ks) om (Z1c hs) w G hh
 obtain ⟨b1,b2⟩:=Z3t (Vo.set _ (kk*5+4) (Zg.forget (YH ks) (some u))) a1
 rw [Z1d hs] at b1 b2
 exact ⟨G',b1,a2.trans b2⟩
theorem Hp (j i:Nat) (b:Z5) (kk:Nat) (s:Z4) (u v:Value) (hs:b.steps[kk]? = some s) (hp:Wa [j,i] h=some [.row u 2 (Uw b kk b.steps.length),.row v 5 (WC b kk u b.steps.length)]:=by kernel_rfl) :
  T1 h (.row v 5 (Zm (Zo b.steps))::.tail u 2::XF [j,i] h):=by
 have Y1:Wa [j,i] h=some [.row u 2 (Zm (YH s.kids)),.row v 5 (WC b kk u b.steps.length)]:=by rw [hp,Gs hs]
 have:=NS j i b kk s s.kids u v hs Y1
 rwa [Z1e hs] at this
end
theorem IM {xs:List Z4} {k:Nat} (hk:k<xs.length):(Zm (Zo xs)).take (k*5)++(Zm (Zo xs)).drop ((k+1)*5)=Zm (Zo (xs.take k++xs.drop (k+1))):=by
 have h1:(Zm (Zo (xs.take k))).length=k*5:=by rw [TW,Wp,Vs om]
 have h2:(Zm (Zo (xs.take (k+1)))).length=(k+1)*5:=by rw [TW,Wp,Vs om]
 have e1:Zm (Zo xs)=Zm (Zo (xs.take k))++Zm (Zo (xs.drop k)):=by rw [<-TD,<-Ws,UC]
 have e2:Zm (Zo xs)=Zm (Zo (xs.take (k+1)))++Zm (Zo (xs.drop (k+1))):=by rw [<-TD,<-Ws,UC]
 rw [Ws,TD]
 congr 1
 ·rw [e1,<-h1,KV]
 ·conv=>lhs;rw [e2,<-h2,List.drop_left]
theorem Rq {xs:List Z5} {i:Nat} {s:Z5} (h:xs[i]? = some s):((Zm (YH xs)).drop (i*2)).take 2=Y8 s:=by
 have hi:=(XM.1 h).1
 have h1:(Zm (YH (xs.take i))).length=i*2:=by rw [Cg,Wp,Vs om]
 have e1:Zm (YH xs)=Zm (YH (xs.take i))++Zm (YH (xs.drop i)):=by rw [<-TD,<-J8,UC]
 rw [e1,<-h1,List.drop_left,Yd h,Up,Uk]
 rfl
section
variable {rs:List Yj} {k:Nat} {r:Yj}
theorem FL (hk:k<rs.length) (r:Yj):Zm (YL (rs.set k r))=Zm (YL (rs.take k))++((Vi r).leaves++Zm (YL (rs.drop (k+1)))):=by
 rw [CZ,Zj hk,AG,TD];rfl
theorem IL (hk:k<rs.length):(Zm (YL (rs.take k))).length=k*5:=by rw [DA,Wp,Vs om]
theorem Ru (hk:k<rs.length) (r:Yj):((Zm (YL (rs.set k r))).drop (k*5+1)).take 1=[Z0 r.lent]:=by
 rw [FL hk,<-IL hk,<-List.drop_drop,List.drop_left];rfl
theorem Rw (hk:k<rs.length) (r:Yj) (l:List Int):(Zm (YL (rs.set k r))).take (k*5+1)++[Z0 l]++(Zm (YL (rs.set k r))).drop (k*5+1+1)=Zm (YL (rs.set k ⟨r.params,l,r.result,r.body⟩)):=by
 have hl:=IL hk
 rw [FL hk,FL hk]
 have e:(Vi r).leaves=[Z0 r.params]++([Z0 r.lent]++[.i r.result,.sl (Zo r.body.steps) none,.i r.body.result]):=rfl
 have e2:(Vi ⟨r.params,l,r.result,r.body⟩).leaves=[Z0 r.params]++([Z0 l]++[.i r.result,.sl (Zo r.body.steps) none,.i r.body.result]):=rfl
 rw [e,e2]
 have q:=GW (A:=Zm (YL (rs.take k))++[Z0 r.params]) (xs:=[Z0 r.lent]) (ys:=[Z0 l]) (B:=[.i r.result,.sl (Zo r.body.steps) none,.i r.body.result]++Zm (YL (rs.drop (k+1)))) (o:=k*5+1) (by rw [Yu,hl];rfl) rfl
 simpa [TO] using q
end
end Go.Abs
section
namespace Go.Abs
theorem U2 {rs fs:List Func} (hp:fs <+: rs) {i:Nat} {f:Func} (hx:fs[i]? = some f) (c:Nat) {zs:List AV} (hz:((Cv f).drop c).take zs.length=zs) (hl:c+zs.length<=5):((Zm (Xc rs)).drop (i*5+c)).take zs.length=zs:=by
 obtain ⟨ys,rfl⟩:=hp
 have h1:(fs++ys)[i]? = some f:=by rw [CX (XM.1 hx).1];exact hx
 have e1:=(UC i (fs++ys)).symm
 rw [Yd h1] at e1
 have hl2:(Zm (Xc ((fs++ys).take i))).length=i*5:=by
  rw [UU (k:=5) _ (Dq _),Bo,Wp,Vs (by have:=(XM.1 h1).1;omega)]
 have e2:Zm (Xc (fs++ys))=Zm (Xc ((fs++ys).take i))++(Cv f++Zm (Xc ((fs++ys).drop (i+1)))):=by
  conv=>lhs;rw [e1]
  simp only [Xc,Zm,List.map_append,Uk,List.flatMap_append,JB]
  rfl
 rw [e2,List.drop_append,List.drop_of_length_le om,Kl,hl2,Nat.add_sub_cancel_left,List.drop_append_of_le_length (by show c<=5;omega),List.take_append_of_le_length (by rw [Ap];show zs.length<=5-c;omega)]
 exact hz
theorem FK (rs:List Func):(Zm (Xc rs)).length=rs.length*5:=by rw [UU (k:=5) _ (Dq _),Bo]
end Go.Abs
namespace Go.Abs
abbrev Y9 (g:XV) (gb:Nat):List AV:=[Zd g.decls,.ms gb 0 g.funcs.length 4]
abbrev YI (gb:Nat) (rs:List Func):Res:=.row (.slice (some ⟨gb,0,none⟩) 4 4) 5 (Zm (Xc rs))
abbrev Yl (rd:Nat) (bs:List Int) (p:Nat):Res:=.obj rd [Xb bs,.i p]

end Go.Abs
end
namespace Go.Abs
theorem Z3v {w:World} {G:Yb} {g len cap k m:Nat} {ls:List AV} {h2:List Res} (hh:YA w G (.row (.slice (some ⟨g,0,none⟩) len cap) k ls::h2)) (hle:m<=len) :
  YA w G (.row (.slice (some ⟨g,0,none⟩) m cap) k (ls.take (m*k))::h2)/\YU w G (.row (.slice (some ⟨g,0,none⟩) len cap) k ls::h2) w G (.row (.slice (some ⟨g,0,none⟩) m cap) k (ls.take (m*k))::h2):=by
 have hpw:=WT.1 hh.apart
 have hfp:∀b o,Res.fp (.row (.slice (some ⟨g,0,none⟩) m cap) k (ls.take (m*k))) b o->Res.fp (.row (.slice (some ⟨g,0,none⟩) len cap) k ls) b o:=fun b o hf=>hf
 refine ⟨⟨fun r hr=>?_,WT.2 ⟨fun r hr b o h1 h2=>hpw.1 r hr b o (hfp b o h1) h2,hpw.2⟩,fun r hr b o hf hg=>?_,hh.lt⟩,⟨rfl,rfl,rfl,Xa _,fun _ _ h=>h,fun _ _=>.inl rfl,fun _ _ _ h=>.inl h,fun b o _ hf=>?_⟩⟩
 ·rcases YP.1 hr with rfl|hr
  ·rcases hh.ok _ (Xg ..) with ⟨h0,_⟩|⟨g',len',cap',cur,e,hv,h1,h3,h4,h5,h6⟩
   ·cases h0
   ·cases hv
    have hmk:m*k<=len*k:=TQ k hle
    refine .inr ⟨g,m,cap,cur,e,rfl,h1,by omega,h4,by rw [Wp,h5];omega,?_⟩
    have:=h6.take (m*k)
    rw [List.take_take,Vs hmk] at this
    exact this
  ·exact hh.ok r (XC _ hr)
 ·rcases YP.1 hr with rfl|hr
  ·exact hh.prot _ (Xg ..) b o (hfp b o hf) hg
  ·exact hh.prot r (XC _ hr) b o hf hg
 ·obtain ⟨r,hr,hf⟩:=hf
  rcases YP.1 hr with rfl|hr
  ·exact ⟨_,Xg ..,hfp b o hf⟩
  ·exact ⟨r,XC _ hr,hf⟩
theorem Rt {rs:List Func} {k:Nat} (f:Func) (hk:k<rs.length):(Zm (Xc rs)).take (k*5)++Cv f++(Zm (Xc rs)).drop (k*5+5)=Zm (Xc (rs.set k f)):=by
 rw [show Xc (rs.set k f)=(Xc rs).set k (J1 f) by simp [Xc,List.map_set]]
 exact DD (y:=J1 f) (Dq rs) rfl (by simpa using hk)
theorem Zk.frzP {P:Program} {f:FuncId} {as1:List AV} {h0:List Res} {E:Type} {ds:E->List Zf} {rs:E->List Func} {m:E->Nat} {hs:E->List Res} {Q:E->Prop}
  (H:Zk P f as1 h0 (fun r h=>∃(e:E) (gb:Nat),r=.agg [Zd (ds e),.ms gb 0 (m e) 4]/\h=.row (.slice (some ⟨gb,0,none⟩) 4 4) 5 (Zm (Xc (rs e)))::hs e/\Q e)) (hm:∀e,Q e->m e<=4/\(rs e).length=4) :
  Zk P f as1 h0 (fun r h=>∃e:E,r=.agg [Zd (ds e),BF ((rs e).take (m e))]/\h=hs e/\Q e):=by
 intro w G vs hv hh
 refine (H w G vs hv hh).mono ?_
 rintro e w' ⟨u,r,h',G',he,⟨x,gb,rfl,rfl,hq⟩,hr,hh',hx⟩
 obtain ⟨hm4,hr4⟩:=hm x hq
 obtain ⟨j1,j2⟩:=Z3v hh' hm4
 have hft:(Zm (Xc (rs x))).take (m x*5)=Zm (Xc ((rs x).take (m x))):=by
  have e1:rs x=(rs x).take (m x)++(rs x).drop (m x):=(UC _ _).symm
  have e2:Zm (Xc (rs x))=Zm (Xc ((rs x).take (m x)))++Zm (Xc ((rs x).drop (m x))):=by
   conv=>lhs;rw [e1]
   rw [R7,TD]
  rw [e2,List.take_append_of_le_length (by rw [FK,Wp,show min (m x) (rs x).length=m x by omega];exact Xa _),Vb (by rw [FK,Wp];exact TQ 5 (Nat.min_le_left _ _))]
 rw [hft] at j1 j2
 obtain ⟨G2,h1,h2,h3⟩:=BM j1 (Dq _) om
 have hA:Vt G' w' w' G2:=h2.agree j1
 refine ⟨u,_,hs x,G2,he,⟨x,rfl,rfl,hq⟩,?_,(h1.perm (List.perm_append_comm (l₁:=[_]))).left,((hx.trans j2).trans h2).sub' (Ar _ _)⟩
 cases hr with
 | agg hc=>
  cases hc with
  | cons k1 t1=>
   cases t1 with
   | cons k2 t2=>
    cases t2
    have hv2:=k2.val_inv
    subst hv2
    refine .agg (.cons (k1.mono hA) (.cons ?_ .nil))
    have hw:Zg (.sl (Xc ((rs x).take (m x))) (some (.slice (some ⟨gb,0,none⟩) (m x) 4))) (BF ((rs x).take (m x))):=Zg.forget _ _
    exact hw _ _ _ h3
open Go.Proofs
theorem Z2h {xs:List Int} {k:Nat} {n x:Int} (h:n∉xs.take k) (hx:xs[k]? = some x) (hn:¬x=n):n∉xs.take (k+1):=by
 rw [List.take_add_one,hx]
 simp only [Option.toList_some,Xe,XN]
 exact fun q=>q.elim h fun q=>hn q.symm
theorem Z2a {xs:List Int} {k:Nat} {n x:Int} (hx:xs[k]? = some x) (hn:x=n):n∈xs:=hn▸Y7 hx
theorem Uz (n:Int) (low:Int) (high:Int) :Zk Tryz.prog 82 [.i n,.i low,.i high] [] (fun r h=>r=.b (decide (low<=n/\n<=high))/\h=[]):=by
 refine ZL 15 Tryz.func82 (ar (ir 1 [(0,.i n),(1,.i low),(2,.i high)] (ie (ar (XH 8 [(14,.b ((decide (low<=n))&&(decide (n<=high))))] [] ?_ (fun hj1=>?_))))))
 ·refine ir 1 [(6,.b ((decide (low<=n))&&(decide (n<=high))))] (ie ?_)
  exact Zc (r2 [] [.b ((decide (low<=n))&&(decide (n<=high)))] ⟨rfl,rfl⟩ (lb (by rw [Xo];simp)))
 refine ir 4 [(0,.i n),(2,.i high),(10,.b (decide (low<=n)))] (ib (b:=(decide (low<=n))) 10 (fun Zb=>?_) (fun Zb=>?_))
 ·have ZP:low<=n:=(dq).1 Zb
  refine ir 4 [(14,.b (decide (n<=high)))] ?_
  exact YC (wk [] (Zs (decide (n<=high)) Zb fl)) hj1
 have Y1:¬(low<=n):=ZF dq Zb
 refine ir 4 [(14,.b false)] ?_
 exact YC (wk [] (Zs false Zb fl)) hj1
theorem U3 (xs:List Int) (n:Int) (hlen:xs.length<=4294967296:=by exact ob):Zk Tryz.prog 205 [Z0 xs,.i n] [] (fun r h=>r=.b (decide (n∈xs))/\h=[]):=by
 refine ZL 18 Tryz.func205 (ar (ir 1 [(0,Z0 xs),(1,.i n)] (ie (aq (ar (Z1 1 5 (.i 0) (ie (ab 0 (al (fun m F h=>∃(k:Nat),(k<=xs.length)/\(n∉xs.take k)/\F=[(0,Z0 xs),(1,.i n),(5,.i k)]/\h=[]/\m=xs.length-k) _ _ _ ⟨0,ob,ob,rfl,rfl,rfl⟩ (wk [] (fw (Yh fl))) ?_)))))))))
 rintro m F h ⟨k,Yo,Zp,rfl,rfl,rfl⟩
 refine aq (ar (Yq 2 6 (.i k) 7 (Z0 xs) (iw (Yf xs) (Z1 1 9 (.b (decide ((k:Int)<(xs.length:Int)))) (ie (ZT ((k:Int)<(xs.length:Int)) (fun Ze=>?_) (fun Ze=>?_)))))))
 ·refine ak (aq (ab 1 (ar (Yq 2 12 (Z0 xs) 13 (.i k) ?_))))
  obtain ⟨x1,Z3⟩:=Zu (xs:=xs) (j:=k) om
  refine Zq (Zn none (k:Int) 1 (Y4 Z3)) (Z1 3 17 (.b (x1==n)) (ie (ac (x1==n) Zh (fun Zl=>?_) (fun Zl=>?_))))
  ·refine ar (ir 1 [(4,.b true)] (ie ?_))
   exact Zc (r2 [] [.b true] ⟨rfl,rfl⟩ (lb (by rw [eq_comm,dq];exact Z2a Z3 Zl)))
  refine ak (az (Z1 1 10 (.i k) (ZO k (ir 1 [(0,Z0 xs),(1,.i n),(5,.i (k+1:Nat))] (ie ?_)))))
  exact ZU ⟨k+1,ob,(Z2h Zp Z3 Zl),rfl,rfl,rfl⟩ (wk [] (fw (ZW k fl)))
 refine ax 0 (ar (ir 1 [(4,.b false)] (ie ?_)))
 have hke:k=xs.length:=by omega
 exact Zc (r2 [] [.b false] ⟨rfl,rfl⟩ (lb (by rw [eq_comm,decide_eq_false_iff_not];rw [hke,WP] at Zp;exact Zp)))
theorem VJ (xs:List Int) (hlen:xs.length<=4294967296:=by exact ob):Zk Tryz.prog 51 [Z0 xs] [] (fun r h=>∃(v:Value),r=Z7 xs v/\h=[.tail v 1]):=by
 refine ZL 6 Tryz.func51 (ar (ir 1 [(0,Z0 xs)] (ie (ar (iL (Z8 []) 0 1 ?_)))))
 intro v1
 refine Z1 1 4 (Z0 xs) (ip 0 (Z8 xs) (Z8 []) (Z8 xs) v1 none 1 (YE _) (YE _) (XY _) (by simp<;>omega) (by simp [Z8]) ?_)
 intro v2
 refine ir 1 [(2,Z7 xs v2)] (ie ?_)
 exact Zc (r1 [0] ⟨v2,rfl,rfl⟩)
theorem Hf (ds:List Zf) (n:Nat) (hd:Wd ds:=by exact ob) (hn:n<=ds.length:=by exact ob):Zk Tryz.prog 173 [Zd ds,.i n] [] (fun r h=>r=.i ((Ys (ds.take n):Nat):Int)/\h=[]):=by
 refine ZL 21 Tryz.func173 (ar (ir 1 [(0,Zd ds),(1,.i n)] (ie (ar (Z1 1 5 (.i 0) (ie (aq (ar (Z1 1 6 (.i 0) (ie (ab 0 (al (fun m F h=>∃(k:Nat),(k<=n)/\F=[(0,Zd ds),(1,.i n),(5,.i ((Ys (ds.take k):Nat):Int)),(6,.i k)]/\h=[]/\m=n-k) _ _ _ ⟨0,ob,rfl,rfl,rfl⟩ (wk [] (fw (Yh (Yh fl)))) ?_))))))))))))
 rintro m F h ⟨k,Yo,rfl,rfl,rfl⟩
 refine aq (ar (Z1 3 9 (.b (decide ((k:Int)<(n:Int)))) (ie (ZT ((k:Int)<(n:Int)) (fun Ze=>?_) (fun Ze=>?_)))))
 ·refine ak (aq (ab 1 (az (Z6 3 (.n 12 (.i ((Ys (ds.take k):Nat):Int)) (.n 13 (Zd ds) (.n 14 (.i k) .r))) ?_))))
  obtain ⟨x1,Z3⟩:=Zu (xs:=ds) (j:=k) om
  refine Zq (Zn none (k:Int) 3 (Vl Z3)) (Z1 2 17 (W6 x1.cons) (iw (Ua x1.cons) (ia ((((Ys (ds.take k))+x1.cons.length:Nat):Int)) ((((Ys (ds.take k):Nat):Int))+((x1.cons.length:Int))) (hb:=(by have h1:=hd.cons_at Z3;have h2:=(hd.take k).sum;omega)) (Z6 1 (.n 5 (.i (((Ys (ds.take k))+x1.cons.length:Nat):Int)) (.p (.p (.d (.p (.d (.d (.d (.d (.k (.k (.d .r)))))))))))) (ie (az (Z1 1 10 (.i k) (ZO k (hb:=(by have:=hd.len;omega)) (Z6 1 (.n 6 (.i (k+1:Nat)) (.p (.d (.k (.k (.k .z)))))) (ie ?_))))))))))
  have hsn:Ys (ds.take (k+1))=Ys (ds.take k)+x1.cons.length:=by rw [WS Z3,C5];simp [Ys]
  exact ZU ⟨k+1,ob,rfl,rfl,rfl⟩ (wk [] (fw (fc (x:=.i (((Ys (ds.take k))+x1.cons.length:Nat):Int)) li (ZW k fl))))
 refine ax 0 (ar (ir 2 [(4,.i ((Ys (ds.take k):Nat):Int))] (ie ?_)))
 have hke:k=n:=by omega
 subst hke
 exact Zc (r2 [] [.i ((Ys (ds.take k):Nat):Int)] ⟨rfl,rfl⟩ li)
theorem He (ds:List Zf) (c:Int) (hd:Wd ds:=by exact ob):Zk Tryz.prog 137 [Zd ds,.i c] [] (fun r h=>r=.i (Xt ds c)/\h=[]):=by
 refine ZL 30 Tryz.func137 (ar (ir 1 [(0,Zd ds),(1,.i c)] (ie (aq (ar (Z1 1 5 (.i 0) (ie (ab 0 (al (fun m F h=>∃(k:Nat),(k<=ds.length)/\((Un c (ds.drop k) k (Ys (ds.take k))).1=Xt ds c)/\F=[(0,Zd ds),(1,.i c),(5,.i k)]/\h=[]/\m=ds.length-k) _ _ _ ⟨0,ob,(by rfl),rfl,rfl,rfl⟩ (wk [] (fw (Yh fl))) ?_)))))))))
 rintro m F h ⟨k,Yo,Zp,rfl,rfl,rfl⟩
 refine aq (ar (Yq 2 7 (.i k) 8 (Zd ds) (iw (VQ ds) (Z1 1 10 (.b (decide ((k:Int)<(ds.length:Int)))) (ie (ZT ((k:Int)<(ds.length:Int)) (fun Ze=>?_) (fun Ze=>?_)))))))
 ·refine ak (aq (ab 1 (ar (Yq 2 13 (Zd ds) 14 (.i k) (Zz [] (Hf ds k) (Z1 1 6 (.i ((Ys (ds.take k):Nat):Int)) (ie (ar (Z6 5 (.n 16 (.i c) (.n 17 (.i ((Ys (ds.take k):Nat):Int)) (.n 18 (.i ((Ys (ds.take k):Nat):Int)) (.n 19 (Zd ds) (.n 20 (.i k) .r))))) ?_)))))))))
  obtain ⟨x1,Z3⟩:=Zu (xs:=ds) (j:=k) om
  refine Zq (Zn none (k:Int) 3 (Vl Z3)) (Z1 2 23 (W6 x1.cons) (iw (Ua x1.cons) (ia ((((Ys (ds.take k))+x1.cons.length:Nat):Int)) ((((Ys (ds.take k):Nat):Int))+((x1.cons.length:Int))) (hb:=(by have h1:=hd.cons_at Z3;have h2:=(hd.take k).sum;omega)) (ia (((((Ys (ds.take k))+x1.cons.length:Nat):Int)-1)) (((((Ys (ds.take k))+x1.cons.length:Nat):Int))-(1)) (hb:=(by have h1:=hd.cons_at Z3;have h2:=(hd.take k).sum;omega)) (Zz [] (Uz c ((Ys (ds.take k):Nat):Int) ((((Ys (ds.take k))+x1.cons.length:Nat):Int)-1)) (ie (ZT (((Ys (ds.take k):Nat):Int)<=c/\c<=((((Ys (ds.take k))+x1.cons.length:Nat):Int)-1)) (fun Zl=>?_) (fun Zl=>?_))))))))
  ·refine ar (ir 1 [(28,.i k)] (ZO k (hb:=(by have h2:=hd.len;omega)) (ir 1 [(4,.i (k+1:Nat))] (ie ?_))))
   exact Zc (r2 [] [.i (k+1:Nat)] ⟨rfl,rfl⟩ (li (by rw [<-Zp,Yd Z3,Un,Zj Zl];rfl)))
  refine ak (az (Z1 1 11 (.i k) (ZO k (hb:=(by have h2:=hd.len;omega)) (ir 1 [(0,Zd ds),(1,.i c),(5,.i (k+1:Nat))] (ie ?_)))))
  have hdr:=Yd Z3
  exact ZU ⟨k+1,ob,(by rw [hdr] at Zp;rw [<-Zp,Un,Za Zl,WS Z3,C5];rfl),rfl,rfl,rfl⟩ (wk [] (fw (ZW k fl)))
 refine ax 0 (ar (ir 1 [(4,.i (-1))] (ie ?_)))
 exact Zc (r2 [] [.i (-1)] ⟨rfl,rfl⟩ (li (by rw [<-Zp,Xz om];rfl)))
theorem Ql (ds:List Zf) (c:Int) (hd:Wd ds:=by exact ob):Zk Tryz.prog 138 [Zd ds,.i c] [] (fun r h=>r=Z0 (Zw ds c)/\h=[]):=by
 refine ZL 27 Tryz.func138 (ar (ir 1 [(0,Zd ds),(1,.i c)] (ie (ar (Yq 2 6 (Zd ds) 7 (.i c) (Zz [] (He ds c) (Z1 1 5 (.i (Xt ds c)) (ie (aq (ar (Z1 2 10 (.b (decide ((Xt ds c)<1))) (ie (ZT ((Xt ds c)<1) (fun Ze=>?_) (fun Ze=>?_))))))))))))))
 ·refine ar (iL (Z8 []) 0 1 ?_)
  intro v1
  refine ir 1 [(4,Z7 [] v1)] (ie ?_)
  exact Zc (r2 [] [Z7 [] v1] ⟨rfl,rfl⟩ (Zg.sl _ (Yw Z8 (by rw [(Dl Ze).1]))))
 obtain ⟨k,d,x,hk1,hk2,hk3,hk4,hk5⟩:=Fg Ze
 have hkl:=(XM.1 hk1).1
 have hxl:=(XM.1 hk3).1
 have hsm:=(hd.take k).sum
 have hdl:=hd.cons_at hk1
 have hdn:=hd.len
 refine ak (aD 16 (ZZ 14 16 [0,1] (.n 12 (Zd ds) (.n 13 (.i (Xt ds c)) .r)) (da 2 ((k:Int)) ((Xt ds c)-(1)) (hb:=(by have:=hd.len;omega)) ?_)))
 obtain ⟨x1,Z3⟩:=Zu (xs:=ds) (j:=k) om
 have hxe:x1=d:=by rw [hk1] at Z3;exact (JE Z3).symm
 subst hxe
 refine dx 3 (Zn none (k:Int) 3 (Vl Z3)) (Xd 7 12 [4,5,6,7,8] [(17,W6 x1.cons),(18,.i c),(19,Zd ds),(20,.i (Xt ds c))] (da 9 ((k:Int)) ((Xt ds c)-(1)) (hb:=(by have:=hd.len;omega)) (Z9 10 (Yv 10 [] [] [] (Hf ds k) (da 11 ((c-((Ys (ds.take k):Nat):Int))) ((c)-(((Ys (ds.take k):Nat):Int))) ?_)))))
 obtain ⟨x2,Zy⟩:=Zu (xs:=x1.cons) (j:=(c-((Ys (ds.take k):Nat):Int)).toNat) om
 have hxe:x2=x:=by rw [show (c - ↑(Ys (ds.take k))).toNat=(c-Ys (ds.take k)).toNat from rfl,hk3] at Zy;exact (JE Zy).symm
 subst hxe
 refine dx 12 (Zn none (c-((Ys (ds.take k):Nat):Int)) 1 (Bk Zy)) (Xd 0 3 [13,14,15] [(4,Z0 x2.fields)] (de ?_))
 exact Zc (r2 [] [Z0 x2.fields] ⟨rfl,rfl⟩ (Zg.sl _ (Yw Z8 hk5.symm)))
theorem KO (ds:List Zf) (t:Int) (hd:Wd ds:=by exact ob):Zk Tryz.prog 174 [Zd ds,.i t] [] (fun r h=>∃(v:Value),r=Z7 (Zt ds t) v/\h=[.tail v 1]):=by
 have hdn:=hd.len
 refine ZL 35 Tryz.func174 (ar (ir 1 [(0,Zd ds),(1,.i t)] (ie (ar (iL (Z8 []) 0 1 ?_)))))
 intro v1
 refine Z1 1 5 (Z7 [] v1) (ie (aq (ar (Yq 2 8 (.i t) 9 (Zd ds) (iw (VQ ds) (Zz [] (Uz t 1 (ds.length:Int)) (Z1 1 12 (.b (!(decide (1<=t/\t<=(ds.length:Int))))) (ie (ac (!(decide (1<=t/\t<=(ds.length:Int)))) (p:=¬(1<=t/\t<=(ds.length:Int))) (Yp dq) (fun Ze=>?_) (fun Ze=>?_))))))))))
 ·refine ar (ir 2 [(4,Z7 [] v1)] (ie ?_))
  exact Zc (r2 [0] [Z7 [] v1] ⟨v1,rfl,rfl⟩ (Zg.slh _ (Yw Z8 (by simp [Zt];omega))))
 have Ze:1<=t/\t<=ds.length:=by simpa using Ze
 obtain ⟨d,hd1⟩:=Zu (xs:=ds) (j:=(t-1).toNat) om
 have hdc:=hd.cons_at hd1
 have hsm:=(hd.take (t-1).toNat).sum
 refine ak (aq (ar (Z1 1 6 (.i 0) (ie (ab 0 (al (fun m F h=>∃(k:Nat) (v:Value),(k<=d.cons.length)/\F=[(0,Zd ds),(1,.i t),(5,Z7 (WA (Ys (ds.take (t-1).toNat)) k) v),(6,.i k)]/\h=[.tail v 1]/\m=d.cons.length-k) _ _ _ ⟨0,v1,(by first|omega|rfl|(simp<;>omega)|grind [Zt,WA]),rfl,rfl,rfl⟩ (wk [0] (fw (fc (x:=Z7 [] v1) (Zg.slh _ (Yw Z8 (by first|omega|rfl|(simp<;>omega)|grind [Zt,WA]))) (fc (x:=.i 0) (li (by first|omega|rfl|(simp<;>omega)|grind [Zt,WA])) fl)))) ?_))))))
 rintro m F h ⟨k,v,Yo,rfl,rfl,rfl⟩
 refine aq (ar (Z6 3 (.n 14 (.i k) (.n 15 (Zd ds) (.n 16 (.i t) .r))) (ia ((((t-1).toNat:Nat):Int)) ((t)-(1)) (Zq (Zn none (((t-1).toNat:Nat):Int) 3 (Vl hd1)) (Z1 2 20 (W6 d.cons) (iw (Ua d.cons) (Z1 1 22 (.b (decide ((k:Int)<(d.cons.length:Int)))) (ie (ZT ((k:Int)<(d.cons.length:Int)) (fun Zl=>?_) (fun Zl=>?_))))))))))
 ·refine ak (aq (ab 1 (az (Z6 3 (.n 25 (Z7 (WA (Ys (ds.take (t-1).toNat)) k) v) (.n 26 (Zd ds) (.n 27 (.i t) .r))) (ia ((((t-1).toNat:Nat):Int)) ((t)-(1)) (Zz [] (Hf ds ((t-1).toNat) (hd:=(by first|omega|rfl|(simp<;>omega)|grind [Zt,WA])) (hn:=(by first|omega|rfl|(simp<;>omega)|grind [Zt,WA]))) (Z1 1 30 (.i k) (ia ((((Ys (ds.take ((t-1).toNat)))+k:Nat):Int)) ((((Ys (ds.take ((t-1).toNat)):Nat):Int))+((k:Int))) (iL (Z8 [(((Ys (ds.take ((t-1).toNat)))+k:Nat):Int)]) 1 1 ?_)))))))))
  intro v2
  refine Z6 0 (.n 32 (Z0 [(((Ys (ds.take ((t-1).toNat)))+k:Nat):Int)]) (.p .r)) (ip 1 (Z8 (WA (Ys (ds.take (t-1).toNat)) k++[(((Ys (ds.take ((t-1).toNat)))+k:Nat):Int)])) (Z8 (WA (Ys (ds.take (t-1).toNat)) k)) (Z8 [(((Ys (ds.take ((t-1).toNat)))+k:Nat):Int)]) v none 1 (YE _) (YE _) (XY _) (by simp<;>omega) (by simp [XX,Z8]) ?_)
  intro v3
  refine ir 1 [(0,Zd ds),(1,.i t),(5,Z7 (WA (Ys (ds.take (t-1).toNat)) k++[(((Ys (ds.take ((t-1).toNat)))+k:Nat):Int)]) v3),(6,.i k)] (ie (az (Z1 1 23 (.i k) (ZO k (Z6 1 (.n 6 (.i (k+1:Nat)) (.p (.d (.k (.k (.k .z)))))) (ie ?_))))))
  exact ⟨_,_,_,(by first|omega|rfl|(simp<;>omega)|grind [Zt,WA]),⟨k+1,v3,(by first|omega|rfl|(simp<;>omega)|grind [Zt,WA]),rfl,rfl,rfl⟩,(wk [0] (fw (fc (x:=Z7 (WA (Ys (ds.take (t-1).toNat)) k++[(((Ys (ds.take ((t-1).toNat)))+k:Nat):Int)]) v3) (Zg.slh _ (Yw Z8 (Mc _ _).symm)) (fc (x:=.i (k+1:Nat)) (li (by first|omega|rfl|(simp<;>omega)|grind [Zt,WA])) fl))))⟩
 refine ax 0 (ar (ir 2 [(4,Z7 (WA (Ys (ds.take (t-1).toNat)) k) v)] (ie ?_)))
 exact Zc (r2 [0] [Z7 (WA (Ys (ds.take (t-1).toNat)) k) v] ⟨v,rfl,rfl⟩ (Zg.slh _ (Yw Z8 (by rw [Zt,Zj Ze,hd1,show k=d.cons.length by omega];rfl))))
theorem Nk (ds:List Zf) (frm:Int) (to_:Int) (hl_ds:ds.length<=4294967296:=by exact ob):Zk Tryz.prog 176 [Zd ds,.i frm,.i to_] [] (fun r h=>r=.i (WX ds frm to_)/\h=[]):=by
 refine ZL 41 Tryz.func176 (ar (ir 1 [(0,Zd ds),(1,.i frm),(2,.i to_)] (ie (aq (ar (Z1 1 7 (.i 0) (ie (ab 0 (al (fun m F h=>∃(k:Nat),(k<=ds.length)/\(Qb frm to_ (ds.drop k) k=WX ds frm to_)/\F=[(0,Zd ds),(1,.i frm),(2,.i to_),(7,.i k)]/\h=[]/\m=ds.length-k) _ _ _ ⟨0,ob,ob,rfl,rfl,rfl⟩ (wk [] (fw (fr (Yh fl)))) ?_)))))))))
 rintro m F h ⟨k,Yo,Zp,rfl,rfl,rfl⟩
 refine aq (ar (Yq 2 8 (.i k) 9 (Zd ds) (iw (VQ ds) (Z1 1 11 (.b (decide ((k:Int)<(ds.length:Int)))) (ie (ZT ((k:Int)<(ds.length:Int)) (fun Ze=>?_) (fun Ze=>?_)))))))
 ·refine ak (aq (ab 1 (ar (Yq 2 14 (Zd ds) 15 (.i k) ?_))))
  obtain ⟨x1,Z3⟩:=Zu (xs:=ds) (j:=k) om
  refine Zq (Zn none (k:Int) 3 (Vl Z3)) (Z1 2 18 (W6 x1.cons) (iw (Ua x1.cons) (XH 16 [(0,Zd ds),(1,.i frm),(2,.i to_),(7,.i k),(29,.b (((x1.cons.length:Int)==0)&&(x1.frm==frm)))] [] ?_ (fun hj1=>?_))))
  ·refine Xm [(0,Zd ds),(1,.i frm),(2,.i to_),(7,.i k),(38,.b ((((x1.cons.length:Int)==0)&&(x1.frm==frm))&&(x1.to_==to_)))] [] ?_ ?_
   ·refine ir 1 [(0,Zd ds),(1,.i frm),(2,.i to_),(7,.i k),(30,.b (((x1.cons.length:Int)==0)&&(x1.frm==frm)))] (ib (b:=(((x1.cons.length:Int)==0)&&(x1.frm==frm))) 30 (fun Zb=>?_) (fun Zb=>?_))
    ·have ZP:((x1.cons.length:Int)=0)/\(x1.frm=frm):=((YF Zh Zh)).1 Zb
     refine Z6 2 (.n 31 (Zd ds) (.n 32 (.i k) (.w (.k .z)))) (Zq (Zn none (k:Int) 3 (Vl Z3)) (Z1 5 38 (.b (x1.to_==to_)) (ie ?_)))
     exact wk [] (fq (Zs (x1.to_==to_) Zb fl))
    have Y1:¬(((x1.cons.length:Int)=0)/\(x1.frm=frm)):=ZF (YF Zh Zh) Zb
    refine Z6 8 (.n 38 (.b false) (.d (.w .z))) (ie ?_)
    exact wk [] (fq (Zs false Zb fl))
   refine ac ((((x1.cons.length:Int)==0)&&(x1.frm==frm))&&(x1.to_==to_)) (p:=(((x1.cons.length:Int)=0)/\(x1.frm=frm))/\(x1.to_=to_)) (YF (YF Zh Zh) Zh) (fun Zl=>?_) (fun Zl=>?_)
   ·refine ar (ir 1 [(39,.i k)] (ZO k (ir 1 [(6,.i (k+1:Nat))] (ie ?_))))
    rw [Yd Z3] at Zp
    exact Zc (r2 [] [.i (k+1:Nat)] ⟨rfl,rfl⟩ (li (by clear Z3;first|rfl|omega|grind [Qb])))
   refine ak (az (ir 1 [(0,Zd ds),(1,.i frm),(2,.i to_),(12,.i k)] (ZO k (Z1 1 7 (.i (k+1:Nat)) (ie ?_)))))
   have hdr:=Yd Z3
   exact ZU ⟨k+1,ob,(by rw [hdr] at Zp;clear hdr Z3;grind [Qb]),rfl,rfl,rfl⟩ (wk [] (fw (fr (ZW k fl))))
  refine ir 2 [(0,Zd ds),(1,.i frm),(2,.i to_),(7,.i k),(21,.b ((x1.cons.length:Int)==0))] (ib (b:=((x1.cons.length:Int)==0)) 21 (fun Zv=>?_) (fun Zv=>?_))
  ·have YB:(x1.cons.length:Int)=0:=(Zh).1 Zv
   refine Z6 2 (.n 22 (Zd ds) (.n 23 (.i k) (.w (.k .z)))) (Zq (Zn none (k:Int) 3 (Vl Z3)) (Z1 5 29 (.b (x1.frm==frm)) ?_))
   exact YC (wk [] (fq (Zs (x1.frm==frm) Zv fl))) hj1
  have YM:¬((x1.cons.length:Int)=0):=ZF Zh Zv
  refine Z6 8 (.n 29 (.b false) (.d (.w .z))) ?_
  exact YC (wk [] (fq (Zs false Zv fl))) hj1
 refine ax 0 (ar (ir 1 [(6,.i (-1))] (ie ?_)))
 try rw [Xz (xs:=ds) (k:=k) om] at Zp
 exact Zc (r2 [] [.i (-1)] ⟨rfl,rfl⟩ (li (by first|rfl|omega|grind [Qb])))
theorem CR (ds:List Zf) (t:Int) (hd:Wd ds:=by exact ob):Zk Tryz.prog 141 [Zd ds,.i t] [] (fun r h=>r=.b (X7 ds t)/\h=[]):=by
 have hdn:=hd.len
 refine ZL 19 Tryz.func141 (ar (ir 1 [(0,Zd ds),(1,.i t)] (ie (ar (Yq 2 5 (.i t) 6 (Zd ds) (iw (VQ ds) (Zz [] (Uz t 1 (ds.length:Int)) (Z1 1 9 (.b (decide (1<=t/\t<=(ds.length:Int)))) (ib (b:=(decide (1<=t/\t<=(ds.length:Int)))) 9 (fun Zb=>?_) (fun Zb=>?_))))))))))
 ·have ZP:1<=t/\t<=(ds.length:Int):=(dq).1 Zb
  refine Z6 2 (.n 10 (Zd ds) (.n 11 (.i t) (.k .z))) (ia ((t-1)) ((t)-(1)) ?_)
  obtain ⟨x1,Z3⟩:=Zu (xs:=ds) (j:=(t-1).toNat) om
  refine Zq (Zn none (t-1) 3 (Vl Z3)) (Z1 2 15 (W6 x1.cons) (iw (Ua x1.cons) (ir 3 [(4,.b ((x1.cons.length:Int)==0))] (ie ?_))))
  exact Zc (r2 [] [.b ((x1.cons.length:Int)==0)] ⟨rfl,rfl⟩ (lb (by first|omega|rfl|(rw [DW ZP Z3])|exact Gh Y1)))
 have Y1:¬(1<=t/\t<=(ds.length:Int)):=ZF dq Zb
 refine ir 10 [(4,.b false)] (ie ?_)
 exact Zc (r2 [] [.b false] ⟨rfl,rfl⟩ (lb (by first|omega|rfl|(rw [DW ZP Z3])|exact Gh Y1)))
theorem Q5 (xs:List Int) (ys:List Int) (hl:xs.length+ys.length<=4294967296:=by exact ob):Zk Tryz.prog 175 [Z0 xs,Z0 ys] [] (fun r h=>∃(v:Value),r=Z7 (xs++ys) v/\h=[.tail v 1]):=by
 refine ZL 9 Tryz.func175 (ar (ir 1 [(0,Z0 xs),(1,Z0 ys)] (ie (ar (Z1 1 5 (Z0 xs) (ic [] (VJ xs) ?_))))))
 rintro _ _ ⟨v1,rfl,rfl⟩
 refine Z1 1 7 (Z0 ys) (ip 0 (Z8 (xs++ys)) (Z8 xs) (Z8 ys) v1 none 1 (YE _) (YE _) (XY _) (by simp<;>omega) (by simp [XX,Z8]) ?_)
 intro v2
 refine ir 1 [(4,Z7 (xs++ys) v2)] (ie ?_)
 exact Zc (r1 [0] ⟨v2,rfl,rfl⟩)
theorem Hb (ds:List Zf) (xs:List Int) (hl_ds:ds.length<=4294967296:=by exact ob) (hl_xs:xs.length<=4294967296:=by exact ob):Zk Tryz.prog 58 [Zd ds,Z0 xs] [] (fun r h=>r=.b (X1 ds.length xs)/\h=[]):=by
 refine ZL 20 Tryz.func58 (ar (ir 1 [(0,Zd ds),(1,Z0 xs)] (ie (aq (ar (Z1 1 5 (.i 0) (ie (ab 0 (al (fun m F h=>∃(k:Nat),(k<=xs.length)/\(X1 ds.length (xs.drop k)=X1 ds.length xs)/\F=[(0,Zd ds),(1,Z0 xs),(5,.i k)]/\h=[]/\m=xs.length-k) _ _ _ ⟨0,ob,ob,rfl,rfl,rfl⟩ (wk [] (fw (Yh fl))) ?_)))))))))
 rintro m F h ⟨k,Yo,Zp,rfl,rfl,rfl⟩
 refine aq (ar (Yq 2 6 (.i k) 7 (Z0 xs) (iw (Yf xs) (Z1 1 9 (.b (decide ((k:Int)<(xs.length:Int)))) (ie (ZT ((k:Int)<(xs.length:Int)) (fun Ze=>?_) (fun Ze=>?_)))))))
 ·refine ak (aq (ab 1 (ar (Yq 2 12 (Z0 xs) 13 (.i k) ?_))))
  obtain ⟨x1,Z3⟩:=Zu (xs:=xs) (j:=k) om
  refine Zq (Zn none (k:Int) 1 (Y4 Z3)) (Yq 2 15 (.i x1) 16 (Zd ds) (iw (VQ ds) (Zz [] (Uz x1 0 (ds.length:Int)) (Z1 1 19 (.b (!(decide (0<=x1/\x1<=(ds.length:Int))))) (ie (ac (!(decide (0<=x1/\x1<=(ds.length:Int)))) (p:=¬(0<=x1/\x1<=(ds.length:Int))) (Yp dq) (fun Zl=>?_) (fun Zl=>?_)))))))
  ·refine ar (ir 1 [(4,.b false)] (ie ?_))
   rw [Yd Z3] at Zp
   exact Zc (r2 [] [.b false] ⟨rfl,rfl⟩ (lb (by clear Z3;first|rfl|omega|grind [X1])))
  refine ak (az (Z1 1 10 (.i k) (ZO k (ir 1 [(0,Zd ds),(1,Z0 xs),(5,.i (k+1:Nat))] (ie ?_)))))
  have hdr:=Yd Z3
  exact ZU ⟨k+1,ob,(by rw [hdr] at Zp;clear hdr Z3;grind [X1]),rfl,rfl,rfl⟩ (wk [] (fw (ZW k fl)))
 refine ax 0 (ar (ir 1 [(4,.b true)] (ie ?_)))
 try rw [Xz (xs:=xs) (k:=k) om] at Zp
 exact Zc (r2 [] [.b true] ⟨rfl,rfl⟩ (lb (by first|rfl|omega|grind [X1])))
theorem Sr (code:List Int) (hl:code.length<=1048576:=by exact ob) (hc:∀z∈code,0<=z/\z<=255):Zk Tryz.prog 48 [Xb code] [] (fun r h=>∃(rd:Nat) (bs:List Int),r=.p rd 0/\h=[.obj rd [Xb bs,.i 0]]/\∀z∈bs,0<=z/\z<=255):=by
 refine ZL 11 Tryz.func48 (ar (ir 1 [(0,Xb code)] (ie (aq (ar (Z1 1 3 (Xb code) (iw (QC code) (Z1 1 5 (.b (decide ((code.length:Int)>2000))) (ie (XJ (fun F h=>F=[(0,Xb (if (code.length:Int)>2000 then (code.take 2000) else code))]/\h=[]) ?_ ?_))))))))))
 ·refine ZT ((code.length:Int)>2000) (fun Ze=>?_) (fun Ze=>?_)
  ·refine az (ir 1 [(6,Xb code)] (Zq (Qo (es:=T6 code) (hv:=none) (l:=0) (m:=2000) (sz:=1) (es':=T6 (code.take 2000)) kr om (by simp<;>omega) (by simp<;>omega) (R0 _) (by first|(simp only [Vh,WP,Fv,Fu];done)|(simp only [Vh,WP,Fv,Fu];rfl)|(simp [Fv,Fu];done))) (ir 1 [(0,Xb (code.take 2000))] (ie ?_))))
   exact ZV ⟨rfl,rfl⟩ (wk [] (fc (x:=Xb (code.take 2000)) (Zg.sl _ (Yw T6 (by first|rfl|(rw [Zj Ze])|(rw [Za Ze])|(simp [Ze];done)|(rw [Xo];simp [Ze];done)|omega))) fl))
  refine ak ?_
  exact ZV ⟨rfl,rfl⟩ (wk [] (fc (x:=Xb code) (Zg.sl _ (Yw T6 (by first|rfl|(rw [Zj Ze])|(rw [Za Ze])|(simp [Ze];done)|(rw [Xo];simp [Ze];done)|omega))) fl))
 rintro F h ⟨rfl,rfl⟩
 refine ar (ir 2 [(9,.agg [Xb (if (code.length:Int)>2000 then (code.take 2000) else code),.i 0])] (iA [Xb (if (code.length:Int)>2000 then (code.take 2000) else code),.i 0] ?_))
 intro b1
 refine ir 1 [(2,.p b1 0)] (ie ?_)
 exact Zc (r1 [0] ⟨b1,(if (code.length:Int)>2000 then (code.take 2000) else code),rfl,rfl,(by first|exact hc|exact fun z hz=>hc z (TP hz)|(split<;>first|exact hc|exact fun z hz=>hc z (TP hz)))⟩)
theorem XP (rd:Nat) (bs:List Int) (p:Nat) (mx:Int) (ZD:∀z∈bs,0<=z/\z<=255) (hp:p+1<=1000000000:=by exact ob):Zk Tryz.prog 50 [.p rd 0,.i mx] [Yl rd bs p] (fun r h=>∃(k:Int),r=.i k/\h=[.obj rd [Xb bs,.i (p+1:Nat)]]/\Pk mx k):=by
 refine ZL 99 Tryz.func50 (ar (ir 1 [(0,.p rd 0),(1,.i mx)] (ie (ar (ZY 5 7 (.p rd 0) 11 (.i p) [0] [rd] (ZO p (Z1 2 14 (.p rd 1) (ZG 0 rd [Xb bs,.i (p+1:Nat)] (ie (aq (ar (Xm [(0,.p rd 0),(1,.i mx),(24,.b ((decide (mx<1))||((bs.length:Int)==0)))] [.obj rd [Xb bs,.i (p+1:Nat)]] ?_ ?_))))))))))))
 ·refine ir 3 [(0,.p rd 0),(1,.i mx),(17,.b (decide (mx<1)))] (ib (b:=(decide (mx<1))) 17 (fun Zb=>?_) (fun Zb=>?_))
  ·have ZP:mx<1:=(dq).1 Zb
   refine Z6 7 (.n 24 (.b true) (.d (.k (.k .z)))) (ie ?_)
   exact wk [0] (fw (Zs true Zb fl))
  have Y1:¬(mx<1):=ZF dq Zb
  refine Y0 4 (.n 21 (Xb bs) (.k (.k (.k .z)))) [0] [rd] (iw (QC bs) (Z1 2 24 (.b ((bs.length:Int)==0)) (ie ?_)))
  exact wk [0] (fw (Zs ((bs.length:Int)==0) Zb fl))
 refine ac ((decide (mx<1))||((bs.length:Int)==0)) (p:=(mx<1)∨((bs.length:Int)=0)) (Yc dq Zh) (fun Ze=>?_) (fun Ze=>?_)
 ·refine ar (ir 1 [(4,.i 0)] (ie ?_))
  exact Zc (r1 [0] ⟨0,rfl,rfl,Pk.zero⟩)
 refine ak (ar (iR 4 [(0,.p rd 0),(1,.i mx),(28,.i (p+1:Nat))] [0] [rd] (ia ((p:Int)) ((((p+1:Nat):Int))-(1)) (Z1 1 5 (.i p) (ie (aq (ar (ZY 5 30 (.i p) 34 (Xb bs) [0] [rd] (iw (QC bs) (Z1 1 36 (.b (decide ((p:Int)<(bs.length:Int)))) (ie (ZT ((p:Int)<(bs.length:Int)) (fun Zl=>?_) (fun Zl=>?_)))))))))))))
 ·refine ar (ZY 5 40 (Xb bs) 41 (.i p) [0] [rd] ?_)
  obtain ⟨x1,Z3⟩:=Zu (xs:=bs) (j:=p) om
  have hz:=ZD _ (Y7 Z3)
  refine Zq (Zn none (p:Int) 1 (Bj Z3)) (Z1 1 43 (.val (.int .u8 x1)) (Zq (BB x1 om) (Z1 1 45 (.i mx) (Zq (Cu x1 mx om om) (ir 1 [(4,.i (x1 % mx))] (ie ?_))))))
  exact Zc (r1 [0] ⟨(x1 % mx),rfl,rfl,(Pk.rem om om)⟩)
 have hq1:p / bs.length<=p:=Nat.div_le_self _ _
 have hq0:(0:Int)<=((p / bs.length:Nat):Int):=Int.natCast_nonneg _
 refine ak (aD 46 (Y5 37 46 [0,1,2,3,4,5,6,7,8] (.n 50 (Xb bs) (.n 51 (.i p) (.n 55 (Xb bs) .r))) [0,0] [rd,rd] (dw 9 (QC bs) (dx 10 (DX p bs.length om om) ?_))))
 obtain ⟨x2,Zy⟩:=Zu (xs:=bs) (j:=p % bs.length) (Nat.mod_lt _ om)
 have hz:=ZD _ (Y7 Zy)
 refine dx 11 (Zn none ((p % bs.length:Nat):Int) 1 (Bj Zy)) (ZX 33 34 [12] 59 (.val (.int .u8 x2)) (dx 13 (BB x2 om) (da 14 ((x2*131)) ((x2)*(131)) (Y5 26 31 [15,16,17,18,19] (.n 65 (Xb bs) (.n 66 (.i p) .r)) [0] [rd] (da 20 (((p*7:Nat):Int)) (((p:Int))*(7)) (da 21 (((p*7+3:Nat):Int)) ((((p*7:Nat):Int))+(3)) (Y5 20 24 [22,23,24,25] (.n 72 (Xb bs) .r) [0] [rd] (dw 26 (QC bs) (dx 27 (DX (p*7+3) bs.length om om) ?_)))))))))
 obtain ⟨x3,YT⟩:=Zu (xs:=bs) (j:=(p*7+3) % bs.length) (Nat.mod_lt _ om)
 have hz3:=ZD _ (Y7 YT)
 refine dx 28 (Zn none (((p*7+3) % bs.length:Nat):Int) 1 (Bj YT)) (ZX 16 17 [29] 76 (.val (.int .u8 x3)) (dx 30 (BB x3 om) (da 31 ((x3*1117)) ((x3)*(1117)) (da 32 (((x2*131)+(x3*1117))) (((x2*131))+((x3*1117))) (ZX 12 13 [33] 80 (.i p) (da 34 (((p*29:Nat):Int)) (((p:Int))*(29)) (da 35 ((((x2*131)+(x3*1117))+((p*29:Nat):Int))) ((((x2*131)+(x3*1117)))+(((p*29:Nat):Int))) (Y5 5 10 [36,37,38,39,40] (.n 83 (.i p) (.n 87 (Xb bs) .r)) [0] [rd] (dw 41 (QC bs) (dx 42 (AS p bs.length om om) (da 43 ((((p / bs.length:Nat):Int)*53)) ((((p / bs.length:Nat):Int))*(53)) (da 44 (((((x2*131)+(x3*1117))+((p*29:Nat):Int))+(((p / bs.length:Nat):Int)*53))) (((((x2*131)+(x3*1117))+((p*29:Nat):Int)))+((((p / bs.length:Nat):Int)*53))) (ZX 0 1 [45] 6 (.i ((((x2*131)+(x3*1117))+((p*29:Nat):Int))+(((p / bs.length:Nat):Int)*53))) (de (ar (Yq 2 92 (.i ((((x2*131)+(x3*1117))+((p*29:Nat):Int))+(((p / bs.length:Nat):Int)*53))) 93 (.i ((((x2*131)+(x3*1117))+((p*29:Nat):Int))+(((p / bs.length:Nat):Int)*53))) (Zq (Gn ((((x2*131)+(x3*1117))+((p*29:Nat):Int))+(((p / bs.length:Nat):Int)*53)) 64 om om) (Zq (Lz ((((x2*131)+(x3*1117))+((p*29:Nat):Int))+(((p / bs.length:Nat):Int)*53)) (((((x2*131)+(x3*1117))+((p*29:Nat):Int))+(((p / bs.length:Nat):Int)*53)) / 64)) (ir 1 [(1,.i mx),(6,.i (TN ((((x2*131)+(x3*1117))+((p*29:Nat):Int))+(((p / bs.length:Nat):Int)*53)) (((((x2*131)+(x3*1117))+((p*29:Nat):Int))+(((p / bs.length:Nat):Int)*53)) / 64)))] (ie (ar (ir 2 [(96,.i (TN ((((x2*131)+(x3*1117))+((p*29:Nat):Int))+(((p / bs.length:Nat):Int)*53)) (((((x2*131)+(x3*1117))+((p*29:Nat):Int))+(((p / bs.length:Nat):Int)*53)) / 64))),(97,.i mx)] (Zq (Cu (TN ((((x2*131)+(x3*1117))+((p*29:Nat):Int))+(((p / bs.length:Nat):Int)*53)) (((((x2*131)+(x3*1117))+((p*29:Nat):Int))+(((p / bs.length:Nat):Int)*53)) / 64)) mx om (EH ⟨by omega,by omega⟩ ⟨by omega,by omega⟩).1) (ir 1 [(4,.i ((TN ((((x2*131)+(x3*1117))+((p*29:Nat):Int))+(((p / bs.length:Nat):Int)*53)) (((((x2*131)+(x3*1117))+((p*29:Nat):Int))+(((p / bs.length:Nat):Int)*53)) / 64)) % mx))] (ie ?_)))))))))))))))))))))))))
 exact Zc (r1 [0] ⟨((TN ((((x2*131)+(x3*1117))+((p*29:Nat):Int))+(((p / bs.length:Nat):Int)*53)) (((((x2*131)+(x3*1117))+((p*29:Nat):Int))+(((p / bs.length:Nat):Int)*53)) / 64)) % mx),rfl,rfl,(Pk.rem (EH ⟨by omega,by omega⟩ ⟨by omega,by omega⟩).1 om)⟩)
theorem Vu (rd:Nat) (bs:List Int) (p:Nat) (xs:List Int) (ZD:∀z∈bs,0<=z/\z<=255) (hp:p+1<=1000000000:=by exact ob) (hx:0<xs.length/\xs.length<=1000000:=by exact ob):Zk Tryz.prog 72 [.p rd 0,Z0 xs] [Yl rd bs p] (fun r h=>∃(z:Int),r=.i z/\h=[.obj rd [Xb bs,.i (p+1:Nat)]]/\z∈xs):=by
 refine ZL 12 Tryz.func72 (ar (ir 1 [(0,.p rd 0),(1,Z0 xs)] (ie (ar (ir 3 [(5,Z0 xs),(6,.p rd 0),(7,Z0 xs)] (iw (Yf xs) (ic [0] (XP rd bs p (xs.length:Int) (ZD:=ob)) ?_)))))))
 rintro _ _ ⟨k1,rfl,rfl,ZP⟩
 have hk:=ZP.lt om
 obtain ⟨x1,Z3⟩:=Zu (xs:=xs) (j:=k1.toNat) om
 refine Zq (Zn none k1 1 (Y4 Z3)) (ir 2 [(4,.i x1)] (ie ?_))
 exact Zc (r1 [0] ⟨x1,rfl,rfl,(Y7 Z3)⟩)
theorem Tq (fs:List Int) :Zk Tryz.prog 144 [Z0 fs] [] (fun r h=>r=Aw (Y3.mk fs)/\h=[]):=by
 refine ZL 5 Tryz.func144 (ar (iA [nl] ?_))
 intro b1
 refine ie (ar (ir 2 [(2,.p b1 0),(4,.agg [Z0 fs])] (ZG 0 b1 [Z0 fs] (ie ?_))))
 exact Zc (r3 [] [.agg [Z0 fs]] [0] [(b1,b1)] ⟨rfl,rfl⟩ (Zg.agg (.cons (Zg.sl _ (Yw Z8 ob)) .nil)))
theorem L0 (rd:Nat) (bs:List Int) (p:Nat) (ZD:∀z∈bs,0<=z/\z<=255) (hp:p+1<=1000000000:=by exact ob):Zk Tryz.prog 143 [.p rd 0] [Yl rd bs p] (fun r h=>∃(ds:List Zf) (v:Hd),r=.h v/\h=[rK v 3 (Zm (YV ds)),.obj rd [Xb bs,.i (p+1:Nat)]]/\GD ds):=by
 refine ZL 51 Tryz.func143 (ar (ir 1 [(0,.p rd 0)] (ie (ar (iL (Z8 []) 0 1 ?_)))))
 intro v1
 refine Z6 0 (.n 8 (Z0 []) (.p .r)) (Zz [] (Tq []) (iL (Z8 [0,1]) 2 1 ?_))
 intro v2
 refine Z6 0 (.n 10 (Z0 [0,1]) (.p .r)) (Zz [] (Tq [0,1]) (iL (WB [Y3.mk [],Y3.mk [0,1]]) 2 1 ?_))
 intro v3
 refine Z1 1 13 (.agg [.i 0,.i 0,QO [Y3.mk [],Y3.mk [0,1]] v3]) (iA [.i 0,.i 0,nl] ?_)
 intro b1
 refine ZG 0 b1 [.i 0,.i 0,QO [Y3.mk [],Y3.mk [0,1]] v3] (ie (ar (iL (Z8 []) 0 1 ?_)))
 intro v4
 refine Z6 0 (.n 14 (Z0 []) (.p .r)) (Zz [] (Tq []) (iL (Z8 [3,0,3]) 3 1 ?_))
 intro v5
 refine Z6 0 (.n 16 (Z0 [3,0,3]) (.p .r)) (Zz [] (Tq [3,0,3]) (iL (WB [Y3.mk [],Y3.mk [3,0,3]]) 2 1 ?_))
 intro v6
 refine Z1 1 19 (.agg [.i 0,.i 0,QO [Y3.mk [],Y3.mk [3,0,3]] v6]) (iA [.i 0,.i 0,nl] ?_)
 intro b2
 refine ZG 0 b2 [.i 0,.i 0,QO [Y3.mk [],Y3.mk [3,0,3]] v6] (ie (ar (iL (Z8 [1,3]) 2 1 ?_)))
 intro v7
 refine Z6 0 (.n 20 (Z0 [1,3]) (.p .r)) (Zz [] (Tq [1,3]) (iL (WB [Y3.mk [1,3]]) 1 1 ?_))
 intro v8
 refine Yq 2 23 (.agg [.i 0,.i 0,QO [Y3.mk [1,3]] v8]) 24 (.agg [.i 1,.i 0,nl]) (iL (Z8 [1,1,0]) 3 1 ?_)
 intro v9
 refine Z6 0 (.n 25 (Z0 [1,1,0]) (.p .r)) (Zz [] (Tq [1,1,0]) (iL (Z8 [0]) 1 1 ?_))
 intro v10
 refine Z6 0 (.n 27 (Z0 [0]) (.p .r)) (Zz [] (Tq [0]) (iL (Z8 [3]) 1 1 ?_))
 intro v11
 refine Z6 0 (.n 29 (Z0 [3]) (.p .r)) (Zz [] (Tq [3]) (iL (WB [Y3.mk [1,1,0],Y3.mk [0],Y3.mk [3]]) 3 1 ?_))
 intro v12
 refine ir 2 [(0,.p rd 0),(3,.p b1 0),(4,.p b2 0),(23,.agg [.i 0,.i 0,W6 [Y3.mk [1,3]]]),(24,.agg [.i 1,.i 0,.sl [] none]),(32,.agg [.i 0,.i 0,W6 [Y3.mk [1,1,0],Y3.mk [0],Y3.mk [3]]]),(33,.agg [.i 0,.i 1,.sl [] none])] (iL (YV [Zf.mk 0 0 [Y3.mk [1,3]],Zf.mk 1 0 [],Zf.mk 0 0 [Y3.mk [1,1,0],Y3.mk [0],Y3.mk [3]],Zf.mk 0 1 []]) 4 3 ?_)
 intro v13
 refine Z1 1 5 (Uf [Zf.mk 0 0 [Y3.mk [1,3]],Zf.mk 1 0 [],Zf.mk 0 0 [Y3.mk [1,1,0],Y3.mk [0],Y3.mk [3]],Zf.mk 0 1 []] v13) (ie (ar (Y0 3 (.n 35 (.agg [.i 0,.i 0,W6 [Y3.mk [],Y3.mk [0,1]]]) (.n 36 (.agg [.i 0,.i 0,.sl [] none]) (.n 37 (.agg [.i 0,.i 0,W6 [Y3.mk [],Y3.mk [3,0,3]]]) .r))) [11,7] [b1,b2] (iKN (Zm (YV [Zf.mk 0 0 [Y3.mk [],Y3.mk [0,1]],Zf.mk 0 0 [],Zf.mk 0 0 [Y3.mk [],Y3.mk [3,0,3]]])) 3 3 ?_))))
 intro g1
 refine Z1 1 6 (.ms g1 0 3 3) (ie (ar (Z1 1 39 (.p rd 0) (ic [16] (XP rd bs p 5 (ZD:=ob)) ?_))))
 rintro _ _ ⟨k1,rfl,rfl,ZP⟩
 have hk:=ZP.lt om
 refine Z1 1 7 (.i k1) (ie (aq (ar (Z1 2 42 (.b (decide (k1<4))) (ie (ZT (k1<4) (fun Ze=>?_) (fun Ze=>?_)))))))
 ·refine az (ir 3 [(43,.ms g1 0 3 3),(44,Uf [Zf.mk 0 0 [Y3.mk [1,3]],Zf.mk 1 0 [],Zf.mk 0 0 [Y3.mk [1,1,0],Y3.mk [0],Y3.mk [3]],Zf.mk 0 1 []] v13),(45,.i k1)] ?_)
  obtain ⟨x1,Z3⟩:=Zu (xs:=[Zf.mk 0 0 [Y3.mk [1,3]],Zf.mk 1 0 [],Zf.mk 0 0 [Y3.mk [1,1,0],Y3.mk [0],Y3.mk [3]],Zf.mk 0 1 []]) (j:=k1.toNat) (by show k1.toNat<4;omega)
  refine Zq (Zn (some v13) k1 3 (Vl Z3)) (Z1 1 47 (Ul x1) (iL (YV [x1]) 1 3 ?_))
  intro v14
  refine Z6 0 (.n 48 (Zd [x1]) (.p .r)) (DP 2 3 (⟨some ⟨g1,0,none⟩,3,3⟩:Hd) 3 (Zm (YV [Zf.mk 0 0 [Y3.mk [],Y3.mk [0,1]],Zf.mk 0 0 [],Zf.mk 0 0 [Y3.mk [],Y3.mk [3,0,3]]])) (YV [x1]) none rfl (K6 _) (Do _) (by simp [YV]) (by simp<;>omega) ?_)
  intro v15
  refine ir 1 [(6,.h v15)] (ie (ar (ir 2 [(2,.h v15)] (ie ?_))))
  exact Zc (r1 [0,1] ⟨([J5,Zf.mk 0 0 [],J6]++[x1]),v15,rfl,rfl,(GD.four Z3)⟩ (eq:=(rr (ls:=Zm (YV [Zf.mk 0 0 [Y3.mk [],Y3.mk [0,1]],Zf.mk 0 0 [],Zf.mk 0 0 [Y3.mk [],Y3.mk [3,0,3]]])++Zm (YV [x1])) (FJ _ _) (rc rz))))
 refine ak (ar (ir 2 [(2,.ms g1 0 3 3)] (ie ?_)))
 exact Zc (r1 [1,0] ⟨[J5,Zf.mk 0 0 [],J6],(⟨some ⟨g1,0,none⟩,3,3⟩:Hd),rfl,rfl,GD.three⟩ (eq:=(rr (ls:=Zm (YV [Zf.mk 0 0 [Y3.mk [],Y3.mk [0,1]],Zf.mk 0 0 [],Zf.mk 0 0 [Y3.mk [],Y3.mk [3,0,3]]])) rfl (rc rz))))
theorem S7 (rd:Nat) (bs:List Int) (p:Nat) (ZD:∀z∈bs,0<=z/\z<=255) (hp:p+1<=1000000000:=by exact ob):Zk Tryz.prog 143 [.p rd 0] [Yl rd bs p] (fun r h=>∃(ds:List Zf) (v:Value),r=Uf ds v/\h=[.tail v 3,.obj rd [Xb bs,.i (p+1:Nat)]]/\GD ds):=(L0 rd bs p ZD hp).frz (es:=YV) (hs:=fun _=>[.obj rd [Xb bs,.i (p+1:Nat)]]) K6 om
theorem RE (rd:Nat) (bs:List Int) (p:Nat) (ZD:∀z∈bs,0<=z/\z<=255) (hp:p+5<=1000000000:=by exact ob):Zk Tryz.prog 101 [.p rd 0] [Yl rd bs p] (fun r h=>∃(dz:List Zf) (p2:Nat),r=Zd dz/\h=[Yl rd bs p2]/\AD dz/\p<=p2/\p2<=p+5):=by
 refine ZL 89 Tryz.func101 (ar (ir 1 [(0,.p rd 0)] (ie (ar (Z1 1 5 (.p rd 0) (ic [0] (L0 rd bs p (ZD:=ob)) ?_))))))
 rintro _ _ ⟨ds1,v1,rfl,rfl,ZP⟩
 have hgl:=ZP.len
 have hga:=ZP.ad
 refine DO 0 ds1.length (v:=v1) (AJ _) om (fun g1 c1 he1=>?_)
 subst he1
 refine ir 1 [(0,.p rd 0),(3,.ms g1 0 ds1.length c1)] (ie (ar (Yq 2 7 (.p rd 0) 8 (.ms g1 0 ds1.length c1) (io (.i ds1.length) (.i ds1.length) (lr _) (ic [1] (XP rd bs (p+1) (ds1.length:Int) (ZD:=ob)) ?_)))))
 rintro _ _ ⟨k1,rfl,rfl,Y1⟩
 have qhp2:=Y1.lt om
 refine Z1 1 4 (.i k1) (ie (aq (ar (Z1 1 11 (.p rd 0) (ic [0] (XP rd bs ((p+1)+1) 14 (ZD:=ob)) ?_)))))
 rintro _ _ ⟨k2,rfl,rfl,YB⟩
 have qhp3:=YB.lt om
 refine ie (ab 0 (ar (Z1 2 13 (.b (k2==0)) (ie (JM (fun F h=>∃(dq:List Zf) (vq:Hd) (pq:Nat),(AD dq)/\(p<=pq/\pq<=p+5)/\F=[(3,.h vq)]/\h=[Yl rd bs pq,rK vq 3 (Zm (YV dq))]) (fun _ _=>rfl) ?_ ?_)))))
 ·refine ac (k2==0) Zh (fun Ze=>?_) (fun Ze=>?_)
  ·refine az (ir 3 [(0,.p rd 0),(3,.ms g1 0 ds1.length c1),(15,.ms g1 0 ds1.length c1),(16,.i k1),(17,.p rd 0)] (iL (Z8 [-1,5,0,2]) 4 1 ?_))
   intro v2
   refine Z6 0 (.n 18 (Z0 [-1,5,0,2]) (.p .r)) (ic [1] (Vu rd bs (((p+1)+1)+1) [-1,5,0,2] (ZD:=ob)) ?_)
   rintro _ _ ⟨z1,rfl,rfl,YM⟩
   refine Z1 1 20 (.p rd 0) (iL (Z8 [0,1,5]) 3 1 ?_)
   intro v3
   refine Z6 0 (.n 21 (Z0 [0,1,5]) (.p .r)) (ic [1] (Vu rd bs ((((p+1)+1)+1)+1) [0,1,5] (ZD:=ob)) ?_)
   rintro _ _ ⟨z2,rfl,rfl,YX⟩
   refine Z1 1 23 (.agg [.i z1,.i z2,nl]) (Zq (W5 g1 ds1.length c1 k1.toNat 3 k1) (Z6 0 (.n 23 (.agg [.i z1,.i z2,.sl [] none]) (.q 24 (.d .r))) (Cp 3 g1 ds1.length c1 3 (k1.toNat * 3) [.i z1,.i z2,.sl [] none] (Zm (YV ds1)) (Zm (YV (ds1.set k1.toNat (Zf.mk z1 z2 [])))) (by rw [AJ];simp only [YQ,Xp];omega) (Dz (Zf.mk z1 z2 []) om) (ie ?_))))
   exact ZV ⟨(ds1.set k1.toNat (Zf.mk z1 z2 [])),(⟨some ⟨g1,0,none⟩,ds1.length,c1⟩:Hd),((((p+1)+1)+1)+1)+1,(hga.set _ (by simp)),ob,rfl,rfl⟩ (wk [1,0] fl)
  refine ar (ir 2 [(0,.p rd 0),(3,.ms g1 0 ds1.length c1),(4,.i k1),(12,.i k2),(25,.b (k2==1))] (ie (ac (k2==1) Zh (fun Zl=>?_) (fun Zl=>?_))))
  ·refine az (Z6 3 (.n 27 (.ms g1 0 ds1.length c1) (.n 28 (.i k1) (.n 29 (.p rd 0) .r))) (iL (Z8 [-1,0,4,5]) 4 1 ?_))
   intro v4
   refine Z6 0 (.n 30 (Z0 [-1,0,4,5]) (.p .r)) (ic [1] (Vu rd bs (((p+1)+1)+1) [-1,0,4,5] (ZD:=ob)) ?_)
   rintro _ _ ⟨z3,rfl,rfl,Xv⟩
   refine iL (Z8 [z3]) 1 1 ?_
   intro v5
   refine Z6 0 (.n 32 (Z0 [z3]) (.p .r)) (Zz [] (Tq [z3]) (iL (Z8 [0,0,0,0]) 4 1 ?_))
   intro v6
   refine Z6 0 (.n 34 (Z0 [0,0,0,0]) (.p .r)) (Zz [] (Tq [0,0,0,0]) (iL (Z8 []) 0 1 ?_))
   intro v7
   refine Z6 0 (.n 36 (Z0 []) (.p .r)) (Zz [] (Tq []) (iL (WB [Y3.mk [z3],Y3.mk [0,0,0,0],Y3.mk []]) 3 1 ?_))
   intro v8
   refine Z1 1 39 (.agg [.i 0,.i 0,QO [Y3.mk [z3],Y3.mk [0,0,0,0],Y3.mk []] v8]) (Zq (W5 g1 ds1.length c1 k1.toNat 3 k1) (Z6 0 (.n 39 (.agg [.i 0,.i 0,W6 [Y3.mk [z3],Y3.mk [0,0,0,0],Y3.mk []]]) (.q 40 (.d .r))) (Cp 6 g1 ds1.length c1 3 (k1.toNat * 3) [.i 0,.i 0,W6 [Y3.mk [z3],Y3.mk [0,0,0,0],Y3.mk []]] (Zm (YV ds1)) (Zm (YV (ds1.set k1.toNat (Zf.mk 0 0 [Y3.mk [z3],Y3.mk [0,0,0,0],Y3.mk []])))) (by rw [AJ];simp only [YQ,Xp];omega) (Dz (Zf.mk 0 0 [Y3.mk [z3],Y3.mk [0,0,0,0],Y3.mk []]) om) (ie ?_))))
   exact ZV ⟨(ds1.set k1.toNat (Zf.mk 0 0 [Y3.mk [z3],Y3.mk [0,0,0,0],Y3.mk []])),(⟨some ⟨g1,0,none⟩,ds1.length,c1⟩:Hd),(((p+1)+1)+1)+1,(hga.set _ (by simp)),ob,rfl,rfl⟩ (wk [5,0] fl)
  refine ar (Z1 2 41 (.b (k2==2)) (ie (ac (k2==2) Zh (fun ZI=>?_) (fun ZI=>?_))))
  ·refine az (Z6 3 (.n 43 (.ms g1 0 ds1.length c1) (.n 44 (.i k1) (.n 45 (.i k1) .r))) (ia ((k1+1)) ((k1)+(1)) (iL (Z8 [k1+1]) 1 1 ?_)))
   intro v9
   refine Z6 0 (.n 47 (Z0 [k1+1]) (.p .r)) (Zz [] (Tq [k1+1]) (iL (WB [Y3.mk [k1+1]]) 1 1 ?_))
   intro v10
   refine Z1 1 50 (.agg [.i 0,.i 0,QO [Y3.mk [k1+1]] v10]) (Zq (W5 g1 ds1.length c1 k1.toNat 3 k1) (Z6 0 (.n 50 (.agg [.i 0,.i 0,W6 [Y3.mk [k1+1]]]) (.q 51 (.d .r))) (Cp 3 g1 ds1.length c1 3 (k1.toNat * 3) [.i 0,.i 0,W6 [Y3.mk [k1+1]]] (Zm (YV ds1)) (Zm (YV (ds1.set k1.toNat (Zf.mk 0 0 [Y3.mk [(k1+1)]])))) (by rw [AJ];simp only [YQ,Xp];omega) (Dz (Zf.mk 0 0 [Y3.mk [(k1+1)]]) om) (ie ?_))))
   exact ZV ⟨(ds1.set k1.toNat (Zf.mk 0 0 [Y3.mk [(k1+1)]])),(⟨some ⟨g1,0,none⟩,ds1.length,c1⟩:Hd),((p+1)+1)+1,(hga.set _ (by simp)),ob,rfl,rfl⟩ (wk [3,0] fl)
  refine ar (Z1 2 52 (.b (k2==3)) (ie (ac (k2==3) Zh (fun Yi=>?_) (fun Yi=>?_))))
  ·refine az (ir 2 [(54,.ms g1 0 ds1.length c1),(55,.p rd 0)] (iL (Z8 [0,2,1]) 3 1 ?_))
   intro v11
   refine Z6 0 (.n 56 (Z0 [0,2,1]) (.p .r)) (ic [1] (Vu rd bs (((p+1)+1)+1) [0,2,1] (ZD:=ob)) ?_)
   rintro _ _ ⟨z4,rfl,rfl,Wb⟩
   refine Z1 1 58 (.agg [.i 2,.i z4,.sl [] none]) (iL (YV [Zf.mk 2 z4 []]) 1 3 ?_)
   intro v12
   refine Z6 0 (.n 59 (Zd [Zf.mk 2 z4 []]) (.p .r)) (DP 3 ds1.length (⟨some ⟨g1,0,none⟩,ds1.length,c1⟩:Hd) 3 (Zm (YV ds1)) (YV [Zf.mk 2 z4 []]) none (AJ _) (K6 _) (Do _) (by simp [YV]) (by simp<;>omega) ?_)
   intro v13
   refine ir 1 [(3,.h v13)] (ie ?_)
   exact ZV ⟨(ds1++[Zf.mk 2 z4 []]),v13,(((p+1)+1)+1)+1,(hga.app (by simp;omega) (by simp)),ob,rfl,rfl⟩ (wk [2,0] fl (e:=(rc (rr (ls:=Zm (YV ds1)++Zm (YV [Zf.mk 2 z4 []])) (FJ _ _) rz))))
  refine ar (Z1 2 61 (.b (k2==4)) (ie (ac (k2==4) Zh (fun Xk=>?_) (fun Xk=>?_))))
  ·refine az (Z6 3 (.n 63 (.ms g1 0 ds1.length c1) (.n 64 (.i k1) (.n 65 (.p rd 0) .r))) (ic [0] (XP rd bs (((p+1)+1)+1) 2 (ZD:=ob)) ?_))
   rintro _ _ ⟨k3,rfl,rfl,WE⟩
   have qhp8:=WE.lt om
   refine iL (Z8 []) 0 1 ?_
   intro v14
   refine Z6 0 (.n 67 (Z0 []) (.p .r)) (Zz [] (Tq []) (iL (Z8 [2]) 1 1 ?_))
   intro v15
   refine Z6 0 (.n 69 (Z0 [2]) (.p .r)) (Zz [] (Tq [2]) (iL (Z8 []) 0 1 ?_))
   intro v16
   refine Z6 0 (.n 71 (Z0 []) (.p .r)) (Zz [] (Tq []) (iL (Z8 []) 0 1 ?_))
   intro v17
   refine Z6 0 (.n 73 (Z0 []) (.p .r)) (Zz [] (Tq []) (iL (WB [Y3.mk [],Y3.mk [2],Y3.mk [],Y3.mk []]) 4 1 ?_))
   intro v18
   refine Z1 1 76 (.p rd 0) (ic [5] (XP rd bs ((((p+1)+1)+1)+1) 3 (ZD:=ob)) ?_)
   rintro _ _ ⟨k4,rfl,rfl,WR⟩
   have qhp9:=WR.lt om
   refine Zq (Qo (es:=WB [Y3.mk [],Y3.mk [2],Y3.mk [],Y3.mk []]) (hv:=some v18) (l:=k4) (m:=(((WB [Y3.mk [],Y3.mk [2],Y3.mk [],Y3.mk []]).length:Nat):Int)) (sz:=1) (es':=WB ([Y3.mk [],Y3.mk [2],Y3.mk [],Y3.mk []].drop k4.toNat)) kr om (by simp<;>omega) (by simp<;>omega) (Fx _) (by first|(simp only [Vh,WP,Fy,Fw];done)|(simp only [Vh,WP,Fy,Fw];rfl)|(simp [Fy,Fw];done))) (Z1 1 79 (.agg [.i k3,.i 0,W6 ([Y3.mk [],Y3.mk [2],Y3.mk [],Y3.mk []].drop k4.toNat)]) (Zq (W5 g1 ds1.length c1 k1.toNat 3 k1) (Cp 6 g1 ds1.length c1 3 (k1.toNat * 3) [.i k3,.i 0,W6 ([Y3.mk [],Y3.mk [2],Y3.mk [],Y3.mk []].drop k4.toNat)] (Zm (YV ds1)) (Zm (YV (ds1.set k1.toNat (Zf.mk k3 0 ([Y3.mk [],Y3.mk [2],Y3.mk [],Y3.mk []].drop k4.toNat))))) (by rw [AJ];simp only [YQ,Xp];omega) (Dz (Zf.mk k3 0 ([Y3.mk [],Y3.mk [2],Y3.mk [],Y3.mk []].drop k4.toNat)) om) (ie ?_))))
   exact ZV ⟨(ds1.set k1.toNat (Zf.mk k3 0 ([Y3.mk [],Y3.mk [2],Y3.mk [],Y3.mk []].drop k4.toNat))),(⟨some ⟨g1,0,none⟩,ds1.length,c1⟩:Hd),((((p+1)+1)+1)+1)+1,(hga.set _ ⟨by simp,fun c hc=>(by decide:∀c∈[Y3.mk [],Y3.mk [2],Y3.mk [],Y3.mk []],c.fields.length<=4) c (List.mem_of_mem_drop hc)⟩),ob,rfl,rfl⟩ (wk [1,0] fl)
  refine ar (Z1 2 81 (.b (k2==5)) (ie (ac (k2==5) Zh (fun Xl=>?_) (fun Xl=>?_))))
  ·refine az (ir 3 [(83,.ms g1 0 ds1.length c1),(84,.agg [.i 0,.i 0,.sl [] none]),(85,.agg [.i 3,.i 0,.sl [] none])] (iL (YV [Zf.mk 0 0 [],Zf.mk 3 0 []]) 2 3 ?_))
   intro v19
   refine Z6 0 (.n 86 (Zd [Zf.mk 0 0 [],Zf.mk 3 0 []]) (.p .r)) (DP 2 ds1.length (⟨some ⟨g1,0,none⟩,ds1.length,c1⟩:Hd) 3 (Zm (YV ds1)) (YV [Zf.mk 0 0 [],Zf.mk 3 0 []]) none (AJ _) (K6 _) (Do _) (by simp [YV]) (by simp<;>omega) ?_)
   intro v20
   refine ir 1 [(3,.h v20)] (ie ?_)
   exact ZV ⟨(ds1++[Zf.mk 0 0 [],Zf.mk 3 0 []]),v20,((p+1)+1)+1,(hga.app (by simp;omega) (by simp)),ob,rfl,rfl⟩ (wk [2,0] fl (e:=(rc (rr (ls:=Zm (YV ds1)++Zm (YV [Zf.mk 0 0 [],Zf.mk 3 0 []])) (FJ _ _) rz))))
  refine ak ?_
  exact ZV ⟨ds1,(⟨some ⟨g1,0,none⟩,ds1.length,c1⟩:Hd),((p+1)+1)+1,hga,ob,rfl,rfl⟩ (wk [0,0] fl)
 rintro F h ⟨dq,vq,pq,QI,Gk,rfl,rfl⟩
 refine ar (ir 2 [(2,.h vq)] (ie (Z18 2 1 (v:=vq) (YV dq) (K6 _) ?_)))
 exact Zc (r2 [1] [Uf dq vq.v] ⟨dq,pq,rfl,rfl,⟨QI,Gk⟩⟩ (Zg.forget _ _))
theorem Z5u (ds:List Zf) (n:Nat) (hz:Qu ds:=by exact ob) (hn:n<ds.length:=by exact ob):Zk Tryz.prog 172 [Zd ds,.i n] [] (fun r h=>r=.b (JV ds n)/\h=[]):=by
 have hl_ds:ds.length<=4294967296:=by have:=hz.len;omega
 refine ZL 100 Tryz.func172 (ar (ir 1 [(0,Zd ds),(1,.i n)] (ie (ar (Yq 2 8 (Zd ds) 9 (.i n) ?_)))))
 obtain ⟨x1,Z3⟩:=Zu (xs:=ds) (j:=n) om
 have hdo:=C6 Z3
 have hz1:=hz.cons_at Z3
 refine Zq (Zn none (n:Int) 3 (Vl Z3)) (Z1 1 11 (Ul x1) (iA [.i 0,.i 0,nl] ?_))
 intro b1
 refine ZG 0 b1 (Wy x1) (ie (aq (ar (Yn 2 13 (W6 x1.cons) [0] [b1] (iw (Ua x1.cons) (Z1 1 15 (.b (decide ((x1.cons.length:Int)>0))) (ie (ZT ((x1.cons.length:Int)>0) (fun Ze=>?_) (fun Ze=>?_)))))))))
 ·refine aq (ar (Yn 2 17 (W6 x1.cons) [0] [b1] (iw (Ua x1.cons) (XH 9 [(0,Zd ds),(5,.p b1 0),(24,.b ((decide ((x1.cons.length:Int)>3))||(x1.frm != 0)))] [.obj b1 (Wy x1)] ?_ (fun hj1=>?_)))))
  ·refine Xm [(0,Zd ds),(5,.p b1 0),(29,.b (((decide ((x1.cons.length:Int)>3))||(x1.frm != 0))||(x1.to_ != 0)))] [.obj b1 (Wy x1)] ?_ ?_
   ·refine ir 1 [(0,Zd ds),(5,.p b1 0),(25,.b ((decide ((x1.cons.length:Int)>3))||(x1.frm != 0)))] (ib (b:=((decide ((x1.cons.length:Int)>3))||(x1.frm != 0))) 25 (fun Zb=>?_) (fun Zb=>?_))
    ·have ZP:((x1.cons.length:Int)>3)∨(x1.frm≠0):=((Yc dq Yg)).1 Zb
     refine Z6 4 (.n 29 (.b true) (.d (.k (.k .z)))) (ie ?_)
     exact wk [0] (fw (Zs true Zb fl))
    have Y1:¬(((x1.cons.length:Int)>3)∨(x1.frm≠0)):=ZF (Yc dq Yg) Zb
    refine Y0 4 (.n 29 (.b (x1.to_ != 0)) (.d (.k (.k .z)))) [0] [b1] (ie ?_)
    exact wk [0] (fw (Zs (x1.to_ != 0) Zb fl))
   refine ac (((decide ((x1.cons.length:Int)>3))||(x1.frm != 0))||(x1.to_ != 0)) (p:=(((x1.cons.length:Int)>3)∨(x1.frm≠0))∨(x1.to_≠0)) (Yc (Yc dq Yg) Yg) (fun Zl=>?_) (fun Zl=>?_)
   ·refine ar (ir 1 [(4,.b false)] (ie ?_))
    exact Zc (r2 [] [.b false] ⟨rfl,rfl⟩ (lb (by clear Z3;first|rfl|omega|grind [U0])))
   refine ak (aq (ar (ir 1 [(0,Zd ds),(5,.p b1 0),(6,.i 0)] (ie (ab 0 (al (fun m F h=>∃(k:Nat),(k<=x1.cons.length)/\(UT ds.length (x1.cons.drop k)=UT ds.length x1.cons)/\F=[(0,Zd ds),(5,.p b1 0),(6,.i k)]/\h=[.obj b1 (Wy x1)]/\m=x1.cons.length-k) _ _ _ ⟨0,ob,ob,rfl,rfl,rfl⟩ (wk [0] (fw (Yh fl))) ?_))))))
   rintro m F h ⟨k,Yo,Zp,rfl,rfl,rfl⟩
   refine aq (ar (ZY 3 30 (.i k) 32 (W6 x1.cons) [0] [b1] (iw (Ua x1.cons) (Z1 1 34 (.b (decide ((k:Int)<(x1.cons.length:Int)))) (ie (ZT ((k:Int)<(x1.cons.length:Int)) (fun ZI=>?_) (fun ZI=>?_)))))))
   ·refine ak (aq (ab 1 (ar (ZY 3 38 (W6 x1.cons) 39 (.i k) [0] [b1] ?_))))
    obtain ⟨x2,Zy⟩:=Zu (xs:=x1.cons) (j:=k) om
    refine Zq (Zn none (k:Int) 1 (Bk Zy)) (Z1 2 42 (Z0 x2.fields) (iw (Yf x2.fields) (Xm [(0,Zd ds),(5,.p b1 0),(6,.i k),(55,.b ((decide ((x2.fields.length:Int)>3))||(!X1 ds.length x2.fields)))] [.obj b1 (Wy x1)] ?_ ?_)))
    ·refine ir 2 [(0,Zd ds),(5,.p b1 0),(6,.i k),(45,.b (decide ((x2.fields.length:Int)>3)))] (ib (b:=(decide ((x2.fields.length:Int)>3))) 45 (fun Zv=>?_) (fun Zv=>?_))
     ·have YB:(x2.fields.length:Int)>3:=(dq).1 Zv
      refine Z6 10 (.n 55 (.b true) (.d (.k (.k (.k .z))))) (ie ?_)
      exact wk [0] (fw (fr (Zs true Zv fl)))
     have YM:¬((x2.fields.length:Int)>3):=ZF dq Zv
     refine Y0 4 (.n 46 (Zd ds) (.n 48 (W6 x1.cons) (.n 49 (.i k) (.w .z)))) [0] [b1] (Zq (Zn none (k:Int) 1 (Bk Zy)) (Z1 2 52 (Z0 x2.fields) (Zz [] (Hb ds x2.fields) (Z1 2 55 (.b (!X1 ds.length x2.fields)) (ie ?_)))))
     exact wk [0] (fw (fr (Zs (!X1 ds.length x2.fields) Zv fl)))
    refine ac ((decide ((x2.fields.length:Int)>3))||(!X1 ds.length x2.fields)) (p:=((x2.fields.length:Int)>3)∨(¬(X1 ds.length x2.fields=true))) (Yc dq (Yp Iff.rfl)) (fun Yi=>?_) (fun Yi=>?_)
    ·refine ar (ir 1 [(4,.b false)] (ie ?_))
     rw [Yd Zy] at Zp
     exact Zc (r2 [] [.b false] ⟨rfl,rfl⟩ (lb (by clear Z3 Zy;first|rfl|omega|grind [UT,K4,U0])))
    refine ak (az (ir 1 [(0,Zd ds),(5,.p b1 0),(35,.i k)] (ZO k (Z1 1 6 (.i (k+1:Nat)) (ie ?_)))))
    have hdr:=Yd Zy
    exact ZU ⟨k+1,ob,(by rw [hdr] at Zp;clear hdr Z3 Zy;grind [UT,K4]),rfl,rfl,rfl⟩ (wk [0] (fw (ZW k fl)))
   refine ax 0 (ar (ir 1 [(4,.b true)] (ie ?_)))
   try rw [Xz (xs:=x1.cons) (k:=k) om] at Zp
   exact Zc (r2 [] [.b true] ⟨rfl,rfl⟩ (lb (by clear Z3;first|rfl|omega|grind [UT,K4,U0])))
  refine ir 2 [(0,Zd ds),(5,.p b1 0),(20,.b (decide ((x1.cons.length:Int)>3)))] (ib (b:=(decide ((x1.cons.length:Int)>3))) 20 (fun Yx=>?_) (fun Yx=>?_))
  ·have YX:(x1.cons.length:Int)>3:=(dq).1 Yx
   refine Z6 4 (.n 24 (.b true) (.d (.k (.k .z)))) ?_
   exact YC (wk [0] (fw (Zs true Yx fl))) hj1
  have Xv:¬((x1.cons.length:Int)>3):=ZF dq Yx
  refine Y0 4 (.n 24 (.b (x1.frm != 0)) (.d (.k (.k .z)))) [0] [b1] ?_
  exact YC (wk [0] (fw (Zs (x1.frm != 0) Yx fl))) hj1
 refine ak (aq (ar (Z1 1 7 (.i 0) (ie (ab 2 (al (fun m F h=>∃(j:Nat),(j<=n)/\(TU x1 ((ds.take n).drop j)=TU x1 (ds.take n))/\F=[(0,Zd ds),(1,.i n),(5,.p b1 0),(7,.i j)]/\h=[.obj b1 (Wy x1)]/\m=n-j) _ _ _ ⟨0,ob,ob,rfl,rfl,rfl⟩ (wk [0] (fw (fr (Yh fl)))) ?_))))))
 rintro m F h ⟨j,Um,Wg,rfl,rfl,rfl⟩
 refine aq (ar (Z1 3 58 (.b (decide ((j:Int)<(n:Int)))) (ie (ZT ((j:Int)<(n:Int)) (fun Xk=>?_) (fun Xk=>?_)))))
 ·refine ak (aq (ab 3 (aD 27 (ZZ 25 27 [0,1] (.n 61 (Zd ds) (.n 62 (.i j) .r)) ?_))))
  obtain ⟨x3,YT⟩:=Zu (xs:=ds) (j:=j) om
  refine dx 2 (Zn none (j:Int) 3 (Vl YT)) (ZX 22 24 [3,4] 65 (W6 x3.cons) (dw 5 (Ua x3.cons) (AC [(0,Zd ds),(1,.i n),(5,.p b1 0),(7,.i j),(87,.b (((x3.cons.length:Int)==0)&&((x3.frm==x1.frm)&&(x3.to_==x1.to_))))] [.obj b1 (Wy x1)] ?_ ?_)))
  ·refine Xd 19 21 [6,7] [(0,Zd ds),(1,.i n),(5,.p b1 0),(7,.i j),(68,.b ((x3.cons.length:Int)==0))] (db (b:=((x3.cons.length:Int)==0)) 68 (fun Xh=>?_) (fun Xh=>?_))
   ·have Wb:(x3.cons.length:Int)=0:=(Zh).1 Xh
    refine ZZ 17 19 [8,9] (.n 69 (Zd ds) (.n 70 (.i j) (.w (.k .z)))) (dx 10 (Zn none (j:Int) 3 (Vl YT)) (Y5 9 16 [11,12,13,14,15,16,17] (.n 78 (.b (x3.frm==x1.frm)) .r) [0] [b1] (db (b:=(x3.frm==x1.frm)) 78 (fun W9=>?_) (fun W9=>?_))))
    ·have WE:x3.frm=x1.frm:=(Zh).1 W9
     refine ZZ 7 9 [18,19] (.n 79 (Zd ds) (.n 80 (.i j) (.k (.d .r)))) (dx 20 (Zn none (j:Int) 3 (Vl YT)) (Y5 0 6 [21,22,23,24,25,26] (.n 87 (.b (x3.to_==x1.to_)) .r) [0] [b1] (de ?_)))
     exact wk [0] (fq (Zs (x3.to_==x1.to_) (And.intro Xh W9) fl))
    have WR:¬(x3.frm=x1.frm):=ZF Zh W9
    refine ZZ 0 9 [18,19,20,21,22,23,24,25,26] (.n 87 (.b false) (.k (.d .r))) (de ?_)
    exact wk [0] (fq (Zs false (And.intro Xh W9) fl))
   have Uc:¬((x3.cons.length:Int)=0):=ZF Zh Xh
   refine ZZ 0 19 [8,9,10,11,12,13,14,15,16,17,18,19,20,21,22,23,24,25,26] (.n 87 (.b false) (.d (.w .z))) (de ?_)
   exact wk [0] (fq (Zs false Xh fl))
  refine ac (((x3.cons.length:Int)==0)&&((x3.frm==x1.frm)&&(x3.to_==x1.to_))) (p:=((x3.cons.length:Int)=0)/\((x3.frm=x1.frm)/\(x3.to_=x1.to_))) (YF Zh (YF Zh Zh)) (fun Xl=>?_) (fun Xl=>?_)
  ·refine ar (ir 1 [(4,.b false)] (ie ?_))
   rw [Yd (show (ds.take n)[j]? = some x3 by rw [Q8,Zj om];exact YT),TU,Zj om] at Wg
   exact Zc (r2 [] [.b false] ⟨rfl,rfl⟩ (lb (by clear Z3 YT;first|rfl|omega|grind [U0])))
  refine ak (az (ir 1 [(0,Zd ds),(1,.i n),(5,.p b1 0),(59,.i j)] (ZO j (hb:=(by have:=hz.len;omega)) (Z1 1 7 (.i (j+1:Nat)) (ie ?_)))))
  have hdr:=Yd YT
  exact ZU ⟨j+1,ob,(by rw [Yd (show (ds.take n)[j]? = some x3 by rw [Q8,Zj om];exact YT),TU,Za om] at Wg;exact Wg),rfl,rfl,rfl⟩ (wk [0] (fw (fr (ZW j fl))))
 refine ax 2 (ar (ZY 3 89 (.i x1.frm) 90 (Zd ds) [0] [b1] (iw (VQ ds) (Zz [] (Uz x1.frm 0 (ds.length:Int)) (XH 12 [(99,.b ((decide (0<=x1.frm/\x1.frm<=(ds.length:Int)))&&(decide (0<=x1.to_/\x1.to_<=(ds.length:Int)))))] [.obj b1 (Wy x1)] ?_ (fun hj2=>?_))))))
 ·refine ir 1 [(4,.b ((decide (0<=x1.frm/\x1.frm<=(ds.length:Int)))&&(decide (0<=x1.to_/\x1.to_<=(ds.length:Int)))))] (ie ?_)
  rw [Xz (show (ds.take n).length<=j by rw [Wp];omega),TU] at Wg
  exact Zc (r2 [] [.b ((decide (0<=x1.frm/\x1.frm<=(ds.length:Int)))&&(decide (0<=x1.to_/\x1.to_<=(ds.length:Int))))] ⟨rfl,rfl⟩ (lb (by clear Z3;first|rfl|omega|grind [U0])))
 refine ir 1 [(0,Zd ds),(5,.p b1 0),(93,.b (decide (0<=x1.frm/\x1.frm<=(ds.length:Int))))] (ib (b:=(decide (0<=x1.frm/\x1.frm<=(ds.length:Int)))) 93 (fun Wx=>?_) (fun Wx=>?_))
 ·have UH:0<=x1.frm/\x1.frm<=(ds.length:Int):=(dq).1 Wx
  refine Y0 3 (.n 95 (.i x1.to_) (.n 96 (Zd ds) (.k .z))) [0] [b1] (iw (VQ ds) (Zz [] (Uz x1.to_ 0 (ds.length:Int)) (ir 1 [(99,.b (decide (0<=x1.to_/\x1.to_<=(ds.length:Int))))] ?_)))
  exact YC (wk [0] (Zs (decide (0<=x1.to_/\x1.to_<=(ds.length:Int))) Wx fl)) hj2
 have Uv:¬(0<=x1.frm/\x1.frm<=(ds.length:Int)):=ZF dq Wx
 refine ir 6 [(99,.b false)] ?_
 exact YC (wk [0] (Zs false Wx fl)) hj2
theorem Z5z (ds:List Zf) (hz:Qu ds:=by exact ob):Zk Tryz.prog 133 [Zd ds] [] (fun r h=>r=.b (Wi ds)/\h=[]):=by
 have hzl:=hz.len
 refine ZL 17 Tryz.func133 (ar (ir 1 [(0,Zd ds)] (ie (aq (ar (Z1 1 4 (Zd ds) (iw (VQ ds) (Z1 1 6 (.b (decide ((ds.length:Int)>4))) (ie (ZT ((ds.length:Int)>4) (fun Ze=>?_) (fun Ze=>?_)))))))))))
 ·refine ar (ir 1 [(2,.b false)] (ie ?_))
  exact Zc (r2 [] [.b false] ⟨rfl,rfl⟩ (lb (by first|rfl|omega|grind [Wi])))
 refine ak (aq (ar (Z1 1 3 (.i 0) (ie (ab 0 (al (fun m F h=>∃(k:Nat),(k<=ds.length)/\(Uo ds (ds.drop k) k=Uo ds ds 0)/\F=[(0,Zd ds),(3,.i k)]/\h=[]/\m=ds.length-k) _ _ _ ⟨0,ob,ob,rfl,rfl,rfl⟩ (wk [] (fr (Yh fl))) ?_))))))
 rintro m F h ⟨k,Yo,Zp,rfl,rfl,rfl⟩
 refine aq (ar (Yq 2 7 (.i k) 8 (Zd ds) (iw (VQ ds) (Z1 1 10 (.b (decide ((k:Int)<(ds.length:Int)))) (ie (ZT ((k:Int)<(ds.length:Int)) (fun Zl=>?_) (fun Zl=>?_)))))))
 ·refine ak (aq (ab 1 (ar (Yq 2 13 (Zd ds) 14 (.i k) (Zz [] (Z5u ds k) (Z1 1 16 (.b (!JV ds k)) (ie (ac (!JV ds k) (p:=¬(JV ds k=true)) (Yp Iff.rfl) (fun ZI=>?_) (fun ZI=>?_)))))))))
  ·refine ar (ir 1 [(2,.b false)] (ie ?_))
   try rw [Xz (xs:=ds) (k:=k) om] at Zp
   obtain ⟨x1,Z3⟩:=Zu (xs:=ds) (j:=k) om
   rw [Yd Z3] at Zp
   exact Zc (r2 [] [.b false] ⟨rfl,rfl⟩ (lb (by first|rfl|omega|grind [Uo,Wi])))
  refine ak (az (Z1 1 11 (.i k) (ZO k (ir 1 [(0,Zd ds),(3,.i (k+1:Nat))] (ie ?_)))))
  obtain ⟨x1,Z3⟩:=Zu (xs:=ds) (j:=k) om
  have hdr:=Yd Z3
  exact ZU ⟨k+1,ob,(by rw [hdr] at Zp;clear hdr ;grind [Uo]),rfl,rfl,rfl⟩ (wk [] (fr (ZW k fl)))
 refine ax 0 (ar (ir 1 [(2,.b true)] (ie ?_)))
 try rw [Xz (xs:=ds) (k:=k) om] at Zp
 exact Zc (r2 [] [.b true] ⟨rfl,rfl⟩ (lb (by first|rfl|omega|grind [Uo,Wi])))
theorem Z5n (n:Zx) (hz:n.routines.length<=4194304:=by exact ob):Zk Tryz.prog 95 [ZB n] [] (fun r h=>r=.agg [Zd n.decls,.sl (Wr (n.routines.map Vy)) none]/\h=[]):=by
 refine ZL 35 Tryz.func95 (ar (iA (ZM n) ?_))
 intro b1
 refine iA [nl,nl] ?_
 intro b2
 refine ie (ar (iR 2 [(1,.p b1 0),(2,.p b2 0),(6,Zd n.decls)] [1] [b1] (iL (Wr []) 0 5 ?_)))
 intro v1
 refine Z1 1 8 (.agg [Zd n.decls,.sl (Wr []) (some v1)]) (iA [nl,nl] ?_)
 intro b3
 refine ZG 0 b3 [Zd n.decls,.sl (Wr []) (some v1)] (ie (aq (ar (Z1 1 4 (.i 0) (ie (ab 0 (al (fun m F h=>∃(k:Nat) (v:Value),(k<=n.routines.length)/\F=[(1,.p b1 0),(2,.p b2 0),(3,.p b3 0),(4,.i k)]/\h=[.obj b3 [Zd n.decls,.sl (Wr ((n.routines.take k).map Vy)) (some v)],.obj b2 [nl,nl],.obj b1 (ZM n),.tail v 5]/\m=n.routines.length-k) _ _ _ ⟨0,v1,ob,rfl,rfl,rfl⟩ (wk [0,1,1,0] (fw (fr (Yh fl)))) ?_)))))))
 rintro m F h ⟨k,v,Yo,rfl,rfl,rfl⟩
 refine aq (ar (ZY 3 9 (.i k) 11 (X9 n.routines) [2] [b1] (iw (Ur n.routines) (Z1 1 13 (.b (decide ((k:Int)<(n.routines.length:Int)))) (ie (ZT ((k:Int)<(n.routines.length:Int)) (fun Ze=>?_) (fun Ze=>?_)))))))
 ·refine ak (aq (ab 1 (aE 19 (Y5 14 19 [0,1,2,3,4] (.n 17 (.sl (Wr ((n.routines.take k).map Vy)) (some v)) (.n 19 (X9 n.routines) (.n 20 (.i k) .r))) [0,2] [b3,b1] ?_))))
  obtain ⟨x1,Z3⟩:=Zu (xs:=n.routines) (j:=k) om
  refine dx 5 (Zn none (k:Int) 5 (WJ Z3)) (Y5 8 13 [6,7,8,9,10] (.n 23 (Z0 x1.params) (.n 25 (X9 n.routines) (.n 26 (.i k) .r))) [2] [b1] (dx 11 (Zn none (k:Int) 5 (WJ Z3)) (ZX 4 7 [12,13,14] 30 (.agg [Z0 x1.params,.i x1.result,.i 0,.i 0,.sl [] none]) (Z9 15 (dL 15 [0] [b3] (Wr [Sg.mk x1.params x1.result]) 1 5 ?_)))))
  intro v2
  refine ZZ 3 3 [] (.n 31 (.sl (Wr [Sg.mk x1.params x1.result]) none) (.p .r)) (Z9 16 (dp 16 4 [] [] (Wr ((n.routines.take (k+1)).map Vy)) (Wr ((n.routines.take k).map Vy)) (Wr [Sg.mk x1.params x1.result]) v none 5 (It _) (It _) (Rd _) (by simp<;>omega) (by rw [WS Z3];simp [Wr,Vy]) ?_))
  intro v3
  refine ZX 1 2 [17] 33 (.p b3 1) (Z9 18 (YG 18 2 [] [] b3 [Zd n.decls,.sl (Wr ((n.routines.take (k+1)).map Vy)) (some v3)] (de (az (Z1 1 14 (.i k) (ZO k (ir 1 [(1,.p b1 0),(2,.p b2 0),(3,.p b3 0),(4,.i (k+1:Nat))] (ie ?_))))))))
  have hdr:=Yd Z3
  exact ZU ⟨k+1,v3,ob,rfl,rfl,rfl⟩ (wk [0,2,2,0] (fw (fr (ZW k fl))))
 refine ax 0 (ar (Yn 1 34 (.agg [Zd n.decls,.sl (Wr ((n.routines.take k).map Vy)) (some v)]) [0] [b3] (ZG 1 b2 [Zd n.decls,.sl (Wr ((n.routines.take k).map Vy)) (some v)] (ie ?_))))
 exact Zc (r3 [] [.agg [Zd n.decls,.sl (Wr ((n.routines.take k).map Vy)) (some v)]] [0] [(b2,b2)] ⟨rfl,rfl⟩ (Zg.agg (.cons (lr _) (.cons (Zg.sl _ (Yw Wr (by rw [show k=n.routines.length by omega,WP]))) .nil))))
theorem Z5y (ds:List Zf) (fs:List Sg) (hz:Qu ds:=by exact ob) (hf:∀f∈fs,f.params.length<=4194304):Zk Tryz.prog 94 [.agg [Zd ds,.sl (Wr fs) none]] [] (fun r h=>r=.b (Q6 ds fs)/\h=[]):=by
 have hzl:=hz.len
 refine ZL 64 Tryz.func94 (ar (iA [Zd ds,.sl (Wr fs) none] ?_))
 intro b1
 refine ir 1 [(1,.p b1 0)] (ie (aq (ar (Yn 2 6 (Zd ds) [0] [b1] (Zz [] (Z5z ds) (Xm [(1,.p b1 0),(15,.b ((!Wi ds)||(!(decide (1<=(fs.length:Int)/\(fs.length:Int)<=4)))))] [.obj b1 [Zd ds,.sl (Wr fs) none]] ?_ ?_))))))
 ·refine ir 2 [(1,.p b1 0),(9,.b (!Wi ds))] (ib (b:=(!Wi ds)) 9 (fun Zb=>?_) (fun Zb=>?_))
  ·have ZP:¬(Wi ds=true):=((Yp Iff.rfl)).1 Zb
   refine ir 6 [(1,.p b1 0),(15,.b true)] (ie ?_)
   exact wk [0] (fr (Zs true Zb fl))
  have Y1:¬(¬(Wi ds=true)):=ZF (Yp Iff.rfl) Zb
  refine Y0 2 (.n 11 (.sl (Wr fs) none) (.k (.k .z))) [0] [b1] (iw (Iu fs) (Zz [] (Uz (fs.length:Int) 1 4) (Z1 2 15 (.b (!(decide (1<=(fs.length:Int)/\(fs.length:Int)<=4)))) (ie ?_))))
  exact wk [0] (fr (Zs (!(decide (1<=(fs.length:Int)/\(fs.length:Int)<=4))) Zb fl))
 refine ac ((!Wi ds)||(!(decide (1<=(fs.length:Int)/\(fs.length:Int)<=4)))) (p:=(¬(Wi ds=true))∨(¬(1<=(fs.length:Int)/\(fs.length:Int)<=4))) (Yc (Yp Iff.rfl) (Yp dq)) (fun Ze=>?_) (fun Ze=>?_)
 ·refine ar (ir 1 [(2,.b false)] (ie ?_))
  exact Zc (r2 [] [.b false] ⟨rfl,rfl⟩ (lb (by first|rfl|omega|grind [Q6])))
 refine ak (aq (ar (ir 1 [(1,.p b1 0),(3,.i 0)] (ie (ab 0 (al (fun m F h=>∃(k:Nat),(k<=fs.length)/\(QT ds.length (fs.drop k)=QT ds.length fs)/\F=[(1,.p b1 0),(3,.i k)]/\h=[.obj b1 [Zd ds,.sl (Wr fs) none]]/\m=fs.length-k) _ _ _ ⟨0,ob,ob,rfl,rfl,rfl⟩ (wk [0] (fr (Yh fl))) ?_))))))
 rintro m F h ⟨k,Yo,Zp,rfl,rfl,rfl⟩
 refine aq (ar (ZY 3 16 (.i k) 18 (.sl (Wr fs) none) [0] [b1] (iw (Iu fs) (Z1 1 20 (.b (decide ((k:Int)<(fs.length:Int)))) (ie (ZT ((k:Int)<(fs.length:Int)) (fun Zl=>?_) (fun Zl=>?_)))))))
 ·refine ak (aq (ab 1 (ar (ZY 3 24 (.sl (Wr fs) none) 25 (.i k) [0] [b1] ?_))))
  obtain ⟨x1,Z3⟩:=Zu (xs:=fs) (j:=k) om
  refine Zq (Zn none (k:Int) 5 (FC Z3)) (Z1 1 27 (.agg [Z0 x1.params,.i x1.result,.i 0,.i 0,.sl [] none]) (iA [nl,.i 0,.i 0,.i 0,nl] ?_))
  intro b2
  refine ZG 0 b2 [Z0 x1.params,.i x1.result,.i 0,.i 0,.sl [] none] (ie (ar (Yn 2 29 (Z0 x1.params) [0] [b2] (iw (Yf x1.params) (XH 12 [(1,.p b1 0),(3,.i k),(4,.p b2 0),(39,.b ((decide ((x1.params.length:Int)>3))||(!X1 ds.length x1.params)))] [.obj b2 [Z0 x1.params,.i x1.result,.i 0,.i 0,.sl [] none],.obj b1 [Zd ds,.sl (Wr fs) none]] ?_ (fun hj1=>?_))))))
  ·refine Xm [(1,.p b1 0),(3,.i k),(48,.b (((decide ((x1.params.length:Int)>3))||(!X1 ds.length x1.params))||(!(decide (0<=x1.result/\x1.result<=(ds.length:Int))))))] [.obj b2 [Z0 x1.params,.i x1.result,.i 0,.i 0,.sl [] none],.obj b1 [Zd ds,.sl (Wr fs) none]] ?_ ?_
   ·refine ir 1 [(1,.p b1 0),(3,.i k),(4,.p b2 0),(40,.b ((decide ((x1.params.length:Int)>3))||(!X1 ds.length x1.params)))] (ib (b:=((decide ((x1.params.length:Int)>3))||(!X1 ds.length x1.params))) 40 (fun Zv=>?_) (fun Zv=>?_))
    ·have YB:((x1.params.length:Int)>3)∨(¬(X1 ds.length x1.params=true)):=((Yc dq (Yp Iff.rfl))).1 Zv
     refine Z6 8 (.n 48 (.b true) (.d (.k (.k .z)))) (ie ?_)
     exact wk [0,0] (fw (Zs true Zv fl))
    have YM:¬(((x1.params.length:Int)>3)∨(¬(X1 ds.length x1.params=true))):=ZF (Yc dq (Yp Iff.rfl)) Zv
    refine Y0 4 (.n 42 (.i x1.result) (.n 44 (Zd ds) (.k (.k (.k .z))))) [0,1] [b2,b1] (iw (VQ ds) (Zz [] (Uz x1.result 0 (ds.length:Int)) (Z1 2 48 (.b (!(decide (0<=x1.result/\x1.result<=(ds.length:Int))))) (ie ?_))))
    exact wk [0,0] (fw (Zs (!(decide (0<=x1.result/\x1.result<=(ds.length:Int)))) Zv fl))
   refine ac (((decide ((x1.params.length:Int)>3))||(!X1 ds.length x1.params))||(!(decide (0<=x1.result/\x1.result<=(ds.length:Int))))) (p:=(((x1.params.length:Int)>3)∨(¬(X1 ds.length x1.params=true)))∨(¬(0<=x1.result/\x1.result<=(ds.length:Int)))) (Yc (Yc dq (Yp Iff.rfl)) (Yp dq)) (fun ZI=>?_) (fun ZI=>?_)
   ·refine ar (ir 1 [(2,.b false)] (ie ?_))
    rw [Yd Z3] at Zp
    exact Zc (r2 [] [.b false] ⟨rfl,rfl⟩ (lb (by clear Z3;first|rfl|omega|grind [QT,QS,Q6])))
   refine ak (az (ir 1 [(1,.p b1 0),(21,.i k)] (ZO k (Z1 1 3 (.i (k+1:Nat)) (ie ?_)))))
   have hdr:=Yd Z3
   exact ZU ⟨k+1,ob,(by rw [hdr] at Zp;clear hdr Z3;grind [QT,QS]),rfl,rfl,rfl⟩ (wk [1] (fr (ZW k fl)))
  refine ir 2 [(1,.p b1 0),(3,.i k),(4,.p b2 0),(32,.b (decide ((x1.params.length:Int)>3)))] (ib (b:=(decide ((x1.params.length:Int)>3))) 32 (fun Yx=>?_) (fun Yx=>?_))
  ·have YX:(x1.params.length:Int)>3:=(dq).1 Yx
   refine Z6 7 (.n 39 (.b true) (.d (.k (.k (.k .z))))) ?_
   exact YC (wk [0,0] (fw (fr (Zs true Yx fl)))) hj1
  have Xv:¬((x1.params.length:Int)>3):=ZF dq Yx
  refine Y0 4 (.n 34 (Zd ds) (.n 36 (Z0 x1.params) (.w .z))) [1,0] [b1,b2] (Zz [] (Hb ds x1.params) (Z1 2 39 (.b (!X1 ds.length x1.params)) ?_))
  exact YC (wk [0,0] (fw (fr (Zs (!X1 ds.length x1.params) Yx fl)))) hj1
 refine ax 0 (ar (Yn 2 50 (.sl (Wr fs) none) [0] [b1] ?_))
 obtain ⟨x2,Zy⟩:=Zu (xs:=fs) (j:=0) om
 have hfo:=Rp Zy
 refine Zq (Zn none 0 5 (FC Zy)) (Z1 2 53 (Z0 x2.params) (iw (Yf x2.params) (XH 15 [(63,.b (((x2.params.length:Int)==0)&&(x2.result==0)))] [.obj b1 [Zd ds,.sl (Wr fs) none]] ?_ (fun hj2=>?_))))
 ·refine ir 1 [(2,.b (((x2.params.length:Int)==0)&&(x2.result==0)))] (ie ?_)
  try rw [Xz (xs:=fs) (k:=k) om] at Zp
  exact Zc (r2 [] [.b (((x2.params.length:Int)==0)&&(x2.result==0))] ⟨rfl,rfl⟩ (lb (by clear Zy;first|rfl|omega|grind [QT,QS,Q6])))
 refine ir 2 [(1,.p b1 0),(56,.b ((x2.params.length:Int)==0))] (ib (b:=((x2.params.length:Int)==0)) 56 (fun Xh=>?_) (fun Xh=>?_))
 ·have Wb:(x2.params.length:Int)=0:=(Zh).1 Xh
  refine Y0 2 (.n 58 (.sl (Wr fs) none) (.k .z)) [0] [b1] (Zq (Zn none 0 5 (FC Zy)) (ir 4 [(63,.b (x2.result==0))] ?_))
  exact YC (wk [0] (Zs (x2.result==0) Xh fl)) hj2
 have WE:¬((x2.params.length:Int)=0):=ZF Zh Xh
 refine ir 7 [(63,.b false)] ?_
 exact YC (wk [0] (Zs false Xh fl)) hj2
theorem Z5w (ps:List Int) (ls:List Int) (hl_ps:ps.length<=4294967296:=by exact ob) (hl_ls:ls.length<=4294967296:=by exact ob):Zk Tryz.prog 96 [Z0 ps,Z0 ls] [] (fun r h=>r=.b (QY ps ls)/\h=[]):=by
 refine ZL 47 Tryz.func96 (ar (ir 1 [(0,Z0 ps),(1,Z0 ls)] (ie (aq (ar (Z1 1 5 (.i 0) (ie (ab 0 (al (fun m F h=>∃(k:Nat),(k<=ls.length)/\(Qi ps (ls.drop k) (if k=0 then none else ls[k-1]?)=QY ps ls)/\F=[(0,Z0 ps),(1,Z0 ls),(5,.i k)]/\h=[]/\m=ls.length-k) _ _ _ ⟨0,ob,ob,rfl,rfl,rfl⟩ (wk [] (fw (Yh fl))) ?_)))))))))
 rintro m F h ⟨k,Yo,Zp,rfl,rfl,rfl⟩
 refine aq (ar (Yq 2 6 (.i k) 7 (Z0 ls) (iw (Yf ls) (Z1 1 9 (.b (decide ((k:Int)<(ls.length:Int)))) (ie (ZT ((k:Int)<(ls.length:Int)) (fun Ze=>?_) (fun Ze=>?_)))))))
 ·refine ak (aq (ab 1 (aD 35 (ZZ 33 35 [0,1] (.n 12 (Z0 ls) (.n 13 (.i k) .r)) ?_))))
  obtain ⟨x1,Z3⟩:=Zu (xs:=ls) (j:=k) om
  refine dx 2 (Zn none (k:Int) 1 (Y4 Z3)) (ZZ 30 32 [3,4] (.n 15 (.i x1) (.n 16 (Z0 ps) .r)) (dw 5 (Yf ps) (da 6 (((ps.length:Int)-1)) (((ps.length:Int))-(1)) (Z9 7 (Yv 7 [] [] [] (Uz x1 0 ((ps.length:Int)-1)) (ZX 25 27 [8,9] 21 (.b (!(decide (0<=x1/\x1<=((ps.length:Int)-1))))) (db (b:=(!(decide (0<=x1/\x1<=((ps.length:Int)-1))))) 21 (fun Zb=>?_) (fun Zb=>?_))))))))
  ·have ZP:¬(0<=x1/\x1<=((ps.length:Int)-1)):=((Yp dq)).1 Zb
   refine ZZ 0 25 [10,11,12,13,14,15,16,17,18,19,20,21,22,23,24,25,26,27,28,29,30,31,32,33,34] (.n 46 (.b true) (.k (.d .r))) (de (WW (ar (ir 1 [(4,.b false)] (ie ?_)))))
   rw [Yd Z3] at Zp
   exact Zc (r2 [] [.b false] ⟨rfl,rfl⟩ (lb (by have hq:=E5 (ps:=ps) (v:=x1) (r:=ls.drop (k+1)) (prev:=if k=0 then none else ls[k-1]?);rw [<-Zp,hq];rintro ⟨q1,q2,q3⟩;first|omega|(rw [hps] at q2;exact q2 (Yw some om))|(have:=q3 _ (by rw [Za om,hls]);omega))))
  have Y1:¬(¬(0<=x1/\x1<=((ps.length:Int)-1))):=ZF (Yp dq) Zb
  refine ZZ 22 25 [10,11,12] (.n 22 (Z0 ps) (.n 23 (Z0 ls) (.n 24 (.i k) (.k (.d .r))))) (dx 13 (Zn none (k:Int) 1 (Y4 Z3)) (ZX 20 21 [14] 26 (.i x1) ?_))
  obtain ⟨x2,Zy⟩:=Zu (xs:=ps) (j:=x1.toNat) om
  have hps:=Zy
  refine dx 15 (Zn none x1 1 (Y4 Zy)) (ZX 15 19 [16,17,18,19] 31 (.b (x2==0)) (db (b:=(x2==0)) 31 (fun Zv=>?_) (fun Zv=>?_)))
  ·have YB:x2=0:=(Zh).1 Zv
   refine ZZ 0 15 [20,21,22,23,24,25,26,27,28,29,30,31,32,33,34] (.n 46 (.b true) (.k (.d .r))) (de (WW (ar (ir 1 [(4,.b false)] (ie ?_)))))
   rw [Yd Z3] at Zp
   exact Zc (r2 [] [.b false] ⟨rfl,rfl⟩ (lb (by have hq:=E5 (ps:=ps) (v:=x1) (r:=ls.drop (k+1)) (prev:=if k=0 then none else ls[k-1]?);rw [<-Zp,hq];rintro ⟨q1,q2,q3⟩;first|omega|(rw [hps] at q2;exact q2 (Yw some om))|(have:=q3 _ (by rw [Za om,hls]);omega))))
  have YM:¬(x2=0):=ZF Zh Zv
  refine ZZ 12 15 [20,21,22] (.n 34 (.b (decide ((k:Int)>0))) (.k (.d .r))) (db (b:=(decide ((k:Int)>0))) 34 (fun Yx=>?_) (fun Yx=>?_))
  ·have YX:(k:Int)>0:=(dq).1 Yx
   refine ZZ 10 12 [23,24] (.n 35 (Z0 ls) (.n 36 (.i k) (.k (.d .r)))) (dx 25 (Zn none (k:Int) 1 (Y4 Z3)) (ZZ 6 9 [26,27,28] (.n 38 (.i x1) (.n 39 (Z0 ls) (.n 40 (.i k) .r))) (da 29 (((k-1:Nat):Int)) (((k:Int))-(1)) ?_)))
   obtain ⟨x3,YT⟩:=Zu (xs:=ls) (j:=k-1) om
   have hls:=YT
   refine dx 30 (Zn none ((k-1:Nat):Int) 1 (Y4 YT)) (ZX 0 4 [31,32,33,34] 46 (.b (decide (x1<=x3))) (de (ZT (x1<=x3) (fun Zl=>?_) (fun Zl=>?_))))
   ·refine ar (ir 1 [(4,.b false)] (ie ?_))
    rw [Yd Z3] at Zp
    exact Zc (r2 [] [.b false] ⟨rfl,rfl⟩ (lb (by have hq:=E5 (ps:=ps) (v:=x1) (r:=ls.drop (k+1)) (prev:=if k=0 then none else ls[k-1]?);rw [<-Zp,hq];rintro ⟨q1,q2,q3⟩;first|omega|(rw [hps] at q2;exact q2 (Yw some om))|(have:=q3 _ (by rw [Za om,hls]);omega))))
   refine ak (az (Z1 1 10 (.i k) (ZO k (ir 1 [(0,Z0 ps),(1,Z0 ls),(5,.i (k+1:Nat))] (ie ?_)))))
   have hl1:ls[k+1-1]? = some x1:=Z3
   have hlc:(0<=x1/\x1<=(ps.length:Int)-1)/\ps[x1.toNat]?≠some 0/\(∀p,(if k=0 then none else ls[k-1]?)=some p->p<x1):=⟨by omega,by rw [hps];intro q;cases q;omega,fun p hp=>by first|(rw [Za om,hls] at hp;cases hp;omega)|(rw [Zj om] at hp;cases hp)⟩
   have hdr:=Yd Z3
   exact ZU ⟨k+1,ob,(by have hq:=Gx (r:=ls.drop (k+1)) hlc;rw [hdr,hq] at Zp;rw [Za om,hl1];exact Zp),rfl,rfl,rfl⟩ (wk [] (fw (ZW k fl)))
  have Xv:¬((k:Int)>0):=ZF dq Yx
  refine ZZ 0 12 [23,24,25,26,27,28,29,30,31,32,33,34] (.n 46 (.b false) (.k (.d .r))) (de (WV (ak (az (Z1 1 10 (.i k) (ZO k (ir 1 [(0,Z0 ps),(1,Z0 ls),(5,.i (k+1:Nat))] (ie ?_))))))))
  have hl1:ls[k+1-1]? = some x1:=Z3
  have hlc:(0<=x1/\x1<=(ps.length:Int)-1)/\ps[x1.toNat]?≠some 0/\(∀p,(if k=0 then none else ls[k-1]?)=some p->p<x1):=⟨by omega,by rw [hps];intro q;cases q;omega,fun p hp=>by first|(rw [Za om,hls] at hp;cases hp;omega)|(rw [Zj om] at hp;cases hp)⟩
  have hdr:=Yd Z3
  exact ZU ⟨k+1,ob,(by have hq:=Gx (r:=ls.drop (k+1)) hlc;rw [hdr,hq] at Zp;rw [Za om,hl1];exact Zp),rfl,rfl,rfl⟩ (wk [] (fw (ZW k fl)))
 refine ax 0 (ar (ir 1 [(4,.b true)] (ie ?_)))
 try rw [Xz (xs:=ls) (k:=k) om] at Zp
 exact Zc (r2 [] [.b true] ⟨rfl,rfl⟩ (lb (by first|rfl|omega|grind [Qi])))
theorem Nw (n:Zx) (hz:Qu n.decls:=by exact ob) (hr:∀r∈n.routines,r.params.length<=4194304/\r.lent.length<=4194304):Zk Tryz.prog 57 [ZB n] [] (fun r h=>r=.b (XI n)/\h=[]):=by
 have hzl:=hz.len
 refine ZL 35 Tryz.func57 (ar (iA (ZM n) ?_))
 intro b1
 refine ir 1 [(1,.p b1 0)] (ie (aq (ar (Yn 2 5 (X9 n.routines) [0] [b1] (iw (Ur n.routines) (Xm [(1,.p b1 0),(13,.b ((decide ((n.routines.length:Int)>4))||(!Q6 n.decls (n.routines.map Vy))))] [.obj b1 (ZM n)] ?_ ?_))))))
 ·refine ir 2 [(1,.p b1 0),(8,.b (decide ((n.routines.length:Int)>4)))] (ib (b:=(decide ((n.routines.length:Int)>4))) 8 (fun Zb=>?_) (fun Zb=>?_))
  ·have ZP:(n.routines.length:Int)>4:=(dq).1 Zb
   refine ir 5 [(1,.p b1 0),(13,.b true)] (ie ?_)
   exact wk [0] (fr (Zs true Zb fl))
  have Y1:¬((n.routines.length:Int)>4):=ZF dq Zb
  refine Y0 1 (.n 9 (ZB n) (.k (.k .z))) [0] [b1] (Zz [] (Z5n n) (Zz [] (Z5y n.decls (n.routines.map Vy) (hf:=(by intro f hf;obtain ⟨r,h1,rfl⟩:=W4.1 hf;exact (hr r h1).1))) (Z1 2 13 (.b (!Q6 n.decls (n.routines.map Vy))) (ie ?_))))
  exact wk [0] (fr (Zs (!Q6 n.decls (n.routines.map Vy)) Zb fl))
 refine ac ((decide ((n.routines.length:Int)>4))||(!Q6 n.decls (n.routines.map Vy))) (p:=((n.routines.length:Int)>4)∨(¬(Q6 n.decls (n.routines.map Vy)=true))) (Yc dq (Yp Iff.rfl)) (fun Ze=>?_) (fun Ze=>?_)
 ·refine ar (ir 1 [(2,.b false)] (ie ?_))
  exact Zc (r2 [] [.b false] ⟨rfl,rfl⟩ (lb (by first|rfl|omega|grind [XI])))
 refine ak (aq (ar (ir 1 [(1,.p b1 0),(3,.i 0)] (ie (ab 0 (al (fun m F h=>∃(k:Nat),(k<=n.routines.length)/\(KF (n.routines.drop k)=KF n.routines)/\F=[(1,.p b1 0),(3,.i k)]/\h=[.obj b1 (ZM n)]/\m=n.routines.length-k) _ _ _ ⟨0,ob,ob,rfl,rfl,rfl⟩ (wk [0] (fr (Yh fl))) ?_))))))
 rintro m F h ⟨k,Yo,Zp,rfl,rfl,rfl⟩
 refine aq (ar (ZY 3 14 (.i k) 16 (X9 n.routines) [0] [b1] (iw (Ur n.routines) (Z1 1 18 (.b (decide ((k:Int)<(n.routines.length:Int)))) (ie (ZT ((k:Int)<(n.routines.length:Int)) (fun Zl=>?_) (fun Zl=>?_)))))))
 ·refine ak (aq (ab 1 (aD 14 (Y5 11 14 [0,1,2] (.n 22 (X9 n.routines) (.n 23 (.i k) .r)) [0] [b1] ?_))))
  obtain ⟨x1,Z3⟩:=Zu (xs:=n.routines) (j:=k) om
  refine dx 3 (Zn none (k:Int) 5 (WJ Z3)) (Y5 5 10 [4,5,6,7,8] (.n 26 (Z0 x1.params) (.n 28 (X9 n.routines) (.n 29 (.i k) .r))) [0] [b1] (dx 9 (Zn none (k:Int) 5 (WJ Z3)) (ZX 2 4 [10,11] 32 (Z0 x1.lent) (Z9 12 (Yv 12 [] [] [] (Z5w x1.params x1.lent (hl_ps:=(by have:=hr _ (Y7 Z3);omega)) (hl_ls:=(by have:=hr _ (Y7 Z3);omega))) (ZX 0 1 [13] 34 (.b (!QY x1.params x1.lent)) (de (ac (!QY x1.params x1.lent) (p:=¬(QY x1.params x1.lent=true)) (Yp Iff.rfl) (fun ZI=>?_) (fun ZI=>?_)))))))))
  ·refine ar (ir 1 [(2,.b false)] (ie ?_))
   rw [Yd Z3] at Zp
   exact Zc (r2 [] [.b false] ⟨rfl,rfl⟩ (lb (by clear Z3;first|rfl|omega|grind [KF,XI])))
  refine ak (az (Z1 1 19 (.i k) (ZO k (ir 1 [(1,.p b1 0),(3,.i (k+1:Nat))] (ie ?_)))))
  have hdr:=Yd Z3
  exact ZU ⟨k+1,ob,(by rw [hdr] at Zp;clear hdr Z3;grind [KF]),rfl,rfl,rfl⟩ (wk [0] (fr (ZW k fl)))
 refine ax 0 (ar (ir 1 [(2,.b true)] (ie ?_)))
 try rw [Xz (xs:=n.routines) (k:=k) om] at Zp
 exact Zc (r2 [] [.b true] ⟨rfl,rfl⟩ (lb (by first|rfl|omega|grind [KF,XI])))
theorem QU (op:Int) :Zk Tryz.prog 99 [.i op] [] (fun r h=>r=.b (X3 op)/\h=[]):=by
 refine ZL 5 Tryz.func99 (ar (ir 1 [(0,.i op)] (ie (ar (ir 1 [(3,.i op)] (Zz [] (Uz op 0 11) (ir 1 [(2,.b (decide (0<=op/\op<=11)))] (ie ?_))))))))
 exact Zc (r2 [] [.b (decide (0<=op/\op<=11))] ⟨rfl,rfl⟩ (lb (by first|rfl|omega|grind [X3])))
theorem Z5c (op:Int) :Zk Tryz.prog 134 [.i op] [] (fun r h=>r=.b (WK op)/\h=[]):=by
 refine ZL 21 Tryz.func134 (ar (ir 1 [(0,.i op)] (ie (ar (XH 6 [(0,.i op),(8,.b ((op==0)||(op==6)))] [] ?_ (fun hj1=>?_))))))
 ·refine XH 10 [(0,.i op),(12,.b (((op==0)||(op==6))||(op==8)))] [] ?_ (fun hj2=>?_)
  ·refine XH 14 [(0,.i op),(16,.b ((((op==0)||(op==6))||(op==8))||(op==9)))] [] ?_ (fun hj3=>?_)
   ·refine XH 18 [(20,.b (((((op==0)||(op==6))||(op==8))||(op==9))||(op==10)))] [] ?_ (fun hj4=>?_)
    ·refine ir 1 [(2,.b (((((op==0)||(op==6))||(op==8))||(op==9))||(op==10)))] (ie ?_)
     exact Zc (r2 [] [.b (((((op==0)||(op==6))||(op==8))||(op==9))||(op==10))] ⟨rfl,rfl⟩ (lb (by rw [WK];simp only [Bool.or_assoc])))
    refine ir 1 [(0,.i op),(17,.b ((((op==0)||(op==6))||(op==8))||(op==9)))] (ib (b:=((((op==0)||(op==6))||(op==8))||(op==9))) 17 (fun Zb=>?_) (fun Zb=>?_))
    ·have ZP:(((op=0)∨(op=6))∨(op=8))∨(op=9):=((Yc (Yc (Yc Zh Zh) Zh) Zh)).1 Zb
     refine ir 3 [(20,.b true)] ?_
     exact YC (wk [] (Zs true Zb fl)) hj4
    have Y1:¬((((op=0)∨(op=6))∨(op=8))∨(op=9)):=ZF (Yc (Yc (Yc Zh Zh) Zh) Zh) Zb
    refine ir 3 [(20,.b (op==10))] ?_
    exact YC (wk [] (Zs (op==10) Zb fl)) hj4
   refine ir 1 [(0,.i op),(13,.b (((op==0)||(op==6))||(op==8)))] (ib (b:=(((op==0)||(op==6))||(op==8))) 13 (fun Zv=>?_) (fun Zv=>?_))
   ·have YB:((op=0)∨(op=6))∨(op=8):=((Yc (Yc Zh Zh) Zh)).1 Zv
    refine ir 3 [(0,.i op),(16,.b true)] ?_
    exact YC (wk [] (fr (Zs true Zv fl))) hj3
   have YM:¬(((op=0)∨(op=6))∨(op=8)):=ZF (Yc (Yc Zh Zh) Zh) Zv
   refine ir 3 [(0,.i op),(16,.b (op==9))] ?_
   exact YC (wk [] (fr (Zs (op==9) Zv fl))) hj3
  refine ir 1 [(0,.i op),(9,.b ((op==0)||(op==6)))] (ib (b:=((op==0)||(op==6))) 9 (fun Yx=>?_) (fun Yx=>?_))
  ·have YX:(op=0)∨(op=6):=((Yc Zh Zh)).1 Yx
   refine ir 3 [(0,.i op),(12,.b true)] ?_
   exact YC (wk [] (fr (Zs true Yx fl))) hj2
  have Xv:¬((op=0)∨(op=6)):=ZF (Yc Zh Zh) Yx
  refine ir 3 [(0,.i op),(12,.b (op==8))] ?_
  exact YC (wk [] (fr (Zs (op==8) Yx fl))) hj2
 refine ir 3 [(0,.i op),(5,.b (op==0))] (ib (b:=(op==0)) 5 (fun Xh=>?_) (fun Xh=>?_))
 ·have Wb:op=0:=(Zh).1 Xh
  refine ir 3 [(0,.i op),(8,.b true)] ?_
  exact YC (wk [] (fr (Zs true Xh fl))) hj1
 have WE:¬(op=0):=ZF Zh Xh
 refine ir 3 [(0,.i op),(8,.b (op==6))] ?_
 exact YC (wk [] (fr (Zs (op==6) Xh fl))) hj1
theorem Ai (us:List Int) (args:List Int) (tys:List Int) (hl_us:us.length<=4294967296:=by exact ob) (hl_args:args.length<=4294967296:=by exact ob) (hl_tys:tys.length<=4294967296:=by exact ob):Zk Tryz.prog 136 [Z0 us,Z0 args,Z0 tys] [] (fun r h=>r=.b (XS us args tys)/\h=[]):=by
 refine ZL 42 Tryz.func136 (ar (ir 1 [(0,Z0 us),(1,Z0 args),(2,Z0 tys)] (ie (aq (ar (Z1 1 8 (Z0 args) (iw (Yf args) (Z1 1 10 (Z0 tys) (iw (Yf tys) (Z1 1 12 (.b ((args.length:Int) != (tys.length:Int))) (ie (ac ((args.length:Int) != (tys.length:Int)) Yg (fun Ze=>?_) (fun Ze=>?_)))))))))))))
 ·refine ar (ir 1 [(6,.b false)] (ie ?_))
  exact Zc (r2 [] [.b false] ⟨rfl,rfl⟩ (lb (NX om).symm))
 refine ak (aq (ar (Z1 1 7 (.i 0) (ie (ab 0 (al (fun m F h=>∃(k:Nat),(k<=args.length)/\(UO us (args.drop k) (tys.drop k)=XS us args tys)/\F=[(0,Z0 us),(1,Z0 args),(2,Z0 tys),(7,.i k)]/\h=[]/\m=args.length-k) _ _ _ ⟨0,ob,ob,rfl,rfl,rfl⟩ (wk [] (fw (fr (Yh fl)))) ?_))))))
 rintro m F h ⟨k,Yo,Zp,rfl,rfl,rfl⟩
 refine aq (ar (Yq 2 13 (.i k) 14 (Z0 args) (iw (Yf args) (Z1 1 16 (.b (decide ((k:Int)<(args.length:Int)))) (ie (ZT ((k:Int)<(args.length:Int)) (fun Zl=>?_) (fun Zl=>?_)))))))
 ·refine ak (aq (ab 1 (aD 23 (ZZ 21 23 [0,1] (.n 19 (Z0 args) (.n 20 (.i k) .r)) ?_))))
  obtain ⟨x1,Z3⟩:=Zu (xs:=args) (j:=k) om
  refine dx 2 (Zn none (k:Int) 1 (Y4 Z3)) (ZZ 18 20 [3,4] (.n 22 (.i x1) (.n 23 (Z0 us) .r)) (dw 5 (Yf us) (da 6 (((us.length:Int)-1)) (((us.length:Int))-(1)) (Z9 7 (Yv 7 [] [] [] (Uz x1 0 ((us.length:Int)-1)) (ZX 13 15 [8,9] 28 (.b (!(decide (0<=x1/\x1<=((us.length:Int)-1))))) (db (b:=(!(decide (0<=x1/\x1<=((us.length:Int)-1))))) 28 (fun Zb=>?_) (fun Zb=>?_))))))))
  ·have ZP:¬(0<=x1/\x1<=((us.length:Int)-1)):=((Yp dq)).1 Zb
   refine ZZ 0 13 [10,11,12,13,14,15,16,17,18,19,20,21,22] (.n 41 (.b true) (.k (.d .r))) (de (WW (ar (ir 1 [(6,.b false)] (ie ?_)))))
   obtain ⟨y,hy⟩:=Zu (xs:=tys) (j:=k) om
   exact Zc (r2 [] [.b false] ⟨rfl,rfl⟩ (lb (by rw [<-Zp];exact (NW Z3 hy (by rw [Qc ZP];simp)).symm)))
  have Y1:¬(¬(0<=x1/\x1<=((us.length:Int)-1))):=ZF (Yp dq) Zb
  refine ZZ 10 13 [10,11,12] (.n 29 (Z0 us) (.n 30 (Z0 args) (.n 31 (.i k) (.k (.d .r))))) (dx 13 (Zn none (k:Int) 1 (Y4 Z3)) (ZX 8 9 [14] 33 (.i x1) ?_))
  obtain ⟨x2,Zy⟩:=Zu (xs:=us) (j:=x1.toNat) om
  refine dx 15 (Zn none x1 1 (Y4 Zy)) (ZZ 4 7 [16,17,18] (.n 35 (.i x2) (.n 36 (Z0 tys) (.n 37 (.i k) .r))) ?_)
  obtain ⟨x3,YT⟩:=Zu (xs:=tys) (j:=k) om
  refine dx 19 (Zn none (k:Int) 1 (Y4 YT)) (ZX 0 3 [20,21,22] 41 (.b (x2 != x3)) (de (ac (x2 != x3) Yg (fun ZI=>?_) (fun ZI=>?_))))
  ·refine ar (ir 1 [(6,.b false)] (ie ?_))
   exact Zc (r2 [] [.b false] ⟨rfl,rfl⟩ (lb (by rw [<-Zp];exact (NW Z3 YT (by rw [Tz om Zy];simpa using ZI)).symm)))
  refine ak (az (Z1 1 17 (.i k) (ZO k (ir 1 [(0,Z0 us),(1,Z0 args),(2,Z0 tys),(7,.i (k+1:Nat))] (ie ?_)))))
  have hdr:=Yd Z3
  exact ZU ⟨k+1,ob,(by rw [<-Zp];exact (Z71 Z3 YT (by rw [Tz om Zy];congr 1;omega)).symm),rfl,rfl,rfl⟩ (wk [] (fw (fr (ZW k fl))))
 refine ax 0 (ar (ir 1 [(6,.b true)] (ie ?_)))
 exact Zc (r2 [] [.b true] ⟨rfl,rfl⟩ (lb (by rw [<-Zp];exact (Z70 om om).symm)))
theorem Z5v (us:List Int) (s:Z4) (hl_us:us.length<=4294967296:=by exact ob):Zk Tryz.prog 135 [Z0 us,Y2 s] [] (fun r h=>r=.b (VK us s.op s.into)/\h=[]):=by
 refine ZL 27 Tryz.func135 (ar (iA (Ye s) ?_))
 intro b1
 refine ir 1 [(0,Z0 us),(3,.p b1 0)] (ie (aq (ar (Yn 3 7 (.b (s.into==0)) [0] [b1] (ie (ac (s.into==0) Zh (fun Ze=>?_) (fun Ze=>?_)))))))
 ·refine ar (ir 1 [(4,.b true)] (ie ?_))
  exact Zc (r2 [] [.b true] ⟨rfl,rfl⟩ (lb (by rw [VK,Zj Ze])))
 refine ak (ar (XH 10 [(0,Z0 us),(3,.p b1 0),(17,.b ((s.op==6)&&(decide (1<=s.into/\s.into<=(us.length:Int)))))] [.obj b1 (Ye s)] ?_ (fun hj1=>?_)))
 ·refine ir 1 [(0,Z0 us),(3,.p b1 0),(18,.b ((s.op==6)&&(decide (1<=s.into/\s.into<=(us.length:Int)))))] (ib (b:=((s.op==6)&&(decide (1<=s.into/\s.into<=(us.length:Int))))) 18 (fun Zb=>?_) (fun Zb=>?_))
  ·have ZP:(s.op=6)/\(1<=s.into/\s.into<=(us.length:Int)):=((YF Zh dq)).1 Zb
   refine Y0 3 (.n 19 (Z0 us) (.n 21 (.i s.into) (.k .z))) [0] [b1] (ia ((s.into-1)) ((s.into)-(1)) ?_)
   obtain ⟨x1,Z3⟩:=Zu (xs:=us) (j:=(s.into-1).toNat) om
   refine Zq (Zn none (s.into-1) 1 (Y4 Z3)) (ir 4 [(4,.b (decide (x1>0)))] (ie ?_))
   exact Zc (r2 [] [.b (decide (x1>0))] ⟨rfl,rfl⟩ (lb (by rw [VK,Za Ze];first|(rw [Zj om,Tz om Z3];rfl)|(rw [Zj om,Qc om];rfl)|(rw [Za om])|(by_cases q:s.op=6;rw [Zj q,Qc om];rfl;rw [Za q]))))
  have Y1:¬((s.op=6)/\(1<=s.into/\s.into<=(us.length:Int))):=ZF (YF Zh dq) Zb
  refine ir 9 [(4,.b false)] (ie ?_)
  exact Zc (r2 [] [.b false] ⟨rfl,rfl⟩ (lb (by rw [VK,Za Ze];first|(rw [Zj om,Tz om Z3];rfl)|(rw [Zj om,Qc om];rfl)|(rw [Za om])|(by_cases q:s.op=6;rw [Zj q,Qc om];rfl;rw [Za q]))))
 refine iR 4 [(0,Z0 us),(3,.p b1 0),(11,.b (s.op==6))] [0] [b1] (ib (b:=(s.op==6)) 11 (fun Zv=>?_) (fun Zv=>?_))
 ·have YB:s.op=6:=(Zh).1 Zv
  refine Y0 3 (.n 13 (.i s.into) (.n 14 (Z0 us) (.k (.k (.k .z))))) [0] [b1] (iw (Yf us) (Zz [] (Uz s.into 1 (us.length:Int)) (Z1 1 17 (.b (decide (1<=s.into/\s.into<=(us.length:Int)))) ?_)))
  exact YC (wk [0] (fw (Zs (decide (1<=s.into/\s.into<=(us.length:Int))) Zv fl))) hj1
 have YM:¬(s.op=6):=ZF Zh Zv
 refine Z6 6 (.n 17 (.b false) (.d (.k (.k .z)))) ?_
 exact YC (wk [0] (fw (Zs false Zv fl))) hj1
theorem Z5l (n:Zx) (us:List Int) (s:Z4) (hn:Xf n:=by exact ob) (hl_us:us.length<=4294967296:=by exact ob) (ha:s.args.length<=1000000000:=by exact ob):Zk Tryz.prog 140 [ZB n,Z0 us,Y2 s] [] (fun r h=>r=.i (TH n us s.op s.num s.args)/\h=[]):=by
 have hrl:=hn.len
 have hdl:=hn.decls.len
 refine ZL 69 Tryz.func140 (ar (iA (ZM n) ?_))
 intro b1
 refine iA (Ye s) ?_
 intro b2
 refine ir 1 [(1,Z0 us),(3,.p b1 0),(5,.p b2 0)] (ie (aq (ar (ZY 4 10 (.i s.num) 12 (X9 n.routines) [0,1] [b2,b1] (iw (Ur n.routines) (ia (((n.routines.length:Int)-1)) (((n.routines.length:Int))-(1)) (Zz [] (Uz s.num 0 ((n.routines.length:Int)-1)) (Z1 1 16 (.b (!(decide (0<=s.num/\s.num<=((n.routines.length:Int)-1))))) (ie (ac (!(decide (0<=s.num/\s.num<=((n.routines.length:Int)-1)))) (p:=¬(0<=s.num/\s.num<=((n.routines.length:Int)-1))) (Yp dq) (fun Ze=>?_) (fun Ze=>?_)))))))))))
 ·refine ar (ir 1 [(6,.i (-1))] (ie ?_))
  exact Zc (r2 [] [.i (-1)] ⟨rfl,rfl⟩ (li (Z3r om).symm))
 refine ak (ar (ZY 4 18 (X9 n.routines) 20 (.i s.num) [1,0] [b1,b2] ?_))
 obtain ⟨x1,Z3⟩:=Zu (xs:=n.routines) (j:=s.num.toNat) om
 have hrp:=hn.params_at Z3
 have hrt:=hn.lent_at Z3
 have hre:TH n us s.op s.num s.args=QQ n.decls us s.op s.args x1:=Z3q om Z3
 refine Zq (Zn none s.num 5 (WJ Z3)) (Z1 1 22 (Vi x1) (iA [nl,nl,.i 0,nl,.i 0] ?_))
 intro b3
 refine ZG 0 b3 (UK x1) (ie (ar (Yn 2 24 (Z0 x1.params) [0] [b3] (iw (Yf x1.params) (Z1 1 8 (.i x1.params.length) (ie (aq (ar (Yn 3 28 (.b (s.op==9)) [1] [b2] (ie (ac (s.op==9) Zh (fun Zl=>?_) (fun Zl=>?_))))))))))))
 ·refine aq (ar (Y0 5 (.n 29 (Z0 us) (.n 31 (Z0 s.args) (.n 33 (Z0 x1.params) .r))) [1,0] [b2,b3] (Zz [] (Ai us s.args x1.params) (Z1 1 35 (.b (!XS us s.args x1.params)) (ie (ac (!XS us s.args x1.params) (p:=¬(XS us s.args x1.params=true)) (Yp Iff.rfl) (fun ZI=>?_) (fun ZI=>?_)))))))
  ·refine ar (ir 1 [(6,.i (-1))] (ie ?_))
   exact Zc (r2 [] [.i (-1)] ⟨rfl,rfl⟩ (li (by clear Z3;first|rfl|omega|grind [QQ,QA])))
  refine ak (ar (iR 3 [(6,.i x1.result)] [0] [b3] (ie ?_)))
  exact Zc (r2 [] [.i x1.result] ⟨rfl,rfl⟩ (li (by clear Z3;first|rfl|omega|grind [QQ,QA])))
 refine ak (aq (aD 20 (AC [(3,.p b1 0),(7,.p b3 0),(8,.i x1.params.length),(57,.b (((x1.params.length:Int)==0)||((decide ((x1.lent.length:Int)>0))||(!XS us s.args (x1.params.take (x1.params.length-1))))))] [.obj b3 (UK x1),.obj b2 (Ye s),.obj b1 (ZM n)] ?_ ?_)))
 ·refine Xd 17 20 [0,1,2] [(1,Z0 us),(3,.p b1 0),(5,.p b2 0),(7,.p b3 0),(8,.i x1.params.length),(40,.b ((x1.params.length:Int)==0))] (db (b:=((x1.params.length:Int)==0)) 40 (fun Zb=>?_) (fun Zb=>?_))
  ·have ZP:(x1.params.length:Int)=0:=(Zh).1 Zb
   refine ZZ 0 17 [3,4,5,6,7,8,9,10,11,12,13,14,15,16,17,18,19] (.n 57 (.b true) (.d (.d (.k (.d (.k (.k .z))))))) (de ?_)
   exact ZK 3 (fw (fr (Zs true Zb fl)))
  have Y1:¬((x1.params.length:Int)=0):=ZF Zh Zb
  refine Y5 15 17 [3,4] (.n 42 (Z0 x1.lent) (.w (.k (.k .z)))) [0] [b3] (dw 5 (Yf x1.lent) (ZX 11 14 [6,7,8] 46 (.b (decide ((x1.lent.length:Int)>0))) (db (b:=(decide ((x1.lent.length:Int)>0))) 46 (fun Zv=>?_) (fun Zv=>?_))))
  ·have YB:(x1.lent.length:Int)>0:=(dq).1 Zv
   refine ZZ 0 11 [9,10,11,12,13,14,15,16,17,18,19] (.n 57 (.b true) (.k (.d .r))) (de ?_)
   exact ZK 3 (fw (fr (Zs true (And.intro Zb Zv) fl)))
  have YM:¬((x1.lent.length:Int)>0):=ZF dq Zv
  refine Y5 5 11 [9,10,11,12,13,14] (.n 47 (Z0 us) (.n 49 (Z0 s.args) (.n 51 (Z0 x1.params) (.n 52 (.i x1.params.length) (.k (.d .r)))))) [1,0] [b2,b3] (da 15 (((x1.params.length-1:Nat):Int)) (((x1.params.length:Int))-(1)) (dx 16 (Qo (es:=Z8 x1.params) (hv:=none) (l:=0) (m:=((x1.params.length-1:Nat):Int)) (sz:=1) (es':=Z8 (x1.params.take (x1.params.length-1))) kr om (by simp<;>omega) (by simp<;>omega) (YE _) (by first|(simp only [Vh,WP,Kx,J9];done)|(simp only [Vh,WP,Kx,J9];rfl)|(simp [Kx,J9];done))) (Z9 17 (Yv 17 [] [] [] (Ai us s.args (x1.params.take (x1.params.length-1))) (ZX 0 2 [18,19] 57 (.b (!XS us s.args (x1.params.take (x1.params.length-1)))) (de ?_))))))
  exact ZK 3 (fw (fr (Zs (!XS us s.args (x1.params.take (x1.params.length-1))) (And.intro Zb Zv) fl)))
 refine ac (((x1.params.length:Int)==0)||((decide ((x1.lent.length:Int)>0))||(!XS us s.args (x1.params.take (x1.params.length-1))))) (p:=((x1.params.length:Int)=0)∨(((x1.lent.length:Int)>0)∨(¬(XS us s.args (x1.params.take (x1.params.length-1))=true)))) (Yc Zh (Yc dq (Yp Iff.rfl))) (fun Yi=>?_) (fun Yi=>?_)
 ·refine ar (ir 1 [(6,.i (-1))] (ie ?_))
  exact Zc (r2 [] [.i (-1)] ⟨rfl,rfl⟩ (li (by clear Z3;first|rfl|omega|grind [QQ,QA])))
 refine ak (aD 12 (W2 7 12 [0,1,2,3,4] [(7,.p b3 0),(59,Zd n.decls),(61,Z0 x1.params),(62,.i x1.params.length)] [2,0] [b1,b3] (da 5 (((x1.params.length-1:Nat):Int)) (((x1.params.length:Int))-(1)) ?_)))
 obtain ⟨x2,Zy⟩:=Zu (xs:=x1.params) (j:=x1.params.length-1) om
 have hgl:=Lh Zy
 refine dx 6 (Zn none ((x1.params.length-1:Nat):Int) 1 (Y4 Zy)) (Y5 2 5 [7,8,9] (.n 65 (.i x2) (.n 67 (.i x1.result) .r)) [0] [b3] (Z9 10 (Yv 10 [] [] [] (Nk n.decls x2 x1.result) (Xd 0 1 [11] [(6,.i (WX n.decls x2 x1.result))] (de ?_)))))
 exact Zc (r2 [] [.i (WX n.decls x2 x1.result)] ⟨rfl,rfl⟩ (li (by clear Z3 Zy;first|rfl|omega|grind [QQ,QA])))
theorem Z5b (n:Zx) (us:List Int) (s:Z4) (hn:Xf n:=by exact ob) (hl_us:us.length<=4294967296:=by exact ob) (ha:s.args.length<=1000000000:=by exact ob):Zk Tryz.prog 142 [ZB n,Z0 us,Y2 s] [] (fun r h=>r=.i (Tn n.decls us s.op s.args)/\h=[]):=by
 have Xu:=hn.decls
 refine ZL 52 Tryz.func142 (ar (iA (ZM n) ?_))
 intro b1
 refine iA (Ye s) ?_
 intro b2
 refine ir 1 [(1,Z0 us),(3,.p b1 0),(5,.p b2 0)] (ie (aq (ar (Yn 2 8 (Z0 s.args) [0] [b2] (iw (Yf s.args) (Z1 2 11 (.b ((s.args.length:Int) != 1)) (ib (b:=((s.args.length:Int) != 1)) 11 (fun Zb=>?_) (fun Zb=>?_))))))))
 ·have ZP:(s.args.length:Int)≠1:=(Yg).1 Zb
  refine Z6 20 (.n 31 (.b true) (.k (.d .r))) (ie (WW (ar (ir 1 [(6,.i (-1))] (ie ?_)))))
  exact Zc (r2 [] [.i (-1)] ⟨rfl,rfl⟩ (li (by first|assumption|omega|rfl|(rw [Bh om])|(rw [Bi (Qz om Z3) om])|(rw [Bg (Qz om Z3) om Zy];clear Z3 Zy;grind))))
 have Y1:¬((s.args.length:Int)≠1):=ZF Yg Zb
 refine Y0 2 (.n 13 (Z0 s.args) (.k (.d .r))) [0] [b2] ?_
 obtain ⟨x1,Z3⟩:=Zu (xs:=s.args) (j:=0) om
 refine Zq (Zn none 0 1 (Y4 Z3)) (Yq 2 15 (.i x1) 16 (Z0 us) (iw (Yf us) (ia (((us.length:Int)-1)) (((us.length:Int))-(1)) (Zz [] (Uz x1 0 ((us.length:Int)-1)) (Z1 3 22 (.b (!(decide (0<=x1/\x1<=((us.length:Int)-1))))) (ib (b:=(!(decide (0<=x1/\x1<=((us.length:Int)-1))))) 22 (fun Zv=>?_) (fun Zv=>?_)))))))
 ·have YB:¬(0<=x1/\x1<=((us.length:Int)-1)):=((Yp dq)).1 Zv
  refine Z6 9 (.n 31 (.b true) (.k (.d .r))) (ie (WW (ar (ir 1 [(6,.i (-1))] (ie ?_)))))
  exact Zc (r2 [] [.i (-1)] ⟨rfl,rfl⟩ (li (by first|assumption|omega|rfl|(rw [Bh om])|(rw [Bi (Qz om Z3) om])|(rw [Bg (Qz om Z3) om Zy];clear Z3 Zy;grind))))
 have YM:¬(¬(0<=x1/\x1<=((us.length:Int)-1))):=ZF (Yp dq) Zv
 refine Y0 3 (.n 23 (Z0 us) (.n 25 (Z0 s.args) (.k (.d .r)))) [0] [b2] (Zq (Zn none 0 1 (Y4 Z3)) (Z1 1 27 (.i x1) ?_))
 obtain ⟨x2,Zy⟩:=Zu (xs:=us) (j:=x1.toNat) om
 refine Zq (Zn none x1 1 (Y4 Zy)) (Z1 3 31 (.b (x2==0)) (ie (ac (x2==0) Zh (fun Ze=>?_) (fun Ze=>?_))))
 ·refine ar (ir 1 [(6,.i (-1))] (ie ?_))
  exact Zc (r2 [] [.i (-1)] ⟨rfl,rfl⟩ (li (by first|assumption|omega|rfl|(rw [Bh om])|(rw [Bi (Qz om Z3) om])|(rw [Bg (Qz om Z3) om Zy];clear Z3 Zy;grind))))
 refine ak (aq (aD 20 (AC [(51,.b ((s.op != 14)&&((s.op != 15)&&X7 n.decls x2)))] [.obj b2 (Ye s),.obj b1 (ZM n)] ?_ ?_)))
 ·refine W2 16 20 [0,1,2,3] [(1,Z0 us),(3,.p b1 0),(5,.p b2 0),(35,.b (s.op != 14))] [0] [b2] (db (b:=(s.op != 14)) 35 (fun Yx=>?_) (fun Yx=>?_))
  ·have YX:s.op≠14:=(Yg).1 Yx
   refine Y5 11 16 [4,5,6,7,8] (.n 40 (.b (s.op != 15)) (.d (.k (.k (.k .z))))) [0] [b2] (db (b:=(s.op != 15)) 40 (fun Xh=>?_) (fun Xh=>?_))
   ·have Xv:s.op≠15:=(Yg).1 Xh
    refine W2 6 11 [9,10,11,12,13] [(40,.b true),(42,Zd n.decls),(43,Z0 us),(45,Z0 s.args)] [1,0] [b1,b2] (dx 14 (Zn none 0 1 (Y4 Z3)) (ZX 4 5 [15] 47 (.i x1) (dx 16 (Zn none x1 1 (Y4 Zy)) (ZX 2 3 [17] 49 (.i x2) (Z9 18 (Yv 18 [] [] [] (CR n.decls x2 (hd:=(by first|assumption|omega|rfl|(rw [Bh om])|(rw [Bi (Qz om Z3) om])|(rw [Bg (Qz om Z3) om Zy];clear Z3 Zy;grind)))) (Xd 0 1 [19] [(51,.b (X7 n.decls x2))] (de ?_))))))))
    exact wk [0,0] (Zs (X7 n.decls x2) (And.intro Yx Xh) fl)
   have Wb:¬(s.op≠15):=ZF Yg Xh
   refine Xd 0 11 [9,10,11,12,13,14,15,16,17,18,19] [(51,.b false)] (de ?_)
   exact wk [0,0] (Zs false (And.intro Yx Xh) fl)
  have WE:¬(s.op≠14):=ZF Yg Yx
  refine Xd 0 16 [4,5,6,7,8,9,10,11,12,13,14,15,16,17,18,19] [(51,.b false)] (de ?_)
  exact wk [0,0] (Zs false Yx fl)
 refine ac ((s.op != 14)&&((s.op != 15)&&X7 n.decls x2)) (p:=(s.op≠14)/\((s.op≠15)/\(X7 n.decls x2=true))) (YF Yg (YF Yg Iff.rfl)) (fun Zl=>?_) (fun Zl=>?_)
 ·refine ar (ir 1 [(6,.i (-1))] (ie ?_))
  exact Zc (r2 [] [.i (-1)] ⟨rfl,rfl⟩ (li (by first|assumption|omega|rfl|(rw [Bh om])|(rw [Bi (Qz om Z3) om])|(rw [Bg (Qz om Z3) om Zy];clear Z3 Zy;grind))))
 refine ak (ar (ir 1 [(6,.i 0)] (ie ?_)))
 exact Zc (r2 [] [.i 0] ⟨rfl,rfl⟩ (li (by first|assumption|omega|rfl|(rw [Bh om])|(rw [Bi (Qz om Z3) om])|(rw [Bg (Qz om Z3) om Zy];clear Z3 Zy;grind))))
theorem Nq (n:Zx) (us:List Int) (s:Z4) (hn:Xf n:=by exact ob) (hop:s.op=7∨s.op=8:=by exact ob) (hb:us.length+4*s.sz<=1000000000:=by exact ob) (ih:∀(b:Z5) (us:List Int),(b.sz<s.sz)->(us.length+4*b.sz<=1000000000)->Zk Tryz.prog 60 [ZB n,Z0 us,Zr b] [] (fun r h=>r=.i (YR n us b)/\h=[])):Zk Tryz.prog 139 [ZB n,Z0 us,Y2 s] [] (fun r h=>r=.i (Ue n us s.op s.num s.kids)/\h=[]):=by
 have Xu:=hn.decls
 have hkz:=Td s
 refine ZL 71 Tryz.func139 (ar (iA (ZM n) ?_))
 intro b1
 refine iA (Ye s) ?_
 intro b2
 refine ir 1 [(1,Z0 us),(3,.p b1 0),(5,.p b2 0)] (ie (ar (ZY 4 14 (Zd n.decls) 16 (.i s.num) [1,0] [b1,b2] (ic [] (KO n.decls s.num) ?_))))
 rintro _ _ ⟨v1,rfl,rfl⟩
 refine Z1 1 7 (Z7 (Zt n.decls s.num) v1) (ie (ar (Z1 1 18 (Z7 (Zt n.decls s.num) v1) (io (.i (((Zt n.decls s.num).length:Nat):Int)) (.i (((Z8 (Zt n.decls s.num)).length:Nat):Int)) (li (by rw [Yf])) (Z1 1 8 (.i (((Zt n.decls s.num).length:Nat):Int)) (ie (aq (ar (Yn 3 22 (.b (s.op==7)) [1] [b2] (ie (XJ (fun F h=>F=[(1,Z0 us),(3,.p b1 0),(5,.p b2 0),(7,Z0 (Zt n.decls s.num)),(8,.i (((X8 n.decls s.op s.num).length:Nat):Int))]/\h=[.obj b2 (Ye s),.obj b1 (ZM n)]) ?_ ?_)))))))))))
 ·refine ac (s.op==7) Zh (fun Ze=>?_) (fun Ze=>?_)
  ·refine az (ir 1 [(1,Z0 us),(3,.p b1 0),(5,.p b2 0),(7,Z7 (Zt n.decls s.num) v1),(8,.i 2)] (ie ?_))
   exact ZV ⟨rfl,rfl⟩ (wk [1,1] (fw (fr (fc (x:=Z7 (Zt n.decls s.num) v1) (Zg.forget _ _) (fc (x:=.i 2) (li (by rw [X8,Zj Ze];rfl)) fl)))))
  refine ak ?_
  exact ZV ⟨rfl,rfl⟩ (wk [1,1] (fw (fr (fc (x:=Z7 (Zt n.decls s.num) v1) (Zg.forget _ _) (fc (x:=.i (((Zt n.decls s.num).length:Nat):Int)) (li (by rw [X8,Za Ze,Aq])) fl)))))
 rintro F h ⟨rfl,rfl⟩
 refine aq (ar (Xm [(1,Z0 us),(3,.p b1 0),(5,.p b2 0),(7,Z0 (Zt n.decls s.num)),(8,.i (((X8 n.decls s.op s.num).length:Nat):Int)),(31,.b (((((X8 n.decls s.op s.num).length:Nat):Int)==0)||((s.kids.length:Int) != (((X8 n.decls s.op s.num).length:Nat):Int))))] [.obj b2 (Ye s),.obj b1 (ZM n)] ?_ ?_))
 ·refine ir 3 [(1,Z0 us),(3,.p b1 0),(5,.p b2 0),(7,Z0 (Zt n.decls s.num)),(8,.i (((X8 n.decls s.op s.num).length:Nat):Int)),(25,.b ((((X8 n.decls s.op s.num).length:Nat):Int)==0))] (ib (b:=((((X8 n.decls s.op s.num).length:Nat):Int)==0)) 25 (fun Zb=>?_) (fun Zb=>?_))
  ·have ZP:(((X8 n.decls s.op s.num).length:Nat):Int)=0:=(Zh).1 Zb
   refine Z6 6 (.n 31 (.b true) (.d (.w (.k .z)))) (ie ?_)
   exact wk [0,0] (fq (fr (Zs true Zb fl)))
  have Y1:¬((((X8 n.decls s.op s.num).length:Nat):Int)=0):=ZF Zh Zb
  refine Y0 2 (.n 27 (Yz s.kids) (.w (.k (.k .z)))) [0] [b2] (iw (U1 s.kids) (Z1 3 31 (.b ((s.kids.length:Int) != (((X8 n.decls s.op s.num).length:Nat):Int))) (ie ?_)))
  exact wk [0,0] (fq (fr (Zs ((s.kids.length:Int) != (((X8 n.decls s.op s.num).length:Nat):Int)) Zb fl)))
 refine ac (((((X8 n.decls s.op s.num).length:Nat):Int)==0)||((s.kids.length:Int) != (((X8 n.decls s.op s.num).length:Nat):Int))) (p:=((((X8 n.decls s.op s.num).length:Nat):Int)=0)∨((s.kids.length:Int)≠(((X8 n.decls s.op s.num).length:Nat):Int))) (Yc Zh Yg) (fun Zl=>?_) (fun Zl=>?_)
 ·refine ar (ir 1 [(6,.i (-1))] (ie ?_))
  exact Zc (r2 [] [.i (-1)] ⟨rfl,rfl⟩ (li (by rw [Ue,Zj om])))
 refine ak (ar (ir 1 [(1,Z0 us),(3,.p b1 0),(5,.p b2 0),(7,Z0 (Zt n.decls s.num)),(8,.i (((X8 n.decls s.op s.num).length:Nat):Int)),(9,.i 0)] (ie (aq (ar (Z1 1 10 (.i 0) (ie (ab 0 (al (fun m F h=>∃(k:Nat) (t:Int),(k<=s.kids.length)/\(Wk n us (s.kids.drop k) ((X8 n.decls s.op s.num).drop k) (decide (k=0)) t=Wk n us s.kids (X8 n.decls s.op s.num) true 0)/\F=[(1,Z0 us),(3,.p b1 0),(5,.p b2 0),(7,Z0 (Zt n.decls s.num)),(8,.i (((X8 n.decls s.op s.num).length:Nat):Int)),(9,.i t),(10,.i k)]/\h=[.obj b2 (Ye s),.obj b1 (ZM n)]/\m=s.kids.length-k) _ _ _ ⟨0,0,ob,(by rfl),rfl,rfl,rfl⟩ (wk [0,0] (fq (fw (Yh fl)))) ?_)))))))))
 rintro m F h ⟨k,t,Yo,Zp,rfl,rfl,rfl⟩
 refine aq (ar (Z1 3 34 (.b (decide ((k:Int)<(((X8 n.decls s.op s.num).length:Nat):Int)))) (ie (ZT ((k:Int)<(((X8 n.decls s.op s.num).length:Nat):Int)) (fun ZI=>?_) (fun ZI=>?_)))))
 ·refine ak (aq (ab 1 (ar (Z1 2 11 (Z0 us) (ie (aq (ar (Yn 3 40 (.b (s.op==8)) [0] [b2] (ie (XJ (fun F h=>∃(m:List Int),((X8 n.decls s.op s.num)[k]? = some m)/\F=[(1,Z0 us),(3,.p b1 0),(5,.p b2 0),(7,Z0 (Zt n.decls s.num)),(8,.i (((X8 n.decls s.op s.num).length:Nat):Int)),(9,.i t),(10,.i k),(11,Z0 (us++m))]/\h=[.obj b2 (Ye s),.obj b1 (ZM n)]) ?_ ?_))))))))))
  ·refine ac (s.op==8) Zh (fun Yi=>?_) (fun Yi=>?_)
   ·refine aE 10 (W2 5 10 [0,1,2,3,4] [(1,Z0 us),(3,.p b1 0),(5,.p b2 0),(7,Z0 (Zt n.decls s.num)),(8,.i (((X8 n.decls s.op s.num).length:Nat):Int)),(9,.i t),(10,.i k),(11,Z0 us),(41,Z0 us),(43,Zd n.decls),(44,Z0 (Zt n.decls s.num)),(45,.i k)] [1] [b1] ?_)
    obtain ⟨x1,Z3⟩:=Zu (xs:=Zt n.decls s.num) (j:=k) (by rw [X8,Za om,Aq] at ZI;omega)
    refine dx 5 (Zn none (k:Int) 1 (Y4 Z3)) (ZX 3 4 [6] 47 (.i x1) (Z9 7 (Yv 7 [] [] [] (Ql n.decls x1) (Z9 8 (dc 8 [] [] [] (Q5 us (Zw n.decls x1) (hl:=(by have:=VN Xu x1;omega))) ?_)))))
    rintro _ _ ⟨v2,rfl,rfl⟩
    refine ZZ 0 1 [9] (.n 11 (Z7 (us++(Zw n.decls x1)) v2) (.p (.p (.d (.p (.w (.k (.k (.k .z))))))))) (de ?_)
    exact ZV ⟨(Zw n.decls x1),(by rw [show s.op=8 from Yi];exact ON Z3),rfl,rfl⟩ (wk [1,1] fl)
   refine ak ?_
   exact ZV ⟨[],(by rw [X8,Zj om];have:k=0∨k=1:=(by rw [X8,Zj om] at ZI;simp at ZI;omega);rcases this with rfl|rfl<;>rfl),rfl,rfl⟩ (wk [0,0] (fq (fw (fr (fc (x:=Z0 us) (Zg.sl _ (Yw Z8 (by simp))) fl)))))
  rintro F h ⟨m,TZ,rfl,rfl⟩
  refine aD 9 (W2 4 9 [0,1,2,3,4] [(1,Z0 us),(3,.p b1 0),(5,.p b2 0),(7,Z0 (Zt n.decls s.num)),(8,.i (((X8 n.decls s.op s.num).length:Nat):Int)),(9,.i t),(10,.i k),(50,ZB n),(51,Z0 (us++m)),(53,Yz s.kids),(54,.i k)] [1,0] [b1,b2] ?_)
  obtain ⟨x2,Zy⟩:=Zu (xs:=s.kids) (j:=k) om
  have hks:=Tc Zy
  have hm3:=HT Xu TZ
  refine dx 5 (Zn none (k:Int) 2 (UD Zy)) (ZX 2 3 [6] 56 (Zr x2) (Z9 7 (Yv 7 [] [] [] (ih x2 (us++m) ob (by simp only [Yu];omega)) (ZX 0 1 [8] 12 (.i (YR n (us++m) x2)) (de (aq (ar (Xm [(1,Z0 us),(3,.p b1 0),(5,.p b2 0),(7,Z0 (Zt n.decls s.num)),(8,.i (((X8 n.decls s.op s.num).length:Nat):Int)),(10,.i k),(12,.i (YR n (us++m) x2)),(68,.b ((decide ((YR n (us++m) x2)<0))||((decide ((k:Int)>0))&&((YR n (us++m) x2) != t))))] [.obj b2 (Ye s),.obj b1 (ZM n)] ?_ ?_))))))))
  ·refine ir 3 [(1,Z0 us),(3,.p b1 0),(5,.p b2 0),(7,Z0 (Zt n.decls s.num)),(8,.i (((X8 n.decls s.op s.num).length:Nat):Int)),(9,.i t),(10,.i k),(12,.i (YR n (us++m) x2)),(60,.b (decide ((YR n (us++m) x2)<0)))] (ib (b:=(decide ((YR n (us++m) x2)<0))) 60 (fun Zv=>?_) (fun Zv=>?_))
   ·have YB:(YR n (us++m) x2)<0:=(dq).1 Zv
    refine Z6 8 (.n 68 (.b true) (.d (.w (.k (.d (.k (.k .z))))))) (ie ?_)
    exact wk [0,0] (fq (fw (fr (Zs true Zv fl))))
   have YM:¬((YR n (us++m) x2)<0):=ZF dq Zv
   refine Z6 3 (.n 63 (.b (decide ((k:Int)>0))) (.w (.w (.k .z)))) (ib (b:=(decide ((k:Int)>0))) 63 (fun Yx=>?_) (fun Yx=>?_))
   ·have YX:(k:Int)>0:=(dq).1 Yx
    refine Z6 5 (.n 68 (.b ((YR n (us++m) x2) != t)) (.k (.d .r))) (ie ?_)
    exact wk [0,0] (fq (fw (fr (Zs ((YR n (us++m) x2) != t) (And.intro Zv Yx) fl))))
   have Xv:¬((k:Int)>0):=ZF dq Yx
   refine Z6 5 (.n 68 (.b false) (.k (.d .r))) (ie ?_)
   exact wk [0,0] (fq (fw (fr (Zs false (And.intro Zv Yx) fl))))
  refine ac ((decide ((YR n (us++m) x2)<0))||((decide ((k:Int)>0))&&((YR n (us++m) x2) != t))) (p:=((YR n (us++m) x2)<0)∨(((k:Int)>0)/\((YR n (us++m) x2)≠t))) (Yc dq (YF dq Yg)) (fun Xk=>?_) (fun Xk=>?_)
  ·refine ar (ir 1 [(6,.i (-1))] (ie ?_))
   exact Zc (r2 [] [.i (-1)] ⟨rfl,rfl⟩ (li (by rw [Ue,Za om,<-Zp];exact (LK Zy TZ Xk).symm)))
  refine ak (az (ir 2 [(1,Z0 us),(3,.p b1 0),(5,.p b2 0),(7,Z0 (Zt n.decls s.num)),(8,.i (((X8 n.decls s.op s.num).length:Nat):Int)),(9,.i (YR n (us++m) x2)),(10,.i k)] (ie (az (Z1 1 35 (.i k) (ZO k (Z6 1 (.n 10 (.i (k+1:Nat)) (.p (.d (.w (.k (.k .z)))))) (ie ?_))))))))
  exact ZU ⟨k+1,YR n (us++m) x2,ob,(by rw [<-Zp];exact (LM Zy TZ Xk).symm),rfl,rfl,rfl⟩ (wk [0,0] (fq (fw (ZW k fl))))
 refine ax 0 (ar (ir 2 [(6,.i t)] (ie ?_)))
 exact Zc (r2 [] [.i t] ⟨rfl,rfl⟩ (li (by rw [Ue,Za om,<-Zp];exact (LL om).symm)))
theorem Nt (n:Zx) (us:List Int) (s:Z4) (hn:Xf n:=by exact ob) (hb:us.length+4*s.sz<=1000000000:=by exact ob) (ih:∀(b:Z5) (us:List Int),(b.sz<s.sz)->(us.length+4*b.sz<=1000000000)->Zk Tryz.prog 60 [ZB n,Z0 us,Zr b] [] (fun r h=>r=.i (YR n us b)/\h=[])):Zk Tryz.prog 98 [ZB n,Z0 us,Y2 s] [] (fun r h=>r=.i (ZJ n us s)/\h=[]):=by
 have Xu:=hn.decls
 have hkz:=Td s
 have haz:=Qa s
 have hdl:=Xu.len
 have hst:=B1 n us s
 refine ZL 183 Tryz.func98 (ar (iA (ZM n) ?_))
 intro b1
 refine iA (Ye s) ?_
 intro b2
 refine ir 1 [(1,Z0 us),(3,.p b1 0),(5,.p b2 0)] (ie (aq (ar (XH 9 [(1,Z0 us),(3,.p b1 0),(5,.p b2 0),(16,.b ((s.num != 0)&&(!WK s.op)))] [.obj b2 (Ye s),.obj b1 (ZM n)] ?_ (fun hj1=>?_)))))
 ·refine XH 15 [(1,Z0 us),(3,.p b1 0),(5,.p b2 0),(22,.b (((s.num != 0)&&(!WK s.op))||(!VK us s.op s.into)))] [.obj b2 (Ye s),.obj b1 (ZM n)] ?_ (fun hj2=>?_)
  ·refine Xm [(1,Z0 us),(3,.p b1 0),(5,.p b2 0),(38,.b ((((s.num != 0)&&(!WK s.op))||(!VK us s.op s.into))||((decide ((s.kids.length:Int)>0))&&((s.op != 7)&&(s.op != 8)))))] [.obj b2 (Ye s),.obj b1 (ZM n)] ?_ ?_
   ·refine ir 1 [(1,Z0 us),(3,.p b1 0),(5,.p b2 0),(23,.b (((s.num != 0)&&(!WK s.op))||(!VK us s.op s.into)))] (ib (b:=(((s.num != 0)&&(!WK s.op))||(!VK us s.op s.into))) 23 (fun Zb=>?_) (fun Zb=>?_))
    ·have ZP:((s.num≠0)/\(¬(WK s.op=true)))∨(¬(VK us s.op s.into=true)):=((Yc (YF Yg (Yp Iff.rfl)) (Yp Iff.rfl))).1 Zb
     refine Z6 15 (.n 38 (.b true) (.d (.k (.k (.k .z))))) (ie ?_)
     exact wk [0,0] (fw (fr (Zs true Zb fl)))
    have Y1:¬(((s.num≠0)/\(¬(WK s.op=true)))∨(¬(VK us s.op s.into=true))):=ZF (Yc (YF Yg (Yp Iff.rfl)) (Yp Iff.rfl)) Zb
    refine Y0 2 (.n 25 (Yz s.kids) (.w .z)) [0] [b2] (iw (U1 s.kids) (Z1 2 28 (.b (decide ((s.kids.length:Int)>0))) (ib (b:=(decide ((s.kids.length:Int)>0))) 28 (fun Zv=>?_) (fun Zv=>?_))))
    ·have YB:(s.kids.length:Int)>0:=(dq).1 Zv
     refine Y0 5 (.n 33 (.b (s.op != 7)) (.k (.d .r))) [0] [b2] (ib (b:=(s.op != 7)) 33 (fun Yx=>?_) (fun Yx=>?_))
     ·have YM:s.op≠7:=(Yg).1 Yx
      refine Y0 5 (.n 38 (.b (s.op != 8)) (.k (.d .r))) [0] [b2] (ie ?_)
      exact wk [0,0] (fw (fr (Zs (s.op != 8) (And.intro Zb (And.intro Zv Yx)) fl)))
     have YX:¬(s.op≠7):=ZF Yg Yx
     refine Z6 5 (.n 38 (.b false) (.k (.d .r))) (ie ?_)
     exact wk [0,0] (fw (fr (Zs false (And.intro Zb (And.intro Zv Yx)) fl)))
    have Xv:¬((s.kids.length:Int)>0):=ZF dq Zv
    refine Z6 10 (.n 38 (.b false) (.k (.d .r))) (ie ?_)
    exact wk [0,0] (fw (fr (Zs false (And.intro Zb Zv) fl)))
   refine ac ((((s.num != 0)&&(!WK s.op))||(!VK us s.op s.into))||((decide ((s.kids.length:Int)>0))&&((s.op != 7)&&(s.op != 8)))) (p:=(((s.num≠0)/\(¬(WK s.op=true)))∨(¬(VK us s.op s.into=true)))∨(((s.kids.length:Int)>0)/\((s.op≠7)/\(s.op≠8)))) (Yc (Yc (YF Yg (Yp Iff.rfl)) (Yp Iff.rfl)) (YF dq (YF Yg Yg))) (fun Ze=>?_) (fun Ze=>?_)
   ·refine ar (ir 1 [(6,.i (-1))] (ie ?_))
    exact Zc (r2 [] [.i (-1)] ⟨rfl,rfl⟩ (li (by first|rfl|( grind)|(have q:=U7 (ds:=n.decls) (us:=us) (args:=s.args) om; grind)|(have q:=U8 (ds:=n.decls) (us:=us) (args:=s.args) om ‹s.args[0]? = some _› om; grind)|(have q:=VZ (ds:=n.decls) (us:=us) (args:=s.args) om ‹s.args[0]? = some _› om ‹us[_]? = some _›; grind))))
   refine ak (aq (ar (iR 2 [(1,Z0 us),(3,.p b1 0),(5,.p b2 0),(40,.i s.op)] [0] [b2] (ie (ab 0 (ar (Z1 2 41 (.b (s.op==0)) (ie (ac (s.op==0) Zh (fun Zl=>?_) (fun Zl=>?_))))))))))
   ·refine ar (Yn 2 44 (Z0 s.args) [0] [b2] (iw (Yf s.args) (Xm [(51,.b (((s.args.length:Int)==0)&&(decide ((-999)<=s.num/\s.num<=999))))] [.obj b2 (Ye s),.obj b1 (ZM n)] ?_ ?_)))
    ·refine ir 2 [(5,.p b2 0),(47,.b ((s.args.length:Int)==0))] (ib (b:=((s.args.length:Int)==0)) 47 (fun Xh=>?_) (fun Xh=>?_))
     ·have Wb:(s.args.length:Int)=0:=(Zh).1 Xh
      refine Y0 2 (.n 49 (.i s.num) (.k .z)) [0] [b2] (Zz [] (Uz s.num (-999) 999) (ir 1 [(51,.b (decide ((-999)<=s.num/\s.num<=999)))] (ie ?_)))
      exact wk [0,0] (Zs (decide ((-999)<=s.num/\s.num<=999)) Xh fl)
     have WE:¬((s.args.length:Int)=0):=ZF Zh Xh
     refine ir 4 [(51,.b false)] (ie ?_)
     exact wk [0,0] (Zs false Xh fl)
    refine ac (((s.args.length:Int)==0)&&(decide ((-999)<=s.num/\s.num<=999))) (p:=((s.args.length:Int)=0)/\((-999)<=s.num/\s.num<=999)) (YF Zh dq) (fun ZI=>?_) (fun ZI=>?_)
    ·refine ar (ir 1 [(6,.i 0)] (ie ?_))
     exact Zc (r2 [] [.i 0] ⟨rfl,rfl⟩ (li (by first|rfl|( grind)|(have q:=U7 (ds:=n.decls) (us:=us) (args:=s.args) om; grind)|(have q:=U8 (ds:=n.decls) (us:=us) (args:=s.args) om ‹s.args[0]? = some _› om; grind)|(have q:=VZ (ds:=n.decls) (us:=us) (args:=s.args) om ‹s.args[0]? = some _› om ‹us[_]? = some _›; grind))))
    refine ak (ar (ir 1 [(6,.i (-1))] (ie ?_)))
    exact Zc (r2 [] [.i (-1)] ⟨rfl,rfl⟩ (li (by first|rfl|( grind)|(have q:=U7 (ds:=n.decls) (us:=us) (args:=s.args) om; grind)|(have q:=U8 (ds:=n.decls) (us:=us) (args:=s.args) om ‹s.args[0]? = some _› om; grind)|(have q:=VZ (ds:=n.decls) (us:=us) (args:=s.args) om ‹s.args[0]? = some _› om ‹us[_]? = some _›; grind))))
   refine aq (ar (Z1 2 52 (.b (s.op==1)) (ie (XJ (fun F h=>F=[(1,Z0 us),(3,.p b1 0),(5,.p b2 0),(40,.i s.op),(52,.b ((s.op==1)||((s.op==2)||((s.op==3)||(s.op==4)))))]/\h=[.obj b2 (Ye s),.obj b1 (ZM n)]) ?_ ?_))))
   ·refine ac (s.op==1) Zh (fun Yi=>?_) (fun Yi=>?_)
    ·refine ak ?_
     exact ZV ⟨rfl,rfl⟩ (wk [0,0] (fq (fc (x:=.b (s.op==1)) (lb (by first|rfl|(rw [Zj Yi])|(rw [Za Yi])|(simp [Yi];done)|(rw [Xo];simp [Yi];done)|omega)) fl)))
    refine ar (ir 2 [(1,Z0 us),(3,.p b1 0),(5,.p b2 0),(40,.i s.op),(52,.b (s.op==2))] (ie (ac (s.op==2) Zh (fun Xk=>?_) (fun Xk=>?_))))
    ·refine ak ?_
     exact ZV ⟨rfl,rfl⟩ (wk [0,0] (fq (fc (x:=.b (s.op==2)) (lb (by first|rfl|(rw [Zj Yi])|(rw [Za Yi])|(simp [Yi,Xk];done)|(rw [Xo];simp [Yi,Xk];done)|omega)) fl)))
    refine ar (Z6 2 (.n 52 (.b (s.op==3)) (.w .z)) (ie (ac (s.op==3) Zh (fun Xl=>?_) (fun Xl=>?_))))
    ·refine ak ?_
     exact ZV ⟨rfl,rfl⟩ (wk [0,0] (fq (fc (x:=.b (s.op==3)) (lb (by first|rfl|(rw [Zj Yi])|(rw [Za Yi])|(simp [Yi,Xk,Xl];done)|(rw [Xo];simp [Yi,Xk,Xl];done)|omega)) fl)))
    refine az (Z6 2 (.n 52 (.b (s.op==4)) (.d .r)) (ie ?_))
    exact ZV ⟨rfl,rfl⟩ (wk [0,0] (fq (fc (x:=.b (s.op==4)) (lb (by first|rfl|(rw [Zj Yi])|(rw [Za Yi])|(simp [Yi,Xk,Xl];done)|(rw [Xo];simp [Yi,Xk,Xl];done)|omega)) fl)))
   rintro F h ⟨rfl,rfl⟩
   refine ac ((s.op==1)||((s.op==2)||((s.op==3)||(s.op==4)))) (p:=(s.op=1)∨((s.op=2)∨((s.op=3)∨(s.op=4)))) (Yc Zh (Yc Zh (Yc Zh Zh))) (fun Vv=>?_) (fun Vv=>?_)
   ·refine ar (iR 3 [(57,Z0 us),(59,Z0 s.args)] [0] [b2] (iL (Z8 [0,0]) 2 1 ?_))
    intro v1
    refine Z6 0 (.n 60 (Z0 [0,0]) (.p .r)) (Zz [] (Ai us s.args [0,0] (hl_tys:=(by first|(simp;done)|(have:=VN Xu s.num;omega)))) (ie (ac (XS us s.args [0,0]) Iff.rfl (fun Vq=>?_) (fun Vq=>?_))))
    ·refine ar (ir 1 [(6,.i 0)] (ie ?_))
     exact Zc (r2 [] [.i 0] ⟨rfl,rfl⟩ (li (by first|rfl|( grind)|(have q:=U7 (ds:=n.decls) (us:=us) (args:=s.args) om; grind)|(have q:=U8 (ds:=n.decls) (us:=us) (args:=s.args) om ‹s.args[0]? = some _› om; grind)|(have q:=VZ (ds:=n.decls) (us:=us) (args:=s.args) om ‹s.args[0]? = some _› om ‹us[_]? = some _›; grind))))
    refine ak (ar (ir 1 [(6,.i (-1))] (ie ?_)))
    exact Zc (r2 [] [.i (-1)] ⟨rfl,rfl⟩ (li (by first|rfl|( grind)|(have q:=U7 (ds:=n.decls) (us:=us) (args:=s.args) om; grind)|(have q:=U8 (ds:=n.decls) (us:=us) (args:=s.args) om ‹s.args[0]? = some _› om; grind)|(have q:=VZ (ds:=n.decls) (us:=us) (args:=s.args) om ‹s.args[0]? = some _› om ‹us[_]? = some _›; grind))))
   refine ar (ir 2 [(1,Z0 us),(3,.p b1 0),(5,.p b2 0),(40,.i s.op),(62,.b (s.op==5))] (ie (ac (s.op==5) Zh (fun VH=>?_) (fun VH=>?_))))
   ·refine ar (iR 3 [(64,Z0 us),(66,Z0 s.args)] [0] [b2] (iL (Z8 [0]) 1 1 ?_))
    intro v2
    refine Z6 0 (.n 67 (Z0 [0]) (.p .r)) (Zz [] (Ai us s.args [0] (hl_tys:=(by first|(simp;done)|(have:=VN Xu s.num;omega)))) (ie (ac (XS us s.args [0]) Iff.rfl (fun UG=>?_) (fun UG=>?_))))
    ·refine ar (ir 1 [(6,.i 0)] (ie ?_))
     exact Zc (r2 [] [.i 0] ⟨rfl,rfl⟩ (li (by first|rfl|( grind)|(have q:=U7 (ds:=n.decls) (us:=us) (args:=s.args) om; grind)|(have q:=U8 (ds:=n.decls) (us:=us) (args:=s.args) om ‹s.args[0]? = some _› om; grind)|(have q:=VZ (ds:=n.decls) (us:=us) (args:=s.args) om ‹s.args[0]? = some _› om ‹us[_]? = some _›; grind))))
    refine ak (ar (ir 1 [(6,.i (-1))] (ie ?_)))
    exact Zc (r2 [] [.i (-1)] ⟨rfl,rfl⟩ (li (by first|rfl|( grind)|(have q:=U7 (ds:=n.decls) (us:=us) (args:=s.args) om; grind)|(have q:=U8 (ds:=n.decls) (us:=us) (args:=s.args) om ‹s.args[0]? = some _› om; grind)|(have q:=VZ (ds:=n.decls) (us:=us) (args:=s.args) om ‹s.args[0]? = some _› om ‹us[_]? = some _›; grind))))
   refine ar (Z1 2 69 (.b (s.op==6)) (ie (ac (s.op==6) Zh (fun K9=>?_) (fun K9=>?_))))
   ·refine aD 17 (Y5 13 17 [0,1,2,3] (.n 72 (Zd n.decls) (.n 74 (.i s.num) .r)) [1,0] [b1,b2] (Z9 4 (Yv 4 [] [] [] (He n.decls s.num) (AC [(3,.p b1 0),(5,.p b2 0),(87,.b ((decide ((Xt n.decls s.num)>0))&&XS us s.args (Zw n.decls s.num)))] [.obj b2 (Ye s),.obj b1 (ZM n)] ?_ ?_))))
    ·refine Xd 10 12 [5,6] [(1,Z0 us),(3,.p b1 0),(5,.p b2 0),(77,.b (decide ((Xt n.decls s.num)>0)))] (db (b:=(decide ((Xt n.decls s.num)>0))) 77 (fun W9=>?_) (fun W9=>?_))
     ·have WR:(Xt n.decls s.num)>0:=(dq).1 W9
      refine Y5 3 10 [7,8,9,10,11,12,13] (.n 78 (Z0 us) (.n 80 (Z0 s.args) (.n 82 (Zd n.decls) (.n 84 (.i s.num) (.k (.d (.k (.k .z)))))))) [0,1,0] [b2,b1,b2] (Z9 14 (Yv 14 [] [0] [b2] (Ql n.decls s.num (hd:=Xu)) (Z9 15 (Yv 15 [] [] [] (Ai us s.args (Zw n.decls s.num) (hl_tys:=(by first|(simp;done)|(have:=VN Xu s.num;omega)))) (ZX 0 1 [16] 87 (.b (XS us s.args (Zw n.decls s.num))) (de ?_))))))
      exact wk [0,0] (fw (Zs (XS us s.args (Zw n.decls s.num)) W9 fl))
     have Uc:¬((Xt n.decls s.num)>0):=ZF dq W9
     refine ZZ 0 10 [7,8,9,10,11,12,13,14,15,16] (.n 87 (.b false) (.d (.d (.k (.k .z))))) (de ?_)
     exact wk [0,0] (fw (Zs false W9 fl))
    refine ac ((decide ((Xt n.decls s.num)>0))&&XS us s.args (Zw n.decls s.num)) (p:=((Xt n.decls s.num)>0)/\(XS us s.args (Zw n.decls s.num)=true)) (YF dq Iff.rfl) (fun T9=>?_) (fun T9=>?_)
    ·refine ar (iR 4 [(89,Zd n.decls),(91,.i s.num)] [1,0] [b1,b2] (Zz [] (He n.decls s.num) (ir 1 [(6,.i (Xt n.decls s.num))] (ie ?_))))
     exact Zc (r2 [] [.i (Xt n.decls s.num)] ⟨rfl,rfl⟩ (li (by first|rfl|( grind)|(have q:=U7 (ds:=n.decls) (us:=us) (args:=s.args) om; grind)|(have q:=U8 (ds:=n.decls) (us:=us) (args:=s.args) om ‹s.args[0]? = some _› om; grind)|(have q:=VZ (ds:=n.decls) (us:=us) (args:=s.args) om ‹s.args[0]? = some _› om ‹us[_]? = some _›; grind))))
    refine ak (ar (ir 1 [(6,.i (-1))] (ie ?_)))
    exact Zc (r2 [] [.i (-1)] ⟨rfl,rfl⟩ (li (by first|rfl|( grind)|(have q:=U7 (ds:=n.decls) (us:=us) (args:=s.args) om; grind)|(have q:=U8 (ds:=n.decls) (us:=us) (args:=s.args) om ‹s.args[0]? = some _› om; grind)|(have q:=VZ (ds:=n.decls) (us:=us) (args:=s.args) om ‹s.args[0]? = some _› om ‹us[_]? = some _›; grind))))
   refine ar (Z1 2 93 (.b (s.op==7)) (ie (ac (s.op==7) Zh (fun QE=>?_) (fun QE=>?_))))
   ·refine ar (ZY 3 95 (Z0 us) 97 (Z0 s.args) [0] [b2] (iL (Z8 [0]) 1 1 ?_))
    intro v3
    refine Z6 0 (.n 98 (Z0 [0]) (.p .r)) (Zz [] (Ai us s.args [0] (hl_tys:=(by first|(simp;done)|(have:=VN Xu s.num;omega)))) (ie (ac (XS us s.args [0]) Iff.rfl (fun AP=>?_) (fun AP=>?_))))
    ·refine ar (iR 3 [(100,ZB n),(101,Z0 us),(102,Y2 s)] [2,1] [b1,b2] (Zz [] (Nq n us s (ih:=ob)) (ir 1 [(6,.i (Ue n us s.op s.num s.kids))] (ie ?_))))
     exact Zc (r2 [] [.i (Ue n us s.op s.num s.kids)] ⟨rfl,rfl⟩ (li (by first|rfl|( grind)|(have q:=U7 (ds:=n.decls) (us:=us) (args:=s.args) om; grind)|(have q:=U8 (ds:=n.decls) (us:=us) (args:=s.args) om ‹s.args[0]? = some _› om; grind)|(have q:=VZ (ds:=n.decls) (us:=us) (args:=s.args) om ‹s.args[0]? = some _› om ‹us[_]? = some _›; grind))))
    refine ak (ar (ir 1 [(6,.i (-1))] (ie ?_)))
    exact Zc (r2 [] [.i (-1)] ⟨rfl,rfl⟩ (li (by first|rfl|( grind)|(have q:=U7 (ds:=n.decls) (us:=us) (args:=s.args) om; grind)|(have q:=U8 (ds:=n.decls) (us:=us) (args:=s.args) om ‹s.args[0]? = some _› om; grind)|(have q:=VZ (ds:=n.decls) (us:=us) (args:=s.args) om ‹s.args[0]? = some _› om ‹us[_]? = some _›; grind))))
   refine ar (Z1 2 104 (.b (s.op==8)) (ie (ac (s.op==8) Zh (fun G8=>?_) (fun G8=>?_))))
   ·refine ar (Y0 5 (.n 106 (Z0 us) (.n 108 (Z0 s.args) (.n 110 (.i s.num) .r))) [0,0] [b2,b2] (iL (Z8 [s.num]) 1 1 ?_))
    intro v4
    refine Z6 0 (.n 111 (Z0 [s.num]) (.p .r)) (Zz [] (Ai us s.args [s.num] (hl_tys:=(by first|(simp;done)|(have:=VN Xu s.num;omega)))) (ie (ac (XS us s.args [s.num]) Iff.rfl (fun G9=>?_) (fun G9=>?_))))
    ·refine ar (iR 3 [(113,ZB n),(114,Z0 us),(115,Y2 s)] [2,1] [b1,b2] (Zz [] (Nq n us s (ih:=ob)) (ir 1 [(6,.i (Ue n us s.op s.num s.kids))] (ie ?_))))
     exact Zc (r2 [] [.i (Ue n us s.op s.num s.kids)] ⟨rfl,rfl⟩ (li (by first|rfl|( grind)|(have q:=U7 (ds:=n.decls) (us:=us) (args:=s.args) om; grind)|(have q:=U8 (ds:=n.decls) (us:=us) (args:=s.args) om ‹s.args[0]? = some _› om; grind)|(have q:=VZ (ds:=n.decls) (us:=us) (args:=s.args) om ‹s.args[0]? = some _› om ‹us[_]? = some _›; grind))))
    refine ak (ar (ir 1 [(6,.i (-1))] (ie ?_)))
    exact Zc (r2 [] [.i (-1)] ⟨rfl,rfl⟩ (li (by first|rfl|( grind)|(have q:=U7 (ds:=n.decls) (us:=us) (args:=s.args) om; grind)|(have q:=U8 (ds:=n.decls) (us:=us) (args:=s.args) om ‹s.args[0]? = some _› om; grind)|(have q:=VZ (ds:=n.decls) (us:=us) (args:=s.args) om ‹s.args[0]? = some _› om ‹us[_]? = some _›; grind))))
   refine aq (ar (Z1 2 117 (.b (s.op==9)) (ie (XJ (fun F h=>F=[(1,Z0 us),(3,.p b1 0),(5,.p b2 0),(40,.i s.op),(117,.b ((s.op==9)||(s.op==10)))]/\h=[.obj b2 (Ye s),.obj b1 (ZM n)]) ?_ ?_))))
   ·refine ac (s.op==9) Zh (fun Ka=>?_) (fun Ka=>?_)
    ·refine ak ?_
     exact ZV ⟨rfl,rfl⟩ (wk [0,0] (fq (fc (x:=.b (s.op==9)) (lb (by first|rfl|(rw [Zj Ka])|(rw [Za Ka])|(simp [Ka];done)|(rw [Xo];simp [Ka];done)|omega)) fl)))
    refine az (ir 2 [(1,Z0 us),(3,.p b1 0),(5,.p b2 0),(40,.i s.op),(117,.b (s.op==10))] (ie ?_))
    exact ZV ⟨rfl,rfl⟩ (wk [0,0] (fq (fc (x:=.b (s.op==10)) (lb (by first|rfl|(rw [Zj Ka])|(rw [Za Ka])|(simp [Ka];done)|(rw [Xo];simp [Ka];done)|omega)) fl)))
   rintro F h ⟨rfl,rfl⟩
   refine ac ((s.op==9)||(s.op==10)) (p:=(s.op=9)∨(s.op=10)) (Yc Zh Zh) (fun SP=>?_) (fun SP=>?_)
   ·refine ar (iR 3 [(120,ZB n),(121,Z0 us),(122,Y2 s)] [1,0] [b1,b2] (Zz [] (Z5l n us s) (ir 1 [(6,.i (TH n us s.op s.num s.args))] (ie ?_))))
    exact Zc (r2 [] [.i (TH n us s.op s.num s.args)] ⟨rfl,rfl⟩ (li (by first|rfl|( grind)|(have q:=U7 (ds:=n.decls) (us:=us) (args:=s.args) om; grind)|(have q:=U8 (ds:=n.decls) (us:=us) (args:=s.args) om ‹s.args[0]? = some _› om; grind)|(have q:=VZ (ds:=n.decls) (us:=us) (args:=s.args) om ‹s.args[0]? = some _› om ‹us[_]? = some _›; grind))))
   refine ar (ir 2 [(1,Z0 us),(3,.p b1 0),(5,.p b2 0),(40,.i s.op),(124,.b (s.op==11))] (ie (ac (s.op==11) Zh (fun SQ=>?_) (fun SQ=>?_))))
   ·refine aD 26 (Y5 24 26 [0,1] (.n 127 (Z0 s.args) .r) [0] [b2] (dw 2 (Yf s.args) (ZX 21 23 [3,4] 130 (.b ((s.args.length:Int)==2)) (db (b:=((s.args.length:Int)==2)) 130 (fun Wx=>?_) (fun Wx=>?_)))))
    ·have UH:(s.args.length:Int)=2:=(Zh).1 Wx
     refine Y5 19 21 [5,6] (.n 132 (Z0 s.args) (.k (.d .r))) [0] [b2] ?_
     obtain ⟨x1,Z3⟩:=Zu (xs:=s.args) (j:=0) om
     refine dx 7 (Zn none 0 1 (Y4 Z3)) (ZZ 16 18 [8,9] (.n 134 (.i x1) (.n 135 (Z0 us) .r)) (dw 10 (Yf us) (da 11 (((us.length:Int)-1)) (((us.length:Int))-(1)) (Z9 12 (Yv 12 [] [] [] (Uz x1 0 ((us.length:Int)-1)) (ZX 11 13 [13,14] 140 (.b (decide (0<=x1/\x1<=((us.length:Int)-1)))) (db (b:=(decide (0<=x1/\x1<=((us.length:Int)-1)))) 140 (fun WZ=>?_) (fun WZ=>?_))))))))
     ·have Uv:0<=x1/\x1<=((us.length:Int)-1):=(dq).1 WZ
      refine Y5 6 11 [15,16,17,18,19] (.n 142 (Zd n.decls) (.n 143 (Z0 us) (.n 145 (Z0 s.args) (.k (.d .r))))) [1,0] [b1,b2] (dx 20 (Zn none 0 1 (Y4 Z3)) (ZX 4 5 [21] 147 (.i x1) ?_))
      obtain ⟨x2,Zy⟩:=Zu (xs:=us) (j:=x1.toNat) om
      refine dx 22 (Zn none x1 1 (Y4 Zy)) (ZX 2 3 [23] 149 (.i x2) (Z9 24 (Yv 24 [] [] [] (CR n.decls x2) (ZX 0 1 [25] 151 (.b (X7 n.decls x2)) (de (ac (X7 n.decls x2) Iff.rfl (fun SR=>?_) (fun SR=>?_)))))))
      ·refine aD 14 (Y5 9 14 [0,1,2,3,4] (.n 153 (Zd n.decls) (.n 154 (Z0 us) (.n 156 (Z0 s.args) .r))) [1,0] [b1,b2] (dx 5 (Zn none 0 1 (Y4 Z3)) (ZX 7 8 [6] 158 (.i x1) (dx 7 (Zn none x1 1 (Y4 Zy)) (ZX 5 6 [8] 160 (.i x2) (da 9 ((x2-1)) ((x2)-(1)) (hb:=(by have:=Gi ‹X7 n.decls _=true›;omega)) ?_))))))
       obtain ⟨x3,YT⟩:=Zu (xs:=n.decls) (j:=(x2-1).toNat) (by have:=Gi ‹X7 n.decls _=true›;omega)
       have had:=OG (us:=us) (args:=s.args) om ‹s.args[0]? = some _› om ‹us[_]? = some _› ‹X7 n.decls _=true› YT
       refine dx 10 (Aj (es:=YV n.decls) (hv:=none) (j:=(x2-1)) (sz:=3) (y:=Ul x3) kr (by have:=Gi ‹X7 n.decls _=true›;omega) (Vl YT) rfl) (ZX 2 3 [11] 163 (Ul x3) (Z9 12 (dA 12 [0,1] [b2,b1] [.i 0,.i 0,nl] ?_)))
       intro b3
       refine Z9 13 (YG 13 0 [] [] b3 (Wy x3) (de (aD 8 (Y5 5 8 [0,1,2] (.n 164 (Z0 us) (.n 166 (Z0 s.args) .r)) [1] [b2] (dx 3 (Qo (es:=Z8 s.args) (hv:=none) (l:=1) (m:=(((Z8 s.args).length:Nat):Int)) (sz:=1) (es':=Z8 (s.args.drop 1)) kr om (by simp<;>omega) (by simp<;>omega) (YE _) (by first|(simp only [Vh,WP,Kx,J9];done)|(simp only [Vh,WP,Kx,J9];rfl)|(simp [Kx,J9];done))) (Y5 2 4 [4,5] (.n 169 (.i x3.frm) .r) [0] [b3] (Z9 6 (dL 6 [1] [b2] (Z8 [x3.frm]) 1 1 ?_))))))))
       intro v5
       refine ZZ 1 1 [] (.n 170 (Z0 [x3.frm]) (.p .r)) (Z9 7 (Yv 7 [] [] [] (Ai us (s.args.drop 1) [x3.frm] (hl_tys:=(by first|(simp;done)|(have:=VN Xu s.num;omega)))) (de (ac (XS us (s.args.drop 1) [x3.frm]) Iff.rfl (fun Lj=>?_) (fun Lj=>?_)))))
       ·refine ar (iR 3 [(6,.i x3.to_)] [1] [b3] (ie ?_))
        exact Zc (r2 [] [.i x3.to_] ⟨rfl,rfl⟩ (li (by first|rfl|(clear Z3 Zy YT;grind)|(have q:=U7 (ds:=n.decls) (us:=us) (args:=s.args) om;clear Z3 Zy YT;grind)|(have q:=U8 (ds:=n.decls) (us:=us) (args:=s.args) om ‹s.args[0]? = some _› om;clear Z3 Zy YT;grind)|(have q:=VZ (ds:=n.decls) (us:=us) (args:=s.args) om ‹s.args[0]? = some _› om ‹us[_]? = some _›;clear Z3 Zy YT;grind))))
       refine ak (ar (ir 1 [(6,.i (-1))] (ie ?_)))
       exact Zc (r2 [] [.i (-1)] ⟨rfl,rfl⟩ (li (by first|rfl|(clear Z3 Zy YT;grind)|(have q:=U7 (ds:=n.decls) (us:=us) (args:=s.args) om;clear Z3 Zy YT;grind)|(have q:=U8 (ds:=n.decls) (us:=us) (args:=s.args) om ‹s.args[0]? = some _› om;clear Z3 Zy YT;grind)|(have q:=VZ (ds:=n.decls) (us:=us) (args:=s.args) om ‹s.args[0]? = some _› om ‹us[_]? = some _›;clear Z3 Zy YT;grind))))
      refine ak (ar (ir 1 [(6,.i (-1))] (ie ?_)))
      exact Zc (r2 [] [.i (-1)] ⟨rfl,rfl⟩ (li (by first|rfl|(clear Z3 Zy;grind)|(have q:=U7 (ds:=n.decls) (us:=us) (args:=s.args) om;clear Z3 Zy;grind)|(have q:=U8 (ds:=n.decls) (us:=us) (args:=s.args) om ‹s.args[0]? = some _› om;clear Z3 Zy;grind)|(have q:=VZ (ds:=n.decls) (us:=us) (args:=s.args) om ‹s.args[0]? = some _› om ‹us[_]? = some _›;clear Z3 Zy;grind))))
     have Tt:¬(0<=x1/\x1<=((us.length:Int)-1)):=ZF dq WZ
     refine ZZ 0 11 [15,16,17,18,19,20,21,22,23,24,25] (.n 151 (.b false) (.k (.d .r))) (de (WV (ak (ar (ir 1 [(6,.i (-1))] (ie ?_))))))
     exact Zc (r2 [] [.i (-1)] ⟨rfl,rfl⟩ (li (by first|rfl|(clear Z3;grind)|(have q:=U7 (ds:=n.decls) (us:=us) (args:=s.args) om;clear Z3;grind)|(have q:=U8 (ds:=n.decls) (us:=us) (args:=s.args) om ‹s.args[0]? = some _› om;clear Z3;grind)|(have q:=VZ (ds:=n.decls) (us:=us) (args:=s.args) om ‹s.args[0]? = some _› om ‹us[_]? = some _›;clear Z3;grind))))
    have Ta:¬((s.args.length:Int)=2):=ZF Zh Wx
    refine ZZ 0 21 [5,6,7,8,9,10,11,12,13,14,15,16,17,18,19,20,21,22,23,24,25] (.n 151 (.b false) (.k (.d .r))) (de (WV (ak (ar (ir 1 [(6,.i (-1))] (ie ?_))))))
    exact Zc (r2 [] [.i (-1)] ⟨rfl,rfl⟩ (li (by first|rfl|( grind)|(have q:=U7 (ds:=n.decls) (us:=us) (args:=s.args) om; grind)|(have q:=U8 (ds:=n.decls) (us:=us) (args:=s.args) om ‹s.args[0]? = some _› om; grind)|(have q:=VZ (ds:=n.decls) (us:=us) (args:=s.args) om ‹s.args[0]? = some _› om ‹us[_]? = some _›; grind))))
   refine aq (ar (Z1 2 174 (.b (s.op==14)) (ie (XJ (fun F h=>F=[(1,Z0 us),(3,.p b1 0),(5,.p b2 0),(174,.b ((s.op==14)||((s.op==15)||((s.op==16)||(s.op==17)))))]/\h=[.obj b2 (Ye s),.obj b1 (ZM n)]) ?_ ?_))))
   ·refine ac (s.op==14) Zh (fun UW=>?_) (fun UW=>?_)
    ·refine ak ?_
     exact ZV ⟨rfl,rfl⟩ (wk [0,0] (fw (fr (fc (x:=.b (s.op==14)) (lb (by first|rfl|(rw [Zj UW])|(rw [Za UW])|(simp [UW];done)|(rw [Xo];simp [UW];done)|omega)) fl))))
    refine ar (ir 2 [(1,Z0 us),(3,.p b1 0),(5,.p b2 0),(40,.i s.op),(174,.b (s.op==15))] (ie (ac (s.op==15) Zh (fun Jj=>?_) (fun Jj=>?_))))
    ·refine ak ?_
     exact ZV ⟨rfl,rfl⟩ (wk [0,0] (fw (fr (fc (x:=.b (s.op==15)) (lb (by first|rfl|(rw [Zj UW])|(rw [Za UW])|(simp [UW,Jj];done)|(rw [Xo];simp [UW,Jj];done)|omega)) fl))))
    refine ar (Z6 2 (.n 174 (.b (s.op==16)) (.w .z)) (ie (ac (s.op==16) Zh (fun Cm=>?_) (fun Cm=>?_))))
    ·refine ak ?_
     exact ZV ⟨rfl,rfl⟩ (wk [0,0] (fw (fr (fc (x:=.b (s.op==16)) (lb (by first|rfl|(rw [Zj UW])|(rw [Za UW])|(simp [UW,Jj,Cm];done)|(rw [Xo];simp [UW,Jj,Cm];done)|omega)) fl))))
    refine az (Z6 2 (.n 174 (.b (s.op==17)) (.d .r)) (ie ?_))
    exact ZV ⟨rfl,rfl⟩ (wk [0,0] (fw (fr (fc (x:=.b (s.op==17)) (lb (by first|rfl|(rw [Zj UW])|(rw [Za UW])|(simp [UW,Jj,Cm];done)|(rw [Xo];simp [UW,Jj,Cm];done)|omega)) fl))))
   rintro F h ⟨rfl,rfl⟩
   refine ac ((s.op==14)||((s.op==15)||((s.op==16)||(s.op==17)))) (p:=(s.op=14)∨((s.op=15)∨((s.op=16)∨(s.op=17)))) (Yc Zh (Yc Zh (Yc Zh Zh))) (fun SS=>?_) (fun SS=>?_)
   ·refine ar (iR 3 [(179,ZB n),(180,Z0 us),(181,Y2 s)] [1,0] [b1,b2] (Zz [] (Z5b n us s) (ir 1 [(6,.i (Tn n.decls us s.op s.args))] (ie ?_))))
    exact Zc (r2 [] [.i (Tn n.decls us s.op s.args)] ⟨rfl,rfl⟩ (li (by first|rfl|( grind)|(have q:=U7 (ds:=n.decls) (us:=us) (args:=s.args) om; grind)|(have q:=U8 (ds:=n.decls) (us:=us) (args:=s.args) om ‹s.args[0]? = some _› om; grind)|(have q:=VZ (ds:=n.decls) (us:=us) (args:=s.args) om ‹s.args[0]? = some _› om ‹us[_]? = some _›; grind))))
   refine ak (ar (ir 1 [(6,.i (-1))] (ie ?_)))
   exact Zc (r2 [] [.i (-1)] ⟨rfl,rfl⟩ (li (by first|rfl|( grind)|(have q:=U7 (ds:=n.decls) (us:=us) (args:=s.args) om; grind)|(have q:=U8 (ds:=n.decls) (us:=us) (args:=s.args) om ‹s.args[0]? = some _› om; grind)|(have q:=VZ (ds:=n.decls) (us:=us) (args:=s.args) om ‹s.args[0]? = some _› om ‹us[_]? = some _›; grind))))
  refine ir 1 [(1,Z0 us),(3,.p b1 0),(5,.p b2 0),(17,.b ((s.num != 0)&&(!WK s.op)))] (ib (b:=((s.num != 0)&&(!WK s.op))) 17 (fun WL=>?_) (fun WL=>?_))
  ·have QF:(s.num≠0)/\(¬(WK s.op=true)):=((YF Yg (Yp Iff.rfl))).1 WL
   refine Z6 5 (.n 22 (.b true) (.d (.k (.k (.k .z))))) ?_
   exact YC (wk [0,0] (fw (fr (Zs true WL fl)))) hj2
  have QG:¬((s.num≠0)/\(¬(WK s.op=true))):=ZF (YF Yg (Yp Iff.rfl)) WL
  refine Y0 2 (.n 18 (Z0 us) (.n 19 (Y2 s) (.w .z))) [0] [b2] (Zz [] (Z5v us s) (Z1 2 22 (.b (!VK us s.op s.into)) ?_))
  exact YC (wk [0,0] (fw (fr (Zs (!VK us s.op s.into) WL fl)))) hj2
 refine iR 4 [(1,Z0 us),(3,.p b1 0),(5,.p b2 0),(11,.b (s.num != 0))] [0] [b2] (ib (b:=(s.num != 0)) 11 (fun WM=>?_) (fun WM=>?_))
 ·have Jk:s.num≠0:=(Yg).1 WM
  refine Y0 2 (.n 13 (.i s.op) (.w .z)) [0] [b2] (Zz [] (Z5c s.op) (Z1 2 16 (.b (!WK s.op)) ?_))
  exact YC (wk [0,0] (fw (fr (Zs (!WK s.op) WM fl)))) hj1
 have QH:¬(s.num≠0):=ZF Yg WM
 refine Z6 5 (.n 16 (.b false) (.d (.k (.k (.k .z))))) ?_
 exact YC (wk [0,0] (fw (fr (Zs false WM fl)))) hj1
theorem Z57 (n:Zx) (us:List Int) (b:Z5) (hn:Xf n:=by exact ob) (hb:us.length+4*b.sz<=1000000000:=by exact ob) (ih:∀(s:Z4) (us:List Int),(s.sz<b.sz)->(us.length+4*s.sz<=1000000000)->Zk Tryz.prog 98 [ZB n,Z0 us,Y2 s] [] (fun r h=>r=.i (ZJ n us s)/\h=[])):Zk Tryz.prog 60 [ZB n,Z0 us,Zr b] [] (fun r h=>r=.i (YR n us b)/\h=[]):=by
 have hbz:=Vz b
 have hbe:=Dc n us b
 refine ZL 52 Tryz.func60 (ar (iA (ZM n) ?_))
 intro b1
 refine iA (Y8 b) ?_
 intro b2
 refine ir 1 [(1,Z0 us),(3,.p b1 0),(5,.p b2 0)] (ie (ar (Z1 1 10 (Z0 us) (ic [] (VJ us) ?_))))
 rintro _ _ ⟨v1,rfl,rfl⟩
 refine Z1 1 7 (Z7 us v1) (ie (aq (ar (Z1 1 8 (.i 0) (ie (ab 0 (al (fun m F h=>∃(k:Nat) (vs:List Int) (v:Value),(k<=b.steps.length)/\(vs.length<=us.length+k)/\(Wh n (b.steps.drop k) vs=Wh n b.steps us)/\F=[(3,.p b1 0),(5,.p b2 0),(7,Z7 vs v),(8,.i k)]/\h=[.obj b2 (Y8 b),.obj b1 (ZM n),.tail v 1]/\m=b.steps.length-k) _ _ _ ⟨0,us,v1,ob,ob,ob,rfl,rfl,rfl⟩ (wk [1,1,0] (fw (fr (Yh fl)))) ?_)))))))
 rintro m F h ⟨k,vs,v,Yo,Zp,ZA,rfl,rfl,rfl⟩
 refine aq (ar (ZY 3 12 (.i k) 14 (Ya b.steps) [0] [b2] (iw (Vp b.steps) (Z1 1 16 (.b (decide ((k:Int)<(b.steps.length:Int)))) (ie (ZT ((k:Int)<(b.steps.length:Int)) (fun Ze=>?_) (fun Ze=>?_)))))))
 ·refine ak (aq (ab 1 (aD 9 (Y5 4 9 [0,1,2,3,4] (.n 19 (ZB n) (.n 20 (Z7 vs v) (.n 22 (Ya b.steps) (.n 23 (.i k) .r)))) [1,0] [b1,b2] ?_))))
  obtain ⟨x1,Z3⟩:=Zu (xs:=b.steps) (j:=k) om
  have hss:=B3 Z3
  refine dx 5 (Zn none (k:Int) 5 (Ww Z3)) (ZZ 2 3 [6] (.n 20 (Z0 vs) (.n 25 (Y2 x1) (.q 24 (.k (.d .r))))) (Z9 7 (Yv 7 [] [] [] (ih x1 vs ob ob) (ZX 0 1 [8] 9 (.i (ZJ n vs x1)) (de (aq (ar (Z1 2 28 (.b (decide ((ZJ n vs x1)<0))) (ie (ZT ((ZJ n vs x1)<0) (fun Zl=>?_) (fun Zl=>?_)))))))))))
  ·refine ar (ir 1 [(6,.i (-1))] (ie ?_))
   rw [Yd Z3] at ZA
   exact Zc (r2 [] [.i (-1)] ⟨rfl,rfl⟩ (li (by clear Z3;first|rfl|omega|grind [Wh])))
  refine ak (ar (ZY 3 30 (Ya b.steps) 31 (.i k) [0] [b2] (Zq (Zn none (k:Int) 5 (Ww Z3)) (Z1 2 34 (.i x1.op) (Zz [] (QU x1.op) (ie (JM (fun F h=>∃(w:Value),F=[(3,.p b1 0),(5,.p b2 0),(7,Z7 (if X3 x1.op=true then vs++[ZJ n vs x1] else vs) w),(8,.i k)]/\h=[.obj b2 (Y8 b),.obj b1 (ZM n),.tail w 1]) (fun _ _=>rfl) ?_ ?_)))))))
  ·refine ac (X3 x1.op) Iff.rfl (fun ZI=>?_) (fun ZI=>?_)
   ·refine az (ir 2 [(3,.p b1 0),(5,.p b2 0),(8,.i k),(36,Z7 vs v),(37,.i (ZJ n vs x1))] (iL (Z8 [ZJ n vs x1]) 1 1 ?_))
    intro v2
    refine Z6 0 (.n 38 (Z0 [ZJ n vs x1]) (.p .r)) (ip 3 (Z8 (vs++[ZJ n vs x1])) (Z8 vs) (Z8 [ZJ n vs x1]) v none 1 (YE _) (YE _) (XY _) (by simp<;>omega) (by simp [XX,Z8]) ?_)
    intro v3
    refine Z1 1 7 (Z7 (vs++[ZJ n vs x1]) v3) (ie ?_)
    exact ZV ⟨v3,rfl,rfl⟩ (wk [2,2,0] (fw (fc (x:=Z7 (vs++[ZJ n vs x1]) v3) (Zg.slh _ (Yw Z8 (by first|rfl|(rw [Zj ZI])|(rw [Za ZI])|(simp [ZI];done)|(rw [Xo];simp [ZI];done)|omega))) fl)))
   refine ak ?_
   exact ZV ⟨v,rfl,rfl⟩ (ZK 3 (fw (fc (x:=Z7 vs v) (Zg.slh _ (Yw Z8 (by first|rfl|(rw [Zj ZI])|(rw [Za ZI])|(simp [ZI];done)|(rw [Xo];simp [ZI];done)|omega))) fl)))
  rintro F h ⟨w,rfl,rfl⟩
  refine az (ir 1 [(3,.p b1 0),(5,.p b2 0),(7,Z7 (if X3 x1.op=true then vs++[ZJ n vs x1] else vs) w),(17,.i k)] (ZO k (Z1 1 8 (.i (k+1:Nat)) (ie ?_))))
  have hdr:=Yd Z3
  exact ZU ⟨k+1,(if X3 x1.op=true then vs++[ZJ n vs x1] else vs),w,ob,(by split<;>(try simp)<;>omega),(by rw [hdr] at ZA;clear hdr Z3;grind [Wh]),rfl,rfl,rfl⟩ (ZK 3 (fw (fr (ZW k fl))))
 refine ax 0 (aq (ar (ZY 3 41 (.i b.result) 42 (Z7 vs v) [0] [b2] (iw (Yf vs) (ia (((vs.length:Int)-1)) (((vs.length:Int))-(1)) (Zz [] (Uz b.result 0 ((vs.length:Int)-1)) (Z1 1 46 (.b (!(decide (0<=b.result/\b.result<=((vs.length:Int)-1))))) (ie (ac (!(decide (0<=b.result/\b.result<=((vs.length:Int)-1)))) (p:=¬(0<=b.result/\b.result<=((vs.length:Int)-1))) (Yp dq) (fun Yi=>?_) (fun Yi=>?_))))))))))
 ·refine ar (ir 1 [(6,.i (-1))] (ie ?_))
  try rw [Xz (xs:=b.steps) (k:=k) om] at ZA
  exact Zc (r2 [] [.i (-1)] ⟨rfl,rfl⟩ (li (by rw [hbe,<-ZA];show _=(Xj vs b.result).getD (-1);rw [Qc Yi];rfl)))
 refine ak (ar (iR 3 [(47,Z7 vs v),(49,.i b.result)] [0] [b2] ?_))
 obtain ⟨x2,Zy⟩:=Zu (xs:=vs) (j:=b.result.toNat) om
 refine Zq (Zn (some v) b.result 1 (Y4 Zy)) (ir 2 [(6,.i x2)] (ie ?_))
 try rw [Xz (xs:=b.steps) (k:=k) om] at ZA
 exact Zc (r2 [] [.i x2] ⟨rfl,rfl⟩ (li (by rw [hbe,<-ZA];show _=(Xj vs b.result).getD (-1);rw [Tz om Zy];rfl)))
theorem Z5s (b:Z5) (l:Int) (hb:b.sz<=1000000000) (hl:0<=l/\l<=600) (ih:∀(b2:Z5) (l:Int),(b2.sz<b.sz)->(0<=l/\l<=600)->Zk Tryz.prog 97 [Zr b2,.i l] [] (fun r h=>r=.i (XU b2 l)/\h=[])):Zk Tryz.prog 97 [Zr b,.i l] [] (fun r h=>r=.i (XU b l)/\h=[]):=by
 have hbz:=Vz b
 have hbe:=LS b l
 refine ZL 43 Tryz.func97 (ar (iA (Y8 b) ?_))
 intro b1
 refine ir 1 [(1,.i l),(2,.p b1 0)] (ie (aq (ar (Z1 1 5 (.i 0) (ie (ab 0 (al (fun m F h=>∃(k:Nat) (q:Int),(k<=b.steps.length)/\(0<=q/\q<=600)/\(V1 (b.steps.drop k) q=V1 b.steps l)/\F=[(1,.i q),(2,.p b1 0),(5,.i k)]/\h=[.obj b1 (Y8 b)]/\m=b.steps.length-k) _ _ _ ⟨0,l,ob,ob,ob,rfl,rfl,rfl⟩ (wk [0] (fw (Yh fl))) ?_)))))))
 rintro m F h ⟨k,q,Yo,Zp,ZA,rfl,rfl,rfl⟩
 refine aq (ar (ZY 3 7 (.i k) 9 (Ya b.steps) [0] [b1] (iw (Vp b.steps) (Z1 1 11 (.b (decide ((k:Int)<(b.steps.length:Int)))) (ie (ZT ((k:Int)<(b.steps.length:Int)) (fun Ze=>?_) (fun Ze=>?_)))))))
 ·refine ak (aq (ab 1 (aq (ar (Z1 2 15 (.b (decide (q<1))) (ie (ZT (q<1) (fun Zl=>?_) (fun Zl=>?_))))))))
  ·refine ar (ir 1 [(4,.i (-1))] (ie ?_))
   try rw [Xz (xs:=b.steps) (k:=k) om] at ZA
   obtain ⟨x1,Z3⟩:=Zu (xs:=b.steps) (j:=k) om
   rw [Yd Z3] at ZA
   clear Z3
   exact Zc (r2 [] [.i (-1)] ⟨rfl,rfl⟩ (li (by first|rfl|omega|grind [V1])))
  obtain ⟨s1,hxs1⟩:=Zu (xs:=b.steps) (j:=k) om
  have hss:=KQ hxs1
  have hkz:=Td s1
  refine ak (ar (Z1 1 16 (.i q) (ia ((q-1)) ((q)-(1)) (ir 1 [(1,.i (q-1)),(2,.p b1 0),(5,.i k)] (ie (ar (Z1 1 6 (.i 0) (ie (ab 2 (al (fun m F h=>∃(j:Nat) (j2:Int),(j<=s1.kids.length)/\(0<=j2/\j2<=600)/\(Te (s1.kids.drop j) j2=Te s1.kids (q-1))/\F=[(1,.i j2),(2,.p b1 0),(5,.i k),(6,.i j)]/\h=[.obj b1 (Y8 b)]/\m=s1.kids.length-j) _ _ _ ⟨0,(q-1),ob,ob,ob,rfl,rfl,rfl⟩ (wk [0] (fw (fr (Yh fl)))) ?_))))))))))
  rintro m F h ⟨j,j2,Um,Wg,XK,rfl,rfl,rfl⟩
  refine aq (ar (Y0 4 (.n 18 (.i j) (.n 20 (Ya b.steps) (.n 21 (.i k) .r))) [0] [b1] (Zq (Zn none (k:Int) 5 (Ww hxs1)) (Z1 2 24 (Yz s1.kids) (iw (U1 s1.kids) (Z1 1 26 (.b (decide ((j:Int)<(s1.kids.length:Int)))) (ie (ZT ((j:Int)<(s1.kids.length:Int)) (fun ZI=>?_) (fun ZI=>?_)))))))))
  ·refine ak (aq (ab 3 (ar (ZY 3 30 (Ya b.steps) 31 (.i k) [0] [b1] (Zq (Zn none (k:Int) 5 (Ww hxs1)) (Yq 3 34 (Yz s1.kids) 35 (.i j) ?_))))))
   obtain ⟨x1,Z3⟩:=Zu (xs:=s1.kids) (j:=j) om
   have hks:=Tc Z3
   have hle:=E3.2 x1 j2 om
   refine Zq (Zn none (j:Int) 2 (UD Z3)) (Yq 2 37 (Zr x1) 38 (.i j2) (Zz [] (ih x1 j2 ob ob) (ir 1 [(1,.i (XU x1 j2)),(2,.p b1 0),(5,.i k),(6,.i j)] (ie (ar (Z1 2 41 (.b (decide ((XU x1 j2)<0))) (ie (ZT ((XU x1 j2)<0) (fun Yi=>?_) (fun Yi=>?_)))))))))
   ·refine ar (ir 1 [(4,.i (-1))] (ie ?_))
    rw [Yd hxs1] at ZA
    rw [Yd Z3] at XK
    have hls:=E4 s1 (q-1)
    exact Zc (r2 [] [.i (-1)] ⟨rfl,rfl⟩ (li (by clear Z3 hxs1;first|rfl|omega|grind [V1,Te])))
   refine ak (az (Z1 1 27 (.i j) (ZO j (Z6 1 (.n 6 (.i (j+1:Nat)) (.p (.d (.d (.k (.k (.k .z))))))) (ie ?_)))))
   have hdr:=Yd Z3
   exact ZU ⟨j+1,(XU x1 j2),ob,ob,(by rw [hdr] at XK;clear hdr Z3 hxs1;grind [Te]),rfl,rfl,rfl⟩ (wk [0] (fw (fr (ZW j fl))))
  refine ax 2 (az (Z1 1 12 (.i k) (ZO k (ir 1 [(1,.i j2),(2,.p b1 0),(5,.i (k+1:Nat))] (ie ?_)))))
  rw [Xz om] at XK
  have hls:=E4 s1 (q-1)
  rw [Te] at XK
  have hdr:=Yd hxs1
  exact ZU ⟨k+1,j2,ob,ob,(by rw [hdr] at ZA;clear hdr hxs1;grind [V1]),rfl,rfl,rfl⟩ (wk [0] (fw (ZW k fl)))
 refine ax 0 (ar (ir 2 [(4,.i q)] (ie ?_)))
 try rw [Xz (xs:=b.steps) (k:=k) om] at ZA
 exact Zc (r2 [] [.i q] ⟨rfl,rfl⟩ (li (by first|rfl|omega|grind [V1])))
theorem Z5r (b:Z5) (l:Int) (hb:b.sz<=1000000000) (hl:0<=l/\l<=600):Zk Tryz.prog 97 [.agg [.sl (Zo b.steps) none,.i b.result],.i l] [] (fun r h=>r=.i (XU b l)/\h=[]):=by
 have key:∀m:Nat,∀(b:Z5) (l:Int),b.sz<=m->b.sz<=1000000000->(0<=l/\l<=600)->Zk Tryz.prog 97 [.agg [.sl (Zo b.steps) none,.i b.result],.i l] [] (fun r h=>r=.i (XU b l)/\h=[]):=by
  intro m
  induction m with
  | zero=>intro b l h;have:=b.sz_pos;omega
  | succ m ih=>intro b l h1 h2 h3;exact Z5s b l h2 h3 fun b2 l2 k1 k2=>ih b2 l2 om om k2
 exact key b.sz b l (Xa _) hb hl
theorem Z56 (n:Zx) (hn:Xf n) (m:Nat):∀(b:Z5) (us:List Int),(b.sz<=m)->(us.length+4*b.sz<=1000000000)->Zk Tryz.prog 60 [ZB n,Z0 us,Zr b] [] (fun r h=>r=.i (YR n us b)/\h=[]):=by
 induction m with
 | zero=>intro b us h;have:=b.sz_pos;omega
 | succ m ih=>intro b us h1 h2;exact Z57 n us b hn h2 fun s us2 k1 k2=>Nt n us2 s hn k2 fun b2 us3 q1 q2=>ih b2 us3 om q2
theorem Hc (n:Zx) (us:List Int) (b:Z5) (hn:Xf n) (hb:us.length+4*b.sz<=1000000000):Zk Tryz.prog 60 [ZB n,Z0 us,Zr b] [] (fun r h=>r=.i (YR n us b)/\h=[]):=
 Z56 n hn b.sz b us (Xa _) hb
theorem Hh (n:Zx) (us:List Int) (s:Z4) (hn:Xf n) (hb:us.length+4*s.sz<=1000000000):Zk Tryz.prog 98 [ZB n,Z0 us,Y2 s] [] (fun r h=>r=.i (ZJ n us s)/\h=[]):=
 Nt n us s hn hb fun b2 us3 _ q2=>Hc n us3 b2 hn q2
theorem Nu (b:Z5) (hb:b.sz<=1000000000:=by exact ob):Zk Tryz.prog 59 [Zr b] [] (fun r h=>r=.i (Wm b)/\h=[]):=by
 have hle:=E3.2 b 600 om
 refine ZL 10 Tryz.func59 (ar (iA (Y8 b) ?_))
 intro b1
 refine ir 1 [(1,.p b1 0)] (ie (ar (iR 1 [(4,Zr b)] [0] [b1] (Zz [] (Z5r b 600 ob ob) (ir 1 [(3,.i (XU b 600))] (ie (aq (ar (Z1 2 7 (.b (decide ((XU b 600)<0))) (ie (ZT ((XU b 600)<0) (fun Ze=>?_) (fun Ze=>?_))))))))))))
 ·refine ar (ir 1 [(2,.i (-1))] (ie ?_))
  exact Zc (r2 [] [.i (-1)] ⟨rfl,rfl⟩ (li (by first|rfl|omega|grind [Wm])))
 refine ak (ar (ir 1 [(8,.i (XU b 600))] (ia ((600-(XU b 600))) ((600)-(XU b 600)) (ir 1 [(2,.i (600-(XU b 600)))] (ie ?_)))))
 exact Zc (r2 [] [.i (600-(XU b 600))] ⟨rfl,rfl⟩ (li (by first|rfl|omega|grind [Wm])))
theorem Je (z:Int) :Zk Tryz.prog 190 [.i z] [] (fun r h=>r=ZE (Z2.mk 0 z [])/\h=[]):=by
 refine ZL 6 Tryz.func190 (ar (iA [.i 0,.i 0,nl] ?_))
 intro b1
 refine ie (ar (ir 1 [(2,.p b1 0),(3,.i z)] (iL (Yr []) 0 3 ?_)))
 intro v1
 refine Z1 1 5 (.agg [.i 0,.i z,XR [] v1]) (ZG 1 b1 [.i 0,.i z,XR [] v1] (ie ?_))
 exact Zc (r3 [] [.agg [.i 0,.i z,XR [] v1]] [0] [(b1,b1)] ⟨rfl,rfl⟩ (Zg.agg (.cons li (.cons li (.cons (Zg.sl _ (Yw Yr rfl)) .nil)))))
theorem Ts (z:Int) :Zk Tryz.prog 222 [.i z] [] (fun r h=>r=ZE (Z2.mk 12 z [])/\h=[]):=by
 refine ZL 6 Tryz.func222 (ar (iA [.i 0,.i 0,nl] ?_))
 intro b1
 refine ie (ar (ir 1 [(2,.p b1 0),(3,.i z)] (iL (Yr []) 0 3 ?_)))
 intro v1
 refine Z1 1 5 (.agg [.i 12,.i z,XR [] v1]) (ZG 1 b1 [.i 12,.i z,XR [] v1] (ie ?_))
 exact Zc (r3 [] [.agg [.i 12,.i z,XR [] v1]] [0] [(b1,b1)] ⟨rfl,rfl⟩ (Zg.agg (.cons li (.cons li (.cons (Zg.sl _ (Yw Yr rfl)) .nil)))))
theorem XG (op:Int) (nm:Int) (ks:List Z2) :Zk Tryz.prog 220 [.i op,.i nm,X5 ks] [] (fun r h=>r=ZE (Z2.mk op nm ks)/\h=[]):=by
 refine ZL 11 Tryz.func220 (ar (iA [.i 0,.i 0,nl] ?_))
 intro b1
 refine ie (ar (ir 4 [(6,.p b1 0),(10,.agg [.i op,.i nm,X5 ks])] (ZG 0 b1 [.i op,.i nm,X5 ks] (ie ?_))))
 exact Zc (r3 [] [.agg [.i op,.i nm,X5 ks]] [0] [(b1,b1)] ⟨rfl,rfl⟩ (Zg.agg (.cons li (.cons li (.cons (Zg.sl _ (Yw Yr rfl)) .nil)))))
theorem Lb (rd:Nat) (bs:List Int) (p:Nat) (ZD:∀z∈bs,0<=z/\z<=255) (hp:p+4<=1000000000:=by exact ob):Zk Tryz.prog 251 [.p rd 0] [Yl rd bs p] (fun r h=>∃(z:Int),r=.i z/\h=[.obj rd [Xb bs,.i (p+4:Nat)]]/\-2000<=z/\z<=2000):=by
 refine ZL 12 Tryz.func251 (ar (ir 1 [(0,.p rd 0)] (ie (ar (Yq 2 3 (.p rd 0) 4 (.p rd 0) (ic [0] (XP rd bs p 6 (ZD:=ob)) ?_))))))
 rintro _ _ ⟨k1,rfl,rfl,ZP⟩
 have qhp1:=ZP.lt om
 refine Z1 1 6 (.p rd 0) (ic [0] (XP rd bs (p+1) 6 (ZD:=ob)) ?_)
 rintro _ _ ⟨k2,rfl,rfl,Y1⟩
 have qhp2:=Y1.lt om
 refine Z1 1 8 (.p rd 0) (ic [0] (XP rd bs ((p+1)+1) 40 (ZD:=ob)) ?_)
 rintro _ _ ⟨k3,rfl,rfl,YB⟩
 have qhp3:=YB.lt om
 refine iL (Z8 [k1,k2,0,1,2,-1,3,k3,999,-998]) 10 1 ?_
 intro v1
 refine Z6 0 (.n 10 (Z0 [k1,k2,0,1,2,-1,3,k3,999,-998]) (.p .r)) (ic [1] (Vu rd bs (((p+1)+1)+1) [k1,k2,0,1,2,-1,3,k3,999,-998] (ZD:=ob)) ?_)
 rintro _ _ ⟨z1,rfl,rfl,YM⟩
 refine ir 1 [(2,.i z1)] (ie ?_)
 exact Zc (r1 [0] ⟨z1,rfl,rfl,(by simp at YM;omega)⟩)
theorem IW (g:XV) (gb:Nat) (rs:List Func) (t:Int) (hg:GP g:=by exact ob) (W8:g.funcs <+: rs:=by exact ob):Zk Tryz.prog 265 [.agg (Y9 g gb),.i t] [YI gb rs] (fun r h=>∃(xs:List Int),r=Z0 xs/\h=[YI gb rs]/\xs.length<=4/\∀i∈xs,KY g t i):=by
 have hgl:=hg.len
 have hdl:=hg.decls.len
 refine ZL 53 Tryz.func265 (ar (iA (Y9 g gb) ?_))
 intro b1
 refine ir 1 [(1,.i t),(2,.p b1 0)] (ie (ar (iL (Z8 []) 0 1 ?_)))
 intro v1
 refine Z1 1 5 (Z7 [] v1) (ie (aq (ar (Z1 1 6 (.i 0) (ie (ab 0 (al (fun m F h=>∃(k:Nat) (ys:List Int) (u:Value),(k<=g.funcs.length)/\(ys.length<=k)/\(∀i∈ys,KY g t i)/\F=[(1,.i t),(2,.p b1 0),(5,Z7 ys u),(6,.i k)]/\h=[.obj b1 (Y9 g gb),YI gb rs,.tail u 1]/\m=g.funcs.length-k) _ _ _ ⟨0,[],v1,ob,ob,(fun i hi=>by cases hi),rfl,rfl,rfl⟩ (wk [1,1,0] (fw (fr (Yh fl)))) ?_)))))))
 rintro m F h ⟨k,ys,u,Yo,Zp,ZA,rfl,rfl,rfl⟩
 refine aq (ar (ZY 3 9 (.i k) 11 (.ms gb 0 g.funcs.length 4) [0] [b1] (io (.i g.funcs.length) (.i g.funcs.length) (lr _) (Z1 1 13 (.b (decide ((k:Int)<(g.funcs.length:Int)))) (ie (ZT ((k:Int)<(g.funcs.length:Int)) (fun Ze=>?_) (fun Ze=>?_)))))))
 ·refine ak (aq (ab 1 (ar (ZY 3 17 (.ms gb 0 g.funcs.length 4) 18 (.i k) [0] [b1] ?_))))
  obtain ⟨x1,Z3⟩:=Zu (xs:=g.funcs) (j:=k) om
  have hso:=(hg.sigs _ (Y7 Z3)).bd
  refine Zq (W5 gb g.funcs.length 4 k 5 (k:Int)) (Z1 1 20 (.val (.pointer (some ⟨gb,k*5,none⟩))) (VO (V0 1 gb 4 4 5 (k*5+0) (Zm (Xc rs)) [Z0 x1.params] 27 (Z0 x1.params) (U2 W8 Z3 0 rfl (WH rfl))) (iw (Yf x1.params) (Z1 1 7 (.i x1.params.length) (ie (aD 25 (ZX 22 25 [0,1,2] 25 (.b (decide ((x1.params.length:Int)>0))) (db (b:=(decide ((x1.params.length:Int)>0))) 25 (fun Zb=>?_) (fun Zb=>?_)))))))))
  ·have ZP:(x1.params.length:Int)>0:=(dq).1 Zb
   refine Y5 17 22 [3,4,5,6,7] (.n 27 (Zd g.decls) (.n 29 (.ms gb 0 g.funcs.length 4) (.n 30 (.i k) (.k (.d .r))))) [0,0] [b1,b1] (dx 8 (W5 gb g.funcs.length 4 k 5 (k:Int)) (ZX 15 16 [9] 32 (.val (.pointer (some ⟨gb,k*5,none⟩))) (VP 10 (V0 1 gb 4 4 5 (k*5+0) (Zm (Xc rs)) [Z0 x1.params] 27 (Z0 x1.params) (U2 W8 Z3 0 rfl (WH rfl))) (ZX 13 14 [11] 34 (.i x1.params.length) (da 12 ((((x1.params.length-1):Nat):Int)) (((x1.params.length:Int))-(1)) ?_)))))
   obtain ⟨x2,Zy⟩:=Zu (xs:=x1.params) (j:=(x1.params.length-1)) om
   refine dx 13 (Zn none (((x1.params.length-1):Nat):Int) 1 (Y4 Zy)) (Y5 7 11 [14,15,16,17] (.n 37 (.i x2) (.n 39 (.ms gb 0 g.funcs.length 4) (.n 40 (.i k) .r))) [0] [b1] (dx 18 (W5 gb g.funcs.length 4 k 5 (k:Int)) (ZX 5 6 [19] 42 (.val (.pointer (some ⟨gb,k*5+1,none⟩))) (VP 20 (V0 1 gb 4 4 5 (k*5+1) (Zm (Xc rs)) [.i x1.result] 3 (.i x1.result) (U2 W8 Z3 1 rfl (WH rfl))) (ZX 3 4 [22] 45 (.i t) (Z9 21 (Yv 21 [] [] [] (Nk g.decls x2 x1.result) (ZX 0 2 [23,24] 47 (.b ((WX g.decls x2 x1.result)==t)) (de (ac ((WX g.decls x2 x1.result)==t) Zh (fun Zl=>?_) (fun Zl=>?_)))))))))))
   ·refine az (Yq 2 48 (Z7 ys u) 49 (.i k) (iL (Z8 [(k:Int)]) 1 1 ?_))
    intro v2
    refine Z6 0 (.n 50 (Z0 [(k:Int)]) (.p .r)) (ip 3 (Z8 (ys++[(k:Int)])) (Z8 ys) (Z8 [(k:Int)]) u none 1 (YE _) (YE _) (XY _) (by simp<;>omega) (by simp [XX,Z8]) ?_)
    intro v3
    refine ir 1 [(1,.i t),(2,.p b1 0),(5,Z7 (ys++[(k:Int)]) v3),(6,.i k)] (ie (az (Z1 1 14 (.i k) (ZO k (Z6 1 (.n 6 (.i (k+1:Nat)) (.p (.d (.k (.k (.k .z)))))) (ie ?_))))))
    exact ZU ⟨k+1,(ys++[(k:Int)]),v3,ob,ob,(Xr ZA (KY.mk Z3 om Zy Zl)),rfl,rfl,rfl⟩ (wk [2,2,0] (fw (fr (ZW k fl))))
   refine ak (az (Z1 1 14 (.i k) (ZO k (ir 1 [(1,.i t),(2,.p b1 0),(5,Z7 ys u),(6,.i (k+1:Nat))] (ie ?_)))))
   exact ZU ⟨k+1,ys,u,ob,ob,ob,rfl,rfl,rfl⟩ (ZK 3 (fw (fr (ZW k fl))))
  have Y1:¬((x1.params.length:Int)>0):=ZF dq Zb
  refine ZZ 0 22 [3,4,5,6,7,8,9,10,11,12,13,14,15,16,17,18,19,20,21,22,23,24] (.n 47 (.b false) (.k (.d .r))) (de (WV (ak (az (Z1 1 14 (.i k) (ZO k (ir 1 [(1,.i t),(2,.p b1 0),(5,Z7 ys u),(6,.i (k+1:Nat))] (ie ?_))))))))
  exact ZU ⟨k+1,ys,u,ob,ob,ob,rfl,rfl,rfl⟩ (ZK 3 (fw (fr (ZW k fl))))
 refine ax 0 (ar (ir 2 [(4,Z7 ys u)] (ie ?_)))
 exact Zc (r2 [1] [Z7 ys u] ⟨ys,rfl,rfl,⟨by omega,ZA⟩⟩ (Zg.forget _ _))
theorem SN (vs:List Int) (t:Int) (hv:vs.length<=2000:=by exact ob):Zk Tryz.prog 252 [Z0 vs,.i t] [] (fun r h=>∃(xs:List Int),r=Z0 xs/\h=[]/\xs.length<=vs.length/\∀i∈xs,0<=i/\i<vs.length):=by
 refine ZL 25 Tryz.func252 (ar (ir 1 [(0,Z0 vs),(1,.i t)] (ie (ar (iL (Z8 []) 0 1 ?_)))))
 intro v1
 refine Z1 1 5 (Z7 [] v1) (ie (aq (ar (Z1 1 6 (.i 0) (ie (ab 0 (al (fun m F h=>∃(k:Nat) (ys:List Int) (u:Value),(k<=vs.length)/\(ys.length<=k)/\(∀i∈ys,0<=i/\i<vs.length)/\F=[(0,Z0 vs),(1,.i t),(5,Z7 ys u),(6,.i k)]/\h=[.tail u 1]/\m=vs.length-k) _ _ _ ⟨0,[],v1,ob,ob,(fun i hi=>by cases hi),rfl,rfl,rfl⟩ (wk [0] (fw (fr (Yh fl)))) ?_)))))))
 rintro m F h ⟨k,ys,u,Yo,Zp,ZA,rfl,rfl,rfl⟩
 refine aq (ar (Yq 2 8 (.i k) 9 (Z0 vs) (iw (Yf vs) (Z1 1 11 (.b (decide ((k:Int)<(vs.length:Int)))) (ie (ZT ((k:Int)<(vs.length:Int)) (fun Ze=>?_) (fun Ze=>?_)))))))
 ·refine ak (aq (ab 1 (ar (Yq 2 14 (Z0 vs) 15 (.i k) ?_))))
  obtain ⟨x1,Z3⟩:=Zu (xs:=vs) (j:=k) om
  refine Zq (Zn none (k:Int) 1 (Y4 Z3)) (Z1 3 19 (.b (x1==t)) (ie (ac (x1==t) Zh (fun Zl=>?_) (fun Zl=>?_))))
  ·refine az (Yq 2 20 (Z7 ys u) 21 (.i k) (iL (Z8 [(k:Int)]) 1 1 ?_))
   intro v2
   refine Z6 0 (.n 22 (Z0 [(k:Int)]) (.p .r)) (ip 1 (Z8 (ys++[(k:Int)])) (Z8 ys) (Z8 [(k:Int)]) u none 1 (YE _) (YE _) (XY _) (by simp<;>omega) (by simp [XX,Z8]) ?_)
   intro v3
   refine ir 1 [(0,Z0 vs),(1,.i t),(5,Z7 (ys++[(k:Int)]) v3),(6,.i k)] (ie (az (Z1 1 12 (.i k) (ZO k (Z6 1 (.n 6 (.i (k+1:Nat)) (.p (.d (.k (.k (.k .z)))))) (ie ?_))))))
   exact ZU ⟨k+1,(ys++[(k:Int)]),v3,ob,ob,(Xr ZA om),rfl,rfl,rfl⟩ (wk [0] (fw (fr (ZW k fl))))
  refine ak (az (Z1 1 12 (.i k) (ZO k (ir 1 [(0,Z0 vs),(1,.i t),(5,Z7 ys u),(6,.i (k+1:Nat))] (ie ?_)))))
  exact ZU ⟨k+1,ys,u,ob,ob,ob,rfl,rfl,rfl⟩ (wk [0] (fw (fr (ZW k fl))))
 refine ax 0 (ar (ir 2 [(4,Z7 ys u)] (ie ?_)))
 exact Zc (r2 [] [Z7 ys u] ⟨ys,rfl,rfl,⟨by omega,ZA⟩⟩ (Zg.forget _ _))
theorem DI (g:XV) (gb:Nat) (rs:List Func) (vs:List Int) (t:Int) (hg:GP g:=by exact ob) (W8:g.funcs <+: rs:=by exact ob) (hv:vs.length<=2000:=by exact ob):Zk Tryz.prog 253 [.agg (Y9 g gb),Z0 vs,.i t] [YI gb rs] (fun r h=>∃(w:Bool),r=.b w/\h=[YI gb rs]):=by
 have Xu:=hg.decls.ok
 refine ZL 24 Tryz.func253 (ar (iA (Y9 g gb) ?_))
 intro b1
 refine ir 1 [(1,Z0 vs),(2,.i t),(3,.p b1 0)] (ie (ar (ZY 3 8 (Zd g.decls) 9 (.i t) [0] [b1] (Zz [] (CR g.decls t) (Z1 2 12 (.b (!X7 g.decls t)) (ib (b:=(!X7 g.decls t)) 12 (fun Zb=>?_) (fun Zb=>?_)))))))
 ·have ZP:¬(X7 g.decls t=true):=((Yp Iff.rfl)).1 Zb
  refine ir 12 [(6,.b true)] (ie ?_)
  exact Zc (r1 [1] ⟨true,rfl,rfl⟩)
 have Y1:¬(¬(X7 g.decls t=true)):=ZF (Yp Iff.rfl) Zb
 refine Y0 2 (.n 13 (.agg (Y9 g gb)) (.n 14 (.i t) (.k (.d .r)))) [0] [b1] (ic [1] (IW g gb rs t) ?_)
 rintro _ _ ⟨xs1,rfl,rfl,YB⟩
 have qhp3:=YB.1
 refine iw (Yf xs1) (Z1 3 19 (.b (decide ((xs1.length:Int)>0))) (ib (b:=(decide ((xs1.length:Int)>0))) 19 (fun Zv=>?_) (fun Zv=>?_)))
 ·have YM:(xs1.length:Int)>0:=(dq).1 Zv
  refine ir 5 [(6,.b true)] (ie ?_)
  exact Zc (r1 [0] ⟨true,rfl,rfl⟩)
 have YX:¬((xs1.length:Int)>0):=ZF dq Zv
 refine Z6 2 (.n 20 (Z0 vs) (.n 21 (.i t) (.k .z))) (Zz [] (U3 vs t) (ir 2 [(6,.b (decide (t∈vs)))] (ie ?_)))
 exact Zc (r1 [0] ⟨(decide (t∈vs)),rfl,rfl⟩)
theorem SF (rd:Nat) (bs:List Int) (p:Nat) (g:XV) (gb:Nat) (rs:List Func) (t:Int) (ZD:∀z∈bs,0<=z/\z<=255) (hp:p+5+15*rk t<=1000000000) (hg:GP g) (W8:g.funcs <+: rs) (ih:∀(rd:Nat) (bs:List Int) (p:Nat) (t2:Int),(∀z∈bs,0<=z/\z<=255)->(p+5+15*rk t2<=1000000000)->(rk t2<rk t)->Zk Tryz.prog 254 [.p rd 0,.agg (Y9 g gb),.i t2] [Yl rd bs p,YI gb rs] (fun r h=>∃(e:Z2) (p2:Nat),r=ZE e/\h=[Yl rd bs p2,YI gb rs]/\SE g (1+3*rk t2) e/\p<=p2/\p2<=p+5+15*rk t2)):Zk Tryz.prog 254 [.p rd 0,.agg (Y9 g gb),.i t] [Yl rd bs p,YI gb rs] (fun r h=>∃(e:Z2) (p2:Nat),r=ZE e/\h=[Yl rd bs p2,YI gb rs]/\SE g (1+3*rk t) e/\p<=p2/\p2<=p+5+15*rk t):=by
 have Xu:=hg.decls.ok
 have hgl:=hg.len
 have hrk:=GS t
 refine ZL 118 Tryz.func254 (ar (iA (Y9 g gb) ?_))
 intro b1
 refine iA [.i 0,.i 0,nl] ?_
 intro b2
 refine ie (ar (iR 3 [(0,.p rd 0),(2,.i t),(4,.p b1 0),(6,.p b2 0),(18,Zd g.decls),(19,.i t)] [1] [b1] (ic [] (KO g.decls t) ?_)))
 rintro _ _ ⟨v1,rfl,rfl⟩
 refine Z1 1 7 (Z7 (Zt g.decls t) v1) (ie (aq (ar (Z1 1 21 (Z7 (Zt g.decls t) v1) (io (.i (((Zt g.decls t).length:Nat):Int)) (.i (((Z8 (Zt g.decls t)).length:Nat):Int)) (li (by rw [Yf])) (Z1 1 23 (.b (decide ((((Zt g.decls t).length:Nat):Int)>0))) (ie (ZT ((((Zt g.decls t).length:Nat):Int)>0) (fun Ze=>?_) (fun Ze=>?_)))))))))
 ·refine ar (Z1 1 24 (Z7 (Zt g.decls t) v1) ?_)
  obtain ⟨x1,Z3⟩:=Zu (xs:=Zt g.decls t) (j:=0) om
  refine Zq (Zn (some v1) 0 1 (Y4 Z3)) (Z1 2 8 (.i x1) (ie (aq (aq (XJ (fun F h=>∃(w1:Bool) (p5:Nat),(w1=true->1<(Zt g.decls t).length)/\(p<=p5/\p5<=p+1)/\F=[(0,.p rd 0),(2,.i t),(4,.p b1 0),(6,.p b2 0),(7,Z0 (Zt g.decls t)),(8,.i x1),(34,.b w1)]/\h=[.obj b2 [.i 0,.i 0,nl],.obj b1 (Y9 g gb),Yl rd bs p5,YI gb rs]) ?_ ?_)))))
  ·refine az (ir 1 [(0,.p rd 0),(2,.i t),(4,.p b1 0),(6,.p b2 0),(7,Z7 (Zt g.decls t) v1),(8,.i x1),(27,Z7 (Zt g.decls t) v1)] (io (.i (((Zt g.decls t).length:Nat):Int)) (.i (((Z8 (Zt g.decls t)).length:Nat):Int)) (li (by rw [Yf])) (Z1 2 30 (.b (decide ((((Zt g.decls t).length:Nat):Int)>1))) (ib (b:=(decide ((((Zt g.decls t).length:Nat):Int)>1))) 30 (fun Zb=>?_) (fun Zb=>?_)))))
   ·have ZP:(((Zt g.decls t).length:Nat):Int)>1:=(dq).1 Zb
    refine Z6 1 (.n 31 (.p rd 0) (.k (.d .r))) (ic [3] (XP rd bs p 4 (ZD:=ob)) ?_)
    rintro _ _ ⟨k1,rfl,rfl,Y1⟩
    have qhp2:=Y1.lt om
    refine Z1 2 34 (.b (k1==0)) (ie ?_)
    exact ZV ⟨(k1==0),p+1,(by first|exact (fun h=>by cases h)|exact fun _=>by omega),ob,rfl,rfl⟩ (wk [2,2,0,1] fl)
   have YB:¬((((Zt g.decls t).length:Nat):Int)>1):=ZF dq Zb
   refine Z6 4 (.n 34 (.b false) (.k (.d .r))) (ie ?_)
   exact ZV ⟨false,p,(by first|exact (fun h=>by cases h)|exact fun _=>by omega),ob,rfl,rfl⟩ (wk [1,1,1,1] fl)
  rintro F h ⟨w1,p5,kR4_0,kR4_1,rfl,rfl⟩
  refine XJ (fun F h=>∃(c1:Int),(c1∈Zt g.decls t)/\F=[(0,.p rd 0),(2,.i t),(4,.p b1 0),(6,.p b2 0),(7,Z0 (Zt g.decls t)),(8,.i c1)]/\h=[.obj b2 [.i 0,.i 0,nl],.obj b1 (Y9 g gb),Yl rd bs p5,YI gb rs]) ?_ ?_
  ·refine ac w1 Iff.rfl (fun Zl=>?_) (fun Zl=>?_)
   ·refine az (ir 1 [(0,.p rd 0),(2,.i t),(4,.p b1 0),(6,.p b2 0),(7,Z0 (Zt g.decls t)),(35,Z0 (Zt g.decls t))] ?_)
    obtain ⟨x2,Zy⟩:=Zu (xs:=Zt g.decls t) (j:=1) (kR4_0 (by assumption))
    refine Zq (Zn none 1 1 (Y4 Zy)) (Z1 2 8 (.i x2) (ie ?_))
    exact ZV ⟨x2,(Y7 Zy),rfl,rfl⟩ (ZK 4 fl)
   refine ak ?_
   exact ZV ⟨x1,(Y7 Z3),rfl,rfl⟩ (ZK 4 fl)
  rintro F h ⟨c1,Vw,rfl,rfl⟩
  have hcf:=VN Xu c1
  refine aq (ar (iR 3 [(0,.p rd 0),(2,.i t),(4,.p b1 0),(6,.p b2 0),(7,Z0 (Zt g.decls t)),(8,.i c1),(39,Zd g.decls),(40,.i c1)] [1] [b1] (Zz [] (Ql g.decls c1) (Z1 1 42 (.i t) (Zz [] (U3 (Zw g.decls c1) t) (ie (XJ (fun F h=>∃(c2:Int),(JK g.decls t c2)/\F=[(0,.p rd 0),(4,.p b1 0),(6,.p b2 0),(8,.i c2)]/\h=[.obj b2 [.i 0,.i 0,nl],.obj b1 (Y9 g gb),Yl rd bs p5,YI gb rs]) ?_ ?_)))))))
  ·refine ZT (t∈(Zw g.decls c1)) (fun ZI=>?_) (fun ZI=>?_)
   ·refine az (ir 1 [(0,.p rd 0),(4,.p b1 0),(6,.p b2 0),(44,Z0 (Zt g.decls t))] (Zq (Zn none 0 1 (Y4 Z3)) (Z1 2 8 (.i x1) (ie ?_))))
    exact ZV ⟨x1,(Z4k hg.decls Vw (by assumption) Z3),rfl,rfl⟩ (ZK 4 fl)
   refine ak ?_
   exact ZV ⟨c1,(Z4j hg.decls Vw (by assumption)),rfl,rfl⟩ (ZK 4 fl)
  rintro F h ⟨c2,Cs,rfl,rfl⟩
  obtain ⟨Lj,UW,Jj⟩:=Cs
  refine ar (iL (Yr []) 0 3 ?_)
  intro v2
  refine ir 1 [(0,.p rd 0),(4,.p b1 0),(6,.p b2 0),(8,.i c2),(9,XR [] v2)] (ie (ar (ZY 3 49 (Zd g.decls) 50 (.i c2) [2] [b1] (Zz [] (Ql g.decls c2) (Z1 1 10 (Z0 (Zw g.decls c2)) (ie (aq (ar (Z1 1 11 (.i 0) (ie (ab 0 (al (fun m F h=>∃(k:Nat) (ys:List Z2) (u:Value) (pq:Nat),(k<=(Zw g.decls c2).length)/\(ys.length=k)/\(∀e∈ys,SE g 1 e)/\(p<=pq/\pq<=p+1+5*k)/\F=[(0,.p rd 0),(4,.p b1 0),(6,.p b2 0),(8,.i c2),(9,XR ys u),(10,Z0 (Zw g.decls c2)),(11,.i k)]/\h=[.obj b2 [.i 0,.i 0,nl],.obj b1 (Y9 g gb),Yl rd bs pq,YI gb rs,.tail u 3]/\m=(Zw g.decls c2).length-k) _ _ _ ⟨0,[],v2,p5,ob,ob,(fun e he=>by cases he),ob,rfl,rfl,rfl⟩ (wk [1,1,1,1,0] (fq (fw (Yh fl)))) ?_))))))))))))
  rintro m F h ⟨k,ys,u,pq,Yo,Zp,ZA,YJ,rfl,rfl,rfl⟩
  refine aq (ar (Yq 2 52 (.i k) 53 (Z0 (Zw g.decls c2)) (io (.i (((Zw g.decls c2).length:Nat):Int)) (.i (((Z8 (Zw g.decls c2)).length:Nat):Int)) (li (by rw [Yf])) (Z1 1 55 (.b (decide ((k:Int)<(((Zw g.decls c2).length:Nat):Int)))) (ie (ZT ((k:Int)<(((Zw g.decls c2).length:Nat):Int)) (fun Yi=>?_) (fun Yi=>?_)))))))
  ·refine ak (aq (ab 1 (aE 11 (Y5 6 11 [0,1,2,3,4] (.n 58 (XR ys u) (.n 59 (.p rd 0) (.n 60 (.agg (Y9 g gb)) (.n 61 (Z0 (Zw g.decls c2)) (.n 62 (.i k) .r))))) [1] [b1] ?_))))
   obtain ⟨x3,YT⟩:=Zu (xs:=Zw g.decls c2) (j:=k) om
   have hz3:=MJ (Jj _ (Y7 YT))
   refine dx 5 (Zn none (k:Int) 1 (Y4 YT)) (ZX 4 5 [6] 64 (.i x3) (Z9 7 (dc 7 [2,2] [] [] (ih rd bs pq x3 ob ob om) ?_)))
   rintro _ _ ⟨e1,p21,rfl,rfl,YM⟩
   have hse:=YM.1
   rw [hz3] at hse
   refine Z9 8 (Wn 8 [] [] [ZE e1] (Yr [e1]) (XE [e1]).symm 1 3 ?_)
   intro v3
   refine ZZ 2 2 [] (.n 66 (X5 [e1]) (.p .r)) (Z9 9 (dp 9 5 [] [] (Yr (ys++[e1])) (Yr ys) (Yr [e1]) u none 3 (Uq _) (Uq _) (Kw _) (by simp<;>omega) (by simp [Kv,Yr]) ?_))
   intro v4
   refine ZZ 0 1 [10] (.n 9 (XR (ys++[e1]) v4) (.p (.d (.p (.d (.p (.d (.d (.d (.d (.d (.d (.p (.d (.d (.w (.d .r))))))))))))))))) (de (az (Z1 1 56 (.i k) (ZO k (Z6 1 (.n 11 (.i (k+1:Nat)) (.p (.d (.w (.k (.k .z)))))) (ie ?_))))))
   exact ZU ⟨k+1,(ys++[e1]),v4,p21,ob,ob,(Xr ZA hse),ob,rfl,rfl,rfl⟩ (wk [4,4,2,2,0] (fq (fw (ZW k fl))))
  refine ax 0 (ar (Yq 2 68 (.i c2) 69 (X5 ys) (Zz [] (XG 6 c2 ys) (ZG 0 b2 (Yy (Z2.mk 6 c2 ys)) (ie ?_)))))
  exact Zc (r3 [2,2] [ZE (Z2.mk 6 c2 ys)] [0] [(b2,b2)] ⟨(Z2.mk 6 c2 ys),pq,rfl,rfl,⟨SE.node (k:=3*rk t) (.inl rfl) om ZA om om om,by omega⟩⟩ (lr _))
 refine ak (ar (ZY 2 71 (.agg (Y9 g gb)) 72 (.i t) [2] [b1] (ic [4] (IW g gb rs t) ?_)))
 rintro _ _ ⟨xs1,rfl,rfl,YX⟩
 have hcl:=YX.2
 have hcn:=YX.1
 refine Z1 1 12 (Z0 xs1) (ie (aq (ar (Xm [(0,.p rd 0),(4,.p b1 0),(6,.p b2 0),(12,Z0 xs1),(80,.b ((decide (t>0))&&(decide ((xs1.length:Int)>0))))] [YI gb rs,.tail v1 1,.obj b2 [.i 0,.i 0,nl],.obj b1 (Y9 g gb),Yl rd bs p] ?_ ?_))))
 ·refine ir 3 [(0,.p rd 0),(4,.p b1 0),(6,.p b2 0),(12,Z0 xs1),(76,.b (decide (t>0)))] (ib (b:=(decide (t>0))) 76 (fun Zv=>?_) (fun Zv=>?_))
  ·have Xv:t>0:=(dq).1 Zv
   refine Z6 1 (.n 77 (Z0 xs1) (.w (.k .z))) (iw (Yf xs1) (Z1 2 80 (.b (decide ((xs1.length:Int)>0))) (ie ?_)))
   exact ZK 5 (fq (Zs (decide ((xs1.length:Int)>0)) Zv fl))
  have Wb:¬(t>0):=ZF dq Zv
  refine Z6 4 (.n 80 (.b false) (.d (.w .z))) (ie ?_)
  exact ZK 5 (fq (Zs false Zv fl))
 refine ac ((decide (t>0))&&(decide ((xs1.length:Int)>0))) (p:=(t>0)/\((xs1.length:Int)>0)) (YF dq dq) (fun Xk=>?_) (fun Xk=>?_)
 ·refine ar (ir 3 [(0,.p rd 0),(4,.p b1 0),(6,.p b2 0),(81,Z0 xs1),(82,.p rd 0),(83,Z0 xs1)] (iw (Yf xs1) (ic [4] (XP rd bs p (xs1.length:Int) (ZD:=ob)) ?_)))
  rintro _ _ ⟨k2,rfl,rfl,WE⟩
  have qhp8:=WE.lt om
  obtain ⟨x4,Ud⟩:=Zu (xs:=xs1) (j:=k2.toNat) om
  have hclo:=hcl _ (Y7 Ud)
  have hcb:=hclo.lt
  refine Zq (Zn none k2 1 (Y4 Ud)) (Z1 2 13 (.i x4) (ie (ar (ZY 3 89 (.ms gb 0 g.funcs.length 4) 90 (.i x4) [4] [b1] ?_))))
  obtain ⟨x5,UI⟩:=Zu (xs:=g.funcs) (j:=x4.toNat) om
  have hso:=(hg.sigs _ (Y7 UI)).bd
  have hr1:=Z3k (t:=t) hg.decls om om
  have hfu:=UI
  refine Zq (W5 gb g.funcs.length 4 x4.toNat 5 x4) (Z1 1 92 (.val (.pointer (some ⟨gb,x4.toNat * 5,none⟩))) (VO (V0 1 gb 4 4 5 (x4.toNat * 5+0) (Zm (Xc rs)) [Z0 x5.params] 27 (Z0 x5.params) (U2 W8 UI 0 rfl (WH rfl))) (Z1 1 14 (Z0 x5.params) (ie (ar (iL (Yr []) 0 3 ?_))))))
  intro v5
  refine Z1 1 15 (XR [] v5) (ie (aq (ar (Z1 1 16 (.i 0) (ie (ab 2 (al (fun m F h=>∃(k:Nat) (ys:List Z2) (u:Value) (pq:Nat),(k<=x5.params.length)/\(ys.length=k)/\(∀e∈ys,SE g 1 e)/\(p<=pq/\pq<=p+1+5*k)/\F=[(0,.p rd 0),(4,.p b1 0),(6,.p b2 0),(13,.i x4),(14,Z0 x5.params),(15,XR ys u),(16,.i k)]/\h=[Yl rd bs pq,YI gb rs,.obj b2 [.i 0,.i 0,nl],.obj b1 (Y9 g gb),.tail u 3]/\m=x5.params.length-k) _ _ _ ⟨0,[],v5,p+1,ob,ob,(fun e he=>by cases he),ob,rfl,rfl,rfl⟩ (wk [1,1,2,2,0] (fq (fw (Yh fl)))) ?_)))))))
  rintro m F h ⟨k,ys,u,pq,Um,Wg,XK,F9,rfl,rfl,rfl⟩
  refine aq (ar (Z1 1 95 (.i k) (ZO k (Z1 1 97 (Z0 x5.params) (iw (Yf x5.params) (Z1 1 99 (.b (decide (((k+1:Nat):Int)<(x5.params.length:Int)))) (ie (ZT (((k+1:Nat):Int)<(x5.params.length:Int)) (fun Xl=>?_) (fun Xl=>?_)))))))))
  ·refine ak (aq (ab 3 (aE 11 (Y5 6 11 [0,1,2,3,4] (.n 102 (XR ys u) (.n 103 (.p rd 0) (.n 104 (.agg (Y9 g gb)) (.n 105 (Z0 x5.params) (.n 106 (.i k) .r))))) [3] [b1] ?_))))
   obtain ⟨x6,AQ⟩:=Zu (xs:=x5.params) (j:=k) om
   have hz3:=hclo.low hg om hfu om AQ
   refine dx 5 (Zn none (k:Int) 1 (Y4 AQ)) (ZX 4 5 [6] 108 (.i x6) (Z9 7 (dc 7 [0,0] [] [] (ih rd bs pq x6 ob ob om) ?_)))
   rintro _ _ ⟨e2,p22,rfl,rfl,WR⟩
   have hse:=WR.1
   rw [hz3] at hse
   refine Z9 8 (Wn 8 [] [] [ZE e2] (Yr [e2]) (XE [e2]).symm 1 3 ?_)
   intro v6
   refine ZZ 2 2 [] (.n 110 (X5 [e2]) (.p .r)) (Z9 9 (dp 9 5 [] [] (Yr (ys++[e2])) (Yr ys) (Yr [e2]) u none 3 (Uq _) (Uq _) (Kw _) (by simp<;>omega) (by simp [Kv,Yr]) ?_))
   intro v7
   refine Xd 0 1 [10] [(0,.p rd 0),(4,.p b1 0),(6,.p b2 0),(13,.i x4),(14,Z0 x5.params),(15,XR (ys++[e2]) v7),(16,.i k)] (de (az (Z1 1 100 (.i k) (ZO k (Z6 1 (.n 16 (.i (k+1:Nat)) (.p (.d (.w (.k (.k .z)))))) (ie ?_))))))
   exact ZU ⟨k+1,(ys++[e2]),v7,p22,ob,ob,(Xr XK hse),ob,rfl,rfl,rfl⟩ (wk [2,2,2,2,0] (fq (fw (ZW k fl))))
  refine ax 2 (ar (Yq 2 112 (.i x4) 113 (X5 ys) (Zz [] (XG 10 x4 ys) (ZG 2 b2 (Yy (Z2.mk 10 x4 ys)) (ie ?_)))))
  exact Zc (r3 [1,1] [ZE (Z2.mk 10 x4 ys)] [0] [(b2,b2)] ⟨(Z2.mk 10 x4 ys),pq,rfl,rfl,⟨SE.node (k:=3) (.inr rfl) om XK om om om,by omega⟩⟩ (lr _))
 refine ak (ar (ir 1 [(6,.p b2 0),(115,.p rd 0)] (ic [4] (Lb rd bs p (ZD:=ob)) ?_)))
 rintro _ _ ⟨z1,rfl,rfl,Uc⟩
 refine Zz [] (Je z1) (ZG 3 b2 (Yy (Z2.mk 0 z1 [])) (ie ?_))
 exact Zc (r3 [1,1] [ZE (Z2.mk 0 z1 [])] [0] [(b2,b2)] ⟨(Z2.mk 0 z1 []),p+4,rfl,rfl,⟨SE.int om om,by omega⟩⟩ (lr _))
theorem SD (rd:Nat) (bs:List Int) (p:Nat) (g:XV) (gb:Nat) (rs:List Func) (t:Int) (ZD:∀z∈bs,0<=z/\z<=255) (hp:p+5+15*rk t<=1000000000:=by exact ob) (hg:GP g:=by exact ob) (W8:g.funcs <+: rs:=by exact ob):Zk Tryz.prog 254 [.p rd 0,.agg (Y9 g gb),.i t] [Yl rd bs p,YI gb rs] (fun r h=>∃(e:Z2) (p2:Nat),r=ZE e/\h=[Yl rd bs p2,YI gb rs]/\SE g (1+3*rk t) e/\p<=p2/\p2<=p+5+15*rk t):=by
 have key:∀k:Nat,∀(rd:Nat) (bs:List Int) (p:Nat) (t2:Int),(∀z∈bs,0<=z/\z<=255)->(p+5+15*rk t2<=1000000000)->(rk t2<k)->Zk Tryz.prog 254 [.p rd 0,.agg (Y9 g gb),.i t2] [Yl rd bs p,YI gb rs] (fun r h=>∃(e:Z2) (p2:Nat),r=ZE e/\h=[Yl rd bs p2,YI gb rs]/\SE g (1+3*rk t2) e/\p<=p2/\p2<=p+5+15*rk t2):=by
  intro k
  induction k with
  | zero=>intro rd bs p t2 h1 h2 h3;omega
  | succ k ih=>intro rd bs p t2 h1 h2 h3;exact SF rd bs p g gb rs t2 h1 h2 hg W8 fun rd bs p t3 q1 q2 q3=>ih rd bs p t3 q1 q2 om
 exact key 2 rd bs p t ZD hp (by have:=GS t;omega)
theorem Bu (rd:Nat) (bs:List Int) (p:Nat) (g:XV) (gb:Nat) (rs:List Func) (vs:List Int) (t:Int) (ZD:∀z∈bs,0<=z/\z<=255) (hp:p+30<=1000000000:=by exact ob) (hg:GP g:=by exact ob) (W8:g.funcs <+: rs:=by exact ob) (hv:vs.length<=2000:=by exact ob):Zk Tryz.prog 223 [.p rd 0,.agg (Y9 g gb),Z0 vs,.i t] [Yl rd bs p,YI gb rs] (fun r h=>∃(e:Z2) (p2:Nat),r=ZE e/\h=[Yl rd bs p2,YI gb rs]/\GE g vs.length 4 e/\p<=p2/\p2<=p+30):=by
 have hrk:=GS t
 refine ZL 40 Tryz.func223 (ar (iA (Y9 g gb) ?_))
 intro b1
 refine iA [.i 0,.i 0,nl] ?_
 intro b2
 refine ie (ar (ir 2 [(0,.p rd 0),(3,.i t),(5,.p b1 0),(8,.p b2 0),(10,Z0 vs),(11,.i t)] (ic [] (SN vs t) ?_)))
 rintro _ _ ⟨xs1,rfl,rfl,ZP⟩
 have hxs:=ZP
 refine Z1 1 9 (Z0 xs1) (ie (aq (aq (XJ (fun F h=>∃(wb:Bool) (p5:Nat),(wb=true->0<xs1.length)/\(p<=p5/\p5<=p+1)/\F=[(0,.p rd 0),(3,.i t),(5,.p b1 0),(8,.p b2 0),(9,Z0 xs1),(27,.b wb)]/\h=[.obj b2 [.i 0,.i 0,nl],.obj b1 (Y9 g gb),Yl rd bs p5,YI gb rs]) ?_ ?_))))
 ·refine az (ir 1 [(0,.p rd 0),(3,.i t),(5,.p b1 0),(8,.p b2 0),(9,Z0 xs1),(13,Z0 xs1)] (iw (Yf xs1) (Z1 2 16 (.b (decide ((xs1.length:Int)>0))) (ib (b:=(decide ((xs1.length:Int)>0))) 16 (fun Zb=>?_) (fun Zb=>?_)))))
  ·have Y1:(xs1.length:Int)>0:=(dq).1 Zb
   refine Z6 1 (.n 17 (.p rd 0) (.k (.d .r))) (ic [2] (XP rd bs p 6 (ZD:=ob)) ?_)
   rintro _ _ ⟨k1,rfl,rfl,YB⟩
   have qhp3:=YB.lt om
   refine Z1 2 20 (.b (decide (k1>0))) (ib (b:=(decide (k1>0))) 20 (fun Zv=>?_) (fun Zv=>?_))
   ·have YM:k1>0:=(dq).1 Zv
    refine Z6 7 (.n 27 (.b true) (.k (.d .r))) (ie ?_)
    exact ZV ⟨true,p+1,(by first|exact (fun h=>Bool.noConfusion h)|exact fun _=>by omega),ob,rfl,rfl⟩ (wk [1,1,0,0] fl)
   have YX:¬(k1>0):=ZF dq Zv
   refine Y0 1 (.n 21 (.agg (Y9 g gb)) (.k (.d .r))) [2] [b1] (iL (Z8 []) 0 1 ?_)
   intro v1
   refine Z6 1 (.n 22 (Z0 []) (.n 23 (.i t) (.p .r))) (ic [4] (DI g gb rs [] t) ?_)
   rintro _ _ ⟨w1,rfl,rfl⟩
   refine Z1 3 27 (.b (!w1)) (ie ?_)
   exact ZV ⟨(!w1),p+1,(by first|exact (fun h=>Bool.noConfusion h)|exact fun _=>by omega),ob,rfl,rfl⟩ (wk [3,3,2,0] fl)
  have Xv:¬((xs1.length:Int)>0):=ZF dq Zb
  refine Z6 11 (.n 27 (.b false) (.k (.d .r))) (ie ?_)
  exact ZV ⟨false,p,(by first|exact (fun h=>Bool.noConfusion h)|exact fun _=>by omega),ob,rfl,rfl⟩ (ZK 4 fl)
 rintro F h ⟨wb,p5,kR2_0,kR2_1,rfl,rfl⟩
 refine ac wb Iff.rfl (fun Ze=>?_) (fun Ze=>?_)
 ·have hk0:=kR2_0 Ze
  refine ar (ir 3 [(8,.p b2 0),(28,Z0 xs1),(29,.p rd 0),(30,Z0 xs1)] (iw (Yf xs1) (ic [2] (XP rd bs p5 (xs1.length:Int) (ZD:=ob)) ?_)))
  rintro _ _ ⟨k2,rfl,rfl,Wb⟩
  have qhp7:=Wb.lt om
  obtain ⟨x1,Z3⟩:=Zu (xs:=xs1) (j:=k2.toNat) om
  have hxv:=hxs.2 _ (Y7 Z3)
  refine Zq (Zn none k2 1 (Y4 Z3)) (Z1 1 34 (.i x1) (Zz [] (Ts x1) (ZG 1 b2 (Yy (Z2.mk 12 x1 [])) (ie ?_))))
  exact Zc (r3 [1,2] [ZE (Z2.mk 12 x1 [])] [0] [(b2,b2)] ⟨(Z2.mk 12 x1 []),p5+1,rfl,rfl,⟨GE.var hxv om om,by omega⟩⟩ (lr _))
 refine ak (ar (iR 3 [(8,.p b2 0),(36,.p rd 0),(37,.agg (Y9 g gb)),(38,.i t)] [1] [b1] (ic [2,2] (SD rd bs p5 g gb rs t (ZD:=ob)) ?_)))
 rintro _ _ ⟨e1,p21,rfl,rfl,WE⟩
 have hse:=WE.1
 refine ZG 2 b2 (Yy e1) (ie ?_)
 exact Zc (r3 [1,1] [ZE e1] [0] [(b2,b2)] ⟨e1,p21,rfl,rfl,⟨hse.ge om,by omega⟩⟩ (lr _))
theorem RH (rd:Nat) (bs:List Int) (p:Nat) (g:XV) (gb:Nat) (rs:List Func) (vs:List Int) (ZD:∀z∈bs,0<=z/\z<=255) (hp:p+1<=1000000000:=by exact ob) (hg:GP g:=by exact ob) (W8:g.funcs <+: rs:=by exact ob) (hv:vs.length<=2000:=by exact ob):Zk Tryz.prog 246 [.p rd 0,.agg (Y9 g gb),Z0 vs] [Yl rd bs p,YI gb rs] (fun r h=>∃(z:Int),r=.i z/\h=[.obj rd [Xb bs,.i (p+1:Nat)],YI gb rs]/\0<=z/\z<=4):=by
 have Xu:=hg.decls.ok
 have hgl:=hg.len
 have hdl:=hg.decls.len
 refine ZL 24 Tryz.func246 (ar (iA (Y9 g gb) ?_))
 intro b1
 refine ir 1 [(0,.p rd 0),(2,Z0 vs),(4,.p b1 0)] (ie (ar (Z1 1 8 (.p rd 0) (iL (Z8 [1,1,3,0,2,4,3]) 7 1 ?_))))
 intro v1
 refine Z6 0 (.n 9 (Z0 [1,1,3,0,2,4,3]) (.p .r)) (ic [2] (Vu rd bs p [1,1,3,0,2,4,3] (ZD:=ob)) ?_)
 rintro _ _ ⟨z1,rfl,rfl,ZP⟩
 have hz:=Ab (a:=0) (b:=4) ZP (by decide)
 refine Z1 1 7 (.i z1) (ie (aq (aq (XJ (fun F h=>∃(wb:Bool),(True)/\F=[(7,.i z1),(22,.b wb)]/\h=[.obj rd [Xb bs,.i (p+1:Nat)],YI gb rs]) ?_ ?_))))
 ·refine az (iR 3 [(2,Z0 vs),(4,.p b1 0),(7,.i z1),(11,.i z1),(13,Zd g.decls)] [2] [b1] (iw (VQ g.decls) (Z1 2 16 (.b (decide (z1>(g.decls.length:Int)))) (ib (b:=(decide (z1>(g.decls.length:Int)))) 16 (fun Zb=>?_) (fun Zb=>?_)))))
  ·have Y1:z1>(g.decls.length:Int):=(dq).1 Zb
   refine ir 6 [(7,.i z1),(22,.b true)] (ie ?_)
   exact ZV ⟨true,True.intro,rfl,rfl⟩ (wk [0,2] fl)
  have YB:¬(z1>(g.decls.length:Int)):=ZF dq Zb
  refine Y0 3 (.n 17 (.agg (Y9 g gb)) (.n 18 (Z0 vs) (.n 19 (.i z1) (.k (.d .r))))) [2] [b1] (ic [3] (DI g gb rs vs z1) ?_)
  rintro _ _ ⟨w1,rfl,rfl⟩
  refine Z1 2 22 (.b (!w1)) (ie ?_)
  exact ZV ⟨(!w1),True.intro,rfl,rfl⟩ (wk [1,0] fl)
 rintro F h ⟨wb,kR2_0,rfl,rfl⟩
 refine ac wb Iff.rfl (fun Ze=>?_) (fun Ze=>?_)
 ·refine ar (ir 1 [(6,.i 1)] (ie ?_))
  exact Zc (r1 [0,0] ⟨1,rfl,rfl,om⟩)
 refine ak (ar (ir 2 [(6,.i z1)] (ie ?_)))
 exact Zc (r1 [0,0] ⟨z1,rfl,rfl,om⟩)
theorem RL (g:XV) (gb:Nat) (rs:List Func) (t:Int) (hg:GP g:=by exact ob) (W8:g.funcs <+: rs:=by exact ob):Zk Tryz.prog 249 [.agg (Y9 g gb),.i t] [YI gb rs] (fun r h=>∃(xs:List Int),r=Z0 xs/\h=[YI gb rs]/\xs.length<=4/\∀i∈xs,1<=i/\i<g.funcs.length):=by
 have Xu:=hg.decls.ok
 have hgl:=hg.len
 have hdl:=hg.decls.len
 refine ZL 57 Tryz.func249 (ar (iA (Y9 g gb) ?_))
 intro b1
 refine ir 1 [(1,.i t),(2,.p b1 0)] (ie (ar (iL (Z8 []) 0 1 ?_)))
 intro v1
 refine Z1 1 5 (Z7 [] v1) (ie (aq (ar (Z1 1 6 (.i 1) (ie (ab 0 (al (fun m F h=>∃(k:Nat) (ys:List Int) (u:Value),(1<=k/\k<=g.funcs.length)/\(ys.length<=k)/\(∀i∈ys,1<=i/\i<g.funcs.length)/\F=[(1,.i t),(2,.p b1 0),(5,Z7 ys u),(6,.i k)]/\h=[.obj b1 (Y9 g gb),YI gb rs,.tail u 1]/\m=g.funcs.length-k) _ _ _ ⟨1,[],v1,ob,ob,(fun i hi=>by cases hi),rfl,rfl,rfl⟩ (wk [1,1,0] (fw (fr (fc (x:=.i 1) li fl)))) ?_)))))))
 rintro m F h ⟨k,ys,u,Yo,Zp,ZA,rfl,rfl,rfl⟩
 refine aq (ar (ZY 3 10 (.i k) 12 (.ms gb 0 g.funcs.length 4) [0] [b1] (io (.i g.funcs.length) (.i g.funcs.length) (lr _) (Z1 1 14 (.b (decide ((k:Int)<(g.funcs.length:Int)))) (ie (ZT ((k:Int)<(g.funcs.length:Int)) (fun Ze=>?_) (fun Ze=>?_)))))))
 ·refine ak (aq (ab 1 (ar (ZY 3 18 (.ms gb 0 g.funcs.length 4) 19 (.i k) [0] [b1] ?_))))
  obtain ⟨x1,Z3⟩:=Zu (xs:=g.funcs) (j:=k) om
  have hso:=(hg.sigs _ (Y7 Z3)).bd
  refine Zq (W5 gb g.funcs.length 4 k 5 (k:Int)) (Z1 1 21 (.val (.pointer (some ⟨gb,k*5+1,none⟩))) (VO (V0 1 gb 4 4 5 (k*5+1) (Zm (Xc rs)) [.i x1.result] 3 (.i x1.result) (U2 W8 Z3 1 rfl (WH rfl))) (Z1 3 7 (.b (x1.result==t)) (ie (aq (ar (Z1 1 8 (.i 0) (ie (ab 2 (al (fun m F h=>∃(j:Nat) (wo:Bool),(True)/\F=[(1,.i t),(2,.p b1 0),(5,Z7 ys u),(6,.i k),(7,.b wo),(8,.i j)]/\h=[.obj b1 (Y9 g gb),YI gb rs,.tail u 1]/\m=x1.params.length-j) _ _ _ ⟨0,(x1.result==t),True.intro,rfl,rfl,rfl⟩ (ZK 3 (fq (fr (Yh fl)))) ?_))))))))))
  rintro m F h ⟨j,wo,Um,rfl,rfl,rfl⟩
  refine aq (ar (Y0 4 (.n 25 (.i j) (.n 27 (.ms gb 0 g.funcs.length 4) (.n 28 (.i k) .r))) [0] [b1] (Zq (W5 gb g.funcs.length 4 k 5 (k:Int)) (Z1 1 30 (.val (.pointer (some ⟨gb,k*5,none⟩))) (VO (V0 1 gb 4 4 5 (k*5+0) (Zm (Xc rs)) [Z0 x1.params] 27 (Z0 x1.params) (U2 W8 Z3 0 rfl (WH rfl))) (iw (Yf x1.params) (Z1 1 33 (.b (decide ((j:Int)<(x1.params.length:Int)))) (ie (ZT ((j:Int)<(x1.params.length:Int)) (fun Zl=>?_) (fun Zl=>?_))))))))))
  ·refine ak (aq (ab 3 (aE 16 (ZX 14 16 [0,1] 37 (.b wo) (db (b:=wo) 37 (fun Zb=>?_) (fun Zb=>?_))))))
   ·have ZP:wo=true:=(Iff.rfl).1 Zb
    refine Y5 10 14 [2,4,5,6] (.n 38 (.agg (Y9 g gb)) (.n 41 (.ms gb 0 g.funcs.length 4) (.n 42 (.i k) (.k (.d .r))))) [0,0] [b1,b1] (dx 7 (W5 gb g.funcs.length 4 k 5 (k:Int)) (ZX 8 9 [8] 44 (.val (.pointer (some ⟨gb,k*5,none⟩))) (VP 9 (V0 1 gb 4 4 5 (k*5+0) (Zm (Xc rs)) [Z0 x1.params] 27 (Z0 x1.params) (U2 W8 Z3 0 rfl (WH rfl))) (ZX 6 7 [10] 46 (.i j) ?_))))
    obtain ⟨x2,Zy⟩:=Zu (xs:=x1.params) (j:=j) om
    refine dx 11 (Zn none (j:Int) 1 (Y4 Zy)) (ZX 4 5 [12] 48 (.i x2) (Z9 3 (dL 3 [1,0,0] [gb,b1,b1] (Z8 []) 0 1 ?_)))
    intro v2
    refine ZZ 3 3 [] (.n 39 (Z0 []) (.p .r)) (Z9 13 (dc 13 [2] [] [] (DI g gb rs [] x2) ?_))
    rintro _ _ ⟨w1,rfl,rfl⟩
    refine Xd 0 2 [14,15] [(1,.i t),(2,.p b1 0),(5,Z7 ys u),(6,.i k),(7,.b w1),(8,.i j)] (de (az (Z1 1 34 (.i j) (ZO j (Z6 1 (.n 8 (.i (j+1:Nat)) (.p (.d (.w (.k .z))))) (ie ?_))))))
    exact ZU ⟨j+1,w1,True.intro,rfl,rfl,rfl⟩ (wk [2,0,1] (fq (fr (ZW j fl))))
   have Y1:¬(wo=true):=ZF Iff.rfl Zb
   refine ZZ 0 14 [2,3,4,5,6,7,8,9,10,11,12,13,14,15] (.n 7 (.b false) (.d (.d (.d (.p (.p (.d (.p (.d (.d (.d (.w (.d .r))))))))))))) (de (az (Z1 1 34 (.i j) (ZO j (Z6 1 (.n 8 (.i (j+1:Nat)) (.p (.d (.w (.k .z))))) (ie ?_))))))
   exact ZU ⟨j+1,false,ob,rfl,rfl,rfl⟩ (ZK 3 (fq (fr (ZW j fl))))
  refine ax 2 (ar (Z1 1 51 (.b wo) (ie (ac wo Iff.rfl (fun ZI=>?_) (fun ZI=>?_)))))
  ·refine az (Yq 2 52 (Z7 ys u) 53 (.i k) (iL (Z8 [(k:Int)]) 1 1 ?_))
   intro v3
   refine Z6 0 (.n 54 (Z0 [(k:Int)]) (.p .r)) (ip 3 (Z8 (ys++[(k:Int)])) (Z8 ys) (Z8 [(k:Int)]) u none 1 (YE _) (YE _) (XY _) (by simp<;>omega) (by simp [XX,Z8]) ?_)
   intro v4
   refine ir 1 [(1,.i t),(2,.p b1 0),(5,Z7 (ys++[(k:Int)]) v4),(6,.i k)] (ie (az (Z1 1 15 (.i k) (ZO k (Z6 1 (.n 6 (.i (k+1:Nat)) (.p (.d (.k (.k (.k .z)))))) (ie ?_))))))
   exact ZU ⟨k+1,(ys++[(k:Int)]),v4,ob,ob,(Xr ZA om),rfl,rfl,rfl⟩ (wk [2,2,0] (fw (fr (ZW k fl))))
  refine ak (az (Z1 1 15 (.i k) (ZO k (ir 1 [(1,.i t),(2,.p b1 0),(5,Z7 ys u),(6,.i (k+1:Nat))] (ie ?_)))))
  exact ZU ⟨k+1,ys,u,ob,ob,ob,rfl,rfl,rfl⟩ (ZK 3 (fw (fr (ZW k fl))))
 refine ax 0 (ar (ir 2 [(4,Z7 ys u)] (ie ?_)))
 exact Zc (r2 [1] [Z7 ys u] ⟨ys,rfl,rfl,⟨by omega,ZA⟩⟩ (Zg.forget _ _))
theorem St (e:Z2) (left:Int) (hz:e.sz<=1000000:=by exact ob) (hl:0<=left/\left<=1000:=by exact ob) (ih:∀(e2:Z2) (left:Int),(e2.sz<e.sz)->(0<=left/\left<=1000)->Zk Tryz.prog 224 [ZE e2,.i left] [] (fun r h=>∃(w:Int),r=.i w/\h=[]/\NL e2.sz left w)):Zk Tryz.prog 224 [ZE e,.i left] [] (fun r h=>∃(w:Int),r=.i w/\h=[]/\NL e.sz left w):=by
 have hes:=e.sz_eq
 have hel:=IB (xs:=e.kids)
 refine ZL 27 Tryz.func224 (ar (iA (Yy e) ?_))
 intro b1
 refine ir 1 [(1,.i left),(2,.p b1 0)] (ie (aq (ar (Z1 2 7 (.b (decide (left<1))) (ie (ZT (left<1) (fun Ze=>?_) (fun Ze=>?_)))))))
 ·refine ar (ir 1 [(4,.i (-1))] (ie ?_))
  exact Zc (r1 [] ⟨(-1),rfl,rfl,(.inr ⟨by omega,rfl⟩)⟩)
 refine ak (ar (Z1 1 8 (.i left) (ia ((left-1)) ((left)-(1)) (ir 1 [(1,.i (left-1)),(2,.p b1 0)] (ie (aq (ar (Z1 1 5 (.i 0) (ie (ab 0 (al (fun m F h=>∃(k:Nat) (q:Int),(k<=e.kids.length)/\(0<=q/\q+1+Xq (e.kids.take k)=left)/\F=[(1,.i q),(2,.p b1 0),(5,.i k)]/\h=[.obj b1 (Yy e)]/\m=e.kids.length-k) _ _ _ ⟨0,(left-1),ob,(by simp [Xq];omega),rfl,rfl,rfl⟩ (wk [0] (fw (Yh fl))) ?_)))))))))))
 rintro m F h ⟨k,q,Yo,Zp,rfl,rfl,rfl⟩
 refine aq (ar (ZY 3 10 (.i k) 12 (X5 e.kids) [0] [b1] (iw (FA e.kids) (Z1 1 14 (.b (decide ((k:Int)<(e.kids.length:Int)))) (ie (ZT ((k:Int)<(e.kids.length:Int)) (fun Zl=>?_) (fun Zl=>?_)))))))
 ·refine ak (aq (ab 1 (ar (ZY 3 18 (X5 e.kids) 19 (.i k) [0] [b1] ?_))))
  obtain ⟨x1,Z3⟩:=Zu (xs:=e.kids) (j:=k) om
  have hks:=AI Z3
  have htk:Xq (e.kids.take (k+1))=Xq (e.kids.take k)+(x1).sz:=by rw [WS Z3,Ca,Xq,Xq];rfl
  have htl:Xq (e.kids.take (k+1))<=Xq e.kids:=by have h:=Yw Xq (UC (k+1) e.kids);rw [Ca] at h;omega
  refine Zq (Zn none (k:Int) 3 (Bn Z3)) (Yq 2 21 (ZE x1) 22 (.i q) (ic [] (ih x1 q ob ob) ?_))
  rintro _ _ ⟨w1,rfl,rfl,ZP⟩
  have hnl:=ZP
  unfold NL at hnl
  refine ir 1 [(1,.i w1),(2,.p b1 0),(5,.i k)] (ie (ar (Z1 2 25 (.b (decide (w1<0))) (ie (ZT (w1<0) (fun ZI=>?_) (fun ZI=>?_))))))
  ·refine ar (ir 1 [(4,.i (-1))] (ie ?_))
   exact Zc (r1 [] ⟨(-1),rfl,rfl,(.inr ⟨by omega,rfl⟩)⟩)
  refine ak (az (Z1 1 15 (.i k) (ZO k (ir 1 [(1,.i w1),(2,.p b1 0),(5,.i (k+1:Nat))] (ie ?_)))))
  exact ZU ⟨k+1,w1,ob,ob,rfl,rfl,rfl⟩ (wk [0] (fw (ZW k fl)))
 refine ax 0 (ar (ir 2 [(4,.i q)] (ie ?_)))
 have htk:Xq (e.kids.take k)=Xq e.kids:=by rw [Vb om]
 exact Zc (r1 [] ⟨q,rfl,rfl,(.inl ⟨by omega,by omega⟩)⟩)
theorem Ss (e:Z2) (left:Int) (hz:e.sz<=1000000:=by exact ob) (hl:0<=left/\left<=1000:=by exact ob):Zk Tryz.prog 224 [ZE e,.i left] [] (fun r h=>∃(w:Int),r=.i w/\h=[]/\NL e.sz left w):=by
 have key:∀k:Nat,∀(e2:Z2) (left:Int),(e2.sz<k)->(e2.sz<=1000000)->(0<=left/\left<=1000)->Zk Tryz.prog 224 [ZE e2,.i left] [] (fun r h=>∃(w:Int),r=.i w/\h=[]/\NL e2.sz left w):=by
  intro k
  induction k with
  | zero=>intro e2 left h;omega
  | succ k ih=>intro e2 left h1 h2 h3;exact St e2 left h2 h3 fun e3 l3 q1 q2=>ih e3 l3 om om q2
 exact key (e.sz+1) e left om hz hl
theorem L8 (e:Z2) (hz:e.sz<=1000000:=by exact ob):Zk Tryz.prog 196 [ZE e] [] (fun r h=>∃(w:Int),r=.i w/\h=[]/\((w=e.sz/\e.sz<=30)∨(w=-1/\30<e.sz))):=by
 refine ZL 10 Tryz.func196 (ar (iA (Yy e) ?_))
 intro b1
 refine ir 1 [(1,.p b1 0)] (ie (ar (iR 1 [(4,ZE e)] [0] [b1] (ic [] (Ss e 30) ?_))))
 rintro _ _ ⟨w1,rfl,rfl,ZP⟩
 have hnl:=ZP
 unfold NL at hnl
 refine ir 1 [(3,.i w1)] (ie (aq (ar (Z1 2 7 (.b (decide (w1<0))) (ie (ZT (w1<0) (fun Ze=>?_) (fun Ze=>?_)))))))
 ·refine ar (ir 1 [(2,.i (-1))] (ie ?_))
  exact Zc (r1 [] ⟨(-1),rfl,rfl,ob⟩)
 refine ak (ar (ir 1 [(8,.i w1)] (ia ((30-w1)) ((30)-(w1)) (ir 1 [(2,.i (30-w1))] (ie ?_)))))
 exact Zc (r1 [] ⟨(30-w1),rfl,rfl,ob⟩)
theorem AL (rd:Nat) (bs:List Int) (p:Nat) (g:XV) (gb:Nat) (rs:List Func) (vs:List Int) (ts:List Int) (b:Nat) (bb:Nat) (ZD:∀z∈bs,0<=z/\z<=255) (hp:p+ts.length*bC (b / ts.length)<=1000000000:=by exact ob) (hg:GP g:=by exact ob) (W8:g.funcs <+: rs:=by exact ob) (hv:vs.length+3*bb<=900:=by exact ob) (ht:ts.length<=3:=by exact ob) (hb:b<bb/\bb<=1000:=by exact ob) (ih:∀(rd:Nat) (bs:List Int) (p:Nat) (vs2:List Int) (t2:Int) (b2:Nat),(∀z∈bs,0<=z/\z<=255)->(p+bC b2<=1000000000)->(vs2.length+3*b2<=900)->(b2<bb)->Zk Tryz.prog 219 [.p rd 0,.agg (Y9 g gb),Z0 vs2,.i t2,.i b2] [Yl rd bs p,YI gb rs] (fun r h=>∃(e:Z2) (p2:Nat),r=ZE e/\h=[Yl rd bs p2,YI gb rs]/\GE g vs2.length (bS b2) e/\p<=p2/\p2<=p+bC b2)):Zk Tryz.prog 247 [.p rd 0,.agg (Y9 g gb),Z0 vs,Z0 ts,.i b] [Yl rd bs p,YI gb rs] (fun r h=>∃(ys:List Z2) (p2:Nat),r=X5 ys/\h=[Yl rd bs p2,YI gb rs]/\ys.length=ts.length/\(∀e∈ys,GE g vs.length (bS (b / ts.length)) e)/\p<=p2/\p2<=p+ts.length*bC (b / ts.length)):=by
 have hqb:=Nat.div_le_self b ts.length
 refine ZL 36 Tryz.func247 (ar (iA (Y9 g gb) ?_))
 intro b1
 refine ir 1 [(0,.p rd 0),(2,Z0 vs),(3,Z0 ts),(4,.i b),(6,.p b1 0)] (ie (ar (iL (Yr []) 0 3 ?_)))
 intro v1
 refine Z1 1 11 (XR [] v1) (ie (aq (ar (Z1 1 12 (.i 0) (ie (ab 0 (al (fun m F h=>∃(k:Nat) (ys:List Z2) (u:Value) (pq:Nat),(k<=ts.length)/\(ys.length=k)/\(∀e∈ys,GE g vs.length (bS (b / ts.length)) e)/\(p<=pq/\pq<=p+k*bC (b / ts.length))/\F=[(0,.p rd 0),(2,Z0 vs),(3,Z0 ts),(4,.i b),(6,.p b1 0),(11,XR ys u),(12,.i k)]/\h=[.obj b1 (Y9 g gb),Yl rd bs pq,YI gb rs,.tail u 3]/\m=ts.length-k) _ _ _ ⟨0,[],v1,p,ob,ob,(fun e he=>by cases he),(by simp),rfl,rfl,rfl⟩ (wk [1,1,1,0] (fq (fw (Yh fl)))) ?_)))))))
 rintro m F h ⟨k,ys,u,pq,Yo,Zp,ZA,YJ,rfl,rfl,rfl⟩
 refine aq (ar (Yq 2 14 (.i k) 15 (Z0 ts) (iw (Yf ts) (Z1 1 17 (.b (decide ((k:Int)<(ts.length:Int)))) (ie (ZT ((k:Int)<(ts.length:Int)) (fun Ze=>?_) (fun Ze=>?_)))))))
 ·obtain ⟨hm1,hm2⟩:=M3 (k:=k) (L:=ts.length) (C:=bC (b / ts.length)) om
  refine ak (aq (ab 1 (aE 16 (Y5 10 16 [0,1,2,3,4,5] (.n 20 (XR ys u) (.n 21 (.p rd 0) (.n 22 (.agg (Y9 g gb)) (.n 23 (Z0 vs) (.n 24 (Z0 ts) (.n 25 (.i k) .r)))))) [0] [b1] ?_))))
  obtain ⟨x1,Z3⟩:=Zu (xs:=ts) (j:=k) om
  refine dx 6 (Zn none (k:Int) 1 (Y4 Z3)) (ZZ 6 9 [7,8,9] (.n 27 (.i x1) (.n 28 (.i b) (.n 29 (Z0 ts) .r))) (dw 10 (Yf ts) (dx 11 (AS b ts.length om om) (Z9 12 (dc 12 [1,1] [] [] (ih rd bs pq vs x1 (b / ts.length) ob ob ob ob) ?_)))))
  rintro _ _ ⟨e1,p21,rfl,rfl,ZP⟩
  have X4:=ZP.1
  refine Z9 13 (Wn 13 [] [] [ZE e1] (Yr [e1]) (XE [e1]).symm 1 3 ?_)
  intro v2
  refine ZZ 2 2 [] (.n 33 (X5 [e1]) (.p .r)) (Z9 14 (dp 14 4 [] [] (Yr (ys++[e1])) (Yr ys) (Yr [e1]) u none 3 (Uq _) (Uq _) (Kw _) (by simp<;>omega) (by simp [Kv,Yr]) ?_))
  intro v3
  refine Xd 0 1 [15] [(0,.p rd 0),(2,Z0 vs),(3,Z0 ts),(4,.i b),(6,.p b1 0),(11,XR (ys++[e1]) v3),(12,.i k)] (de (az (Z1 1 18 (.i k) (ZO k (Z6 1 (.n 12 (.i (k+1:Nat)) (.p (.d (.w (.k (.k .z)))))) (ie ?_))))))
  exact ZU ⟨k+1,(ys++[e1]),v3,p21,ob,ob,(Xr ZA (by assumption)),om,rfl,rfl,rfl⟩ (wk [4,2,2,0] (fq (fw (ZW k fl))))
 have hke:k=ts.length:=by omega
 subst hke
 refine ax 0 (ar (ir 2 [(10,XR ys u)] (ie ?_)))
 exact Zc (r2 [1,1] [XR ys u] ⟨ys,pq,rfl,rfl,⟨by omega,ZA,by omega⟩⟩ (Zg.forget _ _))
theorem S5 (rd:Nat) (bs:List Int) (p:Nat) (g:XV) (gb:Nat) (rs:List Func) (vs:List Int) (t:Int) (b:Nat) (ZD:∀z∈bs,0<=z/\z<=255) (hp:p+(bC b-1)<=1000000000:=by exact ob) (hg:GP g:=by exact ob) (W8:g.funcs <+: rs:=by exact ob) (hv:vs.length+3*b<=900:=by exact ob) (hb:3<=b:=by exact ob) (ih:∀(rd:Nat) (bs:List Int) (p:Nat) (vs2:List Int) (t2:Int) (b2:Nat),(∀z∈bs,0<=z/\z<=255)->(p+bC b2<=1000000000)->(vs2.length+3*b2<=900)->(b2<b)->Zk Tryz.prog 219 [.p rd 0,.agg (Y9 g gb),Z0 vs2,.i t2,.i b2] [Yl rd bs p,YI gb rs] (fun r h=>∃(e:Z2) (p2:Nat),r=ZE e/\h=[Yl rd bs p2,YI gb rs]/\GE g vs2.length (bS b2) e/\p<=p2/\p2<=p+bC b2)):Zk Tryz.prog 248 [.p rd 0,.agg (Y9 g gb),Z0 vs,.i t,.i b] [Yl rd bs p,YI gb rs] (fun r h=>∃(e:Z2) (p2:Nat),r=ZE e/\h=[Yl rd bs p2,YI gb rs]/\GE g vs.length (bS b) e/\p<=p2/\p2<=p+(bC b-1)):=by
 have Xu:=hg.decls.ok
 have hgl:=hg.len
 have hdl:=hg.decls.len
 have hcm:=I0 b
 refine ZL 69 Tryz.func248 (ar (iA (Y9 g gb) ?_))
 intro b1
 refine iA [.i 0,.i 0,nl] ?_
 intro b2
 refine ie (ar (ir 1 [(0,.p rd 0),(2,Z0 vs),(3,.i t),(4,.i b),(6,.p b1 0),(10,.p b2 0),(15,.p rd 0)] (iL (Z8 [1,1,3,4]) 4 1 ?_)))
 intro v1
 refine Z6 0 (.n 16 (Z0 [1,1,3,4]) (.p .r)) (ic [3] (Vu rd bs p [1,1,3,4] (ZD:=ob)) ?_)
 rintro _ _ ⟨z1,rfl,rfl,ZP⟩
 have hz:=Ab (a:=1) (b:=4) ZP (by decide)
 refine Z1 1 11 (.i z1) (ie (aq (ar (ZY 3 18 (.i z1) 20 (Zd g.decls) [3] [b1] (iw (VQ g.decls) (Xm [(0,.p rd 0),(2,Z0 vs),(3,.i t),(4,.i b),(6,.p b1 0),(10,.p b2 0),(11,.i z1),(28,.b ((decide (z1>(g.decls.length:Int)))||X7 g.decls z1))] [.obj rd [Xb bs,.i (p+1:Nat)],.tail v1 1,.obj b2 [.i 0,.i 0,nl],.obj b1 (Y9 g gb),YI gb rs] ?_ ?_))))))
 ·refine ir 2 [(0,.p rd 0),(2,Z0 vs),(3,.i t),(4,.i b),(6,.p b1 0),(10,.p b2 0),(11,.i z1),(23,.b (decide (z1>(g.decls.length:Int))))] (ib (b:=(decide (z1>(g.decls.length:Int)))) 23 (fun Zb=>?_) (fun Zb=>?_))
  ·have Y1:z1>(g.decls.length:Int):=(dq).1 Zb
   refine Z6 5 (.n 28 (.b true) (.d (.w (.k (.k (.k .z)))))) (ie ?_)
   exact ZK 5 (fq (fw (fr (Zs true Zb fl))))
  have YB:¬(z1>(g.decls.length:Int)):=ZF dq Zb
  refine Y0 3 (.n 25 (Zd g.decls) (.n 26 (.i z1) (.w (.w .z)))) [3] [b1] (Zz [] (CR g.decls z1) (Z1 1 28 (.b (X7 g.decls z1)) (ie ?_)))
  exact ZK 5 (fq (fw (fr (Zs (X7 g.decls z1) Zb fl))))
 refine XJ (fun F h=>∃(d:Int),(1<=d/\d<=4)/\F=[(0,.p rd 0),(2,Z0 vs),(3,.i t),(4,.i b),(6,.p b1 0),(10,.p b2 0),(11,.i d)]/\h=[.obj rd [Xb bs,.i (p+1:Nat)],.obj b2 [.i 0,.i 0,nl],.obj b1 (Y9 g gb),YI gb rs]) ?_ ?_
 ·refine ac ((decide (z1>(g.decls.length:Int)))||X7 g.decls z1) (p:=(z1>(g.decls.length:Int))∨(X7 g.decls z1=true)) (Yc dq Iff.rfl) (fun Ze=>?_) (fun Ze=>?_)
  ·refine az (ir 1 [(0,.p rd 0),(2,Z0 vs),(3,.i t),(4,.i b),(6,.p b1 0),(10,.p b2 0),(11,.i 1)] (ie ?_))
   exact ZV ⟨1,om,rfl,rfl⟩ (wk [0,1,1,1] fl)
  refine ak ?_
  exact ZV ⟨z1,om,rfl,rfl⟩ (wk [0,1,1,1] fl)
 rintro F h ⟨d,QI,rfl,rfl⟩
 have hcl:=GH Xu d
 have hmc:=Z26 (L:=(Zt g.decls d).length) (q:=((b-2) / (Zt g.decls d).length)) (b:=b) om hb (To _ _)
 have hqb:=Nat.div_le_self (b-2) (Zt g.decls d).length
 refine ar (iR 3 [(0,.p rd 0),(2,Z0 vs),(3,.i t),(4,.i b),(6,.p b1 0),(10,.p b2 0),(11,.i d),(30,Zd g.decls),(31,.i d)] [2] [b1] (ic [] (KO g.decls d) ?_))
 rintro _ _ ⟨v2,rfl,rfl⟩
 refine Z1 1 12 (Z7 (Zt g.decls d) v2) (ie (ar (Y0 4 (.n 33 (.p rd 0) (.n 34 (.agg (Y9 g gb)) (.n 35 (Z0 vs) (.n 36 (.i d) .r)))) [3] [b1] (ic [1,3] (Bu rd bs (p+1) g gb rs vs d (ZD:=ob)) ?_))))
 rintro _ _ ⟨e1,p21,rfl,rfl,YM⟩
 have hle:=YM.1
 refine VR [ZE e1] (Yr [e1]) (XE [e1]).symm 1 3 ?_
 intro v3
 refine Z1 1 13 (XR [e1] v3) (ie (aq (ar (Z1 1 14 (.i 0) (ie (ab 0 (al (fun m F h=>∃(k:Nat) (ys:List Z2) (u:Value) (pq:Nat),(k<=(Zt g.decls d).length)/\(ys.length=k)/\(TV g.decls g.funcs.length (Tg g.decls 8 d vs.length) 1 ys)/\(∀e∈ys,e.sz<=bS ((b-2) / (Zt g.decls d).length))/\(p<=pq/\pq<=p+31+k*bC ((b-2) / (Zt g.decls d).length))/\F=[(0,.p rd 0),(2,Z0 vs),(3,.i t),(4,.i b),(6,.p b1 0),(10,.p b2 0),(11,.i d),(12,Z0 (Zt g.decls d)),(13,XR (e1::ys) u),(14,.i k)]/\h=[Yl rd bs pq,YI gb rs,.obj b2 [.i 0,.i 0,nl],.obj b1 (Y9 g gb),.tail u 3]/\m=(Zt g.decls d).length-k) _ _ _ ⟨0,[],v3,p21,ob,rfl,True.intro,(fun e he=>by cases he),(by simp only [Nat.zero_mul];omega),rfl,rfl,rfl⟩ (wk [1,1,2,2,0] (fq (fw (fr (fc (x:=Z7 (Zt g.decls d) v2) (Zg.forget _ _) (fc (x:=XR [e1] v3) (Zg.slh _ (Yw Yr rfl)) (Yh fl))))))) ?_)))))))
 rintro m F h ⟨k,ys,u,pq,Yo,Zp,ZA,YJ,Wf,rfl,rfl,rfl⟩
 refine aq (ar (Yq 2 39 (.i k) 40 (Z0 (Zt g.decls d)) (io (.i (((Zt g.decls d).length:Nat):Int)) (.i (((Z8 (Zt g.decls d)).length:Nat):Int)) (li (by rw [Yf])) (Z1 1 42 (.b (decide ((k:Int)<(((Zt g.decls d).length:Nat):Int)))) (ie (ZT ((k:Int)<(((Zt g.decls d).length:Nat):Int)) (fun Zl=>?_) (fun Zl=>?_)))))))
 ·refine ak (aq (ab 1 (aE 22 (Y5 14 22 [0,1,2,3,4,5,6,7] (.n 45 (XR (e1::ys) u) (.n 46 (.p rd 0) (.n 47 (.agg (Y9 g gb)) (.n 48 (Z0 vs) (.n 50 (Zd g.decls) (.n 51 (Z0 (Zt g.decls d)) (.n 52 (.i k) .r))))))) [3,3] [b1,b1] ?_))))
  obtain ⟨x1,Z3⟩:=Zu (xs:=Zt g.decls d) (j:=k) om
  have hcf:=VN Xu x1
  have harm:=BP (m:=vs.length) Z3
  obtain ⟨hm1,hm2⟩:=M3 (k:=k) (L:=(Zt g.decls d).length) (C:=bC ((b-2) / (Zt g.decls d).length)) om
  refine dx 8 (Zn none (k:Int) 1 (Y4 Z3)) (ZZ 10 13 [9,12,13] (.n 54 (.i x1) (.n 57 (.i t) (.n 58 (.i b) .r))) (da 14 (((b-2:Nat):Int)) (((b:Int))-(2)) (ZX 8 9 [15] 60 (Z0 (Zt g.decls d)) (dn 16 (.i (((Zt g.decls d).length:Nat):Int)) (.i (((Z8 (Zt g.decls d)).length:Nat):Int)) (li (by rw [Yf])) (dx 17 (AS (b-2) ((Zt g.decls d).length) om om) (Z9 10 (Yv 10 [] [3] [b1] (Ql g.decls x1) (Z9 11 (dc 11 [] [3] [b1] (Q5 vs (Zw g.decls x1)) ?_)))))))))
  rintro _ _ ⟨v4,rfl,rfl⟩
  refine ZZ 4 4 [] (.n 56 (Z0 (vs++(Zw g.decls x1))) (.p .r)) (Z9 18 (dc 18 [1,1] [] [] (ih rd bs pq (vs++(Zw g.decls x1)) t ((b-2) / ((Zt g.decls d).length)) ob ob (by simp only [Yu];omega) ob) ?_))
  rintro _ _ ⟨e2,p22,rfl,rfl,YX⟩
  have X4:=YX.1
  refine Z9 19 (Wn 19 [] [] [ZE e2] (Yr [e2]) (XE [e2]).symm 1 3 ?_)
  intro v5
  refine ZZ 2 2 [] (.n 64 (X5 [e2]) (.p .r)) (Z9 20 (dp 20 6 [] [] (Yr ((e1::ys)++[e2])) (Yr (e1::ys)) (Yr [e2]) u none 3 (Uq _) (Uq _) (Kw _) (by simp<;>omega) (by simp [Kv,Yr]) ?_))
  intro v6
  refine Xd 0 1 [21] [(0,.p rd 0),(2,Z0 vs),(3,.i t),(4,.i b),(6,.p b1 0),(10,.p b2 0),(11,.i d),(12,Z0 (Zt g.decls d)),(13,XR ((e1::ys)++[e2]) v6),(14,.i k)] (de (az (Z1 1 43 (.i k) (ZO k (Z6 1 (.n 14 (.i (k+1:Nat)) (.p (.d (.w (.w (.k .z)))))) (ie ?_))))))
  exact ZU ⟨k+1,(ys++[e2]),v6,p22,ob,ob,(Ix.2 ⟨ZA,by rw [Zp,harm,<-Yu];exact X4.1,True.intro⟩),(Xr YJ X4.2),om,rfl,rfl,rfl⟩ (wk [2,2,3,3,0] (fq (fq (fc (x:=XR ((e1::ys)++[e2]) v6) (Zg.slh _ (Yw Yr rfl)) (ZW k fl)))))
 refine ax 0 (ar (Yq 2 66 (.i d) 67 (X5 (e1::ys)) (Zz [] (XG 8 d (e1::ys)) (ZG 2 b2 (Yy (Z2.mk 8 d (e1::ys))) (ie ?_)))))
 have hke:k=(Zt g.decls d).length:=by omega
 subst hke
 exact Zc (r3 [1,1] [ZE (Z2.mk 8 d (e1::ys))] [0] [(b2,b2)] ⟨(Z2.mk 8 d (e1::ys)),pq,rfl,rfl,⟨GE.match_ om hle ZA YJ Zp rfl om (Z27 om hb (To _ _)),by omega⟩⟩ (lr _))
theorem IZ (rd:Nat) (bs:List Int) (p:Nat) (g:XV) (gb:Nat) (rs:List Func) (vs:List Int) (t:Int) (b:Nat) (ZD:∀z∈bs,0<=z/\z<=255) (hp:p+(bC b-1)<=1000000000:=by exact ob) (hg:GP g:=by exact ob) (W8:g.funcs <+: rs:=by exact ob) (hv:vs.length+3*b<=900:=by exact ob) (hb:3<=b:=by exact ob) (ih:∀(rd:Nat) (bs:List Int) (p:Nat) (vs2:List Int) (t2:Int) (b2:Nat),(∀z∈bs,0<=z/\z<=255)->(p+bC b2<=1000000000)->(vs2.length+3*b2<=900)->(b2<b)->Zk Tryz.prog 219 [.p rd 0,.agg (Y9 g gb),Z0 vs2,.i t2,.i b2] [Yl rd bs p,YI gb rs] (fun r h=>∃(e:Z2) (p2:Nat),r=ZE e/\h=[Yl rd bs p2,YI gb rs]/\GE g vs2.length (bS b2) e/\p<=p2/\p2<=p+bC b2)):Zk Tryz.prog 250 [.p rd 0,.agg (Y9 g gb),Z0 vs,.i t,.i b] [Yl rd bs p,YI gb rs] (fun r h=>∃(e:Z2) (p2:Nat),r=ZE e/\h=[Yl rd bs p2,YI gb rs]/\GE g vs.length (bS b) e/\p<=p2/\p2<=p+(bC b-1)):=by
 have Xu:=hg.decls.ok
 have hgl:=hg.len
 have hdl:=hg.decls.len
 have hac:=OB hb
 have has:=OC hb
 refine ZL 120 Tryz.func250 (ar (iA (Y9 g gb) ?_))
 intro b1
 refine iA [.i 0,.i 0,nl] ?_
 intro b2
 refine ie (aq (ar (ir 1 [(0,.p rd 0),(2,Z0 vs),(3,.i t),(4,.i b),(6,.p b1 0),(10,.p b2 0),(14,.p rd 0)] (ic [2] (XP rd bs p 4 (ZD:=ob)) ?_))))
 rintro _ _ ⟨k1,rfl,rfl,ZP⟩
 have qhp1:=ZP.lt om
 refine Z1 1 16 (.b (k1==0)) (ie (XJ (fun F h=>∃(p5:Nat),(p<=p5/\p5<=p+1)/\F=[(0,.p rd 0),(2,Z0 vs),(3,.i t),(4,.i b),(6,.p b1 0),(10,.p b2 0)]/\h=[Yl rd bs p5,.obj b2 [.i 0,.i 0,nl],.obj b1 (Y9 g gb),YI gb rs]) ?_ ?_))
 ·refine ac (k1==0) Zh (fun Ze=>?_) (fun Ze=>?_)
  ·refine ar (ir 1 [(0,.p rd 0),(2,Z0 vs),(3,.i t),(4,.i b),(6,.p b1 0),(10,.p b2 0),(11,.i 1)] (ie (ab 0 (al (fun m F h=>∃(a:Nat),(1<=a/\a<=g.decls.length+1)/\F=[(0,.p rd 0),(2,Z0 vs),(3,.i t),(4,.i b),(6,.p b1 0),(10,.p b2 0),(11,.i a)]/\h=[.obj rd [Xb bs,.i (p+1:Nat)],.obj b2 [.i 0,.i 0,nl],.obj b1 (Y9 g gb),YI gb rs]/\m=g.decls.length+1-a) _ _ _ ⟨1,ob,rfl,rfl,rfl⟩ (ZK 4 (fq (fw (fc (x:=.i 1) li fl)))) ?_))))
   rintro m F h ⟨a,Yo,rfl,rfl,rfl⟩
   refine aq (ar (ZY 3 17 (.i a) 19 (Zd g.decls) [2] [b1] (iw (VQ g.decls) (Z1 1 21 (.b (decide ((a:Int)<=(g.decls.length:Int)))) (ie (ZT ((a:Int)<=(g.decls.length:Int)) (fun Zl=>?_) (fun Zl=>?_)))))))
   ·refine ak (aq (ab 1 (aq (XJ (fun F h=>∃(wb:Bool),(True)/\F=[(0,.p rd 0),(2,Z0 vs),(3,.i t),(4,.i b),(6,.p b1 0),(10,.p b2 0),(11,.i a),(44,.b wb)]/\h=[.obj rd [Xb bs,.i (p+1:Nat)],.obj b2 [.i 0,.i 0,nl],.obj b1 (Y9 g gb),YI gb rs]) ?_ ?_))))
    ·refine az (iR 3 [(0,.p rd 0),(2,Z0 vs),(3,.i t),(4,.i b),(6,.p b1 0),(10,.p b2 0),(11,.i a),(25,Zd g.decls),(26,.i a)] [2] [b1] (Zz [] (CR g.decls (a:Int)) (Z1 1 28 (.b (X7 g.decls (a:Int))) (ib (b:=X7 g.decls (a:Int)) 28 (fun Zb=>?_) (fun Zb=>?_)))))
     ·have Y1:X7 g.decls (a:Int)=true:=(Iff.rfl).1 Zb
      refine Y0 3 (.n 30 (Zd g.decls) (.n 31 (.i a) (.k (.d .r)))) [2] [b1] (ia (((a-1:Nat):Int)) (((a:Int))-(1)) ?_)
      obtain ⟨x1,Z3⟩:=Zu (xs:=g.decls) (j:=a-1) om
      refine Zq (Zn none ((a-1:Nat):Int) 3 (Vl Z3)) (Z1 6 39 (.b (x1.to_==t)) (ib (b:=(x1.to_==t)) 39 (fun Zv=>?_) (fun Zv=>?_)))
      ·have YB:x1.to_=t:=(Zh).1 Zv
       refine Y0 3 (.n 40 (.agg (Y9 g gb)) (.n 41 (Z0 vs) (.n 42 (.i a) (.k (.d .r))))) [2] [b1] (ic [3] (DI g gb rs vs (a:Int)) ?_)
       rintro _ _ ⟨w1,rfl,rfl⟩
       refine Z1 1 44 (.b w1) (ie ?_)
       exact ZV ⟨w1,True.intro,rfl,rfl⟩ (wk [1,1,1,0] fl)
      have YM:¬(x1.to_=t):=ZF Zh Zv
      refine Z6 5 (.n 44 (.b false) (.k (.d .r))) (ie ?_)
      exact ZV ⟨false,True.intro,rfl,rfl⟩ (ZK 4 fl)
     have YX:¬(X7 g.decls (a:Int)=true):=ZF Iff.rfl Zb
     refine Z6 16 (.n 44 (.b false) (.k (.d .r))) (ie ?_)
     exact ZV ⟨false,True.intro,rfl,rfl⟩ (ZK 4 fl)
    rintro F h ⟨wb,kR5_0,rfl,rfl⟩
    refine ac wb Iff.rfl (fun ZI=>?_) (fun ZI=>?_)
    ·refine aD 21 (W2 11 21 [0,1,2,3,5,6,7,8,9,10] [(4,.i b),(10,.p b2 0),(45,.p rd 0),(46,.agg (Y9 g gb)),(47,Z0 vs),(48,.i a),(50,.p rd 0),(51,.agg (Y9 g gb)),(52,Z0 vs),(54,Zd g.decls),(55,.i a)] [2,2,2] [b1,b1,b1] (da 11 (((a-1:Nat):Int)) (((a:Int))-(1)) ?_))
     obtain ⟨x2,Zy⟩:=Zu (xs:=g.decls) (j:=a-1) om
     refine dx 12 (Zn none ((a-1:Nat):Int) 3 (Vl Zy)) (ZZ 6 9 [13,14,15] (.n 59 (.i x2.frm) (.n 60 (.i b) .r)) (da 16 (((b-2:Nat):Int)) (((b:Int))-(2)) (Z9 4 (dc 4 [0,2] [1,1] [b1,b1] (Bu rd bs (p+1) g gb rs vs (a:Int) (ZD:=ob)) ?_))))
     rintro _ _ ⟨e1,p21,rfl,rfl,Xv⟩
     have hle:=Xv.1
     refine Z9 17 (dc 17 [0,0] [] [] (ih rd bs p21 vs x2.frm (b-2) ob ob ob ob) ?_)
     rintro _ _ ⟨e2,p22,rfl,rfl,Wb⟩
     have X4:=Wb.1
     refine Z9 18 (Wn 18 [] [] [ZE e1,ZE e2] (Yr [e1,e2]) (XE [e1,e2]).symm 2 3 ?_)
     intro v1
     refine ZZ 2 2 [] (.n 63 (X5 [e1,e2]) (.p .r)) (Z9 19 (Yv 19 [] [] [] (XG 11 0 [e1,e2]) (Z9 20 (YG 20 3 [] [] b2 (Yy (Z2.mk 11 0 [e1,e2])) (de ?_)))))
     exact Zc (r3 [2,2] [ZE (Z2.mk 11 0 [e1,e2])] [0] [(b2,b2)] ⟨(Z2.mk 11 0 [e1,e2]),p22,rfl,rfl,⟨GE.two om om hle X4 om,by omega⟩⟩ (lr _))
    refine ak (az (ir 1 [(0,.p rd 0),(2,Z0 vs),(3,.i t),(4,.i b),(6,.p b1 0),(10,.p b2 0),(22,.i a)] (ZO a (Z1 1 11 (.i (a+1:Nat)) (ie ?_)))))
    exact ZU ⟨a+1,ob,rfl,rfl,rfl⟩ (ZK 4 (fq (fw (ZW a fl))))
   refine ax 0 ?_
   exact ZV ⟨p+1,ob,rfl,rfl⟩ (ZK 4 fl)
  refine ak ?_
  exact ZV ⟨p+1,ob,rfl,rfl⟩ (ZK 4 fl)
 rintro F h ⟨p5,QI,rfl,rfl⟩
 refine ar (iR 3 [(0,.p rd 0),(2,Z0 vs),(3,.i t),(4,.i b),(6,.p b1 0),(10,.p b2 0),(66,Zd g.decls),(67,.i t)] [2] [b1] (ic [] (KO g.decls t) ?_))
 rintro _ _ ⟨v2,rfl,rfl⟩
 refine Z1 1 12 (Z7 (Zt g.decls t) v2) (ie (aq (ar (Z1 1 69 (Z7 (Zt g.decls t) v2) (io (.i (((Zt g.decls t).length:Nat):Int)) (.i (((Z8 (Zt g.decls t)).length:Nat):Int)) (li (by rw [Yf])) (Z1 1 71 (.b (decide ((((Zt g.decls t).length:Nat):Int)>0))) (ie (ZT ((((Zt g.decls t).length:Nat):Int)>0) (fun Yi=>?_) (fun Yi=>?_)))))))))
 ·refine ar (Z6 3 (.n 72 (Z7 (Zt g.decls t) v2) (.n 73 (.p rd 0) (.n 74 (Z7 (Zt g.decls t) v2) .r))) (io (.i (((Zt g.decls t).length:Nat):Int)) (.i (((Z8 (Zt g.decls t)).length:Nat):Int)) (li (by rw [Yf])) (ic [1] (XP rd bs p5 (((Zt g.decls t).length:Nat):Int) (ZD:=ob)) ?_)))
  rintro _ _ ⟨k2,rfl,rfl,WE⟩
  have qhp8:=WE.lt om
  obtain ⟨x3,YT⟩:=Zu (xs:=Zt g.decls t) (j:=k2.toNat) om
  have hcc:=hg.decls.cons_cases (Y7 YT)
  refine Zq (Zn (some v2) k2 1 (Y4 YT)) (Z1 2 13 (.i x3) (ie (aD 13 (W2 5 13 [0,1,2,3,4,5,6,8] [(10,.p b2 0),(79,.i x3),(80,.p rd 0),(81,.agg (Y9 g gb)),(82,Z0 vs),(84,Zd g.decls),(85,.i x3),(87,.i b)] [3,3] [b1,b1] (da 9 (((b-1:Nat):Int)) (((b:Int))-(1)) (Z9 7 (Yv 7 [] [2] [b1] (Ql g.decls x3) (Z9 10 (dc 10 [0,3] [] [] (AL rd bs (p5+1) g gb rs vs (Zw g.decls x3) (b-1) b (ZD:=ob) (hp:=(AU (p:=p) (by first|omega|simp) hb om om)) (ht:=(by first|omega|simp)) (hb:=om) (ih:=ih)) ?_)))))))))
  rintro _ _ ⟨ys1,p23,rfl,rfl,WR⟩
  have hga1:=WR.1
  have hga2:=WR.2.1
  have hga3:=WR.2.2
  have hnc:=Jq (b:=b) (show (ys1).length<=3 by rw [hga1];first|omega|simp) hb (To _ (b-1))
  rw [hga1] at hnc
  refine Z9 11 (Yv 11 [] [] [] (XG 6 x3 ys1) (Z9 12 (YG 12 3 [] [] b2 (Yy (Z2.mk 6 x3 ys1)) (de ?_))))
  exact Zc (r3 [1,1] [ZE (Z2.mk 6 x3 ys1)] [0] [(b2,b2)] ⟨(Z2.mk 6 x3 ys1),p23,rfl,rfl,⟨GE.node om (fun h=>by omega) om hga2 hga1 (by first|omega|simp) (CA (by first|omega|simp) hb (To _ _)),by omega⟩⟩ (lr _))
 refine ak (aq (ar (Z1 2 92 (.b (decide (t>0))) (ie (ZT (t>0) (fun Xk=>?_) (fun Xk=>?_))))))
 ·refine ar (Y0 4 (.n 93 (.p rd 0) (.n 94 (.agg (Y9 g gb)) (.n 95 (Z0 vs) (.n 96 (.i t) .r)))) [3] [b1] (ic [1,3] (Bu rd bs p5 g gb rs vs t (ZD:=ob)) ?_))
  rintro _ _ ⟨e3,p24,rfl,rfl,Uc⟩
  have hle:=Uc.1
  refine ZG 3 b2 (Yy e3) (ie ?_)
  exact Zc (r3 [1,1] [ZE e3] [0] [(b2,b2)] ⟨e3,p24,rfl,rfl,⟨hle.le (I1 b),by omega⟩⟩ (lr _))
 refine ak (aq (ar (Z1 1 98 (.p rd 0) (ic [1] (XP rd bs p5 3 (ZD:=ob)) ?_))))
 rintro _ _ ⟨k3,rfl,rfl,UH⟩
 have qhp11:=UH.lt om
 refine Z1 1 100 (.b (k3==0)) (ie (ac (k3==0) Zh (fun Xl=>?_) (fun Xl=>?_)))
 ·refine ar (Y0 3 (.n 101 (.p rd 0) (.n 102 (.agg (Y9 g gb)) (.n 103 (Z0 vs) .r))) [3] [b1] (iL (Z8 [0]) 1 1 ?_))
  intro v3
  refine Z1 1 105 (.i b) (ia (((b-1:Nat):Int)) (((b:Int))-(1)) (Z6 0 (.n 104 (Z0 [0]) (.q 106 (.k (.p .r)))) (ic [1,4] (AL rd bs (p5+1) g gb rs vs [0] (b-1) b (ZD:=ob) (hp:=(AU (p:=p) (by first|omega|simp) hb om om)) (ht:=(by first|omega|simp)) (hb:=om) (ih:=ih)) ?_)))
  rintro _ _ ⟨ys2,p25,rfl,rfl,Uv⟩
  have hga1:=Uv.1
  have hga2:=Uv.2.1
  have hga3:=Uv.2.2
  have hnc:=Jq (b:=b) (show (ys2).length<=3 by rw [hga1];first|omega|simp) hb (To _ (b-1))
  rw [hga1] at hnc
  refine Zz [] (XG 5 0 ys2) (ZG 4 b2 (Yy (Z2.mk 5 0 ys2)) (ie ?_))
  exact Zc (r3 [1,1] [ZE (Z2.mk 5 0 ys2)] [0] [(b2,b2)] ⟨(Z2.mk 5 0 ys2),p25,rfl,rfl,⟨GE.node om (fun h=>by omega) om hga2 hga1 (by first|omega|simp) (CA (by first|omega|simp) hb (To _ _)),by omega⟩⟩ (lr _))
 refine ak (aD 12 (W2 7 12 [0,3,4,5,7] [(10,.p b2 0),(109,.p rd 0),(112,.p rd 0),(113,.agg (Y9 g gb)),(114,Z0 vs),(116,.i b)] [3] [b1] (da 8 (((b-1:Nat):Int)) (((b:Int))-(1)) (dK (fun F h=>∃(z1:Int) (ys3:List Z2) (p26:Nat),(z1∈[1,2,3,4])/\(ys3.length=[0,0].length/\(∀e∈ys3,GE g vs.length (bS ((b-1) / [0,0].length)) e)/\((p5+1)+1)<=p26/\p26<=((p5+1)+1)+[0,0].length*bC ((b-1) / [0,0].length))/\F=[(10,.p b2 0)]/\h=[.obj b2 (Yy (Z2.mk z1 0 ys3)),Yl rd bs p26,YI gb rs,.tail v2 1,.obj b1 (Y9 g gb)]) ?_ ?_))))
 ·refine Vk 1 6 ?_ ?_
  ·refine dL 1 [2] [b1] (Z8 [1,2,3,4]) 4 1 ?_
   intro v4
   refine Xd 5 5 [] [(10,.p b2 0),(109,.p rd 0),(110,Z0 [1,2,3,4]),(112,.p rd 0),(113,.agg (Y9 g gb)),(114,Z0 vs),(117,.i (b-1:Nat))] (Vk 2 6 ?_ ?_)
   ·refine dc 2 [1] [1] [b1] (Vu rd bs (p5+1) [1,2,3,4] (ZD:=ob)) ?_
    rintro _ _ ⟨z1,rfl,rfl,Tt⟩
    have hz:=Ab (a:=1) (b:=4) Tt (by decide)
    refine Z9 6 (dL 6 [2] [b1] (Z8 [0,0]) 2 1 ?_)
    intro v5
    refine Xd 3 3 [] [(10,.p b2 0),(111,.i z1),(112,.p rd 0),(113,.agg (Y9 g gb)),(114,Z0 vs),(115,Z0 [0,0]),(117,.i (b-1:Nat))] (Z9 9 (dc 9 [1,5] [] [] (AL rd bs ((p5+1)+1) g gb rs vs [0,0] (b-1) b (ZD:=ob) (hp:=(AU (p:=p) (by first|omega|simp) hb om om)) (ht:=(by first|omega|simp)) (hb:=om) (ih:=ih)) ?_))
    rintro _ _ ⟨ys3,p26,rfl,rfl,Ta⟩
    have hga1:=Ta.1
    have hga2:=Ta.2.1
    have hga3:=Ta.2.2
    have hnc:=Jq (b:=b) (show (ys3).length<=3 by rw [hga1];first|omega|simp) hb (To _ (b-1))
    rw [hga1] at hnc
    refine Z9 10 (Yv 10 [] [] [] (XG z1 0 ys3) (Z9 11 (YG 11 5 [] [] b2 (Yy (Z2.mk z1 0 ys3)) (de ?_))))
    exact ZV ⟨z1,ys3,p26,(by assumption),(by assumption),rfl,rfl⟩ (wk [0,0,0,2,2] fl)
   refine dL 6 [2] [b1] (Z8 [0,0]) 2 1 ?_
   intro v6
   refine Z9 2 (dc 2 [2] [1] [b1] (Vu rd bs (p5+1) [1,2,3,4] (ZD:=ob)) ?_)
   rintro _ _ ⟨z2,rfl,rfl,QF⟩
   have hz:=Ab (a:=1) (b:=4) QF (by decide)
   refine Xd 3 3 [] [(10,.p b2 0),(111,.i z2),(112,.p rd 0),(113,.agg (Y9 g gb)),(114,Z0 vs),(115,Z0 [0,0]),(117,.i (b-1:Nat))] (Z9 9 (dc 9 [0,5] [] [] (AL rd bs ((p5+1)+1) g gb rs vs [0,0] (b-1) b (ZD:=ob) (hp:=(AU (p:=p) (by first|omega|simp) hb om om)) (ht:=(by first|omega|simp)) (hb:=om) (ih:=ih)) ?_))
   rintro _ _ ⟨ys4,p27,rfl,rfl,QG⟩
   have hga1:=QG.1
   have hga2:=QG.2.1
   have hga3:=QG.2.2
   have hnc:=Jq (b:=b) (show (ys4).length<=3 by rw [hga1];first|omega|simp) hb (To _ (b-1))
   rw [hga1] at hnc
   refine Z9 10 (Yv 10 [] [] [] (XG z2 0 ys4) (Z9 11 (YG 11 5 [] [] b2 (Yy (Z2.mk z2 0 ys4)) (de ?_))))
   exact ZV ⟨z2,ys4,p27,(by assumption),(by assumption),rfl,rfl⟩ (wk [0,0,0,2,2] fl)
  refine dL 6 [2] [b1] (Z8 [0,0]) 2 1 ?_
  intro v7
  refine Z9 1 (dL 1 [2] [b1] (Z8 [1,2,3,4]) 4 1 ?_)
  intro v8
  refine Xd 4 4 [] [(10,.p b2 0),(109,.p rd 0),(110,Z0 [1,2,3,4]),(112,.p rd 0),(113,.agg (Y9 g gb)),(114,Z0 vs),(115,Z7 [0,0] v7),(117,.i (b-1:Nat))] (Z9 2 (dc 2 [2] [1] [b1] (Vu rd bs (p5+1) [1,2,3,4] (ZD:=ob)) ?_))
  rintro _ _ ⟨z3,rfl,rfl,Jk⟩
  have hz:=Ab (a:=1) (b:=4) Jk (by decide)
  refine ZZ 3 3 [] (.n 115 (Z0 [0,0]) (.q 111 (.k (.d (.d (.k (.k (.k (.d .r))))))))) (Z9 9 (dc 9 [0,5] [] [] (AL rd bs ((p5+1)+1) g gb rs vs [0,0] (b-1) b (ZD:=ob) (hp:=(AU (p:=p) (by first|omega|simp) hb om om)) (ht:=(by first|omega|simp)) (hb:=om) (ih:=ih)) ?_))
  rintro _ _ ⟨ys5,p28,rfl,rfl,QH⟩
  have hga1:=QH.1
  have hga2:=QH.2.1
  have hga3:=QH.2.2
  have hnc:=Jq (b:=b) (show (ys5).length<=3 by rw [hga1];first|omega|simp) hb (To _ (b-1))
  rw [hga1] at hnc
  refine Z9 10 (Yv 10 [] [] [] (XG z3 0 ys5) (Z9 11 (YG 11 5 [] [] b2 (Yy (Z2.mk z3 0 ys5)) (de ?_))))
  exact ZV ⟨z3,ys5,p28,(by assumption),(by assumption),rfl,rfl⟩ (wk [0,0,0,2,2] fl)
 rintro F h ⟨z1,ys3,p26,Tt,Ta,rfl,rfl⟩
 have hz:=Ab (a:=1) (b:=4) Tt (by decide)
 have hga1:=Ta.1
 have hga2:=Ta.2.1
 have hga3:=Ta.2.2
 have hnc:=Jq (b:=b) (show (ys3).length<=3 by rw [hga1];first|omega|simp) hb (To _ (b-1))
 rw [hga1] at hnc
 exact Zc (r3 [1,1] [ZE (Z2.mk z1 0 ys3)] [0] [(b2,b2)] ⟨(Z2.mk z1 0 ys3),p26,rfl,rfl,⟨GE.node om (fun h=>by omega) om hga2 hga1 (by first|omega|simp) (CA (by first|omega|simp) hb (To _ _)),by omega⟩⟩ (lr _))
theorem S6 (rd:Nat) (bs:List Int) (p:Nat) (g:XV) (gb:Nat) (rs:List Func) (vs:List Int) (t:Int) (b:Nat) (ZD:∀z∈bs,0<=z/\z<=255) (hp:p+bC b<=1000000000) (hg:GP g) (W8:g.funcs <+: rs) (hv:vs.length+3*b<=900) (ih:∀(rd:Nat) (bs:List Int) (p:Nat) (vs2:List Int) (t2:Int) (b2:Nat),(∀z∈bs,0<=z/\z<=255)->(p+bC b2<=1000000000)->(vs2.length+3*b2<=900)->(b2<b)->Zk Tryz.prog 219 [.p rd 0,.agg (Y9 g gb),Z0 vs2,.i t2,.i b2] [Yl rd bs p,YI gb rs] (fun r h=>∃(e:Z2) (p2:Nat),r=ZE e/\h=[Yl rd bs p2,YI gb rs]/\GE g vs2.length (bS b2) e/\p<=p2/\p2<=p+bC b2)):Zk Tryz.prog 219 [.p rd 0,.agg (Y9 g gb),Z0 vs,.i t,.i b] [Yl rd bs p,YI gb rs] (fun r h=>∃(e:Z2) (p2:Nat),r=ZE e/\h=[Yl rd bs p2,YI gb rs]/\GE g vs.length (bS b) e/\p<=p2/\p2<=p+bC b):=by
 have Xu:=hg.decls.ok
 have hgl:=hg.len
 have hdl:=hg.decls.len
 have hbm:=I1 b
 have hcm:=I0 b
 refine ZL 114 Tryz.func219 (ar (iA (Y9 g gb) ?_))
 intro b1
 refine iA [.i 0,.i 0,nl] ?_
 intro b2
 refine ie (aq (ar (ir 2 [(0,.p rd 0),(2,Z0 vs),(3,.i t),(4,.i b),(6,.p b1 0),(10,.p b2 0),(15,.b (decide ((b:Int)<3)))] (ie (ZT ((b:Int)<3) (fun Ze=>?_) (fun Ze=>?_))))))
 ·refine ar (Y0 4 (.n 16 (.p rd 0) (.n 17 (.agg (Y9 g gb)) (.n 18 (Z0 vs) (.n 19 (.i t) .r)))) [1] [b1] (ic [2,2] (Bu rd bs p g gb rs vs t (ZD:=ob)) ?_))
  rintro _ _ ⟨e1,p21,rfl,rfl,ZP⟩
  have hle:=ZP.1
  refine ZG 2 b2 (Yy e1) (ie ?_)
  exact Zc (r3 [1,1] [ZE e1] [0] [(b2,b2)] ⟨e1,p21,rfl,rfl,⟨hle.le hbm,by omega⟩⟩ (lr _))
 have hb:3<=b:=by omega
 have hlc:=Z20 hb
 have hls:=Z21 hb
 refine ak (aq (ar (Z1 1 21 (.p rd 0) (ic [2] (XP rd bs p 12 (ZD:=ob)) ?_))))
 rintro _ _ ⟨k1,rfl,rfl,Y1⟩
 have qhp2:=Y1.lt om
 refine ie (ab 0 (ar (Z1 2 23 (.b (k1==0)) (ie (ac (k1==0) Zh (fun Zl=>?_) (fun Zl=>?_))))))
 ·refine ar (Y0 4 (.n 25 (.p rd 0) (.n 26 (.agg (Y9 g gb)) (.n 27 (Z0 vs) (.n 28 (.i t) .r)))) [2] [b1] (ic [0,2] (Bu rd bs (p+1) g gb rs vs t (ZD:=ob)) ?_))
  rintro _ _ ⟨e2,p22,rfl,rfl,YB⟩
  have hle:=YB.1
  refine ZG 2 b2 (Yy e2) (ie ?_)
  exact Zc (r3 [1,1] [ZE e2] [0] [(b2,b2)] ⟨e2,p22,rfl,rfl,⟨hle.le hbm,by omega⟩⟩ (lr _))
 refine aq (ar (Z1 2 30 (.b (k1==1)) (ie (XJ (fun F h=>F=[(0,.p rd 0),(2,Z0 vs),(3,.i t),(4,.i b),(6,.p b1 0),(10,.p b2 0),(22,.i k1),(30,.b ((k1==1)||(k1==2)))]/\h=[.obj rd [Xb bs,.i (p+1:Nat)],.obj b2 [.i 0,.i 0,nl],.obj b1 (Y9 g gb),YI gb rs]) ?_ ?_))))
 ·refine ac (k1==1) Zh (fun ZI=>?_) (fun ZI=>?_)
  ·refine ak ?_
   exact ZV ⟨rfl,rfl⟩ (ZK 4 (fq (fw (fr (fc (x:=.b (k1==1)) (lb (by first|rfl|(rw [Zj ZI])|(rw [Za ZI])|(simp [ZI];done)|(rw [Xo];simp [ZI];done)|omega)) fl)))))
  refine az (ir 2 [(0,.p rd 0),(2,Z0 vs),(3,.i t),(4,.i b),(6,.p b1 0),(10,.p b2 0),(22,.i k1),(30,.b (k1==2))] (ie ?_))
  exact ZV ⟨rfl,rfl⟩ (ZK 4 (fq (fw (fr (fc (x:=.b (k1==2)) (lb (by first|rfl|(rw [Zj ZI])|(rw [Za ZI])|(simp [ZI];done)|(rw [Xo];simp [ZI];done)|omega)) fl)))))
 rintro F h ⟨rfl,rfl⟩
 refine ac ((k1==1)||(k1==2)) (p:=(k1=1)∨(k1=2)) (Yc Zh Zh) (fun Yi=>?_) (fun Yi=>?_)
 ·refine ar (iR 3 [(0,.p rd 0),(2,Z0 vs),(3,.i t),(4,.i b),(6,.p b1 0),(10,.p b2 0),(33,.p rd 0),(34,.agg (Y9 g gb)),(35,Z0 vs)] [2] [b1] (ic [0,2] (RH rd bs (p+1) g gb rs vs (ZD:=ob)) ?_))
  rintro _ _ ⟨z1,rfl,rfl,YM⟩
  refine Z1 1 11 (.i z1) (ie (aD 20 (Y5 15 20 [0,1,2,3,4] (.n 37 (.p rd 0) (.n 38 (.agg (Y9 g gb)) (.n 39 (Z0 vs) (.n 40 (.i z1) (.n 41 (.i b) .r))))) [3] [b1] (dx 5 (AS b 2 om om) (Y5 8 14 [7,8,9,10,13,14] (.n 44 (.p rd 0) (.n 45 (.agg (Y9 g gb)) (.n 46 (Z0 vs) (.n 47 (.i z1) (.n 50 (.i t) (.n 51 (.i b) .r)))))) [3] [b1] (dx 15 (AS b 2 om om) (dK (fun F h=>∃(e3:Z2) (e4:Z2) (p24:Nat) (p23:Nat),(GE g vs.length (bS (b / 2)) e3/\((p+1)+1)<=p23/\p23<=((p+1)+1)+bC (b / 2))/\(GE g (vs++[z1]).length (bS (b / 2)) e4/\p23<=p24/\p24<=p23+bC (b / 2))/\F=[(10,.p b2 0)]/\h=[.obj b2 (Yy (Z2.mk 13 0 [e3,e4])),Yl rd bs p24,YI gb rs,.obj b1 (Y9 g gb)]) ?_ ?_)))))))
  ·refine Vk 6 11 ?_ ?_
   ·refine dc 6 [0,0] [1] [b1] (ih rd bs ((p+1)+1) vs z1 (b / 2) ob ob (by first|omega|(simp only [Yu,YQ,Xp];omega)) ob) ?_
    rintro _ _ ⟨e3,p23,rfl,rfl,YX⟩
    have hgehp5:=YX.1
    refine Z9 11 (dL 11 [3] [b1] (Z8 [z1]) 1 1 ?_)
    intro v1
    refine Xd 5 5 [] [(10,.p b2 0),(43,ZE e3),(44,.p rd 0),(45,.agg (Y9 g gb)),(46,Z0 vs),(48,Z0 [z1]),(50,.i t),(52,.i (b / 2:Nat))] (Z9 12 (dc 12 [] [3] [b1] (Q5 vs [z1]) ?_))
    rintro _ _ ⟨v2,rfl,rfl⟩
    refine ZZ 4 4 [] (.n 49 (Z0 (vs++[z1])) (.p .r)) (Z9 16 (dc 16 [2,2] [] [] (ih rd bs p23 (vs++[z1]) t (b / 2) ob ob (by first|omega|(simp only [Yu,YQ,Xp];omega)) ob) ?_))
    rintro _ _ ⟨e4,p24,rfl,rfl,Xv⟩
    have hgehp6:=Xv.1
    refine Z9 17 (Wn 17 [] [] [ZE e3,ZE e4] (Yr [e3,e4]) (XE [e3,e4]).symm 2 3 ?_)
    intro v3
    refine ZZ 2 2 [] (.n 54 (X5 [e3,e4]) (.p .r)) (Z9 18 (Yv 18 [] [] [] (XG 13 0 [e3,e4]) (Z9 19 (YG 19 5 [] [] b2 (Yy (Z2.mk 13 0 [e3,e4])) (de ?_)))))
    exact ZV ⟨e3,e4,p24,_,(by assumption),(by assumption),rfl,rfl⟩ (wk [0,1,1,3] fl)
   refine dL 11 [3,3] [b1,b1] (Z8 [z1]) 1 1 ?_
   intro v4
   refine Z9 6 (dc 6 [1,1] [1] [b1] (ih rd bs ((p+1)+1) vs z1 (b / 2) ob ob (by first|omega|(simp only [Yu,YQ,Xp];omega)) ob) ?_)
   rintro _ _ ⟨e5,p25,rfl,rfl,Wb⟩
   have hgehp7:=Wb.1
   refine Xd 5 5 [] [(10,.p b2 0),(43,ZE e5),(44,.p rd 0),(45,.agg (Y9 g gb)),(46,Z0 vs),(48,Z0 [z1]),(50,.i t),(52,.i (b / 2:Nat))] (Z9 12 (dc 12 [] [3] [b1] (Q5 vs [z1]) ?_))
   rintro _ _ ⟨v5,rfl,rfl⟩
   refine ZZ 4 4 [] (.n 49 (Z0 (vs++[z1])) (.p .r)) (Z9 16 (dc 16 [1,1] [] [] (ih rd bs p25 (vs++[z1]) t (b / 2) ob ob (by first|omega|(simp only [Yu,YQ,Xp];omega)) ob) ?_))
   rintro _ _ ⟨e6,p26,rfl,rfl,WE⟩
   have hgehp8:=WE.1
   refine Z9 17 (Wn 17 [] [] [ZE e5,ZE e6] (Yr [e5,e6]) (XE [e5,e6]).symm 2 3 ?_)
   intro v6
   refine ZZ 2 2 [] (.n 54 (X5 [e5,e6]) (.p .r)) (Z9 18 (Yv 18 [] [] [] (XG 13 0 [e5,e6]) (Z9 19 (YG 19 5 [] [] b2 (Yy (Z2.mk 13 0 [e5,e6])) (de ?_)))))
   exact ZV ⟨e5,e6,p26,_,(by assumption),(by assumption),rfl,rfl⟩ (wk [0,1,1,3] fl)
  rintro F h ⟨e3,e4,p24,p23,YX,Xv,rfl,rfl⟩
  have hgehp5:=YX.1
  have hgehp6:=Xv.1
  exact Zc (r3 [1,1] [ZE (Z2.mk 13 0 [e3,e4])] [0] [(b2,b2)] ⟨(Z2.mk 13 0 [e3,e4]),p24,rfl,rfl,⟨GE.let_ (by assumption) (by have h:=‹GE g (vs++[_]).length (bS (b / 2)) _›;rw [Yu] at h;exact h) hls,by omega⟩⟩ (lr _))
 refine ar (ir 2 [(0,.p rd 0),(2,Z0 vs),(3,.i t),(4,.i b),(6,.p b1 0),(10,.p b2 0),(22,.i k1),(56,.b (k1==3))] (ie (ac (k1==3) Zh (fun Xk=>?_) (fun Xk=>?_))))
 ·refine ar (Y0 5 (.n 58 (.p rd 0) (.n 59 (.agg (Y9 g gb)) (.n 60 (Z0 vs) (.n 61 (.i t) (.n 62 (.i t) .r))))) [2] [b1] (iL (Z8 [0,t,t]) 3 1 ?_))
  intro v7
  refine Z1 1 64 (.i b) (ia (((b-1:Nat):Int)) (((b:Int))-(1)) (Z6 0 (.n 63 (Z0 [0,t,t]) (.q 65 (.k (.p .r)))) (ic [1,3] (AL rd bs (p+1) g gb rs vs [0,t,t] (b-1) b (ZD:=ob) (hp:=(AU (p:=p) (by first|omega|simp) hb om om)) (ht:=(by first|omega|simp)) (hb:=om) (ih:=ih)) ?_)))
  rintro _ _ ⟨ys1,p27,rfl,rfl,WR⟩
  have hga1:=WR.1
  have hga2:=WR.2.1
  have hga3:=WR.2.2
  have hnc:=Jq (b:=b) (show (ys1).length<=3 by rw [hga1];first|omega|simp) hb (To _ (b-1))
  rw [hga1] at hnc
  refine Zz [] (XG 7 0 ys1) (ZG 3 b2 (Yy (Z2.mk 7 0 ys1)) (ie ?_))
  exact Zc (r3 [1,1] [ZE (Z2.mk 7 0 ys1)] [0] [(b2,b2)] ⟨(Z2.mk 7 0 ys1),p27,rfl,rfl,⟨GE.if_ om hga2 hga1 (CA (by simp) hb (To 3 _)),by omega⟩⟩ (lr _))
 refine aq (ar (Z1 2 68 (.b (k1==4)) (ie (XJ (fun F h=>F=[(0,.p rd 0),(2,Z0 vs),(3,.i t),(4,.i b),(6,.p b1 0),(10,.p b2 0),(22,.i k1),(68,.b ((k1==4)||((k1==5)||(k1==6))))]/\h=[.obj rd [Xb bs,.i (p+1:Nat)],.obj b2 [.i 0,.i 0,nl],.obj b1 (Y9 g gb),YI gb rs]) ?_ ?_))))
 ·refine ac (k1==4) Zh (fun Xl=>?_) (fun Xl=>?_)
  ·refine ak ?_
   exact ZV ⟨rfl,rfl⟩ (ZK 4 (fq (fw (fr (fc (x:=.b (k1==4)) (lb (by first|rfl|(rw [Zj Xl])|(rw [Za Xl])|(simp [Xl];done)|(rw [Xo];simp [Xl];done)|omega)) fl)))))
  refine ar (ir 2 [(0,.p rd 0),(2,Z0 vs),(3,.i t),(4,.i b),(6,.p b1 0),(10,.p b2 0),(22,.i k1),(68,.b (k1==5))] (ie (ac (k1==5) Zh (fun Vv=>?_) (fun Vv=>?_))))
  ·refine ak ?_
   exact ZV ⟨rfl,rfl⟩ (ZK 4 (fq (fw (fr (fc (x:=.b (k1==5)) (lb (by first|rfl|(rw [Zj Xl])|(rw [Za Xl])|(simp [Xl,Vv];done)|(rw [Xo];simp [Xl,Vv];done)|omega)) fl)))))
  refine az (Z6 2 (.n 68 (.b (k1==6)) (.w (.k (.k (.k .z))))) (ie ?_))
  exact ZV ⟨rfl,rfl⟩ (ZK 4 (fq (fw (fr (fc (x:=.b (k1==6)) (lb (by first|rfl|(rw [Zj Xl])|(rw [Za Xl])|(simp [Xl,Vv];done)|(rw [Xo];simp [Xl,Vv];done)|omega)) fl)))))
 rintro F h ⟨rfl,rfl⟩
 refine ac ((k1==4)||((k1==5)||(k1==6))) (p:=(k1=4)∨((k1=5)∨(k1=6))) (Yc Zh (Yc Zh Zh)) (fun Vq=>?_) (fun Vq=>?_)
 ·refine ar (iR 5 [(10,.p b2 0),(72,.p rd 0),(73,.agg (Y9 g gb)),(74,Z0 vs),(75,.i t),(76,.i b)] [2] [b1] (ic [0,2] (S5 rd bs (p+1) g gb rs vs t b (ZD:=ob) (ih:=ih)) ?_))
  rintro _ _ ⟨e7,p28,rfl,rfl,Uc⟩
  have hgm:=Uc.1
  refine ZG 2 b2 (Yy e7) (ie ?_)
  exact Zc (r3 [1,1] [ZE e7] [0] [(b2,b2)] ⟨e7,p28,rfl,rfl,⟨hgm,by omega⟩⟩ (lr _))
 refine aq (ar (ir 2 [(0,.p rd 0),(2,Z0 vs),(3,.i t),(4,.i b),(6,.p b1 0),(10,.p b2 0),(22,.i k1),(78,.b (k1==7))] (ie (XJ (fun F h=>F=[(0,.p rd 0),(2,Z0 vs),(3,.i t),(4,.i b),(6,.p b1 0),(10,.p b2 0),(78,.b ((k1==7)||(k1==8)))]/\h=[.obj rd [Xb bs,.i (p+1:Nat)],.obj b2 [.i 0,.i 0,nl],.obj b1 (Y9 g gb),YI gb rs]) ?_ ?_))))
 ·refine ac (k1==7) Zh (fun VH=>?_) (fun VH=>?_)
  ·refine ak ?_
   exact ZV ⟨rfl,rfl⟩ (ZK 4 (fq (fw (fc (x:=.b (k1==7)) (lb (by first|rfl|(rw [Zj VH])|(rw [Za VH])|(simp [VH];done)|(rw [Xo];simp [VH];done)|omega)) fl))))
  refine az (ir 2 [(0,.p rd 0),(2,Z0 vs),(3,.i t),(4,.i b),(6,.p b1 0),(10,.p b2 0),(78,.b (k1==8))] (ie ?_))
  exact ZV ⟨rfl,rfl⟩ (ZK 4 (fq (fw (fc (x:=.b (k1==8)) (lb (by first|rfl|(rw [Zj VH])|(rw [Za VH])|(simp [VH];done)|(rw [Xo];simp [VH];done)|omega)) fl))))
 rintro F h ⟨rfl,rfl⟩
 refine ac ((k1==7)||(k1==8)) (p:=(k1=7)∨(k1=8)) (Yc Zh Zh) (fun UG=>?_) (fun UG=>?_)
 ·refine ar (iR 2 [(0,.p rd 0),(2,Z0 vs),(3,.i t),(4,.i b),(6,.p b1 0),(10,.p b2 0),(81,.agg (Y9 g gb)),(82,.i t)] [2] [b1] (ic [3] (RL g gb rs t) ?_))
  rintro _ _ ⟨xs1,rfl,rfl,UH⟩
  have hcal:=UH
  refine Z1 1 12 (Z0 xs1) (ie (ar (Z1 1 84 (Z0 xs1) (iw (Yf xs1) (Z1 1 86 (.b (decide ((xs1.length:Int)>0))) (ie (ZT ((xs1.length:Int)>0) (fun K9=>?_) (fun K9=>?_))))))))
  ·refine ar (Z6 3 (.n 87 (Z0 xs1) (.n 88 (.p rd 0) (.n 89 (Z0 xs1) .r))) (iw (Yf xs1) (ic [1] (XP rd bs (p+1) (xs1.length:Int) (ZD:=ob)) ?_)))
   rintro _ _ ⟨k2,rfl,rfl,Uv⟩
   have qhp12:=Uv.lt om
   obtain ⟨x1,Z3⟩:=Zu (xs:=xs1) (j:=k2.toNat) om
   have hcv:=hcal.2 _ (Y7 Z3)
   refine Zq (Zn none k2 1 (Y4 Z3)) (Z1 2 13 (.i x1) (ie (aD 15 (Y5 8 15 [0,1,2,3,4,5,6] (.n 94 (.i x1) (.n 95 (.p rd 0) (.n 96 (.agg (Y9 g gb)) (.n 97 (Z0 vs) (.n 99 (.ms gb 0 g.funcs.length 4) (.n 100 (.i x1) .r)))))) [3,3] [b1,b1] ?_))))
   obtain ⟨x2,Zy⟩:=Zu (xs:=g.funcs) (j:=x1.toNat) om
   have hso:=(hg.sigs _ (Y7 Zy)).bd
   refine dx 7 (W5 gb g.funcs.length 4 x1.toNat 5 x1) (ZX 6 7 [8] 102 (.val (.pointer (some ⟨gb,x1.toNat * 5,none⟩))) (VP 9 (V0 1 gb 4 4 5 (x1.toNat * 5+0) (Zm (Xc rs)) [Z0 x2.params] 27 (Z0 x2.params) (U2 W8 Zy 0 rfl (WH rfl))) (ZX 4 5 [10] 104 (.i b) (da 11 (((b-1:Nat):Int)) (((b:Int))-(1)) (Z9 12 (dc 12 [0,0] [] [] (AL rd bs ((p+1)+1) g gb rs vs x2.params (b-1) b (ZD:=ob) (hp:=(AU (p:=p) (by first|omega|simp) hb om om)) (ht:=(by first|omega|simp)) (hb:=om) (ih:=ih)) ?_))))))
   rintro _ _ ⟨ys2,p29,rfl,rfl,Tt⟩
   have hga1:=Tt.1
   have hga2:=Tt.2.1
   have hga3:=Tt.2.2
   have hnc:=Jq (b:=b) (show (ys2).length<=3 by rw [hga1];first|omega|simp) hb (To _ (b-1))
   rw [hga1] at hnc
   refine Z9 13 (Yv 13 [] [] [] (XG 9 x1 ys2) (Z9 14 (YG 14 2 [] [] b2 (Yy (Z2.mk 9 x1 ys2)) (de ?_))))
   exact Zc (r3 [1,1] [ZE (Z2.mk 9 x1 ys2)] [0] [(b2,b2)] ⟨(Z2.mk 9 x1 ys2),p29,rfl,rfl,⟨GE.node om (fun _=>by omega) om hga2 hga1 (by first|omega|simp) (CA (by first|omega|simp) hb (To _ _)),by omega⟩⟩ (lr _))
  refine ak (ar (iR 5 [(10,.p b2 0),(108,.p rd 0),(109,.agg (Y9 g gb)),(110,Z0 vs),(111,.i t),(112,.i b)] [3] [b1] (ic [1,0] (IZ rd bs (p+1) g gb rs vs t b (ZD:=ob) (ih:=ih)) ?_)))
  rintro _ _ ⟨e8,p210,rfl,rfl,Ta⟩
  have hgm:=Ta.1
  refine ZG 2 b2 (Yy e8) (ie ?_)
  exact Zc (r3 [1,1] [ZE e8] [0] [(b2,b2)] ⟨e8,p210,rfl,rfl,⟨hgm,by omega⟩⟩ (lr _))
 refine ak (ar (iR 5 [(10,.p b2 0),(108,.p rd 0),(109,.agg (Y9 g gb)),(110,Z0 vs),(111,.i t),(112,.i b)] [2] [b1] (ic [0,2] (IZ rd bs (p+1) g gb rs vs t b (ZD:=ob) (ih:=ih)) ?_)))
 rintro _ _ ⟨e9,p211,rfl,rfl,QF⟩
 have hgm:=QF.1
 refine ZG 2 b2 (Yy e9) (ie ?_)
 exact Zc (r3 [1,1] [ZE e9] [0] [(b2,b2)] ⟨e9,p211,rfl,rfl,⟨hgm,by omega⟩⟩ (lr _))
theorem TX (rd:Nat) (bs:List Int) (p:Nat) (g:XV) (gb:Nat) (rs:List Func) (vs:List Int) (t:Int) (b:Nat) (ZD:∀z∈bs,0<=z/\z<=255) (hp:p+bC b<=1000000000:=by exact ob) (hg:GP g:=by exact ob) (W8:g.funcs <+: rs:=by exact ob) (hv:vs.length+3*b<=900:=by exact ob):Zk Tryz.prog 219 [.p rd 0,.agg (Y9 g gb),Z0 vs,.i t,.i b] [Yl rd bs p,YI gb rs] (fun r h=>∃(e:Z2) (p2:Nat),r=ZE e/\h=[Yl rd bs p2,YI gb rs]/\GE g vs.length (bS b) e/\p<=p2/\p2<=p+bC b):=by
 have key:∀k:Nat,∀(rd:Nat) (bs:List Int) (p:Nat) (vs:List Int) (t:Int) (b2:Nat),(∀z∈bs,0<=z/\z<=255)->(p+bC b2<=1000000000)->(vs.length+3*b2<=900)->(b2<k)->Zk Tryz.prog 219 [.p rd 0,.agg (Y9 g gb),Z0 vs,.i t,.i b2] [Yl rd bs p,YI gb rs] (fun r h=>∃(e:Z2) (p2:Nat),r=ZE e/\h=[Yl rd bs p2,YI gb rs]/\GE g vs.length (bS b2) e/\p<=p2/\p2<=p+bC b2):=by
  intro k
  induction k with
  | zero=>intro rd bs p vs t b2 h1 h2 h3 h4;omega
  | succ k ih=>intro rd bs p vs t b2 h1 h2 h3 h4;exact S6 rd bs p g gb rs vs t b2 h1 h2 hg W8 h3 fun rd bs p vs t b3 q1 q2 q3 q4=>ih rd bs p vs t b3 q1 q2 q3 om
 exact key (b+1) rd bs p vs t b ZD hp hv om
theorem IY (rd:Nat) (bs:List Int) (p:Nat) (g:XV) (gb:Nat) (rs:List Func) (vs:List Int) (t:Int) (b:Nat) (ZD:∀z∈bs,0<=z/\z<=255) (hp:p+40000<=1000000000:=by exact ob) (hg:GP g:=by exact ob) (W8:g.funcs <+: rs:=by exact ob) (hv:vs.length+3*b<=900:=by exact ob) (hb:b<=20:=by exact ob):Zk Tryz.prog 195 [.p rd 0,.agg (Y9 g gb),Z0 vs,.i t,.i b] [Yl rd bs p,YI gb rs] (fun r h=>∃(e:Z2) (p2:Nat),r=ZE e/\h=[Yl rd bs p2,YI gb rs]/\GE g vs.length 30 e/\p<=p2/\p2<=p+40000):=by
 have By:=Da hb
 refine ZL 34 Tryz.func195 (ar (iA (Y9 g gb) ?_))
 intro b1
 refine iA [.i 0,.i 0,nl] ?_
 intro b2
 refine ie (ar (iR 5 [(0,.p rd 0),(2,Z0 vs),(3,.i t),(4,.i b),(6,.p b1 0),(10,.p b2 0),(12,.p rd 0),(13,.agg (Y9 g gb)),(14,Z0 vs),(15,.i t),(16,.i b)] [1] [b1] (ic [2,2] (TX rd bs p g gb rs vs t b (ZD:=ob)) ?_)))
 rintro _ _ ⟨e1,p21,rfl,rfl,ZP⟩
 have X4:=ZP.1
 refine iA [.i 0,.i 0,nl] ?_
 intro b3
 refine ZG 0 b3 (Yy e1) (ie (aq (ab 0 (al (fun m F h=>∃(bq:Nat) (eQ:Z2) (pq:Nat),(GE g vs.length (bS bq) eQ)/\(bq<=b)/\(p<=pq/\pq+1900*bq<=p+1900*(b+1))/\F=[(0,.p rd 0),(2,Z0 vs),(3,.i t),(4,.i bq),(6,.p b1 0),(10,.p b2 0),(11,.p b3 0)]/\h=[.obj b3 (Yy eQ),Yl rd bs pq,YI gb rs,.obj b2 [.i 0,.i 0,nl],.obj b1 (Y9 g gb)]/\m=bq+1) _ _ _ ⟨b,e1,p21,X4,ob,ob,rfl,rfl,rfl⟩ (ZK 5 fl) ?_))))
 rintro m F h ⟨bq,eQ,pq,Yo,Zp,ZA,rfl,rfl,rfl⟩
 refine aq (ar (Yn 1 18 (ZE eQ) [0] [b3] (ic [] (L8 eQ (hz:=(by have h1:=Yo.2;have h2:=(Da (b:=bq) om).1;omega))) ?_)))
 rintro _ _ ⟨w1,rfl,rfl,Y1⟩
 have Ga:=Y1
 have hq20:=Da (b:=bq) om
 have hq21:=Da (b:=bq / 2) om
 have XA:=Yo.2
 refine Xm [(0,.p rd 0),(2,Z0 vs),(3,.i t),(4,.i bq),(6,.p b1 0),(10,.p b2 0),(11,.p b3 0),(24,.b ((decide (w1<0))&&(decide ((bq:Int)>2))))] [.obj b3 (Yy eQ),Yl rd bs pq,YI gb rs,.obj b2 [.i 0,.i 0,nl],.obj b1 (Y9 g gb)] ?_ ?_
 ·refine ir 2 [(0,.p rd 0),(2,Z0 vs),(3,.i t),(4,.i bq),(6,.p b1 0),(10,.p b2 0),(11,.p b3 0),(21,.b (decide (w1<0)))] (ib (b:=(decide (w1<0))) 21 (fun Zb=>?_) (fun Zb=>?_))
  ·have YB:w1<0:=(dq).1 Zb
   refine Z6 3 (.n 24 (.b (decide ((bq:Int)>2))) (.d (.w (.k (.k (.k .z)))))) (ie ?_)
   exact ZK 5 (fq (fw (fr (Zs (decide ((bq:Int)>2)) Zb fl))))
  have YM:¬(w1<0):=ZF dq Zb
  refine Z6 3 (.n 24 (.b false) (.d (.w (.k (.k (.k .z)))))) (ie ?_)
  exact ZK 5 (fq (fw (fr (Zs false Zb fl))))
 refine ac ((decide (w1<0))&&(decide ((bq:Int)>2))) (p:=(w1<0)/\((bq:Int)>2)) (YF dq dq) (fun Ze=>?_) (fun Ze=>?_)
 ·refine ak (ab 1 (ar (ir 1 [(0,.p rd 0),(2,Z0 vs),(3,.i t),(6,.p b1 0),(10,.p b2 0),(11,.p b3 0),(25,.i bq)] (Zq (AS bq 2 om om) (Z1 1 4 (.i (bq / 2:Nat)) (ie (az (Y0 5 (.n 27 (.p rd 0) (.n 28 (.agg (Y9 g gb)) (.n 29 (Z0 vs) (.n 30 (.i t) (.n 31 (.i (bq / 2:Nat)) .r))))) [4] [b1] (ic [1,1] (TX rd bs pq g gb rs vs t (bq / 2) (ZD:=ob)) ?_)))))))))
  rintro _ _ ⟨e2,p22,rfl,rfl,YX⟩
  have X4:=YX.1
  refine ZG 2 b3 (Yy e2) (ie ?_)
  exact ZU ⟨(bq / 2),e2,p22,X4,ob,ob,rfl,rfl,rfl⟩ (ZK 5 (fw (fr (fc (x:=.i (bq / 2:Nat)) li fl))))
 refine ax 0 (ar (iR 1 [(10,.p b2 0),(33,ZE eQ)] [0] [b3] (ZG 3 b2 (Yy eQ) (ie ?_))))
 exact Zc (r3 [2,2] [ZE eQ] [0] [(b2,b2)] ⟨eQ,pq,rfl,rfl,⟨⟨Yo.1,by omega⟩,by omega⟩⟩ (lr _))
theorem Sl (rd:Nat) (bs:List Int) (p:Nat) (t:Int) (ZD:∀z∈bs,0<=z/\z<=255) (hp:p+14<=1000000000:=by exact ob):Zk Tryz.prog 221 [.p rd 0,.i t] [Yl rd bs p] (fun r h=>∃(e:Z2) (p2:Nat),r=ZE e/\h=[Yl rd bs p2]/\(∀g:XV,SE g 9 e)/\p<=p2/\p2<=p+14):=by
 refine ZL 45 Tryz.func221 (ar (iA [.i 0,.i 0,nl] ?_))
 intro b1
 refine ie (ar (iL (Yr []) 0 3 ?_))
 intro v1
 refine ir 0 [(0,.p rd 0),(1,.i t),(4,.p b1 0),(10,X5 [])] (Zz [] (XG 6 0 []) (iA [.i 0,.i 0,nl] ?_))
 intro b2
 refine ZG 0 b2 (Yy (Z2.mk 6 0 [])) (ie (aq (ar (Z1 2 13 (.b (t==3)) (ie (ac (t==3) Zh (fun Ze=>?_) (fun Ze=>?_)))))))
 ·refine ar (iL (Yr []) 0 3 ?_)
  intro v2
  refine Z6 0 (.n 14 (X5 []) (.p .r)) (Zz [] (XG 6 2 []) (iA [.i 0,.i 0,nl] ?_))
  intro b3
  refine ZG 0 b3 (Yy (Z2.mk 6 2 [])) (ie (aD 9 (Y5 6 9 [0,1,4] (.n 16 (ZE (Z2.mk 6 2 [])) (.n 17 (.p rd 0) (.n 20 (ZE (Z2.mk 6 2 [])) .r))) [0,0] [b3,b3] (dK (fun F h=>∃(k1:Int) (b4:Nat),(Pk 9 k1)/\F=[(0,.p rd 0),(4,.p b1 0),(6,.p b3 0),(7,.p b4 0)]/\h=[.obj b4 (Yy (Z2.mk 6 3 [Z2.mk 6 2 [],Z2.mk 0 k1 [],Z2.mk 6 2 []])),.obj rd [Xb bs,.i (p+1:Nat)],.obj b3 (Yy (Z2.mk 6 2 [])),.tail v2 3,.obj b2 (Yy (Z2.mk 6 0 [])),.tail v1 3,.obj b1 [.i 0,.i 0,nl]]) ?_ ?_))))
  ·refine Vk 2 7 ?_ ?_
   ·refine dc 2 [5] [0,0] [b3,b3] (XP rd bs p 9 (ZD:=ob)) ?_
    rintro _ _ ⟨k1,rfl,rfl,ZP⟩
    have qhp1:=ZP.lt om
    refine Vk 3 7 ?_ ?_
    ·refine Yv 3 [] [1,1] [b3,b3] (Je k1) (Vk 5 7 ?_ ?_)
     ·refine Wn 5 [] [] [ZE (Z2.mk 6 2 []),ZE (Z2.mk 0 k1 []),ZE (Z2.mk 6 2 [])] (Yr [Z2.mk 6 2 [],Z2.mk 0 k1 [],Z2.mk 6 2 []]) (XE [Z2.mk 6 2 [],Z2.mk 0 k1 [],Z2.mk 6 2 []]).symm 3 3 ?_
      intro v3
      refine Xd 3 3 [] [(0,.p rd 0),(4,.p b1 0),(6,.p b3 0),(21,X5 [Z2.mk 6 2 [],Z2.mk 0 k1 [],Z2.mk 6 2 []])] (Vk 6 7 ?_ ?_)
      ·refine Yv 6 [] [] [] (XG 6 3 [Z2.mk 6 2 [],Z2.mk 0 k1 [],Z2.mk 6 2 []]) (Z9 7 (dA 7 [] [] [.i 0,.i 0,nl] ?_))
       intro b4
       refine Z9 8 (YG 8 0 [] [] b4 (Yy (Z2.mk 6 3 [Z2.mk 6 2 [],Z2.mk 0 k1 [],Z2.mk 6 2 []])) (de ?_))
       exact ZV ⟨k1,b4,(by assumption),rfl,rfl⟩ (wk [0,1,1,1,1,1,1] fl)
      refine dA 7 [] [] [.i 0,.i 0,nl] ?_
      intro b5
      refine Z9 6 (Yv 6 [] [] [] (XG 6 3 [Z2.mk 6 2 [],Z2.mk 0 k1 [],Z2.mk 6 2 []]) (Z9 8 (YG 8 0 [] [] b5 (Yy (Z2.mk 6 3 [Z2.mk 6 2 [],Z2.mk 0 k1 [],Z2.mk 6 2 []])) (de ?_))))
      exact ZV ⟨k1,b5,(by assumption),rfl,rfl⟩ (wk [0,1,1,1,1,1,1] fl)
     refine dA 7 [1,1] [b3,b3] [.i 0,.i 0,nl] ?_
     intro b6
     refine Z9 5 (Wn 5 [] [] [ZE (Z2.mk 6 2 []),ZE (Z2.mk 0 k1 []),ZE (Z2.mk 6 2 [])] (Yr [Z2.mk 6 2 [],Z2.mk 0 k1 [],Z2.mk 6 2 []]) (XE [Z2.mk 6 2 [],Z2.mk 0 k1 [],Z2.mk 6 2 []]).symm 3 3 ?_)
     intro v4
     refine Xd 2 2 [] [(0,.p rd 0),(4,.p b1 0),(6,.p b3 0),(7,.p b6 0),(21,X5 [Z2.mk 6 2 [],Z2.mk 0 k1 [],Z2.mk 6 2 []])] (Z9 6 (Yv 6 [] [] [] (XG 6 3 [Z2.mk 6 2 [],Z2.mk 0 k1 [],Z2.mk 6 2 []]) (Z9 8 (YG 8 1 [] [] b6 (Yy (Z2.mk 6 3 [Z2.mk 6 2 [],Z2.mk 0 k1 [],Z2.mk 6 2 []])) (de ?_)))))
     exact ZV ⟨k1,b6,(by assumption),rfl,rfl⟩ (wk [0,1,1,1,1,1,1] fl)
    refine dA 7 [1,1] [b3,b3] [.i 0,.i 0,nl] ?_
    intro b7
    refine Z9 3 (Yv 3 [] [2,2] [b3,b3] (Je k1) (Z9 5 (Wn 5 [] [] [ZE (Z2.mk 6 2 []),ZE (Z2.mk 0 k1 []),ZE (Z2.mk 6 2 [])] (Yr [Z2.mk 6 2 [],Z2.mk 0 k1 [],Z2.mk 6 2 []]) (XE [Z2.mk 6 2 [],Z2.mk 0 k1 [],Z2.mk 6 2 []]).symm 3 3 ?_)))
    intro v5
    refine Xd 2 2 [] [(0,.p rd 0),(4,.p b1 0),(6,.p b3 0),(7,.p b7 0),(21,X5 [Z2.mk 6 2 [],Z2.mk 0 k1 [],Z2.mk 6 2 []])] (Z9 6 (Yv 6 [] [] [] (XG 6 3 [Z2.mk 6 2 [],Z2.mk 0 k1 [],Z2.mk 6 2 []]) (Z9 8 (YG 8 1 [] [] b7 (Yy (Z2.mk 6 3 [Z2.mk 6 2 [],Z2.mk 0 k1 [],Z2.mk 6 2 []])) (de ?_)))))
    exact ZV ⟨k1,b7,(by assumption),rfl,rfl⟩ (wk [0,1,1,1,1,1,1] fl)
   refine dA 7 [0,0] [b3,b3] [.i 0,.i 0,nl] ?_
   intro b8
   refine Z9 2 (dc 2 [6] [1,1] [b3,b3] (XP rd bs p 9 (ZD:=ob)) ?_)
   rintro _ _ ⟨k2,rfl,rfl,Y1⟩
   have qhp2:=Y1.lt om
   refine Z9 3 (Yv 3 [] [2,2] [b3,b3] (Je k2) (Z9 5 (Wn 5 [] [] [ZE (Z2.mk 6 2 []),ZE (Z2.mk 0 k2 []),ZE (Z2.mk 6 2 [])] (Yr [Z2.mk 6 2 [],Z2.mk 0 k2 [],Z2.mk 6 2 []]) (XE [Z2.mk 6 2 [],Z2.mk 0 k2 [],Z2.mk 6 2 []]).symm 3 3 ?_)))
   intro v6
   refine Xd 2 2 [] [(0,.p rd 0),(4,.p b1 0),(6,.p b3 0),(7,.p b8 0),(21,X5 [Z2.mk 6 2 [],Z2.mk 0 k2 [],Z2.mk 6 2 []])] (Z9 6 (Yv 6 [] [] [] (XG 6 3 [Z2.mk 6 2 [],Z2.mk 0 k2 [],Z2.mk 6 2 []]) (Z9 8 (YG 8 2 [] [] b8 (Yy (Z2.mk 6 3 [Z2.mk 6 2 [],Z2.mk 0 k2 [],Z2.mk 6 2 []])) (de ?_)))))
   exact ZV ⟨k2,b8,(by assumption),rfl,rfl⟩ (wk [0,1,1,1,1,1,1] fl)
  rintro F h ⟨k1,b4,ZP,rfl,rfl⟩
  have qhp1:=ZP.lt om
  refine aD 8 (W2 5 8 [0,1,4] [(4,.p b1 0),(23,ZE (Z2.mk 6 3 [Z2.mk 6 2 [],Z2.mk 0 k1 [],Z2.mk 6 2 []])),(24,.p rd 0),(27,ZE (Z2.mk 6 2 []))] [0,2] [b4,b3] (Z9 2 (dc 2 [1] [1,0] [b3,b4] (XP rd bs (p+1) 9 (ZD:=ob)) ?_)))
  rintro _ _ ⟨k3,rfl,rfl,YB⟩
  have qhp3:=YB.lt om
  refine Z9 3 (Yv 3 [] [2,1] [b3,b4] (Je k3) (Z9 5 (Wn 5 [] [] [ZE (Z2.mk 6 3 [Z2.mk 6 2 [],Z2.mk 0 k1 [],Z2.mk 6 2 []]),ZE (Z2.mk 0 k3 []),ZE (Z2.mk 6 2 [])] (Yr [Z2.mk 6 3 [Z2.mk 6 2 [],Z2.mk 0 k1 [],Z2.mk 6 2 []],Z2.mk 0 k3 [],Z2.mk 6 2 []]) (XE [Z2.mk 6 3 [Z2.mk 6 2 [],Z2.mk 0 k1 [],Z2.mk 6 2 []],Z2.mk 0 k3 [],Z2.mk 6 2 []]).symm 3 3 ?_)))
  intro v7
  refine ZZ 2 2 [] (.n 28 (X5 [Z2.mk 6 3 [Z2.mk 6 2 [],Z2.mk 0 k1 [],Z2.mk 6 2 []],Z2.mk 0 k3 [],Z2.mk 6 2 []]) (.p .r)) (Z9 6 (Yv 6 [] [] [] (XG 6 3 [Z2.mk 6 3 [Z2.mk 6 2 [],Z2.mk 0 k1 [],Z2.mk 6 2 []],Z2.mk 0 k3 [],Z2.mk 6 2 []]) (Z9 7 (YG 7 7 [] [] b1 (Yy (Z2.mk 6 3 [Z2.mk 6 3 [Z2.mk 6 2 [],Z2.mk 0 k1 [],Z2.mk 6 2 []],Z2.mk 0 k3 [],Z2.mk 6 2 []])) (de ?_)))))
  exact Zc (r3 [2] [ZE (Z2.mk 6 3 [Z2.mk 6 3 [Z2.mk 6 2 [],Z2.mk 0 k1 [],Z2.mk 6 2 []],Z2.mk 0 k3 [],Z2.mk 6 2 []])] [0] [(b1,b1)] ⟨(Z2.mk 6 3 [Z2.mk 6 3 [Z2.mk 6 2 [],Z2.mk 0 k1 [],Z2.mk 6 2 []],Z2.mk 0 k3 [],Z2.mk 6 2 []]),(p+1)+1,rfl,rfl,⟨fun g=>SE.three (s1:=4) (s2:=1) (s3:=1) om om (SE.three (s1:=1) (s2:=1) (s3:=1) om om (SE.nil om om om) (SE.int om om) (SE.nil om om om) om) (SE.int om om) (SE.nil om om om) om,by omega⟩⟩ (lr _))
 refine ak (ar (Yn 1 30 (ZE (Z2.mk 6 0 [])) [0] [b2] (iA [.i 0,.i 0,nl] ?_)))
 intro b9
 refine ZG 0 b9 (Yy (Z2.mk 6 0 [])) (ie (aq (ar (Z1 1 31 (.p rd 0) (ic [4] (XP rd bs p 3 (ZD:=ob)) ?_)))))
 rintro _ _ ⟨k4,rfl,rfl,YM⟩
 have qhp4:=YM.lt om
 refine ia ((1+k4)) ((1)+(k4)) (Z1 1 9 (.i (1+k4)) (ie (ab 0 (al (fun m F h=>∃(j:Int) (eQ:Z2) (pq:Nat),(0<=j/\j<=3)/\(∀g:XV,SE g (7-2*j.toNat) eQ)/\(p+1<=pq/\pq+4*j.toNat<=p+13)/\F=[(0,.p rd 0),(4,.p b1 0),(8,.p b9 0),(9,.i j)]/\h=[Yl rd bs pq,.obj b9 (Yy eQ),.obj b1 [.i 0,.i 0,nl]]/\m=j.toNat) _ _ _ ⟨(1+k4),(Z2.mk 6 0 []),p+1,ob,(fun g=>SE.nil om om om),ob,rfl,rfl,rfl⟩ (wk [0,0,2] fl) ?_))))
 rintro m F h ⟨j,eQ,pq,Yo,Zp,ZA,rfl,rfl,rfl⟩
 refine aq (ar (Z1 2 35 (.b (decide (j>0))) (ie (ZT (j>0) (fun Zl=>?_) (fun Zl=>?_)))))
 ·refine ak (aq (ab 1 (aE 7 (Y5 5 7 [0,3] (.n 38 (.p rd 0) (.n 41 (ZE eQ) .r)) [1] [b9] (Z9 1 (dc 1 [0] [0] [b9] (Lb rd bs pq (ZD:=ob)) ?_))))))
  rintro _ _ ⟨z1,rfl,rfl,YX⟩
  have hz:=YX
  refine Z9 2 (Yv 2 [] [1] [b9] (Je z1) (Z9 4 (Wn 4 [] [] [ZE (Z2.mk 0 z1 []),ZE eQ] (Yr [Z2.mk 0 z1 [],eQ]) (XE [Z2.mk 0 z1 [],eQ]).symm 2 3 ?_)))
  intro v8
  refine ZZ 2 2 [] (.n 42 (X5 [Z2.mk 0 z1 [],eQ]) (.p .r)) (Z9 5 (Yv 5 [] [] [] (XG 6 1 [Z2.mk 0 z1 [],eQ]) (Z9 6 (YG 6 2 [] [] b9 (Yy (Z2.mk 6 1 [Z2.mk 0 z1 [],eQ])) (de (az (Z1 1 36 (.i j) (ia ((j-1)) ((j)-(1)) (ir 1 [(0,.p rd 0),(4,.p b1 0),(8,.p b9 0),(9,.i (j-1))] (ie ?_))))))))))
  exact ZU ⟨(j-1),(Z2.mk 6 1 [Z2.mk 0 z1 [],eQ]),pq+4,ob,(fun g=>SE.two om om (SE.int (q:=1) om om) (Zp g) om),ob,rfl,rfl,rfl⟩ (wk [2,0,1] fl)
 refine ax 0 (ar (Yn 1 44 (ZE eQ) [1] [b9] (ZG 2 b1 (Yy eQ) (ie ?_))))
 exact Zc (r3 [1] [ZE eQ] [0] [(b1,b1)] ⟨eQ,pq,rfl,rfl,⟨fun g=>(⟨(Zp g).1,by have:=(Zp g).2;omega⟩:SE g 9 _),by omega⟩⟩ (lr _))
theorem So (rd:Nat) (bs:List Int) (p:Nat) (g:XV) (gb:Nat) (rs:List Func) (ZD:∀z∈bs,0<=z/\z<=255) (hp:p+1600<=1000000000:=by exact ob) (hg:GP g:=by exact ob) (W8:g.funcs <+: rs:=by exact ob):Zk Tryz.prog 191 [.p rd 0,.agg (Y9 g gb)] [Yl rd bs p,YI gb rs] (fun r h=>∃(e:Z2) (p2:Nat),r=ZE e/\h=[Yl rd bs p2,YI gb rs]/\GE g 0 200 e/\p<=p2/\p2<=p+1600):=by
 have hbv:=C0
 refine ZL 27 Tryz.func191 (ar (iA (Y9 g gb) ?_))
 intro b1
 refine iA [.i 0,.i 0,nl] ?_
 intro b2
 refine ie (ar (ir 1 [(0,.p rd 0),(3,.p b1 0),(4,.p b2 0),(7,.p rd 0)] (iL (Z8 [1,1,3]) 3 1 ?_)))
 intro v1
 refine Z6 0 (.n 8 (Z0 [1,1,3]) (.p .r)) (ic [3] (Vu rd bs p [1,1,3] (ZD:=ob)) ?_)
 rintro _ _ ⟨z1,rfl,rfl,ZP⟩
 have hz:=Ab (a:=1) (b:=3) ZP (by decide)
 refine Z1 1 5 (.i z1) (ie (ar (Y0 3 (.n 10 (.p rd 0) (.n 11 (.agg (Y9 g gb)) (.n 12 (.i z1) .r))) [3] [b1] (iL (Z8 [z1]) 1 1 ?_))))
 intro v2
 refine Z6 0 (.n 13 (Z0 [z1]) (.p .r)) (ic [1,4] (TX rd bs (p+1) g gb rs [z1] 0 16 (ZD:=ob) (hv:=(by simp))) ?_)
 rintro _ _ ⟨e1,p21,rfl,rfl,Y1⟩
 have X4:=Y1.1
 have TY:=Y1.2
 rw [hbv.2.2.2.1] at X4
 refine iA [.i 0,.i 0,nl] ?_
 intro b3
 refine ZG 0 b3 (Yy e1) (ie (aq (ar (Z1 1 15 (.p rd 0) (ic [1] (XP rd bs p21 3 (ZD:=ob)) ?_)))))
 rintro _ _ ⟨k1,rfl,rfl,YB⟩
 have qhp3:=YB.lt om
 refine Z1 1 17 (.b (k1==0)) (ie (XJ (fun F h=>∃(eQ:Z2),(GE g 1 151 eQ)/\F=[(0,.p rd 0),(4,.p b2 0),(5,.i z1),(6,.p b3 0)]/\h=[.obj rd [Xb bs,.i (p21+1:Nat)],.obj b3 (Yy eQ),YI gb rs,.obj b2 [.i 0,.i 0,nl]]) ?_ ?_))
 ·refine ac (k1==0) Zh (fun Ze=>?_) (fun Ze=>?_)
  ·refine az (iR 1 [(0,.p rd 0),(4,.p b2 0),(5,.i z1),(6,.p b3 0),(18,ZE e1)] [1] [b3] (VR [ZE e1] (Yr [e1]) (XE [e1]).symm 1 3 ?_))
   intro v3
   refine Z6 0 (.n 19 (X5 [e1]) (.p .r)) (Zz [] (XG 5 0 [e1]) (ZG 2 b3 (Yy (Z2.mk 5 0 [e1])) (ie ?_)))
   exact ZV ⟨(Z2.mk 5 0 [e1]),(GE.one om om X4 om),rfl,rfl⟩ (wk [2,0,1,3] fl)
  refine ak ?_
  exact ZV ⟨e1,(GE.le X4 om),rfl,rfl⟩ (wk [0,0,0,2] fl)
 rintro F h ⟨eQ,QI,rfl,rfl⟩
 refine aD 7 (W2 4 7 [0,1,3] [(4,.p b2 0),(21,.p rd 0),(22,.i z1),(24,ZE eQ)] [1] [b3] (Z9 2 (dc 2 [0] [0] [b3] (Sl rd bs (p21+1) z1 (ZD:=ob)) ?_)))
 rintro _ _ ⟨e2,p22,rfl,rfl,YM⟩
 have hli:=YM.1
 refine Z9 4 (Wn 4 [] [] [ZE e2,ZE eQ] (Yr [e2,eQ]) (XE [e2,eQ]).symm 2 3 ?_)
 intro v4
 refine ZZ 2 2 [] (.n 25 (X5 [e2,eQ]) (.p .r)) (Z9 5 (Yv 5 [] [] [] (XG 13 0 [e2,eQ]) (Z9 6 (YG 6 4 [] [] b2 (Yy (Z2.mk 13 0 [e2,eQ])) (de ?_)))))
 exact Zc (r3 [2,3] [ZE (Z2.mk 13 0 [e2,eQ])] [0] [(b2,b2)] ⟨(Z2.mk 13 0 [e2,eQ]),p22,rfl,rfl,⟨GE.letS ((hli g).ge (Xa _)) QI om,by omega⟩⟩ (lr _))
theorem Sw (rd:Nat) (bs:List Int) (p:Nat) (g:XV) (gb:Nat) (rs:List Func) (f:Func) (i:Int) (w:Int) (ZD:∀z∈bs,0<=z/\z<=255) (hp:p+1000<=1000000000:=by exact ob) (hg:GP g:=by exact ob) (W8:g.funcs <+: rs:=by exact ob) (hi:0<=i:=by exact ob) (hf:g.funcs[i.toNat]? = some f:=by exact ob) (hw:0<=w/\w<f.params.length:=by exact ob):Zk Tryz.prog 192 [.p rd 0,.agg (Y9 g gb),.i i,.i w] [Yl rd bs p,YI gb rs] (fun r h=>∃(e:Z2) (p2:Nat),r=ZE e/\h=[Yl rd bs p2,YI gb rs]/\GE g f.params.length 200 e/\p<=p2/\p2<=p+1000):=by
 obtain ⟨hil,_⟩:=XM.1 hf
 have hgl:=hg.len
 have hso:=(hg.sigs f (Y7 hf)).bd
 have hbv:=C0
 refine ZL 136 Tryz.func192 (ar (iA (Y9 g gb) ?_))
 intro b1
 refine iA [.i 0,.i 0,nl] ?_
 intro b2
 refine ie (ar (iR 3 [(0,.p rd 0),(2,.i i),(3,.i w),(5,.p b1 0),(8,.p b2 0),(18,.ms gb 0 g.funcs.length 4),(19,.i i)] [1] [b1] (Zq (W5 gb g.funcs.length 4 i.toNat 5 i) (Z1 1 21 (.val (.pointer (some ⟨gb,i.toNat * 5,none⟩))) (VO (V0 3 gb 4 4 5 (i.toNat * 5+0) (Zm (Xc rs)) [Z0 f.params] 27 (Z0 f.params) (U2 W8 hf 0 rfl (WH rfl))) (Z1 1 9 (Z0 f.params) (ie (ar (Z1 1 23 (Z0 f.params) (iw (Yf f.params) (Z1 1 10 (.i f.params.length) (ie (ar (Z1 1 25 (Z0 f.params) (iL (Z8 [0,1]) 2 1 ?_)))))))))))))))
 intro v1
 refine Z6 0 (.n 26 (Z0 [0,1]) (.p .r)) (ic [] (Q5 f.params [0,1]) ?_)
 rintro _ _ ⟨v2,rfl,rfl⟩
 refine Z1 1 11 (Z7 (f.params++[0,1]) v2) (ie (ar (iL (Yr []) 0 3 ?_)))
 intro v3
 refine Z1 1 12 (XR [] v3) (ie (aq (ar (Z1 1 13 (.i 0) (ie (ab 0 (al (fun m F h=>∃(k:Nat) (ys:List Z2) (u:Value) (pq:Nat),(k<=f.params.length)/\(ys.length=k)/\(∀e∈ys,GE g (f.params.length+2) 3 e)/\(p<=pq/\pq<=p+k)/\F=[(0,.p rd 0),(2,.i i),(3,.i w),(5,.p b1 0),(8,.p b2 0),(9,Z0 f.params),(10,.i f.params.length),(11,Z0 (f.params++[0,1])),(12,XR ys u),(13,.i k)]/\h=[.obj b2 [.i 0,.i 0,nl],.obj b1 (Y9 g gb),Yl rd bs pq,YI gb rs,.tail u 3]/\m=f.params.length-k) _ _ _ ⟨0,[],v3,p,ob,ob,(fun e he=>by cases he),ob,rfl,rfl,rfl⟩ (wk [3,3,3,3,0] (fq (fw (fr (fc (x:=Z7 (f.params++[0,1]) v2) (Zg.forget _ _) (fr (Yh fl))))))) ?_)))))))
 rintro m F h ⟨k,ys,u,pq,Yo,Zp,ZA,YJ,rfl,rfl,rfl⟩
 refine aq (ar (Z1 3 31 (.b (decide ((k:Int)<(f.params.length:Int)))) (ie (ZT ((k:Int)<(f.params.length:Int)) (fun Ze=>?_) (fun Ze=>?_)))))
 ·refine ak (aq (ab 1 (ar (Z1 3 36 (.b ((k:Int)==w)) (ie (ac ((k:Int)==w) Zh (fun Zl=>?_) (fun Zl=>?_)))))))
  ·refine az (Yq 2 37 (XR ys u) 38 (.i f.params.length) (ia (((f.params.length+1:Nat):Int)) (((f.params.length:Int))+(1)) (Zz [] (Ts ((f.params.length+1:Nat):Int)) (VR [ZE (Z2.mk 12 ((f.params.length+1:Nat):Int) [])] (Yr [(Z2.mk 12 ((f.params.length+1:Nat):Int) [])]) (XE [(Z2.mk 12 ((f.params.length+1:Nat):Int) [])]).symm 1 3 ?_))))
   intro v4
   refine Z6 0 (.n 41 (X5 [(Z2.mk 12 ((f.params.length+1:Nat):Int) [])]) (.p .r)) (ip 5 (Yr (ys++[(Z2.mk 12 ((f.params.length+1:Nat):Int) [])])) (Yr ys) (Yr [(Z2.mk 12 ((f.params.length+1:Nat):Int) [])]) u none 3 (Uq _) (Uq _) (Kw _) (by simp<;>omega) (by simp [Kv,Yr]) ?_)
   intro v5
   refine Z6 1 (.n 12 (XR (ys++[(Z2.mk 12 ((f.params.length+1:Nat):Int) [])]) v5) (.p (.d (.p (.p (.d (.d (.d (.d (.w (.w (.d .r)))))))))))) (ie (az (Z1 1 32 (.i k) (ZO k (Z6 1 (.n 13 (.i (k+1:Nat)) (.p (.d (.w (.w (.k .z)))))) (ie ?_))))))
   exact ZU ⟨k+1,(ys++[(Z2.mk 12 ((f.params.length+1:Nat):Int) [])]),v5,pq,ob,ob,(Xr ZA (GE.var om om om)),ob,rfl,rfl,rfl⟩ (wk [2,2,2,2,0] (fq (fq (fr (ZW k fl)))))
  refine aq (XJ (fun F h=>∃(wb:Bool) (p5:Nat),(pq<=p5/\p5<=pq+1)/\F=[(0,.p rd 0),(2,.i i),(3,.i w),(5,.p b1 0),(8,.p b2 0),(9,Z0 f.params),(10,.i f.params.length),(11,Z0 (f.params++[0,1])),(12,XR ys u),(13,.i k),(52,.b wb)]/\h=[.obj b2 [.i 0,.i 0,nl],.obj b1 (Y9 g gb),Yl rd bs p5,YI gb rs,.tail u 3]) ?_ ?_)
  ·refine az (ir 2 [(0,.p rd 0),(2,.i i),(3,.i w),(5,.p b1 0),(8,.p b2 0),(9,Z0 f.params),(10,.i f.params.length),(11,Z0 (f.params++[0,1])),(12,XR ys u),(13,.i k),(43,Z0 f.params),(44,.i k)] ?_)
   obtain ⟨x1,Z3⟩:=Zu (xs:=f.params) (j:=k) om
   refine Zq (Zn none (k:Int) 1 (Y4 Z3)) (Z1 3 48 (.b (x1==0)) (ib (b:=(x1==0)) 48 (fun Zb=>?_) (fun Zb=>?_)))
   ·have ZP:x1=0:=(Zh).1 Zb
    refine Z6 1 (.n 49 (.p rd 0) (.k (.d .r))) (ic [2] (XP rd bs pq 2 (ZD:=ob)) ?_)
    rintro _ _ ⟨k1,rfl,rfl,Y1⟩
    have qhp2:=Y1.lt om
    refine Z1 2 52 (.b (k1==0)) (ie ?_)
    exact ZV ⟨(k1==0),pq+1,om,rfl,rfl⟩ (wk [1,1,0,0,0] fl)
   have YB:¬(x1=0):=ZF Zh Zb
   refine Z6 4 (.n 52 (.b false) (.k (.d .r))) (ie ?_)
   exact ZV ⟨false,pq,ob,rfl,rfl⟩ (ZK 5 fl)
  rintro F h ⟨wb,p5,kR10_0,rfl,rfl⟩
  refine ac wb Iff.rfl (fun ZI=>?_) (fun ZI=>?_)
  ·refine az (ir 2 [(0,.p rd 0),(2,.i i),(3,.i w),(5,.p b1 0),(8,.p b2 0),(9,Z0 f.params),(10,.i f.params.length),(11,Z0 (f.params++[0,1])),(13,.i k),(53,XR ys u),(54,.i k)] (Zz [] (Ts (k:Int)) (Z1 1 56 (.i f.params.length) (Zz [] (Ts (f.params.length:Int)) (VR [ZE (Z2.mk 12 (k:Int) []),ZE (Z2.mk 12 (f.params.length:Int) [])] (Yr [(Z2.mk 12 (k:Int) []),(Z2.mk 12 (f.params.length:Int) [])]) (XE [(Z2.mk 12 (k:Int) []),(Z2.mk 12 (f.params.length:Int) [])]).symm 2 3 ?_)))))
   intro v6
   refine Z6 0 (.n 58 (X5 [(Z2.mk 12 (k:Int) []),(Z2.mk 12 (f.params.length:Int) [])]) (.p .r)) (Zz [] (XG 1 0 [(Z2.mk 12 (k:Int) []),(Z2.mk 12 (f.params.length:Int) [])]) (VR [ZE (Z2.mk 1 0 [(Z2.mk 12 (k:Int) []),(Z2.mk 12 (f.params.length:Int) [])])] (Yr [(Z2.mk 1 0 [(Z2.mk 12 (k:Int) []),(Z2.mk 12 (f.params.length:Int) [])])]) (XE [(Z2.mk 1 0 [(Z2.mk 12 (k:Int) []),(Z2.mk 12 (f.params.length:Int) [])])]).symm 1 3 ?_))
   intro v7
   refine Z6 0 (.n 60 (X5 [(Z2.mk 1 0 [(Z2.mk 12 (k:Int) []),(Z2.mk 12 (f.params.length:Int) [])])]) (.p .r)) (ip 6 (Yr (ys++[(Z2.mk 1 0 [(Z2.mk 12 (k:Int) []),(Z2.mk 12 (f.params.length:Int) [])])])) (Yr ys) (Yr [(Z2.mk 1 0 [(Z2.mk 12 (k:Int) []),(Z2.mk 12 (f.params.length:Int) [])])]) u none 3 (Uq _) (Uq _) (Kw _) (by simp<;>omega) (by simp [Kv,Yr]) ?_)
   intro v8
   refine Z1 1 12 (XR (ys++[(Z2.mk 1 0 [(Z2.mk 12 (k:Int) []),(Z2.mk 12 (f.params.length:Int) [])])]) v8) (ie (az (Z1 1 32 (.i k) (ZO k (Z6 1 (.n 13 (.i (k+1:Nat)) (.p (.d (.k (.p (.d (.p (.d (.p (.d (.p (.w (.w .z))))))))))))) (ie ?_))))))
   exact ZU ⟨k+1,(ys++[(Z2.mk 1 0 [(Z2.mk 12 (k:Int) []),(Z2.mk 12 (f.params.length:Int) [])])]),v8,p5,ob,ob,(Xr ZA (GE.two (s1:=1) (s2:=1) om om (GE.var om om om) (GE.var om om om) om)),ob,rfl,rfl,rfl⟩ (wk [3,3,3,3,0] (fq (fq (fr (ZW k fl)))))
  refine az (ir 2 [(0,.p rd 0),(2,.i i),(3,.i w),(5,.p b1 0),(8,.p b2 0),(9,Z0 f.params),(10,.i f.params.length),(11,Z0 (f.params++[0,1])),(13,.i k),(62,XR ys u),(63,.i k)] (Zz [] (Ts (k:Int)) (VR [ZE (Z2.mk 12 (k:Int) [])] (Yr [(Z2.mk 12 (k:Int) [])]) (XE [(Z2.mk 12 (k:Int) [])]).symm 1 3 ?_)))
  intro v9
  refine Z6 0 (.n 65 (X5 [(Z2.mk 12 (k:Int) [])]) (.p .r)) (ip 5 (Yr (ys++[(Z2.mk 12 (k:Int) [])])) (Yr ys) (Yr [(Z2.mk 12 (k:Int) [])]) u none 3 (Uq _) (Uq _) (Kw _) (by simp<;>omega) (by simp [Kv,Yr]) ?_)
  intro v10
  refine Z1 1 12 (XR (ys++[(Z2.mk 12 (k:Int) [])]) v10) (ie (az (Z1 1 32 (.i k) (ZO k (Z6 1 (.n 13 (.i (k+1:Nat)) (.p (.d (.k (.p (.d (.p (.w (.w .z))))))))) (ie ?_))))))
  exact ZU ⟨k+1,(ys++[(Z2.mk 12 (k:Int) [])]),v10,p5,ob,ob,(Xr ZA (GE.var om om om)),ob,rfl,rfl,rfl⟩ (wk [2,2,2,2,0] (fq (fq (fr (ZW k fl)))))
 refine ax 0 (ar (Yq 2 67 (.i i) 68 (X5 ys) (Zz [] (XG 9 i ys) (iA [.i 0,.i 0,nl] ?_))))
 intro b3
 refine ZG 0 b3 (Yy (Z2.mk 9 i ys)) (ie (ar (Yn 1 70 (ZE (Z2.mk 9 i ys)) [0] [b3] (iA [.i 0,.i 0,nl] ?_))))
 intro b4
 refine ZG 0 b4 (Yy (Z2.mk 9 i ys)) (ie (aq (aq (XJ (fun F h=>∃(wb:Bool) (p5:Nat),(pq<=p5/\p5<=pq+1)/\F=[(0,.p rd 0),(2,.i i),(3,.i w),(5,.p b1 0),(8,.p b2 0),(9,Z0 f.params),(10,.i f.params.length),(11,Z0 (f.params++[0,1])),(14,.p b3 0),(15,.p b4 0),(82,.b wb)]/\h=[.obj b4 (Yy (Z2.mk 9 i ys)),.obj b3 (Yy (Z2.mk 9 i ys)),.obj b2 [.i 0,.i 0,nl],.obj b1 (Y9 g gb),Yl rd bs p5,YI gb rs]) ?_ ?_))))
 ·refine az (iR 3 [(0,.p rd 0),(2,.i i),(3,.i w),(5,.p b1 0),(8,.p b2 0),(9,Z0 f.params),(10,.i f.params.length),(11,Z0 (f.params++[0,1])),(14,.p b3 0),(15,.p b4 0),(72,.ms gb 0 g.funcs.length 4),(73,.i i)] [3] [b1] (Zq (W5 gb g.funcs.length 4 i.toNat 5 i) (Z1 1 75 (.val (.pointer (some ⟨gb,i.toNat * 5+1,none⟩))) (VO (V0 5 gb 4 4 5 (i.toNat * 5+1) (Zm (Xc rs)) [.i f.result] 3 (.i f.result) (U2 W8 hf 1 rfl (WH rfl))) (Z1 2 78 (.b (f.result==1)) (ib (b:=(f.result==1)) 78 (fun Zv=>?_) (fun Zv=>?_)))))))
  ·have YM:f.result=1:=(Zh).1 Zv
   refine Z6 1 (.n 79 (.p rd 0) (.k (.d .r))) (ic [4] (XP rd bs pq 5 (ZD:=ob)) ?_)
   rintro _ _ ⟨k2,rfl,rfl,YX⟩
   have qhp5:=YX.lt om
   refine Z1 2 82 (.b (decide (k2>0))) (ie ?_)
   exact ZV ⟨(decide (k2>0)),pq+1,ob,rfl,rfl⟩ (wk [1,1,1,1,0,0] fl)
  have Xv:¬(f.result=1):=ZF Zh Zv
  refine Z6 4 (.n 82 (.b false) (.k (.d .r))) (ie ?_)
  exact ZV ⟨false,pq,ob,rfl,rfl⟩ (ZK 6 fl)
 rintro F h ⟨wb,p5,kR15_0,rfl,rfl⟩
 refine XJ (fun F h=>∃(eQ:Z2) (p6:Nat),(GE g (f.params.length+2) 41 eQ)/\(p5<=p6/\p6<=p5+302)/\F=[(0,.p rd 0),(2,.i i),(3,.i w),(5,.p b1 0),(8,.p b2 0),(9,Z0 f.params),(15,.p b4 0)]/\h=[.obj b4 (Yy eQ),.obj b2 [.i 0,.i 0,nl],.obj b1 (Y9 g gb),Yl rd bs p6,YI gb rs]) ?_ ?_
 ·refine ac wb Iff.rfl (fun Yi=>?_) (fun Yi=>?_)
  ·refine ar (iR 3 [(0,.p rd 0),(2,.i i),(3,.i w),(5,.p b1 0),(8,.p b2 0),(9,Z0 f.params),(10,.i f.params.length),(14,.p b3 0),(15,.p b4 0),(83,.p rd 0),(84,.agg (Y9 g gb)),(85,Z0 (f.params++[0,1]))] [3] [b1] (ic [4,4] (TX rd bs p5 g gb rs (f.params++[0,1]) 0 4 (ZD:=ob) (hv:=(by first|omega|(simp only [Yu,YQ,Xp];omega)))) ?_))
   rintro _ _ ⟨e1,p21,rfl,rfl,Wb⟩
   have X4:=Wb.1
   have TY:=Wb.2
   try rw [Yu] at X4
   rw [hbv.2.1] at X4
   refine iA [.i 0,.i 0,nl] ?_
   intro b5
   refine ZG 0 b5 (Yy e1) (ie (aq (aq (XJ (fun F h=>∃(wc:Bool),(True)/\F=[(0,.p rd 0),(2,.i i),(3,.i w),(5,.p b1 0),(8,.p b2 0),(9,Z0 f.params),(10,.i f.params.length),(14,.p b3 0),(15,.p b4 0),(16,.p b5 0),(94,.b wc)]/\h=[.obj b5 (Yy e1),Yl rd bs p21,YI gb rs,.obj b4 (Yy (Z2.mk 9 i ys)),.obj b3 (Yy (Z2.mk 9 i ys)),.obj b2 [.i 0,.i 0,nl],.obj b1 (Y9 g gb)]) ?_ ?_))))
   ·refine az (ir 3 [(0,.p rd 0),(2,.i i),(3,.i w),(5,.p b1 0),(8,.p b2 0),(9,Z0 f.params),(10,.i f.params.length),(14,.p b3 0),(15,.p b4 0),(16,.p b5 0),(89,.b (decide ((f.params.length:Int)>1)))] (ib (b:=(decide ((f.params.length:Int)>1))) 89 (fun Yx=>?_) (fun Yx=>?_)))
    ·have WE:(f.params.length:Int)>1:=(dq).1 Yx
     refine Z6 1 (.n 90 (Z0 f.params) (.w (.w (.k (.k (.k .z)))))) ?_
     obtain ⟨x2,Zy⟩:=Zu (xs:=f.params) (j:=0) om
     refine Zq (Zn none 0 1 (Y4 Zy)) (Z1 3 94 (.b (x2==2)) (ie ?_))
     exact ZV ⟨(x2==2),ob,rfl,rfl⟩ (ZK 7 fl)
    have WR:¬((f.params.length:Int)>1):=ZF dq Yx
    refine Z6 5 (.n 94 (.b false) (.d (.w (.w (.k (.k .z)))))) (ie ?_)
    exact ZV ⟨false,ob,rfl,rfl⟩ (ZK 7 fl)
   rintro F h ⟨wc,kR17_0,rfl,rfl⟩
   refine XJ (fun F h=>∃(eA:Z2),(GE g (f.params.length+2) 30 eA)/\F=[(0,.p rd 0),(2,.i i),(3,.i w),(5,.p b1 0),(8,.p b2 0),(9,Z0 f.params),(14,.p b3 0),(15,.p b4 0),(16,.p b5 0)]/\h=[.obj b5 (Yy eA),Yl rd bs p21,YI gb rs,.obj b4 (Yy (Z2.mk 9 i ys)),.obj b3 (Yy (Z2.mk 9 i ys)),.obj b2 [.i 0,.i 0,nl],.obj b1 (Y9 g gb)]) ?_ ?_
   ·refine ac wc Iff.rfl (fun Xk=>?_) (fun Xk=>?_)
    ·refine az (Zz [] (Ts 0) (ir 1 [(0,.p rd 0),(2,.i i),(3,.i w),(5,.p b1 0),(8,.p b2 0),(9,Z0 f.params),(14,.p b3 0),(15,.p b4 0),(16,.p b5 0),(95,ZE (Z2.mk 12 0 [])),(96,.i f.params.length)] (Zz [] (Ts (f.params.length:Int)) (VR [ZE (Z2.mk 12 0 []),ZE (Z2.mk 12 (f.params.length:Int) [])] (Yr [Z2.mk 12 0 [],(Z2.mk 12 (f.params.length:Int) [])]) (XE [Z2.mk 12 0 [],(Z2.mk 12 (f.params.length:Int) [])]).symm 2 3 ?_))))
     intro v11
     refine Z6 0 (.n 98 (X5 [Z2.mk 12 0 [],(Z2.mk 12 (f.params.length:Int) [])]) (.p .r)) (Zz [] (XG 11 0 [Z2.mk 12 0 [],(Z2.mk 12 (f.params.length:Int) [])]) (ZG 1 b5 (Yy (Z2.mk 11 0 [Z2.mk 12 0 [],(Z2.mk 12 (f.params.length:Int) [])])) (ie ?_)))
     exact ZV ⟨(Z2.mk 11 0 [Z2.mk 12 0 [],(Z2.mk 12 (f.params.length:Int) [])]),(GE.two (s1:=1) (s2:=1) om om (GE.var om om om) (GE.var om om om) om),rfl,rfl⟩ (wk [0,1,1,1,1,1,1] fl)
    refine ak ?_
    exact ZV ⟨e1,X4,rfl,rfl⟩ (ZK 7 fl)
   rintro F h ⟨eA,Z15,rfl,rfl⟩
   refine az (iR 2 [(0,.p rd 0),(2,.i i),(3,.i w),(5,.p b1 0),(8,.p b2 0),(9,Z0 f.params),(15,.p b4 0),(100,ZE eA),(101,ZE (Z2.mk 9 i ys))] [0,4] [b5,b3] (VR [ZE eA,ZE (Z2.mk 9 i ys)] (Yr [eA,Z2.mk 9 i ys]) (XE [eA,Z2.mk 9 i ys]).symm 2 3 ?_))
   intro v12
   refine Z6 0 (.n 102 (X5 [eA,Z2.mk 9 i ys]) (.p .r)) (Zz [] (XG 6 1 [eA,Z2.mk 9 i ys]) (ZG 4 b4 (Yy (Z2.mk 6 1 [eA,Z2.mk 9 i ys])) (ie ?_)))
   exact ZV ⟨(Z2.mk 6 1 [eA,Z2.mk 9 i ys]),p21,(GE.two (s1:=30) (s2:=10) om om Z15 (GE.node (L:=f.params.length) (s:=3) (q:=10) om (fun _=>by omega) om ZA om om om) om),ob,rfl,rfl⟩ (wk [0,5,5,2,2] fl)
  refine ar (iR 3 [(0,.p rd 0),(2,.i i),(3,.i w),(5,.p b1 0),(8,.p b2 0),(9,Z0 f.params),(11,Z0 (f.params++[0,1])),(14,.p b3 0),(15,.p b4 0),(105,.ms gb 0 g.funcs.length 4),(106,.i i)] [3] [b1] (Zq (W5 gb g.funcs.length 4 i.toNat 5 i) (Z1 1 108 (.val (.pointer (some ⟨gb,i.toNat * 5+1,none⟩))) (VO (V0 5 gb 4 4 5 (i.toNat * 5+1) (Zm (Xc rs)) [.i f.result] 3 (.i f.result) (U2 W8 hf 1 rfl (WH rfl))) (Z1 1 110 (.b (f.result==0)) (ie (ac (f.result==0) Zh (fun Xl=>?_) (fun Xl=>?_))))))))
  ·refine aE 11 (Y5 6 11 [0,3,4,5,7] (.n 111 (.p rd 0) (.n 114 (.p rd 0) (.n 115 (.agg (Y9 g gb)) (.n 116 (Z0 (f.params++[0,1])) (.n 118 (ZE (Z2.mk 9 i ys)) .r))))) [3,1] [b1,b3] (Z9 1 (dL 1 [1,3] [b3,b1] (Z8 [1,2]) 2 1 ?_)))
   intro v13
   refine ZZ 5 5 [] (.n 112 (Z0 [1,2]) (.p .r)) (Z9 2 (dc 2 [5] [1,3] [b3,b1] (Vu rd bs p5 [1,2] (ZD:=ob)) ?_))
   rintro _ _ ⟨z1,rfl,rfl,Uc⟩
   have hz:=Ab (a:=1) (b:=2) Uc (by decide)
   refine Z9 6 (dc 6 [0,5] [1] [b3] (TX rd bs (p5+1) g gb rs (f.params++[0,1]) 0 4 (ZD:=ob) (hv:=(by first|omega|(simp only [Yu,YQ,Xp];omega)))) ?_)
   rintro _ _ ⟨e2,p22,rfl,rfl,UH⟩
   have X4:=UH.1
   have TY:=UH.2
   try rw [Yu] at X4
   rw [hbv.2.1] at X4
   refine Z9 8 (Wn 8 [] [] [ZE e2,ZE (Z2.mk 9 i ys)] (Yr [e2,Z2.mk 9 i ys]) (XE [e2,Z2.mk 9 i ys]).symm 2 3 ?_)
   intro v14
   refine ZZ 2 2 [] (.n 119 (X5 [e2,Z2.mk 9 i ys]) (.p .r)) (Z9 9 (Yv 9 [] [] [] (XG z1 0 [e2,Z2.mk 9 i ys]) (Z9 10 (YG 10 4 [] [] b4 (Yy (Z2.mk z1 0 [e2,Z2.mk 9 i ys])) (de ?_)))))
   exact ZV ⟨(Z2.mk z1 0 [e2,Z2.mk 9 i ys]),p22,(GE.two (s1:=30) (s2:=10) om om X4 (GE.node (L:=f.params.length) (s:=3) (q:=10) om (fun _=>by omega) om ZA om om om) om),ob,rfl,rfl⟩ (wk [0,5,5,1,1] fl)
  refine ak ?_
  exact ZV ⟨(Z2.mk 9 i ys),p5,(GE.le (GE.node (L:=f.params.length) (s:=3) (q:=10) om (fun _=>by omega) om ZA om om om) om),ob,rfl,rfl⟩ (wk [0,1,1,1,1] fl)
 rintro F h ⟨eQ,p6,TZ,Z14,rfl,rfl⟩
 refine aD 16 (W2 9 16 [0,2,3,4,5,6,7] [(8,.p b2 0),(15,.p b4 0),(121,.i w),(123,.p rd 0),(124,.agg (Y9 g gb)),(125,Z0 f.params),(127,.ms gb 0 g.funcs.length 4),(128,.i i)] [2,2] [b1,b1] (dx 8 (W5 gb g.funcs.length 4 i.toNat 5 i) (ZX 7 8 [9] 130 (.val (.pointer (some ⟨gb,i.toNat * 5+1,none⟩))) (VP 10 (V0 4 gb 4 4 5 (i.toNat * 5+1) (Zm (Xc rs)) [.i f.result] 3 (.i f.result) (U2 W8 hf 1 rfl (WH rfl))) (Y5 5 6 [12] (.n 133 (ZE eQ) .r) [0] [b4] (Z9 1 (Yv 1 [] [0,4,2,2] [b4,gb,b1,b1] (Ts w) (Z9 11 (dc 11 [3,3] [0] [b4] (TX rd bs p6 g gb rs f.params f.result 4 (ZD:=ob) (hv:=(by first|omega|(simp only [Yu,YQ,Xp];omega)))) ?_)))))))))
 rintro _ _ ⟨e3,p23,rfl,rfl,Uv⟩
 have X4:=Uv.1
 have TY:=Uv.2
 try rw [Yu] at X4
 rw [hbv.2.1] at X4
 refine Z9 13 (Wn 13 [] [] [ZE (Z2.mk 12 w []),ZE e3,ZE eQ] (Yr [Z2.mk 12 w [],e3,eQ]) (XE [Z2.mk 12 w [],e3,eQ]).symm 3 3 ?_)
 intro v15
 refine ZZ 2 2 [] (.n 134 (X5 [Z2.mk 12 w [],e3,eQ]) (.p .r)) (Z9 14 (Yv 14 [] [] [] (XG 8 1 [Z2.mk 12 w [],e3,eQ]) (Z9 15 (YG 15 4 [] [] b2 (Yy (Z2.mk 8 1 [Z2.mk 12 w [],e3,eQ])) (de ?_)))))
 exact Zc (r3 [2,2] [ZE (Z2.mk 8 1 [Z2.mk 12 w [],e3,eQ])] [0] [(b2,b2)] ⟨(Z2.mk 8 1 [Z2.mk 12 w [],e3,eQ]),p23,rfl,rfl,⟨GE.matchL hg (s1:=1) (s2:=30) (s3:=41) (GE.var om om om) X4 TZ om,by omega⟩⟩ (lr _))
theorem Sx (rd:Nat) (bs:List Int) (p:Nat) (g:XV) (gb:Nat) (rs:List Func) (f:Func) (i:Int) (ZD:∀z∈bs,0<=z/\z<=255) (hp:p+1000<=1000000000:=by exact ob) (hg:GP g:=by exact ob) (W8:g.funcs <+: rs:=by exact ob) (hi:0<=i:=by exact ob) (hf:g.funcs[i.toNat]? = some f:=by exact ob) (h0:0<f.params.length:=by exact ob):Zk Tryz.prog 193 [.p rd 0,.agg (Y9 g gb),.i i] [Yl rd bs p,YI gb rs] (fun r h=>∃(e:Z2) (p2:Nat),r=ZE e/\h=[Yl rd bs p2,YI gb rs]/\GE g f.params.length 200 e/\p<=p2/\p2<=p+1000):=by
 obtain ⟨hil,_⟩:=XM.1 hf
 have hgl:=hg.len
 have hso:=(hg.sigs f (Y7 hf)).bd
 have hbv:=C0
 refine ZL 96 Tryz.func193 (ar (iA (Y9 g gb) ?_))
 intro b1
 refine iA [.i 0,.i 0,nl] ?_
 intro b2
 refine ie (ar (iR 3 [(0,.p rd 0),(2,.i i),(4,.p b1 0),(6,.p b2 0),(16,.ms gb 0 g.funcs.length 4),(17,.i i)] [1] [b1] (Zq (W5 gb g.funcs.length 4 i.toNat 5 i) (Z1 1 19 (.val (.pointer (some ⟨gb,i.toNat * 5,none⟩))) (VO (V0 3 gb 4 4 5 (i.toNat * 5+0) (Zm (Xc rs)) [Z0 f.params] 27 (Z0 f.params) (U2 W8 hf 0 rfl (WH rfl))) (Z1 1 7 (Z0 f.params) (ie (ar (Z1 1 21 (Z0 f.params) (iw (Yf f.params) (Z1 1 8 (.i f.params.length) (ie (ar (Z1 1 23 (.i f.params.length) (Zz [] (Ts (f.params.length:Int)) (VR [ZE (Z2.mk 12 (f.params.length:Int) [])] (Yr [(Z2.mk 12 (f.params.length:Int) [])]) (XE [(Z2.mk 12 (f.params.length:Int) [])]).symm 1 3 ?_))))))))))))))))
 intro v1
 refine Z1 1 9 (XR [(Z2.mk 12 (f.params.length:Int) [])] v1) (ie (ar (Z1 1 26 (.i f.params.length) (ia (((f.params.length+2:Nat):Int)) (((f.params.length:Int))+(2)) (Zz [] (Ts ((f.params.length+2:Nat):Int)) (VR [ZE (Z2.mk 12 ((f.params.length+2:Nat):Int) [])] (Yr [(Z2.mk 12 ((f.params.length+2:Nat):Int) [])]) (XE [(Z2.mk 12 ((f.params.length+2:Nat):Int) [])]).symm 1 3 ?_))))))
 intro v2
 refine Z1 1 10 (XR [(Z2.mk 12 ((f.params.length+2:Nat):Int) [])] v2) (ie (aq (ar (Z1 1 11 (.i 1) (ie (ab 0 (al (fun m F h=>∃(k:Nat) (ys:List Z2) (u:Value) (zs:List Z2) (w:Value),(1<=k/\k<=f.params.length)/\(ys.length=k)/\(zs.length=k)/\(∀e∈ys,GE g (f.params.length+3) 1 e)/\(∀e∈zs,GE g (f.params.length+3) 1 e)/\F=[(0,.p rd 0),(2,.i i),(4,.p b1 0),(6,.p b2 0),(7,Z0 f.params),(8,.i f.params.length),(9,XR ys u),(10,XR zs w),(11,.i k)]/\h=[.obj b2 [.i 0,.i 0,nl],.obj b1 (Y9 g gb),Yl rd bs p,YI gb rs,.tail u 3,.tail w 3]/\m=f.params.length-k) _ _ _ ⟨1,[(Z2.mk 12 (f.params.length:Int) [])],v1,[(Z2.mk 12 ((f.params.length+2:Nat):Int) [])],v2,ob,ob,ob,(F3 (GE.var om om om)),(F3 (GE.var om om om)),rfl,rfl,rfl⟩ (wk [2,2,2,2,1,0] (fq (fq (fc (x:=.i 1) li fl)))) ?_)))))))
 rintro m F h ⟨k,ys,u,zs,w,Yo,Zp,ZA,YJ,Wf,rfl,rfl,rfl⟩
 refine aq (ar (Z1 3 32 (.b (decide ((k:Int)<(f.params.length:Int)))) (ie (ZT ((k:Int)<(f.params.length:Int)) (fun Ze=>?_) (fun Ze=>?_)))))
 ·refine ak (aq (ab 1 (ar (Yq 2 35 (XR ys u) 36 (.i k) (Zz [] (Ts (k:Int)) (VR [ZE (Z2.mk 12 (k:Int) [])] (Yr [(Z2.mk 12 (k:Int) [])]) (XE [(Z2.mk 12 (k:Int) [])]).symm 1 3 ?_))))))
  intro v3
  refine Z6 0 (.n 38 (X5 [(Z2.mk 12 (k:Int) [])]) (.p .r)) (ip 5 (Yr (ys++[(Z2.mk 12 (k:Int) [])])) (Yr ys) (Yr [(Z2.mk 12 (k:Int) [])]) u none 3 (Uq _) (Uq _) (Kw _) (by simp<;>omega) (by simp [Kv,Yr]) ?_)
  intro v4
  refine Z6 1 (.n 9 (XR (ys++[(Z2.mk 12 (k:Int) [])]) v4) (.p (.d (.p (.d (.d (.d (.w (.k (.k (.d .r))))))))))) (ie (az (Yq 2 40 (XR zs w) 41 (.i k) (Zz [] (Ts (k:Int)) (VR [ZE (Z2.mk 12 (k:Int) [])] (Yr [(Z2.mk 12 (k:Int) [])]) (XE [(Z2.mk 12 (k:Int) [])]).symm 1 3 ?_)))))
  intro v5
  refine Z6 0 (.n 43 (X5 [(Z2.mk 12 (k:Int) [])]) (.p .r)) (ip 7 (Yr (zs++[(Z2.mk 12 (k:Int) [])])) (Yr zs) (Yr [(Z2.mk 12 (k:Int) [])]) w none 3 (Uq _) (Uq _) (Kw _) (by simp<;>omega) (by simp [Kv,Yr]) ?_)
  intro v6
  refine Z6 1 (.n 10 (XR (zs++[(Z2.mk 12 (k:Int) [])]) v6) (.p (.d (.p (.d (.d (.w (.k (.k (.k (.d .r))))))))))) (ie (az (Z1 1 33 (.i k) (ZO k (Z6 1 (.n 11 (.i (k+1:Nat)) (.p (.d (.w (.w .z))))) (ie ?_))))))
  exact ZU ⟨k+1,(ys++[(Z2.mk 12 (k:Int) [])]),v4,(zs++[(Z2.mk 12 (k:Int) [])]),v6,ob,ob,ob,(Xr YJ (GE.var om om om)),(Xr Wf (GE.var om om om)),rfl,rfl,rfl⟩ (wk [4,4,4,4,2,0] (fq (fq (ZW k fl))))
 refine ax 0 (ar (Yq 2 45 (.i i) 46 (X5 ys) (Zz [] (XG 9 i ys) (iA [.i 0,.i 0,nl] ?_))))
 intro b3
 refine ZG 0 b3 (Yy (Z2.mk 9 i ys)) (ie (ar (Yq 2 48 (.i i) 49 (X5 zs) (Zz [] (XG 9 i zs) (iA [.i 0,.i 0,nl] ?_)))))
 intro b4
 refine ZG 0 b4 (Yy (Z2.mk 9 i zs)) (ie (aD 14 (Y5 9 14 [0,1,2,3,7] (.n 51 (ZE (Z2.mk 9 i ys)) (.n 52 (.p rd 0) (.n 53 (.agg (Y9 g gb)) (.n 54 (Z0 f.params) (.n 58 (ZE (Z2.mk 9 i zs)) .r))))) [1,3,0] [b3,b1,b4] (dK (fun F h=>∃(e1:Z2) (p21:Nat) (b5:Nat),(GE g (f.params++[3,0,3]).length (bS 4) e1/\p<=p21/\p21<=p+bC 4)/\F=[(0,.p rd 0),(2,.i i),(4,.p b1 0),(6,.p b2 0),(7,Z0 f.params),(8,.i f.params.length),(12,.p b3 0),(14,.p b5 0)]/\h=[.obj b5 (Yy (Z2.mk 1 0 [Z2.mk 9 i ys,Z2.mk 1 0 [e1,Z2.mk 9 i zs]])),Yl rd bs p21,YI gb rs,.obj b4 (Yy (Z2.mk 9 i zs)),.obj b3 (Yy (Z2.mk 9 i ys)),.obj b2 [.i 0,.i 0,nl],.obj b1 (Y9 g gb),.tail u 3,.tail w 3]) ?_ ?_))))
 ·refine Vk 4 12 ?_ ?_
  ·refine dL 4 [0,3,1] [b4,b1,b3] (Z8 [3,0,3]) 3 1 ?_
   intro v7
   refine Xd 8 8 [] [(0,.p rd 0),(2,.i i),(4,.p b1 0),(6,.p b2 0),(7,Z0 f.params),(8,.i f.params.length),(12,.p b3 0),(51,ZE (Z2.mk 9 i ys)),(52,.p rd 0),(53,.agg (Y9 g gb)),(54,Z0 f.params),(55,Z0 [3,0,3]),(58,ZE (Z2.mk 9 i zs))] (Vk 5 12 ?_ ?_)
   ·refine dc 5 [] [0,3,1] [b4,b1,b3] (Q5 f.params [3,0,3]) ?_
    rintro _ _ ⟨v8,rfl,rfl⟩
    refine Xd 7 7 [] [(0,.p rd 0),(2,.i i),(4,.p b1 0),(6,.p b2 0),(7,Z0 f.params),(8,.i f.params.length),(12,.p b3 0),(51,ZE (Z2.mk 9 i ys)),(52,.p rd 0),(53,.agg (Y9 g gb)),(56,Z0 (f.params++[3,0,3])),(58,ZE (Z2.mk 9 i zs))] (Vk 6 12 ?_ ?_)
    ·refine dc 6 [6,6] [0,1] [b4,b3] (TX rd bs p g gb rs (f.params++[3,0,3]) 0 4 (ZD:=ob) (hv:=(by first|omega|(simp only [Yu,YQ,Xp];omega)))) ?_
     rintro _ _ ⟨e1,p21,rfl,rfl,ZP⟩
     have X4:=ZP.1
     have TY:=ZP.2
     try rw [Yu] at X4
     rw [hbv.2.1] at X4
     refine Vk 8 12 ?_ ?_
     ·refine Wn 8 [3] [b3] [ZE e1,ZE (Z2.mk 9 i zs)] (Yr [e1,Z2.mk 9 i zs]) (XE [e1,Z2.mk 9 i zs]).symm 2 3 ?_
      intro v9
      refine Xd 5 5 [] [(0,.p rd 0),(2,.i i),(4,.p b1 0),(6,.p b2 0),(7,Z0 f.params),(8,.i f.params.length),(12,.p b3 0),(51,ZE (Z2.mk 9 i ys)),(59,X5 [e1,Z2.mk 9 i zs])] (Vk 9 12 ?_ ?_)
      ·refine Yv 9 [] [3] [b3] (XG 1 0 [e1,Z2.mk 9 i zs]) (Vk 10 12 ?_ ?_)
       ·refine Wn 10 [] [] [ZE (Z2.mk 9 i ys),ZE (Z2.mk 1 0 [e1,Z2.mk 9 i zs])] (Yr [Z2.mk 9 i ys,Z2.mk 1 0 [e1,Z2.mk 9 i zs]]) (XE [Z2.mk 9 i ys,Z2.mk 1 0 [e1,Z2.mk 9 i zs]]).symm 2 3 ?_
        intro v10
        refine Xd 3 3 [] [(0,.p rd 0),(2,.i i),(4,.p b1 0),(6,.p b2 0),(7,Z0 f.params),(8,.i f.params.length),(12,.p b3 0),(61,X5 [Z2.mk 9 i ys,Z2.mk 1 0 [e1,Z2.mk 9 i zs]])] (Vk 11 12 ?_ ?_)
        ·refine Yv 11 [] [] [] (XG 1 0 [Z2.mk 9 i ys,Z2.mk 1 0 [e1,Z2.mk 9 i zs]]) (Z9 12 (dA 12 [] [] [.i 0,.i 0,nl] ?_))
         intro b5
         refine Z9 13 (YG 13 0 [] [] b5 (Yy (Z2.mk 1 0 [Z2.mk 9 i ys,Z2.mk 1 0 [e1,Z2.mk 9 i zs]])) (de ?_))
         exact ZV ⟨e1,p21,b5,(by assumption),rfl,rfl⟩ (wk [0,2,2,4,4,4,4,4,4] fl)
        refine dA 12 [] [] [.i 0,.i 0,nl] ?_
        intro b6
        refine Z9 11 (Yv 11 [] [] [] (XG 1 0 [Z2.mk 9 i ys,Z2.mk 1 0 [e1,Z2.mk 9 i zs]]) (Z9 13 (YG 13 0 [] [] b6 (Yy (Z2.mk 1 0 [Z2.mk 9 i ys,Z2.mk 1 0 [e1,Z2.mk 9 i zs]])) (de ?_))))
        exact ZV ⟨e1,p21,b6,(by assumption),rfl,rfl⟩ (wk [0,2,2,4,4,4,4,4,4] fl)
       refine dA 12 [3] [b3] [.i 0,.i 0,nl] ?_
       intro b7
       refine Z9 10 (Wn 10 [] [] [ZE (Z2.mk 9 i ys),ZE (Z2.mk 1 0 [e1,Z2.mk 9 i zs])] (Yr [Z2.mk 9 i ys,Z2.mk 1 0 [e1,Z2.mk 9 i zs]]) (XE [Z2.mk 9 i ys,Z2.mk 1 0 [e1,Z2.mk 9 i zs]]).symm 2 3 ?_)
       intro v11
       refine Xd 2 2 [] [(0,.p rd 0),(2,.i i),(4,.p b1 0),(6,.p b2 0),(7,Z0 f.params),(8,.i f.params.length),(12,.p b3 0),(14,.p b7 0),(61,X5 [Z2.mk 9 i ys,Z2.mk 1 0 [e1,Z2.mk 9 i zs]])] (Z9 11 (Yv 11 [] [] [] (XG 1 0 [Z2.mk 9 i ys,Z2.mk 1 0 [e1,Z2.mk 9 i zs]]) (Z9 13 (YG 13 1 [] [] b7 (Yy (Z2.mk 1 0 [Z2.mk 9 i ys,Z2.mk 1 0 [e1,Z2.mk 9 i zs]])) (de ?_)))))
       exact ZV ⟨e1,p21,b7,(by assumption),rfl,rfl⟩ (wk [0,2,2,4,4,4,4,4,4] fl)
      refine dA 12 [3] [b3] [.i 0,.i 0,nl] ?_
      intro b8
      refine Z9 9 (Yv 9 [] [4] [b3] (XG 1 0 [e1,Z2.mk 9 i zs]) (Z9 10 (Wn 10 [] [] [ZE (Z2.mk 9 i ys),ZE (Z2.mk 1 0 [e1,Z2.mk 9 i zs])] (Yr [Z2.mk 9 i ys,Z2.mk 1 0 [e1,Z2.mk 9 i zs]]) (XE [Z2.mk 9 i ys,Z2.mk 1 0 [e1,Z2.mk 9 i zs]]).symm 2 3 ?_)))
      intro v12
      refine Xd 2 2 [] [(0,.p rd 0),(2,.i i),(4,.p b1 0),(6,.p b2 0),(7,Z0 f.params),(8,.i f.params.length),(12,.p b3 0),(14,.p b8 0),(61,X5 [Z2.mk 9 i ys,Z2.mk 1 0 [e1,Z2.mk 9 i zs]])] (Z9 11 (Yv 11 [] [] [] (XG 1 0 [Z2.mk 9 i ys,Z2.mk 1 0 [e1,Z2.mk 9 i zs]]) (Z9 13 (YG 13 1 [] [] b8 (Yy (Z2.mk 1 0 [Z2.mk 9 i ys,Z2.mk 1 0 [e1,Z2.mk 9 i zs]])) (de ?_)))))
      exact ZV ⟨e1,p21,b8,(by assumption),rfl,rfl⟩ (wk [0,2,2,4,4,4,4,4,4] fl)
     refine dA 12 [2,3] [b4,b3] [.i 0,.i 0,nl] ?_
     intro b9
     refine Z9 8 (Wn 8 [4] [b3] [ZE e1,ZE (Z2.mk 9 i zs)] (Yr [e1,Z2.mk 9 i zs]) (XE [e1,Z2.mk 9 i zs]).symm 2 3 ?_)
     intro v13
     refine Xd 4 4 [] [(0,.p rd 0),(2,.i i),(4,.p b1 0),(6,.p b2 0),(7,Z0 f.params),(8,.i f.params.length),(12,.p b3 0),(14,.p b9 0),(51,ZE (Z2.mk 9 i ys)),(59,X5 [e1,Z2.mk 9 i zs])] (Z9 9 (Yv 9 [] [4] [b3] (XG 1 0 [e1,Z2.mk 9 i zs]) (Z9 10 (Wn 10 [] [] [ZE (Z2.mk 9 i ys),ZE (Z2.mk 1 0 [e1,Z2.mk 9 i zs])] (Yr [Z2.mk 9 i ys,Z2.mk 1 0 [e1,Z2.mk 9 i zs]]) (XE [Z2.mk 9 i ys,Z2.mk 1 0 [e1,Z2.mk 9 i zs]]).symm 2 3 ?_))))
     intro v14
     refine ZZ 2 2 [] (.n 61 (X5 [Z2.mk 9 i ys,Z2.mk 1 0 [e1,Z2.mk 9 i zs]]) (.p .r)) (Z9 11 (Yv 11 [] [] [] (XG 1 0 [Z2.mk 9 i ys,Z2.mk 1 0 [e1,Z2.mk 9 i zs]]) (Z9 13 (YG 13 2 [] [] b9 (Yy (Z2.mk 1 0 [Z2.mk 9 i ys,Z2.mk 1 0 [e1,Z2.mk 9 i zs]])) (de ?_)))))
     exact ZV ⟨e1,p21,b9,(by assumption),rfl,rfl⟩ (wk [0,2,2,4,4,4,4,4,4] fl)
    refine dA 12 [0,3,1] [b4,b1,b3] [.i 0,.i 0,nl] ?_
    intro b10
    refine Z9 6 (dc 6 [7,7] [1,2] [b4,b3] (TX rd bs p g gb rs (f.params++[3,0,3]) 0 4 (ZD:=ob) (hv:=(by first|omega|(simp only [Yu,YQ,Xp];omega)))) ?_)
    rintro _ _ ⟨e2,p22,rfl,rfl,Y1⟩
    have X4:=Y1.1
    have TY:=Y1.2
    try rw [Yu] at X4
    rw [hbv.2.1] at X4
    refine Z9 8 (Wn 8 [4] [b3] [ZE e2,ZE (Z2.mk 9 i zs)] (Yr [e2,Z2.mk 9 i zs]) (XE [e2,Z2.mk 9 i zs]).symm 2 3 ?_)
    intro v15
    refine Xd 4 4 [] [(0,.p rd 0),(2,.i i),(4,.p b1 0),(6,.p b2 0),(7,Z0 f.params),(8,.i f.params.length),(12,.p b3 0),(14,.p b10 0),(51,ZE (Z2.mk 9 i ys)),(59,X5 [e2,Z2.mk 9 i zs])] (Z9 9 (Yv 9 [] [4] [b3] (XG 1 0 [e2,Z2.mk 9 i zs]) (Z9 10 (Wn 10 [] [] [ZE (Z2.mk 9 i ys),ZE (Z2.mk 1 0 [e2,Z2.mk 9 i zs])] (Yr [Z2.mk 9 i ys,Z2.mk 1 0 [e2,Z2.mk 9 i zs]]) (XE [Z2.mk 9 i ys,Z2.mk 1 0 [e2,Z2.mk 9 i zs]]).symm 2 3 ?_))))
    intro v16
    refine ZZ 2 2 [] (.n 61 (X5 [Z2.mk 9 i ys,Z2.mk 1 0 [e2,Z2.mk 9 i zs]]) (.p .r)) (Z9 11 (Yv 11 [] [] [] (XG 1 0 [Z2.mk 9 i ys,Z2.mk 1 0 [e2,Z2.mk 9 i zs]]) (Z9 13 (YG 13 4 [] [] b10 (Yy (Z2.mk 1 0 [Z2.mk 9 i ys,Z2.mk 1 0 [e2,Z2.mk 9 i zs]])) (de ?_)))))
    exact ZV ⟨e2,p22,b10,(by assumption),rfl,rfl⟩ (wk [0,2,2,4,4,4,4,4,4] fl)
   refine dA 12 [0,3,1] [b4,b1,b3] [.i 0,.i 0,nl] ?_
   intro b11
   refine Z9 5 (dc 5 [] [1,4,2] [b4,b1,b3] (Q5 f.params [3,0,3]) ?_)
   rintro _ _ ⟨v17,rfl,rfl⟩
   refine Xd 6 6 [] [(0,.p rd 0),(2,.i i),(4,.p b1 0),(6,.p b2 0),(7,Z0 f.params),(8,.i f.params.length),(12,.p b3 0),(14,.p b11 0),(51,ZE (Z2.mk 9 i ys)),(52,.p rd 0),(53,.agg (Y9 g gb)),(56,Z0 (f.params++[3,0,3])),(58,ZE (Z2.mk 9 i zs))] (Z9 6 (dc 6 [7,7] [1,2] [b4,b3] (TX rd bs p g gb rs (f.params++[3,0,3]) 0 4 (ZD:=ob) (hv:=(by first|omega|(simp only [Yu,YQ,Xp];omega)))) ?_))
   rintro _ _ ⟨e3,p23,rfl,rfl,YB⟩
   have X4:=YB.1
   have TY:=YB.2
   try rw [Yu] at X4
   rw [hbv.2.1] at X4
   refine Z9 8 (Wn 8 [4] [b3] [ZE e3,ZE (Z2.mk 9 i zs)] (Yr [e3,Z2.mk 9 i zs]) (XE [e3,Z2.mk 9 i zs]).symm 2 3 ?_)
   intro v18
   refine ZZ 4 4 [] (.n 59 (X5 [e3,Z2.mk 9 i zs]) (.p .r)) (Z9 9 (Yv 9 [] [4] [b3] (XG 1 0 [e3,Z2.mk 9 i zs]) (Z9 10 (Wn 10 [] [] [ZE (Z2.mk 9 i ys),ZE (Z2.mk 1 0 [e3,Z2.mk 9 i zs])] (Yr [Z2.mk 9 i ys,Z2.mk 1 0 [e3,Z2.mk 9 i zs]]) (XE [Z2.mk 9 i ys,Z2.mk 1 0 [e3,Z2.mk 9 i zs]]).symm 2 3 ?_))))
   intro v19
   refine ZZ 2 2 [] (.n 61 (X5 [Z2.mk 9 i ys,Z2.mk 1 0 [e3,Z2.mk 9 i zs]]) (.p .r)) (Z9 11 (Yv 11 [] [] [] (XG 1 0 [Z2.mk 9 i ys,Z2.mk 1 0 [e3,Z2.mk 9 i zs]]) (Z9 13 (YG 13 5 [] [] b11 (Yy (Z2.mk 1 0 [Z2.mk 9 i ys,Z2.mk 1 0 [e3,Z2.mk 9 i zs]])) (de ?_)))))
   exact ZV ⟨e3,p23,b11,(by assumption),rfl,rfl⟩ (wk [0,2,2,4,4,4,4,4,4] fl)
  refine dA 12 [0,3,1] [b4,b1,b3] [.i 0,.i 0,nl] ?_
  intro b12
  refine Z9 4 (dL 4 [1,4,2] [b4,b1,b3] (Z8 [3,0,3]) 3 1 ?_)
  intro v20
  refine Xd 7 7 [] [(0,.p rd 0),(2,.i i),(4,.p b1 0),(6,.p b2 0),(7,Z0 f.params),(8,.i f.params.length),(12,.p b3 0),(14,.p b12 0),(51,ZE (Z2.mk 9 i ys)),(52,.p rd 0),(53,.agg (Y9 g gb)),(54,Z0 f.params),(55,Z0 [3,0,3]),(58,ZE (Z2.mk 9 i zs))] (Z9 5 (dc 5 [] [1,4,2] [b4,b1,b3] (Q5 f.params [3,0,3]) ?_))
  rintro _ _ ⟨v21,rfl,rfl⟩
  refine ZZ 6 6 [] (.n 56 (Z0 (f.params++[3,0,3])) (.p .r)) (Z9 6 (dc 6 [7,7] [1,2] [b4,b3] (TX rd bs p g gb rs (f.params++[3,0,3]) 0 4 (ZD:=ob) (hv:=(by first|omega|(simp only [Yu,YQ,Xp];omega)))) ?_))
  rintro _ _ ⟨e4,p24,rfl,rfl,YM⟩
  have X4:=YM.1
  have TY:=YM.2
  try rw [Yu] at X4
  rw [hbv.2.1] at X4
  refine Z9 8 (Wn 8 [4] [b3] [ZE e4,ZE (Z2.mk 9 i zs)] (Yr [e4,Z2.mk 9 i zs]) (XE [e4,Z2.mk 9 i zs]).symm 2 3 ?_)
  intro v22
  refine ZZ 4 4 [] (.n 59 (X5 [e4,Z2.mk 9 i zs]) (.p .r)) (Z9 9 (Yv 9 [] [4] [b3] (XG 1 0 [e4,Z2.mk 9 i zs]) (Z9 10 (Wn 10 [] [] [ZE (Z2.mk 9 i ys),ZE (Z2.mk 1 0 [e4,Z2.mk 9 i zs])] (Yr [Z2.mk 9 i ys,Z2.mk 1 0 [e4,Z2.mk 9 i zs]]) (XE [Z2.mk 9 i ys,Z2.mk 1 0 [e4,Z2.mk 9 i zs]]).symm 2 3 ?_))))
  intro v23
  refine ZZ 2 2 [] (.n 61 (X5 [Z2.mk 9 i ys,Z2.mk 1 0 [e4,Z2.mk 9 i zs]]) (.p .r)) (Z9 11 (Yv 11 [] [] [] (XG 1 0 [Z2.mk 9 i ys,Z2.mk 1 0 [e4,Z2.mk 9 i zs]]) (Z9 13 (YG 13 6 [] [] b12 (Yy (Z2.mk 1 0 [Z2.mk 9 i ys,Z2.mk 1 0 [e4,Z2.mk 9 i zs]])) (de ?_)))))
  exact ZV ⟨e4,p24,b12,(by assumption),rfl,rfl⟩ (wk [0,2,2,4,4,4,4,4,4] fl)
 rintro F h ⟨e1,p21,b5,ZP,rfl,rfl⟩
 have X4:=ZP.1
 have TY:=ZP.2
 try rw [Yu] at X4
 rw [hbv.2.1] at X4
 refine aq (ar (iR 3 [(0,.p rd 0),(2,.i i),(4,.p b1 0),(6,.p b2 0),(7,Z0 f.params),(8,.i f.params.length),(12,.p b3 0),(14,.p b5 0),(64,.ms gb 0 g.funcs.length 4),(65,.i i)] [6] [b1] (Zq (W5 gb g.funcs.length 4 i.toNat 5 i) (Z1 1 67 (.val (.pointer (some ⟨gb,i.toNat * 5+1,none⟩))) (VO (V0 2 gb 4 4 5 (i.toNat * 5+1) (Zm (Xc rs)) [.i f.result] 3 (.i f.result) (U2 W8 hf 1 rfl (WH rfl))) (Z1 1 69 (.b (f.result==3)) (ie (XJ (fun F h=>∃(eQ:Z2) (p6:Nat),(GE g (f.params.length+3) 52 eQ)/\(p<=p6/\p6<=p+650)/\F=[(0,.p rd 0),(2,.i i),(4,.p b1 0),(6,.p b2 0),(7,Z0 f.params),(14,.p b5 0)]/\h=[.obj b5 (Yy eQ),Yl rd bs p6,YI gb rs,.obj b2 [.i 0,.i 0,nl],.obj b1 (Y9 g gb)]) ?_ ?_))))))))
 ·refine ac (f.result==3) Zh (fun Zl=>?_) (fun Zl=>?_)
  ·refine aE 13 (W2 8 13 [0,1,2,3,7] [(0,.p rd 0),(2,.i i),(4,.p b1 0),(6,.p b2 0),(7,Z0 f.params),(14,.p b5 0),(70,ZE (Z2.mk 9 i ys)),(71,.p rd 0),(72,.agg (Y9 g gb)),(73,Z0 f.params),(77,.i f.params.length)] [4,6] [b3,b1] (da 8 (((f.params.length+2:Nat):Int)) (((f.params.length:Int))+(2)) (Z9 4 (dL 4 [6,4] [b1,b3] (Z8 [3,0,3]) 3 1 ?_))))
   intro v24
   refine ZZ 6 6 [] (.n 74 (Z0 [3,0,3]) (.p .r)) (Z9 5 (dc 5 [] [6,4] [b1,b3] (Q5 f.params [3,0,3]) ?_))
   rintro _ _ ⟨v25,rfl,rfl⟩
   refine ZZ 5 5 [] (.n 75 (Z0 (f.params++[3,0,3])) (.p .r)) (Z9 6 (dc 6 [3,3] [2] [b3] (TX rd bs p21 g gb rs (f.params++[3,0,3]) 0 4 (ZD:=ob) (hv:=(by first|omega|(simp only [Yu,YQ,Xp];omega)))) ?_))
   rintro _ _ ⟨e5,p25,rfl,rfl,YX⟩
   have X4:=YX.1
   have TY:=YX.2
   try rw [Yu] at X4
   rw [hbv.2.1] at X4
   refine Z9 9 (Yv 9 [] [4] [b3] (Ts ((f.params.length+2:Nat):Int)) (Z9 10 (Wn 10 [] [] [ZE (Z2.mk 9 i ys),ZE e5,ZE (Z2.mk 12 ((f.params.length+2:Nat):Int) [])] (Yr [Z2.mk 9 i ys,e5,(Z2.mk 12 ((f.params.length+2:Nat):Int) [])]) (XE [Z2.mk 9 i ys,e5,(Z2.mk 12 ((f.params.length+2:Nat):Int) [])]).symm 3 3 ?_)))
   intro v26
   refine ZZ 2 2 [] (.n 80 (X5 [Z2.mk 9 i ys,e5,(Z2.mk 12 ((f.params.length+2:Nat):Int) [])]) (.p .r)) (Z9 11 (Yv 11 [] [] [] (XG 6 3 [Z2.mk 9 i ys,e5,(Z2.mk 12 ((f.params.length+2:Nat):Int) [])]) (Z9 12 (YG 12 5 [] [] b5 (Yy (Z2.mk 6 3 [Z2.mk 9 i ys,e5,(Z2.mk 12 ((f.params.length+2:Nat):Int) [])])) (de ?_)))))
   exact ZV ⟨(Z2.mk 6 3 [Z2.mk 9 i ys,e5,(Z2.mk 12 ((f.params.length+2:Nat):Int) [])]),p25,(GE.three (s1:=10) (s2:=30) (s3:=1) om om (GE.node (L:=f.params.length) (s:=1) (q:=10) om (fun _=>by omega) om YJ om om om) X4 (GE.var om om om) om),ob,rfl,rfl⟩ (wk [0,1,1,5,5] fl)
  refine ak ?_
  exact ZV ⟨(Z2.mk 1 0 [Z2.mk 9 i ys,Z2.mk 1 0 [e1,Z2.mk 9 i zs]]),p21,(GE.two (s1:=10) (s2:=41) om om (GE.node (L:=f.params.length) (s:=1) (q:=10) om (fun _=>by omega) om YJ om om om) (GE.two (s1:=30) (s2:=10) om om X4 (GE.node (L:=f.params.length) (s:=1) (q:=10) om (fun _=>by omega) om Wf om om om) om) om),ob,rfl,rfl⟩ (wk [0,0,0,2,2] fl)
 rintro F h ⟨eQ,p6,Vw,Jn,rfl,rfl⟩
 refine aD 15 (W2 9 15 [1,2,3,4,5,6] [(6,.p b2 0),(14,.p b5 0),(83,.p rd 0),(84,.agg (Y9 g gb)),(85,Z0 f.params),(87,.ms gb 0 g.funcs.length 4),(88,.i i)] [4,4] [b1,b1] (dx 7 (W5 gb g.funcs.length 4 i.toNat 5 i) (ZX 7 8 [8] 90 (.val (.pointer (some ⟨gb,i.toNat * 5+1,none⟩))) (VP 9 (V0 2 gb 4 4 5 (i.toNat * 5+1) (Zm (Xc rs)) [.i f.result] 3 (.i f.result) (U2 W8 hf 1 rfl (WH rfl))) (Y5 5 6 [11] (.n 93 (ZE eQ) .r) [0] [b5] (Z9 0 (Yv 0 [] [0,2,4,4] [b5,gb,b1,b1] (Ts 0) (Z9 10 (dc 10 [1,1] [0] [b5] (TX rd bs p6 g gb rs f.params f.result 4 (ZD:=ob) (hv:=(by first|omega|(simp only [Yu,YQ,Xp];omega)))) ?_)))))))))
 rintro _ _ ⟨e6,p26,rfl,rfl,Xv⟩
 have X4:=Xv.1
 have TY:=Xv.2
 try rw [Yu] at X4
 rw [hbv.2.1] at X4
 refine Z9 12 (Wn 12 [] [] [ZE (Z2.mk 12 0 []),ZE e6,ZE eQ] (Yr [Z2.mk 12 0 [],e6,eQ]) (XE [Z2.mk 12 0 [],e6,eQ]).symm 3 3 ?_)
 intro v27
 refine ZZ 2 2 [] (.n 94 (X5 [Z2.mk 12 0 [],e6,eQ]) (.p .r)) (Z9 13 (Yv 13 [] [] [] (XG 8 3 [Z2.mk 12 0 [],e6,eQ]) (Z9 14 (YG 14 4 [] [] b2 (Yy (Z2.mk 8 3 [Z2.mk 12 0 [],e6,eQ])) (de ?_)))))
 exact Zc (r3 [2,2] [ZE (Z2.mk 8 3 [Z2.mk 12 0 [],e6,eQ])] [0] [(b2,b2)] ⟨(Z2.mk 8 3 [Z2.mk 12 0 [],e6,eQ]),p26,rfl,rfl,⟨GE.matchT hg (s1:=1) (s2:=30) (s3:=52) (GE.var om om om) X4 Vw om,by omega⟩⟩ (lr _))
theorem S3 (rd:Nat) (bs:List Int) (p:Nat) (g:XV) (gb:Nat) (rs:List Func) (f:Func) (i:Int) (ZD:∀z∈bs,0<=z/\z<=255) (hp:p+1000<=1000000000:=by exact ob) (hg:GP g:=by exact ob) (W8:g.funcs <+: rs:=by exact ob) (hi:0<=i:=by exact ob) (hf:g.funcs[i.toNat]? = some f:=by exact ob) (h0:0<f.params.length:=by exact ob):Zk Tryz.prog 194 [.p rd 0,.agg (Y9 g gb),.i i] [Yl rd bs p,YI gb rs] (fun r h=>∃(e:Z2) (p2:Nat),r=ZE e/\h=[Yl rd bs p2,YI gb rs]/\GE g f.params.length 200 e/\p<=p2/\p2<=p+1000):=by
 obtain ⟨hil,_⟩:=XM.1 hf
 have hgl:=hg.len
 have hso:=(hg.sigs f (Y7 hf)).bd
 have hbv:=C0
 refine ZL 75 Tryz.func194 (ar (iA (Y9 g gb) ?_))
 intro b1
 refine iA [.i 0,.i 0,nl] ?_
 intro b2
 refine ie (ar (iR 3 [(0,.p rd 0),(2,.i i),(4,.p b1 0),(6,.p b2 0),(13,.ms gb 0 g.funcs.length 4),(14,.i i)] [1] [b1] (Zq (W5 gb g.funcs.length 4 i.toNat 5 i) (Z1 1 16 (.val (.pointer (some ⟨gb,i.toNat * 5,none⟩))) (VO (V0 3 gb 4 4 5 (i.toNat * 5+0) (Zm (Xc rs)) [Z0 f.params] 27 (Z0 f.params) (U2 W8 hf 0 rfl (WH rfl))) (Z1 1 7 (Z0 f.params) (ie (ar (Zz [] (Ts 0) (Zz [] (Je 1) (VR [ZE (Z2.mk 12 0 []),ZE (Z2.mk 0 1 [])] (Yr [Z2.mk 12 0 [],Z2.mk 0 1 []]) (XE [Z2.mk 12 0 [],Z2.mk 0 1 []]).symm 2 3 ?_)))))))))))
 intro v1
 refine Z6 0 (.n 20 (X5 [Z2.mk 12 0 [],Z2.mk 0 1 []]) (.p .r)) (Zz [] (XG 2 0 [Z2.mk 12 0 [],Z2.mk 0 1 []]) (VR [ZE (Z2.mk 2 0 [Z2.mk 12 0 [],Z2.mk 0 1 []])] (Yr [Z2.mk 2 0 [Z2.mk 12 0 [],Z2.mk 0 1 []]]) (XE [Z2.mk 2 0 [Z2.mk 12 0 [],Z2.mk 0 1 []]]).symm 1 3 ?_))
 intro v2
 refine Z1 1 8 (XR [Z2.mk 2 0 [Z2.mk 12 0 [],Z2.mk 0 1 []]] v2) (ie (aq (ar (Z1 1 9 (.i 1) (ie (ab 0 (al (fun m F h=>∃(k:Nat) (ys:List Z2) (u:Value) (pq:Nat),(1<=k/\k<=f.params.length)/\(ys.length=k)/\(∀e∈ys,GE g f.params.length 4 e)/\(p<=pq/\pq<=p+30*k)/\F=[(0,.p rd 0),(2,.i i),(4,.p b1 0),(6,.p b2 0),(7,Z0 f.params),(8,XR ys u),(9,.i k)]/\h=[.obj b2 [.i 0,.i 0,nl],.obj b1 (Y9 g gb),Yl rd bs pq,YI gb rs,.tail u 3]/\m=f.params.length-k) _ _ _ ⟨1,[Z2.mk 2 0 [Z2.mk 12 0 [],Z2.mk 0 1 []]],v2,p,ob,ob,(F3 (GE.two (s1:=1) (s2:=1) om om (GE.var om om om) (GE.int om om) om)),ob,rfl,rfl,rfl⟩ (wk [2,2,2,2,0] (fq (fw (fc (x:=.i 1) li fl)))) ?_)))))))
 rintro m F h ⟨k,ys,u,pq,Yo,Zp,ZA,YJ,rfl,rfl,rfl⟩
 refine aq (ar (Yq 2 23 (.i k) 24 (Z0 f.params) (iw (Yf f.params) (Z1 1 26 (.b (decide ((k:Int)<(f.params.length:Int)))) (ie (ZT ((k:Int)<(f.params.length:Int)) (fun Ze=>?_) (fun Ze=>?_)))))))
 ·refine ak (aq (ab 1 (aE 12 (Y5 6 12 [0,1,2,3,4,5] (.n 29 (XR ys u) (.n 30 (.p rd 0) (.n 31 (.agg (Y9 g gb)) (.n 32 (Z0 f.params) (.n 33 (Z0 f.params) (.n 34 (.i k) .r)))))) [1] [b1] ?_))))
  obtain ⟨x1,Z3⟩:=Zu (xs:=f.params) (j:=k) om
  refine dx 6 (Zn none (k:Int) 1 (Y4 Z3)) (ZX 4 5 [7] 36 (.i x1) (Z9 8 (dc 8 [2,2] [] [] (Bu rd bs pq g gb rs f.params x1 (ZD:=ob)) ?_)))
  rintro _ _ ⟨e1,p21,rfl,rfl,ZP⟩
  have hle:=ZP.1
  refine Z9 9 (Wn 9 [] [] [ZE e1] (Yr [e1]) (XE [e1]).symm 1 3 ?_)
  intro v3
  refine ZZ 2 2 [] (.n 38 (X5 [e1]) (.p .r)) (Z9 10 (dp 10 5 [] [] (Yr (ys++[e1])) (Yr ys) (Yr [e1]) u none 3 (Uq _) (Uq _) (Kw _) (by simp<;>omega) (by simp [Kv,Yr]) ?_))
  intro v4
  refine Xd 0 1 [11] [(0,.p rd 0),(2,.i i),(4,.p b1 0),(6,.p b2 0),(7,Z0 f.params),(8,XR (ys++[e1]) v4),(9,.i k)] (de (az (Z1 1 27 (.i k) (ZO k (Z6 1 (.n 9 (.i (k+1:Nat)) (.p (.d (.w (.k (.k .z)))))) (ie ?_))))))
  exact ZU ⟨k+1,(ys++[e1]),v4,p21,ob,ob,(Xr ZA hle),ob,rfl,rfl,rfl⟩ (wk [4,4,2,2,0] (fq (fw (ZW k fl))))
 refine ax 0 (ar (Yq 2 40 (.i i) 41 (X5 ys) (Zz [] (XG 9 i ys) (iA [.i 0,.i 0,nl] ?_))))
 intro b3
 refine ZG 0 b3 (Yy (Z2.mk 9 i ys)) (ie (aq (ar (ZY 3 44 (.ms gb 0 g.funcs.length 4) 45 (.i i) [2] [b1] (Zq (W5 gb g.funcs.length 4 i.toNat 5 i) (Z1 1 47 (.val (.pointer (some ⟨gb,i.toNat * 5+1,none⟩))) (VO (V0 4 gb 4 4 5 (i.toNat * 5+1) (Zm (Xc rs)) [.i f.result] 3 (.i f.result) (U2 W8 hf 1 rfl (WH rfl))) (Z1 1 49 (.b (f.result==1)) (ie (XJ (fun F h=>∃(eQ:Z2) (p6:Nat),(GE g f.params.length 34 eQ)/\(p<=p6/\p6<=p+350)/\F=[(0,.p rd 0),(2,.i i),(4,.p b1 0),(6,.p b2 0),(7,Z0 f.params),(10,.p b3 0)]/\h=[.obj b3 (Yy eQ),.obj b2 [.i 0,.i 0,nl],.obj b1 (Y9 g gb),Yl rd bs p6,YI gb rs]) ?_ ?_))))))))))
 ·refine ac (f.result==1) Zh (fun Zl=>?_) (fun Zl=>?_)
  ·refine aE 8 (W2 4 8 [0,1,2,4] [(0,.p rd 0),(2,.i i),(4,.p b1 0),(6,.p b2 0),(7,Z0 f.params),(10,.p b3 0),(50,.p rd 0),(51,.agg (Y9 g gb)),(52,Z0 f.params),(54,ZE (Z2.mk 9 i ys))] [2,0] [b1,b3] (Z9 3 (dc 3 [3,3] [0] [b3] (TX rd bs pq g gb rs f.params 0 3 (ZD:=ob)) ?_)))
   rintro _ _ ⟨e2,p22,rfl,rfl,Y1⟩
   have X4:=Y1.1
   have TY:=Y1.2
   try rw [Yu] at X4
   first|rw [hbv.2.1] at X4|rw [hbv.1] at X4
   refine Z9 5 (Wn 5 [] [] [ZE e2,ZE (Z2.mk 9 i ys)] (Yr [e2,Z2.mk 9 i ys]) (XE [e2,Z2.mk 9 i ys]).symm 2 3 ?_)
   intro v5
   refine ZZ 2 2 [] (.n 55 (X5 [e2,Z2.mk 9 i ys]) (.p .r)) (Z9 6 (Yv 6 [] [] [] (XG 6 1 [e2,Z2.mk 9 i ys]) (Z9 7 (YG 7 3 [] [] b3 (Yy (Z2.mk 6 1 [e2,Z2.mk 9 i ys])) (de ?_)))))
   exact ZV ⟨(Z2.mk 6 1 [e2,Z2.mk 9 i ys]),p22,(GE.two (s1:=20) (s2:=13) om om X4 (GE.node (L:=f.params.length) (s:=4) (q:=13) om (fun _=>by omega) om ZA om om om) om),ob,rfl,rfl⟩ (wk [0,3,3,1,1] fl)
  refine ak ?_
  exact ZV ⟨(Z2.mk 9 i ys),pq,(GE.le (GE.node (L:=f.params.length) (s:=4) (q:=13) om (fun _=>by omega) om ZA om om om) om),ob,rfl,rfl⟩ (ZK 5 fl)
 rintro F h ⟨eQ,p6,Vw,Jn,rfl,rfl⟩
 refine ar (Zz [] (Je 0) (Zz [] (Ts 0) (VR [ZE (Z2.mk 0 0 []),ZE (Z2.mk 12 0 [])] (Yr [Z2.mk 0 0 [],Z2.mk 12 0 []]) (XE [Z2.mk 0 0 [],Z2.mk 12 0 []]).symm 2 3 ?_)))
 intro v6
 refine ir 0 [(0,.p rd 0),(2,.i i),(4,.p b1 0),(6,.p b2 0),(7,Z0 f.params),(10,.p b3 0),(59,X5 [Z2.mk 0 0 [],Z2.mk 12 0 []])] (Zz [] (XG 4 0 [Z2.mk 0 0 [],Z2.mk 12 0 []]) (iA [.i 0,.i 0,nl] ?_))
 intro b4
 refine ZG 0 b4 (Yy (Z2.mk 4 0 [Z2.mk 0 0 [],Z2.mk 12 0 []])) (ie (aD 15 (W2 7 15 [0,1,2,3,4,5,6,7] [(6,.p b2 0),(61,ZE (Z2.mk 4 0 [Z2.mk 0 0 [],Z2.mk 12 0 []])),(62,ZE eQ),(63,.p rd 0),(64,.agg (Y9 g gb)),(65,Z0 f.params),(67,.ms gb 0 g.funcs.length 4),(68,.i i)] [0,2,4,4] [b4,b3,b1,b1] (dx 8 (W5 gb g.funcs.length 4 i.toNat 5 i) (ZX 5 6 [9] 70 (.val (.pointer (some ⟨gb,i.toNat * 5+1,none⟩))) (VP 10 (V0 6 gb 4 4 5 (i.toNat * 5+1) (Zm (Xc rs)) [.i f.result] 3 (.i f.result) (U2 W8 hf 1 rfl (WH rfl))) (Z9 11 (dc 11 [5,5] [1,0] [b3,b4] (TX rd bs p6 g gb rs f.params f.result 4 (ZD:=ob)) ?_))))))))
 rintro _ _ ⟨e3,p23,rfl,rfl,YB⟩
 have X4:=YB.1
 have TY:=YB.2
 try rw [Yu] at X4
 first|rw [hbv.2.1] at X4|rw [hbv.1] at X4
 refine Z9 12 (Wn 12 [] [] [ZE (Z2.mk 4 0 [Z2.mk 0 0 [],Z2.mk 12 0 []]),ZE eQ,ZE e3] (Yr [Z2.mk 4 0 [Z2.mk 0 0 [],Z2.mk 12 0 []],eQ,e3]) (XE [Z2.mk 4 0 [Z2.mk 0 0 [],Z2.mk 12 0 []],eQ,e3]).symm 3 3 ?_)
 intro v7
 refine ZZ 2 2 [] (.n 73 (X5 [Z2.mk 4 0 [Z2.mk 0 0 [],Z2.mk 12 0 []],eQ,e3]) (.p .r)) (Z9 13 (Yv 13 [] [] [] (XG 7 0 [Z2.mk 4 0 [Z2.mk 0 0 [],Z2.mk 12 0 []],eQ,e3]) (Z9 14 (YG 14 6 [] [] b2 (Yy (Z2.mk 7 0 [Z2.mk 4 0 [Z2.mk 0 0 [],Z2.mk 12 0 []],eQ,e3])) (de ?_)))))
 exact Zc (r3 [2,2] [ZE (Z2.mk 7 0 [Z2.mk 4 0 [Z2.mk 0 0 [],Z2.mk 12 0 []],eQ,e3])] [0] [(b2,b2)] ⟨(Z2.mk 7 0 [Z2.mk 4 0 [Z2.mk 0 0 [],Z2.mk 12 0 []],eQ,e3]),p23,rfl,rfl,⟨GE.three (s1:=3) (s2:=34) (s3:=30) om om (GE.two (s1:=1) (s2:=1) om om (GE.int om om) (GE.var om om om) om) Vw X4 om,by omega⟩⟩ (lr _))
theorem SB (xs:List Int) (t:Int) (hl:xs.length<=1000:=by exact ob):Zk Tryz.prog 189 [Z0 xs,.i t] [] (fun r h=>∃(w:Int),r=.i w/\h=[]/\-1<=w/\w<xs.length):=by
 refine ZL 19 Tryz.func189 (ar (ir 1 [(0,Z0 xs),(1,.i t)] (ie (aq (ar (Z1 1 5 (.i 0) (ie (ab 0 (al (fun m F h=>∃(k:Nat),(k<=xs.length)/\F=[(0,Z0 xs),(1,.i t),(5,.i k)]/\h=[]/\m=xs.length-k) _ _ _ ⟨0,ob,rfl,rfl,rfl⟩ (wk [] (fw (Yh fl))) ?_)))))))))
 rintro m F h ⟨k,Yo,rfl,rfl,rfl⟩
 refine aq (ar (Yq 2 6 (.i k) 7 (Z0 xs) (iw (Yf xs) (Z1 1 9 (.b (decide ((k:Int)<(xs.length:Int)))) (ie (ZT ((k:Int)<(xs.length:Int)) (fun Ze=>?_) (fun Ze=>?_)))))))
 ·refine ak (aq (ab 1 (ar (Yq 2 12 (Z0 xs) 13 (.i k) ?_))))
  obtain ⟨x1,Z3⟩:=Zu (xs:=xs) (j:=k) om
  refine Zq (Zn none (k:Int) 1 (Y4 Z3)) (Z1 3 17 (.b (x1==t)) (ie (ac (x1==t) Zh (fun Zl=>?_) (fun Zl=>?_))))
  ·refine ar (ir 2 [(4,.i k)] (ie ?_))
   exact Zc (r1 [] ⟨(k:Int),rfl,rfl,ob⟩)
  refine ak (az (Z1 1 10 (.i k) (ZO k (ir 1 [(0,Z0 xs),(1,.i t),(5,.i (k+1:Nat))] (ie ?_)))))
  exact ZU ⟨k+1,ob,rfl,rfl,rfl⟩ (wk [] (fw (ZW k fl)))
 refine ax 0 (ar (ir 1 [(4,.i (-1))] (ie ?_)))
 exact Zc (r1 [] ⟨(-1),rfl,rfl,ob⟩)
theorem RJ (rd:Nat) (bs:List Int) (p:Nat) (g:XV) (gb:Nat) (rs:List Func) (f:Func) (i:Int) (ZD:∀z∈bs,0<=z/\z<=255) (hp:p+90000<=1000000000) (hg:GP g) (W8:g.funcs <+: rs) (hi:0<=i) (hf:g.funcs[i.toNat]? = some f) (h0:i=0->f.params.length=0):Zk Tryz.prog 155 [.p rd 0,.agg (Y9 g gb),.i i] [Yl rd bs p,YI gb rs] (fun r h=>∃(e:Z2) (p2:Nat),r=ZE e/\h=[Yl rd bs p2,YI gb rs]/\GE g f.params.length 30 e/\p<=p2/\p2<=p+90000):=by
 obtain ⟨hil,_⟩:=XM.1 hf
 have hgl:=hg.len
 have hso:=(hg.sigs f (Y7 hf)).bd
 have hbv:=C0
 refine ZL 121 Tryz.func155 (ar (iA (Y9 g gb) ?_))
 intro b1
 refine iA [.i 0,.i 0,nl] ?_
 intro b2
 refine ie (ar (iR 3 [(0,.p rd 0),(2,.i i),(4,.p b1 0),(6,.p b2 0),(13,.ms gb 0 g.funcs.length 4),(14,.i i)] [1] [b1] (Zq (W5 gb g.funcs.length 4 i.toNat 5 i) (Z1 1 16 (.val (.pointer (some ⟨gb,i.toNat * 5,none⟩))) (VO (V0 3 gb 4 4 5 (i.toNat * 5+0) (Zm (Xc rs)) [Z0 f.params] 27 (Z0 f.params) (U2 W8 hf 0 rfl (WH rfl))) (Z1 1 7 (Z0 f.params) (ie (ar (ZY 3 19 (.ms gb 0 g.funcs.length 4) 20 (.i i) [1] [b1] (Zq (W5 gb g.funcs.length 4 i.toNat 5 i) (Z1 1 22 (.val (.pointer (some ⟨gb,i.toNat * 5+1,none⟩))) (VO (V0 3 gb 4 4 5 (i.toNat * 5+1) (Zm (Xc rs)) [.i f.result] 3 (.i f.result) (U2 W8 hf 1 rfl (WH rfl))) (Z1 1 8 (.i f.result) (ie (ar (Z1 1 24 (Z0 f.params) (ic [] (SB f.params 1) ?_)))))))))))))))))
 rintro _ _ ⟨w1,rfl,rfl,ZP⟩
 have hpl:=ZP
 refine Z1 1 9 (.i w1) (ie (ar (Zz [] (Je 0) (iA [.i 0,.i 0,nl] ?_))))
 intro b3
 refine ZG 0 b3 (Yy (Z2.mk 0 0 [])) (ie (ar (Z1 1 27 (.p rd 0) (ic [3] (XP rd bs p 4 (ZD:=ob)) ?_))))
 rintro _ _ ⟨k1,rfl,rfl,Y1⟩
 have qhp2:=Y1.lt om
 refine Z1 1 11 (.i k1) (ie (aq (aq (XJ (fun F h=>∃(wb:Bool),(wb=true->i=0)/\F=[(0,.p rd 0),(2,.i i),(4,.p b1 0),(6,.p b2 0),(7,Z0 f.params),(8,.i f.result),(9,.i w1),(10,.p b3 0),(11,.i k1),(34,.b wb)]/\h=[.obj rd [Xb bs,.i (p+1:Nat)],.obj b3 (Yy (Z2.mk 0 0 [])),.obj b2 [.i 0,.i 0,nl],.obj b1 (Y9 g gb),YI gb rs]) ?_ ?_))))
 ·refine az (ir 3 [(0,.p rd 0),(2,.i i),(4,.p b1 0),(6,.p b2 0),(7,Z0 f.params),(8,.i f.result),(9,.i w1),(10,.p b3 0),(11,.i k1),(31,.b (decide (k1<3)))] (ib (b:=(decide (k1<3))) 31 (fun Zb=>?_) (fun Zb=>?_)))
  ·have YB:k1<3:=(dq).1 Zb
   refine Z6 3 (.n 34 (.b (i==0)) (.d (.w (.w (.k .z))))) (ie ?_)
   exact ZV ⟨(i==0),(by first|exact (fun h=>Bool.noConfusion h)|(intro h;omega)|(intro h;simp at h;omega)),rfl,rfl⟩ (ZK 5 fl)
  have YM:¬(k1<3):=ZF dq Zb
  refine Z6 3 (.n 34 (.b false) (.d (.w (.w (.k .z))))) (ie ?_)
  exact ZV ⟨false,(by first|exact (fun h=>Bool.noConfusion h)|(intro h;omega)|(intro h;simp at h;omega)),rfl,rfl⟩ (ZK 5 fl)
 rintro F h ⟨wb,kR6_0,rfl,rfl⟩
 refine XJ (fun F h=>∃(eQ:Z2) (p6:Nat),(GE g f.params.length 200 eQ)/\(p<=p6/\p6<=p+42000)/\F=[(0,.p rd 0),(4,.p b1 0),(6,.p b2 0),(7,Z0 f.params),(8,.i f.result),(10,.p b3 0)]/\h=[Yl rd bs p6,.obj b3 (Yy eQ),.obj b2 [.i 0,.i 0,nl],.obj b1 (Y9 g gb),YI gb rs]) ?_ ?_
 ·refine ac wb Iff.rfl (fun Ze=>?_) (fun Ze=>?_)
  ·refine az (iR 2 [(0,.p rd 0),(4,.p b1 0),(6,.p b2 0),(7,Z0 f.params),(8,.i f.result),(10,.p b3 0),(35,.p rd 0),(36,.agg (Y9 g gb))] [3] [b1] (ic [0,3] (So rd bs (p+1) g gb rs (ZD:=ob)) ?_))
   rintro _ _ ⟨e1,p21,rfl,rfl,YX⟩
   have hbd:=YX.1
   have hbp:=YX.2
   refine ZG 2 b3 (Yy e1) (ie ?_)
   exact ZV ⟨e1,p21,(by rw [h0 (kR6_0 (by assumption))];exact hbd),ob,rfl,rfl⟩ (wk [1,0,1,1,0] fl)
  refine aq (XJ (fun F h=>∃(wb:Bool),(wb=true->0<=w1)/\F=[(0,.p rd 0),(2,.i i),(4,.p b1 0),(6,.p b2 0),(7,Z0 f.params),(8,.i f.result),(9,.i w1),(10,.p b3 0),(11,.i k1),(51,.b wb)]/\h=[.obj rd [Xb bs,.i (p+1:Nat)],.obj b3 (Yy (Z2.mk 0 0 [])),.obj b2 [.i 0,.i 0,nl],.obj b1 (Y9 g gb),YI gb rs]) ?_ ?_)
  ·refine az (ir 3 [(0,.p rd 0),(2,.i i),(4,.p b1 0),(6,.p b2 0),(7,Z0 f.params),(8,.i f.result),(9,.i w1),(10,.p b3 0),(11,.i k1),(40,.b (decide (k1<3)))] (ib (b:=(decide (k1<3))) 40 (fun Zv=>?_) (fun Zv=>?_)))
   ·have Xv:k1<3:=(dq).1 Zv
    refine Z6 4 (.n 44 (.b (decide (w1>=0))) (.d (.w (.w (.k .z))))) (ib (b:=(decide (w1>=0))) 44 (fun Yx=>?_) (fun Yx=>?_))
    ·have Wb:w1>=0:=(dq).1 Yx
     refine Z6 3 (.n 47 (.b (f.result==0)) (.k (.d .r))) (ib (b:=(f.result==0)) 47 (fun Xh=>?_) (fun Xh=>?_))
     ·have WE:f.result=0:=(Zh).1 Xh
      refine Z6 4 (.n 51 (.b true) (.k (.d .r))) (ie ?_)
      exact ZV ⟨true,(by first|exact (fun h=>Bool.noConfusion h)|(intro h;omega)|(intro h;simp at h;omega)),rfl,rfl⟩ (ZK 5 fl)
     have WR:¬(f.result=0):=ZF Zh Xh
     refine Z6 4 (.n 51 (.b (f.result==1)) (.k (.d .r))) (ie ?_)
     exact ZV ⟨(f.result==1),(by first|exact (fun h=>Bool.noConfusion h)|(intro h;omega)|(intro h;simp at h;omega)),rfl,rfl⟩ (ZK 5 fl)
    have Uc:¬(w1>=0):=ZF dq Yx
    refine Z6 7 (.n 51 (.b false) (.d (.d .r))) (ie ?_)
    exact ZV ⟨false,(by first|exact (fun h=>Bool.noConfusion h)|(intro h;omega)|(intro h;simp at h;omega)),rfl,rfl⟩ (ZK 5 fl)
   have UH:¬(k1<3):=ZF dq Zv
   refine Z6 11 (.n 51 (.b false) (.d (.w (.w (.k .z))))) (ie ?_)
   exact ZV ⟨false,(by first|exact (fun h=>Bool.noConfusion h)|(intro h;omega)|(intro h;simp at h;omega)),rfl,rfl⟩ (ZK 5 fl)
  rintro F h ⟨wb,kR8_0,rfl,rfl⟩
  refine ac wb Iff.rfl (fun Zl=>?_) (fun Zl=>?_)
  ·refine az (iR 4 [(0,.p rd 0),(4,.p b1 0),(6,.p b2 0),(7,Z0 f.params),(8,.i f.result),(10,.p b3 0),(52,.p rd 0),(53,.agg (Y9 g gb)),(54,.i i),(55,.i w1)] [3] [b1] (ic [0,3] (Sw rd bs (p+1) g gb rs _ i w1 (ZD:=ob) (hw:=(by have:=kR8_0 (by assumption);omega))) ?_))
   rintro _ _ ⟨e2,p22,rfl,rfl,Uv⟩
   have hbd:=Uv.1
   have hbp:=Uv.2
   refine ZG 2 b3 (Yy e2) (ie ?_)
   exact ZV ⟨e2,p22,(GE.le hbd om),ob,rfl,rfl⟩ (wk [1,0,1,1,0] fl)
  refine aq (XJ (fun F h=>∃(wb:Bool),(wb=true->0<f.params.length)/\F=[(0,.p rd 0),(2,.i i),(4,.p b1 0),(6,.p b2 0),(7,Z0 f.params),(8,.i f.result),(10,.p b3 0),(11,.i k1),(77,.b wb)]/\h=[.obj rd [Xb bs,.i (p+1:Nat)],.obj b3 (Yy (Z2.mk 0 0 [])),.obj b2 [.i 0,.i 0,nl],.obj b1 (Y9 g gb),YI gb rs]) ?_ ?_)
  ·refine az (ir 3 [(0,.p rd 0),(2,.i i),(4,.p b1 0),(6,.p b2 0),(7,Z0 f.params),(8,.i f.result),(10,.p b3 0),(11,.i k1),(59,.b (decide (k1<3)))] (ib (b:=(decide (k1<3))) 59 (fun W9=>?_) (fun W9=>?_)))
   ·have Tt:k1<3:=(dq).1 W9
    refine Z6 1 (.n 60 (Z0 f.params) (.w (.w (.k .z)))) (iw (Yf f.params) (Z1 3 64 (.b (decide ((f.params.length:Int)>0))) (ib (b:=(decide ((f.params.length:Int)>0))) 64 (fun Wx=>?_) (fun Wx=>?_))))
    ·have Ta:(f.params.length:Int)>0:=(dq).1 Wx
     refine Z6 1 (.n 65 (Z0 f.params) (.k (.d .r))) ?_
     obtain ⟨x1,Z3⟩:=Zu (xs:=f.params) (j:=0) om
     refine Zq (Zn none 0 1 (Y4 Z3)) (Z1 4 70 (.b (x1==3)) (ib (b:=(x1==3)) 70 (fun WZ=>?_) (fun WZ=>?_)))
     ·have QF:x1=3:=(Zh).1 WZ
      refine Z6 3 (.n 73 (.b (f.result==0)) (.k (.d .r))) (ib (b:=(f.result==0)) 73 (fun WL=>?_) (fun WL=>?_))
      ·have QG:f.result=0:=(Zh).1 WL
       refine Z6 4 (.n 77 (.b true) (.k (.d .r))) (ie ?_)
       exact ZV ⟨true,(by first|exact (fun h=>Bool.noConfusion h)|(intro h;omega)|(intro h;simp at h;omega)),rfl,rfl⟩ (ZK 5 fl)
      have Jk:¬(f.result=0):=ZF Zh WL
      refine Z6 4 (.n 77 (.b (f.result==3)) (.k (.d .r))) (ie ?_)
      exact ZV ⟨(f.result==3),(by first|exact (fun h=>Bool.noConfusion h)|(intro h;omega)|(intro h;simp at h;omega)),rfl,rfl⟩ (ZK 5 fl)
     have QH:¬(x1=3):=ZF Zh WZ
     refine Z6 7 (.n 77 (.b false) (.k (.d .r))) (ie ?_)
     exact ZV ⟨false,(by first|exact (fun h=>Bool.noConfusion h)|(intro h;omega)|(intro h;simp at h;omega)),rfl,rfl⟩ (ZK 5 fl)
    have Lk:¬((f.params.length:Int)>0):=ZF dq Wx
    refine Z6 13 (.n 77 (.b false) (.k (.d .r))) (ie ?_)
    exact ZV ⟨false,(by first|exact (fun h=>Bool.noConfusion h)|(intro h;omega)|(intro h;simp at h;omega)),rfl,rfl⟩ (ZK 5 fl)
   have Ll:¬(k1<3):=ZF dq W9
   refine Z6 18 (.n 77 (.b false) (.d (.w (.w .z)))) (ie ?_)
   exact ZV ⟨false,(by first|exact (fun h=>Bool.noConfusion h)|(intro h;omega)|(intro h;simp at h;omega)),rfl,rfl⟩ (ZK 5 fl)
  rintro F h ⟨wb,kR10_0,rfl,rfl⟩
  refine ac wb Iff.rfl (fun ZI=>?_) (fun ZI=>?_)
  ·refine az (iR 3 [(0,.p rd 0),(4,.p b1 0),(6,.p b2 0),(7,Z0 f.params),(8,.i f.result),(10,.p b3 0),(78,.p rd 0),(79,.agg (Y9 g gb)),(80,.i i)] [3] [b1] (ic [0,3] (Sx rd bs (p+1) g gb rs _ i (ZD:=ob) (h0:=(kR10_0 (by assumption)))) ?_))
   rintro _ _ ⟨e3,p23,rfl,rfl,Gc⟩
   have hbd:=Gc.1
   have hbp:=Gc.2
   refine ZG 2 b3 (Yy e3) (ie ?_)
   exact ZV ⟨e3,p23,(GE.le hbd om),ob,rfl,rfl⟩ (wk [1,0,1,1,0] fl)
  refine aq (XJ (fun F h=>∃(wb:Bool),(wb=true->0<f.params.length)/\F=[(0,.p rd 0),(2,.i i),(4,.p b1 0),(6,.p b2 0),(7,Z0 f.params),(8,.i f.result),(10,.p b3 0),(102,.b wb)]/\h=[.obj rd [Xb bs,.i (p+1:Nat)],.obj b3 (Yy (Z2.mk 0 0 [])),.obj b2 [.i 0,.i 0,nl],.obj b1 (Y9 g gb),YI gb rs]) ?_ ?_)
  ·refine az (ir 3 [(0,.p rd 0),(2,.i i),(4,.p b1 0),(6,.p b2 0),(7,Z0 f.params),(8,.i f.result),(10,.p b3 0),(84,.b (decide (k1<3)))] (ib (b:=(decide (k1<3))) 84 (fun WM=>?_) (fun WM=>?_)))
   ·have SU:k1<3:=(dq).1 WM
    refine Z6 1 (.n 85 (Z0 f.params) (.w (.w .z))) (iw (Yf f.params) (Z1 3 89 (.b (decide ((f.params.length:Int)>0))) (ib (b:=(decide ((f.params.length:Int)>0))) 89 (fun TE=>?_) (fun TE=>?_))))
    ·have SV:(f.params.length:Int)>0:=(dq).1 TE
     refine Z6 1 (.n 90 (Z0 f.params) (.k (.d .r))) ?_
     obtain ⟨x2,Zy⟩:=Zu (xs:=f.params) (j:=0) om
     refine Zq (Zn none 0 1 (Y4 Zy)) (Z1 4 95 (.b (x2==0)) (ib (b:=(x2==0)) 95 (fun Jh=>?_) (fun Jh=>?_)))
     ·have SW:x2=0:=(Zh).1 Jh
      refine Z6 3 (.n 98 (.b (f.result==0)) (.k (.d .r))) (ib (b:=(f.result==0)) 98 (fun Ji=>?_) (fun Ji=>?_))
      ·have SX:f.result=0:=(Zh).1 Ji
       refine Z6 4 (.n 102 (.b true) (.k (.d .r))) (ie ?_)
       exact ZV ⟨true,(by first|exact (fun h=>Bool.noConfusion h)|(intro h;omega)|(intro h;simp at h;omega)),rfl,rfl⟩ (ZK 5 fl)
      have SY:¬(f.result=0):=ZF Zh Ji
      refine Z6 4 (.n 102 (.b (f.result==1)) (.k (.d .r))) (ie ?_)
      exact ZV ⟨(f.result==1),(by first|exact (fun h=>Bool.noConfusion h)|(intro h;omega)|(intro h;simp at h;omega)),rfl,rfl⟩ (ZK 5 fl)
     have SZ:¬(x2=0):=ZF Zh Jh
     refine Z6 7 (.n 102 (.b false) (.k (.d .r))) (ie ?_)
     exact ZV ⟨false,(by first|exact (fun h=>Bool.noConfusion h)|(intro h;omega)|(intro h;simp at h;omega)),rfl,rfl⟩ (ZK 5 fl)
    have Z00:¬((f.params.length:Int)>0):=ZF dq TE
    refine Z6 13 (.n 102 (.b false) (.k (.d .r))) (ie ?_)
    exact ZV ⟨false,(by first|exact (fun h=>Bool.noConfusion h)|(intro h;omega)|(intro h;simp at h;omega)),rfl,rfl⟩ (ZK 5 fl)
   have Z01:¬(k1<3):=ZF dq WM
   refine Z6 18 (.n 102 (.b false) (.d (.w (.k (.k (.k .z)))))) (ie ?_)
   exact ZV ⟨false,(by first|exact (fun h=>Bool.noConfusion h)|(intro h;omega)|(intro h;simp at h;omega)),rfl,rfl⟩ (ZK 5 fl)
  rintro F h ⟨wb,kR12_0,rfl,rfl⟩
  refine ac wb Iff.rfl (fun Yi=>?_) (fun Yi=>?_)
  ·refine az (iR 3 [(0,.p rd 0),(4,.p b1 0),(6,.p b2 0),(7,Z0 f.params),(8,.i f.result),(10,.p b3 0),(103,.p rd 0),(104,.agg (Y9 g gb)),(105,.i i)] [3] [b1] (ic [0,3] (S3 rd bs (p+1) g gb rs _ i (ZD:=ob) (h0:=(kR12_0 (by assumption)))) ?_))
   rintro _ _ ⟨e4,p24,rfl,rfl,Gd⟩
   have hbd:=Gd.1
   have hbp:=Gd.2
   refine ZG 2 b3 (Yy e4) (ie ?_)
   exact ZV ⟨e4,p24,(GE.le hbd om),ob,rfl,rfl⟩ (wk [1,0,1,1,0] fl)
  refine az (iR 4 [(0,.p rd 0),(4,.p b1 0),(6,.p b2 0),(7,Z0 f.params),(8,.i f.result),(10,.p b3 0),(107,.p rd 0),(108,.agg (Y9 g gb)),(109,Z0 f.params),(110,.i f.result)] [3] [b1] (ic [0,3] (IY rd bs (p+1) g gb rs f.params f.result 18 (ZD:=ob)) ?_))
  rintro _ _ ⟨e5,p25,rfl,rfl,Ge⟩
  have hbd:=Ge.1
  have hbp:=Ge.2
  refine ZG 2 b3 (Yy e5) (ie ?_)
  exact ZV ⟨e5,p25,(GE.le hbd om),ob,rfl,rfl⟩ (wk [1,0,1,1,0] fl)
 rintro F h ⟨eQ,p6,QI,Gk,rfl,rfl⟩
 refine aq (ar (iR 1 [(0,.p rd 0),(4,.p b1 0),(6,.p b2 0),(7,Z0 f.params),(8,.i f.result),(10,.p b3 0),(112,ZE eQ)] [1] [b3] (ic [] (L8 eQ (hz:=(by have:=QI.2;omega))) ?_)))
 rintro _ _ ⟨w2,rfl,rfl,Lm⟩
 have Ga:=Lm
 have XA:=QI.2
 refine Z1 1 114 (.b (decide (w2<0))) (ie (ZT (w2<0) (fun Xk=>?_) (fun Xk=>?_)))
 ·refine ar (iR 4 [(6,.p b2 0),(115,.p rd 0),(116,.agg (Y9 g gb)),(117,Z0 f.params),(118,.i f.result)] [3] [b1] (ic [0,3] (IY rd bs p6 g gb rs f.params f.result 12 (ZD:=ob)) ?_))
  rintro _ _ ⟨e6,p26,rfl,rfl,DM⟩
  have hbd:=DM.1
  have hbp:=DM.2
  refine ZG 3 b2 (Yy e6) (ie ?_)
  exact Zc (r3 [1,1] [ZE e6] [0] [(b2,b2)] ⟨e6,p26,rfl,rfl,⟨hbd,by omega⟩⟩ (lr _))
 refine ak (ar (Yn 1 120 (ZE eQ) [1] [b3] (ZG 2 b2 (Yy eQ) (ie ?_))))
 exact Zc (r3 [1,3] [ZE eQ] [0] [(b2,b2)] ⟨eQ,p6,rfl,rfl,⟨⟨QI.1,by omega⟩,by omega⟩⟩ (lr _))
end Go.Abs
