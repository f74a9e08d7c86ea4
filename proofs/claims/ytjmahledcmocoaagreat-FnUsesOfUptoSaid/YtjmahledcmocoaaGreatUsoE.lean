/-
  FnUsesOfUptoSaid: the law FnUsesOf returns true at every argument of bulk at most 1048576, and the argument reads behind the call as it read before.
-/
import Derived.Test.YtjmahledcmocoaaGreatUsoD
import Derived.Test.YtjmahledcmocoaaGreatRows
import Derived.WalkKit
import Derived.ProofKit
import Derived.OpenShut
import Derived.JoinedCond
import Derived.ReadAgain
set_option linter.all false
set_option linter.unusedVariables false
set_option linter.unusedSimpArgs false
set_option linter.unusedSectionVars false
set_option maxRecDepth 10000
set_option maxHeartbeats 4000000
namespace Go.Abs
open Go.Proofs
theorem LY:∀{w:World} {G:ZY} (ys:LI),Yz w G (Z7 ys) (ys.map (fun z=>Value.int .i64 z))
 | _,_,[]=>.nil
 | _,_,_::r=>.cons .val (LY r)
theorem IG:∀{w:World} {G:ZY} {ys:LI} {vs:List Value},Yz w G (Z7 ys) vs->vs=ys.map (fun z=>Value.int .i64 z)
 | _,_,[],_,.nil=>rfl
 | _,_,_::r,_,.cons h t=>by rw [Ue,<-IG (ys:=r) t,h.val_inv]
theorem LM {w w':World} {G:ZY} {g cap q:Nat} {xs ys:LI} {zs:Array Int} {os:Array Obj} (hh:Yj w G [.vec (.slice (some ⟨g,0,none⟩) xs.length cap) (Z7 xs)])
  (he:w'=Sort.grow (Sort.putRow (Value.int .i64) (Sort.ahead w q) g 0 zs) os) (hz:zs.size=xs.length) (hy:ys.length<=xs.length) (hv:∀j,j<ys.length->zs[j]! = ys[j]!) :
  Yj w' G [.vec (.slice (some ⟨g,0,none⟩) ys.length cap) (Z7 ys)]/\YO w G [.vec (.slice (some ⟨g,0,none⟩) xs.length cap) (Z7 xs)] w' G [.vec (.slice (some ⟨g,0,none⟩) ys.length cap) (Z7 ys)]:=by
 have hmem:Res.vec (.slice (some ⟨g,0,none⟩) xs.length cap) (Z7 xs)∈[Res.vec (.slice (some ⟨g,0,none⟩) xs.length cap) (Z7 xs)]:=YV ..
 rcases hh.ok _ hmem with ⟨e,_⟩|⟨g',cap',cur,el,e,h1,h2,h3,h4⟩
 ·cases e
 ·have h2':xs.length<=cap:=by
   have:=e;simp only [Value.slice.injEq,XP,Addr.mk.injEq] at this
   rw [Ye] at h2;omega
  have e':=e
  simp only [Value.slice.injEq,XP,Addr.mk.injEq,and_true] at e'
  obtain ⟨rfl,hl,rfl⟩:=e'
  have hg:g<w.heap.size:=(Vr.1 h1).1
  have hgs:(Sort.putRow (Value.int .i64) (Sort.ahead w q) g 0 zs).heap.size=w.heap.size:=by rw [Sort.size_putRow];rfl
  have Ac:∀c,c<w.heap.size->w'.heap[c]? = (Sort.putRow (Value.int .i64) (Sort.ahead w q) g 0 zs).heap[c]?:=fun c hc=>by
   rw [he];exact Sort.heap_grow_old _ _ (by rw [hgs];exact hc)
  have hot:∀c,c<w.heap.size->c≠g->w'.heap[c]? = w.heap[c]?:=fun c hc hne=>by
   rw [Ac c hc]
   simp only [Sort.putRow,Sort.mapBlock,Array.getElem?_modify,Zr (Ne.symm hne)]
   rfl
  have hat:w'.heap[g]? = some (.cells (Sort.putCells (Value.int .i64) 0 zs cur) el (0,0)):=by
   rw [Ac g hg]
   simp only [Sort.putRow,Sort.mapBlock,Array.getElem?_modify,if_true]
   show Option.map _ w.heap[g]? = _
   rw [h1];rfl
  have hcs:(Sort.putCells (Value.int .i64) 0 zs cur).size=cur.size:=by simp [Sort.putCells]
  have htk:(Sort.putCells (Value.int .i64) 0 zs cur).toList.take ys.length=ys.map (fun z=>Value.int .i64 z):=by
   apply List.ext_getElem?
   intro j
   rw [T4,Bo,QJ]
   split
   ·rename_i hj
    have hjc:j<cur.size:=by omega
    simp only [Sort.putCells,Array.getElem?_mapIdx,Array.getElem?_eq_getElem hjc,Br,Wt,Nat.sub_zero]
    rw [Zw ⟨Uv _,by omega⟩,hv j hj,Q4 hj,getElem!_pos ys j hj]
    rfl
   ·rename_i hj
    simp [GN (Nat.le_of_not_lt hj)]
  have hio:w'.os=w.os/\w'.tape=w.tape/\w'.output=w.output:=by subst he;exact ⟨rfl,rfl,rfl⟩
  have X5:w.heap.size<=w'.heap.size:=by rw [he,Sort.size_grow,hgs];omega
  refine ⟨⟨fun r hr=>?_,JK _ _,fun r hr c j hf hg2=>?_,fun c j hg2=>?_⟩,
   ⟨hio.1,hio.2.1,hio.2.2,X5,fun _ _ h=>h,fun c hc=>?_,fun _ _ _ h=>.inl h,fun c j hc ⟨r,hr,hf⟩=>?_⟩⟩
  ·rw [Xx.1 hr]
   refine .inr ⟨g,cap,_,el,by rw [Ye],hat,by rw [Ye];omega,hcs.trans h3,?_⟩
   rw [Ye,htk]
   exact LY ys
  ·rw [Xx.1 hr] at hf
   exact hh.prot _ hmem c j hf hg2
  ·have:=hh.lt c j hg2;omega
  ·by_cases hcg:c=g
   ·subst hcg
    exact .inr ⟨cur,_,el,(0,0),h1,hat,hcs,fun o hn=>absurd ⟨_,hmem,rfl⟩ hn⟩
   ·exact .inl (hot c hc hcg)
  ·rw [Xx.1 hr] at hf
   exact ⟨_,hmem,hf⟩
theorem It {w:World} {G:ZY} {g cap:Nat} {xs:LI} {r:List Res} (hh:Yj w G (.vec (.slice (some ⟨g,0,none⟩) xs.length cap) (Z7 xs)::r)) :
  Sort.Holds (Value.int .i64) w g 0 xs.toArray/\g<w.heap.size/\xs.length<=cap:=by
 rcases hh.ok _ (YV ..) with ⟨e,_⟩|⟨g',cap',cur,el,e,h1,h2,h3,h4⟩
 ·cases e
 ·simp only [Value.slice.injEq,XP,Addr.mk.injEq,and_true] at e
  obtain ⟨rfl,hl,rfl⟩:=e
  rw [Ye] at h2 h4
  have hx:=IG h4
  refine ⟨fun j hj=>⟨?_,?_⟩,(Vr.1 h1).1,h2⟩
  ·have hj':j<xs.length:=by simpa using hj
   rw [Wt,cell_of_row w _ j cur el (0,0) h1,<-Bo]
   have h6:(cur.toList.take xs.length)[j]? = some (Value.int .i64 xs[j]):=by rw [hx,QJ,Q4 hj'];rfl
   rw [T4,Zw hj'] at h6
   rw [h6]
   simp [hj']
  ·exact frozen_of_row w _ _ cur el h1
theorem Z3c (g:Hd) (xs:LI) (hl:xs.length<=1000000000) (hne:xs≠[]):W3 Tryz.prog 105 [.h g] [rV g xs] (fun r h=>h=[rV g (xs.mergeSort fun x y=>decide (x<=y))]):=by
 intro w G vs ha hh
 have hvs:vs=[g.v]:=by
  cases ha with
  | cons h1 t=>cases t;rw [h1.val_inv]
 subst hvs
 rcases hh.ok _ (YV ..) with ⟨e,h0⟩|⟨b,cap,cur,el,e,_⟩
 ·exact absurd (by cases xs with|nil=>rfl|cons _ _=>simp [Z7] at h0) hne
 ·rw [Ye] at e
  obtain ⟨ga,gl,gc⟩:=g
  simp only [Hd.v,Value.slice.injEq] at e
  obtain ⟨rfl,rfl,rfl⟩:=e
  obtain ⟨k1,k2,k3⟩:=It hh
  refine (Tryz.sort_int b 0 gc xs w k1 k2 om).mono ?_
  rintro e w' ⟨rfl,q,os,he⟩
  have hlen:(xs.mergeSort fun x y=>decide (x<=y)).length=xs.length:=List.length_mergeSort _
  obtain ⟨m1,m2⟩:=LM (ys:=xs.mergeSort fun x y=>decide (x<=y)) hh he (by simp) om (fun j hj=>by simp [hj])
  rw [hlen] at m1 m2
  exact ⟨_,.tup [],_,G,rfl,rfl,.tup .nil,m1,m2⟩
theorem OK (g:Hd) (xs:LI) (hl:xs.length<=1000000000) (hne:xs≠[]):W3 Tryz.prog 106 [.h g] [rV g xs] (fun r h=>∃u:Hd,r=.h u/\h=[rV u (Lib.compact xs)]):=by
 intro w G vs ha hh
 have hvs:vs=[g.v]:=by
  cases ha with
  | cons h1 t=>cases t;rw [h1.val_inv]
 subst hvs
 rcases hh.ok _ (YV ..) with ⟨e,h0⟩|⟨b,cap,cur,el,e,_⟩
 ·exact absurd (by cases xs with|nil=>rfl|cons _ _=>simp [Z7] at h0) hne
 ·rw [Ye] at e
  obtain ⟨ga,gl,gc⟩:=g
  simp only [Hd.v,Value.slice.injEq] at e
  obtain ⟨rfl,rfl,rfl⟩:=e
  obtain ⟨k1,k2,k3⟩:=It hh
  refine (Tryz.compact_int b 0 gc xs w k1 om k3).mono ?_
  rintro e w' ⟨rfl,q,he⟩
  have hlen:(Lib.compact xs).length<=xs.length:=by
   have:=List.length_filter_le (Lib.keeps xs.toArray) (List.range xs.length)
   simpa [Lib.compact,Lib.compactUpTo] using this
  obtain ⟨m1,m2⟩:=LM (ys:=Lib.compact xs) (os:=#[]) hh (he.trans (Sort.grow_empty _).symm) (by simp;omega) hlen (fun j hj=>by
   rw [getElem!_pos _ j (by simp;omega),getElem!_pos _ j hj]
   simp [List.getElem_append,hj])
  exact ⟨_,_,_,G,rfl,⟨⟨some ⟨b,0,none⟩,(Lib.compact xs).length,gc⟩,rfl,rfl⟩,.val,m1,m2⟩
abbrev Mem:=Nat->Nat->Option Value
abbrev JO:=Nat × Nat
def upd (m:Mem) (a:JO) (z:Int):Mem:=fun g o=>if g=a.1/\o=a.2 then some (.int .i64 z) else m g o
def wr (m:Mem):List JO->Int->Mem
 | [],_=>m
 | a::r,k=>wr (upd m a k) r (k+1)
def Ac (m:Mem):List JO->Int->Prop
 | [],_=>True
 | a::r,k=>m a.1 a.2=some (.int .i64 k)/\Ac m r (k+1)
def IJ (m:Mem) (a:JO):Prop:=∃z,m a.1 a.2=some (.int .i64 z)
structure Kp (m m':Mem):Prop where
 i:∀{a:JO},IJ m a->IJ m' a
 h:∀{g o:Nat} {v:Value},m g o=some v->(∀z,v≠.int .i64 z)->m' g o=some v
section
variable {P:Program} {n:Nat} {ops:Array Oper} {B:Fr->List Res->Prop} {k:Nat} {F:Fr} {h h2:List Res}
end
section
variable {m m':Mem} {B:List Nat}
end
section
variable {m:Mem} {B:List Nat} {g:Nat}
end
section
variable {m:Mem} {B:List Nat}
end
def Zn (g lo hi:Nat) (X:List Nat) (a:JO):Prop:=(a.1=g/\lo<=a.2/\a.2<hi)∨a.1∈X
structure Nd (g lo hi:Nat) (X:List Nat) (as1:List JO):Prop where
 nd:(X.Nodup/\g∉X)->as1.Nodup
 zn:∀a∈as1,Zn g lo hi X a
section
variable {m:Mem} {B:List Nat}
end
def GB (B:List Nat):ZY:=fun b _=>b∈B
section
variable {w:World} {G:ZY} {B:List Nat}
end
section
variable {w:World} {G:ZY} {B:List Nat}
def Is:Value->Hd
 | .slice a l c=>⟨a,l,c⟩
 | _=>⟨none,0,0⟩
abbrev av (y:NA):AV:=.agg [.h (Is y.dv),.h (Is y.rv)]
end
def ND (B:List Nat) (m:Mem) (x:AV) (u:Value):Prop:=
 ∀w:World,(∀b∈B,∃cs e,w.heap[b]? = some (.cells cs e (0,0))/\∀o,cs[o]? = m b o)->RV w (GB B) x u
inductive Bs (bs:List Res):List AV->List AV->Prop
 | nil:Bs bs [] []
 | same {x as1 xs} (t:Bs bs as1 xs):Bs bs (x::as1) (x::xs)
 | gen {B m x a u as1 xs} (h:Res.own B m∈bs) (hr:ND B m x u) (ha:∀w G v,RV w G a v->v=u) (t:Bs bs as1 xs):Bs bs (a::as1) (x::xs)
section
variable {P:Program} {n:Nat} {ops:Array Oper} {B:Fr->List Res->Prop} {k:Nat} {F:Fr} {h:List Res}
end
end Go.Abs
section
namespace Go.Abs
section
variable {P:Program} {n:Nat} {ops:Array Oper} {B:Fr->List Res->Prop} {k:Nat} {F:Fr} {h:List Res}
def Ha (P:Program) (ops:Array Oper) (F:Fr) (k:Nat):Option (Bool × Bool):=
 match (Zz ops k).op with
 | .binOp .eql t x y _=>match P.underlying t with
  | some .bool=>match F.ev x,F.ev y with
   | .val (.bool a),.val (.bool b)=>some (a,b)
   | _,_=>none
  | _=>none
 | _=>none
theorem SS (a b:Bool) (hb:Ha P ops F k=some (a,b):=by kernel_rfl):XM P (Zz ops k) F h [] (.b (a==b)):=by
 unfold Ha at hb
 generalize hoo:Zz ops k=o at hb
 obtain ⟨dst,op,type,pos,after,guard⟩:=o
 cases op<;>simp only at hb<;>try (cases hb)
 rename_i bop t x y yt
 cases bop<;>simp only at hb<;>try (cases hb)
 split at hb
 ·rename_i ht
  split at hb
  ·rename_i a' b' h1 h2
   cases hb
   intro n w G ac hF hh
   have v1:=hF.ev x
   have v2:=hF.ev y
   rw [h1] at v1
   rw [h2] at v2
   have v1:=v1.val_inv
   have v2:=v2.val_inv
   refine ⟨_,.val,fun w' _ _=>?_⟩
   simp only [execOp,v1,v2]
   have he:(Op.equalIn (9999+1) t (.bool a) (.bool b)).run P w'=.ok (a==b) w':=by
    rw [Op.equalIn]
    simp [Sem.run_bind,Vw ht]
   refine WP ?_
   simp only [eqGuard,binOp,Op.equal,Op.maxDepth]
   have he2:(Op.equalIn 10000 t (.bool a) (.bool b)).run P w'=.ok (a==b) w':=he
   simp [Sem.run_bind,he2]
  ·cases hb
 ·cases hb
end
end Go.Abs
namespace Go.Abs
end Go.Abs
namespace Go.Abs
end Go.Abs
end
namespace Go.Abs
open Go.Proofs
theorem Mt (v:Int) (q:Nat) (g:Hd) (xs:LI) (hl:xs.length<=1000000000:=by exact ob):Zf 104 [.i v,.p q 0] [.obj q [.h g],rV g xs] (fun r h=>∃(w:Hd),h=[.obj q [.h w],rV w (xs++[v])]):=by
 exact ZD 7 Tryz.func104 (az (ZV 2 [0] (iL (Z7 [v]) 1 1 fun v1=>ZE 0 [(5,Z6 [v])] (K0 2 g xs [v] none fun v2=>ZA 2 q [.h v2] (ie (r2 [0,0] [] ⟨v2,rfl⟩ (lr _)))))))
theorem Z5w (s:Z4) (q:Nat) (g:Hd) (xs:LI) (ih:∀(b2:Z3) (k2:Nat) (q:Nat) (g:Hd) (xs2:LI),(b2.sz<s.sz)->(k2<=b2.steps.length)->(xs2.length+b2.sz<=1000000000)->Zf 64 [ZC b2,.i k2,.val (.func (.func 104) #[] #[.pointer (some ⟨q,0,none⟩)])] [.obj q [.h g],rV g xs2] (fun r h=>∃(w:Hd),h=[.obj q [.h w],rV w (xs2++(Xt (b2.steps.drop k2)++[b2.result]))])) (hz:xs.length+s.sz<=1000000000):Zf 102 [Yp s,.val (.func (.func 104) #[] #[.pointer (some ⟨q,0,none⟩)])] [.obj q [.h g],rV g xs] (fun r h=>∃(w:Hd),h=[.obj q [.h w],rV w (xs++vS s)]):=by
 have hkz:=U6 s
 have haz:=T7 s
 have hse:=s.sz_eq
 refine ZD 33 Tryz.func102 (ar (iA (Xg s) fun b1=>ie (Y7 2 [0] (Zv [] (IC s.op) (ie (ac (YP s.op) Iff.rfl (fun Z9=>?_) (fun Z9=>?_)))))))
 ·exact ZJ (r2 [1,1] [] ⟨g,rfl⟩ (lr _) (eq:=(rc (rv (xs:=xs) (by rw [Bm,Zw (by assumption),T3]) rz))))
 refine ak (Y7 2 [0] (iw (Ye s.args) (Z1 (ab 0 (Y1 (fun fz gz m F h=>∃(j:Nat) (ys:LI) (u:Hd),(j<=s.args.length)/\(ys.length=xs.length+j)/\(ys++s.args.drop j=xs++s.args)/\F=sF [1,2,12,13] fz [(14,.i j)]/\h=[Za gz 0,.obj q [.h u],rV u ys]/\m=s.args.length-j) _ _ _ ⟨0,xs,g,ob,ob,rfl,rfl,rfl,rfl⟩ (ZT 3 (Yd fl)) ?_)))))
 rintro m F h ⟨j,ys,u,Yf,Zj,Zp,rfl,rfl,rfl⟩
 refine Y9 (aq (VJ ((j:Int)<(s.args.length:Int)) (fun Zg=>?_) (fun Zg=>?_)))
 ·refine ak (aq (ab 1 (ar ?_)))
  obtain ⟨x1,Z5⟩:=Zq s.args j om
  refine Zm (Zh none (j:Int) 1 (ZZ Z5)) (Z1 (az (Z2 2 (ic [1,1] (Mt x1 q u ys) ?_))))
  rintro _ _ ⟨w1,rfl⟩
  exact ie (az (ZF j (Z1 (ZI ⟨j+1,(ys++[x1]),w1,ob,(by simp;omega),(by rw [Yn Z5] at Zp;rw [<-Zp];simp),rfl,rfl,rfl⟩ (wk [2,0,0] (ZL j fl))))))
 have hA:ys=xs++s.args:=by rw [Xz om,T3] at Zp;exact Zp
 refine ax 0 (Zo 2 [0] (iw (Vi s.kids) (Z1 (ab 2 (Y1 (fun fz gz m F h=>∃(i:Nat) (zs:LI) (u2:Hd),(i<=s.kids.length)/\(zs.length+YH (s.kids.drop i)<=xs.length+s.args.length+YH s.kids)/\(zs++WI (s.kids.drop i)=ys++WI s.kids)/\F=sF [1,23,24] fz [(25,.i i)]/\h=[.obj q [.h u2],rV u2 zs]/\m=s.kids.length-i) _ _ _ ⟨0,ys,u,ob,(by rw [Ut];omega),rfl,rfl,rfl,rfl⟩ (wk [1,1] (Yd fl)) ?_)))))
 rintro m F h ⟨i,zs,u2,VX,Wh,Xm,rfl,rfl,rfl⟩
 refine Y9 (aq (VJ ((i:Int)<(s.kids.length:Int)) (fun ZK=>?_) (fun ZK=>?_)))
 ·refine ak (aq (ab 3 (ar ?_)))
  obtain ⟨x2,Zu⟩:=Zq s.kids i om
  have hks:=VP Zu
  have hbd:=Ew Zu
  refine Zm (Zh none (i:Int) 2 (Vu Zu)) (Z2 1 (iA [nl,.i 0] fun b2=>ZA 0 b2 (YK x2) (ie (az (ZV 2 [0] (ic [1,1] (ih x2 0 q u2 zs ob (Uv _) ob) ?_))))))
  rintro _ _ ⟨w2,rfl⟩
  exact ie (az (ZF i (Z1 (ZI ⟨i+1,(zs++(Xt (x2.steps.drop 0)++[x2.result])),w2,ob,(by have h1:=Cp x2;rw [JH] at h1;simp only [Yk,Ut] at h1 ⊢;omega),(by have h1:=Z5l Zu Xm;rw [JH] at h1;exact h1),rfl,rfl,rfl⟩ (wk [0,0] (ZL i fl))))))
 exact ax 2 (r2 [0,0] [] ⟨u2,rfl⟩ (lr _) (eq:=(rc (rv (xs:=zs) (by rw [Bm,Zr (by assumption),<-VT,<-hA];exact Z5k om Xm) rz))))
theorem Z60 (b:Z3) (k0:Nat) (q:Nat) (g:Hd) (xs:LI) (ih:∀(s2:Z4) (q:Nat) (g:Hd) (xs2:LI),(s2.sz<b.sz)->(xs2.length+s2.sz<=1000000000)->Zf 102 [Yp s2,.val (.func (.func 104) #[] #[.pointer (some ⟨q,0,none⟩)])] [.obj q [.h g],rV g xs2] (fun r h=>∃(w:Hd),h=[.obj q [.h w],rV w (xs2++vS s2)])) (hk:k0<=b.steps.length) (hz:xs.length+b.sz<=1000000000):Zf 64 [ZC b,.i k0,.val (.func (.func 104) #[] #[.pointer (some ⟨q,0,none⟩)])] [.obj q [.h g],rV g xs] (fun r h=>∃(w:Hd),h=[.obj q [.h w],rV w (xs++(Xt (b.steps.drop k0)++[b.result]))]):=by
 have hbz:=WR b
 have hbe:=b.sz_eq
 have hsd:=As b.steps k0
 have hdl:(b.steps.drop k0).length=b.steps.length-k0:=Kh
 refine ZD 25 Tryz.func64 (ar (iA (YK b) fun b1=>?_))
 refine ie (Y7 3 [0] (Zm (Kc (es:=Zi b.steps) (hv:=none) (l:=(k0:Int)) (m:=(((Zi b.steps).length:Nat):Int)) (sz:=5) (es':=Zi (b.steps.drop k0)) kr om (by simp<;>omega) (by simp<;>omega) (YX _) (by first|(simp only [VS,V7,T9,T8];done)|(simp only [VS,V7,T9,T8];rfl)|(simp [T9,T8];done))) (io (.i (((b.steps.drop k0).length:Nat):Int)) (.i (((Zi (b.steps.drop k0)).length:Nat):Int)) (li (by rw [WA])) (Z1 (ab 0 (Y1 (fun fz gz m F h=>∃(k:Nat) (ys:LI) (u:Hd),(k<=(b.steps.drop k0).length)/\(ys.length+Y3 ((b.steps.drop k0).drop k)<=xs.length+Y3 (b.steps.drop k0))/\(ys++Xt ((b.steps.drop k0).drop k)=xs++Xt (b.steps.drop k0))/\F=sF [2,3,11,12] fz [(13,.i k)]/\h=[Za gz 0,.obj q [.h u],rV u ys]/\m=(b.steps.drop k0).length-k) _ _ _ ⟨0,xs,g,ob,(YQ _),rfl,rfl,rfl,rfl⟩ (ZT 3 (Yd fl)) ?_))))))
 rintro m F h ⟨k,ys,u,Yf,Zj,Zp,rfl,rfl,rfl⟩
 refine Y9 (aq (VJ ((k:Int)<(((b.steps.drop k0).length:Nat):Int)) (fun Z9=>?_) (fun Z9=>?_)))
 ·refine ak (aq (ab 1 (ar ?_)))
  obtain ⟨x1,Z5⟩:=Zq (b.steps.drop k0) k om
  have hss:=TH (b:=b) (by have h:=Z5;rw [Cv] at h;exact h)
  have hsd1:=Ck Z5
  have hvl:=E3 x1
  refine Zm (Zh none (k:Int) 5 (XR Z5)) (Z2 1 (iA [.i 0,.i 0,.i 0,nl,nl] fun b2=>ZA 0 b2 (Xg x1) (ie (az (ZV 2 [0] (ic [2,2] (ih x1 q u ys ob ob) ?_))))))
  rintro _ _ ⟨w1,rfl⟩
  exact ie (az (ZF k (Z1 (ZI ⟨k+1,(ys++vS x1),w1,ob,(by rw [Yk];omega),(Z5o (xs:=xs) Z5 Zp),rfl,rfl,rfl⟩ (wk [3,0,0] (ZL k fl))))))
 refine ax 0 (az (ZV 3 [0] (ic [1,1] (Mt b.result q u ys) ?_)))
 rintro _ _ ⟨w2,rfl⟩
 exact ie (r2 [0,0] [] ⟨w2,rfl⟩ (lr _) (eq:=(rc (rv (xs:=(ys++[b.result])) (by have h:=Z5n om Zp;rw [<-VT,<-h]) rz))))
theorem Z62 (k:Nat):(∀(s:Z4) (q:Nat) (g:Hd) (xs:LI),(s.sz<=k)->(xs.length+s.sz<=1000000000)->Zf 102 [Yp s,.val (.func (.func 104) #[] #[.pointer (some ⟨q,0,none⟩)])] [.obj q [.h g],rV g xs] (fun r h=>∃(w:Hd),h=[.obj q [.h w],rV w (xs++vS s)]))/\(∀(b:Z3) (k0:Nat) (q:Nat) (g:Hd) (xs:LI),(b.sz<=k)->(k0<=b.steps.length)->(xs.length+b.sz<=1000000000)->Zf 64 [ZC b,.i k0,.val (.func (.func 104) #[] #[.pointer (some ⟨q,0,none⟩)])] [.obj q [.h g],rV g xs] (fun r h=>∃(w:Hd),h=[.obj q [.h w],rV w (xs++(Xt (b.steps.drop k0)++[b.result]))])):=by
 induction k with
 | zero=>exact ⟨fun s q g xs h=>by have:=s.sz_pos;omega,fun b k0 q g xs h=>by have:=b.sz_pos;omega⟩
 | succ k ih=>exact ⟨fun s q g xs h hz=>Z5w s q g xs (fun b2 k2 q g xs2 h2 hk h3=>ih.2 b2 k2 q g xs2 om hk h3) hz,fun b k0 q g xs h hk hz=>Z60 b k0 q g xs (fun s2 q g xs2 h2 h3=>ih.1 s2 q g xs2 om h3) hk hz⟩
theorem Z5z (b:Z3) (k0:Nat) (q:Nat) (g:Hd) (xs:LI) (hk:k0<=b.steps.length:=by exact ob) (hz:xs.length+b.sz<=1000000000:=by exact ob):Zf 64 [ZC b,.i k0,.val (.func (.func 104) #[] #[.pointer (some ⟨q,0,none⟩)])] [.obj q [.h g],rV g xs] (fun r h=>∃(w:Hd),h=[.obj q [.h w],rV w (xs++(Xt (b.steps.drop k0)++[b.result]))]):=(Z62 b.sz).2 b k0 q g xs (YQ _) hk hz
theorem SD (b:Z3) (k0:Nat) (hk:k0<=b.steps.length:=by exact ob) (hz:b.sz<=100000000:=by exact ob):Zf 68 [ZC b,.i k0] [] (fun r h=>∃(w:Hd),r=.h w/\h=[rV w (Ch b k0)]):=by
 have hvl:=E4 (b.steps.drop k0)
 have hsd:=As b.steps k0
 have hbe:=b.sz_eq
 have hll:([]++(Xt (b.steps.drop k0)++[b.result])).length<=100000000:=by simp;omega
 have hne:[]++(Xt (b.steps.drop k0)++[b.result])≠[]:=by simp
 refine ZD 14 Tryz.func68 (ar (iA (YK b) fun b1=>Z1 (ar (iA [nl] fun b2=>Xv (N7 0 b2 [nl] [.h hN] (.cons (Zd.hd (v:=hN)) .nil)) (Xv (At) (ie (Zo 3 [2] (ic [1,0] (Z5z b k0 b2 hN [] (hz:=(by simp;omega))) ?_))))))))
 rintro _ _ ⟨w1,rfl⟩
 refine ie (Zo 1 [0] (ic [1] (Z3c w1 ([]++(Xt (b.steps.drop k0)++[b.result])) om hne) ?_))
 rintro _ _ rfl
 refine ie (Zo 1 [1] (ic [0] (OK w1 (JC ([]++(Xt (b.steps.drop k0)++[b.result]))) (by simp only [JC,List.length_mergeSort];omega) (Z3b hne)) ?_))
 rintro _ _ ⟨u1,rfl,rfl⟩
 exact Zt (r1 [0] ⟨u1,rfl,rfl⟩ (eq:=(rv (xs:=(Lib.compact (JC ([]++(Xt (b.steps.drop k0)++[b.result]))))) rfl rz)))
theorem Of (v:Int) (n:Int) (q:Nat) :Zf 108 [.i v,.p q 0] [.obj q [.i n]] (fun r h=>r=.b ((decide (v>=0))&&(decide (v<n)))/\h=[.obj q [.i n]]):=by
 refine ZD 11 Tryz.func108 (Y9 (ar (Vc 7 [] [(10,.b ((decide (v>=0))&&(decide (v<n))))] (fun gz=>gz) ?_ (fun hj1=>?_))))
 ·exact Zt (r1 [0] ⟨rfl,rfl⟩)
 refine Z2 3 (ib (b:=(decide (v>=0))) 6 (fun Ze=>?_) (fun Ze=>?_))
 ·have ZX:v>=0:=(dq).1 Ze
  exact ZV 4 [0] (Xy (wk [0] (ZP (decide (v<n)) Ze fl)) hj1)
 have Yc:¬(v>=0):=YT dq Ze
 exact Z2 4 (Xy (wk [0] (ZP false Ze fl)) hj1)
theorem Og (xs:LI) (n:Int) (q:Nat) (hl_xs:xs.length<=4294967296:=by exact ob):Zf 107 [Z6 xs,.val (.func (.func 108) #[] #[.pointer (some ⟨q,0,none⟩)])] [.obj q [.i n]] (fun r h=>∃(v:Value),r=ZO (Ux xs n) v/\h=[.tail v 1,.obj q [.i n]]):=by
 refine ZD 23 Tryz.func107 (Y9 (Y9 (X1 1 (iw (Ye xs) (Z1 (ab 0 (NP 1 (Y1 (fun fz gz m F h=>∃(k:Nat) (acc:LI) (u:Value),(k<=xs.length)/\(acc.length<=k)/\(acc++Ux (xs.drop k) n=Ux xs n)/\F=sF [1,8,9] fz [(5,ZO acc u),(10,.i k)]/\h=[Za gz 1,.tail u 1]/\m=xs.length-k) _ _ _ ⟨0,[],(.slice none 0 0),ob,ob,ob,rfl,rfl,rfl⟩ (wk [1,0] (fc (x:=nl) (Zd.slh _ (by first|rfl|(subst_vars;rfl))) (Yd fl))) ?_))))))))
 rintro m F h ⟨k,acc,u,Yf,Zj,Zp,rfl,rfl,rfl⟩
 refine Y9 (aq (VJ ((k:Int)<(xs.length:Int)) (fun Z9=>?_) (fun Z9=>?_)))
 ·refine ak (aq (ab 1 (ar ?_)))
  obtain ⟨x1,Z5⟩:=Zq xs k om
  refine Zm (Zh none (k:Int) 1 (ZZ Z5)) (Z1 (Yg 2 (Zv [0] (Of x1 n q) (ie (Kw (fun fz gz F h=>∃(w:Value),F=sF [1,8,9,10] fz [(5,ZO (if 0<=x1/\x1<n then acc++[x1] else acc) w)]/\h=[Za gz 0,.tail w 1]) (fun _ _=>rfl) ?_ ?_)))))
  ·refine ac ((decide (x1>=0))&&(decide (x1<n))) (p:=0<=x1/\x1<n) (Xr dq dq) (fun Zg=>?_) (fun Zg=>?_)
   ·exact az (Z2 2 (iL (Z7 [x1]) 1 1 fun v1=>ZE 0 [(19,Z6 [x1])] (ip 2 (Z7 (acc++[x1])) (Z7 acc) (Z7 [x1]) u none 1 (Yw _) (Yw _) (XT _) (by simp<;>omega) (by simp [XQ,Z7]) fun v2=>Z1 (ZH ⟨v2,rfl,rfl⟩ (wk [2,0] (fc (x:=ZO (acc++[x1]) v2) (Zd.slh _ (Yr Z7 (by first|rfl|(rw [Zw Zg])|(rw [Zr Zg])|(simp [Zg];done)|(rw [Xl];simp [Zg];done)|omega))) fl))))))
   exact ak (ZH ⟨u,rfl,rfl⟩ (wk [0,0] (fc (x:=ZO acc u) (Zd.slh _ (Yr Z7 (by first|rfl|(rw [Zw Zg])|(rw [Zr Zg])|(simp [Zg];done)|(rw [Xl];simp [Zg];done)|omega))) fl)))
  rintro F h ⟨w,rfl,rfl⟩
  exact az (ZF k (Z1 (ZI ⟨k+1,(if 0<=x1/\x1<n then acc++[x1] else acc),w,ob,(by split<;>(try simp)<;>omega),(Oi Z5 Zp),rfl,rfl,rfl⟩ (wk [0,0] (fr (ZL k fl))))))
 exact ax 0 (ar (Zt (r2 [1,0] [ZO acc u] ⟨u,rfl,rfl⟩ (Zd.slh _ (Yr Z7 (Oh om Zp))))))
theorem Z39 (xs:LI) (n:Int) (hl_xs:xs.length<=4294967296:=by exact ob):Zf 69 [Z6 xs,.i n] [] (fun r h=>∃(v:Value),r=ZO (Ux xs n) v/\h=[.tail v 1]):=by
 refine ZD 8 Tryz.func69 (ar (iA [.i n] fun b1=>Z1 (Yg 2 (ic [0] (Og xs n b1) ?_))))
 rintro _ _ ⟨v1,rfl,rfl⟩
 exact Zt (r1 [0] ⟨v1,rfl,rfl⟩)
theorem Sz (b:Z3) (n:Int) (hb:b.sz<=20000000:=by exact ob):Zf 24 [ZC b,.i n] [] (Yu (Z6 (Ke b n))):=by
 have hsl:=Z38 b 0
 refine ZD 12 Tryz.func24 (ar (iA (YK b) fun b1=>Z1 (Y7 1 [0] (Zv [] (IB b) (ZQ ((Ub b)<0) (fun Z9=>?_) (fun Z9=>?_))))))
 ·exact ar (Zt (Y4 (nl) (Zd.sl _ (by rw [Ke,Zw (by assumption)];rfl))))
 refine ak (Zo 1 [0] (ic [] (SD b 0 (hk:=(Uv _))) ?_))
 rintro _ _ ⟨w1,rfl,rfl⟩
 refine Z2 1 (Sh [0] [rV w1 (Ch b 0)] (Z39 (Ch b 0) n) OB (gL (v:=w1) 0 (gS gN)) (TU QC) ?_)
 rintro _ _ ⟨v1,rfl,rfl⟩
 exact Zt (Y4 (ZO (Ux (Ch b 0) n) v1) (Zd.sl _ (Yr Z7 (by rw [Ke,Zr (by assumption)];exact Z3a n b 0))))
theorem Z09 (xs:LI) (n:Int) (hl:xs.length<=1000000000:=by exact ob):Zf 23 [Z6 xs,.i n] [] (Yu (.b (decide (n∈xs)))):=by
 refine ZD 18 Tryz.func23 (Y9 (Y0 (ab 0 (Y1 (fun fz gz m F h=>∃(k:Nat),(k<=xs.length)/\(n∉xs.take k)/\F=sF [0,1] fz [(5,.i k)]/\h=gz/\m=xs.length-k) _ _ _ ⟨0,ob,(by simp),rfl,rfl,rfl⟩ (wk [] (Yd fl)) ?_))))
 rintro m F h ⟨k,Yf,Zj,rfl,rfl,rfl⟩
 refine X1 2 (iw (Ye xs) (ZQ ((k:Int)<(xs.length:Int)) (fun Z9=>?_) (fun Z9=>?_)))
 ·refine ak (aq (ab 1 (Yg 2 ?_)))
  obtain ⟨x1,Z5⟩:=Zq xs k om
  refine Zm (Zh none (k:Int) 1 (ZZ Z5)) (YR (x1==n) ZB (fun Zg=>?_) (fun Zg=>?_))
  ·exact ar (Zt (Y4 (.b true) (lb (by rw [eq_comm,dq];have:=Zg;subst this;exact ZW Z5))))
  exact ak (az (Z2 1 (ZF k (Z1 (ZI ⟨k+1,ob,(Z14 Z5 Zj Zg),rfl,rfl,rfl⟩ (wk [] (ZL k fl)))))))
 exact ax 0 (ar (Zt (Y4 (.b false) (lb (by rw [eq_comm,decide_eq_false_iff_not];rwa [WS om] at Zj)))))
theorem PX (rd:Nat) (bs:LI) (p:Nat) (Zs:∀z∈bs,0<=z/\z<=255) (hp:p+73706410<=1000000000:=by exact ob):Zf 61 [.p rd 0] [Yb rd bs p] (fun r h=>∃(b:Z3) (p2:Nat),r=ZC b/\h=[Yb rd bs p2]/\b.sz<=7330634/\b.rng/\b.rb/\p<=p2/\p2<=p+73706410):=by
 refine ZD 57 Tryz.func61 (ar (iA [nl,.i 0] fun b1=>ie (Yg 1 (ic [1] (PZ rd bs p (Zs:=ob)) ?_))))
 rintro _ _ ⟨n21,p21,rfl,rfl,ZX⟩
 have haf:=ZX
 refine iA [nl,nl] fun b2=>ZA 0 b2 (YN n21) (ie (aD 12 (ZG 7 12 [0,1,2,3,4] [0,0] (dw 5 (Uo n21.routines) (WT 6 10 ?_ ?_)))))
 ·refine dc 6 [1] [0] [b2] (UQ rd bs p21 n21.routines.length (Zs:=ob) (hmx:=(by first|(have:=haf.1.len;omega)|omega))) ?_
  rintro _ _ ⟨Ym,rfl,rfl,Yc⟩
  obtain ⟨x1,Z5⟩:=Zq n21.routines Ym om
  have hz1:=haf.1.rt _ (ZW Z5)
  have hz1b:=haf.1.rb _ (ZW Z5)
  have hzl:=FJ (x1).body
  have hze:=(x1).body.sz_eq
  refine dx 7 (Zh none (Ym:Int) 5 (Wz Z5)) (Zk 2 4 [8,9] (Z8 10 (dA 10 [1] [b2] [nl,.i 0] fun b3=>Z8 11 (Yy 11 0 [] [] b3 (YK x1.body) (de (Zo 3 [0] (iw (WA x1.body.steps) (ia (((x1.body.steps.length+1:Nat):Int)) (((x1.body.steps.length:Int))+(1)) (ic [1] (UQ rd bs (p21+1) (x1.body.steps.length+1) (Zs:=ob) (hmx:=(by first|(have:=haf.1.len;omega)|omega))) ?_)))))))))
  rintro _ _ ⟨YB,rfl,rfl,YM⟩
  refine Z1 (Y7 3 [1] (iw (WA x1.body.steps) (Z2 2 (ib (b:=(decide ((YB:Int)<(x1.body.steps.length:Int)))) 29 (fun Ze=>?_) (fun Ze=>?_)))))
  ·have YZ:(YB:Int)<(x1.body.steps.length:Int):=(dq).1 Ze
   refine ZV 3 [1] ?_
   obtain ⟨x2,Zu⟩:=Zq x1.body.steps YB om
   refine Zm (Zh none (YB:Int) 5 (XR Zu)) (Z2 2 (iw (Vi x2.kids) (ZQ ((x2.kids.length:Int)>0) (fun Z9=>?_) (fun Z9=>?_))))
   ·refine aD 18 (ZG 15 18 [0,1,2] [1] (dx 3 (Zh none (YB:Int) 5 (XR Zu)) (ZG 8 14 [4,5,6,7,8,9] [1] (dx 10 (Zh none (YB:Int) 5 (XR Zu)) (Zk 5 7 [11,12] (dw 13 (Vi x2.kids) (Z8 14 (dc 14 [0] [0] [b3] (UQ rd bs ((p21+1)+1) x2.kids.length (Zs:=ob) (hmx:=(by first|(have:=haf.1.len;omega)|omega))) ?_))))))))
    rintro _ _ ⟨BX,rfl,rfl,X7⟩
    obtain ⟨x3,X0⟩:=Zq x2.kids BX om
    have hkg:=IU hz1.2.2 (by assumption) X0
    have hkb:=(G0 ⟨hz1.2.2.2,hz1b⟩ (by assumption) X0).2
    exact dx 15 (Zh none (BX:Int) 2 (Vu X0)) (Zk 1 2 [16] (Z8 17 (Yy 17 3 [] [] b1 (YK x3) (de (ZJ (r3 [1] [ZC x3] [0] [(b1,b1)] ⟨x3,((p21+1)+1)+1,rfl,rfl,(by first|exact ⟨by omega,hkg.2,hkb,by omega,by omega⟩|exact ⟨by omega,hz1.2.2.2,hz1b,by omega,by omega⟩)⟩ (lr _)))))))
   exact ak (Zo 1 [1] (ZA 3 b1 (YK x1.body) (ie (ZJ (r3 [1] [ZC x1.body] [0] [(b1,b1)] ⟨x1.body,(p21+1)+1,rfl,rfl,(by first|exact ⟨by omega,hkg.2,hkb,by omega,by omega⟩|exact ⟨by omega,hz1.2.2.2,hz1b,by omega,by omega⟩)⟩ (lr _))))))
  have XX:¬((YB:Int)<(x1.body.steps.length:Int)):=YT dq Ze
  exact Z1 (Wx (ak (Zo 1 [1] (ZA 3 b1 (YK x1.body) (ie (ZJ (r3 [1] [ZC x1.body] [0] [(b1,b1)] ⟨x1.body,(p21+1)+1,rfl,rfl,(by first|exact ⟨by omega,hkg.2,hkb,by omega,by omega⟩|exact ⟨by omega,hz1.2.2.2,hz1b,by omega,by omega⟩)⟩ (lr _))))))))
 refine dA 10 [0,0] [b2,b2] [nl,.i 0] fun b4=>Z8 6 (dc 6 [2] [1] [b2] (UQ rd bs p21 n21.routines.length (Zs:=ob) (hmx:=(by first|(have:=haf.1.len;omega)|omega))) ?_)
 rintro _ _ ⟨Uk,rfl,rfl,Wu⟩
 obtain ⟨x4,Tc⟩:=Zq n21.routines Uk om
 have hz1:=haf.1.rt _ (ZW Tc)
 have hz1b:=haf.1.rb _ (ZW Tc)
 have hzl:=FJ (x4).body
 have hze:=(x4).body.sz_eq
 refine dx 7 (Zh none (Uk:Int) 5 (Wz Tc)) (Zk 1 3 [8,9] (Z8 11 (Yy 11 1 [] [] b4 (YK x4.body) (de (Zo 3 [0] (iw (WA x4.body.steps) (ia (((x4.body.steps.length+1:Nat):Int)) (((x4.body.steps.length:Int))+(1)) (ic [1] (UQ rd bs (p21+1) (x4.body.steps.length+1) (Zs:=ob) (hmx:=(by first|(have:=haf.1.len;omega)|omega))) ?_))))))))
 rintro _ _ ⟨Ag,rfl,rfl,V3⟩
 refine Z1 (Y7 3 [1] (iw (WA x4.body.steps) (Z2 2 (ib (b:=(decide ((Ag:Int)<(x4.body.steps.length:Int)))) 29 (fun ZU=>?_) (fun ZU=>?_)))))
 ·have Vk:(Ag:Int)<(x4.body.steps.length:Int):=(dq).1 ZU
  refine ZV 3 [1] ?_
  obtain ⟨x5,UW⟩:=Zq x4.body.steps Ag om
  refine Zm (Zh none (Ag:Int) 5 (XR UW)) (Z2 2 (iw (Vi x5.kids) (ZQ ((x5.kids.length:Int)>0) (fun Zg=>?_) (fun Zg=>?_))))
  ·refine aD 18 (ZG 15 18 [0,1,2] [1] (dx 3 (Zh none (Ag:Int) 5 (XR UW)) (ZG 8 14 [4,5,6,7,8,9] [1] (dx 10 (Zh none (Ag:Int) 5 (XR UW)) (Zk 5 7 [11,12] (dw 13 (Vi x5.kids) (Z8 14 (dc 14 [0] [0] [b4] (UQ rd bs ((p21+1)+1) x5.kids.length (Zs:=ob) (hmx:=(by first|(have:=haf.1.len;omega)|omega))) ?_))))))))
   rintro _ _ ⟨IW,rfl,rfl,UT⟩
   obtain ⟨x6,Qz⟩:=Zq x5.kids IW om
   have hkg:=IU hz1.2.2 (by assumption) Qz
   have hkb:=(G0 ⟨hz1.2.2.2,hz1b⟩ (by assumption) Qz).2
   exact dx 15 (Zh none (IW:Int) 2 (Vu Qz)) (Zk 1 2 [16] (Z8 17 (Yy 17 3 [] [] b1 (YK x6) (de (ZJ (r3 [1] [ZC x6] [0] [(b1,b1)] ⟨x6,((p21+1)+1)+1,rfl,rfl,(by first|exact ⟨by omega,hkg.2,hkb,by omega,by omega⟩|exact ⟨by omega,hz1.2.2.2,hz1b,by omega,by omega⟩)⟩ (lr _)))))))
  exact ak (Zo 1 [1] (ZA 3 b1 (YK x4.body) (ie (ZJ (r3 [1] [ZC x4.body] [0] [(b1,b1)] ⟨x4.body,(p21+1)+1,rfl,rfl,(by first|exact ⟨by omega,hkg.2,hkb,by omega,by omega⟩|exact ⟨by omega,hz1.2.2.2,hz1b,by omega,by omega⟩)⟩ (lr _))))))
 have UU:¬((Ag:Int)<(x4.body.steps.length:Int)):=YT dq ZU
 exact Z1 (Wx (ak (Zo 1 [1] (ZA 3 b1 (YK x4.body) (ie (ZJ (r3 [1] [ZC x4.body] [0] [(b1,b1)] ⟨x4.body,(p21+1)+1,rfl,rfl,(by first|exact ⟨by omega,hkg.2,hkb,by omega,by omega⟩|exact ⟨by omega,hz1.2.2.2,hz1b,by omega,by omega⟩)⟩ (lr _))))))))
theorem PW (code:LI) (hcl:code.length<=1048576:=by exact ob) (hcb:∀z∈code,0<=z/\z<=255):Zf 20 [Vd code] [] (fun r h=>∃(b:Z3) (z:Int),r=.tup [ZC b,.i z]/\h=[]/\b.sz<=7330634/\b.rng/\-1000000000<=z/\z<=1000000000):=by
 refine ZD 16 Tryz.func20 (ar (iA [nl,.i 0] fun b1=>Z1 (Yg 1 (ic [] (RK code (hc:=hcb)) ?_))))
 rintro _ _ ⟨rd1,bs1,rfl,rfl,ZX⟩
 have hnr:=ZX
 refine Z1 (Yg 1 (ic [0] (PX rd1 bs1 0 (Zs:=hnr)) ?_))
 rintro _ _ ⟨b2,p21,rfl,rfl,Yc⟩
 have hab:=Yc
 have hrb:=hab.2.2.1
 rw [Z3.rb_eq] at hrb
 refine iA [nl,.i 0] fun b3=>ZA 0 b3 (YK b2) (ie (aD 8 (ZG 4 8 [0,1,2,3] [0,0] (Z8 4 (dL 4 [0] [b3] (Z7 [0,1,2,3,4,6,-1,b2.result]) 8 1 fun v1=>Yh 3 3 [] [(14,Z6 [0,1,2,3,4,6,-1,b2.result])] (Z8 5 (dc 5 [2] [0] [b3] (WV rd1 bs1 p21 [0,1,2,3,4,6,-1,b2.result] (Zs:=hnr)) ?_)))))))
 rintro _ _ ⟨z1,rfl,rfl,YM⟩
 have hon:=YM
 simp only [Yq,List.not_mem_nil,or_false] at hon
 exact Z8 6 (Yy 6 3 [] [] b1 (YK b2) (Zk 0 1 [7] (de (ZJ (r3 [] [ZC b2,.i z1] [0] [(b1,b1)] ⟨b2,z1,rfl,rfl,⟨hab.1,hab.2.1,by omega,by omega⟩⟩ (lr _))))))
theorem Z08 (code:LI) (hcb:∀z∈code,0<=z/\z<=255):Zf 4 [Vd code] [] (Yu (.b true)):=by
 refine ZD 44 Tryz.func4 (Y9 (X1 1 (iw (Qe code) (ZQ ((code.length:Int)>1048576) (fun Z9=>?_) (fun Z9=>?_)))))
 ·exact ar (Zt (N3))
 have hcl:code.length<=1048576:=by omega
 refine ak (Yg 1 (ic [] (PW code (hcl:=hcl) (hcb:=hcb)) ?_))
 rintro _ _ ⟨b1,z1,rfl,rfl,ZX⟩
 obtain ⟨hbz,hbr,hz0,hz9⟩:=ZX
 have hl1:=Z59 b1 (z1+1)
 have hl2:=Nc b1 (z1+1) (C1 b1 z1)
 have hl3:=Nc b1 (z1+1) (C1 b1 z1+1)
 have hbl:=FJ b1
 have hub:=Z5a b1 z1
 have hlb:=Z0r b1 z1
 refine Z2 3 (iA [nl,.i 0] fun b2=>ZA 0 b2 (YK b1) (Z1 (Zo 2 [0] (Zv [] (SA b1 z1) (Z1 (Y7 3 [0] (Zv [] (MA b1 z1) (Vc 9 [3,4,5] [(25,.b (((XO b1 z1) != (XO b1 z1))||(decide ((XO b1 z1)<0))))] (fun gz=>gz) ?_ (fun hj1=>?_)))))))))
 ·refine XN [3,4,5] [(29,.b ((((XO b1 z1) != (XO b1 z1))||(decide ((XO b1 z1)<0)))||(decide (z1<0))))] (fun gz=>gz) ?_ ?_
  ·refine Z2 1 (ib (b:=(((XO b1 z1) != (XO b1 z1))||(decide ((XO b1 z1)<0)))) 26 (fun Ze=>?_) (fun Ze=>?_))
   ·have Yc:((XO b1 z1)≠(XO b1 z1))∨((XO b1 z1)<0):=((Xu Xa dq)).1 Ze
    exact Z1 (wk [0] (fc (x:=.b true) (lb (by rw [Ze];rfl)) fl))
   have YM:¬(((XO b1 z1)≠(XO b1 z1))∨((XO b1 z1)<0)):=YT (Xu Xa dq) Ze
   exact Z1 (wk [0] (fc (x:=.b (decide (z1<0))) (lb (by rw [Ze];rfl)) fl))
  refine ac ((((XO b1 z1) != (XO b1 z1))||(decide ((XO b1 z1)<0)))||(decide (z1<0))) (p:=(((XO b1 z1)≠(XO b1 z1))∨((XO b1 z1)<0))∨(z1<0)) (Xu (Xu Xa dq) dq) (fun Zg=>?_) (fun Zg=>?_)
  ·exact Zo 3 [0] (Zv [] (MA b1 z1) (Zt (Y4 (.b ((XO b1 z1)==(XO b1 z1))) (lb (by first|(simp;done)|(rw [Nf om om];simp))))))
  exact ak (Zo 4 [0] (ia ((z1+1)) ((z1)+(1)) (Zv [] (Sz b1 (z1+1)) (Z2 1 (Zv [] (Z09 (Ke b1 (z1+1)) z1) (Zm (SS (decide ((XO b1 z1)>0)) (decide (z1∈(Ke b1 (z1+1))))) (Zt (Y4 (.b ((decide ((XO b1 z1)>0))==(decide (z1∈(Ke b1 (z1+1)))))) (lb (by first|(simp;done)|(rw [Nf om om];simp)))))))))))
 refine Z2 2 (ib (b:=((XO b1 z1) != (XO b1 z1))) 22 (fun ZU=>?_) (fun ZU=>?_))
 ·have YZ:(XO b1 z1)≠(XO b1 z1):=(Xa).1 ZU
  exact Z2 3 (Xy (wk [0] (fc (x:=.b true) (lb (by rw [ZU];rfl)) fl)) hj1)
 have X7:¬((XO b1 z1)≠(XO b1 z1)):=YT Xa ZU
 exact Z2 3 (Xy (wk [0] (fc (x:=.b (decide ((XO b1 z1)<0))) (lb (by rw [ZU];rfl)) fl)) hj1)
end Go.Abs
section
namespace Go.Proofs.YtjmahledcmocoaaGreat.fnUsesOf
open Go.ChangeShapes Go.WideShapes Go.ChangeAt Go.RowKit Go.Abs
theorem own:ownKnob Tryz.prog.godebug=none:=by kernel_rfl
theorem kids:Kids Tryz.prog (·<Tryz.prog.types.size):=kids_rows kr kr
theorem PV:∀t e,t<Tryz.prog.types.size->Tryz.prog.underlying t=some (.slice e)->0<Tryz.prog.cellsOf e:=slices_full_of Tryz.prog kr
theorem Mk {w w':World} {G G':ZY} {h':List Res} (hx:YO w G [] w' G' h'):∀b,b<w.heap.size->w'.heap[b]? = w.heap[b]?:=
 fun b hb=>(hx.same b hb).eq fun o ⟨r,hr,_⟩=>by cases hr
theorem Oz {w w':World} {b o:Nat} (h:w'.heap[b]? = w.heap[b]?):w'.cell? ⟨b,o,none⟩=w.cell? ⟨b,o,none⟩:=by simp [World.cell?,h]
theorem Z0q {t:Nat} (h:Nat.blt t Tryz.prog.types.size=true):t<Tryz.prog.types.size:=Nat.le_of_ble_eq_true h
set_option maxRecDepth 100000 in
theorem OR (H:Type) (enc:TypeId × Value->H) (W:World) (base:Nat) (args:Array Value) (ds gs:List (DataW H)) (before:List MemPlace) (hval:∀(j:Nat) t v,Tryz.f4.params[j]? = some t->args[j]? = some v->Value.okWide Tryz.prog W .any base t v)
  (hW:DataW.Whole enc Tryz.prog Tryz.f4.params.toList Rows.fnUsesOfSpec.vars false W args.toList ds gs before) :
  Calls Tryz.prog 4 args W fun e W'=>∃v,e=.returned v/\Rows.fnUsesOfSpec.post enc Tryz.prog Tryz.f4 false true false false W args v W':=by
 have hW':=hW
 obtain ⟨p,q,hA0,hV,rfl,hfz,hnd⟩:=hW
 have hA:DataW.TrodAll enc Tryz.prog W 0 (fun _=>true) true Tryz.f4.params.toList args.toList ds p:=hA0
 rw [Tryz.params4] at hA
 obtain ⟨v0,vs0,d0,ds0,p0,q0,hargs,rfl,rfl,h0,r0⟩:=trodAll_cons hA
 obtain ⟨rfl,rfl,rfl⟩:=trodAll_nil r0
 obtain rfl:args=#[v0]:=by cases args;simp_all
 obtain ⟨rfl,rfl⟩:=trodVars_none hV
 obtain ⟨fuel,htr⟩:=h0
 obtain ⟨qa,ql,qc,rfl⟩:=okWide_slice Tryz.underlying22 (hval 0 22 v0 kr rfl)
 obtain ⟨v1,code,hv1,hrv,hcb⟩:=Z21 htr
 have hv1:[Value.slice qa ql qc]=[v1]:=hv1
 cases hv1
 have hh:Yj W (GA W) []:=⟨(fun r hr=>by cases hr),List.Pairwise.nil,(fun r hr=>by cases hr),fun b o hg=>hg⟩
 refine (Z08 code hcb W (GA W) [.slice qa ql qc] (.cons hrv .nil) hh).mono ?_
 rintro e W' ⟨v,r,h',G',rfl,⟨rfl,rfl⟩,hv,hh',hx⟩
 have hvb:=hv.val_inv
 subst hvb
 refine ⟨_,rfl,[d0],[],p0++[]++[],[],p0++[],[],hW',?_,?_,rfl,?_,(fun h=>by cases h)⟩
 ·exact trodAll_cons_mk (shut_bool Tryz.underlying4 _) trodAll_mk0
 ·have Ac:∀b,b<W.heap.size->W'.heap[b]? = W.heap[b]?:=Mk hx
  have hlt:=hW'.lt
  have hcar:DataW.TrodAll enc Tryz.prog W' 0 (fun _=>true) true Tryz.f4.params.toList [.slice qa ql qc] [d0] (p0++[]):=by
   rw [Tryz.params4]
   refine ⟨p0,[],⟨fuel,DataW.trod_carry fuel 22 _ _ htr fun y hy=>?_⟩,rfl,rfl⟩
   have hyl:=hlt y (by simpa using hy)
   cases y with
   | cell b o=>exact Oz (Ac b hyl)
   | map b=>exact Ac b hyl
  exact DataW.TrodAll.respare kids PV (by rw [Tryz.params4];intro t ht;rw [List.mem_singleton.1 ht];exact Z0q kr) hcar (fun y hy=>by have:=hlt y (by simpa using hy);simpa using this)
 ·refine ⟨hx.os,hx.output,fun i hi=>?_⟩
  rw [Mk hx i hi]
  cases W.heap[i]? with
  | none=>rfl
  | some o=>cases o<;>first | rfl | exact ⟨rfl,rfl,rfl,fun _ _=>rfl⟩ | exact .inr ⟨rfl,rfl⟩
set_option maxRecDepth 100000 in
theorem Z0p (os:Os) (started:os.Started) (H:Type) (enc:TypeId × Value->H) (F:Stop.Interp) :
  ReturnsInHanded {} Tryz.checked os 4 .any ((Rows.OpenSpec.upto Rows.fnUsesOfSpec).pre6 enc Tryz.prog Tryz.f4 Rows.fnUsesOfUptoRow.domain false) (((Rows.OpenSpec.upto Rows.fnUsesOfSpec).at F).post enc Tryz.prog Tryz.f4 false true false false):=by
 refine returnsInHanded_of_cond (C:=Tryz.checked) (s:=Rows.OpenSpec.upto Rows.fnUsesOfSpec) (k:=Rows.uptoSmall) rfl own started kr Tryz.func4
  (OpenSpec.witness (enc:=enc) (C:=Tryz.checked) (s:=Rows.OpenSpec.upto Rows.fnUsesOfSpec) (k:=Rows.uptoSmall) rfl false ⟨#[],#[.slice none 0 0],[]⟩ 8 kr kr kr
   (x:=([.nil],[],[])) kr rfl kr) ?_
 intro W base args ds gs before hval hW _ hk _
 exact OR H enc W base args ds gs before hval hW
theorem NV {a b:Bool} (ha:a=true) (hb:b=true):(a&&b)=true:=by rw [ha,hb];rfl
set_option maxHeartbeats 4000000 in
theorem OC:joinedFacts Tryz.pinned.checked.prog 4 Tryz.f4 (Rows.OpenSpec.upto Rows.fnUsesOfSpec).bare Rows.fnUsesOfUptoRow=true:=by
 unfold joinedFacts
 iterate 31 refine NV ?_ (by as_aux_lemma=>kernel_rfl)
 as_aux_lemma=>kernel_rfl
theorem Z1s:Rows.fnUsesOfUptoRow.holds Tryz.pinned (Rows.OpenSpec.upto Rows.fnUsesOfSpec):=
 OpenClaim.holds_of_cond 4 Tryz.f4 rfl rfl rfl rfl rfl rfl rfl ⟨rfl,rfl,rfl,rfl,rfl⟩ rfl rfl rfl rfl rfl (by as_aux_lemma=>kernel_rfl) Tryz.func4 OC
  (of_decide_eq_true kr) (by unfold Func.isWrapper;first|(rw [if_pos (by decide +kernel)];kernel_rfl)|(rw [if_neg (by decide +kernel)];exact ⟨rfl,rfl⟩))
  (fun os started H enc _ F=>Z0p os started H enc F)
theorem proved:Rows.FnUsesOfUptoSaid:=
 Z1s
#print axioms proved
end Go.Proofs.YtjmahledcmocoaaGreat.fnUsesOf
end
