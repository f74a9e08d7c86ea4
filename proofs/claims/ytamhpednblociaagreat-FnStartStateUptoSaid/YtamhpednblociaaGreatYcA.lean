/-
  A part of the proofs of several laws (see the last file): no condition.
-/
import Derived.OrdersHeld
import Derived.Below
import Derived.KernelRfl
import Derived.Laws.AppendOwn
import Derived.Laws.MakeOwn
import Derived.IntWalk
import Derived.Lib.AppendZeros
set_option linter.all false
set_option linter.unusedVariables false
set_option linter.unusedSimpArgs false
set_option linter.unusedSectionVars false
set_option maxRecDepth 10000
set_option maxHeartbeats 4000000
namespace Go.Abs
abbrev LI:=List Int
theorem ob {p:Prop} (h:p:=by first|assumption|omega|rfl|(simp<;>omega)):p:=h
theorem kr {p:Prop} (h:p:=by kernel_rfl):p:=h
theorem om {p:Prop} (h:p:=by omega):p:=h
def Zb:=@beq_iff_eq
def Zd:=@if_neg
def Zl:=@if_pos
def Y4:=@List.mem_of_getElem?
def Yb:=@Bool.eq_iff_iff
def Yi:=@bne_iff_ne
def Yj:=@congrArg
def Ys:=@List.length_append
def Yx:=@List.length_cons
def YM:=@List.mem_cons
def X7:=@List.length_nil
def X9:=@Nat.le_refl
def Xb:=@Bool.and_eq_true
def Xc:=@List.getElem?_eq_some_iff
def Xm:=@List.mem_append
def Xp:=@List.mem_cons_self
def Xr:=@List.mem_singleton
def XG:=@List.mem_cons_of_mem
def XN:=@List.mem_map
def Wh:=@List.length_take
def Wk:=@Nat.zero_add
def Wt:=@Option.some.injEq
def WT:=@List.take_of_length_le
def V6:=@Nat.le_of_ble_eq_true
def Va:=@List.pairwise_cons
def Vb:=@Nat.le_trans
def VJ:=@List.length_set
def VP:=@List.append_assoc
def VQ:=@Nat.min_eq_left
def Uk:=@List.take_length
def Up:=@Classical.not_not
def UG:=@Array.getElem?_eq_some_iff
def UH:=@Array.toArray_toList
def UT:=@Nat.eq_of_beq_eq_true
def Tc:=@Int.toNat_natCast
def Td:=@List.map_cons
def Te:=@Nat.zero_le
def Tu:=@List.take_append_drop
def TB:=@List.Perm.refl
def Qd:=@Bool.eq_false_iff
def Qe:=@List.getElem?_take
def Qt:=@List.mem_of_mem_take
def Qu:=@Nat.add_mul
def Ko:=@Option.some.inj
def J0:=@List.getElem?_eq_none
def J1:=@List.getElem?_map
def J2:=@List.length_map
def J3:=@Nat.mul_le_mul_right
def JA:=@Array.length_toList
def JB:=@Classical.byContradiction
def JC:=@List.append_nil
def JD:=@List.take_left
def JE:=@Nat.mul_one
def Af:=@List.all_eq_true
def Ag:=@List.cons_append
def Ah:=@List.getElem?_append_left
def Ai:=@List.take_succ_cons
def Aj:=@Nat.add_assoc
def B3:=@List.flatMap_cons
def B4:=@List.length_singleton
def B5:=@List.pairwise_append
def BN:=@List.drop_zero
def BO:=@List.length_pos_iff
def BP:=@List.sublist_cons_self
def BQ:=@Nat.add_zero
def CJ:=@List.getElem?_eq_getElem
def CK:=@List.nil_append
def DU:=@List.getElem?_append_right
def DV:=@List.pairwise_singleton
def F7:=@List.map_nil
def F8:=@List.map_toArray
def F9:=@List.size_toArray
def Fa:=@List.toList_toArray
def Fb:=@Nat.lt_or_ge
def Fc:=@Option.map_some
def Hq:=@Array.getElem?_toList
def Hr:=@Array.toList_append
def Hs:=@List.length_drop
def Ht:=@List.set_eq_take_append_cons_drop
def Hu:=@Nat.eq_of_mul_eq_mul_right
def Mp:=@List.drop_eq_getElem_cons
def Mq:=@List.drop_eq_nil_of_le
def Mr:=@List.replicate_succ
def Ms:=@Nat.lt_of_lt_of_le
end Go.Abs
namespace Go.Abs
inductive AV where
 | any
 | val (v:Value)
 | sl (es:List AV) (hv:Option Value)
 | agg (ls:List AV)
 | rp (ls:List AV)
 | tup (vs:List AV)
abbrev Yk:=Nat->Nat->Prop
def AV.leaves:AV->List AV
 | .agg ls=>ls
 | x=>[x]
mutual
inductive RV (w:World) (G:Yk):AV->Value->Prop
 | any {v}:RV w G .any v
 | val {v}:RV w G (.val v) v
 | nil {hv a cap} (h:∀x,hv=some x->x=.slice a 0 cap):RV w G (.sl [] hv) (.slice a 0 cap)
 | sl {es hv b o k cap} (h:∀x,hv=some x->x=.slice (some ⟨b,o,none⟩) es.length cap) (hc:es.length<=cap) (hm:Vd w G k b o es) :
   RV w G (.sl es hv) (.slice (some ⟨b,o,none⟩) es.length cap)
 | agg {ls cs} (h:YV w G ls cs):RV w G (.agg ls) (.agg cs.toArray)
 | rp {ls b o} (h:Wu w G b o ls):RV w G (.rp ls) (.pointer (some ⟨b,o,none⟩))
 | tup {vs cs} (h:YV w G vs cs):RV w G (.tup vs) (.tuple cs.toArray)
inductive YV (w:World) (G:Yk):List AV->List Value->Prop
 | nil:YV w G [] []
 | cons {x v xs vs} (h:RV w G x v) (t:YV w G xs vs):YV w G (x::xs) (v::vs)
inductive Wu (w:World) (G:Yk):Nat->Nat->List AV->Prop
 | nil {b o}:Wu w G b o []
 | cons {b o x c xs} (hc:w.cell? ⟨b,o,none⟩=some c) (hg:G b o) (h:RV w G x c) (t:Wu w G b (o+1) xs):Wu w G b o (x::xs)
inductive Vd (w:World) (G:Yk):Nat->Nat->Nat->List AV->Prop
 | nil {k b o}:Vd w G k b o []
 | cons {k b o x xs} (hl:x.leaves.length=k) (h:Wu w G b o x.leaves) (t:Vd w G k b (o+k) xs):Vd w G k b o (x::xs)
end
structure VR (G:Yk) (w w':World) (G':Yk):Prop where
 cell:∀b o,G b o->w'.cell? ⟨b,o,none⟩=w.cell? ⟨b,o,none⟩
 sub:∀b o,G b o->G' b o
section mono
variable {w w':World} {G G':Yk}
mutual
theorem RV.mono {x:AV} {v:Value} (hA:VR G w w' G'):RV w G x v->RV w' G' x v
 | .any=>.any
 | .val=>.val
 | .nil h=>.nil h
 | .sl h hc hm=>.sl h hc (hm.mono hA)
 | .agg h=>.agg (h.mono hA)
 | .rp h=>.rp (h.mono hA)
 | .tup h=>.tup (h.mono hA)
theorem YV.mono {xs:List AV} {vs:List Value} (hA:VR G w w' G'):YV w G xs vs->YV w' G' xs vs
 | .nil=>.nil
 | .cons h t=>.cons (h.mono hA) (t.mono hA)
theorem Wu.mono {b o:Nat} {xs:List AV} (hA:VR G w w' G'):Wu w G b o xs->Wu w' G' b o xs
 | .nil=>.nil
 | .cons hc hg h t=>.cons ((hA.cell _ _ hg).trans hc) (hA.sub _ _ hg) (h.mono hA) (t.mono hA)
theorem Vd.mono {k b o:Nat} {xs:List AV} (hA:VR G w w' G'):Vd w G k b o xs->Vd w' G' k b o xs
 | .nil=>.nil
 | .cons hl h t=>.cons hl (h.mono hA) (t.mono hA)
end
end mono
theorem YV.length {w:World} {G:Yk}:∀{xs:List AV} {vs:List Value},YV w G xs vs->vs.length=xs.length
 | _,_,.nil=>rfl
 | _,_,.cons _ t=>by simp [t.length]
theorem YV.get {w:World} {G:Yk}:∀{xs:List AV} {vs:List Value},YV w G xs vs->∀(i:Nat) (x:AV),xs[i]? = some x->∃v,vs[i]? = some v/\RV w G x v
 | _,_,.nil,i,x,h=>by simp at h
 | _,_,.cons h t,0,x,hx=>by simp at hx;subst hx;exact ⟨_,rfl,h⟩
 | _,_,.cons h t,i+1,x,hx=>by simpa using t.get i x (by simpa using hx)
theorem YV.append {w:World} {G:Yk}:∀{xs ys:List AV} {vs us:List Value},YV w G xs vs->YV w G ys us->YV w G (xs++ys) (vs++us)
 | _,_,_,_,.nil,h=>h
 | _,_,_,_,.cons h t,h2=>.cons h (t.append h2)
theorem YV.take {w:World} {G:Yk}:∀{xs:List AV} {vs:List Value} (n:Nat),YV w G xs vs->YV w G (xs.take n) (vs.take n)
 | _,_,0,_=>by simp;exact .nil
 | _,_,n+1,.nil=>by simp;exact .nil
 | _,_,n+1,.cons h t=>by simp;exact .cons h (t.take n)
theorem YV.drop {w:World} {G:Yk}:∀{xs:List AV} {vs:List Value} (n:Nat),YV w G xs vs->YV w G (xs.drop n) (vs.drop n)
 | _,_,0,h=>by simpa using h
 | _,_,n+1,.nil=>by simp;exact .nil
 | _,_,n+1,.cons h t=>by simpa using t.drop n
theorem YV.set {w:World} {G:Yk}:∀{xs:List AV} {vs:List Value} (n:Nat) {x:AV} {v:Value},YV w G xs vs->RV w G x v->YV w G (xs.set n x) (vs.set n v)
 | _,_,_,_,_,.nil,_=>by simp;exact .nil
 | _,_,0,_,_,.cons h t,hx=>by simp;exact .cons hx t
 | _,_,n+1,_,_,.cons h t,hx=>by simp;exact .cons h (t.set n hx)
theorem Wu.drop {w:World} {G:Yk}:∀(n:Nat) {b o:Nat} {xs:List AV},Wu w G b o xs->Wu w G b (o+n) (xs.drop n)
 | 0,_,_,_,h=>by simpa using h
 | n+1,_,_,_,.nil=>by simp;exact .nil
 | n+1,_,_,_,.cons hc hg h t=>by
  have:=t.drop n
  simp only [List.drop_succ_cons]
  rw [show ∀o:Nat,o+(n+1)=o+1+n from fun o=>by omega]
  exact this
theorem Wu.take {w:World} {G:Yk}:∀(n:Nat) {b o:Nat} {xs:List AV},Wu w G b o xs->Wu w G b o (xs.take n)
 | 0,_,_,_,h=>by simp;exact .nil
 | n+1,_,_,_,.nil=>by simp;exact .nil
 | n+1,_,_,_,.cons hc hg h t=>by simp;exact .cons hc hg h (t.take n)
theorem Wu.append {w:World} {G:Yk}:∀{b o:Nat} {xs ys:List AV},Wu w G b o xs->Wu w G b (o+xs.length) ys->Wu w G b o (xs++ys)
 | _,_,_,_,.nil,h=>by simpa using h
 | _,_,_,_,.cons hc hg h t,h2=>.cons hc hg h (t.append (by
   simp only [Yx] at h2
   rw [show ∀(o:Nat) (l:Nat),o+1+l=o+(l+1) from fun o l=>by omega];exact h2))
theorem Wu.cells {w:World} {G:Yk}:∀{b o:Nat} {xs:List AV},Wu w G b o xs ->
  ∃cs,YV w G xs cs/\(∀j v,cs[j]? = some v->w.cell? ⟨b,o+j,none⟩=some v/\G b (o+j))
 | _,_,_,.nil=>⟨[],.nil,by simp⟩
 | _,o,_,.cons (c:=c) hc hg h t=>by
  obtain ⟨cs,h1,h2⟩:=t.cells
  refine ⟨c::cs,.cons h h1,fun j v hj=>?_⟩
  cases j with
  | zero=>simp at hj;subst hj;exact ⟨hc,hg⟩
  | succ j=>
   have:=h2 j v (by simpa using hj)
   rw [show o+1+j=o+(j+1) from by omega] at this
   exact this
theorem Wu.of_cells {w:World} {G:Yk} {b:Nat}:∀{o:Nat} {xs:List AV} {cs:List Value},YV w G xs cs ->
  (∀j v,cs[j]? = some v->w.cell? ⟨b,o+j,none⟩=some v/\G b (o+j))->Wu w G b o xs
 | _,_,_,.nil,_=>.nil
 | o,_,_,.cons (v:=c) h t,hc=>by
  have h0:=hc 0 c (by simp)
  refine .cons h0.1 h0.2 h (Wu.of_cells t fun j v hj=>?_)
  have:=hc (j+1) v (by simpa using hj)
  rw [show o+(j+1)=o+1+j from by omega] at this
  exact this
def Zg (es:List AV):List AV:=es.flatMap AV.leaves
theorem Vd.flat_mem {w:World} {G:Yk} {k:Nat}:∀{b o:Nat} {xs:List AV},Vd w G k b o xs->Wu w G b o (Zg xs)
 | _,_,_,.nil=>.nil
 | _,_,_,.cons hl h t=>by
  simp only [Zg,B3]
  exact h.append (by rw [hl];exact t.flat_mem)
theorem Vd.of_flat {w:World} {G:Yk} {k:Nat} {b:Nat}:∀{o:Nat} (xs:List AV),(∀x∈xs,x.leaves.length=k)->Wu w G b o (Zg xs)->Vd w G k b o xs
 | _,[],_,_=>.nil
 | o,x::xs,hk,h=>by
  have hx:=hk x (by simp)
  simp only [Zg,B3] at h
  have h1:=h.take x.leaves.length
  have h2:=h.drop x.leaves.length
  simp only [List.take_left',List.drop_left'] at h1 h2
  rw [hx] at h2
  exact .cons hx h1 (Vd.of_flat xs (fun y hy=>hk y (by simp [hy])) h2)
theorem Vd.len {w:World} {G:Yk} {k:Nat}:∀{b o:Nat} {xs:List AV},Vd w G k b o xs->∀x∈xs,x.leaves.length=k
 | _,_,_,.nil,x,h=>by simp at h
 | _,_,_,.cons hl _ t,x,h=>by
  rcases YM.1 h with rfl|h
  ·exact hl
  ·exact t.len x h
theorem Ty {k:Nat}:∀(xs:List AV),(∀x∈xs,x.leaves.length=k)->(Zg xs).length=xs.length*k
 | [],_=>by simp [Zg]
 | x::xs,h=>by
  have:=Ty xs (fun y hy=>h y (by simp [hy]))
  simp only [Zg,B3,Ys,Yx] at this ⊢
  rw [this,h x (by simp),Qu];omega
theorem Vd.get {w:World} {G:Yk} {k:Nat}:∀{b o:Nat} {xs:List AV},Vd w G k b o xs->∀(i:Nat) (x:AV),xs[i]? = some x->Wu w G b (o+i*k) x.leaves
 | _,_,_,.nil,i,x,h=>by simp at h
 | _,_,_,.cons hl h t,0,x,hx=>by simp at hx;subst hx;simpa using h
 | _,o,_,.cons hl h t,i+1,x,hx=>by
  have:=t.get i x (by simpa using hx)
  rw [show o+(i+1)*k=o+k+i*k from by rw [Qu];omega]
  exact this
theorem Vd.drop {w:World} {G:Yk} {k:Nat}:∀(n:Nat) {b o:Nat} {xs:List AV},Vd w G k b o xs->Vd w G k b (o+n*k) (xs.drop n)
 | 0,_,_,_,h=>by simpa using h
 | n+1,_,_,_,.nil=>by simp;exact .nil
 | n+1,_,o,_,.cons hl h t=>by
  have:=t.drop n
  simp only [List.drop_succ_cons]
  rw [show o+(n+1)*k=o+k+n*k from by rw [Qu];omega]
  exact this
theorem Vd.take {w:World} {G:Yk} {k:Nat}:∀(n:Nat) {b o:Nat} {xs:List AV},Vd w G k b o xs->Vd w G k b o (xs.take n)
 | 0,_,_,_,h=>by simp;exact .nil
 | n+1,_,_,_,.nil=>by simp;exact .nil
 | n+1,_,_,_,.cons hl h t=>by simp;exact .cons hl h (t.take n)
inductive Res where
 | obj (b:Nat) (ls:List AV)
 | tail (v:Value) (k:Nat)
 | ge (s:Nat)
 | vec (v:Value) (ls:List AV)
 | many (ts:List (Value × Nat))
 | own (B:List Nat) (m:Nat->Nat->Option Value)
 | row (v:Value) (k:Nat) (ls:List AV)
def Mb:Value->Nat->Yk
 | .slice (some a) len _,k,b',o=>b'=a.block/\len*k<=o
 | _,_,_,_=>False
def Res.fp:Res->Yk
 | .obj b _,b',_=>b'=b
 | .tail (.slice (some a) len _) k,b',o=>b'=a.block/\len*k<=o
 | .tail _ _,_,_=>False
 | .ge _,_,_=>False
 | .vec (.slice (some a) _ _) _,b',_=>b'=a.block
 | .vec _ _,_,_=>False
 | .many ts,b',o=>∃p∈ts,Mb p.1 p.2 b' o
 | .own B _,b',_=>b'∈B
 | .row (.slice (some a) _ _) _ _,b',_=>b'=a.block
 | .row _ _ _,_,_=>False
def HC (w:World) (v:Value) (k:Nat):Prop:=
 v=.slice none 0 0∨∃g len cap cur e,v=.slice (some ⟨g,0,none⟩) len cap/\w.heap[g]? = some (.cells cur e (0,0))/\len<=cap/\cur.size=cap*k
def BU (w:World) (G:Yk) (v:Value) (ls:List AV):Prop:=
 (v=.slice none 0 0/\ls=[])∨∃g cap cur e,v=.slice (some ⟨g,0,none⟩) ls.length cap/\w.heap[g]? = some (.cells cur e (0,0))/\ls.length<=cap/\cur.size=cap /\
  YV w G ls (cur.toList.take ls.length)
def JG (w:World) (G:Yk) (v:Value) (k:Nat) (ls:List AV):Prop:=
 (v=.slice none 0 0/\ls=[])∨∃g len cap cur e,v=.slice (some ⟨g,0,none⟩) len cap/\w.heap[g]? = some (.cells cur e (0,0))/\len<=cap/\cur.size=cap*k/\ls.length=len*k /\
  YV w G ls (cur.toList.take (len*k))
def Qx (w:World) (G:Yk):Res->Prop
 | .obj b ls=>∃cs e,w.heap[b]? = some (.cells cs e (0,0))/\YV w G ls cs.toList
 | .tail v k=>HC w v k
 | .ge s=>s<=w.heap.size
 | .vec v ls=>BU w G v ls
 | .many ts=>(∀p∈ts,HC w p.1 p.2)/\ts.Pairwise (fun p q=>∀b o,Mb p.1 p.2 b o->Mb q.1 q.2 b o->False)
 | .own B m=>∀b∈B,∃cs e,w.heap[b]? = some (.cells cs e (0,0))/\∀o,cs[o]? = m b o
 | .row v k ls=>JG w G v k ls
def Vp (h:List Res):Yk:=fun b o=>∃r∈h,r.fp b o
def B7 (r r':Res):Prop:=∀b o,r.fp b o->r'.fp b o->False
structure YI (w:World) (G:Yk) (h:List Res):Prop where
 ok:∀r∈h,Qx w G r
 apart:h.Pairwise B7
 prot:∀r∈h,∀b o,r.fp b o->G b o->False
 lt:∀b o,G b o->b<w.heap.size
theorem Qx.lt {w:World} {G:Yk} {r:Res} (h:Qx w G r):∀b o,r.fp b o->b<w.heap.size:=by
 intro b o hf
 cases r with
 | obj b' ls=>obtain ⟨cs,e,h1,_⟩:=h;cases hf;exact (UG.1 h1).1
 | tail v k=>
  rcases h with rfl|⟨g,len,cap,cur,e,rfl,h1,_⟩
  ·exact hf.elim
  ·obtain ⟨rfl,_⟩:=hf;exact (UG.1 h1).1
 | ge s=>exact hf.elim
 | vec v ls=>
  rcases h with ⟨rfl,_⟩|⟨g,cap,cur,e,rfl,h1,_⟩
  ·exact hf.elim
  ·have hf:b=g:=hf
   subst hf
   exact (UG.1 h1).1
 | many ts=>
  obtain ⟨p,hp,hf⟩:=hf
  rcases h.1 p hp with h0|⟨g,len,cap,cur,e,h0,h1,_⟩
  ·rw [h0] at hf;exact hf.elim
  ·rw [h0] at hf;obtain ⟨rfl,_⟩:=hf;exact (UG.1 h1).1
 | own B m=>obtain ⟨cs,e,h1,_⟩:=h b hf;exact (UG.1 h1).1
 | row v k ls=>
  rcases h with ⟨rfl,_⟩|⟨g,len,cap,cur,e,rfl,h1,_⟩
  ·exact hf.elim
  ·have hf:b=g:=hf
   subst hf
   exact (UG.1 h1).1
def Kt (O:Yk) (b:Nat) (w w':World):Prop:=
 w'.heap[b]? = w.heap[b]?∨∃cs cs' e fr,w.heap[b]? = some (.cells cs e fr)/\w'.heap[b]? = some (.cells cs' e fr)/\cs'.size=cs.size/\∀o,¬O b o->cs'[o]? = cs[o]?
theorem Kt.eq {O:Yk} {b:Nat} {w w':World} (h:Kt O b w w') (hn:∀o,¬O b o):w'.heap[b]? = w.heap[b]?:=by
 rcases h with h|⟨cs,cs',e,fr,h1,h2,hs,hc⟩
 ·exact h
 ·have:cs'=cs:=by
   apply Array.ext hs
   intro i h1 h2
   have:=hc i (hn i)
   simpa [h1,h2] using this
  rw [h1,h2,this]
theorem Kt.cell {O:Yk} {b:Nat} {w w':World} (h:Kt O b w w') {o:Nat} (hn:¬O b o):w'.cell? ⟨b,o,none⟩=w.cell? ⟨b,o,none⟩:=by
 rcases h with h|⟨cs,cs',e,fr,h1,h2,hs,hc⟩
 ·simp [World.cell?,h]
 ·simp [World.cell?,h1,h2,hc o hn]
theorem Kt.mono {O O':Yk} {b:Nat} {w w':World} (h:Kt O b w w') (hO:∀o,O b o->O' b o):Kt O' b w w':=by
 rcases h with h|⟨cs,cs',e,fr,h1,h2,hs,hc⟩
 ·exact .inl h
 ·exact .inr ⟨cs,cs',e,fr,h1,h2,hs,fun o hn=>hc o fun h=>hn (hO o h)⟩
theorem Kt.trans {O:Yk} {b:Nat} {w w' w'':World} (h:Kt O b w w') (k:Kt O b w' w''):Kt O b w w'':=by
 rcases h with h|⟨cs,cs',e,fr,h1,h2,hs,hc⟩
 ·rcases k with k|⟨cs,cs',e,fr,h1,h2,hs,hc⟩
  ·exact .inl (k.trans h)
  ·exact .inr ⟨cs,cs',e,fr,h▸h1,h2,hs,hc⟩
 ·rcases k with k|⟨ds,ds',e',fr',k1,k2,ks,kc⟩
  ·exact .inr ⟨cs,cs',e,fr,h1,k▸h2,hs,hc⟩
  ·rw [h2] at k1
   cases k1
   exact .inr ⟨cs,ds',e,fr,h1,k2,ks.trans hs,fun o hn=>(kc o hn).trans (hc o hn)⟩
structure X3 (w:World) (G:Yk) (h:List Res) (w':World) (G':Yk) (h':List Res):Prop where
 os:w'.os=w.os
 tape:w'.tape=w.tape
 output:w'.output=w.output
 size:w.heap.size<=w'.heap.size
 sub:∀b o,G b o->G' b o
 same:∀b,b<w.heap.size->Kt (Vp h) b w w'
 newG:∀b o,b<w.heap.size->G' b o->G b o∨Vp h b o
 newfp:∀b o,b<w.heap.size->Vp h' b o->Vp h b o
theorem X3.refl (w:World) (G:Yk) (h:List Res):X3 w G h w G h:=
 ⟨rfl,rfl,rfl,X9 _,fun _ _ h=>h,fun _ _=>.inl rfl,fun _ _ _ h=>.inl h,fun _ _ _ h=>h⟩
theorem X3.trans {w w' w'':World} {G G' G'':Yk} {h h' h'':List Res} (a:X3 w G h w' G' h') (b:X3 w' G' h' w'' G'' h''):X3 w G h w'' G'' h'' where
 os:=b.os.trans a.os
 tape:=b.tape.trans a.tape
 output:=b.output.trans a.output
 size:=Vb a.size b.size
 sub:=fun x o hg=>b.sub x o (a.sub x o hg)
 same:=fun x hx=>(a.same x hx).trans ((b.same x (Ms hx a.size)).mono fun o ho=>a.newfp x o hx ho)
 newG:=fun x o hx hg=>by
  rcases b.newG x o (Ms hx a.size) hg with h1|h1
  ·exact a.newG x o hx h1
  ·exact .inr (a.newfp x o hx h1)
 newfp:=fun x o hx ho=>a.newfp x o hx (b.newfp x o (Ms hx a.size) ho)
theorem X3.agree {w w':World} {G G':Yk} {h h':List Res} (e:X3 w G h w' G' h') (hk:YI w G h):VR G w w' G' where
 cell:=fun b o hg=>(e.same b (hk.lt b o hg)).cell fun ⟨r,hr,hf⟩=>hk.prot r hr b o hf hg
 sub:=e.sub
theorem Bl {h k:List Res} {b o:Nat}:Vp (h++k) b o↔Vp h b o∨Vp k b o:=by
 unfold Vp
 constructor
 ·rintro ⟨r,hr,hf⟩
  rcases Xm.1 hr with hr|hr
  ·exact .inl ⟨r,hr,hf⟩
  ·exact .inr ⟨r,hr,hf⟩
 ·rintro (⟨r,hr,hf⟩|⟨r,hr,hf⟩)
  ·exact ⟨r,Xm.2 (.inl hr),hf⟩
  ·exact ⟨r,Xm.2 (.inr hr),hf⟩
theorem YI.left {w:World} {G:Yk} {h k:List Res} (H:YI w G (h++k)):YI w G h:=
 ⟨fun r hr=>H.ok r (Xm.2 (.inl hr)),(B5.1 H.apart).1,fun r hr=>H.prot r (Xm.2 (.inl hr)),H.lt⟩
theorem YI.cross {w:World} {G:Yk} {h k:List Res} (H:YI w G (h++k)) {b o:Nat} (h1:Vp h b o) (h2:Vp k b o):False:=by
 obtain ⟨r,hr,hf⟩:=h1
 obtain ⟨r',hr',hf'⟩:=h2
 exact (B5.1 H.apart).2.2 r hr r' hr' b o hf hf'
theorem YI.frame {w w':World} {G G':Yk} {h h' k:List Res} (H:YI w G (h++k)) (e:X3 w G h w' G' h') (H':YI w' G' h') :
  YI w' G' (h'++k)/\X3 w G (h++k) w' G' (h'++k):=by
 have hA:=e.agree H.left
 have hkok:∀r∈k,Qx w G r:=fun r hr=>H.ok r (Xm.2 (.inr hr))
 have hklt:∀b o,Vp k b o->b<w.heap.size:=fun b o ⟨r,hr,hf⟩=>(hkok r hr).lt b o hf
 refine ⟨⟨?_,?_,?_,H'.lt⟩,⟨e.os,e.tape,e.output,e.size,e.sub,?_,?_,?_⟩⟩
 ·intro r hr
  rcases Xm.1 hr with hr|hr
  ·exact H'.ok r hr
  ·have h0:=hkok r hr
   cases r with
   | obj b ls=>
    obtain ⟨cs,el,h1,h2⟩:=h0
    have hb:=(UG.1 h1).1
    refine ⟨cs,el,?_,h2.mono hA⟩
    rw [(e.same b hb).eq fun _ ho=>H.cross ho ⟨_,hr,rfl⟩]
    exact h1
   | tail v kk=>
    rcases h0 with rfl|⟨g,len,cap,cur,el,rfl,h1,h2,h3⟩
    ·exact .inl rfl
    ·have hb:=(UG.1 h1).1
     rcases e.same g hb with hs|⟨cs,cs',e',fr,k1,k2,k3,_⟩
     ·exact .inr ⟨g,len,cap,cur,el,rfl,hs.trans h1,h2,h3⟩
     ·rw [h1] at k1
      cases k1
      exact .inr ⟨g,len,cap,cs',el,rfl,k2,h2,k3.trans h3⟩
   | ge s=>exact Vb h0 e.size
   | vec v ls=>
    rcases h0 with ⟨rfl,h0⟩|⟨g,cap,cur,el,rfl,h1,h2,h3,h4⟩
    ·exact .inl ⟨rfl,h0⟩
    ·have hb:=(UG.1 h1).1
     refine .inr ⟨g,cap,cur,el,rfl,?_,h2,h3,h4.mono hA⟩
     rw [(e.same g hb).eq fun o ho=>H.cross ho ⟨_,hr,rfl⟩]
     exact h1
   | many ts=>
    refine ⟨fun p hp=>?_,h0.2⟩
    rcases h0.1 p hp with q|⟨g,len,cap,cur,el,q,h1,h2,h3⟩
    ·exact .inl q
    ·have hb:=(UG.1 h1).1
     rcases e.same g hb with hs|⟨cs,cs',e',fr,k1,k2,k3,_⟩
     ·exact .inr ⟨g,len,cap,cur,el,q,hs.trans h1,h2,h3⟩
     ·rw [h1] at k1
      cases k1
      exact .inr ⟨g,len,cap,cs',el,q,k2,h2,k3.trans h3⟩
   | own B m=>
    intro b hB
    obtain ⟨cs,el,h1,h2⟩:=h0 b hB
    have hb:=(UG.1 h1).1
    refine ⟨cs,el,?_,h2⟩
    rw [(e.same b hb).eq fun o ho=>H.cross ho ⟨_,hr,hB⟩]
    exact h1
   | row v k ls=>
    rcases h0 with ⟨rfl,h0⟩|⟨g,len,cap,cur,el,rfl,h1,h2,h3,h4,h5⟩
    ·exact .inl ⟨rfl,h0⟩
    ·have hb:=(UG.1 h1).1
     refine .inr ⟨g,len,cap,cur,el,rfl,?_,h2,h3,h4,h5.mono hA⟩
     rw [(e.same g hb).eq fun o ho=>H.cross ho ⟨_,hr,rfl⟩]
     exact h1
 ·refine B5.2 ⟨H'.apart,(B5.1 H.apart).2.1,fun r hr r' hr' b o hf hf'=>?_⟩
  have hb:=hklt b o ⟨r',hr',hf'⟩
  exact H.cross (e.newfp b o hb ⟨r,hr,hf⟩) ⟨r',hr',hf'⟩
 ·intro r hr b o hf hg
  rcases Xm.1 hr with hr|hr
  ·exact H'.prot r hr b o hf hg
  ·have hb:=hklt b o ⟨r,hr,hf⟩
   rcases e.newG b o hb hg with h1|h1
   ·exact H.prot r (Xm.2 (.inr hr)) b o hf h1
   ·exact H.cross h1 ⟨r,hr,hf⟩
 ·exact fun b hb=>(e.same b hb).mono fun _ ho=>Bl.2 (.inl ho)
 ·intro b o hb hg
  exact (e.newG b o hb hg).imp id fun h=>Bl.2 (.inl h)
 ·intro b o hb hf
  rcases Bl.1 hf with h1|h1
  ·exact Bl.2 (.inl (e.newfp b o hb h1))
  ·exact Bl.2 (.inr h1)
theorem B7.symm {r r':Res} (h:B7 r r'):B7 r' r:=fun b o h1 h2=>h b o h2 h1
theorem Ci {h k:List Res} (p:h.Perm k) {b o:Nat}:Vp h b o↔Vp k b o:=
 ⟨fun ⟨r,hr,hf⟩=>⟨r,p.mem_iff.1 hr,hf⟩,fun ⟨r,hr,hf⟩=>⟨r,p.mem_iff.2 hr,hf⟩⟩
theorem YI.perm {w:World} {G:Yk} {h k:List Res} (H:YI w G h) (p:h.Perm k):YI w G k:=
 ⟨fun r hr=>H.ok r (p.mem_iff.2 hr),(p.pairwise_iff (fun h=>B7.symm h)).1 H.apart,fun r hr=>H.prot r (p.mem_iff.2 hr),H.lt⟩
theorem X3.perm {w w':World} {G G':Yk} {h h' k k':List Res} (e:X3 w G h w' G' h') (p:h.Perm k) (p':h'.Perm k'):X3 w G k w' G' k':=
 ⟨e.os,e.tape,e.output,e.size,e.sub,fun b hb=>(e.same b hb).mono fun _ ho=>(Ci p).1 ho,
  fun b o hb hg=>(e.newG b o hb hg).imp id (Ci p).1,fun b o hb hf=>(Ci p).1 (e.newfp b o hb ((Ci p').2 hf))⟩
abbrev Fr:=List (Nat × AV)
def Fr.get:Fr->Nat->AV
 | [],_=>.any
 | (s,x)::r,t=>match Nat.beq s t with | true=>x | false=>Fr.get r t
def AV.ofVal:Value->AV
 | .slice none 0 0=>.sl [] (some (.slice none 0 0))
 | v=>.val v
theorem RV.ofVal {w:World} {G:Yk} (v:Value):RV w G (AV.ofVal v) v:=by
 unfold AV.ofVal
 split
 ·exact .nil (by simp)
 ·exact .val
def Fr.ev (F:Fr):Operand->AV
 | .tmp t=>F.get t
 | .const v=>AV.ofVal v
 | .global g=>.val (.pointer (some ⟨g,0,none⟩))
 | .func f=>.val (.func (.func f) #[] #[])
def Fr.put (F:Fr) (d:Option Tmp) (x:AV):Fr:=
 match d with
 | some d=>(d,x)::F
 | none=>F
structure FR (w:World) (G:Yk) (n:Nat) (F:Fr) (a:Act):Prop where
 defers:a.defers=[]
 size:a.tmps.size=n
 get:∀t,RV w G (F.get t) (a.tmps.getD t undef)
section
variable {w w':World} {G G':Yk} {n:Nat} {F:Fr} {a:Act}
theorem FR.mono (h:FR w G n F a) (hA:VR G w w' G'):FR w' G' n F a:=⟨h.defers,h.size,fun t=>(h.get t).mono hA⟩
theorem FR.ev (h:FR w G n F a) (x:Operand):RV w G (F.ev x) (a.eval x):=by
 cases x with
 | tmp t=>exact h.get t
 | const v=>exact RV.ofVal v
 | global g=>exact .val
 | func f=>exact .val
theorem FR.put (h:FR w G n F a) {d:Option Tmp} {x:AV} {v:Value} (hd:∀t,d=some t->t<n) (hx:RV w G x v):FR w G n (F.put d x) (a.put d v):=by
 cases d with
 | none=>exact h
 | some d=>
  have hlt:=hd d rfl
  refine ⟨h.defers,by simp [Act.put,h.size],fun t=>?_⟩
  show RV w G (match Nat.beq d t with|true=>x|false=>Fr.get F t) ((a.tmps.setIfInBounds d v).getD t undef)
  by_cases e:d=t
  ·subst e
   have:Nat.beq d d=true:=Nat.beq_refl d
   rw [this]
   simp [h.size,hlt,hx]
  ·have hb:Nat.beq d t=false:=by
    cases hh:Nat.beq d t
    ·rfl
    ·exact absurd (UT hh) e
   rw [hb]
   have:=h.get t
   simpa [Array.getElem?_setIfInBounds_ne e] using this
end
def Fr.Le (F F':Fr):Prop:=∀w G v t,RV w G (F.get t) v->RV w G (F'.get t) v
theorem FR.le {w:World} {G:Yk} {n:Nat} {F F':Fr} {a:Act} (h:FR w G n F a) (hle:F.Le F'):FR w G n F' a:=
 ⟨h.defers,h.size,fun t=>hle _ _ _ _ (h.get t)⟩
abbrev WV:=Exit->Fr->List Res->Prop
def Am (n:Nat) (A:WV) (w:World) (G:Yk) (h:List Res) (e:Exit) (a':Act) (w':World):Prop:=
 ∃F' h' G',A e F' h'/\FR w' G' n F' a'/\YI w' G' h'/\X3 w G h w' G' h'
theorem Am.trans {n:Nat} {A:WV} {w w' w'':World} {G G':Yk} {h h':List Res} {e:Exit} {a:Act} (x:X3 w G h w' G' h') (c:Am n A w' G' h' e a w'') :
  Am n A w G h e a w'':=by
 obtain ⟨F,k,G'',h1,h2,h3,h4⟩:=c
 exact ⟨F,k,G'',h1,h2,h3,x.trans h4⟩
theorem Am.mono {n:Nat} {A B:WV} {w w':World} {G:Yk} {h:List Res} {e:Exit} {a:Act} (hAB:∀e F h,A e F h->B e F h) (c:Am n A w G h e a w') :
  Am n B w G h e a w':=by
 obtain ⟨F,k,G'',h1,h2,h3,h4⟩:=c
 exact ⟨F,k,G'',hAB _ _ _ h1,h2,h3,h4⟩
def Yy (P:Program) (n:Nat) (c:Code) (A:WV) (F:Fr) (h:List Res):Prop:=
 ∀w G a,FR w G n F a->YI w G h->c.wp P (Am n A w G h) a w
def WU (P:Program) (f:FuncId) (args:List AV) (h:List Res) (R:AV->List Res->Prop):Prop:=
 ∀w G vs,YV w G args vs->YI w G h ->
  Calls P f vs.toArray w fun e w'=>∃v r h' G',e=.returned v/\R r h'/\RV w' G' r v/\YI w' G' h'/\X3 w G h w' G' h'
theorem WU.mono {P:Program} {f:FuncId} {args:List AV} {h:List Res} {R R':AV->List Res->Prop} (H:WU P f args h R) (hR:∀r h',R r h'->R' r h') :
  WU P f args h R':=fun w G vs ha hh=>(H w G vs ha hh).mono fun _ _ ⟨v,r,h',G',h1,h2,h3⟩=>⟨v,r,h',G',h1,hR _ _ h2,h3⟩
def WE (P:Program) (n:Nat) (o:Oper) (F:Fr) (h:List Res) (K:Fr->List Res->Prop):Prop:=
 ∀(Q:Exit->Act->World->Prop) w G a,FR w G n F a->YI w G h ->
  o.wp P a w (fun a' w'=>∃F' h' G',K F' h'/\FR w' G' n F' a'/\YI w' G' h'/\X3 w G h w' G' h') Q
def VC (n:Nat) (o:Oper):Bool:=match o.dst with|some d=>Nat.blt d n|none=>true
theorem Tk {n:Nat} {o:Oper} (h:VC n o=true):∀t,o.dst=some t->t<n:=by
 intro t ht
 simp [VC,ht] at h
 exact h
def XW (P:Program) (o:Oper) (F:Fr) (h:List Res) (ks:List Nat) (x:AV):Prop:=
 ∀n w G a,FR w G n F a->YI w G h->∃v,RV w G x v /\
  ∀w',(∀b o,G b o->w'.cell? ⟨b,o,none⟩=w.cell? ⟨b,o,none⟩)->(∀b∈ks,w'.heap[b]? = w.heap[b]?)->(execOp a.eval o).run P w'=.ok (.value v) w'
theorem XW.op {P:Program} {n:Nat} {o:Oper} {F:Fr} {h:List Res} {ks:List Nat} {x:AV} {K:Fr->List Res->Prop} (hs:XW P o F h ks x) (hd:VC n o=true)
  (hK:K (F.put o.dst x) h):WE P n o F h K:=by
 intro Q w G a hF hh
 obtain ⟨v,hv,hr⟩:=hs n w G a hF hh
 unfold Oper.wp
 rw [hr w (fun _ _ _=>rfl) (fun _ _=>rfl)]
 exact ⟨_,h,G,hK,hF.put (Tk hd) hv,hh,X3.refl _ _ _⟩
def Ed (op:BinOp) (k:IntKind) (a b:Int):Option Value:=
 match op with
 | .add=>some (.int k (k.wrap (a+b)))
 | .sub=>some (.int k (k.wrap (a-b)))
 | .mul=>some (.int k (k.wrap (a*b)))
 | .eql=>some (.bool (a==b))
 | .neq=>some (.bool (a != b))
 | .lss=>some (.bool (decide (a<b)))
 | .leq=>some (.bool (decide (a<=b)))
 | .gtr=>some (.bool (decide (a>b)))
 | .geq=>some (.bool (decide (a>=b)))
 | _=>none
def EV:IntKind->IntKind->Bool
 | .i8,.i8 | .i16,.i16 | .i32,.i32 | .i64,.i64 | .u8,.u8 | .u16,.u16 | .u32,.u32 | .u64,.u64=>true
 | _,_=>false
theorem Zd1 {a b:IntKind} (h:EV a b=true):a=b:=by cases a<;>cases b<;>first|rfl|(simp [EV] at h)
def Cp (P:Program) (t:TypeId):Option (Array Field):=
 match P.underlying t with
 | some (.struct fs)=>some fs
 | _=>none
def Dl (P:Program) (t:TypeId):Option Bool:=
 match P.underlying t with
 | some (.struct _) | some (.array _ _)=>some true
 | some _=>some false
 | none=>none
def Ee (P:Program) (t:TypeId) (f:Nat):Option Nat:=
 match Cp P t with
 | some fs=>match fs[f]? with
  | some fd=>match (P.info? fd.type) with
   | some i=>match Nat.beq i.size 0 with | true=>none | false=>some fd.offset
   | none=>none
  | none=>none
 | none=>none
def AQ (P:Program) (t:TypeId) (ls:List AV):Option AV:=
 match Dl P t,P.info? t with
 | some true,some i=>match Nat.ble i.size ls.length with | true=>some (.agg (ls.take i.size)) | false=>none
 | some false,some _=>ls.head?
 | _,_=>none
def AV.one:AV->Bool
 | .val v=>v.oneCell'
 | .sl _ _=>true
 | .rp _=>true
 | _=>false
def AV.fit:AV->Bool
 | .agg _=>true
 | x=>x.one
def AF (place:Nat->Option (Nat × Nat)) (ls:List AV):List (Nat × AV)->Option (List AV)
 | []=>some ls
 | (i,x)::rest=>
  match place i with
  | none=>none
  | some (off,size)=>match x.fit&&(Nat.beq x.leaves.length size&&Nat.ble (off+size) ls.length) with
   | true=>AF place (ls.take off++x.leaves++ls.drop (off+size)) rest
   | false=>none
def DT (P:Program) (t:TypeId):Option (List AV):=
 match P.info? t with
 | some i=>match i.zero with
  | some z=>some (z.cells.toList.map AV.ofVal)
  | none=>none
 | none=>none
def EM (P:Program) (fs:Array Field) (i:Nat):Option (Nat × Nat):=
 match fs[i]? with
 | some f=>match P.info? f.type with
  | some j=>some (f.offset,j.size)
  | none=>none
 | none=>none
def NO (P:Program) (fs:Array Field):Bool:=fs.toList.all fun f=>(P.info? f.type).isSome
def KX:List AV->Option (List Value)
 | []=>some []
 | .val v::r=>match KX r with | some vs=>some (v::vs) | none=>none
 | _::_=>none
def TZ (P:Program) (o:Oper) (F:Fr) (h:List Res) (hint:Nat):Option (AV × List (Nat × Nat)):=
 match o.op with
 | .move x | .assign x=>some (F.ev x,[])
 | .pick c a b=>match F.ev c with
  | .val (.bool true)=>some (F.ev a,[])
  | .val (.bool false)=>some (F.ev b,[])
  | _=>none
 | .binOp op _ x y _=>match F.ev x,F.ev y with
  | .val (.int k a),.val (.int k' b)=>match EV k k' with
   | true=>match Ed op k a b with
    | some v=>some (.val v,[])
    | none=>none
   | false=>none
  | _,_=>none
 | .unOp op _ x=>match op,F.ev x with
  | .not,.val (.bool b)=>some (.val (.bool (!b)),[])
  | _,_=>none
 | .nilCheck x=>match F.ev x with
  | .val (.pointer (some a))=>some (.val (.pointer (some a)),[])
  | .rp ls=>some (.rp ls,[])
  | .val (.func (.func f) p c)=>some (.val (.func (.func f) p c),[])
  | _=>none
 | .fieldAddr s x f=>match Ee P s f with
  | some off=>match F.ev x with
   | .rp ls=>some (.rp (ls.drop off),[])
   | .val (.pointer (some ⟨b,o,none⟩))=>some (.val (.pointer (some ⟨b,o+off,none⟩)),[])
   | _=>none
  | none=>none
 | .field s x f=>match Ee P s f,Cp P s with
  | some off,some fs=>match fs[f]? with
   | some fd=>match F.ev x with
    | .agg ls=>match AQ P fd.type (ls.drop off) with
     | some v=>some (v,[])
     | none=>none
    | _=>none
   | none=>none
  | _,_=>none
 | .load t x=>match F.ev x with
  | .rp ls=>match AQ P t ls with
   | some v=>some (v,[])
   | none=>none
  | .val (.pointer (some ⟨b,o,none⟩))=>match h[hint]? with
   | some (.obj b' ls)=>match AQ P t (ls.drop o) with
    | some v=>some (v,[(b,b')])
    | none=>none
   | _=>none
  | _=>none
 | .extract x i=>match F.ev x with
  | .tup vs=>match vs[i]? with
   | some v=>some (v,[])
   | none=>none
  | _=>none
 | .build t parts=>match Cp P t,DT P t with
  | some fs,some z=>match NO P fs with
   | true=>match AF (EM P fs) z (parts.toList.map fun p=>(p.1,F.ev p.2)) with
    | some ls=>some (.agg ls,[])
    | none=>none
   | false=>none
  | _,_=>none
 | .makeFunc fn first captured=>match KX (first.toList.map F.ev),KX (captured.toList.map F.ev) with
  | some vs,some us=>some (.val (.func fn vs.toArray us.toArray),[])
  | _,_=>none
 | .call c=>match c.callee,c.args.toList,c.argTypes.toList with
  | .builtin .len,[x],[t]=>match P.underlying t with
   | some (.slice _)=>match F.ev x with
    | .sl es _=>some (.val (.int .i64 (es.length:Int)),[])
    | .val (.slice _ len _)=>some (.val (.int .i64 (len:Int)),[])
    | _=>none
   | _=>none
  | _,_,_=>none
 | _=>none
theorem VZ {P:Program} {t:TypeId} {d:TypeDesc} (h:P.underlying t=some d) (w:World):(underlying t).run P w=.ok d w:=by
 simp [underlying,h]
theorem GW {P:Program} {t:TypeId} {i:TypeInfo} (h:P.info? t=some i) (w:World):(typeInfo t).run P w=.ok i w:=by
 simp [typeInfo,h]
theorem Qn {P:Program} {t:TypeId} {i:TypeInfo} (h:P.info? t=some i) (w:World):(sizeOf t).run P w=.ok i.size w:=by
 simp [sizeOf,GW h]
theorem IW {P:Program} {t:TypeId} {fs:Array Field} (h:Cp P t=some fs):P.underlying t=some (.struct fs):=by
 unfold Cp at h
 split at h
 ·simp_all
 ·cases h
theorem ET {P:Program} {t:TypeId} {b:Bool} (h:Dl P t=some b) (w:World):(isAgg t).run P w=.ok b w:=by
 unfold Dl at h
 split at h
 ·rename_i h';cases h;simp [isAgg,VZ h']
 ·rename_i h';cases h;simp [isAgg,VZ h']
 ·rename_i d hd1 hd2 h'
  cases h
  simp [isAgg,VZ h']
 ·cases h
theorem NN {P:Program} {s:TypeId} {f off:Nat} (h:Ee P s f=some off) :
  ∃fs fd i,P.underlying s=some (.struct fs)/\fs[f]? = some fd/\P.info? fd.type=some i/\i.size≠0/\fd.offset=off:=by
 unfold Ee at h
 cases h1:Cp P s with
 | none=>simp [h1] at h
 | some fs=>
  cases h2:fs[f]? with
  | none=>simp [h1,h2] at h
  | some fd=>
   cases h3:P.info? fd.type with
   | none=>simp [h1,h2,h3] at h
   | some i=>
    cases h4:Nat.beq i.size 0 with
    | true=>simp [h1,h2,h3,h4] at h
    | false=>
     simp [h1,h2,h3,h4] at h
     refine ⟨fs,fd,i,IW h1,h2,h3,fun h0=>?_,h⟩
     rw [h0] at h4
     cases h4
theorem J5 (b o n:Nat):(⟨b,o,none⟩:Addr).add n=⟨b,o+n,none⟩:=by
 unfold Addr.add;split<;>simp_all
theorem RT {P:Program} {s:TypeId} {f off b o:Nat} (h:Ee P s f=some off) (w:World) :
  (Instr.fieldAt s (.pointer (some ⟨b,o,none⟩)) f).run P w=.ok (.pointer (some ⟨b,o+off,none⟩)) w:=by
 obtain ⟨fs,fd,i,h1,h2,h3,h4,rfl⟩:=NN h
 simp [Instr.fieldAt,VZ h1,h2,Instr.sureAddr,fieldPlace,Qn h3,h4,J5]
theorem GV {P:Program} {t:TypeId} {ls:List AV} {x:AV} {w0:World} {G:Yk} {b o:Nat} {cs:List Value} (hx:AQ P t ls=some x) (hcs:YV w0 G ls cs) :
  ∃v,RV w0 G x v/\∀w',(∀j u,cs[j]? = some u->w'.cell? ⟨b,o+j,none⟩=some u)->(loadVar t ⟨b,o,none⟩).run P w'=.ok v w':=by
 unfold AQ at hx
 cases hb:Dl P t with
 | none=>simp [hb] at hx
 | some g=>
  cases hi:P.info? t with
  | none=>cases g<;>simp [hb,hi] at hx
  | some i=>
   cases g with
   | true=>
    simp only [hb,hi] at hx
    cases hle:Nat.ble i.size ls.length with
    | false=>simp [hle] at hx
    | true=>
     simp only [hle,Wt] at hx
     subst hx
     have hlen:i.size<=ls.length:=V6 hle
     refine ⟨_,.agg (hcs.take i.size),fun w' hc=>?_⟩
     have Xx:(cs.take i.size).length=i.size:=by simp [hcs.length,hlen]
     have:=run_loadCells_list (P:=P) (w:=w') ⟨b,o,none⟩ (cs.take i.size) (fun j v hj=>by
      rw [J5]
      rw [Qe] at hj
      split at hj
      ·exact hc j v hj
      ·cases hj)
     rw [Xx] at this
     simp [loadVar,ET hb,Qn hi,this]
   | false=>
    simp only [hb,hi] at hx
    cases hcs with
    | nil=>simp at hx
    | cons h1 h2=>
     rename_i c vs xs
     simp at hx
     subst hx
     refine ⟨_,h1,fun w' hc=>?_⟩
     have:=hc 0 c (by simp)
     simp only [BQ] at this
     simp only [loadVar,Sem.run_bind,ET hb,Result.andThen_ok]
     simp [load,Sem.run,this]
theorem Vr {P:Program} {x:Sem Value} {w w':World} {v:Value} (h:x.run P w=.ok v w') :
  (do pure (Next.value (<-x)):Sem Next).run P w=.ok (.value v) w':=by
 simp [h]
theorem Mk {w:World} {G:Yk} {a:Act} {n:Nat} {F:Fr} (hF:FR w G n F a):∀{xs:List Operand} {vs:List Value},KX (xs.map F.ev)=some vs->xs.map a.eval=vs
 | [],vs,h=>by simp [KX] at h;simp [h]
 | x::xs,vs,h=>by
  simp only [Td] at h ⊢
  have hx:=hF.ev x
  cases he:F.ev x with
  | val v=>
   simp only [he,KX] at h
   cases h2:KX (xs.map F.ev) with
   | none=>simp [h2] at h
   | some us=>
    simp [h2] at h
    rw [he] at hx
    cases hx
    rw [Mk hF h2,h]
  | any=>simp [he,KX] at h
  | sl es hv=>simp [he,KX] at h
  | agg ls=>simp [he,KX] at h
  | rp ls=>simp [he,KX] at h
  | tup vs=>simp [he,KX] at h
theorem Z4d {P:Program} {op:BinOp} {k:IntKind} {a b:Int} {v:Value} (h:Ed op k a b=some v) (xt:TypeId) (x y:Operand) (w:World) :
  (do eqGuard op xt x y (.int k a) (.int k b);binOp op xt (.int k a) (.int k b)).run P w=.ok v w:=by
 cases op<;>simp [Ed] at h<;>subst h<;>simp [eqGuard,binOp,Op.intArith,Op.intCmp]
theorem RV.val_inv {w:World} {G:Yk} {v u:Value} (h:RV w G (.val v) u):u=v:=by cases h;rfl
theorem RV.one_cell {w:World} {G:Yk} {x:AV} {v:Value} (h:RV w G x v) (hx:x.one=true):v.oneCell'=true:=by
 cases h with
 | val=>exact hx
 | nil=>rfl
 | sl=>rfl
 | rp=>rfl
 | any=>simp [AV.one] at hx
 | agg=>simp [AV.one] at hx
 | tup=>simp [AV.one] at hx
theorem HT {v:Value} (h:v.oneCell'=true):v.cells.toList=[v]:=by
 cases v<;>first|rfl|(simp [Value.oneCell'] at h)
theorem RV.cells {w:World} {G:Yk} {x:AV} {v:Value} (h:RV w G x v) (hx:x.fit=true):YV w G x.leaves v.cells.toList:=by
 cases x with
 | agg ls=>cases h with | agg hh=>simpa [AV.leaves,Value.cells] using hh
 | any=>simp [AV.fit,AV.one] at hx
 | tup vs=>simp [AV.fit,AV.one] at hx
 | val u=>rw [HT (h.one_cell hx)];exact .cons h .nil
 | sl es hv=>rw [HT (h.one_cell rfl)];exact .cons h .nil
 | rp ls=>rw [HT (h.one_cell rfl)];exact .cons h .nil
theorem YV.one_cells {w:World} {G:Yk}:∀{xs:List AV} {vs:List Value},YV w G xs vs->xs.all AV.one=true->∀v∈vs,v.oneCell'=true
 | _,_,.nil,_,v,hv=>by simp at hv
 | _,_,.cons h t,hx,v,hv=>by
  simp only [List.all_cons,Xb] at hx
  rcases YM.1 hv with rfl|hv
  ·exact h.one_cell hx.1
  ·exact t.one_cells hx.2 v hv
theorem S4 (off:Nat):∀(vs:List Value) (i:Nat) (cs:Array Value),off+i+vs.length<=cs.size ->
  ((vs.zipIdx i).foldl (fun (cs:Array Value) (p:Value × Nat)=>cs.setIfInBounds (off+p.2) p.1) cs).toList=cs.toList.take (off+i)++vs++cs.toList.drop (off+i+vs.length)
 | [],i,cs,h=>by simp
 | v::vs,i,cs,h=>by
  simp only [List.zipIdx_cons,List.foldl_cons]
  rw [S4 off vs (i+1) _ (by simp at h ⊢;omega)]
  have e:=list_seg_step cs.toList (off+i) v vs (by simp at h ⊢;omega)
  simpa [Array.toList_setIfInBounds,Aj] using e
theorem Iq {w:World} {G:Yk} {place:Nat->Option (Nat × Nat)}:∀{parts:List (Nat × AV)} {vps:List (Nat × Value)} {ls out:List AV} {cs:Array Value},
  AF place ls parts=some out->parts.map (·.1)=vps.map (·.1)->YV w G (parts.map (·.2)) (vps.map (·.2))->YV w G ls cs.toList ->
  ∃cs',Instr.fill place cs vps=some cs'/\YV w G out cs'.toList
 | [],vps,ls,out,cs,h,h1,h2,h3=>by
  cases vps with
  | nil=>simp [AF] at h;subst h;exact ⟨cs,rfl,h3⟩
  | cons p r=>simp at h1
 | (i,x)::rest,vps,ls,out,cs,h,h1,h2,h3=>by
  cases vps with
  | nil=>simp at h1
  | cons p r=>
   obtain ⟨j,v⟩:=p
   simp only [Td,List.cons.injEq] at h1 h2
   obtain ⟨rfl,h1⟩:=h1
   cases h2 with
   | cons hx ht=>
    simp only [AF] at h
    cases hp:place i with
    | none=>simp [hp] at h
    | some os=>
     obtain ⟨off,size⟩:=os
     simp only [hp] at h
     cases hc:(x.fit&&(Nat.beq x.leaves.length size&&Nat.ble (off+size) ls.length)) with
     | false=>simp [hc] at h
     | true=>
      simp only [hc] at h
      simp only [Xb] at hc
      have e1:x.leaves.length=size:=UT hc.2.1
      have e2:off+size<=ls.length:=V6 hc.2.2
      have hl:=h3.length
      have hxc:=hx.cells hc.1
      have hvl:v.cells.size=size:=by have:=hxc.length;simpa [e1] using this
      have hcl:cs.size=ls.length:=by simpa using hl
      have key:YV w G (ls.take off++x.leaves++ls.drop (off+size))
        (v.cells.zipIdx.foldl (fun (cs:Array Value) (p:Value × Nat)=>cs.setIfInBounds (off+p.2) p.1) cs).toList:=by
       have:=S4 off v.cells.toList 0 cs (by simp [hvl,hcl];omega)
       rw [<-Array.foldl_toList,Array.toList_zipIdx,this]
       simp only [BQ,JA,hvl]
       exact ((h3.take off).append hxc).append (h3.drop (off+size))
      obtain ⟨cs',k1,k2⟩:=Iq h h1 ht key
      refine ⟨cs',?_,k2⟩
      simp only [Instr.fill,hp]
      rw [Zd (by simp [hvl,hcl];omega)]
      exact k1
theorem Z0h {P:Program} {t:TypeId} {ls:List AV} (h:DT P t=some ls) :
  ∃i z,P.info? t=some i/\i.zero=some z/\ls=z.cells.toList.map AV.ofVal:=by
 unfold DT at h
 cases hi:P.info? t with
 | none=>simp [hi] at h
 | some i=>
  cases hz:i.zero with
  | none=>simp [hi,hz] at h
  | some z=>simp [hi,hz] at h;exact ⟨i,z,rfl,hz,h.symm⟩
theorem YV.ofVals {w:World} {G:Yk}:∀(vs:List Value),YV w G (vs.map AV.ofVal) vs
 | []=>.nil
 | v::vs=>.cons (RV.ofVal v) (YV.ofVals vs)
theorem YV.map {w:World} {G:Yk} {α:Type} (f:α->AV) (g:α->Value):∀(xs:List α),(∀x∈xs,RV w G (f x) (g x))->YV w G (xs.map f) (xs.map g)
 | [],_=>.nil
 | x::xs,h=>.cons (h x (by simp)) (YV.map f g xs fun y hy=>h y (by simp [hy]))
theorem RW {P:Program} (w:World):∀(l:List Field),(l.all fun f=>(P.info? f.type).isSome)=true ->
  (List.mapM (m:=Sem) (fun f=>Functor.map (Prod.mk f.offset) (sizeOf f.type)) l).run P w=.ok (l.map fun f=>(f.offset,((P.info? f.type).map (·.size)).getD 0)) w
 | [],_=>by simp
 | f::l,h=>by
  simp only [List.all_cons,Xb] at h
  cases hfi:P.info? f.type with
  | none=>simp [hfi] at h
  | some j=>simp [Qn hfi,RW w l h.2,hfi]
theorem Zcu {P:Program} {t:TypeId} {fs:Array Field} {z ls:List AV} {w:World} {G:Yk} {n:Nat} {F:Fr} {a:Act} (hF:FR w G n F a) (parts:Array (Nat × Operand))
  (h1:Cp P t=some fs) (h2:DT P t=some z) (h4:NO P fs=true) (h3:AF (EM P fs) z (parts.toList.map fun p=>(p.1,F.ev p.2))=some ls) :
  ∃v,RV w G (.agg ls) v/\∀w',(Instr.build t (parts.map fun (i,x)=>(i,a.eval x))).run P w'=.ok v w':=by
 obtain ⟨i,zv,hi,hz,rfl⟩:=Z0h h2
 have hu:=IW h1
 have hpl:∀k,((fs.toList.map fun f=>(f.offset,((P.info? f.type).map (·.size)).getD 0)).toArray)[k]? = EM P fs k:=by
  intro k
  unfold EM
  simp only [List.getElem?_toArray,J1,Hq]
  cases hk:fs[k]? with
  | none=>rfl
  | some f=>
   have hf:(P.info? f.type).isSome=true:=by
    have:=Af.1 h4 f (by rw [Array.mem_toList_iff];exact Array.mem_of_getElem? hk)
    exact this
   cases hfi:P.info? f.type with
   | none=>simp [hfi] at hf
   | some j=>simp [hfi]
 obtain ⟨cs',k1,k2⟩:=Iq (w:=w) (G:=G) (vps:=parts.toList.map fun p=>(p.1,a.eval p.2)) h3 (by simp [List.map_map,Function.comp_def])
  (by simpa [List.map_map,Function.comp_def] using YV.map (fun p:Nat × Operand=>F.ev p.2) (fun p=>a.eval p.2) parts.toList fun p _=>hF.ev p.2)
  (cs:=zv.cells) (YV.ofVals _)
 refine ⟨_,.agg (cs:=cs'.toList) k2,fun w'=>?_⟩
 have hz':(zeroValue t).run P w'=.ok zv w':=by simp [zeroValue,GW hi,hz]
 have hm:=RW (P:=P) w' fs.toList h4
 have hfun:(fun k=>((fs.toList.map fun f=>(f.offset,((P.info? f.type).map (·.size)).getD 0)).toArray)[k]?)=EM P fs:=funext hpl
 simp only [Instr.build,Sem.run_bind,hz',Result.andThen_ok,VZ hu,Array.mapM_eq_mapM_toList]
 simp [hm,hpl,k1,Array.toList_map]
theorem D9 {P:Program} {o:Oper} {F:Fr} {h:List Res} {hint:Nat} {x:AV} {eqs:List (Nat × Nat)} (he:TZ P o F h hint=some (x,eqs))
  (heq:∀p∈eqs,p.1=p.2):XW P o F h (eqs.map (·.1)) x:=by
 intro n w G a hF hh
 obtain ⟨dst,op,type,pos,after,guard⟩:=o
 cases op<;>simp only [TZ] at he
 case move y=>
  cases he
  exact ⟨_,hF.ev y,fun w' _ _=>by simp [execOp]⟩
 case assign y=>
  cases he
  exact ⟨_,hF.ev y,fun w' _ _=>by simp [execOp]⟩
 case pick c y z=>
  have hc:=hF.ev c
  split at he
  ·rename_i hb
   cases he
   rw [hb] at hc
   have hc:=hc.val_inv
   exact ⟨_,hF.ev y,fun w' _ _=>by simp [execOp,hc,asBool]⟩
  ·rename_i hb
   cases he
   rw [hb] at hc
   have hc:=hc.val_inv
   exact ⟨_,hF.ev z,fun w' _ _=>by simp [execOp,hc,asBool]⟩
  ·cases he
 case binOp bop xt y z yt=>
  have hy:=hF.ev y
  have hz:=hF.ev z
  split at he
  ·rename_i k p k' q h1 h2
   rw [h1] at hy
   rw [h2] at hz
   have hy:=hy.val_inv
   have hz:=hz.val_inv
   split at he
   ·rename_i hk
    have hk:=Zd1 hk
    subst hk
    split at he
    ·rename_i v hv
     cases he
     refine ⟨v,.val,fun w' _ _=>?_⟩
     have:=Z4d (P:=P) hv xt y z w'
     simp only [execOp,hy,hz]
     exact Vr this
    ·cases he
   ·cases he
  ·cases he
 case unOp uop xt y=>
  have hy:=hF.ev y
  split at he
  ·rename_i b hb
   cases he
   rw [hb] at hy
   have hy:=hy.val_inv
   exact ⟨_,.val,fun w' _ _=>by simp [execOp,hy,Op.unary]⟩
  ·cases he
 case nilCheck y=>
  have hy:=hF.ev y
  generalize hv:a.eval y=u at hy
  split at he
  ·rename_i ad hb
   cases he
   rw [hb] at hy
   have hy:=hy.val_inv
   exact ⟨_,.val,fun w' _ _=>by simp [execOp,hv,hy]⟩
  ·rename_i ls hb
   cases he
   rw [hb] at hy
   cases hy with
   | rp hm=>exact ⟨_,.rp hm,fun w' _ _=>by simp [execOp,hv]⟩
  ·rename_i f p c hb
   cases he
   rw [hb] at hy
   have hy:=hy.val_inv
   exact ⟨_,.val,fun w' _ _=>by simp [execOp,hv,hy]⟩
  ·cases he
 case fieldAddr s y f=>
  have hy:=hF.ev y
  generalize hv:a.eval y=u at hy
  split at he
  ·rename_i off hoff
   split at he
   ·rename_i ls hb
    cases he
    rw [hb] at hy
    cases hy with
    | rp hm=>
     refine ⟨_,.rp (hm.drop off),fun w' _ _=>?_⟩
     simp only [execOp,hv]
     exact Vr (RT hoff w')
   ·rename_i b o' hb
    cases he
    rw [hb] at hy
    have hy:=hy.val_inv
    subst hy
    refine ⟨_,.val,fun w' _ _=>?_⟩
    simp only [execOp,hv]
    exact Vr (RT hoff w')
   ·cases he
  ·cases he
 case field s y f=>
  have hy:=hF.ev y
  generalize hv:a.eval y=u at hy
  split at he
  ·rename_i off fs hoff hfs
   split at he
   ·rename_i fd hfd
    split at he
    ·rename_i ls hb
     split at he
     ·rename_i v hl
      cases he
      rw [hb] at hy
      cases hy with
      | agg hc=>
       rename_i cs
       obtain ⟨fs',fd',i,k1,k2,k3,k4,rfl⟩:=NN hoff
       have k0:=IW hfs
       rw [k0] at k1
       cases k1
       rw [hfd] at k2
       cases k2
       have hd:=hc.drop fd.offset
       unfold AQ at hl
       cases hg:Dl P fd.type with
       | none=>simp [hg] at hl
       | some g=>
        cases g with
        | true=>
         simp only [hg,k3] at hl
         cases hle:Nat.ble i.size (ls.drop fd.offset).length with
         | false=>rw [hle] at hl;cases hl
         | true=>
          rw [hle] at hl
          simp only [Wt] at hl
          subst hl
          refine ⟨_,.agg (hd.take i.size),fun w' _ _=>?_⟩
          simp only [execOp,hv]
          refine Vr ?_
          simp only [Instr.field,Sem.run_bind,VZ k0,Result.andThen_ok,hfd]
          simp [asAgg,part,ET hg,Qn k3]
        | false=>
         simp only [hg,k3] at hl
         generalize hls:ls.drop fd.offset=ls' at hl hd
         generalize hcs:cs.drop fd.offset=cs' at hd
         cases hd with
         | nil=>simp at hl
         | cons h1 h2=>
          rename_i c vs xs
          simp at hl
          subst hl
          refine ⟨_,h1,fun w' _ _=>?_⟩
          simp only [execOp,hv]
          refine Vr ?_
          have hget:cs[fd.offset]? = some c:=by
           have:=Yj (fun l=>l[0]?) hcs
           simpa using this
          simp only [Instr.field,Sem.run_bind,VZ k0,Result.andThen_ok,hfd]
          simp [asAgg,part,ET hg,hget]
     ·cases he
    ·cases he
   ·cases he
  ·cases he
 case load t y=>
  have hy:=hF.ev y
  generalize hv:a.eval y=u at hy
  split at he
  ·rename_i ls hb
   split at he
   ·rename_i v hl
    cases he
    rw [hb] at hy
    cases hy with
    | rp hm=>
     rename_i b o'
     obtain ⟨cs,Z9,Zh⟩:=hm.cells
     obtain ⟨v',h1,h2⟩:=GV (b:=b) (o:=o') hl Z9
     refine ⟨v',h1,fun w' hw _=>?_⟩
     simp only [execOp,hv]
     refine Vr ?_
     simp only [Instr.loadAt,Instr.sureAddr,Sem.run_bind,Sem.run_pure,Result.andThen_ok]
     exact h2 w' fun j u hj=>(hw _ _ (Zh j u hj).2).trans (Zh j u hj).1
   ·cases he
  ·rename_i b o' hb
   split at he
   ·rename_i b' ls hh'
    split at he
    ·rename_i v hl
     cases he
     rw [hb] at hy
     have hy:=hy.val_inv
     subst hy
     have hbb:b=b':=heq (b,b') (by simp)
     subst hbb
     obtain ⟨cs,e,k1,k2⟩:=hh.ok _ (Y4 hh')
     obtain ⟨v',h1,h2⟩:=GV (b:=b) (o:=o') hl (k2.drop o')
     refine ⟨v',h1,fun w' _ hw=>?_⟩
     simp only [execOp,hv]
     refine Vr ?_
     simp only [Instr.loadAt,Instr.sureAddr,Sem.run_bind,Sem.run_pure,Result.andThen_ok]
     refine h2 w' fun j u hj=>?_
     have:=hw b (by simp)
     rw [k1] at this
     rw [cell_of_row w' b (o'+j) cs e (0,0) this]
     simpa using hj
    ·cases he
   ·cases he
  ·cases he
 case extract y i=>
  have hy:=hF.ev y
  generalize hv:a.eval y=u at hy
  split at he
  ·rename_i vs hb
   split at he
   ·rename_i v hl
    cases he
    rw [hb] at hy
    cases hy with
    | tup hc=>
     rename_i cs
     obtain ⟨c,h1,h2⟩:=hc.get i _ hl
     exact ⟨c,h2,fun w' _ _=>by simp [execOp,hv,Instr.extract,h1]⟩
   ·cases he
  ·cases he
 case build t parts=>
  split at he
  ·rename_i fs z h1 h2
   split at he
   ·rename_i h4
    split at he
    ·rename_i ls h3
     cases he
     obtain ⟨v,hv1,hv2⟩:=Zcu hF parts h1 h2 h4 h3
     exact ⟨v,hv1,fun w' _ _=>by simp only [execOp];exact Vr (hv2 w')⟩
    ·cases he
   ·cases he
  ·cases he
 case makeFunc fn first captured=>
  split at he
  ·rename_i vs us h1 h2
   cases he
   have e1:=Mk hF h1
   have e2:=Mk hF h2
   refine ⟨_,.val,fun w' _ _=>?_⟩
   have e1':first.map a.eval=vs.toArray:=by rw [<-e1,<-Array.toList_map,UH]
   have e2':captured.map a.eval=us.toArray:=by rw [<-e2,<-Array.toList_map,UH]
   simp only [execOp]
   exact Vr (by simp only [Instr.makeFunc,e1',e2'];simp)
  ·cases he
 case call c=>
  obtain ⟨callee,args,argTypes⟩:=c
  simp only at he
  split at he
  ·rename_i y t hargs htys
   split at he
   ·rename_i el hu
    have hy:=hF.ev y
    generalize hv:a.eval y=u at hy
    have ha:args=#[y]:=by rw [<-UH (xs:=args),hargs]
    have ht:argTypes=#[t]:=by rw [<-UH (xs:=argTypes),htys]
    subst ha;subst ht
    split at he
    ·rename_i es hv' hb
     cases he
     rw [hb] at hy
     refine ⟨.int .i64 es.length,.val,fun w' _ _=>?_⟩
     cases hy with
     | nil hx=>simp [execOp,resolve,invoke,builtin,hv,Builtin.len_,VZ hu,goInt]
     | sl hx hc hm=>simp [execOp,resolve,invoke,builtin,hv,Builtin.len_,VZ hu,goInt]
    ·rename_i ad len cap hb
     cases he
     rw [hb] at hy
     have hy:=hy.val_inv
     subst hy
     exact ⟨.int .i64 len,.val,fun w' _ _=>by simp [execOp,resolve,invoke,builtin,hv,Builtin.len_,VZ hu,goInt]⟩
    ·cases he
   ·cases he
  ·cases he
 all_goals (cases he)
def B8 (h:List Res) (b:Nat):Prop:=∀s,Res.ge s∈h->s<=b
theorem IF {w:World} {G:Yk} {h:List Res} (hh:YI w G h):B8 h w.heap.size:=fun _ hs=>hh.ok _ hs
theorem G4 (w:World) (o:Obj):(w.alloc o).heap[w.heap.size]? = some o:=heap_alloc_new w o
theorem Bo (w:World) (o:Obj) {b:Nat} (hb:b<w.heap.size):(w.alloc o).heap[b]? = w.heap[b]?:=heap_alloc_old w o b hb
theorem E5 (w:World) (o:Obj) {b j:Nat} (hb:b<w.heap.size):(w.alloc o).cell? ⟨b,j,none⟩=w.cell? ⟨b,j,none⟩:=by
 simp [World.cell?,Bo w o hb]
theorem YI.alloc {w:World} {G:Yk} {h:List Res} (hh:YI w G h) (o:Obj) {G':Yk} {h':List Res}
  (hsub:∀b o,G b o->G' b o) (hG:∀b o,G' b o->G b o∨b=w.heap.size) (hnew:∀r∈h',Qx (w.alloc o) G' r)
  (hfp:∀r∈h',∀b o,r.fp b o->b=w.heap.size) (hap:h'.Pairwise B7) (hpr:∀r∈h',∀b o,r.fp b o->G' b o->False) :
  YI (w.alloc o) G' (h'++h)/\X3 w G h (w.alloc o) G' (h'++h):=by
 have hA:VR G w (w.alloc o) G':=⟨fun b j hg=>E5 w o (hh.lt b j hg),hsub⟩
 have Xx:(w.alloc o).heap.size=w.heap.size+1:=by simp
 refine ⟨⟨?_,?_,?_,?_⟩,⟨rfl,rfl,rfl,by omega,hsub,fun b hb=>.inl (Bo w o hb),?_,?_⟩⟩
 ·intro r hr
  rcases Xm.1 hr with hr|hr
  ·exact hnew r hr
  ·have h0:=hh.ok r hr
   cases r with
   | obj b ls=>
    obtain ⟨cs,el,h1,h2⟩:=h0
    exact ⟨cs,el,(Bo w o (UG.1 h1).1).trans h1,h2.mono hA⟩
   | tail v k=>
    rcases h0 with rfl|⟨g,len,cap,cur,el,rfl,h1,h2,h3⟩
    ·exact .inl rfl
    ·exact .inr ⟨g,len,cap,cur,el,rfl,(Bo w o (UG.1 h1).1).trans h1,h2,h3⟩
   | ge s=>exact Vb h0 om
   | vec v ls=>
    rcases h0 with ⟨rfl,h0⟩|⟨g,cap,cur,el,rfl,h1,h2,h3,h4⟩
    ·exact .inl ⟨rfl,h0⟩
    ·exact .inr ⟨g,cap,cur,el,rfl,(Bo w o (UG.1 h1).1).trans h1,h2,h3,h4.mono hA⟩
   | many ts=>
    refine ⟨fun p hp=>?_,h0.2⟩
    rcases h0.1 p hp with q|⟨g,len,cap,cur,el,q,h1,h2,h3⟩
    ·exact .inl q
    ·exact .inr ⟨g,len,cap,cur,el,q,(Bo w o (UG.1 h1).1).trans h1,h2,h3⟩
   | own B m=>
    intro b hB
    obtain ⟨cs,el,h1,h2⟩:=h0 b hB
    exact ⟨cs,el,(Bo w o (UG.1 h1).1).trans h1,h2⟩
   | row v k ls=>
    rcases h0 with ⟨rfl,h0⟩|⟨g,len,cap,cur,el,rfl,h1,h2,h3,h4,h5⟩
    ·exact .inl ⟨rfl,h0⟩
    ·exact .inr ⟨g,len,cap,cur,el,rfl,(Bo w o (UG.1 h1).1).trans h1,h2,h3,h4,h5.mono hA⟩
 ·refine B5.2 ⟨hap,hh.apart,fun r hr r' hr' b j hf hf'=>?_⟩
  have e:=hfp r hr b j hf
  have:=(hh.ok r' hr').lt b j hf'
  omega
 ·intro r hr b j hf hg
  rcases Xm.1 hr with hr|hr
  ·exact hpr r hr b j hf hg
  ·rcases hG b j hg with h1|h1
   ·exact hh.prot r hr b j hf h1
   ·have:=(hh.ok r hr).lt b j hf
    omega
 ·intro b j hg
  rcases hG b j hg with h1|h1
  ·have:=hh.lt b j h1;omega
  ·omega
 ·intro b j hb hg
  rcases hG b j hg with h1|h1
  ·exact .inl h1
  ·omega
 ·intro b j hb hf
  rcases Bl.1 hf with ⟨r,hr,h1⟩|h1
  ·have:=hfp r hr b j h1;omega
  ·exact h1
theorem YI.alloc_obj {w:World} {G:Yk} {h:List Res} (hh:YI w G h) (cs:Array Value) (t:TypeId) {ls:List AV} (hls:YV w G ls cs.toList) :
  YI (w.alloc (.cells cs t)) G (.obj w.heap.size ls::h)/\X3 w G h (w.alloc (.cells cs t)) G (.obj w.heap.size ls::h):=by
 have hA:VR G w (w.alloc (.cells cs t)) G:=⟨fun b j hg=>E5 w _ (hh.lt b j hg),fun _ _ h=>h⟩
 refine hh.alloc (.cells cs t) (h':=[.obj w.heap.size ls]) (fun _ _ h=>h) (fun _ _ h=>.inl h) ?_ ?_ (DV _ _) ?_
 ·intro r hr
  rw [Xr.1 hr]
  exact ⟨cs,t,G4 w _,hls.mono hA⟩
 ·intro r hr b j hf
  rw [Xr.1 hr] at hf
  exact hf
 ·intro r hr b j hf hg
  rw [Xr.1 hr] at hf
  have:=hh.lt b j hg
  have:b=w.heap.size:=hf
  omega
section
variable {P:Program} {n:Nat} {o:Oper} {F:Fr} {h:List Res} {K:Fr->List Res->Prop}
theorem Zay (t:TypeId) {ls:List AV} (ho:o.op=.alloc t) (hz:DT P t=some ls) (hd:VC n o=true)
  (hK:∀b,B8 h b->K (F.put o.dst (.val (.pointer (some ⟨b,0,none⟩)))) (.obj b ls::h)):WE P n o F h K:=by
 intro Q w G a hF hh
 obtain ⟨i,z,hi,hzz,rfl⟩:=Z0h hz
 have hr:(execOp a.eval o).run P w=.ok (.value (.pointer (some ⟨w.heap.size,0,none⟩))) (w.alloc (.cells z.cells t)):=by
  simp only [execOp,ho]
  simp [Instr.alloc,zeroValue,GW hi,hzz,newVar,newRow]
 unfold Oper.wp
 rw [hr]
 have hls:YV w G (z.cells.toList.map AV.ofVal) z.cells.toList:=YV.ofVals _
 obtain ⟨h1,h2⟩:=hh.alloc_obj z.cells t hls
 exact ⟨_,_,G,hK _ (IF hh),(hF.mono (h2.agree hh)).put (Tk hd) .val,h1,h2⟩
theorem Zb0 (t:TypeId) (x:Operand) {X:AV} (ho:o.op=.box t x) (hx:F.ev x=X) (hfit:X.fit=true) (hd:VC n o=true)
  (hK:∀b,B8 h b->K (F.put o.dst (.val (.pointer (some ⟨b,0,none⟩)))) (.obj b X.leaves::h)):WE P n o F h K:=by
 intro Q w G a hF hh
 have hv:=hF.ev x
 rw [hx] at hv
 have hr:(execOp a.eval o).run P w=.ok (.value (.pointer (some ⟨w.heap.size,0,none⟩))) (w.alloc (.cells (a.eval x).cells t)):=by
  simp only [execOp,ho]
  simp [Instr.box,newVar,newRow]
 unfold Oper.wp
 rw [hr]
 obtain ⟨h1,h2⟩:=hh.alloc_obj (a.eval x).cells t (hv.cells hfit)
 exact ⟨_,_,G,hK _ (IF hh),(hF.mono (h2.agree hh)).put (Tk hd) .val,h1,h2⟩
end
theorem VI (w:World) (g b:Nat) (cs:Array Value) (hb:b≠g):(w.setRow g cs).heap[b]? = w.heap[b]?:=setRow_other w g b cs hb
theorem YI.write {w:World} {G:Yk} {h1 h2:List Res} {b:Nat} {ls ls':List AV} (hh:YI w G (h1++.obj b ls::h2)) {cs cs':Array Value} {e:TypeId}
  (hb:w.heap[b]? = some (.cells cs e (0,0))) (Xx:cs'.size=cs.size) (hls:YV w G ls' cs'.toList) :
  YI (w.setRow b cs') G (h1++.obj b ls'::h2)/\X3 w G (h1++.obj b ls::h2) (w.setRow b cs') G (h1++.obj b ls'::h2):=by
 have hmem:Res.obj b ls∈h1++.obj b ls::h2:=by simp
 have hA:VR G w (w.setRow b cs') G:=⟨fun c j hg=>by
  have hne:c≠b:=fun he=>hh.prot _ hmem c j he hg
  simp [World.cell?,VI w b c cs' hne],fun _ _ h=>h⟩
 have hfpe:∀c j,Vp (h1++.obj b ls'::h2) c j↔Vp (h1++.obj b ls::h2) c j:=by
  intro c j
  simp only [Vp,Xm,YM]
  constructor
  ·rintro ⟨r,hr|rfl|hr,hf⟩
   ·exact ⟨r,.inl hr,hf⟩
   ·exact ⟨_,.inr (.inl rfl),hf⟩
   ·exact ⟨r,.inr (.inr hr),hf⟩
  ·rintro ⟨r,hr|rfl|hr,hf⟩
   ·exact ⟨r,.inl hr,hf⟩
   ·exact ⟨_,.inr (.inl rfl),hf⟩
   ·exact ⟨r,.inr (.inr hr),hf⟩
 have hpw:=B5.1 hh.apart
 have hpw2:=Va.1 hpw.2.1
 have hother:∀r,(r∈h1∨r∈h2)->∀c j,r.fp c j->c≠b:=by
  intro r hr c j hf hc
  subst hc
  rcases hr with hr|hr
  ·exact hpw.2.2 r hr (.obj c ls) (by simp) c j hf rfl
  ·exact hpw2.1 r hr c j rfl hf
 have hkeep:∀r,(r∈h1∨r∈h2)->Qx w G r->Qx (w.setRow b cs') G r:=by
  intro r hr h0
  cases r with
  | obj c ks=>
   obtain ⟨ds,el,k1,k2⟩:=h0
   have hne:c≠b:=hother _ hr c 0 rfl
   exact ⟨ds,el,(VI w b c cs' hne).trans k1,k2.mono hA⟩
  | tail v k=>
   rcases h0 with rfl|⟨g,len,cap,cur,el,rfl,k1,k2,k3⟩
   ·exact .inl rfl
   ·have hne:g≠b:=hother _ hr g (len*k) ⟨rfl,X9 _⟩
    exact .inr ⟨g,len,cap,cur,el,rfl,(VI w b g cs' hne).trans k1,k2,k3⟩
  | ge s=>exact Vb h0 (by simp [World.setRow])
  | vec v ks=>
   rcases h0 with ⟨rfl,h0⟩|⟨g,cap,cur,el,rfl,k1,k2,k3,k4⟩
   ·exact .inl ⟨rfl,h0⟩
   ·have hne:g≠b:=hother _ hr g 0 rfl
    exact .inr ⟨g,cap,cur,el,rfl,(VI w b g cs' hne).trans k1,k2,k3,k4.mono hA⟩
  | many ts=>
   refine ⟨fun p hp=>?_,h0.2⟩
   rcases h0.1 p hp with q|⟨g,len,cap,cur,el,q,k1,k2,k3⟩
   ·exact .inl q
   ·have hne:g≠b:=hother _ hr g (len*p.2) ⟨p,hp,by rw [q];exact ⟨rfl,X9 _⟩⟩
    exact .inr ⟨g,len,cap,cur,el,q,(VI w b g cs' hne).trans k1,k2,k3⟩
  | own B m=>
   intro c hc
   obtain ⟨ds,el,k1,k2⟩:=h0 c hc
   have hne:c≠b:=hother _ hr c 0 hc
   exact ⟨ds,el,(VI w b c cs' hne).trans k1,k2⟩
  | row v k ks=>
   rcases h0 with ⟨rfl,h0⟩|⟨g,len,cap,cur,el,rfl,k1,k2,k3,k4,k5⟩
   ·exact .inl ⟨rfl,h0⟩
   ·have hne:g≠b:=hother _ hr g 0 rfl
    exact .inr ⟨g,len,cap,cur,el,rfl,(VI w b g cs' hne).trans k1,k2,k3,k4,k5.mono hA⟩
 refine ⟨⟨?_,?_,?_,?_⟩,⟨rfl,rfl,rfl,by simp [World.setRow],fun _ _ h=>h,?_,fun _ _ _ h=>.inl h,fun c j _ hf=>(hfpe c j).1 hf⟩⟩
 ·intro r hr
  rcases Xm.1 hr with hr|hr
  ·exact hkeep r (.inl hr) (hh.ok r (by simp [hr]))
  ·rcases YM.1 hr with rfl|hr
   ·exact ⟨cs',e,setRow_heap w b cs cs' e (0,0) hb,hls.mono hA⟩
   ·exact hkeep r (.inr hr) (hh.ok r (by simp [hr]))
 ·refine B5.2 ⟨hpw.1,Va.2 ⟨hpw2.1,hpw2.2⟩,fun r hr r' hr'=>?_⟩
  rcases YM.1 hr' with rfl|hr'
  ·exact hpw.2.2 r hr (.obj b ls) (by simp)
  ·exact hpw.2.2 r hr r' (by simp [hr'])
 ·intro r hr c j hf hg
  rcases Xm.1 hr with hr|hr
  ·exact hh.prot r (by simp [hr]) c j hf hg
  ·rcases YM.1 hr with rfl|hr
   ·exact hh.prot _ hmem c j hf hg
   ·exact hh.prot r (by simp [hr]) c j hf hg
 ·intro c j hg
  have:=hh.lt c j hg
  simpa [World.setRow] using this
 ·intro c hc
  by_cases hcb:c=b
  ·subst hcb
   exact .inr ⟨cs,cs',e,(0,0),hb,setRow_heap w c cs cs' e (0,0) hb,Xx,fun j hj=>absurd ⟨_,hmem,rfl⟩ hj⟩
  ·exact .inl (VI w b c cs' hcb)
section
variable {P:Program} {n:Nat} {o:Oper} {F:Fr} {h1 h2:List Res} {K:Fr->List Res->Prop}
theorem Zb8 (t:TypeId) (x y:Operand) {b off:Nat} {ls:List AV} {X:AV} (ho:o.op=.store t x y) (hdst:o.dst=none)
  (hx:F.ev x=.val (.pointer (some ⟨b,off,none⟩))) (hy:F.ev y=X) (hX:(X.fit&&X.leaves.all AV.one)=true)
  (Xx:(P.info? t).map (·.size)=some X.leaves.length) (hle:Nat.ble (off+X.leaves.length) ls.length=true)
  (hK:K F (h1++.obj b (ls.take off++X.leaves++ls.drop (off+X.leaves.length))::h2)):WE P n o F (h1++.obj b ls::h2) K:=by
 intro Q w G a hF hh
 have hvx:=hF.ev x
 rw [hx] at hvx
 have hvx:=hvx.val_inv
 have hvy:=hF.ev y
 rw [hy] at hvy
 simp only [Xb] at hX
 have hcs:=hvy.cells hX.1
 have hone:=hcs.one_cells hX.2
 have hlen:=hcs.length
 obtain ⟨cs,e,k1,k2⟩:=hh.ok (.obj b ls) (by simp)
 have hle:=V6 hle
 have hcl:=k2.length
 simp only [JA] at hlen hcl
 cases hi:P.info? t with
 | none=>simp [hi] at Xx
 | some i=>
  have Xx:i.size=X.leaves.length:=by simpa [hi] using Xx
  have hst:=run_storeCells_at P b off e (a.eval y).cells.toList 0 cs w k1 (by simp [hlen,hcl];omega) hone
  simp only [BQ,JA] at hst
  have hr:(execOp a.eval o).run P w=.ok .skip (w.setRow b (cs.toList.take off++(a.eval y).cells.toList++cs.toList.drop (off+(a.eval y).cells.size)).toArray):=by
   simp only [execOp,ho,hvx]
   simp [Instr.storeAt,Instr.sureAddr,storeVar,Qn hi,hlen,Xx,hst]
  unfold Oper.wp
  rw [hr]
  obtain ⟨j1,j2⟩:=hh.write (ls':=ls.take off++X.leaves++ls.drop (off+X.leaves.length)) (cs':=(cs.toList.take off++(a.eval y).cells.toList++cs.toList.drop (off+(a.eval y).cells.size)).toArray)
   k1 (by simp [hlen,hcl];omega) (by rw [Fa,hlen];exact ((k2.take off).append hcs).append (k2.drop _))
  refine ⟨F,_,G,hK,?_,j1,j2⟩
  have:=hF.mono (j2.agree hh)
  simpa [Act.put,hdst] using this
end
theorem Z5r {h h':List Res} (s:∀r∈h',r∈h) {b o:Nat} (hf:Vp h' b o):Vp h b o:=
 let ⟨r,hr,h⟩:=hf;⟨r,s r hr,h⟩
theorem YI.sub {w:World} {G:Yk} {h h':List Res} (hh:YI w G h) (s:h'.Sublist h):YI w G h':=
 ⟨fun r hr=>hh.ok r (s.subset hr),hh.apart.sublist s,fun r hr=>hh.prot r (s.subset hr),hh.lt⟩
theorem X3.sub' {w w':World} {G G':Yk} {h h' h'':List Res} (e:X3 w G h w' G' h') (s:h''.Sublist h'):X3 w G h w' G' h'':=
 ⟨e.os,e.tape,e.output,e.size,e.sub,e.same,e.newG,fun b o hb hf=>e.newfp b o hb (Z5r (fun _ hr=>s.subset hr) hf)⟩
theorem Bc (w:World) (G:Yk):VR G w w.drew G:=⟨fun _ _ _=>rfl,fun _ _ h=>h⟩
theorem YI.drew {w:World} {G:Yk} {h:List Res} (hh:YI w G h):YI w.drew G h where
 ok:=fun r hr=>by
  have h0:=hh.ok r hr
  cases r with
  | obj b ls=>obtain ⟨cs,e,h1,h2⟩:=h0;exact ⟨cs,e,h1,h2.mono (Bc w G)⟩
  | tail v k=>exact h0
  | ge s=>exact h0
  | vec v ls=>
   rcases h0 with ⟨rfl,h0⟩|⟨g,cap,cur,el,rfl,h1,h2,h3,h4⟩
   ·exact .inl ⟨rfl,h0⟩
   ·exact .inr ⟨g,cap,cur,el,rfl,h1,h2,h3,h4.mono (Bc w G)⟩
  | many ts=>exact h0
  | own B m=>exact h0
  | row v k ls=>
   rcases h0 with ⟨rfl,h0⟩|⟨g,len,cap,cur,el,rfl,h1,h2,h3,h4,h5⟩
   ·exact .inl ⟨rfl,h0⟩
   ·exact .inr ⟨g,len,cap,cur,el,rfl,h1,h2,h3,h4,h5.mono (Bc w G)⟩
 apart:=hh.apart
 prot:=hh.prot
 lt:=hh.lt
theorem X3.drew (w:World) (G:Yk) (h:List Res):X3 w G h w.drew G h:=
 ⟨rfl,rfl,rfl,X9 _,fun _ _ h=>h,fun _ _=>.inl rfl,fun _ _ _ h=>.inl h,fun _ _ _ h=>h⟩
theorem YI.alloc_row {w:World} {G:Yk} {h:List Res} (hh:YI w G h) (cs:Array Value) (t:TypeId) {es:List AV} {k cap:Nat}
  (hk:∀x∈es,x.leaves.length=k) (hcap:es.length<=cap) (Xx:cs.size=cap*k) (hls:YV w G (Zg es) (cs.toList.take (es.length*k))) :
  ∃G',YI (w.alloc (.cells cs t)) G' (.tail (.slice (some ⟨w.heap.size,0,none⟩) es.length cap) k::h) /\
   X3 w G h (w.alloc (.cells cs t)) G' (.tail (.slice (some ⟨w.heap.size,0,none⟩) es.length cap) k::h) /\
   RV (w.alloc (.cells cs t)) G' (.sl es (some (.slice (some ⟨w.heap.size,0,none⟩) es.length cap))) (.slice (some ⟨w.heap.size,0,none⟩) es.length cap):=by
 let G':Yk:=fun b o=>G b o∨(b=w.heap.size/\o<es.length*k)
 have hA:VR G w (w.alloc (.cells cs t)) G':=⟨fun b j hg=>E5 w _ (hh.lt b j hg),fun _ _ h=>.inl h⟩
 have hrow:(w.alloc (.cells cs t)).heap[w.heap.size]? = some (.cells cs t (0,0)):=G4 w _
 obtain ⟨h1,h2⟩:=hh.alloc (.cells cs t) (G':=G') (h':=[.tail (.slice (some ⟨w.heap.size,0,none⟩) es.length cap) k]) (fun _ _ h=>.inl h)
  (fun _ _ h=>h.imp id (·.1))
  (fun r hr=>by rw [Xr.1 hr];exact .inr ⟨_,_,_,cs,t,rfl,hrow,hcap,Xx⟩)
  (fun r hr b j hf=>by rw [Xr.1 hr] at hf;exact hf.1)
  (DV _ _)
  (fun r hr b j hf hg=>by
   rw [Xr.1 hr] at hf
   obtain ⟨rfl,hf2⟩:=hf
   rcases hg with hg|hg
   ·exact Nat.lt_irrefl _ (hh.lt _ _ hg)
   ·exact absurd hg.2 om)
 refine ⟨G',h1,h2,.sl (fun x hx=>by cases hx;rfl) hcap (Vd.of_flat es hk (Wu.of_cells (hls.mono hA) fun j v hj=>?_))⟩
 have hj2:=hj
 rw [Qe] at hj2
 split at hj2
 ·rename_i hlt
  refine ⟨?_,.inr ⟨rfl,by omega⟩⟩
  rw [Wk,cell_of_row _ _ j cs t (0,0) hrow]
  simpa using hj2
 ·cases hj2
theorem Rf {w:World} {G:Yk}:∀(vs:List Value),YV w G (List.replicate vs.length AV.any) vs
 | []=>.nil
 | v::vs=>by simp only [Yx,Mr];exact .cons .any (Rf vs)
def Aq (es:List AV) (k:Nat):Bool:=es.all fun x=>Nat.beq x.leaves.length k
theorem Z1a {es:List AV} {k:Nat} (h:Aq es k=true):∀x∈es,x.leaves.length=k:=fun x hx=>
 UT (Af.1 h x hx)
section
variable {P:Program} {n:Nat} {o:Oper} {F:Fr} {h:List Res} {K:Fr->List Res->Prop}
theorem GU {w:World} {G:Yk} {a:Act} (hF:FR w G n F a) {t len:Nat} (parts:Array (Nat × Operand)) {e size:Nat} {i:TypeInfo} {ls:List AV}
  (ht:P.underlying t=some (.slice e)) (hi:P.info? e=some i) (hs:i.size=size) (hz:i.zero.isSome=true) (hle:Nat.ble (len*size) (2 ^ 24)=true)
  (hfill:AF (fun i=>some (i*size,size)) (List.replicate (len*size) .any) (parts.toList.map fun p=>(p.1,F.ev p.2))=some ls) :
  ∃cs:Array Value,YV w G ls cs.toList /\
   (Instr.buildSlice t len (parts.map fun (i,x)=>(i,a.eval x))).run P w=.ok (.slice (some ⟨w.heap.size,0,none⟩) len len) (w.alloc (.cells cs e)):=by
 subst hs
 have hle:=V6 hle
 cases hzz:i.zero with
 | none=>simp [hzz] at hz
 | some z=>
  let zero:Array Value:=if len*i.size=0 then #[] else z.cells
  have hzlen:((Array.range (len*i.size)).map (zero[· % zero.size]!)).toList.length=len*i.size:=by simp
  obtain ⟨cs',k1,k2⟩:=Iq (w:=w) (G:=G) (vps:=parts.toList.map fun p=>(p.1,a.eval p.2)) hfill (by simp [List.map_map,Function.comp_def])
   (by simpa [List.map_map,Function.comp_def] using YV.map (fun p:Nat × Operand=>F.ev p.2) (fun p=>a.eval p.2) parts.toList fun p _=>hF.ev p.2)
   (cs:=(Array.range (len*i.size)).map (zero[· % zero.size]!)) (by have:=Rf (w:=w) (G:=G) ((Array.range (len*i.size)).map (zero[· % zero.size]!)).toList;rwa [hzlen] at this)
  refine ⟨cs',k2,?_⟩
  have hnot:¬(len*i.size>2 ^ 24):=by omega
  have hzv:(zeroValue e).run P w=.ok z w:=by simp [zeroValue,GW hi,hzz]
  have hmap:(parts.map fun (x:Nat × Operand)=>(x.1,a.eval x.2)).toList=parts.toList.map fun p=>(p.1,a.eval p.2):=by simp
  simp only [Instr.buildSlice,Sem.run_bind,VZ ht,Result.andThen_ok,Qn hi,hnot,if_false]
  by_cases h0:len*i.size=0
  ·have hz0:zero=#[]:=Zl h0
   rw [hz0] at k1
   rw [Zl h0]
   simp only [Sem.run_bind,Sem.run_pure,Result.andThen_ok,hmap,k1]
   simp [newRow]
  ·have hz0:zero=z.cells:=Zd h0
   rw [hz0] at k1
   rw [Zd h0]
   simp only [Sem.run_bind,Sem.run_pure,Result.andThen_ok,hzv,hmap,k1]
   simp [newRow]
theorem Zb3 (t len:Nat) (parts:Array (Nat × Operand)) {e size:Nat} {i:TypeInfo} {es:List AV} (ho:o.op=.buildSlice t len parts)
  (ht:P.underlying t=some (.slice e)) (hi:P.info? e=some i) (hs:i.size=size) (hz:i.zero.isSome=true) (hle:Nat.ble (len*size) (2 ^ 24)=true)
  (hfill:AF (fun i=>some (i*size,size)) (List.replicate (len*size) .any) (parts.toList.map fun p=>(p.1,F.ev p.2))=some (Zg es))
  (hlen:es.length=len) (hall:Aq es size=true) (hd:VC n o=true)
  (hK:∀b,B8 h b->K (F.put o.dst (.sl es (some (.slice (some ⟨b,0,none⟩) len len)))) (.tail (.slice (some ⟨b,0,none⟩) len len) size::h)):WE P n o F h K:=by
 intro Q w G a hF hh
 obtain ⟨cs,h1,h2⟩:=GU hF parts ht hi hs hz hle hfill
 have hr:(execOp a.eval o).run P w=.ok (.value (.slice (some ⟨w.heap.size,0,none⟩) len len)) (w.alloc (.cells cs e)):=by
  simp only [execOp,ho]
  exact Vr h2
 unfold Oper.wp
 rw [hr]
 subst hlen
 have hk:=Z1a hall
 have hcs:cs.size=es.length*size:=by have:=h1.length;rw [Ty es hk] at this;simpa using this
 obtain ⟨G',j1,j2,j3⟩:=hh.alloc_row cs e hk (X9 _) hcs (by rw [<-hcs];simpa [WT] using h1)
 exact ⟨_,_,G',hK _ (IF hh),(hF.mono (j2.agree hh)).put (Tk hd) j3,j1,j2⟩
end
structure Fd (w:World) (G:Yk) (h1 h2:List Res) (k:Nat) (v:Value) (es:List AV) (v':Value) (w':World) (G':Yk):Prop where
 ok:YI w' G' (h1++.tail v' k::h2)
 ext:X3 w G (h1++.tail v k::h2) w' G' (h1++.tail v' k::h2)
 rv:RV w' G' (.sl es (some v')) v'
 own:v'.ownBlock=v.ownBlock∨∃b,v'.ownBlock=some b/\w.heap.size<=b
theorem Z1i {w:World} {G:Yk} {h1 h2:List Res} {k:Nat} {v:Value} (hh:YI w G (h1++.tail v k::h2)) (cs:Array Value) (t:TypeId) {es:List AV} {cap:Nat}
  (hk:∀x∈es,x.leaves.length=k) (hcap:es.length<=cap) (Xx:cs.size=cap*k) (hls:YV w G (Zg es) (cs.toList.take (es.length*k))) :
  ∃G',Fd w G h1 h2 k v es (.slice (some ⟨w.heap.size,0,none⟩) es.length cap) (w.drew.alloc (.cells cs t)) G':=by
 obtain ⟨G',j1,j2,j3⟩:=hh.drew.alloc_row cs t hk hcap Xx (hls.mono (Bc w G))
 have hsub:(h1++.tail (.slice (some ⟨w.heap.size,0,none⟩) es.length cap) k::h2).Perm (.tail (.slice (some ⟨w.heap.size,0,none⟩) es.length cap) k::(h1++h2)):=List.perm_middle
 have hs2:(Res.tail (.slice (some ⟨w.heap.size,0,none⟩) es.length cap) k::(h1++h2)).Sublist (.tail (.slice (some ⟨w.heap.size,0,none⟩) es.length cap) k::(h1++.tail v k::h2)):=
  List.Sublist.cons_cons _ (List.Sublist.append (List.Sublist.refl _) (BP _ _))
 refine ⟨G',(j1.sub hs2).perm hsub.symm,?_,j3,.inr ⟨_,rfl,X9 _⟩⟩
 exact (X3.drew w G _).trans ((j2.sub' hs2).perm (TB _) hsub.symm)
theorem DF {P:Program} {t ty e:TypeId} {i:TypeInfo} (ht:P.underlying t=some (.slice e)) (hi:P.info? e=some i) {ad:Option Addr} {len cap:Nat} {a:Option Addr} {c:Nat}
  (hle:len<=cap) (w:World):(Builtin.append_ #[t,t] ty #[.slice ad len cap,.slice a 0 c]).run P w=.ok (.slice ad len cap) w:=by
 cases ad with
 | none=>cases a<;>simp [Builtin.append_,VZ ht,Qn hi,Builtin.lenOf,hle,Builtin.firstCells,loadCells,loadCellsFrom]
 | some ad=>cases a<;>simp [Builtin.append_,VZ ht,Qn hi,Builtin.lenOf,hle,Builtin.firstCells,loadCells,loadCellsFrom,storeCells]
theorem Z1j {w:World} {G:Yk} {h1 h2:List Res} {k g cap:Nat} {es xs:List AV} {cur:Array Value} {e:TypeId} {news:List Value}
  (hh:YI w G (h1++.tail (.slice (some ⟨g,0,none⟩) es.length cap) k::h2)) (hrow:w.heap[g]? = some (.cells cur e (0,0))) (hcur:cur.size=cap*k)
  (hm:Wu w G g 0 (Zg es)) (hes:∀y∈es,y.leaves.length=k) (hxs:∀y∈xs,y.leaves.length=k) (hn:YV w G (Zg xs) news)
  (hroom:es.length+xs.length<=cap) :
  ∃G',Fd w G h1 h2 k (.slice (some ⟨g,0,none⟩) es.length cap) (es++xs) (.slice (some ⟨g,0,none⟩) (es.length+xs.length) cap)
   (w.setRow g (cur.toList.take (es.length*k)++news++cur.toList.drop (es.length*k+news.length)).toArray) G':=by
 have hnl:news.length=xs.length*k:=by rw [hn.length,Ty xs hxs]
 have hfit:es.length*k+news.length<=cur.size:=by rw [hnl,hcur,<-Qu];exact J3 _ hroom
 generalize hcs':(cur.toList.take (es.length*k)++news++cur.toList.drop (es.length*k+news.length)).toArray=cs'
 have hlist:cs'.toList=cur.toList.take (es.length*k)++news++cur.toList.drop (es.length*k+news.length):=by rw [<-hcs']
 have Xx:cs'.size=cur.size:=by
  have:=Yj List.length hlist
  simp only [JA,Ys,Wh,Hs] at this
  omega
 have hlow:∀j,j<es.length*k->cs'[j]? = cur[j]?:=by
  intro j hj
  have h1:(cur.toList.take (es.length*k)).length=es.length*k:=by simp;omega
  rw [<-Hq,hlist,VP,Ah om,Qe,Zl hj,Hq]
 have hmid:∀j u,news[j]? = some u->cs'[es.length*k+j]? = some u:=by
  intro j u hj
  have h1:(cur.toList.take (es.length*k)).length=es.length*k:=by simp;omega
  have hjl:j<news.length:=(Xc.1 hj).1
  rw [<-Hq,hlist,VP,DU om,h1,Nat.add_sub_cancel_left,Ah hjl,hj]
 have hmem:Res.tail (.slice (some ⟨g,0,none⟩) es.length cap) k∈h1++.tail (.slice (some ⟨g,0,none⟩) es.length cap) k::h2:=by simp
 let G':Yk:=fun b o=>G b o∨(b=g/\es.length*k<=o/\o<(es.length+xs.length)*k)
 have hA:VR G w (w.setRow g cs') G':=⟨fun b j hg=>by
  by_cases hbg:b=g
  ·subst hbg
   have hj:j<es.length*k:=by
    rcases Fb j (es.length*k) with h|h
    ·exact h
    ·exact (hh.prot _ hmem b j ⟨rfl,h⟩ hg).elim
   rw [cell_of_row _ b j cs' e (0,0) (setRow_heap w b cur cs' e (0,0) hrow),cell_of_row w b j cur e (0,0) hrow,hlow j hj]
  ·simp [World.cell?,VI w g b cs' hbg],fun _ _ h=>.inl h⟩
 have hpw:=B5.1 hh.apart
 have hpw2:=Va.1 hpw.2.1
 have hbig:∀j,es.length*k<=j->Res.fp (.tail (.slice (some ⟨g,0,none⟩) es.length cap) k) g j:=fun j hj=>⟨rfl,hj⟩
 have hother:∀r,(r∈h1∨r∈h2)->∀c j,r.fp c j->c=g->j<es.length*k:=by
  intro r hr c j hf hc
  subst hc
  rcases Fb j (es.length*k) with h|h
  ·exact h
  ·rcases hr with hr|hr
   ·exact (hpw.2.2 r hr _ (Xp ..) c j hf (hbig j h)).elim
   ·exact (hpw2.1 r hr c j (hbig j h) hf).elim
 have hkeep:∀r,(r∈h1∨r∈h2)->Qx w G r->Qx (w.setRow g cs') G' r:=by
  intro r hr h0
  cases r with
  | obj c ks=>
   obtain ⟨ds,el,k1,k2⟩:=h0
   have hne:c≠g:=fun hc=>by have:=hother _ hr c (es.length*k) rfl hc;omega
   exact ⟨ds,el,(VI w g c cs' hne).trans k1,k2.mono hA⟩
  | tail v kk=>
   rcases h0 with rfl|⟨g2,len,cap2,cur2,el,rfl,k1,k2,k3⟩
   ·exact .inl rfl
   ·have hne:g2≠g:=fun hc=>by have:=hother _ hr g2 (len*kk+es.length*k) ⟨rfl,by omega⟩ hc;omega
    exact .inr ⟨g2,len,cap2,cur2,el,rfl,(VI w g g2 cs' hne).trans k1,k2,k3⟩
  | ge s=>exact Vb h0 (by simp [World.setRow])
  | vec v ks=>
   rcases h0 with ⟨rfl,h0⟩|⟨g2,cap2,cur2,el,rfl,k1,k2,k3,k4⟩
   ·exact .inl ⟨rfl,h0⟩
   ·have hne:g2≠g:=fun hc=>by have:=hother _ hr g2 (es.length*k) rfl hc;omega
    exact .inr ⟨g2,cap2,cur2,el,rfl,(VI w g g2 cs' hne).trans k1,k2,k3,k4.mono hA⟩
  | many ts=>
   refine ⟨fun p hp=>?_,h0.2⟩
   rcases h0.1 p hp with q|⟨g2,len,cap2,cur2,el,q,k1,k2,k3⟩
   ·exact .inl q
   ·have hne:g2≠g:=fun hc=>by have:=hother _ hr g2 (len*p.2+es.length*k) ⟨p,hp,by rw [q];exact ⟨rfl,by omega⟩⟩ hc;omega
    exact .inr ⟨g2,len,cap2,cur2,el,q,(VI w g g2 cs' hne).trans k1,k2,k3⟩
  | own B m=>
   intro c hc
   obtain ⟨ds,el,k1,k2⟩:=h0 c hc
   have hne:c≠g:=fun hq=>by have:=hother _ hr c (es.length*k) hc hq;omega
   exact ⟨ds,el,(VI w g c cs' hne).trans k1,k2⟩
  | row v kk ks=>
   rcases h0 with ⟨rfl,h0⟩|⟨g2,len2,cap2,cur2,el,rfl,k1,k2,k3,k4,k5⟩
   ·exact .inl ⟨rfl,h0⟩
   ·have hne:g2≠g:=fun hc=>by have:=hother _ hr g2 (es.length*k) rfl hc;omega
    exact .inr ⟨g2,len2,cap2,cur2,el,rfl,(VI w g g2 cs' hne).trans k1,k2,k3,k4,k5.mono hA⟩
 have hle:es.length*k<=(es.length+xs.length)*k:=J3 _ om
 have hfpe:∀r,r∈h1++.tail (.slice (some ⟨g,0,none⟩) (es.length+xs.length) cap) k::h2->∀b o,r.fp b o ->
   Vp (h1++.tail (.slice (some ⟨g,0,none⟩) es.length cap) k::h2) b o:=by
  intro r hr b o hf
  rcases Xm.1 hr with hr|hr
  ·exact ⟨r,by simp [hr],hf⟩
  ·rcases YM.1 hr with rfl|hr
   ·obtain ⟨rfl,hf2⟩:=hf
    exact ⟨_,hmem,rfl,Vb hle hf2⟩
   ·exact ⟨r,by simp [hr],hf⟩
 refine ⟨G',⟨?_,?_,?_,?_⟩,⟨rfl,rfl,rfl,by simp [World.setRow],fun _ _ h=>.inl h,?_,?_,fun b o _ ⟨r,hr,hf⟩=>hfpe r hr b o hf⟩,?_,.inl rfl⟩
 ·intro r hr
  rcases Xm.1 hr with hr|hr
  ·exact hkeep r (.inl hr) (hh.ok r (by simp [hr]))
  ·rcases YM.1 hr with rfl|hr
   ·exact .inr ⟨g,_,cap,cs',e,rfl,setRow_heap w g cur cs' e (0,0) hrow,hroom,Xx.trans hcur⟩
   ·exact hkeep r (.inr hr) (hh.ok r (by simp [hr]))
 ·have htt:∀r,B7 r (.tail (.slice (some ⟨g,0,none⟩) es.length cap) k)->B7 r (.tail (.slice (some ⟨g,0,none⟩) (es.length+xs.length) cap) k):=
   fun r hd b o hf ⟨e1,e2⟩=>hd b o hf ⟨e1,Vb hle e2⟩
  refine B5.2 ⟨hpw.1,Va.2 ⟨fun r hr=>(htt r (hpw2.1 r hr).symm).symm,hpw2.2⟩,fun r hr r' hr'=>?_⟩
  rcases YM.1 hr' with rfl|hr'
  ·exact htt r (hpw.2.2 r hr _ (Xp ..))
  ·exact hpw.2.2 r hr r' (by simp [hr'])
 ·intro r hr b o hf hg
  obtain ⟨r0,hr0,hf0⟩:=hfpe r hr b o hf
  rcases hg with hg|⟨rfl,hg1,hg2⟩
  ·exact hh.prot r0 hr0 b o hf0 hg
  ·rcases Xm.1 hr with hr|hr
   ·have:=hother r (.inl hr) b o hf rfl;omega
   ·rcases YM.1 hr with rfl|hr
    ·have:=hf.2;omega
    ·have:=hother r (.inr hr) b o hf rfl;omega
 ·intro b o hg
  have hs:(w.setRow g cs').heap.size=w.heap.size:=by simp [World.setRow]
  rw [hs]
  rcases hg with hg|⟨rfl,_,_⟩
  ·exact hh.lt b o hg
  ·exact (UG.1 hrow).1
 ·intro b hb
  by_cases hbg:b=g
  ·subst hbg
   refine .inr ⟨cur,cs',e,(0,0),hrow,setRow_heap w b cur cs' e (0,0) hrow,Xx,fun o ho=>hlow o ?_⟩
   rcases Fb o (es.length*k) with h|h
   ·exact h
   ·exact absurd ⟨_,hmem,rfl,h⟩ ho
  ·exact .inl (VI w g b cs' hbg)
 ·intro b o hb hg
  rcases hg with hg|⟨rfl,hg1,hg2⟩
  ·exact .inl hg
  ·exact .inr ⟨_,hmem,rfl,hg1⟩
 ·rw [<-Ys]
  refine .sl (k:=k) (fun x hx=>by cases hx;rfl) (by simpa using hroom) (Vd.of_flat _ (fun y hy=>?_) ?_)
  ·rcases Xm.1 hy with hy|hy
   ·exact hes y hy
   ·exact hxs y hy
  ·have e1:Zg (es++xs)=Zg es++Zg xs:=by simp [Zg]
   rw [e1]
   refine (hm.mono hA).append ?_
   rw [Ty es hes,Wk]
   refine Wu.of_cells (hn.mono hA) fun j u hj=>⟨?_,.inr ⟨rfl,by omega,?_⟩⟩
   ·rw [cell_of_row _ g _ cs' e (0,0) (setRow_heap w g cur cs' e (0,0) hrow),hmid j u hj]
   ·have hjl:j<news.length:=(Xc.1 hj).1
    rw [Qu]
    omega
theorem LO {P:Program} (w:World) (t ty e el:TypeId) (i:TypeInfo) (ht:P.underlying t=some (.slice e)) (hi:P.info? e=some i)
  (g sLen sCap:Nat) (cur:Array Value) (hg:w.heap[g]? = some (.cells cur el (0,0)))
  (a:Addr) (m c:Nat) (news:List Value) (hl:news.length=m*i.size) (hnews:∀j u,news[j]? = some u->w.cell? (a.add j)=some u) (h1:∀u∈news,u.oneCell'=true)
  (hroom:sLen+m<=sCap) (hfit:sLen*i.size+news.length<=cur.size) :
  (Builtin.append_ #[t,t] ty #[.slice (some ⟨g,0,none⟩) sLen sCap,.slice (some a) m c]).run P w =
   .ok (.slice (some ⟨g,0,none⟩) (sLen+m) sCap) (w.setRow g (cur.toList.take (sLen*i.size)++news++cur.toList.drop (sLen*i.size+news.length)).toArray):=by
 have hf:=run_firstCells_some (P:=P) w i.size m a m c news hl hnews
 have hst:=run_storeCells_at P g (sLen*i.size) el news 0 cur w hg (by simpa using hfit) h1
 simp only [BQ] at hst
 simp [Builtin.append_,run_underlying ht,sizeOf,typeInfo,hi,Builtin.lenOf,hroom,hf,Addr.add_lit,hst]
theorem Z1h {P:Program} {w:World} {G:Yk} {h1 h2:List Res} {t ty e k:Nat} {i:TypeInfo} {v x:Value} {es xs:List AV}
  (ht:P.underlying t=some (.slice e)) (hi:P.info? e=some i) (hk:i.size=k) (hzs:(i.zero.map (·.cells.size))=some k) (hb:Nat.ble i.bytes 32768=true)
  (hh:YI w G (h1++.tail v k::h2)) (hv:RV w G (.sl es (some v)) v) (hx:RV w G (.sl xs none) x)
  (hes:∀y∈es,y.leaves.length=k) (hxs:∀y∈xs,y.leaves.length=k) (hone:(Zg xs).all AV.one=true) (hbound:es.length+xs.length<=4294967296) :
  ∃v' w' G',(Builtin.append_ #[t,t] ty #[v,x]).run P w=.ok v' w'/\Fd w G h1 h2 k v (es++xs) v' w' G':=by
 have htail:HC w v k:=hh.ok (.tail v k) (by simp)
 have hb:=V6 hb
 cases hz:i.zero with
 | none=>simp [hz] at hzs
 | some z=>
  have hzs:z.cells.size=k:=by simpa [hz] using hzs
  have hlen:v=.slice none 0 0->es=[]:=by
   intro he
   subst he
   cases hv with
   | nil=>rfl
  have grown:∀(olds news:List Value) (old:Nat),YV w G (Zg es) olds->YV w G (Zg xs) news ->
    ∃G',Fd w G h1 h2 k v (es++xs) (.slice (some ⟨w.heap.size,0,none⟩) (es.length+xs.length) (grownCap w (es.length+xs.length) old e))
     (w.drew.alloc (.cells (olds.toArray++news.toArray++Builtin.zeroCells z.cells (grownCap w (es.length+xs.length) old e-(es.length+xs.length))) e)) G':=by
   intro olds news old ho hn
   have Xk:=grownCap_ge w (es.length+xs.length) old e
   have hall:∀y∈es++xs,y.leaves.length=k:=fun y hy=>by
    rcases Xm.1 hy with hy|hy
    ·exact hes y hy
    ·exact hxs y hy
   have e1:Zg (es++xs)=Zg es++Zg xs:=by simp [Zg]
   have hol:olds.length=es.length*k:=by rw [ho.length,Ty es hes]
   have hnl:news.length=xs.length*k:=by rw [hn.length,Ty xs hxs]
   have:=Z1i hh (olds.toArray++news.toArray++Builtin.zeroCells z.cells (grownCap w (es.length+xs.length) old e-(es.length+xs.length))) e
    (es:=es++xs) (cap:=grownCap w (es.length+xs.length) old e) hall (by simpa using Xk)
    (by
     simp only [Array.size_append,F9,size_zeroCells,hzs,hol,hnl,<-Qu]
     congr 1
     omega)
    (by
     rw [e1]
     have:(olds.toArray++news.toArray++Builtin.zeroCells z.cells (grownCap w (es.length+xs.length) old e-(es.length+xs.length))).toList.take ((es++xs).length*k)=olds++news:=by
      simp only [Hr,VP,Ys]
      rw [<-VP,Qu,<-hol,<-hnl,<-Ys]
      exact JD
     rw [this]
     exact ho.append hn)
   simpa using this
  by_cases hxe:xs=[]
  ·subst hxe
   cases hx with
   | nil _=>
    refine ⟨v,w,G,?_,by simpa using hh,X3.refl _ _ _,by simpa using hv,.inl rfl⟩
    rcases htail with rfl|⟨g,len,cap,cur,el,rfl,_,hle,_⟩
    ·exact DF ht hi (X9 _) w
    ·exact DF ht hi hle w
   | sl _ _ _=>
    refine ⟨v,w,G,?_,by simpa using hh,X3.refl _ _ _,by simpa using hv,.inl rfl⟩
    rcases htail with rfl|⟨g,len,cap,cur,el,rfl,_,hle,_⟩
    ·exact DF ht hi (X9 _) w
    ·exact DF ht hi hle w
  ·cases hx with
   | nil _=>exact absurd rfl hxe
   | sl hq hcc hm=>
    rename_i b o' k' c
    have hpos:0<xs.length:=BO.2 hxe
    obtain ⟨news,hn,hnc⟩:=hm.flat_mem.cells
    have hnl:news.length=xs.length*i.size:=by rw [hn.length,hk,Ty xs hxs]
    have hone':=hn.one_cells hone
    have hnews:∀j u,news[j]? = some u->w.cell? ((⟨b,o',none⟩:Addr).add j)=some u:=fun j u hj=>by rw [J5];exact (hnc j u hj).1
    have hby:(es.length+xs.length)*i.bytes<=140737488355328:=by
     have:=Nat.mul_le_mul hbound hb
     omega
    rcases htail with rfl|⟨g,len,cap,cur,el,rfl,hrow,hlc,hcur⟩
    ·have he:=hlen rfl
     subst he
     have hr:=run_append_nil (P:=P) w t ty e i z ht hi hz ⟨b,o',none⟩ xs.length c news hnl hnews hpos (by simp at hbound;omega) (by simp at hby;omega)
     obtain ⟨G',hG'⟩:=grown [] news 0 .nil hn
     simp only [X7,Wk,Array.empty_append] at hG'
     exact ⟨_,_,G',hr,by simpa using hG'⟩
    ·have hle:len=es.length:=by cases hv<;>rfl
     subst hle
     have hmem:Wu w G g 0 (Zg es):=by
      cases hv with
      | nil=>exact .nil
      | sl _ _ hm=>exact hm.flat_mem
     obtain ⟨olds,ho,hoc⟩:=hmem.cells
     by_cases hroom:es.length+xs.length<=cap
     ·have hfit:es.length*i.size+news.length<=cur.size:=by rw [hnl,hcur,hk,<-Qu];exact J3 _ hroom
      have hr:=LO (P:=P) w t ty e el i ht hi g es.length cap cur hrow ⟨b,o',none⟩ xs.length c news hnl hnews hone' hroom hfit
      obtain ⟨G',hG'⟩:=Z1j (h1:=h1) (h2:=h2) hh hrow hcur hmem hes hxs hn hroom
      rw [hk] at hr
      exact ⟨_,_,G',hr,hG'⟩
     ·have hol:olds.length=es.length*i.size:=by rw [ho.length,hk,Ty es hes]
      have hr:=run_append_grow (P:=P) w t ty e i z ht hi hz ⟨g,0,none⟩ es.length cap olds hol (fun j u hj=>by rw [J5];simpa using (hoc j u hj).1) ⟨b,o',none⟩ xs.length c news hnl hnews
       om om (growslice_fits om hby)
      obtain ⟨G',hG'⟩:=grown olds news cap ho hn
      exact ⟨_,_,G',hr,hG'⟩
section
variable {P:Program} {n:Nat} {o:Oper} {F:Fr} {h h1 h2:List Res} {K:Fr->List Res->Prop}
theorem RV.forget {w:World} {G:Yk} {es:List AV} {hv:Option Value} {v:Value} (h:RV w G (.sl es hv) v):RV w G (.sl es none) v:=by
 cases h with
 | nil _=>exact .nil (by simp)
 | sl _ hc hm=>exact .sl (by simp) hc hm
theorem RV.header {w:World} {G:Yk} {es:List AV} {x v:Value} (h:RV w G (.sl es (some x)) v):v=x:=by
 cases h with
 | nil hq=>exact (hq x rfl).symm
 | sl hq _ _=>exact (hq x rfl).symm
theorem Zaz (s x:Operand) (t:TypeId) {e k:Nat} {i:TypeInfo} {hv:Value} {hx:Option Value} {es xs:List AV}
  (ho:o.op=.call { callee:=.builtin .append,args:=#[s,x],argTypes:=#[t,t] })
  (ht:P.underlying t=some (.slice e)) (hi:P.info? e=some i) (hk:i.size=k) (hzs:(i.zero.map (·.cells.size))=some k) (hb:Nat.ble i.bytes 32768=true)
  (hs:F.ev s=.sl es (some hv)) (hx:F.ev x=.sl xs hx) (hd:VC n o=true)
  (hes:∀y∈es,y.leaves.length=k) (hxs:∀y∈xs,y.leaves.length=k) (hone:(Zg xs).all AV.one=true) (hbound:es.length+xs.length<=4294967296)
  (hK:∀v',(v'.ownBlock=hv.ownBlock∨∃b,v'.ownBlock=some b/\B8 (h1++.tail hv k::h2) b) ->
   K (F.put o.dst (.sl (es++xs) (some v'))) (h1++.tail v' k::h2)):WE P n o F (h1++.tail hv k::h2) K:=by
 intro Q w G a hF hh
 have v1:=hF.ev s
 have v2:=hF.ev x
 rw [hs] at v1
 rw [hx] at v2
 have e1:=v1.header
 rw [e1] at v1
 obtain ⟨v',w',G',hr,hA⟩:=Z1h (P:=P) (ty:=o.type) ht hi hk hzs hb hh v1 v2.forget hes hxs hone hbound
 have hrun:(execOp a.eval o).run P w=.ok (.value v') w':=by
  simp only [execOp,ho,resolve,invoke,builtin,Sem.run_bind,Sem.run_pure,Result.andThen_ok,F8,Td,F7,e1,hr]
 unfold Oper.wp
 rw [hrun]
 refine ⟨_,_,G',hK v' ?_,(hF.mono (hA.ext.agree hh)).put (Tk hd) hA.rv,hA.ok,hA.ext⟩
 rcases hA.own with h|⟨b,h,hle⟩
 ·exact .inl h
 ·exact .inr ⟨b,h,fun s hs=>Vb (hh.ok _ hs) hle⟩
theorem RU {t e k:Nat} {i:TypeInfo} {b off len cap:Nat} {ik:IntKind} {j:Int} (ht:P.underlying t=some (.slice e)) (hi:P.info? e=some i) (hk:i.size=k)
  (h0:0<=j) (hlt:j<len) (w:World) :
  (Instr.indexAt t (.slice (some ⟨b,off,none⟩) len cap) (.int ik j)).run P w=.ok (.pointer (some ⟨b,off+j.toNat * k,none⟩)) w:=by
 subst hk
 have hu:=VZ ht w
 simp only [Instr.indexAt,asIntOf,Sem.run_bind,Sem.run_pure,Result.andThen_ok,hu]
 simp [h0,hlt,Qn hi,J5]
theorem Zf5 (t:TypeId) (x ix:Operand) {e k:Nat} {i:TypeInfo} {es:List AV} {hv:Option Value} {ik:IntKind} {j:Int} {y:AV}
  (ho:o.op=.indexAddr t x ix) (ht:P.underlying t=some (.slice e)) (hi:P.info? e=some i) (hk:i.size=k) (hx:F.ev x=.sl es hv) (hix:F.ev ix=.val (.int ik j))
  (h0:0<=j) (hget:es[j.toNat]? = some y) (hy:y.leaves.length=k):XW P o F h [] (.rp y.leaves):=by
 intro n w G a hF hh
 have v1:=hF.ev x
 have v2:=hF.ev ix
 rw [hx] at v1
 rw [hix] at v2
 have v2:=v2.val_inv
 generalize hv1:a.eval x=u at v1
 cases v1 with
 | nil _=>simp at hget
 | sl hq hc hm=>
  rename_i b off kk cap
  have hlt:j.toNat<es.length:=(Xc.1 hget).1
  have hkk:kk=k:=by
   have:=hm.len y (Y4 hget)
   omega
  subst hkk
  refine ⟨_,.rp (hm.get _ _ hget),fun w' _ _=>?_⟩
  simp only [execOp,ho,hv1,v2]
  exact Vr (RU ht hi hk h0 om w')
theorem Zf6 (t:TypeId) (x ix:Operand) {e k:Nat} {i:TypeInfo} {b off len cap:Nat} {ik:IntKind} {j:Int}
  (ho:o.op=.indexAddr t x ix) (ht:P.underlying t=some (.slice e)) (hi:P.info? e=some i) (hk:i.size=k) (hx:F.ev x=.val (.slice (some ⟨b,off,none⟩) len cap)) (hix:F.ev ix=.val (.int ik j))
  (h0:0<=j) (hlt:j<len):XW P o F h [] (.val (.pointer (some ⟨b,off+j.toNat * k,none⟩))):=by
 intro n w G a hF hh
 have v1:=hF.ev x
 have v2:=hF.ev ix
 rw [hx] at v1
 rw [hix] at v2
 have v1:=v1.val_inv
 have v2:=v2.val_inv
 refine ⟨_,.val,fun w' _ _=>?_⟩
 simp only [execOp,ho,v1,v2]
 exact Vr (RU ht hi hk h0 hlt w')
def Bw (F:Fr) (o:Option Operand) (d:Int):Option Int:=
 match o with
 | none=>some d
 | some x=>match F.ev x with
  | .val (.int _ j)=>some j
  | _=>none
theorem EU {v:Value} {ik:IntKind} {j:Int} {y:Nat} {c:BoundsCode} (hv:v=.int ik j) (h0:0<=j) (h1:j<=y) (w:World):(Instr.sliceBound v y c).run P w=.ok j.toNat w:=by
 subst hv
 simp [Instr.sliceBound,asIntOf,h0,h1]
theorem Zfb (t:TypeId) (x:Operand) (lo hi:Option Operand) {e k:Nat} {i:TypeInfo} {es:List AV} {hv:Option Value} {l m:Int}
  (ho:o.op=.slice t x lo hi none) (ht:P.underlying t=some (.slice e)) (hi':P.info? e=some i) (hk:i.size=k) (hx:F.ev x=.sl es hv)
  (hlo:Bw F lo 0=some l) (hhi:Bw F hi es.length=some m) (h0:0<=l) (h1:l<=m) (h2:m<=es.length) (hes:∀y∈es,y.leaves.length=k) :
  XW P o F h [] (.sl ((es.take m.toNat).drop l.toNat) none):=by
 intro n w G a hF hh
 have v1:=hF.ev x
 rw [hx] at v1
 generalize hv1:a.eval x=u at v1
 have hlo':lo.map a.eval=none/\l=0∨∃ik,lo.map a.eval=some (.int ik l):=by
  cases lo with
  | none=>simp [Bw] at hlo;exact .inl ⟨rfl,hlo.symm⟩
  | some y=>
   simp only [Bw] at hlo
   split at hlo
   ·rename_i k j hj
    cases hlo
    have:=hF.ev y
    rw [hj] at this
    exact .inr ⟨k,by simp [this.val_inv]⟩
   ·cases hlo
 have hhi':hi.map a.eval=none/\m=es.length∨∃ik,hi.map a.eval=some (.int ik m):=by
  cases hi with
  | none=>simp [Bw] at hhi;exact .inl ⟨rfl,hhi.symm⟩
  | some y=>
   simp only [Bw] at hhi
   split at hhi
   ·rename_i k j hj
    cases hhi
    have:=hF.ev y
    rw [hj] at this
    exact .inr ⟨k,by simp [this.val_inv]⟩
   ·cases hhi
 have hrun:∀(ad:Option Addr) (cap:Nat),m<=cap->∀w':World,(Instr.sliceAt t (.slice ad es.length cap) (lo.map a.eval) (hi.map a.eval) none).run P w' =
   .ok (.slice (if cap=l.toNat then ad else ad.map (·.add (l.toNat * k))) (m.toNat-l.toNat) (cap-l.toNat)) w':=by
  intro ad cap hcap w'
  subst hk
  have hmm:(Instr.sliceBounds true es.length cap (lo.map a.eval) (hi.map a.eval) none).run P w'=.ok (l.toNat,m.toNat,cap) w':=by
   rcases hhi' with ⟨e1,rfl⟩|⟨ik,e1⟩
   ·rcases hlo' with ⟨e2,rfl⟩|⟨ik2,e2⟩
    ·simp [Instr.sliceBounds,e1,e2]
    ·simp [Instr.sliceBounds,e1,e2,EU (P:=P) (v:=.int ik2 l) rfl h0 (by omega:l<=(es.length:Int))]
   ·have Za:=fun c=>EU (P:=P) (c:=c) (v:=.int ik m) (y:=cap) rfl om hcap w'
    rcases hlo' with ⟨e2,rfl⟩|⟨ik2,e2⟩
    ·simp [Instr.sliceBounds,e1,e2,Za]
    ·have ZA:=fun c=>EU (P:=P) (c:=c) (v:=.int ik2 l) (y:=m.toNat) rfl h0 om w'
     simp [Instr.sliceBounds,e1,e2,Za,ZA]
  simp only [Instr.sliceAt,Sem.run_bind,VZ ht,Result.andThen_ok,Instr.slice,hmm]
  simp [Qn hi']
 cases v1 with
 | nil hq=>
  rename_i ad cap
  simp only [X7,Int.natCast_zero] at h2
  have hl:l=0:=by omega
  have hm:m=0:=by omega
  subst hl
  subst hm
  have hr:=hrun ad cap om
  refine ⟨_,?_,fun w' _ _=>by simp only [execOp,ho,hv1,Option.map_none];exact Vr (hr w')⟩
  exact .nil (by simp)
 | sl hq hc hm=>
  rename_i b off kk cap
  by_cases hemp:m.toNat<=l.toNat
  ·refine ⟨_,?_,fun w' _ _=>by simp only [execOp,ho,hv1,Option.map_none];exact Vr (hrun _ cap om w')⟩
   have e1:(es.take m.toNat).drop l.toNat=[]:=Mq (by simp;omega)
   have e2:m.toNat-l.toNat=0:=by omega
   rw [e1,e2]
   exact .nil (by simp)
  ·have hne:0<es.length:=by omega
   have hkk:kk=k:=by
    have hy:=hm.len es[0] (List.getElem_mem hne)
    have:=hes es[0] (List.getElem_mem hne)
    omega
   subst hkk
   refine ⟨_,?_,fun w' _ _=>by simp only [execOp,ho,hv1,Option.map_none];exact Vr (hrun _ cap om w')⟩
   rw [Zd om]
   have hlen:((es.take m.toNat).drop l.toNat).length=m.toNat-l.toNat:=by simp;omega
   rw [<-hlen]
   simp only [Fc,J5]
   exact .sl (k:=kk) (by simp) om ((hm.take m.toNat).drop l.toNat)
theorem Zb1 (f:FuncId) (args:Array Operand) (tys:Array TypeId) {fn:Func} {h1 h2:List Res} {xs:List AV} {R:AV->List Res->Prop}
  (ho:o.op=.call { callee:=.value (.func f),args:=args,argTypes:=tys }) (hf:P.funcs[f]? = some fn) (hb:fn.body.isSome=true) (hn:(fn.name== "runtime.NumGoroutine")=false)
  (hargs:args.toList.map F.ev=xs) (hd:VC n o=true) (hp:h.Perm (h1++h2)) (hc:WU P f xs h1 R)
  (hK:∀r h',R r h'->K (F.put o.dst r) (h'++h2)):WE P n o F h K:=by
 intro Q w G a hF hh
 have hh':=hh.perm hp
 have hvs:YV w G xs (args.toList.map a.eval):=by rw [<-hargs];exact YV.map F.ev a.eval args.toList fun x _=>hF.ev x
 have hcl:=hc w G _ hvs hh'.left
 have hbn:¬fn.body=none:=by intro hq;simp [hq] at hb
 have hn':¬fn.name= "runtime.NumGoroutine":=by simpa using hn
 have hrun:(execOp a.eval o).run P w=.ok (.enter f (args.map a.eval)) w:=by
  simp only [execOp,ho,resolve,Act.eval,Deferred.ofValue,Sem.run_bind,Sem.run_pure,Result.andThen_ok,invoke,callFunc]
  simp [program,Sem.run,hf,hn',hbn]
 unfold Oper.wp
 rw [hrun]
 show Calls P f (args.map a.eval) w _
 have hav:args.map a.eval=(args.toList.map a.eval).toArray:=by rw [<-Array.toList_map,UH]
 rw [hav]
 refine hcl.mono fun e w' ⟨v,r,h',G',he,hR,hv,hh2,hx⟩=>?_
 subst he
 obtain ⟨j1,j2⟩:=hh'.frame hx hh2
 have j3:=j2.perm hp.symm (TB _)
 exact ⟨_,_,G',hK r h' hR,(hF.mono (j3.agree hh)).put (Tk hd) hv,j1,j3⟩
theorem Zb2 (t:Operand) (args:Array Operand) (tys:Array TypeId) {f:FuncId} {caps:Array Value} {fn:Func} {h1 h2:List Res} {xs:List AV} {R:AV->List Res->Prop}
  (ho:o.op=.call { callee:=.value t,args:=args,argTypes:=tys }) (ht:F.ev t=.val (.func (.func f) #[] caps)) (hf:P.funcs[f]? = some fn) (hb:fn.body.isSome=true)
  (hn:(fn.name== "runtime.NumGoroutine")=false)
  (hargs:args.toList.map F.ev++caps.toList.map AV.val=xs) (hd:VC n o=true) (hp:h.Perm (h1++h2)) (hc:WU P f xs h1 R)
  (hK:∀r h',R r h'->K (F.put o.dst r) (h'++h2)):WE P n o F h K:=by
 intro Q w G a hF hh
 have hh':=hh.perm hp
 have htv:=hF.ev t
 rw [ht] at htv
 have htv:=htv.val_inv
 have hcv:∀(l:List Value),YV w G (l.map AV.val) l:=fun l=>by
  induction l with
  | nil=>exact .nil
  | cons v l ih=>exact .cons .val ih
 have hvs:YV w G xs (args.toList.map a.eval++caps.toList):=by
  rw [<-hargs];exact (YV.map F.ev a.eval args.toList fun x _=>hF.ev x).append (hcv _)
 have hcl:=hc w G _ hvs hh'.left
 have hbn:¬fn.body=none:=by intro hq;simp [hq] at hb
 have hn':¬fn.name= "runtime.NumGoroutine":=by simpa using hn
 have hrun:(execOp a.eval o).run P w=.ok (.enter f (args.map a.eval++caps)) w:=by
  simp only [execOp,ho,resolve,htv,Deferred.ofValue,Sem.run_bind,Sem.run_pure,Result.andThen_ok,invoke,callFunc]
  simp [program,Sem.run,hf,hn',hbn]
 unfold Oper.wp
 rw [hrun]
 show Calls P f (args.map a.eval++caps) w _
 have hav:args.map a.eval++caps=(args.toList.map a.eval++caps.toList).toArray:=by
  apply Array.ext'
  simp
 rw [hav]
 refine hcl.mono fun e w' ⟨v,r,h',G',he,hR,hv,hh2,hx⟩=>?_
 subst he
 obtain ⟨j1,j2⟩:=hh'.frame hx hh2
 have j3:=j2.perm hp.symm (TB _)
 exact ⟨_,_,G',hK r h' hR,(hF.mono (j3.agree hh)).put (Tk hd) hv,j1,j3⟩
end
def YP:Code->Code
 | .seq a _=>a
 | .cond _ a _=>a
 | .block _ a=>a
 | .loop a=>a
 | .scope a=>a
 | c=>c
def VT:Code->Code
 | .seq _ b=>b
 | .cond _ _ b=>b
 | c=>c
def Xf:Code->Nat
 | .skip=>0
 | .region _ _ false=>1
 | .region _ _ true=>2
 | .seq _ _=>3
 | .cond _ _ _=>4
 | .block _ _=>5
 | .loop _=>6
 | .exit _=>7
 | .ret=>8
 | _=>9
def K0:Code->Nat
 | .region id _ _=>id
 | .block id _=>id
 | .exit id=>id
 | _=>0
def XI:Code->Array Oper
 | .region _ ops _=>ops
 | _=>#[]
def As:Code->Operand
 | .cond x _ _=>x
 | _=>.tmp 0
def Fx (fn:Func):Code:=fn.body.getD .skip
theorem Z20 {c:Code} (h:Xf c=0):c=.skip:=by unfold Xf at h;split at h<;>first|rfl|cases h
theorem Z21 {c:Code} (h:Xf c=1):c=.region (K0 c) (XI c) false:=by unfold Xf at h;split at h<;>first|rfl|cases h
theorem Z22 {c:Code} (h:Xf c=2):c=.region (K0 c) (XI c) true:=by unfold Xf at h;split at h<;>first|rfl|cases h
theorem Z23 {c:Code} (h:Xf c=3):c=.seq (YP c) (VT c):=by unfold Xf at h;split at h<;>first|rfl|cases h
theorem Z24 {c:Code} (h:Xf c=4):c=.cond (As c) (YP c) (VT c):=by unfold Xf at h;split at h<;>first|rfl|cases h
theorem Z25 {c:Code} (h:Xf c=5):c=.block (K0 c) (YP c):=by unfold Xf at h;split at h<;>first|rfl|cases h
theorem Z26 {c:Code} (h:Xf c=6):c=.loop (YP c):=by unfold Xf at h;split at h<;>first|rfl|cases h
theorem Z27 {c:Code} (h:Xf c=7):c=.exit (K0 c):=by unfold Xf at h;split at h<;>first|rfl|cases h
theorem Z28 {c:Code} (h:Xf c=8):c=.ret:=by unfold Xf at h;split at h<;>first|rfl|cases h
def QX (P:Program) (n:Nat) (ops:Array Oper) (B:Fr->List Res->Prop) (l:List Oper) (F:Fr) (h:List Res):Prop:=
 ∀(Q:Exit->Act->World->Prop) w G a,FR w G n F a->YI w G h ->
  (∀F' h' G' a' w',B F' h'->FR w' G' n F' a'->YI w' G' h'->X3 w G h w' G' h'->Q .normal a' w')->wpList P ops Q l a w
section
variable {P:Program} {n:Nat} {ops:Array Oper} {B:Fr->List Res->Prop} {l:List Oper} {F:Fr} {h:List Res} {A:WV} {c:Code}
theorem Zcz (hB:B F h):QX P n ops B [] F h:=fun _ w G a hF hh hk=>hk F h G a w hB hF hh (X3.refl _ _ _)
def KD (ops:Array Oper) (F:Fr) (o:Oper):Option Bool:=
 match o.guard with
 | none=>some true
 | some (j,want)=>match (ops[j]?).bind (·.dst) with
  | none=>none
  | some t=>match F.get t with
   | .val (.bool b)=>some (b==want)
   | .tup []=>some false
   | _=>none
theorem Df {w:World} {G:Yk} {a:Act} {o:Oper} {b:Bool} (hF:FR w G n F a) (hlt:(match o.guard with|none=>true|some (j,_)=>match (ops[j]?).bind (·.dst) with|some t=>Nat.blt t n|none=>true)=true)
  (hg:KD ops F o=some b):Region.wanted o (yielded ops a.tmps)=b:=by
 unfold KD at hg
 unfold Region.wanted
 cases hq:o.guard with
 | none=>simp [hq] at hg;simp [hg]
 | some jw=>
  obtain ⟨j,want⟩:=jw
  simp only [hq] at hg hlt ⊢
  cases ht:(ops[j]?).bind (·.dst) with
  | none=>simp [ht] at hg
  | some t=>
   simp only [ht] at hg hlt
   have hlt':t<n:=by simpa using hlt
   have hv:=hF.get t
   have hget:a.tmps[t]? = some (a.tmps.getD t undef):=by
    have:t<a.tmps.size:=by rw [hF.size];exact hlt'
    simp [Array.getD,this]
   unfold yielded
   simp only [ht,Option.bind_some,hget]
   split at hg
   ·rename_i b' hb
    rw [hb] at hv
    have hv:=hv.val_inv
    cases hg
    rw [hv]
    cases b'<;>cases want<;>rfl
   ·rename_i hb
    rw [hb] at hv
    cases hg
    generalize a.tmps.getD t undef=u at hv
    cases hv with
    | tup hc=>cases hc;cases want<;>rfl
   ·cases hg
def AJ (n:Nat) (ops:Array Oper) (o:Oper):Bool:=
 match o.guard with|none=>true|some (j,_)=>match (ops[j]?).bind (·.dst) with|some t=>Nat.blt t n|none=>true
def Qm (P:Program) (n:Nat) (ops:Array Oper) (h:List Res):Nat->List Oper->Fr->List Nat->Option (List Oper × Fr × List (Nat × Nat))
 | 0,l,F,_=>some (l,F,[])
 | _+1,[],_,_=>none
 | k+1,o::l,F,hints=>
  match VC n o&&AJ n ops o with
  | false=>none
  | true=>match KD ops F o with
   | none=>none
   | some false=>Qm P n ops h k l (F.put o.dst (.tup [])) hints
   | some true=>match TZ P o F h (hints.headD 0) with
    | none=>none
    | some (x,eqs)=>match Qm P n ops h k l (F.put o.dst x) (match eqs with | []=>hints | _=>hints.tail) with
     | none=>none
     | some (l',F',es)=>some (l',F',eqs++es)
theorem Zgm {o:Oper} {Q:Exit->Act->World->Prop} {a:Act} {w:World} (hw:Region.wanted o (yielded ops a.tmps)=false)
  (hk:wpList P ops Q l (a.put o.dst undef) w):wpList P ops Q (o::l) a w:=by
 unfold wpList
 rw [Zd (by simp [hw])]
 exact hk
theorem LQ:∀(k:Nat) {l:List Oper} {F:Fr} {hints:List Nat} {l':List Oper} {F':Fr} {eqs:List (Nat × Nat)},Qm P n ops h k l F hints=some (l',F',eqs) ->
  (∀p∈eqs,p.1=p.2)->QX P n ops B l' F' h->QX P n ops B l F h
 | 0,l,F,hints,l',F',eqs,he,_,hs=>by
  simp only [Qm,Wt,Prod.mk.injEq] at he
  obtain ⟨rfl,rfl,rfl⟩:=he
  exact hs
 | k+1,[],F,hints,l',F',eqs,he,_,hs=>by simp [Qm] at he
 | k+1,o::l,F,hints,l',F',eqs,he,heq,hs=>by
  simp only [Qm] at he
  cases hd:VC n o&&AJ n ops o with
  | false=>rw [hd] at he;cases he
  | true=>
   rw [hd] at he
   simp only [Xb] at hd
   simp only at he
   cases hg:KD ops F o with
   | none=>rw [hg] at he;cases he
   | some b=>
    rw [hg] at he
    cases b with
    | false=>
     simp only at he
     have ih:=LQ k he heq hs
     intro Q w G a hF hh hk
     have hw:=Df hF hd.2 hg
     exact Zgm hw (ih Q w G _ (hF.put (Tk hd.1) (.tup (cs:=[]) .nil)) hh hk)
    | true=>
     simp only at he
     cases hev:TZ P o F h (hints.headD 0) with
     | none=>rw [hev] at he;cases he
     | some xe=>
      obtain ⟨x,es⟩:=xe
      rw [hev] at he
      simp only at he
      generalize hhint:(match es with|[]=>hints|_=>hints.tail)=hints' at he
      cases hr:Qm P n ops h k l (F.put o.dst x) hints' with
      | none=>rw [hr] at he;cases he
      | some y=>
       obtain ⟨l2,F2,es2⟩:=y
       rw [hr] at he
       simp only [Wt,Prod.mk.injEq] at he
       obtain ⟨rfl,rfl,rfl⟩:=he
       have ih:=LQ k hr (fun p hp=>heq p (Xm.2 (.inr hp))) hs
       have hst:=D9 hev (fun p hp=>heq p (Xm.2 (.inl hp)))
       intro Q w G a hF hh hk
       have hw:=Df hF hd.2 hg
       obtain ⟨v,hv,hrun⟩:=hst n w G a hF hh
       unfold wpList
       rw [Zl hw]
       refine .inl ?_
       unfold Oper.wp
       rw [hrun w (fun _ _ _=>rfl) (fun _ _=>rfl)]
       exact ih Q w G _ (hF.put (Tk hd.1) hv) hh hk
theorem Zd0 {o:Oper} (hg:KD ops F o=some true) (hlt:AJ n ops o=true) (ho:WE P n o F h fun F' h'=>QX P n ops B l F' h'):QX P n ops B (o::l) F h:=by
 intro Q w G a hF hh hk
 have hw:=Df hF hlt hg
 unfold wpList
 rw [Zl hw]
 refine .inl (Oper.wp_mono ?_ (ho Q w G a hF hh))
 intro a' w' ⟨F',h',G',h1,h2,h3,h4⟩
 exact h1 Q w' G' a' h2 h3 fun F2 h2' G2 a2 w2 b1 b2 b3 b4=>hk F2 h2' G2 a2 w2 b1 b2 b3 (h4.trans b4)
theorem Fr.Le.refl (F:Fr):F.Le F:=fun _ _ _ _ h=>h
def Zc (x y:AV):Prop:=∀w G v,RV w G x v->RV w G y v
theorem Zc.refl (x:AV):Zc x x:=fun _ _ _ h=>h
theorem Zc.any (x:AV):Zc x .any:=fun _ _ _ _=>.any
theorem Zc.forget (es:List AV) (hv:Option Value):Zc (.sl es hv) (.sl es none):=fun _ _ _ h=>h.forget
theorem Z5o (F:Fr):F.Le []:=fun _ _ _ _ _=>.any
theorem Dc {F F':Fr} {t:Nat} {x y:AV} (hx:F.get t=x) (hxy:Zc x y) (hr:F.Le F'):F.Le ((t,y)::F'):=by
 intro w G v s hv
 show RV w G (match Nat.beq t s with|true=>y|false=>Fr.get F' s) v
 cases hb:Nat.beq t s with
 | true=>
  have:=UT hb
  subst this
  rw [hx] at hv
  exact hxy _ _ _ hv
 | false=>exact hr w G v s hv
theorem Zc.sl {es es':List AV} (hv:Option Value) (h:es=es'):Zc (.sl es hv) (.sl es' none):=h▸Zc.forget es hv
theorem Zc.slh {es es':List AV} (hv:Option Value) (h:es=es'):Zc (.sl es hv) (.sl es' hv):=h▸Zc.refl _
theorem Zc.i {a b:Int} (h:a=b):Zc (.val (.int .i64 a)) (.val (.int .i64 b)):=h▸Zc.refl _
theorem Zc.b {a b:Bool} (h:a=b):Zc (.val (.bool a)) (.val (.bool b)):=h▸Zc.refl _
inductive Vt:List AV->List AV->Prop
 | nil:Vt [] []
 | cons {x y:AV} {xs ys:List AV} (h:Zc x y) (t:Vt xs ys):Vt (x::xs) (y::ys)
theorem Vt.refl:∀(xs:List AV),Vt xs xs
 | []=>.nil
 | x::xs=>.cons (Zc.refl x) (Vt.refl xs)
theorem Vt.cs {w:World} {G:Yk}:∀{xs ys:List AV} {vs:List Value},Vt xs ys->YV w G xs vs->YV w G ys vs
 | _,_,_,.nil,.nil=>.nil
 | _,_,_,.cons h t,.cons a b=>.cons (h _ _ _ a) (t.cs b)
theorem Vt.mem {w:World} {G:Yk}:∀{xs ys:List AV} {b o:Nat},Vt xs ys->Wu w G b o xs->Wu w G b o ys
 | _,_,_,_,.nil,.nil=>.nil
 | _,_,_,_,.cons h t,.cons a1 a2 a3 a4=>.cons a1 a2 (h _ _ _ a3) (t.mem a4)
theorem Zc.agg {xs ys:List AV} (h:Vt xs ys):Zc (.agg xs) (.agg ys):=fun _ _ _ hv=>by
 cases hv with
 | agg hc=>exact .agg (h.cs hc)
theorem Zc.tup {xs ys:List AV} (h:Vt xs ys):Zc (.tup xs) (.tup ys):=fun _ _ _ hv=>by
 cases hv with
 | tup hc=>exact .tup (h.cs hc)
theorem Zc.rp {xs ys:List AV} (h:Vt xs ys):Zc (.rp xs) (.rp ys):=fun _ _ _ hv=>by
 cases hv with
 | rp hc=>exact .rp (h.mem hc)
mutual
def AV.like:AV->AV->AV
 | .sl es hv,y=>match y with | .sl _ none=>.sl es none | _=>.sl es hv
 | .agg ls,y=>match y with | .agg ms=>.agg (Br ls ms) | _=>.agg ls
 | .rp ls,y=>match y with | .rp ms=>.rp (Br ls ms) | _=>.rp ls
 | .tup ls,y=>match y with | .tup ms=>.tup (Br ls ms) | _=>.tup ls
 | .any,_=>.any
 | .val v,y=>match y with | .any=>.any | _=>.val v
def Br:List AV->List AV->List AV
 | [],_=>[]
 | x::xs,ys=>match ys with | y::ys=>x.like y::Br xs ys | []=>x::xs
end
mutual
theorem AV.like_le:∀(x y:AV),Zc x (x.like y)
 | .sl es hv,y=>by
  cases y with
  | sl es' hv'=>cases hv'<;>simp only [AV.like]<;>first | exact Zc.forget es hv | exact Zc.refl _
  | _=>simp only [AV.like];exact Zc.refl _
 | .agg ls,y=>by
  cases y with
  | agg ms=>simp only [AV.like];exact Zc.agg (Gn ls ms)
  | _=>simp only [AV.like];exact Zc.refl _
 | .rp ls,y=>by
  cases y with
  | rp ms=>simp only [AV.like];exact Zc.rp (Gn ls ms)
  | _=>simp only [AV.like];exact Zc.refl _
 | .tup ls,y=>by
  cases y with
  | tup ms=>simp only [AV.like];exact Zc.tup (Gn ls ms)
  | _=>simp only [AV.like];exact Zc.refl _
 | .any,y=>by simp only [AV.like];exact Zc.refl _
 | .val v,y=>by
  cases y with
  | any=>simp only [AV.like];exact Zc.any _
  | _=>simp only [AV.like];exact Zc.refl _
theorem Gn:∀(xs ys:List AV),Vt xs (Br xs ys)
 | [],ys=>by simp only [Br];exact .nil
 | x::xs,ys=>by
  cases ys with
  | nil=>simp only [Br];exact Vt.refl _
  | cons y ys=>simp only [Br];exact .cons (AV.like_le x y) (Gn xs ys)
end
theorem O5 {F F':Fr} (h:F'.map (fun p=>(F.get p.1).like p.2)=F'.map (·.2)):F.Le F':=by
 induction F' with
 | nil=>exact Z5o F
 | cons p r ih=>
  simp only [Td,List.cons.injEq] at h
  refine Dc rfl ?_ (ih h.2)
  have:=AV.like_le (F.get p.1) p.2
  rwa [h.1] at this
structure Ti (F:Fr) (h:List Res) (F':Fr) (h':List Res):Prop where
 fr:F.Le F'
 res:∃d,h.Perm (h'++d)
theorem YI.weak {w:World} {G:Yk} {h':List Res} (hh:YI w G h) (hw:∃d,h.Perm (h'++d)):YI w G h':=by
 obtain ⟨d,hp⟩:=hw
 exact (hh.perm hp).left
theorem X3.weak_left {w w':World} {G G':Yk} {h' k:List Res} (hw:∃d,h.Perm (h'++d)) (e:X3 w G h' w' G' k):X3 w G h w' G' k:=by
 obtain ⟨d,hp⟩:=hw
 have hs:∀b o,Vp h' b o->Vp h b o:=fun b o hf=>(Ci hp).2 (Bl.2 (.inl hf))
 exact ⟨e.os,e.tape,e.output,e.size,e.sub,fun b hb=>(e.same b hb).mono fun _ ho=>hs _ _ ho,fun b o hb hg=>(e.newG b o hb hg).imp id (hs b o),fun b o hb hf=>hs b o (e.newfp b o hb hf)⟩
theorem CN {F':Fr} {h':List Res} (hw:Ti F h F' h') (ha:Yy P n c A F' h'):Yy P n c A F h:=by
 intro w G a hF hh
 refine wp_mono (ha w G a (hF.le hw.fr) (hh.weak hw.res)) ?_
 intro e a' w' ⟨F2,h2,G2,b1,b2,b3,b4⟩
 exact ⟨F2,h2,G2,b1,b2,b3,b4.weak_left hw.res⟩
theorem GX {F':Fr} {h':List Res} (hw:Ti F h F' h') (ha:QX P n ops B l F' h'):QX P n ops B l F h:=by
 intro Q w G a hF hh hk
 exact ha Q w G a (hF.le hw.fr) (hh.weak hw.res) fun F2 h2 G2 a2 w2 b1 b2 b3 b4=>hk F2 h2 G2 a2 w2 b1 b2 b3 (b4.weak_left hw.res)
theorem Mz {A':WV} (hA:∀e F h,A e F h->A' e F h) (ha:Yy P n c A F h):Yy P n c A' F h:=by
 intro w G a hF hh
 exact wp_mono (ha w G a hF hh) fun e a' w' hc=>hc.mono hA
@[reducible] def BJ (P:Program) (n:Nat) (y:Code) (A:WV):WV:=fun e F h=>
 match e with
 | .normal=>Yy P n y A F h
 | e=>A e F h
@[reducible] def Fp (id:Nat) (A:WV):WV:=fun e F h=>
 match e with
 | .exit i=>match Nat.beq i id with
  | true=>A .normal F h
  | false=>A (.exit i) F h
 | e=>A e F h
@[reducible] def Ll (Inv:Nat->Fr->List Res->Prop) (m:Nat) (A:WV):WV:=fun e F h=>
 match e with
 | .normal=>∃m' F' h',m'<m/\Inv m' F' h'/\Ti F h F' h'
 | e=>A e F h
theorem HF (hk:Xf c=3) (ha:Yy P n (YP c) (BJ P n (VT c) A) F h):Yy P n c A F h:=by
 rw [Z23 hk]
 intro w G a hF hh
 refine wp_seq (wp_mono (ha w G a hF hh) ?_)
 intro e a' w' ⟨F',h',G',h1,h2,h3,h4⟩
 cases e with
 | normal=>exact wp_mono (h1 w' G' a' h2 h3) fun e a2 w2 hc=>hc.trans h4
 | exit id=>exact ⟨F',h',G',h1,h2,h3,h4⟩
 | goto l=>exact ⟨F',h',G',h1,h2,h3,h4⟩
 | ret=>exact ⟨F',h',G',h1,h2,h3,h4⟩
 | panic ch=>exact ⟨F',h',G',h1,h2,h3,h4⟩
 | outgrown=>exact ⟨F',h',G',h1,h2,h3,h4⟩
theorem MA (hk:Xf c=1) (hs:QX P n (XI c) (A .normal) (XI c).toList F h):Yy P n c A F h:=by
 rw [Z21 hk]
 intro w G a hF hh
 exact wp_region_list (hs _ w G a hF hh fun F' h' G' a' w' b1 b2 b3 b4=>⟨F',h',G',b1,b2,b3,b4⟩)
theorem Z0w (hk:Xf c=3) (hk1:Xf (YP c)=1) (hs:QX P n (XI (YP c)) (fun F h=>Yy P n (VT c) A F h) (XI (YP c)).toList F h):Yy P n c A F h:=
 HF hk (MA hk1 hs)
theorem Z11 (hk:Xf c=0) (h0:A .normal F h):Yy P n c A F h:=by
 rw [Z20 hk]
 intro w G a hF hh
 exact wp_skip ⟨F,h,G,h0,hF,hh,X3.refl _ _ _⟩
theorem Z0u (id:Nat) (hk:Xf c=7) (hi:K0 c=id) (h0:A (.exit id) F h):Yy P n c A F h:=by
 subst hi
 rw [Z27 hk]
 intro w G a hF hh
 exact wp_exit ⟨F,h,G,h0,hF,hh,X3.refl _ _ _⟩
theorem Z0y (hk:Xf c=8) (h0:A .ret F h):Yy P n c A F h:=by
 rw [Z28 hk]
 intro w G a hF hh
 exact wp_ret ⟨F,h,G,h0,hF,hh,X3.refl _ _ _⟩
theorem HE {b:Bool} {p:Prop} (hk:Xf c=4) (hc:F.ev (As c)=.val (.bool b)) (hp:b=true↔p) (h1:p->Yy P n (YP c) A F h) (h2:¬p->Yy P n (VT c) A F h) :
  Yy P n c A F h:=by
 rw [Z24 hk]
 intro w G a hF hh
 have hv:=hF.ev (As c)
 rw [hc] at hv
 exact wp_cond_split hv.val_inv (fun e=>h1 (hp.1 e) w G a hF hh) fun e=>h2 (fun q=>by have:=hp.2 q;rw [e] at this;cases this) w G a hF hh
theorem Z0r (id:Nat) (hk:Xf c=5) (hi:K0 c=id) (ha:Yy P n (YP c) (Fp id A) F h):Yy P n c A F h:=by
 subst hi
 rw [Z25 hk]
 intro w G a hF hh
 refine wp_block (wp_mono (ha w G a hF hh) ?_)
 intro e a' w' ⟨F',h',G',h1,h2,h3,h4⟩
 cases e with
 | normal=>exact ⟨F',h',G',h1,h2,h3,h4⟩
 | exit id=>
  simp only [Exit.inBlock]
  by_cases hid:id=K0 c
  ·subst hid
   rw [Zl rfl]
   have hb:Nat.beq (K0 c) (K0 c)=true:=Nat.beq_refl _
   simp only [Fp,hb] at h1
   exact ⟨F',h',G',h1,h2,h3,h4⟩
  ·rw [Zd hid]
   have hb:Nat.beq id (K0 c)=false:=by
    cases hq:Nat.beq id (K0 c)
    ·rfl
    ·exact absurd (UT hq) hid
   simp only [Fp,hb] at h1
   exact ⟨F',h',G',h1,h2,h3,h4⟩
 | goto l=>exact ⟨F',h',G',h1,h2,h3,h4⟩
 | ret=>exact ⟨F',h',G',h1,h2,h3,h4⟩
 | panic ch=>exact ⟨F',h',G',h1,h2,h3,h4⟩
 | outgrown=>exact ⟨F',h',G',h1,h2,h3,h4⟩
theorem EB (p:Nat->Prop) (h:∃n,p n):∃n,p n/\∀m,p m->n<=m:=by
 obtain ⟨k,hk⟩:=h
 induction k using Nat.strongRecOn with
 | _ k ih=>
  by_cases hx:∃m,m<k/\p m
  ·obtain ⟨m,h1,h2⟩:=hx
   exact ih m h1 h2
  ·refine ⟨k,hk,fun m hm=>?_⟩
   rcases Fb m k with h|h
   ·exact absurd ⟨m,h,hm⟩ hx
   ·exact h
open Classical in
theorem Z0v (Inv:Nat->Fr->List Res->Prop) {m0:Nat} {F0:Fr} {h0:List Res} (hk:Xf c=6) (hi:Inv m0 F0 h0) (hw:Ti F h F0 h0)
  (hr:∀m F h,Inv m F h->Yy P n (YP c) (Ll Inv m A) F h):Yy P n c A F h:=by
 refine CN hw ?_
 rw [Z26 hk]
 intro w G a hF hh
 let J:Nat->Act->World->Prop:=fun m a' w'=>∃F' h' G',Inv m F' h'/\FR w' G' n F' a'/\YI w' G' h'/\X3 w G h0 w' G' h'
 let mu:Act->World->Nat:=fun a' w'=>if hx:∃m,J m a' w' then Classical.choose (EB (fun m=>J m a' w') hx) else 0
 refine wp_loop (fun a' w'=>∃m,J m a' w') mu ⟨m0,F0,h0,G,hi,hF,hh,X3.refl _ _ _⟩ ?_
 intro a1 w1 hx
 have hsp:=Classical.choose_spec (EB (fun m=>J m a1 w1) hx)
 have hmu:mu a1 w1=Classical.choose (EB (fun m=>J m a1 w1) hx):=dif_pos hx
 rw [<-hmu] at hsp
 obtain ⟨⟨F1,h1,G1,i1,i2,i3,i4⟩,_⟩:=hsp
 refine wp_mono (hr _ F1 h1 i1 w1 G1 a1 i2 i3) ?_
 intro e a' w' ⟨F',h',G',k1,k2,k3,k4⟩
 have keep:∀{e},A e F' h'->Am n A w G h0 e a' w':=fun hA=>⟨F',h',G',hA,k2,k3,i4.trans k4⟩
 cases e with
 | normal=>
  obtain ⟨m',F2,h2,j1,j2,j3⟩:=k1
  have hj:J m' a' w':=by
   refine ⟨F2,h2,G',j2,k2.le j3.fr,k3.weak j3.res,i4.trans ?_⟩
   obtain ⟨d,hp⟩:=j3.res
   have hsub:∀b o,Vp h2 b o->Vp h' b o:=fun b o hf=>(Ci hp).2 (Bl.2 (.inl hf))
   exact ⟨k4.os,k4.tape,k4.output,k4.size,k4.sub,k4.same,k4.newG,fun b o hb hf=>k4.newfp b o hb (hsub b o hf)⟩
  have hx':∃m,J m a' w':=⟨m',hj⟩
  refine ⟨hx',?_⟩
  show mu a' w'<mu a1 w1
  have hsp':=Classical.choose_spec (EB (fun m=>J m a' w') hx')
  rw [show mu a' w'=Classical.choose (EB (fun m=>J m a' w') hx') from dif_pos hx']
  exact Nat.lt_of_le_of_lt (hsp'.2 m' hj) j1
 | exit id=>exact keep k1
 | goto l=>exact keep k1
 | ret=>exact keep k1
 | panic ch=>exact keep k1
 | outgrown=>exact keep k1
end
def BW:Nat->List AV->Fr
 | _,[]=>[]
 | i,x::xs=>(i,x)::BW (i+1) xs
theorem ME {w:World} {G:Yk}:∀{xs:List AV} {vs:List Value} (i t:Nat) (tl:List Value),YV w G xs vs->RV w G ((BW i xs).get (i+t)) ((vs++tl).getD t undef)
 | _,_,i,t,tl,.nil=>.any
 | _,_,i,0,tl,.cons (x:=x) (xs:=xs) h hr=>by
  show RV w G (match Nat.beq i (i+0) with|true=>x|false=>Fr.get (BW (i+1) xs) (i+0)) _
  have:Nat.beq i (i+0)=true:=Nat.beq_refl i
  rw [this]
  simpa using h
 | _,_,i,t+1,tl,.cons (x:=x) (xs:=xs) h hr=>by
  show RV w G (match Nat.beq i (i+(t+1)) with|true=>x|false=>Fr.get (BW (i+1) xs) (i+(t+1))) _
  have hb:Nat.beq i (i+(t+1))=false:=by
   cases hq:Nat.beq i (i+(t+1))
   ·rfl
   ·have:=UT hq;omega
  rw [hb]
  have:=ME (i+1) t tl hr
  rw [show i+1+t=i+(t+1) from by omega] at this
  simpa using this
def QR (P:Program) (F:Fr) (h:List Res):List ResultVar->List Nat->Option (List AV × List (Nat × Nat))
 | [],_=>some ([],[])
 | .tmp t::r,hints=>match QR P F h r hints with
  | some (xs,es)=>some (F.get t::xs,es)
  | none=>none
 | .cell t ty::r,hints=>match F.get t with
  | .val (.pointer (some ⟨b,o,none⟩))=>match h[hints.headD 0]? with
   | some (.obj b' ls)=>match AQ P ty (ls.drop o) with
    | some x=>match QR P F h r hints.tail with
     | some (xs,es)=>some (x::xs,(b,b')::es)
     | none=>none
    | none=>none
   | _=>none
  | _=>none
def AT:List AV->AV
 | [x]=>x
 | xs=>.tup xs
theorem Z1s (a:Addr):asAddr (.pointer (some a))=pure a:=rfl
theorem LD {P:Program} {w:World} {G:Yk} {n:Nat} {F:Fr} {h:List Res} {a:Act} (hF:FR w G n F a) (hh:YI w G h) :
  ∀{rs:List ResultVar} {hints:List Nat} {xs:List AV} {es:List (Nat × Nat)},QR P F h rs hints=some (xs,es)->(∀p∈es,p.1=p.2) ->
  ∃vs,YV w G xs vs/\(List.mapM (m:=Sem) (fun r=>match r with|.tmp t=>pure (a.tmps.getD t undef)|.cell b t=>do loadVar t (<-asAddr (a.tmps.getD b undef))) rs).run P w=.ok vs w
 | [],hints,xs,es,he,_=>by
  simp only [QR,Wt,Prod.mk.injEq] at he
  obtain ⟨rfl,rfl⟩:=he
  exact ⟨[],.nil,by simp⟩
 | .tmp t::r,hints,xs,es,he,heq=>by
  simp only [QR] at he
  cases hr:QR P F h r hints with
  | none=>rw [hr] at he;cases he
  | some y=>
   obtain ⟨ys,es2⟩:=y
   rw [hr] at he
   simp only [Wt,Prod.mk.injEq] at he
   obtain ⟨rfl,rfl⟩:=he
   obtain ⟨vs,h1,h2⟩:=LD hF hh hr heq
   refine ⟨a.tmps.getD t undef::vs,.cons (hF.get t) h1,?_⟩
   simp only [List.mapM_cons,Sem.run_bind,Sem.run_pure,Result.andThen_ok,h2]
 | .cell t ty::r,hints,xs,es,he,heq=>by
  simp only [QR] at he
  split at he
  ·rename_i b off hg
   split at he
   ·rename_i b' ls hl
    split at he
    ·rename_i x hx
     split at he
     ·rename_i ys es2 hr
      simp only [Wt,Prod.mk.injEq] at he
      obtain ⟨rfl,rfl⟩:=he
      have hbb:b=b':=heq (b,b') (by simp)
      subst hbb
      obtain ⟨vs,h1,h2⟩:=LD hF hh hr fun p hp=>heq p (by simp [hp])
      have hv:=hF.get t
      rw [hg] at hv
      have hv:=hv.val_inv
      obtain ⟨cs,e,k1,k2⟩:=hh.ok _ (Y4 hl)
      obtain ⟨v,j1,j2⟩:=GV (P:=P) (b:=b) (o:=off) hx (k2.drop off)
      have j3:=j2 w fun j u hj=>by
       rw [cell_of_row w b (off+j) cs e (0,0) k1]
       simpa using hj
      refine ⟨v::vs,.cons j1 h1,?_⟩
      simp only [List.mapM_cons,Sem.run_bind,Sem.run_pure,Result.andThen_ok,hv,Z1s,j3,h2]
     ·cases he
    ·cases he
   ·cases he
  ·cases he
def B9 (P:Program) (fn:Func) (R:AV->List Res->Prop):WV:=fun e F h=>
 (e=.normal∨e=.ret)/\∃hints xs es h' r,QR P F h fn.results.toList hints=some (xs,es)/\(∀p∈es,p.1=p.2)/\(∃d,h.Perm (h'++d))/\Zc (AT xs) r/\R r h'
theorem Lx {P:Program} {fn:Func} {R:AV->List Res->Prop} {F:Fr} {h h':List Res} {e:Exit} (he:(match e with|.normal|.ret=>true|_=>false)=true) (hints:List Nat) {xs:List AV}
  {es:List (Nat × Nat)} {r:AV} (hr:QR P F h fn.results.toList hints=some (xs,es)) (heq:∀p∈es,p.1=p.2) (hw:∃d,h.Perm (h'++d)) (hle:Zc (AT xs) r) (hR:R r h'):B9 P fn R e F h:=
 ⟨by cases e<;>first|exact .inl rfl|exact .inr rfl|(cases he),hints,xs,es,h',r,hr,heq,hw,hle,hR⟩
theorem Zc1 {P:Program} {fn:Func} {tmps:Array Value} {w:World} {vs:List Value}
  (h:(List.mapM (m:=Sem) (fun r=>match r with|.tmp t=>pure (tmps.getD t undef)|.cell b t=>do loadVar t (<-asAddr (tmps.getD b undef))) fn.results.toList).run P w=.ok vs w) :
  (results fn tmps).run P w=.ok (if h:vs.toArray.size=1 then vs.toArray[0] else .tuple vs.toArray) w:=by
 unfold results
 rw [Array.mapM_eq_mapM_toList]
 simp only [Sem.run_bind,Sem.run_map,Sem.run_pure]
 exact Yj (fun r=>(Result.andThen (Result.andThen r fun a w'=>Result.ok a.toArray w') fun a w'=>Result.ok (if h:a.size=1 then a[0] else Value.tuple a) w')) h
theorem enter {P:Program} {f:FuncId} {fn:Func} {xs:List AV} {h:List Res} {R:AV->List Res->Prop} {n:Nat} (hf:P.funcs[f]? = some fn) (hb:fn.body.isSome=true) (hn:fn.ntmps=n)
  (hle:Nat.ble xs.length n=true) (ha:Yy P n (Fx fn) (B9 P fn R) (BW 0 xs) h):WU P f xs h R:=by
 intro w G vs hvs hh
 have hbody:fn.body=some (Fx fn):=by
  unfold Fx
  cases hq:fn.body with
  | none=>simp [hq] at hb
  | some c=>rfl
 have hlen:=hvs.length
 have hle:=V6 hle
 refine calls_of_wp hf hbody ?_
 have hF:FR w G n (BW 0 xs) { tmps:=vs.toArray++Array.replicate (fn.ntmps-vs.toArray.size) undef,defers:=[] }:=by
  refine ⟨rfl,by simp [hn,hlen];omega,fun t=>?_⟩
  have:=ME (w:=w) (G:=G) 0 t (List.replicate (fn.ntmps-vs.toArray.size) undef) hvs
  rw [Wk] at this
  have e:(vs.toArray++Array.replicate (fn.ntmps-vs.toArray.size) undef).getD t undef=(vs++List.replicate (fn.ntmps-vs.toArray.size) undef).getD t undef:=by
   simp [Array.getElem?_append,List.getElem?_append,List.getElem?_replicate,Array.getElem?_replicate]
  rw [e]
  exact this
 refine wp_mono (ha w G _ hF hh) ?_
 intro e a w' ⟨F',h',G',hA,k1,k2,k3⟩
 obtain ⟨he,hints,ys,es,h2,r,hr,heq,hwk,hle,hR⟩:=hA
 obtain ⟨us,u1,u2⟩:=LD k1 k2 hr heq
 have hres:=Zc1 u2
 have hval:RV w' G' (AT ys) (if h:us.toArray.size=1 then us.toArray[0] else .tuple us.toArray):=by
  cases u1 with
  | nil=>simp [AT];exact .tup (cs:=[]) .nil
  | cons a1 a2=>
   cases a2 with
   | nil=>simpa [AT] using a1
   | cons b1 b2=>simpa [AT] using RV.tup (.cons a1 (.cons b1 b2))
 obtain ⟨d,hp⟩:=hwk
 have k2':=(k2.perm hp).left
 have k3':X3 w G h w' G' h2:=(k3.perm (TB _) hp).sub' (List.sublist_append_left _ _)
 rcases he with rfl|rfl
 ·exact ⟨k1.defers,_,hres,_,_,h2,G',rfl,hR,hle _ _ _ hval,k2',k3'⟩
 ·exact ⟨k1.defers,_,hres,_,_,h2,G',rfl,hR,hle _ _ _ hval,k2',k3'⟩
def AB (ops:Array Oper) (j i:Nat):Bool:=
 match ops[j]? with
 | some o=>o.after.any fun e=>Region.binds .any e&&e.on==i
 | none=>false
inductive Kq (ops:Array Oper):Nat->Nat->Prop
 | one {j i} (h:AB ops j i=true):Kq ops j i
 | more {j m i} (h:AB ops j m=true) (t:Kq ops m i):Kq ops j i
def GM (ops:Array Oper):Nat->Nat->Nat->Bool
 | 0,j,i=>AB ops j i
 | f+1,j,i=>match ops[j]? with
  | some o=>o.after.any fun e=>Region.binds .any e&&(e.on==i||(Nat.ble i e.on&&GM ops f e.on i))
  | none=>false
def V8 (ops:Array Oper) (j i:Nat):Bool:=GM ops 9 j i
theorem Nw {ops:Array Oper} {j:Nat} {o:Oper} {e:Edge} (ho:ops[j]? = some o) (he:e∈o.after) (hb:Region.binds .any e=true):AB ops j e.on=true:=by
 unfold AB
 rw [ho]
 simp only [Array.any_eq_true',Xb,Zb]
 exact ⟨e,he,hb,rfl⟩
theorem Ri {ops:Array Oper}:∀{f j i:Nat},GM ops f j i=true->Kq ops j i
 | 0,j,i,h=>.one h
 | f+1,j,i,h=>by
  rw [GM] at h
  split at h
  ·rename_i o ho
   simp only [Array.any_eq_true',Xb,Bool.or_eq_true,Zb] at h
   obtain ⟨e,he,hb,h1|⟨_,h1⟩⟩:=h
   ·exact .one (h1▸Nw ho he hb)
   ·exact .more (Nw ho he hb) (Ri h1)
  ·cases h
theorem Z1y {ops:Array Oper} {j i:Nat} (h:V8 ops j i=true):Kq ops j i:=Ri h
def Al (ops:Array Oper) (listed:Array Bool):Prop:=∀m i,listed.getD m false=true->AB ops m i=true->listed.getD i false=true
theorem Al.bef {ops:Array Oper} {listed:Array Bool} (hc:Al ops listed) {j i:Nat} (hb:Kq ops j i):listed.getD j false=true->listed.getD i false=true:=by
 induction hb with
 | one h=>exact fun hj=>hc _ _ hj h
 | more h _ ih=>exact fun hj=>ih (hc _ _ hj h)
theorem Ij {ops:Array Oper} {listed:Array Bool} {j i:Nat} (hj:j∈Region.ready .any ops listed) (h:AB ops j i=true):listed.getD i false=true:=by
 obtain ⟨_,o,ho,hall⟩:=mem_ready.1 hj
 simp only [AB,ho] at h
 obtain ⟨e,he,hb⟩:=Array.any_eq_true'.1 h
 simp only [Xb,Zb] at hb
 exact hb.2▸hall e he hb.1
theorem Zak {ops:Array Oper} {listed:Array Bool} {j i:Nat} (hc:Al ops listed) (hj:j∈Region.ready .any ops listed) (hi:listed.getD i true=false):¬Kq ops j i:=by
 intro hb
 have hi':listed.getD i false=false:=by
  cases hq:listed.getD i false
  ·rfl
  ·rcases Fb i listed.size with h|h
   ·simp [h] at hi hq;rw [hi] at hq;cases hq
   ·simp [Array.getElem?_eq_none h] at hi
 have hl:listed.getD i false=true:=by
  cases hb with
  | one h=>exact Ij hj h
  | more h t=>exact hc.bef t (Ij hj h)
 rw [hi'] at hl
 cases hl
theorem Al.add {ops:Array Oper} {listed:Array Bool} {j:Nat} (hc:Al ops listed) (hj:j∈Region.ready .any ops listed):Al ops (listed.setIfInBounds j true):=by
 intro m i hm he
 by_cases hmj:m=j
 ·subst hmj
  exact getD_set_true (Ij hj he)
 ·rw [getD_set_ne false (Ne.symm hmj)] at hm
  exact getD_set_true (hc m i hm he)
abbrev DX:=Nat × (World->Prop)->Prop
def CH (P:Program) (ops:Array Oper) (Q:Exit->Act->World->Prop):Nat->DX->Array Bool->Act->World->Prop
 | 0,_,listed,a,w=>Region.ready .any ops listed=[]/\Q .normal a w
 | fuel+1,T,listed,a,w=>
  (Region.ready .any ops listed=[]->Q .normal a w) /\
  ∀i∈Region.ready .any ops listed,wpOp P ops Q i (fun a' w'=>(∀p,T p->¬Kq ops i p.1->p.2 w') /\
   CH P ops Q fuel (fun p=>T p/\¬Kq ops i p.1) (listed.setIfInBounds i true) a' w') a w
section
variable {P:Program} {ops:Array Oper} {Q:Exit->Act->World->Prop} {S:World->Prop}
theorem Z0f:∀(fuel:Nat) (T:DX) (listed:Array Bool) (a:Act) (w:World),CH P ops Q fuel T listed a w->wpAny P .any ops Q fuel listed a w
 | 0,_,_,_,_,h=>h
 | fuel+1,_,_,_,_,h=>⟨h.1,fun i hi=>wpOp_mono (fun _ _ h'=>Z0f fuel _ _ _ _ h'.2) (h.2 i hi)⟩
theorem Mn:∀(fuel:Nat) {T T':DX} (listed:Array Bool) (a:Act) (w:World),(∀p,T' p->T p)->CH P ops Q fuel T listed a w->CH P ops Q fuel T' listed a w
 | 0,_,_,_,_,_,_,h=>h
 | fuel+1,_,_,_,_,_,hT,h=>⟨h.1,fun i hi=>wpOp_mono (fun _ _ h'=>⟨fun p hp=>h'.1 p (hT p hp),Mn fuel _ _ _ (fun p hp=>⟨hT p hp.1,hp.2⟩) h'.2⟩) (h.2 i hi)⟩
theorem Zgl {i:Nat} {oi:Oper} {v:Value} (hi:ops[i]? = some oi) (hsel:∀(j:Nat) (o:Oper) cs b,ops[j]? = some o->o.op≠.select cs b)
  (hQ:∀c a w,¬Q (.panic c) a w) :
  ∀(fuel:Nat) (T:DX) (listed:Array Bool) (a:Act) (w:World),Al ops listed ->
   (∀j oj,ops[j]? = some oj->j≠i->listed.getD j true=false->(∀e∈oj.after,Region.binds .any e=true->e.on≠i)->oi.apart ops oj=true) ->
   i∈Region.ready .any ops listed->YieldsIf P ops S oi v a->S w->(∀p,T p->p.2 w) ->
   CH P ops Q fuel (fun p=>T p∨p=(i,S)) (listed.setIfInBounds i true) (a.put oi.dst v) w->CH P ops Q (fuel+1) T listed a w:=by
 intro fuel
 have hQ':∀c a w,Q (.panic c) (a.put oi.dst v) w->Q (.panic c) a w:=fun c a w h=>(hQ c _ w h).elim
 induction fuel with
 | zero=>
  intro T listed a w _ hfree hr hy hS hT H
  refine ⟨fun h=>(by rw [h] at hr;cases hr),fun j hj=>?_⟩
  by_cases hji:j=i
  ·subst hji
   exact hy.wpOp hi hS ⟨fun p hp _=>hT p hp,H⟩
  ·have:=ready_mono hj hji
   rw [H.1] at this
   cases this
 | succ fuel ih=>
  intro T listed a w hcl hfree hr hy hS hT H
  refine ⟨fun h=>(by rw [h] at hr;cases hr),fun j hj=>?_⟩
  by_cases hji:j=i
  ·subst hji
   exact hy.wpOp hi hS ⟨fun p hp _=>hT p hp,Mn (fuel+1) _ _ _ (fun p hp=>.inl hp.1) H⟩
  ·have h1:=H.2 j (ready_mono hj hji)
   obtain ⟨hjun,oj,hoj,hall⟩:=mem_ready.1 hj
   have hiun:=(mem_ready.1 hr).1
   have hnb:¬Kq ops j i:=Zak hcl hj hiun
   have hnot:∀e∈oj.after,Region.binds .any e=true->e.on≠i:=fun e he hb heq=>
    hnb (.one (by simp only [AB,hoj];exact Array.any_eq_true'.2 ⟨e,he,by simp [hb,heq]⟩))
   have h2:=wpOp_putIf hoj (hfree j oj hoj hji hjun hnot) (fun cs b=>hsel i oi cs b hi) (fun cs b=>hsel j oj cs b hoj) hQ' hy h1
   have hfree':∀k ok,ops[k]? = some ok->k≠i->(listed.setIfInBounds j true).getD k true=false ->
     (∀e∈ok.after,Region.binds .any e=true->e.on≠i)->oi.apart ops ok=true:=fun k ok hk hki hun IL=>by
    refine hfree k ok hk hki ?_ IL
    by_cases hjk:j=k
    ·subst hjk;exact hjun
    ·rw [getD_set_ne true hjk] at hun;exact hun
   refine wpOp_mono (fun a' w' h3=>?_) h2
   obtain ⟨hy',hT',hrest⟩:=h3
   have hTp:∀p,T p/\¬Kq ops j p.1->p.2 w':=fun p hp=>hT' p (.inl hp.1) hp.2
   refine ⟨fun p hp hb=>hTp p ⟨hp,hb⟩,ih _ (listed.setIfInBounds j true) a' w' (hcl.add hj) hfree' (ready_mono hr (Ne.symm hji)) hy' (hT' (i,S) (.inr rfl) hnb) hTp ?_⟩
   rw [Array.setIfInBounds_comm _ _ hji]
   refine Mn fuel _ _ _ (fun p hp=>?_) hrest
   rcases hp with hp|rfl
   ·exact ⟨.inl hp.1,hp.2⟩
   ·exact ⟨.inr rfl,hnb⟩
end
def WG (ops:Array Oper) (done:List Nat):Array Bool:=done.foldl (fun l i=>l.setIfInBounds i true) (Array.replicate ops.size false)
theorem Gq (ops:Array Oper) (done:List Nat) (i:Nat):WG ops (done++[i])=(WG ops done).setIfInBounds i true:=by simp [WG]
theorem Z2g (ops:Array Oper):Al ops (WG ops []):=by
 intro m i hm _
 simp only [WG,List.foldl_nil] at hm
 by_cases h:m<ops.size
 ·simp [h] at hm
 ·simp [h] at hm
def X5 (P:Program) (n:Nat) (ops:Array Oper) (B:Fr->List Res->Prop) (T:List (Nat × List Nat)) (fuel:Nat) (done:List Nat) (F:Fr) (h:List Res):Prop:=
 ∀(Q:Exit->Act->World->Prop) w G a (SL:DX),FR w G n F a->YI w G h->(∀c a w,¬Q (.panic c) a w)->Al ops (WG ops done) ->
  (∀p,SL p->∃t∈T,t.1=p.1/\∀w',(∀b o,G b o->w'.cell? ⟨b,o,none⟩=w.cell? ⟨b,o,none⟩)->(∀b∈t.2,w'.heap[b]? = w.heap[b]?)->p.2 w') ->
  (∀F' h' G' a' w',B F' h'->FR w' G' n F' a'->YI w' G' h'->X3 w G h w' G' h'->Q .normal a' w')->CH P ops Q fuel SL (WG ops done) a w
section
variable {P:Program} {n:Nat} {ops:Array Oper} {B:Fr->List Res->Prop} {T:List (Nat × List Nat)} {fuel:Nat} {done:List Nat} {F:Fr} {h:List Res}
theorem Z3b (hr:Region.ready .any ops (WG ops done)=[]) (hB:B F h):X5 P n ops B T fuel done F h:=by
 intro Q w G a SL hF hh _ _ _ hk
 have hq:=hk F h G a w hB hF hh (X3.refl _ _ _)
 cases fuel with
 | zero=>exact ⟨hr,hq⟩
 | succ f=>exact ⟨fun _=>hq,by rw [hr];simp⟩
def KO (P:Program) (n:Nat) (ops:Array Oper) (h:List Res):List Nat->List Nat->Fr->List Nat->Option (Fr × List (Nat × List (Nat × Nat)))
 | [],_,F,_=>some (F,[])
 | i::is,done,F,hints=>
  match ops[i]? with
  | none=>none
  | some o=>
   match VC n o&&(AJ n ops o&&(Region.free .any ops (WG ops done) i&&(Region.ready .any ops (WG ops done)).contains i)) with
   | false=>none
   | true=>match KD ops F o with
    | none=>none
    | some false=>match KO P n ops h is (done++[i]) (F.put o.dst (.tup [])) hints with
     | none=>none
     | some (F',es)=>some (F',(i,[])::es)
    | some true=>match TZ P o F h (hints.headD 0) with
     | none=>none
     | some (x,eqs)=>match KO P n ops h is (done++[i]) (F.put o.dst x) (match eqs with | []=>hints | _=>hints.tail) with
      | none=>none
      | some (F',es)=>some (F',(i,eqs)::es)
def EH (es:List (Nat × List (Nat × Nat))):List (Nat × List Nat):=es.map fun e=>(e.1,e.2.map (·.1))
theorem I0 {i:Nat} {o:Oper} {ks:List Nat} {x:AV} (hs:Region.noSelect ops=true) (hi:ops[i]? = some o) (hd:VC n o=true) (hgl:AJ n ops o=true)
  (hf:Region.free .any ops (WG ops done) i=true) (hr:(Region.ready .any ops (WG ops done)).contains i=true)
  (hx:(KD ops F o=some false/\x=.tup []/\ks=[])∨(KD ops F o=some true/\XW P o F h ks x))
  (H:X5 P n ops B ((i,ks)::T) fuel (done++[i]) (F.put o.dst x) h):X5 P n ops B T (fuel+1) done F h:=by
 intro Q w G a SL hF hh hQ hcl hcov hk
 have hready:i∈Region.ready .any ops (WG ops done):=by simpa using hr
 let S:World->Prop:=fun w'=>(∀b o,G b o->w'.cell? ⟨b,o,none⟩=w.cell? ⟨b,o,none⟩)/\(∀b∈ks,w'.heap[b]? = w.heap[b]?)
 have hSL:∀p,SL p->p.2 w:=fun p hp=>by
  obtain ⟨t,_,_,h3⟩:=hcov p hp
  exact h3 w (fun _ _ _=>rfl) fun _ _=>rfl
 have key:∃v,RV w G x v/\YieldsIf P ops S o v a:=by
  rcases hx with ⟨hg,rfl,rfl⟩|⟨hg,hst⟩
  ·exact ⟨undef,.tup (cs:=[]) .nil,.inr ⟨Df hF hgl hg,rfl⟩⟩
  ·obtain ⟨v,h1,h2⟩:=hst n w G a hF hh
   exact ⟨v,h1,.inl ⟨Df hF hgl hg,fun w' hw'=>h2 w' hw'.1 hw'.2⟩⟩
 obtain ⟨v,hv,hy⟩:=key
 refine Zgl hi (Region.noSelect_spec hs) hQ fuel SL _ a w hcl (Region.free_spec hi hf) hready hy ⟨fun _ _ _=>rfl,fun _ _=>rfl⟩ hSL ?_
 rw [<-Gq]
 refine H Q w G _ _ (hF.put (Tk hd) hv) hh hQ (by rw [Gq];exact hcl.add hready) ?_ hk
 rintro p (hp|rfl)
 ·obtain ⟨t,h1,h2,h3⟩:=hcov p hp
  exact ⟨t,XG _ h1,h2,h3⟩
 ·exact ⟨(i,ks),Xp ..,rfl,fun w' h1 h2=>⟨h1,h2⟩⟩
theorem HZ:∀(is:List Nat) {T:List (Nat × List Nat)} {done:List Nat} {F F':Fr} {hints:List Nat} {es:List (Nat × List (Nat × Nat))} {fuel':Nat},Region.noSelect ops=true ->
  KO P n ops h is done F hints=some (F',es)->(∀e∈es,∀p∈e.2,p.1=p.2)->fuel'=fuel+is.length ->
  X5 P n ops B ((EH es).reverse++T) fuel (done++is) F' h->X5 P n ops B T fuel' done F h
 | [],T,done,F,F',hints,es,fuel',_,he,_,hf,H=>by
  simp only [KO,Wt,Prod.mk.injEq] at he
  obtain ⟨rfl,rfl⟩:=he
  subst hf
  simpa [EH] using H
 | i::is,T,done,F,F',hints,es,fuel',hs,he,heq,hf,H=>by
  simp only [KO] at he
  cases ho:ops[i]? with
  | none=>rw [ho] at he;cases he
  | some o=>
   rw [ho] at he
   simp only at he
   cases hc:VC n o&&(AJ n ops o&&(Region.free .any ops (WG ops done) i&&(Region.ready .any ops (WG ops done)).contains i)) with
   | false=>rw [hc] at he;cases he
   | true=>
    rw [hc] at he
    simp only [Xb] at hc
    obtain ⟨c1,c2,c3,c4⟩:=hc
    simp only at he
    have hfuel:fuel'=fuel+is.length+1:=by simp at hf;omega
    subst hfuel
    cases hg:KD ops F o with
    | none=>rw [hg] at he;cases he
    | some b=>
     rw [hg] at he
     cases b with
     | false=>
      simp only at he
      cases hr:KO P n ops h is (done++[i]) (F.put o.dst (.tup [])) hints with
      | none=>rw [hr] at he;cases he
      | some y=>
       obtain ⟨F2,es2⟩:=y
       rw [hr] at he
       simp only [Wt,Prod.mk.injEq] at he
       obtain ⟨rfl,rfl⟩:=he
       refine I0 hs ho c1 c2 c3 c4 (.inl ⟨hg,rfl,rfl⟩) (HZ is hs hr (fun e he=>heq e (XG _ he)) rfl ?_)
       simpa [EH] using H
     | true=>
      simp only at he
      cases hev:TZ P o F h (hints.headD 0) with
      | none=>rw [hev] at he;cases he
      | some xe=>
       obtain ⟨x,eqs⟩:=xe
       rw [hev] at he
       simp only at he
       generalize (match eqs with|[]=>hints|_=>hints.tail)=hints' at he
       cases hr:KO P n ops h is (done++[i]) (F.put o.dst x) hints' with
       | none=>rw [hr] at he;cases he
       | some y=>
        obtain ⟨F2,es2⟩:=y
        rw [hr] at he
        simp only [Wt,Prod.mk.injEq] at he
        obtain ⟨rfl,rfl⟩:=he
        have hst:=D9 hev (heq (i,eqs) (Xp ..))
        refine I0 hs ho c1 c2 c3 c4 (.inr ⟨hg,hst⟩) (HZ is hs hr (fun e he=>heq e (XG _ he)) rfl ?_)
        simpa [EH] using H
def WM:List Res->List Nat
 | []=>[]
 | .obj b _::r=>b::WM r
 | .row (.slice (some a) _ _) _ _::r=>a.block::WM r
 | _::r=>WM r
theorem Pz {b:Nat}:∀{h:List Res},b∈WM h->∃r∈h,∀o,r.fp b o
 | [],hb=>by simp [WM] at hb
 | x::r,hb=>by
  have up:b∈WM r->∃q∈x::r,∀o,q.fp b o:=fun hb=>by obtain ⟨l,hl,hf⟩:=Pz (h:=r) hb;exact ⟨l,XG _ hl,hf⟩
  unfold WM at hb
  split at hb
  ·rename_i he;cases he
  ·rename_i he
   cases he
   rcases YM.1 hb with rfl|hb
   ·exact ⟨_,Xp ..,fun _=>rfl⟩
   ·exact up hb
  ·rename_i he
   cases he
   rcases YM.1 hb with rfl|hb
   ·exact ⟨_,Xp ..,fun _=>rfl⟩
   ·exact up hb
  ·rename_i he
   cases he
   exact up hb
def Vc (P:Program) (n:Nat) (ops:Array Oper) (B:Fr->List Res->Prop) (T:List (Nat × List Nat)) (fuel:Nat) (done:List Nat) (F:Fr) (h:List Res) (i:Nat):Prop:=
 ∃o h1 h2,ops[i]? = some o/\KD ops F o=some true/\AJ n ops o=true/\h.Perm (h1++h2) /\
  (∀t∈T,V8 ops i t.1=true∨∀b∈t.2,b∈WM h2) /\
  WE P n o F h1 fun F' h1'=>X5 P n ops B (T.filter fun t=>!V8 ops i t.1) fuel (done++[i]) F' (h1'++h2)
theorem HY {is:List Nat} (hr:Region.ready .any ops (WG ops done)=is) (hne:is.isEmpty=false) (H:∀i∈is,Vc P n ops B T fuel done F h i):X5 P n ops B T (fuel+1) done F h:=by
 intro Q w G a SL hF hh hQ hcl hcov hk
 refine ⟨fun h0=>(by rw [hr] at h0;subst h0;simp at hne),fun i hi=>?_⟩
 obtain ⟨o,h1,h2,ho,hg,hgl,hp,hT,hop⟩:=H i (hr▸hi)
 have hh':=hh.perm hp
 have hw:=Df hF hgl hg
 unfold wpOp
 simp only [ho,hw,if_true]
 refine .inl (Oper.wp_mono ?_ (hop Q w G a hF hh'.left))
 intro a' w' ⟨F',h1',G',b1,b2,b3,b4⟩
 obtain ⟨j1,j2⟩:=hh'.frame b4 b3
 have hA:=b4.agree hh'.left
 have hsame:∀b∈WM h2,w'.heap[b]? = w.heap[b]?:=fun b hb=>by
  obtain ⟨r,hl,hr⟩:=Pz hb
  exact (b4.same b ((hh'.ok r (Xm.2 (.inr hl))).lt b 0 (hr 0))).eq fun o hf=>hh'.cross hf ⟨_,hl,hr o⟩
 have hcov':∀p,SL p/\¬Kq ops i p.1->∃t∈T.filter fun t=>!V8 ops i t.1,t.1=p.1 /\
   ∀w'',(∀b o,G' b o->w''.cell? ⟨b,o,none⟩=w'.cell? ⟨b,o,none⟩)->(∀b∈t.2,w''.heap[b]? = w'.heap[b]?)->p.2 w'':=by
  rintro p ⟨hp,hb⟩
  obtain ⟨t,t1,t2,t3⟩:=hcov p hp
  have hbb:V8 ops i t.1=false:=by
   cases hq:V8 ops i t.1
   ·rfl
   ·exact absurd (t2▸Z1y hq) hb
  refine ⟨t,List.mem_filter.2 ⟨t1,by simp [hbb]⟩,t2,fun w'' c1 c2=>t3 w'' (fun b o hg=>(c1 b o (hA.sub b o hg)).trans (hA.cell b o hg)) fun b hb'=>?_⟩
  rcases hT t t1 with h|h
  ·rw [hbb] at h;cases h
  ·exact (c2 b hb').trans (hsame b (h b hb'))
 refine ⟨fun p hp hb=>?_,?_⟩
 ·obtain ⟨t,_,_,t3⟩:=hcov' p ⟨hp,hb⟩
  exact t3 w' (fun _ _ _=>rfl) fun _ _=>rfl
 ·rw [<-Gq]
  exact b1 Q w' G' a' _ b2 j1 hQ (by rw [Gq];exact hcl.add hi) hcov' fun F2 h2' G2 a2 w2 c1 c2 c3 c4=>hk F2 h2' G2 a2 w2 c1 c2 c3 ((j2.perm hp.symm (TB _)).trans c4)
theorem Z3e {i:Nat} (hr:Region.ready .any ops (WG ops done)=[i]) (H:Vc P n ops B T fuel done F h i):X5 P n ops B T (fuel+1) done F h:=
 HY hr rfl fun j hj=>by rw [Xr.1 hj];exact H
theorem I1 {F':Fr} (hw:F.Le F') (H:X5 P n ops B T fuel done F' h):X5 P n ops B T fuel done F h:=by
 intro Q w G a SL hF hh hQ hcl hcov hk
 exact H Q w G a SL (hF.le hw) hh hQ hcl hcov hk
end
theorem MB {P:Program} {n:Nat} {c:Code} {A:WV} {F:Fr} {h:List Res} (hk:Xf c=2) (hm:P.follows .mixedOrders=true) {k:Nat} (Xx:(XI c).size=k)
  (hs:X5 P n (XI c) (A .normal) [] k [] F h):Yy P n c A F h:=by
 rw [Z22 hk]
 intro w G a hF hh
 subst Xx
 let Q:Exit->Act->World->Prop:=fun e a' w'=>match e with
  | .normal=>Am n A w G h .normal a' w'
  | _=>False
 have hx:=hs Q w.drew G a (fun _=>False) (hF.mono (Bc w G)) hh.drew (fun _ _ _ hq=>hq) (Z2g _) (fun p hp=>hp.elim)
  fun F' h' G' a' w' b1 b2 b3 b4=>⟨F',h',G',b1,b2,b3,(X3.drew w G h).trans b4⟩
 refine wp_mono (wp_region_any (Q:=Q) hm (Z0f _ _ _ _ _ hx)) ?_
 intro e a' w' hq
 cases e with
 | normal=>exact hq
 | _=>exact hq.elim
theorem Z0x {P:Program} {n:Nat} {c:Code} {A:WV} {F:Fr} {h:List Res} (hk:Xf c=3) (hk2:Xf (YP c)=2) (hm:P.follows .mixedOrders=true) {k:Nat}
  (Xx:(XI (YP c)).size=k) (hs:X5 P n (XI (YP c)) (fun F h=>Yy P n (VT c) A F h) [] k [] F h):Yy P n c A F h:=
 HF hk (MB hk2 hm Xx hs)
abbrev AV.i (n:Int):AV:=.val (.int .i64 n)
abbrev AV.b (b:Bool):AV:=.val (.bool b)
abbrev AV.p (b:Nat) (o:Nat):AV:=.val (.pointer (some ⟨b,o,none⟩))
abbrev AV.ms (b off len cap:Nat):AV:=.val (.slice (some ⟨b,off,none⟩) len cap)
def ZI (ops:Array Oper) (k:Nat):Oper:=ops.toList.getD k default
def Xj (n:Nat) (ops:Array Oper) (F:Fr) (k:Nat):Bool:=
 Nat.blt k ops.size&&(VC n (ZI ops k)&&(AJ n ops (ZI ops k)&&(match KD ops F (ZI ops k) with|some true=>true|_=>false)))
abbrev SI (P:Program) (n:Nat) (ops:Array Oper) (B:Fr->List Res->Prop) (k:Nat) (F:Fr) (h:List Res):Prop:=QX P n ops B (ops.toList.drop k) F h
theorem Z3p {ops:Array Oper} {k:Nat} (h:k<ops.size):ops.toList.drop k=ZI ops k::ops.toList.drop (k+1):=by
 have this:k<ops.toList.length:=by simpa using h
 rw [Mp this]
 simp [ZI,List.getD,h]
section
variable {P:Program} {n:Nat} {ops:Array Oper} {B:Fr->List Res->Prop} {k:Nat} {F:Fr} {h:List Res}
theorem Uf (hk:Xj n ops F k=true):k<ops.size/\VC n (ZI ops k)=true/\AJ n ops (ZI ops k)=true/\KD ops F (ZI ops k)=some true:=by
 simp only [Xj,Xb] at hk
 obtain ⟨h1,h2,h3,h4⟩:=hk
 refine ⟨by simpa using h1,h2,h3,?_⟩
 split at h4
 ·assumption
 ·cases h4
theorem Q4 (hk:Xj n ops F k=true) (ho:WE P n (ZI ops k) F h fun F' h'=>SI P n ops B (k+1) F' h'):SI P n ops B k F h:=by
 obtain ⟨h1,h2,h3,h4⟩:=Uf hk
 show QX P n ops B (ops.toList.drop k) F h
 rw [Z3p h1]
 exact Zd0 h4 h3 ho
theorem Es {ks:List Nat} {x:AV} (hk:Xj n ops F k=true) (hs:XW P (ZI ops k) F h ks x) (H:SI P n ops B (k+1) (F.put (ZI ops k).dst x) h):SI P n ops B k F h:=
 Q4 hk (hs.op (Uf hk).2.1 H)
theorem LN:∀(m:Nat) {l:List Oper} {F:Fr} {hints:List Nat} {l':List Oper} {F':Fr} {es:List (Nat × Nat)},Qm P n ops h m l F hints=some (l',F',es)->l'=l.drop m
 | 0,l,F,hints,l',F',es,he=>by
  simp only [Qm,Wt,Prod.mk.injEq] at he
  simp [he.1]
 | m+1,[],F,hints,l',F',es,he=>by simp [Qm] at he
 | m+1,o::l,F,hints,l',F',es,he=>by
  simp only [Qm] at he
  split at he
  ·cases he
  ·split at he
   ·cases he
   ·simpa using LN m he
   ·split at he
    ·cases he
    ·split at he
     ·cases he
     ·rename_i hr
      simp only [Wt,Prod.mk.injEq] at he
      obtain ⟨rfl,_,_⟩:=he
      simpa using LN m hr
theorem Lw:∀{es:List (Nat × Nat)},es.map (·.1)=es.map (·.2)->∀p∈es,p.1=p.2
 | [],_,p,hp=>by simp at hp
 | e::es,h,p,hp=>by
  simp only [Td,List.cons.injEq] at h
  rcases YM.1 hp with rfl|hp
  ·exact h.1
  ·exact Lw h.2 p hp
theorem Z85 (x':AV) {x:AV} (hk:Xj n ops F k=true) (he:TZ P (ZI ops k) F h 0=some (x,[])) (hx:Zc x x') (H:SI P n ops B (k+1) (F.put (ZI ops k).dst x') h):SI P n ops B k F h:=by
 refine Es (ks:=[]) hk ?_ H
 have hs:=D9 he (by simp)
 intro n w G a hF hh
 obtain ⟨v,h1,h2⟩:=hs n w G a hF hh
 exact ⟨v,hx _ _ _ h1,by simpa using h2⟩
theorem OE (hk:Nat.ble ops.size k=true) (hB:B F h):SI P n ops B k F h:=by
 have:ops.toList.drop k=[]:=Mq (by simpa using V6 hk)
 show QX P n ops B (ops.toList.drop k) F h
 rw [this]
 exact Zcz hB
theorem OF (H:SI P n ops B 0 F h):QX P n ops B ops.toList F h:=H
theorem Z81 (F':Fr) (h':List Res) (H:SI P n ops (fun F h=>Ti F h F' h') k F h) (hB:B F' h') (hB':∀F h,Ti F h F' h'->B F' h'->B F h):SI P n ops B k F h:=by
 intro Q w G a hF hh hk
 exact H Q w G a hF hh fun F2 h2 G2 a2 w2 b1 b2 b3 b4=>hk F2 h2 G2 a2 w2 (hB' _ _ b1 hB) b2 b3 b4
theorem Z82 {c:Code} {A:WV} (F':Fr) (h':List Res) (H:SI P n ops (fun F h=>Ti F h F' h') k F h) (hB:Yy P n c A F' h'):SI P n ops (fun F h=>Yy P n c A F h) k F h:=
 Z81 F' h' H hB fun _ _ hw ha=>CN hw ha
theorem Z86 {b:Bool} (t:Nat) (hF:F.get t=.val (.bool b)) (h1:b=true->SI P n ops B k ((t,.val (.bool true))::F) h)
  (h2:b=false->SI P n ops B k ((t,.val (.bool false))::F) h):SI P n ops B k F h:=by
 cases b with
 | true=>exact GX ⟨Dc hF (Zc.refl _) (Fr.Le.refl F),[],by simp⟩ (h1 rfl)
 | false=>exact GX ⟨Dc hF (Zc.refl _) (Fr.Le.refl F),[],by simp⟩ (h2 rfl)
theorem ZV {b:Bool} {p:Prop} (h:b=true↔p) (hb:b=false):¬p:=fun q=>by have:=h.2 q;rw [hb] at this;cases this
theorem AH {α:Type} {xs:List α} {j:Nat} (h:j<xs.length):∃x,xs[j]? = some x:=⟨_,CJ h⟩
theorem Y2 {a b:Bool} {p q:Prop} (h1:a=true↔p) (h2:b=true↔q):(a&&b)=true↔p/\q:=by rw [Xb,h1,h2]
theorem ZB {a b:Bool} {p q:Prop} (h1:a=true↔p) (h2:b=true↔q):(a||b)=true↔p∨q:=by rw [Bool.or_eq_true,h1,h2]
theorem Yg {a:Bool} {p:Prop} (h1:a=true↔p):(!a)=true↔¬p:=by rw [<-h1];cases a<;>simp
def JK (ops:Array Oper) (F:Fr) (k:Nat):Option Int:=
 match (ZI ops k).op with
 | .binOp op _ x y _=>match F.ev x,F.ev y with
  | .val (.int .i64 a),.val (.int .i64 b)=>match op with
   | .add=>some (a+b)
   | .sub=>some (a-b)
   | .mul=>some (a*b)
   | _=>none
  | _,_=>none
 | _=>none
theorem SH {r s:Int} (ha:JK ops F k=some s) (hs:s=r) (hb:-9223372036854775808<=r/\r<=9223372036854775807) :
  XW P (ZI ops k) F h [] (.val (.int .i64 r)):=by
 subst hs
 unfold JK at ha
 generalize hoo:ZI ops k=o at ha
 obtain ⟨dst,op,type,pos,after,guard⟩:=o
 cases op<;>simp only at ha<;>try (cases ha)
 rename_i bop xt x y yt
 split at ha
 ·rename_i a b h1 h2
  have key:∀v,Ed bop .i64 a b=some (.int .i64 (IntKind.i64.wrap v))->v=s->XW P { dst:=dst,op:=.binOp bop xt x y yt,type:=type,pos:=pos,after:=after,guard:=guard } F h [] (.val (.int .i64 s)):=by
   intro v hv hvs
   have he:TZ P { dst:=dst,op:=.binOp bop xt x y yt,type:=type,pos:=pos,after:=after,guard:=guard } F h 0=some (.val (.int .i64 (IntKind.i64.wrap v)),[]):=by
    simp only [TZ,h1,h2,EV,hv]
   have:=D9 he (by simp)
   rw [hvs,IntWalk.i64_in s hb] at this
   simpa using this
  split at ha
  ·cases ha;exact key (a+b) rfl rfl
  ·cases ha;exact key (a-b) rfl rfl
  ·cases ha;exact key (a*b) rfl rfl
  ·cases ha
 ·cases ha
theorem Z7z (r:Int) {s:Int} (hk:Xj n ops F k=true) (ha:JK ops F k=some s) (hs:s=r) (hb:-9223372036854775808<=r/\r<=9223372036854775807)
  (H:SI P n ops B (k+1) (F.put (ZI ops k).dst (.val (.int .i64 r))) h):SI P n ops B k F h:=
 Es (ks:=[]) hk (SH ha hs hb) H
def UB:List Nat->List Res->Option (List Res × List Res)
 | [],l=>some ([],l)
 | i::is,l=>match l[i]? with
  | some r=>match UB is (l.eraseIdx i) with
   | some (a,b)=>some (r::a,b)
   | none=>none
  | none=>none
theorem Nz:∀{l:List Res} {i:Nat} {r:Res},l[i]? = some r->l.Perm (r::l.eraseIdx i)
 | [],i,r,h=>by simp at h
 | x::l,0,r,h=>by simp at h;subst h;simp
 | x::l,i+1,r,h=>by
  have:=Nz (l:=l) (i:=i) (r:=r) (by simpa using h)
  simp only [List.eraseIdx_cons_succ]
  exact (List.Perm.cons x this).trans (List.Perm.swap r x _)
theorem Uh:∀{is:List Nat} {l a b:List Res},UB is l=some (a,b)->l.Perm (a++b)
 | [],l,a,b,h=>by
  simp only [UB,Wt,Prod.mk.injEq] at h
  obtain ⟨rfl,rfl⟩:=h
  simp
 | i::is,l,a,b,h=>by
  simp only [UB] at h
  split at h
  ·rename_i r hr
   split at h
   ·rename_i a' b' hp
    simp only [Wt,Prod.mk.injEq] at h
    obtain ⟨rfl,rfl⟩:=h
    exact (Nz hr).trans (List.Perm.cons r (Uh hp))
   ·cases h
  ·cases h
theorem Zgk {F':Fr} {h' d:List Res} (is:List Nat) (hF:F.Le F') (hp:UB is h=some (h',d)):Ti F h F' h':=⟨hF,d,Uh hp⟩
def JQ (P:Program) (ops:Array Oper) (F:Fr) (k:Nat):Option (FuncId × List AV):=
 match (ZI ops k).op with
 | .call c=>match c.callee with
  | .value (.func f)=>match P.funcs[f]? with
   | some fn=>match fn.body.isSome&&!(fn.name== "runtime.NumGoroutine") with
    | true=>some (f,c.args.toList.map F.ev)
    | false=>none
   | none=>none
  | .value t=>match F.ev t with
   | .val (.func (.func f) vs caps)=>match vs.toList,P.funcs[f]? with
    | [],some fn=>match fn.body.isSome&&!(fn.name== "runtime.NumGoroutine") with
     | true=>some (f,c.args.toList.map F.ev++caps.toList.map AV.val)
     | false=>none
    | _,_=>none
   | _=>none
  | _=>none
 | _=>none
theorem Ls {K:Fr->List Res->Prop} {f:FuncId} {xs:List AV} {h1 h2:List Res} {R:AV->List Res->Prop} (hd:VC n (ZI ops k)=true) (hc:JQ P ops F k=some (f,xs))
  (hp:h.Perm (h1++h2)) (H:WU P f xs h1 R) (hK:∀r h',R r h'->K (F.put (ZI ops k).dst r) (h'++h2)):WE P n (ZI ops k) F h K:=by
 unfold JQ at hc
 generalize hoo:ZI ops k=o at hc hd hK
 obtain ⟨dst,op,type,pos,after,guard⟩:=o
 cases op<;>simp only at hc<;>try (cases hc)
 rename_i c
 obtain ⟨callee,args,tys⟩:=c
 cases callee with
 | builtin b=>cases hc
 | invoke r m=>cases hc
 | value t=>
  simp only at hc
  split at hc
  ·rename_i g hg
   cases hg
   split at hc
   ·rename_i fn hf
    split at hc
    ·rename_i hb
     simp only [Xb,Bool.not_eq_true'] at hb
     simp only [Wt,Prod.mk.injEq] at hc
     obtain ⟨rfl,rfl⟩:=hc
     exact Zb1 _ args tys rfl hf hb.1 hb.2 rfl hd hp H hK
    ·cases hc
   ·cases hc
  ·rename_i t' hnf ht'
   cases ht'
   split at hc
   ·rename_i g vs caps hv
    split at hc
    ·rename_i fn hvs hf
     split at hc
     ·rename_i hb
      simp only [Xb,Bool.not_eq_true'] at hb
      simp only [Wt,Prod.mk.injEq] at hc
      obtain ⟨rfl,rfl⟩:=hc
      have:vs=#[]:=by rw [<-UH (xs:=vs),hvs]
      subst this
      exact Zb2 t args tys rfl hv hf hb.1 hb.2 rfl hd hp H hK
     ·cases hc
    ·cases hc
   ·cases hc
  ·cases hc
theorem Z80 (f:FuncId) (xs:List AV) (is:List Nat) {h1 h2:List Res} {R:AV->List Res->Prop} (hk:Xj n ops F k=true) (hc:JQ P ops F k=some (f,xs))
  (hp:UB is h=some (h1,h2)) (H:WU P f xs h1 R) (hK:∀r h',R r h'->SI P n ops B (k+1) (F.put (ZI ops k).dst r) (h'++h2)):SI P n ops B k F h:=
 Q4 hk (Ls (Uf hk).2.1 hc (Uh hp) H hK)
def Bp (P:Program) (ops:Array Oper) (F:Fr) (k:Nat):Option (AV × Int × Nat):=
 match (ZI ops k).op with
 | .indexAddr t x ix=>match P.underlying t with
  | some (.slice e)=>match P.info? e with
   | some i=>match F.ev ix with
    | .val (.int _ j)=>some (F.ev x,j,i.size)
    | _=>none
   | none=>none
  | _=>none
 | _=>none
theorem DL {es:List AV} {hv:Option Value} {j:Int} {sz:Nat} {y:AV} (hi:Bp P ops F k=some (.sl es hv,j,sz)) (h0:0<=j) (hget:es[j.toNat]? = some y)
  (hy:y.leaves.length=sz):XW P (ZI ops k) F h [] (.rp y.leaves):=by
 unfold Bp at hi
 generalize hoo:ZI ops k=o at hi
 obtain ⟨dst,op,type,pos,after,guard⟩:=o
 cases op<;>simp only at hi<;>try (cases hi)
 rename_i t x ix
 split at hi
 ·rename_i e ht
  split at hi
  ·rename_i i hinfo
   split at hi
   ·rename_i ik j' hix
    simp only [Wt,Prod.mk.injEq] at hi
    obtain ⟨h1,rfl,rfl⟩:=hi
    exact Zf5 t x ix rfl ht hinfo rfl h1 hix h0 hget hy
   ·cases hi
  ·cases hi
 ·cases hi
theorem SJ {b off len cap:Nat} {j:Int} {sz:Nat} (hi:Bp P ops F k=some (.val (.slice (some ⟨b,off,none⟩) len cap),j,sz)) (h0:0<=j) (hlt:j<len) :
  XW P (ZI ops k) F h [] (.val (.pointer (some ⟨b,off+j.toNat * sz,none⟩))):=by
 unfold Bp at hi
 generalize hoo:ZI ops k=o at hi
 obtain ⟨dst,op,type,pos,after,guard⟩:=o
 cases op<;>simp only at hi<;>try (cases hi)
 rename_i t x ix
 split at hi
 ·rename_i e ht
  split at hi
  ·rename_i i hinfo
   split at hi
   ·rename_i ik j' hix
    simp only [Wt,Prod.mk.injEq] at hi
    obtain ⟨h1,rfl,rfl⟩:=hi
    exact Zf6 t x ix rfl ht hinfo rfl h1 hix h0 hlt
   ·cases hi
  ·cases hi
 ·cases hi
def LX (P:Program) (ops:Array Oper) (F:Fr) (k:Nat) (len:Int):Option (AV × Int × Int × Nat):=
 match (ZI ops k).op with
 | .slice t x lo hi none=>match P.underlying t with
  | some (.slice e)=>match P.info? e with
   | some i=>match Bw F lo 0,Bw F hi len with
    | some l,some m=>some (F.ev x,l,m,i.size)
    | _,_=>none
   | none=>none
  | _=>none
 | _=>none
theorem Zfc {es:List AV} {hv:Option Value} {l m:Int} {sz:Nat} (hi:LX P ops F k es.length=some (.sl es hv,l,m,sz)) (h0:0<=l) (h1:l<=m) (h2:m<=es.length)
  (hes:∀y∈es,y.leaves.length=sz):XW P (ZI ops k) F h [] (.sl ((es.take m.toNat).drop l.toNat) none):=by
 unfold LX at hi
 generalize hoo:ZI ops k=o at hi
 obtain ⟨dst,op,type,pos,after,guard⟩:=o
 cases op<;>simp only at hi<;>try (cases hi)
 rename_i t x lo hi' mx
 cases mx with
 | some _=>simp at hi
 | none=>
  simp only at hi
  split at hi
  ·rename_i e ht
   split at hi
   ·rename_i i hinfo
    split at hi
    ·rename_i l' m' hl hm
     simp only [Wt,Prod.mk.injEq] at hi
     obtain ⟨hx,rfl,rfl,rfl⟩:=hi
     exact Zfb t x lo hi' rfl ht hinfo rfl hx hl hm h0 h1 h2 hes
    ·cases hi
   ·cases hi
  ·cases hi
theorem AY {es es':List AV} {hv:Option Value} {l m:Int} {sz:Nat} (hi:LX P ops F k es.length=some (.sl es hv,l,m,sz)) (h0:0<=l) (h1:l<=m) (h2:m<=es.length)
  (hes:∀y∈es,y.leaves.length=sz) (he:(es.take m.toNat).drop l.toNat=es'):XW P (ZI ops k) F h [] (.sl es' none):=he▸Zfc hi h0 h1 h2 hes
def TH (P:Program) (ops:Array Oper) (F:Fr) (k:Nat):Option (AV × AV × Nat):=
 match (ZI ops k).op with
 | .call c=>match c.callee,c.args.toList,c.argTypes.toList with
  | .builtin .append,[s,x],[t,t']=>match Nat.beq t t',P.underlying t with
   | true,some (.slice e)=>match P.info? e with
    | some i=>match i.zero with
     | some z=>match Nat.beq z.cells.size i.size&&Nat.ble i.bytes 32768 with
      | true=>some (F.ev s,F.ev x,i.size)
      | false=>none
     | none=>none
    | none=>none
   | _,_=>none
  | _,_,_=>none
 | _=>none
theorem PF {K:Fr->List Res->Prop} {es xs:List AV} {hv:Value} {hx:Option Value} {sz:Nat} {h1 h2:List Res} (hd:VC n (ZI ops k)=true)
  (ha:TH P ops F k=some (.sl es (some hv),.sl xs hx,sz)) (hes:∀y∈es,y.leaves.length=sz) (hxs:∀y∈xs,y.leaves.length=sz) (hone:(Zg xs).all AV.one=true)
  (hbound:es.length+xs.length<=4294967296)
  (hK:∀v',(v'.ownBlock=hv.ownBlock∨∃b,v'.ownBlock=some b/\B8 (h1++.tail hv sz::h2) b)->K (F.put (ZI ops k).dst (.sl (es++xs) (some v'))) (h1++.tail v' sz::h2)) :
  WE P n (ZI ops k) F (h1++.tail hv sz::h2) K:=by
 unfold TH at ha
 generalize hoo:ZI ops k=o at ha hd hK
 obtain ⟨dst,op,type,pos,after,guard⟩:=o
 cases op<;>simp only at ha<;>try (cases ha)
 rename_i c
 obtain ⟨callee,args,tys⟩:=c
 simp only at ha
 split at ha
 ·rename_i s x t t' hargs htys
  split at ha
  ·rename_i e htt ht
   have:=UT htt
   subst this
   split at ha
   ·rename_i i hinfo
    split at ha
    ·rename_i z hz
     split at ha
     ·rename_i hb
      simp only [Xb] at hb
      simp only [Wt,Prod.mk.injEq] at ha
      obtain ⟨h3,h4,rfl⟩:=ha
      have e1:args=#[s,x]:=by rw [<-UH (xs:=args),hargs]
      have e2:tys=#[t,t]:=by rw [<-UH (xs:=tys),htys]
      subst e1;subst e2
      exact Zaz s x t rfl ht hinfo rfl (by rw [hz];simp [UT hb.1]) hb.2 h3 h4 hd hes hxs hone hbound hK
     ·cases ha
    ·cases ha
   ·cases ha
  ·cases ha
 ·cases ha
theorem WE.perm {K:Fr->List Res->Prop} {o:Oper} {h':List Res} (hp:h.Perm h') (H:WE P n o F h' K):WE P n o F h K:=by
 intro Q w G a hF hh
 refine Oper.wp_mono ?_ (H Q w G a hF (hh.perm hp))
 intro a' w' ⟨F',h2,G',b1,b2,b3,b4⟩
 exact ⟨F',h2,G',b1,b2,b3,b4.perm hp.symm (TB _)⟩
theorem Z7y (j:Nat) (es':List AV) {es xs:List AV} {hv:Value} {hx:Option Value} {sz:Nat} {h2:List Res} (hk:Xj n ops F k=true)
  (ha:TH P ops F k=some (.sl es (some hv),.sl xs hx,sz)) (hp:UB [j] h=some ([.tail hv sz],h2)) (hes:∀y∈es,y.leaves.length=sz) (hxs:∀y∈xs,y.leaves.length=sz)
  (hone:(Zg xs).all AV.one=true) (hbound:es.length+xs.length<=4294967296) (he:es++xs=es')
  (hK:∀v',SI P n ops B (k+1) (F.put (ZI ops k).dst (.sl es' (some v'))) (.tail v' sz::h2)):SI P n ops B k F h:=
 Q4 hk (WE.perm (Uh hp) (PF (h1:=[]) (Uf hk).2.1 ha hes hxs hone hbound fun v' _=>by rw [he];exact hK v'))
theorem Mc {w:World} {G:Yk} {sz:Nat} (hh:YI w G h):YI w G (.tail (.slice none 0 0) sz::h)/\X3 w G h w G (.tail (.slice none 0 0) sz::h):=
 ⟨⟨fun r hr=>by
   rcases YM.1 hr with rfl|hr
   ·exact .inl rfl
   ·exact hh.ok r hr,Va.2 ⟨fun _ _ _ _ hf=>hf.elim,hh.apart⟩,fun r hr b o hf hg=>by
   rcases YM.1 hr with rfl|hr
   ·exact hf.elim
   ·exact hh.prot r hr b o hf hg,hh.lt⟩,
  ⟨rfl,rfl,rfl,X9 _,fun _ _ h=>h,fun _ _=>.inl rfl,fun _ _ _ h=>.inl h,fun b o _ ⟨r,hr,hf⟩=>by
   rcases YM.1 hr with rfl|hr
   ·exact hf.elim
   ·exact ⟨r,hr,hf⟩⟩⟩
theorem HG {c:Code} {A:WV} (sz:Nat) (H:Yy P n c A F (.tail (.slice none 0 0) sz::h)):Yy P n c A F h:=by
 intro w G a hF hh
 obtain ⟨h1,h2⟩:=Mc (sz:=sz) hh
 exact wp_mono (H w G a hF h1) fun e a' w' hc=>hc.trans h2
end
section
variable {P:Program} {n:Nat} {ops:Array Oper} {B:Fr->List Res->Prop} {k:Nat} {F:Fr} {h:List Res}
def CO (P:Program) (ops:Array Oper) (F:Fr) (k:Nat):Option (List AV):=
 match (ZI ops k).op with
 | .alloc t=>DT P t
 | .box _ x=>match (F.ev x).fit with
  | true=>some (F.ev x).leaves
  | false=>none
 | _=>none
theorem PE {K:Fr->List Res->Prop} {ls:List AV} (hd:VC n (ZI ops k)=true) (ha:CO P ops F k=some ls)
  (hK:∀b,B8 h b->K (F.put (ZI ops k).dst (.val (.pointer (some ⟨b,0,none⟩)))) (.obj b ls::h)):WE P n (ZI ops k) F h K:=by
 unfold CO at ha
 generalize hoo:ZI ops k=o at ha hd hK
 obtain ⟨dst,op,type,pos,after,guard⟩:=o
 cases op<;>simp only at ha<;>try (cases ha)
 case alloc t=>exact Zay t rfl ha hd hK
 case box t x=>
  split at ha
  ·rename_i hf
   cases ha
   exact Zb0 t x rfl rfl hf hd hK
  ·cases ha
def storeAt (P:Program) (ops:Array Oper) (F:Fr) (k:Nat):Option (Nat × Nat × List AV):=
 match (ZI ops k).op with
 | .store t x y=>match F.ev x,(ZI ops k).dst,P.info? t with
  | .val (.pointer (some ⟨b,o,none⟩)),none,some i=>match Nat.beq i.size (F.ev y).leaves.length&&((F.ev y).fit&&(F.ev y).leaves.all AV.one) with
   | true=>some (b,o,(F.ev y).leaves)
   | false=>none
  | _,_,_=>none
 | _=>none
theorem PM {K:Fr->List Res->Prop} {b o:Nat} {xs ls:List AV} {h2:List Res} (hs:storeAt P ops F k=some (b,o,xs)) (hle:Nat.ble (o+xs.length) ls.length=true)
  (hK:K F (.obj b (ls.take o++xs++ls.drop (o+xs.length))::h2)):WE P n (ZI ops k) F (.obj b ls::h2) K:=by
 unfold storeAt at hs
 generalize hoo:ZI ops k=q at hs
 obtain ⟨dst,op,type,pos,after,guard⟩:=q
 cases op<;>simp only at hs<;>try (cases hs)
 rename_i t x y
 split at hs
 ·rename_i b' o' i hx hi
  split at hs
  ·rename_i hc
   simp only [Xb] at hc
   simp only [Wt,Prod.mk.injEq] at hs
   obtain ⟨rfl,rfl,rfl⟩:=hs
   exact Zb8 (h1:=[]) t x y rfl rfl hx rfl (by simp only [Xb];exact hc.2) (by rw [hi];simp [UT hc.1]) hle hK
  ·cases hs
 ·cases hs
def To (P:Program) (ops:Array Oper) (F:Fr) (k:Nat):Option (List AV × Nat × Nat):=
 match (ZI ops k).op with
 | .buildSlice t len parts=>match P.underlying t with
  | some (.slice e)=>match P.info? e with
   | some i=>match i.zero.isSome&&Nat.ble (len*i.size) (2 ^ 24) with
    | true=>match AF (fun j=>some (j*i.size,i.size)) (List.replicate (len*i.size) .any) (parts.toList.map fun p=>(p.1,F.ev p.2)) with
     | some ls=>some (ls,len,i.size)
     | none=>none
    | false=>none
   | none=>none
  | _=>none
 | _=>none
theorem PH {K:Fr->List Res->Prop} {es:List AV} {len sz:Nat} (hd:VC n (ZI ops k)=true) (ha:To P ops F k=some (Zg es,len,sz)) (hlen:es.length=len) (hall:Aq es sz=true)
  (hK:∀b,B8 h b->K (F.put (ZI ops k).dst (.sl es (some (.slice (some ⟨b,0,none⟩) len len)))) (.tail (.slice (some ⟨b,0,none⟩) len len) sz::h)):WE P n (ZI ops k) F h K:=by
 unfold To at ha
 generalize hoo:ZI ops k=q at ha hd hK
 obtain ⟨dst,op,type,pos,after,guard⟩:=q
 cases op<;>simp only at ha<;>try (cases ha)
 rename_i t ln parts
 split at ha
 ·rename_i e ht
  split at ha
  ·rename_i i hi
   split at ha
   ·rename_i hc
    simp only [Xb] at hc
    split at ha
    ·rename_i ls hf
     simp only [Wt,Prod.mk.injEq] at ha
     obtain ⟨rfl,rfl,rfl⟩:=ha
     exact Zb3 t _ parts rfl ht hi rfl hc.1 hc.2 hf hlen hall hd hK
    ·cases ha
   ·cases ha
  ·cases ha
 ·cases ha
theorem Z7x (ls:List AV) (hk:Xj n ops F k=true) (ha:CO P ops F k=some ls)
  (hK:∀b,SI P n ops B (k+1) (F.put (ZI ops k).dst (.val (.pointer (some ⟨b,0,none⟩)))) (.obj b ls::h)):SI P n ops B k F h:=
 Q4 hk (PE (Uf hk).2.1 ha fun b _=>hK b)
theorem Z87 (j:Nat) {b o:Nat} {xs ls:List AV} {h2:List Res} (ls':List AV) (hk:Xj n ops F k=true) (hs:storeAt P ops F k=some (b,o,xs)) (hp:UB [j] h=some ([.obj b ls],h2))
  (hle:Nat.ble (o+xs.length) ls.length=true) (he:ls.take o++xs++ls.drop (o+xs.length)=ls') (H:SI P n ops B (k+1) F (.obj b ls'::h2)):SI P n ops B k F h:=
 Q4 hk (WE.perm (Uh hp) (PM hs hle (by rw [he];exact H)))
theorem Z83 (es:List AV) {len sz:Nat} (hk:Xj n ops F k=true) (ha:To P ops F k=some (Zg es,len,sz)) (hlen:es.length=len) (hall:Aq es sz=true)
  (hK:∀v,SI P n ops B (k+1) (F.put (ZI ops k).dst (.sl es (some v))) (.tail v sz::h)):SI P n ops B k F h:=
 Q4 hk (PH (Uf hk).2.1 ha hlen hall fun _ _=>hK _)
variable {T:List (Nat × List Nat)} {fuel fuel':Nat} {done:List Nat}
def EG (P:Program) (n:Nat) (ops:Array Oper) (h:List Res) (is done:List Nat) (F:Fr) (hints:List Nat):List (Nat × List Nat):=
 match KO P n ops h is done F hints with
 | some (_,es)=>EH es
 | none=>[]
theorem PS:∀{es:List (Nat × List (Nat × Nat))},es.flatMap (fun e=>e.2.map (·.1))=es.flatMap (fun e=>e.2.map (·.2))->∀e∈es,∀p∈e.2,p.1=p.2
 | [],_,e,he=>by simp at he
 | x::es,hq,e,he=>by
  simp only [B3] at hq
  have h1:=List.append_inj hq (by simp)
  rcases YM.1 he with rfl|he
  ·exact Lw h1.1
  ·exact PS h1.2 e he
def Ue (ops:Array Oper) (i:Nat) (T:List (Nat × List Nat)):List Nat:=(T.filter fun t=>!V8 ops i t.1).flatMap (·.2)
theorem Zat {i:Nat} {h2:List Res} (js bs:List Nat) (h1:Ue ops i T=bs) (h3:js.map (fun j=>(WM h2)[j]?)=bs.map some) :
  ∀t∈T,V8 ops i t.1=true∨∀b∈t.2,b∈WM h2:=by
 have hall:∀(js bs:List Nat),js.map (fun j=>(WM h2)[j]?)=bs.map some->∀b∈bs,b∈WM h2:=by
  intro js
  induction js with
  | nil=>intro bs hb b hm;cases bs with
   | nil=>simp at hm
   | cons _ _=>simp at hb
  | cons j js ih=>intro bs hb b hm;cases bs with
   | nil=>simp at hm
   | cons c bs=>
    simp only [Td,List.cons.injEq] at hb
    rcases YM.1 hm with rfl|hm
    ·exact Y4 hb.1
    ·exact ih bs hb.2 b hm
 intro t ht
 cases hq:V8 ops i t.1 with
 | true=>exact .inl rfl
 | false=>
  refine .inr fun b hb=>hall js bs h3 b ?_
  rw [<-h1]
  exact List.mem_flatMap.2 ⟨t,List.mem_filter.2 ⟨ht,by simp [hq]⟩,hb⟩
theorem PC {i:Nat} (hi:i<ops.size):ops[i]? = some (ZI ops i):=by
 simp [ZI,List.getD,hi]
theorem J9 {i:Nat} (is js bs:List Nat) {h1 h2:List Res} (hk:Xj n ops F i=true) (hp:UB is h=some (h1,h2)) (ho:Ue ops i T=bs) (hj:js.map (fun j=>(WM h2)[j]?)=bs.map some)
  (H:WE P n (ZI ops i) F h1 fun F' h1'=>X5 P n ops B (T.filter fun t=>!V8 ops i t.1) fuel (done++[i]) F' (h1'++h2)):Vc P n ops B T fuel done F h i:=by
 obtain ⟨q1,_,q3,q4⟩:=Uf hk
 exact ⟨_,h1,h2,PC q1,q4,q3,Uh hp,Zat js bs ho hj,H⟩
theorem Z38 (i:Nat) (f:FuncId) (xs:List AV) (is js bs:List Nat) {h1 h2:List Res} {R:AV->List Res->Prop} (hk:Xj n ops F i=true) (hc:JQ P ops F i=some (f,xs))
  (hp:UB is h=some (h1,h2)) (ho:Ue ops i T=bs) (hj:js.map (fun j=>(WM h2)[j]?)=bs.map some) (H:WU P f xs h1 R)
  (hK:∀r h',R r h'->X5 P n ops B (T.filter fun t=>!V8 ops i t.1) fuel (done++[i]) (F.put (ZI ops i).dst r) (h'++h2)):Vc P n ops B T fuel done F h i:=
 J9 is js bs hk hp ho hj (Ls (h2:=[]) (Uf hk).2.1 hc (by simp) H fun r h' hr=>by simpa using hK r h' hr)
theorem Z35 (i:Nat) (js bs:List Nat) (ls:List AV) (hk:Xj n ops F i=true) (ha:CO P ops F i=some ls) (ho:Ue ops i T=bs) (hj:js.map (fun j=>(WM h)[j]?)=bs.map some)
  (hK:∀b,X5 P n ops B (T.filter fun t=>!V8 ops i t.1) fuel (done++[i]) (F.put (ZI ops i).dst (.val (.pointer (some ⟨b,0,none⟩)))) (.obj b ls::h)):Vc P n ops B T fuel done F h i:=
 J9 (h1:=[]) (h2:=h) [] js bs hk rfl ho hj (PE (Uf hk).2.1 ha fun b _=>hK b)
theorem Z3c (i:Nat) (js bs:List Nat) (es:List AV) {len sz:Nat} (hk:Xj n ops F i=true) (ha:To P ops F i=some (Zg es,len,sz)) (hlen:es.length=len) (hall:Aq es sz=true)
  (ho:Ue ops i T=bs) (hj:js.map (fun j=>(WM h)[j]?)=bs.map some)
  (hK:∀v,X5 P n ops B (T.filter fun t=>!V8 ops i t.1) fuel (done++[i]) (F.put (ZI ops i).dst (.sl es (some v))) (.tail v sz::h)):Vc P n ops B T fuel done F h i:=
 J9 (h1:=[]) (h2:=h) [] js bs hk rfl ho hj (PH (Uf hk).2.1 ha hlen hall fun _ _=>hK _)
theorem Z36 (i j:Nat) (js bs:List Nat) (es':List AV) {es xs:List AV} {hv:Value} {hx:Option Value} {sz:Nat} {h2:List Res} (hk:Xj n ops F i=true)
  (ha:TH P ops F i=some (.sl es (some hv),.sl xs hx,sz)) (hp:UB [j] h=some ([.tail hv sz],h2)) (hes:∀y∈es,y.leaves.length=sz) (hxs:∀y∈xs,y.leaves.length=sz)
  (hone:(Zg xs).all AV.one=true) (hbound:es.length+xs.length<=4294967296) (he:es++xs=es') (ho:Ue ops i T=bs) (hj:js.map (fun j=>(WM h2)[j]?)=bs.map some)
  (hK:∀v',X5 P n ops B (T.filter fun t=>!V8 ops i t.1) fuel (done++[i]) (F.put (ZI ops i).dst (.sl es' (some v'))) (.tail v' sz::h2)):Vc P n ops B T fuel done F h i:=
 J9 [j] js bs hk hp ho hj (PF (h1:=[]) (h2:=[]) (Uf hk).2.1 ha hes hxs hone hbound fun v' _=>by rw [he];exact hK v')
theorem Z3g (i j:Nat) (js bs:List Nat) {b o:Nat} {xs ls:List AV} {h2:List Res} (ls':List AV) (hk:Xj n ops F i=true) (hs:storeAt P ops F i=some (b,o,xs))
  (hp:UB [j] h=some ([.obj b ls],h2)) (hle:Nat.ble (o+xs.length) ls.length=true) (he:ls.take o++xs++ls.drop (o+xs.length)=ls') (ho:Ue ops i T=bs)
  (hj:js.map (fun j=>(WM h2)[j]?)=bs.map some) (H:X5 P n ops B (T.filter fun t=>!V8 ops i t.1) fuel (done++[i]) F (.obj b ls'::h2)):Vc P n ops B T fuel done F h i:=
 J9 [j] js bs hk hp ho hj (PM (h2:=[]) hs hle (by rw [he];exact H))
theorem FC (i:Nat) {ks:List Nat} {x:AV} (hs:Region.noSelect ops=true) (hk:Xj n ops F i=true)
  (hf:Region.free .any ops (WG ops done) i=true) (hr:(Region.ready .any ops (WG ops done)).contains i=true) (hx:XW P (ZI ops i) F h ks x)
  (H:X5 P n ops B ((i,ks)::T) fuel (done++[i]) (F.put (ZI ops i).dst x) h):X5 P n ops B T (fuel+1) done F h:=by
 obtain ⟨q1,q2,q3,q4⟩:=Uf hk
 exact I0 hs (PC q1) q2 q3 hf hr (.inr ⟨q4,hx⟩) H
theorem Z3d (i:Nat) (x':AV) {x:AV} (hs:Region.noSelect ops=true) (hk:Xj n ops F i=true)
  (hf:Region.free .any ops (WG ops done) i=true) (hr:(Region.ready .any ops (WG ops done)).contains i=true) (he:TZ P (ZI ops i) F h 0=some (x,[])) (hx:Zc x x')
  (H:X5 P n ops B ((i,[])::T) fuel (done++[i]) (F.put (ZI ops i).dst x') h):X5 P n ops B T (fuel+1) done F h:=by
 refine FC i (ks:=[]) hs hk hf hr ?_ H
 have hst:=D9 he (by simp)
 intro n w G a hF hh
 obtain ⟨v,h1,h2⟩:=hst n w G a hF hh
 exact ⟨v,hx _ _ _ h1,by simpa using h2⟩
theorem Z37 (i:Nat) (r:Int) {s:Int} (hns:Region.noSelect ops=true) (hk:Xj n ops F i=true)
  (hf:Region.free .any ops (WG ops done) i=true) (hr:(Region.ready .any ops (WG ops done)).contains i=true) (ha:JK ops F i=some s) (hs:s=r)
  (hb:-9223372036854775808<=r/\r<=9223372036854775807)
  (H:X5 P n ops B ((i,[])::T) fuel (done++[i]) (F.put (ZI ops i).dst (.val (.int .i64 r))) h):X5 P n ops B T (fuel+1) done F h:=
 FC i (ks:=[]) hns hk hf hr (SH ha hs hb) H
theorem Z3f {b:Bool} (t:Nat) (hF:F.get t=.val (.bool b)) (h1:b=true->X5 P n ops B T fuel done ((t,.val (.bool true))::F) h)
  (h2:b=false->X5 P n ops B T fuel done ((t,.val (.bool false))::F) h):X5 P n ops B T fuel done F h:=by
 cases b with
 | true=>exact I1 (Dc hF (Zc.refl _) (Fr.Le.refl F)) (h1 rfl)
 | false=>exact I1 (Dc hF (Zc.refl _) (Fr.Le.refl F)) (h2 rfl)
theorem Z3a {c:Code} {A:WV} (F':Fr) (h':List Res) (H:X5 P n ops (fun F h=>Ti F h F' h') T fuel done F h) (hB:Yy P n c A F' h'):X5 P n ops (fun F h=>Yy P n c A F h) T fuel done F h:=by
 intro Q w G a SL hF hh hQ hcl hcov hk
 exact H Q w G a SL hF hh hQ hcl hcov fun F2 h2 G2 a2 w2 b1 b2 b3 b4=>hk F2 h2 G2 a2 w2 (CN b1 hB) b2 b3 b4
end
end Go.Abs
section
namespace Go.Abs
structure Yp where
 fields:LI
structure Ze where
 frm:Int
 to_:Int
 cons:List Yp
mutual
inductive Z5 where
 | mk (op num into:Int) (args:LI) (kids:List Z7)
inductive Z7 where
 | mk (steps:List Z5) (result:Int)
end
namespace Z5
def op:Z5->Int|.mk a _ _ _ _=>a
def num:Z5->Int|.mk _ a _ _ _=>a
def into:Z5->Int|.mk _ _ a _ _=>a
def args:Z5->LI|.mk _ _ _ a _=>a
def kids:Z5->List Z7|.mk _ _ _ _ a=>a
end Z5
namespace Z7
def steps:Z7->List Z5|.mk a _=>a
def result:Z7->Int|.mk _ a=>a
end Z7
structure YA where
 params:LI
 lent:LI
 result:Int
 body:Z7
structure ZF where
 decls:List Ze
 routines:List YA
def Z6 (xs:LI):List AV:=xs.map AV.i
def Vf (xs:List LI):List AV:=xs.map fun l=>.sl (Z6 l) none
abbrev CM (c:Yp):AV:=.agg [.sl (Z6 c.fields) none]
def Wo (cs:List Yp):List AV:=cs.map CM
abbrev DY (d:Ze):AV:=.agg [.i d.frm,.i d.to_,.sl (Wo d.cons) none]
def YU (ds:List Ze):List AV:=ds.map DY
mutual
def Ig:Z5->AV
 | .mk op num into args kids=>.agg [.i op,.i num,.i into,.sl (Z6 args) none,.sl (XP kids) none]
def I4:Z7->AV
 | .mk steps result=>.agg [.sl (ZT steps) none,.i result]
def ZT:List Z5->List AV
 | []=>[]
 | s::ss=>Ig s::ZT ss
def XP:List Z7->List AV
 | []=>[]
 | b::bs=>I4 b::XP bs
end
abbrev X4 (s:Z5):AV:=.agg [.i s.op,.i s.num,.i s.into,.sl (Z6 s.args) none,.sl (XP s.kids) none]
abbrev Yn (b:Z7):AV:=.agg [.sl (ZT b.steps) none,.i b.result]
abbrev JI (r:YA):AV:=.agg [.sl (Z6 r.params) none,.sl (Z6 r.lent) none,.i r.result,.sl (ZT r.body.steps) none,.i r.body.result]
def X8 (rs:List YA):List AV:=rs.map JI
abbrev YD (n:ZF):AV:=.agg [.sl (YU n.decls) none,.sl (X8 n.routines) none]
theorem Z43 (s:Z5):Ig s=X4 s:=by cases s;rw [Ig];rfl
theorem Z3s (b:Z7):I4 b=Yn b:=by cases b;rw [I4];rfl
theorem VV:∀xs:List Z5,ZT xs=xs.map X4
 | []=>by rw [ZT];rfl
 | s::ss=>by rw [ZT,VV ss,Z43];rfl
theorem QC:∀xs:List Z7,XP xs=xs.map Yn
 | []=>by rw [XP];rfl
 | b::bs=>by rw [XP,QC bs,Z3s];rfl
section
theorem Y7 {xs:LI} {j:Nat} {x:Int} (h:xs[j]? = some x):(Z6 xs)[j]? = some (.i x):=by simp [Z6,h]
theorem Z3z {xs:List LI} {j:Nat} {x:LI} (h:xs[j]? = some x):(Vf xs)[j]? = some (.sl (Z6 x) none):=by simp [Vf,h]
theorem Ca {xs:List Yp} {j:Nat} {x:Yp} (h:xs[j]? = some x):(Wo xs)[j]? = some (CM x):=by simp [Wo,h]
theorem Vw {xs:List Ze} {j:Nat} {x:Ze} (h:xs[j]? = some x):(YU xs)[j]? = some (DY x):=by simp [YU,h]
theorem V2 {xs:List Z5} {j:Nat} {x:Z5} (h:xs[j]? = some x):(ZT xs)[j]? = some (X4 x):=by simp [VV,h]
theorem UK {xs:List Z7} {j:Nat} {x:Z7} (h:xs[j]? = some x):(XP xs)[j]? = some (Yn x):=by simp [QC,h]
theorem VD {xs:List YA} {j:Nat} {x:YA} (h:xs[j]? = some x):(X8 xs)[j]? = some (JI x):=by simp [X8,h]
@[simp] theorem Yc (xs:LI):(Z6 xs).length=xs.length:=by simp [Z6]
@[simp] theorem Zgt (xs:List LI):(Vf xs).length=xs.length:=by simp [Vf]
@[simp] theorem UY (xs:List Yp):(Wo xs).length=xs.length:=by simp [Wo]
@[simp] theorem Us (xs:List Ze):(YU xs).length=xs.length:=by simp [YU]
@[simp] theorem Ut (xs:List Z5):(ZT xs).length=xs.length:=by simp [VV]
@[simp] theorem K3 (xs:List Z7):(XP xs).length=xs.length:=by simp [QC]
@[simp] theorem TJ (xs:List YA):(X8 xs).length=xs.length:=by simp [X8]
theorem W6 (xs ys:LI):Z6 (xs++ys)=Z6 xs++Z6 ys:=by simp [Z6]
theorem Ic (xs ys:List LI):Vf (xs++ys)=Vf xs++Vf ys:=by simp [Vf]
theorem Z3u (xs ys:List Ze):YU (xs++ys)=YU xs++YU ys:=by simp [YU]
theorem Vo (xs ys:List Z5):ZT (xs++ys)=ZT xs++ZT ys:=by simp [VV]
theorem C8 (xs ys:List Z7):XP (xs++ys)=XP xs++XP ys:=by simp [QC]
theorem D6 (xs ys:List YA):X8 (xs++ys)=X8 xs++X8 ys:=by simp [X8]
theorem Cc (xs:LI) (n:Nat):(Z6 xs).take n=Z6 (xs.take n):=by simp [Z6]
theorem D4 (xs:LI) (n:Nat):(Z6 xs).drop n=Z6 (xs.drop n):=by simp [Z6]
theorem I9 (xs:List Yp) (n:Nat):(Wo xs).take n=Wo (xs.take n):=by simp [Wo]
theorem I8 (xs:List Yp) (n:Nat):(Wo xs).drop n=Wo (xs.drop n):=by simp [Wo]
theorem CZ (xs:List Ze) (n:Nat):(YU xs).take n=YU (xs.take n):=by simp [YU]
theorem CY (xs:List Ze) (n:Nat):(YU xs).drop n=YU (xs.drop n):=by simp [YU]
theorem AA (xs:List Z5) (n:Nat):(ZT xs).take n=ZT (xs.take n):=by simp [VV]
theorem Az (xs:List Z5) (n:Nat):(ZT xs).drop n=ZT (xs.drop n):=by simp [VV]
theorem YE (xs:LI):∀y∈Z6 xs,y.leaves.length=1:=by intro y hy;simp only [Z6,XN] at hy;obtain ⟨x,_,rfl⟩:=hy;rfl
theorem D5 (xs:List LI):∀y∈Vf xs,y.leaves.length=1:=by intro y hy;simp only [Vf,XN] at hy;obtain ⟨x,_,rfl⟩:=hy;rfl
theorem E7 (xs:List Yp):∀y∈Wo xs,y.leaves.length=1:=by intro y hy;simp only [Wo,XN] at hy;obtain ⟨x,_,rfl⟩:=hy;rfl
theorem K4 (xs:List Ze):∀y∈YU xs,y.leaves.length=3:=by intro y hy;simp only [YU,XN] at hy;obtain ⟨x,_,rfl⟩:=hy;rfl
theorem XE (xs:List Z5):∀y∈ZT xs,y.leaves.length=5:=by intro y hy;simp only [VV,XN] at hy;obtain ⟨x,_,rfl⟩:=hy;rfl
theorem Kx (xs:List Z7):∀y∈XP xs,y.leaves.length=2:=by intro y hy;simp only [QC,XN] at hy;obtain ⟨x,_,rfl⟩:=hy;rfl
theorem T0 (xs:List YA):∀y∈X8 xs,y.leaves.length=5:=by intro y hy;simp only [X8,XN] at hy;obtain ⟨x,_,rfl⟩:=hy;rfl
theorem KC {es:List AV} (h:∀y∈es,y.leaves.all AV.one=true):(Zg es).all AV.one=true:=by
 simp only [Zg,List.all_flatMap,Af]
 intro y hy
 exact Af.1 (h y hy)
theorem W2 (xs:LI):(Zg (Z6 xs)).all AV.one=true:=KC fun y hy=>by simp only [Z6,XN] at hy;obtain ⟨x,_,rfl⟩:=hy;rfl
theorem Ie (xs:List LI):(Zg (Vf xs)).all AV.one=true:=KC fun y hy=>by simp only [Vf,XN] at hy;obtain ⟨x,_,rfl⟩:=hy;rfl
theorem Nl (xs:List Yp):(Zg (Wo xs)).all AV.one=true:=KC fun y hy=>by simp only [Wo,XN] at hy;obtain ⟨x,_,rfl⟩:=hy;rfl
theorem E8 (xs:List Ze):(Zg (YU xs)).all AV.one=true:=KC fun y hy=>by simp only [YU,XN] at hy;obtain ⟨x,_,rfl⟩:=hy;rfl
theorem Ua (xs:List Z5):(Zg (ZT xs)).all AV.one=true:=KC fun y hy=>by simp only [VV,XN] at hy;obtain ⟨x,_,rfl⟩:=hy;rfl
theorem FE (xs:List Z7):(Zg (XP xs)).all AV.one=true:=KC fun y hy=>by simp only [QC,XN] at hy;obtain ⟨x,_,rfl⟩:=hy;rfl
theorem Bh (xs:List YA):(Zg (X8 xs)).all AV.one=true:=KC fun y hy=>by simp only [X8,XN] at hy;obtain ⟨x,_,rfl⟩:=hy;rfl
end
end Go.Abs
end
namespace Go.Abs
def Qr (v:Value):Nat:=v.ownBlock.getD 0
def Ae (v:Value) (m:Nat):Value:=
 match v with
 | .slice a _ cap=>.slice a m cap
 | v=>v
theorem S7 {α:Type} (l:List α) (n:Nat) (x:α) (h:n<l.length):l.take n++[x]++l.drop (n+1)=l.set n x:=by
 rw [Ht,Zl h];simp
theorem YI.vwrite {w:World} {G:Yk} {h2:List Res} {g cap n':Nat} {ls ls':List AV} (hh:YI w G (.vec (.slice (some ⟨g,0,none⟩) ls.length cap) ls::h2)) {cs cs':Array Value} {e:TypeId}
  (hb:w.heap[g]? = some (.cells cs e (0,0))) (Xx:cs'.size=cs.size) (hn:n'=ls'.length) (hle:ls'.length<=cap) (hcap:cs.size=cap) (hls:YV w G ls' (cs'.toList.take ls'.length)) :
  YI (w.setRow g cs') G (.vec (.slice (some ⟨g,0,none⟩) n' cap) ls'::h2) /\
   X3 w G (.vec (.slice (some ⟨g,0,none⟩) ls.length cap) ls::h2) (w.setRow g cs') G (.vec (.slice (some ⟨g,0,none⟩) n' cap) ls'::h2):=by
 subst hn
 have hmem:Res.vec (.slice (some ⟨g,0,none⟩) ls.length cap) ls∈Res.vec (.slice (some ⟨g,0,none⟩) ls.length cap) ls::h2:=Xp ..
 have hA:VR G w (w.setRow g cs') G:=⟨fun c j hg=>by
  have hne:c≠g:=fun he=>hh.prot _ hmem c j he hg
  simp [World.cell?,VI w g c cs' hne],fun _ _ h=>h⟩
 have hpw:=Va.1 hh.apart
 have hother:∀r∈h2,∀c j,r.fp c j->c≠g:=fun r hr c j hf hc=>hpw.1 r hr c j hc hf
 refine ⟨⟨?_,Va.2 ⟨fun r hr=>hpw.1 r hr,hpw.2⟩,?_,?_⟩,⟨rfl,rfl,rfl,by simp [World.setRow],fun _ _ h=>h,?_,fun _ _ _ h=>.inl h,?_⟩⟩
 ·intro r hr
  rcases YM.1 hr with rfl|hr
  ·exact .inr ⟨g,cap,cs',e,rfl,setRow_heap w g cs cs' e (0,0) hb,hle,Xx.trans hcap,hls.mono hA⟩
  ·have h0:=hh.ok r (XG _ hr)
   cases r with
   | obj c ks=>
    obtain ⟨ds,el,k1,k2⟩:=h0
    exact ⟨ds,el,(VI w g c cs' (hother _ hr c 0 rfl)).trans k1,k2.mono hA⟩
   | tail v k=>
    rcases h0 with rfl|⟨g2,len,cap2,cur,el,rfl,k1,k2,k3⟩
    ·exact .inl rfl
    ·exact .inr ⟨g2,len,cap2,cur,el,rfl,(VI w g g2 cs' (hother _ hr g2 (len*k) ⟨rfl,X9 _⟩)).trans k1,k2,k3⟩
   | ge s=>exact Vb h0 (by simp [World.setRow])
   | vec v ks=>
    rcases h0 with ⟨rfl,h0⟩|⟨g2,cap2,cur2,el,rfl,k1,k2,k3,k4⟩
    ·exact .inl ⟨rfl,h0⟩
    ·exact .inr ⟨g2,cap2,cur2,el,rfl,(VI w g g2 cs' (hother _ hr g2 0 rfl)).trans k1,k2,k3,k4.mono hA⟩
   | many ts=>
    refine ⟨fun p hp=>?_,h0.2⟩
    rcases h0.1 p hp with q|⟨g2,len,cap2,cur,el,q,k1,k2,k3⟩
    ·exact .inl q
    ·exact .inr ⟨g2,len,cap2,cur,el,q,(VI w g g2 cs' (hother _ hr g2 (len*p.2) ⟨p,hp,by rw [q];exact ⟨rfl,X9 _⟩⟩)).trans k1,k2,k3⟩
   | own B m=>
    intro c hc
    obtain ⟨ds,el,k1,k2⟩:=h0 c hc
    exact ⟨ds,el,(VI w g c cs' (hother _ hr c 0 hc)).trans k1,k2⟩
   | row v k ks=>
    rcases h0 with ⟨rfl,h0⟩|⟨g2,len2,cap2,cur2,el,rfl,k1,k2,k3,k4,k5⟩
    ·exact .inl ⟨rfl,h0⟩
    ·exact .inr ⟨g2,len2,cap2,cur2,el,rfl,(VI w g g2 cs' (hother _ hr g2 0 rfl)).trans k1,k2,k3,k4,k5.mono hA⟩
 ·intro r hr c j hf hg
  rcases YM.1 hr with rfl|hr
  ·exact hh.prot _ hmem c j hf hg
  ·exact hh.prot r (XG _ hr) c j hf hg
 ·intro c j hg
  have:=hh.lt c j hg
  simpa [World.setRow] using this
 ·intro c hc
  by_cases hcb:c=g
  ·subst hcb
   exact .inr ⟨cs,cs',e,(0,0),hb,setRow_heap w c cs cs' e (0,0) hb,Xx,fun j hj=>absurd ⟨_,hmem,rfl⟩ hj⟩
  ·exact .inl (VI w g c cs' hcb)
 ·rintro c j _ ⟨r,hr,hf⟩
  rcases YM.1 hr with rfl|hr
  ·exact ⟨_,hmem,hf⟩
  ·exact ⟨r,XG _ hr,hf⟩
theorem YI.alloc_vec {w:World} {G:Yk} {h:List Res} (hh:YI w G h) (cs:Array Value) (t:TypeId) {ls:List AV} {cap:Nat} (hcap:ls.length<=cap) (Xx:cs.size=cap)
  (hls:YV w G ls (cs.toList.take ls.length)) :
  YI (w.alloc (.cells cs t)) G (.vec (.slice (some ⟨w.heap.size,0,none⟩) ls.length cap) ls::h)/\X3 w G h (w.alloc (.cells cs t)) G (.vec (.slice (some ⟨w.heap.size,0,none⟩) ls.length cap) ls::h):=by
 have hA:VR G w (w.alloc (.cells cs t)) G:=⟨fun b j hg=>E5 w _ (hh.lt b j hg),fun _ _ h=>h⟩
 refine hh.alloc (.cells cs t) (h':=[.vec (.slice (some ⟨w.heap.size,0,none⟩) ls.length cap) ls]) (fun _ _ h=>h) (fun _ _ h=>.inl h) ?_ ?_ (DV _ _) ?_
 ·intro r hr
  rw [Xr.1 hr]
  exact .inr ⟨_,cap,cs,t,rfl,G4 w _,hcap,Xx,hls.mono hA⟩
 ·intro r hr b j hf
  rw [Xr.1 hr] at hf
  exact hf
 ·intro r hr b j hf hg
  rw [Xr.1 hr] at hf
  have:=hh.lt b j hg
  have:b=w.heap.size:=hf
  omega
theorem Zg8 {w:World} {G:Yk} {h:List Res} (hh:YI w G h):YI w G (.vec (.slice none 0 0) []::h)/\X3 w G h w G (.vec (.slice none 0 0) []::h):=
 ⟨⟨fun r hr=>by
   rcases YM.1 hr with rfl|hr
   ·exact .inl ⟨rfl,rfl⟩
   ·exact hh.ok r hr,Va.2 ⟨fun _ _ _ _ hf=>hf.elim,hh.apart⟩,fun r hr b o hf hg=>by
   rcases YM.1 hr with rfl|hr
   ·exact hf.elim
   ·exact hh.prot r hr b o hf hg,hh.lt⟩,
  ⟨rfl,rfl,rfl,X9 _,fun _ _ h=>h,fun _ _=>.inl rfl,fun _ _ _ h=>.inl h,fun b o _ ⟨r,hr,hf⟩=>by
   rcases YM.1 hr with rfl|hr
   ·exact hf.elim
   ·exact ⟨r,hr,hf⟩⟩⟩
section
variable {P:Program} {n:Nat} {ops:Array Oper} {B:Fr->List Res->Prop} {k:Nat} {F:Fr} {h h2:List Res}
def Dp (P:Program) (ops:Array Oper) (F:Fr) (k:Nat):Option AV:=
 match (ZI ops k).op with
 | .call c=>match c.callee,c.args.toList,c.argTypes.toList with
  | .builtin .len,[x],[t]=>match P.underlying t with
   | some (.slice _)=>some (F.ev x)
   | _=>none
  | _,_,_=>none
 | _=>none
theorem BU.form {w:World} {G:Yk} {v:Value} {ls:List AV} (h:BU w G v ls):∃a cap,v=.slice a ls.length cap:=by
 rcases h with ⟨rfl,rfl⟩|⟨g,cap,cur,e,rfl,_⟩
 ·exact ⟨none,0,rfl⟩
 ·exact ⟨_,cap,rfl⟩
theorem Zfe (j:Nat) {v:Value} {ls:List AV} (hl:Dp P ops F k=some (.val v)) (hj:h[j]? = some (.vec v ls)):XW P (ZI ops k) F h [] (.val (.int .i64 ls.length)):=by
 unfold Dp at hl
 generalize hoo:ZI ops k=o at hl
 obtain ⟨dst,op,type,pos,after,guard⟩:=o
 cases op<;>simp only at hl<;>try (cases hl)
 rename_i c
 obtain ⟨callee,args,tys⟩:=c
 simp only at hl
 split at hl
 ·rename_i x t hargs htys
  split at hl
  ·rename_i el hu
   simp only [Wt] at hl
   intro n w G a hF hh
   have hv:=hF.ev x
   rw [hl] at hv
   have hv:=hv.val_inv
   obtain ⟨ad,cap,rfl⟩:=BU.form (hh.ok _ (Y4 hj))
   have e1:args=#[x]:=by rw [<-UH (xs:=args),hargs]
   have e2:tys=#[t]:=by rw [<-UH (xs:=tys),htys]
   subst e1;subst e2
   exact ⟨_,.val,fun w' _ _=>by simp [execOp,resolve,invoke,builtin,hv,Builtin.len_,VZ hu,goInt]⟩
  ·cases hl
 ·cases hl
theorem Zfd (j:Nat) {v:Value} {ls:List AV} {i:Int} (hi:Bp P ops F k=some (.val v,i,1)) (hj:h[j]? = some (.vec v ls)) (h0:0<=i) (hlt:i<ls.length) :
  XW P (ZI ops k) F h [] (.val (.pointer (some ⟨Qr v,i.toNat,none⟩))):=by
 intro n w G a hF hh
 rcases hh.ok _ (Y4 hj) with ⟨rfl,rfl⟩|⟨g,cap,cur,e,rfl,_⟩
 ·simp at hlt;omega
 ·have:=SJ (P:=P) (F:=F) (h:=h) hi h0 hlt n w G a hF hh
  simpa [Qr,Value.ownBlock] using this
def Lj (P:Program) (ops:Array Oper) (F:Fr) (k:Nat):Option AV:=
 match (ZI ops k).op with
 | .load t x=>match Dl P t with
  | some false=>some (F.ev x)
  | _=>none
 | _=>none
theorem Zff (j:Nat) {v:Value} {ls:List AV} {i:Nat} {y:AV} (hl:Lj P ops F k=some (.val (.pointer (some ⟨Qr v,i,none⟩)))) (hj:h[j]? = some (.vec v ls)) (hy:ls[i]? = some y) :
  XW P (ZI ops k) F h [Qr v] y:=by
 unfold Lj at hl
 generalize hoo:ZI ops k=o at hl
 obtain ⟨dst,op,type,pos,after,guard⟩:=o
 cases op<;>simp only at hl<;>try (cases hl)
 rename_i t x
 split at hl
 ·rename_i hagg
  simp only [Wt] at hl
  intro n w G a hF hh
  have hv:=hF.ev x
  rw [hl] at hv
  have hv:=hv.val_inv
  have hlt:i<ls.length:=(Xc.1 hy).1
  rcases hh.ok _ (Y4 hj) with ⟨rfl,rfl⟩|⟨g,cap,cur,e,rfl,h1,h2,h3,h4⟩
  ·simp at hlt
  ·obtain ⟨c,c1,c2⟩:=h4.get i y hy
   refine ⟨c,c2,fun w' _ hw=>?_⟩
   have hrow:=hw (Qr (.slice (some ⟨g,0,none⟩) ls.length cap)) (by simp)
   simp only [Qr,Value.ownBlock,Option.getD_some] at hrow hv
   rw [h1] at hrow
   have hc:cur[i]? = some c:=by
    rw [Qe,Zl hlt] at c1
    simpa using c1
   simp only [execOp,hv]
   refine Vr ?_
   simp only [Instr.loadAt,Instr.sureAddr,Sem.run_bind,Sem.run_pure,Result.andThen_ok,loadVar,ET hagg]
   have:=cell_of_row w' g i cur e (0,0) hrow
   rw [hc] at this
   simp [load,Sem.run,this]
 ·cases hl
theorem PN {K:Fr->List Res->Prop} {v:Value} {ls:List AV} {i:Nat} {y:AV} (hs:storeAt P ops F k=some (Qr v,i,[y])) (hlt:i<ls.length)
  (hK:K F (.vec v (ls.set i y)::h2)):WE P n (ZI ops k) F (.vec v ls::h2) K:=by
 unfold storeAt at hs
 generalize hoo:ZI ops k=q at hs
 obtain ⟨dst,op,type,pos,after,guard⟩:=q
 cases op<;>simp only at hs<;>try (cases hs)
 rename_i t x z
 split at hs
 ·rename_i b' o' inf hx hi
  split at hs
  ·rename_i hc
   simp only [Xb] at hc
   simp only [Wt,Prod.mk.injEq] at hs
   obtain ⟨rfl,rfl,hz⟩:=hs
   intro Q w G a hF hh
   have hvx:=hF.ev x
   rw [hx] at hvx
   have hvx:=hvx.val_inv
   have hvy:=hF.ev z
   have hcs:=hvy.cells hc.2.1
   rw [hz] at hcs hc
   have hone:=hcs.one_cells hc.2.2
   have Xx:inf.size=1:=UT hc.1
   have hlen:(a.eval z).cells.size=1:=by have:=hcs.length;simpa using this
   rcases hh.ok (.vec v ls) (Xp ..) with ⟨rfl,rfl⟩|⟨g,cap,cur,e,rfl,h1,h3,h4,h5⟩
   ·simp at hlt
   ·simp only [Qr,Value.ownBlock,Option.getD_some] at hvx
    have hst:=run_storeCells_at P g o' e (a.eval z).cells.toList 0 cur w h1 (by simp [hlen];omega) hone
    simp only [BQ,JA] at hst
    have hr:(execOp a.eval { dst:=none,op:=.store t x z,type:=type,pos:=pos,after:=after,guard:=guard }).run P w =
      .ok .skip (w.setRow g (cur.toList.take o'++(a.eval z).cells.toList++cur.toList.drop (o'+(a.eval z).cells.size)).toArray):=by
     simp only [execOp,hvx]
     simp [Instr.storeAt,Instr.sureAddr,storeVar,Qn hi,hlen,Xx,hst]
    unfold Oper.wp
    rw [hr]
    have hset:ls.set o' y=ls.take o'++[y]++ls.drop (o'+1):=(S7 ls o' y hlt).symm
    obtain ⟨j1,j2⟩:=hh.vwrite (ls':=ls.set o' y) (n':=ls.length) (cs':=(cur.toList.take o'++(a.eval z).cells.toList++cur.toList.drop (o'+(a.eval z).cells.size)).toArray) h1
     (by simp [hlen];omega) (by simp) (by simpa using h3) h4 (by
      obtain ⟨c,Z9⟩:∃c,(a.eval z).cells.toList=[c]:=by
       have:=hcs.length
       cases hq:(a.eval z).cells.toList with
       | nil=>rw [hq] at this;simp at this
       | cons c r=>cases r with
        | nil=>exact ⟨c,rfl⟩
        | cons _ _=>rw [hq] at this;simp at this
      rw [Z9] at hcs
      have hlt':o'<cur.toList.length:=by simp [h4];omega
      rw [Fa,Z9,hlen,S7 cur.toList o' c hlt',VJ,List.take_set]
      cases hcs with
      | cons hcc _=>exact h5.set o' hcc)
    refine ⟨F,_,G,hK,?_,j1,j2⟩
    have:=hF.mono (j2.agree hh)
    simpa [Act.put] using this
  ·cases hs
 ·cases hs
theorem Zb9 {K:Fr->List Res->Prop} {v:Value} {ls xs:List AV} {hx:Option Value} (hd:VC n (ZI ops k)=true) (ha:TH P ops F k=some (.val v,.sl xs hx,1))
  (hxs:∀y∈xs,y.leaves=[y]) (hone:xs.all AV.one=true) (hbound:ls.length+xs.length<=4294967296)
  (hK:∀v',K (F.put (ZI ops k).dst (.val v')) (.vec v' (ls++xs)::h2)):WE P n (ZI ops k) F (.vec v ls::h2) K:=by
 unfold TH at ha
 generalize hoo:ZI ops k=o at ha hd hK
 obtain ⟨dst,op,type,pos,after,guard⟩:=o
 cases op<;>simp only at ha<;>try (cases ha)
 rename_i c
 obtain ⟨callee,args,tys⟩:=c
 simp only at ha
 split at ha
 case h_2=>cases ha
 rename_i s x t t' hargs htys
 split at ha
 case h_2=>cases ha
 rename_i e htt ht
 have:=UT htt
 subst this
 split at ha
 case h_2=>cases ha
 rename_i i hinfo
 split at ha
 case h_2=>cases ha
 rename_i z hz
 split at ha
 case h_2=>cases ha
 rename_i hb
 simp only [Xb] at hb
 simp only [Wt,Prod.mk.injEq] at ha
 obtain ⟨h3,h4,hk1⟩:=ha
 have e1:args=#[s,x]:=by rw [<-UH (xs:=args),hargs]
 have e2:tys=#[t,t]:=by rw [<-UH (xs:=tys),htys]
 subst e1;subst e2
 have hzs:z.cells.size=1:=by rw [UT hb.1,hk1]
 have hby:=V6 hb.2
 have hflat:Zg xs=xs:=by
  clear hone hbound hK h4
  induction xs with
  | nil=>rfl
  | cons y r ih=>simp only [Zg,B3,hxs y (by simp),List.singleton_append];rw [show r.flatMap AV.leaves=Zg r from rfl,ih fun q hq=>hxs q (by simp [hq])]
 have hlen1:∀y∈xs,y.leaves.length=1:=fun y hy=>by rw [hxs y hy];rfl
 intro Q w G a hF hh
 have v1:=hF.ev s
 have v2:=hF.ev x
 rw [h3] at v1
 rw [h4] at v2
 have v1:=v1.val_inv
 have v2:=v2.forget
 have finish:∀v' w',(Builtin.append_ #[t,t] type #[v,a.eval x]).run P w=.ok v' w'->YI w' G (.vec v' (ls++xs)::h2)->X3 w G (.vec v ls::h2) w' G (.vec v' (ls++xs)::h2) ->
   ({ dst:=dst,op:=.call { callee:=.builtin .append,args:=#[s,x],argTypes:=#[t,t] },type:=type,pos:=pos,after:=after,guard:=guard }:Oper).wp P a w
    (fun a' w'=>∃F' h' G',K F' h'/\FR w' G' n F' a'/\YI w' G' h'/\X3 w G (.vec v ls::h2) w' G' h') Q:=by
  intro v' w' hr j1 j2
  have hrun:(execOp a.eval { dst:=dst,op:=.call { callee:=.builtin .append,args:=#[s,x],argTypes:=#[t,t] },type:=type,pos:=pos,after:=after,guard:=guard }).run P w=.ok (.value v') w':=by
   simp only [execOp,resolve,invoke,builtin,Sem.run_bind,Sem.run_pure,Result.andThen_ok,F8,Td,F7,v1,hr]
  unfold Oper.wp
  rw [hrun]
  exact ⟨_,_,G,hK v',(hF.mono (j2.agree hh)).put (Tk hd) .val,j1,j2⟩
 have hvec:=hh.ok (.vec v ls) (Xp ..)
 have hsub2:∀r:Res,List.Sublist (r::h2) (r::.vec v ls::h2):=fun r=>List.Sublist.cons_cons _ (BP _ _)
 have grown:∀(olds news:List Value) (old:Nat),YV w G ls olds->YV w G xs news ->
   YI (w.drew.alloc (.cells (olds.toArray++news.toArray++Builtin.zeroCells z.cells (grownCap w (ls.length+xs.length) old e-(ls.length+xs.length))) e)) G
    (.vec (.slice (some ⟨w.heap.size,0,none⟩) (ls.length+xs.length) (grownCap w (ls.length+xs.length) old e)) (ls++xs)::h2) /\
   X3 w G (.vec v ls::h2) (w.drew.alloc (.cells (olds.toArray++news.toArray++Builtin.zeroCells z.cells (grownCap w (ls.length+xs.length) old e-(ls.length+xs.length))) e)) G
    (.vec (.slice (some ⟨w.heap.size,0,none⟩) (ls.length+xs.length) (grownCap w (ls.length+xs.length) old e)) (ls++xs)::h2):=by
  intro olds news old ho hn
  have Xk:=grownCap_ge w (ls.length+xs.length) old e
  have hol:=ho.length
  have hnl:=hn.length
  obtain ⟨j1,j2⟩:=hh.drew.alloc_vec (olds.toArray++news.toArray++Builtin.zeroCells z.cells (grownCap w (ls.length+xs.length) old e-(ls.length+xs.length))) e
   (ls:=ls++xs) (cap:=grownCap w (ls.length+xs.length) old e) (by simpa using Xk)
   (by simp only [Array.size_append,F9,size_zeroCells,hzs,hol,hnl,JE];omega)
   (by
    have:(olds.toArray++news.toArray++Builtin.zeroCells z.cells (grownCap w (ls.length+xs.length) old e-(ls.length+xs.length))).toList.take (ls++xs).length=olds++news:=by
     simp only [Hr,Ys]
     rw [<-hol,<-hnl,<-Ys]
     exact JD
    rw [this]
    exact (ho.append hn).mono (Bc w G))
  rw [Ys] at j1 j2
  exact ⟨j1.sub (hsub2 _),(X3.drew w G _).trans (j2.sub' (hsub2 _))⟩
 by_cases hxe:xs=[]
 ·subst hxe
  obtain ⟨ad,cap,hform⟩:=BU.form hvec
  have hle:ls.length<=cap:=by
   rcases hvec with ⟨rfl,rfl⟩|⟨g,cap',cur,el,rfl,_,hc,_⟩
   ·simp
   ·cases hform;exact hc
  subst hform
  cases v2q:a.eval x with
  | slice ad' l' c'=>
   rw [v2q] at v2
   cases v2<;>exact finish _ _ (by rw [v2q];exact DF ht hinfo hle w) (by simpa using hh) (by simpa using X3.refl w G _)
  | _=>rw [v2q] at v2;cases v2
 ·generalize hax:a.eval x=ax at v2 finish
  cases v2 with
  | nil _=>exact absurd rfl hxe
  | sl hq hcc hm=>
   rename_i b o' k' c
   have hpos:0<xs.length:=BO.2 hxe
   have hfm:=hm.flat_mem
   rw [hflat] at hfm
   obtain ⟨news,hn,hnc⟩:=hfm.cells
   have hnl:news.length=xs.length*i.size:=by rw [hn.length,hk1,JE]
   have hone':=hn.one_cells hone
   have hnews:∀j u,news[j]? = some u->w.cell? ((⟨b,o',none⟩:Addr).add j)=some u:=fun j u hj=>by rw [J5];exact (hnc j u hj).1
   have hbb:(ls.length+xs.length)*i.bytes<=140737488355328:=by
    have:=Nat.mul_le_mul hbound hby
    omega
   rcases hvec with ⟨rfl,rfl⟩|⟨g,cap,cur,el,rfl,hrow,hlc,hcur,hcells⟩
   ·have hr:=run_append_nil (P:=P) w t type e i z ht hinfo hz ⟨b,o',none⟩ xs.length c news hnl hnews hpos (by simp at hbound;omega) (by simp at hbb;omega)
    obtain ⟨j1,j2⟩:=grown [] news 0 .nil hn
    simp only [X7,Wk,Array.empty_append,CK] at j1 j2
    exact finish _ _ hr (by simpa using j1) (by simpa using j2)
   ·by_cases hroom:ls.length+xs.length<=cap
    ·have hfit:ls.length*i.size+news.length<=cur.size:=by rw [hnl,hcur,hk1];omega
     have hr:=LO (P:=P) w t type e el i ht hinfo g ls.length cap cur hrow ⟨b,o',none⟩ xs.length c news hnl hnews hone' hroom hfit
     rw [hk1,JE] at hr
     have hnl':news.length=xs.length:=by rw [hnl,hk1,JE]
     obtain ⟨j1,j2⟩:=hh.vwrite (ls':=ls++xs) (n':=ls.length+xs.length) (cs':=(cur.toList.take ls.length++news++cur.toList.drop (ls.length+news.length)).toArray) hrow
      (by simp [hnl',hcur];omega) (by simp) (by simpa using hroom) hcur (by
       have h1:(cur.toList.take ls.length).length=ls.length:=by simp [hcur];omega
       have:(cur.toList.take ls.length++news++cur.toList.drop (ls.length+news.length)).toArray.toList.take (ls++xs).length=cur.toList.take ls.length++news:=by
        rw [Fa,Ys,<-hnl']
        conv=>lhs;arg 1;rw [show ls.length+news.length=(cur.toList.take ls.length++news).length from by rw [Ys,h1]]
        exact JD
       rw [this]
       exact hcells.append hn)
     exact finish _ _ hr j1 j2
    ·have hr:=run_append_grow (P:=P) w t type e i z ht hinfo hz ⟨g,0,none⟩ ls.length cap (cur.toList.take ls.length) (by rw [hk1];simp [hcur];omega) (fun j u hj=>by
      rw [J5,cell_of_row w g _ cur el (0,0) hrow]
      rw [Qe] at hj
      split at hj
      ·simpa using hj
      ·cases hj) ⟨b,o',none⟩ xs.length c news hnl hnews om om (growslice_fits om hbb)
     obtain ⟨j1,j2⟩:=grown (cur.toList.take ls.length) news cap hcells hn
     exact finish _ _ hr j1 j2
end
inductive Kr (h:List Res):AV->Prop
 | val {v}:Kr h (.val v)
 | any:Kr h .any
 | nil {hv}:Kr h (.sl [] hv)
 | own {es:List AV} {v:Value} {k:Nat} (he:∀y∈es,∃u,y=.val u) (ht:Res.tail v k∈h):Kr h (.sl es (some v))
 | tup {vs:List AV} (hv:∀y∈vs,Kr h y):Kr h (.tup vs)
 | agg {vs:List AV} (hv:∀y∈vs,Kr h y):Kr h (.agg vs)
def Fe:Res->Prop
 | .obj _ ls=>∀y∈ls,∃u,y=.val u
 | .vec _ ls=>∀y∈ls,∃u,y=.val u
 | .row _ _ ls=>∀y∈ls,∃u,y=.val u
 | _=>True
theorem YV.vals {w w':World} {G G':Yk}:∀{xs:List AV} {vs:List Value},(∀y∈xs,∃u,y=.val u)->YV w G xs vs->YV w' G' xs vs
 | _,_,_,.nil=>.nil
 | x::_,_::_,hv,.cons h t=>by
  obtain ⟨u,rfl⟩:=hv x (Xp ..)
  have:=h.val_inv
  subst this
  exact .cons .val (t.vals fun y hy=>hv y (XG _ hy))
theorem Po {w:World} {G G':Yk} {b:Nat} (hG:∀o,G b o->G' b o):∀{o:Nat} {xs:List AV},(∀y∈xs,∃u,y=.val u)->Wu w G b o xs->Wu w G' b o xs
 | _,_,_,.nil=>.nil
 | _,x::_,hv,.cons hc hg h t=>by
  obtain ⟨u,rfl⟩:=hv x (Xp ..)
  have:=h.val_inv
  subst this
  exact .cons hc (hG _ hg) .val (Po hG (fun y hy=>hv y (XG _ hy)) t)
theorem Nx {w:World} {G G':Yk} {b k:Nat} (hG:∀o,G b o->G' b o):∀{o:Nat} {xs:List AV},(∀y∈xs,∃u,y=.val u)->Vd w G k b o xs->Vd w G' k b o xs
 | _,_,_,.nil=>.nil
 | _,x::_,hv,.cons hl h t=>by
  obtain ⟨u,rfl⟩:=hv x (Xp ..)
  refine .cons hl (Po hG (fun y hy=>?_) h) (Nx hG (fun y hy=>hv y (XG _ hy)) t)
  simp [AV.leaves] at hy
  exact ⟨u,hy⟩
theorem YV.clean {w:World} {G G':Yk} (P:AV->Prop) (hP:∀x v,P x->RV w G x v->RV w G' x v):∀{xs:List AV} {vs:List Value},(∀y∈xs,P y)->YV w G xs vs->YV w G' xs vs
 | _,_,_,.nil=>.nil
 | x::_,_::_,hv,.cons h t=>.cons (hP _ _ (hv x (Xp ..)) h) (t.clean P hP fun y hy=>hv y (XG _ hy))
theorem RV.clean {w:World} {G G':Yk} {h:List Res} (hG:∀v k g,Res.tail v k∈h->v.ownBlock=some g->∀o,G g o->G' g o) {r:AV} (hc:Kr h r):∀{v:Value},RV w G r v->RV w G' r v:=by
 induction hc with
 | val=>intro v hv;cases hv;exact .val
 | any=>intro v hv;exact .any
 | nil=>
  intro v hv
  cases hv with
  | nil hq=>exact .nil hq
  | sl hq hc hm=>exact .sl (k:=0) hq hc .nil
 | own he ht=>
  intro v hv
  cases hv with
  | nil hq=>exact .nil hq
  | sl hq hc hm=>
   have e:=hq _ rfl
   exact .sl hq hc (Nx (fun o hg=>hG _ _ _ ht (by rw [e];rfl) o hg) he hm)
 | tup hv ih=>
  intro v hvv
  cases hvv with
  | tup hc=>exact .tup (hc.clean (fun x=>∀{v:Value},RV w G x v->RV w G' x v) (fun x v hp hx=>hp hx) ih)
 | agg hv ih=>
  intro v hvv
  cases hvv with
  | agg hc=>exact .agg (hc.clean (fun x=>∀{v:Value},RV w G x v->RV w G' x v) (fun x v hp hx=>hp hx) ih)
theorem YI.lend {w:World} {G:Yk}:∀{bs h:List Res},(∀r∈bs,∃v ls,r=.vec v ls/\∀y∈ls,∃u,y=.val u)->YI w G (h++bs) ->
  ∃Gb:Yk,(∀b o,G b o->Gb b o)/\(∀b o,Gb b o->G b o∨Vp bs b o)/\YI w Gb h /\
   (∀v ls,Res.vec v ls∈bs->∀m,m<=ls.length->RV w Gb (.sl (ls.take m) none) (Ae v m)/\RV w Gb (.sl ls none) v):=by
 intro bs h hb hh
 let Gb:Yk:=fun b o=>G b o∨∃v ls,Res.vec v ls∈bs/\v.ownBlock=some b/\o<ls.length
 have hsub:∀b o,G b o->Gb b o:=fun _ _ h=>.inl h
 have hfp:∀b o,Gb b o->G b o∨Vp bs b o:=fun b o hg=>hg.imp id fun ⟨v,ls,hm,ho,_⟩=>⟨_,hm,by
  cases v with
  | slice a l c=>cases a with
   | none=>simp [Value.ownBlock] at ho
   | some a=>simp only [Value.ownBlock,Wt] at ho;exact ho.symm
  | _=>simp [Value.ownBlock] at ho⟩
 have hA:VR G w w Gb:=⟨fun _ _ _=>rfl,hsub⟩
 refine ⟨Gb,hsub,hfp,⟨fun r hr=>?_,hh.left.apart,fun r hr b o hf hg=>?_,fun b o hg=>?_⟩,fun v ls hm m hmle=>?_⟩
 ·have h0:=hh.ok r (Xm.2 (.inl hr))
  cases r with
  | obj b ls=>obtain ⟨cs,e,h1,h2⟩:=h0;exact ⟨cs,e,h1,h2.mono hA⟩
  | tail v k=>exact h0
  | ge s=>exact h0
  | vec v ls=>
   rcases h0 with ⟨rfl,h0⟩|⟨g,cap,cur,el,rfl,h1,h2,h3,h4⟩
   ·exact .inl ⟨rfl,h0⟩
   ·exact .inr ⟨g,cap,cur,el,rfl,h1,h2,h3,h4.mono hA⟩
  | many ts=>exact h0
  | own B m=>exact h0
  | row v k ls=>
   rcases h0 with ⟨rfl,h0⟩|⟨g,len,cap,cur,el,rfl,h1,h2,h3,h4,h5⟩
   ·exact .inl ⟨rfl,h0⟩
   ·exact .inr ⟨g,len,cap,cur,el,rfl,h1,h2,h3,h4,h5.mono hA⟩
 ·rcases hfp b o hg with h1|h1
  ·exact hh.prot r (Xm.2 (.inl hr)) b o hf h1
  ·exact hh.cross ⟨r,hr,hf⟩ h1
 ·rcases hfp b o hg with h1|⟨r,hr,hf⟩
  ·exact hh.lt b o h1
  ·exact (hh.ok r (Xm.2 (.inr hr))).lt b o hf
 ·have h0:=hh.ok _ (Xm.2 (.inr hm))
  obtain ⟨v',ls',e,hval⟩:=hb _ hm
  cases e
  rcases h0 with ⟨rfl,rfl⟩|⟨g,cap,cur,el,rfl,h1,h2,h3,h4⟩
  ·have:m=0:=by simpa using hmle
   subst this
   exact ⟨.nil (by simp),.nil (by simp)⟩
  ·have hmem:Wu w Gb g 0 ls:=by
    refine Wu.of_cells (h4.mono hA) fun j u hj=>?_
    have hjl:j<ls.length:=by
     have:=(Xc.1 hj).1
     have h5:=h4.length
     omega
    rw [Qe,Zl hjl] at hj
    refine ⟨?_,.inr ⟨_,_,hm,rfl,by omega⟩⟩
    rw [Wk,cell_of_row w g j cur el (0,0) h1]
    simpa using hj
   have hels:∀(l:List AV),(∀y∈l,∃u,y=.val u)->Zg l=l:=by
    intro l
    induction l with
    | nil=>intro _;rfl
    | cons y r ih=>
     intro hy
     obtain ⟨u,rfl⟩:=hy y (Xp ..)
     simp only [Zg,B3,AV.leaves,List.singleton_append]
     rw [show r.flatMap AV.leaves=Zg r from rfl,ih fun z hz=>hy z (XG _ hz)]
   have hE:Vd w Gb 1 g 0 ls:=Vd.of_flat ls (fun y hy=>by obtain ⟨u,rfl⟩:=hval y hy;rfl) (by rw [hels ls hval];exact hmem)
   refine ⟨?_,.sl (by simp) h2 hE⟩
   have hl:(ls.take m).length=m:=by simp [hmle]
   show RV w Gb (.sl (ls.take m) none) (.slice (some ⟨g,0,none⟩) m cap)
   conv=>arg 4;rw [<-hl]
   exact .sl (by simp) om (hE.take m)
inductive TC (bs:List Res):List AV->List AV->Prop
 | nil:TC bs [] []
 | same {x as1 xs} (t:TC bs as1 xs):TC bs (x::as1) (x::xs)
 | lent {v ls as1 xs} (h:Res.vec v ls∈bs) (t:TC bs as1 xs):TC bs (.val v::as1) (.sl ls none::xs)
 | cut {v ls m as1 xs} (h:Res.vec v ls∈bs) (hm:m<=ls.length) (t:TC bs as1 xs):TC bs (.val (Ae v m)::as1) (.sl (ls.take m) none::xs)
theorem TC.rcs {w:World} {G Gb:Yk} {bs:List Res} (hA:VR G w w Gb)
  (hb:∀v ls,Res.vec v ls∈bs->∀m,m<=ls.length->RV w Gb (.sl (ls.take m) none) (Ae v m)/\RV w Gb (.sl ls none) v) :
  ∀{as1 xs:List AV} {vs:List Value},TC bs as1 xs->YV w G as1 vs->YV w Gb xs vs
 | _,_,_,.nil,.nil=>.nil
 | _,_,_,.same t,.cons h r=>.cons (h.mono hA) (t.rcs hA hb r)
 | _,_,_,.lent hm t,.cons h r=>by
  have:=h.val_inv
  subst this
  exact .cons (hb _ _ hm 0 (Te _)).2 (t.rcs hA hb r)
 | _,_,_,.cut hm hle t,.cons h r=>by
  have:=h.val_inv
  subst this
  exact .cons (hb _ _ hm _ hle).1 (t.rcs hA hb r)
theorem WU.lend {P:Program} {f:FuncId} {as1 xs:List AV} {h1:List Res} (bs:List Res) {R:AV->List Res->Prop} (H:WU P f xs h1 R) (hargs:TC bs as1 xs)
  (hb:∀r∈bs,∃v ls,r=.vec v ls/\∀y∈ls,∃u,y=.val u) (hclean:∀r h',R r h'->Kr h' r/\∀q∈h',Fe q) :
  WU P f as1 (h1++bs) (fun r h'=>∃h1',R r h1'/\h'=h1'++bs):=by
 intro w G vs hvs hh
 obtain ⟨Gb,g1,g2,g3,g4⟩:=YI.lend hb hh
 have hA:VR G w w Gb:=⟨fun _ _ _=>rfl,g1⟩
 refine (H w Gb vs (hargs.rcs hA g4 hvs) g3).mono ?_
 rintro e w' ⟨v,r,h',G',rfl,hR,hv,hh',hx⟩
 obtain ⟨c1,c2⟩:=hclean r h' hR
 let G2:Yk:=fun b o=>G' b o/\¬(Vp bs b o)
 have hbslt:∀b o,Vp bs b o->b<w.heap.size:=fun b o ⟨q,hq,hf⟩=>(hh.ok q (Xm.2 (.inr hq))).lt b o hf
 have hwhole:∀b o o',Vp bs b o->Vp bs b o':=fun b o o' ⟨q,hq,hf⟩=>⟨q,hq,by
  obtain ⟨v,ls,rfl,_⟩:=hb q hq
  cases v with
  | slice a l c=>cases a with
   | none=>exact hf.elim
   | some a=>exact hf
  | _=>exact hf.elim⟩
 have hGkeep:∀b o,G b o->G2 b o:=fun b o hg=>⟨hx.sub b o (g1 b o hg),fun ⟨q,hq,hf⟩=>hh.prot q (Xm.2 (.inr hq)) b o hf hg⟩
 have hnew:∀v k g,Res.tail v k∈h'->v.ownBlock=some g->∀o,G' g o->G2 g o:=by
  intro v k g hm hg o hgo
  refine ⟨hgo,fun hf=>?_⟩
  have hlt:=hbslt _ _ hf
  rcases hh'.ok _ hm with rfl|⟨g',len,cap,cur,el,rfl,t1,t2,t3⟩
  ·simp [Value.ownBlock] at hg
  ·simp only [Value.ownBlock,Wt] at hg
   subst hg
   have hfp:Vp h' g' (len*k):=⟨_,hm,rfl,X9 _⟩
   exact hh.cross (hx.newfp g' (len*k) hlt hfp) (hwhole _ _ _ hf)
 have e1:X3 w G h1 w' G2 h':=⟨hx.os,hx.tape,hx.output,hx.size,hGkeep,hx.same,fun b o hb' hg=>by
  rcases hx.newG b o hb' hg.1 with h|h
  ·rcases g2 b o h with h|h
   ·exact .inl h
   ·exact absurd h hg.2
  ·exact .inr h,hx.newfp⟩
 have e2:YI w' G2 h':=⟨fun q hq=>by
   have h0:=hh'.ok q hq
   have hcq:=c2 q hq
   cases q with
   | obj b ls=>obtain ⟨cs,el,k1,k2⟩:=h0;exact ⟨cs,el,k1,k2.vals hcq⟩
   | tail v k=>exact h0
   | ge s=>exact h0
   | vec v ls=>
    rcases h0 with ⟨rfl,h0⟩|⟨g,cap,cur,el,rfl,k1,k2,k3,k4⟩
    ·exact .inl ⟨rfl,h0⟩
    ·exact .inr ⟨g,cap,cur,el,rfl,k1,k2,k3,k4.vals hcq⟩
   | many ts=>exact h0
   | own B m=>exact h0
   | row v k ls=>
    rcases h0 with ⟨rfl,h0⟩|⟨g,len,cap,cur,el,rfl,k1,k2,k3,k4,k5⟩
    ·exact .inl ⟨rfl,h0⟩
    ·exact .inr ⟨g,len,cap,cur,el,rfl,k1,k2,k3,k4,k5.vals hcq⟩,hh'.apart,fun q hq b o hf hg=>hh'.prot q hq b o hf hg.1,fun b o hg=>hh'.lt b o hg.1⟩
 obtain ⟨f1,f2⟩:=hh.frame e1 e2
 exact ⟨v,r,h'++bs,G2,rfl,⟨h',hR,rfl⟩,RV.clean hnew c1 hv,f1,f2⟩
section
variable {P:Program} {n:Nat} {ops:Array Oper} {B:Fr->List Res->Prop} {k:Nat} {F:Fr} {h h2:List Res}
def DH (P:Program) (ops:Array Oper) (F:Fr) (k:Nat):Option (AV × Int):=
 match (ZI ops k).op with
 | .slice t x none (some hi) none=>match P.underlying t with
  | some (.slice e)=>match P.info? e with
   | some _=>match F.ev hi with
    | .val (.int _ m)=>some (F.ev x,m)
    | _=>none
   | none=>none
  | _=>none
 | _=>none
theorem Zfg (j:Nat) {v:Value} {ls:List AV} {m:Nat} (hi:DH P ops F k=some (.val v,(m:Int))) (hj:h[j]? = some (.vec v ls)) (hle:m<=ls.length) :
  XW P (ZI ops k) F h [] (.val (Ae v m)):=by
 unfold DH at hi
 generalize hoo:ZI ops k=o at hi
 obtain ⟨dst,op,type,pos,after,guard⟩:=o
 cases op<;>simp only at hi<;>try (cases hi)
 rename_i t x lo hi' mx
 cases lo with
 | some _=>simp at hi
 | none=>
  cases hi' with
  | none=>simp at hi
  | some y=>
   cases mx with
   | some _=>simp at hi
   | none=>
    simp only at hi
    split at hi
    ·rename_i e ht
     split at hi
     ·rename_i inf hinf
      split at hi
      ·rename_i ik m' hm
       simp only [Wt,Prod.mk.injEq] at hi
       obtain ⟨hx,rfl⟩:=hi
       intro n w G a hF hh
       have v1:=hF.ev x
       rw [hx] at v1
       have v1:=v1.val_inv
       have v2:=hF.ev y
       rw [hm] at v2
       have v2:=v2.val_inv
       have hvec:=hh.ok _ (Y4 hj)
       obtain ⟨ad,cap,hform⟩:=BU.form hvec
       have hcap:ls.length<=cap:=by
        rcases hvec with ⟨rfl,rfl⟩|⟨g,cap',cur,el,rfl,_,hc,_⟩
        ·simp
        ·cases hform;exact hc
       subst hform
       refine ⟨_,.val,fun w' _ _=>?_⟩
       have Za:=fun c=>EU (P:=P) (c:=c) (v:=.int ik (m:Int)) (y:=cap) rfl om om w'
       simp only [execOp,v1,v2,Fc,Option.map_none]
       refine Vr ?_
       simp only [Instr.sliceAt,Sem.run_bind,VZ ht,Result.andThen_ok,Instr.slice]
       have hmm:(Instr.sliceBounds true ls.length cap none (some (.int ik (m:Int))) none).run P w'=.ok (0,m,cap) w':=by simp [Instr.sliceBounds,Za]
       rw [hmm]
       have hz:∀a:Addr,a.add 0=a:=fun a=>by simp [Addr.add]
       simp only [Result.andThen_ok,Qn hinf,Nat.zero_mul,hz,Ae]
       simp
      ·cases hi
     ·cases hi
    ·cases hi
theorem Zga {w:World} {G:Yk} {v:Value} {ls:List AV} {m:Nat} (hh:YI w G (.vec v ls::h2)) (hle:m<=ls.length) :
  YI w G (.vec (Ae v m) (ls.take m)::h2)/\X3 w G (.vec v ls::h2) w G (.vec (Ae v m) (ls.take m)::h2):=by
 have hpw:=Va.1 hh.apart
 have hfp:∀b o,Res.fp (.vec (Ae v m) (ls.take m)) b o->Res.fp (.vec v ls) b o:=by
  intro b o hf
  cases v with
  | slice a l c=>cases a with
   | none=>exact hf.elim
   | some a=>exact hf
  | _=>exact hf
 refine ⟨⟨fun r hr=>?_,Va.2 ⟨fun r hr b o h1 h2=>hpw.1 r hr b o (hfp b o h1) h2,hpw.2⟩,fun r hr b o hf hg=>?_,hh.lt⟩,⟨rfl,rfl,rfl,X9 _,fun _ _ h=>h,fun _ _=>.inl rfl,fun _ _ _ h=>.inl h,?_⟩⟩
 ·rcases YM.1 hr with rfl|hr
  ·rcases hh.ok _ (Xp ..) with ⟨rfl,rfl⟩|⟨g,cap,cur,e,rfl,h1,h3,h4,h5⟩
   ·have:m=0:=by simpa using hle
    subst this
    exact .inl ⟨rfl,rfl⟩
   ·refine .inr ⟨g,cap,cur,e,by simp [Ae,hle],h1,by simp;omega,h4,?_⟩
    have:=h5.take m
    rw [List.take_take,VQ hle] at this
    simpa [hle] using this
  ·exact hh.ok r (XG _ hr)
 ·rcases YM.1 hr with rfl|hr
  ·exact hh.prot _ (Xp ..) b o (hfp b o hf) hg
  ·exact hh.prot r (XG _ hr) b o hf hg
 ·rintro b o _ ⟨r,hr,hf⟩
  rcases YM.1 hr with rfl|hr
  ·exact ⟨_,Xp ..,hfp b o hf⟩
  ·exact ⟨r,XG _ hr,hf⟩
theorem Zg7 {w:World} {G:Yk} {v:Value} {ls:List AV} (hh:YI w G (.vec v ls::h2)) (hls:∀y∈ls,y.leaves=[y]) :
  ∃G',YI w G' (.tail v 1::h2)/\X3 w G (.vec v ls::h2) w G' (.tail v 1::h2)/\RV w G' (.sl ls (some v)) v:=by
 have hpw:=Va.1 hh.apart
 rcases hh.ok _ (Xp ..) with ⟨rfl,rfl⟩|⟨g,cap,cur,e,rfl,h1,h3,h4,h5⟩
 ·obtain ⟨k1,k2⟩:=Mc (sz:=1) (hh.sub (BP _ _))
  refine ⟨G,k1,⟨rfl,rfl,rfl,X9 _,fun _ _ h=>h,fun _ _=>.inl rfl,fun _ _ _ h=>.inl h,?_⟩,.nil (by simp)⟩
  rintro b o _ ⟨r,hr,hf⟩
  rcases YM.1 hr with rfl|hr
  ·exact hf.elim
  ·exact ⟨r,XG _ hr,hf⟩
 ·let G':Yk:=fun b o=>G b o∨(b=g/\o<ls.length)
  have hA:VR G w w G':=⟨fun _ _ _=>rfl,fun _ _ h=>.inl h⟩
  have hmem:Res.vec (.slice (some ⟨g,0,none⟩) ls.length cap) ls∈Res.vec (.slice (some ⟨g,0,none⟩) ls.length cap) ls::h2:=Xp ..
  refine ⟨G',⟨fun r hr=>?_,Va.2 ⟨fun r hr b o f1 f2=>hpw.1 r hr b o f1.1 f2,hpw.2⟩,fun r hr b o hf hg=>?_,fun b o hg=>?_⟩,
   ⟨rfl,rfl,rfl,X9 _,fun _ _ h=>.inl h,fun _ _=>.inl rfl,fun b o _ hg=>hg.imp id fun ⟨e1,_⟩=>⟨_,hmem,e1⟩,?_⟩,?_⟩
  ·rcases YM.1 hr with rfl|hr
   ·exact .inr ⟨g,ls.length,cap,cur,e,rfl,h1,h3,by rw [h4,JE]⟩
   ·have h0:=hh.ok r (XG _ hr)
    cases r with
    | obj b ks=>obtain ⟨cs,el,k1,k2⟩:=h0;exact ⟨cs,el,k1,k2.mono hA⟩
    | tail v k=>exact h0
    | ge s=>exact h0
    | vec v ks=>
     rcases h0 with ⟨rfl,h0⟩|⟨g2,cap2,cur2,el,rfl,k1,k2,k3,k4⟩
     ·exact .inl ⟨rfl,h0⟩
     ·exact .inr ⟨g2,cap2,cur2,el,rfl,k1,k2,k3,k4.mono hA⟩
    | many ts=>exact h0
    | own B m=>exact h0
    | row v k ks=>
     rcases h0 with ⟨rfl,h0⟩|⟨g2,len2,cap2,cur2,el,rfl,k1,k2,k3,k4,k5⟩
     ·exact .inl ⟨rfl,h0⟩
     ·exact .inr ⟨g2,len2,cap2,cur2,el,rfl,k1,k2,k3,k4,k5.mono hA⟩
  ·rcases YM.1 hr with rfl|hr2
   ·obtain ⟨hbg,hf2⟩:=hf
    rcases hg with hg|⟨_,hg⟩
    ·exact hh.prot _ hmem b o hbg hg
    ·rw [JE] at hf2;omega
   ·rcases hg with hg|⟨hbg,_⟩
    ·exact hh.prot r (XG _ hr2) b o hf hg
    ·exact hpw.1 r hr2 b o hbg hf
  ·rcases hg with hg|⟨rfl,_⟩
   ·exact hh.lt b o hg
   ·exact (UG.1 h1).1
  ·rintro b o _ ⟨r,hr,hf⟩
   rcases YM.1 hr with rfl|hr
   ·exact ⟨_,hmem,hf.1⟩
   ·exact ⟨r,XG _ hr,hf⟩
  ·have hflat:Zg ls=ls:=by
    clear h5 h3 hh hpw hmem hA h4
    induction ls with
    | nil=>rfl
    | cons y r ih=>
     simp only [Zg,B3,hls y (Xp ..),List.singleton_append]
     rw [show r.flatMap AV.leaves=Zg r from rfl,ih fun q hq=>hls q (XG _ hq)]
   refine .sl (k:=1) (fun x hx=>by cases hx;rfl) h3 (Vd.of_flat ls (fun y hy=>by rw [hls y hy];rfl) ?_)
   rw [hflat]
   refine Wu.of_cells (h5.mono hA) fun j u hj=>?_
   have hjl:j<ls.length:=by
    have:=(Xc.1 hj).1
    have h6:=h5.length
    omega
   rw [Qe,Zl hjl] at hj
   refine ⟨?_,.inr ⟨rfl,by omega⟩⟩
   rw [Wk,cell_of_row w g j cur e (0,0) h1]
   simpa using hj
def Ct (P:Program) (ops:Array Oper) (F:Fr) (k:Nat):Option (Int × Int × AV):=
 match (ZI ops k).op with
 | .makeSlice t l c=>match P.underlying t with
  | some (.slice e)=>match P.info? e with
   | some i=>match i.zero with
    | some z=>match z.cells.toList,Nat.beq i.size 1&&Nat.ble i.bytes 32 with
     | [zv],true=>match F.ev l,F.ev c with
      | .val (.int _ l),.val (.int _ c)=>some (l,c,AV.ofVal zv)
      | _,_=>none
     | _,_=>none
    | none=>none
   | none=>none
  | _=>none
 | _=>none
theorem Rh {w:World} {G:Yk} {x:AV} {v:Value} (h:RV w G x v):∀n,YV w G (List.replicate n x) (List.replicate n v)
 | 0=>.nil
 | n+1=>.cons h (Rh h n)
theorem Zaa (zv:Value) (n:Nat):(madeCells #[zv] n).toList=List.replicate n zv:=by
 apply List.ext_getElem
 ·simp [madeCells]
 ·intro i h1 h2
  simp [madeCells,Nat.mod_one]
theorem Zcv {w:World} {G:Yk} {a:Act} (hF:FR w G n F a) {l c:Nat} {zv:AV} (hm:Ct P ops F k=some ((l:Int),(c:Int),zv)) (hlc:l<=c) (hc:c<=4294967296) :
  ∃(e:TypeId) (z:Value),zv=AV.ofVal z/\(execOp a.eval (ZI ops k)).run P w=.ok (.value (.slice (some ⟨w.heap.size,0,none⟩) l c)) (w.alloc (.cells (madeCells #[z] c) e)):=by
 unfold Ct at hm
 generalize hoo:ZI ops k=o at hm
 obtain ⟨dst,op,type,pos,after,guard⟩:=o
 cases op<;>simp only at hm<;>try (cases hm)
 rename_i t lo co
 split at hm
 case h_2=>cases hm
 rename_i e ht
 split at hm
 case h_2=>cases hm
 rename_i i hi
 split at hm
 case h_2=>cases hm
 rename_i z hz
 split at hm
 case h_2=>cases hm
 rename_i z1 hzl hb
 simp only [Xb] at hb
 split at hm
 case h_2=>cases hm
 rename_i k1 l' k2 c' hl hco
 simp only [Wt,Prod.mk.injEq] at hm
 obtain ⟨rfl,rfl,rfl⟩:=hm
 have v1:=hF.ev lo
 have v2:=hF.ev co
 rw [hl] at v1
 rw [hco] at v2
 have v1:=v1.val_inv
 have v2:=v2.val_inv
 have hs:=UT hb.1
 have hbytes:=V6 hb.2
 have hzc:z.cells=#[z1]:=by rw [<-UH (xs:=z.cells),hzl]
 have hr:=run_make (P:=P) w t e i z ht hi hz k1 k2 (l:Int) (c:Int) om om (by
  have h1:(i.bytes:Int)<=32:=by omega
  have h2:(i.bytes:Int)*(c:Int)<=32*(c:Int):=Int.mul_le_mul_of_nonneg_right h1 om
  omega) om
 rw [hzc,hs,JE] at hr
 simp only [Tc] at hr
 refine ⟨e,z1,rfl,?_⟩
 simp only [execOp,v1,v2]
 exact Vr hr
end
section
variable {P:Program} {n:Nat} {ops:Array Oper} {B:Fr->List Res->Prop} {k:Nat} {F:Fr} {h h2:List Res}
variable {T:List (Nat × List Nat)} {fuel fuel':Nat} {done:List Nat}
theorem Zb4 {K:Fr->List Res->Prop} {ls:List AV} {len:Nat} (hd:VC n (ZI ops k)=true) (ha:To P ops F k=some (ls,len,1)) (hlen:ls.length=len)
  (hK:∀v,K (F.put (ZI ops k).dst (.val v)) (.vec v ls::h)):WE P n (ZI ops k) F h K:=by
 unfold To at ha
 generalize hoo:ZI ops k=q at ha hd hK
 obtain ⟨dst,op,type,pos,after,guard⟩:=q
 cases op<;>simp only at ha<;>try (cases ha)
 rename_i t ln parts
 split at ha
 case h_2=>cases ha
 rename_i e ht
 split at ha
 case h_2=>cases ha
 rename_i i hi
 split at ha
 case h_2=>cases ha
 rename_i hc
 simp only [Xb] at hc
 split at ha
 case h_2=>cases ha
 rename_i ls' hf
 simp only [Wt,Prod.mk.injEq] at ha
 obtain ⟨rfl,rfl,Xx⟩:=ha
 subst hlen
 intro Q w G a hF hh
 obtain ⟨cs,h1,h2⟩:=GU hF parts ht hi rfl hc.1 hc.2 hf
 have hr:(execOp a.eval { dst:=dst,op:=.buildSlice t ls'.length parts,type:=type,pos:=pos,after:=after,guard:=guard }).run P w =
   .ok (.value (.slice (some ⟨w.heap.size,0,none⟩) ls'.length ls'.length)) (w.alloc (.cells cs e)):=by
  simp only [execOp]
  exact Vr h2
 unfold Oper.wp
 rw [hr]
 have hlc:=h1.length
 simp only [JA] at hlc
 obtain ⟨j1,j2⟩:=hh.alloc_vec cs e (ls:=ls') (cap:=ls'.length) (X9 _) hlc (by rw [<-hlc];simpa [WT] using h1)
 exact ⟨_,_,G,hK _,(hF.mono (j2.agree hh)).put (Tk hd) .val,j1,j2⟩
theorem Z84 (ls:List AV) {len:Nat} (hk:Xj n ops F k=true) (ha:To P ops F k=some (ls,len,1)) (hlen:ls.length=len)
  (hK:∀v,SI P n ops B (k+1) (F.put (ZI ops k).dst (.val v)) (.vec v ls::h)):SI P n ops B k F h:=
 Q4 hk (Zb4 (Uf hk).2.1 ha hlen hK)
theorem Z89 (j:Nat) {v:Value} {ls:List AV} {i:Nat} {y:AV} (ls':List AV) (hk:Xj n ops F k=true) (hs:storeAt P ops F k=some (Qr v,i,[y])) (hp:UB [j] h=some ([.vec v ls],h2))
  (hlt:i<ls.length) (he:ls.set i y=ls') (H:SI P n ops B (k+1) F (.vec v ls'::h2)):SI P n ops B k F h:=
 Q4 hk (WE.perm (Uh hp) (PN hs hlt (by rw [he];exact H)))
theorem Z3i (i j:Nat) (js bs:List Nat) {v:Value} {ls:List AV} {q:Nat} {y:AV} (ls':List AV) (hk:Xj n ops F i=true) (hs:storeAt P ops F i=some (Qr v,q,[y]))
  (hp:UB [j] h=some ([.vec v ls],h2)) (hlt:q<ls.length) (he:ls.set q y=ls') (ho:Ue ops i T=bs) (hj:js.map (fun j=>(WM h2)[j]?)=bs.map some)
  (H:X5 P n ops B (T.filter fun t=>!V8 ops i t.1) fuel (done++[i]) F (.vec v ls'::h2)):Vc P n ops B T fuel done F h i:=
 J9 [j] js bs hk hp ho hj (PN (h2:=[]) hs hlt (by rw [he];exact H))
theorem Z88 (j:Nat) (ls':List AV) {v:Value} {ls xs:List AV} {hx:Option Value} (hk:Xj n ops F k=true) (ha:TH P ops F k=some (.val v,.sl xs hx,1)) (hp:UB [j] h=some ([.vec v ls],h2))
  (hxs:∀y∈xs,y.leaves=[y]) (hone:xs.all AV.one=true) (hbound:ls.length+xs.length<=4294967296) (he:ls++xs=ls')
  (hK:∀v',SI P n ops B (k+1) (F.put (ZI ops k).dst (.val v')) (.vec v' ls'::h2)):SI P n ops B k F h:=
 Q4 hk (WE.perm (Uh hp) (Zb9 (Uf hk).2.1 ha hxs hone hbound fun v'=>by rw [he];exact hK v'))
theorem Z39 (i:Nat) (f:FuncId) (as1 xs:List AV) (is js ks:List Nat) {h1:List Res} (bs:List Res) {R:AV->List Res->Prop} (hk:Xj n ops F i=true) (hc:JQ P ops F i=some (f,as1))
  (hp:UB is h=some (h1++bs,h2)) (ho:Ue ops i T=ks) (hj:js.map (fun j=>(WM h2)[j]?)=ks.map some)
  (H:WU P f xs h1 R) (hargs:TC bs as1 xs) (hb:∀r∈bs,∃v ls,r=.vec v ls/\∀y∈ls,∃u,y=.val u)
  (hclean:∀r h',R r h'->Kr h' r/\∀q∈h',Fe q)
  (hK:∀r h',R r h'->X5 P n ops B (T.filter fun t=>!V8 ops i t.1) fuel (done++[i]) (F.put (ZI ops i).dst r) (h'++bs++h2)):Vc P n ops B T fuel done F h i:=
 J9 is js ks hk hp ho hj (Ls (h2:=[]) (Uf hk).2.1 hc (by simp) (H.lend bs hargs hb hclean) fun r h' ⟨h1',hr,he⟩=>by rw [he];simpa using hK r h1' hr)
def Vm (h h':List Res):Prop:=∀w G,YI w G h->∃G',YI w G' h'/\X3 w G h w G' h'
theorem Xl {h':List Res} (ht:Vm h h') (H:SI P n ops B k F h'):SI P n ops B k F h:=by
 intro Q w G a hF hh hk
 obtain ⟨G',h1,h2⟩:=ht w G hh
 exact H Q w G' a (hF.mono (h2.agree hh)) h1 fun F2 h2' G2 a2 w2 b1 b2 b3 b4=>hk F2 h2' G2 a2 w2 b1 b2 b3 (h2.trans b4)
theorem Zft:Vm h (.vec (.slice none 0 0) []::h):=fun _ _ hh=>let ⟨a,b⟩:=Zg8 hh;⟨_,a,b⟩
theorem Zfu (j m:Nat) {v:Value} {ls:List AV} (hp:UB [j] h=some ([.vec v ls],h2)) (hle:m<=ls.length):Vm h (.vec (Ae v m) (ls.take m)::h2):=by
 intro w G hh
 have hp':=Uh hp
 obtain ⟨a,b⟩:=Zga (hh.perm hp') hle
 exact ⟨G,a,b.perm hp'.symm (TB _)⟩
theorem Z00 (is:List Nat) {h' d:List Res} (hp:UB is h=some (h',d)):Vm h h':=by
 intro w G hh
 have hp':=Uh hp
 refine ⟨G,(hh.perm hp').left,?_⟩
 exact ((X3.refl w G h).perm (TB _) hp').sub' (List.sublist_append_left _ _)
end
theorem Z0a (xs:LI):∀y∈Z6 xs,∃u,y=AV.val u:=by intro y hy;simp only [Z6,XN] at hy;obtain ⟨x,_,rfl⟩:=hy;exact ⟨_,rfl⟩
theorem P9 (xs:LI):∀y∈Z6 xs,y.leaves=[y]:=by intro y hy;simp only [Z6,XN] at hy;obtain ⟨x,_,rfl⟩:=hy;rfl
theorem Zax (xs:LI):(Z6 xs).all AV.one=true:=by rw [Af];intro y hy;simp only [Z6,XN] at hy;obtain ⟨x,_,rfl⟩:=hy;rfl
theorem S6 (xs:LI) (i:Nat) (x:Int):(Z6 xs).set i (.i x)=Z6 (xs.set i x):=by simp [Z6,List.map_set]
theorem A5:∀r∈([]:List Res),∃v ls,r=Res.vec v ls/\∀y∈ls,∃u,y=AV.val u:=by simp
theorem KJ {v:Value} {xs:LI} {bs:List Res} (h:∀r∈bs,∃v ls,r=Res.vec v ls/\∀y∈ls,∃u,y=AV.val u) :
  ∀r∈Res.vec v (Z6 xs)::bs,∃v ls,r=Res.vec v ls/\∀y∈ls,∃u,y=AV.val u:=by
 intro r hr
 rcases YM.1 hr with rfl|hr
 ·exact ⟨_,_,rfl,Z0a xs⟩
 ·exact h r hr
section
variable {P:Program} {n:Nat} {c:Code} {A:WV} {F:Fr} {h:List Res}
@[reducible] def FB (K:Fr->List Res->Prop) (A:WV):WV:=fun e F h=>
 match e with
 | .normal=>∃F' h',K F' h'/\Ti F h F' h'
 | e=>A e F h
theorem Z0t {y:Code} (K:Fr->List Res->Prop) (H:Yy P n c (FB K A) F h) (hB:∀F' h',K F' h'->Yy P n y A F' h'):Yy P n c (BJ P n y A) F h:=by
 refine Mz (fun e F1 h1 hq=>?_) H
 cases e with
 | normal=>obtain ⟨F',h',k1,k2⟩:=hq;exact CN k2 (hB F' h' k1)
 | exit id=>exact hq
 | goto l=>exact hq
 | ret=>exact hq
 | panic ch=>exact hq
 | outgrown=>exact hq
theorem ZJ {ops:Array Oper} {B:Fr->List Res->Prop} {k:Nat} {F2:Fr} {h2:List Res} (hw:Ti F h F2 h2) (J:SI P n ops B k F2 h2):SI P n ops B k F h:=GX hw J
theorem Z0s {y:Code} {A2:WV} (K:Fr->List Res->Prop) (hA:∀F h,A .normal F h=Yy P n y A2 F h) (H:Yy P n c (FB K A) F h) (hB:∀F' h',K F' h'->Yy P n y A2 F' h'):Yy P n c A F h:=by
 refine Mz (fun e F1 h1 hq=>?_) H
 cases e with
 | normal=>obtain ⟨F',h',k1,k2⟩:=hq;rw [hA];exact CN k2 (hB F' h' k1)
 | exit id=>exact hq
 | goto l=>exact hq
 | ret=>exact hq
 | panic ch=>exact hq
 | outgrown=>exact hq
end
end Go.Abs
section
namespace Go.Abs
inductive Keep:Fr->Fr->Prop
 | z {F:Fr}:Keep F []
 | r {F:Fr}:Keep F F
 | k {F F':Fr} {x:Nat × AV} (h:Keep F F'):Keep (x::F) (x::F')
 | d {F F':Fr} {x:Nat × AV} (h:Keep F F'):Keep (x::F) F'
 | p {F F':Fr} {d:Option Tmp} {x:AV} (h:Keep F F'):Keep (F.put d x) F'
 | q {F F':Fr} {d:Option Tmp} {x:AV} (t:Nat) (h:Keep F F'):Keep (F.put d x) ((t,x)::F')
 | n {F F':Fr} (t:Nat) (x:AV) (h:Keep F F'):Keep F ((t,x)::F')
def XC (is:List Nat) (h:List Res):List Res:=((UB is h).map (·.2)).getD []
def W8 (is:List Nat) (h:List Res):Option (List Res):=(UB is h).map (·.1)
theorem VG {is:List Nat} {h h1:List Res} (hp:W8 is h=some h1):UB is h=some (h1,XC is h):=by
 unfold W8 at hp
 unfold XC
 cases hq:UB is h with
 | none=>rw [hq] at hp;cases hp
 | some x=>rw [hq] at hp;cases hp;rfl
abbrev Z3 (xs:LI):AV:=.sl (Z6 xs) none
abbrev Dr (xs:List LI):AV:=.sl (Vf xs) none
abbrev QM (xs:List Yp):AV:=.sl (Wo xs) none
abbrev Yd (xs:List Ze):AV:=.sl (YU xs) none
abbrev Vj (xs:List Z5):AV:=.sl (ZT xs) none
abbrev Js (xs:List Z7):AV:=.sl (XP xs) none
abbrev Jt (xs:List YA):AV:=.sl (X8 xs) none
abbrev ZG (xs:LI) (v:Value):AV:=.sl (Z6 xs) (some v)
abbrev Lr (xs:List LI) (v:Value):AV:=.sl (Vf xs) (some v)
abbrev Dv (xs:List Yp) (v:Value):AV:=.sl (Wo xs) (some v)
abbrev Ke (xs:List Ze) (v:Value):AV:=.sl (YU xs) (some v)
abbrev Xh (xs:List Z5) (v:Value):AV:=.sl (ZT xs) (some v)
abbrev Q9 (xs:List Z7) (v:Value):AV:=.sl (XP xs) (some v)
abbrev WL (xs:List YA) (v:Value):AV:=.sl (X8 xs) (some v)
abbrev P4 (c:Yp):List AV:=[Z3 c.fields]
abbrev Cq (d:Ze):List AV:=[.i d.frm,.i d.to_,QM d.cons]
abbrev Wb (s:Z5):List AV:=[.i s.op,.i s.num,.i s.into,Z3 s.args,Js s.kids]
abbrev XV (b:Z7):List AV:=[Vj b.steps,.i b.result]
abbrev Jo (r:YA):List AV:=[Z3 r.params,Z3 r.lent,.i r.result,Vj r.body.steps,.i r.body.result]
abbrev X6 (n:ZF):List AV:=[Yd n.decls,Jt n.routines]
abbrev Zaj:Value:=.slice none 0 0
structure Hd where
 a:Option Addr
 l:Nat
 c:Nat
abbrev Hd.v (g:Hd):Value:=.slice g.a g.l g.c
abbrev Hd.cut (g:Hd) (m:Nat):Hd:=⟨g.a,m,g.c⟩
abbrev hN:Hd:=⟨none,0,0⟩
abbrev AV.h (g:Hd):AV:=.val g.v
abbrev rV (g:Hd) (xs:LI):Res:=.vec g.v (Z6 xs)
section
variable {P:Program} {n:Nat} {c:Code} {A:WV} {F:Fr} {h:List Res} {ops:Array Oper} {B:Fr->List Res->Prop} {k:Nat}
variable {T:List (Nat × List Nat)} {fuel:Nat} {done:List Nat}
theorem aq (ha:Yy P n (YP c) (BJ P n (VT c) A) F h) (hk:Xf c=3:=by kernel_rfl):Yy P n c A F h:=HF hk ha
theorem ar (hs:SI P n (XI (YP c)) (fun F h=>Yy P n (VT c) A F h) 0 F h) (hk:Xf c=3:=by kernel_rfl) (hk1:Xf (YP c)=1:=by kernel_rfl):Yy P n c A F h:=Z0w hk hk1 (OF hs)
theorem az (hs:SI P n (XI c) (A .normal) 0 F h) (hk:Xf c=1:=by kernel_rfl):Yy P n c A F h:=MA hk (OF hs)
theorem aD (k:Nat) (hs:X5 P n (XI (YP c)) (fun F h=>Yy P n (VT c) A F h) [] k [] F h) (hk:Xf c=3:=by kernel_rfl) (hk2:Xf (YP c)=2:=by kernel_rfl) (hm:P.follows .mixedOrders=true:=by kernel_rfl)
  (Xx:(XI (YP c)).size=k:=by kernel_rfl):Yy P n c A F h:=Z0x hk hk2 hm Xx hs
theorem aE (k:Nat) (hs:X5 P n (XI c) (A .normal) [] k [] F h) (hk:Xf c=2:=by kernel_rfl) (hm:P.follows .mixedOrders=true:=by kernel_rfl)
  (Xx:(XI c).size=k:=by kernel_rfl):Yy P n c A F h:=MB hk hm Xx hs
theorem ak (h0:A .normal F h) (hk:Xf c=0:=by kernel_rfl):Yy P n c A F h:=Z11 hk h0
theorem ax (id:Nat) (h0:A (.exit id) F h) (hk:Xf c=7:=by kernel_rfl) (hi:K0 c=id:=by kernel_rfl):Yy P n c A F h:=Z0u id hk hi h0
theorem ab (id:Nat) (ha:Yy P n (YP c) (Fp id A) F h) (hk:Xf c=5:=by kernel_rfl) (hi:K0 c=id:=by kernel_rfl):Yy P n c A F h:=Z0r id hk hi ha
theorem ac (b:Bool) {p:Prop} (hp:b=true↔p) (h1:p->Yy P n (YP c) A F h) (h2:¬p->Yy P n (VT c) A F h) (hk:Xf c=4:=by kernel_rfl) (hc:F.ev (As c)=.val (.bool b):=by kernel_rfl) :
  Yy P n c A F h:=HE hk hc hp h1 h2
theorem Vn (h1:Yy P n (YP c) A F h) (hk:Xf c=4:=by kernel_rfl) (hc:F.ev (As c)=.val (.bool true):=by kernel_rfl):Yy P n c A F h:=
 HE (p:=True) hk hc (by simp) (fun _=>h1) (fun q=>absurd trivial q)
theorem WW (h1:Yy P n (VT c) A F h) (hk:Xf c=4:=by kernel_rfl) (hc:F.ev (As c)=.val (.bool false):=by kernel_rfl):Yy P n c A F h:=
 HE (p:=False) hk hc (by simp) (fun q=>q.elim) (fun _=>h1)
theorem al (Inv:Nat->Fr->List Res->Prop) (m0:Nat) (F0:Fr) (h0:List Res) (hi:Inv m0 F0 h0) (hw:Ti F h F0 h0)
  (hr:∀m F h,Inv m F h->Yy P n (YP c) (Ll Inv m A) F h) (hk:Xf c=6:=by kernel_rfl):Yy P n c A F h:=Z0v Inv hk hi hw hr
theorem wk {F':Fr} {h1 h':List Res} (is:List Nat) (hF:F.Le F') (e:h1=h':=by exact rfl) (hp:W8 is h=some h1:=by kernel_rfl):Ti F h F' h':=e▸Zgk is hF (VG hp)
theorem fl {F F':Fr} (h:F'.map (fun p=>(F.get p.1).like p.2)=F'.map (·.2):=by kernel_rfl):F.Le F':=O5 h
theorem fc {F F':Fr} {t:Nat} {x y:AV} (hxy:Zc x y) (hr:F.Le F') (hx:F.get t=x:=by kernel_rfl):F.Le ((t,y)::F'):=Dc hx hxy hr
theorem lr (x:AV):Zc x x:=Zc.refl x
abbrev nl:AV:=.sl [] (some (.slice none 0 0))
theorem Keep.w {F F':Fr} {a b c d:Nat×AV} (h:Keep F F'):Keep (a::b::c::d::F) (a::b::c::d::F'):=.k (.k (.k (.k h)))
theorem dq {p:Prop} [Decidable p]:decide p=true↔p:=decide_eq_true_iff
theorem fr {F F':Fr} {t:Nat} {x:AV} (hr:F.Le F') (hx:F.get t=x:=by kernel_rfl):F.Le ((t,x)::F'):=fc (lr _) hr hx
theorem li {a b:Int} (h:a=b:=by exact ob):Zc (.i a) (.i b):=Zc.i h
theorem lb {a b:Bool} (h:a=b:=by exact ob):Zc (.b a) (.b b):=Zc.b h
theorem r1 {fn:Func} {R:AV->List Res->Prop} {e:Exit} {h1 h':List Res} {r:AV} (is:List Nat) (hR:R r h') (eq:h1=h':=by exact rfl) (he:(match e with|.normal|.ret=>true|_=>false)=true:=by kernel_rfl)
  (hr:QR P F h fn.results.toList []=some ([r],[]):=by kernel_rfl) (hp:W8 is h=some h1:=by kernel_rfl):B9 P fn R e F h:=
 Lx he [] hr (by simp) ⟨_,eq▸Uh (VG hp)⟩ (Zc.refl _) hR
theorem r2 {fn:Func} {R:AV->List Res->Prop} {e:Exit} {h1 h':List Res} {r:AV} (is:List Nat) (xs:List AV) (hR:R r h') (hle:Zc (AT xs) r) (eq:h1=h':=by exact rfl) (he:(match e with|.normal|.ret=>true|_=>false)=true:=by kernel_rfl)
  (hr:QR P F h fn.results.toList []=some (xs,[]):=by kernel_rfl) (hp:W8 is h=some h1:=by kernel_rfl):B9 P fn R e F h:=
 Lx he [] hr (by simp) ⟨_,eq▸Uh (VG hp)⟩ hle hR
theorem r3 {fn:Func} {R:AV->List Res->Prop} {e:Exit} {h1 h':List Res} {r:AV} (is:List Nat) (xs:List AV) (hints:List Nat) (es:List (Nat × Nat)) (hR:R r h') (hle:Zc (AT xs) r)
  (eq:h1=h':=by exact rfl) (he:(match e with|.normal|.ret=>true|_=>false)=true:=by kernel_rfl)
  (hr:QR P F h fn.results.toList hints=some (xs,es):=by kernel_rfl) (hp:W8 is h=some h1:=by kernel_rfl) (hes:∀p∈es,p.1=p.2:=by simp):B9 P fn R e F h:=
 Lx he hints hr hes ⟨_,eq▸Uh (VG hp)⟩ hle hR
theorem at_ (h0:A .ret F h) (hk:Xf c=8:=by kernel_rfl):Yy P n c A F h:=Z0y hk h0
theorem ie (hB:B F h) (hk:Nat.ble ops.size k=true:=by kernel_rfl):SI P n ops B k F h:=OE hk hB
theorem io (x':AV) (x:AV) (hx:Zc x x') (H:SI P n ops B (k+1) (F.put (ZI ops k).dst x') h) (hk:Xj n ops F k=true:=by kernel_rfl) (he:TZ P (ZI ops k) F h 0=some (x,[]):=by kernel_rfl):SI P n ops B k F h:=
 Z85 x' hk he hx H
theorem Zq {x:AV} (hs:XW P (ZI ops k) F h [] x) (H:SI P n ops B (k+1) (F.put (ZI ops k).dst x) h) (hk:Xj n ops F k=true:=by kernel_rfl):SI P n ops B k F h:=Es hk hs H
theorem ia (r s:Int) (H:SI P n ops B (k+1) (F.put (ZI ops k).dst (.i r)) h) (hb:-9223372036854775808<=r/\r<=9223372036854775807:=by omega) (hs:s=r:=by omega)
  (hk:Xj n ops F k=true:=by kernel_rfl) (ha:JK ops F k=some s:=by kernel_rfl):SI P n ops B k F h:=Z7z r hk ha hs hb H
theorem ic (is:List Nat) {f:FuncId} {xs:List AV} {h1:List Res} {R:AV->List Res->Prop} (H:WU P f xs h1 R)
  (hK:∀r h',R r h'->SI P n ops B (k+1) (F.put (ZI ops k).dst r) (h'++XC is h)) (hk:Xj n ops F k=true:=by kernel_rfl) (hc:JQ P ops F k=some (f,xs):=by kernel_rfl)
  (hp:W8 is h=some h1:=by kernel_rfl):SI P n ops B k F h:=Z80 f xs is hk hc (VG hp) H hK
theorem iA (ls:List AV) (hK:∀b,SI P n ops B (k+1) (F.put (ZI ops k).dst (.p b 0)) (.obj b ls::h)) (hk:Xj n ops F k=true:=by kernel_rfl) (ha:CO P ops F k=some ls:=by kernel_rfl):SI P n ops B k F h:=
 Z7x ls hk ha hK
theorem iS (j b o:Nat) (xs ls ls':List AV) (H:SI P n ops B (k+1) F (.obj b ls'::XC [j] h)) (hk:Xj n ops F k=true:=by kernel_rfl) (hs:storeAt P ops F k=some (b,o,xs):=by kernel_rfl)
  (hp:W8 [j] h=some [.obj b ls]:=by kernel_rfl) (hle:Nat.ble (o+xs.length) ls.length=true:=by kernel_rfl) (he:ls.take o++xs++ls.drop (o+xs.length)=ls':=by kernel_rfl):SI P n ops B k F h:=
 Z87 j ls' hk hs (VG hp) hle he H
theorem iL (es:List AV) (len sz:Nat) (hK:∀v,SI P n ops B (k+1) (F.put (ZI ops k).dst (.sl es (some v))) (.tail v sz::h)) (hk:Xj n ops F k=true:=by kernel_rfl)
  (ha:To P ops F k=some (Zg es,len,sz):=by kernel_rfl) (hlen:es.length=len:=by kernel_rfl) (hall:Aq es sz=true:=by kernel_rfl):SI P n ops B k F h:=Z83 es hk ha hlen hall hK
theorem ip (j:Nat) (es' es xs:List AV) (hv:Value) (hx:Option Value) (sz:Nat) (hes:∀y∈es,y.leaves.length=sz) (hxs:∀y∈xs,y.leaves.length=sz)
  (hone:(Zg xs).all AV.one=true) (hbound:es.length+xs.length<=4294967296) (he:es++xs=es') (hK:∀v',SI P n ops B (k+1) (F.put (ZI ops k).dst (.sl es' (some v'))) (.tail v' sz::XC [j] h))
  (hk:Xj n ops F k=true:=by kernel_rfl) (ha:TH P ops F k=some (.sl es (some hv),.sl xs hx,sz):=by kernel_rfl) (hp:W8 [j] h=some [.tail hv sz]:=by kernel_rfl):SI P n ops B k F h:=
 Z7y j es' hk ha (VG hp) hes hxs hone hbound he hK
theorem ib {b:Bool} (t:Nat) (h1:b=true->SI P n ops B k ((t,.b true)::F) h) (h2:b=false->SI P n ops B k ((t,.b false)::F) h) (hF:F.get t=.b b:=by kernel_rfl):SI P n ops B k F h:=Z86 t hF h1 h2
theorem de (hB:B F h) (hr:Region.ready .any ops (WG ops done)=[]:=by kernel_rfl):X5 P n ops B T fuel done F h:=Z3b hr hB
theorem Z8 (i:Nat) (H:Vc P n ops B T fuel done F h i) (hr:Region.ready .any ops (WG ops done)=[i]:=by kernel_rfl):X5 P n ops B T (fuel+1) done F h:=Z3e hr H
theorem dx (i:Nat) {x:AV} (hx:XW P (ZI ops i) F h [] x) (H:X5 P n ops B ((i,[])::T) fuel (done++[i]) (F.put (ZI ops i).dst x) h) (hs:Region.noSelect ops=true:=by kernel_rfl) (hk:Xj n ops F i=true:=by kernel_rfl)
  (hf:Region.free .any ops (WG ops done) i=true:=by kernel_rfl) (hr:(Region.ready .any ops (WG ops done)).contains i=true:=by kernel_rfl):X5 P n ops B T (fuel+1) done F h:=FC i hs hk hf hr hx H
theorem dn (i:Nat) (x' x:AV) (hx:Zc x x') (H:X5 P n ops B ((i,[])::T) fuel (done++[i]) (F.put (ZI ops i).dst x') h) (he:TZ P (ZI ops i) F h 0=some (x,[]):=by kernel_rfl) (hs:Region.noSelect ops=true:=by kernel_rfl) (hk:Xj n ops F i=true:=by kernel_rfl)
  (hf:Region.free .any ops (WG ops done) i=true:=by kernel_rfl) (hr:(Region.ready .any ops (WG ops done)).contains i=true:=by kernel_rfl):X5 P n ops B T (fuel+1) done F h:=Z3d i x' hs hk hf hr he hx H
theorem da (i:Nat) (r s:Int) (H:X5 P n ops B ((i,[])::T) fuel (done++[i]) (F.put (ZI ops i).dst (.i r)) h) (hb:-9223372036854775808<=r/\r<=9223372036854775807:=by omega) (hse:s=r:=by omega)
  (ha:JK ops F i=some s:=by kernel_rfl) (hs:Region.noSelect ops=true:=by kernel_rfl) (hk:Xj n ops F i=true:=by kernel_rfl)
  (hf:Region.free .any ops (WG ops done) i=true:=by kernel_rfl) (hr:(Region.ready .any ops (WG ops done)).contains i=true:=by kernel_rfl):X5 P n ops B T (fuel+1) done F h:=Z37 i r hs hk hf hr ha hse hb H
theorem dc (i:Nat) (is js bs:List Nat) {f:FuncId} {xs:List AV} {h1:List Res} {R:AV->List Res->Prop} (H:WU P f xs h1 R)
  (hK:∀r h',R r h'->X5 P n ops B (T.filter fun t=>!V8 ops i t.1) fuel (done++[i]) (F.put (ZI ops i).dst r) (h'++XC is h))
  (hk:Xj n ops F i=true:=by kernel_rfl) (hc:JQ P ops F i=some (f,xs):=by kernel_rfl)
  (hp:W8 is h=some h1:=by kernel_rfl) (ho:Ue ops i T=bs:=by kernel_rfl) (hj:js.map (fun j=>(WM (XC is h))[j]?)=bs.map some:=by kernel_rfl):Vc P n ops B T fuel done F h i:=
 Z38 i f xs is js bs hk hc (VG hp) ho hj H hK
theorem dA (i:Nat) (js bs:List Nat) (ls:List AV) (hK:∀b,X5 P n ops B (T.filter fun t=>!V8 ops i t.1) fuel (done++[i]) (F.put (ZI ops i).dst (.p b 0)) (.obj b ls::h))
  (hk:Xj n ops F i=true:=by kernel_rfl) (ha:CO P ops F i=some ls:=by kernel_rfl) (ho:Ue ops i T=bs:=by kernel_rfl) (hj:js.map (fun j=>(WM h)[j]?)=bs.map some:=by kernel_rfl):Vc P n ops B T fuel done F h i:=
 Z35 i js bs ls hk ha ho hj hK
theorem dL (i:Nat) (js bs:List Nat) (es:List AV) (len sz:Nat) (hK:∀v,X5 P n ops B (T.filter fun t=>!V8 ops i t.1) fuel (done++[i]) (F.put (ZI ops i).dst (.sl es (some v))) (.tail v sz::h))
  (hk:Xj n ops F i=true:=by kernel_rfl) (ha:To P ops F i=some (Zg es,len,sz):=by kernel_rfl) (hlen:es.length=len:=by kernel_rfl) (hall:Aq es sz=true:=by kernel_rfl)
  (ho:Ue ops i T=bs:=by kernel_rfl) (hj:js.map (fun j=>(WM h)[j]?)=bs.map some:=by kernel_rfl):Vc P n ops B T fuel done F h i:=
 Z3c i js bs es hk ha hlen hall ho hj hK
theorem dp (i j:Nat) (js bs:List Nat) (es' es xs:List AV) (hv:Value) (hx:Option Value) (sz:Nat) (hes:∀y∈es,y.leaves.length=sz) (hxs:∀y∈xs,y.leaves.length=sz)
  (hone:(Zg xs).all AV.one=true) (hbound:es.length+xs.length<=4294967296) (he:es++xs=es')
  (hK:∀v',X5 P n ops B (T.filter fun t=>!V8 ops i t.1) fuel (done++[i]) (F.put (ZI ops i).dst (.sl es' (some v'))) (.tail v' sz::XC [j] h))
  (hk:Xj n ops F i=true:=by kernel_rfl) (ha:TH P ops F i=some (.sl es (some hv),.sl xs hx,sz):=by kernel_rfl) (hp:W8 [j] h=some [.tail hv sz]:=by kernel_rfl)
  (ho:Ue ops i T=bs:=by kernel_rfl) (hj:js.map (fun q=>(WM (XC [j] h))[q]?)=bs.map some:=by kernel_rfl):Vc P n ops B T fuel done F h i:=
 Z36 i j js bs es' hk ha (VG hp) hes hxs hone hbound he ho hj hK
theorem dS (i j:Nat) (js bs:List Nat) (b o:Nat) (xs ls ls':List AV) (H:X5 P n ops B (T.filter fun t=>!V8 ops i t.1) fuel (done++[i]) F (.obj b ls'::XC [j] h))
  (hk:Xj n ops F i=true:=by kernel_rfl) (hs:storeAt P ops F i=some (b,o,xs):=by kernel_rfl)
  (hp:W8 [j] h=some [.obj b ls]:=by kernel_rfl) (hle:Nat.ble (o+xs.length) ls.length=true:=by kernel_rfl) (he:ls.take o++xs++ls.drop (o+xs.length)=ls':=by kernel_rfl) (ho:Ue ops i T=bs:=by kernel_rfl)
  (hj:js.map (fun q=>(WM (XC [j] h))[q]?)=bs.map some:=by kernel_rfl):Vc P n ops B T fuel done F h i:=
 Z3g i j js bs ls' hk hs (VG hp) hle he ho hj H
theorem db {b:Bool} (t:Nat) (h1:b=true->X5 P n ops B T fuel done ((t,.b true)::F) h) (h2:b=false->X5 P n ops B T fuel done ((t,.b false)::F) h) (hF:F.get t=.b b:=by kernel_rfl):X5 P n ops B T fuel done F h:=Z3f t hF h1 h2
theorem rz:([]:List Res)=[]:=rfl
theorem rc {x:Res} {t t':List Res} (e:t=t'):x::t=x::t':=e▸rfl
theorem rv {g:Hd} {xs xs':LI} {t t':List Res} (h:xs=xs') (e:t=t'):rV g xs::t=rV g xs'::t':=h▸e▸rfl
theorem Sa {v:Value} {ls:List AV} (H:∀g:Hd,v=g.v->SI P n ops B k F (.vec v ls::h)):SI P n ops B k F (.vec v ls::h):=by
 intro Q w G a hF hh
 obtain ⟨a',cap,rfl⟩:=BU.form (hh.ok _ (Xp ..))
 exact H ⟨a',_,cap⟩ rfl Q w G a hF hh
theorem CG (j:Nat) (v:Hd) (xs:LI) (hl:Dp P ops F k=some (.h v):=by kernel_rfl) (hj:h[j]? = some (rV v xs):=by kernel_rfl):XW P (ZI ops k) F h [] (.i xs.length):=by
 have:=Zfe (P:=P) (F:=F) j hl hj
 rwa [Yc] at this
theorem U3 (j:Nat) (v:Hd) (xs:LI) (i:Int) (q:Nat) (h0:0<=i/\i<xs.length:=by omega) (hq:i.toNat=q:=by omega) (hi:Bp P ops F k=some (.h v,i,1):=by kernel_rfl) (hj:h[j]? = some (rV v xs):=by kernel_rfl) :
  XW P (ZI ops k) F h [] (.val (.pointer (some ⟨Qr v.v,q,none⟩))):=by
 have:=Zfd (P:=P) (F:=F) j hi hj h0.1 (by rw [Yc];exact h0.2)
 rwa [hq] at this
theorem Qb (j:Nat) (v:Hd) (xs:LI) (q:Nat) (y:Int) (hy:xs[q]? = some y) (hl:Lj P ops F k=some (.val (.pointer (some ⟨Qr v.v,q,none⟩))):=by kernel_rfl) (hj:h[j]? = some (rV v xs):=by kernel_rfl) :
  XW P (ZI ops k) F h [Qr v.v] (.i y):=Zff (P:=P) (F:=F) j hl hj (Y7 hy)
theorem U7 {ks:List Nat} {x:AV} (hs:XW P (ZI ops k) F h ks x) (H:SI P n ops B (k+1) (F.put (ZI ops k).dst x) h) (hk:Xj n ops F k=true:=by kernel_rfl):SI P n ops B k F h:=Es hk hs H
theorem Ur (i:Nat) {ks:List Nat} {x:AV} (hx:XW P (ZI ops i) F h ks x) (H:X5 P n ops B ((i,ks)::T) fuel (done++[i]) (F.put (ZI ops i).dst x) h) (hs:Region.noSelect ops=true:=by kernel_rfl) (hk:Xj n ops F i=true:=by kernel_rfl)
  (hf:Region.free .any ops (WG ops done) i=true:=by kernel_rfl) (hr:(Region.ready .any ops (WG ops done)).contains i=true:=by kernel_rfl):X5 P n ops B T (fuel+1) done F h:=FC i hs hk hf hr hx H
theorem DR (j:Nat) (v:Hd) (xs:LI) (m:Nat) (hle:m<=xs.length:=by omega) (hi:DH P ops F k=some (.h v,(m:Int)):=by kernel_rfl) (hj:h[j]? = some (rV v xs):=by kernel_rfl) :
  XW P (ZI ops k) F h [] (.h (v.cut m)):=Zfg (P:=P) (F:=F) j hi hj (by rw [Yc];exact hle)
theorem IT (j:Nat) (v:Hd) (xs:LI) (q:Nat) (y:Int) (H:SI P n ops B (k+1) F (rV v (xs.set q y)::XC [j] h)) (hlt:q<xs.length:=by omega) (hk:Xj n ops F k=true:=by kernel_rfl)
  (hs:storeAt P ops F k=some (Qr v.v,q,[.i y]):=by kernel_rfl) (hp:W8 [j] h=some [rV v xs]:=by kernel_rfl):SI P n ops B k F h:=
 Z89 j _ hk hs (VG hp) (by rw [Yc];exact hlt) (S6 _ _ _) H
theorem C4 (i j:Nat) (js bs:List Nat) (v:Hd) (xs:LI) (q:Nat) (y:Int) (H:X5 P n ops B (T.filter fun t=>!V8 ops i t.1) fuel (done++[i]) F (rV v (xs.set q y)::XC [j] h)) (hlt:q<xs.length:=by omega)
  (hk:Xj n ops F i=true:=by kernel_rfl)
  (hs:storeAt P ops F i=some (Qr v.v,q,[.i y]):=by kernel_rfl) (hp:W8 [j] h=some [rV v xs]:=by kernel_rfl) (ho:Ue ops i T=bs:=by kernel_rfl)
  (hj:js.map (fun q=>(WM (XC [j] h))[q]?)=bs.map some:=by kernel_rfl):Vc P n ops B T fuel done F h i:=
 Z3i i j js bs _ hk hs (VG hp) (by rw [Yc];exact hlt) (S6 _ _ _) ho hj H
theorem AM (j:Nat) (v:Hd) (xs ys:LI) (hx:Option Value) (hK:∀v',SI P n ops B (k+1) (F.put (ZI ops k).dst (.h v')) (rV v' (xs++ys)::XC [j] h)) (hbound:xs.length+ys.length<=4294967296:=by simp<;>omega)
  (hk:Xj n ops F k=true:=by kernel_rfl) (ha:TH P ops F k=some (.h v,.sl (Z6 ys) hx,1):=by kernel_rfl) (hp:W8 [j] h=some [rV v xs]:=by kernel_rfl):SI P n ops B k F h:=
 Z88 j _ hk ha (VG hp) (P9 _) (Zax _) (by simpa using hbound) (W6 _ _).symm fun v'=>Sa fun g hg=>by subst hg;exact hK g
theorem iVL (xs:LI) (len:Nat) (hK:∀v,SI P n ops B (k+1) (F.put (ZI ops k).dst (.h v)) (rV v xs::h)) (hk:Xj n ops F k=true:=by kernel_rfl) (ha:To P ops F k=some (Z6 xs,len,1):=by kernel_rfl)
  (hlen:xs.length=len:=by kernel_rfl):SI P n ops B k F h:=Z84 _ hk ha (by rw [Yc];exact hlen) fun v'=>Sa fun g hg=>by subst hg;exact hK g
def Hv (R:AV->List Res->Prop):Prop:=∀r h',R r h'->Kr h' r/\∀q∈h',Fe q
theorem Fy {x:Value}:Hv fun r h=>r=.val x/\h=[]:=by rintro _ _ ⟨rfl,rfl⟩;exact ⟨.val,by simp⟩
theorem CS {xs:LI}:Hv fun r h=>∃v:Hd,r=.h v/\h=[rV v xs]:=by
 rintro _ _ ⟨v,rfl,rfl⟩;exact ⟨.val,by simpa [Fe] using Z0a xs⟩
theorem JU (i:Nat) (is js ks:List Nat) {f:FuncId} {as1 xs:List AV} {h1:List Res} (bs:List Res) {R:AV->List Res->Prop} (H:WU P f xs h1 R) (hcl:Hv R) (hargs:TC bs as1 xs)
  (hb:∀r∈bs,∃v ls,r=.vec v ls/\∀y∈ls,∃u,y=.val u)
  (hK:∀r h',R r h'->X5 P n ops B (T.filter fun t=>!V8 ops i t.1) fuel (done++[i]) (F.put (ZI ops i).dst r) (h'++(bs++XC is h)))
  (hk:Xj n ops F i=true:=by kernel_rfl) (hc:JQ P ops F i=some (f,as1):=by kernel_rfl)
  (hp:W8 is h=some (h1++bs):=by kernel_rfl) (ho:Ue ops i T=ks:=by kernel_rfl) (hj:js.map (fun j=>(WM (XC is h))[j]?)=ks.map some:=by kernel_rfl):Vc P n ops B T fuel done F h i:=
 Z39 i f as1 xs is js ks bs hk hc (VG hp) ho hj H hargs hb hcl fun r h' hr=>by rw [VP];exact hK r h' hr
theorem gN {bs:List Res}:TC bs [] []:=.nil
theorem Zag {bs:List Res} {r:Res} (i:Nat) (h:bs[i]? = some r):r∈bs:=Y4 h
theorem gS {bs:List Res} {x:AV} {as1 xs:List AV} (t:TC bs as1 xs):TC bs (x::as1) (x::xs):=.same t
theorem gL {bs:List Res} {v:Hd} {ys:LI} {as1 xs:List AV} (i:Nat) (t:TC bs as1 xs) (h:bs[i]? = some (rV v ys):=by kernel_rfl):TC bs (.h v::as1) (Z3 ys::xs):=.lent (Zag i h) t
theorem Zfq (j:Nat) (b':Nat) (ls ls':List AV) (hle:Vt ls ls') (hp:W8 [j] h=some [.obj b' ls]:=by kernel_rfl):Vm h (.obj b' ls'::XC [j] h):=by
 intro w G hh
 have hp':=Uh (VG hp)
 have hh':=hh.perm hp'
 have hpw:=Va.1 hh'.apart
 refine ⟨G,⟨fun r hr=>?_,Va.2 ⟨fun r hr=>hpw.1 r hr,hpw.2⟩,fun r hr=>?_,hh'.lt⟩,?_⟩
 ·rcases YM.1 hr with rfl|hr
  ·obtain ⟨cs,e,h1,h2⟩:=hh'.ok _ (Xp ..)
   exact ⟨cs,e,h1,Vt.cs hle h2⟩
  ·exact hh'.ok r (XG _ hr)
 ·rcases YM.1 hr with rfl|hr
  ·exact fun b o hf hg=>hh'.prot (.obj b' ls) (Xp ..) b o hf hg
  ·exact hh'.prot r (XG _ hr)
 ·refine ⟨rfl,rfl,rfl,X9 _,fun _ _ h=>h,fun _ _=>.inl rfl,fun _ _ _ h=>.inl h,?_⟩
  rintro b2 o _ ⟨r,hr,hf⟩
  rw [Ci hp']
  rcases YM.1 hr with rfl|hr
  ·exact ⟨_,Xp ..,hf⟩
  ·exact ⟨r,XG _ hr,hf⟩
theorem Zc.hd {es:List AV} {v:Hd}:Zc (.sl es (some v.v)) (.h v):=by
 intro w G u h
 cases h with
 | nil hh=>rw [<-hh _ rfl];exact .val
 | sl hh _ _=>rw [<-hh _ rfl];exact .val
theorem DO (j m:Nat) (v:Hd) (xs:LI) (hle:m<=xs.length:=by omega) (hp:W8 [j] h=some [rV v xs]:=by kernel_rfl):Vm h (rV (v.cut m) (xs.take m)::XC [j] h):=by
 have:=Zfu (h:=h) j m (VG hp) (by rw [Yc];exact hle)
 rwa [Cc] at this
theorem DP:Vm h (rV hN []::h):=Zft
theorem C5 {h':List Res} (ht:Vm h h') (H:X5 P n ops B T fuel done F h'):X5 P n ops B T fuel done F h:=by
 intro Q w G a SL hF hh hQ hcl hcov hk
 obtain ⟨G',h1,h2⟩:=ht w G hh
 exact H Q w G' a SL (hF.mono (h2.agree hh)) h1 hQ hcl (fun p hp=>let ⟨t,ht,e,f⟩:=hcov p hp;⟨t,ht,e,fun w' hw hb=>f w' (fun b o hg=>hw b o (h2.sub b o hg)) hb⟩)
  fun F2 h2' G2 a2 w2 b1 b2 b3 b4=>hk F2 h2' G2 a2 w2 b1 b2 b3 (h2.trans b4)
end
end Go.Abs
namespace Go.Abs
section
variable {P:Program} {n:Nat} {ops:Array Oper} {B:Fr->List Res->Prop} {k:Nat} {F:Fr} {h:List Res}
variable {T:List (Nat × List Nat)} {fuel:Nat} {done:List Nat} {c:Code} {A:WV}
def qF (P:Program) (n:Nat) (ops:Array Oper) (h:List Res) (k m:Nat) (F:Fr) (hints:List Nat):Fr:=
 match Qm P n ops h m (ops.toList.drop k) F hints with|some (_,F1,_)=>F1|none=>F
def qA (P:Program) (n:Nat) (ops:Array Oper) (h:List Res) (k m:Nat) (F:Fr) (hints:List Nat):List Nat:=
 match Qm P n ops h m (ops.toList.drop k) F hints with|some (_,_,es)=>es.map (·.1)|none=>[0]
def qB (P:Program) (n:Nat) (ops:Array Oper) (h:List Res) (k m:Nat) (F:Fr) (hints:List Nat):List Nat:=
 match Qm P n ops h m (ops.toList.drop k) F hints with|some (_,_,es)=>es.map (·.2)|none=>[1]
theorem Zu (m:Nat) (hints:List Nat) (H:SI P n ops B (k+m) (qF P n ops h k m F hints) h) (he:qA P n ops h k m F hints=qB P n ops h k m F hints:=by kernel_rfl):SI P n ops B k F h:=by
 unfold qA qB at he
 unfold qF at H
 cases hr:Qm P n ops h m (ops.toList.drop k) F hints with
 | none=>rw [hr] at he;cases he
 | some y=>
  obtain ⟨l,F1,es⟩:=y
  rw [hr] at he H
  have hd:=LN m hr
  rw [List.drop_drop] at hd
  refine LQ m hr (Lw he) ?_
  rw [hd]
  exact H
theorem Z0 (m:Nat) (H:SI P n ops B (k+m) (qF P n ops h k m F []) h) (he:qA P n ops h k m F []=qB P n ops h k m F []:=by kernel_rfl):SI P n ops B k F h:=Zu m [] H he
theorem WI (hints:List Nat) (H:B (qF P n ops h k (ops.size-k) F hints) h) (he:qA P n ops h k (ops.size-k) F hints=qB P n ops h k (ops.size-k) F hints:=by kernel_rfl):SI P n ops B k F h:=
 Zu (ops.size-k) hints (OE (Nat.ble_eq_true_of_le om) H) he
theorem Z1 (H:B (qF P n ops h k (ops.size-k) F []) h) (he:qA P n ops h k (ops.size-k) F []=qB P n ops h k (ops.size-k) F []:=by kernel_rfl):SI P n ops B k F h:=WI [] H he
def Cz (P:Program) (n:Nat) (ops:Array Oper) (h:List Res) (is done:List Nat) (F:Fr) (hints:List Nat):Fr:=
 match KO P n ops h is done F hints with|some (F1,_)=>F1|none=>F
def EP (P:Program) (n:Nat) (ops:Array Oper) (h:List Res) (is done:List Nat) (F:Fr) (hints:List Nat):List Nat:=
 match KO P n ops h is done F hints with|some (_,es)=>es.flatMap (fun e=>e.2.map (·.1))|none=>[0]
def EQ (P:Program) (n:Nat) (ops:Array Oper) (h:List Res) (is done:List Nat) (F:Fr) (hints:List Nat):List Nat:=
 match KO P n ops h is done F hints with|some (_,es)=>es.flatMap (fun e=>e.2.map (·.2))|none=>[1]
theorem ZY (f m:Nat) (is:List Nat) (hints:List Nat) (H:X5 P n ops B ((EG P n ops h is done F hints).reverse++T) f (done++is) (Cz P n ops h is done F hints) h) (hf:m=f+is.length:=by kernel_rfl)
  (he:EP P n ops h is done F hints=EQ P n ops h is done F hints:=by kernel_rfl) (hs:Region.noSelect ops=true:=by kernel_rfl):X5 P n ops B T m done F h:=by
 unfold EP EQ at he
 unfold EG Cz at H
 cases hr:KO P n ops h is done F hints with
 | none=>rw [hr] at he;cases he
 | some y=>
  obtain ⟨F1,es⟩:=y
  rw [hr] at he H
  exact HZ is hs hr (PS he) hf H
theorem Zs (f m:Nat) (is:List Nat) (H:X5 P n ops B ((EG P n ops h is done F []).reverse++T) f (done++is) (Cz P n ops h is done F []) h) (hf:m=f+is.length:=by kernel_rfl)
  (he:EP P n ops h is done F []=EQ P n ops h is done F []:=by kernel_rfl) (hs:Region.noSelect ops=true:=by kernel_rfl):X5 P n ops B T m done F h:=ZY f m is [] H hf he hs
def EK (ov F:Fr):Fr:=ov++F
theorem Ix {F':Fr} (hr:F.Le F'):∀(ov:Fr),ov.map (fun p=>(F.get p.1).like p.2)=ov.map (·.2)->F.Le (EK ov F')
 | [],_=>hr
 | (t,y)::ov,he=>by
  simp only [Td,List.cons.injEq] at he
  have h1:F.Le [(t,y)]:=O5 (by simp [he.1])
  intro w G v s hv
  have h2:=h1 w G v s hv
  have h3:=Ix hr ov he.2 w G v s hv
  show RV w G (match Nat.beq t s with|true=>y|false=>Fr.get (ov++F') s) v
  change RV w G (match Nat.beq t s with|true=>y|false=>Fr.get [] s) v at h2
  cases hq:Nat.beq t s with
  | true=>rw [hq] at h2;exact h2
  | false=>exact h3
theorem Kg (m:Nat) (ov:Fr) (hints:List Nat) (H:SI P n ops B (k+m) (EK ov (qF P n ops h k m F hints)) h) (he:qA P n ops h k m F hints=qB P n ops h k m F hints:=by kernel_rfl)
  (ho:ov.map (fun p=>((qF P n ops h k m F hints).get p.1).like p.2)=ov.map (·.2):=by kernel_rfl):SI P n ops B k F h:=
 Zu m hints (GX (h':=h) ⟨Ix (Fr.Le.refl _) ov ho,[],by simp⟩ H) he
theorem ZU (m:Nat) (ov:Fr) (H:SI P n ops B (k+m) (EK ov (qF P n ops h k m F [])) h) (he:qA P n ops h k m F []=qB P n ops h k m F []:=by kernel_rfl)
  (ho:ov.map (fun p=>((qF P n ops h k m F []).get p.1).like p.2)=ov.map (·.2):=by kernel_rfl):SI P n ops B k F h:=Kg m ov [] H he ho
theorem CX (f m:Nat) (is:List Nat) (ov:Fr) (hints:List Nat) (H:X5 P n ops B ((EG P n ops h is done F hints).reverse++T) f (done++is) (EK ov (Cz P n ops h is done F hints)) h) (hf:m=f+is.length:=by kernel_rfl)
  (he:EP P n ops h is done F hints=EQ P n ops h is done F hints:=by kernel_rfl) (hs:Region.noSelect ops=true:=by kernel_rfl)
  (ho:ov.map (fun p=>((Cz P n ops h is done F hints).get p.1).like p.2)=ov.map (·.2):=by kernel_rfl):X5 P n ops B T m done F h:=
 ZY f m is hints (I1 (Ix (Fr.Le.refl _) ov ho) H) hf he hs
theorem Yv (f m:Nat) (is:List Nat) (ov:Fr) (H:X5 P n ops B ((EG P n ops h is done F []).reverse++T) f (done++is) (EK ov (Cz P n ops h is done F [])) h) (hf:m=f+is.length:=by kernel_rfl)
  (he:EP P n ops h is done F []=EQ P n ops h is done F []:=by kernel_rfl) (hs:Region.noSelect ops=true:=by kernel_rfl)
  (ho:ov.map (fun p=>((Cz P n ops h is done F []).get p.1).like p.2)=ov.map (·.2):=by kernel_rfl):X5 P n ops B T m done F h:=CX f m is ov [] H hf he hs ho
def sF (ts:List Nat) (F ov:Fr):Fr:=ov++ts.map (fun t=>(t,F.get t))
def Zi (h:List Res) (i:Nat):Res:=match h[i]? with|some r=>r|none=>.tail Zaj 0
theorem Y5 (Inv:Fr->List Res->Nat->Fr->List Res->Prop) (m0:Nat) (F0:Fr) (h0:List Res) (hi:Inv F h m0 F0 h0) (hw:Ti F h F0 h0)
  (hr:∀m F' h',Inv F h m F' h'->Yy P n (YP c) (Ll (Inv F h) m A) F' h') (hk:Xf c=6:=by kernel_rfl):Yy P n c A F h:=al (Inv F h) m0 F0 h0 hi hw hr hk
theorem Xu {y:Code} (K:Fr->List Res->Fr->List Res->Prop) (H:Yy P n c (FB (K F h) A) F h) (hB:∀F' h',K F h F' h'->Yy P n y A F' h'):Yy P n c (BJ P n y A) F h:=Z0t (K F h) H hB
theorem At {y:Code} {A2:WV} (K:Fr->List Res->Fr->List Res->Prop) (hA:∀F h,A .normal F h=Yy P n y A2 F h) (H:Yy P n c (FB (K F h) A) F h) (hB:∀F' h',K F h F' h'->Yy P n y A2 F' h'):Yy P n c A F h:=Z0s (K F h) hA H hB
theorem Xn {c:Code} {A:WV} (ts:List Nat) (ov:Fr) (K:List Res->List Res) (H:SI P n ops (fun F1 h1=>Ti F1 h1 (sF ts F ov) (K h)) k F h) (hB:Yy P n c A (sF ts F ov) (K h)):SI P n ops (fun F h=>Yy P n c A F h) k F h:=Z82 (sF ts F ov) (K h) H hB
theorem C3 {c:Code} {A:WV} (ts:List Nat) (ov:Fr) (K:List Res->List Res) (H:X5 P n ops (fun F1 h1=>Ti F1 h1 (sF ts F ov) (K h)) T fuel done F h) (hB:Yy P n c A (sF ts F ov) (K h)):X5 P n ops (fun F h=>Yy P n c A F h) T fuel done F h:=Z3a (sF ts F ov) (K h) H hB
theorem YK (k2:Nat) (ts:List Nat) (ov:Fr) (K:List Res->List Res) (J:SI P n ops B k2 (sF ts F ov) (K h)) (H:SI P n ops B k2 (sF ts F ov) (K h)->SI P n ops B k F h):SI P n ops B k F h:=H J
end
end Go.Abs
namespace Go.Abs
theorem fw {F F':Fr} {t u:Nat} {x y:AV} (hr:F.Le F') (hx:F.get t=x:=by kernel_rfl) (hy:F.get u=y:=by kernel_rfl):F.Le ((t,x)::(u,y)::F'):=fr (fr hr hy) hx
theorem fq {F F':Fr} {t u v w:Nat} {x y z q:AV} (hr:F.Le F') (hx:F.get t=x:=by kernel_rfl) (hy:F.get u=y:=by kernel_rfl) (hz:F.get v=z:=by kernel_rfl) (hq:F.get w=q:=by kernel_rfl):F.Le ((t,x)::(u,y)::(v,z)::(w,q)::F'):=fw (fw hr hz hq) hx hy
section
variable {P:Program} {n:Nat} {ops:Array Oper} {B:Fr->List Res->Prop} {k:Nat} {F:Fr} {h:List Res}
theorem iw {a b:Nat} (e:a=b) (H:SI P n ops B (k+1) (F.put (ZI ops k).dst (.i b)) h) (hk:Xj n ops F k=true:=by kernel_rfl) (he:TZ P (ZI ops k) F h 0=some (.i a,[]):=by kernel_rfl):SI P n ops B k F h:=io (.i b) (.i a) (li (by rw [e])) H hk he
theorem dw (i:Nat) {T:List (Nat×List Nat)} {fuel:Nat} {done:List Nat} {a b:Nat} (e:a=b) (H:X5 P n ops B ((i,[])::T) fuel (done++[i]) (F.put (ZI ops i).dst (.i b)) h) (he:TZ P (ZI ops i) F h 0=some (.i a,[]):=by kernel_rfl) (hs:Region.noSelect ops=true:=by kernel_rfl) (hk:Xj n ops F i=true:=by kernel_rfl)
 (hf:Region.free .any ops (WG ops done) i=true:=by kernel_rfl) (hr:(Region.ready .any ops (WG ops done)).contains i=true:=by kernel_rfl):X5 P n ops B T (fuel+1) done F h:=dn i (.i b) (.i a) (li (by rw [e])) H he hs hk hf hr
end
end Go.Abs
namespace Go.Abs
section
variable {P:Program} {n:Nat} {ops:Array Oper} {B:Fr->List Res->Prop} {k:Nat} {F:Fr} {h:List Res}
variable {T:List (Nat × List Nat)} {fuel:Nat} {done:List Nat} {c:Code} {A:WV}
theorem Zk (hv:Option Value) (j:Int) (sz:Nat) {es:List AV} {y:AV} (hget:es[j.toNat]? = some y) (hi:Bp P ops F k=some (.sl es hv,j,sz):=by kernel_rfl) (h0:0<=j:=by omega) (hy:y.leaves.length=sz:=by rfl) :
  XW P (ZI ops k) F h [] (.rp y.leaves):=DL hi h0 hget hy
def Hc (P:Program) (ops:Array Oper) (F:Fr) (h:List Res) (j k:Nat):Option (Nat × Nat × List AV):=
 match storeAt P ops F k,W8 [j] h with
 | some (b,o,xs),some [.obj b' ls]=>match Nat.ble (o+xs.length) ls.length with | true=>some (b,b',ls.take o++xs++ls.drop (o+xs.length)) | false=>none
 | _,_=>none
theorem SY {j k b:Nat} {l:List AV} (hs:Hc P ops F h j k=some (b,b,l)):∃o xs ls,storeAt P ops F k=some (b,o,xs)/\W8 [j] h=some [.obj b ls]/\Nat.ble (o+xs.length) ls.length=true/\ls.take o++xs++ls.drop (o+xs.length)=l:=by
 unfold Hc at hs
 split at hs
 ·rename_i b1 o xs b2 ls h1 h2
  split at hs
  ·rename_i h3
   cases hs
   exact ⟨o,xs,ls,h1,h2,h3,rfl⟩
  ·cases hs
 ·cases hs
theorem Zz (j b:Nat) (ls':List AV) (H:SI P n ops B (k+1) F (.obj b ls'::XC [j] h)) (hk:Xj n ops F k=true:=by kernel_rfl) (hs:Hc P ops F h j k=some (b,b,ls'):=by kernel_rfl):SI P n ops B k F h:=
 let ⟨_,_,_,h1,h2,h3,h4⟩:=SY hs
 iS j b _ _ _ ls' H hk h1 h2 h3 h4
theorem YT (i j:Nat) (js bs:List Nat) (b:Nat) (ls':List AV) (H:X5 P n ops B (T.filter fun t=>!V8 ops i t.1) fuel (done++[i]) F (.obj b ls'::XC [j] h))
  (hk:Xj n ops F i=true:=by kernel_rfl) (hs:Hc P ops F h j i=some (b,b,ls'):=by kernel_rfl) (ho:Ue ops i T=bs:=by kernel_rfl)
  (hj:js.map (fun q=>(WM (XC [j] h))[q]?)=bs.map some:=by kernel_rfl):Vc P n ops B T fuel done F h i:=
 let ⟨_,_,_,h1,h2,h3,h4⟩:=SY hs
 dS i j js bs b _ _ _ ls' H hk h1 h2 h3 h4 ho hj
theorem ZK (q:Nat) (H:SI P n ops B (k+1) (F.put (ZI ops k).dst (.i (q+1:Nat))) h) (hb:-9223372036854775808<=((q+1:Nat):Int)/\((q+1:Nat):Int)<=9223372036854775807:=by omega)
  (hk:Xj n ops F k=true:=by kernel_rfl) (ha:JK ops F k=some ((q:Int)+1):=by kernel_rfl):SI P n ops B k F h:=ia ((q+1:Nat):Int) ((q:Int)+1) H hb om hk ha
theorem Zt (is:List Nat) {f:FuncId} {xs:List AV} {h1 h2:List Res} {r0:AV} (H:WU P f xs h1 (fun r h=>r=r0/\h=h2)) (hK:SI P n ops B (k+1) (F.put (ZI ops k).dst r0) (h2++XC is h))
  (hk:Xj n ops F k=true:=by kernel_rfl) (hc:JQ P ops F k=some (f,xs):=by kernel_rfl) (hp:W8 is h=some h1:=by kernel_rfl):SI P n ops B k F h:=
 ic is H (fun r h' hr=>by obtain ⟨rfl,rfl⟩:=hr;exact hK) hk hc hp
theorem YF (i:Nat) (is js bs:List Nat) {f:FuncId} {xs:List AV} {h1 h2:List Res} {r0:AV} (H:WU P f xs h1 (fun r h=>r=r0/\h=h2))
  (hK:X5 P n ops B (T.filter fun t=>!V8 ops i t.1) fuel (done++[i]) (F.put (ZI ops i).dst r0) (h2++XC is h))
  (hk:Xj n ops F i=true:=by kernel_rfl) (hc:JQ P ops F i=some (f,xs):=by kernel_rfl)
  (hp:W8 is h=some h1:=by kernel_rfl) (ho:Ue ops i T=bs:=by kernel_rfl) (hj:js.map (fun j=>(WM (XC is h))[j]?)=bs.map some:=by kernel_rfl):Vc P n ops B T fuel done F h i:=
 dc i is js bs H (fun r h' hr=>by obtain ⟨rfl,rfl⟩:=hr;exact hK) hk hc hp ho hj
theorem WZ (p:Prop) [Decidable p] (h1:p->Yy P n (YP c) A F h) (h2:¬p->Yy P n (VT c) A F h) (hk:Xf c=4:=by kernel_rfl) (hc:F.ev (As c)=.val (.bool (decide p)):=by kernel_rfl):Yy P n c A F h:=
 ac (decide p) decide_eq_true_iff h1 h2 hk hc
theorem Y1 (H:Yy P n (VT c) A (qF P n (XI (YP c)) h 0 ((XI (YP c)).size-0) F []) h) (hk:Xf c=3:=by kernel_rfl) (hk1:Xf (YP c)=1:=by kernel_rfl)
  (he:qA P n (XI (YP c)) h 0 ((XI (YP c)).size-0) F []=qB P n (XI (YP c)) h 0 ((XI (YP c)).size-0) F []:=by kernel_rfl):Yy P n c A F h:=ar (Z1 H he) hk hk1
theorem QG (hints:List Nat) (H:Yy P n (VT c) A (qF P n (XI (YP c)) h 0 ((XI (YP c)).size-0) F hints) h) (hk:Xf c=3:=by kernel_rfl) (hk1:Xf (YP c)=1:=by kernel_rfl)
  (he:qA P n (XI (YP c)) h 0 ((XI (YP c)).size-0) F hints=qB P n (XI (YP c)) h 0 ((XI (YP c)).size-0) F hints:=by kernel_rfl):Yy P n c A F h:=ar (WI hints H he) hk hk1
theorem Vq (H:A .normal (qF P n (XI c) h 0 ((XI c).size-0) F []) h) (hk:Xf c=1:=by kernel_rfl) (he:qA P n (XI c) h 0 ((XI c).size-0) F []=qB P n (XI c) h 0 ((XI c).size-0) F []:=by kernel_rfl):Yy P n c A F h:=az (Z1 H he) hk
theorem Ya (m:Nat) (H:SI P n (XI (YP c)) (fun F h=>Yy P n (VT c) A F h) (0+m) (qF P n (XI (YP c)) h 0 m F []) h) (hk:Xf c=3:=by kernel_rfl) (hk1:Xf (YP c)=1:=by kernel_rfl)
  (he:qA P n (XI (YP c)) h 0 m F []=qB P n (XI (YP c)) h 0 m F []:=by kernel_rfl):Yy P n c A F h:=ar (Z0 m H he) hk hk1
theorem Zp (m:Nat) (hints:List Nat) (H:SI P n (XI (YP c)) (fun F h=>Yy P n (VT c) A F h) (0+m) (qF P n (XI (YP c)) h 0 m F hints) h) (hk:Xf c=3:=by kernel_rfl) (hk1:Xf (YP c)=1:=by kernel_rfl)
  (he:qA P n (XI (YP c)) h 0 m F hints=qB P n (XI (YP c)) h 0 m F hints:=by kernel_rfl):Yy P n c A F h:=ar (Zu m hints H he) hk hk1
theorem Xa (hs:SI P n (XI (YP (YP c))) (fun F h=>Yy P n (VT (YP c)) (BJ P n (VT c) A) F h) 0 F h) (hk:Xf c=3:=by kernel_rfl) (hk0:Xf (YP c)=3:=by kernel_rfl) (hk1:Xf (YP (YP c))=1:=by kernel_rfl):Yy P n c A F h:=
 aq (ar hs hk0 hk1) hk
theorem YO (m:Nat) (H:SI P n (XI (YP (YP c))) (fun F h=>Yy P n (VT (YP c)) (BJ P n (VT c) A) F h) (0+m) (qF P n (XI (YP (YP c))) h 0 m F []) h) (hk:Xf c=3:=by kernel_rfl) (hk0:Xf (YP c)=3:=by kernel_rfl) (hk1:Xf (YP (YP c))=1:=by kernel_rfl)
  (he:qA P n (XI (YP (YP c))) h 0 m F []=qB P n (XI (YP (YP c))) h 0 m F []:=by kernel_rfl):Yy P n c A F h:=Xa (Z0 m H he) hk hk0 hk1
theorem Yr (m:Nat) (hints:List Nat) (H:SI P n (XI (YP (YP c))) (fun F h=>Yy P n (VT (YP c)) (BJ P n (VT c) A) F h) (0+m) (qF P n (XI (YP (YP c))) h 0 m F hints) h) (hk:Xf c=3:=by kernel_rfl) (hk0:Xf (YP c)=3:=by kernel_rfl) (hk1:Xf (YP (YP c))=1:=by kernel_rfl)
  (he:qA P n (XI (YP (YP c))) h 0 m F hints=qB P n (XI (YP (YP c))) h 0 m F hints:=by kernel_rfl):Yy P n c A F h:=Xa (Zu m hints H he) hk hk0 hk1
theorem Y6 (H:Yy P n (VT (YP c)) (BJ P n (VT c) A) (qF P n (XI (YP (YP c))) h 0 ((XI (YP (YP c))).size-0) F []) h) (hk:Xf c=3:=by kernel_rfl) (hk0:Xf (YP c)=3:=by kernel_rfl) (hk1:Xf (YP (YP c))=1:=by kernel_rfl)
  (he:qA P n (XI (YP (YP c))) h 0 ((XI (YP (YP c))).size-0) F []=qB P n (XI (YP (YP c))) h 0 ((XI (YP (YP c))).size-0) F []:=by kernel_rfl):Yy P n c A F h:=aq (Y1 H hk0 hk1 he) hk
theorem Zm (h0:A .ret (qF P n ops h k (ops.size-k) F []) h) (hk:Xf c=8:=by kernel_rfl) (he:qA P n ops h k (ops.size-k) F []=qB P n ops h k (ops.size-k) F []:=by kernel_rfl):SI P n ops (fun F h=>Yy P n c A F h) k F h:=Z1 (at_ h0 hk) he
theorem Y0 (p:Prop) [Decidable p] (h1:p->Yy P n (YP c) A (qF P n ops h k (ops.size-k) F []) h) (h2:¬p->Yy P n (VT c) A (qF P n ops h k (ops.size-k) F []) h) (hk:Xf c=4:=by kernel_rfl)
  (hc:Fr.ev (qF P n ops h k (ops.size-k) F []) (As c)=.val (.bool (decide p)):=by kernel_rfl) (he:qA P n ops h k (ops.size-k) F []=qB P n ops h k (ops.size-k) F []:=by kernel_rfl):SI P n ops (fun F h=>Yy P n c A F h) k F h:=Z1 (WZ p h1 h2 hk hc) he
theorem Yz (b:Bool) {p:Prop} (hp:b=true↔p) (h1:p->Yy P n (YP c) A (qF P n ops h k (ops.size-k) F []) h) (h2:¬p->Yy P n (VT c) A (qF P n ops h k (ops.size-k) F []) h) (hk:Xf c=4:=by kernel_rfl)
  (hc:Fr.ev (qF P n ops h k (ops.size-k) F []) (As c)=.val (.bool b):=by kernel_rfl) (he:qA P n ops h k (ops.size-k) F []=qB P n ops h k (ops.size-k) F []:=by kernel_rfl):SI P n ops (fun F h=>Yy P n c A F h) k F h:=Z1 (ac b hp h1 h2 hk hc) he
end
abbrev Ym (x:AV):AV->List Res->Prop:=fun r h=>r=x/\h=[]
theorem Zv {α:Type} (xs:List α) (j:Nat) (h:j<xs.length):∃x,xs[j]? = some x:=AH h
theorem BK {P:Program} {F:Fr} {h:List Res} {fn:Func} {e:Exit} {r:AV} (he:(match e with|.normal|.ret=>true|_=>false)=true:=by kernel_rfl) (hr:QR P F h fn.results.toList []=some ([r],[]):=by kernel_rfl) :
  B9 P fn (fun r' h'=>r'=r/\h'=[]) e F h:=r1 [] ⟨rfl,rfl⟩ rfl he hr
theorem ZP {P:Program} {F:Fr} {h:List Res} {fn:Func} {e:Exit} {r:AV} (x:AV) (hle:Zc (AT [x]) r) (he:(match e with|.normal|.ret=>true|_=>false)=true:=by kernel_rfl) (hr:QR P F h fn.results.toList []=some ([x],[]):=by kernel_rfl) :
  B9 P fn (fun r' h'=>r'=r/\h'=[]) e F h:=r2 [] [x] ⟨rfl,rfl⟩ hle rfl he hr
theorem ZW (k:Nat) {F F':Fr} {t:Nat} {y:Int} (hr:F.Le F') (hx:F.get t=.i (k+1:Nat):=by kernel_rfl) (e:((k+1:Nat):Int)=y:=by exact ob):F.Le ((t,.i y)::F'):=fc (li e) hr hx
theorem Ye {F F':Fr} {t:Nat} {y:Int} (hr:F.Le F') (hx:F.get t=.i 0:=by kernel_rfl) (e:0=y:=by exact ob):F.Le ((t,.i y)::F'):=fc (li e) hr hx
theorem Zf (x:Bool) {p:Prop} (q:p) {F F':Fr} {t:Nat} {y:Bool} (hr:F.Le F') (hx:F.get t=.b x:=by kernel_rfl) (e:p->x=y:=by intro q;simp only [q];rfl):F.Le ((t,.b y)::F'):=fc (lb (e q)) hr hx
theorem Zw {F F':Fr} {h h1 h':List Res} (m:Nat) (hF:F.Le F') (e:h1=h':=by exact rfl) (hp:W8 (List.replicate m 0) h=some h1:=by kernel_rfl):Ti F h F' h':=wk (List.replicate m 0) hF e hp
theorem ZH {α β:Type} {p q:α->β->Prop} {a:α} {b:β} (x:p a b) (y:q a b):∃a b,p a b/\q a b:=⟨a,b,x,y⟩
theorem ZM {α β:Type} {q:α->β->Prop} {m' m:Nat} {r:Nat->α->β->Prop} {a:α} {b:β} (x:r m' a b) (y:q a b) (e:m'<m:=by exact ob):∃m' a b,m'<m/\r m' a b/\q a b:=⟨m',a,b,e,x,y⟩
theorem ZE (m:Nat) {P:Program} {f:FuncId} {fn:Func} {xs:List AV} {h:List Res} {R:AV->List Res->Prop} (hf:P.funcs[f]? = some fn) (ha:Yy P m (Fx fn) (B9 P fn R) (BW 0 xs) h) (hb:fn.body.isSome=true:=by kernel_rfl) (hn:fn.ntmps=m:=by kernel_rfl)
  (hle:Nat.ble xs.length m=true:=by kernel_rfl):WU P f xs h R:=enter hf hb hn hle ha
end Go.Abs
end
namespace Go.Abs
section
variable {P:Program} {n:Nat} {c:Code} {A:WV} {F:Fr} {h h2:List Res} {ops:Array Oper} {B:Fr->List Res->Prop} {k:Nat}
variable {T:List (Nat × List Nat)} {fuel:Nat} {done:List Nat}
def Lp (P:Program) (ops:Array Oper) (F:Fr) (k:Nat):Option (List AV):=
 match (ZI ops k).op with
 | .binOp .eql xt x y _=>match F.ev x,F.ev y,P.underlying xt with
  | .sl es _,.sl [] (some (.slice none 0 0)),some (.slice _)=>some es
  | _,_,_=>none
 | _=>none
theorem Zcw {t e:TypeId} (ht:P.underlying t=some (.slice e)) (a:Option Addr) (l c':Nat) (w:World):(Op.equal t (.slice a l c') (.slice none 0 0)).run P w=.ok a.isNone w:=by
 unfold Op.equal
 rw [show Op.maxDepth=(Op.maxDepth-1)+1 from rfl]
 unfold Op.equalIn
 cases a with
 | none=>simp [VZ ht]
 | some a=>simp [VZ ht]
theorem Zb5 {K:Fr->List Res->Prop} {es:List AV} (hd:VC n (ZI ops k)=true) (ha:Lp P ops F k=some es)
  (h1:es=[]->K (F.put (ZI ops k).dst (.b true)) h) (h0:K (F.put (ZI ops k).dst (.b false)) h):WE P n (ZI ops k) F h K:=by
 unfold Lp at ha
 generalize hoo:ZI ops k=o at ha hd h1 h0
 obtain ⟨dst,op,type,pos,after,guard⟩:=o
 cases op<;>simp only at ha<;>try (cases ha)
 rename_i bop xt x y yt
 cases bop<;>simp only at ha<;>try (cases ha)
 split at ha
 case h_2=>cases ha
 rename_i es' hv t hx hy ht
 cases ha
 intro Q w G a hF hh
 have vx:=hF.ev x
 have vy:=hF.ev y
 rw [hx] at vx
 rw [hy] at vy
 have vy:a.eval y=.slice none 0 0:=by
  cases hq:a.eval y<;>rw [hq] at vy<;>cases vy<;>(rename_i hh2;exact (hh2 _ rfl).symm)
 cases vq:a.eval x with
 | slice ad l cc=>
  have hrun:(execOp a.eval { dst:=dst,op:=.binOp .eql xt x y yt,type:=type,pos:=pos,after:=after,guard:=guard }).run P w=.ok (.value (.bool ad.isNone)) w:=by
   simp only [execOp,vq,vy]
   have he:=Zcw (P:=P) ht ad l cc w
   exact Vr (by simp [eqGuard,binOp,he])
  unfold Oper.wp
  rw [hrun]
  rw [vq] at vx
  cases hn:ad.isNone with
  | false=>exact ⟨_,_,G,h0,hF.put (Tk hd) .val,hh,X3.refl _ _ _⟩
  | true=>
   have:es=[]:=by
    cases vx with
    | nil=>rfl
    | sl=>cases hn
   exact ⟨_,_,G,h1 this,hF.put (Tk hd) .val,hh,X3.refl _ _ _⟩
 | _=>rw [vq] at vx;cases vx
theorem iN (es:List AV) (h1:es=[]->SI P n ops B (k+1) (F.put (ZI ops k).dst (.b true)) h) (h0:SI P n ops B (k+1) (F.put (ZI ops k).dst (.b false)) h)
  (hk:Xj n ops F k=true:=by kernel_rfl) (ha:Lp P ops F k=some es:=by kernel_rfl):SI P n ops B k F h:=
 Q4 hk (Zb5 (Uf hk).2.1 ha h1 h0)
theorem Fl (t j:Nat) {v:Hd} {xs:LI} (H:Yy P n c A ((t,ZG xs v.v)::F) (.tail v.v 1::XC [j] h)) (hF':F.get t=.h v:=by kernel_rfl) (hp:W8 [j] h=some [rV v xs]:=by kernel_rfl):Yy P n c A F h:=by
 intro w G a hF hh
 have hp':=Uh (VG hp)
 obtain ⟨G',h1,h2',h3⟩:=Zg7 (hh.perm hp') (P9 xs)
 have e:=h2'.perm hp'.symm (TB _)
 have hF2:=hF.mono (e.agree hh)
 have hv:=hF2.get t
 rw [hF'] at hv
 have hv:=hv.val_inv
 refine wp_mono (H w G' a ⟨hF2.defers,hF2.size,fun s=>?_⟩ h1) fun e' a' w' hc=>hc.trans e
 show RV w G' (match Nat.beq t s with|true=>_|false=>Fr.get F s) _
 cases hb:Nat.beq t s with
 | true=>
  have:=UT hb
  subst this
  rw [hv]
  exact h3
 | false=>exact hF2.get s
end
theorem ro {b:Nat} {ls ls':List AV} {t t':List Res} (h:ls=ls') (e:t=t'):Res.obj b ls::t=.obj b ls'::t':=h▸e▸rfl
section
variable {P:Program} {n:Nat} {F:Fr} {h:List Res} {ops:Array Oper} {B:Fr->List Res->Prop} {k:Nat}
variable {T:List (Nat × List Nat)} {fuel:Nat} {done:List Nat}
theorem PI {K:Fr->List Res->Prop} {l c:Nat} {zv zv':AV} (hd:VC n (ZI ops k)=true) (hm:Ct P ops F k=some ((l:Int),(c:Int),zv)) (hlc:l<=c) (hc:c<=4294967296) (hle:Zc zv zv') (hlz:zv'.leaves=[zv'])
  (hK:∀v,K (F.put (ZI ops k).dst (.sl (List.replicate l zv') (some v))) (.tail v 1::h)):WE P n (ZI ops k) F h K:=by
 intro Q w G a hF hh
 obtain ⟨e,z,rfl,hr⟩:=Zcv hF hm hlc hc
 have hfl:∀m,Zg (List.replicate m zv')=List.replicate m zv':=by
  intro m
  induction m with
  | zero=>rfl
  | succ m ih=>simp only [Mr,Zg,B3,hlz,List.singleton_append];rw [show (List.replicate m zv').flatMap AV.leaves=Zg (List.replicate m zv') from rfl,ih]
 unfold Oper.wp
 rw [hr]
 obtain ⟨G',j1,j2,j3⟩:=hh.alloc_row (madeCells #[z] c) e (es:=List.replicate l zv') (k:=1) (cap:=c) (fun x hx=>by rw [(List.mem_replicate.1 hx).2,hlz];rfl) (by simpa using hlc) (by simp [madeCells]) (by
  rw [Zaa,hfl,JE,List.take_replicate,List.length_replicate,VQ hlc]
  exact Rh (hle _ _ _ (RV.ofVal z)) l)
 rw [List.length_replicate] at j1 j2 j3
 exact ⟨_,_,G',hK _,(hF.mono (j2.agree hh)).put (Tk hd) j3,j1,j2⟩
theorem Nm (l:Nat):List.replicate l (AV.i 0)=Z6 (List.replicate l 0):=by simp [Z6,List.map_replicate]
theorem iM (l c:Nat) (hK:∀v,SI P n ops B (k+1) (F.put (ZI ops k).dst (ZG (List.replicate l 0) v)) (.tail v 1::h)) (hlc:l<=c:=by omega) (hc:c<=4294967296:=by omega) (hk:Xj n ops F k=true:=by kernel_rfl)
  (hm:Ct P ops F k=some ((l:Int),(c:Int),.i 0):=by kernel_rfl):SI P n ops B k F h:=
 Q4 hk (PI (Uf hk).2.1 hm hlc hc (Zc.refl _) rfl fun v=>by rw [Nm];exact hK v)
theorem dM (i:Nat) (js bs:List Nat) (l c:Nat) (hK:∀v,X5 P n ops B (T.filter fun t=>!V8 ops i t.1) fuel (done++[i]) (F.put (ZI ops i).dst (ZG (List.replicate l 0) v)) (.tail v 1::h)) (hlc:l<=c:=by omega) (hc:c<=4294967296:=by omega)
  (hk:Xj n ops F i=true:=by kernel_rfl) (hm:Ct P ops F i=some ((l:Int),(c:Int),.i 0):=by kernel_rfl) (ho:Ue ops i T=bs:=by kernel_rfl) (hj:js.map (fun j=>(WM h)[j]?)=bs.map some:=by kernel_rfl):Vc P n ops B T fuel done F h i:=
 J9 (h1:=[]) (h2:=h) [] js bs hk rfl ho hj (PI (Uf hk).2.1 hm hlc hc (Zc.refl _) rfl fun v=>by rw [Nm];exact hK v)
end
section
variable {P:Program} {n:Nat} {F:Fr} {h:List Res} {ops:Array Oper} {B:Fr->List Res->Prop} {k:Nat}
variable {T:List (Nat × List Nat)} {fuel:Nat} {done:List Nat}
theorem dK {c:Code} {A:WV} (K:Fr->List Res->Prop) (H:X5 P n ops (fun F h=>∃F' h',K F' h'/\Ti F h F' h') T fuel done F h) (hB:∀F' h',K F' h'->Yy P n c A F' h') :
  X5 P n ops (fun F h=>Yy P n c A F h) T fuel done F h:=by
 intro Q w G a SL hF hh hQ hcl hcov hk
 exact H Q w G a SL hF hh hQ hcl hcov fun F2 h2 G2 a2 w2 b1 b2 b3 b4=>let ⟨_,_,k1,k2⟩:=b1;hk F2 h2 G2 a2 w2 (CN k2 (hB _ _ k1)) b2 b3 b4
theorem Au {c:Code} {A:WV} (K:Fr->List Res->Fr->List Res->Prop) (H:X5 P n ops (fun F1 h1=>∃F' h',K F h F' h'/\Ti F1 h1 F' h') T fuel done F h) (hB:∀F' h',K F h F' h'->Yy P n c A F' h') :
  X5 P n ops (fun F h=>Yy P n c A F h) T fuel done F h:=dK (K F h) H hB
theorem VK (i j:Nat) (Hi:Vc P n ops B T fuel done F h i) (Hj:Vc P n ops B T fuel done F h j) (hr:Region.ready .any ops (WG ops done)=[i,j]:=by kernel_rfl):X5 P n ops B T (fuel+1) done F h:=
 HY hr rfl fun q hq=>by
  rcases YM.1 hq with rfl|hq
  ·exact Hi
  ·rw [Xr.1 hq];exact Hj
theorem Z3h (i j l:Nat) (Hi:Vc P n ops B T fuel done F h i) (Hj:Vc P n ops B T fuel done F h j) (Hl:Vc P n ops B T fuel done F h l) (hr:Region.ready .any ops (WG ops done)=[i,j,l]:=by kernel_rfl):X5 P n ops B T (fuel+1) done F h:=
 HY hr rfl fun q hq=>by
  rcases YM.1 hq with rfl|hq
  ·exact Hi
  rcases YM.1 hq with rfl|hq
  ·exact Hj
  ·rw [Xr.1 hq];exact Hl
def CI (s:Int):Int:=IntKind.i64.wrap s
theorem Zfh {s:Int} (ha:JK ops F k=some s):XW P (ZI ops k) F h [] (.val (.int .i64 (CI s))):=by
 unfold JK at ha
 generalize hoo:ZI ops k=o at ha
 obtain ⟨dst,op,type,pos,after,guard⟩:=o
 cases op<;>simp only at ha<;>try (cases ha)
 rename_i bop xt x y yt
 split at ha
 ·rename_i a b h1 h2
  have key:∀v,Ed bop .i64 a b=some (.int .i64 (IntKind.i64.wrap v))->v=s->XW P { dst:=dst,op:=.binOp bop xt x y yt,type:=type,pos:=pos,after:=after,guard:=guard } F h [] (.val (.int .i64 (CI s))):=by
   intro v hv hvs
   have he:TZ P { dst:=dst,op:=.binOp bop xt x y yt,type:=type,pos:=pos,after:=after,guard:=guard } F h 0=some (.val (.int .i64 (IntKind.i64.wrap v)),[]):=by
    simp only [TZ,h1,h2,EV,hv]
   have:=D9 he (by simp)
   rw [hvs] at this
   simpa [CI] using this
  split at ha
  ·cases ha;exact key (a+b) rfl rfl
  ·cases ha;exact key (a-b) rfl rfl
  ·cases ha;exact key (a*b) rfl rfl
  ·cases ha
 ·cases ha
theorem iW (s:Int) (H:SI P n ops B (k+1) (F.put (ZI ops k).dst (.val (.int .i64 (CI s)))) h) (hk:Xj n ops F k=true:=by kernel_rfl) (ha:JK ops F k=some s:=by kernel_rfl):SI P n ops B k F h:=
 Es (ks:=[]) hk (Zfh ha) H
end
theorem JG.mono {w:World} {G G':Yk} {v:Value} {k:Nat} {ls:List AV} (hA:VR G w w G') (h:JG w G v k ls):JG w G' v k ls:=by
 rcases h with ⟨rfl,h0⟩|⟨g,len,cap,cur,el,rfl,h1,h2,h3,h4,h5⟩
 ·exact .inl ⟨rfl,h0⟩
 ·exact .inr ⟨g,len,cap,cur,el,rfl,h1,h2,h3,h4,h5.mono hA⟩
theorem Qx.same {w:World} {G G':Yk} {r:Res} (hA:VR G w w G') (h:Qx w G r):Qx w G' r:=by
 cases r with
 | obj b ls=>obtain ⟨cs,e,h1,h2⟩:=h;exact ⟨cs,e,h1,h2.mono hA⟩
 | tail v k=>exact h
 | ge s=>exact h
 | vec v ls=>
  rcases h with ⟨rfl,h0⟩|⟨g,cap,cur,el,rfl,h1,h2,h3,h4⟩
  ·exact .inl ⟨rfl,h0⟩
  ·exact .inr ⟨g,cap,cur,el,rfl,h1,h2,h3,h4.mono hA⟩
 | many ts=>exact h
 | own B m=>exact h
 | row v k ls=>exact h.mono hA
theorem YI.alloc_rrow {w:World} {G:Yk} {h:List Res} (hh:YI w G h) (cs:Array Value) (t:TypeId) {ls:List AV} {len cap k:Nat} (hcap:len<=cap) (Xx:cs.size=cap*k) (hl:ls.length=len*k)
  (hls:YV w G ls (cs.toList.take (len*k))) :
  YI (w.alloc (.cells cs t)) G (.row (.slice (some ⟨w.heap.size,0,none⟩) len cap) k ls::h)/\X3 w G h (w.alloc (.cells cs t)) G (.row (.slice (some ⟨w.heap.size,0,none⟩) len cap) k ls::h):=by
 have hA:VR G w (w.alloc (.cells cs t)) G:=⟨fun b j hg=>E5 w _ (hh.lt b j hg),fun _ _ h=>h⟩
 refine hh.alloc (.cells cs t) (h':=[.row (.slice (some ⟨w.heap.size,0,none⟩) len cap) k ls]) (fun _ _ h=>h) (fun _ _ h=>.inl h) ?_ ?_ (DV _ _) ?_
 ·intro r hr
  rw [Xr.1 hr]
  exact .inr ⟨_,len,cap,cs,t,rfl,G4 w _,hcap,Xx,hl,hls.mono hA⟩
 ·intro r hr b j hf
  rw [Xr.1 hr] at hf
  exact hf
 ·intro r hr b j hf hg
  rw [Xr.1 hr] at hf
  have:=hh.lt b j hg
  have:b=w.heap.size:=hf
  omega
theorem YI.rwrite {w:World} {G:Yk} {h2:List Res} {g len cap k:Nat} {ls ls':List AV} (hh:YI w G (.row (.slice (some ⟨g,0,none⟩) len cap) k ls::h2)) {cs cs':Array Value} {e:TypeId}
  (hb:w.heap[g]? = some (.cells cs e (0,0))) (Xx:cs'.size=cs.size) (hle:len<=cap) (hcap:cs.size=cap*k) (hl:ls'.length=len*k) (hls:YV w G ls' (cs'.toList.take (len*k))) :
  YI (w.setRow g cs') G (.row (.slice (some ⟨g,0,none⟩) len cap) k ls'::h2) /\
   X3 w G (.row (.slice (some ⟨g,0,none⟩) len cap) k ls::h2) (w.setRow g cs') G (.row (.slice (some ⟨g,0,none⟩) len cap) k ls'::h2):=by
 have hmem:Res.row (.slice (some ⟨g,0,none⟩) len cap) k ls∈Res.row (.slice (some ⟨g,0,none⟩) len cap) k ls::h2:=Xp ..
 have hA:VR G w (w.setRow g cs') G:=⟨fun c j hg=>by
  have hne:c≠g:=fun he=>hh.prot _ hmem c j he hg
  simp [World.cell?,VI w g c cs' hne],fun _ _ h=>h⟩
 have hpw:=Va.1 hh.apart
 have hother:∀r∈h2,∀c j,r.fp c j->c≠g:=fun r hr c j hf hc=>hpw.1 r hr c j hc hf
 have e1:X3 w G [.row (.slice (some ⟨g,0,none⟩) len cap) k ls] (w.setRow g cs') G [.row (.slice (some ⟨g,0,none⟩) len cap) k ls']:=by
  refine ⟨rfl,rfl,rfl,by simp [World.setRow],fun _ _ h=>h,?_,fun _ _ _ h=>.inl h,?_⟩
  ·intro c hc
   by_cases hcb:c=g
   ·subst hcb
    exact .inr ⟨cs,cs',e,(0,0),hb,setRow_heap w c cs cs' e (0,0) hb,Xx,fun j hj=>absurd ⟨_,Xp ..,rfl⟩ hj⟩
   ·exact .inl (VI w g c cs' hcb)
  ·rintro c j _ ⟨r,hr,hf⟩
   rw [Xr.1 hr] at hf
   exact ⟨_,Xp ..,hf⟩
 have e2:YI (w.setRow g cs') G [.row (.slice (some ⟨g,0,none⟩) len cap) k ls']:=by
  refine ⟨fun r hr=>?_,DV _ _,fun r hr c j hf hg=>?_,fun c j hg=>?_⟩
  ·rw [Xr.1 hr]
   exact .inr ⟨g,len,cap,cs',e,rfl,setRow_heap w g cs cs' e (0,0) hb,hle,Xx.trans hcap,hl,hls.mono hA⟩
  ·rw [Xr.1 hr] at hf
   exact hh.prot _ hmem c j hf hg
  ·have:=hh.lt c j hg
   simpa [World.setRow] using this
 exact YI.frame (h:=[.row (.slice (some ⟨g,0,none⟩) len cap) k ls]) (k:=h2) hh e1 e2
theorem Zch {w:World} {G:Yk} {h:List Res} {k:Nat} (hh:YI w G h):YI w G (.row (.slice none 0 0) k []::h)/\X3 w G h w G (.row (.slice none 0 0) k []::h):=
 ⟨⟨fun r hr=>by
   rcases YM.1 hr with rfl|hr
   ·exact .inl ⟨rfl,rfl⟩
   ·exact hh.ok r hr,Va.2 ⟨fun _ _ _ _ hf=>hf.elim,hh.apart⟩,fun r hr b o hf hg=>by
   rcases YM.1 hr with rfl|hr
   ·exact hf.elim
   ·exact hh.prot r hr b o hf hg,hh.lt⟩,
  ⟨rfl,rfl,rfl,X9 _,fun _ _ h=>h,fun _ _=>.inl rfl,fun _ _ _ h=>.inl h,fun b o _ ⟨r,hr,hf⟩=>by
   rcases YM.1 hr with rfl|hr
   ·exact hf.elim
   ·exact ⟨r,hr,hf⟩⟩⟩
theorem JG.form {w:World} {G:Yk} {v:Value} {k:Nat} {ls:List AV} (h:JG w G v k ls):∃a len cap,v=.slice a len cap/\ls.length=len*k:=by
 rcases h with ⟨rfl,rfl⟩|⟨g,len,cap,cur,e,rfl,_,_,_,h4,_⟩
 ·exact ⟨none,0,0,rfl,by simp⟩
 ·exact ⟨_,len,cap,rfl,h4⟩
theorem DE {w:World} {G:Yk} {v:Value} {k:Nat} {es:List AV} {h2:List Res} (hh:YI w G (.row v k (Zg es)::h2)) (hes:∀y∈es,y.leaves.length=k) (hk:0<k) :
  ∃G',YI w G' (.tail v k::h2)/\X3 w G (.row v k (Zg es)::h2) w G' (.tail v k::h2)/\RV w G' (.sl es (some v)) v:=by
 have hpw:=Va.1 hh.apart
 have hfl:=Ty es hes
 rcases hh.ok _ (Xp ..) with ⟨rfl,h0⟩|⟨g,len,cap,cur,e,rfl,h1,h3,h4,h5,h6⟩
 ·have hes0:es=[]:=by
   cases es with
   | nil=>rfl
   | cons y r=>
    have h7:0<(r.length+1)*k:=Nat.mul_pos om hk
    rw [h0,Yx] at hfl
    rw [<-hfl] at h7
    simp at h7
  subst hes0
  obtain ⟨k1,k2⟩:=Mc (sz:=k) (hh.sub (BP _ _))
  refine ⟨G,k1,⟨rfl,rfl,rfl,X9 _,fun _ _ h=>h,fun _ _=>.inl rfl,fun _ _ _ h=>.inl h,?_⟩,.nil (by simp)⟩
  rintro b o _ ⟨r,hr,hf⟩
  rcases YM.1 hr with rfl|hr
  ·exact hf.elim
  ·exact ⟨r,XG _ hr,hf⟩
 ·have hlen:len=es.length:=Hu hk (h5.symm.trans hfl)
  subst hlen
  let G':Yk:=fun b o=>G b o∨(b=g/\o<es.length*k)
  have hA:VR G w w G':=⟨fun _ _ _=>rfl,fun _ _ h=>.inl h⟩
  have hmem:Res.row (.slice (some ⟨g,0,none⟩) es.length cap) k (Zg es)∈Res.row (.slice (some ⟨g,0,none⟩) es.length cap) k (Zg es)::h2:=Xp ..
  refine ⟨G',⟨fun r hr=>?_,Va.2 ⟨fun r hr b o f1 f2=>hpw.1 r hr b o f1.1 f2,hpw.2⟩,fun r hr b o hf hg=>?_,fun b o hg=>?_⟩,
   ⟨rfl,rfl,rfl,X9 _,fun _ _ h=>.inl h,fun _ _=>.inl rfl,fun b o _ hg=>hg.imp id fun ⟨e1,_⟩=>⟨_,hmem,e1⟩,?_⟩,?_⟩
  ·rcases YM.1 hr with rfl|hr
   ·exact .inr ⟨g,es.length,cap,cur,e,rfl,h1,h3,h4⟩
   ·exact (hh.ok r (XG _ hr)).same hA
  ·rcases YM.1 hr with rfl|hr2
   ·obtain ⟨hbg,hf2⟩:=hf
    rcases hg with hg|⟨_,hg⟩
    ·exact hh.prot _ hmem b o hbg hg
    ·omega
   ·rcases hg with hg|⟨hbg,_⟩
    ·exact hh.prot r (XG _ hr2) b o hf hg
    ·exact hpw.1 r hr2 b o hbg hf
  ·rcases hg with hg|⟨rfl,_⟩
   ·exact hh.lt b o hg
   ·exact (UG.1 h1).1
  ·rintro b o _ ⟨r,hr,hf⟩
   rcases YM.1 hr with rfl|hr
   ·exact ⟨_,hmem,hf.1⟩
   ·exact ⟨r,XG _ hr,hf⟩
  ·refine .sl (k:=k) (fun x hx=>by cases hx;rfl) h3 (Vd.of_flat es hes (Wu.of_cells (h6.mono hA) fun j u hj=>?_))
   have hjl:j<es.length*k:=by
    have:=(Xc.1 hj).1
    have h7:=h6.length
    omega
   rw [Qe,Zl hjl] at hj
   refine ⟨?_,.inr ⟨rfl,by omega⟩⟩
   rw [Wk,cell_of_row w g j cur e (0,0) h1]
   simpa using hj
section
variable {P:Program} {n:Nat} {ops:Array Oper} {B:Fr->List Res->Prop} {k:Nat} {F:Fr} {h h2:List Res}
theorem He {k:Nat}:Vm h (.row (.slice none 0 0) k []::h):=fun _ _ hh=>let ⟨a,b⟩:=Zch hh;⟨_,a,b⟩
theorem Zf8 (j:Nat) {v:Value} {kk m:Nat} {ls:List AV} (hl:Dp P ops F k=some (.val v)) (hj:h[j]? = some (.row v kk ls)) (hm:ls.length=m*kk) (hk:0<kk):XW P (ZI ops k) F h [] (.val (.int .i64 m)):=by
 unfold Dp at hl
 generalize hoo:ZI ops k=o at hl
 obtain ⟨dst,op,type,pos,after,guard⟩:=o
 cases op<;>simp only at hl<;>try (cases hl)
 rename_i c
 obtain ⟨callee,args,tys⟩:=c
 simp only at hl
 split at hl
 ·rename_i x t hargs htys
  split at hl
  ·rename_i el hu
   simp only [Wt] at hl
   intro n w G a hF hh
   have hv:=hF.ev x
   rw [hl] at hv
   have hv:=hv.val_inv
   obtain ⟨ad,len,cap,rfl,hlen⟩:=JG.form (hh.ok _ (Y4 hj))
   have:len=m:=Hu hk (hlen.symm.trans hm)
   subst this
   have e1:args=#[x]:=by rw [<-UH (xs:=args),hargs]
   have e2:tys=#[t]:=by rw [<-UH (xs:=tys),htys]
   subst e1;subst e2
   exact ⟨_,.val,fun w' _ _=>by simp [execOp,resolve,invoke,builtin,hv,Builtin.len_,VZ hu,goInt]⟩
  ·cases hl
 ·cases hl
def Lk (ops:Array Oper) (F:Fr) (k:Nat):Option (TypeId × AV):=
 match (ZI ops k).op with
 | .load t x=>some (t,F.ev x)
 | _=>none
theorem Zf9 (j:Nat) {g len cap kk o:Nat} {ls zs:List AV} {t:TypeId} {y:AV} (hl:Lk ops F k=some (t,.val (.pointer (some ⟨g,o,none⟩)))) (hj:h[j]? = some (.row (.slice (some ⟨g,0,none⟩) len cap) kk ls))
  (hz:(ls.drop o).take zs.length=zs) (hy:AQ P t zs=some y):XW P (ZI ops k) F h [g] y:=by
 unfold Lk at hl
 generalize hoo:ZI ops k=q at hl
 obtain ⟨dst,op,type,pos,after,guard⟩:=q
 cases op<;>simp only at hl<;>try (cases hl)
 rename_i t' x
 intro n w G a hF hh
 simp only [Wt,Prod.mk.injEq] at hl
 obtain ⟨rfl,hl⟩:=hl
 have hv:=hF.ev x
 rw [hl] at hv
 have hv:=hv.val_inv
 rcases hh.ok _ (Y4 hj) with ⟨h0,_⟩|⟨g',len',cap',cur,e,h0,h1,h2,h3,h4,h5⟩
 ·cases h0
 ·cases h0
  have hc:=(h5.drop o).take zs.length
  rw [hz] at hc
  obtain ⟨v,j1,j2⟩:=GV (P:=P) (b:=g) (o:=o) hy hc
  refine ⟨v,j1,fun w' _ hw=>?_⟩
  have hrow:=hw g (by simp)
  rw [h1] at hrow
  simp only [execOp,hv]
  refine Vr ?_
  simp only [Instr.loadAt,Instr.sureAddr,Sem.run_bind,Sem.run_pure,Result.andThen_ok]
  refine j2 w' fun j u hj=>?_
  rw [cell_of_row w' g (o+j) cur e (0,0) hrow]
  rw [Qe] at hj
  split at hj
  ·rw [List.getElem?_drop,Qe] at hj
   split at hj
   ·simpa using hj
   ·cases hj
  ·cases hj
theorem PL {K:Fr->List Res->Prop} {g len cap kk:Nat} {ls xs:List AV} {i:Nat} (hs:storeAt P ops F k=some (g,i,xs)) (hlt:i+xs.length<=ls.length)
  (hK:K F (.row (.slice (some ⟨g,0,none⟩) len cap) kk (ls.take i++xs++ls.drop (i+xs.length))::h2)):WE P n (ZI ops k) F (.row (.slice (some ⟨g,0,none⟩) len cap) kk ls::h2) K:=by
 unfold storeAt at hs
 generalize hoo:ZI ops k=q at hs
 obtain ⟨dst,op,type,pos,after,guard⟩:=q
 cases op<;>simp only at hs<;>try (cases hs)
 rename_i t x z
 split at hs
 ·rename_i b' o' inf hx hi
  split at hs
  ·rename_i hc
   simp only [Xb] at hc
   simp only [Wt,Prod.mk.injEq] at hs
   obtain ⟨rfl,rfl,hz⟩:=hs
   intro Q w G a hF hh
   have hvx:=hF.ev x
   rw [hx] at hvx
   have hvx:=hvx.val_inv
   have hvy:=hF.ev z
   have hcs:=hvy.cells hc.2.1
   rw [hz] at hcs hc
   have hone:=hcs.one_cells hc.2.2
   have Xx:inf.size=xs.length:=UT hc.1
   have hlen:(a.eval z).cells.size=xs.length:=by have:=hcs.length;simpa using this
   rcases hh.ok (.row (.slice (some ⟨b',0,none⟩) len cap) kk ls) (Xp ..) with ⟨h0,_⟩|⟨g',len',cap',cur,e,h0,h1,h2',h3,h4,h5⟩
   ·cases h0
   ·cases h0
    have hlc:len*kk<=cap*kk:=J3 _ h2'
    have hst:=run_storeCells_at P b' o' e (a.eval z).cells.toList 0 cur w h1 (by simp [hlen];omega) hone
    simp only [BQ,JA] at hst
    have hr:(execOp a.eval { dst:=none,op:=.store t x z,type:=type,pos:=pos,after:=after,guard:=guard }).run P w =
      .ok .skip (w.setRow b' (cur.toList.take o'++(a.eval z).cells.toList++cur.toList.drop (o'+(a.eval z).cells.size)).toArray):=by
     simp only [execOp,hvx]
     simp [Instr.storeAt,Instr.sureAddr,storeVar,Qn hi,hlen,Xx,hst]
    unfold Oper.wp
    rw [hr]
    have hcl:(a.eval z).cells.toList.length=xs.length:=by simpa using hlen
    obtain ⟨j1,j2⟩:=hh.rwrite (ls':=ls.take o'++xs++ls.drop (o'+xs.length)) (cs':=(cur.toList.take o'++(a.eval z).cells.toList++cur.toList.drop (o'+(a.eval z).cells.size)).toArray) h1
     (by simp [hlen];omega) h2' h3 (by simp;omega) (by
      rw [Fa,hlen]
      have e1:(cur.toList.take o'++(a.eval z).cells.toList++cur.toList.drop (o'+xs.length)).take (len*kk) =
        (cur.toList.take (len*kk)).take o'++(a.eval z).cells.toList++(cur.toList.take (len*kk)).drop (o'+xs.length):=by
       have q1:(cur.toList.take o'++(a.eval z).cells.toList).length=o'+xs.length:=by simp [hlen];omega
       rw [List.take_append,q1,WT om,List.take_take,VQ om,List.drop_take]
      rw [e1]
      exact ((h5.take o').append hcs).append (h5.drop _))
    refine ⟨F,_,G,hK,?_,j1,j2⟩
    have:=hF.mono (j2.agree hh)
    simpa [Act.put] using this
  ·cases hs
 ·cases hs
theorem Zb7 {K:Fr->List Res->Prop} {sz:Nat} (hd:VC n (ZI ops k)=true) (ha:To P ops F k=some ([],0,sz))
  (hK:∀g,K (F.put (ZI ops k).dst (.val (.slice (some ⟨g,0,none⟩) 0 0))) (.row (.slice (some ⟨g,0,none⟩) 0 0) sz []::h)):WE P n (ZI ops k) F h K:=by
 unfold To at ha
 generalize hoo:ZI ops k=q at ha hd hK
 obtain ⟨dst,op,type,pos,after,guard⟩:=q
 cases op<;>simp only at ha<;>try (cases ha)
 rename_i t ln parts
 split at ha
 case h_2=>cases ha
 rename_i e ht
 split at ha
 case h_2=>cases ha
 rename_i i hi
 split at ha
 case h_2=>cases ha
 rename_i hc
 simp only [Xb] at hc
 split at ha
 case h_2=>cases ha
 rename_i ls' hf
 simp only [Wt,Prod.mk.injEq] at ha
 obtain ⟨rfl,rfl,Xx⟩:=ha
 intro Q w G a hF hh
 obtain ⟨cs,h1,h2⟩:=GU hF parts ht hi rfl hc.1 hc.2 hf
 have hr:(execOp a.eval { dst:=dst,op:=.buildSlice t 0 parts,type:=type,pos:=pos,after:=after,guard:=guard }).run P w =
   .ok (.value (.slice (some ⟨w.heap.size,0,none⟩) 0 0)) (w.alloc (.cells cs e)):=by
  simp only [execOp]
  exact Vr h2
 unfold Oper.wp
 rw [hr]
 have hlc:=h1.length
 simp only [JA] at hlc
 obtain ⟨j1,j2⟩:=hh.alloc_rrow cs e (ls:=[]) (len:=0) (cap:=0) (k:=sz) (X9 _) (by simpa using hlc) (by simp) (by simpa using YV.nil)
 exact ⟨_,_,G,hK _,(hF.mono (j2.agree hh)).put (Tk hd) .val,j1,j2⟩
theorem Zb6 {K:Fr->List Res->Prop} {g sz:Nat} {xs:List AV} {hx:Option Value} (hd:VC n (ZI ops k)=true) (ha:TH P ops F k=some (.val (.slice (some ⟨g,0,none⟩) 0 0),.sl xs hx,sz))
  (hxs:∀y∈xs,y.leaves.length=sz) (hbound:xs.length<=4294967296)
  (hK:∀v:Hd,K (F.put (ZI ops k).dst (.val v.v)) (.row v.v sz (Zg xs)::h2)):WE P n (ZI ops k) F (.row (.slice (some ⟨g,0,none⟩) 0 0) sz []::h2) K:=by
 unfold TH at ha
 generalize hoo:ZI ops k=o at ha hd hK
 obtain ⟨dst,op,type,pos,after,guard⟩:=o
 cases op<;>simp only at ha<;>try (cases ha)
 rename_i c
 obtain ⟨callee,args,tys⟩:=c
 simp only at ha
 split at ha
 case h_2=>cases ha
 rename_i s x t t' hargs htys
 split at ha
 case h_2=>cases ha
 rename_i e htt ht
 have:=UT htt
 subst this
 split at ha
 case h_2=>cases ha
 rename_i i hinfo
 split at ha
 case h_2=>cases ha
 rename_i z hz
 split at ha
 case h_2=>cases ha
 rename_i hb
 simp only [Xb] at hb
 simp only [Wt,Prod.mk.injEq] at ha
 obtain ⟨h3,h4,hk1⟩:=ha
 have e1:args=#[s,x]:=by rw [<-UH (xs:=args),hargs]
 have e2:tys=#[t,t]:=by rw [<-UH (xs:=tys),htys]
 subst e1;subst e2
 have hzs:z.cells.size=sz:=by rw [UT hb.1,hk1]
 have hby:=V6 hb.2
 intro Q w G a hF hh
 have v1:=hF.ev s
 have v2:=hF.ev x
 rw [h3] at v1
 rw [h4] at v2
 have v1:=v1.val_inv
 have v2:=v2.forget
 have finish:∀(v':Hd) w',(Builtin.append_ #[t,t] type #[.slice (some ⟨g,0,none⟩) 0 0,a.eval x]).run P w=.ok v'.v w'->YI w' G (.row v'.v sz (Zg xs)::h2) ->
   X3 w G (.row (.slice (some ⟨g,0,none⟩) 0 0) sz []::h2) w' G (.row v'.v sz (Zg xs)::h2) ->
   ({ dst:=dst,op:=.call { callee:=.builtin .append,args:=#[s,x],argTypes:=#[t,t] },type:=type,pos:=pos,after:=after,guard:=guard }:Oper).wp P a w
    (fun a' w'=>∃F' h' G',K F' h'/\FR w' G' n F' a'/\YI w' G' h'/\X3 w G (.row (.slice (some ⟨g,0,none⟩) 0 0) sz []::h2) w' G' h') Q:=by
  intro v' w' hr j1 j2
  have hrun:(execOp a.eval { dst:=dst,op:=.call { callee:=.builtin .append,args:=#[s,x],argTypes:=#[t,t] },type:=type,pos:=pos,after:=after,guard:=guard }).run P w=.ok (.value v'.v) w':=by
   simp only [execOp,resolve,invoke,builtin,Sem.run_bind,Sem.run_pure,Result.andThen_ok,F8,Td,F7,v1,hr]
  unfold Oper.wp
  rw [hrun]
  exact ⟨_,_,G,hK v',(hF.mono (j2.agree hh)).put (Tk hd) .val,j1,j2⟩
 by_cases hxe:xs=[]
 ·subst hxe
  cases v2q:a.eval x with
  | slice ad' l' c'=>
   rw [v2q] at v2
   cases v2<;>exact finish ⟨some ⟨g,0,none⟩,0,0⟩ _ (by rw [v2q];exact DF ht hinfo (X9 _) w) hh (X3.refl w G _)
  | _=>rw [v2q] at v2;cases v2
 ·generalize hax:a.eval x=ax at v2 finish
  cases v2 with
  | nil _=>exact absurd rfl hxe
  | sl hq hcc hm=>
   rename_i b o' k' c
   have hpos:0<xs.length:=BO.2 hxe
   have hfm:=hm.flat_mem
   obtain ⟨news,hn,hnc⟩:=hfm.cells
   have hfl:=Ty xs hxs
   have hnl:news.length=xs.length*i.size:=by rw [hn.length,hfl,hk1]
   have hnews:∀j u,news[j]? = some u->w.cell? ((⟨b,o',none⟩:Addr).add j)=some u:=fun j u hj=>by rw [J5];exact (hnc j u hj).1
   have hbb:(0+xs.length)*i.bytes<=140737488355328:=by
    have:=Nat.mul_le_mul hbound hby
    rw [Wk]
    omega
   have hr:=run_append_grow (P:=P) w t type e i z ht hinfo hz ⟨g,0,none⟩ 0 0 [] (by simp) (fun j u hj=>by simp at hj) ⟨b,o',none⟩ xs.length c news hnl hnews om om (growslice_fits om hbb)
   simp only [Wk] at hr
   have Xk:=grownCap_ge w xs.length 0 e
   obtain ⟨j1,j2⟩:=hh.drew.alloc_rrow ([].toArray++news.toArray++Builtin.zeroCells z.cells (grownCap w xs.length 0 e-xs.length)) e
    (ls:=Zg xs) (len:=xs.length) (cap:=grownCap w xs.length 0 e) (k:=sz) Xk
    (by
     have q2:(grownCap w xs.length 0 e-xs.length)*sz=grownCap w xs.length 0 e*sz-xs.length*sz:=Nat.sub_mul ..
     have q3:xs.length*sz<=grownCap w xs.length 0 e*sz:=J3 _ Xk
     simp only [Array.size_append,F9,size_zeroCells,hzs,X7,Wk,hnl,hk1]
     omega) hfl
    (by
     have q1:([].toArray++news.toArray++Builtin.zeroCells z.cells (grownCap w xs.length 0 e-xs.length)).toList.take (xs.length*sz)=news:=by
      simp only [Hr,CK]
      rw [<-hk1,<-hnl]
      exact JD
     rw [q1]
     exact hn.mono (Bc w G))
   have hs:List.Sublist (.row (.slice (some ⟨w.drew.heap.size,0,none⟩) xs.length (grownCap w xs.length 0 e)) sz (Zg xs)::h2)
     (.row (.slice (some ⟨w.drew.heap.size,0,none⟩) xs.length (grownCap w xs.length 0 e)) sz (Zg xs)::.row (.slice (some ⟨g,0,none⟩) 0 0) sz []::h2):=List.Sublist.cons_cons _ (BP _ _)
   exact finish ⟨some ⟨w.heap.size,0,none⟩,xs.length,grownCap w xs.length 0 e⟩ _ hr (j1.sub hs) ((X3.drew w G _).trans (j2.sub' hs))
theorem LJ {w:World} {G:Yk} {v:Hd} {kk m:Nat} {ls:List AV} (h:JG w G v.v kk ls) (hm:ls.length=m*kk) (hk:0<kk) (h0:0<m):∃g c,v=⟨some ⟨g,0,none⟩,m,c⟩:=by
 obtain ⟨a,l,c⟩:=v
 rcases h with ⟨h1,h2⟩|⟨g,len,cap,cur,e,h1,h2,h3,h4,h5,h6⟩
 ·subst h2
  have:=Nat.mul_pos h0 hk
  rw [X7] at hm
  omega
 ·cases h1
  have:l=m:=Hu hk (h5.symm.trans hm)
  subst this
  exact ⟨g,c,rfl⟩
theorem Z10 (j m:Nat) {v:Hd} {kk:Nat} {ls:List AV} {c:Code} {A:WV} (hj:h[j]? = some (.row v.v kk ls)) (hm:ls.length=m*kk) (hk:0<kk) (h0:0<m)
  (H:∀g c',v=⟨some ⟨g,0,none⟩,m,c'⟩->Yy P n c A F h):Yy P n c A F h:=by
 intro w G a hF hh
 obtain ⟨g,c',e⟩:=LJ (hh.ok _ (Y4 hj)) hm hk h0
 exact H g c' e w G a hF hh
theorem Z0z (t j:Nat) {v:Hd} {kk:Nat} {es:List AV} {c:Code} {A:WV} (hF':F.get t=.h v) (hp:W8 [j] h=some [.row v.v kk (Zg es)]) (hes:∀y∈es,y.leaves.length=kk) (hk:0<kk)
  (H:Yy P n c A ((t,.sl es (some v.v))::F) (.tail v.v kk::XC [j] h)):Yy P n c A F h:=by
 intro w G a hF hh
 have hp':=Uh (VG hp)
 obtain ⟨G',h1,h2',h3⟩:=DE (hh.perm hp') hes hk
 have e:=h2'.perm hp'.symm (TB _)
 have hF2:=hF.mono (e.agree hh)
 have hv:=hF2.get t
 rw [hF'] at hv
 have hv:=hv.val_inv
 refine wp_mono (H w G' a ⟨hF2.defers,hF2.size,fun s=>?_⟩ h1) fun e' a' w' hc=>hc.trans e
 show RV w G' (match Nat.beq t s with|true=>_|false=>Fr.get F s) _
 cases hb:Nat.beq t s with
 | true=>
  have:=UT hb
  subst this
  rw [hv]
  exact h3
 | false=>exact hF2.get s
theorem Zfs (j i p:Nat) {u v:Value} {kk kv:Nat} {es ls:List AV} (hp:W8 [j,i] h=some [.row u kk (Zg es),.row v kv ls]) (hes:∀y∈es,y.leaves.length=kk) (hk:0<kk) (hl:ls[p]? = some (.val u)) :
  Vm h (.row v kv (ls.set p (.sl es (some u)))::.tail u kk::XC [j,i] h):=by
 intro w G hh
 have hp':=Uh (VG hp)
 have hh':=hh.perm hp'
 obtain ⟨G',h1,h2',h3⟩:=DE (h2:=.row v kv ls::XC [j,i] h) hh' hes hk
 have e:=h2'.perm hp'.symm (TB _)
 have h1:YI w G' (.tail u kk::.row v kv ls::XC [j,i] h):=h1
 have perm:(Res.tail u kk::.row v kv ls::XC [j,i] h).Perm (.row v kv ls::.tail u kk::XC [j,i] h):=List.Perm.swap ..
 have h4:=h1.perm perm
 have e4:=e.perm (TB _) perm
 have hset:∀{w:World} {G:Yk},RV w G (.sl es (some u)) u->JG w G v kv ls->JG w G v kv (ls.set p (.sl es (some u))):=by
  intro w G hu hr
  rcases hr with ⟨rfl,h0⟩|⟨g,len,cap,cur,el,rfl,k1,k2,k3,k4,k5⟩
  ·exact .inl ⟨rfl,by rw [h0];rfl⟩
  ·refine .inr ⟨g,len,cap,cur,el,rfl,k1,k2,k3,by rw [VJ];exact k4,?_⟩
   obtain ⟨c,c1,c2⟩:=k5.get p _ hl
   have:=c2.val_inv
   subst this
   have h6:=k5.set p hu
   rwa [show (cur.toList.take (len*kv)).set p c=cur.toList.take (len*kv) from by
    apply List.ext_getElem?
    intro q
    rw [List.getElem?_set]
    split
    ·rename_i hq;subst hq;split
     ·exact c1.symm
     ·rename_i hq2;rw [J0 om]
    ·rfl] at h6
 refine ⟨G',⟨fun r hr=>?_,?_,fun r hr=>?_,h4.lt⟩,⟨e4.os,e4.tape,e4.output,e4.size,e4.sub,e4.same,e4.newG,fun b o hb ⟨r,hr,hf⟩=>e4.newfp b o hb ?_⟩⟩
 ·rcases YM.1 hr with rfl|hr
  ·exact hset h3 (h4.ok _ (Xp ..))
  ·exact h4.ok r (XG _ hr)
 ·have:=Va.1 h4.apart
  refine Va.2 ⟨fun r hr b o f1 f2=>this.1 r hr b o ?_ f2,this.2⟩
  cases v with
  | slice a _ _=>cases a with
   | none=>exact f1.elim
   | some a=>exact f1
  | _=>exact f1.elim
 ·rcases YM.1 hr with rfl|hr
  ·intro b o f1 hg
   refine h4.prot (.row v kv ls) (Xp ..) b o ?_ hg
   cases v with
   | slice a _ _=>cases a with
    | none=>exact f1.elim
    | some a=>exact f1
   | _=>exact f1.elim
  ·exact h4.prot r (XG _ hr)
 ·rcases YM.1 hr with rfl|hr
  ·refine ⟨.row v kv ls,Xp ..,?_⟩
   cases v with
   | slice a _ _=>cases a with
    | none=>exact hf.elim
    | some a=>exact hf
   | _=>exact hf.elim
  ·exact ⟨r,XG _ hr,hf⟩
end
end Go.Abs
section
namespace Go.Abs
structure Z0j where
 fields:LI
 fv:Value
structure Mv where
 frm:Int
 to_:Int
 cons:List Z0j
 cv:Value
mutual
inductive Hz where
 | mk (op num into:Int) (args:LI) (av:Value) (kids:List Ff) (kv:Value)
inductive Ff where
 | mk (steps:List Hz) (sv:Value) (result:Int)
end
namespace Hz
end Hz
namespace Ff
end Ff
structure Z0n where
 params:LI
 pv:Value
 lent:LI
 lv:Value
 result:Int
 body:Ff
structure Z0l where
 decls:List Mv
 dv:Value
 routines:List Z0n
 rv:Value
inductive Hx:List AV->List AV->Prop
 | nil:Hx [] []
 | cons {x y:AV} {xs ys:List AV} (hl:x.leaves.length=y.leaves.length) (h:Vt x.leaves y.leaves) (t:Hx xs ys):Hx (x::xs) (y::ys)
theorem KI {es:List AV} {k:Nat} (h:es.all (fun y=>Nat.beq y.leaves.length k)=true):∀y∈es,y.leaves.length=k:=fun y hy=>UT (Af.1 h y hy)
abbrev rK (g:Hd) (k:Nat) (ls:List AV):Res:=.row g.v k ls
section
variable {P:Program} {n:Nat} {c:Code} {A:WV} {F:Fr} {h:List Res} {ops:Array Oper} {B:Fr->List Res->Prop} {k:Nat}
variable {T:List (Nat × List Nat)} {fuel:Nat} {done:List Nat}
theorem rr {v:Value} {q:Nat} {ls ls':List AV} {t t':List Res} (h:ls=ls') (e:t=t'):Res.row v q ls::t=.row v q ls'::t':=h▸e▸rfl
theorem L6 (j m:Nat) (v:Hd) (kk:Nat) (ls:List AV) (hm:ls.length=m*kk) (hk:0<kk:=by omega) (hl:Dp P ops F k=some (.h v):=by kernel_rfl) (hj:h[j]? = some (rK v kk ls):=by kernel_rfl):XW P (ZI ops k) F h [] (.i m):=
 Zf8 j hl hj hm hk
theorem Wa (b l c' q sz:Nat) (j:Int) (hq:j=(q:Int)/\q<l:=by omega) (hi:Bp P ops F k=some (.val (.slice (some ⟨b,0,none⟩) l c'),j,sz):=by kernel_rfl):XW P (ZI ops k) F h [] (.val (.pointer (some ⟨b,q*sz,none⟩))):=by
 have:=SJ (P:=P) (F:=F) (h:=h) hi om om
 rw [hq.1,Tc,Wk] at this
 exact this
theorem Vi (j g len cap kk o:Nat) (ls zs:List AV) (t:TypeId) (y:AV) (hz:(ls.drop o).take zs.length=zs) (hl:Lk ops F k=some (t,.val (.pointer (some ⟨g,o,none⟩))):=by kernel_rfl) (hj:h[j]? = some (.row (.slice (some ⟨g,0,none⟩) len cap) kk ls):=by kernel_rfl)
  (hy:AQ P t zs=some y:=by kernel_rfl):XW P (ZI ops k) F h [g] y:=Zf9 j hl hj hz hy
theorem Er (j g len cap kk o:Nat) (xs ls:List AV) (ls':List AV) (hlt:o+xs.length<=ls.length) (he:ls.take o++xs++ls.drop (o+xs.length)=ls') (H:SI P n ops B (k+1) F (.row (.slice (some ⟨g,0,none⟩) len cap) kk ls'::XC [j] h)) (hk:Xj n ops F k=true:=by kernel_rfl)
  (hs:storeAt P ops F k=some (g,o,xs):=by kernel_rfl) (hp:W8 [j] h=some [.row (.slice (some ⟨g,0,none⟩) len cap) kk ls]:=by kernel_rfl):SI P n ops B k F h:=
 Q4 hk (WE.perm (Uh (VG hp)) (PL hs hlt (by rw [he];exact H)))
theorem JV (i j:Nat) (js bs:List Nat) (g len cap kk o:Nat) (xs ls:List AV) (ls':List AV) (hlt:o+xs.length<=ls.length) (he:ls.take o++xs++ls.drop (o+xs.length)=ls')
  (H:X5 P n ops B (T.filter fun t=>!V8 ops i t.1) fuel (done++[i]) F (.row (.slice (some ⟨g,0,none⟩) len cap) kk ls'::XC [j] h)) (hk:Xj n ops F i=true:=by kernel_rfl)
  (hs:storeAt P ops F i=some (g,o,xs):=by kernel_rfl) (hp:W8 [j] h=some [.row (.slice (some ⟨g,0,none⟩) len cap) kk ls]:=by kernel_rfl) (ho:Ue ops i T=bs:=by kernel_rfl)
  (hj:js.map (fun q=>(WM (XC [j] h))[q]?)=bs.map some:=by kernel_rfl):Vc P n ops B T fuel done F h i:=
 J9 [j] js bs hk (VG hp) ho hj (PL (h2:=[]) hs hlt (by rw [he];exact H))
theorem Ep (sz:Nat) (hK:∀g,SI P n ops B (k+1) (F.put (ZI ops k).dst (.val (.slice (some ⟨g,0,none⟩) 0 0))) (.row (.slice (some ⟨g,0,none⟩) 0 0) sz []::h)) (hk:Xj n ops F k=true:=by kernel_rfl)
  (ha:To P ops F k=some ([],0,sz):=by kernel_rfl):SI P n ops B k F h:=Q4 hk (Zb7 (Uf hk).2.1 ha hK)
theorem iKC (j g sz:Nat) (xs:List AV) (hx:Option Value) (hxs:∀y∈xs,y.leaves.length=sz) (hbound:xs.length<=4294967296) (hK:∀v:Hd,SI P n ops B (k+1) (F.put (ZI ops k).dst (.h v)) (rK v sz (Zg xs)::XC [j] h))
  (hk:Xj n ops F k=true:=by kernel_rfl) (ha:TH P ops F k=some (.val (.slice (some ⟨g,0,none⟩) 0 0),.sl xs hx,sz):=by kernel_rfl) (hp:W8 [j] h=some [.row (.slice (some ⟨g,0,none⟩) 0 0) sz []]:=by kernel_rfl):SI P n ops B k F h:=
 Q4 hk (WE.perm (Uh (VG hp)) (Zb6 (Uf hk).2.1 ha hxs hbound hK))
theorem L5 (j m:Nat) {v:Hd} {kk:Nat} {ls:List AV} (hm:ls.length=m*kk) (h0:0<m) (H:∀g c',v=⟨some ⟨g,0,none⟩,m,c'⟩->Yy P n c A F h) (hk:0<kk:=by omega) (hj:h[j]? = some (rK v kk ls):=by kernel_rfl):Yy P n c A F h:=
 Z10 j m hj hm hk h0 H
theorem Z9c (t j:Nat) {v:Hd} {kk:Nat} (es:List AV) (hes:∀y∈es,y.leaves.length=kk) (H:Yy P n c A ((t,.sl es (some v.v))::F) (.tail v.v kk::XC [j] h)) (hk:0<kk:=by omega) (hF':F.get t=.h v:=by kernel_rfl)
  (hp:W8 [j] h=some [rK v kk (Zg es)]:=by kernel_rfl):Yy P n c A F h:=Z0z t j hF' hp hes hk H
theorem LK {A xs ys B:List AV} {o:Nat} (hA:A.length=o) (hl:xs.length=ys.length):(A++(xs++B)).take o++ys++(A++(xs++B)).drop (o+ys.length)=A++(ys++B):=by
 subst hA
 rw [JD,<-hl,<-List.drop_drop,List.drop_left,List.drop_left,VP]
theorem RC {A xs B:List AV} {o:Nat} (hA:A.length=o):((A++(xs++B)).drop o).take xs.length=xs:=by
 subst hA
 rw [List.drop_left,JD]
theorem KA (xs ys:List AV):Zg (xs++ys)=Zg xs++Zg ys:=by simp [Zg]
theorem Ma (j:Nat) (v:Value) (q:Nat) (ls ls':List AV) (e:ls=ls') (hp:W8 [j] h=some [.row v q ls]:=by kernel_rfl):Vm h (.row v q ls'::XC [j] h):=by
 subst e
 intro w G hh
 have hp':=Uh (VG hp)
 exact ⟨G,hh.perm hp',(X3.refl w G h).perm (TB _) hp'⟩
end
end Go.Abs
end
