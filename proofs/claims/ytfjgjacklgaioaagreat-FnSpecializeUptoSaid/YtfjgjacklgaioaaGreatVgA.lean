/-
  A part of the proofs of several laws (see the last file): no condition.
-/
import Derived.OrdersHeld
import Derived.Below
import Derived.KernelRfl
import Derived.Laws.AppendOwn
import Derived.Laws.MakeOwn
import Derived.IntWalk
import Derived.Lib.AppendZeros
set_option linter.all false
set_option linter.unusedVariables false
set_option linter.unusedSimpArgs false
set_option linter.unusedSectionVars false
set_option maxRecDepth 10000
set_option maxHeartbeats 4000000
namespace Go.Abs
abbrev LI:=List Int
theorem ob {p:Prop} (h:p:=by first|assumption|omega|rfl|(simp<;>omega)):p:=h
theorem kr {p:Prop} (h:p:=by kernel_rfl):p:=h
theorem om {p:Prop} (h:p:=by omega):p:=h
def Z6:=@if_neg
def Zd:=@if_pos
def Zr:=@beq_iff_eq
def Y4:=@List.mem_of_getElem?
def Y6:=@bne_iff_ne
def Yq:=@List.length_append
def Yu:=@congrArg
def YH:=@List.mem_cons
def X5:=@List.length_cons
def X6:=@Nat.le_refl
def Xd:=@List.mem_cons_self
def Xg:=@List.mem_append
def Xp:=@List.mem_cons_of_mem
def Xs:=@List.getElem?_eq_some_iff
def XG:=@List.mem_map
def XH:=@List.mem_singleton
def XM:=@Bool.eq_iff_iff
def XP:=@List.length_nil
def W9:=@Bool.and_eq_true
def Wc:=@Classical.not_not
def Wo:=@Option.some.injEq
def WY:=@List.length_take
def Vn:=@List.pairwise_cons
def Vo:=@Nat.le_of_ble_eq_true
def Vw:=@List.take_length
def Vx:=@List.take_of_length_le
def Vy:=@Nat.zero_add
def VF:=@Int.toNat_natCast
def VL:=@Nat.le_trans
def VZ:=@List.map_cons
def Ut:=@Array.toArray_toList
def UC:=@List.append_assoc
def UD:=@Nat.min_eq_left
def UW:=@List.take_append_drop
def UX:=@Nat.eq_of_beq_eq_true
def UY:=@Option.some.inj
def Tf:=@Array.getElem?_eq_some_iff
def Tg:=@List.length_set
def TA:=@List.getElem?_map
def TB:=@List.mem_of_mem_take
def Q6:=@List.cons_append
def Q7:=@List.getElem?_eq_getElem
def Ql:=@List.getElem?_take
def K9:=@List.Perm.refl
def Ka:=@List.length_map
def Kb:=@Nat.add_mul
def Kc:=@Nat.mul_one
def Kn:=@Bool.eq_false_iff
def Ko:=@List.append_nil
def Kq:=@Nat.mul_le_mul_right
def KS:=@List.drop_zero
def Jj:=@Array.length_toList
def JS:=@Nat.lt_or_ge
def A9:=@List.all_eq_true
def Aa:=@List.map_nil
def Ab:=@List.pairwise_append
def Ac:=@Nat.zero_le
def AA:=@List.take_left
def Bh:=@List.flatMap_cons
def Bi:=@List.getElem?_append_right
def Bj:=@List.getElem?_eq_none
def Bk:=@List.length_drop
def Bl:=@List.nil_append
def Bm:=@Nat.add_assoc
def C4:=@Classical.byContradiction
def C5:=@List.map_toArray
def C6:=@List.pairwise_singleton
def C7:=@List.sublist_cons_self
def C8:=@List.take_succ_cons
def C9:=@Option.map_some
def CX:=@List.getElem?_append_left
def CY:=@List.getElem?_drop
def CZ:=@Nat.add_zero
def DR:=@Array.getElem?_toList
def DS:=@Array.toList_append
def DT:=@List.size_toArray
def DU:=@List.toList_toArray
def Fx:=@List.getElem?_of_mem
def Fy:=@List.length_pos_iff
def Fz:=@List.set_eq_take_append_cons_drop
def HP:=@Array.getElem?_append_left
def HQ:=@List.drop_eq_nil_of_le
def HR:=@List.eq_of_mem_replicate
def HS:=@List.length_singleton
def HT:=@Nat.eq_of_mul_eq_mul_right
def HU:=@Nat.lt_of_lt_of_le
def N7:=@List.replicate_succ
def Z34:=@List.drop_eq_getElem_cons
end Go.Abs
namespace Go.Abs
inductive AV where
 | any
 | val (v:Value)
 | sl (es:List AV) (hv:Option Value)
 | agg (ls:List AV)
 | rp (ls:List AV)
 | tup (vs:List AV)
abbrev Yd:=Nat->Nat->Prop
def AV.leaves:AV->List AV
 | .agg ls=>ls
 | x=>[x]
mutual
inductive RV (w:World) (G:Yd):AV->Value->Prop
 | any {v}:RV w G .any v
 | val {v}:RV w G (.val v) v
 | nil {hv a cap} (h:∀x,hv=some x->x=.slice a 0 cap):RV w G (.sl [] hv) (.slice a 0 cap)
 | sl {es hv b o k cap} (h:∀x,hv=some x->x=.slice (some ⟨b,o,none⟩) es.length cap) (hc:es.length<=cap) (hm:Vf w G k b o es) :
   RV w G (.sl es hv) (.slice (some ⟨b,o,none⟩) es.length cap)
 | agg {ls cs} (h:YW w G ls cs):RV w G (.agg ls) (.agg cs.toArray)
 | rp {ls b o} (h:WE w G b o ls):RV w G (.rp ls) (.pointer (some ⟨b,o,none⟩))
 | tup {vs cs} (h:YW w G vs cs):RV w G (.tup vs) (.tuple cs.toArray)
inductive YW (w:World) (G:Yd):List AV->List Value->Prop
 | nil:YW w G [] []
 | cons {x v xs vs} (h:RV w G x v) (t:YW w G xs vs):YW w G (x::xs) (v::vs)
inductive WE (w:World) (G:Yd):Nat->Nat->List AV->Prop
 | nil {b o}:WE w G b o []
 | cons {b o x c xs} (hc:w.cell? ⟨b,o,none⟩=some c) (hg:G b o) (h:RV w G x c) (t:WE w G b (o+1) xs):WE w G b o (x::xs)
inductive Vf (w:World) (G:Yd):Nat->Nat->Nat->List AV->Prop
 | nil {k b o}:Vf w G k b o []
 | cons {k b o x xs} (hl:x.leaves.length=k) (h:WE w G b o x.leaves) (t:Vf w G k b (o+k) xs):Vf w G k b o (x::xs)
end
structure Ud (G:Yd) (w w':World) (G':Yd):Prop where
 cell:∀b o,G b o->w'.cell? ⟨b,o,none⟩=w.cell? ⟨b,o,none⟩
 sub:∀b o,G b o->G' b o
section mono
variable {w w':World} {G G':Yd}
mutual
theorem RV.mono {x:AV} {v:Value} (hA:Ud G w w' G'):RV w G x v->RV w' G' x v
 | .any=>.any
 | .val=>.val
 | .nil h=>.nil h
 | .sl h hc hm=>.sl h hc (hm.mono hA)
 | .agg h=>.agg (h.mono hA)
 | .rp h=>.rp (h.mono hA)
 | .tup h=>.tup (h.mono hA)
theorem YW.mono {xs:List AV} {vs:List Value} (hA:Ud G w w' G'):YW w G xs vs->YW w' G' xs vs
 | .nil=>.nil
 | .cons h t=>.cons (h.mono hA) (t.mono hA)
theorem WE.mono {b o:Nat} {xs:List AV} (hA:Ud G w w' G'):WE w G b o xs->WE w' G' b o xs
 | .nil=>.nil
 | .cons hc hg h t=>.cons ((hA.cell _ _ hg).trans hc) (hA.sub _ _ hg) (h.mono hA) (t.mono hA)
theorem Vf.mono {k b o:Nat} {xs:List AV} (hA:Ud G w w' G'):Vf w G k b o xs->Vf w' G' k b o xs
 | .nil=>.nil
 | .cons hl h t=>.cons hl (h.mono hA) (t.mono hA)
end
end mono
theorem YW.length {w:World} {G:Yd}:∀{xs:List AV} {vs:List Value},YW w G xs vs->vs.length=xs.length
 | _,_,.nil=>rfl
 | _,_,.cons _ t=>by simp [t.length]
theorem YW.get {w:World} {G:Yd}:∀{xs:List AV} {vs:List Value},YW w G xs vs->∀(i:Nat) (x:AV),xs[i]? = some x->∃v,vs[i]? = some v/\RV w G x v
 | _,_,.nil,i,x,h=>by simp at h
 | _,_,.cons h t,0,x,hx=>by simp at hx;subst hx;exact ⟨_,rfl,h⟩
 | _,_,.cons h t,i+1,x,hx=>by simpa using t.get i x (by simpa using hx)
theorem YW.append {w:World} {G:Yd}:∀{xs ys:List AV} {vs us:List Value},YW w G xs vs->YW w G ys us->YW w G (xs++ys) (vs++us)
 | _,_,_,_,.nil,h=>h
 | _,_,_,_,.cons h t,h2=>.cons h (t.append h2)
theorem YW.take {w:World} {G:Yd}:∀{xs:List AV} {vs:List Value} (n:Nat),YW w G xs vs->YW w G (xs.take n) (vs.take n)
 | _,_,0,_=>by simp;exact .nil
 | _,_,n+1,.nil=>by simp;exact .nil
 | _,_,n+1,.cons h t=>by simp;exact .cons h (t.take n)
theorem YW.drop {w:World} {G:Yd}:∀{xs:List AV} {vs:List Value} (n:Nat),YW w G xs vs->YW w G (xs.drop n) (vs.drop n)
 | _,_,0,h=>by simpa using h
 | _,_,n+1,.nil=>by simp;exact .nil
 | _,_,n+1,.cons h t=>by simpa using t.drop n
theorem YW.set {w:World} {G:Yd}:∀{xs:List AV} {vs:List Value} (n:Nat) {x:AV} {v:Value},YW w G xs vs->RV w G x v->YW w G (xs.set n x) (vs.set n v)
 | _,_,_,_,_,.nil,_=>by simp;exact .nil
 | _,_,0,_,_,.cons h t,hx=>by simp;exact .cons hx t
 | _,_,n+1,_,_,.cons h t,hx=>by simp;exact .cons h (t.set n hx)
theorem WE.drop {w:World} {G:Yd}:∀(n:Nat) {b o:Nat} {xs:List AV},WE w G b o xs->WE w G b (o+n) (xs.drop n)
 | 0,_,_,_,h=>by simpa using h
 | n+1,_,_,_,.nil=>by simp;exact .nil
 | n+1,_,_,_,.cons hc hg h t=>by
  have:=t.drop n
  simp only [List.drop_succ_cons]
  rw [show ∀o:Nat,o+(n+1)=o+1+n from fun o=>by omega]
  exact this
theorem WE.take {w:World} {G:Yd}:∀(n:Nat) {b o:Nat} {xs:List AV},WE w G b o xs->WE w G b o (xs.take n)
 | 0,_,_,_,h=>by simp;exact .nil
 | n+1,_,_,_,.nil=>by simp;exact .nil
 | n+1,_,_,_,.cons hc hg h t=>by simp;exact .cons hc hg h (t.take n)
theorem WE.append {w:World} {G:Yd}:∀{b o:Nat} {xs ys:List AV},WE w G b o xs->WE w G b (o+xs.length) ys->WE w G b o (xs++ys)
 | _,_,_,_,.nil,h=>by simpa using h
 | _,_,_,_,.cons hc hg h t,h2=>.cons hc hg h (t.append (by
   simp only [X5] at h2
   rw [show ∀(o:Nat) (l:Nat),o+1+l=o+(l+1) from fun o l=>by omega];exact h2))
theorem WE.cells {w:World} {G:Yd}:∀{b o:Nat} {xs:List AV},WE w G b o xs ->
  ∃cs,YW w G xs cs/\(∀j v,cs[j]? = some v->w.cell? ⟨b,o+j,none⟩=some v/\G b (o+j))
 | _,_,_,.nil=>⟨[],.nil,by simp⟩
 | _,o,_,.cons (c:=c) hc hg h t=>by
  obtain ⟨cs,h1,h2⟩:=t.cells
  refine ⟨c::cs,.cons h h1,fun j v hj=>?_⟩
  cases j with
  | zero=>simp at hj;subst hj;exact ⟨hc,hg⟩
  | succ j=>
   have:=h2 j v (by simpa using hj)
   rw [show o+1+j=o+(j+1) from by omega] at this
   exact this
theorem WE.of_cells {w:World} {G:Yd} {b:Nat}:∀{o:Nat} {xs:List AV} {cs:List Value},YW w G xs cs ->
  (∀j v,cs[j]? = some v->w.cell? ⟨b,o+j,none⟩=some v/\G b (o+j))->WE w G b o xs
 | _,_,_,.nil,_=>.nil
 | o,_,_,.cons (v:=c) h t,hc=>by
  have h0:=hc 0 c (by simp)
  refine .cons h0.1 h0.2 h (WE.of_cells t fun j v hj=>?_)
  have:=hc (j+1) v (by simpa using hj)
  rw [show o+(j+1)=o+1+j from by omega] at this
  exact this
def Zh (es:List AV):List AV:=es.flatMap AV.leaves
theorem Vf.flat_mem {w:World} {G:Yd} {k:Nat}:∀{b o:Nat} {xs:List AV},Vf w G k b o xs->WE w G b o (Zh xs)
 | _,_,_,.nil=>.nil
 | _,_,_,.cons hl h t=>by
  simp only [Zh,Bh]
  exact h.append (by rw [hl];exact t.flat_mem)
theorem Vf.of_flat {w:World} {G:Yd} {k:Nat} {b:Nat}:∀{o:Nat} (xs:List AV),(∀x∈xs,x.leaves.length=k)->WE w G b o (Zh xs)->Vf w G k b o xs
 | _,[],_,_=>.nil
 | o,x::xs,hk,h=>by
  have hx:=hk x (by simp)
  simp only [Zh,Bh] at h
  have h1:=h.take x.leaves.length
  have h2:=h.drop x.leaves.length
  simp only [List.take_left',List.drop_left'] at h1 h2
  rw [hx] at h2
  exact .cons hx h1 (Vf.of_flat xs (fun y hy=>hk y (by simp [hy])) h2)
theorem Vf.len {w:World} {G:Yd} {k:Nat}:∀{b o:Nat} {xs:List AV},Vf w G k b o xs->∀x∈xs,x.leaves.length=k
 | _,_,_,.nil,x,h=>by simp at h
 | _,_,_,.cons hl _ t,x,h=>by
  rcases YH.1 h with rfl|h
  ·exact hl
  ·exact t.len x h
theorem T5 {k:Nat}:∀(xs:List AV),(∀x∈xs,x.leaves.length=k)->(Zh xs).length=xs.length*k
 | [],_=>by simp [Zh]
 | x::xs,h=>by
  have:=T5 xs (fun y hy=>h y (by simp [hy]))
  simp only [Zh,Bh,Yq,X5] at this ⊢
  rw [this,h x (by simp),Kb];omega
theorem Vf.get {w:World} {G:Yd} {k:Nat}:∀{b o:Nat} {xs:List AV},Vf w G k b o xs->∀(i:Nat) (x:AV),xs[i]? = some x->WE w G b (o+i*k) x.leaves
 | _,_,_,.nil,i,x,h=>by simp at h
 | _,_,_,.cons hl h t,0,x,hx=>by simp at hx;subst hx;simpa using h
 | _,o,_,.cons hl h t,i+1,x,hx=>by
  have:=t.get i x (by simpa using hx)
  rw [show o+(i+1)*k=o+k+i*k from by rw [Kb];omega]
  exact this
theorem Vf.drop {w:World} {G:Yd} {k:Nat}:∀(n:Nat) {b o:Nat} {xs:List AV},Vf w G k b o xs->Vf w G k b (o+n*k) (xs.drop n)
 | 0,_,_,_,h=>by simpa using h
 | n+1,_,_,_,.nil=>by simp;exact .nil
 | n+1,_,o,_,.cons hl h t=>by
  have:=t.drop n
  simp only [List.drop_succ_cons]
  rw [show o+(n+1)*k=o+k+n*k from by rw [Kb];omega]
  exact this
theorem Vf.take {w:World} {G:Yd} {k:Nat}:∀(n:Nat) {b o:Nat} {xs:List AV},Vf w G k b o xs->Vf w G k b o (xs.take n)
 | 0,_,_,_,h=>by simp;exact .nil
 | n+1,_,_,_,.nil=>by simp;exact .nil
 | n+1,_,_,_,.cons hl h t=>by simp;exact .cons hl h (t.take n)
inductive Res where
 | obj (b:Nat) (ls:List AV)
 | tail (v:Value) (k:Nat)
 | ge (s:Nat)
 | vec (v:Value) (ls:List AV)
 | many (ts:List (Value × Nat))
 | own (B:List Nat) (m:Nat->Nat->Option Value)
 | row (v:Value) (k:Nat) (ls:List AV)
def Fj:Value->Nat->Yd
 | .slice (some a) len _,k,b',o=>b'=a.block/\len*k<=o
 | _,_,_,_=>False
def Res.fp:Res->Yd
 | .obj b _,b',_=>b'=b
 | .tail (.slice (some a) len _) k,b',o=>b'=a.block/\len*k<=o
 | .tail _ _,_,_=>False
 | .ge _,_,_=>False
 | .vec (.slice (some a) _ _) _,b',_=>b'=a.block
 | .vec _ _,_,_=>False
 | .many ts,b',o=>∃p∈ts,Fj p.1 p.2 b' o
 | .own B _,b',_=>b'∈B
 | .row (.slice (some a) _ _) _ _,b',_=>b'=a.block
 | .row _ _ _,_,_=>False
def HW (w:World) (v:Value) (k:Nat):Prop:=
 v=.slice none 0 0∨∃g len cap cur e,v=.slice (some ⟨g,0,none⟩) len cap/\w.heap[g]? = some (.cells cur e (0,0))/\len<=cap/\cur.size=cap*k
def Bt (w:World) (G:Yd) (v:Value) (ls:List AV):Prop:=
 (v=.slice none 0 0/\ls=[])∨∃g cap cur e,v=.slice (some ⟨g,0,none⟩) ls.length cap/\w.heap[g]? = some (.cells cur e (0,0))/\ls.length<=cap/\cur.size=cap /\
  YW w G ls (cur.toList.take ls.length)
def Ad (w:World) (G:Yd) (v:Value) (k:Nat) (ls:List AV):Prop:=
 (v=.slice none 0 0/\ls=[])∨∃g len cap cur e,v=.slice (some ⟨g,0,none⟩) len cap/\w.heap[g]? = some (.cells cur e (0,0))/\len<=cap/\cur.size=cap*k/\ls.length=len*k /\
  YW w G ls (cur.toList.take (len*k))
def QH (w:World) (G:Yd):Res->Prop
 | .obj b ls=>∃cs e,w.heap[b]? = some (.cells cs e (0,0))/\YW w G ls cs.toList
 | .tail v k=>HW w v k
 | .ge s=>s<=w.heap.size
 | .vec v ls=>Bt w G v ls
 | .many ts=>(∀p∈ts,HW w p.1 p.2)/\ts.Pairwise (fun p q=>∀b o,Fj p.1 p.2 b o->Fj q.1 q.2 b o->False)
 | .own B m=>∀b∈B,∃cs e,w.heap[b]? = some (.cells cs e (0,0))/\∀o,cs[o]? = m b o
 | .row v k ls=>Ad w G v k ls
def Vh (h:List Res):Yd:=fun b o=>∃r∈h,r.fp b o
def AF (r r':Res):Prop:=∀b o,r.fp b o->r'.fp b o->False
structure Yx (w:World) (G:Yd) (h:List Res):Prop where
 ok:∀r∈h,QH w G r
 apart:h.Pairwise AF
 prot:∀r∈h,∀b o,r.fp b o->G b o->False
 lt:∀b o,G b o->b<w.heap.size
theorem QH.lt {w:World} {G:Yd} {r:Res} (h:QH w G r):∀b o,r.fp b o->b<w.heap.size:=by
 intro b o hf
 cases r with
 | obj b' ls=>obtain ⟨cs,e,h1,_⟩:=h;cases hf;exact (Tf.1 h1).1
 | tail v k=>
  rcases h with rfl|⟨g,len,cap,cur,e,rfl,h1,_⟩
  ·exact hf.elim
  ·obtain ⟨rfl,_⟩:=hf;exact (Tf.1 h1).1
 | ge s=>exact hf.elim
 | vec v ls=>
  rcases h with ⟨rfl,_⟩|⟨g,cap,cur,e,rfl,h1,_⟩
  ·exact hf.elim
  ·have hf:b=g:=hf
   subst hf
   exact (Tf.1 h1).1
 | many ts=>
  obtain ⟨p,hp,hf⟩:=hf
  rcases h.1 p hp with h0|⟨g,len,cap,cur,e,h0,h1,_⟩
  ·rw [h0] at hf;exact hf.elim
  ·rw [h0] at hf;obtain ⟨rfl,_⟩:=hf;exact (Tf.1 h1).1
 | own B m=>obtain ⟨cs,e,h1,_⟩:=h b hf;exact (Tf.1 h1).1
 | row v k ls=>
  rcases h with ⟨rfl,_⟩|⟨g,len,cap,cur,e,rfl,h1,_⟩
  ·exact hf.elim
  ·have hf:b=g:=hf
   subst hf
   exact (Tf.1 h1).1
def Jm (O:Yd) (b:Nat) (w w':World):Prop:=
 w'.heap[b]? = w.heap[b]?∨∃cs cs' e fr,w.heap[b]? = some (.cells cs e fr)/\w'.heap[b]? = some (.cells cs' e fr)/\cs'.size=cs.size/\∀o,¬O b o->cs'[o]? = cs[o]?
theorem Jm.eq {O:Yd} {b:Nat} {w w':World} (h:Jm O b w w') (hn:∀o,¬O b o):w'.heap[b]? = w.heap[b]?:=by
 rcases h with h|⟨cs,cs',e,fr,h1,h2,hs,hc⟩
 ·exact h
 ·have:cs'=cs:=by
   apply Array.ext hs
   intro i h1 h2
   have:=hc i (hn i)
   simpa [h1,h2] using this
  rw [h1,h2,this]
theorem Jm.cell {O:Yd} {b:Nat} {w w':World} (h:Jm O b w w') {o:Nat} (hn:¬O b o):w'.cell? ⟨b,o,none⟩=w.cell? ⟨b,o,none⟩:=by
 rcases h with h|⟨cs,cs',e,fr,h1,h2,hs,hc⟩
 ·simp [World.cell?,h]
 ·simp [World.cell?,h1,h2,hc o hn]
theorem Jm.mono {O O':Yd} {b:Nat} {w w':World} (h:Jm O b w w') (hO:∀o,O b o->O' b o):Jm O' b w w':=by
 rcases h with h|⟨cs,cs',e,fr,h1,h2,hs,hc⟩
 ·exact .inl h
 ·exact .inr ⟨cs,cs',e,fr,h1,h2,hs,fun o hn=>hc o fun h=>hn (hO o h)⟩
theorem Jm.trans {O:Yd} {b:Nat} {w w' w'':World} (h:Jm O b w w') (k:Jm O b w' w''):Jm O b w w'':=by
 rcases h with h|⟨cs,cs',e,fr,h1,h2,hs,hc⟩
 ·rcases k with k|⟨cs,cs',e,fr,h1,h2,hs,hc⟩
  ·exact .inl (k.trans h)
  ·exact .inr ⟨cs,cs',e,fr,h▸h1,h2,hs,hc⟩
 ·rcases k with k|⟨ds,ds',e',fr',k1,k2,ks,kc⟩
  ·exact .inr ⟨cs,cs',e,fr,h1,k▸h2,hs,hc⟩
  ·rw [h2] at k1
   cases k1
   exact .inr ⟨cs,ds',e,fr,h1,k2,ks.trans hs,fun o hn=>(kc o hn).trans (hc o hn)⟩
structure YZ (w:World) (G:Yd) (h:List Res) (w':World) (G':Yd) (h':List Res):Prop where
 os:w'.os=w.os
 tape:w'.tape=w.tape
 output:w'.output=w.output
 size:w.heap.size<=w'.heap.size
 sub:∀b o,G b o->G' b o
 same:∀b,b<w.heap.size->Jm (Vh h) b w w'
 newG:∀b o,b<w.heap.size->G' b o->G b o∨Vh h b o
 newfp:∀b o,b<w.heap.size->Vh h' b o->Vh h b o
theorem YZ.refl (w:World) (G:Yd) (h:List Res):YZ w G h w G h:=
 ⟨rfl,rfl,rfl,X6 _,fun _ _ h=>h,fun _ _=>.inl rfl,fun _ _ _ h=>.inl h,fun _ _ _ h=>h⟩
theorem YZ.trans {w w' w'':World} {G G' G'':Yd} {h h' h'':List Res} (a:YZ w G h w' G' h') (b:YZ w' G' h' w'' G'' h''):YZ w G h w'' G'' h'' where
 os:=b.os.trans a.os
 tape:=b.tape.trans a.tape
 output:=b.output.trans a.output
 size:=VL a.size b.size
 sub:=fun x o hg=>b.sub x o (a.sub x o hg)
 same:=fun x hx=>(a.same x hx).trans ((b.same x (HU hx a.size)).mono fun o ho=>a.newfp x o hx ho)
 newG:=fun x o hx hg=>by
  rcases b.newG x o (HU hx a.size) hg with h1|h1
  ·exact a.newG x o hx h1
  ·exact .inr (a.newfp x o hx h1)
 newfp:=fun x o hx ho=>a.newfp x o hx (b.newfp x o (HU hx a.size) ho)
theorem YZ.agree {w w':World} {G G':Yd} {h h':List Res} (e:YZ w G h w' G' h') (hk:Yx w G h):Ud G w w' G' where
 cell:=fun b o hg=>(e.same b (hk.lt b o hg)).cell fun ⟨r,hr,hf⟩=>hk.prot r hr b o hf hg
 sub:=e.sub
theorem Ap {h k:List Res} {b o:Nat}:Vh (h++k) b o↔Vh h b o∨Vh k b o:=by
 unfold Vh
 constructor
 ·rintro ⟨r,hr,hf⟩
  rcases Xg.1 hr with hr|hr
  ·exact .inl ⟨r,hr,hf⟩
  ·exact .inr ⟨r,hr,hf⟩
 ·rintro (⟨r,hr,hf⟩|⟨r,hr,hf⟩)
  ·exact ⟨r,Xg.2 (.inl hr),hf⟩
  ·exact ⟨r,Xg.2 (.inr hr),hf⟩
theorem Yx.left {w:World} {G:Yd} {h k:List Res} (H:Yx w G (h++k)):Yx w G h:=
 ⟨fun r hr=>H.ok r (Xg.2 (.inl hr)),(Ab.1 H.apart).1,fun r hr=>H.prot r (Xg.2 (.inl hr)),H.lt⟩
theorem Yx.cross {w:World} {G:Yd} {h k:List Res} (H:Yx w G (h++k)) {b o:Nat} (h1:Vh h b o) (h2:Vh k b o):False:=by
 obtain ⟨r,hr,hf⟩:=h1
 obtain ⟨r',hr',hf'⟩:=h2
 exact (Ab.1 H.apart).2.2 r hr r' hr' b o hf hf'
theorem Yx.frame {w w':World} {G G':Yd} {h h' k:List Res} (H:Yx w G (h++k)) (e:YZ w G h w' G' h') (H':Yx w' G' h') :
  Yx w' G' (h'++k)/\YZ w G (h++k) w' G' (h'++k):=by
 have hA:=e.agree H.left
 have hkok:∀r∈k,QH w G r:=fun r hr=>H.ok r (Xg.2 (.inr hr))
 have hklt:∀b o,Vh k b o->b<w.heap.size:=fun b o ⟨r,hr,hf⟩=>(hkok r hr).lt b o hf
 refine ⟨⟨?_,?_,?_,H'.lt⟩,⟨e.os,e.tape,e.output,e.size,e.sub,?_,?_,?_⟩⟩
 ·intro r hr
  rcases Xg.1 hr with hr|hr
  ·exact H'.ok r hr
  ·have h0:=hkok r hr
   cases r with
   | obj b ls=>
    obtain ⟨cs,el,h1,h2⟩:=h0
    have hb:=(Tf.1 h1).1
    refine ⟨cs,el,?_,h2.mono hA⟩
    rw [(e.same b hb).eq fun _ ho=>H.cross ho ⟨_,hr,rfl⟩]
    exact h1
   | tail v kk=>
    rcases h0 with rfl|⟨g,len,cap,cur,el,rfl,h1,h2,h3⟩
    ·exact .inl rfl
    ·have hb:=(Tf.1 h1).1
     rcases e.same g hb with hs|⟨cs,cs',e',fr,k1,k2,k3,_⟩
     ·exact .inr ⟨g,len,cap,cur,el,rfl,hs.trans h1,h2,h3⟩
     ·rw [h1] at k1
      cases k1
      exact .inr ⟨g,len,cap,cs',el,rfl,k2,h2,k3.trans h3⟩
   | ge s=>exact VL h0 e.size
   | vec v ls=>
    rcases h0 with ⟨rfl,h0⟩|⟨g,cap,cur,el,rfl,h1,h2,h3,h4⟩
    ·exact .inl ⟨rfl,h0⟩
    ·have hb:=(Tf.1 h1).1
     refine .inr ⟨g,cap,cur,el,rfl,?_,h2,h3,h4.mono hA⟩
     rw [(e.same g hb).eq fun o ho=>H.cross ho ⟨_,hr,rfl⟩]
     exact h1
   | many ts=>
    refine ⟨fun p hp=>?_,h0.2⟩
    rcases h0.1 p hp with q|⟨g,len,cap,cur,el,q,h1,h2,h3⟩
    ·exact .inl q
    ·have hb:=(Tf.1 h1).1
     rcases e.same g hb with hs|⟨cs,cs',e',fr,k1,k2,k3,_⟩
     ·exact .inr ⟨g,len,cap,cur,el,q,hs.trans h1,h2,h3⟩
     ·rw [h1] at k1
      cases k1
      exact .inr ⟨g,len,cap,cs',el,q,k2,h2,k3.trans h3⟩
   | own B m=>
    intro b hB
    obtain ⟨cs,el,h1,h2⟩:=h0 b hB
    have hb:=(Tf.1 h1).1
    refine ⟨cs,el,?_,h2⟩
    rw [(e.same b hb).eq fun o ho=>H.cross ho ⟨_,hr,hB⟩]
    exact h1
   | row v k ls=>
    rcases h0 with ⟨rfl,h0⟩|⟨g,len,cap,cur,el,rfl,h1,h2,h3,h4,h5⟩
    ·exact .inl ⟨rfl,h0⟩
    ·have hb:=(Tf.1 h1).1
     refine .inr ⟨g,len,cap,cur,el,rfl,?_,h2,h3,h4,h5.mono hA⟩
     rw [(e.same g hb).eq fun o ho=>H.cross ho ⟨_,hr,rfl⟩]
     exact h1
 ·refine Ab.2 ⟨H'.apart,(Ab.1 H.apart).2.1,fun r hr r' hr' b o hf hf'=>?_⟩
  have hb:=hklt b o ⟨r',hr',hf'⟩
  exact H.cross (e.newfp b o hb ⟨r,hr,hf⟩) ⟨r',hr',hf'⟩
 ·intro r hr b o hf hg
  rcases Xg.1 hr with hr|hr
  ·exact H'.prot r hr b o hf hg
  ·have hb:=hklt b o ⟨r,hr,hf⟩
   rcases e.newG b o hb hg with h1|h1
   ·exact H.prot r (Xg.2 (.inr hr)) b o hf h1
   ·exact H.cross h1 ⟨r,hr,hf⟩
 ·exact fun b hb=>(e.same b hb).mono fun _ ho=>Ap.2 (.inl ho)
 ·intro b o hb hg
  exact (e.newG b o hb hg).imp id fun h=>Ap.2 (.inl h)
 ·intro b o hb hf
  rcases Ap.1 hf with h1|h1
  ·exact Ap.2 (.inl (e.newfp b o hb h1))
  ·exact Ap.2 (.inr h1)
theorem AF.symm {r r':Res} (h:AF r r'):AF r' r:=fun b o h1 h2=>h b o h2 h1
theorem BD {h k:List Res} (p:h.Perm k) {b o:Nat}:Vh h b o↔Vh k b o:=
 ⟨fun ⟨r,hr,hf⟩=>⟨r,p.mem_iff.1 hr,hf⟩,fun ⟨r,hr,hf⟩=>⟨r,p.mem_iff.2 hr,hf⟩⟩
theorem Yx.perm {w:World} {G:Yd} {h k:List Res} (H:Yx w G h) (p:h.Perm k):Yx w G k:=
 ⟨fun r hr=>H.ok r (p.mem_iff.2 hr),(p.pairwise_iff (fun h=>AF.symm h)).1 H.apart,fun r hr=>H.prot r (p.mem_iff.2 hr),H.lt⟩
theorem YZ.perm {w w':World} {G G':Yd} {h h' k k':List Res} (e:YZ w G h w' G' h') (p:h.Perm k) (p':h'.Perm k'):YZ w G k w' G' k':=
 ⟨e.os,e.tape,e.output,e.size,e.sub,fun b hb=>(e.same b hb).mono fun _ ho=>(BD p).1 ho,
  fun b o hb hg=>(e.newG b o hb hg).imp id (BD p).1,fun b o hb hf=>(BD p).1 (e.newfp b o hb ((BD p').2 hf))⟩
abbrev Fr:=List (Nat × AV)
def Fr.get:Fr->Nat->AV
 | [],_=>.any
 | (s,x)::r,t=>match Nat.beq s t with | true=>x | false=>Fr.get r t
def AV.ofVal:Value->AV
 | .slice none 0 0=>.sl [] (some (.slice none 0 0))
 | v=>.val v
theorem RV.ofVal {w:World} {G:Yd} (v:Value):RV w G (AV.ofVal v) v:=by
 unfold AV.ofVal
 split
 ·exact .nil (by simp)
 ·exact .val
def Fr.ev (F:Fr):Operand->AV
 | .tmp t=>F.get t
 | .const v=>AV.ofVal v
 | .global g=>.val (.pointer (some ⟨g,0,none⟩))
 | .func f=>.val (.func (.func f) #[] #[])
def Fr.put (F:Fr) (d:Option Tmp) (x:AV):Fr:=
 match d with
 | some d=>(d,x)::F
 | none=>F
structure FR (w:World) (G:Yd) (n:Nat) (F:Fr) (a:Act):Prop where
 defers:a.defers=[]
 size:a.tmps.size=n
 get:∀t,RV w G (F.get t) (a.tmps.getD t undef)
section
variable {w w':World} {G G':Yd} {n:Nat} {F:Fr} {a:Act}
theorem FR.mono (h:FR w G n F a) (hA:Ud G w w' G'):FR w' G' n F a:=⟨h.defers,h.size,fun t=>(h.get t).mono hA⟩
theorem FR.ev (h:FR w G n F a) (x:Operand):RV w G (F.ev x) (a.eval x):=by
 cases x with
 | tmp t=>exact h.get t
 | const v=>exact RV.ofVal v
 | global g=>exact .val
 | func f=>exact .val
theorem FR.put (h:FR w G n F a) {d:Option Tmp} {x:AV} {v:Value} (hd:∀t,d=some t->t<n) (hx:RV w G x v):FR w G n (F.put d x) (a.put d v):=by
 cases d with
 | none=>exact h
 | some d=>
  have hlt:=hd d rfl
  refine ⟨h.defers,by simp [Act.put,h.size],fun t=>?_⟩
  show RV w G (match Nat.beq d t with|true=>x|false=>Fr.get F t) ((a.tmps.setIfInBounds d v).getD t undef)
  by_cases e:d=t
  ·subst e
   have:Nat.beq d d=true:=Nat.beq_refl d
   rw [this]
   simp [h.size,hlt,hx]
  ·have hb:Nat.beq d t=false:=by
    cases hh:Nat.beq d t
    ·rfl
    ·exact absurd (UX hh) e
   rw [hb]
   have:=h.get t
   simpa [Array.getElem?_setIfInBounds_ne e] using this
end
def Fr.Le (F F':Fr):Prop:=∀w G v t,RV w G (F.get t) v->RV w G (F'.get t) v
theorem FR.le {w:World} {G:Yd} {n:Nat} {F F':Fr} {a:Act} (h:FR w G n F a) (hle:F.Le F'):FR w G n F' a:=
 ⟨h.defers,h.size,fun t=>hle _ _ _ _ (h.get t)⟩
abbrev V8:=Exit->Fr->List Res->Prop
def AE (n:Nat) (A:V8) (w:World) (G:Yd) (h:List Res) (e:Exit) (a':Act) (w':World):Prop:=
 ∃F' h' G',A e F' h'/\FR w' G' n F' a'/\Yx w' G' h'/\YZ w G h w' G' h'
theorem AE.trans {n:Nat} {A:V8} {w w' w'':World} {G G':Yd} {h h':List Res} {e:Exit} {a:Act} (x:YZ w G h w' G' h') (c:AE n A w' G' h' e a w'') :
  AE n A w G h e a w'':=by
 obtain ⟨F,k,G'',h1,h2,h3,h4⟩:=c
 exact ⟨F,k,G'',h1,h2,h3,x.trans h4⟩
theorem AE.mono {n:Nat} {A B:V8} {w w':World} {G:Yd} {h:List Res} {e:Exit} {a:Act} (hAB:∀e F h,A e F h->B e F h) (c:AE n A w G h e a w') :
  AE n B w G h e a w':=by
 obtain ⟨F,k,G'',h1,h2,h3,h4⟩:=c
 exact ⟨F,k,G'',hAB _ _ _ h1,h2,h3,h4⟩
def Yw (P:Program) (n:Nat) (c:Code) (A:V8) (F:Fr) (h:List Res):Prop:=
 ∀w G a,FR w G n F a->Yx w G h->c.wp P (AE n A w G h) a w
def WD (P:Program) (f:FuncId) (args:List AV) (h:List Res) (R:AV->List Res->Prop):Prop:=
 ∀w G vs,YW w G args vs->Yx w G h ->
  Calls P f vs.toArray w fun e w'=>∃v r h' G',e=.returned v/\R r h'/\RV w' G' r v/\Yx w' G' h'/\YZ w G h w' G' h'
theorem WD.mono {P:Program} {f:FuncId} {args:List AV} {h:List Res} {R R':AV->List Res->Prop} (H:WD P f args h R) (hR:∀r h',R r h'->R' r h') :
  WD P f args h R':=fun w G vs ha hh=>(H w G vs ha hh).mono fun _ _ ⟨v,r,h',G',h1,h2,h3⟩=>⟨v,r,h',G',h1,hR _ _ h2,h3⟩
def WO (P:Program) (n:Nat) (o:Oper) (F:Fr) (h:List Res) (K:Fr->List Res->Prop):Prop:=
 ∀(Q:Exit->Act->World->Prop) w G a,FR w G n F a->Yx w G h ->
  o.wp P a w (fun a' w'=>∃F' h' G',K F' h'/\FR w' G' n F' a'/\Yx w' G' h'/\YZ w G h w' G' h') Q
def VO (n:Nat) (o:Oper):Bool:=match o.dst with|some d=>Nat.blt d n|none=>true
theorem Tm {n:Nat} {o:Oper} (h:VO n o=true):∀t,o.dst=some t->t<n:=by
 intro t ht
 simp [VO,ht] at h
 exact h
def XB (P:Program) (o:Oper) (F:Fr) (h:List Res) (ks:List Nat) (x:AV):Prop:=
 ∀n w G a,FR w G n F a->Yx w G h->∃v,RV w G x v /\
  ∀w',(∀b o,G b o->w'.cell? ⟨b,o,none⟩=w.cell? ⟨b,o,none⟩)->(∀b∈ks,w'.heap[b]? = w.heap[b]?)->(execOp a.eval o).run P w'=.ok (.value v) w'
theorem XB.op {P:Program} {n:Nat} {o:Oper} {F:Fr} {h:List Res} {ks:List Nat} {x:AV} {K:Fr->List Res->Prop} (hs:XB P o F h ks x) (hd:VO n o=true)
  (hK:K (F.put o.dst x) h):WO P n o F h K:=by
 intro Q w G a hF hh
 obtain ⟨v,hv,hr⟩:=hs n w G a hF hh
 unfold Oper.wp
 rw [hr w (fun _ _ _=>rfl) (fun _ _=>rfl)]
 exact ⟨_,h,G,hK,hF.put (Tm hd) hv,hh,YZ.refl _ _ _⟩
def El (op:BinOp) (k:IntKind) (a b:Int):Option Value:=
 match op with
 | .add=>some (.int k (k.wrap (a+b)))
 | .sub=>some (.int k (k.wrap (a-b)))
 | .mul=>some (.int k (k.wrap (a*b)))
 | .eql=>some (.bool (a==b))
 | .neq=>some (.bool (a != b))
 | .lss=>some (.bool (decide (a<b)))
 | .leq=>some (.bool (decide (a<=b)))
 | .gtr=>some (.bool (decide (a>b)))
 | .geq=>some (.bool (decide (a>=b)))
 | _=>none
def F5:IntKind->IntKind->Bool
 | .i8,.i8 | .i16,.i16 | .i32,.i32 | .i64,.i64 | .u8,.u8 | .u16,.u16 | .u32,.u32 | .u64,.u64=>true
 | _,_=>false
theorem Zh0 {a b:IntKind} (h:F5 a b=true):a=b:=by cases a<;>cases b<;>first|rfl|(simp [F5] at h)
def CE (P:Program) (t:TypeId):Option (Array Field):=
 match P.underlying t with
 | some (.struct fs)=>some fs
 | _=>none
def Du (P:Program) (t:TypeId):Option Bool:=
 match P.underlying t with
 | some (.struct _) | some (.array _ _)=>some true
 | some _=>some false
 | none=>none
def En (P:Program) (t:TypeId) (f:Nat):Option Nat:=
 match CE P t with
 | some fs=>match fs[f]? with
  | some fd=>match (P.info? fd.type) with
   | some i=>match Nat.beq i.size 0 with | true=>none | false=>some fd.offset
   | none=>none
  | none=>none
 | none=>none
def B3 (P:Program) (t:TypeId) (ls:List AV):Option AV:=
 match Du P t,P.info? t with
 | some true,some i=>match Nat.ble i.size ls.length with | true=>some (.agg (ls.take i.size)) | false=>none
 | some false,some _=>ls.head?
 | _,_=>none
def AV.one:AV->Bool
 | .val v=>v.oneCell'
 | .sl _ _=>true
 | .rp _=>true
 | _=>false
def AV.fit:AV->Bool
 | .agg _=>true
 | x=>x.one
def AT (place:Nat->Option (Nat × Nat)) (ls:List AV):List (Nat × AV)->Option (List AV)
 | []=>some ls
 | (i,x)::rest=>
  match place i with
  | none=>none
  | some (off,size)=>match x.fit&&(Nat.beq x.leaves.length size&&Nat.ble (off+size) ls.length) with
   | true=>AT place (ls.take off++x.leaves++ls.drop (off+size)) rest
   | false=>none
def DQ (P:Program) (t:TypeId):Option (List AV):=
 match P.info? t with
 | some i=>match i.zero with
  | some z=>some (z.cells.toList.map AV.ofVal)
  | none=>none
 | none=>none
def EU (P:Program) (fs:Array Field) (i:Nat):Option (Nat × Nat):=
 match fs[i]? with
 | some f=>match P.info? f.type with
  | some j=>some (f.offset,j.size)
  | none=>none
 | none=>none
def OV (P:Program) (fs:Array Field):Bool:=fs.toList.all fun f=>(P.info? f.type).isSome
def JR:List AV->Option (List Value)
 | []=>some []
 | .val v::r=>match JR r with | some vs=>some (v::vs) | none=>none
 | _::_=>none
def QN (P:Program) (o:Oper) (F:Fr) (h:List Res) (hint:Nat):Option (AV × List (Nat × Nat)):=
 match o.op with
 | .move x | .assign x=>some (F.ev x,[])
 | .pick c a b=>match F.ev c with
  | .val (.bool true)=>some (F.ev a,[])
  | .val (.bool false)=>some (F.ev b,[])
  | _=>none
 | .binOp op _ x y _=>match F.ev x,F.ev y with
  | .val (.int k a),.val (.int k' b)=>match F5 k k' with
   | true=>match El op k a b with
    | some v=>some (.val v,[])
    | none=>none
   | false=>none
  | _,_=>none
 | .unOp op _ x=>match op,F.ev x with
  | .not,.val (.bool b)=>some (.val (.bool (!b)),[])
  | _,_=>none
 | .nilCheck x=>match F.ev x with
  | .val (.pointer (some a))=>some (.val (.pointer (some a)),[])
  | .rp ls=>some (.rp ls,[])
  | .val (.func (.func f) p c)=>some (.val (.func (.func f) p c),[])
  | _=>none
 | .fieldAddr s x f=>match En P s f with
  | some off=>match F.ev x with
   | .rp ls=>some (.rp (ls.drop off),[])
   | .val (.pointer (some ⟨b,o,none⟩))=>some (.val (.pointer (some ⟨b,o+off,none⟩)),[])
   | _=>none
  | none=>none
 | .field s x f=>match En P s f,CE P s with
  | some off,some fs=>match fs[f]? with
   | some fd=>match F.ev x with
    | .agg ls=>match B3 P fd.type (ls.drop off) with
     | some v=>some (v,[])
     | none=>none
    | _=>none
   | none=>none
  | _,_=>none
 | .load t x=>match F.ev x with
  | .rp ls=>match B3 P t ls with
   | some v=>some (v,[])
   | none=>none
  | .val (.pointer (some ⟨b,o,none⟩))=>match h[hint]? with
   | some (.obj b' ls)=>match B3 P t (ls.drop o) with
    | some v=>some (v,[(b,b')])
    | none=>none
   | _=>none
  | _=>none
 | .extract x i=>match F.ev x with
  | .tup vs=>match vs[i]? with
   | some v=>some (v,[])
   | none=>none
  | _=>none
 | .build t parts=>match CE P t,DQ P t with
  | some fs,some z=>match OV P fs with
   | true=>match AT (EU P fs) z (parts.toList.map fun p=>(p.1,F.ev p.2)) with
    | some ls=>some (.agg ls,[])
    | none=>none
   | false=>none
  | _,_=>none
 | .makeFunc fn first captured=>match JR (first.toList.map F.ev),JR (captured.toList.map F.ev) with
  | some vs,some us=>some (.val (.func fn vs.toArray us.toArray),[])
  | _,_=>none
 | .call c=>match c.callee,c.args.toList,c.argTypes.toList with
  | .builtin .len,[x],[t]=>match P.underlying t with
   | some (.slice _)=>match F.ev x with
    | .sl es _=>some (.val (.int .i64 (es.length:Int)),[])
    | .val (.slice _ len _)=>some (.val (.int .i64 (len:Int)),[])
    | _=>none
   | _=>none
  | _,_,_=>none
 | _=>none
theorem VK {P:Program} {t:TypeId} {d:TypeDesc} (h:P.underlying t=some d) (w:World):(underlying t).run P w=.ok d w:=by
 simp [underlying,h]
theorem Ho {P:Program} {t:TypeId} {i:TypeInfo} (h:P.info? t=some i) (w:World):(typeInfo t).run P w=.ok i w:=by
 simp [typeInfo,h]
theorem K7 {P:Program} {t:TypeId} {i:TypeInfo} (h:P.info? t=some i) (w:World):(sizeOf t).run P w=.ok i.size w:=by
 simp [sizeOf,Ho h]
theorem Lx {P:Program} {t:TypeId} {fs:Array Field} (h:CE P t=some fs):P.underlying t=some (.struct fs):=by
 unfold CE at h
 split at h
 ·simp_all
 ·cases h
theorem F4 {P:Program} {t:TypeId} {b:Bool} (h:Du P t=some b) (w:World):(isAgg t).run P w=.ok b w:=by
 unfold Du at h
 split at h
 ·rename_i h';cases h;simp [isAgg,VK h']
 ·rename_i h';cases h;simp [isAgg,VK h']
 ·rename_i d hd1 hd2 h'
  cases h
  simp [isAgg,VK h']
 ·cases h
theorem OS {P:Program} {s:TypeId} {f off:Nat} (h:En P s f=some off) :
  ∃fs fd i,P.underlying s=some (.struct fs)/\fs[f]? = some fd/\P.info? fd.type=some i/\i.size≠0/\fd.offset=off:=by
 unfold En at h
 cases h1:CE P s with
 | none=>simp [h1] at h
 | some fs=>
  cases h2:fs[f]? with
  | none=>simp [h1,h2] at h
  | some fd=>
   cases h3:P.info? fd.type with
   | none=>simp [h1,h2,h3] at h
   | some i=>
    cases h4:Nat.beq i.size 0 with
    | true=>simp [h1,h2,h3,h4] at h
    | false=>
     simp [h1,h2,h3,h4] at h
     refine ⟨fs,fd,i,Lx h1,h2,h3,fun h0=>?_,h⟩
     rw [h0] at h4
     cases h4
theorem Jn (b o n:Nat):(⟨b,o,none⟩:Addr).add n=⟨b,o+n,none⟩:=by
 unfold Addr.add;split<;>simp_all
theorem Z0e {P:Program} {s:TypeId} {f off b o:Nat} (h:En P s f=some off) (w:World) :
  (Instr.fieldAt s (.pointer (some ⟨b,o,none⟩)) f).run P w=.ok (.pointer (some ⟨b,o+off,none⟩)) w:=by
 obtain ⟨fs,fd,i,h1,h2,h3,h4,rfl⟩:=OS h
 simp [Instr.fieldAt,VK h1,h2,Instr.sureAddr,fieldPlace,K7 h3,h4,Jn]
theorem Hn {P:Program} {t:TypeId} {ls:List AV} {x:AV} {w0:World} {G:Yd} {b o:Nat} {cs:List Value} (hx:B3 P t ls=some x) (hcs:YW w0 G ls cs) :
  ∃v,RV w0 G x v/\∀w',(∀j u,cs[j]? = some u->w'.cell? ⟨b,o+j,none⟩=some u)->(loadVar t ⟨b,o,none⟩).run P w'=.ok v w':=by
 unfold B3 at hx
 cases hb:Du P t with
 | none=>simp [hb] at hx
 | some g=>
  cases hi:P.info? t with
  | none=>cases g<;>simp [hb,hi] at hx
  | some i=>
   cases g with
   | true=>
    simp only [hb,hi] at hx
    cases hle:Nat.ble i.size ls.length with
    | false=>simp [hle] at hx
    | true=>
     simp only [hle,Wo] at hx
     subst hx
     have hlen:i.size<=ls.length:=Vo hle
     refine ⟨_,.agg (hcs.take i.size),fun w' hc=>?_⟩
     have Xv:(cs.take i.size).length=i.size:=by simp [hcs.length,hlen]
     have:=run_loadCells_list (P:=P) (w:=w') ⟨b,o,none⟩ (cs.take i.size) (fun j v hj=>by
      rw [Jn]
      rw [Ql] at hj
      split at hj
      ·exact hc j v hj
      ·cases hj)
     rw [Xv] at this
     simp [loadVar,F4 hb,K7 hi,this]
   | false=>
    simp only [hb,hi] at hx
    cases hcs with
    | nil=>simp at hx
    | cons h1 h2=>
     rename_i c vs xs
     simp at hx
     subst hx
     refine ⟨_,h1,fun w' hc=>?_⟩
     have:=hc 0 c (by simp)
     simp only [CZ] at this
     simp only [loadVar,Sem.run_bind,F4 hb,Result.andThen_ok]
     simp [load,Sem.run,this]
theorem Vm {P:Program} {x:Sem Value} {w w':World} {v:Value} (h:x.run P w=.ok v w') :
  (do pure (Next.value (<-x)):Sem Next).run P w=.ok (.value v) w':=by
 simp [h]
theorem N0 {w:World} {G:Yd} {a:Act} {n:Nat} {F:Fr} (hF:FR w G n F a):∀{xs:List Operand} {vs:List Value},JR (xs.map F.ev)=some vs->xs.map a.eval=vs
 | [],vs,h=>by simp [JR] at h;simp [h]
 | x::xs,vs,h=>by
  simp only [VZ] at h ⊢
  have hx:=hF.ev x
  cases he:F.ev x with
  | val v=>
   simp only [he,JR] at h
   cases h2:JR (xs.map F.ev) with
   | none=>simp [h2] at h
   | some us=>
    simp [h2] at h
    rw [he] at hx
    cases hx
    rw [N0 hF h2,h]
  | any=>simp [he,JR] at h
  | sl es hv=>simp [he,JR] at h
  | agg ls=>simp [he,JR] at h
  | rp ls=>simp [he,JR] at h
  | tup vs=>simp [he,JR] at h
theorem Z84 {P:Program} {op:BinOp} {k:IntKind} {a b:Int} {v:Value} (h:El op k a b=some v) (xt:TypeId) (x y:Operand) (w:World) :
  (do eqGuard op xt x y (.int k a) (.int k b);binOp op xt (.int k a) (.int k b)).run P w=.ok v w:=by
 cases op<;>simp [El] at h<;>subst h<;>simp [eqGuard,binOp,Op.intArith,Op.intCmp]
theorem RV.val_inv {w:World} {G:Yd} {v u:Value} (h:RV w G (.val v) u):u=v:=by cases h;rfl
theorem RV.one_cell {w:World} {G:Yd} {x:AV} {v:Value} (h:RV w G x v) (hx:x.one=true):v.oneCell'=true:=by
 cases h with
 | val=>exact hx
 | nil=>rfl
 | sl=>rfl
 | rp=>rfl
 | any=>simp [AV.one] at hx
 | agg=>simp [AV.one] at hx
 | tup=>simp [AV.one] at hx
theorem Ij {v:Value} (h:v.oneCell'=true):v.cells.toList=[v]:=by
 cases v<;>first|rfl|(simp [Value.oneCell'] at h)
theorem RV.cells {w:World} {G:Yd} {x:AV} {v:Value} (h:RV w G x v) (hx:x.fit=true):YW w G x.leaves v.cells.toList:=by
 cases x with
 | agg ls=>cases h with | agg hh=>simpa [AV.leaves,Value.cells] using hh
 | any=>simp [AV.fit,AV.one] at hx
 | tup vs=>simp [AV.fit,AV.one] at hx
 | val u=>rw [Ij (h.one_cell hx)];exact .cons h .nil
 | sl es hv=>rw [Ij (h.one_cell rfl)];exact .cons h .nil
 | rp ls=>rw [Ij (h.one_cell rfl)];exact .cons h .nil
theorem YW.one_cells {w:World} {G:Yd}:∀{xs:List AV} {vs:List Value},YW w G xs vs->xs.all AV.one=true->∀v∈vs,v.oneCell'=true
 | _,_,.nil,_,v,hv=>by simp at hv
 | _,_,.cons h t,hx,v,hv=>by
  simp only [List.all_cons,W9] at hx
  rcases YH.1 hv with rfl|hv
  ·exact h.one_cell hx.1
  ·exact t.one_cells hx.2 v hv
theorem Z0n (off:Nat):∀(vs:List Value) (i:Nat) (cs:Array Value),off+i+vs.length<=cs.size ->
  ((vs.zipIdx i).foldl (fun (cs:Array Value) (p:Value × Nat)=>cs.setIfInBounds (off+p.2) p.1) cs).toList=cs.toList.take (off+i)++vs++cs.toList.drop (off+i+vs.length)
 | [],i,cs,h=>by simp
 | v::vs,i,cs,h=>by
  simp only [List.zipIdx_cons,List.foldl_cons]
  rw [Z0n off vs (i+1) _ (by simp at h ⊢;omega)]
  have e:=list_seg_step cs.toList (off+i) v vs (by simp at h ⊢;omega)
  simpa [Array.toList_setIfInBounds,Bm] using e
theorem IY {w:World} {G:Yd} {place:Nat->Option (Nat × Nat)}:∀{parts:List (Nat × AV)} {vps:List (Nat × Value)} {ls out:List AV} {cs:Array Value},
  AT place ls parts=some out->parts.map (·.1)=vps.map (·.1)->YW w G (parts.map (·.2)) (vps.map (·.2))->YW w G ls cs.toList ->
  ∃cs',Instr.fill place cs vps=some cs'/\YW w G out cs'.toList
 | [],vps,ls,out,cs,h,h1,h2,h3=>by
  cases vps with
  | nil=>simp [AT] at h;subst h;exact ⟨cs,rfl,h3⟩
  | cons p r=>simp at h1
 | (i,x)::rest,vps,ls,out,cs,h,h1,h2,h3=>by
  cases vps with
  | nil=>simp at h1
  | cons p r=>
   obtain ⟨j,v⟩:=p
   simp only [VZ,List.cons.injEq] at h1 h2
   obtain ⟨rfl,h1⟩:=h1
   cases h2 with
   | cons hx ht=>
    simp only [AT] at h
    cases hp:place i with
    | none=>simp [hp] at h
    | some os=>
     obtain ⟨off,size⟩:=os
     simp only [hp] at h
     cases hc:(x.fit&&(Nat.beq x.leaves.length size&&Nat.ble (off+size) ls.length)) with
     | false=>simp [hc] at h
     | true=>
      simp only [hc] at h
      simp only [W9] at hc
      have e1:x.leaves.length=size:=UX hc.2.1
      have e2:off+size<=ls.length:=Vo hc.2.2
      have hl:=h3.length
      have hxc:=hx.cells hc.1
      have hvl:v.cells.size=size:=by have:=hxc.length;simpa [e1] using this
      have hcl:cs.size=ls.length:=by simpa using hl
      have key:YW w G (ls.take off++x.leaves++ls.drop (off+size))
        (v.cells.zipIdx.foldl (fun (cs:Array Value) (p:Value × Nat)=>cs.setIfInBounds (off+p.2) p.1) cs).toList:=by
       have:=Z0n off v.cells.toList 0 cs (by simp [hvl,hcl];omega)
       rw [<-Array.foldl_toList,Array.toList_zipIdx,this]
       simp only [CZ,Jj,hvl]
       exact ((h3.take off).append hxc).append (h3.drop (off+size))
      obtain ⟨cs',k1,k2⟩:=IY h h1 ht key
      refine ⟨cs',?_,k2⟩
      simp only [Instr.fill,hp]
      rw [Z6 (by simp [hvl,hcl];omega)]
      exact k1
theorem Z31 {P:Program} {t:TypeId} {ls:List AV} (h:DQ P t=some ls) :
  ∃i z,P.info? t=some i/\i.zero=some z/\ls=z.cells.toList.map AV.ofVal:=by
 unfold DQ at h
 cases hi:P.info? t with
 | none=>simp [hi] at h
 | some i=>
  cases hz:i.zero with
  | none=>simp [hi,hz] at h
  | some z=>simp [hi,hz] at h;exact ⟨i,z,rfl,hz,h.symm⟩
theorem YW.ofVals {w:World} {G:Yd}:∀(vs:List Value),YW w G (vs.map AV.ofVal) vs
 | []=>.nil
 | v::vs=>.cons (RV.ofVal v) (YW.ofVals vs)
theorem YW.map {w:World} {G:Yd} {α:Type} (f:α->AV) (g:α->Value):∀(xs:List α),(∀x∈xs,RV w G (f x) (g x))->YW w G (xs.map f) (xs.map g)
 | [],_=>.nil
 | x::xs,h=>.cons (h x (by simp)) (YW.map f g xs fun y hy=>h y (by simp [hy]))
theorem Z0g {P:Program} (w:World):∀(l:List Field),(l.all fun f=>(P.info? f.type).isSome)=true ->
  (List.mapM (m:=Sem) (fun f=>Functor.map (Prod.mk f.offset) (sizeOf f.type)) l).run P w=.ok (l.map fun f=>(f.offset,((P.info? f.type).map (·.size)).getD 0)) w
 | [],_=>by simp
 | f::l,h=>by
  simp only [List.all_cons,W9] at h
  cases hfi:P.info? f.type with
  | none=>simp [hfi] at h
  | some j=>simp [K7 hfi,Z0g w l h.2,hfi]
theorem Zgs {P:Program} {t:TypeId} {fs:Array Field} {z ls:List AV} {w:World} {G:Yd} {n:Nat} {F:Fr} {a:Act} (hF:FR w G n F a) (parts:Array (Nat × Operand))
  (h1:CE P t=some fs) (h2:DQ P t=some z) (h4:OV P fs=true) (h3:AT (EU P fs) z (parts.toList.map fun p=>(p.1,F.ev p.2))=some ls) :
  ∃v,RV w G (.agg ls) v/\∀w',(Instr.build t (parts.map fun (i,x)=>(i,a.eval x))).run P w'=.ok v w':=by
 obtain ⟨i,zv,hi,hz,rfl⟩:=Z31 h2
 have hu:=Lx h1
 have hpl:∀k,((fs.toList.map fun f=>(f.offset,((P.info? f.type).map (·.size)).getD 0)).toArray)[k]? = EU P fs k:=by
  intro k
  unfold EU
  simp only [List.getElem?_toArray,TA,DR]
  cases hk:fs[k]? with
  | none=>rfl
  | some f=>
   have hf:(P.info? f.type).isSome=true:=by
    have:=A9.1 h4 f (by rw [Array.mem_toList_iff];exact Array.mem_of_getElem? hk)
    exact this
   cases hfi:P.info? f.type with
   | none=>simp [hfi] at hf
   | some j=>simp [hfi]
 obtain ⟨cs',k1,k2⟩:=IY (w:=w) (G:=G) (vps:=parts.toList.map fun p=>(p.1,a.eval p.2)) h3 (by simp [List.map_map,Function.comp_def])
  (by simpa [List.map_map,Function.comp_def] using YW.map (fun p:Nat × Operand=>F.ev p.2) (fun p=>a.eval p.2) parts.toList fun p _=>hF.ev p.2)
  (cs:=zv.cells) (YW.ofVals _)
 refine ⟨_,.agg (cs:=cs'.toList) k2,fun w'=>?_⟩
 have hz':(zeroValue t).run P w'=.ok zv w':=by simp [zeroValue,Ho hi,hz]
 have hm:=Z0g (P:=P) w' fs.toList h4
 have hfun:(fun k=>((fs.toList.map fun f=>(f.offset,((P.info? f.type).map (·.size)).getD 0)).toArray)[k]?)=EU P fs:=funext hpl
 simp only [Instr.build,Sem.run_bind,hz',Result.andThen_ok,VK hu,Array.mapM_eq_mapM_toList]
 simp [hm,hpl,k1,Array.toList_map]
theorem Dj {P:Program} {o:Oper} {F:Fr} {h:List Res} {hint:Nat} {x:AV} {eqs:List (Nat × Nat)} (he:QN P o F h hint=some (x,eqs))
  (heq:∀p∈eqs,p.1=p.2):XB P o F h (eqs.map (·.1)) x:=by
 intro n w G a hF hh
 obtain ⟨dst,op,type,pos,after,guard⟩:=o
 cases op<;>simp only [QN] at he
 case move y=>
  cases he
  exact ⟨_,hF.ev y,fun w' _ _=>by simp [execOp]⟩
 case assign y=>
  cases he
  exact ⟨_,hF.ev y,fun w' _ _=>by simp [execOp]⟩
 case pick c y z=>
  have hc:=hF.ev c
  split at he
  ·rename_i hb
   cases he
   rw [hb] at hc
   have hc:=hc.val_inv
   exact ⟨_,hF.ev y,fun w' _ _=>by simp [execOp,hc,asBool]⟩
  ·rename_i hb
   cases he
   rw [hb] at hc
   have hc:=hc.val_inv
   exact ⟨_,hF.ev z,fun w' _ _=>by simp [execOp,hc,asBool]⟩
  ·cases he
 case binOp bop xt y z yt=>
  have hy:=hF.ev y
  have hz:=hF.ev z
  split at he
  ·rename_i k p k' q h1 h2
   rw [h1] at hy
   rw [h2] at hz
   have hy:=hy.val_inv
   have hz:=hz.val_inv
   split at he
   ·rename_i hk
    have hk:=Zh0 hk
    subst hk
    split at he
    ·rename_i v hv
     cases he
     refine ⟨v,.val,fun w' _ _=>?_⟩
     have:=Z84 (P:=P) hv xt y z w'
     simp only [execOp,hy,hz]
     exact Vm this
    ·cases he
   ·cases he
  ·cases he
 case unOp uop xt y=>
  have hy:=hF.ev y
  split at he
  ·rename_i b hb
   cases he
   rw [hb] at hy
   have hy:=hy.val_inv
   exact ⟨_,.val,fun w' _ _=>by simp [execOp,hy,Op.unary]⟩
  ·cases he
 case nilCheck y=>
  have hy:=hF.ev y
  generalize hv:a.eval y=u at hy
  split at he
  ·rename_i ad hb
   cases he
   rw [hb] at hy
   have hy:=hy.val_inv
   exact ⟨_,.val,fun w' _ _=>by simp [execOp,hv,hy]⟩
  ·rename_i ls hb
   cases he
   rw [hb] at hy
   cases hy with
   | rp hm=>exact ⟨_,.rp hm,fun w' _ _=>by simp [execOp,hv]⟩
  ·rename_i f p c hb
   cases he
   rw [hb] at hy
   have hy:=hy.val_inv
   exact ⟨_,.val,fun w' _ _=>by simp [execOp,hv,hy]⟩
  ·cases he
 case fieldAddr s y f=>
  have hy:=hF.ev y
  generalize hv:a.eval y=u at hy
  split at he
  ·rename_i off hoff
   split at he
   ·rename_i ls hb
    cases he
    rw [hb] at hy
    cases hy with
    | rp hm=>
     refine ⟨_,.rp (hm.drop off),fun w' _ _=>?_⟩
     simp only [execOp,hv]
     exact Vm (Z0e hoff w')
   ·rename_i b o' hb
    cases he
    rw [hb] at hy
    have hy:=hy.val_inv
    subst hy
    refine ⟨_,.val,fun w' _ _=>?_⟩
    simp only [execOp,hv]
    exact Vm (Z0e hoff w')
   ·cases he
  ·cases he
 case field s y f=>
  have hy:=hF.ev y
  generalize hv:a.eval y=u at hy
  split at he
  ·rename_i off fs hoff hfs
   split at he
   ·rename_i fd hfd
    split at he
    ·rename_i ls hb
     split at he
     ·rename_i v hl
      cases he
      rw [hb] at hy
      cases hy with
      | agg hc=>
       rename_i cs
       obtain ⟨fs',fd',i,k1,k2,k3,k4,rfl⟩:=OS hoff
       have k0:=Lx hfs
       rw [k0] at k1
       cases k1
       rw [hfd] at k2
       cases k2
       have hd:=hc.drop fd.offset
       unfold B3 at hl
       cases hg:Du P fd.type with
       | none=>simp [hg] at hl
       | some g=>
        cases g with
        | true=>
         simp only [hg,k3] at hl
         cases hle:Nat.ble i.size (ls.drop fd.offset).length with
         | false=>rw [hle] at hl;cases hl
         | true=>
          rw [hle] at hl
          simp only [Wo] at hl
          subst hl
          refine ⟨_,.agg (hd.take i.size),fun w' _ _=>?_⟩
          simp only [execOp,hv]
          refine Vm ?_
          simp only [Instr.field,Sem.run_bind,VK k0,Result.andThen_ok,hfd]
          simp [asAgg,part,F4 hg,K7 k3]
        | false=>
         simp only [hg,k3] at hl
         generalize hls:ls.drop fd.offset=ls' at hl hd
         generalize hcs:cs.drop fd.offset=cs' at hd
         cases hd with
         | nil=>simp at hl
         | cons h1 h2=>
          rename_i c vs xs
          simp at hl
          subst hl
          refine ⟨_,h1,fun w' _ _=>?_⟩
          simp only [execOp,hv]
          refine Vm ?_
          have hget:cs[fd.offset]? = some c:=by
           have:=Yu (fun l=>l[0]?) hcs
           simpa using this
          simp only [Instr.field,Sem.run_bind,VK k0,Result.andThen_ok,hfd]
          simp [asAgg,part,F4 hg,hget]
     ·cases he
    ·cases he
   ·cases he
  ·cases he
 case load t y=>
  have hy:=hF.ev y
  generalize hv:a.eval y=u at hy
  split at he
  ·rename_i ls hb
   split at he
   ·rename_i v hl
    cases he
    rw [hb] at hy
    cases hy with
    | rp hm=>
     rename_i b o'
     obtain ⟨cs,Za,Zg⟩:=hm.cells
     obtain ⟨v',h1,h2⟩:=Hn (b:=b) (o:=o') hl Za
     refine ⟨v',h1,fun w' hw _=>?_⟩
     simp only [execOp,hv]
     refine Vm ?_
     simp only [Instr.loadAt,Instr.sureAddr,Sem.run_bind,Sem.run_pure,Result.andThen_ok]
     exact h2 w' fun j u hj=>(hw _ _ (Zg j u hj).2).trans (Zg j u hj).1
   ·cases he
  ·rename_i b o' hb
   split at he
   ·rename_i b' ls hh'
    split at he
    ·rename_i v hl
     cases he
     rw [hb] at hy
     have hy:=hy.val_inv
     subst hy
     have hbb:b=b':=heq (b,b') (by simp)
     subst hbb
     obtain ⟨cs,e,k1,k2⟩:=hh.ok _ (Y4 hh')
     obtain ⟨v',h1,h2⟩:=Hn (b:=b) (o:=o') hl (k2.drop o')
     refine ⟨v',h1,fun w' _ hw=>?_⟩
     simp only [execOp,hv]
     refine Vm ?_
     simp only [Instr.loadAt,Instr.sureAddr,Sem.run_bind,Sem.run_pure,Result.andThen_ok]
     refine h2 w' fun j u hj=>?_
     have:=hw b (by simp)
     rw [k1] at this
     rw [cell_of_row w' b (o'+j) cs e (0,0) this]
     simpa using hj
    ·cases he
   ·cases he
  ·cases he
 case extract y i=>
  have hy:=hF.ev y
  generalize hv:a.eval y=u at hy
  split at he
  ·rename_i vs hb
   split at he
   ·rename_i v hl
    cases he
    rw [hb] at hy
    cases hy with
    | tup hc=>
     rename_i cs
     obtain ⟨c,h1,h2⟩:=hc.get i _ hl
     exact ⟨c,h2,fun w' _ _=>by simp [execOp,hv,Instr.extract,h1]⟩
   ·cases he
  ·cases he
 case build t parts=>
  split at he
  ·rename_i fs z h1 h2
   split at he
   ·rename_i h4
    split at he
    ·rename_i ls h3
     cases he
     obtain ⟨v,hv1,hv2⟩:=Zgs hF parts h1 h2 h4 h3
     exact ⟨v,hv1,fun w' _ _=>by simp only [execOp];exact Vm (hv2 w')⟩
    ·cases he
   ·cases he
  ·cases he
 case makeFunc fn first captured=>
  split at he
  ·rename_i vs us h1 h2
   cases he
   have e1:=N0 hF h1
   have e2:=N0 hF h2
   refine ⟨_,.val,fun w' _ _=>?_⟩
   have e1':first.map a.eval=vs.toArray:=by rw [<-e1,<-Array.toList_map,Ut]
   have e2':captured.map a.eval=us.toArray:=by rw [<-e2,<-Array.toList_map,Ut]
   simp only [execOp]
   exact Vm (by simp only [Instr.makeFunc,e1',e2'];simp)
  ·cases he
 case call c=>
  obtain ⟨callee,args,argTypes⟩:=c
  simp only at he
  split at he
  ·rename_i y t hargs htys
   split at he
   ·rename_i el hu
    have hy:=hF.ev y
    generalize hv:a.eval y=u at hy
    have ha:args=#[y]:=by rw [<-Ut (xs:=args),hargs]
    have ht:argTypes=#[t]:=by rw [<-Ut (xs:=argTypes),htys]
    subst ha;subst ht
    split at he
    ·rename_i es hv' hb
     cases he
     rw [hb] at hy
     refine ⟨.int .i64 es.length,.val,fun w' _ _=>?_⟩
     cases hy with
     | nil hx=>simp [execOp,resolve,invoke,builtin,hv,Builtin.len_,VK hu,goInt]
     | sl hx hc hm=>simp [execOp,resolve,invoke,builtin,hv,Builtin.len_,VK hu,goInt]
    ·rename_i ad len cap hb
     cases he
     rw [hb] at hy
     have hy:=hy.val_inv
     subst hy
     exact ⟨.int .i64 len,.val,fun w' _ _=>by simp [execOp,resolve,invoke,builtin,hv,Builtin.len_,VK hu,goInt]⟩
    ·cases he
   ·cases he
  ·cases he
 all_goals (cases he)
def Bo (h:List Res) (b:Nat):Prop:=∀s,Res.ge s∈h->s<=b
theorem Li {w:World} {G:Yd} {h:List Res} (hh:Yx w G h):Bo h w.heap.size:=fun _ hs=>hh.ok _ hs
theorem Dq (w:World) (o:Obj):(w.alloc o).heap[w.heap.size]? = some o:=heap_alloc_new w o
theorem Au (w:World) (o:Obj) {b:Nat} (hb:b<w.heap.size):(w.alloc o).heap[b]? = w.heap[b]?:=heap_alloc_old w o b hb
theorem E8 (w:World) (o:Obj) {b j:Nat} (hb:b<w.heap.size):(w.alloc o).cell? ⟨b,j,none⟩=w.cell? ⟨b,j,none⟩:=by
 simp [World.cell?,Au w o hb]
theorem Yx.alloc {w:World} {G:Yd} {h:List Res} (hh:Yx w G h) (o:Obj) {G':Yd} {h':List Res}
  (hsub:∀b o,G b o->G' b o) (hG:∀b o,G' b o->G b o∨b=w.heap.size) (hnew:∀r∈h',QH (w.alloc o) G' r)
  (hfp:∀r∈h',∀b o,r.fp b o->b=w.heap.size) (hap:h'.Pairwise AF) (hpr:∀r∈h',∀b o,r.fp b o->G' b o->False) :
  Yx (w.alloc o) G' (h'++h)/\YZ w G h (w.alloc o) G' (h'++h):=by
 have hA:Ud G w (w.alloc o) G':=⟨fun b j hg=>E8 w o (hh.lt b j hg),hsub⟩
 have Xv:(w.alloc o).heap.size=w.heap.size+1:=by simp
 refine ⟨⟨?_,?_,?_,?_⟩,⟨rfl,rfl,rfl,by omega,hsub,fun b hb=>.inl (Au w o hb),?_,?_⟩⟩
 ·intro r hr
  rcases Xg.1 hr with hr|hr
  ·exact hnew r hr
  ·have h0:=hh.ok r hr
   cases r with
   | obj b ls=>
    obtain ⟨cs,el,h1,h2⟩:=h0
    exact ⟨cs,el,(Au w o (Tf.1 h1).1).trans h1,h2.mono hA⟩
   | tail v k=>
    rcases h0 with rfl|⟨g,len,cap,cur,el,rfl,h1,h2,h3⟩
    ·exact .inl rfl
    ·exact .inr ⟨g,len,cap,cur,el,rfl,(Au w o (Tf.1 h1).1).trans h1,h2,h3⟩
   | ge s=>exact VL h0 om
   | vec v ls=>
    rcases h0 with ⟨rfl,h0⟩|⟨g,cap,cur,el,rfl,h1,h2,h3,h4⟩
    ·exact .inl ⟨rfl,h0⟩
    ·exact .inr ⟨g,cap,cur,el,rfl,(Au w o (Tf.1 h1).1).trans h1,h2,h3,h4.mono hA⟩
   | many ts=>
    refine ⟨fun p hp=>?_,h0.2⟩
    rcases h0.1 p hp with q|⟨g,len,cap,cur,el,q,h1,h2,h3⟩
    ·exact .inl q
    ·exact .inr ⟨g,len,cap,cur,el,q,(Au w o (Tf.1 h1).1).trans h1,h2,h3⟩
   | own B m=>
    intro b hB
    obtain ⟨cs,el,h1,h2⟩:=h0 b hB
    exact ⟨cs,el,(Au w o (Tf.1 h1).1).trans h1,h2⟩
   | row v k ls=>
    rcases h0 with ⟨rfl,h0⟩|⟨g,len,cap,cur,el,rfl,h1,h2,h3,h4,h5⟩
    ·exact .inl ⟨rfl,h0⟩
    ·exact .inr ⟨g,len,cap,cur,el,rfl,(Au w o (Tf.1 h1).1).trans h1,h2,h3,h4,h5.mono hA⟩
 ·refine Ab.2 ⟨hap,hh.apart,fun r hr r' hr' b j hf hf'=>?_⟩
  have e:=hfp r hr b j hf
  have:=(hh.ok r' hr').lt b j hf'
  omega
 ·intro r hr b j hf hg
  rcases Xg.1 hr with hr|hr
  ·exact hpr r hr b j hf hg
  ·rcases hG b j hg with h1|h1
   ·exact hh.prot r hr b j hf h1
   ·have:=(hh.ok r hr).lt b j hf
    omega
 ·intro b j hg
  rcases hG b j hg with h1|h1
  ·have:=hh.lt b j h1;omega
  ·omega
 ·intro b j hb hg
  rcases hG b j hg with h1|h1
  ·exact .inl h1
  ·omega
 ·intro b j hb hf
  rcases Ap.1 hf with ⟨r,hr,h1⟩|h1
  ·have:=hfp r hr b j h1;omega
  ·exact h1
theorem Yx.alloc_obj {w:World} {G:Yd} {h:List Res} (hh:Yx w G h) (cs:Array Value) (t:TypeId) {ls:List AV} (hls:YW w G ls cs.toList) :
  Yx (w.alloc (.cells cs t)) G (.obj w.heap.size ls::h)/\YZ w G h (w.alloc (.cells cs t)) G (.obj w.heap.size ls::h):=by
 have hA:Ud G w (w.alloc (.cells cs t)) G:=⟨fun b j hg=>E8 w _ (hh.lt b j hg),fun _ _ h=>h⟩
 refine hh.alloc (.cells cs t) (h':=[.obj w.heap.size ls]) (fun _ _ h=>h) (fun _ _ h=>.inl h) ?_ ?_ (C6 _ _) ?_
 ·intro r hr
  rw [XH.1 hr]
  exact ⟨cs,t,Dq w _,hls.mono hA⟩
 ·intro r hr b j hf
  rw [XH.1 hr] at hf
  exact hf
 ·intro r hr b j hf hg
  rw [XH.1 hr] at hf
  have:=hh.lt b j hg
  have:b=w.heap.size:=hf
  omega
section
variable {P:Program} {n:Nat} {o:Oper} {F:Fr} {h:List Res} {K:Fr->List Res->Prop}
theorem Zem (t:TypeId) {ls:List AV} (ho:o.op=.alloc t) (hz:DQ P t=some ls) (hd:VO n o=true)
  (hK:∀b,Bo h b->K (F.put o.dst (.val (.pointer (some ⟨b,0,none⟩)))) (.obj b ls::h)):WO P n o F h K:=by
 intro Q w G a hF hh
 obtain ⟨i,z,hi,hzz,rfl⟩:=Z31 hz
 have hr:(execOp a.eval o).run P w=.ok (.value (.pointer (some ⟨w.heap.size,0,none⟩))) (w.alloc (.cells z.cells t)):=by
  simp only [execOp,ho]
  simp [Instr.alloc,zeroValue,Ho hi,hzz,newVar,newRow]
 unfold Oper.wp
 rw [hr]
 have hls:YW w G (z.cells.toList.map AV.ofVal) z.cells.toList:=YW.ofVals _
 obtain ⟨h1,h2⟩:=hh.alloc_obj z.cells t hls
 exact ⟨_,_,G,hK _ (Li hh),(hF.mono (h2.agree hh)).put (Tm hd) .val,h1,h2⟩
theorem Zep (t:TypeId) (x:Operand) {X:AV} (ho:o.op=.box t x) (hx:F.ev x=X) (hfit:X.fit=true) (hd:VO n o=true)
  (hK:∀b,Bo h b->K (F.put o.dst (.val (.pointer (some ⟨b,0,none⟩)))) (.obj b X.leaves::h)):WO P n o F h K:=by
 intro Q w G a hF hh
 have hv:=hF.ev x
 rw [hx] at hv
 have hr:(execOp a.eval o).run P w=.ok (.value (.pointer (some ⟨w.heap.size,0,none⟩))) (w.alloc (.cells (a.eval x).cells t)):=by
  simp only [execOp,ho]
  simp [Instr.box,newVar,newRow]
 unfold Oper.wp
 rw [hr]
 obtain ⟨h1,h2⟩:=hh.alloc_obj (a.eval x).cells t (hv.cells hfit)
 exact ⟨_,_,G,hK _ (Li hh),(hF.mono (h2.agree hh)).put (Tm hd) .val,h1,h2⟩
end
theorem U8 (w:World) (g b:Nat) (cs:Array Value) (hb:b≠g):(w.setRow g cs).heap[b]? = w.heap[b]?:=setRow_other w g b cs hb
theorem Yx.write {w:World} {G:Yd} {h1 h2:List Res} {b:Nat} {ls ls':List AV} (hh:Yx w G (h1++.obj b ls::h2)) {cs cs':Array Value} {e:TypeId}
  (hb:w.heap[b]? = some (.cells cs e (0,0))) (Xv:cs'.size=cs.size) (hls:YW w G ls' cs'.toList) :
  Yx (w.setRow b cs') G (h1++.obj b ls'::h2)/\YZ w G (h1++.obj b ls::h2) (w.setRow b cs') G (h1++.obj b ls'::h2):=by
 have hmem:Res.obj b ls∈h1++.obj b ls::h2:=by simp
 have hA:Ud G w (w.setRow b cs') G:=⟨fun c j hg=>by
  have hne:c≠b:=fun he=>hh.prot _ hmem c j he hg
  simp [World.cell?,U8 w b c cs' hne],fun _ _ h=>h⟩
 have hfpe:∀c j,Vh (h1++.obj b ls'::h2) c j↔Vh (h1++.obj b ls::h2) c j:=by
  intro c j
  simp only [Vh,Xg,YH]
  constructor
  ·rintro ⟨r,hr|rfl|hr,hf⟩
   ·exact ⟨r,.inl hr,hf⟩
   ·exact ⟨_,.inr (.inl rfl),hf⟩
   ·exact ⟨r,.inr (.inr hr),hf⟩
  ·rintro ⟨r,hr|rfl|hr,hf⟩
   ·exact ⟨r,.inl hr,hf⟩
   ·exact ⟨_,.inr (.inl rfl),hf⟩
   ·exact ⟨r,.inr (.inr hr),hf⟩
 have hpw:=Ab.1 hh.apart
 have hpw2:=Vn.1 hpw.2.1
 have hother:∀r,(r∈h1∨r∈h2)->∀c j,r.fp c j->c≠b:=by
  intro r hr c j hf hc
  subst hc
  rcases hr with hr|hr
  ·exact hpw.2.2 r hr (.obj c ls) (by simp) c j hf rfl
  ·exact hpw2.1 r hr c j rfl hf
 have hkeep:∀r,(r∈h1∨r∈h2)->QH w G r->QH (w.setRow b cs') G r:=by
  intro r hr h0
  cases r with
  | obj c ks=>
   obtain ⟨ds,el,k1,k2⟩:=h0
   have hne:c≠b:=hother _ hr c 0 rfl
   exact ⟨ds,el,(U8 w b c cs' hne).trans k1,k2.mono hA⟩
  | tail v k=>
   rcases h0 with rfl|⟨g,len,cap,cur,el,rfl,k1,k2,k3⟩
   ·exact .inl rfl
   ·have hne:g≠b:=hother _ hr g (len*k) ⟨rfl,X6 _⟩
    exact .inr ⟨g,len,cap,cur,el,rfl,(U8 w b g cs' hne).trans k1,k2,k3⟩
  | ge s=>exact VL h0 (by simp [World.setRow])
  | vec v ks=>
   rcases h0 with ⟨rfl,h0⟩|⟨g,cap,cur,el,rfl,k1,k2,k3,k4⟩
   ·exact .inl ⟨rfl,h0⟩
   ·have hne:g≠b:=hother _ hr g 0 rfl
    exact .inr ⟨g,cap,cur,el,rfl,(U8 w b g cs' hne).trans k1,k2,k3,k4.mono hA⟩
  | many ts=>
   refine ⟨fun p hp=>?_,h0.2⟩
   rcases h0.1 p hp with q|⟨g,len,cap,cur,el,q,k1,k2,k3⟩
   ·exact .inl q
   ·have hne:g≠b:=hother _ hr g (len*p.2) ⟨p,hp,by rw [q];exact ⟨rfl,X6 _⟩⟩
    exact .inr ⟨g,len,cap,cur,el,q,(U8 w b g cs' hne).trans k1,k2,k3⟩
  | own B m=>
   intro c hc
   obtain ⟨ds,el,k1,k2⟩:=h0 c hc
   have hne:c≠b:=hother _ hr c 0 hc
   exact ⟨ds,el,(U8 w b c cs' hne).trans k1,k2⟩
  | row v k ks=>
   rcases h0 with ⟨rfl,h0⟩|⟨g,len,cap,cur,el,rfl,k1,k2,k3,k4,k5⟩
   ·exact .inl ⟨rfl,h0⟩
   ·have hne:g≠b:=hother _ hr g 0 rfl
    exact .inr ⟨g,len,cap,cur,el,rfl,(U8 w b g cs' hne).trans k1,k2,k3,k4,k5.mono hA⟩
 refine ⟨⟨?_,?_,?_,?_⟩,⟨rfl,rfl,rfl,by simp [World.setRow],fun _ _ h=>h,?_,fun _ _ _ h=>.inl h,fun c j _ hf=>(hfpe c j).1 hf⟩⟩
 ·intro r hr
  rcases Xg.1 hr with hr|hr
  ·exact hkeep r (.inl hr) (hh.ok r (by simp [hr]))
  ·rcases YH.1 hr with rfl|hr
   ·exact ⟨cs',e,setRow_heap w b cs cs' e (0,0) hb,hls.mono hA⟩
   ·exact hkeep r (.inr hr) (hh.ok r (by simp [hr]))
 ·refine Ab.2 ⟨hpw.1,Vn.2 ⟨hpw2.1,hpw2.2⟩,fun r hr r' hr'=>?_⟩
  rcases YH.1 hr' with rfl|hr'
  ·exact hpw.2.2 r hr (.obj b ls) (by simp)
  ·exact hpw.2.2 r hr r' (by simp [hr'])
 ·intro r hr c j hf hg
  rcases Xg.1 hr with hr|hr
  ·exact hh.prot r (by simp [hr]) c j hf hg
  ·rcases YH.1 hr with rfl|hr
   ·exact hh.prot _ hmem c j hf hg
   ·exact hh.prot r (by simp [hr]) c j hf hg
 ·intro c j hg
  have:=hh.lt c j hg
  simpa [World.setRow] using this
 ·intro c hc
  by_cases hcb:c=b
  ·subst hcb
   exact .inr ⟨cs,cs',e,(0,0),hb,setRow_heap w c cs cs' e (0,0) hb,Xv,fun j hj=>absurd ⟨_,hmem,rfl⟩ hj⟩
  ·exact .inl (U8 w b c cs' hcb)
section
variable {P:Program} {n:Nat} {o:Oper} {F:Fr} {h1 h2:List Res} {K:Fr->List Res->Prop}
theorem Zey (t:TypeId) (x y:Operand) {b off:Nat} {ls:List AV} {X:AV} (ho:o.op=.store t x y) (hdst:o.dst=none)
  (hx:F.ev x=.val (.pointer (some ⟨b,off,none⟩))) (hy:F.ev y=X) (hX:(X.fit&&X.leaves.all AV.one)=true)
  (Xv:(P.info? t).map (·.size)=some X.leaves.length) (hle:Nat.ble (off+X.leaves.length) ls.length=true)
  (hK:K F (h1++.obj b (ls.take off++X.leaves++ls.drop (off+X.leaves.length))::h2)):WO P n o F (h1++.obj b ls::h2) K:=by
 intro Q w G a hF hh
 have hvx:=hF.ev x
 rw [hx] at hvx
 have hvx:=hvx.val_inv
 have hvy:=hF.ev y
 rw [hy] at hvy
 simp only [W9] at hX
 have hcs:=hvy.cells hX.1
 have hone:=hcs.one_cells hX.2
 have hlen:=hcs.length
 obtain ⟨cs,e,k1,k2⟩:=hh.ok (.obj b ls) (by simp)
 have hle:=Vo hle
 have hcl:=k2.length
 simp only [Jj] at hlen hcl
 cases hi:P.info? t with
 | none=>simp [hi] at Xv
 | some i=>
  have Xv:i.size=X.leaves.length:=by simpa [hi] using Xv
  have hst:=run_storeCells_at P b off e (a.eval y).cells.toList 0 cs w k1 (by simp [hlen,hcl];omega) hone
  simp only [CZ,Jj] at hst
  have hr:(execOp a.eval o).run P w=.ok .skip (w.setRow b (cs.toList.take off++(a.eval y).cells.toList++cs.toList.drop (off+(a.eval y).cells.size)).toArray):=by
   simp only [execOp,ho,hvx]
   simp [Instr.storeAt,Instr.sureAddr,storeVar,K7 hi,hlen,Xv,hst]
  unfold Oper.wp
  rw [hr]
  obtain ⟨j1,j2⟩:=hh.write (ls':=ls.take off++X.leaves++ls.drop (off+X.leaves.length)) (cs':=(cs.toList.take off++(a.eval y).cells.toList++cs.toList.drop (off+(a.eval y).cells.size)).toArray)
   k1 (by simp [hlen,hcl];omega) (by rw [DU,hlen];exact ((k2.take off).append hcs).append (k2.drop _))
  refine ⟨F,_,G,hK,?_,j1,j2⟩
  have:=hF.mono (j2.agree hh)
  simpa [Act.put,hdst] using this
end
theorem Z8o {h h':List Res} (s:∀r∈h',r∈h) {b o:Nat} (hf:Vh h' b o):Vh h b o:=
 let ⟨r,hr,h⟩:=hf;⟨r,s r hr,h⟩
theorem Yx.sub {w:World} {G:Yd} {h h':List Res} (hh:Yx w G h) (s:h'.Sublist h):Yx w G h':=
 ⟨fun r hr=>hh.ok r (s.subset hr),hh.apart.sublist s,fun r hr=>hh.prot r (s.subset hr),hh.lt⟩
theorem YZ.sub' {w w':World} {G G':Yd} {h h' h'':List Res} (e:YZ w G h w' G' h') (s:h''.Sublist h'):YZ w G h w' G' h'':=
 ⟨e.os,e.tape,e.output,e.size,e.sub,e.same,e.newG,fun b o hb hf=>e.newfp b o hb (Z8o (fun _ hr=>s.subset hr) hf)⟩
theorem Bu (w:World) (G:Yd):Ud G w w.drew G:=⟨fun _ _ _=>rfl,fun _ _ h=>h⟩
theorem Yx.drew {w:World} {G:Yd} {h:List Res} (hh:Yx w G h):Yx w.drew G h where
 ok:=fun r hr=>by
  have h0:=hh.ok r hr
  cases r with
  | obj b ls=>obtain ⟨cs,e,h1,h2⟩:=h0;exact ⟨cs,e,h1,h2.mono (Bu w G)⟩
  | tail v k=>exact h0
  | ge s=>exact h0
  | vec v ls=>
   rcases h0 with ⟨rfl,h0⟩|⟨g,cap,cur,el,rfl,h1,h2,h3,h4⟩
   ·exact .inl ⟨rfl,h0⟩
   ·exact .inr ⟨g,cap,cur,el,rfl,h1,h2,h3,h4.mono (Bu w G)⟩
  | many ts=>exact h0
  | own B m=>exact h0
  | row v k ls=>
   rcases h0 with ⟨rfl,h0⟩|⟨g,len,cap,cur,el,rfl,h1,h2,h3,h4,h5⟩
   ·exact .inl ⟨rfl,h0⟩
   ·exact .inr ⟨g,len,cap,cur,el,rfl,h1,h2,h3,h4,h5.mono (Bu w G)⟩
 apart:=hh.apart
 prot:=hh.prot
 lt:=hh.lt
theorem YZ.drew (w:World) (G:Yd) (h:List Res):YZ w G h w.drew G h:=
 ⟨rfl,rfl,rfl,X6 _,fun _ _ h=>h,fun _ _=>.inl rfl,fun _ _ _ h=>.inl h,fun _ _ _ h=>h⟩
theorem Yx.alloc_row {w:World} {G:Yd} {h:List Res} (hh:Yx w G h) (cs:Array Value) (t:TypeId) {es:List AV} {k cap:Nat}
  (hk:∀x∈es,x.leaves.length=k) (hcap:es.length<=cap) (Xv:cs.size=cap*k) (hls:YW w G (Zh es) (cs.toList.take (es.length*k))) :
  ∃G',Yx (w.alloc (.cells cs t)) G' (.tail (.slice (some ⟨w.heap.size,0,none⟩) es.length cap) k::h) /\
   YZ w G h (w.alloc (.cells cs t)) G' (.tail (.slice (some ⟨w.heap.size,0,none⟩) es.length cap) k::h) /\
   RV (w.alloc (.cells cs t)) G' (.sl es (some (.slice (some ⟨w.heap.size,0,none⟩) es.length cap))) (.slice (some ⟨w.heap.size,0,none⟩) es.length cap):=by
 let G':Yd:=fun b o=>G b o∨(b=w.heap.size/\o<es.length*k)
 have hA:Ud G w (w.alloc (.cells cs t)) G':=⟨fun b j hg=>E8 w _ (hh.lt b j hg),fun _ _ h=>.inl h⟩
 have hrow:(w.alloc (.cells cs t)).heap[w.heap.size]? = some (.cells cs t (0,0)):=Dq w _
 obtain ⟨h1,h2⟩:=hh.alloc (.cells cs t) (G':=G') (h':=[.tail (.slice (some ⟨w.heap.size,0,none⟩) es.length cap) k]) (fun _ _ h=>.inl h)
  (fun _ _ h=>h.imp id (·.1))
  (fun r hr=>by rw [XH.1 hr];exact .inr ⟨_,_,_,cs,t,rfl,hrow,hcap,Xv⟩)
  (fun r hr b j hf=>by rw [XH.1 hr] at hf;exact hf.1)
  (C6 _ _)
  (fun r hr b j hf hg=>by
   rw [XH.1 hr] at hf
   obtain ⟨rfl,hf2⟩:=hf
   rcases hg with hg|hg
   ·exact Nat.lt_irrefl _ (hh.lt _ _ hg)
   ·exact absurd hg.2 om)
 refine ⟨G',h1,h2,.sl (fun x hx=>by cases hx;rfl) hcap (Vf.of_flat es hk (WE.of_cells (hls.mono hA) fun j v hj=>?_))⟩
 have hj2:=hj
 rw [Ql] at hj2
 split at hj2
 ·rename_i hlt
  refine ⟨?_,.inr ⟨rfl,by omega⟩⟩
  rw [Vy,cell_of_row _ _ j cs t (0,0) hrow]
  simpa using hj2
 ·cases hj2
theorem SU {w:World} {G:Yd}:∀(vs:List Value),YW w G (List.replicate vs.length AV.any) vs
 | []=>.nil
 | v::vs=>by simp only [X5,N7];exact .cons .any (SU vs)
def AJ (es:List AV) (k:Nat):Bool:=es.all fun x=>Nat.beq x.leaves.length k
theorem Z3n {es:List AV} {k:Nat} (h:AJ es k=true):∀x∈es,x.leaves.length=k:=fun x hx=>
 UX (A9.1 h x hx)
section
variable {P:Program} {n:Nat} {o:Oper} {F:Fr} {h:List Res} {K:Fr->List Res->Prop}
theorem Hm {w:World} {G:Yd} {a:Act} (hF:FR w G n F a) {t len:Nat} (parts:Array (Nat × Operand)) {e size:Nat} {i:TypeInfo} {ls:List AV}
  (ht:P.underlying t=some (.slice e)) (hi:P.info? e=some i) (hs:i.size=size) (hz:i.zero.isSome=true) (hle:Nat.ble (len*size) (2 ^ 24)=true)
  (hfill:AT (fun i=>some (i*size,size)) (List.replicate (len*size) .any) (parts.toList.map fun p=>(p.1,F.ev p.2))=some ls) :
  ∃cs:Array Value,YW w G ls cs.toList /\
   (Instr.buildSlice t len (parts.map fun (i,x)=>(i,a.eval x))).run P w=.ok (.slice (some ⟨w.heap.size,0,none⟩) len len) (w.alloc (.cells cs e)):=by
 subst hs
 have hle:=Vo hle
 cases hzz:i.zero with
 | none=>simp [hzz] at hz
 | some z=>
  let zero:Array Value:=if len*i.size=0 then #[] else z.cells
  have hzlen:((Array.range (len*i.size)).map (zero[· % zero.size]!)).toList.length=len*i.size:=by simp
  obtain ⟨cs',k1,k2⟩:=IY (w:=w) (G:=G) (vps:=parts.toList.map fun p=>(p.1,a.eval p.2)) hfill (by simp [List.map_map,Function.comp_def])
   (by simpa [List.map_map,Function.comp_def] using YW.map (fun p:Nat × Operand=>F.ev p.2) (fun p=>a.eval p.2) parts.toList fun p _=>hF.ev p.2)
   (cs:=(Array.range (len*i.size)).map (zero[· % zero.size]!)) (by have:=SU (w:=w) (G:=G) ((Array.range (len*i.size)).map (zero[· % zero.size]!)).toList;rwa [hzlen] at this)
  refine ⟨cs',k2,?_⟩
  have hnot:¬(len*i.size>2 ^ 24):=by omega
  have hzv:(zeroValue e).run P w=.ok z w:=by simp [zeroValue,Ho hi,hzz]
  have hmap:(parts.map fun (x:Nat × Operand)=>(x.1,a.eval x.2)).toList=parts.toList.map fun p=>(p.1,a.eval p.2):=by simp
  simp only [Instr.buildSlice,Sem.run_bind,VK ht,Result.andThen_ok,K7 hi,hnot,if_false]
  by_cases h0:len*i.size=0
  ·have hz0:zero=#[]:=Zd h0
   rw [hz0] at k1
   rw [Zd h0]
   simp only [Sem.run_bind,Sem.run_pure,Result.andThen_ok,hmap,k1]
   simp [newRow]
  ·have hz0:zero=z.cells:=Z6 h0
   rw [hz0] at k1
   rw [Z6 h0]
   simp only [Sem.run_bind,Sem.run_pure,Result.andThen_ok,hzv,hmap,k1]
   simp [newRow]
theorem Zes (t len:Nat) (parts:Array (Nat × Operand)) {e size:Nat} {i:TypeInfo} {es:List AV} (ho:o.op=.buildSlice t len parts)
  (ht:P.underlying t=some (.slice e)) (hi:P.info? e=some i) (hs:i.size=size) (hz:i.zero.isSome=true) (hle:Nat.ble (len*size) (2 ^ 24)=true)
  (hfill:AT (fun i=>some (i*size,size)) (List.replicate (len*size) .any) (parts.toList.map fun p=>(p.1,F.ev p.2))=some (Zh es))
  (hlen:es.length=len) (hall:AJ es size=true) (hd:VO n o=true)
  (hK:∀b,Bo h b->K (F.put o.dst (.sl es (some (.slice (some ⟨b,0,none⟩) len len)))) (.tail (.slice (some ⟨b,0,none⟩) len len) size::h)):WO P n o F h K:=by
 intro Q w G a hF hh
 obtain ⟨cs,h1,h2⟩:=Hm hF parts ht hi hs hz hle hfill
 have hr:(execOp a.eval o).run P w=.ok (.value (.slice (some ⟨w.heap.size,0,none⟩) len len)) (w.alloc (.cells cs e)):=by
  simp only [execOp,ho]
  exact Vm h2
 unfold Oper.wp
 rw [hr]
 subst hlen
 have hk:=Z3n hall
 have hcs:cs.size=es.length*size:=by have:=h1.length;rw [T5 es hk] at this;simpa using this
 obtain ⟨G',j1,j2,j3⟩:=hh.alloc_row cs e hk (X6 _) hcs (by rw [<-hcs];simpa [Vx] using h1)
 exact ⟨_,_,G',hK _ (Li hh),(hF.mono (j2.agree hh)).put (Tm hd) j3,j1,j2⟩
end
structure FA (w:World) (G:Yd) (h1 h2:List Res) (k:Nat) (v:Value) (es:List AV) (v':Value) (w':World) (G':Yd):Prop where
 ok:Yx w' G' (h1++.tail v' k::h2)
 ext:YZ w G (h1++.tail v k::h2) w' G' (h1++.tail v' k::h2)
 rv:RV w' G' (.sl es (some v')) v'
 own:v'.ownBlock=v.ownBlock∨∃b,v'.ownBlock=some b/\w.heap.size<=b
theorem Z3z {w:World} {G:Yd} {h1 h2:List Res} {k:Nat} {v:Value} (hh:Yx w G (h1++.tail v k::h2)) (cs:Array Value) (t:TypeId) {es:List AV} {cap:Nat}
  (hk:∀x∈es,x.leaves.length=k) (hcap:es.length<=cap) (Xv:cs.size=cap*k) (hls:YW w G (Zh es) (cs.toList.take (es.length*k))) :
  ∃G',FA w G h1 h2 k v es (.slice (some ⟨w.heap.size,0,none⟩) es.length cap) (w.drew.alloc (.cells cs t)) G':=by
 obtain ⟨G',j1,j2,j3⟩:=hh.drew.alloc_row cs t hk hcap Xv (hls.mono (Bu w G))
 have hsub:(h1++.tail (.slice (some ⟨w.heap.size,0,none⟩) es.length cap) k::h2).Perm (.tail (.slice (some ⟨w.heap.size,0,none⟩) es.length cap) k::(h1++h2)):=List.perm_middle
 have hs2:(Res.tail (.slice (some ⟨w.heap.size,0,none⟩) es.length cap) k::(h1++h2)).Sublist (.tail (.slice (some ⟨w.heap.size,0,none⟩) es.length cap) k::(h1++.tail v k::h2)):=
  List.Sublist.cons_cons _ (List.Sublist.append (List.Sublist.refl _) (C7 _ _))
 refine ⟨G',(j1.sub hs2).perm hsub.symm,?_,j3,.inr ⟨_,rfl,X6 _⟩⟩
 exact (YZ.drew w G _).trans ((j2.sub' hs2).perm (K9 _) hsub.symm)
theorem DJ {P:Program} {t ty e:TypeId} {i:TypeInfo} (ht:P.underlying t=some (.slice e)) (hi:P.info? e=some i) {ad:Option Addr} {len cap:Nat} {a:Option Addr} {c:Nat}
  (hle:len<=cap) (w:World):(Builtin.append_ #[t,t] ty #[.slice ad len cap,.slice a 0 c]).run P w=.ok (.slice ad len cap) w:=by
 cases ad with
 | none=>cases a<;>simp [Builtin.append_,VK ht,K7 hi,Builtin.lenOf,hle,Builtin.firstCells,loadCells,loadCellsFrom]
 | some ad=>cases a<;>simp [Builtin.append_,VK ht,K7 hi,Builtin.lenOf,hle,Builtin.firstCells,loadCells,loadCellsFrom,storeCells]
theorem Z40 {w:World} {G:Yd} {h1 h2:List Res} {k g cap:Nat} {es xs:List AV} {cur:Array Value} {e:TypeId} {news:List Value}
  (hh:Yx w G (h1++.tail (.slice (some ⟨g,0,none⟩) es.length cap) k::h2)) (hrow:w.heap[g]? = some (.cells cur e (0,0))) (hcur:cur.size=cap*k)
  (hm:WE w G g 0 (Zh es)) (hes:∀y∈es,y.leaves.length=k) (hxs:∀y∈xs,y.leaves.length=k) (hn:YW w G (Zh xs) news)
  (hroom:es.length+xs.length<=cap) :
  ∃G',FA w G h1 h2 k (.slice (some ⟨g,0,none⟩) es.length cap) (es++xs) (.slice (some ⟨g,0,none⟩) (es.length+xs.length) cap)
   (w.setRow g (cur.toList.take (es.length*k)++news++cur.toList.drop (es.length*k+news.length)).toArray) G':=by
 have hnl:news.length=xs.length*k:=by rw [hn.length,T5 xs hxs]
 have hfit:es.length*k+news.length<=cur.size:=by rw [hnl,hcur,<-Kb];exact Kq _ hroom
 generalize hcs':(cur.toList.take (es.length*k)++news++cur.toList.drop (es.length*k+news.length)).toArray=cs'
 have hlist:cs'.toList=cur.toList.take (es.length*k)++news++cur.toList.drop (es.length*k+news.length):=by rw [<-hcs']
 have Xv:cs'.size=cur.size:=by
  have:=Yu List.length hlist
  simp only [Jj,Yq,WY,Bk] at this
  omega
 have hlow:∀j,j<es.length*k->cs'[j]? = cur[j]?:=by
  intro j hj
  have h1:(cur.toList.take (es.length*k)).length=es.length*k:=by simp;omega
  rw [<-DR,hlist,UC,CX om,Ql,Zd hj,DR]
 have hmid:∀j u,news[j]? = some u->cs'[es.length*k+j]? = some u:=by
  intro j u hj
  have h1:(cur.toList.take (es.length*k)).length=es.length*k:=by simp;omega
  have hjl:j<news.length:=(Xs.1 hj).1
  rw [<-DR,hlist,UC,Bi om,h1,Nat.add_sub_cancel_left,CX hjl,hj]
 have hmem:Res.tail (.slice (some ⟨g,0,none⟩) es.length cap) k∈h1++.tail (.slice (some ⟨g,0,none⟩) es.length cap) k::h2:=by simp
 let G':Yd:=fun b o=>G b o∨(b=g/\es.length*k<=o/\o<(es.length+xs.length)*k)
 have hA:Ud G w (w.setRow g cs') G':=⟨fun b j hg=>by
  by_cases hbg:b=g
  ·subst hbg
   have hj:j<es.length*k:=by
    rcases JS j (es.length*k) with h|h
    ·exact h
    ·exact (hh.prot _ hmem b j ⟨rfl,h⟩ hg).elim
   rw [cell_of_row _ b j cs' e (0,0) (setRow_heap w b cur cs' e (0,0) hrow),cell_of_row w b j cur e (0,0) hrow,hlow j hj]
  ·simp [World.cell?,U8 w g b cs' hbg],fun _ _ h=>.inl h⟩
 have hpw:=Ab.1 hh.apart
 have hpw2:=Vn.1 hpw.2.1
 have hbig:∀j,es.length*k<=j->Res.fp (.tail (.slice (some ⟨g,0,none⟩) es.length cap) k) g j:=fun j hj=>⟨rfl,hj⟩
 have hother:∀r,(r∈h1∨r∈h2)->∀c j,r.fp c j->c=g->j<es.length*k:=by
  intro r hr c j hf hc
  subst hc
  rcases JS j (es.length*k) with h|h
  ·exact h
  ·rcases hr with hr|hr
   ·exact (hpw.2.2 r hr _ (Xd ..) c j hf (hbig j h)).elim
   ·exact (hpw2.1 r hr c j (hbig j h) hf).elim
 have hkeep:∀r,(r∈h1∨r∈h2)->QH w G r->QH (w.setRow g cs') G' r:=by
  intro r hr h0
  cases r with
  | obj c ks=>
   obtain ⟨ds,el,k1,k2⟩:=h0
   have hne:c≠g:=fun hc=>by have:=hother _ hr c (es.length*k) rfl hc;omega
   exact ⟨ds,el,(U8 w g c cs' hne).trans k1,k2.mono hA⟩
  | tail v kk=>
   rcases h0 with rfl|⟨g2,len,cap2,cur2,el,rfl,k1,k2,k3⟩
   ·exact .inl rfl
   ·have hne:g2≠g:=fun hc=>by have:=hother _ hr g2 (len*kk+es.length*k) ⟨rfl,by omega⟩ hc;omega
    exact .inr ⟨g2,len,cap2,cur2,el,rfl,(U8 w g g2 cs' hne).trans k1,k2,k3⟩
  | ge s=>exact VL h0 (by simp [World.setRow])
  | vec v ks=>
   rcases h0 with ⟨rfl,h0⟩|⟨g2,cap2,cur2,el,rfl,k1,k2,k3,k4⟩
   ·exact .inl ⟨rfl,h0⟩
   ·have hne:g2≠g:=fun hc=>by have:=hother _ hr g2 (es.length*k) rfl hc;omega
    exact .inr ⟨g2,cap2,cur2,el,rfl,(U8 w g g2 cs' hne).trans k1,k2,k3,k4.mono hA⟩
  | many ts=>
   refine ⟨fun p hp=>?_,h0.2⟩
   rcases h0.1 p hp with q|⟨g2,len,cap2,cur2,el,q,k1,k2,k3⟩
   ·exact .inl q
   ·have hne:g2≠g:=fun hc=>by have:=hother _ hr g2 (len*p.2+es.length*k) ⟨p,hp,by rw [q];exact ⟨rfl,by omega⟩⟩ hc;omega
    exact .inr ⟨g2,len,cap2,cur2,el,q,(U8 w g g2 cs' hne).trans k1,k2,k3⟩
  | own B m=>
   intro c hc
   obtain ⟨ds,el,k1,k2⟩:=h0 c hc
   have hne:c≠g:=fun hq=>by have:=hother _ hr c (es.length*k) hc hq;omega
   exact ⟨ds,el,(U8 w g c cs' hne).trans k1,k2⟩
  | row v kk ks=>
   rcases h0 with ⟨rfl,h0⟩|⟨g2,len2,cap2,cur2,el,rfl,k1,k2,k3,k4,k5⟩
   ·exact .inl ⟨rfl,h0⟩
   ·have hne:g2≠g:=fun hc=>by have:=hother _ hr g2 (es.length*k) rfl hc;omega
    exact .inr ⟨g2,len2,cap2,cur2,el,rfl,(U8 w g g2 cs' hne).trans k1,k2,k3,k4,k5.mono hA⟩
 have hle:es.length*k<=(es.length+xs.length)*k:=Kq _ om
 have hfpe:∀r,r∈h1++.tail (.slice (some ⟨g,0,none⟩) (es.length+xs.length) cap) k::h2->∀b o,r.fp b o ->
   Vh (h1++.tail (.slice (some ⟨g,0,none⟩) es.length cap) k::h2) b o:=by
  intro r hr b o hf
  rcases Xg.1 hr with hr|hr
  ·exact ⟨r,by simp [hr],hf⟩
  ·rcases YH.1 hr with rfl|hr
   ·obtain ⟨rfl,hf2⟩:=hf
    exact ⟨_,hmem,rfl,VL hle hf2⟩
   ·exact ⟨r,by simp [hr],hf⟩
 refine ⟨G',⟨?_,?_,?_,?_⟩,⟨rfl,rfl,rfl,by simp [World.setRow],fun _ _ h=>.inl h,?_,?_,fun b o _ ⟨r,hr,hf⟩=>hfpe r hr b o hf⟩,?_,.inl rfl⟩
 ·intro r hr
  rcases Xg.1 hr with hr|hr
  ·exact hkeep r (.inl hr) (hh.ok r (by simp [hr]))
  ·rcases YH.1 hr with rfl|hr
   ·exact .inr ⟨g,_,cap,cs',e,rfl,setRow_heap w g cur cs' e (0,0) hrow,hroom,Xv.trans hcur⟩
   ·exact hkeep r (.inr hr) (hh.ok r (by simp [hr]))
 ·have htt:∀r,AF r (.tail (.slice (some ⟨g,0,none⟩) es.length cap) k)->AF r (.tail (.slice (some ⟨g,0,none⟩) (es.length+xs.length) cap) k):=
   fun r hd b o hf ⟨e1,e2⟩=>hd b o hf ⟨e1,VL hle e2⟩
  refine Ab.2 ⟨hpw.1,Vn.2 ⟨fun r hr=>(htt r (hpw2.1 r hr).symm).symm,hpw2.2⟩,fun r hr r' hr'=>?_⟩
  rcases YH.1 hr' with rfl|hr'
  ·exact htt r (hpw.2.2 r hr _ (Xd ..))
  ·exact hpw.2.2 r hr r' (by simp [hr'])
 ·intro r hr b o hf hg
  obtain ⟨r0,hr0,hf0⟩:=hfpe r hr b o hf
  rcases hg with hg|⟨rfl,hg1,hg2⟩
  ·exact hh.prot r0 hr0 b o hf0 hg
  ·rcases Xg.1 hr with hr|hr
   ·have:=hother r (.inl hr) b o hf rfl;omega
   ·rcases YH.1 hr with rfl|hr
    ·have:=hf.2;omega
    ·have:=hother r (.inr hr) b o hf rfl;omega
 ·intro b o hg
  have hs:(w.setRow g cs').heap.size=w.heap.size:=by simp [World.setRow]
  rw [hs]
  rcases hg with hg|⟨rfl,_,_⟩
  ·exact hh.lt b o hg
  ·exact (Tf.1 hrow).1
 ·intro b hb
  by_cases hbg:b=g
  ·subst hbg
   refine .inr ⟨cur,cs',e,(0,0),hrow,setRow_heap w b cur cs' e (0,0) hrow,Xv,fun o ho=>hlow o ?_⟩
   rcases JS o (es.length*k) with h|h
   ·exact h
   ·exact absurd ⟨_,hmem,rfl,h⟩ ho
  ·exact .inl (U8 w g b cs' hbg)
 ·intro b o hb hg
  rcases hg with hg|⟨rfl,hg1,hg2⟩
  ·exact .inl hg
  ·exact .inr ⟨_,hmem,rfl,hg1⟩
 ·rw [<-Yq]
  refine .sl (k:=k) (fun x hx=>by cases hx;rfl) (by simpa using hroom) (Vf.of_flat _ (fun y hy=>?_) ?_)
  ·rcases Xg.1 hy with hy|hy
   ·exact hes y hy
   ·exact hxs y hy
  ·have e1:Zh (es++xs)=Zh es++Zh xs:=by simp [Zh]
   rw [e1]
   refine (hm.mono hA).append ?_
   rw [T5 es hes,Vy]
   refine WE.of_cells (hn.mono hA) fun j u hj=>⟨?_,.inr ⟨rfl,by omega,?_⟩⟩
   ·rw [cell_of_row _ g _ cs' e (0,0) (setRow_heap w g cur cs' e (0,0) hrow),hmid j u hj]
   ·have hjl:j<news.length:=(Xs.1 hj).1
    rw [Kb]
    omega
theorem Hl {P:Program} (w:World) (t ty e el:TypeId) (i:TypeInfo) (ht:P.underlying t=some (.slice e)) (hi:P.info? e=some i)
  (g sLen sCap:Nat) (cur:Array Value) (hg:w.heap[g]? = some (.cells cur el (0,0)))
  (a:Addr) (m c:Nat) (news:List Value) (hl:news.length=m*i.size) (hnews:∀j u,news[j]? = some u->w.cell? (a.add j)=some u) (h1:∀u∈news,u.oneCell'=true)
  (hroom:sLen+m<=sCap) (hfit:sLen*i.size+news.length<=cur.size) :
  (Builtin.append_ #[t,t] ty #[.slice (some ⟨g,0,none⟩) sLen sCap,.slice (some a) m c]).run P w =
   .ok (.slice (some ⟨g,0,none⟩) (sLen+m) sCap) (w.setRow g (cur.toList.take (sLen*i.size)++news++cur.toList.drop (sLen*i.size+news.length)).toArray):=by
 have hf:=run_firstCells_some (P:=P) w i.size m a m c news hl hnews
 have hst:=run_storeCells_at P g (sLen*i.size) el news 0 cur w hg (by simpa using hfit) h1
 simp only [CZ] at hst
 simp [Builtin.append_,run_underlying ht,sizeOf,typeInfo,hi,Builtin.lenOf,hroom,hf,Addr.add_lit,hst]
theorem Z3y {P:Program} {w:World} {G:Yd} {h1 h2:List Res} {t ty e k:Nat} {i:TypeInfo} {v x:Value} {es xs:List AV}
  (ht:P.underlying t=some (.slice e)) (hi:P.info? e=some i) (hk:i.size=k) (hzs:(i.zero.map (·.cells.size))=some k) (hb:Nat.ble i.bytes 32768=true)
  (hh:Yx w G (h1++.tail v k::h2)) (hv:RV w G (.sl es (some v)) v) (hx:RV w G (.sl xs none) x)
  (hes:∀y∈es,y.leaves.length=k) (hxs:∀y∈xs,y.leaves.length=k) (hone:(Zh xs).all AV.one=true) (hbound:es.length+xs.length<=4294967296) :
  ∃v' w' G',(Builtin.append_ #[t,t] ty #[v,x]).run P w=.ok v' w'/\FA w G h1 h2 k v (es++xs) v' w' G':=by
 have htail:HW w v k:=hh.ok (.tail v k) (by simp)
 have hb:=Vo hb
 cases hz:i.zero with
 | none=>simp [hz] at hzs
 | some z=>
  have hzs:z.cells.size=k:=by simpa [hz] using hzs
  have hlen:v=.slice none 0 0->es=[]:=by
   intro he
   subst he
   cases hv with
   | nil=>rfl
  have grown:∀(olds news:List Value) (old:Nat),YW w G (Zh es) olds->YW w G (Zh xs) news ->
    ∃G',FA w G h1 h2 k v (es++xs) (.slice (some ⟨w.heap.size,0,none⟩) (es.length+xs.length) (grownCap w (es.length+xs.length) old e))
     (w.drew.alloc (.cells (olds.toArray++news.toArray++Builtin.zeroCells z.cells (grownCap w (es.length+xs.length) old e-(es.length+xs.length))) e)) G':=by
   intro olds news old ho hn
   have Xr:=grownCap_ge w (es.length+xs.length) old e
   have hall:∀y∈es++xs,y.leaves.length=k:=fun y hy=>by
    rcases Xg.1 hy with hy|hy
    ·exact hes y hy
    ·exact hxs y hy
   have e1:Zh (es++xs)=Zh es++Zh xs:=by simp [Zh]
   have hol:olds.length=es.length*k:=by rw [ho.length,T5 es hes]
   have hnl:news.length=xs.length*k:=by rw [hn.length,T5 xs hxs]
   have:=Z3z hh (olds.toArray++news.toArray++Builtin.zeroCells z.cells (grownCap w (es.length+xs.length) old e-(es.length+xs.length))) e
    (es:=es++xs) (cap:=grownCap w (es.length+xs.length) old e) hall (by simpa using Xr)
    (by
     simp only [Array.size_append,DT,size_zeroCells,hzs,hol,hnl,<-Kb]
     congr 1
     omega)
    (by
     rw [e1]
     have:(olds.toArray++news.toArray++Builtin.zeroCells z.cells (grownCap w (es.length+xs.length) old e-(es.length+xs.length))).toList.take ((es++xs).length*k)=olds++news:=by
      simp only [DS,UC,Yq]
      rw [<-UC,Kb,<-hol,<-hnl,<-Yq]
      exact AA
     rw [this]
     exact ho.append hn)
   simpa using this
  by_cases hxe:xs=[]
  ·subst hxe
   cases hx with
   | nil _=>
    refine ⟨v,w,G,?_,by simpa using hh,YZ.refl _ _ _,by simpa using hv,.inl rfl⟩
    rcases htail with rfl|⟨g,len,cap,cur,el,rfl,_,hle,_⟩
    ·exact DJ ht hi (X6 _) w
    ·exact DJ ht hi hle w
   | sl _ _ _=>
    refine ⟨v,w,G,?_,by simpa using hh,YZ.refl _ _ _,by simpa using hv,.inl rfl⟩
    rcases htail with rfl|⟨g,len,cap,cur,el,rfl,_,hle,_⟩
    ·exact DJ ht hi (X6 _) w
    ·exact DJ ht hi hle w
  ·cases hx with
   | nil _=>exact absurd rfl hxe
   | sl hq hcc hm=>
    rename_i b o' k' c
    have hpos:0<xs.length:=Fy.2 hxe
    obtain ⟨news,hn,hnc⟩:=hm.flat_mem.cells
    have hnl:news.length=xs.length*i.size:=by rw [hn.length,hk,T5 xs hxs]
    have hone':=hn.one_cells hone
    have hnews:∀j u,news[j]? = some u->w.cell? ((⟨b,o',none⟩:Addr).add j)=some u:=fun j u hj=>by rw [Jn];exact (hnc j u hj).1
    have hby:(es.length+xs.length)*i.bytes<=140737488355328:=by
     have:=Nat.mul_le_mul hbound hb
     omega
    rcases htail with rfl|⟨g,len,cap,cur,el,rfl,hrow,hlc,hcur⟩
    ·have he:=hlen rfl
     subst he
     have hr:=run_append_nil (P:=P) w t ty e i z ht hi hz ⟨b,o',none⟩ xs.length c news hnl hnews hpos (by simp at hbound;omega) (by simp at hby;omega)
     obtain ⟨G',hG'⟩:=grown [] news 0 .nil hn
     simp only [XP,Vy,Array.empty_append] at hG'
     exact ⟨_,_,G',hr,by simpa using hG'⟩
    ·have hle:len=es.length:=by cases hv<;>rfl
     subst hle
     have hmem:WE w G g 0 (Zh es):=by
      cases hv with
      | nil=>exact .nil
      | sl _ _ hm=>exact hm.flat_mem
     obtain ⟨olds,ho,hoc⟩:=hmem.cells
     by_cases hroom:es.length+xs.length<=cap
     ·have hfit:es.length*i.size+news.length<=cur.size:=by rw [hnl,hcur,hk,<-Kb];exact Kq _ hroom
      have hr:=Hl (P:=P) w t ty e el i ht hi g es.length cap cur hrow ⟨b,o',none⟩ xs.length c news hnl hnews hone' hroom hfit
      obtain ⟨G',hG'⟩:=Z40 (h1:=h1) (h2:=h2) hh hrow hcur hmem hes hxs hn hroom
      rw [hk] at hr
      exact ⟨_,_,G',hr,hG'⟩
     ·have hol:olds.length=es.length*i.size:=by rw [ho.length,hk,T5 es hes]
      have hr:=run_append_grow (P:=P) w t ty e i z ht hi hz ⟨g,0,none⟩ es.length cap olds hol (fun j u hj=>by rw [Jn];simpa using (hoc j u hj).1) ⟨b,o',none⟩ xs.length c news hnl hnews
       om om (growslice_fits om hby)
      obtain ⟨G',hG'⟩:=grown olds news cap ho hn
      exact ⟨_,_,G',hr,hG'⟩
section
variable {P:Program} {n:Nat} {o:Oper} {F:Fr} {h h1 h2:List Res} {K:Fr->List Res->Prop}
theorem RV.forget {w:World} {G:Yd} {es:List AV} {hv:Option Value} {v:Value} (h:RV w G (.sl es hv) v):RV w G (.sl es none) v:=by
 cases h with
 | nil _=>exact .nil (by simp)
 | sl _ hc hm=>exact .sl (by simp) hc hm
theorem RV.header {w:World} {G:Yd} {es:List AV} {x v:Value} (h:RV w G (.sl es (some x)) v):v=x:=by
 cases h with
 | nil hq=>exact (hq x rfl).symm
 | sl hq _ _=>exact (hq x rfl).symm
theorem Zeo (s x:Operand) (t:TypeId) {e k:Nat} {i:TypeInfo} {hv:Value} {hx:Option Value} {es xs:List AV}
  (ho:o.op=.call { callee:=.builtin .append,args:=#[s,x],argTypes:=#[t,t] })
  (ht:P.underlying t=some (.slice e)) (hi:P.info? e=some i) (hk:i.size=k) (hzs:(i.zero.map (·.cells.size))=some k) (hb:Nat.ble i.bytes 32768=true)
  (hs:F.ev s=.sl es (some hv)) (hx:F.ev x=.sl xs hx) (hd:VO n o=true)
  (hes:∀y∈es,y.leaves.length=k) (hxs:∀y∈xs,y.leaves.length=k) (hone:(Zh xs).all AV.one=true) (hbound:es.length+xs.length<=4294967296)
  (hK:∀v',(v'.ownBlock=hv.ownBlock∨∃b,v'.ownBlock=some b/\Bo (h1++.tail hv k::h2) b) ->
   K (F.put o.dst (.sl (es++xs) (some v'))) (h1++.tail v' k::h2)):WO P n o F (h1++.tail hv k::h2) K:=by
 intro Q w G a hF hh
 have v1:=hF.ev s
 have v2:=hF.ev x
 rw [hs] at v1
 rw [hx] at v2
 have e1:=v1.header
 rw [e1] at v1
 obtain ⟨v',w',G',hr,hA⟩:=Z3y (P:=P) (ty:=o.type) ht hi hk hzs hb hh v1 v2.forget hes hxs hone hbound
 have hrun:(execOp a.eval o).run P w=.ok (.value v') w':=by
  simp only [execOp,ho,resolve,invoke,builtin,Sem.run_bind,Sem.run_pure,Result.andThen_ok,C5,VZ,Aa,e1,hr]
 unfold Oper.wp
 rw [hrun]
 refine ⟨_,_,G',hK v' ?_,(hF.mono (hA.ext.agree hh)).put (Tm hd) hA.rv,hA.ok,hA.ext⟩
 rcases hA.own with h|⟨b,h,hle⟩
 ·exact .inl h
 ·exact .inr ⟨b,h,fun s hs=>VL (hh.ok _ hs) hle⟩
theorem Z0f {t e k:Nat} {i:TypeInfo} {b off len cap:Nat} {ik:IntKind} {j:Int} (ht:P.underlying t=some (.slice e)) (hi:P.info? e=some i) (hk:i.size=k)
  (h0:0<=j) (hlt:j<len) (w:World) :
  (Instr.indexAt t (.slice (some ⟨b,off,none⟩) len cap) (.int ik j)).run P w=.ok (.pointer (some ⟨b,off+j.toNat * k,none⟩)) w:=by
 subst hk
 have hu:=VK ht w
 simp only [Instr.indexAt,asIntOf,Sem.run_bind,Sem.run_pure,Result.andThen_ok,hu]
 simp [h0,hlt,K7 hi,Jn]
theorem Zjh (t:TypeId) (x ix:Operand) {e k:Nat} {i:TypeInfo} {es:List AV} {hv:Option Value} {ik:IntKind} {j:Int} {y:AV}
  (ho:o.op=.indexAddr t x ix) (ht:P.underlying t=some (.slice e)) (hi:P.info? e=some i) (hk:i.size=k) (hx:F.ev x=.sl es hv) (hix:F.ev ix=.val (.int ik j))
  (h0:0<=j) (hget:es[j.toNat]? = some y) (hy:y.leaves.length=k):XB P o F h [] (.rp y.leaves):=by
 intro n w G a hF hh
 have v1:=hF.ev x
 have v2:=hF.ev ix
 rw [hx] at v1
 rw [hix] at v2
 have v2:=v2.val_inv
 generalize hv1:a.eval x=u at v1
 cases v1 with
 | nil _=>simp at hget
 | sl hq hc hm=>
  rename_i b off kk cap
  have hlt:j.toNat<es.length:=(Xs.1 hget).1
  have hkk:kk=k:=by
   have:=hm.len y (Y4 hget)
   omega
  subst hkk
  refine ⟨_,.rp (hm.get _ _ hget),fun w' _ _=>?_⟩
  simp only [execOp,ho,hv1,v2]
  exact Vm (Z0f ht hi hk h0 om w')
theorem Zji (t:TypeId) (x ix:Operand) {e k:Nat} {i:TypeInfo} {b off len cap:Nat} {ik:IntKind} {j:Int}
  (ho:o.op=.indexAddr t x ix) (ht:P.underlying t=some (.slice e)) (hi:P.info? e=some i) (hk:i.size=k) (hx:F.ev x=.val (.slice (some ⟨b,off,none⟩) len cap)) (hix:F.ev ix=.val (.int ik j))
  (h0:0<=j) (hlt:j<len):XB P o F h [] (.val (.pointer (some ⟨b,off+j.toNat * k,none⟩))):=by
 intro n w G a hF hh
 have v1:=hF.ev x
 have v2:=hF.ev ix
 rw [hx] at v1
 rw [hix] at v2
 have v1:=v1.val_inv
 have v2:=v2.val_inv
 refine ⟨_,.val,fun w' _ _=>?_⟩
 simp only [execOp,ho,v1,v2]
 exact Vm (Z0f ht hi hk h0 hlt w')
def BO (F:Fr) (o:Option Operand) (d:Int):Option Int:=
 match o with
 | none=>some d
 | some x=>match F.ev x with
  | .val (.int _ j)=>some j
  | _=>none
theorem DK {v:Value} {ik:IntKind} {j:Int} {y:Nat} {c:BoundsCode} (hv:v=.int ik j) (h0:0<=j) (h1:j<=y) (w:World):(Instr.sliceBound v y c).run P w=.ok j.toNat w:=by
 subst hv
 simp [Instr.sliceBound,asIntOf,h0,h1]
theorem Zjp (t:TypeId) (x:Operand) (lo hi:Option Operand) {e k:Nat} {i:TypeInfo} {es:List AV} {hv:Option Value} {l m:Int}
  (ho:o.op=.slice t x lo hi none) (ht:P.underlying t=some (.slice e)) (hi':P.info? e=some i) (hk:i.size=k) (hx:F.ev x=.sl es hv)
  (hlo:BO F lo 0=some l) (hhi:BO F hi es.length=some m) (h0:0<=l) (h1:l<=m) (h2:m<=es.length) (hes:∀y∈es,y.leaves.length=k) :
  XB P o F h [] (.sl ((es.take m.toNat).drop l.toNat) none):=by
 intro n w G a hF hh
 have v1:=hF.ev x
 rw [hx] at v1
 generalize hv1:a.eval x=u at v1
 have hlo':lo.map a.eval=none/\l=0∨∃ik,lo.map a.eval=some (.int ik l):=by
  cases lo with
  | none=>simp [BO] at hlo;exact .inl ⟨rfl,hlo.symm⟩
  | some y=>
   simp only [BO] at hlo
   split at hlo
   ·rename_i k j hj
    cases hlo
    have:=hF.ev y
    rw [hj] at this
    exact .inr ⟨k,by simp [this.val_inv]⟩
   ·cases hlo
 have hhi':hi.map a.eval=none/\m=es.length∨∃ik,hi.map a.eval=some (.int ik m):=by
  cases hi with
  | none=>simp [BO] at hhi;exact .inl ⟨rfl,hhi.symm⟩
  | some y=>
   simp only [BO] at hhi
   split at hhi
   ·rename_i k j hj
    cases hhi
    have:=hF.ev y
    rw [hj] at this
    exact .inr ⟨k,by simp [this.val_inv]⟩
   ·cases hhi
 have hrun:∀(ad:Option Addr) (cap:Nat),m<=cap->∀w':World,(Instr.sliceAt t (.slice ad es.length cap) (lo.map a.eval) (hi.map a.eval) none).run P w' =
   .ok (.slice (if cap=l.toNat then ad else ad.map (·.add (l.toNat * k))) (m.toNat-l.toNat) (cap-l.toNat)) w':=by
  intro ad cap hcap w'
  subst hk
  have hmm:(Instr.sliceBounds true es.length cap (lo.map a.eval) (hi.map a.eval) none).run P w'=.ok (l.toNat,m.toNat,cap) w':=by
   rcases hhi' with ⟨e1,rfl⟩|⟨ik,e1⟩
   ·rcases hlo' with ⟨e2,rfl⟩|⟨ik2,e2⟩
    ·simp [Instr.sliceBounds,e1,e2]
    ·simp [Instr.sliceBounds,e1,e2,DK (P:=P) (v:=.int ik2 l) rfl h0 (by omega:l<=(es.length:Int))]
   ·have Zb:=fun c=>DK (P:=P) (c:=c) (v:=.int ik m) (y:=cap) rfl om hcap w'
    rcases hlo' with ⟨e2,rfl⟩|⟨ik2,e2⟩
    ·simp [Instr.sliceBounds,e1,e2,Zb]
    ·have Zz:=fun c=>DK (P:=P) (c:=c) (v:=.int ik2 l) (y:=m.toNat) rfl h0 om w'
     simp [Instr.sliceBounds,e1,e2,Zb,Zz]
  simp only [Instr.sliceAt,Sem.run_bind,VK ht,Result.andThen_ok,Instr.slice,hmm]
  simp [K7 hi']
 cases v1 with
 | nil hq=>
  rename_i ad cap
  simp only [XP,Int.natCast_zero] at h2
  have hl:l=0:=by omega
  have hm:m=0:=by omega
  subst hl
  subst hm
  have hr:=hrun ad cap om
  refine ⟨_,?_,fun w' _ _=>by simp only [execOp,ho,hv1,Option.map_none];exact Vm (hr w')⟩
  exact .nil (by simp)
 | sl hq hc hm=>
  rename_i b off kk cap
  by_cases hemp:m.toNat<=l.toNat
  ·refine ⟨_,?_,fun w' _ _=>by simp only [execOp,ho,hv1,Option.map_none];exact Vm (hrun _ cap om w')⟩
   have e1:(es.take m.toNat).drop l.toNat=[]:=HQ (by simp;omega)
   have e2:m.toNat-l.toNat=0:=by omega
   rw [e1,e2]
   exact .nil (by simp)
  ·have hne:0<es.length:=by omega
   have hkk:kk=k:=by
    have hy:=hm.len es[0] (List.getElem_mem hne)
    have:=hes es[0] (List.getElem_mem hne)
    omega
   subst hkk
   refine ⟨_,?_,fun w' _ _=>by simp only [execOp,ho,hv1,Option.map_none];exact Vm (hrun _ cap om w')⟩
   rw [Z6 om]
   have hlen:((es.take m.toNat).drop l.toNat).length=m.toNat-l.toNat:=by simp;omega
   rw [<-hlen]
   simp only [C9,Jn]
   exact .sl (k:=kk) (by simp) om ((hm.take m.toNat).drop l.toNat)
theorem Zeq (f:FuncId) (args:Array Operand) (tys:Array TypeId) {fn:Func} {h1 h2:List Res} {xs:List AV} {R:AV->List Res->Prop}
  (ho:o.op=.call { callee:=.value (.func f),args:=args,argTypes:=tys }) (hf:P.funcs[f]? = some fn) (hb:fn.body.isSome=true) (hn:(fn.name== "runtime.NumGoroutine")=false)
  (hargs:args.toList.map F.ev=xs) (hd:VO n o=true) (hp:h.Perm (h1++h2)) (hc:WD P f xs h1 R)
  (hK:∀r h',R r h'->K (F.put o.dst r) (h'++h2)):WO P n o F h K:=by
 intro Q w G a hF hh
 have hh':=hh.perm hp
 have hvs:YW w G xs (args.toList.map a.eval):=by rw [<-hargs];exact YW.map F.ev a.eval args.toList fun x _=>hF.ev x
 have hcl:=hc w G _ hvs hh'.left
 have hbn:¬fn.body=none:=by intro hq;simp [hq] at hb
 have hn':¬fn.name= "runtime.NumGoroutine":=by simpa using hn
 have hrun:(execOp a.eval o).run P w=.ok (.enter f (args.map a.eval)) w:=by
  simp only [execOp,ho,resolve,Act.eval,Deferred.ofValue,Sem.run_bind,Sem.run_pure,Result.andThen_ok,invoke,callFunc]
  simp [program,Sem.run,hf,hn',hbn]
 unfold Oper.wp
 rw [hrun]
 show Calls P f (args.map a.eval) w _
 have hav:args.map a.eval=(args.toList.map a.eval).toArray:=by rw [<-Array.toList_map,Ut]
 rw [hav]
 refine hcl.mono fun e w' ⟨v,r,h',G',he,hR,hv,hh2,hx⟩=>?_
 subst he
 obtain ⟨j1,j2⟩:=hh'.frame hx hh2
 have j3:=j2.perm hp.symm (K9 _)
 exact ⟨_,_,G',hK r h' hR,(hF.mono (j3.agree hh)).put (Tm hd) hv,j1,j3⟩
theorem Zer (t:Operand) (args:Array Operand) (tys:Array TypeId) {f:FuncId} {caps:Array Value} {fn:Func} {h1 h2:List Res} {xs:List AV} {R:AV->List Res->Prop}
  (ho:o.op=.call { callee:=.value t,args:=args,argTypes:=tys }) (ht:F.ev t=.val (.func (.func f) #[] caps)) (hf:P.funcs[f]? = some fn) (hb:fn.body.isSome=true)
  (hn:(fn.name== "runtime.NumGoroutine")=false)
  (hargs:args.toList.map F.ev++caps.toList.map AV.val=xs) (hd:VO n o=true) (hp:h.Perm (h1++h2)) (hc:WD P f xs h1 R)
  (hK:∀r h',R r h'->K (F.put o.dst r) (h'++h2)):WO P n o F h K:=by
 intro Q w G a hF hh
 have hh':=hh.perm hp
 have htv:=hF.ev t
 rw [ht] at htv
 have htv:=htv.val_inv
 have hcv:∀(l:List Value),YW w G (l.map AV.val) l:=fun l=>by
  induction l with
  | nil=>exact .nil
  | cons v l ih=>exact .cons .val ih
 have hvs:YW w G xs (args.toList.map a.eval++caps.toList):=by
  rw [<-hargs];exact (YW.map F.ev a.eval args.toList fun x _=>hF.ev x).append (hcv _)
 have hcl:=hc w G _ hvs hh'.left
 have hbn:¬fn.body=none:=by intro hq;simp [hq] at hb
 have hn':¬fn.name= "runtime.NumGoroutine":=by simpa using hn
 have hrun:(execOp a.eval o).run P w=.ok (.enter f (args.map a.eval++caps)) w:=by
  simp only [execOp,ho,resolve,htv,Deferred.ofValue,Sem.run_bind,Sem.run_pure,Result.andThen_ok,invoke,callFunc]
  simp [program,Sem.run,hf,hn',hbn]
 unfold Oper.wp
 rw [hrun]
 show Calls P f (args.map a.eval++caps) w _
 have hav:args.map a.eval++caps=(args.toList.map a.eval++caps.toList).toArray:=by
  apply Array.ext'
  simp
 rw [hav]
 refine hcl.mono fun e w' ⟨v,r,h',G',he,hR,hv,hh2,hx⟩=>?_
 subst he
 obtain ⟨j1,j2⟩:=hh'.frame hx hh2
 have j3:=j2.perm hp.symm (K9 _)
 exact ⟨_,_,G',hK r h' hR,(hF.mono (j3.agree hh)).put (Tm hd) hv,j1,j3⟩
end
def YN:Code->Code
 | .seq a _=>a
 | .cond _ a _=>a
 | .block _ a=>a
 | .loop a=>a
 | .scope a=>a
 | c=>c
def Un:Code->Code
 | .seq _ b=>b
 | .cond _ _ b=>b
 | c=>c
def Xo:Code->Nat
 | .skip=>0
 | .region _ _ false=>1
 | .region _ _ true=>2
 | .seq _ _=>3
 | .cond _ _ _=>4
 | .block _ _=>5
 | .loop _=>6
 | .exit _=>7
 | .ret=>8
 | _=>9
def J2:Code->Nat
 | .region id _ _=>id
 | .block id _=>id
 | .exit id=>id
 | _=>0
def XQ:Code->Array Oper
 | .region _ ops _=>ops
 | _=>#[]
def AL:Code->Operand
 | .cond x _ _=>x
 | _=>.tmp 0
def FP (fn:Func):Code:=fn.body.getD .skip
theorem Z56 {c:Code} (h:Xo c=0):c=.skip:=by unfold Xo at h;split at h<;>first|rfl|cases h
theorem Z57 {c:Code} (h:Xo c=1):c=.region (J2 c) (XQ c) false:=by unfold Xo at h;split at h<;>first|rfl|cases h
theorem Z58 {c:Code} (h:Xo c=2):c=.region (J2 c) (XQ c) true:=by unfold Xo at h;split at h<;>first|rfl|cases h
theorem Z59 {c:Code} (h:Xo c=3):c=.seq (YN c) (Un c):=by unfold Xo at h;split at h<;>first|rfl|cases h
theorem Z5a {c:Code} (h:Xo c=4):c=.cond (AL c) (YN c) (Un c):=by unfold Xo at h;split at h<;>first|rfl|cases h
theorem Z5b {c:Code} (h:Xo c=5):c=.block (J2 c) (YN c):=by unfold Xo at h;split at h<;>first|rfl|cases h
theorem Z5c {c:Code} (h:Xo c=6):c=.loop (YN c):=by unfold Xo at h;split at h<;>first|rfl|cases h
theorem Z5d {c:Code} (h:Xo c=7):c=.exit (J2 c):=by unfold Xo at h;split at h<;>first|rfl|cases h
theorem Z5e {c:Code} (h:Xo c=8):c=.ret:=by unfold Xo at h;split at h<;>first|rfl|cases h
def KW (P:Program) (n:Nat) (ops:Array Oper) (B:Fr->List Res->Prop) (l:List Oper) (F:Fr) (h:List Res):Prop:=
 ∀(Q:Exit->Act->World->Prop) w G a,FR w G n F a->Yx w G h ->
  (∀F' h' G' a' w',B F' h'->FR w' G' n F' a'->Yx w' G' h'->YZ w G h w' G' h'->Q .normal a' w')->wpList P ops Q l a w
section
variable {P:Program} {n:Nat} {ops:Array Oper} {B:Fr->List Res->Prop} {l:List Oper} {F:Fr} {h:List Res} {A:V8} {c:Code}
theorem Zgy (hB:B F h):KW P n ops B [] F h:=fun _ w G a hF hh hk=>hk F h G a w hB hF hh (YZ.refl _ _ _)
def Jv (ops:Array Oper) (F:Fr) (o:Oper):Option Bool:=
 match o.guard with
 | none=>some true
 | some (j,want)=>match (ops[j]?).bind (·.dst) with
  | none=>none
  | some t=>match F.get t with
   | .val (.bool b)=>some (b==want)
   | .tup []=>some false
   | _=>none
theorem Dm {w:World} {G:Yd} {a:Act} {o:Oper} {b:Bool} (hF:FR w G n F a) (hlt:(match o.guard with|none=>true|some (j,_)=>match (ops[j]?).bind (·.dst) with|some t=>Nat.blt t n|none=>true)=true)
  (hg:Jv ops F o=some b):Region.wanted o (yielded ops a.tmps)=b:=by
 unfold Jv at hg
 unfold Region.wanted
 cases hq:o.guard with
 | none=>simp [hq] at hg;simp [hg]
 | some jw=>
  obtain ⟨j,want⟩:=jw
  simp only [hq] at hg hlt ⊢
  cases ht:(ops[j]?).bind (·.dst) with
  | none=>simp [ht] at hg
  | some t=>
   simp only [ht] at hg hlt
   have hlt':t<n:=by simpa using hlt
   have hv:=hF.get t
   have hget:a.tmps[t]? = some (a.tmps.getD t undef):=by
    have:t<a.tmps.size:=by rw [hF.size];exact hlt'
    simp [Array.getD,this]
   unfold yielded
   simp only [ht,Option.bind_some,hget]
   split at hg
   ·rename_i b' hb
    rw [hb] at hv
    have hv:=hv.val_inv
    cases hg
    rw [hv]
    cases b'<;>cases want<;>rfl
   ·rename_i hb
    rw [hb] at hv
    cases hg
    generalize a.tmps.getD t undef=u at hv
    cases hv with
    | tup hc=>cases hc;cases want<;>rfl
   ·cases hg
def AX (n:Nat) (ops:Array Oper) (o:Oper):Bool:=
 match o.guard with|none=>true|some (j,_)=>match (ops[j]?).bind (·.dst) with|some t=>Nat.blt t n|none=>true
def Kj (P:Program) (n:Nat) (ops:Array Oper) (h:List Res):Nat->List Oper->Fr->List Nat->Option (List Oper × Fr × List (Nat × Nat))
 | 0,l,F,_=>some (l,F,[])
 | _+1,[],_,_=>none
 | k+1,o::l,F,hints=>
  match VO n o&&AX n ops o with
  | false=>none
  | true=>match Jv ops F o with
   | none=>none
   | some false=>Kj P n ops h k l (F.put o.dst (.tup [])) hints
   | some true=>match QN P o F h (hints.headD 0) with
    | none=>none
    | some (x,eqs)=>match Kj P n ops h k l (F.put o.dst x) (match eqs with | []=>hints | _=>hints.tail) with
     | none=>none
     | some (l',F',es)=>some (l',F',eqs++es)
theorem Zlc {o:Oper} {Q:Exit->Act->World->Prop} {a:Act} {w:World} (hw:Region.wanted o (yielded ops a.tmps)=false)
  (hk:wpList P ops Q l (a.put o.dst undef) w):wpList P ops Q (o::l) a w:=by
 unfold wpList
 rw [Z6 (by simp [hw])]
 exact hk
theorem My:∀(k:Nat) {l:List Oper} {F:Fr} {hints:List Nat} {l':List Oper} {F':Fr} {eqs:List (Nat × Nat)},Kj P n ops h k l F hints=some (l',F',eqs) ->
  (∀p∈eqs,p.1=p.2)->KW P n ops B l' F' h->KW P n ops B l F h
 | 0,l,F,hints,l',F',eqs,he,_,hs=>by
  simp only [Kj,Wo,Prod.mk.injEq] at he
  obtain ⟨rfl,rfl,rfl⟩:=he
  exact hs
 | k+1,[],F,hints,l',F',eqs,he,_,hs=>by simp [Kj] at he
 | k+1,o::l,F,hints,l',F',eqs,he,heq,hs=>by
  simp only [Kj] at he
  cases hd:VO n o&&AX n ops o with
  | false=>rw [hd] at he;cases he
  | true=>
   rw [hd] at he
   simp only [W9] at hd
   simp only at he
   cases hg:Jv ops F o with
   | none=>rw [hg] at he;cases he
   | some b=>
    rw [hg] at he
    cases b with
    | false=>
     simp only at he
     have ih:=My k he heq hs
     intro Q w G a hF hh hk
     have hw:=Dm hF hd.2 hg
     exact Zlc hw (ih Q w G _ (hF.put (Tm hd.1) (.tup (cs:=[]) .nil)) hh hk)
    | true=>
     simp only at he
     cases hev:QN P o F h (hints.headD 0) with
     | none=>rw [hev] at he;cases he
     | some xe=>
      obtain ⟨x,es⟩:=xe
      rw [hev] at he
      simp only at he
      generalize hhint:(match es with|[]=>hints|_=>hints.tail)=hints' at he
      cases hr:Kj P n ops h k l (F.put o.dst x) hints' with
      | none=>rw [hr] at he;cases he
      | some y=>
       obtain ⟨l2,F2,es2⟩:=y
       rw [hr] at he
       simp only [Wo,Prod.mk.injEq] at he
       obtain ⟨rfl,rfl,rfl⟩:=he
       have ih:=My k hr (fun p hp=>heq p (Xg.2 (.inr hp))) hs
       have hst:=Dj hev (fun p hp=>heq p (Xg.2 (.inl hp)))
       intro Q w G a hF hh hk
       have hw:=Dm hF hd.2 hg
       obtain ⟨v,hv,hrun⟩:=hst n w G a hF hh
       unfold wpList
       rw [Zd hw]
       refine .inl ?_
       unfold Oper.wp
       rw [hrun w (fun _ _ _=>rfl) (fun _ _=>rfl)]
       exact ih Q w G _ (hF.put (Tm hd.1) hv) hh hk
theorem Zgz {o:Oper} (hg:Jv ops F o=some true) (hlt:AX n ops o=true) (ho:WO P n o F h fun F' h'=>KW P n ops B l F' h'):KW P n ops B (o::l) F h:=by
 intro Q w G a hF hh hk
 have hw:=Dm hF hlt hg
 unfold wpList
 rw [Zd hw]
 refine .inl (Oper.wp_mono ?_ (ho Q w G a hF hh))
 intro a' w' ⟨F',h',G',h1,h2,h3,h4⟩
 exact h1 Q w' G' a' h2 h3 fun F2 h2' G2 a2 w2 b1 b2 b3 b4=>hk F2 h2' G2 a2 w2 b1 b2 b3 (h4.trans b4)
theorem Fr.Le.refl (F:Fr):F.Le F:=fun _ _ _ _ h=>h
def Zc (x y:AV):Prop:=∀w G v,RV w G x v->RV w G y v
theorem Zc.refl (x:AV):Zc x x:=fun _ _ _ h=>h
theorem Zc.any (x:AV):Zc x .any:=fun _ _ _ _=>.any
theorem Zc.forget (es:List AV) (hv:Option Value):Zc (.sl es hv) (.sl es none):=fun _ _ _ h=>h.forget
theorem P9 (F:Fr):F.Le []:=fun _ _ _ _ _=>.any
theorem Dk {F F':Fr} {t:Nat} {x y:AV} (hx:F.get t=x) (hxy:Zc x y) (hr:F.Le F'):F.Le ((t,y)::F'):=by
 intro w G v s hv
 show RV w G (match Nat.beq t s with|true=>y|false=>Fr.get F' s) v
 cases hb:Nat.beq t s with
 | true=>
  have:=UX hb
  subst this
  rw [hx] at hv
  exact hxy _ _ _ hv
 | false=>exact hr w G v s hv
theorem Zc.sl {es es':List AV} (hv:Option Value) (h:es=es'):Zc (.sl es hv) (.sl es' none):=h▸Zc.forget es hv
theorem Zc.slh {es es':List AV} (hv:Option Value) (h:es=es'):Zc (.sl es hv) (.sl es' hv):=h▸Zc.refl _
theorem Zc.i {a b:Int} (h:a=b):Zc (.val (.int .i64 a)) (.val (.int .i64 b)):=h▸Zc.refl _
theorem Zc.b {a b:Bool} (h:a=b):Zc (.val (.bool a)) (.val (.bool b)):=h▸Zc.refl _
inductive Ve:List AV->List AV->Prop
 | nil:Ve [] []
 | cons {x y:AV} {xs ys:List AV} (h:Zc x y) (t:Ve xs ys):Ve (x::xs) (y::ys)
theorem Ve.refl:∀(xs:List AV),Ve xs xs
 | []=>.nil
 | x::xs=>.cons (Zc.refl x) (Ve.refl xs)
theorem Ve.cs {w:World} {G:Yd}:∀{xs ys:List AV} {vs:List Value},Ve xs ys->YW w G xs vs->YW w G ys vs
 | _,_,_,.nil,.nil=>.nil
 | _,_,_,.cons h t,.cons a b=>.cons (h _ _ _ a) (t.cs b)
theorem Ve.mem {w:World} {G:Yd}:∀{xs ys:List AV} {b o:Nat},Ve xs ys->WE w G b o xs->WE w G b o ys
 | _,_,_,_,.nil,.nil=>.nil
 | _,_,_,_,.cons h t,.cons a1 a2 a3 a4=>.cons a1 a2 (h _ _ _ a3) (t.mem a4)
theorem Zc.agg {xs ys:List AV} (h:Ve xs ys):Zc (.agg xs) (.agg ys):=fun _ _ _ hv=>by
 cases hv with
 | agg hc=>exact .agg (h.cs hc)
theorem Zc.tup {xs ys:List AV} (h:Ve xs ys):Zc (.tup xs) (.tup ys):=fun _ _ _ hv=>by
 cases hv with
 | tup hc=>exact .tup (h.cs hc)
theorem Zc.rp {xs ys:List AV} (h:Ve xs ys):Zc (.rp xs) (.rp ys):=fun _ _ _ hv=>by
 cases hv with
 | rp hc=>exact .rp (h.mem hc)
mutual
def AV.like:AV->AV->AV
 | .sl es hv,y=>match y with | .sl _ none=>.sl es none | _=>.sl es hv
 | .agg ls,y=>match y with | .agg ms=>.agg (BJ ls ms) | _=>.agg ls
 | .rp ls,y=>match y with | .rp ms=>.rp (BJ ls ms) | _=>.rp ls
 | .tup ls,y=>match y with | .tup ms=>.tup (BJ ls ms) | _=>.tup ls
 | .any,_=>.any
 | .val v,y=>match y with | .any=>.any | _=>.val v
def BJ:List AV->List AV->List AV
 | [],_=>[]
 | x::xs,ys=>match ys with | y::ys=>x.like y::BJ xs ys | []=>x::xs
end
mutual
theorem AV.like_le:∀(x y:AV),Zc x (x.like y)
 | .sl es hv,y=>by
  cases y with
  | sl es' hv'=>cases hv'<;>simp only [AV.like]<;>first | exact Zc.forget es hv | exact Zc.refl _
  | _=>simp only [AV.like];exact Zc.refl _
 | .agg ls,y=>by
  cases y with
  | agg ms=>simp only [AV.like];exact Zc.agg (H4 ls ms)
  | _=>simp only [AV.like];exact Zc.refl _
 | .rp ls,y=>by
  cases y with
  | rp ms=>simp only [AV.like];exact Zc.rp (H4 ls ms)
  | _=>simp only [AV.like];exact Zc.refl _
 | .tup ls,y=>by
  cases y with
  | tup ms=>simp only [AV.like];exact Zc.tup (H4 ls ms)
  | _=>simp only [AV.like];exact Zc.refl _
 | .any,y=>by simp only [AV.like];exact Zc.refl _
 | .val v,y=>by
  cases y with
  | any=>simp only [AV.like];exact Zc.any _
  | _=>simp only [AV.like];exact Zc.refl _
theorem H4:∀(xs ys:List AV),Ve xs (BJ xs ys)
 | [],ys=>by simp only [BJ];exact .nil
 | x::xs,ys=>by
  cases ys with
  | nil=>simp only [BJ];exact Ve.refl _
  | cons y ys=>simp only [BJ];exact .cons (AV.like_le x y) (H4 xs ys)
end
theorem L8 {F F':Fr} (h:F'.map (fun p=>(F.get p.1).like p.2)=F'.map (·.2)):F.Le F':=by
 induction F' with
 | nil=>exact P9 F
 | cons p r ih=>
  simp only [VZ,List.cons.injEq] at h
  refine Dk rfl ?_ (ih h.2)
  have:=AV.like_le (F.get p.1) p.2
  rwa [h.1] at this
structure TU (F:Fr) (h:List Res) (F':Fr) (h':List Res):Prop where
 fr:F.Le F'
 res:∃d,h.Perm (h'++d)
theorem Yx.weak {w:World} {G:Yd} {h':List Res} (hh:Yx w G h) (hw:∃d,h.Perm (h'++d)):Yx w G h':=by
 obtain ⟨d,hp⟩:=hw
 exact (hh.perm hp).left
theorem YZ.weak_left {w w':World} {G G':Yd} {h' k:List Res} (hw:∃d,h.Perm (h'++d)) (e:YZ w G h' w' G' k):YZ w G h w' G' k:=by
 obtain ⟨d,hp⟩:=hw
 have hs:∀b o,Vh h' b o->Vh h b o:=fun b o hf=>(BD hp).2 (Ap.2 (.inl hf))
 exact ⟨e.os,e.tape,e.output,e.size,e.sub,fun b hb=>(e.same b hb).mono fun _ ho=>hs _ _ ho,fun b o hb hg=>(e.newG b o hb hg).imp id (hs b o),fun b o hb hf=>hs b o (e.newfp b o hb hf)⟩
theorem Cd {F':Fr} {h':List Res} (hw:TU F h F' h') (ha:Yw P n c A F' h'):Yw P n c A F h:=by
 intro w G a hF hh
 refine wp_mono (ha w G a (hF.le hw.fr) (hh.weak hw.res)) ?_
 intro e a' w' ⟨F2,h2,G2,b1,b2,b3,b4⟩
 exact ⟨F2,h2,G2,b1,b2,b3,b4.weak_left hw.res⟩
theorem Hp {F':Fr} {h':List Res} (hw:TU F h F' h') (ha:KW P n ops B l F' h'):KW P n ops B l F h:=by
 intro Q w G a hF hh hk
 exact ha Q w G a (hF.le hw.fr) (hh.weak hw.res) fun F2 h2 G2 a2 w2 b1 b2 b3 b4=>hk F2 h2 G2 a2 w2 b1 b2 b3 (b4.weak_left hw.res)
theorem Ni {A':V8} (hA:∀e F h,A e F h->A' e F h) (ha:Yw P n c A F h):Yw P n c A' F h:=by
 intro w G a hF hh
 exact wp_mono (ha w G a hF hh) fun e a' w' hc=>hc.mono hA
@[reducible] def BZ (P:Program) (n:Nat) (y:Code) (A:V8):V8:=fun e F h=>
 match e with
 | .normal=>Yw P n y A F h
 | e=>A e F h
@[reducible] def FK (id:Nat) (A:V8):V8:=fun e F h=>
 match e with
 | .exit i=>match Nat.beq i id with
  | true=>A .normal F h
  | false=>A (.exit i) F h
 | e=>A e F h
@[reducible] def LT (Inv:Nat->Fr->List Res->Prop) (m:Nat) (A:V8):V8:=fun e F h=>
 match e with
 | .normal=>∃m' F' h',m'<m/\Inv m' F' h'/\TU F h F' h'
 | e=>A e F h
theorem HZ (hk:Xo c=3) (ha:Yw P n (YN c) (BZ P n (Un c) A) F h):Yw P n c A F h:=by
 rw [Z59 hk]
 intro w G a hF hh
 refine wp_seq (wp_mono (ha w G a hF hh) ?_)
 intro e a' w' ⟨F',h',G',h1,h2,h3,h4⟩
 cases e with
 | normal=>exact wp_mono (h1 w' G' a' h2 h3) fun e a2 w2 hc=>hc.trans h4
 | exit id=>exact ⟨F',h',G',h1,h2,h3,h4⟩
 | goto l=>exact ⟨F',h',G',h1,h2,h3,h4⟩
 | ret=>exact ⟨F',h',G',h1,h2,h3,h4⟩
 | panic ch=>exact ⟨F',h',G',h1,h2,h3,h4⟩
 | outgrown=>exact ⟨F',h',G',h1,h2,h3,h4⟩
theorem Nj (hk:Xo c=1) (hs:KW P n (XQ c) (A .normal) (XQ c).toList F h):Yw P n c A F h:=by
 rw [Z57 hk]
 intro w G a hF hh
 exact wp_region_list (hs _ w G a hF hh fun F' h' G' a' w' b1 b2 b3 b4=>⟨F',h',G',b1,b2,b3,b4⟩)
theorem Z3e (hk:Xo c=3) (hk1:Xo (YN c)=1) (hs:KW P n (XQ (YN c)) (fun F h=>Yw P n (Un c) A F h) (XQ (YN c)).toList F h):Yw P n c A F h:=
 HZ hk (Nj hk1 hs)
theorem Z3j (hk:Xo c=0) (h0:A .normal F h):Yw P n c A F h:=by
 rw [Z56 hk]
 intro w G a hF hh
 exact wp_skip ⟨F,h,G,h0,hF,hh,YZ.refl _ _ _⟩
theorem Z3c (id:Nat) (hk:Xo c=7) (hi:J2 c=id) (h0:A (.exit id) F h):Yw P n c A F h:=by
 subst hi
 rw [Z5d hk]
 intro w G a hF hh
 exact wp_exit ⟨F,h,G,h0,hF,hh,YZ.refl _ _ _⟩
theorem Z3g (hk:Xo c=8) (h0:A .ret F h):Yw P n c A F h:=by
 rw [Z5e hk]
 intro w G a hF hh
 exact wp_ret ⟨F,h,G,h0,hF,hh,YZ.refl _ _ _⟩
theorem HY {b:Bool} {p:Prop} (hk:Xo c=4) (hc:F.ev (AL c)=.val (.bool b)) (hp:b=true↔p) (h1:p->Yw P n (YN c) A F h) (h2:¬p->Yw P n (Un c) A F h) :
  Yw P n c A F h:=by
 rw [Z5a hk]
 intro w G a hF hh
 have hv:=hF.ev (AL c)
 rw [hc] at hv
 exact wp_cond_split hv.val_inv (fun e=>h1 (hp.1 e) w G a hF hh) fun e=>h2 (fun q=>by have:=hp.2 q;rw [e] at this;cases this) w G a hF hh
theorem Z39 (id:Nat) (hk:Xo c=5) (hi:J2 c=id) (ha:Yw P n (YN c) (FK id A) F h):Yw P n c A F h:=by
 subst hi
 rw [Z5b hk]
 intro w G a hF hh
 refine wp_block (wp_mono (ha w G a hF hh) ?_)
 intro e a' w' ⟨F',h',G',h1,h2,h3,h4⟩
 cases e with
 | normal=>exact ⟨F',h',G',h1,h2,h3,h4⟩
 | exit id=>
  simp only [Exit.inBlock]
  by_cases hid:id=J2 c
  ·subst hid
   rw [Zd rfl]
   have hb:Nat.beq (J2 c) (J2 c)=true:=Nat.beq_refl _
   simp only [FK,hb] at h1
   exact ⟨F',h',G',h1,h2,h3,h4⟩
  ·rw [Z6 hid]
   have hb:Nat.beq id (J2 c)=false:=by
    cases hq:Nat.beq id (J2 c)
    ·rfl
    ·exact absurd (UX hq) hid
   simp only [FK,hb] at h1
   exact ⟨F',h',G',h1,h2,h3,h4⟩
 | goto l=>exact ⟨F',h',G',h1,h2,h3,h4⟩
 | ret=>exact ⟨F',h',G',h1,h2,h3,h4⟩
 | panic ch=>exact ⟨F',h',G',h1,h2,h3,h4⟩
 | outgrown=>exact ⟨F',h',G',h1,h2,h3,h4⟩
theorem EH (p:Nat->Prop) (h:∃n,p n):∃n,p n/\∀m,p m->n<=m:=by
 obtain ⟨k,hk⟩:=h
 induction k using Nat.strongRecOn with
 | _ k ih=>
  by_cases hx:∃m,m<k/\p m
  ·obtain ⟨m,h1,h2⟩:=hx
   exact ih m h1 h2
  ·refine ⟨k,hk,fun m hm=>?_⟩
   rcases JS m k with h|h
   ·exact absurd ⟨m,h,hm⟩ hx
   ·exact h
open Classical in
theorem Z3d (Inv:Nat->Fr->List Res->Prop) {m0:Nat} {F0:Fr} {h0:List Res} (hk:Xo c=6) (hi:Inv m0 F0 h0) (hw:TU F h F0 h0)
  (hr:∀m F h,Inv m F h->Yw P n (YN c) (LT Inv m A) F h):Yw P n c A F h:=by
 refine Cd hw ?_
 rw [Z5c hk]
 intro w G a hF hh
 let J:Nat->Act->World->Prop:=fun m a' w'=>∃F' h' G',Inv m F' h'/\FR w' G' n F' a'/\Yx w' G' h'/\YZ w G h0 w' G' h'
 let mu:Act->World->Nat:=fun a' w'=>if hx:∃m,J m a' w' then Classical.choose (EH (fun m=>J m a' w') hx) else 0
 refine wp_loop (fun a' w'=>∃m,J m a' w') mu ⟨m0,F0,h0,G,hi,hF,hh,YZ.refl _ _ _⟩ ?_
 intro a1 w1 hx
 have hsp:=Classical.choose_spec (EH (fun m=>J m a1 w1) hx)
 have hmu:mu a1 w1=Classical.choose (EH (fun m=>J m a1 w1) hx):=dif_pos hx
 rw [<-hmu] at hsp
 obtain ⟨⟨F1,h1,G1,i1,i2,i3,i4⟩,_⟩:=hsp
 refine wp_mono (hr _ F1 h1 i1 w1 G1 a1 i2 i3) ?_
 intro e a' w' ⟨F',h',G',k1,k2,k3,k4⟩
 have keep:∀{e},A e F' h'->AE n A w G h0 e a' w':=fun hA=>⟨F',h',G',hA,k2,k3,i4.trans k4⟩
 cases e with
 | normal=>
  obtain ⟨m',F2,h2,j1,j2,j3⟩:=k1
  have hj:J m' a' w':=by
   refine ⟨F2,h2,G',j2,k2.le j3.fr,k3.weak j3.res,i4.trans ?_⟩
   obtain ⟨d,hp⟩:=j3.res
   have hsub:∀b o,Vh h2 b o->Vh h' b o:=fun b o hf=>(BD hp).2 (Ap.2 (.inl hf))
   exact ⟨k4.os,k4.tape,k4.output,k4.size,k4.sub,k4.same,k4.newG,fun b o hb hf=>k4.newfp b o hb (hsub b o hf)⟩
  have hx':∃m,J m a' w':=⟨m',hj⟩
  refine ⟨hx',?_⟩
  show mu a' w'<mu a1 w1
  have hsp':=Classical.choose_spec (EH (fun m=>J m a' w') hx')
  rw [show mu a' w'=Classical.choose (EH (fun m=>J m a' w') hx') from dif_pos hx']
  exact Nat.lt_of_le_of_lt (hsp'.2 m' hj) j1
 | exit id=>exact keep k1
 | goto l=>exact keep k1
 | ret=>exact keep k1
 | panic ch=>exact keep k1
 | outgrown=>exact keep k1
end
def Ce:Nat->List AV->Fr
 | _,[]=>[]
 | i,x::xs=>(i,x)::Ce (i+1) xs
theorem Nr {w:World} {G:Yd}:∀{xs:List AV} {vs:List Value} (i t:Nat) (tl:List Value),YW w G xs vs->RV w G ((Ce i xs).get (i+t)) ((vs++tl).getD t undef)
 | _,_,i,t,tl,.nil=>.any
 | _,_,i,0,tl,.cons (x:=x) (xs:=xs) h hr=>by
  show RV w G (match Nat.beq i (i+0) with|true=>x|false=>Fr.get (Ce (i+1) xs) (i+0)) _
  have:Nat.beq i (i+0)=true:=Nat.beq_refl i
  rw [this]
  simpa using h
 | _,_,i,t+1,tl,.cons (x:=x) (xs:=xs) h hr=>by
  show RV w G (match Nat.beq i (i+(t+1)) with|true=>x|false=>Fr.get (Ce (i+1) xs) (i+(t+1))) _
  have hb:Nat.beq i (i+(t+1))=false:=by
   cases hq:Nat.beq i (i+(t+1))
   ·rfl
   ·have:=UX hq;omega
  rw [hb]
  have:=Nr (i+1) t tl hr
  rw [show i+1+t=i+(t+1) from by omega] at this
  simpa using this
def KJ (P:Program) (F:Fr) (h:List Res):List ResultVar->List Nat->Option (List AV × List (Nat × Nat))
 | [],_=>some ([],[])
 | .tmp t::r,hints=>match KJ P F h r hints with
  | some (xs,es)=>some (F.get t::xs,es)
  | none=>none
 | .cell t ty::r,hints=>match F.get t with
  | .val (.pointer (some ⟨b,o,none⟩))=>match h[hints.headD 0]? with
   | some (.obj b' ls)=>match B3 P ty (ls.drop o) with
    | some x=>match KJ P F h r hints.tail with
     | some (xs,es)=>some (x::xs,(b,b')::es)
     | none=>none
    | none=>none
   | _=>none
  | _=>none
def B9:List AV->AV
 | [x]=>x
 | xs=>.tup xs
theorem Z4d (a:Addr):asAddr (.pointer (some a))=pure a:=rfl
theorem Mo {P:Program} {w:World} {G:Yd} {n:Nat} {F:Fr} {h:List Res} {a:Act} (hF:FR w G n F a) (hh:Yx w G h) :
  ∀{rs:List ResultVar} {hints:List Nat} {xs:List AV} {es:List (Nat × Nat)},KJ P F h rs hints=some (xs,es)->(∀p∈es,p.1=p.2) ->
  ∃vs,YW w G xs vs/\(List.mapM (m:=Sem) (fun r=>match r with|.tmp t=>pure (a.tmps.getD t undef)|.cell b t=>do loadVar t (<-asAddr (a.tmps.getD b undef))) rs).run P w=.ok vs w
 | [],hints,xs,es,he,_=>by
  simp only [KJ,Wo,Prod.mk.injEq] at he
  obtain ⟨rfl,rfl⟩:=he
  exact ⟨[],.nil,by simp⟩
 | .tmp t::r,hints,xs,es,he,heq=>by
  simp only [KJ] at he
  cases hr:KJ P F h r hints with
  | none=>rw [hr] at he;cases he
  | some y=>
   obtain ⟨ys,es2⟩:=y
   rw [hr] at he
   simp only [Wo,Prod.mk.injEq] at he
   obtain ⟨rfl,rfl⟩:=he
   obtain ⟨vs,h1,h2⟩:=Mo hF hh hr heq
   refine ⟨a.tmps.getD t undef::vs,.cons (hF.get t) h1,?_⟩
   simp only [List.mapM_cons,Sem.run_bind,Sem.run_pure,Result.andThen_ok,h2]
 | .cell t ty::r,hints,xs,es,he,heq=>by
  simp only [KJ] at he
  split at he
  ·rename_i b off hg
   split at he
   ·rename_i b' ls hl
    split at he
    ·rename_i x hx
     split at he
     ·rename_i ys es2 hr
      simp only [Wo,Prod.mk.injEq] at he
      obtain ⟨rfl,rfl⟩:=he
      have hbb:b=b':=heq (b,b') (by simp)
      subst hbb
      obtain ⟨vs,h1,h2⟩:=Mo hF hh hr fun p hp=>heq p (by simp [hp])
      have hv:=hF.get t
      rw [hg] at hv
      have hv:=hv.val_inv
      obtain ⟨cs,e,k1,k2⟩:=hh.ok _ (Y4 hl)
      obtain ⟨v,j1,j2⟩:=Hn (P:=P) (b:=b) (o:=off) hx (k2.drop off)
      have j3:=j2 w fun j u hj=>by
       rw [cell_of_row w b (off+j) cs e (0,0) k1]
       simpa using hj
      refine ⟨v::vs,.cons j1 h1,?_⟩
      simp only [List.mapM_cons,Sem.run_bind,Sem.run_pure,Result.andThen_ok,hv,Z4d,j3,h2]
     ·cases he
    ·cases he
   ·cases he
  ·cases he
def Bq (P:Program) (fn:Func) (R:AV->List Res->Prop):V8:=fun e F h=>
 (e=.normal∨e=.ret)/\∃hints xs es h' r,KJ P F h fn.results.toList hints=some (xs,es)/\(∀p∈es,p.1=p.2)/\(∃d,h.Perm (h'++d))/\Zc (B9 xs) r/\R r h'
theorem Me {P:Program} {fn:Func} {R:AV->List Res->Prop} {F:Fr} {h h':List Res} {e:Exit} (he:(match e with|.normal|.ret=>true|_=>false)=true) (hints:List Nat) {xs:List AV}
  {es:List (Nat × Nat)} {r:AV} (hr:KJ P F h fn.results.toList hints=some (xs,es)) (heq:∀p∈es,p.1=p.2) (hw:∃d,h.Perm (h'++d)) (hle:Zc (B9 xs) r) (hR:R r h'):Bq P fn R e F h:=
 ⟨by cases e<;>first|exact .inl rfl|exact .inr rfl|(cases he),hints,xs,es,h',r,hr,heq,hw,hle,hR⟩
theorem Zg4 {P:Program} {fn:Func} {tmps:Array Value} {w:World} {vs:List Value}
  (h:(List.mapM (m:=Sem) (fun r=>match r with|.tmp t=>pure (tmps.getD t undef)|.cell b t=>do loadVar t (<-asAddr (tmps.getD b undef))) fn.results.toList).run P w=.ok vs w) :
  (results fn tmps).run P w=.ok (if h:vs.toArray.size=1 then vs.toArray[0] else .tuple vs.toArray) w:=by
 unfold results
 rw [Array.mapM_eq_mapM_toList]
 simp only [Sem.run_bind,Sem.run_map,Sem.run_pure]
 exact Yu (fun r=>(Result.andThen (Result.andThen r fun a w'=>Result.ok a.toArray w') fun a w'=>Result.ok (if h:a.size=1 then a[0] else Value.tuple a) w')) h
theorem enter {P:Program} {f:FuncId} {fn:Func} {xs:List AV} {h:List Res} {R:AV->List Res->Prop} {n:Nat} (hf:P.funcs[f]? = some fn) (hb:fn.body.isSome=true) (hn:fn.ntmps=n)
  (hle:Nat.ble xs.length n=true) (ha:Yw P n (FP fn) (Bq P fn R) (Ce 0 xs) h):WD P f xs h R:=by
 intro w G vs hvs hh
 have hbody:fn.body=some (FP fn):=by
  unfold FP
  cases hq:fn.body with
  | none=>simp [hq] at hb
  | some c=>rfl
 have hlen:=hvs.length
 have hle:=Vo hle
 refine calls_of_wp hf hbody ?_
 have hF:FR w G n (Ce 0 xs) { tmps:=vs.toArray++Array.replicate (fn.ntmps-vs.toArray.size) undef,defers:=[] }:=by
  refine ⟨rfl,by simp [hn,hlen];omega,fun t=>?_⟩
  have:=Nr (w:=w) (G:=G) 0 t (List.replicate (fn.ntmps-vs.toArray.size) undef) hvs
  rw [Vy] at this
  have e:(vs.toArray++Array.replicate (fn.ntmps-vs.toArray.size) undef).getD t undef=(vs++List.replicate (fn.ntmps-vs.toArray.size) undef).getD t undef:=by
   simp [Array.getElem?_append,List.getElem?_append,List.getElem?_replicate,Array.getElem?_replicate]
  rw [e]
  exact this
 refine wp_mono (ha w G _ hF hh) ?_
 intro e a w' ⟨F',h',G',hA,k1,k2,k3⟩
 obtain ⟨he,hints,ys,es,h2,r,hr,heq,hwk,hle,hR⟩:=hA
 obtain ⟨us,u1,u2⟩:=Mo k1 k2 hr heq
 have hres:=Zg4 u2
 have hval:RV w' G' (B9 ys) (if h:us.toArray.size=1 then us.toArray[0] else .tuple us.toArray):=by
  cases u1 with
  | nil=>simp [B9];exact .tup (cs:=[]) .nil
  | cons a1 a2=>
   cases a2 with
   | nil=>simpa [B9] using a1
   | cons b1 b2=>simpa [B9] using RV.tup (.cons a1 (.cons b1 b2))
 obtain ⟨d,hp⟩:=hwk
 have k2':=(k2.perm hp).left
 have k3':YZ w G h w' G' h2:=(k3.perm (K9 _) hp).sub' (List.sublist_append_left _ _)
 rcases he with rfl|rfl
 ·exact ⟨k1.defers,_,hres,_,_,h2,G',rfl,hR,hle _ _ _ hval,k2',k3'⟩
 ·exact ⟨k1.defers,_,hres,_,_,h2,G',rfl,hR,hle _ _ _ hval,k2',k3'⟩
def AR (ops:Array Oper) (j i:Nat):Bool:=
 match ops[j]? with
 | some o=>o.after.any fun e=>Region.binds .any e&&e.on==i
 | none=>false
inductive Jk (ops:Array Oper):Nat->Nat->Prop
 | one {j i} (h:AR ops j i=true):Jk ops j i
 | more {j m i} (h:AR ops j m=true) (t:Jk ops m i):Jk ops j i
def Hk (ops:Array Oper):Nat->Nat->Nat->Bool
 | 0,j,i=>AR ops j i
 | f+1,j,i=>match ops[j]? with
  | some o=>o.after.any fun e=>Region.binds .any e&&(e.on==i||(Nat.ble i e.on&&Hk ops f e.on i))
  | none=>false
def Vg (ops:Array Oper) (j i:Nat):Bool:=Hk ops 9 j i
theorem OH {ops:Array Oper} {j:Nat} {o:Oper} {e:Edge} (ho:ops[j]? = some o) (he:e∈o.after) (hb:Region.binds .any e=true):AR ops j e.on=true:=by
 unfold AR
 rw [ho]
 simp only [Array.any_eq_true',W9,Zr]
 exact ⟨e,he,hb,rfl⟩
theorem SV {ops:Array Oper}:∀{f j i:Nat},Hk ops f j i=true->Jk ops j i
 | 0,j,i,h=>.one h
 | f+1,j,i,h=>by
  rw [Hk] at h
  split at h
  ·rename_i o ho
   simp only [Array.any_eq_true',W9,Bool.or_eq_true,Zr] at h
   obtain ⟨e,he,hb,h1|⟨_,h1⟩⟩:=h
   ·exact .one (h1▸OH ho he hb)
   ·exact .more (OH ho he hb) (SV h1)
  ·cases h
theorem Z4v {ops:Array Oper} {j i:Nat} (h:Vg ops j i=true):Jk ops j i:=SV h
def AC (ops:Array Oper) (listed:Array Bool):Prop:=∀m i,listed.getD m false=true->AR ops m i=true->listed.getD i false=true
theorem AC.bef {ops:Array Oper} {listed:Array Bool} (hc:AC ops listed) {j i:Nat} (hb:Jk ops j i):listed.getD j false=true->listed.getD i false=true:=by
 induction hb with
 | one h=>exact fun hj=>hc _ _ hj h
 | more h _ ih=>exact fun hj=>ih (hc _ _ hj h)
theorem IR {ops:Array Oper} {listed:Array Bool} {j i:Nat} (hj:j∈Region.ready .any ops listed) (h:AR ops j i=true):listed.getD i false=true:=by
 obtain ⟨_,o,ho,hall⟩:=mem_ready.1 hj
 simp only [AR,ho] at h
 obtain ⟨e,he,hb⟩:=Array.any_eq_true'.1 h
 simp only [W9,Zr] at hb
 exact hb.2▸hall e he hb.1
theorem Zeg {ops:Array Oper} {listed:Array Bool} {j i:Nat} (hc:AC ops listed) (hj:j∈Region.ready .any ops listed) (hi:listed.getD i true=false):¬Jk ops j i:=by
 intro hb
 have hi':listed.getD i false=false:=by
  cases hq:listed.getD i false
  ·rfl
  ·rcases JS i listed.size with h|h
   ·simp [h] at hi hq;rw [hi] at hq;cases hq
   ·simp [Array.getElem?_eq_none h] at hi
 have hl:listed.getD i false=true:=by
  cases hb with
  | one h=>exact IR hj h
  | more h t=>exact hc.bef t (IR hj h)
 rw [hi'] at hl
 cases hl
theorem AC.add {ops:Array Oper} {listed:Array Bool} {j:Nat} (hc:AC ops listed) (hj:j∈Region.ready .any ops listed):AC ops (listed.setIfInBounds j true):=by
 intro m i hm he
 by_cases hmj:m=j
 ·subst hmj
  exact getD_set_true (IR hj he)
 ·rw [getD_set_ne false (Ne.symm hmj)] at hm
  exact getD_set_true (hc m i hm he)
abbrev DZ:=Nat × (World->Prop)->Prop
def CV (P:Program) (ops:Array Oper) (Q:Exit->Act->World->Prop):Nat->DZ->Array Bool->Act->World->Prop
 | 0,_,listed,a,w=>Region.ready .any ops listed=[]/\Q .normal a w
 | fuel+1,T,listed,a,w=>
  (Region.ready .any ops listed=[]->Q .normal a w) /\
  ∀i∈Region.ready .any ops listed,wpOp P ops Q i (fun a' w'=>(∀p,T p->¬Jk ops i p.1->p.2 w') /\
   CV P ops Q fuel (fun p=>T p/\¬Jk ops i p.1) (listed.setIfInBounds i true) a' w') a w
section
variable {P:Program} {ops:Array Oper} {Q:Exit->Act->World->Prop} {S:World->Prop}
theorem Z30:∀(fuel:Nat) (T:DZ) (listed:Array Bool) (a:Act) (w:World),CV P ops Q fuel T listed a w->wpAny P .any ops Q fuel listed a w
 | 0,_,_,_,_,h=>h
 | fuel+1,_,_,_,_,h=>⟨h.1,fun i hi=>wpOp_mono (fun _ _ h'=>Z30 fuel _ _ _ _ h'.2) (h.2 i hi)⟩
theorem N4:∀(fuel:Nat) {T T':DZ} (listed:Array Bool) (a:Act) (w:World),(∀p,T' p->T p)->CV P ops Q fuel T listed a w->CV P ops Q fuel T' listed a w
 | 0,_,_,_,_,_,_,h=>h
 | fuel+1,_,_,_,_,_,hT,h=>⟨h.1,fun i hi=>wpOp_mono (fun _ _ h'=>⟨fun p hp=>h'.1 p (hT p hp),N4 fuel _ _ _ (fun p hp=>⟨hT p hp.1,hp.2⟩) h'.2⟩) (h.2 i hi)⟩
theorem Zlb {i:Nat} {oi:Oper} {v:Value} (hi:ops[i]? = some oi) (hsel:∀(j:Nat) (o:Oper) cs b,ops[j]? = some o->o.op≠.select cs b)
  (hQ:∀c a w,¬Q (.panic c) a w) :
  ∀(fuel:Nat) (T:DZ) (listed:Array Bool) (a:Act) (w:World),AC ops listed ->
   (∀j oj,ops[j]? = some oj->j≠i->listed.getD j true=false->(∀e∈oj.after,Region.binds .any e=true->e.on≠i)->oi.apart ops oj=true) ->
   i∈Region.ready .any ops listed->YieldsIf P ops S oi v a->S w->(∀p,T p->p.2 w) ->
   CV P ops Q fuel (fun p=>T p∨p=(i,S)) (listed.setIfInBounds i true) (a.put oi.dst v) w->CV P ops Q (fuel+1) T listed a w:=by
 intro fuel
 have hQ':∀c a w,Q (.panic c) (a.put oi.dst v) w->Q (.panic c) a w:=fun c a w h=>(hQ c _ w h).elim
 induction fuel with
 | zero=>
  intro T listed a w _ hfree hr hy hS hT H
  refine ⟨fun h=>(by rw [h] at hr;cases hr),fun j hj=>?_⟩
  by_cases hji:j=i
  ·subst hji
   exact hy.wpOp hi hS ⟨fun p hp _=>hT p hp,H⟩
  ·have:=ready_mono hj hji
   rw [H.1] at this
   cases this
 | succ fuel ih=>
  intro T listed a w hcl hfree hr hy hS hT H
  refine ⟨fun h=>(by rw [h] at hr;cases hr),fun j hj=>?_⟩
  by_cases hji:j=i
  ·subst hji
   exact hy.wpOp hi hS ⟨fun p hp _=>hT p hp,N4 (fuel+1) _ _ _ (fun p hp=>.inl hp.1) H⟩
  ·have h1:=H.2 j (ready_mono hj hji)
   obtain ⟨hjun,oj,hoj,hall⟩:=mem_ready.1 hj
   have hiun:=(mem_ready.1 hr).1
   have hnb:¬Jk ops j i:=Zeg hcl hj hiun
   have hnot:∀e∈oj.after,Region.binds .any e=true->e.on≠i:=fun e he hb heq=>
    hnb (.one (by simp only [AR,hoj];exact Array.any_eq_true'.2 ⟨e,he,by simp [hb,heq]⟩))
   have h2:=wpOp_putIf hoj (hfree j oj hoj hji hjun hnot) (fun cs b=>hsel i oi cs b hi) (fun cs b=>hsel j oj cs b hoj) hQ' hy h1
   have hfree':∀k ok,ops[k]? = some ok->k≠i->(listed.setIfInBounds j true).getD k true=false ->
     (∀e∈ok.after,Region.binds .any e=true->e.on≠i)->oi.apart ops ok=true:=fun k ok hk hki hun Ez=>by
    refine hfree k ok hk hki ?_ Ez
    by_cases hjk:j=k
    ·subst hjk;exact hjun
    ·rw [getD_set_ne true hjk] at hun;exact hun
   refine wpOp_mono (fun a' w' h3=>?_) h2
   obtain ⟨hy',hT',hrest⟩:=h3
   have hTp:∀p,T p/\¬Jk ops j p.1->p.2 w':=fun p hp=>hT' p (.inl hp.1) hp.2
   refine ⟨fun p hp hb=>hTp p ⟨hp,hb⟩,ih _ (listed.setIfInBounds j true) a' w' (hcl.add hj) hfree' (ready_mono hr (Ne.symm hji)) hy' (hT' (i,S) (.inr rfl) hnb) hTp ?_⟩
   rw [Array.setIfInBounds_comm _ _ hji]
   refine N4 fuel _ _ _ (fun p hp=>?_) hrest
   rcases hp with hp|rfl
   ·exact ⟨.inl hp.1,hp.2⟩
   ·exact ⟨.inr rfl,hnb⟩
end
def V2 (ops:Array Oper) (done:List Nat):Array Bool:=done.foldl (fun l i=>l.setIfInBounds i true) (Array.replicate ops.size false)
theorem H5 (ops:Array Oper) (done:List Nat) (i:Nat):V2 ops (done++[i])=(V2 ops done).setIfInBounds i true:=by simp [V2]
theorem Z5m (ops:Array Oper):AC ops (V2 ops []):=by
 intro m i hm _
 simp only [V2,List.foldl_nil] at hm
 by_cases h:m<ops.size
 ·simp [h] at hm
 ·simp [h] at hm
def YY (P:Program) (n:Nat) (ops:Array Oper) (B:Fr->List Res->Prop) (T:List (Nat × List Nat)) (fuel:Nat) (done:List Nat) (F:Fr) (h:List Res):Prop:=
 ∀(Q:Exit->Act->World->Prop) w G a (SL:DZ),FR w G n F a->Yx w G h->(∀c a w,¬Q (.panic c) a w)->AC ops (V2 ops done) ->
  (∀p,SL p->∃t∈T,t.1=p.1/\∀w',(∀b o,G b o->w'.cell? ⟨b,o,none⟩=w.cell? ⟨b,o,none⟩)->(∀b∈t.2,w'.heap[b]? = w.heap[b]?)->p.2 w') ->
  (∀F' h' G' a' w',B F' h'->FR w' G' n F' a'->Yx w' G' h'->YZ w G h w' G' h'->Q .normal a' w')->CV P ops Q fuel SL (V2 ops done) a w
section
variable {P:Program} {n:Nat} {ops:Array Oper} {B:Fr->List Res->Prop} {T:List (Nat × List Nat)} {fuel:Nat} {done:List Nat} {F:Fr} {h:List Res}
theorem Z6l (hr:Region.ready .any ops (V2 ops done)=[]) (hB:B F h):YY P n ops B T fuel done F h:=by
 intro Q w G a SL hF hh _ _ _ hk
 have hq:=hk F h G a w hB hF hh (YZ.refl _ _ _)
 cases fuel with
 | zero=>exact ⟨hr,hq⟩
 | succ f=>exact ⟨fun _=>hq,by rw [hr];simp⟩
def KL (P:Program) (n:Nat) (ops:Array Oper) (h:List Res):List Nat->List Nat->Fr->List Nat->Option (Fr × List (Nat × List (Nat × Nat)))
 | [],_,F,_=>some (F,[])
 | i::is,done,F,hints=>
  match ops[i]? with
  | none=>none
  | some o=>
   match VO n o&&(AX n ops o&&(Region.free .any ops (V2 ops done) i&&(Region.ready .any ops (V2 ops done)).contains i)) with
   | false=>none
   | true=>match Jv ops F o with
    | none=>none
    | some false=>match KL P n ops h is (done++[i]) (F.put o.dst (.tup [])) hints with
     | none=>none
     | some (F',es)=>some (F',(i,[])::es)
    | some true=>match QN P o F h (hints.headD 0) with
     | none=>none
     | some (x,eqs)=>match KL P n ops h is (done++[i]) (F.put o.dst x) (match eqs with | []=>hints | _=>hints.tail) with
      | none=>none
      | some (F',es)=>some (F',(i,eqs)::es)
def EN (es:List (Nat × List (Nat × Nat))):List (Nat × List Nat):=es.map fun e=>(e.1,e.2.map (·.1))
theorem Iq {i:Nat} {o:Oper} {ks:List Nat} {x:AV} (hs:Region.noSelect ops=true) (hi:ops[i]? = some o) (hd:VO n o=true) (hgl:AX n ops o=true)
  (hf:Region.free .any ops (V2 ops done) i=true) (hr:(Region.ready .any ops (V2 ops done)).contains i=true)
  (hx:(Jv ops F o=some false/\x=.tup []/\ks=[])∨(Jv ops F o=some true/\XB P o F h ks x))
  (H:YY P n ops B ((i,ks)::T) fuel (done++[i]) (F.put o.dst x) h):YY P n ops B T (fuel+1) done F h:=by
 intro Q w G a SL hF hh hQ hcl hcov hk
 have hready:i∈Region.ready .any ops (V2 ops done):=by simpa using hr
 let S:World->Prop:=fun w'=>(∀b o,G b o->w'.cell? ⟨b,o,none⟩=w.cell? ⟨b,o,none⟩)/\(∀b∈ks,w'.heap[b]? = w.heap[b]?)
 have hSL:∀p,SL p->p.2 w:=fun p hp=>by
  obtain ⟨t,_,_,h3⟩:=hcov p hp
  exact h3 w (fun _ _ _=>rfl) fun _ _=>rfl
 have key:∃v,RV w G x v/\YieldsIf P ops S o v a:=by
  rcases hx with ⟨hg,rfl,rfl⟩|⟨hg,hst⟩
  ·exact ⟨undef,.tup (cs:=[]) .nil,.inr ⟨Dm hF hgl hg,rfl⟩⟩
  ·obtain ⟨v,h1,h2⟩:=hst n w G a hF hh
   exact ⟨v,h1,.inl ⟨Dm hF hgl hg,fun w' hw'=>h2 w' hw'.1 hw'.2⟩⟩
 obtain ⟨v,hv,hy⟩:=key
 refine Zlb hi (Region.noSelect_spec hs) hQ fuel SL _ a w hcl (Region.free_spec hi hf) hready hy ⟨fun _ _ _=>rfl,fun _ _=>rfl⟩ hSL ?_
 rw [<-H5]
 refine H Q w G _ _ (hF.put (Tm hd) hv) hh hQ (by rw [H5];exact hcl.add hready) ?_ hk
 rintro p (hp|rfl)
 ·obtain ⟨t,h1,h2,h3⟩:=hcov p hp
  exact ⟨t,Xp _ h1,h2,h3⟩
 ·exact ⟨(i,ks),Xd ..,rfl,fun w' h1 h2=>⟨h1,h2⟩⟩
theorem FX:∀(is:List Nat) {T:List (Nat × List Nat)} {done:List Nat} {F F':Fr} {hints:List Nat} {es:List (Nat × List (Nat × Nat))} {fuel':Nat},Region.noSelect ops=true ->
  KL P n ops h is done F hints=some (F',es)->(∀e∈es,∀p∈e.2,p.1=p.2)->fuel'=fuel+is.length ->
  YY P n ops B ((EN es).reverse++T) fuel (done++is) F' h->YY P n ops B T fuel' done F h
 | [],T,done,F,F',hints,es,fuel',_,he,_,hf,H=>by
  simp only [KL,Wo,Prod.mk.injEq] at he
  obtain ⟨rfl,rfl⟩:=he
  subst hf
  simpa [EN] using H
 | i::is,T,done,F,F',hints,es,fuel',hs,he,heq,hf,H=>by
  simp only [KL] at he
  cases ho:ops[i]? with
  | none=>rw [ho] at he;cases he
  | some o=>
   rw [ho] at he
   simp only at he
   cases hc:VO n o&&(AX n ops o&&(Region.free .any ops (V2 ops done) i&&(Region.ready .any ops (V2 ops done)).contains i)) with
   | false=>rw [hc] at he;cases he
   | true=>
    rw [hc] at he
    simp only [W9] at hc
    obtain ⟨c1,c2,c3,c4⟩:=hc
    simp only at he
    have hfuel:fuel'=fuel+is.length+1:=by simp at hf;omega
    subst hfuel
    cases hg:Jv ops F o with
    | none=>rw [hg] at he;cases he
    | some b=>
     rw [hg] at he
     cases b with
     | false=>
      simp only at he
      cases hr:KL P n ops h is (done++[i]) (F.put o.dst (.tup [])) hints with
      | none=>rw [hr] at he;cases he
      | some y=>
       obtain ⟨F2,es2⟩:=y
       rw [hr] at he
       simp only [Wo,Prod.mk.injEq] at he
       obtain ⟨rfl,rfl⟩:=he
       refine Iq hs ho c1 c2 c3 c4 (.inl ⟨hg,rfl,rfl⟩) (FX is hs hr (fun e he=>heq e (Xp _ he)) rfl ?_)
       simpa [EN] using H
     | true=>
      simp only at he
      cases hev:QN P o F h (hints.headD 0) with
      | none=>rw [hev] at he;cases he
      | some xe=>
       obtain ⟨x,eqs⟩:=xe
       rw [hev] at he
       simp only at he
       generalize (match eqs with|[]=>hints|_=>hints.tail)=hints' at he
       cases hr:KL P n ops h is (done++[i]) (F.put o.dst x) hints' with
       | none=>rw [hr] at he;cases he
       | some y=>
        obtain ⟨F2,es2⟩:=y
        rw [hr] at he
        simp only [Wo,Prod.mk.injEq] at he
        obtain ⟨rfl,rfl⟩:=he
        have hst:=Dj hev (heq (i,eqs) (Xd ..))
        refine Iq hs ho c1 c2 c3 c4 (.inr ⟨hg,hst⟩) (FX is hs hr (fun e he=>heq e (Xp _ he)) rfl ?_)
        simpa [EN] using H
def WT:List Res->List Nat
 | []=>[]
 | .obj b _::r=>b::WT r
 | .row (.slice (some a) _ _) _ _::r=>a.block::WT r
 | _::r=>WT r
theorem Sc {b:Nat}:∀{h:List Res},b∈WT h->∃r∈h,∀o,r.fp b o
 | [],hb=>by simp [WT] at hb
 | x::r,hb=>by
  have up:b∈WT r->∃q∈x::r,∀o,q.fp b o:=fun hb=>by obtain ⟨l,hl,hf⟩:=Sc (h:=r) hb;exact ⟨l,Xp _ hl,hf⟩
  unfold WT at hb
  split at hb
  ·rename_i he;cases he
  ·rename_i he
   cases he
   rcases YH.1 hb with rfl|hb
   ·exact ⟨_,Xd ..,fun _=>rfl⟩
   ·exact up hb
  ·rename_i he
   cases he
   rcases YH.1 hb with rfl|hb
   ·exact ⟨_,Xd ..,fun _=>rfl⟩
   ·exact up hb
  ·rename_i he
   cases he
   exact up hb
def VM (P:Program) (n:Nat) (ops:Array Oper) (B:Fr->List Res->Prop) (T:List (Nat × List Nat)) (fuel:Nat) (done:List Nat) (F:Fr) (h:List Res) (i:Nat):Prop:=
 ∃o h1 h2,ops[i]? = some o/\Jv ops F o=some true/\AX n ops o=true/\h.Perm (h1++h2) /\
  (∀t∈T,Vg ops i t.1=true∨∀b∈t.2,b∈WT h2) /\
  WO P n o F h1 fun F' h1'=>YY P n ops B (T.filter fun t=>!Vg ops i t.1) fuel (done++[i]) F' (h1'++h2)
theorem Oj {is:List Nat} (hr:Region.ready .any ops (V2 ops done)=is) (hne:is.isEmpty=false) (H:∀i∈is,VM P n ops B T fuel done F h i):YY P n ops B T (fuel+1) done F h:=by
 intro Q w G a SL hF hh hQ hcl hcov hk
 refine ⟨fun h0=>(by rw [hr] at h0;subst h0;simp at hne),fun i hi=>?_⟩
 obtain ⟨o,h1,h2,ho,hg,hgl,hp,hT,hop⟩:=H i (hr▸hi)
 have hh':=hh.perm hp
 have hw:=Dm hF hgl hg
 unfold wpOp
 simp only [ho,hw,if_true]
 refine .inl (Oper.wp_mono ?_ (hop Q w G a hF hh'.left))
 intro a' w' ⟨F',h1',G',b1,b2,b3,b4⟩
 obtain ⟨j1,j2⟩:=hh'.frame b4 b3
 have hA:=b4.agree hh'.left
 have hsame:∀b∈WT h2,w'.heap[b]? = w.heap[b]?:=fun b hb=>by
  obtain ⟨r,hl,hr⟩:=Sc hb
  exact (b4.same b ((hh'.ok r (Xg.2 (.inr hl))).lt b 0 (hr 0))).eq fun o hf=>hh'.cross hf ⟨_,hl,hr o⟩
 have hcov':∀p,SL p/\¬Jk ops i p.1->∃t∈T.filter fun t=>!Vg ops i t.1,t.1=p.1 /\
   ∀w'',(∀b o,G' b o->w''.cell? ⟨b,o,none⟩=w'.cell? ⟨b,o,none⟩)->(∀b∈t.2,w''.heap[b]? = w'.heap[b]?)->p.2 w'':=by
  rintro p ⟨hp,hb⟩
  obtain ⟨t,t1,t2,t3⟩:=hcov p hp
  have hbb:Vg ops i t.1=false:=by
   cases hq:Vg ops i t.1
   ·rfl
   ·exact absurd (t2▸Z4v hq) hb
  refine ⟨t,List.mem_filter.2 ⟨t1,by simp [hbb]⟩,t2,fun w'' c1 c2=>t3 w'' (fun b o hg=>(c1 b o (hA.sub b o hg)).trans (hA.cell b o hg)) fun b hb'=>?_⟩
  rcases hT t t1 with h|h
  ·rw [hbb] at h;cases h
  ·exact (c2 b hb').trans (hsame b (h b hb'))
 refine ⟨fun p hp hb=>?_,?_⟩
 ·obtain ⟨t,_,_,t3⟩:=hcov' p ⟨hp,hb⟩
  exact t3 w' (fun _ _ _=>rfl) fun _ _=>rfl
 ·rw [<-H5]
  exact b1 Q w' G' a' _ b2 j1 hQ (by rw [H5];exact hcl.add hi) hcov' fun F2 h2' G2 a2 w2 c1 c2 c3 c4=>hk F2 h2' G2 a2 w2 c1 c2 c3 ((j2.perm hp.symm (K9 _)).trans c4)
theorem Z6o {i:Nat} (hr:Region.ready .any ops (V2 ops done)=[i]) (H:VM P n ops B T fuel done F h i):YY P n ops B T (fuel+1) done F h:=
 Oj hr rfl fun j hj=>by rw [XH.1 hj];exact H
theorem FZ {F':Fr} (hw:F.Le F') (H:YY P n ops B T fuel done F' h):YY P n ops B T fuel done F h:=by
 intro Q w G a SL hF hh hQ hcl hcov hk
 exact H Q w G a SL (hF.le hw) hh hQ hcl hcov hk
end
theorem Nk {P:Program} {n:Nat} {c:Code} {A:V8} {F:Fr} {h:List Res} (hk:Xo c=2) (hm:P.follows .mixedOrders=true) {k:Nat} (Xv:(XQ c).size=k)
  (hs:YY P n (XQ c) (A .normal) [] k [] F h):Yw P n c A F h:=by
 rw [Z58 hk]
 intro w G a hF hh
 subst Xv
 let Q:Exit->Act->World->Prop:=fun e a' w'=>match e with
  | .normal=>AE n A w G h .normal a' w'
  | _=>False
 have hx:=hs Q w.drew G a (fun _=>False) (hF.mono (Bu w G)) hh.drew (fun _ _ _ hq=>hq) (Z5m _) (fun p hp=>hp.elim)
  fun F' h' G' a' w' b1 b2 b3 b4=>⟨F',h',G',b1,b2,b3,(YZ.drew w G h).trans b4⟩
 refine wp_mono (wp_region_any (Q:=Q) hm (Z30 _ _ _ _ _ hx)) ?_
 intro e a' w' hq
 cases e with
 | normal=>exact hq
 | _=>exact hq.elim
theorem Z3f {P:Program} {n:Nat} {c:Code} {A:V8} {F:Fr} {h:List Res} (hk:Xo c=3) (hk2:Xo (YN c)=2) (hm:P.follows .mixedOrders=true) {k:Nat}
  (Xv:(XQ (YN c)).size=k) (hs:YY P n (XQ (YN c)) (fun F h=>Yw P n (Un c) A F h) [] k [] F h):Yw P n c A F h:=
 HZ hk (Nk hk2 hm Xv hs)
abbrev AV.i (n:Int):AV:=.val (.int .i64 n)
abbrev AV.b (b:Bool):AV:=.val (.bool b)
abbrev AV.p (b:Nat) (o:Nat):AV:=.val (.pointer (some ⟨b,o,none⟩))
abbrev AV.ms (b off len cap:Nat):AV:=.val (.slice (some ⟨b,off,none⟩) len cap)
def ZD (ops:Array Oper) (k:Nat):Oper:=ops.toList.getD k default
def Xi (n:Nat) (ops:Array Oper) (F:Fr) (k:Nat):Bool:=
 Nat.blt k ops.size&&(VO n (ZD ops k)&&(AX n ops (ZD ops k)&&(match Jv ops F (ZD ops k) with|some true=>true|_=>false)))
abbrev SI (P:Program) (n:Nat) (ops:Array Oper) (B:Fr->List Res->Prop) (k:Nat) (F:Fr) (h:List Res):Prop:=KW P n ops B (ops.toList.drop k) F h
theorem Z72 {ops:Array Oper} {k:Nat} (h:k<ops.size):ops.toList.drop k=ZD ops k::ops.toList.drop (k+1):=by
 have this:k<ops.toList.length:=by simpa using h
 rw [Z34 this]
 simp [ZD,List.getD,h]
section
variable {P:Program} {n:Nat} {ops:Array Oper} {B:Fr->List Res->Prop} {k:Nat} {F:Fr} {h:List Res}
theorem U7 (hk:Xi n ops F k=true):k<ops.size/\VO n (ZD ops k)=true/\AX n ops (ZD ops k)=true/\Jv ops F (ZD ops k)=some true:=by
 simp only [Xi,W9] at hk
 obtain ⟨h1,h2,h3,h4⟩:=hk
 refine ⟨by simpa using h1,h2,h3,?_⟩
 split at h4
 ·assumption
 ·cases h4
theorem Qf (hk:Xi n ops F k=true) (ho:WO P n (ZD ops k) F h fun F' h'=>SI P n ops B (k+1) F' h'):SI P n ops B k F h:=by
 obtain ⟨h1,h2,h3,h4⟩:=U7 hk
 show KW P n ops B (ops.toList.drop k) F h
 rw [Z72 h1]
 exact Zgz h4 h3 ho
theorem CD {ks:List Nat} {x:AV} (hk:Xi n ops F k=true) (hs:XB P (ZD ops k) F h ks x) (H:SI P n ops B (k+1) (F.put (ZD ops k).dst x) h):SI P n ops B k F h:=
 Qf hk (hs.op (U7 hk).2.1 H)
theorem Mv:∀(m:Nat) {l:List Oper} {F:Fr} {hints:List Nat} {l':List Oper} {F':Fr} {es:List (Nat × Nat)},Kj P n ops h m l F hints=some (l',F',es)->l'=l.drop m
 | 0,l,F,hints,l',F',es,he=>by
  simp only [Kj,Wo,Prod.mk.injEq] at he
  simp [he.1]
 | m+1,[],F,hints,l',F',es,he=>by simp [Kj] at he
 | m+1,o::l,F,hints,l',F',es,he=>by
  simp only [Kj] at he
  split at he
  ·cases he
  ·split at he
   ·cases he
   ·simpa using Mv m he
   ·split at he
    ·cases he
    ·split at he
     ·cases he
     ·rename_i hr
      simp only [Wo,Prod.mk.injEq] at he
      obtain ⟨rfl,_,_⟩:=he
      simpa using Mv m hr
theorem M8:∀{es:List (Nat × Nat)},es.map (·.1)=es.map (·.2)->∀p∈es,p.1=p.2
 | [],_,p,hp=>by simp at hp
 | e::es,h,p,hp=>by
  simp only [VZ,List.cons.injEq] at h
  rcases YH.1 hp with rfl|hp
  ·exact h.1
  ·exact M8 h.2 p hp
theorem Zb6 (x':AV) {x:AV} (hk:Xi n ops F k=true) (he:QN P (ZD ops k) F h 0=some (x,[])) (hx:Zc x x') (H:SI P n ops B (k+1) (F.put (ZD ops k).dst x') h):SI P n ops B k F h:=by
 refine CD (ks:=[]) hk ?_ H
 have hs:=Dj he (by simp)
 intro n w G a hF hh
 obtain ⟨v,h1,h2⟩:=hs n w G a hF hh
 exact ⟨v,hx _ _ _ h1,by simpa using h2⟩
theorem PH (hk:Nat.ble ops.size k=true) (hB:B F h):SI P n ops B k F h:=by
 have:ops.toList.drop k=[]:=HQ (by simpa using Vo hk)
 show KW P n ops B (ops.toList.drop k) F h
 rw [this]
 exact Zgy hB
theorem PI (H:SI P n ops B 0 F h):KW P n ops B ops.toList F h:=H
theorem Zb2 (F':Fr) (h':List Res) (H:SI P n ops (fun F h=>TU F h F' h') k F h) (hB:B F' h') (hB':∀F h,TU F h F' h'->B F' h'->B F h):SI P n ops B k F h:=by
 intro Q w G a hF hh hk
 exact H Q w G a hF hh fun F2 h2 G2 a2 w2 b1 b2 b3 b4=>hk F2 h2 G2 a2 w2 (hB' _ _ b1 hB) b2 b3 b4
theorem Zb3 {c:Code} {A:V8} (F':Fr) (h':List Res) (H:SI P n ops (fun F h=>TU F h F' h') k F h) (hB:Yw P n c A F' h'):SI P n ops (fun F h=>Yw P n c A F h) k F h:=
 Zb2 F' h' H hB fun _ _ hw ha=>Cd hw ha
theorem Zb7 {b:Bool} (t:Nat) (hF:F.get t=.val (.bool b)) (h1:b=true->SI P n ops B k ((t,.val (.bool true))::F) h)
  (h2:b=false->SI P n ops B k ((t,.val (.bool false))::F) h):SI P n ops B k F h:=by
 cases b with
 | true=>exact Hp ⟨Dk hF (Zc.refl _) (Fr.Le.refl F),[],by simp⟩ (h1 rfl)
 | false=>exact Hp ⟨Dk hF (Zc.refl _) (Fr.Le.refl F),[],by simp⟩ (h2 rfl)
theorem Y8 {b:Bool} {p:Prop} (h:b=true↔p) (hb:b=false):¬p:=fun q=>by have:=h.2 q;rw [hb] at this;cases this
theorem QQ {α:Type} {xs:List α} {j:Nat} (h:j<xs.length):∃x,xs[j]? = some x:=⟨_,Q7 h⟩
theorem YG {a b:Bool} {p q:Prop} (h1:a=true↔p) (h2:b=true↔q):(a&&b)=true↔p/\q:=by rw [W9,h1,h2]
theorem Yh {a b:Bool} {p q:Prop} (h1:a=true↔p) (h2:b=true↔q):(a||b)=true↔p∨q:=by rw [Bool.or_eq_true,h1,h2]
theorem Ym {a:Bool} {p:Prop} (h1:a=true↔p):(!a)=true↔¬p:=by rw [<-h1];cases a<;>simp
def Af (ops:Array Oper) (F:Fr) (k:Nat):Option Int:=
 match (ZD ops k).op with
 | .binOp op _ x y _=>match F.ev x,F.ev y with
  | .val (.int .i64 a),.val (.int .i64 b)=>match op with
   | .add=>some (a+b)
   | .sub=>some (a-b)
   | .mul=>some (a*b)
   | _=>none
  | _,_=>none
 | _=>none
theorem Z1w {r s:Int} (ha:Af ops F k=some s) (hs:s=r) (hb:-9223372036854775808<=r/\r<=9223372036854775807) :
  XB P (ZD ops k) F h [] (.val (.int .i64 r)):=by
 subst hs
 unfold Af at ha
 generalize hoo:ZD ops k=o at ha
 obtain ⟨dst,op,type,pos,after,guard⟩:=o
 cases op<;>simp only at ha<;>try (cases ha)
 rename_i bop xt x y yt
 split at ha
 ·rename_i a b h1 h2
  have key:∀v,El bop .i64 a b=some (.int .i64 (IntKind.i64.wrap v))->v=s->XB P { dst:=dst,op:=.binOp bop xt x y yt,type:=type,pos:=pos,after:=after,guard:=guard } F h [] (.val (.int .i64 s)):=by
   intro v hv hvs
   have he:QN P { dst:=dst,op:=.binOp bop xt x y yt,type:=type,pos:=pos,after:=after,guard:=guard } F h 0=some (.val (.int .i64 (IntKind.i64.wrap v)),[]):=by
    simp only [QN,h1,h2,F5,hv]
   have:=Dj he (by simp)
   rw [hvs,IntWalk.i64_in s hb] at this
   simpa using this
  split at ha
  ·cases ha;exact key (a+b) rfl rfl
  ·cases ha;exact key (a-b) rfl rfl
  ·cases ha;exact key (a*b) rfl rfl
  ·cases ha
 ·cases ha
theorem Zb0 (r:Int) {s:Int} (hk:Xi n ops F k=true) (ha:Af ops F k=some s) (hs:s=r) (hb:-9223372036854775808<=r/\r<=9223372036854775807)
  (H:SI P n ops B (k+1) (F.put (ZD ops k).dst (.val (.int .i64 r))) h):SI P n ops B k F h:=
 CD (ks:=[]) hk (Z1w ha hs hb) H
def UU:List Nat->List Res->Option (List Res × List Res)
 | [],l=>some ([],l)
 | i::is,l=>match l[i]? with
  | some r=>match UU is (l.eraseIdx i) with
   | some (a,b)=>some (r::a,b)
   | none=>none
  | none=>none
theorem OK:∀{l:List Res} {i:Nat} {r:Res},l[i]? = some r->l.Perm (r::l.eraseIdx i)
 | [],i,r,h=>by simp at h
 | x::l,0,r,h=>by simp at h;subst h;simp
 | x::l,i+1,r,h=>by
  have:=OK (l:=l) (i:=i) (r:=r) (by simpa using h)
  simp only [List.eraseIdx_cons_succ]
  exact (List.Perm.cons x this).trans (List.Perm.swap r x _)
theorem UK:∀{is:List Nat} {l a b:List Res},UU is l=some (a,b)->l.Perm (a++b)
 | [],l,a,b,h=>by
  simp only [UU,Wo,Prod.mk.injEq] at h
  obtain ⟨rfl,rfl⟩:=h
  simp
 | i::is,l,a,b,h=>by
  simp only [UU] at h
  split at h
  ·rename_i r hr
   split at h
   ·rename_i a' b' hp
    simp only [Wo,Prod.mk.injEq] at h
    obtain ⟨rfl,rfl⟩:=h
    exact (OK hr).trans (List.Perm.cons r (UK hp))
   ·cases h
  ·cases h
theorem Zl9 {F':Fr} {h' d:List Res} (is:List Nat) (hF:F.Le F') (hp:UU is h=some (h',d)):TU F h F' h':=⟨hF,d,UK hp⟩
def Ai (P:Program) (ops:Array Oper) (F:Fr) (k:Nat):Option (FuncId × List AV):=
 match (ZD ops k).op with
 | .call c=>match c.callee with
  | .value (.func f)=>match P.funcs[f]? with
   | some fn=>match fn.body.isSome&&!(fn.name== "runtime.NumGoroutine") with
    | true=>some (f,c.args.toList.map F.ev)
    | false=>none
   | none=>none
  | .value t=>match F.ev t with
   | .val (.func (.func f) vs caps)=>match vs.toList,P.funcs[f]? with
    | [],some fn=>match fn.body.isSome&&!(fn.name== "runtime.NumGoroutine") with
     | true=>some (f,c.args.toList.map F.ev++caps.toList.map AV.val)
     | false=>none
    | _,_=>none
   | _=>none
  | _=>none
 | _=>none
theorem M5 {K:Fr->List Res->Prop} {f:FuncId} {xs:List AV} {h1 h2:List Res} {R:AV->List Res->Prop} (hd:VO n (ZD ops k)=true) (hc:Ai P ops F k=some (f,xs))
  (hp:h.Perm (h1++h2)) (H:WD P f xs h1 R) (hK:∀r h',R r h'->K (F.put (ZD ops k).dst r) (h'++h2)):WO P n (ZD ops k) F h K:=by
 unfold Ai at hc
 generalize hoo:ZD ops k=o at hc hd hK
 obtain ⟨dst,op,type,pos,after,guard⟩:=o
 cases op<;>simp only at hc<;>try (cases hc)
 rename_i c
 obtain ⟨callee,args,tys⟩:=c
 cases callee with
 | builtin b=>cases hc
 | invoke r m=>cases hc
 | value t=>
  simp only at hc
  split at hc
  ·rename_i g hg
   cases hg
   split at hc
   ·rename_i fn hf
    split at hc
    ·rename_i hb
     simp only [W9,Bool.not_eq_true'] at hb
     simp only [Wo,Prod.mk.injEq] at hc
     obtain ⟨rfl,rfl⟩:=hc
     exact Zeq _ args tys rfl hf hb.1 hb.2 rfl hd hp H hK
    ·cases hc
   ·cases hc
  ·rename_i t' hnf ht'
   cases ht'
   split at hc
   ·rename_i g vs caps hv
    split at hc
    ·rename_i fn hvs hf
     split at hc
     ·rename_i hb
      simp only [W9,Bool.not_eq_true'] at hb
      simp only [Wo,Prod.mk.injEq] at hc
      obtain ⟨rfl,rfl⟩:=hc
      have:vs=#[]:=by rw [<-Ut (xs:=vs),hvs]
      subst this
      exact Zer t args tys rfl hv hf hb.1 hb.2 rfl hd hp H hK
     ·cases hc
    ·cases hc
   ·cases hc
  ·cases hc
theorem Zb1 (f:FuncId) (xs:List AV) (is:List Nat) {h1 h2:List Res} {R:AV->List Res->Prop} (hk:Xi n ops F k=true) (hc:Ai P ops F k=some (f,xs))
  (hp:UU is h=some (h1,h2)) (H:WD P f xs h1 R) (hK:∀r h',R r h'->SI P n ops B (k+1) (F.put (ZD ops k).dst r) (h'++h2)):SI P n ops B k F h:=
 Qf hk (M5 (U7 hk).2.1 hc (UK hp) H hK)
def BH (P:Program) (ops:Array Oper) (F:Fr) (k:Nat):Option (AV × Int × Nat):=
 match (ZD ops k).op with
 | .indexAddr t x ix=>match P.underlying t with
  | some (.slice e)=>match P.info? e with
   | some i=>match F.ev ix with
    | .val (.int _ j)=>some (F.ev x,j,i.size)
    | _=>none
   | none=>none
  | _=>none
 | _=>none
theorem Bd {es:List AV} {hv:Option Value} {j:Int} {sz:Nat} {y:AV} (hi:BH P ops F k=some (.sl es hv,j,sz)) (h0:0<=j) (hget:es[j.toNat]? = some y)
  (hy:y.leaves.length=sz):XB P (ZD ops k) F h [] (.rp y.leaves):=by
 unfold BH at hi
 generalize hoo:ZD ops k=o at hi
 obtain ⟨dst,op,type,pos,after,guard⟩:=o
 cases op<;>simp only at hi<;>try (cases hi)
 rename_i t x ix
 split at hi
 ·rename_i e ht
  split at hi
  ·rename_i i hinfo
   split at hi
   ·rename_i ik j' hix
    simp only [Wo,Prod.mk.injEq] at hi
    obtain ⟨h1,rfl,rfl⟩:=hi
    exact Zjh t x ix rfl ht hinfo rfl h1 hix h0 hget hy
   ·cases hi
  ·cases hi
 ·cases hi
theorem Z1y {b off len cap:Nat} {j:Int} {sz:Nat} (hi:BH P ops F k=some (.val (.slice (some ⟨b,off,none⟩) len cap),j,sz)) (h0:0<=j) (hlt:j<len) :
  XB P (ZD ops k) F h [] (.val (.pointer (some ⟨b,off+j.toNat * sz,none⟩))):=by
 unfold BH at hi
 generalize hoo:ZD ops k=o at hi
 obtain ⟨dst,op,type,pos,after,guard⟩:=o
 cases op<;>simp only at hi<;>try (cases hi)
 rename_i t x ix
 split at hi
 ·rename_i e ht
  split at hi
  ·rename_i i hinfo
   split at hi
   ·rename_i ik j' hix
    simp only [Wo,Prod.mk.injEq] at hi
    obtain ⟨h1,rfl,rfl⟩:=hi
    exact Zji t x ix rfl ht hinfo rfl h1 hix h0 hlt
   ·cases hi
  ·cases hi
 ·cases hi
def MF (P:Program) (ops:Array Oper) (F:Fr) (k:Nat) (len:Int):Option (AV × Int × Int × Nat):=
 match (ZD ops k).op with
 | .slice t x lo hi none=>match P.underlying t with
  | some (.slice e)=>match P.info? e with
   | some i=>match BO F lo 0,BO F hi len with
    | some l,some m=>some (F.ev x,l,m,i.size)
    | _,_=>none
   | none=>none
  | _=>none
 | _=>none
theorem Zjq {es:List AV} {hv:Option Value} {l m:Int} {sz:Nat} (hi:MF P ops F k es.length=some (.sl es hv,l,m,sz)) (h0:0<=l) (h1:l<=m) (h2:m<=es.length)
  (hes:∀y∈es,y.leaves.length=sz):XB P (ZD ops k) F h [] (.sl ((es.take m.toNat).drop l.toNat) none):=by
 unfold MF at hi
 generalize hoo:ZD ops k=o at hi
 obtain ⟨dst,op,type,pos,after,guard⟩:=o
 cases op<;>simp only at hi<;>try (cases hi)
 rename_i t x lo hi' mx
 cases mx with
 | some _=>simp at hi
 | none=>
  simp only at hi
  split at hi
  ·rename_i e ht
   split at hi
   ·rename_i i hinfo
    split at hi
    ·rename_i l' m' hl hm
     simp only [Wo,Prod.mk.injEq] at hi
     obtain ⟨hx,rfl,rfl,rfl⟩:=hi
     exact Zjp t x lo hi' rfl ht hinfo rfl hx hl hm h0 h1 h2 hes
    ·cases hi
   ·cases hi
  ·cases hi
theorem KO {es es':List AV} {hv:Option Value} {l m:Int} {sz:Nat} (hi:MF P ops F k es.length=some (.sl es hv,l,m,sz)) (h0:0<=l) (h1:l<=m) (h2:m<=es.length)
  (hes:∀y∈es,y.leaves.length=sz) (he:(es.take m.toNat).drop l.toNat=es'):XB P (ZD ops k) F h [] (.sl es' none):=he▸Zjq hi h0 h1 h2 hes
def T0 (P:Program) (ops:Array Oper) (F:Fr) (k:Nat):Option (AV × AV × Nat):=
 match (ZD ops k).op with
 | .call c=>match c.callee,c.args.toList,c.argTypes.toList with
  | .builtin .append,[s,x],[t,t']=>match Nat.beq t t',P.underlying t with
   | true,some (.slice e)=>match P.info? e with
    | some i=>match i.zero with
     | some z=>match Nat.beq z.cells.size i.size&&Nat.ble i.bytes 32768 with
      | true=>some (F.ev s,F.ev x,i.size)
      | false=>none
     | none=>none
    | none=>none
   | _,_=>none
  | _,_,_=>none
 | _=>none
theorem Sm {K:Fr->List Res->Prop} {es xs:List AV} {hv:Value} {hx:Option Value} {sz:Nat} {h1 h2:List Res} (hd:VO n (ZD ops k)=true)
  (ha:T0 P ops F k=some (.sl es (some hv),.sl xs hx,sz)) (hes:∀y∈es,y.leaves.length=sz) (hxs:∀y∈xs,y.leaves.length=sz) (hone:(Zh xs).all AV.one=true)
  (hbound:es.length+xs.length<=4294967296)
  (hK:∀v',(v'.ownBlock=hv.ownBlock∨∃b,v'.ownBlock=some b/\Bo (h1++.tail hv sz::h2) b)->K (F.put (ZD ops k).dst (.sl (es++xs) (some v'))) (h1++.tail v' sz::h2)) :
  WO P n (ZD ops k) F (h1++.tail hv sz::h2) K:=by
 unfold T0 at ha
 generalize hoo:ZD ops k=o at ha hd hK
 obtain ⟨dst,op,type,pos,after,guard⟩:=o
 cases op<;>simp only at ha<;>try (cases ha)
 rename_i c
 obtain ⟨callee,args,tys⟩:=c
 simp only at ha
 split at ha
 ·rename_i s x t t' hargs htys
  split at ha
  ·rename_i e htt ht
   have:=UX htt
   subst this
   split at ha
   ·rename_i i hinfo
    split at ha
    ·rename_i z hz
     split at ha
     ·rename_i hb
      simp only [W9] at hb
      simp only [Wo,Prod.mk.injEq] at ha
      obtain ⟨h3,h4,rfl⟩:=ha
      have e1:args=#[s,x]:=by rw [<-Ut (xs:=args),hargs]
      have e2:tys=#[t,t]:=by rw [<-Ut (xs:=tys),htys]
      subst e1;subst e2
      exact Zeo s x t rfl ht hinfo rfl (by rw [hz];simp [UX hb.1]) hb.2 h3 h4 hd hes hxs hone hbound hK
     ·cases ha
    ·cases ha
   ·cases ha
  ·cases ha
 ·cases ha
theorem WO.perm {K:Fr->List Res->Prop} {o:Oper} {h':List Res} (hp:h.Perm h') (H:WO P n o F h' K):WO P n o F h K:=by
 intro Q w G a hF hh
 refine Oper.wp_mono ?_ (H Q w G a hF (hh.perm hp))
 intro a' w' ⟨F',h2,G',b1,b2,b3,b4⟩
 exact ⟨F',h2,G',b1,b2,b3,b4.perm hp.symm (K9 _)⟩
theorem Zaz (j:Nat) (es':List AV) {es xs:List AV} {hv:Value} {hx:Option Value} {sz:Nat} {h2:List Res} (hk:Xi n ops F k=true)
  (ha:T0 P ops F k=some (.sl es (some hv),.sl xs hx,sz)) (hp:UU [j] h=some ([.tail hv sz],h2)) (hes:∀y∈es,y.leaves.length=sz) (hxs:∀y∈xs,y.leaves.length=sz)
  (hone:(Zh xs).all AV.one=true) (hbound:es.length+xs.length<=4294967296) (he:es++xs=es')
  (hK:∀v',SI P n ops B (k+1) (F.put (ZD ops k).dst (.sl es' (some v'))) (.tail v' sz::h2)):SI P n ops B k F h:=
 Qf hk (WO.perm (UK hp) (Sm (h1:=[]) (U7 hk).2.1 ha hes hxs hone hbound fun v' _=>by rw [he];exact hK v'))
theorem MT {w:World} {G:Yd} {sz:Nat} (hh:Yx w G h):Yx w G (.tail (.slice none 0 0) sz::h)/\YZ w G h w G (.tail (.slice none 0 0) sz::h):=
 ⟨⟨fun r hr=>by
   rcases YH.1 hr with rfl|hr
   ·exact .inl rfl
   ·exact hh.ok r hr,Vn.2 ⟨fun _ _ _ _ hf=>hf.elim,hh.apart⟩,fun r hr b o hf hg=>by
   rcases YH.1 hr with rfl|hr
   ·exact hf.elim
   ·exact hh.prot r hr b o hf hg,hh.lt⟩,
  ⟨rfl,rfl,rfl,X6 _,fun _ _ h=>h,fun _ _=>.inl rfl,fun _ _ _ h=>.inl h,fun b o _ ⟨r,hr,hf⟩=>by
   rcases YH.1 hr with rfl|hr
   ·exact hf.elim
   ·exact ⟨r,hr,hf⟩⟩⟩
theorem UM {c:Code} {A:V8} (sz:Nat) (H:Yw P n c A F (.tail (.slice none 0 0) sz::h)):Yw P n c A F h:=by
 intro w G a hF hh
 obtain ⟨h1,h2⟩:=MT (sz:=sz) hh
 exact wp_mono (H w G a hF h1) fun e a' w' hc=>hc.trans h2
end
section
variable {P:Program} {n:Nat} {ops:Array Oper} {B:Fr->List Res->Prop} {k:Nat} {F:Fr} {h:List Res}
def D1 (P:Program) (ops:Array Oper) (F:Fr) (k:Nat):Option (List AV):=
 match (ZD ops k).op with
 | .alloc t=>DQ P t
 | .box _ x=>match (F.ev x).fit with
  | true=>some (F.ev x).leaves
  | false=>none
 | _=>none
theorem Sl {K:Fr->List Res->Prop} {ls:List AV} (hd:VO n (ZD ops k)=true) (ha:D1 P ops F k=some ls)
  (hK:∀b,Bo h b->K (F.put (ZD ops k).dst (.val (.pointer (some ⟨b,0,none⟩)))) (.obj b ls::h)):WO P n (ZD ops k) F h K:=by
 unfold D1 at ha
 generalize hoo:ZD ops k=o at ha hd hK
 obtain ⟨dst,op,type,pos,after,guard⟩:=o
 cases op<;>simp only at ha<;>try (cases ha)
 case alloc t=>exact Zem t rfl ha hd hK
 case box t x=>
  split at ha
  ·rename_i hf
   cases ha
   exact Zep t x rfl rfl hf hd hK
  ·cases ha
def storeAt (P:Program) (ops:Array Oper) (F:Fr) (k:Nat):Option (Nat × Nat × List AV):=
 match (ZD ops k).op with
 | .store t x y=>match F.ev x,(ZD ops k).dst,P.info? t with
  | .val (.pointer (some ⟨b,o,none⟩)),none,some i=>match Nat.beq i.size (F.ev y).leaves.length&&((F.ev y).fit&&(F.ev y).leaves.all AV.one) with
   | true=>some (b,o,(F.ev y).leaves)
   | false=>none
  | _,_,_=>none
 | _=>none
theorem Sr {K:Fr->List Res->Prop} {b o:Nat} {xs ls:List AV} {h2:List Res} (hs:storeAt P ops F k=some (b,o,xs)) (hle:Nat.ble (o+xs.length) ls.length=true)
  (hK:K F (.obj b (ls.take o++xs++ls.drop (o+xs.length))::h2)):WO P n (ZD ops k) F (.obj b ls::h2) K:=by
 unfold storeAt at hs
 generalize hoo:ZD ops k=q at hs
 obtain ⟨dst,op,type,pos,after,guard⟩:=q
 cases op<;>simp only at hs<;>try (cases hs)
 rename_i t x y
 split at hs
 ·rename_i b' o' i hx hi
  split at hs
  ·rename_i hc
   simp only [W9] at hc
   simp only [Wo,Prod.mk.injEq] at hs
   obtain ⟨rfl,rfl,rfl⟩:=hs
   exact Zey (h1:=[]) t x y rfl rfl hx rfl (by simp only [W9];exact hc.2) (by rw [hi];simp [UX hc.1]) hle hK
  ·cases hs
 ·cases hs
def Q3 (P:Program) (ops:Array Oper) (F:Fr) (k:Nat):Option (List AV × Nat × Nat):=
 match (ZD ops k).op with
 | .buildSlice t len parts=>match P.underlying t with
  | some (.slice e)=>match P.info? e with
   | some i=>match i.zero.isSome&&Nat.ble (len*i.size) (2 ^ 24) with
    | true=>match AT (fun j=>some (j*i.size,i.size)) (List.replicate (len*i.size) .any) (parts.toList.map fun p=>(p.1,F.ev p.2)) with
     | some ls=>some (ls,len,i.size)
     | none=>none
    | false=>none
   | none=>none
  | _=>none
 | _=>none
theorem Sn {K:Fr->List Res->Prop} {es:List AV} {len sz:Nat} (hd:VO n (ZD ops k)=true) (ha:Q3 P ops F k=some (Zh es,len,sz)) (hlen:es.length=len) (hall:AJ es sz=true)
  (hK:∀b,Bo h b->K (F.put (ZD ops k).dst (.sl es (some (.slice (some ⟨b,0,none⟩) len len)))) (.tail (.slice (some ⟨b,0,none⟩) len len) sz::h)):WO P n (ZD ops k) F h K:=by
 unfold Q3 at ha
 generalize hoo:ZD ops k=q at ha hd hK
 obtain ⟨dst,op,type,pos,after,guard⟩:=q
 cases op<;>simp only at ha<;>try (cases ha)
 rename_i t ln parts
 split at ha
 ·rename_i e ht
  split at ha
  ·rename_i i hi
   split at ha
   ·rename_i hc
    simp only [W9] at hc
    split at ha
    ·rename_i ls hf
     simp only [Wo,Prod.mk.injEq] at ha
     obtain ⟨rfl,rfl,rfl⟩:=ha
     exact Zes t _ parts rfl ht hi rfl hc.1 hc.2 hf hlen hall hd hK
    ·cases ha
   ·cases ha
  ·cases ha
 ·cases ha
theorem Zay (ls:List AV) (hk:Xi n ops F k=true) (ha:D1 P ops F k=some ls)
  (hK:∀b,SI P n ops B (k+1) (F.put (ZD ops k).dst (.val (.pointer (some ⟨b,0,none⟩)))) (.obj b ls::h)):SI P n ops B k F h:=
 Qf hk (Sl (U7 hk).2.1 ha fun b _=>hK b)
theorem Zb8 (j:Nat) {b o:Nat} {xs ls:List AV} {h2:List Res} (ls':List AV) (hk:Xi n ops F k=true) (hs:storeAt P ops F k=some (b,o,xs)) (hp:UU [j] h=some ([.obj b ls],h2))
  (hle:Nat.ble (o+xs.length) ls.length=true) (he:ls.take o++xs++ls.drop (o+xs.length)=ls') (H:SI P n ops B (k+1) F (.obj b ls'::h2)):SI P n ops B k F h:=
 Qf hk (WO.perm (UK hp) (Sr hs hle (by rw [he];exact H)))
theorem Zb4 (es:List AV) {len sz:Nat} (hk:Xi n ops F k=true) (ha:Q3 P ops F k=some (Zh es,len,sz)) (hlen:es.length=len) (hall:AJ es sz=true)
  (hK:∀v,SI P n ops B (k+1) (F.put (ZD ops k).dst (.sl es (some v))) (.tail v sz::h)):SI P n ops B k F h:=
 Qf hk (Sn (U7 hk).2.1 ha hlen hall fun _ _=>hK _)
variable {T:List (Nat × List Nat)} {fuel fuel':Nat} {done:List Nat}
def Mt (P:Program) (n:Nat) (ops:Array Oper) (h:List Res) (is done:List Nat) (F:Fr) (hints:List Nat) (F':Fr):Option (List AV × List Nat × List Nat):=
 match KL P n ops h is done F hints with
 | some (F1,es)=>some (F'.map (fun p=>(F1.get p.1).like p.2),es.flatMap (fun e=>e.2.map (·.1)),es.flatMap (fun e=>e.2.map (·.2)))
 | none=>none
def BM (P:Program) (n:Nat) (ops:Array Oper) (h:List Res) (is done:List Nat) (F:Fr) (hints:List Nat):List (Nat × List Nat):=
 match KL P n ops h is done F hints with
 | some (_,es)=>EN es
 | none=>[]
theorem M9:∀{es:List (Nat × List (Nat × Nat))},es.flatMap (fun e=>e.2.map (·.1))=es.flatMap (fun e=>e.2.map (·.2))->∀e∈es,∀p∈e.2,p.1=p.2
 | [],_,e,he=>by simp at he
 | x::es,hq,e,he=>by
  simp only [Bh] at hq
  have h1:=List.append_inj hq (by simp)
  rcases YH.1 he with rfl|he
  ·exact M8 h1.1
  ·exact M9 h1.2 e he
theorem Z6r (is:List Nat) (F':Fr) (hints bs:List Nat) (hs:Region.noSelect ops=true) (he:Mt P n ops h is done F hints F'=some (F'.map (·.2),bs,bs)) (hf:fuel'=fuel+is.length)
  (H:YY P n ops B ((BM P n ops h is done F hints).reverse++T) fuel (done++is) F' h):YY P n ops B T fuel' done F h:=by
 unfold Mt at he
 unfold BM at H
 cases hr:KL P n ops h is done F hints with
 | none=>rw [hr] at he;cases he
 | some y=>
  obtain ⟨F1,es⟩:=y
  rw [hr] at he H
  simp only [Wo,Prod.mk.injEq] at he
  obtain ⟨h1,h2,h3⟩:=he
  exact FX is hs hr (M9 (h2.trans h3.symm)) hf (FZ (L8 h1) H)
def Us (ops:Array Oper) (i:Nat) (T:List (Nat × List Nat)):List Nat:=(T.filter fun t=>!Vg ops i t.1).flatMap (·.2)
theorem Zej {i:Nat} {h2:List Res} (js bs:List Nat) (h1:Us ops i T=bs) (h3:js.map (fun j=>(WT h2)[j]?)=bs.map some) :
  ∀t∈T,Vg ops i t.1=true∨∀b∈t.2,b∈WT h2:=by
 have hall:∀(js bs:List Nat),js.map (fun j=>(WT h2)[j]?)=bs.map some->∀b∈bs,b∈WT h2:=by
  intro js
  induction js with
  | nil=>intro bs hb b hm;cases bs with
   | nil=>simp at hm
   | cons _ _=>simp at hb
  | cons j js ih=>intro bs hb b hm;cases bs with
   | nil=>simp at hm
   | cons c bs=>
    simp only [VZ,List.cons.injEq] at hb
    rcases YH.1 hm with rfl|hm
    ·exact Y4 hb.1
    ·exact ih bs hb.2 b hm
 intro t ht
 cases hq:Vg ops i t.1 with
 | true=>exact .inl rfl
 | false=>
  refine .inr fun b hb=>hall js bs h3 b ?_
  rw [<-h1]
  exact List.mem_flatMap.2 ⟨t,List.mem_filter.2 ⟨ht,by simp [hq]⟩,hb⟩
theorem Sj {i:Nat} (hi:i<ops.size):ops[i]? = some (ZD ops i):=by
 simp [ZD,List.getD,hi]
theorem J4 {i:Nat} (is js bs:List Nat) {h1 h2:List Res} (hk:Xi n ops F i=true) (hp:UU is h=some (h1,h2)) (ho:Us ops i T=bs) (hj:js.map (fun j=>(WT h2)[j]?)=bs.map some)
  (H:WO P n (ZD ops i) F h1 fun F' h1'=>YY P n ops B (T.filter fun t=>!Vg ops i t.1) fuel (done++[i]) F' (h1'++h2)):VM P n ops B T fuel done F h i:=by
 obtain ⟨q1,_,q3,q4⟩:=U7 hk
 exact ⟨_,h1,h2,Sj q1,q4,q3,UK hp,Zej js bs ho hj,H⟩
theorem Z6i (i:Nat) (f:FuncId) (xs:List AV) (is js bs:List Nat) {h1 h2:List Res} {R:AV->List Res->Prop} (hk:Xi n ops F i=true) (hc:Ai P ops F i=some (f,xs))
  (hp:UU is h=some (h1,h2)) (ho:Us ops i T=bs) (hj:js.map (fun j=>(WT h2)[j]?)=bs.map some) (H:WD P f xs h1 R)
  (hK:∀r h',R r h'->YY P n ops B (T.filter fun t=>!Vg ops i t.1) fuel (done++[i]) (F.put (ZD ops i).dst r) (h'++h2)):VM P n ops B T fuel done F h i:=
 J4 is js bs hk hp ho hj (M5 (h2:=[]) (U7 hk).2.1 hc (by simp) H fun r h' hr=>by simpa using hK r h' hr)
theorem Z6f (i:Nat) (js bs:List Nat) (ls:List AV) (hk:Xi n ops F i=true) (ha:D1 P ops F i=some ls) (ho:Us ops i T=bs) (hj:js.map (fun j=>(WT h)[j]?)=bs.map some)
  (hK:∀b,YY P n ops B (T.filter fun t=>!Vg ops i t.1) fuel (done++[i]) (F.put (ZD ops i).dst (.val (.pointer (some ⟨b,0,none⟩)))) (.obj b ls::h)):VM P n ops B T fuel done F h i:=
 J4 (h1:=[]) (h2:=h) [] js bs hk rfl ho hj (Sl (U7 hk).2.1 ha fun b _=>hK b)
theorem Z6m (i:Nat) (js bs:List Nat) (es:List AV) {len sz:Nat} (hk:Xi n ops F i=true) (ha:Q3 P ops F i=some (Zh es,len,sz)) (hlen:es.length=len) (hall:AJ es sz=true)
  (ho:Us ops i T=bs) (hj:js.map (fun j=>(WT h)[j]?)=bs.map some)
  (hK:∀v,YY P n ops B (T.filter fun t=>!Vg ops i t.1) fuel (done++[i]) (F.put (ZD ops i).dst (.sl es (some v))) (.tail v sz::h)):VM P n ops B T fuel done F h i:=
 J4 (h1:=[]) (h2:=h) [] js bs hk rfl ho hj (Sn (U7 hk).2.1 ha hlen hall fun _ _=>hK _)
theorem Z6g (i j:Nat) (js bs:List Nat) (es':List AV) {es xs:List AV} {hv:Value} {hx:Option Value} {sz:Nat} {h2:List Res} (hk:Xi n ops F i=true)
  (ha:T0 P ops F i=some (.sl es (some hv),.sl xs hx,sz)) (hp:UU [j] h=some ([.tail hv sz],h2)) (hes:∀y∈es,y.leaves.length=sz) (hxs:∀y∈xs,y.leaves.length=sz)
  (hone:(Zh xs).all AV.one=true) (hbound:es.length+xs.length<=4294967296) (he:es++xs=es') (ho:Us ops i T=bs) (hj:js.map (fun j=>(WT h2)[j]?)=bs.map some)
  (hK:∀v',YY P n ops B (T.filter fun t=>!Vg ops i t.1) fuel (done++[i]) (F.put (ZD ops i).dst (.sl es' (some v'))) (.tail v' sz::h2)):VM P n ops B T fuel done F h i:=
 J4 [j] js bs hk hp ho hj (Sm (h1:=[]) (h2:=[]) (U7 hk).2.1 ha hes hxs hone hbound fun v' _=>by rw [he];exact hK v')
theorem Z6q (i j:Nat) (js bs:List Nat) {b o:Nat} {xs ls:List AV} {h2:List Res} (ls':List AV) (hk:Xi n ops F i=true) (hs:storeAt P ops F i=some (b,o,xs))
  (hp:UU [j] h=some ([.obj b ls],h2)) (hle:Nat.ble (o+xs.length) ls.length=true) (he:ls.take o++xs++ls.drop (o+xs.length)=ls') (ho:Us ops i T=bs)
  (hj:js.map (fun j=>(WT h2)[j]?)=bs.map some) (H:YY P n ops B (T.filter fun t=>!Vg ops i t.1) fuel (done++[i]) F (.obj b ls'::h2)):VM P n ops B T fuel done F h i:=
 J4 [j] js bs hk hp ho hj (Sr (h2:=[]) hs hle (by rw [he];exact H))
theorem FY (i:Nat) {ks:List Nat} {x:AV} (hs:Region.noSelect ops=true) (hk:Xi n ops F i=true)
  (hf:Region.free .any ops (V2 ops done) i=true) (hr:(Region.ready .any ops (V2 ops done)).contains i=true) (hx:XB P (ZD ops i) F h ks x)
  (H:YY P n ops B ((i,ks)::T) fuel (done++[i]) (F.put (ZD ops i).dst x) h):YY P n ops B T (fuel+1) done F h:=by
 obtain ⟨q1,q2,q3,q4⟩:=U7 hk
 exact Iq hs (Sj q1) q2 q3 hf hr (.inr ⟨q4,hx⟩) H
theorem Z6n (i:Nat) (x':AV) {x:AV} (hs:Region.noSelect ops=true) (hk:Xi n ops F i=true)
  (hf:Region.free .any ops (V2 ops done) i=true) (hr:(Region.ready .any ops (V2 ops done)).contains i=true) (he:QN P (ZD ops i) F h 0=some (x,[])) (hx:Zc x x')
  (H:YY P n ops B ((i,[])::T) fuel (done++[i]) (F.put (ZD ops i).dst x') h):YY P n ops B T (fuel+1) done F h:=by
 refine FY i (ks:=[]) hs hk hf hr ?_ H
 have hst:=Dj he (by simp)
 intro n w G a hF hh
 obtain ⟨v,h1,h2⟩:=hst n w G a hF hh
 exact ⟨v,hx _ _ _ h1,by simpa using h2⟩
theorem Z6h (i:Nat) (r:Int) {s:Int} (hns:Region.noSelect ops=true) (hk:Xi n ops F i=true)
  (hf:Region.free .any ops (V2 ops done) i=true) (hr:(Region.ready .any ops (V2 ops done)).contains i=true) (ha:Af ops F i=some s) (hs:s=r)
  (hb:-9223372036854775808<=r/\r<=9223372036854775807)
  (H:YY P n ops B ((i,[])::T) fuel (done++[i]) (F.put (ZD ops i).dst (.val (.int .i64 r))) h):YY P n ops B T (fuel+1) done F h:=
 FY i (ks:=[]) hns hk hf hr (Z1w ha hs hb) H
theorem Z6p {b:Bool} (t:Nat) (hF:F.get t=.val (.bool b)) (h1:b=true->YY P n ops B T fuel done ((t,.val (.bool true))::F) h)
  (h2:b=false->YY P n ops B T fuel done ((t,.val (.bool false))::F) h):YY P n ops B T fuel done F h:=by
 cases b with
 | true=>exact FZ (Dk hF (Zc.refl _) (Fr.Le.refl F)) (h1 rfl)
 | false=>exact FZ (Dk hF (Zc.refl _) (Fr.Le.refl F)) (h2 rfl)
theorem Z6k {c:Code} {A:V8} (F':Fr) (h':List Res) (H:YY P n ops (fun F h=>TU F h F' h') T fuel done F h) (hB:Yw P n c A F' h'):YY P n ops (fun F h=>Yw P n c A F h) T fuel done F h:=by
 intro Q w G a SL hF hh hQ hcl hcov hk
 exact H Q w G a SL hF hh hQ hcl hcov fun F2 h2 G2 a2 w2 b1 b2 b3 b4=>hk F2 h2 G2 a2 w2 (Cd b1 hB) b2 b3 b4
end
end Go.Abs
section
namespace Go.Abs
structure Yg where
 fields:LI
structure Zf where
 frm:Int
 to_:Int
 cons:List Yg
mutual
inductive Z5 where
 | mk (op num into:Int) (args:LI) (kids:List Z7)
inductive Z7 where
 | mk (steps:List Z5) (result:Int)
end
namespace Z5
def op:Z5->Int|.mk a _ _ _ _=>a
def num:Z5->Int|.mk _ a _ _ _=>a
def into:Z5->Int|.mk _ _ a _ _=>a
def args:Z5->LI|.mk _ _ _ a _=>a
def kids:Z5->List Z7|.mk _ _ _ _ a=>a
end Z5
namespace Z7
def steps:Z7->List Z5|.mk a _=>a
def result:Z7->Int|.mk _ a=>a
end Z7
structure Yb where
 params:LI
 lent:LI
 result:Int
 body:Z7
structure Zl where
 decls:List Zf
 routines:List Yb
def Z8 (xs:LI):List AV:=xs.map AV.i
def Wt (xs:List LI):List AV:=xs.map fun l=>.sl (Z8 l) none
abbrev D0 (c:Yg):AV:=.agg [.sl (Z8 c.fields) none]
def XV (cs:List Yg):List AV:=cs.map D0
abbrev AH (d:Zf):AV:=.agg [.i d.frm,.i d.to_,.sl (XV d.cons) none]
def YB (ds:List Zf):List AV:=ds.map AH
mutual
def IN:Z5->AV
 | .mk op num into args kids=>.agg [.i op,.i num,.i into,.sl (Z8 args) none,.sl (YR kids) none]
def Iw:Z7->AV
 | .mk steps result=>.agg [.sl (ZG steps) none,.i result]
def ZG:List Z5->List AV
 | []=>[]
 | s::ss=>IN s::ZG ss
def YR:List Z7->List AV
 | []=>[]
 | b::bs=>Iw b::YR bs
end
abbrev YD (s:Z5):AV:=.agg [.i s.op,.i s.num,.i s.into,.sl (Z8 s.args) none,.sl (YR s.kids) none]
abbrev ZZ (b:Z7):AV:=.agg [.sl (ZG b.steps) none,.i b.result]
abbrev QJ (r:Yb):AV:=.agg [.sl (Z8 r.params) none,.sl (Z8 r.lent) none,.i r.result,.sl (ZG r.body.steps) none,.i r.body.result]
def YX (rs:List Yb):List AV:=rs.map QJ
abbrev Yr (n:Zl):AV:=.agg [.sl (YB n.decls) none,.sl (YX n.routines) none]
theorem OD (s:Z5):IN s=YD s:=by cases s;rw [IN];rfl
theorem Ot (b:Z7):Iw b=ZZ b:=by cases b;rw [Iw];rfl
theorem VH:∀xs:List Z5,ZG xs=xs.map YD
 | []=>by rw [ZG];rfl
 | s::ss=>by rw [ZG,VH ss,OD];rfl
theorem TW:∀xs:List Z7,YR xs=xs.map ZZ
 | []=>by rw [YR];rfl
 | b::bs=>by rw [YR,TW bs,Ot];rfl
section
theorem Y2 {xs:LI} {j:Nat} {x:Int} (h:xs[j]? = some x):(Z8 xs)[j]? = some (.i x):=by simp [Z8,h]
theorem An {xs:List LI} {j:Nat} {x:LI} (h:xs[j]? = some x):(Wt xs)[j]? = some (.sl (Z8 x) none):=by simp [Wt,h]
theorem AP {xs:List Yg} {j:Nat} {x:Yg} (h:xs[j]? = some x):(XV xs)[j]? = some (D0 x):=by simp [XV,h]
theorem WV {xs:List Zf} {j:Nat} {x:Zf} (h:xs[j]? = some x):(YB xs)[j]? = some (AH x):=by simp [YB,h]
theorem VP {xs:List Z5} {j:Nat} {x:Z5} (h:xs[j]? = some x):(ZG xs)[j]? = some (YD x):=by simp [VH,h]
theorem T3 {xs:List Z7} {j:Nat} {x:Z7} (h:xs[j]? = some x):(YR xs)[j]? = some (ZZ x):=by simp [TW,h]
theorem WW {xs:List Yb} {j:Nat} {x:Yb} (h:xs[j]? = some x):(YX xs)[j]? = some (QJ x):=by simp [YX,h]
@[simp] theorem Yc (xs:LI):(Z8 xs).length=xs.length:=by simp [Z8]
@[simp] theorem G5 (xs:List LI):(Wt xs).length=xs.length:=by simp [Wt]
@[simp] theorem Uw (xs:List Yg):(XV xs).length=xs.length:=by simp [XV]
@[simp] theorem Up (xs:List Zf):(YB xs).length=xs.length:=by simp [YB]
@[simp] theorem VU (xs:List Z5):(ZG xs).length=xs.length:=by simp [VH]
@[simp] theorem Uf (xs:List Z7):(YR xs).length=xs.length:=by simp [TW]
@[simp] theorem Ug (xs:List Yb):(YX xs).length=xs.length:=by simp [YX]
theorem Wz (xs ys:LI):Z8 (xs++ys)=Z8 xs++Z8 ys:=by simp [Z8]
theorem IL (xs ys:List LI):Wt (xs++ys)=Wt xs++Wt ys:=by simp [Wt]
theorem Z7a (xs ys:List Zf):YB (xs++ys)=YB xs++YB ys:=by simp [YB]
theorem V0 (xs ys:List Z5):ZG (xs++ys)=ZG xs++ZG ys:=by simp [VH]
theorem BA (xs ys:List Z7):YR (xs++ys)=YR xs++YR ys:=by simp [TW]
theorem Cp (xs ys:List Yb):YX (xs++ys)=YX xs++YX ys:=by simp [YX]
theorem JY (xs:LI) (n:Nat):(Z8 xs).take n=Z8 (xs.take n):=by simp [Z8]
theorem AQ (xs:LI) (n:Nat):(Z8 xs).drop n=Z8 (xs.drop n):=by simp [Z8]
theorem ID (xs:List Yg) (n:Nat):(XV xs).take n=XV (xs.take n):=by simp [XV]
theorem IC (xs:List Yg) (n:Nat):(XV xs).drop n=XV (xs.drop n):=by simp [XV]
theorem Df (xs:List Zf) (n:Nat):(YB xs).take n=YB (xs.take n):=by simp [YB]
theorem De (xs:List Zf) (n:Nat):(YB xs).drop n=YB (xs.drop n):=by simp [YB]
theorem Qc (xs:List Z5) (n:Nat):(ZG xs).take n=ZG (xs.take n):=by simp [VH]
theorem Qb (xs:List Z5) (n:Nat):(ZG xs).drop n=ZG (xs.drop n):=by simp [VH]
theorem Iz (xs:List Z7) (n:Nat):(YR xs).take n=YR (xs.take n):=by simp [TW]
theorem Ix (xs:List Z7) (n:Nat):(YR xs).drop n=YR (xs.drop n):=by simp [TW]
theorem YK (xs:LI):∀y∈Z8 xs,y.leaves.length=1:=by intro y hy;simp only [Z8,XG] at hy;obtain ⟨x,_,rfl⟩:=hy;rfl
theorem BB (xs:List LI):∀y∈Wt xs,y.leaves.length=1:=by intro y hy;simp only [Wt,XG] at hy;obtain ⟨x,_,rfl⟩:=hy;rfl
theorem Ef (xs:List Yg):∀y∈XV xs,y.leaves.length=1:=by intro y hy;simp only [XV,XG] at hy;obtain ⟨x,_,rfl⟩:=hy;rfl
theorem J5 (xs:List Zf):∀y∈YB xs,y.leaves.length=3:=by intro y hy;simp only [YB,XG] at hy;obtain ⟨x,_,rfl⟩:=hy;rfl
theorem Xw (xs:List Z5):∀y∈ZG xs,y.leaves.length=5:=by intro y hy;simp only [VH,XG] at hy;obtain ⟨x,_,rfl⟩:=hy;rfl
theorem Kd (xs:List Z7):∀y∈YR xs,y.leaves.length=2:=by intro y hy;simp only [TW,XG] at hy;obtain ⟨x,_,rfl⟩:=hy;rfl
theorem TX (xs:List Yb):∀y∈YX xs,y.leaves.length=5:=by intro y hy;simp only [YX,XG] at hy;obtain ⟨x,_,rfl⟩:=hy;rfl
theorem Jt {es:List AV} (h:∀y∈es,y.leaves.all AV.one=true):(Zh es).all AV.one=true:=by
 simp only [Zh,List.all_flatMap,A9]
 intro y hy
 exact A9.1 (h y hy)
theorem WA (xs:LI):(Zh (Z8 xs)).all AV.one=true:=Jt fun y hy=>by simp only [Z8,XG] at hy;obtain ⟨x,_,rfl⟩:=hy;rfl
theorem G6 (xs:List LI):(Zh (Wt xs)).all AV.one=true:=Jt fun y hy=>by simp only [Wt,XG] at hy;obtain ⟨x,_,rfl⟩:=hy;rfl
theorem Z79 (xs:List Yg):(Zh (XV xs)).all AV.one=true:=Jt fun y hy=>by simp only [XV,XG] at hy;obtain ⟨x,_,rfl⟩:=hy;rfl
theorem G0 (xs:List Zf):(Zh (YB xs)).all AV.one=true:=Jt fun y hy=>by simp only [YB,XG] at hy;obtain ⟨x,_,rfl⟩:=hy;rfl
theorem UO (xs:List Z5):(Zh (ZG xs)).all AV.one=true:=Jt fun y hy=>by simp only [VH,XG] at hy;obtain ⟨x,_,rfl⟩:=hy;rfl
theorem Iy (xs:List Z7):(Zh (YR xs)).all AV.one=true:=Jt fun y hy=>by simp only [TW,XG] at hy;obtain ⟨x,_,rfl⟩:=hy;rfl
theorem Cq (xs:List Yb):(Zh (YX xs)).all AV.one=true:=Jt fun y hy=>by simp only [YX,XG] at hy;obtain ⟨x,_,rfl⟩:=hy;rfl
end
end Go.Abs
end
namespace Go.Abs
def Km (v:Value):Nat:=v.ownBlock.getD 0
def Az (v:Value) (m:Nat):Value:=
 match v with
 | .slice a _ cap=>.slice a m cap
 | v=>v
theorem Z0q {α:Type} (l:List α) (n:Nat) (x:α) (h:n<l.length):l.take n++[x]++l.drop (n+1)=l.set n x:=by
 rw [Fz,Zd h];simp
theorem Yx.vwrite {w:World} {G:Yd} {h2:List Res} {g cap n':Nat} {ls ls':List AV} (hh:Yx w G (.vec (.slice (some ⟨g,0,none⟩) ls.length cap) ls::h2)) {cs cs':Array Value} {e:TypeId}
  (hb:w.heap[g]? = some (.cells cs e (0,0))) (Xv:cs'.size=cs.size) (hn:n'=ls'.length) (hle:ls'.length<=cap) (hcap:cs.size=cap) (hls:YW w G ls' (cs'.toList.take ls'.length)) :
  Yx (w.setRow g cs') G (.vec (.slice (some ⟨g,0,none⟩) n' cap) ls'::h2) /\
   YZ w G (.vec (.slice (some ⟨g,0,none⟩) ls.length cap) ls::h2) (w.setRow g cs') G (.vec (.slice (some ⟨g,0,none⟩) n' cap) ls'::h2):=by
 subst hn
 have hmem:Res.vec (.slice (some ⟨g,0,none⟩) ls.length cap) ls∈Res.vec (.slice (some ⟨g,0,none⟩) ls.length cap) ls::h2:=Xd ..
 have hA:Ud G w (w.setRow g cs') G:=⟨fun c j hg=>by
  have hne:c≠g:=fun he=>hh.prot _ hmem c j he hg
  simp [World.cell?,U8 w g c cs' hne],fun _ _ h=>h⟩
 have hpw:=Vn.1 hh.apart
 have hother:∀r∈h2,∀c j,r.fp c j->c≠g:=fun r hr c j hf hc=>hpw.1 r hr c j hc hf
 refine ⟨⟨?_,Vn.2 ⟨fun r hr=>hpw.1 r hr,hpw.2⟩,?_,?_⟩,⟨rfl,rfl,rfl,by simp [World.setRow],fun _ _ h=>h,?_,fun _ _ _ h=>.inl h,?_⟩⟩
 ·intro r hr
  rcases YH.1 hr with rfl|hr
  ·exact .inr ⟨g,cap,cs',e,rfl,setRow_heap w g cs cs' e (0,0) hb,hle,Xv.trans hcap,hls.mono hA⟩
  ·have h0:=hh.ok r (Xp _ hr)
   cases r with
   | obj c ks=>
    obtain ⟨ds,el,k1,k2⟩:=h0
    exact ⟨ds,el,(U8 w g c cs' (hother _ hr c 0 rfl)).trans k1,k2.mono hA⟩
   | tail v k=>
    rcases h0 with rfl|⟨g2,len,cap2,cur,el,rfl,k1,k2,k3⟩
    ·exact .inl rfl
    ·exact .inr ⟨g2,len,cap2,cur,el,rfl,(U8 w g g2 cs' (hother _ hr g2 (len*k) ⟨rfl,X6 _⟩)).trans k1,k2,k3⟩
   | ge s=>exact VL h0 (by simp [World.setRow])
   | vec v ks=>
    rcases h0 with ⟨rfl,h0⟩|⟨g2,cap2,cur2,el,rfl,k1,k2,k3,k4⟩
    ·exact .inl ⟨rfl,h0⟩
    ·exact .inr ⟨g2,cap2,cur2,el,rfl,(U8 w g g2 cs' (hother _ hr g2 0 rfl)).trans k1,k2,k3,k4.mono hA⟩
   | many ts=>
    refine ⟨fun p hp=>?_,h0.2⟩
    rcases h0.1 p hp with q|⟨g2,len,cap2,cur,el,q,k1,k2,k3⟩
    ·exact .inl q
    ·exact .inr ⟨g2,len,cap2,cur,el,q,(U8 w g g2 cs' (hother _ hr g2 (len*p.2) ⟨p,hp,by rw [q];exact ⟨rfl,X6 _⟩⟩)).trans k1,k2,k3⟩
   | own B m=>
    intro c hc
    obtain ⟨ds,el,k1,k2⟩:=h0 c hc
    exact ⟨ds,el,(U8 w g c cs' (hother _ hr c 0 hc)).trans k1,k2⟩
   | row v k ks=>
    rcases h0 with ⟨rfl,h0⟩|⟨g2,len2,cap2,cur2,el,rfl,k1,k2,k3,k4,k5⟩
    ·exact .inl ⟨rfl,h0⟩
    ·exact .inr ⟨g2,len2,cap2,cur2,el,rfl,(U8 w g g2 cs' (hother _ hr g2 0 rfl)).trans k1,k2,k3,k4,k5.mono hA⟩
 ·intro r hr c j hf hg
  rcases YH.1 hr with rfl|hr
  ·exact hh.prot _ hmem c j hf hg
  ·exact hh.prot r (Xp _ hr) c j hf hg
 ·intro c j hg
  have:=hh.lt c j hg
  simpa [World.setRow] using this
 ·intro c hc
  by_cases hcb:c=g
  ·subst hcb
   exact .inr ⟨cs,cs',e,(0,0),hb,setRow_heap w c cs cs' e (0,0) hb,Xv,fun j hj=>absurd ⟨_,hmem,rfl⟩ hj⟩
  ·exact .inl (U8 w g c cs' hcb)
 ·rintro c j _ ⟨r,hr,hf⟩
  rcases YH.1 hr with rfl|hr
  ·exact ⟨_,hmem,hf⟩
  ·exact ⟨r,Xp _ hr,hf⟩
theorem Yx.alloc_vec {w:World} {G:Yd} {h:List Res} (hh:Yx w G h) (cs:Array Value) (t:TypeId) {ls:List AV} {cap:Nat} (hcap:ls.length<=cap) (Xv:cs.size=cap)
  (hls:YW w G ls (cs.toList.take ls.length)) :
  Yx (w.alloc (.cells cs t)) G (.vec (.slice (some ⟨w.heap.size,0,none⟩) ls.length cap) ls::h)/\YZ w G h (w.alloc (.cells cs t)) G (.vec (.slice (some ⟨w.heap.size,0,none⟩) ls.length cap) ls::h):=by
 have hA:Ud G w (w.alloc (.cells cs t)) G:=⟨fun b j hg=>E8 w _ (hh.lt b j hg),fun _ _ h=>h⟩
 refine hh.alloc (.cells cs t) (h':=[.vec (.slice (some ⟨w.heap.size,0,none⟩) ls.length cap) ls]) (fun _ _ h=>h) (fun _ _ h=>.inl h) ?_ ?_ (C6 _ _) ?_
 ·intro r hr
  rw [XH.1 hr]
  exact .inr ⟨_,cap,cs,t,rfl,Dq w _,hcap,Xv,hls.mono hA⟩
 ·intro r hr b j hf
  rw [XH.1 hr] at hf
  exact hf
 ·intro r hr b j hf hg
  rw [XH.1 hr] at hf
  have:=hh.lt b j hg
  have:b=w.heap.size:=hf
  omega
theorem Zl0 {w:World} {G:Yd} {h:List Res} (hh:Yx w G h):Yx w G (.vec (.slice none 0 0) []::h)/\YZ w G h w G (.vec (.slice none 0 0) []::h):=
 ⟨⟨fun r hr=>by
   rcases YH.1 hr with rfl|hr
   ·exact .inl ⟨rfl,rfl⟩
   ·exact hh.ok r hr,Vn.2 ⟨fun _ _ _ _ hf=>hf.elim,hh.apart⟩,fun r hr b o hf hg=>by
   rcases YH.1 hr with rfl|hr
   ·exact hf.elim
   ·exact hh.prot r hr b o hf hg,hh.lt⟩,
  ⟨rfl,rfl,rfl,X6 _,fun _ _ h=>h,fun _ _=>.inl rfl,fun _ _ _ h=>.inl h,fun b o _ ⟨r,hr,hf⟩=>by
   rcases YH.1 hr with rfl|hr
   ·exact hf.elim
   ·exact ⟨r,hr,hf⟩⟩⟩
section
variable {P:Program} {n:Nat} {ops:Array Oper} {B:Fr->List Res->Prop} {k:Nat} {F:Fr} {h h2:List Res}
def Dx (P:Program) (ops:Array Oper) (F:Fr) (k:Nat):Option AV:=
 match (ZD ops k).op with
 | .call c=>match c.callee,c.args.toList,c.argTypes.toList with
  | .builtin .len,[x],[t]=>match P.underlying t with
   | some (.slice _)=>some (F.ev x)
   | _=>none
  | _,_,_=>none
 | _=>none
theorem Bt.form {w:World} {G:Yd} {v:Value} {ls:List AV} (h:Bt w G v ls):∃a cap,v=.slice a ls.length cap:=by
 rcases h with ⟨rfl,rfl⟩|⟨g,cap,cur,e,rfl,_⟩
 ·exact ⟨none,0,rfl⟩
 ·exact ⟨_,cap,rfl⟩
theorem Zjs (j:Nat) {v:Value} {ls:List AV} (hl:Dx P ops F k=some (.val v)) (hj:h[j]? = some (.vec v ls)):XB P (ZD ops k) F h [] (.val (.int .i64 ls.length)):=by
 unfold Dx at hl
 generalize hoo:ZD ops k=o at hl
 obtain ⟨dst,op,type,pos,after,guard⟩:=o
 cases op<;>simp only at hl<;>try (cases hl)
 rename_i c
 obtain ⟨callee,args,tys⟩:=c
 simp only at hl
 split at hl
 ·rename_i x t hargs htys
  split at hl
  ·rename_i el hu
   simp only [Wo] at hl
   intro n w G a hF hh
   have hv:=hF.ev x
   rw [hl] at hv
   have hv:=hv.val_inv
   obtain ⟨ad,cap,rfl⟩:=Bt.form (hh.ok _ (Y4 hj))
   have e1:args=#[x]:=by rw [<-Ut (xs:=args),hargs]
   have e2:tys=#[t]:=by rw [<-Ut (xs:=tys),htys]
   subst e1;subst e2
   exact ⟨_,.val,fun w' _ _=>by simp [execOp,resolve,invoke,builtin,hv,Builtin.len_,VK hu,goInt]⟩
  ·cases hl
 ·cases hl
theorem Zjr (j:Nat) {v:Value} {ls:List AV} {i:Int} (hi:BH P ops F k=some (.val v,i,1)) (hj:h[j]? = some (.vec v ls)) (h0:0<=i) (hlt:i<ls.length) :
  XB P (ZD ops k) F h [] (.val (.pointer (some ⟨Km v,i.toNat,none⟩))):=by
 intro n w G a hF hh
 rcases hh.ok _ (Y4 hj) with ⟨rfl,rfl⟩|⟨g,cap,cur,e,rfl,_⟩
 ·simp at hlt;omega
 ·have:=Z1y (P:=P) (F:=F) (h:=h) hi h0 hlt n w G a hF hh
  simpa [Km,Value.ownBlock] using this
def LR (P:Program) (ops:Array Oper) (F:Fr) (k:Nat):Option AV:=
 match (ZD ops k).op with
 | .load t x=>match Du P t with
  | some false=>some (F.ev x)
  | _=>none
 | _=>none
theorem Zjt (j:Nat) {v:Value} {ls:List AV} {i:Nat} {y:AV} (hl:LR P ops F k=some (.val (.pointer (some ⟨Km v,i,none⟩)))) (hj:h[j]? = some (.vec v ls)) (hy:ls[i]? = some y) :
  XB P (ZD ops k) F h [Km v] y:=by
 unfold LR at hl
 generalize hoo:ZD ops k=o at hl
 obtain ⟨dst,op,type,pos,after,guard⟩:=o
 cases op<;>simp only at hl<;>try (cases hl)
 rename_i t x
 split at hl
 ·rename_i hagg
  simp only [Wo] at hl
  intro n w G a hF hh
  have hv:=hF.ev x
  rw [hl] at hv
  have hv:=hv.val_inv
  have hlt:i<ls.length:=(Xs.1 hy).1
  rcases hh.ok _ (Y4 hj) with ⟨rfl,rfl⟩|⟨g,cap,cur,e,rfl,h1,h2,h3,h4⟩
  ·simp at hlt
  ·obtain ⟨c,c1,c2⟩:=h4.get i y hy
   refine ⟨c,c2,fun w' _ hw=>?_⟩
   have hrow:=hw (Km (.slice (some ⟨g,0,none⟩) ls.length cap)) (by simp)
   simp only [Km,Value.ownBlock,Option.getD_some] at hrow hv
   rw [h1] at hrow
   have hc:cur[i]? = some c:=by
    rw [Ql,Zd hlt] at c1
    simpa using c1
   simp only [execOp,hv]
   refine Vm ?_
   simp only [Instr.loadAt,Instr.sureAddr,Sem.run_bind,Sem.run_pure,Result.andThen_ok,loadVar,F4 hagg]
   have:=cell_of_row w' g i cur e (0,0) hrow
   rw [hc] at this
   simp [load,Sem.run,this]
 ·cases hl
theorem St {K:Fr->List Res->Prop} {v:Value} {ls:List AV} {i:Nat} {y:AV} (hs:storeAt P ops F k=some (Km v,i,[y])) (hlt:i<ls.length)
  (hK:K F (.vec v (ls.set i y)::h2)):WO P n (ZD ops k) F (.vec v ls::h2) K:=by
 unfold storeAt at hs
 generalize hoo:ZD ops k=q at hs
 obtain ⟨dst,op,type,pos,after,guard⟩:=q
 cases op<;>simp only at hs<;>try (cases hs)
 rename_i t x z
 split at hs
 ·rename_i b' o' inf hx hi
  split at hs
  ·rename_i hc
   simp only [W9] at hc
   simp only [Wo,Prod.mk.injEq] at hs
   obtain ⟨rfl,rfl,hz⟩:=hs
   intro Q w G a hF hh
   have hvx:=hF.ev x
   rw [hx] at hvx
   have hvx:=hvx.val_inv
   have hvy:=hF.ev z
   have hcs:=hvy.cells hc.2.1
   rw [hz] at hcs hc
   have hone:=hcs.one_cells hc.2.2
   have Xv:inf.size=1:=UX hc.1
   have hlen:(a.eval z).cells.size=1:=by have:=hcs.length;simpa using this
   rcases hh.ok (.vec v ls) (Xd ..) with ⟨rfl,rfl⟩|⟨g,cap,cur,e,rfl,h1,h3,h4,h5⟩
   ·simp at hlt
   ·simp only [Km,Value.ownBlock,Option.getD_some] at hvx
    have hst:=run_storeCells_at P g o' e (a.eval z).cells.toList 0 cur w h1 (by simp [hlen];omega) hone
    simp only [CZ,Jj] at hst
    have hr:(execOp a.eval { dst:=none,op:=.store t x z,type:=type,pos:=pos,after:=after,guard:=guard }).run P w =
      .ok .skip (w.setRow g (cur.toList.take o'++(a.eval z).cells.toList++cur.toList.drop (o'+(a.eval z).cells.size)).toArray):=by
     simp only [execOp,hvx]
     simp [Instr.storeAt,Instr.sureAddr,storeVar,K7 hi,hlen,Xv,hst]
    unfold Oper.wp
    rw [hr]
    have hset:ls.set o' y=ls.take o'++[y]++ls.drop (o'+1):=(Z0q ls o' y hlt).symm
    obtain ⟨j1,j2⟩:=hh.vwrite (ls':=ls.set o' y) (n':=ls.length) (cs':=(cur.toList.take o'++(a.eval z).cells.toList++cur.toList.drop (o'+(a.eval z).cells.size)).toArray) h1
     (by simp [hlen];omega) (by simp) (by simpa using h3) h4 (by
      obtain ⟨c,Za⟩:∃c,(a.eval z).cells.toList=[c]:=by
       have:=hcs.length
       cases hq:(a.eval z).cells.toList with
       | nil=>rw [hq] at this;simp at this
       | cons c r=>cases r with
        | nil=>exact ⟨c,rfl⟩
        | cons _ _=>rw [hq] at this;simp at this
      rw [Za] at hcs
      have hlt':o'<cur.toList.length:=by simp [h4];omega
      rw [DU,Za,hlen,Z0q cur.toList o' c hlt',Tg,List.take_set]
      cases hcs with
      | cons hcc _=>exact h5.set o' hcc)
    refine ⟨F,_,G,hK,?_,j1,j2⟩
    have:=hF.mono (j2.agree hh)
    simpa [Act.put] using this
  ·cases hs
 ·cases hs
theorem Ss {K:Fr->List Res->Prop} {v:Value} {ls xs:List AV} {hx:Option Value} (hd:VO n (ZD ops k)=true) (ha:T0 P ops F k=some (.val v,.sl xs hx,1))
  (hxs:∀y∈xs,y.leaves=[y]) (hone:xs.all AV.one=true) (hbound:ls.length+xs.length<=4294967296)
  (hK:∀v',K (F.put (ZD ops k).dst (.val v')) (.vec v' (ls++xs)::h2)):WO P n (ZD ops k) F (.vec v ls::h2) K:=by
 unfold T0 at ha
 generalize hoo:ZD ops k=o at ha hd hK
 obtain ⟨dst,op,type,pos,after,guard⟩:=o
 cases op<;>simp only at ha<;>try (cases ha)
 rename_i c
 obtain ⟨callee,args,tys⟩:=c
 simp only at ha
 split at ha
 case h_2=>cases ha
 rename_i s x t t' hargs htys
 split at ha
 case h_2=>cases ha
 rename_i e htt ht
 have:=UX htt
 subst this
 split at ha
 case h_2=>cases ha
 rename_i i hinfo
 split at ha
 case h_2=>cases ha
 rename_i z hz
 split at ha
 case h_2=>cases ha
 rename_i hb
 simp only [W9] at hb
 simp only [Wo,Prod.mk.injEq] at ha
 obtain ⟨h3,h4,hk1⟩:=ha
 have e1:args=#[s,x]:=by rw [<-Ut (xs:=args),hargs]
 have e2:tys=#[t,t]:=by rw [<-Ut (xs:=tys),htys]
 subst e1;subst e2
 have hzs:z.cells.size=1:=by rw [UX hb.1,hk1]
 have hby:=Vo hb.2
 have hflat:Zh xs=xs:=by
  clear hone hbound hK h4
  induction xs with
  | nil=>rfl
  | cons y r ih=>simp only [Zh,Bh,hxs y (by simp),List.singleton_append];rw [show r.flatMap AV.leaves=Zh r from rfl,ih fun q hq=>hxs q (by simp [hq])]
 have hlen1:∀y∈xs,y.leaves.length=1:=fun y hy=>by rw [hxs y hy];rfl
 intro Q w G a hF hh
 have v1:=hF.ev s
 have v2:=hF.ev x
 rw [h3] at v1
 rw [h4] at v2
 have v1:=v1.val_inv
 have v2:=v2.forget
 have finish:∀v' w',(Builtin.append_ #[t,t] type #[v,a.eval x]).run P w=.ok v' w'->Yx w' G (.vec v' (ls++xs)::h2)->YZ w G (.vec v ls::h2) w' G (.vec v' (ls++xs)::h2) ->
   ({ dst:=dst,op:=.call { callee:=.builtin .append,args:=#[s,x],argTypes:=#[t,t] },type:=type,pos:=pos,after:=after,guard:=guard }:Oper).wp P a w
    (fun a' w'=>∃F' h' G',K F' h'/\FR w' G' n F' a'/\Yx w' G' h'/\YZ w G (.vec v ls::h2) w' G' h') Q:=by
  intro v' w' hr j1 j2
  have hrun:(execOp a.eval { dst:=dst,op:=.call { callee:=.builtin .append,args:=#[s,x],argTypes:=#[t,t] },type:=type,pos:=pos,after:=after,guard:=guard }).run P w=.ok (.value v') w':=by
   simp only [execOp,resolve,invoke,builtin,Sem.run_bind,Sem.run_pure,Result.andThen_ok,C5,VZ,Aa,v1,hr]
  unfold Oper.wp
  rw [hrun]
  exact ⟨_,_,G,hK v',(hF.mono (j2.agree hh)).put (Tm hd) .val,j1,j2⟩
 have hvec:=hh.ok (.vec v ls) (Xd ..)
 have hsub2:∀r:Res,List.Sublist (r::h2) (r::.vec v ls::h2):=fun r=>List.Sublist.cons_cons _ (C7 _ _)
 have grown:∀(olds news:List Value) (old:Nat),YW w G ls olds->YW w G xs news ->
   Yx (w.drew.alloc (.cells (olds.toArray++news.toArray++Builtin.zeroCells z.cells (grownCap w (ls.length+xs.length) old e-(ls.length+xs.length))) e)) G
    (.vec (.slice (some ⟨w.heap.size,0,none⟩) (ls.length+xs.length) (grownCap w (ls.length+xs.length) old e)) (ls++xs)::h2) /\
   YZ w G (.vec v ls::h2) (w.drew.alloc (.cells (olds.toArray++news.toArray++Builtin.zeroCells z.cells (grownCap w (ls.length+xs.length) old e-(ls.length+xs.length))) e)) G
    (.vec (.slice (some ⟨w.heap.size,0,none⟩) (ls.length+xs.length) (grownCap w (ls.length+xs.length) old e)) (ls++xs)::h2):=by
  intro olds news old ho hn
  have Xr:=grownCap_ge w (ls.length+xs.length) old e
  have hol:=ho.length
  have hnl:=hn.length
  obtain ⟨j1,j2⟩:=hh.drew.alloc_vec (olds.toArray++news.toArray++Builtin.zeroCells z.cells (grownCap w (ls.length+xs.length) old e-(ls.length+xs.length))) e
   (ls:=ls++xs) (cap:=grownCap w (ls.length+xs.length) old e) (by simpa using Xr)
   (by simp only [Array.size_append,DT,size_zeroCells,hzs,hol,hnl,Kc];omega)
   (by
    have:(olds.toArray++news.toArray++Builtin.zeroCells z.cells (grownCap w (ls.length+xs.length) old e-(ls.length+xs.length))).toList.take (ls++xs).length=olds++news:=by
     simp only [DS,Yq]
     rw [<-hol,<-hnl,<-Yq]
     exact AA
    rw [this]
    exact (ho.append hn).mono (Bu w G))
  rw [Yq] at j1 j2
  exact ⟨j1.sub (hsub2 _),(YZ.drew w G _).trans (j2.sub' (hsub2 _))⟩
 by_cases hxe:xs=[]
 ·subst hxe
  obtain ⟨ad,cap,hform⟩:=Bt.form hvec
  have hle:ls.length<=cap:=by
   rcases hvec with ⟨rfl,rfl⟩|⟨g,cap',cur,el,rfl,_,hc,_⟩
   ·simp
   ·cases hform;exact hc
  subst hform
  cases v2q:a.eval x with
  | slice ad' l' c'=>
   rw [v2q] at v2
   cases v2<;>exact finish _ _ (by rw [v2q];exact DJ ht hinfo hle w) (by simpa using hh) (by simpa using YZ.refl w G _)
  | _=>rw [v2q] at v2;cases v2
 ·generalize hax:a.eval x=ax at v2 finish
  cases v2 with
  | nil _=>exact absurd rfl hxe
  | sl hq hcc hm=>
   rename_i b o' k' c
   have hpos:0<xs.length:=Fy.2 hxe
   have hfm:=hm.flat_mem
   rw [hflat] at hfm
   obtain ⟨news,hn,hnc⟩:=hfm.cells
   have hnl:news.length=xs.length*i.size:=by rw [hn.length,hk1,Kc]
   have hone':=hn.one_cells hone
   have hnews:∀j u,news[j]? = some u->w.cell? ((⟨b,o',none⟩:Addr).add j)=some u:=fun j u hj=>by rw [Jn];exact (hnc j u hj).1
   have hbb:(ls.length+xs.length)*i.bytes<=140737488355328:=by
    have:=Nat.mul_le_mul hbound hby
    omega
   rcases hvec with ⟨rfl,rfl⟩|⟨g,cap,cur,el,rfl,hrow,hlc,hcur,hcells⟩
   ·have hr:=run_append_nil (P:=P) w t type e i z ht hinfo hz ⟨b,o',none⟩ xs.length c news hnl hnews hpos (by simp at hbound;omega) (by simp at hbb;omega)
    obtain ⟨j1,j2⟩:=grown [] news 0 .nil hn
    simp only [XP,Vy,Array.empty_append,Bl] at j1 j2
    exact finish _ _ hr (by simpa using j1) (by simpa using j2)
   ·by_cases hroom:ls.length+xs.length<=cap
    ·have hfit:ls.length*i.size+news.length<=cur.size:=by rw [hnl,hcur,hk1];omega
     have hr:=Hl (P:=P) w t type e el i ht hinfo g ls.length cap cur hrow ⟨b,o',none⟩ xs.length c news hnl hnews hone' hroom hfit
     rw [hk1,Kc] at hr
     have hnl':news.length=xs.length:=by rw [hnl,hk1,Kc]
     obtain ⟨j1,j2⟩:=hh.vwrite (ls':=ls++xs) (n':=ls.length+xs.length) (cs':=(cur.toList.take ls.length++news++cur.toList.drop (ls.length+news.length)).toArray) hrow
      (by simp [hnl',hcur];omega) (by simp) (by simpa using hroom) hcur (by
       have h1:(cur.toList.take ls.length).length=ls.length:=by simp [hcur];omega
       have:(cur.toList.take ls.length++news++cur.toList.drop (ls.length+news.length)).toArray.toList.take (ls++xs).length=cur.toList.take ls.length++news:=by
        rw [DU,Yq,<-hnl']
        conv=>lhs;arg 1;rw [show ls.length+news.length=(cur.toList.take ls.length++news).length from by rw [Yq,h1]]
        exact AA
       rw [this]
       exact hcells.append hn)
     exact finish _ _ hr j1 j2
    ·have hr:=run_append_grow (P:=P) w t type e i z ht hinfo hz ⟨g,0,none⟩ ls.length cap (cur.toList.take ls.length) (by rw [hk1];simp [hcur];omega) (fun j u hj=>by
      rw [Jn,cell_of_row w g _ cur el (0,0) hrow]
      rw [Ql] at hj
      split at hj
      ·simpa using hj
      ·cases hj) ⟨b,o',none⟩ xs.length c news hnl hnews om om (growslice_fits om hbb)
     obtain ⟨j1,j2⟩:=grown (cur.toList.take ls.length) news cap hcells hn
     exact finish _ _ hr j1 j2
end
inductive Jl (h:List Res):AV->Prop
 | val {v}:Jl h (.val v)
 | any:Jl h .any
 | nil {hv}:Jl h (.sl [] hv)
 | own {es:List AV} {v:Value} {k:Nat} (he:∀y∈es,∃u,y=.val u) (ht:Res.tail v k∈h):Jl h (.sl es (some v))
 | tup {vs:List AV} (hv:∀y∈vs,Jl h y):Jl h (.tup vs)
 | agg {vs:List AV} (hv:∀y∈vs,Jl h y):Jl h (.agg vs)
def DX:Res->Prop
 | .obj _ ls=>∀y∈ls,∃u,y=.val u
 | .vec _ ls=>∀y∈ls,∃u,y=.val u
 | .row _ _ ls=>∀y∈ls,∃u,y=.val u
 | _=>True
theorem YW.vals {w w':World} {G G':Yd}:∀{xs:List AV} {vs:List Value},(∀y∈xs,∃u,y=.val u)->YW w G xs vs->YW w' G' xs vs
 | _,_,_,.nil=>.nil
 | x::_,_::_,hv,.cons h t=>by
  obtain ⟨u,rfl⟩:=hv x (Xd ..)
  have:=h.val_inv
  subst this
  exact .cons .val (t.vals fun y hy=>hv y (Xp _ hy))
theorem RW {w:World} {G G':Yd} {b:Nat} (hG:∀o,G b o->G' b o):∀{o:Nat} {xs:List AV},(∀y∈xs,∃u,y=.val u)->WE w G b o xs->WE w G' b o xs
 | _,_,_,.nil=>.nil
 | _,x::_,hv,.cons hc hg h t=>by
  obtain ⟨u,rfl⟩:=hv x (Xd ..)
  have:=h.val_inv
  subst this
  exact .cons hc (hG _ hg) .val (RW hG (fun y hy=>hv y (Xp _ hy)) t)
theorem OI {w:World} {G G':Yd} {b k:Nat} (hG:∀o,G b o->G' b o):∀{o:Nat} {xs:List AV},(∀y∈xs,∃u,y=.val u)->Vf w G k b o xs->Vf w G' k b o xs
 | _,_,_,.nil=>.nil
 | _,x::_,hv,.cons hl h t=>by
  obtain ⟨u,rfl⟩:=hv x (Xd ..)
  refine .cons hl (RW hG (fun y hy=>?_) h) (OI hG (fun y hy=>hv y (Xp _ hy)) t)
  simp [AV.leaves] at hy
  exact ⟨u,hy⟩
theorem YW.clean {w:World} {G G':Yd} (P:AV->Prop) (hP:∀x v,P x->RV w G x v->RV w G' x v):∀{xs:List AV} {vs:List Value},(∀y∈xs,P y)->YW w G xs vs->YW w G' xs vs
 | _,_,_,.nil=>.nil
 | x::_,_::_,hv,.cons h t=>.cons (hP _ _ (hv x (Xd ..)) h) (t.clean P hP fun y hy=>hv y (Xp _ hy))
theorem RV.clean {w:World} {G G':Yd} {h:List Res} (hG:∀v k g,Res.tail v k∈h->v.ownBlock=some g->∀o,G g o->G' g o) {r:AV} (hc:Jl h r):∀{v:Value},RV w G r v->RV w G' r v:=by
 induction hc with
 | val=>intro v hv;cases hv;exact .val
 | any=>intro v hv;exact .any
 | nil=>
  intro v hv
  cases hv with
  | nil hq=>exact .nil hq
  | sl hq hc hm=>exact .sl (k:=0) hq hc .nil
 | own he ht=>
  intro v hv
  cases hv with
  | nil hq=>exact .nil hq
  | sl hq hc hm=>
   have e:=hq _ rfl
   exact .sl hq hc (OI (fun o hg=>hG _ _ _ ht (by rw [e];rfl) o hg) he hm)
 | tup hv ih=>
  intro v hvv
  cases hvv with
  | tup hc=>exact .tup (hc.clean (fun x=>∀{v:Value},RV w G x v->RV w G' x v) (fun x v hp hx=>hp hx) ih)
 | agg hv ih=>
  intro v hvv
  cases hvv with
  | agg hc=>exact .agg (hc.clean (fun x=>∀{v:Value},RV w G x v->RV w G' x v) (fun x v hp hx=>hp hx) ih)
theorem Yx.lend {w:World} {G:Yd}:∀{bs h:List Res},(∀r∈bs,∃v ls,r=.vec v ls/\∀y∈ls,∃u,y=.val u)->Yx w G (h++bs) ->
  ∃Gb:Yd,(∀b o,G b o->Gb b o)/\(∀b o,Gb b o->G b o∨Vh bs b o)/\Yx w Gb h /\
   (∀v ls,Res.vec v ls∈bs->∀m,m<=ls.length->RV w Gb (.sl (ls.take m) none) (Az v m)/\RV w Gb (.sl ls none) v):=by
 intro bs h hb hh
 let Gb:Yd:=fun b o=>G b o∨∃v ls,Res.vec v ls∈bs/\v.ownBlock=some b/\o<ls.length
 have hsub:∀b o,G b o->Gb b o:=fun _ _ h=>.inl h
 have hfp:∀b o,Gb b o->G b o∨Vh bs b o:=fun b o hg=>hg.imp id fun ⟨v,ls,hm,ho,_⟩=>⟨_,hm,by
  cases v with
  | slice a l c=>cases a with
   | none=>simp [Value.ownBlock] at ho
   | some a=>simp only [Value.ownBlock,Wo] at ho;exact ho.symm
  | _=>simp [Value.ownBlock] at ho⟩
 have hA:Ud G w w Gb:=⟨fun _ _ _=>rfl,hsub⟩
 refine ⟨Gb,hsub,hfp,⟨fun r hr=>?_,hh.left.apart,fun r hr b o hf hg=>?_,fun b o hg=>?_⟩,fun v ls hm m hmle=>?_⟩
 ·have h0:=hh.ok r (Xg.2 (.inl hr))
  cases r with
  | obj b ls=>obtain ⟨cs,e,h1,h2⟩:=h0;exact ⟨cs,e,h1,h2.mono hA⟩
  | tail v k=>exact h0
  | ge s=>exact h0
  | vec v ls=>
   rcases h0 with ⟨rfl,h0⟩|⟨g,cap,cur,el,rfl,h1,h2,h3,h4⟩
   ·exact .inl ⟨rfl,h0⟩
   ·exact .inr ⟨g,cap,cur,el,rfl,h1,h2,h3,h4.mono hA⟩
  | many ts=>exact h0
  | own B m=>exact h0
  | row v k ls=>
   rcases h0 with ⟨rfl,h0⟩|⟨g,len,cap,cur,el,rfl,h1,h2,h3,h4,h5⟩
   ·exact .inl ⟨rfl,h0⟩
   ·exact .inr ⟨g,len,cap,cur,el,rfl,h1,h2,h3,h4,h5.mono hA⟩
 ·rcases hfp b o hg with h1|h1
  ·exact hh.prot r (Xg.2 (.inl hr)) b o hf h1
  ·exact hh.cross ⟨r,hr,hf⟩ h1
 ·rcases hfp b o hg with h1|⟨r,hr,hf⟩
  ·exact hh.lt b o h1
  ·exact (hh.ok r (Xg.2 (.inr hr))).lt b o hf
 ·have h0:=hh.ok _ (Xg.2 (.inr hm))
  obtain ⟨v',ls',e,hval⟩:=hb _ hm
  cases e
  rcases h0 with ⟨rfl,rfl⟩|⟨g,cap,cur,el,rfl,h1,h2,h3,h4⟩
  ·have:m=0:=by simpa using hmle
   subst this
   exact ⟨.nil (by simp),.nil (by simp)⟩
  ·have hmem:WE w Gb g 0 ls:=by
    refine WE.of_cells (h4.mono hA) fun j u hj=>?_
    have hjl:j<ls.length:=by
     have:=(Xs.1 hj).1
     have h5:=h4.length
     omega
    rw [Ql,Zd hjl] at hj
    refine ⟨?_,.inr ⟨_,_,hm,rfl,by omega⟩⟩
    rw [Vy,cell_of_row w g j cur el (0,0) h1]
    simpa using hj
   have hels:∀(l:List AV),(∀y∈l,∃u,y=.val u)->Zh l=l:=by
    intro l
    induction l with
    | nil=>intro _;rfl
    | cons y r ih=>
     intro hy
     obtain ⟨u,rfl⟩:=hy y (Xd ..)
     simp only [Zh,Bh,AV.leaves,List.singleton_append]
     rw [show r.flatMap AV.leaves=Zh r from rfl,ih fun z hz=>hy z (Xp _ hz)]
   have hE:Vf w Gb 1 g 0 ls:=Vf.of_flat ls (fun y hy=>by obtain ⟨u,rfl⟩:=hval y hy;rfl) (by rw [hels ls hval];exact hmem)
   refine ⟨?_,.sl (by simp) h2 hE⟩
   have hl:(ls.take m).length=m:=by simp [hmle]
   show RV w Gb (.sl (ls.take m) none) (.slice (some ⟨g,0,none⟩) m cap)
   conv=>arg 4;rw [<-hl]
   exact .sl (by simp) om (hE.take m)
inductive TC (bs:List Res):List AV->List AV->Prop
 | nil:TC bs [] []
 | same {x as1 xs} (t:TC bs as1 xs):TC bs (x::as1) (x::xs)
 | lent {v ls as1 xs} (h:Res.vec v ls∈bs) (t:TC bs as1 xs):TC bs (.val v::as1) (.sl ls none::xs)
 | cut {v ls m as1 xs} (h:Res.vec v ls∈bs) (hm:m<=ls.length) (t:TC bs as1 xs):TC bs (.val (Az v m)::as1) (.sl (ls.take m) none::xs)
theorem TC.rcs {w:World} {G Gb:Yd} {bs:List Res} (hA:Ud G w w Gb)
  (hb:∀v ls,Res.vec v ls∈bs->∀m,m<=ls.length->RV w Gb (.sl (ls.take m) none) (Az v m)/\RV w Gb (.sl ls none) v) :
  ∀{as1 xs:List AV} {vs:List Value},TC bs as1 xs->YW w G as1 vs->YW w Gb xs vs
 | _,_,_,.nil,.nil=>.nil
 | _,_,_,.same t,.cons h r=>.cons (h.mono hA) (t.rcs hA hb r)
 | _,_,_,.lent hm t,.cons h r=>by
  have:=h.val_inv
  subst this
  exact .cons (hb _ _ hm 0 (Ac _)).2 (t.rcs hA hb r)
 | _,_,_,.cut hm hle t,.cons h r=>by
  have:=h.val_inv
  subst this
  exact .cons (hb _ _ hm _ hle).1 (t.rcs hA hb r)
theorem WD.lend {P:Program} {f:FuncId} {as1 xs:List AV} {h1:List Res} (bs:List Res) {R:AV->List Res->Prop} (H:WD P f xs h1 R) (hargs:TC bs as1 xs)
  (hb:∀r∈bs,∃v ls,r=.vec v ls/\∀y∈ls,∃u,y=.val u) (hclean:∀r h',R r h'->Jl h' r/\∀q∈h',DX q) :
  WD P f as1 (h1++bs) (fun r h'=>∃h1',R r h1'/\h'=h1'++bs):=by
 intro w G vs hvs hh
 obtain ⟨Gb,g1,g2,g3,g4⟩:=Yx.lend hb hh
 have hA:Ud G w w Gb:=⟨fun _ _ _=>rfl,g1⟩
 refine (H w Gb vs (hargs.rcs hA g4 hvs) g3).mono ?_
 rintro e w' ⟨v,r,h',G',rfl,hR,hv,hh',hx⟩
 obtain ⟨c1,c2⟩:=hclean r h' hR
 let G2:Yd:=fun b o=>G' b o/\¬(Vh bs b o)
 have hbslt:∀b o,Vh bs b o->b<w.heap.size:=fun b o ⟨q,hq,hf⟩=>(hh.ok q (Xg.2 (.inr hq))).lt b o hf
 have hwhole:∀b o o',Vh bs b o->Vh bs b o':=fun b o o' ⟨q,hq,hf⟩=>⟨q,hq,by
  obtain ⟨v,ls,rfl,_⟩:=hb q hq
  cases v with
  | slice a l c=>cases a with
   | none=>exact hf.elim
   | some a=>exact hf
  | _=>exact hf.elim⟩
 have hGkeep:∀b o,G b o->G2 b o:=fun b o hg=>⟨hx.sub b o (g1 b o hg),fun ⟨q,hq,hf⟩=>hh.prot q (Xg.2 (.inr hq)) b o hf hg⟩
 have hnew:∀v k g,Res.tail v k∈h'->v.ownBlock=some g->∀o,G' g o->G2 g o:=by
  intro v k g hm hg o hgo
  refine ⟨hgo,fun hf=>?_⟩
  have hlt:=hbslt _ _ hf
  rcases hh'.ok _ hm with rfl|⟨g',len,cap,cur,el,rfl,t1,t2,t3⟩
  ·simp [Value.ownBlock] at hg
  ·simp only [Value.ownBlock,Wo] at hg
   subst hg
   have hfp:Vh h' g' (len*k):=⟨_,hm,rfl,X6 _⟩
   exact hh.cross (hx.newfp g' (len*k) hlt hfp) (hwhole _ _ _ hf)
 have e1:YZ w G h1 w' G2 h':=⟨hx.os,hx.tape,hx.output,hx.size,hGkeep,hx.same,fun b o hb' hg=>by
  rcases hx.newG b o hb' hg.1 with h|h
  ·rcases g2 b o h with h|h
   ·exact .inl h
   ·exact absurd h hg.2
  ·exact .inr h,hx.newfp⟩
 have e2:Yx w' G2 h':=⟨fun q hq=>by
   have h0:=hh'.ok q hq
   have hcq:=c2 q hq
   cases q with
   | obj b ls=>obtain ⟨cs,el,k1,k2⟩:=h0;exact ⟨cs,el,k1,k2.vals hcq⟩
   | tail v k=>exact h0
   | ge s=>exact h0
   | vec v ls=>
    rcases h0 with ⟨rfl,h0⟩|⟨g,cap,cur,el,rfl,k1,k2,k3,k4⟩
    ·exact .inl ⟨rfl,h0⟩
    ·exact .inr ⟨g,cap,cur,el,rfl,k1,k2,k3,k4.vals hcq⟩
   | many ts=>exact h0
   | own B m=>exact h0
   | row v k ls=>
    rcases h0 with ⟨rfl,h0⟩|⟨g,len,cap,cur,el,rfl,k1,k2,k3,k4,k5⟩
    ·exact .inl ⟨rfl,h0⟩
    ·exact .inr ⟨g,len,cap,cur,el,rfl,k1,k2,k3,k4,k5.vals hcq⟩,hh'.apart,fun q hq b o hf hg=>hh'.prot q hq b o hf hg.1,fun b o hg=>hh'.lt b o hg.1⟩
 obtain ⟨f1,f2⟩:=hh.frame e1 e2
 exact ⟨v,r,h'++bs,G2,rfl,⟨h',hR,rfl⟩,RV.clean hnew c1 hv,f1,f2⟩
section
variable {P:Program} {n:Nat} {ops:Array Oper} {B:Fr->List Res->Prop} {k:Nat} {F:Fr} {h h2:List Res}
def DM (P:Program) (ops:Array Oper) (F:Fr) (k:Nat):Option (AV × Int):=
 match (ZD ops k).op with
 | .slice t x none (some hi) none=>match P.underlying t with
  | some (.slice e)=>match P.info? e with
   | some _=>match F.ev hi with
    | .val (.int _ m)=>some (F.ev x,m)
    | _=>none
   | none=>none
  | _=>none
 | _=>none
theorem Zju (j:Nat) {v:Value} {ls:List AV} {m:Nat} (hi:DM P ops F k=some (.val v,(m:Int))) (hj:h[j]? = some (.vec v ls)) (hle:m<=ls.length) :
  XB P (ZD ops k) F h [] (.val (Az v m)):=by
 unfold DM at hi
 generalize hoo:ZD ops k=o at hi
 obtain ⟨dst,op,type,pos,after,guard⟩:=o
 cases op<;>simp only at hi<;>try (cases hi)
 rename_i t x lo hi' mx
 cases lo with
 | some _=>simp at hi
 | none=>
  cases hi' with
  | none=>simp at hi
  | some y=>
   cases mx with
   | some _=>simp at hi
   | none=>
    simp only at hi
    split at hi
    ·rename_i e ht
     split at hi
     ·rename_i inf hinf
      split at hi
      ·rename_i ik m' hm
       simp only [Wo,Prod.mk.injEq] at hi
       obtain ⟨hx,rfl⟩:=hi
       intro n w G a hF hh
       have v1:=hF.ev x
       rw [hx] at v1
       have v1:=v1.val_inv
       have v2:=hF.ev y
       rw [hm] at v2
       have v2:=v2.val_inv
       have hvec:=hh.ok _ (Y4 hj)
       obtain ⟨ad,cap,hform⟩:=Bt.form hvec
       have hcap:ls.length<=cap:=by
        rcases hvec with ⟨rfl,rfl⟩|⟨g,cap',cur,el,rfl,_,hc,_⟩
        ·simp
        ·cases hform;exact hc
       subst hform
       refine ⟨_,.val,fun w' _ _=>?_⟩
       have Zb:=fun c=>DK (P:=P) (c:=c) (v:=.int ik (m:Int)) (y:=cap) rfl om om w'
       simp only [execOp,v1,v2,C9,Option.map_none]
       refine Vm ?_
       simp only [Instr.sliceAt,Sem.run_bind,VK ht,Result.andThen_ok,Instr.slice]
       have hmm:(Instr.sliceBounds true ls.length cap none (some (.int ik (m:Int))) none).run P w'=.ok (0,m,cap) w':=by simp [Instr.sliceBounds,Zb]
       rw [hmm]
       have hz:∀a:Addr,a.add 0=a:=fun a=>by simp [Addr.add]
       simp only [Result.andThen_ok,K7 hinf,Nat.zero_mul,hz,Az]
       simp
      ·cases hi
     ·cases hi
    ·cases hi
theorem Zl2 {w:World} {G:Yd} {v:Value} {ls:List AV} {m:Nat} (hh:Yx w G (.vec v ls::h2)) (hle:m<=ls.length) :
  Yx w G (.vec (Az v m) (ls.take m)::h2)/\YZ w G (.vec v ls::h2) w G (.vec (Az v m) (ls.take m)::h2):=by
 have hpw:=Vn.1 hh.apart
 have hfp:∀b o,Res.fp (.vec (Az v m) (ls.take m)) b o->Res.fp (.vec v ls) b o:=by
  intro b o hf
  cases v with
  | slice a l c=>cases a with
   | none=>exact hf.elim
   | some a=>exact hf
  | _=>exact hf
 refine ⟨⟨fun r hr=>?_,Vn.2 ⟨fun r hr b o h1 h2=>hpw.1 r hr b o (hfp b o h1) h2,hpw.2⟩,fun r hr b o hf hg=>?_,hh.lt⟩,⟨rfl,rfl,rfl,X6 _,fun _ _ h=>h,fun _ _=>.inl rfl,fun _ _ _ h=>.inl h,?_⟩⟩
 ·rcases YH.1 hr with rfl|hr
  ·rcases hh.ok _ (Xd ..) with ⟨rfl,rfl⟩|⟨g,cap,cur,e,rfl,h1,h3,h4,h5⟩
   ·have:m=0:=by simpa using hle
    subst this
    exact .inl ⟨rfl,rfl⟩
   ·refine .inr ⟨g,cap,cur,e,by simp [Az,hle],h1,by simp;omega,h4,?_⟩
    have:=h5.take m
    rw [List.take_take,UD hle] at this
    simpa [hle] using this
  ·exact hh.ok r (Xp _ hr)
 ·rcases YH.1 hr with rfl|hr
  ·exact hh.prot _ (Xd ..) b o (hfp b o hf) hg
  ·exact hh.prot r (Xp _ hr) b o hf hg
 ·rintro b o _ ⟨r,hr,hf⟩
  rcases YH.1 hr with rfl|hr
  ·exact ⟨_,Xd ..,hfp b o hf⟩
  ·exact ⟨r,Xp _ hr,hf⟩
theorem Zkz {w:World} {G:Yd} {v:Value} {ls:List AV} (hh:Yx w G (.vec v ls::h2)) (hls:∀y∈ls,y.leaves=[y]) :
  ∃G',Yx w G' (.tail v 1::h2)/\YZ w G (.vec v ls::h2) w G' (.tail v 1::h2)/\RV w G' (.sl ls (some v)) v:=by
 have hpw:=Vn.1 hh.apart
 rcases hh.ok _ (Xd ..) with ⟨rfl,rfl⟩|⟨g,cap,cur,e,rfl,h1,h3,h4,h5⟩
 ·obtain ⟨k1,k2⟩:=MT (sz:=1) (hh.sub (C7 _ _))
  refine ⟨G,k1,⟨rfl,rfl,rfl,X6 _,fun _ _ h=>h,fun _ _=>.inl rfl,fun _ _ _ h=>.inl h,?_⟩,.nil (by simp)⟩
  rintro b o _ ⟨r,hr,hf⟩
  rcases YH.1 hr with rfl|hr
  ·exact hf.elim
  ·exact ⟨r,Xp _ hr,hf⟩
 ·let G':Yd:=fun b o=>G b o∨(b=g/\o<ls.length)
  have hA:Ud G w w G':=⟨fun _ _ _=>rfl,fun _ _ h=>.inl h⟩
  have hmem:Res.vec (.slice (some ⟨g,0,none⟩) ls.length cap) ls∈Res.vec (.slice (some ⟨g,0,none⟩) ls.length cap) ls::h2:=Xd ..
  refine ⟨G',⟨fun r hr=>?_,Vn.2 ⟨fun r hr b o f1 f2=>hpw.1 r hr b o f1.1 f2,hpw.2⟩,fun r hr b o hf hg=>?_,fun b o hg=>?_⟩,
   ⟨rfl,rfl,rfl,X6 _,fun _ _ h=>.inl h,fun _ _=>.inl rfl,fun b o _ hg=>hg.imp id fun ⟨e1,_⟩=>⟨_,hmem,e1⟩,?_⟩,?_⟩
  ·rcases YH.1 hr with rfl|hr
   ·exact .inr ⟨g,ls.length,cap,cur,e,rfl,h1,h3,by rw [h4,Kc]⟩
   ·have h0:=hh.ok r (Xp _ hr)
    cases r with
    | obj b ks=>obtain ⟨cs,el,k1,k2⟩:=h0;exact ⟨cs,el,k1,k2.mono hA⟩
    | tail v k=>exact h0
    | ge s=>exact h0
    | vec v ks=>
     rcases h0 with ⟨rfl,h0⟩|⟨g2,cap2,cur2,el,rfl,k1,k2,k3,k4⟩
     ·exact .inl ⟨rfl,h0⟩
     ·exact .inr ⟨g2,cap2,cur2,el,rfl,k1,k2,k3,k4.mono hA⟩
    | many ts=>exact h0
    | own B m=>exact h0
    | row v k ks=>
     rcases h0 with ⟨rfl,h0⟩|⟨g2,len2,cap2,cur2,el,rfl,k1,k2,k3,k4,k5⟩
     ·exact .inl ⟨rfl,h0⟩
     ·exact .inr ⟨g2,len2,cap2,cur2,el,rfl,k1,k2,k3,k4,k5.mono hA⟩
  ·rcases YH.1 hr with rfl|hr2
   ·obtain ⟨hbg,hf2⟩:=hf
    rcases hg with hg|⟨_,hg⟩
    ·exact hh.prot _ hmem b o hbg hg
    ·rw [Kc] at hf2;omega
   ·rcases hg with hg|⟨hbg,_⟩
    ·exact hh.prot r (Xp _ hr2) b o hf hg
    ·exact hpw.1 r hr2 b o hbg hf
  ·rcases hg with hg|⟨rfl,_⟩
   ·exact hh.lt b o hg
   ·exact (Tf.1 h1).1
  ·rintro b o _ ⟨r,hr,hf⟩
   rcases YH.1 hr with rfl|hr
   ·exact ⟨_,hmem,hf.1⟩
   ·exact ⟨r,Xp _ hr,hf⟩
  ·have hflat:Zh ls=ls:=by
    clear h5 h3 hh hpw hmem hA h4
    induction ls with
    | nil=>rfl
    | cons y r ih=>
     simp only [Zh,Bh,hls y (Xd ..),List.singleton_append]
     rw [show r.flatMap AV.leaves=Zh r from rfl,ih fun q hq=>hls q (Xp _ hq)]
   refine .sl (k:=1) (fun x hx=>by cases hx;rfl) h3 (Vf.of_flat ls (fun y hy=>by rw [hls y hy];rfl) ?_)
   rw [hflat]
   refine WE.of_cells (h5.mono hA) fun j u hj=>?_
   have hjl:j<ls.length:=by
    have:=(Xs.1 hj).1
    have h6:=h5.length
    omega
   rw [Ql,Zd hjl] at hj
   refine ⟨?_,.inr ⟨rfl,by omega⟩⟩
   rw [Vy,cell_of_row w g j cur e (0,0) h1]
   simpa using hj
def Dz (P:Program) (ops:Array Oper) (F:Fr) (k:Nat):Option (Int × Int × AV):=
 match (ZD ops k).op with
 | .makeSlice t l c=>match P.underlying t with
  | some (.slice e)=>match P.info? e with
   | some i=>match i.zero with
    | some z=>match z.cells.toList,Nat.beq i.size 1&&Nat.ble i.bytes 32 with
     | [zv],true=>match F.ev l,F.ev c with
      | .val (.int _ l),.val (.int _ c)=>some (l,c,AV.ofVal zv)
      | _,_=>none
     | _,_=>none
    | none=>none
   | none=>none
  | _=>none
 | _=>none
theorem Mn {w:World} {G:Yd} {x:AV} {v:Value} (h:RV w G x v):∀n,YW w G (List.replicate n x) (List.replicate n v)
 | 0=>.nil
 | n+1=>.cons h (Mn h n)
theorem Ze2 (zv:Value) (n:Nat):(madeCells #[zv] n).toList=List.replicate n zv:=by
 apply List.ext_getElem
 ·simp [madeCells]
 ·intro i h1 h2
  simp [madeCells,Nat.mod_one]
theorem Zgt {w:World} {G:Yd} {a:Act} (hF:FR w G n F a) {l c:Nat} {zv:AV} (hm:Dz P ops F k=some ((l:Int),(c:Int),zv)) (hlc:l<=c) (hc:c<=4294967296) :
  ∃(e:TypeId) (z:Value),zv=AV.ofVal z/\(execOp a.eval (ZD ops k)).run P w=.ok (.value (.slice (some ⟨w.heap.size,0,none⟩) l c)) (w.alloc (.cells (madeCells #[z] c) e)):=by
 unfold Dz at hm
 generalize hoo:ZD ops k=o at hm
 obtain ⟨dst,op,type,pos,after,guard⟩:=o
 cases op<;>simp only at hm<;>try (cases hm)
 rename_i t lo co
 split at hm
 case h_2=>cases hm
 rename_i e ht
 split at hm
 case h_2=>cases hm
 rename_i i hi
 split at hm
 case h_2=>cases hm
 rename_i z hz
 split at hm
 case h_2=>cases hm
 rename_i z1 hzl hb
 simp only [W9] at hb
 split at hm
 case h_2=>cases hm
 rename_i k1 l' k2 c' hl hco
 simp only [Wo,Prod.mk.injEq] at hm
 obtain ⟨rfl,rfl,rfl⟩:=hm
 have v1:=hF.ev lo
 have v2:=hF.ev co
 rw [hl] at v1
 rw [hco] at v2
 have v1:=v1.val_inv
 have v2:=v2.val_inv
 have hs:=UX hb.1
 have hbytes:=Vo hb.2
 have hzc:z.cells=#[z1]:=by rw [<-Ut (xs:=z.cells),hzl]
 have hr:=run_make (P:=P) w t e i z ht hi hz k1 k2 (l:Int) (c:Int) om om (by
  have h1:(i.bytes:Int)<=32:=by omega
  have h2:(i.bytes:Int)*(c:Int)<=32*(c:Int):=Int.mul_le_mul_of_nonneg_right h1 om
  omega) om
 rw [hzc,hs,Kc] at hr
 simp only [VF] at hr
 refine ⟨e,z1,rfl,?_⟩
 simp only [execOp,v1,v2]
 exact Vm hr
end
section
variable {P:Program} {n:Nat} {ops:Array Oper} {B:Fr->List Res->Prop} {k:Nat} {F:Fr} {h h2:List Res}
variable {T:List (Nat × List Nat)} {fuel fuel':Nat} {done:List Nat}
theorem Zet {K:Fr->List Res->Prop} {ls:List AV} {len:Nat} (hd:VO n (ZD ops k)=true) (ha:Q3 P ops F k=some (ls,len,1)) (hlen:ls.length=len)
  (hK:∀v,K (F.put (ZD ops k).dst (.val v)) (.vec v ls::h)):WO P n (ZD ops k) F h K:=by
 unfold Q3 at ha
 generalize hoo:ZD ops k=q at ha hd hK
 obtain ⟨dst,op,type,pos,after,guard⟩:=q
 cases op<;>simp only at ha<;>try (cases ha)
 rename_i t ln parts
 split at ha
 case h_2=>cases ha
 rename_i e ht
 split at ha
 case h_2=>cases ha
 rename_i i hi
 split at ha
 case h_2=>cases ha
 rename_i hc
 simp only [W9] at hc
 split at ha
 case h_2=>cases ha
 rename_i ls' hf
 simp only [Wo,Prod.mk.injEq] at ha
 obtain ⟨rfl,rfl,Xv⟩:=ha
 subst hlen
 intro Q w G a hF hh
 obtain ⟨cs,h1,h2⟩:=Hm hF parts ht hi rfl hc.1 hc.2 hf
 have hr:(execOp a.eval { dst:=dst,op:=.buildSlice t ls'.length parts,type:=type,pos:=pos,after:=after,guard:=guard }).run P w =
   .ok (.value (.slice (some ⟨w.heap.size,0,none⟩) ls'.length ls'.length)) (w.alloc (.cells cs e)):=by
  simp only [execOp]
  exact Vm h2
 unfold Oper.wp
 rw [hr]
 have hlc:=h1.length
 simp only [Jj] at hlc
 obtain ⟨j1,j2⟩:=hh.alloc_vec cs e (ls:=ls') (cap:=ls'.length) (X6 _) hlc (by rw [<-hlc];simpa [Vx] using h1)
 exact ⟨_,_,G,hK _,(hF.mono (j2.agree hh)).put (Tm hd) .val,j1,j2⟩
theorem Zb5 (ls:List AV) {len:Nat} (hk:Xi n ops F k=true) (ha:Q3 P ops F k=some (ls,len,1)) (hlen:ls.length=len)
  (hK:∀v,SI P n ops B (k+1) (F.put (ZD ops k).dst (.val v)) (.vec v ls::h)):SI P n ops B k F h:=
 Qf hk (Zet (U7 hk).2.1 ha hlen hK)
theorem Zba (j:Nat) {v:Value} {ls:List AV} {i:Nat} {y:AV} (ls':List AV) (hk:Xi n ops F k=true) (hs:storeAt P ops F k=some (Km v,i,[y])) (hp:UU [j] h=some ([.vec v ls],h2))
  (hlt:i<ls.length) (he:ls.set i y=ls') (H:SI P n ops B (k+1) F (.vec v ls'::h2)):SI P n ops B k F h:=
 Qf hk (WO.perm (UK hp) (St hs hlt (by rw [he];exact H)))
theorem Z6t (i j:Nat) (js bs:List Nat) {v:Value} {ls:List AV} {q:Nat} {y:AV} (ls':List AV) (hk:Xi n ops F i=true) (hs:storeAt P ops F i=some (Km v,q,[y]))
  (hp:UU [j] h=some ([.vec v ls],h2)) (hlt:q<ls.length) (he:ls.set q y=ls') (ho:Us ops i T=bs) (hj:js.map (fun j=>(WT h2)[j]?)=bs.map some)
  (H:YY P n ops B (T.filter fun t=>!Vg ops i t.1) fuel (done++[i]) F (.vec v ls'::h2)):VM P n ops B T fuel done F h i:=
 J4 [j] js bs hk hp ho hj (St (h2:=[]) hs hlt (by rw [he];exact H))
theorem Zb9 (j:Nat) (ls':List AV) {v:Value} {ls xs:List AV} {hx:Option Value} (hk:Xi n ops F k=true) (ha:T0 P ops F k=some (.val v,.sl xs hx,1)) (hp:UU [j] h=some ([.vec v ls],h2))
  (hxs:∀y∈xs,y.leaves=[y]) (hone:xs.all AV.one=true) (hbound:ls.length+xs.length<=4294967296) (he:ls++xs=ls')
  (hK:∀v',SI P n ops B (k+1) (F.put (ZD ops k).dst (.val v')) (.vec v' ls'::h2)):SI P n ops B k F h:=
 Qf hk (WO.perm (UK hp) (Ss (U7 hk).2.1 ha hxs hone hbound fun v'=>by rw [he];exact hK v'))
theorem Z6s (i j:Nat) (js bs:List Nat) (ls':List AV) {v:Value} {ls xs:List AV} {hx:Option Value} (hk:Xi n ops F i=true) (ha:T0 P ops F i=some (.val v,.sl xs hx,1))
  (hp:UU [j] h=some ([.vec v ls],h2)) (hxs:∀y∈xs,y.leaves=[y]) (hone:xs.all AV.one=true) (hbound:ls.length+xs.length<=4294967296) (he:ls++xs=ls')
  (ho:Us ops i T=bs) (hj:js.map (fun j=>(WT h2)[j]?)=bs.map some)
  (hK:∀v',YY P n ops B (T.filter fun t=>!Vg ops i t.1) fuel (done++[i]) (F.put (ZD ops i).dst (.val v')) (.vec v' ls'::h2)):VM P n ops B T fuel done F h i:=
 J4 [j] js bs hk hp ho hj (Ss (h2:=[]) (U7 hk).2.1 ha hxs hone hbound fun v'=>by rw [he];exact hK v')
theorem Z6j (i:Nat) (f:FuncId) (as1 xs:List AV) (is js ks:List Nat) {h1:List Res} (bs:List Res) {R:AV->List Res->Prop} (hk:Xi n ops F i=true) (hc:Ai P ops F i=some (f,as1))
  (hp:UU is h=some (h1++bs,h2)) (ho:Us ops i T=ks) (hj:js.map (fun j=>(WT h2)[j]?)=ks.map some)
  (H:WD P f xs h1 R) (hargs:TC bs as1 xs) (hb:∀r∈bs,∃v ls,r=.vec v ls/\∀y∈ls,∃u,y=.val u)
  (hclean:∀r h',R r h'->Jl h' r/\∀q∈h',DX q)
  (hK:∀r h',R r h'->YY P n ops B (T.filter fun t=>!Vg ops i t.1) fuel (done++[i]) (F.put (ZD ops i).dst r) (h'++bs++h2)):VM P n ops B T fuel done F h i:=
 J4 is js ks hk hp ho hj (M5 (h2:=[]) (U7 hk).2.1 hc (by simp) (H.lend bs hargs hb hclean) fun r h' ⟨h1',hr,he⟩=>by rw [he];simpa using hK r h1' hr)
def TD (h h':List Res):Prop:=∀w G,Yx w G h->∃G',Yx w G' h'/\YZ w G h w G' h'
theorem Wd {h':List Res} (ht:TD h h') (H:SI P n ops B k F h'):SI P n ops B k F h:=by
 intro Q w G a hF hh hk
 obtain ⟨G',h1,h2⟩:=ht w G hh
 exact H Q w G' a (hF.mono (h2.agree hh)) h1 fun F2 h2' G2 a2 w2 b1 b2 b3 b4=>hk F2 h2' G2 a2 w2 b1 b2 b3 (h2.trans b4)
theorem TE {c:Code} {A:V8} {h':List Res} (ht:TD h h') (H:Yw P n c A F h'):Yw P n c A F h:=by
 intro w G a hF hh
 obtain ⟨G',h1,h2⟩:=ht w G hh
 exact wp_mono (H w G' a (hF.mono (h2.agree hh)) h1) fun e a' w' hc=>hc.trans h2
theorem Zkf:TD h (.vec (.slice none 0 0) []::h):=fun _ _ hh=>let ⟨a,b⟩:=Zl0 hh;⟨_,a,b⟩
theorem Zkg (j m:Nat) {v:Value} {ls:List AV} (hp:UU [j] h=some ([.vec v ls],h2)) (hle:m<=ls.length):TD h (.vec (Az v m) (ls.take m)::h2):=by
 intro w G hh
 have hp':=UK hp
 obtain ⟨a,b⟩:=Zl2 (hh.perm hp') hle
 exact ⟨G,a,b.perm hp'.symm (K9 _)⟩
theorem Z2c (is:List Nat) {h' d:List Res} (hp:UU is h=some (h',d)):TD h h':=by
 intro w G hh
 have hp':=UK hp
 refine ⟨G,(hh.perm hp').left,?_⟩
 exact ((YZ.refl w G h).perm (K9 _) hp').sub' (List.sublist_append_left _ _)
end
theorem HH (xs:LI):∀y∈Z8 xs,∃u,y=AV.val u:=by intro y hy;simp only [Z8,XG] at hy;obtain ⟨x,_,rfl⟩:=hy;exact ⟨_,rfl⟩
theorem LK (xs:LI):∀y∈Z8 xs,y.leaves=[y]:=by intro y hy;simp only [Z8,XG] at hy;obtain ⟨x,_,rfl⟩:=hy;rfl
theorem Si (xs:LI):(Z8 xs).all AV.one=true:=by rw [A9];intro y hy;simp only [Z8,XG] at hy;obtain ⟨x,_,rfl⟩:=hy;rfl
theorem Z0p (xs:LI) (i:Nat) (x:Int):(Z8 xs).set i (.i x)=Z8 (xs.set i x):=by simp [Z8,List.map_set]
theorem Tu:∀r∈([]:List Res),∃v ls,r=Res.vec v ls/\∀y∈ls,∃u,y=AV.val u:=by simp
theorem Uz {v:Value} {xs:LI} {bs:List Res} (h:∀r∈bs,∃v ls,r=Res.vec v ls/\∀y∈ls,∃u,y=AV.val u) :
  ∀r∈Res.vec v (Z8 xs)::bs,∃v ls,r=Res.vec v ls/\∀y∈ls,∃u,y=AV.val u:=by
 intro r hr
 rcases YH.1 hr with rfl|hr
 ·exact ⟨_,_,rfl,HH xs⟩
 ·exact h r hr
section
variable {P:Program} {n:Nat} {c:Code} {A:V8} {F:Fr} {h:List Res}
@[reducible] def FW (K:Fr->List Res->Prop) (A:V8):V8:=fun e F h=>
 match e with
 | .normal=>∃F' h',K F' h'/\TU F h F' h'
 | e=>A e F h
theorem Z3b {y:Code} (K:Fr->List Res->Prop) (H:Yw P n c (FW K A) F h) (hB:∀F' h',K F' h'->Yw P n y A F' h'):Yw P n c (BZ P n y A) F h:=by
 refine Ni (fun e F1 h1 hq=>?_) H
 cases e with
 | normal=>obtain ⟨F',h',k1,k2⟩:=hq;exact Cd k2 (hB F' h' k1)
 | exit id=>exact hq
 | goto l=>exact hq
 | ret=>exact hq
 | panic ch=>exact hq
 | outgrown=>exact hq
theorem Yn {ops:Array Oper} {B:Fr->List Res->Prop} {k:Nat} {F2:Fr} {h2:List Res} (hw:TU F h F2 h2) (J:SI P n ops B k F2 h2):SI P n ops B k F h:=Hp hw J
theorem Z3a {y:Code} {A2:V8} (K:Fr->List Res->Prop) (hA:∀F h,A .normal F h=Yw P n y A2 F h) (H:Yw P n c (FW K A) F h) (hB:∀F' h',K F' h'->Yw P n y A2 F' h'):Yw P n c A F h:=by
 refine Ni (fun e F1 h1 hq=>?_) H
 cases e with
 | normal=>obtain ⟨F',h',k1,k2⟩:=hq;rw [hA];exact Cd k2 (hB F' h' k1)
 | exit id=>exact hq
 | goto l=>exact hq
 | ret=>exact hq
 | panic ch=>exact hq
 | outgrown=>exact hq
end
end Go.Abs
section
namespace Go.Abs
inductive Keep:Fr->Fr->Prop
 | z {F:Fr}:Keep F []
 | r {F:Fr}:Keep F F
 | k {F F':Fr} {x:Nat × AV} (h:Keep F F'):Keep (x::F) (x::F')
 | d {F F':Fr} {x:Nat × AV} (h:Keep F F'):Keep (x::F) F'
 | p {F F':Fr} {d:Option Tmp} {x:AV} (h:Keep F F'):Keep (F.put d x) F'
 | q {F F':Fr} {d:Option Tmp} {x:AV} (t:Nat) (h:Keep F F'):Keep (F.put d x) ((t,x)::F')
 | n {F F':Fr} (t:Nat) (x:AV) (h:Keep F F'):Keep F ((t,x)::F')
def XR (is:List Nat) (h:List Res):List Res:=((UU is h).map (·.2)).getD []
def Wu (is:List Nat) (h:List Res):Option (List Res):=(UU is h).map (·.1)
theorem VS {is:List Nat} {h h1:List Res} (hp:Wu is h=some h1):UU is h=some (h1,XR is h):=by
 unfold Wu at hp
 unfold XR
 cases hq:UU is h with
 | none=>rw [hq] at hp;cases hp
 | some x=>rw [hq] at hp;cases hp;rfl
abbrev Z4 (xs:LI):AV:=.sl (Z8 xs) none
abbrev KH (xs:List LI):AV:=.sl (Wt xs) none
abbrev Ja (xs:List Yg):AV:=.sl (XV xs) none
abbrev ZM (xs:List Zf):AV:=.sl (YB xs) none
abbrev Vl (xs:List Z5):AV:=.sl (ZG xs) none
abbrev XO (xs:List Z7):AV:=.sl (YR xs) none
abbrev Kh (xs:List Yb):AV:=.sl (YX xs) none
abbrev ZQ (xs:LI) (v:Value):AV:=.sl (Z8 xs) (some v)
abbrev BL (xs:List LI) (v:Value):AV:=.sl (Wt xs) (some v)
abbrev H9 (xs:List Yg) (v:Value):AV:=.sl (XV xs) (some v)
abbrev Aw (xs:List Zf) (v:Value):AV:=.sl (YB xs) (some v)
abbrev X9 (xs:List Z5) (v:Value):AV:=.sl (ZG xs) (some v)
abbrev Q4 (xs:List Z7) (v:Value):AV:=.sl (YR xs) (some v)
abbrev VD (xs:List Yb) (v:Value):AV:=.sl (YX xs) (some v)
abbrev Dw (c:Yg):List AV:=[Z4 c.fields]
abbrev Q2 (d:Zf):List AV:=[.i d.frm,.i d.to_,Ja d.cons]
abbrev Xz (s:Z5):List AV:=[.i s.op,.i s.num,.i s.into,Z4 s.args,XO s.kids]
abbrev Xu (b:Z7):List AV:=[Vl b.steps,.i b.result]
abbrev Tt (r:Yb):List AV:=[Z4 r.params,Z4 r.lent,.i r.result,Vl r.body.steps,.i r.body.result]
abbrev YV (n:Zl):List AV:=[ZM n.decls,Kh n.routines]
abbrev S0:Value:=.slice none 0 0
structure Hd where
 a:Option Addr
 l:Nat
 c:Nat
abbrev Hd.v (g:Hd):Value:=.slice g.a g.l g.c
abbrev Hd.cut (g:Hd) (m:Nat):Hd:=⟨g.a,m,g.c⟩
abbrev hN:Hd:=⟨none,0,0⟩
abbrev AV.h (g:Hd):AV:=.val g.v
abbrev rV (g:Hd) (xs:LI):Res:=.vec g.v (Z8 xs)
section
variable {P:Program} {n:Nat} {c:Code} {A:V8} {F:Fr} {h:List Res} {ops:Array Oper} {B:Fr->List Res->Prop} {k:Nat}
variable {T:List (Nat × List Nat)} {fuel:Nat} {done:List Nat}
theorem aq (ha:Yw P n (YN c) (BZ P n (Un c) A) F h) (hk:Xo c=3:=by kernel_rfl):Yw P n c A F h:=HZ hk ha
theorem ar (hs:SI P n (XQ (YN c)) (fun F h=>Yw P n (Un c) A F h) 0 F h) (hk:Xo c=3:=by kernel_rfl) (hk1:Xo (YN c)=1:=by kernel_rfl):Yw P n c A F h:=Z3e hk hk1 (PI hs)
theorem az (hs:SI P n (XQ c) (A .normal) 0 F h) (hk:Xo c=1:=by kernel_rfl):Yw P n c A F h:=Nj hk (PI hs)
theorem aD (k:Nat) (hs:YY P n (XQ (YN c)) (fun F h=>Yw P n (Un c) A F h) [] k [] F h) (hk:Xo c=3:=by kernel_rfl) (hk2:Xo (YN c)=2:=by kernel_rfl) (hm:P.follows .mixedOrders=true:=by kernel_rfl)
  (Xv:(XQ (YN c)).size=k:=by kernel_rfl):Yw P n c A F h:=Z3f hk hk2 hm Xv hs
theorem aE (k:Nat) (hs:YY P n (XQ c) (A .normal) [] k [] F h) (hk:Xo c=2:=by kernel_rfl) (hm:P.follows .mixedOrders=true:=by kernel_rfl)
  (Xv:(XQ c).size=k:=by kernel_rfl):Yw P n c A F h:=Nk hk hm Xv hs
theorem ak (h0:A .normal F h) (hk:Xo c=0:=by kernel_rfl):Yw P n c A F h:=Z3j hk h0
theorem ax (id:Nat) (h0:A (.exit id) F h) (hk:Xo c=7:=by kernel_rfl) (hi:J2 c=id:=by kernel_rfl):Yw P n c A F h:=Z3c id hk hi h0
theorem ab (id:Nat) (ha:Yw P n (YN c) (FK id A) F h) (hk:Xo c=5:=by kernel_rfl) (hi:J2 c=id:=by kernel_rfl):Yw P n c A F h:=Z39 id hk hi ha
theorem ac (b:Bool) {p:Prop} (hp:b=true↔p) (h1:p->Yw P n (YN c) A F h) (h2:¬p->Yw P n (Un c) A F h) (hk:Xo c=4:=by kernel_rfl) (hc:F.ev (AL c)=.val (.bool b):=by kernel_rfl) :
  Yw P n c A F h:=HY hk hc hp h1 h2
theorem Wg (h1:Yw P n (YN c) A F h) (hk:Xo c=4:=by kernel_rfl) (hc:F.ev (AL c)=.val (.bool true):=by kernel_rfl):Yw P n c A F h:=
 HY (p:=True) hk hc (by simp) (fun _=>h1) (fun q=>absurd trivial q)
theorem WF (h1:Yw P n (Un c) A F h) (hk:Xo c=4:=by kernel_rfl) (hc:F.ev (AL c)=.val (.bool false):=by kernel_rfl):Yw P n c A F h:=
 HY (p:=False) hk hc (by simp) (fun q=>q.elim) (fun _=>h1)
theorem al (Inv:Nat->Fr->List Res->Prop) (m0:Nat) (F0:Fr) (h0:List Res) (hi:Inv m0 F0 h0) (hw:TU F h F0 h0)
  (hr:∀m F h,Inv m F h->Yw P n (YN c) (LT Inv m A) F h) (hk:Xo c=6:=by kernel_rfl):Yw P n c A F h:=Z3d Inv hk hi hw hr
theorem wk {F':Fr} {h1 h':List Res} (is:List Nat) (hF:F.Le F') (e:h1=h':=by exact rfl) (hp:Wu is h=some h1:=by kernel_rfl):TU F h F' h':=e▸Zl9 is hF (VS hp)
theorem fl {F F':Fr} (h:F'.map (fun p=>(F.get p.1).like p.2)=F'.map (·.2):=by kernel_rfl):F.Le F':=L8 h
theorem fc {F F':Fr} {t:Nat} {x y:AV} (hxy:Zc x y) (hr:F.Le F') (hx:F.get t=x:=by kernel_rfl):F.Le ((t,y)::F'):=Dk hx hxy hr
theorem lr (x:AV):Zc x x:=Zc.refl x
abbrev nl:AV:=.sl [] (some (.slice none 0 0))
theorem Keep.w {F F':Fr} {a b c d:Nat×AV} (h:Keep F F'):Keep (a::b::c::d::F) (a::b::c::d::F'):=.k (.k (.k (.k h)))
theorem dq {p:Prop} [Decidable p]:decide p=true↔p:=decide_eq_true_iff
theorem fr {F F':Fr} {t:Nat} {x:AV} (hr:F.Le F') (hx:F.get t=x:=by kernel_rfl):F.Le ((t,x)::F'):=fc (lr _) hr hx
theorem li {a b:Int} (h:a=b:=by exact ob):Zc (.i a) (.i b):=Zc.i h
theorem lb {a b:Bool} (h:a=b:=by exact ob):Zc (.b a) (.b b):=Zc.b h
theorem r1 {fn:Func} {R:AV->List Res->Prop} {e:Exit} {h1 h':List Res} {r:AV} (is:List Nat) (hR:R r h') (eq:h1=h':=by exact rfl) (he:(match e with|.normal|.ret=>true|_=>false)=true:=by kernel_rfl)
  (hr:KJ P F h fn.results.toList []=some ([r],[]):=by kernel_rfl) (hp:Wu is h=some h1:=by kernel_rfl):Bq P fn R e F h:=
 Me he [] hr (by simp) ⟨_,eq▸UK (VS hp)⟩ (Zc.refl _) hR
theorem r2 {fn:Func} {R:AV->List Res->Prop} {e:Exit} {h1 h':List Res} {r:AV} (is:List Nat) (xs:List AV) (hR:R r h') (hle:Zc (B9 xs) r) (eq:h1=h':=by exact rfl) (he:(match e with|.normal|.ret=>true|_=>false)=true:=by kernel_rfl)
  (hr:KJ P F h fn.results.toList []=some (xs,[]):=by kernel_rfl) (hp:Wu is h=some h1:=by kernel_rfl):Bq P fn R e F h:=
 Me he [] hr (by simp) ⟨_,eq▸UK (VS hp)⟩ hle hR
theorem r3 {fn:Func} {R:AV->List Res->Prop} {e:Exit} {h1 h':List Res} {r:AV} (is:List Nat) (xs:List AV) (hints:List Nat) (es:List (Nat × Nat)) (hR:R r h') (hle:Zc (B9 xs) r)
  (eq:h1=h':=by exact rfl) (he:(match e with|.normal|.ret=>true|_=>false)=true:=by kernel_rfl)
  (hr:KJ P F h fn.results.toList hints=some (xs,es):=by kernel_rfl) (hp:Wu is h=some h1:=by kernel_rfl) (hes:∀p∈es,p.1=p.2:=by simp):Bq P fn R e F h:=
 Me he hints hr hes ⟨_,eq▸UK (VS hp)⟩ hle hR
theorem ZB (h0:A .ret F h) (hk:Xo c=8:=by kernel_rfl):Yw P n c A F h:=Z3g hk h0
theorem ie (hB:B F h) (hk:Nat.ble ops.size k=true:=by kernel_rfl):SI P n ops B k F h:=PH hk hB
theorem io (x':AV) (x:AV) (hx:Zc x x') (H:SI P n ops B (k+1) (F.put (ZD ops k).dst x') h) (hk:Xi n ops F k=true:=by kernel_rfl) (he:QN P (ZD ops k) F h 0=some (x,[]):=by kernel_rfl):SI P n ops B k F h:=
 Zb6 x' hk he hx H
theorem Zq {x:AV} (hs:XB P (ZD ops k) F h [] x) (H:SI P n ops B (k+1) (F.put (ZD ops k).dst x) h) (hk:Xi n ops F k=true:=by kernel_rfl):SI P n ops B k F h:=CD hk hs H
theorem ia (r s:Int) (H:SI P n ops B (k+1) (F.put (ZD ops k).dst (.i r)) h) (hb:-9223372036854775808<=r/\r<=9223372036854775807:=by omega) (hs:s=r:=by omega)
  (hk:Xi n ops F k=true:=by kernel_rfl) (ha:Af ops F k=some s:=by kernel_rfl):SI P n ops B k F h:=Zb0 r hk ha hs hb H
theorem ic (is:List Nat) {f:FuncId} {xs:List AV} {h1:List Res} {R:AV->List Res->Prop} (H:WD P f xs h1 R)
  (hK:∀r h',R r h'->SI P n ops B (k+1) (F.put (ZD ops k).dst r) (h'++XR is h)) (hk:Xi n ops F k=true:=by kernel_rfl) (hc:Ai P ops F k=some (f,xs):=by kernel_rfl)
  (hp:Wu is h=some h1:=by kernel_rfl):SI P n ops B k F h:=Zb1 f xs is hk hc (VS hp) H hK
theorem iA (ls:List AV) (hK:∀b,SI P n ops B (k+1) (F.put (ZD ops k).dst (.p b 0)) (.obj b ls::h)) (hk:Xi n ops F k=true:=by kernel_rfl) (ha:D1 P ops F k=some ls:=by kernel_rfl):SI P n ops B k F h:=
 Zay ls hk ha hK
theorem iS (j b o:Nat) (xs ls ls':List AV) (H:SI P n ops B (k+1) F (.obj b ls'::XR [j] h)) (hk:Xi n ops F k=true:=by kernel_rfl) (hs:storeAt P ops F k=some (b,o,xs):=by kernel_rfl)
  (hp:Wu [j] h=some [.obj b ls]:=by kernel_rfl) (hle:Nat.ble (o+xs.length) ls.length=true:=by kernel_rfl) (he:ls.take o++xs++ls.drop (o+xs.length)=ls':=by kernel_rfl):SI P n ops B k F h:=
 Zb8 j ls' hk hs (VS hp) hle he H
theorem iL (es:List AV) (len sz:Nat) (hK:∀v,SI P n ops B (k+1) (F.put (ZD ops k).dst (.sl es (some v))) (.tail v sz::h)) (hk:Xi n ops F k=true:=by kernel_rfl)
  (ha:Q3 P ops F k=some (Zh es,len,sz):=by kernel_rfl) (hlen:es.length=len:=by kernel_rfl) (hall:AJ es sz=true:=by kernel_rfl):SI P n ops B k F h:=Zb4 es hk ha hlen hall hK
theorem ip (j:Nat) (es' es xs:List AV) (hv:Value) (hx:Option Value) (sz:Nat) (hes:∀y∈es,y.leaves.length=sz) (hxs:∀y∈xs,y.leaves.length=sz)
  (hone:(Zh xs).all AV.one=true) (hbound:es.length+xs.length<=4294967296) (he:es++xs=es') (hK:∀v',SI P n ops B (k+1) (F.put (ZD ops k).dst (.sl es' (some v'))) (.tail v' sz::XR [j] h))
  (hk:Xi n ops F k=true:=by kernel_rfl) (ha:T0 P ops F k=some (.sl es (some hv),.sl xs hx,sz):=by kernel_rfl) (hp:Wu [j] h=some [.tail hv sz]:=by kernel_rfl):SI P n ops B k F h:=
 Zaz j es' hk ha (VS hp) hes hxs hone hbound he hK
theorem ib {b:Bool} (t:Nat) (h1:b=true->SI P n ops B k ((t,.b true)::F) h) (h2:b=false->SI P n ops B k ((t,.b false)::F) h) (hF:F.get t=.b b:=by kernel_rfl):SI P n ops B k F h:=Zb7 t hF h1 h2
theorem dT (m:Nat) (is:List Nat) (F':Fr) (hints bs:List Nat) (H:YY P n ops B ((BM P n ops h is done F hints).reverse++T) fuel (done++is) F' h) (hf:m=fuel+is.length:=by kernel_rfl)
  (he:Mt P n ops h is done F hints F'=some (F'.map (·.2),bs,bs):=by kernel_rfl) (hs:Region.noSelect ops=true:=by kernel_rfl):YY P n ops B T m done F h:=Z6r is F' hints bs hs he hf H
theorem de (hB:B F h) (hr:Region.ready .any ops (V2 ops done)=[]:=by kernel_rfl):YY P n ops B T fuel done F h:=Z6l hr hB
theorem Z9 (i:Nat) (H:VM P n ops B T fuel done F h i) (hr:Region.ready .any ops (V2 ops done)=[i]:=by kernel_rfl):YY P n ops B T (fuel+1) done F h:=Z6o hr H
theorem dx (i:Nat) {x:AV} (hx:XB P (ZD ops i) F h [] x) (H:YY P n ops B ((i,[])::T) fuel (done++[i]) (F.put (ZD ops i).dst x) h) (hs:Region.noSelect ops=true:=by kernel_rfl) (hk:Xi n ops F i=true:=by kernel_rfl)
  (hf:Region.free .any ops (V2 ops done) i=true:=by kernel_rfl) (hr:(Region.ready .any ops (V2 ops done)).contains i=true:=by kernel_rfl):YY P n ops B T (fuel+1) done F h:=FY i hs hk hf hr hx H
theorem dn (i:Nat) (x' x:AV) (hx:Zc x x') (H:YY P n ops B ((i,[])::T) fuel (done++[i]) (F.put (ZD ops i).dst x') h) (he:QN P (ZD ops i) F h 0=some (x,[]):=by kernel_rfl) (hs:Region.noSelect ops=true:=by kernel_rfl) (hk:Xi n ops F i=true:=by kernel_rfl)
  (hf:Region.free .any ops (V2 ops done) i=true:=by kernel_rfl) (hr:(Region.ready .any ops (V2 ops done)).contains i=true:=by kernel_rfl):YY P n ops B T (fuel+1) done F h:=Z6n i x' hs hk hf hr he hx H
theorem da (i:Nat) (r s:Int) (H:YY P n ops B ((i,[])::T) fuel (done++[i]) (F.put (ZD ops i).dst (.i r)) h) (hb:-9223372036854775808<=r/\r<=9223372036854775807:=by omega) (hse:s=r:=by omega)
  (ha:Af ops F i=some s:=by kernel_rfl) (hs:Region.noSelect ops=true:=by kernel_rfl) (hk:Xi n ops F i=true:=by kernel_rfl)
  (hf:Region.free .any ops (V2 ops done) i=true:=by kernel_rfl) (hr:(Region.ready .any ops (V2 ops done)).contains i=true:=by kernel_rfl):YY P n ops B T (fuel+1) done F h:=Z6h i r hs hk hf hr ha hse hb H
theorem dc (i:Nat) (is js bs:List Nat) {f:FuncId} {xs:List AV} {h1:List Res} {R:AV->List Res->Prop} (H:WD P f xs h1 R)
  (hK:∀r h',R r h'->YY P n ops B (T.filter fun t=>!Vg ops i t.1) fuel (done++[i]) (F.put (ZD ops i).dst r) (h'++XR is h))
  (hk:Xi n ops F i=true:=by kernel_rfl) (hc:Ai P ops F i=some (f,xs):=by kernel_rfl)
  (hp:Wu is h=some h1:=by kernel_rfl) (ho:Us ops i T=bs:=by kernel_rfl) (hj:js.map (fun j=>(WT (XR is h))[j]?)=bs.map some:=by kernel_rfl):VM P n ops B T fuel done F h i:=
 Z6i i f xs is js bs hk hc (VS hp) ho hj H hK
theorem dA (i:Nat) (js bs:List Nat) (ls:List AV) (hK:∀b,YY P n ops B (T.filter fun t=>!Vg ops i t.1) fuel (done++[i]) (F.put (ZD ops i).dst (.p b 0)) (.obj b ls::h))
  (hk:Xi n ops F i=true:=by kernel_rfl) (ha:D1 P ops F i=some ls:=by kernel_rfl) (ho:Us ops i T=bs:=by kernel_rfl) (hj:js.map (fun j=>(WT h)[j]?)=bs.map some:=by kernel_rfl):VM P n ops B T fuel done F h i:=
 Z6f i js bs ls hk ha ho hj hK
theorem dL (i:Nat) (js bs:List Nat) (es:List AV) (len sz:Nat) (hK:∀v,YY P n ops B (T.filter fun t=>!Vg ops i t.1) fuel (done++[i]) (F.put (ZD ops i).dst (.sl es (some v))) (.tail v sz::h))
  (hk:Xi n ops F i=true:=by kernel_rfl) (ha:Q3 P ops F i=some (Zh es,len,sz):=by kernel_rfl) (hlen:es.length=len:=by kernel_rfl) (hall:AJ es sz=true:=by kernel_rfl)
  (ho:Us ops i T=bs:=by kernel_rfl) (hj:js.map (fun j=>(WT h)[j]?)=bs.map some:=by kernel_rfl):VM P n ops B T fuel done F h i:=
 Z6m i js bs es hk ha hlen hall ho hj hK
theorem dp (i j:Nat) (js bs:List Nat) (es' es xs:List AV) (hv:Value) (hx:Option Value) (sz:Nat) (hes:∀y∈es,y.leaves.length=sz) (hxs:∀y∈xs,y.leaves.length=sz)
  (hone:(Zh xs).all AV.one=true) (hbound:es.length+xs.length<=4294967296) (he:es++xs=es')
  (hK:∀v',YY P n ops B (T.filter fun t=>!Vg ops i t.1) fuel (done++[i]) (F.put (ZD ops i).dst (.sl es' (some v'))) (.tail v' sz::XR [j] h))
  (hk:Xi n ops F i=true:=by kernel_rfl) (ha:T0 P ops F i=some (.sl es (some hv),.sl xs hx,sz):=by kernel_rfl) (hp:Wu [j] h=some [.tail hv sz]:=by kernel_rfl)
  (ho:Us ops i T=bs:=by kernel_rfl) (hj:js.map (fun q=>(WT (XR [j] h))[q]?)=bs.map some:=by kernel_rfl):VM P n ops B T fuel done F h i:=
 Z6g i j js bs es' hk ha (VS hp) hes hxs hone hbound he ho hj hK
theorem dS (i j:Nat) (js bs:List Nat) (b o:Nat) (xs ls ls':List AV) (H:YY P n ops B (T.filter fun t=>!Vg ops i t.1) fuel (done++[i]) F (.obj b ls'::XR [j] h))
  (hk:Xi n ops F i=true:=by kernel_rfl) (hs:storeAt P ops F i=some (b,o,xs):=by kernel_rfl)
  (hp:Wu [j] h=some [.obj b ls]:=by kernel_rfl) (hle:Nat.ble (o+xs.length) ls.length=true:=by kernel_rfl) (he:ls.take o++xs++ls.drop (o+xs.length)=ls':=by kernel_rfl) (ho:Us ops i T=bs:=by kernel_rfl)
  (hj:js.map (fun q=>(WT (XR [j] h))[q]?)=bs.map some:=by kernel_rfl):VM P n ops B T fuel done F h i:=
 Z6q i j js bs ls' hk hs (VS hp) hle he ho hj H
theorem db {b:Bool} (t:Nat) (h1:b=true->YY P n ops B T fuel done ((t,.b true)::F) h) (h2:b=false->YY P n ops B T fuel done ((t,.b false)::F) h) (hF:F.get t=.b b:=by kernel_rfl):YY P n ops B T fuel done F h:=Z6p t hF h1 h2
theorem rz:([]:List Res)=[]:=rfl
theorem rc {x:Res} {t t':List Res} (e:t=t'):x::t=x::t':=e▸rfl
theorem rv {g:Hd} {xs xs':LI} {t t':List Res} (h:xs=xs') (e:t=t'):rV g xs::t=rV g xs'::t':=h▸e▸rfl
theorem MD {v:Value} {ls:List AV} (H:∀g:Hd,v=g.v->SI P n ops B k F (.vec v ls::h)):SI P n ops B k F (.vec v ls::h):=by
 intro Q w G a hF hh
 obtain ⟨a',cap,rfl⟩:=Bt.form (hh.ok _ (Xd ..))
 exact H ⟨a',_,cap⟩ rfl Q w G a hF hh
theorem Z70 {v:Value} {ls:List AV} (H:∀g:Hd,v=g.v->YY P n ops B T fuel done F (.vec v ls::h)):YY P n ops B T fuel done F (.vec v ls::h):=by
 intro Q w G a SL hF hh
 obtain ⟨a',cap,rfl⟩:=Bt.form (hh.ok _ (Xd ..))
 exact H ⟨a',_,cap⟩ rfl Q w G a SL hF hh
theorem XB.le {o:Oper} {x y:AV} {ks:List Nat} (hs:XB P o F h ks x) (hx:Zc x y):XB P o F h ks y:=by
 intro n w G a hF hh
 obtain ⟨v,h1,h2⟩:=hs n w G a hF hh
 exact ⟨v,hx _ _ _ h1,h2⟩
theorem JO (j:Nat) (v:Hd) (xs:LI) (hl:Dx P ops F k=some (.h v):=by kernel_rfl) (hj:h[j]? = some (rV v xs):=by kernel_rfl):XB P (ZD ops k) F h [] (.i xs.length):=by
 have:=Zjs (P:=P) (F:=F) j hl hj
 rwa [Yc] at this
theorem Wy (j:Nat) (v:Hd) (xs:LI) (i:Int) (q:Nat) (h0:0<=i/\i<xs.length:=by omega) (hq:i.toNat=q:=by omega) (hi:BH P ops F k=some (.h v,i,1):=by kernel_rfl) (hj:h[j]? = some (rV v xs):=by kernel_rfl) :
  XB P (ZD ops k) F h [] (.val (.pointer (some ⟨Km v.v,q,none⟩))):=by
 have:=Zjr (P:=P) (F:=F) j hi hj h0.1 (by rw [Yc];exact h0.2)
 rwa [hq] at this
theorem Ub (j:Nat) (v:Hd) (xs:LI) (q:Nat) (y:Int) (hy:xs[q]? = some y) (hl:LR P ops F k=some (.val (.pointer (some ⟨Km v.v,q,none⟩))):=by kernel_rfl) (hj:h[j]? = some (rV v xs):=by kernel_rfl) :
  XB P (ZD ops k) F h [Km v.v] (.i y):=Zjt (P:=P) (F:=F) j hl hj (Y2 hy)
theorem Vk {ks:List Nat} {x:AV} (hs:XB P (ZD ops k) F h ks x) (H:SI P n ops B (k+1) (F.put (ZD ops k).dst x) h) (hk:Xi n ops F k=true:=by kernel_rfl):SI P n ops B k F h:=CD hk hs H
theorem Uo (i:Nat) {ks:List Nat} {x:AV} (hx:XB P (ZD ops i) F h ks x) (H:YY P n ops B ((i,ks)::T) fuel (done++[i]) (F.put (ZD ops i).dst x) h) (hs:Region.noSelect ops=true:=by kernel_rfl) (hk:Xi n ops F i=true:=by kernel_rfl)
  (hf:Region.free .any ops (V2 ops done) i=true:=by kernel_rfl) (hr:(Region.ready .any ops (V2 ops done)).contains i=true:=by kernel_rfl):YY P n ops B T (fuel+1) done F h:=FY i hs hk hf hr hx H
theorem KR (j:Nat) (v:Hd) (xs:LI) (m:Nat) (hle:m<=xs.length:=by omega) (hi:DM P ops F k=some (.h v,(m:Int)):=by kernel_rfl) (hj:h[j]? = some (rV v xs):=by kernel_rfl) :
  XB P (ZD ops k) F h [] (.h (v.cut m)):=Zju (P:=P) (F:=F) j hi hj (by rw [Yc];exact hle)
theorem Ds (j:Nat) (v:Hd) (xs:LI) (q:Nat) (y:Int) (H:SI P n ops B (k+1) F (rV v (xs.set q y)::XR [j] h)) (hlt:q<xs.length:=by omega) (hk:Xi n ops F k=true:=by kernel_rfl)
  (hs:storeAt P ops F k=some (Km v.v,q,[.i y]):=by kernel_rfl) (hp:Wu [j] h=some [rV v xs]:=by kernel_rfl):SI P n ops B k F h:=
 Zba j _ hk hs (VS hp) (by rw [Yc];exact hlt) (Z0p _ _ _) H
theorem Ak (i j:Nat) (js bs:List Nat) (v:Hd) (xs:LI) (q:Nat) (y:Int) (H:YY P n ops B (T.filter fun t=>!Vg ops i t.1) fuel (done++[i]) F (rV v (xs.set q y)::XR [j] h)) (hlt:q<xs.length:=by omega)
  (hk:Xi n ops F i=true:=by kernel_rfl)
  (hs:storeAt P ops F i=some (Km v.v,q,[.i y]):=by kernel_rfl) (hp:Wu [j] h=some [rV v xs]:=by kernel_rfl) (ho:Us ops i T=bs:=by kernel_rfl)
  (hj:js.map (fun q=>(WT (XR [j] h))[q]?)=bs.map some:=by kernel_rfl):VM P n ops B T fuel done F h i:=
 Z6t i j js bs _ hk hs (VS hp) (by rw [Yc];exact hlt) (Z0p _ _ _) ho hj H
theorem KE (j:Nat) (v:Hd) (xs ys:LI) (hx:Option Value) (hK:∀v',SI P n ops B (k+1) (F.put (ZD ops k).dst (.h v')) (rV v' (xs++ys)::XR [j] h)) (hbound:xs.length+ys.length<=4294967296:=by simp<;>omega)
  (hk:Xi n ops F k=true:=by kernel_rfl) (ha:T0 P ops F k=some (.h v,.sl (Z8 ys) hx,1):=by kernel_rfl) (hp:Wu [j] h=some [rV v xs]:=by kernel_rfl):SI P n ops B k F h:=
 Zb9 j _ hk ha (VS hp) (LK _) (Si _) (by simpa using hbound) (Wz _ _).symm fun v'=>MD fun g hg=>by subst hg;exact hK g
theorem dVP (i j:Nat) (js bs:List Nat) (v:Hd) (xs ys:LI) (hx:Option Value) (hK:∀v',YY P n ops B (T.filter fun t=>!Vg ops i t.1) fuel (done++[i]) (F.put (ZD ops i).dst (.h v')) (rV v' (xs++ys)::XR [j] h))
  (hbound:xs.length+ys.length<=4294967296:=by simp<;>omega) (hk:Xi n ops F i=true:=by kernel_rfl) (ha:T0 P ops F i=some (.h v,.sl (Z8 ys) hx,1):=by kernel_rfl) (hp:Wu [j] h=some [rV v xs]:=by kernel_rfl)
  (ho:Us ops i T=bs:=by kernel_rfl) (hj:js.map (fun q=>(WT (XR [j] h))[q]?)=bs.map some:=by kernel_rfl):VM P n ops B T fuel done F h i:=
 Z6s i j js bs _ hk ha (VS hp) (LK _) (Si _) (by simpa using hbound) (Wz _ _).symm ho hj fun v'=>Z70 fun g hg=>by subst hg;exact hK g
theorem PG (xs:LI) (len:Nat) (hK:∀v,SI P n ops B (k+1) (F.put (ZD ops k).dst (.h v)) (rV v xs::h)) (hk:Xi n ops F k=true:=by kernel_rfl) (ha:Q3 P ops F k=some (Z8 xs,len,1):=by kernel_rfl)
  (hlen:xs.length=len:=by kernel_rfl):SI P n ops B k F h:=Zb5 _ hk ha (by rw [Yc];exact hlen) fun v'=>MD fun g hg=>by subst hg;exact hK g
def DW (R:AV->List Res->Prop):Prop:=∀r h',R r h'->Jl h' r/\∀q∈h',DX q
theorem D8 {x:Value}:DW fun r h=>r=.val x/\h=[]:=by rintro _ _ ⟨rfl,rfl⟩;exact ⟨.val,by simp⟩
theorem JW {xs:LI}:DW fun r h=>∃v:Hd,r=.h v/\h=[rV v xs]:=by
 rintro _ _ ⟨v,rfl,rfl⟩;exact ⟨.val,by simpa [DX] using HH xs⟩
theorem Tl (i:Nat) (is js ks:List Nat) {f:FuncId} {as1 xs:List AV} {h1:List Res} (bs:List Res) {R:AV->List Res->Prop} (H:WD P f xs h1 R) (hcl:DW R) (hargs:TC bs as1 xs)
  (hb:∀r∈bs,∃v ls,r=.vec v ls/\∀y∈ls,∃u,y=.val u)
  (hK:∀r h',R r h'->YY P n ops B (T.filter fun t=>!Vg ops i t.1) fuel (done++[i]) (F.put (ZD ops i).dst r) (h'++(bs++XR is h)))
  (hk:Xi n ops F i=true:=by kernel_rfl) (hc:Ai P ops F i=some (f,as1):=by kernel_rfl)
  (hp:Wu is h=some (h1++bs):=by kernel_rfl) (ho:Us ops i T=ks:=by kernel_rfl) (hj:js.map (fun j=>(WT (XR is h))[j]?)=ks.map some:=by kernel_rfl):VM P n ops B T fuel done F h i:=
 Z6j i f as1 xs is js ks bs hk hc (VS hp) ho hj H hargs hb hcl fun r h' hr=>by rw [UC];exact hK r h' hr
theorem gN {bs:List Res}:TC bs [] []:=.nil
theorem RU {bs:List Res} {r:Res} (i:Nat) (h:bs[i]? = some r):r∈bs:=Y4 h
theorem gS {bs:List Res} {x:AV} {as1 xs:List AV} (t:TC bs as1 xs):TC bs (x::as1) (x::xs):=.same t
theorem gL {bs:List Res} {v:Hd} {ys:LI} {as1 xs:List AV} (i:Nat) (t:TC bs as1 xs) (h:bs[i]? = some (rV v ys):=by kernel_rfl):TC bs (.h v::as1) (Z4 ys::xs):=.lent (RU i h) t
theorem gC {bs:List Res} {v:Hd} {ys:LI} {as1 xs:List AV} (i m:Nat) (t:TC bs as1 xs) (hm:m<=ys.length:=by omega) (h:bs[i]? = some (rV v ys):=by kernel_rfl) :
  TC bs (.h (v.cut m)::as1) (Z4 (ys.take m)::xs):=by
 have:=TC.cut (RU i h) (m:=m) (by rw [Yc];exact hm) t
 rwa [JY] at this
theorem Z2d (j:Nat) (b':Nat) (ls ls':List AV) (hle:Ve ls ls') (hp:Wu [j] h=some [.obj b' ls]:=by kernel_rfl):TD h (.obj b' ls'::XR [j] h):=by
 intro w G hh
 have hp':=UK (VS hp)
 have hh':=hh.perm hp'
 have hpw:=Vn.1 hh'.apart
 refine ⟨G,⟨fun r hr=>?_,Vn.2 ⟨fun r hr=>hpw.1 r hr,hpw.2⟩,fun r hr=>?_,hh'.lt⟩,?_⟩
 ·rcases YH.1 hr with rfl|hr
  ·obtain ⟨cs,e,h1,h2⟩:=hh'.ok _ (Xd ..)
   exact ⟨cs,e,h1,Ve.cs hle h2⟩
  ·exact hh'.ok r (Xp _ hr)
 ·rcases YH.1 hr with rfl|hr
  ·exact fun b o hf hg=>hh'.prot (.obj b' ls) (Xd ..) b o hf hg
  ·exact hh'.prot r (Xp _ hr)
 ·refine ⟨rfl,rfl,rfl,X6 _,fun _ _ h=>h,fun _ _=>.inl rfl,fun _ _ _ h=>.inl h,?_⟩
  rintro b2 o _ ⟨r,hr,hf⟩
  rw [BD hp']
  rcases YH.1 hr with rfl|hr
  ·exact ⟨_,Xd ..,hf⟩
  ·exact ⟨r,Xp _ hr,hf⟩
theorem Zc.hd {es:List AV} {v:Hd}:Zc (.sl es (some v.v)) (.h v):=by
 intro w G u h
 cases h with
 | nil hh=>rw [<-hh _ rfl];exact .val
 | sl hh _ _=>rw [<-hh _ rfl];exact .val
theorem CT (j m:Nat) (v:Hd) (xs:LI) (hle:m<=xs.length:=by omega) (hp:Wu [j] h=some [rV v xs]:=by kernel_rfl):TD h (rV (v.cut m) (xs.take m)::XR [j] h):=by
 have:=Zkg (h:=h) j m (VS hp) (by rw [Yc];exact hle)
 rwa [JY] at this
theorem A7:TD h (rV hN []::h):=Zkf
theorem Jr {h':List Res} (ht:TD h h') (H:YY P n ops B T fuel done F h'):YY P n ops B T fuel done F h:=by
 intro Q w G a SL hF hh hQ hcl hcov hk
 obtain ⟨G',h1,h2⟩:=ht w G hh
 exact H Q w G' a SL (hF.mono (h2.agree hh)) h1 hQ hcl (fun p hp=>let ⟨t,ht,e,f⟩:=hcov p hp;⟨t,ht,e,fun w' hw hb=>f w' (fun b o hg=>hw b o (h2.sub b o hg)) hb⟩)
  fun F2 h2' G2 a2 w2 b1 b2 b3 b4=>hk F2 h2' G2 a2 w2 b1 b2 b3 (h2.trans b4)
end
end Go.Abs
namespace Go.Abs
section
variable {P:Program} {n:Nat} {ops:Array Oper} {B:Fr->List Res->Prop} {k:Nat} {F:Fr} {h:List Res}
variable {T:List (Nat × List Nat)} {fuel:Nat} {done:List Nat} {c:Code} {A:V8}
def qF (P:Program) (n:Nat) (ops:Array Oper) (h:List Res) (k m:Nat) (F:Fr) (hints:List Nat):Fr:=
 match Kj P n ops h m (ops.toList.drop k) F hints with|some (_,F1,_)=>F1|none=>F
def qA (P:Program) (n:Nat) (ops:Array Oper) (h:List Res) (k m:Nat) (F:Fr) (hints:List Nat):List Nat:=
 match Kj P n ops h m (ops.toList.drop k) F hints with|some (_,_,es)=>es.map (·.1)|none=>[0]
def qB (P:Program) (n:Nat) (ops:Array Oper) (h:List Res) (k m:Nat) (F:Fr) (hints:List Nat):List Nat:=
 match Kj P n ops h m (ops.toList.drop k) F hints with|some (_,_,es)=>es.map (·.2)|none=>[1]
theorem ZL (m:Nat) (hints:List Nat) (H:SI P n ops B (k+m) (qF P n ops h k m F hints) h) (he:qA P n ops h k m F hints=qB P n ops h k m F hints:=by kernel_rfl):SI P n ops B k F h:=by
 unfold qA qB at he
 unfold qF at H
 cases hr:Kj P n ops h m (ops.toList.drop k) F hints with
 | none=>rw [hr] at he;cases he
 | some y=>
  obtain ⟨l,F1,es⟩:=y
  rw [hr] at he H
  have hd:=Mv m hr
  rw [List.drop_drop] at hd
  refine My m hr (M8 he) ?_
  rw [hd]
  exact H
theorem Z1 (m:Nat) (H:SI P n ops B (k+m) (qF P n ops h k m F []) h) (he:qA P n ops h k m F []=qB P n ops h k m F []:=by kernel_rfl):SI P n ops B k F h:=ZL m [] H he
theorem VY (hints:List Nat) (H:B (qF P n ops h k (ops.size-k) F hints) h) (he:qA P n ops h k (ops.size-k) F hints=qB P n ops h k (ops.size-k) F hints:=by kernel_rfl):SI P n ops B k F h:=
 ZL (ops.size-k) hints (PH (Nat.ble_eq_true_of_le om) H) he
theorem Z0 (H:B (qF P n ops h k (ops.size-k) F []) h) (he:qA P n ops h k (ops.size-k) F []=qB P n ops h k (ops.size-k) F []:=by kernel_rfl):SI P n ops B k F h:=VY [] H he
def CK (P:Program) (n:Nat) (ops:Array Oper) (h:List Res) (is done:List Nat) (F:Fr) (hints:List Nat):Fr:=
 match KL P n ops h is done F hints with|some (F1,_)=>F1|none=>F
def EY (P:Program) (n:Nat) (ops:Array Oper) (h:List Res) (is done:List Nat) (F:Fr) (hints:List Nat):List Nat:=
 match KL P n ops h is done F hints with|some (_,es)=>es.flatMap (fun e=>e.2.map (·.1))|none=>[0]
def EZ (P:Program) (n:Nat) (ops:Array Oper) (h:List Res) (is done:List Nat) (F:Fr) (hints:List Nat):List Nat:=
 match KL P n ops h is done F hints with|some (_,es)=>es.flatMap (fun e=>e.2.map (·.2))|none=>[1]
theorem ZI (f m:Nat) (is:List Nat) (hints:List Nat) (H:YY P n ops B ((BM P n ops h is done F hints).reverse++T) f (done++is) (CK P n ops h is done F hints) h) (hf:m=f+is.length:=by kernel_rfl)
  (he:EY P n ops h is done F hints=EZ P n ops h is done F hints:=by kernel_rfl) (hs:Region.noSelect ops=true:=by kernel_rfl):YY P n ops B T m done F h:=by
 unfold EY EZ at he
 unfold BM CK at H
 cases hr:KL P n ops h is done F hints with
 | none=>rw [hr] at he;cases he
 | some y=>
  obtain ⟨F1,es⟩:=y
  rw [hr] at he H
  exact FX is hs hr (M9 he) hf H
theorem Zj (f m:Nat) (is:List Nat) (H:YY P n ops B ((BM P n ops h is done F []).reverse++T) f (done++is) (CK P n ops h is done F []) h) (hf:m=f+is.length:=by kernel_rfl)
  (he:EY P n ops h is done F []=EZ P n ops h is done F []:=by kernel_rfl) (hs:Region.noSelect ops=true:=by kernel_rfl):YY P n ops B T m done F h:=ZI f m is [] H hf he hs
def ER (ov F:Fr):Fr:=ov++F
theorem L9 {F':Fr} (hr:F.Le F'):∀(ov:Fr),ov.map (fun p=>(F.get p.1).like p.2)=ov.map (·.2)->F.Le (ER ov F')
 | [],_=>hr
 | (t,y)::ov,he=>by
  simp only [VZ,List.cons.injEq] at he
  have h1:F.Le [(t,y)]:=L8 (by simp [he.1])
  intro w G v s hv
  have h2:=h1 w G v s hv
  have h3:=L9 hr ov he.2 w G v s hv
  show RV w G (match Nat.beq t s with|true=>y|false=>Fr.get (ov++F') s) v
  change RV w G (match Nat.beq t s with|true=>y|false=>Fr.get [] s) v at h2
  cases hq:Nat.beq t s with
  | true=>rw [hq] at h2;exact h2
  | false=>exact h3
theorem K6 (m:Nat) (ov:Fr) (hints:List Nat) (H:SI P n ops B (k+m) (ER ov (qF P n ops h k m F hints)) h) (he:qA P n ops h k m F hints=qB P n ops h k m F hints:=by kernel_rfl)
  (ho:ov.map (fun p=>((qF P n ops h k m F hints).get p.1).like p.2)=ov.map (·.2):=by kernel_rfl):SI P n ops B k F h:=
 ZL m hints (Hp (h':=h) ⟨L9 (Fr.Le.refl _) ov ho,[],by simp⟩ H) he
theorem ZT (m:Nat) (ov:Fr) (H:SI P n ops B (k+m) (ER ov (qF P n ops h k m F [])) h) (he:qA P n ops h k m F []=qB P n ops h k m F []:=by kernel_rfl)
  (ho:ov.map (fun p=>((qF P n ops h k m F []).get p.1).like p.2)=ov.map (·.2):=by kernel_rfl):SI P n ops B k F h:=K6 m ov [] H he ho
theorem Eb (f m:Nat) (is:List Nat) (ov:Fr) (hints:List Nat) (H:YY P n ops B ((BM P n ops h is done F hints).reverse++T) f (done++is) (ER ov (CK P n ops h is done F hints)) h) (hf:m=f+is.length:=by kernel_rfl)
  (he:EY P n ops h is done F hints=EZ P n ops h is done F hints:=by kernel_rfl) (hs:Region.noSelect ops=true:=by kernel_rfl)
  (ho:ov.map (fun p=>((CK P n ops h is done F hints).get p.1).like p.2)=ov.map (·.2):=by kernel_rfl):YY P n ops B T m done F h:=
 ZI f m is hints (FZ (L9 (Fr.Le.refl _) ov ho) H) hf he hs
theorem YA (f m:Nat) (is:List Nat) (ov:Fr) (H:YY P n ops B ((BM P n ops h is done F []).reverse++T) f (done++is) (ER ov (CK P n ops h is done F [])) h) (hf:m=f+is.length:=by kernel_rfl)
  (he:EY P n ops h is done F []=EZ P n ops h is done F []:=by kernel_rfl) (hs:Region.noSelect ops=true:=by kernel_rfl)
  (ho:ov.map (fun p=>((CK P n ops h is done F []).get p.1).like p.2)=ov.map (·.2):=by kernel_rfl):YY P n ops B T m done F h:=Eb f m is ov [] H hf he hs ho
def sF (ts:List Nat) (F ov:Fr):Fr:=ov++ts.map (fun t=>(t,F.get t))
def Ze (h:List Res) (i:Nat):Res:=match h[i]? with|some r=>r|none=>.tail S0 0
theorem Y3 (Inv:Fr->List Res->Nat->Fr->List Res->Prop) (m0:Nat) (F0:Fr) (h0:List Res) (hi:Inv F h m0 F0 h0) (hw:TU F h F0 h0)
  (hr:∀m F' h',Inv F h m F' h'->Yw P n (YN c) (LT (Inv F h) m A) F' h') (hk:Xo c=6:=by kernel_rfl):Yw P n c A F h:=al (Inv F h) m0 F0 h0 hi hw hr hk
theorem Wm {y:Code} (K:Fr->List Res->Fr->List Res->Prop) (H:Yw P n c (FW (K F h) A) F h) (hB:∀F' h',K F h F' h'->Yw P n y A F' h'):Yw P n c (BZ P n y A) F h:=Z3b (K F h) H hB
theorem J3 {y:Code} {A2:V8} (K:Fr->List Res->Fr->List Res->Prop) (hA:∀F h,A .normal F h=Yw P n y A2 F h) (H:Yw P n c (FW (K F h) A) F h) (hB:∀F' h',K F h F' h'->Yw P n y A2 F' h'):Yw P n c A F h:=Z3a (K F h) hA H hB
theorem Xx {c:Code} {A:V8} (ts:List Nat) (ov:Fr) (K:List Res->List Res) (H:SI P n ops (fun F1 h1=>TU F1 h1 (sF ts F ov) (K h)) k F h) (hB:Yw P n c A (sF ts F ov) (K h)):SI P n ops (fun F h=>Yw P n c A F h) k F h:=Zb3 (sF ts F ov) (K h) H hB
theorem Aj {c:Code} {A:V8} (ts:List Nat) (ov:Fr) (K:List Res->List Res) (H:YY P n ops (fun F1 h1=>TU F1 h1 (sF ts F ov) (K h)) T fuel done F h) (hB:Yw P n c A (sF ts F ov) (K h)):YY P n ops (fun F h=>Yw P n c A F h) T fuel done F h:=Z6k (sF ts F ov) (K h) H hB
theorem XA (k2:Nat) (ts:List Nat) (ov:Fr) (K:List Res->List Res) (J:SI P n ops B k2 (sF ts F ov) (K h)) (H:SI P n ops B k2 (sF ts F ov) (K h)->SI P n ops B k F h):SI P n ops B k F h:=H J
end
end Go.Abs
namespace Go.Abs
theorem fw {F F':Fr} {t u:Nat} {x y:AV} (hr:F.Le F') (hx:F.get t=x:=by kernel_rfl) (hy:F.get u=y:=by kernel_rfl):F.Le ((t,x)::(u,y)::F'):=fr (fr hr hy) hx
theorem fq {F F':Fr} {t u v w:Nat} {x y z q:AV} (hr:F.Le F') (hx:F.get t=x:=by kernel_rfl) (hy:F.get u=y:=by kernel_rfl) (hz:F.get v=z:=by kernel_rfl) (hq:F.get w=q:=by kernel_rfl):F.Le ((t,x)::(u,y)::(v,z)::(w,q)::F'):=fw (fw hr hz hq) hx hy
section
variable {P:Program} {n:Nat} {ops:Array Oper} {B:Fr->List Res->Prop} {k:Nat} {F:Fr} {h:List Res}
theorem iw {a b:Nat} (e:a=b) (H:SI P n ops B (k+1) (F.put (ZD ops k).dst (.i b)) h) (hk:Xi n ops F k=true:=by kernel_rfl) (he:QN P (ZD ops k) F h 0=some (.i a,[]):=by kernel_rfl):SI P n ops B k F h:=io (.i b) (.i a) (li (by rw [e])) H hk he
theorem dw (i:Nat) {T:List (Nat×List Nat)} {fuel:Nat} {done:List Nat} {a b:Nat} (e:a=b) (H:YY P n ops B ((i,[])::T) fuel (done++[i]) (F.put (ZD ops i).dst (.i b)) h) (he:QN P (ZD ops i) F h 0=some (.i a,[]):=by kernel_rfl) (hs:Region.noSelect ops=true:=by kernel_rfl) (hk:Xi n ops F i=true:=by kernel_rfl)
 (hf:Region.free .any ops (V2 ops done) i=true:=by kernel_rfl) (hr:(Region.ready .any ops (V2 ops done)).contains i=true:=by kernel_rfl):YY P n ops B T (fuel+1) done F h:=dn i (.i b) (.i a) (li (by rw [e])) H he hs hk hf hr
end
end Go.Abs
namespace Go.Abs
section
variable {P:Program} {n:Nat} {ops:Array Oper} {B:Fr->List Res->Prop} {k:Nat} {F:Fr} {h:List Res}
variable {T:List (Nat × List Nat)} {fuel:Nat} {done:List Nat} {c:Code} {A:V8}
theorem Zm (hv:Option Value) (j:Int) (sz:Nat) {es:List AV} {y:AV} (hget:es[j.toNat]? = some y) (hi:BH P ops F k=some (.sl es hv,j,sz):=by kernel_rfl) (h0:0<=j:=by omega) (hy:y.leaves.length=sz:=by rfl) :
  XB P (ZD ops k) F h [] (.rp y.leaves):=Bd hi h0 hget hy
def HB (P:Program) (ops:Array Oper) (F:Fr) (h:List Res) (j k:Nat):Option (Nat × Nat × List AV):=
 match storeAt P ops F k,Wu [j] h with
 | some (b,o,xs),some [.obj b' ls]=>match Nat.ble (o+xs.length) ls.length with | true=>some (b,b',ls.take o++xs++ls.drop (o+xs.length)) | false=>none
 | _,_=>none
theorem Z2b {j k b:Nat} {l:List AV} (hs:HB P ops F h j k=some (b,b,l)):∃o xs ls,storeAt P ops F k=some (b,o,xs)/\Wu [j] h=some [.obj b ls]/\Nat.ble (o+xs.length) ls.length=true/\ls.take o++xs++ls.drop (o+xs.length)=l:=by
 unfold HB at hs
 split at hs
 ·rename_i b1 o xs b2 ls h1 h2
  split at hs
  ·rename_i h3
   cases hs
   exact ⟨o,xs,ls,h1,h2,h3,rfl⟩
  ·cases hs
 ·cases hs
theorem ZA (j b:Nat) (ls':List AV) (H:SI P n ops B (k+1) F (.obj b ls'::XR [j] h)) (hk:Xi n ops F k=true:=by kernel_rfl) (hs:HB P ops F h j k=some (b,b,ls'):=by kernel_rfl):SI P n ops B k F h:=
 let ⟨_,_,_,h1,h2,h3,h4⟩:=Z2b hs
 iS j b _ _ _ ls' H hk h1 h2 h3 h4
theorem YM (i j:Nat) (js bs:List Nat) (b:Nat) (ls':List AV) (H:YY P n ops B (T.filter fun t=>!Vg ops i t.1) fuel (done++[i]) F (.obj b ls'::XR [j] h))
  (hk:Xi n ops F i=true:=by kernel_rfl) (hs:HB P ops F h j i=some (b,b,ls'):=by kernel_rfl) (ho:Us ops i T=bs:=by kernel_rfl)
  (hj:js.map (fun q=>(WT (XR [j] h))[q]?)=bs.map some:=by kernel_rfl):VM P n ops B T fuel done F h i:=
 let ⟨_,_,_,h1,h2,h3,h4⟩:=Z2b hs
 dS i j js bs b _ _ _ ls' H hk h1 h2 h3 h4 ho hj
theorem ZJ (q:Nat) (H:SI P n ops B (k+1) (F.put (ZD ops k).dst (.i (q+1:Nat))) h) (hb:-9223372036854775808<=((q+1:Nat):Int)/\((q+1:Nat):Int)<=9223372036854775807:=by omega)
  (hk:Xi n ops F k=true:=by kernel_rfl) (ha:Af ops F k=some ((q:Int)+1):=by kernel_rfl):SI P n ops B k F h:=ia ((q+1:Nat):Int) ((q:Int)+1) H hb om hk ha
theorem Zw (is:List Nat) {f:FuncId} {xs:List AV} {h1 h2:List Res} {r0:AV} (H:WD P f xs h1 (fun r h=>r=r0/\h=h2)) (hK:SI P n ops B (k+1) (F.put (ZD ops k).dst r0) (h2++XR is h))
  (hk:Xi n ops F k=true:=by kernel_rfl) (hc:Ai P ops F k=some (f,xs):=by kernel_rfl) (hp:Wu is h=some h1:=by kernel_rfl):SI P n ops B k F h:=
 ic is H (fun r h' hr=>by obtain ⟨rfl,rfl⟩:=hr;exact hK) hk hc hp
theorem Yz (i:Nat) (is js bs:List Nat) {f:FuncId} {xs:List AV} {h1 h2:List Res} {r0:AV} (H:WD P f xs h1 (fun r h=>r=r0/\h=h2))
  (hK:YY P n ops B (T.filter fun t=>!Vg ops i t.1) fuel (done++[i]) (F.put (ZD ops i).dst r0) (h2++XR is h))
  (hk:Xi n ops F i=true:=by kernel_rfl) (hc:Ai P ops F i=some (f,xs):=by kernel_rfl)
  (hp:Wu is h=some h1:=by kernel_rfl) (ho:Us ops i T=bs:=by kernel_rfl) (hj:js.map (fun j=>(WT (XR is h))[j]?)=bs.map some:=by kernel_rfl):VM P n ops B T fuel done F h i:=
 dc i is js bs H (fun r h' hr=>by obtain ⟨rfl,rfl⟩:=hr;exact hK) hk hc hp ho hj
theorem XF (p:Prop) [Decidable p] (h1:p->Yw P n (YN c) A F h) (h2:¬p->Yw P n (Un c) A F h) (hk:Xo c=4:=by kernel_rfl) (hc:F.ev (AL c)=.val (.bool (decide p)):=by kernel_rfl):Yw P n c A F h:=
 ac (decide p) decide_eq_true_iff h1 h2 hk hc
theorem Zy (H:Yw P n (Un c) A (qF P n (XQ (YN c)) h 0 ((XQ (YN c)).size-0) F []) h) (hk:Xo c=3:=by kernel_rfl) (hk1:Xo (YN c)=1:=by kernel_rfl)
  (he:qA P n (XQ (YN c)) h 0 ((XQ (YN c)).size-0) F []=qB P n (XQ (YN c)) h 0 ((XQ (YN c)).size-0) F []:=by kernel_rfl):Yw P n c A F h:=ar (Z0 H he) hk hk1
theorem Aq (hints:List Nat) (H:Yw P n (Un c) A (qF P n (XQ (YN c)) h 0 ((XQ (YN c)).size-0) F hints) h) (hk:Xo c=3:=by kernel_rfl) (hk1:Xo (YN c)=1:=by kernel_rfl)
  (he:qA P n (XQ (YN c)) h 0 ((XQ (YN c)).size-0) F hints=qB P n (XQ (YN c)) h 0 ((XQ (YN c)).size-0) F hints:=by kernel_rfl):Yw P n c A F h:=ar (VY hints H he) hk hk1
theorem T6 (H:A .normal (qF P n (XQ c) h 0 ((XQ c).size-0) F []) h) (hk:Xo c=1:=by kernel_rfl) (he:qA P n (XQ c) h 0 ((XQ c).size-0) F []=qB P n (XQ c) h 0 ((XQ c).size-0) F []:=by kernel_rfl):Yw P n c A F h:=az (Z0 H he) hk
theorem Y1 (m:Nat) (H:SI P n (XQ (YN c)) (fun F h=>Yw P n (Un c) A F h) (0+m) (qF P n (XQ (YN c)) h 0 m F []) h) (hk:Xo c=3:=by kernel_rfl) (hk1:Xo (YN c)=1:=by kernel_rfl)
  (he:qA P n (XQ (YN c)) h 0 m F []=qB P n (XQ (YN c)) h 0 m F []:=by kernel_rfl):Yw P n c A F h:=ar (Z1 m H he) hk hk1
theorem Zv (m:Nat) (hints:List Nat) (H:SI P n (XQ (YN c)) (fun F h=>Yw P n (Un c) A F h) (0+m) (qF P n (XQ (YN c)) h 0 m F hints) h) (hk:Xo c=3:=by kernel_rfl) (hk1:Xo (YN c)=1:=by kernel_rfl)
  (he:qA P n (XQ (YN c)) h 0 m F hints=qB P n (XQ (YN c)) h 0 m F hints:=by kernel_rfl):Yw P n c A F h:=ar (ZL m hints H he) hk hk1
theorem Xa (hs:SI P n (XQ (YN (YN c))) (fun F h=>Yw P n (Un (YN c)) (BZ P n (Un c) A) F h) 0 F h) (hk:Xo c=3:=by kernel_rfl) (hk0:Xo (YN c)=3:=by kernel_rfl) (hk1:Xo (YN (YN c))=1:=by kernel_rfl):Yw P n c A F h:=
 aq (ar hs hk0 hk1) hk
theorem YP (m:Nat) (H:SI P n (XQ (YN (YN c))) (fun F h=>Yw P n (Un (YN c)) (BZ P n (Un c) A) F h) (0+m) (qF P n (XQ (YN (YN c))) h 0 m F []) h) (hk:Xo c=3:=by kernel_rfl) (hk0:Xo (YN c)=3:=by kernel_rfl) (hk1:Xo (YN (YN c))=1:=by kernel_rfl)
  (he:qA P n (XQ (YN (YN c))) h 0 m F []=qB P n (XQ (YN (YN c))) h 0 m F []:=by kernel_rfl):Yw P n c A F h:=Xa (Z1 m H he) hk hk0 hk1
theorem Yi (m:Nat) (hints:List Nat) (H:SI P n (XQ (YN (YN c))) (fun F h=>Yw P n (Un (YN c)) (BZ P n (Un c) A) F h) (0+m) (qF P n (XQ (YN (YN c))) h 0 m F hints) h) (hk:Xo c=3:=by kernel_rfl) (hk0:Xo (YN c)=3:=by kernel_rfl) (hk1:Xo (YN (YN c))=1:=by kernel_rfl)
  (he:qA P n (XQ (YN (YN c))) h 0 m F hints=qB P n (XQ (YN (YN c))) h 0 m F hints:=by kernel_rfl):Yw P n c A F h:=Xa (ZL m hints H he) hk hk0 hk1
theorem Yo (H:Yw P n (Un (YN c)) (BZ P n (Un c) A) (qF P n (XQ (YN (YN c))) h 0 ((XQ (YN (YN c))).size-0) F []) h) (hk:Xo c=3:=by kernel_rfl) (hk0:Xo (YN c)=3:=by kernel_rfl) (hk1:Xo (YN (YN c))=1:=by kernel_rfl)
  (he:qA P n (XQ (YN (YN c))) h 0 ((XQ (YN (YN c))).size-0) F []=qB P n (XQ (YN (YN c))) h 0 ((XQ (YN (YN c))).size-0) F []:=by kernel_rfl):Yw P n c A F h:=aq (Zy H hk0 hk1 he) hk
theorem Zp (h0:A .ret (qF P n ops h k (ops.size-k) F []) h) (hk:Xo c=8:=by kernel_rfl) (he:qA P n ops h k (ops.size-k) F []=qB P n ops h k (ops.size-k) F []:=by kernel_rfl):SI P n ops (fun F h=>Yw P n c A F h) k F h:=Z0 (ZB h0 hk) he
theorem Y9 (p:Prop) [Decidable p] (h1:p->Yw P n (YN c) A (qF P n ops h k (ops.size-k) F []) h) (h2:¬p->Yw P n (Un c) A (qF P n ops h k (ops.size-k) F []) h) (hk:Xo c=4:=by kernel_rfl)
  (hc:Fr.ev (qF P n ops h k (ops.size-k) F []) (AL c)=.val (.bool (decide p)):=by kernel_rfl) (he:qA P n ops h k (ops.size-k) F []=qB P n ops h k (ops.size-k) F []:=by kernel_rfl):SI P n ops (fun F h=>Yw P n c A F h) k F h:=Z0 (XF p h1 h2 hk hc) he
theorem YE (b:Bool) {p:Prop} (hp:b=true↔p) (h1:p->Yw P n (YN c) A (qF P n ops h k (ops.size-k) F []) h) (h2:¬p->Yw P n (Un c) A (qF P n ops h k (ops.size-k) F []) h) (hk:Xo c=4:=by kernel_rfl)
  (hc:Fr.ev (qF P n ops h k (ops.size-k) F []) (AL c)=.val (.bool b):=by kernel_rfl) (he:qA P n ops h k (ops.size-k) F []=qB P n ops h k (ops.size-k) F []:=by kernel_rfl):SI P n ops (fun F h=>Yw P n c A F h) k F h:=Z0 (ac b hp h1 h2 hk hc) he
end
abbrev Yl (x:AV):AV->List Res->Prop:=fun r h=>r=x/\h=[]
theorem Zt {α:Type} (xs:List α) (j:Nat) (h:j<xs.length):∃x,xs[j]? = some x:=QQ h
theorem C1 {P:Program} {F:Fr} {h:List Res} {fn:Func} {e:Exit} {r:AV} (he:(match e with|.normal|.ret=>true|_=>false)=true:=by kernel_rfl) (hr:KJ P F h fn.results.toList []=some ([r],[]):=by kernel_rfl) :
  Bq P fn (fun r' h'=>r'=r/\h'=[]) e F h:=r1 [] ⟨rfl,rfl⟩ rfl he hr
theorem ZW {P:Program} {F:Fr} {h:List Res} {fn:Func} {e:Exit} {r:AV} (x:AV) (hle:Zc (B9 [x]) r) (he:(match e with|.normal|.ret=>true|_=>false)=true:=by kernel_rfl) (hr:KJ P F h fn.results.toList []=some ([x],[]):=by kernel_rfl) :
  Bq P fn (fun r' h'=>r'=r/\h'=[]) e F h:=r2 [] [x] ⟨rfl,rfl⟩ hle rfl he hr
theorem ZO (k:Nat) {F F':Fr} {t:Nat} {y:Int} (hr:F.Le F') (hx:F.get t=.i (k+1:Nat):=by kernel_rfl) (e:((k+1:Nat):Int)=y:=by exact ob):F.Le ((t,.i y)::F'):=fc (li e) hr hx
theorem Ya {F F':Fr} {t:Nat} {y:Int} (hr:F.Le F') (hx:F.get t=.i 0:=by kernel_rfl) (e:0=y:=by exact ob):F.Le ((t,.i y)::F'):=fc (li e) hr hx
theorem Zu (x:Bool) {p:Prop} (q:p) {F F':Fr} {t:Nat} {y:Bool} (hr:F.Le F') (hx:F.get t=.b x:=by kernel_rfl) (e:p->x=y:=by intro q;simp only [q];rfl):F.Le ((t,.b y)::F'):=fc (lb (e q)) hr hx
theorem ZF {F F':Fr} {h h1 h':List Res} (m:Nat) (hF:F.Le F') (e:h1=h':=by exact rfl) (hp:Wu (List.replicate m 0) h=some h1:=by kernel_rfl):TU F h F' h':=wk (List.replicate m 0) hF e hp
theorem ZU {α β:Type} {p q:α->β->Prop} {a:α} {b:β} (x:p a b) (y:q a b):∃a b,p a b/\q a b:=⟨a,b,x,y⟩
theorem ZK {α β:Type} {q:α->β->Prop} {m' m:Nat} {r:Nat->α->β->Prop} {a:α} {b:β} (x:r m' a b) (y:q a b) (e:m'<m:=by exact ob):∃m' a b,m'<m/\r m' a b/\q a b:=⟨m',a,b,e,x,y⟩
theorem ZE (m:Nat) {P:Program} {f:FuncId} {fn:Func} {xs:List AV} {h:List Res} {R:AV->List Res->Prop} (hf:P.funcs[f]? = some fn) (ha:Yw P m (FP fn) (Bq P fn R) (Ce 0 xs) h) (hb:fn.body.isSome=true:=by kernel_rfl) (hn:fn.ntmps=m:=by kernel_rfl)
  (hle:Nat.ble xs.length m=true:=by kernel_rfl):WD P f xs h R:=enter hf hb hn hle ha
end Go.Abs
end
namespace Go.Abs
section
variable {P:Program} {n:Nat} {c:Code} {A:V8} {F:Fr} {h h2:List Res} {ops:Array Oper} {B:Fr->List Res->Prop} {k:Nat}
variable {T:List (Nat × List Nat)} {fuel:Nat} {done:List Nat}
def LX (P:Program) (ops:Array Oper) (F:Fr) (k:Nat):Option (List AV):=
 match (ZD ops k).op with
 | .binOp .eql xt x y _=>match F.ev x,F.ev y,P.underlying xt with
  | .sl es _,.sl [] (some (.slice none 0 0)),some (.slice _)=>some es
  | _,_,_=>none
 | _=>none
theorem Zgu {t e:TypeId} (ht:P.underlying t=some (.slice e)) (a:Option Addr) (l c':Nat) (w:World):(Op.equal t (.slice a l c') (.slice none 0 0)).run P w=.ok a.isNone w:=by
 unfold Op.equal
 rw [show Op.maxDepth=(Op.maxDepth-1)+1 from rfl]
 unfold Op.equalIn
 cases a with
 | none=>simp [VK ht]
 | some a=>simp [VK ht]
theorem Zeu {K:Fr->List Res->Prop} {es:List AV} (hd:VO n (ZD ops k)=true) (ha:LX P ops F k=some es)
  (h1:es=[]->K (F.put (ZD ops k).dst (.b true)) h) (h0:K (F.put (ZD ops k).dst (.b false)) h):WO P n (ZD ops k) F h K:=by
 unfold LX at ha
 generalize hoo:ZD ops k=o at ha hd h1 h0
 obtain ⟨dst,op,type,pos,after,guard⟩:=o
 cases op<;>simp only at ha<;>try (cases ha)
 rename_i bop xt x y yt
 cases bop<;>simp only at ha<;>try (cases ha)
 split at ha
 case h_2=>cases ha
 rename_i es' hv t hx hy ht
 cases ha
 intro Q w G a hF hh
 have vx:=hF.ev x
 have vy:=hF.ev y
 rw [hx] at vx
 rw [hy] at vy
 have vy:a.eval y=.slice none 0 0:=by
  cases hq:a.eval y<;>rw [hq] at vy<;>cases vy<;>(rename_i hh2;exact (hh2 _ rfl).symm)
 cases vq:a.eval x with
 | slice ad l cc=>
  have hrun:(execOp a.eval { dst:=dst,op:=.binOp .eql xt x y yt,type:=type,pos:=pos,after:=after,guard:=guard }).run P w=.ok (.value (.bool ad.isNone)) w:=by
   simp only [execOp,vq,vy]
   have he:=Zgu (P:=P) ht ad l cc w
   exact Vm (by simp [eqGuard,binOp,he])
  unfold Oper.wp
  rw [hrun]
  rw [vq] at vx
  cases hn:ad.isNone with
  | false=>exact ⟨_,_,G,h0,hF.put (Tm hd) .val,hh,YZ.refl _ _ _⟩
  | true=>
   have:es=[]:=by
    cases vx with
    | nil=>rfl
    | sl=>cases hn
   exact ⟨_,_,G,h1 this,hF.put (Tm hd) .val,hh,YZ.refl _ _ _⟩
 | _=>rw [vq] at vx;cases vx
theorem iN (es:List AV) (h1:es=[]->SI P n ops B (k+1) (F.put (ZD ops k).dst (.b true)) h) (h0:SI P n ops B (k+1) (F.put (ZD ops k).dst (.b false)) h)
  (hk:Xi n ops F k=true:=by kernel_rfl) (ha:LX P ops F k=some es:=by kernel_rfl):SI P n ops B k F h:=
 Qf hk (Zeu (U7 hk).2.1 ha h1 h0)
def NX (P:Program) (ops:Array Oper) (F:Fr) (k:Nat):Option AV:=
 match (ZD ops k).op with
 | .call c=>match c.callee,c.args.toList,c.argTypes.toList with
  | .builtin .cap,[x],[t]=>match P.underlying t with
   | some (.slice _)=>some (F.ev x)
   | _=>none
  | _,_,_=>none
 | _=>none
theorem Z1x (g:Hd) (hl:NX P ops F k=some (.h g):=by kernel_rfl):XB P (ZD ops k) F h [] (.i g.c):=by
 unfold NX at hl
 generalize hoo:ZD ops k=o at hl
 obtain ⟨dst,op,type,pos,after,guard⟩:=o
 cases op<;>simp only at hl<;>try (cases hl)
 rename_i c
 obtain ⟨callee,args,tys⟩:=c
 simp only at hl
 split at hl
 case h_2=>cases hl
 rename_i x t hargs htys
 split at hl
 case h_2=>cases hl
 rename_i e ht
 have e1:args=#[x]:=by rw [<-Ut (xs:=args),hargs]
 have e2:tys=#[t]:=by rw [<-Ut (xs:=tys),htys]
 subst e1;subst e2
 intro n w G a hF hh
 have vx:=hF.ev x
 simp only [Wo] at hl
 rw [hl] at vx
 have vx:=vx.val_inv
 refine ⟨_,.val,fun w' _ _=>?_⟩
 simp only [execOp,resolve,invoke,builtin,Sem.run_bind,Sem.run_pure,Result.andThen_ok,C5,VZ,Aa,vx,Builtin.cap_]
 simp [VK ht,goInt]
theorem FD (t j:Nat) {v:Hd} {xs:LI} (H:Yw P n c A ((t,ZQ xs v.v)::F) (.tail v.v 1::XR [j] h)) (hF':F.get t=.h v:=by kernel_rfl) (hp:Wu [j] h=some [rV v xs]:=by kernel_rfl):Yw P n c A F h:=by
 intro w G a hF hh
 have hp':=UK (VS hp)
 obtain ⟨G',h1,h2',h3⟩:=Zkz (hh.perm hp') (LK xs)
 have e:=h2'.perm hp'.symm (K9 _)
 have hF2:=hF.mono (e.agree hh)
 have hv:=hF2.get t
 rw [hF'] at hv
 have hv:=hv.val_inv
 refine wp_mono (H w G' a ⟨hF2.defers,hF2.size,fun s=>?_⟩ h1) fun e' a' w' hc=>hc.trans e
 show RV w G' (match Nat.beq t s with|true=>_|false=>Fr.get F s) _
 cases hb:Nat.beq t s with
 | true=>
  have:=UX hb
  subst this
  rw [hv]
  exact h3
 | false=>exact hF2.get s
def I6 (P:Program) (ops:Array Oper) (F:Fr) (k:Nat):Option Int:=
 match (ZD ops k).op with
 | .call c=>match c.callee,c.args.toList,c.argTypes.toList with
  | .builtin .append,[s,x],[t,t']=>match F.ev s,F.ev x,P.underlying t,P.underlying t' with
   | .val (.slice none 0 0),.val (.int .i64 m),some (.slice e),some (.int _)=>match P.info? e with
    | some i=>match i.zero with
     | some (.int .i64 0)=>match Nat.beq i.size 1&&Nat.ble i.bytes 32768 with
      | true=>some m
      | false=>none
     | _=>none
    | none=>none
   | _,_,_,_=>none
  | _,_,_=>none
 | _=>none
theorem Zen {K:Fr->List Res->Prop} {m:Nat} (hd:VO n (ZD ops k)=true) (ha:I6 P ops F k=some (m:Int)) (h0:0<m) (hb:m<=4294967296)
  (hK:∀v,K (F.put (ZD ops k).dst (.val v)) (.vec v (Z8 (List.replicate m 0))::h)):WO P n (ZD ops k) F h K:=by
 unfold I6 at ha
 generalize hoo:ZD ops k=o at ha hd hK
 obtain ⟨dst,op,type,pos,after,guard⟩:=o
 cases op<;>simp only at ha<;>try (cases ha)
 rename_i c
 obtain ⟨callee,args,tys⟩:=c
 simp only at ha
 split at ha
 case h_2=>cases ha
 rename_i s x t t' hargs htys
 split at ha
 case h_2=>cases ha
 rename_i mm e kn hs hx ht ht'
 split at ha
 case h_2=>cases ha
 rename_i i hi
 split at ha
 case h_2=>cases ha
 rename_i hz
 split at ha
 case h_2=>cases ha
 rename_i hbb
 simp only [W9] at hbb
 have Xv:=UX hbb.1
 have hby:=Vo hbb.2
 simp only [Wo] at ha
 subst ha
 have e1:args=#[s,x]:=by rw [<-Ut (xs:=args),hargs]
 have e2:tys=#[t,t']:=by rw [<-Ut (xs:=tys),htys]
 subst e1;subst e2
 intro Q w G a hF hh
 have v1:=hF.ev s
 have v2:=hF.ev x
 rw [hs] at v1
 rw [hx] at v2
 have v1:=v1.val_inv
 have v2:=v2.val_inv
 have hbytes:m*i.bytes<=281474976710656:=by
  have:=Nat.mul_le_mul hb hby
  omega
 have hr:=Lib.run_append_nil_zeros (P:=P) w t t' type e i _ .i64 kn ht ht' hi hz m h0 om om hbytes
 have hrun:(execOp a.eval { dst:=dst,op:=.call { callee:=.builtin .append,args:=#[s,x],argTypes:=#[t,t'] },type:=type,pos:=pos,after:=after,guard:=guard }).run P w =
   .ok (.value (.slice (some ⟨w.heap.size,0,none⟩) m (grownCap w m 0 e))) (w.drew.alloc (.cells (Builtin.zeroCells (Value.cells (.int .i64 0)) m++Builtin.zeroCells (Value.cells (.int .i64 0)) (grownCap w m 0 e-m)) e)):=by
  simp only [execOp,resolve,invoke,builtin,Sem.run_bind,Sem.run_pure,Result.andThen_ok,C5,VZ,Aa,v1,v2,hr]
 unfold Oper.wp
 rw [hrun]
 have Xr:=grownCap_ge w m 0 e
 have hzc:∀q,(Builtin.zeroCells (Value.cells (.int .i64 0)) q).toList=List.replicate q (.int .i64 0):=fun q=>by
  apply List.ext_getElem
  ·simp [Builtin.zeroCells,Value.cells]
  ·intro i h1 h2
   simp [Builtin.zeroCells,Value.cells,Nat.mod_one]
 have hl:(Z8 (List.replicate m 0)).length=m:=by simp
 obtain ⟨j1,j2⟩:=hh.drew.alloc_vec (Builtin.zeroCells (Value.cells (.int .i64 0)) m++Builtin.zeroCells (Value.cells (.int .i64 0)) (grownCap w m 0 e-m)) e
  (ls:=Z8 (List.replicate m 0)) (cap:=grownCap w m 0 e) (by rw [hl];exact Xr) (by
   rw [<-Jj,DS,hzc,hzc];simp;omega) (by
   rw [hl,DS,hzc,hzc]
   have:(List.replicate m (Value.int .i64 0)++List.replicate (grownCap w m 0 e-m) (Value.int .i64 0)).take m=List.replicate m (Value.int .i64 0):=by
    rw [List.take_append_of_le_length (by simp),Vx (by simp)]
   rw [this,Z8,List.map_replicate]
   exact Mn .val m)
 rw [hl] at j1 j2
 have j3:=(YZ.drew w G h).trans j2
 exact ⟨_,_,G,hK _,(hF.mono (j3.agree hh)).put (Tm hd) .val,j1,j3⟩
theorem iZ (m:Nat) (hK:∀v,SI P n ops B (k+1) (F.put (ZD ops k).dst (.h v)) (rV v (List.replicate m 0)::h)) (h0:0<m:=by omega) (hb:m<=4294967296:=by omega)
  (hk:Xi n ops F k=true:=by kernel_rfl) (ha:I6 P ops F k=some (m:Int):=by kernel_rfl):SI P n ops B k F h:=
 Qf hk (Zen (U7 hk).2.1 ha h0 hb fun v=>MD fun g hg=>by subst hg;exact hK g)
end
theorem ro {b:Nat} {ls ls':List AV} {t t':List Res} (h:ls=ls') (e:t=t'):Res.obj b ls::t=.obj b ls'::t':=h▸e▸rfl
section
variable {P:Program} {n:Nat} {F:Fr} {h:List Res} {ops:Array Oper} {B:Fr->List Res->Prop} {k:Nat}
variable {T:List (Nat × List Nat)} {fuel:Nat} {done:List Nat}
theorem M6 {K:Fr->List Res->Prop} {l c:Nat} {zv zv':AV} (hd:VO n (ZD ops k)=true) (hm:Dz P ops F k=some ((l:Int),(c:Int),zv)) (hlc:l<=c) (hc:c<=4294967296) (hle:Zc zv zv') (hlz:zv'.leaves=[zv'])
  (hK:∀v,K (F.put (ZD ops k).dst (.sl (List.replicate l zv') (some v))) (.tail v 1::h)):WO P n (ZD ops k) F h K:=by
 intro Q w G a hF hh
 obtain ⟨e,z,rfl,hr⟩:=Zgt hF hm hlc hc
 have hfl:∀m,Zh (List.replicate m zv')=List.replicate m zv':=by
  intro m
  induction m with
  | zero=>rfl
  | succ m ih=>simp only [N7,Zh,Bh,hlz,List.singleton_append];rw [show (List.replicate m zv').flatMap AV.leaves=Zh (List.replicate m zv') from rfl,ih]
 unfold Oper.wp
 rw [hr]
 obtain ⟨G',j1,j2,j3⟩:=hh.alloc_row (madeCells #[z] c) e (es:=List.replicate l zv') (k:=1) (cap:=c) (fun x hx=>by rw [(List.mem_replicate.1 hx).2,hlz];rfl) (by simpa using hlc) (by simp [madeCells]) (by
  rw [Ze2,hfl,Kc,List.take_replicate,List.length_replicate,UD hlc]
  exact Mn (hle _ _ _ (RV.ofVal z)) l)
 rw [List.length_replicate] at j1 j2 j3
 exact ⟨_,_,G',hK _,(hF.mono (j2.agree hh)).put (Tm hd) j3,j1,j2⟩
theorem Z7l (l:Nat):List.replicate l (AV.i 0)=Z8 (List.replicate l 0):=by simp [Z8,List.map_replicate]
theorem Oz (l:Nat):List.replicate l (Z4 [])=Wt (List.replicate l []):=by simp [Wt,List.map_replicate]
theorem iM (l c:Nat) (hK:∀v,SI P n ops B (k+1) (F.put (ZD ops k).dst (ZQ (List.replicate l 0) v)) (.tail v 1::h)) (hlc:l<=c:=by omega) (hc:c<=4294967296:=by omega) (hk:Xi n ops F k=true:=by kernel_rfl)
  (hm:Dz P ops F k=some ((l:Int),(c:Int),.i 0):=by kernel_rfl):SI P n ops B k F h:=
 Qf hk (M6 (U7 hk).2.1 hm hlc hc (Zc.refl _) rfl fun v=>by rw [Z7l];exact hK v)
theorem iMN (l c:Nat) (hK:∀v,SI P n ops B (k+1) (F.put (ZD ops k).dst (BL (List.replicate l []) v)) (.tail v 1::h)) (hlc:l<=c:=by omega) (hc:c<=4294967296:=by omega) (hk:Xi n ops F k=true:=by kernel_rfl)
  (hm:Dz P ops F k=some ((l:Int),(c:Int),.sl [] (some (.slice none 0 0))):=by kernel_rfl):SI P n ops B k F h:=
 Qf hk (M6 (U7 hk).2.1 hm hlc hc (Zc.forget _ _) rfl fun v=>by rw [show AV.sl [] none=Z4 [] from rfl,Oz];exact hK v)
theorem dMN (i:Nat) (js bs:List Nat) (l c:Nat) (hK:∀v,YY P n ops B (T.filter fun t=>!Vg ops i t.1) fuel (done++[i]) (F.put (ZD ops i).dst (BL (List.replicate l []) v)) (.tail v 1::h)) (hlc:l<=c:=by omega) (hc:c<=4294967296:=by omega)
  (hk:Xi n ops F i=true:=by kernel_rfl) (hm:Dz P ops F i=some ((l:Int),(c:Int),.sl [] (some (.slice none 0 0))):=by kernel_rfl) (ho:Us ops i T=bs:=by kernel_rfl) (hj:js.map (fun j=>(WT h)[j]?)=bs.map some:=by kernel_rfl):VM P n ops B T fuel done F h i:=
 J4 (h1:=[]) (h2:=h) [] js bs hk rfl ho hj (M6 (U7 hk).2.1 hm hlc hc (Zc.forget _ _) rfl fun v=>by rw [show AV.sl [] none=Z4 [] from rfl,Oz];exact hK v)
end
section
variable {P:Program} {n:Nat} {F:Fr} {h:List Res} {ops:Array Oper} {B:Fr->List Res->Prop} {k:Nat}
variable {T:List (Nat × List Nat)} {fuel:Nat} {done:List Nat}
theorem dK {c:Code} {A:V8} (K:Fr->List Res->Prop) (H:YY P n ops (fun F h=>∃F' h',K F' h'/\TU F h F' h') T fuel done F h) (hB:∀F' h',K F' h'->Yw P n c A F' h') :
  YY P n ops (fun F h=>Yw P n c A F h) T fuel done F h:=by
 intro Q w G a SL hF hh hQ hcl hcov hk
 exact H Q w G a SL hF hh hQ hcl hcov fun F2 h2 G2 a2 w2 b1 b2 b3 b4=>let ⟨_,_,k1,k2⟩:=b1;hk F2 h2 G2 a2 w2 (Cd k2 (hB _ _ k1)) b2 b3 b4
theorem Jq {c:Code} {A:V8} (K:Fr->List Res->Fr->List Res->Prop) (H:YY P n ops (fun F1 h1=>∃F' h',K F h F' h'/\TU F1 h1 F' h') T fuel done F h) (hB:∀F' h',K F h F' h'->Yw P n c A F' h') :
  YY P n ops (fun F h=>Yw P n c A F h) T fuel done F h:=dK (K F h) H hB
theorem VN (i j:Nat) (Hi:VM P n ops B T fuel done F h i) (Hj:VM P n ops B T fuel done F h j) (hr:Region.ready .any ops (V2 ops done)=[i,j]:=by kernel_rfl):YY P n ops B T (fuel+1) done F h:=
 Oj hr rfl fun q hq=>by
  rcases YH.1 hq with rfl|hq
  ·exact Hi
  ·rw [XH.1 hq];exact Hj
def CW (s:Int):Int:=IntKind.i64.wrap s
theorem Zjv {s:Int} (ha:Af ops F k=some s):XB P (ZD ops k) F h [] (.val (.int .i64 (CW s))):=by
 unfold Af at ha
 generalize hoo:ZD ops k=o at ha
 obtain ⟨dst,op,type,pos,after,guard⟩:=o
 cases op<;>simp only at ha<;>try (cases ha)
 rename_i bop xt x y yt
 split at ha
 ·rename_i a b h1 h2
  have key:∀v,El bop .i64 a b=some (.int .i64 (IntKind.i64.wrap v))->v=s->XB P { dst:=dst,op:=.binOp bop xt x y yt,type:=type,pos:=pos,after:=after,guard:=guard } F h [] (.val (.int .i64 (CW s))):=by
   intro v hv hvs
   have he:QN P { dst:=dst,op:=.binOp bop xt x y yt,type:=type,pos:=pos,after:=after,guard:=guard } F h 0=some (.val (.int .i64 (IntKind.i64.wrap v)),[]):=by
    simp only [QN,h1,h2,F5,hv]
   have:=Dj he (by simp)
   rw [hvs] at this
   simpa [CW] using this
  split at ha
  ·cases ha;exact key (a+b) rfl rfl
  ·cases ha;exact key (a-b) rfl rfl
  ·cases ha;exact key (a*b) rfl rfl
  ·cases ha
 ·cases ha
theorem iW (s:Int) (H:SI P n ops B (k+1) (F.put (ZD ops k).dst (.val (.int .i64 (CW s)))) h) (hk:Xi n ops F k=true:=by kernel_rfl) (ha:Af ops F k=some s:=by kernel_rfl):SI P n ops B k F h:=
 CD (ks:=[]) hk (Zjv ha) H
def Mj (P:Program) (ops:Array Oper) (F:Fr) (k:Nat):Option Bool:=
 match (ZD ops k).op with
 | .binOp .eql xt x y _=>match F.ev x,F.ev y,P.underlying xt with
  | .val (.pointer a),.val (.pointer none),some (.pointer _)=>some a.isNone
  | _,_,_=>none
 | _=>none
theorem Zgv {t e:TypeId} (ht:P.underlying t=some (.pointer e)) (a:Option Addr) (w:World):(Op.equal t (.pointer a) (.pointer none)).run P w=.ok a.isNone w:=by
 unfold Op.equal
 rw [show Op.maxDepth=(Op.maxDepth-1)+1 from rfl]
 unfold Op.equalIn
 cases a with
 | none=>simp [VK ht]
 | some a=>simp [VK ht]
theorem Zjk {b:Bool} (ha:Mj P ops F k=some b):XB P (ZD ops k) F h [] (.b b):=by
 unfold Mj at ha
 generalize hoo:ZD ops k=o at ha
 obtain ⟨dst,op,type,pos,after,guard⟩:=o
 cases op<;>simp only at ha<;>try (cases ha)
 rename_i bop xt x y yt
 cases bop<;>simp only at ha<;>try (cases ha)
 split at ha
 case h_2=>cases ha
 rename_i ad t hx hy ht
 cases ha
 intro nn w G a hF hh
 have vx:=hF.ev x
 have vy:=hF.ev y
 rw [hx] at vx
 rw [hy] at vy
 have vx:a.eval x=.pointer ad:=by cases hq:a.eval x<;>rw [hq] at vx<;>cases vx<;>rfl
 have vy:a.eval y=.pointer none:=by cases hq:a.eval y<;>rw [hq] at vy<;>cases vy<;>rfl
 refine ⟨_,.val,fun w' _ _=>?_⟩
 simp only [execOp,vx,vy]
 have he:=Zgv (P:=P) ht ad w'
 exact Vm (by cases ad<;>simp [eqGuard,binOp,he])
theorem iQ (b:Bool) (H:SI P n ops B (k+1) (F.put (ZD ops k).dst (.b b)) h) (hk:Xi n ops F k=true:=by kernel_rfl) (ha:Mj P ops F k=some b:=by kernel_rfl):SI P n ops B k F h:=
 CD (ks:=[]) hk (Zjk ha) H
def LV (ops:Array Oper) (F:Fr) (k:Nat):Option (Int × Int):=
 match (ZD ops k).op with
 | .call c=>match c.callee,c.args.toList with
  | .builtin .min,[x,y]=>match F.ev x,F.ev y with
   | .val (.int .i64 a),.val (.int .i64 b)=>some (a,b)
   | _,_=>none
  | _,_=>none
 | _=>none
theorem Zjj {a b:Int} (hl:LV ops F k=some (a,b)):XB P (ZD ops k) F h [] (.i (min a b)):=by
 unfold LV at hl
 generalize hoo:ZD ops k=o at hl
 obtain ⟨dst,op,type,pos,after,guard⟩:=o
 cases op<;>simp only at hl<;>try (cases hl)
 rename_i c
 obtain ⟨callee,args,tys⟩:=c
 simp only at hl
 split at hl
 case h_2=>cases hl
 rename_i x y hargs
 split at hl
 case h_2=>cases hl
 rename_i u v hx hy
 cases hl
 have e1:args=#[x,y]:=by rw [<-Ut (xs:=args),hargs]
 subst e1
 intro n w G a' hF hh
 have vx:=hF.ev x
 have vy:=hF.ev y
 rw [hx] at vx
 rw [hy] at vy
 have vx:=vx.val_inv
 have vy:=vy.val_inv
 refine ⟨_,.val,fun w' _ _=>?_⟩
 simp only [execOp,resolve,invoke,builtin,Sem.run_bind,Sem.run_pure,Result.andThen_ok,C5,VZ,Aa,vx,vy]
 have e:(if b<a then b else a)=min a b:=by
  rw [Int.min_def]
  split<;>split<;>omega
 simp [Builtin.min_,Builtin.min2,Sem.run_pure,List.foldlM,e]
theorem iI (a b:Int) (H:SI P n ops B (k+1) (F.put (ZD ops k).dst (.i (min a b))) h) (hk:Xi n ops F k=true:=by kernel_rfl) (ha:LV ops F k=some (a,b):=by kernel_rfl):SI P n ops B k F h:=
 CD (ks:=[]) hk (Zjj ha) H
end
end Go.Abs
