/-
  A part of the proof of FnPlainOfStepsUptoSaid (see the last file): no condition.
-/
import Derived.OrdersHeld
import Derived.Below
import Derived.KernelRfl
import Derived.Laws.AppendOwn
import Derived.Laws.MakeOwn
import Derived.IntWalk
import Derived.Lib.AppendZeros
set_option linter.all false
set_option linter.unusedVariables false
set_option linter.unusedSimpArgs false
set_option linter.unusedSectionVars false
set_option maxRecDepth 10000
set_option maxHeartbeats 4000000
namespace Go.Abs
abbrev LI:=List Int
theorem ob {p:Prop} (h:p:=by first|assumption|omega|rfl|(simp<;>omega)):p:=h
theorem kr {p:Prop} (h:p:=by kernel_rfl):p:=h
theorem om {p:Prop} (h:p:=by omega):p:=h
def Z9:=@if_neg
def Zk:=@if_pos
def Zt:=@beq_iff_eq
def Y0:=@List.mem_of_getElem?
def Yc:=@congrArg
def Yg:=@bne_iff_ne
def Ym:=@List.length_append
def YB:=@List.mem_cons
def YH:=@List.length_cons
def YR:=@Nat.le_refl
def X1:=@List.mem_cons_self
def X4:=@List.mem_append
def Xf:=@Bool.eq_iff_iff
def Xg:=@List.length_nil
def Xl:=@List.mem_cons_of_mem
def Xy:=@List.mem_map
def XA:=@List.getElem?_eq_some_iff
def XI:=@Bool.and_eq_true
def XT:=@List.mem_singleton
def XY:=@Option.some.injEq
def W7:=@Classical.not_not
def Wm:=@List.length_take
def Wv:=@List.pairwise_cons
def WA:=@List.take_of_length_le
def WE:=@Nat.le_of_ble_eq_true
def WR:=@Nat.le_trans
def WS:=@Nat.zero_add
def Va:=@Nat.min_eq_left
def Vl:=@List.take_length
def VN:=@Array.toArray_toList
def VW:=@Int.toNat_natCast
def VX:=@List.map_cons
def U2:=@Nat.eq_of_beq_eq_true
def Uh:=@Array.getElem?_eq_some_iff
def Ut:=@List.append_assoc
def UK:=@List.take_append_drop
def T3:=@List.length_set
def Tx:=@List.cons_append
def TJ:=@List.Perm.refl
def TK:=@List.mem_of_mem_take
def TL:=@Nat.add_mul
def Q2:=@Nat.mul_le_mul_right
def Qs:=@Bool.eq_false_iff
def Qt:=@List.getElem?_take
def Qu:=@Nat.zero_le
def QM:=@Array.length_toList
def QN:=@List.length_map
def Ki:=@List.getElem?_map
def Kj:=@Nat.mul_one
def KJ:=@List.all_eq_true
def KL:=@List.pairwise_append
def Jj:=@List.append_nil
def Jk:=@List.length_drop
def Jl:=@List.nil_append
def Jm:=@List.sublist_cons_self
def Jn:=@List.take_left
def A3:=@List.drop_zero
def A4:=@List.flatMap_cons
def A5:=@List.getElem?_eq_getElem
def A6:=@Nat.add_assoc
def A7:=@Option.some.inj
def AU:=@Classical.byContradiction
def AW:=@List.map_nil
def AX:=@Option.map_some
def BA:=@List.map_toArray
def BB:=@List.take_succ_cons
def BC:=@Nat.add_zero
def Cs:=@Array.toList_append
def Ct:=@List.getElem?_eq_none
def Cu:=@List.pairwise_singleton
def Cv:=@List.size_toArray
def Cw:=@List.toList_toArray
def DQ:=@List.getElem?_append_left
def DR:=@List.getElem?_append_right
def DS:=@List.length_pos_iff
def DT:=@List.set_eq_take_append_cons_drop
def DU:=@Nat.lt_or_ge
def G0:=@Array.getElem?_toList
def G3:=@List.drop_eq_nil_of_le
def G4:=@List.eq_of_mem_replicate
def G5:=@List.length_singleton
def G6:=@Nat.eq_of_mul_eq_mul_right
def II:=@List.getElem?_drop
def IJ:=@List.replicate_succ
def IK:=@Nat.lt_of_lt_of_le
def Rj:=@List.drop_eq_getElem_cons
end Go.Abs
namespace Go.Abs
inductive AV where
 | any
 | val (v:Value)
 | sl (es:List AV) (hv:Option Value)
 | agg (ls:List AV)
 | rp (ls:List AV)
 | tup (vs:List AV)
abbrev Y6:=Nat->Nat->Prop
def AV.leaves:AV->List AV
 | .agg ls=>ls
 | x=>[x]
mutual
inductive RV (w:World) (G:Y6):AV->Value->Prop
 | any {v}:RV w G .any v
 | val {v}:RV w G (.val v) v
 | nil {hv a cap} (h:∀x,hv=some x->x=.slice a 0 cap):RV w G (.sl [] hv) (.slice a 0 cap)
 | sl {es hv b o k cap} (h:∀x,hv=some x->x=.slice (some ⟨b,o,none⟩) es.length cap) (hc:es.length<=cap) (hm:WF w G k b o es) :
   RV w G (.sl es hv) (.slice (some ⟨b,o,none⟩) es.length cap)
 | agg {ls cs} (h:YI w G ls cs):RV w G (.agg ls) (.agg cs.toArray)
 | rp {ls b o} (h:W9 w G b o ls):RV w G (.rp ls) (.pointer (some ⟨b,o,none⟩))
 | tup {vs cs} (h:YI w G vs cs):RV w G (.tup vs) (.tuple cs.toArray)
inductive YI (w:World) (G:Y6):List AV->List Value->Prop
 | nil:YI w G [] []
 | cons {x v xs vs} (h:RV w G x v) (t:YI w G xs vs):YI w G (x::xs) (v::vs)
inductive W9 (w:World) (G:Y6):Nat->Nat->List AV->Prop
 | nil {b o}:W9 w G b o []
 | cons {b o x c xs} (hc:w.cell? ⟨b,o,none⟩=some c) (hg:G b o) (h:RV w G x c) (t:W9 w G b (o+1) xs):W9 w G b o (x::xs)
inductive WF (w:World) (G:Y6):Nat->Nat->Nat->List AV->Prop
 | nil {k b o}:WF w G k b o []
 | cons {k b o x xs} (hl:x.leaves.length=k) (h:W9 w G b o x.leaves) (t:WF w G k b (o+k) xs):WF w G k b o (x::xs)
end
structure Vr (G:Y6) (w w':World) (G':Y6):Prop where
 cell:∀b o,G b o->w'.cell? ⟨b,o,none⟩=w.cell? ⟨b,o,none⟩
 sub:∀b o,G b o->G' b o
section mono
variable {w w':World} {G G':Y6}
mutual
theorem RV.mono {x:AV} {v:Value} (hA:Vr G w w' G'):RV w G x v->RV w' G' x v
 | .any=>.any
 | .val=>.val
 | .nil h=>.nil h
 | .sl h hc hm=>.sl h hc (hm.mono hA)
 | .agg h=>.agg (h.mono hA)
 | .rp h=>.rp (h.mono hA)
 | .tup h=>.tup (h.mono hA)
theorem YI.mono {xs:List AV} {vs:List Value} (hA:Vr G w w' G'):YI w G xs vs->YI w' G' xs vs
 | .nil=>.nil
 | .cons h t=>.cons (h.mono hA) (t.mono hA)
theorem W9.mono {b o:Nat} {xs:List AV} (hA:Vr G w w' G'):W9 w G b o xs->W9 w' G' b o xs
 | .nil=>.nil
 | .cons hc hg h t=>.cons ((hA.cell _ _ hg).trans hc) (hA.sub _ _ hg) (h.mono hA) (t.mono hA)
theorem WF.mono {k b o:Nat} {xs:List AV} (hA:Vr G w w' G'):WF w G k b o xs->WF w' G' k b o xs
 | .nil=>.nil
 | .cons hl h t=>.cons hl (h.mono hA) (t.mono hA)
end
end mono
theorem YI.length {w:World} {G:Y6}:∀{xs:List AV} {vs:List Value},YI w G xs vs->vs.length=xs.length
 | _,_,.nil=>rfl
 | _,_,.cons _ t=>by simp [t.length]
theorem YI.get {w:World} {G:Y6}:∀{xs:List AV} {vs:List Value},YI w G xs vs->∀(i:Nat) (x:AV),xs[i]? = some x->∃v,vs[i]? = some v/\RV w G x v
 | _,_,.nil,i,x,h=>by simp at h
 | _,_,.cons h t,0,x,hx=>by simp at hx;subst hx;exact ⟨_,rfl,h⟩
 | _,_,.cons h t,i+1,x,hx=>by simpa using t.get i x (by simpa using hx)
theorem YI.append {w:World} {G:Y6}:∀{xs ys:List AV} {vs us:List Value},YI w G xs vs->YI w G ys us->YI w G (xs++ys) (vs++us)
 | _,_,_,_,.nil,h=>h
 | _,_,_,_,.cons h t,h2=>.cons h (t.append h2)
theorem YI.take {w:World} {G:Y6}:∀{xs:List AV} {vs:List Value} (n:Nat),YI w G xs vs->YI w G (xs.take n) (vs.take n)
 | _,_,0,_=>by simp;exact .nil
 | _,_,n+1,.nil=>by simp;exact .nil
 | _,_,n+1,.cons h t=>by simp;exact .cons h (t.take n)
theorem YI.drop {w:World} {G:Y6}:∀{xs:List AV} {vs:List Value} (n:Nat),YI w G xs vs->YI w G (xs.drop n) (vs.drop n)
 | _,_,0,h=>by simpa using h
 | _,_,n+1,.nil=>by simp;exact .nil
 | _,_,n+1,.cons h t=>by simpa using t.drop n
theorem YI.set {w:World} {G:Y6}:∀{xs:List AV} {vs:List Value} (n:Nat) {x:AV} {v:Value},YI w G xs vs->RV w G x v->YI w G (xs.set n x) (vs.set n v)
 | _,_,_,_,_,.nil,_=>by simp;exact .nil
 | _,_,0,_,_,.cons h t,hx=>by simp;exact .cons hx t
 | _,_,n+1,_,_,.cons h t,hx=>by simp;exact .cons h (t.set n hx)
theorem W9.drop {w:World} {G:Y6}:∀(n:Nat) {b o:Nat} {xs:List AV},W9 w G b o xs->W9 w G b (o+n) (xs.drop n)
 | 0,_,_,_,h=>by simpa using h
 | n+1,_,_,_,.nil=>by simp;exact .nil
 | n+1,_,_,_,.cons hc hg h t=>by
  have:=t.drop n
  simp only [List.drop_succ_cons]
  rw [show ∀o:Nat,o+(n+1)=o+1+n from fun o=>by omega]
  exact this
theorem W9.take {w:World} {G:Y6}:∀(n:Nat) {b o:Nat} {xs:List AV},W9 w G b o xs->W9 w G b o (xs.take n)
 | 0,_,_,_,h=>by simp;exact .nil
 | n+1,_,_,_,.nil=>by simp;exact .nil
 | n+1,_,_,_,.cons hc hg h t=>by simp;exact .cons hc hg h (t.take n)
theorem W9.append {w:World} {G:Y6}:∀{b o:Nat} {xs ys:List AV},W9 w G b o xs->W9 w G b (o+xs.length) ys->W9 w G b o (xs++ys)
 | _,_,_,_,.nil,h=>by simpa using h
 | _,_,_,_,.cons hc hg h t,h2=>.cons hc hg h (t.append (by
   simp only [YH] at h2
   rw [show ∀(o:Nat) (l:Nat),o+1+l=o+(l+1) from fun o l=>by omega];exact h2))
theorem W9.cells {w:World} {G:Y6}:∀{b o:Nat} {xs:List AV},W9 w G b o xs ->
  ∃cs,YI w G xs cs/\(∀j v,cs[j]? = some v->w.cell? ⟨b,o+j,none⟩=some v/\G b (o+j))
 | _,_,_,.nil=>⟨[],.nil,by simp⟩
 | _,o,_,.cons (c:=c) hc hg h t=>by
  obtain ⟨cs,h1,h2⟩:=t.cells
  refine ⟨c::cs,.cons h h1,fun j v hj=>?_⟩
  cases j with
  | zero=>simp at hj;subst hj;exact ⟨hc,hg⟩
  | succ j=>
   have:=h2 j v (by simpa using hj)
   rw [show o+1+j=o+(j+1) from by omega] at this
   exact this
theorem W9.of_cells {w:World} {G:Y6} {b:Nat}:∀{o:Nat} {xs:List AV} {cs:List Value},YI w G xs cs ->
  (∀j v,cs[j]? = some v->w.cell? ⟨b,o+j,none⟩=some v/\G b (o+j))->W9 w G b o xs
 | _,_,_,.nil,_=>.nil
 | o,_,_,.cons (v:=c) h t,hc=>by
  have h0:=hc 0 c (by simp)
  refine .cons h0.1 h0.2 h (W9.of_cells t fun j v hj=>?_)
  have:=hc (j+1) v (by simpa using hj)
  rw [show o+(j+1)=o+1+j from by omega] at this
  exact this
def Ze (es:List AV):List AV:=es.flatMap AV.leaves
theorem WF.flat_mem {w:World} {G:Y6} {k:Nat}:∀{b o:Nat} {xs:List AV},WF w G k b o xs->W9 w G b o (Ze xs)
 | _,_,_,.nil=>.nil
 | _,_,_,.cons hl h t=>by
  simp only [Ze,A4]
  exact h.append (by rw [hl];exact t.flat_mem)
theorem WF.of_flat {w:World} {G:Y6} {k:Nat} {b:Nat}:∀{o:Nat} (xs:List AV),(∀x∈xs,x.leaves.length=k)->W9 w G b o (Ze xs)->WF w G k b o xs
 | _,[],_,_=>.nil
 | o,x::xs,hk,h=>by
  have hx:=hk x (by simp)
  simp only [Ze,A4] at h
  have h1:=h.take x.leaves.length
  have h2:=h.drop x.leaves.length
  simp only [List.take_left',List.drop_left'] at h1 h2
  rw [hx] at h2
  exact .cons hx h1 (WF.of_flat xs (fun y hy=>hk y (by simp [hy])) h2)
theorem WF.len {w:World} {G:Y6} {k:Nat}:∀{b o:Nat} {xs:List AV},WF w G k b o xs->∀x∈xs,x.leaves.length=k
 | _,_,_,.nil,x,h=>by simp at h
 | _,_,_,.cons hl _ t,x,h=>by
  rcases YB.1 h with rfl|h
  ·exact hl
  ·exact t.len x h
theorem Ua {k:Nat}:∀(xs:List AV),(∀x∈xs,x.leaves.length=k)->(Ze xs).length=xs.length*k
 | [],_=>by simp [Ze]
 | x::xs,h=>by
  have:=Ua xs (fun y hy=>h y (by simp [hy]))
  simp only [Ze,A4,Ym,YH] at this ⊢
  rw [this,h x (by simp),TL];omega
theorem WF.get {w:World} {G:Y6} {k:Nat}:∀{b o:Nat} {xs:List AV},WF w G k b o xs->∀(i:Nat) (x:AV),xs[i]? = some x->W9 w G b (o+i*k) x.leaves
 | _,_,_,.nil,i,x,h=>by simp at h
 | _,_,_,.cons hl h t,0,x,hx=>by simp at hx;subst hx;simpa using h
 | _,o,_,.cons hl h t,i+1,x,hx=>by
  have:=t.get i x (by simpa using hx)
  rw [show o+(i+1)*k=o+k+i*k from by rw [TL];omega]
  exact this
theorem WF.drop {w:World} {G:Y6} {k:Nat}:∀(n:Nat) {b o:Nat} {xs:List AV},WF w G k b o xs->WF w G k b (o+n*k) (xs.drop n)
 | 0,_,_,_,h=>by simpa using h
 | n+1,_,_,_,.nil=>by simp;exact .nil
 | n+1,_,o,_,.cons hl h t=>by
  have:=t.drop n
  simp only [List.drop_succ_cons]
  rw [show o+(n+1)*k=o+k+n*k from by rw [TL];omega]
  exact this
theorem WF.take {w:World} {G:Y6} {k:Nat}:∀(n:Nat) {b o:Nat} {xs:List AV},WF w G k b o xs->WF w G k b o (xs.take n)
 | 0,_,_,_,h=>by simp;exact .nil
 | n+1,_,_,_,.nil=>by simp;exact .nil
 | n+1,_,_,_,.cons hl h t=>by simp;exact .cons hl h (t.take n)
inductive Res where
 | obj (b:Nat) (ls:List AV)
 | tail (v:Value) (k:Nat)
 | ge (s:Nat)
 | vec (v:Value) (ls:List AV)
 | many (ts:List (Value × Nat))
 | own (B:List Nat) (m:Nat->Nat->Option Value)
 | row (v:Value) (k:Nat) (ls:List AV)
def DH:Value->Nat->Y6
 | .slice (some a) len _,k,b',o=>b'=a.block/\len*k<=o
 | _,_,_,_=>False
def Res.fp:Res->Y6
 | .obj b _,b',_=>b'=b
 | .tail (.slice (some a) len _) k,b',o=>b'=a.block/\len*k<=o
 | .tail _ _,_,_=>False
 | .ge _,_,_=>False
 | .vec (.slice (some a) _ _) _,b',_=>b'=a.block
 | .vec _ _,_,_=>False
 | .many ts,b',o=>∃p∈ts,DH p.1 p.2 b' o
 | .own B _,b',_=>b'∈B
 | .row (.slice (some a) _ _) _ _,b',_=>b'=a.block
 | .row _ _ _,_,_=>False
def Gc (w:World) (v:Value) (k:Nat):Prop:=
 v=.slice none 0 0∨∃g len cap cur e,v=.slice (some ⟨g,0,none⟩) len cap/\w.heap[g]? = some (.cells cur e (0,0))/\len<=cap/\cur.size=cap*k
def Ad (w:World) (G:Y6) (v:Value) (ls:List AV):Prop:=
 (v=.slice none 0 0/\ls=[])∨∃g cap cur e,v=.slice (some ⟨g,0,none⟩) ls.length cap/\w.heap[g]? = some (.cells cur e (0,0))/\ls.length<=cap/\cur.size=cap /\
  YI w G ls (cur.toList.take ls.length)
def KM (w:World) (G:Y6) (v:Value) (k:Nat) (ls:List AV):Prop:=
 (v=.slice none 0 0/\ls=[])∨∃g len cap cur e,v=.slice (some ⟨g,0,none⟩) len cap/\w.heap[g]? = some (.cells cur e (0,0))/\len<=cap/\cur.size=cap*k/\ls.length=len*k /\
  YI w G ls (cur.toList.take (len*k))
def Ty (w:World) (G:Y6):Res->Prop
 | .obj b ls=>∃cs e,w.heap[b]? = some (.cells cs e (0,0))/\YI w G ls cs.toList
 | .tail v k=>Gc w v k
 | .ge s=>s<=w.heap.size
 | .vec v ls=>Ad w G v ls
 | .many ts=>(∀p∈ts,Gc w p.1 p.2)/\ts.Pairwise (fun p q=>∀b o,DH p.1 p.2 b o->DH q.1 q.2 b o->False)
 | .own B m=>∀b∈B,∃cs e,w.heap[b]? = some (.cells cs e (0,0))/\∀o,cs[o]? = m b o
 | .row v k ls=>KM w G v k ls
def WC (h:List Res):Y6:=fun b o=>∃r∈h,r.fp b o
def Jr (r r':Res):Prop:=∀b o,r.fp b o->r'.fp b o->False
structure Yq (w:World) (G:Y6) (h:List Res):Prop where
 ok:∀r∈h,Ty w G r
 apart:h.Pairwise Jr
 prot:∀r∈h,∀b o,r.fp b o->G b o->False
 lt:∀b o,G b o->b<w.heap.size
theorem Ty.lt {w:World} {G:Y6} {r:Res} (h:Ty w G r):∀b o,r.fp b o->b<w.heap.size:=by
 intro b o hf
 cases r with
 | obj b' ls=>obtain ⟨cs,e,h1,_⟩:=h;cases hf;exact (Uh.1 h1).1
 | tail v k=>
  rcases h with rfl|⟨g,len,cap,cur,e,rfl,h1,_⟩
  ·exact hf.elim
  ·obtain ⟨rfl,_⟩:=hf;exact (Uh.1 h1).1
 | ge s=>exact hf.elim
 | vec v ls=>
  rcases h with ⟨rfl,_⟩|⟨g,cap,cur,e,rfl,h1,_⟩
  ·exact hf.elim
  ·have hf:b=g:=hf
   subst hf
   exact (Uh.1 h1).1
 | many ts=>
  obtain ⟨p,hp,hf⟩:=hf
  rcases h.1 p hp with h0|⟨g,len,cap,cur,e,h0,h1,_⟩
  ·rw [h0] at hf;exact hf.elim
  ·rw [h0] at hf;obtain ⟨rfl,_⟩:=hf;exact (Uh.1 h1).1
 | own B m=>obtain ⟨cs,e,h1,_⟩:=h b hf;exact (Uh.1 h1).1
 | row v k ls=>
  rcases h with ⟨rfl,_⟩|⟨g,len,cap,cur,e,rfl,h1,_⟩
  ·exact hf.elim
  ·have hf:b=g:=hf
   subst hf
   exact (Uh.1 h1).1
def QR (O:Y6) (b:Nat) (w w':World):Prop:=
 w'.heap[b]? = w.heap[b]?∨∃cs cs' e fr,w.heap[b]? = some (.cells cs e fr)/\w'.heap[b]? = some (.cells cs' e fr)/\cs'.size=cs.size/\∀o,¬O b o->cs'[o]? = cs[o]?
theorem QR.eq {O:Y6} {b:Nat} {w w':World} (h:QR O b w w') (hn:∀o,¬O b o):w'.heap[b]? = w.heap[b]?:=by
 rcases h with h|⟨cs,cs',e,fr,h1,h2,hs,hc⟩
 ·exact h
 ·have:cs'=cs:=by
   apply Array.ext hs
   intro i h1 h2
   have:=hc i (hn i)
   simpa [h1,h2] using this
  rw [h1,h2,this]
theorem QR.cell {O:Y6} {b:Nat} {w w':World} (h:QR O b w w') {o:Nat} (hn:¬O b o):w'.cell? ⟨b,o,none⟩=w.cell? ⟨b,o,none⟩:=by
 rcases h with h|⟨cs,cs',e,fr,h1,h2,hs,hc⟩
 ·simp [World.cell?,h]
 ·simp [World.cell?,h1,h2,hc o hn]
theorem QR.mono {O O':Y6} {b:Nat} {w w':World} (h:QR O b w w') (hO:∀o,O b o->O' b o):QR O' b w w':=by
 rcases h with h|⟨cs,cs',e,fr,h1,h2,hs,hc⟩
 ·exact .inl h
 ·exact .inr ⟨cs,cs',e,fr,h1,h2,hs,fun o hn=>hc o fun h=>hn (hO o h)⟩
theorem QR.trans {O:Y6} {b:Nat} {w w' w'':World} (h:QR O b w w') (k:QR O b w' w''):QR O b w w'':=by
 rcases h with h|⟨cs,cs',e,fr,h1,h2,hs,hc⟩
 ·rcases k with k|⟨cs,cs',e,fr,h1,h2,hs,hc⟩
  ·exact .inl (k.trans h)
  ·exact .inr ⟨cs,cs',e,fr,h▸h1,h2,hs,hc⟩
 ·rcases k with k|⟨ds,ds',e',fr',k1,k2,ks,kc⟩
  ·exact .inr ⟨cs,cs',e,fr,h1,k▸h2,hs,hc⟩
  ·rw [h2] at k1
   cases k1
   exact .inr ⟨cs,ds',e,fr,h1,k2,ks.trans hs,fun o hn=>(kc o hn).trans (hc o hn)⟩
structure YP (w:World) (G:Y6) (h:List Res) (w':World) (G':Y6) (h':List Res):Prop where
 os:w'.os=w.os
 tape:w'.tape=w.tape
 output:w'.output=w.output
 size:w.heap.size<=w'.heap.size
 sub:∀b o,G b o->G' b o
 same:∀b,b<w.heap.size->QR (WC h) b w w'
 newG:∀b o,b<w.heap.size->G' b o->G b o∨WC h b o
 newfp:∀b o,b<w.heap.size->WC h' b o->WC h b o
theorem YP.refl (w:World) (G:Y6) (h:List Res):YP w G h w G h:=
 ⟨rfl,rfl,rfl,YR _,fun _ _ h=>h,fun _ _=>.inl rfl,fun _ _ _ h=>.inl h,fun _ _ _ h=>h⟩
theorem YP.trans {w w' w'':World} {G G' G'':Y6} {h h' h'':List Res} (a:YP w G h w' G' h') (b:YP w' G' h' w'' G'' h''):YP w G h w'' G'' h'' where
 os:=b.os.trans a.os
 tape:=b.tape.trans a.tape
 output:=b.output.trans a.output
 size:=WR a.size b.size
 sub:=fun x o hg=>b.sub x o (a.sub x o hg)
 same:=fun x hx=>(a.same x hx).trans ((b.same x (IK hx a.size)).mono fun o ho=>a.newfp x o hx ho)
 newG:=fun x o hx hg=>by
  rcases b.newG x o (IK hx a.size) hg with h1|h1
  ·exact a.newG x o hx h1
  ·exact .inr (a.newfp x o hx h1)
 newfp:=fun x o hx ho=>a.newfp x o hx (b.newfp x o (IK hx a.size) ho)
theorem YP.agree {w w':World} {G G':Y6} {h h':List Res} (e:YP w G h w' G' h') (hk:Yq w G h):Vr G w w' G' where
 cell:=fun b o hg=>(e.same b (hk.lt b o hg)).cell fun ⟨r,hr,hf⟩=>hk.prot r hr b o hf hg
 sub:=e.sub
theorem J5 {h k:List Res} {b o:Nat}:WC (h++k) b o↔WC h b o∨WC k b o:=by
 unfold WC
 constructor
 ·rintro ⟨r,hr,hf⟩
  rcases X4.1 hr with hr|hr
  ·exact .inl ⟨r,hr,hf⟩
  ·exact .inr ⟨r,hr,hf⟩
 ·rintro (⟨r,hr,hf⟩|⟨r,hr,hf⟩)
  ·exact ⟨r,X4.2 (.inl hr),hf⟩
  ·exact ⟨r,X4.2 (.inr hr),hf⟩
theorem Yq.left {w:World} {G:Y6} {h k:List Res} (H:Yq w G (h++k)):Yq w G h:=
 ⟨fun r hr=>H.ok r (X4.2 (.inl hr)),(KL.1 H.apart).1,fun r hr=>H.prot r (X4.2 (.inl hr)),H.lt⟩
theorem Yq.cross {w:World} {G:Y6} {h k:List Res} (H:Yq w G (h++k)) {b o:Nat} (h1:WC h b o) (h2:WC k b o):False:=by
 obtain ⟨r,hr,hf⟩:=h1
 obtain ⟨r',hr',hf'⟩:=h2
 exact (KL.1 H.apart).2.2 r hr r' hr' b o hf hf'
theorem Yq.frame {w w':World} {G G':Y6} {h h' k:List Res} (H:Yq w G (h++k)) (e:YP w G h w' G' h') (H':Yq w' G' h') :
  Yq w' G' (h'++k)/\YP w G (h++k) w' G' (h'++k):=by
 have hA:=e.agree H.left
 have hkok:∀r∈k,Ty w G r:=fun r hr=>H.ok r (X4.2 (.inr hr))
 have hklt:∀b o,WC k b o->b<w.heap.size:=fun b o ⟨r,hr,hf⟩=>(hkok r hr).lt b o hf
 refine ⟨⟨?_,?_,?_,H'.lt⟩,⟨e.os,e.tape,e.output,e.size,e.sub,?_,?_,?_⟩⟩
 ·intro r hr
  rcases X4.1 hr with hr|hr
  ·exact H'.ok r hr
  ·have h0:=hkok r hr
   cases r with
   | obj b ls=>
    obtain ⟨cs,el,h1,h2⟩:=h0
    have hb:=(Uh.1 h1).1
    refine ⟨cs,el,?_,h2.mono hA⟩
    rw [(e.same b hb).eq fun _ ho=>H.cross ho ⟨_,hr,rfl⟩]
    exact h1
   | tail v kk=>
    rcases h0 with rfl|⟨g,len,cap,cur,el,rfl,h1,h2,h3⟩
    ·exact .inl rfl
    ·have hb:=(Uh.1 h1).1
     rcases e.same g hb with hs|⟨cs,cs',e',fr,k1,k2,k3,_⟩
     ·exact .inr ⟨g,len,cap,cur,el,rfl,hs.trans h1,h2,h3⟩
     ·rw [h1] at k1
      cases k1
      exact .inr ⟨g,len,cap,cs',el,rfl,k2,h2,k3.trans h3⟩
   | ge s=>exact WR h0 e.size
   | vec v ls=>
    rcases h0 with ⟨rfl,h0⟩|⟨g,cap,cur,el,rfl,h1,h2,h3,h4⟩
    ·exact .inl ⟨rfl,h0⟩
    ·have hb:=(Uh.1 h1).1
     refine .inr ⟨g,cap,cur,el,rfl,?_,h2,h3,h4.mono hA⟩
     rw [(e.same g hb).eq fun o ho=>H.cross ho ⟨_,hr,rfl⟩]
     exact h1
   | many ts=>
    refine ⟨fun p hp=>?_,h0.2⟩
    rcases h0.1 p hp with q|⟨g,len,cap,cur,el,q,h1,h2,h3⟩
    ·exact .inl q
    ·have hb:=(Uh.1 h1).1
     rcases e.same g hb with hs|⟨cs,cs',e',fr,k1,k2,k3,_⟩
     ·exact .inr ⟨g,len,cap,cur,el,q,hs.trans h1,h2,h3⟩
     ·rw [h1] at k1
      cases k1
      exact .inr ⟨g,len,cap,cs',el,q,k2,h2,k3.trans h3⟩
   | own B m=>
    intro b hB
    obtain ⟨cs,el,h1,h2⟩:=h0 b hB
    have hb:=(Uh.1 h1).1
    refine ⟨cs,el,?_,h2⟩
    rw [(e.same b hb).eq fun o ho=>H.cross ho ⟨_,hr,hB⟩]
    exact h1
   | row v k ls=>
    rcases h0 with ⟨rfl,h0⟩|⟨g,len,cap,cur,el,rfl,h1,h2,h3,h4,h5⟩
    ·exact .inl ⟨rfl,h0⟩
    ·have hb:=(Uh.1 h1).1
     refine .inr ⟨g,len,cap,cur,el,rfl,?_,h2,h3,h4,h5.mono hA⟩
     rw [(e.same g hb).eq fun o ho=>H.cross ho ⟨_,hr,rfl⟩]
     exact h1
 ·refine KL.2 ⟨H'.apart,(KL.1 H.apart).2.1,fun r hr r' hr' b o hf hf'=>?_⟩
  have hb:=hklt b o ⟨r',hr',hf'⟩
  exact H.cross (e.newfp b o hb ⟨r,hr,hf⟩) ⟨r',hr',hf'⟩
 ·intro r hr b o hf hg
  rcases X4.1 hr with hr|hr
  ·exact H'.prot r hr b o hf hg
  ·have hb:=hklt b o ⟨r,hr,hf⟩
   rcases e.newG b o hb hg with h1|h1
   ·exact H.prot r (X4.2 (.inr hr)) b o hf h1
   ·exact H.cross h1 ⟨r,hr,hf⟩
 ·exact fun b hb=>(e.same b hb).mono fun _ ho=>J5.2 (.inl ho)
 ·intro b o hb hg
  exact (e.newG b o hb hg).imp id fun h=>J5.2 (.inl h)
 ·intro b o hb hf
  rcases J5.1 hf with h1|h1
  ·exact J5.2 (.inl (e.newfp b o hb h1))
  ·exact J5.2 (.inr h1)
theorem Jr.symm {r r':Res} (h:Jr r r'):Jr r' r:=fun b o h1 h2=>h b o h2 h1
theorem Aq {h k:List Res} (p:h.Perm k) {b o:Nat}:WC h b o↔WC k b o:=
 ⟨fun ⟨r,hr,hf⟩=>⟨r,p.mem_iff.1 hr,hf⟩,fun ⟨r,hr,hf⟩=>⟨r,p.mem_iff.2 hr,hf⟩⟩
theorem Yq.perm {w:World} {G:Y6} {h k:List Res} (H:Yq w G h) (p:h.Perm k):Yq w G k:=
 ⟨fun r hr=>H.ok r (p.mem_iff.2 hr),(p.pairwise_iff (fun h=>Jr.symm h)).1 H.apart,fun r hr=>H.prot r (p.mem_iff.2 hr),H.lt⟩
theorem YP.perm {w w':World} {G G':Y6} {h h' k k':List Res} (e:YP w G h w' G' h') (p:h.Perm k) (p':h'.Perm k'):YP w G k w' G' k':=
 ⟨e.os,e.tape,e.output,e.size,e.sub,fun b hb=>(e.same b hb).mono fun _ ho=>(Aq p).1 ho,
  fun b o hb hg=>(e.newG b o hb hg).imp id (Aq p).1,fun b o hb hf=>(Aq p).1 (e.newfp b o hb ((Aq p').2 hf))⟩
abbrev Fr:=List (Nat × AV)
def Fr.get:Fr->Nat->AV
 | [],_=>.any
 | (s,x)::r,t=>match Nat.beq s t with | true=>x | false=>Fr.get r t
def AV.ofVal:Value->AV
 | .slice none 0 0=>.sl [] (some (.slice none 0 0))
 | v=>.val v
theorem RV.ofVal {w:World} {G:Y6} (v:Value):RV w G (AV.ofVal v) v:=by
 unfold AV.ofVal
 split
 ·exact .nil (by simp)
 ·exact .val
def Fr.ev (F:Fr):Operand->AV
 | .tmp t=>F.get t
 | .const v=>AV.ofVal v
 | .global g=>.val (.pointer (some ⟨g,0,none⟩))
 | .func f=>.val (.func (.func f) #[] #[])
def Fr.put (F:Fr) (d:Option Tmp) (x:AV):Fr:=
 match d with
 | some d=>(d,x)::F
 | none=>F
structure FR (w:World) (G:Y6) (n:Nat) (F:Fr) (a:Act):Prop where
 defers:a.defers=[]
 size:a.tmps.size=n
 get:∀t,RV w G (F.get t) (a.tmps.getD t undef)
section
variable {w w':World} {G G':Y6} {n:Nat} {F:Fr} {a:Act}
theorem FR.mono (h:FR w G n F a) (hA:Vr G w w' G'):FR w' G' n F a:=⟨h.defers,h.size,fun t=>(h.get t).mono hA⟩
theorem FR.ev (h:FR w G n F a) (x:Operand):RV w G (F.ev x) (a.eval x):=by
 cases x with
 | tmp t=>exact h.get t
 | const v=>exact RV.ofVal v
 | global g=>exact .val
 | func f=>exact .val
theorem FR.put (h:FR w G n F a) {d:Option Tmp} {x:AV} {v:Value} (hd:∀t,d=some t->t<n) (hx:RV w G x v):FR w G n (F.put d x) (a.put d v):=by
 cases d with
 | none=>exact h
 | some d=>
  have hlt:=hd d rfl
  refine ⟨h.defers,by simp [Act.put,h.size],fun t=>?_⟩
  show RV w G (match Nat.beq d t with|true=>x|false=>Fr.get F t) ((a.tmps.setIfInBounds d v).getD t undef)
  by_cases e:d=t
  ·subst e
   have:Nat.beq d d=true:=Nat.beq_refl d
   rw [this]
   simp [h.size,hlt,hx]
  ·have hb:Nat.beq d t=false:=by
    cases hh:Nat.beq d t
    ·rfl
    ·exact absurd (U2 hh) e
   rw [hb]
   have:=h.get t
   simpa [Array.getElem?_setIfInBounds_ne e] using this
end
def Fr.Le (F F':Fr):Prop:=∀w G v t,RV w G (F.get t) v->RV w G (F'.get t) v
theorem FR.le {w:World} {G:Y6} {n:Nat} {F F':Fr} {a:Act} (h:FR w G n F a) (hle:F.Le F'):FR w G n F' a:=
 ⟨h.defers,h.size,fun t=>hle _ _ _ _ (h.get t)⟩
abbrev Ww:=Exit->Fr->List Res->Prop
def Jq (n:Nat) (A:Ww) (w:World) (G:Y6) (h:List Res) (e:Exit) (a':Act) (w':World):Prop:=
 ∃F' h' G',A e F' h'/\FR w' G' n F' a'/\Yq w' G' h'/\YP w G h w' G' h'
theorem Jq.trans {n:Nat} {A:Ww} {w w' w'':World} {G G':Y6} {h h':List Res} {e:Exit} {a:Act} (x:YP w G h w' G' h') (c:Jq n A w' G' h' e a w'') :
  Jq n A w G h e a w'':=by
 obtain ⟨F,k,G'',h1,h2,h3,h4⟩:=c
 exact ⟨F,k,G'',h1,h2,h3,x.trans h4⟩
theorem Jq.mono {n:Nat} {A B:Ww} {w w':World} {G:Y6} {h:List Res} {e:Exit} {a:Act} (hAB:∀e F h,A e F h->B e F h) (c:Jq n A w G h e a w') :
  Jq n B w G h e a w':=by
 obtain ⟨F,k,G'',h1,h2,h3,h4⟩:=c
 exact ⟨F,k,G'',hAB _ _ _ h1,h2,h3,h4⟩
def YF (P:Program) (n:Nat) (c:Code) (A:Ww) (F:Fr) (h:List Res):Prop:=
 ∀w G a,FR w G n F a->Yq w G h->c.wp P (Jq n A w G h) a w
def W2 (P:Program) (f:FuncId) (args:List AV) (h:List Res) (R:AV->List Res->Prop):Prop:=
 ∀w G vs,YI w G args vs->Yq w G h ->
  Calls P f vs.toArray w fun e w'=>∃v r h' G',e=.returned v/\R r h'/\RV w' G' r v/\Yq w' G' h'/\YP w G h w' G' h'
theorem W2.mono {P:Program} {f:FuncId} {args:List AV} {h:List Res} {R R':AV->List Res->Prop} (H:W2 P f args h R) (hR:∀r h',R r h'->R' r h') :
  W2 P f args h R':=fun w G vs ha hh=>(H w G vs ha hh).mono fun _ _ ⟨v,r,h',G',h1,h2,h3⟩=>⟨v,r,h',G',h1,hR _ _ h2,h3⟩
def W8 (P:Program) (n:Nat) (o:Oper) (F:Fr) (h:List Res) (K:Fr->List Res->Prop):Prop:=
 ∀(Q:Exit->Act->World->Prop) w G a,FR w G n F a->Yq w G h ->
  o.wp P a w (fun a' w'=>∃F' h' G',K F' h'/\FR w' G' n F' a'/\Yq w' G' h'/\YP w G h w' G' h') Q
def WV (n:Nat) (o:Oper):Bool:=match o.dst with|some d=>Nat.blt d n|none=>true
theorem U7 {n:Nat} {o:Oper} (h:WV n o=true):∀t,o.dst=some t->t<n:=by
 intro t ht
 simp [WV,ht] at h
 exact h
def Xr (P:Program) (o:Oper) (F:Fr) (h:List Res) (ks:List Nat) (x:AV):Prop:=
 ∀n w G a,FR w G n F a->Yq w G h->∃v,RV w G x v /\
  ∀w',(∀b o,G b o->w'.cell? ⟨b,o,none⟩=w.cell? ⟨b,o,none⟩)->(∀b∈ks,w'.heap[b]? = w.heap[b]?)->(execOp a.eval o).run P w'=.ok (.value v) w'
theorem Xr.op {P:Program} {n:Nat} {o:Oper} {F:Fr} {h:List Res} {ks:List Nat} {x:AV} {K:Fr->List Res->Prop} (hs:Xr P o F h ks x) (hd:WV n o=true)
  (hK:K (F.put o.dst x) h):W8 P n o F h K:=by
 intro Q w G a hF hh
 obtain ⟨v,hv,hr⟩:=hs n w G a hF hh
 unfold Oper.wp
 rw [hr w (fun _ _ _=>rfl) (fun _ _=>rfl)]
 exact ⟨_,h,G,hK,hF.put (U7 hd) hv,hh,YP.refl _ _ _⟩
def CQ (op:BinOp) (k:IntKind) (a b:Int):Option Value:=
 match op with
 | .add=>some (.int k (k.wrap (a+b)))
 | .sub=>some (.int k (k.wrap (a-b)))
 | .mul=>some (.int k (k.wrap (a*b)))
 | .eql=>some (.bool (a==b))
 | .neq=>some (.bool (a != b))
 | .lss=>some (.bool (decide (a<b)))
 | .leq=>some (.bool (decide (a<=b)))
 | .gtr=>some (.bool (decide (a>b)))
 | .geq=>some (.bool (decide (a>=b)))
 | _=>none
def DB:IntKind->IntKind->Bool
 | .i8,.i8 | .i16,.i16 | .i32,.i32 | .i64,.i64 | .u8,.u8 | .u16,.u16 | .u32,.u32 | .u64,.u64=>true
 | _,_=>false
theorem Z9s {a b:IntKind} (h:DB a b=true):a=b:=by cases a<;>cases b<;>first|rfl|(simp [DB] at h)
def Bn (P:Program) (t:TypeId):Option (Array Field):=
 match P.underlying t with
 | some (.struct fs)=>some fs
 | _=>none
def C7 (P:Program) (t:TypeId):Option Bool:=
 match P.underlying t with
 | some (.struct _) | some (.array _ _)=>some true
 | some _=>some false
 | none=>none
def CU (P:Program) (t:TypeId) (f:Nat):Option Nat:=
 match Bn P t with
 | some fs=>match fs[f]? with
  | some fd=>match (P.info? fd.type) with
   | some i=>match Nat.beq i.size 0 with | true=>none | false=>some fd.offset
   | none=>none
  | none=>none
 | none=>none
def JR (P:Program) (t:TypeId) (ls:List AV):Option AV:=
 match C7 P t,P.info? t with
 | some true,some i=>match Nat.ble i.size ls.length with | true=>some (.agg (ls.take i.size)) | false=>none
 | some false,some _=>ls.head?
 | _,_=>none
def AV.one:AV->Bool
 | .val v=>v.oneCell'
 | .sl _ _=>true
 | .rp _=>true
 | _=>false
def AV.fit:AV->Bool
 | .agg _=>true
 | x=>x.one
def JF (place:Nat->Option (Nat × Nat)) (ls:List AV):List (Nat × AV)->Option (List AV)
 | []=>some ls
 | (i,x)::rest=>
  match place i with
  | none=>none
  | some (off,size)=>match x.fit&&(Nat.beq x.leaves.length size&&Nat.ble (off+size) ls.length) with
   | true=>JF place (ls.take off++x.leaves++ls.drop (off+size)) rest
   | false=>none
def Cr (P:Program) (t:TypeId):Option (List AV):=
 match P.info? t with
 | some i=>match i.zero with
  | some z=>some (z.cells.toList.map AV.ofVal)
  | none=>none
 | none=>none
def Du (P:Program) (fs:Array Field) (i:Nat):Option (Nat × Nat):=
 match fs[i]? with
 | some f=>match P.info? f.type with
  | some j=>some (f.offset,j.size)
  | none=>none
 | none=>none
def M6 (P:Program) (fs:Array Field):Bool:=fs.toList.all fun f=>(P.info? f.type).isSome
def Kf:List AV->Option (List Value)
 | []=>some []
 | .val v::r=>match Kf r with | some vs=>some (v::vs) | none=>none
 | _::_=>none
def TB (P:Program) (o:Oper) (F:Fr) (h:List Res) (hint:Nat):Option (AV × List (Nat × Nat)):=
 match o.op with
 | .move x | .assign x=>some (F.ev x,[])
 | .pick c a b=>match F.ev c with
  | .val (.bool true)=>some (F.ev a,[])
  | .val (.bool false)=>some (F.ev b,[])
  | _=>none
 | .binOp op _ x y _=>match F.ev x,F.ev y with
  | .val (.int k a),.val (.int k' b)=>match DB k k' with
   | true=>match CQ op k a b with
    | some v=>some (.val v,[])
    | none=>none
   | false=>none
  | _,_=>none
 | .unOp op _ x=>match op,F.ev x with
  | .not,.val (.bool b)=>some (.val (.bool (!b)),[])
  | _,_=>none
 | .nilCheck x=>match F.ev x with
  | .val (.pointer (some a))=>some (.val (.pointer (some a)),[])
  | .rp ls=>some (.rp ls,[])
  | .val (.func (.func f) p c)=>some (.val (.func (.func f) p c),[])
  | _=>none
 | .fieldAddr s x f=>match CU P s f with
  | some off=>match F.ev x with
   | .rp ls=>some (.rp (ls.drop off),[])
   | .val (.pointer (some ⟨b,o,none⟩))=>some (.val (.pointer (some ⟨b,o+off,none⟩)),[])
   | _=>none
  | none=>none
 | .field s x f=>match CU P s f,Bn P s with
  | some off,some fs=>match fs[f]? with
   | some fd=>match F.ev x with
    | .agg ls=>match JR P fd.type (ls.drop off) with
     | some v=>some (v,[])
     | none=>none
    | _=>none
   | none=>none
  | _,_=>none
 | .load t x=>match F.ev x with
  | .rp ls=>match JR P t ls with
   | some v=>some (v,[])
   | none=>none
  | .val (.pointer (some ⟨b,o,none⟩))=>match h[hint]? with
   | some (.obj b' ls)=>match JR P t (ls.drop o) with
    | some v=>some (v,[(b,b')])
    | none=>none
   | _=>none
  | _=>none
 | .extract x i=>match F.ev x with
  | .tup vs=>match vs[i]? with
   | some v=>some (v,[])
   | none=>none
  | _=>none
 | .build t parts=>match Bn P t,Cr P t with
  | some fs,some z=>match M6 P fs with
   | true=>match JF (Du P fs) z (parts.toList.map fun p=>(p.1,F.ev p.2)) with
    | some ls=>some (.agg ls,[])
    | none=>none
   | false=>none
  | _,_=>none
 | .makeFunc fn first captured=>match Kf (first.toList.map F.ev),Kf (captured.toList.map F.ev) with
  | some vs,some us=>some (.val (.func fn vs.toArray us.toArray),[])
  | _,_=>none
 | .call c=>match c.callee,c.args.toList,c.argTypes.toList with
  | .builtin .len,[x],[t]=>match P.underlying t with
   | some (.slice _)=>match F.ev x with
    | .sl es _=>some (.val (.int .i64 (es.length:Int)),[])
    | .val (.slice _ len _)=>some (.val (.int .i64 (len:Int)),[])
    | _=>none
   | _=>none
  | _,_,_=>none
 | _=>none
theorem Vp {P:Program} {t:TypeId} {d:TypeDesc} (h:P.underlying t=some d) (w:World):(underlying t).run P w=.ok d w:=by
 simp [underlying,h]
theorem Fx {P:Program} {t:TypeId} {i:TypeInfo} (h:P.info? t=some i) (w:World):(typeInfo t).run P w=.ok i w:=by
 simp [typeInfo,h]
theorem TW {P:Program} {t:TypeId} {i:TypeInfo} (h:P.info? t=some i) (w:World):(sizeOf t).run P w=.ok i.size w:=by
 simp [sizeOf,Fx h]
theorem Hw {P:Program} {t:TypeId} {fs:Array Field} (h:Bn P t=some fs):P.underlying t=some (.struct fs):=by
 unfold Bn at h
 split at h
 ·simp_all
 ·cases h
theorem DA {P:Program} {t:TypeId} {b:Bool} (h:C7 P t=some b) (w:World):(isAgg t).run P w=.ok b w:=by
 unfold C7 at h
 split at h
 ·rename_i h';cases h;simp [isAgg,Vp h']
 ·rename_i h';cases h;simp [isAgg,Vp h']
 ·rename_i d hd1 hd2 h'
  cases h
  simp [isAgg,Vp h']
 ·cases h
theorem M4 {P:Program} {s:TypeId} {f off:Nat} (h:CU P s f=some off) :
  ∃fs fd i,P.underlying s=some (.struct fs)/\fs[f]? = some fd/\P.info? fd.type=some i/\i.size≠0/\fd.offset=off:=by
 unfold CU at h
 cases h1:Bn P s with
 | none=>simp [h1] at h
 | some fs=>
  cases h2:fs[f]? with
  | none=>simp [h1,h2] at h
  | some fd=>
   cases h3:P.info? fd.type with
   | none=>simp [h1,h2,h3] at h
   | some i=>
    cases h4:Nat.beq i.size 0 with
    | true=>simp [h1,h2,h3,h4] at h
    | false=>
     simp [h1,h2,h3,h4] at h
     refine ⟨fs,fd,i,Hw h1,h2,h3,fun h0=>?_,h⟩
     rw [h0] at h4
     cases h4
theorem QT (b o n:Nat):(⟨b,o,none⟩:Addr).add n=⟨b,o+n,none⟩:=by
 unfold Addr.add;split<;>simp_all
theorem OW {P:Program} {s:TypeId} {f off b o:Nat} (h:CU P s f=some off) (w:World) :
  (Instr.fieldAt s (.pointer (some ⟨b,o,none⟩)) f).run P w=.ok (.pointer (some ⟨b,o+off,none⟩)) w:=by
 obtain ⟨fs,fd,i,h1,h2,h3,h4,rfl⟩:=M4 h
 simp [Instr.fieldAt,Vp h1,h2,Instr.sureAddr,fieldPlace,TW h3,h4,QT]
theorem Fw {P:Program} {t:TypeId} {ls:List AV} {x:AV} {w0:World} {G:Y6} {b o:Nat} {cs:List Value} (hx:JR P t ls=some x) (hcs:YI w0 G ls cs) :
  ∃v,RV w0 G x v/\∀w',(∀j u,cs[j]? = some u->w'.cell? ⟨b,o+j,none⟩=some u)->(loadVar t ⟨b,o,none⟩).run P w'=.ok v w':=by
 unfold JR at hx
 cases hb:C7 P t with
 | none=>simp [hb] at hx
 | some g=>
  cases hi:P.info? t with
  | none=>cases g<;>simp [hb,hi] at hx
  | some i=>
   cases g with
   | true=>
    simp only [hb,hi] at hx
    cases hle:Nat.ble i.size ls.length with
    | false=>simp [hle] at hx
    | true=>
     simp only [hle,XY] at hx
     subst hx
     have hlen:i.size<=ls.length:=WE hle
     refine ⟨_,.agg (hcs.take i.size),fun w' hc=>?_⟩
     have Xk:(cs.take i.size).length=i.size:=by simp [hcs.length,hlen]
     have:=run_loadCells_list (P:=P) (w:=w') ⟨b,o,none⟩ (cs.take i.size) (fun j v hj=>by
      rw [QT]
      rw [Qt] at hj
      split at hj
      ·exact hc j v hj
      ·cases hj)
     rw [Xk] at this
     simp [loadVar,DA hb,TW hi,this]
   | false=>
    simp only [hb,hi] at hx
    cases hcs with
    | nil=>simp at hx
    | cons h1 h2=>
     rename_i c vs xs
     simp at hx
     subst hx
     refine ⟨_,h1,fun w' hc=>?_⟩
     have:=hc 0 c (by simp)
     simp only [BC] at this
     simp only [loadVar,Sem.run_bind,DA hb,Result.andThen_ok]
     simp [load,Sem.run,this]
theorem V1 {P:Program} {x:Sem Value} {w w':World} {v:Value} (h:x.run P w=.ok v w') :
  (do pure (Next.value (<-x)):Sem Next).run P w=.ok (.value v) w':=by
 simp [h]
theorem ID {w:World} {G:Y6} {a:Act} {n:Nat} {F:Fr} (hF:FR w G n F a):∀{xs:List Operand} {vs:List Value},Kf (xs.map F.ev)=some vs->xs.map a.eval=vs
 | [],vs,h=>by simp [Kf] at h;simp [h]
 | x::xs,vs,h=>by
  simp only [VX] at h ⊢
  have hx:=hF.ev x
  cases he:F.ev x with
  | val v=>
   simp only [he,Kf] at h
   cases h2:Kf (xs.map F.ev) with
   | none=>simp [h2] at h
   | some us=>
    simp [h2] at h
    rw [he] at hx
    cases hx
    rw [ID hF h2,h]
  | any=>simp [he,Kf] at h
  | sl es hv=>simp [he,Kf] at h
  | agg ls=>simp [he,Kf] at h
  | rp ls=>simp [he,Kf] at h
  | tup vs=>simp [he,Kf] at h
theorem Z1i {P:Program} {op:BinOp} {k:IntKind} {a b:Int} {v:Value} (h:CQ op k a b=some v) (xt:TypeId) (x y:Operand) (w:World) :
  (do eqGuard op xt x y (.int k a) (.int k b);binOp op xt (.int k a) (.int k b)).run P w=.ok v w:=by
 cases op<;>simp [CQ] at h<;>subst h<;>simp [eqGuard,binOp,Op.intArith,Op.intCmp]
theorem RV.val_inv {w:World} {G:Y6} {v u:Value} (h:RV w G (.val v) u):u=v:=by cases h;rfl
theorem RV.one_cell {w:World} {G:Y6} {x:AV} {v:Value} (h:RV w G x v) (hx:x.one=true):v.oneCell'=true:=by
 cases h with
 | val=>exact hx
 | nil=>rfl
 | sl=>rfl
 | rp=>rfl
 | any=>simp [AV.one] at hx
 | agg=>simp [AV.one] at hx
 | tup=>simp [AV.one] at hx
theorem Gu {v:Value} (h:v.oneCell'=true):v.cells.toList=[v]:=by
 cases v<;>first|rfl|(simp [Value.oneCell'] at h)
theorem RV.cells {w:World} {G:Y6} {x:AV} {v:Value} (h:RV w G x v) (hx:x.fit=true):YI w G x.leaves v.cells.toList:=by
 cases x with
 | agg ls=>cases h with | agg hh=>simpa [AV.leaves,Value.cells] using hh
 | any=>simp [AV.fit,AV.one] at hx
 | tup vs=>simp [AV.fit,AV.one] at hx
 | val u=>rw [Gu (h.one_cell hx)];exact .cons h .nil
 | sl es hv=>rw [Gu (h.one_cell rfl)];exact .cons h .nil
 | rp ls=>rw [Gu (h.one_cell rfl)];exact .cons h .nil
theorem YI.one_cells {w:World} {G:Y6}:∀{xs:List AV} {vs:List Value},YI w G xs vs->xs.all AV.one=true->∀v∈vs,v.oneCell'=true
 | _,_,.nil,_,v,hv=>by simp at hv
 | _,_,.cons h t,hx,v,hv=>by
  simp only [List.all_cons,XI] at hx
  rcases YB.1 hv with rfl|hv
  ·exact h.one_cell hx.1
  ·exact t.one_cells hx.2 v hv
theorem P4 (off:Nat):∀(vs:List Value) (i:Nat) (cs:Array Value),off+i+vs.length<=cs.size ->
  ((vs.zipIdx i).foldl (fun (cs:Array Value) (p:Value × Nat)=>cs.setIfInBounds (off+p.2) p.1) cs).toList=cs.toList.take (off+i)++vs++cs.toList.drop (off+i+vs.length)
 | [],i,cs,h=>by simp
 | v::vs,i,cs,h=>by
  simp only [List.zipIdx_cons,List.foldl_cons]
  rw [P4 off vs (i+1) _ (by simp at h ⊢;omega)]
  have e:=list_seg_step cs.toList (off+i) v vs (by simp at h ⊢;omega)
  simpa [Array.toList_setIfInBounds,A6] using e
theorem H0 {w:World} {G:Y6} {place:Nat->Option (Nat × Nat)}:∀{parts:List (Nat × AV)} {vps:List (Nat × Value)} {ls out:List AV} {cs:Array Value},
  JF place ls parts=some out->parts.map (·.1)=vps.map (·.1)->YI w G (parts.map (·.2)) (vps.map (·.2))->YI w G ls cs.toList ->
  ∃cs',Instr.fill place cs vps=some cs'/\YI w G out cs'.toList
 | [],vps,ls,out,cs,h,h1,h2,h3=>by
  cases vps with
  | nil=>simp [JF] at h;subst h;exact ⟨cs,rfl,h3⟩
  | cons p r=>simp at h1
 | (i,x)::rest,vps,ls,out,cs,h,h1,h2,h3=>by
  cases vps with
  | nil=>simp at h1
  | cons p r=>
   obtain ⟨j,v⟩:=p
   simp only [VX,List.cons.injEq] at h1 h2
   obtain ⟨rfl,h1⟩:=h1
   cases h2 with
   | cons hx ht=>
    simp only [JF] at h
    cases hp:place i with
    | none=>simp [hp] at h
    | some os=>
     obtain ⟨off,size⟩:=os
     simp only [hp] at h
     cases hc:(x.fit&&(Nat.beq x.leaves.length size&&Nat.ble (off+size) ls.length)) with
     | false=>simp [hc] at h
     | true=>
      simp only [hc] at h
      simp only [XI] at hc
      have e1:x.leaves.length=size:=U2 hc.2.1
      have e2:off+size<=ls.length:=WE hc.2.2
      have hl:=h3.length
      have hxc:=hx.cells hc.1
      have hvl:v.cells.size=size:=by have:=hxc.length;simpa [e1] using this
      have hcl:cs.size=ls.length:=by simpa using hl
      have key:YI w G (ls.take off++x.leaves++ls.drop (off+size))
        (v.cells.zipIdx.foldl (fun (cs:Array Value) (p:Value × Nat)=>cs.setIfInBounds (off+p.2) p.1) cs).toList:=by
       have:=P4 off v.cells.toList 0 cs (by simp [hvl,hcl];omega)
       rw [<-Array.foldl_toList,Array.toList_zipIdx,this]
       simp only [BC,QM,hvl]
       exact ((h3.take off).append hxc).append (h3.drop (off+size))
      obtain ⟨cs',k1,k2⟩:=H0 h h1 ht key
      refine ⟨cs',?_,k2⟩
      simp only [Instr.fill,hp]
      rw [Z9 (by simp [hvl,hcl];omega)]
      exact k1
theorem Ri {P:Program} {t:TypeId} {ls:List AV} (h:Cr P t=some ls) :
  ∃i z,P.info? t=some i/\i.zero=some z/\ls=z.cells.toList.map AV.ofVal:=by
 unfold Cr at h
 cases hi:P.info? t with
 | none=>simp [hi] at h
 | some i=>
  cases hz:i.zero with
  | none=>simp [hi,hz] at h
  | some z=>simp [hi,hz] at h;exact ⟨i,z,rfl,hz,h.symm⟩
theorem YI.ofVals {w:World} {G:Y6}:∀(vs:List Value),YI w G (vs.map AV.ofVal) vs
 | []=>.nil
 | v::vs=>.cons (RV.ofVal v) (YI.ofVals vs)
theorem YI.map {w:World} {G:Y6} {α:Type} (f:α->AV) (g:α->Value):∀(xs:List α),(∀x∈xs,RV w G (f x) (g x))->YI w G (xs.map f) (xs.map g)
 | [],_=>.nil
 | x::xs,h=>.cons (h x (by simp)) (YI.map f g xs fun y hy=>h y (by simp [hy]))
theorem OZ {P:Program} (w:World):∀(l:List Field),(l.all fun f=>(P.info? f.type).isSome)=true ->
  (List.mapM (m:=Sem) (fun f=>Functor.map (Prod.mk f.offset) (sizeOf f.type)) l).run P w=.ok (l.map fun f=>(f.offset,((P.info? f.type).map (·.size)).getD 0)) w
 | [],_=>by simp
 | f::l,h=>by
  simp only [List.all_cons,XI] at h
  cases hfi:P.info? f.type with
  | none=>simp [hfi] at h
  | some j=>simp [TW hfi,OZ w l h.2,hfi]
theorem Z9m {P:Program} {t:TypeId} {fs:Array Field} {z ls:List AV} {w:World} {G:Y6} {n:Nat} {F:Fr} {a:Act} (hF:FR w G n F a) (parts:Array (Nat × Operand))
  (h1:Bn P t=some fs) (h2:Cr P t=some z) (h4:M6 P fs=true) (h3:JF (Du P fs) z (parts.toList.map fun p=>(p.1,F.ev p.2))=some ls) :
  ∃v,RV w G (.agg ls) v/\∀w',(Instr.build t (parts.map fun (i,x)=>(i,a.eval x))).run P w'=.ok v w':=by
 obtain ⟨i,zv,hi,hz,rfl⟩:=Ri h2
 have hu:=Hw h1
 have hpl:∀k,((fs.toList.map fun f=>(f.offset,((P.info? f.type).map (·.size)).getD 0)).toArray)[k]? = Du P fs k:=by
  intro k
  unfold Du
  simp only [List.getElem?_toArray,Ki,G0]
  cases hk:fs[k]? with
  | none=>rfl
  | some f=>
   have hf:(P.info? f.type).isSome=true:=by
    have:=KJ.1 h4 f (by rw [Array.mem_toList_iff];exact Array.mem_of_getElem? hk)
    exact this
   cases hfi:P.info? f.type with
   | none=>simp [hfi] at hf
   | some j=>simp [hfi]
 obtain ⟨cs',k1,k2⟩:=H0 (w:=w) (G:=G) (vps:=parts.toList.map fun p=>(p.1,a.eval p.2)) h3 (by simp [List.map_map,Function.comp_def])
  (by simpa [List.map_map,Function.comp_def] using YI.map (fun p:Nat × Operand=>F.ev p.2) (fun p=>a.eval p.2) parts.toList fun p _=>hF.ev p.2)
  (cs:=zv.cells) (YI.ofVals _)
 refine ⟨_,.agg (cs:=cs'.toList) k2,fun w'=>?_⟩
 have hz':(zeroValue t).run P w'=.ok zv w':=by simp [zeroValue,Fx hi,hz]
 have hm:=OZ (P:=P) w' fs.toList h4
 have hfun:(fun k=>((fs.toList.map fun f=>(f.offset,((P.info? f.type).map (·.size)).getD 0)).toArray)[k]?)=Du P fs:=funext hpl
 simp only [Instr.build,Sem.run_bind,hz',Result.andThen_ok,Vp hu,Array.mapM_eq_mapM_toList]
 simp [hm,hpl,k1,Array.toList_map]
theorem BU {P:Program} {o:Oper} {F:Fr} {h:List Res} {hint:Nat} {x:AV} {eqs:List (Nat × Nat)} (he:TB P o F h hint=some (x,eqs))
  (heq:∀p∈eqs,p.1=p.2):Xr P o F h (eqs.map (·.1)) x:=by
 intro n w G a hF hh
 obtain ⟨dst,op,type,pos,after,guard⟩:=o
 cases op<;>simp only [TB] at he
 case move y=>
  cases he
  exact ⟨_,hF.ev y,fun w' _ _=>by simp [execOp]⟩
 case assign y=>
  cases he
  exact ⟨_,hF.ev y,fun w' _ _=>by simp [execOp]⟩
 case pick c y z=>
  have hc:=hF.ev c
  split at he
  ·rename_i hb
   cases he
   rw [hb] at hc
   have hc:=hc.val_inv
   exact ⟨_,hF.ev y,fun w' _ _=>by simp [execOp,hc,asBool]⟩
  ·rename_i hb
   cases he
   rw [hb] at hc
   have hc:=hc.val_inv
   exact ⟨_,hF.ev z,fun w' _ _=>by simp [execOp,hc,asBool]⟩
  ·cases he
 case binOp bop xt y z yt=>
  have hy:=hF.ev y
  have hz:=hF.ev z
  split at he
  ·rename_i k p k' q h1 h2
   rw [h1] at hy
   rw [h2] at hz
   have hy:=hy.val_inv
   have hz:=hz.val_inv
   split at he
   ·rename_i hk
    have hk:=Z9s hk
    subst hk
    split at he
    ·rename_i v hv
     cases he
     refine ⟨v,.val,fun w' _ _=>?_⟩
     have:=Z1i (P:=P) hv xt y z w'
     simp only [execOp,hy,hz]
     exact V1 this
    ·cases he
   ·cases he
  ·cases he
 case unOp uop xt y=>
  have hy:=hF.ev y
  split at he
  ·rename_i b hb
   cases he
   rw [hb] at hy
   have hy:=hy.val_inv
   exact ⟨_,.val,fun w' _ _=>by simp [execOp,hy,Op.unary]⟩
  ·cases he
 case nilCheck y=>
  have hy:=hF.ev y
  generalize hv:a.eval y=u at hy
  split at he
  ·rename_i ad hb
   cases he
   rw [hb] at hy
   have hy:=hy.val_inv
   exact ⟨_,.val,fun w' _ _=>by simp [execOp,hv,hy]⟩
  ·rename_i ls hb
   cases he
   rw [hb] at hy
   cases hy with
   | rp hm=>exact ⟨_,.rp hm,fun w' _ _=>by simp [execOp,hv]⟩
  ·rename_i f p c hb
   cases he
   rw [hb] at hy
   have hy:=hy.val_inv
   exact ⟨_,.val,fun w' _ _=>by simp [execOp,hv,hy]⟩
  ·cases he
 case fieldAddr s y f=>
  have hy:=hF.ev y
  generalize hv:a.eval y=u at hy
  split at he
  ·rename_i off hoff
   split at he
   ·rename_i ls hb
    cases he
    rw [hb] at hy
    cases hy with
    | rp hm=>
     refine ⟨_,.rp (hm.drop off),fun w' _ _=>?_⟩
     simp only [execOp,hv]
     exact V1 (OW hoff w')
   ·rename_i b o' hb
    cases he
    rw [hb] at hy
    have hy:=hy.val_inv
    subst hy
    refine ⟨_,.val,fun w' _ _=>?_⟩
    simp only [execOp,hv]
    exact V1 (OW hoff w')
   ·cases he
  ·cases he
 case field s y f=>
  have hy:=hF.ev y
  generalize hv:a.eval y=u at hy
  split at he
  ·rename_i off fs hoff hfs
   split at he
   ·rename_i fd hfd
    split at he
    ·rename_i ls hb
     split at he
     ·rename_i v hl
      cases he
      rw [hb] at hy
      cases hy with
      | agg hc=>
       rename_i cs
       obtain ⟨fs',fd',i,k1,k2,k3,k4,rfl⟩:=M4 hoff
       have k0:=Hw hfs
       rw [k0] at k1
       cases k1
       rw [hfd] at k2
       cases k2
       have hd:=hc.drop fd.offset
       unfold JR at hl
       cases hg:C7 P fd.type with
       | none=>simp [hg] at hl
       | some g=>
        cases g with
        | true=>
         simp only [hg,k3] at hl
         cases hle:Nat.ble i.size (ls.drop fd.offset).length with
         | false=>rw [hle] at hl;cases hl
         | true=>
          rw [hle] at hl
          simp only [XY] at hl
          subst hl
          refine ⟨_,.agg (hd.take i.size),fun w' _ _=>?_⟩
          simp only [execOp,hv]
          refine V1 ?_
          simp only [Instr.field,Sem.run_bind,Vp k0,Result.andThen_ok,hfd]
          simp [asAgg,part,DA hg,TW k3]
        | false=>
         simp only [hg,k3] at hl
         generalize hls:ls.drop fd.offset=ls' at hl hd
         generalize hcs:cs.drop fd.offset=cs' at hd
         cases hd with
         | nil=>simp at hl
         | cons h1 h2=>
          rename_i c vs xs
          simp at hl
          subst hl
          refine ⟨_,h1,fun w' _ _=>?_⟩
          simp only [execOp,hv]
          refine V1 ?_
          have hget:cs[fd.offset]? = some c:=by
           have:=Yc (fun l=>l[0]?) hcs
           simpa using this
          simp only [Instr.field,Sem.run_bind,Vp k0,Result.andThen_ok,hfd]
          simp [asAgg,part,DA hg,hget]
     ·cases he
    ·cases he
   ·cases he
  ·cases he
 case load t y=>
  have hy:=hF.ev y
  generalize hv:a.eval y=u at hy
  split at he
  ·rename_i ls hb
   split at he
   ·rename_i v hl
    cases he
    rw [hb] at hy
    cases hy with
    | rp hm=>
     rename_i b o'
     obtain ⟨cs,Zb,Zg⟩:=hm.cells
     obtain ⟨v',h1,h2⟩:=Fw (b:=b) (o:=o') hl Zb
     refine ⟨v',h1,fun w' hw _=>?_⟩
     simp only [execOp,hv]
     refine V1 ?_
     simp only [Instr.loadAt,Instr.sureAddr,Sem.run_bind,Sem.run_pure,Result.andThen_ok]
     exact h2 w' fun j u hj=>(hw _ _ (Zg j u hj).2).trans (Zg j u hj).1
   ·cases he
  ·rename_i b o' hb
   split at he
   ·rename_i b' ls hh'
    split at he
    ·rename_i v hl
     cases he
     rw [hb] at hy
     have hy:=hy.val_inv
     subst hy
     have hbb:b=b':=heq (b,b') (by simp)
     subst hbb
     obtain ⟨cs,e,k1,k2⟩:=hh.ok _ (Y0 hh')
     obtain ⟨v',h1,h2⟩:=Fw (b:=b) (o:=o') hl (k2.drop o')
     refine ⟨v',h1,fun w' _ hw=>?_⟩
     simp only [execOp,hv]
     refine V1 ?_
     simp only [Instr.loadAt,Instr.sureAddr,Sem.run_bind,Sem.run_pure,Result.andThen_ok]
     refine h2 w' fun j u hj=>?_
     have:=hw b (by simp)
     rw [k1] at this
     rw [cell_of_row w' b (o'+j) cs e (0,0) this]
     simpa using hj
    ·cases he
   ·cases he
  ·cases he
 case extract y i=>
  have hy:=hF.ev y
  generalize hv:a.eval y=u at hy
  split at he
  ·rename_i vs hb
   split at he
   ·rename_i v hl
    cases he
    rw [hb] at hy
    cases hy with
    | tup hc=>
     rename_i cs
     obtain ⟨c,h1,h2⟩:=hc.get i _ hl
     exact ⟨c,h2,fun w' _ _=>by simp [execOp,hv,Instr.extract,h1]⟩
   ·cases he
  ·cases he
 case build t parts=>
  split at he
  ·rename_i fs z h1 h2
   split at he
   ·rename_i h4
    split at he
    ·rename_i ls h3
     cases he
     obtain ⟨v,hv1,hv2⟩:=Z9m hF parts h1 h2 h4 h3
     exact ⟨v,hv1,fun w' _ _=>by simp only [execOp];exact V1 (hv2 w')⟩
    ·cases he
   ·cases he
  ·cases he
 case makeFunc fn first captured=>
  split at he
  ·rename_i vs us h1 h2
   cases he
   have e1:=ID hF h1
   have e2:=ID hF h2
   refine ⟨_,.val,fun w' _ _=>?_⟩
   have e1':first.map a.eval=vs.toArray:=by rw [<-e1,<-Array.toList_map,VN]
   have e2':captured.map a.eval=us.toArray:=by rw [<-e2,<-Array.toList_map,VN]
   simp only [execOp]
   exact V1 (by simp only [Instr.makeFunc,e1',e2'];simp)
  ·cases he
 case call c=>
  obtain ⟨callee,args,argTypes⟩:=c
  simp only at he
  split at he
  ·rename_i y t hargs htys
   split at he
   ·rename_i el hu
    have hy:=hF.ev y
    generalize hv:a.eval y=u at hy
    have ha:args=#[y]:=by rw [<-VN (xs:=args),hargs]
    have ht:argTypes=#[t]:=by rw [<-VN (xs:=argTypes),htys]
    subst ha;subst ht
    split at he
    ·rename_i es hv' hb
     cases he
     rw [hb] at hy
     refine ⟨.int .i64 es.length,.val,fun w' _ _=>?_⟩
     cases hy with
     | nil hx=>simp [execOp,resolve,invoke,builtin,hv,Builtin.len_,Vp hu,goInt]
     | sl hx hc hm=>simp [execOp,resolve,invoke,builtin,hv,Builtin.len_,Vp hu,goInt]
    ·rename_i ad len cap hb
     cases he
     rw [hb] at hy
     have hy:=hy.val_inv
     subst hy
     exact ⟨.int .i64 len,.val,fun w' _ _=>by simp [execOp,resolve,invoke,builtin,hv,Builtin.len_,Vp hu,goInt]⟩
    ·cases he
   ·cases he
  ·cases he
 all_goals (cases he)
def A9 (h:List Res) (b:Nat):Prop:=∀s,Res.ge s∈h->s<=b
theorem Hk {w:World} {G:Y6} {h:List Res} (hh:Yq w G h):A9 h w.heap.size:=fun _ hs=>hh.ok _ hs
theorem EL (w:World) (o:Obj):(w.alloc o).heap[w.heap.size]? = some o:=heap_alloc_new w o
theorem Au (w:World) (o:Obj) {b:Nat} (hb:b<w.heap.size):(w.alloc o).heap[b]? = w.heap[b]?:=heap_alloc_old w o b hb
theorem CF (w:World) (o:Obj) {b j:Nat} (hb:b<w.heap.size):(w.alloc o).cell? ⟨b,j,none⟩=w.cell? ⟨b,j,none⟩:=by
 simp [World.cell?,Au w o hb]
theorem Yq.alloc {w:World} {G:Y6} {h:List Res} (hh:Yq w G h) (o:Obj) {G':Y6} {h':List Res}
  (hsub:∀b o,G b o->G' b o) (hG:∀b o,G' b o->G b o∨b=w.heap.size) (hnew:∀r∈h',Ty (w.alloc o) G' r)
  (hfp:∀r∈h',∀b o,r.fp b o->b=w.heap.size) (hap:h'.Pairwise Jr) (hpr:∀r∈h',∀b o,r.fp b o->G' b o->False) :
  Yq (w.alloc o) G' (h'++h)/\YP w G h (w.alloc o) G' (h'++h):=by
 have hA:Vr G w (w.alloc o) G':=⟨fun b j hg=>CF w o (hh.lt b j hg),hsub⟩
 have Xk:(w.alloc o).heap.size=w.heap.size+1:=by simp
 refine ⟨⟨?_,?_,?_,?_⟩,⟨rfl,rfl,rfl,by omega,hsub,fun b hb=>.inl (Au w o hb),?_,?_⟩⟩
 ·intro r hr
  rcases X4.1 hr with hr|hr
  ·exact hnew r hr
  ·have h0:=hh.ok r hr
   cases r with
   | obj b ls=>
    obtain ⟨cs,el,h1,h2⟩:=h0
    exact ⟨cs,el,(Au w o (Uh.1 h1).1).trans h1,h2.mono hA⟩
   | tail v k=>
    rcases h0 with rfl|⟨g,len,cap,cur,el,rfl,h1,h2,h3⟩
    ·exact .inl rfl
    ·exact .inr ⟨g,len,cap,cur,el,rfl,(Au w o (Uh.1 h1).1).trans h1,h2,h3⟩
   | ge s=>exact WR h0 om
   | vec v ls=>
    rcases h0 with ⟨rfl,h0⟩|⟨g,cap,cur,el,rfl,h1,h2,h3,h4⟩
    ·exact .inl ⟨rfl,h0⟩
    ·exact .inr ⟨g,cap,cur,el,rfl,(Au w o (Uh.1 h1).1).trans h1,h2,h3,h4.mono hA⟩
   | many ts=>
    refine ⟨fun p hp=>?_,h0.2⟩
    rcases h0.1 p hp with q|⟨g,len,cap,cur,el,q,h1,h2,h3⟩
    ·exact .inl q
    ·exact .inr ⟨g,len,cap,cur,el,q,(Au w o (Uh.1 h1).1).trans h1,h2,h3⟩
   | own B m=>
    intro b hB
    obtain ⟨cs,el,h1,h2⟩:=h0 b hB
    exact ⟨cs,el,(Au w o (Uh.1 h1).1).trans h1,h2⟩
   | row v k ls=>
    rcases h0 with ⟨rfl,h0⟩|⟨g,len,cap,cur,el,rfl,h1,h2,h3,h4,h5⟩
    ·exact .inl ⟨rfl,h0⟩
    ·exact .inr ⟨g,len,cap,cur,el,rfl,(Au w o (Uh.1 h1).1).trans h1,h2,h3,h4,h5.mono hA⟩
 ·refine KL.2 ⟨hap,hh.apart,fun r hr r' hr' b j hf hf'=>?_⟩
  have e:=hfp r hr b j hf
  have:=(hh.ok r' hr').lt b j hf'
  omega
 ·intro r hr b j hf hg
  rcases X4.1 hr with hr|hr
  ·exact hpr r hr b j hf hg
  ·rcases hG b j hg with h1|h1
   ·exact hh.prot r hr b j hf h1
   ·have:=(hh.ok r hr).lt b j hf
    omega
 ·intro b j hg
  rcases hG b j hg with h1|h1
  ·have:=hh.lt b j h1;omega
  ·omega
 ·intro b j hb hg
  rcases hG b j hg with h1|h1
  ·exact .inl h1
  ·omega
 ·intro b j hb hf
  rcases J5.1 hf with ⟨r,hr,h1⟩|h1
  ·have:=hfp r hr b j h1;omega
  ·exact h1
theorem Yq.alloc_obj {w:World} {G:Y6} {h:List Res} (hh:Yq w G h) (cs:Array Value) (t:TypeId) {ls:List AV} (hls:YI w G ls cs.toList) :
  Yq (w.alloc (.cells cs t)) G (.obj w.heap.size ls::h)/\YP w G h (w.alloc (.cells cs t)) G (.obj w.heap.size ls::h):=by
 have hA:Vr G w (w.alloc (.cells cs t)) G:=⟨fun b j hg=>CF w _ (hh.lt b j hg),fun _ _ h=>h⟩
 refine hh.alloc (.cells cs t) (h':=[.obj w.heap.size ls]) (fun _ _ h=>h) (fun _ _ h=>.inl h) ?_ ?_ (Cu _ _) ?_
 ·intro r hr
  rw [XT.1 hr]
  exact ⟨cs,t,EL w _,hls.mono hA⟩
 ·intro r hr b j hf
  rw [XT.1 hr] at hf
  exact hf
 ·intro r hr b j hf hg
  rw [XT.1 hr] at hf
  have:=hh.lt b j hg
  have:b=w.heap.size:=hf
  omega
section
variable {P:Program} {n:Nat} {o:Oper} {F:Fr} {h:List Res} {K:Fr->List Res->Prop}
theorem Z7m (t:TypeId) {ls:List AV} (ho:o.op=.alloc t) (hz:Cr P t=some ls) (hd:WV n o=true)
  (hK:∀b,A9 h b->K (F.put o.dst (.val (.pointer (some ⟨b,0,none⟩)))) (.obj b ls::h)):W8 P n o F h K:=by
 intro Q w G a hF hh
 obtain ⟨i,z,hi,hzz,rfl⟩:=Ri hz
 have hr:(execOp a.eval o).run P w=.ok (.value (.pointer (some ⟨w.heap.size,0,none⟩))) (w.alloc (.cells z.cells t)):=by
  simp only [execOp,ho]
  simp [Instr.alloc,zeroValue,Fx hi,hzz,newVar,newRow]
 unfold Oper.wp
 rw [hr]
 have hls:YI w G (z.cells.toList.map AV.ofVal) z.cells.toList:=YI.ofVals _
 obtain ⟨h1,h2⟩:=hh.alloc_obj z.cells t hls
 exact ⟨_,_,G,hK _ (Hk hh),(hF.mono (h2.agree hh)).put (U7 hd) .val,h1,h2⟩
theorem Z7p (t:TypeId) (x:Operand) {X:AV} (ho:o.op=.box t x) (hx:F.ev x=X) (hfit:X.fit=true) (hd:WV n o=true)
  (hK:∀b,A9 h b->K (F.put o.dst (.val (.pointer (some ⟨b,0,none⟩)))) (.obj b X.leaves::h)):W8 P n o F h K:=by
 intro Q w G a hF hh
 have hv:=hF.ev x
 rw [hx] at hv
 have hr:(execOp a.eval o).run P w=.ok (.value (.pointer (some ⟨w.heap.size,0,none⟩))) (w.alloc (.cells (a.eval x).cells t)):=by
  simp only [execOp,ho]
  simp [Instr.box,newVar,newRow]
 unfold Oper.wp
 rw [hr]
 obtain ⟨h1,h2⟩:=hh.alloc_obj (a.eval x).cells t (hv.cells hfit)
 exact ⟨_,_,G,hK _ (Hk hh),(hF.mono (h2.agree hh)).put (U7 hd) .val,h1,h2⟩
end
theorem Vj (w:World) (g b:Nat) (cs:Array Value) (hb:b≠g):(w.setRow g cs).heap[b]? = w.heap[b]?:=setRow_other w g b cs hb
theorem Yq.write {w:World} {G:Y6} {h1 h2:List Res} {b:Nat} {ls ls':List AV} (hh:Yq w G (h1++.obj b ls::h2)) {cs cs':Array Value} {e:TypeId}
  (hb:w.heap[b]? = some (.cells cs e (0,0))) (Xk:cs'.size=cs.size) (hls:YI w G ls' cs'.toList) :
  Yq (w.setRow b cs') G (h1++.obj b ls'::h2)/\YP w G (h1++.obj b ls::h2) (w.setRow b cs') G (h1++.obj b ls'::h2):=by
 have hmem:Res.obj b ls∈h1++.obj b ls::h2:=by simp
 have hA:Vr G w (w.setRow b cs') G:=⟨fun c j hg=>by
  have hne:c≠b:=fun he=>hh.prot _ hmem c j he hg
  simp [World.cell?,Vj w b c cs' hne],fun _ _ h=>h⟩
 have hfpe:∀c j,WC (h1++.obj b ls'::h2) c j↔WC (h1++.obj b ls::h2) c j:=by
  intro c j
  simp only [WC,X4,YB]
  constructor
  ·rintro ⟨r,hr|rfl|hr,hf⟩
   ·exact ⟨r,.inl hr,hf⟩
   ·exact ⟨_,.inr (.inl rfl),hf⟩
   ·exact ⟨r,.inr (.inr hr),hf⟩
  ·rintro ⟨r,hr|rfl|hr,hf⟩
   ·exact ⟨r,.inl hr,hf⟩
   ·exact ⟨_,.inr (.inl rfl),hf⟩
   ·exact ⟨r,.inr (.inr hr),hf⟩
 have hpw:=KL.1 hh.apart
 have hpw2:=Wv.1 hpw.2.1
 have hother:∀r,(r∈h1∨r∈h2)->∀c j,r.fp c j->c≠b:=by
  intro r hr c j hf hc
  subst hc
  rcases hr with hr|hr
  ·exact hpw.2.2 r hr (.obj c ls) (by simp) c j hf rfl
  ·exact hpw2.1 r hr c j rfl hf
 have hkeep:∀r,(r∈h1∨r∈h2)->Ty w G r->Ty (w.setRow b cs') G r:=by
  intro r hr h0
  cases r with
  | obj c ks=>
   obtain ⟨ds,el,k1,k2⟩:=h0
   have hne:c≠b:=hother _ hr c 0 rfl
   exact ⟨ds,el,(Vj w b c cs' hne).trans k1,k2.mono hA⟩
  | tail v k=>
   rcases h0 with rfl|⟨g,len,cap,cur,el,rfl,k1,k2,k3⟩
   ·exact .inl rfl
   ·have hne:g≠b:=hother _ hr g (len*k) ⟨rfl,YR _⟩
    exact .inr ⟨g,len,cap,cur,el,rfl,(Vj w b g cs' hne).trans k1,k2,k3⟩
  | ge s=>exact WR h0 (by simp [World.setRow])
  | vec v ks=>
   rcases h0 with ⟨rfl,h0⟩|⟨g,cap,cur,el,rfl,k1,k2,k3,k4⟩
   ·exact .inl ⟨rfl,h0⟩
   ·have hne:g≠b:=hother _ hr g 0 rfl
    exact .inr ⟨g,cap,cur,el,rfl,(Vj w b g cs' hne).trans k1,k2,k3,k4.mono hA⟩
  | many ts=>
   refine ⟨fun p hp=>?_,h0.2⟩
   rcases h0.1 p hp with q|⟨g,len,cap,cur,el,q,k1,k2,k3⟩
   ·exact .inl q
   ·have hne:g≠b:=hother _ hr g (len*p.2) ⟨p,hp,by rw [q];exact ⟨rfl,YR _⟩⟩
    exact .inr ⟨g,len,cap,cur,el,q,(Vj w b g cs' hne).trans k1,k2,k3⟩
  | own B m=>
   intro c hc
   obtain ⟨ds,el,k1,k2⟩:=h0 c hc
   have hne:c≠b:=hother _ hr c 0 hc
   exact ⟨ds,el,(Vj w b c cs' hne).trans k1,k2⟩
  | row v k ks=>
   rcases h0 with ⟨rfl,h0⟩|⟨g,len,cap,cur,el,rfl,k1,k2,k3,k4,k5⟩
   ·exact .inl ⟨rfl,h0⟩
   ·have hne:g≠b:=hother _ hr g 0 rfl
    exact .inr ⟨g,len,cap,cur,el,rfl,(Vj w b g cs' hne).trans k1,k2,k3,k4,k5.mono hA⟩
 refine ⟨⟨?_,?_,?_,?_⟩,⟨rfl,rfl,rfl,by simp [World.setRow],fun _ _ h=>h,?_,fun _ _ _ h=>.inl h,fun c j _ hf=>(hfpe c j).1 hf⟩⟩
 ·intro r hr
  rcases X4.1 hr with hr|hr
  ·exact hkeep r (.inl hr) (hh.ok r (by simp [hr]))
  ·rcases YB.1 hr with rfl|hr
   ·exact ⟨cs',e,setRow_heap w b cs cs' e (0,0) hb,hls.mono hA⟩
   ·exact hkeep r (.inr hr) (hh.ok r (by simp [hr]))
 ·refine KL.2 ⟨hpw.1,Wv.2 ⟨hpw2.1,hpw2.2⟩,fun r hr r' hr'=>?_⟩
  rcases YB.1 hr' with rfl|hr'
  ·exact hpw.2.2 r hr (.obj b ls) (by simp)
  ·exact hpw.2.2 r hr r' (by simp [hr'])
 ·intro r hr c j hf hg
  rcases X4.1 hr with hr|hr
  ·exact hh.prot r (by simp [hr]) c j hf hg
  ·rcases YB.1 hr with rfl|hr
   ·exact hh.prot _ hmem c j hf hg
   ·exact hh.prot r (by simp [hr]) c j hf hg
 ·intro c j hg
  have:=hh.lt c j hg
  simpa [World.setRow] using this
 ·intro c hc
  by_cases hcb:c=b
  ·subst hcb
   exact .inr ⟨cs,cs',e,(0,0),hb,setRow_heap w c cs cs' e (0,0) hb,Xk,fun j hj=>absurd ⟨_,hmem,rfl⟩ hj⟩
  ·exact .inl (Vj w b c cs' hcb)
section
variable {P:Program} {n:Nat} {o:Oper} {F:Fr} {h1 h2:List Res} {K:Fr->List Res->Prop}
theorem Z7y (t:TypeId) (x y:Operand) {b off:Nat} {ls:List AV} {X:AV} (ho:o.op=.store t x y) (hdst:o.dst=none)
  (hx:F.ev x=.val (.pointer (some ⟨b,off,none⟩))) (hy:F.ev y=X) (hX:(X.fit&&X.leaves.all AV.one)=true)
  (Xk:(P.info? t).map (·.size)=some X.leaves.length) (hle:Nat.ble (off+X.leaves.length) ls.length=true)
  (hK:K F (h1++.obj b (ls.take off++X.leaves++ls.drop (off+X.leaves.length))::h2)):W8 P n o F (h1++.obj b ls::h2) K:=by
 intro Q w G a hF hh
 have hvx:=hF.ev x
 rw [hx] at hvx
 have hvx:=hvx.val_inv
 have hvy:=hF.ev y
 rw [hy] at hvy
 simp only [XI] at hX
 have hcs:=hvy.cells hX.1
 have hone:=hcs.one_cells hX.2
 have hlen:=hcs.length
 obtain ⟨cs,e,k1,k2⟩:=hh.ok (.obj b ls) (by simp)
 have hle:=WE hle
 have hcl:=k2.length
 simp only [QM] at hlen hcl
 cases hi:P.info? t with
 | none=>simp [hi] at Xk
 | some i=>
  have Xk:i.size=X.leaves.length:=by simpa [hi] using Xk
  have hst:=run_storeCells_at P b off e (a.eval y).cells.toList 0 cs w k1 (by simp [hlen,hcl];omega) hone
  simp only [BC,QM] at hst
  have hr:(execOp a.eval o).run P w=.ok .skip (w.setRow b (cs.toList.take off++(a.eval y).cells.toList++cs.toList.drop (off+(a.eval y).cells.size)).toArray):=by
   simp only [execOp,ho,hvx]
   simp [Instr.storeAt,Instr.sureAddr,storeVar,TW hi,hlen,Xk,hst]
  unfold Oper.wp
  rw [hr]
  obtain ⟨j1,j2⟩:=hh.write (ls':=ls.take off++X.leaves++ls.drop (off+X.leaves.length)) (cs':=(cs.toList.take off++(a.eval y).cells.toList++cs.toList.drop (off+(a.eval y).cells.size)).toArray)
   k1 (by simp [hlen,hcl];omega) (by rw [Cw,hlen];exact ((k2.take off).append hcs).append (k2.drop _))
  refine ⟨F,_,G,hK,?_,j1,j2⟩
  have:=hF.mono (j2.agree hh)
  simpa [Act.put,hdst] using this
end
theorem Z20 {h h':List Res} (s:∀r∈h',r∈h) {b o:Nat} (hf:WC h' b o):WC h b o:=
 let ⟨r,hr,h⟩:=hf;⟨r,s r hr,h⟩
theorem Yq.sub {w:World} {G:Y6} {h h':List Res} (hh:Yq w G h) (s:h'.Sublist h):Yq w G h':=
 ⟨fun r hr=>hh.ok r (s.subset hr),hh.apart.sublist s,fun r hr=>hh.prot r (s.subset hr),hh.lt⟩
theorem YP.sub' {w w':World} {G G':Y6} {h h' h'':List Res} (e:YP w G h w' G' h') (s:h''.Sublist h'):YP w G h w' G' h'':=
 ⟨e.os,e.tape,e.output,e.size,e.sub,e.same,e.newG,fun b o hb hf=>e.newfp b o hb (Z20 (fun _ hr=>s.subset hr) hf)⟩
theorem Ae (w:World) (G:Y6):Vr G w w.drew G:=⟨fun _ _ _=>rfl,fun _ _ h=>h⟩
theorem Yq.drew {w:World} {G:Y6} {h:List Res} (hh:Yq w G h):Yq w.drew G h where
 ok:=fun r hr=>by
  have h0:=hh.ok r hr
  cases r with
  | obj b ls=>obtain ⟨cs,e,h1,h2⟩:=h0;exact ⟨cs,e,h1,h2.mono (Ae w G)⟩
  | tail v k=>exact h0
  | ge s=>exact h0
  | vec v ls=>
   rcases h0 with ⟨rfl,h0⟩|⟨g,cap,cur,el,rfl,h1,h2,h3,h4⟩
   ·exact .inl ⟨rfl,h0⟩
   ·exact .inr ⟨g,cap,cur,el,rfl,h1,h2,h3,h4.mono (Ae w G)⟩
  | many ts=>exact h0
  | own B m=>exact h0
  | row v k ls=>
   rcases h0 with ⟨rfl,h0⟩|⟨g,len,cap,cur,el,rfl,h1,h2,h3,h4,h5⟩
   ·exact .inl ⟨rfl,h0⟩
   ·exact .inr ⟨g,len,cap,cur,el,rfl,h1,h2,h3,h4,h5.mono (Ae w G)⟩
 apart:=hh.apart
 prot:=hh.prot
 lt:=hh.lt
theorem YP.drew (w:World) (G:Y6) (h:List Res):YP w G h w.drew G h:=
 ⟨rfl,rfl,rfl,YR _,fun _ _ h=>h,fun _ _=>.inl rfl,fun _ _ _ h=>.inl h,fun _ _ _ h=>h⟩
theorem Yq.alloc_row {w:World} {G:Y6} {h:List Res} (hh:Yq w G h) (cs:Array Value) (t:TypeId) {es:List AV} {k cap:Nat}
  (hk:∀x∈es,x.leaves.length=k) (hcap:es.length<=cap) (Xk:cs.size=cap*k) (hls:YI w G (Ze es) (cs.toList.take (es.length*k))) :
  ∃G',Yq (w.alloc (.cells cs t)) G' (.tail (.slice (some ⟨w.heap.size,0,none⟩) es.length cap) k::h) /\
   YP w G h (w.alloc (.cells cs t)) G' (.tail (.slice (some ⟨w.heap.size,0,none⟩) es.length cap) k::h) /\
   RV (w.alloc (.cells cs t)) G' (.sl es (some (.slice (some ⟨w.heap.size,0,none⟩) es.length cap))) (.slice (some ⟨w.heap.size,0,none⟩) es.length cap):=by
 let G':Y6:=fun b o=>G b o∨(b=w.heap.size/\o<es.length*k)
 have hA:Vr G w (w.alloc (.cells cs t)) G':=⟨fun b j hg=>CF w _ (hh.lt b j hg),fun _ _ h=>.inl h⟩
 have hrow:(w.alloc (.cells cs t)).heap[w.heap.size]? = some (.cells cs t (0,0)):=EL w _
 obtain ⟨h1,h2⟩:=hh.alloc (.cells cs t) (G':=G') (h':=[.tail (.slice (some ⟨w.heap.size,0,none⟩) es.length cap) k]) (fun _ _ h=>.inl h)
  (fun _ _ h=>h.imp id (·.1))
  (fun r hr=>by rw [XT.1 hr];exact .inr ⟨_,_,_,cs,t,rfl,hrow,hcap,Xk⟩)
  (fun r hr b j hf=>by rw [XT.1 hr] at hf;exact hf.1)
  (Cu _ _)
  (fun r hr b j hf hg=>by
   rw [XT.1 hr] at hf
   obtain ⟨rfl,hf2⟩:=hf
   rcases hg with hg|hg
   ·exact Nat.lt_irrefl _ (hh.lt _ _ hg)
   ·exact absurd hg.2 om)
 refine ⟨G',h1,h2,.sl (fun x hx=>by cases hx;rfl) hcap (WF.of_flat es hk (W9.of_cells (hls.mono hA) fun j v hj=>?_))⟩
 have hj2:=hj
 rw [Qt] at hj2
 split at hj2
 ·rename_i hlt
  refine ⟨?_,.inr ⟨rfl,by omega⟩⟩
  rw [WS,cell_of_row _ _ j cs t (0,0) hrow]
  simpa using hj2
 ·cases hj2
theorem OC {w:World} {G:Y6}:∀(vs:List Value),YI w G (List.replicate vs.length AV.any) vs
 | []=>.nil
 | v::vs=>by simp only [YH,IJ];exact .cons .any (OC vs)
def Ju (es:List AV) (k:Nat):Bool:=es.all fun x=>Nat.beq x.leaves.length k
theorem RC {es:List AV} {k:Nat} (h:Ju es k=true):∀x∈es,x.leaves.length=k:=fun x hx=>
 U2 (KJ.1 h x hx)
section
variable {P:Program} {n:Nat} {o:Oper} {F:Fr} {h:List Res} {K:Fr->List Res->Prop}
theorem Fv {w:World} {G:Y6} {a:Act} (hF:FR w G n F a) {t len:Nat} (parts:Array (Nat × Operand)) {e size:Nat} {i:TypeInfo} {ls:List AV}
  (ht:P.underlying t=some (.slice e)) (hi:P.info? e=some i) (hs:i.size=size) (hz:i.zero.isSome=true) (hle:Nat.ble (len*size) (2 ^ 24)=true)
  (hfill:JF (fun i=>some (i*size,size)) (List.replicate (len*size) .any) (parts.toList.map fun p=>(p.1,F.ev p.2))=some ls) :
  ∃cs:Array Value,YI w G ls cs.toList /\
   (Instr.buildSlice t len (parts.map fun (i,x)=>(i,a.eval x))).run P w=.ok (.slice (some ⟨w.heap.size,0,none⟩) len len) (w.alloc (.cells cs e)):=by
 subst hs
 have hle:=WE hle
 cases hzz:i.zero with
 | none=>simp [hzz] at hz
 | some z=>
  let zero:Array Value:=if len*i.size=0 then #[] else z.cells
  have hzlen:((Array.range (len*i.size)).map (zero[· % zero.size]!)).toList.length=len*i.size:=by simp
  obtain ⟨cs',k1,k2⟩:=H0 (w:=w) (G:=G) (vps:=parts.toList.map fun p=>(p.1,a.eval p.2)) hfill (by simp [List.map_map,Function.comp_def])
   (by simpa [List.map_map,Function.comp_def] using YI.map (fun p:Nat × Operand=>F.ev p.2) (fun p=>a.eval p.2) parts.toList fun p _=>hF.ev p.2)
   (cs:=(Array.range (len*i.size)).map (zero[· % zero.size]!)) (by have:=OC (w:=w) (G:=G) ((Array.range (len*i.size)).map (zero[· % zero.size]!)).toList;rwa [hzlen] at this)
  refine ⟨cs',k2,?_⟩
  have hnot:¬(len*i.size>2 ^ 24):=by omega
  have hzv:(zeroValue e).run P w=.ok z w:=by simp [zeroValue,Fx hi,hzz]
  have hmap:(parts.map fun (x:Nat × Operand)=>(x.1,a.eval x.2)).toList=parts.toList.map fun p=>(p.1,a.eval p.2):=by simp
  simp only [Instr.buildSlice,Sem.run_bind,Vp ht,Result.andThen_ok,TW hi,hnot,if_false]
  by_cases h0:len*i.size=0
  ·have hz0:zero=#[]:=Zk h0
   rw [hz0] at k1
   rw [Zk h0]
   simp only [Sem.run_bind,Sem.run_pure,Result.andThen_ok,hmap,k1]
   simp [newRow]
  ·have hz0:zero=z.cells:=Z9 h0
   rw [hz0] at k1
   rw [Z9 h0]
   simp only [Sem.run_bind,Sem.run_pure,Result.andThen_ok,hzv,hmap,k1]
   simp [newRow]
theorem Z7s (t len:Nat) (parts:Array (Nat × Operand)) {e size:Nat} {i:TypeInfo} {es:List AV} (ho:o.op=.buildSlice t len parts)
  (ht:P.underlying t=some (.slice e)) (hi:P.info? e=some i) (hs:i.size=size) (hz:i.zero.isSome=true) (hle:Nat.ble (len*size) (2 ^ 24)=true)
  (hfill:JF (fun i=>some (i*size,size)) (List.replicate (len*size) .any) (parts.toList.map fun p=>(p.1,F.ev p.2))=some (Ze es))
  (hlen:es.length=len) (hall:Ju es size=true) (hd:WV n o=true)
  (hK:∀b,A9 h b->K (F.put o.dst (.sl es (some (.slice (some ⟨b,0,none⟩) len len)))) (.tail (.slice (some ⟨b,0,none⟩) len len) size::h)):W8 P n o F h K:=by
 intro Q w G a hF hh
 obtain ⟨cs,h1,h2⟩:=Fv hF parts ht hi hs hz hle hfill
 have hr:(execOp a.eval o).run P w=.ok (.value (.slice (some ⟨w.heap.size,0,none⟩) len len)) (w.alloc (.cells cs e)):=by
  simp only [execOp,ho]
  exact V1 h2
 unfold Oper.wp
 rw [hr]
 subst hlen
 have hk:=RC hall
 have hcs:cs.size=es.length*size:=by have:=h1.length;rw [Ua es hk] at this;simpa using this
 obtain ⟨G',j1,j2,j3⟩:=hh.alloc_row cs e hk (YR _) hcs (by rw [<-hcs];simpa [WA] using h1)
 exact ⟨_,_,G',hK _ (Hk hh),(hF.mono (j2.agree hh)).put (U7 hd) j3,j1,j2⟩
end
structure DV (w:World) (G:Y6) (h1 h2:List Res) (k:Nat) (v:Value) (es:List AV) (v':Value) (w':World) (G':Y6):Prop where
 ok:Yq w' G' (h1++.tail v' k::h2)
 ext:YP w G (h1++.tail v k::h2) w' G' (h1++.tail v' k::h2)
 rv:RV w' G' (.sl es (some v')) v'
 own:v'.ownBlock=v.ownBlock∨∃b,v'.ownBlock=some b/\w.heap.size<=b
theorem RL {w:World} {G:Y6} {h1 h2:List Res} {k:Nat} {v:Value} (hh:Yq w G (h1++.tail v k::h2)) (cs:Array Value) (t:TypeId) {es:List AV} {cap:Nat}
  (hk:∀x∈es,x.leaves.length=k) (hcap:es.length<=cap) (Xk:cs.size=cap*k) (hls:YI w G (Ze es) (cs.toList.take (es.length*k))) :
  ∃G',DV w G h1 h2 k v es (.slice (some ⟨w.heap.size,0,none⟩) es.length cap) (w.drew.alloc (.cells cs t)) G':=by
 obtain ⟨G',j1,j2,j3⟩:=hh.drew.alloc_row cs t hk hcap Xk (hls.mono (Ae w G))
 have hsub:(h1++.tail (.slice (some ⟨w.heap.size,0,none⟩) es.length cap) k::h2).Perm (.tail (.slice (some ⟨w.heap.size,0,none⟩) es.length cap) k::(h1++h2)):=List.perm_middle
 have hs2:(Res.tail (.slice (some ⟨w.heap.size,0,none⟩) es.length cap) k::(h1++h2)).Sublist (.tail (.slice (some ⟨w.heap.size,0,none⟩) es.length cap) k::(h1++.tail v k::h2)):=
  List.Sublist.cons_cons _ (List.Sublist.append (List.Sublist.refl _) (Jm _ _))
 refine ⟨G',(j1.sub hs2).perm hsub.symm,?_,j3,.inr ⟨_,rfl,YR _⟩⟩
 exact (YP.drew w G _).trans ((j2.sub' hs2).perm (TJ _) hsub.symm)
theorem Cl {P:Program} {t ty e:TypeId} {i:TypeInfo} (ht:P.underlying t=some (.slice e)) (hi:P.info? e=some i) {ad:Option Addr} {len cap:Nat} {a:Option Addr} {c:Nat}
  (hle:len<=cap) (w:World):(Builtin.append_ #[t,t] ty #[.slice ad len cap,.slice a 0 c]).run P w=.ok (.slice ad len cap) w:=by
 cases ad with
 | none=>cases a<;>simp [Builtin.append_,Vp ht,TW hi,Builtin.lenOf,hle,Builtin.firstCells,loadCells,loadCellsFrom]
 | some ad=>cases a<;>simp [Builtin.append_,Vp ht,TW hi,Builtin.lenOf,hle,Builtin.firstCells,loadCells,loadCellsFrom,storeCells]
theorem RM {w:World} {G:Y6} {h1 h2:List Res} {k g cap:Nat} {es xs:List AV} {cur:Array Value} {e:TypeId} {news:List Value}
  (hh:Yq w G (h1++.tail (.slice (some ⟨g,0,none⟩) es.length cap) k::h2)) (hrow:w.heap[g]? = some (.cells cur e (0,0))) (hcur:cur.size=cap*k)
  (hm:W9 w G g 0 (Ze es)) (hes:∀y∈es,y.leaves.length=k) (hxs:∀y∈xs,y.leaves.length=k) (hn:YI w G (Ze xs) news)
  (hroom:es.length+xs.length<=cap) :
  ∃G',DV w G h1 h2 k (.slice (some ⟨g,0,none⟩) es.length cap) (es++xs) (.slice (some ⟨g,0,none⟩) (es.length+xs.length) cap)
   (w.setRow g (cur.toList.take (es.length*k)++news++cur.toList.drop (es.length*k+news.length)).toArray) G':=by
 have hnl:news.length=xs.length*k:=by rw [hn.length,Ua xs hxs]
 have hfit:es.length*k+news.length<=cur.size:=by rw [hnl,hcur,<-TL];exact Q2 _ hroom
 generalize hcs':(cur.toList.take (es.length*k)++news++cur.toList.drop (es.length*k+news.length)).toArray=cs'
 have hlist:cs'.toList=cur.toList.take (es.length*k)++news++cur.toList.drop (es.length*k+news.length):=by rw [<-hcs']
 have Xk:cs'.size=cur.size:=by
  have:=Yc List.length hlist
  simp only [QM,Ym,Wm,Jk] at this
  omega
 have hlow:∀j,j<es.length*k->cs'[j]? = cur[j]?:=by
  intro j hj
  have h1:(cur.toList.take (es.length*k)).length=es.length*k:=by simp;omega
  rw [<-G0,hlist,Ut,DQ om,Qt,Zk hj,G0]
 have hmid:∀j u,news[j]? = some u->cs'[es.length*k+j]? = some u:=by
  intro j u hj
  have h1:(cur.toList.take (es.length*k)).length=es.length*k:=by simp;omega
  have hjl:j<news.length:=(XA.1 hj).1
  rw [<-G0,hlist,Ut,DR om,h1,Nat.add_sub_cancel_left,DQ hjl,hj]
 have hmem:Res.tail (.slice (some ⟨g,0,none⟩) es.length cap) k∈h1++.tail (.slice (some ⟨g,0,none⟩) es.length cap) k::h2:=by simp
 let G':Y6:=fun b o=>G b o∨(b=g/\es.length*k<=o/\o<(es.length+xs.length)*k)
 have hA:Vr G w (w.setRow g cs') G':=⟨fun b j hg=>by
  by_cases hbg:b=g
  ·subst hbg
   have hj:j<es.length*k:=by
    rcases DU j (es.length*k) with h|h
    ·exact h
    ·exact (hh.prot _ hmem b j ⟨rfl,h⟩ hg).elim
   rw [cell_of_row _ b j cs' e (0,0) (setRow_heap w b cur cs' e (0,0) hrow),cell_of_row w b j cur e (0,0) hrow,hlow j hj]
  ·simp [World.cell?,Vj w g b cs' hbg],fun _ _ h=>.inl h⟩
 have hpw:=KL.1 hh.apart
 have hpw2:=Wv.1 hpw.2.1
 have hbig:∀j,es.length*k<=j->Res.fp (.tail (.slice (some ⟨g,0,none⟩) es.length cap) k) g j:=fun j hj=>⟨rfl,hj⟩
 have hother:∀r,(r∈h1∨r∈h2)->∀c j,r.fp c j->c=g->j<es.length*k:=by
  intro r hr c j hf hc
  subst hc
  rcases DU j (es.length*k) with h|h
  ·exact h
  ·rcases hr with hr|hr
   ·exact (hpw.2.2 r hr _ (X1 ..) c j hf (hbig j h)).elim
   ·exact (hpw2.1 r hr c j (hbig j h) hf).elim
 have hkeep:∀r,(r∈h1∨r∈h2)->Ty w G r->Ty (w.setRow g cs') G' r:=by
  intro r hr h0
  cases r with
  | obj c ks=>
   obtain ⟨ds,el,k1,k2⟩:=h0
   have hne:c≠g:=fun hc=>by have:=hother _ hr c (es.length*k) rfl hc;omega
   exact ⟨ds,el,(Vj w g c cs' hne).trans k1,k2.mono hA⟩
  | tail v kk=>
   rcases h0 with rfl|⟨g2,len,cap2,cur2,el,rfl,k1,k2,k3⟩
   ·exact .inl rfl
   ·have hne:g2≠g:=fun hc=>by have:=hother _ hr g2 (len*kk+es.length*k) ⟨rfl,by omega⟩ hc;omega
    exact .inr ⟨g2,len,cap2,cur2,el,rfl,(Vj w g g2 cs' hne).trans k1,k2,k3⟩
  | ge s=>exact WR h0 (by simp [World.setRow])
  | vec v ks=>
   rcases h0 with ⟨rfl,h0⟩|⟨g2,cap2,cur2,el,rfl,k1,k2,k3,k4⟩
   ·exact .inl ⟨rfl,h0⟩
   ·have hne:g2≠g:=fun hc=>by have:=hother _ hr g2 (es.length*k) rfl hc;omega
    exact .inr ⟨g2,cap2,cur2,el,rfl,(Vj w g g2 cs' hne).trans k1,k2,k3,k4.mono hA⟩
  | many ts=>
   refine ⟨fun p hp=>?_,h0.2⟩
   rcases h0.1 p hp with q|⟨g2,len,cap2,cur2,el,q,k1,k2,k3⟩
   ·exact .inl q
   ·have hne:g2≠g:=fun hc=>by have:=hother _ hr g2 (len*p.2+es.length*k) ⟨p,hp,by rw [q];exact ⟨rfl,by omega⟩⟩ hc;omega
    exact .inr ⟨g2,len,cap2,cur2,el,q,(Vj w g g2 cs' hne).trans k1,k2,k3⟩
  | own B m=>
   intro c hc
   obtain ⟨ds,el,k1,k2⟩:=h0 c hc
   have hne:c≠g:=fun hq=>by have:=hother _ hr c (es.length*k) hc hq;omega
   exact ⟨ds,el,(Vj w g c cs' hne).trans k1,k2⟩
  | row v kk ks=>
   rcases h0 with ⟨rfl,h0⟩|⟨g2,len2,cap2,cur2,el,rfl,k1,k2,k3,k4,k5⟩
   ·exact .inl ⟨rfl,h0⟩
   ·have hne:g2≠g:=fun hc=>by have:=hother _ hr g2 (es.length*k) rfl hc;omega
    exact .inr ⟨g2,len2,cap2,cur2,el,rfl,(Vj w g g2 cs' hne).trans k1,k2,k3,k4,k5.mono hA⟩
 have hle:es.length*k<=(es.length+xs.length)*k:=Q2 _ om
 have hfpe:∀r,r∈h1++.tail (.slice (some ⟨g,0,none⟩) (es.length+xs.length) cap) k::h2->∀b o,r.fp b o ->
   WC (h1++.tail (.slice (some ⟨g,0,none⟩) es.length cap) k::h2) b o:=by
  intro r hr b o hf
  rcases X4.1 hr with hr|hr
  ·exact ⟨r,by simp [hr],hf⟩
  ·rcases YB.1 hr with rfl|hr
   ·obtain ⟨rfl,hf2⟩:=hf
    exact ⟨_,hmem,rfl,WR hle hf2⟩
   ·exact ⟨r,by simp [hr],hf⟩
 refine ⟨G',⟨?_,?_,?_,?_⟩,⟨rfl,rfl,rfl,by simp [World.setRow],fun _ _ h=>.inl h,?_,?_,fun b o _ ⟨r,hr,hf⟩=>hfpe r hr b o hf⟩,?_,.inl rfl⟩
 ·intro r hr
  rcases X4.1 hr with hr|hr
  ·exact hkeep r (.inl hr) (hh.ok r (by simp [hr]))
  ·rcases YB.1 hr with rfl|hr
   ·exact .inr ⟨g,_,cap,cs',e,rfl,setRow_heap w g cur cs' e (0,0) hrow,hroom,Xk.trans hcur⟩
   ·exact hkeep r (.inr hr) (hh.ok r (by simp [hr]))
 ·have htt:∀r,Jr r (.tail (.slice (some ⟨g,0,none⟩) es.length cap) k)->Jr r (.tail (.slice (some ⟨g,0,none⟩) (es.length+xs.length) cap) k):=
   fun r hd b o hf ⟨e1,e2⟩=>hd b o hf ⟨e1,WR hle e2⟩
  refine KL.2 ⟨hpw.1,Wv.2 ⟨fun r hr=>(htt r (hpw2.1 r hr).symm).symm,hpw2.2⟩,fun r hr r' hr'=>?_⟩
  rcases YB.1 hr' with rfl|hr'
  ·exact htt r (hpw.2.2 r hr _ (X1 ..))
  ·exact hpw.2.2 r hr r' (by simp [hr'])
 ·intro r hr b o hf hg
  obtain ⟨r0,hr0,hf0⟩:=hfpe r hr b o hf
  rcases hg with hg|⟨rfl,hg1,hg2⟩
  ·exact hh.prot r0 hr0 b o hf0 hg
  ·rcases X4.1 hr with hr|hr
   ·have:=hother r (.inl hr) b o hf rfl;omega
   ·rcases YB.1 hr with rfl|hr
    ·have:=hf.2;omega
    ·have:=hother r (.inr hr) b o hf rfl;omega
 ·intro b o hg
  have hs:(w.setRow g cs').heap.size=w.heap.size:=by simp [World.setRow]
  rw [hs]
  rcases hg with hg|⟨rfl,_,_⟩
  ·exact hh.lt b o hg
  ·exact (Uh.1 hrow).1
 ·intro b hb
  by_cases hbg:b=g
  ·subst hbg
   refine .inr ⟨cur,cs',e,(0,0),hrow,setRow_heap w b cur cs' e (0,0) hrow,Xk,fun o ho=>hlow o ?_⟩
   rcases DU o (es.length*k) with h|h
   ·exact h
   ·exact absurd ⟨_,hmem,rfl,h⟩ ho
  ·exact .inl (Vj w g b cs' hbg)
 ·intro b o hb hg
  rcases hg with hg|⟨rfl,hg1,hg2⟩
  ·exact .inl hg
  ·exact .inr ⟨_,hmem,rfl,hg1⟩
 ·rw [<-Ym]
  refine .sl (k:=k) (fun x hx=>by cases hx;rfl) (by simpa using hroom) (WF.of_flat _ (fun y hy=>?_) ?_)
  ·rcases X4.1 hy with hy|hy
   ·exact hes y hy
   ·exact hxs y hy
  ·have e1:Ze (es++xs)=Ze es++Ze xs:=by simp [Ze]
   rw [e1]
   refine (hm.mono hA).append ?_
   rw [Ua es hes,WS]
   refine W9.of_cells (hn.mono hA) fun j u hj=>⟨?_,.inr ⟨rfl,by omega,?_⟩⟩
   ·rw [cell_of_row _ g _ cs' e (0,0) (setRow_heap w g cur cs' e (0,0) hrow),hmid j u hj]
   ·have hjl:j<news.length:=(XA.1 hj).1
    rw [TL]
    omega
theorem Fu {P:Program} (w:World) (t ty e el:TypeId) (i:TypeInfo) (ht:P.underlying t=some (.slice e)) (hi:P.info? e=some i)
  (g sLen sCap:Nat) (cur:Array Value) (hg:w.heap[g]? = some (.cells cur el (0,0)))
  (a:Addr) (m c:Nat) (news:List Value) (hl:news.length=m*i.size) (hnews:∀j u,news[j]? = some u->w.cell? (a.add j)=some u) (h1:∀u∈news,u.oneCell'=true)
  (hroom:sLen+m<=sCap) (hfit:sLen*i.size+news.length<=cur.size) :
  (Builtin.append_ #[t,t] ty #[.slice (some ⟨g,0,none⟩) sLen sCap,.slice (some a) m c]).run P w =
   .ok (.slice (some ⟨g,0,none⟩) (sLen+m) sCap) (w.setRow g (cur.toList.take (sLen*i.size)++news++cur.toList.drop (sLen*i.size+news.length)).toArray):=by
 have hf:=run_firstCells_some (P:=P) w i.size m a m c news hl hnews
 have hst:=run_storeCells_at P g (sLen*i.size) el news 0 cur w hg (by simpa using hfit) h1
 simp only [BC] at hst
 simp [Builtin.append_,run_underlying ht,sizeOf,typeInfo,hi,Builtin.lenOf,hroom,hf,Addr.add_lit,hst]
theorem RK {P:Program} {w:World} {G:Y6} {h1 h2:List Res} {t ty e k:Nat} {i:TypeInfo} {v x:Value} {es xs:List AV}
  (ht:P.underlying t=some (.slice e)) (hi:P.info? e=some i) (hk:i.size=k) (hzs:(i.zero.map (·.cells.size))=some k) (hb:Nat.ble i.bytes 32768=true)
  (hh:Yq w G (h1++.tail v k::h2)) (hv:RV w G (.sl es (some v)) v) (hx:RV w G (.sl xs none) x)
  (hes:∀y∈es,y.leaves.length=k) (hxs:∀y∈xs,y.leaves.length=k) (hone:(Ze xs).all AV.one=true) (hbound:es.length+xs.length<=4294967296) :
  ∃v' w' G',(Builtin.append_ #[t,t] ty #[v,x]).run P w=.ok v' w'/\DV w G h1 h2 k v (es++xs) v' w' G':=by
 have htail:Gc w v k:=hh.ok (.tail v k) (by simp)
 have hb:=WE hb
 cases hz:i.zero with
 | none=>simp [hz] at hzs
 | some z=>
  have hzs:z.cells.size=k:=by simpa [hz] using hzs
  have hlen:v=.slice none 0 0->es=[]:=by
   intro he
   subst he
   cases hv with
   | nil=>rfl
  have grown:∀(olds news:List Value) (old:Nat),YI w G (Ze es) olds->YI w G (Ze xs) news ->
    ∃G',DV w G h1 h2 k v (es++xs) (.slice (some ⟨w.heap.size,0,none⟩) (es.length+xs.length) (grownCap w (es.length+xs.length) old e))
     (w.drew.alloc (.cells (olds.toArray++news.toArray++Builtin.zeroCells z.cells (grownCap w (es.length+xs.length) old e-(es.length+xs.length))) e)) G':=by
   intro olds news old ho hn
   have YY:=grownCap_ge w (es.length+xs.length) old e
   have hall:∀y∈es++xs,y.leaves.length=k:=fun y hy=>by
    rcases X4.1 hy with hy|hy
    ·exact hes y hy
    ·exact hxs y hy
   have e1:Ze (es++xs)=Ze es++Ze xs:=by simp [Ze]
   have hol:olds.length=es.length*k:=by rw [ho.length,Ua es hes]
   have hnl:news.length=xs.length*k:=by rw [hn.length,Ua xs hxs]
   have:=RL hh (olds.toArray++news.toArray++Builtin.zeroCells z.cells (grownCap w (es.length+xs.length) old e-(es.length+xs.length))) e
    (es:=es++xs) (cap:=grownCap w (es.length+xs.length) old e) hall (by simpa using YY)
    (by
     simp only [Array.size_append,Cv,size_zeroCells,hzs,hol,hnl,<-TL]
     congr 1
     omega)
    (by
     rw [e1]
     have:(olds.toArray++news.toArray++Builtin.zeroCells z.cells (grownCap w (es.length+xs.length) old e-(es.length+xs.length))).toList.take ((es++xs).length*k)=olds++news:=by
      simp only [Cs,Ut,Ym]
      rw [<-Ut,TL,<-hol,<-hnl,<-Ym]
      exact Jn
     rw [this]
     exact ho.append hn)
   simpa using this
  by_cases hxe:xs=[]
  ·subst hxe
   cases hx with
   | nil _=>
    refine ⟨v,w,G,?_,by simpa using hh,YP.refl _ _ _,by simpa using hv,.inl rfl⟩
    rcases htail with rfl|⟨g,len,cap,cur,el,rfl,_,hle,_⟩
    ·exact Cl ht hi (YR _) w
    ·exact Cl ht hi hle w
   | sl _ _ _=>
    refine ⟨v,w,G,?_,by simpa using hh,YP.refl _ _ _,by simpa using hv,.inl rfl⟩
    rcases htail with rfl|⟨g,len,cap,cur,el,rfl,_,hle,_⟩
    ·exact Cl ht hi (YR _) w
    ·exact Cl ht hi hle w
  ·cases hx with
   | nil _=>exact absurd rfl hxe
   | sl hq hcc hm=>
    rename_i b o' k' c
    have hpos:0<xs.length:=DS.2 hxe
    obtain ⟨news,hn,hnc⟩:=hm.flat_mem.cells
    have hnl:news.length=xs.length*i.size:=by rw [hn.length,hk,Ua xs hxs]
    have hone':=hn.one_cells hone
    have hnews:∀j u,news[j]? = some u->w.cell? ((⟨b,o',none⟩:Addr).add j)=some u:=fun j u hj=>by rw [QT];exact (hnc j u hj).1
    have hby:(es.length+xs.length)*i.bytes<=140737488355328:=by
     have:=Nat.mul_le_mul hbound hb
     omega
    rcases htail with rfl|⟨g,len,cap,cur,el,rfl,hrow,hlc,hcur⟩
    ·have he:=hlen rfl
     subst he
     have hr:=run_append_nil (P:=P) w t ty e i z ht hi hz ⟨b,o',none⟩ xs.length c news hnl hnews hpos (by simp at hbound;omega) (by simp at hby;omega)
     obtain ⟨G',hG'⟩:=grown [] news 0 .nil hn
     simp only [Xg,WS,Array.empty_append] at hG'
     exact ⟨_,_,G',hr,by simpa using hG'⟩
    ·have hle:len=es.length:=by cases hv<;>rfl
     subst hle
     have hmem:W9 w G g 0 (Ze es):=by
      cases hv with
      | nil=>exact .nil
      | sl _ _ hm=>exact hm.flat_mem
     obtain ⟨olds,ho,hoc⟩:=hmem.cells
     by_cases hroom:es.length+xs.length<=cap
     ·have hfit:es.length*i.size+news.length<=cur.size:=by rw [hnl,hcur,hk,<-TL];exact Q2 _ hroom
      have hr:=Fu (P:=P) w t ty e el i ht hi g es.length cap cur hrow ⟨b,o',none⟩ xs.length c news hnl hnews hone' hroom hfit
      obtain ⟨G',hG'⟩:=RM (h1:=h1) (h2:=h2) hh hrow hcur hmem hes hxs hn hroom
      rw [hk] at hr
      exact ⟨_,_,G',hr,hG'⟩
     ·have hol:olds.length=es.length*i.size:=by rw [ho.length,hk,Ua es hes]
      have hr:=run_append_grow (P:=P) w t ty e i z ht hi hz ⟨g,0,none⟩ es.length cap olds hol (fun j u hj=>by rw [QT];simpa using (hoc j u hj).1) ⟨b,o',none⟩ xs.length c news hnl hnews
       om om (growslice_fits om hby)
      obtain ⟨G',hG'⟩:=grown olds news cap ho hn
      exact ⟨_,_,G',hr,hG'⟩
section
variable {P:Program} {n:Nat} {o:Oper} {F:Fr} {h h1 h2:List Res} {K:Fr->List Res->Prop}
theorem RV.forget {w:World} {G:Y6} {es:List AV} {hv:Option Value} {v:Value} (h:RV w G (.sl es hv) v):RV w G (.sl es none) v:=by
 cases h with
 | nil _=>exact .nil (by simp)
 | sl _ hc hm=>exact .sl (by simp) hc hm
theorem RV.header {w:World} {G:Y6} {es:List AV} {x v:Value} (h:RV w G (.sl es (some x)) v):v=x:=by
 cases h with
 | nil hq=>exact (hq x rfl).symm
 | sl hq _ _=>exact (hq x rfl).symm
theorem Z7o (s x:Operand) (t:TypeId) {e k:Nat} {i:TypeInfo} {hv:Value} {hx:Option Value} {es xs:List AV}
  (ho:o.op=.call { callee:=.builtin .append,args:=#[s,x],argTypes:=#[t,t] })
  (ht:P.underlying t=some (.slice e)) (hi:P.info? e=some i) (hk:i.size=k) (hzs:(i.zero.map (·.cells.size))=some k) (hb:Nat.ble i.bytes 32768=true)
  (hs:F.ev s=.sl es (some hv)) (hx:F.ev x=.sl xs hx) (hd:WV n o=true)
  (hes:∀y∈es,y.leaves.length=k) (hxs:∀y∈xs,y.leaves.length=k) (hone:(Ze xs).all AV.one=true) (hbound:es.length+xs.length<=4294967296)
  (hK:∀v',(v'.ownBlock=hv.ownBlock∨∃b,v'.ownBlock=some b/\A9 (h1++.tail hv k::h2) b) ->
   K (F.put o.dst (.sl (es++xs) (some v'))) (h1++.tail v' k::h2)):W8 P n o F (h1++.tail hv k::h2) K:=by
 intro Q w G a hF hh
 have v1:=hF.ev s
 have v2:=hF.ev x
 rw [hs] at v1
 rw [hx] at v2
 have e1:=v1.header
 rw [e1] at v1
 obtain ⟨v',w',G',hr,hA⟩:=RK (P:=P) (ty:=o.type) ht hi hk hzs hb hh v1 v2.forget hes hxs hone hbound
 have hrun:(execOp a.eval o).run P w=.ok (.value v') w':=by
  simp only [execOp,ho,resolve,invoke,builtin,Sem.run_bind,Sem.run_pure,Result.andThen_ok,BA,VX,AW,e1,hr]
 unfold Oper.wp
 rw [hrun]
 refine ⟨_,_,G',hK v' ?_,(hF.mono (hA.ext.agree hh)).put (U7 hd) hA.rv,hA.ok,hA.ext⟩
 rcases hA.own with h|⟨b,h,hle⟩
 ·exact .inl h
 ·exact .inr ⟨b,h,fun s hs=>WR (hh.ok _ hs) hle⟩
theorem OX {t e k:Nat} {i:TypeInfo} {b off len cap:Nat} {ik:IntKind} {j:Int} (ht:P.underlying t=some (.slice e)) (hi:P.info? e=some i) (hk:i.size=k)
  (h0:0<=j) (hlt:j<len) (w:World) :
  (Instr.indexAt t (.slice (some ⟨b,off,none⟩) len cap) (.int ik j)).run P w=.ok (.pointer (some ⟨b,off+j.toNat * k,none⟩)) w:=by
 subst hk
 have hu:=Vp ht w
 simp only [Instr.indexAt,asIntOf,Sem.run_bind,Sem.run_pure,Result.andThen_ok,hu]
 simp [h0,hlt,TW hi,QT]
theorem Zbv (t:TypeId) (x ix:Operand) {e k:Nat} {i:TypeInfo} {es:List AV} {hv:Option Value} {ik:IntKind} {j:Int} {y:AV}
  (ho:o.op=.indexAddr t x ix) (ht:P.underlying t=some (.slice e)) (hi:P.info? e=some i) (hk:i.size=k) (hx:F.ev x=.sl es hv) (hix:F.ev ix=.val (.int ik j))
  (h0:0<=j) (hget:es[j.toNat]? = some y) (hy:y.leaves.length=k):Xr P o F h [] (.rp y.leaves):=by
 intro n w G a hF hh
 have v1:=hF.ev x
 have v2:=hF.ev ix
 rw [hx] at v1
 rw [hix] at v2
 have v2:=v2.val_inv
 generalize hv1:a.eval x=u at v1
 cases v1 with
 | nil _=>simp at hget
 | sl hq hc hm=>
  rename_i b off kk cap
  have hlt:j.toNat<es.length:=(XA.1 hget).1
  have hkk:kk=k:=by
   have:=hm.len y (Y0 hget)
   omega
  subst hkk
  refine ⟨_,.rp (hm.get _ _ hget),fun w' _ _=>?_⟩
  simp only [execOp,ho,hv1,v2]
  exact V1 (OX ht hi hk h0 om w')
theorem Zbw (t:TypeId) (x ix:Operand) {e k:Nat} {i:TypeInfo} {b off len cap:Nat} {ik:IntKind} {j:Int}
  (ho:o.op=.indexAddr t x ix) (ht:P.underlying t=some (.slice e)) (hi:P.info? e=some i) (hk:i.size=k) (hx:F.ev x=.val (.slice (some ⟨b,off,none⟩) len cap)) (hix:F.ev ix=.val (.int ik j))
  (h0:0<=j) (hlt:j<len):Xr P o F h [] (.val (.pointer (some ⟨b,off+j.toNat * k,none⟩))):=by
 intro n w G a hF hh
 have v1:=hF.ev x
 have v2:=hF.ev ix
 rw [hx] at v1
 rw [hix] at v2
 have v1:=v1.val_inv
 have v2:=v2.val_inv
 refine ⟨_,.val,fun w' _ _=>?_⟩
 simp only [execOp,ho,v1,v2]
 exact V1 (OX ht hi hk h0 hlt w')
def AC (F:Fr) (o:Option Operand) (d:Int):Option Int:=
 match o with
 | none=>some d
 | some x=>match F.ev x with
  | .val (.int _ j)=>some j
  | _=>none
theorem Cm {v:Value} {ik:IntKind} {j:Int} {y:Nat} {c:BoundsCode} (hv:v=.int ik j) (h0:0<=j) (h1:j<=y) (w:World):(Instr.sliceBound v y c).run P w=.ok j.toNat w:=by
 subst hv
 simp [Instr.sliceBound,asIntOf,h0,h1]
theorem Zc1 (t:TypeId) (x:Operand) (lo hi:Option Operand) {e k:Nat} {i:TypeInfo} {es:List AV} {hv:Option Value} {l m:Int}
  (ho:o.op=.slice t x lo hi none) (ht:P.underlying t=some (.slice e)) (hi':P.info? e=some i) (hk:i.size=k) (hx:F.ev x=.sl es hv)
  (hlo:AC F lo 0=some l) (hhi:AC F hi es.length=some m) (h0:0<=l) (h1:l<=m) (h2:m<=es.length) (hes:∀y∈es,y.leaves.length=k) :
  Xr P o F h [] (.sl ((es.take m.toNat).drop l.toNat) none):=by
 intro n w G a hF hh
 have v1:=hF.ev x
 rw [hx] at v1
 generalize hv1:a.eval x=u at v1
 have hlo':lo.map a.eval=none/\l=0∨∃ik,lo.map a.eval=some (.int ik l):=by
  cases lo with
  | none=>simp [AC] at hlo;exact .inl ⟨rfl,hlo.symm⟩
  | some y=>
   simp only [AC] at hlo
   split at hlo
   ·rename_i k j hj
    cases hlo
    have:=hF.ev y
    rw [hj] at this
    exact .inr ⟨k,by simp [this.val_inv]⟩
   ·cases hlo
 have hhi':hi.map a.eval=none/\m=es.length∨∃ik,hi.map a.eval=some (.int ik m):=by
  cases hi with
  | none=>simp [AC] at hhi;exact .inl ⟨rfl,hhi.symm⟩
  | some y=>
   simp only [AC] at hhi
   split at hhi
   ·rename_i k j hj
    cases hhi
    have:=hF.ev y
    rw [hj] at this
    exact .inr ⟨k,by simp [this.val_inv]⟩
   ·cases hhi
 have hrun:∀(ad:Option Addr) (cap:Nat),m<=cap->∀w':World,(Instr.sliceAt t (.slice ad es.length cap) (lo.map a.eval) (hi.map a.eval) none).run P w' =
   .ok (.slice (if cap=l.toNat then ad else ad.map (·.add (l.toNat * k))) (m.toNat-l.toNat) (cap-l.toNat)) w':=by
  intro ad cap hcap w'
  subst hk
  have hmm:(Instr.sliceBounds true es.length cap (lo.map a.eval) (hi.map a.eval) none).run P w'=.ok (l.toNat,m.toNat,cap) w':=by
   rcases hhi' with ⟨e1,rfl⟩|⟨ik,e1⟩
   ·rcases hlo' with ⟨e2,rfl⟩|⟨ik2,e2⟩
    ·simp [Instr.sliceBounds,e1,e2]
    ·simp [Instr.sliceBounds,e1,e2,Cm (P:=P) (v:=.int ik2 l) rfl h0 (by omega:l<=(es.length:Int))]
   ·have Zf:=fun c=>Cm (P:=P) (c:=c) (v:=.int ik m) (y:=cap) rfl om hcap w'
    rcases hlo' with ⟨e2,rfl⟩|⟨ik2,e2⟩
    ·simp [Instr.sliceBounds,e1,e2,Zf]
    ·have ZH:=fun c=>Cm (P:=P) (c:=c) (v:=.int ik2 l) (y:=m.toNat) rfl h0 om w'
     simp [Instr.sliceBounds,e1,e2,Zf,ZH]
  simp only [Instr.sliceAt,Sem.run_bind,Vp ht,Result.andThen_ok,Instr.slice,hmm]
  simp [TW hi']
 cases v1 with
 | nil hq=>
  rename_i ad cap
  simp only [Xg,Int.natCast_zero] at h2
  have hl:l=0:=by omega
  have hm:m=0:=by omega
  subst hl
  subst hm
  have hr:=hrun ad cap om
  refine ⟨_,?_,fun w' _ _=>by simp only [execOp,ho,hv1,Option.map_none];exact V1 (hr w')⟩
  exact .nil (by simp)
 | sl hq hc hm=>
  rename_i b off kk cap
  by_cases hemp:m.toNat<=l.toNat
  ·refine ⟨_,?_,fun w' _ _=>by simp only [execOp,ho,hv1,Option.map_none];exact V1 (hrun _ cap om w')⟩
   have e1:(es.take m.toNat).drop l.toNat=[]:=G3 (by simp;omega)
   have e2:m.toNat-l.toNat=0:=by omega
   rw [e1,e2]
   exact .nil (by simp)
  ·have hne:0<es.length:=by omega
   have hkk:kk=k:=by
    have hy:=hm.len es[0] (List.getElem_mem hne)
    have:=hes es[0] (List.getElem_mem hne)
    omega
   subst hkk
   refine ⟨_,?_,fun w' _ _=>by simp only [execOp,ho,hv1,Option.map_none];exact V1 (hrun _ cap om w')⟩
   rw [Z9 om]
   have hlen:((es.take m.toNat).drop l.toNat).length=m.toNat-l.toNat:=by simp;omega
   rw [<-hlen]
   simp only [AX,QT]
   exact .sl (k:=kk) (by simp) om ((hm.take m.toNat).drop l.toNat)
theorem Z7q (f:FuncId) (args:Array Operand) (tys:Array TypeId) {fn:Func} {h1 h2:List Res} {xs:List AV} {R:AV->List Res->Prop}
  (ho:o.op=.call { callee:=.value (.func f),args:=args,argTypes:=tys }) (hf:P.funcs[f]? = some fn) (hb:fn.body.isSome=true) (hn:(fn.name== "runtime.NumGoroutine")=false)
  (hargs:args.toList.map F.ev=xs) (hd:WV n o=true) (hp:h.Perm (h1++h2)) (hc:W2 P f xs h1 R)
  (hK:∀r h',R r h'->K (F.put o.dst r) (h'++h2)):W8 P n o F h K:=by
 intro Q w G a hF hh
 have hh':=hh.perm hp
 have hvs:YI w G xs (args.toList.map a.eval):=by rw [<-hargs];exact YI.map F.ev a.eval args.toList fun x _=>hF.ev x
 have hcl:=hc w G _ hvs hh'.left
 have hbn:¬fn.body=none:=by intro hq;simp [hq] at hb
 have hn':¬fn.name= "runtime.NumGoroutine":=by simpa using hn
 have hrun:(execOp a.eval o).run P w=.ok (.enter f (args.map a.eval)) w:=by
  simp only [execOp,ho,resolve,Act.eval,Deferred.ofValue,Sem.run_bind,Sem.run_pure,Result.andThen_ok,invoke,callFunc]
  simp [program,Sem.run,hf,hn',hbn]
 unfold Oper.wp
 rw [hrun]
 show Calls P f (args.map a.eval) w _
 have hav:args.map a.eval=(args.toList.map a.eval).toArray:=by rw [<-Array.toList_map,VN]
 rw [hav]
 refine hcl.mono fun e w' ⟨v,r,h',G',he,hR,hv,hh2,hx⟩=>?_
 subst he
 obtain ⟨j1,j2⟩:=hh'.frame hx hh2
 have j3:=j2.perm hp.symm (TJ _)
 exact ⟨_,_,G',hK r h' hR,(hF.mono (j3.agree hh)).put (U7 hd) hv,j1,j3⟩
theorem Z7r (t:Operand) (args:Array Operand) (tys:Array TypeId) {f:FuncId} {caps:Array Value} {fn:Func} {h1 h2:List Res} {xs:List AV} {R:AV->List Res->Prop}
  (ho:o.op=.call { callee:=.value t,args:=args,argTypes:=tys }) (ht:F.ev t=.val (.func (.func f) #[] caps)) (hf:P.funcs[f]? = some fn) (hb:fn.body.isSome=true)
  (hn:(fn.name== "runtime.NumGoroutine")=false)
  (hargs:args.toList.map F.ev++caps.toList.map AV.val=xs) (hd:WV n o=true) (hp:h.Perm (h1++h2)) (hc:W2 P f xs h1 R)
  (hK:∀r h',R r h'->K (F.put o.dst r) (h'++h2)):W8 P n o F h K:=by
 intro Q w G a hF hh
 have hh':=hh.perm hp
 have htv:=hF.ev t
 rw [ht] at htv
 have htv:=htv.val_inv
 have hcv:∀(l:List Value),YI w G (l.map AV.val) l:=fun l=>by
  induction l with
  | nil=>exact .nil
  | cons v l ih=>exact .cons .val ih
 have hvs:YI w G xs (args.toList.map a.eval++caps.toList):=by
  rw [<-hargs];exact (YI.map F.ev a.eval args.toList fun x _=>hF.ev x).append (hcv _)
 have hcl:=hc w G _ hvs hh'.left
 have hbn:¬fn.body=none:=by intro hq;simp [hq] at hb
 have hn':¬fn.name= "runtime.NumGoroutine":=by simpa using hn
 have hrun:(execOp a.eval o).run P w=.ok (.enter f (args.map a.eval++caps)) w:=by
  simp only [execOp,ho,resolve,htv,Deferred.ofValue,Sem.run_bind,Sem.run_pure,Result.andThen_ok,invoke,callFunc]
  simp [program,Sem.run,hf,hn',hbn]
 unfold Oper.wp
 rw [hrun]
 show Calls P f (args.map a.eval++caps) w _
 have hav:args.map a.eval++caps=(args.toList.map a.eval++caps.toList).toArray:=by
  apply Array.ext'
  simp
 rw [hav]
 refine hcl.mono fun e w' ⟨v,r,h',G',he,hR,hv,hh2,hx⟩=>?_
 subst he
 obtain ⟨j1,j2⟩:=hh'.frame hx hh2
 have j3:=j2.perm hp.symm (TJ _)
 exact ⟨_,_,G',hK r h' hR,(hF.mono (j3.agree hh)).put (U7 hd) hv,j1,j3⟩
end
def Vt:Code->Code
 | .seq a _=>a
 | .cond _ a _=>a
 | .block _ a=>a
 | .loop a=>a
 | .scope a=>a
 | c=>c
def QW:Code->Code
 | .seq _ b=>b
 | .cond _ _ b=>b
 | c=>c
def XH:Code->Nat
 | .skip=>0
 | .region _ _ false=>1
 | .region _ _ true=>2
 | .seq _ _=>3
 | .cond _ _ _=>4
 | .block _ _=>5
 | .loop _=>6
 | .exit _=>7
 | .ret=>8
 | _=>9
def Qz:Code->Nat
 | .region id _ _=>id
 | .block id _=>id
 | .exit id=>id
 | _=>0
def Tz:Code->Array Oper
 | .region _ ops _=>ops
 | _=>#[]
def B8:Code->Operand
 | .cond x _ _=>x
 | _=>.tmp 0
def E7 (fn:Func):Code:=fn.body.getD .skip
theorem S4 {c:Code} (h:XH c=0):c=.skip:=by unfold XH at h;split at h<;>first|rfl|cases h
theorem S5 {c:Code} (h:XH c=1):c=.region (Qz c) (Tz c) false:=by unfold XH at h;split at h<;>first|rfl|cases h
theorem S6 {c:Code} (h:XH c=2):c=.region (Qz c) (Tz c) true:=by unfold XH at h;split at h<;>first|rfl|cases h
theorem S7 {c:Code} (h:XH c=3):c=.seq (Vt c) (QW c):=by unfold XH at h;split at h<;>first|rfl|cases h
theorem S8 {c:Code} (h:XH c=4):c=.cond (B8 c) (Vt c) (QW c):=by unfold XH at h;split at h<;>first|rfl|cases h
theorem S9 {c:Code} (h:XH c=5):c=.block (Qz c) (Vt c):=by unfold XH at h;split at h<;>first|rfl|cases h
theorem Sa {c:Code} (h:XH c=6):c=.loop (Vt c):=by unfold XH at h;split at h<;>first|rfl|cases h
theorem Sb {c:Code} (h:XH c=7):c=.exit (Qz c):=by unfold XH at h;split at h<;>first|rfl|cases h
theorem Sc {c:Code} (h:XH c=8):c=.ret:=by unfold XH at h;split at h<;>first|rfl|cases h
def Qw (P:Program) (n:Nat) (ops:Array Oper) (B:Fr->List Res->Prop) (l:List Oper) (F:Fr) (h:List Res):Prop:=
 ∀(Q:Exit->Act->World->Prop) w G a,FR w G n F a->Yq w G h ->
  (∀F' h' G' a' w',B F' h'->FR w' G' n F' a'->Yq w' G' h'->YP w G h w' G' h'->Q .normal a' w')->wpList P ops Q l a w
section
variable {P:Program} {n:Nat} {ops:Array Oper} {B:Fr->List Res->Prop} {l:List Oper} {F:Fr} {h:List Res} {A:Ww} {c:Code}
theorem Z9q (hB:B F h):Qw P n ops B [] F h:=fun _ w G a hF hh hk=>hk F h G a w hB hF hh (YP.refl _ _ _)
def QY (ops:Array Oper) (F:Fr) (o:Oper):Option Bool:=
 match o.guard with
 | none=>some true
 | some (j,want)=>match (ops[j]?).bind (·.dst) with
  | none=>none
  | some t=>match F.get t with
   | .val (.bool b)=>some (b==want)
   | .tup []=>some false
   | _=>none
theorem BZ {w:World} {G:Y6} {a:Act} {o:Oper} {b:Bool} (hF:FR w G n F a) (hlt:(match o.guard with|none=>true|some (j,_)=>match (ops[j]?).bind (·.dst) with|some t=>Nat.blt t n|none=>true)=true)
  (hg:QY ops F o=some b):Region.wanted o (yielded ops a.tmps)=b:=by
 unfold QY at hg
 unfold Region.wanted
 cases hq:o.guard with
 | none=>simp [hq] at hg;simp [hg]
 | some jw=>
  obtain ⟨j,want⟩:=jw
  simp only [hq] at hg hlt ⊢
  cases ht:(ops[j]?).bind (·.dst) with
  | none=>simp [ht] at hg
  | some t=>
   simp only [ht] at hg hlt
   have hlt':t<n:=by simpa using hlt
   have hv:=hF.get t
   have hget:a.tmps[t]? = some (a.tmps.getD t undef):=by
    have:t<a.tmps.size:=by rw [hF.size];exact hlt'
    simp [Array.getD,this]
   unfold yielded
   simp only [ht,Option.bind_some,hget]
   split at hg
   ·rename_i b' hb
    rw [hb] at hv
    have hv:=hv.val_inv
    cases hg
    rw [hv]
    cases b'<;>cases want<;>rfl
   ·rename_i hb
    rw [hb] at hv
    cases hg
    generalize a.tmps.getD t undef=u at hv
    cases hv with
    | tup hc=>cases hc;cases want<;>rfl
   ·cases hg
def JJ (n:Nat) (ops:Array Oper) (o:Oper):Bool:=
 match o.guard with|none=>true|some (j,_)=>match (ops[j]?).bind (·.dst) with|some t=>Nat.blt t n|none=>true
def TV (P:Program) (n:Nat) (ops:Array Oper) (h:List Res):Nat->List Oper->Fr->List Nat->Option (List Oper × Fr × List (Nat × Nat))
 | 0,l,F,_=>some (l,F,[])
 | _+1,[],_,_=>none
 | k+1,o::l,F,hints=>
  match WV n o&&JJ n ops o with
  | false=>none
  | true=>match QY ops F o with
   | none=>none
   | some false=>TV P n ops h k l (F.put o.dst (.tup [])) hints
   | some true=>match TB P o F h (hints.headD 0) with
    | none=>none
    | some (x,eqs)=>match TV P n ops h k l (F.put o.dst x) (match eqs with | []=>hints | _=>hints.tail) with
     | none=>none
     | some (l',F',es)=>some (l',F',eqs++es)
theorem Zdd {o:Oper} {Q:Exit->Act->World->Prop} {a:Act} {w:World} (hw:Region.wanted o (yielded ops a.tmps)=false)
  (hk:wpList P ops Q l (a.put o.dst undef) w):wpList P ops Q (o::l) a w:=by
 unfold wpList
 rw [Z9 (by simp [hw])]
 exact hk
theorem I9:∀(k:Nat) {l:List Oper} {F:Fr} {hints:List Nat} {l':List Oper} {F':Fr} {eqs:List (Nat × Nat)},TV P n ops h k l F hints=some (l',F',eqs) ->
  (∀p∈eqs,p.1=p.2)->Qw P n ops B l' F' h->Qw P n ops B l F h
 | 0,l,F,hints,l',F',eqs,he,_,hs=>by
  simp only [TV,XY,Prod.mk.injEq] at he
  obtain ⟨rfl,rfl,rfl⟩:=he
  exact hs
 | k+1,[],F,hints,l',F',eqs,he,_,hs=>by simp [TV] at he
 | k+1,o::l,F,hints,l',F',eqs,he,heq,hs=>by
  simp only [TV] at he
  cases hd:WV n o&&JJ n ops o with
  | false=>rw [hd] at he;cases he
  | true=>
   rw [hd] at he
   simp only [XI] at hd
   simp only at he
   cases hg:QY ops F o with
   | none=>rw [hg] at he;cases he
   | some b=>
    rw [hg] at he
    cases b with
    | false=>
     simp only at he
     have ih:=I9 k he heq hs
     intro Q w G a hF hh hk
     have hw:=BZ hF hd.2 hg
     exact Zdd hw (ih Q w G _ (hF.put (U7 hd.1) (.tup (cs:=[]) .nil)) hh hk)
    | true=>
     simp only at he
     cases hev:TB P o F h (hints.headD 0) with
     | none=>rw [hev] at he;cases he
     | some xe=>
      obtain ⟨x,es⟩:=xe
      rw [hev] at he
      simp only at he
      generalize hhint:(match es with|[]=>hints|_=>hints.tail)=hints' at he
      cases hr:TV P n ops h k l (F.put o.dst x) hints' with
      | none=>rw [hr] at he;cases he
      | some y=>
       obtain ⟨l2,F2,es2⟩:=y
       rw [hr] at he
       simp only [XY,Prod.mk.injEq] at he
       obtain ⟨rfl,rfl,rfl⟩:=he
       have ih:=I9 k hr (fun p hp=>heq p (X4.2 (.inr hp))) hs
       have hst:=BU hev (fun p hp=>heq p (X4.2 (.inl hp)))
       intro Q w G a hF hh hk
       have hw:=BZ hF hd.2 hg
       obtain ⟨v,hv,hrun⟩:=hst n w G a hF hh
       unfold wpList
       rw [Zk hw]
       refine .inl ?_
       unfold Oper.wp
       rw [hrun w (fun _ _ _=>rfl) (fun _ _=>rfl)]
       exact ih Q w G _ (hF.put (U7 hd.1) hv) hh hk
theorem Z9r {o:Oper} (hg:QY ops F o=some true) (hlt:JJ n ops o=true) (ho:W8 P n o F h fun F' h'=>Qw P n ops B l F' h'):Qw P n ops B (o::l) F h:=by
 intro Q w G a hF hh hk
 have hw:=BZ hF hlt hg
 unfold wpList
 rw [Zk hw]
 refine .inl (Oper.wp_mono ?_ (ho Q w G a hF hh))
 intro a' w' ⟨F',h',G',h1,h2,h3,h4⟩
 exact h1 Q w' G' a' h2 h3 fun F2 h2' G2 a2 w2 b1 b2 b3 b4=>hk F2 h2' G2 a2 w2 b1 b2 b3 (h4.trans b4)
theorem Fr.Le.refl (F:Fr):F.Le F:=fun _ _ _ _ h=>h
def Zc (x y:AV):Prop:=∀w G v,RV w G x v->RV w G y v
theorem Zc.refl (x:AV):Zc x x:=fun _ _ _ h=>h
theorem Zc.any (x:AV):Zc x .any:=fun _ _ _ _=>.any
theorem Zc.forget (es:List AV) (hv:Option Value):Zc (.sl es hv) (.sl es none):=fun _ _ _ h=>h.forget
theorem Mi (F:Fr):F.Le []:=fun _ _ _ _ _=>.any
theorem BW {F F':Fr} {t:Nat} {x y:AV} (hx:F.get t=x) (hxy:Zc x y) (hr:F.Le F'):F.Le ((t,y)::F'):=by
 intro w G v s hv
 show RV w G (match Nat.beq t s with|true=>y|false=>Fr.get F' s) v
 cases hb:Nat.beq t s with
 | true=>
  have:=U2 hb
  subst this
  rw [hx] at hv
  exact hxy _ _ _ hv
 | false=>exact hr w G v s hv
theorem Zc.sl {es es':List AV} (hv:Option Value) (h:es=es'):Zc (.sl es hv) (.sl es' none):=h▸Zc.forget es hv
theorem Zc.slh {es es':List AV} (hv:Option Value) (h:es=es'):Zc (.sl es hv) (.sl es' hv):=h▸Zc.refl _
theorem Zc.i {a b:Int} (h:a=b):Zc (.val (.int .i64 a)) (.val (.int .i64 b)):=h▸Zc.refl _
theorem Zc.b {a b:Bool} (h:a=b):Zc (.val (.bool a)) (.val (.bool b)):=h▸Zc.refl _
inductive Vb:List AV->List AV->Prop
 | nil:Vb [] []
 | cons {x y:AV} {xs ys:List AV} (h:Zc x y) (t:Vb xs ys):Vb (x::xs) (y::ys)
theorem Vb.refl:∀(xs:List AV),Vb xs xs
 | []=>.nil
 | x::xs=>.cons (Zc.refl x) (Vb.refl xs)
theorem Vb.cs {w:World} {G:Y6}:∀{xs ys:List AV} {vs:List Value},Vb xs ys->YI w G xs vs->YI w G ys vs
 | _,_,_,.nil,.nil=>.nil
 | _,_,_,.cons h t,.cons a b=>.cons (h _ _ _ a) (t.cs b)
theorem Vb.mem {w:World} {G:Y6}:∀{xs ys:List AV} {b o:Nat},Vb xs ys->W9 w G b o xs->W9 w G b o ys
 | _,_,_,_,.nil,.nil=>.nil
 | _,_,_,_,.cons h t,.cons a1 a2 a3 a4=>.cons a1 a2 (h _ _ _ a3) (t.mem a4)
theorem Zc.agg {xs ys:List AV} (h:Vb xs ys):Zc (.agg xs) (.agg ys):=fun _ _ _ hv=>by
 cases hv with
 | agg hc=>exact .agg (h.cs hc)
theorem Zc.tup {xs ys:List AV} (h:Vb xs ys):Zc (.tup xs) (.tup ys):=fun _ _ _ hv=>by
 cases hv with
 | tup hc=>exact .tup (h.cs hc)
theorem Zc.rp {xs ys:List AV} (h:Vb xs ys):Zc (.rp xs) (.rp ys):=fun _ _ _ hv=>by
 cases hv with
 | rp hc=>exact .rp (h.mem hc)
mutual
def AV.like:AV->AV->AV
 | .sl es hv,y=>match y with | .sl _ none=>.sl es none | _=>.sl es hv
 | .agg ls,y=>match y with | .agg ms=>.agg (Ay ls ms) | _=>.agg ls
 | .rp ls,y=>match y with | .rp ms=>.rp (Ay ls ms) | _=>.rp ls
 | .tup ls,y=>match y with | .tup ms=>.tup (Ay ls ms) | _=>.tup ls
 | .any,_=>.any
 | .val v,y=>match y with | .any=>.any | _=>.val v
def Ay:List AV->List AV->List AV
 | [],_=>[]
 | x::xs,ys=>match ys with | y::ys=>x.like y::Ay xs ys | []=>x::xs
end
mutual
theorem AV.like_le:∀(x y:AV),Zc x (x.like y)
 | .sl es hv,y=>by
  cases y with
  | sl es' hv'=>cases hv'<;>simp only [AV.like]<;>first | exact Zc.forget es hv | exact Zc.refl _
  | _=>simp only [AV.like];exact Zc.refl _
 | .agg ls,y=>by
  cases y with
  | agg ms=>simp only [AV.like];exact Zc.agg (Fb ls ms)
  | _=>simp only [AV.like];exact Zc.refl _
 | .rp ls,y=>by
  cases y with
  | rp ms=>simp only [AV.like];exact Zc.rp (Fb ls ms)
  | _=>simp only [AV.like];exact Zc.refl _
 | .tup ls,y=>by
  cases y with
  | tup ms=>simp only [AV.like];exact Zc.tup (Fb ls ms)
  | _=>simp only [AV.like];exact Zc.refl _
 | .any,y=>by simp only [AV.like];exact Zc.refl _
 | .val v,y=>by
  cases y with
  | any=>simp only [AV.like];exact Zc.any _
  | _=>simp only [AV.like];exact Zc.refl _
theorem Fb:∀(xs ys:List AV),Vb xs (Ay xs ys)
 | [],ys=>by simp only [Ay];exact .nil
 | x::xs,ys=>by
  cases ys with
  | nil=>simp only [Ay];exact Vb.refl _
  | cons y ys=>simp only [Ay];exact .cons (AV.like_le x y) (Fb xs ys)
end
theorem Mh {F F':Fr} (h:F'.map (fun p=>(F.get p.1).like p.2)=F'.map (·.2)):F.Le F':=by
 induction F' with
 | nil=>exact Mi F
 | cons p r ih=>
  simp only [VX,List.cons.injEq] at h
  refine BW rfl ?_ (ih h.2)
  have:=AV.like_le (F.get p.1) p.2
  rwa [h.1] at this
structure UM (F:Fr) (h:List Res) (F':Fr) (h':List Res):Prop where
 fr:F.Le F'
 res:∃d,h.Perm (h'++d)
theorem Yq.weak {w:World} {G:Y6} {h':List Res} (hh:Yq w G h) (hw:∃d,h.Perm (h'++d)):Yq w G h':=by
 obtain ⟨d,hp⟩:=hw
 exact (hh.perm hp).left
theorem YP.weak_left {w w':World} {G G':Y6} {h' k:List Res} (hw:∃d,h.Perm (h'++d)) (e:YP w G h' w' G' k):YP w G h w' G' k:=by
 obtain ⟨d,hp⟩:=hw
 have hs:∀b o,WC h' b o->WC h b o:=fun b o hf=>(Aq hp).2 (J5.2 (.inl hf))
 exact ⟨e.os,e.tape,e.output,e.size,e.sub,fun b hb=>(e.same b hb).mono fun _ ho=>hs _ _ ho,fun b o hb hg=>(e.newG b o hb hg).imp id (hs b o),fun b o hb hf=>hs b o (e.newfp b o hb hf)⟩
theorem B4 {F':Fr} {h':List Res} (hw:UM F h F' h') (ha:YF P n c A F' h'):YF P n c A F h:=by
 intro w G a hF hh
 refine wp_mono (ha w G a (hF.le hw.fr) (hh.weak hw.res)) ?_
 intro e a' w' ⟨F2,h2,G2,b1,b2,b3,b4⟩
 exact ⟨F2,h2,G2,b1,b2,b3,b4.weak_left hw.res⟩
theorem Fy {F':Fr} {h':List Res} (hw:UM F h F' h') (ha:Qw P n ops B l F' h'):Qw P n ops B l F h:=by
 intro Q w G a hF hh hk
 exact ha Q w G a (hF.le hw.fr) (hh.weak hw.res) fun F2 h2 G2 a2 w2 b1 b2 b3 b4=>hk F2 h2 G2 a2 w2 b1 b2 b3 (b4.weak_left hw.res)
theorem IS {A':Ww} (hA:∀e F h,A e F h->A' e F h) (ha:YF P n c A F h):YF P n c A' F h:=by
 intro w G a hF hh
 exact wp_mono (ha w G a hF hh) fun e a' w' hc=>hc.mono hA
@[reducible] def FP (P:Program) (n:Nat) (y:Code) (A:Ww):Ww:=fun e F h=>
 match e with
 | .normal=>YF P n y A F h
 | e=>A e F h
@[reducible] def E1 (id:Nat) (A:Ww):Ww:=fun e F h=>
 match e with
 | .exit i=>match Nat.beq i id with
  | true=>A .normal F h
  | false=>A (.exit i) F h
 | e=>A e F h
@[reducible] def HO (Inv:Nat->Fr->List Res->Prop) (m:Nat) (A:Ww):Ww:=fun e F h=>
 match e with
 | .normal=>∃m' F' h',m'<m/\Inv m' F' h'/\UM F h F' h'
 | e=>A e F h
theorem Gg (hk:XH c=3) (ha:YF P n (Vt c) (FP P n (QW c) A) F h):YF P n c A F h:=by
 rw [S7 hk]
 intro w G a hF hh
 refine wp_seq (wp_mono (ha w G a hF hh) ?_)
 intro e a' w' ⟨F',h',G',h1,h2,h3,h4⟩
 cases e with
 | normal=>exact wp_mono (h1 w' G' a' h2 h3) fun e a2 w2 hc=>hc.trans h4
 | exit id=>exact ⟨F',h',G',h1,h2,h3,h4⟩
 | goto l=>exact ⟨F',h',G',h1,h2,h3,h4⟩
 | ret=>exact ⟨F',h',G',h1,h2,h3,h4⟩
 | panic ch=>exact ⟨F',h',G',h1,h2,h3,h4⟩
 | outgrown=>exact ⟨F',h',G',h1,h2,h3,h4⟩
theorem IT (hk:XH c=1) (hs:Qw P n (Tz c) (A .normal) (Tz c).toList F h):YF P n c A F h:=by
 rw [S5 hk]
 intro w G a hF hh
 exact wp_region_list (hs _ w G a hF hh fun F' h' G' a' w' b1 b2 b3 b4=>⟨F',h',G',b1,b2,b3,b4⟩)
theorem Rs (hk:XH c=3) (hk1:XH (Vt c)=1) (hs:Qw P n (Tz (Vt c)) (fun F h=>YF P n (QW c) A F h) (Tz (Vt c)).toList F h):YF P n c A F h:=
 Gg hk (IT hk1 hs)
theorem Rx (hk:XH c=0) (h0:A .normal F h):YF P n c A F h:=by
 rw [S4 hk]
 intro w G a hF hh
 exact wp_skip ⟨F,h,G,h0,hF,hh,YP.refl _ _ _⟩
theorem Rq (id:Nat) (hk:XH c=7) (hi:Qz c=id) (h0:A (.exit id) F h):YF P n c A F h:=by
 subst hi
 rw [Sb hk]
 intro w G a hF hh
 exact wp_exit ⟨F,h,G,h0,hF,hh,YP.refl _ _ _⟩
theorem Ru (hk:XH c=8) (h0:A .ret F h):YF P n c A F h:=by
 rw [Sc hk]
 intro w G a hF hh
 exact wp_ret ⟨F,h,G,h0,hF,hh,YP.refl _ _ _⟩
theorem Gf {b:Bool} {p:Prop} (hk:XH c=4) (hc:F.ev (B8 c)=.val (.bool b)) (hp:b=true↔p) (h1:p->YF P n (Vt c) A F h) (h2:¬p->YF P n (QW c) A F h) :
  YF P n c A F h:=by
 rw [S8 hk]
 intro w G a hF hh
 have hv:=hF.ev (B8 c)
 rw [hc] at hv
 exact wp_cond_split hv.val_inv (fun e=>h1 (hp.1 e) w G a hF hh) fun e=>h2 (fun q=>by have:=hp.2 q;rw [e] at this;cases this) w G a hF hh
theorem Rn (id:Nat) (hk:XH c=5) (hi:Qz c=id) (ha:YF P n (Vt c) (E1 id A) F h):YF P n c A F h:=by
 subst hi
 rw [S9 hk]
 intro w G a hF hh
 refine wp_block (wp_mono (ha w G a hF hh) ?_)
 intro e a' w' ⟨F',h',G',h1,h2,h3,h4⟩
 cases e with
 | normal=>exact ⟨F',h',G',h1,h2,h3,h4⟩
 | exit id=>
  simp only [Exit.inBlock]
  by_cases hid:id=Qz c
  ·subst hid
   rw [Zk rfl]
   have hb:Nat.beq (Qz c) (Qz c)=true:=Nat.beq_refl _
   simp only [E1,hb] at h1
   exact ⟨F',h',G',h1,h2,h3,h4⟩
  ·rw [Z9 hid]
   have hb:Nat.beq id (Qz c)=false:=by
    cases hq:Nat.beq id (Qz c)
    ·rfl
    ·exact absurd (U2 hq) hid
   simp only [E1,hb] at h1
   exact ⟨F',h',G',h1,h2,h3,h4⟩
 | goto l=>exact ⟨F',h',G',h1,h2,h3,h4⟩
 | ret=>exact ⟨F',h',G',h1,h2,h3,h4⟩
 | panic ch=>exact ⟨F',h',G',h1,h2,h3,h4⟩
 | outgrown=>exact ⟨F',h',G',h1,h2,h3,h4⟩
theorem Di (p:Nat->Prop) (h:∃n,p n):∃n,p n/\∀m,p m->n<=m:=by
 obtain ⟨k,hk⟩:=h
 induction k using Nat.strongRecOn with
 | _ k ih=>
  by_cases hx:∃m,m<k/\p m
  ·obtain ⟨m,h1,h2⟩:=hx
   exact ih m h1 h2
  ·refine ⟨k,hk,fun m hm=>?_⟩
   rcases DU m k with h|h
   ·exact absurd ⟨m,h,hm⟩ hx
   ·exact h
open Classical in
theorem Rr (Inv:Nat->Fr->List Res->Prop) {m0:Nat} {F0:Fr} {h0:List Res} (hk:XH c=6) (hi:Inv m0 F0 h0) (hw:UM F h F0 h0)
  (hr:∀m F h,Inv m F h->YF P n (Vt c) (HO Inv m A) F h):YF P n c A F h:=by
 refine B4 hw ?_
 rw [Sa hk]
 intro w G a hF hh
 let J:Nat->Act->World->Prop:=fun m a' w'=>∃F' h' G',Inv m F' h'/\FR w' G' n F' a'/\Yq w' G' h'/\YP w G h0 w' G' h'
 let mu:Act->World->Nat:=fun a' w'=>if hx:∃m,J m a' w' then Classical.choose (Di (fun m=>J m a' w') hx) else 0
 refine wp_loop (fun a' w'=>∃m,J m a' w') mu ⟨m0,F0,h0,G,hi,hF,hh,YP.refl _ _ _⟩ ?_
 intro a1 w1 hx
 have hsp:=Classical.choose_spec (Di (fun m=>J m a1 w1) hx)
 have hmu:mu a1 w1=Classical.choose (Di (fun m=>J m a1 w1) hx):=dif_pos hx
 rw [<-hmu] at hsp
 obtain ⟨⟨F1,h1,G1,i1,i2,i3,i4⟩,_⟩:=hsp
 refine wp_mono (hr _ F1 h1 i1 w1 G1 a1 i2 i3) ?_
 intro e a' w' ⟨F',h',G',k1,k2,k3,k4⟩
 have keep:∀{e},A e F' h'->Jq n A w G h0 e a' w':=fun hA=>⟨F',h',G',hA,k2,k3,i4.trans k4⟩
 cases e with
 | normal=>
  obtain ⟨m',F2,h2,j1,j2,j3⟩:=k1
  have hj:J m' a' w':=by
   refine ⟨F2,h2,G',j2,k2.le j3.fr,k3.weak j3.res,i4.trans ?_⟩
   obtain ⟨d,hp⟩:=j3.res
   have hsub:∀b o,WC h2 b o->WC h' b o:=fun b o hf=>(Aq hp).2 (J5.2 (.inl hf))
   exact ⟨k4.os,k4.tape,k4.output,k4.size,k4.sub,k4.same,k4.newG,fun b o hb hf=>k4.newfp b o hb (hsub b o hf)⟩
  have hx':∃m,J m a' w':=⟨m',hj⟩
  refine ⟨hx',?_⟩
  show mu a' w'<mu a1 w1
  have hsp':=Classical.choose_spec (Di (fun m=>J m a' w') hx')
  rw [show mu a' w'=Classical.choose (Di (fun m=>J m a' w') hx') from dif_pos hx']
  exact Nat.lt_of_le_of_lt (hsp'.2 m' hj) j1
 | exit id=>exact keep k1
 | goto l=>exact keep k1
 | ret=>exact keep k1
 | panic ch=>exact keep k1
 | outgrown=>exact keep k1
end
def B5:Nat->List AV->Fr
 | _,[]=>[]
 | i,x::xs=>(i,x)::B5 (i+1) xs
theorem IW {w:World} {G:Y6}:∀{xs:List AV} {vs:List Value} (i t:Nat) (tl:List Value),YI w G xs vs->RV w G ((B5 i xs).get (i+t)) ((vs++tl).getD t undef)
 | _,_,i,t,tl,.nil=>.any
 | _,_,i,0,tl,.cons (x:=x) (xs:=xs) h hr=>by
  show RV w G (match Nat.beq i (i+0) with|true=>x|false=>Fr.get (B5 (i+1) xs) (i+0)) _
  have:Nat.beq i (i+0)=true:=Nat.beq_refl i
  rw [this]
  simpa using h
 | _,_,i,t+1,tl,.cons (x:=x) (xs:=xs) h hr=>by
  show RV w G (match Nat.beq i (i+(t+1)) with|true=>x|false=>Fr.get (B5 (i+1) xs) (i+(t+1))) _
  have hb:Nat.beq i (i+(t+1))=false:=by
   cases hq:Nat.beq i (i+(t+1))
   ·rfl
   ·have:=U2 hq;omega
  rw [hb]
  have:=IW (i+1) t tl hr
  rw [show i+1+t=i+(t+1) from by omega] at this
  simpa using this
def Qk (P:Program) (F:Fr) (h:List Res):List ResultVar->List Nat->Option (List AV × List (Nat × Nat))
 | [],_=>some ([],[])
 | .tmp t::r,hints=>match Qk P F h r hints with
  | some (xs,es)=>some (F.get t::xs,es)
  | none=>none
 | .cell t ty::r,hints=>match F.get t with
  | .val (.pointer (some ⟨b,o,none⟩))=>match h[hints.headD 0]? with
   | some (.obj b' ls)=>match JR P ty (ls.drop o) with
    | some x=>match Qk P F h r hints.tail with
     | some (xs,es)=>some (x::xs,(b,b')::es)
     | none=>none
    | none=>none
   | _=>none
  | _=>none
def JX:List AV->AV
 | [x]=>x
 | xs=>.tup xs
theorem RX (a:Addr):asAddr (.pointer (some a))=pure a:=rfl
theorem HY {P:Program} {w:World} {G:Y6} {n:Nat} {F:Fr} {h:List Res} {a:Act} (hF:FR w G n F a) (hh:Yq w G h) :
  ∀{rs:List ResultVar} {hints:List Nat} {xs:List AV} {es:List (Nat × Nat)},Qk P F h rs hints=some (xs,es)->(∀p∈es,p.1=p.2) ->
  ∃vs,YI w G xs vs/\(List.mapM (m:=Sem) (fun r=>match r with|.tmp t=>pure (a.tmps.getD t undef)|.cell b t=>do loadVar t (<-asAddr (a.tmps.getD b undef))) rs).run P w=.ok vs w
 | [],hints,xs,es,he,_=>by
  simp only [Qk,XY,Prod.mk.injEq] at he
  obtain ⟨rfl,rfl⟩:=he
  exact ⟨[],.nil,by simp⟩
 | .tmp t::r,hints,xs,es,he,heq=>by
  simp only [Qk] at he
  cases hr:Qk P F h r hints with
  | none=>rw [hr] at he;cases he
  | some y=>
   obtain ⟨ys,es2⟩:=y
   rw [hr] at he
   simp only [XY,Prod.mk.injEq] at he
   obtain ⟨rfl,rfl⟩:=he
   obtain ⟨vs,h1,h2⟩:=HY hF hh hr heq
   refine ⟨a.tmps.getD t undef::vs,.cons (hF.get t) h1,?_⟩
   simp only [List.mapM_cons,Sem.run_bind,Sem.run_pure,Result.andThen_ok,h2]
 | .cell t ty::r,hints,xs,es,he,heq=>by
  simp only [Qk] at he
  split at he
  ·rename_i b off hg
   split at he
   ·rename_i b' ls hl
    split at he
    ·rename_i x hx
     split at he
     ·rename_i ys es2 hr
      simp only [XY,Prod.mk.injEq] at he
      obtain ⟨rfl,rfl⟩:=he
      have hbb:b=b':=heq (b,b') (by simp)
      subst hbb
      obtain ⟨vs,h1,h2⟩:=HY hF hh hr fun p hp=>heq p (by simp [hp])
      have hv:=hF.get t
      rw [hg] at hv
      have hv:=hv.val_inv
      obtain ⟨cs,e,k1,k2⟩:=hh.ok _ (Y0 hl)
      obtain ⟨v,j1,j2⟩:=Fw (P:=P) (b:=b) (o:=off) hx (k2.drop off)
      have j3:=j2 w fun j u hj=>by
       rw [cell_of_row w b (off+j) cs e (0,0) k1]
       simpa using hj
      refine ⟨v::vs,.cons j1 h1,?_⟩
      simp only [List.mapM_cons,Sem.run_bind,Sem.run_pure,Result.andThen_ok,hv,RX,j3,h2]
     ·cases he
    ·cases he
   ·cases he
  ·cases he
def Ab (P:Program) (fn:Func) (R:AV->List Res->Prop):Ww:=fun e F h=>
 (e=.normal∨e=.ret)/\∃hints xs es h' r,Qk P F h fn.results.toList hints=some (xs,es)/\(∀p∈es,p.1=p.2)/\(∃d,h.Perm (h'++d))/\Zc (JX xs) r/\R r h'
theorem HU {P:Program} {fn:Func} {R:AV->List Res->Prop} {F:Fr} {h h':List Res} {e:Exit} (he:(match e with|.normal|.ret=>true|_=>false)=true) (hints:List Nat) {xs:List AV}
  {es:List (Nat × Nat)} {r:AV} (hr:Qk P F h fn.results.toList hints=some (xs,es)) (heq:∀p∈es,p.1=p.2) (hw:∃d,h.Perm (h'++d)) (hle:Zc (JX xs) r) (hR:R r h'):Ab P fn R e F h:=
 ⟨by cases e<;>first|exact .inl rfl|exact .inr rfl|(cases he),hints,xs,es,h',r,hr,heq,hw,hle,hR⟩
theorem Z8n {P:Program} {fn:Func} {tmps:Array Value} {w:World} {vs:List Value}
  (h:(List.mapM (m:=Sem) (fun r=>match r with|.tmp t=>pure (tmps.getD t undef)|.cell b t=>do loadVar t (<-asAddr (tmps.getD b undef))) fn.results.toList).run P w=.ok vs w) :
  (results fn tmps).run P w=.ok (if h:vs.toArray.size=1 then vs.toArray[0] else .tuple vs.toArray) w:=by
 unfold results
 rw [Array.mapM_eq_mapM_toList]
 simp only [Sem.run_bind,Sem.run_map,Sem.run_pure]
 exact Yc (fun r=>(Result.andThen (Result.andThen r fun a w'=>Result.ok a.toArray w') fun a w'=>Result.ok (if h:a.size=1 then a[0] else Value.tuple a) w')) h
theorem enter {P:Program} {f:FuncId} {fn:Func} {xs:List AV} {h:List Res} {R:AV->List Res->Prop} {n:Nat} (hf:P.funcs[f]? = some fn) (hb:fn.body.isSome=true) (hn:fn.ntmps=n)
  (hle:Nat.ble xs.length n=true) (ha:YF P n (E7 fn) (Ab P fn R) (B5 0 xs) h):W2 P f xs h R:=by
 intro w G vs hvs hh
 have hbody:fn.body=some (E7 fn):=by
  unfold E7
  cases hq:fn.body with
  | none=>simp [hq] at hb
  | some c=>rfl
 have hlen:=hvs.length
 have hle:=WE hle
 refine calls_of_wp hf hbody ?_
 have hF:FR w G n (B5 0 xs) { tmps:=vs.toArray++Array.replicate (fn.ntmps-vs.toArray.size) undef,defers:=[] }:=by
  refine ⟨rfl,by simp [hn,hlen];omega,fun t=>?_⟩
  have:=IW (w:=w) (G:=G) 0 t (List.replicate (fn.ntmps-vs.toArray.size) undef) hvs
  rw [WS] at this
  have e:(vs.toArray++Array.replicate (fn.ntmps-vs.toArray.size) undef).getD t undef=(vs++List.replicate (fn.ntmps-vs.toArray.size) undef).getD t undef:=by
   simp [Array.getElem?_append,List.getElem?_append,List.getElem?_replicate,Array.getElem?_replicate]
  rw [e]
  exact this
 refine wp_mono (ha w G _ hF hh) ?_
 intro e a w' ⟨F',h',G',hA,k1,k2,k3⟩
 obtain ⟨he,hints,ys,es,h2,r,hr,heq,hwk,hle,hR⟩:=hA
 obtain ⟨us,u1,u2⟩:=HY k1 k2 hr heq
 have hres:=Z8n u2
 have hval:RV w' G' (JX ys) (if h:us.toArray.size=1 then us.toArray[0] else .tuple us.toArray):=by
  cases u1 with
  | nil=>simp [JX];exact .tup (cs:=[]) .nil
  | cons a1 a2=>
   cases a2 with
   | nil=>simpa [JX] using a1
   | cons b1 b2=>simpa [JX] using RV.tup (.cons a1 (.cons b1 b2))
 obtain ⟨d,hp⟩:=hwk
 have k2':=(k2.perm hp).left
 have k3':YP w G h w' G' h2:=(k3.perm (TJ _) hp).sub' (List.sublist_append_left _ _)
 rcases he with rfl|rfl
 ·exact ⟨k1.defers,_,hres,_,_,h2,G',rfl,hR,hle _ _ _ hval,k2',k3'⟩
 ·exact ⟨k1.defers,_,hres,_,_,h2,G',rfl,hR,hle _ _ _ hval,k2',k3'⟩
def JD (ops:Array Oper) (j i:Nat):Bool:=
 match ops[j]? with
 | some o=>o.after.any fun e=>Region.binds .any e&&e.on==i
 | none=>false
inductive QO (ops:Array Oper):Nat->Nat->Prop
 | one {j i} (h:JD ops j i=true):QO ops j i
 | more {j m i} (h:JD ops j m=true) (t:QO ops m i):QO ops j i
def Fm (ops:Array Oper):Nat->Nat->Nat->Bool
 | 0,j,i=>JD ops j i
 | f+1,j,i=>match ops[j]? with
  | some o=>o.after.any fun e=>Region.binds .any e&&(e.on==i||(Nat.ble i e.on&&Fm ops f e.on i))
  | none=>false
def WB (ops:Array Oper) (j i:Nat):Bool:=Fm ops 9 j i
theorem LV {ops:Array Oper} {j:Nat} {o:Oper} {e:Edge} (ho:ops[j]? = some o) (he:e∈o.after) (hb:Region.binds .any e=true):JD ops j e.on=true:=by
 unfold JD
 rw [ho]
 simp only [Array.any_eq_true',XI,Zt]
 exact ⟨e,he,hb,rfl⟩
theorem OD {ops:Array Oper}:∀{f j i:Nat},Fm ops f j i=true->QO ops j i
 | 0,j,i,h=>.one h
 | f+1,j,i,h=>by
  rw [Fm] at h
  split at h
  ·rename_i o ho
   simp only [Array.any_eq_true',XI,Bool.or_eq_true,Zt] at h
   obtain ⟨e,he,hb,h1|⟨_,h1⟩⟩:=h
   ·exact .one (h1▸LV ho he hb)
   ·exact .more (LV ho he hb) (OD h1)
  ·cases h
theorem S1 {ops:Array Oper} {j i:Nat} (h:WB ops j i=true):QO ops j i:=OD h
def Jp (ops:Array Oper) (listed:Array Bool):Prop:=∀m i,listed.getD m false=true->JD ops m i=true->listed.getD i false=true
theorem Jp.bef {ops:Array Oper} {listed:Array Bool} (hc:Jp ops listed) {j i:Nat} (hb:QO ops j i):listed.getD j false=true->listed.getD i false=true:=by
 induction hb with
 | one h=>exact fun hj=>hc _ _ hj h
 | more h _ ih=>exact fun hj=>ih (hc _ _ hj h)
theorem GZ {ops:Array Oper} {listed:Array Bool} {j i:Nat} (hj:j∈Region.ready .any ops listed) (h:JD ops j i=true):listed.getD i false=true:=by
 obtain ⟨_,o,ho,hall⟩:=mem_ready.1 hj
 simp only [JD,ho] at h
 obtain ⟨e,he,hb⟩:=Array.any_eq_true'.1 h
 simp only [XI,Zt] at hb
 exact hb.2▸hall e he hb.1
theorem Z7d {ops:Array Oper} {listed:Array Bool} {j i:Nat} (hc:Jp ops listed) (hj:j∈Region.ready .any ops listed) (hi:listed.getD i true=false):¬QO ops j i:=by
 intro hb
 have hi':listed.getD i false=false:=by
  cases hq:listed.getD i false
  ·rfl
  ·rcases DU i listed.size with h|h
   ·simp [h] at hi hq;rw [hi] at hq;cases hq
   ·simp [Array.getElem?_eq_none h] at hi
 have hl:listed.getD i false=true:=by
  cases hb with
  | one h=>exact GZ hj h
  | more h t=>exact hc.bef t (GZ hj h)
 rw [hi'] at hl
 cases hl
theorem Jp.add {ops:Array Oper} {listed:Array Bool} {j:Nat} (hc:Jp ops listed) (hj:j∈Region.ready .any ops listed):Jp ops (listed.setIfInBounds j true):=by
 intro m i hm he
 by_cases hmj:m=j
 ·subst hmj
  exact getD_set_true (GZ hj he)
 ·rw [getD_set_ne false (Ne.symm hmj)] at hm
  exact getD_set_true (hc m i hm he)
abbrev Cy:=Nat × (World->Prop)->Prop
def By (P:Program) (ops:Array Oper) (Q:Exit->Act->World->Prop):Nat->Cy->Array Bool->Act->World->Prop
 | 0,_,listed,a,w=>Region.ready .any ops listed=[]/\Q .normal a w
 | fuel+1,T,listed,a,w=>
  (Region.ready .any ops listed=[]->Q .normal a w) /\
  ∀i∈Region.ready .any ops listed,wpOp P ops Q i (fun a' w'=>(∀p,T p->¬QO ops i p.1->p.2 w') /\
   By P ops Q fuel (fun p=>T p/\¬QO ops i p.1) (listed.setIfInBounds i true) a' w') a w
section
variable {P:Program} {ops:Array Oper} {Q:Exit->Act->World->Prop} {S:World->Prop}
theorem Rh:∀(fuel:Nat) (T:Cy) (listed:Array Bool) (a:Act) (w:World),By P ops Q fuel T listed a w->wpAny P .any ops Q fuel listed a w
 | 0,_,_,_,_,h=>h
 | fuel+1,_,_,_,_,h=>⟨h.1,fun i hi=>wpOp_mono (fun _ _ h'=>Rh fuel _ _ _ _ h'.2) (h.2 i hi)⟩
theorem IG:∀(fuel:Nat) {T T':Cy} (listed:Array Bool) (a:Act) (w:World),(∀p,T' p->T p)->By P ops Q fuel T listed a w->By P ops Q fuel T' listed a w
 | 0,_,_,_,_,_,_,h=>h
 | fuel+1,_,_,_,_,_,hT,h=>⟨h.1,fun i hi=>wpOp_mono (fun _ _ h'=>⟨fun p hp=>h'.1 p (hT p hp),IG fuel _ _ _ (fun p hp=>⟨hT p hp.1,hp.2⟩) h'.2⟩) (h.2 i hi)⟩
theorem Zdc {i:Nat} {oi:Oper} {v:Value} (hi:ops[i]? = some oi) (hsel:∀(j:Nat) (o:Oper) cs b,ops[j]? = some o->o.op≠.select cs b)
  (hQ:∀c a w,¬Q (.panic c) a w) :
  ∀(fuel:Nat) (T:Cy) (listed:Array Bool) (a:Act) (w:World),Jp ops listed ->
   (∀j oj,ops[j]? = some oj->j≠i->listed.getD j true=false->(∀e∈oj.after,Region.binds .any e=true->e.on≠i)->oi.apart ops oj=true) ->
   i∈Region.ready .any ops listed->YieldsIf P ops S oi v a->S w->(∀p,T p->p.2 w) ->
   By P ops Q fuel (fun p=>T p∨p=(i,S)) (listed.setIfInBounds i true) (a.put oi.dst v) w->By P ops Q (fuel+1) T listed a w:=by
 intro fuel
 have hQ':∀c a w,Q (.panic c) (a.put oi.dst v) w->Q (.panic c) a w:=fun c a w h=>(hQ c _ w h).elim
 induction fuel with
 | zero=>
  intro T listed a w _ hfree hr hy hS hT H
  refine ⟨fun h=>(by rw [h] at hr;cases hr),fun j hj=>?_⟩
  by_cases hji:j=i
  ·subst hji
   exact hy.wpOp hi hS ⟨fun p hp _=>hT p hp,H⟩
  ·have:=ready_mono hj hji
   rw [H.1] at this
   cases this
 | succ fuel ih=>
  intro T listed a w hcl hfree hr hy hS hT H
  refine ⟨fun h=>(by rw [h] at hr;cases hr),fun j hj=>?_⟩
  by_cases hji:j=i
  ·subst hji
   exact hy.wpOp hi hS ⟨fun p hp _=>hT p hp,IG (fuel+1) _ _ _ (fun p hp=>.inl hp.1) H⟩
  ·have h1:=H.2 j (ready_mono hj hji)
   obtain ⟨hjun,oj,hoj,hall⟩:=mem_ready.1 hj
   have hiun:=(mem_ready.1 hr).1
   have hnb:¬QO ops j i:=Z7d hcl hj hiun
   have hnot:∀e∈oj.after,Region.binds .any e=true->e.on≠i:=fun e he hb heq=>
    hnb (.one (by simp only [JD,hoj];exact Array.any_eq_true'.2 ⟨e,he,by simp [hb,heq]⟩))
   have h2:=wpOp_putIf hoj (hfree j oj hoj hji hjun hnot) (fun cs b=>hsel i oi cs b hi) (fun cs b=>hsel j oj cs b hoj) hQ' hy h1
   have hfree':∀k ok,ops[k]? = some ok->k≠i->(listed.setIfInBounds j true).getD k true=false ->
     (∀e∈ok.after,Region.binds .any e=true->e.on≠i)->oi.apart ops ok=true:=fun k ok hk hki hun Ho=>by
    refine hfree k ok hk hki ?_ Ho
    by_cases hjk:j=k
    ·subst hjk;exact hjun
    ·rw [getD_set_ne true hjk] at hun;exact hun
   refine wpOp_mono (fun a' w' h3=>?_) h2
   obtain ⟨hy',hT',hrest⟩:=h3
   have hTp:∀p,T p/\¬QO ops j p.1->p.2 w':=fun p hp=>hT' p (.inl hp.1) hp.2
   refine ⟨fun p hp hb=>hTp p ⟨hp,hb⟩,ih _ (listed.setIfInBounds j true) a' w' (hcl.add hj) hfree' (ready_mono hr (Ne.symm hji)) hy' (hT' (i,S) (.inr rfl) hnb) hTp ?_⟩
   rw [Array.setIfInBounds_comm _ _ hji]
   refine IG fuel _ _ _ (fun p hp=>?_) hrest
   rcases hp with hp|rfl
   ·exact ⟨.inl hp.1,hp.2⟩
   ·exact ⟨.inr rfl,hnb⟩
end
def Wt (ops:Array Oper) (done:List Nat):Array Bool:=done.foldl (fun l i=>l.setIfInBounds i true) (Array.replicate ops.size false)
theorem Fc (ops:Array Oper) (done:List Nat) (i:Nat):Wt ops (done++[i])=(Wt ops done).setIfInBounds i true:=by simp [Wt]
theorem Sj (ops:Array Oper):Jp ops (Wt ops []):=by
 intro m i hm _
 simp only [Wt,List.foldl_nil] at hm
 by_cases h:m<ops.size
 ·simp [h] at hm
 ·simp [h] at hm
def YM (P:Program) (n:Nat) (ops:Array Oper) (B:Fr->List Res->Prop) (T:List (Nat × List Nat)) (fuel:Nat) (done:List Nat) (F:Fr) (h:List Res):Prop:=
 ∀(Q:Exit->Act->World->Prop) w G a (SL:Cy),FR w G n F a->Yq w G h->(∀c a w,¬Q (.panic c) a w)->Jp ops (Wt ops done) ->
  (∀p,SL p->∃t∈T,t.1=p.1/\∀w',(∀b o,G b o->w'.cell? ⟨b,o,none⟩=w.cell? ⟨b,o,none⟩)->(∀b∈t.2,w'.heap[b]? = w.heap[b]?)->p.2 w') ->
  (∀F' h' G' a' w',B F' h'->FR w' G' n F' a'->Yq w' G' h'->YP w G h w' G' h'->Q .normal a' w')->By P ops Q fuel SL (Wt ops done) a w
section
variable {P:Program} {n:Nat} {ops:Array Oper} {B:Fr->List Res->Prop} {T:List (Nat × List Nat)} {fuel:Nat} {done:List Nat} {F:Fr} {h:List Res}
theorem Z07 (hr:Region.ready .any ops (Wt ops done)=[]) (hB:B F h):YM P n ops B T fuel done F h:=by
 intro Q w G a SL hF hh _ _ _ hk
 have hq:=hk F h G a w hB hF hh (YP.refl _ _ _)
 cases fuel with
 | zero=>exact ⟨hr,hq⟩
 | succ f=>exact ⟨fun _=>hq,by rw [hr];simp⟩
def Ka (P:Program) (n:Nat) (ops:Array Oper) (h:List Res):List Nat->List Nat->Fr->List Nat->Option (Fr × List (Nat × List (Nat × Nat)))
 | [],_,F,_=>some (F,[])
 | i::is,done,F,hints=>
  match ops[i]? with
  | none=>none
  | some o=>
   match WV n o&&(JJ n ops o&&(Region.free .any ops (Wt ops done) i&&(Region.ready .any ops (Wt ops done)).contains i)) with
   | false=>none
   | true=>match QY ops F o with
    | none=>none
    | some false=>match Ka P n ops h is (done++[i]) (F.put o.dst (.tup [])) hints with
     | none=>none
     | some (F',es)=>some (F',(i,[])::es)
    | some true=>match TB P o F h (hints.headD 0) with
     | none=>none
     | some (x,eqs)=>match Ka P n ops h is (done++[i]) (F.put o.dst x) (match eqs with | []=>hints | _=>hints.tail) with
      | none=>none
      | some (F',es)=>some (F',(i,eqs)::es)
def Do (es:List (Nat × List (Nat × Nat))):List (Nat × List Nat):=es.map fun e=>(e.1,e.2.map (·.1))
theorem GF {i:Nat} {o:Oper} {ks:List Nat} {x:AV} (hs:Region.noSelect ops=true) (hi:ops[i]? = some o) (hd:WV n o=true) (hgl:JJ n ops o=true)
  (hf:Region.free .any ops (Wt ops done) i=true) (hr:(Region.ready .any ops (Wt ops done)).contains i=true)
  (hx:(QY ops F o=some false/\x=.tup []/\ks=[])∨(QY ops F o=some true/\Xr P o F h ks x))
  (H:YM P n ops B ((i,ks)::T) fuel (done++[i]) (F.put o.dst x) h):YM P n ops B T (fuel+1) done F h:=by
 intro Q w G a SL hF hh hQ hcl hcov hk
 have hready:i∈Region.ready .any ops (Wt ops done):=by simpa using hr
 let S:World->Prop:=fun w'=>(∀b o,G b o->w'.cell? ⟨b,o,none⟩=w.cell? ⟨b,o,none⟩)/\(∀b∈ks,w'.heap[b]? = w.heap[b]?)
 have hSL:∀p,SL p->p.2 w:=fun p hp=>by
  obtain ⟨t,_,_,h3⟩:=hcov p hp
  exact h3 w (fun _ _ _=>rfl) fun _ _=>rfl
 have key:∃v,RV w G x v/\YieldsIf P ops S o v a:=by
  rcases hx with ⟨hg,rfl,rfl⟩|⟨hg,hst⟩
  ·exact ⟨undef,.tup (cs:=[]) .nil,.inr ⟨BZ hF hgl hg,rfl⟩⟩
  ·obtain ⟨v,h1,h2⟩:=hst n w G a hF hh
   exact ⟨v,h1,.inl ⟨BZ hF hgl hg,fun w' hw'=>h2 w' hw'.1 hw'.2⟩⟩
 obtain ⟨v,hv,hy⟩:=key
 refine Zdc hi (Region.noSelect_spec hs) hQ fuel SL _ a w hcl (Region.free_spec hi hf) hready hy ⟨fun _ _ _=>rfl,fun _ _=>rfl⟩ hSL ?_
 rw [<-Fc]
 refine H Q w G _ _ (hF.put (U7 hd) hv) hh hQ (by rw [Fc];exact hcl.add hready) ?_ hk
 rintro p (hp|rfl)
 ·obtain ⟨t,h1,h2,h3⟩:=hcov p hp
  exact ⟨t,Xl _ h1,h2,h3⟩
 ·exact ⟨(i,ks),X1 ..,rfl,fun w' h1 h2=>⟨h1,h2⟩⟩
theorem GC:∀(is:List Nat) {T:List (Nat × List Nat)} {done:List Nat} {F F':Fr} {hints:List Nat} {es:List (Nat × List (Nat × Nat))} {fuel':Nat},Region.noSelect ops=true ->
  Ka P n ops h is done F hints=some (F',es)->(∀e∈es,∀p∈e.2,p.1=p.2)->fuel'=fuel+is.length ->
  YM P n ops B ((Do es).reverse++T) fuel (done++is) F' h->YM P n ops B T fuel' done F h
 | [],T,done,F,F',hints,es,fuel',_,he,_,hf,H=>by
  simp only [Ka,XY,Prod.mk.injEq] at he
  obtain ⟨rfl,rfl⟩:=he
  subst hf
  simpa [Do] using H
 | i::is,T,done,F,F',hints,es,fuel',hs,he,heq,hf,H=>by
  simp only [Ka] at he
  cases ho:ops[i]? with
  | none=>rw [ho] at he;cases he
  | some o=>
   rw [ho] at he
   simp only at he
   cases hc:WV n o&&(JJ n ops o&&(Region.free .any ops (Wt ops done) i&&(Region.ready .any ops (Wt ops done)).contains i)) with
   | false=>rw [hc] at he;cases he
   | true=>
    rw [hc] at he
    simp only [XI] at hc
    obtain ⟨c1,c2,c3,c4⟩:=hc
    simp only at he
    have hfuel:fuel'=fuel+is.length+1:=by simp at hf;omega
    subst hfuel
    cases hg:QY ops F o with
    | none=>rw [hg] at he;cases he
    | some b=>
     rw [hg] at he
     cases b with
     | false=>
      simp only at he
      cases hr:Ka P n ops h is (done++[i]) (F.put o.dst (.tup [])) hints with
      | none=>rw [hr] at he;cases he
      | some y=>
       obtain ⟨F2,es2⟩:=y
       rw [hr] at he
       simp only [XY,Prod.mk.injEq] at he
       obtain ⟨rfl,rfl⟩:=he
       refine GF hs ho c1 c2 c3 c4 (.inl ⟨hg,rfl,rfl⟩) (GC is hs hr (fun e he=>heq e (Xl _ he)) rfl ?_)
       simpa [Do] using H
     | true=>
      simp only at he
      cases hev:TB P o F h (hints.headD 0) with
      | none=>rw [hev] at he;cases he
      | some xe=>
       obtain ⟨x,eqs⟩:=xe
       rw [hev] at he
       simp only at he
       generalize (match eqs with|[]=>hints|_=>hints.tail)=hints' at he
       cases hr:Ka P n ops h is (done++[i]) (F.put o.dst x) hints' with
       | none=>rw [hr] at he;cases he
       | some y=>
        obtain ⟨F2,es2⟩:=y
        rw [hr] at he
        simp only [XY,Prod.mk.injEq] at he
        obtain ⟨rfl,rfl⟩:=he
        have hst:=BU hev (heq (i,eqs) (X1 ..))
        refine GF hs ho c1 c2 c3 c4 (.inr ⟨hg,hst⟩) (GC is hs hr (fun e he=>heq e (Xl _ he)) rfl ?_)
        simpa [Do] using H
def Wj:List Res->List Nat
 | []=>[]
 | .obj b _::r=>b::Wj r
 | .row (.slice (some a) _ _) _ _::r=>a.block::Wj r
 | _::r=>Wj r
theorem NR {b:Nat}:∀{h:List Res},b∈Wj h->∃r∈h,∀o,r.fp b o
 | [],hb=>by simp [Wj] at hb
 | x::r,hb=>by
  have up:b∈Wj r->∃q∈x::r,∀o,q.fp b o:=fun hb=>by obtain ⟨l,hl,hf⟩:=NR (h:=r) hb;exact ⟨l,Xl _ hl,hf⟩
  unfold Wj at hb
  split at hb
  ·rename_i he;cases he
  ·rename_i he
   cases he
   rcases YB.1 hb with rfl|hb
   ·exact ⟨_,X1 ..,fun _=>rfl⟩
   ·exact up hb
  ·rename_i he
   cases he
   rcases YB.1 hb with rfl|hb
   ·exact ⟨_,X1 ..,fun _=>rfl⟩
   ·exact up hb
  ·rename_i he
   cases he
   exact up hb
def V4 (P:Program) (n:Nat) (ops:Array Oper) (B:Fr->List Res->Prop) (T:List (Nat × List Nat)) (fuel:Nat) (done:List Nat) (F:Fr) (h:List Res) (i:Nat):Prop:=
 ∃o h1 h2,ops[i]? = some o/\QY ops F o=some true/\JJ n ops o=true/\h.Perm (h1++h2) /\
  (∀t∈T,WB ops i t.1=true∨∀b∈t.2,b∈Wj h2) /\
  W8 P n o F h1 fun F' h1'=>YM P n ops B (T.filter fun t=>!WB ops i t.1) fuel (done++[i]) F' (h1'++h2)
theorem LJ {is:List Nat} (hr:Region.ready .any ops (Wt ops done)=is) (hne:is.isEmpty=false) (H:∀i∈is,V4 P n ops B T fuel done F h i):YM P n ops B T (fuel+1) done F h:=by
 intro Q w G a SL hF hh hQ hcl hcov hk
 refine ⟨fun h0=>(by rw [hr] at h0;subst h0;simp at hne),fun i hi=>?_⟩
 obtain ⟨o,h1,h2,ho,hg,hgl,hp,hT,hop⟩:=H i (hr▸hi)
 have hh':=hh.perm hp
 have hw:=BZ hF hgl hg
 unfold wpOp
 simp only [ho,hw,if_true]
 refine .inl (Oper.wp_mono ?_ (hop Q w G a hF hh'.left))
 intro a' w' ⟨F',h1',G',b1,b2,b3,b4⟩
 obtain ⟨j1,j2⟩:=hh'.frame b4 b3
 have hA:=b4.agree hh'.left
 have hsame:∀b∈Wj h2,w'.heap[b]? = w.heap[b]?:=fun b hb=>by
  obtain ⟨r,hl,hr⟩:=NR hb
  exact (b4.same b ((hh'.ok r (X4.2 (.inr hl))).lt b 0 (hr 0))).eq fun o hf=>hh'.cross hf ⟨_,hl,hr o⟩
 have hcov':∀p,SL p/\¬QO ops i p.1->∃t∈T.filter fun t=>!WB ops i t.1,t.1=p.1 /\
   ∀w'',(∀b o,G' b o->w''.cell? ⟨b,o,none⟩=w'.cell? ⟨b,o,none⟩)->(∀b∈t.2,w''.heap[b]? = w'.heap[b]?)->p.2 w'':=by
  rintro p ⟨hp,hb⟩
  obtain ⟨t,t1,t2,t3⟩:=hcov p hp
  have hbb:WB ops i t.1=false:=by
   cases hq:WB ops i t.1
   ·rfl
   ·exact absurd (t2▸S1 hq) hb
  refine ⟨t,List.mem_filter.2 ⟨t1,by simp [hbb]⟩,t2,fun w'' c1 c2=>t3 w'' (fun b o hg=>(c1 b o (hA.sub b o hg)).trans (hA.cell b o hg)) fun b hb'=>?_⟩
  rcases hT t t1 with h|h
  ·rw [hbb] at h;cases h
  ·exact (c2 b hb').trans (hsame b (h b hb'))
 refine ⟨fun p hp hb=>?_,?_⟩
 ·obtain ⟨t,_,_,t3⟩:=hcov' p ⟨hp,hb⟩
  exact t3 w' (fun _ _ _=>rfl) fun _ _=>rfl
 ·rw [<-Fc]
  exact b1 Q w' G' a' _ b2 j1 hQ (by rw [Fc];exact hcl.add hi) hcov' fun F2 h2' G2 a2 w2 c1 c2 c3 c4=>hk F2 h2' G2 a2 w2 c1 c2 c3 ((j2.perm hp.symm (TJ _)).trans c4)
theorem Z0a {i:Nat} (hr:Region.ready .any ops (Wt ops done)=[i]) (H:V4 P n ops B T fuel done F h i):YM P n ops B T (fuel+1) done F h:=
 LJ hr rfl fun j hj=>by rw [XT.1 hj];exact H
theorem GG {F':Fr} (hw:F.Le F') (H:YM P n ops B T fuel done F' h):YM P n ops B T fuel done F h:=by
 intro Q w G a SL hF hh hQ hcl hcov hk
 exact H Q w G a SL (hF.le hw) hh hQ hcl hcov hk
end
theorem IU {P:Program} {n:Nat} {c:Code} {A:Ww} {F:Fr} {h:List Res} (hk:XH c=2) (hm:P.follows .mixedOrders=true) {k:Nat} (Xk:(Tz c).size=k)
  (hs:YM P n (Tz c) (A .normal) [] k [] F h):YF P n c A F h:=by
 rw [S6 hk]
 intro w G a hF hh
 subst Xk
 let Q:Exit->Act->World->Prop:=fun e a' w'=>match e with
  | .normal=>Jq n A w G h .normal a' w'
  | _=>False
 have hx:=hs Q w.drew G a (fun _=>False) (hF.mono (Ae w G)) hh.drew (fun _ _ _ hq=>hq) (Sj _) (fun p hp=>hp.elim)
  fun F' h' G' a' w' b1 b2 b3 b4=>⟨F',h',G',b1,b2,b3,(YP.drew w G h).trans b4⟩
 refine wp_mono (wp_region_any (Q:=Q) hm (Rh _ _ _ _ _ hx)) ?_
 intro e a' w' hq
 cases e with
 | normal=>exact hq
 | _=>exact hq.elim
theorem Rt {P:Program} {n:Nat} {c:Code} {A:Ww} {F:Fr} {h:List Res} (hk:XH c=3) (hk2:XH (Vt c)=2) (hm:P.follows .mixedOrders=true) {k:Nat}
  (Xk:(Tz (Vt c)).size=k) (hs:YM P n (Tz (Vt c)) (fun F h=>YF P n (QW c) A F h) [] k [] F h):YF P n c A F h:=
 Gg hk (IU hk2 hm Xk hs)
abbrev AV.i (n:Int):AV:=.val (.int .i64 n)
abbrev AV.b (b:Bool):AV:=.val (.bool b)
abbrev AV.p (b:Nat) (o:Nat):AV:=.val (.pointer (some ⟨b,o,none⟩))
abbrev AV.ms (b off len cap:Nat):AV:=.val (.slice (some ⟨b,off,none⟩) len cap)
def Zz (ops:Array Oper) (k:Nat):Oper:=ops.toList.getD k default
def YS (n:Nat) (ops:Array Oper) (F:Fr) (k:Nat):Bool:=
 Nat.blt k ops.size&&(WV n (Zz ops k)&&(JJ n ops (Zz ops k)&&(match QY ops F (Zz ops k) with|some true=>true|_=>false)))
abbrev SI (P:Program) (n:Nat) (ops:Array Oper) (B:Fr->List Res->Prop) (k:Nat) (F:Fr) (h:List Res):Prop:=Qw P n ops B (ops.toList.drop k) F h
theorem Z0l {ops:Array Oper} {k:Nat} (h:k<ops.size):ops.toList.drop k=Zz ops k::ops.toList.drop (k+1):=by
 have this:k<ops.toList.length:=by simpa using h
 rw [Rj this]
 simp [Zz,List.getD,h]
section
variable {P:Program} {n:Nat} {ops:Array Oper} {B:Fr->List Res->Prop} {k:Nat} {F:Fr} {h:List Res}
theorem Vi (hk:YS n ops F k=true):k<ops.size/\WV n (Zz ops k)=true/\JJ n ops (Zz ops k)=true/\QY ops F (Zz ops k)=some true:=by
 simp only [YS,XI] at hk
 obtain ⟨h1,h2,h3,h4⟩:=hk
 refine ⟨by simpa using h1,h2,h3,?_⟩
 split at h4
 ·assumption
 ·cases h4
theorem T9 (hk:YS n ops F k=true) (ho:W8 P n (Zz ops k) F h fun F' h'=>SI P n ops B (k+1) F' h'):SI P n ops B k F h:=by
 obtain ⟨h1,h2,h3,h4⟩:=Vi hk
 show Qw P n ops B (ops.toList.drop k) F h
 rw [Z0l h1]
 exact Z9r h4 h3 ho
theorem Db {ks:List Nat} {x:AV} (hk:YS n ops F k=true) (hs:Xr P (Zz ops k) F h ks x) (H:SI P n ops B (k+1) (F.put (Zz ops k).dst x) h):SI P n ops B k F h:=
 T9 hk (hs.op (Vi hk).2.1 H)
theorem I7:∀(m:Nat) {l:List Oper} {F:Fr} {hints:List Nat} {l':List Oper} {F':Fr} {es:List (Nat × Nat)},TV P n ops h m l F hints=some (l',F',es)->l'=l.drop m
 | 0,l,F,hints,l',F',es,he=>by
  simp only [TV,XY,Prod.mk.injEq] at he
  simp [he.1]
 | m+1,[],F,hints,l',F',es,he=>by simp [TV] at he
 | m+1,o::l,F,hints,l',F',es,he=>by
  simp only [TV] at he
  split at he
  ·cases he
  ·split at he
   ·cases he
   ·simpa using I7 m he
   ·split at he
    ·cases he
    ·split at he
     ·cases he
     ·rename_i hr
      simp only [XY,Prod.mk.injEq] at he
      obtain ⟨rfl,_,_⟩:=he
      simpa using I7 m hr
theorem HT:∀{es:List (Nat × Nat)},es.map (·.1)=es.map (·.2)->∀p∈es,p.1=p.2
 | [],_,p,hp=>by simp at hp
 | e::es,h,p,hp=>by
  simp only [VX,List.cons.injEq] at h
  rcases YB.1 hp with rfl|hp
  ·exact h.1
  ·exact HT h.2 p hp
theorem Z4l (x':AV) {x:AV} (hk:YS n ops F k=true) (he:TB P (Zz ops k) F h 0=some (x,[])) (hx:Zc x x') (H:SI P n ops B (k+1) (F.put (Zz ops k).dst x') h):SI P n ops B k F h:=by
 refine Db (ks:=[]) hk ?_ H
 have hs:=BU he (by simp)
 intro n w G a hF hh
 obtain ⟨v,h1,h2⟩:=hs n w G a hF hh
 exact ⟨v,hx _ _ _ h1,by simpa using h2⟩
theorem Z4i (hk:Nat.ble ops.size k=true) (hB:B F h):SI P n ops B k F h:=by
 have:ops.toList.drop k=[]:=G3 (by simpa using WE hk)
 show Qw P n ops B (ops.toList.drop k) F h
 rw [this]
 exact Z9q hB
theorem MN (H:SI P n ops B 0 F h):Qw P n ops B ops.toList F h:=H
theorem Z4g (F':Fr) (h':List Res) (H:SI P n ops (fun F h=>UM F h F' h') k F h) (hB:B F' h') (hB':∀F h,UM F h F' h'->B F' h'->B F h):SI P n ops B k F h:=by
 intro Q w G a hF hh hk
 exact H Q w G a hF hh fun F2 h2 G2 a2 w2 b1 b2 b3 b4=>hk F2 h2 G2 a2 w2 (hB' _ _ b1 hB) b2 b3 b4
theorem Z4h {c:Code} {A:Ww} (F':Fr) (h':List Res) (H:SI P n ops (fun F h=>UM F h F' h') k F h) (hB:YF P n c A F' h'):SI P n ops (fun F h=>YF P n c A F h) k F h:=
 Z4g F' h' H hB fun _ _ hw ha=>B4 hw ha
theorem Z4m {b:Bool} (t:Nat) (hF:F.get t=.val (.bool b)) (h1:b=true->SI P n ops B k ((t,.val (.bool true))::F) h)
  (h2:b=false->SI P n ops B k ((t,.val (.bool false))::F) h):SI P n ops B k F h:=by
 cases b with
 | true=>exact Fy ⟨BW hF (Zc.refl _) (Fr.Le.refl F),[],by simp⟩ (h1 rfl)
 | false=>exact Fy ⟨BW hF (Zc.refl _) (Fr.Le.refl F),[],by simp⟩ (h2 rfl)
theorem Yi {b:Bool} {p:Prop} (h:b=true↔p) (hb:b=false):¬p:=fun q=>by have:=h.2 q;rw [hb] at this;cases this
theorem J7 {α:Type} {xs:List α} {j:Nat} (h:j<xs.length):∃x,xs[j]? = some x:=⟨_,A5 h⟩
theorem YC {a b:Bool} {p q:Prop} (h1:a=true↔p) (h2:b=true↔q):(a&&b)=true↔p/\q:=by rw [XI,h1,h2]
theorem Yn {a b:Bool} {p q:Prop} (h1:a=true↔p) (h2:b=true↔q):(a||b)=true↔p∨q:=by rw [Bool.or_eq_true,h1,h2]
theorem Yx {a:Bool} {p:Prop} (h1:a=true↔p):(!a)=true↔¬p:=by rw [<-h1];cases a<;>simp
def KP (ops:Array Oper) (F:Fr) (k:Nat):Option Int:=
 match (Zz ops k).op with
 | .binOp op _ x y _=>match F.ev x,F.ev y with
  | .val (.int .i64 a),.val (.int .i64 b)=>match op with
   | .add=>some (a+b)
   | .sub=>some (a-b)
   | .mul=>some (a*b)
   | _=>none
  | _,_=>none
 | _=>none
theorem PD {r s:Int} (ha:KP ops F k=some s) (hs:s=r) (hb:-9223372036854775808<=r/\r<=9223372036854775807) :
  Xr P (Zz ops k) F h [] (.val (.int .i64 r)):=by
 subst hs
 unfold KP at ha
 generalize hoo:Zz ops k=o at ha
 obtain ⟨dst,op,type,pos,after,guard⟩:=o
 cases op<;>simp only at ha<;>try (cases ha)
 rename_i bop xt x y yt
 split at ha
 ·rename_i a b h1 h2
  have key:∀v,CQ bop .i64 a b=some (.int .i64 (IntKind.i64.wrap v))->v=s->Xr P { dst:=dst,op:=.binOp bop xt x y yt,type:=type,pos:=pos,after:=after,guard:=guard } F h [] (.val (.int .i64 s)):=by
   intro v hv hvs
   have he:TB P { dst:=dst,op:=.binOp bop xt x y yt,type:=type,pos:=pos,after:=after,guard:=guard } F h 0=some (.val (.int .i64 (IntKind.i64.wrap v)),[]):=by
    simp only [TB,h1,h2,DB,hv]
   have:=BU he (by simp)
   rw [hvs,IntWalk.i64_in s hb] at this
   simpa using this
  split at ha
  ·cases ha;exact key (a+b) rfl rfl
  ·cases ha;exact key (a-b) rfl rfl
  ·cases ha;exact key (a*b) rfl rfl
  ·cases ha
 ·cases ha
theorem Z4e (r:Int) {s:Int} (hk:YS n ops F k=true) (ha:KP ops F k=some s) (hs:s=r) (hb:-9223372036854775808<=r/\r<=9223372036854775807)
  (H:SI P n ops B (k+1) (F.put (Zz ops k).dst (.val (.int .i64 r))) h):SI P n ops B k F h:=
 Db (ks:=[]) hk (PD ha hs hb) H
def U0:List Nat->List Res->Option (List Res × List Res)
 | [],l=>some ([],l)
 | i::is,l=>match l[i]? with
  | some r=>match U0 is (l.eraseIdx i) with
   | some (a,b)=>some (r::a,b)
   | none=>none
  | none=>none
theorem LY:∀{l:List Res} {i:Nat} {r:Res},l[i]? = some r->l.Perm (r::l.eraseIdx i)
 | [],i,r,h=>by simp at h
 | x::l,0,r,h=>by simp at h;subst h;simp
 | x::l,i+1,r,h=>by
  have:=LY (l:=l) (i:=i) (r:=r) (by simpa using h)
  simp only [List.eraseIdx_cons_succ]
  exact (List.Perm.cons x this).trans (List.Perm.swap r x _)
theorem VU:∀{is:List Nat} {l a b:List Res},U0 is l=some (a,b)->l.Perm (a++b)
 | [],l,a,b,h=>by
  simp only [U0,XY,Prod.mk.injEq] at h
  obtain ⟨rfl,rfl⟩:=h
  simp
 | i::is,l,a,b,h=>by
  simp only [U0] at h
  split at h
  ·rename_i r hr
   split at h
   ·rename_i a' b' hp
    simp only [XY,Prod.mk.injEq] at h
    obtain ⟨rfl,rfl⟩:=h
    exact (LY hr).trans (List.Perm.cons r (VU hp))
   ·cases h
  ·cases h
theorem Zdb {F':Fr} {h' d:List Res} (is:List Nat) (hF:F.Le F') (hp:U0 is h=some (h',d)):UM F h F' h':=⟨hF,d,VU hp⟩
def KS (P:Program) (ops:Array Oper) (F:Fr) (k:Nat):Option (FuncId × List AV):=
 match (Zz ops k).op with
 | .call c=>match c.callee with
  | .value (.func f)=>match P.funcs[f]? with
   | some fn=>match fn.body.isSome&&!(fn.name== "runtime.NumGoroutine") with
    | true=>some (f,c.args.toList.map F.ev)
    | false=>none
   | none=>none
  | .value t=>match F.ev t with
   | .val (.func (.func f) vs caps)=>match vs.toList,P.funcs[f]? with
    | [],some fn=>match fn.body.isSome&&!(fn.name== "runtime.NumGoroutine") with
     | true=>some (f,c.args.toList.map F.ev++caps.toList.map AV.val)
     | false=>none
    | _,_=>none
   | _=>none
  | _=>none
 | _=>none
theorem HS {K:Fr->List Res->Prop} {f:FuncId} {xs:List AV} {h1 h2:List Res} {R:AV->List Res->Prop} (hd:WV n (Zz ops k)=true) (hc:KS P ops F k=some (f,xs))
  (hp:h.Perm (h1++h2)) (H:W2 P f xs h1 R) (hK:∀r h',R r h'->K (F.put (Zz ops k).dst r) (h'++h2)):W8 P n (Zz ops k) F h K:=by
 unfold KS at hc
 generalize hoo:Zz ops k=o at hc hd hK
 obtain ⟨dst,op,type,pos,after,guard⟩:=o
 cases op<;>simp only at hc<;>try (cases hc)
 rename_i c
 obtain ⟨callee,args,tys⟩:=c
 cases callee with
 | builtin b=>cases hc
 | invoke r m=>cases hc
 | value t=>
  simp only at hc
  split at hc
  ·rename_i g hg
   cases hg
   split at hc
   ·rename_i fn hf
    split at hc
    ·rename_i hb
     simp only [XI,Bool.not_eq_true'] at hb
     simp only [XY,Prod.mk.injEq] at hc
     obtain ⟨rfl,rfl⟩:=hc
     exact Z7q _ args tys rfl hf hb.1 hb.2 rfl hd hp H hK
    ·cases hc
   ·cases hc
  ·rename_i t' hnf ht'
   cases ht'
   split at hc
   ·rename_i g vs caps hv
    split at hc
    ·rename_i fn hvs hf
     split at hc
     ·rename_i hb
      simp only [XI,Bool.not_eq_true'] at hb
      simp only [XY,Prod.mk.injEq] at hc
      obtain ⟨rfl,rfl⟩:=hc
      have:vs=#[]:=by rw [<-VN (xs:=vs),hvs]
      subst this
      exact Z7r t args tys rfl hv hf hb.1 hb.2 rfl hd hp H hK
     ·cases hc
    ·cases hc
   ·cases hc
  ·cases hc
theorem Z4f (f:FuncId) (xs:List AV) (is:List Nat) {h1 h2:List Res} {R:AV->List Res->Prop} (hk:YS n ops F k=true) (hc:KS P ops F k=some (f,xs))
  (hp:U0 is h=some (h1,h2)) (H:W2 P f xs h1 R) (hK:∀r h',R r h'->SI P n ops B (k+1) (F.put (Zz ops k).dst r) (h'++h2)):SI P n ops B k F h:=
 T9 hk (HS (Vi hk).2.1 hc (VU hp) H hK)
def Aw (P:Program) (ops:Array Oper) (F:Fr) (k:Nat):Option (AV × Int × Nat):=
 match (Zz ops k).op with
 | .indexAddr t x ix=>match P.underlying t with
  | some (.slice e)=>match P.info? e with
   | some i=>match F.ev ix with
    | .val (.int _ j)=>some (F.ev x,j,i.size)
    | _=>none
   | none=>none
  | _=>none
 | _=>none
theorem AN {es:List AV} {hv:Option Value} {j:Int} {sz:Nat} {y:AV} (hi:Aw P ops F k=some (.sl es hv,j,sz)) (h0:0<=j) (hget:es[j.toNat]? = some y)
  (hy:y.leaves.length=sz):Xr P (Zz ops k) F h [] (.rp y.leaves):=by
 unfold Aw at hi
 generalize hoo:Zz ops k=o at hi
 obtain ⟨dst,op,type,pos,after,guard⟩:=o
 cases op<;>simp only at hi<;>try (cases hi)
 rename_i t x ix
 split at hi
 ·rename_i e ht
  split at hi
  ·rename_i i hinfo
   split at hi
   ·rename_i ik j' hix
    simp only [XY,Prod.mk.injEq] at hi
    obtain ⟨h1,rfl,rfl⟩:=hi
    exact Zbv t x ix rfl ht hinfo rfl h1 hix h0 hget hy
   ·cases hi
  ·cases hi
 ·cases hi
theorem PF {b off len cap:Nat} {j:Int} {sz:Nat} (hi:Aw P ops F k=some (.val (.slice (some ⟨b,off,none⟩) len cap),j,sz)) (h0:0<=j) (hlt:j<len) :
  Xr P (Zz ops k) F h [] (.val (.pointer (some ⟨b,off+j.toNat * sz,none⟩))):=by
 unfold Aw at hi
 generalize hoo:Zz ops k=o at hi
 obtain ⟨dst,op,type,pos,after,guard⟩:=o
 cases op<;>simp only at hi<;>try (cases hi)
 rename_i t x ix
 split at hi
 ·rename_i e ht
  split at hi
  ·rename_i i hinfo
   split at hi
   ·rename_i ik j' hix
    simp only [XY,Prod.mk.injEq] at hi
    obtain ⟨h1,rfl,rfl⟩:=hi
    exact Zbw t x ix rfl ht hinfo rfl h1 hix h0 hlt
   ·cases hi
  ·cases hi
 ·cases hi
def Ig (P:Program) (ops:Array Oper) (F:Fr) (k:Nat) (len:Int):Option (AV × Int × Int × Nat):=
 match (Zz ops k).op with
 | .slice t x lo hi none=>match P.underlying t with
  | some (.slice e)=>match P.info? e with
   | some i=>match AC F lo 0,AC F hi len with
    | some l,some m=>some (F.ev x,l,m,i.size)
    | _,_=>none
   | none=>none
  | _=>none
 | _=>none
theorem Zc2 {es:List AV} {hv:Option Value} {l m:Int} {sz:Nat} (hi:Ig P ops F k es.length=some (.sl es hv,l,m,sz)) (h0:0<=l) (h1:l<=m) (h2:m<=es.length)
  (hes:∀y∈es,y.leaves.length=sz):Xr P (Zz ops k) F h [] (.sl ((es.take m.toNat).drop l.toNat) none):=by
 unfold Ig at hi
 generalize hoo:Zz ops k=o at hi
 obtain ⟨dst,op,type,pos,after,guard⟩:=o
 cases op<;>simp only at hi<;>try (cases hi)
 rename_i t x lo hi' mx
 cases mx with
 | some _=>simp at hi
 | none=>
  simp only at hi
  split at hi
  ·rename_i e ht
   split at hi
   ·rename_i i hinfo
    split at hi
    ·rename_i l' m' hl hm
     simp only [XY,Prod.mk.injEq] at hi
     obtain ⟨hx,rfl,rfl,rfl⟩:=hi
     exact Zc1 t x lo hi' rfl ht hinfo rfl hx hl hm h0 h1 h2 hes
    ·cases hi
   ·cases hi
  ·cases hi
theorem KD {es es':List AV} {hv:Option Value} {l m:Int} {sz:Nat} (hi:Ig P ops F k es.length=some (.sl es hv,l,m,sz)) (h0:0<=l) (h1:l<=m) (h2:m<=es.length)
  (hes:∀y∈es,y.leaves.length=sz) (he:(es.take m.toNat).drop l.toNat=es'):Xr P (Zz ops k) F h [] (.sl es' none):=he▸Zc2 hi h0 h1 h2 hes
def U3 (P:Program) (ops:Array Oper) (F:Fr) (k:Nat):Option (AV × AV × Nat):=
 match (Zz ops k).op with
 | .call c=>match c.callee,c.args.toList,c.argTypes.toList with
  | .builtin .append,[s,x],[t,t']=>match Nat.beq t t',P.underlying t with
   | true,some (.slice e)=>match P.info? e with
    | some i=>match i.zero with
     | some z=>match Nat.beq z.cells.size i.size&&Nat.ble i.bytes 32768 with
      | true=>some (F.ev s,F.ev x,i.size)
      | false=>none
     | none=>none
    | none=>none
   | _,_=>none
  | _,_,_=>none
 | _=>none
theorem NY {K:Fr->List Res->Prop} {es xs:List AV} {hv:Value} {hx:Option Value} {sz:Nat} {h1 h2:List Res} (hd:WV n (Zz ops k)=true)
  (ha:U3 P ops F k=some (.sl es (some hv),.sl xs hx,sz)) (hes:∀y∈es,y.leaves.length=sz) (hxs:∀y∈xs,y.leaves.length=sz) (hone:(Ze xs).all AV.one=true)
  (hbound:es.length+xs.length<=4294967296)
  (hK:∀v',(v'.ownBlock=hv.ownBlock∨∃b,v'.ownBlock=some b/\A9 (h1++.tail hv sz::h2) b)->K (F.put (Zz ops k).dst (.sl (es++xs) (some v'))) (h1++.tail v' sz::h2)) :
  W8 P n (Zz ops k) F (h1++.tail hv sz::h2) K:=by
 unfold U3 at ha
 generalize hoo:Zz ops k=o at ha hd hK
 obtain ⟨dst,op,type,pos,after,guard⟩:=o
 cases op<;>simp only at ha<;>try (cases ha)
 rename_i c
 obtain ⟨callee,args,tys⟩:=c
 simp only at ha
 split at ha
 ·rename_i s x t t' hargs htys
  split at ha
  ·rename_i e htt ht
   have:=U2 htt
   subst this
   split at ha
   ·rename_i i hinfo
    split at ha
    ·rename_i z hz
     split at ha
     ·rename_i hb
      simp only [XI] at hb
      simp only [XY,Prod.mk.injEq] at ha
      obtain ⟨h3,h4,rfl⟩:=ha
      have e1:args=#[s,x]:=by rw [<-VN (xs:=args),hargs]
      have e2:tys=#[t,t]:=by rw [<-VN (xs:=tys),htys]
      subst e1;subst e2
      exact Z7o s x t rfl ht hinfo rfl (by rw [hz];simp [U2 hb.1]) hb.2 h3 h4 hd hes hxs hone hbound hK
     ·cases ha
    ·cases ha
   ·cases ha
  ·cases ha
 ·cases ha
theorem W8.perm {K:Fr->List Res->Prop} {o:Oper} {h':List Res} (hp:h.Perm h') (H:W8 P n o F h' K):W8 P n o F h K:=by
 intro Q w G a hF hh
 refine Oper.wp_mono ?_ (H Q w G a hF (hh.perm hp))
 intro a' w' ⟨F',h2,G',b1,b2,b3,b4⟩
 exact ⟨F',h2,G',b1,b2,b3,b4.perm hp.symm (TJ _)⟩
theorem Z4d (j:Nat) (es':List AV) {es xs:List AV} {hv:Value} {hx:Option Value} {sz:Nat} {h2:List Res} (hk:YS n ops F k=true)
  (ha:U3 P ops F k=some (.sl es (some hv),.sl xs hx,sz)) (hp:U0 [j] h=some ([.tail hv sz],h2)) (hes:∀y∈es,y.leaves.length=sz) (hxs:∀y∈xs,y.leaves.length=sz)
  (hone:(Ze xs).all AV.one=true) (hbound:es.length+xs.length<=4294967296) (he:es++xs=es')
  (hK:∀v',SI P n ops B (k+1) (F.put (Zz ops k).dst (.sl es' (some v'))) (.tail v' sz::h2)):SI P n ops B k F h:=
 T9 hk (W8.perm (VU hp) (NY (h1:=[]) (Vi hk).2.1 ha hes hxs hone hbound fun v' _=>by rw [he];exact hK v'))
theorem Iu {w:World} {G:Y6} {sz:Nat} (hh:Yq w G h):Yq w G (.tail (.slice none 0 0) sz::h)/\YP w G h w G (.tail (.slice none 0 0) sz::h):=
 ⟨⟨fun r hr=>by
   rcases YB.1 hr with rfl|hr
   ·exact .inl rfl
   ·exact hh.ok r hr,Wv.2 ⟨fun _ _ _ _ hf=>hf.elim,hh.apart⟩,fun r hr b o hf hg=>by
   rcases YB.1 hr with rfl|hr
   ·exact hf.elim
   ·exact hh.prot r hr b o hf hg,hh.lt⟩,
  ⟨rfl,rfl,rfl,YR _,fun _ _ h=>h,fun _ _=>.inl rfl,fun _ _ _ h=>.inl h,fun b o _ ⟨r,hr,hf⟩=>by
   rcases YB.1 hr with rfl|hr
   ·exact hf.elim
   ·exact ⟨r,hr,hf⟩⟩⟩
theorem B3 {c:Code} {A:Ww} (sz:Nat) (H:YF P n c A F (.tail (.slice none 0 0) sz::h)):YF P n c A F h:=by
 intro w G a hF hh
 obtain ⟨h1,h2⟩:=Iu (sz:=sz) hh
 exact wp_mono (H w G a hF h1) fun e a' w' hc=>hc.trans h2
end
section
variable {P:Program} {n:Nat} {ops:Array Oper} {B:Fr->List Res->Prop} {k:Nat} {F:Fr} {h:List Res}
def BG (P:Program) (ops:Array Oper) (F:Fr) (k:Nat):Option (List AV):=
 match (Zz ops k).op with
 | .alloc t=>Cr P t
 | .box _ x=>match (F.ev x).fit with
  | true=>some (F.ev x).leaves
  | false=>none
 | _=>none
theorem NX {K:Fr->List Res->Prop} {ls:List AV} (hd:WV n (Zz ops k)=true) (ha:BG P ops F k=some ls)
  (hK:∀b,A9 h b->K (F.put (Zz ops k).dst (.val (.pointer (some ⟨b,0,none⟩)))) (.obj b ls::h)):W8 P n (Zz ops k) F h K:=by
 unfold BG at ha
 generalize hoo:Zz ops k=o at ha hd hK
 obtain ⟨dst,op,type,pos,after,guard⟩:=o
 cases op<;>simp only at ha<;>try (cases ha)
 case alloc t=>exact Z7m t rfl ha hd hK
 case box t x=>
  split at ha
  ·rename_i hf
   cases ha
   exact Z7p t x rfl rfl hf hd hK
  ·cases ha
def storeAt (P:Program) (ops:Array Oper) (F:Fr) (k:Nat):Option (Nat × Nat × List AV):=
 match (Zz ops k).op with
 | .store t x y=>match F.ev x,(Zz ops k).dst,P.info? t with
  | .val (.pointer (some ⟨b,o,none⟩)),none,some i=>match Nat.beq i.size (F.ev y).leaves.length&&((F.ev y).fit&&(F.ev y).leaves.all AV.one) with
   | true=>some (b,o,(F.ev y).leaves)
   | false=>none
  | _,_,_=>none
 | _=>none
theorem O4 {K:Fr->List Res->Prop} {b o:Nat} {xs ls:List AV} {h2:List Res} (hs:storeAt P ops F k=some (b,o,xs)) (hle:Nat.ble (o+xs.length) ls.length=true)
  (hK:K F (.obj b (ls.take o++xs++ls.drop (o+xs.length))::h2)):W8 P n (Zz ops k) F (.obj b ls::h2) K:=by
 unfold storeAt at hs
 generalize hoo:Zz ops k=q at hs
 obtain ⟨dst,op,type,pos,after,guard⟩:=q
 cases op<;>simp only at hs<;>try (cases hs)
 rename_i t x y
 split at hs
 ·rename_i b' o' i hx hi
  split at hs
  ·rename_i hc
   simp only [XI] at hc
   simp only [XY,Prod.mk.injEq] at hs
   obtain ⟨rfl,rfl,rfl⟩:=hs
   exact Z7y (h1:=[]) t x y rfl rfl hx rfl (by simp only [XI];exact hc.2) (by rw [hi];simp [U2 hc.1]) hle hK
  ·cases hs
 ·cases hs
def UY (P:Program) (ops:Array Oper) (F:Fr) (k:Nat):Option (List AV × Nat × Nat):=
 match (Zz ops k).op with
 | .buildSlice t len parts=>match P.underlying t with
  | some (.slice e)=>match P.info? e with
   | some i=>match i.zero.isSome&&Nat.ble (len*i.size) (2 ^ 24) with
    | true=>match JF (fun j=>some (j*i.size,i.size)) (List.replicate (len*i.size) .any) (parts.toList.map fun p=>(p.1,F.ev p.2)) with
     | some ls=>some (ls,len,i.size)
     | none=>none
    | false=>none
   | none=>none
  | _=>none
 | _=>none
theorem NZ {K:Fr->List Res->Prop} {es:List AV} {len sz:Nat} (hd:WV n (Zz ops k)=true) (ha:UY P ops F k=some (Ze es,len,sz)) (hlen:es.length=len) (hall:Ju es sz=true)
  (hK:∀b,A9 h b->K (F.put (Zz ops k).dst (.sl es (some (.slice (some ⟨b,0,none⟩) len len)))) (.tail (.slice (some ⟨b,0,none⟩) len len) sz::h)):W8 P n (Zz ops k) F h K:=by
 unfold UY at ha
 generalize hoo:Zz ops k=q at ha hd hK
 obtain ⟨dst,op,type,pos,after,guard⟩:=q
 cases op<;>simp only at ha<;>try (cases ha)
 rename_i t ln parts
 split at ha
 ·rename_i e ht
  split at ha
  ·rename_i i hi
   split at ha
   ·rename_i hc
    simp only [XI] at hc
    split at ha
    ·rename_i ls hf
     simp only [XY,Prod.mk.injEq] at ha
     obtain ⟨rfl,rfl,rfl⟩:=ha
     exact Z7s t _ parts rfl ht hi rfl hc.1 hc.2 hf hlen hall hd hK
    ·cases ha
   ·cases ha
  ·cases ha
 ·cases ha
theorem Z4c (ls:List AV) (hk:YS n ops F k=true) (ha:BG P ops F k=some ls)
  (hK:∀b,SI P n ops B (k+1) (F.put (Zz ops k).dst (.val (.pointer (some ⟨b,0,none⟩)))) (.obj b ls::h)):SI P n ops B k F h:=
 T9 hk (NX (Vi hk).2.1 ha fun b _=>hK b)
theorem Z4n (j:Nat) {b o:Nat} {xs ls:List AV} {h2:List Res} (ls':List AV) (hk:YS n ops F k=true) (hs:storeAt P ops F k=some (b,o,xs)) (hp:U0 [j] h=some ([.obj b ls],h2))
  (hle:Nat.ble (o+xs.length) ls.length=true) (he:ls.take o++xs++ls.drop (o+xs.length)=ls') (H:SI P n ops B (k+1) F (.obj b ls'::h2)):SI P n ops B k F h:=
 T9 hk (W8.perm (VU hp) (O4 hs hle (by rw [he];exact H)))
theorem Z4j (es:List AV) {len sz:Nat} (hk:YS n ops F k=true) (ha:UY P ops F k=some (Ze es,len,sz)) (hlen:es.length=len) (hall:Ju es sz=true)
  (hK:∀v,SI P n ops B (k+1) (F.put (Zz ops k).dst (.sl es (some v))) (.tail v sz::h)):SI P n ops B k F h:=
 T9 hk (NZ (Vi hk).2.1 ha hlen hall fun _ _=>hK _)
variable {T:List (Nat × List Nat)} {fuel fuel':Nat} {done:List Nat}
def Dn (P:Program) (n:Nat) (ops:Array Oper) (h:List Res) (is done:List Nat) (F:Fr) (hints:List Nat):List (Nat × List Nat):=
 match Ka P n ops h is done F hints with
 | some (_,es)=>Do es
 | none=>[]
theorem O8:∀{es:List (Nat × List (Nat × Nat))},es.flatMap (fun e=>e.2.map (·.1))=es.flatMap (fun e=>e.2.map (·.2))->∀e∈es,∀p∈e.2,p.1=p.2
 | [],_,e,he=>by simp at he
 | x::es,hq,e,he=>by
  simp only [A4] at hq
  have h1:=List.append_inj hq (by simp)
  rcases YB.1 he with rfl|he
  ·exact HT h1.1
  ·exact O8 h1.2 e he
def VB (ops:Array Oper) (i:Nat) (T:List (Nat × List Nat)):List Nat:=(T.filter fun t=>!WB ops i t.1).flatMap (·.2)
theorem Z7k {i:Nat} {h2:List Res} (js bs:List Nat) (h1:VB ops i T=bs) (h3:js.map (fun j=>(Wj h2)[j]?)=bs.map some) :
  ∀t∈T,WB ops i t.1=true∨∀b∈t.2,b∈Wj h2:=by
 have hall:∀(js bs:List Nat),js.map (fun j=>(Wj h2)[j]?)=bs.map some->∀b∈bs,b∈Wj h2:=by
  intro js
  induction js with
  | nil=>intro bs hb b hm;cases bs with
   | nil=>simp at hm
   | cons _ _=>simp at hb
  | cons j js ih=>intro bs hb b hm;cases bs with
   | nil=>simp at hm
   | cons c bs=>
    simp only [VX,List.cons.injEq] at hb
    rcases YB.1 hm with rfl|hm
    ·exact Y0 hb.1
    ·exact ih bs hb.2 b hm
 intro t ht
 cases hq:WB ops i t.1 with
 | true=>exact .inl rfl
 | false=>
  refine .inr fun b hb=>hall js bs h3 b ?_
  rw [<-h1]
  exact List.mem_flatMap.2 ⟨t,List.mem_filter.2 ⟨ht,by simp [hq]⟩,hb⟩
theorem NV {i:Nat} (hi:i<ops.size):ops[i]? = some (Zz ops i):=by
 simp [Zz,List.getD,hi]
theorem QB {i:Nat} (is js bs:List Nat) {h1 h2:List Res} (hk:YS n ops F i=true) (hp:U0 is h=some (h1,h2)) (ho:VB ops i T=bs) (hj:js.map (fun j=>(Wj h2)[j]?)=bs.map some)
  (H:W8 P n (Zz ops i) F h1 fun F' h1'=>YM P n ops B (T.filter fun t=>!WB ops i t.1) fuel (done++[i]) F' (h1'++h2)):V4 P n ops B T fuel done F h i:=by
 obtain ⟨q1,_,q3,q4⟩:=Vi hk
 exact ⟨_,h1,h2,NV q1,q4,q3,VU hp,Z7k js bs ho hj,H⟩
theorem Z04 (i:Nat) (f:FuncId) (xs:List AV) (is js bs:List Nat) {h1 h2:List Res} {R:AV->List Res->Prop} (hk:YS n ops F i=true) (hc:KS P ops F i=some (f,xs))
  (hp:U0 is h=some (h1,h2)) (ho:VB ops i T=bs) (hj:js.map (fun j=>(Wj h2)[j]?)=bs.map some) (H:W2 P f xs h1 R)
  (hK:∀r h',R r h'->YM P n ops B (T.filter fun t=>!WB ops i t.1) fuel (done++[i]) (F.put (Zz ops i).dst r) (h'++h2)):V4 P n ops B T fuel done F h i:=
 QB is js bs hk hp ho hj (HS (h2:=[]) (Vi hk).2.1 hc (by simp) H fun r h' hr=>by simpa using hK r h' hr)
theorem Z01 (i:Nat) (js bs:List Nat) (ls:List AV) (hk:YS n ops F i=true) (ha:BG P ops F i=some ls) (ho:VB ops i T=bs) (hj:js.map (fun j=>(Wj h)[j]?)=bs.map some)
  (hK:∀b,YM P n ops B (T.filter fun t=>!WB ops i t.1) fuel (done++[i]) (F.put (Zz ops i).dst (.val (.pointer (some ⟨b,0,none⟩)))) (.obj b ls::h)):V4 P n ops B T fuel done F h i:=
 QB (h1:=[]) (h2:=h) [] js bs hk rfl ho hj (NX (Vi hk).2.1 ha fun b _=>hK b)
theorem Z08 (i:Nat) (js bs:List Nat) (es:List AV) {len sz:Nat} (hk:YS n ops F i=true) (ha:UY P ops F i=some (Ze es,len,sz)) (hlen:es.length=len) (hall:Ju es sz=true)
  (ho:VB ops i T=bs) (hj:js.map (fun j=>(Wj h)[j]?)=bs.map some)
  (hK:∀v,YM P n ops B (T.filter fun t=>!WB ops i t.1) fuel (done++[i]) (F.put (Zz ops i).dst (.sl es (some v))) (.tail v sz::h)):V4 P n ops B T fuel done F h i:=
 QB (h1:=[]) (h2:=h) [] js bs hk rfl ho hj (NZ (Vi hk).2.1 ha hlen hall fun _ _=>hK _)
theorem Z02 (i j:Nat) (js bs:List Nat) (es':List AV) {es xs:List AV} {hv:Value} {hx:Option Value} {sz:Nat} {h2:List Res} (hk:YS n ops F i=true)
  (ha:U3 P ops F i=some (.sl es (some hv),.sl xs hx,sz)) (hp:U0 [j] h=some ([.tail hv sz],h2)) (hes:∀y∈es,y.leaves.length=sz) (hxs:∀y∈xs,y.leaves.length=sz)
  (hone:(Ze xs).all AV.one=true) (hbound:es.length+xs.length<=4294967296) (he:es++xs=es') (ho:VB ops i T=bs) (hj:js.map (fun j=>(Wj h2)[j]?)=bs.map some)
  (hK:∀v',YM P n ops B (T.filter fun t=>!WB ops i t.1) fuel (done++[i]) (F.put (Zz ops i).dst (.sl es' (some v'))) (.tail v' sz::h2)):V4 P n ops B T fuel done F h i:=
 QB [j] js bs hk hp ho hj (NY (h1:=[]) (h2:=[]) (Vi hk).2.1 ha hes hxs hone hbound fun v' _=>by rw [he];exact hK v')
theorem Z0c (i j:Nat) (js bs:List Nat) {b o:Nat} {xs ls:List AV} {h2:List Res} (ls':List AV) (hk:YS n ops F i=true) (hs:storeAt P ops F i=some (b,o,xs))
  (hp:U0 [j] h=some ([.obj b ls],h2)) (hle:Nat.ble (o+xs.length) ls.length=true) (he:ls.take o++xs++ls.drop (o+xs.length)=ls') (ho:VB ops i T=bs)
  (hj:js.map (fun j=>(Wj h2)[j]?)=bs.map some) (H:YM P n ops B (T.filter fun t=>!WB ops i t.1) fuel (done++[i]) F (.obj b ls'::h2)):V4 P n ops B T fuel done F h i:=
 QB [j] js bs hk hp ho hj (O4 (h2:=[]) hs hle (by rw [he];exact H))
theorem Ef (i:Nat) {ks:List Nat} {x:AV} (hs:Region.noSelect ops=true) (hk:YS n ops F i=true)
  (hf:Region.free .any ops (Wt ops done) i=true) (hr:(Region.ready .any ops (Wt ops done)).contains i=true) (hx:Xr P (Zz ops i) F h ks x)
  (H:YM P n ops B ((i,ks)::T) fuel (done++[i]) (F.put (Zz ops i).dst x) h):YM P n ops B T (fuel+1) done F h:=by
 obtain ⟨q1,q2,q3,q4⟩:=Vi hk
 exact GF hs (NV q1) q2 q3 hf hr (.inr ⟨q4,hx⟩) H
theorem Z09 (i:Nat) (x':AV) {x:AV} (hs:Region.noSelect ops=true) (hk:YS n ops F i=true)
  (hf:Region.free .any ops (Wt ops done) i=true) (hr:(Region.ready .any ops (Wt ops done)).contains i=true) (he:TB P (Zz ops i) F h 0=some (x,[])) (hx:Zc x x')
  (H:YM P n ops B ((i,[])::T) fuel (done++[i]) (F.put (Zz ops i).dst x') h):YM P n ops B T (fuel+1) done F h:=by
 refine Ef i (ks:=[]) hs hk hf hr ?_ H
 have hst:=BU he (by simp)
 intro n w G a hF hh
 obtain ⟨v,h1,h2⟩:=hst n w G a hF hh
 exact ⟨v,hx _ _ _ h1,by simpa using h2⟩
theorem Z03 (i:Nat) (r:Int) {s:Int} (hns:Region.noSelect ops=true) (hk:YS n ops F i=true)
  (hf:Region.free .any ops (Wt ops done) i=true) (hr:(Region.ready .any ops (Wt ops done)).contains i=true) (ha:KP ops F i=some s) (hs:s=r)
  (hb:-9223372036854775808<=r/\r<=9223372036854775807)
  (H:YM P n ops B ((i,[])::T) fuel (done++[i]) (F.put (Zz ops i).dst (.val (.int .i64 r))) h):YM P n ops B T (fuel+1) done F h:=
 Ef i (ks:=[]) hns hk hf hr (PD ha hs hb) H
theorem Z0b {b:Bool} (t:Nat) (hF:F.get t=.val (.bool b)) (h1:b=true->YM P n ops B T fuel done ((t,.val (.bool true))::F) h)
  (h2:b=false->YM P n ops B T fuel done ((t,.val (.bool false))::F) h):YM P n ops B T fuel done F h:=by
 cases b with
 | true=>exact GG (BW hF (Zc.refl _) (Fr.Le.refl F)) (h1 rfl)
 | false=>exact GG (BW hF (Zc.refl _) (Fr.Le.refl F)) (h2 rfl)
theorem Z06 {c:Code} {A:Ww} (F':Fr) (h':List Res) (H:YM P n ops (fun F h=>UM F h F' h') T fuel done F h) (hB:YF P n c A F' h'):YM P n ops (fun F h=>YF P n c A F h) T fuel done F h:=by
 intro Q w G a SL hF hh hQ hcl hcov hk
 exact H Q w G a SL hF hh hQ hcl hcov fun F2 h2 G2 a2 w2 b1 b2 b3 b4=>hk F2 h2 G2 a2 w2 (B4 b1 hB) b2 b3 b4
end
end Go.Abs
section
namespace Go.Abs
structure Y1 where
 fields:LI
structure Zd where
 frm:Int
 to_:Int
 cons:List Y1
mutual
inductive Z3 where
 | mk (op num into:Int) (args:LI) (kids:List Z5)
inductive Z5 where
 | mk (steps:List Z3) (result:Int)
end
namespace Z3
def op:Z3->Int|.mk a _ _ _ _=>a
def num:Z3->Int|.mk _ a _ _ _=>a
def into:Z3->Int|.mk _ _ a _ _=>a
def args:Z3->LI|.mk _ _ _ a _=>a
def kids:Z3->List Z5|.mk _ _ _ _ a=>a
end Z3
namespace Z5
def steps:Z5->List Z3|.mk a _=>a
def result:Z5->Int|.mk _ a=>a
end Z5
structure ZX where
 params:LI
 lent:LI
 result:Int
 body:Z5
structure Zq where
 decls:List Zd
 routines:List ZX
def Z7 (xs:LI):List AV:=xs.map AV.i
def W0 (xs:List LI):List AV:=xs.map fun l=>.sl (Z7 l) none
abbrev BF (c:Y1):AV:=.agg [.sl (Z7 c.fields) none]
def Xs (cs:List Y1):List AV:=cs.map BF
abbrev Js (d:Zd):AV:=.agg [.i d.frm,.i d.to_,.sl (Xs d.cons) none]
def Yo (ds:List Zd):List AV:=ds.map Js
mutual
def GW:Z3->AV
 | .mk op num into args kids=>.agg [.i op,.i num,.i into,.sl (Z7 args) none,.sl (Yt kids) none]
def GJ:Z5->AV
 | .mk steps result=>.agg [.sl (Zv steps) none,.i result]
def Zv:List Z3->List AV
 | []=>[]
 | s::ss=>GW s::Zv ss
def Yt:List Z5->List AV
 | []=>[]
 | b::bs=>GJ b::Yt bs
end
abbrev Ys (s:Z3):AV:=.agg [.i s.op,.i s.num,.i s.into,.sl (Z7 s.args) none,.sl (Yt s.kids) none]
abbrev ZE (b:Z5):AV:=.agg [.sl (Zv b.steps) none,.i b.result]
abbrev Q3 (r:ZX):AV:=.agg [.sl (Z7 r.params) none,.sl (Z7 r.lent) none,.i r.result,.sl (Zv r.body.steps) none,.i r.body.result]
def Yr (rs:List ZX):List AV:=rs.map Q3
abbrev Yb (n:Zq):AV:=.agg [.sl (Yo n.decls) none,.sl (Yr n.routines) none]
theorem Z16 (s:Z3):GW s=Ys s:=by cases s;rw [GW];rfl
theorem Z0o (b:Z5):GJ b=ZE b:=by cases b;rw [GJ];rfl
theorem WX:∀xs:List Z3,Zv xs=xs.map Ys
 | []=>by rw [Zv];rfl
 | s::ss=>by rw [Zv,WX ss,Z16];rfl
theorem U8:∀xs:List Z5,Yt xs=xs.map ZE
 | []=>by rw [Yt];rfl
 | b::bs=>by rw [Yt,U8 bs,Z0o];rfl
section
theorem ZY {xs:LI} {j:Nat} {x:Int} (h:xs[j]? = some x):(Z7 xs)[j]? = some (.i x):=by simp [Z7,h]
theorem Em {xs:List LI} {j:Nat} {x:LI} (h:xs[j]? = some x):(W0 xs)[j]? = some (.sl (Z7 x) none):=by simp [W0,h]
theorem Jy {xs:List Y1} {j:Nat} {x:Y1} (h:xs[j]? = some x):(Xs xs)[j]? = some (BF x):=by simp [Xs,h]
theorem Wo {xs:List Zd} {j:Nat} {x:Zd} (h:xs[j]? = some x):(Yo xs)[j]? = some (Js x):=by simp [Yo,h]
theorem W3 {xs:List Z3} {j:Nat} {x:Z3} (h:xs[j]? = some x):(Zv xs)[j]? = some (Ys x):=by simp [WX,h]
theorem VR {xs:List Z5} {j:Nat} {x:Z5} (h:xs[j]? = some x):(Yt xs)[j]? = some (ZE x):=by simp [U8,h]
theorem Wi {xs:List ZX} {j:Nat} {x:ZX} (h:xs[j]? = some x):(Yr xs)[j]? = some (Q3 x):=by simp [Yr,h]
@[simp] theorem Y9 (xs:LI):(Z7 xs).length=xs.length:=by simp [Z7]
@[simp] theorem En (xs:List LI):(W0 xs).length=xs.length:=by simp [W0]
@[simp] theorem VF (xs:List Y1):(Xs xs).length=xs.length:=by simp [Xs]
@[simp] theorem Vu (xs:List Zd):(Yo xs).length=xs.length:=by simp [Yo]
@[simp] theorem WW (xs:List Z3):(Zv xs).length=xs.length:=by simp [WX]
@[simp] theorem Vh (xs:List Z5):(Yt xs).length=xs.length:=by simp [U8]
@[simp] theorem Vm (xs:List ZX):(Yr xs).length=xs.length:=by simp [Yr]
theorem XQ (xs ys:LI):Z7 (xs++ys)=Z7 xs++Z7 ys:=by simp [Z7]
theorem GU (xs ys:List LI):W0 (xs++ys)=W0 xs++W0 ys:=by simp [W0]
theorem Z0t (xs ys:List Zd):Yo (xs++ys)=Yo xs++Yo ys:=by simp [Yo]
theorem Wp (xs ys:List Z3):Zv (xs++ys)=Zv xs++Zv ys:=by simp [WX]
theorem Kq (xs ys:List Z5):Yt (xs++ys)=Yt xs++Yt ys:=by simp [U8]
theorem JA (xs ys:List ZX):Yr (xs++ys)=Yr xs++Yr ys:=by simp [Yr]
theorem J0 (xs:LI) (n:Nat):(Z7 xs).take n=Z7 (xs.take n):=by simp [Z7]
theorem Jz (xs:LI) (n:Nat):(Z7 xs).drop n=Z7 (xs.drop n):=by simp [Z7]
theorem GR (xs:List Y1) (n:Nat):(Xs xs).take n=Xs (xs.take n):=by simp [Xs]
theorem GQ (xs:List Y1) (n:Nat):(Xs xs).drop n=Xs (xs.drop n):=by simp [Xs]
theorem BP (xs:List Zd) (n:Nat):(Yo xs).take n=Yo (xs.take n):=by simp [Yo]
theorem BO (xs:List Zd) (n:Nat):(Yo xs).drop n=Yo (xs.drop n):=by simp [Yo]
theorem JC (xs:List Z3) (n:Nat):(Zv xs).take n=Zv (xs.take n):=by simp [WX]
theorem JB (xs:List Z3) (n:Nat):(Zv xs).drop n=Zv (xs.drop n):=by simp [WX]
theorem GM (xs:List Z5) (n:Nat):(Yt xs).take n=Yt (xs.take n):=by simp [U8]
theorem GK (xs:List Z5) (n:Nat):(Yt xs).drop n=Yt (xs.drop n):=by simp [U8]
theorem Yu (xs:LI):∀y∈Z7 xs,y.leaves.length=1:=by intro y hy;simp only [Z7,Xy] at hy;obtain ⟨x,_,rfl⟩:=hy;rfl
theorem Ao (xs:List LI):∀y∈W0 xs,y.leaves.length=1:=by intro y hy;simp only [W0,Xy] at hy;obtain ⟨x,_,rfl⟩:=hy;rfl
theorem CK (xs:List Y1):∀y∈Xs xs,y.leaves.length=1:=by intro y hy;simp only [Xs,Xy] at hy;obtain ⟨x,_,rfl⟩:=hy;rfl
theorem QC (xs:List Zd):∀y∈Yo xs,y.leaves.length=3:=by intro y hy;simp only [Yo,Xy] at hy;obtain ⟨x,_,rfl⟩:=hy;rfl
theorem YZ (xs:List Z3):∀y∈Zv xs,y.leaves.length=5:=by intro y hy;simp only [WX,Xy] at hy;obtain ⟨x,_,rfl⟩:=hy;rfl
theorem UO (xs:List Z5):∀y∈Yt xs,y.leaves.length=2:=by intro y hy;simp only [U8,Xy] at hy;obtain ⟨x,_,rfl⟩:=hy;rfl
theorem VH (xs:List ZX):∀y∈Yr xs,y.leaves.length=5:=by intro y hy;simp only [Yr,Xy] at hy;obtain ⟨x,_,rfl⟩:=hy;rfl
theorem J4 {es:List AV} (h:∀y∈es,y.leaves.all AV.one=true):(Ze es).all AV.one=true:=by
 simp only [Ze,List.all_flatMap,KJ]
 intro y hy
 exact KJ.1 (h y hy)
theorem XR (xs:LI):(Ze (Z7 xs)).all AV.one=true:=J4 fun y hy=>by simp only [Z7,Xy] at hy;obtain ⟨x,_,rfl⟩:=hy;rfl
theorem Eo (xs:List LI):(Ze (W0 xs)).all AV.one=true:=J4 fun y hy=>by simp only [W0,Xy] at hy;obtain ⟨x,_,rfl⟩:=hy;rfl
theorem Z0s (xs:List Y1):(Ze (Xs xs)).all AV.one=true:=J4 fun y hy=>by simp only [Xs,Xy] at hy;obtain ⟨x,_,rfl⟩:=hy;rfl
theorem Ej (xs:List Zd):(Ze (Yo xs)).all AV.one=true:=J4 fun y hy=>by simp only [Yo,Xy] at hy;obtain ⟨x,_,rfl⟩:=hy;rfl
theorem Vv (xs:List Z3):(Ze (Zv xs)).all AV.one=true:=J4 fun y hy=>by simp only [WX,Xy] at hy;obtain ⟨x,_,rfl⟩:=hy;rfl
theorem Ei (xs:List Z5):(Ze (Yt xs)).all AV.one=true:=J4 fun y hy=>by simp only [U8,Xy] at hy;obtain ⟨x,_,rfl⟩:=hy;rfl
theorem J1 (xs:List ZX):(Ze (Yr xs)).all AV.one=true:=J4 fun y hy=>by simp only [Yr,Xy] at hy;obtain ⟨x,_,rfl⟩:=hy;rfl
end
end Go.Abs
end
namespace Go.Abs
def Q1 (v:Value):Nat:=v.ownBlock.getD 0
def Ji (v:Value) (m:Nat):Value:=
 match v with
 | .slice a _ cap=>.slice a m cap
 | v=>v
theorem P7 {α:Type} (l:List α) (n:Nat) (x:α) (h:n<l.length):l.take n++[x]++l.drop (n+1)=l.set n x:=by
 rw [DT,Zk h];simp
theorem Yq.vwrite {w:World} {G:Y6} {h2:List Res} {g cap n':Nat} {ls ls':List AV} (hh:Yq w G (.vec (.slice (some ⟨g,0,none⟩) ls.length cap) ls::h2)) {cs cs':Array Value} {e:TypeId}
  (hb:w.heap[g]? = some (.cells cs e (0,0))) (Xk:cs'.size=cs.size) (hn:n'=ls'.length) (hle:ls'.length<=cap) (hcap:cs.size=cap) (hls:YI w G ls' (cs'.toList.take ls'.length)) :
  Yq (w.setRow g cs') G (.vec (.slice (some ⟨g,0,none⟩) n' cap) ls'::h2) /\
   YP w G (.vec (.slice (some ⟨g,0,none⟩) ls.length cap) ls::h2) (w.setRow g cs') G (.vec (.slice (some ⟨g,0,none⟩) n' cap) ls'::h2):=by
 subst hn
 have hmem:Res.vec (.slice (some ⟨g,0,none⟩) ls.length cap) ls∈Res.vec (.slice (some ⟨g,0,none⟩) ls.length cap) ls::h2:=X1 ..
 have hA:Vr G w (w.setRow g cs') G:=⟨fun c j hg=>by
  have hne:c≠g:=fun he=>hh.prot _ hmem c j he hg
  simp [World.cell?,Vj w g c cs' hne],fun _ _ h=>h⟩
 have hpw:=Wv.1 hh.apart
 have hother:∀r∈h2,∀c j,r.fp c j->c≠g:=fun r hr c j hf hc=>hpw.1 r hr c j hc hf
 refine ⟨⟨?_,Wv.2 ⟨fun r hr=>hpw.1 r hr,hpw.2⟩,?_,?_⟩,⟨rfl,rfl,rfl,by simp [World.setRow],fun _ _ h=>h,?_,fun _ _ _ h=>.inl h,?_⟩⟩
 ·intro r hr
  rcases YB.1 hr with rfl|hr
  ·exact .inr ⟨g,cap,cs',e,rfl,setRow_heap w g cs cs' e (0,0) hb,hle,Xk.trans hcap,hls.mono hA⟩
  ·have h0:=hh.ok r (Xl _ hr)
   cases r with
   | obj c ks=>
    obtain ⟨ds,el,k1,k2⟩:=h0
    exact ⟨ds,el,(Vj w g c cs' (hother _ hr c 0 rfl)).trans k1,k2.mono hA⟩
   | tail v k=>
    rcases h0 with rfl|⟨g2,len,cap2,cur,el,rfl,k1,k2,k3⟩
    ·exact .inl rfl
    ·exact .inr ⟨g2,len,cap2,cur,el,rfl,(Vj w g g2 cs' (hother _ hr g2 (len*k) ⟨rfl,YR _⟩)).trans k1,k2,k3⟩
   | ge s=>exact WR h0 (by simp [World.setRow])
   | vec v ks=>
    rcases h0 with ⟨rfl,h0⟩|⟨g2,cap2,cur2,el,rfl,k1,k2,k3,k4⟩
    ·exact .inl ⟨rfl,h0⟩
    ·exact .inr ⟨g2,cap2,cur2,el,rfl,(Vj w g g2 cs' (hother _ hr g2 0 rfl)).trans k1,k2,k3,k4.mono hA⟩
   | many ts=>
    refine ⟨fun p hp=>?_,h0.2⟩
    rcases h0.1 p hp with q|⟨g2,len,cap2,cur,el,q,k1,k2,k3⟩
    ·exact .inl q
    ·exact .inr ⟨g2,len,cap2,cur,el,q,(Vj w g g2 cs' (hother _ hr g2 (len*p.2) ⟨p,hp,by rw [q];exact ⟨rfl,YR _⟩⟩)).trans k1,k2,k3⟩
   | own B m=>
    intro c hc
    obtain ⟨ds,el,k1,k2⟩:=h0 c hc
    exact ⟨ds,el,(Vj w g c cs' (hother _ hr c 0 hc)).trans k1,k2⟩
   | row v k ks=>
    rcases h0 with ⟨rfl,h0⟩|⟨g2,len2,cap2,cur2,el,rfl,k1,k2,k3,k4,k5⟩
    ·exact .inl ⟨rfl,h0⟩
    ·exact .inr ⟨g2,len2,cap2,cur2,el,rfl,(Vj w g g2 cs' (hother _ hr g2 0 rfl)).trans k1,k2,k3,k4,k5.mono hA⟩
 ·intro r hr c j hf hg
  rcases YB.1 hr with rfl|hr
  ·exact hh.prot _ hmem c j hf hg
  ·exact hh.prot r (Xl _ hr) c j hf hg
 ·intro c j hg
  have:=hh.lt c j hg
  simpa [World.setRow] using this
 ·intro c hc
  by_cases hcb:c=g
  ·subst hcb
   exact .inr ⟨cs,cs',e,(0,0),hb,setRow_heap w c cs cs' e (0,0) hb,Xk,fun j hj=>absurd ⟨_,hmem,rfl⟩ hj⟩
  ·exact .inl (Vj w g c cs' hcb)
 ·rintro c j _ ⟨r,hr,hf⟩
  rcases YB.1 hr with rfl|hr
  ·exact ⟨_,hmem,hf⟩
  ·exact ⟨r,Xl _ hr,hf⟩
theorem Yq.alloc_vec {w:World} {G:Y6} {h:List Res} (hh:Yq w G h) (cs:Array Value) (t:TypeId) {ls:List AV} {cap:Nat} (hcap:ls.length<=cap) (Xk:cs.size=cap)
  (hls:YI w G ls (cs.toList.take ls.length)) :
  Yq (w.alloc (.cells cs t)) G (.vec (.slice (some ⟨w.heap.size,0,none⟩) ls.length cap) ls::h)/\YP w G h (w.alloc (.cells cs t)) G (.vec (.slice (some ⟨w.heap.size,0,none⟩) ls.length cap) ls::h):=by
 have hA:Vr G w (w.alloc (.cells cs t)) G:=⟨fun b j hg=>CF w _ (hh.lt b j hg),fun _ _ h=>h⟩
 refine hh.alloc (.cells cs t) (h':=[.vec (.slice (some ⟨w.heap.size,0,none⟩) ls.length cap) ls]) (fun _ _ h=>h) (fun _ _ h=>.inl h) ?_ ?_ (Cu _ _) ?_
 ·intro r hr
  rw [XT.1 hr]
  exact .inr ⟨_,cap,cs,t,rfl,EL w _,hcap,Xk,hls.mono hA⟩
 ·intro r hr b j hf
  rw [XT.1 hr] at hf
  exact hf
 ·intro r hr b j hf hg
  rw [XT.1 hr] at hf
  have:=hh.lt b j hg
  have:b=w.heap.size:=hf
  omega
theorem Zcz {w:World} {G:Y6} {h:List Res} (hh:Yq w G h):Yq w G (.vec (.slice none 0 0) []::h)/\YP w G h w G (.vec (.slice none 0 0) []::h):=
 ⟨⟨fun r hr=>by
   rcases YB.1 hr with rfl|hr
   ·exact .inl ⟨rfl,rfl⟩
   ·exact hh.ok r hr,Wv.2 ⟨fun _ _ _ _ hf=>hf.elim,hh.apart⟩,fun r hr b o hf hg=>by
   rcases YB.1 hr with rfl|hr
   ·exact hf.elim
   ·exact hh.prot r hr b o hf hg,hh.lt⟩,
  ⟨rfl,rfl,rfl,YR _,fun _ _ h=>h,fun _ _=>.inl rfl,fun _ _ _ h=>.inl h,fun b o _ ⟨r,hr,hf⟩=>by
   rcases YB.1 hr with rfl|hr
   ·exact hf.elim
   ·exact ⟨r,hr,hf⟩⟩⟩
section
variable {P:Program} {n:Nat} {ops:Array Oper} {B:Fr->List Res->Prop} {k:Nat} {F:Fr} {h h2:List Res}
def Cb (P:Program) (ops:Array Oper) (F:Fr) (k:Nat):Option AV:=
 match (Zz ops k).op with
 | .call c=>match c.callee,c.args.toList,c.argTypes.toList with
  | .builtin .len,[x],[t]=>match P.underlying t with
   | some (.slice _)=>some (F.ev x)
   | _=>none
  | _,_,_=>none
 | _=>none
theorem Ad.form {w:World} {G:Y6} {v:Value} {ls:List AV} (h:Ad w G v ls):∃a cap,v=.slice a ls.length cap:=by
 rcases h with ⟨rfl,rfl⟩|⟨g,cap,cur,e,rfl,_⟩
 ·exact ⟨none,0,rfl⟩
 ·exact ⟨_,cap,rfl⟩
theorem Zc4 (j:Nat) {v:Value} {ls:List AV} (hl:Cb P ops F k=some (.val v)) (hj:h[j]? = some (.vec v ls)):Xr P (Zz ops k) F h [] (.val (.int .i64 ls.length)):=by
 unfold Cb at hl
 generalize hoo:Zz ops k=o at hl
 obtain ⟨dst,op,type,pos,after,guard⟩:=o
 cases op<;>simp only at hl<;>try (cases hl)
 rename_i c
 obtain ⟨callee,args,tys⟩:=c
 simp only at hl
 split at hl
 ·rename_i x t hargs htys
  split at hl
  ·rename_i el hu
   simp only [XY] at hl
   intro n w G a hF hh
   have hv:=hF.ev x
   rw [hl] at hv
   have hv:=hv.val_inv
   obtain ⟨ad,cap,rfl⟩:=Ad.form (hh.ok _ (Y0 hj))
   have e1:args=#[x]:=by rw [<-VN (xs:=args),hargs]
   have e2:tys=#[t]:=by rw [<-VN (xs:=tys),htys]
   subst e1;subst e2
   exact ⟨_,.val,fun w' _ _=>by simp [execOp,resolve,invoke,builtin,hv,Builtin.len_,Vp hu,goInt]⟩
  ·cases hl
 ·cases hl
theorem Zc3 (j:Nat) {v:Value} {ls:List AV} {i:Int} (hi:Aw P ops F k=some (.val v,i,1)) (hj:h[j]? = some (.vec v ls)) (h0:0<=i) (hlt:i<ls.length) :
  Xr P (Zz ops k) F h [] (.val (.pointer (some ⟨Q1 v,i.toNat,none⟩))):=by
 intro n w G a hF hh
 rcases hh.ok _ (Y0 hj) with ⟨rfl,rfl⟩|⟨g,cap,cur,e,rfl,_⟩
 ·simp at hlt;omega
 ·have:=PF (P:=P) (F:=F) (h:=h) hi h0 hlt n w G a hF hh
  simpa [Q1,Value.ownBlock] using this
def HM (P:Program) (ops:Array Oper) (F:Fr) (k:Nat):Option AV:=
 match (Zz ops k).op with
 | .load t x=>match C7 P t with
  | some false=>some (F.ev x)
  | _=>none
 | _=>none
theorem Zc5 (j:Nat) {v:Value} {ls:List AV} {i:Nat} {y:AV} (hl:HM P ops F k=some (.val (.pointer (some ⟨Q1 v,i,none⟩)))) (hj:h[j]? = some (.vec v ls)) (hy:ls[i]? = some y) :
  Xr P (Zz ops k) F h [Q1 v] y:=by
 unfold HM at hl
 generalize hoo:Zz ops k=o at hl
 obtain ⟨dst,op,type,pos,after,guard⟩:=o
 cases op<;>simp only at hl<;>try (cases hl)
 rename_i t x
 split at hl
 ·rename_i hagg
  simp only [XY] at hl
  intro n w G a hF hh
  have hv:=hF.ev x
  rw [hl] at hv
  have hv:=hv.val_inv
  have hlt:i<ls.length:=(XA.1 hy).1
  rcases hh.ok _ (Y0 hj) with ⟨rfl,rfl⟩|⟨g,cap,cur,e,rfl,h1,h2,h3,h4⟩
  ·simp at hlt
  ·obtain ⟨c,c1,c2⟩:=h4.get i y hy
   refine ⟨c,c2,fun w' _ hw=>?_⟩
   have hrow:=hw (Q1 (.slice (some ⟨g,0,none⟩) ls.length cap)) (by simp)
   simp only [Q1,Value.ownBlock,Option.getD_some] at hrow hv
   rw [h1] at hrow
   have hc:cur[i]? = some c:=by
    rw [Qt,Zk hlt] at c1
    simpa using c1
   simp only [execOp,hv]
   refine V1 ?_
   simp only [Instr.loadAt,Instr.sureAddr,Sem.run_bind,Sem.run_pure,Result.andThen_ok,loadVar,DA hagg]
   have:=cell_of_row w' g i cur e (0,0) hrow
   rw [hc] at this
   simp [load,Sem.run,this]
 ·cases hl
theorem O6 {K:Fr->List Res->Prop} {v:Value} {ls:List AV} {i:Nat} {y:AV} (hs:storeAt P ops F k=some (Q1 v,i,[y])) (hlt:i<ls.length)
  (hK:K F (.vec v (ls.set i y)::h2)):W8 P n (Zz ops k) F (.vec v ls::h2) K:=by
 unfold storeAt at hs
 generalize hoo:Zz ops k=q at hs
 obtain ⟨dst,op,type,pos,after,guard⟩:=q
 cases op<;>simp only at hs<;>try (cases hs)
 rename_i t x z
 split at hs
 ·rename_i b' o' inf hx hi
  split at hs
  ·rename_i hc
   simp only [XI] at hc
   simp only [XY,Prod.mk.injEq] at hs
   obtain ⟨rfl,rfl,hz⟩:=hs
   intro Q w G a hF hh
   have hvx:=hF.ev x
   rw [hx] at hvx
   have hvx:=hvx.val_inv
   have hvy:=hF.ev z
   have hcs:=hvy.cells hc.2.1
   rw [hz] at hcs hc
   have hone:=hcs.one_cells hc.2.2
   have Xk:inf.size=1:=U2 hc.1
   have hlen:(a.eval z).cells.size=1:=by have:=hcs.length;simpa using this
   rcases hh.ok (.vec v ls) (X1 ..) with ⟨rfl,rfl⟩|⟨g,cap,cur,e,rfl,h1,h3,h4,h5⟩
   ·simp at hlt
   ·simp only [Q1,Value.ownBlock,Option.getD_some] at hvx
    have hst:=run_storeCells_at P g o' e (a.eval z).cells.toList 0 cur w h1 (by simp [hlen];omega) hone
    simp only [BC,QM] at hst
    have hr:(execOp a.eval { dst:=none,op:=.store t x z,type:=type,pos:=pos,after:=after,guard:=guard }).run P w =
      .ok .skip (w.setRow g (cur.toList.take o'++(a.eval z).cells.toList++cur.toList.drop (o'+(a.eval z).cells.size)).toArray):=by
     simp only [execOp,hvx]
     simp [Instr.storeAt,Instr.sureAddr,storeVar,TW hi,hlen,Xk,hst]
    unfold Oper.wp
    rw [hr]
    have hset:ls.set o' y=ls.take o'++[y]++ls.drop (o'+1):=(P7 ls o' y hlt).symm
    obtain ⟨j1,j2⟩:=hh.vwrite (ls':=ls.set o' y) (n':=ls.length) (cs':=(cur.toList.take o'++(a.eval z).cells.toList++cur.toList.drop (o'+(a.eval z).cells.size)).toArray) h1
     (by simp [hlen];omega) (by simp) (by simpa using h3) h4 (by
      obtain ⟨c,Zb⟩:∃c,(a.eval z).cells.toList=[c]:=by
       have:=hcs.length
       cases hq:(a.eval z).cells.toList with
       | nil=>rw [hq] at this;simp at this
       | cons c r=>cases r with
        | nil=>exact ⟨c,rfl⟩
        | cons _ _=>rw [hq] at this;simp at this
      rw [Zb] at hcs
      have hlt':o'<cur.toList.length:=by simp [h4];omega
      rw [Cw,Zb,hlen,P7 cur.toList o' c hlt',T3,List.take_set]
      cases hcs with
      | cons hcc _=>exact h5.set o' hcc)
    refine ⟨F,_,G,hK,?_,j1,j2⟩
    have:=hF.mono (j2.agree hh)
    simpa [Act.put] using this
  ·cases hs
 ·cases hs
theorem O5 {K:Fr->List Res->Prop} {v:Value} {ls xs:List AV} {hx:Option Value} (hd:WV n (Zz ops k)=true) (ha:U3 P ops F k=some (.val v,.sl xs hx,1))
  (hxs:∀y∈xs,y.leaves=[y]) (hone:xs.all AV.one=true) (hbound:ls.length+xs.length<=4294967296)
  (hK:∀v',K (F.put (Zz ops k).dst (.val v')) (.vec v' (ls++xs)::h2)):W8 P n (Zz ops k) F (.vec v ls::h2) K:=by
 unfold U3 at ha
 generalize hoo:Zz ops k=o at ha hd hK
 obtain ⟨dst,op,type,pos,after,guard⟩:=o
 cases op<;>simp only at ha<;>try (cases ha)
 rename_i c
 obtain ⟨callee,args,tys⟩:=c
 simp only at ha
 split at ha
 case h_2=>cases ha
 rename_i s x t t' hargs htys
 split at ha
 case h_2=>cases ha
 rename_i e htt ht
 have:=U2 htt
 subst this
 split at ha
 case h_2=>cases ha
 rename_i i hinfo
 split at ha
 case h_2=>cases ha
 rename_i z hz
 split at ha
 case h_2=>cases ha
 rename_i hb
 simp only [XI] at hb
 simp only [XY,Prod.mk.injEq] at ha
 obtain ⟨h3,h4,hk1⟩:=ha
 have e1:args=#[s,x]:=by rw [<-VN (xs:=args),hargs]
 have e2:tys=#[t,t]:=by rw [<-VN (xs:=tys),htys]
 subst e1;subst e2
 have hzs:z.cells.size=1:=by rw [U2 hb.1,hk1]
 have hby:=WE hb.2
 have hflat:Ze xs=xs:=by
  clear hone hbound hK h4
  induction xs with
  | nil=>rfl
  | cons y r ih=>simp only [Ze,A4,hxs y (by simp),List.singleton_append];rw [show r.flatMap AV.leaves=Ze r from rfl,ih fun q hq=>hxs q (by simp [hq])]
 have hlen1:∀y∈xs,y.leaves.length=1:=fun y hy=>by rw [hxs y hy];rfl
 intro Q w G a hF hh
 have v1:=hF.ev s
 have v2:=hF.ev x
 rw [h3] at v1
 rw [h4] at v2
 have v1:=v1.val_inv
 have v2:=v2.forget
 have finish:∀v' w',(Builtin.append_ #[t,t] type #[v,a.eval x]).run P w=.ok v' w'->Yq w' G (.vec v' (ls++xs)::h2)->YP w G (.vec v ls::h2) w' G (.vec v' (ls++xs)::h2) ->
   ({ dst:=dst,op:=.call { callee:=.builtin .append,args:=#[s,x],argTypes:=#[t,t] },type:=type,pos:=pos,after:=after,guard:=guard }:Oper).wp P a w
    (fun a' w'=>∃F' h' G',K F' h'/\FR w' G' n F' a'/\Yq w' G' h'/\YP w G (.vec v ls::h2) w' G' h') Q:=by
  intro v' w' hr j1 j2
  have hrun:(execOp a.eval { dst:=dst,op:=.call { callee:=.builtin .append,args:=#[s,x],argTypes:=#[t,t] },type:=type,pos:=pos,after:=after,guard:=guard }).run P w=.ok (.value v') w':=by
   simp only [execOp,resolve,invoke,builtin,Sem.run_bind,Sem.run_pure,Result.andThen_ok,BA,VX,AW,v1,hr]
  unfold Oper.wp
  rw [hrun]
  exact ⟨_,_,G,hK v',(hF.mono (j2.agree hh)).put (U7 hd) .val,j1,j2⟩
 have hvec:=hh.ok (.vec v ls) (X1 ..)
 have hsub2:∀r:Res,List.Sublist (r::h2) (r::.vec v ls::h2):=fun r=>List.Sublist.cons_cons _ (Jm _ _)
 have grown:∀(olds news:List Value) (old:Nat),YI w G ls olds->YI w G xs news ->
   Yq (w.drew.alloc (.cells (olds.toArray++news.toArray++Builtin.zeroCells z.cells (grownCap w (ls.length+xs.length) old e-(ls.length+xs.length))) e)) G
    (.vec (.slice (some ⟨w.heap.size,0,none⟩) (ls.length+xs.length) (grownCap w (ls.length+xs.length) old e)) (ls++xs)::h2) /\
   YP w G (.vec v ls::h2) (w.drew.alloc (.cells (olds.toArray++news.toArray++Builtin.zeroCells z.cells (grownCap w (ls.length+xs.length) old e-(ls.length+xs.length))) e)) G
    (.vec (.slice (some ⟨w.heap.size,0,none⟩) (ls.length+xs.length) (grownCap w (ls.length+xs.length) old e)) (ls++xs)::h2):=by
  intro olds news old ho hn
  have YY:=grownCap_ge w (ls.length+xs.length) old e
  have hol:=ho.length
  have hnl:=hn.length
  obtain ⟨j1,j2⟩:=hh.drew.alloc_vec (olds.toArray++news.toArray++Builtin.zeroCells z.cells (grownCap w (ls.length+xs.length) old e-(ls.length+xs.length))) e
   (ls:=ls++xs) (cap:=grownCap w (ls.length+xs.length) old e) (by simpa using YY)
   (by simp only [Array.size_append,Cv,size_zeroCells,hzs,hol,hnl,Kj];omega)
   (by
    have:(olds.toArray++news.toArray++Builtin.zeroCells z.cells (grownCap w (ls.length+xs.length) old e-(ls.length+xs.length))).toList.take (ls++xs).length=olds++news:=by
     simp only [Cs,Ym]
     rw [<-hol,<-hnl,<-Ym]
     exact Jn
    rw [this]
    exact (ho.append hn).mono (Ae w G))
  rw [Ym] at j1 j2
  exact ⟨j1.sub (hsub2 _),(YP.drew w G _).trans (j2.sub' (hsub2 _))⟩
 by_cases hxe:xs=[]
 ·subst hxe
  obtain ⟨ad,cap,hform⟩:=Ad.form hvec
  have hle:ls.length<=cap:=by
   rcases hvec with ⟨rfl,rfl⟩|⟨g,cap',cur,el,rfl,_,hc,_⟩
   ·simp
   ·cases hform;exact hc
  subst hform
  cases v2q:a.eval x with
  | slice ad' l' c'=>
   rw [v2q] at v2
   cases v2<;>exact finish _ _ (by rw [v2q];exact Cl ht hinfo hle w) (by simpa using hh) (by simpa using YP.refl w G _)
  | _=>rw [v2q] at v2;cases v2
 ·generalize hax:a.eval x=ax at v2 finish
  cases v2 with
  | nil _=>exact absurd rfl hxe
  | sl hq hcc hm=>
   rename_i b o' k' c
   have hpos:0<xs.length:=DS.2 hxe
   have hfm:=hm.flat_mem
   rw [hflat] at hfm
   obtain ⟨news,hn,hnc⟩:=hfm.cells
   have hnl:news.length=xs.length*i.size:=by rw [hn.length,hk1,Kj]
   have hone':=hn.one_cells hone
   have hnews:∀j u,news[j]? = some u->w.cell? ((⟨b,o',none⟩:Addr).add j)=some u:=fun j u hj=>by rw [QT];exact (hnc j u hj).1
   have hbb:(ls.length+xs.length)*i.bytes<=140737488355328:=by
    have:=Nat.mul_le_mul hbound hby
    omega
   rcases hvec with ⟨rfl,rfl⟩|⟨g,cap,cur,el,rfl,hrow,hlc,hcur,hcells⟩
   ·have hr:=run_append_nil (P:=P) w t type e i z ht hinfo hz ⟨b,o',none⟩ xs.length c news hnl hnews hpos (by simp at hbound;omega) (by simp at hbb;omega)
    obtain ⟨j1,j2⟩:=grown [] news 0 .nil hn
    simp only [Xg,WS,Array.empty_append,Jl] at j1 j2
    exact finish _ _ hr (by simpa using j1) (by simpa using j2)
   ·by_cases hroom:ls.length+xs.length<=cap
    ·have hfit:ls.length*i.size+news.length<=cur.size:=by rw [hnl,hcur,hk1];omega
     have hr:=Fu (P:=P) w t type e el i ht hinfo g ls.length cap cur hrow ⟨b,o',none⟩ xs.length c news hnl hnews hone' hroom hfit
     rw [hk1,Kj] at hr
     have hnl':news.length=xs.length:=by rw [hnl,hk1,Kj]
     obtain ⟨j1,j2⟩:=hh.vwrite (ls':=ls++xs) (n':=ls.length+xs.length) (cs':=(cur.toList.take ls.length++news++cur.toList.drop (ls.length+news.length)).toArray) hrow
      (by simp [hnl',hcur];omega) (by simp) (by simpa using hroom) hcur (by
       have h1:(cur.toList.take ls.length).length=ls.length:=by simp [hcur];omega
       have:(cur.toList.take ls.length++news++cur.toList.drop (ls.length+news.length)).toArray.toList.take (ls++xs).length=cur.toList.take ls.length++news:=by
        rw [Cw,Ym,<-hnl']
        conv=>lhs;arg 1;rw [show ls.length+news.length=(cur.toList.take ls.length++news).length from by rw [Ym,h1]]
        exact Jn
       rw [this]
       exact hcells.append hn)
     exact finish _ _ hr j1 j2
    ·have hr:=run_append_grow (P:=P) w t type e i z ht hinfo hz ⟨g,0,none⟩ ls.length cap (cur.toList.take ls.length) (by rw [hk1];simp [hcur];omega) (fun j u hj=>by
      rw [QT,cell_of_row w g _ cur el (0,0) hrow]
      rw [Qt] at hj
      split at hj
      ·simpa using hj
      ·cases hj) ⟨b,o',none⟩ xs.length c news hnl hnews om om (growslice_fits om hbb)
     obtain ⟨j1,j2⟩:=grown (cur.toList.take ls.length) news cap hcells hn
     exact finish _ _ hr j1 j2
end
inductive QP (h:List Res):AV->Prop
 | val {v}:QP h (.val v)
 | any:QP h .any
 | nil {hv}:QP h (.sl [] hv)
 | own {es:List AV} {v:Value} {k:Nat} (he:∀y∈es,∃u,y=.val u) (ht:Res.tail v k∈h):QP h (.sl es (some v))
 | tup {vs:List AV} (hv:∀y∈vs,QP h y):QP h (.tup vs)
 | agg {vs:List AV} (hv:∀y∈vs,QP h y):QP h (.agg vs)
def DW:Res->Prop
 | .obj _ ls=>∀y∈ls,∃u,y=.val u
 | .vec _ ls=>∀y∈ls,∃u,y=.val u
 | .row _ _ ls=>∀y∈ls,∃u,y=.val u
 | _=>True
theorem YI.vals {w w':World} {G G':Y6}:∀{xs:List AV} {vs:List Value},(∀y∈xs,∃u,y=.val u)->YI w G xs vs->YI w' G' xs vs
 | _,_,_,.nil=>.nil
 | x::_,_::_,hv,.cons h t=>by
  obtain ⟨u,rfl⟩:=hv x (X1 ..)
  have:=h.val_inv
  subst this
  exact .cons .val (t.vals fun y hy=>hv y (Xl _ hy))
theorem ND {w:World} {G G':Y6} {b:Nat} (hG:∀o,G b o->G' b o):∀{o:Nat} {xs:List AV},(∀y∈xs,∃u,y=.val u)->W9 w G b o xs->W9 w G' b o xs
 | _,_,_,.nil=>.nil
 | _,x::_,hv,.cons hc hg h t=>by
  obtain ⟨u,rfl⟩:=hv x (X1 ..)
  have:=h.val_inv
  subst this
  exact .cons hc (hG _ hg) .val (ND hG (fun y hy=>hv y (Xl _ hy)) t)
theorem LX {w:World} {G G':Y6} {b k:Nat} (hG:∀o,G b o->G' b o):∀{o:Nat} {xs:List AV},(∀y∈xs,∃u,y=.val u)->WF w G k b o xs->WF w G' k b o xs
 | _,_,_,.nil=>.nil
 | _,x::_,hv,.cons hl h t=>by
  obtain ⟨u,rfl⟩:=hv x (X1 ..)
  refine .cons hl (ND hG (fun y hy=>?_) h) (LX hG (fun y hy=>hv y (Xl _ hy)) t)
  simp [AV.leaves] at hy
  exact ⟨u,hy⟩
theorem YI.clean {w:World} {G G':Y6} (P:AV->Prop) (hP:∀x v,P x->RV w G x v->RV w G' x v):∀{xs:List AV} {vs:List Value},(∀y∈xs,P y)->YI w G xs vs->YI w G' xs vs
 | _,_,_,.nil=>.nil
 | x::_,_::_,hv,.cons h t=>.cons (hP _ _ (hv x (X1 ..)) h) (t.clean P hP fun y hy=>hv y (Xl _ hy))
theorem RV.clean {w:World} {G G':Y6} {h:List Res} (hG:∀v k g,Res.tail v k∈h->v.ownBlock=some g->∀o,G g o->G' g o) {r:AV} (hc:QP h r):∀{v:Value},RV w G r v->RV w G' r v:=by
 induction hc with
 | val=>intro v hv;cases hv;exact .val
 | any=>intro v hv;exact .any
 | nil=>
  intro v hv
  cases hv with
  | nil hq=>exact .nil hq
  | sl hq hc hm=>exact .sl (k:=0) hq hc .nil
 | own he ht=>
  intro v hv
  cases hv with
  | nil hq=>exact .nil hq
  | sl hq hc hm=>
   have e:=hq _ rfl
   exact .sl hq hc (LX (fun o hg=>hG _ _ _ ht (by rw [e];rfl) o hg) he hm)
 | tup hv ih=>
  intro v hvv
  cases hvv with
  | tup hc=>exact .tup (hc.clean (fun x=>∀{v:Value},RV w G x v->RV w G' x v) (fun x v hp hx=>hp hx) ih)
 | agg hv ih=>
  intro v hvv
  cases hvv with
  | agg hc=>exact .agg (hc.clean (fun x=>∀{v:Value},RV w G x v->RV w G' x v) (fun x v hp hx=>hp hx) ih)
theorem Yq.lend {w:World} {G:Y6}:∀{bs h:List Res},(∀r∈bs,∃v ls,r=.vec v ls/\∀y∈ls,∃u,y=.val u)->Yq w G (h++bs) ->
  ∃Gb:Y6,(∀b o,G b o->Gb b o)/\(∀b o,Gb b o->G b o∨WC bs b o)/\Yq w Gb h /\
   (∀v ls,Res.vec v ls∈bs->∀m,m<=ls.length->RV w Gb (.sl (ls.take m) none) (Ji v m)/\RV w Gb (.sl ls none) v):=by
 intro bs h hb hh
 let Gb:Y6:=fun b o=>G b o∨∃v ls,Res.vec v ls∈bs/\v.ownBlock=some b/\o<ls.length
 have hsub:∀b o,G b o->Gb b o:=fun _ _ h=>.inl h
 have hfp:∀b o,Gb b o->G b o∨WC bs b o:=fun b o hg=>hg.imp id fun ⟨v,ls,hm,ho,_⟩=>⟨_,hm,by
  cases v with
  | slice a l c=>cases a with
   | none=>simp [Value.ownBlock] at ho
   | some a=>simp only [Value.ownBlock,XY] at ho;exact ho.symm
  | _=>simp [Value.ownBlock] at ho⟩
 have hA:Vr G w w Gb:=⟨fun _ _ _=>rfl,hsub⟩
 refine ⟨Gb,hsub,hfp,⟨fun r hr=>?_,hh.left.apart,fun r hr b o hf hg=>?_,fun b o hg=>?_⟩,fun v ls hm m hmle=>?_⟩
 ·have h0:=hh.ok r (X4.2 (.inl hr))
  cases r with
  | obj b ls=>obtain ⟨cs,e,h1,h2⟩:=h0;exact ⟨cs,e,h1,h2.mono hA⟩
  | tail v k=>exact h0
  | ge s=>exact h0
  | vec v ls=>
   rcases h0 with ⟨rfl,h0⟩|⟨g,cap,cur,el,rfl,h1,h2,h3,h4⟩
   ·exact .inl ⟨rfl,h0⟩
   ·exact .inr ⟨g,cap,cur,el,rfl,h1,h2,h3,h4.mono hA⟩
  | many ts=>exact h0
  | own B m=>exact h0
  | row v k ls=>
   rcases h0 with ⟨rfl,h0⟩|⟨g,len,cap,cur,el,rfl,h1,h2,h3,h4,h5⟩
   ·exact .inl ⟨rfl,h0⟩
   ·exact .inr ⟨g,len,cap,cur,el,rfl,h1,h2,h3,h4,h5.mono hA⟩
 ·rcases hfp b o hg with h1|h1
  ·exact hh.prot r (X4.2 (.inl hr)) b o hf h1
  ·exact hh.cross ⟨r,hr,hf⟩ h1
 ·rcases hfp b o hg with h1|⟨r,hr,hf⟩
  ·exact hh.lt b o h1
  ·exact (hh.ok r (X4.2 (.inr hr))).lt b o hf
 ·have h0:=hh.ok _ (X4.2 (.inr hm))
  obtain ⟨v',ls',e,hval⟩:=hb _ hm
  cases e
  rcases h0 with ⟨rfl,rfl⟩|⟨g,cap,cur,el,rfl,h1,h2,h3,h4⟩
  ·have:m=0:=by simpa using hmle
   subst this
   exact ⟨.nil (by simp),.nil (by simp)⟩
  ·have hmem:W9 w Gb g 0 ls:=by
    refine W9.of_cells (h4.mono hA) fun j u hj=>?_
    have hjl:j<ls.length:=by
     have:=(XA.1 hj).1
     have h5:=h4.length
     omega
    rw [Qt,Zk hjl] at hj
    refine ⟨?_,.inr ⟨_,_,hm,rfl,by omega⟩⟩
    rw [WS,cell_of_row w g j cur el (0,0) h1]
    simpa using hj
   have hels:∀(l:List AV),(∀y∈l,∃u,y=.val u)->Ze l=l:=by
    intro l
    induction l with
    | nil=>intro _;rfl
    | cons y r ih=>
     intro hy
     obtain ⟨u,rfl⟩:=hy y (X1 ..)
     simp only [Ze,A4,AV.leaves,List.singleton_append]
     rw [show r.flatMap AV.leaves=Ze r from rfl,ih fun z hz=>hy z (Xl _ hz)]
   have hE:WF w Gb 1 g 0 ls:=WF.of_flat ls (fun y hy=>by obtain ⟨u,rfl⟩:=hval y hy;rfl) (by rw [hels ls hval];exact hmem)
   refine ⟨?_,.sl (by simp) h2 hE⟩
   have hl:(ls.take m).length=m:=by simp [hmle]
   show RV w Gb (.sl (ls.take m) none) (.slice (some ⟨g,0,none⟩) m cap)
   conv=>arg 4;rw [<-hl]
   exact .sl (by simp) om (hE.take m)
inductive Tc (bs:List Res):List AV->List AV->Prop
 | nil:Tc bs [] []
 | same {x as1 xs} (t:Tc bs as1 xs):Tc bs (x::as1) (x::xs)
 | lent {v ls as1 xs} (h:Res.vec v ls∈bs) (t:Tc bs as1 xs):Tc bs (.val v::as1) (.sl ls none::xs)
 | cut {v ls m as1 xs} (h:Res.vec v ls∈bs) (hm:m<=ls.length) (t:Tc bs as1 xs):Tc bs (.val (Ji v m)::as1) (.sl (ls.take m) none::xs)
theorem Tc.rcs {w:World} {G Gb:Y6} {bs:List Res} (hA:Vr G w w Gb)
  (hb:∀v ls,Res.vec v ls∈bs->∀m,m<=ls.length->RV w Gb (.sl (ls.take m) none) (Ji v m)/\RV w Gb (.sl ls none) v) :
  ∀{as1 xs:List AV} {vs:List Value},Tc bs as1 xs->YI w G as1 vs->YI w Gb xs vs
 | _,_,_,.nil,.nil=>.nil
 | _,_,_,.same t,.cons h r=>.cons (h.mono hA) (t.rcs hA hb r)
 | _,_,_,.lent hm t,.cons h r=>by
  have:=h.val_inv
  subst this
  exact .cons (hb _ _ hm 0 (Qu _)).2 (t.rcs hA hb r)
 | _,_,_,.cut hm hle t,.cons h r=>by
  have:=h.val_inv
  subst this
  exact .cons (hb _ _ hm _ hle).1 (t.rcs hA hb r)
theorem W2.lend {P:Program} {f:FuncId} {as1 xs:List AV} {h1:List Res} (bs:List Res) {R:AV->List Res->Prop} (H:W2 P f xs h1 R) (hargs:Tc bs as1 xs)
  (hb:∀r∈bs,∃v ls,r=.vec v ls/\∀y∈ls,∃u,y=.val u) (hclean:∀r h',R r h'->QP h' r/\∀q∈h',DW q) :
  W2 P f as1 (h1++bs) (fun r h'=>∃h1',R r h1'/\h'=h1'++bs):=by
 intro w G vs hvs hh
 obtain ⟨Gb,g1,g2,g3,g4⟩:=Yq.lend hb hh
 have hA:Vr G w w Gb:=⟨fun _ _ _=>rfl,g1⟩
 refine (H w Gb vs (hargs.rcs hA g4 hvs) g3).mono ?_
 rintro e w' ⟨v,r,h',G',rfl,hR,hv,hh',hx⟩
 obtain ⟨c1,c2⟩:=hclean r h' hR
 let G2:Y6:=fun b o=>G' b o/\¬(WC bs b o)
 have hbslt:∀b o,WC bs b o->b<w.heap.size:=fun b o ⟨q,hq,hf⟩=>(hh.ok q (X4.2 (.inr hq))).lt b o hf
 have hwhole:∀b o o',WC bs b o->WC bs b o':=fun b o o' ⟨q,hq,hf⟩=>⟨q,hq,by
  obtain ⟨v,ls,rfl,_⟩:=hb q hq
  cases v with
  | slice a l c=>cases a with
   | none=>exact hf.elim
   | some a=>exact hf
  | _=>exact hf.elim⟩
 have hGkeep:∀b o,G b o->G2 b o:=fun b o hg=>⟨hx.sub b o (g1 b o hg),fun ⟨q,hq,hf⟩=>hh.prot q (X4.2 (.inr hq)) b o hf hg⟩
 have hnew:∀v k g,Res.tail v k∈h'->v.ownBlock=some g->∀o,G' g o->G2 g o:=by
  intro v k g hm hg o hgo
  refine ⟨hgo,fun hf=>?_⟩
  have hlt:=hbslt _ _ hf
  rcases hh'.ok _ hm with rfl|⟨g',len,cap,cur,el,rfl,t1,t2,t3⟩
  ·simp [Value.ownBlock] at hg
  ·simp only [Value.ownBlock,XY] at hg
   subst hg
   have hfp:WC h' g' (len*k):=⟨_,hm,rfl,YR _⟩
   exact hh.cross (hx.newfp g' (len*k) hlt hfp) (hwhole _ _ _ hf)
 have e1:YP w G h1 w' G2 h':=⟨hx.os,hx.tape,hx.output,hx.size,hGkeep,hx.same,fun b o hb' hg=>by
  rcases hx.newG b o hb' hg.1 with h|h
  ·rcases g2 b o h with h|h
   ·exact .inl h
   ·exact absurd h hg.2
  ·exact .inr h,hx.newfp⟩
 have e2:Yq w' G2 h':=⟨fun q hq=>by
   have h0:=hh'.ok q hq
   have hcq:=c2 q hq
   cases q with
   | obj b ls=>obtain ⟨cs,el,k1,k2⟩:=h0;exact ⟨cs,el,k1,k2.vals hcq⟩
   | tail v k=>exact h0
   | ge s=>exact h0
   | vec v ls=>
    rcases h0 with ⟨rfl,h0⟩|⟨g,cap,cur,el,rfl,k1,k2,k3,k4⟩
    ·exact .inl ⟨rfl,h0⟩
    ·exact .inr ⟨g,cap,cur,el,rfl,k1,k2,k3,k4.vals hcq⟩
   | many ts=>exact h0
   | own B m=>exact h0
   | row v k ls=>
    rcases h0 with ⟨rfl,h0⟩|⟨g,len,cap,cur,el,rfl,k1,k2,k3,k4,k5⟩
    ·exact .inl ⟨rfl,h0⟩
    ·exact .inr ⟨g,len,cap,cur,el,rfl,k1,k2,k3,k4,k5.vals hcq⟩,hh'.apart,fun q hq b o hf hg=>hh'.prot q hq b o hf hg.1,fun b o hg=>hh'.lt b o hg.1⟩
 obtain ⟨f1,f2⟩:=hh.frame e1 e2
 exact ⟨v,r,h'++bs,G2,rfl,⟨h',hR,rfl⟩,RV.clean hnew c1 hv,f1,f2⟩
section
variable {P:Program} {n:Nat} {ops:Array Oper} {B:Fr->List Res->Prop} {k:Nat} {F:Fr} {h h2:List Res}
def Cp (P:Program) (ops:Array Oper) (F:Fr) (k:Nat):Option (AV × Int):=
 match (Zz ops k).op with
 | .slice t x none (some hi) none=>match P.underlying t with
  | some (.slice e)=>match P.info? e with
   | some _=>match F.ev hi with
    | .val (.int _ m)=>some (F.ev x,m)
    | _=>none
   | none=>none
  | _=>none
 | _=>none
theorem Zc6 (j:Nat) {v:Value} {ls:List AV} {m:Nat} (hi:Cp P ops F k=some (.val v,(m:Int))) (hj:h[j]? = some (.vec v ls)) (hle:m<=ls.length) :
  Xr P (Zz ops k) F h [] (.val (Ji v m)):=by
 unfold Cp at hi
 generalize hoo:Zz ops k=o at hi
 obtain ⟨dst,op,type,pos,after,guard⟩:=o
 cases op<;>simp only at hi<;>try (cases hi)
 rename_i t x lo hi' mx
 cases lo with
 | some _=>simp at hi
 | none=>
  cases hi' with
  | none=>simp at hi
  | some y=>
   cases mx with
   | some _=>simp at hi
   | none=>
    simp only at hi
    split at hi
    ·rename_i e ht
     split at hi
     ·rename_i inf hinf
      split at hi
      ·rename_i ik m' hm
       simp only [XY,Prod.mk.injEq] at hi
       obtain ⟨hx,rfl⟩:=hi
       intro n w G a hF hh
       have v1:=hF.ev x
       rw [hx] at v1
       have v1:=v1.val_inv
       have v2:=hF.ev y
       rw [hm] at v2
       have v2:=v2.val_inv
       have hvec:=hh.ok _ (Y0 hj)
       obtain ⟨ad,cap,hform⟩:=Ad.form hvec
       have hcap:ls.length<=cap:=by
        rcases hvec with ⟨rfl,rfl⟩|⟨g,cap',cur,el,rfl,_,hc,_⟩
        ·simp
        ·cases hform;exact hc
       subst hform
       refine ⟨_,.val,fun w' _ _=>?_⟩
       have Zf:=fun c=>Cm (P:=P) (c:=c) (v:=.int ik (m:Int)) (y:=cap) rfl om om w'
       simp only [execOp,v1,v2,AX,Option.map_none]
       refine V1 ?_
       simp only [Instr.sliceAt,Sem.run_bind,Vp ht,Result.andThen_ok,Instr.slice]
       have hmm:(Instr.sliceBounds true ls.length cap none (some (.int ik (m:Int))) none).run P w'=.ok (0,m,cap) w':=by simp [Instr.sliceBounds,Zf]
       rw [hmm]
       have hz:∀a:Addr,a.add 0=a:=fun a=>by simp [Addr.add]
       simp only [Result.andThen_ok,TW hinf,Nat.zero_mul,hz,Ji]
       simp
      ·cases hi
     ·cases hi
    ·cases hi
theorem Zd1 {w:World} {G:Y6} {v:Value} {ls:List AV} {m:Nat} (hh:Yq w G (.vec v ls::h2)) (hle:m<=ls.length) :
  Yq w G (.vec (Ji v m) (ls.take m)::h2)/\YP w G (.vec v ls::h2) w G (.vec (Ji v m) (ls.take m)::h2):=by
 have hpw:=Wv.1 hh.apart
 have hfp:∀b o,Res.fp (.vec (Ji v m) (ls.take m)) b o->Res.fp (.vec v ls) b o:=by
  intro b o hf
  cases v with
  | slice a l c=>cases a with
   | none=>exact hf.elim
   | some a=>exact hf
  | _=>exact hf
 refine ⟨⟨fun r hr=>?_,Wv.2 ⟨fun r hr b o h1 h2=>hpw.1 r hr b o (hfp b o h1) h2,hpw.2⟩,fun r hr b o hf hg=>?_,hh.lt⟩,⟨rfl,rfl,rfl,YR _,fun _ _ h=>h,fun _ _=>.inl rfl,fun _ _ _ h=>.inl h,?_⟩⟩
 ·rcases YB.1 hr with rfl|hr
  ·rcases hh.ok _ (X1 ..) with ⟨rfl,rfl⟩|⟨g,cap,cur,e,rfl,h1,h3,h4,h5⟩
   ·have:m=0:=by simpa using hle
    subst this
    exact .inl ⟨rfl,rfl⟩
   ·refine .inr ⟨g,cap,cur,e,by simp [Ji,hle],h1,by simp;omega,h4,?_⟩
    have:=h5.take m
    rw [List.take_take,Va hle] at this
    simpa [hle] using this
  ·exact hh.ok r (Xl _ hr)
 ·rcases YB.1 hr with rfl|hr
  ·exact hh.prot _ (X1 ..) b o (hfp b o hf) hg
  ·exact hh.prot r (Xl _ hr) b o hf hg
 ·rintro b o _ ⟨r,hr,hf⟩
  rcases YB.1 hr with rfl|hr
  ·exact ⟨_,X1 ..,hfp b o hf⟩
  ·exact ⟨r,Xl _ hr,hf⟩
theorem R8 {w:World} {G:Y6} {v:Value} {ls:List AV} (hh:Yq w G (.vec v ls::h2)) (hls:∀y∈ls,y.leaves=[y]) :
  ∃G',Yq w G' (.tail v 1::h2)/\YP w G (.vec v ls::h2) w G' (.tail v 1::h2)/\RV w G' (.sl ls (some v)) v:=by
 have hpw:=Wv.1 hh.apart
 rcases hh.ok _ (X1 ..) with ⟨rfl,rfl⟩|⟨g,cap,cur,e,rfl,h1,h3,h4,h5⟩
 ·obtain ⟨k1,k2⟩:=Iu (sz:=1) (hh.sub (Jm _ _))
  refine ⟨G,k1,⟨rfl,rfl,rfl,YR _,fun _ _ h=>h,fun _ _=>.inl rfl,fun _ _ _ h=>.inl h,?_⟩,.nil (by simp)⟩
  rintro b o _ ⟨r,hr,hf⟩
  rcases YB.1 hr with rfl|hr
  ·exact hf.elim
  ·exact ⟨r,Xl _ hr,hf⟩
 ·let G':Y6:=fun b o=>G b o∨(b=g/\o<ls.length)
  have hA:Vr G w w G':=⟨fun _ _ _=>rfl,fun _ _ h=>.inl h⟩
  have hmem:Res.vec (.slice (some ⟨g,0,none⟩) ls.length cap) ls∈Res.vec (.slice (some ⟨g,0,none⟩) ls.length cap) ls::h2:=X1 ..
  refine ⟨G',⟨fun r hr=>?_,Wv.2 ⟨fun r hr b o f1 f2=>hpw.1 r hr b o f1.1 f2,hpw.2⟩,fun r hr b o hf hg=>?_,fun b o hg=>?_⟩,
   ⟨rfl,rfl,rfl,YR _,fun _ _ h=>.inl h,fun _ _=>.inl rfl,fun b o _ hg=>hg.imp id fun ⟨e1,_⟩=>⟨_,hmem,e1⟩,?_⟩,?_⟩
  ·rcases YB.1 hr with rfl|hr
   ·exact .inr ⟨g,ls.length,cap,cur,e,rfl,h1,h3,by rw [h4,Kj]⟩
   ·have h0:=hh.ok r (Xl _ hr)
    cases r with
    | obj b ks=>obtain ⟨cs,el,k1,k2⟩:=h0;exact ⟨cs,el,k1,k2.mono hA⟩
    | tail v k=>exact h0
    | ge s=>exact h0
    | vec v ks=>
     rcases h0 with ⟨rfl,h0⟩|⟨g2,cap2,cur2,el,rfl,k1,k2,k3,k4⟩
     ·exact .inl ⟨rfl,h0⟩
     ·exact .inr ⟨g2,cap2,cur2,el,rfl,k1,k2,k3,k4.mono hA⟩
    | many ts=>exact h0
    | own B m=>exact h0
    | row v k ks=>
     rcases h0 with ⟨rfl,h0⟩|⟨g2,len2,cap2,cur2,el,rfl,k1,k2,k3,k4,k5⟩
     ·exact .inl ⟨rfl,h0⟩
     ·exact .inr ⟨g2,len2,cap2,cur2,el,rfl,k1,k2,k3,k4,k5.mono hA⟩
  ·rcases YB.1 hr with rfl|hr2
   ·obtain ⟨hbg,hf2⟩:=hf
    rcases hg with hg|⟨_,hg⟩
    ·exact hh.prot _ hmem b o hbg hg
    ·rw [Kj] at hf2;omega
   ·rcases hg with hg|⟨hbg,_⟩
    ·exact hh.prot r (Xl _ hr2) b o hf hg
    ·exact hpw.1 r hr2 b o hbg hf
  ·rcases hg with hg|⟨rfl,_⟩
   ·exact hh.lt b o hg
   ·exact (Uh.1 h1).1
  ·rintro b o _ ⟨r,hr,hf⟩
   rcases YB.1 hr with rfl|hr
   ·exact ⟨_,hmem,hf.1⟩
   ·exact ⟨r,Xl _ hr,hf⟩
  ·have hflat:Ze ls=ls:=by
    clear h5 h3 hh hpw hmem hA h4
    induction ls with
    | nil=>rfl
    | cons y r ih=>
     simp only [Ze,A4,hls y (X1 ..),List.singleton_append]
     rw [show r.flatMap AV.leaves=Ze r from rfl,ih fun q hq=>hls q (Xl _ hq)]
   refine .sl (k:=1) (fun x hx=>by cases hx;rfl) h3 (WF.of_flat ls (fun y hy=>by rw [hls y hy];rfl) ?_)
   rw [hflat]
   refine W9.of_cells (h5.mono hA) fun j u hj=>?_
   have hjl:j<ls.length:=by
    have:=(XA.1 hj).1
    have h6:=h5.length
    omega
   rw [Qt,Zk hjl] at hj
   refine ⟨?_,.inr ⟨rfl,by omega⟩⟩
   rw [WS,cell_of_row w g j cur e (0,0) h1]
   simpa using hj
def Az (P:Program) (ops:Array Oper) (F:Fr) (k:Nat):Option (Int × Int × AV):=
 match (Zz ops k).op with
 | .makeSlice t l c=>match P.underlying t with
  | some (.slice e)=>match P.info? e with
   | some i=>match i.zero with
    | some z=>match z.cells.toList,Nat.beq i.size 1&&Nat.ble i.bytes 32 with
     | [zv],true=>match F.ev l,F.ev c with
      | .val (.int _ l),.val (.int _ c)=>some (l,c,AV.ofVal zv)
      | _,_=>none
     | _,_=>none
    | none=>none
   | none=>none
  | _=>none
 | _=>none
theorem Fl {w:World} {G:Y6} {x:AV} {v:Value} (h:RV w G x v):∀n,YI w G (List.replicate n x) (List.replicate n v)
 | 0=>.nil
 | n+1=>.cons h (Fl h n)
theorem NB (zv:Value) (n:Nat):(madeCells #[zv] n).toList=List.replicate n zv:=by
 apply List.ext_getElem
 ·simp [madeCells]
 ·intro i h1 h2
  simp [madeCells,Nat.mod_one]
theorem OY {w:World} {G:Y6} {a:Act} (hF:FR w G n F a) {l c:Nat} {zv:AV} (hm:Az P ops F k=some ((l:Int),(c:Int),zv)) (hlc:l<=c) (hc:c<=4294967296) :
  ∃(e:TypeId) (z:Value),zv=AV.ofVal z/\(execOp a.eval (Zz ops k)).run P w=.ok (.value (.slice (some ⟨w.heap.size,0,none⟩) l c)) (w.alloc (.cells (madeCells #[z] c) e)):=by
 unfold Az at hm
 generalize hoo:Zz ops k=o at hm
 obtain ⟨dst,op,type,pos,after,guard⟩:=o
 cases op<;>simp only at hm<;>try (cases hm)
 rename_i t lo co
 split at hm
 case h_2=>cases hm
 rename_i e ht
 split at hm
 case h_2=>cases hm
 rename_i i hi
 split at hm
 case h_2=>cases hm
 rename_i z hz
 split at hm
 case h_2=>cases hm
 rename_i z1 hzl hb
 simp only [XI] at hb
 split at hm
 case h_2=>cases hm
 rename_i k1 l' k2 c' hl hco
 simp only [XY,Prod.mk.injEq] at hm
 obtain ⟨rfl,rfl,rfl⟩:=hm
 have v1:=hF.ev lo
 have v2:=hF.ev co
 rw [hl] at v1
 rw [hco] at v2
 have v1:=v1.val_inv
 have v2:=v2.val_inv
 have hs:=U2 hb.1
 have hbytes:=WE hb.2
 have hzc:z.cells=#[z1]:=by rw [<-VN (xs:=z.cells),hzl]
 have hr:=run_make (P:=P) w t e i z ht hi hz k1 k2 (l:Int) (c:Int) om om (by
  have h1:(i.bytes:Int)<=32:=by omega
  have h2:(i.bytes:Int)*(c:Int)<=32*(c:Int):=Int.mul_le_mul_of_nonneg_right h1 om
  omega) om
 rw [hzc,hs,Kj] at hr
 simp only [VW] at hr
 refine ⟨e,z1,rfl,?_⟩
 simp only [execOp,v1,v2]
 exact V1 hr
theorem Z7z {K:Fr->List Res->Prop} {l c:Nat} {zv:AV} (hd:WV n (Zz ops k)=true) (hm:Az P ops F k=some ((l:Int),(c:Int),zv)) (hlc:l<=c) (hc:c<=4294967296)
  (hK:∀v,K (F.put (Zz ops k).dst (.val v)) (.vec v (List.replicate l zv)::h)):W8 P n (Zz ops k) F h K:=by
 intro Q w G a hF hh
 obtain ⟨e,z,rfl,hr⟩:=OY hF hm hlc hc
 unfold Oper.wp
 rw [hr]
 obtain ⟨j1,j2⟩:=hh.alloc_vec (madeCells #[z] c) e (ls:=List.replicate l (AV.ofVal z)) (cap:=c) (by simpa using hlc) (by simp [madeCells]) (by
  rw [NB,List.take_replicate,List.length_replicate,Va hlc]
  exact Fl (RV.ofVal z) l)
 rw [List.length_replicate] at j1 j2
 exact ⟨_,_,G,hK _,(hF.mono (j2.agree hh)).put (U7 hd) .val,j1,j2⟩
end
section
variable {P:Program} {n:Nat} {ops:Array Oper} {B:Fr->List Res->Prop} {k:Nat} {F:Fr} {h h2:List Res}
variable {T:List (Nat × List Nat)} {fuel fuel':Nat} {done:List Nat}
theorem Z7t {K:Fr->List Res->Prop} {ls:List AV} {len:Nat} (hd:WV n (Zz ops k)=true) (ha:UY P ops F k=some (ls,len,1)) (hlen:ls.length=len)
  (hK:∀v,K (F.put (Zz ops k).dst (.val v)) (.vec v ls::h)):W8 P n (Zz ops k) F h K:=by
 unfold UY at ha
 generalize hoo:Zz ops k=q at ha hd hK
 obtain ⟨dst,op,type,pos,after,guard⟩:=q
 cases op<;>simp only at ha<;>try (cases ha)
 rename_i t ln parts
 split at ha
 case h_2=>cases ha
 rename_i e ht
 split at ha
 case h_2=>cases ha
 rename_i i hi
 split at ha
 case h_2=>cases ha
 rename_i hc
 simp only [XI] at hc
 split at ha
 case h_2=>cases ha
 rename_i ls' hf
 simp only [XY,Prod.mk.injEq] at ha
 obtain ⟨rfl,rfl,Xk⟩:=ha
 subst hlen
 intro Q w G a hF hh
 obtain ⟨cs,h1,h2⟩:=Fv hF parts ht hi rfl hc.1 hc.2 hf
 have hr:(execOp a.eval { dst:=dst,op:=.buildSlice t ls'.length parts,type:=type,pos:=pos,after:=after,guard:=guard }).run P w =
   .ok (.value (.slice (some ⟨w.heap.size,0,none⟩) ls'.length ls'.length)) (w.alloc (.cells cs e)):=by
  simp only [execOp]
  exact V1 h2
 unfold Oper.wp
 rw [hr]
 have hlc:=h1.length
 simp only [QM] at hlc
 obtain ⟨j1,j2⟩:=hh.alloc_vec cs e (ls:=ls') (cap:=ls'.length) (YR _) hlc (by rw [<-hlc];simpa [WA] using h1)
 exact ⟨_,_,G,hK _,(hF.mono (j2.agree hh)).put (U7 hd) .val,j1,j2⟩
theorem Z4k (ls:List AV) {len:Nat} (hk:YS n ops F k=true) (ha:UY P ops F k=some (ls,len,1)) (hlen:ls.length=len)
  (hK:∀v,SI P n ops B (k+1) (F.put (Zz ops k).dst (.val v)) (.vec v ls::h)):SI P n ops B k F h:=
 T9 hk (Z7t (Vi hk).2.1 ha hlen hK)
theorem Z4q (j:Nat) {v:Value} {ls:List AV} {i:Nat} {y:AV} (ls':List AV) (hk:YS n ops F k=true) (hs:storeAt P ops F k=some (Q1 v,i,[y])) (hp:U0 [j] h=some ([.vec v ls],h2))
  (hlt:i<ls.length) (he:ls.set i y=ls') (H:SI P n ops B (k+1) F (.vec v ls'::h2)):SI P n ops B k F h:=
 T9 hk (W8.perm (VU hp) (O6 hs hlt (by rw [he];exact H)))
theorem Z0e (i j:Nat) (js bs:List Nat) {v:Value} {ls:List AV} {q:Nat} {y:AV} (ls':List AV) (hk:YS n ops F i=true) (hs:storeAt P ops F i=some (Q1 v,q,[y]))
  (hp:U0 [j] h=some ([.vec v ls],h2)) (hlt:q<ls.length) (he:ls.set q y=ls') (ho:VB ops i T=bs) (hj:js.map (fun j=>(Wj h2)[j]?)=bs.map some)
  (H:YM P n ops B (T.filter fun t=>!WB ops i t.1) fuel (done++[i]) F (.vec v ls'::h2)):V4 P n ops B T fuel done F h i:=
 QB [j] js bs hk hp ho hj (O6 (h2:=[]) hs hlt (by rw [he];exact H))
theorem Z4o (j:Nat) (ls':List AV) {v:Value} {ls xs:List AV} {hx:Option Value} (hk:YS n ops F k=true) (ha:U3 P ops F k=some (.val v,.sl xs hx,1)) (hp:U0 [j] h=some ([.vec v ls],h2))
  (hxs:∀y∈xs,y.leaves=[y]) (hone:xs.all AV.one=true) (hbound:ls.length+xs.length<=4294967296) (he:ls++xs=ls')
  (hK:∀v',SI P n ops B (k+1) (F.put (Zz ops k).dst (.val v')) (.vec v' ls'::h2)):SI P n ops B k F h:=
 T9 hk (W8.perm (VU hp) (O5 (Vi hk).2.1 ha hxs hone hbound fun v'=>by rw [he];exact hK v'))
theorem Z0d (i j:Nat) (js bs:List Nat) (ls':List AV) {v:Value} {ls xs:List AV} {hx:Option Value} (hk:YS n ops F i=true) (ha:U3 P ops F i=some (.val v,.sl xs hx,1))
  (hp:U0 [j] h=some ([.vec v ls],h2)) (hxs:∀y∈xs,y.leaves=[y]) (hone:xs.all AV.one=true) (hbound:ls.length+xs.length<=4294967296) (he:ls++xs=ls')
  (ho:VB ops i T=bs) (hj:js.map (fun j=>(Wj h2)[j]?)=bs.map some)
  (hK:∀v',YM P n ops B (T.filter fun t=>!WB ops i t.1) fuel (done++[i]) (F.put (Zz ops i).dst (.val v')) (.vec v' ls'::h2)):V4 P n ops B T fuel done F h i:=
 QB [j] js bs hk hp ho hj (O5 (h2:=[]) (Vi hk).2.1 ha hxs hone hbound fun v'=>by rw [he];exact hK v')
theorem Z4p (ls:List AV) {l c:Nat} {zv:AV} (hk:YS n ops F k=true) (hm:Az P ops F k=some ((l:Int),(c:Int),zv)) (hlc:l<=c) (hc:c<=4294967296) (he:List.replicate l zv=ls)
  (hK:∀v,SI P n ops B (k+1) (F.put (Zz ops k).dst (.val v)) (.vec v ls::h)):SI P n ops B k F h:=
 T9 hk (Z7z (Vi hk).2.1 hm hlc hc fun v=>by rw [he];exact hK v)
theorem Z05 (i:Nat) (f:FuncId) (as1 xs:List AV) (is js ks:List Nat) {h1:List Res} (bs:List Res) {R:AV->List Res->Prop} (hk:YS n ops F i=true) (hc:KS P ops F i=some (f,as1))
  (hp:U0 is h=some (h1++bs,h2)) (ho:VB ops i T=ks) (hj:js.map (fun j=>(Wj h2)[j]?)=ks.map some)
  (H:W2 P f xs h1 R) (hargs:Tc bs as1 xs) (hb:∀r∈bs,∃v ls,r=.vec v ls/\∀y∈ls,∃u,y=.val u)
  (hclean:∀r h',R r h'->QP h' r/\∀q∈h',DW q)
  (hK:∀r h',R r h'->YM P n ops B (T.filter fun t=>!WB ops i t.1) fuel (done++[i]) (F.put (Zz ops i).dst r) (h'++bs++h2)):V4 P n ops B T fuel done F h i:=
 QB is js ks hk hp ho hj (HS (h2:=[]) (Vi hk).2.1 hc (by simp) (H.lend bs hargs hb hclean) fun r h' ⟨h1',hr,he⟩=>by rw [he];simpa using hK r h1' hr)
def Uu (h h':List Res):Prop:=∀w G,Yq w G h->∃G',Yq w G' h'/\YP w G h w G' h'
theorem XD {h':List Res} (ht:Uu h h') (H:SI P n ops B k F h'):SI P n ops B k F h:=by
 intro Q w G a hF hh hk
 obtain ⟨G',h1,h2⟩:=ht w G hh
 exact H Q w G' a (hF.mono (h2.agree hh)) h1 fun F2 h2' G2 a2 w2 b1 b2 b3 b4=>hk F2 h2' G2 a2 w2 b1 b2 b3 (h2.trans b4)
theorem QS {c:Code} {A:Ww} {h':List Res} (ht:Uu h h') (H:YF P n c A F h'):YF P n c A F h:=by
 intro w G a hF hh
 obtain ⟨G',h1,h2⟩:=ht w G hh
 exact wp_mono (H w G' a (hF.mono (h2.agree hh)) h1) fun e a' w' hc=>hc.trans h2
theorem Zcl:Uu h (.vec (.slice none 0 0) []::h):=fun _ _ hh=>let ⟨a,b⟩:=Zcz hh;⟨_,a,b⟩
theorem Zcm (j m:Nat) {v:Value} {ls:List AV} (hp:U0 [j] h=some ([.vec v ls],h2)) (hle:m<=ls.length):Uu h (.vec (Ji v m) (ls.take m)::h2):=by
 intro w G hh
 have hp':=VU hp
 obtain ⟨a,b⟩:=Zd1 (hh.perm hp') hle
 exact ⟨G,a,b.perm hp'.symm (TJ _)⟩
theorem PW (is:List Nat) {h' d:List Res} (hp:U0 is h=some (h',d)):Uu h h':=by
 intro w G hh
 have hp':=VU hp
 refine ⟨G,(hh.perm hp').left,?_⟩
 exact ((YP.refl w G h).perm (TJ _) hp').sub' (List.sublist_append_left _ _)
end
theorem R7 (xs:LI):∀y∈Z7 xs,∃u,y=AV.val u:=by intro y hy;simp only [Z7,Xy] at hy;obtain ⟨x,_,rfl⟩:=hy;exact ⟨_,rfl⟩
theorem HI (xs:LI):∀y∈Z7 xs,y.leaves=[y]:=by intro y hy;simp only [Z7,Xy] at hy;obtain ⟨x,_,rfl⟩:=hy;rfl
theorem NU (xs:LI):(Z7 xs).all AV.one=true:=by rw [KJ];intro y hy;simp only [Z7,Xy] at hy;obtain ⟨x,_,rfl⟩:=hy;rfl
theorem P6 (xs:LI) (i:Nat) (x:Int):(Z7 xs).set i (.i x)=Z7 (xs.set i x):=by simp [Z7,List.map_set]
theorem J9:∀r∈([]:List Res),∃v ls,r=Res.vec v ls/\∀y∈ls,∃u,y=AV.val u:=by simp
theorem K5 {v:Value} {xs:LI} {bs:List Res} (h:∀r∈bs,∃v ls,r=Res.vec v ls/\∀y∈ls,∃u,y=AV.val u) :
  ∀r∈Res.vec v (Z7 xs)::bs,∃v ls,r=Res.vec v ls/\∀y∈ls,∃u,y=AV.val u:=by
 intro r hr
 rcases YB.1 hr with rfl|hr
 ·exact ⟨_,_,rfl,R7 xs⟩
 ·exact h r hr
section
variable {P:Program} {n:Nat} {c:Code} {A:Ww} {F:Fr} {h:List Res}
@[reducible] def Ee (K:Fr->List Res->Prop) (A:Ww):Ww:=fun e F h=>
 match e with
 | .normal=>∃F' h',K F' h'/\UM F h F' h'
 | e=>A e F h
theorem Rp {y:Code} (K:Fr->List Res->Prop) (H:YF P n c (Ee K A) F h) (hB:∀F' h',K F' h'->YF P n y A F' h'):YF P n c (FP P n y A) F h:=by
 refine IS (fun e F1 h1 hq=>?_) H
 cases e with
 | normal=>obtain ⟨F',h',k1,k2⟩:=hq;exact B4 k2 (hB F' h' k1)
 | exit id=>exact hq
 | goto l=>exact hq
 | ret=>exact hq
 | panic ch=>exact hq
 | outgrown=>exact hq
theorem Yp {ops:Array Oper} {B:Fr->List Res->Prop} {k:Nat} {F2:Fr} {h2:List Res} (hw:UM F h F2 h2) (J:SI P n ops B k F2 h2):SI P n ops B k F h:=Fy hw J
theorem Ro {y:Code} {A2:Ww} (K:Fr->List Res->Prop) (hA:∀F h,A .normal F h=YF P n y A2 F h) (H:YF P n c (Ee K A) F h) (hB:∀F' h',K F' h'->YF P n y A2 F' h'):YF P n c A F h:=by
 refine IS (fun e F1 h1 hq=>?_) H
 cases e with
 | normal=>obtain ⟨F',h',k1,k2⟩:=hq;rw [hA];exact B4 k2 (hB F' h' k1)
 | exit id=>exact hq
 | goto l=>exact hq
 | ret=>exact hq
 | panic ch=>exact hq
 | outgrown=>exact hq
end
end Go.Abs
section
namespace Go.Abs
inductive Keep:Fr->Fr->Prop
 | z {F:Fr}:Keep F []
 | r {F:Fr}:Keep F F
 | k {F F':Fr} {x:Nat × AV} (h:Keep F F'):Keep (x::F) (x::F')
 | d {F F':Fr} {x:Nat × AV} (h:Keep F F'):Keep (x::F) F'
 | p {F F':Fr} {d:Option Tmp} {x:AV} (h:Keep F F'):Keep (F.put d x) F'
 | q {F F':Fr} {d:Option Tmp} {x:AV} (t:Nat) (h:Keep F F'):Keep (F.put d x) ((t,x)::F')
 | n {F F':Fr} (t:Nat) (x:AV) (h:Keep F F'):Keep F ((t,x)::F')
def Xo (is:List Nat) (h:List Res):List Res:=((U0 is h).map (·.2)).getD []
def XW (is:List Nat) (h:List Res):Option (List Res):=(U0 is h).map (·.1)
theorem V8 {is:List Nat} {h h1:List Res} (hp:XW is h=some h1):U0 is h=some (h1,Xo is h):=by
 unfold XW at hp
 unfold Xo
 cases hq:U0 is h with
 | none=>rw [hq] at hp;cases hp
 | some x=>rw [hq] at hp;cases hp;rfl
abbrev Z6 (xs:LI):AV:=.sl (Z7 xs) none
abbrev K7 (xs:List LI):AV:=.sl (W0 xs) none
abbrev QG (xs:List Y1):AV:=.sl (Xs xs) none
abbrev Ya (xs:List Zd):AV:=.sl (Yo xs) none
abbrev Wz (xs:List Z3):AV:=.sl (Zv xs) none
abbrev Xb (xs:List Z5):AV:=.sl (Yt xs) none
abbrev TT (xs:List ZX):AV:=.sl (Yr xs) none
abbrev ZT (xs:LI) (v:Value):AV:=.sl (Z7 xs) (some v)
abbrev Cf (xs:List LI) (v:Value):AV:=.sl (W0 xs) (some v)
abbrev Ff (xs:List Y1) (v:Value):AV:=.sl (Xs xs) (some v)
abbrev Jb (xs:List Zd) (v:Value):AV:=.sl (Yo xs) (some v)
abbrev YE (xs:List Z3) (v:Value):AV:=.sl (Zv xs) (some v)
abbrev Ue (xs:List Z5) (v:Value):AV:=.sl (Yt xs) (some v)
abbrev XK (xs:List ZX) (v:Value):AV:=.sl (Yr xs) (some v)
abbrev C9 (c:Y1):List AV:=[Z6 c.fields]
abbrev UW (d:Zd):List AV:=[.i d.frm,.i d.to_,QG d.cons]
abbrev Xa (s:Z3):List AV:=[.i s.op,.i s.num,.i s.into,Z6 s.args,Xb s.kids]
abbrev YU (b:Z5):List AV:=[Wz b.steps,.i b.result]
abbrev Tj (r:ZX):List AV:=[Z6 r.params,Z6 r.lent,.i r.result,Wz r.body.steps,.i r.body.result]
abbrev Yz (n:Zq):List AV:=[Ya n.decls,TT n.routines]
abbrev Z7a:Value:=.slice none 0 0
structure Hd where
 a:Option Addr
 l:Nat
 c:Nat
abbrev Hd.v (g:Hd):Value:=.slice g.a g.l g.c
abbrev Hd.cut (g:Hd) (m:Nat):Hd:=⟨g.a,m,g.c⟩
abbrev hN:Hd:=⟨none,0,0⟩
abbrev AV.h (g:Hd):AV:=.val g.v
abbrev rV (g:Hd) (xs:LI):Res:=.vec g.v (Z7 xs)
section
variable {P:Program} {n:Nat} {c:Code} {A:Ww} {F:Fr} {h:List Res} {ops:Array Oper} {B:Fr->List Res->Prop} {k:Nat}
variable {T:List (Nat × List Nat)} {fuel:Nat} {done:List Nat}
theorem aq (ha:YF P n (Vt c) (FP P n (QW c) A) F h) (hk:XH c=3:=by kernel_rfl):YF P n c A F h:=Gg hk ha
theorem ar (hs:SI P n (Tz (Vt c)) (fun F h=>YF P n (QW c) A F h) 0 F h) (hk:XH c=3:=by kernel_rfl) (hk1:XH (Vt c)=1:=by kernel_rfl):YF P n c A F h:=Rs hk hk1 (MN hs)
theorem az (hs:SI P n (Tz c) (A .normal) 0 F h) (hk:XH c=1:=by kernel_rfl):YF P n c A F h:=IT hk (MN hs)
theorem aD (k:Nat) (hs:YM P n (Tz (Vt c)) (fun F h=>YF P n (QW c) A F h) [] k [] F h) (hk:XH c=3:=by kernel_rfl) (hk2:XH (Vt c)=2:=by kernel_rfl) (hm:P.follows .mixedOrders=true:=by kernel_rfl)
  (Xk:(Tz (Vt c)).size=k:=by kernel_rfl):YF P n c A F h:=Rt hk hk2 hm Xk hs
theorem aE (k:Nat) (hs:YM P n (Tz c) (A .normal) [] k [] F h) (hk:XH c=2:=by kernel_rfl) (hm:P.follows .mixedOrders=true:=by kernel_rfl)
  (Xk:(Tz c).size=k:=by kernel_rfl):YF P n c A F h:=IU hk hm Xk hs
theorem ak (h0:A .normal F h) (hk:XH c=0:=by kernel_rfl):YF P n c A F h:=Rx hk h0
theorem ax (id:Nat) (h0:A (.exit id) F h) (hk:XH c=7:=by kernel_rfl) (hi:Qz c=id:=by kernel_rfl):YF P n c A F h:=Rq id hk hi h0
theorem ab (id:Nat) (ha:YF P n (Vt c) (E1 id A) F h) (hk:XH c=5:=by kernel_rfl) (hi:Qz c=id:=by kernel_rfl):YF P n c A F h:=Rn id hk hi ha
theorem ac (b:Bool) {p:Prop} (hp:b=true↔p) (h1:p->YF P n (Vt c) A F h) (h2:¬p->YF P n (QW c) A F h) (hk:XH c=4:=by kernel_rfl) (hc:F.ev (B8 c)=.val (.bool b):=by kernel_rfl) :
  YF P n c A F h:=Gf hk hc hp h1 h2
theorem WI (h1:YF P n (Vt c) A F h) (hk:XH c=4:=by kernel_rfl) (hc:F.ev (B8 c)=.val (.bool true):=by kernel_rfl):YF P n c A F h:=
 Gf (p:=True) hk hc (by simp) (fun _=>h1) (fun q=>absurd trivial q)
theorem WH (h1:YF P n (QW c) A F h) (hk:XH c=4:=by kernel_rfl) (hc:F.ev (B8 c)=.val (.bool false):=by kernel_rfl):YF P n c A F h:=
 Gf (p:=False) hk hc (by simp) (fun q=>q.elim) (fun _=>h1)
theorem al (Inv:Nat->Fr->List Res->Prop) (m0:Nat) (F0:Fr) (h0:List Res) (hi:Inv m0 F0 h0) (hw:UM F h F0 h0)
  (hr:∀m F h,Inv m F h->YF P n (Vt c) (HO Inv m A) F h) (hk:XH c=6:=by kernel_rfl):YF P n c A F h:=Rr Inv hk hi hw hr
theorem wk {F':Fr} {h1 h':List Res} (is:List Nat) (hF:F.Le F') (e:h1=h':=by exact rfl) (hp:XW is h=some h1:=by kernel_rfl):UM F h F' h':=e▸Zdb is hF (V8 hp)
theorem fl {F F':Fr} (h:F'.map (fun p=>(F.get p.1).like p.2)=F'.map (·.2):=by kernel_rfl):F.Le F':=Mh h
theorem fc {F F':Fr} {t:Nat} {x y:AV} (hxy:Zc x y) (hr:F.Le F') (hx:F.get t=x:=by kernel_rfl):F.Le ((t,y)::F'):=BW hx hxy hr
theorem lr (x:AV):Zc x x:=Zc.refl x
abbrev nl:AV:=.sl [] (some (.slice none 0 0))
theorem Keep.w {F F':Fr} {a b c d:Nat×AV} (h:Keep F F'):Keep (a::b::c::d::F) (a::b::c::d::F'):=.k (.k (.k (.k h)))
theorem dq {p:Prop} [Decidable p]:decide p=true↔p:=decide_eq_true_iff
theorem fr {F F':Fr} {t:Nat} {x:AV} (hr:F.Le F') (hx:F.get t=x:=by kernel_rfl):F.Le ((t,x)::F'):=fc (lr _) hr hx
theorem li {a b:Int} (h:a=b:=by exact ob):Zc (.i a) (.i b):=Zc.i h
theorem lb {a b:Bool} (h:a=b):Zc (.b a) (.b b):=Zc.b h
theorem r1 {fn:Func} {R:AV->List Res->Prop} {e:Exit} {h1 h':List Res} {r:AV} (is:List Nat) (hR:R r h') (eq:h1=h':=by exact rfl) (he:(match e with|.normal|.ret=>true|_=>false)=true:=by kernel_rfl)
  (hr:Qk P F h fn.results.toList []=some ([r],[]):=by kernel_rfl) (hp:XW is h=some h1:=by kernel_rfl):Ab P fn R e F h:=
 HU he [] hr (by simp) ⟨_,eq▸VU (V8 hp)⟩ (Zc.refl _) hR
theorem r2 {fn:Func} {R:AV->List Res->Prop} {e:Exit} {h1 h':List Res} {r:AV} (is:List Nat) (xs:List AV) (hR:R r h') (hle:Zc (JX xs) r) (eq:h1=h':=by exact rfl) (he:(match e with|.normal|.ret=>true|_=>false)=true:=by kernel_rfl)
  (hr:Qk P F h fn.results.toList []=some (xs,[]):=by kernel_rfl) (hp:XW is h=some h1:=by kernel_rfl):Ab P fn R e F h:=
 HU he [] hr (by simp) ⟨_,eq▸VU (V8 hp)⟩ hle hR
theorem r3 {fn:Func} {R:AV->List Res->Prop} {e:Exit} {h1 h':List Res} {r:AV} (is:List Nat) (xs:List AV) (hints:List Nat) (es:List (Nat × Nat)) (hR:R r h') (hle:Zc (JX xs) r)
  (eq:h1=h':=by exact rfl) (he:(match e with|.normal|.ret=>true|_=>false)=true:=by kernel_rfl)
  (hr:Qk P F h fn.results.toList hints=some (xs,es):=by kernel_rfl) (hp:XW is h=some h1:=by kernel_rfl) (hes:∀p∈es,p.1=p.2:=by simp):Ab P fn R e F h:=
 HU he hints hr hes ⟨_,eq▸VU (V8 hp)⟩ hle hR
theorem Za (h0:A .ret F h) (hk:XH c=8:=by kernel_rfl):YF P n c A F h:=Ru hk h0
theorem ie (hB:B F h) (hk:Nat.ble ops.size k=true:=by kernel_rfl):SI P n ops B k F h:=Z4i hk hB
theorem io (x':AV) (x:AV) (hx:Zc x x') (H:SI P n ops B (k+1) (F.put (Zz ops k).dst x') h) (hk:YS n ops F k=true:=by kernel_rfl) (he:TB P (Zz ops k) F h 0=some (x,[]):=by kernel_rfl):SI P n ops B k F h:=
 Z4l x' hk he hx H
theorem Zp {x:AV} (hs:Xr P (Zz ops k) F h [] x) (H:SI P n ops B (k+1) (F.put (Zz ops k).dst x) h) (hk:YS n ops F k=true:=by kernel_rfl):SI P n ops B k F h:=Db hk hs H
theorem ia (r s:Int) (H:SI P n ops B (k+1) (F.put (Zz ops k).dst (.i r)) h) (hb:-9223372036854775808<=r/\r<=9223372036854775807:=by omega) (hs:s=r:=by omega)
  (hk:YS n ops F k=true:=by kernel_rfl) (ha:KP ops F k=some s:=by kernel_rfl):SI P n ops B k F h:=Z4e r hk ha hs hb H
theorem ic (is:List Nat) {f:FuncId} {xs:List AV} {h1:List Res} {R:AV->List Res->Prop} (H:W2 P f xs h1 R)
  (hK:∀r h',R r h'->SI P n ops B (k+1) (F.put (Zz ops k).dst r) (h'++Xo is h)) (hk:YS n ops F k=true:=by kernel_rfl) (hc:KS P ops F k=some (f,xs):=by kernel_rfl)
  (hp:XW is h=some h1:=by kernel_rfl):SI P n ops B k F h:=Z4f f xs is hk hc (V8 hp) H hK
theorem iA (ls:List AV) (hK:∀b,SI P n ops B (k+1) (F.put (Zz ops k).dst (.p b 0)) (.obj b ls::h)) (hk:YS n ops F k=true:=by kernel_rfl) (ha:BG P ops F k=some ls:=by kernel_rfl):SI P n ops B k F h:=
 Z4c ls hk ha hK
theorem iS (j b o:Nat) (xs ls ls':List AV) (H:SI P n ops B (k+1) F (.obj b ls'::Xo [j] h)) (hk:YS n ops F k=true:=by kernel_rfl) (hs:storeAt P ops F k=some (b,o,xs):=by kernel_rfl)
  (hp:XW [j] h=some [.obj b ls]:=by kernel_rfl) (hle:Nat.ble (o+xs.length) ls.length=true:=by kernel_rfl) (he:ls.take o++xs++ls.drop (o+xs.length)=ls':=by kernel_rfl):SI P n ops B k F h:=
 Z4n j ls' hk hs (V8 hp) hle he H
theorem iL (es:List AV) (len sz:Nat) (hK:∀v,SI P n ops B (k+1) (F.put (Zz ops k).dst (.sl es (some v))) (.tail v sz::h)) (hk:YS n ops F k=true:=by kernel_rfl)
  (ha:UY P ops F k=some (Ze es,len,sz):=by kernel_rfl) (hlen:es.length=len:=by kernel_rfl) (hall:Ju es sz=true:=by kernel_rfl):SI P n ops B k F h:=Z4j es hk ha hlen hall hK
theorem ip (j:Nat) (es' es xs:List AV) (hv:Value) (hx:Option Value) (sz:Nat) (hes:∀y∈es,y.leaves.length=sz) (hxs:∀y∈xs,y.leaves.length=sz)
  (hone:(Ze xs).all AV.one=true) (hbound:es.length+xs.length<=4294967296) (he:es++xs=es') (hK:∀v',SI P n ops B (k+1) (F.put (Zz ops k).dst (.sl es' (some v'))) (.tail v' sz::Xo [j] h))
  (hk:YS n ops F k=true:=by kernel_rfl) (ha:U3 P ops F k=some (.sl es (some hv),.sl xs hx,sz):=by kernel_rfl) (hp:XW [j] h=some [.tail hv sz]:=by kernel_rfl):SI P n ops B k F h:=
 Z4d j es' hk ha (V8 hp) hes hxs hone hbound he hK
theorem ib {b:Bool} (t:Nat) (h1:b=true->SI P n ops B k ((t,.b true)::F) h) (h2:b=false->SI P n ops B k ((t,.b false)::F) h) (hF:F.get t=.b b:=by kernel_rfl):SI P n ops B k F h:=Z4m t hF h1 h2
theorem de (hB:B F h) (hr:Region.ready .any ops (Wt ops done)=[]:=by kernel_rfl):YM P n ops B T fuel done F h:=Z07 hr hB
theorem Z8 (i:Nat) (H:V4 P n ops B T fuel done F h i) (hr:Region.ready .any ops (Wt ops done)=[i]:=by kernel_rfl):YM P n ops B T (fuel+1) done F h:=Z0a hr H
theorem dx (i:Nat) {x:AV} (hx:Xr P (Zz ops i) F h [] x) (H:YM P n ops B ((i,[])::T) fuel (done++[i]) (F.put (Zz ops i).dst x) h) (hs:Region.noSelect ops=true:=by kernel_rfl) (hk:YS n ops F i=true:=by kernel_rfl)
  (hf:Region.free .any ops (Wt ops done) i=true:=by kernel_rfl) (hr:(Region.ready .any ops (Wt ops done)).contains i=true:=by kernel_rfl):YM P n ops B T (fuel+1) done F h:=Ef i hs hk hf hr hx H
theorem dn (i:Nat) (x' x:AV) (hx:Zc x x') (H:YM P n ops B ((i,[])::T) fuel (done++[i]) (F.put (Zz ops i).dst x') h) (he:TB P (Zz ops i) F h 0=some (x,[]):=by kernel_rfl) (hs:Region.noSelect ops=true:=by kernel_rfl) (hk:YS n ops F i=true:=by kernel_rfl)
  (hf:Region.free .any ops (Wt ops done) i=true:=by kernel_rfl) (hr:(Region.ready .any ops (Wt ops done)).contains i=true:=by kernel_rfl):YM P n ops B T (fuel+1) done F h:=Z09 i x' hs hk hf hr he hx H
theorem da (i:Nat) (r s:Int) (H:YM P n ops B ((i,[])::T) fuel (done++[i]) (F.put (Zz ops i).dst (.i r)) h) (hb:-9223372036854775808<=r/\r<=9223372036854775807:=by omega) (hse:s=r:=by omega)
  (ha:KP ops F i=some s:=by kernel_rfl) (hs:Region.noSelect ops=true:=by kernel_rfl) (hk:YS n ops F i=true:=by kernel_rfl)
  (hf:Region.free .any ops (Wt ops done) i=true:=by kernel_rfl) (hr:(Region.ready .any ops (Wt ops done)).contains i=true:=by kernel_rfl):YM P n ops B T (fuel+1) done F h:=Z03 i r hs hk hf hr ha hse hb H
theorem dc (i:Nat) (is js bs:List Nat) {f:FuncId} {xs:List AV} {h1:List Res} {R:AV->List Res->Prop} (H:W2 P f xs h1 R)
  (hK:∀r h',R r h'->YM P n ops B (T.filter fun t=>!WB ops i t.1) fuel (done++[i]) (F.put (Zz ops i).dst r) (h'++Xo is h))
  (hk:YS n ops F i=true:=by kernel_rfl) (hc:KS P ops F i=some (f,xs):=by kernel_rfl)
  (hp:XW is h=some h1:=by kernel_rfl) (ho:VB ops i T=bs:=by kernel_rfl) (hj:js.map (fun j=>(Wj (Xo is h))[j]?)=bs.map some:=by kernel_rfl):V4 P n ops B T fuel done F h i:=
 Z04 i f xs is js bs hk hc (V8 hp) ho hj H hK
theorem dA (i:Nat) (js bs:List Nat) (ls:List AV) (hK:∀b,YM P n ops B (T.filter fun t=>!WB ops i t.1) fuel (done++[i]) (F.put (Zz ops i).dst (.p b 0)) (.obj b ls::h))
  (hk:YS n ops F i=true:=by kernel_rfl) (ha:BG P ops F i=some ls:=by kernel_rfl) (ho:VB ops i T=bs:=by kernel_rfl) (hj:js.map (fun j=>(Wj h)[j]?)=bs.map some:=by kernel_rfl):V4 P n ops B T fuel done F h i:=
 Z01 i js bs ls hk ha ho hj hK
theorem dL (i:Nat) (js bs:List Nat) (es:List AV) (len sz:Nat) (hK:∀v,YM P n ops B (T.filter fun t=>!WB ops i t.1) fuel (done++[i]) (F.put (Zz ops i).dst (.sl es (some v))) (.tail v sz::h))
  (hk:YS n ops F i=true:=by kernel_rfl) (ha:UY P ops F i=some (Ze es,len,sz):=by kernel_rfl) (hlen:es.length=len:=by kernel_rfl) (hall:Ju es sz=true:=by kernel_rfl)
  (ho:VB ops i T=bs:=by kernel_rfl) (hj:js.map (fun j=>(Wj h)[j]?)=bs.map some:=by kernel_rfl):V4 P n ops B T fuel done F h i:=
 Z08 i js bs es hk ha hlen hall ho hj hK
theorem dp (i j:Nat) (js bs:List Nat) (es' es xs:List AV) (hv:Value) (hx:Option Value) (sz:Nat) (hes:∀y∈es,y.leaves.length=sz) (hxs:∀y∈xs,y.leaves.length=sz)
  (hone:(Ze xs).all AV.one=true) (hbound:es.length+xs.length<=4294967296) (he:es++xs=es')
  (hK:∀v',YM P n ops B (T.filter fun t=>!WB ops i t.1) fuel (done++[i]) (F.put (Zz ops i).dst (.sl es' (some v'))) (.tail v' sz::Xo [j] h))
  (hk:YS n ops F i=true:=by kernel_rfl) (ha:U3 P ops F i=some (.sl es (some hv),.sl xs hx,sz):=by kernel_rfl) (hp:XW [j] h=some [.tail hv sz]:=by kernel_rfl)
  (ho:VB ops i T=bs:=by kernel_rfl) (hj:js.map (fun q=>(Wj (Xo [j] h))[q]?)=bs.map some:=by kernel_rfl):V4 P n ops B T fuel done F h i:=
 Z02 i j js bs es' hk ha (V8 hp) hes hxs hone hbound he ho hj hK
theorem dS (i j:Nat) (js bs:List Nat) (b o:Nat) (xs ls ls':List AV) (H:YM P n ops B (T.filter fun t=>!WB ops i t.1) fuel (done++[i]) F (.obj b ls'::Xo [j] h))
  (hk:YS n ops F i=true:=by kernel_rfl) (hs:storeAt P ops F i=some (b,o,xs):=by kernel_rfl)
  (hp:XW [j] h=some [.obj b ls]:=by kernel_rfl) (hle:Nat.ble (o+xs.length) ls.length=true:=by kernel_rfl) (he:ls.take o++xs++ls.drop (o+xs.length)=ls':=by kernel_rfl) (ho:VB ops i T=bs:=by kernel_rfl)
  (hj:js.map (fun q=>(Wj (Xo [j] h))[q]?)=bs.map some:=by kernel_rfl):V4 P n ops B T fuel done F h i:=
 Z0c i j js bs ls' hk hs (V8 hp) hle he ho hj H
theorem db {b:Bool} (t:Nat) (h1:b=true->YM P n ops B T fuel done ((t,.b true)::F) h) (h2:b=false->YM P n ops B T fuel done ((t,.b false)::F) h) (hF:F.get t=.b b:=by kernel_rfl):YM P n ops B T fuel done F h:=Z0b t hF h1 h2
theorem rz:([]:List Res)=[]:=rfl
theorem rc {x:Res} {t t':List Res} (e:t=t'):x::t=x::t':=e▸rfl
theorem rv {g:Hd} {xs xs':LI} {t t':List Res} (h:xs=xs') (e:t=t'):rV g xs::t=rV g xs'::t':=h▸e▸rfl
theorem FA {v:Value} {ls:List AV} (H:∀g:Hd,v=g.v->SI P n ops B k F (.vec v ls::h)):SI P n ops B k F (.vec v ls::h):=by
 intro Q w G a hF hh
 obtain ⟨a',cap,rfl⟩:=Ad.form (hh.ok _ (X1 ..))
 exact H ⟨a',_,cap⟩ rfl Q w G a hF hh
theorem Z0k {v:Value} {ls:List AV} (H:∀g:Hd,v=g.v->YM P n ops B T fuel done F (.vec v ls::h)):YM P n ops B T fuel done F (.vec v ls::h):=by
 intro Q w G a SL hF hh
 obtain ⟨a',cap,rfl⟩:=Ad.form (hh.ok _ (X1 ..))
 exact H ⟨a',_,cap⟩ rfl Q w G a SL hF hh
theorem Xr.le {o:Oper} {x y:AV} {ks:List Nat} (hs:Xr P o F h ks x) (hx:Zc x y):Xr P o F h ks y:=by
 intro n w G a hF hh
 obtain ⟨v,h1,h2⟩:=hs n w G a hF hh
 exact ⟨v,hx _ _ _ h1,h2⟩
theorem JZ (j:Nat) (v:Hd) (xs:LI) (hl:Cb P ops F k=some (.h v):=by kernel_rfl) (hj:h[j]? = some (rV v xs):=by kernel_rfl):Xr P (Zz ops k) F h [] (.i xs.length):=by
 have:=Zc4 (P:=P) (F:=F) j hl hj
 rwa [Y9] at this
theorem Vk (j:Nat) (v:Hd) (xs:LI) (i:Int) (q:Nat) (h0:0<=i/\i<xs.length:=by omega) (hq:i.toNat=q:=by omega) (hi:Aw P ops F k=some (.h v,i,1):=by kernel_rfl) (hj:h[j]? = some (rV v xs):=by kernel_rfl) :
  Xr P (Zz ops k) F h [] (.val (.pointer (some ⟨Q1 v.v,q,none⟩))):=by
 have:=Zc3 (P:=P) (F:=F) j hi hj h0.1 (by rw [Y9];exact h0.2)
 rwa [hq] at this
theorem Tv (j:Nat) (v:Hd) (xs:LI) (q:Nat) (y:Int) (hy:xs[q]? = some y) (hl:HM P ops F k=some (.val (.pointer (some ⟨Q1 v.v,q,none⟩))):=by kernel_rfl) (hj:h[j]? = some (rV v xs):=by kernel_rfl) :
  Xr P (Zz ops k) F h [Q1 v.v] (.i y):=Zc5 (P:=P) (F:=F) j hl hj (ZY hy)
theorem Vz {ks:List Nat} {x:AV} (hs:Xr P (Zz ops k) F h ks x) (H:SI P n ops B (k+1) (F.put (Zz ops k).dst x) h) (hk:YS n ops F k=true:=by kernel_rfl):SI P n ops B k F h:=Db hk hs H
theorem VQ (i:Nat) {ks:List Nat} {x:AV} (hx:Xr P (Zz ops i) F h ks x) (H:YM P n ops B ((i,ks)::T) fuel (done++[i]) (F.put (Zz ops i).dst x) h) (hs:Region.noSelect ops=true:=by kernel_rfl) (hk:YS n ops F i=true:=by kernel_rfl)
  (hf:Region.free .any ops (Wt ops done) i=true:=by kernel_rfl) (hr:(Region.ready .any ops (Wt ops done)).contains i=true:=by kernel_rfl):YM P n ops B T (fuel+1) done F h:=Ef i hs hk hf hr hx H
theorem AS (j:Nat) (v:Hd) (xs:LI) (m:Nat) (hle:m<=xs.length:=by omega) (hi:Cp P ops F k=some (.h v,(m:Int)):=by kernel_rfl) (hj:h[j]? = some (rV v xs):=by kernel_rfl) :
  Xr P (Zz ops k) F h [] (.h (v.cut m)):=Zc6 (P:=P) (F:=F) j hi hj (by rw [Y9];exact hle)
theorem Ht (j:Nat) (v:Hd) (xs:LI) (q:Nat) (y:Int) (H:SI P n ops B (k+1) F (rV v (xs.set q y)::Xo [j] h)) (hlt:q<xs.length:=by omega) (hk:YS n ops F k=true:=by kernel_rfl)
  (hs:storeAt P ops F k=some (Q1 v.v,q,[.i y]):=by kernel_rfl) (hp:XW [j] h=some [rV v xs]:=by kernel_rfl):SI P n ops B k F h:=
 Z4q j _ hk hs (V8 hp) (by rw [Y9];exact hlt) (P6 _ _ _) H
theorem An (i j:Nat) (js bs:List Nat) (v:Hd) (xs:LI) (q:Nat) (y:Int) (H:YM P n ops B (T.filter fun t=>!WB ops i t.1) fuel (done++[i]) F (rV v (xs.set q y)::Xo [j] h)) (hlt:q<xs.length:=by omega)
  (hk:YS n ops F i=true:=by kernel_rfl)
  (hs:storeAt P ops F i=some (Q1 v.v,q,[.i y]):=by kernel_rfl) (hp:XW [j] h=some [rV v xs]:=by kernel_rfl) (ho:VB ops i T=bs:=by kernel_rfl)
  (hj:js.map (fun q=>(Wj (Xo [j] h))[q]?)=bs.map some:=by kernel_rfl):V4 P n ops B T fuel done F h i:=
 Z0e i j js bs _ hk hs (V8 hp) (by rw [Y9];exact hlt) (P6 _ _ _) ho hj H
theorem J8 (j:Nat) (v:Hd) (xs ys:LI) (hx:Option Value) (hK:∀v',SI P n ops B (k+1) (F.put (Zz ops k).dst (.h v')) (rV v' (xs++ys)::Xo [j] h)) (hbound:xs.length+ys.length<=4294967296:=by simp<;>omega)
  (hk:YS n ops F k=true:=by kernel_rfl) (ha:U3 P ops F k=some (.h v,.sl (Z7 ys) hx,1):=by kernel_rfl) (hp:XW [j] h=some [rV v xs]:=by kernel_rfl):SI P n ops B k F h:=
 Z4o j _ hk ha (V8 hp) (HI _) (NU _) (by simpa using hbound) (XQ _ _).symm fun v'=>FA fun g hg=>by subst hg;exact hK g
theorem dVP (i j:Nat) (js bs:List Nat) (v:Hd) (xs ys:LI) (hx:Option Value) (hK:∀v',YM P n ops B (T.filter fun t=>!WB ops i t.1) fuel (done++[i]) (F.put (Zz ops i).dst (.h v')) (rV v' (xs++ys)::Xo [j] h))
  (hbound:xs.length+ys.length<=4294967296:=by simp<;>omega) (hk:YS n ops F i=true:=by kernel_rfl) (ha:U3 P ops F i=some (.h v,.sl (Z7 ys) hx,1):=by kernel_rfl) (hp:XW [j] h=some [rV v xs]:=by kernel_rfl)
  (ho:VB ops i T=bs:=by kernel_rfl) (hj:js.map (fun q=>(Wj (Xo [j] h))[q]?)=bs.map some:=by kernel_rfl):V4 P n ops B T fuel done F h i:=
 Z0d i j js bs _ hk ha (V8 hp) (HI _) (NU _) (by simpa using hbound) (XQ _ _).symm ho hj fun v'=>Z0k fun g hg=>by subst hg;exact hK g
theorem iVL (xs:LI) (len:Nat) (hK:∀v,SI P n ops B (k+1) (F.put (Zz ops k).dst (.h v)) (rV v xs::h)) (hk:YS n ops F k=true:=by kernel_rfl) (ha:UY P ops F k=some (Z7 xs,len,1):=by kernel_rfl)
  (hlen:xs.length=len:=by kernel_rfl):SI P n ops B k F h:=Z4k _ hk ha (by rw [Y9];exact hlen) fun v'=>FA fun g hg=>by subst hg;exact hK g
def G7 (R:AV->List Res->Prop):Prop:=∀r h',R r h'->QP h' r/\∀q∈h',DW q
theorem E8 {x:Value}:G7 fun r h=>r=.val x/\h=[]:=by rintro _ _ ⟨rfl,rfl⟩;exact ⟨.val,by simp⟩
theorem BI {xs:LI}:G7 fun r h=>∃v:Hd,r=.h v/\h=[rV v xs]:=by
 rintro _ _ ⟨v,rfl,rfl⟩;exact ⟨.val,by simpa [DW] using R7 xs⟩
theorem KX (i:Nat) (is js ks:List Nat) {f:FuncId} {as1 xs:List AV} {h1:List Res} (bs:List Res) {R:AV->List Res->Prop} (H:W2 P f xs h1 R) (hcl:G7 R) (hargs:Tc bs as1 xs)
  (hb:∀r∈bs,∃v ls,r=.vec v ls/\∀y∈ls,∃u,y=.val u)
  (hK:∀r h',R r h'->YM P n ops B (T.filter fun t=>!WB ops i t.1) fuel (done++[i]) (F.put (Zz ops i).dst r) (h'++(bs++Xo is h)))
  (hk:YS n ops F i=true:=by kernel_rfl) (hc:KS P ops F i=some (f,as1):=by kernel_rfl)
  (hp:XW is h=some (h1++bs):=by kernel_rfl) (ho:VB ops i T=ks:=by kernel_rfl) (hj:js.map (fun j=>(Wj (Xo is h))[j]?)=ks.map some:=by kernel_rfl):V4 P n ops B T fuel done F h i:=
 Z05 i f as1 xs is js ks bs hk hc (V8 hp) ho hj H hargs hb hcl fun r h' hr=>by rw [Ut];exact hK r h' hr
theorem gN {bs:List Res}:Tc bs [] []:=.nil
theorem Z76 {bs:List Res} {r:Res} (i:Nat) (h:bs[i]? = some r):r∈bs:=Y0 h
theorem gS {bs:List Res} {x:AV} {as1 xs:List AV} (t:Tc bs as1 xs):Tc bs (x::as1) (x::xs):=.same t
theorem gL {bs:List Res} {v:Hd} {ys:LI} {as1 xs:List AV} (i:Nat) (t:Tc bs as1 xs) (h:bs[i]? = some (rV v ys):=by kernel_rfl):Tc bs (.h v::as1) (Z6 ys::xs):=.lent (Z76 i h) t
theorem Zcj (j:Nat) (b':Nat) (ls ls':List AV) (hle:Vb ls ls') (hp:XW [j] h=some [.obj b' ls]:=by kernel_rfl):Uu h (.obj b' ls'::Xo [j] h):=by
 intro w G hh
 have hp':=VU (V8 hp)
 have hh':=hh.perm hp'
 have hpw:=Wv.1 hh'.apart
 refine ⟨G,⟨fun r hr=>?_,Wv.2 ⟨fun r hr=>hpw.1 r hr,hpw.2⟩,fun r hr=>?_,hh'.lt⟩,?_⟩
 ·rcases YB.1 hr with rfl|hr
  ·obtain ⟨cs,e,h1,h2⟩:=hh'.ok _ (X1 ..)
   exact ⟨cs,e,h1,Vb.cs hle h2⟩
  ·exact hh'.ok r (Xl _ hr)
 ·rcases YB.1 hr with rfl|hr
  ·exact fun b o hf hg=>hh'.prot (.obj b' ls) (X1 ..) b o hf hg
  ·exact hh'.prot r (Xl _ hr)
 ·refine ⟨rfl,rfl,rfl,YR _,fun _ _ h=>h,fun _ _=>.inl rfl,fun _ _ _ h=>.inl h,?_⟩
  rintro b2 o _ ⟨r,hr,hf⟩
  rw [Aq hp']
  rcases YB.1 hr with rfl|hr
  ·exact ⟨_,X1 ..,hf⟩
  ·exact ⟨r,Xl _ hr,hf⟩
theorem Zc.hd {es:List AV} {v:Hd}:Zc (.sl es (some v.v)) (.h v):=by
 intro w G u h
 cases h with
 | nil hh=>rw [<-hh _ rfl];exact .val
 | sl hh _ _=>rw [<-hh _ rfl];exact .val
theorem Bx (j m:Nat) (v:Hd) (xs:LI) (hle:m<=xs.length:=by omega) (hp:XW [j] h=some [rV v xs]:=by kernel_rfl):Uu h (rV (v.cut m) (xs.take m)::Xo [j] h):=by
 have:=Zcm (h:=h) j m (V8 hp) (by rw [Y9];exact hle)
 rwa [J0] at this
theorem AR:Uu h (rV hN []::h):=Zcl
theorem Eg {h':List Res} (ht:Uu h h') (H:YM P n ops B T fuel done F h'):YM P n ops B T fuel done F h:=by
 intro Q w G a SL hF hh hQ hcl hcov hk
 obtain ⟨G',h1,h2⟩:=ht w G hh
 exact H Q w G' a SL (hF.mono (h2.agree hh)) h1 hQ hcl (fun p hp=>let ⟨t,ht,e,f⟩:=hcov p hp;⟨t,ht,e,fun w' hw hb=>f w' (fun b o hg=>hw b o (h2.sub b o hg)) hb⟩)
  fun F2 h2' G2 a2 w2 b1 b2 b3 b4=>hk F2 h2' G2 a2 w2 b1 b2 b3 (h2.trans b4)
end
end Go.Abs
namespace Go.Abs
section
variable {P:Program} {n:Nat} {ops:Array Oper} {B:Fr->List Res->Prop} {k:Nat} {F:Fr} {h:List Res}
variable {T:List (Nat × List Nat)} {fuel:Nat} {done:List Nat} {c:Code} {A:Ww}
def qF (P:Program) (n:Nat) (ops:Array Oper) (h:List Res) (k m:Nat) (F:Fr) (hints:List Nat):Fr:=
 match TV P n ops h m (ops.toList.drop k) F hints with|some (_,F1,_)=>F1|none=>F
def qA (P:Program) (n:Nat) (ops:Array Oper) (h:List Res) (k m:Nat) (F:Fr) (hints:List Nat):List Nat:=
 match TV P n ops h m (ops.toList.drop k) F hints with|some (_,_,es)=>es.map (·.1)|none=>[0]
def qB (P:Program) (n:Nat) (ops:Array Oper) (h:List Res) (k m:Nat) (F:Fr) (hints:List Nat):List Nat:=
 match TV P n ops h m (ops.toList.drop k) F hints with|some (_,_,es)=>es.map (·.2)|none=>[1]
theorem Z4 (m:Nat) (hints:List Nat) (H:SI P n ops B (k+m) (qF P n ops h k m F hints) h) (he:qA P n ops h k m F hints=qB P n ops h k m F hints:=by kernel_rfl):SI P n ops B k F h:=by
 unfold qA qB at he
 unfold qF at H
 cases hr:TV P n ops h m (ops.toList.drop k) F hints with
 | none=>rw [hr] at he;cases he
 | some y=>
  obtain ⟨l,F1,es⟩:=y
  rw [hr] at he H
  have hd:=I7 m hr
  rw [List.drop_drop] at hd
  refine I9 m hr (HT he) ?_
  rw [hd]
  exact H
theorem Z0 (m:Nat) (H:SI P n ops B (k+m) (qF P n ops h k m F []) h) (he:qA P n ops h k m F []=qB P n ops h k m F []:=by kernel_rfl):SI P n ops B k F h:=Z4 m [] H he
def Bu (P:Program) (n:Nat) (ops:Array Oper) (h:List Res) (is done:List Nat) (F:Fr) (hints:List Nat):Fr:=
 match Ka P n ops h is done F hints with|some (F1,_)=>F1|none=>F
def Dw (P:Program) (n:Nat) (ops:Array Oper) (h:List Res) (is done:List Nat) (F:Fr) (hints:List Nat):List Nat:=
 match Ka P n ops h is done F hints with|some (_,es)=>es.flatMap (fun e=>e.2.map (·.1))|none=>[0]
def Dx (P:Program) (n:Nat) (ops:Array Oper) (h:List Res) (is done:List Nat) (F:Fr) (hints:List Nat):List Nat:=
 match Ka P n ops h is done F hints with|some (_,es)=>es.flatMap (fun e=>e.2.map (·.2))|none=>[1]
theorem ZL (f m:Nat) (is:List Nat) (hints:List Nat) (H:YM P n ops B ((Dn P n ops h is done F hints).reverse++T) f (done++is) (Bu P n ops h is done F hints) h) (hf:m=f+is.length:=by kernel_rfl)
  (he:Dw P n ops h is done F hints=Dx P n ops h is done F hints:=by kernel_rfl) (hs:Region.noSelect ops=true:=by kernel_rfl):YM P n ops B T m done F h:=by
 unfold Dw Dx at he
 unfold Dn Bu at H
 cases hr:Ka P n ops h is done F hints with
 | none=>rw [hr] at he;cases he
 | some y=>
  obtain ⟨F1,es⟩:=y
  rw [hr] at he H
  exact GC is hs hr (O8 he) hf H
theorem Zj (f m:Nat) (is:List Nat) (H:YM P n ops B ((Dn P n ops h is done F []).reverse++T) f (done++is) (Bu P n ops h is done F []) h) (hf:m=f+is.length:=by kernel_rfl)
  (he:Dw P n ops h is done F []=Dx P n ops h is done F []:=by kernel_rfl) (hs:Region.noSelect ops=true:=by kernel_rfl):YM P n ops B T m done F h:=ZL f m is [] H hf he hs
def Ds (ov F:Fr):Fr:=ov++F
theorem H7 {F':Fr} (hr:F.Le F'):∀(ov:Fr),ov.map (fun p=>(F.get p.1).like p.2)=ov.map (·.2)->F.Le (Ds ov F')
 | [],_=>hr
 | (t,y)::ov,he=>by
  simp only [VX,List.cons.injEq] at he
  have h1:F.Le [(t,y)]:=Mh (by simp [he.1])
  intro w G v s hv
  have h2:=h1 w G v s hv
  have h3:=H7 hr ov he.2 w G v s hv
  show RV w G (match Nat.beq t s with|true=>y|false=>Fr.get (ov++F') s) v
  change RV w G (match Nat.beq t s with|true=>y|false=>Fr.get [] s) v at h2
  cases hq:Nat.beq t s with
  | true=>rw [hq] at h2;exact h2
  | false=>exact h3
theorem TI (m:Nat) (ov:Fr) (hints:List Nat) (H:SI P n ops B (k+m) (Ds ov (qF P n ops h k m F hints)) h) (he:qA P n ops h k m F hints=qB P n ops h k m F hints:=by kernel_rfl)
  (ho:ov.map (fun p=>((qF P n ops h k m F hints).get p.1).like p.2)=ov.map (·.2):=by kernel_rfl):SI P n ops B k F h:=
 Z4 m hints (Fy (h':=h) ⟨H7 (Fr.Le.refl _) ov ho,[],by simp⟩ H) he
theorem ZM (m:Nat) (ov:Fr) (H:SI P n ops B (k+m) (Ds ov (qF P n ops h k m F [])) h) (he:qA P n ops h k m F []=qB P n ops h k m F []:=by kernel_rfl)
  (ho:ov.map (fun p=>((qF P n ops h k m F []).get p.1).like p.2)=ov.map (·.2):=by kernel_rfl):SI P n ops B k F h:=TI m ov [] H he ho
theorem BM (f m:Nat) (is:List Nat) (ov:Fr) (hints:List Nat) (H:YM P n ops B ((Dn P n ops h is done F hints).reverse++T) f (done++is) (Ds ov (Bu P n ops h is done F hints)) h) (hf:m=f+is.length:=by kernel_rfl)
  (he:Dw P n ops h is done F hints=Dx P n ops h is done F hints:=by kernel_rfl) (hs:Region.noSelect ops=true:=by kernel_rfl)
  (ho:ov.map (fun p=>((Bu P n ops h is done F hints).get p.1).like p.2)=ov.map (·.2):=by kernel_rfl):YM P n ops B T m done F h:=
 ZL f m is hints (GG (H7 (Fr.Le.refl _) ov ho) H) hf he hs
theorem Yh (f m:Nat) (is:List Nat) (ov:Fr) (H:YM P n ops B ((Dn P n ops h is done F []).reverse++T) f (done++is) (Ds ov (Bu P n ops h is done F [])) h) (hf:m=f+is.length:=by kernel_rfl)
  (he:Dw P n ops h is done F []=Dx P n ops h is done F []:=by kernel_rfl) (hs:Region.noSelect ops=true:=by kernel_rfl)
  (ho:ov.map (fun p=>((Bu P n ops h is done F []).get p.1).like p.2)=ov.map (·.2):=by kernel_rfl):YM P n ops B T m done F h:=BM f m is ov [] H hf he hs ho
def sF (ts:List Nat) (F ov:Fr):Fr:=ov++ts.map (fun t=>(t,F.get t))
def Zh (h:List Res) (i:Nat):Res:=match h[i]? with|some r=>r|none=>.tail Z7a 0
theorem ZV (Inv:Fr->List Res->Nat->Fr->List Res->Prop) (m0:Nat) (F0:Fr) (h0:List Res) (hi:Inv F h m0 F0 h0) (hw:UM F h F0 h0)
  (hr:∀m F' h',Inv F h m F' h'->YF P n (Vt c) (HO (Inv F h) m A) F' h') (hk:XH c=6:=by kernel_rfl):YF P n c A F h:=al (Inv F h) m0 F0 h0 hi hw hr hk
theorem XC {y:Code} (K:Fr->List Res->Fr->List Res->Prop) (H:YF P n c (Ee (K F h) A) F h) (hB:∀F' h',K F h F' h'->YF P n y A F' h'):YF P n c (FP P n y A) F h:=Rp (K F h) H hB
theorem Al {y:Code} {A2:Ww} (K:Fr->List Res->Fr->List Res->Prop) (hA:∀F h,A .normal F h=YF P n y A2 F h) (H:YF P n c (Ee (K F h) A) F h) (hB:∀F' h',K F h F' h'->YF P n y A2 F' h'):YF P n c A F h:=Ro (K F h) hA H hB
theorem X8 {c:Code} {A:Ww} (ts:List Nat) (ov:Fr) (K:List Res->List Res) (H:SI P n ops (fun F1 h1=>UM F1 h1 (sF ts F ov) (K h)) k F h) (hB:YF P n c A (sF ts F ov) (K h)):SI P n ops (fun F h=>YF P n c A F h) k F h:=Z4h (sF ts F ov) (K h) H hB
theorem KV {c:Code} {A:Ww} (ts:List Nat) (ov:Fr) (K:List Res->List Res) (H:YM P n ops (fun F1 h1=>UM F1 h1 (sF ts F ov) (K h)) T fuel done F h) (hB:YF P n c A (sF ts F ov) (K h)):YM P n ops (fun F h=>YF P n c A F h) T fuel done F h:=Z06 (sF ts F ov) (K h) H hB
theorem Xx (k2:Nat) (ts:List Nat) (ov:Fr) (K:List Res->List Res) (J:SI P n ops B k2 (sF ts F ov) (K h)) (H:SI P n ops B k2 (sF ts F ov) (K h)->SI P n ops B k F h):SI P n ops B k F h:=H J
end
end Go.Abs
namespace Go.Abs
theorem fw {F F':Fr} {t u:Nat} {x y:AV} (hr:F.Le F') (hx:F.get t=x:=by kernel_rfl) (hy:F.get u=y:=by kernel_rfl):F.Le ((t,x)::(u,y)::F'):=fr (fr hr hy) hx
theorem fq {F F':Fr} {t u v w:Nat} {x y z q:AV} (hr:F.Le F') (hx:F.get t=x:=by kernel_rfl) (hy:F.get u=y:=by kernel_rfl) (hz:F.get v=z:=by kernel_rfl) (hq:F.get w=q:=by kernel_rfl):F.Le ((t,x)::(u,y)::(v,z)::(w,q)::F'):=fw (fw hr hz hq) hx hy
section
variable {P:Program} {n:Nat} {ops:Array Oper} {B:Fr->List Res->Prop} {k:Nat} {F:Fr} {h:List Res}
theorem iw {a b:Nat} (e:a=b) (H:SI P n ops B (k+1) (F.put (Zz ops k).dst (.i b)) h) (hk:YS n ops F k=true:=by kernel_rfl) (he:TB P (Zz ops k) F h 0=some (.i a,[]):=by kernel_rfl):SI P n ops B k F h:=io (.i b) (.i a) (li (by rw [e])) H hk he
theorem dw (i:Nat) {T:List (Nat×List Nat)} {fuel:Nat} {done:List Nat} {a b:Nat} (e:a=b) (H:YM P n ops B ((i,[])::T) fuel (done++[i]) (F.put (Zz ops i).dst (.i b)) h) (he:TB P (Zz ops i) F h 0=some (.i a,[]):=by kernel_rfl) (hs:Region.noSelect ops=true:=by kernel_rfl) (hk:YS n ops F i=true:=by kernel_rfl)
 (hf:Region.free .any ops (Wt ops done) i=true:=by kernel_rfl) (hr:(Region.ready .any ops (Wt ops done)).contains i=true:=by kernel_rfl):YM P n ops B T (fuel+1) done F h:=dn i (.i b) (.i a) (li (by rw [e])) H he hs hk hf hr
end
end Go.Abs
namespace Go.Abs
section
variable {P:Program} {n:Nat} {ops:Array Oper} {B:Fr->List Res->Prop} {k:Nat} {F:Fr} {h:List Res}
variable {T:List (Nat × List Nat)} {fuel:Nat} {done:List Nat} {c:Code} {A:Ww}
theorem Zi (hv:Option Value) (j:Int) (sz:Nat) {es:List AV} {y:AV} (hget:es[j.toNat]? = some y) (hi:Aw P ops F k=some (.sl es hv,j,sz):=by kernel_rfl) (h0:0<=j:=by omega) (hy:y.leaves.length=sz:=by rfl) :
  Xr P (Zz ops k) F h [] (.rp y.leaves):=AN hi h0 hget hy
def FQ (P:Program) (ops:Array Oper) (F:Fr) (h:List Res) (j k:Nat):Option (Nat × Nat × List AV):=
 match storeAt P ops F k,XW [j] h with
 | some (b,o,xs),some [.obj b' ls]=>match Nat.ble (o+xs.length) ls.length with | true=>some (b,b',ls.take o++xs++ls.drop (o+xs.length)) | false=>none
 | _,_=>none
theorem PO {j k b:Nat} {l:List AV} (hs:FQ P ops F h j k=some (b,b,l)):∃o xs ls,storeAt P ops F k=some (b,o,xs)/\XW [j] h=some [.obj b ls]/\Nat.ble (o+xs.length) ls.length=true/\ls.take o++xs++ls.drop (o+xs.length)=l:=by
 unfold FQ at hs
 split at hs
 ·rename_i b1 o xs b2 ls h1 h2
  split at hs
  ·rename_i h3
   cases hs
   exact ⟨o,xs,ls,h1,h2,h3,rfl⟩
  ·cases hs
 ·cases hs
theorem Zy (j b:Nat) (ls':List AV) (H:SI P n ops B (k+1) F (.obj b ls'::Xo [j] h)) (hk:YS n ops F k=true:=by kernel_rfl) (hs:FQ P ops F h j k=some (b,b,ls'):=by kernel_rfl):SI P n ops B k F h:=
 let ⟨_,_,_,h1,h2,h3,h4⟩:=PO hs
 iS j b _ _ _ ls' H hk h1 h2 h3 h4
theorem YA (i j:Nat) (js bs:List Nat) (b:Nat) (ls':List AV) (H:YM P n ops B (T.filter fun t=>!WB ops i t.1) fuel (done++[i]) F (.obj b ls'::Xo [j] h))
  (hk:YS n ops F i=true:=by kernel_rfl) (hs:FQ P ops F h j i=some (b,b,ls'):=by kernel_rfl) (ho:VB ops i T=bs:=by kernel_rfl)
  (hj:js.map (fun q=>(Wj (Xo [j] h))[q]?)=bs.map some:=by kernel_rfl):V4 P n ops B T fuel done F h i:=
 let ⟨_,_,_,h1,h2,h3,h4⟩:=PO hs
 dS i j js bs b _ _ _ ls' H hk h1 h2 h3 h4 ho hj
theorem ZD (q:Nat) (H:SI P n ops B (k+1) (F.put (Zz ops k).dst (.i (q+1:Nat))) h) (hb:-9223372036854775808<=((q+1:Nat):Int)/\((q+1:Nat):Int)<=9223372036854775807:=by omega)
  (hk:YS n ops F k=true:=by kernel_rfl) (ha:KP ops F k=some ((q:Int)+1):=by kernel_rfl):SI P n ops B k F h:=ia ((q+1:Nat):Int) ((q:Int)+1) H hb om hk ha
theorem Zx (is:List Nat) {f:FuncId} {xs:List AV} {h1 h2:List Res} {r0:AV} (H:W2 P f xs h1 (fun r h=>r=r0/\h=h2)) (hK:SI P n ops B (k+1) (F.put (Zz ops k).dst r0) (h2++Xo is h))
  (hk:YS n ops F k=true:=by kernel_rfl) (hc:KS P ops F k=some (f,xs):=by kernel_rfl) (hp:XW is h=some h1:=by kernel_rfl):SI P n ops B k F h:=
 ic is H (fun r h' hr=>by obtain ⟨rfl,rfl⟩:=hr;exact hK) hk hc hp
theorem Ye (i:Nat) (is js bs:List Nat) {f:FuncId} {xs:List AV} {h1 h2:List Res} {r0:AV} (H:W2 P f xs h1 (fun r h=>r=r0/\h=h2))
  (hK:YM P n ops B (T.filter fun t=>!WB ops i t.1) fuel (done++[i]) (F.put (Zz ops i).dst r0) (h2++Xo is h))
  (hk:YS n ops F i=true:=by kernel_rfl) (hc:KS P ops F i=some (f,xs):=by kernel_rfl)
  (hp:XW is h=some h1:=by kernel_rfl) (ho:VB ops i T=bs:=by kernel_rfl) (hj:js.map (fun j=>(Wj (Xo is h))[j]?)=bs.map some:=by kernel_rfl):V4 P n ops B T fuel done F h i:=
 dc i is js bs H (fun r h' hr=>by obtain ⟨rfl,rfl⟩:=hr;exact hK) hk hc hp ho hj
theorem ZF (p:Prop) [Decidable p] (h1:p->YF P n (Vt c) A F h) (h2:¬p->YF P n (QW c) A F h) (hk:XH c=4:=by kernel_rfl) (hc:F.ev (B8 c)=.val (.bool (decide p)):=by kernel_rfl):YF P n c A F h:=
 ac (decide p) decide_eq_true_iff h1 h2 hk hc
end
abbrev Y7 (x:AV):AV->List Res->Prop:=fun r h=>r=x/\h=[]
theorem Zs {α:Type} (xs:List α) (j:Nat) (h:j<xs.length):∃x,xs[j]? = some x:=J7 h
theorem Iw {P:Program} {F:Fr} {h:List Res} {fn:Func} {e:Exit} {r:AV} (he:(match e with|.normal|.ret=>true|_=>false)=true:=by kernel_rfl) (hr:Qk P F h fn.results.toList []=some ([r],[]):=by kernel_rfl) :
  Ab P fn (fun r' h'=>r'=r/\h'=[]) e F h:=r1 [] ⟨rfl,rfl⟩ rfl he hr
theorem ZU {P:Program} {F:Fr} {h:List Res} {fn:Func} {e:Exit} {r:AV} (x:AV) (hle:Zc (JX [x]) r) (he:(match e with|.normal|.ret=>true|_=>false)=true:=by kernel_rfl) (hr:Qk P F h fn.results.toList []=some ([x],[]):=by kernel_rfl) :
  Ab P fn (fun r' h'=>r'=r/\h'=[]) e F h:=r2 [] [x] ⟨rfl,rfl⟩ hle rfl he hr
theorem ZK (k:Nat) {F F':Fr} {t:Nat} {y:Int} (hr:F.Le F') (hx:F.get t=.i (k+1:Nat):=by kernel_rfl) (e:((k+1:Nat):Int)=y:=by exact ob):F.Le ((t,.i y)::F'):=fc (li e) hr hx
theorem ZZ {F F':Fr} {t:Nat} {y:Int} (hr:F.Le F') (hx:F.get t=.i 0:=by kernel_rfl) (e:0=y:=by exact ob):F.Le ((t,.i y)::F'):=fc (li e) hr hx
theorem Zr (x:Bool) {p:Prop} (q:p) {F F':Fr} {t:Nat} {y:Bool} (hr:F.Le F') (hx:F.get t=.b x:=by kernel_rfl) (e:p->x=y:=by intro q;simp only [q];rfl):F.Le ((t,.b y)::F'):=fc (lb (e q)) hr hx
theorem ZI {F F':Fr} {h h1 h':List Res} (m:Nat) (hF:F.Le F') (e:h1=h':=by exact rfl) (hp:XW (List.replicate m 0) h=some h1:=by kernel_rfl):UM F h F' h':=wk (List.replicate m 0) hF e hp
theorem ZO {α β:Type} {p q:α->β->Prop} {a:α} {b:β} (x:p a b) (y:q a b):∃a b,p a b/\q a b:=⟨a,b,x,y⟩
theorem ZG {α β:Type} {q:α->β->Prop} {m' m:Nat} {r:Nat->α->β->Prop} {a:α} {b:β} (x:r m' a b) (y:q a b) (e:m'<m:=by exact ob):∃m' a b,m'<m/\r m' a b/\q a b:=⟨m',a,b,e,x,y⟩
theorem ZC (m:Nat) {P:Program} {f:FuncId} {fn:Func} {xs:List AV} {h:List Res} {R:AV->List Res->Prop} (hf:P.funcs[f]? = some fn) (ha:YF P m (E7 fn) (Ab P fn R) (B5 0 xs) h) (hb:fn.body.isSome=true:=by kernel_rfl) (hn:fn.ntmps=m:=by kernel_rfl)
  (hle:Nat.ble xs.length m=true:=by kernel_rfl):W2 P f xs h R:=enter hf hb hn hle ha
end Go.Abs
end
namespace Go.Abs
section
variable {P:Program} {n:Nat} {c:Code} {A:Ww} {F:Fr} {h h2:List Res} {ops:Array Oper} {B:Fr->List Res->Prop} {k:Nat}
variable {T:List (Nat × List Nat)} {fuel:Nat} {done:List Nat}
def HP (P:Program) (ops:Array Oper) (F:Fr) (k:Nat):Option (List AV):=
 match (Zz ops k).op with
 | .binOp .eql xt x y _=>match F.ev x,F.ev y,P.underlying xt with
  | .sl es _,.sl [] (some (.slice none 0 0)),some (.slice _)=>some es
  | _,_,_=>none
 | _=>none
theorem Z9n {t e:TypeId} (ht:P.underlying t=some (.slice e)) (a:Option Addr) (l c':Nat) (w:World):(Op.equal t (.slice a l c') (.slice none 0 0)).run P w=.ok a.isNone w:=by
 unfold Op.equal
 rw [show Op.maxDepth=(Op.maxDepth-1)+1 from rfl]
 unfold Op.equalIn
 cases a with
 | none=>simp [Vp ht]
 | some a=>simp [Vp ht]
theorem Z7u {K:Fr->List Res->Prop} {es:List AV} (hd:WV n (Zz ops k)=true) (ha:HP P ops F k=some es)
  (h1:es=[]->K (F.put (Zz ops k).dst (.b true)) h) (h0:K (F.put (Zz ops k).dst (.b false)) h):W8 P n (Zz ops k) F h K:=by
 unfold HP at ha
 generalize hoo:Zz ops k=o at ha hd h1 h0
 obtain ⟨dst,op,type,pos,after,guard⟩:=o
 cases op<;>simp only at ha<;>try (cases ha)
 rename_i bop xt x y yt
 cases bop<;>simp only at ha<;>try (cases ha)
 split at ha
 case h_2=>cases ha
 rename_i es' hv t hx hy ht
 cases ha
 intro Q w G a hF hh
 have vx:=hF.ev x
 have vy:=hF.ev y
 rw [hx] at vx
 rw [hy] at vy
 have vy:a.eval y=.slice none 0 0:=by
  cases hq:a.eval y<;>rw [hq] at vy<;>cases vy<;>(rename_i hh2;exact (hh2 _ rfl).symm)
 cases vq:a.eval x with
 | slice ad l cc=>
  have hrun:(execOp a.eval { dst:=dst,op:=.binOp .eql xt x y yt,type:=type,pos:=pos,after:=after,guard:=guard }).run P w=.ok (.value (.bool ad.isNone)) w:=by
   simp only [execOp,vq,vy]
   have he:=Z9n (P:=P) ht ad l cc w
   exact V1 (by simp [eqGuard,binOp,he])
  unfold Oper.wp
  rw [hrun]
  rw [vq] at vx
  cases hn:ad.isNone with
  | false=>exact ⟨_,_,G,h0,hF.put (U7 hd) .val,hh,YP.refl _ _ _⟩
  | true=>
   have:es=[]:=by
    cases vx with
    | nil=>rfl
    | sl=>cases hn
   exact ⟨_,_,G,h1 this,hF.put (U7 hd) .val,hh,YP.refl _ _ _⟩
 | _=>rw [vq] at vx;cases vx
theorem iN (es:List AV) (h1:es=[]->SI P n ops B (k+1) (F.put (Zz ops k).dst (.b true)) h) (h0:SI P n ops B (k+1) (F.put (Zz ops k).dst (.b false)) h)
  (hk:YS n ops F k=true:=by kernel_rfl) (ha:HP P ops F k=some es:=by kernel_rfl):SI P n ops B k F h:=
 T9 hk (Z7u (Vi hk).2.1 ha h1 h0)
def Lp (P:Program) (ops:Array Oper) (F:Fr) (k:Nat):Option AV:=
 match (Zz ops k).op with
 | .call c=>match c.callee,c.args.toList,c.argTypes.toList with
  | .builtin .cap,[x],[t]=>match P.underlying t with
   | some (.slice _)=>some (F.ev x)
   | _=>none
  | _,_,_=>none
 | _=>none
theorem PE (g:Hd) (hl:Lp P ops F k=some (.h g):=by kernel_rfl):Xr P (Zz ops k) F h [] (.i g.c):=by
 unfold Lp at hl
 generalize hoo:Zz ops k=o at hl
 obtain ⟨dst,op,type,pos,after,guard⟩:=o
 cases op<;>simp only at hl<;>try (cases hl)
 rename_i c
 obtain ⟨callee,args,tys⟩:=c
 simp only at hl
 split at hl
 case h_2=>cases hl
 rename_i x t hargs htys
 split at hl
 case h_2=>cases hl
 rename_i e ht
 have e1:args=#[x]:=by rw [<-VN (xs:=args),hargs]
 have e2:tys=#[t]:=by rw [<-VN (xs:=tys),htys]
 subst e1;subst e2
 intro n w G a hF hh
 have vx:=hF.ev x
 simp only [XY] at hl
 rw [hl] at vx
 have vx:=vx.val_inv
 refine ⟨_,.val,fun w' _ _=>?_⟩
 simp only [execOp,resolve,invoke,builtin,Sem.run_bind,Sem.run_pure,Result.andThen_ok,BA,VX,AW,vx,Builtin.cap_]
 simp [Vp ht,goInt]
theorem DY (t j:Nat) {v:Hd} {xs:LI} (H:YF P n c A ((t,ZT xs v.v)::F) (.tail v.v 1::Xo [j] h)) (hF':F.get t=.h v:=by kernel_rfl) (hp:XW [j] h=some [rV v xs]:=by kernel_rfl):YF P n c A F h:=by
 intro w G a hF hh
 have hp':=VU (V8 hp)
 obtain ⟨G',h1,h2',h3⟩:=R8 (hh.perm hp') (HI xs)
 have e:=h2'.perm hp'.symm (TJ _)
 have hF2:=hF.mono (e.agree hh)
 have hv:=hF2.get t
 rw [hF'] at hv
 have hv:=hv.val_inv
 refine wp_mono (H w G' a ⟨hF2.defers,hF2.size,fun s=>?_⟩ h1) fun e' a' w' hc=>hc.trans e
 show RV w G' (match Nat.beq t s with|true=>_|false=>Fr.get F s) _
 cases hb:Nat.beq t s with
 | true=>
  have:=U2 hb
  subst this
  rw [hv]
  exact h3
 | false=>exact hF2.get s
def Gl (P:Program) (ops:Array Oper) (F:Fr) (k:Nat):Option Int:=
 match (Zz ops k).op with
 | .call c=>match c.callee,c.args.toList,c.argTypes.toList with
  | .builtin .append,[s,x],[t,t']=>match F.ev s,F.ev x,P.underlying t,P.underlying t' with
   | .val (.slice none 0 0),.val (.int .i64 m),some (.slice e),some (.int _)=>match P.info? e with
    | some i=>match i.zero with
     | some (.int .i64 0)=>match Nat.beq i.size 1&&Nat.ble i.bytes 32768 with
      | true=>some m
      | false=>none
     | _=>none
    | none=>none
   | _,_,_,_=>none
  | _,_,_=>none
 | _=>none
theorem Z7n {K:Fr->List Res->Prop} {m:Nat} (hd:WV n (Zz ops k)=true) (ha:Gl P ops F k=some (m:Int)) (h0:0<m) (hb:m<=4294967296)
  (hK:∀v,K (F.put (Zz ops k).dst (.val v)) (.vec v (Z7 (List.replicate m 0))::h)):W8 P n (Zz ops k) F h K:=by
 unfold Gl at ha
 generalize hoo:Zz ops k=o at ha hd hK
 obtain ⟨dst,op,type,pos,after,guard⟩:=o
 cases op<;>simp only at ha<;>try (cases ha)
 rename_i c
 obtain ⟨callee,args,tys⟩:=c
 simp only at ha
 split at ha
 case h_2=>cases ha
 rename_i s x t t' hargs htys
 split at ha
 case h_2=>cases ha
 rename_i mm e kn hs hx ht ht'
 split at ha
 case h_2=>cases ha
 rename_i i hi
 split at ha
 case h_2=>cases ha
 rename_i hz
 split at ha
 case h_2=>cases ha
 rename_i hbb
 simp only [XI] at hbb
 have Xk:=U2 hbb.1
 have hby:=WE hbb.2
 simp only [XY] at ha
 subst ha
 have e1:args=#[s,x]:=by rw [<-VN (xs:=args),hargs]
 have e2:tys=#[t,t']:=by rw [<-VN (xs:=tys),htys]
 subst e1;subst e2
 intro Q w G a hF hh
 have v1:=hF.ev s
 have v2:=hF.ev x
 rw [hs] at v1
 rw [hx] at v2
 have v1:=v1.val_inv
 have v2:=v2.val_inv
 have hbytes:m*i.bytes<=281474976710656:=by
  have:=Nat.mul_le_mul hb hby
  omega
 have hr:=Lib.run_append_nil_zeros (P:=P) w t t' type e i _ .i64 kn ht ht' hi hz m h0 om om hbytes
 have hrun:(execOp a.eval { dst:=dst,op:=.call { callee:=.builtin .append,args:=#[s,x],argTypes:=#[t,t'] },type:=type,pos:=pos,after:=after,guard:=guard }).run P w =
   .ok (.value (.slice (some ⟨w.heap.size,0,none⟩) m (grownCap w m 0 e))) (w.drew.alloc (.cells (Builtin.zeroCells (Value.cells (.int .i64 0)) m++Builtin.zeroCells (Value.cells (.int .i64 0)) (grownCap w m 0 e-m)) e)):=by
  simp only [execOp,resolve,invoke,builtin,Sem.run_bind,Sem.run_pure,Result.andThen_ok,BA,VX,AW,v1,v2,hr]
 unfold Oper.wp
 rw [hrun]
 have YY:=grownCap_ge w m 0 e
 have hzc:∀q,(Builtin.zeroCells (Value.cells (.int .i64 0)) q).toList=List.replicate q (.int .i64 0):=fun q=>by
  apply List.ext_getElem
  ·simp [Builtin.zeroCells,Value.cells]
  ·intro i h1 h2
   simp [Builtin.zeroCells,Value.cells,Nat.mod_one]
 have hl:(Z7 (List.replicate m 0)).length=m:=by simp
 obtain ⟨j1,j2⟩:=hh.drew.alloc_vec (Builtin.zeroCells (Value.cells (.int .i64 0)) m++Builtin.zeroCells (Value.cells (.int .i64 0)) (grownCap w m 0 e-m)) e
  (ls:=Z7 (List.replicate m 0)) (cap:=grownCap w m 0 e) (by rw [hl];exact YY) (by
   rw [<-QM,Cs,hzc,hzc];simp;omega) (by
   rw [hl,Cs,hzc,hzc]
   have:(List.replicate m (Value.int .i64 0)++List.replicate (grownCap w m 0 e-m) (Value.int .i64 0)).take m=List.replicate m (Value.int .i64 0):=by
    rw [List.take_append_of_le_length (by simp),WA (by simp)]
   rw [this,Z7,List.map_replicate]
   exact Fl .val m)
 rw [hl] at j1 j2
 have j3:=(YP.drew w G h).trans j2
 exact ⟨_,_,G,hK _,(hF.mono (j3.agree hh)).put (U7 hd) .val,j1,j3⟩
theorem iZ (m:Nat) (hK:∀v,SI P n ops B (k+1) (F.put (Zz ops k).dst (.h v)) (rV v (List.replicate m 0)::h)) (h0:0<m:=by omega) (hb:m<=4294967296:=by omega)
  (hk:YS n ops F k=true:=by kernel_rfl) (ha:Gl P ops F k=some (m:Int):=by kernel_rfl):SI P n ops B k F h:=
 T9 hk (Z7n (Vi hk).2.1 ha h0 hb fun v=>FA fun g hg=>by subst hg;exact hK g)
end
theorem ro {b:Nat} {ls ls':List AV} {t t':List Res} (h:ls=ls') (e:t=t'):Res.obj b ls::t=.obj b ls'::t':=h▸e▸rfl
section
variable {P:Program} {n:Nat} {F:Fr} {h:List Res} {ops:Array Oper} {B:Fr->List Res->Prop} {k:Nat}
variable {T:List (Nat × List Nat)} {fuel:Nat} {done:List Nat}
theorem O0 {K:Fr->List Res->Prop} {l c:Nat} {zv zv':AV} (hd:WV n (Zz ops k)=true) (hm:Az P ops F k=some ((l:Int),(c:Int),zv)) (hlc:l<=c) (hc:c<=4294967296) (hle:Zc zv zv') (hlz:zv'.leaves=[zv'])
  (hK:∀v,K (F.put (Zz ops k).dst (.sl (List.replicate l zv') (some v))) (.tail v 1::h)):W8 P n (Zz ops k) F h K:=by
 intro Q w G a hF hh
 obtain ⟨e,z,rfl,hr⟩:=OY hF hm hlc hc
 have hfl:∀m,Ze (List.replicate m zv')=List.replicate m zv':=by
  intro m
  induction m with
  | zero=>rfl
  | succ m ih=>simp only [IJ,Ze,A4,hlz,List.singleton_append];rw [show (List.replicate m zv').flatMap AV.leaves=Ze (List.replicate m zv') from rfl,ih]
 unfold Oper.wp
 rw [hr]
 obtain ⟨G',j1,j2,j3⟩:=hh.alloc_row (madeCells #[z] c) e (es:=List.replicate l zv') (k:=1) (cap:=c) (fun x hx=>by rw [(List.mem_replicate.1 hx).2,hlz];rfl) (by simpa using hlc) (by simp [madeCells]) (by
  rw [NB,hfl,Kj,List.take_replicate,List.length_replicate,Va hlc]
  exact Fl (hle _ _ _ (RV.ofVal z)) l)
 rw [List.length_replicate] at j1 j2 j3
 exact ⟨_,_,G',hK _,(hF.mono (j2.agree hh)).put (U7 hd) j3,j1,j2⟩
theorem Z11 (l:Nat):List.replicate l (AV.i 0)=Z7 (List.replicate l 0):=by simp [Z7,List.map_replicate]
theorem Z12 (l:Nat):List.replicate l (Z6 [])=W0 (List.replicate l []):=by simp [W0,List.map_replicate]
theorem iM (l c:Nat) (hK:∀v,SI P n ops B (k+1) (F.put (Zz ops k).dst (ZT (List.replicate l 0) v)) (.tail v 1::h)) (hlc:l<=c:=by omega) (hc:c<=4294967296:=by omega) (hk:YS n ops F k=true:=by kernel_rfl)
  (hm:Az P ops F k=some ((l:Int),(c:Int),.i 0):=by kernel_rfl):SI P n ops B k F h:=
 T9 hk (O0 (Vi hk).2.1 hm hlc hc (Zc.refl _) rfl fun v=>by rw [Z11];exact hK v)
theorem dMN (i:Nat) (js bs:List Nat) (l c:Nat) (hK:∀v,YM P n ops B (T.filter fun t=>!WB ops i t.1) fuel (done++[i]) (F.put (Zz ops i).dst (Cf (List.replicate l []) v)) (.tail v 1::h)) (hlc:l<=c:=by omega) (hc:c<=4294967296:=by omega)
  (hk:YS n ops F i=true:=by kernel_rfl) (hm:Az P ops F i=some ((l:Int),(c:Int),.sl [] (some (.slice none 0 0))):=by kernel_rfl) (ho:VB ops i T=bs:=by kernel_rfl) (hj:js.map (fun j=>(Wj h)[j]?)=bs.map some:=by kernel_rfl):V4 P n ops B T fuel done F h i:=
 QB (h1:=[]) (h2:=h) [] js bs hk rfl ho hj (O0 (Vi hk).2.1 hm hlc hc (Zc.forget _ _) rfl fun v=>by rw [show AV.sl [] none=Z6 [] from rfl,Z12];exact hK v)
end
section
variable {P:Program} {n:Nat} {F:Fr} {h:List Res} {ops:Array Oper} {B:Fr->List Res->Prop} {k:Nat}
variable {T:List (Nat × List Nat)} {fuel:Nat} {done:List Nat}
theorem dK {c:Code} {A:Ww} (K:Fr->List Res->Prop) (H:YM P n ops (fun F h=>∃F' h',K F' h'/\UM F h F' h') T fuel done F h) (hB:∀F' h',K F' h'->YF P n c A F' h') :
  YM P n ops (fun F h=>YF P n c A F h) T fuel done F h:=by
 intro Q w G a SL hF hh hQ hcl hcov hk
 exact H Q w G a SL hF hh hQ hcl hcov fun F2 h2 G2 a2 w2 b1 b2 b3 b4=>let ⟨_,_,k1,k2⟩:=b1;hk F2 h2 G2 a2 w2 (B4 k2 (hB _ _ k1)) b2 b3 b4
theorem Kn {c:Code} {A:Ww} (K:Fr->List Res->Fr->List Res->Prop) (H:YM P n ops (fun F1 h1=>∃F' h',K F h F' h'/\UM F1 h1 F' h') T fuel done F h) (hB:∀F' h',K F h F' h'->YF P n c A F' h') :
  YM P n ops (fun F h=>YF P n c A F h) T fuel done F h:=dK (K F h) H hB
theorem Vg (i j:Nat) (Hi:V4 P n ops B T fuel done F h i) (Hj:V4 P n ops B T fuel done F h j) (hr:Region.ready .any ops (Wt ops done)=[i,j]:=by kernel_rfl):YM P n ops B T (fuel+1) done F h:=
 LJ hr rfl fun q hq=>by
  rcases YB.1 hq with rfl|hq
  ·exact Hi
  ·rw [XT.1 hq];exact Hj
def Bz (s:Int):Int:=IntKind.i64.wrap s
theorem Zc7 {s:Int} (ha:KP ops F k=some s):Xr P (Zz ops k) F h [] (.val (.int .i64 (Bz s))):=by
 unfold KP at ha
 generalize hoo:Zz ops k=o at ha
 obtain ⟨dst,op,type,pos,after,guard⟩:=o
 cases op<;>simp only at ha<;>try (cases ha)
 rename_i bop xt x y yt
 split at ha
 ·rename_i a b h1 h2
  have key:∀v,CQ bop .i64 a b=some (.int .i64 (IntKind.i64.wrap v))->v=s->Xr P { dst:=dst,op:=.binOp bop xt x y yt,type:=type,pos:=pos,after:=after,guard:=guard } F h [] (.val (.int .i64 (Bz s))):=by
   intro v hv hvs
   have he:TB P { dst:=dst,op:=.binOp bop xt x y yt,type:=type,pos:=pos,after:=after,guard:=guard } F h 0=some (.val (.int .i64 (IntKind.i64.wrap v)),[]):=by
    simp only [TB,h1,h2,DB,hv]
   have:=BU he (by simp)
   rw [hvs] at this
   simpa [Bz] using this
  split at ha
  ·cases ha;exact key (a+b) rfl rfl
  ·cases ha;exact key (a-b) rfl rfl
  ·cases ha;exact key (a*b) rfl rfl
  ·cases ha
 ·cases ha
theorem iW (s:Int) (H:SI P n ops B (k+1) (F.put (Zz ops k).dst (.val (.int .i64 (Bz s)))) h) (hk:YS n ops F k=true:=by kernel_rfl) (ha:KP ops F k=some s:=by kernel_rfl):SI P n ops B k F h:=
 Db (ks:=[]) hk (Zc7 ha) H
end
theorem KM.mono {w:World} {G G':Y6} {v:Value} {k:Nat} {ls:List AV} (hA:Vr G w w G') (h:KM w G v k ls):KM w G' v k ls:=by
 rcases h with ⟨rfl,h0⟩|⟨g,len,cap,cur,el,rfl,h1,h2,h3,h4,h5⟩
 ·exact .inl ⟨rfl,h0⟩
 ·exact .inr ⟨g,len,cap,cur,el,rfl,h1,h2,h3,h4,h5.mono hA⟩
theorem Ty.same {w:World} {G G':Y6} {r:Res} (hA:Vr G w w G') (h:Ty w G r):Ty w G' r:=by
 cases r with
 | obj b ls=>obtain ⟨cs,e,h1,h2⟩:=h;exact ⟨cs,e,h1,h2.mono hA⟩
 | tail v k=>exact h
 | ge s=>exact h
 | vec v ls=>
  rcases h with ⟨rfl,h0⟩|⟨g,cap,cur,el,rfl,h1,h2,h3,h4⟩
  ·exact .inl ⟨rfl,h0⟩
  ·exact .inr ⟨g,cap,cur,el,rfl,h1,h2,h3,h4.mono hA⟩
 | many ts=>exact h
 | own B m=>exact h
 | row v k ls=>exact h.mono hA
theorem Yq.alloc_rrow {w:World} {G:Y6} {h:List Res} (hh:Yq w G h) (cs:Array Value) (t:TypeId) {ls:List AV} {len cap k:Nat} (hcap:len<=cap) (Xk:cs.size=cap*k) (hl:ls.length=len*k)
  (hls:YI w G ls (cs.toList.take (len*k))) :
  Yq (w.alloc (.cells cs t)) G (.row (.slice (some ⟨w.heap.size,0,none⟩) len cap) k ls::h)/\YP w G h (w.alloc (.cells cs t)) G (.row (.slice (some ⟨w.heap.size,0,none⟩) len cap) k ls::h):=by
 have hA:Vr G w (w.alloc (.cells cs t)) G:=⟨fun b j hg=>CF w _ (hh.lt b j hg),fun _ _ h=>h⟩
 refine hh.alloc (.cells cs t) (h':=[.row (.slice (some ⟨w.heap.size,0,none⟩) len cap) k ls]) (fun _ _ h=>h) (fun _ _ h=>.inl h) ?_ ?_ (Cu _ _) ?_
 ·intro r hr
  rw [XT.1 hr]
  exact .inr ⟨_,len,cap,cs,t,rfl,EL w _,hcap,Xk,hl,hls.mono hA⟩
 ·intro r hr b j hf
  rw [XT.1 hr] at hf
  exact hf
 ·intro r hr b j hf hg
  rw [XT.1 hr] at hf
  have:=hh.lt b j hg
  have:b=w.heap.size:=hf
  omega
theorem Yq.rwrite {w:World} {G:Y6} {h2:List Res} {g len cap k:Nat} {ls ls':List AV} (hh:Yq w G (.row (.slice (some ⟨g,0,none⟩) len cap) k ls::h2)) {cs cs':Array Value} {e:TypeId}
  (hb:w.heap[g]? = some (.cells cs e (0,0))) (Xk:cs'.size=cs.size) (hle:len<=cap) (hcap:cs.size=cap*k) (hl:ls'.length=len*k) (hls:YI w G ls' (cs'.toList.take (len*k))) :
  Yq (w.setRow g cs') G (.row (.slice (some ⟨g,0,none⟩) len cap) k ls'::h2) /\
   YP w G (.row (.slice (some ⟨g,0,none⟩) len cap) k ls::h2) (w.setRow g cs') G (.row (.slice (some ⟨g,0,none⟩) len cap) k ls'::h2):=by
 have hmem:Res.row (.slice (some ⟨g,0,none⟩) len cap) k ls∈Res.row (.slice (some ⟨g,0,none⟩) len cap) k ls::h2:=X1 ..
 have hA:Vr G w (w.setRow g cs') G:=⟨fun c j hg=>by
  have hne:c≠g:=fun he=>hh.prot _ hmem c j he hg
  simp [World.cell?,Vj w g c cs' hne],fun _ _ h=>h⟩
 have hpw:=Wv.1 hh.apart
 have hother:∀r∈h2,∀c j,r.fp c j->c≠g:=fun r hr c j hf hc=>hpw.1 r hr c j hc hf
 have e1:YP w G [.row (.slice (some ⟨g,0,none⟩) len cap) k ls] (w.setRow g cs') G [.row (.slice (some ⟨g,0,none⟩) len cap) k ls']:=by
  refine ⟨rfl,rfl,rfl,by simp [World.setRow],fun _ _ h=>h,?_,fun _ _ _ h=>.inl h,?_⟩
  ·intro c hc
   by_cases hcb:c=g
   ·subst hcb
    exact .inr ⟨cs,cs',e,(0,0),hb,setRow_heap w c cs cs' e (0,0) hb,Xk,fun j hj=>absurd ⟨_,X1 ..,rfl⟩ hj⟩
   ·exact .inl (Vj w g c cs' hcb)
  ·rintro c j _ ⟨r,hr,hf⟩
   rw [XT.1 hr] at hf
   exact ⟨_,X1 ..,hf⟩
 have e2:Yq (w.setRow g cs') G [.row (.slice (some ⟨g,0,none⟩) len cap) k ls']:=by
  refine ⟨fun r hr=>?_,Cu _ _,fun r hr c j hf hg=>?_,fun c j hg=>?_⟩
  ·rw [XT.1 hr]
   exact .inr ⟨g,len,cap,cs',e,rfl,setRow_heap w g cs cs' e (0,0) hb,hle,Xk.trans hcap,hl,hls.mono hA⟩
  ·rw [XT.1 hr] at hf
   exact hh.prot _ hmem c j hf hg
  ·have:=hh.lt c j hg
   simpa [World.setRow] using this
 exact Yq.frame (h:=[.row (.slice (some ⟨g,0,none⟩) len cap) k ls]) (k:=h2) hh e1 e2
theorem Z99 {w:World} {G:Y6} {h:List Res} {k:Nat} (hh:Yq w G h):Yq w G (.row (.slice none 0 0) k []::h)/\YP w G h w G (.row (.slice none 0 0) k []::h):=
 ⟨⟨fun r hr=>by
   rcases YB.1 hr with rfl|hr
   ·exact .inl ⟨rfl,rfl⟩
   ·exact hh.ok r hr,Wv.2 ⟨fun _ _ _ _ hf=>hf.elim,hh.apart⟩,fun r hr b o hf hg=>by
   rcases YB.1 hr with rfl|hr
   ·exact hf.elim
   ·exact hh.prot r hr b o hf hg,hh.lt⟩,
  ⟨rfl,rfl,rfl,YR _,fun _ _ h=>h,fun _ _=>.inl rfl,fun _ _ _ h=>.inl h,fun b o _ ⟨r,hr,hf⟩=>by
   rcases YB.1 hr with rfl|hr
   ·exact hf.elim
   ·exact ⟨r,hr,hf⟩⟩⟩
theorem KM.form {w:World} {G:Y6} {v:Value} {k:Nat} {ls:List AV} (h:KM w G v k ls):∃a len cap,v=.slice a len cap/\ls.length=len*k:=by
 rcases h with ⟨rfl,rfl⟩|⟨g,len,cap,cur,e,rfl,_,_,_,h4,_⟩
 ·exact ⟨none,0,0,rfl,by simp⟩
 ·exact ⟨_,len,cap,rfl,h4⟩
theorem Ck {w:World} {G:Y6} {v:Value} {k:Nat} {es:List AV} {h2:List Res} (hh:Yq w G (.row v k (Ze es)::h2)) (hes:∀y∈es,y.leaves.length=k) (hk:0<k) :
  ∃G',Yq w G' (.tail v k::h2)/\YP w G (.row v k (Ze es)::h2) w G' (.tail v k::h2)/\RV w G' (.sl es (some v)) v:=by
 have hpw:=Wv.1 hh.apart
 have hfl:=Ua es hes
 rcases hh.ok _ (X1 ..) with ⟨rfl,h0⟩|⟨g,len,cap,cur,e,rfl,h1,h3,h4,h5,h6⟩
 ·have hes0:es=[]:=by
   cases es with
   | nil=>rfl
   | cons y r=>
    have h7:0<(r.length+1)*k:=Nat.mul_pos om hk
    rw [h0,YH] at hfl
    rw [<-hfl] at h7
    simp at h7
  subst hes0
  obtain ⟨k1,k2⟩:=Iu (sz:=k) (hh.sub (Jm _ _))
  refine ⟨G,k1,⟨rfl,rfl,rfl,YR _,fun _ _ h=>h,fun _ _=>.inl rfl,fun _ _ _ h=>.inl h,?_⟩,.nil (by simp)⟩
  rintro b o _ ⟨r,hr,hf⟩
  rcases YB.1 hr with rfl|hr
  ·exact hf.elim
  ·exact ⟨r,Xl _ hr,hf⟩
 ·have hlen:len=es.length:=G6 hk (h5.symm.trans hfl)
  subst hlen
  let G':Y6:=fun b o=>G b o∨(b=g/\o<es.length*k)
  have hA:Vr G w w G':=⟨fun _ _ _=>rfl,fun _ _ h=>.inl h⟩
  have hmem:Res.row (.slice (some ⟨g,0,none⟩) es.length cap) k (Ze es)∈Res.row (.slice (some ⟨g,0,none⟩) es.length cap) k (Ze es)::h2:=X1 ..
  refine ⟨G',⟨fun r hr=>?_,Wv.2 ⟨fun r hr b o f1 f2=>hpw.1 r hr b o f1.1 f2,hpw.2⟩,fun r hr b o hf hg=>?_,fun b o hg=>?_⟩,
   ⟨rfl,rfl,rfl,YR _,fun _ _ h=>.inl h,fun _ _=>.inl rfl,fun b o _ hg=>hg.imp id fun ⟨e1,_⟩=>⟨_,hmem,e1⟩,?_⟩,?_⟩
  ·rcases YB.1 hr with rfl|hr
   ·exact .inr ⟨g,es.length,cap,cur,e,rfl,h1,h3,h4⟩
   ·exact (hh.ok r (Xl _ hr)).same hA
  ·rcases YB.1 hr with rfl|hr2
   ·obtain ⟨hbg,hf2⟩:=hf
    rcases hg with hg|⟨_,hg⟩
    ·exact hh.prot _ hmem b o hbg hg
    ·omega
   ·rcases hg with hg|⟨hbg,_⟩
    ·exact hh.prot r (Xl _ hr2) b o hf hg
    ·exact hpw.1 r hr2 b o hbg hf
  ·rcases hg with hg|⟨rfl,_⟩
   ·exact hh.lt b o hg
   ·exact (Uh.1 h1).1
  ·rintro b o _ ⟨r,hr,hf⟩
   rcases YB.1 hr with rfl|hr
   ·exact ⟨_,hmem,hf.1⟩
   ·exact ⟨r,Xl _ hr,hf⟩
  ·refine .sl (k:=k) (fun x hx=>by cases hx;rfl) h3 (WF.of_flat es hes (W9.of_cells (h6.mono hA) fun j u hj=>?_))
   have hjl:j<es.length*k:=by
    have:=(XA.1 hj).1
    have h7:=h6.length
    omega
   rw [Qt,Zk hjl] at hj
   refine ⟨?_,.inr ⟨rfl,by omega⟩⟩
   rw [WS,cell_of_row w g j cur e (0,0) h1]
   simpa using hj
section
variable {P:Program} {n:Nat} {ops:Array Oper} {B:Fr->List Res->Prop} {k:Nat} {F:Fr} {h h2:List Res}
theorem Ix {k:Nat}:Uu h (.row (.slice none 0 0) k []::h):=fun _ _ hh=>let ⟨a,b⟩:=Z99 hh;⟨_,a,b⟩
theorem Zby (j:Nat) {v:Value} {kk m:Nat} {ls:List AV} (hl:Cb P ops F k=some (.val v)) (hj:h[j]? = some (.row v kk ls)) (hm:ls.length=m*kk) (hk:0<kk):Xr P (Zz ops k) F h [] (.val (.int .i64 m)):=by
 unfold Cb at hl
 generalize hoo:Zz ops k=o at hl
 obtain ⟨dst,op,type,pos,after,guard⟩:=o
 cases op<;>simp only at hl<;>try (cases hl)
 rename_i c
 obtain ⟨callee,args,tys⟩:=c
 simp only at hl
 split at hl
 ·rename_i x t hargs htys
  split at hl
  ·rename_i el hu
   simp only [XY] at hl
   intro n w G a hF hh
   have hv:=hF.ev x
   rw [hl] at hv
   have hv:=hv.val_inv
   obtain ⟨ad,len,cap,rfl,hlen⟩:=KM.form (hh.ok _ (Y0 hj))
   have:len=m:=G6 hk (hlen.symm.trans hm)
   subst this
   have e1:args=#[x]:=by rw [<-VN (xs:=args),hargs]
   have e2:tys=#[t]:=by rw [<-VN (xs:=tys),htys]
   subst e1;subst e2
   exact ⟨_,.val,fun w' _ _=>by simp [execOp,resolve,invoke,builtin,hv,Builtin.len_,Vp hu,goInt]⟩
  ·cases hl
 ·cases hl
def HN (ops:Array Oper) (F:Fr) (k:Nat):Option (TypeId × AV):=
 match (Zz ops k).op with
 | .load t x=>some (t,F.ev x)
 | _=>none
theorem Zbz (j:Nat) {g len cap kk o:Nat} {ls zs:List AV} {t:TypeId} {y:AV} (hl:HN ops F k=some (t,.val (.pointer (some ⟨g,o,none⟩)))) (hj:h[j]? = some (.row (.slice (some ⟨g,0,none⟩) len cap) kk ls))
  (hz:(ls.drop o).take zs.length=zs) (hy:JR P t zs=some y):Xr P (Zz ops k) F h [g] y:=by
 unfold HN at hl
 generalize hoo:Zz ops k=q at hl
 obtain ⟨dst,op,type,pos,after,guard⟩:=q
 cases op<;>simp only at hl<;>try (cases hl)
 rename_i t' x
 intro n w G a hF hh
 simp only [XY,Prod.mk.injEq] at hl
 obtain ⟨rfl,hl⟩:=hl
 have hv:=hF.ev x
 rw [hl] at hv
 have hv:=hv.val_inv
 rcases hh.ok _ (Y0 hj) with ⟨h0,_⟩|⟨g',len',cap',cur,e,h0,h1,h2,h3,h4,h5⟩
 ·cases h0
 ·cases h0
  have hc:=(h5.drop o).take zs.length
  rw [hz] at hc
  obtain ⟨v,j1,j2⟩:=Fw (P:=P) (b:=g) (o:=o) hy hc
  refine ⟨v,j1,fun w' _ hw=>?_⟩
  have hrow:=hw g (by simp)
  rw [h1] at hrow
  simp only [execOp,hv]
  refine V1 ?_
  simp only [Instr.loadAt,Instr.sureAddr,Sem.run_bind,Sem.run_pure,Result.andThen_ok]
  refine j2 w' fun j u hj=>?_
  rw [cell_of_row w' g (o+j) cur e (0,0) hrow]
  rw [Qt] at hj
  split at hj
  ·rw [II,Qt] at hj
   split at hj
   ·simpa using hj
   ·cases hj
  ·cases hj
theorem O3 {K:Fr->List Res->Prop} {g len cap kk:Nat} {ls xs:List AV} {i:Nat} (hs:storeAt P ops F k=some (g,i,xs)) (hlt:i+xs.length<=ls.length)
  (hK:K F (.row (.slice (some ⟨g,0,none⟩) len cap) kk (ls.take i++xs++ls.drop (i+xs.length))::h2)):W8 P n (Zz ops k) F (.row (.slice (some ⟨g,0,none⟩) len cap) kk ls::h2) K:=by
 unfold storeAt at hs
 generalize hoo:Zz ops k=q at hs
 obtain ⟨dst,op,type,pos,after,guard⟩:=q
 cases op<;>simp only at hs<;>try (cases hs)
 rename_i t x z
 split at hs
 ·rename_i b' o' inf hx hi
  split at hs
  ·rename_i hc
   simp only [XI] at hc
   simp only [XY,Prod.mk.injEq] at hs
   obtain ⟨rfl,rfl,hz⟩:=hs
   intro Q w G a hF hh
   have hvx:=hF.ev x
   rw [hx] at hvx
   have hvx:=hvx.val_inv
   have hvy:=hF.ev z
   have hcs:=hvy.cells hc.2.1
   rw [hz] at hcs hc
   have hone:=hcs.one_cells hc.2.2
   have Xk:inf.size=xs.length:=U2 hc.1
   have hlen:(a.eval z).cells.size=xs.length:=by have:=hcs.length;simpa using this
   rcases hh.ok (.row (.slice (some ⟨b',0,none⟩) len cap) kk ls) (X1 ..) with ⟨h0,_⟩|⟨g',len',cap',cur,e,h0,h1,h2',h3,h4,h5⟩
   ·cases h0
   ·cases h0
    have hlc:len*kk<=cap*kk:=Q2 _ h2'
    have hst:=run_storeCells_at P b' o' e (a.eval z).cells.toList 0 cur w h1 (by simp [hlen];omega) hone
    simp only [BC,QM] at hst
    have hr:(execOp a.eval { dst:=none,op:=.store t x z,type:=type,pos:=pos,after:=after,guard:=guard }).run P w =
      .ok .skip (w.setRow b' (cur.toList.take o'++(a.eval z).cells.toList++cur.toList.drop (o'+(a.eval z).cells.size)).toArray):=by
     simp only [execOp,hvx]
     simp [Instr.storeAt,Instr.sureAddr,storeVar,TW hi,hlen,Xk,hst]
    unfold Oper.wp
    rw [hr]
    have hcl:(a.eval z).cells.toList.length=xs.length:=by simpa using hlen
    obtain ⟨j1,j2⟩:=hh.rwrite (ls':=ls.take o'++xs++ls.drop (o'+xs.length)) (cs':=(cur.toList.take o'++(a.eval z).cells.toList++cur.toList.drop (o'+(a.eval z).cells.size)).toArray) h1
     (by simp [hlen];omega) h2' h3 (by simp;omega) (by
      rw [Cw,hlen]
      have e1:(cur.toList.take o'++(a.eval z).cells.toList++cur.toList.drop (o'+xs.length)).take (len*kk) =
        (cur.toList.take (len*kk)).take o'++(a.eval z).cells.toList++(cur.toList.take (len*kk)).drop (o'+xs.length):=by
       have q1:(cur.toList.take o'++(a.eval z).cells.toList).length=o'+xs.length:=by simp [hlen];omega
       rw [List.take_append,q1,WA om,List.take_take,Va om,List.drop_take]
      rw [e1]
      exact ((h5.take o').append hcs).append (h5.drop _))
    refine ⟨F,_,G,hK,?_,j1,j2⟩
    have:=hF.mono (j2.agree hh)
    simpa [Act.put] using this
  ·cases hs
 ·cases hs
theorem Z7x {K:Fr->List Res->Prop} {sz:Nat} (hd:WV n (Zz ops k)=true) (ha:UY P ops F k=some ([],0,sz))
  (hK:∀g,K (F.put (Zz ops k).dst (.val (.slice (some ⟨g,0,none⟩) 0 0))) (.row (.slice (some ⟨g,0,none⟩) 0 0) sz []::h)):W8 P n (Zz ops k) F h K:=by
 unfold UY at ha
 generalize hoo:Zz ops k=q at ha hd hK
 obtain ⟨dst,op,type,pos,after,guard⟩:=q
 cases op<;>simp only at ha<;>try (cases ha)
 rename_i t ln parts
 split at ha
 case h_2=>cases ha
 rename_i e ht
 split at ha
 case h_2=>cases ha
 rename_i i hi
 split at ha
 case h_2=>cases ha
 rename_i hc
 simp only [XI] at hc
 split at ha
 case h_2=>cases ha
 rename_i ls' hf
 simp only [XY,Prod.mk.injEq] at ha
 obtain ⟨rfl,rfl,Xk⟩:=ha
 intro Q w G a hF hh
 obtain ⟨cs,h1,h2⟩:=Fv hF parts ht hi rfl hc.1 hc.2 hf
 have hr:(execOp a.eval { dst:=dst,op:=.buildSlice t 0 parts,type:=type,pos:=pos,after:=after,guard:=guard }).run P w =
   .ok (.value (.slice (some ⟨w.heap.size,0,none⟩) 0 0)) (w.alloc (.cells cs e)):=by
  simp only [execOp]
  exact V1 h2
 unfold Oper.wp
 rw [hr]
 have hlc:=h1.length
 simp only [QM] at hlc
 obtain ⟨j1,j2⟩:=hh.alloc_rrow cs e (ls:=[]) (len:=0) (cap:=0) (k:=sz) (YR _) (by simpa using hlc) (by simp) (by simpa using YI.nil)
 exact ⟨_,_,G,hK _,(hF.mono (j2.agree hh)).put (U7 hd) .val,j1,j2⟩
theorem Z7v {K:Fr->List Res->Prop} {g sz:Nat} {xs:List AV} {hx:Option Value} (hd:WV n (Zz ops k)=true) (ha:U3 P ops F k=some (.val (.slice (some ⟨g,0,none⟩) 0 0),.sl xs hx,sz))
  (hxs:∀y∈xs,y.leaves.length=sz) (hbound:xs.length<=4294967296)
  (hK:∀v:Hd,K (F.put (Zz ops k).dst (.val v.v)) (.row v.v sz (Ze xs)::h2)):W8 P n (Zz ops k) F (.row (.slice (some ⟨g,0,none⟩) 0 0) sz []::h2) K:=by
 unfold U3 at ha
 generalize hoo:Zz ops k=o at ha hd hK
 obtain ⟨dst,op,type,pos,after,guard⟩:=o
 cases op<;>simp only at ha<;>try (cases ha)
 rename_i c
 obtain ⟨callee,args,tys⟩:=c
 simp only at ha
 split at ha
 case h_2=>cases ha
 rename_i s x t t' hargs htys
 split at ha
 case h_2=>cases ha
 rename_i e htt ht
 have:=U2 htt
 subst this
 split at ha
 case h_2=>cases ha
 rename_i i hinfo
 split at ha
 case h_2=>cases ha
 rename_i z hz
 split at ha
 case h_2=>cases ha
 rename_i hb
 simp only [XI] at hb
 simp only [XY,Prod.mk.injEq] at ha
 obtain ⟨h3,h4,hk1⟩:=ha
 have e1:args=#[s,x]:=by rw [<-VN (xs:=args),hargs]
 have e2:tys=#[t,t]:=by rw [<-VN (xs:=tys),htys]
 subst e1;subst e2
 have hzs:z.cells.size=sz:=by rw [U2 hb.1,hk1]
 have hby:=WE hb.2
 intro Q w G a hF hh
 have v1:=hF.ev s
 have v2:=hF.ev x
 rw [h3] at v1
 rw [h4] at v2
 have v1:=v1.val_inv
 have v2:=v2.forget
 have finish:∀(v':Hd) w',(Builtin.append_ #[t,t] type #[.slice (some ⟨g,0,none⟩) 0 0,a.eval x]).run P w=.ok v'.v w'->Yq w' G (.row v'.v sz (Ze xs)::h2) ->
   YP w G (.row (.slice (some ⟨g,0,none⟩) 0 0) sz []::h2) w' G (.row v'.v sz (Ze xs)::h2) ->
   ({ dst:=dst,op:=.call { callee:=.builtin .append,args:=#[s,x],argTypes:=#[t,t] },type:=type,pos:=pos,after:=after,guard:=guard }:Oper).wp P a w
    (fun a' w'=>∃F' h' G',K F' h'/\FR w' G' n F' a'/\Yq w' G' h'/\YP w G (.row (.slice (some ⟨g,0,none⟩) 0 0) sz []::h2) w' G' h') Q:=by
  intro v' w' hr j1 j2
  have hrun:(execOp a.eval { dst:=dst,op:=.call { callee:=.builtin .append,args:=#[s,x],argTypes:=#[t,t] },type:=type,pos:=pos,after:=after,guard:=guard }).run P w=.ok (.value v'.v) w':=by
   simp only [execOp,resolve,invoke,builtin,Sem.run_bind,Sem.run_pure,Result.andThen_ok,BA,VX,AW,v1,hr]
  unfold Oper.wp
  rw [hrun]
  exact ⟨_,_,G,hK v',(hF.mono (j2.agree hh)).put (U7 hd) .val,j1,j2⟩
 by_cases hxe:xs=[]
 ·subst hxe
  cases v2q:a.eval x with
  | slice ad' l' c'=>
   rw [v2q] at v2
   cases v2<;>exact finish ⟨some ⟨g,0,none⟩,0,0⟩ _ (by rw [v2q];exact Cl ht hinfo (YR _) w) hh (YP.refl w G _)
  | _=>rw [v2q] at v2;cases v2
 ·generalize hax:a.eval x=ax at v2 finish
  cases v2 with
  | nil _=>exact absurd rfl hxe
  | sl hq hcc hm=>
   rename_i b o' k' c
   have hpos:0<xs.length:=DS.2 hxe
   have hfm:=hm.flat_mem
   obtain ⟨news,hn,hnc⟩:=hfm.cells
   have hfl:=Ua xs hxs
   have hnl:news.length=xs.length*i.size:=by rw [hn.length,hfl,hk1]
   have hnews:∀j u,news[j]? = some u->w.cell? ((⟨b,o',none⟩:Addr).add j)=some u:=fun j u hj=>by rw [QT];exact (hnc j u hj).1
   have hbb:(0+xs.length)*i.bytes<=140737488355328:=by
    have:=Nat.mul_le_mul hbound hby
    rw [WS]
    omega
   have hr:=run_append_grow (P:=P) w t type e i z ht hinfo hz ⟨g,0,none⟩ 0 0 [] (by simp) (fun j u hj=>by simp at hj) ⟨b,o',none⟩ xs.length c news hnl hnews om om (growslice_fits om hbb)
   simp only [WS] at hr
   have YY:=grownCap_ge w xs.length 0 e
   obtain ⟨j1,j2⟩:=hh.drew.alloc_rrow ([].toArray++news.toArray++Builtin.zeroCells z.cells (grownCap w xs.length 0 e-xs.length)) e
    (ls:=Ze xs) (len:=xs.length) (cap:=grownCap w xs.length 0 e) (k:=sz) YY
    (by
     have q2:(grownCap w xs.length 0 e-xs.length)*sz=grownCap w xs.length 0 e*sz-xs.length*sz:=Nat.sub_mul ..
     have q3:xs.length*sz<=grownCap w xs.length 0 e*sz:=Q2 _ YY
     simp only [Array.size_append,Cv,size_zeroCells,hzs,Xg,WS,hnl,hk1]
     omega) hfl
    (by
     have q1:([].toArray++news.toArray++Builtin.zeroCells z.cells (grownCap w xs.length 0 e-xs.length)).toList.take (xs.length*sz)=news:=by
      simp only [Cs,Jl]
      rw [<-hk1,<-hnl]
      exact Jn
     rw [q1]
     exact hn.mono (Ae w G))
   have hs:List.Sublist (.row (.slice (some ⟨w.drew.heap.size,0,none⟩) xs.length (grownCap w xs.length 0 e)) sz (Ze xs)::h2)
     (.row (.slice (some ⟨w.drew.heap.size,0,none⟩) xs.length (grownCap w xs.length 0 e)) sz (Ze xs)::.row (.slice (some ⟨g,0,none⟩) 0 0) sz []::h2):=List.Sublist.cons_cons _ (Jm _ _)
   exact finish ⟨some ⟨w.heap.size,0,none⟩,xs.length,grownCap w xs.length 0 e⟩ _ hr (j1.sub hs) ((YP.drew w G _).trans (j2.sub' hs))
theorem I3 {w:World} {G:Y6} {v:Hd} {kk m:Nat} {ls:List AV} (h:KM w G v.v kk ls) (hm:ls.length=m*kk) (hk:0<kk) (h0:0<m):∃g c,v=⟨some ⟨g,0,none⟩,m,c⟩:=by
 obtain ⟨a,l,c⟩:=v
 rcases h with ⟨h1,h2⟩|⟨g,len,cap,cur,e,h1,h2,h3,h4,h5,h6⟩
 ·subst h2
  have:=Nat.mul_pos h0 hk
  rw [Xg] at hm
  omega
 ·cases h1
  have:l=m:=G6 hk (h5.symm.trans hm)
  subst this
  exact ⟨g,c,rfl⟩
theorem Rw (j m:Nat) {v:Hd} {kk:Nat} {ls:List AV} {c:Code} {A:Ww} (hj:h[j]? = some (.row v.v kk ls)) (hm:ls.length=m*kk) (hk:0<kk) (h0:0<m)
  (H:∀g c',v=⟨some ⟨g,0,none⟩,m,c'⟩->YF P n c A F h):YF P n c A F h:=by
 intro w G a hF hh
 obtain ⟨g,c',e⟩:=I3 (hh.ok _ (Y0 hj)) hm hk h0
 exact H g c' e w G a hF hh
theorem Rv (t j:Nat) {v:Hd} {kk:Nat} {es:List AV} {c:Code} {A:Ww} (hF':F.get t=.h v) (hp:XW [j] h=some [.row v.v kk (Ze es)]) (hes:∀y∈es,y.leaves.length=kk) (hk:0<kk)
  (H:YF P n c A ((t,.sl es (some v.v))::F) (.tail v.v kk::Xo [j] h)):YF P n c A F h:=by
 intro w G a hF hh
 have hp':=VU (V8 hp)
 obtain ⟨G',h1,h2',h3⟩:=Ck (hh.perm hp') hes hk
 have e:=h2'.perm hp'.symm (TJ _)
 have hF2:=hF.mono (e.agree hh)
 have hv:=hF2.get t
 rw [hF'] at hv
 have hv:=hv.val_inv
 refine wp_mono (H w G' a ⟨hF2.defers,hF2.size,fun s=>?_⟩ h1) fun e' a' w' hc=>hc.trans e
 show RV w G' (match Nat.beq t s with|true=>_|false=>Fr.get F s) _
 cases hb:Nat.beq t s with
 | true=>
  have:=U2 hb
  subst this
  rw [hv]
  exact h3
 | false=>exact hF2.get s
theorem PX (j i p:Nat) {u v:Value} {kk kv:Nat} {es ls:List AV} (hp:XW [j,i] h=some [.row u kk (Ze es),.row v kv ls]) (hes:∀y∈es,y.leaves.length=kk) (hk:0<kk) (hl:ls[p]? = some (.val u)) :
  Uu h (.row v kv (ls.set p (.sl es (some u)))::.tail u kk::Xo [j,i] h):=by
 intro w G hh
 have hp':=VU (V8 hp)
 have hh':=hh.perm hp'
 obtain ⟨G',h1,h2',h3⟩:=Ck (h2:=.row v kv ls::Xo [j,i] h) hh' hes hk
 have e:=h2'.perm hp'.symm (TJ _)
 have h1:Yq w G' (.tail u kk::.row v kv ls::Xo [j,i] h):=h1
 have perm:(Res.tail u kk::.row v kv ls::Xo [j,i] h).Perm (.row v kv ls::.tail u kk::Xo [j,i] h):=List.Perm.swap ..
 have h4:=h1.perm perm
 have e4:=e.perm (TJ _) perm
 have hset:∀{w:World} {G:Y6},RV w G (.sl es (some u)) u->KM w G v kv ls->KM w G v kv (ls.set p (.sl es (some u))):=by
  intro w G hu hr
  rcases hr with ⟨rfl,h0⟩|⟨g,len,cap,cur,el,rfl,k1,k2,k3,k4,k5⟩
  ·exact .inl ⟨rfl,by rw [h0];rfl⟩
  ·refine .inr ⟨g,len,cap,cur,el,rfl,k1,k2,k3,by rw [T3];exact k4,?_⟩
   obtain ⟨c,c1,c2⟩:=k5.get p _ hl
   have:=c2.val_inv
   subst this
   have h6:=k5.set p hu
   rwa [show (cur.toList.take (len*kv)).set p c=cur.toList.take (len*kv) from by
    apply List.ext_getElem?
    intro q
    rw [List.getElem?_set]
    split
    ·rename_i hq;subst hq;split
     ·exact c1.symm
     ·rename_i hq2;rw [Ct om]
    ·rfl] at h6
 refine ⟨G',⟨fun r hr=>?_,?_,fun r hr=>?_,h4.lt⟩,⟨e4.os,e4.tape,e4.output,e4.size,e4.sub,e4.same,e4.newG,fun b o hb ⟨r,hr,hf⟩=>e4.newfp b o hb ?_⟩⟩
 ·rcases YB.1 hr with rfl|hr
  ·exact hset h3 (h4.ok _ (X1 ..))
  ·exact h4.ok r (Xl _ hr)
 ·have:=Wv.1 h4.apart
  refine Wv.2 ⟨fun r hr b o f1 f2=>this.1 r hr b o ?_ f2,this.2⟩
  cases v with
  | slice a _ _=>cases a with
   | none=>exact f1.elim
   | some a=>exact f1
  | _=>exact f1.elim
 ·rcases YB.1 hr with rfl|hr
  ·intro b o f1 hg
   refine h4.prot (.row v kv ls) (X1 ..) b o ?_ hg
   cases v with
   | slice a _ _=>cases a with
    | none=>exact f1.elim
    | some a=>exact f1
   | _=>exact f1.elim
  ·exact h4.prot r (Xl _ hr)
 ·rcases YB.1 hr with rfl|hr
  ·refine ⟨.row v kv ls,X1 ..,?_⟩
   cases v with
   | slice a _ _=>cases a with
    | none=>exact hf.elim
    | some a=>exact hf
   | _=>exact hf.elim
  ·exact ⟨r,Xl _ hr,hf⟩
def Q6:List Res->Option (List (Value × Nat))
 | []=>some []
 | .tail v k::r=>(Q6 r).map ((v,k)::·)
 | .many ts::r=>(Q6 r).map (ts++·)
 | _=>none
theorem B7 {b o:Nat}:∀{hs:List Res} {L:List (Value × Nat)},Q6 hs=some L->((∃p∈L,DH p.1 p.2 b o)↔WC hs b o)
 | [],L,h=>by cases h;simp [WC]
 | .tail v k::r,L,h=>by
  rw [Q6] at h
  cases hr:Q6 r with
  | none=>rw [hr] at h;cases h
  | some L'=>
   rw [hr] at h
   cases h
   have ih:=B7 (b:=b) (o:=o) hr
   have ht:Res.fp (.tail v k) b o↔DH v k b o:=by
    cases v with
    | slice a _ _=>cases a<;>exact Iff.rfl
    | _=>exact Iff.rfl
   simp only [WC,YB,exists_eq_or_imp] at ih ⊢
   rw [ht,ih]
 | .many ts::r,L,h=>by
  rw [Q6] at h
  cases hr:Q6 r with
  | none=>rw [hr] at h;cases h
  | some L'=>
   rw [hr] at h
   cases h
   have ih:=B7 (b:=b) (o:=o) hr
   simp only [WC,YB,exists_eq_or_imp] at ih ⊢
   rw [<-ih]
   simp only [X4,Res.fp]
   constructor
   ·rintro ⟨p,hp|hp,hf⟩
    ·exact .inl ⟨p,hp,hf⟩
    ·exact .inr ⟨p,hp,hf⟩
   ·rintro (⟨p,hp,hf⟩|⟨p,hp,hf⟩)
    ·exact ⟨p,.inl hp,hf⟩
    ·exact ⟨p,.inr hp,hf⟩
 | .obj _ _::_,_,h=>by cases h
 | .ge _::_,_,h=>by cases h
 | .vec _ _::_,_,h=>by cases h
 | .own _ _::_,_,h=>by cases h
 | .row _ _ _::_,_,h=>by cases h
theorem Gs {w:World} {G:Y6}:∀{hs:List Res} {L:List (Value × Nat)},Q6 hs=some L->(∀r∈hs,Ty w G r)->hs.Pairwise Jr->Ty w G (.many L)
 | [],L,h,_,_=>by cases h;exact ⟨by simp,.nil⟩
 | .tail v k::r,L,h,h1,h2=>by
  rw [Q6] at h
  cases hr:Q6 r with
  | none=>rw [hr] at h;cases h
  | some L'=>
   rw [hr] at h
   cases h
   have hpw:=Wv.1 h2
   obtain ⟨i1,i2⟩:=Gs (w:=w) (G:=G) hr (fun q hq=>h1 q (Xl _ hq)) hpw.2
   refine ⟨fun p hp=>?_,Wv.2 ⟨fun p hp b o f1 f2=>?_,i2⟩⟩
   ·rcases YB.1 hp with rfl|hp
    ·exact h1 (.tail v k) (X1 ..)
    ·exact i1 p hp
   ·obtain ⟨q,hq,hf⟩:=(B7 hr).1 ⟨p,hp,f2⟩
    refine hpw.1 q hq b o ?_ hf
    cases v with
    | slice a _ _=>cases a<;>exact f1
    | _=>exact f1
 | .many ts::r,L,h,h1,h2=>by
  rw [Q6] at h
  cases hr:Q6 r with
  | none=>rw [hr] at h;cases h
  | some L'=>
   rw [hr] at h
   cases h
   have hpw:=Wv.1 h2
   obtain ⟨i1,i2⟩:=Gs (w:=w) (G:=G) hr (fun q hq=>h1 q (Xl _ hq)) hpw.2
   obtain ⟨t1,t2⟩:=h1 (.many ts) (X1 ..)
   refine ⟨fun p hp=>?_,KL.2 ⟨t2,i2,fun p hp q hq b o f1 f2=>?_⟩⟩
   ·rcases X4.1 hp with hp|hp
    ·exact t1 p hp
    ·exact i1 p hp
   ·obtain ⟨s,hs,hf⟩:=(B7 hr).1 ⟨q,hq,f2⟩
    exact hpw.1 s hs b o ⟨p,hp,f1⟩ hf
 | .obj _ _::_,_,h,_,_=>by cases h
 | .ge _::_,_,h,_,_=>by cases h
 | .vec _ _::_,_,h,_,_=>by cases h
 | .own _ _::_,_,h,_,_=>by cases h
 | .row _ _ _::_,_,h,_,_=>by cases h
theorem Zci (is:List Nat) {L:List (Value × Nat)} {hs:List Res} (hp:XW is h=some hs) (hb:Q6 hs=some L):Uu h (.many L::Xo is h):=by
 intro w G hh
 have hp':=VU (V8 hp)
 have hh':=hh.perm hp'
 have hpw:=KL.1 hh'.apart
 have hmany:=Gs (w:=w) (G:=G) hb (fun r hr=>hh'.ok r (X4.2 (.inl hr))) hpw.1
 refine ⟨G,⟨fun r hr=>?_,Wv.2 ⟨fun r hr b o f1 f2=>?_,hpw.2.1⟩,fun r hr b o hf hg=>?_,hh'.lt⟩,
  ⟨rfl,rfl,rfl,YR _,fun _ _ h=>h,fun _ _=>.inl rfl,fun _ _ _ h=>.inl h,fun b o _ ⟨r,hr,hf⟩=>?_⟩⟩
 ·rcases YB.1 hr with rfl|hr
  ·exact hmany
  ·exact hh'.ok r (X4.2 (.inr hr))
 ·exact hh'.cross ((B7 hb).1 f1) ⟨r,hr,f2⟩
 ·rcases YB.1 hr with rfl|hr
  ·obtain ⟨q,hq,hf⟩:=(B7 hb).1 hf
   exact hh'.prot q (X4.2 (.inl hq)) b o hf hg
  ·exact hh'.prot r (X4.2 (.inr hr)) b o hf hg
 ·refine (Aq hp').2 ?_
  rcases YB.1 hr with rfl|hr
  ·exact J5.2 (.inl ((B7 hb).1 hf))
  ·exact J5.2 (.inr ⟨r,hr,hf⟩)
end
end Go.Abs
