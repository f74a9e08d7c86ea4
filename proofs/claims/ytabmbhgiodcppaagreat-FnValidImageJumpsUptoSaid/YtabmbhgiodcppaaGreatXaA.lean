/-
  A part of the proofs of several laws (see the last file): no condition.
-/
import Derived.OrdersHeld
import Derived.Below
import Derived.KernelRfl
import Derived.Laws.AppendOwn
import Derived.Laws.MakeOwn
import Derived.IntWalk
import Derived.Lib.AppendZeros
set_option linter.all false
set_option linter.unusedVariables false
set_option linter.unusedSimpArgs false
set_option linter.unusedSectionVars false
set_option maxRecDepth 10000
set_option maxHeartbeats 4000000
namespace Go.Abs
abbrev LI:=List Int
theorem ob {p:Prop} (h:p:=by first|assumption|omega|rfl|(simp<;>omega)):p:=h
theorem kr {p:Prop} (h:p:=by kernel_rfl):p:=h
theorem om {p:Prop} (h:p:=by omega):p:=h
def Za:=@if_neg
def Zf:=@beq_iff_eq
def Zk:=@if_pos
def Y2:=@List.mem_of_getElem?
def Y9:=@Bool.eq_iff_iff
def Yl:=@List.length_append
def Yp:=@congrArg
def Yv:=@bne_iff_ne
def Yw:=@List.length_cons
def YM:=@List.mem_cons
def X5:=@List.length_nil
def X7:=@Nat.le_refl
def Xh:=@List.getElem?_eq_some_iff
def Xj:=@List.mem_append
def Xm:=@List.mem_cons_self
def Xo:=@Bool.and_eq_true
def Xv:=@List.mem_singleton
def XE:=@List.mem_cons_of_mem
def XF:=@List.mem_map
def Wd:=@List.length_take
def Wh:=@Nat.zero_add
def Wv:=@Option.some.injEq
def WJ:=@List.take_of_length_le
def V1:=@List.pairwise_cons
def V2:=@Nat.le_of_ble_eq_true
def V3:=@Nat.le_trans
def VC:=@List.length_set
def VJ:=@List.append_assoc
def VW:=@Nat.min_eq_left
def Uf:=@List.take_length
def UB:=@Array.getElem?_eq_some_iff
def T5:=@Classical.not_not
def T6:=@List.map_cons
def T7:=@Nat.eq_of_beq_eq_true
def Ti:=@Array.toArray_toList
def Tj:=@Int.toNat_natCast
def Tk:=@List.take_append_drop
def Tu:=@List.Perm.refl
def Q5:=@Bool.eq_false_iff
def Q6:=@List.getElem?_take
def Qn:=@List.length_map
def Qo:=@List.mem_of_mem_take
def Qp:=@Nat.add_mul
def QS:=@Nat.zero_le
def Kj:=@List.getElem?_map
def KU:=@Nat.mul_le_mul_right
def Jp:=@Array.length_toList
def Jq:=@List.append_nil
def Jr:=@List.take_left
def JZ:=@List.all_eq_true
def A0:=@List.cons_append
def A1:=@List.getElem?_append_left
def A3:=@List.take_succ_cons
def A4:=@Nat.add_assoc
def AL:=@List.length_singleton
def AM:=@List.pairwise_append
def AN:=@Nat.mul_one
def Bv:=@Classical.byContradiction
def Bw:=@List.drop_zero
def Bx:=@List.flatMap_cons
def By:=@List.getElem?_eq_none
def Bz:=@List.length_pos_iff
def BA:=@List.sublist_cons_self
def BB:=@Nat.add_zero
def Ct:=@List.getElem?_eq_getElem
def Cu:=@List.nil_append
def Cv:=@Option.some.inj
def DE:=@List.getElem?_append_right
def DF:=@List.pairwise_singleton
def EJ:=@List.map_nil
def EK:=@List.map_toArray
def EL:=@List.size_toArray
def EM:=@List.toList_toArray
def EN:=@Nat.lt_or_ge
def EO:=@Option.map_some
def GV:=@Array.getElem?_toList
def GW:=@Array.toList_append
def GX:=@List.length_drop
def GY:=@List.set_eq_take_append_cons_drop
def GZ:=@Nat.eq_of_mul_eq_mul_right
def LY:=@List.drop_eq_getElem_cons
def LZ:=@List.drop_eq_nil_of_le
def M0:=@Nat.lt_of_lt_of_le
def Sw:=@List.getElem?_drop
def Sx:=@List.replicate_succ
end Go.Abs
namespace Go.Abs
inductive AV where
 | any
 | val (v:Value)
 | sl (es:List AV) (hv:Option Value)
 | agg (ls:List AV)
 | rp (ls:List AV)
 | tup (vs:List AV)
abbrev Yg:=Nat->Nat->Prop
def AV.leaves:AV->List AV
 | .agg ls=>ls
 | x=>[x]
mutual
inductive RV (w:World) (G:Yg):AV->Value->Prop
 | any {v}:RV w G .any v
 | val {v}:RV w G (.val v) v
 | nil {hv a cap} (h:∀x,hv=some x->x=.slice a 0 cap):RV w G (.sl [] hv) (.slice a 0 cap)
 | sl {es hv b o k cap} (h:∀x,hv=some x->x=.slice (some ⟨b,o,none⟩) es.length cap) (hc:es.length<=cap) (hm:V4 w G k b o es) :
   RV w G (.sl es hv) (.slice (some ⟨b,o,none⟩) es.length cap)
 | agg {ls cs} (h:YT w G ls cs):RV w G (.agg ls) (.agg cs.toArray)
 | rp {ls b o} (h:Wr w G b o ls):RV w G (.rp ls) (.pointer (some ⟨b,o,none⟩))
 | tup {vs cs} (h:YT w G vs cs):RV w G (.tup vs) (.tuple cs.toArray)
inductive YT (w:World) (G:Yg):List AV->List Value->Prop
 | nil:YT w G [] []
 | cons {x v xs vs} (h:RV w G x v) (t:YT w G xs vs):YT w G (x::xs) (v::vs)
inductive Wr (w:World) (G:Yg):Nat->Nat->List AV->Prop
 | nil {b o}:Wr w G b o []
 | cons {b o x c xs} (hc:w.cell? ⟨b,o,none⟩=some c) (hg:G b o) (h:RV w G x c) (t:Wr w G b (o+1) xs):Wr w G b o (x::xs)
inductive V4 (w:World) (G:Yg):Nat->Nat->Nat->List AV->Prop
 | nil {k b o}:V4 w G k b o []
 | cons {k b o x xs} (hl:x.leaves.length=k) (h:Wr w G b o x.leaves) (t:V4 w G k b (o+k) xs):V4 w G k b o (x::xs)
end
structure VK (G:Yg) (w w':World) (G':Yg):Prop where
 cell:∀b o,G b o->w'.cell? ⟨b,o,none⟩=w.cell? ⟨b,o,none⟩
 sub:∀b o,G b o->G' b o
section mono
variable {w w':World} {G G':Yg}
mutual
theorem RV.mono {x:AV} {v:Value} (hA:VK G w w' G'):RV w G x v->RV w' G' x v
 | .any=>.any
 | .val=>.val
 | .nil h=>.nil h
 | .sl h hc hm=>.sl h hc (hm.mono hA)
 | .agg h=>.agg (h.mono hA)
 | .rp h=>.rp (h.mono hA)
 | .tup h=>.tup (h.mono hA)
theorem YT.mono {xs:List AV} {vs:List Value} (hA:VK G w w' G'):YT w G xs vs->YT w' G' xs vs
 | .nil=>.nil
 | .cons h t=>.cons (h.mono hA) (t.mono hA)
theorem Wr.mono {b o:Nat} {xs:List AV} (hA:VK G w w' G'):Wr w G b o xs->Wr w' G' b o xs
 | .nil=>.nil
 | .cons hc hg h t=>.cons ((hA.cell _ _ hg).trans hc) (hA.sub _ _ hg) (h.mono hA) (t.mono hA)
theorem V4.mono {k b o:Nat} {xs:List AV} (hA:VK G w w' G'):V4 w G k b o xs->V4 w' G' k b o xs
 | .nil=>.nil
 | .cons hl h t=>.cons hl (h.mono hA) (t.mono hA)
end
end mono
theorem YT.length {w:World} {G:Yg}:∀{xs:List AV} {vs:List Value},YT w G xs vs->vs.length=xs.length
 | _,_,.nil=>rfl
 | _,_,.cons _ t=>by simp [t.length]
theorem YT.get {w:World} {G:Yg}:∀{xs:List AV} {vs:List Value},YT w G xs vs->∀(i:Nat) (x:AV),xs[i]? = some x->∃v,vs[i]? = some v/\RV w G x v
 | _,_,.nil,i,x,h=>by simp at h
 | _,_,.cons h t,0,x,hx=>by simp at hx;subst hx;exact ⟨_,rfl,h⟩
 | _,_,.cons h t,i+1,x,hx=>by simpa using t.get i x (by simpa using hx)
theorem YT.append {w:World} {G:Yg}:∀{xs ys:List AV} {vs us:List Value},YT w G xs vs->YT w G ys us->YT w G (xs++ys) (vs++us)
 | _,_,_,_,.nil,h=>h
 | _,_,_,_,.cons h t,h2=>.cons h (t.append h2)
theorem YT.take {w:World} {G:Yg}:∀{xs:List AV} {vs:List Value} (n:Nat),YT w G xs vs->YT w G (xs.take n) (vs.take n)
 | _,_,0,_=>by simp;exact .nil
 | _,_,n+1,.nil=>by simp;exact .nil
 | _,_,n+1,.cons h t=>by simp;exact .cons h (t.take n)
theorem YT.drop {w:World} {G:Yg}:∀{xs:List AV} {vs:List Value} (n:Nat),YT w G xs vs->YT w G (xs.drop n) (vs.drop n)
 | _,_,0,h=>by simpa using h
 | _,_,n+1,.nil=>by simp;exact .nil
 | _,_,n+1,.cons h t=>by simpa using t.drop n
theorem YT.set {w:World} {G:Yg}:∀{xs:List AV} {vs:List Value} (n:Nat) {x:AV} {v:Value},YT w G xs vs->RV w G x v->YT w G (xs.set n x) (vs.set n v)
 | _,_,_,_,_,.nil,_=>by simp;exact .nil
 | _,_,0,_,_,.cons h t,hx=>by simp;exact .cons hx t
 | _,_,n+1,_,_,.cons h t,hx=>by simp;exact .cons h (t.set n hx)
theorem Wr.drop {w:World} {G:Yg}:∀(n:Nat) {b o:Nat} {xs:List AV},Wr w G b o xs->Wr w G b (o+n) (xs.drop n)
 | 0,_,_,_,h=>by simpa using h
 | n+1,_,_,_,.nil=>by simp;exact .nil
 | n+1,_,_,_,.cons hc hg h t=>by
  have:=t.drop n
  simp only [List.drop_succ_cons]
  rw [show ∀o:Nat,o+(n+1)=o+1+n from fun o=>by omega]
  exact this
theorem Wr.take {w:World} {G:Yg}:∀(n:Nat) {b o:Nat} {xs:List AV},Wr w G b o xs->Wr w G b o (xs.take n)
 | 0,_,_,_,h=>by simp;exact .nil
 | n+1,_,_,_,.nil=>by simp;exact .nil
 | n+1,_,_,_,.cons hc hg h t=>by simp;exact .cons hc hg h (t.take n)
theorem Wr.append {w:World} {G:Yg}:∀{b o:Nat} {xs ys:List AV},Wr w G b o xs->Wr w G b (o+xs.length) ys->Wr w G b o (xs++ys)
 | _,_,_,_,.nil,h=>by simpa using h
 | _,_,_,_,.cons hc hg h t,h2=>.cons hc hg h (t.append (by
   simp only [Yw] at h2
   rw [show ∀(o:Nat) (l:Nat),o+1+l=o+(l+1) from fun o l=>by omega];exact h2))
theorem Wr.cells {w:World} {G:Yg}:∀{b o:Nat} {xs:List AV},Wr w G b o xs ->
  ∃cs,YT w G xs cs/\(∀j v,cs[j]? = some v->w.cell? ⟨b,o+j,none⟩=some v/\G b (o+j))
 | _,_,_,.nil=>⟨[],.nil,by simp⟩
 | _,o,_,.cons (c:=c) hc hg h t=>by
  obtain ⟨cs,h1,h2⟩:=t.cells
  refine ⟨c::cs,.cons h h1,fun j v hj=>?_⟩
  cases j with
  | zero=>simp at hj;subst hj;exact ⟨hc,hg⟩
  | succ j=>
   have:=h2 j v (by simpa using hj)
   rw [show o+1+j=o+(j+1) from by omega] at this
   exact this
theorem Wr.of_cells {w:World} {G:Yg} {b:Nat}:∀{o:Nat} {xs:List AV} {cs:List Value},YT w G xs cs ->
  (∀j v,cs[j]? = some v->w.cell? ⟨b,o+j,none⟩=some v/\G b (o+j))->Wr w G b o xs
 | _,_,_,.nil,_=>.nil
 | o,_,_,.cons (v:=c) h t,hc=>by
  have h0:=hc 0 c (by simp)
  refine .cons h0.1 h0.2 h (Wr.of_cells t fun j v hj=>?_)
  have:=hc (j+1) v (by simpa using hj)
  rw [show o+(j+1)=o+1+j from by omega] at this
  exact this
def Ze (es:List AV):List AV:=es.flatMap AV.leaves
theorem V4.flat_mem {w:World} {G:Yg} {k:Nat}:∀{b o:Nat} {xs:List AV},V4 w G k b o xs->Wr w G b o (Ze xs)
 | _,_,_,.nil=>.nil
 | _,_,_,.cons hl h t=>by
  simp only [Ze,Bx]
  exact h.append (by rw [hl];exact t.flat_mem)
theorem V4.of_flat {w:World} {G:Yg} {k:Nat} {b:Nat}:∀{o:Nat} (xs:List AV),(∀x∈xs,x.leaves.length=k)->Wr w G b o (Ze xs)->V4 w G k b o xs
 | _,[],_,_=>.nil
 | o,x::xs,hk,h=>by
  have hx:=hk x (by simp)
  simp only [Ze,Bx] at h
  have h1:=h.take x.leaves.length
  have h2:=h.drop x.leaves.length
  simp only [List.take_left',List.drop_left'] at h1 h2
  rw [hx] at h2
  exact .cons hx h1 (V4.of_flat xs (fun y hy=>hk y (by simp [hy])) h2)
theorem V4.len {w:World} {G:Yg} {k:Nat}:∀{b o:Nat} {xs:List AV},V4 w G k b o xs->∀x∈xs,x.leaves.length=k
 | _,_,_,.nil,x,h=>by simp at h
 | _,_,_,.cons hl _ t,x,h=>by
  rcases YM.1 h with rfl|h
  ·exact hl
  ·exact t.len x h
theorem To {k:Nat}:∀(xs:List AV),(∀x∈xs,x.leaves.length=k)->(Ze xs).length=xs.length*k
 | [],_=>by simp [Ze]
 | x::xs,h=>by
  have:=To xs (fun y hy=>h y (by simp [hy]))
  simp only [Ze,Bx,Yl,Yw] at this ⊢
  rw [this,h x (by simp),Qp];omega
theorem V4.get {w:World} {G:Yg} {k:Nat}:∀{b o:Nat} {xs:List AV},V4 w G k b o xs->∀(i:Nat) (x:AV),xs[i]? = some x->Wr w G b (o+i*k) x.leaves
 | _,_,_,.nil,i,x,h=>by simp at h
 | _,_,_,.cons hl h t,0,x,hx=>by simp at hx;subst hx;simpa using h
 | _,o,_,.cons hl h t,i+1,x,hx=>by
  have:=t.get i x (by simpa using hx)
  rw [show o+(i+1)*k=o+k+i*k from by rw [Qp];omega]
  exact this
theorem V4.drop {w:World} {G:Yg} {k:Nat}:∀(n:Nat) {b o:Nat} {xs:List AV},V4 w G k b o xs->V4 w G k b (o+n*k) (xs.drop n)
 | 0,_,_,_,h=>by simpa using h
 | n+1,_,_,_,.nil=>by simp;exact .nil
 | n+1,_,o,_,.cons hl h t=>by
  have:=t.drop n
  simp only [List.drop_succ_cons]
  rw [show o+(n+1)*k=o+k+n*k from by rw [Qp];omega]
  exact this
theorem V4.take {w:World} {G:Yg} {k:Nat}:∀(n:Nat) {b o:Nat} {xs:List AV},V4 w G k b o xs->V4 w G k b o (xs.take n)
 | 0,_,_,_,h=>by simp;exact .nil
 | n+1,_,_,_,.nil=>by simp;exact .nil
 | n+1,_,_,_,.cons hl h t=>by simp;exact .cons hl h (t.take n)
inductive Res where
 | obj (b:Nat) (ls:List AV)
 | tail (v:Value) (k:Nat)
 | ge (s:Nat)
 | vec (v:Value) (ls:List AV)
 | many (ts:List (Value × Nat))
 | own (B:List Nat) (m:Nat->Nat->Option Value)
 | row (v:Value) (k:Nat) (ls:List AV)
def LJ:Value->Nat->Yg
 | .slice (some a) len _,k,b',o=>b'=a.block/\len*k<=o
 | _,_,_,_=>False
def Res.fp:Res->Yg
 | .obj b _,b',_=>b'=b
 | .tail (.slice (some a) len _) k,b',o=>b'=a.block/\len*k<=o
 | .tail _ _,_,_=>False
 | .ge _,_,_=>False
 | .vec (.slice (some a) _ _) _,b',_=>b'=a.block
 | .vec _ _,_,_=>False
 | .many ts,b',o=>∃p∈ts,LJ p.1 p.2 b' o
 | .own B _,b',_=>b'∈B
 | .row (.slice (some a) _ _) _ _,b',_=>b'=a.block
 | .row _ _ _,_,_=>False
def H6 (w:World) (v:Value) (k:Nat):Prop:=
 v=.slice none 0 0∨∃g len cap cur e,v=.slice (some ⟨g,0,none⟩) len cap/\w.heap[g]? = some (.cells cur e (0,0))/\len<=cap/\cur.size=cap*k
def BF (w:World) (G:Yg) (v:Value) (ls:List AV):Prop:=
 (v=.slice none 0 0/\ls=[])∨∃g cap cur e,v=.slice (some ⟨g,0,none⟩) ls.length cap/\w.heap[g]? = some (.cells cur e (0,0))/\ls.length<=cap/\cur.size=cap /\
  YT w G ls (cur.toList.take ls.length)
def Jt (w:World) (G:Yg) (v:Value) (k:Nat) (ls:List AV):Prop:=
 (v=.slice none 0 0/\ls=[])∨∃g len cap cur e,v=.slice (some ⟨g,0,none⟩) len cap/\w.heap[g]? = some (.cells cur e (0,0))/\len<=cap/\cur.size=cap*k/\ls.length=len*k /\
  YT w G ls (cur.toList.take (len*k))
def Qq (w:World) (G:Yg):Res->Prop
 | .obj b ls=>∃cs e,w.heap[b]? = some (.cells cs e (0,0))/\YT w G ls cs.toList
 | .tail v k=>H6 w v k
 | .ge s=>s<=w.heap.size
 | .vec v ls=>BF w G v ls
 | .many ts=>(∀p∈ts,H6 w p.1 p.2)/\ts.Pairwise (fun p q=>∀b o,LJ p.1 p.2 b o->LJ q.1 q.2 b o->False)
 | .own B m=>∀b∈B,∃cs e,w.heap[b]? = some (.cells cs e (0,0))/\∀o,cs[o]? = m b o
 | .row v k ls=>Jt w G v k ls
def Vh (h:List Res):Yg:=fun b o=>∃r∈h,r.fp b o
def AP (r r':Res):Prop:=∀b o,r.fp b o->r'.fp b o->False
structure YE (w:World) (G:Yg) (h:List Res):Prop where
 ok:∀r∈h,Qq w G r
 apart:h.Pairwise AP
 prot:∀r∈h,∀b o,r.fp b o->G b o->False
 lt:∀b o,G b o->b<w.heap.size
theorem Qq.lt {w:World} {G:Yg} {r:Res} (h:Qq w G r):∀b o,r.fp b o->b<w.heap.size:=by
 intro b o hf
 cases r with
 | obj b' ls=>obtain ⟨cs,e,h1,_⟩:=h;cases hf;exact (UB.1 h1).1
 | tail v k=>
  rcases h with rfl|⟨g,len,cap,cur,e,rfl,h1,_⟩
  ·exact hf.elim
  ·obtain ⟨rfl,_⟩:=hf;exact (UB.1 h1).1
 | ge s=>exact hf.elim
 | vec v ls=>
  rcases h with ⟨rfl,_⟩|⟨g,cap,cur,e,rfl,h1,_⟩
  ·exact hf.elim
  ·have hf:b=g:=hf
   subst hf
   exact (UB.1 h1).1
 | many ts=>
  obtain ⟨p,hp,hf⟩:=hf
  rcases h.1 p hp with h0|⟨g,len,cap,cur,e,h0,h1,_⟩
  ·rw [h0] at hf;exact hf.elim
  ·rw [h0] at hf;obtain ⟨rfl,_⟩:=hf;exact (UB.1 h1).1
 | own B m=>obtain ⟨cs,e,h1,_⟩:=h b hf;exact (UB.1 h1).1
 | row v k ls=>
  rcases h with ⟨rfl,_⟩|⟨g,len,cap,cur,e,rfl,h1,_⟩
  ·exact hf.elim
  ·have hf:b=g:=hf
   subst hf
   exact (UB.1 h1).1
def Kn (O:Yg) (b:Nat) (w w':World):Prop:=
 w'.heap[b]? = w.heap[b]?∨∃cs cs' e fr,w.heap[b]? = some (.cells cs e fr)/\w'.heap[b]? = some (.cells cs' e fr)/\cs'.size=cs.size/\∀o,¬O b o->cs'[o]? = cs[o]?
theorem Kn.eq {O:Yg} {b:Nat} {w w':World} (h:Kn O b w w') (hn:∀o,¬O b o):w'.heap[b]? = w.heap[b]?:=by
 rcases h with h|⟨cs,cs',e,fr,h1,h2,hs,hc⟩
 ·exact h
 ·have:cs'=cs:=by
   apply Array.ext hs
   intro i h1 h2
   have:=hc i (hn i)
   simpa [h1,h2] using this
  rw [h1,h2,this]
theorem Kn.cell {O:Yg} {b:Nat} {w w':World} (h:Kn O b w w') {o:Nat} (hn:¬O b o):w'.cell? ⟨b,o,none⟩=w.cell? ⟨b,o,none⟩:=by
 rcases h with h|⟨cs,cs',e,fr,h1,h2,hs,hc⟩
 ·simp [World.cell?,h]
 ·simp [World.cell?,h1,h2,hc o hn]
theorem Kn.mono {O O':Yg} {b:Nat} {w w':World} (h:Kn O b w w') (hO:∀o,O b o->O' b o):Kn O' b w w':=by
 rcases h with h|⟨cs,cs',e,fr,h1,h2,hs,hc⟩
 ·exact .inl h
 ·exact .inr ⟨cs,cs',e,fr,h1,h2,hs,fun o hn=>hc o fun h=>hn (hO o h)⟩
theorem Kn.trans {O:Yg} {b:Nat} {w w' w'':World} (h:Kn O b w w') (k:Kn O b w' w''):Kn O b w w'':=by
 rcases h with h|⟨cs,cs',e,fr,h1,h2,hs,hc⟩
 ·rcases k with k|⟨cs,cs',e,fr,h1,h2,hs,hc⟩
  ·exact .inl (k.trans h)
  ·exact .inr ⟨cs,cs',e,fr,h▸h1,h2,hs,hc⟩
 ·rcases k with k|⟨ds,ds',e',fr',k1,k2,ks,kc⟩
  ·exact .inr ⟨cs,cs',e,fr,h1,k▸h2,hs,hc⟩
  ·rw [h2] at k1
   cases k1
   exact .inr ⟨cs,ds',e,fr,h1,k2,ks.trans hs,fun o hn=>(kc o hn).trans (hc o hn)⟩
structure X1 (w:World) (G:Yg) (h:List Res) (w':World) (G':Yg) (h':List Res):Prop where
 os:w'.os=w.os
 tape:w'.tape=w.tape
 output:w'.output=w.output
 size:w.heap.size<=w'.heap.size
 sub:∀b o,G b o->G' b o
 same:∀b,b<w.heap.size->Kn (Vh h) b w w'
 newG:∀b o,b<w.heap.size->G' b o->G b o∨Vh h b o
 newfp:∀b o,b<w.heap.size->Vh h' b o->Vh h b o
theorem X1.refl (w:World) (G:Yg) (h:List Res):X1 w G h w G h:=
 ⟨rfl,rfl,rfl,X7 _,fun _ _ h=>h,fun _ _=>.inl rfl,fun _ _ _ h=>.inl h,fun _ _ _ h=>h⟩
theorem X1.trans {w w' w'':World} {G G' G'':Yg} {h h' h'':List Res} (a:X1 w G h w' G' h') (b:X1 w' G' h' w'' G'' h''):X1 w G h w'' G'' h'' where
 os:=b.os.trans a.os
 tape:=b.tape.trans a.tape
 output:=b.output.trans a.output
 size:=V3 a.size b.size
 sub:=fun x o hg=>b.sub x o (a.sub x o hg)
 same:=fun x hx=>(a.same x hx).trans ((b.same x (M0 hx a.size)).mono fun o ho=>a.newfp x o hx ho)
 newG:=fun x o hx hg=>by
  rcases b.newG x o (M0 hx a.size) hg with h1|h1
  ·exact a.newG x o hx h1
  ·exact .inr (a.newfp x o hx h1)
 newfp:=fun x o hx ho=>a.newfp x o hx (b.newfp x o (M0 hx a.size) ho)
theorem X1.agree {w w':World} {G G':Yg} {h h':List Res} (e:X1 w G h w' G' h') (hk:YE w G h):VK G w w' G' where
 cell:=fun b o hg=>(e.same b (hk.lt b o hg)).cell fun ⟨r,hr,hf⟩=>hk.prot r hr b o hf hg
 sub:=e.sub
theorem B6 {h k:List Res} {b o:Nat}:Vh (h++k) b o↔Vh h b o∨Vh k b o:=by
 unfold Vh
 constructor
 ·rintro ⟨r,hr,hf⟩
  rcases Xj.1 hr with hr|hr
  ·exact .inl ⟨r,hr,hf⟩
  ·exact .inr ⟨r,hr,hf⟩
 ·rintro (⟨r,hr,hf⟩|⟨r,hr,hf⟩)
  ·exact ⟨r,Xj.2 (.inl hr),hf⟩
  ·exact ⟨r,Xj.2 (.inr hr),hf⟩
theorem YE.left {w:World} {G:Yg} {h k:List Res} (H:YE w G (h++k)):YE w G h:=
 ⟨fun r hr=>H.ok r (Xj.2 (.inl hr)),(AM.1 H.apart).1,fun r hr=>H.prot r (Xj.2 (.inl hr)),H.lt⟩
theorem YE.cross {w:World} {G:Yg} {h k:List Res} (H:YE w G (h++k)) {b o:Nat} (h1:Vh h b o) (h2:Vh k b o):False:=by
 obtain ⟨r,hr,hf⟩:=h1
 obtain ⟨r',hr',hf'⟩:=h2
 exact (AM.1 H.apart).2.2 r hr r' hr' b o hf hf'
theorem YE.frame {w w':World} {G G':Yg} {h h' k:List Res} (H:YE w G (h++k)) (e:X1 w G h w' G' h') (H':YE w' G' h') :
  YE w' G' (h'++k)/\X1 w G (h++k) w' G' (h'++k):=by
 have hA:=e.agree H.left
 have hkok:∀r∈k,Qq w G r:=fun r hr=>H.ok r (Xj.2 (.inr hr))
 have hklt:∀b o,Vh k b o->b<w.heap.size:=fun b o ⟨r,hr,hf⟩=>(hkok r hr).lt b o hf
 refine ⟨⟨?_,?_,?_,H'.lt⟩,⟨e.os,e.tape,e.output,e.size,e.sub,?_,?_,?_⟩⟩
 ·intro r hr
  rcases Xj.1 hr with hr|hr
  ·exact H'.ok r hr
  ·have h0:=hkok r hr
   cases r with
   | obj b ls=>
    obtain ⟨cs,el,h1,h2⟩:=h0
    have hb:=(UB.1 h1).1
    refine ⟨cs,el,?_,h2.mono hA⟩
    rw [(e.same b hb).eq fun _ ho=>H.cross ho ⟨_,hr,rfl⟩]
    exact h1
   | tail v kk=>
    rcases h0 with rfl|⟨g,len,cap,cur,el,rfl,h1,h2,h3⟩
    ·exact .inl rfl
    ·have hb:=(UB.1 h1).1
     rcases e.same g hb with hs|⟨cs,cs',e',fr,k1,k2,k3,_⟩
     ·exact .inr ⟨g,len,cap,cur,el,rfl,hs.trans h1,h2,h3⟩
     ·rw [h1] at k1
      cases k1
      exact .inr ⟨g,len,cap,cs',el,rfl,k2,h2,k3.trans h3⟩
   | ge s=>exact V3 h0 e.size
   | vec v ls=>
    rcases h0 with ⟨rfl,h0⟩|⟨g,cap,cur,el,rfl,h1,h2,h3,h4⟩
    ·exact .inl ⟨rfl,h0⟩
    ·have hb:=(UB.1 h1).1
     refine .inr ⟨g,cap,cur,el,rfl,?_,h2,h3,h4.mono hA⟩
     rw [(e.same g hb).eq fun o ho=>H.cross ho ⟨_,hr,rfl⟩]
     exact h1
   | many ts=>
    refine ⟨fun p hp=>?_,h0.2⟩
    rcases h0.1 p hp with q|⟨g,len,cap,cur,el,q,h1,h2,h3⟩
    ·exact .inl q
    ·have hb:=(UB.1 h1).1
     rcases e.same g hb with hs|⟨cs,cs',e',fr,k1,k2,k3,_⟩
     ·exact .inr ⟨g,len,cap,cur,el,q,hs.trans h1,h2,h3⟩
     ·rw [h1] at k1
      cases k1
      exact .inr ⟨g,len,cap,cs',el,q,k2,h2,k3.trans h3⟩
   | own B m=>
    intro b hB
    obtain ⟨cs,el,h1,h2⟩:=h0 b hB
    have hb:=(UB.1 h1).1
    refine ⟨cs,el,?_,h2⟩
    rw [(e.same b hb).eq fun o ho=>H.cross ho ⟨_,hr,hB⟩]
    exact h1
   | row v k ls=>
    rcases h0 with ⟨rfl,h0⟩|⟨g,len,cap,cur,el,rfl,h1,h2,h3,h4,h5⟩
    ·exact .inl ⟨rfl,h0⟩
    ·have hb:=(UB.1 h1).1
     refine .inr ⟨g,len,cap,cur,el,rfl,?_,h2,h3,h4,h5.mono hA⟩
     rw [(e.same g hb).eq fun o ho=>H.cross ho ⟨_,hr,rfl⟩]
     exact h1
 ·refine AM.2 ⟨H'.apart,(AM.1 H.apart).2.1,fun r hr r' hr' b o hf hf'=>?_⟩
  have hb:=hklt b o ⟨r',hr',hf'⟩
  exact H.cross (e.newfp b o hb ⟨r,hr,hf⟩) ⟨r',hr',hf'⟩
 ·intro r hr b o hf hg
  rcases Xj.1 hr with hr|hr
  ·exact H'.prot r hr b o hf hg
  ·have hb:=hklt b o ⟨r,hr,hf⟩
   rcases e.newG b o hb hg with h1|h1
   ·exact H.prot r (Xj.2 (.inr hr)) b o hf h1
   ·exact H.cross h1 ⟨r,hr,hf⟩
 ·exact fun b hb=>(e.same b hb).mono fun _ ho=>B6.2 (.inl ho)
 ·intro b o hb hg
  exact (e.newG b o hb hg).imp id fun h=>B6.2 (.inl h)
 ·intro b o hb hf
  rcases B6.1 hf with h1|h1
  ·exact B6.2 (.inl (e.newfp b o hb h1))
  ·exact B6.2 (.inr h1)
theorem AP.symm {r r':Res} (h:AP r r'):AP r' r:=fun b o h1 h2=>h b o h2 h1
theorem C1 {h k:List Res} (p:h.Perm k) {b o:Nat}:Vh h b o↔Vh k b o:=
 ⟨fun ⟨r,hr,hf⟩=>⟨r,p.mem_iff.1 hr,hf⟩,fun ⟨r,hr,hf⟩=>⟨r,p.mem_iff.2 hr,hf⟩⟩
theorem YE.perm {w:World} {G:Yg} {h k:List Res} (H:YE w G h) (p:h.Perm k):YE w G k:=
 ⟨fun r hr=>H.ok r (p.mem_iff.2 hr),(p.pairwise_iff (fun h=>AP.symm h)).1 H.apart,fun r hr=>H.prot r (p.mem_iff.2 hr),H.lt⟩
theorem X1.perm {w w':World} {G G':Yg} {h h' k k':List Res} (e:X1 w G h w' G' h') (p:h.Perm k) (p':h'.Perm k'):X1 w G k w' G' k':=
 ⟨e.os,e.tape,e.output,e.size,e.sub,fun b hb=>(e.same b hb).mono fun _ ho=>(C1 p).1 ho,
  fun b o hb hg=>(e.newG b o hb hg).imp id (C1 p).1,fun b o hb hf=>(C1 p).1 (e.newfp b o hb ((C1 p').2 hf))⟩
abbrev Fr:=List (Nat × AV)
def Fr.get:Fr->Nat->AV
 | [],_=>.any
 | (s,x)::r,t=>match Nat.beq s t with | true=>x | false=>Fr.get r t
def AV.ofVal:Value->AV
 | .slice none 0 0=>.sl [] (some (.slice none 0 0))
 | v=>.val v
theorem RV.ofVal {w:World} {G:Yg} (v:Value):RV w G (AV.ofVal v) v:=by
 unfold AV.ofVal
 split
 ·exact .nil (by simp)
 ·exact .val
def Fr.ev (F:Fr):Operand->AV
 | .tmp t=>F.get t
 | .const v=>AV.ofVal v
 | .global g=>.val (.pointer (some ⟨g,0,none⟩))
 | .func f=>.val (.func (.func f) #[] #[])
def Fr.put (F:Fr) (d:Option Tmp) (x:AV):Fr:=
 match d with
 | some d=>(d,x)::F
 | none=>F
structure FR (w:World) (G:Yg) (n:Nat) (F:Fr) (a:Act):Prop where
 defers:a.defers=[]
 size:a.tmps.size=n
 get:∀t,RV w G (F.get t) (a.tmps.getD t undef)
section
variable {w w':World} {G G':Yg} {n:Nat} {F:Fr} {a:Act}
theorem FR.mono (h:FR w G n F a) (hA:VK G w w' G'):FR w' G' n F a:=⟨h.defers,h.size,fun t=>(h.get t).mono hA⟩
theorem FR.ev (h:FR w G n F a) (x:Operand):RV w G (F.ev x) (a.eval x):=by
 cases x with
 | tmp t=>exact h.get t
 | const v=>exact RV.ofVal v
 | global g=>exact .val
 | func f=>exact .val
theorem FR.put (h:FR w G n F a) {d:Option Tmp} {x:AV} {v:Value} (hd:∀t,d=some t->t<n) (hx:RV w G x v):FR w G n (F.put d x) (a.put d v):=by
 cases d with
 | none=>exact h
 | some d=>
  have hlt:=hd d rfl
  refine ⟨h.defers,by simp [Act.put,h.size],fun t=>?_⟩
  show RV w G (match Nat.beq d t with|true=>x|false=>Fr.get F t) ((a.tmps.setIfInBounds d v).getD t undef)
  by_cases e:d=t
  ·subst e
   have:Nat.beq d d=true:=Nat.beq_refl d
   rw [this]
   simp [h.size,hlt,hx]
  ·have hb:Nat.beq d t=false:=by
    cases hh:Nat.beq d t
    ·rfl
    ·exact absurd (T7 hh) e
   rw [hb]
   have:=h.get t
   simpa [Array.getElem?_setIfInBounds_ne e] using this
end
def Fr.Le (F F':Fr):Prop:=∀w G v t,RV w G (F.get t) v->RV w G (F'.get t) v
theorem FR.le {w:World} {G:Yg} {n:Nat} {F F':Fr} {a:Act} (h:FR w G n F a) (hle:F.Le F'):FR w G n F' a:=
 ⟨h.defers,h.size,fun t=>hle _ _ _ _ (h.get t)⟩
abbrev WQ:=Exit->Fr->List Res->Prop
def A7 (n:Nat) (A:WQ) (w:World) (G:Yg) (h:List Res) (e:Exit) (a':Act) (w':World):Prop:=
 ∃F' h' G',A e F' h'/\FR w' G' n F' a'/\YE w' G' h'/\X1 w G h w' G' h'
theorem A7.trans {n:Nat} {A:WQ} {w w' w'':World} {G G':Yg} {h h':List Res} {e:Exit} {a:Act} (x:X1 w G h w' G' h') (c:A7 n A w' G' h' e a w'') :
  A7 n A w G h e a w'':=by
 obtain ⟨F,k,G'',h1,h2,h3,h4⟩:=c
 exact ⟨F,k,G'',h1,h2,h3,x.trans h4⟩
theorem A7.mono {n:Nat} {A B:WQ} {w w':World} {G:Yg} {h:List Res} {e:Exit} {a:Act} (hAB:∀e F h,A e F h->B e F h) (c:A7 n A w G h e a w') :
  A7 n B w G h e a w':=by
 obtain ⟨F,k,G'',h1,h2,h3,h4⟩:=c
 exact ⟨F,k,G'',hAB _ _ _ h1,h2,h3,h4⟩
def Yx (P:Program) (n:Nat) (c:Code) (A:WQ) (F:Fr) (h:List Res):Prop:=
 ∀w G a,FR w G n F a->YE w G h->c.wp P (A7 n A w G h) a w
def WP (P:Program) (f:FuncId) (args:List AV) (h:List Res) (R:AV->List Res->Prop):Prop:=
 ∀w G vs,YT w G args vs->YE w G h ->
  Calls P f vs.toArray w fun e w'=>∃v r h' G',e=.returned v/\R r h'/\RV w' G' r v/\YE w' G' h'/\X1 w G h w' G' h'
theorem WP.mono {P:Program} {f:FuncId} {args:List AV} {h:List Res} {R R':AV->List Res->Prop} (H:WP P f args h R) (hR:∀r h',R r h'->R' r h') :
  WP P f args h R':=fun w G vs ha hh=>(H w G vs ha hh).mono fun _ _ ⟨v,r,h',G',h1,h2,h3⟩=>⟨v,r,h',G',h1,hR _ _ h2,h3⟩
def WK (P:Program) (n:Nat) (o:Oper) (F:Fr) (h:List Res) (K:Fr->List Res->Prop):Prop:=
 ∀(Q:Exit->Act->World->Prop) w G a,FR w G n F a->YE w G h ->
  o.wp P a w (fun a' w'=>∃F' h' G',K F' h'/\FR w' G' n F' a'/\YE w' G' h'/\X1 w G h w' G' h') Q
def VP (n:Nat) (o:Oper):Bool:=match o.dst with|some d=>Nat.blt d n|none=>true
theorem TR {n:Nat} {o:Oper} (h:VP n o=true):∀t,o.dst=some t->t<n:=by
 intro t ht
 simp [VP,ht] at h
 exact h
def XT (P:Program) (o:Oper) (F:Fr) (h:List Res) (ks:List Nat) (x:AV):Prop:=
 ∀n w G a,FR w G n F a->YE w G h->∃v,RV w G x v /\
  ∀w',(∀b o,G b o->w'.cell? ⟨b,o,none⟩=w.cell? ⟨b,o,none⟩)->(∀b∈ks,w'.heap[b]? = w.heap[b]?)->(execOp a.eval o).run P w'=.ok (.value v) w'
theorem XT.op {P:Program} {n:Nat} {o:Oper} {F:Fr} {h:List Res} {ks:List Nat} {x:AV} {K:Fr->List Res->Prop} (hs:XT P o F h ks x) (hd:VP n o=true)
  (hK:K (F.put o.dst x) h):WK P n o F h K:=by
 intro Q w G a hF hh
 obtain ⟨v,hv,hr⟩:=hs n w G a hF hh
 unfold Oper.wp
 rw [hr w (fun _ _ _=>rfl) (fun _ _=>rfl)]
 exact ⟨_,h,G,hK,hF.put (TR hd) hv,hh,X1.refl _ _ _⟩
def DW (op:BinOp) (k:IntKind) (a b:Int):Option Value:=
 match op with
 | .add=>some (.int k (k.wrap (a+b)))
 | .sub=>some (.int k (k.wrap (a-b)))
 | .mul=>some (.int k (k.wrap (a*b)))
 | .eql=>some (.bool (a==b))
 | .neq=>some (.bool (a != b))
 | .lss=>some (.bool (decide (a<b)))
 | .leq=>some (.bool (decide (a<=b)))
 | .gtr=>some (.bool (decide (a>b)))
 | .geq=>some (.bool (decide (a>=b)))
 | _=>none
def Ez:IntKind->IntKind->Bool
 | .i8,.i8 | .i16,.i16 | .i32,.i32 | .i64,.i64 | .u8,.u8 | .u16,.u16 | .u32,.u32 | .u64,.u64=>true
 | _,_=>false
theorem Zay {a b:IntKind} (h:Ez a b=true):a=b:=by cases a<;>cases b<;>first|rfl|(simp [Ez] at h)
def C9 (P:Program) (t:TypeId):Option (Array Field):=
 match P.underlying t with
 | some (.struct fs)=>some fs
 | _=>none
def D6 (P:Program) (t:TypeId):Option Bool:=
 match P.underlying t with
 | some (.struct _) | some (.array _ _)=>some true
 | some _=>some false
 | none=>none
def DX (P:Program) (t:TypeId) (f:Nat):Option Nat:=
 match C9 P t with
 | some fs=>match fs[f]? with
  | some fd=>match (P.info? fd.type) with
   | some i=>match Nat.beq i.size 0 with | true=>none | false=>some fd.offset
   | none=>none
  | none=>none
 | none=>none
def Ay (P:Program) (t:TypeId) (ls:List AV):Option AV:=
 match D6 P t,P.info? t with
 | some true,some i=>match Nat.ble i.size ls.length with | true=>some (.agg (ls.take i.size)) | false=>none
 | some false,some _=>ls.head?
 | _,_=>none
def AV.one:AV->Bool
 | .val v=>v.oneCell'
 | .sl _ _=>true
 | .rp _=>true
 | _=>false
def AV.fit:AV->Bool
 | .agg _=>true
 | x=>x.one
def Ao (place:Nat->Option (Nat × Nat)) (ls:List AV):List (Nat × AV)->Option (List AV)
 | []=>some ls
 | (i,x)::rest=>
  match place i with
  | none=>none
  | some (off,size)=>match x.fit&&(Nat.beq x.leaves.length size&&Nat.ble (off+size) ls.length) with
   | true=>Ao place (ls.take off++x.leaves++ls.drop (off+size)) rest
   | false=>none
def DD (P:Program) (t:TypeId):Option (List AV):=
 match P.info? t with
 | some i=>match i.zero with
  | some z=>some (z.cells.toList.map AV.ofVal)
  | none=>none
 | none=>none
def Ep (P:Program) (fs:Array Field) (i:Nat):Option (Nat × Nat):=
 match fs[i]? with
 | some f=>match P.info? f.type with
  | some j=>some (f.offset,j.size)
  | none=>none
 | none=>none
def Ng (P:Program) (fs:Array Field):Bool:=fs.toList.all fun f=>(P.info? f.type).isSome
def KQ:List AV->Option (List Value)
 | []=>some []
 | .val v::r=>match KQ r with | some vs=>some (v::vs) | none=>none
 | _::_=>none
def TS (P:Program) (o:Oper) (F:Fr) (h:List Res) (hint:Nat):Option (AV × List (Nat × Nat)):=
 match o.op with
 | .move x | .assign x=>some (F.ev x,[])
 | .pick c a b=>match F.ev c with
  | .val (.bool true)=>some (F.ev a,[])
  | .val (.bool false)=>some (F.ev b,[])
  | _=>none
 | .binOp op _ x y _=>match F.ev x,F.ev y with
  | .val (.int k a),.val (.int k' b)=>match Ez k k' with
   | true=>match DW op k a b with
    | some v=>some (.val v,[])
    | none=>none
   | false=>none
  | _,_=>none
 | .unOp op _ x=>match op,F.ev x with
  | .not,.val (.bool b)=>some (.val (.bool (!b)),[])
  | _,_=>none
 | .nilCheck x=>match F.ev x with
  | .val (.pointer (some a))=>some (.val (.pointer (some a)),[])
  | .rp ls=>some (.rp ls,[])
  | .val (.func (.func f) p c)=>some (.val (.func (.func f) p c),[])
  | _=>none
 | .fieldAddr s x f=>match DX P s f with
  | some off=>match F.ev x with
   | .rp ls=>some (.rp (ls.drop off),[])
   | .val (.pointer (some ⟨b,o,none⟩))=>some (.val (.pointer (some ⟨b,o+off,none⟩)),[])
   | _=>none
  | none=>none
 | .field s x f=>match DX P s f,C9 P s with
  | some off,some fs=>match fs[f]? with
   | some fd=>match F.ev x with
    | .agg ls=>match Ay P fd.type (ls.drop off) with
     | some v=>some (v,[])
     | none=>none
    | _=>none
   | none=>none
  | _,_=>none
 | .load t x=>match F.ev x with
  | .rp ls=>match Ay P t ls with
   | some v=>some (v,[])
   | none=>none
  | .val (.pointer (some ⟨b,o,none⟩))=>match h[hint]? with
   | some (.obj b' ls)=>match Ay P t (ls.drop o) with
    | some v=>some (v,[(b,b')])
    | none=>none
   | _=>none
  | _=>none
 | .extract x i=>match F.ev x with
  | .tup vs=>match vs[i]? with
   | some v=>some (v,[])
   | none=>none
  | _=>none
 | .build t parts=>match C9 P t,DD P t with
  | some fs,some z=>match Ng P fs with
   | true=>match Ao (Ep P fs) z (parts.toList.map fun p=>(p.1,F.ev p.2)) with
    | some ls=>some (.agg ls,[])
    | none=>none
   | false=>none
  | _,_=>none
 | .makeFunc fn first captured=>match KQ (first.toList.map F.ev),KQ (captured.toList.map F.ev) with
  | some vs,some us=>some (.val (.func fn vs.toArray us.toArray),[])
  | _,_=>none
 | .call c=>match c.callee,c.args.toList,c.argTypes.toList with
  | .builtin .len,[x],[t]=>match P.underlying t with
   | some (.slice _)=>match F.ev x with
    | .sl es _=>some (.val (.int .i64 (es.length:Int)),[])
    | .val (.slice _ len _)=>some (.val (.int .i64 (len:Int)),[])
    | _=>none
   | _=>none
  | _,_,_=>none
 | _=>none
theorem Ui {P:Program} {t:TypeId} {d:TypeDesc} (h:P.underlying t=some d) (w:World):(underlying t).run P w=.ok d w:=by
 simp [underlying,h]
theorem Gs {P:Program} {t:TypeId} {i:TypeInfo} (h:P.info? t=some i) (w:World):(typeInfo t).run P w=.ok i w:=by
 simp [typeInfo,h]
theorem QN {P:Program} {t:TypeId} {i:TypeInfo} (h:P.info? t=some i) (w:World):(sizeOf t).run P w=.ok i.size w:=by
 simp [sizeOf,Gs h]
theorem Iv {P:Program} {t:TypeId} {fs:Array Field} (h:C9 P t=some fs):P.underlying t=some (.struct fs):=by
 unfold C9 at h
 split at h
 ·simp_all
 ·cases h
theorem Ex {P:Program} {t:TypeId} {b:Bool} (h:D6 P t=some b) (w:World):(isAgg t).run P w=.ok b w:=by
 unfold D6 at h
 split at h
 ·rename_i h';cases h;simp [isAgg,Ui h']
 ·rename_i h';cases h;simp [isAgg,Ui h']
 ·rename_i d hd1 hd2 h'
  cases h
  simp [isAgg,Ui h']
 ·cases h
theorem Nf {P:Program} {s:TypeId} {f off:Nat} (h:DX P s f=some off) :
  ∃fs fd i,P.underlying s=some (.struct fs)/\fs[f]? = some fd/\P.info? fd.type=some i/\i.size≠0/\fd.offset=off:=by
 unfold DX at h
 cases h1:C9 P s with
 | none=>simp [h1] at h
 | some fs=>
  cases h2:fs[f]? with
  | none=>simp [h1,h2] at h
  | some fd=>
   cases h3:P.info? fd.type with
   | none=>simp [h1,h2,h3] at h
   | some i=>
    cases h4:Nat.beq i.size 0 with
    | true=>simp [h1,h2,h3,h4] at h
    | false=>
     simp [h1,h2,h3,h4] at h
     refine ⟨fs,fd,i,Iv h1,h2,h3,fun h0=>?_,h⟩
     rw [h0] at h4
     cases h4
theorem KW (b o n:Nat):(⟨b,o,none⟩:Addr).add n=⟨b,o+n,none⟩:=by
 unfold Addr.add;split<;>simp_all
theorem Re {P:Program} {s:TypeId} {f off b o:Nat} (h:DX P s f=some off) (w:World) :
  (Instr.fieldAt s (.pointer (some ⟨b,o,none⟩)) f).run P w=.ok (.pointer (some ⟨b,o+off,none⟩)) w:=by
 obtain ⟨fs,fd,i,h1,h2,h3,h4,rfl⟩:=Nf h
 simp [Instr.fieldAt,Ui h1,h2,Instr.sureAddr,fieldPlace,QN h3,h4,KW]
theorem Gr {P:Program} {t:TypeId} {ls:List AV} {x:AV} {w0:World} {G:Yg} {b o:Nat} {cs:List Value} (hx:Ay P t ls=some x) (hcs:YT w0 G ls cs) :
  ∃v,RV w0 G x v/\∀w',(∀j u,cs[j]? = some u->w'.cell? ⟨b,o+j,none⟩=some u)->(loadVar t ⟨b,o,none⟩).run P w'=.ok v w':=by
 unfold Ay at hx
 cases hb:D6 P t with
 | none=>simp [hb] at hx
 | some g=>
  cases hi:P.info? t with
  | none=>cases g<;>simp [hb,hi] at hx
  | some i=>
   cases g with
   | true=>
    simp only [hb,hi] at hx
    cases hle:Nat.ble i.size ls.length with
    | false=>simp [hle] at hx
    | true=>
     simp only [hle,Wv] at hx
     subst hx
     have hlen:i.size<=ls.length:=V2 hle
     refine ⟨_,.agg (hcs.take i.size),fun w' hc=>?_⟩
     have XL:(cs.take i.size).length=i.size:=by simp [hcs.length,hlen]
     have:=run_loadCells_list (P:=P) (w:=w') ⟨b,o,none⟩ (cs.take i.size) (fun j v hj=>by
      rw [KW]
      rw [Q6] at hj
      split at hj
      ·exact hc j v hj
      ·cases hj)
     rw [XL] at this
     simp [loadVar,Ex hb,QN hi,this]
   | false=>
    simp only [hb,hi] at hx
    cases hcs with
    | nil=>simp at hx
    | cons h1 h2=>
     rename_i c vs xs
     simp at hx
     subst hx
     refine ⟨_,h1,fun w' hc=>?_⟩
     have:=hc 0 c (by simp)
     simp only [BB] at this
     simp only [loadVar,Sem.run_bind,Ex hb,Result.andThen_ok]
     simp [load,Sem.run,this]
theorem VA {P:Program} {x:Sem Value} {w w':World} {v:Value} (h:x.run P w=.ok v w') :
  (do pure (Next.value (<-x)):Sem Next).run P w=.ok (.value v) w':=by
 simp [h]
theorem LS {w:World} {G:Yg} {a:Act} {n:Nat} {F:Fr} (hF:FR w G n F a):∀{xs:List Operand} {vs:List Value},KQ (xs.map F.ev)=some vs->xs.map a.eval=vs
 | [],vs,h=>by simp [KQ] at h;simp [h]
 | x::xs,vs,h=>by
  simp only [T6] at h ⊢
  have hx:=hF.ev x
  cases he:F.ev x with
  | val v=>
   simp only [he,KQ] at h
   cases h2:KQ (xs.map F.ev) with
   | none=>simp [h2] at h
   | some us=>
    simp [h2] at h
    rw [he] at hx
    cases hx
    rw [LS hF h2,h]
  | any=>simp [he,KQ] at h
  | sl es hv=>simp [he,KQ] at h
  | agg ls=>simp [he,KQ] at h
  | rp ls=>simp [he,KQ] at h
  | tup vs=>simp [he,KQ] at h
theorem Z2y {P:Program} {op:BinOp} {k:IntKind} {a b:Int} {v:Value} (h:DW op k a b=some v) (xt:TypeId) (x y:Operand) (w:World) :
  (do eqGuard op xt x y (.int k a) (.int k b);binOp op xt (.int k a) (.int k b)).run P w=.ok v w:=by
 cases op<;>simp [DW] at h<;>subst h<;>simp [eqGuard,binOp,Op.intArith,Op.intCmp]
theorem RV.val_inv {w:World} {G:Yg} {v u:Value} (h:RV w G (.val v) u):u=v:=by cases h;rfl
theorem RV.one_cell {w:World} {G:Yg} {x:AV} {v:Value} (h:RV w G x v) (hx:x.one=true):v.oneCell'=true:=by
 cases h with
 | val=>exact hx
 | nil=>rfl
 | sl=>rfl
 | rp=>rfl
 | any=>simp [AV.one] at hx
 | agg=>simp [AV.one] at hx
 | tup=>simp [AV.one] at hx
theorem Hr {v:Value} (h:v.oneCell'=true):v.cells.toList=[v]:=by
 cases v<;>first|rfl|(simp [Value.oneCell'] at h)
theorem RV.cells {w:World} {G:Yg} {x:AV} {v:Value} (h:RV w G x v) (hx:x.fit=true):YT w G x.leaves v.cells.toList:=by
 cases x with
 | agg ls=>cases h with | agg hh=>simpa [AV.leaves,Value.cells] using hh
 | any=>simp [AV.fit,AV.one] at hx
 | tup vs=>simp [AV.fit,AV.one] at hx
 | val u=>rw [Hr (h.one_cell hx)];exact .cons h .nil
 | sl es hv=>rw [Hr (h.one_cell rfl)];exact .cons h .nil
 | rp ls=>rw [Hr (h.one_cell rfl)];exact .cons h .nil
theorem YT.one_cells {w:World} {G:Yg}:∀{xs:List AV} {vs:List Value},YT w G xs vs->xs.all AV.one=true->∀v∈vs,v.oneCell'=true
 | _,_,.nil,_,v,hv=>by simp at hv
 | _,_,.cons h t,hx,v,hv=>by
  simp only [List.all_cons,Xo] at hx
  rcases YM.1 hv with rfl|hv
  ·exact h.one_cell hx.1
  ·exact t.one_cells hx.2 v hv
theorem Rn (off:Nat):∀(vs:List Value) (i:Nat) (cs:Array Value),off+i+vs.length<=cs.size ->
  ((vs.zipIdx i).foldl (fun (cs:Array Value) (p:Value × Nat)=>cs.setIfInBounds (off+p.2) p.1) cs).toList=cs.toList.take (off+i)++vs++cs.toList.drop (off+i+vs.length)
 | [],i,cs,h=>by simp
 | v::vs,i,cs,h=>by
  simp only [List.zipIdx_cons,List.foldl_cons]
  rw [Rn off vs (i+1) _ (by simp at h ⊢;omega)]
  have e:=list_seg_step cs.toList (off+i) v vs (by simp at h ⊢;omega)
  simpa [Array.toList_setIfInBounds,A4] using e
theorem HZ {w:World} {G:Yg} {place:Nat->Option (Nat × Nat)}:∀{parts:List (Nat × AV)} {vps:List (Nat × Value)} {ls out:List AV} {cs:Array Value},
  Ao place ls parts=some out->parts.map (·.1)=vps.map (·.1)->YT w G (parts.map (·.2)) (vps.map (·.2))->YT w G ls cs.toList ->
  ∃cs',Instr.fill place cs vps=some cs'/\YT w G out cs'.toList
 | [],vps,ls,out,cs,h,h1,h2,h3=>by
  cases vps with
  | nil=>simp [Ao] at h;subst h;exact ⟨cs,rfl,h3⟩
  | cons p r=>simp at h1
 | (i,x)::rest,vps,ls,out,cs,h,h1,h2,h3=>by
  cases vps with
  | nil=>simp at h1
  | cons p r=>
   obtain ⟨j,v⟩:=p
   simp only [T6,List.cons.injEq] at h1 h2
   obtain ⟨rfl,h1⟩:=h1
   cases h2 with
   | cons hx ht=>
    simp only [Ao] at h
    cases hp:place i with
    | none=>simp [hp] at h
    | some os=>
     obtain ⟨off,size⟩:=os
     simp only [hp] at h
     cases hc:(x.fit&&(Nat.beq x.leaves.length size&&Nat.ble (off+size) ls.length)) with
     | false=>simp [hc] at h
     | true=>
      simp only [hc] at h
      simp only [Xo] at hc
      have e1:x.leaves.length=size:=T7 hc.2.1
      have e2:off+size<=ls.length:=V2 hc.2.2
      have hl:=h3.length
      have hxc:=hx.cells hc.1
      have hvl:v.cells.size=size:=by have:=hxc.length;simpa [e1] using this
      have hcl:cs.size=ls.length:=by simpa using hl
      have key:YT w G (ls.take off++x.leaves++ls.drop (off+size))
        (v.cells.zipIdx.foldl (fun (cs:Array Value) (p:Value × Nat)=>cs.setIfInBounds (off+p.2) p.1) cs).toList:=by
       have:=Rn off v.cells.toList 0 cs (by simp [hvl,hcl];omega)
       rw [<-Array.foldl_toList,Array.toList_zipIdx,this]
       simp only [BB,Jp,hvl]
       exact ((h3.take off).append hxc).append (h3.drop (off+size))
      obtain ⟨cs',k1,k2⟩:=HZ h h1 ht key
      refine ⟨cs',?_,k2⟩
      simp only [Instr.fill,hp]
      rw [Za (by simp [hvl,hcl];omega)]
      exact k1
theorem Sv {P:Program} {t:TypeId} {ls:List AV} (h:DD P t=some ls) :
  ∃i z,P.info? t=some i/\i.zero=some z/\ls=z.cells.toList.map AV.ofVal:=by
 unfold DD at h
 cases hi:P.info? t with
 | none=>simp [hi] at h
 | some i=>
  cases hz:i.zero with
  | none=>simp [hi,hz] at h
  | some z=>simp [hi,hz] at h;exact ⟨i,z,rfl,hz,h.symm⟩
theorem YT.ofVals {w:World} {G:Yg}:∀(vs:List Value),YT w G (vs.map AV.ofVal) vs
 | []=>.nil
 | v::vs=>.cons (RV.ofVal v) (YT.ofVals vs)
theorem YT.map {w:World} {G:Yg} {α:Type} (f:α->AV) (g:α->Value):∀(xs:List α),(∀x∈xs,RV w G (f x) (g x))->YT w G (xs.map f) (xs.map g)
 | [],_=>.nil
 | x::xs,h=>.cons (h x (by simp)) (YT.map f g xs fun y hy=>h y (by simp [hy]))
theorem Rh {P:Program} (w:World):∀(l:List Field),(l.all fun f=>(P.info? f.type).isSome)=true ->
  (List.mapM (m:=Sem) (fun f=>Functor.map (Prod.mk f.offset) (sizeOf f.type)) l).run P w=.ok (l.map fun f=>(f.offset,((P.info? f.type).map (·.size)).getD 0)) w
 | [],_=>by simp
 | f::l,h=>by
  simp only [List.all_cons,Xo] at h
  cases hfi:P.info? f.type with
  | none=>simp [hfi] at h
  | some j=>simp [QN hfi,Rh w l h.2,hfi]
theorem Zat {P:Program} {t:TypeId} {fs:Array Field} {z ls:List AV} {w:World} {G:Yg} {n:Nat} {F:Fr} {a:Act} (hF:FR w G n F a) (parts:Array (Nat × Operand))
  (h1:C9 P t=some fs) (h2:DD P t=some z) (h4:Ng P fs=true) (h3:Ao (Ep P fs) z (parts.toList.map fun p=>(p.1,F.ev p.2))=some ls) :
  ∃v,RV w G (.agg ls) v/\∀w',(Instr.build t (parts.map fun (i,x)=>(i,a.eval x))).run P w'=.ok v w':=by
 obtain ⟨i,zv,hi,hz,rfl⟩:=Sv h2
 have hu:=Iv h1
 have hpl:∀k,((fs.toList.map fun f=>(f.offset,((P.info? f.type).map (·.size)).getD 0)).toArray)[k]? = Ep P fs k:=by
  intro k
  unfold Ep
  simp only [List.getElem?_toArray,Kj,GV]
  cases hk:fs[k]? with
  | none=>rfl
  | some f=>
   have hf:(P.info? f.type).isSome=true:=by
    have:=JZ.1 h4 f (by rw [Array.mem_toList_iff];exact Array.mem_of_getElem? hk)
    exact this
   cases hfi:P.info? f.type with
   | none=>simp [hfi] at hf
   | some j=>simp [hfi]
 obtain ⟨cs',k1,k2⟩:=HZ (w:=w) (G:=G) (vps:=parts.toList.map fun p=>(p.1,a.eval p.2)) h3 (by simp [List.map_map,Function.comp_def])
  (by simpa [List.map_map,Function.comp_def] using YT.map (fun p:Nat × Operand=>F.ev p.2) (fun p=>a.eval p.2) parts.toList fun p _=>hF.ev p.2)
  (cs:=zv.cells) (YT.ofVals _)
 refine ⟨_,.agg (cs:=cs'.toList) k2,fun w'=>?_⟩
 have hz':(zeroValue t).run P w'=.ok zv w':=by simp [zeroValue,Gs hi,hz]
 have hm:=Rh (P:=P) w' fs.toList h4
 have hfun:(fun k=>((fs.toList.map fun f=>(f.offset,((P.info? f.type).map (·.size)).getD 0)).toArray)[k]?)=Ep P fs:=funext hpl
 simp only [Instr.build,Sem.run_bind,hz',Result.andThen_ok,Ui hu,Array.mapM_eq_mapM_toList]
 simp [hm,hpl,k1,Array.toList_map]
theorem CT {P:Program} {o:Oper} {F:Fr} {h:List Res} {hint:Nat} {x:AV} {eqs:List (Nat × Nat)} (he:TS P o F h hint=some (x,eqs))
  (heq:∀p∈eqs,p.1=p.2):XT P o F h (eqs.map (·.1)) x:=by
 intro n w G a hF hh
 obtain ⟨dst,op,type,pos,after,guard⟩:=o
 cases op<;>simp only [TS] at he
 case move y=>
  cases he
  exact ⟨_,hF.ev y,fun w' _ _=>by simp [execOp]⟩
 case assign y=>
  cases he
  exact ⟨_,hF.ev y,fun w' _ _=>by simp [execOp]⟩
 case pick c y z=>
  have hc:=hF.ev c
  split at he
  ·rename_i hb
   cases he
   rw [hb] at hc
   have hc:=hc.val_inv
   exact ⟨_,hF.ev y,fun w' _ _=>by simp [execOp,hc,asBool]⟩
  ·rename_i hb
   cases he
   rw [hb] at hc
   have hc:=hc.val_inv
   exact ⟨_,hF.ev z,fun w' _ _=>by simp [execOp,hc,asBool]⟩
  ·cases he
 case binOp bop xt y z yt=>
  have hy:=hF.ev y
  have hz:=hF.ev z
  split at he
  ·rename_i k p k' q h1 h2
   rw [h1] at hy
   rw [h2] at hz
   have hy:=hy.val_inv
   have hz:=hz.val_inv
   split at he
   ·rename_i hk
    have hk:=Zay hk
    subst hk
    split at he
    ·rename_i v hv
     cases he
     refine ⟨v,.val,fun w' _ _=>?_⟩
     have:=Z2y (P:=P) hv xt y z w'
     simp only [execOp,hy,hz]
     exact VA this
    ·cases he
   ·cases he
  ·cases he
 case unOp uop xt y=>
  have hy:=hF.ev y
  split at he
  ·rename_i b hb
   cases he
   rw [hb] at hy
   have hy:=hy.val_inv
   exact ⟨_,.val,fun w' _ _=>by simp [execOp,hy,Op.unary]⟩
  ·cases he
 case nilCheck y=>
  have hy:=hF.ev y
  generalize hv:a.eval y=u at hy
  split at he
  ·rename_i ad hb
   cases he
   rw [hb] at hy
   have hy:=hy.val_inv
   exact ⟨_,.val,fun w' _ _=>by simp [execOp,hv,hy]⟩
  ·rename_i ls hb
   cases he
   rw [hb] at hy
   cases hy with
   | rp hm=>exact ⟨_,.rp hm,fun w' _ _=>by simp [execOp,hv]⟩
  ·rename_i f p c hb
   cases he
   rw [hb] at hy
   have hy:=hy.val_inv
   exact ⟨_,.val,fun w' _ _=>by simp [execOp,hv,hy]⟩
  ·cases he
 case fieldAddr s y f=>
  have hy:=hF.ev y
  generalize hv:a.eval y=u at hy
  split at he
  ·rename_i off hoff
   split at he
   ·rename_i ls hb
    cases he
    rw [hb] at hy
    cases hy with
    | rp hm=>
     refine ⟨_,.rp (hm.drop off),fun w' _ _=>?_⟩
     simp only [execOp,hv]
     exact VA (Re hoff w')
   ·rename_i b o' hb
    cases he
    rw [hb] at hy
    have hy:=hy.val_inv
    subst hy
    refine ⟨_,.val,fun w' _ _=>?_⟩
    simp only [execOp,hv]
    exact VA (Re hoff w')
   ·cases he
  ·cases he
 case field s y f=>
  have hy:=hF.ev y
  generalize hv:a.eval y=u at hy
  split at he
  ·rename_i off fs hoff hfs
   split at he
   ·rename_i fd hfd
    split at he
    ·rename_i ls hb
     split at he
     ·rename_i v hl
      cases he
      rw [hb] at hy
      cases hy with
      | agg hc=>
       rename_i cs
       obtain ⟨fs',fd',i,k1,k2,k3,k4,rfl⟩:=Nf hoff
       have k0:=Iv hfs
       rw [k0] at k1
       cases k1
       rw [hfd] at k2
       cases k2
       have hd:=hc.drop fd.offset
       unfold Ay at hl
       cases hg:D6 P fd.type with
       | none=>simp [hg] at hl
       | some g=>
        cases g with
        | true=>
         simp only [hg,k3] at hl
         cases hle:Nat.ble i.size (ls.drop fd.offset).length with
         | false=>rw [hle] at hl;cases hl
         | true=>
          rw [hle] at hl
          simp only [Wv] at hl
          subst hl
          refine ⟨_,.agg (hd.take i.size),fun w' _ _=>?_⟩
          simp only [execOp,hv]
          refine VA ?_
          simp only [Instr.field,Sem.run_bind,Ui k0,Result.andThen_ok,hfd]
          simp [asAgg,part,Ex hg,QN k3]
        | false=>
         simp only [hg,k3] at hl
         generalize hls:ls.drop fd.offset=ls' at hl hd
         generalize hcs:cs.drop fd.offset=cs' at hd
         cases hd with
         | nil=>simp at hl
         | cons h1 h2=>
          rename_i c vs xs
          simp at hl
          subst hl
          refine ⟨_,h1,fun w' _ _=>?_⟩
          simp only [execOp,hv]
          refine VA ?_
          have hget:cs[fd.offset]? = some c:=by
           have:=Yp (fun l=>l[0]?) hcs
           simpa using this
          simp only [Instr.field,Sem.run_bind,Ui k0,Result.andThen_ok,hfd]
          simp [asAgg,part,Ex hg,hget]
     ·cases he
    ·cases he
   ·cases he
  ·cases he
 case load t y=>
  have hy:=hF.ev y
  generalize hv:a.eval y=u at hy
  split at he
  ·rename_i ls hb
   split at he
   ·rename_i v hl
    cases he
    rw [hb] at hy
    cases hy with
    | rp hm=>
     rename_i b o'
     obtain ⟨cs,Z9,Zi⟩:=hm.cells
     obtain ⟨v',h1,h2⟩:=Gr (b:=b) (o:=o') hl Z9
     refine ⟨v',h1,fun w' hw _=>?_⟩
     simp only [execOp,hv]
     refine VA ?_
     simp only [Instr.loadAt,Instr.sureAddr,Sem.run_bind,Sem.run_pure,Result.andThen_ok]
     exact h2 w' fun j u hj=>(hw _ _ (Zi j u hj).2).trans (Zi j u hj).1
   ·cases he
  ·rename_i b o' hb
   split at he
   ·rename_i b' ls hh'
    split at he
    ·rename_i v hl
     cases he
     rw [hb] at hy
     have hy:=hy.val_inv
     subst hy
     have hbb:b=b':=heq (b,b') (by simp)
     subst hbb
     obtain ⟨cs,e,k1,k2⟩:=hh.ok _ (Y2 hh')
     obtain ⟨v',h1,h2⟩:=Gr (b:=b) (o:=o') hl (k2.drop o')
     refine ⟨v',h1,fun w' _ hw=>?_⟩
     simp only [execOp,hv]
     refine VA ?_
     simp only [Instr.loadAt,Instr.sureAddr,Sem.run_bind,Sem.run_pure,Result.andThen_ok]
     refine h2 w' fun j u hj=>?_
     have:=hw b (by simp)
     rw [k1] at this
     rw [cell_of_row w' b (o'+j) cs e (0,0) this]
     simpa using hj
    ·cases he
   ·cases he
  ·cases he
 case extract y i=>
  have hy:=hF.ev y
  generalize hv:a.eval y=u at hy
  split at he
  ·rename_i vs hb
   split at he
   ·rename_i v hl
    cases he
    rw [hb] at hy
    cases hy with
    | tup hc=>
     rename_i cs
     obtain ⟨c,h1,h2⟩:=hc.get i _ hl
     exact ⟨c,h2,fun w' _ _=>by simp [execOp,hv,Instr.extract,h1]⟩
   ·cases he
  ·cases he
 case build t parts=>
  split at he
  ·rename_i fs z h1 h2
   split at he
   ·rename_i h4
    split at he
    ·rename_i ls h3
     cases he
     obtain ⟨v,hv1,hv2⟩:=Zat hF parts h1 h2 h4 h3
     exact ⟨v,hv1,fun w' _ _=>by simp only [execOp];exact VA (hv2 w')⟩
    ·cases he
   ·cases he
  ·cases he
 case makeFunc fn first captured=>
  split at he
  ·rename_i vs us h1 h2
   cases he
   have e1:=LS hF h1
   have e2:=LS hF h2
   refine ⟨_,.val,fun w' _ _=>?_⟩
   have e1':first.map a.eval=vs.toArray:=by rw [<-e1,<-Array.toList_map,Ti]
   have e2':captured.map a.eval=us.toArray:=by rw [<-e2,<-Array.toList_map,Ti]
   simp only [execOp]
   exact VA (by simp only [Instr.makeFunc,e1',e2'];simp)
  ·cases he
 case call c=>
  obtain ⟨callee,args,argTypes⟩:=c
  simp only at he
  split at he
  ·rename_i y t hargs htys
   split at he
   ·rename_i el hu
    have hy:=hF.ev y
    generalize hv:a.eval y=u at hy
    have ha:args=#[y]:=by rw [<-Ti (xs:=args),hargs]
    have ht:argTypes=#[t]:=by rw [<-Ti (xs:=argTypes),htys]
    subst ha;subst ht
    split at he
    ·rename_i es hv' hb
     cases he
     rw [hb] at hy
     refine ⟨.int .i64 es.length,.val,fun w' _ _=>?_⟩
     cases hy with
     | nil hx=>simp [execOp,resolve,invoke,builtin,hv,Builtin.len_,Ui hu,goInt]
     | sl hx hc hm=>simp [execOp,resolve,invoke,builtin,hv,Builtin.len_,Ui hu,goInt]
    ·rename_i ad len cap hb
     cases he
     rw [hb] at hy
     have hy:=hy.val_inv
     subst hy
     exact ⟨.int .i64 len,.val,fun w' _ _=>by simp [execOp,resolve,invoke,builtin,hv,Builtin.len_,Ui hu,goInt]⟩
    ·cases he
   ·cases he
  ·cases he
 all_goals (cases he)
def AQ (h:List Res) (b:Nat):Prop:=∀s,Res.ge s∈h->s<=b
theorem Ig {w:World} {G:Yg} {h:List Res} (hh:YE w G h):AQ h w.heap.size:=fun _ hs=>hh.ok _ hs
theorem FC (w:World) (o:Obj):(w.alloc o).heap[w.heap.size]? = some o:=heap_alloc_new w o
theorem B9 (w:World) (o:Obj) {b:Nat} (hb:b<w.heap.size):(w.alloc o).heap[b]? = w.heap[b]?:=heap_alloc_old w o b hb
theorem DP (w:World) (o:Obj) {b j:Nat} (hb:b<w.heap.size):(w.alloc o).cell? ⟨b,j,none⟩=w.cell? ⟨b,j,none⟩:=by
 simp [World.cell?,B9 w o hb]
theorem YE.alloc {w:World} {G:Yg} {h:List Res} (hh:YE w G h) (o:Obj) {G':Yg} {h':List Res}
  (hsub:∀b o,G b o->G' b o) (hG:∀b o,G' b o->G b o∨b=w.heap.size) (hnew:∀r∈h',Qq (w.alloc o) G' r)
  (hfp:∀r∈h',∀b o,r.fp b o->b=w.heap.size) (hap:h'.Pairwise AP) (hpr:∀r∈h',∀b o,r.fp b o->G' b o->False) :
  YE (w.alloc o) G' (h'++h)/\X1 w G h (w.alloc o) G' (h'++h):=by
 have hA:VK G w (w.alloc o) G':=⟨fun b j hg=>DP w o (hh.lt b j hg),hsub⟩
 have XL:(w.alloc o).heap.size=w.heap.size+1:=by simp
 refine ⟨⟨?_,?_,?_,?_⟩,⟨rfl,rfl,rfl,by omega,hsub,fun b hb=>.inl (B9 w o hb),?_,?_⟩⟩
 ·intro r hr
  rcases Xj.1 hr with hr|hr
  ·exact hnew r hr
  ·have h0:=hh.ok r hr
   cases r with
   | obj b ls=>
    obtain ⟨cs,el,h1,h2⟩:=h0
    exact ⟨cs,el,(B9 w o (UB.1 h1).1).trans h1,h2.mono hA⟩
   | tail v k=>
    rcases h0 with rfl|⟨g,len,cap,cur,el,rfl,h1,h2,h3⟩
    ·exact .inl rfl
    ·exact .inr ⟨g,len,cap,cur,el,rfl,(B9 w o (UB.1 h1).1).trans h1,h2,h3⟩
   | ge s=>exact V3 h0 om
   | vec v ls=>
    rcases h0 with ⟨rfl,h0⟩|⟨g,cap,cur,el,rfl,h1,h2,h3,h4⟩
    ·exact .inl ⟨rfl,h0⟩
    ·exact .inr ⟨g,cap,cur,el,rfl,(B9 w o (UB.1 h1).1).trans h1,h2,h3,h4.mono hA⟩
   | many ts=>
    refine ⟨fun p hp=>?_,h0.2⟩
    rcases h0.1 p hp with q|⟨g,len,cap,cur,el,q,h1,h2,h3⟩
    ·exact .inl q
    ·exact .inr ⟨g,len,cap,cur,el,q,(B9 w o (UB.1 h1).1).trans h1,h2,h3⟩
   | own B m=>
    intro b hB
    obtain ⟨cs,el,h1,h2⟩:=h0 b hB
    exact ⟨cs,el,(B9 w o (UB.1 h1).1).trans h1,h2⟩
   | row v k ls=>
    rcases h0 with ⟨rfl,h0⟩|⟨g,len,cap,cur,el,rfl,h1,h2,h3,h4,h5⟩
    ·exact .inl ⟨rfl,h0⟩
    ·exact .inr ⟨g,len,cap,cur,el,rfl,(B9 w o (UB.1 h1).1).trans h1,h2,h3,h4,h5.mono hA⟩
 ·refine AM.2 ⟨hap,hh.apart,fun r hr r' hr' b j hf hf'=>?_⟩
  have e:=hfp r hr b j hf
  have:=(hh.ok r' hr').lt b j hf'
  omega
 ·intro r hr b j hf hg
  rcases Xj.1 hr with hr|hr
  ·exact hpr r hr b j hf hg
  ·rcases hG b j hg with h1|h1
   ·exact hh.prot r hr b j hf h1
   ·have:=(hh.ok r hr).lt b j hf
    omega
 ·intro b j hg
  rcases hG b j hg with h1|h1
  ·have:=hh.lt b j h1;omega
  ·omega
 ·intro b j hb hg
  rcases hG b j hg with h1|h1
  ·exact .inl h1
  ·omega
 ·intro b j hb hf
  rcases B6.1 hf with ⟨r,hr,h1⟩|h1
  ·have:=hfp r hr b j h1;omega
  ·exact h1
theorem YE.alloc_obj {w:World} {G:Yg} {h:List Res} (hh:YE w G h) (cs:Array Value) (t:TypeId) {ls:List AV} (hls:YT w G ls cs.toList) :
  YE (w.alloc (.cells cs t)) G (.obj w.heap.size ls::h)/\X1 w G h (w.alloc (.cells cs t)) G (.obj w.heap.size ls::h):=by
 have hA:VK G w (w.alloc (.cells cs t)) G:=⟨fun b j hg=>DP w _ (hh.lt b j hg),fun _ _ h=>h⟩
 refine hh.alloc (.cells cs t) (h':=[.obj w.heap.size ls]) (fun _ _ h=>h) (fun _ _ h=>.inl h) ?_ ?_ (DF _ _) ?_
 ·intro r hr
  rw [Xv.1 hr]
  exact ⟨cs,t,FC w _,hls.mono hA⟩
 ·intro r hr b j hf
  rw [Xv.1 hr] at hf
  exact hf
 ·intro r hr b j hf hg
  rw [Xv.1 hr] at hf
  have:=hh.lt b j hg
  have:b=w.heap.size:=hf
  omega
section
variable {P:Program} {n:Nat} {o:Oper} {F:Fr} {h:List Res} {K:Fr->List Res->Prop}
theorem Z90 (t:TypeId) {ls:List AV} (ho:o.op=.alloc t) (hz:DD P t=some ls) (hd:VP n o=true)
  (hK:∀b,AQ h b->K (F.put o.dst (.val (.pointer (some ⟨b,0,none⟩)))) (.obj b ls::h)):WK P n o F h K:=by
 intro Q w G a hF hh
 obtain ⟨i,z,hi,hzz,rfl⟩:=Sv hz
 have hr:(execOp a.eval o).run P w=.ok (.value (.pointer (some ⟨w.heap.size,0,none⟩))) (w.alloc (.cells z.cells t)):=by
  simp only [execOp,ho]
  simp [Instr.alloc,zeroValue,Gs hi,hzz,newVar,newRow]
 unfold Oper.wp
 rw [hr]
 have hls:YT w G (z.cells.toList.map AV.ofVal) z.cells.toList:=YT.ofVals _
 obtain ⟨h1,h2⟩:=hh.alloc_obj z.cells t hls
 exact ⟨_,_,G,hK _ (Ig hh),(hF.mono (h2.agree hh)).put (TR hd) .val,h1,h2⟩
theorem Z92 (t:TypeId) (x:Operand) {X:AV} (ho:o.op=.box t x) (hx:F.ev x=X) (hfit:X.fit=true) (hd:VP n o=true)
  (hK:∀b,AQ h b->K (F.put o.dst (.val (.pointer (some ⟨b,0,none⟩)))) (.obj b X.leaves::h)):WK P n o F h K:=by
 intro Q w G a hF hh
 have hv:=hF.ev x
 rw [hx] at hv
 have hr:(execOp a.eval o).run P w=.ok (.value (.pointer (some ⟨w.heap.size,0,none⟩))) (w.alloc (.cells (a.eval x).cells t)):=by
  simp only [execOp,ho]
  simp [Instr.box,newVar,newRow]
 unfold Oper.wp
 rw [hr]
 obtain ⟨h1,h2⟩:=hh.alloc_obj (a.eval x).cells t (hv.cells hfit)
 exact ⟨_,_,G,hK _ (Ig hh),(hF.mono (h2.agree hh)).put (TR hd) .val,h1,h2⟩
end
theorem VB (w:World) (g b:Nat) (cs:Array Value) (hb:b≠g):(w.setRow g cs).heap[b]? = w.heap[b]?:=setRow_other w g b cs hb
theorem YE.write {w:World} {G:Yg} {h1 h2:List Res} {b:Nat} {ls ls':List AV} (hh:YE w G (h1++.obj b ls::h2)) {cs cs':Array Value} {e:TypeId}
  (hb:w.heap[b]? = some (.cells cs e (0,0))) (XL:cs'.size=cs.size) (hls:YT w G ls' cs'.toList) :
  YE (w.setRow b cs') G (h1++.obj b ls'::h2)/\X1 w G (h1++.obj b ls::h2) (w.setRow b cs') G (h1++.obj b ls'::h2):=by
 have hmem:Res.obj b ls∈h1++.obj b ls::h2:=by simp
 have hA:VK G w (w.setRow b cs') G:=⟨fun c j hg=>by
  have hne:c≠b:=fun he=>hh.prot _ hmem c j he hg
  simp [World.cell?,VB w b c cs' hne],fun _ _ h=>h⟩
 have hfpe:∀c j,Vh (h1++.obj b ls'::h2) c j↔Vh (h1++.obj b ls::h2) c j:=by
  intro c j
  simp only [Vh,Xj,YM]
  constructor
  ·rintro ⟨r,hr|rfl|hr,hf⟩
   ·exact ⟨r,.inl hr,hf⟩
   ·exact ⟨_,.inr (.inl rfl),hf⟩
   ·exact ⟨r,.inr (.inr hr),hf⟩
  ·rintro ⟨r,hr|rfl|hr,hf⟩
   ·exact ⟨r,.inl hr,hf⟩
   ·exact ⟨_,.inr (.inl rfl),hf⟩
   ·exact ⟨r,.inr (.inr hr),hf⟩
 have hpw:=AM.1 hh.apart
 have hpw2:=V1.1 hpw.2.1
 have hother:∀r,(r∈h1∨r∈h2)->∀c j,r.fp c j->c≠b:=by
  intro r hr c j hf hc
  subst hc
  rcases hr with hr|hr
  ·exact hpw.2.2 r hr (.obj c ls) (by simp) c j hf rfl
  ·exact hpw2.1 r hr c j rfl hf
 have hkeep:∀r,(r∈h1∨r∈h2)->Qq w G r->Qq (w.setRow b cs') G r:=by
  intro r hr h0
  cases r with
  | obj c ks=>
   obtain ⟨ds,el,k1,k2⟩:=h0
   have hne:c≠b:=hother _ hr c 0 rfl
   exact ⟨ds,el,(VB w b c cs' hne).trans k1,k2.mono hA⟩
  | tail v k=>
   rcases h0 with rfl|⟨g,len,cap,cur,el,rfl,k1,k2,k3⟩
   ·exact .inl rfl
   ·have hne:g≠b:=hother _ hr g (len*k) ⟨rfl,X7 _⟩
    exact .inr ⟨g,len,cap,cur,el,rfl,(VB w b g cs' hne).trans k1,k2,k3⟩
  | ge s=>exact V3 h0 (by simp [World.setRow])
  | vec v ks=>
   rcases h0 with ⟨rfl,h0⟩|⟨g,cap,cur,el,rfl,k1,k2,k3,k4⟩
   ·exact .inl ⟨rfl,h0⟩
   ·have hne:g≠b:=hother _ hr g 0 rfl
    exact .inr ⟨g,cap,cur,el,rfl,(VB w b g cs' hne).trans k1,k2,k3,k4.mono hA⟩
  | many ts=>
   refine ⟨fun p hp=>?_,h0.2⟩
   rcases h0.1 p hp with q|⟨g,len,cap,cur,el,q,k1,k2,k3⟩
   ·exact .inl q
   ·have hne:g≠b:=hother _ hr g (len*p.2) ⟨p,hp,by rw [q];exact ⟨rfl,X7 _⟩⟩
    exact .inr ⟨g,len,cap,cur,el,q,(VB w b g cs' hne).trans k1,k2,k3⟩
  | own B m=>
   intro c hc
   obtain ⟨ds,el,k1,k2⟩:=h0 c hc
   have hne:c≠b:=hother _ hr c 0 hc
   exact ⟨ds,el,(VB w b c cs' hne).trans k1,k2⟩
  | row v k ks=>
   rcases h0 with ⟨rfl,h0⟩|⟨g,len,cap,cur,el,rfl,k1,k2,k3,k4,k5⟩
   ·exact .inl ⟨rfl,h0⟩
   ·have hne:g≠b:=hother _ hr g 0 rfl
    exact .inr ⟨g,len,cap,cur,el,rfl,(VB w b g cs' hne).trans k1,k2,k3,k4,k5.mono hA⟩
 refine ⟨⟨?_,?_,?_,?_⟩,⟨rfl,rfl,rfl,by simp [World.setRow],fun _ _ h=>h,?_,fun _ _ _ h=>.inl h,fun c j _ hf=>(hfpe c j).1 hf⟩⟩
 ·intro r hr
  rcases Xj.1 hr with hr|hr
  ·exact hkeep r (.inl hr) (hh.ok r (by simp [hr]))
  ·rcases YM.1 hr with rfl|hr
   ·exact ⟨cs',e,setRow_heap w b cs cs' e (0,0) hb,hls.mono hA⟩
   ·exact hkeep r (.inr hr) (hh.ok r (by simp [hr]))
 ·refine AM.2 ⟨hpw.1,V1.2 ⟨hpw2.1,hpw2.2⟩,fun r hr r' hr'=>?_⟩
  rcases YM.1 hr' with rfl|hr'
  ·exact hpw.2.2 r hr (.obj b ls) (by simp)
  ·exact hpw.2.2 r hr r' (by simp [hr'])
 ·intro r hr c j hf hg
  rcases Xj.1 hr with hr|hr
  ·exact hh.prot r (by simp [hr]) c j hf hg
  ·rcases YM.1 hr with rfl|hr
   ·exact hh.prot _ hmem c j hf hg
   ·exact hh.prot r (by simp [hr]) c j hf hg
 ·intro c j hg
  have:=hh.lt c j hg
  simpa [World.setRow] using this
 ·intro c hc
  by_cases hcb:c=b
  ·subst hcb
   exact .inr ⟨cs,cs',e,(0,0),hb,setRow_heap w c cs cs' e (0,0) hb,XL,fun j hj=>absurd ⟨_,hmem,rfl⟩ hj⟩
  ·exact .inl (VB w b c cs' hcb)
section
variable {P:Program} {n:Nat} {o:Oper} {F:Fr} {h1 h2:List Res} {K:Fr->List Res->Prop}
theorem Z99 (t:TypeId) (x y:Operand) {b off:Nat} {ls:List AV} {X:AV} (ho:o.op=.store t x y) (hdst:o.dst=none)
  (hx:F.ev x=.val (.pointer (some ⟨b,off,none⟩))) (hy:F.ev y=X) (hX:(X.fit&&X.leaves.all AV.one)=true)
  (XL:(P.info? t).map (·.size)=some X.leaves.length) (hle:Nat.ble (off+X.leaves.length) ls.length=true)
  (hK:K F (h1++.obj b (ls.take off++X.leaves++ls.drop (off+X.leaves.length))::h2)):WK P n o F (h1++.obj b ls::h2) K:=by
 intro Q w G a hF hh
 have hvx:=hF.ev x
 rw [hx] at hvx
 have hvx:=hvx.val_inv
 have hvy:=hF.ev y
 rw [hy] at hvy
 simp only [Xo] at hX
 have hcs:=hvy.cells hX.1
 have hone:=hcs.one_cells hX.2
 have hlen:=hcs.length
 obtain ⟨cs,e,k1,k2⟩:=hh.ok (.obj b ls) (by simp)
 have hle:=V2 hle
 have hcl:=k2.length
 simp only [Jp] at hlen hcl
 cases hi:P.info? t with
 | none=>simp [hi] at XL
 | some i=>
  have XL:i.size=X.leaves.length:=by simpa [hi] using XL
  have hst:=run_storeCells_at P b off e (a.eval y).cells.toList 0 cs w k1 (by simp [hlen,hcl];omega) hone
  simp only [BB,Jp] at hst
  have hr:(execOp a.eval o).run P w=.ok .skip (w.setRow b (cs.toList.take off++(a.eval y).cells.toList++cs.toList.drop (off+(a.eval y).cells.size)).toArray):=by
   simp only [execOp,ho,hvx]
   simp [Instr.storeAt,Instr.sureAddr,storeVar,QN hi,hlen,XL,hst]
  unfold Oper.wp
  rw [hr]
  obtain ⟨j1,j2⟩:=hh.write (ls':=ls.take off++X.leaves++ls.drop (off+X.leaves.length)) (cs':=(cs.toList.take off++(a.eval y).cells.toList++cs.toList.drop (off+(a.eval y).cells.size)).toArray)
   k1 (by simp [hlen,hcl];omega) (by rw [EM,hlen];exact ((k2.take off).append hcs).append (k2.drop _))
  refine ⟨F,_,G,hK,?_,j1,j2⟩
  have:=hF.mono (j2.agree hh)
  simpa [Act.put,hdst] using this
end
theorem Z4c {h h':List Res} (s:∀r∈h',r∈h) {b o:Nat} (hf:Vh h' b o):Vh h b o:=
 let ⟨r,hr,h⟩:=hf;⟨r,s r hr,h⟩
theorem YE.sub {w:World} {G:Yg} {h h':List Res} (hh:YE w G h) (s:h'.Sublist h):YE w G h':=
 ⟨fun r hr=>hh.ok r (s.subset hr),hh.apart.sublist s,fun r hr=>hh.prot r (s.subset hr),hh.lt⟩
theorem X1.sub' {w w':World} {G G':Yg} {h h' h'':List Res} (e:X1 w G h w' G' h') (s:h''.Sublist h'):X1 w G h w' G' h'':=
 ⟨e.os,e.tape,e.output,e.size,e.sub,e.same,e.newG,fun b o hb hf=>e.newfp b o hb (Z4c (fun _ hr=>s.subset hr) hf)⟩
theorem AT (w:World) (G:Yg):VK G w w.drew G:=⟨fun _ _ _=>rfl,fun _ _ h=>h⟩
theorem YE.drew {w:World} {G:Yg} {h:List Res} (hh:YE w G h):YE w.drew G h where
 ok:=fun r hr=>by
  have h0:=hh.ok r hr
  cases r with
  | obj b ls=>obtain ⟨cs,e,h1,h2⟩:=h0;exact ⟨cs,e,h1,h2.mono (AT w G)⟩
  | tail v k=>exact h0
  | ge s=>exact h0
  | vec v ls=>
   rcases h0 with ⟨rfl,h0⟩|⟨g,cap,cur,el,rfl,h1,h2,h3,h4⟩
   ·exact .inl ⟨rfl,h0⟩
   ·exact .inr ⟨g,cap,cur,el,rfl,h1,h2,h3,h4.mono (AT w G)⟩
  | many ts=>exact h0
  | own B m=>exact h0
  | row v k ls=>
   rcases h0 with ⟨rfl,h0⟩|⟨g,len,cap,cur,el,rfl,h1,h2,h3,h4,h5⟩
   ·exact .inl ⟨rfl,h0⟩
   ·exact .inr ⟨g,len,cap,cur,el,rfl,h1,h2,h3,h4,h5.mono (AT w G)⟩
 apart:=hh.apart
 prot:=hh.prot
 lt:=hh.lt
theorem X1.drew (w:World) (G:Yg) (h:List Res):X1 w G h w.drew G h:=
 ⟨rfl,rfl,rfl,X7 _,fun _ _ h=>h,fun _ _=>.inl rfl,fun _ _ _ h=>.inl h,fun _ _ _ h=>h⟩
theorem YE.alloc_row {w:World} {G:Yg} {h:List Res} (hh:YE w G h) (cs:Array Value) (t:TypeId) {es:List AV} {k cap:Nat}
  (hk:∀x∈es,x.leaves.length=k) (hcap:es.length<=cap) (XL:cs.size=cap*k) (hls:YT w G (Ze es) (cs.toList.take (es.length*k))) :
  ∃G',YE (w.alloc (.cells cs t)) G' (.tail (.slice (some ⟨w.heap.size,0,none⟩) es.length cap) k::h) /\
   X1 w G h (w.alloc (.cells cs t)) G' (.tail (.slice (some ⟨w.heap.size,0,none⟩) es.length cap) k::h) /\
   RV (w.alloc (.cells cs t)) G' (.sl es (some (.slice (some ⟨w.heap.size,0,none⟩) es.length cap))) (.slice (some ⟨w.heap.size,0,none⟩) es.length cap):=by
 let G':Yg:=fun b o=>G b o∨(b=w.heap.size/\o<es.length*k)
 have hA:VK G w (w.alloc (.cells cs t)) G':=⟨fun b j hg=>DP w _ (hh.lt b j hg),fun _ _ h=>.inl h⟩
 have hrow:(w.alloc (.cells cs t)).heap[w.heap.size]? = some (.cells cs t (0,0)):=FC w _
 obtain ⟨h1,h2⟩:=hh.alloc (.cells cs t) (G':=G') (h':=[.tail (.slice (some ⟨w.heap.size,0,none⟩) es.length cap) k]) (fun _ _ h=>.inl h)
  (fun _ _ h=>h.imp id (·.1))
  (fun r hr=>by rw [Xv.1 hr];exact .inr ⟨_,_,_,cs,t,rfl,hrow,hcap,XL⟩)
  (fun r hr b j hf=>by rw [Xv.1 hr] at hf;exact hf.1)
  (DF _ _)
  (fun r hr b j hf hg=>by
   rw [Xv.1 hr] at hf
   obtain ⟨rfl,hf2⟩:=hf
   rcases hg with hg|hg
   ·exact Nat.lt_irrefl _ (hh.lt _ _ hg)
   ·exact absurd hg.2 om)
 refine ⟨G',h1,h2,.sl (fun x hx=>by cases hx;rfl) hcap (V4.of_flat es hk (Wr.of_cells (hls.mono hA) fun j v hj=>?_))⟩
 have hj2:=hj
 rw [Q6] at hj2
 split at hj2
 ·rename_i hlt
  refine ⟨?_,.inr ⟨rfl,by omega⟩⟩
  rw [Wh,cell_of_row _ _ j cs t (0,0) hrow]
  simpa using hj2
 ·cases hj2
theorem PD {w:World} {G:Yg}:∀(vs:List Value),YT w G (List.replicate vs.length AV.any) vs
 | []=>.nil
 | v::vs=>by simp only [Yw,Sx];exact .cons .any (PD vs)
def Ab (es:List AV) (k:Nat):Bool:=es.all fun x=>Nat.beq x.leaves.length k
theorem Z06 {es:List AV} {k:Nat} (h:Ab es k=true):∀x∈es,x.leaves.length=k:=fun x hx=>
 T7 (JZ.1 h x hx)
section
variable {P:Program} {n:Nat} {o:Oper} {F:Fr} {h:List Res} {K:Fr->List Res->Prop}
theorem Gq {w:World} {G:Yg} {a:Act} (hF:FR w G n F a) {t len:Nat} (parts:Array (Nat × Operand)) {e size:Nat} {i:TypeInfo} {ls:List AV}
  (ht:P.underlying t=some (.slice e)) (hi:P.info? e=some i) (hs:i.size=size) (hz:i.zero.isSome=true) (hle:Nat.ble (len*size) (2 ^ 24)=true)
  (hfill:Ao (fun i=>some (i*size,size)) (List.replicate (len*size) .any) (parts.toList.map fun p=>(p.1,F.ev p.2))=some ls) :
  ∃cs:Array Value,YT w G ls cs.toList /\
   (Instr.buildSlice t len (parts.map fun (i,x)=>(i,a.eval x))).run P w=.ok (.slice (some ⟨w.heap.size,0,none⟩) len len) (w.alloc (.cells cs e)):=by
 subst hs
 have hle:=V2 hle
 cases hzz:i.zero with
 | none=>simp [hzz] at hz
 | some z=>
  let zero:Array Value:=if len*i.size=0 then #[] else z.cells
  have hzlen:((Array.range (len*i.size)).map (zero[· % zero.size]!)).toList.length=len*i.size:=by simp
  obtain ⟨cs',k1,k2⟩:=HZ (w:=w) (G:=G) (vps:=parts.toList.map fun p=>(p.1,a.eval p.2)) hfill (by simp [List.map_map,Function.comp_def])
   (by simpa [List.map_map,Function.comp_def] using YT.map (fun p:Nat × Operand=>F.ev p.2) (fun p=>a.eval p.2) parts.toList fun p _=>hF.ev p.2)
   (cs:=(Array.range (len*i.size)).map (zero[· % zero.size]!)) (by have:=PD (w:=w) (G:=G) ((Array.range (len*i.size)).map (zero[· % zero.size]!)).toList;rwa [hzlen] at this)
  refine ⟨cs',k2,?_⟩
  have hnot:¬(len*i.size>2 ^ 24):=by omega
  have hzv:(zeroValue e).run P w=.ok z w:=by simp [zeroValue,Gs hi,hzz]
  have hmap:(parts.map fun (x:Nat × Operand)=>(x.1,a.eval x.2)).toList=parts.toList.map fun p=>(p.1,a.eval p.2):=by simp
  simp only [Instr.buildSlice,Sem.run_bind,Ui ht,Result.andThen_ok,QN hi,hnot,if_false]
  by_cases h0:len*i.size=0
  ·have hz0:zero=#[]:=Zk h0
   rw [hz0] at k1
   rw [Zk h0]
   simp only [Sem.run_bind,Sem.run_pure,Result.andThen_ok,hmap,k1]
   simp [newRow]
  ·have hz0:zero=z.cells:=Za h0
   rw [hz0] at k1
   rw [Za h0]
   simp only [Sem.run_bind,Sem.run_pure,Result.andThen_ok,hzv,hmap,k1]
   simp [newRow]
theorem Z95 (t len:Nat) (parts:Array (Nat × Operand)) {e size:Nat} {i:TypeInfo} {es:List AV} (ho:o.op=.buildSlice t len parts)
  (ht:P.underlying t=some (.slice e)) (hi:P.info? e=some i) (hs:i.size=size) (hz:i.zero.isSome=true) (hle:Nat.ble (len*size) (2 ^ 24)=true)
  (hfill:Ao (fun i=>some (i*size,size)) (List.replicate (len*size) .any) (parts.toList.map fun p=>(p.1,F.ev p.2))=some (Ze es))
  (hlen:es.length=len) (hall:Ab es size=true) (hd:VP n o=true)
  (hK:∀b,AQ h b->K (F.put o.dst (.sl es (some (.slice (some ⟨b,0,none⟩) len len)))) (.tail (.slice (some ⟨b,0,none⟩) len len) size::h)):WK P n o F h K:=by
 intro Q w G a hF hh
 obtain ⟨cs,h1,h2⟩:=Gq hF parts ht hi hs hz hle hfill
 have hr:(execOp a.eval o).run P w=.ok (.value (.slice (some ⟨w.heap.size,0,none⟩) len len)) (w.alloc (.cells cs e)):=by
  simp only [execOp,ho]
  exact VA h2
 unfold Oper.wp
 rw [hr]
 subst hlen
 have hk:=Z06 hall
 have hcs:cs.size=es.length*size:=by have:=h1.length;rw [To es hk] at this;simpa using this
 obtain ⟨G',j1,j2,j3⟩:=hh.alloc_row cs e hk (X7 _) hcs (by rw [<-hcs];simpa [WJ] using h1)
 exact ⟨_,_,G',hK _ (Ig hh),(hF.mono (j2.agree hh)).put (TR hd) j3,j1,j2⟩
end
structure EP (w:World) (G:Yg) (h1 h2:List Res) (k:Nat) (v:Value) (es:List AV) (v':Value) (w':World) (G':Yg):Prop where
 ok:YE w' G' (h1++.tail v' k::h2)
 ext:X1 w G (h1++.tail v k::h2) w' G' (h1++.tail v' k::h2)
 rv:RV w' G' (.sl es (some v')) v'
 own:v'.ownBlock=v.ownBlock∨∃b,v'.ownBlock=some b/\w.heap.size<=b
theorem Z0d {w:World} {G:Yg} {h1 h2:List Res} {k:Nat} {v:Value} (hh:YE w G (h1++.tail v k::h2)) (cs:Array Value) (t:TypeId) {es:List AV} {cap:Nat}
  (hk:∀x∈es,x.leaves.length=k) (hcap:es.length<=cap) (XL:cs.size=cap*k) (hls:YT w G (Ze es) (cs.toList.take (es.length*k))) :
  ∃G',EP w G h1 h2 k v es (.slice (some ⟨w.heap.size,0,none⟩) es.length cap) (w.drew.alloc (.cells cs t)) G':=by
 obtain ⟨G',j1,j2,j3⟩:=hh.drew.alloc_row cs t hk hcap XL (hls.mono (AT w G))
 have hsub:(h1++.tail (.slice (some ⟨w.heap.size,0,none⟩) es.length cap) k::h2).Perm (.tail (.slice (some ⟨w.heap.size,0,none⟩) es.length cap) k::(h1++h2)):=List.perm_middle
 have hs2:(Res.tail (.slice (some ⟨w.heap.size,0,none⟩) es.length cap) k::(h1++h2)).Sublist (.tail (.slice (some ⟨w.heap.size,0,none⟩) es.length cap) k::(h1++.tail v k::h2)):=
  List.Sublist.cons_cons _ (List.Sublist.append (List.Sublist.refl _) (BA _ _))
 refine ⟨G',(j1.sub hs2).perm hsub.symm,?_,j3,.inr ⟨_,rfl,X7 _⟩⟩
 exact (X1.drew w G _).trans ((j2.sub' hs2).perm (Tu _) hsub.symm)
theorem Dp {P:Program} {t ty e:TypeId} {i:TypeInfo} (ht:P.underlying t=some (.slice e)) (hi:P.info? e=some i) {ad:Option Addr} {len cap:Nat} {a:Option Addr} {c:Nat}
  (hle:len<=cap) (w:World):(Builtin.append_ #[t,t] ty #[.slice ad len cap,.slice a 0 c]).run P w=.ok (.slice ad len cap) w:=by
 cases ad with
 | none=>cases a<;>simp [Builtin.append_,Ui ht,QN hi,Builtin.lenOf,hle,Builtin.firstCells,loadCells,loadCellsFrom]
 | some ad=>cases a<;>simp [Builtin.append_,Ui ht,QN hi,Builtin.lenOf,hle,Builtin.firstCells,loadCells,loadCellsFrom,storeCells]
theorem Z0e {w:World} {G:Yg} {h1 h2:List Res} {k g cap:Nat} {es xs:List AV} {cur:Array Value} {e:TypeId} {news:List Value}
  (hh:YE w G (h1++.tail (.slice (some ⟨g,0,none⟩) es.length cap) k::h2)) (hrow:w.heap[g]? = some (.cells cur e (0,0))) (hcur:cur.size=cap*k)
  (hm:Wr w G g 0 (Ze es)) (hes:∀y∈es,y.leaves.length=k) (hxs:∀y∈xs,y.leaves.length=k) (hn:YT w G (Ze xs) news)
  (hroom:es.length+xs.length<=cap) :
  ∃G',EP w G h1 h2 k (.slice (some ⟨g,0,none⟩) es.length cap) (es++xs) (.slice (some ⟨g,0,none⟩) (es.length+xs.length) cap)
   (w.setRow g (cur.toList.take (es.length*k)++news++cur.toList.drop (es.length*k+news.length)).toArray) G':=by
 have hnl:news.length=xs.length*k:=by rw [hn.length,To xs hxs]
 have hfit:es.length*k+news.length<=cur.size:=by rw [hnl,hcur,<-Qp];exact KU _ hroom
 generalize hcs':(cur.toList.take (es.length*k)++news++cur.toList.drop (es.length*k+news.length)).toArray=cs'
 have hlist:cs'.toList=cur.toList.take (es.length*k)++news++cur.toList.drop (es.length*k+news.length):=by rw [<-hcs']
 have XL:cs'.size=cur.size:=by
  have:=Yp List.length hlist
  simp only [Jp,Yl,Wd,GX] at this
  omega
 have hlow:∀j,j<es.length*k->cs'[j]? = cur[j]?:=by
  intro j hj
  have h1:(cur.toList.take (es.length*k)).length=es.length*k:=by simp;omega
  rw [<-GV,hlist,VJ,A1 om,Q6,Zk hj,GV]
 have hmid:∀j u,news[j]? = some u->cs'[es.length*k+j]? = some u:=by
  intro j u hj
  have h1:(cur.toList.take (es.length*k)).length=es.length*k:=by simp;omega
  have hjl:j<news.length:=(Xh.1 hj).1
  rw [<-GV,hlist,VJ,DE om,h1,Nat.add_sub_cancel_left,A1 hjl,hj]
 have hmem:Res.tail (.slice (some ⟨g,0,none⟩) es.length cap) k∈h1++.tail (.slice (some ⟨g,0,none⟩) es.length cap) k::h2:=by simp
 let G':Yg:=fun b o=>G b o∨(b=g/\es.length*k<=o/\o<(es.length+xs.length)*k)
 have hA:VK G w (w.setRow g cs') G':=⟨fun b j hg=>by
  by_cases hbg:b=g
  ·subst hbg
   have hj:j<es.length*k:=by
    rcases EN j (es.length*k) with h|h
    ·exact h
    ·exact (hh.prot _ hmem b j ⟨rfl,h⟩ hg).elim
   rw [cell_of_row _ b j cs' e (0,0) (setRow_heap w b cur cs' e (0,0) hrow),cell_of_row w b j cur e (0,0) hrow,hlow j hj]
  ·simp [World.cell?,VB w g b cs' hbg],fun _ _ h=>.inl h⟩
 have hpw:=AM.1 hh.apart
 have hpw2:=V1.1 hpw.2.1
 have hbig:∀j,es.length*k<=j->Res.fp (.tail (.slice (some ⟨g,0,none⟩) es.length cap) k) g j:=fun j hj=>⟨rfl,hj⟩
 have hother:∀r,(r∈h1∨r∈h2)->∀c j,r.fp c j->c=g->j<es.length*k:=by
  intro r hr c j hf hc
  subst hc
  rcases EN j (es.length*k) with h|h
  ·exact h
  ·rcases hr with hr|hr
   ·exact (hpw.2.2 r hr _ (Xm ..) c j hf (hbig j h)).elim
   ·exact (hpw2.1 r hr c j (hbig j h) hf).elim
 have hkeep:∀r,(r∈h1∨r∈h2)->Qq w G r->Qq (w.setRow g cs') G' r:=by
  intro r hr h0
  cases r with
  | obj c ks=>
   obtain ⟨ds,el,k1,k2⟩:=h0
   have hne:c≠g:=fun hc=>by have:=hother _ hr c (es.length*k) rfl hc;omega
   exact ⟨ds,el,(VB w g c cs' hne).trans k1,k2.mono hA⟩
  | tail v kk=>
   rcases h0 with rfl|⟨g2,len,cap2,cur2,el,rfl,k1,k2,k3⟩
   ·exact .inl rfl
   ·have hne:g2≠g:=fun hc=>by have:=hother _ hr g2 (len*kk+es.length*k) ⟨rfl,by omega⟩ hc;omega
    exact .inr ⟨g2,len,cap2,cur2,el,rfl,(VB w g g2 cs' hne).trans k1,k2,k3⟩
  | ge s=>exact V3 h0 (by simp [World.setRow])
  | vec v ks=>
   rcases h0 with ⟨rfl,h0⟩|⟨g2,cap2,cur2,el,rfl,k1,k2,k3,k4⟩
   ·exact .inl ⟨rfl,h0⟩
   ·have hne:g2≠g:=fun hc=>by have:=hother _ hr g2 (es.length*k) rfl hc;omega
    exact .inr ⟨g2,cap2,cur2,el,rfl,(VB w g g2 cs' hne).trans k1,k2,k3,k4.mono hA⟩
  | many ts=>
   refine ⟨fun p hp=>?_,h0.2⟩
   rcases h0.1 p hp with q|⟨g2,len,cap2,cur2,el,q,k1,k2,k3⟩
   ·exact .inl q
   ·have hne:g2≠g:=fun hc=>by have:=hother _ hr g2 (len*p.2+es.length*k) ⟨p,hp,by rw [q];exact ⟨rfl,by omega⟩⟩ hc;omega
    exact .inr ⟨g2,len,cap2,cur2,el,q,(VB w g g2 cs' hne).trans k1,k2,k3⟩
  | own B m=>
   intro c hc
   obtain ⟨ds,el,k1,k2⟩:=h0 c hc
   have hne:c≠g:=fun hq=>by have:=hother _ hr c (es.length*k) hc hq;omega
   exact ⟨ds,el,(VB w g c cs' hne).trans k1,k2⟩
  | row v kk ks=>
   rcases h0 with ⟨rfl,h0⟩|⟨g2,len2,cap2,cur2,el,rfl,k1,k2,k3,k4,k5⟩
   ·exact .inl ⟨rfl,h0⟩
   ·have hne:g2≠g:=fun hc=>by have:=hother _ hr g2 (es.length*k) rfl hc;omega
    exact .inr ⟨g2,len2,cap2,cur2,el,rfl,(VB w g g2 cs' hne).trans k1,k2,k3,k4,k5.mono hA⟩
 have hle:es.length*k<=(es.length+xs.length)*k:=KU _ om
 have hfpe:∀r,r∈h1++.tail (.slice (some ⟨g,0,none⟩) (es.length+xs.length) cap) k::h2->∀b o,r.fp b o ->
   Vh (h1++.tail (.slice (some ⟨g,0,none⟩) es.length cap) k::h2) b o:=by
  intro r hr b o hf
  rcases Xj.1 hr with hr|hr
  ·exact ⟨r,by simp [hr],hf⟩
  ·rcases YM.1 hr with rfl|hr
   ·obtain ⟨rfl,hf2⟩:=hf
    exact ⟨_,hmem,rfl,V3 hle hf2⟩
   ·exact ⟨r,by simp [hr],hf⟩
 refine ⟨G',⟨?_,?_,?_,?_⟩,⟨rfl,rfl,rfl,by simp [World.setRow],fun _ _ h=>.inl h,?_,?_,fun b o _ ⟨r,hr,hf⟩=>hfpe r hr b o hf⟩,?_,.inl rfl⟩
 ·intro r hr
  rcases Xj.1 hr with hr|hr
  ·exact hkeep r (.inl hr) (hh.ok r (by simp [hr]))
  ·rcases YM.1 hr with rfl|hr
   ·exact .inr ⟨g,_,cap,cs',e,rfl,setRow_heap w g cur cs' e (0,0) hrow,hroom,XL.trans hcur⟩
   ·exact hkeep r (.inr hr) (hh.ok r (by simp [hr]))
 ·have htt:∀r,AP r (.tail (.slice (some ⟨g,0,none⟩) es.length cap) k)->AP r (.tail (.slice (some ⟨g,0,none⟩) (es.length+xs.length) cap) k):=
   fun r hd b o hf ⟨e1,e2⟩=>hd b o hf ⟨e1,V3 hle e2⟩
  refine AM.2 ⟨hpw.1,V1.2 ⟨fun r hr=>(htt r (hpw2.1 r hr).symm).symm,hpw2.2⟩,fun r hr r' hr'=>?_⟩
  rcases YM.1 hr' with rfl|hr'
  ·exact htt r (hpw.2.2 r hr _ (Xm ..))
  ·exact hpw.2.2 r hr r' (by simp [hr'])
 ·intro r hr b o hf hg
  obtain ⟨r0,hr0,hf0⟩:=hfpe r hr b o hf
  rcases hg with hg|⟨rfl,hg1,hg2⟩
  ·exact hh.prot r0 hr0 b o hf0 hg
  ·rcases Xj.1 hr with hr|hr
   ·have:=hother r (.inl hr) b o hf rfl;omega
   ·rcases YM.1 hr with rfl|hr
    ·have:=hf.2;omega
    ·have:=hother r (.inr hr) b o hf rfl;omega
 ·intro b o hg
  have hs:(w.setRow g cs').heap.size=w.heap.size:=by simp [World.setRow]
  rw [hs]
  rcases hg with hg|⟨rfl,_,_⟩
  ·exact hh.lt b o hg
  ·exact (UB.1 hrow).1
 ·intro b hb
  by_cases hbg:b=g
  ·subst hbg
   refine .inr ⟨cur,cs',e,(0,0),hrow,setRow_heap w b cur cs' e (0,0) hrow,XL,fun o ho=>hlow o ?_⟩
   rcases EN o (es.length*k) with h|h
   ·exact h
   ·exact absurd ⟨_,hmem,rfl,h⟩ ho
  ·exact .inl (VB w g b cs' hbg)
 ·intro b o hb hg
  rcases hg with hg|⟨rfl,hg1,hg2⟩
  ·exact .inl hg
  ·exact .inr ⟨_,hmem,rfl,hg1⟩
 ·rw [<-Yl]
  refine .sl (k:=k) (fun x hx=>by cases hx;rfl) (by simpa using hroom) (V4.of_flat _ (fun y hy=>?_) ?_)
  ·rcases Xj.1 hy with hy|hy
   ·exact hes y hy
   ·exact hxs y hy
  ·have e1:Ze (es++xs)=Ze es++Ze xs:=by simp [Ze]
   rw [e1]
   refine (hm.mono hA).append ?_
   rw [To es hes,Wh]
   refine Wr.of_cells (hn.mono hA) fun j u hj=>⟨?_,.inr ⟨rfl,by omega,?_⟩⟩
   ·rw [cell_of_row _ g _ cs' e (0,0) (setRow_heap w g cur cs' e (0,0) hrow),hmid j u hj]
   ·have hjl:j<news.length:=(Xh.1 hj).1
    rw [Qp]
    omega
theorem Lk {P:Program} (w:World) (t ty e el:TypeId) (i:TypeInfo) (ht:P.underlying t=some (.slice e)) (hi:P.info? e=some i)
  (g sLen sCap:Nat) (cur:Array Value) (hg:w.heap[g]? = some (.cells cur el (0,0)))
  (a:Addr) (m c:Nat) (news:List Value) (hl:news.length=m*i.size) (hnews:∀j u,news[j]? = some u->w.cell? (a.add j)=some u) (h1:∀u∈news,u.oneCell'=true)
  (hroom:sLen+m<=sCap) (hfit:sLen*i.size+news.length<=cur.size) :
  (Builtin.append_ #[t,t] ty #[.slice (some ⟨g,0,none⟩) sLen sCap,.slice (some a) m c]).run P w =
   .ok (.slice (some ⟨g,0,none⟩) (sLen+m) sCap) (w.setRow g (cur.toList.take (sLen*i.size)++news++cur.toList.drop (sLen*i.size+news.length)).toArray):=by
 have hf:=run_firstCells_some (P:=P) w i.size m a m c news hl hnews
 have hst:=run_storeCells_at P g (sLen*i.size) el news 0 cur w hg (by simpa using hfit) h1
 simp only [BB] at hst
 simp [Builtin.append_,run_underlying ht,sizeOf,typeInfo,hi,Builtin.lenOf,hroom,hf,Addr.add_lit,hst]
theorem Z0c {P:Program} {w:World} {G:Yg} {h1 h2:List Res} {t ty e k:Nat} {i:TypeInfo} {v x:Value} {es xs:List AV}
  (ht:P.underlying t=some (.slice e)) (hi:P.info? e=some i) (hk:i.size=k) (hzs:(i.zero.map (·.cells.size))=some k) (hb:Nat.ble i.bytes 32768=true)
  (hh:YE w G (h1++.tail v k::h2)) (hv:RV w G (.sl es (some v)) v) (hx:RV w G (.sl xs none) x)
  (hes:∀y∈es,y.leaves.length=k) (hxs:∀y∈xs,y.leaves.length=k) (hone:(Ze xs).all AV.one=true) (hbound:es.length+xs.length<=4294967296) :
  ∃v' w' G',(Builtin.append_ #[t,t] ty #[v,x]).run P w=.ok v' w'/\EP w G h1 h2 k v (es++xs) v' w' G':=by
 have htail:H6 w v k:=hh.ok (.tail v k) (by simp)
 have hb:=V2 hb
 cases hz:i.zero with
 | none=>simp [hz] at hzs
 | some z=>
  have hzs:z.cells.size=k:=by simpa [hz] using hzs
  have hlen:v=.slice none 0 0->es=[]:=by
   intro he
   subst he
   cases hv with
   | nil=>rfl
  have grown:∀(olds news:List Value) (old:Nat),YT w G (Ze es) olds->YT w G (Ze xs) news ->
    ∃G',EP w G h1 h2 k v (es++xs) (.slice (some ⟨w.heap.size,0,none⟩) (es.length+xs.length) (grownCap w (es.length+xs.length) old e))
     (w.drew.alloc (.cells (olds.toArray++news.toArray++Builtin.zeroCells z.cells (grownCap w (es.length+xs.length) old e-(es.length+xs.length))) e)) G':=by
   intro olds news old ho hn
   have Xf:=grownCap_ge w (es.length+xs.length) old e
   have hall:∀y∈es++xs,y.leaves.length=k:=fun y hy=>by
    rcases Xj.1 hy with hy|hy
    ·exact hes y hy
    ·exact hxs y hy
   have e1:Ze (es++xs)=Ze es++Ze xs:=by simp [Ze]
   have hol:olds.length=es.length*k:=by rw [ho.length,To es hes]
   have hnl:news.length=xs.length*k:=by rw [hn.length,To xs hxs]
   have:=Z0d hh (olds.toArray++news.toArray++Builtin.zeroCells z.cells (grownCap w (es.length+xs.length) old e-(es.length+xs.length))) e
    (es:=es++xs) (cap:=grownCap w (es.length+xs.length) old e) hall (by simpa using Xf)
    (by
     simp only [Array.size_append,EL,size_zeroCells,hzs,hol,hnl,<-Qp]
     congr 1
     omega)
    (by
     rw [e1]
     have:(olds.toArray++news.toArray++Builtin.zeroCells z.cells (grownCap w (es.length+xs.length) old e-(es.length+xs.length))).toList.take ((es++xs).length*k)=olds++news:=by
      simp only [GW,VJ,Yl]
      rw [<-VJ,Qp,<-hol,<-hnl,<-Yl]
      exact Jr
     rw [this]
     exact ho.append hn)
   simpa using this
  by_cases hxe:xs=[]
  ·subst hxe
   cases hx with
   | nil _=>
    refine ⟨v,w,G,?_,by simpa using hh,X1.refl _ _ _,by simpa using hv,.inl rfl⟩
    rcases htail with rfl|⟨g,len,cap,cur,el,rfl,_,hle,_⟩
    ·exact Dp ht hi (X7 _) w
    ·exact Dp ht hi hle w
   | sl _ _ _=>
    refine ⟨v,w,G,?_,by simpa using hh,X1.refl _ _ _,by simpa using hv,.inl rfl⟩
    rcases htail with rfl|⟨g,len,cap,cur,el,rfl,_,hle,_⟩
    ·exact Dp ht hi (X7 _) w
    ·exact Dp ht hi hle w
  ·cases hx with
   | nil _=>exact absurd rfl hxe
   | sl hq hcc hm=>
    rename_i b o' k' c
    have hpos:0<xs.length:=Bz.2 hxe
    obtain ⟨news,hn,hnc⟩:=hm.flat_mem.cells
    have hnl:news.length=xs.length*i.size:=by rw [hn.length,hk,To xs hxs]
    have hone':=hn.one_cells hone
    have hnews:∀j u,news[j]? = some u->w.cell? ((⟨b,o',none⟩:Addr).add j)=some u:=fun j u hj=>by rw [KW];exact (hnc j u hj).1
    have hby:(es.length+xs.length)*i.bytes<=140737488355328:=by
     have:=Nat.mul_le_mul hbound hb
     omega
    rcases htail with rfl|⟨g,len,cap,cur,el,rfl,hrow,hlc,hcur⟩
    ·have he:=hlen rfl
     subst he
     have hr:=run_append_nil (P:=P) w t ty e i z ht hi hz ⟨b,o',none⟩ xs.length c news hnl hnews hpos (by simp at hbound;omega) (by simp at hby;omega)
     obtain ⟨G',hG'⟩:=grown [] news 0 .nil hn
     simp only [X5,Wh,Array.empty_append] at hG'
     exact ⟨_,_,G',hr,by simpa using hG'⟩
    ·have hle:len=es.length:=by cases hv<;>rfl
     subst hle
     have hmem:Wr w G g 0 (Ze es):=by
      cases hv with
      | nil=>exact .nil
      | sl _ _ hm=>exact hm.flat_mem
     obtain ⟨olds,ho,hoc⟩:=hmem.cells
     by_cases hroom:es.length+xs.length<=cap
     ·have hfit:es.length*i.size+news.length<=cur.size:=by rw [hnl,hcur,hk,<-Qp];exact KU _ hroom
      have hr:=Lk (P:=P) w t ty e el i ht hi g es.length cap cur hrow ⟨b,o',none⟩ xs.length c news hnl hnews hone' hroom hfit
      obtain ⟨G',hG'⟩:=Z0e (h1:=h1) (h2:=h2) hh hrow hcur hmem hes hxs hn hroom
      rw [hk] at hr
      exact ⟨_,_,G',hr,hG'⟩
     ·have hol:olds.length=es.length*i.size:=by rw [ho.length,hk,To es hes]
      have hr:=run_append_grow (P:=P) w t ty e i z ht hi hz ⟨g,0,none⟩ es.length cap olds hol (fun j u hj=>by rw [KW];simpa using (hoc j u hj).1) ⟨b,o',none⟩ xs.length c news hnl hnews
       om om (growslice_fits om hby)
      obtain ⟨G',hG'⟩:=grown olds news cap ho hn
      exact ⟨_,_,G',hr,hG'⟩
section
variable {P:Program} {n:Nat} {o:Oper} {F:Fr} {h h1 h2:List Res} {K:Fr->List Res->Prop}
theorem RV.forget {w:World} {G:Yg} {es:List AV} {hv:Option Value} {v:Value} (h:RV w G (.sl es hv) v):RV w G (.sl es none) v:=by
 cases h with
 | nil _=>exact .nil (by simp)
 | sl _ hc hm=>exact .sl (by simp) hc hm
theorem RV.header {w:World} {G:Yg} {es:List AV} {x v:Value} (h:RV w G (.sl es (some x)) v):v=x:=by
 cases h with
 | nil hq=>exact (hq x rfl).symm
 | sl hq _ _=>exact (hq x rfl).symm
theorem Z91 (s x:Operand) (t:TypeId) {e k:Nat} {i:TypeInfo} {hv:Value} {hx:Option Value} {es xs:List AV}
  (ho:o.op=.call { callee:=.builtin .append,args:=#[s,x],argTypes:=#[t,t] })
  (ht:P.underlying t=some (.slice e)) (hi:P.info? e=some i) (hk:i.size=k) (hzs:(i.zero.map (·.cells.size))=some k) (hb:Nat.ble i.bytes 32768=true)
  (hs:F.ev s=.sl es (some hv)) (hx:F.ev x=.sl xs hx) (hd:VP n o=true)
  (hes:∀y∈es,y.leaves.length=k) (hxs:∀y∈xs,y.leaves.length=k) (hone:(Ze xs).all AV.one=true) (hbound:es.length+xs.length<=4294967296)
  (hK:∀v',(v'.ownBlock=hv.ownBlock∨∃b,v'.ownBlock=some b/\AQ (h1++.tail hv k::h2) b) ->
   K (F.put o.dst (.sl (es++xs) (some v'))) (h1++.tail v' k::h2)):WK P n o F (h1++.tail hv k::h2) K:=by
 intro Q w G a hF hh
 have v1:=hF.ev s
 have v2:=hF.ev x
 rw [hs] at v1
 rw [hx] at v2
 have e1:=v1.header
 rw [e1] at v1
 obtain ⟨v',w',G',hr,hA⟩:=Z0c (P:=P) (ty:=o.type) ht hi hk hzs hb hh v1 v2.forget hes hxs hone hbound
 have hrun:(execOp a.eval o).run P w=.ok (.value v') w':=by
  simp only [execOp,ho,resolve,invoke,builtin,Sem.run_bind,Sem.run_pure,Result.andThen_ok,EK,T6,EJ,e1,hr]
 unfold Oper.wp
 rw [hrun]
 refine ⟨_,_,G',hK v' ?_,(hF.mono (hA.ext.agree hh)).put (TR hd) hA.rv,hA.ok,hA.ext⟩
 rcases hA.own with h|⟨b,h,hle⟩
 ·exact .inl h
 ·exact .inr ⟨b,h,fun s hs=>V3 (hh.ok _ hs) hle⟩
theorem Rf {t e k:Nat} {i:TypeInfo} {b off len cap:Nat} {ik:IntKind} {j:Int} (ht:P.underlying t=some (.slice e)) (hi:P.info? e=some i) (hk:i.size=k)
  (h0:0<=j) (hlt:j<len) (w:World) :
  (Instr.indexAt t (.slice (some ⟨b,off,none⟩) len cap) (.int ik j)).run P w=.ok (.pointer (some ⟨b,off+j.toNat * k,none⟩)) w:=by
 subst hk
 have hu:=Ui ht w
 simp only [Instr.indexAt,asIntOf,Sem.run_bind,Sem.run_pure,Result.andThen_ok,hu]
 simp [h0,hlt,QN hi,KW]
theorem Zcx (t:TypeId) (x ix:Operand) {e k:Nat} {i:TypeInfo} {es:List AV} {hv:Option Value} {ik:IntKind} {j:Int} {y:AV}
  (ho:o.op=.indexAddr t x ix) (ht:P.underlying t=some (.slice e)) (hi:P.info? e=some i) (hk:i.size=k) (hx:F.ev x=.sl es hv) (hix:F.ev ix=.val (.int ik j))
  (h0:0<=j) (hget:es[j.toNat]? = some y) (hy:y.leaves.length=k):XT P o F h [] (.rp y.leaves):=by
 intro n w G a hF hh
 have v1:=hF.ev x
 have v2:=hF.ev ix
 rw [hx] at v1
 rw [hix] at v2
 have v2:=v2.val_inv
 generalize hv1:a.eval x=u at v1
 cases v1 with
 | nil _=>simp at hget
 | sl hq hc hm=>
  rename_i b off kk cap
  have hlt:j.toNat<es.length:=(Xh.1 hget).1
  have hkk:kk=k:=by
   have:=hm.len y (Y2 hget)
   omega
  subst hkk
  refine ⟨_,.rp (hm.get _ _ hget),fun w' _ _=>?_⟩
  simp only [execOp,ho,hv1,v2]
  exact VA (Rf ht hi hk h0 om w')
theorem Zcy (t:TypeId) (x ix:Operand) {e k:Nat} {i:TypeInfo} {b off len cap:Nat} {ik:IntKind} {j:Int}
  (ho:o.op=.indexAddr t x ix) (ht:P.underlying t=some (.slice e)) (hi:P.info? e=some i) (hk:i.size=k) (hx:F.ev x=.val (.slice (some ⟨b,off,none⟩) len cap)) (hix:F.ev ix=.val (.int ik j))
  (h0:0<=j) (hlt:j<len):XT P o F h [] (.val (.pointer (some ⟨b,off+j.toNat * k,none⟩))):=by
 intro n w G a hF hh
 have v1:=hF.ev x
 have v2:=hF.ev ix
 rw [hx] at v1
 rw [hix] at v2
 have v1:=v1.val_inv
 have v2:=v2.val_inv
 refine ⟨_,.val,fun w' _ _=>?_⟩
 simp only [execOp,ho,v1,v2]
 exact VA (Rf ht hi hk h0 hlt w')
def Bh (F:Fr) (o:Option Operand) (d:Int):Option Int:=
 match o with
 | none=>some d
 | some x=>match F.ev x with
  | .val (.int _ j)=>some j
  | _=>none
theorem Ey {v:Value} {ik:IntKind} {j:Int} {y:Nat} {c:BoundsCode} (hv:v=.int ik j) (h0:0<=j) (h1:j<=y) (w:World):(Instr.sliceBound v y c).run P w=.ok j.toNat w:=by
 subst hv
 simp [Instr.sliceBound,asIntOf,h0,h1]
theorem Zd3 (t:TypeId) (x:Operand) (lo hi:Option Operand) {e k:Nat} {i:TypeInfo} {es:List AV} {hv:Option Value} {l m:Int}
  (ho:o.op=.slice t x lo hi none) (ht:P.underlying t=some (.slice e)) (hi':P.info? e=some i) (hk:i.size=k) (hx:F.ev x=.sl es hv)
  (hlo:Bh F lo 0=some l) (hhi:Bh F hi es.length=some m) (h0:0<=l) (h1:l<=m) (h2:m<=es.length) (hes:∀y∈es,y.leaves.length=k) :
  XT P o F h [] (.sl ((es.take m.toNat).drop l.toNat) none):=by
 intro n w G a hF hh
 have v1:=hF.ev x
 rw [hx] at v1
 generalize hv1:a.eval x=u at v1
 have hlo':lo.map a.eval=none/\l=0∨∃ik,lo.map a.eval=some (.int ik l):=by
  cases lo with
  | none=>simp [Bh] at hlo;exact .inl ⟨rfl,hlo.symm⟩
  | some y=>
   simp only [Bh] at hlo
   split at hlo
   ·rename_i k j hj
    cases hlo
    have:=hF.ev y
    rw [hj] at this
    exact .inr ⟨k,by simp [this.val_inv]⟩
   ·cases hlo
 have hhi':hi.map a.eval=none/\m=es.length∨∃ik,hi.map a.eval=some (.int ik m):=by
  cases hi with
  | none=>simp [Bh] at hhi;exact .inl ⟨rfl,hhi.symm⟩
  | some y=>
   simp only [Bh] at hhi
   split at hhi
   ·rename_i k j hj
    cases hhi
    have:=hF.ev y
    rw [hj] at this
    exact .inr ⟨k,by simp [this.val_inv]⟩
   ·cases hhi
 have hrun:∀(ad:Option Addr) (cap:Nat),m<=cap->∀w':World,(Instr.sliceAt t (.slice ad es.length cap) (lo.map a.eval) (hi.map a.eval) none).run P w' =
   .ok (.slice (if cap=l.toNat then ad else ad.map (·.add (l.toNat * k))) (m.toNat-l.toNat) (cap-l.toNat)) w':=by
  intro ad cap hcap w'
  subst hk
  have hmm:(Instr.sliceBounds true es.length cap (lo.map a.eval) (hi.map a.eval) none).run P w'=.ok (l.toNat,m.toNat,cap) w':=by
   rcases hhi' with ⟨e1,rfl⟩|⟨ik,e1⟩
   ·rcases hlo' with ⟨e2,rfl⟩|⟨ik2,e2⟩
    ·simp [Instr.sliceBounds,e1,e2]
    ·simp [Instr.sliceBounds,e1,e2,Ey (P:=P) (v:=.int ik2 l) rfl h0 (by omega:l<=(es.length:Int))]
   ·have Zc:=fun c=>Ey (P:=P) (c:=c) (v:=.int ik m) (y:=cap) rfl om hcap w'
    rcases hlo' with ⟨e2,rfl⟩|⟨ik2,e2⟩
    ·simp [Instr.sliceBounds,e1,e2,Zc]
    ·have ZF:=fun c=>Ey (P:=P) (c:=c) (v:=.int ik2 l) (y:=m.toNat) rfl h0 om w'
     simp [Instr.sliceBounds,e1,e2,Zc,ZF]
  simp only [Instr.sliceAt,Sem.run_bind,Ui ht,Result.andThen_ok,Instr.slice,hmm]
  simp [QN hi']
 cases v1 with
 | nil hq=>
  rename_i ad cap
  simp only [X5,Int.natCast_zero] at h2
  have hl:l=0:=by omega
  have hm:m=0:=by omega
  subst hl
  subst hm
  have hr:=hrun ad cap om
  refine ⟨_,?_,fun w' _ _=>by simp only [execOp,ho,hv1,Option.map_none];exact VA (hr w')⟩
  exact .nil (by simp)
 | sl hq hc hm=>
  rename_i b off kk cap
  by_cases hemp:m.toNat<=l.toNat
  ·refine ⟨_,?_,fun w' _ _=>by simp only [execOp,ho,hv1,Option.map_none];exact VA (hrun _ cap om w')⟩
   have e1:(es.take m.toNat).drop l.toNat=[]:=LZ (by simp;omega)
   have e2:m.toNat-l.toNat=0:=by omega
   rw [e1,e2]
   exact .nil (by simp)
  ·have hne:0<es.length:=by omega
   have hkk:kk=k:=by
    have hy:=hm.len es[0] (List.getElem_mem hne)
    have:=hes es[0] (List.getElem_mem hne)
    omega
   subst hkk
   refine ⟨_,?_,fun w' _ _=>by simp only [execOp,ho,hv1,Option.map_none];exact VA (hrun _ cap om w')⟩
   rw [Za om]
   have hlen:((es.take m.toNat).drop l.toNat).length=m.toNat-l.toNat:=by simp;omega
   rw [<-hlen]
   simp only [EO,KW]
   exact .sl (k:=kk) (by simp) om ((hm.take m.toNat).drop l.toNat)
theorem Z93 (f:FuncId) (args:Array Operand) (tys:Array TypeId) {fn:Func} {h1 h2:List Res} {xs:List AV} {R:AV->List Res->Prop}
  (ho:o.op=.call { callee:=.value (.func f),args:=args,argTypes:=tys }) (hf:P.funcs[f]? = some fn) (hb:fn.body.isSome=true) (hn:(fn.name== "runtime.NumGoroutine")=false)
  (hargs:args.toList.map F.ev=xs) (hd:VP n o=true) (hp:h.Perm (h1++h2)) (hc:WP P f xs h1 R)
  (hK:∀r h',R r h'->K (F.put o.dst r) (h'++h2)):WK P n o F h K:=by
 intro Q w G a hF hh
 have hh':=hh.perm hp
 have hvs:YT w G xs (args.toList.map a.eval):=by rw [<-hargs];exact YT.map F.ev a.eval args.toList fun x _=>hF.ev x
 have hcl:=hc w G _ hvs hh'.left
 have hbn:¬fn.body=none:=by intro hq;simp [hq] at hb
 have hn':¬fn.name= "runtime.NumGoroutine":=by simpa using hn
 have hrun:(execOp a.eval o).run P w=.ok (.enter f (args.map a.eval)) w:=by
  simp only [execOp,ho,resolve,Act.eval,Deferred.ofValue,Sem.run_bind,Sem.run_pure,Result.andThen_ok,invoke,callFunc]
  simp [program,Sem.run,hf,hn',hbn]
 unfold Oper.wp
 rw [hrun]
 show Calls P f (args.map a.eval) w _
 have hav:args.map a.eval=(args.toList.map a.eval).toArray:=by rw [<-Array.toList_map,Ti]
 rw [hav]
 refine hcl.mono fun e w' ⟨v,r,h',G',he,hR,hv,hh2,hx⟩=>?_
 subst he
 obtain ⟨j1,j2⟩:=hh'.frame hx hh2
 have j3:=j2.perm hp.symm (Tu _)
 exact ⟨_,_,G',hK r h' hR,(hF.mono (j3.agree hh)).put (TR hd) hv,j1,j3⟩
theorem Z94 (t:Operand) (args:Array Operand) (tys:Array TypeId) {f:FuncId} {caps:Array Value} {fn:Func} {h1 h2:List Res} {xs:List AV} {R:AV->List Res->Prop}
  (ho:o.op=.call { callee:=.value t,args:=args,argTypes:=tys }) (ht:F.ev t=.val (.func (.func f) #[] caps)) (hf:P.funcs[f]? = some fn) (hb:fn.body.isSome=true)
  (hn:(fn.name== "runtime.NumGoroutine")=false)
  (hargs:args.toList.map F.ev++caps.toList.map AV.val=xs) (hd:VP n o=true) (hp:h.Perm (h1++h2)) (hc:WP P f xs h1 R)
  (hK:∀r h',R r h'->K (F.put o.dst r) (h'++h2)):WK P n o F h K:=by
 intro Q w G a hF hh
 have hh':=hh.perm hp
 have htv:=hF.ev t
 rw [ht] at htv
 have htv:=htv.val_inv
 have hcv:∀(l:List Value),YT w G (l.map AV.val) l:=fun l=>by
  induction l with
  | nil=>exact .nil
  | cons v l ih=>exact .cons .val ih
 have hvs:YT w G xs (args.toList.map a.eval++caps.toList):=by
  rw [<-hargs];exact (YT.map F.ev a.eval args.toList fun x _=>hF.ev x).append (hcv _)
 have hcl:=hc w G _ hvs hh'.left
 have hbn:¬fn.body=none:=by intro hq;simp [hq] at hb
 have hn':¬fn.name= "runtime.NumGoroutine":=by simpa using hn
 have hrun:(execOp a.eval o).run P w=.ok (.enter f (args.map a.eval++caps)) w:=by
  simp only [execOp,ho,resolve,htv,Deferred.ofValue,Sem.run_bind,Sem.run_pure,Result.andThen_ok,invoke,callFunc]
  simp [program,Sem.run,hf,hn',hbn]
 unfold Oper.wp
 rw [hrun]
 show Calls P f (args.map a.eval++caps) w _
 have hav:args.map a.eval++caps=(args.toList.map a.eval++caps.toList).toArray:=by
  apply Array.ext'
  simp
 rw [hav]
 refine hcl.mono fun e w' ⟨v,r,h',G',he,hR,hv,hh2,hx⟩=>?_
 subst he
 obtain ⟨j1,j2⟩:=hh'.frame hx hh2
 have j3:=j2.perm hp.symm (Tu _)
 exact ⟨_,_,G',hK r h' hR,(hF.mono (j3.agree hh)).put (TR hd) hv,j1,j3⟩
end
def YL:Code->Code
 | .seq a _=>a
 | .cond _ a _=>a
 | .block _ a=>a
 | .loop a=>a
 | .scope a=>a
 | c=>c
def VN:Code->Code
 | .seq _ b=>b
 | .cond _ _ b=>b
 | c=>c
def X9:Code->Nat
 | .skip=>0
 | .region _ _ false=>1
 | .region _ _ true=>2
 | .seq _ _=>3
 | .cond _ _ _=>4
 | .block _ _=>5
 | .loop _=>6
 | .exit _=>7
 | .ret=>8
 | _=>9
def QX:Code->Nat
 | .region id _ _=>id
 | .block id _=>id
 | .exit id=>id
 | _=>0
def XH:Code->Array Oper
 | .region _ ops _=>ops
 | _=>#[]
def Ad:Code->Operand
 | .cond x _ _=>x
 | _=>.tmp 0
def F7 (fn:Func):Code:=fn.body.getD .skip
theorem Z0u {c:Code} (h:X9 c=0):c=.skip:=by unfold X9 at h;split at h<;>first|rfl|cases h
theorem Z0v {c:Code} (h:X9 c=1):c=.region (QX c) (XH c) false:=by unfold X9 at h;split at h<;>first|rfl|cases h
theorem Z0w {c:Code} (h:X9 c=2):c=.region (QX c) (XH c) true:=by unfold X9 at h;split at h<;>first|rfl|cases h
theorem Z0x {c:Code} (h:X9 c=3):c=.seq (YL c) (VN c):=by unfold X9 at h;split at h<;>first|rfl|cases h
theorem Z0y {c:Code} (h:X9 c=4):c=.cond (Ad c) (YL c) (VN c):=by unfold X9 at h;split at h<;>first|rfl|cases h
theorem Z0z {c:Code} (h:X9 c=5):c=.block (QX c) (YL c):=by unfold X9 at h;split at h<;>first|rfl|cases h
theorem Z10 {c:Code} (h:X9 c=6):c=.loop (YL c):=by unfold X9 at h;split at h<;>first|rfl|cases h
theorem Z11 {c:Code} (h:X9 c=7):c=.exit (QX c):=by unfold X9 at h;split at h<;>first|rfl|cases h
theorem Z12 {c:Code} (h:X9 c=8):c=.ret:=by unfold X9 at h;split at h<;>first|rfl|cases h
def QU (P:Program) (n:Nat) (ops:Array Oper) (B:Fr->List Res->Prop) (l:List Oper) (F:Fr) (h:List Res):Prop:=
 ∀(Q:Exit->Act->World->Prop) w G a,FR w G n F a->YE w G h ->
  (∀F' h' G' a' w',B F' h'->FR w' G' n F' a'->YE w' G' h'->X1 w G h w' G' h'->Q .normal a' w')->wpList P ops Q l a w
section
variable {P:Program} {n:Nat} {ops:Array Oper} {B:Fr->List Res->Prop} {l:List Oper} {F:Fr} {h:List Res} {A:WQ} {c:Code}
theorem Zaw (hB:B F h):QU P n ops B [] F h:=fun _ w G a hF hh hk=>hk F h G a w hB hF hh (X1.refl _ _ _)
def Kw (ops:Array Oper) (F:Fr) (o:Oper):Option Bool:=
 match o.guard with
 | none=>some true
 | some (j,want)=>match (ops[j]?).bind (·.dst) with
  | none=>none
  | some t=>match F.get t with
   | .val (.bool b)=>some (b==want)
   | .tup []=>some false
   | _=>none
theorem CZ {w:World} {G:Yg} {a:Act} {o:Oper} {b:Bool} (hF:FR w G n F a) (hlt:(match o.guard with|none=>true|some (j,_)=>match (ops[j]?).bind (·.dst) with|some t=>Nat.blt t n|none=>true)=true)
  (hg:Kw ops F o=some b):Region.wanted o (yielded ops a.tmps)=b:=by
 unfold Kw at hg
 unfold Region.wanted
 cases hq:o.guard with
 | none=>simp [hq] at hg;simp [hg]
 | some jw=>
  obtain ⟨j,want⟩:=jw
  simp only [hq] at hg hlt ⊢
  cases ht:(ops[j]?).bind (·.dst) with
  | none=>simp [ht] at hg
  | some t=>
   simp only [ht] at hg hlt
   have hlt':t<n:=by simpa using hlt
   have hv:=hF.get t
   have hget:a.tmps[t]? = some (a.tmps.getD t undef):=by
    have:t<a.tmps.size:=by rw [hF.size];exact hlt'
    simp [Array.getD,this]
   unfold yielded
   simp only [ht,Option.bind_some,hget]
   split at hg
   ·rename_i b' hb
    rw [hb] at hv
    have hv:=hv.val_inv
    cases hg
    rw [hv]
    cases b'<;>cases want<;>rfl
   ·rename_i hb
    rw [hb] at hv
    cases hg
    generalize a.tmps.getD t undef=u at hv
    cases hv with
    | tup hc=>cases hc;cases want<;>rfl
   ·cases hg
def As (n:Nat) (ops:Array Oper) (o:Oper):Bool:=
 match o.guard with|none=>true|some (j,_)=>match (ops[j]?).bind (·.dst) with|some t=>Nat.blt t n|none=>true
def Qh (P:Program) (n:Nat) (ops:Array Oper) (h:List Res):Nat->List Oper->Fr->List Nat->Option (List Oper × Fr × List (Nat × Nat))
 | 0,l,F,_=>some (l,F,[])
 | _+1,[],_,_=>none
 | k+1,o::l,F,hints=>
  match VP n o&&As n ops o with
  | false=>none
  | true=>match Kw ops F o with
   | none=>none
   | some false=>Qh P n ops h k l (F.put o.dst (.tup [])) hints
   | some true=>match TS P o F h (hints.headD 0) with
    | none=>none
    | some (x,eqs)=>match Qh P n ops h k l (F.put o.dst x) (match eqs with | []=>hints | _=>hints.tail) with
     | none=>none
     | some (l',F',es)=>some (l',F',eqs++es)
theorem Zee {o:Oper} {Q:Exit->Act->World->Prop} {a:Act} {w:World} (hw:Region.wanted o (yielded ops a.tmps)=false)
  (hk:wpList P ops Q l (a.put o.dst undef) w):wpList P ops Q (o::l) a w:=by
 unfold wpList
 rw [Za (by simp [hw])]
 exact hk
theorem Lm:∀(k:Nat) {l:List Oper} {F:Fr} {hints:List Nat} {l':List Oper} {F':Fr} {eqs:List (Nat × Nat)},Qh P n ops h k l F hints=some (l',F',eqs) ->
  (∀p∈eqs,p.1=p.2)->QU P n ops B l' F' h->QU P n ops B l F h
 | 0,l,F,hints,l',F',eqs,he,_,hs=>by
  simp only [Qh,Wv,Prod.mk.injEq] at he
  obtain ⟨rfl,rfl,rfl⟩:=he
  exact hs
 | k+1,[],F,hints,l',F',eqs,he,_,hs=>by simp [Qh] at he
 | k+1,o::l,F,hints,l',F',eqs,he,heq,hs=>by
  simp only [Qh] at he
  cases hd:VP n o&&As n ops o with
  | false=>rw [hd] at he;cases he
  | true=>
   rw [hd] at he
   simp only [Xo] at hd
   simp only at he
   cases hg:Kw ops F o with
   | none=>rw [hg] at he;cases he
   | some b=>
    rw [hg] at he
    cases b with
    | false=>
     simp only at he
     have ih:=Lm k he heq hs
     intro Q w G a hF hh hk
     have hw:=CZ hF hd.2 hg
     exact Zee hw (ih Q w G _ (hF.put (TR hd.1) (.tup (cs:=[]) .nil)) hh hk)
    | true=>
     simp only at he
     cases hev:TS P o F h (hints.headD 0) with
     | none=>rw [hev] at he;cases he
     | some xe=>
      obtain ⟨x,es⟩:=xe
      rw [hev] at he
      simp only at he
      generalize hhint:(match es with|[]=>hints|_=>hints.tail)=hints' at he
      cases hr:Qh P n ops h k l (F.put o.dst x) hints' with
      | none=>rw [hr] at he;cases he
      | some y=>
       obtain ⟨l2,F2,es2⟩:=y
       rw [hr] at he
       simp only [Wv,Prod.mk.injEq] at he
       obtain ⟨rfl,rfl,rfl⟩:=he
       have ih:=Lm k hr (fun p hp=>heq p (Xj.2 (.inr hp))) hs
       have hst:=CT hev (fun p hp=>heq p (Xj.2 (.inl hp)))
       intro Q w G a hF hh hk
       have hw:=CZ hF hd.2 hg
       obtain ⟨v,hv,hrun⟩:=hst n w G a hF hh
       unfold wpList
       rw [Zk hw]
       refine .inl ?_
       unfold Oper.wp
       rw [hrun w (fun _ _ _=>rfl) (fun _ _=>rfl)]
       exact ih Q w G _ (hF.put (TR hd.1) hv) hh hk
theorem Zax {o:Oper} (hg:Kw ops F o=some true) (hlt:As n ops o=true) (ho:WK P n o F h fun F' h'=>QU P n ops B l F' h'):QU P n ops B (o::l) F h:=by
 intro Q w G a hF hh hk
 have hw:=CZ hF hlt hg
 unfold wpList
 rw [Zk hw]
 refine .inl (Oper.wp_mono ?_ (ho Q w G a hF hh))
 intro a' w' ⟨F',h',G',h1,h2,h3,h4⟩
 exact h1 Q w' G' a' h2 h3 fun F2 h2' G2 a2 w2 b1 b2 b3 b4=>hk F2 h2' G2 a2 w2 b1 b2 b3 (h4.trans b4)
theorem Fr.Le.refl (F:Fr):F.Le F:=fun _ _ _ _ h=>h
def Zd (x y:AV):Prop:=∀w G v,RV w G x v->RV w G y v
theorem Zd.refl (x:AV):Zd x x:=fun _ _ _ h=>h
theorem Zd.any (x:AV):Zd x .any:=fun _ _ _ _=>.any
theorem Zd.forget (es:List AV) (hv:Option Value):Zd (.sl es hv) (.sl es none):=fun _ _ _ h=>h.forget
theorem Z49 (F:Fr):F.Le []:=fun _ _ _ _ _=>.any
theorem CW {F F':Fr} {t:Nat} {x y:AV} (hx:F.get t=x) (hxy:Zd x y) (hr:F.Le F'):F.Le ((t,y)::F'):=by
 intro w G v s hv
 show RV w G (match Nat.beq t s with|true=>y|false=>Fr.get F' s) v
 cases hb:Nat.beq t s with
 | true=>
  have:=T7 hb
  subst this
  rw [hx] at hv
  exact hxy _ _ _ hv
 | false=>exact hr w G v s hv
theorem Zd.sl {es es':List AV} (hv:Option Value) (h:es=es'):Zd (.sl es hv) (.sl es' none):=h▸Zd.forget es hv
theorem Zd.slh {es es':List AV} (hv:Option Value) (h:es=es'):Zd (.sl es hv) (.sl es' hv):=h▸Zd.refl _
theorem Zd.i {a b:Int} (h:a=b):Zd (.val (.int .i64 a)) (.val (.int .i64 b)):=h▸Zd.refl _
theorem Zd.b {a b:Bool} (h:a=b):Zd (.val (.bool a)) (.val (.bool b)):=h▸Zd.refl _
inductive Vk:List AV->List AV->Prop
 | nil:Vk [] []
 | cons {x y:AV} {xs ys:List AV} (h:Zd x y) (t:Vk xs ys):Vk (x::xs) (y::ys)
theorem Vk.refl:∀(xs:List AV),Vk xs xs
 | []=>.nil
 | x::xs=>.cons (Zd.refl x) (Vk.refl xs)
theorem Vk.cs {w:World} {G:Yg}:∀{xs ys:List AV} {vs:List Value},Vk xs ys->YT w G xs vs->YT w G ys vs
 | _,_,_,.nil,.nil=>.nil
 | _,_,_,.cons h t,.cons a b=>.cons (h _ _ _ a) (t.cs b)
theorem Vk.mem {w:World} {G:Yg}:∀{xs ys:List AV} {b o:Nat},Vk xs ys->Wr w G b o xs->Wr w G b o ys
 | _,_,_,_,.nil,.nil=>.nil
 | _,_,_,_,.cons h t,.cons a1 a2 a3 a4=>.cons a1 a2 (h _ _ _ a3) (t.mem a4)
theorem Zd.agg {xs ys:List AV} (h:Vk xs ys):Zd (.agg xs) (.agg ys):=fun _ _ _ hv=>by
 cases hv with
 | agg hc=>exact .agg (h.cs hc)
theorem Zd.tup {xs ys:List AV} (h:Vk xs ys):Zd (.tup xs) (.tup ys):=fun _ _ _ hv=>by
 cases hv with
 | tup hc=>exact .tup (h.cs hc)
theorem Zd.rp {xs ys:List AV} (h:Vk xs ys):Zd (.rp xs) (.rp ys):=fun _ _ _ hv=>by
 cases hv with
 | rp hc=>exact .rp (h.mem hc)
mutual
def AV.like:AV->AV->AV
 | .sl es hv,y=>match y with | .sl _ none=>.sl es none | _=>.sl es hv
 | .agg ls,y=>match y with | .agg ms=>.agg (Bc ls ms) | _=>.agg ls
 | .rp ls,y=>match y with | .rp ms=>.rp (Bc ls ms) | _=>.rp ls
 | .tup ls,y=>match y with | .tup ms=>.tup (Bc ls ms) | _=>.tup ls
 | .any,_=>.any
 | .val v,y=>match y with | .any=>.any | _=>.val v
def Bc:List AV->List AV->List AV
 | [],_=>[]
 | x::xs,ys=>match ys with | y::ys=>x.like y::Bc xs ys | []=>x::xs
end
mutual
theorem AV.like_le:∀(x y:AV),Zd x (x.like y)
 | .sl es hv,y=>by
  cases y with
  | sl es' hv'=>cases hv'<;>simp only [AV.like]<;>first | exact Zd.forget es hv | exact Zd.refl _
  | _=>simp only [AV.like];exact Zd.refl _
 | .agg ls,y=>by
  cases y with
  | agg ms=>simp only [AV.like];exact Zd.agg (FX ls ms)
  | _=>simp only [AV.like];exact Zd.refl _
 | .rp ls,y=>by
  cases y with
  | rp ms=>simp only [AV.like];exact Zd.rp (FX ls ms)
  | _=>simp only [AV.like];exact Zd.refl _
 | .tup ls,y=>by
  cases y with
  | tup ms=>simp only [AV.like];exact Zd.tup (FX ls ms)
  | _=>simp only [AV.like];exact Zd.refl _
 | .any,y=>by simp only [AV.like];exact Zd.refl _
 | .val v,y=>by
  cases y with
  | any=>simp only [AV.like];exact Zd.any _
  | _=>simp only [AV.like];exact Zd.refl _
theorem FX:∀(xs ys:List AV),Vk xs (Bc xs ys)
 | [],ys=>by simp only [Bc];exact .nil
 | x::xs,ys=>by
  cases ys with
  | nil=>simp only [Bc];exact Vk.refl _
  | cons y ys=>simp only [Bc];exact .cons (AV.like_le x y) (FX xs ys)
end
theorem Ny {F F':Fr} (h:F'.map (fun p=>(F.get p.1).like p.2)=F'.map (·.2)):F.Le F':=by
 induction F' with
 | nil=>exact Z49 F
 | cons p r ih=>
  simp only [T6,List.cons.injEq] at h
  refine CW rfl ?_ (ih h.2)
  have:=AV.like_le (F.get p.1) p.2
  rwa [h.1] at this
structure Ta (F:Fr) (h:List Res) (F':Fr) (h':List Res):Prop where
 fr:F.Le F'
 res:∃d,h.Perm (h'++d)
theorem YE.weak {w:World} {G:Yg} {h':List Res} (hh:YE w G h) (hw:∃d,h.Perm (h'++d)):YE w G h':=by
 obtain ⟨d,hp⟩:=hw
 exact (hh.perm hp).left
theorem X1.weak_left {w w':World} {G G':Yg} {h' k:List Res} (hw:∃d,h.Perm (h'++d)) (e:X1 w G h' w' G' k):X1 w G h w' G' k:=by
 obtain ⟨d,hp⟩:=hw
 have hs:∀b o,Vh h' b o->Vh h b o:=fun b o hf=>(C1 hp).2 (B6.2 (.inl hf))
 exact ⟨e.os,e.tape,e.output,e.size,e.sub,fun b hb=>(e.same b hb).mono fun _ ho=>hs _ _ ho,fun b o hb hg=>(e.newG b o hb hg).imp id (hs b o),fun b o hb hf=>hs b o (e.newfp b o hb hf)⟩
theorem Cx {F':Fr} {h':List Res} (hw:Ta F h F' h') (ha:Yx P n c A F' h'):Yx P n c A F h:=by
 intro w G a hF hh
 refine wp_mono (ha w G a (hF.le hw.fr) (hh.weak hw.res)) ?_
 intro e a' w' ⟨F2,h2,G2,b1,b2,b3,b4⟩
 exact ⟨F2,h2,G2,b1,b2,b3,b4.weak_left hw.res⟩
theorem Gt {F':Fr} {h':List Res} (hw:Ta F h F' h') (ha:QU P n ops B l F' h'):QU P n ops B l F h:=by
 intro Q w G a hF hh hk
 exact ha Q w G a (hF.le hw.fr) (hh.weak hw.res) fun F2 h2 G2 a2 w2 b1 b2 b3 b4=>hk F2 h2 G2 a2 w2 b1 b2 b3 (b4.weak_left hw.res)
theorem M7 {A':WQ} (hA:∀e F h,A e F h->A' e F h) (ha:Yx P n c A F h):Yx P n c A' F h:=by
 intro w G a hF hh
 exact wp_mono (ha w G a hF hh) fun e a' w' hc=>hc.mono hA
@[reducible] def Bt (P:Program) (n:Nat) (y:Code) (A:WQ):WQ:=fun e F h=>
 match e with
 | .normal=>Yx P n y A F h
 | e=>A e F h
@[reducible] def EY (id:Nat) (A:WQ):WQ:=fun e F h=>
 match e with
 | .exit i=>match Nat.beq i id with
  | true=>A .normal F h
  | false=>A (.exit i) F h
 | e=>A e F h
@[reducible] def IT (Inv:Nat->Fr->List Res->Prop) (m:Nat) (A:WQ):WQ:=fun e F h=>
 match e with
 | .normal=>∃m' F' h',m'<m/\Inv m' F' h'/\Ta F h F' h'
 | e=>A e F h
theorem H9 (hk:X9 c=3) (ha:Yx P n (YL c) (Bt P n (VN c) A) F h):Yx P n c A F h:=by
 rw [Z0x hk]
 intro w G a hF hh
 refine wp_seq (wp_mono (ha w G a hF hh) ?_)
 intro e a' w' ⟨F',h',G',h1,h2,h3,h4⟩
 cases e with
 | normal=>exact wp_mono (h1 w' G' a' h2 h3) fun e a2 w2 hc=>hc.trans h4
 | exit id=>exact ⟨F',h',G',h1,h2,h3,h4⟩
 | goto l=>exact ⟨F',h',G',h1,h2,h3,h4⟩
 | ret=>exact ⟨F',h',G',h1,h2,h3,h4⟩
 | panic ch=>exact ⟨F',h',G',h1,h2,h3,h4⟩
 | outgrown=>exact ⟨F',h',G',h1,h2,h3,h4⟩
theorem M8 (hk:X9 c=1) (hs:QU P n (XH c) (A .normal) (XH c).toList F h):Yx P n c A F h:=by
 rw [Z0v hk]
 intro w G a hF hh
 exact wp_region_list (hs _ w G a hF hh fun F' h' G' a' w' b1 b2 b3 b4=>⟨F',h',G',b1,b2,b3,b4⟩)
theorem SR (hk:X9 c=3) (hk1:X9 (YL c)=1) (hs:QU P n (XH (YL c)) (fun F h=>Yx P n (VN c) A F h) (XH (YL c)).toList F h):Yx P n c A F h:=
 H9 hk (M8 hk1 hs)
theorem SX (hk:X9 c=0) (h0:A .normal F h):Yx P n c A F h:=by
 rw [Z0u hk]
 intro w G a hF hh
 exact wp_skip ⟨F,h,G,h0,hF,hh,X1.refl _ _ _⟩
theorem SP (id:Nat) (hk:X9 c=7) (hi:QX c=id) (h0:A (.exit id) F h):Yx P n c A F h:=by
 subst hi
 rw [Z11 hk]
 intro w G a hF hh
 exact wp_exit ⟨F,h,G,h0,hF,hh,X1.refl _ _ _⟩
theorem SU (hk:X9 c=8) (h0:A .ret F h):Yx P n c A F h:=by
 rw [Z12 hk]
 intro w G a hF hh
 exact wp_ret ⟨F,h,G,h0,hF,hh,X1.refl _ _ _⟩
theorem H8 {b:Bool} {p:Prop} (hk:X9 c=4) (hc:F.ev (Ad c)=.val (.bool b)) (hp:b=true↔p) (h1:p->Yx P n (YL c) A F h) (h2:¬p->Yx P n (VN c) A F h) :
  Yx P n c A F h:=by
 rw [Z0y hk]
 intro w G a hF hh
 have hv:=hF.ev (Ad c)
 rw [hc] at hv
 exact wp_cond_split hv.val_inv (fun e=>h1 (hp.1 e) w G a hF hh) fun e=>h2 (fun q=>by have:=hp.2 q;rw [e] at this;cases this) w G a hF hh
theorem SM (id:Nat) (hk:X9 c=5) (hi:QX c=id) (ha:Yx P n (YL c) (EY id A) F h):Yx P n c A F h:=by
 subst hi
 rw [Z0z hk]
 intro w G a hF hh
 refine wp_block (wp_mono (ha w G a hF hh) ?_)
 intro e a' w' ⟨F',h',G',h1,h2,h3,h4⟩
 cases e with
 | normal=>exact ⟨F',h',G',h1,h2,h3,h4⟩
 | exit id=>
  simp only [Exit.inBlock]
  by_cases hid:id=QX c
  ·subst hid
   rw [Zk rfl]
   have hb:Nat.beq (QX c) (QX c)=true:=Nat.beq_refl _
   simp only [EY,hb] at h1
   exact ⟨F',h',G',h1,h2,h3,h4⟩
  ·rw [Za hid]
   have hb:Nat.beq id (QX c)=false:=by
    cases hq:Nat.beq id (QX c)
    ·rfl
    ·exact absurd (T7 hq) hid
   simp only [EY,hb] at h1
   exact ⟨F',h',G',h1,h2,h3,h4⟩
 | goto l=>exact ⟨F',h',G',h1,h2,h3,h4⟩
 | ret=>exact ⟨F',h',G',h1,h2,h3,h4⟩
 | panic ch=>exact ⟨F',h',G',h1,h2,h3,h4⟩
 | outgrown=>exact ⟨F',h',G',h1,h2,h3,h4⟩
theorem Ee (p:Nat->Prop) (h:∃n,p n):∃n,p n/\∀m,p m->n<=m:=by
 obtain ⟨k,hk⟩:=h
 induction k using Nat.strongRecOn with
 | _ k ih=>
  by_cases hx:∃m,m<k/\p m
  ·obtain ⟨m,h1,h2⟩:=hx
   exact ih m h1 h2
  ·refine ⟨k,hk,fun m hm=>?_⟩
   rcases EN m k with h|h
   ·exact absurd ⟨m,h,hm⟩ hx
   ·exact h
open Classical in
theorem SQ (Inv:Nat->Fr->List Res->Prop) {m0:Nat} {F0:Fr} {h0:List Res} (hk:X9 c=6) (hi:Inv m0 F0 h0) (hw:Ta F h F0 h0)
  (hr:∀m F h,Inv m F h->Yx P n (YL c) (IT Inv m A) F h):Yx P n c A F h:=by
 refine Cx hw ?_
 rw [Z10 hk]
 intro w G a hF hh
 let J:Nat->Act->World->Prop:=fun m a' w'=>∃F' h' G',Inv m F' h'/\FR w' G' n F' a'/\YE w' G' h'/\X1 w G h0 w' G' h'
 let mu:Act->World->Nat:=fun a' w'=>if hx:∃m,J m a' w' then Classical.choose (Ee (fun m=>J m a' w') hx) else 0
 refine wp_loop (fun a' w'=>∃m,J m a' w') mu ⟨m0,F0,h0,G,hi,hF,hh,X1.refl _ _ _⟩ ?_
 intro a1 w1 hx
 have hsp:=Classical.choose_spec (Ee (fun m=>J m a1 w1) hx)
 have hmu:mu a1 w1=Classical.choose (Ee (fun m=>J m a1 w1) hx):=dif_pos hx
 rw [<-hmu] at hsp
 obtain ⟨⟨F1,h1,G1,i1,i2,i3,i4⟩,_⟩:=hsp
 refine wp_mono (hr _ F1 h1 i1 w1 G1 a1 i2 i3) ?_
 intro e a' w' ⟨F',h',G',k1,k2,k3,k4⟩
 have keep:∀{e},A e F' h'->A7 n A w G h0 e a' w':=fun hA=>⟨F',h',G',hA,k2,k3,i4.trans k4⟩
 cases e with
 | normal=>
  obtain ⟨m',F2,h2,j1,j2,j3⟩:=k1
  have hj:J m' a' w':=by
   refine ⟨F2,h2,G',j2,k2.le j3.fr,k3.weak j3.res,i4.trans ?_⟩
   obtain ⟨d,hp⟩:=j3.res
   have hsub:∀b o,Vh h2 b o->Vh h' b o:=fun b o hf=>(C1 hp).2 (B6.2 (.inl hf))
   exact ⟨k4.os,k4.tape,k4.output,k4.size,k4.sub,k4.same,k4.newG,fun b o hb hf=>k4.newfp b o hb (hsub b o hf)⟩
  have hx':∃m,J m a' w':=⟨m',hj⟩
  refine ⟨hx',?_⟩
  show mu a' w'<mu a1 w1
  have hsp':=Classical.choose_spec (Ee (fun m=>J m a' w') hx')
  rw [show mu a' w'=Classical.choose (Ee (fun m=>J m a' w') hx') from dif_pos hx']
  exact Nat.lt_of_le_of_lt (hsp'.2 m' hj) j1
 | exit id=>exact keep k1
 | goto l=>exact keep k1
 | ret=>exact keep k1
 | panic ch=>exact keep k1
 | outgrown=>exact keep k1
end
def BH:Nat->List AV->Fr
 | _,[]=>[]
 | i,x::xs=>(i,x)::BH (i+1) xs
theorem Md {w:World} {G:Yg}:∀{xs:List AV} {vs:List Value} (i t:Nat) (tl:List Value),YT w G xs vs->RV w G ((BH i xs).get (i+t)) ((vs++tl).getD t undef)
 | _,_,i,t,tl,.nil=>.any
 | _,_,i,0,tl,.cons (x:=x) (xs:=xs) h hr=>by
  show RV w G (match Nat.beq i (i+0) with|true=>x|false=>Fr.get (BH (i+1) xs) (i+0)) _
  have:Nat.beq i (i+0)=true:=Nat.beq_refl i
  rw [this]
  simpa using h
 | _,_,i,t+1,tl,.cons (x:=x) (xs:=xs) h hr=>by
  show RV w G (match Nat.beq i (i+(t+1)) with|true=>x|false=>Fr.get (BH (i+1) xs) (i+(t+1))) _
  have hb:Nat.beq i (i+(t+1))=false:=by
   cases hq:Nat.beq i (i+(t+1))
   ·rfl
   ·have:=T7 hq;omega
  rw [hb]
  have:=Md (i+1) t tl hr
  rw [show i+1+t=i+(t+1) from by omega] at this
  simpa using this
def QK (P:Program) (F:Fr) (h:List Res):List ResultVar->List Nat->Option (List AV × List (Nat × Nat))
 | [],_=>some ([],[])
 | .tmp t::r,hints=>match QK P F h r hints with
  | some (xs,es)=>some (F.get t::xs,es)
  | none=>none
 | .cell t ty::r,hints=>match F.get t with
  | .val (.pointer (some ⟨b,o,none⟩))=>match h[hints.headD 0]? with
   | some (.obj b' ls)=>match Ay P ty (ls.drop o) with
    | some x=>match QK P F h r hints.tail with
     | some (xs,es)=>some (x::xs,(b,b')::es)
     | none=>none
    | none=>none
   | _=>none
  | _=>none
def AC:List AV->AV
 | [x]=>x
 | xs=>.tup xs
theorem Z0n (a:Addr):asAddr (.pointer (some a))=pure a:=rfl
theorem Lb {P:Program} {w:World} {G:Yg} {n:Nat} {F:Fr} {h:List Res} {a:Act} (hF:FR w G n F a) (hh:YE w G h) :
  ∀{rs:List ResultVar} {hints:List Nat} {xs:List AV} {es:List (Nat × Nat)},QK P F h rs hints=some (xs,es)->(∀p∈es,p.1=p.2) ->
  ∃vs,YT w G xs vs/\(List.mapM (m:=Sem) (fun r=>match r with|.tmp t=>pure (a.tmps.getD t undef)|.cell b t=>do loadVar t (<-asAddr (a.tmps.getD b undef))) rs).run P w=.ok vs w
 | [],hints,xs,es,he,_=>by
  simp only [QK,Wv,Prod.mk.injEq] at he
  obtain ⟨rfl,rfl⟩:=he
  exact ⟨[],.nil,by simp⟩
 | .tmp t::r,hints,xs,es,he,heq=>by
  simp only [QK] at he
  cases hr:QK P F h r hints with
  | none=>rw [hr] at he;cases he
  | some y=>
   obtain ⟨ys,es2⟩:=y
   rw [hr] at he
   simp only [Wv,Prod.mk.injEq] at he
   obtain ⟨rfl,rfl⟩:=he
   obtain ⟨vs,h1,h2⟩:=Lb hF hh hr heq
   refine ⟨a.tmps.getD t undef::vs,.cons (hF.get t) h1,?_⟩
   simp only [List.mapM_cons,Sem.run_bind,Sem.run_pure,Result.andThen_ok,h2]
 | .cell t ty::r,hints,xs,es,he,heq=>by
  simp only [QK] at he
  split at he
  ·rename_i b off hg
   split at he
   ·rename_i b' ls hl
    split at he
    ·rename_i x hx
     split at he
     ·rename_i ys es2 hr
      simp only [Wv,Prod.mk.injEq] at he
      obtain ⟨rfl,rfl⟩:=he
      have hbb:b=b':=heq (b,b') (by simp)
      subst hbb
      obtain ⟨vs,h1,h2⟩:=Lb hF hh hr fun p hp=>heq p (by simp [hp])
      have hv:=hF.get t
      rw [hg] at hv
      have hv:=hv.val_inv
      obtain ⟨cs,e,k1,k2⟩:=hh.ok _ (Y2 hl)
      obtain ⟨v,j1,j2⟩:=Gr (P:=P) (b:=b) (o:=off) hx (k2.drop off)
      have j3:=j2 w fun j u hj=>by
       rw [cell_of_row w b (off+j) cs e (0,0) k1]
       simpa using hj
      refine ⟨v::vs,.cons j1 h1,?_⟩
      simp only [List.mapM_cons,Sem.run_bind,Sem.run_pure,Result.andThen_ok,hv,Z0n,j3,h2]
     ·cases he
    ·cases he
   ·cases he
  ·cases he
def AR (P:Program) (fn:Func) (R:AV->List Res->Prop):WQ:=fun e F h=>
 (e=.normal∨e=.ret)/\∃hints xs es h' r,QK P F h fn.results.toList hints=some (xs,es)/\(∀p∈es,p.1=p.2)/\(∃d,h.Perm (h'++d))/\Zd (AC xs) r/\R r h'
theorem L7 {P:Program} {fn:Func} {R:AV->List Res->Prop} {F:Fr} {h h':List Res} {e:Exit} (he:(match e with|.normal|.ret=>true|_=>false)=true) (hints:List Nat) {xs:List AV}
  {es:List (Nat × Nat)} {r:AV} (hr:QK P F h fn.results.toList hints=some (xs,es)) (heq:∀p∈es,p.1=p.2) (hw:∃d,h.Perm (h'++d)) (hle:Zd (AC xs) r) (hR:R r h'):AR P fn R e F h:=
 ⟨by cases e<;>first|exact .inl rfl|exact .inr rfl|(cases he),hints,xs,es,h',r,hr,heq,hw,hle,hR⟩
theorem Za1 {P:Program} {fn:Func} {tmps:Array Value} {w:World} {vs:List Value}
  (h:(List.mapM (m:=Sem) (fun r=>match r with|.tmp t=>pure (tmps.getD t undef)|.cell b t=>do loadVar t (<-asAddr (tmps.getD b undef))) fn.results.toList).run P w=.ok vs w) :
  (results fn tmps).run P w=.ok (if h:vs.toArray.size=1 then vs.toArray[0] else .tuple vs.toArray) w:=by
 unfold results
 rw [Array.mapM_eq_mapM_toList]
 simp only [Sem.run_bind,Sem.run_map,Sem.run_pure]
 exact Yp (fun r=>(Result.andThen (Result.andThen r fun a w'=>Result.ok a.toArray w') fun a w'=>Result.ok (if h:a.size=1 then a[0] else Value.tuple a) w')) h
theorem enter {P:Program} {f:FuncId} {fn:Func} {xs:List AV} {h:List Res} {R:AV->List Res->Prop} {n:Nat} (hf:P.funcs[f]? = some fn) (hb:fn.body.isSome=true) (hn:fn.ntmps=n)
  (hle:Nat.ble xs.length n=true) (ha:Yx P n (F7 fn) (AR P fn R) (BH 0 xs) h):WP P f xs h R:=by
 intro w G vs hvs hh
 have hbody:fn.body=some (F7 fn):=by
  unfold F7
  cases hq:fn.body with
  | none=>simp [hq] at hb
  | some c=>rfl
 have hlen:=hvs.length
 have hle:=V2 hle
 refine calls_of_wp hf hbody ?_
 have hF:FR w G n (BH 0 xs) { tmps:=vs.toArray++Array.replicate (fn.ntmps-vs.toArray.size) undef,defers:=[] }:=by
  refine ⟨rfl,by simp [hn,hlen];omega,fun t=>?_⟩
  have:=Md (w:=w) (G:=G) 0 t (List.replicate (fn.ntmps-vs.toArray.size) undef) hvs
  rw [Wh] at this
  have e:(vs.toArray++Array.replicate (fn.ntmps-vs.toArray.size) undef).getD t undef=(vs++List.replicate (fn.ntmps-vs.toArray.size) undef).getD t undef:=by
   simp [Array.getElem?_append,List.getElem?_append,List.getElem?_replicate,Array.getElem?_replicate]
  rw [e]
  exact this
 refine wp_mono (ha w G _ hF hh) ?_
 intro e a w' ⟨F',h',G',hA,k1,k2,k3⟩
 obtain ⟨he,hints,ys,es,h2,r,hr,heq,hwk,hle,hR⟩:=hA
 obtain ⟨us,u1,u2⟩:=Lb k1 k2 hr heq
 have hres:=Za1 u2
 have hval:RV w' G' (AC ys) (if h:us.toArray.size=1 then us.toArray[0] else .tuple us.toArray):=by
  cases u1 with
  | nil=>simp [AC];exact .tup (cs:=[]) .nil
  | cons a1 a2=>
   cases a2 with
   | nil=>simpa [AC] using a1
   | cons b1 b2=>simpa [AC] using RV.tup (.cons a1 (.cons b1 b2))
 obtain ⟨d,hp⟩:=hwk
 have k2':=(k2.perm hp).left
 have k3':X1 w G h w' G' h2:=(k3.perm (Tu _) hp).sub' (List.sublist_append_left _ _)
 rcases he with rfl|rfl
 ·exact ⟨k1.defers,_,hres,_,_,h2,G',rfl,hR,hle _ _ _ hval,k2',k3'⟩
 ·exact ⟨k1.defers,_,hres,_,_,h2,G',rfl,hR,hle _ _ _ hval,k2',k3'⟩
def Al (ops:Array Oper) (j i:Nat):Bool:=
 match ops[j]? with
 | some o=>o.after.any fun e=>Region.binds .any e&&e.on==i
 | none=>false
inductive Kk (ops:Array Oper):Nat->Nat->Prop
 | one {j i} (h:Al ops j i=true):Kk ops j i
 | more {j m i} (h:Al ops j m=true) (t:Kk ops m i):Kk ops j i
def Gi (ops:Array Oper):Nat->Nat->Nat->Bool
 | 0,j,i=>Al ops j i
 | f+1,j,i=>match ops[j]? with
  | some o=>o.after.any fun e=>Region.binds .any e&&(e.on==i||(Nat.ble i e.on&&Gi ops f e.on i))
  | none=>false
def Vf (ops:Array Oper) (j i:Nat):Bool:=Gi ops 9 j i
theorem MZ {ops:Array Oper} {j:Nat} {o:Oper} {e:Edge} (ho:ops[j]? = some o) (he:e∈o.after) (hb:Region.binds .any e=true):Al ops j e.on=true:=by
 unfold Al
 rw [ho]
 simp only [Array.any_eq_true',Xo,Zf]
 exact ⟨e,he,hb,rfl⟩
theorem PF {ops:Array Oper}:∀{f j i:Nat},Gi ops f j i=true->Kk ops j i
 | 0,j,i,h=>.one h
 | f+1,j,i,h=>by
  rw [Gi] at h
  split at h
  ·rename_i o ho
   simp only [Array.any_eq_true',Xo,Bool.or_eq_true,Zf] at h
   obtain ⟨e,he,hb,h1|⟨_,h1⟩⟩:=h
   ·exact .one (h1▸MZ ho he hb)
   ·exact .more (MZ ho he hb) (PF h1)
  ·cases h
theorem Z0t {ops:Array Oper} {j i:Nat} (h:Vf ops j i=true):Kk ops j i:=PF h
def A6 (ops:Array Oper) (listed:Array Bool):Prop:=∀m i,listed.getD m false=true->Al ops m i=true->listed.getD i false=true
theorem A6.bef {ops:Array Oper} {listed:Array Bool} (hc:A6 ops listed) {j i:Nat} (hb:Kk ops j i):listed.getD j false=true->listed.getD i false=true:=by
 induction hb with
 | one h=>exact fun hj=>hc _ _ hj h
 | more h _ ih=>exact fun hj=>ih (hc _ _ hj h)
theorem HS {ops:Array Oper} {listed:Array Bool} {j i:Nat} (hj:j∈Region.ready .any ops listed) (h:Al ops j i=true):listed.getD i false=true:=by
 obtain ⟨_,o,ho,hall⟩:=mem_ready.1 hj
 simp only [Al,ho] at h
 obtain ⟨e,he,hb⟩:=Array.any_eq_true'.1 h
 simp only [Xo,Zf] at hb
 exact hb.2▸hall e he hb.1
theorem Z8o {ops:Array Oper} {listed:Array Bool} {j i:Nat} (hc:A6 ops listed) (hj:j∈Region.ready .any ops listed) (hi:listed.getD i true=false):¬Kk ops j i:=by
 intro hb
 have hi':listed.getD i false=false:=by
  cases hq:listed.getD i false
  ·rfl
  ·rcases EN i listed.size with h|h
   ·simp [h] at hi hq;rw [hi] at hq;cases hq
   ·simp [Array.getElem?_eq_none h] at hi
 have hl:listed.getD i false=true:=by
  cases hb with
  | one h=>exact HS hj h
  | more h t=>exact hc.bef t (HS hj h)
 rw [hi'] at hl
 cases hl
theorem A6.add {ops:Array Oper} {listed:Array Bool} {j:Nat} (hc:A6 ops listed) (hj:j∈Region.ready .any ops listed):A6 ops (listed.setIfInBounds j true):=by
 intro m i hm he
 by_cases hmj:m=j
 ·subst hmj
  exact getD_set_true (HS hj he)
 ·rw [getD_set_ne false (Ne.symm hmj)] at hm
  exact getD_set_true (hc m i hm he)
abbrev DH:=Nat × (World->Prop)->Prop
def Cr (P:Program) (ops:Array Oper) (Q:Exit->Act->World->Prop):Nat->DH->Array Bool->Act->World->Prop
 | 0,_,listed,a,w=>Region.ready .any ops listed=[]/\Q .normal a w
 | fuel+1,T,listed,a,w=>
  (Region.ready .any ops listed=[]->Q .normal a w) /\
  ∀i∈Region.ready .any ops listed,wpOp P ops Q i (fun a' w'=>(∀p,T p->¬Kk ops i p.1->p.2 w') /\
   Cr P ops Q fuel (fun p=>T p/\¬Kk ops i p.1) (listed.setIfInBounds i true) a' w') a w
section
variable {P:Program} {ops:Array Oper} {Q:Exit->Act->World->Prop} {S:World->Prop}
theorem St:∀(fuel:Nat) (T:DH) (listed:Array Bool) (a:Act) (w:World),Cr P ops Q fuel T listed a w->wpAny P .any ops Q fuel listed a w
 | 0,_,_,_,_,h=>h
 | fuel+1,_,_,_,_,h=>⟨h.1,fun i hi=>wpOp_mono (fun _ _ h'=>St fuel _ _ _ _ h'.2) (h.2 i hi)⟩
theorem LV:∀(fuel:Nat) {T T':DH} (listed:Array Bool) (a:Act) (w:World),(∀p,T' p->T p)->Cr P ops Q fuel T listed a w->Cr P ops Q fuel T' listed a w
 | 0,_,_,_,_,_,_,h=>h
 | fuel+1,_,_,_,_,_,hT,h=>⟨h.1,fun i hi=>wpOp_mono (fun _ _ h'=>⟨fun p hp=>h'.1 p (hT p hp),LV fuel _ _ _ (fun p hp=>⟨hT p hp.1,hp.2⟩) h'.2⟩) (h.2 i hi)⟩
theorem Zed {i:Nat} {oi:Oper} {v:Value} (hi:ops[i]? = some oi) (hsel:∀(j:Nat) (o:Oper) cs b,ops[j]? = some o->o.op≠.select cs b)
  (hQ:∀c a w,¬Q (.panic c) a w) :
  ∀(fuel:Nat) (T:DH) (listed:Array Bool) (a:Act) (w:World),A6 ops listed ->
   (∀j oj,ops[j]? = some oj->j≠i->listed.getD j true=false->(∀e∈oj.after,Region.binds .any e=true->e.on≠i)->oi.apart ops oj=true) ->
   i∈Region.ready .any ops listed->YieldsIf P ops S oi v a->S w->(∀p,T p->p.2 w) ->
   Cr P ops Q fuel (fun p=>T p∨p=(i,S)) (listed.setIfInBounds i true) (a.put oi.dst v) w->Cr P ops Q (fuel+1) T listed a w:=by
 intro fuel
 have hQ':∀c a w,Q (.panic c) (a.put oi.dst v) w->Q (.panic c) a w:=fun c a w h=>(hQ c _ w h).elim
 induction fuel with
 | zero=>
  intro T listed a w _ hfree hr hy hS hT H
  refine ⟨fun h=>(by rw [h] at hr;cases hr),fun j hj=>?_⟩
  by_cases hji:j=i
  ·subst hji
   exact hy.wpOp hi hS ⟨fun p hp _=>hT p hp,H⟩
  ·have:=ready_mono hj hji
   rw [H.1] at this
   cases this
 | succ fuel ih=>
  intro T listed a w hcl hfree hr hy hS hT H
  refine ⟨fun h=>(by rw [h] at hr;cases hr),fun j hj=>?_⟩
  by_cases hji:j=i
  ·subst hji
   exact hy.wpOp hi hS ⟨fun p hp _=>hT p hp,LV (fuel+1) _ _ _ (fun p hp=>.inl hp.1) H⟩
  ·have h1:=H.2 j (ready_mono hj hji)
   obtain ⟨hjun,oj,hoj,hall⟩:=mem_ready.1 hj
   have hiun:=(mem_ready.1 hr).1
   have hnb:¬Kk ops j i:=Z8o hcl hj hiun
   have hnot:∀e∈oj.after,Region.binds .any e=true->e.on≠i:=fun e he hb heq=>
    hnb (.one (by simp only [Al,hoj];exact Array.any_eq_true'.2 ⟨e,he,by simp [hb,heq]⟩))
   have h2:=wpOp_putIf hoj (hfree j oj hoj hji hjun hnot) (fun cs b=>hsel i oi cs b hi) (fun cs b=>hsel j oj cs b hoj) hQ' hy h1
   have hfree':∀k ok,ops[k]? = some ok->k≠i->(listed.setIfInBounds j true).getD k true=false ->
     (∀e∈ok.after,Region.binds .any e=true->e.on≠i)->oi.apart ops ok=true:=fun k ok hk hki hun Il=>by
    refine hfree k ok hk hki ?_ Il
    by_cases hjk:j=k
    ·subst hjk;exact hjun
    ·rw [getD_set_ne true hjk] at hun;exact hun
   refine wpOp_mono (fun a' w' h3=>?_) h2
   obtain ⟨hy',hT',hrest⟩:=h3
   have hTp:∀p,T p/\¬Kk ops j p.1->p.2 w':=fun p hp=>hT' p (.inl hp.1) hp.2
   refine ⟨fun p hp hb=>hTp p ⟨hp,hb⟩,ih _ (listed.setIfInBounds j true) a' w' (hcl.add hj) hfree' (ready_mono hr (Ne.symm hji)) hy' (hT' (i,S) (.inr rfl) hnb) hTp ?_⟩
   rw [Array.setIfInBounds_comm _ _ hji]
   refine LV fuel _ _ _ (fun p hp=>?_) hrest
   rcases hp with hp|rfl
   ·exact ⟨.inl hp.1,hp.2⟩
   ·exact ⟨.inr rfl,hnb⟩
end
def WF (ops:Array Oper) (done:List Nat):Array Bool:=done.foldl (fun l i=>l.setIfInBounds i true) (Array.replicate ops.size false)
theorem FZ (ops:Array Oper) (done:List Nat) (i:Nat):WF ops (done++[i])=(WF ops done).setIfInBounds i true:=by simp [WF]
theorem Z17 (ops:Array Oper):A6 ops (WF ops []):=by
 intro m i hm _
 simp only [WF,List.foldl_nil] at hm
 by_cases h:m<ops.size
 ·simp [h] at hm
 ·simp [h] at hm
def X3 (P:Program) (n:Nat) (ops:Array Oper) (B:Fr->List Res->Prop) (T:List (Nat × List Nat)) (fuel:Nat) (done:List Nat) (F:Fr) (h:List Res):Prop:=
 ∀(Q:Exit->Act->World->Prop) w G a (SL:DH),FR w G n F a->YE w G h->(∀c a w,¬Q (.panic c) a w)->A6 ops (WF ops done) ->
  (∀p,SL p->∃t∈T,t.1=p.1/\∀w',(∀b o,G b o->w'.cell? ⟨b,o,none⟩=w.cell? ⟨b,o,none⟩)->(∀b∈t.2,w'.heap[b]? = w.heap[b]?)->p.2 w') ->
  (∀F' h' G' a' w',B F' h'->FR w' G' n F' a'->YE w' G' h'->X1 w G h w' G' h'->Q .normal a' w')->Cr P ops Q fuel SL (WF ops done) a w
section
variable {P:Program} {n:Nat} {ops:Array Oper} {B:Fr->List Res->Prop} {T:List (Nat × List Nat)} {fuel:Nat} {done:List Nat} {F:Fr} {h:List Res}
theorem Z20 (hr:Region.ready .any ops (WF ops done)=[]) (hB:B F h):X3 P n ops B T fuel done F h:=by
 intro Q w G a SL hF hh _ _ _ hk
 have hq:=hk F h G a w hB hF hh (X1.refl _ _ _)
 cases fuel with
 | zero=>exact ⟨hr,hq⟩
 | succ f=>exact ⟨fun _=>hq,by rw [hr];simp⟩
def KH (P:Program) (n:Nat) (ops:Array Oper) (h:List Res):List Nat->List Nat->Fr->List Nat->Option (Fr × List (Nat × List (Nat × Nat)))
 | [],_,F,_=>some (F,[])
 | i::is,done,F,hints=>
  match ops[i]? with
  | none=>none
  | some o=>
   match VP n o&&(As n ops o&&(Region.free .any ops (WF ops done) i&&(Region.ready .any ops (WF ops done)).contains i)) with
   | false=>none
   | true=>match Kw ops F o with
    | none=>none
    | some false=>match KH P n ops h is (done++[i]) (F.put o.dst (.tup [])) hints with
     | none=>none
     | some (F',es)=>some (F',(i,[])::es)
    | some true=>match TS P o F h (hints.headD 0) with
     | none=>none
     | some (x,eqs)=>match KH P n ops h is (done++[i]) (F.put o.dst x) (match eqs with | []=>hints | _=>hints.tail) with
      | none=>none
      | some (F',es)=>some (F',(i,eqs)::es)
def Ek (es:List (Nat × List (Nat × Nat))):List (Nat × List Nat):=es.map fun e=>(e.1,e.2.map (·.1))
theorem Hz {i:Nat} {o:Oper} {ks:List Nat} {x:AV} (hs:Region.noSelect ops=true) (hi:ops[i]? = some o) (hd:VP n o=true) (hgl:As n ops o=true)
  (hf:Region.free .any ops (WF ops done) i=true) (hr:(Region.ready .any ops (WF ops done)).contains i=true)
  (hx:(Kw ops F o=some false/\x=.tup []/\ks=[])∨(Kw ops F o=some true/\XT P o F h ks x))
  (H:X3 P n ops B ((i,ks)::T) fuel (done++[i]) (F.put o.dst x) h):X3 P n ops B T (fuel+1) done F h:=by
 intro Q w G a SL hF hh hQ hcl hcov hk
 have hready:i∈Region.ready .any ops (WF ops done):=by simpa using hr
 let S:World->Prop:=fun w'=>(∀b o,G b o->w'.cell? ⟨b,o,none⟩=w.cell? ⟨b,o,none⟩)/\(∀b∈ks,w'.heap[b]? = w.heap[b]?)
 have hSL:∀p,SL p->p.2 w:=fun p hp=>by
  obtain ⟨t,_,_,h3⟩:=hcov p hp
  exact h3 w (fun _ _ _=>rfl) fun _ _=>rfl
 have key:∃v,RV w G x v/\YieldsIf P ops S o v a:=by
  rcases hx with ⟨hg,rfl,rfl⟩|⟨hg,hst⟩
  ·exact ⟨undef,.tup (cs:=[]) .nil,.inr ⟨CZ hF hgl hg,rfl⟩⟩
  ·obtain ⟨v,h1,h2⟩:=hst n w G a hF hh
   exact ⟨v,h1,.inl ⟨CZ hF hgl hg,fun w' hw'=>h2 w' hw'.1 hw'.2⟩⟩
 obtain ⟨v,hv,hy⟩:=key
 refine Zed hi (Region.noSelect_spec hs) hQ fuel SL _ a w hcl (Region.free_spec hi hf) hready hy ⟨fun _ _ _=>rfl,fun _ _=>rfl⟩ hSL ?_
 rw [<-FZ]
 refine H Q w G _ _ (hF.put (TR hd) hv) hh hQ (by rw [FZ];exact hcl.add hready) ?_ hk
 rintro p (hp|rfl)
 ·obtain ⟨t,h1,h2,h3⟩:=hcov p hp
  exact ⟨t,XE _ h1,h2,h3⟩
 ·exact ⟨(i,ks),Xm ..,rfl,fun w' h1 h2=>⟨h1,h2⟩⟩
theorem Hy:∀(is:List Nat) {T:List (Nat × List Nat)} {done:List Nat} {F F':Fr} {hints:List Nat} {es:List (Nat × List (Nat × Nat))} {fuel':Nat},Region.noSelect ops=true ->
  KH P n ops h is done F hints=some (F',es)->(∀e∈es,∀p∈e.2,p.1=p.2)->fuel'=fuel+is.length ->
  X3 P n ops B ((Ek es).reverse++T) fuel (done++is) F' h->X3 P n ops B T fuel' done F h
 | [],T,done,F,F',hints,es,fuel',_,he,_,hf,H=>by
  simp only [KH,Wv,Prod.mk.injEq] at he
  obtain ⟨rfl,rfl⟩:=he
  subst hf
  simpa [Ek] using H
 | i::is,T,done,F,F',hints,es,fuel',hs,he,heq,hf,H=>by
  simp only [KH] at he
  cases ho:ops[i]? with
  | none=>rw [ho] at he;cases he
  | some o=>
   rw [ho] at he
   simp only at he
   cases hc:VP n o&&(As n ops o&&(Region.free .any ops (WF ops done) i&&(Region.ready .any ops (WF ops done)).contains i)) with
   | false=>rw [hc] at he;cases he
   | true=>
    rw [hc] at he
    simp only [Xo] at hc
    obtain ⟨c1,c2,c3,c4⟩:=hc
    simp only at he
    have hfuel:fuel'=fuel+is.length+1:=by simp at hf;omega
    subst hfuel
    cases hg:Kw ops F o with
    | none=>rw [hg] at he;cases he
    | some b=>
     rw [hg] at he
     cases b with
     | false=>
      simp only at he
      cases hr:KH P n ops h is (done++[i]) (F.put o.dst (.tup [])) hints with
      | none=>rw [hr] at he;cases he
      | some y=>
       obtain ⟨F2,es2⟩:=y
       rw [hr] at he
       simp only [Wv,Prod.mk.injEq] at he
       obtain ⟨rfl,rfl⟩:=he
       refine Hz hs ho c1 c2 c3 c4 (.inl ⟨hg,rfl,rfl⟩) (Hy is hs hr (fun e he=>heq e (XE _ he)) rfl ?_)
       simpa [Ek] using H
     | true=>
      simp only at he
      cases hev:TS P o F h (hints.headD 0) with
      | none=>rw [hev] at he;cases he
      | some xe=>
       obtain ⟨x,eqs⟩:=xe
       rw [hev] at he
       simp only at he
       generalize (match eqs with|[]=>hints|_=>hints.tail)=hints' at he
       cases hr:KH P n ops h is (done++[i]) (F.put o.dst x) hints' with
       | none=>rw [hr] at he;cases he
       | some y=>
        obtain ⟨F2,es2⟩:=y
        rw [hr] at he
        simp only [Wv,Prod.mk.injEq] at he
        obtain ⟨rfl,rfl⟩:=he
        have hst:=CT hev (heq (i,eqs) (Xm ..))
        refine Hz hs ho c1 c2 c3 c4 (.inr ⟨hg,hst⟩) (Hy is hs hr (fun e he=>heq e (XE _ he)) rfl ?_)
        simpa [Ek] using H
def WS:List Res->List Nat
 | []=>[]
 | .obj b _::r=>b::WS r
 | .row (.slice (some a) _ _) _ _::r=>a.block::WS r
 | _::r=>WS r
theorem P1 {b:Nat}:∀{h:List Res},b∈WS h->∃r∈h,∀o,r.fp b o
 | [],hb=>by simp [WS] at hb
 | x::r,hb=>by
  have up:b∈WS r->∃q∈x::r,∀o,q.fp b o:=fun hb=>by obtain ⟨l,hl,hf⟩:=P1 (h:=r) hb;exact ⟨l,XE _ hl,hf⟩
  unfold WS at hb
  split at hb
  ·rename_i he;cases he
  ·rename_i he
   cases he
   rcases YM.1 hb with rfl|hb
   ·exact ⟨_,Xm ..,fun _=>rfl⟩
   ·exact up hb
  ·rename_i he
   cases he
   rcases YM.1 hb with rfl|hb
   ·exact ⟨_,Xm ..,fun _=>rfl⟩
   ·exact up hb
  ·rename_i he
   cases he
   exact up hb
def VL (P:Program) (n:Nat) (ops:Array Oper) (B:Fr->List Res->Prop) (T:List (Nat × List Nat)) (fuel:Nat) (done:List Nat) (F:Fr) (h:List Res) (i:Nat):Prop:=
 ∃o h1 h2,ops[i]? = some o/\Kw ops F o=some true/\As n ops o=true/\h.Perm (h1++h2) /\
  (∀t∈T,Vf ops i t.1=true∨∀b∈t.2,b∈WS h2) /\
  WK P n o F h1 fun F' h1'=>X3 P n ops B (T.filter fun t=>!Vf ops i t.1) fuel (done++[i]) F' (h1'++h2)
theorem MK {is:List Nat} (hr:Region.ready .any ops (WF ops done)=is) (hne:is.isEmpty=false) (H:∀i∈is,VL P n ops B T fuel done F h i):X3 P n ops B T (fuel+1) done F h:=by
 intro Q w G a SL hF hh hQ hcl hcov hk
 refine ⟨fun h0=>(by rw [hr] at h0;subst h0;simp at hne),fun i hi=>?_⟩
 obtain ⟨o,h1,h2,ho,hg,hgl,hp,hT,hop⟩:=H i (hr▸hi)
 have hh':=hh.perm hp
 have hw:=CZ hF hgl hg
 unfold wpOp
 simp only [ho,hw,if_true]
 refine .inl (Oper.wp_mono ?_ (hop Q w G a hF hh'.left))
 intro a' w' ⟨F',h1',G',b1,b2,b3,b4⟩
 obtain ⟨j1,j2⟩:=hh'.frame b4 b3
 have hA:=b4.agree hh'.left
 have hsame:∀b∈WS h2,w'.heap[b]? = w.heap[b]?:=fun b hb=>by
  obtain ⟨r,hl,hr⟩:=P1 hb
  exact (b4.same b ((hh'.ok r (Xj.2 (.inr hl))).lt b 0 (hr 0))).eq fun o hf=>hh'.cross hf ⟨_,hl,hr o⟩
 have hcov':∀p,SL p/\¬Kk ops i p.1->∃t∈T.filter fun t=>!Vf ops i t.1,t.1=p.1 /\
   ∀w'',(∀b o,G' b o->w''.cell? ⟨b,o,none⟩=w'.cell? ⟨b,o,none⟩)->(∀b∈t.2,w''.heap[b]? = w'.heap[b]?)->p.2 w'':=by
  rintro p ⟨hp,hb⟩
  obtain ⟨t,t1,t2,t3⟩:=hcov p hp
  have hbb:Vf ops i t.1=false:=by
   cases hq:Vf ops i t.1
   ·rfl
   ·exact absurd (t2▸Z0t hq) hb
  refine ⟨t,List.mem_filter.2 ⟨t1,by simp [hbb]⟩,t2,fun w'' c1 c2=>t3 w'' (fun b o hg=>(c1 b o (hA.sub b o hg)).trans (hA.cell b o hg)) fun b hb'=>?_⟩
  rcases hT t t1 with h|h
  ·rw [hbb] at h;cases h
  ·exact (c2 b hb').trans (hsame b (h b hb'))
 refine ⟨fun p hp hb=>?_,?_⟩
 ·obtain ⟨t,_,_,t3⟩:=hcov' p ⟨hp,hb⟩
  exact t3 w' (fun _ _ _=>rfl) fun _ _=>rfl
 ·rw [<-FZ]
  exact b1 Q w' G' a' _ b2 j1 hQ (by rw [FZ];exact hcl.add hi) hcov' fun F2 h2' G2 a2 w2 c1 c2 c3 c4=>hk F2 h2' G2 a2 w2 c1 c2 c3 ((j2.perm hp.symm (Tu _)).trans c4)
theorem Z23 {i:Nat} (hr:Region.ready .any ops (WF ops done)=[i]) (H:VL P n ops B T fuel done F h i):X3 P n ops B T (fuel+1) done F h:=
 MK hr rfl fun j hj=>by rw [Xv.1 hj];exact H
theorem HA {F':Fr} (hw:F.Le F') (H:X3 P n ops B T fuel done F' h):X3 P n ops B T fuel done F h:=by
 intro Q w G a SL hF hh hQ hcl hcov hk
 exact H Q w G a SL (hF.le hw) hh hQ hcl hcov hk
end
theorem M9 {P:Program} {n:Nat} {c:Code} {A:WQ} {F:Fr} {h:List Res} (hk:X9 c=2) (hm:P.follows .mixedOrders=true) {k:Nat} (XL:(XH c).size=k)
  (hs:X3 P n (XH c) (A .normal) [] k [] F h):Yx P n c A F h:=by
 rw [Z0w hk]
 intro w G a hF hh
 subst XL
 let Q:Exit->Act->World->Prop:=fun e a' w'=>match e with
  | .normal=>A7 n A w G h .normal a' w'
  | _=>False
 have hx:=hs Q w.drew G a (fun _=>False) (hF.mono (AT w G)) hh.drew (fun _ _ _ hq=>hq) (Z17 _) (fun p hp=>hp.elim)
  fun F' h' G' a' w' b1 b2 b3 b4=>⟨F',h',G',b1,b2,b3,(X1.drew w G h).trans b4⟩
 refine wp_mono (wp_region_any (Q:=Q) hm (St _ _ _ _ _ hx)) ?_
 intro e a' w' hq
 cases e with
 | normal=>exact hq
 | _=>exact hq.elim
theorem SS {P:Program} {n:Nat} {c:Code} {A:WQ} {F:Fr} {h:List Res} (hk:X9 c=3) (hk2:X9 (YL c)=2) (hm:P.follows .mixedOrders=true) {k:Nat}
  (XL:(XH (YL c)).size=k) (hs:X3 P n (XH (YL c)) (fun F h=>Yx P n (VN c) A F h) [] k [] F h):Yx P n c A F h:=
 H9 hk (M9 hk2 hm XL hs)
abbrev AV.i (n:Int):AV:=.val (.int .i64 n)
abbrev AV.b (b:Bool):AV:=.val (.bool b)
abbrev AV.p (b:Nat) (o:Nat):AV:=.val (.pointer (some ⟨b,o,none⟩))
abbrev AV.ms (b off len cap:Nat):AV:=.val (.slice (some ⟨b,off,none⟩) len cap)
def ZP (ops:Array Oper) (k:Nat):Oper:=ops.toList.getD k default
def Xk (n:Nat) (ops:Array Oper) (F:Fr) (k:Nat):Bool:=
 Nat.blt k ops.size&&(VP n (ZP ops k)&&(As n ops (ZP ops k)&&(match Kw ops F (ZP ops k) with|some true=>true|_=>false)))
abbrev SI (P:Program) (n:Nat) (ops:Array Oper) (B:Fr->List Res->Prop) (k:Nat) (F:Fr) (h:List Res):Prop:=QU P n ops B (ops.toList.drop k) F h
theorem Z2d {ops:Array Oper} {k:Nat} (h:k<ops.size):ops.toList.drop k=ZP ops k::ops.toList.drop (k+1):=by
 have this:k<ops.toList.length:=by simpa using h
 rw [LY this]
 simp [ZP,List.getD,h]
section
variable {P:Program} {n:Nat} {ops:Array Oper} {B:Fr->List Res->Prop} {k:Nat} {F:Fr} {h:List Res}
theorem UI (hk:Xk n ops F k=true):k<ops.size/\VP n (ZP ops k)=true/\As n ops (ZP ops k)=true/\Kw ops F (ZP ops k)=some true:=by
 simp only [Xk,Xo] at hk
 obtain ⟨h1,h2,h3,h4⟩:=hk
 refine ⟨by simpa using h1,h2,h3,?_⟩
 split at h4
 ·assumption
 ·cases h4
theorem QB (hk:Xk n ops F k=true) (ho:WK P n (ZP ops k) F h fun F' h'=>SI P n ops B (k+1) F' h'):SI P n ops B k F h:=by
 obtain ⟨h1,h2,h3,h4⟩:=UI hk
 show QU P n ops B (ops.toList.drop k) F h
 rw [Z2d h1]
 exact Zax h4 h3 ho
theorem E8 {ks:List Nat} {x:AV} (hk:Xk n ops F k=true) (hs:XT P (ZP ops k) F h ks x) (H:SI P n ops B (k+1) (F.put (ZP ops k).dst x) h):SI P n ops B k F h:=
 QB hk (hs.op (UI hk).2.1 H)
theorem Lj:∀(m:Nat) {l:List Oper} {F:Fr} {hints:List Nat} {l':List Oper} {F':Fr} {es:List (Nat × Nat)},Qh P n ops h m l F hints=some (l',F',es)->l'=l.drop m
 | 0,l,F,hints,l',F',es,he=>by
  simp only [Qh,Wv,Prod.mk.injEq] at he
  simp [he.1]
 | m+1,[],F,hints,l',F',es,he=>by simp [Qh] at he
 | m+1,o::l,F,hints,l',F',es,he=>by
  simp only [Qh] at he
  split at he
  ·cases he
  ·split at he
   ·cases he
   ·simpa using Lj m he
   ·split at he
    ·cases he
    ·split at he
     ·cases he
     ·rename_i hr
      simp only [Wv,Prod.mk.injEq] at he
      obtain ⟨rfl,_,_⟩:=he
      simpa using Lj m hr
theorem L6:∀{es:List (Nat × Nat)},es.map (·.1)=es.map (·.2)->∀p∈es,p.1=p.2
 | [],_,p,hp=>by simp at hp
 | e::es,h,p,hp=>by
  simp only [T6,List.cons.injEq] at h
  rcases YM.1 hp with rfl|hp
  ·exact h.1
  ·exact L6 h.2 p hp
theorem Z6n (x':AV) {x:AV} (hk:Xk n ops F k=true) (he:TS P (ZP ops k) F h 0=some (x,[])) (hx:Zd x x') (H:SI P n ops B (k+1) (F.put (ZP ops k).dst x') h):SI P n ops B k F h:=by
 refine E8 (ks:=[]) hk ?_ H
 have hs:=CT he (by simp)
 intro n w G a hF hh
 obtain ⟨v,h1,h2⟩:=hs n w G a hF hh
 exact ⟨v,hx _ _ _ h1,by simpa using h2⟩
theorem O8 (hk:Nat.ble ops.size k=true) (hB:B F h):SI P n ops B k F h:=by
 have:ops.toList.drop k=[]:=LZ (by simpa using V2 hk)
 show QU P n ops B (ops.toList.drop k) F h
 rw [this]
 exact Zaw hB
theorem O9 (H:SI P n ops B 0 F h):QU P n ops B ops.toList F h:=H
theorem Z6j (F':Fr) (h':List Res) (H:SI P n ops (fun F h=>Ta F h F' h') k F h) (hB:B F' h') (hB':∀F h,Ta F h F' h'->B F' h'->B F h):SI P n ops B k F h:=by
 intro Q w G a hF hh hk
 exact H Q w G a hF hh fun F2 h2 G2 a2 w2 b1 b2 b3 b4=>hk F2 h2 G2 a2 w2 (hB' _ _ b1 hB) b2 b3 b4
theorem Z6k {c:Code} {A:WQ} (F':Fr) (h':List Res) (H:SI P n ops (fun F h=>Ta F h F' h') k F h) (hB:Yx P n c A F' h'):SI P n ops (fun F h=>Yx P n c A F h) k F h:=
 Z6j F' h' H hB fun _ _ hw ha=>Cx hw ha
theorem Z6o {b:Bool} (t:Nat) (hF:F.get t=.val (.bool b)) (h1:b=true->SI P n ops B k ((t,.val (.bool true))::F) h)
  (h2:b=false->SI P n ops B k ((t,.val (.bool false))::F) h):SI P n ops B k F h:=by
 cases b with
 | true=>exact Gt ⟨CW hF (Zd.refl _) (Fr.Le.refl F),[],by simp⟩ (h1 rfl)
 | false=>exact Gt ⟨CW hF (Zd.refl _) (Fr.Le.refl F),[],by simp⟩ (h2 rfl)
theorem Y8 {b:Bool} {p:Prop} (h:b=true↔p) (hb:b=false):¬p:=fun q=>by have:=h.2 q;rw [hb] at this;cases this
theorem Aq {α:Type} {xs:List α} {j:Nat} (h:j<xs.length):∃x,xs[j]? = some x:=⟨_,Ct h⟩
theorem YI {a b:Bool} {p q:Prop} (h1:a=true↔p) (h2:b=true↔q):(a&&b)=true↔p/\q:=by rw [Xo,h1,h2]
theorem ZY {a b:Bool} {p q:Prop} (h1:a=true↔p) (h2:b=true↔q):(a||b)=true↔p∨q:=by rw [Bool.or_eq_true,h1,h2]
theorem Ys {a:Bool} {p:Prop} (h1:a=true↔p):(!a)=true↔¬p:=by rw [<-h1];cases a<;>simp
def Jw (ops:Array Oper) (F:Fr) (k:Nat):Option Int:=
 match (ZP ops k).op with
 | .binOp op _ x y _=>match F.ev x,F.ev y with
  | .val (.int .i64 a),.val (.int .i64 b)=>match op with
   | .add=>some (a+b)
   | .sub=>some (a-b)
   | .mul=>some (a*b)
   | _=>none
  | _,_=>none
 | _=>none
theorem S0 {r s:Int} (ha:Jw ops F k=some s) (hs:s=r) (hb:-9223372036854775808<=r/\r<=9223372036854775807) :
  XT P (ZP ops k) F h [] (.val (.int .i64 r)):=by
 subst hs
 unfold Jw at ha
 generalize hoo:ZP ops k=o at ha
 obtain ⟨dst,op,type,pos,after,guard⟩:=o
 cases op<;>simp only at ha<;>try (cases ha)
 rename_i bop xt x y yt
 split at ha
 ·rename_i a b h1 h2
  have key:∀v,DW bop .i64 a b=some (.int .i64 (IntKind.i64.wrap v))->v=s->XT P { dst:=dst,op:=.binOp bop xt x y yt,type:=type,pos:=pos,after:=after,guard:=guard } F h [] (.val (.int .i64 s)):=by
   intro v hv hvs
   have he:TS P { dst:=dst,op:=.binOp bop xt x y yt,type:=type,pos:=pos,after:=after,guard:=guard } F h 0=some (.val (.int .i64 (IntKind.i64.wrap v)),[]):=by
    simp only [TS,h1,h2,Ez,hv]
   have:=CT he (by simp)
   rw [hvs,IntWalk.i64_in s hb] at this
   simpa using this
  split at ha
  ·cases ha;exact key (a+b) rfl rfl
  ·cases ha;exact key (a-b) rfl rfl
  ·cases ha;exact key (a*b) rfl rfl
  ·cases ha
 ·cases ha
theorem Z6h (r:Int) {s:Int} (hk:Xk n ops F k=true) (ha:Jw ops F k=some s) (hs:s=r) (hb:-9223372036854775808<=r/\r<=9223372036854775807)
  (H:SI P n ops B (k+1) (F.put (ZP ops k).dst (.val (.int .i64 r))) h):SI P n ops B k F h:=
 E8 (ks:=[]) hk (S0 ha hs hb) H
def Ux:List Nat->List Res->Option (List Res × List Res)
 | [],l=>some ([],l)
 | i::is,l=>match l[i]? with
  | some r=>match Ux is (l.eraseIdx i) with
   | some (a,b)=>some (r::a,b)
   | none=>none
  | none=>none
theorem N1:∀{l:List Res} {i:Nat} {r:Res},l[i]? = some r->l.Perm (r::l.eraseIdx i)
 | [],i,r,h=>by simp at h
 | x::l,0,r,h=>by simp at h;subst h;simp
 | x::l,i+1,r,h=>by
  have:=N1 (l:=l) (i:=i) (r:=r) (by simpa using h)
  simp only [List.eraseIdx_cons_succ]
  exact (List.Perm.cons x this).trans (List.Perm.swap r x _)
theorem Uc:∀{is:List Nat} {l a b:List Res},Ux is l=some (a,b)->l.Perm (a++b)
 | [],l,a,b,h=>by
  simp only [Ux,Wv,Prod.mk.injEq] at h
  obtain ⟨rfl,rfl⟩:=h
  simp
 | i::is,l,a,b,h=>by
  simp only [Ux] at h
  split at h
  ·rename_i r hr
   split at h
   ·rename_i a' b' hp
    simp only [Wv,Prod.mk.injEq] at h
    obtain ⟨rfl,rfl⟩:=h
    exact (N1 hr).trans (List.Perm.cons r (Uc hp))
   ·cases h
  ·cases h
theorem Zec {F':Fr} {h' d:List Res} (is:List Nat) (hF:F.Le F') (hp:Ux is h=some (h',d)):Ta F h F' h':=⟨hF,d,Uc hp⟩
def JC (P:Program) (ops:Array Oper) (F:Fr) (k:Nat):Option (FuncId × List AV):=
 match (ZP ops k).op with
 | .call c=>match c.callee with
  | .value (.func f)=>match P.funcs[f]? with
   | some fn=>match fn.body.isSome&&!(fn.name== "runtime.NumGoroutine") with
    | true=>some (f,c.args.toList.map F.ev)
    | false=>none
   | none=>none
  | .value t=>match F.ev t with
   | .val (.func (.func f) vs caps)=>match vs.toList,P.funcs[f]? with
    | [],some fn=>match fn.body.isSome&&!(fn.name== "runtime.NumGoroutine") with
     | true=>some (f,c.args.toList.map F.ev++caps.toList.map AV.val)
     | false=>none
    | _,_=>none
   | _=>none
  | _=>none
 | _=>none
theorem IY {K:Fr->List Res->Prop} {f:FuncId} {xs:List AV} {h1 h2:List Res} {R:AV->List Res->Prop} (hd:VP n (ZP ops k)=true) (hc:JC P ops F k=some (f,xs))
  (hp:h.Perm (h1++h2)) (H:WP P f xs h1 R) (hK:∀r h',R r h'->K (F.put (ZP ops k).dst r) (h'++h2)):WK P n (ZP ops k) F h K:=by
 unfold JC at hc
 generalize hoo:ZP ops k=o at hc hd hK
 obtain ⟨dst,op,type,pos,after,guard⟩:=o
 cases op<;>simp only at hc<;>try (cases hc)
 rename_i c
 obtain ⟨callee,args,tys⟩:=c
 cases callee with
 | builtin b=>cases hc
 | invoke r m=>cases hc
 | value t=>
  simp only at hc
  split at hc
  ·rename_i g hg
   cases hg
   split at hc
   ·rename_i fn hf
    split at hc
    ·rename_i hb
     simp only [Xo,Bool.not_eq_true'] at hb
     simp only [Wv,Prod.mk.injEq] at hc
     obtain ⟨rfl,rfl⟩:=hc
     exact Z93 _ args tys rfl hf hb.1 hb.2 rfl hd hp H hK
    ·cases hc
   ·cases hc
  ·rename_i t' hnf ht'
   cases ht'
   split at hc
   ·rename_i g vs caps hv
    split at hc
    ·rename_i fn hvs hf
     split at hc
     ·rename_i hb
      simp only [Xo,Bool.not_eq_true'] at hb
      simp only [Wv,Prod.mk.injEq] at hc
      obtain ⟨rfl,rfl⟩:=hc
      have:vs=#[]:=by rw [<-Ti (xs:=vs),hvs]
      subst this
      exact Z94 t args tys rfl hv hf hb.1 hb.2 rfl hd hp H hK
     ·cases hc
    ·cases hc
   ·cases hc
  ·cases hc
theorem Z6i (f:FuncId) (xs:List AV) (is:List Nat) {h1 h2:List Res} {R:AV->List Res->Prop} (hk:Xk n ops F k=true) (hc:JC P ops F k=some (f,xs))
  (hp:Ux is h=some (h1,h2)) (H:WP P f xs h1 R) (hK:∀r h',R r h'->SI P n ops B (k+1) (F.put (ZP ops k).dst r) (h'++h2)):SI P n ops B k F h:=
 QB hk (IY (UI hk).2.1 hc (Uc hp) H hK)
def Ba (P:Program) (ops:Array Oper) (F:Fr) (k:Nat):Option (AV × Int × Nat):=
 match (ZP ops k).op with
 | .indexAddr t x ix=>match P.underlying t with
  | some (.slice e)=>match P.info? e with
   | some i=>match F.ev ix with
    | .val (.int _ j)=>some (F.ev x,j,i.size)
    | _=>none
   | none=>none
  | _=>none
 | _=>none
theorem Dv {es:List AV} {hv:Option Value} {j:Int} {sz:Nat} {y:AV} (hi:Ba P ops F k=some (.sl es hv,j,sz)) (h0:0<=j) (hget:es[j.toNat]? = some y)
  (hy:y.leaves.length=sz):XT P (ZP ops k) F h [] (.rp y.leaves):=by
 unfold Ba at hi
 generalize hoo:ZP ops k=o at hi
 obtain ⟨dst,op,type,pos,after,guard⟩:=o
 cases op<;>simp only at hi<;>try (cases hi)
 rename_i t x ix
 split at hi
 ·rename_i e ht
  split at hi
  ·rename_i i hinfo
   split at hi
   ·rename_i ik j' hix
    simp only [Wv,Prod.mk.injEq] at hi
    obtain ⟨h1,rfl,rfl⟩:=hi
    exact Zcx t x ix rfl ht hinfo rfl h1 hix h0 hget hy
   ·cases hi
  ·cases hi
 ·cases hi
theorem S1 {b off len cap:Nat} {j:Int} {sz:Nat} (hi:Ba P ops F k=some (.val (.slice (some ⟨b,off,none⟩) len cap),j,sz)) (h0:0<=j) (hlt:j<len) :
  XT P (ZP ops k) F h [] (.val (.pointer (some ⟨b,off+j.toNat * sz,none⟩))):=by
 unfold Ba at hi
 generalize hoo:ZP ops k=o at hi
 obtain ⟨dst,op,type,pos,after,guard⟩:=o
 cases op<;>simp only at hi<;>try (cases hi)
 rename_i t x ix
 split at hi
 ·rename_i e ht
  split at hi
  ·rename_i i hinfo
   split at hi
   ·rename_i ik j' hix
    simp only [Wv,Prod.mk.injEq] at hi
    obtain ⟨h1,rfl,rfl⟩:=hi
    exact Zcy t x ix rfl ht hinfo rfl h1 hix h0 hlt
   ·cases hi
  ·cases hi
 ·cases hi
def Ls (P:Program) (ops:Array Oper) (F:Fr) (k:Nat) (len:Int):Option (AV × Int × Int × Nat):=
 match (ZP ops k).op with
 | .slice t x lo hi none=>match P.underlying t with
  | some (.slice e)=>match P.info? e with
   | some i=>match Bh F lo 0,Bh F hi len with
    | some l,some m=>some (F.ev x,l,m,i.size)
    | _,_=>none
   | none=>none
  | _=>none
 | _=>none
theorem Zd4 {es:List AV} {hv:Option Value} {l m:Int} {sz:Nat} (hi:Ls P ops F k es.length=some (.sl es hv,l,m,sz)) (h0:0<=l) (h1:l<=m) (h2:m<=es.length)
  (hes:∀y∈es,y.leaves.length=sz):XT P (ZP ops k) F h [] (.sl ((es.take m.toNat).drop l.toNat) none):=by
 unfold Ls at hi
 generalize hoo:ZP ops k=o at hi
 obtain ⟨dst,op,type,pos,after,guard⟩:=o
 cases op<;>simp only at hi<;>try (cases hi)
 rename_i t x lo hi' mx
 cases mx with
 | some _=>simp at hi
 | none=>
  simp only at hi
  split at hi
  ·rename_i e ht
   split at hi
   ·rename_i i hinfo
    split at hi
    ·rename_i l' m' hl hm
     simp only [Wv,Prod.mk.injEq] at hi
     obtain ⟨hx,rfl,rfl,rfl⟩:=hi
     exact Zd3 t x lo hi' rfl ht hinfo rfl hx hl hm h0 h1 h2 hes
    ·cases hi
   ·cases hi
  ·cases hi
theorem AH {es es':List AV} {hv:Option Value} {l m:Int} {sz:Nat} (hi:Ls P ops F k es.length=some (.sl es hv,l,m,sz)) (h0:0<=l) (h1:l<=m) (h2:m<=es.length)
  (hes:∀y∈es,y.leaves.length=sz) (he:(es.take m.toNat).drop l.toNat=es'):XT P (ZP ops k) F h [] (.sl es' none):=he▸Zd4 hi h0 h1 h2 hes
def Tz (P:Program) (ops:Array Oper) (F:Fr) (k:Nat):Option (AV × AV × Nat):=
 match (ZP ops k).op with
 | .call c=>match c.callee,c.args.toList,c.argTypes.toList with
  | .builtin .append,[s,x],[t,t']=>match Nat.beq t t',P.underlying t with
   | true,some (.slice e)=>match P.info? e with
    | some i=>match i.zero with
     | some z=>match Nat.beq z.cells.size i.size&&Nat.ble i.bytes 32768 with
      | true=>some (F.ev s,F.ev x,i.size)
      | false=>none
     | none=>none
    | none=>none
   | _,_=>none
  | _,_,_=>none
 | _=>none
theorem P6 {K:Fr->List Res->Prop} {es xs:List AV} {hv:Value} {hx:Option Value} {sz:Nat} {h1 h2:List Res} (hd:VP n (ZP ops k)=true)
  (ha:Tz P ops F k=some (.sl es (some hv),.sl xs hx,sz)) (hes:∀y∈es,y.leaves.length=sz) (hxs:∀y∈xs,y.leaves.length=sz) (hone:(Ze xs).all AV.one=true)
  (hbound:es.length+xs.length<=4294967296)
  (hK:∀v',(v'.ownBlock=hv.ownBlock∨∃b,v'.ownBlock=some b/\AQ (h1++.tail hv sz::h2) b)->K (F.put (ZP ops k).dst (.sl (es++xs) (some v'))) (h1++.tail v' sz::h2)) :
  WK P n (ZP ops k) F (h1++.tail hv sz::h2) K:=by
 unfold Tz at ha
 generalize hoo:ZP ops k=o at ha hd hK
 obtain ⟨dst,op,type,pos,after,guard⟩:=o
 cases op<;>simp only at ha<;>try (cases ha)
 rename_i c
 obtain ⟨callee,args,tys⟩:=c
 simp only at ha
 split at ha
 ·rename_i s x t t' hargs htys
  split at ha
  ·rename_i e htt ht
   have:=T7 htt
   subst this
   split at ha
   ·rename_i i hinfo
    split at ha
    ·rename_i z hz
     split at ha
     ·rename_i hb
      simp only [Xo] at hb
      simp only [Wv,Prod.mk.injEq] at ha
      obtain ⟨h3,h4,rfl⟩:=ha
      have e1:args=#[s,x]:=by rw [<-Ti (xs:=args),hargs]
      have e2:tys=#[t,t]:=by rw [<-Ti (xs:=tys),htys]
      subst e1;subst e2
      exact Z91 s x t rfl ht hinfo rfl (by rw [hz];simp [T7 hb.1]) hb.2 h3 h4 hd hes hxs hone hbound hK
     ·cases ha
    ·cases ha
   ·cases ha
  ·cases ha
 ·cases ha
theorem WK.perm {K:Fr->List Res->Prop} {o:Oper} {h':List Res} (hp:h.Perm h') (H:WK P n o F h' K):WK P n o F h K:=by
 intro Q w G a hF hh
 refine Oper.wp_mono ?_ (H Q w G a hF (hh.perm hp))
 intro a' w' ⟨F',h2,G',b1,b2,b3,b4⟩
 exact ⟨F',h2,G',b1,b2,b3,b4.perm hp.symm (Tu _)⟩
theorem Z6g (j:Nat) (es':List AV) {es xs:List AV} {hv:Value} {hx:Option Value} {sz:Nat} {h2:List Res} (hk:Xk n ops F k=true)
  (ha:Tz P ops F k=some (.sl es (some hv),.sl xs hx,sz)) (hp:Ux [j] h=some ([.tail hv sz],h2)) (hes:∀y∈es,y.leaves.length=sz) (hxs:∀y∈xs,y.leaves.length=sz)
  (hone:(Ze xs).all AV.one=true) (hbound:es.length+xs.length<=4294967296) (he:es++xs=es')
  (hK:∀v',SI P n ops B (k+1) (F.put (ZP ops k).dst (.sl es' (some v'))) (.tail v' sz::h2)):SI P n ops B k F h:=
 QB hk (WK.perm (Uc hp) (P6 (h1:=[]) (UI hk).2.1 ha hes hxs hone hbound fun v' _=>by rw [he];exact hK v'))
theorem LK {w:World} {G:Yg} {sz:Nat} (hh:YE w G h):YE w G (.tail (.slice none 0 0) sz::h)/\X1 w G h w G (.tail (.slice none 0 0) sz::h):=
 ⟨⟨fun r hr=>by
   rcases YM.1 hr with rfl|hr
   ·exact .inl rfl
   ·exact hh.ok r hr,V1.2 ⟨fun _ _ _ _ hf=>hf.elim,hh.apart⟩,fun r hr b o hf hg=>by
   rcases YM.1 hr with rfl|hr
   ·exact hf.elim
   ·exact hh.prot r hr b o hf hg,hh.lt⟩,
  ⟨rfl,rfl,rfl,X7 _,fun _ _ h=>h,fun _ _=>.inl rfl,fun _ _ _ h=>.inl h,fun b o _ ⟨r,hr,hf⟩=>by
   rcases YM.1 hr with rfl|hr
   ·exact hf.elim
   ·exact ⟨r,hr,hf⟩⟩⟩
theorem Ma {c:Code} {A:WQ} (sz:Nat) (H:Yx P n c A F (.tail (.slice none 0 0) sz::h)):Yx P n c A F h:=by
 intro w G a hF hh
 obtain ⟨h1,h2⟩:=LK (sz:=sz) hh
 exact wp_mono (H w G a hF h1) fun e a' w' hc=>hc.trans h2
end
section
variable {P:Program} {n:Nat} {ops:Array Oper} {B:Fr->List Res->Prop} {k:Nat} {F:Fr} {h:List Res}
def Cy (P:Program) (ops:Array Oper) (F:Fr) (k:Nat):Option (List AV):=
 match (ZP ops k).op with
 | .alloc t=>DD P t
 | .box _ x=>match (F.ev x).fit with
  | true=>some (F.ev x).leaves
  | false=>none
 | _=>none
theorem P5 {K:Fr->List Res->Prop} {ls:List AV} (hd:VP n (ZP ops k)=true) (ha:Cy P ops F k=some ls)
  (hK:∀b,AQ h b->K (F.put (ZP ops k).dst (.val (.pointer (some ⟨b,0,none⟩)))) (.obj b ls::h)):WK P n (ZP ops k) F h K:=by
 unfold Cy at ha
 generalize hoo:ZP ops k=o at ha hd hK
 obtain ⟨dst,op,type,pos,after,guard⟩:=o
 cases op<;>simp only at ha<;>try (cases ha)
 case alloc t=>exact Z90 t rfl ha hd hK
 case box t x=>
  split at ha
  ·rename_i hf
   cases ha
   exact Z92 t x rfl rfl hf hd hK
  ·cases ha
def storeAt (P:Program) (ops:Array Oper) (F:Fr) (k:Nat):Option (Nat × Nat × List AV):=
 match (ZP ops k).op with
 | .store t x y=>match F.ev x,(ZP ops k).dst,P.info? t with
  | .val (.pointer (some ⟨b,o,none⟩)),none,some i=>match Nat.beq i.size (F.ev y).leaves.length&&((F.ev y).fit&&(F.ev y).leaves.all AV.one) with
   | true=>some (b,o,(F.ev y).leaves)
   | false=>none
  | _,_,_=>none
 | _=>none
theorem Pb {K:Fr->List Res->Prop} {b o:Nat} {xs ls:List AV} {h2:List Res} (hs:storeAt P ops F k=some (b,o,xs)) (hle:Nat.ble (o+xs.length) ls.length=true)
  (hK:K F (.obj b (ls.take o++xs++ls.drop (o+xs.length))::h2)):WK P n (ZP ops k) F (.obj b ls::h2) K:=by
 unfold storeAt at hs
 generalize hoo:ZP ops k=q at hs
 obtain ⟨dst,op,type,pos,after,guard⟩:=q
 cases op<;>simp only at hs<;>try (cases hs)
 rename_i t x y
 split at hs
 ·rename_i b' o' i hx hi
  split at hs
  ·rename_i hc
   simp only [Xo] at hc
   simp only [Wv,Prod.mk.injEq] at hs
   obtain ⟨rfl,rfl,rfl⟩:=hs
   exact Z99 (h1:=[]) t x y rfl rfl hx rfl (by simp only [Xo];exact hc.2) (by rw [hi];simp [T7 hc.1]) hle hK
  ·cases hs
 ·cases hs
def Te (P:Program) (ops:Array Oper) (F:Fr) (k:Nat):Option (List AV × Nat × Nat):=
 match (ZP ops k).op with
 | .buildSlice t len parts=>match P.underlying t with
  | some (.slice e)=>match P.info? e with
   | some i=>match i.zero.isSome&&Nat.ble (len*i.size) (2 ^ 24) with
    | true=>match Ao (fun j=>some (j*i.size,i.size)) (List.replicate (len*i.size) .any) (parts.toList.map fun p=>(p.1,F.ev p.2)) with
     | some ls=>some (ls,len,i.size)
     | none=>none
    | false=>none
   | none=>none
  | _=>none
 | _=>none
theorem P7 {K:Fr->List Res->Prop} {es:List AV} {len sz:Nat} (hd:VP n (ZP ops k)=true) (ha:Te P ops F k=some (Ze es,len,sz)) (hlen:es.length=len) (hall:Ab es sz=true)
  (hK:∀b,AQ h b->K (F.put (ZP ops k).dst (.sl es (some (.slice (some ⟨b,0,none⟩) len len)))) (.tail (.slice (some ⟨b,0,none⟩) len len) sz::h)):WK P n (ZP ops k) F h K:=by
 unfold Te at ha
 generalize hoo:ZP ops k=q at ha hd hK
 obtain ⟨dst,op,type,pos,after,guard⟩:=q
 cases op<;>simp only at ha<;>try (cases ha)
 rename_i t ln parts
 split at ha
 ·rename_i e ht
  split at ha
  ·rename_i i hi
   split at ha
   ·rename_i hc
    simp only [Xo] at hc
    split at ha
    ·rename_i ls hf
     simp only [Wv,Prod.mk.injEq] at ha
     obtain ⟨rfl,rfl,rfl⟩:=ha
     exact Z95 t _ parts rfl ht hi rfl hc.1 hc.2 hf hlen hall hd hK
    ·cases ha
   ·cases ha
  ·cases ha
 ·cases ha
theorem Z6f (ls:List AV) (hk:Xk n ops F k=true) (ha:Cy P ops F k=some ls)
  (hK:∀b,SI P n ops B (k+1) (F.put (ZP ops k).dst (.val (.pointer (some ⟨b,0,none⟩)))) (.obj b ls::h)):SI P n ops B k F h:=
 QB hk (P5 (UI hk).2.1 ha fun b _=>hK b)
theorem Z6p (j:Nat) {b o:Nat} {xs ls:List AV} {h2:List Res} (ls':List AV) (hk:Xk n ops F k=true) (hs:storeAt P ops F k=some (b,o,xs)) (hp:Ux [j] h=some ([.obj b ls],h2))
  (hle:Nat.ble (o+xs.length) ls.length=true) (he:ls.take o++xs++ls.drop (o+xs.length)=ls') (H:SI P n ops B (k+1) F (.obj b ls'::h2)):SI P n ops B k F h:=
 QB hk (WK.perm (Uc hp) (Pb hs hle (by rw [he];exact H)))
theorem Z6l (es:List AV) {len sz:Nat} (hk:Xk n ops F k=true) (ha:Te P ops F k=some (Ze es,len,sz)) (hlen:es.length=len) (hall:Ab es sz=true)
  (hK:∀v,SI P n ops B (k+1) (F.put (ZP ops k).dst (.sl es (some v))) (.tail v sz::h)):SI P n ops B k F h:=
 QB hk (P7 (UI hk).2.1 ha hlen hall fun _ _=>hK _)
variable {T:List (Nat × List Nat)} {fuel fuel':Nat} {done:List Nat}
def Ej (P:Program) (n:Nat) (ops:Array Oper) (h:List Res) (is done:List Nat) (F:Fr) (hints:List Nat):List (Nat × List Nat):=
 match KH P n ops h is done F hints with
 | some (_,es)=>Ek es
 | none=>[]
theorem Ph:∀{es:List (Nat × List (Nat × Nat))},es.flatMap (fun e=>e.2.map (·.1))=es.flatMap (fun e=>e.2.map (·.2))->∀e∈es,∀p∈e.2,p.1=p.2
 | [],_,e,he=>by simp at he
 | x::es,hq,e,he=>by
  simp only [Bx] at hq
  have h1:=List.append_inj hq (by simp)
  rcases YM.1 he with rfl|he
  ·exact L6 h1.1
  ·exact Ph h1.2 e he
def Uw (ops:Array Oper) (i:Nat) (T:List (Nat × List Nat)):List Nat:=(T.filter fun t=>!Vf ops i t.1).flatMap (·.2)
theorem Z8v {i:Nat} {h2:List Res} (js bs:List Nat) (h1:Uw ops i T=bs) (h3:js.map (fun j=>(WS h2)[j]?)=bs.map some) :
  ∀t∈T,Vf ops i t.1=true∨∀b∈t.2,b∈WS h2:=by
 have hall:∀(js bs:List Nat),js.map (fun j=>(WS h2)[j]?)=bs.map some->∀b∈bs,b∈WS h2:=by
  intro js
  induction js with
  | nil=>intro bs hb b hm;cases bs with
   | nil=>simp at hm
   | cons _ _=>simp at hb
  | cons j js ih=>intro bs hb b hm;cases bs with
   | nil=>simp at hm
   | cons c bs=>
    simp only [T6,List.cons.injEq] at hb
    rcases YM.1 hm with rfl|hm
    ·exact Y2 hb.1
    ·exact ih bs hb.2 b hm
 intro t ht
 cases hq:Vf ops i t.1 with
 | true=>exact .inl rfl
 | false=>
  refine .inr fun b hb=>hall js bs h3 b ?_
  rw [<-h1]
  exact List.mem_flatMap.2 ⟨t,List.mem_filter.2 ⟨ht,by simp [hq]⟩,hb⟩
theorem P3 {i:Nat} (hi:i<ops.size):ops[i]? = some (ZP ops i):=by
 simp [ZP,List.getD,hi]
theorem JI {i:Nat} (is js bs:List Nat) {h1 h2:List Res} (hk:Xk n ops F i=true) (hp:Ux is h=some (h1,h2)) (ho:Uw ops i T=bs) (hj:js.map (fun j=>(WS h2)[j]?)=bs.map some)
  (H:WK P n (ZP ops i) F h1 fun F' h1'=>X3 P n ops B (T.filter fun t=>!Vf ops i t.1) fuel (done++[i]) F' (h1'++h2)):VL P n ops B T fuel done F h i:=by
 obtain ⟨q1,_,q3,q4⟩:=UI hk
 exact ⟨_,h1,h2,P3 q1,q4,q3,Uc hp,Z8v js bs ho hj,H⟩
theorem Z1x (i:Nat) (f:FuncId) (xs:List AV) (is js bs:List Nat) {h1 h2:List Res} {R:AV->List Res->Prop} (hk:Xk n ops F i=true) (hc:JC P ops F i=some (f,xs))
  (hp:Ux is h=some (h1,h2)) (ho:Uw ops i T=bs) (hj:js.map (fun j=>(WS h2)[j]?)=bs.map some) (H:WP P f xs h1 R)
  (hK:∀r h',R r h'->X3 P n ops B (T.filter fun t=>!Vf ops i t.1) fuel (done++[i]) (F.put (ZP ops i).dst r) (h'++h2)):VL P n ops B T fuel done F h i:=
 JI is js bs hk hp ho hj (IY (h2:=[]) (UI hk).2.1 hc (by simp) H fun r h' hr=>by simpa using hK r h' hr)
theorem Z1u (i:Nat) (js bs:List Nat) (ls:List AV) (hk:Xk n ops F i=true) (ha:Cy P ops F i=some ls) (ho:Uw ops i T=bs) (hj:js.map (fun j=>(WS h)[j]?)=bs.map some)
  (hK:∀b,X3 P n ops B (T.filter fun t=>!Vf ops i t.1) fuel (done++[i]) (F.put (ZP ops i).dst (.val (.pointer (some ⟨b,0,none⟩)))) (.obj b ls::h)):VL P n ops B T fuel done F h i:=
 JI (h1:=[]) (h2:=h) [] js bs hk rfl ho hj (P5 (UI hk).2.1 ha fun b _=>hK b)
theorem Z21 (i:Nat) (js bs:List Nat) (es:List AV) {len sz:Nat} (hk:Xk n ops F i=true) (ha:Te P ops F i=some (Ze es,len,sz)) (hlen:es.length=len) (hall:Ab es sz=true)
  (ho:Uw ops i T=bs) (hj:js.map (fun j=>(WS h)[j]?)=bs.map some)
  (hK:∀v,X3 P n ops B (T.filter fun t=>!Vf ops i t.1) fuel (done++[i]) (F.put (ZP ops i).dst (.sl es (some v))) (.tail v sz::h)):VL P n ops B T fuel done F h i:=
 JI (h1:=[]) (h2:=h) [] js bs hk rfl ho hj (P7 (UI hk).2.1 ha hlen hall fun _ _=>hK _)
theorem Z1v (i j:Nat) (js bs:List Nat) (es':List AV) {es xs:List AV} {hv:Value} {hx:Option Value} {sz:Nat} {h2:List Res} (hk:Xk n ops F i=true)
  (ha:Tz P ops F i=some (.sl es (some hv),.sl xs hx,sz)) (hp:Ux [j] h=some ([.tail hv sz],h2)) (hes:∀y∈es,y.leaves.length=sz) (hxs:∀y∈xs,y.leaves.length=sz)
  (hone:(Ze xs).all AV.one=true) (hbound:es.length+xs.length<=4294967296) (he:es++xs=es') (ho:Uw ops i T=bs) (hj:js.map (fun j=>(WS h2)[j]?)=bs.map some)
  (hK:∀v',X3 P n ops B (T.filter fun t=>!Vf ops i t.1) fuel (done++[i]) (F.put (ZP ops i).dst (.sl es' (some v'))) (.tail v' sz::h2)):VL P n ops B T fuel done F h i:=
 JI [j] js bs hk hp ho hj (P6 (h1:=[]) (h2:=[]) (UI hk).2.1 ha hes hxs hone hbound fun v' _=>by rw [he];exact hK v')
theorem Z25 (i j:Nat) (js bs:List Nat) {b o:Nat} {xs ls:List AV} {h2:List Res} (ls':List AV) (hk:Xk n ops F i=true) (hs:storeAt P ops F i=some (b,o,xs))
  (hp:Ux [j] h=some ([.obj b ls],h2)) (hle:Nat.ble (o+xs.length) ls.length=true) (he:ls.take o++xs++ls.drop (o+xs.length)=ls') (ho:Uw ops i T=bs)
  (hj:js.map (fun j=>(WS h2)[j]?)=bs.map some) (H:X3 P n ops B (T.filter fun t=>!Vf ops i t.1) fuel (done++[i]) F (.obj b ls'::h2)):VL P n ops B T fuel done F h i:=
 JI [j] js bs hk hp ho hj (Pb (h2:=[]) hs hle (by rw [he];exact H))
theorem Fc (i:Nat) {ks:List Nat} {x:AV} (hs:Region.noSelect ops=true) (hk:Xk n ops F i=true)
  (hf:Region.free .any ops (WF ops done) i=true) (hr:(Region.ready .any ops (WF ops done)).contains i=true) (hx:XT P (ZP ops i) F h ks x)
  (H:X3 P n ops B ((i,ks)::T) fuel (done++[i]) (F.put (ZP ops i).dst x) h):X3 P n ops B T (fuel+1) done F h:=by
 obtain ⟨q1,q2,q3,q4⟩:=UI hk
 exact Hz hs (P3 q1) q2 q3 hf hr (.inr ⟨q4,hx⟩) H
theorem Z22 (i:Nat) (x':AV) {x:AV} (hs:Region.noSelect ops=true) (hk:Xk n ops F i=true)
  (hf:Region.free .any ops (WF ops done) i=true) (hr:(Region.ready .any ops (WF ops done)).contains i=true) (he:TS P (ZP ops i) F h 0=some (x,[])) (hx:Zd x x')
  (H:X3 P n ops B ((i,[])::T) fuel (done++[i]) (F.put (ZP ops i).dst x') h):X3 P n ops B T (fuel+1) done F h:=by
 refine Fc i (ks:=[]) hs hk hf hr ?_ H
 have hst:=CT he (by simp)
 intro n w G a hF hh
 obtain ⟨v,h1,h2⟩:=hst n w G a hF hh
 exact ⟨v,hx _ _ _ h1,by simpa using h2⟩
theorem Z1w (i:Nat) (r:Int) {s:Int} (hns:Region.noSelect ops=true) (hk:Xk n ops F i=true)
  (hf:Region.free .any ops (WF ops done) i=true) (hr:(Region.ready .any ops (WF ops done)).contains i=true) (ha:Jw ops F i=some s) (hs:s=r)
  (hb:-9223372036854775808<=r/\r<=9223372036854775807)
  (H:X3 P n ops B ((i,[])::T) fuel (done++[i]) (F.put (ZP ops i).dst (.val (.int .i64 r))) h):X3 P n ops B T (fuel+1) done F h:=
 Fc i (ks:=[]) hns hk hf hr (S0 ha hs hb) H
theorem Z24 {b:Bool} (t:Nat) (hF:F.get t=.val (.bool b)) (h1:b=true->X3 P n ops B T fuel done ((t,.val (.bool true))::F) h)
  (h2:b=false->X3 P n ops B T fuel done ((t,.val (.bool false))::F) h):X3 P n ops B T fuel done F h:=by
 cases b with
 | true=>exact HA (CW hF (Zd.refl _) (Fr.Le.refl F)) (h1 rfl)
 | false=>exact HA (CW hF (Zd.refl _) (Fr.Le.refl F)) (h2 rfl)
theorem Z1z {c:Code} {A:WQ} (F':Fr) (h':List Res) (H:X3 P n ops (fun F h=>Ta F h F' h') T fuel done F h) (hB:Yx P n c A F' h'):X3 P n ops (fun F h=>Yx P n c A F h) T fuel done F h:=by
 intro Q w G a SL hF hh hQ hcl hcov hk
 exact H Q w G a SL hF hh hQ hcl hcov fun F2 h2 G2 a2 w2 b1 b2 b3 b4=>hk F2 h2 G2 a2 w2 (Cx b1 hB) b2 b3 b4
end
end Go.Abs
section
namespace Go.Abs
structure Yj where
 fields:LI
structure Zb where
 frm:Int
 to_:Int
 cons:List Yj
mutual
inductive Z5 where
 | mk (op num into:Int) (args:LI) (kids:List Z7)
inductive Z7 where
 | mk (steps:List Z5) (result:Int)
end
namespace Z5
def op:Z5->Int|.mk a _ _ _ _=>a
def num:Z5->Int|.mk _ a _ _ _=>a
def into:Z5->Int|.mk _ _ a _ _=>a
def args:Z5->LI|.mk _ _ _ a _=>a
def kids:Z5->List Z7|.mk _ _ _ _ a=>a
end Z5
namespace Z7
def steps:Z7->List Z5|.mk a _=>a
def result:Z7->Int|.mk _ a=>a
end Z7
structure Yz where
 params:LI
 lent:LI
 result:Int
 body:Z7
structure ZC where
 decls:List Zb
 routines:List Yz
def Z6 (xs:LI):List AV:=xs.map AV.i
def V6 (xs:List LI):List AV:=xs.map fun l=>.sl (Z6 l) none
abbrev Cw (c:Yj):AV:=.agg [.sl (Z6 c.fields) none]
def Wk (cs:List Yj):List AV:=cs.map Cw
abbrev DI (d:Zb):AV:=.agg [.i d.frm,.i d.to_,.sl (Wk d.cons) none]
def YR (ds:List Zb):List AV:=ds.map DI
mutual
def HP:Z5->AV
 | .mk op num into args kids=>.agg [.i op,.i num,.i into,.sl (Z6 args) none,.sl (XM kids) none]
def HD:Z7->AV
 | .mk steps result=>.agg [.sl (ZL steps) none,.i result]
def ZL:List Z5->List AV
 | []=>[]
 | s::ss=>HP s::ZL ss
def XM:List Z7->List AV
 | []=>[]
 | b::bs=>HD b::XM bs
end
abbrev X0 (s:Z5):AV:=.agg [.i s.op,.i s.num,.i s.into,.sl (Z6 s.args) none,.sl (XM s.kids) none]
abbrev Yh (b:Z7):AV:=.agg [.sl (ZL b.steps) none,.i b.result]
abbrev Ju (r:Yz):AV:=.agg [.sl (Z6 r.params) none,.sl (Z6 r.lent) none,.i r.result,.sl (ZL r.body.steps) none,.i r.body.result]
def X6 (rs:List Yz):List AV:=rs.map Ju
abbrev YB (n:ZC):AV:=.agg [.sl (YR n.decls) none,.sl (X6 n.routines) none]
theorem Z2p (s:Z5):HP s=X0 s:=by cases s;rw [HP];rfl
theorem Z2g (b:Z7):HD b=Yh b:=by cases b;rw [HD];rfl
theorem VQ:∀xs:List Z5,ZL xs=xs.map X0
 | []=>by rw [ZL];rfl
 | s::ss=>by rw [ZL,VQ ss,Z2p];rfl
theorem Qv:∀xs:List Z7,XM xs=xs.map Yh
 | []=>by rw [XM];rfl
 | b::bs=>by rw [XM,Qv bs,Z2g];rfl
section
theorem Y5 {xs:LI} {j:Nat} {x:Int} (h:xs[j]? = some x):(Z6 xs)[j]? = some (.i x):=by simp [Z6,h]
theorem Z2m {xs:List LI} {j:Nat} {x:LI} (h:xs[j]? = some x):(V6 xs)[j]? = some (.sl (Z6 x) none):=by simp [V6,h]
theorem BU {xs:List Yj} {j:Nat} {x:Yj} (h:xs[j]? = some x):(Wk xs)[j]? = some (Cw x):=by simp [Wk,h]
theorem Vn {xs:List Zb} {j:Nat} {x:Zb} (h:xs[j]? = some x):(YR xs)[j]? = some (DI x):=by simp [YR,h]
theorem WV {xs:List Z5} {j:Nat} {x:Z5} (h:xs[j]? = some x):(ZL xs)[j]? = some (X0 x):=by simp [VQ,h]
theorem UE {xs:List Z7} {j:Nat} {x:Z7} (h:xs[j]? = some x):(XM xs)[j]? = some (Yh x):=by simp [Qv,h]
theorem Vw {xs:List Yz} {j:Nat} {x:Yz} (h:xs[j]? = some x):(X6 xs)[j]? = some (Ju x):=by simp [X6,h]
@[simp] theorem Yc (xs:LI):(Z6 xs).length=xs.length:=by simp [Z6]
@[simp] theorem Zel (xs:List LI):(V6 xs).length=xs.length:=by simp [V6]
@[simp] theorem UP (xs:List Yj):(Wk xs).length=xs.length:=by simp [Wk]
@[simp] theorem Uo (xs:List Zb):(YR xs).length=xs.length:=by simp [YR]
@[simp] theorem Up (xs:List Z5):(ZL xs).length=xs.length:=by simp [VQ]
@[simp] theorem QZ (xs:List Z7):(XM xs).length=xs.length:=by simp [Qv]
@[simp] theorem TB (xs:List Yz):(X6 xs).length=xs.length:=by simp [X6]
theorem W3 (xs ys:LI):Z6 (xs++ys)=Z6 xs++Z6 ys:=by simp [Z6]
theorem HL (xs ys:List LI):V6 (xs++ys)=V6 xs++V6 ys:=by simp [V6]
theorem Z2i (xs ys:List Zb):YR (xs++ys)=YR xs++YR ys:=by simp [YR]
theorem Vg (xs ys:List Z5):ZL (xs++ys)=ZL xs++ZL ys:=by simp [VQ]
theorem BT (xs ys:List Z7):XM (xs++ys)=XM xs++XM ys:=by simp [Qv]
theorem CP (xs ys:List Yz):X6 (xs++ys)=X6 xs++X6 ys:=by simp [X6]
theorem BW (xs:LI) (n:Nat):(Z6 xs).take n=Z6 (xs.take n):=by simp [Z6]
theorem CN (xs:LI) (n:Nat):(Z6 xs).drop n=Z6 (xs.drop n):=by simp [Z6]
theorem HI (xs:List Yj) (n:Nat):(Wk xs).take n=Wk (xs.take n):=by simp [Wk]
theorem HH (xs:List Yj) (n:Nat):(Wk xs).drop n=Wk (xs.drop n):=by simp [Wk]
theorem CJ (xs:List Zb) (n:Nat):(YR xs).take n=YR (xs.take n):=by simp [YR]
theorem CI (xs:List Zb) (n:Nat):(YR xs).drop n=YR (xs.drop n):=by simp [YR]
theorem Ak (xs:List Z5) (n:Nat):(ZL xs).take n=ZL (xs.take n):=by simp [VQ]
theorem Aj (xs:List Z5) (n:Nat):(ZL xs).drop n=ZL (xs.drop n):=by simp [VQ]
theorem YG (xs:LI):∀y∈Z6 xs,y.leaves.length=1:=by intro y hy;simp only [Z6,XF] at hy;obtain ⟨x,_,rfl⟩:=hy;rfl
theorem CO (xs:List LI):∀y∈V6 xs,y.leaves.length=1:=by intro y hy;simp only [V6,XF] at hy;obtain ⟨x,_,rfl⟩:=hy;rfl
theorem DR (xs:List Yj):∀y∈Wk xs,y.leaves.length=1:=by intro y hy;simp only [Wk,XF] at hy;obtain ⟨x,_,rfl⟩:=hy;rfl
theorem K0 (xs:List Zb):∀y∈YR xs,y.leaves.length=3:=by intro y hy;simp only [YR,XF] at hy;obtain ⟨x,_,rfl⟩:=hy;rfl
theorem XC (xs:List Z5):∀y∈ZL xs,y.leaves.length=5:=by intro y hy;simp only [VQ,XF] at hy;obtain ⟨x,_,rfl⟩:=hy;rfl
theorem Ks (xs:List Z7):∀y∈XM xs,y.leaves.length=2:=by intro y hy;simp only [Qv,XF] at hy;obtain ⟨x,_,rfl⟩:=hy;rfl
theorem UR (xs:List Yz):∀y∈X6 xs,y.leaves.length=5:=by intro y hy;simp only [X6,XF] at hy;obtain ⟨x,_,rfl⟩:=hy;rfl
theorem Kv {es:List AV} (h:∀y∈es,y.leaves.all AV.one=true):(Ze es).all AV.one=true:=by
 simp only [Ze,List.all_flatMap,JZ]
 intro y hy
 exact JZ.1 (h y hy)
theorem W4 (xs:LI):(Ze (Z6 xs)).all AV.one=true:=Kv fun y hy=>by simp only [Z6,XF] at hy;obtain ⟨x,_,rfl⟩:=hy;rfl
theorem HM (xs:List LI):(Ze (V6 xs)).all AV.one=true:=Kv fun y hy=>by simp only [V6,XF] at hy;obtain ⟨x,_,rfl⟩:=hy;rfl
theorem MR (xs:List Yj):(Ze (Wk xs)).all AV.one=true:=Kv fun y hy=>by simp only [Wk,XF] at hy;obtain ⟨x,_,rfl⟩:=hy;rfl
theorem DS (xs:List Zb):(Ze (YR xs)).all AV.one=true:=Kv fun y hy=>by simp only [YR,XF] at hy;obtain ⟨x,_,rfl⟩:=hy;rfl
theorem Ua (xs:List Z5):(Ze (ZL xs)).all AV.one=true:=Kv fun y hy=>by simp only [VQ,XF] at hy;obtain ⟨x,_,rfl⟩:=hy;rfl
theorem Fe (xs:List Z7):(Ze (XM xs)).all AV.one=true:=Kv fun y hy=>by simp only [Qv,XF] at hy;obtain ⟨x,_,rfl⟩:=hy;rfl
theorem B1 (xs:List Yz):(Ze (X6 xs)).all AV.one=true:=Kv fun y hy=>by simp only [X6,XF] at hy;obtain ⟨x,_,rfl⟩:=hy;rfl
end
end Go.Abs
end
namespace Go.Abs
def Ql (v:Value):Nat:=v.ownBlock.getD 0
def JY (v:Value) (m:Nat):Value:=
 match v with
 | .slice a _ cap=>.slice a m cap
 | v=>v
theorem Rq {α:Type} (l:List α) (n:Nat) (x:α) (h:n<l.length):l.take n++[x]++l.drop (n+1)=l.set n x:=by
 rw [GY,Zk h];simp
theorem YE.vwrite {w:World} {G:Yg} {h2:List Res} {g cap n':Nat} {ls ls':List AV} (hh:YE w G (.vec (.slice (some ⟨g,0,none⟩) ls.length cap) ls::h2)) {cs cs':Array Value} {e:TypeId}
  (hb:w.heap[g]? = some (.cells cs e (0,0))) (XL:cs'.size=cs.size) (hn:n'=ls'.length) (hle:ls'.length<=cap) (hcap:cs.size=cap) (hls:YT w G ls' (cs'.toList.take ls'.length)) :
  YE (w.setRow g cs') G (.vec (.slice (some ⟨g,0,none⟩) n' cap) ls'::h2) /\
   X1 w G (.vec (.slice (some ⟨g,0,none⟩) ls.length cap) ls::h2) (w.setRow g cs') G (.vec (.slice (some ⟨g,0,none⟩) n' cap) ls'::h2):=by
 subst hn
 have hmem:Res.vec (.slice (some ⟨g,0,none⟩) ls.length cap) ls∈Res.vec (.slice (some ⟨g,0,none⟩) ls.length cap) ls::h2:=Xm ..
 have hA:VK G w (w.setRow g cs') G:=⟨fun c j hg=>by
  have hne:c≠g:=fun he=>hh.prot _ hmem c j he hg
  simp [World.cell?,VB w g c cs' hne],fun _ _ h=>h⟩
 have hpw:=V1.1 hh.apart
 have hother:∀r∈h2,∀c j,r.fp c j->c≠g:=fun r hr c j hf hc=>hpw.1 r hr c j hc hf
 refine ⟨⟨?_,V1.2 ⟨fun r hr=>hpw.1 r hr,hpw.2⟩,?_,?_⟩,⟨rfl,rfl,rfl,by simp [World.setRow],fun _ _ h=>h,?_,fun _ _ _ h=>.inl h,?_⟩⟩
 ·intro r hr
  rcases YM.1 hr with rfl|hr
  ·exact .inr ⟨g,cap,cs',e,rfl,setRow_heap w g cs cs' e (0,0) hb,hle,XL.trans hcap,hls.mono hA⟩
  ·have h0:=hh.ok r (XE _ hr)
   cases r with
   | obj c ks=>
    obtain ⟨ds,el,k1,k2⟩:=h0
    exact ⟨ds,el,(VB w g c cs' (hother _ hr c 0 rfl)).trans k1,k2.mono hA⟩
   | tail v k=>
    rcases h0 with rfl|⟨g2,len,cap2,cur,el,rfl,k1,k2,k3⟩
    ·exact .inl rfl
    ·exact .inr ⟨g2,len,cap2,cur,el,rfl,(VB w g g2 cs' (hother _ hr g2 (len*k) ⟨rfl,X7 _⟩)).trans k1,k2,k3⟩
   | ge s=>exact V3 h0 (by simp [World.setRow])
   | vec v ks=>
    rcases h0 with ⟨rfl,h0⟩|⟨g2,cap2,cur2,el,rfl,k1,k2,k3,k4⟩
    ·exact .inl ⟨rfl,h0⟩
    ·exact .inr ⟨g2,cap2,cur2,el,rfl,(VB w g g2 cs' (hother _ hr g2 0 rfl)).trans k1,k2,k3,k4.mono hA⟩
   | many ts=>
    refine ⟨fun p hp=>?_,h0.2⟩
    rcases h0.1 p hp with q|⟨g2,len,cap2,cur,el,q,k1,k2,k3⟩
    ·exact .inl q
    ·exact .inr ⟨g2,len,cap2,cur,el,q,(VB w g g2 cs' (hother _ hr g2 (len*p.2) ⟨p,hp,by rw [q];exact ⟨rfl,X7 _⟩⟩)).trans k1,k2,k3⟩
   | own B m=>
    intro c hc
    obtain ⟨ds,el,k1,k2⟩:=h0 c hc
    exact ⟨ds,el,(VB w g c cs' (hother _ hr c 0 hc)).trans k1,k2⟩
   | row v k ks=>
    rcases h0 with ⟨rfl,h0⟩|⟨g2,len2,cap2,cur2,el,rfl,k1,k2,k3,k4,k5⟩
    ·exact .inl ⟨rfl,h0⟩
    ·exact .inr ⟨g2,len2,cap2,cur2,el,rfl,(VB w g g2 cs' (hother _ hr g2 0 rfl)).trans k1,k2,k3,k4,k5.mono hA⟩
 ·intro r hr c j hf hg
  rcases YM.1 hr with rfl|hr
  ·exact hh.prot _ hmem c j hf hg
  ·exact hh.prot r (XE _ hr) c j hf hg
 ·intro c j hg
  have:=hh.lt c j hg
  simpa [World.setRow] using this
 ·intro c hc
  by_cases hcb:c=g
  ·subst hcb
   exact .inr ⟨cs,cs',e,(0,0),hb,setRow_heap w c cs cs' e (0,0) hb,XL,fun j hj=>absurd ⟨_,hmem,rfl⟩ hj⟩
  ·exact .inl (VB w g c cs' hcb)
 ·rintro c j _ ⟨r,hr,hf⟩
  rcases YM.1 hr with rfl|hr
  ·exact ⟨_,hmem,hf⟩
  ·exact ⟨r,XE _ hr,hf⟩
theorem YE.alloc_vec {w:World} {G:Yg} {h:List Res} (hh:YE w G h) (cs:Array Value) (t:TypeId) {ls:List AV} {cap:Nat} (hcap:ls.length<=cap) (XL:cs.size=cap)
  (hls:YT w G ls (cs.toList.take ls.length)) :
  YE (w.alloc (.cells cs t)) G (.vec (.slice (some ⟨w.heap.size,0,none⟩) ls.length cap) ls::h)/\X1 w G h (w.alloc (.cells cs t)) G (.vec (.slice (some ⟨w.heap.size,0,none⟩) ls.length cap) ls::h):=by
 have hA:VK G w (w.alloc (.cells cs t)) G:=⟨fun b j hg=>DP w _ (hh.lt b j hg),fun _ _ h=>h⟩
 refine hh.alloc (.cells cs t) (h':=[.vec (.slice (some ⟨w.heap.size,0,none⟩) ls.length cap) ls]) (fun _ _ h=>h) (fun _ _ h=>.inl h) ?_ ?_ (DF _ _) ?_
 ·intro r hr
  rw [Xv.1 hr]
  exact .inr ⟨_,cap,cs,t,rfl,FC w _,hcap,XL,hls.mono hA⟩
 ·intro r hr b j hf
  rw [Xv.1 hr] at hf
  exact hf
 ·intro r hr b j hf hg
  rw [Xv.1 hr] at hf
  have:=hh.lt b j hg
  have:b=w.heap.size:=hf
  omega
theorem Ze0 {w:World} {G:Yg} {h:List Res} (hh:YE w G h):YE w G (.vec (.slice none 0 0) []::h)/\X1 w G h w G (.vec (.slice none 0 0) []::h):=
 ⟨⟨fun r hr=>by
   rcases YM.1 hr with rfl|hr
   ·exact .inl ⟨rfl,rfl⟩
   ·exact hh.ok r hr,V1.2 ⟨fun _ _ _ _ hf=>hf.elim,hh.apart⟩,fun r hr b o hf hg=>by
   rcases YM.1 hr with rfl|hr
   ·exact hf.elim
   ·exact hh.prot r hr b o hf hg,hh.lt⟩,
  ⟨rfl,rfl,rfl,X7 _,fun _ _ h=>h,fun _ _=>.inl rfl,fun _ _ _ h=>.inl h,fun b o _ ⟨r,hr,hf⟩=>by
   rcases YM.1 hr with rfl|hr
   ·exact hf.elim
   ·exact ⟨r,hr,hf⟩⟩⟩
section
variable {P:Program} {n:Nat} {ops:Array Oper} {B:Fr->List Res->Prop} {k:Nat} {F:Fr} {h h2:List Res}
def D9 (P:Program) (ops:Array Oper) (F:Fr) (k:Nat):Option AV:=
 match (ZP ops k).op with
 | .call c=>match c.callee,c.args.toList,c.argTypes.toList with
  | .builtin .len,[x],[t]=>match P.underlying t with
   | some (.slice _)=>some (F.ev x)
   | _=>none
  | _,_,_=>none
 | _=>none
theorem BF.form {w:World} {G:Yg} {v:Value} {ls:List AV} (h:BF w G v ls):∃a cap,v=.slice a ls.length cap:=by
 rcases h with ⟨rfl,rfl⟩|⟨g,cap,cur,e,rfl,_⟩
 ·exact ⟨none,0,rfl⟩
 ·exact ⟨_,cap,rfl⟩
theorem Zd6 (j:Nat) {v:Value} {ls:List AV} (hl:D9 P ops F k=some (.val v)) (hj:h[j]? = some (.vec v ls)):XT P (ZP ops k) F h [] (.val (.int .i64 ls.length)):=by
 unfold D9 at hl
 generalize hoo:ZP ops k=o at hl
 obtain ⟨dst,op,type,pos,after,guard⟩:=o
 cases op<;>simp only at hl<;>try (cases hl)
 rename_i c
 obtain ⟨callee,args,tys⟩:=c
 simp only at hl
 split at hl
 ·rename_i x t hargs htys
  split at hl
  ·rename_i el hu
   simp only [Wv] at hl
   intro n w G a hF hh
   have hv:=hF.ev x
   rw [hl] at hv
   have hv:=hv.val_inv
   obtain ⟨ad,cap,rfl⟩:=BF.form (hh.ok _ (Y2 hj))
   have e1:args=#[x]:=by rw [<-Ti (xs:=args),hargs]
   have e2:tys=#[t]:=by rw [<-Ti (xs:=tys),htys]
   subst e1;subst e2
   exact ⟨_,.val,fun w' _ _=>by simp [execOp,resolve,invoke,builtin,hv,Builtin.len_,Ui hu,goInt]⟩
  ·cases hl
 ·cases hl
theorem Zd5 (j:Nat) {v:Value} {ls:List AV} {i:Int} (hi:Ba P ops F k=some (.val v,i,1)) (hj:h[j]? = some (.vec v ls)) (h0:0<=i) (hlt:i<ls.length) :
  XT P (ZP ops k) F h [] (.val (.pointer (some ⟨Ql v,i.toNat,none⟩))):=by
 intro n w G a hF hh
 rcases hh.ok _ (Y2 hj) with ⟨rfl,rfl⟩|⟨g,cap,cur,e,rfl,_⟩
 ·simp at hlt;omega
 ·have:=S1 (P:=P) (F:=F) (h:=h) hi h0 hlt n w G a hF hh
  simpa [Ql,Value.ownBlock] using this
def IR (P:Program) (ops:Array Oper) (F:Fr) (k:Nat):Option AV:=
 match (ZP ops k).op with
 | .load t x=>match D6 P t with
  | some false=>some (F.ev x)
  | _=>none
 | _=>none
theorem Zd7 (j:Nat) {v:Value} {ls:List AV} {i:Nat} {y:AV} (hl:IR P ops F k=some (.val (.pointer (some ⟨Ql v,i,none⟩)))) (hj:h[j]? = some (.vec v ls)) (hy:ls[i]? = some y) :
  XT P (ZP ops k) F h [Ql v] y:=by
 unfold IR at hl
 generalize hoo:ZP ops k=o at hl
 obtain ⟨dst,op,type,pos,after,guard⟩:=o
 cases op<;>simp only at hl<;>try (cases hl)
 rename_i t x
 split at hl
 ·rename_i hagg
  simp only [Wv] at hl
  intro n w G a hF hh
  have hv:=hF.ev x
  rw [hl] at hv
  have hv:=hv.val_inv
  have hlt:i<ls.length:=(Xh.1 hy).1
  rcases hh.ok _ (Y2 hj) with ⟨rfl,rfl⟩|⟨g,cap,cur,e,rfl,h1,h2,h3,h4⟩
  ·simp at hlt
  ·obtain ⟨c,c1,c2⟩:=h4.get i y hy
   refine ⟨c,c2,fun w' _ hw=>?_⟩
   have hrow:=hw (Ql (.slice (some ⟨g,0,none⟩) ls.length cap)) (by simp)
   simp only [Ql,Value.ownBlock,Option.getD_some] at hrow hv
   rw [h1] at hrow
   have hc:cur[i]? = some c:=by
    rw [Q6,Zk hlt] at c1
    simpa using c1
   simp only [execOp,hv]
   refine VA ?_
   simp only [Instr.loadAt,Instr.sureAddr,Sem.run_bind,Sem.run_pure,Result.andThen_ok,loadVar,Ex hagg]
   have:=cell_of_row w' g i cur e (0,0) hrow
   rw [hc] at this
   simp [load,Sem.run,this]
 ·cases hl
theorem Pc {K:Fr->List Res->Prop} {v:Value} {ls:List AV} {i:Nat} {y:AV} (hs:storeAt P ops F k=some (Ql v,i,[y])) (hlt:i<ls.length)
  (hK:K F (.vec v (ls.set i y)::h2)):WK P n (ZP ops k) F (.vec v ls::h2) K:=by
 unfold storeAt at hs
 generalize hoo:ZP ops k=q at hs
 obtain ⟨dst,op,type,pos,after,guard⟩:=q
 cases op<;>simp only at hs<;>try (cases hs)
 rename_i t x z
 split at hs
 ·rename_i b' o' inf hx hi
  split at hs
  ·rename_i hc
   simp only [Xo] at hc
   simp only [Wv,Prod.mk.injEq] at hs
   obtain ⟨rfl,rfl,hz⟩:=hs
   intro Q w G a hF hh
   have hvx:=hF.ev x
   rw [hx] at hvx
   have hvx:=hvx.val_inv
   have hvy:=hF.ev z
   have hcs:=hvy.cells hc.2.1
   rw [hz] at hcs hc
   have hone:=hcs.one_cells hc.2.2
   have XL:inf.size=1:=T7 hc.1
   have hlen:(a.eval z).cells.size=1:=by have:=hcs.length;simpa using this
   rcases hh.ok (.vec v ls) (Xm ..) with ⟨rfl,rfl⟩|⟨g,cap,cur,e,rfl,h1,h3,h4,h5⟩
   ·simp at hlt
   ·simp only [Ql,Value.ownBlock,Option.getD_some] at hvx
    have hst:=run_storeCells_at P g o' e (a.eval z).cells.toList 0 cur w h1 (by simp [hlen];omega) hone
    simp only [BB,Jp] at hst
    have hr:(execOp a.eval { dst:=none,op:=.store t x z,type:=type,pos:=pos,after:=after,guard:=guard }).run P w =
      .ok .skip (w.setRow g (cur.toList.take o'++(a.eval z).cells.toList++cur.toList.drop (o'+(a.eval z).cells.size)).toArray):=by
     simp only [execOp,hvx]
     simp [Instr.storeAt,Instr.sureAddr,storeVar,QN hi,hlen,XL,hst]
    unfold Oper.wp
    rw [hr]
    have hset:ls.set o' y=ls.take o'++[y]++ls.drop (o'+1):=(Rq ls o' y hlt).symm
    obtain ⟨j1,j2⟩:=hh.vwrite (ls':=ls.set o' y) (n':=ls.length) (cs':=(cur.toList.take o'++(a.eval z).cells.toList++cur.toList.drop (o'+(a.eval z).cells.size)).toArray) h1
     (by simp [hlen];omega) (by simp) (by simpa using h3) h4 (by
      obtain ⟨c,Z9⟩:∃c,(a.eval z).cells.toList=[c]:=by
       have:=hcs.length
       cases hq:(a.eval z).cells.toList with
       | nil=>rw [hq] at this;simp at this
       | cons c r=>cases r with
        | nil=>exact ⟨c,rfl⟩
        | cons _ _=>rw [hq] at this;simp at this
      rw [Z9] at hcs
      have hlt':o'<cur.toList.length:=by simp [h4];omega
      rw [EM,Z9,hlen,Rq cur.toList o' c hlt',VC,List.take_set]
      cases hcs with
      | cons hcc _=>exact h5.set o' hcc)
    refine ⟨F,_,G,hK,?_,j1,j2⟩
    have:=hF.mono (j2.agree hh)
    simpa [Act.put] using this
  ·cases hs
 ·cases hs
theorem Z9a {K:Fr->List Res->Prop} {v:Value} {ls xs:List AV} {hx:Option Value} (hd:VP n (ZP ops k)=true) (ha:Tz P ops F k=some (.val v,.sl xs hx,1))
  (hxs:∀y∈xs,y.leaves=[y]) (hone:xs.all AV.one=true) (hbound:ls.length+xs.length<=4294967296)
  (hK:∀v',K (F.put (ZP ops k).dst (.val v')) (.vec v' (ls++xs)::h2)):WK P n (ZP ops k) F (.vec v ls::h2) K:=by
 unfold Tz at ha
 generalize hoo:ZP ops k=o at ha hd hK
 obtain ⟨dst,op,type,pos,after,guard⟩:=o
 cases op<;>simp only at ha<;>try (cases ha)
 rename_i c
 obtain ⟨callee,args,tys⟩:=c
 simp only at ha
 split at ha
 case h_2=>cases ha
 rename_i s x t t' hargs htys
 split at ha
 case h_2=>cases ha
 rename_i e htt ht
 have:=T7 htt
 subst this
 split at ha
 case h_2=>cases ha
 rename_i i hinfo
 split at ha
 case h_2=>cases ha
 rename_i z hz
 split at ha
 case h_2=>cases ha
 rename_i hb
 simp only [Xo] at hb
 simp only [Wv,Prod.mk.injEq] at ha
 obtain ⟨h3,h4,hk1⟩:=ha
 have e1:args=#[s,x]:=by rw [<-Ti (xs:=args),hargs]
 have e2:tys=#[t,t]:=by rw [<-Ti (xs:=tys),htys]
 subst e1;subst e2
 have hzs:z.cells.size=1:=by rw [T7 hb.1,hk1]
 have hby:=V2 hb.2
 have hflat:Ze xs=xs:=by
  clear hone hbound hK h4
  induction xs with
  | nil=>rfl
  | cons y r ih=>simp only [Ze,Bx,hxs y (by simp),List.singleton_append];rw [show r.flatMap AV.leaves=Ze r from rfl,ih fun q hq=>hxs q (by simp [hq])]
 have hlen1:∀y∈xs,y.leaves.length=1:=fun y hy=>by rw [hxs y hy];rfl
 intro Q w G a hF hh
 have v1:=hF.ev s
 have v2:=hF.ev x
 rw [h3] at v1
 rw [h4] at v2
 have v1:=v1.val_inv
 have v2:=v2.forget
 have finish:∀v' w',(Builtin.append_ #[t,t] type #[v,a.eval x]).run P w=.ok v' w'->YE w' G (.vec v' (ls++xs)::h2)->X1 w G (.vec v ls::h2) w' G (.vec v' (ls++xs)::h2) ->
   ({ dst:=dst,op:=.call { callee:=.builtin .append,args:=#[s,x],argTypes:=#[t,t] },type:=type,pos:=pos,after:=after,guard:=guard }:Oper).wp P a w
    (fun a' w'=>∃F' h' G',K F' h'/\FR w' G' n F' a'/\YE w' G' h'/\X1 w G (.vec v ls::h2) w' G' h') Q:=by
  intro v' w' hr j1 j2
  have hrun:(execOp a.eval { dst:=dst,op:=.call { callee:=.builtin .append,args:=#[s,x],argTypes:=#[t,t] },type:=type,pos:=pos,after:=after,guard:=guard }).run P w=.ok (.value v') w':=by
   simp only [execOp,resolve,invoke,builtin,Sem.run_bind,Sem.run_pure,Result.andThen_ok,EK,T6,EJ,v1,hr]
  unfold Oper.wp
  rw [hrun]
  exact ⟨_,_,G,hK v',(hF.mono (j2.agree hh)).put (TR hd) .val,j1,j2⟩
 have hvec:=hh.ok (.vec v ls) (Xm ..)
 have hsub2:∀r:Res,List.Sublist (r::h2) (r::.vec v ls::h2):=fun r=>List.Sublist.cons_cons _ (BA _ _)
 have grown:∀(olds news:List Value) (old:Nat),YT w G ls olds->YT w G xs news ->
   YE (w.drew.alloc (.cells (olds.toArray++news.toArray++Builtin.zeroCells z.cells (grownCap w (ls.length+xs.length) old e-(ls.length+xs.length))) e)) G
    (.vec (.slice (some ⟨w.heap.size,0,none⟩) (ls.length+xs.length) (grownCap w (ls.length+xs.length) old e)) (ls++xs)::h2) /\
   X1 w G (.vec v ls::h2) (w.drew.alloc (.cells (olds.toArray++news.toArray++Builtin.zeroCells z.cells (grownCap w (ls.length+xs.length) old e-(ls.length+xs.length))) e)) G
    (.vec (.slice (some ⟨w.heap.size,0,none⟩) (ls.length+xs.length) (grownCap w (ls.length+xs.length) old e)) (ls++xs)::h2):=by
  intro olds news old ho hn
  have Xf:=grownCap_ge w (ls.length+xs.length) old e
  have hol:=ho.length
  have hnl:=hn.length
  obtain ⟨j1,j2⟩:=hh.drew.alloc_vec (olds.toArray++news.toArray++Builtin.zeroCells z.cells (grownCap w (ls.length+xs.length) old e-(ls.length+xs.length))) e
   (ls:=ls++xs) (cap:=grownCap w (ls.length+xs.length) old e) (by simpa using Xf)
   (by simp only [Array.size_append,EL,size_zeroCells,hzs,hol,hnl,AN];omega)
   (by
    have:(olds.toArray++news.toArray++Builtin.zeroCells z.cells (grownCap w (ls.length+xs.length) old e-(ls.length+xs.length))).toList.take (ls++xs).length=olds++news:=by
     simp only [GW,Yl]
     rw [<-hol,<-hnl,<-Yl]
     exact Jr
    rw [this]
    exact (ho.append hn).mono (AT w G))
  rw [Yl] at j1 j2
  exact ⟨j1.sub (hsub2 _),(X1.drew w G _).trans (j2.sub' (hsub2 _))⟩
 by_cases hxe:xs=[]
 ·subst hxe
  obtain ⟨ad,cap,hform⟩:=BF.form hvec
  have hle:ls.length<=cap:=by
   rcases hvec with ⟨rfl,rfl⟩|⟨g,cap',cur,el,rfl,_,hc,_⟩
   ·simp
   ·cases hform;exact hc
  subst hform
  cases v2q:a.eval x with
  | slice ad' l' c'=>
   rw [v2q] at v2
   cases v2<;>exact finish _ _ (by rw [v2q];exact Dp ht hinfo hle w) (by simpa using hh) (by simpa using X1.refl w G _)
  | _=>rw [v2q] at v2;cases v2
 ·generalize hax:a.eval x=ax at v2 finish
  cases v2 with
  | nil _=>exact absurd rfl hxe
  | sl hq hcc hm=>
   rename_i b o' k' c
   have hpos:0<xs.length:=Bz.2 hxe
   have hfm:=hm.flat_mem
   rw [hflat] at hfm
   obtain ⟨news,hn,hnc⟩:=hfm.cells
   have hnl:news.length=xs.length*i.size:=by rw [hn.length,hk1,AN]
   have hone':=hn.one_cells hone
   have hnews:∀j u,news[j]? = some u->w.cell? ((⟨b,o',none⟩:Addr).add j)=some u:=fun j u hj=>by rw [KW];exact (hnc j u hj).1
   have hbb:(ls.length+xs.length)*i.bytes<=140737488355328:=by
    have:=Nat.mul_le_mul hbound hby
    omega
   rcases hvec with ⟨rfl,rfl⟩|⟨g,cap,cur,el,rfl,hrow,hlc,hcur,hcells⟩
   ·have hr:=run_append_nil (P:=P) w t type e i z ht hinfo hz ⟨b,o',none⟩ xs.length c news hnl hnews hpos (by simp at hbound;omega) (by simp at hbb;omega)
    obtain ⟨j1,j2⟩:=grown [] news 0 .nil hn
    simp only [X5,Wh,Array.empty_append,Cu] at j1 j2
    exact finish _ _ hr (by simpa using j1) (by simpa using j2)
   ·by_cases hroom:ls.length+xs.length<=cap
    ·have hfit:ls.length*i.size+news.length<=cur.size:=by rw [hnl,hcur,hk1];omega
     have hr:=Lk (P:=P) w t type e el i ht hinfo g ls.length cap cur hrow ⟨b,o',none⟩ xs.length c news hnl hnews hone' hroom hfit
     rw [hk1,AN] at hr
     have hnl':news.length=xs.length:=by rw [hnl,hk1,AN]
     obtain ⟨j1,j2⟩:=hh.vwrite (ls':=ls++xs) (n':=ls.length+xs.length) (cs':=(cur.toList.take ls.length++news++cur.toList.drop (ls.length+news.length)).toArray) hrow
      (by simp [hnl',hcur];omega) (by simp) (by simpa using hroom) hcur (by
       have h1:(cur.toList.take ls.length).length=ls.length:=by simp [hcur];omega
       have:(cur.toList.take ls.length++news++cur.toList.drop (ls.length+news.length)).toArray.toList.take (ls++xs).length=cur.toList.take ls.length++news:=by
        rw [EM,Yl,<-hnl']
        conv=>lhs;arg 1;rw [show ls.length+news.length=(cur.toList.take ls.length++news).length from by rw [Yl,h1]]
        exact Jr
       rw [this]
       exact hcells.append hn)
     exact finish _ _ hr j1 j2
    ·have hr:=run_append_grow (P:=P) w t type e i z ht hinfo hz ⟨g,0,none⟩ ls.length cap (cur.toList.take ls.length) (by rw [hk1];simp [hcur];omega) (fun j u hj=>by
      rw [KW,cell_of_row w g _ cur el (0,0) hrow]
      rw [Q6] at hj
      split at hj
      ·simpa using hj
      ·cases hj) ⟨b,o',none⟩ xs.length c news hnl hnews om om (growslice_fits om hbb)
     obtain ⟨j1,j2⟩:=grown (cur.toList.take ls.length) news cap hcells hn
     exact finish _ _ hr j1 j2
end
inductive Kl (h:List Res):AV->Prop
 | val {v}:Kl h (.val v)
 | any:Kl h .any
 | nil {hv}:Kl h (.sl [] hv)
 | own {es:List AV} {v:Value} {k:Nat} (he:∀y∈es,∃u,y=.val u) (ht:Res.tail v k∈h):Kl h (.sl es (some v))
 | tup {vs:List AV} (hv:∀y∈vs,Kl h y):Kl h (.tup vs)
 | agg {vs:List AV} (hv:∀y∈vs,Kl h y):Kl h (.agg vs)
def EQ:Res->Prop
 | .obj _ ls=>∀y∈ls,∃u,y=.val u
 | .vec _ ls=>∀y∈ls,∃u,y=.val u
 | .row _ _ ls=>∀y∈ls,∃u,y=.val u
 | _=>True
theorem YT.vals {w w':World} {G G':Yg}:∀{xs:List AV} {vs:List Value},(∀y∈xs,∃u,y=.val u)->YT w G xs vs->YT w' G' xs vs
 | _,_,_,.nil=>.nil
 | x::_,_::_,hv,.cons h t=>by
  obtain ⟨u,rfl⟩:=hv x (Xm ..)
  have:=h.val_inv
  subst this
  exact .cons .val (t.vals fun y hy=>hv y (XE _ hy))
theorem OR {w:World} {G G':Yg} {b:Nat} (hG:∀o,G b o->G' b o):∀{o:Nat} {xs:List AV},(∀y∈xs,∃u,y=.val u)->Wr w G b o xs->Wr w G' b o xs
 | _,_,_,.nil=>.nil
 | _,x::_,hv,.cons hc hg h t=>by
  obtain ⟨u,rfl⟩:=hv x (Xm ..)
  have:=h.val_inv
  subst this
  exact .cons hc (hG _ hg) .val (OR hG (fun y hy=>hv y (XE _ hy)) t)
theorem N0 {w:World} {G G':Yg} {b k:Nat} (hG:∀o,G b o->G' b o):∀{o:Nat} {xs:List AV},(∀y∈xs,∃u,y=.val u)->V4 w G k b o xs->V4 w G' k b o xs
 | _,_,_,.nil=>.nil
 | _,x::_,hv,.cons hl h t=>by
  obtain ⟨u,rfl⟩:=hv x (Xm ..)
  refine .cons hl (OR hG (fun y hy=>?_) h) (N0 hG (fun y hy=>hv y (XE _ hy)) t)
  simp [AV.leaves] at hy
  exact ⟨u,hy⟩
theorem YT.clean {w:World} {G G':Yg} (P:AV->Prop) (hP:∀x v,P x->RV w G x v->RV w G' x v):∀{xs:List AV} {vs:List Value},(∀y∈xs,P y)->YT w G xs vs->YT w G' xs vs
 | _,_,_,.nil=>.nil
 | x::_,_::_,hv,.cons h t=>.cons (hP _ _ (hv x (Xm ..)) h) (t.clean P hP fun y hy=>hv y (XE _ hy))
theorem RV.clean {w:World} {G G':Yg} {h:List Res} (hG:∀v k g,Res.tail v k∈h->v.ownBlock=some g->∀o,G g o->G' g o) {r:AV} (hc:Kl h r):∀{v:Value},RV w G r v->RV w G' r v:=by
 induction hc with
 | val=>intro v hv;cases hv;exact .val
 | any=>intro v hv;exact .any
 | nil=>
  intro v hv
  cases hv with
  | nil hq=>exact .nil hq
  | sl hq hc hm=>exact .sl (k:=0) hq hc .nil
 | own he ht=>
  intro v hv
  cases hv with
  | nil hq=>exact .nil hq
  | sl hq hc hm=>
   have e:=hq _ rfl
   exact .sl hq hc (N0 (fun o hg=>hG _ _ _ ht (by rw [e];rfl) o hg) he hm)
 | tup hv ih=>
  intro v hvv
  cases hvv with
  | tup hc=>exact .tup (hc.clean (fun x=>∀{v:Value},RV w G x v->RV w G' x v) (fun x v hp hx=>hp hx) ih)
 | agg hv ih=>
  intro v hvv
  cases hvv with
  | agg hc=>exact .agg (hc.clean (fun x=>∀{v:Value},RV w G x v->RV w G' x v) (fun x v hp hx=>hp hx) ih)
theorem YE.lend {w:World} {G:Yg}:∀{bs h:List Res},(∀r∈bs,∃v ls,r=.vec v ls/\∀y∈ls,∃u,y=.val u)->YE w G (h++bs) ->
  ∃Gb:Yg,(∀b o,G b o->Gb b o)/\(∀b o,Gb b o->G b o∨Vh bs b o)/\YE w Gb h /\
   (∀v ls,Res.vec v ls∈bs->∀m,m<=ls.length->RV w Gb (.sl (ls.take m) none) (JY v m)/\RV w Gb (.sl ls none) v):=by
 intro bs h hb hh
 let Gb:Yg:=fun b o=>G b o∨∃v ls,Res.vec v ls∈bs/\v.ownBlock=some b/\o<ls.length
 have hsub:∀b o,G b o->Gb b o:=fun _ _ h=>.inl h
 have hfp:∀b o,Gb b o->G b o∨Vh bs b o:=fun b o hg=>hg.imp id fun ⟨v,ls,hm,ho,_⟩=>⟨_,hm,by
  cases v with
  | slice a l c=>cases a with
   | none=>simp [Value.ownBlock] at ho
   | some a=>simp only [Value.ownBlock,Wv] at ho;exact ho.symm
  | _=>simp [Value.ownBlock] at ho⟩
 have hA:VK G w w Gb:=⟨fun _ _ _=>rfl,hsub⟩
 refine ⟨Gb,hsub,hfp,⟨fun r hr=>?_,hh.left.apart,fun r hr b o hf hg=>?_,fun b o hg=>?_⟩,fun v ls hm m hmle=>?_⟩
 ·have h0:=hh.ok r (Xj.2 (.inl hr))
  cases r with
  | obj b ls=>obtain ⟨cs,e,h1,h2⟩:=h0;exact ⟨cs,e,h1,h2.mono hA⟩
  | tail v k=>exact h0
  | ge s=>exact h0
  | vec v ls=>
   rcases h0 with ⟨rfl,h0⟩|⟨g,cap,cur,el,rfl,h1,h2,h3,h4⟩
   ·exact .inl ⟨rfl,h0⟩
   ·exact .inr ⟨g,cap,cur,el,rfl,h1,h2,h3,h4.mono hA⟩
  | many ts=>exact h0
  | own B m=>exact h0
  | row v k ls=>
   rcases h0 with ⟨rfl,h0⟩|⟨g,len,cap,cur,el,rfl,h1,h2,h3,h4,h5⟩
   ·exact .inl ⟨rfl,h0⟩
   ·exact .inr ⟨g,len,cap,cur,el,rfl,h1,h2,h3,h4,h5.mono hA⟩
 ·rcases hfp b o hg with h1|h1
  ·exact hh.prot r (Xj.2 (.inl hr)) b o hf h1
  ·exact hh.cross ⟨r,hr,hf⟩ h1
 ·rcases hfp b o hg with h1|⟨r,hr,hf⟩
  ·exact hh.lt b o h1
  ·exact (hh.ok r (Xj.2 (.inr hr))).lt b o hf
 ·have h0:=hh.ok _ (Xj.2 (.inr hm))
  obtain ⟨v',ls',e,hval⟩:=hb _ hm
  cases e
  rcases h0 with ⟨rfl,rfl⟩|⟨g,cap,cur,el,rfl,h1,h2,h3,h4⟩
  ·have:m=0:=by simpa using hmle
   subst this
   exact ⟨.nil (by simp),.nil (by simp)⟩
  ·have hmem:Wr w Gb g 0 ls:=by
    refine Wr.of_cells (h4.mono hA) fun j u hj=>?_
    have hjl:j<ls.length:=by
     have:=(Xh.1 hj).1
     have h5:=h4.length
     omega
    rw [Q6,Zk hjl] at hj
    refine ⟨?_,.inr ⟨_,_,hm,rfl,by omega⟩⟩
    rw [Wh,cell_of_row w g j cur el (0,0) h1]
    simpa using hj
   have hels:∀(l:List AV),(∀y∈l,∃u,y=.val u)->Ze l=l:=by
    intro l
    induction l with
    | nil=>intro _;rfl
    | cons y r ih=>
     intro hy
     obtain ⟨u,rfl⟩:=hy y (Xm ..)
     simp only [Ze,Bx,AV.leaves,List.singleton_append]
     rw [show r.flatMap AV.leaves=Ze r from rfl,ih fun z hz=>hy z (XE _ hz)]
   have hE:V4 w Gb 1 g 0 ls:=V4.of_flat ls (fun y hy=>by obtain ⟨u,rfl⟩:=hval y hy;rfl) (by rw [hels ls hval];exact hmem)
   refine ⟨?_,.sl (by simp) h2 hE⟩
   have hl:(ls.take m).length=m:=by simp [hmle]
   show RV w Gb (.sl (ls.take m) none) (.slice (some ⟨g,0,none⟩) m cap)
   conv=>arg 4;rw [<-hl]
   exact .sl (by simp) om (hE.take m)
inductive Tv (bs:List Res):List AV->List AV->Prop
 | nil:Tv bs [] []
 | same {x as1 xs} (t:Tv bs as1 xs):Tv bs (x::as1) (x::xs)
 | lent {v ls as1 xs} (h:Res.vec v ls∈bs) (t:Tv bs as1 xs):Tv bs (.val v::as1) (.sl ls none::xs)
 | cut {v ls m as1 xs} (h:Res.vec v ls∈bs) (hm:m<=ls.length) (t:Tv bs as1 xs):Tv bs (.val (JY v m)::as1) (.sl (ls.take m) none::xs)
theorem Tv.rcs {w:World} {G Gb:Yg} {bs:List Res} (hA:VK G w w Gb)
  (hb:∀v ls,Res.vec v ls∈bs->∀m,m<=ls.length->RV w Gb (.sl (ls.take m) none) (JY v m)/\RV w Gb (.sl ls none) v) :
  ∀{as1 xs:List AV} {vs:List Value},Tv bs as1 xs->YT w G as1 vs->YT w Gb xs vs
 | _,_,_,.nil,.nil=>.nil
 | _,_,_,.same t,.cons h r=>.cons (h.mono hA) (t.rcs hA hb r)
 | _,_,_,.lent hm t,.cons h r=>by
  have:=h.val_inv
  subst this
  exact .cons (hb _ _ hm 0 (QS _)).2 (t.rcs hA hb r)
 | _,_,_,.cut hm hle t,.cons h r=>by
  have:=h.val_inv
  subst this
  exact .cons (hb _ _ hm _ hle).1 (t.rcs hA hb r)
theorem WP.lend {P:Program} {f:FuncId} {as1 xs:List AV} {h1:List Res} (bs:List Res) {R:AV->List Res->Prop} (H:WP P f xs h1 R) (hargs:Tv bs as1 xs)
  (hb:∀r∈bs,∃v ls,r=.vec v ls/\∀y∈ls,∃u,y=.val u) (hclean:∀r h',R r h'->Kl h' r/\∀q∈h',EQ q) :
  WP P f as1 (h1++bs) (fun r h'=>∃h1',R r h1'/\h'=h1'++bs):=by
 intro w G vs hvs hh
 obtain ⟨Gb,g1,g2,g3,g4⟩:=YE.lend hb hh
 have hA:VK G w w Gb:=⟨fun _ _ _=>rfl,g1⟩
 refine (H w Gb vs (hargs.rcs hA g4 hvs) g3).mono ?_
 rintro e w' ⟨v,r,h',G',rfl,hR,hv,hh',hx⟩
 obtain ⟨c1,c2⟩:=hclean r h' hR
 let G2:Yg:=fun b o=>G' b o/\¬(Vh bs b o)
 have hbslt:∀b o,Vh bs b o->b<w.heap.size:=fun b o ⟨q,hq,hf⟩=>(hh.ok q (Xj.2 (.inr hq))).lt b o hf
 have hwhole:∀b o o',Vh bs b o->Vh bs b o':=fun b o o' ⟨q,hq,hf⟩=>⟨q,hq,by
  obtain ⟨v,ls,rfl,_⟩:=hb q hq
  cases v with
  | slice a l c=>cases a with
   | none=>exact hf.elim
   | some a=>exact hf
  | _=>exact hf.elim⟩
 have hGkeep:∀b o,G b o->G2 b o:=fun b o hg=>⟨hx.sub b o (g1 b o hg),fun ⟨q,hq,hf⟩=>hh.prot q (Xj.2 (.inr hq)) b o hf hg⟩
 have hnew:∀v k g,Res.tail v k∈h'->v.ownBlock=some g->∀o,G' g o->G2 g o:=by
  intro v k g hm hg o hgo
  refine ⟨hgo,fun hf=>?_⟩
  have hlt:=hbslt _ _ hf
  rcases hh'.ok _ hm with rfl|⟨g',len,cap,cur,el,rfl,t1,t2,t3⟩
  ·simp [Value.ownBlock] at hg
  ·simp only [Value.ownBlock,Wv] at hg
   subst hg
   have hfp:Vh h' g' (len*k):=⟨_,hm,rfl,X7 _⟩
   exact hh.cross (hx.newfp g' (len*k) hlt hfp) (hwhole _ _ _ hf)
 have e1:X1 w G h1 w' G2 h':=⟨hx.os,hx.tape,hx.output,hx.size,hGkeep,hx.same,fun b o hb' hg=>by
  rcases hx.newG b o hb' hg.1 with h|h
  ·rcases g2 b o h with h|h
   ·exact .inl h
   ·exact absurd h hg.2
  ·exact .inr h,hx.newfp⟩
 have e2:YE w' G2 h':=⟨fun q hq=>by
   have h0:=hh'.ok q hq
   have hcq:=c2 q hq
   cases q with
   | obj b ls=>obtain ⟨cs,el,k1,k2⟩:=h0;exact ⟨cs,el,k1,k2.vals hcq⟩
   | tail v k=>exact h0
   | ge s=>exact h0
   | vec v ls=>
    rcases h0 with ⟨rfl,h0⟩|⟨g,cap,cur,el,rfl,k1,k2,k3,k4⟩
    ·exact .inl ⟨rfl,h0⟩
    ·exact .inr ⟨g,cap,cur,el,rfl,k1,k2,k3,k4.vals hcq⟩
   | many ts=>exact h0
   | own B m=>exact h0
   | row v k ls=>
    rcases h0 with ⟨rfl,h0⟩|⟨g,len,cap,cur,el,rfl,k1,k2,k3,k4,k5⟩
    ·exact .inl ⟨rfl,h0⟩
    ·exact .inr ⟨g,len,cap,cur,el,rfl,k1,k2,k3,k4,k5.vals hcq⟩,hh'.apart,fun q hq b o hf hg=>hh'.prot q hq b o hf hg.1,fun b o hg=>hh'.lt b o hg.1⟩
 obtain ⟨f1,f2⟩:=hh.frame e1 e2
 exact ⟨v,r,h'++bs,G2,rfl,⟨h',hR,rfl⟩,RV.clean hnew c1 hv,f1,f2⟩
section
variable {P:Program} {n:Nat} {ops:Array Oper} {B:Fr->List Res->Prop} {k:Nat} {F:Fr} {h h2:List Res}
def Dr (P:Program) (ops:Array Oper) (F:Fr) (k:Nat):Option (AV × Int):=
 match (ZP ops k).op with
 | .slice t x none (some hi) none=>match P.underlying t with
  | some (.slice e)=>match P.info? e with
   | some _=>match F.ev hi with
    | .val (.int _ m)=>some (F.ev x,m)
    | _=>none
   | none=>none
  | _=>none
 | _=>none
theorem Zd8 (j:Nat) {v:Value} {ls:List AV} {m:Nat} (hi:Dr P ops F k=some (.val v,(m:Int))) (hj:h[j]? = some (.vec v ls)) (hle:m<=ls.length) :
  XT P (ZP ops k) F h [] (.val (JY v m)):=by
 unfold Dr at hi
 generalize hoo:ZP ops k=o at hi
 obtain ⟨dst,op,type,pos,after,guard⟩:=o
 cases op<;>simp only at hi<;>try (cases hi)
 rename_i t x lo hi' mx
 cases lo with
 | some _=>simp at hi
 | none=>
  cases hi' with
  | none=>simp at hi
  | some y=>
   cases mx with
   | some _=>simp at hi
   | none=>
    simp only at hi
    split at hi
    ·rename_i e ht
     split at hi
     ·rename_i inf hinf
      split at hi
      ·rename_i ik m' hm
       simp only [Wv,Prod.mk.injEq] at hi
       obtain ⟨hx,rfl⟩:=hi
       intro n w G a hF hh
       have v1:=hF.ev x
       rw [hx] at v1
       have v1:=v1.val_inv
       have v2:=hF.ev y
       rw [hm] at v2
       have v2:=v2.val_inv
       have hvec:=hh.ok _ (Y2 hj)
       obtain ⟨ad,cap,hform⟩:=BF.form hvec
       have hcap:ls.length<=cap:=by
        rcases hvec with ⟨rfl,rfl⟩|⟨g,cap',cur,el,rfl,_,hc,_⟩
        ·simp
        ·cases hform;exact hc
       subst hform
       refine ⟨_,.val,fun w' _ _=>?_⟩
       have Zc:=fun c=>Ey (P:=P) (c:=c) (v:=.int ik (m:Int)) (y:=cap) rfl om om w'
       simp only [execOp,v1,v2,EO,Option.map_none]
       refine VA ?_
       simp only [Instr.sliceAt,Sem.run_bind,Ui ht,Result.andThen_ok,Instr.slice]
       have hmm:(Instr.sliceBounds true ls.length cap none (some (.int ik (m:Int))) none).run P w'=.ok (0,m,cap) w':=by simp [Instr.sliceBounds,Zc]
       rw [hmm]
       have hz:∀a:Addr,a.add 0=a:=fun a=>by simp [Addr.add]
       simp only [Result.andThen_ok,QN hinf,Nat.zero_mul,hz,JY]
       simp
      ·cases hi
     ·cases hi
    ·cases hi
theorem Ze2 {w:World} {G:Yg} {v:Value} {ls:List AV} {m:Nat} (hh:YE w G (.vec v ls::h2)) (hle:m<=ls.length) :
  YE w G (.vec (JY v m) (ls.take m)::h2)/\X1 w G (.vec v ls::h2) w G (.vec (JY v m) (ls.take m)::h2):=by
 have hpw:=V1.1 hh.apart
 have hfp:∀b o,Res.fp (.vec (JY v m) (ls.take m)) b o->Res.fp (.vec v ls) b o:=by
  intro b o hf
  cases v with
  | slice a l c=>cases a with
   | none=>exact hf.elim
   | some a=>exact hf
  | _=>exact hf
 refine ⟨⟨fun r hr=>?_,V1.2 ⟨fun r hr b o h1 h2=>hpw.1 r hr b o (hfp b o h1) h2,hpw.2⟩,fun r hr b o hf hg=>?_,hh.lt⟩,⟨rfl,rfl,rfl,X7 _,fun _ _ h=>h,fun _ _=>.inl rfl,fun _ _ _ h=>.inl h,?_⟩⟩
 ·rcases YM.1 hr with rfl|hr
  ·rcases hh.ok _ (Xm ..) with ⟨rfl,rfl⟩|⟨g,cap,cur,e,rfl,h1,h3,h4,h5⟩
   ·have:m=0:=by simpa using hle
    subst this
    exact .inl ⟨rfl,rfl⟩
   ·refine .inr ⟨g,cap,cur,e,by simp [JY,hle],h1,by simp;omega,h4,?_⟩
    have:=h5.take m
    rw [List.take_take,VW hle] at this
    simpa [hle] using this
  ·exact hh.ok r (XE _ hr)
 ·rcases YM.1 hr with rfl|hr
  ·exact hh.prot _ (Xm ..) b o (hfp b o hf) hg
  ·exact hh.prot r (XE _ hr) b o hf hg
 ·rintro b o _ ⟨r,hr,hf⟩
  rcases YM.1 hr with rfl|hr
  ·exact ⟨_,Xm ..,hfp b o hf⟩
  ·exact ⟨r,XE _ hr,hf⟩
theorem Zdz {w:World} {G:Yg} {v:Value} {ls:List AV} (hh:YE w G (.vec v ls::h2)) (hls:∀y∈ls,y.leaves=[y]) :
  ∃G',YE w G' (.tail v 1::h2)/\X1 w G (.vec v ls::h2) w G' (.tail v 1::h2)/\RV w G' (.sl ls (some v)) v:=by
 have hpw:=V1.1 hh.apart
 rcases hh.ok _ (Xm ..) with ⟨rfl,rfl⟩|⟨g,cap,cur,e,rfl,h1,h3,h4,h5⟩
 ·obtain ⟨k1,k2⟩:=LK (sz:=1) (hh.sub (BA _ _))
  refine ⟨G,k1,⟨rfl,rfl,rfl,X7 _,fun _ _ h=>h,fun _ _=>.inl rfl,fun _ _ _ h=>.inl h,?_⟩,.nil (by simp)⟩
  rintro b o _ ⟨r,hr,hf⟩
  rcases YM.1 hr with rfl|hr
  ·exact hf.elim
  ·exact ⟨r,XE _ hr,hf⟩
 ·let G':Yg:=fun b o=>G b o∨(b=g/\o<ls.length)
  have hA:VK G w w G':=⟨fun _ _ _=>rfl,fun _ _ h=>.inl h⟩
  have hmem:Res.vec (.slice (some ⟨g,0,none⟩) ls.length cap) ls∈Res.vec (.slice (some ⟨g,0,none⟩) ls.length cap) ls::h2:=Xm ..
  refine ⟨G',⟨fun r hr=>?_,V1.2 ⟨fun r hr b o f1 f2=>hpw.1 r hr b o f1.1 f2,hpw.2⟩,fun r hr b o hf hg=>?_,fun b o hg=>?_⟩,
   ⟨rfl,rfl,rfl,X7 _,fun _ _ h=>.inl h,fun _ _=>.inl rfl,fun b o _ hg=>hg.imp id fun ⟨e1,_⟩=>⟨_,hmem,e1⟩,?_⟩,?_⟩
  ·rcases YM.1 hr with rfl|hr
   ·exact .inr ⟨g,ls.length,cap,cur,e,rfl,h1,h3,by rw [h4,AN]⟩
   ·have h0:=hh.ok r (XE _ hr)
    cases r with
    | obj b ks=>obtain ⟨cs,el,k1,k2⟩:=h0;exact ⟨cs,el,k1,k2.mono hA⟩
    | tail v k=>exact h0
    | ge s=>exact h0
    | vec v ks=>
     rcases h0 with ⟨rfl,h0⟩|⟨g2,cap2,cur2,el,rfl,k1,k2,k3,k4⟩
     ·exact .inl ⟨rfl,h0⟩
     ·exact .inr ⟨g2,cap2,cur2,el,rfl,k1,k2,k3,k4.mono hA⟩
    | many ts=>exact h0
    | own B m=>exact h0
    | row v k ks=>
     rcases h0 with ⟨rfl,h0⟩|⟨g2,len2,cap2,cur2,el,rfl,k1,k2,k3,k4,k5⟩
     ·exact .inl ⟨rfl,h0⟩
     ·exact .inr ⟨g2,len2,cap2,cur2,el,rfl,k1,k2,k3,k4,k5.mono hA⟩
  ·rcases YM.1 hr with rfl|hr2
   ·obtain ⟨hbg,hf2⟩:=hf
    rcases hg with hg|⟨_,hg⟩
    ·exact hh.prot _ hmem b o hbg hg
    ·rw [AN] at hf2;omega
   ·rcases hg with hg|⟨hbg,_⟩
    ·exact hh.prot r (XE _ hr2) b o hf hg
    ·exact hpw.1 r hr2 b o hbg hf
  ·rcases hg with hg|⟨rfl,_⟩
   ·exact hh.lt b o hg
   ·exact (UB.1 h1).1
  ·rintro b o _ ⟨r,hr,hf⟩
   rcases YM.1 hr with rfl|hr
   ·exact ⟨_,hmem,hf.1⟩
   ·exact ⟨r,XE _ hr,hf⟩
  ·have hflat:Ze ls=ls:=by
    clear h5 h3 hh hpw hmem hA h4
    induction ls with
    | nil=>rfl
    | cons y r ih=>
     simp only [Ze,Bx,hls y (Xm ..),List.singleton_append]
     rw [show r.flatMap AV.leaves=Ze r from rfl,ih fun q hq=>hls q (XE _ hq)]
   refine .sl (k:=1) (fun x hx=>by cases hx;rfl) h3 (V4.of_flat ls (fun y hy=>by rw [hls y hy];rfl) ?_)
   rw [hflat]
   refine Wr.of_cells (h5.mono hA) fun j u hj=>?_
   have hjl:j<ls.length:=by
    have:=(Xh.1 hj).1
    have h6:=h5.length
    omega
   rw [Q6,Zk hjl] at hj
   refine ⟨?_,.inr ⟨rfl,by omega⟩⟩
   rw [Wh,cell_of_row w g j cur e (0,0) h1]
   simpa using hj
end
section
variable {P:Program} {n:Nat} {ops:Array Oper} {B:Fr->List Res->Prop} {k:Nat} {F:Fr} {h h2:List Res}
variable {T:List (Nat × List Nat)} {fuel fuel':Nat} {done:List Nat}
theorem Z96 {K:Fr->List Res->Prop} {ls:List AV} {len:Nat} (hd:VP n (ZP ops k)=true) (ha:Te P ops F k=some (ls,len,1)) (hlen:ls.length=len)
  (hK:∀v,K (F.put (ZP ops k).dst (.val v)) (.vec v ls::h)):WK P n (ZP ops k) F h K:=by
 unfold Te at ha
 generalize hoo:ZP ops k=q at ha hd hK
 obtain ⟨dst,op,type,pos,after,guard⟩:=q
 cases op<;>simp only at ha<;>try (cases ha)
 rename_i t ln parts
 split at ha
 case h_2=>cases ha
 rename_i e ht
 split at ha
 case h_2=>cases ha
 rename_i i hi
 split at ha
 case h_2=>cases ha
 rename_i hc
 simp only [Xo] at hc
 split at ha
 case h_2=>cases ha
 rename_i ls' hf
 simp only [Wv,Prod.mk.injEq] at ha
 obtain ⟨rfl,rfl,XL⟩:=ha
 subst hlen
 intro Q w G a hF hh
 obtain ⟨cs,h1,h2⟩:=Gq hF parts ht hi rfl hc.1 hc.2 hf
 have hr:(execOp a.eval { dst:=dst,op:=.buildSlice t ls'.length parts,type:=type,pos:=pos,after:=after,guard:=guard }).run P w =
   .ok (.value (.slice (some ⟨w.heap.size,0,none⟩) ls'.length ls'.length)) (w.alloc (.cells cs e)):=by
  simp only [execOp]
  exact VA h2
 unfold Oper.wp
 rw [hr]
 have hlc:=h1.length
 simp only [Jp] at hlc
 obtain ⟨j1,j2⟩:=hh.alloc_vec cs e (ls:=ls') (cap:=ls'.length) (X7 _) hlc (by rw [<-hlc];simpa [WJ] using h1)
 exact ⟨_,_,G,hK _,(hF.mono (j2.agree hh)).put (TR hd) .val,j1,j2⟩
theorem Z6m (ls:List AV) {len:Nat} (hk:Xk n ops F k=true) (ha:Te P ops F k=some (ls,len,1)) (hlen:ls.length=len)
  (hK:∀v,SI P n ops B (k+1) (F.put (ZP ops k).dst (.val v)) (.vec v ls::h)):SI P n ops B k F h:=
 QB hk (Z96 (UI hk).2.1 ha hlen hK)
theorem Z6r (j:Nat) {v:Value} {ls:List AV} {i:Nat} {y:AV} (ls':List AV) (hk:Xk n ops F k=true) (hs:storeAt P ops F k=some (Ql v,i,[y])) (hp:Ux [j] h=some ([.vec v ls],h2))
  (hlt:i<ls.length) (he:ls.set i y=ls') (H:SI P n ops B (k+1) F (.vec v ls'::h2)):SI P n ops B k F h:=
 QB hk (WK.perm (Uc hp) (Pc hs hlt (by rw [he];exact H)))
theorem Z26 (i j:Nat) (js bs:List Nat) {v:Value} {ls:List AV} {q:Nat} {y:AV} (ls':List AV) (hk:Xk n ops F i=true) (hs:storeAt P ops F i=some (Ql v,q,[y]))
  (hp:Ux [j] h=some ([.vec v ls],h2)) (hlt:q<ls.length) (he:ls.set q y=ls') (ho:Uw ops i T=bs) (hj:js.map (fun j=>(WS h2)[j]?)=bs.map some)
  (H:X3 P n ops B (T.filter fun t=>!Vf ops i t.1) fuel (done++[i]) F (.vec v ls'::h2)):VL P n ops B T fuel done F h i:=
 JI [j] js bs hk hp ho hj (Pc (h2:=[]) hs hlt (by rw [he];exact H))
theorem Z6q (j:Nat) (ls':List AV) {v:Value} {ls xs:List AV} {hx:Option Value} (hk:Xk n ops F k=true) (ha:Tz P ops F k=some (.val v,.sl xs hx,1)) (hp:Ux [j] h=some ([.vec v ls],h2))
  (hxs:∀y∈xs,y.leaves=[y]) (hone:xs.all AV.one=true) (hbound:ls.length+xs.length<=4294967296) (he:ls++xs=ls')
  (hK:∀v',SI P n ops B (k+1) (F.put (ZP ops k).dst (.val v')) (.vec v' ls'::h2)):SI P n ops B k F h:=
 QB hk (WK.perm (Uc hp) (Z9a (UI hk).2.1 ha hxs hone hbound fun v'=>by rw [he];exact hK v'))
theorem Z1y (i:Nat) (f:FuncId) (as1 xs:List AV) (is js ks:List Nat) {h1:List Res} (bs:List Res) {R:AV->List Res->Prop} (hk:Xk n ops F i=true) (hc:JC P ops F i=some (f,as1))
  (hp:Ux is h=some (h1++bs,h2)) (ho:Uw ops i T=ks) (hj:js.map (fun j=>(WS h2)[j]?)=ks.map some)
  (H:WP P f xs h1 R) (hargs:Tv bs as1 xs) (hb:∀r∈bs,∃v ls,r=.vec v ls/\∀y∈ls,∃u,y=.val u)
  (hclean:∀r h',R r h'->Kl h' r/\∀q∈h',EQ q)
  (hK:∀r h',R r h'->X3 P n ops B (T.filter fun t=>!Vf ops i t.1) fuel (done++[i]) (F.put (ZP ops i).dst r) (h'++bs++h2)):VL P n ops B T fuel done F h i:=
 JI is js ks hk hp ho hj (IY (h2:=[]) (UI hk).2.1 hc (by simp) (H.lend bs hargs hb hclean) fun r h' ⟨h1',hr,he⟩=>by rw [he];simpa using hK r h1' hr)
def Ve (h h':List Res):Prop:=∀w G,YE w G h->∃G',YE w G' h'/\X1 w G h w G' h'
theorem Xi {h':List Res} (ht:Ve h h') (H:SI P n ops B k F h'):SI P n ops B k F h:=by
 intro Q w G a hF hh hk
 obtain ⟨G',h1,h2⟩:=ht w G hh
 exact H Q w G' a (hF.mono (h2.agree hh)) h1 fun F2 h2' G2 a2 w2 b1 b2 b3 b4=>hk F2 h2' G2 a2 w2 b1 b2 b3 (h2.trans b4)
theorem Zdl:Ve h (.vec (.slice none 0 0) []::h):=fun _ _ hh=>let ⟨a,b⟩:=Ze0 hh;⟨_,a,b⟩
theorem Zdm (j m:Nat) {v:Value} {ls:List AV} (hp:Ux [j] h=some ([.vec v ls],h2)) (hle:m<=ls.length):Ve h (.vec (JY v m) (ls.take m)::h2):=by
 intro w G hh
 have hp':=Uc hp
 obtain ⟨a,b⟩:=Ze2 (hh.perm hp') hle
 exact ⟨G,a,b.perm hp'.symm (Tu _)⟩
theorem Sf (is:List Nat) {h' d:List Res} (hp:Ux is h=some (h',d)):Ve h h':=by
 intro w G hh
 have hp':=Uc hp
 refine ⟨G,(hh.perm hp').left,?_⟩
 exact ((X1.refl w G h).perm (Tu _) hp').sub' (List.sublist_append_left _ _)
end
theorem So (xs:LI):∀y∈Z6 xs,∃u,y=AV.val u:=by intro y hy;simp only [Z6,XF] at hy;obtain ⟨x,_,rfl⟩:=hy;exact ⟨_,rfl⟩
theorem OD (xs:LI):∀y∈Z6 xs,y.leaves=[y]:=by intro y hy;simp only [Z6,XF] at hy;obtain ⟨x,_,rfl⟩:=hy;rfl
theorem Z8z (xs:LI):(Z6 xs).all AV.one=true:=by rw [JZ];intro y hy;simp only [Z6,XF] at hy;obtain ⟨x,_,rfl⟩:=hy;rfl
theorem Rp (xs:LI) (i:Nat) (x:Int):(Z6 xs).set i (.i x)=Z6 (xs.set i x):=by simp [Z6,List.map_set]
theorem JQ:∀r∈([]:List Res),∃v ls,r=Res.vec v ls/\∀y∈ls,∃u,y=AV.val u:=by simp
theorem KD {v:Value} {xs:LI} {bs:List Res} (h:∀r∈bs,∃v ls,r=Res.vec v ls/\∀y∈ls,∃u,y=AV.val u) :
  ∀r∈Res.vec v (Z6 xs)::bs,∃v ls,r=Res.vec v ls/\∀y∈ls,∃u,y=AV.val u:=by
 intro r hr
 rcases YM.1 hr with rfl|hr
 ·exact ⟨_,_,rfl,So xs⟩
 ·exact h r hr
section
variable {P:Program} {n:Nat} {c:Code} {A:WQ} {F:Fr} {h:List Res}
@[reducible] def Fb (K:Fr->List Res->Prop) (A:WQ):WQ:=fun e F h=>
 match e with
 | .normal=>∃F' h',K F' h'/\Ta F h F' h'
 | e=>A e F h
theorem SO {y:Code} (K:Fr->List Res->Prop) (H:Yx P n c (Fb K A) F h) (hB:∀F' h',K F' h'->Yx P n y A F' h'):Yx P n c (Bt P n y A) F h:=by
 refine M7 (fun e F1 h1 hq=>?_) H
 cases e with
 | normal=>obtain ⟨F',h',k1,k2⟩:=hq;exact Cx k2 (hB F' h' k1)
 | exit id=>exact hq
 | goto l=>exact hq
 | ret=>exact hq
 | panic ch=>exact hq
 | outgrown=>exact hq
theorem Yb {ops:Array Oper} {B:Fr->List Res->Prop} {k:Nat} {F2:Fr} {h2:List Res} (hw:Ta F h F2 h2) (J:SI P n ops B k F2 h2):SI P n ops B k F h:=Gt hw J
theorem SN {y:Code} {A2:WQ} (K:Fr->List Res->Prop) (hA:∀F h,A .normal F h=Yx P n y A2 F h) (H:Yx P n c (Fb K A) F h) (hB:∀F' h',K F' h'->Yx P n y A2 F' h'):Yx P n c A F h:=by
 refine M7 (fun e F1 h1 hq=>?_) H
 cases e with
 | normal=>obtain ⟨F',h',k1,k2⟩:=hq;rw [hA];exact Cx k2 (hB F' h' k1)
 | exit id=>exact hq
 | goto l=>exact hq
 | ret=>exact hq
 | panic ch=>exact hq
 | outgrown=>exact hq
end
end Go.Abs
section
namespace Go.Abs
inductive Keep:Fr->Fr->Prop
 | z {F:Fr}:Keep F []
 | r {F:Fr}:Keep F F
 | k {F F':Fr} {x:Nat × AV} (h:Keep F F'):Keep (x::F) (x::F')
 | d {F F':Fr} {x:Nat × AV} (h:Keep F F'):Keep (x::F) F'
 | p {F F':Fr} {d:Option Tmp} {x:AV} (h:Keep F F'):Keep (F.put d x) F'
 | q {F F':Fr} {d:Option Tmp} {x:AV} (t:Nat) (h:Keep F F'):Keep (F.put d x) ((t,x)::F')
 | n {F F':Fr} (t:Nat) (x:AV) (h:Keep F F'):Keep F ((t,x)::F')
def XA (is:List Nat) (h:List Res):List Res:=((Ux is h).map (·.2)).getD []
def W6 (is:List Nat) (h:List Res):Option (List Res):=(Ux is h).map (·.1)
theorem Vy {is:List Nat} {h h1:List Res} (hp:W6 is h=some h1):Ux is h=some (h1,XA is h):=by
 unfold W6 at hp
 unfold XA
 cases hq:Ux is h with
 | none=>rw [hq] at hp;cases hp
 | some x=>rw [hq] at hp;cases hp;rfl
abbrev Z3 (xs:LI):AV:=.sl (Z6 xs) none
abbrev Db (xs:List LI):AV:=.sl (V6 xs) none
abbrev QE (xs:List Yj):AV:=.sl (Wk xs) none
abbrev Ya (xs:List Zb):AV:=.sl (YR xs) none
abbrev Vb (xs:List Z5):AV:=.sl (ZL xs) none
abbrev Jh (xs:List Z7):AV:=.sl (XM xs) none
abbrev Ji (xs:List Yz):AV:=.sl (X6 xs) none
abbrev ZV (xs:LI) (v:Value):AV:=.sl (Z6 xs) (some v)
abbrev IX (xs:List LI) (v:Value):AV:=.sl (V6 xs) (some v)
abbrev Df (xs:List Yj) (v:Value):AV:=.sl (Wk xs) (some v)
abbrev Kc (xs:List Zb) (v:Value):AV:=.sl (YR xs) (some v)
abbrev Xc (xs:List Z5) (v:Value):AV:=.sl (ZL xs) (some v)
abbrev Q2 (xs:List Z7) (v:Value):AV:=.sl (XM xs) (some v)
abbrev WG (xs:List Yz) (v:Value):AV:=.sl (X6 xs) (some v)
abbrev Oz (c:Yj):List AV:=[Z3 c.fields]
abbrev Ca (d:Zb):List AV:=[.i d.frm,.i d.to_,QE d.cons]
abbrev W8 (s:Z5):List AV:=[.i s.op,.i s.num,.i s.into,Z3 s.args,Jh s.kids]
abbrev XR (b:Z7):List AV:=[Vb b.steps,.i b.result]
abbrev Jd (r:Yz):List AV:=[Z3 r.params,Z3 r.lent,.i r.result,Vb r.body.steps,.i r.body.result]
abbrev X4 (n:ZC):List AV:=[Ya n.decls,Ji n.routines]
abbrev Z8n:Value:=.slice none 0 0
structure Hd where
 a:Option Addr
 l:Nat
 c:Nat
abbrev Hd.v (g:Hd):Value:=.slice g.a g.l g.c
abbrev Hd.cut (g:Hd) (m:Nat):Hd:=⟨g.a,m,g.c⟩
abbrev hN:Hd:=⟨none,0,0⟩
abbrev AV.h (g:Hd):AV:=.val g.v
abbrev rV (g:Hd) (xs:LI):Res:=.vec g.v (Z6 xs)
section
variable {P:Program} {n:Nat} {c:Code} {A:WQ} {F:Fr} {h:List Res} {ops:Array Oper} {B:Fr->List Res->Prop} {k:Nat}
variable {T:List (Nat × List Nat)} {fuel:Nat} {done:List Nat}
theorem aq (ha:Yx P n (YL c) (Bt P n (VN c) A) F h) (hk:X9 c=3:=by kernel_rfl):Yx P n c A F h:=H9 hk ha
theorem ar (hs:SI P n (XH (YL c)) (fun F h=>Yx P n (VN c) A F h) 0 F h) (hk:X9 c=3:=by kernel_rfl) (hk1:X9 (YL c)=1:=by kernel_rfl):Yx P n c A F h:=SR hk hk1 (O9 hs)
theorem az (hs:SI P n (XH c) (A .normal) 0 F h) (hk:X9 c=1:=by kernel_rfl):Yx P n c A F h:=M8 hk (O9 hs)
theorem aD (k:Nat) (hs:X3 P n (XH (YL c)) (fun F h=>Yx P n (VN c) A F h) [] k [] F h) (hk:X9 c=3:=by kernel_rfl) (hk2:X9 (YL c)=2:=by kernel_rfl) (hm:P.follows .mixedOrders=true:=by kernel_rfl)
  (XL:(XH (YL c)).size=k:=by kernel_rfl):Yx P n c A F h:=SS hk hk2 hm XL hs
theorem aE (k:Nat) (hs:X3 P n (XH c) (A .normal) [] k [] F h) (hk:X9 c=2:=by kernel_rfl) (hm:P.follows .mixedOrders=true:=by kernel_rfl)
  (XL:(XH c).size=k:=by kernel_rfl):Yx P n c A F h:=M9 hk hm XL hs
theorem ak (h0:A .normal F h) (hk:X9 c=0:=by kernel_rfl):Yx P n c A F h:=SX hk h0
theorem ax (id:Nat) (h0:A (.exit id) F h) (hk:X9 c=7:=by kernel_rfl) (hi:QX c=id:=by kernel_rfl):Yx P n c A F h:=SP id hk hi h0
theorem ab (id:Nat) (ha:Yx P n (YL c) (EY id A) F h) (hk:X9 c=5:=by kernel_rfl) (hi:QX c=id:=by kernel_rfl):Yx P n c A F h:=SM id hk hi ha
theorem ac (b:Bool) {p:Prop} (hp:b=true↔p) (h1:p->Yx P n (YL c) A F h) (h2:¬p->Yx P n (VN c) A F h) (hk:X9 c=4:=by kernel_rfl) (hc:F.ev (Ad c)=.val (.bool b):=by kernel_rfl) :
  Yx P n c A F h:=H8 hk hc hp h1 h2
theorem VD (h1:Yx P n (YL c) A F h) (hk:X9 c=4:=by kernel_rfl) (hc:F.ev (Ad c)=.val (.bool true):=by kernel_rfl):Yx P n c A F h:=
 H8 (p:=True) hk hc (by simp) (fun _=>h1) (fun q=>absurd trivial q)
theorem Vt (h1:Yx P n (VN c) A F h) (hk:X9 c=4:=by kernel_rfl) (hc:F.ev (Ad c)=.val (.bool false):=by kernel_rfl):Yx P n c A F h:=
 H8 (p:=False) hk hc (by simp) (fun q=>q.elim) (fun _=>h1)
theorem al (Inv:Nat->Fr->List Res->Prop) (m0:Nat) (F0:Fr) (h0:List Res) (hi:Inv m0 F0 h0) (hw:Ta F h F0 h0)
  (hr:∀m F h,Inv m F h->Yx P n (YL c) (IT Inv m A) F h) (hk:X9 c=6:=by kernel_rfl):Yx P n c A F h:=SQ Inv hk hi hw hr
theorem wk {F':Fr} {h1 h':List Res} (is:List Nat) (hF:F.Le F') (e:h1=h':=by exact rfl) (hp:W6 is h=some h1:=by kernel_rfl):Ta F h F' h':=e▸Zec is hF (Vy hp)
theorem fl {F F':Fr} (h:F'.map (fun p=>(F.get p.1).like p.2)=F'.map (·.2):=by kernel_rfl):F.Le F':=Ny h
theorem fc {F F':Fr} {t:Nat} {x y:AV} (hxy:Zd x y) (hr:F.Le F') (hx:F.get t=x:=by kernel_rfl):F.Le ((t,y)::F'):=CW hx hxy hr
theorem lr (x:AV):Zd x x:=Zd.refl x
abbrev nl:AV:=.sl [] (some (.slice none 0 0))
theorem Keep.w {F F':Fr} {a b c d:Nat×AV} (h:Keep F F'):Keep (a::b::c::d::F) (a::b::c::d::F'):=.k (.k (.k (.k h)))
theorem dq {p:Prop} [Decidable p]:decide p=true↔p:=decide_eq_true_iff
theorem fr {F F':Fr} {t:Nat} {x:AV} (hr:F.Le F') (hx:F.get t=x:=by kernel_rfl):F.Le ((t,x)::F'):=fc (lr _) hr hx
theorem li {a b:Int} (h:a=b:=by exact ob):Zd (.i a) (.i b):=Zd.i h
theorem lb {a b:Bool} (h:a=b):Zd (.b a) (.b b):=Zd.b h
theorem r1 {fn:Func} {R:AV->List Res->Prop} {e:Exit} {h1 h':List Res} {r:AV} (is:List Nat) (hR:R r h') (eq:h1=h':=by exact rfl) (he:(match e with|.normal|.ret=>true|_=>false)=true:=by kernel_rfl)
  (hr:QK P F h fn.results.toList []=some ([r],[]):=by kernel_rfl) (hp:W6 is h=some h1:=by kernel_rfl):AR P fn R e F h:=
 L7 he [] hr (by simp) ⟨_,eq▸Uc (Vy hp)⟩ (Zd.refl _) hR
theorem r2 {fn:Func} {R:AV->List Res->Prop} {e:Exit} {h1 h':List Res} {r:AV} (is:List Nat) (xs:List AV) (hR:R r h') (hle:Zd (AC xs) r) (eq:h1=h':=by exact rfl) (he:(match e with|.normal|.ret=>true|_=>false)=true:=by kernel_rfl)
  (hr:QK P F h fn.results.toList []=some (xs,[]):=by kernel_rfl) (hp:W6 is h=some h1:=by kernel_rfl):AR P fn R e F h:=
 L7 he [] hr (by simp) ⟨_,eq▸Uc (Vy hp)⟩ hle hR
theorem r3 {fn:Func} {R:AV->List Res->Prop} {e:Exit} {h1 h':List Res} {r:AV} (is:List Nat) (xs:List AV) (hints:List Nat) (es:List (Nat × Nat)) (hR:R r h') (hle:Zd (AC xs) r)
  (eq:h1=h':=by exact rfl) (he:(match e with|.normal|.ret=>true|_=>false)=true:=by kernel_rfl)
  (hr:QK P F h fn.results.toList hints=some (xs,es):=by kernel_rfl) (hp:W6 is h=some h1:=by kernel_rfl) (hes:∀p∈es,p.1=p.2:=by simp):AR P fn R e F h:=
 L7 he hints hr hes ⟨_,eq▸Uc (Vy hp)⟩ hle hR
theorem ZT (h0:A .ret F h) (hk:X9 c=8:=by kernel_rfl):Yx P n c A F h:=SU hk h0
theorem ie (hB:B F h) (hk:Nat.ble ops.size k=true:=by kernel_rfl):SI P n ops B k F h:=O8 hk hB
theorem io (x':AV) (x:AV) (hx:Zd x x') (H:SI P n ops B (k+1) (F.put (ZP ops k).dst x') h) (hk:Xk n ops F k=true:=by kernel_rfl) (he:TS P (ZP ops k) F h 0=some (x,[]):=by kernel_rfl):SI P n ops B k F h:=
 Z6n x' hk he hx H
theorem Zp {x:AV} (hs:XT P (ZP ops k) F h [] x) (H:SI P n ops B (k+1) (F.put (ZP ops k).dst x) h) (hk:Xk n ops F k=true:=by kernel_rfl):SI P n ops B k F h:=E8 hk hs H
theorem ia (r s:Int) (H:SI P n ops B (k+1) (F.put (ZP ops k).dst (.i r)) h) (hb:-9223372036854775808<=r/\r<=9223372036854775807:=by omega) (hs:s=r:=by omega)
  (hk:Xk n ops F k=true:=by kernel_rfl) (ha:Jw ops F k=some s:=by kernel_rfl):SI P n ops B k F h:=Z6h r hk ha hs hb H
theorem ic (is:List Nat) {f:FuncId} {xs:List AV} {h1:List Res} {R:AV->List Res->Prop} (H:WP P f xs h1 R)
  (hK:∀r h',R r h'->SI P n ops B (k+1) (F.put (ZP ops k).dst r) (h'++XA is h)) (hk:Xk n ops F k=true:=by kernel_rfl) (hc:JC P ops F k=some (f,xs):=by kernel_rfl)
  (hp:W6 is h=some h1:=by kernel_rfl):SI P n ops B k F h:=Z6i f xs is hk hc (Vy hp) H hK
theorem iA (ls:List AV) (hK:∀b,SI P n ops B (k+1) (F.put (ZP ops k).dst (.p b 0)) (.obj b ls::h)) (hk:Xk n ops F k=true:=by kernel_rfl) (ha:Cy P ops F k=some ls:=by kernel_rfl):SI P n ops B k F h:=
 Z6f ls hk ha hK
theorem iS (j b o:Nat) (xs ls ls':List AV) (H:SI P n ops B (k+1) F (.obj b ls'::XA [j] h)) (hk:Xk n ops F k=true:=by kernel_rfl) (hs:storeAt P ops F k=some (b,o,xs):=by kernel_rfl)
  (hp:W6 [j] h=some [.obj b ls]:=by kernel_rfl) (hle:Nat.ble (o+xs.length) ls.length=true:=by kernel_rfl) (he:ls.take o++xs++ls.drop (o+xs.length)=ls':=by kernel_rfl):SI P n ops B k F h:=
 Z6p j ls' hk hs (Vy hp) hle he H
theorem iL (es:List AV) (len sz:Nat) (hK:∀v,SI P n ops B (k+1) (F.put (ZP ops k).dst (.sl es (some v))) (.tail v sz::h)) (hk:Xk n ops F k=true:=by kernel_rfl)
  (ha:Te P ops F k=some (Ze es,len,sz):=by kernel_rfl) (hlen:es.length=len:=by kernel_rfl) (hall:Ab es sz=true:=by kernel_rfl):SI P n ops B k F h:=Z6l es hk ha hlen hall hK
theorem ip (j:Nat) (es' es xs:List AV) (hv:Value) (hx:Option Value) (sz:Nat) (hes:∀y∈es,y.leaves.length=sz) (hxs:∀y∈xs,y.leaves.length=sz)
  (hone:(Ze xs).all AV.one=true) (hbound:es.length+xs.length<=4294967296) (he:es++xs=es') (hK:∀v',SI P n ops B (k+1) (F.put (ZP ops k).dst (.sl es' (some v'))) (.tail v' sz::XA [j] h))
  (hk:Xk n ops F k=true:=by kernel_rfl) (ha:Tz P ops F k=some (.sl es (some hv),.sl xs hx,sz):=by kernel_rfl) (hp:W6 [j] h=some [.tail hv sz]:=by kernel_rfl):SI P n ops B k F h:=
 Z6g j es' hk ha (Vy hp) hes hxs hone hbound he hK
theorem ib {b:Bool} (t:Nat) (h1:b=true->SI P n ops B k ((t,.b true)::F) h) (h2:b=false->SI P n ops B k ((t,.b false)::F) h) (hF:F.get t=.b b:=by kernel_rfl):SI P n ops B k F h:=Z6o t hF h1 h2
theorem de (hB:B F h) (hr:Region.ready .any ops (WF ops done)=[]:=by kernel_rfl):X3 P n ops B T fuel done F h:=Z20 hr hB
theorem Z8 (i:Nat) (H:VL P n ops B T fuel done F h i) (hr:Region.ready .any ops (WF ops done)=[i]:=by kernel_rfl):X3 P n ops B T (fuel+1) done F h:=Z23 hr H
theorem dx (i:Nat) {x:AV} (hx:XT P (ZP ops i) F h [] x) (H:X3 P n ops B ((i,[])::T) fuel (done++[i]) (F.put (ZP ops i).dst x) h) (hs:Region.noSelect ops=true:=by kernel_rfl) (hk:Xk n ops F i=true:=by kernel_rfl)
  (hf:Region.free .any ops (WF ops done) i=true:=by kernel_rfl) (hr:(Region.ready .any ops (WF ops done)).contains i=true:=by kernel_rfl):X3 P n ops B T (fuel+1) done F h:=Fc i hs hk hf hr hx H
theorem dn (i:Nat) (x' x:AV) (hx:Zd x x') (H:X3 P n ops B ((i,[])::T) fuel (done++[i]) (F.put (ZP ops i).dst x') h) (he:TS P (ZP ops i) F h 0=some (x,[]):=by kernel_rfl) (hs:Region.noSelect ops=true:=by kernel_rfl) (hk:Xk n ops F i=true:=by kernel_rfl)
  (hf:Region.free .any ops (WF ops done) i=true:=by kernel_rfl) (hr:(Region.ready .any ops (WF ops done)).contains i=true:=by kernel_rfl):X3 P n ops B T (fuel+1) done F h:=Z22 i x' hs hk hf hr he hx H
theorem da (i:Nat) (r s:Int) (H:X3 P n ops B ((i,[])::T) fuel (done++[i]) (F.put (ZP ops i).dst (.i r)) h) (hb:-9223372036854775808<=r/\r<=9223372036854775807:=by omega) (hse:s=r:=by omega)
  (ha:Jw ops F i=some s:=by kernel_rfl) (hs:Region.noSelect ops=true:=by kernel_rfl) (hk:Xk n ops F i=true:=by kernel_rfl)
  (hf:Region.free .any ops (WF ops done) i=true:=by kernel_rfl) (hr:(Region.ready .any ops (WF ops done)).contains i=true:=by kernel_rfl):X3 P n ops B T (fuel+1) done F h:=Z1w i r hs hk hf hr ha hse hb H
theorem dc (i:Nat) (is js bs:List Nat) {f:FuncId} {xs:List AV} {h1:List Res} {R:AV->List Res->Prop} (H:WP P f xs h1 R)
  (hK:∀r h',R r h'->X3 P n ops B (T.filter fun t=>!Vf ops i t.1) fuel (done++[i]) (F.put (ZP ops i).dst r) (h'++XA is h))
  (hk:Xk n ops F i=true:=by kernel_rfl) (hc:JC P ops F i=some (f,xs):=by kernel_rfl)
  (hp:W6 is h=some h1:=by kernel_rfl) (ho:Uw ops i T=bs:=by kernel_rfl) (hj:js.map (fun j=>(WS (XA is h))[j]?)=bs.map some:=by kernel_rfl):VL P n ops B T fuel done F h i:=
 Z1x i f xs is js bs hk hc (Vy hp) ho hj H hK
theorem dA (i:Nat) (js bs:List Nat) (ls:List AV) (hK:∀b,X3 P n ops B (T.filter fun t=>!Vf ops i t.1) fuel (done++[i]) (F.put (ZP ops i).dst (.p b 0)) (.obj b ls::h))
  (hk:Xk n ops F i=true:=by kernel_rfl) (ha:Cy P ops F i=some ls:=by kernel_rfl) (ho:Uw ops i T=bs:=by kernel_rfl) (hj:js.map (fun j=>(WS h)[j]?)=bs.map some:=by kernel_rfl):VL P n ops B T fuel done F h i:=
 Z1u i js bs ls hk ha ho hj hK
theorem dL (i:Nat) (js bs:List Nat) (es:List AV) (len sz:Nat) (hK:∀v,X3 P n ops B (T.filter fun t=>!Vf ops i t.1) fuel (done++[i]) (F.put (ZP ops i).dst (.sl es (some v))) (.tail v sz::h))
  (hk:Xk n ops F i=true:=by kernel_rfl) (ha:Te P ops F i=some (Ze es,len,sz):=by kernel_rfl) (hlen:es.length=len:=by kernel_rfl) (hall:Ab es sz=true:=by kernel_rfl)
  (ho:Uw ops i T=bs:=by kernel_rfl) (hj:js.map (fun j=>(WS h)[j]?)=bs.map some:=by kernel_rfl):VL P n ops B T fuel done F h i:=
 Z21 i js bs es hk ha hlen hall ho hj hK
theorem dp (i j:Nat) (js bs:List Nat) (es' es xs:List AV) (hv:Value) (hx:Option Value) (sz:Nat) (hes:∀y∈es,y.leaves.length=sz) (hxs:∀y∈xs,y.leaves.length=sz)
  (hone:(Ze xs).all AV.one=true) (hbound:es.length+xs.length<=4294967296) (he:es++xs=es')
  (hK:∀v',X3 P n ops B (T.filter fun t=>!Vf ops i t.1) fuel (done++[i]) (F.put (ZP ops i).dst (.sl es' (some v'))) (.tail v' sz::XA [j] h))
  (hk:Xk n ops F i=true:=by kernel_rfl) (ha:Tz P ops F i=some (.sl es (some hv),.sl xs hx,sz):=by kernel_rfl) (hp:W6 [j] h=some [.tail hv sz]:=by kernel_rfl)
  (ho:Uw ops i T=bs:=by kernel_rfl) (hj:js.map (fun q=>(WS (XA [j] h))[q]?)=bs.map some:=by kernel_rfl):VL P n ops B T fuel done F h i:=
 Z1v i j js bs es' hk ha (Vy hp) hes hxs hone hbound he ho hj hK
theorem dS (i j:Nat) (js bs:List Nat) (b o:Nat) (xs ls ls':List AV) (H:X3 P n ops B (T.filter fun t=>!Vf ops i t.1) fuel (done++[i]) F (.obj b ls'::XA [j] h))
  (hk:Xk n ops F i=true:=by kernel_rfl) (hs:storeAt P ops F i=some (b,o,xs):=by kernel_rfl)
  (hp:W6 [j] h=some [.obj b ls]:=by kernel_rfl) (hle:Nat.ble (o+xs.length) ls.length=true:=by kernel_rfl) (he:ls.take o++xs++ls.drop (o+xs.length)=ls':=by kernel_rfl) (ho:Uw ops i T=bs:=by kernel_rfl)
  (hj:js.map (fun q=>(WS (XA [j] h))[q]?)=bs.map some:=by kernel_rfl):VL P n ops B T fuel done F h i:=
 Z25 i j js bs ls' hk hs (Vy hp) hle he ho hj H
theorem db {b:Bool} (t:Nat) (h1:b=true->X3 P n ops B T fuel done ((t,.b true)::F) h) (h2:b=false->X3 P n ops B T fuel done ((t,.b false)::F) h) (hF:F.get t=.b b:=by kernel_rfl):X3 P n ops B T fuel done F h:=Z24 t hF h1 h2
theorem rz:([]:List Res)=[]:=rfl
theorem rc {x:Res} {t t':List Res} (e:t=t'):x::t=x::t':=e▸rfl
theorem rv {g:Hd} {xs xs':LI} {t t':List Res} (h:xs=xs') (e:t=t'):rV g xs::t=rV g xs'::t':=h▸e▸rfl
theorem Rt {v:Value} {ls:List AV} (H:∀g:Hd,v=g.v->SI P n ops B k F (.vec v ls::h)):SI P n ops B k F (.vec v ls::h):=by
 intro Q w G a hF hh
 obtain ⟨a',cap,rfl⟩:=BF.form (hh.ok _ (Xm ..))
 exact H ⟨a',_,cap⟩ rfl Q w G a hF hh
theorem Cq (j:Nat) (v:Hd) (xs:LI) (hl:D9 P ops F k=some (.h v):=by kernel_rfl) (hj:h[j]? = some (rV v xs):=by kernel_rfl):XT P (ZP ops k) F h [] (.i xs.length):=by
 have:=Zd6 (P:=P) (F:=F) j hl hj
 rwa [Yc] at this
theorem VV (j:Nat) (v:Hd) (xs:LI) (i:Int) (q:Nat) (h0:0<=i/\i<xs.length:=by omega) (hq:i.toNat=q:=by omega) (hi:Ba P ops F k=some (.h v,i,1):=by kernel_rfl) (hj:h[j]? = some (rV v xs):=by kernel_rfl) :
  XT P (ZP ops k) F h [] (.val (.pointer (some ⟨Ql v.v,q,none⟩))):=by
 have:=Zd5 (P:=P) (F:=F) j hi hj h0.1 (by rw [Yc];exact h0.2)
 rwa [hq] at this
theorem Q4 (j:Nat) (v:Hd) (xs:LI) (q:Nat) (y:Int) (hy:xs[q]? = some y) (hl:IR P ops F k=some (.val (.pointer (some ⟨Ql v.v,q,none⟩))):=by kernel_rfl) (hj:h[j]? = some (rV v xs):=by kernel_rfl) :
  XT P (ZP ops k) F h [Ql v.v] (.i y):=Zd7 (P:=P) (F:=F) j hl hj (Y5 hy)
theorem U2 {ks:List Nat} {x:AV} (hs:XT P (ZP ops k) F h ks x) (H:SI P n ops B (k+1) (F.put (ZP ops k).dst x) h) (hk:Xk n ops F k=true:=by kernel_rfl):SI P n ops B k F h:=E8 hk hs H
theorem Un (i:Nat) {ks:List Nat} {x:AV} (hx:XT P (ZP ops i) F h ks x) (H:X3 P n ops B ((i,ks)::T) fuel (done++[i]) (F.put (ZP ops i).dst x) h) (hs:Region.noSelect ops=true:=by kernel_rfl) (hk:Xk n ops F i=true:=by kernel_rfl)
  (hf:Region.free .any ops (WF ops done) i=true:=by kernel_rfl) (hr:(Region.ready .any ops (WF ops done)).contains i=true:=by kernel_rfl):X3 P n ops B T (fuel+1) done F h:=Fc i hs hk hf hr hx H
theorem DB (j:Nat) (v:Hd) (xs:LI) (m:Nat) (hle:m<=xs.length:=by omega) (hi:Dr P ops F k=some (.h v,(m:Int)):=by kernel_rfl) (hj:h[j]? = some (rV v xs):=by kernel_rfl) :
  XT P (ZP ops k) F h [] (.h (v.cut m)):=Zd8 (P:=P) (F:=F) j hi hj (by rw [Yc];exact hle)
theorem Iq (j:Nat) (v:Hd) (xs:LI) (q:Nat) (y:Int) (H:SI P n ops B (k+1) F (rV v (xs.set q y)::XA [j] h)) (hlt:q<xs.length:=by omega) (hk:Xk n ops F k=true:=by kernel_rfl)
  (hs:storeAt P ops F k=some (Ql v.v,q,[.i y]):=by kernel_rfl) (hp:W6 [j] h=some [rV v xs]:=by kernel_rfl):SI P n ops B k F h:=
 Z6r j _ hk hs (Vy hp) (by rw [Yc];exact hlt) (Rp _ _ _) H
theorem BP (i j:Nat) (js bs:List Nat) (v:Hd) (xs:LI) (q:Nat) (y:Int) (H:X3 P n ops B (T.filter fun t=>!Vf ops i t.1) fuel (done++[i]) F (rV v (xs.set q y)::XA [j] h)) (hlt:q<xs.length:=by omega)
  (hk:Xk n ops F i=true:=by kernel_rfl)
  (hs:storeAt P ops F i=some (Ql v.v,q,[.i y]):=by kernel_rfl) (hp:W6 [j] h=some [rV v xs]:=by kernel_rfl) (ho:Uw ops i T=bs:=by kernel_rfl)
  (hj:js.map (fun q=>(WS (XA [j] h))[q]?)=bs.map some:=by kernel_rfl):VL P n ops B T fuel done F h i:=
 Z26 i j js bs _ hk hs (Vy hp) (by rw [Yc];exact hlt) (Rp _ _ _) ho hj H
theorem Av (j:Nat) (v:Hd) (xs ys:LI) (hx:Option Value) (hK:∀v',SI P n ops B (k+1) (F.put (ZP ops k).dst (.h v')) (rV v' (xs++ys)::XA [j] h)) (hbound:xs.length+ys.length<=4294967296:=by simp<;>omega)
  (hk:Xk n ops F k=true:=by kernel_rfl) (ha:Tz P ops F k=some (.h v,.sl (Z6 ys) hx,1):=by kernel_rfl) (hp:W6 [j] h=some [rV v xs]:=by kernel_rfl):SI P n ops B k F h:=
 Z6q j _ hk ha (Vy hp) (OD _) (Z8z _) (by simpa using hbound) (W3 _ _).symm fun v'=>Rt fun g hg=>by subst hg;exact hK g
theorem iVL (xs:LI) (len:Nat) (hK:∀v,SI P n ops B (k+1) (F.put (ZP ops k).dst (.h v)) (rV v xs::h)) (hk:Xk n ops F k=true:=by kernel_rfl) (ha:Te P ops F k=some (Z6 xs,len,1):=by kernel_rfl)
  (hlen:xs.length=len:=by kernel_rfl):SI P n ops B k F h:=Z6m _ hk ha (by rw [Yc];exact hlen) fun v'=>Rt fun g hg=>by subst hg;exact hK g
def H0 (R:AV->List Res->Prop):Prop:=∀r h',R r h'->Kl h' r/\∀q∈h',EQ q
theorem F8 {x:Value}:H0 fun r h=>r=.val x/\h=[]:=by rintro _ _ ⟨rfl,rfl⟩;exact ⟨.val,by simp⟩
theorem CC {xs:LI}:H0 fun r h=>∃v:Hd,r=.h v/\h=[rV v xs]:=by
 rintro _ _ ⟨v,rfl,rfl⟩;exact ⟨.val,by simpa [EQ] using So xs⟩
theorem JG (i:Nat) (is js ks:List Nat) {f:FuncId} {as1 xs:List AV} {h1:List Res} (bs:List Res) {R:AV->List Res->Prop} (H:WP P f xs h1 R) (hcl:H0 R) (hargs:Tv bs as1 xs)
  (hb:∀r∈bs,∃v ls,r=.vec v ls/\∀y∈ls,∃u,y=.val u)
  (hK:∀r h',R r h'->X3 P n ops B (T.filter fun t=>!Vf ops i t.1) fuel (done++[i]) (F.put (ZP ops i).dst r) (h'++(bs++XA is h)))
  (hk:Xk n ops F i=true:=by kernel_rfl) (hc:JC P ops F i=some (f,as1):=by kernel_rfl)
  (hp:W6 is h=some (h1++bs):=by kernel_rfl) (ho:Uw ops i T=ks:=by kernel_rfl) (hj:js.map (fun j=>(WS (XA is h))[j]?)=ks.map some:=by kernel_rfl):VL P n ops B T fuel done F h i:=
 Z1y i f as1 xs is js ks bs hk hc (Vy hp) ho hj H hargs hb hcl fun r h' hr=>by rw [VJ];exact hK r h' hr
theorem gN {bs:List Res}:Tv bs [] []:=.nil
theorem Z8k {bs:List Res} {r:Res} (i:Nat) (h:bs[i]? = some r):r∈bs:=Y2 h
theorem gS {bs:List Res} {x:AV} {as1 xs:List AV} (t:Tv bs as1 xs):Tv bs (x::as1) (x::xs):=.same t
theorem gL {bs:List Res} {v:Hd} {ys:LI} {as1 xs:List AV} (i:Nat) (t:Tv bs as1 xs) (h:bs[i]? = some (rV v ys):=by kernel_rfl):Tv bs (.h v::as1) (Z3 ys::xs):=.lent (Z8k i h) t
theorem Zdi (j:Nat) (b':Nat) (ls ls':List AV) (hle:Vk ls ls') (hp:W6 [j] h=some [.obj b' ls]:=by kernel_rfl):Ve h (.obj b' ls'::XA [j] h):=by
 intro w G hh
 have hp':=Uc (Vy hp)
 have hh':=hh.perm hp'
 have hpw:=V1.1 hh'.apart
 refine ⟨G,⟨fun r hr=>?_,V1.2 ⟨fun r hr=>hpw.1 r hr,hpw.2⟩,fun r hr=>?_,hh'.lt⟩,?_⟩
 ·rcases YM.1 hr with rfl|hr
  ·obtain ⟨cs,e,h1,h2⟩:=hh'.ok _ (Xm ..)
   exact ⟨cs,e,h1,Vk.cs hle h2⟩
  ·exact hh'.ok r (XE _ hr)
 ·rcases YM.1 hr with rfl|hr
  ·exact fun b o hf hg=>hh'.prot (.obj b' ls) (Xm ..) b o hf hg
  ·exact hh'.prot r (XE _ hr)
 ·refine ⟨rfl,rfl,rfl,X7 _,fun _ _ h=>h,fun _ _=>.inl rfl,fun _ _ _ h=>.inl h,?_⟩
  rintro b2 o _ ⟨r,hr,hf⟩
  rw [C1 hp']
  rcases YM.1 hr with rfl|hr
  ·exact ⟨_,Xm ..,hf⟩
  ·exact ⟨r,XE _ hr,hf⟩
theorem Zd.hd {es:List AV} {v:Hd}:Zd (.sl es (some v.v)) (.h v):=by
 intro w G u h
 cases h with
 | nil hh=>rw [<-hh _ rfl];exact .val
 | sl hh _ _=>rw [<-hh _ rfl];exact .val
theorem Dy (j m:Nat) (v:Hd) (xs:LI) (hle:m<=xs.length:=by omega) (hp:W6 [j] h=some [rV v xs]:=by kernel_rfl):Ve h (rV (v.cut m) (xs.take m)::XA [j] h):=by
 have:=Zdm (h:=h) j m (Vy hp) (by rw [Yc];exact hle)
 rwa [BW] at this
theorem Dz:Ve h (rV hN []::h):=Zdl
theorem BQ {h':List Res} (ht:Ve h h') (H:X3 P n ops B T fuel done F h'):X3 P n ops B T fuel done F h:=by
 intro Q w G a SL hF hh hQ hcl hcov hk
 obtain ⟨G',h1,h2⟩:=ht w G hh
 exact H Q w G' a SL (hF.mono (h2.agree hh)) h1 hQ hcl (fun p hp=>let ⟨t,ht,e,f⟩:=hcov p hp;⟨t,ht,e,fun w' hw hb=>f w' (fun b o hg=>hw b o (h2.sub b o hg)) hb⟩)
  fun F2 h2' G2 a2 w2 b1 b2 b3 b4=>hk F2 h2' G2 a2 w2 b1 b2 b3 (h2.trans b4)
end
end Go.Abs
namespace Go.Abs
section
variable {P:Program} {n:Nat} {ops:Array Oper} {B:Fr->List Res->Prop} {k:Nat} {F:Fr} {h:List Res}
variable {T:List (Nat × List Nat)} {fuel:Nat} {done:List Nat} {c:Code} {A:WQ}
def qF (P:Program) (n:Nat) (ops:Array Oper) (h:List Res) (k m:Nat) (F:Fr) (hints:List Nat):Fr:=
 match Qh P n ops h m (ops.toList.drop k) F hints with|some (_,F1,_)=>F1|none=>F
def qA (P:Program) (n:Nat) (ops:Array Oper) (h:List Res) (k m:Nat) (F:Fr) (hints:List Nat):List Nat:=
 match Qh P n ops h m (ops.toList.drop k) F hints with|some (_,_,es)=>es.map (·.1)|none=>[0]
def qB (P:Program) (n:Nat) (ops:Array Oper) (h:List Res) (k m:Nat) (F:Fr) (hints:List Nat):List Nat:=
 match Qh P n ops h m (ops.toList.drop k) F hints with|some (_,_,es)=>es.map (·.2)|none=>[1]
theorem ZA (m:Nat) (hints:List Nat) (H:SI P n ops B (k+m) (qF P n ops h k m F hints) h) (he:qA P n ops h k m F hints=qB P n ops h k m F hints:=by kernel_rfl):SI P n ops B k F h:=by
 unfold qA qB at he
 unfold qF at H
 cases hr:Qh P n ops h m (ops.toList.drop k) F hints with
 | none=>rw [hr] at he;cases he
 | some y=>
  obtain ⟨l,F1,es⟩:=y
  rw [hr] at he H
  have hd:=Lj m hr
  rw [List.drop_drop] at hd
  refine Lm m hr (L6 he) ?_
  rw [hd]
  exact H
theorem Z0 (m:Nat) (H:SI P n ops B (k+m) (qF P n ops h k m F []) h) (he:qA P n ops h k m F []=qB P n ops h k m F []:=by kernel_rfl):SI P n ops B k F h:=ZA m [] H he
theorem WT (hints:List Nat) (H:B (qF P n ops h k (ops.size-k) F hints) h) (he:qA P n ops h k (ops.size-k) F hints=qB P n ops h k (ops.size-k) F hints:=by kernel_rfl):SI P n ops B k F h:=
 ZA (ops.size-k) hints (O8 (Nat.ble_eq_true_of_le om) H) he
theorem Z2 (H:B (qF P n ops h k (ops.size-k) F []) h) (he:qA P n ops h k (ops.size-k) F []=qB P n ops h k (ops.size-k) F []:=by kernel_rfl):SI P n ops B k F h:=WT [] H he
def Ci (P:Program) (n:Nat) (ops:Array Oper) (h:List Res) (is done:List Nat) (F:Fr) (hints:List Nat):Fr:=
 match KH P n ops h is done F hints with|some (F1,_)=>F1|none=>F
def Et (P:Program) (n:Nat) (ops:Array Oper) (h:List Res) (is done:List Nat) (F:Fr) (hints:List Nat):List Nat:=
 match KH P n ops h is done F hints with|some (_,es)=>es.flatMap (fun e=>e.2.map (·.1))|none=>[0]
def Eu (P:Program) (n:Nat) (ops:Array Oper) (h:List Res) (is done:List Nat) (F:Fr) (hints:List Nat):List Nat:=
 match KH P n ops h is done F hints with|some (_,es)=>es.flatMap (fun e=>e.2.map (·.2))|none=>[1]
theorem ZU (f m:Nat) (is:List Nat) (hints:List Nat) (H:X3 P n ops B ((Ej P n ops h is done F hints).reverse++T) f (done++is) (Ci P n ops h is done F hints) h) (hf:m=f+is.length:=by kernel_rfl)
  (he:Et P n ops h is done F hints=Eu P n ops h is done F hints:=by kernel_rfl) (hs:Region.noSelect ops=true:=by kernel_rfl):X3 P n ops B T m done F h:=by
 unfold Et Eu at he
 unfold Ej Ci at H
 cases hr:KH P n ops h is done F hints with
 | none=>rw [hr] at he;cases he
 | some y=>
  obtain ⟨F1,es⟩:=y
  rw [hr] at he H
  exact Hy is hs hr (Ph he) hf H
theorem Zs (f m:Nat) (is:List Nat) (H:X3 P n ops B ((Ej P n ops h is done F []).reverse++T) f (done++is) (Ci P n ops h is done F []) h) (hf:m=f+is.length:=by kernel_rfl)
  (he:Et P n ops h is done F []=Eu P n ops h is done F []:=by kernel_rfl) (hs:Region.noSelect ops=true:=by kernel_rfl):X3 P n ops B T m done F h:=ZU f m is [] H hf he hs
def En (ov F:Fr):Fr:=ov++F
theorem I6 {F':Fr} (hr:F.Le F'):∀(ov:Fr),ov.map (fun p=>(F.get p.1).like p.2)=ov.map (·.2)->F.Le (En ov F')
 | [],_=>hr
 | (t,y)::ov,he=>by
  simp only [T6,List.cons.injEq] at he
  have h1:F.Le [(t,y)]:=Ny (by simp [he.1])
  intro w G v s hv
  have h2:=h1 w G v s hv
  have h3:=I6 hr ov he.2 w G v s hv
  show RV w G (match Nat.beq t s with|true=>y|false=>Fr.get (ov++F') s) v
  change RV w G (match Nat.beq t s with|true=>y|false=>Fr.get [] s) v at h2
  cases hq:Nat.beq t s with
  | true=>rw [hq] at h2;exact h2
  | false=>exact h3
theorem QM (m:Nat) (ov:Fr) (hints:List Nat) (H:SI P n ops B (k+m) (En ov (qF P n ops h k m F hints)) h) (he:qA P n ops h k m F hints=qB P n ops h k m F hints:=by kernel_rfl)
  (ho:ov.map (fun p=>((qF P n ops h k m F hints).get p.1).like p.2)=ov.map (·.2):=by kernel_rfl):SI P n ops B k F h:=
 ZA m hints (Gt (h':=h) ⟨I6 (Fr.Le.refl _) ov ho,[],by simp⟩ H) he
theorem ZM (m:Nat) (ov:Fr) (H:SI P n ops B (k+m) (En ov (qF P n ops h k m F [])) h) (he:qA P n ops h k m F []=qB P n ops h k m F []:=by kernel_rfl)
  (ho:ov.map (fun p=>((qF P n ops h k m F []).get p.1).like p.2)=ov.map (·.2):=by kernel_rfl):SI P n ops B k F h:=QM m ov [] H he ho
theorem CH (f m:Nat) (is:List Nat) (ov:Fr) (hints:List Nat) (H:X3 P n ops B ((Ej P n ops h is done F hints).reverse++T) f (done++is) (En ov (Ci P n ops h is done F hints)) h) (hf:m=f+is.length:=by kernel_rfl)
  (he:Et P n ops h is done F hints=Eu P n ops h is done F hints:=by kernel_rfl) (hs:Region.noSelect ops=true:=by kernel_rfl)
  (ho:ov.map (fun p=>((Ci P n ops h is done F hints).get p.1).like p.2)=ov.map (·.2):=by kernel_rfl):X3 P n ops B T m done F h:=
 ZU f m is hints (HA (I6 (Fr.Le.refl _) ov ho) H) hf he hs
theorem Yq (f m:Nat) (is:List Nat) (ov:Fr) (H:X3 P n ops B ((Ej P n ops h is done F []).reverse++T) f (done++is) (En ov (Ci P n ops h is done F [])) h) (hf:m=f+is.length:=by kernel_rfl)
  (he:Et P n ops h is done F []=Eu P n ops h is done F []:=by kernel_rfl) (hs:Region.noSelect ops=true:=by kernel_rfl)
  (ho:ov.map (fun p=>((Ci P n ops h is done F []).get p.1).like p.2)=ov.map (·.2):=by kernel_rfl):X3 P n ops B T m done F h:=CH f m is ov [] H hf he hs ho
def sF (ts:List Nat) (F ov:Fr):Fr:=ov++ts.map (fun t=>(t,F.get t))
def Zg (h:List Res) (i:Nat):Res:=match h[i]? with|some r=>r|none=>.tail Z8n 0
theorem Y3 (Inv:Fr->List Res->Nat->Fr->List Res->Prop) (m0:Nat) (F0:Fr) (h0:List Res) (hi:Inv F h m0 F0 h0) (hw:Ta F h F0 h0)
  (hr:∀m F' h',Inv F h m F' h'->Yx P n (YL c) (IT (Inv F h) m A) F' h') (hk:X9 c=6:=by kernel_rfl):Yx P n c A F h:=al (Inv F h) m0 F0 h0 hi hw hr hk
theorem Xs {y:Code} (K:Fr->List Res->Fr->List Res->Prop) (H:Yx P n c (Fb (K F h) A) F h) (hB:∀F' h',K F h F' h'->Yx P n y A F' h'):Yx P n c (Bt P n y A) F h:=SO (K F h) H hB
theorem Ae {y:Code} {A2:WQ} (K:Fr->List Res->Fr->List Res->Prop) (hA:∀F h,A .normal F h=Yx P n y A2 F h) (H:Yx P n c (Fb (K F h) A) F h) (hB:∀F' h',K F h F' h'->Yx P n y A2 F' h'):Yx P n c A F h:=SN (K F h) hA H hB
theorem Xp {c:Code} {A:WQ} (ts:List Nat) (ov:Fr) (K:List Res->List Res) (H:SI P n ops (fun F1 h1=>Ta F1 h1 (sF ts F ov) (K h)) k F h) (hB:Yx P n c A (sF ts F ov) (K h)):SI P n ops (fun F h=>Yx P n c A F h) k F h:=Z6k (sF ts F ov) (K h) H hB
theorem BO {c:Code} {A:WQ} (ts:List Nat) (ov:Fr) (K:List Res->List Res) (H:X3 P n ops (fun F1 h1=>Ta F1 h1 (sF ts F ov) (K h)) T fuel done F h) (hB:Yx P n c A (sF ts F ov) (K h)):X3 P n ops (fun F h=>Yx P n c A F h) T fuel done F h:=Z1z (sF ts F ov) (K h) H hB
theorem Xb (k2:Nat) (ts:List Nat) (ov:Fr) (K:List Res->List Res) (J:SI P n ops B k2 (sF ts F ov) (K h)) (H:SI P n ops B k2 (sF ts F ov) (K h)->SI P n ops B k F h):SI P n ops B k F h:=H J
end
end Go.Abs
namespace Go.Abs
theorem fw {F F':Fr} {t u:Nat} {x y:AV} (hr:F.Le F') (hx:F.get t=x:=by kernel_rfl) (hy:F.get u=y:=by kernel_rfl):F.Le ((t,x)::(u,y)::F'):=fr (fr hr hy) hx
theorem fq {F F':Fr} {t u v w:Nat} {x y z q:AV} (hr:F.Le F') (hx:F.get t=x:=by kernel_rfl) (hy:F.get u=y:=by kernel_rfl) (hz:F.get v=z:=by kernel_rfl) (hq:F.get w=q:=by kernel_rfl):F.Le ((t,x)::(u,y)::(v,z)::(w,q)::F'):=fw (fw hr hz hq) hx hy
section
variable {P:Program} {n:Nat} {ops:Array Oper} {B:Fr->List Res->Prop} {k:Nat} {F:Fr} {h:List Res}
theorem iw {a b:Nat} (e:a=b) (H:SI P n ops B (k+1) (F.put (ZP ops k).dst (.i b)) h) (hk:Xk n ops F k=true:=by kernel_rfl) (he:TS P (ZP ops k) F h 0=some (.i a,[]):=by kernel_rfl):SI P n ops B k F h:=io (.i b) (.i a) (li (by rw [e])) H hk he
theorem dw (i:Nat) {T:List (Nat×List Nat)} {fuel:Nat} {done:List Nat} {a b:Nat} (e:a=b) (H:X3 P n ops B ((i,[])::T) fuel (done++[i]) (F.put (ZP ops i).dst (.i b)) h) (he:TS P (ZP ops i) F h 0=some (.i a,[]):=by kernel_rfl) (hs:Region.noSelect ops=true:=by kernel_rfl) (hk:Xk n ops F i=true:=by kernel_rfl)
 (hf:Region.free .any ops (WF ops done) i=true:=by kernel_rfl) (hr:(Region.ready .any ops (WF ops done)).contains i=true:=by kernel_rfl):X3 P n ops B T (fuel+1) done F h:=dn i (.i b) (.i a) (li (by rw [e])) H he hs hk hf hr
end
end Go.Abs
namespace Go.Abs
section
variable {P:Program} {n:Nat} {ops:Array Oper} {B:Fr->List Res->Prop} {k:Nat} {F:Fr} {h:List Res}
variable {T:List (Nat × List Nat)} {fuel:Nat} {done:List Nat} {c:Code} {A:WQ}
theorem Zj (hv:Option Value) (j:Int) (sz:Nat) {es:List AV} {y:AV} (hget:es[j.toNat]? = some y) (hi:Ba P ops F k=some (.sl es hv,j,sz):=by kernel_rfl) (h0:0<=j:=by omega) (hy:y.leaves.length=sz:=by rfl) :
  XT P (ZP ops k) F h [] (.rp y.leaves):=Dv hi h0 hget hy
def GK (P:Program) (ops:Array Oper) (F:Fr) (h:List Res) (j k:Nat):Option (Nat × Nat × List AV):=
 match storeAt P ops F k,W6 [j] h with
 | some (b,o,xs),some [.obj b' ls]=>match Nat.ble (o+xs.length) ls.length with | true=>some (b,b',ls.take o++xs++ls.drop (o+xs.length)) | false=>none
 | _,_=>none
theorem Sd {j k b:Nat} {l:List AV} (hs:GK P ops F h j k=some (b,b,l)):∃o xs ls,storeAt P ops F k=some (b,o,xs)/\W6 [j] h=some [.obj b ls]/\Nat.ble (o+xs.length) ls.length=true/\ls.take o++xs++ls.drop (o+xs.length)=l:=by
 unfold GK at hs
 split at hs
 ·rename_i b1 o xs b2 ls h1 h2
  split at hs
  ·rename_i h3
   cases hs
   exact ⟨o,xs,ls,h1,h2,h3,rfl⟩
  ·cases hs
 ·cases hs
theorem Zz (j b:Nat) (ls':List AV) (H:SI P n ops B (k+1) F (.obj b ls'::XA [j] h)) (hk:Xk n ops F k=true:=by kernel_rfl) (hs:GK P ops F h j k=some (b,b,ls'):=by kernel_rfl):SI P n ops B k F h:=
 let ⟨_,_,_,h1,h2,h3,h4⟩:=Sd hs
 iS j b _ _ _ ls' H hk h1 h2 h3 h4
theorem YZ (i j:Nat) (js bs:List Nat) (b:Nat) (ls':List AV) (H:X3 P n ops B (T.filter fun t=>!Vf ops i t.1) fuel (done++[i]) F (.obj b ls'::XA [j] h))
  (hk:Xk n ops F i=true:=by kernel_rfl) (hs:GK P ops F h j i=some (b,b,ls'):=by kernel_rfl) (ho:Uw ops i T=bs:=by kernel_rfl)
  (hj:js.map (fun q=>(WS (XA [j] h))[q]?)=bs.map some:=by kernel_rfl):VL P n ops B T fuel done F h i:=
 let ⟨_,_,_,h1,h2,h3,h4⟩:=Sd hs
 dS i j js bs b _ _ _ ls' H hk h1 h2 h3 h4 ho hj
theorem ZE (q:Nat) (H:SI P n ops B (k+1) (F.put (ZP ops k).dst (.i (q+1:Nat))) h) (hb:-9223372036854775808<=((q+1:Nat):Int)/\((q+1:Nat):Int)<=9223372036854775807:=by omega)
  (hk:Xk n ops F k=true:=by kernel_rfl) (ha:Jw ops F k=some ((q:Int)+1):=by kernel_rfl):SI P n ops B k F h:=ia ((q+1:Nat):Int) ((q:Int)+1) H hb om hk ha
theorem Zu (is:List Nat) {f:FuncId} {xs:List AV} {h1 h2:List Res} {r0:AV} (H:WP P f xs h1 (fun r h=>r=r0/\h=h2)) (hK:SI P n ops B (k+1) (F.put (ZP ops k).dst r0) (h2++XA is h))
  (hk:Xk n ops F k=true:=by kernel_rfl) (hc:JC P ops F k=some (f,xs):=by kernel_rfl) (hp:W6 is h=some h1:=by kernel_rfl):SI P n ops B k F h:=
 ic is H (fun r h' hr=>by obtain ⟨rfl,rfl⟩:=hr;exact hK) hk hc hp
theorem YH (i:Nat) (is js bs:List Nat) {f:FuncId} {xs:List AV} {h1 h2:List Res} {r0:AV} (H:WP P f xs h1 (fun r h=>r=r0/\h=h2))
  (hK:X3 P n ops B (T.filter fun t=>!Vf ops i t.1) fuel (done++[i]) (F.put (ZP ops i).dst r0) (h2++XA is h))
  (hk:Xk n ops F i=true:=by kernel_rfl) (hc:JC P ops F i=some (f,xs):=by kernel_rfl)
  (hp:W6 is h=some h1:=by kernel_rfl) (ho:Uw ops i T=bs:=by kernel_rfl) (hj:js.map (fun j=>(WS (XA is h))[j]?)=bs.map some:=by kernel_rfl):VL P n ops B T fuel done F h i:=
 dc i is js bs H (fun r h' hr=>by obtain ⟨rfl,rfl⟩:=hr;exact hK) hk hc hp ho hj
theorem VI (p:Prop) [Decidable p] (h1:p->Yx P n (YL c) A F h) (h2:¬p->Yx P n (VN c) A F h) (hk:X9 c=4:=by kernel_rfl) (hc:F.ev (Ad c)=.val (.bool (decide p)):=by kernel_rfl):Yx P n c A F h:=
 ac (decide p) decide_eq_true_iff h1 h2 hk hc
theorem Y7 (H:Yx P n (VN c) A (qF P n (XH (YL c)) h 0 ((XH (YL c)).size-0) F []) h) (hk:X9 c=3:=by kernel_rfl) (hk1:X9 (YL c)=1:=by kernel_rfl)
  (he:qA P n (XH (YL c)) h 0 ((XH (YL c)).size-0) F []=qB P n (XH (YL c)) h 0 ((XH (YL c)).size-0) F []:=by kernel_rfl):Yx P n c A F h:=ar (Z2 H he) hk hk1
theorem Qb (hints:List Nat) (H:Yx P n (VN c) A (qF P n (XH (YL c)) h 0 ((XH (YL c)).size-0) F hints) h) (hk:X9 c=3:=by kernel_rfl) (hk1:X9 (YL c)=1:=by kernel_rfl)
  (he:qA P n (XH (YL c)) h 0 ((XH (YL c)).size-0) F hints=qB P n (XH (YL c)) h 0 ((XH (YL c)).size-0) F hints:=by kernel_rfl):Yx P n c A F h:=ar (WT hints H he) hk hk1
theorem Vi (H:A .normal (qF P n (XH c) h 0 ((XH c).size-0) F []) h) (hk:X9 c=1:=by kernel_rfl) (he:qA P n (XH c) h 0 ((XH c).size-0) F []=qB P n (XH c) h 0 ((XH c).size-0) F []:=by kernel_rfl):Yx P n c A F h:=az (Z2 H he) hk
theorem Yf (m:Nat) (H:SI P n (XH (YL c)) (fun F h=>Yx P n (VN c) A F h) (0+m) (qF P n (XH (YL c)) h 0 m F []) h) (hk:X9 c=3:=by kernel_rfl) (hk1:X9 (YL c)=1:=by kernel_rfl)
  (he:qA P n (XH (YL c)) h 0 m F []=qB P n (XH (YL c)) h 0 m F []:=by kernel_rfl):Yx P n c A F h:=ar (Z0 m H he) hk hk1
theorem Zq (m:Nat) (hints:List Nat) (H:SI P n (XH (YL c)) (fun F h=>Yx P n (VN c) A F h) (0+m) (qF P n (XH (YL c)) h 0 m F hints) h) (hk:X9 c=3:=by kernel_rfl) (hk1:X9 (YL c)=1:=by kernel_rfl)
  (he:qA P n (XH (YL c)) h 0 m F hints=qB P n (XH (YL c)) h 0 m F hints:=by kernel_rfl):Yx P n c A F h:=ar (ZA m hints H he) hk hk1
theorem Xd (hs:SI P n (XH (YL (YL c))) (fun F h=>Yx P n (VN (YL c)) (Bt P n (VN c) A) F h) 0 F h) (hk:X9 c=3:=by kernel_rfl) (hk0:X9 (YL c)=3:=by kernel_rfl) (hk1:X9 (YL (YL c))=1:=by kernel_rfl):Yx P n c A F h:=
 aq (ar hs hk0 hk1) hk
theorem YQ (m:Nat) (H:SI P n (XH (YL (YL c))) (fun F h=>Yx P n (VN (YL c)) (Bt P n (VN c) A) F h) (0+m) (qF P n (XH (YL (YL c))) h 0 m F []) h) (hk:X9 c=3:=by kernel_rfl) (hk0:X9 (YL c)=3:=by kernel_rfl) (hk1:X9 (YL (YL c))=1:=by kernel_rfl)
  (he:qA P n (XH (YL (YL c))) h 0 m F []=qB P n (XH (YL (YL c))) h 0 m F []:=by kernel_rfl):Yx P n c A F h:=Xd (Z0 m H he) hk hk0 hk1
theorem Yr (m:Nat) (hints:List Nat) (H:SI P n (XH (YL (YL c))) (fun F h=>Yx P n (VN (YL c)) (Bt P n (VN c) A) F h) (0+m) (qF P n (XH (YL (YL c))) h 0 m F hints) h) (hk:X9 c=3:=by kernel_rfl) (hk0:X9 (YL c)=3:=by kernel_rfl) (hk1:X9 (YL (YL c))=1:=by kernel_rfl)
  (he:qA P n (XH (YL (YL c))) h 0 m F hints=qB P n (XH (YL (YL c))) h 0 m F hints:=by kernel_rfl):Yx P n c A F h:=Xd (ZA m hints H he) hk hk0 hk1
theorem Y0 (H:Yx P n (VN (YL c)) (Bt P n (VN c) A) (qF P n (XH (YL (YL c))) h 0 ((XH (YL (YL c))).size-0) F []) h) (hk:X9 c=3:=by kernel_rfl) (hk0:X9 (YL c)=3:=by kernel_rfl) (hk1:X9 (YL (YL c))=1:=by kernel_rfl)
  (he:qA P n (XH (YL (YL c))) h 0 ((XH (YL (YL c))).size-0) F []=qB P n (XH (YL (YL c))) h 0 ((XH (YL (YL c))).size-0) F []:=by kernel_rfl):Yx P n c A F h:=aq (Y7 H hk0 hk1 he) hk
theorem Zm (h0:A .ret (qF P n ops h k (ops.size-k) F []) h) (hk:X9 c=8:=by kernel_rfl) (he:qA P n ops h k (ops.size-k) F []=qB P n ops h k (ops.size-k) F []:=by kernel_rfl):SI P n ops (fun F h=>Yx P n c A F h) k F h:=Z2 (ZT h0 hk) he
theorem ZZ (p:Prop) [Decidable p] (h1:p->Yx P n (YL c) A (qF P n ops h k (ops.size-k) F []) h) (h2:¬p->Yx P n (VN c) A (qF P n ops h k (ops.size-k) F []) h) (hk:X9 c=4:=by kernel_rfl)
  (hc:Fr.ev (qF P n ops h k (ops.size-k) F []) (Ad c)=.val (.bool (decide p)):=by kernel_rfl) (he:qA P n ops h k (ops.size-k) F []=qB P n ops h k (ops.size-k) F []:=by kernel_rfl):SI P n ops (fun F h=>Yx P n c A F h) k F h:=Z2 (VI p h1 h2 hk hc) he
theorem YC (b:Bool) {p:Prop} (hp:b=true↔p) (h1:p->Yx P n (YL c) A (qF P n ops h k (ops.size-k) F []) h) (h2:¬p->Yx P n (VN c) A (qF P n ops h k (ops.size-k) F []) h) (hk:X9 c=4:=by kernel_rfl)
  (hc:Fr.ev (qF P n ops h k (ops.size-k) F []) (Ad c)=.val (.bool b):=by kernel_rfl) (he:qA P n ops h k (ops.size-k) F []=qB P n ops h k (ops.size-k) F []:=by kernel_rfl):SI P n ops (fun F h=>Yx P n c A F h) k F h:=Z2 (ac b hp h1 h2 hk hc) he
end
abbrev Yy (x:AV):AV->List Res->Prop:=fun r h=>r=x/\h=[]
theorem Zv {α:Type} (xs:List α) (j:Nat) (h:j<xs.length):∃x,xs[j]? = some x:=Aq h
theorem Cp {P:Program} {F:Fr} {h:List Res} {fn:Func} {e:Exit} {r:AV} (he:(match e with|.normal|.ret=>true|_=>false)=true:=by kernel_rfl) (hr:QK P F h fn.results.toList []=some ([r],[]):=by kernel_rfl) :
  AR P fn (fun r' h'=>r'=r/\h'=[]) e F h:=r1 [] ⟨rfl,rfl⟩ rfl he hr
theorem ZW {P:Program} {F:Fr} {h:List Res} {fn:Func} {e:Exit} {r:AV} (x:AV) (hle:Zd (AC [x]) r) (he:(match e with|.normal|.ret=>true|_=>false)=true:=by kernel_rfl) (hr:QK P F h fn.results.toList []=some ([x],[]):=by kernel_rfl) :
  AR P fn (fun r' h'=>r'=r/\h'=[]) e F h:=r2 [] [x] ⟨rfl,rfl⟩ hle rfl he hr
theorem ZO (k:Nat) {F F':Fr} {t:Nat} {y:Int} (hr:F.Le F') (hx:F.get t=.i (k+1:Nat):=by kernel_rfl) (e:((k+1:Nat):Int)=y:=by exact ob):F.Le ((t,.i y)::F'):=fc (li e) hr hx
theorem Yd {F F':Fr} {t:Nat} {y:Int} (hr:F.Le F') (hx:F.get t=.i 0:=by kernel_rfl) (e:0=y:=by exact ob):F.Le ((t,.i y)::F'):=fc (li e) hr hx
theorem Zl (x:Bool) {p:Prop} (q:p) {F F':Fr} {t:Nat} {y:Bool} (hr:F.Le F') (hx:F.get t=.b x:=by kernel_rfl) (e:p->x=y:=by intro q;simp only [q];rfl):F.Le ((t,.b y)::F'):=fc (lb (e q)) hr hx
theorem Zw {F F':Fr} {h h1 h':List Res} (m:Nat) (hF:F.Le F') (e:h1=h':=by exact rfl) (hp:W6 (List.replicate m 0) h=some h1:=by kernel_rfl):Ta F h F' h':=wk (List.replicate m 0) hF e hp
theorem ZD {α β:Type} {p q:α->β->Prop} {a:α} {b:β} (x:p a b) (y:q a b):∃a b,p a b/\q a b:=⟨a,b,x,y⟩
theorem ZJ {α β:Type} {q:α->β->Prop} {m' m:Nat} {r:Nat->α->β->Prop} {a:α} {b:β} (x:r m' a b) (y:q a b) (e:m'<m:=by exact ob):∃m' a b,m'<m/\r m' a b/\q a b:=⟨m',a,b,e,x,y⟩
theorem ZG (m:Nat) {P:Program} {f:FuncId} {fn:Func} {xs:List AV} {h:List Res} {R:AV->List Res->Prop} (hf:P.funcs[f]? = some fn) (ha:Yx P m (F7 fn) (AR P fn R) (BH 0 xs) h) (hb:fn.body.isSome=true:=by kernel_rfl) (hn:fn.ntmps=m:=by kernel_rfl)
  (hle:Nat.ble xs.length m=true:=by kernel_rfl):WP P f xs h R:=enter hf hb hn hle ha
end Go.Abs
end
namespace Go.Abs
section
variable {P:Program} {n:Nat} {c:Code} {A:WQ} {F:Fr} {h h2:List Res} {ops:Array Oper} {B:Fr->List Res->Prop} {k:Nat}
variable {T:List (Nat × List Nat)} {fuel:Nat} {done:List Nat}
theorem EV (t j:Nat) {v:Hd} {xs:LI} (H:Yx P n c A ((t,ZV xs v.v)::F) (.tail v.v 1::XA [j] h)) (hF':F.get t=.h v:=by kernel_rfl) (hp:W6 [j] h=some [rV v xs]:=by kernel_rfl):Yx P n c A F h:=by
 intro w G a hF hh
 have hp':=Uc (Vy hp)
 obtain ⟨G',h1,h2',h3⟩:=Zdz (hh.perm hp') (OD xs)
 have e:=h2'.perm hp'.symm (Tu _)
 have hF2:=hF.mono (e.agree hh)
 have hv:=hF2.get t
 rw [hF'] at hv
 have hv:=hv.val_inv
 refine wp_mono (H w G' a ⟨hF2.defers,hF2.size,fun s=>?_⟩ h1) fun e' a' w' hc=>hc.trans e
 show RV w G' (match Nat.beq t s with|true=>_|false=>Fr.get F s) _
 cases hb:Nat.beq t s with
 | true=>
  have:=T7 hb
  subst this
  rw [hv]
  exact h3
 | false=>exact hF2.get s
end
theorem ro {b:Nat} {ls ls':List AV} {t t':List Res} (h:ls=ls') (e:t=t'):Res.obj b ls::t=.obj b ls'::t':=h▸e▸rfl
section
variable {P:Program} {n:Nat} {F:Fr} {h:List Res} {ops:Array Oper} {B:Fr->List Res->Prop} {k:Nat}
variable {T:List (Nat × List Nat)} {fuel:Nat} {done:List Nat}
end
section
variable {P:Program} {n:Nat} {F:Fr} {h:List Res} {ops:Array Oper} {B:Fr->List Res->Prop} {k:Nat}
variable {T:List (Nat × List Nat)} {fuel:Nat} {done:List Nat}
theorem dK {c:Code} {A:WQ} (K:Fr->List Res->Prop) (H:X3 P n ops (fun F h=>∃F' h',K F' h'/\Ta F h F' h') T fuel done F h) (hB:∀F' h',K F' h'->Yx P n c A F' h') :
  X3 P n ops (fun F h=>Yx P n c A F h) T fuel done F h:=by
 intro Q w G a SL hF hh hQ hcl hcov hk
 exact H Q w G a SL hF hh hQ hcl hcov fun F2 h2 G2 a2 w2 b1 b2 b3 b4=>let ⟨_,_,k1,k2⟩:=b1;hk F2 h2 G2 a2 w2 (Cx k2 (hB _ _ k1)) b2 b3 b4
theorem AY {c:Code} {A:WQ} (K:Fr->List Res->Fr->List Res->Prop) (H:X3 P n ops (fun F1 h1=>∃F' h',K F h F' h'/\Ta F1 h1 F' h') T fuel done F h) (hB:∀F' h',K F h F' h'->Yx P n c A F' h') :
  X3 P n ops (fun F h=>Yx P n c A F h) T fuel done F h:=dK (K F h) H hB
theorem U9 (i j:Nat) (Hi:VL P n ops B T fuel done F h i) (Hj:VL P n ops B T fuel done F h j) (hr:Region.ready .any ops (WF ops done)=[i,j]:=by kernel_rfl):X3 P n ops B T (fuel+1) done F h:=
 MK hr rfl fun q hq=>by
  rcases YM.1 hq with rfl|hq
  ·exact Hi
  ·rw [Xv.1 hq];exact Hj
def Cs (s:Int):Int:=IntKind.i64.wrap s
theorem Zd9 {s:Int} (ha:Jw ops F k=some s):XT P (ZP ops k) F h [] (.val (.int .i64 (Cs s))):=by
 unfold Jw at ha
 generalize hoo:ZP ops k=o at ha
 obtain ⟨dst,op,type,pos,after,guard⟩:=o
 cases op<;>simp only at ha<;>try (cases ha)
 rename_i bop xt x y yt
 split at ha
 ·rename_i a b h1 h2
  have key:∀v,DW bop .i64 a b=some (.int .i64 (IntKind.i64.wrap v))->v=s->XT P { dst:=dst,op:=.binOp bop xt x y yt,type:=type,pos:=pos,after:=after,guard:=guard } F h [] (.val (.int .i64 (Cs s))):=by
   intro v hv hvs
   have he:TS P { dst:=dst,op:=.binOp bop xt x y yt,type:=type,pos:=pos,after:=after,guard:=guard } F h 0=some (.val (.int .i64 (IntKind.i64.wrap v)),[]):=by
    simp only [TS,h1,h2,Ez,hv]
   have:=CT he (by simp)
   rw [hvs] at this
   simpa [Cs] using this
  split at ha
  ·cases ha;exact key (a+b) rfl rfl
  ·cases ha;exact key (a-b) rfl rfl
  ·cases ha;exact key (a*b) rfl rfl
  ·cases ha
 ·cases ha
theorem iW (s:Int) (H:SI P n ops B (k+1) (F.put (ZP ops k).dst (.val (.int .i64 (Cs s)))) h) (hk:Xk n ops F k=true:=by kernel_rfl) (ha:Jw ops F k=some s:=by kernel_rfl):SI P n ops B k F h:=
 E8 (ks:=[]) hk (Zd9 ha) H
end
theorem Jt.mono {w:World} {G G':Yg} {v:Value} {k:Nat} {ls:List AV} (hA:VK G w w G') (h:Jt w G v k ls):Jt w G' v k ls:=by
 rcases h with ⟨rfl,h0⟩|⟨g,len,cap,cur,el,rfl,h1,h2,h3,h4,h5⟩
 ·exact .inl ⟨rfl,h0⟩
 ·exact .inr ⟨g,len,cap,cur,el,rfl,h1,h2,h3,h4,h5.mono hA⟩
theorem Qq.same {w:World} {G G':Yg} {r:Res} (hA:VK G w w G') (h:Qq w G r):Qq w G' r:=by
 cases r with
 | obj b ls=>obtain ⟨cs,e,h1,h2⟩:=h;exact ⟨cs,e,h1,h2.mono hA⟩
 | tail v k=>exact h
 | ge s=>exact h
 | vec v ls=>
  rcases h with ⟨rfl,h0⟩|⟨g,cap,cur,el,rfl,h1,h2,h3,h4⟩
  ·exact .inl ⟨rfl,h0⟩
  ·exact .inr ⟨g,cap,cur,el,rfl,h1,h2,h3,h4.mono hA⟩
 | many ts=>exact h
 | own B m=>exact h
 | row v k ls=>exact h.mono hA
theorem YE.alloc_rrow {w:World} {G:Yg} {h:List Res} (hh:YE w G h) (cs:Array Value) (t:TypeId) {ls:List AV} {len cap k:Nat} (hcap:len<=cap) (XL:cs.size=cap*k) (hl:ls.length=len*k)
  (hls:YT w G ls (cs.toList.take (len*k))) :
  YE (w.alloc (.cells cs t)) G (.row (.slice (some ⟨w.heap.size,0,none⟩) len cap) k ls::h)/\X1 w G h (w.alloc (.cells cs t)) G (.row (.slice (some ⟨w.heap.size,0,none⟩) len cap) k ls::h):=by
 have hA:VK G w (w.alloc (.cells cs t)) G:=⟨fun b j hg=>DP w _ (hh.lt b j hg),fun _ _ h=>h⟩
 refine hh.alloc (.cells cs t) (h':=[.row (.slice (some ⟨w.heap.size,0,none⟩) len cap) k ls]) (fun _ _ h=>h) (fun _ _ h=>.inl h) ?_ ?_ (DF _ _) ?_
 ·intro r hr
  rw [Xv.1 hr]
  exact .inr ⟨_,len,cap,cs,t,rfl,FC w _,hcap,XL,hl,hls.mono hA⟩
 ·intro r hr b j hf
  rw [Xv.1 hr] at hf
  exact hf
 ·intro r hr b j hf hg
  rw [Xv.1 hr] at hf
  have:=hh.lt b j hg
  have:b=w.heap.size:=hf
  omega
theorem YE.rwrite {w:World} {G:Yg} {h2:List Res} {g len cap k:Nat} {ls ls':List AV} (hh:YE w G (.row (.slice (some ⟨g,0,none⟩) len cap) k ls::h2)) {cs cs':Array Value} {e:TypeId}
  (hb:w.heap[g]? = some (.cells cs e (0,0))) (XL:cs'.size=cs.size) (hle:len<=cap) (hcap:cs.size=cap*k) (hl:ls'.length=len*k) (hls:YT w G ls' (cs'.toList.take (len*k))) :
  YE (w.setRow g cs') G (.row (.slice (some ⟨g,0,none⟩) len cap) k ls'::h2) /\
   X1 w G (.row (.slice (some ⟨g,0,none⟩) len cap) k ls::h2) (w.setRow g cs') G (.row (.slice (some ⟨g,0,none⟩) len cap) k ls'::h2):=by
 have hmem:Res.row (.slice (some ⟨g,0,none⟩) len cap) k ls∈Res.row (.slice (some ⟨g,0,none⟩) len cap) k ls::h2:=Xm ..
 have hA:VK G w (w.setRow g cs') G:=⟨fun c j hg=>by
  have hne:c≠g:=fun he=>hh.prot _ hmem c j he hg
  simp [World.cell?,VB w g c cs' hne],fun _ _ h=>h⟩
 have hpw:=V1.1 hh.apart
 have hother:∀r∈h2,∀c j,r.fp c j->c≠g:=fun r hr c j hf hc=>hpw.1 r hr c j hc hf
 have e1:X1 w G [.row (.slice (some ⟨g,0,none⟩) len cap) k ls] (w.setRow g cs') G [.row (.slice (some ⟨g,0,none⟩) len cap) k ls']:=by
  refine ⟨rfl,rfl,rfl,by simp [World.setRow],fun _ _ h=>h,?_,fun _ _ _ h=>.inl h,?_⟩
  ·intro c hc
   by_cases hcb:c=g
   ·subst hcb
    exact .inr ⟨cs,cs',e,(0,0),hb,setRow_heap w c cs cs' e (0,0) hb,XL,fun j hj=>absurd ⟨_,Xm ..,rfl⟩ hj⟩
   ·exact .inl (VB w g c cs' hcb)
  ·rintro c j _ ⟨r,hr,hf⟩
   rw [Xv.1 hr] at hf
   exact ⟨_,Xm ..,hf⟩
 have e2:YE (w.setRow g cs') G [.row (.slice (some ⟨g,0,none⟩) len cap) k ls']:=by
  refine ⟨fun r hr=>?_,DF _ _,fun r hr c j hf hg=>?_,fun c j hg=>?_⟩
  ·rw [Xv.1 hr]
   exact .inr ⟨g,len,cap,cs',e,rfl,setRow_heap w g cs cs' e (0,0) hb,hle,XL.trans hcap,hl,hls.mono hA⟩
  ·rw [Xv.1 hr] at hf
   exact hh.prot _ hmem c j hf hg
  ·have:=hh.lt c j hg
   simpa [World.setRow] using this
 exact YE.frame (h:=[.row (.slice (some ⟨g,0,none⟩) len cap) k ls]) (k:=h2) hh e1 e2
theorem Zag {w:World} {G:Yg} {h:List Res} {k:Nat} (hh:YE w G h):YE w G (.row (.slice none 0 0) k []::h)/\X1 w G h w G (.row (.slice none 0 0) k []::h):=
 ⟨⟨fun r hr=>by
   rcases YM.1 hr with rfl|hr
   ·exact .inl ⟨rfl,rfl⟩
   ·exact hh.ok r hr,V1.2 ⟨fun _ _ _ _ hf=>hf.elim,hh.apart⟩,fun r hr b o hf hg=>by
   rcases YM.1 hr with rfl|hr
   ·exact hf.elim
   ·exact hh.prot r hr b o hf hg,hh.lt⟩,
  ⟨rfl,rfl,rfl,X7 _,fun _ _ h=>h,fun _ _=>.inl rfl,fun _ _ _ h=>.inl h,fun b o _ ⟨r,hr,hf⟩=>by
   rcases YM.1 hr with rfl|hr
   ·exact hf.elim
   ·exact ⟨r,hr,hf⟩⟩⟩
theorem Jt.form {w:World} {G:Yg} {v:Value} {k:Nat} {ls:List AV} (h:Jt w G v k ls):∃a len cap,v=.slice a len cap/\ls.length=len*k:=by
 rcases h with ⟨rfl,rfl⟩|⟨g,len,cap,cur,e,rfl,_,_,_,h4,_⟩
 ·exact ⟨none,0,0,rfl,by simp⟩
 ·exact ⟨_,len,cap,rfl,h4⟩
theorem Do {w:World} {G:Yg} {v:Value} {k:Nat} {es:List AV} {h2:List Res} (hh:YE w G (.row v k (Ze es)::h2)) (hes:∀y∈es,y.leaves.length=k) (hk:0<k) :
  ∃G',YE w G' (.tail v k::h2)/\X1 w G (.row v k (Ze es)::h2) w G' (.tail v k::h2)/\RV w G' (.sl es (some v)) v:=by
 have hpw:=V1.1 hh.apart
 have hfl:=To es hes
 rcases hh.ok _ (Xm ..) with ⟨rfl,h0⟩|⟨g,len,cap,cur,e,rfl,h1,h3,h4,h5,h6⟩
 ·have hes0:es=[]:=by
   cases es with
   | nil=>rfl
   | cons y r=>
    have h7:0<(r.length+1)*k:=Nat.mul_pos om hk
    rw [h0,Yw] at hfl
    rw [<-hfl] at h7
    simp at h7
  subst hes0
  obtain ⟨k1,k2⟩:=LK (sz:=k) (hh.sub (BA _ _))
  refine ⟨G,k1,⟨rfl,rfl,rfl,X7 _,fun _ _ h=>h,fun _ _=>.inl rfl,fun _ _ _ h=>.inl h,?_⟩,.nil (by simp)⟩
  rintro b o _ ⟨r,hr,hf⟩
  rcases YM.1 hr with rfl|hr
  ·exact hf.elim
  ·exact ⟨r,XE _ hr,hf⟩
 ·have hlen:len=es.length:=GZ hk (h5.symm.trans hfl)
  subst hlen
  let G':Yg:=fun b o=>G b o∨(b=g/\o<es.length*k)
  have hA:VK G w w G':=⟨fun _ _ _=>rfl,fun _ _ h=>.inl h⟩
  have hmem:Res.row (.slice (some ⟨g,0,none⟩) es.length cap) k (Ze es)∈Res.row (.slice (some ⟨g,0,none⟩) es.length cap) k (Ze es)::h2:=Xm ..
  refine ⟨G',⟨fun r hr=>?_,V1.2 ⟨fun r hr b o f1 f2=>hpw.1 r hr b o f1.1 f2,hpw.2⟩,fun r hr b o hf hg=>?_,fun b o hg=>?_⟩,
   ⟨rfl,rfl,rfl,X7 _,fun _ _ h=>.inl h,fun _ _=>.inl rfl,fun b o _ hg=>hg.imp id fun ⟨e1,_⟩=>⟨_,hmem,e1⟩,?_⟩,?_⟩
  ·rcases YM.1 hr with rfl|hr
   ·exact .inr ⟨g,es.length,cap,cur,e,rfl,h1,h3,h4⟩
   ·exact (hh.ok r (XE _ hr)).same hA
  ·rcases YM.1 hr with rfl|hr2
   ·obtain ⟨hbg,hf2⟩:=hf
    rcases hg with hg|⟨_,hg⟩
    ·exact hh.prot _ hmem b o hbg hg
    ·omega
   ·rcases hg with hg|⟨hbg,_⟩
    ·exact hh.prot r (XE _ hr2) b o hf hg
    ·exact hpw.1 r hr2 b o hbg hf
  ·rcases hg with hg|⟨rfl,_⟩
   ·exact hh.lt b o hg
   ·exact (UB.1 h1).1
  ·rintro b o _ ⟨r,hr,hf⟩
   rcases YM.1 hr with rfl|hr
   ·exact ⟨_,hmem,hf.1⟩
   ·exact ⟨r,XE _ hr,hf⟩
  ·refine .sl (k:=k) (fun x hx=>by cases hx;rfl) h3 (V4.of_flat es hes (Wr.of_cells (h6.mono hA) fun j u hj=>?_))
   have hjl:j<es.length*k:=by
    have:=(Xh.1 hj).1
    have h7:=h6.length
    omega
   rw [Q6,Zk hjl] at hj
   refine ⟨?_,.inr ⟨rfl,by omega⟩⟩
   rw [Wh,cell_of_row w g j cur e (0,0) h1]
   simpa using hj
section
variable {P:Program} {n:Nat} {ops:Array Oper} {B:Fr->List Res->Prop} {k:Nat} {F:Fr} {h h2:List Res}
theorem GM {k:Nat}:Ve h (.row (.slice none 0 0) k []::h):=fun _ _ hh=>let ⟨a,b⟩:=Zag hh;⟨_,a,b⟩
theorem Zd0 (j:Nat) {v:Value} {kk m:Nat} {ls:List AV} (hl:D9 P ops F k=some (.val v)) (hj:h[j]? = some (.row v kk ls)) (hm:ls.length=m*kk) (hk:0<kk):XT P (ZP ops k) F h [] (.val (.int .i64 m)):=by
 unfold D9 at hl
 generalize hoo:ZP ops k=o at hl
 obtain ⟨dst,op,type,pos,after,guard⟩:=o
 cases op<;>simp only at hl<;>try (cases hl)
 rename_i c
 obtain ⟨callee,args,tys⟩:=c
 simp only at hl
 split at hl
 ·rename_i x t hargs htys
  split at hl
  ·rename_i el hu
   simp only [Wv] at hl
   intro n w G a hF hh
   have hv:=hF.ev x
   rw [hl] at hv
   have hv:=hv.val_inv
   obtain ⟨ad,len,cap,rfl,hlen⟩:=Jt.form (hh.ok _ (Y2 hj))
   have:len=m:=GZ hk (hlen.symm.trans hm)
   subst this
   have e1:args=#[x]:=by rw [<-Ti (xs:=args),hargs]
   have e2:tys=#[t]:=by rw [<-Ti (xs:=tys),htys]
   subst e1;subst e2
   exact ⟨_,.val,fun w' _ _=>by simp [execOp,resolve,invoke,builtin,hv,Builtin.len_,Ui hu,goInt]⟩
  ·cases hl
 ·cases hl
def IS (ops:Array Oper) (F:Fr) (k:Nat):Option (TypeId × AV):=
 match (ZP ops k).op with
 | .load t x=>some (t,F.ev x)
 | _=>none
theorem Zd1 (j:Nat) {g len cap kk o:Nat} {ls zs:List AV} {t:TypeId} {y:AV} (hl:IS ops F k=some (t,.val (.pointer (some ⟨g,o,none⟩)))) (hj:h[j]? = some (.row (.slice (some ⟨g,0,none⟩) len cap) kk ls))
  (hz:(ls.drop o).take zs.length=zs) (hy:Ay P t zs=some y):XT P (ZP ops k) F h [g] y:=by
 unfold IS at hl
 generalize hoo:ZP ops k=q at hl
 obtain ⟨dst,op,type,pos,after,guard⟩:=q
 cases op<;>simp only at hl<;>try (cases hl)
 rename_i t' x
 intro n w G a hF hh
 simp only [Wv,Prod.mk.injEq] at hl
 obtain ⟨rfl,hl⟩:=hl
 have hv:=hF.ev x
 rw [hl] at hv
 have hv:=hv.val_inv
 rcases hh.ok _ (Y2 hj) with ⟨h0,_⟩|⟨g',len',cap',cur,e,h0,h1,h2,h3,h4,h5⟩
 ·cases h0
 ·cases h0
  have hc:=(h5.drop o).take zs.length
  rw [hz] at hc
  obtain ⟨v,j1,j2⟩:=Gr (P:=P) (b:=g) (o:=o) hy hc
  refine ⟨v,j1,fun w' _ hw=>?_⟩
  have hrow:=hw g (by simp)
  rw [h1] at hrow
  simp only [execOp,hv]
  refine VA ?_
  simp only [Instr.loadAt,Instr.sureAddr,Sem.run_bind,Sem.run_pure,Result.andThen_ok]
  refine j2 w' fun j u hj=>?_
  rw [cell_of_row w' g (o+j) cur e (0,0) hrow]
  rw [Q6] at hj
  split at hj
  ·rw [Sw,Q6] at hj
   split at hj
   ·simpa using hj
   ·cases hj
  ·cases hj
theorem Pa {K:Fr->List Res->Prop} {g len cap kk:Nat} {ls xs:List AV} {i:Nat} (hs:storeAt P ops F k=some (g,i,xs)) (hlt:i+xs.length<=ls.length)
  (hK:K F (.row (.slice (some ⟨g,0,none⟩) len cap) kk (ls.take i++xs++ls.drop (i+xs.length))::h2)):WK P n (ZP ops k) F (.row (.slice (some ⟨g,0,none⟩) len cap) kk ls::h2) K:=by
 unfold storeAt at hs
 generalize hoo:ZP ops k=q at hs
 obtain ⟨dst,op,type,pos,after,guard⟩:=q
 cases op<;>simp only at hs<;>try (cases hs)
 rename_i t x z
 split at hs
 ·rename_i b' o' inf hx hi
  split at hs
  ·rename_i hc
   simp only [Xo] at hc
   simp only [Wv,Prod.mk.injEq] at hs
   obtain ⟨rfl,rfl,hz⟩:=hs
   intro Q w G a hF hh
   have hvx:=hF.ev x
   rw [hx] at hvx
   have hvx:=hvx.val_inv
   have hvy:=hF.ev z
   have hcs:=hvy.cells hc.2.1
   rw [hz] at hcs hc
   have hone:=hcs.one_cells hc.2.2
   have XL:inf.size=xs.length:=T7 hc.1
   have hlen:(a.eval z).cells.size=xs.length:=by have:=hcs.length;simpa using this
   rcases hh.ok (.row (.slice (some ⟨b',0,none⟩) len cap) kk ls) (Xm ..) with ⟨h0,_⟩|⟨g',len',cap',cur,e,h0,h1,h2',h3,h4,h5⟩
   ·cases h0
   ·cases h0
    have hlc:len*kk<=cap*kk:=KU _ h2'
    have hst:=run_storeCells_at P b' o' e (a.eval z).cells.toList 0 cur w h1 (by simp [hlen];omega) hone
    simp only [BB,Jp] at hst
    have hr:(execOp a.eval { dst:=none,op:=.store t x z,type:=type,pos:=pos,after:=after,guard:=guard }).run P w =
      .ok .skip (w.setRow b' (cur.toList.take o'++(a.eval z).cells.toList++cur.toList.drop (o'+(a.eval z).cells.size)).toArray):=by
     simp only [execOp,hvx]
     simp [Instr.storeAt,Instr.sureAddr,storeVar,QN hi,hlen,XL,hst]
    unfold Oper.wp
    rw [hr]
    have hcl:(a.eval z).cells.toList.length=xs.length:=by simpa using hlen
    obtain ⟨j1,j2⟩:=hh.rwrite (ls':=ls.take o'++xs++ls.drop (o'+xs.length)) (cs':=(cur.toList.take o'++(a.eval z).cells.toList++cur.toList.drop (o'+(a.eval z).cells.size)).toArray) h1
     (by simp [hlen];omega) h2' h3 (by simp;omega) (by
      rw [EM,hlen]
      have e1:(cur.toList.take o'++(a.eval z).cells.toList++cur.toList.drop (o'+xs.length)).take (len*kk) =
        (cur.toList.take (len*kk)).take o'++(a.eval z).cells.toList++(cur.toList.take (len*kk)).drop (o'+xs.length):=by
       have q1:(cur.toList.take o'++(a.eval z).cells.toList).length=o'+xs.length:=by simp [hlen];omega
       rw [List.take_append,q1,WJ om,List.take_take,VW om,List.drop_take]
      rw [e1]
      exact ((h5.take o').append hcs).append (h5.drop _))
    refine ⟨F,_,G,hK,?_,j1,j2⟩
    have:=hF.mono (j2.agree hh)
    simpa [Act.put] using this
  ·cases hs
 ·cases hs
theorem Z98 {K:Fr->List Res->Prop} {sz:Nat} (hd:VP n (ZP ops k)=true) (ha:Te P ops F k=some ([],0,sz))
  (hK:∀g,K (F.put (ZP ops k).dst (.val (.slice (some ⟨g,0,none⟩) 0 0))) (.row (.slice (some ⟨g,0,none⟩) 0 0) sz []::h)):WK P n (ZP ops k) F h K:=by
 unfold Te at ha
 generalize hoo:ZP ops k=q at ha hd hK
 obtain ⟨dst,op,type,pos,after,guard⟩:=q
 cases op<;>simp only at ha<;>try (cases ha)
 rename_i t ln parts
 split at ha
 case h_2=>cases ha
 rename_i e ht
 split at ha
 case h_2=>cases ha
 rename_i i hi
 split at ha
 case h_2=>cases ha
 rename_i hc
 simp only [Xo] at hc
 split at ha
 case h_2=>cases ha
 rename_i ls' hf
 simp only [Wv,Prod.mk.injEq] at ha
 obtain ⟨rfl,rfl,XL⟩:=ha
 intro Q w G a hF hh
 obtain ⟨cs,h1,h2⟩:=Gq hF parts ht hi rfl hc.1 hc.2 hf
 have hr:(execOp a.eval { dst:=dst,op:=.buildSlice t 0 parts,type:=type,pos:=pos,after:=after,guard:=guard }).run P w =
   .ok (.value (.slice (some ⟨w.heap.size,0,none⟩) 0 0)) (w.alloc (.cells cs e)):=by
  simp only [execOp]
  exact VA h2
 unfold Oper.wp
 rw [hr]
 have hlc:=h1.length
 simp only [Jp] at hlc
 obtain ⟨j1,j2⟩:=hh.alloc_rrow cs e (ls:=[]) (len:=0) (cap:=0) (k:=sz) (X7 _) (by simpa using hlc) (by simp) (by simpa using YT.nil)
 exact ⟨_,_,G,hK _,(hF.mono (j2.agree hh)).put (TR hd) .val,j1,j2⟩
theorem Z97 {K:Fr->List Res->Prop} {g sz:Nat} {xs:List AV} {hx:Option Value} (hd:VP n (ZP ops k)=true) (ha:Tz P ops F k=some (.val (.slice (some ⟨g,0,none⟩) 0 0),.sl xs hx,sz))
  (hxs:∀y∈xs,y.leaves.length=sz) (hbound:xs.length<=4294967296)
  (hK:∀v:Hd,K (F.put (ZP ops k).dst (.val v.v)) (.row v.v sz (Ze xs)::h2)):WK P n (ZP ops k) F (.row (.slice (some ⟨g,0,none⟩) 0 0) sz []::h2) K:=by
 unfold Tz at ha
 generalize hoo:ZP ops k=o at ha hd hK
 obtain ⟨dst,op,type,pos,after,guard⟩:=o
 cases op<;>simp only at ha<;>try (cases ha)
 rename_i c
 obtain ⟨callee,args,tys⟩:=c
 simp only at ha
 split at ha
 case h_2=>cases ha
 rename_i s x t t' hargs htys
 split at ha
 case h_2=>cases ha
 rename_i e htt ht
 have:=T7 htt
 subst this
 split at ha
 case h_2=>cases ha
 rename_i i hinfo
 split at ha
 case h_2=>cases ha
 rename_i z hz
 split at ha
 case h_2=>cases ha
 rename_i hb
 simp only [Xo] at hb
 simp only [Wv,Prod.mk.injEq] at ha
 obtain ⟨h3,h4,hk1⟩:=ha
 have e1:args=#[s,x]:=by rw [<-Ti (xs:=args),hargs]
 have e2:tys=#[t,t]:=by rw [<-Ti (xs:=tys),htys]
 subst e1;subst e2
 have hzs:z.cells.size=sz:=by rw [T7 hb.1,hk1]
 have hby:=V2 hb.2
 intro Q w G a hF hh
 have v1:=hF.ev s
 have v2:=hF.ev x
 rw [h3] at v1
 rw [h4] at v2
 have v1:=v1.val_inv
 have v2:=v2.forget
 have finish:∀(v':Hd) w',(Builtin.append_ #[t,t] type #[.slice (some ⟨g,0,none⟩) 0 0,a.eval x]).run P w=.ok v'.v w'->YE w' G (.row v'.v sz (Ze xs)::h2) ->
   X1 w G (.row (.slice (some ⟨g,0,none⟩) 0 0) sz []::h2) w' G (.row v'.v sz (Ze xs)::h2) ->
   ({ dst:=dst,op:=.call { callee:=.builtin .append,args:=#[s,x],argTypes:=#[t,t] },type:=type,pos:=pos,after:=after,guard:=guard }:Oper).wp P a w
    (fun a' w'=>∃F' h' G',K F' h'/\FR w' G' n F' a'/\YE w' G' h'/\X1 w G (.row (.slice (some ⟨g,0,none⟩) 0 0) sz []::h2) w' G' h') Q:=by
  intro v' w' hr j1 j2
  have hrun:(execOp a.eval { dst:=dst,op:=.call { callee:=.builtin .append,args:=#[s,x],argTypes:=#[t,t] },type:=type,pos:=pos,after:=after,guard:=guard }).run P w=.ok (.value v'.v) w':=by
   simp only [execOp,resolve,invoke,builtin,Sem.run_bind,Sem.run_pure,Result.andThen_ok,EK,T6,EJ,v1,hr]
  unfold Oper.wp
  rw [hrun]
  exact ⟨_,_,G,hK v',(hF.mono (j2.agree hh)).put (TR hd) .val,j1,j2⟩
 by_cases hxe:xs=[]
 ·subst hxe
  cases v2q:a.eval x with
  | slice ad' l' c'=>
   rw [v2q] at v2
   cases v2<;>exact finish ⟨some ⟨g,0,none⟩,0,0⟩ _ (by rw [v2q];exact Dp ht hinfo (X7 _) w) hh (X1.refl w G _)
  | _=>rw [v2q] at v2;cases v2
 ·generalize hax:a.eval x=ax at v2 finish
  cases v2 with
  | nil _=>exact absurd rfl hxe
  | sl hq hcc hm=>
   rename_i b o' k' c
   have hpos:0<xs.length:=Bz.2 hxe
   have hfm:=hm.flat_mem
   obtain ⟨news,hn,hnc⟩:=hfm.cells
   have hfl:=To xs hxs
   have hnl:news.length=xs.length*i.size:=by rw [hn.length,hfl,hk1]
   have hnews:∀j u,news[j]? = some u->w.cell? ((⟨b,o',none⟩:Addr).add j)=some u:=fun j u hj=>by rw [KW];exact (hnc j u hj).1
   have hbb:(0+xs.length)*i.bytes<=140737488355328:=by
    have:=Nat.mul_le_mul hbound hby
    rw [Wh]
    omega
   have hr:=run_append_grow (P:=P) w t type e i z ht hinfo hz ⟨g,0,none⟩ 0 0 [] (by simp) (fun j u hj=>by simp at hj) ⟨b,o',none⟩ xs.length c news hnl hnews om om (growslice_fits om hbb)
   simp only [Wh] at hr
   have Xf:=grownCap_ge w xs.length 0 e
   obtain ⟨j1,j2⟩:=hh.drew.alloc_rrow ([].toArray++news.toArray++Builtin.zeroCells z.cells (grownCap w xs.length 0 e-xs.length)) e
    (ls:=Ze xs) (len:=xs.length) (cap:=grownCap w xs.length 0 e) (k:=sz) Xf
    (by
     have q2:(grownCap w xs.length 0 e-xs.length)*sz=grownCap w xs.length 0 e*sz-xs.length*sz:=Nat.sub_mul ..
     have q3:xs.length*sz<=grownCap w xs.length 0 e*sz:=KU _ Xf
     simp only [Array.size_append,EL,size_zeroCells,hzs,X5,Wh,hnl,hk1]
     omega) hfl
    (by
     have q1:([].toArray++news.toArray++Builtin.zeroCells z.cells (grownCap w xs.length 0 e-xs.length)).toList.take (xs.length*sz)=news:=by
      simp only [GW,Cu]
      rw [<-hk1,<-hnl]
      exact Jr
     rw [q1]
     exact hn.mono (AT w G))
   have hs:List.Sublist (.row (.slice (some ⟨w.drew.heap.size,0,none⟩) xs.length (grownCap w xs.length 0 e)) sz (Ze xs)::h2)
     (.row (.slice (some ⟨w.drew.heap.size,0,none⟩) xs.length (grownCap w xs.length 0 e)) sz (Ze xs)::.row (.slice (some ⟨g,0,none⟩) 0 0) sz []::h2):=List.Sublist.cons_cons _ (BA _ _)
   exact finish ⟨some ⟨w.heap.size,0,none⟩,xs.length,grownCap w xs.length 0 e⟩ _ hr (j1.sub hs) ((X1.drew w G _).trans (j2.sub' hs))
theorem Lf {w:World} {G:Yg} {v:Hd} {kk m:Nat} {ls:List AV} (h:Jt w G v.v kk ls) (hm:ls.length=m*kk) (hk:0<kk) (h0:0<m):∃g c,v=⟨some ⟨g,0,none⟩,m,c⟩:=by
 obtain ⟨a,l,c⟩:=v
 rcases h with ⟨h1,h2⟩|⟨g,len,cap,cur,e,h1,h2,h3,h4,h5,h6⟩
 ·subst h2
  have:=Nat.mul_pos h0 hk
  rw [X5] at hm
  omega
 ·cases h1
  have:l=m:=GZ hk (h5.symm.trans hm)
  subst this
  exact ⟨g,c,rfl⟩
theorem SW (j m:Nat) {v:Hd} {kk:Nat} {ls:List AV} {c:Code} {A:WQ} (hj:h[j]? = some (.row v.v kk ls)) (hm:ls.length=m*kk) (hk:0<kk) (h0:0<m)
  (H:∀g c',v=⟨some ⟨g,0,none⟩,m,c'⟩->Yx P n c A F h):Yx P n c A F h:=by
 intro w G a hF hh
 obtain ⟨g,c',e⟩:=Lf (hh.ok _ (Y2 hj)) hm hk h0
 exact H g c' e w G a hF hh
theorem SV (t j:Nat) {v:Hd} {kk:Nat} {es:List AV} {c:Code} {A:WQ} (hF':F.get t=.h v) (hp:W6 [j] h=some [.row v.v kk (Ze es)]) (hes:∀y∈es,y.leaves.length=kk) (hk:0<kk)
  (H:Yx P n c A ((t,.sl es (some v.v))::F) (.tail v.v kk::XA [j] h)):Yx P n c A F h:=by
 intro w G a hF hh
 have hp':=Uc (Vy hp)
 obtain ⟨G',h1,h2',h3⟩:=Do (hh.perm hp') hes hk
 have e:=h2'.perm hp'.symm (Tu _)
 have hF2:=hF.mono (e.agree hh)
 have hv:=hF2.get t
 rw [hF'] at hv
 have hv:=hv.val_inv
 refine wp_mono (H w G' a ⟨hF2.defers,hF2.size,fun s=>?_⟩ h1) fun e' a' w' hc=>hc.trans e
 show RV w G' (match Nat.beq t s with|true=>_|false=>Fr.get F s) _
 cases hb:Nat.beq t s with
 | true=>
  have:=T7 hb
  subst this
  rw [hv]
  exact h3
 | false=>exact hF2.get s
theorem Zdk (j i p:Nat) {u v:Value} {kk kv:Nat} {es ls:List AV} (hp:W6 [j,i] h=some [.row u kk (Ze es),.row v kv ls]) (hes:∀y∈es,y.leaves.length=kk) (hk:0<kk) (hl:ls[p]? = some (.val u)) :
  Ve h (.row v kv (ls.set p (.sl es (some u)))::.tail u kk::XA [j,i] h):=by
 intro w G hh
 have hp':=Uc (Vy hp)
 have hh':=hh.perm hp'
 obtain ⟨G',h1,h2',h3⟩:=Do (h2:=.row v kv ls::XA [j,i] h) hh' hes hk
 have e:=h2'.perm hp'.symm (Tu _)
 have h1:YE w G' (.tail u kk::.row v kv ls::XA [j,i] h):=h1
 have perm:(Res.tail u kk::.row v kv ls::XA [j,i] h).Perm (.row v kv ls::.tail u kk::XA [j,i] h):=List.Perm.swap ..
 have h4:=h1.perm perm
 have e4:=e.perm (Tu _) perm
 have hset:∀{w:World} {G:Yg},RV w G (.sl es (some u)) u->Jt w G v kv ls->Jt w G v kv (ls.set p (.sl es (some u))):=by
  intro w G hu hr
  rcases hr with ⟨rfl,h0⟩|⟨g,len,cap,cur,el,rfl,k1,k2,k3,k4,k5⟩
  ·exact .inl ⟨rfl,by rw [h0];rfl⟩
  ·refine .inr ⟨g,len,cap,cur,el,rfl,k1,k2,k3,by rw [VC];exact k4,?_⟩
   obtain ⟨c,c1,c2⟩:=k5.get p _ hl
   have:=c2.val_inv
   subst this
   have h6:=k5.set p hu
   rwa [show (cur.toList.take (len*kv)).set p c=cur.toList.take (len*kv) from by
    apply List.ext_getElem?
    intro q
    rw [List.getElem?_set]
    split
    ·rename_i hq;subst hq;split
     ·exact c1.symm
     ·rename_i hq2;rw [By om]
    ·rfl] at h6
 refine ⟨G',⟨fun r hr=>?_,?_,fun r hr=>?_,h4.lt⟩,⟨e4.os,e4.tape,e4.output,e4.size,e4.sub,e4.same,e4.newG,fun b o hb ⟨r,hr,hf⟩=>e4.newfp b o hb ?_⟩⟩
 ·rcases YM.1 hr with rfl|hr
  ·exact hset h3 (h4.ok _ (Xm ..))
  ·exact h4.ok r (XE _ hr)
 ·have:=V1.1 h4.apart
  refine V1.2 ⟨fun r hr b o f1 f2=>this.1 r hr b o ?_ f2,this.2⟩
  cases v with
  | slice a _ _=>cases a with
   | none=>exact f1.elim
   | some a=>exact f1
  | _=>exact f1.elim
 ·rcases YM.1 hr with rfl|hr
  ·intro b o f1 hg
   refine h4.prot (.row v kv ls) (Xm ..) b o ?_ hg
   cases v with
   | slice a _ _=>cases a with
    | none=>exact f1.elim
    | some a=>exact f1
   | _=>exact f1.elim
  ·exact h4.prot r (XE _ hr)
 ·rcases YM.1 hr with rfl|hr
  ·refine ⟨.row v kv ls,Xm ..,?_⟩
   cases v with
   | slice a _ _=>cases a with
    | none=>exact hf.elim
    | some a=>exact hf
   | _=>exact hf.elim
  ·exact ⟨r,XE _ hr,hf⟩
end
end Go.Abs
section
namespace Go.Abs
structure Sz where
 fields:LI
 fv:Value
structure M3 where
 frm:Int
 to_:Int
 cons:List Sz
 cv:Value
mutual
inductive H4 where
 | mk (op num into:Int) (args:LI) (av:Value) (kids:List ER) (kv:Value)
inductive ER where
 | mk (steps:List H4) (sv:Value) (result:Int)
end
namespace H4
end H4
namespace ER
end ER
structure SF where
 params:LI
 pv:Value
 lent:LI
 lv:Value
 result:Int
 body:ER
structure SB where
 decls:List M3
 dv:Value
 routines:List SF
 rv:Value
inductive H2:List AV->List AV->Prop
 | nil:H2 [] []
 | cons {x y:AV} {xs ys:List AV} (hl:x.leaves.length=y.leaves.length) (h:Vk x.leaves y.leaves) (t:H2 xs ys):H2 (x::xs) (y::ys)
theorem KC {es:List AV} {k:Nat} (h:es.all (fun y=>Nat.beq y.leaves.length k)=true):∀y∈es,y.leaves.length=k:=fun y hy=>T7 (JZ.1 h y hy)
abbrev rK (g:Hd) (k:Nat) (ls:List AV):Res:=.row g.v k ls
section
variable {P:Program} {n:Nat} {c:Code} {A:WQ} {F:Fr} {h:List Res} {ops:Array Oper} {B:Fr->List Res->Prop} {k:Nat}
variable {T:List (Nat × List Nat)} {fuel:Nat} {done:List Nat}
theorem rr {v:Value} {q:Nat} {ls ls':List AV} {t t':List Res} (h:ls=ls') (e:t=t'):Res.row v q ls::t=.row v q ls'::t':=h▸e▸rfl
theorem IA (j m:Nat) (v:Hd) (kk:Nat) (ls:List AV) (hm:ls.length=m*kk) (hk:0<kk:=by omega) (hl:D9 P ops F k=some (.h v):=by kernel_rfl) (hj:h[j]? = some (rK v kk ls):=by kernel_rfl):XT P (ZP ops k) F h [] (.i m):=
 Zd0 j hl hj hm hk
theorem W7 (b l c' q sz:Nat) (j:Int) (hq:j=(q:Int)/\q<l:=by omega) (hi:Ba P ops F k=some (.val (.slice (some ⟨b,0,none⟩) l c'),j,sz):=by kernel_rfl):XT P (ZP ops k) F h [] (.val (.pointer (some ⟨b,q*sz,none⟩))):=by
 have:=S1 (P:=P) (F:=F) (h:=h) hi om om
 rw [hq.1,Tj,Wh] at this
 exact this
theorem Va (j g len cap kk o:Nat) (ls zs:List AV) (t:TypeId) (y:AV) (hz:(ls.drop o).take zs.length=zs) (hl:IS ops F k=some (t,.val (.pointer (some ⟨g,o,none⟩))):=by kernel_rfl) (hj:h[j]? = some (.row (.slice (some ⟨g,0,none⟩) len cap) kk ls):=by kernel_rfl)
  (hy:Ay P t zs=some y:=by kernel_rfl):XT P (ZP ops k) F h [g] y:=Zd1 j hl hj hz hy
theorem E7 (j g len cap kk o:Nat) (xs ls:List AV) (ls':List AV) (hlt:o+xs.length<=ls.length) (he:ls.take o++xs++ls.drop (o+xs.length)=ls') (H:SI P n ops B (k+1) F (.row (.slice (some ⟨g,0,none⟩) len cap) kk ls'::XA [j] h)) (hk:Xk n ops F k=true:=by kernel_rfl)
  (hs:storeAt P ops F k=some (g,o,xs):=by kernel_rfl) (hp:W6 [j] h=some [.row (.slice (some ⟨g,0,none⟩) len cap) kk ls]:=by kernel_rfl):SI P n ops B k F h:=
 QB hk (WK.perm (Uc (Vy hp)) (Pa hs hlt (by rw [he];exact H)))
theorem JH (i j:Nat) (js bs:List Nat) (g len cap kk o:Nat) (xs ls:List AV) (ls':List AV) (hlt:o+xs.length<=ls.length) (he:ls.take o++xs++ls.drop (o+xs.length)=ls')
  (H:X3 P n ops B (T.filter fun t=>!Vf ops i t.1) fuel (done++[i]) F (.row (.slice (some ⟨g,0,none⟩) len cap) kk ls'::XA [j] h)) (hk:Xk n ops F i=true:=by kernel_rfl)
  (hs:storeAt P ops F i=some (g,o,xs):=by kernel_rfl) (hp:W6 [j] h=some [.row (.slice (some ⟨g,0,none⟩) len cap) kk ls]:=by kernel_rfl) (ho:Uw ops i T=bs:=by kernel_rfl)
  (hj:js.map (fun q=>(WS (XA [j] h))[q]?)=bs.map some:=by kernel_rfl):VL P n ops B T fuel done F h i:=
 JI [j] js bs hk (Vy hp) ho hj (Pa (h2:=[]) hs hlt (by rw [he];exact H))
theorem E6 (sz:Nat) (hK:∀g,SI P n ops B (k+1) (F.put (ZP ops k).dst (.val (.slice (some ⟨g,0,none⟩) 0 0))) (.row (.slice (some ⟨g,0,none⟩) 0 0) sz []::h)) (hk:Xk n ops F k=true:=by kernel_rfl)
  (ha:Te P ops F k=some ([],0,sz):=by kernel_rfl):SI P n ops B k F h:=QB hk (Z98 (UI hk).2.1 ha hK)
theorem iKC (j g sz:Nat) (xs:List AV) (hx:Option Value) (hxs:∀y∈xs,y.leaves.length=sz) (hbound:xs.length<=4294967296) (hK:∀v:Hd,SI P n ops B (k+1) (F.put (ZP ops k).dst (.h v)) (rK v sz (Ze xs)::XA [j] h))
  (hk:Xk n ops F k=true:=by kernel_rfl) (ha:Tz P ops F k=some (.val (.slice (some ⟨g,0,none⟩) 0 0),.sl xs hx,sz):=by kernel_rfl) (hp:W6 [j] h=some [.row (.slice (some ⟨g,0,none⟩) 0 0) sz []]:=by kernel_rfl):SI P n ops B k F h:=
 QB hk (WK.perm (Uc (Vy hp)) (Z97 (UI hk).2.1 ha hxs hbound hK))
theorem Iz (j m:Nat) {v:Hd} {kk:Nat} {ls:List AV} (hm:ls.length=m*kk) (h0:0<m) (H:∀g c',v=⟨some ⟨g,0,none⟩,m,c'⟩->Yx P n c A F h) (hk:0<kk:=by omega) (hj:h[j]? = some (rK v kk ls):=by kernel_rfl):Yx P n c A F h:=
 SW j m hj hm hk h0 H
theorem Z7m (t j:Nat) {v:Hd} {kk:Nat} (es:List AV) (hes:∀y∈es,y.leaves.length=kk) (H:Yx P n c A ((t,.sl es (some v.v))::F) (.tail v.v kk::XA [j] h)) (hk:0<kk:=by omega) (hF':F.get t=.h v:=by kernel_rfl)
  (hp:W6 [j] h=some [rK v kk (Ze es)]:=by kernel_rfl):Yx P n c A F h:=SV t j hF' hp hes hk H
theorem Lg {A xs ys B:List AV} {o:Nat} (hA:A.length=o) (hl:xs.length=ys.length):(A++(xs++B)).take o++ys++(A++(xs++B)).drop (o+ys.length)=A++(ys++B):=by
 subst hA
 rw [Jr,<-hl,<-List.drop_drop,List.drop_left,List.drop_left,VJ]
theorem R3 {A xs B:List AV} {o:Nat} (hA:A.length=o):((A++(xs++B)).drop o).take xs.length=xs:=by
 subst hA
 rw [List.drop_left,Jr]
theorem Ku (xs ys:List AV):Ze (xs++ys)=Ze xs++Ze ys:=by simp [Ze]
theorem LH (j:Nat) (v:Value) (q:Nat) (ls ls':List AV) (e:ls=ls') (hp:W6 [j] h=some [.row v q ls]:=by kernel_rfl):Ve h (.row v q ls'::XA [j] h):=by
 subst e
 intro w G hh
 have hp':=Uc (Vy hp)
 exact ⟨G,hh.perm hp',(X1.refl w G h).perm (Tu _) hp'⟩
end
end Go.Abs
end
