/-
  A part of the proof of FnLastUseUptoSaid (see the last file): no condition.
-/
import Derived.OrdersHeld
import Derived.Below
import Derived.KernelRfl
import Derived.Laws.AppendOwn
import Derived.Laws.MakeOwn
import Derived.IntWalk
import Derived.Lib.AppendZeros
set_option linter.all false
set_option linter.unusedVariables false
set_option linter.unusedSimpArgs false
set_option linter.unusedSectionVars false
set_option maxRecDepth 10000
set_option maxHeartbeats 4000000
namespace Go.Abs
abbrev LI:=List Int
theorem ob {p:Prop} (h:p:=by first|assumption|omega|rfl|(simp<;>omega)):p:=h
theorem kr {p:Prop} (h:p:=by kernel_rfl):p:=h
theorem om {p:Prop} (h:p:=by omega):p:=h
def Zp:=@if_neg
def Zw:=@if_pos
def Zz:=@beq_iff_eq
def ZW:=@List.mem_of_getElem?
def Yk:=@List.length_append
def Yr:=@List.mem_cons
def Ys:=@congrArg
def YD:=@List.length_cons
def YQ:=@Nat.le_refl
def YU:=@List.mem_append
def YZ:=@List.mem_cons_self
def X8:=@List.length_nil
def Xc:=@Bool.eq_iff_iff
def Xd:=@bne_iff_ne
def Xp:=@List.mem_singleton
def Xr:=@List.mem_cons_of_mem
def XA:=@List.getElem?_eq_some_iff
def XQ:=@Option.some.injEq
def Wb:=@List.pairwise_cons
def Wg:=@List.mem_map
def Wn:=@Bool.and_eq_true
def Wr:=@List.length_take
def Wv:=@Nat.zero_add
def Wx:=@Nat.le_of_ble_eq_true
def WK:=@Nat.le_trans
def WT:=@List.take_of_length_le
def Va:=@List.take_length
def Vb:=@Nat.min_eq_left
def Vs:=@Array.getElem?_eq_some_iff
def VN:=@List.append_assoc
def VV:=@Int.toNat_natCast
def VW:=@Nat.eq_of_beq_eq_true
def Ue:=@Array.toArray_toList
def Uf:=@List.map_cons
def Uo:=@List.take_append_drop
def Uu:=@List.length_set
def T3:=@List.Perm.refl
def T4:=@List.append_nil
def T5:=@List.getElem?_take
def T6:=@Nat.add_mul
def T7:=@Nat.zero_le
def Ts:=@List.mem_of_mem_take
def Tt:=@Nat.mul_le_mul_right
def TK:=@List.cons_append
def TL:=@List.drop_zero
def TM:=@List.getElem?_eq_getElem
def Qs:=@Array.length_toList
def QL:=@List.getElem?_map
def Kh:=@List.all_eq_true
def Ki:=@List.length_drop
def Kj:=@List.nil_append
def Kk:=@List.pairwise_append
def Kl:=@List.take_left
def J7:=@Nat.add_assoc
def J8:=@Nat.lt_or_ge
def J9:=@Nat.mul_one
def JK:=@List.flatMap_cons
def JL:=@List.pairwise_singleton
def JM:=@List.sublist_cons_self
def JN:=@Nat.add_zero
def Aw:=@List.getElem?_drop
def Ax:=@List.take_succ_cons
def Ay:=@Option.some.inj
def Br:=@Array.getElem?_toList
def Bs:=@List.size_toArray
def Bt:=@List.toList_toArray
def Bu:=@Option.map_some
def Ct:=@Bool.eq_false_iff
def Cu:=@Classical.not_not
def Cv:=@List.getElem?_append_left
def Cw:=@List.length_map
def Cx:=@List.length_singleton
def Cy:=@List.map_nil
def Cz:=@List.map_toArray
def CA:=@List.set_eq_take_append_cons_drop
def Ea:=@Array.toList_append
def Eb:=@List.drop_eq_nil_of_le
def Ec:=@List.getElem?_append_right
def Ed:=@List.length_pos_iff
def Ee:=@Nat.eq_of_mul_eq_mul_right
def GT:=@Classical.byContradiction
def GU:=@List.getElem?_eq_none
def GV:=@Nat.lt_of_lt_of_le
def NE:=@List.drop_eq_getElem_cons
def NF:=@List.replicate_succ
end Go.Abs
namespace Go.Abs
inductive AV where
 | any
 | val (v:Value)
 | sl (es:List AV) (hv:Option Value)
 | agg (ls:List AV)
 | rp (ls:List AV)
 | tup (vs:List AV)
abbrev ZY:=Nat->Nat->Prop
def AV.leaves:AV->List AV
 | .agg ls=>ls
 | x=>[x]
mutual
inductive RV (w:World) (G:ZY):AV->Value->Prop
 | any {v}:RV w G .any v
 | val {v}:RV w G (.val v) v
 | nil {hv a cap} (h:∀x,hv=some x->x=.slice a 0 cap):RV w G (.sl [] hv) (.slice a 0 cap)
 | sl {es hv b o k cap} (h:∀x,hv=some x->x=.slice (some ⟨b,o,none⟩) es.length cap) (hc:es.length<=cap) (hm:Wy w G k b o es) :
   RV w G (.sl es hv) (.slice (some ⟨b,o,none⟩) es.length cap)
 | agg {ls cs} (h:Yz w G ls cs):RV w G (.agg ls) (.agg cs.toArray)
 | rp {ls b o} (h:XY w G b o ls):RV w G (.rp ls) (.pointer (some ⟨b,o,none⟩))
 | tup {vs cs} (h:Yz w G vs cs):RV w G (.tup vs) (.tuple cs.toArray)
inductive Yz (w:World) (G:ZY):List AV->List Value->Prop
 | nil:Yz w G [] []
 | cons {x v xs vs} (h:RV w G x v) (t:Yz w G xs vs):Yz w G (x::xs) (v::vs)
inductive XY (w:World) (G:ZY):Nat->Nat->List AV->Prop
 | nil {b o}:XY w G b o []
 | cons {b o x c xs} (hc:w.cell? ⟨b,o,none⟩=some c) (hg:G b o) (h:RV w G x c) (t:XY w G b (o+1) xs):XY w G b o (x::xs)
inductive Wy (w:World) (G:ZY):Nat->Nat->Nat->List AV->Prop
 | nil {k b o}:Wy w G k b o []
 | cons {k b o x xs} (hl:x.leaves.length=k) (h:XY w G b o x.leaves) (t:Wy w G k b (o+k) xs):Wy w G k b o (x::xs)
end
structure V1 (G:ZY) (w w':World) (G':ZY):Prop where
 cell:∀b o,G b o->w'.cell? ⟨b,o,none⟩=w.cell? ⟨b,o,none⟩
 sub:∀b o,G b o->G' b o
section mono
variable {w w':World} {G G':ZY}
mutual
theorem RV.mono {x:AV} {v:Value} (hA:V1 G w w' G'):RV w G x v->RV w' G' x v
 | .any=>.any
 | .val=>.val
 | .nil h=>.nil h
 | .sl h hc hm=>.sl h hc (hm.mono hA)
 | .agg h=>.agg (h.mono hA)
 | .rp h=>.rp (h.mono hA)
 | .tup h=>.tup (h.mono hA)
theorem Yz.mono {xs:List AV} {vs:List Value} (hA:V1 G w w' G'):Yz w G xs vs->Yz w' G' xs vs
 | .nil=>.nil
 | .cons h t=>.cons (h.mono hA) (t.mono hA)
theorem XY.mono {b o:Nat} {xs:List AV} (hA:V1 G w w' G'):XY w G b o xs->XY w' G' b o xs
 | .nil=>.nil
 | .cons hc hg h t=>.cons ((hA.cell _ _ hg).trans hc) (hA.sub _ _ hg) (h.mono hA) (t.mono hA)
theorem Wy.mono {k b o:Nat} {xs:List AV} (hA:V1 G w w' G'):Wy w G k b o xs->Wy w' G' k b o xs
 | .nil=>.nil
 | .cons hl h t=>.cons hl (h.mono hA) (t.mono hA)
end
end mono
theorem Yz.length {w:World} {G:ZY}:∀{xs:List AV} {vs:List Value},Yz w G xs vs->vs.length=xs.length
 | _,_,.nil=>rfl
 | _,_,.cons _ t=>by simp [t.length]
theorem Yz.get {w:World} {G:ZY}:∀{xs:List AV} {vs:List Value},Yz w G xs vs->∀(i:Nat) (x:AV),xs[i]? = some x->∃v,vs[i]? = some v/\RV w G x v
 | _,_,.nil,i,x,h=>by simp at h
 | _,_,.cons h t,0,x,hx=>by simp at hx;subst hx;exact ⟨_,rfl,h⟩
 | _,_,.cons h t,i+1,x,hx=>by simpa using t.get i x (by simpa using hx)
theorem Yz.append {w:World} {G:ZY}:∀{xs ys:List AV} {vs us:List Value},Yz w G xs vs->Yz w G ys us->Yz w G (xs++ys) (vs++us)
 | _,_,_,_,.nil,h=>h
 | _,_,_,_,.cons h t,h2=>.cons h (t.append h2)
theorem Yz.take {w:World} {G:ZY}:∀{xs:List AV} {vs:List Value} (n:Nat),Yz w G xs vs->Yz w G (xs.take n) (vs.take n)
 | _,_,0,_=>by simp;exact .nil
 | _,_,n+1,.nil=>by simp;exact .nil
 | _,_,n+1,.cons h t=>by simp;exact .cons h (t.take n)
theorem Yz.drop {w:World} {G:ZY}:∀{xs:List AV} {vs:List Value} (n:Nat),Yz w G xs vs->Yz w G (xs.drop n) (vs.drop n)
 | _,_,0,h=>by simpa using h
 | _,_,n+1,.nil=>by simp;exact .nil
 | _,_,n+1,.cons h t=>by simpa using t.drop n
theorem Yz.set {w:World} {G:ZY}:∀{xs:List AV} {vs:List Value} (n:Nat) {x:AV} {v:Value},Yz w G xs vs->RV w G x v->Yz w G (xs.set n x) (vs.set n v)
 | _,_,_,_,_,.nil,_=>by simp;exact .nil
 | _,_,0,_,_,.cons h t,hx=>by simp;exact .cons hx t
 | _,_,n+1,_,_,.cons h t,hx=>by simp;exact .cons h (t.set n hx)
theorem XY.drop {w:World} {G:ZY}:∀(n:Nat) {b o:Nat} {xs:List AV},XY w G b o xs->XY w G b (o+n) (xs.drop n)
 | 0,_,_,_,h=>by simpa using h
 | n+1,_,_,_,.nil=>by simp;exact .nil
 | n+1,_,_,_,.cons hc hg h t=>by
  have:=t.drop n
  simp only [List.drop_succ_cons]
  rw [show ∀o:Nat,o+(n+1)=o+1+n from fun o=>by omega]
  exact this
theorem XY.take {w:World} {G:ZY}:∀(n:Nat) {b o:Nat} {xs:List AV},XY w G b o xs->XY w G b o (xs.take n)
 | 0,_,_,_,h=>by simp;exact .nil
 | n+1,_,_,_,.nil=>by simp;exact .nil
 | n+1,_,_,_,.cons hc hg h t=>by simp;exact .cons hc hg h (t.take n)
theorem XY.append {w:World} {G:ZY}:∀{b o:Nat} {xs ys:List AV},XY w G b o xs->XY w G b (o+xs.length) ys->XY w G b o (xs++ys)
 | _,_,_,_,.nil,h=>by simpa using h
 | _,_,_,_,.cons hc hg h t,h2=>.cons hc hg h (t.append (by
   simp only [YD] at h2
   rw [show ∀(o:Nat) (l:Nat),o+1+l=o+(l+1) from fun o l=>by omega];exact h2))
theorem XY.cells {w:World} {G:ZY}:∀{b o:Nat} {xs:List AV},XY w G b o xs ->
  ∃cs,Yz w G xs cs/\(∀j v,cs[j]? = some v->w.cell? ⟨b,o+j,none⟩=some v/\G b (o+j))
 | _,_,_,.nil=>⟨[],.nil,by simp⟩
 | _,o,_,.cons (c:=c) hc hg h t=>by
  obtain ⟨cs,h1,h2⟩:=t.cells
  refine ⟨c::cs,.cons h h1,fun j v hj=>?_⟩
  cases j with
  | zero=>simp at hj;subst hj;exact ⟨hc,hg⟩
  | succ j=>
   have:=h2 j v (by simpa using hj)
   rw [show o+1+j=o+(j+1) from by omega] at this
   exact this
theorem XY.of_cells {w:World} {G:ZY} {b:Nat}:∀{o:Nat} {xs:List AV} {cs:List Value},Yz w G xs cs ->
  (∀j v,cs[j]? = some v->w.cell? ⟨b,o+j,none⟩=some v/\G b (o+j))->XY w G b o xs
 | _,_,_,.nil,_=>.nil
 | o,_,_,.cons (v:=c) h t,hc=>by
  have h0:=hc 0 c (by simp)
  refine .cons h0.1 h0.2 h (XY.of_cells t fun j v hj=>?_)
  have:=hc (j+1) v (by simpa using hj)
  rw [show o+(j+1)=o+1+j from by omega] at this
  exact this
def Zc (es:List AV):List AV:=es.flatMap AV.leaves
theorem Wy.flat_mem {w:World} {G:ZY} {k:Nat}:∀{b o:Nat} {xs:List AV},Wy w G k b o xs->XY w G b o (Zc xs)
 | _,_,_,.nil=>.nil
 | _,_,_,.cons hl h t=>by
  simp only [Zc,JK]
  exact h.append (by rw [hl];exact t.flat_mem)
theorem Wy.of_flat {w:World} {G:ZY} {k:Nat} {b:Nat}:∀{o:Nat} (xs:List AV),(∀x∈xs,x.leaves.length=k)->XY w G b o (Zc xs)->Wy w G k b o xs
 | _,[],_,_=>.nil
 | o,x::xs,hk,h=>by
  have hx:=hk x (by simp)
  simp only [Zc,JK] at h
  have h1:=h.take x.leaves.length
  have h2:=h.drop x.leaves.length
  simp only [List.take_left',List.drop_left'] at h1 h2
  rw [hx] at h2
  exact .cons hx h1 (Wy.of_flat xs (fun y hy=>hk y (by simp [hy])) h2)
theorem Wy.len {w:World} {G:ZY} {k:Nat}:∀{b o:Nat} {xs:List AV},Wy w G k b o xs->∀x∈xs,x.leaves.length=k
 | _,_,_,.nil,x,h=>by simp at h
 | _,_,_,.cons hl _ t,x,h=>by
  rcases Yr.1 h with rfl|h
  ·exact hl
  ·exact t.len x h
theorem Ur {k:Nat}:∀(xs:List AV),(∀x∈xs,x.leaves.length=k)->(Zc xs).length=xs.length*k
 | [],_=>by simp [Zc]
 | x::xs,h=>by
  have:=Ur xs (fun y hy=>h y (by simp [hy]))
  simp only [Zc,JK,Yk,YD] at this ⊢
  rw [this,h x (by simp),T6];omega
theorem Wy.get {w:World} {G:ZY} {k:Nat}:∀{b o:Nat} {xs:List AV},Wy w G k b o xs->∀(i:Nat) (x:AV),xs[i]? = some x->XY w G b (o+i*k) x.leaves
 | _,_,_,.nil,i,x,h=>by simp at h
 | _,_,_,.cons hl h t,0,x,hx=>by simp at hx;subst hx;simpa using h
 | _,o,_,.cons hl h t,i+1,x,hx=>by
  have:=t.get i x (by simpa using hx)
  rw [show o+(i+1)*k=o+k+i*k from by rw [T6];omega]
  exact this
theorem Wy.drop {w:World} {G:ZY} {k:Nat}:∀(n:Nat) {b o:Nat} {xs:List AV},Wy w G k b o xs->Wy w G k b (o+n*k) (xs.drop n)
 | 0,_,_,_,h=>by simpa using h
 | n+1,_,_,_,.nil=>by simp;exact .nil
 | n+1,_,o,_,.cons hl h t=>by
  have:=t.drop n
  simp only [List.drop_succ_cons]
  rw [show o+(n+1)*k=o+k+n*k from by rw [T6];omega]
  exact this
theorem Wy.take {w:World} {G:ZY} {k:Nat}:∀(n:Nat) {b o:Nat} {xs:List AV},Wy w G k b o xs->Wy w G k b o (xs.take n)
 | 0,_,_,_,h=>by simp;exact .nil
 | n+1,_,_,_,.nil=>by simp;exact .nil
 | n+1,_,_,_,.cons hl h t=>by simp;exact .cons hl h (t.take n)
inductive Res where
 | obj (b:Nat) (ls:List AV)
 | tail (v:Value) (k:Nat)
 | ge (s:Nat)
 | vec (v:Value) (ls:List AV)
 | many (ts:List (Value × Nat))
 | own (B:List Nat) (m:Nat->Nat->Option Value)
 | row (v:Value) (k:Nat) (ls:List AV)
def GG:Value->Nat->ZY
 | .slice (some a) len _,k,b',o=>b'=a.block/\len*k<=o
 | _,_,_,_=>False
def Res.fp:Res->ZY
 | .obj b _,b',_=>b'=b
 | .tail (.slice (some a) len _) k,b',o=>b'=a.block/\len*k<=o
 | .tail _ _,_,_=>False
 | .ge _,_,_=>False
 | .vec (.slice (some a) _ _) _,b',_=>b'=a.block
 | .vec _ _,_,_=>False
 | .many ts,b',o=>∃p∈ts,GG p.1 p.2 b' o
 | .own B _,b',_=>b'∈B
 | .row (.slice (some a) _ _) _ _,b',_=>b'=a.block
 | .row _ _ _,_,_=>False
def Ek (w:World) (v:Value) (k:Nat):Prop:=
 v=.slice none 0 0∨∃g len cap cur e,v=.slice (some ⟨g,0,none⟩) len cap/\w.heap[g]? = some (.cells cur e (0,0))/\len<=cap/\cur.size=cap*k
def Jf (w:World) (G:ZY) (v:Value) (ls:List AV):Prop:=
 (v=.slice none 0 0/\ls=[])∨∃g cap cur e,v=.slice (some ⟨g,0,none⟩) ls.length cap/\w.heap[g]? = some (.cells cur e (0,0))/\ls.length<=cap/\cur.size=cap /\
  Yz w G ls (cur.toList.take ls.length)
def QM (w:World) (G:ZY) (v:Value) (k:Nat) (ls:List AV):Prop:=
 (v=.slice none 0 0/\ls=[])∨∃g len cap cur e,v=.slice (some ⟨g,0,none⟩) len cap/\w.heap[g]? = some (.cells cur e (0,0))/\len<=cap/\cur.size=cap*k/\ls.length=len*k /\
  Yz w G ls (cur.toList.take (len*k))
def Tu (w:World) (G:ZY):Res->Prop
 | .obj b ls=>∃cs e,w.heap[b]? = some (.cells cs e (0,0))/\Yz w G ls cs.toList
 | .tail v k=>Ek w v k
 | .ge s=>s<=w.heap.size
 | .vec v ls=>Jf w G v ls
 | .many ts=>(∀p∈ts,Ek w p.1 p.2)/\ts.Pairwise (fun p q=>∀b o,GG p.1 p.2 b o->GG q.1 q.2 b o->False)
 | .own B m=>∀b∈B,∃cs e,w.heap[b]? = some (.cells cs e (0,0))/\∀o,cs[o]? = m b o
 | .row v k ls=>QM w G v k ls
def WG (h:List Res):ZY:=fun b o=>∃r∈h,r.fp b o
def Ja (r r':Res):Prop:=∀b o,r.fp b o->r'.fp b o->False
structure Yj (w:World) (G:ZY) (h:List Res):Prop where
 ok:∀r∈h,Tu w G r
 apart:h.Pairwise Ja
 prot:∀r∈h,∀b o,r.fp b o->G b o->False
 lt:∀b o,G b o->b<w.heap.size
theorem Tu.lt {w:World} {G:ZY} {r:Res} (h:Tu w G r):∀b o,r.fp b o->b<w.heap.size:=by
 intro b o hf
 cases r with
 | obj b' ls=>obtain ⟨cs,e,h1,_⟩:=h;cases hf;exact (Vs.1 h1).1
 | tail v k=>
  rcases h with rfl|⟨g,len,cap,cur,e,rfl,h1,_⟩
  ·exact hf.elim
  ·obtain ⟨rfl,_⟩:=hf;exact (Vs.1 h1).1
 | ge s=>exact hf.elim
 | vec v ls=>
  rcases h with ⟨rfl,_⟩|⟨g,cap,cur,e,rfl,h1,_⟩
  ·exact hf.elim
  ·have hf:b=g:=hf
   subst hf
   exact (Vs.1 h1).1
 | many ts=>
  obtain ⟨p,hp,hf⟩:=hf
  rcases h.1 p hp with h0|⟨g,len,cap,cur,e,h0,h1,_⟩
  ·rw [h0] at hf;exact hf.elim
  ·rw [h0] at hf;obtain ⟨rfl,_⟩:=hf;exact (Vs.1 h1).1
 | own B m=>obtain ⟨cs,e,h1,_⟩:=h b hf;exact (Vs.1 h1).1
 | row v k ls=>
  rcases h with ⟨rfl,_⟩|⟨g,len,cap,cur,e,rfl,h1,_⟩
  ·exact hf.elim
  ·have hf:b=g:=hf
   subst hf
   exact (Vs.1 h1).1
def Q9 (O:ZY) (b:Nat) (w w':World):Prop:=
 w'.heap[b]? = w.heap[b]?∨∃cs cs' e fr,w.heap[b]? = some (.cells cs e fr)/\w'.heap[b]? = some (.cells cs' e fr)/\cs'.size=cs.size/\∀o,¬O b o->cs'[o]? = cs[o]?
theorem Q9.eq {O:ZY} {b:Nat} {w w':World} (h:Q9 O b w w') (hn:∀o,¬O b o):w'.heap[b]? = w.heap[b]?:=by
 rcases h with h|⟨cs,cs',e,fr,h1,h2,hs,hc⟩
 ·exact h
 ·have:cs'=cs:=by
   apply Array.ext hs
   intro i h1 h2
   have:=hc i (hn i)
   simpa [h1,h2] using this
  rw [h1,h2,this]
theorem Q9.cell {O:ZY} {b:Nat} {w w':World} (h:Q9 O b w w') {o:Nat} (hn:¬O b o):w'.cell? ⟨b,o,none⟩=w.cell? ⟨b,o,none⟩:=by
 rcases h with h|⟨cs,cs',e,fr,h1,h2,hs,hc⟩
 ·simp [World.cell?,h]
 ·simp [World.cell?,h1,h2,hc o hn]
theorem Q9.mono {O O':ZY} {b:Nat} {w w':World} (h:Q9 O b w w') (hO:∀o,O b o->O' b o):Q9 O' b w w':=by
 rcases h with h|⟨cs,cs',e,fr,h1,h2,hs,hc⟩
 ·exact .inl h
 ·exact .inr ⟨cs,cs',e,fr,h1,h2,hs,fun o hn=>hc o fun h=>hn (hO o h)⟩
theorem Q9.trans {O:ZY} {b:Nat} {w w' w'':World} (h:Q9 O b w w') (k:Q9 O b w' w''):Q9 O b w w'':=by
 rcases h with h|⟨cs,cs',e,fr,h1,h2,hs,hc⟩
 ·rcases k with k|⟨cs,cs',e,fr,h1,h2,hs,hc⟩
  ·exact .inl (k.trans h)
  ·exact .inr ⟨cs,cs',e,fr,h▸h1,h2,hs,hc⟩
 ·rcases k with k|⟨ds,ds',e',fr',k1,k2,ks,kc⟩
  ·exact .inr ⟨cs,cs',e,fr,h1,k▸h2,hs,hc⟩
  ·rw [h2] at k1
   cases k1
   exact .inr ⟨cs,ds',e,fr,h1,k2,ks.trans hs,fun o hn=>(kc o hn).trans (hc o hn)⟩
structure YO (w:World) (G:ZY) (h:List Res) (w':World) (G':ZY) (h':List Res):Prop where
 os:w'.os=w.os
 tape:w'.tape=w.tape
 output:w'.output=w.output
 size:w.heap.size<=w'.heap.size
 sub:∀b o,G b o->G' b o
 same:∀b,b<w.heap.size->Q9 (WG h) b w w'
 newG:∀b o,b<w.heap.size->G' b o->G b o∨WG h b o
 newfp:∀b o,b<w.heap.size->WG h' b o->WG h b o
theorem YO.refl (w:World) (G:ZY) (h:List Res):YO w G h w G h:=
 ⟨rfl,rfl,rfl,YQ _,fun _ _ h=>h,fun _ _=>.inl rfl,fun _ _ _ h=>.inl h,fun _ _ _ h=>h⟩
theorem YO.trans {w w' w'':World} {G G' G'':ZY} {h h' h'':List Res} (a:YO w G h w' G' h') (b:YO w' G' h' w'' G'' h''):YO w G h w'' G'' h'' where
 os:=b.os.trans a.os
 tape:=b.tape.trans a.tape
 output:=b.output.trans a.output
 size:=WK a.size b.size
 sub:=fun x o hg=>b.sub x o (a.sub x o hg)
 same:=fun x hx=>(a.same x hx).trans ((b.same x (GV hx a.size)).mono fun o ho=>a.newfp x o hx ho)
 newG:=fun x o hx hg=>by
  rcases b.newG x o (GV hx a.size) hg with h1|h1
  ·exact a.newG x o hx h1
  ·exact .inr (a.newfp x o hx h1)
 newfp:=fun x o hx ho=>a.newfp x o hx (b.newfp x o (GV hx a.size) ho)
theorem YO.agree {w w':World} {G G':ZY} {h h':List Res} (e:YO w G h w' G' h') (hk:Yj w G h):V1 G w w' G' where
 cell:=fun b o hg=>(e.same b (hk.lt b o hg)).cell fun ⟨r,hr,hf⟩=>hk.prot r hr b o hf hg
 sub:=e.sub
theorem Jo {h k:List Res} {b o:Nat}:WG (h++k) b o↔WG h b o∨WG k b o:=by
 unfold WG
 constructor
 ·rintro ⟨r,hr,hf⟩
  rcases YU.1 hr with hr|hr
  ·exact .inl ⟨r,hr,hf⟩
  ·exact .inr ⟨r,hr,hf⟩
 ·rintro (⟨r,hr,hf⟩|⟨r,hr,hf⟩)
  ·exact ⟨r,YU.2 (.inl hr),hf⟩
  ·exact ⟨r,YU.2 (.inr hr),hf⟩
theorem Yj.left {w:World} {G:ZY} {h k:List Res} (H:Yj w G (h++k)):Yj w G h:=
 ⟨fun r hr=>H.ok r (YU.2 (.inl hr)),(Kk.1 H.apart).1,fun r hr=>H.prot r (YU.2 (.inl hr)),H.lt⟩
theorem Yj.cross {w:World} {G:ZY} {h k:List Res} (H:Yj w G (h++k)) {b o:Nat} (h1:WG h b o) (h2:WG k b o):False:=by
 obtain ⟨r,hr,hf⟩:=h1
 obtain ⟨r',hr',hf'⟩:=h2
 exact (Kk.1 H.apart).2.2 r hr r' hr' b o hf hf'
theorem Yj.frame {w w':World} {G G':ZY} {h h' k:List Res} (H:Yj w G (h++k)) (e:YO w G h w' G' h') (H':Yj w' G' h') :
  Yj w' G' (h'++k)/\YO w G (h++k) w' G' (h'++k):=by
 have hA:=e.agree H.left
 have hkok:∀r∈k,Tu w G r:=fun r hr=>H.ok r (YU.2 (.inr hr))
 have hklt:∀b o,WG k b o->b<w.heap.size:=fun b o ⟨r,hr,hf⟩=>(hkok r hr).lt b o hf
 refine ⟨⟨?_,?_,?_,H'.lt⟩,⟨e.os,e.tape,e.output,e.size,e.sub,?_,?_,?_⟩⟩
 ·intro r hr
  rcases YU.1 hr with hr|hr
  ·exact H'.ok r hr
  ·have h0:=hkok r hr
   cases r with
   | obj b ls=>
    obtain ⟨cs,el,h1,h2⟩:=h0
    have hb:=(Vs.1 h1).1
    refine ⟨cs,el,?_,h2.mono hA⟩
    rw [(e.same b hb).eq fun _ ho=>H.cross ho ⟨_,hr,rfl⟩]
    exact h1
   | tail v kk=>
    rcases h0 with rfl|⟨g,len,cap,cur,el,rfl,h1,h2,h3⟩
    ·exact .inl rfl
    ·have hb:=(Vs.1 h1).1
     rcases e.same g hb with hs|⟨cs,cs',e',fr,k1,k2,k3,_⟩
     ·exact .inr ⟨g,len,cap,cur,el,rfl,hs.trans h1,h2,h3⟩
     ·rw [h1] at k1
      cases k1
      exact .inr ⟨g,len,cap,cs',el,rfl,k2,h2,k3.trans h3⟩
   | ge s=>exact WK h0 e.size
   | vec v ls=>
    rcases h0 with ⟨rfl,h0⟩|⟨g,cap,cur,el,rfl,h1,h2,h3,h4⟩
    ·exact .inl ⟨rfl,h0⟩
    ·have hb:=(Vs.1 h1).1
     refine .inr ⟨g,cap,cur,el,rfl,?_,h2,h3,h4.mono hA⟩
     rw [(e.same g hb).eq fun o ho=>H.cross ho ⟨_,hr,rfl⟩]
     exact h1
   | many ts=>
    refine ⟨fun p hp=>?_,h0.2⟩
    rcases h0.1 p hp with q|⟨g,len,cap,cur,el,q,h1,h2,h3⟩
    ·exact .inl q
    ·have hb:=(Vs.1 h1).1
     rcases e.same g hb with hs|⟨cs,cs',e',fr,k1,k2,k3,_⟩
     ·exact .inr ⟨g,len,cap,cur,el,q,hs.trans h1,h2,h3⟩
     ·rw [h1] at k1
      cases k1
      exact .inr ⟨g,len,cap,cs',el,q,k2,h2,k3.trans h3⟩
   | own B m=>
    intro b hB
    obtain ⟨cs,el,h1,h2⟩:=h0 b hB
    have hb:=(Vs.1 h1).1
    refine ⟨cs,el,?_,h2⟩
    rw [(e.same b hb).eq fun o ho=>H.cross ho ⟨_,hr,hB⟩]
    exact h1
   | row v k ls=>
    rcases h0 with ⟨rfl,h0⟩|⟨g,len,cap,cur,el,rfl,h1,h2,h3,h4,h5⟩
    ·exact .inl ⟨rfl,h0⟩
    ·have hb:=(Vs.1 h1).1
     refine .inr ⟨g,len,cap,cur,el,rfl,?_,h2,h3,h4,h5.mono hA⟩
     rw [(e.same g hb).eq fun o ho=>H.cross ho ⟨_,hr,rfl⟩]
     exact h1
 ·refine Kk.2 ⟨H'.apart,(Kk.1 H.apart).2.1,fun r hr r' hr' b o hf hf'=>?_⟩
  have hb:=hklt b o ⟨r',hr',hf'⟩
  exact H.cross (e.newfp b o hb ⟨r,hr,hf⟩) ⟨r',hr',hf'⟩
 ·intro r hr b o hf hg
  rcases YU.1 hr with hr|hr
  ·exact H'.prot r hr b o hf hg
  ·have hb:=hklt b o ⟨r,hr,hf⟩
   rcases e.newG b o hb hg with h1|h1
   ·exact H.prot r (YU.2 (.inr hr)) b o hf h1
   ·exact H.cross h1 ⟨r,hr,hf⟩
 ·exact fun b hb=>(e.same b hb).mono fun _ ho=>Jo.2 (.inl ho)
 ·intro b o hb hg
  exact (e.newG b o hb hg).imp id fun h=>Jo.2 (.inl h)
 ·intro b o hb hf
  rcases Jo.1 hf with h1|h1
  ·exact Jo.2 (.inl (e.newfp b o hb h1))
  ·exact Jo.2 (.inr h1)
theorem Ja.symm {r r':Res} (h:Ja r r'):Ja r' r:=fun b o h1 h2=>h b o h2 h1
theorem A6 {h k:List Res} (p:h.Perm k) {b o:Nat}:WG h b o↔WG k b o:=
 ⟨fun ⟨r,hr,hf⟩=>⟨r,p.mem_iff.1 hr,hf⟩,fun ⟨r,hr,hf⟩=>⟨r,p.mem_iff.2 hr,hf⟩⟩
theorem Yj.perm {w:World} {G:ZY} {h k:List Res} (H:Yj w G h) (p:h.Perm k):Yj w G k:=
 ⟨fun r hr=>H.ok r (p.mem_iff.2 hr),(p.pairwise_iff (fun h=>Ja.symm h)).1 H.apart,fun r hr=>H.prot r (p.mem_iff.2 hr),H.lt⟩
theorem YO.perm {w w':World} {G G':ZY} {h h' k k':List Res} (e:YO w G h w' G' h') (p:h.Perm k) (p':h'.Perm k'):YO w G k w' G' k':=
 ⟨e.os,e.tape,e.output,e.size,e.sub,fun b hb=>(e.same b hb).mono fun _ ho=>(A6 p).1 ho,
  fun b o hb hg=>(e.newG b o hb hg).imp id (A6 p).1,fun b o hb hf=>(A6 p).1 (e.newfp b o hb ((A6 p').2 hf))⟩
abbrev Fr:=List (Nat × AV)
def Fr.get:Fr->Nat->AV
 | [],_=>.any
 | (s,x)::r,t=>match Nat.beq s t with | true=>x | false=>Fr.get r t
def AV.ofVal:Value->AV
 | .slice none 0 0=>.sl [] (some (.slice none 0 0))
 | v=>.val v
theorem RV.ofVal {w:World} {G:ZY} (v:Value):RV w G (AV.ofVal v) v:=by
 unfold AV.ofVal
 split
 ·exact .nil (by simp)
 ·exact .val
def Fr.ev (F:Fr):Operand->AV
 | .tmp t=>F.get t
 | .const v=>AV.ofVal v
 | .global g=>.val (.pointer (some ⟨g,0,none⟩))
 | .func f=>.val (.func (.func f) #[] #[])
def Fr.put (F:Fr) (d:Option Tmp) (x:AV):Fr:=
 match d with
 | some d=>(d,x)::F
 | none=>F
structure FR (w:World) (G:ZY) (n:Nat) (F:Fr) (a:Act):Prop where
 defers:a.defers=[]
 size:a.tmps.size=n
 get:∀t,RV w G (F.get t) (a.tmps.getD t undef)
section
variable {w w':World} {G G':ZY} {n:Nat} {F:Fr} {a:Act}
theorem FR.mono (h:FR w G n F a) (hA:V1 G w w' G'):FR w' G' n F a:=⟨h.defers,h.size,fun t=>(h.get t).mono hA⟩
theorem FR.ev (h:FR w G n F a) (x:Operand):RV w G (F.ev x) (a.eval x):=by
 cases x with
 | tmp t=>exact h.get t
 | const v=>exact RV.ofVal v
 | global g=>exact .val
 | func f=>exact .val
theorem FR.put (h:FR w G n F a) {d:Option Tmp} {x:AV} {v:Value} (hd:∀t,d=some t->t<n) (hx:RV w G x v):FR w G n (F.put d x) (a.put d v):=by
 cases d with
 | none=>exact h
 | some d=>
  have hlt:=hd d rfl
  refine ⟨h.defers,by simp [Act.put,h.size],fun t=>?_⟩
  show RV w G (match Nat.beq d t with|true=>x|false=>Fr.get F t) ((a.tmps.setIfInBounds d v).getD t undef)
  by_cases e:d=t
  ·subst e
   have:Nat.beq d d=true:=Nat.beq_refl d
   rw [this]
   simp [h.size,hlt,hx]
  ·have hb:Nat.beq d t=false:=by
    cases hh:Nat.beq d t
    ·rfl
    ·exact absurd (VW hh) e
   rw [hb]
   have:=h.get t
   simpa [Array.getElem?_setIfInBounds_ne e] using this
end
def Fr.Le (F F':Fr):Prop:=∀w G v t,RV w G (F.get t) v->RV w G (F'.get t) v
theorem FR.le {w:World} {G:ZY} {n:Nat} {F F':Fr} {a:Act} (h:FR w G n F a) (hle:F.Le F'):FR w G n F' a:=
 ⟨h.defers,h.size,fun t=>hle _ _ _ _ (h.get t)⟩
abbrev Ws:=Exit->Fr->List Res->Prop
def Ko (n:Nat) (A:Ws) (w:World) (G:ZY) (h:List Res) (e:Exit) (a':Act) (w':World):Prop:=
 ∃F' h' G',A e F' h'/\FR w' G' n F' a'/\Yj w' G' h'/\YO w G h w' G' h'
theorem Ko.trans {n:Nat} {A:Ws} {w w' w'':World} {G G':ZY} {h h':List Res} {e:Exit} {a:Act} (x:YO w G h w' G' h') (c:Ko n A w' G' h' e a w'') :
  Ko n A w G h e a w'':=by
 obtain ⟨F,k,G'',h1,h2,h3,h4⟩:=c
 exact ⟨F,k,G'',h1,h2,h3,x.trans h4⟩
theorem Ko.mono {n:Nat} {A B:Ws} {w w':World} {G:ZY} {h:List Res} {e:Exit} {a:Act} (hAB:∀e F h,A e F h->B e F h) (c:Ko n A w G h e a w') :
  Ko n B w G h e a w':=by
 obtain ⟨F,k,G'',h1,h2,h3,h4⟩:=c
 exact ⟨F,k,G'',hAB _ _ _ h1,h2,h3,h4⟩
def Yi (P:Program) (n:Nat) (c:Code) (A:Ws) (F:Fr) (h:List Res):Prop:=
 ∀w G a,FR w G n F a->Yj w G h->c.wp P (Ko n A w G h) a w
def W3 (P:Program) (f:FuncId) (args:List AV) (h:List Res) (R:AV->List Res->Prop):Prop:=
 ∀w G vs,Yz w G args vs->Yj w G h ->
  Calls P f vs.toArray w fun e w'=>∃v r h' G',e=.returned v/\R r h'/\RV w' G' r v/\Yj w' G' h'/\YO w G h w' G' h'
theorem W3.mono {P:Program} {f:FuncId} {args:List AV} {h:List Res} {R R':AV->List Res->Prop} (H:W3 P f args h R) (hR:∀r h',R r h'->R' r h') :
  W3 P f args h R':=fun w G vs ha hh=>(H w G vs ha hh).mono fun _ _ ⟨v,r,h',G',h1,h2,h3⟩=>⟨v,r,h',G',h1,hR _ _ h2,h3⟩
def Wc (P:Program) (n:Nat) (o:Oper) (F:Fr) (h:List Res) (K:Fr->List Res->Prop):Prop:=
 ∀(Q:Exit->Act->World->Prop) w G a,FR w G n F a->Yj w G h ->
  o.wp P a w (fun a' w'=>∃F' h' G',K F' h'/\FR w' G' n F' a'/\Yj w' G' h'/\YO w G h w' G' h') Q
def WV (n:Nat) (o:Oper):Bool:=match o.dst with|some d=>Nat.blt d n|none=>true
theorem Ux {n:Nat} {o:Oper} (h:WV n o=true):∀t,o.dst=some t->t<n:=by
 intro t ht
 simp [WV,ht] at h
 exact h
def XP (P:Program) (o:Oper) (F:Fr) (h:List Res) (ks:List Nat) (x:AV):Prop:=
 ∀n w G a,FR w G n F a->Yj w G h->∃v,RV w G x v /\
  ∀w',(∀b o,G b o->w'.cell? ⟨b,o,none⟩=w.cell? ⟨b,o,none⟩)->(∀b∈ks,w'.heap[b]? = w.heap[b]?)->(execOp a.eval o).run P w'=.ok (.value v) w'
theorem XP.op {P:Program} {n:Nat} {o:Oper} {F:Fr} {h:List Res} {ks:List Nat} {x:AV} {K:Fr->List Res->Prop} (hs:XP P o F h ks x) (hd:WV n o=true)
  (hK:K (F.put o.dst x) h):Wc P n o F h K:=by
 intro Q w G a hF hh
 obtain ⟨v,hv,hr⟩:=hs n w G a hF hh
 unfold Oper.wp
 rw [hr w (fun _ _ _=>rfl) (fun _ _=>rfl)]
 exact ⟨_,h,G,hK,hF.put (Ux hd) hv,hh,YO.refl _ _ _⟩
def CZ (op:BinOp) (k:IntKind) (a b:Int):Option Value:=
 match op with
 | .add=>some (.int k (k.wrap (a+b)))
 | .sub=>some (.int k (k.wrap (a-b)))
 | .mul=>some (.int k (k.wrap (a*b)))
 | .eql=>some (.bool (a==b))
 | .neq=>some (.bool (a != b))
 | .lss=>some (.bool (decide (a<b)))
 | .leq=>some (.bool (decide (a<=b)))
 | .gtr=>some (.bool (decide (a>b)))
 | .geq=>some (.bool (decide (a>=b)))
 | _=>none
def DR:IntKind->IntKind->Bool
 | .i8,.i8 | .i16,.i16 | .i32,.i32 | .i64,.i64 | .u8,.u8 | .u16,.u16 | .u32,.u32 | .u64,.u64=>true
 | _,_=>false
theorem Z3a {a b:IntKind} (h:DR a b=true):a=b:=by cases a<;>cases b<;>first|rfl|(simp [DR] at h)
def Ae (P:Program) (t:TypeId):Option (Array Field):=
 match P.underlying t with
 | some (.struct fs)=>some fs
 | _=>none
def B4 (P:Program) (t:TypeId):Option Bool:=
 match P.underlying t with
 | some (.struct _) | some (.array _ _)=>some true
 | some _=>some false
 | none=>none
def BM (P:Program) (t:TypeId) (f:Nat):Option Nat:=
 match Ae P t with
 | some fs=>match fs[f]? with
  | some fd=>match (P.info? fd.type) with
   | some i=>match Nat.beq i.size 0 with | true=>none | false=>some fd.offset
   | none=>none
  | none=>none
 | none=>none
def KV (P:Program) (t:TypeId) (ls:List AV):Option AV:=
 match B4 P t,P.info? t with
 | some true,some i=>match Nat.ble i.size ls.length with | true=>some (.agg (ls.take i.size)) | false=>none
 | some false,some _=>ls.head?
 | _,_=>none
def AV.one:AV->Bool
 | .val v=>v.oneCell'
 | .sl _ _=>true
 | .rp _=>true
 | _=>false
def AV.fit:AV->Bool
 | .agg _=>true
 | x=>x.one
def KH (place:Nat->Option (Nat × Nat)) (ls:List AV):List (Nat × AV)->Option (List AV)
 | []=>some ls
 | (i,x)::rest=>
  match place i with
  | none=>none
  | some (off,size)=>match x.fit&&(Nat.beq x.leaves.length size&&Nat.ble (off+size) ls.length) with
   | true=>KH place (ls.take off++x.leaves++ls.drop (off+size)) rest
   | false=>none
def Bq (P:Program) (t:TypeId):Option (List AV):=
 match P.info? t with
 | some i=>match i.zero with
  | some z=>some (z.cells.toList.map AV.ofVal)
  | none=>none
 | none=>none
def Ce (P:Program) (fs:Array Field) (i:Nat):Option (Nat × Nat):=
 match fs[i]? with
 | some f=>match P.info? f.type with
  | some j=>some (f.offset,j.size)
  | none=>none
 | none=>none
def HW (P:Program) (fs:Array Field):Bool:=fs.toList.all fun f=>(P.info? f.type).isSome
def Qq:List AV->Option (List Value)
 | []=>some []
 | .val v::r=>match Qq r with | some vs=>some (v::vs) | none=>none
 | _::_=>none
def Ty (P:Program) (o:Oper) (F:Fr) (h:List Res) (hint:Nat):Option (AV × List (Nat × Nat)):=
 match o.op with
 | .move x | .assign x=>some (F.ev x,[])
 | .pick c a b=>match F.ev c with
  | .val (.bool true)=>some (F.ev a,[])
  | .val (.bool false)=>some (F.ev b,[])
  | _=>none
 | .binOp op _ x y _=>match F.ev x,F.ev y with
  | .val (.int k a),.val (.int k' b)=>match DR k k' with
   | true=>match CZ op k a b with
    | some v=>some (.val v,[])
    | none=>none
   | false=>none
  | _,_=>none
 | .unOp op _ x=>match op,F.ev x with
  | .not,.val (.bool b)=>some (.val (.bool (!b)),[])
  | _,_=>none
 | .nilCheck x=>match F.ev x with
  | .val (.pointer (some a))=>some (.val (.pointer (some a)),[])
  | .rp ls=>some (.rp ls,[])
  | .val (.func (.func f) p c)=>some (.val (.func (.func f) p c),[])
  | _=>none
 | .fieldAddr s x f=>match BM P s f with
  | some off=>match F.ev x with
   | .rp ls=>some (.rp (ls.drop off),[])
   | .val (.pointer (some ⟨b,o,none⟩))=>some (.val (.pointer (some ⟨b,o+off,none⟩)),[])
   | _=>none
  | none=>none
 | .field s x f=>match BM P s f,Ae P s with
  | some off,some fs=>match fs[f]? with
   | some fd=>match F.ev x with
    | .agg ls=>match KV P fd.type (ls.drop off) with
     | some v=>some (v,[])
     | none=>none
    | _=>none
   | none=>none
  | _,_=>none
 | .load t x=>match F.ev x with
  | .rp ls=>match KV P t ls with
   | some v=>some (v,[])
   | none=>none
  | .val (.pointer (some ⟨b,o,none⟩))=>match h[hint]? with
   | some (.obj b' ls)=>match KV P t (ls.drop o) with
    | some v=>some (v,[(b,b')])
    | none=>none
   | _=>none
  | _=>none
 | .extract x i=>match F.ev x with
  | .tup vs=>match vs[i]? with
   | some v=>some (v,[])
   | none=>none
  | _=>none
 | .build t parts=>match Ae P t,Bq P t with
  | some fs,some z=>match HW P fs with
   | true=>match KH (Ce P fs) z (parts.toList.map fun p=>(p.1,F.ev p.2)) with
    | some ls=>some (.agg ls,[])
    | none=>none
   | false=>none
  | _,_=>none
 | .makeFunc fn first captured=>match Qq (first.toList.map F.ev),Qq (captured.toList.map F.ev) with
  | some vs,some us=>some (.val (.func fn vs.toArray us.toArray),[])
  | _,_=>none
 | .call c=>match c.callee,c.args.toList,c.argTypes.toList with
  | .builtin .len,[x],[t]=>match P.underlying t with
   | some (.slice _)=>match F.ev x with
    | .sl es _=>some (.val (.int .i64 (es.length:Int)),[])
    | .val (.slice _ len _)=>some (.val (.int .i64 (len:Int)),[])
    | _=>none
   | _=>none
  | _,_,_=>none
 | _=>none
theorem VJ {P:Program} {t:TypeId} {d:TypeDesc} (h:P.underlying t=some d) (w:World):(underlying t).run P w=.ok d w:=by
 simp [underlying,h]
theorem DP {P:Program} {t:TypeId} {i:TypeInfo} (h:P.info? t=some i) (w:World):(typeInfo t).run P w=.ok i w:=by
 simp [typeInfo,h]
theorem Tl {P:Program} {t:TypeId} {i:TypeInfo} (h:P.info? t=some i) (w:World):(sizeOf t).run P w=.ok i.size w:=by
 simp [sizeOf,DP h]
theorem Fv {P:Program} {t:TypeId} {fs:Array Field} (h:Ae P t=some fs):P.underlying t=some (.struct fs):=by
 unfold Ae at h
 split at h
 ·simp_all
 ·cases h
theorem Ci {P:Program} {t:TypeId} {b:Bool} (h:B4 P t=some b) (w:World):(isAgg t).run P w=.ok b w:=by
 unfold B4 at h
 split at h
 ·rename_i h';cases h;simp [isAgg,VJ h']
 ·rename_i h';cases h;simp [isAgg,VJ h']
 ·rename_i d hd1 hd2 h'
  cases h
  simp [isAgg,VJ h']
 ·cases h
theorem HU {P:Program} {s:TypeId} {f off:Nat} (h:BM P s f=some off) :
  ∃fs fd i,P.underlying s=some (.struct fs)/\fs[f]? = some fd/\P.info? fd.type=some i/\i.size≠0/\fd.offset=off:=by
 unfold BM at h
 cases h1:Ae P s with
 | none=>simp [h1] at h
 | some fs=>
  cases h2:fs[f]? with
  | none=>simp [h1,h2] at h
  | some fd=>
   cases h3:P.info? fd.type with
   | none=>simp [h1,h2,h3] at h
   | some i=>
    cases h4:Nat.beq i.size 0 with
    | true=>simp [h1,h2,h3,h4] at h
    | false=>
     simp [h1,h2,h3,h4] at h
     refine ⟨fs,fd,i,Fv h1,h2,h3,fun h0=>?_,h⟩
     rw [h0] at h4
     cases h4
theorem Qa (b o n:Nat):(⟨b,o,none⟩:Addr).add n=⟨b,o+n,none⟩:=by
 unfold Addr.add;split<;>simp_all
theorem Mn {P:Program} {s:TypeId} {f off b o:Nat} (h:BM P s f=some off) (w:World) :
  (Instr.fieldAt s (.pointer (some ⟨b,o,none⟩)) f).run P w=.ok (.pointer (some ⟨b,o+off,none⟩)) w:=by
 obtain ⟨fs,fd,i,h1,h2,h3,h4,rfl⟩:=HU h
 simp [Instr.fieldAt,VJ h1,h2,Instr.sureAddr,fieldPlace,Tl h3,h4,Qa]
theorem DO {P:Program} {t:TypeId} {ls:List AV} {x:AV} {w0:World} {G:ZY} {b o:Nat} {cs:List Value} (hx:KV P t ls=some x) (hcs:Yz w0 G ls cs) :
  ∃v,RV w0 G x v/\∀w',(∀j u,cs[j]? = some u->w'.cell? ⟨b,o+j,none⟩=some u)->(loadVar t ⟨b,o,none⟩).run P w'=.ok v w':=by
 unfold KV at hx
 cases hb:B4 P t with
 | none=>simp [hb] at hx
 | some g=>
  cases hi:P.info? t with
  | none=>cases g<;>simp [hb,hi] at hx
  | some i=>
   cases g with
   | true=>
    simp only [hb,hi] at hx
    cases hle:Nat.ble i.size ls.length with
    | false=>simp [hle] at hx
    | true=>
     simp only [hle,XQ] at hx
     subst hx
     have hlen:i.size<=ls.length:=Wx hle
     refine ⟨_,.agg (hcs.take i.size),fun w' hc=>?_⟩
     have X6:(cs.take i.size).length=i.size:=by simp [hcs.length,hlen]
     have:=run_loadCells_list (P:=P) (w:=w') ⟨b,o,none⟩ (cs.take i.size) (fun j v hj=>by
      rw [Qa]
      rw [T5] at hj
      split at hj
      ·exact hc j v hj
      ·cases hj)
     rw [X6] at this
     simp [loadVar,Ci hb,Tl hi,this]
   | false=>
    simp only [hb,hi] at hx
    cases hcs with
    | nil=>simp at hx
    | cons h1 h2=>
     rename_i c vs xs
     simp at hx
     subst hx
     refine ⟨_,h1,fun w' hc=>?_⟩
     have:=hc 0 c (by simp)
     simp only [JN] at this
     simp only [loadVar,Sem.run_bind,Ci hb,Result.andThen_ok]
     simp [load,Sem.run,this]
theorem WY {P:Program} {x:Sem Value} {w w':World} {v:Value} (h:x.run P w=.ok v w') :
  (do pure (Next.value (<-x)):Sem Next).run P w=.ok (.value v) w':=by
 simp [h]
theorem GN {w:World} {G:ZY} {a:Act} {n:Nat} {F:Fr} (hF:FR w G n F a):∀{xs:List Operand} {vs:List Value},Qq (xs.map F.ev)=some vs->xs.map a.eval=vs
 | [],vs,h=>by simp [Qq] at h;simp [h]
 | x::xs,vs,h=>by
  simp only [Uf] at h ⊢
  have hx:=hF.ev x
  cases he:F.ev x with
  | val v=>
   simp only [he,Qq] at h
   cases h2:Qq (xs.map F.ev) with
   | none=>simp [h2] at h
   | some us=>
    simp [h2] at h
    rw [he] at hx
    cases hx
    rw [GN hF h2,h]
  | any=>simp [he,Qq] at h
  | sl es hv=>simp [he,Qq] at h
  | agg ls=>simp [he,Qq] at h
  | rp ls=>simp [he,Qq] at h
  | tup vs=>simp [he,Qq] at h
theorem PS {P:Program} {op:BinOp} {k:IntKind} {a b:Int} {v:Value} (h:CZ op k a b=some v) (xt:TypeId) (x y:Operand) (w:World) :
  (do eqGuard op xt x y (.int k a) (.int k b);binOp op xt (.int k a) (.int k b)).run P w=.ok v w:=by
 cases op<;>simp [CZ] at h<;>subst h<;>simp [eqGuard,binOp,Op.intArith,Op.intCmp]
theorem RV.val_inv {w:World} {G:ZY} {v u:Value} (h:RV w G (.val v) u):u=v:=by cases h;rfl
theorem RV.one_cell {w:World} {G:ZY} {x:AV} {v:Value} (h:RV w G x v) (hx:x.one=true):v.oneCell'=true:=by
 cases h with
 | val=>exact hx
 | nil=>rfl
 | sl=>rfl
 | rp=>rfl
 | any=>simp [AV.one] at hx
 | agg=>simp [AV.one] at hx
 | tup=>simp [AV.one] at hx
theorem EC {v:Value} (h:v.oneCell'=true):v.cells.toList=[v]:=by
 cases v<;>first|rfl|(simp [Value.oneCell'] at h)
theorem RV.cells {w:World} {G:ZY} {x:AV} {v:Value} (h:RV w G x v) (hx:x.fit=true):Yz w G x.leaves v.cells.toList:=by
 cases x with
 | agg ls=>cases h with | agg hh=>simpa [AV.leaves,Value.cells] using hh
 | any=>simp [AV.fit,AV.one] at hx
 | tup vs=>simp [AV.fit,AV.one] at hx
 | val u=>rw [EC (h.one_cell hx)];exact .cons h .nil
 | sl es hv=>rw [EC (h.one_cell rfl)];exact .cons h .nil
 | rp ls=>rw [EC (h.one_cell rfl)];exact .cons h .nil
theorem Yz.one_cells {w:World} {G:ZY}:∀{xs:List AV} {vs:List Value},Yz w G xs vs->xs.all AV.one=true->∀v∈vs,v.oneCell'=true
 | _,_,.nil,_,v,hv=>by simp at hv
 | _,_,.cons h t,hx,v,hv=>by
  simp only [List.all_cons,Wn] at hx
  rcases Yr.1 hv with rfl|hv
  ·exact h.one_cell hx.1
  ·exact t.one_cells hx.2 v hv
theorem Mv (off:Nat):∀(vs:List Value) (i:Nat) (cs:Array Value),off+i+vs.length<=cs.size ->
  ((vs.zipIdx i).foldl (fun (cs:Array Value) (p:Value × Nat)=>cs.setIfInBounds (off+p.2) p.1) cs).toList=cs.toList.take (off+i)++vs++cs.toList.drop (off+i+vs.length)
 | [],i,cs,h=>by simp
 | v::vs,i,cs,h=>by
  simp only [List.zipIdx_cons,List.foldl_cons]
  rw [Mv off vs (i+1) _ (by simp at h ⊢;omega)]
  have e:=list_seg_step cs.toList (off+i) v vs (by simp at h ⊢;omega)
  simpa [Array.toList_setIfInBounds,J7] using e
theorem F6 {w:World} {G:ZY} {place:Nat->Option (Nat × Nat)}:∀{parts:List (Nat × AV)} {vps:List (Nat × Value)} {ls out:List AV} {cs:Array Value},
  KH place ls parts=some out->parts.map (·.1)=vps.map (·.1)->Yz w G (parts.map (·.2)) (vps.map (·.2))->Yz w G ls cs.toList ->
  ∃cs',Instr.fill place cs vps=some cs'/\Yz w G out cs'.toList
 | [],vps,ls,out,cs,h,h1,h2,h3=>by
  cases vps with
  | nil=>simp [KH] at h;subst h;exact ⟨cs,rfl,h3⟩
  | cons p r=>simp at h1
 | (i,x)::rest,vps,ls,out,cs,h,h1,h2,h3=>by
  cases vps with
  | nil=>simp at h1
  | cons p r=>
   obtain ⟨j,v⟩:=p
   simp only [Uf,List.cons.injEq] at h1 h2
   obtain ⟨rfl,h1⟩:=h1
   cases h2 with
   | cons hx ht=>
    simp only [KH] at h
    cases hp:place i with
    | none=>simp [hp] at h
    | some os=>
     obtain ⟨off,size⟩:=os
     simp only [hp] at h
     cases hc:(x.fit&&(Nat.beq x.leaves.length size&&Nat.ble (off+size) ls.length)) with
     | false=>simp [hc] at h
     | true=>
      simp only [hc] at h
      simp only [Wn] at hc
      have e1:x.leaves.length=size:=VW hc.2.1
      have e2:off+size<=ls.length:=Wx hc.2.2
      have hl:=h3.length
      have hxc:=hx.cells hc.1
      have hvl:v.cells.size=size:=by have:=hxc.length;simpa [e1] using this
      have hcl:cs.size=ls.length:=by simpa using hl
      have key:Yz w G (ls.take off++x.leaves++ls.drop (off+size))
        (v.cells.zipIdx.foldl (fun (cs:Array Value) (p:Value × Nat)=>cs.setIfInBounds (off+p.2) p.1) cs).toList:=by
       have:=Mv off v.cells.toList 0 cs (by simp [hvl,hcl];omega)
       rw [<-Array.foldl_toList,Array.toList_zipIdx,this]
       simp only [JN,Qs,hvl]
       exact ((h3.take off).append hxc).append (h3.drop (off+size))
      obtain ⟨cs',k1,k2⟩:=F6 h h1 ht key
      refine ⟨cs',?_,k2⟩
      simp only [Instr.fill,hp]
      rw [Zp (by simp [hvl,hcl];omega)]
      exact k1
theorem ND {P:Program} {t:TypeId} {ls:List AV} (h:Bq P t=some ls) :
  ∃i z,P.info? t=some i/\i.zero=some z/\ls=z.cells.toList.map AV.ofVal:=by
 unfold Bq at h
 cases hi:P.info? t with
 | none=>simp [hi] at h
 | some i=>
  cases hz:i.zero with
  | none=>simp [hi,hz] at h
  | some z=>simp [hi,hz] at h;exact ⟨i,z,rfl,hz,h.symm⟩
theorem Yz.ofVals {w:World} {G:ZY}:∀(vs:List Value),Yz w G (vs.map AV.ofVal) vs
 | []=>.nil
 | v::vs=>.cons (RV.ofVal v) (Yz.ofVals vs)
theorem Yz.map {w:World} {G:ZY} {α:Type} (f:α->AV) (g:α->Value):∀(xs:List α),(∀x∈xs,RV w G (f x) (g x))->Yz w G (xs.map f) (xs.map g)
 | [],_=>.nil
 | x::xs,h=>.cons (h x (by simp)) (Yz.map f g xs fun y hy=>h y (by simp [hy]))
theorem Mp {P:Program} (w:World):∀(l:List Field),(l.all fun f=>(P.info? f.type).isSome)=true ->
  (List.mapM (m:=Sem) (fun f=>Functor.map (Prod.mk f.offset) (sizeOf f.type)) l).run P w=.ok (l.map fun f=>(f.offset,((P.info? f.type).map (·.size)).getD 0)) w
 | [],_=>by simp
 | f::l,h=>by
  simp only [List.all_cons,Wn] at h
  cases hfi:P.info? f.type with
  | none=>simp [hfi] at h
  | some j=>simp [Tl hfi,Mp w l h.2,hfi]
theorem Z37 {P:Program} {t:TypeId} {fs:Array Field} {z ls:List AV} {w:World} {G:ZY} {n:Nat} {F:Fr} {a:Act} (hF:FR w G n F a) (parts:Array (Nat × Operand))
  (h1:Ae P t=some fs) (h2:Bq P t=some z) (h4:HW P fs=true) (h3:KH (Ce P fs) z (parts.toList.map fun p=>(p.1,F.ev p.2))=some ls) :
  ∃v,RV w G (.agg ls) v/\∀w',(Instr.build t (parts.map fun (i,x)=>(i,a.eval x))).run P w'=.ok v w':=by
 obtain ⟨i,zv,hi,hz,rfl⟩:=ND h2
 have hu:=Fv h1
 have hpl:∀k,((fs.toList.map fun f=>(f.offset,((P.info? f.type).map (·.size)).getD 0)).toArray)[k]? = Ce P fs k:=by
  intro k
  unfold Ce
  simp only [List.getElem?_toArray,QL,Br]
  cases hk:fs[k]? with
  | none=>rfl
  | some f=>
   have hf:(P.info? f.type).isSome=true:=by
    have:=Kh.1 h4 f (by rw [Array.mem_toList_iff];exact Array.mem_of_getElem? hk)
    exact this
   cases hfi:P.info? f.type with
   | none=>simp [hfi] at hf
   | some j=>simp [hfi]
 obtain ⟨cs',k1,k2⟩:=F6 (w:=w) (G:=G) (vps:=parts.toList.map fun p=>(p.1,a.eval p.2)) h3 (by simp [List.map_map,Function.comp_def])
  (by simpa [List.map_map,Function.comp_def] using Yz.map (fun p:Nat × Operand=>F.ev p.2) (fun p=>a.eval p.2) parts.toList fun p _=>hF.ev p.2)
  (cs:=zv.cells) (Yz.ofVals _)
 refine ⟨_,.agg (cs:=cs'.toList) k2,fun w'=>?_⟩
 have hz':(zeroValue t).run P w'=.ok zv w':=by simp [zeroValue,DP hi,hz]
 have hm:=Mp (P:=P) w' fs.toList h4
 have hfun:(fun k=>((fs.toList.map fun f=>(f.offset,((P.info? f.type).map (·.size)).getD 0)).toArray)[k]?)=Ce P fs:=funext hpl
 simp only [Instr.build,Sem.run_bind,hz',Result.andThen_ok,VJ hu,Array.mapM_eq_mapM_toList]
 simp [hm,hpl,k1,Array.toList_map]
theorem BI {P:Program} {o:Oper} {F:Fr} {h:List Res} {hint:Nat} {x:AV} {eqs:List (Nat × Nat)} (he:Ty P o F h hint=some (x,eqs))
  (heq:∀p∈eqs,p.1=p.2):XP P o F h (eqs.map (·.1)) x:=by
 intro n w G a hF hh
 obtain ⟨dst,op,type,pos,after,guard⟩:=o
 cases op<;>simp only [Ty] at he
 case move y=>
  cases he
  exact ⟨_,hF.ev y,fun w' _ _=>by simp [execOp]⟩
 case assign y=>
  cases he
  exact ⟨_,hF.ev y,fun w' _ _=>by simp [execOp]⟩
 case pick c y z=>
  have hc:=hF.ev c
  split at he
  ·rename_i hb
   cases he
   rw [hb] at hc
   have hc:=hc.val_inv
   exact ⟨_,hF.ev y,fun w' _ _=>by simp [execOp,hc,asBool]⟩
  ·rename_i hb
   cases he
   rw [hb] at hc
   have hc:=hc.val_inv
   exact ⟨_,hF.ev z,fun w' _ _=>by simp [execOp,hc,asBool]⟩
  ·cases he
 case binOp bop xt y z yt=>
  have hy:=hF.ev y
  have hz:=hF.ev z
  split at he
  ·rename_i k p k' q h1 h2
   rw [h1] at hy
   rw [h2] at hz
   have hy:=hy.val_inv
   have hz:=hz.val_inv
   split at he
   ·rename_i hk
    have hk:=Z3a hk
    subst hk
    split at he
    ·rename_i v hv
     cases he
     refine ⟨v,.val,fun w' _ _=>?_⟩
     have:=PS (P:=P) hv xt y z w'
     simp only [execOp,hy,hz]
     exact WY this
    ·cases he
   ·cases he
  ·cases he
 case unOp uop xt y=>
  have hy:=hF.ev y
  split at he
  ·rename_i b hb
   cases he
   rw [hb] at hy
   have hy:=hy.val_inv
   exact ⟨_,.val,fun w' _ _=>by simp [execOp,hy,Op.unary]⟩
  ·cases he
 case nilCheck y=>
  have hy:=hF.ev y
  generalize hv:a.eval y=u at hy
  split at he
  ·rename_i ad hb
   cases he
   rw [hb] at hy
   have hy:=hy.val_inv
   exact ⟨_,.val,fun w' _ _=>by simp [execOp,hv,hy]⟩
  ·rename_i ls hb
   cases he
   rw [hb] at hy
   cases hy with
   | rp hm=>exact ⟨_,.rp hm,fun w' _ _=>by simp [execOp,hv]⟩
  ·rename_i f p c hb
   cases he
   rw [hb] at hy
   have hy:=hy.val_inv
   exact ⟨_,.val,fun w' _ _=>by simp [execOp,hv,hy]⟩
  ·cases he
 case fieldAddr s y f=>
  have hy:=hF.ev y
  generalize hv:a.eval y=u at hy
  split at he
  ·rename_i off hoff
   split at he
   ·rename_i ls hb
    cases he
    rw [hb] at hy
    cases hy with
    | rp hm=>
     refine ⟨_,.rp (hm.drop off),fun w' _ _=>?_⟩
     simp only [execOp,hv]
     exact WY (Mn hoff w')
   ·rename_i b o' hb
    cases he
    rw [hb] at hy
    have hy:=hy.val_inv
    subst hy
    refine ⟨_,.val,fun w' _ _=>?_⟩
    simp only [execOp,hv]
    exact WY (Mn hoff w')
   ·cases he
  ·cases he
 case field s y f=>
  have hy:=hF.ev y
  generalize hv:a.eval y=u at hy
  split at he
  ·rename_i off fs hoff hfs
   split at he
   ·rename_i fd hfd
    split at he
    ·rename_i ls hb
     split at he
     ·rename_i v hl
      cases he
      rw [hb] at hy
      cases hy with
      | agg hc=>
       rename_i cs
       obtain ⟨fs',fd',i,k1,k2,k3,k4,rfl⟩:=HU hoff
       have k0:=Fv hfs
       rw [k0] at k1
       cases k1
       rw [hfd] at k2
       cases k2
       have hd:=hc.drop fd.offset
       unfold KV at hl
       cases hg:B4 P fd.type with
       | none=>simp [hg] at hl
       | some g=>
        cases g with
        | true=>
         simp only [hg,k3] at hl
         cases hle:Nat.ble i.size (ls.drop fd.offset).length with
         | false=>rw [hle] at hl;cases hl
         | true=>
          rw [hle] at hl
          simp only [XQ] at hl
          subst hl
          refine ⟨_,.agg (hd.take i.size),fun w' _ _=>?_⟩
          simp only [execOp,hv]
          refine WY ?_
          simp only [Instr.field,Sem.run_bind,VJ k0,Result.andThen_ok,hfd]
          simp [asAgg,part,Ci hg,Tl k3]
        | false=>
         simp only [hg,k3] at hl
         generalize hls:ls.drop fd.offset=ls' at hl hd
         generalize hcs:cs.drop fd.offset=cs' at hd
         cases hd with
         | nil=>simp at hl
         | cons h1 h2=>
          rename_i c vs xs
          simp at hl
          subst hl
          refine ⟨_,h1,fun w' _ _=>?_⟩
          simp only [execOp,hv]
          refine WY ?_
          have hget:cs[fd.offset]? = some c:=by
           have:=Ys (fun l=>l[0]?) hcs
           simpa using this
          simp only [Instr.field,Sem.run_bind,VJ k0,Result.andThen_ok,hfd]
          simp [asAgg,part,Ci hg,hget]
     ·cases he
    ·cases he
   ·cases he
  ·cases he
 case load t y=>
  have hy:=hF.ev y
  generalize hv:a.eval y=u at hy
  split at he
  ·rename_i ls hb
   split at he
   ·rename_i v hl
    cases he
    rw [hb] at hy
    cases hy with
    | rp hm=>
     rename_i b o'
     obtain ⟨cs,Z9,Zg⟩:=hm.cells
     obtain ⟨v',h1,h2⟩:=DO (b:=b) (o:=o') hl Z9
     refine ⟨v',h1,fun w' hw _=>?_⟩
     simp only [execOp,hv]
     refine WY ?_
     simp only [Instr.loadAt,Instr.sureAddr,Sem.run_bind,Sem.run_pure,Result.andThen_ok]
     exact h2 w' fun j u hj=>(hw _ _ (Zg j u hj).2).trans (Zg j u hj).1
   ·cases he
  ·rename_i b o' hb
   split at he
   ·rename_i b' ls hh'
    split at he
    ·rename_i v hl
     cases he
     rw [hb] at hy
     have hy:=hy.val_inv
     subst hy
     have hbb:b=b':=heq (b,b') (by simp)
     subst hbb
     obtain ⟨cs,e,k1,k2⟩:=hh.ok _ (ZW hh')
     obtain ⟨v',h1,h2⟩:=DO (b:=b) (o:=o') hl (k2.drop o')
     refine ⟨v',h1,fun w' _ hw=>?_⟩
     simp only [execOp,hv]
     refine WY ?_
     simp only [Instr.loadAt,Instr.sureAddr,Sem.run_bind,Sem.run_pure,Result.andThen_ok]
     refine h2 w' fun j u hj=>?_
     have:=hw b (by simp)
     rw [k1] at this
     rw [cell_of_row w' b (o'+j) cs e (0,0) this]
     simpa using hj
    ·cases he
   ·cases he
  ·cases he
 case extract y i=>
  have hy:=hF.ev y
  generalize hv:a.eval y=u at hy
  split at he
  ·rename_i vs hb
   split at he
   ·rename_i v hl
    cases he
    rw [hb] at hy
    cases hy with
    | tup hc=>
     rename_i cs
     obtain ⟨c,h1,h2⟩:=hc.get i _ hl
     exact ⟨c,h2,fun w' _ _=>by simp [execOp,hv,Instr.extract,h1]⟩
   ·cases he
  ·cases he
 case build t parts=>
  split at he
  ·rename_i fs z h1 h2
   split at he
   ·rename_i h4
    split at he
    ·rename_i ls h3
     cases he
     obtain ⟨v,hv1,hv2⟩:=Z37 hF parts h1 h2 h4 h3
     exact ⟨v,hv1,fun w' _ _=>by simp only [execOp];exact WY (hv2 w')⟩
    ·cases he
   ·cases he
  ·cases he
 case makeFunc fn first captured=>
  split at he
  ·rename_i vs us h1 h2
   cases he
   have e1:=GN hF h1
   have e2:=GN hF h2
   refine ⟨_,.val,fun w' _ _=>?_⟩
   have e1':first.map a.eval=vs.toArray:=by rw [<-e1,<-Array.toList_map,Ue]
   have e2':captured.map a.eval=us.toArray:=by rw [<-e2,<-Array.toList_map,Ue]
   simp only [execOp]
   exact WY (by simp only [Instr.makeFunc,e1',e2'];simp)
  ·cases he
 case call c=>
  obtain ⟨callee,args,argTypes⟩:=c
  simp only at he
  split at he
  ·rename_i y t hargs htys
   split at he
   ·rename_i el hu
    have hy:=hF.ev y
    generalize hv:a.eval y=u at hy
    have ha:args=#[y]:=by rw [<-Ue (xs:=args),hargs]
    have ht:argTypes=#[t]:=by rw [<-Ue (xs:=argTypes),htys]
    subst ha;subst ht
    split at he
    ·rename_i es hv' hb
     cases he
     rw [hb] at hy
     refine ⟨.int .i64 es.length,.val,fun w' _ _=>?_⟩
     cases hy with
     | nil hx=>simp [execOp,resolve,invoke,builtin,hv,Builtin.len_,VJ hu,goInt]
     | sl hx hc hm=>simp [execOp,resolve,invoke,builtin,hv,Builtin.len_,VJ hu,goInt]
    ·rename_i ad len cap hb
     cases he
     rw [hb] at hy
     have hy:=hy.val_inv
     subst hy
     exact ⟨.int .i64 len,.val,fun w' _ _=>by simp [execOp,resolve,invoke,builtin,hv,Builtin.len_,VJ hu,goInt]⟩
    ·cases he
   ·cases he
  ·cases he
 all_goals (cases he)
def Jb (h:List Res) (b:Nat):Prop:=∀s,Res.ge s∈h->s<=b
theorem Fj {w:World} {G:ZY} {h:List Res} (hh:Yj w G h):Jb h w.heap.size:=fun _ hs=>hh.ok _ hs
theorem Dd (w:World) (o:Obj):(w.alloc o).heap[w.heap.size]? = some o:=heap_alloc_new w o
theorem Jr (w:World) (o:Obj) {b:Nat} (hb:b<w.heap.size):(w.alloc o).heap[b]? = w.heap[b]?:=heap_alloc_old w o b hb
theorem BD (w:World) (o:Obj) {b j:Nat} (hb:b<w.heap.size):(w.alloc o).cell? ⟨b,j,none⟩=w.cell? ⟨b,j,none⟩:=by
 simp [World.cell?,Jr w o hb]
theorem Yj.alloc {w:World} {G:ZY} {h:List Res} (hh:Yj w G h) (o:Obj) {G':ZY} {h':List Res}
  (hsub:∀b o,G b o->G' b o) (hG:∀b o,G' b o->G b o∨b=w.heap.size) (hnew:∀r∈h',Tu (w.alloc o) G' r)
  (hfp:∀r∈h',∀b o,r.fp b o->b=w.heap.size) (hap:h'.Pairwise Ja) (hpr:∀r∈h',∀b o,r.fp b o->G' b o->False) :
  Yj (w.alloc o) G' (h'++h)/\YO w G h (w.alloc o) G' (h'++h):=by
 have hA:V1 G w (w.alloc o) G':=⟨fun b j hg=>BD w o (hh.lt b j hg),hsub⟩
 have X6:(w.alloc o).heap.size=w.heap.size+1:=by simp
 refine ⟨⟨?_,?_,?_,?_⟩,⟨rfl,rfl,rfl,by omega,hsub,fun b hb=>.inl (Jr w o hb),?_,?_⟩⟩
 ·intro r hr
  rcases YU.1 hr with hr|hr
  ·exact hnew r hr
  ·have h0:=hh.ok r hr
   cases r with
   | obj b ls=>
    obtain ⟨cs,el,h1,h2⟩:=h0
    exact ⟨cs,el,(Jr w o (Vs.1 h1).1).trans h1,h2.mono hA⟩
   | tail v k=>
    rcases h0 with rfl|⟨g,len,cap,cur,el,rfl,h1,h2,h3⟩
    ·exact .inl rfl
    ·exact .inr ⟨g,len,cap,cur,el,rfl,(Jr w o (Vs.1 h1).1).trans h1,h2,h3⟩
   | ge s=>exact WK h0 om
   | vec v ls=>
    rcases h0 with ⟨rfl,h0⟩|⟨g,cap,cur,el,rfl,h1,h2,h3,h4⟩
    ·exact .inl ⟨rfl,h0⟩
    ·exact .inr ⟨g,cap,cur,el,rfl,(Jr w o (Vs.1 h1).1).trans h1,h2,h3,h4.mono hA⟩
   | many ts=>
    refine ⟨fun p hp=>?_,h0.2⟩
    rcases h0.1 p hp with q|⟨g,len,cap,cur,el,q,h1,h2,h3⟩
    ·exact .inl q
    ·exact .inr ⟨g,len,cap,cur,el,q,(Jr w o (Vs.1 h1).1).trans h1,h2,h3⟩
   | own B m=>
    intro b hB
    obtain ⟨cs,el,h1,h2⟩:=h0 b hB
    exact ⟨cs,el,(Jr w o (Vs.1 h1).1).trans h1,h2⟩
   | row v k ls=>
    rcases h0 with ⟨rfl,h0⟩|⟨g,len,cap,cur,el,rfl,h1,h2,h3,h4,h5⟩
    ·exact .inl ⟨rfl,h0⟩
    ·exact .inr ⟨g,len,cap,cur,el,rfl,(Jr w o (Vs.1 h1).1).trans h1,h2,h3,h4,h5.mono hA⟩
 ·refine Kk.2 ⟨hap,hh.apart,fun r hr r' hr' b j hf hf'=>?_⟩
  have e:=hfp r hr b j hf
  have:=(hh.ok r' hr').lt b j hf'
  omega
 ·intro r hr b j hf hg
  rcases YU.1 hr with hr|hr
  ·exact hpr r hr b j hf hg
  ·rcases hG b j hg with h1|h1
   ·exact hh.prot r hr b j hf h1
   ·have:=(hh.ok r hr).lt b j hf
    omega
 ·intro b j hg
  rcases hG b j hg with h1|h1
  ·have:=hh.lt b j h1;omega
  ·omega
 ·intro b j hb hg
  rcases hG b j hg with h1|h1
  ·exact .inl h1
  ·omega
 ·intro b j hb hf
  rcases Jo.1 hf with ⟨r,hr,h1⟩|h1
  ·have:=hfp r hr b j h1;omega
  ·exact h1
theorem Yj.alloc_obj {w:World} {G:ZY} {h:List Res} (hh:Yj w G h) (cs:Array Value) (t:TypeId) {ls:List AV} (hls:Yz w G ls cs.toList) :
  Yj (w.alloc (.cells cs t)) G (.obj w.heap.size ls::h)/\YO w G h (w.alloc (.cells cs t)) G (.obj w.heap.size ls::h):=by
 have hA:V1 G w (w.alloc (.cells cs t)) G:=⟨fun b j hg=>BD w _ (hh.lt b j hg),fun _ _ h=>h⟩
 refine hh.alloc (.cells cs t) (h':=[.obj w.heap.size ls]) (fun _ _ h=>h) (fun _ _ h=>.inl h) ?_ ?_ (JL _ _) ?_
 ·intro r hr
  rw [Xp.1 hr]
  exact ⟨cs,t,Dd w _,hls.mono hA⟩
 ·intro r hr b j hf
  rw [Xp.1 hr] at hf
  exact hf
 ·intro r hr b j hf hg
  rw [Xp.1 hr] at hf
  have:=hh.lt b j hg
  have:b=w.heap.size:=hf
  omega
section
variable {P:Program} {n:Nat} {o:Oper} {F:Fr} {h:List Res} {K:Fr->List Res->Prop}
theorem Z1l (t:TypeId) {ls:List AV} (ho:o.op=.alloc t) (hz:Bq P t=some ls) (hd:WV n o=true)
  (hK:∀b,Jb h b->K (F.put o.dst (.val (.pointer (some ⟨b,0,none⟩)))) (.obj b ls::h)):Wc P n o F h K:=by
 intro Q w G a hF hh
 obtain ⟨i,z,hi,hzz,rfl⟩:=ND hz
 have hr:(execOp a.eval o).run P w=.ok (.value (.pointer (some ⟨w.heap.size,0,none⟩))) (w.alloc (.cells z.cells t)):=by
  simp only [execOp,ho]
  simp [Instr.alloc,zeroValue,DP hi,hzz,newVar,newRow]
 unfold Oper.wp
 rw [hr]
 have hls:Yz w G (z.cells.toList.map AV.ofVal) z.cells.toList:=Yz.ofVals _
 obtain ⟨h1,h2⟩:=hh.alloc_obj z.cells t hls
 exact ⟨_,_,G,hK _ (Fj hh),(hF.mono (h2.agree hh)).put (Ux hd) .val,h1,h2⟩
theorem Z1n (t:TypeId) (x:Operand) {X:AV} (ho:o.op=.box t x) (hx:F.ev x=X) (hfit:X.fit=true) (hd:WV n o=true)
  (hK:∀b,Jb h b->K (F.put o.dst (.val (.pointer (some ⟨b,0,none⟩)))) (.obj b X.leaves::h)):Wc P n o F h K:=by
 intro Q w G a hF hh
 have hv:=hF.ev x
 rw [hx] at hv
 have hr:(execOp a.eval o).run P w=.ok (.value (.pointer (some ⟨w.heap.size,0,none⟩))) (w.alloc (.cells (a.eval x).cells t)):=by
  simp only [execOp,ho]
  simp [Instr.box,newVar,newRow]
 unfold Oper.wp
 rw [hr]
 obtain ⟨h1,h2⟩:=hh.alloc_obj (a.eval x).cells t (hv.cells hfit)
 exact ⟨_,_,G,hK _ (Fj hh),(hF.mono (h2.agree hh)).put (Ux hd) .val,h1,h2⟩
end
theorem WR (w:World) (g b:Nat) (cs:Array Value) (hb:b≠g):(w.setRow g cs).heap[b]? = w.heap[b]?:=setRow_other w g b cs hb
theorem Yj.write {w:World} {G:ZY} {h1 h2:List Res} {b:Nat} {ls ls':List AV} (hh:Yj w G (h1++.obj b ls::h2)) {cs cs':Array Value} {e:TypeId}
  (hb:w.heap[b]? = some (.cells cs e (0,0))) (X6:cs'.size=cs.size) (hls:Yz w G ls' cs'.toList) :
  Yj (w.setRow b cs') G (h1++.obj b ls'::h2)/\YO w G (h1++.obj b ls::h2) (w.setRow b cs') G (h1++.obj b ls'::h2):=by
 have hmem:Res.obj b ls∈h1++.obj b ls::h2:=by simp
 have hA:V1 G w (w.setRow b cs') G:=⟨fun c j hg=>by
  have hne:c≠b:=fun he=>hh.prot _ hmem c j he hg
  simp [World.cell?,WR w b c cs' hne],fun _ _ h=>h⟩
 have hfpe:∀c j,WG (h1++.obj b ls'::h2) c j↔WG (h1++.obj b ls::h2) c j:=by
  intro c j
  simp only [WG,YU,Yr]
  constructor
  ·rintro ⟨r,hr|rfl|hr,hf⟩
   ·exact ⟨r,.inl hr,hf⟩
   ·exact ⟨_,.inr (.inl rfl),hf⟩
   ·exact ⟨r,.inr (.inr hr),hf⟩
  ·rintro ⟨r,hr|rfl|hr,hf⟩
   ·exact ⟨r,.inl hr,hf⟩
   ·exact ⟨_,.inr (.inl rfl),hf⟩
   ·exact ⟨r,.inr (.inr hr),hf⟩
 have hpw:=Kk.1 hh.apart
 have hpw2:=Wb.1 hpw.2.1
 have hother:∀r,(r∈h1∨r∈h2)->∀c j,r.fp c j->c≠b:=by
  intro r hr c j hf hc
  subst hc
  rcases hr with hr|hr
  ·exact hpw.2.2 r hr (.obj c ls) (by simp) c j hf rfl
  ·exact hpw2.1 r hr c j rfl hf
 have hkeep:∀r,(r∈h1∨r∈h2)->Tu w G r->Tu (w.setRow b cs') G r:=by
  intro r hr h0
  cases r with
  | obj c ks=>
   obtain ⟨ds,el,k1,k2⟩:=h0
   have hne:c≠b:=hother _ hr c 0 rfl
   exact ⟨ds,el,(WR w b c cs' hne).trans k1,k2.mono hA⟩
  | tail v k=>
   rcases h0 with rfl|⟨g,len,cap,cur,el,rfl,k1,k2,k3⟩
   ·exact .inl rfl
   ·have hne:g≠b:=hother _ hr g (len*k) ⟨rfl,YQ _⟩
    exact .inr ⟨g,len,cap,cur,el,rfl,(WR w b g cs' hne).trans k1,k2,k3⟩
  | ge s=>exact WK h0 (by simp [World.setRow])
  | vec v ks=>
   rcases h0 with ⟨rfl,h0⟩|⟨g,cap,cur,el,rfl,k1,k2,k3,k4⟩
   ·exact .inl ⟨rfl,h0⟩
   ·have hne:g≠b:=hother _ hr g 0 rfl
    exact .inr ⟨g,cap,cur,el,rfl,(WR w b g cs' hne).trans k1,k2,k3,k4.mono hA⟩
  | many ts=>
   refine ⟨fun p hp=>?_,h0.2⟩
   rcases h0.1 p hp with q|⟨g,len,cap,cur,el,q,k1,k2,k3⟩
   ·exact .inl q
   ·have hne:g≠b:=hother _ hr g (len*p.2) ⟨p,hp,by rw [q];exact ⟨rfl,YQ _⟩⟩
    exact .inr ⟨g,len,cap,cur,el,q,(WR w b g cs' hne).trans k1,k2,k3⟩
  | own B m=>
   intro c hc
   obtain ⟨ds,el,k1,k2⟩:=h0 c hc
   have hne:c≠b:=hother _ hr c 0 hc
   exact ⟨ds,el,(WR w b c cs' hne).trans k1,k2⟩
  | row v k ks=>
   rcases h0 with ⟨rfl,h0⟩|⟨g,len,cap,cur,el,rfl,k1,k2,k3,k4,k5⟩
   ·exact .inl ⟨rfl,h0⟩
   ·have hne:g≠b:=hother _ hr g 0 rfl
    exact .inr ⟨g,len,cap,cur,el,rfl,(WR w b g cs' hne).trans k1,k2,k3,k4,k5.mono hA⟩
 refine ⟨⟨?_,?_,?_,?_⟩,⟨rfl,rfl,rfl,by simp [World.setRow],fun _ _ h=>h,?_,fun _ _ _ h=>.inl h,fun c j _ hf=>(hfpe c j).1 hf⟩⟩
 ·intro r hr
  rcases YU.1 hr with hr|hr
  ·exact hkeep r (.inl hr) (hh.ok r (by simp [hr]))
  ·rcases Yr.1 hr with rfl|hr
   ·exact ⟨cs',e,setRow_heap w b cs cs' e (0,0) hb,hls.mono hA⟩
   ·exact hkeep r (.inr hr) (hh.ok r (by simp [hr]))
 ·refine Kk.2 ⟨hpw.1,Wb.2 ⟨hpw2.1,hpw2.2⟩,fun r hr r' hr'=>?_⟩
  rcases Yr.1 hr' with rfl|hr'
  ·exact hpw.2.2 r hr (.obj b ls) (by simp)
  ·exact hpw.2.2 r hr r' (by simp [hr'])
 ·intro r hr c j hf hg
  rcases YU.1 hr with hr|hr
  ·exact hh.prot r (by simp [hr]) c j hf hg
  ·rcases Yr.1 hr with rfl|hr
   ·exact hh.prot _ hmem c j hf hg
   ·exact hh.prot r (by simp [hr]) c j hf hg
 ·intro c j hg
  have:=hh.lt c j hg
  simpa [World.setRow] using this
 ·intro c hc
  by_cases hcb:c=b
  ·subst hcb
   exact .inr ⟨cs,cs',e,(0,0),hb,setRow_heap w c cs cs' e (0,0) hb,X6,fun j hj=>absurd ⟨_,hmem,rfl⟩ hj⟩
  ·exact .inl (WR w b c cs' hcb)
section
variable {P:Program} {n:Nat} {o:Oper} {F:Fr} {h1 h2:List Res} {K:Fr->List Res->Prop}
theorem Z1v (t:TypeId) (x y:Operand) {b off:Nat} {ls:List AV} {X:AV} (ho:o.op=.store t x y) (hdst:o.dst=none)
  (hx:F.ev x=.val (.pointer (some ⟨b,off,none⟩))) (hy:F.ev y=X) (hX:(X.fit&&X.leaves.all AV.one)=true)
  (X6:(P.info? t).map (·.size)=some X.leaves.length) (hle:Nat.ble (off+X.leaves.length) ls.length=true)
  (hK:K F (h1++.obj b (ls.take off++X.leaves++ls.drop (off+X.leaves.length))::h2)):Wc P n o F (h1++.obj b ls::h2) K:=by
 intro Q w G a hF hh
 have hvx:=hF.ev x
 rw [hx] at hvx
 have hvx:=hvx.val_inv
 have hvy:=hF.ev y
 rw [hy] at hvy
 simp only [Wn] at hX
 have hcs:=hvy.cells hX.1
 have hone:=hcs.one_cells hX.2
 have hlen:=hcs.length
 obtain ⟨cs,e,k1,k2⟩:=hh.ok (.obj b ls) (by simp)
 have hle:=Wx hle
 have hcl:=k2.length
 simp only [Qs] at hlen hcl
 cases hi:P.info? t with
 | none=>simp [hi] at X6
 | some i=>
  have X6:i.size=X.leaves.length:=by simpa [hi] using X6
  have hst:=run_storeCells_at P b off e (a.eval y).cells.toList 0 cs w k1 (by simp [hlen,hcl];omega) hone
  simp only [JN,Qs] at hst
  have hr:(execOp a.eval o).run P w=.ok .skip (w.setRow b (cs.toList.take off++(a.eval y).cells.toList++cs.toList.drop (off+(a.eval y).cells.size)).toArray):=by
   simp only [execOp,ho,hvx]
   simp [Instr.storeAt,Instr.sureAddr,storeVar,Tl hi,hlen,X6,hst]
  unfold Oper.wp
  rw [hr]
  obtain ⟨j1,j2⟩:=hh.write (ls':=ls.take off++X.leaves++ls.drop (off+X.leaves.length)) (cs':=(cs.toList.take off++(a.eval y).cells.toList++cs.toList.drop (off+(a.eval y).cells.size)).toArray)
   k1 (by simp [hlen,hcl];omega) (by rw [Bt,hlen];exact ((k2.take off).append hcs).append (k2.drop _))
  refine ⟨F,_,G,hK,?_,j1,j2⟩
  have:=hF.mono (j2.agree hh)
  simpa [Act.put,hdst] using this
end
theorem Ra {h h':List Res} (s:∀r∈h',r∈h) {b o:Nat} (hf:WG h' b o):WG h b o:=
 let ⟨r,hr,h⟩:=hf;⟨r,s r hr,h⟩
theorem Yj.sub {w:World} {G:ZY} {h h':List Res} (hh:Yj w G h) (s:h'.Sublist h):Yj w G h':=
 ⟨fun r hr=>hh.ok r (s.subset hr),hh.apart.sublist s,fun r hr=>hh.prot r (s.subset hr),hh.lt⟩
theorem YO.sub' {w w':World} {G G':ZY} {h h' h'':List Res} (e:YO w G h w' G' h') (s:h''.Sublist h'):YO w G h w' G' h'':=
 ⟨e.os,e.tape,e.output,e.size,e.sub,e.same,e.newG,fun b o hb hf=>e.newfp b o hb (Ra (fun _ hr=>s.subset hr) hf)⟩
theorem Jg (w:World) (G:ZY):V1 G w w.drew G:=⟨fun _ _ _=>rfl,fun _ _ h=>h⟩
theorem Yj.drew {w:World} {G:ZY} {h:List Res} (hh:Yj w G h):Yj w.drew G h where
 ok:=fun r hr=>by
  have h0:=hh.ok r hr
  cases r with
  | obj b ls=>obtain ⟨cs,e,h1,h2⟩:=h0;exact ⟨cs,e,h1,h2.mono (Jg w G)⟩
  | tail v k=>exact h0
  | ge s=>exact h0
  | vec v ls=>
   rcases h0 with ⟨rfl,h0⟩|⟨g,cap,cur,el,rfl,h1,h2,h3,h4⟩
   ·exact .inl ⟨rfl,h0⟩
   ·exact .inr ⟨g,cap,cur,el,rfl,h1,h2,h3,h4.mono (Jg w G)⟩
  | many ts=>exact h0
  | own B m=>exact h0
  | row v k ls=>
   rcases h0 with ⟨rfl,h0⟩|⟨g,len,cap,cur,el,rfl,h1,h2,h3,h4,h5⟩
   ·exact .inl ⟨rfl,h0⟩
   ·exact .inr ⟨g,len,cap,cur,el,rfl,h1,h2,h3,h4,h5.mono (Jg w G)⟩
 apart:=hh.apart
 prot:=hh.prot
 lt:=hh.lt
theorem YO.drew (w:World) (G:ZY) (h:List Res):YO w G h w.drew G h:=
 ⟨rfl,rfl,rfl,YQ _,fun _ _ h=>h,fun _ _=>.inl rfl,fun _ _ _ h=>.inl h,fun _ _ _ h=>h⟩
theorem Yj.alloc_row {w:World} {G:ZY} {h:List Res} (hh:Yj w G h) (cs:Array Value) (t:TypeId) {es:List AV} {k cap:Nat}
  (hk:∀x∈es,x.leaves.length=k) (hcap:es.length<=cap) (X6:cs.size=cap*k) (hls:Yz w G (Zc es) (cs.toList.take (es.length*k))) :
  ∃G',Yj (w.alloc (.cells cs t)) G' (.tail (.slice (some ⟨w.heap.size,0,none⟩) es.length cap) k::h) /\
   YO w G h (w.alloc (.cells cs t)) G' (.tail (.slice (some ⟨w.heap.size,0,none⟩) es.length cap) k::h) /\
   RV (w.alloc (.cells cs t)) G' (.sl es (some (.slice (some ⟨w.heap.size,0,none⟩) es.length cap))) (.slice (some ⟨w.heap.size,0,none⟩) es.length cap):=by
 let G':ZY:=fun b o=>G b o∨(b=w.heap.size/\o<es.length*k)
 have hA:V1 G w (w.alloc (.cells cs t)) G':=⟨fun b j hg=>BD w _ (hh.lt b j hg),fun _ _ h=>.inl h⟩
 have hrow:(w.alloc (.cells cs t)).heap[w.heap.size]? = some (.cells cs t (0,0)):=Dd w _
 obtain ⟨h1,h2⟩:=hh.alloc (.cells cs t) (G':=G') (h':=[.tail (.slice (some ⟨w.heap.size,0,none⟩) es.length cap) k]) (fun _ _ h=>.inl h)
  (fun _ _ h=>h.imp id (·.1))
  (fun r hr=>by rw [Xp.1 hr];exact .inr ⟨_,_,_,cs,t,rfl,hrow,hcap,X6⟩)
  (fun r hr b j hf=>by rw [Xp.1 hr] at hf;exact hf.1)
  (JL _ _)
  (fun r hr b j hf hg=>by
   rw [Xp.1 hr] at hf
   obtain ⟨rfl,hf2⟩:=hf
   rcases hg with hg|hg
   ·exact Nat.lt_irrefl _ (hh.lt _ _ hg)
   ·exact absurd hg.2 om)
 refine ⟨G',h1,h2,.sl (fun x hx=>by cases hx;rfl) hcap (Wy.of_flat es hk (XY.of_cells (hls.mono hA) fun j v hj=>?_))⟩
 have hj2:=hj
 rw [T5] at hj2
 split at hj2
 ·rename_i hlt
  refine ⟨?_,.inr ⟨rfl,by omega⟩⟩
  rw [Wv,cell_of_row _ _ j cs t (0,0) hrow]
  simpa using hj2
 ·cases hj2
theorem M3 {w:World} {G:ZY}:∀(vs:List Value),Yz w G (List.replicate vs.length AV.any) vs
 | []=>.nil
 | v::vs=>by simp only [YD,NF];exact .cons .any (M3 vs)
def Kr (es:List AV) (k:Nat):Bool:=es.all fun x=>Nat.beq x.leaves.length k
theorem O2 {es:List AV} {k:Nat} (h:Kr es k=true):∀x∈es,x.leaves.length=k:=fun x hx=>
 VW (Kh.1 h x hx)
section
variable {P:Program} {n:Nat} {o:Oper} {F:Fr} {h:List Res} {K:Fr->List Res->Prop}
theorem DN {w:World} {G:ZY} {a:Act} (hF:FR w G n F a) {t len:Nat} (parts:Array (Nat × Operand)) {e size:Nat} {i:TypeInfo} {ls:List AV}
  (ht:P.underlying t=some (.slice e)) (hi:P.info? e=some i) (hs:i.size=size) (hz:i.zero.isSome=true) (hle:Nat.ble (len*size) (2 ^ 24)=true)
  (hfill:KH (fun i=>some (i*size,size)) (List.replicate (len*size) .any) (parts.toList.map fun p=>(p.1,F.ev p.2))=some ls) :
  ∃cs:Array Value,Yz w G ls cs.toList /\
   (Instr.buildSlice t len (parts.map fun (i,x)=>(i,a.eval x))).run P w=.ok (.slice (some ⟨w.heap.size,0,none⟩) len len) (w.alloc (.cells cs e)):=by
 subst hs
 have hle:=Wx hle
 cases hzz:i.zero with
 | none=>simp [hzz] at hz
 | some z=>
  let zero:Array Value:=if len*i.size=0 then #[] else z.cells
  have hzlen:((Array.range (len*i.size)).map (zero[· % zero.size]!)).toList.length=len*i.size:=by simp
  obtain ⟨cs',k1,k2⟩:=F6 (w:=w) (G:=G) (vps:=parts.toList.map fun p=>(p.1,a.eval p.2)) hfill (by simp [List.map_map,Function.comp_def])
   (by simpa [List.map_map,Function.comp_def] using Yz.map (fun p:Nat × Operand=>F.ev p.2) (fun p=>a.eval p.2) parts.toList fun p _=>hF.ev p.2)
   (cs:=(Array.range (len*i.size)).map (zero[· % zero.size]!)) (by have:=M3 (w:=w) (G:=G) ((Array.range (len*i.size)).map (zero[· % zero.size]!)).toList;rwa [hzlen] at this)
  refine ⟨cs',k2,?_⟩
  have hnot:¬(len*i.size>2 ^ 24):=by omega
  have hzv:(zeroValue e).run P w=.ok z w:=by simp [zeroValue,DP hi,hzz]
  have hmap:(parts.map fun (x:Nat × Operand)=>(x.1,a.eval x.2)).toList=parts.toList.map fun p=>(p.1,a.eval p.2):=by simp
  simp only [Instr.buildSlice,Sem.run_bind,VJ ht,Result.andThen_ok,Tl hi,hnot,if_false]
  by_cases h0:len*i.size=0
  ·have hz0:zero=#[]:=Zw h0
   rw [hz0] at k1
   rw [Zw h0]
   simp only [Sem.run_bind,Sem.run_pure,Result.andThen_ok,hmap,k1]
   simp [newRow]
  ·have hz0:zero=z.cells:=Zp h0
   rw [hz0] at k1
   rw [Zp h0]
   simp only [Sem.run_bind,Sem.run_pure,Result.andThen_ok,hzv,hmap,k1]
   simp [newRow]
theorem Z1q (t len:Nat) (parts:Array (Nat × Operand)) {e size:Nat} {i:TypeInfo} {es:List AV} (ho:o.op=.buildSlice t len parts)
  (ht:P.underlying t=some (.slice e)) (hi:P.info? e=some i) (hs:i.size=size) (hz:i.zero.isSome=true) (hle:Nat.ble (len*size) (2 ^ 24)=true)
  (hfill:KH (fun i=>some (i*size,size)) (List.replicate (len*size) .any) (parts.toList.map fun p=>(p.1,F.ev p.2))=some (Zc es))
  (hlen:es.length=len) (hall:Kr es size=true) (hd:WV n o=true)
  (hK:∀b,Jb h b->K (F.put o.dst (.sl es (some (.slice (some ⟨b,0,none⟩) len len)))) (.tail (.slice (some ⟨b,0,none⟩) len len) size::h)):Wc P n o F h K:=by
 intro Q w G a hF hh
 obtain ⟨cs,h1,h2⟩:=DN hF parts ht hi hs hz hle hfill
 have hr:(execOp a.eval o).run P w=.ok (.value (.slice (some ⟨w.heap.size,0,none⟩) len len)) (w.alloc (.cells cs e)):=by
  simp only [execOp,ho]
  exact WY h2
 unfold Oper.wp
 rw [hr]
 subst hlen
 have hk:=O2 hall
 have hcs:cs.size=es.length*size:=by have:=h1.length;rw [Ur es hk] at this;simpa using this
 obtain ⟨G',j1,j2,j3⟩:=hh.alloc_row cs e hk (YQ _) hcs (by rw [<-hcs];simpa [WT] using h1)
 exact ⟨_,_,G',hK _ (Fj hh),(hF.mono (j2.agree hh)).put (Ux hd) j3,j1,j2⟩
end
structure CC (w:World) (G:ZY) (h1 h2:List Res) (k:Nat) (v:Value) (es:List AV) (v':Value) (w':World) (G':ZY):Prop where
 ok:Yj w' G' (h1++.tail v' k::h2)
 ext:YO w G (h1++.tail v k::h2) w' G' (h1++.tail v' k::h2)
 rv:RV w' G' (.sl es (some v')) v'
 own:v'.ownBlock=v.ownBlock∨∃b,v'.ownBlock=some b/\w.heap.size<=b
theorem Oa {w:World} {G:ZY} {h1 h2:List Res} {k:Nat} {v:Value} (hh:Yj w G (h1++.tail v k::h2)) (cs:Array Value) (t:TypeId) {es:List AV} {cap:Nat}
  (hk:∀x∈es,x.leaves.length=k) (hcap:es.length<=cap) (X6:cs.size=cap*k) (hls:Yz w G (Zc es) (cs.toList.take (es.length*k))) :
  ∃G',CC w G h1 h2 k v es (.slice (some ⟨w.heap.size,0,none⟩) es.length cap) (w.drew.alloc (.cells cs t)) G':=by
 obtain ⟨G',j1,j2,j3⟩:=hh.drew.alloc_row cs t hk hcap X6 (hls.mono (Jg w G))
 have hsub:(h1++.tail (.slice (some ⟨w.heap.size,0,none⟩) es.length cap) k::h2).Perm (.tail (.slice (some ⟨w.heap.size,0,none⟩) es.length cap) k::(h1++h2)):=List.perm_middle
 have hs2:(Res.tail (.slice (some ⟨w.heap.size,0,none⟩) es.length cap) k::(h1++h2)).Sublist (.tail (.slice (some ⟨w.heap.size,0,none⟩) es.length cap) k::(h1++.tail v k::h2)):=
  List.Sublist.cons_cons _ (List.Sublist.append (List.Sublist.refl _) (JM _ _))
 refine ⟨G',(j1.sub hs2).perm hsub.symm,?_,j3,.inr ⟨_,rfl,YQ _⟩⟩
 exact (YO.drew w G _).trans ((j2.sub' hs2).perm (T3 _) hsub.symm)
theorem Bg {P:Program} {t ty e:TypeId} {i:TypeInfo} (ht:P.underlying t=some (.slice e)) (hi:P.info? e=some i) {ad:Option Addr} {len cap:Nat} {a:Option Addr} {c:Nat}
  (hle:len<=cap) (w:World):(Builtin.append_ #[t,t] ty #[.slice ad len cap,.slice a 0 c]).run P w=.ok (.slice ad len cap) w:=by
 cases ad with
 | none=>cases a<;>simp [Builtin.append_,VJ ht,Tl hi,Builtin.lenOf,hle,Builtin.firstCells,loadCells,loadCellsFrom]
 | some ad=>cases a<;>simp [Builtin.append_,VJ ht,Tl hi,Builtin.lenOf,hle,Builtin.firstCells,loadCells,loadCellsFrom,storeCells]
theorem Ob {w:World} {G:ZY} {h1 h2:List Res} {k g cap:Nat} {es xs:List AV} {cur:Array Value} {e:TypeId} {news:List Value}
  (hh:Yj w G (h1++.tail (.slice (some ⟨g,0,none⟩) es.length cap) k::h2)) (hrow:w.heap[g]? = some (.cells cur e (0,0))) (hcur:cur.size=cap*k)
  (hm:XY w G g 0 (Zc es)) (hes:∀y∈es,y.leaves.length=k) (hxs:∀y∈xs,y.leaves.length=k) (hn:Yz w G (Zc xs) news)
  (hroom:es.length+xs.length<=cap) :
  ∃G',CC w G h1 h2 k (.slice (some ⟨g,0,none⟩) es.length cap) (es++xs) (.slice (some ⟨g,0,none⟩) (es.length+xs.length) cap)
   (w.setRow g (cur.toList.take (es.length*k)++news++cur.toList.drop (es.length*k+news.length)).toArray) G':=by
 have hnl:news.length=xs.length*k:=by rw [hn.length,Ur xs hxs]
 have hfit:es.length*k+news.length<=cur.size:=by rw [hnl,hcur,<-T6];exact Tt _ hroom
 generalize hcs':(cur.toList.take (es.length*k)++news++cur.toList.drop (es.length*k+news.length)).toArray=cs'
 have hlist:cs'.toList=cur.toList.take (es.length*k)++news++cur.toList.drop (es.length*k+news.length):=by rw [<-hcs']
 have X6:cs'.size=cur.size:=by
  have:=Ys List.length hlist
  simp only [Qs,Yk,Wr,Ki] at this
  omega
 have hlow:∀j,j<es.length*k->cs'[j]? = cur[j]?:=by
  intro j hj
  have h1:(cur.toList.take (es.length*k)).length=es.length*k:=by simp;omega
  rw [<-Br,hlist,VN,Cv om,T5,Zw hj,Br]
 have hmid:∀j u,news[j]? = some u->cs'[es.length*k+j]? = some u:=by
  intro j u hj
  have h1:(cur.toList.take (es.length*k)).length=es.length*k:=by simp;omega
  have hjl:j<news.length:=(XA.1 hj).1
  rw [<-Br,hlist,VN,Ec om,h1,Nat.add_sub_cancel_left,Cv hjl,hj]
 have hmem:Res.tail (.slice (some ⟨g,0,none⟩) es.length cap) k∈h1++.tail (.slice (some ⟨g,0,none⟩) es.length cap) k::h2:=by simp
 let G':ZY:=fun b o=>G b o∨(b=g/\es.length*k<=o/\o<(es.length+xs.length)*k)
 have hA:V1 G w (w.setRow g cs') G':=⟨fun b j hg=>by
  by_cases hbg:b=g
  ·subst hbg
   have hj:j<es.length*k:=by
    rcases J8 j (es.length*k) with h|h
    ·exact h
    ·exact (hh.prot _ hmem b j ⟨rfl,h⟩ hg).elim
   rw [cell_of_row _ b j cs' e (0,0) (setRow_heap w b cur cs' e (0,0) hrow),cell_of_row w b j cur e (0,0) hrow,hlow j hj]
  ·simp [World.cell?,WR w g b cs' hbg],fun _ _ h=>.inl h⟩
 have hpw:=Kk.1 hh.apart
 have hpw2:=Wb.1 hpw.2.1
 have hbig:∀j,es.length*k<=j->Res.fp (.tail (.slice (some ⟨g,0,none⟩) es.length cap) k) g j:=fun j hj=>⟨rfl,hj⟩
 have hother:∀r,(r∈h1∨r∈h2)->∀c j,r.fp c j->c=g->j<es.length*k:=by
  intro r hr c j hf hc
  subst hc
  rcases J8 j (es.length*k) with h|h
  ·exact h
  ·rcases hr with hr|hr
   ·exact (hpw.2.2 r hr _ (YZ ..) c j hf (hbig j h)).elim
   ·exact (hpw2.1 r hr c j (hbig j h) hf).elim
 have hkeep:∀r,(r∈h1∨r∈h2)->Tu w G r->Tu (w.setRow g cs') G' r:=by
  intro r hr h0
  cases r with
  | obj c ks=>
   obtain ⟨ds,el,k1,k2⟩:=h0
   have hne:c≠g:=fun hc=>by have:=hother _ hr c (es.length*k) rfl hc;omega
   exact ⟨ds,el,(WR w g c cs' hne).trans k1,k2.mono hA⟩
  | tail v kk=>
   rcases h0 with rfl|⟨g2,len,cap2,cur2,el,rfl,k1,k2,k3⟩
   ·exact .inl rfl
   ·have hne:g2≠g:=fun hc=>by have:=hother _ hr g2 (len*kk+es.length*k) ⟨rfl,by omega⟩ hc;omega
    exact .inr ⟨g2,len,cap2,cur2,el,rfl,(WR w g g2 cs' hne).trans k1,k2,k3⟩
  | ge s=>exact WK h0 (by simp [World.setRow])
  | vec v ks=>
   rcases h0 with ⟨rfl,h0⟩|⟨g2,cap2,cur2,el,rfl,k1,k2,k3,k4⟩
   ·exact .inl ⟨rfl,h0⟩
   ·have hne:g2≠g:=fun hc=>by have:=hother _ hr g2 (es.length*k) rfl hc;omega
    exact .inr ⟨g2,cap2,cur2,el,rfl,(WR w g g2 cs' hne).trans k1,k2,k3,k4.mono hA⟩
  | many ts=>
   refine ⟨fun p hp=>?_,h0.2⟩
   rcases h0.1 p hp with q|⟨g2,len,cap2,cur2,el,q,k1,k2,k3⟩
   ·exact .inl q
   ·have hne:g2≠g:=fun hc=>by have:=hother _ hr g2 (len*p.2+es.length*k) ⟨p,hp,by rw [q];exact ⟨rfl,by omega⟩⟩ hc;omega
    exact .inr ⟨g2,len,cap2,cur2,el,q,(WR w g g2 cs' hne).trans k1,k2,k3⟩
  | own B m=>
   intro c hc
   obtain ⟨ds,el,k1,k2⟩:=h0 c hc
   have hne:c≠g:=fun hq=>by have:=hother _ hr c (es.length*k) hc hq;omega
   exact ⟨ds,el,(WR w g c cs' hne).trans k1,k2⟩
  | row v kk ks=>
   rcases h0 with ⟨rfl,h0⟩|⟨g2,len2,cap2,cur2,el,rfl,k1,k2,k3,k4,k5⟩
   ·exact .inl ⟨rfl,h0⟩
   ·have hne:g2≠g:=fun hc=>by have:=hother _ hr g2 (es.length*k) rfl hc;omega
    exact .inr ⟨g2,len2,cap2,cur2,el,rfl,(WR w g g2 cs' hne).trans k1,k2,k3,k4,k5.mono hA⟩
 have hle:es.length*k<=(es.length+xs.length)*k:=Tt _ om
 have hfpe:∀r,r∈h1++.tail (.slice (some ⟨g,0,none⟩) (es.length+xs.length) cap) k::h2->∀b o,r.fp b o ->
   WG (h1++.tail (.slice (some ⟨g,0,none⟩) es.length cap) k::h2) b o:=by
  intro r hr b o hf
  rcases YU.1 hr with hr|hr
  ·exact ⟨r,by simp [hr],hf⟩
  ·rcases Yr.1 hr with rfl|hr
   ·obtain ⟨rfl,hf2⟩:=hf
    exact ⟨_,hmem,rfl,WK hle hf2⟩
   ·exact ⟨r,by simp [hr],hf⟩
 refine ⟨G',⟨?_,?_,?_,?_⟩,⟨rfl,rfl,rfl,by simp [World.setRow],fun _ _ h=>.inl h,?_,?_,fun b o _ ⟨r,hr,hf⟩=>hfpe r hr b o hf⟩,?_,.inl rfl⟩
 ·intro r hr
  rcases YU.1 hr with hr|hr
  ·exact hkeep r (.inl hr) (hh.ok r (by simp [hr]))
  ·rcases Yr.1 hr with rfl|hr
   ·exact .inr ⟨g,_,cap,cs',e,rfl,setRow_heap w g cur cs' e (0,0) hrow,hroom,X6.trans hcur⟩
   ·exact hkeep r (.inr hr) (hh.ok r (by simp [hr]))
 ·have htt:∀r,Ja r (.tail (.slice (some ⟨g,0,none⟩) es.length cap) k)->Ja r (.tail (.slice (some ⟨g,0,none⟩) (es.length+xs.length) cap) k):=
   fun r hd b o hf ⟨e1,e2⟩=>hd b o hf ⟨e1,WK hle e2⟩
  refine Kk.2 ⟨hpw.1,Wb.2 ⟨fun r hr=>(htt r (hpw2.1 r hr).symm).symm,hpw2.2⟩,fun r hr r' hr'=>?_⟩
  rcases Yr.1 hr' with rfl|hr'
  ·exact htt r (hpw.2.2 r hr _ (YZ ..))
  ·exact hpw.2.2 r hr r' (by simp [hr'])
 ·intro r hr b o hf hg
  obtain ⟨r0,hr0,hf0⟩:=hfpe r hr b o hf
  rcases hg with hg|⟨rfl,hg1,hg2⟩
  ·exact hh.prot r0 hr0 b o hf0 hg
  ·rcases YU.1 hr with hr|hr
   ·have:=hother r (.inl hr) b o hf rfl;omega
   ·rcases Yr.1 hr with rfl|hr
    ·have:=hf.2;omega
    ·have:=hother r (.inr hr) b o hf rfl;omega
 ·intro b o hg
  have hs:(w.setRow g cs').heap.size=w.heap.size:=by simp [World.setRow]
  rw [hs]
  rcases hg with hg|⟨rfl,_,_⟩
  ·exact hh.lt b o hg
  ·exact (Vs.1 hrow).1
 ·intro b hb
  by_cases hbg:b=g
  ·subst hbg
   refine .inr ⟨cur,cs',e,(0,0),hrow,setRow_heap w b cur cs' e (0,0) hrow,X6,fun o ho=>hlow o ?_⟩
   rcases J8 o (es.length*k) with h|h
   ·exact h
   ·exact absurd ⟨_,hmem,rfl,h⟩ ho
  ·exact .inl (WR w g b cs' hbg)
 ·intro b o hb hg
  rcases hg with hg|⟨rfl,hg1,hg2⟩
  ·exact .inl hg
  ·exact .inr ⟨_,hmem,rfl,hg1⟩
 ·rw [<-Yk]
  refine .sl (k:=k) (fun x hx=>by cases hx;rfl) (by simpa using hroom) (Wy.of_flat _ (fun y hy=>?_) ?_)
  ·rcases YU.1 hy with hy|hy
   ·exact hes y hy
   ·exact hxs y hy
  ·have e1:Zc (es++xs)=Zc es++Zc xs:=by simp [Zc]
   rw [e1]
   refine (hm.mono hA).append ?_
   rw [Ur es hes,Wv]
   refine XY.of_cells (hn.mono hA) fun j u hj=>⟨?_,.inr ⟨rfl,by omega,?_⟩⟩
   ·rw [cell_of_row _ g _ cs' e (0,0) (setRow_heap w g cur cs' e (0,0) hrow),hmid j u hj]
   ·have hjl:j<news.length:=(XA.1 hj).1
    rw [T6]
    omega
theorem DM {P:Program} (w:World) (t ty e el:TypeId) (i:TypeInfo) (ht:P.underlying t=some (.slice e)) (hi:P.info? e=some i)
  (g sLen sCap:Nat) (cur:Array Value) (hg:w.heap[g]? = some (.cells cur el (0,0)))
  (a:Addr) (m c:Nat) (news:List Value) (hl:news.length=m*i.size) (hnews:∀j u,news[j]? = some u->w.cell? (a.add j)=some u) (h1:∀u∈news,u.oneCell'=true)
  (hroom:sLen+m<=sCap) (hfit:sLen*i.size+news.length<=cur.size) :
  (Builtin.append_ #[t,t] ty #[.slice (some ⟨g,0,none⟩) sLen sCap,.slice (some a) m c]).run P w =
   .ok (.slice (some ⟨g,0,none⟩) (sLen+m) sCap) (w.setRow g (cur.toList.take (sLen*i.size)++news++cur.toList.drop (sLen*i.size+news.length)).toArray):=by
 have hf:=run_firstCells_some (P:=P) w i.size m a m c news hl hnews
 have hst:=run_storeCells_at P g (sLen*i.size) el news 0 cur w hg (by simpa using hfit) h1
 simp only [JN] at hst
 simp [Builtin.append_,run_underlying ht,sizeOf,typeInfo,hi,Builtin.lenOf,hroom,hf,Addr.add_lit,hst]
theorem O9 {P:Program} {w:World} {G:ZY} {h1 h2:List Res} {t ty e k:Nat} {i:TypeInfo} {v x:Value} {es xs:List AV}
  (ht:P.underlying t=some (.slice e)) (hi:P.info? e=some i) (hk:i.size=k) (hzs:(i.zero.map (·.cells.size))=some k) (hb:Nat.ble i.bytes 32768=true)
  (hh:Yj w G (h1++.tail v k::h2)) (hv:RV w G (.sl es (some v)) v) (hx:RV w G (.sl xs none) x)
  (hes:∀y∈es,y.leaves.length=k) (hxs:∀y∈xs,y.leaves.length=k) (hone:(Zc xs).all AV.one=true) (hbound:es.length+xs.length<=4294967296) :
  ∃v' w' G',(Builtin.append_ #[t,t] ty #[v,x]).run P w=.ok v' w'/\CC w G h1 h2 k v (es++xs) v' w' G':=by
 have htail:Ek w v k:=hh.ok (.tail v k) (by simp)
 have hb:=Wx hb
 cases hz:i.zero with
 | none=>simp [hz] at hzs
 | some z=>
  have hzs:z.cells.size=k:=by simpa [hz] using hzs
  have hlen:v=.slice none 0 0->es=[]:=by
   intro he
   subst he
   cases hv with
   | nil=>rfl
  have grown:∀(olds news:List Value) (old:Nat),Yz w G (Zc es) olds->Yz w G (Zc xs) news ->
    ∃G',CC w G h1 h2 k v (es++xs) (.slice (some ⟨w.heap.size,0,none⟩) (es.length+xs.length) (grownCap w (es.length+xs.length) old e))
     (w.drew.alloc (.cells (olds.toArray++news.toArray++Builtin.zeroCells z.cells (grownCap w (es.length+xs.length) old e-(es.length+xs.length))) e)) G':=by
   intro olds news old ho hn
   have X2:=grownCap_ge w (es.length+xs.length) old e
   have hall:∀y∈es++xs,y.leaves.length=k:=fun y hy=>by
    rcases YU.1 hy with hy|hy
    ·exact hes y hy
    ·exact hxs y hy
   have e1:Zc (es++xs)=Zc es++Zc xs:=by simp [Zc]
   have hol:olds.length=es.length*k:=by rw [ho.length,Ur es hes]
   have hnl:news.length=xs.length*k:=by rw [hn.length,Ur xs hxs]
   have:=Oa hh (olds.toArray++news.toArray++Builtin.zeroCells z.cells (grownCap w (es.length+xs.length) old e-(es.length+xs.length))) e
    (es:=es++xs) (cap:=grownCap w (es.length+xs.length) old e) hall (by simpa using X2)
    (by
     simp only [Array.size_append,Bs,size_zeroCells,hzs,hol,hnl,<-T6]
     congr 1
     omega)
    (by
     rw [e1]
     have:(olds.toArray++news.toArray++Builtin.zeroCells z.cells (grownCap w (es.length+xs.length) old e-(es.length+xs.length))).toList.take ((es++xs).length*k)=olds++news:=by
      simp only [Ea,VN,Yk]
      rw [<-VN,T6,<-hol,<-hnl,<-Yk]
      exact Kl
     rw [this]
     exact ho.append hn)
   simpa using this
  by_cases hxe:xs=[]
  ·subst hxe
   cases hx with
   | nil _=>
    refine ⟨v,w,G,?_,by simpa using hh,YO.refl _ _ _,by simpa using hv,.inl rfl⟩
    rcases htail with rfl|⟨g,len,cap,cur,el,rfl,_,hle,_⟩
    ·exact Bg ht hi (YQ _) w
    ·exact Bg ht hi hle w
   | sl _ _ _=>
    refine ⟨v,w,G,?_,by simpa using hh,YO.refl _ _ _,by simpa using hv,.inl rfl⟩
    rcases htail with rfl|⟨g,len,cap,cur,el,rfl,_,hle,_⟩
    ·exact Bg ht hi (YQ _) w
    ·exact Bg ht hi hle w
  ·cases hx with
   | nil _=>exact absurd rfl hxe
   | sl hq hcc hm=>
    rename_i b o' k' c
    have hpos:0<xs.length:=Ed.2 hxe
    obtain ⟨news,hn,hnc⟩:=hm.flat_mem.cells
    have hnl:news.length=xs.length*i.size:=by rw [hn.length,hk,Ur xs hxs]
    have hone':=hn.one_cells hone
    have hnews:∀j u,news[j]? = some u->w.cell? ((⟨b,o',none⟩:Addr).add j)=some u:=fun j u hj=>by rw [Qa];exact (hnc j u hj).1
    have hby:(es.length+xs.length)*i.bytes<=140737488355328:=by
     have:=Nat.mul_le_mul hbound hb
     omega
    rcases htail with rfl|⟨g,len,cap,cur,el,rfl,hrow,hlc,hcur⟩
    ·have he:=hlen rfl
     subst he
     have hr:=run_append_nil (P:=P) w t ty e i z ht hi hz ⟨b,o',none⟩ xs.length c news hnl hnews hpos (by simp at hbound;omega) (by simp at hby;omega)
     obtain ⟨G',hG'⟩:=grown [] news 0 .nil hn
     simp only [X8,Wv,Array.empty_append] at hG'
     exact ⟨_,_,G',hr,by simpa using hG'⟩
    ·have hle:len=es.length:=by cases hv<;>rfl
     subst hle
     have hmem:XY w G g 0 (Zc es):=by
      cases hv with
      | nil=>exact .nil
      | sl _ _ hm=>exact hm.flat_mem
     obtain ⟨olds,ho,hoc⟩:=hmem.cells
     by_cases hroom:es.length+xs.length<=cap
     ·have hfit:es.length*i.size+news.length<=cur.size:=by rw [hnl,hcur,hk,<-T6];exact Tt _ hroom
      have hr:=DM (P:=P) w t ty e el i ht hi g es.length cap cur hrow ⟨b,o',none⟩ xs.length c news hnl hnews hone' hroom hfit
      obtain ⟨G',hG'⟩:=Ob (h1:=h1) (h2:=h2) hh hrow hcur hmem hes hxs hn hroom
      rw [hk] at hr
      exact ⟨_,_,G',hr,hG'⟩
     ·have hol:olds.length=es.length*i.size:=by rw [ho.length,hk,Ur es hes]
      have hr:=run_append_grow (P:=P) w t ty e i z ht hi hz ⟨g,0,none⟩ es.length cap olds hol (fun j u hj=>by rw [Qa];simpa using (hoc j u hj).1) ⟨b,o',none⟩ xs.length c news hnl hnews
       om om (growslice_fits om hby)
      obtain ⟨G',hG'⟩:=grown olds news cap ho hn
      exact ⟨_,_,G',hr,hG'⟩
section
variable {P:Program} {n:Nat} {o:Oper} {F:Fr} {h h1 h2:List Res} {K:Fr->List Res->Prop}
theorem RV.forget {w:World} {G:ZY} {es:List AV} {hv:Option Value} {v:Value} (h:RV w G (.sl es hv) v):RV w G (.sl es none) v:=by
 cases h with
 | nil _=>exact .nil (by simp)
 | sl _ hc hm=>exact .sl (by simp) hc hm
theorem RV.header {w:World} {G:ZY} {es:List AV} {x v:Value} (h:RV w G (.sl es (some x)) v):v=x:=by
 cases h with
 | nil hq=>exact (hq x rfl).symm
 | sl hq _ _=>exact (hq x rfl).symm
theorem Z1m (s x:Operand) (t:TypeId) {e k:Nat} {i:TypeInfo} {hv:Value} {hx:Option Value} {es xs:List AV}
  (ho:o.op=.call { callee:=.builtin .append,args:=#[s,x],argTypes:=#[t,t] })
  (ht:P.underlying t=some (.slice e)) (hi:P.info? e=some i) (hk:i.size=k) (hzs:(i.zero.map (·.cells.size))=some k) (hb:Nat.ble i.bytes 32768=true)
  (hs:F.ev s=.sl es (some hv)) (hx:F.ev x=.sl xs hx) (hd:WV n o=true)
  (hes:∀y∈es,y.leaves.length=k) (hxs:∀y∈xs,y.leaves.length=k) (hone:(Zc xs).all AV.one=true) (hbound:es.length+xs.length<=4294967296)
  (hK:∀v',(v'.ownBlock=hv.ownBlock∨∃b,v'.ownBlock=some b/\Jb (h1++.tail hv k::h2) b) ->
   K (F.put o.dst (.sl (es++xs) (some v'))) (h1++.tail v' k::h2)):Wc P n o F (h1++.tail hv k::h2) K:=by
 intro Q w G a hF hh
 have v1:=hF.ev s
 have v2:=hF.ev x
 rw [hs] at v1
 rw [hx] at v2
 have e1:=v1.header
 rw [e1] at v1
 obtain ⟨v',w',G',hr,hA⟩:=O9 (P:=P) (ty:=o.type) ht hi hk hzs hb hh v1 v2.forget hes hxs hone hbound
 have hrun:(execOp a.eval o).run P w=.ok (.value v') w':=by
  simp only [execOp,ho,resolve,invoke,builtin,Sem.run_bind,Sem.run_pure,Result.andThen_ok,Cz,Uf,Cy,e1,hr]
 unfold Oper.wp
 rw [hrun]
 refine ⟨_,_,G',hK v' ?_,(hF.mono (hA.ext.agree hh)).put (Ux hd) hA.rv,hA.ok,hA.ext⟩
 rcases hA.own with h|⟨b,h,hle⟩
 ·exact .inl h
 ·exact .inr ⟨b,h,fun s hs=>WK (hh.ok _ hs) hle⟩
theorem Mo {t e k:Nat} {i:TypeInfo} {b off len cap:Nat} {ik:IntKind} {j:Int} (ht:P.underlying t=some (.slice e)) (hi:P.info? e=some i) (hk:i.size=k)
  (h0:0<=j) (hlt:j<len) (w:World) :
  (Instr.indexAt t (.slice (some ⟨b,off,none⟩) len cap) (.int ik j)).run P w=.ok (.pointer (some ⟨b,off+j.toNat * k,none⟩)) w:=by
 subst hk
 have hu:=VJ ht w
 simp only [Instr.indexAt,asIntOf,Sem.run_bind,Sem.run_pure,Result.andThen_ok,hu]
 simp [h0,hlt,Tl hi,Qa]
theorem Z4z (t:TypeId) (x ix:Operand) {e k:Nat} {i:TypeInfo} {es:List AV} {hv:Option Value} {ik:IntKind} {j:Int} {y:AV}
  (ho:o.op=.indexAddr t x ix) (ht:P.underlying t=some (.slice e)) (hi:P.info? e=some i) (hk:i.size=k) (hx:F.ev x=.sl es hv) (hix:F.ev ix=.val (.int ik j))
  (h0:0<=j) (hget:es[j.toNat]? = some y) (hy:y.leaves.length=k):XP P o F h [] (.rp y.leaves):=by
 intro n w G a hF hh
 have v1:=hF.ev x
 have v2:=hF.ev ix
 rw [hx] at v1
 rw [hix] at v2
 have v2:=v2.val_inv
 generalize hv1:a.eval x=u at v1
 cases v1 with
 | nil _=>simp at hget
 | sl hq hc hm=>
  rename_i b off kk cap
  have hlt:j.toNat<es.length:=(XA.1 hget).1
  have hkk:kk=k:=by
   have:=hm.len y (ZW hget)
   omega
  subst hkk
  refine ⟨_,.rp (hm.get _ _ hget),fun w' _ _=>?_⟩
  simp only [execOp,ho,hv1,v2]
  exact WY (Mo ht hi hk h0 om w')
theorem Z50 (t:TypeId) (x ix:Operand) {e k:Nat} {i:TypeInfo} {b off len cap:Nat} {ik:IntKind} {j:Int}
  (ho:o.op=.indexAddr t x ix) (ht:P.underlying t=some (.slice e)) (hi:P.info? e=some i) (hk:i.size=k) (hx:F.ev x=.val (.slice (some ⟨b,off,none⟩) len cap)) (hix:F.ev ix=.val (.int ik j))
  (h0:0<=j) (hlt:j<len):XP P o F h [] (.val (.pointer (some ⟨b,off+j.toNat * k,none⟩))):=by
 intro n w G a hF hh
 have v1:=hF.ev x
 have v2:=hF.ev ix
 rw [hx] at v1
 rw [hix] at v2
 have v1:=v1.val_inv
 have v2:=v2.val_inv
 refine ⟨_,.val,fun w' _ _=>?_⟩
 simp only [execOp,ho,v1,v2]
 exact WY (Mo ht hi hk h0 hlt w')
def JA (F:Fr) (o:Option Operand) (d:Int):Option Int:=
 match o with
 | none=>some d
 | some x=>match F.ev x with
  | .val (.int _ j)=>some j
  | _=>none
theorem Bh {v:Value} {ik:IntKind} {j:Int} {y:Nat} {c:BoundsCode} (hv:v=.int ik j) (h0:0<=j) (h1:j<=y) (w:World):(Instr.sliceBound v y c).run P w=.ok j.toNat w:=by
 subst hv
 simp [Instr.sliceBound,asIntOf,h0,h1]
theorem Z55 (t:TypeId) (x:Operand) (lo hi:Option Operand) {e k:Nat} {i:TypeInfo} {es:List AV} {hv:Option Value} {l m:Int}
  (ho:o.op=.slice t x lo hi none) (ht:P.underlying t=some (.slice e)) (hi':P.info? e=some i) (hk:i.size=k) (hx:F.ev x=.sl es hv)
  (hlo:JA F lo 0=some l) (hhi:JA F hi es.length=some m) (h0:0<=l) (h1:l<=m) (h2:m<=es.length) (hes:∀y∈es,y.leaves.length=k) :
  XP P o F h [] (.sl ((es.take m.toNat).drop l.toNat) none):=by
 intro n w G a hF hh
 have v1:=hF.ev x
 rw [hx] at v1
 generalize hv1:a.eval x=u at v1
 have hlo':lo.map a.eval=none/\l=0∨∃ik,lo.map a.eval=some (.int ik l):=by
  cases lo with
  | none=>simp [JA] at hlo;exact .inl ⟨rfl,hlo.symm⟩
  | some y=>
   simp only [JA] at hlo
   split at hlo
   ·rename_i k j hj
    cases hlo
    have:=hF.ev y
    rw [hj] at this
    exact .inr ⟨k,by simp [this.val_inv]⟩
   ·cases hlo
 have hhi':hi.map a.eval=none/\m=es.length∨∃ik,hi.map a.eval=some (.int ik m):=by
  cases hi with
  | none=>simp [JA] at hhi;exact .inl ⟨rfl,hhi.symm⟩
  | some y=>
   simp only [JA] at hhi
   split at hhi
   ·rename_i k j hj
    cases hhi
    have:=hF.ev y
    rw [hj] at this
    exact .inr ⟨k,by simp [this.val_inv]⟩
   ·cases hhi
 have hrun:∀(ad:Option Addr) (cap:Nat),m<=cap->∀w':World,(Instr.sliceAt t (.slice ad es.length cap) (lo.map a.eval) (hi.map a.eval) none).run P w' =
   .ok (.slice (if cap=l.toNat then ad else ad.map (·.add (l.toNat * k))) (m.toNat-l.toNat) (cap-l.toNat)) w':=by
  intro ad cap hcap w'
  subst hk
  have hmm:(Instr.sliceBounds true es.length cap (lo.map a.eval) (hi.map a.eval) none).run P w'=.ok (l.toNat,m.toNat,cap) w':=by
   rcases hhi' with ⟨e1,rfl⟩|⟨ik,e1⟩
   ·rcases hlo' with ⟨e2,rfl⟩|⟨ik2,e2⟩
    ·simp [Instr.sliceBounds,e1,e2]
    ·simp [Instr.sliceBounds,e1,e2,Bh (P:=P) (v:=.int ik2 l) rfl h0 (by omega:l<=(es.length:Int))]
   ·have Zb:=fun c=>Bh (P:=P) (c:=c) (v:=.int ik m) (y:=cap) rfl om hcap w'
    rcases hlo' with ⟨e2,rfl⟩|⟨ik2,e2⟩
    ·simp [Instr.sliceBounds,e1,e2,Zb]
    ·have ZP:=fun c=>Bh (P:=P) (c:=c) (v:=.int ik2 l) (y:=m.toNat) rfl h0 om w'
     simp [Instr.sliceBounds,e1,e2,Zb,ZP]
  simp only [Instr.sliceAt,Sem.run_bind,VJ ht,Result.andThen_ok,Instr.slice,hmm]
  simp [Tl hi']
 cases v1 with
 | nil hq=>
  rename_i ad cap
  simp only [X8,Int.natCast_zero] at h2
  have hl:l=0:=by omega
  have hm:m=0:=by omega
  subst hl
  subst hm
  have hr:=hrun ad cap om
  refine ⟨_,?_,fun w' _ _=>by simp only [execOp,ho,hv1,Option.map_none];exact WY (hr w')⟩
  exact .nil (by simp)
 | sl hq hc hm=>
  rename_i b off kk cap
  by_cases hemp:m.toNat<=l.toNat
  ·refine ⟨_,?_,fun w' _ _=>by simp only [execOp,ho,hv1,Option.map_none];exact WY (hrun _ cap om w')⟩
   have e1:(es.take m.toNat).drop l.toNat=[]:=Eb (by simp;omega)
   have e2:m.toNat-l.toNat=0:=by omega
   rw [e1,e2]
   exact .nil (by simp)
  ·have hne:0<es.length:=by omega
   have hkk:kk=k:=by
    have hy:=hm.len es[0] (List.getElem_mem hne)
    have:=hes es[0] (List.getElem_mem hne)
    omega
   subst hkk
   refine ⟨_,?_,fun w' _ _=>by simp only [execOp,ho,hv1,Option.map_none];exact WY (hrun _ cap om w')⟩
   rw [Zp om]
   have hlen:((es.take m.toNat).drop l.toNat).length=m.toNat-l.toNat:=by simp;omega
   rw [<-hlen]
   simp only [Bu,Qa]
   exact .sl (k:=kk) (by simp) om ((hm.take m.toNat).drop l.toNat)
theorem Z1o (f:FuncId) (args:Array Operand) (tys:Array TypeId) {fn:Func} {h1 h2:List Res} {xs:List AV} {R:AV->List Res->Prop}
  (ho:o.op=.call { callee:=.value (.func f),args:=args,argTypes:=tys }) (hf:P.funcs[f]? = some fn) (hb:fn.body.isSome=true) (hn:(fn.name== "runtime.NumGoroutine")=false)
  (hargs:args.toList.map F.ev=xs) (hd:WV n o=true) (hp:h.Perm (h1++h2)) (hc:W3 P f xs h1 R)
  (hK:∀r h',R r h'->K (F.put o.dst r) (h'++h2)):Wc P n o F h K:=by
 intro Q w G a hF hh
 have hh':=hh.perm hp
 have hvs:Yz w G xs (args.toList.map a.eval):=by rw [<-hargs];exact Yz.map F.ev a.eval args.toList fun x _=>hF.ev x
 have hcl:=hc w G _ hvs hh'.left
 have hbn:¬fn.body=none:=by intro hq;simp [hq] at hb
 have hn':¬fn.name= "runtime.NumGoroutine":=by simpa using hn
 have hrun:(execOp a.eval o).run P w=.ok (.enter f (args.map a.eval)) w:=by
  simp only [execOp,ho,resolve,Act.eval,Deferred.ofValue,Sem.run_bind,Sem.run_pure,Result.andThen_ok,invoke,callFunc]
  simp [program,Sem.run,hf,hn',hbn]
 unfold Oper.wp
 rw [hrun]
 show Calls P f (args.map a.eval) w _
 have hav:args.map a.eval=(args.toList.map a.eval).toArray:=by rw [<-Array.toList_map,Ue]
 rw [hav]
 refine hcl.mono fun e w' ⟨v,r,h',G',he,hR,hv,hh2,hx⟩=>?_
 subst he
 obtain ⟨j1,j2⟩:=hh'.frame hx hh2
 have j3:=j2.perm hp.symm (T3 _)
 exact ⟨_,_,G',hK r h' hR,(hF.mono (j3.agree hh)).put (Ux hd) hv,j1,j3⟩
theorem Z1p (t:Operand) (args:Array Operand) (tys:Array TypeId) {f:FuncId} {caps:Array Value} {fn:Func} {h1 h2:List Res} {xs:List AV} {R:AV->List Res->Prop}
  (ho:o.op=.call { callee:=.value t,args:=args,argTypes:=tys }) (ht:F.ev t=.val (.func (.func f) #[] caps)) (hf:P.funcs[f]? = some fn) (hb:fn.body.isSome=true)
  (hn:(fn.name== "runtime.NumGoroutine")=false)
  (hargs:args.toList.map F.ev++caps.toList.map AV.val=xs) (hd:WV n o=true) (hp:h.Perm (h1++h2)) (hc:W3 P f xs h1 R)
  (hK:∀r h',R r h'->K (F.put o.dst r) (h'++h2)):Wc P n o F h K:=by
 intro Q w G a hF hh
 have hh':=hh.perm hp
 have htv:=hF.ev t
 rw [ht] at htv
 have htv:=htv.val_inv
 have hcv:∀(l:List Value),Yz w G (l.map AV.val) l:=fun l=>by
  induction l with
  | nil=>exact .nil
  | cons v l ih=>exact .cons .val ih
 have hvs:Yz w G xs (args.toList.map a.eval++caps.toList):=by
  rw [<-hargs];exact (Yz.map F.ev a.eval args.toList fun x _=>hF.ev x).append (hcv _)
 have hcl:=hc w G _ hvs hh'.left
 have hbn:¬fn.body=none:=by intro hq;simp [hq] at hb
 have hn':¬fn.name= "runtime.NumGoroutine":=by simpa using hn
 have hrun:(execOp a.eval o).run P w=.ok (.enter f (args.map a.eval++caps)) w:=by
  simp only [execOp,ho,resolve,htv,Deferred.ofValue,Sem.run_bind,Sem.run_pure,Result.andThen_ok,invoke,callFunc]
  simp [program,Sem.run,hf,hn',hbn]
 unfold Oper.wp
 rw [hrun]
 show Calls P f (args.map a.eval++caps) w _
 have hav:args.map a.eval++caps=(args.toList.map a.eval++caps.toList).toArray:=by
  apply Array.ext'
  simp
 rw [hav]
 refine hcl.mono fun e w' ⟨v,r,h',G',he,hR,hv,hh2,hx⟩=>?_
 subst he
 obtain ⟨j1,j2⟩:=hh'.frame hx hh2
 have j3:=j2.perm hp.symm (T3 _)
 exact ⟨_,_,G',hK r h' hR,(hF.mono (j3.agree hh)).put (Ux hd) hv,j1,j3⟩
end
def Yv:Code->Code
 | .seq a _=>a
 | .cond _ a _=>a
 | .block _ a=>a
 | .loop a=>a
 | .scope a=>a
 | c=>c
def V3:Code->Code
 | .seq _ b=>b
 | .cond _ _ b=>b
 | c=>c
def YV:Code->Nat
 | .skip=>0
 | .region _ _ false=>1
 | .region _ _ true=>2
 | .seq _ _=>3
 | .cond _ _ _=>4
 | .block _ _=>5
 | .loop _=>6
 | .exit _=>7
 | .ret=>8
 | _=>9
def TR:Code->Nat
 | .region id _ _=>id
 | .block id _=>id
 | .exit id=>id
 | _=>0
def Xl:Code->Array Oper
 | .region _ ops _=>ops
 | _=>#[]
def Ku:Code->Operand
 | .cond x _ _=>x
 | _=>.tmp 0
def CK (fn:Func):Code:=fn.body.getD .skip
theorem Oy {c:Code} (h:YV c=0):c=.skip:=by unfold YV at h;split at h<;>first|rfl|cases h
theorem Oz {c:Code} (h:YV c=1):c=.region (TR c) (Xl c) false:=by unfold YV at h;split at h<;>first|rfl|cases h
theorem OA {c:Code} (h:YV c=2):c=.region (TR c) (Xl c) true:=by unfold YV at h;split at h<;>first|rfl|cases h
theorem OB {c:Code} (h:YV c=3):c=.seq (Yv c) (V3 c):=by unfold YV at h;split at h<;>first|rfl|cases h
theorem OC {c:Code} (h:YV c=4):c=.cond (Ku c) (Yv c) (V3 c):=by unfold YV at h;split at h<;>first|rfl|cases h
theorem OD {c:Code} (h:YV c=5):c=.block (TR c) (Yv c):=by unfold YV at h;split at h<;>first|rfl|cases h
theorem OE {c:Code} (h:YV c=6):c=.loop (Yv c):=by unfold YV at h;split at h<;>first|rfl|cases h
theorem OF {c:Code} (h:YV c=7):c=.exit (TR c):=by unfold YV at h;split at h<;>first|rfl|cases h
theorem OG {c:Code} (h:YV c=8):c=.ret:=by unfold YV at h;split at h<;>first|rfl|cases h
def TO (P:Program) (n:Nat) (ops:Array Oper) (B:Fr->List Res->Prop) (l:List Oper) (F:Fr) (h:List Res):Prop:=
 ∀(Q:Exit->Act->World->Prop) w G a,FR w G n F a->Yj w G h ->
  (∀F' h' G' a' w',B F' h'->FR w' G' n F' a'->Yj w' G' h'->YO w G h w' G' h'->Q .normal a' w')->wpList P ops Q l a w
section
variable {P:Program} {n:Nat} {ops:Array Oper} {B:Fr->List Res->Prop} {l:List Oper} {F:Fr} {h:List Res} {A:Ws} {c:Code}
theorem Z38 (hB:B F h):TO P n ops B [] F h:=fun _ w G a hF hh hk=>hk F h G a w hB hF hh (YO.refl _ _ _)
def Qh (ops:Array Oper) (F:Fr) (o:Oper):Option Bool:=
 match o.guard with
 | none=>some true
 | some (j,want)=>match (ops[j]?).bind (·.dst) with
  | none=>none
  | some t=>match F.get t with
   | .val (.bool b)=>some (b==want)
   | .tup []=>some false
   | _=>none
theorem B0 {w:World} {G:ZY} {a:Act} {o:Oper} {b:Bool} (hF:FR w G n F a) (hlt:(match o.guard with|none=>true|some (j,_)=>match (ops[j]?).bind (·.dst) with|some t=>Nat.blt t n|none=>true)=true)
  (hg:Qh ops F o=some b):Region.wanted o (yielded ops a.tmps)=b:=by
 unfold Qh at hg
 unfold Region.wanted
 cases hq:o.guard with
 | none=>simp [hq] at hg;simp [hg]
 | some jw=>
  obtain ⟨j,want⟩:=jw
  simp only [hq] at hg hlt ⊢
  cases ht:(ops[j]?).bind (·.dst) with
  | none=>simp [ht] at hg
  | some t=>
   simp only [ht] at hg hlt
   have hlt':t<n:=by simpa using hlt
   have hv:=hF.get t
   have hget:a.tmps[t]? = some (a.tmps.getD t undef):=by
    have:t<a.tmps.size:=by rw [hF.size];exact hlt'
    simp [Array.getD,this]
   unfold yielded
   simp only [ht,Option.bind_some,hget]
   split at hg
   ·rename_i b' hb
    rw [hb] at hv
    have hv:=hv.val_inv
    cases hg
    rw [hv]
    cases b'<;>cases want<;>rfl
   ·rename_i hb
    rw [hb] at hv
    cases hg
    generalize a.tmps.getD t undef=u at hv
    cases hv with
    | tup hc=>cases hc;cases want<;>rfl
   ·cases hg
def KN (n:Nat) (ops:Array Oper) (o:Oper):Bool:=
 match o.guard with|none=>true|some (j,_)=>match (ops[j]?).bind (·.dst) with|some t=>Nat.blt t n|none=>true
def Tk (P:Program) (n:Nat) (ops:Array Oper) (h:List Res):Nat->List Oper->Fr->List Nat->Option (List Oper × Fr × List (Nat × Nat))
 | 0,l,F,_=>some (l,F,[])
 | _+1,[],_,_=>none
 | k+1,o::l,F,hints=>
  match WV n o&&KN n ops o with
  | false=>none
  | true=>match Qh ops F o with
   | none=>none
   | some false=>Tk P n ops h k l (F.put o.dst (.tup [])) hints
   | some true=>match Ty P o F h (hints.headD 0) with
    | none=>none
    | some (x,eqs)=>match Tk P n ops h k l (F.put o.dst x) (match eqs with | []=>hints | _=>hints.tail) with
     | none=>none
     | some (l',F',es)=>some (l',F',eqs++es)
theorem Z6n {o:Oper} {Q:Exit->Act->World->Prop} {a:Act} {w:World} (hw:Region.wanted o (yielded ops a.tmps)=false)
  (hk:wpList P ops Q l (a.put o.dst undef) w):wpList P ops Q (o::l) a w:=by
 unfold wpList
 rw [Zp (by simp [hw])]
 exact hk
theorem Gh:∀(k:Nat) {l:List Oper} {F:Fr} {hints:List Nat} {l':List Oper} {F':Fr} {eqs:List (Nat × Nat)},Tk P n ops h k l F hints=some (l',F',eqs) ->
  (∀p∈eqs,p.1=p.2)->TO P n ops B l' F' h->TO P n ops B l F h
 | 0,l,F,hints,l',F',eqs,he,_,hs=>by
  simp only [Tk,XQ,Prod.mk.injEq] at he
  obtain ⟨rfl,rfl,rfl⟩:=he
  exact hs
 | k+1,[],F,hints,l',F',eqs,he,_,hs=>by simp [Tk] at he
 | k+1,o::l,F,hints,l',F',eqs,he,heq,hs=>by
  simp only [Tk] at he
  cases hd:WV n o&&KN n ops o with
  | false=>rw [hd] at he;cases he
  | true=>
   rw [hd] at he
   simp only [Wn] at hd
   simp only at he
   cases hg:Qh ops F o with
   | none=>rw [hg] at he;cases he
   | some b=>
    rw [hg] at he
    cases b with
    | false=>
     simp only at he
     have ih:=Gh k he heq hs
     intro Q w G a hF hh hk
     have hw:=B0 hF hd.2 hg
     exact Z6n hw (ih Q w G _ (hF.put (Ux hd.1) (.tup (cs:=[]) .nil)) hh hk)
    | true=>
     simp only at he
     cases hev:Ty P o F h (hints.headD 0) with
     | none=>rw [hev] at he;cases he
     | some xe=>
      obtain ⟨x,es⟩:=xe
      rw [hev] at he
      simp only at he
      generalize hhint:(match es with|[]=>hints|_=>hints.tail)=hints' at he
      cases hr:Tk P n ops h k l (F.put o.dst x) hints' with
      | none=>rw [hr] at he;cases he
      | some y=>
       obtain ⟨l2,F2,es2⟩:=y
       rw [hr] at he
       simp only [XQ,Prod.mk.injEq] at he
       obtain ⟨rfl,rfl,rfl⟩:=he
       have ih:=Gh k hr (fun p hp=>heq p (YU.2 (.inr hp))) hs
       have hst:=BI hev (fun p hp=>heq p (YU.2 (.inl hp)))
       intro Q w G a hF hh hk
       have hw:=B0 hF hd.2 hg
       obtain ⟨v,hv,hrun⟩:=hst n w G a hF hh
       unfold wpList
       rw [Zw hw]
       refine .inl ?_
       unfold Oper.wp
       rw [hrun w (fun _ _ _=>rfl) (fun _ _=>rfl)]
       exact ih Q w G _ (hF.put (Ux hd.1) hv) hh hk
theorem Z39 {o:Oper} (hg:Qh ops F o=some true) (hlt:KN n ops o=true) (ho:Wc P n o F h fun F' h'=>TO P n ops B l F' h'):TO P n ops B (o::l) F h:=by
 intro Q w G a hF hh hk
 have hw:=B0 hF hlt hg
 unfold wpList
 rw [Zw hw]
 refine .inl (Oper.wp_mono ?_ (ho Q w G a hF hh))
 intro a' w' ⟨F',h',G',h1,h2,h3,h4⟩
 exact h1 Q w' G' a' h2 h3 fun F2 h2' G2 a2 w2 b1 b2 b3 b4=>hk F2 h2' G2 a2 w2 b1 b2 b3 (h4.trans b4)
theorem Fr.Le.refl (F:Fr):F.Le F:=fun _ _ _ _ h=>h
def Ze (x y:AV):Prop:=∀w G v,RV w G x v->RV w G y v
theorem Ze.refl (x:AV):Ze x x:=fun _ _ _ h=>h
theorem Ze.any (x:AV):Ze x .any:=fun _ _ _ _=>.any
theorem Ze.forget (es:List AV) (hv:Option Value):Ze (.sl es hv) (.sl es none):=fun _ _ _ h=>h.forget
theorem R7 (F:Fr):F.Le []:=fun _ _ _ _ _=>.any
theorem AW {F F':Fr} {t:Nat} {x y:AV} (hx:F.get t=x) (hxy:Ze x y) (hr:F.Le F'):F.Le ((t,y)::F'):=by
 intro w G v s hv
 show RV w G (match Nat.beq t s with|true=>y|false=>Fr.get F' s) v
 cases hb:Nat.beq t s with
 | true=>
  have:=VW hb
  subst this
  rw [hx] at hv
  exact hxy _ _ _ hv
 | false=>exact hr w G v s hv
theorem Ze.sl {es es':List AV} (hv:Option Value) (h:es=es'):Ze (.sl es hv) (.sl es' none):=h▸Ze.forget es hv
theorem Ze.slh {es es':List AV} (hv:Option Value) (h:es=es'):Ze (.sl es hv) (.sl es' hv):=h▸Ze.refl _
theorem Ze.i {a b:Int} (h:a=b):Ze (.val (.int .i64 a)) (.val (.int .i64 b)):=h▸Ze.refl _
theorem Ze.b {a b:Bool} (h:a=b):Ze (.val (.bool a)) (.val (.bool b)):=h▸Ze.refl _
inductive V2:List AV->List AV->Prop
 | nil:V2 [] []
 | cons {x y:AV} {xs ys:List AV} (h:Ze x y) (t:V2 xs ys):V2 (x::xs) (y::ys)
theorem V2.refl:∀(xs:List AV),V2 xs xs
 | []=>.nil
 | x::xs=>.cons (Ze.refl x) (V2.refl xs)
theorem V2.cs {w:World} {G:ZY}:∀{xs ys:List AV} {vs:List Value},V2 xs ys->Yz w G xs vs->Yz w G ys vs
 | _,_,_,.nil,.nil=>.nil
 | _,_,_,.cons h t,.cons a b=>.cons (h _ _ _ a) (t.cs b)
theorem V2.mem {w:World} {G:ZY}:∀{xs ys:List AV} {b o:Nat},V2 xs ys->XY w G b o xs->XY w G b o ys
 | _,_,_,_,.nil,.nil=>.nil
 | _,_,_,_,.cons h t,.cons a1 a2 a3 a4=>.cons a1 a2 (h _ _ _ a3) (t.mem a4)
theorem Ze.agg {xs ys:List AV} (h:V2 xs ys):Ze (.agg xs) (.agg ys):=fun _ _ _ hv=>by
 cases hv with
 | agg hc=>exact .agg (h.cs hc)
theorem Ze.tup {xs ys:List AV} (h:V2 xs ys):Ze (.tup xs) (.tup ys):=fun _ _ _ hv=>by
 cases hv with
 | tup hc=>exact .tup (h.cs hc)
theorem Ze.rp {xs ys:List AV} (h:V2 xs ys):Ze (.rp xs) (.rp ys):=fun _ _ _ hv=>by
 cases hv with
 | rp hc=>exact .rp (h.mem hc)
mutual
def AV.like:AV->AV->AV
 | .sl es hv,y=>match y with | .sl _ none=>.sl es none | _=>.sl es hv
 | .agg ls,y=>match y with | .agg ms=>.agg (Jv ls ms) | _=>.agg ls
 | .rp ls,y=>match y with | .rp ms=>.rp (Jv ls ms) | _=>.rp ls
 | .tup ls,y=>match y with | .tup ms=>.tup (Jv ls ms) | _=>.tup ls
 | .any,_=>.any
 | .val v,y=>match y with | .any=>.any | _=>.val v
def Jv:List AV->List AV->List AV
 | [],_=>[]
 | x::xs,ys=>match ys with | y::ys=>x.like y::Jv xs ys | []=>x::xs
end
mutual
theorem AV.like_le:∀(x y:AV),Ze x (x.like y)
 | .sl es hv,y=>by
  cases y with
  | sl es' hv'=>cases hv'<;>simp only [AV.like]<;>first | exact Ze.forget es hv | exact Ze.refl _
  | _=>simp only [AV.like];exact Ze.refl _
 | .agg ls,y=>by
  cases y with
  | agg ms=>simp only [AV.like];exact Ze.agg (Dw ls ms)
  | _=>simp only [AV.like];exact Ze.refl _
 | .rp ls,y=>by
  cases y with
  | rp ms=>simp only [AV.like];exact Ze.rp (Dw ls ms)
  | _=>simp only [AV.like];exact Ze.refl _
 | .tup ls,y=>by
  cases y with
  | tup ms=>simp only [AV.like];exact Ze.tup (Dw ls ms)
  | _=>simp only [AV.like];exact Ze.refl _
 | .any,y=>by simp only [AV.like];exact Ze.refl _
 | .val v,y=>by
  cases y with
  | any=>simp only [AV.like];exact Ze.any _
  | _=>simp only [AV.like];exact Ze.refl _
theorem Dw:∀(xs ys:List AV),V2 xs (Jv xs ys)
 | [],ys=>by simp only [Jv];exact .nil
 | x::xs,ys=>by
  cases ys with
  | nil=>simp only [Jv];exact V2.refl _
  | cons y ys=>simp only [Jv];exact .cons (AV.like_le x y) (Dw xs ys)
end
theorem I3 {F F':Fr} (h:F'.map (fun p=>(F.get p.1).like p.2)=F'.map (·.2)):F.Le F':=by
 induction F' with
 | nil=>exact R7 F
 | cons p r ih=>
  simp only [Uf,List.cons.injEq] at h
  refine AW rfl ?_ (ih h.2)
  have:=AV.like_le (F.get p.1) p.2
  rwa [h.1] at this
structure Uj (F:Fr) (h:List Res) (F':Fr) (h':List Res):Prop where
 fr:F.Le F'
 res:∃d,h.Perm (h'++d)
theorem Yj.weak {w:World} {G:ZY} {h':List Res} (hh:Yj w G h) (hw:∃d,h.Perm (h'++d)):Yj w G h':=by
 obtain ⟨d,hp⟩:=hw
 exact (hh.perm hp).left
theorem YO.weak_left {w w':World} {G G':ZY} {h' k:List Res} (hw:∃d,h.Perm (h'++d)) (e:YO w G h' w' G' k):YO w G h w' G' k:=by
 obtain ⟨d,hp⟩:=hw
 have hs:∀b o,WG h' b o->WG h b o:=fun b o hf=>(A6 hp).2 (Jo.2 (.inl hf))
 exact ⟨e.os,e.tape,e.output,e.size,e.sub,fun b hb=>(e.same b hb).mono fun _ ho=>hs _ _ ho,fun b o hb hg=>(e.newG b o hb hg).imp id (hs b o),fun b o hb hf=>hs b o (e.newfp b o hb hf)⟩
theorem AB {F':Fr} {h':List Res} (hw:Uj F h F' h') (ha:Yi P n c A F' h'):Yi P n c A F h:=by
 intro w G a hF hh
 refine wp_mono (ha w G a (hF.le hw.fr) (hh.weak hw.res)) ?_
 intro e a' w' ⟨F2,h2,G2,b1,b2,b3,b4⟩
 exact ⟨F2,h2,G2,b1,b2,b3,b4.weak_left hw.res⟩
theorem DQ {F':Fr} {h':List Res} (hw:Uj F h F' h') (ha:TO P n ops B l F' h'):TO P n ops B l F h:=by
 intro Q w G a hF hh hk
 exact ha Q w G a (hF.le hw.fr) (hh.weak hw.res) fun F2 h2 G2 a2 w2 b1 b2 b3 b4=>hk F2 h2 G2 a2 w2 b1 b2 b3 (b4.weak_left hw.res)
theorem H0 {A':Ws} (hA:∀e F h,A e F h->A' e F h) (ha:Yi P n c A F h):Yi P n c A' F h:=by
 intro w G a hF hh
 exact wp_mono (ha w G a hF hh) fun e a' w' hc=>hc.mono hA
@[reducible] def JI (P:Program) (n:Nat) (y:Code) (A:Ws):Ws:=fun e F h=>
 match e with
 | .normal=>Yi P n y A F h
 | e=>A e F h
@[reducible] def CG (id:Nat) (A:Ws):Ws:=fun e F h=>
 match e with
 | .exit i=>match Nat.beq i id with
  | true=>A .normal F h
  | false=>A (.exit i) F h
 | e=>A e F h
@[reducible] def FQ (Inv:Nat->Fr->List Res->Prop) (m:Nat) (A:Ws):Ws:=fun e F h=>
 match e with
 | .normal=>∃m' F' h',m'<m/\Inv m' F' h'/\Uj F h F' h'
 | e=>A e F h
theorem Eo (hk:YV c=3) (ha:Yi P n (Yv c) (JI P n (V3 c) A) F h):Yi P n c A F h:=by
 rw [OB hk]
 intro w G a hF hh
 refine wp_seq (wp_mono (ha w G a hF hh) ?_)
 intro e a' w' ⟨F',h',G',h1,h2,h3,h4⟩
 cases e with
 | normal=>exact wp_mono (h1 w' G' a' h2 h3) fun e a2 w2 hc=>hc.trans h4
 | exit id=>exact ⟨F',h',G',h1,h2,h3,h4⟩
 | goto l=>exact ⟨F',h',G',h1,h2,h3,h4⟩
 | ret=>exact ⟨F',h',G',h1,h2,h3,h4⟩
 | panic ch=>exact ⟨F',h',G',h1,h2,h3,h4⟩
 | outgrown=>exact ⟨F',h',G',h1,h2,h3,h4⟩
theorem H1 (hk:YV c=1) (hs:TO P n (Xl c) (A .normal) (Xl c).toList F h):Yi P n c A F h:=by
 rw [Oz hk]
 intro w G a hF hh
 exact wp_region_list (hs _ w G a hF hh fun F' h' G' a' w' b1 b2 b3 b4=>⟨F',h',G',b1,b2,b3,b4⟩)
theorem NS (hk:YV c=3) (hk1:YV (Yv c)=1) (hs:TO P n (Xl (Yv c)) (fun F h=>Yi P n (V3 c) A F h) (Xl (Yv c)).toList F h):Yi P n c A F h:=
 Eo hk (H1 hk1 hs)
theorem NW (hk:YV c=0) (h0:A .normal F h):Yi P n c A F h:=by
 rw [Oy hk]
 intro w G a hF hh
 exact wp_skip ⟨F,h,G,h0,hF,hh,YO.refl _ _ _⟩
theorem NQ (id:Nat) (hk:YV c=7) (hi:TR c=id) (h0:A (.exit id) F h):Yi P n c A F h:=by
 subst hi
 rw [OF hk]
 intro w G a hF hh
 exact wp_exit ⟨F,h,G,h0,hF,hh,YO.refl _ _ _⟩
theorem NU (hk:YV c=8) (h0:A .ret F h):Yi P n c A F h:=by
 rw [OG hk]
 intro w G a hF hh
 exact wp_ret ⟨F,h,G,h0,hF,hh,YO.refl _ _ _⟩
theorem Em {b:Bool} {p:Prop} (hk:YV c=4) (hc:F.ev (Ku c)=.val (.bool b)) (hp:b=true↔p) (h1:p->Yi P n (Yv c) A F h) (h2:¬p->Yi P n (V3 c) A F h) :
  Yi P n c A F h:=by
 rw [OC hk]
 intro w G a hF hh
 have hv:=hF.ev (Ku c)
 rw [hc] at hv
 exact wp_cond_split hv.val_inv (fun e=>h1 (hp.1 e) w G a hF hh) fun e=>h2 (fun q=>by have:=hp.2 q;rw [e] at this;cases this) w G a hF hh
theorem NN (id:Nat) (hk:YV c=5) (hi:TR c=id) (ha:Yi P n (Yv c) (CG id A) F h):Yi P n c A F h:=by
 subst hi
 rw [OD hk]
 intro w G a hF hh
 refine wp_block (wp_mono (ha w G a hF hh) ?_)
 intro e a' w' ⟨F',h',G',h1,h2,h3,h4⟩
 cases e with
 | normal=>exact ⟨F',h',G',h1,h2,h3,h4⟩
 | exit id=>
  simp only [Exit.inBlock]
  by_cases hid:id=TR c
  ·subst hid
   rw [Zw rfl]
   have hb:Nat.beq (TR c) (TR c)=true:=Nat.beq_refl _
   simp only [CG,hb] at h1
   exact ⟨F',h',G',h1,h2,h3,h4⟩
  ·rw [Zp hid]
   have hb:Nat.beq id (TR c)=false:=by
    cases hq:Nat.beq id (TR c)
    ·rfl
    ·exact absurd (VW hq) hid
   simp only [CG,hb] at h1
   exact ⟨F',h',G',h1,h2,h3,h4⟩
 | goto l=>exact ⟨F',h',G',h1,h2,h3,h4⟩
 | ret=>exact ⟨F',h',G',h1,h2,h3,h4⟩
 | panic ch=>exact ⟨F',h',G',h1,h2,h3,h4⟩
 | outgrown=>exact ⟨F',h',G',h1,h2,h3,h4⟩
theorem C2 (p:Nat->Prop) (h:∃n,p n):∃n,p n/\∀m,p m->n<=m:=by
 obtain ⟨k,hk⟩:=h
 induction k using Nat.strongRecOn with
 | _ k ih=>
  by_cases hx:∃m,m<k/\p m
  ·obtain ⟨m,h1,h2⟩:=hx
   exact ih m h1 h2
  ·refine ⟨k,hk,fun m hm=>?_⟩
   rcases J8 m k with h|h
   ·exact absurd ⟨m,h,hm⟩ hx
   ·exact h
open Classical in
theorem NR (Inv:Nat->Fr->List Res->Prop) {m0:Nat} {F0:Fr} {h0:List Res} (hk:YV c=6) (hi:Inv m0 F0 h0) (hw:Uj F h F0 h0)
  (hr:∀m F h,Inv m F h->Yi P n (Yv c) (FQ Inv m A) F h):Yi P n c A F h:=by
 refine AB hw ?_
 rw [OE hk]
 intro w G a hF hh
 let J:Nat->Act->World->Prop:=fun m a' w'=>∃F' h' G',Inv m F' h'/\FR w' G' n F' a'/\Yj w' G' h'/\YO w G h0 w' G' h'
 let mu:Act->World->Nat:=fun a' w'=>if hx:∃m,J m a' w' then Classical.choose (C2 (fun m=>J m a' w') hx) else 0
 refine wp_loop (fun a' w'=>∃m,J m a' w') mu ⟨m0,F0,h0,G,hi,hF,hh,YO.refl _ _ _⟩ ?_
 intro a1 w1 hx
 have hsp:=Classical.choose_spec (C2 (fun m=>J m a1 w1) hx)
 have hmu:mu a1 w1=Classical.choose (C2 (fun m=>J m a1 w1) hx):=dif_pos hx
 rw [<-hmu] at hsp
 obtain ⟨⟨F1,h1,G1,i1,i2,i3,i4⟩,_⟩:=hsp
 refine wp_mono (hr _ F1 h1 i1 w1 G1 a1 i2 i3) ?_
 intro e a' w' ⟨F',h',G',k1,k2,k3,k4⟩
 have keep:∀{e},A e F' h'->Ko n A w G h0 e a' w':=fun hA=>⟨F',h',G',hA,k2,k3,i4.trans k4⟩
 cases e with
 | normal=>
  obtain ⟨m',F2,h2,j1,j2,j3⟩:=k1
  have hj:J m' a' w':=by
   refine ⟨F2,h2,G',j2,k2.le j3.fr,k3.weak j3.res,i4.trans ?_⟩
   obtain ⟨d,hp⟩:=j3.res
   have hsub:∀b o,WG h2 b o->WG h' b o:=fun b o hf=>(A6 hp).2 (Jo.2 (.inl hf))
   exact ⟨k4.os,k4.tape,k4.output,k4.size,k4.sub,k4.same,k4.newG,fun b o hb hf=>k4.newfp b o hb (hsub b o hf)⟩
  have hx':∃m,J m a' w':=⟨m',hj⟩
  refine ⟨hx',?_⟩
  show mu a' w'<mu a1 w1
  have hsp':=Classical.choose_spec (C2 (fun m=>J m a' w') hx')
  rw [show mu a' w'=Classical.choose (C2 (fun m=>J m a' w') hx') from dif_pos hx']
  exact Nat.lt_of_le_of_lt (hsp'.2 m' hj) j1
 | exit id=>exact keep k1
 | goto l=>exact keep k1
 | ret=>exact keep k1
 | panic ch=>exact keep k1
 | outgrown=>exact keep k1
end
def JS:Nat->List AV->Fr
 | _,[]=>[]
 | i,x::xs=>(i,x)::JS (i+1) xs
theorem H3 {w:World} {G:ZY}:∀{xs:List AV} {vs:List Value} (i t:Nat) (tl:List Value),Yz w G xs vs->RV w G ((JS i xs).get (i+t)) ((vs++tl).getD t undef)
 | _,_,i,t,tl,.nil=>.any
 | _,_,i,0,tl,.cons (x:=x) (xs:=xs) h hr=>by
  show RV w G (match Nat.beq i (i+0) with|true=>x|false=>Fr.get (JS (i+1) xs) (i+0)) _
  have:Nat.beq i (i+0)=true:=Nat.beq_refl i
  rw [this]
  simpa using h
 | _,_,i,t+1,tl,.cons (x:=x) (xs:=xs) h hr=>by
  show RV w G (match Nat.beq i (i+(t+1)) with|true=>x|false=>Fr.get (JS (i+1) xs) (i+(t+1))) _
  have hb:Nat.beq i (i+(t+1))=false:=by
   cases hq:Nat.beq i (i+(t+1))
   ·rfl
   ·have:=VW hq;omega
  rw [hb]
  have:=H3 (i+1) t tl hr
  rw [show i+1+t=i+(t+1) from by omega] at this
  simpa using this
def TG (P:Program) (F:Fr) (h:List Res):List ResultVar->List Nat->Option (List AV × List (Nat × Nat))
 | [],_=>some ([],[])
 | .tmp t::r,hints=>match TG P F h r hints with
  | some (xs,es)=>some (F.get t::xs,es)
  | none=>none
 | .cell t ty::r,hints=>match F.get t with
  | .val (.pointer (some ⟨b,o,none⟩))=>match h[hints.headD 0]? with
   | some (.obj b' ls)=>match KV P ty (ls.drop o) with
    | some x=>match TG P F h r hints.tail with
     | some (xs,es)=>some (x::xs,(b,b')::es)
     | none=>none
    | none=>none
   | _=>none
  | _=>none
def J0:List AV->AV
 | [x]=>x
 | xs=>.tup xs
theorem Oj (a:Addr):asAddr (.pointer (some a))=pure a:=rfl
theorem G6 {P:Program} {w:World} {G:ZY} {n:Nat} {F:Fr} {h:List Res} {a:Act} (hF:FR w G n F a) (hh:Yj w G h) :
  ∀{rs:List ResultVar} {hints:List Nat} {xs:List AV} {es:List (Nat × Nat)},TG P F h rs hints=some (xs,es)->(∀p∈es,p.1=p.2) ->
  ∃vs,Yz w G xs vs/\(List.mapM (m:=Sem) (fun r=>match r with|.tmp t=>pure (a.tmps.getD t undef)|.cell b t=>do loadVar t (<-asAddr (a.tmps.getD b undef))) rs).run P w=.ok vs w
 | [],hints,xs,es,he,_=>by
  simp only [TG,XQ,Prod.mk.injEq] at he
  obtain ⟨rfl,rfl⟩:=he
  exact ⟨[],.nil,by simp⟩
 | .tmp t::r,hints,xs,es,he,heq=>by
  simp only [TG] at he
  cases hr:TG P F h r hints with
  | none=>rw [hr] at he;cases he
  | some y=>
   obtain ⟨ys,es2⟩:=y
   rw [hr] at he
   simp only [XQ,Prod.mk.injEq] at he
   obtain ⟨rfl,rfl⟩:=he
   obtain ⟨vs,h1,h2⟩:=G6 hF hh hr heq
   refine ⟨a.tmps.getD t undef::vs,.cons (hF.get t) h1,?_⟩
   simp only [List.mapM_cons,Sem.run_bind,Sem.run_pure,Result.andThen_ok,h2]
 | .cell t ty::r,hints,xs,es,he,heq=>by
  simp only [TG] at he
  split at he
  ·rename_i b off hg
   split at he
   ·rename_i b' ls hl
    split at he
    ·rename_i x hx
     split at he
     ·rename_i ys es2 hr
      simp only [XQ,Prod.mk.injEq] at he
      obtain ⟨rfl,rfl⟩:=he
      have hbb:b=b':=heq (b,b') (by simp)
      subst hbb
      obtain ⟨vs,h1,h2⟩:=G6 hF hh hr fun p hp=>heq p (by simp [hp])
      have hv:=hF.get t
      rw [hg] at hv
      have hv:=hv.val_inv
      obtain ⟨cs,e,k1,k2⟩:=hh.ok _ (ZW hl)
      obtain ⟨v,j1,j2⟩:=DO (P:=P) (b:=b) (o:=off) hx (k2.drop off)
      have j3:=j2 w fun j u hj=>by
       rw [cell_of_row w b (off+j) cs e (0,0) k1]
       simpa using hj
      refine ⟨v::vs,.cons j1 h1,?_⟩
      simp only [List.mapM_cons,Sem.run_bind,Sem.run_pure,Result.andThen_ok,hv,Oj,j3,h2]
     ·cases he
    ·cases he
   ·cases he
  ·cases he
def Jd (P:Program) (fn:Func) (R:AV->List Res->Prop):Ws:=fun e F h=>
 (e=.normal∨e=.ret)/\∃hints xs es h' r,TG P F h fn.results.toList hints=some (xs,es)/\(∀p∈es,p.1=p.2)/\(∃d,h.Perm (h'++d))/\Ze (J0 xs) r/\R r h'
theorem G3 {P:Program} {fn:Func} {R:AV->List Res->Prop} {F:Fr} {h h':List Res} {e:Exit} (he:(match e with|.normal|.ret=>true|_=>false)=true) (hints:List Nat) {xs:List AV}
  {es:List (Nat × Nat)} {r:AV} (hr:TG P F h fn.results.toList hints=some (xs,es)) (heq:∀p∈es,p.1=p.2) (hw:∃d,h.Perm (h'++d)) (hle:Ze (J0 xs) r) (hR:R r h'):Jd P fn R e F h:=
 ⟨by cases e<;>first|exact .inl rfl|exact .inr rfl|(cases he),hints,xs,es,h',r,hr,heq,hw,hle,hR⟩
theorem Z2f {P:Program} {fn:Func} {tmps:Array Value} {w:World} {vs:List Value}
  (h:(List.mapM (m:=Sem) (fun r=>match r with|.tmp t=>pure (tmps.getD t undef)|.cell b t=>do loadVar t (<-asAddr (tmps.getD b undef))) fn.results.toList).run P w=.ok vs w) :
  (results fn tmps).run P w=.ok (if h:vs.toArray.size=1 then vs.toArray[0] else .tuple vs.toArray) w:=by
 unfold results
 rw [Array.mapM_eq_mapM_toList]
 simp only [Sem.run_bind,Sem.run_map,Sem.run_pure]
 exact Ys (fun r=>(Result.andThen (Result.andThen r fun a w'=>Result.ok a.toArray w') fun a w'=>Result.ok (if h:a.size=1 then a[0] else Value.tuple a) w')) h
theorem enter {P:Program} {f:FuncId} {fn:Func} {xs:List AV} {h:List Res} {R:AV->List Res->Prop} {n:Nat} (hf:P.funcs[f]? = some fn) (hb:fn.body.isSome=true) (hn:fn.ntmps=n)
  (hle:Nat.ble xs.length n=true) (ha:Yi P n (CK fn) (Jd P fn R) (JS 0 xs) h):W3 P f xs h R:=by
 intro w G vs hvs hh
 have hbody:fn.body=some (CK fn):=by
  unfold CK
  cases hq:fn.body with
  | none=>simp [hq] at hb
  | some c=>rfl
 have hlen:=hvs.length
 have hle:=Wx hle
 refine calls_of_wp hf hbody ?_
 have hF:FR w G n (JS 0 xs) { tmps:=vs.toArray++Array.replicate (fn.ntmps-vs.toArray.size) undef,defers:=[] }:=by
  refine ⟨rfl,by simp [hn,hlen];omega,fun t=>?_⟩
  have:=H3 (w:=w) (G:=G) 0 t (List.replicate (fn.ntmps-vs.toArray.size) undef) hvs
  rw [Wv] at this
  have e:(vs.toArray++Array.replicate (fn.ntmps-vs.toArray.size) undef).getD t undef=(vs++List.replicate (fn.ntmps-vs.toArray.size) undef).getD t undef:=by
   simp [Array.getElem?_append,List.getElem?_append,List.getElem?_replicate,Array.getElem?_replicate]
  rw [e]
  exact this
 refine wp_mono (ha w G _ hF hh) ?_
 intro e a w' ⟨F',h',G',hA,k1,k2,k3⟩
 obtain ⟨he,hints,ys,es,h2,r,hr,heq,hwk,hle,hR⟩:=hA
 obtain ⟨us,u1,u2⟩:=G6 k1 k2 hr heq
 have hres:=Z2f u2
 have hval:RV w' G' (J0 ys) (if h:us.toArray.size=1 then us.toArray[0] else .tuple us.toArray):=by
  cases u1 with
  | nil=>simp [J0];exact .tup (cs:=[]) .nil
  | cons a1 a2=>
   cases a2 with
   | nil=>simpa [J0] using a1
   | cons b1 b2=>simpa [J0] using RV.tup (.cons a1 (.cons b1 b2))
 obtain ⟨d,hp⟩:=hwk
 have k2':=(k2.perm hp).left
 have k3':YO w G h w' G' h2:=(k3.perm (T3 _) hp).sub' (List.sublist_append_left _ _)
 rcases he with rfl|rfl
 ·exact ⟨k1.defers,_,hres,_,_,h2,G',rfl,hR,hle _ _ _ hval,k2',k3'⟩
 ·exact ⟨k1.defers,_,hres,_,_,h2,G',rfl,hR,hle _ _ _ hval,k2',k3'⟩
def KF (ops:Array Oper) (j i:Nat):Bool:=
 match ops[j]? with
 | some o=>o.after.any fun e=>Region.binds .any e&&e.on==i
 | none=>false
inductive Q7 (ops:Array Oper):Nat->Nat->Prop
 | one {j i} (h:KF ops j i=true):Q7 ops j i
 | more {j m i} (h:KF ops j m=true) (t:Q7 ops m i):Q7 ops j i
def DG (ops:Array Oper):Nat->Nat->Nat->Bool
 | 0,j,i=>KF ops j i
 | f+1,j,i=>match ops[j]? with
  | some o=>o.after.any fun e=>Region.binds .any e&&(e.on==i||(Nat.ble i e.on&&DG ops f e.on i))
  | none=>false
def Wt (ops:Array Oper) (j i:Nat):Bool:=DG ops 9 j i
theorem HM {ops:Array Oper} {j:Nat} {o:Oper} {e:Edge} (ho:ops[j]? = some o) (he:e∈o.after) (hb:Region.binds .any e=true):KF ops j e.on=true:=by
 unfold KF
 rw [ho]
 simp only [Array.any_eq_true',Wn,Zz]
 exact ⟨e,he,hb,rfl⟩
theorem M5 {ops:Array Oper}:∀{f j i:Nat},DG ops f j i=true->Q7 ops j i
 | 0,j,i,h=>.one h
 | f+1,j,i,h=>by
  rw [DG] at h
  split at h
  ·rename_i o ho
   simp only [Array.any_eq_true',Wn,Bool.or_eq_true,Zz] at h
   obtain ⟨e,he,hb,h1|⟨_,h1⟩⟩:=h
   ·exact .one (h1▸HM ho he hb)
   ·exact .more (HM ho he hb) (M5 h1)
  ·cases h
theorem Om {ops:Array Oper} {j i:Nat} (h:Wt ops j i=true):Q7 ops j i:=M5 h
def Kn (ops:Array Oper) (listed:Array Bool):Prop:=∀m i,listed.getD m false=true->KF ops m i=true->listed.getD i false=true
theorem Kn.bef {ops:Array Oper} {listed:Array Bool} (hc:Kn ops listed) {j i:Nat} (hb:Q7 ops j i):listed.getD j false=true->listed.getD i false=true:=by
 induction hb with
 | one h=>exact fun hj=>hc _ _ hj h
 | more h _ ih=>exact fun hj=>ih (hc _ _ hj h)
theorem F5 {ops:Array Oper} {listed:Array Bool} {j i:Nat} (hj:j∈Region.ready .any ops listed) (h:KF ops j i=true):listed.getD i false=true:=by
 obtain ⟨_,o,ho,hall⟩:=mem_ready.1 hj
 simp only [KF,ho] at h
 obtain ⟨e,he,hb⟩:=Array.any_eq_true'.1 h
 simp only [Wn,Zz] at hb
 exact hb.2▸hall e he hb.1
theorem Z1c {ops:Array Oper} {listed:Array Bool} {j i:Nat} (hc:Kn ops listed) (hj:j∈Region.ready .any ops listed) (hi:listed.getD i true=false):¬Q7 ops j i:=by
 intro hb
 have hi':listed.getD i false=false:=by
  cases hq:listed.getD i false
  ·rfl
  ·rcases J8 i listed.size with h|h
   ·simp [h] at hi hq;rw [hi] at hq;cases hq
   ·simp [Array.getElem?_eq_none h] at hi
 have hl:listed.getD i false=true:=by
  cases hb with
  | one h=>exact F5 hj h
  | more h t=>exact hc.bef t (F5 hj h)
 rw [hi'] at hl
 cases hl
theorem Kn.add {ops:Array Oper} {listed:Array Bool} {j:Nat} (hc:Kn ops listed) (hj:j∈Region.ready .any ops listed):Kn ops (listed.setIfInBounds j true):=by
 intro m i hm he
 by_cases hmj:m=j
 ·subst hmj
  exact getD_set_true (F5 hj he)
 ·rw [getD_set_ne false (Ne.symm hmj)] at hm
  exact getD_set_true (hc m i hm he)
abbrev Bx:=Nat × (World->Prop)->Prop
def Av (P:Program) (ops:Array Oper) (Q:Exit->Act->World->Prop):Nat->Bx->Array Bool->Act->World->Prop
 | 0,_,listed,a,w=>Region.ready .any ops listed=[]/\Q .normal a w
 | fuel+1,T,listed,a,w=>
  (Region.ready .any ops listed=[]->Q .normal a w) /\
  ∀i∈Region.ready .any ops listed,wpOp P ops Q i (fun a' w'=>(∀p,T p->¬Q7 ops i p.1->p.2 w') /\
   Av P ops Q fuel (fun p=>T p/\¬Q7 ops i p.1) (listed.setIfInBounds i true) a' w') a w
section
variable {P:Program} {ops:Array Oper} {Q:Exit->Act->World->Prop} {S:World->Prop}
theorem NC:∀(fuel:Nat) (T:Bx) (listed:Array Bool) (a:Act) (w:World),Av P ops Q fuel T listed a w->wpAny P .any ops Q fuel listed a w
 | 0,_,_,_,_,h=>h
 | fuel+1,_,_,_,_,h=>⟨h.1,fun i hi=>wpOp_mono (fun _ _ h'=>NC fuel _ _ _ _ h'.2) (h.2 i hi)⟩
theorem GR:∀(fuel:Nat) {T T':Bx} (listed:Array Bool) (a:Act) (w:World),(∀p,T' p->T p)->Av P ops Q fuel T listed a w->Av P ops Q fuel T' listed a w
 | 0,_,_,_,_,_,_,h=>h
 | fuel+1,_,_,_,_,_,hT,h=>⟨h.1,fun i hi=>wpOp_mono (fun _ _ h'=>⟨fun p hp=>h'.1 p (hT p hp),GR fuel _ _ _ (fun p hp=>⟨hT p hp.1,hp.2⟩) h'.2⟩) (h.2 i hi)⟩
theorem Z6m {i:Nat} {oi:Oper} {v:Value} (hi:ops[i]? = some oi) (hsel:∀(j:Nat) (o:Oper) cs b,ops[j]? = some o->o.op≠.select cs b)
  (hQ:∀c a w,¬Q (.panic c) a w) :
  ∀(fuel:Nat) (T:Bx) (listed:Array Bool) (a:Act) (w:World),Kn ops listed ->
   (∀j oj,ops[j]? = some oj->j≠i->listed.getD j true=false->(∀e∈oj.after,Region.binds .any e=true->e.on≠i)->oi.apart ops oj=true) ->
   i∈Region.ready .any ops listed->YieldsIf P ops S oi v a->S w->(∀p,T p->p.2 w) ->
   Av P ops Q fuel (fun p=>T p∨p=(i,S)) (listed.setIfInBounds i true) (a.put oi.dst v) w->Av P ops Q (fuel+1) T listed a w:=by
 intro fuel
 have hQ':∀c a w,Q (.panic c) (a.put oi.dst v) w->Q (.panic c) a w:=fun c a w h=>(hQ c _ w h).elim
 induction fuel with
 | zero=>
  intro T listed a w _ hfree hr hy hS hT H
  refine ⟨fun h=>(by rw [h] at hr;cases hr),fun j hj=>?_⟩
  by_cases hji:j=i
  ·subst hji
   exact hy.wpOp hi hS ⟨fun p hp _=>hT p hp,H⟩
  ·have:=ready_mono hj hji
   rw [H.1] at this
   cases this
 | succ fuel ih=>
  intro T listed a w hcl hfree hr hy hS hT H
  refine ⟨fun h=>(by rw [h] at hr;cases hr),fun j hj=>?_⟩
  by_cases hji:j=i
  ·subst hji
   exact hy.wpOp hi hS ⟨fun p hp _=>hT p hp,GR (fuel+1) _ _ _ (fun p hp=>.inl hp.1) H⟩
  ·have h1:=H.2 j (ready_mono hj hji)
   obtain ⟨hjun,oj,hoj,hall⟩:=mem_ready.1 hj
   have hiun:=(mem_ready.1 hr).1
   have hnb:¬Q7 ops j i:=Z1c hcl hj hiun
   have hnot:∀e∈oj.after,Region.binds .any e=true->e.on≠i:=fun e he hb heq=>
    hnb (.one (by simp only [KF,hoj];exact Array.any_eq_true'.2 ⟨e,he,by simp [hb,heq]⟩))
   have h2:=wpOp_putIf hoj (hfree j oj hoj hji hjun hnot) (fun cs b=>hsel i oi cs b hi) (fun cs b=>hsel j oj cs b hoj) hQ' hy h1
   have hfree':∀k ok,ops[k]? = some ok->k≠i->(listed.setIfInBounds j true).getD k true=false ->
     (∀e∈ok.after,Region.binds .any e=true->e.on≠i)->oi.apart ops ok=true:=fun k ok hk hki hun Ft=>by
    refine hfree k ok hk hki ?_ Ft
    by_cases hjk:j=k
    ·subst hjk;exact hjun
    ·rw [getD_set_ne true hjk] at hun;exact hun
   refine wpOp_mono (fun a' w' h3=>?_) h2
   obtain ⟨hy',hT',hrest⟩:=h3
   have hTp:∀p,T p/\¬Q7 ops j p.1->p.2 w':=fun p hp=>hT' p (.inl hp.1) hp.2
   refine ⟨fun p hp hb=>hTp p ⟨hp,hb⟩,ih _ (listed.setIfInBounds j true) a' w' (hcl.add hj) hfree' (ready_mono hr (Ne.symm hji)) hy' (hT' (i,S) (.inr rfl) hnb) hTp ?_⟩
   rw [Array.setIfInBounds_comm _ _ hji]
   refine GR fuel _ _ _ (fun p hp=>?_) hrest
   rcases hp with hp|rfl
   ·exact ⟨.inl hp.1,hp.2⟩
   ·exact ⟨.inr rfl,hnb⟩
end
def Wf (ops:Array Oper) (done:List Nat):Array Bool:=done.foldl (fun l i=>l.setIfInBounds i true) (Array.replicate ops.size false)
theorem Dx (ops:Array Oper) (done:List Nat) (i:Nat):Wf ops (done++[i])=(Wf ops done).setIfInBounds i true:=by simp [Wf]
theorem OR (ops:Array Oper):Kn ops (Wf ops []):=by
 intro m i hm _
 simp only [Wf,List.foldl_nil] at hm
 by_cases h:m<ops.size
 ·simp [h] at hm
 ·simp [h] at hm
def YJ (P:Program) (n:Nat) (ops:Array Oper) (B:Fr->List Res->Prop) (T:List (Nat × List Nat)) (fuel:Nat) (done:List Nat) (F:Fr) (h:List Res):Prop:=
 ∀(Q:Exit->Act->World->Prop) w G a (SL:Bx),FR w G n F a->Yj w G h->(∀c a w,¬Q (.panic c) a w)->Kn ops (Wf ops done) ->
  (∀p,SL p->∃t∈T,t.1=p.1/\∀w',(∀b o,G b o->w'.cell? ⟨b,o,none⟩=w.cell? ⟨b,o,none⟩)->(∀b∈t.2,w'.heap[b]? = w.heap[b]?)->p.2 w') ->
  (∀F' h' G' a' w',B F' h'->FR w' G' n F' a'->Yj w' G' h'->YO w G h w' G' h'->Q .normal a' w')->Av P ops Q fuel SL (Wf ops done) a w
section
variable {P:Program} {n:Nat} {ops:Array Oper} {B:Fr->List Res->Prop} {T:List (Nat × List Nat)} {fuel:Nat} {done:List Nat} {F:Fr} {h:List Res}
theorem Pm (hr:Region.ready .any ops (Wf ops done)=[]) (hB:B F h):YJ P n ops B T fuel done F h:=by
 intro Q w G a SL hF hh _ _ _ hk
 have hq:=hk F h G a w hB hF hh (YO.refl _ _ _)
 cases fuel with
 | zero=>exact ⟨hr,hq⟩
 | succ f=>exact ⟨fun _=>hq,by rw [hr];simp⟩
def Qo (P:Program) (n:Nat) (ops:Array Oper) (h:List Res):List Nat->List Nat->Fr->List Nat->Option (Fr × List (Nat × List (Nat × Nat)))
 | [],_,F,_=>some (F,[])
 | i::is,done,F,hints=>
  match ops[i]? with
  | none=>none
  | some o=>
   match WV n o&&(KN n ops o&&(Region.free .any ops (Wf ops done) i&&(Region.ready .any ops (Wf ops done)).contains i)) with
   | false=>none
   | true=>match Qh ops F o with
    | none=>none
    | some false=>match Qo P n ops h is (done++[i]) (F.put o.dst (.tup [])) hints with
     | none=>none
     | some (F',es)=>some (F',(i,[])::es)
    | some true=>match Ty P o F h (hints.headD 0) with
     | none=>none
     | some (x,eqs)=>match Qo P n ops h is (done++[i]) (F.put o.dst x) (match eqs with | []=>hints | _=>hints.tail) with
      | none=>none
      | some (F',es)=>some (F',(i,eqs)::es)
def C8 (es:List (Nat × List (Nat × Nat))):List (Nat × List Nat):=es.map fun e=>(e.1,e.2.map (·.1))
theorem EI {i:Nat} {o:Oper} {ks:List Nat} {x:AV} (hs:Region.noSelect ops=true) (hi:ops[i]? = some o) (hd:WV n o=true) (hgl:KN n ops o=true)
  (hf:Region.free .any ops (Wf ops done) i=true) (hr:(Region.ready .any ops (Wf ops done)).contains i=true)
  (hx:(Qh ops F o=some false/\x=.tup []/\ks=[])∨(Qh ops F o=some true/\XP P o F h ks x))
  (H:YJ P n ops B ((i,ks)::T) fuel (done++[i]) (F.put o.dst x) h):YJ P n ops B T (fuel+1) done F h:=by
 intro Q w G a SL hF hh hQ hcl hcov hk
 have hready:i∈Region.ready .any ops (Wf ops done):=by simpa using hr
 let S:World->Prop:=fun w'=>(∀b o,G b o->w'.cell? ⟨b,o,none⟩=w.cell? ⟨b,o,none⟩)/\(∀b∈ks,w'.heap[b]? = w.heap[b]?)
 have hSL:∀p,SL p->p.2 w:=fun p hp=>by
  obtain ⟨t,_,_,h3⟩:=hcov p hp
  exact h3 w (fun _ _ _=>rfl) fun _ _=>rfl
 have key:∃v,RV w G x v/\YieldsIf P ops S o v a:=by
  rcases hx with ⟨hg,rfl,rfl⟩|⟨hg,hst⟩
  ·exact ⟨undef,.tup (cs:=[]) .nil,.inr ⟨B0 hF hgl hg,rfl⟩⟩
  ·obtain ⟨v,h1,h2⟩:=hst n w G a hF hh
   exact ⟨v,h1,.inl ⟨B0 hF hgl hg,fun w' hw'=>h2 w' hw'.1 hw'.2⟩⟩
 obtain ⟨v,hv,hy⟩:=key
 refine Z6m hi (Region.noSelect_spec hs) hQ fuel SL _ a w hcl (Region.free_spec hi hf) hready hy ⟨fun _ _ _=>rfl,fun _ _=>rfl⟩ hSL ?_
 rw [<-Dx]
 refine H Q w G _ _ (hF.put (Ux hd) hv) hh hQ (by rw [Dx];exact hcl.add hready) ?_ hk
 rintro p (hp|rfl)
 ·obtain ⟨t,h1,h2,h3⟩:=hcov p hp
  exact ⟨t,Xr _ h1,h2,h3⟩
 ·exact ⟨(i,ks),YZ ..,rfl,fun w' h1 h2=>⟨h1,h2⟩⟩
theorem EH:∀(is:List Nat) {T:List (Nat × List Nat)} {done:List Nat} {F F':Fr} {hints:List Nat} {es:List (Nat × List (Nat × Nat))} {fuel':Nat},Region.noSelect ops=true ->
  Qo P n ops h is done F hints=some (F',es)->(∀e∈es,∀p∈e.2,p.1=p.2)->fuel'=fuel+is.length ->
  YJ P n ops B ((C8 es).reverse++T) fuel (done++is) F' h->YJ P n ops B T fuel' done F h
 | [],T,done,F,F',hints,es,fuel',_,he,_,hf,H=>by
  simp only [Qo,XQ,Prod.mk.injEq] at he
  obtain ⟨rfl,rfl⟩:=he
  subst hf
  simpa [C8] using H
 | i::is,T,done,F,F',hints,es,fuel',hs,he,heq,hf,H=>by
  simp only [Qo] at he
  cases ho:ops[i]? with
  | none=>rw [ho] at he;cases he
  | some o=>
   rw [ho] at he
   simp only at he
   cases hc:WV n o&&(KN n ops o&&(Region.free .any ops (Wf ops done) i&&(Region.ready .any ops (Wf ops done)).contains i)) with
   | false=>rw [hc] at he;cases he
   | true=>
    rw [hc] at he
    simp only [Wn] at hc
    obtain ⟨c1,c2,c3,c4⟩:=hc
    simp only at he
    have hfuel:fuel'=fuel+is.length+1:=by simp at hf;omega
    subst hfuel
    cases hg:Qh ops F o with
    | none=>rw [hg] at he;cases he
    | some b=>
     rw [hg] at he
     cases b with
     | false=>
      simp only at he
      cases hr:Qo P n ops h is (done++[i]) (F.put o.dst (.tup [])) hints with
      | none=>rw [hr] at he;cases he
      | some y=>
       obtain ⟨F2,es2⟩:=y
       rw [hr] at he
       simp only [XQ,Prod.mk.injEq] at he
       obtain ⟨rfl,rfl⟩:=he
       refine EI hs ho c1 c2 c3 c4 (.inl ⟨hg,rfl,rfl⟩) (EH is hs hr (fun e he=>heq e (Xr _ he)) rfl ?_)
       simpa [C8] using H
     | true=>
      simp only at he
      cases hev:Ty P o F h (hints.headD 0) with
      | none=>rw [hev] at he;cases he
      | some xe=>
       obtain ⟨x,eqs⟩:=xe
       rw [hev] at he
       simp only at he
       generalize (match eqs with|[]=>hints|_=>hints.tail)=hints' at he
       cases hr:Qo P n ops h is (done++[i]) (F.put o.dst x) hints' with
       | none=>rw [hr] at he;cases he
       | some y=>
        obtain ⟨F2,es2⟩:=y
        rw [hr] at he
        simp only [XQ,Prod.mk.injEq] at he
        obtain ⟨rfl,rfl⟩:=he
        have hst:=BI hev (heq (i,eqs) (YZ ..))
        refine EI hs ho c1 c2 c3 c4 (.inr ⟨hg,hst⟩) (EH is hs hr (fun e he=>heq e (Xr _ he)) rfl ?_)
        simpa [C8] using H
def Wa:List Res->List Nat
 | []=>[]
 | .obj b _::r=>b::Wa r
 | .row (.slice (some a) _ _) _ _::r=>a.block::Wa r
 | _::r=>Wa r
theorem Lr {b:Nat}:∀{h:List Res},b∈Wa h->∃r∈h,∀o,r.fp b o
 | [],hb=>by simp [Wa] at hb
 | x::r,hb=>by
  have up:b∈Wa r->∃q∈x::r,∀o,q.fp b o:=fun hb=>by obtain ⟨l,hl,hf⟩:=Lr (h:=r) hb;exact ⟨l,Xr _ hl,hf⟩
  unfold Wa at hb
  split at hb
  ·rename_i he;cases he
  ·rename_i he
   cases he
   rcases Yr.1 hb with rfl|hb
   ·exact ⟨_,YZ ..,fun _=>rfl⟩
   ·exact up hb
  ·rename_i he
   cases he
   rcases Yr.1 hb with rfl|hb
   ·exact ⟨_,YZ ..,fun _=>rfl⟩
   ·exact up hb
  ·rename_i he
   cases he
   exact up hb
def WL (P:Program) (n:Nat) (ops:Array Oper) (B:Fr->List Res->Prop) (T:List (Nat × List Nat)) (fuel:Nat) (done:List Nat) (F:Fr) (h:List Res) (i:Nat):Prop:=
 ∃o h1 h2,ops[i]? = some o/\Qh ops F o=some true/\KN n ops o=true/\h.Perm (h1++h2) /\
  (∀t∈T,Wt ops i t.1=true∨∀b∈t.2,b∈Wa h2) /\
  Wc P n o F h1 fun F' h1'=>YJ P n ops B (T.filter fun t=>!Wt ops i t.1) fuel (done++[i]) F' (h1'++h2)
theorem HB {is:List Nat} (hr:Region.ready .any ops (Wf ops done)=is) (hne:is.isEmpty=false) (H:∀i∈is,WL P n ops B T fuel done F h i):YJ P n ops B T (fuel+1) done F h:=by
 intro Q w G a SL hF hh hQ hcl hcov hk
 refine ⟨fun h0=>(by rw [hr] at h0;subst h0;simp at hne),fun i hi=>?_⟩
 obtain ⟨o,h1,h2,ho,hg,hgl,hp,hT,hop⟩:=H i (hr▸hi)
 have hh':=hh.perm hp
 have hw:=B0 hF hgl hg
 unfold wpOp
 simp only [ho,hw,if_true]
 refine .inl (Oper.wp_mono ?_ (hop Q w G a hF hh'.left))
 intro a' w' ⟨F',h1',G',b1,b2,b3,b4⟩
 obtain ⟨j1,j2⟩:=hh'.frame b4 b3
 have hA:=b4.agree hh'.left
 have hsame:∀b∈Wa h2,w'.heap[b]? = w.heap[b]?:=fun b hb=>by
  obtain ⟨r,hl,hr⟩:=Lr hb
  exact (b4.same b ((hh'.ok r (YU.2 (.inr hl))).lt b 0 (hr 0))).eq fun o hf=>hh'.cross hf ⟨_,hl,hr o⟩
 have hcov':∀p,SL p/\¬Q7 ops i p.1->∃t∈T.filter fun t=>!Wt ops i t.1,t.1=p.1 /\
   ∀w'',(∀b o,G' b o->w''.cell? ⟨b,o,none⟩=w'.cell? ⟨b,o,none⟩)->(∀b∈t.2,w''.heap[b]? = w'.heap[b]?)->p.2 w'':=by
  rintro p ⟨hp,hb⟩
  obtain ⟨t,t1,t2,t3⟩:=hcov p hp
  have hbb:Wt ops i t.1=false:=by
   cases hq:Wt ops i t.1
   ·rfl
   ·exact absurd (t2▸Om hq) hb
  refine ⟨t,List.mem_filter.2 ⟨t1,by simp [hbb]⟩,t2,fun w'' c1 c2=>t3 w'' (fun b o hg=>(c1 b o (hA.sub b o hg)).trans (hA.cell b o hg)) fun b hb'=>?_⟩
  rcases hT t t1 with h|h
  ·rw [hbb] at h;cases h
  ·exact (c2 b hb').trans (hsame b (h b hb'))
 refine ⟨fun p hp hb=>?_,?_⟩
 ·obtain ⟨t,_,_,t3⟩:=hcov' p ⟨hp,hb⟩
  exact t3 w' (fun _ _ _=>rfl) fun _ _=>rfl
 ·rw [<-Dx]
  exact b1 Q w' G' a' _ b2 j1 hQ (by rw [Dx];exact hcl.add hi) hcov' fun F2 h2' G2 a2 w2 c1 c2 c3 c4=>hk F2 h2' G2 a2 w2 c1 c2 c3 ((j2.perm hp.symm (T3 _)).trans c4)
theorem Pp {i:Nat} (hr:Region.ready .any ops (Wf ops done)=[i]) (H:WL P n ops B T fuel done F h i):YJ P n ops B T (fuel+1) done F h:=
 HB hr rfl fun j hj=>by rw [Xp.1 hj];exact H
theorem EK {F':Fr} (hw:F.Le F') (H:YJ P n ops B T fuel done F' h):YJ P n ops B T fuel done F h:=by
 intro Q w G a SL hF hh hQ hcl hcov hk
 exact H Q w G a SL (hF.le hw) hh hQ hcl hcov hk
end
theorem H2 {P:Program} {n:Nat} {c:Code} {A:Ws} {F:Fr} {h:List Res} (hk:YV c=2) (hm:P.follows .mixedOrders=true) {k:Nat} (X6:(Xl c).size=k)
  (hs:YJ P n (Xl c) (A .normal) [] k [] F h):Yi P n c A F h:=by
 rw [OA hk]
 intro w G a hF hh
 subst X6
 let Q:Exit->Act->World->Prop:=fun e a' w'=>match e with
  | .normal=>Ko n A w G h .normal a' w'
  | _=>False
 have hx:=hs Q w.drew G a (fun _=>False) (hF.mono (Jg w G)) hh.drew (fun _ _ _ hq=>hq) (OR _) (fun p hp=>hp.elim)
  fun F' h' G' a' w' b1 b2 b3 b4=>⟨F',h',G',b1,b2,b3,(YO.drew w G h).trans b4⟩
 refine wp_mono (wp_region_any (Q:=Q) hm (NC _ _ _ _ _ hx)) ?_
 intro e a' w' hq
 cases e with
 | normal=>exact hq
 | _=>exact hq.elim
theorem NT {P:Program} {n:Nat} {c:Code} {A:Ws} {F:Fr} {h:List Res} (hk:YV c=3) (hk2:YV (Yv c)=2) (hm:P.follows .mixedOrders=true) {k:Nat}
  (X6:(Xl (Yv c)).size=k) (hs:YJ P n (Xl (Yv c)) (fun F h=>Yi P n (V3 c) A F h) [] k [] F h):Yi P n c A F h:=
 Eo hk (H2 hk2 hm X6 hs)
abbrev AV.i (n:Int):AV:=.val (.int .i64 n)
abbrev AV.b (b:Bool):AV:=.val (.bool b)
abbrev AV.p (b:Nat) (o:Nat):AV:=.val (.pointer (some ⟨b,o,none⟩))
abbrev AV.ms (b off len cap:Nat):AV:=.val (.slice (some ⟨b,off,none⟩) len cap)
def ZB (ops:Array Oper) (k:Nat):Oper:=ops.toList.getD k default
def YY (n:Nat) (ops:Array Oper) (F:Fr) (k:Nat):Bool:=
 Nat.blt k ops.size&&(WV n (ZB ops k)&&(KN n ops (ZB ops k)&&(match Qh ops F (ZB ops k) with|some true=>true|_=>false)))
abbrev SI (P:Program) (n:Nat) (ops:Array Oper) (B:Fr->List Res->Prop) (k:Nat) (F:Fr) (h:List Res):Prop:=TO P n ops B (ops.toList.drop k) F h
theorem Pv {ops:Array Oper} {k:Nat} (h:k<ops.size):ops.toList.drop k=ZB ops k::ops.toList.drop (k+1):=by
 have this:k<ops.toList.length:=by simpa using h
 rw [NE this]
 simp [ZB,List.getD,h]
section
variable {P:Program} {n:Nat} {ops:Array Oper} {B:Fr->List Res->Prop} {k:Nat} {F:Fr} {h:List Res}
theorem Vo (hk:YY n ops F k=true):k<ops.size/\WV n (ZB ops k)=true/\KN n ops (ZB ops k)=true/\Qh ops F (ZB ops k)=some true:=by
 simp only [YY,Wn] at hk
 obtain ⟨h1,h2,h3,h4⟩:=hk
 refine ⟨by simpa using h1,h2,h3,?_⟩
 split at h4
 ·assumption
 ·cases h4
theorem Tf (hk:YY n ops F k=true) (ho:Wc P n (ZB ops k) F h fun F' h'=>SI P n ops B (k+1) F' h'):SI P n ops B k F h:=by
 obtain ⟨h1,h2,h3,h4⟩:=Vo hk
 show TO P n ops B (ops.toList.drop k) F h
 rw [Pv h1]
 exact Z39 h4 h3 ho
theorem Dj {ks:List Nat} {x:AV} (hk:YY n ops F k=true) (hs:XP P (ZB ops k) F h ks x) (H:SI P n ops B (k+1) (F.put (ZB ops k).dst x) h):SI P n ops B k F h:=
 Tf hk (hs.op (Vo hk).2.1 H)
theorem Gg:∀(m:Nat) {l:List Oper} {F:Fr} {hints:List Nat} {l':List Oper} {F':Fr} {es:List (Nat × Nat)},Tk P n ops h m l F hints=some (l',F',es)->l'=l.drop m
 | 0,l,F,hints,l',F',es,he=>by
  simp only [Tk,XQ,Prod.mk.injEq] at he
  simp [he.1]
 | m+1,[],F,hints,l',F',es,he=>by simp [Tk] at he
 | m+1,o::l,F,hints,l',F',es,he=>by
  simp only [Tk] at he
  split at he
  ·cases he
  ·split at he
   ·cases he
   ·simpa using Gg m he
   ·split at he
    ·cases he
    ·split at he
     ·cases he
     ·rename_i hr
      simp only [XQ,Prod.mk.injEq] at he
      obtain ⟨rfl,_,_⟩:=he
      simpa using Gg m hr
theorem G0:∀{es:List (Nat × Nat)},es.map (·.1)=es.map (·.2)->∀p∈es,p.1=p.2
 | [],_,p,hp=>by simp at hp
 | e::es,h,p,hp=>by
  simp only [Uf,List.cons.injEq] at h
  rcases Yr.1 hp with rfl|hp
  ·exact h.1
  ·exact G0 h.2 p hp
theorem SM (x':AV) {x:AV} (hk:YY n ops F k=true) (he:Ty P (ZB ops k) F h 0=some (x,[])) (hx:Ze x x') (H:SI P n ops B (k+1) (F.put (ZB ops k).dst x') h):SI P n ops B k F h:=by
 refine Dj (ks:=[]) hk ?_ H
 have hs:=BI he (by simp)
 intro n w G a hF hh
 obtain ⟨v,h1,h2⟩:=hs n w G a hF hh
 exact ⟨v,hx _ _ _ h1,by simpa using h2⟩
theorem IC (hk:Nat.ble ops.size k=true) (hB:B F h):SI P n ops B k F h:=by
 have:ops.toList.drop k=[]:=Eb (by simpa using Wx hk)
 show TO P n ops B (ops.toList.drop k) F h
 rw [this]
 exact Z38 hB
theorem ID (H:SI P n ops B 0 F h):TO P n ops B ops.toList F h:=H
theorem SG (F':Fr) (h':List Res) (H:SI P n ops (fun F h=>Uj F h F' h') k F h) (hB:B F' h') (hB':∀F h,Uj F h F' h'->B F' h'->B F h):SI P n ops B k F h:=by
 intro Q w G a hF hh hk
 exact H Q w G a hF hh fun F2 h2 G2 a2 w2 b1 b2 b3 b4=>hk F2 h2 G2 a2 w2 (hB' _ _ b1 hB) b2 b3 b4
theorem SH {c:Code} {A:Ws} (F':Fr) (h':List Res) (H:SI P n ops (fun F h=>Uj F h F' h') k F h) (hB:Yi P n c A F' h'):SI P n ops (fun F h=>Yi P n c A F h) k F h:=
 SG F' h' H hB fun _ _ hw ha=>AB hw ha
theorem SN {b:Bool} (t:Nat) (hF:F.get t=.val (.bool b)) (h1:b=true->SI P n ops B k ((t,.val (.bool true))::F) h)
  (h2:b=false->SI P n ops B k ((t,.val (.bool false))::F) h):SI P n ops B k F h:=by
 cases b with
 | true=>exact DQ ⟨AW hF (Ze.refl _) (Fr.Le.refl F),[],by simp⟩ (h1 rfl)
 | false=>exact DQ ⟨AW hF (Ze.refl _) (Fr.Le.refl F),[],by simp⟩ (h2 rfl)
theorem YS {b:Bool} {p:Prop} (h:b=true↔p) (hb:b=false):¬p:=fun q=>by have:=h.2 q;rw [hb] at this;cases this
theorem AZ {α:Type} {xs:List α} {j:Nat} (h:j<xs.length):∃x,xs[j]? = some x:=⟨_,TM h⟩
theorem Xv {a b:Bool} {p q:Prop} (h1:a=true↔p) (h2:b=true↔q):(a&&b)=true↔p/\q:=by rw [Wn,h1,h2]
theorem Xo {a b:Bool} {p q:Prop} (h1:a=true↔p) (h2:b=true↔q):(a||b)=true↔p∨q:=by rw [Bool.or_eq_true,h1,h2]
theorem Xh {a:Bool} {p:Prop} (h1:a=true↔p):(!a)=true↔¬p:=by rw [<-h1];cases a<;>simp
def JT (ops:Array Oper) (F:Fr) (k:Nat):Option Int:=
 match (ZB ops k).op with
 | .binOp op _ x y _=>match F.ev x,F.ev y with
  | .val (.int .i64 a),.val (.int .i64 b)=>match op with
   | .add=>some (a+b)
   | .sub=>some (a-b)
   | .mul=>some (a*b)
   | _=>none
  | _,_=>none
 | _=>none
theorem MY {r s:Int} (ha:JT ops F k=some s) (hs:s=r) (hb:-9223372036854775808<=r/\r<=9223372036854775807) :
  XP P (ZB ops k) F h [] (.val (.int .i64 r)):=by
 subst hs
 unfold JT at ha
 generalize hoo:ZB ops k=o at ha
 obtain ⟨dst,op,type,pos,after,guard⟩:=o
 cases op<;>simp only at ha<;>try (cases ha)
 rename_i bop xt x y yt
 split at ha
 ·rename_i a b h1 h2
  have key:∀v,CZ bop .i64 a b=some (.int .i64 (IntKind.i64.wrap v))->v=s->XP P { dst:=dst,op:=.binOp bop xt x y yt,type:=type,pos:=pos,after:=after,guard:=guard } F h [] (.val (.int .i64 s)):=by
   intro v hv hvs
   have he:Ty P { dst:=dst,op:=.binOp bop xt x y yt,type:=type,pos:=pos,after:=after,guard:=guard } F h 0=some (.val (.int .i64 (IntKind.i64.wrap v)),[]):=by
    simp only [Ty,h1,h2,DR,hv]
   have:=BI he (by simp)
   rw [hvs,IntWalk.i64_in s hb] at this
   simpa using this
  split at ha
  ·cases ha;exact key (a+b) rfl rfl
  ·cases ha;exact key (a-b) rfl rfl
  ·cases ha;exact key (a*b) rfl rfl
  ·cases ha
 ·cases ha
theorem SC (r:Int) {s:Int} (hk:YY n ops F k=true) (ha:JT ops F k=some s) (hs:s=r) (hb:-9223372036854775808<=r/\r<=9223372036854775807)
  (H:SI P n ops B (k+1) (F.put (ZB ops k).dst (.val (.int .i64 r))) h):SI P n ops B k F h:=
 Dj (ks:=[]) hk (MY ha hs hb) H
def Vp:List Nat->List Res->Option (List Res × List Res)
 | [],l=>some ([],l)
 | i::is,l=>match l[i]? with
  | some r=>match Vp is (l.eraseIdx i) with
   | some (a,b)=>some (r::a,b)
   | none=>none
  | none=>none
theorem HO:∀{l:List Res} {i:Nat} {r:Res},l[i]? = some r->l.Perm (r::l.eraseIdx i)
 | [],i,r,h=>by simp at h
 | x::l,0,r,h=>by simp at h;subst h;simp
 | x::l,i+1,r,h=>by
  have:=HO (l:=l) (i:=i) (r:=r) (by simpa using h)
  simp only [List.eraseIdx_cons_succ]
  exact (List.Perm.cons x this).trans (List.Perm.swap r x _)
theorem Vq:∀{is:List Nat} {l a b:List Res},Vp is l=some (a,b)->l.Perm (a++b)
 | [],l,a,b,h=>by
  simp only [Vp,XQ,Prod.mk.injEq] at h
  obtain ⟨rfl,rfl⟩:=h
  simp
 | i::is,l,a,b,h=>by
  simp only [Vp] at h
  split at h
  ·rename_i r hr
   split at h
   ·rename_i a' b' hp
    simp only [XQ,Prod.mk.injEq] at h
    obtain ⟨rfl,rfl⟩:=h
    exact (HO hr).trans (List.Perm.cons r (Vq hp))
   ·cases h
  ·cases h
theorem Z6l {F':Fr} {h' d:List Res} (is:List Nat) (hF:F.Le F') (hp:Vp is h=some (h',d)):Uj F h F' h':=⟨hF,d,Vq hp⟩
def Qd (P:Program) (ops:Array Oper) (F:Fr) (k:Nat):Option (FuncId × List AV):=
 match (ZB ops k).op with
 | .call c=>match c.callee with
  | .value (.func f)=>match P.funcs[f]? with
   | some fn=>match fn.body.isSome&&!(fn.name== "runtime.NumGoroutine") with
    | true=>some (f,c.args.toList.map F.ev)
    | false=>none
   | none=>none
  | .value t=>match F.ev t with
   | .val (.func (.func f) vs caps)=>match vs.toList,P.funcs[f]? with
    | [],some fn=>match fn.body.isSome&&!(fn.name== "runtime.NumGoroutine") with
     | true=>some (f,c.args.toList.map F.ev++caps.toList.map AV.val)
     | false=>none
    | _,_=>none
   | _=>none
  | _=>none
 | _=>none
theorem DE {K:Fr->List Res->Prop} {f:FuncId} {xs:List AV} {h1 h2:List Res} {R:AV->List Res->Prop} (hd:WV n (ZB ops k)=true) (hc:Qd P ops F k=some (f,xs))
  (hp:h.Perm (h1++h2)) (H:W3 P f xs h1 R) (hK:∀r h',R r h'->K (F.put (ZB ops k).dst r) (h'++h2)):Wc P n (ZB ops k) F h K:=by
 unfold Qd at hc
 generalize hoo:ZB ops k=o at hc hd hK
 obtain ⟨dst,op,type,pos,after,guard⟩:=o
 cases op<;>simp only at hc<;>try (cases hc)
 rename_i c
 obtain ⟨callee,args,tys⟩:=c
 cases callee with
 | builtin b=>cases hc
 | invoke r m=>cases hc
 | value t=>
  simp only at hc
  split at hc
  ·rename_i g hg
   cases hg
   split at hc
   ·rename_i fn hf
    split at hc
    ·rename_i hb
     simp only [Wn,Bool.not_eq_true'] at hb
     simp only [XQ,Prod.mk.injEq] at hc
     obtain ⟨rfl,rfl⟩:=hc
     exact Z1o _ args tys rfl hf hb.1 hb.2 rfl hd hp H hK
    ·cases hc
   ·cases hc
  ·rename_i t' hnf ht'
   cases ht'
   split at hc
   ·rename_i g vs caps hv
    split at hc
    ·rename_i fn hvs hf
     split at hc
     ·rename_i hb
      simp only [Wn,Bool.not_eq_true'] at hb
      simp only [XQ,Prod.mk.injEq] at hc
      obtain ⟨rfl,rfl⟩:=hc
      have:vs=#[]:=by rw [<-Ue (xs:=vs),hvs]
      subst this
      exact Z1p t args tys rfl hv hf hb.1 hb.2 rfl hd hp H hK
     ·cases hc
    ·cases hc
   ·cases hc
  ·cases hc
theorem SD (f:FuncId) (xs:List AV) (is:List Nat) {h1 h2:List Res} {R:AV->List Res->Prop} (hk:YY n ops F k=true) (hc:Qd P ops F k=some (f,xs))
  (hp:Vp is h=some (h1,h2)) (H:W3 P f xs h1 R) (hK:∀r h',R r h'->SI P n ops B (k+1) (F.put (ZB ops k).dst r) (h'++h2)):SI P n ops B k F h:=
 Tf hk (DE (Vo hk).2.1 hc (Vq hp) H hK)
def Jt (P:Program) (ops:Array Oper) (F:Fr) (k:Nat):Option (AV × Int × Nat):=
 match (ZB ops k).op with
 | .indexAddr t x ix=>match P.underlying t with
  | some (.slice e)=>match P.info? e with
   | some i=>match F.ev ix with
    | .val (.int _ j)=>some (F.ev x,j,i.size)
    | _=>none
   | none=>none
  | _=>none
 | _=>none
theorem MZ {es:List AV} {hv:Option Value} {j:Int} {sz:Nat} {y:AV} (hi:Jt P ops F k=some (.sl es hv,j,sz)) (h0:0<=j) (hget:es[j.toNat]? = some y)
  (hy:y.leaves.length=sz):XP P (ZB ops k) F h [] (.rp y.leaves):=by
 unfold Jt at hi
 generalize hoo:ZB ops k=o at hi
 obtain ⟨dst,op,type,pos,after,guard⟩:=o
 cases op<;>simp only at hi<;>try (cases hi)
 rename_i t x ix
 split at hi
 ·rename_i e ht
  split at hi
  ·rename_i i hinfo
   split at hi
   ·rename_i ik j' hix
    simp only [XQ,Prod.mk.injEq] at hi
    obtain ⟨h1,rfl,rfl⟩:=hi
    exact Z4z t x ix rfl ht hinfo rfl h1 hix h0 hget hy
   ·cases hi
  ·cases hi
 ·cases hi
theorem N0 {b off len cap:Nat} {j:Int} {sz:Nat} (hi:Jt P ops F k=some (.val (.slice (some ⟨b,off,none⟩) len cap),j,sz)) (h0:0<=j) (hlt:j<len) :
  XP P (ZB ops k) F h [] (.val (.pointer (some ⟨b,off+j.toNat * sz,none⟩))):=by
 unfold Jt at hi
 generalize hoo:ZB ops k=o at hi
 obtain ⟨dst,op,type,pos,after,guard⟩:=o
 cases op<;>simp only at hi<;>try (cases hi)
 rename_i t x ix
 split at hi
 ·rename_i e ht
  split at hi
  ·rename_i i hinfo
   split at hi
   ·rename_i ik j' hix
    simp only [XQ,Prod.mk.injEq] at hi
    obtain ⟨h1,rfl,rfl⟩:=hi
    exact Z50 t x ix rfl ht hinfo rfl h1 hix h0 hlt
   ·cases hi
  ·cases hi
 ·cases hi
def Gl (P:Program) (ops:Array Oper) (F:Fr) (k:Nat) (len:Int):Option (AV × Int × Int × Nat):=
 match (ZB ops k).op with
 | .slice t x lo hi none=>match P.underlying t with
  | some (.slice e)=>match P.info? e with
   | some i=>match JA F lo 0,JA F hi len with
    | some l,some m=>some (F.ev x,l,m,i.size)
    | _,_=>none
   | none=>none
  | _=>none
 | _=>none
theorem Z56 {es:List AV} {hv:Option Value} {l m:Int} {sz:Nat} (hi:Gl P ops F k es.length=some (.sl es hv,l,m,sz)) (h0:0<=l) (h1:l<=m) (h2:m<=es.length)
  (hes:∀y∈es,y.leaves.length=sz):XP P (ZB ops k) F h [] (.sl ((es.take m.toNat).drop l.toNat) none):=by
 unfold Gl at hi
 generalize hoo:ZB ops k=o at hi
 obtain ⟨dst,op,type,pos,after,guard⟩:=o
 cases op<;>simp only at hi<;>try (cases hi)
 rename_i t x lo hi' mx
 cases mx with
 | some _=>simp at hi
 | none=>
  simp only at hi
  split at hi
  ·rename_i e ht
   split at hi
   ·rename_i i hinfo
    split at hi
    ·rename_i l' m' hl hm
     simp only [XQ,Prod.mk.injEq] at hi
     obtain ⟨hx,rfl,rfl,rfl⟩:=hi
     exact Z55 t x lo hi' rfl ht hinfo rfl hx hl hm h0 h1 h2 hes
    ·cases hi
   ·cases hi
  ·cases hi
theorem Ke {es es':List AV} {hv:Option Value} {l m:Int} {sz:Nat} (hi:Gl P ops F k es.length=some (.sl es hv,l,m,sz)) (h0:0<=l) (h1:l<=m) (h2:m<=es.length)
  (hes:∀y∈es,y.leaves.length=sz) (he:(es.take m.toNat).drop l.toNat=es'):XP P (ZB ops k) F h [] (.sl es' none):=he▸Z56 hi h0 h1 h2 hes
def VB (P:Program) (ops:Array Oper) (F:Fr) (k:Nat):Option (AV × AV × Nat):=
 match (ZB ops k).op with
 | .call c=>match c.callee,c.args.toList,c.argTypes.toList with
  | .builtin .append,[s,x],[t,t']=>match Nat.beq t t',P.underlying t with
   | true,some (.slice e)=>match P.info? e with
    | some i=>match i.zero with
     | some z=>match Nat.beq z.cells.size i.size&&Nat.ble i.bytes 32768 with
      | true=>some (F.ev s,F.ev x,i.size)
      | false=>none
     | none=>none
    | none=>none
   | _,_=>none
  | _,_,_=>none
 | _=>none
theorem Ly {K:Fr->List Res->Prop} {es xs:List AV} {hv:Value} {hx:Option Value} {sz:Nat} {h1 h2:List Res} (hd:WV n (ZB ops k)=true)
  (ha:VB P ops F k=some (.sl es (some hv),.sl xs hx,sz)) (hes:∀y∈es,y.leaves.length=sz) (hxs:∀y∈xs,y.leaves.length=sz) (hone:(Zc xs).all AV.one=true)
  (hbound:es.length+xs.length<=4294967296)
  (hK:∀v',(v'.ownBlock=hv.ownBlock∨∃b,v'.ownBlock=some b/\Jb (h1++.tail hv sz::h2) b)->K (F.put (ZB ops k).dst (.sl (es++xs) (some v'))) (h1++.tail v' sz::h2)) :
  Wc P n (ZB ops k) F (h1++.tail hv sz::h2) K:=by
 unfold VB at ha
 generalize hoo:ZB ops k=o at ha hd hK
 obtain ⟨dst,op,type,pos,after,guard⟩:=o
 cases op<;>simp only at ha<;>try (cases ha)
 rename_i c
 obtain ⟨callee,args,tys⟩:=c
 simp only at ha
 split at ha
 ·rename_i s x t t' hargs htys
  split at ha
  ·rename_i e htt ht
   have:=VW htt
   subst this
   split at ha
   ·rename_i i hinfo
    split at ha
    ·rename_i z hz
     split at ha
     ·rename_i hb
      simp only [Wn] at hb
      simp only [XQ,Prod.mk.injEq] at ha
      obtain ⟨h3,h4,rfl⟩:=ha
      have e1:args=#[s,x]:=by rw [<-Ue (xs:=args),hargs]
      have e2:tys=#[t,t]:=by rw [<-Ue (xs:=tys),htys]
      subst e1;subst e2
      exact Z1m s x t rfl ht hinfo rfl (by rw [hz];simp [VW hb.1]) hb.2 h3 h4 hd hes hxs hone hbound hK
     ·cases ha
    ·cases ha
   ·cases ha
  ·cases ha
 ·cases ha
theorem Wc.perm {K:Fr->List Res->Prop} {o:Oper} {h':List Res} (hp:h.Perm h') (H:Wc P n o F h' K):Wc P n o F h K:=by
 intro Q w G a hF hh
 refine Oper.wp_mono ?_ (H Q w G a hF (hh.perm hp))
 intro a' w' ⟨F',h2,G',b1,b2,b3,b4⟩
 exact ⟨F',h2,G',b1,b2,b3,b4.perm hp.symm (T3 _)⟩
theorem SB (j:Nat) (es':List AV) {es xs:List AV} {hv:Value} {hx:Option Value} {sz:Nat} {h2:List Res} (hk:YY n ops F k=true)
  (ha:VB P ops F k=some (.sl es (some hv),.sl xs hx,sz)) (hp:Vp [j] h=some ([.tail hv sz],h2)) (hes:∀y∈es,y.leaves.length=sz) (hxs:∀y∈xs,y.leaves.length=sz)
  (hone:(Zc xs).all AV.one=true) (hbound:es.length+xs.length<=4294967296) (he:es++xs=es')
  (hK:∀v',SI P n ops B (k+1) (F.put (ZB ops k).dst (.sl es' (some v'))) (.tail v' sz::h2)):SI P n ops B k F h:=
 Tf hk (Wc.perm (Vq hp) (Ly (h1:=[]) (Vo hk).2.1 ha hes hxs hone hbound fun v' _=>by rw [he];exact hK v'))
theorem GH {w:World} {G:ZY} {sz:Nat} (hh:Yj w G h):Yj w G (.tail (.slice none 0 0) sz::h)/\YO w G h w G (.tail (.slice none 0 0) sz::h):=
 ⟨⟨fun r hr=>by
   rcases Yr.1 hr with rfl|hr
   ·exact .inl rfl
   ·exact hh.ok r hr,Wb.2 ⟨fun _ _ _ _ hf=>hf.elim,hh.apart⟩,fun r hr b o hf hg=>by
   rcases Yr.1 hr with rfl|hr
   ·exact hf.elim
   ·exact hh.prot r hr b o hf hg,hh.lt⟩,
  ⟨rfl,rfl,rfl,YQ _,fun _ _ h=>h,fun _ _=>.inl rfl,fun _ _ _ h=>.inl h,fun b o _ ⟨r,hr,hf⟩=>by
   rcases Yr.1 hr with rfl|hr
   ·exact hf.elim
   ·exact ⟨r,hr,hf⟩⟩⟩
theorem NX {c:Code} {A:Ws} (sz:Nat) (H:Yi P n c A F (.tail (.slice none 0 0) sz::h)):Yi P n c A F h:=by
 intro w G a hF hh
 obtain ⟨h1,h2⟩:=GH (sz:=sz) hh
 exact wp_mono (H w G a hF h1) fun e a' w' hc=>hc.trans h2
end
section
variable {P:Program} {n:Nat} {ops:Array Oper} {B:Fr->List Res->Prop} {k:Nat} {F:Fr} {h:List Res}
def AC (P:Program) (ops:Array Oper) (F:Fr) (k:Nat):Option (List AV):=
 match (ZB ops k).op with
 | .alloc t=>Bq P t
 | .box _ x=>match (F.ev x).fit with
  | true=>some (F.ev x).leaves
  | false=>none
 | _=>none
theorem Lx {K:Fr->List Res->Prop} {ls:List AV} (hd:WV n (ZB ops k)=true) (ha:AC P ops F k=some ls)
  (hK:∀b,Jb h b->K (F.put (ZB ops k).dst (.val (.pointer (some ⟨b,0,none⟩)))) (.obj b ls::h)):Wc P n (ZB ops k) F h K:=by
 unfold AC at ha
 generalize hoo:ZB ops k=o at ha hd hK
 obtain ⟨dst,op,type,pos,after,guard⟩:=o
 cases op<;>simp only at ha<;>try (cases ha)
 case alloc t=>exact Z1l t rfl ha hd hK
 case box t x=>
  split at ha
  ·rename_i hf
   cases ha
   exact Z1n t x rfl rfl hf hd hK
  ·cases ha
def storeAt (P:Program) (ops:Array Oper) (F:Fr) (k:Nat):Option (Nat × Nat × List AV):=
 match (ZB ops k).op with
 | .store t x y=>match F.ev x,(ZB ops k).dst,P.info? t with
  | .val (.pointer (some ⟨b,o,none⟩)),none,some i=>match Nat.beq i.size (F.ev y).leaves.length&&((F.ev y).fit&&(F.ev y).leaves.all AV.one) with
   | true=>some (b,o,(F.ev y).leaves)
   | false=>none
  | _,_,_=>none
 | _=>none
theorem LF {K:Fr->List Res->Prop} {b o:Nat} {xs ls:List AV} {h2:List Res} (hs:storeAt P ops F k=some (b,o,xs)) (hle:Nat.ble (o+xs.length) ls.length=true)
  (hK:K F (.obj b (ls.take o++xs++ls.drop (o+xs.length))::h2)):Wc P n (ZB ops k) F (.obj b ls::h2) K:=by
 unfold storeAt at hs
 generalize hoo:ZB ops k=q at hs
 obtain ⟨dst,op,type,pos,after,guard⟩:=q
 cases op<;>simp only at hs<;>try (cases hs)
 rename_i t x y
 split at hs
 ·rename_i b' o' i hx hi
  split at hs
  ·rename_i hc
   simp only [Wn] at hc
   simp only [XQ,Prod.mk.injEq] at hs
   obtain ⟨rfl,rfl,rfl⟩:=hs
   exact Z1v (h1:=[]) t x y rfl rfl hx rfl (by simp only [Wn];exact hc.2) (by rw [hi];simp [VW hc.1]) hle hK
  ·cases hs
 ·cases hs
def Um (P:Program) (ops:Array Oper) (F:Fr) (k:Nat):Option (List AV × Nat × Nat):=
 match (ZB ops k).op with
 | .buildSlice t len parts=>match P.underlying t with
  | some (.slice e)=>match P.info? e with
   | some i=>match i.zero.isSome&&Nat.ble (len*i.size) (2 ^ 24) with
    | true=>match KH (fun j=>some (j*i.size,i.size)) (List.replicate (len*i.size) .any) (parts.toList.map fun p=>(p.1,F.ev p.2)) with
     | some ls=>some (ls,len,i.size)
     | none=>none
    | false=>none
   | none=>none
  | _=>none
 | _=>none
theorem Lz {K:Fr->List Res->Prop} {es:List AV} {len sz:Nat} (hd:WV n (ZB ops k)=true) (ha:Um P ops F k=some (Zc es,len,sz)) (hlen:es.length=len) (hall:Kr es sz=true)
  (hK:∀b,Jb h b->K (F.put (ZB ops k).dst (.sl es (some (.slice (some ⟨b,0,none⟩) len len)))) (.tail (.slice (some ⟨b,0,none⟩) len len) sz::h)):Wc P n (ZB ops k) F h K:=by
 unfold Um at ha
 generalize hoo:ZB ops k=q at ha hd hK
 obtain ⟨dst,op,type,pos,after,guard⟩:=q
 cases op<;>simp only at ha<;>try (cases ha)
 rename_i t ln parts
 split at ha
 ·rename_i e ht
  split at ha
  ·rename_i i hi
   split at ha
   ·rename_i hc
    simp only [Wn] at hc
    split at ha
    ·rename_i ls hf
     simp only [XQ,Prod.mk.injEq] at ha
     obtain ⟨rfl,rfl,rfl⟩:=ha
     exact Z1q t _ parts rfl ht hi rfl hc.1 hc.2 hf hlen hall hd hK
    ·cases ha
   ·cases ha
  ·cases ha
 ·cases ha
theorem SA (ls:List AV) (hk:YY n ops F k=true) (ha:AC P ops F k=some ls)
  (hK:∀b,SI P n ops B (k+1) (F.put (ZB ops k).dst (.val (.pointer (some ⟨b,0,none⟩)))) (.obj b ls::h)):SI P n ops B k F h:=
 Tf hk (Lx (Vo hk).2.1 ha fun b _=>hK b)
theorem SO (j:Nat) {b o:Nat} {xs ls:List AV} {h2:List Res} (ls':List AV) (hk:YY n ops F k=true) (hs:storeAt P ops F k=some (b,o,xs)) (hp:Vp [j] h=some ([.obj b ls],h2))
  (hle:Nat.ble (o+xs.length) ls.length=true) (he:ls.take o++xs++ls.drop (o+xs.length)=ls') (H:SI P n ops B (k+1) F (.obj b ls'::h2)):SI P n ops B k F h:=
 Tf hk (Wc.perm (Vq hp) (LF hs hle (by rw [he];exact H)))
theorem SJ (es:List AV) {len sz:Nat} (hk:YY n ops F k=true) (ha:Um P ops F k=some (Zc es,len,sz)) (hlen:es.length=len) (hall:Kr es sz=true)
  (hK:∀v,SI P n ops B (k+1) (F.put (ZB ops k).dst (.sl es (some v))) (.tail v sz::h)):SI P n ops B k F h:=
 Tf hk (Lz (Vo hk).2.1 ha hlen hall fun _ _=>hK _)
variable {T:List (Nat × List Nat)} {fuel fuel':Nat} {done:List Nat}
def C7 (P:Program) (n:Nat) (ops:Array Oper) (h:List Res) (is done:List Nat) (F:Fr) (hints:List Nat):List (Nat × List Nat):=
 match Qo P n ops h is done F hints with
 | some (_,es)=>C8 es
 | none=>[]
theorem LK:∀{es:List (Nat × List (Nat × Nat))},es.flatMap (fun e=>e.2.map (·.1))=es.flatMap (fun e=>e.2.map (·.2))->∀e∈es,∀p∈e.2,p.1=p.2
 | [],_,e,he=>by simp at he
 | x::es,hq,e,he=>by
  simp only [JK] at hq
  have h1:=List.append_inj hq (by simp)
  rcases Yr.1 he with rfl|he
  ·exact G0 h1.1
  ·exact LK h1.2 e he
def Vf (ops:Array Oper) (i:Nat) (T:List (Nat × List Nat)):List Nat:=(T.filter fun t=>!Wt ops i t.1).flatMap (·.2)
theorem Z1j {i:Nat} {h2:List Res} (js bs:List Nat) (h1:Vf ops i T=bs) (h3:js.map (fun j=>(Wa h2)[j]?)=bs.map some) :
  ∀t∈T,Wt ops i t.1=true∨∀b∈t.2,b∈Wa h2:=by
 have hall:∀(js bs:List Nat),js.map (fun j=>(Wa h2)[j]?)=bs.map some->∀b∈bs,b∈Wa h2:=by
  intro js
  induction js with
  | nil=>intro bs hb b hm;cases bs with
   | nil=>simp at hm
   | cons _ _=>simp at hb
  | cons j js ih=>intro bs hb b hm;cases bs with
   | nil=>simp at hm
   | cons c bs=>
    simp only [Uf,List.cons.injEq] at hb
    rcases Yr.1 hm with rfl|hm
    ·exact ZW hb.1
    ·exact ih bs hb.2 b hm
 intro t ht
 cases hq:Wt ops i t.1 with
 | true=>exact .inl rfl
 | false=>
  refine .inr fun b hb=>hall js bs h3 b ?_
  rw [<-h1]
  exact List.mem_flatMap.2 ⟨t,List.mem_filter.2 ⟨ht,by simp [hq]⟩,hb⟩
theorem Lv {i:Nat} (hi:i<ops.size):ops[i]? = some (ZB ops i):=by
 simp [ZB,List.getD,hi]
theorem Qf {i:Nat} (is js bs:List Nat) {h1 h2:List Res} (hk:YY n ops F i=true) (hp:Vp is h=some (h1,h2)) (ho:Vf ops i T=bs) (hj:js.map (fun j=>(Wa h2)[j]?)=bs.map some)
  (H:Wc P n (ZB ops i) F h1 fun F' h1'=>YJ P n ops B (T.filter fun t=>!Wt ops i t.1) fuel (done++[i]) F' (h1'++h2)):WL P n ops B T fuel done F h i:=by
 obtain ⟨q1,_,q3,q4⟩:=Vo hk
 exact ⟨_,h1,h2,Lv q1,q4,q3,Vq hp,Z1j js bs ho hj,H⟩
theorem Pi (i:Nat) (f:FuncId) (xs:List AV) (is js bs:List Nat) {h1 h2:List Res} {R:AV->List Res->Prop} (hk:YY n ops F i=true) (hc:Qd P ops F i=some (f,xs))
  (hp:Vp is h=some (h1,h2)) (ho:Vf ops i T=bs) (hj:js.map (fun j=>(Wa h2)[j]?)=bs.map some) (H:W3 P f xs h1 R)
  (hK:∀r h',R r h'->YJ P n ops B (T.filter fun t=>!Wt ops i t.1) fuel (done++[i]) (F.put (ZB ops i).dst r) (h'++h2)):WL P n ops B T fuel done F h i:=
 Qf is js bs hk hp ho hj (DE (h2:=[]) (Vo hk).2.1 hc (by simp) H fun r h' hr=>by simpa using hK r h' hr)
theorem Pf (i:Nat) (js bs:List Nat) (ls:List AV) (hk:YY n ops F i=true) (ha:AC P ops F i=some ls) (ho:Vf ops i T=bs) (hj:js.map (fun j=>(Wa h)[j]?)=bs.map some)
  (hK:∀b,YJ P n ops B (T.filter fun t=>!Wt ops i t.1) fuel (done++[i]) (F.put (ZB ops i).dst (.val (.pointer (some ⟨b,0,none⟩)))) (.obj b ls::h)):WL P n ops B T fuel done F h i:=
 Qf (h1:=[]) (h2:=h) [] js bs hk rfl ho hj (Lx (Vo hk).2.1 ha fun b _=>hK b)
theorem Pn (i:Nat) (js bs:List Nat) (es:List AV) {len sz:Nat} (hk:YY n ops F i=true) (ha:Um P ops F i=some (Zc es,len,sz)) (hlen:es.length=len) (hall:Kr es sz=true)
  (ho:Vf ops i T=bs) (hj:js.map (fun j=>(Wa h)[j]?)=bs.map some)
  (hK:∀v,YJ P n ops B (T.filter fun t=>!Wt ops i t.1) fuel (done++[i]) (F.put (ZB ops i).dst (.sl es (some v))) (.tail v sz::h)):WL P n ops B T fuel done F h i:=
 Qf (h1:=[]) (h2:=h) [] js bs hk rfl ho hj (Lz (Vo hk).2.1 ha hlen hall fun _ _=>hK _)
theorem Pg (i j:Nat) (js bs:List Nat) (es':List AV) {es xs:List AV} {hv:Value} {hx:Option Value} {sz:Nat} {h2:List Res} (hk:YY n ops F i=true)
  (ha:VB P ops F i=some (.sl es (some hv),.sl xs hx,sz)) (hp:Vp [j] h=some ([.tail hv sz],h2)) (hes:∀y∈es,y.leaves.length=sz) (hxs:∀y∈xs,y.leaves.length=sz)
  (hone:(Zc xs).all AV.one=true) (hbound:es.length+xs.length<=4294967296) (he:es++xs=es') (ho:Vf ops i T=bs) (hj:js.map (fun j=>(Wa h2)[j]?)=bs.map some)
  (hK:∀v',YJ P n ops B (T.filter fun t=>!Wt ops i t.1) fuel (done++[i]) (F.put (ZB ops i).dst (.sl es' (some v'))) (.tail v' sz::h2)):WL P n ops B T fuel done F h i:=
 Qf [j] js bs hk hp ho hj (Ly (h1:=[]) (h2:=[]) (Vo hk).2.1 ha hes hxs hone hbound fun v' _=>by rw [he];exact hK v')
theorem Pr (i j:Nat) (js bs:List Nat) {b o:Nat} {xs ls:List AV} {h2:List Res} (ls':List AV) (hk:YY n ops F i=true) (hs:storeAt P ops F i=some (b,o,xs))
  (hp:Vp [j] h=some ([.obj b ls],h2)) (hle:Nat.ble (o+xs.length) ls.length=true) (he:ls.take o++xs++ls.drop (o+xs.length)=ls') (ho:Vf ops i T=bs)
  (hj:js.map (fun j=>(Wa h2)[j]?)=bs.map some) (H:YJ P n ops B (T.filter fun t=>!Wt ops i t.1) fuel (done++[i]) F (.obj b ls'::h2)):WL P n ops B T fuel done F h i:=
 Qf [j] js bs hk hp ho hj (LF (h2:=[]) hs hle (by rw [he];exact H))
theorem CR (i:Nat) {ks:List Nat} {x:AV} (hs:Region.noSelect ops=true) (hk:YY n ops F i=true)
  (hf:Region.free .any ops (Wf ops done) i=true) (hr:(Region.ready .any ops (Wf ops done)).contains i=true) (hx:XP P (ZB ops i) F h ks x)
  (H:YJ P n ops B ((i,ks)::T) fuel (done++[i]) (F.put (ZB ops i).dst x) h):YJ P n ops B T (fuel+1) done F h:=by
 obtain ⟨q1,q2,q3,q4⟩:=Vo hk
 exact EI hs (Lv q1) q2 q3 hf hr (.inr ⟨q4,hx⟩) H
theorem Po (i:Nat) (x':AV) {x:AV} (hs:Region.noSelect ops=true) (hk:YY n ops F i=true)
  (hf:Region.free .any ops (Wf ops done) i=true) (hr:(Region.ready .any ops (Wf ops done)).contains i=true) (he:Ty P (ZB ops i) F h 0=some (x,[])) (hx:Ze x x')
  (H:YJ P n ops B ((i,[])::T) fuel (done++[i]) (F.put (ZB ops i).dst x') h):YJ P n ops B T (fuel+1) done F h:=by
 refine CR i (ks:=[]) hs hk hf hr ?_ H
 have hst:=BI he (by simp)
 intro n w G a hF hh
 obtain ⟨v,h1,h2⟩:=hst n w G a hF hh
 exact ⟨v,hx _ _ _ h1,by simpa using h2⟩
theorem Ph (i:Nat) (r:Int) {s:Int} (hns:Region.noSelect ops=true) (hk:YY n ops F i=true)
  (hf:Region.free .any ops (Wf ops done) i=true) (hr:(Region.ready .any ops (Wf ops done)).contains i=true) (ha:JT ops F i=some s) (hs:s=r)
  (hb:-9223372036854775808<=r/\r<=9223372036854775807)
  (H:YJ P n ops B ((i,[])::T) fuel (done++[i]) (F.put (ZB ops i).dst (.val (.int .i64 r))) h):YJ P n ops B T (fuel+1) done F h:=
 CR i (ks:=[]) hns hk hf hr (MY ha hs hb) H
theorem Pq {b:Bool} (t:Nat) (hF:F.get t=.val (.bool b)) (h1:b=true->YJ P n ops B T fuel done ((t,.val (.bool true))::F) h)
  (h2:b=false->YJ P n ops B T fuel done ((t,.val (.bool false))::F) h):YJ P n ops B T fuel done F h:=by
 cases b with
 | true=>exact EK (AW hF (Ze.refl _) (Fr.Le.refl F)) (h1 rfl)
 | false=>exact EK (AW hF (Ze.refl _) (Fr.Le.refl F)) (h2 rfl)
theorem Pl {c:Code} {A:Ws} (F':Fr) (h':List Res) (H:YJ P n ops (fun F h=>Uj F h F' h') T fuel done F h) (hB:Yi P n c A F' h'):YJ P n ops (fun F h=>Yi P n c A F h) T fuel done F h:=by
 intro Q w G a SL hF hh hQ hcl hcov hk
 exact H Q w G a SL hF hh hQ hcl hcov fun F2 h2 G2 a2 w2 b1 b2 b3 b4=>hk F2 h2 G2 a2 w2 (AB b1 hB) b2 b3 b4
end
end Go.Abs
section
namespace Go.Abs
structure Y7 where
 fields:LI
structure Zd where
 frm:Int
 to_:Int
 cons:List Y7
mutual
inductive Z3 where
 | mk (op num into:Int) (args:LI) (kids:List Z4)
inductive Z4 where
 | mk (steps:List Z3) (result:Int)
end
namespace Z3
def op:Z3->Int|.mk a _ _ _ _=>a
def num:Z3->Int|.mk _ a _ _ _=>a
def into:Z3->Int|.mk _ _ a _ _=>a
def args:Z3->LI|.mk _ _ _ a _=>a
def kids:Z3->List Z4|.mk _ _ _ _ a=>a
end Z3
namespace Z4
def steps:Z4->List Z3|.mk a _=>a
def result:Z4->Int|.mk _ a=>a
end Z4
structure Y8 where
 params:LI
 lent:LI
 result:Int
 body:Z4
structure Zx where
 decls:List Zd
 routines:List Y8
def Z7 (xs:LI):List AV:=xs.map AV.i
def WA (xs:List LI):List AV:=xs.map fun l=>.sl (Z7 l) none
abbrev CE (c:Y7):AV:=.agg [.sl (Z7 c.fields) none]
def Wo (cs:List Y7):List AV:=cs.map CE
abbrev By (d:Zd):AV:=.agg [.i d.frm,.i d.to_,.sl (Wo d.cons) none]
def X0 (ds:List Zd):List AV:=ds.map By
mutual
def EZ:Z3->AV
 | .mk op num into args kids=>.agg [.i op,.i num,.i into,.sl (Z7 args) none,.sl (Yu kids) none]
def EM:Z4->AV
 | .mk steps result=>.agg [.sl (Zj steps) none,.i result]
def Zj:List Z3->List AV
 | []=>[]
 | s::ss=>EZ s::Zj ss
def Yu:List Z4->List AV
 | []=>[]
 | b::bs=>EM b::Yu bs
end
abbrev Ym (s:Z3):AV:=.agg [.i s.op,.i s.num,.i s.into,.sl (Z7 s.args) none,.sl (Yu s.kids) none]
abbrev ZC (b:Z4):AV:=.agg [.sl (Zj b.steps) none,.i b.result]
abbrev TP (r:Y8):AV:=.agg [.sl (Z7 r.params) none,.sl (Z7 r.lent) none,.i r.result,.sl (Zj r.body.steps) none,.i r.body.result]
def Yx (rs:List Y8):List AV:=rs.map TP
abbrev Yl (n:Zx):AV:=.agg [.sl (X0 n.decls) none,.sl (Yx n.routines) none]
theorem PJ (s:Z3):EZ s=Ym s:=by cases s;rw [EZ];rfl
theorem Py (b:Z4):EM b=ZC b:=by cases b;rw [EM];rfl
theorem WO:∀xs:List Z3,Zj xs=xs.map Ym
 | []=>by rw [Zj];rfl
 | s::ss=>by rw [Zj,WO ss,PJ];rfl
theorem U0:∀xs:List Z4,Yu xs=xs.map ZC
 | []=>by rw [Yu];rfl
 | b::bs=>by rw [Yu,U0 bs,Py];rfl
section
theorem ZZ {xs:LI} {j:Nat} {x:Int} (h:xs[j]? = some x):(Z7 xs)[j]? = some (.i x):=by simp [Z7,h]
theorem PG {xs:List LI} {j:Nat} {x:LI} (h:xs[j]? = some x):(WA xs)[j]? = some (.sl (Z7 x) none):=by simp [WA,h]
theorem CT {xs:List Y7} {j:Nat} {x:Y7} (h:xs[j]? = some x):(Wo xs)[j]? = some (CE x):=by simp [Wo,h]
theorem U1 {xs:List Zd} {j:Nat} {x:Zd} (h:xs[j]? = some x):(X0 xs)[j]? = some (By x):=by simp [X0,h]
theorem XO {xs:List Z3} {j:Nat} {x:Z3} (h:xs[j]? = some x):(Zj xs)[j]? = some (Ym x):=by simp [WO,h]
theorem Vv {xs:List Z4} {j:Nat} {x:Z4} (h:xs[j]? = some x):(Yu xs)[j]? = some (ZC x):=by simp [U0,h]
theorem WB {xs:List Y8} {j:Nat} {x:Y8} (h:xs[j]? = some x):(Yx xs)[j]? = some (TP x):=by simp [Yx,h]
@[simp] theorem Ye (xs:LI):(Z7 xs).length=xs.length:=by simp [Z7]
@[simp] theorem Z6s (xs:List LI):(WA xs).length=xs.length:=by simp [WA]
@[simp] theorem QX (xs:List Y7):(Wo xs).length=xs.length:=by simp [Wo]
@[simp] theorem Tw (xs:List Zd):(X0 xs).length=xs.length:=by simp [X0]
@[simp] theorem W8 (xs:List Z3):(Zj xs).length=xs.length:=by simp [WO]
@[simp] theorem Vk (xs:List Z4):(Yu xs).length=xs.length:=by simp [U0]
@[simp] theorem Up (xs:List Y8):(Yx xs).length=xs.length:=by simp [Yx]
theorem XR (xs ys:LI):Z7 (xs++ys)=Z7 xs++Z7 ys:=by simp [Z7]
theorem EW (xs ys:List LI):WA (xs++ys)=WA xs++WA ys:=by simp [WA]
theorem PC (xs ys:List Zd):X0 (xs++ys)=X0 xs++X0 ys:=by simp [X0]
theorem Wj (xs ys:List Z3):Zj (xs++ys)=Zj xs++Zj ys:=by simp [WO]
theorem KD (xs ys:List Z4):Yu (xs++ys)=Yu xs++Yu ys:=by simp [U0]
theorem A1 (xs ys:List Y8):Yx (xs++ys)=Yx xs++Yx ys:=by simp [Yx]
theorem A0 (xs:LI) (n:Nat):(Z7 xs).take n=Z7 (xs.take n):=by simp [Z7]
theorem AR (xs:LI) (n:Nat):(Z7 xs).drop n=Z7 (xs.drop n):=by simp [Z7]
theorem ET (xs:List Y7) (n:Nat):(Wo xs).take n=Wo (xs.take n):=by simp [Wo]
theorem ER (xs:List Y7) (n:Nat):(Wo xs).drop n=Wo (xs.drop n):=by simp [Wo]
theorem Tb (xs:List Z3) (n:Nat):(Zj xs).take n=Zj (xs.take n):=by simp [WO]
theorem Ta (xs:List Z3) (n:Nat):(Zj xs).drop n=Zj (xs.drop n):=by simp [WO]
theorem EO (xs:List Z4) (n:Nat):(Yu xs).take n=Yu (xs.take n):=by simp [U0]
theorem EN (xs:List Z4) (n:Nat):(Yu xs).drop n=Yu (xs.drop n):=by simp [U0]
theorem Yw (xs:LI):∀y∈Z7 xs,y.leaves.length=1:=by intro y hy;simp only [Z7,Wg] at hy;obtain ⟨x,_,rfl⟩:=hy;rfl
theorem AS (xs:List LI):∀y∈WA xs,y.leaves.length=1:=by intro y hy;simp only [WA,Wg] at hy;obtain ⟨x,_,rfl⟩:=hy;rfl
theorem ES (xs:List Y7):∀y∈Wo xs,y.leaves.length=1:=by intro y hy;simp only [Wo,Wg] at hy;obtain ⟨x,_,rfl⟩:=hy;rfl
theorem KE (xs:List Zd):∀y∈X0 xs,y.leaves.length=3:=by intro y hy;simp only [X0,Wg] at hy;obtain ⟨x,_,rfl⟩:=hy;rfl
theorem X1 (xs:List Z3):∀y∈Zj xs,y.leaves.length=5:=by intro y hy;simp only [WO,Wg] at hy;obtain ⟨x,_,rfl⟩:=hy;rfl
theorem Uy (xs:List Z4):∀y∈Yu xs,y.leaves.length=2:=by intro y hy;simp only [U0,Wg] at hy;obtain ⟨x,_,rfl⟩:=hy;rfl
theorem VQ (xs:List Y8):∀y∈Yx xs,y.leaves.length=5:=by intro y hy;simp only [Yx,Wg] at hy;obtain ⟨x,_,rfl⟩:=hy;rfl
theorem KI {es:List AV} (h:∀y∈es,y.leaves.all AV.one=true):(Zc es).all AV.one=true:=by
 simp only [Zc,List.all_flatMap,Kh]
 intro y hy
 exact Kh.1 (h y hy)
theorem XT (xs:LI):(Zc (Z7 xs)).all AV.one=true:=KI fun y hy=>by simp only [Z7,Wg] at hy;obtain ⟨x,_,rfl⟩:=hy;rfl
theorem EX (xs:List LI):(Zc (WA xs)).all AV.one=true:=KI fun y hy=>by simp only [WA,Wg] at hy;obtain ⟨x,_,rfl⟩:=hy;rfl
theorem PB (xs:List Y7):(Zc (Wo xs)).all AV.one=true:=KI fun y hy=>by simp only [Wo,Wg] at hy;obtain ⟨x,_,rfl⟩:=hy;rfl
theorem CU (xs:List Zd):(Zc (X0 xs)).all AV.one=true:=KI fun y hy=>by simp only [X0,Wg] at hy;obtain ⟨x,_,rfl⟩:=hy;rfl
theorem V4 (xs:List Z3):(Zc (Zj xs)).all AV.one=true:=KI fun y hy=>by simp only [WO,Wg] at hy;obtain ⟨x,_,rfl⟩:=hy;rfl
theorem CS (xs:List Z4):(Zc (Yu xs)).all AV.one=true:=KI fun y hy=>by simp only [U0,Wg] at hy;obtain ⟨x,_,rfl⟩:=hy;rfl
theorem Jm (xs:List Y8):(Zc (Yx xs)).all AV.one=true:=KI fun y hy=>by simp only [Yx,Wg] at hy;obtain ⟨x,_,rfl⟩:=hy;rfl
end
end Go.Abs
end
namespace Go.Abs
def Tq (v:Value):Nat:=v.ownBlock.getD 0
def Kg (v:Value) (m:Nat):Value:=
 match v with
 | .slice a _ cap=>.slice a m cap
 | v=>v
theorem My {α:Type} (l:List α) (n:Nat) (x:α) (h:n<l.length):l.take n++[x]++l.drop (n+1)=l.set n x:=by
 rw [CA,Zw h];simp
theorem Yj.vwrite {w:World} {G:ZY} {h2:List Res} {g cap n':Nat} {ls ls':List AV} (hh:Yj w G (.vec (.slice (some ⟨g,0,none⟩) ls.length cap) ls::h2)) {cs cs':Array Value} {e:TypeId}
  (hb:w.heap[g]? = some (.cells cs e (0,0))) (X6:cs'.size=cs.size) (hn:n'=ls'.length) (hle:ls'.length<=cap) (hcap:cs.size=cap) (hls:Yz w G ls' (cs'.toList.take ls'.length)) :
  Yj (w.setRow g cs') G (.vec (.slice (some ⟨g,0,none⟩) n' cap) ls'::h2) /\
   YO w G (.vec (.slice (some ⟨g,0,none⟩) ls.length cap) ls::h2) (w.setRow g cs') G (.vec (.slice (some ⟨g,0,none⟩) n' cap) ls'::h2):=by
 subst hn
 have hmem:Res.vec (.slice (some ⟨g,0,none⟩) ls.length cap) ls∈Res.vec (.slice (some ⟨g,0,none⟩) ls.length cap) ls::h2:=YZ ..
 have hA:V1 G w (w.setRow g cs') G:=⟨fun c j hg=>by
  have hne:c≠g:=fun he=>hh.prot _ hmem c j he hg
  simp [World.cell?,WR w g c cs' hne],fun _ _ h=>h⟩
 have hpw:=Wb.1 hh.apart
 have hother:∀r∈h2,∀c j,r.fp c j->c≠g:=fun r hr c j hf hc=>hpw.1 r hr c j hc hf
 refine ⟨⟨?_,Wb.2 ⟨fun r hr=>hpw.1 r hr,hpw.2⟩,?_,?_⟩,⟨rfl,rfl,rfl,by simp [World.setRow],fun _ _ h=>h,?_,fun _ _ _ h=>.inl h,?_⟩⟩
 ·intro r hr
  rcases Yr.1 hr with rfl|hr
  ·exact .inr ⟨g,cap,cs',e,rfl,setRow_heap w g cs cs' e (0,0) hb,hle,X6.trans hcap,hls.mono hA⟩
  ·have h0:=hh.ok r (Xr _ hr)
   cases r with
   | obj c ks=>
    obtain ⟨ds,el,k1,k2⟩:=h0
    exact ⟨ds,el,(WR w g c cs' (hother _ hr c 0 rfl)).trans k1,k2.mono hA⟩
   | tail v k=>
    rcases h0 with rfl|⟨g2,len,cap2,cur,el,rfl,k1,k2,k3⟩
    ·exact .inl rfl
    ·exact .inr ⟨g2,len,cap2,cur,el,rfl,(WR w g g2 cs' (hother _ hr g2 (len*k) ⟨rfl,YQ _⟩)).trans k1,k2,k3⟩
   | ge s=>exact WK h0 (by simp [World.setRow])
   | vec v ks=>
    rcases h0 with ⟨rfl,h0⟩|⟨g2,cap2,cur2,el,rfl,k1,k2,k3,k4⟩
    ·exact .inl ⟨rfl,h0⟩
    ·exact .inr ⟨g2,cap2,cur2,el,rfl,(WR w g g2 cs' (hother _ hr g2 0 rfl)).trans k1,k2,k3,k4.mono hA⟩
   | many ts=>
    refine ⟨fun p hp=>?_,h0.2⟩
    rcases h0.1 p hp with q|⟨g2,len,cap2,cur,el,q,k1,k2,k3⟩
    ·exact .inl q
    ·exact .inr ⟨g2,len,cap2,cur,el,q,(WR w g g2 cs' (hother _ hr g2 (len*p.2) ⟨p,hp,by rw [q];exact ⟨rfl,YQ _⟩⟩)).trans k1,k2,k3⟩
   | own B m=>
    intro c hc
    obtain ⟨ds,el,k1,k2⟩:=h0 c hc
    exact ⟨ds,el,(WR w g c cs' (hother _ hr c 0 hc)).trans k1,k2⟩
   | row v k ks=>
    rcases h0 with ⟨rfl,h0⟩|⟨g2,len2,cap2,cur2,el,rfl,k1,k2,k3,k4,k5⟩
    ·exact .inl ⟨rfl,h0⟩
    ·exact .inr ⟨g2,len2,cap2,cur2,el,rfl,(WR w g g2 cs' (hother _ hr g2 0 rfl)).trans k1,k2,k3,k4,k5.mono hA⟩
 ·intro r hr c j hf hg
  rcases Yr.1 hr with rfl|hr
  ·exact hh.prot _ hmem c j hf hg
  ·exact hh.prot r (Xr _ hr) c j hf hg
 ·intro c j hg
  have:=hh.lt c j hg
  simpa [World.setRow] using this
 ·intro c hc
  by_cases hcb:c=g
  ·subst hcb
   exact .inr ⟨cs,cs',e,(0,0),hb,setRow_heap w c cs cs' e (0,0) hb,X6,fun j hj=>absurd ⟨_,hmem,rfl⟩ hj⟩
  ·exact .inl (WR w g c cs' hcb)
 ·rintro c j _ ⟨r,hr,hf⟩
  rcases Yr.1 hr with rfl|hr
  ·exact ⟨_,hmem,hf⟩
  ·exact ⟨r,Xr _ hr,hf⟩
theorem Yj.alloc_vec {w:World} {G:ZY} {h:List Res} (hh:Yj w G h) (cs:Array Value) (t:TypeId) {ls:List AV} {cap:Nat} (hcap:ls.length<=cap) (X6:cs.size=cap)
  (hls:Yz w G ls (cs.toList.take ls.length)) :
  Yj (w.alloc (.cells cs t)) G (.vec (.slice (some ⟨w.heap.size,0,none⟩) ls.length cap) ls::h)/\YO w G h (w.alloc (.cells cs t)) G (.vec (.slice (some ⟨w.heap.size,0,none⟩) ls.length cap) ls::h):=by
 have hA:V1 G w (w.alloc (.cells cs t)) G:=⟨fun b j hg=>BD w _ (hh.lt b j hg),fun _ _ h=>h⟩
 refine hh.alloc (.cells cs t) (h':=[.vec (.slice (some ⟨w.heap.size,0,none⟩) ls.length cap) ls]) (fun _ _ h=>h) (fun _ _ h=>.inl h) ?_ ?_ (JL _ _) ?_
 ·intro r hr
  rw [Xp.1 hr]
  exact .inr ⟨_,cap,cs,t,rfl,Dd w _,hcap,X6,hls.mono hA⟩
 ·intro r hr b j hf
  rw [Xp.1 hr] at hf
  exact hf
 ·intro r hr b j hf hg
  rw [Xp.1 hr] at hf
  have:=hh.lt b j hg
  have:b=w.heap.size:=hf
  omega
theorem Z63 {w:World} {G:ZY} {h:List Res} (hh:Yj w G h):Yj w G (.vec (.slice none 0 0) []::h)/\YO w G h w G (.vec (.slice none 0 0) []::h):=
 ⟨⟨fun r hr=>by
   rcases Yr.1 hr with rfl|hr
   ·exact .inl ⟨rfl,rfl⟩
   ·exact hh.ok r hr,Wb.2 ⟨fun _ _ _ _ hf=>hf.elim,hh.apart⟩,fun r hr b o hf hg=>by
   rcases Yr.1 hr with rfl|hr
   ·exact hf.elim
   ·exact hh.prot r hr b o hf hg,hh.lt⟩,
  ⟨rfl,rfl,rfl,YQ _,fun _ _ h=>h,fun _ _=>.inl rfl,fun _ _ _ h=>.inl h,fun b o _ ⟨r,hr,hf⟩=>by
   rcases Yr.1 hr with rfl|hr
   ·exact hf.elim
   ·exact ⟨r,hr,hf⟩⟩⟩
section
variable {P:Program} {n:Nat} {ops:Array Oper} {B:Fr->List Res->Prop} {k:Nat} {F:Fr} {h h2:List Res}
def B6 (P:Program) (ops:Array Oper) (F:Fr) (k:Nat):Option AV:=
 match (ZB ops k).op with
 | .call c=>match c.callee,c.args.toList,c.argTypes.toList with
  | .builtin .len,[x],[t]=>match P.underlying t with
   | some (.slice _)=>some (F.ev x)
   | _=>none
  | _,_,_=>none
 | _=>none
theorem Jf.form {w:World} {G:ZY} {v:Value} {ls:List AV} (h:Jf w G v ls):∃a cap,v=.slice a ls.length cap:=by
 rcases h with ⟨rfl,rfl⟩|⟨g,cap,cur,e,rfl,_⟩
 ·exact ⟨none,0,rfl⟩
 ·exact ⟨_,cap,rfl⟩
theorem Z58 (j:Nat) {v:Value} {ls:List AV} (hl:B6 P ops F k=some (.val v)) (hj:h[j]? = some (.vec v ls)):XP P (ZB ops k) F h [] (.val (.int .i64 ls.length)):=by
 unfold B6 at hl
 generalize hoo:ZB ops k=o at hl
 obtain ⟨dst,op,type,pos,after,guard⟩:=o
 cases op<;>simp only at hl<;>try (cases hl)
 rename_i c
 obtain ⟨callee,args,tys⟩:=c
 simp only at hl
 split at hl
 ·rename_i x t hargs htys
  split at hl
  ·rename_i el hu
   simp only [XQ] at hl
   intro n w G a hF hh
   have hv:=hF.ev x
   rw [hl] at hv
   have hv:=hv.val_inv
   obtain ⟨ad,cap,rfl⟩:=Jf.form (hh.ok _ (ZW hj))
   have e1:args=#[x]:=by rw [<-Ue (xs:=args),hargs]
   have e2:tys=#[t]:=by rw [<-Ue (xs:=tys),htys]
   subst e1;subst e2
   exact ⟨_,.val,fun w' _ _=>by simp [execOp,resolve,invoke,builtin,hv,Builtin.len_,VJ hu,goInt]⟩
  ·cases hl
 ·cases hl
theorem Z57 (j:Nat) {v:Value} {ls:List AV} {i:Int} (hi:Jt P ops F k=some (.val v,i,1)) (hj:h[j]? = some (.vec v ls)) (h0:0<=i) (hlt:i<ls.length) :
  XP P (ZB ops k) F h [] (.val (.pointer (some ⟨Tq v,i.toNat,none⟩))):=by
 intro n w G a hF hh
 rcases hh.ok _ (ZW hj) with ⟨rfl,rfl⟩|⟨g,cap,cur,e,rfl,_⟩
 ·simp at hlt;omega
 ·have:=N0 (P:=P) (F:=F) (h:=h) hi h0 hlt n w G a hF hh
  simpa [Tq,Value.ownBlock] using this
def FM (P:Program) (ops:Array Oper) (F:Fr) (k:Nat):Option AV:=
 match (ZB ops k).op with
 | .load t x=>match B4 P t with
  | some false=>some (F.ev x)
  | _=>none
 | _=>none
theorem Z59 (j:Nat) {v:Value} {ls:List AV} {i:Nat} {y:AV} (hl:FM P ops F k=some (.val (.pointer (some ⟨Tq v,i,none⟩)))) (hj:h[j]? = some (.vec v ls)) (hy:ls[i]? = some y) :
  XP P (ZB ops k) F h [Tq v] y:=by
 unfold FM at hl
 generalize hoo:ZB ops k=o at hl
 obtain ⟨dst,op,type,pos,after,guard⟩:=o
 cases op<;>simp only at hl<;>try (cases hl)
 rename_i t x
 split at hl
 ·rename_i hagg
  simp only [XQ] at hl
  intro n w G a hF hh
  have hv:=hF.ev x
  rw [hl] at hv
  have hv:=hv.val_inv
  have hlt:i<ls.length:=(XA.1 hy).1
  rcases hh.ok _ (ZW hj) with ⟨rfl,rfl⟩|⟨g,cap,cur,e,rfl,h1,h2,h3,h4⟩
  ·simp at hlt
  ·obtain ⟨c,c1,c2⟩:=h4.get i y hy
   refine ⟨c,c2,fun w' _ hw=>?_⟩
   have hrow:=hw (Tq (.slice (some ⟨g,0,none⟩) ls.length cap)) (by simp)
   simp only [Tq,Value.ownBlock,Option.getD_some] at hrow hv
   rw [h1] at hrow
   have hc:cur[i]? = some c:=by
    rw [T5,Zw hlt] at c1
    simpa using c1
   simp only [execOp,hv]
   refine WY ?_
   simp only [Instr.loadAt,Instr.sureAddr,Sem.run_bind,Sem.run_pure,Result.andThen_ok,loadVar,Ci hagg]
   have:=cell_of_row w' g i cur e (0,0) hrow
   rw [hc] at this
   simp [load,Sem.run,this]
 ·cases hl
theorem LH {K:Fr->List Res->Prop} {v:Value} {ls:List AV} {i:Nat} {y:AV} (hs:storeAt P ops F k=some (Tq v,i,[y])) (hlt:i<ls.length)
  (hK:K F (.vec v (ls.set i y)::h2)):Wc P n (ZB ops k) F (.vec v ls::h2) K:=by
 unfold storeAt at hs
 generalize hoo:ZB ops k=q at hs
 obtain ⟨dst,op,type,pos,after,guard⟩:=q
 cases op<;>simp only at hs<;>try (cases hs)
 rename_i t x z
 split at hs
 ·rename_i b' o' inf hx hi
  split at hs
  ·rename_i hc
   simp only [Wn] at hc
   simp only [XQ,Prod.mk.injEq] at hs
   obtain ⟨rfl,rfl,hz⟩:=hs
   intro Q w G a hF hh
   have hvx:=hF.ev x
   rw [hx] at hvx
   have hvx:=hvx.val_inv
   have hvy:=hF.ev z
   have hcs:=hvy.cells hc.2.1
   rw [hz] at hcs hc
   have hone:=hcs.one_cells hc.2.2
   have X6:inf.size=1:=VW hc.1
   have hlen:(a.eval z).cells.size=1:=by have:=hcs.length;simpa using this
   rcases hh.ok (.vec v ls) (YZ ..) with ⟨rfl,rfl⟩|⟨g,cap,cur,e,rfl,h1,h3,h4,h5⟩
   ·simp at hlt
   ·simp only [Tq,Value.ownBlock,Option.getD_some] at hvx
    have hst:=run_storeCells_at P g o' e (a.eval z).cells.toList 0 cur w h1 (by simp [hlen];omega) hone
    simp only [JN,Qs] at hst
    have hr:(execOp a.eval { dst:=none,op:=.store t x z,type:=type,pos:=pos,after:=after,guard:=guard }).run P w =
      .ok .skip (w.setRow g (cur.toList.take o'++(a.eval z).cells.toList++cur.toList.drop (o'+(a.eval z).cells.size)).toArray):=by
     simp only [execOp,hvx]
     simp [Instr.storeAt,Instr.sureAddr,storeVar,Tl hi,hlen,X6,hst]
    unfold Oper.wp
    rw [hr]
    have hset:ls.set o' y=ls.take o'++[y]++ls.drop (o'+1):=(My ls o' y hlt).symm
    obtain ⟨j1,j2⟩:=hh.vwrite (ls':=ls.set o' y) (n':=ls.length) (cs':=(cur.toList.take o'++(a.eval z).cells.toList++cur.toList.drop (o'+(a.eval z).cells.size)).toArray) h1
     (by simp [hlen];omega) (by simp) (by simpa using h3) h4 (by
      obtain ⟨c,Z9⟩:∃c,(a.eval z).cells.toList=[c]:=by
       have:=hcs.length
       cases hq:(a.eval z).cells.toList with
       | nil=>rw [hq] at this;simp at this
       | cons c r=>cases r with
        | nil=>exact ⟨c,rfl⟩
        | cons _ _=>rw [hq] at this;simp at this
      rw [Z9] at hcs
      have hlt':o'<cur.toList.length:=by simp [h4];omega
      rw [Bt,Z9,hlen,My cur.toList o' c hlt',Uu,List.take_set]
      cases hcs with
      | cons hcc _=>exact h5.set o' hcc)
    refine ⟨F,_,G,hK,?_,j1,j2⟩
    have:=hF.mono (j2.agree hh)
    simpa [Act.put] using this
  ·cases hs
 ·cases hs
theorem LG {K:Fr->List Res->Prop} {v:Value} {ls xs:List AV} {hx:Option Value} (hd:WV n (ZB ops k)=true) (ha:VB P ops F k=some (.val v,.sl xs hx,1))
  (hxs:∀y∈xs,y.leaves=[y]) (hone:xs.all AV.one=true) (hbound:ls.length+xs.length<=4294967296)
  (hK:∀v',K (F.put (ZB ops k).dst (.val v')) (.vec v' (ls++xs)::h2)):Wc P n (ZB ops k) F (.vec v ls::h2) K:=by
 unfold VB at ha
 generalize hoo:ZB ops k=o at ha hd hK
 obtain ⟨dst,op,type,pos,after,guard⟩:=o
 cases op<;>simp only at ha<;>try (cases ha)
 rename_i c
 obtain ⟨callee,args,tys⟩:=c
 simp only at ha
 split at ha
 case h_2=>cases ha
 rename_i s x t t' hargs htys
 split at ha
 case h_2=>cases ha
 rename_i e htt ht
 have:=VW htt
 subst this
 split at ha
 case h_2=>cases ha
 rename_i i hinfo
 split at ha
 case h_2=>cases ha
 rename_i z hz
 split at ha
 case h_2=>cases ha
 rename_i hb
 simp only [Wn] at hb
 simp only [XQ,Prod.mk.injEq] at ha
 obtain ⟨h3,h4,hk1⟩:=ha
 have e1:args=#[s,x]:=by rw [<-Ue (xs:=args),hargs]
 have e2:tys=#[t,t]:=by rw [<-Ue (xs:=tys),htys]
 subst e1;subst e2
 have hzs:z.cells.size=1:=by rw [VW hb.1,hk1]
 have hby:=Wx hb.2
 have hflat:Zc xs=xs:=by
  clear hone hbound hK h4
  induction xs with
  | nil=>rfl
  | cons y r ih=>simp only [Zc,JK,hxs y (by simp),List.singleton_append];rw [show r.flatMap AV.leaves=Zc r from rfl,ih fun q hq=>hxs q (by simp [hq])]
 have hlen1:∀y∈xs,y.leaves.length=1:=fun y hy=>by rw [hxs y hy];rfl
 intro Q w G a hF hh
 have v1:=hF.ev s
 have v2:=hF.ev x
 rw [h3] at v1
 rw [h4] at v2
 have v1:=v1.val_inv
 have v2:=v2.forget
 have finish:∀v' w',(Builtin.append_ #[t,t] type #[v,a.eval x]).run P w=.ok v' w'->Yj w' G (.vec v' (ls++xs)::h2)->YO w G (.vec v ls::h2) w' G (.vec v' (ls++xs)::h2) ->
   ({ dst:=dst,op:=.call { callee:=.builtin .append,args:=#[s,x],argTypes:=#[t,t] },type:=type,pos:=pos,after:=after,guard:=guard }:Oper).wp P a w
    (fun a' w'=>∃F' h' G',K F' h'/\FR w' G' n F' a'/\Yj w' G' h'/\YO w G (.vec v ls::h2) w' G' h') Q:=by
  intro v' w' hr j1 j2
  have hrun:(execOp a.eval { dst:=dst,op:=.call { callee:=.builtin .append,args:=#[s,x],argTypes:=#[t,t] },type:=type,pos:=pos,after:=after,guard:=guard }).run P w=.ok (.value v') w':=by
   simp only [execOp,resolve,invoke,builtin,Sem.run_bind,Sem.run_pure,Result.andThen_ok,Cz,Uf,Cy,v1,hr]
  unfold Oper.wp
  rw [hrun]
  exact ⟨_,_,G,hK v',(hF.mono (j2.agree hh)).put (Ux hd) .val,j1,j2⟩
 have hvec:=hh.ok (.vec v ls) (YZ ..)
 have hsub2:∀r:Res,List.Sublist (r::h2) (r::.vec v ls::h2):=fun r=>List.Sublist.cons_cons _ (JM _ _)
 have grown:∀(olds news:List Value) (old:Nat),Yz w G ls olds->Yz w G xs news ->
   Yj (w.drew.alloc (.cells (olds.toArray++news.toArray++Builtin.zeroCells z.cells (grownCap w (ls.length+xs.length) old e-(ls.length+xs.length))) e)) G
    (.vec (.slice (some ⟨w.heap.size,0,none⟩) (ls.length+xs.length) (grownCap w (ls.length+xs.length) old e)) (ls++xs)::h2) /\
   YO w G (.vec v ls::h2) (w.drew.alloc (.cells (olds.toArray++news.toArray++Builtin.zeroCells z.cells (grownCap w (ls.length+xs.length) old e-(ls.length+xs.length))) e)) G
    (.vec (.slice (some ⟨w.heap.size,0,none⟩) (ls.length+xs.length) (grownCap w (ls.length+xs.length) old e)) (ls++xs)::h2):=by
  intro olds news old ho hn
  have X2:=grownCap_ge w (ls.length+xs.length) old e
  have hol:=ho.length
  have hnl:=hn.length
  obtain ⟨j1,j2⟩:=hh.drew.alloc_vec (olds.toArray++news.toArray++Builtin.zeroCells z.cells (grownCap w (ls.length+xs.length) old e-(ls.length+xs.length))) e
   (ls:=ls++xs) (cap:=grownCap w (ls.length+xs.length) old e) (by simpa using X2)
   (by simp only [Array.size_append,Bs,size_zeroCells,hzs,hol,hnl,J9];omega)
   (by
    have:(olds.toArray++news.toArray++Builtin.zeroCells z.cells (grownCap w (ls.length+xs.length) old e-(ls.length+xs.length))).toList.take (ls++xs).length=olds++news:=by
     simp only [Ea,Yk]
     rw [<-hol,<-hnl,<-Yk]
     exact Kl
    rw [this]
    exact (ho.append hn).mono (Jg w G))
  rw [Yk] at j1 j2
  exact ⟨j1.sub (hsub2 _),(YO.drew w G _).trans (j2.sub' (hsub2 _))⟩
 by_cases hxe:xs=[]
 ·subst hxe
  obtain ⟨ad,cap,hform⟩:=Jf.form hvec
  have hle:ls.length<=cap:=by
   rcases hvec with ⟨rfl,rfl⟩|⟨g,cap',cur,el,rfl,_,hc,_⟩
   ·simp
   ·cases hform;exact hc
  subst hform
  cases v2q:a.eval x with
  | slice ad' l' c'=>
   rw [v2q] at v2
   cases v2<;>exact finish _ _ (by rw [v2q];exact Bg ht hinfo hle w) (by simpa using hh) (by simpa using YO.refl w G _)
  | _=>rw [v2q] at v2;cases v2
 ·generalize hax:a.eval x=ax at v2 finish
  cases v2 with
  | nil _=>exact absurd rfl hxe
  | sl hq hcc hm=>
   rename_i b o' k' c
   have hpos:0<xs.length:=Ed.2 hxe
   have hfm:=hm.flat_mem
   rw [hflat] at hfm
   obtain ⟨news,hn,hnc⟩:=hfm.cells
   have hnl:news.length=xs.length*i.size:=by rw [hn.length,hk1,J9]
   have hone':=hn.one_cells hone
   have hnews:∀j u,news[j]? = some u->w.cell? ((⟨b,o',none⟩:Addr).add j)=some u:=fun j u hj=>by rw [Qa];exact (hnc j u hj).1
   have hbb:(ls.length+xs.length)*i.bytes<=140737488355328:=by
    have:=Nat.mul_le_mul hbound hby
    omega
   rcases hvec with ⟨rfl,rfl⟩|⟨g,cap,cur,el,rfl,hrow,hlc,hcur,hcells⟩
   ·have hr:=run_append_nil (P:=P) w t type e i z ht hinfo hz ⟨b,o',none⟩ xs.length c news hnl hnews hpos (by simp at hbound;omega) (by simp at hbb;omega)
    obtain ⟨j1,j2⟩:=grown [] news 0 .nil hn
    simp only [X8,Wv,Array.empty_append,Kj] at j1 j2
    exact finish _ _ hr (by simpa using j1) (by simpa using j2)
   ·by_cases hroom:ls.length+xs.length<=cap
    ·have hfit:ls.length*i.size+news.length<=cur.size:=by rw [hnl,hcur,hk1];omega
     have hr:=DM (P:=P) w t type e el i ht hinfo g ls.length cap cur hrow ⟨b,o',none⟩ xs.length c news hnl hnews hone' hroom hfit
     rw [hk1,J9] at hr
     have hnl':news.length=xs.length:=by rw [hnl,hk1,J9]
     obtain ⟨j1,j2⟩:=hh.vwrite (ls':=ls++xs) (n':=ls.length+xs.length) (cs':=(cur.toList.take ls.length++news++cur.toList.drop (ls.length+news.length)).toArray) hrow
      (by simp [hnl',hcur];omega) (by simp) (by simpa using hroom) hcur (by
       have h1:(cur.toList.take ls.length).length=ls.length:=by simp [hcur];omega
       have:(cur.toList.take ls.length++news++cur.toList.drop (ls.length+news.length)).toArray.toList.take (ls++xs).length=cur.toList.take ls.length++news:=by
        rw [Bt,Yk,<-hnl']
        conv=>lhs;arg 1;rw [show ls.length+news.length=(cur.toList.take ls.length++news).length from by rw [Yk,h1]]
        exact Kl
       rw [this]
       exact hcells.append hn)
     exact finish _ _ hr j1 j2
    ·have hr:=run_append_grow (P:=P) w t type e i z ht hinfo hz ⟨g,0,none⟩ ls.length cap (cur.toList.take ls.length) (by rw [hk1];simp [hcur];omega) (fun j u hj=>by
      rw [Qa,cell_of_row w g _ cur el (0,0) hrow]
      rw [T5] at hj
      split at hj
      ·simpa using hj
      ·cases hj) ⟨b,o',none⟩ xs.length c news hnl hnews om om (growslice_fits om hbb)
     obtain ⟨j1,j2⟩:=grown (cur.toList.take ls.length) news cap hcells hn
     exact finish _ _ hr j1 j2
end
inductive TN (h:List Res):AV->Prop
 | val {v}:TN h (.val v)
 | any:TN h .any
 | nil {hv}:TN h (.sl [] hv)
 | own {es:List AV} {v:Value} {k:Nat} (he:∀y∈es,∃u,y=.val u) (ht:Res.tail v k∈h):TN h (.sl es (some v))
 | tup {vs:List AV} (hv:∀y∈vs,TN h y):TN h (.tup vs)
 | agg {vs:List AV} (hv:∀y∈vs,TN h y):TN h (.agg vs)
def AA:Res->Prop
 | .obj _ ls=>∀y∈ls,∃u,y=.val u
 | .vec _ ls=>∀y∈ls,∃u,y=.val u
 | .row _ _ ls=>∀y∈ls,∃u,y=.val u
 | _=>True
theorem Yz.vals {w w':World} {G G':ZY}:∀{xs:List AV} {vs:List Value},(∀y∈xs,∃u,y=.val u)->Yz w G xs vs->Yz w' G' xs vs
 | _,_,_,.nil=>.nil
 | x::_,_::_,hv,.cons h t=>by
  obtain ⟨u,rfl⟩:=hv x (YZ ..)
  have:=h.val_inv
  subst this
  exact .cons .val (t.vals fun y hy=>hv y (Xr _ hy))
theorem Lj {w:World} {G G':ZY} {b:Nat} (hG:∀o,G b o->G' b o):∀{o:Nat} {xs:List AV},(∀y∈xs,∃u,y=.val u)->XY w G b o xs->XY w G' b o xs
 | _,_,_,.nil=>.nil
 | _,x::_,hv,.cons hc hg h t=>by
  obtain ⟨u,rfl⟩:=hv x (YZ ..)
  have:=h.val_inv
  subst this
  exact .cons hc (hG _ hg) .val (Lj hG (fun y hy=>hv y (Xr _ hy)) t)
theorem HN {w:World} {G G':ZY} {b k:Nat} (hG:∀o,G b o->G' b o):∀{o:Nat} {xs:List AV},(∀y∈xs,∃u,y=.val u)->Wy w G k b o xs->Wy w G' k b o xs
 | _,_,_,.nil=>.nil
 | _,x::_,hv,.cons hl h t=>by
  obtain ⟨u,rfl⟩:=hv x (YZ ..)
  refine .cons hl (Lj hG (fun y hy=>?_) h) (HN hG (fun y hy=>hv y (Xr _ hy)) t)
  simp [AV.leaves] at hy
  exact ⟨u,hy⟩
theorem Yz.clean {w:World} {G G':ZY} (P:AV->Prop) (hP:∀x v,P x->RV w G x v->RV w G' x v):∀{xs:List AV} {vs:List Value},(∀y∈xs,P y)->Yz w G xs vs->Yz w G' xs vs
 | _,_,_,.nil=>.nil
 | x::_,_::_,hv,.cons h t=>.cons (hP _ _ (hv x (YZ ..)) h) (t.clean P hP fun y hy=>hv y (Xr _ hy))
theorem RV.clean {w:World} {G G':ZY} {h:List Res} (hG:∀v k g,Res.tail v k∈h->v.ownBlock=some g->∀o,G g o->G' g o) {r:AV} (hc:TN h r):∀{v:Value},RV w G r v->RV w G' r v:=by
 induction hc with
 | val=>intro v hv;cases hv;exact .val
 | any=>intro v hv;exact .any
 | nil=>
  intro v hv
  cases hv with
  | nil hq=>exact .nil hq
  | sl hq hc hm=>exact .sl (k:=0) hq hc .nil
 | own he ht=>
  intro v hv
  cases hv with
  | nil hq=>exact .nil hq
  | sl hq hc hm=>
   have e:=hq _ rfl
   exact .sl hq hc (HN (fun o hg=>hG _ _ _ ht (by rw [e];rfl) o hg) he hm)
 | tup hv ih=>
  intro v hvv
  cases hvv with
  | tup hc=>exact .tup (hc.clean (fun x=>∀{v:Value},RV w G x v->RV w G' x v) (fun x v hp hx=>hp hx) ih)
 | agg hv ih=>
  intro v hvv
  cases hvv with
  | agg hc=>exact .agg (hc.clean (fun x=>∀{v:Value},RV w G x v->RV w G' x v) (fun x v hp hx=>hp hx) ih)
theorem Yj.lend {w:World} {G:ZY}:∀{bs h:List Res},(∀r∈bs,∃v ls,r=.vec v ls/\∀y∈ls,∃u,y=.val u)->Yj w G (h++bs) ->
  ∃Gb:ZY,(∀b o,G b o->Gb b o)/\(∀b o,Gb b o->G b o∨WG bs b o)/\Yj w Gb h /\
   (∀v ls,Res.vec v ls∈bs->∀m,m<=ls.length->RV w Gb (.sl (ls.take m) none) (Kg v m)/\RV w Gb (.sl ls none) v):=by
 intro bs h hb hh
 let Gb:ZY:=fun b o=>G b o∨∃v ls,Res.vec v ls∈bs/\v.ownBlock=some b/\o<ls.length
 have hsub:∀b o,G b o->Gb b o:=fun _ _ h=>.inl h
 have hfp:∀b o,Gb b o->G b o∨WG bs b o:=fun b o hg=>hg.imp id fun ⟨v,ls,hm,ho,_⟩=>⟨_,hm,by
  cases v with
  | slice a l c=>cases a with
   | none=>simp [Value.ownBlock] at ho
   | some a=>simp only [Value.ownBlock,XQ] at ho;exact ho.symm
  | _=>simp [Value.ownBlock] at ho⟩
 have hA:V1 G w w Gb:=⟨fun _ _ _=>rfl,hsub⟩
 refine ⟨Gb,hsub,hfp,⟨fun r hr=>?_,hh.left.apart,fun r hr b o hf hg=>?_,fun b o hg=>?_⟩,fun v ls hm m hmle=>?_⟩
 ·have h0:=hh.ok r (YU.2 (.inl hr))
  cases r with
  | obj b ls=>obtain ⟨cs,e,h1,h2⟩:=h0;exact ⟨cs,e,h1,h2.mono hA⟩
  | tail v k=>exact h0
  | ge s=>exact h0
  | vec v ls=>
   rcases h0 with ⟨rfl,h0⟩|⟨g,cap,cur,el,rfl,h1,h2,h3,h4⟩
   ·exact .inl ⟨rfl,h0⟩
   ·exact .inr ⟨g,cap,cur,el,rfl,h1,h2,h3,h4.mono hA⟩
  | many ts=>exact h0
  | own B m=>exact h0
  | row v k ls=>
   rcases h0 with ⟨rfl,h0⟩|⟨g,len,cap,cur,el,rfl,h1,h2,h3,h4,h5⟩
   ·exact .inl ⟨rfl,h0⟩
   ·exact .inr ⟨g,len,cap,cur,el,rfl,h1,h2,h3,h4,h5.mono hA⟩
 ·rcases hfp b o hg with h1|h1
  ·exact hh.prot r (YU.2 (.inl hr)) b o hf h1
  ·exact hh.cross ⟨r,hr,hf⟩ h1
 ·rcases hfp b o hg with h1|⟨r,hr,hf⟩
  ·exact hh.lt b o h1
  ·exact (hh.ok r (YU.2 (.inr hr))).lt b o hf
 ·have h0:=hh.ok _ (YU.2 (.inr hm))
  obtain ⟨v',ls',e,hval⟩:=hb _ hm
  cases e
  rcases h0 with ⟨rfl,rfl⟩|⟨g,cap,cur,el,rfl,h1,h2,h3,h4⟩
  ·have:m=0:=by simpa using hmle
   subst this
   exact ⟨.nil (by simp),.nil (by simp)⟩
  ·have hmem:XY w Gb g 0 ls:=by
    refine XY.of_cells (h4.mono hA) fun j u hj=>?_
    have hjl:j<ls.length:=by
     have:=(XA.1 hj).1
     have h5:=h4.length
     omega
    rw [T5,Zw hjl] at hj
    refine ⟨?_,.inr ⟨_,_,hm,rfl,by omega⟩⟩
    rw [Wv,cell_of_row w g j cur el (0,0) h1]
    simpa using hj
   have hels:∀(l:List AV),(∀y∈l,∃u,y=.val u)->Zc l=l:=by
    intro l
    induction l with
    | nil=>intro _;rfl
    | cons y r ih=>
     intro hy
     obtain ⟨u,rfl⟩:=hy y (YZ ..)
     simp only [Zc,JK,AV.leaves,List.singleton_append]
     rw [show r.flatMap AV.leaves=Zc r from rfl,ih fun z hz=>hy z (Xr _ hz)]
   have hE:Wy w Gb 1 g 0 ls:=Wy.of_flat ls (fun y hy=>by obtain ⟨u,rfl⟩:=hval y hy;rfl) (by rw [hels ls hval];exact hmem)
   refine ⟨?_,.sl (by simp) h2 hE⟩
   have hl:(ls.take m).length=m:=by simp [hmle]
   show RV w Gb (.sl (ls.take m) none) (.slice (some ⟨g,0,none⟩) m cap)
   conv=>arg 4;rw [<-hl]
   exact .sl (by simp) om (hE.take m)
inductive Ug (bs:List Res):List AV->List AV->Prop
 | nil:Ug bs [] []
 | same {x as1 xs} (t:Ug bs as1 xs):Ug bs (x::as1) (x::xs)
 | lent {v ls as1 xs} (h:Res.vec v ls∈bs) (t:Ug bs as1 xs):Ug bs (.val v::as1) (.sl ls none::xs)
 | cut {v ls m as1 xs} (h:Res.vec v ls∈bs) (hm:m<=ls.length) (t:Ug bs as1 xs):Ug bs (.val (Kg v m)::as1) (.sl (ls.take m) none::xs)
theorem Ug.rcs {w:World} {G Gb:ZY} {bs:List Res} (hA:V1 G w w Gb)
  (hb:∀v ls,Res.vec v ls∈bs->∀m,m<=ls.length->RV w Gb (.sl (ls.take m) none) (Kg v m)/\RV w Gb (.sl ls none) v) :
  ∀{as1 xs:List AV} {vs:List Value},Ug bs as1 xs->Yz w G as1 vs->Yz w Gb xs vs
 | _,_,_,.nil,.nil=>.nil
 | _,_,_,.same t,.cons h r=>.cons (h.mono hA) (t.rcs hA hb r)
 | _,_,_,.lent hm t,.cons h r=>by
  have:=h.val_inv
  subst this
  exact .cons (hb _ _ hm 0 (T7 _)).2 (t.rcs hA hb r)
 | _,_,_,.cut hm hle t,.cons h r=>by
  have:=h.val_inv
  subst this
  exact .cons (hb _ _ hm _ hle).1 (t.rcs hA hb r)
theorem W3.lend {P:Program} {f:FuncId} {as1 xs:List AV} {h1:List Res} (bs:List Res) {R:AV->List Res->Prop} (H:W3 P f xs h1 R) (hargs:Ug bs as1 xs)
  (hb:∀r∈bs,∃v ls,r=.vec v ls/\∀y∈ls,∃u,y=.val u) (hclean:∀r h',R r h'->TN h' r/\∀q∈h',AA q) :
  W3 P f as1 (h1++bs) (fun r h'=>∃h1',R r h1'/\h'=h1'++bs):=by
 intro w G vs hvs hh
 obtain ⟨Gb,g1,g2,g3,g4⟩:=Yj.lend hb hh
 have hA:V1 G w w Gb:=⟨fun _ _ _=>rfl,g1⟩
 refine (H w Gb vs (hargs.rcs hA g4 hvs) g3).mono ?_
 rintro e w' ⟨v,r,h',G',rfl,hR,hv,hh',hx⟩
 obtain ⟨c1,c2⟩:=hclean r h' hR
 let G2:ZY:=fun b o=>G' b o/\¬(WG bs b o)
 have hbslt:∀b o,WG bs b o->b<w.heap.size:=fun b o ⟨q,hq,hf⟩=>(hh.ok q (YU.2 (.inr hq))).lt b o hf
 have hwhole:∀b o o',WG bs b o->WG bs b o':=fun b o o' ⟨q,hq,hf⟩=>⟨q,hq,by
  obtain ⟨v,ls,rfl,_⟩:=hb q hq
  cases v with
  | slice a l c=>cases a with
   | none=>exact hf.elim
   | some a=>exact hf
  | _=>exact hf.elim⟩
 have hGkeep:∀b o,G b o->G2 b o:=fun b o hg=>⟨hx.sub b o (g1 b o hg),fun ⟨q,hq,hf⟩=>hh.prot q (YU.2 (.inr hq)) b o hf hg⟩
 have hnew:∀v k g,Res.tail v k∈h'->v.ownBlock=some g->∀o,G' g o->G2 g o:=by
  intro v k g hm hg o hgo
  refine ⟨hgo,fun hf=>?_⟩
  have hlt:=hbslt _ _ hf
  rcases hh'.ok _ hm with rfl|⟨g',len,cap,cur,el,rfl,t1,t2,t3⟩
  ·simp [Value.ownBlock] at hg
  ·simp only [Value.ownBlock,XQ] at hg
   subst hg
   have hfp:WG h' g' (len*k):=⟨_,hm,rfl,YQ _⟩
   exact hh.cross (hx.newfp g' (len*k) hlt hfp) (hwhole _ _ _ hf)
 have e1:YO w G h1 w' G2 h':=⟨hx.os,hx.tape,hx.output,hx.size,hGkeep,hx.same,fun b o hb' hg=>by
  rcases hx.newG b o hb' hg.1 with h|h
  ·rcases g2 b o h with h|h
   ·exact .inl h
   ·exact absurd h hg.2
  ·exact .inr h,hx.newfp⟩
 have e2:Yj w' G2 h':=⟨fun q hq=>by
   have h0:=hh'.ok q hq
   have hcq:=c2 q hq
   cases q with
   | obj b ls=>obtain ⟨cs,el,k1,k2⟩:=h0;exact ⟨cs,el,k1,k2.vals hcq⟩
   | tail v k=>exact h0
   | ge s=>exact h0
   | vec v ls=>
    rcases h0 with ⟨rfl,h0⟩|⟨g,cap,cur,el,rfl,k1,k2,k3,k4⟩
    ·exact .inl ⟨rfl,h0⟩
    ·exact .inr ⟨g,cap,cur,el,rfl,k1,k2,k3,k4.vals hcq⟩
   | many ts=>exact h0
   | own B m=>exact h0
   | row v k ls=>
    rcases h0 with ⟨rfl,h0⟩|⟨g,len,cap,cur,el,rfl,k1,k2,k3,k4,k5⟩
    ·exact .inl ⟨rfl,h0⟩
    ·exact .inr ⟨g,len,cap,cur,el,rfl,k1,k2,k3,k4,k5.vals hcq⟩,hh'.apart,fun q hq b o hf hg=>hh'.prot q hq b o hf hg.1,fun b o hg=>hh'.lt b o hg.1⟩
 obtain ⟨f1,f2⟩:=hh.frame e1 e2
 exact ⟨v,r,h'++bs,G2,rfl,⟨h',hR,rfl⟩,RV.clean hnew c1 hv,f1,f2⟩
section
variable {P:Program} {n:Nat} {ops:Array Oper} {B:Fr->List Res->Prop} {k:Nat} {F:Fr} {h h2:List Res}
def Bk (P:Program) (ops:Array Oper) (F:Fr) (k:Nat):Option (AV × Int):=
 match (ZB ops k).op with
 | .slice t x none (some hi) none=>match P.underlying t with
  | some (.slice e)=>match P.info? e with
   | some _=>match F.ev hi with
    | .val (.int _ m)=>some (F.ev x,m)
    | _=>none
   | none=>none
  | _=>none
 | _=>none
theorem Z5a (j:Nat) {v:Value} {ls:List AV} {m:Nat} (hi:Bk P ops F k=some (.val v,(m:Int))) (hj:h[j]? = some (.vec v ls)) (hle:m<=ls.length) :
  XP P (ZB ops k) F h [] (.val (Kg v m)):=by
 unfold Bk at hi
 generalize hoo:ZB ops k=o at hi
 obtain ⟨dst,op,type,pos,after,guard⟩:=o
 cases op<;>simp only at hi<;>try (cases hi)
 rename_i t x lo hi' mx
 cases lo with
 | some _=>simp at hi
 | none=>
  cases hi' with
  | none=>simp at hi
  | some y=>
   cases mx with
   | some _=>simp at hi
   | none=>
    simp only at hi
    split at hi
    ·rename_i e ht
     split at hi
     ·rename_i inf hinf
      split at hi
      ·rename_i ik m' hm
       simp only [XQ,Prod.mk.injEq] at hi
       obtain ⟨hx,rfl⟩:=hi
       intro n w G a hF hh
       have v1:=hF.ev x
       rw [hx] at v1
       have v1:=v1.val_inv
       have v2:=hF.ev y
       rw [hm] at v2
       have v2:=v2.val_inv
       have hvec:=hh.ok _ (ZW hj)
       obtain ⟨ad,cap,hform⟩:=Jf.form hvec
       have hcap:ls.length<=cap:=by
        rcases hvec with ⟨rfl,rfl⟩|⟨g,cap',cur,el,rfl,_,hc,_⟩
        ·simp
        ·cases hform;exact hc
       subst hform
       refine ⟨_,.val,fun w' _ _=>?_⟩
       have Zb:=fun c=>Bh (P:=P) (c:=c) (v:=.int ik (m:Int)) (y:=cap) rfl om om w'
       simp only [execOp,v1,v2,Bu,Option.map_none]
       refine WY ?_
       simp only [Instr.sliceAt,Sem.run_bind,VJ ht,Result.andThen_ok,Instr.slice]
       have hmm:(Instr.sliceBounds true ls.length cap none (some (.int ik (m:Int))) none).run P w'=.ok (0,m,cap) w':=by simp [Instr.sliceBounds,Zb]
       rw [hmm]
       have hz:∀a:Addr,a.add 0=a:=fun a=>by simp [Addr.add]
       simp only [Result.andThen_ok,Tl hinf,Nat.zero_mul,hz,Kg]
       simp
      ·cases hi
     ·cases hi
    ·cases hi
theorem Z65 {w:World} {G:ZY} {v:Value} {ls:List AV} {m:Nat} (hh:Yj w G (.vec v ls::h2)) (hle:m<=ls.length) :
  Yj w G (.vec (Kg v m) (ls.take m)::h2)/\YO w G (.vec v ls::h2) w G (.vec (Kg v m) (ls.take m)::h2):=by
 have hpw:=Wb.1 hh.apart
 have hfp:∀b o,Res.fp (.vec (Kg v m) (ls.take m)) b o->Res.fp (.vec v ls) b o:=by
  intro b o hf
  cases v with
  | slice a l c=>cases a with
   | none=>exact hf.elim
   | some a=>exact hf
  | _=>exact hf
 refine ⟨⟨fun r hr=>?_,Wb.2 ⟨fun r hr b o h1 h2=>hpw.1 r hr b o (hfp b o h1) h2,hpw.2⟩,fun r hr b o hf hg=>?_,hh.lt⟩,⟨rfl,rfl,rfl,YQ _,fun _ _ h=>h,fun _ _=>.inl rfl,fun _ _ _ h=>.inl h,?_⟩⟩
 ·rcases Yr.1 hr with rfl|hr
  ·rcases hh.ok _ (YZ ..) with ⟨rfl,rfl⟩|⟨g,cap,cur,e,rfl,h1,h3,h4,h5⟩
   ·have:m=0:=by simpa using hle
    subst this
    exact .inl ⟨rfl,rfl⟩
   ·refine .inr ⟨g,cap,cur,e,by simp [Kg,hle],h1,by simp;omega,h4,?_⟩
    have:=h5.take m
    rw [List.take_take,Vb hle] at this
    simpa [hle] using this
  ·exact hh.ok r (Xr _ hr)
 ·rcases Yr.1 hr with rfl|hr
  ·exact hh.prot _ (YZ ..) b o (hfp b o hf) hg
  ·exact hh.prot r (Xr _ hr) b o hf hg
 ·rintro b o _ ⟨r,hr,hf⟩
  rcases Yr.1 hr with rfl|hr
  ·exact ⟨_,YZ ..,hfp b o hf⟩
  ·exact ⟨r,Xr _ hr,hf⟩
theorem Z62 {w:World} {G:ZY} {v:Value} {ls:List AV} (hh:Yj w G (.vec v ls::h2)) (hls:∀y∈ls,y.leaves=[y]) :
  ∃G',Yj w G' (.tail v 1::h2)/\YO w G (.vec v ls::h2) w G' (.tail v 1::h2)/\RV w G' (.sl ls (some v)) v:=by
 have hpw:=Wb.1 hh.apart
 rcases hh.ok _ (YZ ..) with ⟨rfl,rfl⟩|⟨g,cap,cur,e,rfl,h1,h3,h4,h5⟩
 ·obtain ⟨k1,k2⟩:=GH (sz:=1) (hh.sub (JM _ _))
  refine ⟨G,k1,⟨rfl,rfl,rfl,YQ _,fun _ _ h=>h,fun _ _=>.inl rfl,fun _ _ _ h=>.inl h,?_⟩,.nil (by simp)⟩
  rintro b o _ ⟨r,hr,hf⟩
  rcases Yr.1 hr with rfl|hr
  ·exact hf.elim
  ·exact ⟨r,Xr _ hr,hf⟩
 ·let G':ZY:=fun b o=>G b o∨(b=g/\o<ls.length)
  have hA:V1 G w w G':=⟨fun _ _ _=>rfl,fun _ _ h=>.inl h⟩
  have hmem:Res.vec (.slice (some ⟨g,0,none⟩) ls.length cap) ls∈Res.vec (.slice (some ⟨g,0,none⟩) ls.length cap) ls::h2:=YZ ..
  refine ⟨G',⟨fun r hr=>?_,Wb.2 ⟨fun r hr b o f1 f2=>hpw.1 r hr b o f1.1 f2,hpw.2⟩,fun r hr b o hf hg=>?_,fun b o hg=>?_⟩,
   ⟨rfl,rfl,rfl,YQ _,fun _ _ h=>.inl h,fun _ _=>.inl rfl,fun b o _ hg=>hg.imp id fun ⟨e1,_⟩=>⟨_,hmem,e1⟩,?_⟩,?_⟩
  ·rcases Yr.1 hr with rfl|hr
   ·exact .inr ⟨g,ls.length,cap,cur,e,rfl,h1,h3,by rw [h4,J9]⟩
   ·have h0:=hh.ok r (Xr _ hr)
    cases r with
    | obj b ks=>obtain ⟨cs,el,k1,k2⟩:=h0;exact ⟨cs,el,k1,k2.mono hA⟩
    | tail v k=>exact h0
    | ge s=>exact h0
    | vec v ks=>
     rcases h0 with ⟨rfl,h0⟩|⟨g2,cap2,cur2,el,rfl,k1,k2,k3,k4⟩
     ·exact .inl ⟨rfl,h0⟩
     ·exact .inr ⟨g2,cap2,cur2,el,rfl,k1,k2,k3,k4.mono hA⟩
    | many ts=>exact h0
    | own B m=>exact h0
    | row v k ks=>
     rcases h0 with ⟨rfl,h0⟩|⟨g2,len2,cap2,cur2,el,rfl,k1,k2,k3,k4,k5⟩
     ·exact .inl ⟨rfl,h0⟩
     ·exact .inr ⟨g2,len2,cap2,cur2,el,rfl,k1,k2,k3,k4,k5.mono hA⟩
  ·rcases Yr.1 hr with rfl|hr2
   ·obtain ⟨hbg,hf2⟩:=hf
    rcases hg with hg|⟨_,hg⟩
    ·exact hh.prot _ hmem b o hbg hg
    ·rw [J9] at hf2;omega
   ·rcases hg with hg|⟨hbg,_⟩
    ·exact hh.prot r (Xr _ hr2) b o hf hg
    ·exact hpw.1 r hr2 b o hbg hf
  ·rcases hg with hg|⟨rfl,_⟩
   ·exact hh.lt b o hg
   ·exact (Vs.1 h1).1
  ·rintro b o _ ⟨r,hr,hf⟩
   rcases Yr.1 hr with rfl|hr
   ·exact ⟨_,hmem,hf.1⟩
   ·exact ⟨r,Xr _ hr,hf⟩
  ·have hflat:Zc ls=ls:=by
    clear h5 h3 hh hpw hmem hA h4
    induction ls with
    | nil=>rfl
    | cons y r ih=>
     simp only [Zc,JK,hls y (YZ ..),List.singleton_append]
     rw [show r.flatMap AV.leaves=Zc r from rfl,ih fun q hq=>hls q (Xr _ hq)]
   refine .sl (k:=1) (fun x hx=>by cases hx;rfl) h3 (Wy.of_flat ls (fun y hy=>by rw [hls y hy];rfl) ?_)
   rw [hflat]
   refine XY.of_cells (h5.mono hA) fun j u hj=>?_
   have hjl:j<ls.length:=by
    have:=(XA.1 hj).1
    have h6:=h5.length
    omega
   rw [T5,Zw hjl] at hj
   refine ⟨?_,.inr ⟨rfl,by omega⟩⟩
   rw [Wv,cell_of_row w g j cur e (0,0) h1]
   simpa using hj
end
section
variable {P:Program} {n:Nat} {ops:Array Oper} {B:Fr->List Res->Prop} {k:Nat} {F:Fr} {h h2:List Res}
variable {T:List (Nat × List Nat)} {fuel fuel':Nat} {done:List Nat}
theorem Z1r {K:Fr->List Res->Prop} {ls:List AV} {len:Nat} (hd:WV n (ZB ops k)=true) (ha:Um P ops F k=some (ls,len,1)) (hlen:ls.length=len)
  (hK:∀v,K (F.put (ZB ops k).dst (.val v)) (.vec v ls::h)):Wc P n (ZB ops k) F h K:=by
 unfold Um at ha
 generalize hoo:ZB ops k=q at ha hd hK
 obtain ⟨dst,op,type,pos,after,guard⟩:=q
 cases op<;>simp only at ha<;>try (cases ha)
 rename_i t ln parts
 split at ha
 case h_2=>cases ha
 rename_i e ht
 split at ha
 case h_2=>cases ha
 rename_i i hi
 split at ha
 case h_2=>cases ha
 rename_i hc
 simp only [Wn] at hc
 split at ha
 case h_2=>cases ha
 rename_i ls' hf
 simp only [XQ,Prod.mk.injEq] at ha
 obtain ⟨rfl,rfl,X6⟩:=ha
 subst hlen
 intro Q w G a hF hh
 obtain ⟨cs,h1,h2⟩:=DN hF parts ht hi rfl hc.1 hc.2 hf
 have hr:(execOp a.eval { dst:=dst,op:=.buildSlice t ls'.length parts,type:=type,pos:=pos,after:=after,guard:=guard }).run P w =
   .ok (.value (.slice (some ⟨w.heap.size,0,none⟩) ls'.length ls'.length)) (w.alloc (.cells cs e)):=by
  simp only [execOp]
  exact WY h2
 unfold Oper.wp
 rw [hr]
 have hlc:=h1.length
 simp only [Qs] at hlc
 obtain ⟨j1,j2⟩:=hh.alloc_vec cs e (ls:=ls') (cap:=ls'.length) (YQ _) hlc (by rw [<-hlc];simpa [WT] using h1)
 exact ⟨_,_,G,hK _,(hF.mono (j2.agree hh)).put (Ux hd) .val,j1,j2⟩
theorem SK (ls:List AV) {len:Nat} (hk:YY n ops F k=true) (ha:Um P ops F k=some (ls,len,1)) (hlen:ls.length=len)
  (hK:∀v,SI P n ops B (k+1) (F.put (ZB ops k).dst (.val v)) (.vec v ls::h)):SI P n ops B k F h:=
 Tf hk (Z1r (Vo hk).2.1 ha hlen hK)
theorem SQ (j:Nat) {v:Value} {ls:List AV} {i:Nat} {y:AV} (ls':List AV) (hk:YY n ops F k=true) (hs:storeAt P ops F k=some (Tq v,i,[y])) (hp:Vp [j] h=some ([.vec v ls],h2))
  (hlt:i<ls.length) (he:ls.set i y=ls') (H:SI P n ops B (k+1) F (.vec v ls'::h2)):SI P n ops B k F h:=
 Tf hk (Wc.perm (Vq hp) (LH hs hlt (by rw [he];exact H)))
theorem Pt (i j:Nat) (js bs:List Nat) {v:Value} {ls:List AV} {q:Nat} {y:AV} (ls':List AV) (hk:YY n ops F i=true) (hs:storeAt P ops F i=some (Tq v,q,[y]))
  (hp:Vp [j] h=some ([.vec v ls],h2)) (hlt:q<ls.length) (he:ls.set q y=ls') (ho:Vf ops i T=bs) (hj:js.map (fun j=>(Wa h2)[j]?)=bs.map some)
  (H:YJ P n ops B (T.filter fun t=>!Wt ops i t.1) fuel (done++[i]) F (.vec v ls'::h2)):WL P n ops B T fuel done F h i:=
 Qf [j] js bs hk hp ho hj (LH (h2:=[]) hs hlt (by rw [he];exact H))
theorem SP (j:Nat) (ls':List AV) {v:Value} {ls xs:List AV} {hx:Option Value} (hk:YY n ops F k=true) (ha:VB P ops F k=some (.val v,.sl xs hx,1)) (hp:Vp [j] h=some ([.vec v ls],h2))
  (hxs:∀y∈xs,y.leaves=[y]) (hone:xs.all AV.one=true) (hbound:ls.length+xs.length<=4294967296) (he:ls++xs=ls')
  (hK:∀v',SI P n ops B (k+1) (F.put (ZB ops k).dst (.val v')) (.vec v' ls'::h2)):SI P n ops B k F h:=
 Tf hk (Wc.perm (Vq hp) (LG (Vo hk).2.1 ha hxs hone hbound fun v'=>by rw [he];exact hK v'))
theorem Ps (i j:Nat) (js bs:List Nat) (ls':List AV) {v:Value} {ls xs:List AV} {hx:Option Value} (hk:YY n ops F i=true) (ha:VB P ops F i=some (.val v,.sl xs hx,1))
  (hp:Vp [j] h=some ([.vec v ls],h2)) (hxs:∀y∈xs,y.leaves=[y]) (hone:xs.all AV.one=true) (hbound:ls.length+xs.length<=4294967296) (he:ls++xs=ls')
  (ho:Vf ops i T=bs) (hj:js.map (fun j=>(Wa h2)[j]?)=bs.map some)
  (hK:∀v',YJ P n ops B (T.filter fun t=>!Wt ops i t.1) fuel (done++[i]) (F.put (ZB ops i).dst (.val v')) (.vec v' ls'::h2)):WL P n ops B T fuel done F h i:=
 Qf [j] js bs hk hp ho hj (LG (h2:=[]) (Vo hk).2.1 ha hxs hone hbound fun v'=>by rw [he];exact hK v')
theorem SF (f:FuncId) (as1 xs:List AV) (is:List Nat) {h1:List Res} (bs:List Res) {R:AV->List Res->Prop} (hk:YY n ops F k=true) (hc:Qd P ops F k=some (f,as1))
  (hp:Vp is h=some (h1++bs,h2)) (H:W3 P f xs h1 R) (hargs:Ug bs as1 xs) (hb:∀r∈bs,∃v ls,r=.vec v ls/\∀y∈ls,∃u,y=.val u)
  (hclean:∀r h',R r h'->TN h' r/\∀q∈h',AA q)
  (hK:∀r h',R r h'->SI P n ops B (k+1) (F.put (ZB ops k).dst r) (h'++bs++h2)):SI P n ops B k F h:=
 Tf hk (DE (Vo hk).2.1 hc (Vq hp) (H.lend bs hargs hb hclean) fun r h' ⟨h1',hr,he⟩=>by rw [he];exact hK r h1' hr)
theorem Pj (i:Nat) (f:FuncId) (as1 xs:List AV) (is js ks:List Nat) {h1:List Res} (bs:List Res) {R:AV->List Res->Prop} (hk:YY n ops F i=true) (hc:Qd P ops F i=some (f,as1))
  (hp:Vp is h=some (h1++bs,h2)) (ho:Vf ops i T=ks) (hj:js.map (fun j=>(Wa h2)[j]?)=ks.map some)
  (H:W3 P f xs h1 R) (hargs:Ug bs as1 xs) (hb:∀r∈bs,∃v ls,r=.vec v ls/\∀y∈ls,∃u,y=.val u)
  (hclean:∀r h',R r h'->TN h' r/\∀q∈h',AA q)
  (hK:∀r h',R r h'->YJ P n ops B (T.filter fun t=>!Wt ops i t.1) fuel (done++[i]) (F.put (ZB ops i).dst r) (h'++bs++h2)):WL P n ops B T fuel done F h i:=
 Qf is js ks hk hp ho hj (DE (h2:=[]) (Vo hk).2.1 hc (by simp) (H.lend bs hargs hb hclean) fun r h' ⟨h1',hr,he⟩=>by rw [he];simpa using hK r h1' hr)
def UK (h h':List Res):Prop:=∀w G,Yj w G h->∃G',Yj w G' h'/\YO w G h w G' h'
theorem Xx {h':List Res} (ht:UK h h') (H:SI P n ops B k F h'):SI P n ops B k F h:=by
 intro Q w G a hF hh hk
 obtain ⟨G',h1,h2⟩:=ht w G hh
 exact H Q w G' a (hF.mono (h2.agree hh)) h1 fun F2 h2' G2 a2 w2 b1 b2 b3 b4=>hk F2 h2' G2 a2 w2 b1 b2 b3 (h2.trans b4)
theorem Z5g:UK h (.vec (.slice none 0 0) []::h):=fun _ _ hh=>let ⟨a,b⟩:=Z63 hh;⟨_,a,b⟩
theorem Z5h (j m:Nat) {v:Value} {ls:List AV} (hp:Vp [j] h=some ([.vec v ls],h2)) (hle:m<=ls.length):UK h (.vec (Kg v m) (ls.take m)::h2):=by
 intro w G hh
 have hp':=Vq hp
 obtain ⟨a,b⟩:=Z65 (hh.perm hp') hle
 exact ⟨G,a,b.perm hp'.symm (T3 _)⟩
theorem Nc (is:List Nat) {h' d:List Res} (hp:Vp is h=some (h',d)):UK h h':=by
 intro w G hh
 have hp':=Vq hp
 refine ⟨G,(hh.perm hp').left,?_⟩
 exact ((YO.refl w G h).perm (T3 _) hp').sub' (List.sublist_append_left _ _)
end
theorem GO (xs:LI):∀y∈Z7 xs,∃u,y=AV.val u:=by intro y hy;simp only [Z7,Wg] at hy;obtain ⟨x,_,rfl⟩:=hy;exact ⟨_,rfl⟩
theorem FJ (xs:LI):∀y∈Z7 xs,y.leaves=[y]:=by intro y hy;simp only [Z7,Wg] at hy;obtain ⟨x,_,rfl⟩:=hy;rfl
theorem Lu (xs:LI):(Z7 xs).all AV.one=true:=by rw [Kh];intro y hy;simp only [Z7,Wg] at hy;obtain ⟨x,_,rfl⟩:=hy;rfl
theorem Mx (xs:LI) (i:Nat) (x:Int):(Z7 xs).set i (.i x)=Z7 (xs.set i x):=by simp [Z7,List.map_set]
theorem QE:∀r∈([]:List Res),∃v ls,r=Res.vec v ls/\∀y∈ls,∃u,y=AV.val u:=by simp
theorem TX {v:Value} {xs:LI} {bs:List Res} (h:∀r∈bs,∃v ls,r=Res.vec v ls/\∀y∈ls,∃u,y=AV.val u) :
  ∀r∈Res.vec v (Z7 xs)::bs,∃v ls,r=Res.vec v ls/\∀y∈ls,∃u,y=AV.val u:=by
 intro r hr
 rcases Yr.1 hr with rfl|hr
 ·exact ⟨_,_,rfl,GO xs⟩
 ·exact h r hr
section
variable {P:Program} {n:Nat} {c:Code} {A:Ws} {F:Fr} {h:List Res}
@[reducible] def CQ (K:Fr->List Res->Prop) (A:Ws):Ws:=fun e F h=>
 match e with
 | .normal=>∃F' h',K F' h'/\Uj F h F' h'
 | e=>A e F h
theorem NP {y:Code} (K:Fr->List Res->Prop) (H:Yi P n c (CQ K A) F h) (hB:∀F' h',K F' h'->Yi P n y A F' h'):Yi P n c (JI P n y A) F h:=by
 refine H0 (fun e F1 h1 hq=>?_) H
 cases e with
 | normal=>obtain ⟨F',h',k1,k2⟩:=hq;exact AB k2 (hB F' h' k1)
 | exit id=>exact hq
 | goto l=>exact hq
 | ret=>exact hq
 | panic ch=>exact hq
 | outgrown=>exact hq
theorem Xm {ops:Array Oper} {B:Fr->List Res->Prop} {k:Nat} {F2:Fr} {h2:List Res} (hw:Uj F h F2 h2) (J:SI P n ops B k F2 h2):SI P n ops B k F h:=DQ hw J
theorem NO {y:Code} {A2:Ws} (K:Fr->List Res->Prop) (hA:∀F h,A .normal F h=Yi P n y A2 F h) (H:Yi P n c (CQ K A) F h) (hB:∀F' h',K F' h'->Yi P n y A2 F' h'):Yi P n c A F h:=by
 refine H0 (fun e F1 h1 hq=>?_) H
 cases e with
 | normal=>obtain ⟨F',h',k1,k2⟩:=hq;rw [hA];exact AB k2 (hB F' h' k1)
 | exit id=>exact hq
 | goto l=>exact hq
 | ret=>exact hq
 | panic ch=>exact hq
 | outgrown=>exact hq
end
end Go.Abs
section
namespace Go.Abs
inductive Keep:Fr->Fr->Prop
 | z {F:Fr}:Keep F []
 | r {F:Fr}:Keep F F
 | k {F F':Fr} {x:Nat × AV} (h:Keep F F'):Keep (x::F) (x::F')
 | d {F F':Fr} {x:Nat × AV} (h:Keep F F'):Keep (x::F) F'
 | p {F F':Fr} {d:Option Tmp} {x:AV} (h:Keep F F'):Keep (F.put d x) F'
 | q {F F':Fr} {d:Option Tmp} {x:AV} (t:Nat) (h:Keep F F'):Keep (F.put d x) ((t,x)::F')
 | n {F F':Fr} (t:Nat) (x:AV) (h:Keep F F'):Keep F ((t,x)::F')
def Xq (is:List Nat) (h:List Res):List Res:=((Vp is h).map (·.2)).getD []
def XU (is:List Nat) (h:List Res):Option (List Res):=(Vp is h).map (·.1)
theorem WI {is:List Nat} {h h1:List Res} (hp:XU is h=some h1):Vp is h=some (h1,Xq is h):=by
 unfold XU at hp
 unfold Xq
 cases hq:Vp is h with
 | none=>rw [hq] at hp;cases hp
 | some x=>rw [hq] at hp;cases hp;rfl
abbrev Z6 (xs:LI):AV:=.sl (Z7 xs) none
abbrev B8 (xs:List LI):AV:=.sl (WA xs) none
abbrev Qm (xs:List Y7):AV:=.sl (Wo xs) none
abbrev YM (xs:List Zd):AV:=.sl (X0 xs) none
abbrev Wp (xs:List Z3):AV:=.sl (Zj xs) none
abbrev XG (xs:List Z4):AV:=.sl (Yu xs) none
abbrev TY (xs:List Y8):AV:=.sl (Yx xs) none
abbrev ZQ (xs:LI) (v:Value):AV:=.sl (Z7 xs) (some v)
abbrev FZ (xs:List LI) (v:Value):AV:=.sl (WA xs) (some v)
abbrev DA (xs:List Y7) (v:Value):AV:=.sl (Wo xs) (some v)
abbrev K7 (xs:List Zd) (v:Value):AV:=.sl (X0 xs) (some v)
abbrev YG (xs:List Z3) (v:Value):AV:=.sl (Zj xs) (some v)
abbrev U9 (xs:List Z4) (v:Value):AV:=.sl (Yu xs) (some v)
abbrev W6 (xs:List Y8) (v:Value):AV:=.sl (Yx xs) (some v)
abbrev FE (d:Zd):List AV:=[.i d.frm,.i d.to_,Qm d.cons]
abbrev Xf (s:Z3):List AV:=[.i s.op,.i s.num,.i s.into,Z6 s.args,XG s.kids]
abbrev YI (b:Z4):List AV:=[Wp b.steps,.i b.result]
abbrev K4 (r:Y8):List AV:=[Z6 r.params,Z6 r.lent,.i r.result,Wp r.body.steps,.i r.body.result]
abbrev YN (n:Zx):List AV:=[YM n.decls,TY n.routines]
abbrev Z1b:Value:=.slice none 0 0
structure Hd where
 a:Option Addr
 l:Nat
 c:Nat
abbrev Hd.v (g:Hd):Value:=.slice g.a g.l g.c
abbrev Hd.cut (g:Hd) (m:Nat):Hd:=⟨g.a,m,g.c⟩
abbrev hN:Hd:=⟨none,0,0⟩
abbrev AV.h (g:Hd):AV:=.val g.v
abbrev rV (g:Hd) (xs:LI):Res:=.vec g.v (Z7 xs)
section
variable {P:Program} {n:Nat} {c:Code} {A:Ws} {F:Fr} {h:List Res} {ops:Array Oper} {B:Fr->List Res->Prop} {k:Nat}
variable {T:List (Nat × List Nat)} {fuel:Nat} {done:List Nat}
theorem aq (ha:Yi P n (Yv c) (JI P n (V3 c) A) F h) (hk:YV c=3:=by kernel_rfl):Yi P n c A F h:=Eo hk ha
theorem ar (hs:SI P n (Xl (Yv c)) (fun F h=>Yi P n (V3 c) A F h) 0 F h) (hk:YV c=3:=by kernel_rfl) (hk1:YV (Yv c)=1:=by kernel_rfl):Yi P n c A F h:=NS hk hk1 (ID hs)
theorem az (hs:SI P n (Xl c) (A .normal) 0 F h) (hk:YV c=1:=by kernel_rfl):Yi P n c A F h:=H1 hk (ID hs)
theorem aD (k:Nat) (hs:YJ P n (Xl (Yv c)) (fun F h=>Yi P n (V3 c) A F h) [] k [] F h) (hk:YV c=3:=by kernel_rfl) (hk2:YV (Yv c)=2:=by kernel_rfl) (hm:P.follows .mixedOrders=true:=by kernel_rfl)
  (X6:(Xl (Yv c)).size=k:=by kernel_rfl):Yi P n c A F h:=NT hk hk2 hm X6 hs
theorem aE (k:Nat) (hs:YJ P n (Xl c) (A .normal) [] k [] F h) (hk:YV c=2:=by kernel_rfl) (hm:P.follows .mixedOrders=true:=by kernel_rfl)
  (X6:(Xl c).size=k:=by kernel_rfl):Yi P n c A F h:=H2 hk hm X6 hs
theorem ak (h0:A .normal F h) (hk:YV c=0:=by kernel_rfl):Yi P n c A F h:=NW hk h0
theorem ax (id:Nat) (h0:A (.exit id) F h) (hk:YV c=7:=by kernel_rfl) (hi:TR c=id:=by kernel_rfl):Yi P n c A F h:=NQ id hk hi h0
theorem ab (id:Nat) (ha:Yi P n (Yv c) (CG id A) F h) (hk:YV c=5:=by kernel_rfl) (hi:TR c=id:=by kernel_rfl):Yi P n c A F h:=NN id hk hi ha
theorem ac (b:Bool) {p:Prop} (hp:b=true↔p) (h1:p->Yi P n (Yv c) A F h) (h2:¬p->Yi P n (V3 c) A F h) (hk:YV c=4:=by kernel_rfl) (hc:F.ev (Ku c)=.val (.bool b):=by kernel_rfl) :
  Yi P n c A F h:=Em hk hc hp h1 h2
theorem Vj (h1:Yi P n (Yv c) A F h) (hk:YV c=4:=by kernel_rfl) (hc:F.ev (Ku c)=.val (.bool true):=by kernel_rfl):Yi P n c A F h:=
 Em (p:=True) hk hc (by simp) (fun _=>h1) (fun q=>absurd trivial q)
theorem Wz (h1:Yi P n (V3 c) A F h) (hk:YV c=4:=by kernel_rfl) (hc:F.ev (Ku c)=.val (.bool false):=by kernel_rfl):Yi P n c A F h:=
 Em (p:=False) hk hc (by simp) (fun q=>q.elim) (fun _=>h1)
theorem al (Inv:Nat->Fr->List Res->Prop) (m0:Nat) (F0:Fr) (h0:List Res) (hi:Inv m0 F0 h0) (hw:Uj F h F0 h0)
  (hr:∀m F h,Inv m F h->Yi P n (Yv c) (FQ Inv m A) F h) (hk:YV c=6:=by kernel_rfl):Yi P n c A F h:=NR Inv hk hi hw hr
theorem wk {F':Fr} {h1 h':List Res} (is:List Nat) (hF:F.Le F') (e:h1=h':=by exact rfl) (hp:XU is h=some h1:=by kernel_rfl):Uj F h F' h':=e▸Z6l is hF (WI hp)
theorem fl {F F':Fr} (h:F'.map (fun p=>(F.get p.1).like p.2)=F'.map (·.2):=by kernel_rfl):F.Le F':=I3 h
theorem fc {F F':Fr} {t:Nat} {x y:AV} (hxy:Ze x y) (hr:F.Le F') (hx:F.get t=x:=by kernel_rfl):F.Le ((t,y)::F'):=AW hx hxy hr
theorem lr (x:AV):Ze x x:=Ze.refl x
abbrev nl:AV:=.sl [] (some (.slice none 0 0))
theorem Keep.w {F F':Fr} {a b c d:Nat×AV} (h:Keep F F'):Keep (a::b::c::d::F) (a::b::c::d::F'):=.k (.k (.k (.k h)))
theorem dq {p:Prop} [Decidable p]:decide p=true↔p:=decide_eq_true_iff
theorem fr {F F':Fr} {t:Nat} {x:AV} (hr:F.Le F') (hx:F.get t=x:=by kernel_rfl):F.Le ((t,x)::F'):=fc (lr _) hr hx
theorem li {a b:Int} (h:a=b:=by exact ob):Ze (.i a) (.i b):=Ze.i h
theorem lb {a b:Bool} (h:a=b):Ze (.b a) (.b b):=Ze.b h
theorem r1 {fn:Func} {R:AV->List Res->Prop} {e:Exit} {h1 h':List Res} {r:AV} (is:List Nat) (hR:R r h') (eq:h1=h':=by exact rfl) (he:(match e with|.normal|.ret=>true|_=>false)=true:=by kernel_rfl)
  (hr:TG P F h fn.results.toList []=some ([r],[]):=by kernel_rfl) (hp:XU is h=some h1:=by kernel_rfl):Jd P fn R e F h:=
 G3 he [] hr (by simp) ⟨_,eq▸Vq (WI hp)⟩ (Ze.refl _) hR
theorem r2 {fn:Func} {R:AV->List Res->Prop} {e:Exit} {h1 h':List Res} {r:AV} (is:List Nat) (xs:List AV) (hR:R r h') (hle:Ze (J0 xs) r) (eq:h1=h':=by exact rfl) (he:(match e with|.normal|.ret=>true|_=>false)=true:=by kernel_rfl)
  (hr:TG P F h fn.results.toList []=some (xs,[]):=by kernel_rfl) (hp:XU is h=some h1:=by kernel_rfl):Jd P fn R e F h:=
 G3 he [] hr (by simp) ⟨_,eq▸Vq (WI hp)⟩ hle hR
theorem r3 {fn:Func} {R:AV->List Res->Prop} {e:Exit} {h1 h':List Res} {r:AV} (is:List Nat) (xs:List AV) (hints:List Nat) (es:List (Nat × Nat)) (hR:R r h') (hle:Ze (J0 xs) r)
  (eq:h1=h':=by exact rfl) (he:(match e with|.normal|.ret=>true|_=>false)=true:=by kernel_rfl)
  (hr:TG P F h fn.results.toList hints=some (xs,es):=by kernel_rfl) (hp:XU is h=some h1:=by kernel_rfl) (hes:∀p∈es,p.1=p.2:=by simp):Jd P fn R e F h:=
 G3 he hints hr hes ⟨_,eq▸Vq (WI hp)⟩ hle hR
theorem ZK (h0:A .ret F h) (hk:YV c=8:=by kernel_rfl):Yi P n c A F h:=NU hk h0
theorem ie (hB:B F h) (hk:Nat.ble ops.size k=true:=by kernel_rfl):SI P n ops B k F h:=IC hk hB
theorem io (x':AV) (x:AV) (hx:Ze x x') (H:SI P n ops B (k+1) (F.put (ZB ops k).dst x') h) (hk:YY n ops F k=true:=by kernel_rfl) (he:Ty P (ZB ops k) F h 0=some (x,[]):=by kernel_rfl):SI P n ops B k F h:=
 SM x' hk he hx H
theorem Zm {x:AV} (hs:XP P (ZB ops k) F h [] x) (H:SI P n ops B (k+1) (F.put (ZB ops k).dst x) h) (hk:YY n ops F k=true:=by kernel_rfl):SI P n ops B k F h:=Dj hk hs H
theorem ia (r s:Int) (H:SI P n ops B (k+1) (F.put (ZB ops k).dst (.i r)) h) (hb:-9223372036854775808<=r/\r<=9223372036854775807:=by omega) (hs:s=r:=by omega)
  (hk:YY n ops F k=true:=by kernel_rfl) (ha:JT ops F k=some s:=by kernel_rfl):SI P n ops B k F h:=SC r hk ha hs hb H
theorem ic (is:List Nat) {f:FuncId} {xs:List AV} {h1:List Res} {R:AV->List Res->Prop} (H:W3 P f xs h1 R)
  (hK:∀r h',R r h'->SI P n ops B (k+1) (F.put (ZB ops k).dst r) (h'++Xq is h)) (hk:YY n ops F k=true:=by kernel_rfl) (hc:Qd P ops F k=some (f,xs):=by kernel_rfl)
  (hp:XU is h=some h1:=by kernel_rfl):SI P n ops B k F h:=SD f xs is hk hc (WI hp) H hK
theorem iA (ls:List AV) (hK:∀b,SI P n ops B (k+1) (F.put (ZB ops k).dst (.p b 0)) (.obj b ls::h)) (hk:YY n ops F k=true:=by kernel_rfl) (ha:AC P ops F k=some ls:=by kernel_rfl):SI P n ops B k F h:=
 SA ls hk ha hK
theorem iS (j b o:Nat) (xs ls ls':List AV) (H:SI P n ops B (k+1) F (.obj b ls'::Xq [j] h)) (hk:YY n ops F k=true:=by kernel_rfl) (hs:storeAt P ops F k=some (b,o,xs):=by kernel_rfl)
  (hp:XU [j] h=some [.obj b ls]:=by kernel_rfl) (hle:Nat.ble (o+xs.length) ls.length=true:=by kernel_rfl) (he:ls.take o++xs++ls.drop (o+xs.length)=ls':=by kernel_rfl):SI P n ops B k F h:=
 SO j ls' hk hs (WI hp) hle he H
theorem iL (es:List AV) (len sz:Nat) (hK:∀v,SI P n ops B (k+1) (F.put (ZB ops k).dst (.sl es (some v))) (.tail v sz::h)) (hk:YY n ops F k=true:=by kernel_rfl)
  (ha:Um P ops F k=some (Zc es,len,sz):=by kernel_rfl) (hlen:es.length=len:=by kernel_rfl) (hall:Kr es sz=true:=by kernel_rfl):SI P n ops B k F h:=SJ es hk ha hlen hall hK
theorem ip (j:Nat) (es' es xs:List AV) (hv:Value) (hx:Option Value) (sz:Nat) (hes:∀y∈es,y.leaves.length=sz) (hxs:∀y∈xs,y.leaves.length=sz)
  (hone:(Zc xs).all AV.one=true) (hbound:es.length+xs.length<=4294967296) (he:es++xs=es') (hK:∀v',SI P n ops B (k+1) (F.put (ZB ops k).dst (.sl es' (some v'))) (.tail v' sz::Xq [j] h))
  (hk:YY n ops F k=true:=by kernel_rfl) (ha:VB P ops F k=some (.sl es (some hv),.sl xs hx,sz):=by kernel_rfl) (hp:XU [j] h=some [.tail hv sz]:=by kernel_rfl):SI P n ops B k F h:=
 SB j es' hk ha (WI hp) hes hxs hone hbound he hK
theorem ib {b:Bool} (t:Nat) (h1:b=true->SI P n ops B k ((t,.b true)::F) h) (h2:b=false->SI P n ops B k ((t,.b false)::F) h) (hF:F.get t=.b b:=by kernel_rfl):SI P n ops B k F h:=SN t hF h1 h2
theorem de (hB:B F h) (hr:Region.ready .any ops (Wf ops done)=[]:=by kernel_rfl):YJ P n ops B T fuel done F h:=Pm hr hB
theorem Z8 (i:Nat) (H:WL P n ops B T fuel done F h i) (hr:Region.ready .any ops (Wf ops done)=[i]:=by kernel_rfl):YJ P n ops B T (fuel+1) done F h:=Pp hr H
theorem dx (i:Nat) {x:AV} (hx:XP P (ZB ops i) F h [] x) (H:YJ P n ops B ((i,[])::T) fuel (done++[i]) (F.put (ZB ops i).dst x) h) (hs:Region.noSelect ops=true:=by kernel_rfl) (hk:YY n ops F i=true:=by kernel_rfl)
  (hf:Region.free .any ops (Wf ops done) i=true:=by kernel_rfl) (hr:(Region.ready .any ops (Wf ops done)).contains i=true:=by kernel_rfl):YJ P n ops B T (fuel+1) done F h:=CR i hs hk hf hr hx H
theorem dn (i:Nat) (x' x:AV) (hx:Ze x x') (H:YJ P n ops B ((i,[])::T) fuel (done++[i]) (F.put (ZB ops i).dst x') h) (he:Ty P (ZB ops i) F h 0=some (x,[]):=by kernel_rfl) (hs:Region.noSelect ops=true:=by kernel_rfl) (hk:YY n ops F i=true:=by kernel_rfl)
  (hf:Region.free .any ops (Wf ops done) i=true:=by kernel_rfl) (hr:(Region.ready .any ops (Wf ops done)).contains i=true:=by kernel_rfl):YJ P n ops B T (fuel+1) done F h:=Po i x' hs hk hf hr he hx H
theorem da (i:Nat) (r s:Int) (H:YJ P n ops B ((i,[])::T) fuel (done++[i]) (F.put (ZB ops i).dst (.i r)) h) (hb:-9223372036854775808<=r/\r<=9223372036854775807:=by omega) (hse:s=r:=by omega)
  (ha:JT ops F i=some s:=by kernel_rfl) (hs:Region.noSelect ops=true:=by kernel_rfl) (hk:YY n ops F i=true:=by kernel_rfl)
  (hf:Region.free .any ops (Wf ops done) i=true:=by kernel_rfl) (hr:(Region.ready .any ops (Wf ops done)).contains i=true:=by kernel_rfl):YJ P n ops B T (fuel+1) done F h:=Ph i r hs hk hf hr ha hse hb H
theorem dc (i:Nat) (is js bs:List Nat) {f:FuncId} {xs:List AV} {h1:List Res} {R:AV->List Res->Prop} (H:W3 P f xs h1 R)
  (hK:∀r h',R r h'->YJ P n ops B (T.filter fun t=>!Wt ops i t.1) fuel (done++[i]) (F.put (ZB ops i).dst r) (h'++Xq is h))
  (hk:YY n ops F i=true:=by kernel_rfl) (hc:Qd P ops F i=some (f,xs):=by kernel_rfl)
  (hp:XU is h=some h1:=by kernel_rfl) (ho:Vf ops i T=bs:=by kernel_rfl) (hj:js.map (fun j=>(Wa (Xq is h))[j]?)=bs.map some:=by kernel_rfl):WL P n ops B T fuel done F h i:=
 Pi i f xs is js bs hk hc (WI hp) ho hj H hK
theorem dA (i:Nat) (js bs:List Nat) (ls:List AV) (hK:∀b,YJ P n ops B (T.filter fun t=>!Wt ops i t.1) fuel (done++[i]) (F.put (ZB ops i).dst (.p b 0)) (.obj b ls::h))
  (hk:YY n ops F i=true:=by kernel_rfl) (ha:AC P ops F i=some ls:=by kernel_rfl) (ho:Vf ops i T=bs:=by kernel_rfl) (hj:js.map (fun j=>(Wa h)[j]?)=bs.map some:=by kernel_rfl):WL P n ops B T fuel done F h i:=
 Pf i js bs ls hk ha ho hj hK
theorem dL (i:Nat) (js bs:List Nat) (es:List AV) (len sz:Nat) (hK:∀v,YJ P n ops B (T.filter fun t=>!Wt ops i t.1) fuel (done++[i]) (F.put (ZB ops i).dst (.sl es (some v))) (.tail v sz::h))
  (hk:YY n ops F i=true:=by kernel_rfl) (ha:Um P ops F i=some (Zc es,len,sz):=by kernel_rfl) (hlen:es.length=len:=by kernel_rfl) (hall:Kr es sz=true:=by kernel_rfl)
  (ho:Vf ops i T=bs:=by kernel_rfl) (hj:js.map (fun j=>(Wa h)[j]?)=bs.map some:=by kernel_rfl):WL P n ops B T fuel done F h i:=
 Pn i js bs es hk ha hlen hall ho hj hK
theorem dp (i j:Nat) (js bs:List Nat) (es' es xs:List AV) (hv:Value) (hx:Option Value) (sz:Nat) (hes:∀y∈es,y.leaves.length=sz) (hxs:∀y∈xs,y.leaves.length=sz)
  (hone:(Zc xs).all AV.one=true) (hbound:es.length+xs.length<=4294967296) (he:es++xs=es')
  (hK:∀v',YJ P n ops B (T.filter fun t=>!Wt ops i t.1) fuel (done++[i]) (F.put (ZB ops i).dst (.sl es' (some v'))) (.tail v' sz::Xq [j] h))
  (hk:YY n ops F i=true:=by kernel_rfl) (ha:VB P ops F i=some (.sl es (some hv),.sl xs hx,sz):=by kernel_rfl) (hp:XU [j] h=some [.tail hv sz]:=by kernel_rfl)
  (ho:Vf ops i T=bs:=by kernel_rfl) (hj:js.map (fun q=>(Wa (Xq [j] h))[q]?)=bs.map some:=by kernel_rfl):WL P n ops B T fuel done F h i:=
 Pg i j js bs es' hk ha (WI hp) hes hxs hone hbound he ho hj hK
theorem dS (i j:Nat) (js bs:List Nat) (b o:Nat) (xs ls ls':List AV) (H:YJ P n ops B (T.filter fun t=>!Wt ops i t.1) fuel (done++[i]) F (.obj b ls'::Xq [j] h))
  (hk:YY n ops F i=true:=by kernel_rfl) (hs:storeAt P ops F i=some (b,o,xs):=by kernel_rfl)
  (hp:XU [j] h=some [.obj b ls]:=by kernel_rfl) (hle:Nat.ble (o+xs.length) ls.length=true:=by kernel_rfl) (he:ls.take o++xs++ls.drop (o+xs.length)=ls':=by kernel_rfl) (ho:Vf ops i T=bs:=by kernel_rfl)
  (hj:js.map (fun q=>(Wa (Xq [j] h))[q]?)=bs.map some:=by kernel_rfl):WL P n ops B T fuel done F h i:=
 Pr i j js bs ls' hk hs (WI hp) hle he ho hj H
theorem db {b:Bool} (t:Nat) (h1:b=true->YJ P n ops B T fuel done ((t,.b true)::F) h) (h2:b=false->YJ P n ops B T fuel done ((t,.b false)::F) h) (hF:F.get t=.b b:=by kernel_rfl):YJ P n ops B T fuel done F h:=Pq t hF h1 h2
theorem rz:([]:List Res)=[]:=rfl
theorem rc {x:Res} {t t':List Res} (e:t=t'):x::t=x::t':=e▸rfl
theorem rv {g:Hd} {xs xs':LI} {t t':List Res} (h:xs=xs') (e:t=t'):rV g xs::t=rV g xs'::t':=h▸e▸rfl
theorem MA {v:Value} {ls:List AV} (H:∀g:Hd,v=g.v->SI P n ops B k F (.vec v ls::h)):SI P n ops B k F (.vec v ls::h):=by
 intro Q w G a hF hh
 obtain ⟨a',cap,rfl⟩:=Jf.form (hh.ok _ (YZ ..))
 exact H ⟨a',_,cap⟩ rfl Q w G a hF hh
theorem Pu {v:Value} {ls:List AV} (H:∀g:Hd,v=g.v->YJ P n ops B T fuel done F (.vec v ls::h)):YJ P n ops B T fuel done F (.vec v ls::h):=by
 intro Q w G a SL hF hh
 obtain ⟨a',cap,rfl⟩:=Jf.form (hh.ok _ (YZ ..))
 exact H ⟨a',_,cap⟩ rfl Q w G a SL hF hh
theorem Au (j:Nat) (v:Hd) (xs:LI) (hl:B6 P ops F k=some (.h v):=by kernel_rfl) (hj:h[j]? = some (rV v xs):=by kernel_rfl):XP P (ZB ops k) F h [] (.i xs.length):=by
 have:=Z58 (P:=P) (F:=F) j hl hj
 rwa [Ye] at this
theorem V9 (j:Nat) (v:Hd) (xs:LI) (i:Int) (q:Nat) (h0:0<=i/\i<xs.length:=by omega) (hq:i.toNat=q:=by omega) (hi:Jt P ops F k=some (.h v,i,1):=by kernel_rfl) (hj:h[j]? = some (rV v xs):=by kernel_rfl) :
  XP P (ZB ops k) F h [] (.val (.pointer (some ⟨Tq v.v,q,none⟩))):=by
 have:=Z57 (P:=P) (F:=F) j hi hj h0.1 (by rw [Ye];exact h0.2)
 rwa [hq] at this
theorem T2 (j:Nat) (v:Hd) (xs:LI) (q:Nat) (y:Int) (hy:xs[q]? = some y) (hl:FM P ops F k=some (.val (.pointer (some ⟨Tq v.v,q,none⟩))):=by kernel_rfl) (hj:h[j]? = some (rV v xs):=by kernel_rfl) :
  XP P (ZB ops k) F h [Tq v.v] (.i y):=Z59 (P:=P) (F:=F) j hl hj (ZZ hy)
theorem Vn {ks:List Nat} {x:AV} (hs:XP P (ZB ops k) F h ks x) (H:SI P n ops B (k+1) (F.put (ZB ops k).dst x) h) (hk:YY n ops F k=true:=by kernel_rfl):SI P n ops B k F h:=Dj hk hs H
theorem Vu (i:Nat) {ks:List Nat} {x:AV} (hx:XP P (ZB ops i) F h ks x) (H:YJ P n ops B ((i,ks)::T) fuel (done++[i]) (F.put (ZB ops i).dst x) h) (hs:Region.noSelect ops=true:=by kernel_rfl) (hk:YY n ops F i=true:=by kernel_rfl)
  (hf:Region.free .any ops (Wf ops done) i=true:=by kernel_rfl) (hr:(Region.ready .any ops (Wf ops done)).contains i=true:=by kernel_rfl):YJ P n ops B T (fuel+1) done F h:=CR i hs hk hf hr hx H
theorem Bo (j:Nat) (v:Hd) (xs:LI) (m:Nat) (hle:m<=xs.length:=by omega) (hi:Bk P ops F k=some (.h v,(m:Int)):=by kernel_rfl) (hj:h[j]? = some (rV v xs):=by kernel_rfl) :
  XP P (ZB ops k) F h [] (.h (v.cut m)):=Z5a (P:=P) (F:=F) j hi hj (by rw [Ye];exact hle)
theorem IB (j:Nat) (v:Hd) (xs:LI) (q:Nat) (y:Int) (H:SI P n ops B (k+1) F (rV v (xs.set q y)::Xq [j] h)) (hlt:q<xs.length:=by omega) (hk:YY n ops F k=true:=by kernel_rfl)
  (hs:storeAt P ops F k=some (Tq v.v,q,[.i y]):=by kernel_rfl) (hp:XU [j] h=some [rV v xs]:=by kernel_rfl):SI P n ops B k F h:=
 SQ j _ hk hs (WI hp) (by rw [Ye];exact hlt) (Mx _ _ _) H
theorem Jk (i j:Nat) (js bs:List Nat) (v:Hd) (xs:LI) (q:Nat) (y:Int) (H:YJ P n ops B (T.filter fun t=>!Wt ops i t.1) fuel (done++[i]) F (rV v (xs.set q y)::Xq [j] h)) (hlt:q<xs.length:=by omega)
  (hk:YY n ops F i=true:=by kernel_rfl)
  (hs:storeAt P ops F i=some (Tq v.v,q,[.i y]):=by kernel_rfl) (hp:XU [j] h=some [rV v xs]:=by kernel_rfl) (ho:Vf ops i T=bs:=by kernel_rfl)
  (hj:js.map (fun q=>(Wa (Xq [j] h))[q]?)=bs.map some:=by kernel_rfl):WL P n ops B T fuel done F h i:=
 Pt i j js bs _ hk hs (WI hp) (by rw [Ye];exact hlt) (Mx _ _ _) ho hj H
theorem K3 (j:Nat) (v:Hd) (xs ys:LI) (hx:Option Value) (hK:∀v',SI P n ops B (k+1) (F.put (ZB ops k).dst (.h v')) (rV v' (xs++ys)::Xq [j] h)) (hbound:xs.length+ys.length<=4294967296:=by simp<;>omega)
  (hk:YY n ops F k=true:=by kernel_rfl) (ha:VB P ops F k=some (.h v,.sl (Z7 ys) hx,1):=by kernel_rfl) (hp:XU [j] h=some [rV v xs]:=by kernel_rfl):SI P n ops B k F h:=
 SP j _ hk ha (WI hp) (FJ _) (Lu _) (by simpa using hbound) (XR _ _).symm fun v'=>MA fun g hg=>by subst hg;exact hK g
theorem Pe (i j:Nat) (js bs:List Nat) (v:Hd) (xs ys:LI) (hx:Option Value) (hK:∀v',YJ P n ops B (T.filter fun t=>!Wt ops i t.1) fuel (done++[i]) (F.put (ZB ops i).dst (.h v')) (rV v' (xs++ys)::Xq [j] h))
  (hbound:xs.length+ys.length<=4294967296:=by simp<;>omega) (hk:YY n ops F i=true:=by kernel_rfl) (ha:VB P ops F i=some (.h v,.sl (Z7 ys) hx,1):=by kernel_rfl) (hp:XU [j] h=some [rV v xs]:=by kernel_rfl)
  (ho:Vf ops i T=bs:=by kernel_rfl) (hj:js.map (fun q=>(Wa (Xq [j] h))[q]?)=bs.map some:=by kernel_rfl):WL P n ops B T fuel done F h i:=
 Ps i j js bs _ hk ha (WI hp) (FJ _) (Lu _) (by simpa using hbound) (XR _ _).symm ho hj fun v'=>Pu fun g hg=>by subst hg;exact hK g
theorem Sz (xs:LI) (len:Nat) (hK:∀v,SI P n ops B (k+1) (F.put (ZB ops k).dst (.h v)) (rV v xs::h)) (hk:YY n ops F k=true:=by kernel_rfl) (ha:Um P ops F k=some (Z7 xs,len,1):=by kernel_rfl)
  (hlen:xs.length=len:=by kernel_rfl):SI P n ops B k F h:=SK _ hk ha (by rw [Ye];exact hlen) fun v'=>MA fun g hg=>by subst hg;exact hK g
def Bw (R:AV->List Res->Prop):Prop:=∀r h',R r h'->TN h' r/\∀q∈h',AA q
theorem CM {x:Value}:Bw fun r h=>r=.val x/\h=[]:=by rintro _ _ ⟨rfl,rfl⟩;exact ⟨.val,by simp⟩
theorem OP {xs:LI}:Bw fun r h=>∃v:Value,r=ZQ xs v/\h=[.tail v 1]:=by
 rintro _ _ ⟨v,rfl,rfl⟩;exact ⟨.own (k:=1) (GO _) (by simp),by simp [AA]⟩
theorem AH {xs:LI}:Bw fun r h=>∃v:Hd,r=.h v/\h=[rV v xs]:=by
 rintro _ _ ⟨v,rfl,rfl⟩;exact ⟨.val,by simpa [AA] using GO xs⟩
theorem Sw (is:List Nat) {f:FuncId} {as1 xs:List AV} {h1:List Res} (bs:List Res) {R:AV->List Res->Prop} (H:W3 P f xs h1 R) (hcl:Bw R) (hargs:Ug bs as1 xs)
  (hb:∀r∈bs,∃v ls,r=.vec v ls/\∀y∈ls,∃u,y=.val u)
  (hK:∀r h',R r h'->SI P n ops B (k+1) (F.put (ZB ops k).dst r) (h'++(bs++Xq is h))) (hk:YY n ops F k=true:=by kernel_rfl) (hc:Qd P ops F k=some (f,as1):=by kernel_rfl)
  (hp:XU is h=some (h1++bs):=by kernel_rfl):SI P n ops B k F h:=
 SF f as1 xs is bs hk hc (WI hp) H hargs hb hcl fun r h' hr=>by rw [VN];exact hK r h' hr
theorem QV (i:Nat) (is js ks:List Nat) {f:FuncId} {as1 xs:List AV} {h1:List Res} (bs:List Res) {R:AV->List Res->Prop} (H:W3 P f xs h1 R) (hcl:Bw R) (hargs:Ug bs as1 xs)
  (hb:∀r∈bs,∃v ls,r=.vec v ls/\∀y∈ls,∃u,y=.val u)
  (hK:∀r h',R r h'->YJ P n ops B (T.filter fun t=>!Wt ops i t.1) fuel (done++[i]) (F.put (ZB ops i).dst r) (h'++(bs++Xq is h)))
  (hk:YY n ops F i=true:=by kernel_rfl) (hc:Qd P ops F i=some (f,as1):=by kernel_rfl)
  (hp:XU is h=some (h1++bs):=by kernel_rfl) (ho:Vf ops i T=ks:=by kernel_rfl) (hj:js.map (fun j=>(Wa (Xq is h))[j]?)=ks.map some:=by kernel_rfl):WL P n ops B T fuel done F h i:=
 Pj i f as1 xs is js ks bs hk hc (WI hp) ho hj H hargs hb hcl fun r h' hr=>by rw [VN];exact hK r h' hr
theorem gN {bs:List Res}:Ug bs [] []:=.nil
theorem Z17 {bs:List Res} {r:Res} (i:Nat) (h:bs[i]? = some r):r∈bs:=ZW h
theorem gS {bs:List Res} {x:AV} {as1 xs:List AV} (t:Ug bs as1 xs):Ug bs (x::as1) (x::xs):=.same t
theorem gL {bs:List Res} {v:Hd} {ys:LI} {as1 xs:List AV} (i:Nat) (t:Ug bs as1 xs) (h:bs[i]? = some (rV v ys):=by kernel_rfl):Ug bs (.h v::as1) (Z6 ys::xs):=.lent (Z17 i h) t
theorem Nf (j:Nat) (b':Nat) (ls ls':List AV) (hle:V2 ls ls') (hp:XU [j] h=some [.obj b' ls]:=by kernel_rfl):UK h (.obj b' ls'::Xq [j] h):=by
 intro w G hh
 have hp':=Vq (WI hp)
 have hh':=hh.perm hp'
 have hpw:=Wb.1 hh'.apart
 refine ⟨G,⟨fun r hr=>?_,Wb.2 ⟨fun r hr=>hpw.1 r hr,hpw.2⟩,fun r hr=>?_,hh'.lt⟩,?_⟩
 ·rcases Yr.1 hr with rfl|hr
  ·obtain ⟨cs,e,h1,h2⟩:=hh'.ok _ (YZ ..)
   exact ⟨cs,e,h1,V2.cs hle h2⟩
  ·exact hh'.ok r (Xr _ hr)
 ·rcases Yr.1 hr with rfl|hr
  ·exact fun b o hf hg=>hh'.prot (.obj b' ls) (YZ ..) b o hf hg
  ·exact hh'.prot r (Xr _ hr)
 ·refine ⟨rfl,rfl,rfl,YQ _,fun _ _ h=>h,fun _ _=>.inl rfl,fun _ _ _ h=>.inl h,?_⟩
  rintro b2 o _ ⟨r,hr,hf⟩
  rw [A6 hp']
  rcases Yr.1 hr with rfl|hr
  ·exact ⟨_,YZ ..,hf⟩
  ·exact ⟨r,Xr _ hr,hf⟩
theorem Ze.hd {es:List AV} {v:Hd}:Ze (.sl es (some v.v)) (.h v):=by
 intro w G u h
 cases h with
 | nil hh=>rw [<-hh _ rfl];exact .val
 | sl hh _ _=>rw [<-hh _ rfl];exact .val
theorem Bn (j m:Nat) (v:Hd) (xs:LI) (hle:m<=xs.length:=by omega) (hp:XU [j] h=some [rV v xs]:=by kernel_rfl):UK h (rV (v.cut m) (xs.take m)::Xq [j] h):=by
 have:=Z5h (h:=h) j m (WI hp) (by rw [Ye];exact hle)
 rwa [A0] at this
theorem As:UK h (rV hN []::h):=Z5g
theorem EJ {h':List Res} (ht:UK h h') (H:YJ P n ops B T fuel done F h'):YJ P n ops B T fuel done F h:=by
 intro Q w G a SL hF hh hQ hcl hcov hk
 obtain ⟨G',h1,h2⟩:=ht w G hh
 exact H Q w G' a SL (hF.mono (h2.agree hh)) h1 hQ hcl (fun p hp=>let ⟨t,ht,e,f⟩:=hcov p hp;⟨t,ht,e,fun w' hw hb=>f w' (fun b o hg=>hw b o (h2.sub b o hg)) hb⟩)
  fun F2 h2' G2 a2 w2 b1 b2 b3 b4=>hk F2 h2' G2 a2 w2 b1 b2 b3 (h2.trans b4)
end
end Go.Abs
namespace Go.Abs
section
variable {P:Program} {n:Nat} {ops:Array Oper} {B:Fr->List Res->Prop} {k:Nat} {F:Fr} {h:List Res}
variable {T:List (Nat × List Nat)} {fuel:Nat} {done:List Nat} {c:Code} {A:Ws}
def qF (P:Program) (n:Nat) (ops:Array Oper) (h:List Res) (k m:Nat) (F:Fr) (hints:List Nat):Fr:=
 match Tk P n ops h m (ops.toList.drop k) F hints with|some (_,F1,_)=>F1|none=>F
def qA (P:Program) (n:Nat) (ops:Array Oper) (h:List Res) (k m:Nat) (F:Fr) (hints:List Nat):List Nat:=
 match Tk P n ops h m (ops.toList.drop k) F hints with|some (_,_,es)=>es.map (·.1)|none=>[0]
def qB (P:Program) (n:Nat) (ops:Array Oper) (h:List Res) (k m:Nat) (F:Fr) (hints:List Nat):List Nat:=
 match Tk P n ops h m (ops.toList.drop k) F hints with|some (_,_,es)=>es.map (·.2)|none=>[1]
theorem ZU (m:Nat) (hints:List Nat) (H:SI P n ops B (k+m) (qF P n ops h k m F hints) h) (he:qA P n ops h k m F hints=qB P n ops h k m F hints:=by kernel_rfl):SI P n ops B k F h:=by
 unfold qA qB at he
 unfold qF at H
 cases hr:Tk P n ops h m (ops.toList.drop k) F hints with
 | none=>rw [hr] at he;cases he
 | some y=>
  obtain ⟨l,F1,es⟩:=y
  rw [hr] at he H
  have hd:=Gg m hr
  rw [List.drop_drop] at hd
  refine Gh m hr (G0 he) ?_
  rw [hd]
  exact H
theorem Z2 (m:Nat) (H:SI P n ops B (k+m) (qF P n ops h k m F []) h) (he:qA P n ops h k m F []=qB P n ops h k m F []:=by kernel_rfl):SI P n ops B k F h:=ZU m [] H he
theorem Vx (hints:List Nat) (H:B (qF P n ops h k (ops.size-k) F hints) h) (he:qA P n ops h k (ops.size-k) F hints=qB P n ops h k (ops.size-k) F hints:=by kernel_rfl):SI P n ops B k F h:=
 ZU (ops.size-k) hints (IC (Nat.ble_eq_true_of_le om) H) he
theorem Z1 (H:B (qF P n ops h k (ops.size-k) F []) h) (he:qA P n ops h k (ops.size-k) F []=qB P n ops h k (ops.size-k) F []:=by kernel_rfl):SI P n ops B k F h:=Vx [] H he
def An (P:Program) (n:Nat) (ops:Array Oper) (h:List Res) (is done:List Nat) (F:Fr) (hints:List Nat):Fr:=
 match Qo P n ops h is done F hints with|some (F1,_)=>F1|none=>F
def Cg (P:Program) (n:Nat) (ops:Array Oper) (h:List Res) (is done:List Nat) (F:Fr) (hints:List Nat):List Nat:=
 match Qo P n ops h is done F hints with|some (_,es)=>es.flatMap (fun e=>e.2.map (·.1))|none=>[0]
def Ch (P:Program) (n:Nat) (ops:Array Oper) (h:List Res) (is done:List Nat) (F:Fr) (hints:List Nat):List Nat:=
 match Qo P n ops h is done F hints with|some (_,es)=>es.flatMap (fun e=>e.2.map (·.2))|none=>[1]
theorem ZH (f m:Nat) (is:List Nat) (hints:List Nat) (H:YJ P n ops B ((C7 P n ops h is done F hints).reverse++T) f (done++is) (An P n ops h is done F hints) h) (hf:m=f+is.length:=by kernel_rfl)
  (he:Cg P n ops h is done F hints=Ch P n ops h is done F hints:=by kernel_rfl) (hs:Region.noSelect ops=true:=by kernel_rfl):YJ P n ops B T m done F h:=by
 unfold Cg Ch at he
 unfold C7 An at H
 cases hr:Qo P n ops h is done F hints with
 | none=>rw [hr] at he;cases he
 | some y=>
  obtain ⟨F1,es⟩:=y
  rw [hr] at he H
  exact EH is hs hr (LK he) hf H
theorem Zk (f m:Nat) (is:List Nat) (H:YJ P n ops B ((C7 P n ops h is done F []).reverse++T) f (done++is) (An P n ops h is done F []) h) (hf:m=f+is.length:=by kernel_rfl)
  (he:Cg P n ops h is done F []=Ch P n ops h is done F []:=by kernel_rfl) (hs:Region.noSelect ops=true:=by kernel_rfl):YJ P n ops B T m done F h:=ZH f m is [] H hf he hs
def Cc (ov F:Fr):Fr:=ov++F
theorem Fb {F':Fr} (hr:F.Le F'):∀(ov:Fr),ov.map (fun p=>(F.get p.1).like p.2)=ov.map (·.2)->F.Le (Cc ov F')
 | [],_=>hr
 | (t,y)::ov,he=>by
  simp only [Uf,List.cons.injEq] at he
  have h1:F.Le [(t,y)]:=I3 (by simp [he.1])
  intro w G v s hv
  have h2:=h1 w G v s hv
  have h3:=Fb hr ov he.2 w G v s hv
  show RV w G (match Nat.beq t s with|true=>y|false=>Fr.get (ov++F') s) v
  change RV w G (match Nat.beq t s with|true=>y|false=>Fr.get [] s) v at h2
  cases hq:Nat.beq t s with
  | true=>rw [hq] at h2;exact h2
  | false=>exact h3
theorem TZ (m:Nat) (ov:Fr) (hints:List Nat) (H:SI P n ops B (k+m) (Cc ov (qF P n ops h k m F hints)) h) (he:qA P n ops h k m F hints=qB P n ops h k m F hints:=by kernel_rfl)
  (ho:ov.map (fun p=>((qF P n ops h k m F hints).get p.1).like p.2)=ov.map (·.2):=by kernel_rfl):SI P n ops B k F h:=
 ZU m hints (DQ (h':=h) ⟨Fb (Fr.Le.refl _) ov ho,[],by simp⟩ H) he
theorem ZE (m:Nat) (ov:Fr) (H:SI P n ops B (k+m) (Cc ov (qF P n ops h k m F [])) h) (he:qA P n ops h k m F []=qB P n ops h k m F []:=by kernel_rfl)
  (ho:ov.map (fun p=>((qF P n ops h k m F []).get p.1).like p.2)=ov.map (·.2):=by kernel_rfl):SI P n ops B k F h:=TZ m ov [] H he ho
theorem BE (f m:Nat) (is:List Nat) (ov:Fr) (hints:List Nat) (H:YJ P n ops B ((C7 P n ops h is done F hints).reverse++T) f (done++is) (Cc ov (An P n ops h is done F hints)) h) (hf:m=f+is.length:=by kernel_rfl)
  (he:Cg P n ops h is done F hints=Ch P n ops h is done F hints:=by kernel_rfl) (hs:Region.noSelect ops=true:=by kernel_rfl)
  (ho:ov.map (fun p=>((An P n ops h is done F hints).get p.1).like p.2)=ov.map (·.2):=by kernel_rfl):YJ P n ops B T m done F h:=
 ZH f m is hints (EK (Fb (Fr.Le.refl _) ov ho) H) hf he hs
theorem Yh (f m:Nat) (is:List Nat) (ov:Fr) (H:YJ P n ops B ((C7 P n ops h is done F []).reverse++T) f (done++is) (Cc ov (An P n ops h is done F [])) h) (hf:m=f+is.length:=by kernel_rfl)
  (he:Cg P n ops h is done F []=Ch P n ops h is done F []:=by kernel_rfl) (hs:Region.noSelect ops=true:=by kernel_rfl)
  (ho:ov.map (fun p=>((An P n ops h is done F []).get p.1).like p.2)=ov.map (·.2):=by kernel_rfl):YJ P n ops B T m done F h:=BE f m is ov [] H hf he hs ho
def sF (ts:List Nat) (F ov:Fr):Fr:=ov++ts.map (fun t=>(t,F.get t))
def Za (h:List Res) (i:Nat):Res:=match h[i]? with|some r=>r|none=>.tail Z1b 0
theorem Y0 (Inv:Fr->List Res->Nat->Fr->List Res->Prop) (m0:Nat) (F0:Fr) (h0:List Res) (hi:Inv F h m0 F0 h0) (hw:Uj F h F0 h0)
  (hr:∀m F' h',Inv F h m F' h'->Yi P n (Yv c) (FQ (Inv F h) m A) F' h') (hk:YV c=6:=by kernel_rfl):Yi P n c A F h:=al (Inv F h) m0 F0 h0 hi hw hr hk
theorem XC {y:Code} (K:Fr->List Res->Fr->List Res->Prop) (H:Yi P n c (CQ (K F h) A) F h) (hB:∀F' h',K F h F' h'->Yi P n y A F' h'):Yi P n c (JI P n y A) F h:=NP (K F h) H hB
theorem Kx {y:Code} {A2:Ws} (K:Fr->List Res->Fr->List Res->Prop) (hA:∀F h,A .normal F h=Yi P n y A2 F h) (H:Yi P n c (CQ (K F h) A) F h) (hB:∀F' h',K F h F' h'->Yi P n y A2 F' h'):Yi P n c A F h:=NO (K F h) hA H hB
theorem XM {c:Code} {A:Ws} (ts:List Nat) (ov:Fr) (K:List Res->List Res) (H:SI P n ops (fun F1 h1=>Uj F1 h1 (sF ts F ov) (K h)) k F h) (hB:Yi P n c A (sF ts F ov) (K h)):SI P n ops (fun F h=>Yi P n c A F h) k F h:=SH (sF ts F ov) (K h) H hB
theorem AN {c:Code} {A:Ws} (ts:List Nat) (ov:Fr) (K:List Res->List Res) (H:YJ P n ops (fun F1 h1=>Uj F1 h1 (sF ts F ov) (K h)) T fuel done F h) (hB:Yi P n c A (sF ts F ov) (K h)):YJ P n ops (fun F h=>Yi P n c A F h) T fuel done F h:=Pl (sF ts F ov) (K h) H hB
theorem WQ (k2:Nat) (ts:List Nat) (ov:Fr) (K:List Res->List Res) (J:SI P n ops B k2 (sF ts F ov) (K h)) (H:SI P n ops B k2 (sF ts F ov) (K h)->SI P n ops B k F h):SI P n ops B k F h:=H J
end
end Go.Abs
namespace Go.Abs
theorem fw {F F':Fr} {t u:Nat} {x y:AV} (hr:F.Le F') (hx:F.get t=x:=by kernel_rfl) (hy:F.get u=y:=by kernel_rfl):F.Le ((t,x)::(u,y)::F'):=fr (fr hr hy) hx
theorem fq {F F':Fr} {t u v w:Nat} {x y z q:AV} (hr:F.Le F') (hx:F.get t=x:=by kernel_rfl) (hy:F.get u=y:=by kernel_rfl) (hz:F.get v=z:=by kernel_rfl) (hq:F.get w=q:=by kernel_rfl):F.Le ((t,x)::(u,y)::(v,z)::(w,q)::F'):=fw (fw hr hz hq) hx hy
section
variable {P:Program} {n:Nat} {ops:Array Oper} {B:Fr->List Res->Prop} {k:Nat} {F:Fr} {h:List Res}
theorem iw {a b:Nat} (e:a=b) (H:SI P n ops B (k+1) (F.put (ZB ops k).dst (.i b)) h) (hk:YY n ops F k=true:=by kernel_rfl) (he:Ty P (ZB ops k) F h 0=some (.i a,[]):=by kernel_rfl):SI P n ops B k F h:=io (.i b) (.i a) (li (by rw [e])) H hk he
theorem dw (i:Nat) {T:List (Nat×List Nat)} {fuel:Nat} {done:List Nat} {a b:Nat} (e:a=b) (H:YJ P n ops B ((i,[])::T) fuel (done++[i]) (F.put (ZB ops i).dst (.i b)) h) (he:Ty P (ZB ops i) F h 0=some (.i a,[]):=by kernel_rfl) (hs:Region.noSelect ops=true:=by kernel_rfl) (hk:YY n ops F i=true:=by kernel_rfl)
 (hf:Region.free .any ops (Wf ops done) i=true:=by kernel_rfl) (hr:(Region.ready .any ops (Wf ops done)).contains i=true:=by kernel_rfl):YJ P n ops B T (fuel+1) done F h:=dn i (.i b) (.i a) (li (by rw [e])) H he hs hk hf hr
end
end Go.Abs
namespace Go.Abs
section
variable {P:Program} {n:Nat} {ops:Array Oper} {B:Fr->List Res->Prop} {k:Nat} {F:Fr} {h:List Res}
variable {T:List (Nat × List Nat)} {fuel:Nat} {done:List Nat} {c:Code} {A:Ws}
theorem Zh (hv:Option Value) (j:Int) (sz:Nat) {es:List AV} {y:AV} (hget:es[j.toNat]? = some y) (hi:Jt P ops F k=some (.sl es hv,j,sz):=by kernel_rfl) (h0:0<=j:=by omega) (hy:y.leaves.length=sz:=by rfl) :
  XP P (ZB ops k) F h [] (.rp y.leaves):=MZ hi h0 hget hy
def E0 (P:Program) (ops:Array Oper) (F:Fr) (h:List Res) (j k:Nat):Option (Nat × Nat × List AV):=
 match storeAt P ops F k,XU [j] h with
 | some (b,o,xs),some [.obj b' ls]=>match Nat.ble (o+xs.length) ls.length with | true=>some (b,b',ls.take o++xs++ls.drop (o+xs.length)) | false=>none
 | _,_=>none
theorem Na {j k b:Nat} {l:List AV} (hs:E0 P ops F h j k=some (b,b,l)):∃o xs ls,storeAt P ops F k=some (b,o,xs)/\XU [j] h=some [.obj b ls]/\Nat.ble (o+xs.length) ls.length=true/\ls.take o++xs++ls.drop (o+xs.length)=l:=by
 unfold E0 at hs
 split at hs
 ·rename_i b1 o xs b2 ls h1 h2
  split at hs
  ·rename_i h3
   cases hs
   exact ⟨o,xs,ls,h1,h2,h3,rfl⟩
  ·cases hs
 ·cases hs
theorem ZA (j b:Nat) (ls':List AV) (H:SI P n ops B (k+1) F (.obj b ls'::Xq [j] h)) (hk:YY n ops F k=true:=by kernel_rfl) (hs:E0 P ops F h j k=some (b,b,ls'):=by kernel_rfl):SI P n ops B k F h:=
 let ⟨_,_,_,h1,h2,h3,h4⟩:=Na hs
 iS j b _ _ _ ls' H hk h1 h2 h3 h4
theorem Yy (i j:Nat) (js bs:List Nat) (b:Nat) (ls':List AV) (H:YJ P n ops B (T.filter fun t=>!Wt ops i t.1) fuel (done++[i]) F (.obj b ls'::Xq [j] h))
  (hk:YY n ops F i=true:=by kernel_rfl) (hs:E0 P ops F h j i=some (b,b,ls'):=by kernel_rfl) (ho:Vf ops i T=bs:=by kernel_rfl)
  (hj:js.map (fun q=>(Wa (Xq [j] h))[q]?)=bs.map some:=by kernel_rfl):WL P n ops B T fuel done F h i:=
 let ⟨_,_,_,h1,h2,h3,h4⟩:=Na hs
 dS i j js bs b _ _ _ ls' H hk h1 h2 h3 h4 ho hj
theorem ZG (q:Nat) (H:SI P n ops B (k+1) (F.put (ZB ops k).dst (.i (q+1:Nat))) h) (hb:-9223372036854775808<=((q+1:Nat):Int)/\((q+1:Nat):Int)<=9223372036854775807:=by omega)
  (hk:YY n ops F k=true:=by kernel_rfl) (ha:JT ops F k=some ((q:Int)+1):=by kernel_rfl):SI P n ops B k F h:=ia ((q+1:Nat):Int) ((q:Int)+1) H hb om hk ha
theorem Zu (is:List Nat) {f:FuncId} {xs:List AV} {h1 h2:List Res} {r0:AV} (H:W3 P f xs h1 (fun r h=>r=r0/\h=h2)) (hK:SI P n ops B (k+1) (F.put (ZB ops k).dst r0) (h2++Xq is h))
  (hk:YY n ops F k=true:=by kernel_rfl) (hc:Qd P ops F k=some (f,xs):=by kernel_rfl) (hp:XU is h=some h1:=by kernel_rfl):SI P n ops B k F h:=
 ic is H (fun r h' hr=>by obtain ⟨rfl,rfl⟩:=hr;exact hK) hk hc hp
theorem Yp (i:Nat) (is js bs:List Nat) {f:FuncId} {xs:List AV} {h1 h2:List Res} {r0:AV} (H:W3 P f xs h1 (fun r h=>r=r0/\h=h2))
  (hK:YJ P n ops B (T.filter fun t=>!Wt ops i t.1) fuel (done++[i]) (F.put (ZB ops i).dst r0) (h2++Xq is h))
  (hk:YY n ops F i=true:=by kernel_rfl) (hc:Qd P ops F i=some (f,xs):=by kernel_rfl)
  (hp:XU is h=some h1:=by kernel_rfl) (ho:Vf ops i T=bs:=by kernel_rfl) (hj:js.map (fun j=>(Wa (Xq is h))[j]?)=bs.map some:=by kernel_rfl):WL P n ops B T fuel done F h i:=
 dc i is js bs H (fun r h' hr=>by obtain ⟨rfl,rfl⟩:=hr;exact hK) hk hc hp ho hj
theorem VA (p:Prop) [Decidable p] (h1:p->Yi P n (Yv c) A F h) (h2:¬p->Yi P n (V3 c) A F h) (hk:YV c=4:=by kernel_rfl) (hc:F.ev (Ku c)=.val (.bool (decide p)):=by kernel_rfl):Yi P n c A F h:=
 ac (decide p) decide_eq_true_iff h1 h2 hk hc
theorem Ya (H:Yi P n (V3 c) A (qF P n (Xl (Yv c)) h 0 ((Xl (Yv c)).size-0) F []) h) (hk:YV c=3:=by kernel_rfl) (hk1:YV (Yv c)=1:=by kernel_rfl)
  (he:qA P n (Xl (Yv c)) h 0 ((Xl (Yv c)).size-0) F []=qB P n (Xl (Yv c)) h 0 ((Xl (Yv c)).size-0) F []:=by kernel_rfl):Yi P n c A F h:=ar (Z1 H he) hk hk1
theorem A7 (hints:List Nat) (H:Yi P n (V3 c) A (qF P n (Xl (Yv c)) h 0 ((Xl (Yv c)).size-0) F hints) h) (hk:YV c=3:=by kernel_rfl) (hk1:YV (Yv c)=1:=by kernel_rfl)
  (he:qA P n (Xl (Yv c)) h 0 ((Xl (Yv c)).size-0) F hints=qB P n (Xl (Yv c)) h 0 ((Xl (Yv c)).size-0) F hints:=by kernel_rfl):Yi P n c A F h:=ar (Vx hints H he) hk hk1
theorem UM (H:A .normal (qF P n (Xl c) h 0 ((Xl c).size-0) F []) h) (hk:YV c=1:=by kernel_rfl) (he:qA P n (Xl c) h 0 ((Xl c).size-0) F []=qB P n (Xl c) h 0 ((Xl c).size-0) F []:=by kernel_rfl):Yi P n c A F h:=az (Z1 H he) hk
theorem Yg (m:Nat) (H:SI P n (Xl (Yv c)) (fun F h=>Yi P n (V3 c) A F h) (0+m) (qF P n (Xl (Yv c)) h 0 m F []) h) (hk:YV c=3:=by kernel_rfl) (hk1:YV (Yv c)=1:=by kernel_rfl)
  (he:qA P n (Xl (Yv c)) h 0 m F []=qB P n (Xl (Yv c)) h 0 m F []:=by kernel_rfl):Yi P n c A F h:=ar (Z2 m H he) hk hk1
theorem Zo (m:Nat) (hints:List Nat) (H:SI P n (Xl (Yv c)) (fun F h=>Yi P n (V3 c) A F h) (0+m) (qF P n (Xl (Yv c)) h 0 m F hints) h) (hk:YV c=3:=by kernel_rfl) (hk1:YV (Yv c)=1:=by kernel_rfl)
  (he:qA P n (Xl (Yv c)) h 0 m F hints=qB P n (Xl (Yv c)) h 0 m F hints:=by kernel_rfl):Yi P n c A F h:=ar (ZU m hints H he) hk hk1
theorem X7 (hs:SI P n (Xl (Yv (Yv c))) (fun F h=>Yi P n (V3 (Yv c)) (JI P n (V3 c) A) F h) 0 F h) (hk:YV c=3:=by kernel_rfl) (hk0:YV (Yv c)=3:=by kernel_rfl) (hk1:YV (Yv (Yv c))=1:=by kernel_rfl):Yi P n c A F h:=
 aq (ar hs hk0 hk1) hk
theorem X4 (m:Nat) (H:SI P n (Xl (Yv (Yv c))) (fun F h=>Yi P n (V3 (Yv c)) (JI P n (V3 c) A) F h) (0+m) (qF P n (Xl (Yv (Yv c))) h 0 m F []) h) (hk:YV c=3:=by kernel_rfl) (hk0:YV (Yv c)=3:=by kernel_rfl) (hk1:YV (Yv (Yv c))=1:=by kernel_rfl)
  (he:qA P n (Xl (Yv (Yv c))) h 0 m F []=qB P n (Xl (Yv (Yv c))) h 0 m F []:=by kernel_rfl):Yi P n c A F h:=X7 (Z2 m H he) hk hk0 hk1
theorem Y6 (m:Nat) (hints:List Nat) (H:SI P n (Xl (Yv (Yv c))) (fun F h=>Yi P n (V3 (Yv c)) (JI P n (V3 c) A) F h) (0+m) (qF P n (Xl (Yv (Yv c))) h 0 m F hints) h) (hk:YV c=3:=by kernel_rfl) (hk0:YV (Yv c)=3:=by kernel_rfl) (hk1:YV (Yv (Yv c))=1:=by kernel_rfl)
  (he:qA P n (Xl (Yv (Yv c))) h 0 m F hints=qB P n (Xl (Yv (Yv c))) h 0 m F hints:=by kernel_rfl):Yi P n c A F h:=X7 (ZU m hints H he) hk hk0 hk1
theorem Y1 (H:Yi P n (V3 (Yv c)) (JI P n (V3 c) A) (qF P n (Xl (Yv (Yv c))) h 0 ((Xl (Yv (Yv c))).size-0) F []) h) (hk:YV c=3:=by kernel_rfl) (hk0:YV (Yv c)=3:=by kernel_rfl) (hk1:YV (Yv (Yv c))=1:=by kernel_rfl)
  (he:qA P n (Xl (Yv (Yv c))) h 0 ((Xl (Yv (Yv c))).size-0) F []=qB P n (Xl (Yv (Yv c))) h 0 ((Xl (Yv (Yv c))).size-0) F []:=by kernel_rfl):Yi P n c A F h:=aq (Ya H hk0 hk1 he) hk
theorem Zs (h0:A .ret (qF P n ops h k (ops.size-k) F []) h) (hk:YV c=8:=by kernel_rfl) (he:qA P n ops h k (ops.size-k) F []=qB P n ops h k (ops.size-k) F []:=by kernel_rfl):SI P n ops (fun F h=>Yi P n c A F h) k F h:=Z1 (ZK h0 hk) he
theorem ZT (p:Prop) [Decidable p] (h1:p->Yi P n (Yv c) A (qF P n ops h k (ops.size-k) F []) h) (h2:¬p->Yi P n (V3 c) A (qF P n ops h k (ops.size-k) F []) h) (hk:YV c=4:=by kernel_rfl)
  (hc:Fr.ev (qF P n ops h k (ops.size-k) F []) (Ku c)=.val (.bool (decide p)):=by kernel_rfl) (he:qA P n ops h k (ops.size-k) F []=qB P n ops h k (ops.size-k) F []:=by kernel_rfl):SI P n ops (fun F h=>Yi P n c A F h) k F h:=Z1 (VA p h1 h2 hk hc) he
theorem YR (b:Bool) {p:Prop} (hp:b=true↔p) (h1:p->Yi P n (Yv c) A (qF P n ops h k (ops.size-k) F []) h) (h2:¬p->Yi P n (V3 c) A (qF P n ops h k (ops.size-k) F []) h) (hk:YV c=4:=by kernel_rfl)
  (hc:Fr.ev (qF P n ops h k (ops.size-k) F []) (Ku c)=.val (.bool b):=by kernel_rfl) (he:qA P n ops h k (ops.size-k) F []=qB P n ops h k (ops.size-k) F []:=by kernel_rfl):SI P n ops (fun F h=>Yi P n c A F h) k F h:=Z1 (ac b hp h1 h2 hk hc) he
end
abbrev Yt (x:AV):AV->List Res->Prop:=fun r h=>r=x/\h=[]
theorem Zq {α:Type} (xs:List α) (j:Nat) (h:j<xs.length):∃x,xs[j]? = some x:=AZ h
theorem N9 {P:Program} {F:Fr} {h:List Res} {fn:Func} {e:Exit} {r:AV} (he:(match e with|.normal|.ret=>true|_=>false)=true:=by kernel_rfl) (hr:TG P F h fn.results.toList []=some ([r],[]):=by kernel_rfl) :
  Jd P fn (fun r' h'=>r'=r/\h'=[]) e F h:=r1 [] ⟨rfl,rfl⟩ rfl he hr
theorem Y3 {P:Program} {F:Fr} {h:List Res} {fn:Func} {e:Exit} {r:AV} (x:AV) (hle:Ze (J0 [x]) r) (he:(match e with|.normal|.ret=>true|_=>false)=true:=by kernel_rfl) (hr:TG P F h fn.results.toList []=some ([x],[]):=by kernel_rfl) :
  Jd P fn (fun r' h'=>r'=r/\h'=[]) e F h:=r2 [] [x] ⟨rfl,rfl⟩ hle rfl he hr
theorem ZL (k:Nat) {F F':Fr} {t:Nat} {y:Int} (hr:F.Le F') (hx:F.get t=.i (k+1:Nat):=by kernel_rfl) (e:((k+1:Nat):Int)=y:=by exact ob):F.Le ((t,.i y)::F'):=fc (li e) hr hx
theorem Yd {F F':Fr} {t:Nat} {y:Int} (hr:F.Le F') (hx:F.get t=.i 0:=by kernel_rfl) (e:0=y:=by exact ob):F.Le ((t,.i y)::F'):=fc (li e) hr hx
theorem ZM (x:Bool) {p:Prop} (q:p) {F F':Fr} {t:Nat} {y:Bool} (hr:F.Le F') (hx:F.get t=.b x:=by kernel_rfl) (e:p->x=y:=by intro q;simp only [q];rfl):F.Le ((t,.b y)::F'):=fc (lb (e q)) hr hx
theorem ZV {F F':Fr} {h h1 h':List Res} (m:Nat) (hF:F.Le F') (e:h1=h':=by exact rfl) (hp:XU (List.replicate m 0) h=some h1:=by kernel_rfl):Uj F h F' h':=wk (List.replicate m 0) hF e hp
theorem ZJ {α β:Type} {p q:α->β->Prop} {a:α} {b:β} (x:p a b) (y:q a b):∃a b,p a b/\q a b:=⟨a,b,x,y⟩
theorem ZI {α β:Type} {q:α->β->Prop} {m' m:Nat} {r:Nat->α->β->Prop} {a:α} {b:β} (x:r m' a b) (y:q a b) (e:m'<m:=by exact ob):∃m' a b,m'<m/\r m' a b/\q a b:=⟨m',a,b,e,x,y⟩
theorem ZD (m:Nat) {P:Program} {f:FuncId} {fn:Func} {xs:List AV} {h:List Res} {R:AV->List Res->Prop} (hf:P.funcs[f]? = some fn) (ha:Yi P m (CK fn) (Jd P fn R) (JS 0 xs) h) (hb:fn.body.isSome=true:=by kernel_rfl) (hn:fn.ntmps=m:=by kernel_rfl)
  (hle:Nat.ble xs.length m=true:=by kernel_rfl):W3 P f xs h R:=enter hf hb hn hle ha
end Go.Abs
end
namespace Go.Abs
section
variable {P:Program} {n:Nat} {c:Code} {A:Ws} {F:Fr} {h h2:List Res} {ops:Array Oper} {B:Fr->List Res->Prop} {k:Nat}
variable {T:List (Nat × List Nat)} {fuel:Nat} {done:List Nat}
theorem En (t j:Nat) {v:Hd} {xs:LI} (H:Yi P n c A ((t,ZQ xs v.v)::F) (.tail v.v 1::Xq [j] h)) (hF':F.get t=.h v:=by kernel_rfl) (hp:XU [j] h=some [rV v xs]:=by kernel_rfl):Yi P n c A F h:=by
 intro w G a hF hh
 have hp':=Vq (WI hp)
 obtain ⟨G',h1,h2',h3⟩:=Z62 (hh.perm hp') (FJ xs)
 have e:=h2'.perm hp'.symm (T3 _)
 have hF2:=hF.mono (e.agree hh)
 have hv:=hF2.get t
 rw [hF'] at hv
 have hv:=hv.val_inv
 refine wp_mono (H w G' a ⟨hF2.defers,hF2.size,fun s=>?_⟩ h1) fun e' a' w' hc=>hc.trans e
 show RV w G' (match Nat.beq t s with|true=>_|false=>Fr.get F s) _
 cases hb:Nat.beq t s with
 | true=>
  have:=VW hb
  subst this
  rw [hv]
  exact h3
 | false=>exact hF2.get s
end
theorem ro {b:Nat} {ls ls':List AV} {t t':List Res} (h:ls=ls') (e:t=t'):Res.obj b ls::t=.obj b ls'::t':=h▸e▸rfl
section
variable {P:Program} {n:Nat} {F:Fr} {h:List Res} {ops:Array Oper} {B:Fr->List Res->Prop} {k:Nat}
variable {T:List (Nat × List Nat)} {fuel:Nat} {done:List Nat}
end
section
variable {P:Program} {n:Nat} {F:Fr} {h:List Res} {ops:Array Oper} {B:Fr->List Res->Prop} {k:Nat}
variable {T:List (Nat × List Nat)} {fuel:Nat} {done:List Nat}
theorem dK {c:Code} {A:Ws} (K:Fr->List Res->Prop) (H:YJ P n ops (fun F h=>∃F' h',K F' h'/\Uj F h F' h') T fuel done F h) (hB:∀F' h',K F' h'->Yi P n c A F' h') :
  YJ P n ops (fun F h=>Yi P n c A F h) T fuel done F h:=by
 intro Q w G a SL hF hh hQ hcl hcov hk
 exact H Q w G a SL hF hh hQ hcl hcov fun F2 h2 G2 a2 w2 b1 b2 b3 b4=>let ⟨_,_,k1,k2⟩:=b1;hk F2 h2 G2 a2 w2 (AB k2 (hB _ _ k1)) b2 b3 b4
theorem Ky {c:Code} {A:Ws} (K:Fr->List Res->Fr->List Res->Prop) (H:YJ P n ops (fun F1 h1=>∃F' h',K F h F' h'/\Uj F1 h1 F' h') T fuel done F h) (hB:∀F' h',K F h F' h'->Yi P n c A F' h') :
  YJ P n ops (fun F h=>Yi P n c A F h) T fuel done F h:=dK (K F h) H hB
theorem WU (i j:Nat) (Hi:WL P n ops B T fuel done F h i) (Hj:WL P n ops B T fuel done F h j) (hr:Region.ready .any ops (Wf ops done)=[i,j]:=by kernel_rfl):YJ P n ops B T (fuel+1) done F h:=
 HB hr rfl fun q hq=>by
  rcases Yr.1 hq with rfl|hq
  ·exact Hi
  ·rw [Xp.1 hq];exact Hj
end
theorem QM.mono {w:World} {G G':ZY} {v:Value} {k:Nat} {ls:List AV} (hA:V1 G w w G') (h:QM w G v k ls):QM w G' v k ls:=by
 rcases h with ⟨rfl,h0⟩|⟨g,len,cap,cur,el,rfl,h1,h2,h3,h4,h5⟩
 ·exact .inl ⟨rfl,h0⟩
 ·exact .inr ⟨g,len,cap,cur,el,rfl,h1,h2,h3,h4,h5.mono hA⟩
theorem Tu.same {w:World} {G G':ZY} {r:Res} (hA:V1 G w w G') (h:Tu w G r):Tu w G' r:=by
 cases r with
 | obj b ls=>obtain ⟨cs,e,h1,h2⟩:=h;exact ⟨cs,e,h1,h2.mono hA⟩
 | tail v k=>exact h
 | ge s=>exact h
 | vec v ls=>
  rcases h with ⟨rfl,h0⟩|⟨g,cap,cur,el,rfl,h1,h2,h3,h4⟩
  ·exact .inl ⟨rfl,h0⟩
  ·exact .inr ⟨g,cap,cur,el,rfl,h1,h2,h3,h4.mono hA⟩
 | many ts=>exact h
 | own B m=>exact h
 | row v k ls=>exact h.mono hA
theorem Yj.alloc_rrow {w:World} {G:ZY} {h:List Res} (hh:Yj w G h) (cs:Array Value) (t:TypeId) {ls:List AV} {len cap k:Nat} (hcap:len<=cap) (X6:cs.size=cap*k) (hl:ls.length=len*k)
  (hls:Yz w G ls (cs.toList.take (len*k))) :
  Yj (w.alloc (.cells cs t)) G (.row (.slice (some ⟨w.heap.size,0,none⟩) len cap) k ls::h)/\YO w G h (w.alloc (.cells cs t)) G (.row (.slice (some ⟨w.heap.size,0,none⟩) len cap) k ls::h):=by
 have hA:V1 G w (w.alloc (.cells cs t)) G:=⟨fun b j hg=>BD w _ (hh.lt b j hg),fun _ _ h=>h⟩
 refine hh.alloc (.cells cs t) (h':=[.row (.slice (some ⟨w.heap.size,0,none⟩) len cap) k ls]) (fun _ _ h=>h) (fun _ _ h=>.inl h) ?_ ?_ (JL _ _) ?_
 ·intro r hr
  rw [Xp.1 hr]
  exact .inr ⟨_,len,cap,cs,t,rfl,Dd w _,hcap,X6,hl,hls.mono hA⟩
 ·intro r hr b j hf
  rw [Xp.1 hr] at hf
  exact hf
 ·intro r hr b j hf hg
  rw [Xp.1 hr] at hf
  have:=hh.lt b j hg
  have:b=w.heap.size:=hf
  omega
theorem Yj.rwrite {w:World} {G:ZY} {h2:List Res} {g len cap k:Nat} {ls ls':List AV} (hh:Yj w G (.row (.slice (some ⟨g,0,none⟩) len cap) k ls::h2)) {cs cs':Array Value} {e:TypeId}
  (hb:w.heap[g]? = some (.cells cs e (0,0))) (X6:cs'.size=cs.size) (hle:len<=cap) (hcap:cs.size=cap*k) (hl:ls'.length=len*k) (hls:Yz w G ls' (cs'.toList.take (len*k))) :
  Yj (w.setRow g cs') G (.row (.slice (some ⟨g,0,none⟩) len cap) k ls'::h2) /\
   YO w G (.row (.slice (some ⟨g,0,none⟩) len cap) k ls::h2) (w.setRow g cs') G (.row (.slice (some ⟨g,0,none⟩) len cap) k ls'::h2):=by
 have hmem:Res.row (.slice (some ⟨g,0,none⟩) len cap) k ls∈Res.row (.slice (some ⟨g,0,none⟩) len cap) k ls::h2:=YZ ..
 have hA:V1 G w (w.setRow g cs') G:=⟨fun c j hg=>by
  have hne:c≠g:=fun he=>hh.prot _ hmem c j he hg
  simp [World.cell?,WR w g c cs' hne],fun _ _ h=>h⟩
 have hpw:=Wb.1 hh.apart
 have hother:∀r∈h2,∀c j,r.fp c j->c≠g:=fun r hr c j hf hc=>hpw.1 r hr c j hc hf
 have e1:YO w G [.row (.slice (some ⟨g,0,none⟩) len cap) k ls] (w.setRow g cs') G [.row (.slice (some ⟨g,0,none⟩) len cap) k ls']:=by
  refine ⟨rfl,rfl,rfl,by simp [World.setRow],fun _ _ h=>h,?_,fun _ _ _ h=>.inl h,?_⟩
  ·intro c hc
   by_cases hcb:c=g
   ·subst hcb
    exact .inr ⟨cs,cs',e,(0,0),hb,setRow_heap w c cs cs' e (0,0) hb,X6,fun j hj=>absurd ⟨_,YZ ..,rfl⟩ hj⟩
   ·exact .inl (WR w g c cs' hcb)
  ·rintro c j _ ⟨r,hr,hf⟩
   rw [Xp.1 hr] at hf
   exact ⟨_,YZ ..,hf⟩
 have e2:Yj (w.setRow g cs') G [.row (.slice (some ⟨g,0,none⟩) len cap) k ls']:=by
  refine ⟨fun r hr=>?_,JL _ _,fun r hr c j hf hg=>?_,fun c j hg=>?_⟩
  ·rw [Xp.1 hr]
   exact .inr ⟨g,len,cap,cs',e,rfl,setRow_heap w g cs cs' e (0,0) hb,hle,X6.trans hcap,hl,hls.mono hA⟩
  ·rw [Xp.1 hr] at hf
   exact hh.prot _ hmem c j hf hg
  ·have:=hh.lt c j hg
   simpa [World.setRow] using this
 exact Yj.frame (h:=[.row (.slice (some ⟨g,0,none⟩) len cap) k ls]) (k:=h2) hh e1 e2
theorem Z2u {w:World} {G:ZY} {h:List Res} {k:Nat} (hh:Yj w G h):Yj w G (.row (.slice none 0 0) k []::h)/\YO w G h w G (.row (.slice none 0 0) k []::h):=
 ⟨⟨fun r hr=>by
   rcases Yr.1 hr with rfl|hr
   ·exact .inl ⟨rfl,rfl⟩
   ·exact hh.ok r hr,Wb.2 ⟨fun _ _ _ _ hf=>hf.elim,hh.apart⟩,fun r hr b o hf hg=>by
   rcases Yr.1 hr with rfl|hr
   ·exact hf.elim
   ·exact hh.prot r hr b o hf hg,hh.lt⟩,
  ⟨rfl,rfl,rfl,YQ _,fun _ _ h=>h,fun _ _=>.inl rfl,fun _ _ _ h=>.inl h,fun b o _ ⟨r,hr,hf⟩=>by
   rcases Yr.1 hr with rfl|hr
   ·exact hf.elim
   ·exact ⟨r,hr,hf⟩⟩⟩
theorem QM.form {w:World} {G:ZY} {v:Value} {k:Nat} {ls:List AV} (h:QM w G v k ls):∃a len cap,v=.slice a len cap/\ls.length=len*k:=by
 rcases h with ⟨rfl,rfl⟩|⟨g,len,cap,cur,e,rfl,_,_,_,h4,_⟩
 ·exact ⟨none,0,0,rfl,by simp⟩
 ·exact ⟨_,len,cap,rfl,h4⟩
theorem Bf {w:World} {G:ZY} {v:Value} {k:Nat} {es:List AV} {h2:List Res} (hh:Yj w G (.row v k (Zc es)::h2)) (hes:∀y∈es,y.leaves.length=k) (hk:0<k) :
  ∃G',Yj w G' (.tail v k::h2)/\YO w G (.row v k (Zc es)::h2) w G' (.tail v k::h2)/\RV w G' (.sl es (some v)) v:=by
 have hpw:=Wb.1 hh.apart
 have hfl:=Ur es hes
 rcases hh.ok _ (YZ ..) with ⟨rfl,h0⟩|⟨g,len,cap,cur,e,rfl,h1,h3,h4,h5,h6⟩
 ·have hes0:es=[]:=by
   cases es with
   | nil=>rfl
   | cons y r=>
    have h7:0<(r.length+1)*k:=Nat.mul_pos om hk
    rw [h0,YD] at hfl
    rw [<-hfl] at h7
    simp at h7
  subst hes0
  obtain ⟨k1,k2⟩:=GH (sz:=k) (hh.sub (JM _ _))
  refine ⟨G,k1,⟨rfl,rfl,rfl,YQ _,fun _ _ h=>h,fun _ _=>.inl rfl,fun _ _ _ h=>.inl h,?_⟩,.nil (by simp)⟩
  rintro b o _ ⟨r,hr,hf⟩
  rcases Yr.1 hr with rfl|hr
  ·exact hf.elim
  ·exact ⟨r,Xr _ hr,hf⟩
 ·have hlen:len=es.length:=Ee hk (h5.symm.trans hfl)
  subst hlen
  let G':ZY:=fun b o=>G b o∨(b=g/\o<es.length*k)
  have hA:V1 G w w G':=⟨fun _ _ _=>rfl,fun _ _ h=>.inl h⟩
  have hmem:Res.row (.slice (some ⟨g,0,none⟩) es.length cap) k (Zc es)∈Res.row (.slice (some ⟨g,0,none⟩) es.length cap) k (Zc es)::h2:=YZ ..
  refine ⟨G',⟨fun r hr=>?_,Wb.2 ⟨fun r hr b o f1 f2=>hpw.1 r hr b o f1.1 f2,hpw.2⟩,fun r hr b o hf hg=>?_,fun b o hg=>?_⟩,
   ⟨rfl,rfl,rfl,YQ _,fun _ _ h=>.inl h,fun _ _=>.inl rfl,fun b o _ hg=>hg.imp id fun ⟨e1,_⟩=>⟨_,hmem,e1⟩,?_⟩,?_⟩
  ·rcases Yr.1 hr with rfl|hr
   ·exact .inr ⟨g,es.length,cap,cur,e,rfl,h1,h3,h4⟩
   ·exact (hh.ok r (Xr _ hr)).same hA
  ·rcases Yr.1 hr with rfl|hr2
   ·obtain ⟨hbg,hf2⟩:=hf
    rcases hg with hg|⟨_,hg⟩
    ·exact hh.prot _ hmem b o hbg hg
    ·omega
   ·rcases hg with hg|⟨hbg,_⟩
    ·exact hh.prot r (Xr _ hr2) b o hf hg
    ·exact hpw.1 r hr2 b o hbg hf
  ·rcases hg with hg|⟨rfl,_⟩
   ·exact hh.lt b o hg
   ·exact (Vs.1 h1).1
  ·rintro b o _ ⟨r,hr,hf⟩
   rcases Yr.1 hr with rfl|hr
   ·exact ⟨_,hmem,hf.1⟩
   ·exact ⟨r,Xr _ hr,hf⟩
  ·refine .sl (k:=k) (fun x hx=>by cases hx;rfl) h3 (Wy.of_flat es hes (XY.of_cells (h6.mono hA) fun j u hj=>?_))
   have hjl:j<es.length*k:=by
    have:=(XA.1 hj).1
    have h7:=h6.length
    omega
   rw [T5,Zw hjl] at hj
   refine ⟨?_,.inr ⟨rfl,by omega⟩⟩
   rw [Wv,cell_of_row w g j cur e (0,0) h1]
   simpa using hj
section
variable {P:Program} {n:Nat} {ops:Array Oper} {B:Fr->List Res->Prop} {k:Nat} {F:Fr} {h h2:List Res}
theorem Z5f {k:Nat}:UK h (.row (.slice none 0 0) k []::h):=fun _ _ hh=>let ⟨a,b⟩:=Z2u hh;⟨_,a,b⟩
theorem Z52 (j:Nat) {v:Value} {kk m:Nat} {ls:List AV} (hl:B6 P ops F k=some (.val v)) (hj:h[j]? = some (.row v kk ls)) (hm:ls.length=m*kk) (hk:0<kk):XP P (ZB ops k) F h [] (.val (.int .i64 m)):=by
 unfold B6 at hl
 generalize hoo:ZB ops k=o at hl
 obtain ⟨dst,op,type,pos,after,guard⟩:=o
 cases op<;>simp only at hl<;>try (cases hl)
 rename_i c
 obtain ⟨callee,args,tys⟩:=c
 simp only at hl
 split at hl
 ·rename_i x t hargs htys
  split at hl
  ·rename_i el hu
   simp only [XQ] at hl
   intro n w G a hF hh
   have hv:=hF.ev x
   rw [hl] at hv
   have hv:=hv.val_inv
   obtain ⟨ad,len,cap,rfl,hlen⟩:=QM.form (hh.ok _ (ZW hj))
   have:len=m:=Ee hk (hlen.symm.trans hm)
   subst this
   have e1:args=#[x]:=by rw [<-Ue (xs:=args),hargs]
   have e2:tys=#[t]:=by rw [<-Ue (xs:=tys),htys]
   subst e1;subst e2
   exact ⟨_,.val,fun w' _ _=>by simp [execOp,resolve,invoke,builtin,hv,Builtin.len_,VJ hu,goInt]⟩
  ·cases hl
 ·cases hl
def FP (ops:Array Oper) (F:Fr) (k:Nat):Option (TypeId × AV):=
 match (ZB ops k).op with
 | .load t x=>some (t,F.ev x)
 | _=>none
theorem Z53 (j:Nat) {g len cap kk o:Nat} {ls zs:List AV} {t:TypeId} {y:AV} (hl:FP ops F k=some (t,.val (.pointer (some ⟨g,o,none⟩)))) (hj:h[j]? = some (.row (.slice (some ⟨g,0,none⟩) len cap) kk ls))
  (hz:(ls.drop o).take zs.length=zs) (hy:KV P t zs=some y):XP P (ZB ops k) F h [g] y:=by
 unfold FP at hl
 generalize hoo:ZB ops k=q at hl
 obtain ⟨dst,op,type,pos,after,guard⟩:=q
 cases op<;>simp only at hl<;>try (cases hl)
 rename_i t' x
 intro n w G a hF hh
 simp only [XQ,Prod.mk.injEq] at hl
 obtain ⟨rfl,hl⟩:=hl
 have hv:=hF.ev x
 rw [hl] at hv
 have hv:=hv.val_inv
 rcases hh.ok _ (ZW hj) with ⟨h0,_⟩|⟨g',len',cap',cur,e,h0,h1,h2,h3,h4,h5⟩
 ·cases h0
 ·cases h0
  have hc:=(h5.drop o).take zs.length
  rw [hz] at hc
  obtain ⟨v,j1,j2⟩:=DO (P:=P) (b:=g) (o:=o) hy hc
  refine ⟨v,j1,fun w' _ hw=>?_⟩
  have hrow:=hw g (by simp)
  rw [h1] at hrow
  simp only [execOp,hv]
  refine WY ?_
  simp only [Instr.loadAt,Instr.sureAddr,Sem.run_bind,Sem.run_pure,Result.andThen_ok]
  refine j2 w' fun j u hj=>?_
  rw [cell_of_row w' g (o+j) cur e (0,0) hrow]
  rw [T5] at hj
  split at hj
  ·rw [Aw,T5] at hj
   split at hj
   ·simpa using hj
   ·cases hj
  ·cases hj
theorem LE {K:Fr->List Res->Prop} {g len cap kk:Nat} {ls xs:List AV} {i:Nat} (hs:storeAt P ops F k=some (g,i,xs)) (hlt:i+xs.length<=ls.length)
  (hK:K F (.row (.slice (some ⟨g,0,none⟩) len cap) kk (ls.take i++xs++ls.drop (i+xs.length))::h2)):Wc P n (ZB ops k) F (.row (.slice (some ⟨g,0,none⟩) len cap) kk ls::h2) K:=by
 unfold storeAt at hs
 generalize hoo:ZB ops k=q at hs
 obtain ⟨dst,op,type,pos,after,guard⟩:=q
 cases op<;>simp only at hs<;>try (cases hs)
 rename_i t x z
 split at hs
 ·rename_i b' o' inf hx hi
  split at hs
  ·rename_i hc
   simp only [Wn] at hc
   simp only [XQ,Prod.mk.injEq] at hs
   obtain ⟨rfl,rfl,hz⟩:=hs
   intro Q w G a hF hh
   have hvx:=hF.ev x
   rw [hx] at hvx
   have hvx:=hvx.val_inv
   have hvy:=hF.ev z
   have hcs:=hvy.cells hc.2.1
   rw [hz] at hcs hc
   have hone:=hcs.one_cells hc.2.2
   have X6:inf.size=xs.length:=VW hc.1
   have hlen:(a.eval z).cells.size=xs.length:=by have:=hcs.length;simpa using this
   rcases hh.ok (.row (.slice (some ⟨b',0,none⟩) len cap) kk ls) (YZ ..) with ⟨h0,_⟩|⟨g',len',cap',cur,e,h0,h1,h2',h3,h4,h5⟩
   ·cases h0
   ·cases h0
    have hlc:len*kk<=cap*kk:=Tt _ h2'
    have hst:=run_storeCells_at P b' o' e (a.eval z).cells.toList 0 cur w h1 (by simp [hlen];omega) hone
    simp only [JN,Qs] at hst
    have hr:(execOp a.eval { dst:=none,op:=.store t x z,type:=type,pos:=pos,after:=after,guard:=guard }).run P w =
      .ok .skip (w.setRow b' (cur.toList.take o'++(a.eval z).cells.toList++cur.toList.drop (o'+(a.eval z).cells.size)).toArray):=by
     simp only [execOp,hvx]
     simp [Instr.storeAt,Instr.sureAddr,storeVar,Tl hi,hlen,X6,hst]
    unfold Oper.wp
    rw [hr]
    have hcl:(a.eval z).cells.toList.length=xs.length:=by simpa using hlen
    obtain ⟨j1,j2⟩:=hh.rwrite (ls':=ls.take o'++xs++ls.drop (o'+xs.length)) (cs':=(cur.toList.take o'++(a.eval z).cells.toList++cur.toList.drop (o'+(a.eval z).cells.size)).toArray) h1
     (by simp [hlen];omega) h2' h3 (by simp;omega) (by
      rw [Bt,hlen]
      have e1:(cur.toList.take o'++(a.eval z).cells.toList++cur.toList.drop (o'+xs.length)).take (len*kk) =
        (cur.toList.take (len*kk)).take o'++(a.eval z).cells.toList++(cur.toList.take (len*kk)).drop (o'+xs.length):=by
       have q1:(cur.toList.take o'++(a.eval z).cells.toList).length=o'+xs.length:=by simp [hlen];omega
       rw [List.take_append,q1,WT om,List.take_take,Vb om,List.drop_take]
      rw [e1]
      exact ((h5.take o').append hcs).append (h5.drop _))
    refine ⟨F,_,G,hK,?_,j1,j2⟩
    have:=hF.mono (j2.agree hh)
    simpa [Act.put] using this
  ·cases hs
 ·cases hs
theorem Z1u {K:Fr->List Res->Prop} {sz:Nat} (hd:WV n (ZB ops k)=true) (ha:Um P ops F k=some ([],0,sz))
  (hK:∀g,K (F.put (ZB ops k).dst (.val (.slice (some ⟨g,0,none⟩) 0 0))) (.row (.slice (some ⟨g,0,none⟩) 0 0) sz []::h)):Wc P n (ZB ops k) F h K:=by
 unfold Um at ha
 generalize hoo:ZB ops k=q at ha hd hK
 obtain ⟨dst,op,type,pos,after,guard⟩:=q
 cases op<;>simp only at ha<;>try (cases ha)
 rename_i t ln parts
 split at ha
 case h_2=>cases ha
 rename_i e ht
 split at ha
 case h_2=>cases ha
 rename_i i hi
 split at ha
 case h_2=>cases ha
 rename_i hc
 simp only [Wn] at hc
 split at ha
 case h_2=>cases ha
 rename_i ls' hf
 simp only [XQ,Prod.mk.injEq] at ha
 obtain ⟨rfl,rfl,X6⟩:=ha
 intro Q w G a hF hh
 obtain ⟨cs,h1,h2⟩:=DN hF parts ht hi rfl hc.1 hc.2 hf
 have hr:(execOp a.eval { dst:=dst,op:=.buildSlice t 0 parts,type:=type,pos:=pos,after:=after,guard:=guard }).run P w =
   .ok (.value (.slice (some ⟨w.heap.size,0,none⟩) 0 0)) (w.alloc (.cells cs e)):=by
  simp only [execOp]
  exact WY h2
 unfold Oper.wp
 rw [hr]
 have hlc:=h1.length
 simp only [Qs] at hlc
 obtain ⟨j1,j2⟩:=hh.alloc_rrow cs e (ls:=[]) (len:=0) (cap:=0) (k:=sz) (YQ _) (by simpa using hlc) (by simp) (by simpa using Yz.nil)
 exact ⟨_,_,G,hK _,(hF.mono (j2.agree hh)).put (Ux hd) .val,j1,j2⟩
theorem Z1s {K:Fr->List Res->Prop} {g sz:Nat} {xs:List AV} {hx:Option Value} (hd:WV n (ZB ops k)=true) (ha:VB P ops F k=some (.val (.slice (some ⟨g,0,none⟩) 0 0),.sl xs hx,sz))
  (hxs:∀y∈xs,y.leaves.length=sz) (hbound:xs.length<=4294967296)
  (hK:∀v:Hd,K (F.put (ZB ops k).dst (.val v.v)) (.row v.v sz (Zc xs)::h2)):Wc P n (ZB ops k) F (.row (.slice (some ⟨g,0,none⟩) 0 0) sz []::h2) K:=by
 unfold VB at ha
 generalize hoo:ZB ops k=o at ha hd hK
 obtain ⟨dst,op,type,pos,after,guard⟩:=o
 cases op<;>simp only at ha<;>try (cases ha)
 rename_i c
 obtain ⟨callee,args,tys⟩:=c
 simp only at ha
 split at ha
 case h_2=>cases ha
 rename_i s x t t' hargs htys
 split at ha
 case h_2=>cases ha
 rename_i e htt ht
 have:=VW htt
 subst this
 split at ha
 case h_2=>cases ha
 rename_i i hinfo
 split at ha
 case h_2=>cases ha
 rename_i z hz
 split at ha
 case h_2=>cases ha
 rename_i hb
 simp only [Wn] at hb
 simp only [XQ,Prod.mk.injEq] at ha
 obtain ⟨h3,h4,hk1⟩:=ha
 have e1:args=#[s,x]:=by rw [<-Ue (xs:=args),hargs]
 have e2:tys=#[t,t]:=by rw [<-Ue (xs:=tys),htys]
 subst e1;subst e2
 have hzs:z.cells.size=sz:=by rw [VW hb.1,hk1]
 have hby:=Wx hb.2
 intro Q w G a hF hh
 have v1:=hF.ev s
 have v2:=hF.ev x
 rw [h3] at v1
 rw [h4] at v2
 have v1:=v1.val_inv
 have v2:=v2.forget
 have finish:∀(v':Hd) w',(Builtin.append_ #[t,t] type #[.slice (some ⟨g,0,none⟩) 0 0,a.eval x]).run P w=.ok v'.v w'->Yj w' G (.row v'.v sz (Zc xs)::h2) ->
   YO w G (.row (.slice (some ⟨g,0,none⟩) 0 0) sz []::h2) w' G (.row v'.v sz (Zc xs)::h2) ->
   ({ dst:=dst,op:=.call { callee:=.builtin .append,args:=#[s,x],argTypes:=#[t,t] },type:=type,pos:=pos,after:=after,guard:=guard }:Oper).wp P a w
    (fun a' w'=>∃F' h' G',K F' h'/\FR w' G' n F' a'/\Yj w' G' h'/\YO w G (.row (.slice (some ⟨g,0,none⟩) 0 0) sz []::h2) w' G' h') Q:=by
  intro v' w' hr j1 j2
  have hrun:(execOp a.eval { dst:=dst,op:=.call { callee:=.builtin .append,args:=#[s,x],argTypes:=#[t,t] },type:=type,pos:=pos,after:=after,guard:=guard }).run P w=.ok (.value v'.v) w':=by
   simp only [execOp,resolve,invoke,builtin,Sem.run_bind,Sem.run_pure,Result.andThen_ok,Cz,Uf,Cy,v1,hr]
  unfold Oper.wp
  rw [hrun]
  exact ⟨_,_,G,hK v',(hF.mono (j2.agree hh)).put (Ux hd) .val,j1,j2⟩
 by_cases hxe:xs=[]
 ·subst hxe
  cases v2q:a.eval x with
  | slice ad' l' c'=>
   rw [v2q] at v2
   cases v2<;>exact finish ⟨some ⟨g,0,none⟩,0,0⟩ _ (by rw [v2q];exact Bg ht hinfo (YQ _) w) hh (YO.refl w G _)
  | _=>rw [v2q] at v2;cases v2
 ·generalize hax:a.eval x=ax at v2 finish
  cases v2 with
  | nil _=>exact absurd rfl hxe
  | sl hq hcc hm=>
   rename_i b o' k' c
   have hpos:0<xs.length:=Ed.2 hxe
   have hfm:=hm.flat_mem
   obtain ⟨news,hn,hnc⟩:=hfm.cells
   have hfl:=Ur xs hxs
   have hnl:news.length=xs.length*i.size:=by rw [hn.length,hfl,hk1]
   have hnews:∀j u,news[j]? = some u->w.cell? ((⟨b,o',none⟩:Addr).add j)=some u:=fun j u hj=>by rw [Qa];exact (hnc j u hj).1
   have hbb:(0+xs.length)*i.bytes<=140737488355328:=by
    have:=Nat.mul_le_mul hbound hby
    rw [Wv]
    omega
   have hr:=run_append_grow (P:=P) w t type e i z ht hinfo hz ⟨g,0,none⟩ 0 0 [] (by simp) (fun j u hj=>by simp at hj) ⟨b,o',none⟩ xs.length c news hnl hnews om om (growslice_fits om hbb)
   simp only [Wv] at hr
   have X2:=grownCap_ge w xs.length 0 e
   obtain ⟨j1,j2⟩:=hh.drew.alloc_rrow ([].toArray++news.toArray++Builtin.zeroCells z.cells (grownCap w xs.length 0 e-xs.length)) e
    (ls:=Zc xs) (len:=xs.length) (cap:=grownCap w xs.length 0 e) (k:=sz) X2
    (by
     have q2:(grownCap w xs.length 0 e-xs.length)*sz=grownCap w xs.length 0 e*sz-xs.length*sz:=Nat.sub_mul ..
     have q3:xs.length*sz<=grownCap w xs.length 0 e*sz:=Tt _ X2
     simp only [Array.size_append,Bs,size_zeroCells,hzs,X8,Wv,hnl,hk1]
     omega) hfl
    (by
     have q1:([].toArray++news.toArray++Builtin.zeroCells z.cells (grownCap w xs.length 0 e-xs.length)).toList.take (xs.length*sz)=news:=by
      simp only [Ea,Kj]
      rw [<-hk1,<-hnl]
      exact Kl
     rw [q1]
     exact hn.mono (Jg w G))
   have hs:List.Sublist (.row (.slice (some ⟨w.drew.heap.size,0,none⟩) xs.length (grownCap w xs.length 0 e)) sz (Zc xs)::h2)
     (.row (.slice (some ⟨w.drew.heap.size,0,none⟩) xs.length (grownCap w xs.length 0 e)) sz (Zc xs)::.row (.slice (some ⟨g,0,none⟩) 0 0) sz []::h2):=List.Sublist.cons_cons _ (JM _ _)
   exact finish ⟨some ⟨w.heap.size,0,none⟩,xs.length,grownCap w xs.length 0 e⟩ _ hr (j1.sub hs) ((YO.drew w G _).trans (j2.sub' hs))
theorem Mf {w:World} {G:ZY} {v:Hd} {kk m:Nat} {ls:List AV} (h:QM w G v.v kk ls) (hm:ls.length=m*kk) (hk:0<kk) (h0:0<m):∃g c,v=⟨some ⟨g,0,none⟩,m,c⟩:=by
 obtain ⟨a,l,c⟩:=v
 rcases h with ⟨h1,h2⟩|⟨g,len,cap,cur,e,h1,h2,h3,h4,h5,h6⟩
 ·subst h2
  have:=Nat.mul_pos h0 hk
  rw [X8] at hm
  omega
 ·cases h1
  have:l=m:=Ee hk (h5.symm.trans hm)
  subst this
  exact ⟨g,c,rfl⟩
theorem NV (t j:Nat) {v:Hd} {kk:Nat} {es:List AV} {c:Code} {A:Ws} (hF':F.get t=.h v) (hp:XU [j] h=some [.row v.v kk (Zc es)]) (hes:∀y∈es,y.leaves.length=kk) (hk:0<kk)
  (H:Yi P n c A ((t,.sl es (some v.v))::F) (.tail v.v kk::Xq [j] h)):Yi P n c A F h:=by
 intro w G a hF hh
 have hp':=Vq (WI hp)
 obtain ⟨G',h1,h2',h3⟩:=Bf (hh.perm hp') hes hk
 have e:=h2'.perm hp'.symm (T3 _)
 have hF2:=hF.mono (e.agree hh)
 have hv:=hF2.get t
 rw [hF'] at hv
 have hv:=hv.val_inv
 refine wp_mono (H w G' a ⟨hF2.defers,hF2.size,fun s=>?_⟩ h1) fun e' a' w' hc=>hc.trans e
 show RV w G' (match Nat.beq t s with|true=>_|false=>Fr.get F s) _
 cases hb:Nat.beq t s with
 | true=>
  have:=VW hb
  subst this
  rw [hv]
  exact h3
 | false=>exact hF2.get s
theorem Z5e (j i p:Nat) {u v:Value} {kk kv:Nat} {es ls:List AV} (hp:XU [j,i] h=some [.row u kk (Zc es),.row v kv ls]) (hes:∀y∈es,y.leaves.length=kk) (hk:0<kk) (hl:ls[p]? = some (.val u)) :
  UK h (.row v kv (ls.set p (.sl es (some u)))::.tail u kk::Xq [j,i] h):=by
 intro w G hh
 have hp':=Vq (WI hp)
 have hh':=hh.perm hp'
 obtain ⟨G',h1,h2',h3⟩:=Bf (h2:=.row v kv ls::Xq [j,i] h) hh' hes hk
 have e:=h2'.perm hp'.symm (T3 _)
 have h1:Yj w G' (.tail u kk::.row v kv ls::Xq [j,i] h):=h1
 have perm:(Res.tail u kk::.row v kv ls::Xq [j,i] h).Perm (.row v kv ls::.tail u kk::Xq [j,i] h):=List.Perm.swap ..
 have h4:=h1.perm perm
 have e4:=e.perm (T3 _) perm
 have hset:∀{w:World} {G:ZY},RV w G (.sl es (some u)) u->QM w G v kv ls->QM w G v kv (ls.set p (.sl es (some u))):=by
  intro w G hu hr
  rcases hr with ⟨rfl,h0⟩|⟨g,len,cap,cur,el,rfl,k1,k2,k3,k4,k5⟩
  ·exact .inl ⟨rfl,by rw [h0];rfl⟩
  ·refine .inr ⟨g,len,cap,cur,el,rfl,k1,k2,k3,by rw [Uu];exact k4,?_⟩
   obtain ⟨c,c1,c2⟩:=k5.get p _ hl
   have:=c2.val_inv
   subst this
   have h6:=k5.set p hu
   rwa [show (cur.toList.take (len*kv)).set p c=cur.toList.take (len*kv) from by
    apply List.ext_getElem?
    intro q
    rw [List.getElem?_set]
    split
    ·rename_i hq;subst hq;split
     ·exact c1.symm
     ·rename_i hq2;rw [GU om]
    ·rfl] at h6
 refine ⟨G',⟨fun r hr=>?_,?_,fun r hr=>?_,h4.lt⟩,⟨e4.os,e4.tape,e4.output,e4.size,e4.sub,e4.same,e4.newG,fun b o hb ⟨r,hr,hf⟩=>e4.newfp b o hb ?_⟩⟩
 ·rcases Yr.1 hr with rfl|hr
  ·exact hset h3 (h4.ok _ (YZ ..))
  ·exact h4.ok r (Xr _ hr)
 ·have:=Wb.1 h4.apart
  refine Wb.2 ⟨fun r hr b o f1 f2=>this.1 r hr b o ?_ f2,this.2⟩
  cases v with
  | slice a _ _=>cases a with
   | none=>exact f1.elim
   | some a=>exact f1
  | _=>exact f1.elim
 ·rcases Yr.1 hr with rfl|hr
  ·intro b o f1 hg
   refine h4.prot (.row v kv ls) (YZ ..) b o ?_ hg
   cases v with
   | slice a _ _=>cases a with
    | none=>exact f1.elim
    | some a=>exact f1
   | _=>exact f1.elim
  ·exact h4.prot r (Xr _ hr)
 ·rcases Yr.1 hr with rfl|hr
  ·refine ⟨.row v kv ls,YZ ..,?_⟩
   cases v with
   | slice a _ _=>cases a with
    | none=>exact hf.elim
    | some a=>exact hf
   | _=>exact hf.elim
  ·exact ⟨r,Xr _ hr,hf⟩
end
end Go.Abs
section
namespace Go.Abs
structure NG where
 fields:LI
 fv:Value
structure NH where
 frm:Int
 to_:Int
 cons:List NG
 cv:Value
mutual
inductive Ei where
 | mk (op num into:Int) (args:LI) (av:Value) (kids:List CD) (kv:Value)
inductive CD where
 | mk (steps:List Ei) (sv:Value) (result:Int)
end
namespace Ei
end Ei
namespace CD
end CD
structure NJ where
 params:LI
 pv:Value
 lent:LI
 lv:Value
 result:Int
 body:CD
structure NI where
 decls:List NH
 dv:Value
 routines:List NJ
 rv:Value
inductive Eg:List AV->List AV->Prop
 | nil:Eg [] []
 | cons {x y:AV} {xs ys:List AV} (hl:x.leaves.length=y.leaves.length) (h:V2 x.leaves y.leaves) (t:Eg xs ys):Eg (x::xs) (y::ys)
theorem Ti {es:List AV} {k:Nat} (h:es.all (fun y=>Nat.beq y.leaves.length k)=true):∀y∈es,y.leaves.length=k:=fun y hy=>VW (Kh.1 h y hy)
abbrev rK (g:Hd) (k:Nat) (ls:List AV):Res:=.row g.v k ls
section
variable {P:Program} {n:Nat} {c:Code} {A:Ws} {F:Fr} {h:List Res} {ops:Array Oper} {B:Fr->List Res->Prop} {k:Nat}
variable {T:List (Nat × List Nat)} {fuel:Nat} {done:List Nat}
theorem rr {v:Value} {q:Nat} {ls ls':List AV} {t t':List Res} (h:ls=ls') (e:t=t'):Res.row v q ls::t=.row v q ls'::t':=h▸e▸rfl
theorem Z0a (j m:Nat) (v:Hd) (kk:Nat) (ls:List AV) (hm:ls.length=m*kk) (hk:0<kk:=by omega) (hl:B6 P ops F k=some (.h v):=by kernel_rfl) (hj:h[j]? = some (rK v kk ls):=by kernel_rfl):XP P (ZB ops k) F h [] (.i m):=
 Z52 j hl hj hm hk
theorem XS (b l c' q sz:Nat) (j:Int) (hq:j=(q:Int)/\q<l:=by omega) (hi:Jt P ops F k=some (.val (.slice (some ⟨b,0,none⟩) l c'),j,sz):=by kernel_rfl):XP P (ZB ops k) F h [] (.val (.pointer (some ⟨b,q*sz,none⟩))):=by
 have:=N0 (P:=P) (F:=F) (h:=h) hi om om
 rw [hq.1,VV,Wv] at this
 exact this
theorem WD (j g len cap kk o:Nat) (ls zs:List AV) (t:TypeId) (y:AV) (hz:(ls.drop o).take zs.length=zs) (hl:FP ops F k=some (t,.val (.pointer (some ⟨g,o,none⟩))):=by kernel_rfl) (hj:h[j]? = some (.row (.slice (some ⟨g,0,none⟩) len cap) kk ls):=by kernel_rfl)
  (hy:KV P t zs=some y:=by kernel_rfl):XP P (ZB ops k) F h [g] y:=Z53 j hl hj hz hy
theorem BU (j g len cap kk o:Nat) (xs ls:List AV) (ls':List AV) (hlt:o+xs.length<=ls.length) (he:ls.take o++xs++ls.drop (o+xs.length)=ls') (H:SI P n ops B (k+1) F (.row (.slice (some ⟨g,0,none⟩) len cap) kk ls'::Xq [j] h)) (hk:YY n ops F k=true:=by kernel_rfl)
  (hs:storeAt P ops F k=some (g,o,xs):=by kernel_rfl) (hp:XU [j] h=some [.row (.slice (some ⟨g,0,none⟩) len cap) kk ls]:=by kernel_rfl):SI P n ops B k F h:=
 Tf hk (Wc.perm (Vq (WI hp)) (LE hs hlt (by rw [he];exact H)))
theorem JW (i j:Nat) (js bs:List Nat) (g len cap kk o:Nat) (xs ls:List AV) (ls':List AV) (hlt:o+xs.length<=ls.length) (he:ls.take o++xs++ls.drop (o+xs.length)=ls')
  (H:YJ P n ops B (T.filter fun t=>!Wt ops i t.1) fuel (done++[i]) F (.row (.slice (some ⟨g,0,none⟩) len cap) kk ls'::Xq [j] h)) (hk:YY n ops F i=true:=by kernel_rfl)
  (hs:storeAt P ops F i=some (g,o,xs):=by kernel_rfl) (hp:XU [j] h=some [.row (.slice (some ⟨g,0,none⟩) len cap) kk ls]:=by kernel_rfl) (ho:Vf ops i T=bs:=by kernel_rfl)
  (hj:js.map (fun q=>(Wa (Xq [j] h))[q]?)=bs.map some:=by kernel_rfl):WL P n ops B T fuel done F h i:=
 Qf [j] js bs hk (WI hp) ho hj (LE (h2:=[]) hs hlt (by rw [he];exact H))
theorem Di (sz:Nat) (hK:∀g,SI P n ops B (k+1) (F.put (ZB ops k).dst (.val (.slice (some ⟨g,0,none⟩) 0 0))) (.row (.slice (some ⟨g,0,none⟩) 0 0) sz []::h)) (hk:YY n ops F k=true:=by kernel_rfl)
  (ha:Um P ops F k=some ([],0,sz):=by kernel_rfl):SI P n ops B k F h:=Tf hk (Z1u (Vo hk).2.1 ha hK)
theorem Sx (j g sz:Nat) (xs:List AV) (hx:Option Value) (hxs:∀y∈xs,y.leaves.length=sz) (hbound:xs.length<=4294967296) (hK:∀v:Hd,SI P n ops B (k+1) (F.put (ZB ops k).dst (.h v)) (rK v sz (Zc xs)::Xq [j] h))
  (hk:YY n ops F k=true:=by kernel_rfl) (ha:VB P ops F k=some (.val (.slice (some ⟨g,0,none⟩) 0 0),.sl xs hx,sz):=by kernel_rfl) (hp:XU [j] h=some [.row (.slice (some ⟨g,0,none⟩) 0 0) sz []]:=by kernel_rfl):SI P n ops B k F h:=
 Tf hk (Wc.perm (Vq (WI hp)) (Z1s (Vo hk).2.1 ha hxs hbound hK))
theorem Z09 (t j:Nat) {v:Hd} {kk:Nat} (es:List AV) (hes:∀y∈es,y.leaves.length=kk) (H:Yi P n c A ((t,.sl es (some v.v))::F) (.tail v.v kk::Xq [j] h)) (hk:0<kk:=by omega) (hF':F.get t=.h v:=by kernel_rfl)
  (hp:XU [j] h=some [rK v kk (Zc es)]:=by kernel_rfl):Yi P n c A F h:=NV t j hF' hp hes hk H
theorem Gd {A xs ys B:List AV} {o:Nat} (hA:A.length=o) (hl:xs.length=ys.length):(A++(xs++B)).take o++ys++(A++(xs++B)).drop (o+ys.length)=A++(ys++B):=by
 subst hA
 rw [Kl,<-hl,<-List.drop_drop,List.drop_left,List.drop_left,VN]
theorem Z2s {A xs B:List AV} {o:Nat} (hA:A.length=o):((A++(xs++B)).drop o).take xs.length=xs:=by
 subst hA
 rw [List.drop_left,Kl]
theorem Tc (xs ys:List AV):Zc (xs++ys)=Zc xs++Zc ys:=by simp [Zc]
theorem R6:Zc []=[]:=rfl
theorem GF (j:Nat) (v:Value) (q:Nat) (ls ls':List AV) (e:ls=ls') (hp:XU [j] h=some [.row v q ls]:=by kernel_rfl):UK h (.row v q ls'::Xq [j] h):=by
 subst e
 intro w G hh
 have hp':=Vq (WI hp)
 exact ⟨G,hh.perm hp',(YO.refl w G h).perm (T3 _) hp'⟩
end
end Go.Abs
end
